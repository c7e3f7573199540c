/- Part of a proof. -/
import Derived.Test.YtoahcpkibpomcaaGreatGRVal5v
set_option linter.all false
set_option maxHeartbeats 4000000
set_option maxRecDepth 100000
namespace Go.Proofs.YtoahcpkibpomcaaGreat
open Go.RowKit
variable {W W2 w w' w0 w1 w2 w3 w9 wx:World}{K:MKC}{d gv u vv:Value}{X:Nat->Prop}{f1 g g3 i j k r2 tb what x:Nat}{M:MS}{c:Array Bool}{xs:List Int}{o:IOp}{l:List BT}{r':Row}{rs:List Row}{bt bt':BT}{oi:Oper}
theorem rec_idle (p:Addr)(w:World):
 CallsD Tryz.prog 149 #[.pointer (some p)] .returning w fun e u' w'=>e=.returned (.tuple #[])/\u'=.returning/\w=w':=by
 refine callsD_of_wpS Tryz.func149 rfl fun c₀ cs hu=>?_
 apply wpS_seq;apply wpS_region;simp[wpOpsS,go_sem,recoverD,hu,Tryz.ntmps149,Exit.thenS];apply wpS_seq;apply wpS_seq;apply wpS_region;simp[wpOpsS,go_sem,recoverD,hu,Tryz.ntmps149,Exit.thenS];refine wpS_cond (t:=true) (by simp[Act.eval,Array.replicate]) ?_;simp only[if_true];refine wpS_of_wp (wp_ret ?_);cases c₀
 simp_all [Exit.thenS,bodyPostS,results,Tryz.results149]
theorem kA (v:Value)(w:World):(Instr.typeAssert (.iface 213 v) 20 213 true).run Tryz.prog w=.ok (.tuple #[v,.bool true]) w:=by kernel_rfl
theorem pi{K:MK}{m:Mach}{ov:Value}(h:MachAt w K m ov){b12 b13 d:Nat}(u:Q w b13 #[Y K.pm] 208)(x:Q w b12 #[U 0,L,I 0,U 0,.string {data:=#[]},I 0,I 0] 57)
 (o:A w d 0 (.func (.func 148) #[] #[Y b13,Y b12])) (k i:Nat) (j:List PanicEntry):
 CallsD Tryz.prog 149 #[Y d] (.panicking (oE k i::j)) w fun e u' w'=>
  e=.returned (.tuple #[])/\u'=.panicking ({oE k i with recovered:=true }::j)/\Q w' b12 (yV 0 ov k i (y9 m.ram) m.inputs m.polls) 57/\w.grownBy w' (some b12):=by
 refine callsD_of_wpS Tryz.func149 rfl fun c₀ cs g=>?_
 unfold oE at g ⊢;apply wpS_seq;apply wpS_region;simp[wpOpsS,go_sem,recoverD,g,Tryz.ntmps149,Exit.thenS];apply wpS_seq;apply wpS_seq;apply wpS_region;simp[wpOpsS,go_sem,recoverD,g,Tryz.ntmps149,Exit.thenS];refine wpS_cond (t:=false) (by simp[Act.eval,Array.replicate]) ?_;simp only[Bool.false_eq_true,if_false];refine wpS_of_wp (wp_skip ?_);simp only[Exit.thenS];refine wpS_of_wp ?_;have a1:=kA (.agg #[I k,U i]);have HH:=Ja h;have HU:=Ja g;have H2:=Ja (Jb u x);clear h g u x
 have e:(#[Value.pointer (some ⟨d,0,none⟩)]++(((((Array.replicate 18 undef).setIfInBounds 3 (Value.iface 213 (.agg #[I k,U i]))).setIfInBounds 0 (Value.iface 213 (.agg #[I k,U i]))).setIfInBounds 4 (Value.iface 213 (.agg #[I k,U i]))).setIfInBounds 5 (Value.bool false)):Array Value)=#[.pointer (some ⟨d,0,none⟩),.iface 213 (.agg #[I k,U i]),undef,undef,.iface 213 (.agg #[I k,U i]),.iface 213 (.agg #[I k,U i]),.bool false,undef,undef,undef,undef,undef,undef,undef,undef,undef,undef,undef,undef]:=by
  simp[Array.replicate,List.replicate]
 rw[e];clear e;have y:=Jw w _ o;have a0:(w.alloc (T #[I k,U i] 213)).cell? ⟨d,0,none⟩=_:=(Oo (w:=w) (Below.heap_alloc _ _ _ y)).trans o;have hM:=HH.out.keep ((Below.refl _ _).alloc (Je _) (T #[I k,U i] 213));have hF:=Ja (pE hM (b12:=b12) (b13:=b13) (zB H2.out.1) (zB H2.out.2) k i 0);clear hM;go_wp2_with (go_at_call 148;go_must (refine hF.out.mono ?_;rintro e w4 ⟨rfl,h5,l⟩))
 have hg:w.grownBy w4 (some b12):=⟨l.os,l.tape,l.output,Jn Zs l.size,fun q hq hn=>(l.block q Zt hn).trans (Below.heap_alloc _ _ _ hq)⟩
 have g:=HU.out;cases c₀;simp only at g;simp[bodyPostS,results,Tryz.results149,h5,hg]
theorem nB(o:Nat)(vs:List Value)(hb:O w W2)(c:X g):Stp X w X (W2.setCells g o vs):=
 ⟨(ze g vs o W2).1.trans hb.os,(ze g vs o W2).2.1.trans hb.tape,(ze g vs o W2).2.2.trans hb.output,by rw[y8];exact hb.size,fun _ h=> .inl h,fun k hk hx=>(ye g k (fun e=>hx (by rw[e];exact c)) vs o W2).trans (hb.block k hk)⟩
theorem nt(h:wW w K X M){t:ITerm}(hk:I64 t.kind)(ha:I64 t.a){tv:Value}(hto:vT w (K.av X) tv t.to)(a7:M.cur<M.f.length):
 G 59 #[Y K.pm,.agg #[I t.kind,I t.a,tv]] w (yk K X w (M.endB t) (.tuple #[])):=by
 obtain⟨fv,vv,l,h⟩:=h;obtain⟨b,hb⟩:∃b,M.f[M.cur]? =some b:=⟨_,Jd a7⟩
 obtain⟨q,hq,rfl,d⟩:=h.getB hb;obtain⟨g,c,rfl,b1,a0,b3⟩:=h.fblk hq;obtain⟨ta,tc,rfl,_,_⟩:=hto.form;obtain⟨pa,pc,y,_,_⟩:=d.par.form;obtain⟨oa,oc,m⟩:=zG d.own;obtain⟨ea,ec,a2,_,_⟩:=d.tos.form;have c4:=h.c4;have c5:=h.c5;have u:=z9 yr h.own rfl hq;have e0:A w g (M.cur*5) q.pv:=u 0 _ rfl;have e1:=u 1 _ rfl;have e2:=u 2 _ rfl;have e3:=u 3 _ rfl;have e4:=u 4 _ rfl;have a3:=lt_of_block h.blk;have a9:=h.len;have b4:(M.cur:Int)<(l.length:Int):=Zo;have b5:(0:Int)<=(M.cur:Int):=Zo;have a8:=h.flen;rw[y] at e0;rw[m] at e1;rw[a2] at e4;have H:=Ja (Jb h (Jb hq (Jb d (Jb hto (Jb hb (Jb y (Jb m (Jb a2 (Jb hk ha)))))))));clear h hq d hto hb u y m a2 hk ha a9 a8;go_enter Tryz.func59,Tryz.ntmps59;go_upto_region 1 with fail;have a5:∀w',O w w'->A w' K.pm 4 (F g l.length c)/\A w' K.pm 5 (I (M.cur:Int))/\A w' g (M.cur*5) (.slice pa q.b.params.length pc)/\A w' g (M.cur*5+1) (.slice oa q.ol.length oc)/\A w' g (M.cur*5+2) (I q.b.term.kind)/\A w' g (M.cur*5+3) (I q.b.term.a)/\A w' g (M.cur*5+4) (.slice ea q.b.term.to.length ec):=fun w' hb=>⟨zV hb a3 c4,zV hb a3 c5,zV hb a0 e0,zV hb a0 e1,zV hb a0 e2,zV hb a0 e3,zV hb a0 e4⟩
 have a1:=Ja a5;clear a5 c4 c5 e0 e1 e2 e3 e4
 go_region_held3 (fun w'=>A w' K.pm 4 (F g l.length c)/\A w' K.pm 5 (I (M.cur:Int))/\A w' g (M.cur*5) (.slice pa q.b.params.length pc)/\A w' g (M.cur*5+1) (.slice oa q.ol.length oc)/\A w' g (M.cur*5+2) (I q.b.term.kind)/\A w' g (M.cur*5+3) (I q.b.term.a)/\A w' g (M.cur*5+4) (.slice ea q.b.term.to.length ec))
  ((refine a1.out _ ?_;repeat' (first|exact Below.refl _ _|refine Below.drew ?_|refine Below.alloc ?_ (by simp<;>omega) _|refine Below.setCell ?_ (by simp<;>omega) _)))
  (fail)
 go_upto_region 3 with fail;have a4:O w (((w.alloc (T #[I t.kind,I t.a,.slice ta t.to.length tc] 82)).alloc (T #[.slice pa q.b.params.length pc,.slice oa q.ol.length oc,I t.kind,I t.a,.slice ta t.to.length tc] 84)).drew):=(((Below.refl _ _).alloc (Je _) _).alloc Zs _).drew;have x:Q (((w.alloc (T #[I t.kind,I t.a,.slice ta t.to.length tc] 82)).alloc (T #[.slice pa q.b.params.length pc,.slice oa q.ol.length oc,I t.kind,I t.a,.slice ta t.to.length tc] 84)).drew) (w.heap.size+1) #[.slice pa q.b.params.length pc,.slice oa q.ol.length oc,I t.kind,I t.a,.slice ta t.to.length tc] 84:=zI Zs;generalize b2:((w.alloc (T #[I t.kind,I t.a,.slice ta t.to.length tc] 82)).alloc (T #[.slice pa q.b.params.length pc,.slice oa q.ol.length oc,I t.kind,I t.a,.slice ta t.to.length tc] 84)).drew=W2 at *;obtain⟨c4,c5,_⟩:=a1.out W2 a4;have l0:=zA (i:=0) x rfl;have l1:=zA (i:=1) x rfl;have l2:=zA (i:=2) x rfl;have l3:=zA (i:=3) x rfl;have l4:=zA (i:=4) x rfl;have HB:=Ja a4;clear a4 x b2 a1;refine zt 11 Zk Zk ?_;simp only[Qo,Uc,Qp,Ui]
 repeat (go_big_quiet_step (fail))
 refine wpQuiet_nil ?_;have a6:=H.out.1.keep HB.out.drew;refine wpList_store_mid rfl 84 (.tmp 28) (.tmp 27) rfl g (M.cur*5) #[.slice pa q.b.params.length pc,.slice oa q.ol.length oc,I t.kind,I t.a,.slice ta t.to.length tc] rfl rfl (zq Zd yr a6.own rfl H.out.2.1) Zk (by simp[Value.oneCell']) ?_;go_wp2
 first|go_end0|refine bodyPost_ret (results_none rfl _ _ _) rfl ?_
 obtain⟨h,hq,d,hto,hb,y,m,a2,hk,ha⟩:=H.out;have hs:Stp X w X (W2.drew.setCells g (M.cur*5) (xG ⟨{q.b with term:=t },q.pv,q.ov,.slice ta t.to.length tc,q.ol⟩)):=nB _ _ HB.out.drew b1;have b0: [Value.slice pa q.b.params.length pc,.slice oa q.ol.length oc,I t.kind,I t.a,.slice ta t.to.length tc]=xG ⟨{q.b with term:=t },q.pv,q.ov,.slice ta t.to.length tc,q.ol⟩:=by unfold xG;rw[y,m]
 rw[b0];refine⟨rfl,X,⟨_,_,_,h.turn (M':=M.endB t) hq rfl hs (fun _ e=>e) (fun k e=>Jy (h.xl k e) hs.size) h.xB (fun k hk' hx hne _=>(ye g k hne _ _ _).trans (HB.out.drew.block k hk')) (fun e=>zC d.own h.blk (.inr Zd) e) (uZ yr a6.own rfl hq _) ?_ (fun j qj k hj h1 h2=>h.apart j _ qj q k hj hq h2 h1) ?_ ⟨rfl,rfl,rfl,rfl,rfl⟩ ?_⟩,hs⟩
 ·exact⟨⟨hk,ha⟩,d.par.step zn (hs.av K),d.ops,yD d.own (fun k hk'=>(ye g k (fun e=>by
   rcases zo d.own h.own Zd with h1|h1
   ·rw[h1] at hk';cases hk'
   ·exact h1 (by rw[hk',e];rfl)) _ _ _).trans (HB.out.drew.block k (d.own.lt k hk').2)),fun o ho=>⟨(d.arg o ho).1,(d.arg o ho).2.step zn (hs.av K)⟩,hto.step yq (hs.av K),d.inX⟩
 ·exact xI hb _
 ·have:=(zv M t).sz;have:=h.bnd;omega
structure OpSt (w0:World) (K:MKC) (X0:Nat->Prop) (M0:MS) (c:Nat) (w:World) (M:MS):Prop where
 made:∃X,wW w K X M/\Stp X0 w0 X w
 gr:GrowP c M0 M
 cur:M.cur<M.f.length
section
variable {w0 w:World} {K:MKC} {X0:Nat->Prop} {M0 M:MS} {c:Nat} (h:OpSt w0 K X0 M0 c w M)
include h
theorem OpSt.take (n:Nat)(i:0<n)(g:n<=1000000)(k:M0.sz+(c+1)<=1000000):
 G 55 #[Y K.pm,I n] w fun e w'=>∃z:Nat,z<n/\Hid (tkV K.E M n=z)/\e=.returned (I z)/\Hid (OpSt w0 K X0 M0 (c+1) w' M.tick):=by
 obtain⟨X,hm,hs⟩:=h.made;refine(m8 hm i g (by have:=h.gr.sz;omega)).mono ?_;rintro e w' ⟨rfl,X',j,d⟩;exact⟨_,aaE _ _ i,Ja rfl,rfl,Ja ⟨⟨X',j,hs.trans d⟩,h.gr.trans (zT M).p,h.cur⟩⟩
theorem OpSt.takeK (n k:Nat)(kI:Int)(g:(k:Int)=kI)(hk:tkV K.E M n=k)(i:0<n)(d:n<=1000000)(hz:M0.sz+(c+1)<=1000000):
 G 55 #[Y K.pm,I n] w fun e w'=>e=.returned (I kI)/\Hid (OpSt w0 K X0 M0 (c+1) w' M.tick):=by
 refine(h.take n i d hz).mono ?_;rintro e w' ⟨z,_,hz,rfl,hm⟩;refine⟨?_,hm⟩;rw[<-g,<-hk,hz.out]
theorem OpSt.any (i:M0.sz+(c+4)<=1000000):
 G 58 #[Y K.pm] w fun e w'=>∃x:Int,Hid (I64 x/\(zJ K.E M).1=x)/\e=.returned (I x)/\Hid (OpSt w0 K X0 M0 (c+4) w' (zJ K.E M).2):=by
 obtain⟨X,hm,hs⟩:=h.made;refine(pu hm h.cur (by have:=h.gr.sz;omega)).mono ?_;rintro e w' ⟨rfl,X',g,d⟩;exact⟨_,Ja ⟨oD hm,rfl⟩,rfl,Ja ⟨⟨X',g,hs.trans d⟩,h.gr.trans (yU K.E M).p,by rw[(yU K.E M).cur,(yU K.E M).len];exact h.cur⟩⟩
theorem OpSt.addr (i:M0.sz+(c+6)<=1000000):
 G 133 #[Y K.pm] w fun e w'=>∃x:Int,Hid (I64 x/\(yJ K.E M).1=x)/\e=.returned (I x)/\Hid (OpSt w0 K X0 M0 (c+6) w' (yJ K.E M).2):=by
 obtain⟨X,hm,hs⟩:=h.made;refine(addr_any hm h.cur (by have:=h.gr.sz;omega)).mono ?_;rintro e w' ⟨rfl,X',g,d⟩;refine⟨_,Ja ⟨?_,rfl⟩,rfl,Ja ⟨⟨X',g,hs.trans d⟩,h.gr.trans (ue K.E M).p,by rw[(ue K.E M).cur,(ue K.E M).len];exact h.cur⟩⟩;unfold yJ
 split
 ·obtain⟨fv,vv,l,hi⟩:=hm;exact oD ((hi.ticked (by have:=h.gr.sz;omega)).1.at)
 ·obtain⟨fv,vv,l,hi⟩:=hm;have hb:=hi.bnd;unfold MS.sz at hb;exact vG _ (by show -1000000<=(M.next:Int);omega) (by show(M.next:Int)<=1000000;omega)
theorem OpSt.next:(M.next:Int)<=1000000:=by
 obtain⟨X,⟨fv,vv,l,hi⟩,hs⟩:=h.made;have hb:=hi.bnd;unfold MS.sz at hb;omega
theorem OpSt.n64:I64 (M.next:Int):=vG _ Zo h.next
theorem OpSt.num (n:Nat)(i:n<65536)(j:M0.sz+(c+3)<=1000000):
 G 114 #[Y K.pm,U n] w fun e w'=>e=.returned (I (M.next:Int))/\Hid (OpSt w0 K X0 M0 (c+3) w' (M.num n)):=by
 obtain⟨X,hm,hs⟩:=h.made;refine(ks hm i h.cur (by have:=h.gr.sz;omega)).mono ?_;rintro e w' ⟨rfl,X',g,d⟩;exact⟨rfl,Ja ⟨⟨X',g,hs.trans d⟩,h.gr.trans (wT M n).p,by rw[(wT M n).cur,(wT M n).len];exact h.cur⟩⟩
theorem OpSt.emit (code a b:Int)(n:Nat)(h1:I64 code)(h2:I64 a)(h3:I64 b)(i:n<65536)(j:M0.sz+(c+3)<=1000000):
 G 132 #[Y K.pm,.agg #[I code,I 0,I a,I b,U n,L]] w fun e w'=>e=.returned (I (sB M code))/\Hid (OpSt w0 K X0 M0 (c+3) w' (M.emit ⟨code,0,a,b,n,[]⟩)):=by
 obtain⟨X,hm,hs⟩:=h.made;refine(rD (o:=⟨code,0,a,b,n,[]⟩) hm ⟨h1,yF _ rfl,h2,h3,i⟩ yE.nil h.cur (by have:=h.gr.sz;omega)).mono ?_;rintro e w' ⟨rfl,X',g,d⟩;exact⟨rfl,Ja ⟨⟨X',g,hs.trans d⟩,h.gr.trans (yB M _).p,by rw[(yB M _).cur,(yB M _).len];exact h.cur⟩⟩
theorem OpSt.call (d:∀x∈K.E.args,0<=x/\x<4)(j:M0.sz+(c+16)<=1000000):
 G 134 #[Y K.pm] w fun e w'=>e=.returned (.tuple #[])/\Hid (OpSt w0 K X0 M0 (c+16) w' (vN K.E M)):=by
 obtain⟨X,hm,hs⟩:=h.made;refine(jN hm h.cur (by have:=h.gr.sz;omega)).mono ?_;rintro e w' ⟨rfl,X',i,g⟩;exact⟨rfl,Ja ⟨⟨X',i,hs.trans g⟩,h.gr.trans (sI K.E d M).p,by rw[(sI K.E d M).cur,(sI K.E d M).len];exact h.cur⟩⟩
theorem OpSt.block (n:Nat)(i:M0.sz+(c+(1+n))<=1000000):
 G 56 #[Y K.pm,I n] w fun e w'=>e=.returned (I (M.f.length:Int))/\Hid (OpSt w0 K X0 M0 (c+(1+n)) w' (M.block n)):=by
 obtain⟨X,hm,hs⟩:=h.made;refine(rU hm (n:=n) (by have:=h.gr.sz;omega)).mono ?_;rintro e w' ⟨rfl,X',g,d⟩;exact⟨rfl,Ja ⟨⟨X',g,hs.trans d⟩,h.gr.trans (xM M n),by have:=h.cur;rw[yz];show M.cur<_;omega⟩⟩
theorem OpSt.flen:(M.f.length:Int)<=1000000:=by
 obtain⟨X,⟨fv,vv,l,hi⟩,hs⟩:=h.made;have hb:=hi.bnd;unfold MS.sz at hb;omega
theorem OpSt.endB (k a:Int)(tos:List IEdge)(tv:Value)(hk:I64 k)(j:I64 a)(d:∀X,wW w K X M->Stp X0 w0 X w->vT w (K.av X) tv tos):
 G 59 #[Y K.pm,.agg #[I k,I a,tv]] w fun e w'=>e=.returned (.tuple #[])/\Hid (OpSt w0 K X0 M0 c w' (M.endB ⟨k,a,tos⟩)):=by
 obtain⟨X,hm,hs⟩:=h.made;refine(nt (t:=⟨k,a,tos⟩) hm hk j (d X hm hs) h.cur).mono ?_;rintro e w' ⟨rfl,X',i,g⟩;exact⟨rfl,Ja ⟨⟨X',i,hs.trans g⟩,h.gr.trans (zv M _).p,by rw[(zv M _).cur,(zv M _).len];exact h.cur⟩⟩
theorem OpSt.endN(k a:Int)(tos:List IEdge)(tv:Value)(hk:I64 k)(j:I64 a)(hb:O w w2)(d:∀X:Nat->Prop,(∀k,X k->k<w.heap.size)->vT w2 X tv tos):
 G 59 #[Y K.pm,.agg #[I k,I a,tv]] w2 fun e w'=>e=.returned (.tuple #[])/\Hid (OpSt w0 K X0 M0 c w' (M.endB ⟨k,a,tos⟩)):=by
 obtain⟨X,⟨fv,vv,l,hm⟩,hs⟩:=h.made;refine(nt (t:=⟨k,a,tos⟩) (hm.keep hb).at hk j (d (K.av X) (fun k e=>e.elim (hm.xl k) (hm.env.zl k))) h.cur).mono ?_;rintro e w' ⟨rfl,X',i,g⟩;exact⟨rfl,Ja ⟨⟨X',i,hs.trans ((Stp.of_below hb).trans g)⟩,h.gr.trans (zv M _).p,by rw[(zv M _).cur,(zv M _).len];exact h.cur⟩⟩
theorem OpSt.below(hb:O w w'):OpSt w0 K X0 M0 c w' M:=by
 obtain⟨X,⟨fv,vv,l,hm⟩,hs⟩:=h.made;exact⟨⟨X,⟨fv,vv,l,hm.keep hb⟩,hs.trans (Stp.of_below hb)⟩,h.gr,h.cur⟩
end
theorem OpSt.start(h:wW w K X M)(c:M.cur<M.f.length):OpSt w K X M 0 w M:=⟨⟨X,h,Stp.refl _ _⟩,GrowP.refl M,c⟩
theorem OpSt.ret{M':MS}{c:Nat}{r:Value}(h:OpSt w K X M c w' M'):yk K X w M' r (.returned r) w':=⟨rfl,h.made⟩
theorem wW.alt(h:wW w K X M):∀x∈K.E.args,0<=x/\x<4:=by
 obtain⟨fv,vv,l,hm⟩:=h;exact hm.env.alt
theorem own_take{S:Nat}{e:TypeId}{a:Option Addr}{n c:Nat}{xs:List Value}(h:w.ownsRow S e 1 (.slice a n c) n xs)(hk:k<=n):w.ownsRow S e 1 (.slice a k c) k (xs.take k):=by
 obtain⟨h1,h2⟩:=h;refine⟨by rw[Oc,h1];omega,?_⟩;rcases h2 with⟨h3,d⟩|⟨g,o,cur,h3,d,m,q,l,j,i⟩
 ·cases h3;left;have:k=0:=Zo;subst this;exact⟨rfl,rfl⟩
 ·cases h3;refine .inr ⟨g,_,cur,rfl,d,m,by omega,l,j,?_⟩;rw[<-i,List.take_take]
  congr 1
  omega
def toL (tg n:Nat):List (IEdge×Value):=(List.range n).map fun k=>(⟨((tg+k:Nat):Int),[]⟩,L)
theorem toL_succ (tg n:Nat):toL tg (n+1)=toL tg n++ [(⟨((tg+n:Nat):Int),[]⟩,.slice none 0 0)]:=by unfold toL;rw[List.range_succ,Js];rfl
theorem toL_len (tg n:Nat):(toL tg n).length=n:=by unfold toL;simp
theorem toL_fst (tg n:Nat):(toL tg n).map (·.1)=xk tg n:=by unfold toL xk;rw[List.map_map];rfl
structure ToMid (w:World) (K:MKC) (X:Nat->Prop) (M:MS) (tv:Value) (j:Nat) (wx:World):Prop where
 own:wx.ownsRow w.heap.size 79 2 tv j ((toL M.f.length j).flatMap za)
 made:∃Xj,wW wx (K.withZ fun k=>K.Z k∨tv.ownBlock=some k) Xj (xE j M)/\Stp X w Xj wx
theorem ToMid.start(h:wW w K X M):ToMid w K X M (L) 0 w:=by
 refine⟨Jv _ _ _ _,X,?_,Stp.refl _ _⟩;obtain⟨fv,vv,l,h⟩:=h;exact⟨fv,vv,l,h.off (Je _) ⟨rfl,rfl,rfl⟩ (fun _ _ _=>rfl) (fun k e=>e.elim .inl (fun e=>by simp[Value.ownBlock] at e)) (fun k e=>e.elim (h.env.zl k) (fun e=>by simp[Value.ownBlock] at e))⟩
theorem ToMid.next{X2:Nat->Prop}{tv:Value}{o:Obj}(h:ToMid w K X M tv j wx)(h2:wW w2 (K.withZ fun k=>K.Z k∨tv.ownBlock=some k) X2 (xE (j+1) M))(c:Stp X w X2 w2)(m:w2.ownsRow w.heap.size 79 2 tv j ((toL M.f.length j).flatMap za))
 (t:∀k,X k->k<w.heap.size) (hB:K.B<=w.heap.size) (hg:(w2.alloc o).grownBy w3 tv.ownBlock) (i:w3.ownsRow w.heap.size 79 2 d (j+1) ((toL M.f.length j).flatMap za++za (⟨((M.f.length+j:Nat):Int),[]⟩,L))) (q:∀k,d.ownBlock=some k->tv.ownBlock=some k∨w2.heap.size<=k):ToMid w K X M d (j+1) w3:=by
 obtain⟨fv,vv,l,h2⟩:=h2;have g:w2.heap.size<=w3.heap.size:=by have:=hg.size;simp at this;omega
 have hk:∀k,k<w2.heap.size->tv.ownBlock≠some k->w3.heap[k]? =w2.heap[k]?:=fun k hk hne=>(hg.block k Zt (fun e=>hne e.symm)).trans (Below.heap_alloc w2 o k hk)
 refine⟨?_,X2,⟨fv,vv,l,h2.off (K:=K.withZ fun k=>K.Z k∨tv.ownBlock=some k) g ⟨hg.os,hg.tape,hg.output⟩ (fun k hk' hz=>hk k hk' (fun e=>by have h1:k<K.B:=hz (.inr e);have:=(m.lt k e).1;omega)) (fun k e=>e.elim (fun e=> .inl (.inl e)) (fun e=>(q k e).elim (fun e=> .inl (.inr e)) .inr)) (fun k e=>e.elim (fun e=>Jy (h2.env.zl k (.inl e)) g) (fun e=>(i.lt k e).2))⟩,?_⟩
 ·rw[toL_succ,Nx];exact i
 ·refine⟨hg.os.trans c.os,hg.tape.trans c.tape,hg.output.trans c.output,Jn c.size g,c.new,fun k hk' hx'=>(hk k (Jy hk' c.size) (fun e=>?_)).trans (c.kept k hk' hx')⟩;have:=(m.lt k e).1;omega
theorem ToMid.done{tv:Value}(h:ToMid w K X M tv j wx)(d:∀k,K.Z k->k<w.heap.size)(g:M.f.length+j<=1000000):∃Xj,wW wx K Xj (xE j M)/\Stp X w Xj wx/\vT wx (K.av Xj) tv (xk M.f.length j):=by
 obtain⟨Xj,⟨fv,vv,l,hm⟩,hs⟩:=h.made;refine⟨Xj,⟨fv,vv,l,hm.off (Z2:=K.Z) (Je _) ⟨rfl,rfl,rfl⟩ (fun _ _ _=>rfl) (fun k e=> .inl (.inl e)) (fun k e=>hm.env.zl k (.inl e))⟩,hs,?_⟩;rw[<-toL_fst];refine ld (by rw[toL_len];exact h.own) (fun q hq=>?_) (fun k e hx=>hx.elim (fun e2=>hm.env.zx k e2 (.inr e)) (fun e2=>?_))
 ·unfold toL at hq;obtain⟨m,c,rfl⟩:=Nu.1 hq;have:=Ol.1 c;exact⟨vG _ (by show -1000000<=((M.f.length+m:Nat):Int);omega) (by show((M.f.length+m:Nat):Int)<=1000000;omega),yE.nil⟩
 ·have:=(h.own.lt k e).1;have:=d k e2;omega
theorem pj{blk:Int}(d:∀x∈xs,I64 x)(hl:xs.length<=1000)(hb:I64 blk)(X:Nat->Prop)(c:∀k,X k->k<w.heap.size):
 vT ((w.alloc (T (xs.map fun x=>I x).toArray 3)).alloc (T #[I blk,F w.heap.size xs.length xs.length] 79)) X (F (w.heap.size+1) 1 1) [⟨blk,xs⟩]:=by
 refine qt (l:=[((⟨blk,xs⟩:IEdge),F w.heap.size xs.length xs.length)]) (e:=79) (zI Zs) (fun e=>by have:=c _ e;omega) (fun q hq=>?_) Zs;rw[Jo] at hq;subst hq;exact⟨hb,ki (zB (zI rfl)) (fun e=>by have:=c _ e;omega) d Zo⟩
theorem edgeCell{v:Value}{xs:List IEdge}{a:Option Addr}{n c:Nat}(h:vT w X v xs)(hv:v=.slice a n c){x:IEdge}(d:xs[k]? =some x):∃b o,a=some ⟨b,o,none⟩/\A w b (o+k*2) (I x.block):=by
 subst hv;obtain⟨a',c',e,_,_,h3⟩:=h;cases e;obtain⟨b,o,i,_,_,g,_⟩:=h3 k x d;exact⟨b,o,i,g⟩
theorem nl{tg n:Nat}(h:k<n):(xk tg n)[k]? =some ⟨((tg+k:Nat):Int),[]⟩:=by unfold xk;rw[Jr,Oh h];rfl
theorem MkIn.cut{fv:Value}{l:List BM}{a:Option Addr}{n c:Nat}(h:MkIn w K X M fv (.slice a n c) l)(hk:k<=M.vals.length):
 MkIn (w.setCell ⟨K.pm,7,none⟩ (.slice a k c)) K X {M with vals:=M.vals.take k } fv (.slice a k c) l/\Stp X w X (w.setCell ⟨K.pm,7,none⟩ (.slice a k c)):=by
 have hv:=h.vown;obtain⟨a',c',e⟩:=zG hv;cases e;have d:(M.vals.take k).length=k:=by rw[Oc];omega
 refine h.setC 7 _ {M with vals:=M.vals.take k } (.slice a k c) rfl rfl ?_ (fun x hx=>h.v64 x (List.mem_of_mem_take hx)) ?_ ?_ h.lft
 ·show w.ownsRow K.B 3 1 (.slice a k c) (M.vals.take k).length ((M.vals.take k).map zN)
  rw[d,List.map_take];exact own_take hv hk
 ·intro j e;refine h.xv j ?_
  cases a with
  |none=>cases e
  |some a=>exact e
 ·have:=h.bnd;unfold MS.sz at this ⊢;simp only[d];omega
theorem MkIn.goto{fv:Value}{l:List BM}(h:MkIn w K X M fv vv l)(k:Nat):
 MkIn (w.setCell ⟨K.pm,5,none⟩ (I k)) K X {M with cur:=k } fv vv l/\Stp X w X (w.setCell ⟨K.pm,5,none⟩ (I k)):=
 h.setC 5 _ {M with cur:=k } vv rfl rfl h.vown h.v64 h.xv h.bnd h.lft
theorem MkIn.parAt{fv:Value}{l:List BM}(h:MkIn w K X M fv vv l){b:IBlk}(hb:M.f[i]? =some b):
 ∃g c pa pc,fv=F g l.length c/\g<w.heap.size/\A w g (i*5) (.slice pa b.params.length pc)/\∀k x,b.params[k]? =some x->∃bb o,pa=some ⟨bb,o,none⟩/\bb<w.heap.size/\A w bb (o+k) (I x)/\I64 x:=by
 obtain⟨q,hq,rfl,t⟩:=h.getB hb;obtain⟨g,c,d,a1,u,a0⟩:=h.fblk hq;have j:=z9 yr h.own (by rw[d];rfl) hq;have e0:A w g (i*5) q.pv:=j 0 _ rfl;obtain⟨pa,pc,m,h1,h2,h3⟩:=t.par;refine⟨g,c,pa,pc,d,u,by rw[e0,m],fun k x hx=>?_⟩;obtain⟨bb,o,h4,h5,h6,y,h8⟩:=h3 k x hx;rw[Nk] at y;exact⟨bb,o,h4,h5,y,h8⟩
def jQ {α:Type}(R:World->(Nat->Prop)->Nat->Nat->α->Prop):Prop:=∀w X Y b q x,(∀k,Y k->X k)->R w X b q x->R w Y b q x
theorem yE.anti{α:Type}{sz:Nat}{R:World->(Nat->Prop)->Nat->Nat->α->Prop}(g:jQ R){Y:Nat->Prop}{v:Value}{xs:List α}(h:yE sz R w X v xs)(c:∀k,Y k->X k):yE sz R w Y v xs:=by
 obtain⟨a,d,rfl,h1,h2,h3⟩:=h;refine⟨a,d,rfl,h1,h2,fun k x hk=>?_⟩;obtain⟨b,o,m,l,j,i⟩:=h3 k x hk;exact⟨b,o,m,l,fun e=>j (c _ e),g _ _ _ _ _ _ c i⟩
theorem abf:jQ IntG:=fun w X Y b q x hY h=>h
theorem qd:jQ EdgeG:=fun w X Y b q x hY h=>by
 obtain⟨h1,h2,av,h3,c⟩:=h;exact⟨h1,h2,av,h3,c.anti abf hY⟩
def OpG (w:World)(X:Nat->Prop)(b q:Nat)(x:IOp):Prop:=
 A w b q (I x.code)/\A w b (q+1) (I x.res)/\A w b (q+2) (I x.a)/\A w b (q+3) (I x.b)/\A w b (q+4) (U (x.n:Int))/\
  (I64 x.code/\I64 x.res/\I64 x.a/\I64 x.b/\x.n<65536)/\∃av,A w b (q+5) av/\wm w X av x.args
theorem lu:rP OpG:=fun X w X' w' b q x _ hx hs h=>by
 obtain⟨h1,h2,h3,j,i,g,av,d,c⟩:=h;exact⟨hs.cell h1 hx,hs.cell h2 hx,hs.cell h3 hx,hs.cell j hx,hs.cell i hx,g,av,hs.cell d hx,c.step zn hs⟩
theorem opG_anti:jQ OpG:=fun w X Y b q x hY h=>by
 obtain⟨h1,h2,h3,j,i,g,av,d,c⟩:=h;exact⟨h1,h2,h3,j,i,g,av,d,c.anti abf hY⟩
abbrev OpsG:=yE 6 OpG
def BlkG (w:World)(X:Nat->Prop)(b q:Nat)(x:IBlk):Prop:=
 A w b (q+2) (I x.term.kind)/\A w b (q+3) (I x.term.a)/\(I64 x.term.kind/\I64 x.term.a)/\
  ∃pv ov tv,A w b q pv/\A w b (q+1) ov/\A w b (q+4) tv/\wm w X pv x.params/\OpsG w X ov x.ops/\vT w X tv x.term.to
theorem xq:rP BlkG:=fun X w X' w' b q x _ hx hs h=>by
 obtain⟨h1,h2,h3,pv,ov,tv,k,j,i,g,d,c⟩:=h;exact⟨hs.cell h1 hx,hs.cell h2 hx,h3,pv,ov,tv,hs.cell k hx,hs.cell j hx,hs.cell i hx,g.step zn hs,d.step lu hs,c.step yq hs⟩
theorem jG:jQ BlkG:=fun w X Y b q x hY h=>by
 obtain⟨h1,h2,h3,pv,ov,tv,k,j,i,g,d,c⟩:=h;exact⟨h1,h2,h3,pv,ov,tv,k,j,i,g.anti abf hY,d.anti opG_anti hY,c.anti qd hY⟩
abbrev pf:=yE 5 BlkG
theorem OpsG.to{v:Value}{xs:List IOp}(h:OpsG w X v xs):mN w w.heap.size v xs:=yE.to h fun _ _ _ h=>by
 obtain⟨h1,h2,h3,j,i,g,av,d,c⟩:=h;exact⟨h1,h2,h3,j,i,g,av,d,wm.to c⟩
theorem pf.to{v:Value}{xs:List IBlk}(h:pf w X v xs):wX w w.heap.size v xs:=yE.to h fun _ _ _ h=>by
 obtain⟨h1,h2,h3,pv,ov,tv,k,j,i,g,d,c⟩:=h;exact⟨h1,h2,h3,pv,ov,tv,k,j,i,wm.to g,OpsG.to d,vT.to c⟩
theorem qv{α β:Type}{sz:Nat}{f:β->List Value}{g:β->α}{R:World->(Nat->Prop)->Nat->Nat->α->Prop}(x:0<sz)(hf:∀a,(f a).length=sz){S:Nat}{e:TypeId}{v:Value}{l:List β}(h:w.ownsRow S e sz v l.length (l.flatMap f))(m:∀k,v.ownBlock=some k->¬X k)
 (t:∀q∈l,∀b o,(∀j u,(f q)[j]? =some u->A w b (o+j) u)->R w X b o (g q)):yE sz R w X v (l.map g):=by
 obtain⟨a,c,rfl⟩:=zG h;have hl:=zm h;refine⟨a,c,by rw[Nr],by rw[Nr];exact hl.1,by omega,fun k o hk=>?_⟩;rw[Jr,Oz] at hk;obtain⟨q,hq,rfl⟩:=hk;have d:=(Jh.1 hq).1;obtain⟨gg,y,e,hg,hb⟩:=h.form Zo;cases e;refine⟨gg,0,rfl,hb,m gg rfl,t q (Ji hq) _ _ fun j u hj=>?_⟩;have i:j<sz:=by rw[<-hf q];exact(Jh.1 hj).1
 rw[Ng]
 exact(h.cellAt (k*sz+j) (by
  have:(k+1)*sz<=l.length*sz:=Qw sz d;rw[Nat.add_mul] at this
  omega)).trans ((uB f sz hf l k q hq j i).trans hj)
theorem mF (q:IOp×Value):(zU q).length=6:=rfl
theorem MkIn.blks{fv:Value}{l:List BM}(h:MkIn w K X M fv vv l):pf w (fun k=>k=K.pm∨K.Z k) fv M.f:=by
 have c:∀k,(k=K.pm∨K.Z k)->K.av X k:=fun k e=>e.elim (fun e=> .inl (by rw[e];exact h.xm)) .inr
 rw[h.fl];refine qv Zd yr h.own (fun k e e2=>?_) (fun q hq b o hc=>?_)
 ·rcases e2 with e2|e2
  ·exact zC h.own h.blk (.inr Zd) (by rw[e,e2])
  ·exact h.env.zx k (h.xf k e) e2
 ·have ok:=h.bok q hq;refine⟨hc 2 _ rfl,hc 3 _ rfl,ok.k64,q.pv,q.ov,q.tv,hc 0 _ rfl,hc 1 _ rfl,hc 4 _ rfl,ok.par.anti abf c,?_,ok.tos.anti qd c⟩;rw[ok.ops];refine qv Zd mF ok.own (fun k e e2=>?_) (fun p hp b2 o2 hc2=>?_)
  ·rcases e2 with e2|e2
   ·exact zC ok.own h.blk (.inr Zd) (by rw[e,e2])
   ·exact h.env.zx k (ok.inX k e) e2
  ·have oa:=ok.arg p hp;exact⟨hc2 0 _ rfl,hc2 1 _ rfl,hc2 2 _ rfl,hc2 3 _ rfl,hc2 4 _ rfl,oa.1,p.2,hc2 5 _ rfl,oa.2.anti abf c⟩
theorem MkIn.putVs{fv vv':Value}{l:List BM}(h:MkIn w K X M fv vv l)(hg:w.grownBy w3 vv.ownBlock){n:Nat}(u:n=M.vals.length+xs.length)
 (c:w3.ownsRow K.B 3 1 vv' n (M.vals.map zN++xs.map zN)) (o:∀k,vv'.ownBlock=some k->vv.ownBlock=some k∨w.heap.size<=k) (t:∀x∈xs,I64 x) (hz:M.sz+xs.length<=1000000):
 MkIn (w3.setCell ⟨K.pm,7,none⟩ vv') K (fun k=>X k∨vv'.ownBlock=some k) {M with vals:=M.vals++xs } fv vv' l/\Stp X w (fun k=>X k∨vv'.ownBlock=some k) (w3.setCell ⟨K.pm,7,none⟩ vv'):=by
 subst u;have n1:=zC h.vown h.blk (.inr Zd);have i:=zL hg h.blk n1;have m:w.heap.size<=w3.heap.size:=hg.size
 have hk:∀k,k<w.heap.size->k≠K.pm->vv.ownBlock≠some k->(w3.setCell ⟨K.pm,7,none⟩ vv').heap[k]? =w.heap[k]?:=fun k hk hne hv=>
  (Below.heap_setCell w3 ⟨K.pm,7,none⟩ vv' k hne).trans (hg.block k hk (fun e=>hv e.symm))
 have hs:Stp X w (fun k=>X k∨vv'.ownBlock=some k) (w3.setCell ⟨K.pm,7,none⟩ vv'):=
  ⟨hg.os,hg.tape,hg.output,by simpa using m,fun k hx'=>hx'.elim .inl (fun e=>(o k e).elim (fun e2=> .inl (h.xv k e2)) .inr),fun k hk' hxk=>hk k hk' (fun e=>hxk (by rw[e];exact h.xm)) (fun e=>hxk (h.xv k e))⟩
 have g:∀ {v:Value} {e:TypeId} {sz n:Nat} {xs:List Value},w.ownsRow K.B e sz v n xs->e≠3->e≠128->∀k,v.ownBlock=some k->(w3.setCell ⟨K.pm,7,none⟩ vv').heap[k]? =w.heap[k]?:=fun {v e sz n xs} ho h1 h2 k hk'=>by
  refine hk k (ho.lt k hk').2 (fun e3=>zC ho h.blk (.inr h2) (by rw[hk',e3])) (fun e3=>?_);rcases zo ho h.vown h1 with j|j
  ·rw[j] at hk';cases hk'
  ·exact j (by rw[hk',e3])
 refine⟨⟨?_,yD h.own (g h.own Zd Zd),h.fl,fun q hq=>(h.bok q hq).step hs (g (h.bok q hq).own Zd Zd) (fun _ e=> .inl e),h.apart,?_,?_,.inl h.xm,fun k e=> .inl (h.xf k e),fun k e=> .inr e,fun k e=>e.elim (h.xB k) (fun e2=>(c.lt k e2).1),fun k e=>?_,h.env.step hs (hs.below h.xB h.size),?_,h.lft⟩,hs⟩
 ·rw[zD i];rfl
 ·show(w3.setCell ⟨K.pm,7,none⟩ vv').ownsRow K.B 3 1 vv' (M.vals++xs).length ((M.vals++xs).map zN)
  rw[Jk,Js];exact ownsRow_setCell_other c (fun e=>zC c i (.inr Zd) (by simpa using e)) _
 ·intro y d;rcases Jl.1 d with d|d
  ·exact h.v64 y d
  ·exact t y d
 ·rcases e with e|e
  ·have:=h.xl k e;simp;omega
  ·have:=(c.lt k e).2;simpa using this
 ·unfold MS.sz at *;simp only[Jk];omega
structure MDC where
 sv:Value
 apv:Value
 dv:Value
 bv:Value
 pm:Nat
 pp:Nat
 fb:Nat
 rr:Nat
 B:Nat
variable {C:MDC}
def mdK (s:List Int)(C:MDC)(k:Nat):MKC:=⟨xC s k,C.sv,F C.fb (mdN s) (mdN s),C.apv,C.dv,C.bv,C.pm,C.pp,C.B,fun j=>(j=C.fb∨j=C.rr)∨j<C.B⟩
theorem MkEnv.me{s:List Int}(h:MkEnv w (mdK s C j) X)(hk:k<mdN s):MkEnv w (mdK s C k) X:=
 ⟨h.s,h.fpv,h.prog,h.args,h.data,h.ppX,h.h64,h.len,⟨h.nf.1,hk⟩,h.alt,h.zx,h.zl⟩
theorem MkEnv.anti{Y:Nat->Prop}(h:MkEnv w K X)(d:∀k,Y k->X k):MkEnv w K Y:=by
 have c:∀k,K.av Y k->K.av X k:=fun k e=>e.elim (fun e=> .inl (d k e)) .inr
 obtain⟨b,e1,e2,e3⟩:=h.data;exact⟨h.s,h.fpv,h.prog,h.args.anti abf c,⟨b,e1,fun e=>e2 (c _ e),e3⟩,fun e=>h.ppX (c _ e),h.h64,h.len,h.nf,h.alt,fun k e=>h.zx k (d k e),h.zl⟩
theorem MkEnv.stepA(h:MkEnv w K X)(c:Stp (K.av X) w (K.av X) w')(hb:Below K.B w w'):MkEnv w' K X:=by
 obtain⟨b,e1,e2,e3⟩:=h.data;exact⟨h.s.below zO hb,h.fpv,c.blk h.prog h.ppX,h.args.step zn c,⟨b,e1,e2,c.blk e3 e2⟩,h.ppX,h.h64,h.len,h.nf,h.alt,h.zx,fun k e=>Jy (h.zl k e) c.size⟩
structure MdAt (s:List Int) (C:MDC) (w0:World) (k:Nat) (wx:World):Prop where
 env:MkEnv wx (mdK s C 0) (fun j=>j=C.pm)
 mkr:∃(me:Value) (cur:Nat) (fv next vv left:Value),wx.heap[C.pm]? =some (.cells #[C.sv,.int .i64 ((zg s k).2:Int),.pointer (some ⟨C.pp,0,none⟩),me,fv,.int .i64 (cur:Int),next,vv,left] 128 (0,0))
 row:∃hs:List Value,hs.length=mdN s/\wx.heap[C.fb]? =some (.cells hs.toArray 39 (0,0))/\∀(j:Nat) (x:List IBlk),(zg s k).1[j]? =some x->∃v:Value,hs[j]? =some v/\pf wx (fun i=>i=C.pm∨((i=C.fb∨i=C.rr)∨i<C.B)) v x
 bel:Below w0.heap.size w0 wx
 hB:C.B=w0.heap.size
 pmB:C.B<=C.pm
 fbB:C.B<=C.fb
 rrB:C.B<=C.rr
theorem MdAt.start{s:List Int}(h:MdAt s C w0 k wx)(hk:k<mdN s){cur next:Nat}(d:(zg s k).2+1+next<=900000)
 (c:Q W C.pm (uC (mdK s C k) ⟨(zg s k).2+1,[],cur,next,[],6⟩ (L) (L)) 128)
 (hs:Stp (fun j=>j=C.pm) wx (fun j=>j=C.pm) W):MkIn W (mdK s C k) (fun j=>j=C.pm) ⟨(zg s k).2+1,[],cur,next,[],6⟩ (L) (L) []:=
 ⟨c,Jv _ _ _ _,rfl,fun q hq=>by simp at hq,fun i j qi qj k hi=>by simp at hi,Jv _ _ _ _,fun x hx=>by simp at hx,rfl,fun k e=>by simp[Value.ownBlock] at e,fun k e=>by simp[Value.ownBlock] at e,
  fun k e=>by rw[e];exact h.pmB,fun k e=>by rw[e];exact lt_of_block c,(h.env.step hs (hs.below (fun k e=>by rw[e];exact h.pmB) (by show C.B<=_;rw[h.hB];exact h.bel.size))).me hk,by unfold MS.sz;simp[opsN];omega,⟨by show(6:Int)<=6+_;omega,by show(6:Int)<=6;omega⟩⟩
theorem MdAt.done{s:List Int}(h:MdAt s C w0 k wx)(hk:k<mdN s){fv:Value}{l:List BM}(hm:MkIn W (mdK s C k) X (xR (xC s k) (zg s k).2) fv vv l)(hs:Stp (fun j=>j=C.pm) wx X W)(w:(zg s k).1.length=k)
 (c:W2.heap.size=W.heap.size/\W2.os=W.os/\W2.tape=W.tape/\W2.output=W.output) (g:∀i,i≠C.fb->W2.heap[i]? =W.heap[i]?) (a2:∀cs:Array Value,Q W C.fb cs 39->Q W2 C.fb (cs.setIfInBounds k fv) 39):MdAt s C w0 (k+1) W2:=by
 obtain⟨row,hrl,o,t⟩:=h.row;have m:¬(C.fb=C.pm):=fun e=>h.env.zx C.pm rfl (.inl (.inl e.symm))
 have a7:¬X C.fb:=fun e=>hm.env.zx C.fb e (.inl (.inl rfl))
 have d:Stp ((mdK s C k).av fun j=>j=C.pm) W ((mdK s C k).av fun j=>j=C.pm) W2:=⟨c.2.1,c.2.2.1,c.2.2.2,by rw[c.1];exact Je _,fun k e=> .inl e,fun i _ hx=>g i (fun e=>hx (.inr (.inl (.inl e))))⟩
 have a5:C.B<=wx.heap.size:=by rw[h.hB];exact h.bel.size
 have a4:Below C.B wx W:=hs.below (fun k e=>by rw[e];exact h.pmB) a5;have a6:C.B<=C.fb:=h.fbB;have q:Below C.B W W2:=⟨c.2.1,c.2.2.1,c.2.2.2,by rw[c.1];exact Je _,fun i hi=>g i Zo⟩
 have y:MkEnv W2 (mdK s C 0) (fun j=>j=C.pm):=((hm.env.anti (fun i e=>by rw[e];exact hm.xm)).stepA d q).me (by have:=hk;omega);have a1:C.fb<wx.heap.size:=lt_of_block o;refine⟨y,?_,?_,?_,h.hB,h.pmB,h.fbB,h.rrB⟩
 ·have h1:=hm.blk;exact⟨_,_,_,_,_,_,(g C.pm (fun e=>m e.symm)).trans h1⟩
 ·have u:Q W C.fb row.toArray 39:=(hs.kept _ a1 (fun e=>m e)).trans o;refine⟨row.set k fv,by rw[Nd];exact hrl,by rw[a2 _ u];simp,fun j x hj=>?_⟩;have e1:(zg s (k+1)).1=(zg s k).1++ [(xR (xC s k) (zg s k).2).f]:=rfl;rw[e1] at hj
  by_cases a8:j<k
  ·rw[Np Zo] at hj;obtain⟨v,hv,a3⟩:=t j x hj;refine⟨v,by rw[Ns Zo];exact hv,?_⟩;have h2:pf W ((mdK s C k).av X) v x:=yE.step (X:=(mdK s C k).av fun j=>j=C.pm) xq a3 (hs.av _);have h3:pf W ((mdK s C k).av fun j=>j=C.pm) v x:=h2.anti jG (fun i e=>e.elim (fun e=> .inl (by rw[e];exact hm.xm)) .inr);exact h3.step xq d
  ·have a0:j=k:=by
    have:=(Jh.1 hj).1;simp at this;omega
   subst a0;rw[Nc Zo,w,Qy] at hj;cases hj;refine⟨fv,by rw[Nn Zo],?_⟩;have h2:pf W ((mdK s C j).av fun i=>i=C.pm) fv (xR (xC s j) (zg s j).2).f:=hm.blks;exact h2.step xq d
 ·have e:C.B=w0.heap.size:=h.hB;have:=h.bel.trans (B:=w0.heap.size) (by rw[<-e];exact a4.trans q);exact this
theorem tf{pm pos B:Nat}{cs:Array Value}{s:List Int}{sv:Value}(hb:Q w pm cs 128)(q:cs[0]? =some sv)(h1:cs[1]? =some (I pos))(hs:zY w B sv s){n:Nat}(l:0<n)(g:n<=1000000)(u:pos+1<=1000000):
 G 55 #[Y pm,I n] w fun e w'=>e=.returned (I (tk0 s pos n:Nat))/\Q w' pm (cs.setIfInBounds 1 (I ((pos+1:Nat):Int))) 128/\Stp (fun j=>j=pm) w (fun j=>j=pm) w':=by
 have c0:=zA hb q;have c1:=zA hb h1;obtain⟨sa,sc,i,a1,a0⟩:=hs.form;rw[i] at c0 hs;have f1:N w pm 1:=zE hb;have a2:=lt_of_block hb
 have d:=Ja (show ∀n,Q ((w.drewN n).setCell ⟨pm,1,none⟩ (I ((pos:Int)+1))) pm (cs.setIfInBounds 1 (I ((pos+1:Nat):Int))) 128/\Stp (fun j=>j=pm) w (fun j=>j=pm) ((w.drewN n).setCell ⟨pm,1,none⟩ (I ((pos:Int)+1))) from fun n=>
  ⟨zD (w:=w.drewN n) hb _,⟨rfl,rfl,rfl,by simp,fun _ h=> .inl h,fun k hk c=>Below.heap_setCell _ _ _ _ (fun e=>c (by rw[e]))⟩⟩)
 have hp:(pos:Int)+1<=1000000:=Zo;clear hb q h1
 by_cases m:pos<s.length
 ·obtain⟨x,c⟩:∃x,s[pos]? =some x:=⟨_,Jd m⟩
  obtain⟨b,o,rfl,hb,y,h64⟩:=hs.get c;rw[Nk] at y;have hI:(pos:Int)<(s.length:Int):=Zo;have hv:tk0 s pos n=(x%(n:Int)).toNat:=by unfold tk0;rw[Jj,c];rfl
  have e1:=rK x n l g;rw[hv];have t:=Ja e1;clear hs c hb e1 hv;go_enter Tryz.func55,Tryz.ntmps55;go_wp2;go_quiet (fail);go_wp2;go_quiet (fail);go_wp2;go_ret;exact⟨zh t.out,(d.out _).1,(d.out _).2⟩
 ·have hI:¬(pos:Int)<(s.length:Int):=Zo;have hv:tk0 s pos n=((0:Int)%(n:Int)).toNat:=by unfold tk0;rw[Jj,Of Zo];rfl
  have e1:=rK 0 n l g;rw[hv];have t:=Ja e1;clear hs hv e1;go_enter Tryz.func55,Tryz.ntmps55;go_wp2;go_quiet (fail);go_wp2;go_ret;exact⟨zh Zs,(d.out _).1,(d.out _).2⟩
structure OfMid (w:World) (f1 r2 g3 tb:Nat) (fv gv:Value) (bt:BT) (l:List BT) (xr:List Row) (wx:World):Prop where
 h1:wx.heap[f1]? =some (.cells #[fv] 39 (0,0))
 h2:wx.heap[r2]? =some (.cells #[.slice none 0 0] 39 (0,0))
 h3:wx.heap[g3]? =some (.cells #[gv] 39 (0,0))
 hb:wx.heap[tb]? =some (.cells (zz bt).toArray 84 (0,0))
 bel:Below f1 w wx
 rows:Rows wx f1 (xr++(bt.rows++(zd gv l::l.flatMap BT.rows)))
 ges:f1<r2/\r2<g3/\g3<tb
 hgt:gv.ownBlock≠some tb
 xe:∀r∈xr,r.e=3
section
variable {w:World} {f1 r2 g3 tb:Nat} {fv gv:Value} {bt:BT} {l:List BT} {xr:List Row} {wx:World} (h:OfMid w f1 r2 g3 tb fv gv bt l xr wx)
include h
theorem OfMid.sz:f1<=wx.heap.size:=Qd (lt_of_block h.h1)
theorem OfMid.below(hb:O wx w'):OfMid w f1 r2 g3 tb fv gv bt l xr w':=
 ⟨zH hb h.h1 (lt_of_block h.h1),zH hb h.h2 (lt_of_block h.h2),zH hb h.h3 (lt_of_block h.h3),zH hb h.hb (lt_of_block h.hb),h.bel.trans (hb.mono h.sz),h.rows.below hb,h.ges,h.hgt,h.xe⟩
theorem OfMid.noTb:∀x∈xr++(bt.rows++(zd gv l::l.flatMap BT.rows)),x.blk≠some tb:=by
 have d:∀(b:BT),∀x∈b.rows,x.e≠84:=fun b x c=>by
  unfold BT.rows at c;rcases Jq.1 c with rfl|c
  ·show 3≠84;decide
  rcases Jq.1 c with rfl|c
  ·show 76≠84;decide
  rcases Jq.1 c with rfl|c
  ·show 79≠84;decide
  rcases Jl.1 c with c|c
  ·obtain⟨q,_,rfl⟩:=Nu.1 c
   show 3≠84;decide
  ·obtain⟨q,_,rfl⟩:=Nu.1 c
   show 3≠84;decide
 intro x c;have ho:=h.rows.own x c;rcases Jl.1 c with c|c
 ·exact zC ho h.hb (.inr (by rw[h.xe x c];decide))
 rcases Jl.1 c with c|c
 ·exact zC ho h.hb (.inr (d bt x c))
 rcases Jq.1 c with rfl|c
 ·exact h.hgt
 ·obtain⟨b,_,hb⟩:=Qx.1 c;exact zC ho h.hb (.inr (d b x hb))
theorem OfMid.grow{r:Row}{j:List Row}(hp:(xr++(bt.rows++(zd gv l::l.flatMap BT.rows))).Perm (r::rs))(d:O wx w1)(hg:w1.grownBy w' r.blk)
 (o:w'.ownsRow f1 r'.e r'.sz r'.v r'.n r'.cs) (a5:∀k,r'.blk=some k->r.blk=some k∨wx.heap.size<=k) (g:r.e≠39/\r.e≠84) (a4:r'.e≠84)  (hW:W=w'∨∃i u,W=w'.setCell ⟨tb,i,none⟩ u)
 (a2:∀c:Array Value,Q w' tb c 84->c=(zz bt).toArray->Q W tb (zz bt').toArray 84)
 (hq:(r'::rs).Perm (j++(bt'.rows++(zd gv l::l.flatMap BT.rows)))) (a1:∀r∈j,r.e=3):OfMid w f1 r2 g3 tb fv gv bt' l j W:=by
 have hr:=h.rows.perm hp;have ho:=hr.own r (.head _);have keep:∀ {b:Nat} {cs:Array Value} {t:TypeId},Q wx b cs t->r.e≠t->Q w' b cs t:=fun hb hne=>zL hg (zH d hb (lt_of_block hb)) (zC ho hb (.inr hne))
 have a3:wx.heap.size<=w'.heap.size:=Jn d.size hg.size;have y:Below f1 w w':=h.bel.trans ⟨hg.os.trans d.os,hg.tape.trans d.tape,hg.output.trans d.output,a3,fun k hk=>(hg.block k (by have:=h.sz;have:=d.size;omega) (fun e=>by have:=(ho.lt k e.symm).1;omega)).trans (d.block k (by have:=h.sz;omega))⟩;have q:Rows w' f1 (r'::rs):=hr.grow d hg o a5;have m:=keep h.hb g.2;rcases hW with rfl|⟨i,u,rfl⟩
 ·exact⟨keep h.h1 g.1,keep h.h2 g.1,keep h.h3 g.1,a2 _ m rfl,y,q.perm hq,h.ges,h.hgt,a1⟩
 ·have a6:=h.ges;refine⟨zR (keep h.h1 g.1) (by show f1≠tb;omega),zR (keep h.h2 g.1) (by show r2≠tb;omega),zR (keep h.h3 g.1) (by show g3≠tb;omega),a2 _ m rfl,y.setCell (by show f1<=tb;omega) _,(q.keep fun k hk=>Below.heap_setCell _ _ _ _ (fun e=>?_)).perm hq,h.ges,h.hgt,a1⟩;obtain⟨x,hx,a0⟩:=Nj.1 hk;have e':k=tb:=e;subst e';rcases Jq.1 hx with rfl|hx
  ·exact zC o m (.inr a4) a0
  ·exact h.noTb x (hp.mem_iff.2 (.tail _ hx)) a0
end
section
variable {w:World} {f1 r2 g3 tb:Nat} {fv gv:Value} {bt:BT} {l:List BT} {wx:World}
theorem OfMid.par(h:OfMid w f1 r2 g3 tb fv gv bt l [] wx)(hp:bt.params=[])(i:O wx w1)(hg:w1.grownBy w9 bt.pv.ownBlock)(g:w9.ownsRow f1 3 1 d xs.length (xs.map zN))
 (j:∀k,d.ownBlock=some k->bt.pv.ownBlock=some k∨wx.heap.size<=k):OfMid w f1 r2 g3 tb fv gv {bt with params:=xs,pv:=d } l [] (w9.setCell ⟨tb,0,none⟩ d):=
 h.grow (r:=zP bt.pv bt.params) (r':=zP d xs) (Uq _) i hg g j ⟨by show 3≠_;decide,by show 3≠_;decide⟩ (by show 3≠_;decide) (.inr ⟨0,d,rfl⟩)
  (fun c hc e=>by subst e;rw[zD hc];rfl) (Uq _) (fun r hr=>by simp at hr)
theorem OfMid.arg2{av:Value}(h:OfMid w f1 r2 g3 tb fv gv bt l [] wx)(c:O wx w1)(hg:w1.grownBy w9 none)(o:w9.ownsRow f1 3 1 av xs.length (xs.map zN))(m:∀k,av.ownBlock=some k->w1.heap.size<=k)
 {q:Nat} (hq:wx.heap.size<=q/\q<w1.heap.size) (u:Value):OfMid w f1 r2 g3 tb fv gv bt l [zP av xs] (w9.setCell ⟨q,i,none⟩ u):=by
 have t:O wx (w9.setCell ⟨q,i,none⟩ u):=Below.setCell ⟨hg.os.trans c.os,hg.tape.trans c.tape,hg.output.trans c.output,Jn c.size hg.size,fun k hk=>(hg.block k (Jy hk c.size) (fun e=>by cases e)).trans (c.block k hk)⟩ hq.1 _;have d:=h.below t;have j:(w9.setCell ⟨q,i,none⟩ u).ownsRow f1 3 1 av xs.length (xs.map zN):=yD o (fun k e=>Below.heap_setCell _ _ _ _ (fun e2=>by have:=m k e;have e3:k=q:=e2;omega));exact⟨d.h1,d.h2,d.h3,d.hb,d.bel,d.rows.cons j (fun g e hm=>by have:=m g e;have:=(h.rows.lt hm).2;omega),d.ges,d.hgt,fun r hr=>by rw[Jo] at hr;subst hr;rfl⟩
theorem OfMid.op{av:Value}(h:OfMid w f1 r2 g3 tb fv gv bt l [zP av o.args] wx)(i:O wx w1)(hg:w1.grownBy w9 bt.ov.ownBlock)
 (g:w9.ownsRow f1 76 6 d (bt.ops.length+1) (bt.ops.flatMap zU++zU (o,av))) (j:∀k,d.ownBlock=some k->bt.ov.ownBlock=some k∨wx.heap.size<=k):
 OfMid w f1 r2 g3 tb fv gv {bt with ops:=bt.ops++ [(o,av)],ov:=d } l [] (w9.setCell ⟨tb,1,none⟩ d):=
 h.grow (r:=re bt.ov bt.ops) (r':=re d (bt.ops++ [(o,av)])) (rs:=zP av o.args::zP bt.pv bt.params::xg bt.tv bt.tos::(g9 bt.ops++ve bt.tos)++(zd gv l::l.flatMap BT.rows)) (by
  classical
  unfold BT.rows;refine Jp.2 fun r=>?_
  simp only[Nb,Nf,List.count_nil]
  omega) i hg (by
  show w9.ownsRow f1 76 6 d (bt.ops++ [(o,av)]).length ((bt.ops++ [(o,av)]).flatMap zU)
  rw[Jk,Ju,Nx]
  simpa using g) j ⟨by show 76≠_;decide,by show 76≠_;decide⟩ (by show 76≠_;decide) (.inr ⟨1,d,rfl⟩)
  (fun c hc e=>by subst e;rw[zD hc];rfl) (by
   classical
   unfold BT.rows g9;refine Jp.2 fun r=>?_
   simp only[Nb,Nf,List.count_nil,Js,Ql,List.map_nil]
   omega) (fun r hr=>by simp at hr)
theorem OfMid.edge{av:Value}{o:IEdge}(h:OfMid w f1 r2 g3 tb fv gv bt l [zP av o.args] wx)(i:O wx w1)(hg:w1.grownBy w9 bt.tv.ownBlock)
 (g:w9.ownsRow f1 79 2 d (bt.tos.length+1) (bt.tos.flatMap za++za (o,av))) (j:∀k,d.ownBlock=some k->bt.tv.ownBlock=some k∨wx.heap.size<=k):
 OfMid w f1 r2 g3 tb fv gv {bt with tos:=bt.tos++ [(o,av)],tv:=d } l [] (w9.setCell ⟨tb,4,none⟩ d):=
 h.grow (r:=xg bt.tv bt.tos) (r':=xg d (bt.tos++ [(o,av)])) (rs:=zP av o.args::zP bt.pv bt.params::re bt.ov bt.ops::(g9 bt.ops++ve bt.tos)++(zd gv l::l.flatMap BT.rows)) (by
  classical
  unfold BT.rows;refine Jp.2 fun r=>?_
  simp only[Nb,Nf,List.count_nil]
  omega) i hg (by
  show w9.ownsRow f1 79 2 d (bt.tos++ [(o,av)]).length ((bt.tos++ [(o,av)]).flatMap za)
  rw[Jk,Ju,Nx]
  simpa using g) j ⟨by show 79≠_;decide,by show 79≠_;decide⟩ (by show 79≠_;decide) (.inr ⟨4,d,rfl⟩)
  (fun c hc e=>by subst e;rw[zD hc];rfl) (by
   classical
   unfold BT.rows ve;refine Jp.2 fun r=>?_
   simp only[Nb,Nf,List.count_nil,Js,Ql,List.map_nil]
   omega) (fun r hr=>by simp at hr)
theorem OfMid.set(h:OfMid w f1 r2 g3 tb fv gv bt l [] wx)(g:((zz bt).toArray).setIfInBounds i u=(zz bt').toArray)(hr:bt'.rows=bt.rows):OfMid w f1 r2 g3 tb fv gv bt' l [] (wx.setCell ⟨tb,i,none⟩ u):=by
 have hg:=h.ges;refine⟨zR h.h1 (by show f1≠tb;omega),zR h.h2 (by show r2≠tb;omega),zR h.h3 (by show g3≠tb;omega),by rw[zD h.hb,g],h.bel.setCell (by show f1<=tb;omega) _,?_,h.ges,h.hgt,h.xe⟩;rw[hr];refine h.rows.keep fun k hk=>Below.heap_setCell _ _ _ _ (fun e=>?_)
 obtain⟨x,d,c⟩:=Nj.1 hk;have e':k=tb:=e;subst e';exact h.noTb x d c
end
structure OfTop (w:World) (f1 r2 g3:Nat) (fv gv:Value) (l:List BT) (wx:World):Prop where
 h1:wx.heap[f1]? =some (.cells #[fv] 39 (0,0))
 h2:wx.heap[r2]? =some (.cells #[.slice none 0 0] 39 (0,0))
 h3:wx.heap[g3]? =some (.cells #[gv] 39 (0,0))
 bel:Below f1 w wx
 rows:Rows wx f1 (zd gv l::l.flatMap BT.rows)
 ges:f1<r2/\r2<g3
def bt0:BT:=⟨[],L,[],L,0,0,[],L⟩
theorem OfTop.start{fv:Value}(h:OfTop w f1 r2 g3 fv gv l wx)(d:wx.heap.size=tb):
 OfMid w f1 r2 g3 tb fv gv bt0 l [] (wx.alloc (T #[L,L,I 0,I 0,L] 84)):=by
 have i:O wx (wx.alloc (T #[L,L,I 0,I 0,L] 84)):=(Below.refl _ _).alloc (Je _) _;have hl:=lt_of_block h.h3;have j:=lt_of_block h.h1;have c:∀(e:TypeId) (W:World) (sz:Nat),W.ownsRow f1 e sz (L) 0 []:=fun e W sz=>Jv _ _ _ _
 refine⟨zB h.h1,zB h.h2,zB h.h3,zI d,h.bel.alloc Zo _,?_,⟨h.ges.1,h.ges.2,by omega⟩,fun e=>?_,fun r hr=>by simp at hr⟩
 ·show Rows _ f1 (zP (L) []::re (L) []::xg (L) []::(zd gv l::l.flatMap BT.rows))
  have hr:=h.rows.below i;exact((hr.cons (c _ _ _) (fun g e=>by simp[Row.blk,xg,Value.ownBlock] at e)).cons (c _ _ _) (fun g e=>by simp[Row.blk,re,Value.ownBlock] at e)).cons (c _ _ _) (fun g e=>by simp[Row.blk,zP,Value.ownBlock] at e)
 ·have:=((h.rows.own _ (.head _)).lt tb e).2;omega
theorem OfMid.close{fv g:Value}(h:OfMid w f1 r2 g3 tb fv gv bt l [] wx)(d:O wx w1)(hg:w1.grownBy w9 gv.ownBlock)
 (j:w9.ownsRow f1 84 5 g (l.length+1) (l.flatMap zz++zz bt)) (a1:∀k,g.ownBlock=some k->gv.ownBlock=some k∨wx.heap.size<=k):OfTop w f1 r2 g3 fv g (l++ [bt]) (w9.setCell ⟨g3,0,none⟩ g):=by
 have hp:(bt.rows++(zd gv l::l.flatMap BT.rows)).Perm (zd gv l::(bt.rows++l.flatMap BT.rows)):=List.perm_middle;have hr:Rows wx f1 (zd gv l::(bt.rows++l.flatMap BT.rows)):=h.rows.perm hp;have ho:=hr.own _ (.head _);have keep:∀ {b:Nat} {cs:Array Value} {t:TypeId},Q wx b cs t->84≠t->Q w9 b cs t:=fun hb hne=>zL hg (zH d hb (lt_of_block hb)) (zC ho hb (.inr hne))
 have a0:wx.heap.size<=w9.heap.size:=Jn d.size hg.size;have o:Below f1 w w9:=h.bel.trans ⟨hg.os.trans d.os,hg.tape.trans d.tape,hg.output.trans d.output,a0,fun k hk=>(hg.block k (by have:=h.sz;have:=d.size;omega) (fun e=>by have:=(ho.lt k e.symm).1;omega)).trans (d.block k (by have:=h.sz;omega))⟩
 have m:Rows w9 f1 (zd g (l++ [bt])::(bt.rows++l.flatMap BT.rows)):=hr.grow d hg (by
  show w9.ownsRow f1 84 5 g (l++ [bt]).length ((l++ [bt]).flatMap zz)
  rw[Jk,Ju,Nx]
  simpa using j) a1
 have h3:=keep h.h3 Zd;have a2:=h.ges;refine⟨zR (keep h.h1 Zd) (by show f1≠g3;omega),zR (keep h.h2 Zd) (by show r2≠g3;omega),by rw[zD h3];rfl,o.setCell (by show f1<=g3;omega) _,?_,⟨h.ges.1,h.ges.2.1⟩⟩;have i:Rows w9 f1 (zd g (l++ [bt])::(l++ [bt]).flatMap BT.rows):=m.perm (List.Perm.cons _ (by rw[Nx];simpa using List.perm_append_comm));refine i.keep fun k hk=>Below.heap_setCell _ _ _ _ (fun e=>?_)
 obtain⟨x,c,u⟩:=Nj.1 hk;have e':k=g3:=e;subst e'
 have y:x.e≠39:=by
  rcases Jq.1 c with rfl|c
  ·show 84≠39;decide
  obtain⟨b,_,c⟩:=Qx.1 c;unfold BT.rows at c;rcases Jq.1 c with rfl|c
  ·show 3≠39;decide
  rcases Jq.1 c with rfl|c
  ·show 76≠39;decide
  rcases Jq.1 c with rfl|c
  ·show 79≠39;decide
  rcases Jl.1 c with c|c
  ·obtain⟨q,_,rfl⟩:=Nu.1 c
   show 3≠39;decide
  ·obtain⟨q,_,rfl⟩:=Nu.1 c
   show 3≠39;decide
 exact zC (i.own x c) h3 (.inr y) u
def zW (t:PT):List Value:=[t.fv,t.av,I t.entry,I t.handler,t.dv,t.bv]
theorem vr {t:PT}:∀x∈t.rows,x.e≠29:=fun x c=>by
 unfold PT.rows at c;rcases Jq.1 c with rfl|c
 ·show 39≠29;decide
 rcases Jq.1 c with rfl|c
 ·show 3≠29;decide
 rcases Jq.1 c with rfl|c
 ·show 89≠29;decide
 rcases Jq.1 c with rfl|c
 ·show 9≠29;decide
 obtain⟨f,_,c⟩:=Qx.1 c;unfold FT.rows at c;rcases Jq.1 c with rfl|c
 ·show 84≠29;decide
 obtain⟨b,_,c⟩:=Qx.1 c;unfold BT.rows at c;rcases Jq.1 c with rfl|c
 ·show 3≠29;decide
 rcases Jq.1 c with rfl|c
 ·show 76≠29;decide
 rcases Jq.1 c with rfl|c
 ·show 79≠29;decide
 rcases Jl.1 c with c|c
 ·obtain⟨q,_,rfl⟩:=Nu.1 c
  show 3≠29;decide
 ·obtain⟨q,_,rfl⟩:=Nu.1 c
  show 3≠29;decide
structure OwMid (w:World) (p1 r2 q3:Nat) (V:PV) (p:IProg) (t:PT) (wx:World):Prop where
 h1:wx.heap[p1]? =some (.cells #[V.fv,V.av,.int .i64 p.entry,.int .i64 p.handler,V.dv,V.bv] 29 (0,0))
 h2:wx.heap[r2]? =some (.cells #[.slice none 0 0,.slice none 0 0,.int .i64 0,.int .i64 0,.slice none 0 0,.slice none 0 0] 29 (0,0))
 h3:wx.heap[q3]? =some (.cells (zW t).toArray 29 (0,0))
 bel:Below p1 w wx
 rows:Rows wx p1 t.rows
 ges:p1<r2/\r2<q3
section
variable {w:World} {p1 r2 q3:Nat} {V:PV} {p:IProg} {t:PT} {wx:World} (h:OwMid w p1 r2 q3 V p t wx)
include h
theorem OwMid.sz:p1<=wx.heap.size:=Qd (lt_of_block h.h1)
theorem OwMid.grow{r:Row}{ns:List Row}{t':PT}(hp:t.rows.Perm (r::rs))(c:O wx w1)(a0:Rows w1 wx.heap.size ns)(hg:w1.grownBy w' r.blk)
 (g:w'.ownsRow p1 r'.e r'.sz r'.v r'.n r'.cs) (a1:∀k,r'.blk=some k->r.blk=some k∨w1.heap.size<=k) (hq:(r'::(ns++rs)).Perm t'.rows) (hc:((zW t).toArray).setIfInBounds i u=(zW t').toArray):OwMid w p1 r2 q3 V p t' (w'.setCell ⟨q3,i,none⟩ u):=by
 have hr:=h.rows.perm hp;have ho:=hr.own r (.head _);have y:r.e≠29:=vr r (hp.mem_iff.2 (.head _));have keep:∀ {b:Nat} {cs:Array Value},Q wx b cs 29->Q w' b cs 29:=fun hb=>zL hg (zH c hb (lt_of_block hb)) (zC ho hb (.inr y))
 have q:wx.heap.size<=w'.heap.size:=Jn c.size hg.size;have l:Below p1 w w':=h.bel.trans ⟨hg.os.trans c.os,hg.tape.trans c.tape,hg.output.trans c.output,q,fun k hk=>(hg.block k (by have:=h.sz;have:=c.size;omega) (fun e=>by have:=(ho.lt k e.symm).1;omega)).trans (c.block k (by have:=h.sz;omega))⟩;have h1:Rows w1 p1 (r::(ns++rs)):=(hr.append a0 c h.sz).perm List.perm_middle;have j:Rows w' p1 (r'::(ns++rs)):=h1.grow (Below.refl _ _) hg g a1;have h3:=keep h.h3;have a2:=h.ges;refine⟨zR (keep h.h1) (by show p1≠q3;omega),zR (keep h.h2) (by show r2≠q3;omega),by rw[zD h3,hc],l.setCell (by show p1<=q3;omega) _,?_,h.ges⟩;have d:=j.perm hq;refine d.keep fun k hk=>Below.heap_setCell _ _ _ _ (fun e=>?_)
 obtain⟨x,o,m⟩:=Nj.1 hk;have e':k=q3:=e;subst e';exact zC (d.own x o) h3 (.inr (vr x o)) m
end
def uE (w:World)(B g i:Nat)(v:Value)(bt:BT)(l:List BT)(rs:List Row)(what n:Nat)(e:Ending)(w':World):Prop:=
 e=.returned (.tuple #[])/\∃bt',SpSt w' B g i v bt' (l.set i bt') rs/\bt'.blk=xh what n bt.blk/\Chg w (zd v l::bt.rows) w'
structure SzB (bt:BT):Prop where
 par:bt.params.length<=2000000
 ops:bt.ops.length<=2000000
 tos:bt.tos.length<=2000000
 oarg:∀o∈bt.ops,o.1.args.length<=2000000
 earg:∀o∈bt.tos,o.1.args.length<=2000000
theorem ws{n:Nat}{av:Value}(g:what<=5)(hk:bt.ops[k]? =some (o,av))(c:n%bt.ops.length=k):({bt with ops:=bt.ops.set k (spO what n o,av)}:BT).blk=xh what n bt.blk:=by
 have d:=(Jh.1 hk).1;unfold xh BT.blk;simp only[Nr];rw[if_pos Zo,if_neg Zo,if_neg Zo,if_neg Zo,c,xI (x:=o) (by rw[Jr,hk];rfl),Ox]
theorem wZ (v:Value)(l:List BT)(bt:BT):re bt.ov bt.ops∈zd v l::bt.rows:=.tail _ (.tail _ (.head _))
theorem rS (v:Value)(l:List BT)(bt:BT):xg bt.tv bt.tos∈zd v l::bt.rows:=.tail _ (.tail _ (.tail _ (.head _)))
theorem set_same(c:l[i]? =some bt):l.set i bt=l:=by
 apply Oq;intro q;rw[Ov]
 split
 ·rename_i e
  subst e;rw[c,if_pos (Jh.1 c).1]
 ·rfl
theorem wP{B:Nat}{v:Value}{n:Nat}(h:SpSt w B g i v bt l rs)(hs:xh what n bt.blk=bt.blk):uE w B g i v bt l rs what n (.returned (.tuple #[])) w:=
 ⟨rfl,bt,by rw[set_same h.at'];exact h,hs.symm,Chg.refl _ _⟩
section
variable {w:World} {B g i:Nat} {v:Value} {bt:BT} {l:List BT} {rs:List Row} (h:SpSt w B g i v bt l rs)
include h
theorem SpSt.farP(c:bt.pv.ownBlock=some x):x≠g:=by
 have hp:(zd v l::(bt.rows++rs)).Perm (zP bt.pv bt.params::(zd v l::(re bt.ov bt.ops::xg bt.tv bt.tos::(g9 bt.ops++ve bt.tos)++rs))):=List.Perm.swap _ _ _;have h1:=(h.rows.perm hp).apart (g:=x) c;rintro rfl;exact h1 (Nj.2 ⟨zd v l,.head _,h.gb⟩)
theorem SpSt.farO{av:Value}(hk:bt.ops[k]? =some (o,av))(c:av.ownBlock=some x):x≠g/\bt.ov.ownBlock≠some x:=by
 have p1:(g9 bt.ops).Perm (zP av o.args::(bt.ops.eraseIdx k).map fun o=>zP o.2 o.1.args):=tT (fun o:IOp×Value=>zP o.2 o.1.args) hk;generalize (bt.ops.eraseIdx k).map (fun o=>zP o.2 o.1.args)=E at p1
 classical
 have c1:=Jp.1 p1
 have hp:(zd v l::(bt.rows++rs)).Perm (zP av o.args::(re bt.ov bt.ops::(zd v l::zP bt.pv bt.params::xg bt.tv bt.tos::(E++ve bt.tos)++rs))):=by
  unfold BT.rows;refine Jp.2 fun r=>?_
  have:=c1 r;simp only[Nb,Nf] at this ⊢;omega
 have h1:=(h.rows.perm hp).apart (g:=x) c;refine⟨?_,fun e=>h1 (Nj.2 ⟨re bt.ov bt.ops,.head _,e⟩)⟩;rintro rfl;exact h1 (Nj.2 ⟨zd v l,.tail _ (.head _),h.gb⟩)
theorem SpSt.farE{o:IEdge}{av:Value}(hk:bt.tos[k]? =some (o,av))(c:av.ownBlock=some x):x≠g/\bt.tv.ownBlock≠some x:=by
 have p1:(ve bt.tos).Perm (zP av o.args::(bt.tos.eraseIdx k).map fun o=>zP o.2 o.1.args):=tT (fun o:IEdge×Value=>zP o.2 o.1.args) hk;generalize (bt.tos.eraseIdx k).map (fun o=>zP o.2 o.1.args)=E at p1
 classical
 have c1:=Jp.1 p1
 have hp:(zd v l::(bt.rows++rs)).Perm (zP av o.args::(xg bt.tv bt.tos::(zd v l::zP bt.pv bt.params::re bt.ov bt.ops::(g9 bt.ops++E)++rs))):=by
  unfold BT.rows;refine Jp.2 fun r=>?_
  have:=c1 r;simp only[Nb,Nf] at this ⊢;omega
 have h1:=(h.rows.perm hp).apart (g:=x) c;refine⟨?_,fun e=>h1 (Nj.2 ⟨xg bt.tv bt.tos,.head _,e⟩)⟩;rintro rfl;exact h1 (Nj.2 ⟨zd v l,.tail _ (.head _),h.gb⟩)
end
theorem spoil_0{B:Nat}{v:Value}(h:SpSt w B g i v bt l rs){n:Nat}(hn:n<65536)(hz:SzB bt)(a1:0<bt.ops.length):
 G 32 #[.pointer (some ⟨g,i*5,none⟩),I 0,I n] w (uE w B g i v bt l rs 0 n):=by
 have d:w.ownsRow B 76 6 bt.ov bt.ops.length (bt.ops.flatMap zU):=h.rows.own _ (.tail _ (Jz _ (.tail _ (.head _))));obtain⟨xa,oc,m⟩:=zG d;have c:=d;rw[m] at c;have a4:=(zm c).1;obtain⟨ob,oc2,a3,a6,a5⟩:=c.form a1;cases a3;have u:bt.ov.ownBlock=some ob:=by rw[m];rfl
 obtain⟨k,t⟩:∃k,n%bt.ops.length=k:=⟨_,rfl⟩
 have hk:k<bt.ops.length:=by rw[<-t];exact Qj _ a1
 have a8:(n:Int)%(bt.ops.length:Int)=(k:Int):=by rw[<-t];exact(Ou _ _).symm
 obtain⟨⟨o,av⟩,q⟩:∃x,bt.ops[k]? =some x:=⟨_,Jd hk⟩
 have a2:=z9 zX (h.rows.own _ (.head _)) h.gb h.at';have c1:A w g (i*5+1) (F ob bt.ops.length oc):=by rw[<-m];exact a2 1 _ rfl
 have gl:=((h.rows.own _ (.head _)).lt g h.gb).2;have a0:=z9 z7 d u q;have a7:=hz.ops;have oc':A w ob (k*6) _:=a0 0 _ rfl;have of:N w ob (k*6):=(zq Zd z7 d u q 0 Zd).2;have y:=Ja (Jb h (Jb u (Jb q t)));clear h d c m u q t a2 a0 hz a4;go_enter Tryz.func32,Tryz.ntmps32;go_wp2
 first|go_end0|refine bodyPost_ret (results_none rfl _ _ _) rfl ?_
 refine⟨rfl,_,y.out.1.setO y.out.2.1 y.out.2.2.1 (j:=0) (o':=spO 0 n o) Zd ?_ rfl,ws Zd y.out.2.2.1 y.out.2.2.2,(xJ (a:=⟨ob,k*6,none⟩) (r:=re bt.ov bt.ops) y.out.2.1).one (wZ v l bt)⟩;rfl
theorem spoil_1{B:Nat}{v:Value}(h:SpSt w B g i v bt l rs){n:Nat}(hn:n<65536)(hz:SzB bt)(a1:0<bt.ops.length):
 G 32 #[.pointer (some ⟨g,i*5,none⟩),I 1,I n] w (uE w B g i v bt l rs 1 n):=by
 have d:w.ownsRow B 76 6 bt.ov bt.ops.length (bt.ops.flatMap zU):=h.rows.own _ (.tail _ (Jz _ (.tail _ (.head _))));obtain⟨xa,oc,m⟩:=zG d;have c:=d;rw[m] at c;have a4:=(zm c).1;obtain⟨ob,oc2,a3,a6,a5⟩:=c.form a1;cases a3;have u:bt.ov.ownBlock=some ob:=by rw[m];rfl
 obtain⟨k,t⟩:∃k,n%bt.ops.length=k:=⟨_,rfl⟩
 have hk:k<bt.ops.length:=by rw[<-t];exact Qj _ a1
 have a8:(n:Int)%(bt.ops.length:Int)=(k:Int):=by rw[<-t];exact(Ou _ _).symm
 obtain⟨⟨o,av⟩,q⟩:∃x,bt.ops[k]? =some x:=⟨_,Jd hk⟩
 have a2:=z9 zX (h.rows.own _ (.head _)) h.gb h.at';have c1:A w g (i*5+1) (F ob bt.ops.length oc):=by rw[<-m];exact a2 1 _ rfl
 have gl:=((h.rows.own _ (.head _)).lt g h.gb).2;have a0:=z9 z7 d u q;have a7:=hz.ops;have oc':A w ob (k*6+1) _:=a0 1 _ rfl;have of:N w ob (k*6+1):=(zq Zd z7 d u q 1 Zd).2;have y:=Ja (Jb h (Jb u (Jb q t)));clear h d c m u q t a2 a0 hz a4;go_enter Tryz.func32,Tryz.ntmps32;go_wp2
 first|go_end0|refine bodyPost_ret (results_none rfl _ _ _) rfl ?_
 refine⟨rfl,_,y.out.1.setO y.out.2.1 y.out.2.2.1 (j:=1) (o':=spO 1 n o) Zd ?_ rfl,ws Zd y.out.2.2.1 y.out.2.2.2,(xJ (a:=⟨ob,k*6+1,none⟩) (r:=re bt.ov bt.ops) y.out.2.1).one (wZ v l bt)⟩;rfl
theorem spoil_2{B:Nat}{v:Value}(h:SpSt w B g i v bt l rs){n:Nat}(hn:n<65536)(hz:SzB bt)(a1:0<bt.ops.length):
 G 32 #[.pointer (some ⟨g,i*5,none⟩),I 2,I n] w (uE w B g i v bt l rs 2 n):=by
 have d:w.ownsRow B 76 6 bt.ov bt.ops.length (bt.ops.flatMap zU):=h.rows.own _ (.tail _ (Jz _ (.tail _ (.head _))));obtain⟨xa,oc,m⟩:=zG d;have c:=d;rw[m] at c;have a4:=(zm c).1;obtain⟨ob,oc2,a3,a6,a5⟩:=c.form a1;cases a3;have u:bt.ov.ownBlock=some ob:=by rw[m];rfl
 obtain⟨k,t⟩:∃k,n%bt.ops.length=k:=⟨_,rfl⟩
 have hk:k<bt.ops.length:=by rw[<-t];exact Qj _ a1
 have a8:(n:Int)%(bt.ops.length:Int)=(k:Int):=by rw[<-t];exact(Ou _ _).symm
 obtain⟨⟨o,av⟩,q⟩:∃x,bt.ops[k]? =some x:=⟨_,Jd hk⟩
 have a2:=z9 zX (h.rows.own _ (.head _)) h.gb h.at';have c1:A w g (i*5+1) (F ob bt.ops.length oc):=by rw[<-m];exact a2 1 _ rfl
 have gl:=((h.rows.own _ (.head _)).lt g h.gb).2;have a0:=z9 z7 d u q;have a7:=hz.ops;have oc':A w ob (k*6+2) _:=a0 2 _ rfl;have of:N w ob (k*6+2):=(zq Zd z7 d u q 2 Zd).2;have y:=Ja (Jb h (Jb u (Jb q t)));clear h d c m u q t a2 a0 hz a4;go_enter Tryz.func32,Tryz.ntmps32;go_wp2
 first|go_end0|refine bodyPost_ret (results_none rfl _ _ _) rfl ?_
 refine⟨rfl,_,y.out.1.setO y.out.2.1 y.out.2.2.1 (j:=2) (o':=spO 2 n o) Zd ?_ rfl,ws Zd y.out.2.2.1 y.out.2.2.2,(xJ (a:=⟨ob,k*6+2,none⟩) (r:=re bt.ov bt.ops) y.out.2.1).one (wZ v l bt)⟩;rfl
theorem spoil_3{B:Nat}{v:Value}(h:SpSt w B g i v bt l rs){n:Nat}(hn:n<65536)(hz:SzB bt)(a1:0<bt.ops.length):
 G 32 #[.pointer (some ⟨g,i*5,none⟩),I 3,I n] w (uE w B g i v bt l rs 3 n):=by
 have d:w.ownsRow B 76 6 bt.ov bt.ops.length (bt.ops.flatMap zU):=h.rows.own _ (.tail _ (Jz _ (.tail _ (.head _))));obtain⟨xa,oc,m⟩:=zG d;have c:=d;rw[m] at c;have a4:=(zm c).1;obtain⟨ob,oc2,a3,a6,a5⟩:=c.form a1;cases a3;have u:bt.ov.ownBlock=some ob:=by rw[m];rfl
 obtain⟨k,t⟩:∃k,n%bt.ops.length=k:=⟨_,rfl⟩
 have hk:k<bt.ops.length:=by rw[<-t];exact Qj _ a1
 have a8:(n:Int)%(bt.ops.length:Int)=(k:Int):=by rw[<-t];exact(Ou _ _).symm
 obtain⟨⟨o,av⟩,q⟩:∃x,bt.ops[k]? =some x:=⟨_,Jd hk⟩
 have a2:=z9 zX (h.rows.own _ (.head _)) h.gb h.at';have c1:A w g (i*5+1) (F ob bt.ops.length oc):=by rw[<-m];exact a2 1 _ rfl
 have gl:=((h.rows.own _ (.head _)).lt g h.gb).2;have a0:=z9 z7 d u q;have a7:=hz.ops;have oc':A w ob (k*6+3) _:=a0 3 _ rfl;have of:N w ob (k*6+3):=(zq Zd z7 d u q 3 Zd).2;have y:=Ja (Jb h (Jb u (Jb q t)));clear h d c m u q t a2 a0 hz a4;go_enter Tryz.func32,Tryz.ntmps32;go_wp2
 first|go_end0|refine bodyPost_ret (results_none rfl _ _ _) rfl ?_
 refine⟨rfl,_,y.out.1.setO y.out.2.1 y.out.2.2.1 (j:=3) (o':=spO 3 n o) Zd ?_ rfl,ws Zd y.out.2.2.1 y.out.2.2.2,(xJ (a:=⟨ob,k*6+3,none⟩) (r:=re bt.ov bt.ops) y.out.2.1).one (wZ v l bt)⟩;rfl
theorem spoil_4{B:Nat}{v:Value}(h:SpSt w B g i v bt l rs){n:Nat}(hn:n<65536)(hz:SzB bt)(a1:0<bt.ops.length):
 G 32 #[.pointer (some ⟨g,i*5,none⟩),I 4,I n] w (uE w B g i v bt l rs 4 n):=by
 have d:w.ownsRow B 76 6 bt.ov bt.ops.length (bt.ops.flatMap zU):=h.rows.own _ (.tail _ (Jz _ (.tail _ (.head _))));obtain⟨xa,oc,m⟩:=zG d;have c:=d;rw[m] at c;have a4:=(zm c).1;obtain⟨ob,oc2,a3,a6,a5⟩:=c.form a1;cases a3;have u:bt.ov.ownBlock=some ob:=by rw[m];rfl
 obtain⟨k,t⟩:∃k,n%bt.ops.length=k:=⟨_,rfl⟩
 have hk:k<bt.ops.length:=by rw[<-t];exact Qj _ a1
 have a8:(n:Int)%(bt.ops.length:Int)=(k:Int):=by rw[<-t];exact(Ou _ _).symm
 obtain⟨⟨o,av⟩,q⟩:∃x,bt.ops[k]? =some x:=⟨_,Jd hk⟩
 have a2:=z9 zX (h.rows.own _ (.head _)) h.gb h.at';have c1:A w g (i*5+1) (F ob bt.ops.length oc):=by rw[<-m];exact a2 1 _ rfl
 have gl:=((h.rows.own _ (.head _)).lt g h.gb).2;have a0:=z9 z7 d u q;have a7:=hz.ops;have oc':A w ob (k*6+4) _:=a0 4 _ rfl;have of:N w ob (k*6+4):=(zq Zd z7 d u q 4 Zd).2;have y:=Ja (Jb h (Jb u (Jb q t)));clear h d c m u q t a2 a0 hz a4;go_enter Tryz.func32,Tryz.ntmps32;go_wp2
 first|go_end0|refine bodyPost_ret (results_none rfl _ _ _) rfl ?_
 refine⟨rfl,_,y.out.1.setO y.out.2.1 y.out.2.2.1 (j:=4) (o':=spO 4 n o) Zd ?_ rfl,ws Zd y.out.2.2.1 y.out.2.2.2,(xJ (a:=⟨ob,k*6+4,none⟩) (r:=re bt.ov bt.ops) y.out.2.1).one (wZ v l bt)⟩;rfl
theorem spoil_9{B:Nat}{v:Value}(h:SpSt w B g i v bt l rs){n:Nat}(hn:n<65536)(u:SzB bt):
 G 32 #[.pointer (some ⟨g,i*5,none⟩),I 9,I n] w (uE w B g i v bt l rs 9 n):=by
 have c:w.ownsRow B 76 6 bt.ov bt.ops.length (bt.ops.flatMap zU):=h.rows.own _ (.tail _ (Jz _ (.tail _ (.head _))));obtain⟨xa,oc,m⟩:=zG c;have d:=z9 zX (h.rows.own _ (.head _)) h.gb h.at';have o:=fun q (hq:q<5)=>(zq Zd zX (h.rows.own _ (.head _)) h.gb h.at' q hq).2
 have c1:A w g (i*5+1) (.slice xa bt.ops.length oc):=by rw[<-m];exact d 1 _ rfl
 have gl:=((h.rows.own _ (.head _)).lt g h.gb).2;have x:=u.ops;have cj:A w g (i*5+2) _:=d 2 _ rfl;have fj:N w g (i*5+2):=o 2 Zd;have k:=Ja h;clear h c m d o u
 by_cases y:0<bt.ops.length
 ·have t:(0:Int)<(bt.ops.length:Int):=Zo;go_enter Tryz.func32,Tryz.ntmps32;go_wp2
  first|go_end0|refine bodyPost_ret (results_none rfl _ _ _) rfl ?_
  refine⟨rfl,{bt with kind:=(n:Int)%7 },k.out.setB (j:=2) Zd rfl rfl,rfl,(xJ (a:=⟨g,i*5+2,none⟩) (r:=zd v l) k.out.gb).one (.head _)⟩
 ·have t:¬(0:Int)<(bt.ops.length:Int):=Zo;go_enter Tryz.func32,Tryz.ntmps32;go_wp2
  first|go_end0|refine bodyPost_ret (results_none rfl _ _ _) rfl ?_
  refine⟨rfl,{bt with kind:=(n:Int)%7 },k.out.setB (j:=2) Zd rfl rfl,rfl,(xJ (a:=⟨g,i*5+2,none⟩) (r:=zd v l) k.out.gb).one (.head _)⟩
theorem spoil_10{B:Nat}{v:Value}(h:SpSt w B g i v bt l rs){n:Nat}(hn:n<65536)(u:SzB bt):
 G 32 #[.pointer (some ⟨g,i*5,none⟩),I 10,I n] w (uE w B g i v bt l rs 10 n):=by
 have c:w.ownsRow B 76 6 bt.ov bt.ops.length (bt.ops.flatMap zU):=h.rows.own _ (.tail _ (Jz _ (.tail _ (.head _))));obtain⟨xa,oc,m⟩:=zG c;have d:=z9 zX (h.rows.own _ (.head _)) h.gb h.at';have o:=fun q (hq:q<5)=>(zq Zd zX (h.rows.own _ (.head _)) h.gb h.at' q hq).2
 have c1:A w g (i*5+1) (.slice xa bt.ops.length oc):=by rw[<-m];exact d 1 _ rfl
 have gl:=((h.rows.own _ (.head _)).lt g h.gb).2;have x:=u.ops;have cj:A w g (i*5+3) _:=d 3 _ rfl;have fj:N w g (i*5+3):=o 3 Zd;have k:=Ja h;clear h c m d o u
 by_cases y:0<bt.ops.length
 ·have t:(0:Int)<(bt.ops.length:Int):=Zo;go_enter Tryz.func32,Tryz.ntmps32;go_wp2
  first|go_end0|refine bodyPost_ret (results_none rfl _ _ _) rfl ?_
  refine⟨rfl,{bt with a:=(n:Int)%40-2 },k.out.setB (j:=3) Zd rfl rfl,rfl,(xJ (a:=⟨g,i*5+3,none⟩) (r:=zd v l) k.out.gb).one (.head _)⟩
 ·have t:¬(0:Int)<(bt.ops.length:Int):=Zo;go_enter Tryz.func32,Tryz.ntmps32;go_wp2
  first|go_end0|refine bodyPost_ret (results_none rfl _ _ _) rfl ?_
  refine⟨rfl,{bt with a:=(n:Int)%40-2 },k.out.setB (j:=3) Zd rfl rfl,rfl,(xJ (a:=⟨g,i*5+3,none⟩) (r:=zd v l) k.out.gb).one (.head _)⟩
theorem spoil_19{B:Nat}{v:Value}(h:SpSt w B g i v bt l rs){n:Nat}(y:n<65536)(m:SzB bt):
 G 32 #[.pointer (some ⟨g,i*5,none⟩),I 19,I n] w (uE w B g i v bt l rs 19 n):=by
 have c:w.ownsRow B 76 6 bt.ov bt.ops.length (bt.ops.flatMap zU):=h.rows.own _ (.tail _ (Jz _ (.tail _ (.head _))));obtain⟨xa,oc,d⟩:=zG c;have j:=z9 zX (h.rows.own _ (.head _)) h.gb h.at';have o:=fun q (hq:q<5)=>(zq Zd zX (h.rows.own _ (.head _)) h.gb h.at' q hq).2
 have c1:A w g (i*5+1) (.slice xa bt.ops.length oc):=by rw[<-d];exact j 1 _ rfl
 have gl:=((h.rows.own _ (.head _)).lt g h.gb).2;have u:=m.ops;have t:=Ja h;clear h c d j o m
 by_cases x:0<bt.ops.length
 ·have k:(0:Int)<(bt.ops.length:Int):=Zo;go_enter Tryz.func32,Tryz.ntmps32;go_wp2
  first|go_end0|refine bodyPost_ret (results_none rfl _ _ _) rfl ?_
  exact wP t.out rfl
 ·have k:¬(0:Int)<(bt.ops.length:Int):=Zo;go_enter Tryz.func32,Tryz.ntmps32;go_wp2
  first|go_end0|refine bodyPost_ret (results_none rfl _ _ _) rfl ?_
  exact wP t.out rfl
theorem mB{B:Nat}{v:Value}(h:SpSt w B g i v bt l rs){n:Nat}(hn:n<65536)(o:SzB bt)(x:what<=7)(d:bt.ops.length=0):
 G 32 #[.pointer (some ⟨g,i*5,none⟩),I what,I n] w (uE w B g i v bt l rs what n):=by
 have c:w.ownsRow B 76 6 bt.ov bt.ops.length (bt.ops.flatMap zU):=h.rows.own _ (.tail _ (Jz _ (.tail _ (.head _))));obtain⟨xa,oc,j⟩:=zG c;have k:=z9 zX (h.rows.own _ (.head _)) h.gb h.at';have t:=fun q (hq:q<5)=>(zq Zd zX (h.rows.own _ (.head _)) h.gb h.at' q hq).2
 have c1:A w g (i*5+1) (.slice xa bt.ops.length oc):=by rw[<-j];exact k 1 _ rfl
 have gl:=((h.rows.own _ (.head _)).lt g h.gb).2;have m:=o.ops;have u:=Ja (Jb h d);rw[d] at c1;have e8:((what:Int)==8)=false:=Ze;have e9:((what:Int)==9)=false:=Ze;have a1:((what:Int)==10)=false:=Ze;have a0:((what:Int)==11)=false:=Ze;have y:((what:Int)==12)=false:=Ze;clear h c j k t o d m;go_enter Tryz.func32,Tryz.ntmps32;go_wp2
 first|go_end0|refine bodyPost_ret (results_none rfl _ _ _) rfl ?_
 refine wP u.out.1 ?_;unfold xh BT.blk;simp only[Nr];rw[if_pos x,if_pos u.out.2]
theorem spoil_7{B:Nat}{v:Value}(h:SpSt w B g i v bt l rs){n:Nat}(hn:n<65536)(hz:SzB bt)(t:0<bt.ops.length):
 G 32 #[.pointer (some ⟨g,i*5,none⟩),I 7,I n] w (uE w B g i v bt l rs 7 n):=by
 have d:w.ownsRow B 76 6 bt.ov bt.ops.length (bt.ops.flatMap zU):=h.rows.own _ (.tail _ (Jz _ (.tail _ (.head _))));obtain⟨xa,oc,j⟩:=zG d;have c:=d;rw[j] at c;have a3:=(zm c).1;obtain⟨ob,oc2,a1,a5,a4⟩:=c.form t;cases a1;have y:bt.ov.ownBlock=some ob:=by rw[j];rfl
 obtain⟨k,m⟩:∃k,n%bt.ops.length=k:=⟨_,rfl⟩
 have hk:k<bt.ops.length:=by rw[<-m];exact Qj _ t
 have a8:(n:Int)%(bt.ops.length:Int)=(k:Int):=by rw[<-m];exact(Ou _ _).symm
 obtain⟨⟨o,av⟩,u⟩:∃x,bt.ops[k]? =some x:=⟨_,Jd hk⟩
 have a0:=z9 zX (h.rows.own _ (.head _)) h.gb h.at';have c1:A w g (i*5+1) (F ob bt.ops.length oc):=by rw[<-j];exact a0 1 _ rfl
 have gl:=((h.rows.own _ (.head _)).lt g h.gb).2;have a2:=z9 z7 d y u;have a6:=hz.ops;have f1:N w g (i*5+1):=(zq Zd zX (h.rows.own _ (.head _)) h.gb h.at' 1 Zd).2;have a7:(k:Int)<=(oc:Int):=Zo;have q:=Ja (Jb h (Jb j m));clear h d c j y u m a0 a2 hz a3;go_enter Tryz.func32,Tryz.ntmps32;go_wp2
 first|go_end0|refine bodyPost_ret (results_none rfl _ _ _) rfl ?_
 refine⟨rfl,_,q.out.1.cutO q.out.2.1 rfl (Qd hk),?_,(xJ (a:=⟨g,i*5+1,none⟩) (r:=zd v l) q.out.1.gb).one (.head _)⟩;unfold xh BT.blk;simp only[Nr];rw[if_pos Zo,if_neg Zo,if_neg Zo,if_pos (by trivial),q.out.2.2,List.map_take]
theorem spoil_8{B:Nat}{v:Value}(h:SpSt w B g i v bt l rs){n:Nat}(hn:n<65536)(hz:SzB bt):
 G 32 #[.pointer (some ⟨g,i*5,none⟩),I 8,I n] w (uE w B g i v bt l rs 8 n):=by
 have a3:w.ownsRow B 76 6 bt.ov bt.ops.length (bt.ops.flatMap zU):=h.rows.own _ (.tail _ (Jz _ (.tail _ (.head _))));obtain⟨xa,oc,a6⟩:=zG a3;have a5:=z9 zX (h.rows.own _ (.head _)) h.gb h.at';have a9:=fun q (hq:q<5)=>(zq Zd zX (h.rows.own _ (.head _)) h.gb h.at' q hq).2
 have c1:A w g (i*5+1) (.slice xa bt.ops.length oc):=by rw[<-a6];exact a5 1 _ rfl
 have gl:=((h.rows.own _ (.head _)).lt g h.gb).2;have b1:=hz.ops;have a4:w.ownsRow B 3 1 bt.pv bt.params.length (bt.params.map zN):=h.rows.own (zP bt.pv bt.params) (.tail _ (Jz _ (.head _)));obtain⟨pa,pc,t⟩:=zG a4;have c0:A w g (i*5) (.slice pa bt.params.length pc):=by rw[<-t];exact a5 0 _ rfl
 have f0:N w g (i*5):=a9 0 Zd;have b2:=hz.par;have a7:some g≠(Value.slice pa bt.params.length pc).ownBlock:=by rw[<-t];exact fun e=>h.farP e.symm rfl
 have hB:B<=w.heap.size:=by have:=(h.rows.own _ (.head _)).lt g h.gb;omega
 obtain⟨ii,a8,a2,a1,a0⟩:=info_parts Tryz.info_int;have k:=Ja (Jb h (Jb (show w.ownsRow B 3 1 (.slice pa bt.params.length pc) bt.params.length (bt.params.map zN) by rw[<-t];exact a4) (Jb t a7)));clear h a3 a6 a5 a9 hz a4 t a7
 by_cases b3:0<bt.ops.length
 ·have b0:(0:Int)<(bt.ops.length:Int):=Zo;go_enter Tryz.func32,Tryz.ntmps32;go_wp2_with (at_builtin;go_must (refine zK _ rfl (.tmp 163) (.tmp 166) 22 rfl B 3 ii (I 0) 1 8 Tryz.underlying22 a8 a2 a1 a0 rfl Zd (.slice pa bt.params.length pc) bt.params.length (bt.params.map zN) rfl (k.out.2.1.alloc _) (F w.heap.size 1 1) 1 [I ((n:Int)%40)] rfl (yM.one (zI rfl) rfl) (by unfold maxLen;omega) Zo Zt ?_;intro v9 w9 d c o;obtain⟨ra,rc,rfl⟩:=zG d;have d0:A w9 g (i*5) (.slice pa bt.params.length pc):=(c.cell_far _ Zt k.out.2.2.2).trans ((Ok _ _ _ gl).trans c0);have d1:N w9 g (i*5):=(c.frozen_far _ Zt k.out.2.2.2).trans ((Below.frozen ((Below.refl w.heap.size w).alloc (Je _) _) (p:=⟨g,i*5,none⟩) gl).trans f0);have HG:=Ja (Jb d (Jb c o));clear d c o))
  first|go_end0|refine bodyPost_ret (results_none rfl _ _ _) rfl ?_
  have u:(Value.slice pa bt.params.length pc)=bt.pv:=k.out.2.2.1.symm;have y:=(Below.refl w.heap.size w).alloc (Je _) (T #[I ((n:Int)%40)] 3);have m:=HG.out.2.1;rw[u] at m;refine⟨rfl,{bt with params:=bt.params++ [(n:Int)%40],pv:=.slice ra (bt.params.length+1) rc },k.out.1.growB (j:=0) (r:=zP bt.pv bt.params) (r':=zP (.slice ra (bt.params.length+1) rc) (bt.params++ [(n:Int)%40])) (Uq _) y m ?_ (fun x e=>?_) (Uq _) Zd rfl,rfl,?_⟩
  ·show w9.ownsRow B 3 1 _ (bt.params++ [(n:Int)%40]).length ((bt.params++ [(n:Int)%40]).map zN)
   rw[Jk,Ju,Js];exact HG.out.1
  ·rcases HG.out.2.2 with e2|e2
   ·left;rw[<-e,<-u];exact e2.symm
   ·right;have e3:=e2.symm.trans e;simp at e3;omega
  ·exact((Chg.below y).trans ((uY (r:=zP bt.pv bt.params) m).one (.tail _ (.head _)))).trans ((xJ (a:=⟨g,i*5,none⟩) (r:=zd v l) k.out.1.gb).one (.head _))
 ·have b0:¬(0:Int)<(bt.ops.length:Int):=Zo;go_enter Tryz.func32,Tryz.ntmps32;go_wp2_with (at_builtin;go_must (refine zK _ rfl (.tmp 163) (.tmp 166) 22 rfl B 3 ii (I 0) 1 8 Tryz.underlying22 a8 a2 a1 a0 rfl Zd (.slice pa bt.params.length pc) bt.params.length (bt.params.map zN) rfl (k.out.2.1.alloc _) (F w.heap.size 1 1) 1 [I ((n:Int)%40)] rfl (yM.one (zI rfl) rfl) (by unfold maxLen;omega) Zo Zt ?_;intro v9 w9 d c o;obtain⟨ra,rc,rfl⟩:=zG d;have d0:A w9 g (i*5) (.slice pa bt.params.length pc):=(c.cell_far _ Zt k.out.2.2.2).trans ((Ok _ _ _ gl).trans c0);have d1:N w9 g (i*5):=(c.frozen_far _ Zt k.out.2.2.2).trans ((Below.frozen ((Below.refl w.heap.size w).alloc (Je _) _) (p:=⟨g,i*5,none⟩) gl).trans f0);have HG:=Ja (Jb d (Jb c o));clear d c o))
  first|go_end0|refine bodyPost_ret (results_none rfl _ _ _) rfl ?_
  have u:(Value.slice pa bt.params.length pc)=bt.pv:=k.out.2.2.1.symm;have y:=(Below.refl w.heap.size w).alloc (Je _) (T #[I ((n:Int)%40)] 3);have m:=HG.out.2.1;rw[u] at m;refine⟨rfl,{bt with params:=bt.params++ [(n:Int)%40],pv:=.slice ra (bt.params.length+1) rc },k.out.1.growB (j:=0) (r:=zP bt.pv bt.params) (r':=zP (.slice ra (bt.params.length+1) rc) (bt.params++ [(n:Int)%40])) (Uq _) y m ?_ (fun x e=>?_) (Uq _) Zd rfl,rfl,?_⟩
  ·show w9.ownsRow B 3 1 _ (bt.params++ [(n:Int)%40]).length ((bt.params++ [(n:Int)%40]).map zN)
   rw[Jk,Ju,Js];exact HG.out.1
  ·rcases HG.out.2.2 with e2|e2
   ·left;rw[<-e,<-u];exact e2.symm
   ·right;have e3:=e2.symm.trans e;simp at e3;omega
  ·exact((Chg.below y).trans ((uY (r:=zP bt.pv bt.params) m).one (.tail _ (.head _)))).trans ((xJ (a:=⟨g,i*5,none⟩) (r:=zd v l) k.out.1.gb).one (.head _))
theorem spoil_11{B:Nat}{v:Value}(h:SpSt w B g i v bt l rs){n:Nat}(hn:n<65536)(hz:SzB bt):
 G 32 #[.pointer (some ⟨g,i*5,none⟩),I 11,I n] w (uE w B g i v bt l rs 11 n):=by
 have u:w.ownsRow B 76 6 bt.ov bt.ops.length (bt.ops.flatMap zU):=h.rows.own _ (.tail _ (Jz _ (.tail _ (.head _))));obtain⟨xa,oc,a4⟩:=zG u;have a3:=z9 zX (h.rows.own _ (.head _)) h.gb h.at';have a6:=fun q (hq:q<5)=>(zq Zd zX (h.rows.own _ (.head _)) h.gb h.at' q hq).2
 have c1:A w g (i*5+1) (.slice xa bt.ops.length oc):=by rw[<-a4];exact a3 1 _ rfl
 have gl:=((h.rows.own _ (.head _)).lt g h.gb).2;have b0:=hz.ops;have c:w.ownsRow B 79 2 bt.tv bt.tos.length (bt.tos.flatMap za):=h.rows.own _ (.tail _ (Jz _ (.tail _ (.tail _ (.head _)))));obtain⟨ya,ec,t⟩:=zG c;have c4:A w g (i*5+4) (.slice ya bt.tos.length ec):=by rw[<-t];exact a3 4 _ rfl
 by_cases a2:0<bt.tos.length
 ·skip
  have m:=c;rw[t] at m;obtain⟨eb,b3,a8,b2,b1⟩:=m.form a2;cases a8;have a1:bt.tv.ownBlock=some eb:=by rw[t];rfl
  obtain⟨⟨o,av⟩,a0⟩:∃x,bt.tos[0]? =some x:=⟨_,Jd a2⟩
  have a5:=z9 yd c a1 a0;have e0:A w eb 0 _:=a5 0 _ rfl;have ef:N w eb 0:=(zq Zd yd c a1 a0 0 Zd).2;have a7:(0:Int)<(bt.tos.length:Int):=Zo;have d:=Ja (Jb h (Jb a1 a0));clear h u a4 a3 a6 hz c m t a1 a0 a5
  by_cases a9:0<bt.ops.length
  ·have y:(0:Int)<(bt.ops.length:Int):=Zo;go_enter Tryz.func32,Tryz.ntmps32;go_wp2
   first|go_end0|refine bodyPost_ret (results_none rfl _ _ _) rfl ?_
   refine⟨rfl,_,d.out.1.setE (k:=0) d.out.2.1 d.out.2.2 (j:=0) (o':= {o with block:=(n:Int)%9-1 }) Zd ?_ rfl,?_,(xJ (a:=⟨eb,0,none⟩) (r:=xg bt.tv bt.tos) d.out.2.1).one (rS v l bt)⟩
   ·rfl
   ·unfold xh BT.blk;simp only;rw[if_neg Zo,if_neg Zo,if_neg Zo,if_neg Zo,if_pos (by trivial),xI (x:=o) (by rw[Jr,d.out.2.2];rfl),Ox]
  ·have y:¬(0:Int)<(bt.ops.length:Int):=Zo;go_enter Tryz.func32,Tryz.ntmps32;go_wp2
   first|go_end0|refine bodyPost_ret (results_none rfl _ _ _) rfl ?_
   refine⟨rfl,_,d.out.1.setE (k:=0) d.out.2.1 d.out.2.2 (j:=0) (o':= {o with block:=(n:Int)%9-1 }) Zd ?_ rfl,?_,(xJ (a:=⟨eb,0,none⟩) (r:=xg bt.tv bt.tos) d.out.2.1).one (rS v l bt)⟩
   ·rfl
   ·unfold xh BT.blk;simp only;rw[if_neg Zo,if_neg Zo,if_neg Zo,if_neg Zo,if_pos (by trivial),xI (x:=o) (by rw[Jr,d.out.2.2];rfl),Ox]
 ·have a7:¬(0:Int)<(bt.tos.length:Int):=Zo;have d:=Ja (Jb h a2);clear h u a4 a3 a6 hz c t a2
  by_cases a9:0<bt.ops.length
  ·have y:(0:Int)<(bt.ops.length:Int):=Zo;go_enter Tryz.func32,Tryz.ntmps32;go_wp2
   first|go_end0|refine bodyPost_ret (results_none rfl _ _ _) rfl ?_
   refine wP d.out.1 ?_;have e:bt.tos=[]:=Nz (by have:=d.out.2;omega);unfold xh BT.blk;rw[e];rfl
  ·have y:¬(0:Int)<(bt.ops.length:Int):=Zo;go_enter Tryz.func32,Tryz.ntmps32;go_wp2
   first|go_end0|refine bodyPost_ret (results_none rfl _ _ _) rfl ?_
   refine wP d.out.1 ?_;have e:bt.tos=[]:=Nz (by have:=d.out.2;omega);unfold xh BT.blk;rw[e];rfl
section
variable {P:Program} {ops:Array Oper} {Q:Exit->Act->World->Prop} {md:Region.Mode} {S:World->Prop} {L:Nat}
def uO (P:Program)(md:Region.Mode)(ops:Array Oper)(Q:Exit->Act->World->Prop)(S:World->Prop)(L:Nat):Nat->Array Bool->Act->World->Prop
 |0,listed,a,w=>Region.ready md ops listed=[]/\Q .normal a w
 |fuel+1,listed,a,w=>
  (Region.ready md ops listed=[]->Q .normal a w)/\
  ∀i∈Region.ready md ops listed,wpOp P ops Q i (fun a' w'=>(i≠L->S w')/\uO P md ops Q S L fuel (listed.setIfInBounds i true) a' w') a w
theorem pL:∀(fuel:Nat) (listed:Array Bool) (a:Act) (w:World),uO P md ops Q S L fuel listed a w->wpAny P md ops Q fuel listed a w
 |0,_,_,_,h=>h
 |fuel+1,_,_,_,h=>⟨h.1,fun i hi=>wpOp_mono (fun a' w' h'=>pL fuel _ a' w' h'.2) (h.2 i hi)⟩
def mw (md:Region.Mode)(ops:Array Oper)(L i:Nat):Bool:=((ops[L]?).map fun o=>o.after.any fun e=>Region.binds md e && e.on==i).getD false
theorem waits_ne(d:mw md ops L i=true)(hi:c.getD i true=false)(l:j∈Region.ready md ops c):j≠L:=by
 rintro rfl;obtain⟨_,oj,k,g⟩:=mem_ready.1 l;unfold mw at d;rw[k] at d;obtain⟨e,m,hb⟩:=Array.any_eq_true'.1 d;simp only[Jm,beq_iff_eq] at hb;have h1:=g e m hb.1;rw[hb.2] at h1;rcases Nat.lt_or_ge i c.size with h|h
 ·simp[h] at hi h1;rw[hi] at h1;cases h1
 ·simp[Array.getElem?_eq_none h] at h1
theorem nD{v:Value}(hi:ops[i]? =some oi)(a2:mw md ops L i=true)(l:∀(j:Nat) (o:Oper) cs b,ops[j]? =some o->o.op≠ .select cs b)
 (hQ:∀c a w,Q (.panic c) (a.put oi.dst v) w->Q (.panic c) a w):
 ∀(fuel:Nat) (listed:Array Bool) (a:Act) (w:World),
  (∀j oj,ops[j]? =some oj->j≠i->listed.getD j true=false->(∀e∈oj.after,Region.binds md e=true->e.on≠i)->oi.apart ops oj=true)->
  i∈Region.ready md ops listed->YieldsIf P ops S oi v a->S w->
  uO P md ops Q S L fuel (listed.setIfInBounds i true) (a.put oi.dst v) w->uO P md ops Q S L (fuel+1) listed a w:=by
 intro fuel
 induction fuel with
 |zero=>
  intro listed a w _ hr x u H;refine⟨fun h=>(by rw[h] at hr;cases hr),fun j hj=>?_⟩
  by_cases d:j=i
  ·subst d;exact x.wpOp hi u ⟨fun _=>u,H⟩
  ·have:=ready_mono hj d;rw[H.1] at this
   cases this
 |succ fuel ih=>
  intro listed a w g hr x u H;refine⟨fun h=>(by rw[h] at hr;cases hr),fun j hj=>?_⟩
  by_cases d:j=i
  ·subst d;exact x.wpOp hi u ⟨fun _=>u,H⟩
  ·have h1:=H.2 j (ready_mono hj d);have a3:j≠L:=waits_ne a2 (mem_ready.1 hr).1 hj;obtain⟨q,oj,m,a1⟩:=mem_ready.1 hj
   have a0:∀e∈oj.after,Region.binds md e=true->e.on≠i:=fun e he hb heq=>by
    have h1:=a1 e he hb;have h0:=(mem_ready.1 hr).1;rw[heq] at h1;rcases Nat.lt_or_ge i listed.size with h'|h'
    ·simp[h'] at h0 h1;rw[h0] at h1;cases h1
    ·simp[Array.getElem?_eq_none h'] at h1
   have h2:=wpOp_putIf m (g j oj m d q a0) (fun cs b=>l i oi cs b hi) (fun cs b=>l j oj cs b m) hQ x h1
   have t:∀k ok,ops[k]? =some ok->k≠i->(listed.setIfInBounds j true).getD k true=false->
    (∀e∈ok.after,Region.binds md e=true->e.on≠i)->oi.apart ops ok=true:=fun k ok hk hki hun hno=>by
    refine g k ok hk hki ?_ hno
    by_cases y:j=k
    ·subst y;exact q
    ·rw[getD_set_ne true y] at hun;exact hun
   refine wpOp_mono (fun a' w' h3=>⟨h3.2.1,ih (listed.setIfInBounds j true) a' w' t (ready_mono hr (Ne.symm d)) h3.1 (h3.2.1 a3) ?_⟩) h2;rw[Array.setIfInBounds_comm _ _ d];exact h3.2.2
theorem zF{v:Value}{fuel:Nat}{d:Array Bool}{a:Act}(hi:ops[i]? =some oi)(g:mw md ops L i=true)
 (hs:Region.noSelect ops=true) (hf:Region.free md ops d i=true) (hr:(Region.ready md ops d).contains i=true)
 (l:∀c a w,Q (.panic c) (a.put oi.dst v) w->Q (.panic c) a w) (j:YieldsIf P ops S oi v a) (k:S w)
 (h:uO P md ops Q S L fuel (d.setIfInBounds i true) (a.put oi.dst v) w):uO P md ops Q S L (fuel+1) d a w:=
 nD hi g (Region.noSelect_spec hs) l fuel d a w (Region.free_spec hi hf) (by simpa using hr) j k h
theorem Tl(i:Nat){v:Value}{fuel:Nat}{d:Array Bool}{a:Act}(h:uO P md ops Q S L fuel (d.setIfInBounds i true) (a.put oi.dst v) w)(hi:ops[i]? =some oi:=by rfl)(g:mw md ops L i=true:=by kernel_rfl)
 (hs:Region.noSelect ops=true:=by kernel_rfl) (hf:Region.free md ops d i=true:=by kernel_rfl) (hr:(Region.ready md ops d).contains i=true:=by kernel_rfl)
 (l:∀c a w,Q (.panic c) (a.put oi.dst v) w->Q (.panic c) a w:=by exact fun _ _ _ h=>h) (j:YieldsIf P ops S oi v a:=by exact Or.inl ⟨by rfl,by intro w hSw;(try dsimp only at hSw);go_simp;try with_reducible rfl⟩) (k:S w:=by assumption):uO P md ops Q S L (fuel+1) d a w:=
 zF hi g hs hf hr l j k h
def zS (P:Program)(md:Region.Mode)(ops:Array Oper)(Q:Exit->Act->World->Prop)(S:World->Prop)(L:Nat)(fuel:Nat)(listed:Array Bool)(a:Act)(w:World)(rs:List Nat):Prop:=
 ∀i∈rs,wpOp P ops Q i (fun a' w'=>(i≠L->S w')/\uO P md ops Q S L fuel (listed.setIfInBounds i true) a' w') a w
theorem zS.nil{fuel:Nat}{a:Act}:zS P md ops Q S L fuel c a w []:=fun _ h=>by cases h
theorem zS.cons{fuel:Nat}{a:Act}{o:Oper}{rs:List Nat}(ho:ops[i]? =some o)
 (h:∀K':Act->World->Prop,Shut (∀a w,S w->(S w->uO P md ops Q S L fuel (c.setIfInBounds i true) a w)->K' a w)->if Region.wanted o (yielded ops a.tmps)=true then Oper.wp P o a w K' Q else K' (a.put o.dst undef) w)
 (hs:zS P md ops Q S L fuel c a w rs):zS P md ops Q S L fuel c a w (i::rs):=fun j d=>by
 rcases Jq.1 d with rfl|d
 ·exact wpOp_step ho (fun K' hK=>h K' (fun a w hS hW=>hK a w ⟨fun _=>hS,hW hS⟩))
 ·exact hs j d
theorem zS.last{fuel:Nat}{a:Act}{o:Oper}(ho:ops[L]? =some o)
 (h:∀K':Act->World->Prop,Shut (∀a w,uO P md ops Q S L fuel (c.setIfInBounds L true) a w->K' a w)->if Region.wanted o (yielded ops a.tmps)=true then Oper.wp P o a w K' Q else K' (a.put o.dst undef) w):
 zS P md ops Q S L fuel c a w [L]:=fun j d=>by
 rcases Jq.1 d with rfl|d
 ·exact wpOp_step ho (fun K' hK=>h K' (fun a w hW=>hK a w ⟨fun e=>absurd rfl e,hW⟩))
 ·cases d
theorem z8{rs:List Nat}{fuel:Nat}{a:Act}(hr:Region.ready md ops c=rs)(d:rs≠ [])
 (h:zS P md ops Q S L fuel c a w rs):uO P md ops Q S L (fuel+1) c a w:=⟨fun h0=>absurd (hr ▸ h0) d,hr ▸ h⟩
theorem xj{listed:Array Bool}{a:Act}(hr:Region.ready md ops listed=[])(h:Q .normal a w):∀fuel,uO P md ops Q S L fuel listed a w
 |0=>⟨hr,h⟩
 |_+1=>⟨fun _=>h,by rw[hr];simp⟩
theorem yQ{id:Nat}{a:Act}(L:Nat)(hm:P.follows .mixedOrders=true)(c:S w.drew)
 (h:S w.drew->uO P .any ops Q S L ops.size (Array.replicate ops.size false) a w.drew):(Code.region id ops true).wp P Q a w:=
 wp_region_any hm (pL _ _ _ _ (h c))
end
theorem spoil_5{B:Nat}{v:Value}(h:SpSt w B g i v bt l rs){n:Nat}(hn:n<65536)(hz:SzB bt)(a8:0<bt.ops.length):
 G 32 #[.pointer (some ⟨g,i*5,none⟩),I 5,I n] w (uE w B g i v bt l rs 5 n):=by
 have m:w.ownsRow B 76 6 bt.ov bt.ops.length (bt.ops.flatMap zU):=h.rows.own _ (.tail _ (Jz _ (.tail _ (.head _))));obtain⟨xa,oc,a0⟩:=zG m;have j:=m;rw[a0] at j;have b5:=(zm j).1;obtain⟨ob,oc2,b4,b9,b8⟩:=j.form a8;cases b4;have t:bt.ov.ownBlock=some ob:=by rw[a0];rfl
 obtain⟨k,a1⟩:∃k,n%bt.ops.length=k:=⟨_,rfl⟩
 have hk:k<bt.ops.length:=by rw[<-a1];exact Qj _ a8
 have c4:(n:Int)%(bt.ops.length:Int)=(k:Int):=by rw[<-a1];exact(Ou _ _).symm
 obtain⟨⟨o,av⟩,q⟩:∃x,bt.ops[k]? =some x:=⟨_,Jd hk⟩
 have a9:=z9 zX (h.rows.own _ (.head _)) h.gb h.at';have c1:A w g (i*5+1) (F ob bt.ops.length oc):=by rw[<-a0];exact a9 1 _ rfl
 have gl:=((h.rows.own _ (.head _)).lt g h.gb).2;have a7:=z9 z7 m t q;have c0:=hz.ops;have a6:w.ownsRow B 3 1 av o.args.length (o.args.map zN):=h.rows.own (zP av o.args) (.tail _ (Jz _ (.tail _ (.tail _ (.tail _ (Jz _ (Oj (Ji q))))))));obtain⟨aa,ac,d⟩:=zG a6;have c8:o.args.length<=2000000:=hz.oarg _ (Ji q);have c5:A w ob (k*6+5) (.slice aa o.args.length ac):=by rw[<-d];exact a7 5 _ rfl
 have b7:N w ob (k*6+5):=(zq Zd z7 m t q 5 Zd).2;have a2:ob<w.heap.size:=((h.rows.own _ (.tail _ (Jz _ (.tail _ (.head _))))).lt ob t).2;have s1:∀o,A (w.drew.alloc o) g (i*5+1) (F ob bt.ops.length oc):=fun o=>(Ok w.drew _ _ gl).trans c1
 have s5:∀o,A (w.drew.alloc o) ob (k*6+5) _:=fun o=>(Ok w.drew _ _ a2).trans c5
 have f5:∀o,N (w.drew.alloc o) ob (k*6+5):=fun o=>(Below.frozen ((Below.refl w.heap.size w.drew).alloc (Je _) o) (p:=⟨ob,k*6+5,none⟩) a2).trans b7
 have a3:=fun x (hx:av.ownBlock=some x)=>h.farO q hx
 have hB:B<=w.heap.size:=by have:=(h.rows.own _ (.head _)).lt g h.gb;omega
 have HN:=Ja (show some g≠(Value.slice aa o.args.length ac).ownBlock/\some ob≠(Value.slice aa o.args.length ac).ownBlock by rw[<-d];exact⟨fun e=>(a3 g e.symm).1 rfl,fun e=>(a3 ob e.symm).2 t⟩);have HR:=Ja (show(w.alloc (T #[I ((n:Int)/7%20)] 3)).drew.ownsRow B 3 1 (.slice aa o.args.length ac) o.args.length (o.args.map zN)/\yM (w.alloc (T #[I ((n:Int)/7%20)] 3)).drew 1 (F w.heap.size 1 1) 1 [I ((n:Int)/7%20)] by rw[<-d];exact⟨a6.alloc _,yM.one (w:=(w.alloc (T #[I ((n:Int)/7%20)] 3)).drew) (zI (W:=w) rfl) rfl⟩);have c3:IntKind.i64.wrap ((n:Int)/7)=(n:Int)/7:=Om _ Zo;have c2:((n:Int)/7).tmod 20=(n:Int)/7%20:=Qc Zo;obtain⟨ii,b6,b3,b2,b1⟩:=info_parts Tryz.info_int;have u:=Ja (Jb h (Jb t (Jb q (Jb d a1))));clear h m j a0 t q a1 a9 a7 hz b5 a6 d a3;go_enter Tryz.func32,Tryz.ntmps32;go_wp2;refine wp_region_noPanic ?_;refine yQ (S:=(fun w'=>A w' g (i*5+1) (F ob bt.ops.length oc)/\A w' ob (k*6+5) (.slice aa o.args.length ac))) 20 Zk ⟨c1,c5⟩ (fun hHeld=>?_);refine Tl 0 ?_
 try simp only[Yp]
 refine Tl 1 ?_
 try simp only[Yp]
 refine Tl 2 ?_
 try simp only[Yp]
 refine Tl 3 ?_
 try simp only[Yp]
 refine Tl 4 ?_
 try simp only[Yp]
 refine Tl 5 ?_
 try simp only[Yp]
 refine Tl 6 ?_
 try simp only[Yp]
 refine Tl 7 ?_
 try simp only[Yp]
 refine Tl 8 ?_
 try simp only[Yp]
 refine Tl 9 ?_
 try simp only[Yp]
 refine Tl 10 ?_
 try simp only[Yp]
 refine Tl 11 ?_
 try simp only[Yp]
 refine Tl 12 ?_
 try simp only[Yp]
 refine Tl 13 ?_
 try simp only[Yp]
 refine Tl 14 ?_
 try simp only[Yp]
 refine Tl 15 ?_
 try simp only[Yp]
 refine z8 (rs:=[16]) Zk Zs ?_;refine zS.cons (o:=_) rfl (fun K hK=>?_) ?_
 ·skip
  go_simp;refine hK.out _ _ ⟨s1 _,s5 _⟩ (fun hHeld=>?_);clear hK K
  try simp only[Yp]
  refine z8 (rs:=[17]) Zk Zs ?_;refine zS.cons (o:=_) rfl (fun K hK=>?_) ?_
  ·skip
   (refine yG (by rfl) (.tmp 100) (.tmp 104) _ (by rfl) B 3 ii (I 0) 1 8 Tryz.underlying22 b6 b3 b2 b1 rfl Zo (.slice aa o.args.length ac) o.args.length (o.args.map zN) (by rfl) HR.out.1 (F w.heap.size 1 1) 1 [I ((n:Int)/7%20)] (by rfl) HR.out.2 (by unfold maxLen;omega) Zo Zt ?_;intro ra rc w9 y c a5;have c7:N w9 ob (k*6+5):=(c.frozen_far _ Zt HN.out.2).trans (f5 _);(try dsimp only))
   refine hK.out _ _ ⟨(c.cell_far _ Zt HN.out.1).trans (s1 _),(c.cell_far _ Zt HN.out.2).trans (s5 _)⟩ (fun hHeld=>?_);clear hK K
   try simp only[Yp]
   refine z8 (rs:=[18]) Zk Zs ?_;refine zS.cons (o:=_) rfl (fun K hK=>?_) ?_
   ·skip
    go_simp;refine hK.out _ _ Zz (fun hHeld=>?_);clear hK K
    try simp only[Yp]
    refine Tl 19 ?_
    try simp only[Yp]
    refine z8 (rs:=[20]) Zk Zs ?_;refine zS.last (o:=_) rfl (fun K hK=>?_);go_simp;refine hK.out _ _ ?_;clear hK K
    try simp only[Yp]
    refine xj Zk (NoPanic.normal ?_) _;have HG:=Ja (Jb y (Jb c a5));clear y c a5;go_wp2
    first|go_end0|refine bodyPost_ret (results_none rfl _ _ _) rfl ?_
    have b0:O w (w.drew.alloc (T #[I ((n:Int)/7%20)] 3)):=((Below.refl w.heap.size w).drew).alloc Zs _;have d:=u.out.2.2.2.1;have a4:=HG.out.2.1;rw[<-d] at a4;refine⟨rfl,_,u.out.1.growO (w1:=w.drew.alloc (T #[I ((n:Int)/7%20)] 3)) (x:=(n:Int)/7%20) u.out.2.1 u.out.2.2.1 b0 a4 HG.out.1 (fun x e=>?_),?_,?_⟩
    ·rcases HG.out.2.2 with e2|e2
     ·left;rw[<-e,d];exact e2.symm
     ·right;have e3:=e2.symm.trans e;simp at e3;omega
    ·show({bt with ops:=bt.ops.set k (spO 5 n o,_)}:BT).blk=_
     have e:=ws (what:=5) (av:=av) Zd u.out.2.2.1 u.out.2.2.2.2;rw[<-e];unfold BT.blk;simp only[Ox]
    ·have hm:zP av o.args∈zd v l::bt.rows:=.tail _ (.tail _ (.tail _ (.tail _ (Jz _ (Oj (Ji u.out.2.2.1))))));exact((Chg.below b0).trans ((uY (r:=zP av o.args) a4).one hm)).trans ((xJ (a:=⟨ob,k*6+5,none⟩) (r:=re bt.ov bt.ops) u.out.2.1).one (wZ v l bt))
   exact zS.nil
  exact zS.nil
 exact zS.nil
structure SK where
 sb:Nat
 rb:Nat
 kb:Nat
 rm:Nat
 n:Nat
 B:Nat
 V:PV
 fv:Value
def slCells (K:SK)(p:IProg)(k:Nat):Array Value:=#[K.V.fv,K.V.av,I p.entry,I p.handler,K.V.dv,K.V.bv,K.fv,.map (some K.rm),F K.rb K.n K.n,F K.kb K.n K.n,I k]
def tr (a:Rg):List Value:=[U (a.lo:Int),U (a.hi:Int)]
structure SlvAt (w:World) (K:SK) (p:IProg) (bls:List IBlk) (k:Nat) (s:Slv):Prop where
 prog:ProgIn w K.B K.V p
 blks:wX w K.B K.fv bls
 map:bd w K.rm 17 ruG
 cell:w.heap[K.sb]? =some (.cells (slCells K p k) 99 (0,0))
 row:w.heap[K.rb]? =some (.cells (s.r.flatMap tr).toArray 45 (0,0))
 kn:w.heap[K.kb]? =some (.cells (s.kn.map Value.bool).toArray 4 (0,0))
 oks:OkS K.n s
 n64:K.n<=1000000
 lt:K.B<=K.sb/\K.B<=K.rb/\K.B<=K.kb/\K.B<=K.rm
 ne:K.sb≠K.rb/\K.sb≠K.kb/\K.sb≠K.rm/\K.rb≠K.kb/\K.rb≠K.rm/\K.kb≠K.rm
theorem SlvAt.below{K:SK}{p:IProg}{c:List IBlk}{s:Slv}(h:SlvAt w K p c k s)(hb:O w w'):SlvAt w' K p c k s:=by
 have h1:=lt_of_block h.cell;have hB:K.B<=w.heap.size:=Qd (Nat.lt_of_le_of_lt h.lt.1 h1);exact⟨h.prog.below (hb.mono hB),h.blks.below yT (hb.mono hB),h.map.below hb,(hb.block _ h1).trans h.cell,(hb.block _ (lt_of_block h.row)).trans h.row,(hb.block _ (lt_of_block h.kn)).trans h.kn,h.oks,h.n64,h.lt,h.ne⟩
theorem SlvAt.rcell{K:SK}{p:IProg}{c:List IBlk}{s:Slv}(h:SlvAt w K p c k s){v:Int}(d:0<=v/\v<K.n):
 A w K.rb (v.toNat*2) (U ((s.get v).lo:Int))/\A w K.rb (v.toNat*2+1) (U ((s.get v).hi:Int)):=by
 have hl:v.toNat<s.r.length:=by rw[h.oks.rl];omega
 have hg:s.r[v.toNat]? =some (s.get v):=by
  unfold Slv.get;rw[Jj,Jd hl];rfl
 exact⟨by have:=oW (f:=tr) (n:=2) (fun _=>rfl) h.row hg (j:=0) rfl;rw[Ng,Uk] at this;exact this,by have:=oW (f:=tr) (n:=2) (fun _=>rfl) h.row hg (j:=1) rfl;rw[Ng] at this;exact this⟩
theorem afe (w:World)(n:Nat):G 122 #[U n] w (fun e w'=>e=.returned (.agg #[U n,U n])/\O w w'):=afP w n
theorem afX(sv:Value)(av:Value)(h1:o.code=1)(p:IProg)(s:Slv):
 G 96 #[sv,aam o av] w (lx w (afq p s o)):=by
 rw[show afq p s o=agn o.n from if_pos h1];obtain⟨c,d,a,b,x,al⟩:=o;subst h1;unfold aam;have h:=Ja (fun W=>afe W x);go_enter Tryz.func96,Tryz.ntmps96;go_wp2_with (go_at_call 122;go_must (refine(h.out _).mono ?_;rintro e w1 ⟨rfl,g⟩;have hk:Q w1 (w.heap.size+1) #[U 0,U 0] 45:=zH g (zI Zs) Zs;have f0:=zA (i:=0) hk rfl;have f1:=zA (i:=1) hk rfl;have g0:=zE (i:=0) hk;have g1:=zE (i:=1) hk;have j:=lt_of_block hk;have k:=Below.trans (show O w _ from Zv) (g.mono Zy);clear g hk))
 refine bodyPost_ret (v:=.agg #[U x,U x]) ?_ rfl ⟨rfl,Zj⟩;rw[zM rfl];go_simp
theorem SlvAt.cells{K:SK}{p:IProg}{c:List IBlk}{s:Slv}(h:SlvAt w K p c k s):
 A w K.sb 4 K.V.dv/\A w K.sb 7 (.map (some K.rm))/\A w K.sb 8 (F K.rb K.n K.n)/\A w K.sb 9 (F K.kb K.n K.n)/\A w K.sb 10 (I k)/\A w K.sb 6 K.fv:=
 ⟨zA h.cell rfl,zA h.cell rfl,zA h.cell rfl,zA h.cell rfl,zA h.cell rfl,zA h.cell rfl⟩
theorem agC{K:SK}{p:IProg}{a5:List IBlk}{s:Slv}(h:SlvAt w K p a5 k s)(av:Value)(h2:o.code=2)(ha:0<=o.a/\o.a<p.data.length)(hn:o.n<65536):
 G 96 #[Y K.sb,aam o av] w (lx w (afq p s o)):=by
 obtain⟨c,d,a,b,n,al⟩:=o;have ha:0<=a/\a<p.data.length:=ha;have hn:n<65536:=hn;obtain⟨j,rfl⟩:∃j:Nat,a=j:=⟨a.toNat,by omega⟩
 have h2:c=2:=h2;subst h2;rw[show afq p s ⟨2,d,j,b,n,al⟩=agn (((p.data.getD j ⟨0,0,0⟩).addr+n)%65536) from rfl];unfold aam;obtain⟨x,hx⟩:∃x,p.data[j]? =some x:=⟨_,Jd Zo⟩
 obtain⟨da,dc,q,a1,a2⟩:=h.prog.data.form;have m:=h.prog.data;rw[q] at m;obtain⟨db,dq,rfl,a3,l⟩:=m.get hx;obtain⟨y,hy⟩:∃y,(x.addr+n)%65536=y:=⟨_,rfl⟩
 rw[show(p.data.getD j ⟨0,0,0⟩)=x by rw[Jj,hx];rfl,hy];have a6:IntKind.u16.wrap ((x.addr:Int)+n)=(y:Int):=by rw[xY];omega
 have a4:K.B<=w.heap.size:=Qd (Nat.lt_of_le_of_lt h.lt.1 (lt_of_block h.cell));have a7:=lt_of_block h.cell;have hj:j<p.data.length:=Zo;have HC:=Ja (show ∀W,O w W->A W K.sb 4 (.slice (some ⟨db,dq,none⟩) p.data.length dc)/\A W db (dq+j*3+1) (U (x.addr:Int)) from fun W hb=>⟨by rw[<-q];exact(h.below hb).cells.1,(hb.cell (p:=⟨db,dq+j*3+1,none⟩) (Jy a3 a4)).trans l.2.1⟩);have HO:=Ja (fun W=>afe W y);obtain⟨c0,c1⟩:=HC.out w (Below.refl _ _);clear h l m q hx hy ha hn a2 a1;go_enter Tryz.func96,Tryz.ntmps96;go_upto_region 5 with(go_at_call 999999;skip)
 obtain⟨X,hX⟩:∃X,(w.alloc (T #[I 2,I d,I j,I b,U n,av] 76)).alloc (T #[U 0,U 0] 45)=X:=⟨_,rfl⟩
 have g:=Ja (show O w X/\Q X w.heap.size #[I 2,I d,I j,I b,U n,av] 76/\Q X (w.heap.size+1) #[U 0,U 0] 45 from by
  rw[<-hX];exact⟨Zv,zB (zI rfl),zI Zs⟩)
 rw[hX];clear hX c0 c1;have a0:=Ja (show ∀W,Below (w.heap.size+1) X W->(A W K.sb 4 (.slice (some ⟨db,dq,none⟩) p.data.length dc)/\A W db (dq+j*3+1) (U (x.addr:Int)))/\A W w.heap.size 2 (I j)/\A W w.heap.size 4 (U n) from fun W hb=>⟨HC.out W (g.out.1.trans (hb.mono (Nat.le_succ _))),zA ((hb.block _ (Nat.lt_succ_self _)).trans g.out.2.1) rfl,zA ((hb.block _ (Nat.lt_succ_self _)).trans g.out.2.1) rfl⟩);obtain⟨⟨c0,c1⟩,c2,c3⟩:=a0.out X (Below.refl _ _)
 go_region_held3 (fun w'=>(A w' K.sb 4 (.slice (some ⟨db,dq,none⟩) p.data.length dc)/\A w' db (dq+j*3+1) (U (x.addr:Int)))/\A w' w.heap.size 2 (I j)/\A w' w.heap.size 4 (U n))
  ((refine a0.out _ ?_;repeat' (first|with_reducible exact Below.refl _ _|with_reducible assumption|with_reducible refine Below.drew ?_|refine Below.setCell ?_ (by first|exact Je _|(show w.heap.size+1<=w.heap.size+1;omega)) _)))
  ((go_at_call 122;(refine(HO.out _).mono ?_;rintro e w1 ⟨rfl,u⟩;have t:O X w1:=Below.trans (show O X _ from Zf) (u.mono (Je _));clear u;have b0:Below (w.heap.size+1) X w1:=t.mono (Qd (lt_of_block g.out.2.2));have hk:=zH t g.out.2.2 (lt_of_block g.out.2.2);have f0:=zA (i:=0) hk rfl;have f1:=zA (i:=1) hk rfl;have g0:=zE (i:=0) hk;have g1:=zE (i:=1) hk;have a8:=lt_of_block hk;have a9:=g.out.1.trans (t.mono g.out.1.size))))
 all_goals go_wp2
 all_goals (refine bodyPost_ret (v:=.agg #[U y,U y]) ?_ rfl ⟨rfl,Zj⟩;rw[zM rfl];go_simp)
end Go.Proofs.YtoahcpkibpomcaaGreat
