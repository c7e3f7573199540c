/- Part of a proof. -/
import Derived.Test.YtoahcpkibpomcaaGZTr
import Derived.Test.YtoahcpkibpomcaaIGraph
import Derived.Test.YtoahcpkibpomcaaIOper2
import Derived.StillTailTactics
set_option linter.all false
set_option maxHeartbeats 2000000
set_option maxRecDepth 100000
namespace Go.Proofs.Ytoahcpkibpomcaa
open Go.RowKit
variable {w w' w0:World}{xs:List Int}{C k m m1 m2:Nat}{i x:Int}{K:MK}{c ov:Value}{d:wO}{m':Mach}{P:Program}{o:IOp}{bl blocks:List IBlk}{g:Int->Option Nat}{l:List IOp}{pv:List Value}
def pq (K:MK)(r:Nat):Prop:=
 ∀(w:World) (m:Mach) (ov av:Value) (f:Int) (args:List Nat),MachAt w K m ov->0<=f->f.toNat<K.E.p.funcs.length->wV w w.heap.size av args->(args.length:Int)=K.E.p.args.getD f.toNat 0->
  A 91 #[G K.pm,I f,av,I (101-(r:Int))] w (zQ K w (xW K.E r f args m))
theorem Try.info_u16:(Try.prog.info? 22).map (fun i=>(i.zero,i.size,i.bytes))=some (some (M 0),1,2):=by kernel_rfl
theorem ms{S:Nat}{av:Value}{n:Nat}{xs:List Nat}(h:w.ownsRow S 22 1 av n (xs.map vL))(i:xs.length=n)(f:∀x∈xs,x<65536):wV w w.heap.size av xs:=by
 subst i;obtain⟨a,c,rfl⟩:=zG h;have hl:=zm h;refine⟨a,c,rfl,hl.1,by omega,fun k x hk=>?_⟩;have j:=(Jh.1 hk).1;obtain⟨g,l,e,hg,d⟩:=h.form Zo;cases e;refine⟨g,0,rfl,d,?_,f x (Ji hk)⟩;rw[Nk,Ng];exact(h.cellAt k Zo).trans (by rw[Jr,hk];rfl)
def uT (v:Int->Nat)(xs:List Int)(k:Nat):List Nat:=(xs.take k).map v
theorem qH{v:Int->Nat}(h:xs[k]? =some x):uT v xs (k+1)=uT v xs k++ [v x]:=by unfold uT;rw[Nh,h,Js];rfl
theorem pA{v:Int->Nat}(h:k<=xs.length):(uT v xs k).length=k:=by unfold uT;rw[Nr,Oc];omega
theorem r8{v:Int->Nat}:uT v xs xs.length=xs.map v:=by unfold uT;rw[Nl]
theorem step_26{m:Mach}(h:MachAt w K m ov){d oa ob:Int}{on:Nat}(d3:I64 oa)(d2:I64 ob)(e8:on<65536){av:Value}(a3:zY w w.heap.size av xs)(e6:xs.length<=65536)
 {vb vn:Nat} {v:Int->Nat} (hv:xO w vb vn v) {r:Nat} (hr:r<=100) (hC:pq K r) (hf:0<=oa/\oa.toNat<K.E.p.funcs.length/\(xs.length:Int)=K.E.p.args.getD oa.toNat 0):
 A 97 #[G K.pm,.agg #[I 26,I d,I oa,I ob,M on,av],.map (some vb),I (100-(r:Int))] w (zQ K w (xW K.E r oa (xs.map v) m)):=by
 obtain⟨ab,ac,rfl,f2,e4⟩:=a3.form;have c0:=fun(W:World) (hW:Frm K.B w W)=>(hv.kept hW).look d3
 have b9:=fun(W:World) (hW:Frm K.B w W)=>(hv.kept hW).look d2
 have f0:=h.size;have c2:=Ja (h.keep ((Below.refl _ _).alloc (Je _) (U #[I 26,I d,I oa,I ob,M on,.slice ab xs.length ac] 27)));have a0:=Ja ((Frm.refl K.B w).alloc Zo (U #[I 26,I d,I oa,I ob,M on,.slice ab xs.length ac] 27));have c1:=Ja (a3.below zO ((Below.refl w.heap.size w).alloc (Je _) (U #[I 26,I d,I oa,I ob,M on,.slice ab xs.length ac] 27)));have la:=fun n:Nat=>c0 _ (a0.out.drewN (n:=n))
 have lb:=fun n:Nat=>b9 _ (a0.out.drewN (n:=n))
 have g:=zI (W:=w) (o:=U #[I 26,I d,I oa,I ob,M on,.slice ab xs.length ac] 27) rfl;have b8:=Ja (hv.kept a0.out);have HC:=Ja hC;have b3:=Ja hf;have a4:w.heap.size<(w.alloc (U #[I 26,I d,I oa,I ob,M on,.slice ab xs.length ac] 27)).heap.size:=by simp
 clear h hv c0 b9 a3 hC hf;obtain⟨xa,b6⟩:∃xa,v oa=xa:=⟨_,rfl⟩
 obtain⟨xb,b5⟩:∃xb,v ob=xb:=⟨_,rfl⟩
 rw[b6] at la;rw[b5] at lb;clear b6 b5;go_enter Try.func97,Try.ntmps97;go_upto_region 1 with fail;generalize d6:w.alloc (U #[I 26,I d,I oa,I ob,M on,.slice ab xs.length ac] 27)=W1 at *;clear d6;have p0:=K0 g;have p2:=K2 g;have p3:=K3 g;have p5:=K5 g
 go_cut [9,10] (fun x y wx=>x=M xa/\y=M xb/\∃n,wx=W1.drewN n)
 case first=>
  go_quiet (fail);go_wp2;go_meet;exact⟨rfl,rfl,_,rfl⟩
 case rest=>
  obtain⟨rfl,rfl,n,rfl⟩:=hcut;have HM:=Ja (c2.out.drewN n);have HF:=Ja (a0.out.drewN (n:=n));have b2:=Ja ((b8.out.kept (Frm.refl K.B W1).drewN:xO (W1.drewN n) vb vn v));have d8:=Ja (c1.out.below zO (yL w.heap.size W1 n));have q0:(W1.drewN n).cell? ⟨w.heap.size,0,none⟩=_:=p0;have q2:(W1.drewN n).cell? ⟨w.heap.size,2,none⟩=_:=p2;have q5:(W1.drewN n).cell? ⟨w.heap.size,5,none⟩=_:=p5;have d1:w.heap.size<(W1.drewN n).heap.size:=a4;clear la lb p0 p2 p3 p5 g c2 a0 b8 c1 a4;generalize W1.drewN n=W2 at *;go_wp2
  go_loopw [15,159] (fun rv kv wx=>∃k:Nat,k<=xs.length/\kv=I k/\Hid (wx.ownsRow W2.heap.size 22 1 rv k ((uT v xs k).map vL)/\Q W2 wx)) (fun _ kv _=>xs.length-(intOf kv).toNat)
  case atStart=>exact⟨0,Jt _,rfl,Jv _ _ _ _,Below.refl _ _⟩
  case round=>
   obtain⟨k,hk,rfl,l⟩:=hrel;obtain⟨ra,rc,rfl⟩:=zG l.out.1;have a2:Frm K.B W2 wr:=⟨l.out.2.mono (by have:=HM.out.size;omega),fun i o hi _=>zH l.out.2 hi (lt_of_block hi)⟩
   by_cases a6:k<xs.length
   ·have j:(k:Int)<xs.length:=Zo;have c4:=Ja a6;obtain⟨x,hx⟩:∃x,xs[k]? =some x:=⟨_,Jd a6⟩
    obtain⟨b,o,rfl,hb,b0,d0⟩:=d8.out.get hx;rw[Nk] at b0;have cx:=(l.out.2.cell (p:=⟨b,o+k,none⟩) (by show b<W2.heap.size;omega)).trans b0;have lx:=(b2.out.kept a2).look d0;have e7:=b2.out.2 x;have d7:=Ja (qH (v:=v) hx);have f1:=pA (v:=v) (show k<=xs.length by omega);obtain⟨ii,d4,c9,c8,c7⟩:=info_parts Try.info_u16;have e1:=l.out.2.size;clear hx b0 a6;generalize v x=vx at *;go_wp2_with (at_builtin;go_must (refine wpList_append_lies _ rfl (.tmp 163) (.tmp 167) 29 rfl W2.heap.size 22 ii (M 0) 1 2 Try.underlying29 d4 c9 c8 c7 rfl Zd _ k ((uT v xs k).map vL) rfl (l.out.1.alloc _) ⟨wr.heap.size,0,none⟩ 1 1 [M vx] rfl rfl (Oi (cs:=#[M vx]) (zI Zs)) (by simp[Value.oneCell']) Zd (by unfold maxLen;omega) Zo Zt (wr.heap.size+1) Zs ?_;intro gq e5 w6 a1 t e3 e2;have c3:=Ja (Jb a1 t);clear a1 t))
    go_roundw
    case rel=>
     refine⟨k+1,c4.out,by go_num,?_,(l.out.2.alloc Zo _).grown c3.out.2 Zt (fun k hk=>(l.out.1.lt k hk).1)⟩;rw[d7.out,Js];exact c3.out.1
    case measure=>have:=c4.out;simp[intOf];omega
   ·obtain rfl:k=xs.length:=by omega
    have j:¬(xs.length:Int)<xs.length:=Zo;have q:=l.out.1;rw[r8] at q;have e0:wr.cell? ⟨w.heap.size,2,none⟩=_:=(l.out.2.cell (p:=⟨w.heap.size,2,none⟩) d1).trans q2;have b1:=HM.out.keep l.out.2;have c:=HC.out wr m ov (.slice ra xs.length rc) oa (xs.map v) b1 b3.out.1 b3.out.2.1 (ms q Zs (fun y hy=>by obtain⟨z,_,rfl⟩:=Nu.1 hy;exact b2.out.2 z)) (by simpa using b3.out.2.2);have c5:=Ja (HF.out.trans a2)
    cases f:xW K.E r oa (xs.map v) m with
    |ok x m'=>
     have u:A 91 #[G K.pm,I oa,.slice ra xs.length rc,I (101-(r:Int))] wr fun e w'=>e=.returned (M x)/\(∃ov',MachAt w' K m' ov')/\Frm K.B wr w'/\x<65536:=by rw[f] at c;exact c
     have b4:=Ja u;have HR:=Ja f;clear c u f q b1 a2 j;have j:¬(xs.length:Int)<xs.length:=Zo;have d5:(100-(r:Int))+1=101-(r:Int):=Zo;go_wp2_with (go_at_call 91;go_must (refine b4.out.mono ?_;rintro e w' ⟨rfl,⟨ov',a5⟩,a9,b7⟩))
     go_ret;rw[HR.out]
     exact zQ.ok a5 (c5.out.trans a9) b7
    |trap k i m'=>
     have u:A 91 #[G K.pm,I oa,.slice ra xs.length rc,I (101-(r:Int))] wr fun e w'=>e=.panicked [oE k i]/\(∃ov',MachAt w' K m' ov')/\Frm K.B wr w'/\True:=by rw[f] at c;exact c
     have b4:=Ja u;have HR:=Ja f;clear c u f q b1 a2 j;have j:¬(xs.length:Int)<xs.length:=Zo;have d5:(100-(r:Int))+1=101-(r:Int):=Zo;go_wp2_with (go_at_call 91;go_must (refine b4.out.mono ?_;rintro e w' ⟨rfl,⟨ov',a5⟩,a9,b7⟩))
     exact⟨rfl,by rw[HR.out];exact zQ.trap a5 (c5.out.trans a9)⟩
def endP0:Res Nat->Ending
 |.ok _ _=> .returned (.tuple #[])
 |.trap k i _=> .panicked [oE k i]
def wU (K:MK)(w:World)(r:Res Nat)(e:Ending)(w':World):Prop:=e=endP0 r/\(∃ov',MachAt w' K r.mach ov')/\Frm K.B w w'
theorem wU.ok{x:Nat}(h:MachAt w' K m' c)(d:Frm K.B w w'):wU K w (.ok x m') (.returned (.tuple #[])) w':=⟨rfl,⟨c,h⟩,d⟩
theorem wU.trap{i:Nat}(h:MachAt w' K m' c)(d:Frm K.B w w'):wU K w (.trap k i m') (.panicked [oE k i]) w':=⟨rfl,⟨c,h⟩,d⟩
theorem u16s_nil (w:World)(B:Nat):wV w B (F) []:=⟨none,0,rfl,Je _,by decide,fun k x hk=>by simp at hk⟩
theorem poll_any{m:Mach}(h:MachAt w K m ov)(a9:OkProg K.E.p){r:Nat}(hr:r<=100)(hC:pq K r):
 A 104 #[G K.pm,I (100-(r:Int))] w (wU K w (tY K.E (xW K.E r) m)):=by
 have c8:=h.c8;have c12:=h.c12;have g:=h.irq;obtain⟨ia,ic,a2,d0,c9⟩:=g.form;rw[a2] at c8 g;have HH:=Ja h;have b5:=h.pol;have c0:=Ja a2;have b8:=Ja a9;have HC:=Ja hC;clear h a2 a9 hC
 by_cases d:m.polls<K.E.irq.length
 ·obtain⟨x,hx⟩:∃x,K.E.irq[m.polls]? =some x:=⟨_,Jd d⟩
  obtain⟨b,o,rfl,b0,u,c5⟩:=g.get hx;have c1:=Ja b0;rw[Nk] at u;have hI:¬(K.E.irq.length:Int)<=m.polls:=Zo;have hJ:(m.polls:Int)<K.E.irq.length:=Zo
  have a6:tY K.E (xW K.E r) m=if x≠0/\K.E.p.handler≠-1 then(match xW K.E r K.E.p.handler [] {m with polls:=m.polls+1 } with|.ok _ m'=> .ok 0 m'|.trap k i m'=> .trap k i m') else .ok 0 {m with polls:=m.polls+1 }:=by
   unfold tY;rw[if_pos d,Jj,hx];rfl
  have a4:=Ja a6;have b1:=HH.out.free 12;have b9:=Ja d;have c2:K.E.irq.length<=9223372036854775807:=Zo;clear g d hx b5 b0 a6;go_enter Try.func104,Try.ntmps104;go_upto_region 0 with fail
  go_cut [14] (fun v wx=>v=.bool false/\∃n,wx=w.drewN n)
  case first=>
   go_quiet (fail);go_wp2;go_meet;exact⟨rfl,_,rfl⟩
  case rest=>
   obtain⟨rfl,n,rfl⟩:=hcut;have t:=(HH.out.drewN n).setP b9.out HH.out.ne;have hF:Frm K.B w ((w.drewN n).setCell ⟨K.pm,12,none⟩ (I ((m.polls:Int)+1))):=(Frm.refl _ _).drewN.trans ((HH.out.drewN n).frm 12 _);have d8:(w.drewN n).cell? ⟨K.pm,8,none⟩=_:=c8;have d2:(w.drewN n).cell? ⟨K.pm,12,none⟩=_:=c12;have c4:Y (w.drewN n) K.pm 12:=b1;have e8:=t.c8;rw[c0.out] at e8;have d1:=t.c12;have e3:=t.c3;have b7:=(hF.below.cell (p:=⟨b,o+m.polls,none⟩) c1.out).trans u;have c7:IntKind.i64.wrap (((m.polls+1:Nat):Int)-1)=(m.polls:Int):=by rw[show(((m.polls+1:Nat):Int)-1)=(m.polls:Int) by omega];exact Om _ Zo
   have H1:=Ja t;have HF:=Ja hF;clear t hF c8 c12 b1;go_upto_region 2 with fail;generalize (w.drewN n).setCell ⟨K.pm,12,none⟩ (I ((m.polls:Int)+1))=W2 at *
   by_cases f:x=0
   ·have t1:((x:Int) !=0)=false:=by rw[bne_eq_false_iff_eq];omega
    have EE:=Ja (show tY K.E (xW K.E r) m=.ok 0 {m with polls:=m.polls+1 } by rw[a4.out,if_neg (fun h=>h.1 f)]);clear f;go_quiet (fail);go_wp2
    go_end0
    rw[EE.out];exact wU.ok (H1.out.drewN _) HF.out.drewN
   ·have t1:((x:Int) !=0)=true:=by rw[bne_iff_ne];omega
    by_cases l:K.E.p.handler=-1
    ·have t2:(K.E.p.handler !=-1)=false:=by rw[bne_eq_false_iff_eq];exact l
     have EE:=Ja (show tY K.E (xW K.E r) m=.ok 0 {m with polls:=m.polls+1 } by rw[a4.out,if_neg (fun h=>h.2 l)]);clear f l;go_quiet (fail);go_wp2
     go_end0
     rw[EE.out];exact wU.ok (H1.out.drewN _) HF.out.drewN
    ·have t2:(K.E.p.handler !=-1)=true:=by rw[bne_iff_ne];exact l
     have a0:=a4.out;rw[if_pos ⟨f,l⟩] at a0
     have y:∀q,pq K r->A 91 #[G K.pm,I K.E.p.handler,F,I (101-(r:Int))] (W2.drewN q) (zQ K (W2.drewN q) (xW K.E r K.E.p.handler [] {m with polls:=m.polls+1 })):=fun q hC=>by
      obtain⟨t,h2,h3⟩:=b8.out.hnd l;exact hC (W2.drewN q) _ ov _ _ [] (H1.out.drewN q) t h2 (u16s_nil _ _) (by rw[h3];rfl)
     have b3:=Ja (fun q=>y q HC.out);have b2:=Ja a0;clear f l y a0
     go_cut [42] (fun v wx=>v=.bool true/\∃q,wx=W2.drewN q)
     case first=>
      go_quiet (fail);go_wp2;go_meet;exact⟨rfl,_,rfl⟩
     case rest=>
      obtain⟨rfl,q,rfl⟩:=hcut;have g3:(W2.drewN q).cell? ⟨K.pm,3,none⟩=_:=e3
      cases c:xW K.E r K.E.p.handler [] {m with polls:=m.polls+1 } with
      |ok x m'=>
       have j:A 91 #[G K.pm,I K.E.p.handler,F,I (101-(r:Int))] (W2.drewN q) fun e w'=>e=.returned (M x)/\(∃ov',MachAt w' K m' ov')/\Frm K.B (W2.drewN q) w'/\x<65536:=by have:=b3.out q;rw[c] at this;exact this
       have a5:=Ja j;have EE:=Ja (show tY K.E (xW K.E r) m=.ok 0 m' by rw[b2.out,c]);clear j c;have b6:(100-(r:Int))+1=101-(r:Int):=Zo;go_wp2_with (go_at_call 91;go_must (refine a5.out.mono ?_;rintro e w' ⟨rfl,⟨ov',a1⟩,a3,b4⟩))
       go_end0
       rw[EE.out]
       exact wU.ok a1 (HF.out.drewN.trans a3)
      |trap k i m'=>
       have j:A 91 #[G K.pm,I K.E.p.handler,F,I (101-(r:Int))] (W2.drewN q) fun e w'=>e=.panicked [oE k i]/\(∃ov',MachAt w' K m' ov')/\Frm K.B (W2.drewN q) w'/\True:=by have:=b3.out q;rw[c] at this;exact this
       have a5:=Ja j;have EE:=Ja (show tY K.E (xW K.E r) m=.trap k i m' by rw[b2.out,c]);clear j c;have b6:(100-(r:Int))+1=101-(r:Int):=Zo;go_wp2_with (go_at_call 91;go_must (refine a5.out.mono ?_;rintro e w' ⟨rfl,⟨ov',a1⟩,a3,b4⟩))
       exact⟨rfl,by rw[EE.out];exact wU.trap a1 (HF.out.drewN.trans a3)⟩
 ·have hI:(K.E.irq.length:Int)<=m.polls:=Zo;have e:tY K.E (xW K.E r) m=.ok 0 m:=by unfold tY;rw[if_neg d]
  have EE:=Ja e;clear e g d;go_enter Try.func104,Try.ntmps104;go_wp2;go_quiet (fail);go_wp2
  first|go_end0|refine bodyPost_ret (results_none rfl _ _ _) rfl ?_
  rw[EE.out];exact wU.ok (HH.out.drewN _) (Frm.refl _ _).drewN
theorem ju{p:IProg}(o:IOp)(ho:qN o)(ar:Option Addr)(f:Nat)(hs:zi o.code=⟨false,false,false,false,false⟩):
 A 77 #[G C,opV o (.slice ar o.args.length f)] w (ym w (opF p o)):=by
 unfold opV;obtain⟨i,g,k,j,h⟩:=ho;have e:opF p o=false:=by unfold opF;rw[hs];rfl
 rw[e];have hf:∀W,A 81 #[I o.code] W fun e w'=>e=.returned (.tuple #[.agg #[.bool false,.bool false,.bool false,.bool false],.bool false])/\Q W w':=fun W=>by have:=yu o.code W;rw[hs] at this;exact this
 have m:=Ja hf;clear hf hs e;go_enter Try.func77,Try.ntmps77;go_wp2_with (first|(go_at_call 81;go_must (refine(m.out _).mono ?_;rintro e w1 ⟨rfl,c⟩;have d:=Ja c;clear c))|go_in)
 go_ret;exact⟨rfl,(((Below.refl _ _).alloc (Je _) _).trans (d.out.mono Zs)).alloc (by have l:=d.out.size;simp at l;omega) _⟩
theorem oper_any{B:Nat}{V:PV}{tl:List Value}{p:IProg}(hp:ProgIn w B V p)(l:B<=w.heap.size)(k:T w C (rC V p++tl).toArray 107)(hl:p.args.length=p.funcs.length)(o:IOp)(ho:qN o)(ar:Option Addr)(c:Nat)(d:o.args.length<=c/\c<=9223372036854775807):
 A 77 #[G C,opV o (.slice ar o.args.length c)] w (ym w (opF p o)):=by
 by_cases g:o.code=26
 ·exact kM hp l k hl o ho ar c d g
 by_cases j:o.code=2
 ·exact jo hp l k hl o ho ar c d j
 by_cases i:o.code=24
 ·exact oper_in (pvs:=[]) o ho ar c d i
 by_cases f:o.code=25
 ·exact oper_out (pvs:=[]) o ho ar c d f
 rcases rJ o.code with⟨h,e⟩|⟨h,e⟩|⟨h,e⟩|⟨h,e⟩|⟨h,e⟩|⟨h,e⟩|⟨h,e⟩|⟨h,e⟩
 ·exact kG (pvs:=[]) o ho ar c d e g j i f
 ·exact oper_una (pvs:=[]) o ho ar c d e g j i f
 ·exact oper_bin (pvs:=[]) o ho ar c d e g j i f
 ·exact oper_sto (pvs:=[]) o ho ar c d e g j i f
 ·exact oper_rom (pvs:=[]) o ho ar c d e g j i f
 ·exact absurd h f
 ·exact kY (pvs:=[]) o ho ar c d e g j i f
 ·exact ju o ho ar c e
def yM (w:World)(size:Nat)(xv:Value)(m:Nat)(news:List Value):Prop:=
 ∃a c,xv=.slice a m c/\news.length=m*size/\(∀u∈news,u.oneCell'=true)/\((a=none/\m=0)∨∃ad,a=some ad/\∀j u,news[j]? =some u->w.cell? (ad.add j)=some u)
theorem tE(w:World)(f:Nat)(t ty e:TypeId)(i:TypeInfo)(z:Value)(size bytes:Nat)(ht:P.underlying t=some (.slice e))(hi:P.info? e=some i)(hz:i.zero=some z)
 (k:i.size=size) (a0:i.bytes=bytes) (u:z.cells.size=size) (x:0<size) (v:Value) (n:Nat) (xs:List Value) (h:w.ownsRow f e size v n xs)
 (xv:Value) (m:Nat) (d:List Value) (q:yM w size xv m d) (a1:n+m<=maxLen) (j:(n+m)*bytes<=140737488355328) (o:f<=w.heap.size):
 ∃v' w',(Builtin.append_ #[t,t] ty #[v,xv]).run P w=.ok v' w'/\w'.ownsRow f e size v' (n+m) (xs++d)/\w.grownBy w' v.ownBlock/\(v'.ownBlock=v.ownBlock∨v'.ownBlock=some w.heap.size):=by
 obtain⟨a,c,rfl,hl,h1,⟨rfl,rfl⟩|⟨ad,rfl,l⟩⟩:=q
 ·have hn:d=[]:=Nz (by simpa using hl);subst hn;refine⟨v,w,?_,by simpa using h,⟨rfl,rfl,rfl,Je _,fun _ _ _=>rfl⟩,.inl rfl⟩;rcases h.2 with⟨rfl,rfl⟩|⟨g,a9,a6,rfl,a5,hg,y,a4,a3,a2⟩
  ·simp[Builtin.append_,run_underlying ht,sizeOf,typeInfo,hi,Builtin.lenOf,run_firstCells_none]
  ·simp[Builtin.append_,run_underlying ht,sizeOf,typeInfo,hi,Builtin.lenOf,run_firstCells_none,y,storeCells]
 ·obtain⟨v',w',h2,h3,h4,_,h5⟩:=run_append_own_at (P:=P) w f t ty e i z size bytes ht hi hz k a0 u x v n xs h ad m c d hl l h1 a1 j o;exact⟨v',w',h2,h3,h4,h5⟩
theorem zK(w:World){ops:Array Oper}{rest:List Oper}{o:Oper}{a:Act}{Q:Exit->Act->World->Prop}(y:o.guard=none)(s x:Operand)(t:TypeId)
 (ho:o.op=.call {callee:=.builtin .append,args:=#[s,x],argTypes:=#[t,t]})
 (c:Nat) (e:TypeId) (i:TypeInfo) (z:Value) (size bytes:Nat) (ht:P.underlying t=some (.slice e)) (hi:P.info? e=some i) (hz:i.zero=some z)
 (g:i.size=size) (a0:i.bytes=bytes) (q:z.cells.size=size) (u:0<size)
 (v:Value) (n:Nat) (xs:List Value) (hs:a.eval s=v) (l:w.ownsRow c e size v n xs)
 (xv:Value) (m:Nat) (d:List Value) (hx:a.eval x=xv) (k:yM w size xv m d) (a1:n+m<=maxLen) (f:(n+m)*bytes<=140737488355328) (j:c<=w.heap.size)
 (h:∀v' w',w'.ownsRow c e size v' (n+m) (xs++d)->w.grownBy w' v.ownBlock->(v'.ownBlock=v.ownBlock∨v'.ownBlock=some w.heap.size)->wpList P ops Q rest (a.put o.dst v') w'):
 wpList P ops Q (o::rest) a w:=by
 refine wpList_plain y fun K hK=>?_
 obtain⟨v',w',hr,h2,h3,h5⟩:=tE (P:=P) w c t o.type e i z size bytes ht hi hz g a0 q u v n xs l xv m d k a1 f j;unfold Oper.wp execOp;simp only[ho,resolve,invoke,builtin,Sem.run_bind,Sem.run_pure,Result.andThen_ok,List.map_toArray,Ql,List.map_nil,hs,hx,hr];exact hK _ _ (h v' w' h2 h3 h5)
theorem yM.one{b:Nat}{x:Value}{e:TypeId}(h:T w b #[x] e)(c:x.oneCell'=true):yM w 1 (L b 1 1) 1 [x]:=
 ⟨_,_,rfl,rfl,by simpa using c,.inr ⟨_,rfl,Oi (cs:=#[x]) h⟩⟩
theorem zY.src{B:Nat}{v:Value}(h:zY w B v xs):yM w 1 v xs.length (xs.map zN):=by
 obtain⟨a,f,rfl,l,k,d⟩:=h;refine⟨a,f,rfl,by simp,by simp[zN,Value.oneCell'],?_⟩
 cases xs with
 |nil=>
  cases a with
  |none=>exact .inl ⟨rfl,rfl⟩
  |some ad=>exact .inr ⟨ad,rfl,fun j u hu=>by simp at hu⟩
 |cons x xs=>
  obtain⟨b,o,rfl,_,_⟩:=d 0 x rfl;refine .inr ⟨_,rfl,fun j u hu=>?_⟩;rw[Jr,Oz] at hu;obtain⟨y,g,rfl⟩:=hu;obtain⟨b',o',e,_,c,_⟩:=d j y g;cases e;rw[Nk] at c;unfold Addr.add
  split
  ·rename_i i;rw[i] at c;exact c
  ·exact c
theorem uA{S:Nat}{v:Value}{n:Nat}(h:w.ownsRow S 3 1 v n (xs.map zN))(i:xs.length=n)(f:∀x∈xs,I64 x):zY w w.heap.size v xs:=by
 subst i;obtain⟨a,c,rfl⟩:=zG h;have hl:=zm h;refine⟨a,c,rfl,hl.1,by omega,fun k x hk=>?_⟩;have j:=(Jh.1 hk).1;obtain⟨g,l,e,hg,d⟩:=h.form Zo;cases e;refine⟨g,0,rfl,d,?_,f x (Ji hk)⟩;rw[Nk,Ng];exact(h.cellAt k Zo).trans (by rw[Jr,hk];rfl)
theorem zY.all{B:Nat}{v:Value}(h:zY w B v xs):∀x∈xs,I64 x:=by
 intro x c;obtain⟨k,hk⟩:=Ny c;obtain⟨_,_,_,_,_,f⟩:=h;obtain⟨_,_,_,_,_,d⟩:=f k x hk;exact d
theorem yG{ops:Array Oper}{o:Oper}{a:Act}{K:Act->World->Prop}{Q:Exit->Act->World->Prop}{E:Prop}(y:o.guard=none)(s x:Operand)(t:TypeId)
 (ho:o.op=.call {callee:=.builtin .append,args:=#[s,x],argTypes:=#[t,t]})
 (c:Nat) (e:TypeId) (i:TypeInfo) (z:Value) (size bytes:Nat) (ht:P.underlying t=some (.slice e)) (hi:P.info? e=some i) (hz:i.zero=some z)
 (g:i.size=size) (a0:i.bytes=bytes) (q:z.cells.size=size) (u:0<size)
 (v:Value) (n:Nat) (xs:List Value) (hs:a.eval s=v) (l:w.ownsRow c e size v n xs)
 (xv:Value) (m:Nat) (d:List Value) (hx:a.eval x=xv) (k:yM w size xv m d) (a1:n+m<=maxLen) (f:(n+m)*bytes<=140737488355328) (j:c<=w.heap.size)
 (h:∀aa cap w',w'.ownsRow c e size (.slice aa (n+m) cap) (n+m) (xs++d)->w.grownBy w' v.ownBlock->((Value.slice aa (n+m) cap).ownBlock=v.ownBlock∨(Value.slice aa (n+m) cap).ownBlock=some w.heap.size)->K (a.put o.dst (.slice aa (n+m) cap)) w'):
 if Region.wanted o (yielded ops a.tmps)=true then Oper.wp P o a w K Q else E:=by
 have hw:Region.wanted o (yielded ops a.tmps)=true:=by simp[Region.wanted,y]
 rw[if_pos hw];obtain⟨v',w',hr,h2,h3,h5⟩:=tE (P:=P) w c t o.type e i z size bytes ht hi hz g a0 q u v n xs l xv m d k a1 f j;obtain⟨aa,cap,rfl⟩:=zG h2;unfold Oper.wp execOp;simp only[ho,resolve,invoke,builtin,Sem.run_bind,Sem.run_pure,Result.andThen_ok,List.map_toArray,Ql,List.map_nil,hs,hx,hr];exact h aa cap w' h2 h3 h5
def wG (w:World)(xs:List Int)(e:Ending)(w':World):Prop:=∃v,e=.returned v/\zY w' w'.heap.size v xs/\Q w w'
theorem yP{B:Nat}{W:World}{v:Value}(h:Below B w W)(hg:W.grownBy w' v.ownBlock)(c:B<=W.heap.size)(hv:∀k,v.ownBlock=some k->B<=k):Below B w w':=
 h.trans ⟨hg.os,hg.tape,hg.output,hg.size,fun k hk=>hg.block k Zo (fun e=>by have:=hv k e.symm;omega)⟩
theorem wF{c:Nat}{e:TypeId}{size n:Nat}{v:Value}{xs:List Value}(h:w.ownsRow c e size v n xs):∀k,v.ownBlock=some k->c<=k:=fun k hk=>(h.lt k hk).1
theorem uses_00(o:IOp)(ho:I64 o.code/\I64 o.res/\I64 o.a/\I64 o.b/\o.n<65536){av:Value}{B:Nat}(hB:B<=w.heap.size)(f:zY w B av o.args)(m:o.args.length<=1000000000000)(a1:(zi o.code).a=false)(a0:(zi o.code).b=false):
 A 65 #[.agg #[I o.code,I o.res,I o.a,I o.b,M (o.n:Int),av]] w (wG w ([]++o.args)):=by
 obtain⟨aa,ac,rfl,b2,b1⟩:=f.form;obtain⟨ii,a9,a5,a4,a3⟩:=info_parts Try.info_int
 obtain⟨q1,q2,q3,hf⟩:∃q1 q2 q3,∀W,A 81 #[I o.code] W fun e w'=>e=.returned (.tuple #[.agg #[.bool q1,.bool false,.bool false,.bool q2],.bool q3])/\Q W w':=
  ⟨(zi o.code).res,(zi o.code).n,(zi o.code).is,fun W=>by have:=yu o.code W;unfold yX nL at this;rw[a1,a0] at this;exact this⟩
 have HF:=Ja hf;have h:=Ja (show zY w B (.slice aa o.args.length ac) o.args/\B<=w.heap.size/\o.args.length<=1000000000000 from⟨f,hB,m⟩);have HO:=Ja ho
 have l:∀x∈ []++o.args,I64 x:=by
  intro x i;rcases Jl.1 i with i|i
  ·simp at i
  ·exact zY.all f x i
 have b4:=Ja l;have y:=zI (W:=w) (o:=U (N o aa ac) 27) rfl;have a2:Q w (w.alloc (U (N o aa ac) 27)):=(Below.refl _ _).alloc (Je _) _;have d:=Ja (Jb y a2);clear hf f hB m ho l y a2 b2 b1 a1 a0;go_enter Try.func65,Try.ntmps65;go_upto_region 2 with(first|(go_at_call 81;go_must (refine(HF.out _).mono ?_;rintro e w1 ⟨rfl,g⟩))|go_in)
 have hb:=(d.out.2.trans (g.mono d.out.2.size)).alloc (by have:=d.out.2.size;have:=g.size;omega) (U #[.bool q1,.bool false,.bool false,.bool q2] 127);have u:=zB (o:=U #[.bool q1,.bool false,.bool false,.bool q2] 127) (zH g d.out.1 (lt_of_block d.out.1));have t:=zI (W:=w1) (o:=U #[.bool q1,.bool false,.bool false,.bool q2] 127) rfl;generalize b3:w1.alloc (U #[.bool q1,.bool false,.bool false,.bool q2] 127)=W1 at *;generalize b0:w1.heap.size=c1 at *;have own0:W1.ownsRow w.heap.size 3 1 (F) 0 []:=Jv W1 _ _ _;have c:=Ja (show Q w W1/\T W1 w.heap.size (N o aa ac) 27/\T W1 c1 #[.bool q1,.bool false,.bool false,.bool q2] 127/\W1.ownsRow w.heap.size 3 1 (F) 0 [] from⟨hb,u,t,own0⟩);clear b3 b0 g hb u t own0;have x2:=K2 c.out.2.1;have x3:=K3 c.out.2.1;have x5:=K5 c.out.2.1;have f1:=K1 c.out.2.2.1;have f2:=K2 c.out.2.2.1;go_upto_region 5 with fail;clear x2 x3 x5 f1 f2;have x2:=K2 c.out.2.1;have x3:=K3 c.out.2.1;have x5:=K5 c.out.2.1;have f1:=K1 c.out.2.2.1;have f2:=K2 c.out.2.2.1;go_upto_region 7 with fail;clear x2 x3 x5 f1 f2;have x2:=K2 c.out.2.1;have x3:=K3 c.out.2.1;have x5:=K5 c.out.2.1;have f1:=K1 c.out.2.2.1;have f2:=K2 c.out.2.2.1;have j:=zY.src (h.out.1.below zO (c.out.1.mono h.out.2.1));have a6:=Ja j;clear j;go_wp2_with (at_builtin;go_must (refine zK _ rfl (.tmp 26) (.tmp 28) 25 rfl w.heap.size 3 ii (I 0) 1 8 Try.underlying25 a9 a5 a4 a3 rfl Zd (F) 0 (([]:List Int).map zN) rfl c.out.2.2.2 _ o.args.length (o.args.map zN) rfl a6.out (by have:=h.out.2.2;unfold maxLen;omega) (by have:=h.out.2.2;omega) c.out.1.size ?_;intro v9 w9 k q b5))
 go_ret;refine⟨v9,rfl,?_,yP c.out.1 q c.out.1.size (wF c.out.2.2.2)⟩;rw[<-Js] at k;exact uA k (by simp<;>omega) b4.out
theorem uses_01(o:IOp)(ho:I64 o.code/\I64 o.res/\I64 o.a/\I64 o.b/\o.n<65536){av:Value}{B:Nat}(hB:B<=w.heap.size)(i:zY w B av o.args)(a0:o.args.length<=1000000000000)(b0:(zi o.code).a=false)(a9:(zi o.code).b=true):
 A 65 #[.agg #[I o.code,I o.res,I o.a,I o.b,M (o.n:Int),av]] w (wG w ([o.b]++o.args)):=by
 obtain⟨aa,ac,rfl,b7,b6⟩:=i.form;obtain⟨ii,a6,t,q,m⟩:=info_parts Try.info_int
 obtain⟨q1,q2,q3,hf⟩:∃q1 q2 q3,∀W,A 81 #[I o.code] W fun e w'=>e=.returned (.tuple #[.agg #[.bool q1,.bool false,.bool true,.bool q2],.bool q3])/\Q W w':=
  ⟨(zi o.code).res,(zi o.code).n,(zi o.code).is,fun W=>by have:=yu o.code W;unfold yX nL at this;rw[b0,a9] at this;exact this⟩
 have HF:=Ja hf;have k:=Ja (show zY w B (.slice aa o.args.length ac) o.args/\B<=w.heap.size/\o.args.length<=1000000000000 from⟨i,hB,a0⟩);have HO:=Ja ho
 have y:∀x∈ [o.b]++o.args,I64 x:=by
  intro x l;rcases Jl.1 l with l|l
  ·simp at l;rw[l];exact ho.2.2.2.1
  ·exact zY.all i x l
 have b9:=Ja y;have a5:=zI (W:=w) (o:=U (N o aa ac) 27) rfl;have b2:Q w (w.alloc (U (N o aa ac) 27)):=(Below.refl _ _).alloc (Je _) _;have h:=Ja (Jb a5 b2);clear hf i hB a0 ho y a5 b2 b7 b6 b0 a9;go_enter Try.func65,Try.ntmps65;go_upto_region 2 with(first|(go_at_call 81;go_must (refine(HF.out _).mono ?_;rintro e w1 ⟨rfl,j⟩))|go_in)
 have hb:=(h.out.2.trans (j.mono h.out.2.size)).alloc (by have:=h.out.2.size;have:=j.size;omega) (U #[.bool q1,.bool false,.bool true,.bool q2] 127);have a4:=zB (o:=U #[.bool q1,.bool false,.bool true,.bool q2] 127) (zH j h.out.1 (lt_of_block h.out.1));have a2:=zI (W:=w1) (o:=U #[.bool q1,.bool false,.bool true,.bool q2] 127) rfl;generalize b8:w1.alloc (U #[.bool q1,.bool false,.bool true,.bool q2] 127)=W1 at *;generalize b5:w1.heap.size=c1 at *;have own0:W1.ownsRow w.heap.size 3 1 (F) 0 []:=Jv W1 _ _ _;have c:=Ja (show Q w W1/\T W1 w.heap.size (N o aa ac) 27/\T W1 c1 #[.bool q1,.bool false,.bool true,.bool q2] 127/\W1.ownsRow w.heap.size 3 1 (F) 0 [] from⟨hb,a4,a2,own0⟩);clear b8 b5 j hb a4 a2 own0;have x2:=K2 c.out.2.1;have x3:=K3 c.out.2.1;have x5:=K5 c.out.2.1;have f1:=K1 c.out.2.2.1;have f2:=K2 c.out.2.2.1;go_upto_region 5 with fail;clear x2 x3 x5 f1 f2;have x2:=K2 c.out.2.1;have x3:=K3 c.out.2.1;have x5:=K5 c.out.2.1;have f1:=K1 c.out.2.2.1;have f2:=K2 c.out.2.2.1;go_upto_region 7 with(at_builtin;go_must (refine zK _ rfl (.tmp 21) (.tmp 24) 25 rfl w.heap.size 3 ii (I 0) 1 8 Try.underlying25 a6 t q m rfl Zd (F) 0 (([]:List Int).map zN) rfl (c.out.2.2.2.alloc _) _ 1 [I o.b] rfl (yM.one (zI Zs) (by simp[Value.oneCell'])) Zd Zd (by have:=c.out.1.size;simp;omega) ?_;intro v2 W2 f d b3))
 have b1:Q w W2:=yP (c.out.1.alloc c.out.1.size _) d (by have:=c.out.1.size;simp;omega) (wF c.out.2.2.2);have a3:=zL d (zB c.out.2.1) (zC c.out.2.2.2 c.out.2.1 (.inr Zd));have a1:=zL d (zB c.out.2.2.1) (zC c.out.2.2.2 c.out.2.2.1 (.inr Zd));have g:=Ja (show Q w W2/\T W2 w.heap.size (N o aa ac) 27/\T W2 c1 #[.bool q1,.bool false,.bool true,.bool q2] 127/\W2.ownsRow w.heap.size 3 1 v2 1 (([o.b]:List Int).map zN) from⟨b1,a3,a1,f⟩);clear x2 x3 x5 f1 f2 b1 a3 a1 f d b3;have x2:=K2 g.out.2.1;have x3:=K3 g.out.2.1;have x5:=K5 g.out.2.1;have f1:=K1 g.out.2.2.1;have f2:=K2 g.out.2.2.1;have u:=zY.src (k.out.1.below zO (g.out.1.mono k.out.2.1));have b4:=Ja u;clear u;go_wp2_with (at_builtin;go_must (refine zK _ rfl (.tmp 26) (.tmp 28) 25 rfl w.heap.size 3 ii (I 0) 1 8 Try.underlying25 a6 t q m rfl Zd v2 1 (([o.b]:List Int).map zN) rfl g.out.2.2.2 _ o.args.length (o.args.map zN) rfl b4.out (by have:=k.out.2.2;unfold maxLen;omega) (by have:=k.out.2.2;omega) g.out.1.size ?_;intro v9 w9 f d b3))
 go_ret;refine⟨v9,rfl,?_,yP g.out.1 d g.out.1.size (wF g.out.2.2.2)⟩;rw[<-Js] at f;exact uA f (by simp<;>omega) b9.out
theorem uses_10(o:IOp)(ho:I64 o.code/\I64 o.res/\I64 o.a/\I64 o.b/\o.n<65536){av:Value}{B:Nat}(hB:B<=w.heap.size)(i:zY w B av o.args)(a0:o.args.length<=1000000000000)(b0:(zi o.code).a=true)(a9:(zi o.code).b=false):
 A 65 #[.agg #[I o.code,I o.res,I o.a,I o.b,M (o.n:Int),av]] w (wG w ([o.a]++o.args)):=by
 obtain⟨aa,ac,rfl,b7,b6⟩:=i.form;obtain⟨ii,a6,t,q,m⟩:=info_parts Try.info_int
 obtain⟨q1,q2,q3,hf⟩:∃q1 q2 q3,∀W,A 81 #[I o.code] W fun e w'=>e=.returned (.tuple #[.agg #[.bool q1,.bool true,.bool false,.bool q2],.bool q3])/\Q W w':=
  ⟨(zi o.code).res,(zi o.code).n,(zi o.code).is,fun W=>by have:=yu o.code W;unfold yX nL at this;rw[b0,a9] at this;exact this⟩
 have HF:=Ja hf;have k:=Ja (show zY w B (.slice aa o.args.length ac) o.args/\B<=w.heap.size/\o.args.length<=1000000000000 from⟨i,hB,a0⟩);have HO:=Ja ho
 have y:∀x∈ [o.a]++o.args,I64 x:=by
  intro x l;rcases Jl.1 l with l|l
  ·simp at l;rw[l];exact ho.2.2.1
  ·exact zY.all i x l
 have b9:=Ja y;have a5:=zI (W:=w) (o:=U (N o aa ac) 27) rfl;have b2:Q w (w.alloc (U (N o aa ac) 27)):=(Below.refl _ _).alloc (Je _) _;have h:=Ja (Jb a5 b2);clear hf i hB a0 ho y a5 b2 b7 b6 b0 a9;go_enter Try.func65,Try.ntmps65;go_upto_region 2 with(first|(go_at_call 81;go_must (refine(HF.out _).mono ?_;rintro e w1 ⟨rfl,j⟩))|go_in)
 have hb:=(h.out.2.trans (j.mono h.out.2.size)).alloc (by have:=h.out.2.size;have:=j.size;omega) (U #[.bool q1,.bool true,.bool false,.bool q2] 127);have a4:=zB (o:=U #[.bool q1,.bool true,.bool false,.bool q2] 127) (zH j h.out.1 (lt_of_block h.out.1));have a2:=zI (W:=w1) (o:=U #[.bool q1,.bool true,.bool false,.bool q2] 127) rfl;generalize b8:w1.alloc (U #[.bool q1,.bool true,.bool false,.bool q2] 127)=W1 at *;generalize b5:w1.heap.size=c1 at *;have own0:W1.ownsRow w.heap.size 3 1 (F) 0 []:=Jv W1 _ _ _;have c:=Ja (show Q w W1/\T W1 w.heap.size (N o aa ac) 27/\T W1 c1 #[.bool q1,.bool true,.bool false,.bool q2] 127/\W1.ownsRow w.heap.size 3 1 (F) 0 [] from⟨hb,a4,a2,own0⟩);clear b8 b5 j hb a4 a2 own0;have x2:=K2 c.out.2.1;have x3:=K3 c.out.2.1;have x5:=K5 c.out.2.1;have f1:=K1 c.out.2.2.1;have f2:=K2 c.out.2.2.1;go_upto_region 5 with(at_builtin;go_must (refine zK _ rfl (.tmp 14) (.tmp 17) 25 rfl w.heap.size 3 ii (I 0) 1 8 Try.underlying25 a6 t q m rfl Zd (F) 0 (([]:List Int).map zN) rfl (c.out.2.2.2.alloc _) _ 1 [I o.a] rfl (yM.one (zI Zs) (by simp[Value.oneCell'])) Zd Zd (by have:=c.out.1.size;simp;omega) ?_;intro v2 W2 g d b3))
 have b1:Q w W2:=yP (c.out.1.alloc c.out.1.size _) d (by have:=c.out.1.size;simp;omega) (wF c.out.2.2.2);have a3:=zL d (zB c.out.2.1) (zC c.out.2.2.2 c.out.2.1 (.inr Zd));have a1:=zL d (zB c.out.2.2.1) (zC c.out.2.2.2 c.out.2.2.1 (.inr Zd));have f:=Ja (show Q w W2/\T W2 w.heap.size (N o aa ac) 27/\T W2 c1 #[.bool q1,.bool true,.bool false,.bool q2] 127/\W2.ownsRow w.heap.size 3 1 v2 1 (([o.a]:List Int).map zN) from⟨b1,a3,a1,g⟩);clear x2 x3 x5 f1 f2 b1 a3 a1 g d b3;have x2:=K2 f.out.2.1;have x3:=K3 f.out.2.1;have x5:=K5 f.out.2.1;have f1:=K1 f.out.2.2.1;have f2:=K2 f.out.2.2.1;go_upto_region 7 with fail;clear x2 x3 x5 f1 f2;have x2:=K2 f.out.2.1;have x3:=K3 f.out.2.1;have x5:=K5 f.out.2.1;have f1:=K1 f.out.2.2.1;have f2:=K2 f.out.2.2.1;have u:=zY.src (k.out.1.below zO (f.out.1.mono k.out.2.1));have b4:=Ja u;clear u;go_wp2_with (at_builtin;go_must (refine zK _ rfl (.tmp 26) (.tmp 28) 25 rfl w.heap.size 3 ii (I 0) 1 8 Try.underlying25 a6 t q m rfl Zd v2 1 (([o.a]:List Int).map zN) rfl f.out.2.2.2 _ o.args.length (o.args.map zN) rfl b4.out (by have:=k.out.2.2;unfold maxLen;omega) (by have:=k.out.2.2;omega) f.out.1.size ?_;intro v9 w9 g d b3))
 go_ret;refine⟨v9,rfl,?_,yP f.out.1 d f.out.1.size (wF f.out.2.2.2)⟩;rw[<-Js] at g;exact uA g (by simp<;>omega) b9.out
theorem uses_11(o:IOp)(ho:I64 o.code/\I64 o.res/\I64 o.a/\I64 o.b/\o.n<65536){av:Value}{B:Nat}(hB:B<=w.heap.size)(u:zY w B av o.args)(a4:o.args.length<=1000000000000)(b2:(zi o.code).a=true)(b1:(zi o.code).b=true):
 A 65 #[.agg #[I o.code,I o.res,I o.a,I o.b,M (o.n:Int),av]] w (wG w ([o.a,o.b]++o.args)):=by
 obtain⟨aa,ac,rfl,b7,b6⟩:=u.form;obtain⟨ii,a5,t,q,m⟩:=info_parts Try.info_int
 obtain⟨q1,q2,q3,hf⟩:∃q1 q2 q3,∀W,A 81 #[I o.code] W fun e w'=>e=.returned (.tuple #[.agg #[.bool q1,.bool true,.bool true,.bool q2],.bool q3])/\Q W w':=
  ⟨(zi o.code).res,(zi o.code).n,(zi o.code).is,fun W=>by have:=yu o.code W;unfold yX nL at this;rw[b2,b1] at this;exact this⟩
 have HF:=Ja hf;have a1:=Ja (show zY w B (.slice aa o.args.length ac) o.args/\B<=w.heap.size/\o.args.length<=1000000000000 from⟨u,hB,a4⟩);have HO:=Ja ho
 have a3:∀x∈ [o.a,o.b]++o.args,I64 x:=by
  intro x hx;rcases Jl.1 hx with hx|hx
  ·simp at hx;rcases hx with rfl|rfl;exact ho.2.2.1;exact ho.2.2.2.1
  ·exact zY.all u x hx
 have b9:=Ja a3;have b0:=zI (W:=w) (o:=U (N o aa ac) 27) rfl;have b3:Q w (w.alloc (U (N o aa ac) 27)):=(Below.refl _ _).alloc (Je _) _;have l:=Ja (Jb b0 b3);clear hf u hB a4 ho a3 b0 b3 b7 b6 b2 b1;go_enter Try.func65,Try.ntmps65;go_upto_region 2 with(first|(go_at_call 81;go_must (refine(HF.out _).mono ?_;rintro e w1 ⟨rfl,y⟩))|go_in)
 have hb:=(l.out.2.trans (y.mono l.out.2.size)).alloc (by have:=l.out.2.size;have:=y.size;omega) (U #[.bool q1,.bool true,.bool true,.bool q2] 127);have a9:=zB (o:=U #[.bool q1,.bool true,.bool true,.bool q2] 127) (zH y l.out.1 (lt_of_block l.out.1));have a6:=zI (W:=w1) (o:=U #[.bool q1,.bool true,.bool true,.bool q2] 127) rfl;generalize b8:w1.alloc (U #[.bool q1,.bool true,.bool true,.bool q2] 127)=W1 at *;generalize b5:w1.heap.size=c1 at *;have own0:W1.ownsRow w.heap.size 3 1 (F) 0 []:=Jv W1 _ _ _;have g:=Ja (show Q w W1/\T W1 w.heap.size (N o aa ac) 27/\T W1 c1 #[.bool q1,.bool true,.bool true,.bool q2] 127/\W1.ownsRow w.heap.size 3 1 (F) 0 [] from⟨hb,a9,a6,own0⟩);clear b8 b5 y hb a9 a6 own0;have x2:=K2 g.out.2.1;have x3:=K3 g.out.2.1;have x5:=K5 g.out.2.1;have f1:=K1 g.out.2.2.1;have f2:=K2 g.out.2.2.1;go_upto_region 5 with(at_builtin;go_must (refine zK _ rfl (.tmp 14) (.tmp 17) 25 rfl w.heap.size 3 ii (I 0) 1 8 Try.underlying25 a5 t q m rfl Zd (F) 0 (([]:List Int).map zN) rfl (g.out.2.2.2.alloc _) _ 1 [I o.a] rfl (yM.one (zI Zs) (by simp[Value.oneCell'])) Zd Zd (by have:=g.out.1.size;simp;omega) ?_;intro v2 W2 d c a0))
 have k:Q w W2:=yP (g.out.1.alloc g.out.1.size _) c (by have:=g.out.1.size;simp;omega) (wF g.out.2.2.2);have j:=zL c (zB g.out.2.1) (zC g.out.2.2.2 g.out.2.1 (.inr Zd));have i:=zL c (zB g.out.2.2.1) (zC g.out.2.2.2 g.out.2.2.1 (.inr Zd));have f:=Ja (show Q w W2/\T W2 w.heap.size (N o aa ac) 27/\T W2 c1 #[.bool q1,.bool true,.bool true,.bool q2] 127/\W2.ownsRow w.heap.size 3 1 v2 1 (([o.a]:List Int).map zN) from⟨k,j,i,d⟩);clear x2 x3 x5 f1 f2 k j i d c a0;have x2:=K2 f.out.2.1;have x3:=K3 f.out.2.1;have x5:=K5 f.out.2.1;have f1:=K1 f.out.2.2.1;have f2:=K2 f.out.2.2.1;go_upto_region 7 with(at_builtin;go_must (refine zK _ rfl (.tmp 21) (.tmp 24) 25 rfl w.heap.size 3 ii (I 0) 1 8 Try.underlying25 a5 t q m rfl Zd v2 1 (([o.a]:List Int).map zN) rfl (f.out.2.2.2.alloc _) _ 1 [I o.b] rfl (yM.one (zI Zs) (by simp[Value.oneCell'])) Zd Zd (by have:=f.out.1.size;simp;omega) ?_;intro v3 W3 d c a0))
 have k:Q w W3:=yP (f.out.1.alloc f.out.1.size _) c (by have:=f.out.1.size;simp;omega) (wF f.out.2.2.2);have j:=zL c (zB f.out.2.1) (zC f.out.2.2.2 f.out.2.1 (.inr Zd));have i:=zL c (zB f.out.2.2.1) (zC f.out.2.2.2 f.out.2.2.1 (.inr Zd));have h:=Ja (show Q w W3/\T W3 w.heap.size (N o aa ac) 27/\T W3 c1 #[.bool q1,.bool true,.bool true,.bool q2] 127/\W3.ownsRow w.heap.size 3 1 v3 2 (([o.a,o.b]:List Int).map zN) from⟨k,j,i,d⟩);clear x2 x3 x5 f1 f2 k j i d c a0;have x2:=K2 h.out.2.1;have x3:=K3 h.out.2.1;have x5:=K5 h.out.2.1;have f1:=K1 h.out.2.2.1;have f2:=K2 h.out.2.2.1;have a2:=zY.src (a1.out.1.below zO (h.out.1.mono a1.out.2.1));have b4:=Ja a2;clear a2;go_wp2_with (at_builtin;go_must (refine zK _ rfl (.tmp 26) (.tmp 28) 25 rfl w.heap.size 3 ii (I 0) 1 8 Try.underlying25 a5 t q m rfl Zd v3 2 (([o.a,o.b]:List Int).map zN) rfl h.out.2.2.2 _ o.args.length (o.args.map zN) rfl b4.out (by have:=a1.out.2.2;unfold maxLen;omega) (by have:=a1.out.2.2;omega) h.out.1.size ?_;intro v9 w9 d c a0))
 go_ret;refine⟨v9,rfl,?_,yP h.out.1 c h.out.1.size (wF h.out.2.2.2)⟩;rw[<-Js] at d;exact uA d (by simp<;>omega) b9.out
theorem uses_any(o:IOp)(ho:I64 o.code/\I64 o.res/\I64 o.a/\I64 o.b/\o.n<65536){av:Value}{B:Nat}(h:B<=w.heap.size)(d:zY w B av o.args)(c:o.args.length<=1000000000000):
 A 65 #[.agg #[I o.code,I o.res,I o.a,I o.b,M (o.n:Int),av]] w (wG w (rR o)):=by
 unfold rR;cases g:(zi o.code).a<;>cases f:(zi o.code).b
 ·exact uses_00 o ho h d c g f
 ·exact uses_01 o ho h d c g f
 ·exact uses_10 o ho h d c g f
 ·exact uses_11 o ho h d c g f
theorem aU{p:IProg}(g:p.args.all tX=true)(h:opF p o=true):o.args.length<=1000000000000:=by
 unfold opF at h;rw[Jm] at h
 have d:∀i,p.args.getD i 0<=8:=by
  intro i;rw[Jj]
  cases f:p.args[i]? with
  |none=>simp
  |some x=>
   have:=Oe.1 g x (Ji f);unfold tX at this;simp only[Jm,decide_eq_true_eq] at this;exact this.2
 have c:=h.2
 split at c
 ·simp only[Jm,decide_eq_true_eq] at c;have:=d o.a.toNat;omega
 ·split at c
  ·simp only[Jm,decide_eq_true_eq] at c;omega
  ·simp only[Jm,decide_eq_true_eq] at c;omega
theorem qM{e:IEdge}(h:uM blocks e=true):xz blocks e.block∈blocks/\e.args.length=(xz blocks e.block).params.length/\1<=e.block/\e.block.toNat<blocks.length:=by
 unfold uM at h;simp only[Jm,decide_eq_true_eq] at h;refine⟨?_,h.2,h.1.1,by omega⟩;unfold xz;rw[Jj,Jd Zo,Ot];exact Uf _
theorem lD(hs:vZ blocks){t:ITerm}(h:wn blocks t=true):∀e∈t.to,e.args.length<=2000000:=by
 intro e c;unfold wn at h;rw[Jm] at h;obtain⟨f,d,_⟩:=qM (Oe.1 h.1 e c);rw[d];exact(hs.2 _ f).1
theorem nO(c:blocks≠ [])(h:∀b∈blocks,wn blocks b.term=true):zw (zy blocks):=by
 refine⟨by unfold zy;rw[Nr];exact List.length_pos_iff.2 c,fun l hl s hs=>?_⟩;unfold zy at hl;obtain⟨b,hb,rfl⟩:=Nu.1 hl;obtain⟨e,d,rfl⟩:=Nu.1 hs;have ht:=h b hb;unfold wn at ht;rw[Jm] at ht;have:=(qM (Oe.1 ht.1 e d)).2.2.2;unfold zy;rw[Nr];exact this
theorem graphI_F(h:∀b∈blocks,wn blocks b.term=true):zk blocks=(zy blocks).map (List.map (fun n:Nat=>(n:Int))):=by
 unfold zk zy tW;rw[List.map_map];refine Up fun b hb=>?_
 show b.term.to.map (·.block)=(b.term.to.map fun e=>e.block.toNat).map (fun n:Nat=>(n:Int))
 rw[List.map_map];refine Up fun e he=>?_
 have ht:=h b hb;unfold wn at ht;rw[Jm] at ht;have:=(qM (Oe.1 ht.1 e he)).2.2.1
 show e.block=((e.block.toNat:Nat):Int)
 omega
theorem bU{sv:Value}(hs:vZ blocks)(c:blocks≠ [])(h:∀b∈blocks,wn blocks b.term=true)(hr:aaB zN w w.heap.size sv (zk blocks)):GraphIn w sv (zy blocks):=by
 rw[graphI_F h] at hr;refine⟨(aaB.map (fun n:Nat=>(n:Int)) (fun x=>rfl)).1 hr,nO c h,by unfold zy;rw[Nr];exact hs.1,fun row hrow=>?_⟩;unfold zy at hrow;obtain⟨b,hb,rfl⟩:=Nu.1 hrow;rw[Nr];exact(hs.2 b hb).2.2
theorem xu (blocks:List IBlk):(zy blocks).length=blocks.length:=by simp[zy]
theorem dW:∀ {l m:List Nat},l.Nodup->(∀x∈l,x∈m)->l.length<=m.length
 | [],m,_,_=>Jt _
 |a::l,m,hl,h=>by
  obtain⟨ha,hl⟩:=Qt.1 hl;have hm:=h a (List.mem_cons_self ..);have c:=dW (m:=m.erase a) hl (fun x hx=>(List.mem_erase_of_ne (fun e=>ha (by rw[<-e];exact hx))).2 (h x (List.mem_cons_of_mem _ hx)));rw[List.length_erase_of_mem hm] at c;have:=List.length_pos_of_mem hm;rw[Nq];omega
theorem jl {g:List (List Nat)}(hv:zw g)(h:(vD g).length=g.length):∀x,x<g.length->Reach (GE g) x:=by
 obtain⟨ns,c⟩:=adR hv;rw[c.eq] at h;intro x i;refine(c.mem x).1 ?_;apply Classical.byContradiction;intro j
 have f:=dW (l:=x::0::ns) (m:=List.range g.length) (Qt.2 ⟨j,c.nodup⟩) (fun y d=>by
  rcases Jq.1 d with rfl|d
  ·exact Ol.2 i
  ·exact Ol.2 (c.lt y d))
 rw[Nq,h,Un] at f;omega
theorem mu{d':wO}{v k:Int}(h:rB d v i k=some d')(hi:0<=i/\i.toNat<m)(c:∀x b,d.1 x=some b->0<=b/\b.toNat<m):∀x b,d'.1 x=some b->0<=b/\b.toNat<m:=by
 unfold rB at h
 split at h
 ·cases h
 ·cases h;intro x b hb
  change lS d.1 v i x=some b at hb
  unfold lS at hb
  split at hb
  ·cases hb;exact hi
  ·exact c x b hb
theorem oU(hi:0<=i/\i.toNat<m):∀(l:List Int) (d d':wO),vJ i l d=some d'->(∀x b,d.1 x=some b->0<=b/\b.toNat<m)->∀x b,d'.1 x=some b->0<=b/\b.toNat<m
 | [],d,d',h,hd=>by cases h;exact hd
 |v::l,d,d',h,hd=>by
  unfold vJ at h
  cases h1:rB d v i (-1) with
  |none=>rw[h1] at h;cases h
  |some d1=>rw[h1,Nw] at h;exact oU hi l d1 d' h (mu h1 hi hd)
theorem bP{p:IProg}(hi:0<=i/\i.toNat<m):∀(l:List IOp) (k:Int) (d d':wO),sS p i l k d=some d'->(∀x b,d.1 x=some b->0<=b/\b.toNat<m)->∀x b,d'.1 x=some b->0<=b/\b.toNat<m
 | [],k,d,d',h,hd=>by cases h;exact hd
 |o::l,k,d,d',h,hd=>by
  rw[dG] at h
  cases h1:ug p i k o d with
  |none=>rw[h1] at h;cases h
  |some d1=>
   rw[h1,Nw] at h;refine bP hi l _ d1 d' h ?_;unfold ug at h1
   split at h1
   ·split at h1
    ·exact mu h1 hi hd
    ·cases h1;exact hd
   ·cases h1
theorem oX{p:IProg}:∀(l:List IBlk) (i:Nat) (d d':wO),i+l.length<=m->uH p bl l i d=some d'->(∀x b,d.1 x=some b->0<=b/\b.toNat<m)->∀x b,d'.1 x=some b->0<=b/\b.toNat<m
 | [],i,d,d',_,h,hd=>by cases h;exact hd
 |b::l,i,d,d',hm,h,hd=>by
  simp only[Nq] at hm;unfold uH at h
  cases h1:pS p bl i b d with
  |none=>rw[h1] at h;cases h
  |some d1=>
   rw[h1,Nw] at h;obtain⟨_,d2,h2,h3⟩:=nF h1;have hi:0<=(i:Int)/\((i:Int)).toNat<m:=Zo;exact oX l (i+1) d1 d' Zo (by simpa using h) (bP hi _ _ _ _ h3 (oU hi _ _ _ h2 hd))
theorem rN{p:IProg}(h:wg p bl=some d):∀x b,d.1 x=some b->0<=b/\b.toNat<bl.length:=
 oX bl 0 na d Zo h (fun x b hb=>by cases hb)
theorem vE (d:wO)(g:List (List Nat))(i:Int):∀(l m:List IOp) (k:Int),xF d g i (l++m) k=(xF d g i l k && xF d g i m (k+l.length))
 | [],m,k=>by simp[xF]
 |o::l,m,k=>by
  have e:k+1+(l.length:Int)=k+((o::l).length:Int):=by simp;omega
  show((rR o).all (yy d g i k) && xF d g i (l++m) (k+1))=(((rR o).all (yy d g i k) && xF d g i l (k+1)) && _)
  rw[vE d g i l m,e,Bool.and_assoc]
theorem rf (d:wO)(g:List (List Nat)):∀(l m:List IBlk) (i:Int),tO d g (l++m) i=(tO d g l i && tO d g m (i+l.length))
 | [],m,i=>by simp[tO]
 |b::l,m,i=>by
  have e:i+1+(l.length:Int)=i+((b::l).length:Int):=by simp;omega
  show(aaC d g b i && tO d g (l++m) (i+1))=((aaC d g b i && tO d g l (i+1)) && _)
  rw[rf d g l m,e,Bool.and_assoc]
theorem gZ{g:List (List Nat)}(h:l[k]? =some o):xF d g i (l.take (k+1)) 0=(xF d g i (l.take k) 0 && (rR o).all (yy d g i k)):=by
 rw[Nh,h,Option.toList,vE,vS h,Ub];simp[xF]
theorem ik{g:List (List Nat)}(h:l[k]? =some o)(hf:(rR o).all (yy d g i k)=false):xF d g i l 0=false:=by
 rw[sD h,vE,vS h,Ub]
 show(_ && ((rR o).all (yy d g i k) && _))=false
 rw[hf,Bool.false_and,Uh]
theorem mz{g:List (List Nat)}{l:List IBlk}{b:IBlk}(h:l[k]? =some b):tO d g (l.take (k+1)) 0=(tO d g (l.take k) 0 && aaC d g b k):=by
 rw[Nh,h,Option.toList,rf,vS h,Ub];simp[tO]
theorem pH{g:List (List Nat)}{l:List IBlk}{b:IBlk}(h:l[k]? =some b)(hf:aaC d g b k=false):tO d g l 0=false:=by
 rw[sD h,rf,vS h,Ub]
 show(_ && (aaC d g b k && _))=false
 rw[hf,Bool.false_and,Uh]
theorem ChkAt.made{d:Value}(i:T w C (pv++ [d,.map (some m1),.map (some m2),c]).toArray 107)(hl:pv.length=6)(k:w.heap[m1]? =some (.map #[] 0))(j:w.heap[m2]? =some (.map #[] 0))(f:m1≠m2):
 ChkAt w C m1 m2 pv d c 0 na:=by
 have hm:∀m,w.heap[m]? =some (.map #[] 0)->wA w m 0 (fun _=>none):=fun m h=>by
  have l:=wA.made ({w with heap:=w.heap.extract 0 m });have o:m<w.heap.size:=lt_of_block h;have hs:(w.heap.extract 0 m).size=m:=by simp;omega
  obtain⟨D,⟨es,g,k1,k2⟩,k3⟩:=l;have e1:(World.alloc {w with heap:=w.heap.extract 0 m } (.map #[] 0)).heap[(w.heap.extract 0 m).size]? =some (.map #[] 0):=zI rfl;rw[e1] at k1;cases k1;exact⟨D,⟨_,_,h,k2⟩,k3⟩
 exact⟨i,hl,hm m1 k,hm m2 j,f,fun _=>rfl⟩
theorem ChkAt.idom{n:Nat}{g i:Value}(h:ChkAt w C m1 m2 pv g i n d)(iv:Value):ChkAt (w.setCell ⟨C,9,none⟩ iv) C m1 m2 pv g iv n d:=by
 obtain⟨k1,k2⟩:=h.ne1;refine⟨?_,h.plen,h.map1.same (Below.heap_setCell _ _ _ _ (Ne.symm k1)),h.map2.same (Below.heap_setCell _ _ _ _ (Ne.symm k2)),h.ne,h.dom⟩;rw[zD h.blk];have hl:=h.plen
 obtain⟨p0,p1,p2,p3,p4,p5,rfl⟩:∃a b c d e f,pv=[a,b,c,d,e,f]:=by
  match pv,hl with
  | [a,b,c,d,e,f],_=>exact⟨a,b,c,d,e,f,rfl⟩
 rfl
def cG (x:Int):Int:=wrap64 (x+1)
def qK (n:Int)(l:List Int):Int:=l.foldl (fun n v=>max n (cG v)) n
def o8 (n:Int)(l:List IOp):Int:=l.foldl (fun n o=>max n (cG o.res)) n
def iL (n:Int)(b:IBlk):Int:=o8 (qK n b.params) b.ops
def aaG (blocks:List IBlk):Int:=blocks.foldl iL 0
theorem wt{α β:Type}(f:β->α->β)(z:β){l:List α}{x:α}(h:l[k]? =some x):(l.take (k+1)).foldl f z=f ((l.take k).foldl f z) x:=by
 rw[Nh,h,List.foldl_append];rfl
theorem mZ (a b:Int):(if a<b then b else a)=max a b:=by
 rw[Int.max_def]
 split<;>split<;>omega
def qs (w:World)(x:Int)(e:Ending)(w':World):Prop:=e=.returned (I x)/\Q w w'
theorem ls{B:Nat}{c2:Value}(b1:wX w B c2 blocks)(hB:B<=w.heap.size)(hs:vZ blocks):
 A 17 #[.agg #[c2]] w (qs w (aaG blocks)):=by
 obtain⟨fa,fc,rfl,f9,f5⟩:=b1.form;have f4:=hs.1;have g:=Ja (Jb b1 (Jb hB hs));have b8:Q w (w.alloc (U #[.slice fa blocks.length fc] 39)):=(Below.refl _ _).alloc (Je _) _;have t:=zI (W:=w) (o:=U #[.slice fa blocks.length fc] 39) rfl;obtain⟨fb,a9⟩:∃fb,w.heap.size=fb:=⟨_,rfl⟩
 clear b1 hB hs;go_enter Try.func17,Try.ntmps17;go_upto_region 1 with fail;generalize d6:w.alloc (U #[.slice fa blocks.length fc] 39)=W1 at *;rw[a9] at t;have c:=Ja (Jb b8 (Jb t a9));have c1:=zA (i:=0) t rfl;have e2:=lt_of_block t;clear b8 t d6 a9;go_wp2
 go_loopw [3,13] (fun nv kv wx=>∃(k:Nat) (n:Int),k<=blocks.length/\nv=I n/\kv=I k/\Hid (n=(blocks.take k).foldl iL 0/\Q W1 wx)) (fun _ kv _=>blocks.length-(intOf kv).toNat)
 case atStart=>exact⟨0,0,Jt _,rfl,rfl,Ja ⟨rfl,Below.refl _ _⟩⟩
 case round=>
  obtain⟨k,n,hk,rfl,rfl,f⟩:=hrel;have a2:=zH f.out.2 c.out.2.1 (lt_of_block c.out.2.1);have c0:=zA (i:=0) a2 rfl;have f6:=lt_of_block a2
  by_cases b4:k<blocks.length
  ·have c7:(k:Int)<(blocks.length:Int):=Zo;obtain⟨b,hb⟩:∃b,blocks[k]? =some b:=⟨_,Jd b4⟩
   have b6:wX wr B (.slice fa blocks.length fc) blocks:=(g.out.1.below yT ((c.out.1.trans (f.out.2.mono c.out.1.size)).mono g.out.2.1))
   obtain⟨bb,bo,d2,d4,g2,g3,d7,pv,ov,tv,g0,g1,g4,a0,a1,a4⟩:=b6.get hb;obtain⟨pa,pc,rfl,f0,e7⟩:=a0.form;obtain⟨oa,oc,rfl,f3,f1⟩:=a1.form;obtain⟨ta,tc,rfl,e6,e4⟩:=a4.form;have e3:bb<wr.heap.size:=Jy d4 (by have:=g.out.2.1;have:=(c.out.1.trans (f.out.2.mono c.out.1.size)).size;omega);have b0:=g.out.2.2.2 b (Ji hb);have u:Q wr (wr.alloc (U #[.slice pa b.params.length pc,.slice oa b.ops.length oc,I b.term.kind,I b.term.a,.slice ta b.term.to.length tc] 36)):=(Below.refl _ _).alloc (Je _) _;have l:=zI (W:=wr) (o:=U #[.slice pa b.params.length pc,.slice oa b.ops.length oc,I b.term.kind,I b.term.a,.slice ta b.term.to.length tc] 36) rfl;subst d2;have e8:=b0.1;have f2:=b0.2.1;obtain⟨tb,a5⟩:∃tb,wr.heap.size=tb:=⟨_,rfl⟩
   have HT:=Ja a5;clear b6 b0;go_upto_region 5 with fail;generalize d5:wr.alloc (U #[.slice pa b.params.length pc,.slice oa b.ops.length oc,I b.term.kind,I b.term.a,.slice ta b.term.to.length tc] 36)=W5 at *;rw[a5] at l;have t0:=zA (i:=0) l rfl;have t1:=zA (i:=1) l rfl;have e5:=lt_of_block l;have d3:∀q,B<=q->Below q wr W5->True:=fun _ _ _=>trivial
   have b2:=(a0.below zO (u.mono (show B<=wr.heap.size by have:=g.out.2.1;have:=(c.out.1.trans (f.out.2.mono c.out.1.size)).size;omega)))
   have b3:=(a1.below xA (u.mono (show B<=wr.heap.size by have:=g.out.2.1;have:=(c.out.1.trans (f.out.2.mono c.out.1.size)).size;omega)))
   have b7:=f.out.2.trans (u.mono f.out.2.size);have H5:=Ja (Jb b2 (Jb b3 (Jb b7 hb)));have g5:B<=wr.heap.size:=by have:=g.out.2.1;have:=(c.out.1.trans (f.out.2.mono c.out.1.size)).size;omega
   have e0:wr.heap.size<=W5.heap.size:=u.size;have c8:B<=W5.heap.size:=Zo;clear d3 b2 b3 b7 hb a0 a1 a4 u l g0 g1 g2 g3 g4 d7 a2 a5 d5;go_wp2
   go_loop [3,20] (fun nv jv=>∃(j:Nat) (m:Int),j<=b.params.length/\nv=I m/\jv=I j/\Hid (m=qK n (b.params.take j))) (fun _ jv=>b.params.length-(intOf jv).toNat)
   case atStart=>exact⟨0,n,Jt _,rfl,rfl,Ja rfl⟩
   case round=>
    obtain⟨j,m,hj,rfl,rfl,h⟩:=hrel
    by_cases d:j<b.params.length
    ·have b5:(j:Int)<(b.params.length:Int):=Zo;obtain⟨x,y⟩:∃x,b.params[j]? =some x:=⟨_,Jd d⟩
     obtain⟨pb,po,a6,d1,d0,c3⟩:=H5.out.1.get y;rw[Nk] at d0;subst a6;have c5:pb<W5.heap.size:=Zo;have HX:=Ja y;clear y c3;go_wp2
     go_round
     case rel=>
      refine⟨j+1,_,d,rfl,by go_num,Ja ?_⟩;unfold qK;rw[wt _ _ HX.out,mZ,h.out];rfl
     case measure=>simp[intOf];omega
    ·obtain rfl:j=b.params.length:=by omega
     have b5:¬(b.params.length:Int)<(b.params.length:Int):=Zo;have d8:=Ja (show m=qK n b.params by rw[h.out,Nl]);clear hj h d;go_wp2
     go_loopw [3,32] (fun nv jv wx=>∃(j:Nat) (m2:Int),j<=b.ops.length/\nv=I m2/\jv=I j/\Hid (m2=o8 m (b.ops.take j)/\Q W5 wx)) (fun _ jv _=>b.ops.length-(intOf jv).toNat)
     case atStart=>exact⟨0,m,Jt _,rfl,rfl,Ja ⟨rfl,Below.refl _ _⟩⟩
     case round=>
      obtain⟨j,m2,hj,rfl,rfl,h⟩:=hrel
      by_cases d:j<b.ops.length
      ·have b5:(j:Int)<(b.ops.length:Int):=Zo;obtain⟨x,y⟩:∃x,b.ops[j]? =some x:=⟨_,Jd d⟩
       have a3:=H5.out.2.1.below xA (h.out.2.mono c8);obtain⟨pb,po,a6,d1,x0,x1,x2,x3,x4,c9,av,x5,b9⟩:=a3.get y;obtain⟨aa,ac,rfl,_,_⟩:=b9.form;subst a6;have c4:=h.out.2.size;have c5:pb<wr.heap.size:=Zo;have HX:=Ja y;clear y a3 b9 c9;go_wp2;go_roundw
       case rel=>
        refine⟨j+1,_,d,rfl,by go_num,Ja ⟨?_,h.out.2.alloc c4 _⟩⟩;unfold o8;rw[wt _ _ HX.out,mZ,h.out.1];rfl
       case measure=>simp[intOf];omega
      ·obtain rfl:j=b.ops.length:=by omega
       have e1:¬(b.ops.length:Int)<(b.ops.length:Int):=Zo;clear hj d;go_wp2;go_roundw
       case rel=>
        refine⟨k+1,m2,b4,rfl,by go_num,Ja ⟨?_,H5.out.2.2.1.trans (h.out.2.mono H5.out.2.2.1.size)⟩⟩;rw[wt _ _ H5.out.2.2.2,<-f.out.1,h.out.1,Nl,d8.out];rfl
       case measure=>simp[intOf];omega
  ·obtain rfl:k=blocks.length:=by omega
   have c7:¬(blocks.length:Int)<(blocks.length:Int):=Zo;clear a2;go_wp2;go_ret;refine⟨?_,c.out.1.trans (f.out.2.mono c.out.1.size)⟩;rw[f.out.1,Nl];rfl
theorem ct{p:IProg}(h:opF p o=true):-1<=o.res:=by
 unfold opF at h;rw[Jm] at h;have c:=h.2
 split at c
 ·simp only[Jm,decide_eq_true_eq] at c;omega
 ·split at c
  ·simp only[Jm,decide_eq_true_eq] at c;omega
  ·simp only[Jm,decide_eq_true_eq] at c;omega
theorem aW (l:List Int):∀(n:Int),n<=qK n l/\∀v∈l,cG v<=qK n l:=by
 induction l with
 |nil=>intro n;exact⟨Og _,fun v hv=>by cases hv⟩
 |cons x l ih=>
  intro n;obtain⟨d,c⟩:=ih (max n (cG x));have e:qK n (x::l)=qK (max n (cG x)) l:=rfl;rw[e];refine⟨by omega,fun v hv=>?_⟩;rcases Jq.1 hv with rfl|hv
  ·omega
  ·exact c v hv
theorem adH (l:List IOp):∀(n:Int),n<=o8 n l/\∀o∈l,cG o.res<=o8 n l:=by
 induction l with
 |nil=>intro n;exact⟨Og _,fun v hv=>by cases hv⟩
 |cons x l ih=>
  intro n;obtain⟨d,c⟩:=ih (max n (cG x.res));have e:o8 n (x::l)=o8 (max n (cG x.res)) l:=rfl;rw[e];refine⟨by omega,fun v hv=>?_⟩;rcases Jq.1 hv with rfl|hv
  ·omega
  ·exact c v hv
theorem dr (l:List IBlk):∀(n:Int),n<=l.foldl iL n/\∀b∈l,(∀v∈b.params,cG v<=l.foldl iL n)/\∀o∈b.ops,cG o.res<=l.foldl iL n:=by
 induction l with
 |nil=>intro n;exact⟨Og _,fun v hv=>by cases hv⟩
 |cons x l ih=>
  intro n;obtain⟨d,c⟩:=ih (iL n x);have p1:=aW x.params n;have p2:=adH x.ops (qK n x.params);have e:iL n x=o8 (qK n x.params) x.ops:=rfl;rw[Qk];refine⟨by omega,fun b hb=>?_⟩;rcases Jq.1 hb with rfl|hb
  ·exact⟨fun v hv=>by have:=p1.2 v hv;omega,fun o ho=>by have:=p2.2 o ho;omega⟩
  ·exact c b hb
theorem bO (blocks:List IBlk):0<=aaG blocks:=(dr blocks 0).1
theorem wrap64_in {n:Int}(d:-9223372036854775808<=n)(c:n<=9223372036854775807):wrap64 n=n:=by first|exact Om _ Zo|(unfold wrap64;omega)
theorem aaY {v:Int}(h:-1<=v)(c:v<=65535):cG v=v+1:=by unfold cG;rw[wrap64_in Zo Zo]
theorem neg_any (w:World){a b:Rg}(d:a.ok)(hb:b.ok):A 28 #[.agg #[M (a.lo:Int),M (a.hi:Int)],.agg #[M (b.lo:Int),M (b.hi:Int)]] w (wb w (y7 (-(a.hi:Int)) (-(a.lo:Int)))):=by
 have m:=d.1;have l:=d.2;have c:=hb.1;have k:=hb.2;obtain⟨⟨x,y⟩,hr⟩:∃r,y7 (-(a.hi:Int)) (-(a.lo:Int))=r:=⟨_,rfl⟩
 rw[hr]
 have f:∀W,A 29 #[I (-(a.hi:Int)),I (-(a.lo:Int))] W (fun e w'=>e=.returned (.agg #[M x,M y])/\Q W w'):=fun W=>by
  have:=n9 W (lo:=-(a.hi:Int)) (hi:=-(a.lo:Int)) Zo Zo;rw[hr] at this;exact this
 have g:=Ja f;clear f hr d hb;go_enter Try.func28,Try.ntmps28;go_wp2_with (go_at_call 29;go_must (refine(g.out _).mono ?_;rintro e w1 ⟨rfl,c⟩;have hk:T w1 (w.heap.size+1+1) #[M 0,M 0] 48:=zH c (zI Zs) Zs;have f0:=zA (i:=0) hk rfl;have f1:=zA (i:=1) hk rfl;have g0:=zE (i:=0) hk;have g1:=zE (i:=1) hk;have h:=lt_of_block hk;have j:=Below.trans (show Q w _ from by repeat' (first|exact Below.refl _ _|(refine Below.alloc ?_ (by first|(simp;done)|(simp;omega)) _))) (c.mono (by first|(simp;done)|(simp;omega)));clear c hk))
 refine bodyPost_ret (v:=.agg #[M x,M y]) ?_ rfl ⟨rfl,by repeat' (first|exact Below.refl _ _|assumption|(refine Below.alloc ?_ (by first|(simp;done)|(simp;omega)) _)|(refine Below.setCell ?_ (by first|(simp;done)|(simp;omega)) _))⟩;rw[zM rfl];go_simp
theorem add_any (w:World){a b:Rg}(d:a.ok)(hb:b.ok):A 31 #[.agg #[M (a.lo:Int),M (a.hi:Int)],.agg #[M (b.lo:Int),M (b.hi:Int)]] w (wb w (y7 ((a.lo:Int)+b.lo) ((a.hi:Int)+b.hi))):=by
 have m:=d.1;have l:=d.2;have c:=hb.1;have k:=hb.2;obtain⟨⟨x,y⟩,hr⟩:∃r,y7 ((a.lo:Int)+b.lo) ((a.hi:Int)+b.hi)=r:=⟨_,rfl⟩
 rw[hr]
 have f:∀W,A 29 #[I ((a.lo:Int)+(b.lo:Int)),I ((a.hi:Int)+(b.hi:Int))] W (fun e w'=>e=.returned (.agg #[M x,M y])/\Q W w'):=fun W=>by
  have:=n9 W (lo:=(a.lo:Int)+b.lo) (hi:=(a.hi:Int)+b.hi) Zo Zo;rw[hr] at this;exact this
 have g:=Ja f;clear f hr d hb;go_enter Try.func31,Try.ntmps31;go_wp2_with (go_at_call 29;go_must (refine(g.out _).mono ?_;rintro e w1 ⟨rfl,c⟩;have hk:T w1 (w.heap.size+1+1) #[M 0,M 0] 48:=zH c (zI Zs) Zs;have f0:=zA (i:=0) hk rfl;have f1:=zA (i:=1) hk rfl;have g0:=zE (i:=0) hk;have g1:=zE (i:=1) hk;have h:=lt_of_block hk;have j:=Below.trans (show Q w _ from by repeat' (first|exact Below.refl _ _|(refine Below.alloc ?_ (by first|(simp;done)|(simp;omega)) _))) (c.mono (by first|(simp;done)|(simp;omega)));clear c hk))
 refine bodyPost_ret (v:=.agg #[M x,M y]) ?_ rfl ⟨rfl,by repeat' (first|exact Below.refl _ _|assumption|(refine Below.alloc ?_ (by first|(simp;done)|(simp;omega)) _)|(refine Below.setCell ?_ (by first|(simp;done)|(simp;omega)) _))⟩;rw[zM rfl];go_simp
theorem sub_any (w:World){a b:Rg}(d:a.ok)(hb:b.ok):A 32 #[.agg #[M (a.lo:Int),M (a.hi:Int)],.agg #[M (b.lo:Int),M (b.hi:Int)]] w (wb w (y7 ((a.lo:Int)-b.hi) ((a.hi:Int)-b.lo))):=by
 have m:=d.1;have l:=d.2;have c:=hb.1;have k:=hb.2;obtain⟨⟨x,y⟩,hr⟩:∃r,y7 ((a.lo:Int)-b.hi) ((a.hi:Int)-b.lo)=r:=⟨_,rfl⟩
 rw[hr]
 have f:∀W,A 29 #[I ((a.lo:Int)-(b.hi:Int)),I ((a.hi:Int)-(b.lo:Int))] W (fun e w'=>e=.returned (.agg #[M x,M y])/\Q W w'):=fun W=>by
  have:=n9 W (lo:=(a.lo:Int)-b.hi) (hi:=(a.hi:Int)-b.lo) Zo Zo;rw[hr] at this;exact this
 have g:=Ja f;clear f hr d hb;go_enter Try.func32,Try.ntmps32;go_wp2_with (go_at_call 29;go_must (refine(g.out _).mono ?_;rintro e w1 ⟨rfl,c⟩;have hk:T w1 (w.heap.size+1+1) #[M 0,M 0] 48:=zH c (zI Zs) Zs;have f0:=zA (i:=0) hk rfl;have f1:=zA (i:=1) hk rfl;have g0:=zE (i:=0) hk;have g1:=zE (i:=1) hk;have h:=lt_of_block hk;have j:=Below.trans (show Q w _ from by repeat' (first|exact Below.refl _ _|(refine Below.alloc ?_ (by first|(simp;done)|(simp;omega)) _))) (c.mono (by first|(simp;done)|(simp;omega)));clear c hk))
 refine bodyPost_ret (v:=.agg #[M x,M y]) ?_ rfl ⟨rfl,by repeat' (first|exact Below.refl _ _|assumption|(refine Below.alloc ?_ (by first|(simp;done)|(simp;omega)) _)|(refine Below.setCell ?_ (by first|(simp;done)|(simp;omega)) _))⟩;rw[zM rfl];go_simp
theorem mul_any (w:World){a b:Rg}(g:a.ok)(hb:b.ok):A 33 #[.agg #[M (a.lo:Int),M (a.hi:Int)],.agg #[M (b.lo:Int),M (b.hi:Int)]] w (wb w (yf (a.lo*b.lo) (a.hi*b.hi))):=by
 have j:=g.1;have f:=g.2;have c:=hb.1;have d:=hb.2;obtain⟨⟨x,y⟩,hr⟩:∃r,yf (a.lo*b.lo) (a.hi*b.hi)=r:=⟨_,rfl⟩
 rw[hr];have q:a.lo*b.lo<=65535*65535:=Nat.mul_le_mul Zo Zo;have o:a.hi*b.hi<=65535*65535:=Nat.mul_le_mul f d;have m:IntKind.i64.wrap ((a.lo:Int)*(b.lo:Int))=(a.lo:Int)*(b.lo:Int):=by rw[<-Int.natCast_mul];exact Om _ ⟨by omega,by omega⟩
 have l:IntKind.i64.wrap ((a.hi:Int)*(b.hi:Int))=(a.hi:Int)*(b.hi:Int):=by rw[<-Int.natCast_mul];exact Om _ ⟨by omega,by omega⟩
 have h:∀W,A 34 #[I ((a.lo:Int)*(b.lo:Int)),I ((a.hi:Int)*(b.hi:Int))] W (fun e w'=>e=.returned (.agg #[M x,M y])/\Q W w'):=fun W=>by
  have:=kI W (lo:=a.lo*b.lo) (hi:=a.hi*b.hi) (Nat.mul_le_mul j c) (by have:=Nat.mul_le_mul f d;omega);rw[hr,Int.natCast_mul,Int.natCast_mul] at this;exact this
 have k:=Ja h;clear h hr g hb;go_enter Try.func33,Try.ntmps33;go_wp2_with (go_at_call 34;go_must (refine(k.out _).mono ?_;rintro e w1 ⟨rfl,c⟩;have hk:T w1 (w.heap.size+1+1) #[M 0,M 0] 48:=zH c (zI Zs) Zs;have f0:=zA (i:=0) hk rfl;have f1:=zA (i:=1) hk rfl;have g0:=zE (i:=0) hk;have g1:=zE (i:=1) hk;have t:=lt_of_block hk;have u:=Below.trans (show Q w _ from by repeat' (first|exact Below.refl _ _|(refine Below.alloc ?_ (by first|(simp;done)|(simp;omega)) _))) (c.mono (by first|(simp;done)|(simp;omega)));clear c hk))
 refine bodyPost_ret (v:=.agg #[M x,M y]) ?_ rfl ⟨rfl,by repeat' (first|exact Below.refl _ _|assumption|(refine Below.alloc ?_ (by first|(simp;done)|(simp;omega)) _)|(refine Below.setCell ?_ (by first|(simp;done)|(simp;omega)) _))⟩;rw[zM rfl];go_simp
theorem and_any (w:World){a b:Rg}(c:a.ok)(hb:b.ok):A 36 #[.agg #[M (a.lo:Int),M (a.hi:Int)],.agg #[M (b.lo:Int),M (b.hi:Int)]] w (wb w (⟨0,min a.hi b.hi⟩)):=by
 have i:=c.1;have h:=c.2;have g:=hb.1;have f:=hb.2;have d:=min16 a.hi b.hi;obtain⟨m,hm⟩:∃m,min a.hi b.hi=m:=⟨_,rfl⟩
 rw[hm] at d ⊢;clear hm c hb;go_enter Try.func36,Try.ntmps36;go_wp2;refine bodyPost_ret (v:=.agg #[M 0,M m]) ?_ rfl ⟨rfl,by repeat' (first|exact Below.refl _ _|assumption|(refine Below.alloc ?_ (by first|(simp;done)|(simp;omega)) _)|(refine Below.setCell ?_ (by first|(simp;done)|(simp;omega)) _))⟩;rw[zM rfl];go_simp
theorem lts_any (w:World){a b:Rg}(c:a.ok)(hb:b.ok):A 47 #[.agg #[M (a.lo:Int),M (a.hi:Int)],.agg #[M (b.lo:Int),M (b.hi:Int)]] w (wb w (⟨0,1⟩)):=by
 have h:=c.1;have g:=c.2;have f:=hb.1;have d:=hb.2;go_enter Try.func47,Try.ntmps47;go_wp2;refine bodyPost_ret (v:=.agg #[M 0,M 1]) ?_ rfl ⟨rfl,by repeat' (first|exact Below.refl _ _|assumption|(refine Below.alloc ?_ (by first|(simp;done)|(simp;omega)) _)|(refine Below.setCell ?_ (by first|(simp;done)|(simp;omega)) _))⟩;rw[zM rfl];go_simp
theorem aa9 (w:World){a b:Rg}(c:a.ok)(hb:b.ok):A 48 #[.agg #[M (a.lo:Int),M (a.hi:Int)],.agg #[M (b.lo:Int),M (b.hi:Int)]] w (wb w (⟨0,255⟩)):=by
 have h:=c.1;have g:=c.2;have f:=hb.1;have d:=hb.2;go_enter Try.func48,Try.ntmps48;go_wp2;refine bodyPost_ret (v:=.agg #[M 0,M 255]) ?_ rfl ⟨rfl,by repeat' (first|exact Below.refl _ _|assumption|(refine Below.alloc ?_ (by first|(simp;done)|(simp;omega)) _)|(refine Below.setCell ?_ (by first|(simp;done)|(simp;omega)) _))⟩;rw[zM rfl];go_simp
theorem ae2 (w:World){a b:Rg}(c:a.ok)(hb:b.ok):A 49 #[.agg #[M (a.lo:Int),M (a.hi:Int)],.agg #[M (b.lo:Int),M (b.hi:Int)]] w (wb w (⟨0,255⟩)):=by
 have h:=c.1;have g:=c.2;have f:=hb.1;have d:=hb.2;go_enter Try.func49,Try.ntmps49;go_wp2;refine bodyPost_ret (v:=.agg #[M 0,M 255]) ?_ rfl ⟨rfl,by repeat' (first|exact Below.refl _ _|assumption|(refine Below.alloc ?_ (by first|(simp;done)|(simp;omega)) _)|(refine Below.setCell ?_ (by first|(simp;done)|(simp;omega)) _))⟩;rw[zM rfl];go_simp
theorem not_any (w:World){a b:Rg}(f:a.ok)(hb:b.ok):A 30 #[.agg #[M (a.lo:Int),M (a.hi:Int)],.agg #[M (b.lo:Int),M (b.hi:Int)]] w (wb w ⟨65535-a.hi,65535-a.lo⟩):=by
 have i:=f.1;have h:=f.2;have e1:=not16 a.hi Zo;have e2:=not16 a.lo Zo;obtain⟨x,d⟩:∃x,65535-a.hi=x:=⟨_,rfl⟩
 obtain⟨y,c⟩:∃y,65535-a.lo=y:=⟨_,rfl⟩
 rw[d,c];rw[d] at e1;rw[c] at e2;have g:=Ja (Jb e1 e2);clear f hb d c e1 e2;go_enter Try.func30,Try.ntmps30;go_wp2;refine bodyPost_ret (v:=.agg #[M (bits .xor .u16 IntKind.u16.max (a.hi:Int)),M (bits .xor .u16 IntKind.u16.max (a.lo:Int))]) ?_ rfl ⟨by rw[g.out.1,g.out.2],by repeat' (first|exact Below.refl _ _|assumption|(refine Below.alloc ?_ (by first|(simp;done)|(simp;omega)) _)|(refine Below.setCell ?_ (by first|(simp;done)|(simp;omega)) _))⟩;rw[zM rfl];go_simp
theorem or_any (w:World){a b:Rg}(d:a.ok)(hb:b.ok):A 37 #[.agg #[M (a.lo:Int),M (a.hi:Int)],.agg #[M (b.lo:Int),M (b.hi:Int)]] w (wb w ⟨max a.lo b.lo,xm (max a.hi b.hi)⟩):=by
 have u:=d.1;have t:=d.2;have q:=hb.1;have o:=hb.2;have j:=af0 a.lo b.lo;have h:=Ja (fun W=>aeU W (x:=a.hi) (y:=b.hi) Zo Zo);obtain⟨x,g⟩:∃x,max a.lo b.lo=x:=⟨_,rfl⟩
 obtain⟨y,f⟩:∃y,xm (max a.hi b.hi)=y:=⟨_,rfl⟩
 rw[f] at h ⊢;rw[g] at j ⊢;clear g f d hb;go_enter Try.func37,Try.ntmps37;go_upto_region 1 with fail;have c:=Ja (show Q w (((w.alloc (U #[M (a.lo:Int),M (a.hi:Int)] 48)).alloc (U #[M (b.lo:Int),M (b.hi:Int)] 48)).alloc (U #[M 0,M 0] 48))/\T (((w.alloc (U #[M (a.lo:Int),M (a.hi:Int)] 48)).alloc (U #[M (b.lo:Int),M (b.hi:Int)] 48)).alloc (U #[M 0,M 0] 48)) w.heap.size #[M (a.lo:Int),M (a.hi:Int)] 48/\T (((w.alloc (U #[M (a.lo:Int),M (a.hi:Int)] 48)).alloc (U #[M (b.lo:Int),M (b.hi:Int)] 48)).alloc (U #[M 0,M 0] 48)) (w.heap.size+1) #[M (b.lo:Int),M (b.hi:Int)] 48/\T (((w.alloc (U #[M (a.lo:Int),M (a.hi:Int)] 48)).alloc (U #[M (b.lo:Int),M (b.hi:Int)] 48)).alloc (U #[M 0,M 0] 48)) (w.heap.size+1+1) #[M 0,M 0] 48 from⟨by repeat' (first|exact Below.refl _ _|assumption|(refine Below.alloc ?_ (by first|(simp;done)|(simp;omega)) _)|(refine Below.setCell ?_ (by first|(simp;done)|(simp;omega)) _)),zB (zB (zI rfl)),zB (zI Zs),zI Zs⟩);generalize ((w.alloc (U #[M (a.lo:Int),M (a.hi:Int)] 48)).alloc (U #[M (b.lo:Int),M (b.hi:Int)] 48)).alloc (U #[M 0,M 0] 48)=X at *;have k:=Ja (show ∀W,Q X W->O W w.heap.size 0 (M (a.lo:Int))/\O W w.heap.size 1 (M (a.hi:Int))/\O W (w.heap.size+1) 0 (M (b.lo:Int))/\O W (w.heap.size+1) 1 (M (b.hi:Int)) from fun W hb=>⟨zA (zH hb c.out.2.1 (lt_of_block c.out.2.1)) rfl,zA (zH hb c.out.2.1 (lt_of_block c.out.2.1)) rfl,zA (zH hb c.out.2.2.1 (lt_of_block c.out.2.2.1)) rfl,zA (zH hb c.out.2.2.1 (lt_of_block c.out.2.2.1)) rfl⟩);obtain⟨c0,c1,c2,c3⟩:=k.out X (Below.refl _ _);have hk:=c.out.2.2.2;have f0:=zA (i:=0) hk rfl;have f1:=zA (i:=1) hk rfl;have g0:∀i,Y X (w.heap.size+1+1) i:=fun i=>zE (i:=i) hk;have m:=lt_of_block hk;have l:=Ja c.out.1;clear hk
 go_region_held3 (fun w'=>O w' w.heap.size 0 (M (a.lo:Int))/\O w' w.heap.size 1 (M (a.hi:Int))/\O w' (w.heap.size+1) 0 (M (b.lo:Int))/\O w' (w.heap.size+1) 1 (M (b.hi:Int))) ((first|exact⟨c0,c1,c2,c3⟩|(go_simp;done)|(refine⟨?_,?_,?_,?_⟩<;>go_simp)))
  ((go_at_call 38;refine(h.out _).mono ?_;rintro e w1 ⟨rfl,rfl⟩))
 all_goals go_wp2_with fail
 all_goals (refine bodyPost_ret (v:=.agg #[M x,M y]) ?_ rfl ⟨rfl,by repeat' (first|exact l.out|(refine Below.drew ?_)|(refine Below.setCell ?_ (by first|(simp;done)|omega|(simp;omega)) _))⟩;rw[zM rfl];go_simp)
theorem xor_any (w:World){a b:Rg}(c:a.ok)(hb:b.ok):A 39 #[.agg #[M (a.lo:Int),M (a.hi:Int)],.agg #[M (b.lo:Int),M (b.hi:Int)]] w (wb w (⟨0,xm (max a.hi b.hi)⟩)):=by
 have j:=c.1;have i:=c.2;have h:=hb.1;have g:=hb.2;have f:=Ja (fun W=>aeU W (x:=a.hi) (y:=b.hi) Zo Zo);obtain⟨y,d⟩:∃y,xm (max a.hi b.hi)=y:=⟨_,rfl⟩
 rw[d] at f ⊢;clear d c hb;go_enter Try.func39,Try.ntmps39;go_wp2_with (go_at_call 38;go_must (refine(f.out _).mono ?_;rintro e w1 ⟨rfl,rfl⟩))
 refine bodyPost_ret (v:=.agg #[M 0,M y]) ?_ rfl ⟨rfl,by repeat' (first|exact Below.refl _ _|assumption|(refine Below.alloc ?_ (by first|(simp;done)|(simp;omega)) _)|(refine Below.setCell ?_ (by first|(simp;done)|(simp;omega)) _))⟩;rw[zM rfl];go_simp
theorem ae0 (w:World){a b:Rg}(f:a.ok)(hb:b.ok):A 35 #[.agg #[M (a.lo:Int),M (a.hi:Int)],.agg #[M (b.lo:Int),M (b.hi:Int)]] w (wb w (tr a b)):=by
 have b0:=f.1;have a9:=f.2;have d:=hb.1;have a6:=hb.2
 by_cases g:b.hi=0
 ·have hr:tr a b=zf:=by unfold tr;rw[if_pos g]
  rw[hr];have k:((b.hi:Int)==0)=true:=by rw[beq_iff_eq];omega
  clear hr g f hb;go_enter Try.func35,Try.ntmps35;go_wp2_with (go_at_call 20;go_must (refine(vt _).mono ?_;rintro e w1 ⟨rfl,d⟩;have hk:T w1 (w.heap.size+1+1) #[M 0,M 0] 48:=zH d (zI Zs) Zs;have f0:=zA (i:=0) hk rfl;have f1:=zA (i:=1) hk rfl;have g0:=zE (i:=0) hk;have g1:=zE (i:=1) hk;have a3:=lt_of_block hk;have a4:=Below.trans (show Q w _ from by repeat' (first|exact Below.refl _ _|(refine Below.alloc ?_ (by first|(simp;done)|(simp;omega)) _))) (d.mono (by first|(simp;done)|(simp;omega)));clear d hk))
  refine bodyPost_ret (v:=.agg #[M 0,M 65535]) ?_ rfl ⟨rfl,by repeat' (first|exact Below.refl _ _|assumption|(refine Below.alloc ?_ (by first|(simp;done)|(simp;omega)) _)|(refine Below.setCell ?_ (by first|(simp;done)|(simp;omega)) _))⟩;rw[zM rfl];go_simp
 ·have k:((b.hi:Int)==0)=false:=Ze;obtain⟨m,hm⟩:∃m,max b.lo 1=m:=⟨_,rfl⟩
  have h:=af0 b.lo 1;rw[hm] at h;have a1:((m:Int)==0)=false:=Ze;have a0:0<(m:Int):=Zo;have a5:0<(b.hi:Int):=Zo;have y:¬b.hi=0:=Zo;have x:¬m=0:=Zo;have u:¬(b.hi:Int)=0:=Zo;have q:¬(m:Int)=0:=Zo;have hr:tr a b=⟨a.lo/b.hi,a.hi/m⟩:=by unfold tr;rw[if_neg g,hm]
  rw[hr];have b1:∀(ts:Array TypeId) (t:TypeId) (W:World),(Builtin.max_ ts t #[M (b.lo:Int),M 1]).run Try.prog W=.ok (M m) W:=h;have e1:=ar8 a.lo b.hi Zo;have e2:=ar8 a.hi m Zo;have j:=Ja (Jb e1 e2);clear hr g f hb hm h e1 e2;go_enter Try.func35,Try.ntmps35;go_upto_region 1 with fail;have c:=Ja (show Q w (((w.alloc (U #[M (a.lo:Int),M (a.hi:Int)] 48)).alloc (U #[M (b.lo:Int),M (b.hi:Int)] 48)).alloc (U #[M 0,M 0] 48))/\T (((w.alloc (U #[M (a.lo:Int),M (a.hi:Int)] 48)).alloc (U #[M (b.lo:Int),M (b.hi:Int)] 48)).alloc (U #[M 0,M 0] 48)) w.heap.size #[M (a.lo:Int),M (a.hi:Int)] 48/\T (((w.alloc (U #[M (a.lo:Int),M (a.hi:Int)] 48)).alloc (U #[M (b.lo:Int),M (b.hi:Int)] 48)).alloc (U #[M 0,M 0] 48)) (w.heap.size+1) #[M (b.lo:Int),M (b.hi:Int)] 48/\T (((w.alloc (U #[M (a.lo:Int),M (a.hi:Int)] 48)).alloc (U #[M (b.lo:Int),M (b.hi:Int)] 48)).alloc (U #[M 0,M 0] 48)) (w.heap.size+1+1) #[M 0,M 0] 48 from⟨by repeat' (first|exact Below.refl _ _|assumption|(refine Below.alloc ?_ (by first|(simp;done)|(simp;omega)) _)|(refine Below.setCell ?_ (by first|(simp;done)|(simp;omega)) _)),zB (zB (zI rfl)),zB (zI Zs),zI Zs⟩);generalize ((w.alloc (U #[M (a.lo:Int),M (a.hi:Int)] 48)).alloc (U #[M (b.lo:Int),M (b.hi:Int)] 48)).alloc (U #[M 0,M 0] 48)=X at *;have l:=Ja (show ∀W,Q X W->O W w.heap.size 0 (M (a.lo:Int))/\O W w.heap.size 1 (M (a.hi:Int))/\O W (w.heap.size+1) 0 (M (b.lo:Int))/\O W (w.heap.size+1) 1 (M (b.hi:Int)) from fun W hb=>⟨zA (zH hb c.out.2.1 (lt_of_block c.out.2.1)) rfl,zA (zH hb c.out.2.1 (lt_of_block c.out.2.1)) rfl,zA (zH hb c.out.2.2.1 (lt_of_block c.out.2.2.1)) rfl,zA (zH hb c.out.2.2.1 (lt_of_block c.out.2.2.1)) rfl⟩);obtain⟨c0,c1,c2,c3⟩:=l.out X (Below.refl _ _);have hk:=c.out.2.2.2;have f0:=zA (i:=0) hk rfl;have f1:=zA (i:=1) hk rfl;have g0:∀i,Y X (w.heap.size+1+1) i:=fun i=>zE (i:=i) hk;have a2:=lt_of_block hk;have o:=Ja c.out.1;clear hk
  go_upto_region 3 with fail
  go_region_held3 (fun w'=>O w' w.heap.size 0 (M (a.lo:Int))/\O w' w.heap.size 1 (M (a.hi:Int))/\O w' (w.heap.size+1) 0 (M (b.lo:Int))/\O w' (w.heap.size+1) 1 (M (b.hi:Int))) ((first|exact⟨c0,c1,c2,c3⟩|(go_simp;done)|(refine⟨?_,?_,?_,?_⟩<;>go_simp))) (fail)
  all_goals go_wp2_with fail
  all_goals (refine bodyPost_ret (v:=.agg #[M (IntKind.u16.wrap ((a.lo:Int)/(b.hi:Int))),M (IntKind.u16.wrap ((a.hi:Int)/(m:Int)))]) ?_ rfl ⟨by rw[j.out.1,j.out.2];rfl,by repeat' (first|exact o.out|(refine Below.drew ?_)|(refine Below.setCell ?_ (by first|(simp;done)|omega|(simp;omega)) _))⟩;rw[zM rfl];go_simp)
theorem sar_any (w:World){a b:Rg}(d:a.ok)(hb:b.ok):A 43 #[.agg #[M (a.lo:Int),M (a.hi:Int)],.agg #[M (b.lo:Int),M (b.hi:Int)]] w (wb w (if 32768<=a.hi then zf else ux a b)):=by
 have q:=d.1;have o:=d.2;have c:=hb.1;have m:=hb.2
 by_cases f:32768<=a.hi
 ·rw[if_pos f];have k:(32768:Int)<=(a.hi:Int):=Zo;clear d hb;go_enter Try.func43,Try.ntmps43;go_wp2_with (go_at_call 20;go_must (refine(vt _).mono ?_;rintro e w1 ⟨rfl,c⟩;have hk:T w1 (w.heap.size+1+1) #[M 0,M 0] 48:=zH c (zI Zs) Zs;have f0:=zA (i:=0) hk rfl;have f1:=zA (i:=1) hk rfl;have g0:=zE (i:=0) hk;have g1:=zE (i:=1) hk;have g:=lt_of_block hk;have j:=Below.trans (show Q w _ from by repeat' (first|exact Below.refl _ _|(refine Below.alloc ?_ (by first|(simp;done)|(simp;omega)) _))) (c.mono (by first|(simp;done)|(simp;omega)));clear c hk))
  refine bodyPost_ret (v:=.agg #[M 0,M 65535]) ?_ rfl ⟨rfl,by repeat' (first|exact Below.refl _ _|assumption|(refine Below.alloc ?_ (by first|(simp;done)|(simp;omega)) _)|(refine Below.setCell ?_ (by first|(simp;done)|(simp;omega)) _))⟩;rw[zM rfl];go_simp
 ·rw[if_neg f];have k:¬(32768:Int)<=(a.hi:Int):=Zo;obtain⟨⟨x,y⟩,hr⟩:∃r,ux a b=r:=⟨_,rfl⟩
  have h:∀W,A 42 #[.agg #[M (a.lo:Int),M (a.hi:Int)],.agg #[M (b.lo:Int),M (b.hi:Int)]] W (fun e w'=>e=.returned (.agg #[M x,M y])/\Q W w'):=fun W=>by
   have:=f8 W (a:=a) (b:=b) Zo Zo;rw[hr] at this;exact this
  have l:=Ja h;rw[hr];clear d hb hr h f;go_enter Try.func43,Try.ntmps43;go_wp2_with (go_at_call 42;go_must (refine(l.out _).mono ?_;rintro e w1 ⟨rfl,c⟩;have hk:T w1 (w.heap.size+1+1) #[M 0,M 0] 48:=zH c (zI Zs) Zs;have f0:=zA (i:=0) hk rfl;have f1:=zA (i:=1) hk rfl;have g0:=zE (i:=0) hk;have g1:=zE (i:=1) hk;have g:=lt_of_block hk;have j:=Below.trans (show Q w _ from by repeat' (first|exact Below.refl _ _|(refine Below.alloc ?_ (by first|(simp;done)|(simp;omega)) _))) (c.mono (by first|(simp;done)|(simp;omega)));clear c hk))
  refine bodyPost_ret (v:=.agg #[M x,M y]) ?_ rfl ⟨rfl,by repeat' (first|exact Below.refl _ _|assumption|(refine Below.alloc ?_ (by first|(simp;done)|(simp;omega)) _)|(refine Below.setCell ?_ (by first|(simp;done)|(simp;omega)) _))⟩;rw[zM rfl];go_simp
theorem eq_any (w:World){a b:Rg}(h:a.ok)(hb:b.ok):A 44 #[.agg #[M (a.lo:Int),M (a.hi:Int)],.agg #[M (b.lo:Int),M (b.hi:Int)]] w (wb w (if a.hi<b.lo∨b.hi<a.lo then⟨0,0⟩ else⟨0,1⟩)):=by
 have a0:=h.1;have u:=h.2;have c:=hb.1;have t:=hb.2;obtain⟨q,g⟩:∃q,decide (a.hi<b.lo∨b.hi<a.lo)=q:=⟨_,rfl⟩
 have hr:(if a.hi<b.lo∨b.hi<a.lo then(⟨0,0⟩:Rg) else⟨0,1⟩)=if false=true then⟨1,1⟩ else if q=true then⟨0,0⟩ else⟨0,1⟩:=by rw[<-g];simp
 rw[hr];obtain⟨⟨x,y⟩,f⟩:∃r:Rg,(if false=true then(⟨1,1⟩:Rg) else if q=true then⟨0,0⟩ else⟨0,1⟩)=r:=⟨_,rfl⟩
 have l:∀W,A 45 #[.bool false,.bool q] W (fun e w'=>e=.returned (.agg #[M x,M y])/\Q W w'):=fun W=>by
  have:=j0 W false q;rw[f] at this;exact this
 have o:=Ja l;rw[f];clear h hb hr l f
 by_cases d:a.hi<b.lo
 ·obtain rfl:q=true:=by rw[<-g];simp[d]
  have d1:decide (a.hi<b.lo)=true:=decide_eq_true d;clear g d;go_enter Try.func44,Try.ntmps44;go_wp2_with (go_at_call 45;go_must (refine(o.out _).mono ?_;rintro e w1 ⟨rfl,c⟩;have hk:T w1 (w.heap.size+1+1) #[M 0,M 0] 48:=zH c (zI Zs) Zs;have f0:=zA (i:=0) hk rfl;have f1:=zA (i:=1) hk rfl;have g0:=zE (i:=0) hk;have g1:=zE (i:=1) hk;have k:=lt_of_block hk;have m:=Below.trans (show Q w _ from by repeat' (first|exact Below.refl _ _|(refine Below.alloc ?_ (by first|(simp;done)|(simp;omega)) _))) (c.mono (by first|(simp;done)|(simp;omega)));clear c hk))
  refine bodyPost_ret (v:=.agg #[M x,M y]) ?_ rfl ⟨rfl,by repeat' (first|exact Below.refl _ _|assumption|(refine Below.alloc ?_ (by first|(simp;done)|(simp;omega)) _)|(refine Below.setCell ?_ (by first|(simp;done)|(simp;omega)) _))⟩;rw[zM rfl];go_simp
 ·have d1:decide (a.hi<b.lo)=false:=decide_eq_false d;obtain⟨q2,j⟩:∃q2,decide (b.hi<a.lo)=q2:=⟨_,rfl⟩
  obtain rfl:q=q2:=by rw[<-g,<-j];simp[d]
  clear g d;go_enter Try.func44,Try.ntmps44;go_wp2_with (go_at_call 45;go_must (refine(o.out _).mono ?_;rintro e w1 ⟨rfl,c⟩;have hk:T w1 (w.heap.size+1+1) #[M 0,M 0] 48:=zH c (zI Zs) Zs;have f0:=zA (i:=0) hk rfl;have f1:=zA (i:=1) hk rfl;have g0:=zE (i:=0) hk;have g1:=zE (i:=1) hk;have k:=lt_of_block hk;have m:=Below.trans (show Q w _ from by repeat' (first|exact Below.refl _ _|(refine Below.alloc ?_ (by first|(simp;done)|(simp;omega)) _))) (c.mono (by first|(simp;done)|(simp;omega)));clear c hk))
  refine bodyPost_ret (v:=.agg #[M x,M y]) ?_ rfl ⟨rfl,by repeat' (first|exact Below.refl _ _|assumption|(refine Below.alloc ?_ (by first|(simp;done)|(simp;omega)) _)|(refine Below.setCell ?_ (by first|(simp;done)|(simp;omega)) _))⟩;rw[zM rfl];go_simp
theorem ltu_any (w:World){a b:Rg}(f:a.ok)(hb:b.ok):A 46 #[.agg #[M (a.lo:Int),M (a.hi:Int)],.agg #[M (b.lo:Int),M (b.hi:Int)]] w (wb w (if a.hi<b.lo then⟨1,1⟩ else if b.hi<=a.lo then⟨0,0⟩ else⟨0,1⟩)):=by
 have t:=f.1;have o:=f.2;have c:=hb.1;have m:=hb.2;obtain⟨q,h⟩:∃q,decide (a.hi<b.lo)=q:=⟨_,rfl⟩
 obtain⟨p,hp⟩:∃p,decide (b.hi<=a.lo)=p:=⟨_,rfl⟩
 have hr:(if a.hi<b.lo then(⟨1,1⟩:Rg) else if b.hi<=a.lo then⟨0,0⟩ else⟨0,1⟩)=if q=true then⟨1,1⟩ else if p=true then⟨0,0⟩ else⟨0,1⟩:=by rw[<-h,<-hp];simp
 rw[hr];obtain⟨⟨x,y⟩,d⟩:∃r:Rg,(if q=true then(⟨1,1⟩:Rg) else if p=true then⟨0,0⟩ else⟨0,1⟩)=r:=⟨_,rfl⟩
 have g:∀W,A 45 #[.bool q,.bool p] W (fun e w'=>e=.returned (.agg #[M x,M y])/\Q W w'):=fun W=>by
  have:=j0 W q p;rw[d] at this;exact this
 have j:=Ja g;rw[d];clear f hb hr g d;go_enter Try.func46,Try.ntmps46;go_wp2_with (go_at_call 45;go_must (refine(j.out _).mono ?_;rintro e w1 ⟨rfl,c⟩;have hk:T w1 (w.heap.size+1+1) #[M 0,M 0] 48:=zH c (zI Zs) Zs;have f0:=zA (i:=0) hk rfl;have f1:=zA (i:=1) hk rfl;have g0:=zE (i:=0) hk;have g1:=zE (i:=1) hk;have k:=lt_of_block hk;have l:=Below.trans (show Q w _ from by repeat' (first|exact Below.refl _ _|(refine Below.alloc ?_ (by first|(simp;done)|(simp;omega)) _))) (c.mono (by first|(simp;done)|(simp;omega)));clear c hk))
 refine bodyPost_ret (v:=.agg #[M x,M y]) ?_ rfl ⟨rfl,by repeat' (first|exact Below.refl _ _|assumption|(refine Below.alloc ?_ (by first|(simp;done)|(simp;omega)) _)|(refine Below.setCell ?_ (by first|(simp;done)|(simp;omega)) _))⟩;rw[zM rfl];go_simp
theorem shl_any (w:World){a b:Rg}(k:a.ok)(hb:b.ok):A 40 #[.agg #[M (a.lo:Int),M (a.hi:Int)],.agg #[M (b.lo:Int),M (b.hi:Int)]] w (wb w (if zx b=true then yf (a.lo*2^(b.lo%16)) (a.hi*2^(b.lo%16)) else zf)):=by
 have a2:=k.1;have a1:=k.2;have f:=hb.1;have d:=hb.2
 by_cases h:b.lo=b.hi
 ·rw[if_pos (by unfold zx;simpa using h)];have hq:((b.lo:Int)==(b.hi:Int))=true:=by rw[beq_iff_eq];omega
  have hp:2^(b.lo%16)<=32768:=Nat.pow_le_pow_right (show 0<2 by decide) (show b.lo%16<=15 by omega);have q:a.lo*2^(b.lo%16)<=65535*32768:=Nat.mul_le_mul Zo hp;have o:a.hi*2^(b.lo%16)<=65535*32768:=Nat.mul_le_mul a1 hp;obtain⟨u,g⟩:∃u,a.lo*2^(b.lo%16)=u:=⟨_,rfl⟩
  obtain⟨v,hv⟩:∃v,a.hi*2^(b.lo%16)=v:=⟨_,rfl⟩
  have m:u<=v:=by rw[<-g,<-hv];exact Qw _ a2
  have l:v<=2147450880:=by rw[<-hv];exact o
  have a5:u<=2147450880:=Jn m l;clear q o hp;obtain⟨⟨x,y⟩,hr⟩:∃r,yf u v=r:=⟨_,rfl⟩
  have a4:wrap64 ((a.lo:Int)*2^(b.lo%16))=(u:Int):=by rw[show(a.lo:Int)*2^(b.lo%16)=((a.lo*2^(b.lo%16):Nat):Int) by simp,g];clear g hv;exact IntWalk.wrap64_in _ ⟨by omega,by omega⟩
  have a3:wrap64 ((a.hi:Int)*2^(b.lo%16))=(v:Int):=by rw[show(a.hi:Int)*2^(b.lo%16)=((a.hi*2^(b.lo%16):Nat):Int) by simp,hv];clear g hv;exact IntWalk.wrap64_in _ ⟨by omega,by omega⟩
  have hc:∀W,A 34 #[I u,I v] W (fun e w'=>e=.returned (.agg #[M x,M y])/\Q W w'):=fun W=>by
   have:=kI W m (Nat.lt_of_le_of_lt l Zd);rw[hr] at this;exact this
  have HC:=Ja hc;rw[g,hv,hr]
  have j:=Ja (show ∀W,A 41 #[.agg #[M (b.lo:Int),M (b.hi:Int)]] W (fun e w'=>e=.returned (.bool true)/\Q W w') from fun W=>by
   have:=q6 W b;rw[show zx b=true from decide_eq_true h] at this
   exact this)
  clear k hb hr hc h g hv hq;go_enter Try.func40,Try.ntmps40;go_upto_region 3 with(go_at_call 41;go_must (refine(j.out _).mono ?_;rintro e w2 ⟨rfl,d⟩;have c:=Ja (show Q w w2/\T w2 w.heap.size #[M (a.lo:Int),M (a.hi:Int)] 48/\T w2 (w.heap.size+1) #[M (b.lo:Int),M (b.hi:Int)] 48/\T w2 (w.heap.size+1+1) #[M 0,M 0] 48 from⟨Below.trans (show Q w _ from by repeat' (first|exact Below.refl _ _|(refine Below.alloc ?_ (by first|(simp;done)|(simp;omega)) _))) (d.mono (by first|(simp;done)|(simp;omega))),zH d (zB (zB (zI rfl))) (by first|(simp;done)|(simp;omega)),zH d (zB (zI Zs)) (by first|(simp;done)|(simp;omega)),zH d (zI Zs) Zs⟩);clear d))
  have c0:=zA (i:=0) c.out.2.1 rfl;have c1:=zA (i:=1) c.out.2.1 rfl;have c2:=zA (i:=0) c.out.2.2.1 rfl;have c3:=zA (i:=1) c.out.2.2.1 rfl;have l1:=lt_of_block c.out.2.1;have l2:=lt_of_block c.out.2.2.1;have l3:=lt_of_block c.out.2.2.2;go_wp2_with (go_at_call 34;go_must (refine(HC.out _).mono ?_;rintro e w1 ⟨rfl,f⟩;have hk:=zH f c.out.2.2.2 (lt_of_block c.out.2.2.2);have f0:=zA (i:=0) hk rfl;have f1:=zA (i:=1) hk rfl;have g0:=zE (i:=0) hk;have g1:=zE (i:=1) hk;have t:=lt_of_block hk;have a0:=c.out.1.trans (f.mono c.out.1.size);clear f hk))
  refine bodyPost_ret (v:=.agg #[M x,M y]) ?_ rfl ⟨rfl,by repeat' (first|exact Below.refl _ _|assumption|(refine Below.alloc ?_ (by first|(simp;done)|(simp;omega)) _)|(refine Below.setCell ?_ (by first|(simp;done)|(simp;omega)) _))⟩;rw[zM rfl];go_simp
 ·rw[if_neg (by unfold zx;simpa using h)]
  have j:=Ja (show ∀W,A 41 #[.agg #[M (b.lo:Int),M (b.hi:Int)]] W (fun e w'=>e=.returned (.bool false)/\Q W w') from fun W=>by
   have:=q6 W b;rw[show zx b=false from decide_eq_false h] at this
   exact this)
  clear k hb h;go_enter Try.func40,Try.ntmps40;go_upto_region 2 with(go_at_call 41;go_must (refine(j.out _).mono ?_;rintro e w2 ⟨rfl,d⟩;have c:=Ja (show Q w w2/\T w2 w.heap.size #[M (a.lo:Int),M (a.hi:Int)] 48/\T w2 (w.heap.size+1) #[M (b.lo:Int),M (b.hi:Int)] 48/\T w2 (w.heap.size+1+1) #[M 0,M 0] 48 from⟨Below.trans (show Q w _ from by repeat' (first|exact Below.refl _ _|(refine Below.alloc ?_ (by first|(simp;done)|(simp;omega)) _))) (d.mono (by first|(simp;done)|(simp;omega))),zH d (zB (zB (zI rfl))) (by first|(simp;done)|(simp;omega)),zH d (zB (zI Zs)) (by first|(simp;done)|(simp;omega)),zH d (zI Zs) Zs⟩);clear d))
  have c0:=zA (i:=0) c.out.2.1 rfl;have c1:=zA (i:=1) c.out.2.1 rfl;have c2:=zA (i:=0) c.out.2.2.1 rfl;have c3:=zA (i:=1) c.out.2.2.1 rfl;have l1:=lt_of_block c.out.2.1;have l2:=lt_of_block c.out.2.2.1;have l3:=lt_of_block c.out.2.2.2;go_wp2_with (go_at_call 20;go_must (refine(vt _).mono ?_;rintro e w1 ⟨rfl,f⟩;have hk:=zH f c.out.2.2.2 (lt_of_block c.out.2.2.2);have f0:=zA (i:=0) hk rfl;have f1:=zA (i:=1) hk rfl;have g0:=zE (i:=0) hk;have g1:=zE (i:=1) hk;have t:=lt_of_block hk;have a0:=c.out.1.trans (f.mono c.out.1.size);clear f hk))
  refine bodyPost_ret (v:=.agg #[M 0,M 65535]) ?_ rfl ⟨rfl,by repeat' (first|exact Below.refl _ _|assumption|(refine Below.alloc ?_ (by first|(simp;done)|(simp;omega)) _)|(refine Below.setCell ?_ (by first|(simp;done)|(simp;omega)) _))⟩;rw[zM rfl];go_simp
open Go.RowKit Go.Maps
def aeM (v:Value):Option (DataW Unit×List MemPlace):=
 match v with
 |.func (.func k) fs cs=>if fs.size=0/\cs.size=0 then some (.lit (.int .i64 (k:Int)),[]) else none
 |.nilFunc=>some (.lit (.int .i64 (-1)),[])
 |_=>none
def ruV:Option Nat->Value
 |some k=> .func (.func k) #[] #[]
 |none=> .nilFunc
def ruD:Option Nat->DataW Unit
 |some k=> .lit (.int .i64 (k:Int))
 |none=> .lit (.int .i64 (-1))
theorem ej (o:Option Nat):aeM (ruV o)=some (ruD o,[]):=by cases o<;>rfl
theorem ae4 {v:Value}{o:Option Nat}{ps:List MemPlace}(h:aeM v=some (ruD o,ps)):v=ruV o:=by
 unfold aeM at h
 split at h
 ·rename_i k fs cs
  split at h
  ·rename_i hs
   have e1:fs=#[]:=Array.eq_empty_of_size_eq_zero hs.1;have e2:cs=#[]:=Array.eq_empty_of_size_eq_zero hs.2;subst e1 e2
   cases o with
   |none=>simp only[ruD,Option.some.injEq,Prod.mk.injEq,DataW.lit.injEq,Lit.int.injEq,true_and] at h;have:=h.1;omega
   |some j=>simp only[ruD,Option.some.injEq,Prod.mk.injEq,DataW.lit.injEq,Lit.int.injEq,true_and] at h;have:k=j:=Int.ofNat.inj h.1
            subst this;rfl
  ·cases h
 ·cases o with
  |none=>rfl
  |some j=>simp[ruD] at h
 ·cases h
theorem zeroRu (w:World):(zeroValue 112).run Try.prog w=.ok .nilFunc w:=by kernel_rfl
def tt (w:World)(b n:Nat)(g:Int->Option Nat):Prop:=
 ∃D:DataW Unit,w.ownsMap Try.prog 3 aeM b n D/\∀x,I64 x->D.atKey (.int .i64 x) (ruD none)=ruD (g x)/\Maps.has D (.int .i64 x)=(g x).isSome
theorem tt.made (w:World):tt (w.alloc (.map #[] 0)) w.heap.size 0 (fun _=>none):=⟨_,World.ownsMap_made _ _ _ _,fun _ _=>⟨rfl,rfl⟩⟩
theorem tt.blk{b n:Nat}(h:tt w b n g):∃es clock,w.heap[b]? =some (.map es clock):=by
 obtain⟨D,⟨es,clock,c,f⟩,d⟩:=h;exact⟨es,clock,c⟩
theorem tt.same{b n:Nat}(h:tt w b n g)(hb:w'.heap[b]? =w.heap[b]?):tt w' b n g:=by
 obtain⟨D,⟨es,c,i,f⟩,d⟩:=h;exact⟨D,⟨es,c,hb.trans i,f⟩,d⟩
theorem tt.below{b n:Nat}(h:tt w b n g)(hb:Q w w'):tt w' b n g:=by
 obtain⟨es,c,d⟩:=h.blk;exact h.same (hb.block b (lt_of_block d))
theorem tt.lookOk{b n:Nat}(h:tt w b n g)(d:I64 x):
 (Instr.lookup 65 (.map (some b)) (I x) true).run Try.prog w=.ok (.tuple #[ruV (g x),.bool (g x).isSome]) w:=by
 obtain⟨D,h,hf⟩:=h;obtain⟨v,ps,c,hv⟩:=h.look_ok xH Try.underlying65 (zeroRu w) (ej none) (vB d);rw[(hf x d).1] at hv;rw[(hf x d).2,ae4 hv] at c;exact c
def putR (g:Int->Option Nat)(x:Int)(k:Nat):Int->Option Nat:=fun y=>if y=x then some k else g y
theorem bd{n b:Nat}(h:Below n w0 w)(hg:w.grownBy w' (some b))(hb:n<=b)(hs:n<=w.heap.size):Below n w0 w':=
 ⟨hg.os.trans h.os,hg.tape.trans h.tape,hg.output.trans h.output,Jn h.size hg.size,fun k hk=>(hg.block k Zo (by intro e;cases e;omega)).trans (h.block k hk)⟩
theorem afO{b n:Nat}(h:tt w b n g)(l:n<9000000000000000000)(kx:Int)(k:Nat)(d:I64 kx):
 ∃w',(Instr.mapUpdate 65 (.map (some b)) (.int .i64 kx) (.func (.func k) #[] #[])).run Try.prog w=.ok () w'/\tt w' b (n+1) (putR g kx k)/\w.grownBy w' (some b):=by
 obtain⟨D,h,hf⟩:=h;obtain⟨w1,i,j,c⟩:=h.update xH Try.underlying65 (by unfold maxLen;omega) (vB d) (ej (some k));refine⟨w1,i,⟨_,j,fun y hy=>?_⟩,c⟩;have f:WideAt.IsKeyLit (.int .i64 kx):=xH.key (vB d)
 by_cases e:y=kx
 ·subst e;simp only[putR,if_true];exact⟨Maps.atKey_put_same h.isMap f _ _,Maps.has_put_same h.isMap f _⟩
 ·simp only[putR,if_neg e];rw[Maps.atKey_put_other (by simpa using e),Maps.has_put_other (by simpa using e)];exact hf y hy
theorem yl{b n:Nat}(h:tt w b n g)(hb:Below b w0 w/\b<w.heap.size)(f:n<9000000000000000000)(kx:Int)(k:Nat)(c:I64 kx):
 ∃w',(Instr.mapUpdate 65 (.map (some b)) (I kx) (.func (.func k) #[] #[])).run Try.prog w=.ok () w'/\tt w' b (n+1) (putR g kx k)/\(Below b w0 w'/\b<w'.heap.size):=by
 obtain⟨w',j,i,d⟩:=afO h f kx k c;exact⟨w',j,i,⟨bd hb.1 d (Je _) (Qd hb.2),Jy hb.2 d.size⟩⟩
def ruG:Int->Option Nat:=(putR (putR (putR (putR (putR (putR (putR (putR (putR (putR (putR (putR (putR (putR (putR (putR (putR (fun _=>none) 3 28) 4 30) 5 31) 6 32) 7 33) 8 35) 9 36) 10 37) 11 39) 12 40) 13 42) 14 43) 15 44) 16 46) 17 47) 19 48) 23 49)
theorem afD (w:World):A 18 #[] w (fun e w'=>e=.returned (.map (some w.heap.size))/\tt w' w.heap.size 17 ruG/\Q w w'/\w.heap.size<w'.heap.size):=by
 obtain⟨G,hG⟩:∃G,ruG=G:=⟨_,rfl⟩
 rw[hG];go_enter Try.func18,Try.ntmps18;have b1:=tt.made w;have c1:Q w (w.alloc (.map #[] 0))/\w.heap.size<(w.alloc (.map #[] 0)).heap.size:=⟨Below.alloc (Below.refl _ _) (Je _) _,by simp⟩
 obtain⟨w1,e0,b0,c0⟩:=yl b1 c1 Zd 3 28 (by unfold I64;omega);clear b1 c1;obtain⟨w2,d8,a9,b9⟩:=yl b0 c0 Zd 4 30 (by unfold I64;omega);clear b0 c0;obtain⟨w3,d7,a6,b8⟩:=yl a9 b9 Zd 5 31 (by unfold I64;omega);clear a9 b9;obtain⟨w4,d6,a5,b7⟩:=yl a6 b8 Zd 6 32 (by unfold I64;omega);clear a6 b8;obtain⟨w5,d5,a4,b6⟩:=yl a5 b7 Zd 7 33 (by unfold I64;omega);clear a5 b7;obtain⟨w6,d4,a3,b5⟩:=yl a4 b6 Zd 8 35 (by unfold I64;omega);clear a4 b6;obtain⟨w7,d3,a2,b4⟩:=yl a3 b5 Zd 9 36 (by unfold I64;omega);clear a3 b5;obtain⟨w8,d2,a1,b3⟩:=yl a2 b4 Zd 10 37 (by unfold I64;omega);clear a2 b4;obtain⟨w9,d1,a0,b2⟩:=yl a1 b3 Zd 11 39 (by unfold I64;omega);clear a1 b3;obtain⟨w10,d0,k,y⟩:=yl a0 b2 Zd 12 40 (by unfold I64;omega);clear a0 b2;obtain⟨w11,c9,j,x⟩:=yl k y Zd 13 42 (by unfold I64;omega);clear k y;obtain⟨w12,c8,i,u⟩:=yl j x Zd 14 43 (by unfold I64;omega);clear j x;obtain⟨w13,c7,h,t⟩:=yl i u Zd 15 44 (by unfold I64;omega);clear i u;obtain⟨w14,c5,g,q⟩:=yl h t Zd 16 46 (by unfold I64;omega);clear h t;obtain⟨w15,c4,f,o⟩:=yl g q Zd 17 47 (by unfold I64;omega);clear g q;obtain⟨w16,c3,d,m⟩:=yl f o Zd 19 48 (by unfold I64;omega);clear f o;obtain⟨w17,c2,c,l⟩:=yl d m Zd 23 49 (by unfold I64;omega);clear d m;have HM:=Ja c;have HB:=Ja l;clear c l;have e1:=@run_makeMap Try.prog;go_wp2;go_ret;subst hG;exact⟨rfl,HM.out,HB.out.1,HB.out.2⟩
theorem ruG_none {c:Int}(h:ruG c=none)(a b:Rg):sl c a b=none:=by
 simp only[ruG,putR] at h
 by_cases d:c=23
 ·rw[if_pos d] at h;cases h
 rw[if_neg d] at h
 by_cases f:c=19
 ·rw[if_pos f] at h;cases h
 rw[if_neg f] at h
 by_cases g:c=17
 ·rw[if_pos g] at h;cases h
 rw[if_neg g] at h
 by_cases i:c=16
 ·rw[if_pos i] at h;cases h
 rw[if_neg i] at h
 by_cases j:c=15
 ·rw[if_pos j] at h;cases h
 rw[if_neg j] at h
 by_cases k:c=14
 ·rw[if_pos k] at h;cases h
 rw[if_neg k] at h
 by_cases l:c=13
 ·rw[if_pos l] at h;cases h
 rw[if_neg l] at h
 by_cases m:c=12
 ·rw[if_pos m] at h;cases h
 rw[if_neg m] at h
 by_cases o:c=11
 ·rw[if_pos o] at h;cases h
 rw[if_neg o] at h
 by_cases q:c=10
 ·rw[if_pos q] at h;cases h
 rw[if_neg q] at h
 by_cases t:c=9
 ·rw[if_pos t] at h;cases h
 rw[if_neg t] at h
 by_cases u:c=8
 ·rw[if_pos u] at h;cases h
 rw[if_neg u] at h
 by_cases w:c=7
 ·rw[if_pos w] at h;cases h
 rw[if_neg w] at h
 by_cases x:c=6
 ·rw[if_pos x] at h;cases h
 rw[if_neg x] at h
 by_cases y:c=5
 ·rw[if_pos y] at h;cases h
 rw[if_neg y] at h
 by_cases h4:c=4
 ·rw[if_pos h4] at h;cases h
 rw[if_neg h4] at h
 by_cases h3:c=3
 ·rw[if_pos h3] at h;cases h
 rw[if_neg h3] at h;unfold sl;simp only[if_neg h3,if_neg h4,if_neg y,if_neg x,if_neg w,if_neg u,if_neg t,if_neg q,if_neg o,if_neg m,if_neg l,if_neg k,if_neg j,if_neg i,if_neg g,if_neg f,if_neg d]
theorem aeH{c:Int}(h:ruG c=some k){a b:Rg}(d:a.ok)(hb:b.ok)(w:World):∃r,sl c a b=some r/\A k #[.agg #[M (a.lo:Int),M (a.hi:Int)],.agg #[M (b.lo:Int),M (b.hi:Int)]] w (wb w r):=by
 simp only[ruG,putR] at h
 by_cases f:c=23
 ·rw[if_pos f] at h;cases h;subst f;exact⟨_,rfl,ae2 w d hb⟩
 rw[if_neg f] at h
 by_cases g:c=19
 ·rw[if_pos g] at h;cases h;subst g;exact⟨_,rfl,aa9 w d hb⟩
 rw[if_neg g] at h
 by_cases i:c=17
 ·rw[if_pos i] at h;cases h;subst i;exact⟨_,rfl,lts_any w d hb⟩
 rw[if_neg i] at h
 by_cases j:c=16
 ·rw[if_pos j] at h;cases h;subst j;exact⟨_,rfl,ltu_any w d hb⟩
 rw[if_neg j] at h
 by_cases l:c=15
 ·rw[if_pos l] at h;cases h;subst l;exact⟨_,rfl,eq_any w d hb⟩
 rw[if_neg l] at h
 by_cases m:c=14
 ·rw[if_pos m] at h;cases h;subst m;exact⟨_,rfl,sar_any w d hb⟩
 rw[if_neg m] at h
 by_cases o:c=13
 ·rw[if_pos o] at h;cases h;subst o;exact⟨_,rfl,f8 w ⟨by have:=d.1;have:=d.2;omega,by have:=d.2;omega⟩ (by have:=hb.1;have:=hb.2;omega)⟩
 rw[if_neg o] at h
 by_cases q:c=12
 ·rw[if_pos q] at h;cases h;subst q;exact⟨_,rfl,shl_any w d hb⟩
 rw[if_neg q] at h
 by_cases t:c=11
 ·rw[if_pos t] at h;cases h;subst t;exact⟨_,rfl,xor_any w d hb⟩
 rw[if_neg t] at h
 by_cases u:c=10
 ·rw[if_pos u] at h;cases h;subst u;exact⟨_,rfl,or_any w d hb⟩
 rw[if_neg u] at h
 by_cases x:c=9
 ·rw[if_pos x] at h;cases h;subst x;exact⟨_,rfl,and_any w d hb⟩
 rw[if_neg x] at h
 by_cases y:c=8
 ·rw[if_pos y] at h;cases h;subst y;exact⟨_,rfl,ae0 w d hb⟩
 rw[if_neg y] at h
 by_cases h7:c=7
 ·rw[if_pos h7] at h;cases h;subst h7;exact⟨_,rfl,mul_any w d hb⟩
 rw[if_neg h7] at h
 by_cases h6:c=6
 ·rw[if_pos h6] at h;cases h;subst h6;exact⟨_,rfl,sub_any w d hb⟩
 rw[if_neg h6] at h
 by_cases h5:c=5
 ·rw[if_pos h5] at h;cases h;subst h5;exact⟨_,rfl,add_any w d hb⟩
 rw[if_neg h5] at h
 by_cases h4:c=4
 ·rw[if_pos h4] at h;cases h;subst h4;exact⟨_,rfl,not_any w d hb⟩
 rw[if_neg h4] at h
 by_cases h3:c=3
 ·rw[if_pos h3] at h;cases h;subst h3;exact⟨_,rfl,neg_any w d hb⟩
 rw[if_neg h3] at h;cases h
end Go.Proofs.Ytoahcpkibpomcaa
