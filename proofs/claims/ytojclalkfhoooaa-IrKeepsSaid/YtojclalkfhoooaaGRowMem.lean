/- Part of a proof. -/
import Derived.Test.YtojclalkfhoooaaGPr0
set_option linter.all false
set_option maxHeartbeats 6400000
set_option maxRecDepth 100000
namespace Go.Proofs.Ytojclalkfhoooaa
open Go.RowKit
variable {K:MK}{w w' w0:World}{C c i k r vb vn x:Nat}{m m':Mach}{xs:List Nat}{es:Array _}
def endP0:Res Nat->Ending
 |.ok _ _=> .returned (.tuple #[])
 |.trap k i _=> .panicked [oE k i]
def wU (K:MK)(w:World)(r:Res Nat)(e:Ending)(w':World):Prop:=e=endP0 r/\(∃ov',MachAt w' K r.mach ov')/\Frm K.B w w'
theorem wU.ok{c:Value}(h:MachAt w' K m' c)(d:Frm K.B w w'):wU K w (.ok x m') (.returned (.tuple #[])) w':=⟨rfl,⟨c,h⟩,d⟩
theorem wU.trap{c:Value}(h:MachAt w' K m' c)(d:Frm K.B w w'):wU K w (.trap k i m') (.panicked [oE k i]) w':=⟨rfl,⟨c,h⟩,d⟩
theorem u16s_nil (w:World)(B:Nat):wV w B (F) []:=⟨none,0,rfl,Je _,by decide,fun k x hk=>by simp at hk⟩
theorem poll_any{ov:Value}(h:MachAt w K m ov)(a7:OkProg K.E.p)(hr:r<=100)(hC:pq K r):
 G 110 #[I K.pm,O (100-(r:Int))] w (wU K w (tY K.E (xW K.E r) m)):=by
 have c8:=h.c8;have c12:=h.c12;have j:=h.irq;obtain⟨ia,ic,a2,d0,c9⟩:=j.form;rw[a2] at c8 j;have HH:=Ja h;have b4:=h.pol;have b9:=Ja a2;have b7:=Ja a7;have HC:=Ja hC;clear h a2 a7 hC
 by_cases d:m.polls<K.E.irq.length
 ·obtain⟨x,hx⟩:∃x,K.E.irq[m.polls]? =some x:=⟨_,Jd d⟩
  obtain⟨b,o,rfl,a9,u,c5⟩:=j.get hx;have c0:=Ja a9;rw[Nk] at u;have hI:¬(K.E.irq.length:Int)<=m.polls:=Zo;have hJ:(m.polls:Int)<K.E.irq.length:=Zo
  have a6:tY K.E (xW K.E r) m=if x≠0/\K.E.p.handler≠-1 then(match xW K.E r K.E.p.handler [] {m with polls:=m.polls+1 } with|.ok _ m'=> .ok 0 m'|.trap k i m'=> .trap k i m') else .ok 0 {m with polls:=m.polls+1 }:=by
   unfold tY;rw[if_pos d,Jj,hx];rfl
  have a4:=Ja a6;have b0:=HH.out.free 12;have b8:=Ja d;have c2:K.E.irq.length<=9223372036854775807:=Zo;clear j d hx b4 a9 a6;go_enter Try.func110,Try.ntmps110;go_upto_region 0 with fail
  go_cut [14] (fun v wx=>v=.bool false/\∃n,wx=w.drewN n)
  case first=>
   go_quiet (fail);go_wp2;go_meet;exact⟨rfl,_,rfl⟩
  case rest=>
   obtain⟨rfl,n,rfl⟩:=hcut;have h1:=(HH.out.drewN n).setP b8.out HH.out.ne;have hF:Frm K.B w ((w.drewN n).setCell ⟨K.pm,12,none⟩ (O ((m.polls:Int)+1))):=(Frm.refl _ _).drewN.trans ((HH.out.drewN n).frm 12 _);have d8:(w.drewN n).cell? ⟨K.pm,8,none⟩=_:=c8;have d2:(w.drewN n).cell? ⟨K.pm,12,none⟩=_:=c12;have c4:N (w.drewN n) K.pm 12:=b0;have e8:=h1.c8;rw[b9.out] at e8;have d1:=h1.c12;have e3:=h1.c3;have b6:=(hF.below.cell (p:=⟨b,o+m.polls,none⟩) c0.out).trans u;have c7:IntKind.i64.wrap (((m.polls+1:Nat):Int)-1)=(m.polls:Int):=by rw[show(((m.polls+1:Nat):Int)-1)=(m.polls:Int) by omega];exact Om _ Zo
   have H1:=Ja h1;have HF:=Ja hF;clear h1 hF c8 c12 b0;go_upto_region 2 with fail;generalize (w.drewN n).setCell ⟨K.pm,12,none⟩ (O ((m.polls:Int)+1))=W2 at *
   by_cases g:x=0
   ·have t1:((x:Int) !=0)=false:=by rw[bne_eq_false_iff_eq];omega
    have EE:=Ja (show tY K.E (xW K.E r) m=.ok 0 {m with polls:=m.polls+1 } by rw[a4.out,if_neg (fun h=>h.1 g)]);clear g;go_quiet (fail);go_wp2
    go_end0
    rw[EE.out];exact wU.ok (H1.out.drewN _) HF.out.drewN
   ·have t1:((x:Int) !=0)=true:=by rw[bne_iff_ne];omega
    by_cases t:K.E.p.handler=-1
    ·have t2:(K.E.p.handler !=-1)=false:=by rw[bne_eq_false_iff_eq];exact t
     have EE:=Ja (show tY K.E (xW K.E r) m=.ok 0 {m with polls:=m.polls+1 } by rw[a4.out,if_neg (fun h=>h.2 t)]);clear g t;go_quiet (fail);go_wp2
     go_end0
     rw[EE.out];exact wU.ok (H1.out.drewN _) HF.out.drewN
    ·have t2:(K.E.p.handler !=-1)=true:=by rw[bne_iff_ne];exact t
     have a0:=a4.out;rw[if_pos ⟨g,t⟩] at a0
     have y:∀q,pq K r->G 52 #[I K.pm,O K.E.p.handler,F,O (101-(r:Int))] (W2.drewN q) (zQ K (W2.drewN q) (xW K.E r K.E.p.handler [] {m with polls:=m.polls+1 })):=fun q hC=>by
      obtain⟨h1,h2,h3⟩:=b7.out.hnd t;exact hC (W2.drewN q) _ ov _ _ [] (H1.out.drewN q) h1 h2 (u16s_nil _ _) (by rw[h3];rfl)
     have b2:=Ja (fun q=>y q HC.out);have b1:=Ja a0;clear g t y a0
     go_cut [42] (fun v wx=>v=.bool true/\∃q,wx=W2.drewN q)
     case first=>
      go_quiet (fail);go_wp2;go_meet;exact⟨rfl,_,rfl⟩
     case rest=>
      obtain⟨rfl,q,rfl⟩:=hcut;have g3:(W2.drewN q).cell? ⟨K.pm,3,none⟩=_:=e3
      cases c:xW K.E r K.E.p.handler [] {m with polls:=m.polls+1 } with
      |ok x m'=>
       have l:G 52 #[I K.pm,O K.E.p.handler,F,O (101-(r:Int))] (W2.drewN q) fun e w'=>e=.returned (U x)/\(∃ov',MachAt w' K m' ov')/\Frm K.B (W2.drewN q) w'/\x<65536:=by have:=b2.out q;rw[c] at this;exact this
       have a5:=Ja l;have EE:=Ja (show tY K.E (xW K.E r) m=.ok 0 m' by rw[b1.out,c]);clear l c;have b5:(100-(r:Int))+1=101-(r:Int):=Zo;go_wp2_with (go_at_call 52;go_must (refine a5.out.mono ?_;rintro e w' ⟨rfl,⟨ov',a1⟩,a3,b3⟩))
       go_end0
       rw[EE.out]
       exact wU.ok a1 (HF.out.drewN.trans a3)
      |trap k i m'=>
       have l:G 52 #[I K.pm,O K.E.p.handler,F,O (101-(r:Int))] (W2.drewN q) fun e w'=>e=.panicked [oE k i]/\(∃ov',MachAt w' K m' ov')/\Frm K.B (W2.drewN q) w'/\True:=by have:=b2.out q;rw[c] at this;exact this
       have a5:=Ja l;have EE:=Ja (show tY K.E (xW K.E r) m=.trap k i m' by rw[b1.out,c]);clear l c;have b5:(100-(r:Int))+1=101-(r:Int):=Zo;go_wp2_with (go_at_call 52;go_must (refine a5.out.mono ?_;rintro e w' ⟨rfl,⟨ov',a1⟩,a3,b3⟩))
       exact⟨rfl,by rw[EE.out];exact wU.trap a1 (HF.out.drewN.trans a3)⟩
 ·have hI:(K.E.irq.length:Int)<=m.polls:=Zo;have e:tY K.E (xW K.E r) m=.ok 0 m:=by unfold tY;rw[if_neg d]
  have EE:=Ja e;clear e j d;go_enter Try.func110,Try.ntmps110;go_wp2;go_quiet (fail);go_wp2
  first|go_end0|refine bodyPost_ret (results_none rfl _ _ _) rfl ?_
  rw[EE.out];exact wU.ok (HH.out.drewN _) (Frm.refl _ _).drewN
theorem lU{E:IEnv}{c:Int->List Nat->Mach->Res Nat}(h:tY E c m=.ok x m'):x=0:=by
 unfold tY at h
 split at h
 ·split at h
  ·split at h
   ·cases h;rfl
   ·cases h
  ·cases h;rfl
 ·cases h;rfl
theorem step_27{ov:Value}(h:MachAt w K m ov){g oa ob:Int}{on:Nat}(a6:I64 oa)(a5:I64 ob)(b2:on<65536)(ab:Option Addr)(an ac:Nat){v:Int->Nat}(hv:xO w vb vn v)(a7:Hid (OkProg K.E.p))(hr:r<=100)(hC:Hid (pq K r)):
 G 82 #[I K.pm,.agg #[O 27,O g,O oa,O ob,U on,.slice ab an ac],.map (some vb),O (100-(r:Int))] w (zQ K w (tY K.E (xW K.E r) m)):=by
 have a2:=fun(W:World) (hW:Frm K.B w W)=>(hv.kept hW).look a6
 have a1:=fun(W:World) (hW:Frm K.B w W)=>(hv.kept hW).look a5
 have b1:=hv.2 oa;have b0:=hv.2 ob;have b3:=h.size;have a3:=Ja (h.keep ((Below.refl _ _).alloc (Je _) (A #[O 27,O g,O oa,O ob,U on,.slice ab an ac] 77)));have q:=Ja ((Frm.refl K.B w).alloc Zo (A #[O 27,O g,O oa,O ob,U on,.slice ab an ac] 77));have la:=fun n:Nat=>a2 _ (q.out.drewN (n:=n))
 have lb:=fun n:Nat=>a1 _ (q.out.drewN (n:=n))
 have j:=zI (W:=w) (o:=A #[O 27,O g,O oa,O ob,U on,.slice ab an ac] 77) rfl;clear h hv a2 a1;generalize v oa=xa at *;generalize v ob=xb at *;go_enter Try.func82,Try.ntmps82;go_upto_region 1 with fail;generalize a9:w.alloc (A #[O 27,O g,O oa,O ob,U on,.slice ab an ac] 77)=W1 at *;clear a9;have p0:=K0 j;have p2:=K2 j;have p3:=K3 j;have p4:=K4 j
 go_cut [9,10] (fun x y wx=>x=U xa/\y=U xb/\∃n,wx=W1.drewN n)
 case first=>
  go_quiet (fail);go_wp2;go_meet;exact⟨rfl,rfl,_,rfl⟩
 case rest=>
  obtain⟨rfl,rfl,n,rfl⟩:=hcut;have HM:=Ja (a3.out.drewN n);have HF:=Ja (q.out.drewN (n:=n));have q0:(W1.drewN n).cell? ⟨w.heap.size,0,none⟩=_:=p0;have q2:(W1.drewN n).cell? ⟨w.heap.size,2,none⟩=_:=p2;have q4:(W1.drewN n).cell? ⟨w.heap.size,4,none⟩=_:=p4;clear la lb p0 p2 p3 p4 j a3 q;generalize W1.drewN n=W2 at *;have c:=poll_any HM.out a7.out hr hC.out
  cases d:tY K.E (xW K.E r) m with
  |ok x m'=>
   have a4:=lU d;subst a4;have l:G 110 #[I K.pm,O (100-(r:Int))] W2 fun e w'=>e=.returned (.tuple #[])/\(∃ov',MachAt w' K m' ov')/\Frm K.B W2 w':=by rw[d] at c;exact c
   have a0:=Ja l;have EE:=Ja d;clear c l d;go_wp2_with (go_at_call 110;go_must (refine a0.out.mono ?_;rintro e w' ⟨rfl,⟨ov',t⟩,u⟩))
   go_ret;rw[EE.out]
   exact zQ.ok (x:=0) t (HF.out.trans u) Zd
  |trap k i m'=>
   have l:G 110 #[I K.pm,O (100-(r:Int))] W2 fun e w'=>e=.panicked [oE k i]/\(∃ov',MachAt w' K m' ov')/\Frm K.B W2 w':=by rw[d] at c;exact c
   have a0:=Ja l;have EE:=Ja d;clear c l d;go_wp2_with (go_at_call 110;go_must (refine a0.out.mono ?_;rintro e w' ⟨rfl,⟨ov',t⟩,u⟩))
   exact⟨rfl,by rw[EE.out];exact zQ.trap t (HF.out.trans u)⟩
theorem aeM{B:Nat}{v:Value}(h:wV w B v xs):∀x∈xs,x<65536:=by
 intro x c;obtain⟨k,hk⟩:=Ny c;obtain⟨a,d,rfl,_,_,_⟩:=id h;obtain⟨b,o,_,_,h3⟩:=h.get hk;exact h3.2
def aam (o:IOp)(av:Value):Value:=.agg #[O o.code,O o.res,O o.a,O o.b,U (o.n:Int),av]
theorem step_any{ov:Value}(h:MachAt w K m ov)(j:OkProg K.E.p){o:IOp}(ho:OkOp K.E.p o)(hb:I64 o.code/\I64 o.res/\I64 o.a/\I64 o.b/\o.n<65536){av:Value}(k:zY w w.heap.size av o.args)
  {v:Int->Nat} (hv:xO w vb vn v)  (hr:r<=100) (y:pq K r) (q:m.out.length+1+m.fuel.toNat<=4000000):
 G 82 #[I K.pm,aam o av,.map (some vb),O (100-(r:Int))] w (zQ K w (oV K.E (xW K.E r) o v m)):=by
 obtain⟨code,res,oa,ob,on,xs⟩:=o;obtain⟨⟨a1,a0⟩,h2,l⟩:=ho;obtain⟨_,a2,d,c,g⟩:=hb;obtain⟨aa,ac,i,_,_⟩:=k.form;simp only at *;unfold aam;have u:code=1∨code=2∨code=3∨code=4∨(5<=code/\code<=17)∨code=18∨code=19∨code=20∨code=21∨code=22∨code=23∨code=24∨code=25∨code=26∨code=27:=Zo;have t:∀x∈K.E.inn,x<65536:=aeM h.inn;rcases u with rfl|rfl|rfl|rfl|hc|rfl|rfl|rfl|rfl|rfl|rfl|rfl|rfl|rfl|rfl
 ·subst i;exact step_1 h d c g _ _ _ hv _
 ·subst i;exact step_2 h d c g _ _ _ hv _ (h2 rfl)
 ·subst i;exact step_3 h d c g _ _ _ hv _
 ·subst i;exact step_4 h d c g _ _ _ hv _
 ·subst i
  have e:oV K.E (xW K.E r) ⟨code,res,oa,ob,on,xs⟩ v m=iy m code (v oa) (v ob):=by
   unfold oV mU;simp only;rw[if_neg Zo,if_neg Zo,if_neg Zo,if_neg Zo,if_neg Zo,if_neg Zo,if_neg Zo,if_neg Zo,if_neg Zo,if_neg Zo,if_neg Zo,if_neg Zo,if_neg Zo,if_neg Zo]
  rw[e];exact step_ar h d c g _ _ _ hv _ hc
 ·subst i;exact step_18 h d c g _ _ _ hv _
 ·subst i;exact step_19 h d c g _ _ _ hv _
 ·subst i;exact step_20 h d c g _ _ _ hv _
 ·subst i;exact step_21 h d c g _ _ _ hv _
 ·subst i;exact step_22 h d c g _ _ _ hv _ (Ja j.bank)
 ·subst i;exact step_23 h d c g _ _ _ hv _ (Ja j.bank)
 ·subst i;exact step_24 h d c g _ _ _ hv _ (Ja t)
 ·subst i;exact step_25 h d c g _ _ _ hv _ q
 ·exact step_26 h d c g k (by have:=j.argle oa.toNat;have:=(l rfl).2.2;omega) hv hr y (l rfl)
 ·subst i;exact step_27 h d c g _ _ _ hv (Ja j) hr (Ja y)
theorem nQ{b q:Nat}{v:Value}(d:T w b q v)(hm:w.heap[vb]? =some (.map es c)):b≠vb:=by
 rintro rfl;simp[World.cell?,hm] at d
theorem MachAt.grownMap{ov:Value}(h:MachAt w K m ov)(hm:w.heap[vb]? =some (.map es c))(hB:K.B<=vb)(hg:w.grownBy w' (some vb)):MachAt w' K m ov:=by
 have n1:vb≠K.pm:=by rintro rfl;rw[h.blk] at hm;cases hm
 have n2:vb≠K.rb:=by rintro rfl;rw[h.ram] at hm;cases hm
 have hb:Below K.B w w':=(Below.refl _ _).grown hg (Qd h.size) (fun k hk=>by simp at hk;omega);refine⟨zL hg h.blk (by simpa using n1),zL hg h.ram (by simpa using n2),h.rlen,h.rlt,h.out.kept hg ?_,h.olt,h.obd,h.fuel,h.inp,h.pol,h.gpm,h.grb,h.prog.below hb,h.inn.below zr hb,h.irq.below xQ hb⟩;rcases h.out.2 with⟨hv,_⟩|⟨g,i,cur,hv,_,d,_⟩
 ·left;rw[hv];rfl
 ·right;rw[hv];intro e;simp only[Value.ownBlock,Option.some.injEq] at e;subst e;rw[d] at hm;cases hm
theorem Frm.grownMap{B:Nat}(h:Frm B w0 w)(c:w0.heap.size<=vb)(hB:B<=w0.heap.size)(hg:w.grownBy w' (some vb)):Frm B w0 w':=
 ⟨h.below.grown hg (Jn hB h.below.size) (fun k hk=>by simp at hk;omega),fun k o hk hs=>zL hg (h.kept k o hk hs) (by have:=lt_of_block hk;simp;omega)⟩
theorem U16s.grownMap{B:Nat}{v:Value}(h:wV w B v xs)(hm:w.heap[vb]? =some (.map es c))(hg:w.grownBy w' (some vb)):wV w' B v xs:=by
 obtain⟨a,g,rfl,h1,h2,h3⟩:=h;refine⟨a,g,rfl,h1,h2,fun k x hk=>?_⟩;obtain⟨b,o,l,j,d,i⟩:=h3 k x hk;exact⟨b,o,l,j,hg.cell d (by simpa using nQ d hm),i⟩
structure CSt (K:MK) (w0 w:World) (m:Mach) (vb vn:Nat) (v:Int->Nat):Prop where
 mach:∃ov,MachAt w K m ov
 frm:Frm K.B w0 w
 map:xO w vb vn v
 new:w0.heap.size<=vb
 gb:K.B<w0.heap.size
theorem CSt.alloc{v:Int->Nat}(h:CSt K w0 w m vb vn v)(o:Obj):CSt K w0 (w.alloc o) m vb vn v:=by
 obtain⟨ov,hm⟩:=h.mach;exact⟨⟨ov,hm.keep ((Below.refl _ _).alloc (Je _) o)⟩,h.frm.trans ((Frm.refl _ _).alloc (by have:=hm.size;omega) o),h.map.kept ((Frm.refl K.B w).alloc (by have:=hm.size;omega) o),h.new,h.gb⟩
theorem CSt.store{n':Nat}{v v':Int->Nat}(h:CSt K w0 w m vb vn v)(hm:xO w' vb n' v')(hg:w.grownBy w' (some vb)):CSt K w0 w' m vb n' v':=by
 obtain⟨ov,d⟩:=h.mach;obtain⟨es,c,hb⟩:=h.map.blk;exact⟨⟨ov,d.grownMap hb (by have:=h.new;have:=h.gb;omega) hg⟩,h.frm.grownMap h.new (Qd h.gb) hg,hm,h.new,h.gb⟩
theorem CSt.step {K:MK}{w0 w w':World}{m m':Mach}{vb vn:Nat}{v:Int->Nat}{c:Value}(h:CSt K w0 w m vb vn v)(g:MachAt w' K m' c)(d:Frm K.B w w'):CSt K w0 w' m' vb vn v:=
 ⟨⟨c,g⟩,h.frm.trans d,h.map.kept d,h.new,h.gb⟩
theorem CSt.keep{v:Int->Nat}(h:CSt K w0 w m vb vn v)(hb:L w w'):CSt K w0 w' m vb vn v:=by
 obtain⟨ov,hm⟩:=h.mach;exact h.step (hm.keep hb) ⟨hb.mono (Qd hm.size),fun i o hi _=>zH hb hi (lt_of_block hi)⟩
theorem iA (K:MK):pq K 0:=by
 intro w m ov av f args h d c g hl;obtain⟨aa,ac,rfl,_,_⟩:=g.form;have j:(100:Int)<101:=Zo;have i:=Ja h;clear h g hl d c;go_enter Try.func52,Try.ntmps52;go_wp2_with (go_at_call 80;go_must (refine(wj 5 0 _).mono ?_;rintro e w' ⟨rfl,rfl⟩))
 exact⟨rfl,zQ.trap i.out (Frm.refl _ _)⟩
def jw (K:MK)(w0 wx:World)(r n:Nat)(blocks:List IBlk)(vb:Nat)(at':Nat)(av:Value)(R:Res Nat):Prop:=
 ∃(args:List Nat) (v:Int->Nat) (m:Mach) (vn:Nat),CSt K w0 wx m vb vn v/\wV wx wx.heap.size av args/\args.length=(xz blocks at').params.length/\at'<blocks.length/\m.fuel.toNat<n/\vn+m.fuel.toNat*70000<=300000000000/\tJ K.E (xW K.E r) blocks n at' args v m=R
theorem rh {blocks:List IBlk}{a:Nat}(h:a<blocks.length):blocks[a]? =some (xz blocks a):=by
 unfold xz;rw[Ni,Jj,Jd h];rfl
theorem ru (E:IEnv)(c:Int->List Nat->Mach->Res Nat)(blocks:List IBlk)(n:Nat)(a:Int)(args:List Nat)(v:Int->Nat)(m:Mach):tJ E c blocks (n+1) a args v m=
 match iq E c (xz blocks a).ops (r7 (xz blocks a).params args v) m with
 |.trap k i m'=> .trap k i m'
 |.ok v2 m2=>
  if m2.fuel<=0 then .trap 7 0 m2
  else if(xz blocks a).term.kind=4 then .ok (if(xz blocks a).term.a=-1 then 0 else v2 (xz blocks a).term.a) m2.pay
  else if(xz blocks a).term.kind=5 then .trap 1 0 m2.pay
  else tJ E c blocks n (wK (xz blocks a).term (v2 (xz blocks a).term.a)).block ((wK (xz blocks a).term (v2 (xz blocks a).term.a)).args.map v2) v2 m2.pay:=rfl
theorem j7 (E:IEnv)(c:Int->List Nat->Mach->Res Nat)(o:IOp)(os:List IOp)(v:Int->Nat)(m:Mach):iq E c (o::os) v m=
 if m.fuel<=0 then .trap 7 0 m
 else match oV E c o v m.pay with
  |.ok r m'=>iq E c os (setV v o.res r) m'
  |.trap k i m'=> .trap k i m':=rfl
theorem bd_next{p1 p2:Nat}(h1:vn+p2*70000<=300000065536)(c:p1+1=p2):vn+p1*70000<=300000000000:=by
 subst c;rw[Nat.add_mul,<-Nat.add_assoc] at h1;exact Jn (Nat.le_of_add_le_add_right (b:=70000) (show vn+p1*70000+70000<=299999995536+70000 from h1)) Zd
def OpsSt (K:MK)(w0 wx:World)(r:Nat)(vb b12:Nat)(cs:Array Value)(m1:Mach)(os:List IOp)(R:Res (Int->Nat)):Prop:=
 ∃(v:Int->Nat) (m:Mach) (vn:Nat),CSt K w0 wx m vb vn v/\Y wx b12 cs 49/\vn+m.fuel.toNat*70000<=300000065536/\m.fuel<=m1.fuel/\iq K.E (xW K.E r) os v m=R
theorem jC (K:MK)(q8:OkProg K.E.p)(r:Nat)(hr:r+1<=100)(hC:pq K r):pq K (r+1):=by
 intro w m ov av f args h v6 d6 ha hl;obtain⟨aa,ac,rfl,_,_⟩:=ha.form;obtain⟨k,rfl⟩:∃k:Nat,f=(k:Int):=⟨f.toNat,by omega⟩
 have i3:=h.prog.funcs;obtain⟨fa,fc,r4,_,_⟩:=i3.form;have c0:=h.c0;rw[r4] at i3 c0;have r0:k<K.E.p.funcs.length:=Zo;obtain⟨blocks,j0⟩:∃bl,K.E.p.funcs[k]? =some bl:=⟨_,Jd r0⟩
 obtain⟨fb,fo,rfl,_,bv,w0,n0⟩:=i3.get j0;rw[Nk] at w0;obtain⟨ba,bc,rfl,_,y1⟩:=n0.form;have r3:K.E.p.funcs.getD (k:Int).toNat []=blocks:=by rw[Ni,Jj,j0];rfl
 have z6:(k:Int)<K.E.p.funcs.length:=Zo;have l8:(101-((r+1:Nat):Int))=100-(r:Int):=Zo;have z8:¬(100:Int)<100-(r:Int):=Zo
 have k1:xW K.E (r+1) k args m=if blocks.isEmpty then .trap 8 ((k:Int)%65536).toNat m else tJ K.E (xW K.E r) blocks (m.fuel.toNat+1) 0 args (fun _=>0) m:=by
  show(if(K.E.p.funcs.getD (k:Int).toNat []).isEmpty then _ else _)=_
  rw[r3]
 have HM:=Ja h;have x7:=Ja n0;have HC:=Ja hC;have o3:=Ja q8;have s8:=Ja j0;have HA:=Ja (Jb ha hl);have hB:=h.size;rw[l8];have n7:=Ja k1;clear h i3 r4 r0 v6 d6 r3 n0 hC q8 j0 ha hl l8 k1
 by_cases f8:blocks.length=0
 ·have t1:((blocks.length:Int)==0)=true:=by rw[beq_iff_eq];omega
  have EE:=Ja (show xW K.E (r+1) k args m=.trap 8 ((k:Int)%65536).toNat m by rw[n7.out,if_pos (by rw[List.isEmpty_iff];exact Nz f8)]);obtain⟨q,hq⟩:∃q:Nat,((k:Int)%65536).toNat=q:=⟨_,rfl⟩
  have z2:IntKind.u16.wrap (k:Int)=(q:Int):=by rw[xY];omega
  rw[hq] at EE;clear f8 hq;go_enter Try.func52,Try.ntmps52;go_wp2_with (go_at_call 80;go_must (refine(wj 8 q _).mono ?_;rintro e w' ⟨rfl,rfl⟩))
  exact⟨rfl,by rw[EE.out];exact zQ.trap HM.out (Frm.refl _ _)⟩
 ·have t1:((blocks.length:Int)==0)=false:=Ze;have EE:=Ja (show xW K.E (r+1) k args m=tJ K.E (xW K.E r) blocks (m.fuel.toNat+1) 0 args (fun _=>0) m by rw[n7.out,if_neg (by rw[List.isEmpty_iff];intro e;exact f8 (by rw[e];rfl))]);obtain⟨RES,h7⟩:∃R,xW K.E (r+1) k args m=R:=⟨_,rfl⟩
  have k9:Hid (jw K w (w.alloc (.map #[] 0)) r (m.fuel.toNat+1) blocks w.heap.size 0 (.slice aa args.length ac) RES):=by
   refine⟨args,fun _=>0,m,0,⟨⟨ov,HM.out.keep ((Below.refl _ _).alloc (Je _) _)⟩,(Frm.refl _ _).alloc (Qd hB) _,xO.made w,Je _,hB⟩,?_,?_,by omega,by omega,?_,?_⟩
   ·exact(HA.out.1.below zr ((Below.refl _ _).alloc (Je _) _)).mono zr Zs
   ·obtain⟨b,bs,rfl⟩:∃b bs,blocks=b::bs:=by
     cases blocks with
     |nil=>exact absurd rfl f8
     |cons b bs=>exact⟨b,bs,rfl⟩
    have h1:=o3.out.par k b bs s8.out;have h2:=HA.out.2;rw[Ni] at h2
    show args.length=b.params.length
    omega
   ·have:=HM.out.obd;omega
   ·rw[<-h7,EE.out];rfl
  rw[h7];have s7:=Ja (show ∀b∈blocks,OkBlk K.E.p blocks b from o3.out.blk blocks (Ji s8.out));have q9:0<blocks.length:=Zo;have A0:=Ja q9;clear f8 h7 EE n7 q9 HA;generalize u5:m.fuel.toNat+1=gas at k9;clear u5;have z5:=@run_makeMap Try.prog;go_enter Try.func52,Try.ntmps52;go_wp2
  go_loopg [2,11] gas (fun n sv atv wx=>∃(at':Nat) (sa:Option Addr) (sn sc:Nat),sv=.slice sa sn sc/\atv=O at'/\Hid (jw K w wx r n blocks w.heap.size at' (.slice sa sn sc) RES))
  case atStart=>exact⟨0,aa,args.length,ac,rfl,rfl,k9⟩
  case round=>
   obtain⟨at',sa,sn,sc,rfl,rfl,HS⟩:=hrel
   cases gk with
   |zero=>obtain⟨_,_,m1,_,_,_,_,_,v4,_⟩:=HS.out;exact absurd v4 (Nat.not_lt_zero _)
   |succ n=>
    obtain⟨args1,v1,m1,vn1,d7,f0,s2,n3,r5,s0,c⟩:=HS.out;obtain⟨sa',sc',e1,_,_⟩:=f0.form;cases e1;have u6:=x7.out.get (rh n3);have l3:=s7.out _ (Ji (rh n3));generalize n1:xz blocks at'=bk at *;have h9:=Ja n1;obtain⟨bb,bo,rfl,e0,k2,k3,r1,pv,ov1,tv,kp,ko,kt,l1,l2,k5⟩:=u6;have k2:=zV d7.frm.below e0 k2;have k3:=zV d7.frm.below e0 k3;have kp:=zV d7.frm.below e0 kp;have ko:=zV d7.frm.below e0 ko;have kt:=zV d7.frm.below e0 kt;obtain⟨pa,pc,rfl,_,_⟩:=l1.form;obtain⟨oa,oc,rfl,_,_⟩:=l2.form;obtain⟨ta,tc,rfl,_,_⟩:=k5.form;have y2:(at':Int)<blocks.length:=Zo;have x5:=Ja d7;have b8:=Ja (Jb f0 s2);have e5:=Ja (Jb c (Jb r5 s0));have c3:=Ja l3;have g8:=Ja (Jb l1 (Jb l2 (Jb k5 r1)));clear k9 HS d7 f0 s2 r5 s0 c l3 n1 l1 l2 k5 r1 n3;go_upto_region 9 with fail;have m5:=x5.out.alloc (A #[.slice pa bk.params.length pc,.slice oa bk.ops.length oc,O bk.term.kind,O bk.term.a,.slice ta bk.term.to.length tc] 49);have d:=zI (W:=wr) (o:=A #[.slice pa bk.params.length pc,.slice oa bk.ops.length oc,O bk.term.kind,O bk.term.a,.slice ta bk.term.to.length tc] 49) rfl;have f9:=(b8.out.1.below zr ((Below.refl _ _).alloc (Je _) (A #[.slice pa bk.params.length pc,.slice oa bk.ops.length oc,O bk.term.kind,O bk.term.a,.slice ta bk.term.to.length tc] 49))).mono zr (B':=(wr.alloc (A #[.slice pa bk.params.length pc,.slice oa bk.ops.length oc,O bk.term.kind,O bk.term.a,.slice ta bk.term.to.length tc] 49)).heap.size) Zs;generalize w9:wr.alloc (A #[.slice pa bk.params.length pc,.slice oa bk.ops.length oc,O bk.term.kind,O bk.term.a,.slice ta bk.term.to.length tc] 49)=W1 at *;generalize wr.heap.size=b12 at *;have z0:=K0 d;have s3:=Ja (show CSt K w W1 m1 w.heap.size vn1 v1/\wV W1 W1.heap.size (.slice sa args1.length sc) args1/\Y W1 b12 #[.slice pa bk.params.length pc,.slice oa bk.ops.length oc,O bk.term.kind,O bk.term.a,.slice ta bk.term.to.length tc] 49 from⟨m5,f9,d⟩);have z4:=c3.out.2.2;clear w9 m5 f9 d k2 k3 kp ko kt;go_wp2
    go_loopw [47] (fun jv wx=>∃j:Nat,j<=bk.params.length/\jv=O j/\Hid (CSt K w wx m1 w.heap.size (vn1+j) (r7 (bk.params.take j) (args1.take j) v1)/\wV wx wx.heap.size (.slice sa args1.length sc) args1/\Y wx b12 #[.slice pa bk.params.length pc,.slice oa bk.ops.length oc,O bk.term.kind,O bk.term.a,.slice ta bk.term.to.length tc] 49)) (fun jv _=>bk.params.length-(intOf jv).toNat)
    case atStart=>exact⟨0,Jt _,rfl,s3.out⟩
    case round=>
     obtain⟨j,hj,rfl,HJ⟩:=hrel
     by_cases a0:j<bk.params.length
     ·skip
      have e6:(j:Int)<bk.params.length:=Zo;have b3:=Ja a0;obtain⟨x,hx⟩:∃x,bk.params[j]? =some x:=⟨_,Jd a0⟩
      obtain⟨y,hy⟩:∃y,args1[j]? =some y:=⟨_,Jd (by rw[b8.out.2];exact a0)⟩
      obtain⟨b1,o1,rfl,a7,m6,u3⟩:=g8.out.1.get hx;rw[Nk] at m6;have cp:=zV HJ.out.1.frm.below a7 m6;obtain⟨b2,o2,rfl,w2,v9,u2⟩:=HJ.out.2.1.get hy;rw[Nk] at v9;have z1:(j:Int)<args1.length:=by have:=b8.out.2;omega
      have l0:=qq (bk.params.take j) (args1.take j) v1 x y (by have:=b8.out.2;rw[Oc,Oc];omega);have e1:bk.params.take (j+1)=bk.params.take j++ [x]:=by rw[Nh,hx];rfl
      have e2:args1.take (j+1)=args1.take j++ [y]:=by rw[Nh,hy];rfl
      rw[<-e1,<-e2] at l0;have x2:=Ja l0;have j5:vn1+j<9000000000000000000:=by have:=e5.out.2.2;omega
      obtain⟨es,ec,c5⟩:=HJ.out.1.map.blk;have s5:=Ja c5;clear hx hy m6 l0 e1 e2 a7 w2 a0 c5;go_wp2_with (at_mapUpdate;go_must (refine us rfl (.tmp 52) (.tmp 53) (.tmp 57) rfl HJ.out.1.map j5 x y rfl rfl rfl u3 u2 ?_;intro w5 f5 f7;have b7:=Ja (Jb f5 f7);clear f5 f7))
      go_roundw
      case rel=>
       refine⟨j+1,b3.out,by go_num,?_,?_,?_⟩
       ·rw[x2.out];exact HJ.out.1.store b7.out.1 b7.out.2
       ·exact(U16s.grownMap HJ.out.2.1 s5.out b7.out.2).mono zr b7.out.2.size
       ·refine zL b7.out.2 HJ.out.2.2 ?_;intro e;have c5:=s5.out;rw[Nt e,HJ.out.2.2] at c5;cases c5
      case measure=>have:=b3.out;simp[intOf];omega
     ·skip
      obtain rfl:j=bk.params.length:=by omega
      have e6:¬(bk.params.length:Int)<bk.params.length:=Zo;have i1:r7 (bk.params.take bk.params.length) (args1.take bk.params.length) v1=r7 bk.params args1 v1:=by rw[Nl,<-b8.out.2,Nl]
      have HQ:=HJ.out;rw[i1] at HQ;have x1:=Ja HQ;have y6:=K1 HQ.2.2;obtain⟨OR,n4⟩:∃R,iq K.E (xW K.E r) bk.ops (r7 bk.params args1 v1) m1=R:=⟨_,rfl⟩
      have o0:=Ja n4;generalize m3:(#[.slice pa bk.params.length pc,.slice oa bk.ops.length oc,O bk.term.kind,O bk.term.a,.slice ta bk.term.to.length tc]:Array Value)=cs at *;have x6:=Ja m3;have k7:Hid (OpsSt K w wr r w.heap.size b12 cs m1 (bk.ops.drop 0) OR):=⟨_,m1,_,HQ.1,HQ.2.2,by have:=e5.out.2.2;have:=c3.out.2.2;omega,Og _,n4⟩
      clear HQ i1 HJ n4 x1 m3 s3;go_wp2
      go_loopw [62] (fun jv wx=>∃j:Nat,j<=bk.ops.length/\jv=O j/\Hid (OpsSt K w wx r w.heap.size b12 cs m1 (bk.ops.drop j) OR)) (fun jv _=>bk.ops.length-(intOf jv).toNat)
      case atStart=>exact⟨0,Jt _,rfl,k7⟩
      case round=>
       obtain⟨j,hj,rfl,HJ⟩:=hrel
       by_cases a0:j<bk.ops.length
       ·skip
        have e6:(j:Int)<bk.ops.length:=Zo;have b3:=Ja a0;obtain⟨o,ho⟩:∃o,bk.ops[j]? =some o:=⟨_,Jd a0⟩
        have i8:bk.ops.drop j=o::bk.ops.drop (j+1):=by rw[Qn a0];rw[Jd a0] at ho;rw[Nt ho]
        obtain⟨v2,m2,vn2,i,d,d8,d6,b0⟩:=HJ.out;rw[i8,j7] at b0;obtain⟨b1,o1,rfl,a7,g0,g1,g2,g3,g4,l4,av3,g5,j4⟩:=g8.out.2.1.get ho;obtain⟨xa,xc,rfl,_,_⟩:=j4.form;have d0:=zV i.frm.below a7 g0;have d1:=zV i.frm.below a7 g1;have d2:=zV i.frm.below a7 g2;have d3:=zV i.frm.below a7 g3;have d4:=zV i.frm.below a7 g4;have d5:=zV i.frm.below a7 g5;have f1:=Ja i;have u9:=Ja d;have f2:=Ja (Jb d8 (Jb d6 b0));have n6:=Ja (Jb j4 l4);have x3:=Ja (c3.out.1 o (Ji ho));clear i d d8 d6 b0 j4 l4 i8 g0 g1 g2 g3 g4 g5 a7 a0 ho;go_upto_region 17 with fail;have a2:=f1.out.alloc (A (D o xa xc) 77);have g:=zI (W:=wr) (o:=A (D o xa xc) 77) rfl;have j2:=zB (o:=A (D o xa xc) 77) u9.out;generalize w8:wr.alloc (A (D o xa xc) 77)=W2 at *;generalize wr.heap.size=b16 at *;obtain⟨ov2,g6⟩:=a2.mach;have c9:=Ja g6;have a4:=Ja a2;have p1:=Ja (Jb g j2);clear w8 a2 g j2 g6 d0 d1 d2 d3 d4 d5
        by_cases a1:m2.fuel<=0
        ·skip
         have l:=f2.out.2.2;rw[if_pos a1] at l;have c:=e5.out.1;rw[ru,h9.out,o0.out,<-l] at c;have u:=Ja c;have a3:=Ja a1;clear l c a1;go_wp2_with (go_at_call 81;go_must (refine(pay_no c9.out a3.out).mono ?_;rintro e w3 ⟨rfl,rfl⟩))
         exact⟨rfl,by rw[<-u.out];exact zQ.trap c9.out a4.out.frm⟩
        ·skip
         have l:=f2.out.2.2;rw[if_neg a1] at l;have n9:=Ja l;have a3:=Ja (show 0<m2.fuel by omega);clear l a1;go_upto_region 18 with(go_at_call 81;go_must (refine(iN c9.out a3.out).mono ?_;rintro e w3 ⟨rfl,c7,c8⟩))
         have e8:=a4.out.step c7 c8;have g:=c8.kept _ _ p1.out.1 (by simp[sA]);have d:=c8.kept _ _ p1.out.2 (by simp[sA]);have q0:=K0 g;have q1:=K1 g;have q2:=K2 g;have q3:=K3 g;have q4:=K4 g;have q5:=K5 g;have a5:=step_any c7 o3.out x3.out n6.out.2 ((n6.out.1.below zO e8.frm.below).mono zO (Qd c7.size)) e8.map (show r<=100 by omega) HC.out (by have:=c9.out.obd;have:=a3.out;simp only[Mach.pay];omega);have o8:=Ja e8;have t3:=Ja (Jb g d);clear e8 g d c7 c8
         cases a9:oV K.E (xW K.E r) o v2 m2.pay with
         |ok x m4=>
          have f4:G 82 #[I K.pm,.agg (D o xa xc),.map (some w.heap.size),O (100-(r:Int))] w3 fun e w'=>e=.returned (U x)/\(∃ov',MachAt w' K m4 ov')/\Frm K.B w3 w'/\x<65536:=by rw[a9] at a5;exact a5
          have n8:=Ja f4;have l:=n9.out;rw[a9] at l;have l7:=pI (pO K.E r) a9;have HX:=Ja (Jb l l7);clear f4 l l7 a9 a5;go_upto_region 19 with(go_at_call 82;go_must (refine n8.out.mono ?_;rintro e w4 ⟨rfl,⟨ov4,n5⟩,g7,q6⟩))
          have c2:=o8.out.step n5 g7;have g:=g7.kept _ _ t3.out.1 (by simp[sA]);have d:=g7.kept _ _ t3.out.2 (by simp[sA]);have s1:=K1 g;have f3:=Ja d
          have n2:vn2+1+m4.fuel.toNat*70000<=300000065536:=by
           have h1:=f2.out.1;have h2:=HX.out.2;have h3:=a3.out;simp only[Mach.pay] at h2;have h4:m4.fuel.toNat+1<=m2.fuel.toNat:=Zo;omega
          have r6:m4.fuel<=m1.fuel:=by have h1:=f2.out.2.1;have h2:=HX.out.2;simp only[Mach.pay] at h2;omega
          have c4:=Ja c2;have j3:=Ja (Jb n2 r6);have j5:vn2<9000000000000000000:=Zo;have v3:=c2.map;have v0:=n6.out.2.2.1;clear c2 g d n2 r6 q0 q1 q2 q3 q4 q5
          by_cases q7:0<=o.res
          ·have b4:=HX.out.1;unfold setV at b4;rw[if_pos q7] at b4;have o4:=Ja b4;clear b4;go_wp2_with (at_mapUpdate;go_must (refine us rfl (.tmp 76) (.tmp 78) (.tmp 79) rfl v3 j5 o.res x rfl rfl rfl v0 q6 ?_;intro w5 f5 f7;have b7:=Ja (Jb f5 f7);clear f5 f7))
           go_roundw
           case rel=>
            refine⟨j+1,b3.out,by go_num,_,m4,vn2+1,c4.out.store b7.out.1 b7.out.2,?_,j3.out.1,j3.out.2,o4.out⟩;refine zL b7.out.2 f3.out ?_;intro e;obtain⟨es,ec,c5⟩:=c4.out.map.blk;rw[Nt e,f3.out] at c5;cases c5
           case measure=>have:=b3.out;simp[intOf];omega
          ·have b4:=HX.out.1;unfold setV at b4;rw[if_neg q7] at b4;have o4:=Ja b4;clear b4;go_wp2;go_roundw
           case rel=>exact⟨j+1,b3.out,by go_num,_,m4,vn2,c4.out,f3.out,by have:=j3.out.1;omega,j3.out.2,o4.out⟩
           case measure=>have:=b3.out;simp[intOf];omega
         |trap k2 i2 m4=>
          have f4:G 82 #[I K.pm,.agg (D o xa xc),.map (some w.heap.size),O (100-(r:Int))] w3 fun e w'=>e=.panicked [oE k2 i2]/\(∃ov',MachAt w' K m4 ov')/\Frm K.B w3 w'/\True:=by rw[a9] at a5;exact a5
          have n8:=Ja f4;have l:=n9.out;rw[a9] at l;have c:=e5.out.1;rw[ru,h9.out,o0.out,<-l] at c;have u:=Ja c;clear f4 l c a9 a5;go_wp2_with (go_at_call 82;go_must (refine n8.out.mono ?_;rintro e w4 ⟨rfl,⟨ov4,n5⟩,g7,q6⟩))
          exact⟨rfl,by rw[<-u.out];exact zQ.trap n5 (o8.out.frm.trans g7)⟩
       ·skip
        obtain rfl:j=bk.ops.length:=by omega
        have e6:¬(bk.ops.length:Int)<bk.ops.length:=Zo;obtain⟨v2,m2,vn2,i,d,d8,d6,b0⟩:=HJ.out;rw[List.drop_length] at b0;have c:=e5.out.1;rw[ru,h9.out,o0.out,<-b0] at c;have m7:(if m2.fuel<=0 then .trap 7 0 m2 else if bk.term.kind=4 then .ok (if bk.term.a=-1 then 0 else v2 bk.term.a) m2.pay else if bk.term.kind=5 then .trap 1 0 m2.pay else tJ K.E (xW K.E r) blocks n (wK bk.term (v2 bk.term.a)).block ((wK bk.term (v2 bk.term.a)).args.map v2) v2 m2.pay)=RES:=c;obtain⟨ov2,g6⟩:=i.mach;have c9:=Ja g6;have f1:=Ja i;have p0:=Ja (Jb d (Jb d8 d6));have o9:=Ja m7;clear b0 c m7 i d d8 d6 HJ g6 k7
        by_cases a1:m2.fuel<=0
        ·skip
         have c:=o9.out;rw[if_pos a1] at c;have u:=Ja c;have a3:=Ja a1;clear c a1;go_wp2_with (go_at_call 81;go_must (refine(pay_no c9.out a3.out).mono ?_;rintro e w3 ⟨rfl,rfl⟩))
         exact⟨rfl,by rw[<-u.out];exact zQ.trap c9.out f1.out.frm⟩
        ·have c:=o9.out;rw[if_neg a1] at c;have h8:=Ja c;have a3:=Ja (show 0<m2.fuel by omega);clear c a1;go_upto_region 23 with(go_at_call 81;go_must (refine(iN c9.out a3.out).mono ?_;rintro e w3 ⟨rfl,c7,c8⟩))
         have a2:=f1.out.step c7 c8;have d:=c8.kept _ _ p0.out.1 (by simp[sA]);rw[<-x6.out] at d;have q2:=K2 d;have q3:=K3 d;have q4:=K4 d;have lk:=a2.map.look (x:=bk.term.a) g8.out.2.2.2.2;have k0:=a2.map.2 bk.term.a;have a4:=Ja a2;have e4:=Ja c7;clear a2 d c7 c8
         by_cases h4:bk.term.kind=4
         ·skip
          have c:=h8.out;rw[if_pos h4] at c;rw[h4] at q2
          by_cases e3:bk.term.a=-1
          ·rw[if_pos e3] at c;have t2:(bk.term.a==-1)=true:=by rw[beq_iff_eq];exact e3
           have u:=Ja c;clear c h4 e3;go_wp2;go_ret;rw[<-u.out];exact zQ.ok (x:=0) e4.out a4.out.frm Zd
          ·rw[if_neg e3] at c;have t2:(bk.term.a==-1)=false:=by rw[beq_eq_false_iff_ne];exact e3
           have u:=Ja c;clear c h4 e3;go_wp2;go_ret;rw[<-u.out];exact zQ.ok e4.out a4.out.frm k0
         ·by_cases h5:bk.term.kind=5
          ·skip
           have c:=h8.out;rw[if_neg h4,if_pos h5] at c;rw[h5] at q2;have u:=Ja c;clear c h4 h5;go_wp2_with (go_at_call 80;go_must (refine(wj 1 0 _).mono ?_;rintro e w' ⟨rfl,rfl⟩))
           exact⟨rfl,by rw[<-u.out];exact zQ.trap e4.out a4.out.frm⟩
          ·skip
           have c:=h8.out;rw[if_neg h4,if_neg h5] at c;have t4:(bk.term.kind==4)=false:=by rw[beq_eq_false_iff_ne];exact h4
           have t5:(bk.term.kind==5)=false:=by rw[beq_eq_false_iff_ne];exact h5
           have h0:=lL c3.out.2.1 h4 h5 (v2 bk.term.a);have a6:=c3.out.2.1.2.2.2.2 _ h0;have e9:=edge_any (w:=w3) (B:=K.B) (t:=bk.term) (blocks:=blocks) (tv:=.slice ta bk.term.to.length tc) (g8.out.2.2.1.below xL a4.out.frm.below) g8.out.2.2.2.1 (Qd e4.out.size) c3.out.2.1 h4 h5 (v2 bk.term.a) k0;obtain⟨x,p5⟩:∃x,wK bk.term (v2 bk.term.a)=x:=⟨_,rfl⟩
           rw[p5] at c h0 a6 e9;have s6:=Ja e9;have u:=Ja (Jb c a6)
           have y0:x.args.length<=65536:=by
            rw[a6.2.2];have h1:=a6.1;have hq:x.block=((x.block.toNat:Nat):Int):=Zo;rw[hq];exact(s7.out _ (Ji (rh a6.2.1))).2.2
           clear c h4 h5 h0 a6 e9 p5;generalize v2 bk.term.a=va at *;go_upto_region 31 with(go_at_call 83;go_must (refine s6.out.mono ?_;rintro e w4 ⟨av4,rfl,l5,h64,j1⟩;obtain⟨ea,ec,rfl,_,_⟩:=l5.form))
           have c2:=(a4.out.keep j1).alloc (A #[O x.block,.slice ea x.args.length ec] 75);have h6:=zI (W:=w4) (o:=A #[O x.block,.slice ea x.args.length ec] 75) rfl;have r2:zY (w4.alloc (A #[O x.block,.slice ea x.args.length ec] 75)) K.B (.slice ea x.args.length ec) x.args:=l5.below zO ((j1.mono (Qd e4.out.size)).alloc (by have:=e4.out.size;have:=j1.size;omega) _);have u4:w4.heap.size<(w4.alloc (A #[O x.block,.slice ea x.args.length ec] 75)).heap.size:=by simp
           generalize w7:w4.alloc (A #[O x.block,.slice ea x.args.length ec] 75)=W5 at *;generalize w4.heap.size=b18 at *;have t6:=K0 h6;have x8:=K1 h6;have c4:=Ja c2;have x4:=Ja r2;clear w7 c2 r2 h6 j1 l5 q2 q3 q4 lk t4 t5 s6;go_wp2
           go_loopw [2,111] (fun rv kv wx=>∃k:Nat,k<=x.args.length/\kv=O k/\Hid (wx.ownsRow W5.heap.size 39 1 rv k ((uT v2 x.args k).map vL)/\L W5 wx)) (fun _ kv _=>x.args.length-(intOf kv).toNat)
           case atStart=>exact⟨0,Jt _,rfl,Jv _ _ _ _,Below.refl _ _⟩
           case round=>
            obtain⟨k6,z7,rfl,b5⟩:=hrel;obtain⟨ra,rc,rfl⟩:=zG b5.out.1;have b9:=c4.out.keep b5.out.2
            by_cases e7:k6<x.args.length
            ·skip
             have p4:(k6:Int)<x.args.length:=Zo;have o5:=Ja e7;obtain⟨y,hy⟩:∃y,x.args[k6]? =some y:=⟨_,Jd e7⟩
             obtain⟨b6,o6,rfl,w1,l9,u1⟩:=x4.out.get hy;rw[Nk] at l9;have z9:K.B<W5.heap.size:=by obtain⟨ov5,x0⟩:=c4.out.mach;exact x0.size
             have cy:=(b5.out.2.cell (p:=⟨b6,o6+k6,none⟩) (by show b6<W5.heap.size;omega)).trans l9;have ly:=b9.map.look u1;have z3:=b9.map.2 y;have u8:=Ja (qH (v:=v2) hy);have y4:=pA (v:=v2) (show k6<=x.args.length by omega);obtain⟨ii,v5,u0,t8,t7⟩:=info_parts Try.info_u16;have x9:=b5.out.2.size;clear hy l9 e7 b9 w1;generalize v2 y=vy at *;go_wp2_with (at_builtin;go_must (refine wpList_append_lies _ rfl (.tmp 115) (.tmp 119) 36 rfl W5.heap.size 39 ii (U 0) 1 2 Try.underlying36 v5 u0 t8 t7 rfl Zd _ k6 ((uT v2 x.args k6).map vL) rfl (b5.out.1.alloc _) ⟨wr.heap.size,0,none⟩ 1 1 [U vy] rfl rfl (Oi (cs:=#[U vy]) (zI Zs)) (by simp[Value.oneCell']) Zd (by unfold maxLen;omega) Zo Zt (wr.heap.size+1) Zs ?_;intro gq y5 w6 i0 f6 y3 e7;have s4:=Ja (Jb i0 f6);clear i0 f6))
             go_roundw
             case rel=>
              refine⟨k6+1,o5.out,by go_num,?_,(b5.out.2.alloc Zo _).grown s4.out.2 Zt (fun k hk=>(b5.out.1.lt k hk).1)⟩;rw[u8.out,Js];exact s4.out.1
             case measure=>have:=o5.out;simp[intOf];omega
            ·skip
             obtain rfl:k6=x.args.length:=by omega
             have p4:¬(x.args.length:Int)<x.args.length:=Zo;have g9:=b5.out.1;rw[r8] at g9;have p2:=(b5.out.2.cell (p:=⟨b18,0,none⟩) u4).trans t6;have k4:=ms g9 Zs (fun y hy=>by obtain⟨z,_,rfl⟩:=Nu.1 hy;exact b9.map.2 z);obtain⟨q,hq⟩:∃q:Nat,x.block=(q:Int):=⟨x.block.toNat,by have:=u.out.2.1;omega⟩
             rw[hq] at p2;have HH:=u.out;rw[hq] at HH
             have p3:Hid (jw K w wr r n blocks w.heap.size q (.slice ra x.args.length rc) RES):=by
              refine⟨x.args.map v2,v2,m2.pay,vn2,b9,k4,?_,?_,?_,?_,HH.1⟩
              ·rw[Nr];exact HH.2.2.2
              ·have:=HH.2.2.1;rw[Ni] at this;exact this
              ·have h1:=e5.out.2.1;have h2:=p0.out.2.2;have h3:=a3.out;simp only[Mach.pay];omega
              ·exact bd_next p0.out.2.1 (by have:=a3.out;show(m2.fuel-1).toNat+1=m2.fuel.toNat;omega)
             clear g9 k4 b9 HH hq;go_wp2
             go_roundg n
             case measure=>omega
             case rel=>exact⟨q,ra,x.args.length,rc,rfl,rfl,p3⟩
theorem mi (K:MK)(hok:OkProg K.E.p):∀r,r<=100->pq K r
 |0,_=>iA K
 |r+1,h=>jC K hok r h (mi K hok r Zo)
def yH (V:PV)(p:IProg):Value:=.agg #[V.fv,V.av,O p.entry,O p.handler,V.dv,V.bv]
def iz (o:IObj):Value:=.agg #[O o.bank,U (o.addr:Int),U (o.size:Int)]
def sW (nb:Nat)(o:IObj):Bool:=
 if o.bank=-1 then decide (0<o.size) && (decide (16384<=o.addr) && decide (o.addr+o.size<=24576))
 else decide (0<o.size) && (decide (0<=o.bank) && (decide (o.bank<nb) && decide (o.addr+o.size<=4096)))
def uK (a b:IObj):Bool:=decide (a.bank=b.bank) && (decide (a.addr<b.addr+b.size) && decide (b.addr<a.addr+a.size))
theorem zZ {P Q:Prop} [Decidable P] [Decidable Q] {b:Bool}(h:decide P=b)(e:P↔Q):decide Q=b:=by rw[<-h];exact decide_eq_decide.2 e.symm
theorem kL{V:PV}{p:IProg}(hp:ProgIn w w.heap.size V p)(o:IObj)(ho:I64 o.bank/\o.addr<65536/\o.size<65536):
 G 95 #[yH V p,iz o] w fun e w'=>e=.returned (.bool (sW p.banks.length o))/\L w w':=by
 obtain⟨Vf,Va,Vd,Vb⟩:=V;obtain⟨f1,f2,e1,_,_⟩:=hp.funcs.form;obtain⟨a1,a2,e2,_,_⟩:=hp.args.form;obtain⟨d1,d2,e3,_,_⟩:=hp.data.form;obtain⟨b1,b2,e4,i,m⟩:=hp.banks.form;simp only at e1 e2 e3 e4;subst e1 e2 e3 e4;unfold yH iz;simp only;have q:p.banks.length<=9223372036854775807:=Zo;obtain⟨k,l,j⟩:=ho;clear hp i;obtain⟨q1,h1⟩:∃b,decide (0<o.size)=b:=⟨_,rfl⟩
 have d:∀M:Nat,∀b,decide (o.addr+o.size<=M)=b->decide ((o.addr:Int)+(o.size:Int)<=(M:Int))=b:=fun M b h=>zZ h Zo
 by_cases c:o.bank=-1
 ·have e:sW p.banks.length o=(decide (0<o.size) && (decide (16384<=o.addr) && decide (o.addr+o.size<=24576))):=if_pos c;obtain⟨q2,h2⟩:∃b,decide (16384<=o.addr)=b:=⟨_,rfl⟩
  obtain⟨q3,h3⟩:∃b,decide (o.addr+o.size<=24576)=b:=⟨_,rfl⟩
  have u:decide ((16384:Int)<=(o.addr:Int))=q2:=zZ h2 Zo;have t:decide ((o.addr:Int)+(o.size:Int)<=24576)=q3:=d 24576 _ h3;have t1:(o.bank==-1)=true:=by rw[beq_iff_eq];exact c
  rw[e,h1,h2,h3];have y:=Ja h3;clear e d c h3;cases q1<;>cases q2<;>cases q3
  all_goals go_enter Try.func95,Try.ntmps95
  all_goals go_wp2
  all_goals go_ret
  all_goals exact⟨rfl,((Below.refl _ _).alloc (Je _) _).alloc Zs _⟩
 ·have e:sW p.banks.length o=(decide (0<o.size) && (decide (0<=o.bank) && (decide (o.bank<p.banks.length) && decide (o.addr+o.size<=4096)))):=if_neg c;obtain⟨q2,h2⟩:∃b,decide (0<=o.bank)=b:=⟨_,rfl⟩
  obtain⟨q3,h3⟩:∃b,decide (o.bank<(p.banks.length:Int))=b:=⟨_,rfl⟩
  obtain⟨q4,g⟩:∃b,decide (o.addr+o.size<=4096)=b:=⟨_,rfl⟩
  have r:decide ((o.addr:Int)+(o.size:Int)<=4096)=q4:=d 4096 _ g;have t1:(o.bank==-1)=false:=by rw[beq_eq_false_iff_ne];exact c
  rw[e,h1,h2,h3,g];have x:=Ja g;clear e d c g;cases q1<;>cases q2<;>cases q3<;>cases q4
  all_goals go_enter Try.func95,Try.ntmps95
  all_goals go_wp2
  all_goals go_ret
  all_goals exact⟨rfl,((Below.refl _ _).alloc (Je _) _).alloc Zs _⟩
theorem nT (w:World)(a b:IObj)(i:I64 a.bank/\a.addr<65536/\a.size<65536)(hb:I64 b.bank/\b.addr<65536/\b.size<65536):
 G 96 #[iz a,iz b] w fun e w'=>e=.returned (.bool (uK a b))/\L w w':=by
 unfold iz;obtain⟨_,h,d⟩:=i;obtain⟨_,g,c⟩:=hb;obtain⟨q1,h1⟩:∃q,decide (a.bank=b.bank)=q:=⟨_,rfl⟩
 obtain⟨q2,h2⟩:∃q,decide (a.addr<b.addr+b.size)=q:=⟨_,rfl⟩
 obtain⟨q3,h3⟩:∃q,decide (b.addr<a.addr+a.size)=q:=⟨_,rfl⟩
 have t1:(a.bank==b.bank)=q1:=by rw[<-h1];rw[Bool.eq_iff_iff,beq_iff_eq,decide_eq_true_eq]
 have t2:decide ((a.addr:Int)<(b.addr:Int)+(b.size:Int))=q2:=zZ h2 Zo;have t3:decide ((b.addr:Int)<(a.addr:Int)+(a.size:Int))=q3:=zZ h3 Zo;have e:uK a b=(q1 && (q2 && q3)):=by unfold uK;rw[h1,h2,h3]
 rw[e];clear e h1 h2 h3;cases q1<;>cases q2<;>cases q3
 all_goals go_enter Try.func96,Try.ntmps96
 all_goals go_wp2
 all_goals go_ret
 all_goals exact⟨rfl,((Below.refl _ _).alloc (Je _) _).alloc Zs _⟩
def yw (p:IProg)(f:Int):Bool:=decide (0<=f) && (decide (f<p.funcs.length) && (p.args.getD f.toNat 0==0))
theorem kR{V:PV}{p:IProg}(hp:ProgIn w w.heap.size V p)(hl:p.args.length=p.funcs.length)(f:Int):
 G 64 #[yH V p,O f] w fun e w'=>e=.returned (.bool (yw p f))/\L w w':=by
 obtain⟨Vf,Va,Vd,Vb⟩:=V;obtain⟨f1,f2,e1,h,m⟩:=hp.funcs.form;have c:=hp.args;obtain⟨a1,a2,e2,_,_⟩:=hp.args.form;obtain⟨d1,d2,e3,_,_⟩:=hp.data.form;obtain⟨b1,b2,e4,_,_⟩:=hp.banks.form;simp only at e1 e2 e3 e4 c;subst e1 e2 e3 e4;unfold yH;simp only;have r:p.funcs.length<=9223372036854775807:=Zo;clear hp h;have j:L w (w.alloc (A (P p f1 f2 a1 a2 d1 d2 b1 b2) 29)):=(Below.refl _ _).alloc (Je _) _
 by_cases d:0<=f
 ·obtain⟨k,rfl⟩:∃k:Nat,f=(k:Int):=⟨f.toNat,by omega⟩
  by_cases h1:k<p.funcs.length
  ·obtain⟨x,g⟩:∃x,p.args[k]? =some x:=⟨_,Jd Zo⟩
   obtain⟨b,o,rfl,hb,i,_⟩:=c.get g;rw[Nk] at i;have t:=zV j hb i;obtain⟨q,hq⟩:∃q,(x==0)=q:=⟨_,rfl⟩
   have e:yw p k=q:=by unfold yw;rw[decide_eq_true d,decide_eq_true (show(k:Int)<p.funcs.length by omega),Ni,Jj,g];exact hq
   rw[e];have t1:decide (k<p.funcs.length)=true:=decide_eq_true h1;have l:(k:Int)<p.args.length:=Zo;clear e d h1 g c;cases q
   all_goals go_enter Try.func64,Try.ntmps64
   all_goals go_wp2
   all_goals go_ret
   all_goals exact⟨rfl,(Below.refl _ _).alloc (Je _) _⟩
  ·have e:yw p k=false:=by unfold yw;rw[decide_eq_true d,decide_eq_false (show ¬(k:Int)<p.funcs.length by omega)];rfl
   rw[e];have t1:decide (k<p.funcs.length)=false:=decide_eq_false h1;clear e d h1 c;go_enter Try.func64,Try.ntmps64;go_wp2;go_ret;exact⟨rfl,(Below.refl _ _).alloc (Je _) _⟩
 ·have e:yw p f=false:=by unfold yw;rw[decide_eq_false d];rfl
  rw[e];have t1:decide (0<=f)=false:=decide_eq_false d;clear e d c;go_enter Try.func64,Try.ntmps64;go_wp2;go_ret;exact⟨rfl,(Below.refl _ _).alloc (Je _) _⟩
def mh (l:List ByteArray):Bool:=l.all fun s=>decide (s.size=4096)
def lF (o:IObj)(l:List IObj):Bool:=l.all fun x=>!uK o x
def lm (nb:Nat)(l:List IObj)(i:Nat):Bool:=match l[i]? with|some o=>sW nb o && lF o (l.take i)|none=>true
def ig (nb:Nat)(l:List IObj):Bool:=(List.range l.length).all (lm nb l)
def wB (p:IProg):Bool:=mh p.banks && ig p.banks.length p.data
theorem xX{α:Type}(f:α->Bool){l:List α}{x:α}(h:l[k]? =some x):(l.take (k+1)).all f=((l.take k).all f && f x):=by
 rw[Nh,h,List.all_append];simp
theorem aaN{α:Type}(f:α->Bool){l:List α}{x:α}(h:l[k]? =some x)(hf:f x=false):l.all f=false:=by
 rw[Um];exact⟨x,Ji h,by rw[hf];simp⟩
theorem mO{nb:Nat}{l:List IObj}(hi:i<l.length)(h:lm nb l i=false):ig nb l=false:=by
 unfold ig;rw[Um];exact⟨i,Ol.2 hi,by rw[h];simp⟩
def mQ (nb:Nat)(l:List IObj)(i:Nat):Bool:=(List.range i).all (lm nb l)
theorem nU (nb:Nat)(l:List IObj)(i:Nat):mQ nb l (i+1)=(mQ nb l i && lm nb l i):=by unfold mQ;rw[List.range_succ,List.all_append];simp
theorem kN{V:PV}{p:IProg}(hp:ProgIn w w.heap.size V p):
 G 65 #[yH V p] w fun e w'=>e=.returned (.bool (wB p))/\L w w':=by
 obtain⟨Vf,Va,Vd,Vb⟩:=V;obtain⟨f1,f2,e1,_,_⟩:=hp.funcs.form;obtain⟨a1,a2,e2,_,_⟩:=hp.args.form;have c7:=hp.data;have c8:=hp.banks;obtain⟨d1,d2,e3,i0,k2⟩:=hp.data.form;obtain⟨b1,b2,e4,k7,k5⟩:=hp.banks.form;simp only at e1 e2 e3 e4 c7 c8;subst e1 e2 e3 e4;have HP:=Ja hp;have h0:=Ja c7;have j1:=Ja c8;unfold yH;simp only;have k3:p.data.length<=d2:=i0;have k6:p.banks.length<=9223372036854775807:=Zo;clear hp c7 c8;go_enter Try.func65,Try.ntmps65;go_upto_region 1 with fail;have g6:L w (w.alloc (A (P p f1 f2 a1 a2 d1 d2 b1 b2) 29)):=(Below.refl _ _).alloc (Je _) _;have b5:=zI (W:=w) (o:=A (P p f1 f2 a1 a2 d1 d2 b1 b2) 29) rfl;generalize j0:w.alloc (A (P p f1 f2 a1 a2 d1 d2 b1 b2) 29)=W0 at *;have r:=Ja g6;have b9:=Ja b5;have p5:=K5 b5;have p4:=K4 b5;clear j0 g6 b5;go_wp2
 go_loopw [12] (fun kv wx=>∃k:Nat,k<=p.banks.length/\kv=O k/\wx=W0/\Hid ((p.banks.take k).all (fun s=>decide (s.size=4096))=true)) (fun kv _=>p.banks.length-(intOf kv).toNat)
 case atStart=>exact⟨0,Jt _,rfl,rfl,by rfl⟩
 case round=>
  obtain⟨k,hk,rfl,rfl,HK⟩:=hrel;generalize i2:wr=W0 at *;clear i2
  by_cases d0:k<p.banks.length
  ·have h7:(k:Int)<p.banks.length:=Zo;have h5:=Ja d0;obtain⟨s,hs⟩:∃s,p.banks[k]? =some s:=⟨_,Jd d0⟩
   obtain⟨b,o,rfl,hb,hc,k1⟩:=j1.out.get hs;rw[Nk] at hc;have cs:=zV r.out hb hc;have a4:=xX (fun s:ByteArray=>decide (s.size=4096)) hs;have a5:=fun h=>aaN (fun s:ByteArray=>decide (s.size=4096)) hs h
   have HT:=Ja (Jb a4 a5);clear hs hc hb a4 a5 d0
   by_cases hq:s.size=4096
   ·have t1:((s.size:Int) !=4096)=false:=by rw[bne_eq_false_iff_eq];omega
    have HQ:=Ja hq;clear hq;go_wp2;go_roundw
    case rel=>exact⟨k+1,h5.out,by go_num,by trivial,Ja (by rw[HT.out.1,HK.out];simp[HQ.out])⟩
    case measure=>have:=h5.out;simp[intOf];omega
   ·have t1:((s.size:Int) !=4096)=true:=by rw[bne_iff_ne];omega
    have HQ:=Ja hq;clear hq;go_wp2;go_ret;refine⟨rH ?_,r.out⟩;have h9:mh p.banks=false:=HT.out.2 (by simp[HQ.out]);unfold wB;rw[h9];rfl
  ·obtain rfl:k=p.banks.length:=by omega
   have h7:¬(p.banks.length:Int)<p.banks.length:=Zo;have g4:mh p.banks=true:=by have:=HK.out;rw[Nl] at this;exact this
   have f8:wB p=ig p.banks.length p.data:=by unfold wB;rw[g4];rfl
   have d5:=Ja f8;clear g4 f8 HK;go_wp2
   go_loopw [23] (fun iv wx=>∃i:Nat,i<=p.data.length/\iv=O i/\Hid (L W0 wx/\mQ p.banks.length p.data i=true)) (fun iv _=>p.data.length-(intOf iv).toNat)
   case atStart=>exact⟨0,Jt _,rfl,Below.refl _ _,by rfl⟩
   case round=>
    obtain⟨i,hi,rfl,HI⟩:=hrel
    by_cases u:i<p.data.length
    ·skip
     have e7:(i:Int)<p.data.length:=Zo;have e5:=Ja u;obtain⟨o,ho⟩:∃o,p.data[i]? =some o:=⟨_,Jd u⟩
     obtain⟨b,oo,rfl,hb,a9,a7,a6,g1,g2,f9⟩:=h0.out.get ho;have c:L w wr:=r.out.trans (HI.out.1.mono r.out.size);have e0:=zV c hb a9;have e1:=zV c hb a7;have e2:=zV c hb a6;have x4:=zA (i:=4) (v:=.slice (some ⟨b,oo,none⟩) p.data.length d2) (zH HI.out.1 b9.out (lt_of_block b9.out)) Zs;have d3:=zH HI.out.1 b9.out (lt_of_block b9.out);have h4:=Ja (show I64 o.bank/\o.addr<65536/\o.size<65536 from⟨g1,g2,f9⟩);have k9:=Ja c;have HO:=Ja (Jb ho hb);have g0:lm p.banks.length p.data i=(sW p.banks.length o && lF o (p.data.take i)):=by unfold lm;rw[ho]
     have d7:=Ja g0;have g3:=fun h=>mO (nb:=p.banks.length) u h
     have h6:=Ja g3;clear ho hb a9 a7 a6 g1 g2 f9 u c g0 g3 p5 p4;go_upto_region 10 with fail;have a3:=zI (W:=wr) (o:=A #[O o.bank,U (o.addr:Int),U (o.size:Int)] 51) rfl;have g:=zB (o:=A #[O o.bank,U (o.addr:Int),U (o.size:Int)] 51) d3;have c2:=HI.out.1.alloc (HI.out.1.size) (A #[O o.bank,U (o.addr:Int),U (o.size:Int)] 51);have k4:W0.heap.size<=wr.heap.size:=HI.out.1.size;generalize i8:wr.alloc (A #[O o.bank,U (o.addr:Int),U (o.size:Int)] 51)=W1 at *;generalize wr.heap.size=b6 at *;have f0:=K0 a3;have e9:=K1 a3;have e8:=K2 a3;have y0:=K0 g;have y1:=K1 g;have y2:=K2 g;have y3:=K3 g;have y4:=K4 g;have y5:=K5 g;have m:=Ja (Jb c2 (r.out.trans (c2.mono r.out.size)));have HZ:=Ja (Jb a3 g);have a0:=kL ((HP.out.below m.out.2).mono m.out.2.size) o h4.out;unfold yH iz at a0;simp only at a0;have b3:=Ja a0;clear i8 a3 g c2 a0 d3 e0 e1 e2 x4;obtain⟨q1,c5⟩:∃q,sW p.banks.length o=q:=⟨_,rfl⟩
     rw[c5] at b3;have g9:=Ja c5;clear c5
     cases q1 with
     |false=>
      go_wp2_with (go_at_call 95;go_must (refine b3.out.mono ?_;rintro e w2 ⟨rfl,l⟩))
      go_ret;refine⟨rH ?_,m.out.2.trans (l.mono m.out.2.size)⟩;rw[d5.out]
      exact(h6.out (by rw[d7.out,g9.out];rfl)).symm
     |true=>
      go_upto_region 12 with(go_at_call 95;go_must (refine b3.out.mono ?_;rintro e w2 ⟨rfl,l⟩))
      have v4:=zA (i:=4) (v:=.slice (some ⟨b,oo,none⟩) p.data.length d2) (zH l HZ.out.2 (lt_of_block HZ.out.2)) Zs;have g7:=Ja (Jb (zH l HZ.out.1 (lt_of_block HZ.out.1)) l);have c3:=m.out.2.trans (l.mono m.out.2.size);have d:=Ja (Jb c3 (m.out.1.trans (l.mono m.out.1.size)));have j2:i<=d2:=Zo;clear f0 e9 e8 y0 y1 y2 y3 y4 y5 l c3;go_wp2
      go_loopw [37] (fun jv wx=>∃j:Nat,j<=i/\jv=O j/\Hid (L w2 wx/\lF o (p.data.take j)=true)) (fun jv _=>i-(intOf jv).toNat)
      case atStart=>exact⟨0,Jt _,rfl,Below.refl _ _,by rfl⟩
      case round=>
       obtain⟨j,hj,rfl,HJ⟩:=hrel
       by_cases b0:j<i
       ·have e6:(j:Int)<i:=Zo;have d8:=Ja b0;obtain⟨x,hx⟩:∃x,p.data[j]? =some x:=⟨_,Jd Zo⟩
        obtain⟨b',o',e',b7,a9,a7,a6,f5,f6,f4⟩:=h0.out.get hx;cases e';have c:=d.out.1.trans (HJ.out.1.mono d.out.1.size);have e0:=zV c b7 a9;have e1:=zV c b7 a7;have e2:=zV c b7 a6;have f3:=zH HJ.out.1 g7.out.1 (lt_of_block g7.out.1);have h8:=Ja (show I64 x.bank/\x.addr<65536/\x.size<65536 from⟨f5,f6,f4⟩);have a4:=xX (fun y=>!uK o y) hx;have f7:(p.data.take i)[j]? =some x:=by rw[Ug,if_pos b0];exact hx
        have a5:=fun h=>aaN (fun y=>!uK o y) f7 h
        have HT:=Ja (Jb a4 a5);have j3:=Ja c;clear hx b7 a9 a7 a6 f5 f6 f4 a4 a5 f7 b0 c;go_upto_region 15 with fail;have b4:=zI (W:=wr) (o:=A #[O x.bank,U (x.addr:Int),U (x.size:Int)] 51) rfl;have t:=zB (o:=A #[O x.bank,U (x.addr:Int),U (x.size:Int)] 51) f3;have g5:=HJ.out.1.alloc HJ.out.1.size (A #[O x.bank,U (x.addr:Int),U (x.size:Int)] 51);generalize i3:wr.alloc (A #[O x.bank,U (x.addr:Int),U (x.size:Int)] 51)=W8 at *;generalize wr.heap.size=b8 at *;have f0:=K0 t;have e9:=K1 t;have e8:=K2 t;have k0:=K0 b4;have j5:=K1 b4;have j4:=K2 b4;have c9:=nT W8 o x h4.out h8.out;unfold iz at c9;have d6:=Ja c9;have c0:=Ja g5;clear i3 b4 t f3 g5 c9 e0 e1 e2;obtain⟨q2,c4⟩:∃q,uK o x=q:=⟨_,rfl⟩
        rw[c4] at d6;have g8:=Ja c4;clear c4
        cases q2 with
        |true=>
         go_wp2_with (go_at_call 96;go_must (refine d6.out.mono ?_;rintro e w3 ⟨rfl,d4⟩))
         go_ret;have i1:=c0.out.trans (d4.mono c0.out.size);refine⟨rH ?_,d.out.1.trans (i1.mono d.out.1.size)⟩;rw[d5.out]
         exact(h6.out (by rw[d7.out];unfold lF;rw[HT.out.2 (by rw[g8.out];rfl),Uh])).symm
        |false=>
         go_wp2_with (go_at_call 96;go_must (refine d6.out.mono ?_;rintro e w3 ⟨rfl,d4⟩))
         go_roundw
         case rel=>exact⟨j+1,d8.out,by go_num,Ja ⟨c0.out.trans (d4.mono c0.out.size),by unfold lF;rw[HT.out.1];have:=HJ.out.2;unfold lF at this;rw[this,g8.out];rfl⟩⟩
         case measure=>have:=d8.out;simp[intOf];omega
       ·obtain rfl:j=i:=by omega
        have e6:¬(j:Int)<j:=Zo;go_wp2;go_roundw
        case rel=>
         refine⟨j+1,e5.out,by go_num,Ja ⟨d.out.2.trans (HJ.out.1.mono d.out.2.size),?_⟩⟩;rw[nU,HI.out.2,d7.out,g9.out,HJ.out.2];rfl
        case measure=>have:=e5.out;simp[intOf];omega
    ·obtain rfl:i=p.data.length:=by omega
     have e7:¬(p.data.length:Int)<p.data.length:=Zo;go_wp2;go_ret;refine⟨rH ?_,r.out.trans (HI.out.1.mono r.out.size)⟩;rw[d5.out];exact HI.out.2.symm
def tX (n:Int):Bool:=decide (0<=n) && decide (n<=8)
def sR (p:IProg):Int:=
 if 2000<p.funcs.length∨512<p.data.length∨64<p.banks.length then 2
 else if p.args.length≠p.funcs.length then 1
 else if p.args.all tX=false then 1
 else if yw p p.entry=false∨(p.handler≠-1/\yw p p.handler=false) then 1
 else if wB p=false then 37
 else 0
def m9 (w:World)(x:Int)(e:Ending)(w':World):Prop:=e=.returned (O x)/\L w w'
theorem kB{V:PV}{p:IProg}(hp:ProgIn w w.heap.size V p):G 46 #[yH V p] w (m9 w (sR p)):=by
 have i:∀(W:World),L w W->p.args.length=p.funcs.length->∀f,G 64 #[yH V p,O f] W fun e w'=>e=.returned (.bool (yw p f))/\L W w':=fun W hb hl f=>kR ((hp.below hb).mono hb.size) hl f
 have j:∀(W:World),L w W->G 65 #[yH V p] W fun e w'=>e=.returned (.bool (wB p))/\L W w':=fun W hb=>kN ((hp.below hb).mono hb.size)
 obtain⟨Vf,Va,Vd,Vb⟩:=V;obtain⟨f1,f2,e1,_,_⟩:=hp.funcs.form;have b8:=hp.args;obtain⟨a1,a2,e2,_,_⟩:=hp.args.form;obtain⟨d1,d2,e3,_,_⟩:=hp.data.form;obtain⟨b1,b2,e4,_,_⟩:=hp.banks.form;simp only at e1 e2 e3 e4 b8;subst e1 e2 e3 e4;unfold yH at i j ⊢;simp only at i j ⊢;have e8:p.args.length<=9223372036854775807:=Zo;have e6:=Ja b8;have d0:=Ja i;have d5:=Ja j;have a9:L w (w.alloc (A (P p f1 f2 a1 a2 d1 d2 b1 b2) 29)):=(Below.refl _ _).alloc (Je _) _;have l:=zI (W:=w) (o:=A (P p f1 f2 a1 a2 d1 d2 b1 b2) 29) rfl;obtain⟨q1,h1⟩:∃q,decide (2000<p.funcs.length)=q:=⟨_,rfl⟩
 obtain⟨q2,h2⟩:∃q,decide (512<p.data.length)=q:=⟨_,rfl⟩
 obtain⟨q3,h3⟩:∃q,decide (64<p.banks.length)=q:=⟨_,rfl⟩
 have f3:decide ((2000:Int)<(p.funcs.length:Int))=q1:=zZ h1 Zo;have f0:decide ((512:Int)<(p.data.length:Int))=q2:=zZ h2 Zo;have e9:decide ((64:Int)<(p.banks.length:Int))=q3:=zZ h3 Zo;have HQ:=Ja (Jb h1 (Jb h2 h3));clear hp b8 i j
 by_cases t:q1=true∨q2=true∨q3=true
 ·have hh:sR p=2:=by
   unfold sR;rw[if_pos];rcases t with e|e|e
   ·exact .inl (of_decide_eq_true (HQ.out.1.trans e))
   ·exact .inr (.inl (of_decide_eq_true (HQ.out.2.1.trans e)))
   ·exact .inr (.inr (of_decide_eq_true (HQ.out.2.2.trans e)))
  rw[hh];have HB:=Ja t;clear hh t l;cases q1<;>cases q2<;>cases q3
  all_goals first
   |(exfalso;have:=HB.out;simp at this;done)
   |(go_enter Try.func46,Try.ntmps46
     go_wp2;go_ret
     exact⟨rfl,a9⟩)
 ·obtain⟨e1,e2,e3⟩:q1=false/\q2=false/\q3=false:=by
   cases q1<;>cases q2<;>cases q3<;>simp at t ⊢
  subst e1 e2 e3
  have c7:sR p=if p.args.length≠p.funcs.length then 1 else if p.args.all tX=false then 1 else if yw p p.entry=false∨(p.handler≠-1/\yw p p.handler=false) then 1 else if wB p=false then 37 else 0:=by
   unfold sR;rw[if_neg];rintro(e|e|e)
   ·exact absurd e (of_decide_eq_false HQ.out.1)
   ·exact absurd e (of_decide_eq_false HQ.out.2.1)
   ·exact absurd e (of_decide_eq_false HQ.out.2.2)
  rw[c7];clear c7 t
  by_cases hl:p.args.length=p.funcs.length
  ·rw[if_neg (fun h=>h hl)];generalize b4:(if p.args.all tX=false then(1:Int) else if yw p p.entry=false∨(p.handler≠-1/\yw p p.handler=false) then 1 else if wB p=false then 37 else 0)=res;have c2:=Ja b4;clear b4;have t1:((p.args.length:Int) !=(p.funcs.length:Int))=false:=by rw[bne_eq_false_iff_eq];omega
   have HL:=Ja hl;clear hl;go_enter Try.func46,Try.ntmps46;go_upto_region 5 with fail;generalize e5:w.alloc (A (P p f1 f2 a1 a2 d1 d2 b1 b2) 29)=W0 at *;have g:=Ja a9;have y:=Ja l;have y0:=K0 l;have y1:=K1 l;have y2:=K2 l;have y3:=K3 l;have y4:=K4 l;have y5:=K5 l;clear e5 a9 l;go_wp2
   go_loopw [31] (fun kv wx=>∃k:Nat,k<=p.args.length/\kv=O k/\wx=W0/\Hid ((p.args.take k).all tX=true)) (fun kv _=>p.args.length-(intOf kv).toNat)
   case atStart=>exact⟨0,Jt _,rfl,rfl,by rfl⟩
   case round=>
    obtain⟨k,hk,rfl,rfl,HK⟩:=hrel;generalize e0:wr=W0 at *;clear e0
    by_cases b9:k<p.args.length
    ·have d7:(k:Int)<p.args.length:=Zo;have d6:=Ja b9;obtain⟨n,hn⟩:∃n,p.args[k]? =some n:=⟨_,Jd b9⟩
     obtain⟨b,o,rfl,hb,hc,e7⟩:=e6.out.get hn;rw[Nk] at hc;have cn:=zV g.out hb hc;have HT:=Ja (Jb (xX tX hn) (fun h=>aaN tX hn h));obtain⟨q1,g1⟩:∃q,decide (0<=n)=q:=⟨_,rfl⟩
     obtain⟨q2,g2⟩:∃q,decide (n<=8)=q:=⟨_,rfl⟩
     have c9:decide (n<0)=!q1:=by rw[<-g1];by_cases h:0<=n<;>simp[h]<;>omega
     have c8:decide (8<n)=!q2:=by rw[<-g2];by_cases h:n<=8<;>simp[h]<;>omega
     have HA:=Ja (show tX n=(q1 && q2) by unfold tX;rw[g1,g2]);clear hn hc hb b9 g1 g2;cases q1<;>cases q2
     case true.true=>
      simp only[Bool.not_true] at c9 c8;go_wp2;go_roundw
      case rel=>exact⟨k+1,d6.out,by go_num,by trivial,Ja (by rw[HT.out.1,HK.out,HA.out];rfl)⟩
      case measure=>have:=d6.out;simp[intOf];omega
     all_goals simp only[Bool.not_true,Bool.not_false] at c9 c8
     all_goals go_wp2
     all_goals go_ret
     all_goals refine⟨zh ?_,g.out⟩
     all_goals rw[<-c2.out,if_pos (HT.out.2 (by rw[HA.out];rfl))]
    ·obtain rfl:k=p.args.length:=by omega
     have d7:¬(p.args.length:Int)<p.args.length:=Zo;have c0:p.args.all tX=true:=by have:=HK.out;rw[Nl] at this;exact this
     have b5:=c2.out;rw[if_neg (by rw[c0];simp)] at b5;have b3:=Ja b5;clear b5 c0 HK;go_upto_region 11 with fail;obtain⟨qe,b7⟩:∃q,yw p p.entry=q:=⟨_,rfl⟩
     have c5:G 64 #[.agg (P p f1 f2 a1 a2 d1 d2 b1 b2),O p.entry] W0 fun e w'=>e=.returned (.bool qe)/\L W0 w':=by rw[<-b7];exact d0.out _ g.out HL.out _
     have b0:=Ja c5;have c3:=Ja b7;clear c5 b7
     cases qe with
     |false=>
      go_wp2_with (go_at_call 64;go_must (refine b0.out.mono ?_;rintro e w2 ⟨rfl,m⟩))
      go_ret;refine⟨zh ?_,g.out.trans (m.mono g.out.size)⟩
      rw[<-b3.out,if_pos (.inl c3.out)]
     |true=>
      by_cases hh:p.handler=-1
      ·have t2:(p.handler !=-1)=false:=by rw[bne_eq_false_iff_eq];exact hh
       have a4:Hid ((if wB p=false then(37:Int) else 0)=res):=by
        have h:=b3.out;rw[if_neg (by rintro(e|e);(rw[c3.out] at e;cases e);exact e.1 hh)] at h;exact h
       clear hh;go_upto_region 13 with(go_at_call 64;go_must (refine b0.out.mono ?_;rintro e w2 ⟨rfl,m⟩;have c:=zH m y.out (lt_of_block y.out);have u0:=K0 c;have u1:=K1 c;have u2:=K2 c;have u3:=K3 c;have u4:=K4 c;have u5:=K5 c))
       have d:=g.out.trans (m.mono g.out.size);obtain⟨qp,r⟩:∃q,wB p=q:=⟨_,rfl⟩
       have a0:G 65 #[.agg (P p f1 f2 a1 a2 d1 d2 b1 b2)] w2 fun e w'=>e=.returned (.bool qp)/\L w2 w':=by rw[<-r];exact d5.out _ d
       have a6:=Ja a0;have a5:=Ja r;clear a0 r
       cases qp with
       |false=>
        go_wp2_with (go_at_call 65;go_must (refine a6.out.mono ?_;rintro e w5 ⟨rfl,u⟩))
        go_ret;refine⟨zh ?_,(d).trans (u.mono (d).size)⟩
        rw[<-a4.out,if_pos a5.out]
       |true=>
        go_wp2_with (go_at_call 65;go_must (refine a6.out.mono ?_;rintro e w5 ⟨rfl,u⟩))
        go_ret;refine⟨zh ?_,(d).trans (u.mono (d).size)⟩;rw[<-a4.out,if_neg (by rw[a5.out];simp)]
      ·have t2:(p.handler !=-1)=true:=by rw[bne_iff_ne];exact hh
       obtain⟨qh,b6⟩:∃q,yw p p.handler=q:=⟨_,rfl⟩
       have d4:=Ja b6;have c4:∀W,L w W->G 64 #[.agg (P p f1 f2 a1 a2 d1 d2 b1 b2),O p.handler] W fun e w'=>e=.returned (.bool qh)/\L W w':=fun W hb=>by rw[<-b6];exact d0.out _ hb HL.out _
       have d3:=Ja c4;have HH:=Ja hh;have g1:True:=trivial;clear hh b6 c4
       cases qh with
       |false=>
        go_wp2_with (first|(go_at_call 64;have d8:=g1;clear g1;go_must (refine b0.out.mono ?_;rintro e w2 ⟨rfl,m⟩;have c:=zH m y.out (lt_of_block y.out);have u0:=K0 c;have u1:=K1 c;have u2:=K2 c;have u3:=K3 c;have u4:=K4 c;have u5:=K5 c;have d:=g.out.trans (m.mono g.out.size)))|(go_at_call 64;go_must (refine(d3.out _ d).mono ?_;rintro e w4 ⟨rfl,a7⟩)))
        go_ret;refine⟨zh ?_,d.trans (a7.mono d.size)⟩
        rw[<-b3.out,if_pos (.inr ⟨HH.out,d4.out⟩)]
       |true=>
        have a4:Hid ((if wB p=false then(37:Int) else 0)=res):=by
         have h:=b3.out;rw[if_neg (by rintro(e|e);(rw[c3.out] at e;cases e);(rw[d4.out] at e;cases e.2))] at h;exact h
        go_upto_region 13 with(first|(go_at_call 64;have d8:=g1;clear g1;go_must (refine b0.out.mono ?_;rintro e w2 ⟨rfl,m⟩;have c:=zH m y.out (lt_of_block y.out);have u0:=K0 c;have u1:=K1 c;have u2:=K2 c;have u3:=K3 c;have u4:=K4 c;have u5:=K5 c;have d:=g.out.trans (m.mono g.out.size)))|(go_at_call 64;go_must (refine(d3.out _ d).mono ?_;rintro e w4 ⟨rfl,a7⟩;have x:=zH a7 c (lt_of_block c);have v0:=K0 x;have v1:=K1 x;have v2:=K2 x;have v3:=K3 x;have v4:=K4 x;have v5:=K5 x)))
        have a3:=d.trans (a7.mono d.size);obtain⟨qp,r⟩:∃q,wB p=q:=⟨_,rfl⟩
        have a0:G 65 #[.agg (P p f1 f2 a1 a2 d1 d2 b1 b2)] w4 fun e w'=>e=.returned (.bool qp)/\L w4 w':=by rw[<-r];exact d5.out _ a3
        have a6:=Ja a0;have a5:=Ja r;clear a0 r
        cases qp with
        |false=>
         go_wp2_with (go_at_call 65;go_must (refine a6.out.mono ?_;rintro e w5 ⟨rfl,u⟩))
         go_ret;refine⟨zh ?_,(a3).trans (u.mono (a3).size)⟩
         rw[<-a4.out,if_pos a5.out]
        |true=>
         go_wp2_with (go_at_call 65;go_must (refine a6.out.mono ?_;rintro e w5 ⟨rfl,u⟩))
         go_ret;refine⟨zh ?_,(a3).trans (u.mono (a3).size)⟩;rw[<-a4.out,if_neg (by rw[a5.out];simp)]
  ·rw[if_pos hl];have t1:((p.args.length:Int) !=(p.funcs.length:Int))=true:=by rw[bne_iff_ne];omega
   clear hl l;go_enter Try.func46,Try.ntmps46;go_wp2;go_ret;exact⟨rfl,a9⟩
def OwnRows {α:Type}(enc:α->Value)(e eS:TypeId)(w:World)(B bp:Nat)(rows:List (List α)):Prop:=
 ∃vs:List Value,Y w bp vs.toArray eS/\vs.length=rows.length/\(∀(k:Nat) (row:List α) (v:Value),rows[k]? =some row->vs[k]? =some v->w.ownsRow B e 1 v row.length (row.map enc))/\
  ∀(i j:Nat) (vi vj:Value),i≠j->vs[i]? =some vi->vs[j]? =some vj->vi.ownBlock=none∨vi.ownBlock≠vj.ownBlock
section
variable {α:Type} {enc:α->Value} {e eS:TypeId} {w:World} {B bp:Nat} {rows:List (List α)}
theorem OwnRows.made (n:Nat)(h:Y w bp (List.replicate n (.slice none 0 0)).toArray eS):OwnRows enc e eS w B bp (List.replicate n []):=by
 refine⟨_,h,by simp,fun k row v h1 h2=>?_,fun i j vi vj _ h1 _=>?_⟩
 ·simp only[Nm] at h1 h2
  split at h1
  ·rw[if_pos ‹_›] at h2;cases h1;cases h2;exact Jv _ _ _ _
  ·cases h1
 ·simp only[Nm] at h1
  split at h1
  ·cases h1;exact .inl rfl
  ·cases h1
theorem OwnRows.blk (h:OwnRows enc e eS w B bp rows):∃c,Y w bp c eS:=let⟨vs,h,_⟩:=h;⟨_,h⟩
theorem OwnRows.bplt (h:OwnRows enc e eS w B bp rows):bp<w.heap.size:=let⟨_,h⟩:=h.blk;lt_of_block h
theorem OwnRows.get (h:OwnRows enc e eS w B bp rows){s:Nat}{row:List α}(hs:rows[s]? =some row):
 ∃a cap,T w bp s (.slice a row.length cap)/\w.ownsRow B e 1 (.slice a row.length cap) row.length (row.map enc)/\N w bp s:=by
 obtain⟨vs,h1,h2,h3,d⟩:=h;have c:s<vs.length:=by rw[h2];exact(Jh.1 hs).1
 have hv:=Jd c;have ho:=h3 s row _ hs hv;obtain⟨a,cap,e1⟩:=zG ho;refine⟨a,cap,zA h1 (by simp[hv,e1]),by rw[<-e1];exact ho,zE h1⟩
theorem OwnRows.kept(h:OwnRows enc e eS w B bp rows){row:Option Nat}(hg:w.grownBy w' row)(hb:row≠some bp)(hr:∀k,row=some k->k<B):OwnRows enc e eS w' B bp rows:=by
 obtain⟨vs,h1,h2,h3,c⟩:=h;refine⟨vs,zL hg h1 hb,h2,fun k r v a b=>(h3 k r v a b).kept hg ?_,c⟩
 cases hk:v.ownBlock with
 |none=>exact .inl rfl
 |some g=>
  right;intro e1;have:=(h3 k r v a b).lt g hk;have:=hr g e1.symm;omega
theorem OwnRows.put (h:OwnRows enc e eS w B bp rows)(q:e≠eS){s:Nat}{row row':List α}(hs:rows[s]? =some row){a:Option Addr}{cap:Nat}(hc:T w bp s (.slice a row.length cap))
 {o:Obj} {w2:World} {g d H:Nat} (hg:(w.alloc o).grownBy w2 (Value.slice a row.length cap).ownBlock) (m:w2.ownsRow B e 1 (Q g row'.length d) row'.length (row'.map enc))
 (hat:(Value.slice a row.length cap).ownBlock=some g∨g=H) (hH:w.heap.size<=H):
 OwnRows enc e eS (w2.setCell ⟨bp,s,none⟩ (Q g row'.length d)) B bp (rows.set s row'):=by
 obtain⟨vs,h1,h2,h3,h4⟩:=h;have l:s<vs.length:=by rw[h2];exact(Jh.1 hs).1
 have hv:=Jd l;have ho:=h3 s row _ hs hv
 have a3:vs[s]=.slice a row.length cap:=by
  have x:=zA (i:=s) h1 (v:=vs[s]) Zs;rw[x] at hc;exact Nt hc
 rw[a3] at ho hv;have a4:=zC ho h1 (.inr q);have a1:=zL hg (zB h1) a4
 have u:∀(k:Nat) (v:Value),k≠s->vs[k]? =some v->v.ownBlock≠some bp/\(∀r,rows[k]? =some r->(w2.setCell ⟨bp,s,none⟩ (Q g row'.length d)).ownsRow B e 1 v r.length (r.map enc))/\(v.ownBlock=none∨v.ownBlock≠some g):=by
  intro k v hk c;have a5:k<rows.length:=by rw[<-h2];exact(Jh.1 c).1
  have y:=h3 k _ v (Jd a5) c;have hn:=zC y h1 (.inr q);refine⟨hn,fun r hr=>?_,?_⟩
  ·have a2:=h3 k r v hr c;have a6:=(a2.alloc o).kept hg (h4 k s v _ hk c hv);exact ownsRow_setCell_other a6 (by simpa using hn) _
  ·rcases hat with hat|hat
   ·rw[<-hat];exact h4 k s v _ hk c hv
   ·right;intro e1;have:=(y.lt g e1).2;omega
 refine⟨vs.set s (Q g row'.length d),?_,by simp[h2],fun k r v hr c=>?_,fun i j vi vj hij hi hj=>?_⟩
 ·rw[zD a1];simp
 ·by_cases hk:s=k
  ·subst hk;rw[Nn Zo] at hr;rw[Nn l] at c;cases hr;cases c;exact ownsRow_setCell_other m (zC (b:=bp) m a1 (.inr q)) _
  ·rw[Ns hk] at hr c;exact(u k v (Ne.symm hk) c).2.1 r hr
 ·by_cases t:s=i
  ·subst t;rw[Nn l] at hi;rw[Ns hij] at hj;cases hi;rcases(u j vj (Ne.symm hij) hj).2.2 with x|x
   ·right;rw[x];simp[Value.ownBlock]
   ·right;exact Ne.symm x
  ·rw[Ns t] at hi
   by_cases a0:s=j
   ·subst a0;rw[Nn l] at hj;cases hj;exact(u i vi (Ne.symm t) hi).2.2
   ·rw[Ns a0] at hj;exact h4 i j vi vj hij hi hj
theorem OwnRows.asRows(h:OwnRows enc e eS w B bp rows)(t:w.heap.size<=C):aaB enc w C (Q bp rows.length rows.length) rows:=by
 obtain⟨vs,h1,h2,h3,u⟩:=h;have hb:=lt_of_block h1;refine⟨vs,⟨_,rows.length,by rw[h2],by omega,fun k x hk=>⟨bp,0,rfl,by omega,zA h1 (by simpa using hk)⟩⟩,h2,fun k rv row hk hr=>?_⟩;have ho:=h3 k row rv hr hk;rcases ho.2 with⟨rfl,d⟩|⟨g,i,cur,rfl,hg,m,c,r,q,l⟩
 ·exact⟨none,0,by rw[d],by omega,fun j x hj=>by rw[Nz d] at hj;simp at hj⟩
 ·refine⟨_,i,rfl,c,fun j x hj=>⟨g,0,rfl,by have:=lt_of_block m;omega,?_⟩⟩;have o:=(Jh.1 hj).1;rw[Ng];exact(ho.cellAt j Zo).trans (by simp[hj])
end
theorem rY{α:Type}{enc:α->Value}{e:TypeId}{B:Nat}{v:Value}{xs:List α}(ho:w.ownsRow B e 1 v xs.length (xs.map enc))(q:w.heap.size<=C):xp enc w C v xs:=by
 rcases ho.2 with⟨rfl,d⟩|⟨g,h,cur,rfl,hg,k,c,o,m,i⟩
 ·exact⟨none,0,by rw[d],by omega,fun j x hj=>by rw[Nz d] at hj;simp at hj⟩
 ·refine⟨_,h,rfl,c,fun j x hj=>⟨g,0,rfl,by have:=lt_of_block k;omega,?_⟩⟩;have l:=(Jh.1 hj).1;rw[Ng];exact(ho.cellAt j Zo).trans (by simp[hj])
end Go.Proofs.Ytojclalkfhoooaa
