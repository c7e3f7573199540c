/- Part of a proof. -/
import Derived.Test.YtoahcpkibpomcaaGreatGZt0
set_option linter.all false
set_option maxHeartbeats 16000000
set_option maxRecDepth 100000
namespace Go.Proofs.YtoahcpkibpomcaaGreat
open Go.RowKit
variable {w:World}{xs:List Int}{ac i k on vb:Nat}{dp g j nx oa ob x:Int}{K:MK}{m:Mach}{c:MS->MS}{o:IOp}{l:List IOp}{bl:List IBlk}{t:Slv}{call:gO}{M:MS}{ra:Option Addr}
theorem Tryz.info_u16:(Tryz.prog.info? 43).map (fun i=>(i.zero,i.size,i.bytes))=some (some (O 0),1,2):=by kernel_rfl
theorem ms{S:Nat}{av:Value}{n:Nat}{xs:List Nat}(h:w.ownsRow S 43 1 av n (xs.map vL))(j:xs.length=n)(i:∀x∈xs,x<65536):wV w w.heap.size av xs:=by
 subst j;obtain⟨a,c,rfl⟩:=zG h;have hl:=zm h;refine⟨a,c,rfl,hl.1,by omega,fun k x hk=>?_⟩;have l:=(Jh.1 hk).1;obtain⟨g,m,e,hg,d⟩:=h.form Zo;cases e;refine⟨g,0,rfl,d,?_,i x (Ji hk)⟩;rw[Nk,Ng];exact(h.cellAt k Zo).trans (by rw[Jr,hk];rfl)
def uT (v:Int->Nat)(xs:List Int)(k:Nat):List Nat:=(xs.take k).map v
theorem qH{v:Int->Nat}(h:xs[k]? =some x):uT v xs (k+1)=uT v xs k++ [v x]:=by unfold uT;rw[Nh,h,Js];rfl
theorem pA{v:Int->Nat}(h:k<=xs.length):(uT v xs k).length=k:=by unfold uT;rw[Nr,Oc];omega
theorem r8{v:Int->Nat}:uT v xs xs.length=xs.map v:=by unfold uT;rw[Nl]
theorem qstep_2{ov:Value}(h:MachQ w K m none dp ov)(b5:on<65536)(ab:Option Addr)(an ac:Nat){n:Nat}{v:Int->Nat}(hv:dA w vb n v)(a7:Int)(a5:0<=oa/\oa.toNat<K.E.p.data.length):
 I 103 #[F K.pm,.agg #[U 2,U g,U oa,U ob,O on,.slice ab an ac],T vb n n,U a7] w (vh K w (.ok ((((K.E.p.data.getD oa.toNat ⟨0,0,0⟩).addr)+on)%65536) m)):=by
 have b4:=hv.2 oa;have b3:=hv.2 ob;have y:=zI (W:=w) (o:=G #[U 2,U g,U oa,U ob,O on,.slice ab an ac] 76) rfl;have a4:Y w (w.alloc (G #[U 2,U g,U oa,U ob,O on,.slice ab an ac] 76)):=(Below.refl _ _).alloc (Je _) _;have H:=Ja h;have HV:=Ja hv;have t:=Ja (Jb y a4);clear h hv y a4;generalize u:v oa=xa at *;generalize a2:v ob=xb at *;have HX:=Ja (Jb u a2);clear u a2;go_enter Tryz.func103,Tryz.ntmps103;go_upto_region 4 with(go_at_call 52;go_must (refine(aaK 2 _).mono ?_;rintro e w1 ⟨he,d⟩;obtain rfl:e=.returned (.agg #[.bool true,.bool true,.bool false,.bool false,.bool true]):=he))
 have l:Y w (w1.alloc (G #[.bool true,.bool true,.bool false,.bool false,.bool true] 120)):=(t.out.2.trans (d.mono t.out.2.size)).alloc (Jn t.out.2.size d.size) _;have c:=zB (o:=(G #[.bool true,.bool true,.bool false,.bool false,.bool true] 120)) (zH d t.out.1 (lt_of_block t.out.1));have j:=zI (W:=w1) (o:=(G #[.bool true,.bool true,.bool false,.bool false,.bool true] 120)) rfl;have b8:w1.heap.size≠w.heap.size:=by have:=d.size;simp at this;omega
 generalize w1.alloc (G #[.bool true,.bool true,.bool false,.bool false,.bool true] 120)=W2 at *;generalize w1.heap.size=bs at *;have a1:=H.out.keep l;have a6:=HV.out.below (zH l HV.out.1 (lt_of_block HV.out.1));have p0:=K0 c;have p2:=K2 c;have p3:=K3 c;have p4:=K4 c;have p5:=K5 c;have s2:=K2 j;have s3:=K3 j;have b2:=lt_of_block c;have b1:=lt_of_block j;have HM:=Ja a1;have HF:=Ja (FrmQ.ofBelow l (Qd H.out.size));have b0:=a1.lt;clear l c j d t a1 a6;obtain⟨k,rfl⟩:∃k:Nat,oa=(k:Int):=⟨oa.toNat,by omega⟩
 have a3:k<K.E.p.data.length:=Zo;have b6:(k:Int)<K.E.p.data.length:=Zo;have i:=HM.out.prog.data;obtain⟨da,dc,a0,_,_⟩:=i.form;rw[a0] at i;obtain⟨x,hx⟩:∃x,K.E.p.data[k]? =some x:=⟨_,Jd a3⟩
 obtain⟨b,oo,rfl,_,_,b7,_,_,u,_⟩:=i.get hx;have c4:=HM.out.c4;rw[a0] at c4;have EE:=Ja (show(K.E.p.data.getD ((k:Nat):Int).toNat ⟨0,0,0⟩).addr=x.addr by rw[Ni,Jj,hx];rfl);clear a5 a3 i a0 hx;go_upto_region 16 with fail;go_quiet (fail);go_wp2;go_ret;rw[EE.out];have e:Ending.returned (O (IntKind.u16.wrap ((x.addr:Int)+(on:Int))))=.returned (O (((x.addr+on)%65536:Nat):Int)):=zh (by rw[xY];omega);exact e ▸ vh.ok (HM.out.drewN _) HF.out.drewN Zo
theorem qstep_24{ov:Value}(h:MachQ w K m none dp ov)(d0:on<65536)(ab:Option Addr)(an ac:Nat){n:Nat}{v:Int->Nat}(hv:dA w vb n v)(b3:Int):
 I 103 #[F K.pm,.agg #[U 24,U j,U oa,U ob,O on,.slice ab an ac],T vb n n,U b3] w (vh K w (uq K.E m)):=by
 have c9:=hv.2 oa;have c8:=hv.2 ob;have a0:=zI (W:=w) (o:=G #[U 24,U j,U oa,U ob,O on,.slice ab an ac] 76) rfl;have a5:Y w (w.alloc (G #[U 24,U j,U oa,U ob,O on,.slice ab an ac] 76)):=(Below.refl _ _).alloc (Je _) _;have H:=Ja h;have HV:=Ja hv;have H0:=Ja (Jb a0 a5);clear h hv a0 a5;generalize a3:v oa=xa at *;generalize a2:v ob=xb at *;have HX:=Ja (Jb a3 a2);clear a3 a2;go_enter Tryz.func103,Tryz.ntmps103;go_upto_region 4 with(go_at_call 52;go_must (refine(aaK 24 _).mono ?_;rintro e w1 ⟨he,i⟩;obtain rfl:e=.returned (.agg #[.bool true,.bool true,.bool false,.bool false,.bool true]):=he))
 have u:Y w (w1.alloc (G #[.bool true,.bool true,.bool false,.bool false,.bool true] 120)):=(H0.out.2.trans (i.mono H0.out.2.size)).alloc (Jn H0.out.2.size i.size) _;have c:=zB (o:=(G #[.bool true,.bool true,.bool false,.bool false,.bool true] 120)) (zH i H0.out.1 (lt_of_block H0.out.1));have t:=zI (W:=w1) (o:=(G #[.bool true,.bool true,.bool false,.bool false,.bool true] 120)) rfl;have d3:w1.heap.size≠w.heap.size:=by have:=i.size;simp at this;omega
 generalize w1.alloc (G #[.bool true,.bool true,.bool false,.bool false,.bool true] 120)=W2 at *;generalize w1.heap.size=bs at *;have a1:=H.out.keep u;have b0:=HV.out.below (zH u HV.out.1 (lt_of_block HV.out.1));have p0:=K0 c;have p2:=K2 c;have p3:=K3 c;have p4:=K4 c;have p5:=K5 c;have s2:=K2 t;have s3:=K3 t;have c4:=lt_of_block c;have c3:=lt_of_block t;have y:=Ja a1;have HF:=Ja (FrmQ.ofBelow u (Qd H.out.size));have c2:=a1.lt;clear u c t i H0 a1 b0;have c7:=y.out.c7;have c17:=y.out.c17;have g:=y.out.inn;obtain⟨ia,ic,k,d2,d1⟩:=g.form;rw[k] at c7 g;have b1:=y.out.inp
 by_cases d:m.inputs<K.E.inn.length
 ·obtain⟨x,hx⟩:∃x,K.E.inn[m.inputs]? =some x:=⟨_,Jd d⟩
  obtain⟨b,o,rfl,a4,l,a7⟩:=g.get hx;rw[Nk] at l;have EE:=Ja (show uq K.E m=.ok x {m with inputs:=m.inputs+1 } by unfold uq;rw[if_pos d,Jj,hx];rfl);have hJ:(m.inputs:Int)<K.E.inn.length:=Zo;have b4:=Ja d;have b7:=Ja a4;have a6:K.E.inn.length<=9223372036854775807:=Zo;have b5:=Ja k;clear g d hx b1 k a4;go_upto_region 34 with fail
  go_cut [123] (fun v wx=>v=.bool true/\∃n,wx=W2.drewN n)
  case first=>
   go_quiet (fail);go_wp2;go_meet;exact⟨rfl,_,rfl⟩
  case rest=>
   obtain⟨rfl,n2,rfl⟩:=hcut;have hm:=y.out.drewN n2;have h1:=hm.put 17 (U ((m.inputs:Int)+1)) (m':= {m with inputs:=m.inputs+1 }) (tr':=none) (dp':=dp) rfl rfl rfl hm.obd hm.fuel b4.out hm.pol;have hF:FrmQ K.B W2 ((W2.drewN n2).setCell ⟨K.pm,17,none⟩ (U ((m.inputs:Int)+1))):=(FrmQ.refl _ _).drewN.trans (hm.frm 17 _);have d7:(W2.drewN n2).cell? ⟨K.pm,7,none⟩=_:=c7;have d5:(W2.drewN n2).cell? ⟨K.pm,17,none⟩=_:=c17;have c0:N (W2.drewN n2) K.pm 17:=hm.free 17;have b9:=hm.lt;have e7:=h1.c7;rw[b5.out] at e7;have d4:=h1.c17;have b8:=h1.lt;have b2:=(hF.below.cell (p:=⟨b,o+m.inputs,none⟩) b7.out).trans l;have c5:IntKind.i64.wrap (((m.inputs+1:Nat):Int)-1)=(m.inputs:Int):=by rw[show(((m.inputs+1:Nat):Int)-1)=(m.inputs:Int) by omega];exact Om _ Zo
   have H1:=Ja h1;have b6:=Ja (HF.out.trans hF);clear h1 hF c7 c17 hm;go_upto_region 36 with fail;go_quiet (fail);go_wp2;go_ret;rw[EE.out];exact vh.ok (H1.out.drewN _) b6.out.drewN a7
 ·have EE:=Ja (show uq K.E m=.ok 0 m by unfold uq;rw[if_neg d]);have hJ:¬(m.inputs:Int)<K.E.inn.length:=Zo;have a6:K.E.inn.length<=9223372036854775807:=Zo;clear d g k;go_upto_region 34 with fail
  go_cut [123] (fun v wx=>v=.bool false/\∃n,wx=W2.drewN n)
  case first=>
   go_quiet (fail);go_wp2;go_meet;exact⟨rfl,_,rfl⟩
  case rest=>
   obtain⟨rfl,n2,rfl⟩:=hcut;go_wp2;go_ret;rw[EE.out];exact vh.ok (x:=0) (y.out.drewN _) HF.out.drewN Zd
theorem MachQ.setO{w2:World}{ov c:Value}{o:Obj}{p x:Nat}(h:MachQ w K m none dp ov)(hg:(w.alloc o).grownBy w2 ov.ownBlock)
 (d:w2.ownsRow K.B 117 2 c (m.out.length+1) (qO m.out++ [vL p,vL x])) (hp:p<65536) (l:x<65536) (hb:m.out.length+1+m.fuel.toNat<=4000000):
 MachQ (w2.setCell ⟨K.pm,13,none⟩ c) K {m with out:=m.out++ [(p,x)]} none dp c/\FrmQ K.B w (w2.setCell ⟨K.pm,13,none⟩ c):=by
 have n1:=zC h.out h.blk (.inr Zd);have n2:=zC h.out h.ram (.inr Zd);have b2:=zL hg (zB h.blk) n1;have r2:=zL hg (zB h.ram) n2;have hB:=h.size
 have j:FrmQ K.B w w2:=by
  refine⟨((Below.refl _ _).alloc (Qd hB) o).grown hg Zt (fun k hk=>(h.out.lt k hk).1),fun k o' hk hs=>?_⟩;refine zL hg (zB hk) ?_;intro e;obtain⟨_,h2⟩:=h.out;rcases h2 with⟨hv,_⟩|⟨g,u,cur,hv,_,t,_⟩
  ·rw[hv] at e;simp[Value.ownBlock] at e
  ·rw[hv] at e;simp only[Value.ownBlock,Option.some.injEq] at e;subst e;rw[t] at hk;have:=Nt hk;subst this;exact hs.2.1 rfl
 have i:FrmQ K.B w (w2.setCell ⟨K.pm,13,none⟩ c):=j.set b2 h.gpm (by simp[di]) _;refine⟨⟨?_,zR r2 (by simpa using h.ne),h.rlen,h.rlt,?_,?_,?_,h.fuel,h.inp,h.pol,h.gpm,h.grb,h.prog.below i.below,h.inn.below zr i.below,h.irq.below xQ i.below⟩,i⟩
 ·rw[zD b2];rfl
 ·have e1:(m.out++ [(p,x)]).length=m.out.length+1:=by simp
  show(w2.setCell ⟨K.pm,13,none⟩ c).ownsRow K.B 117 2 c (m.out++ [(p,x)]).length (qO (m.out++ [(p,x)]))
  rw[e1,kF];exact ownsRow_setCell_other d (by intro e;exact zC d b2 (.inr Zd) (by simpa using e)) _
 ·intro q hq;rcases Jl.1 hq with hq|hq
  ·exact h.olt q hq
  ·simp at hq;subst hq;exact⟨hp,l⟩
 ·show(m.out++ [(p,x)]).length+m.fuel.toNat<=4000000
  simp;omega
theorem qstep_25{ov:Value}(h:MachQ w K m none dp ov)(b8:on<65536)(ab:Option Addr)(an ac:Nat){n:Nat}{v:Int->Nat}(hv:dA w vb n v)(d1:0<=oa/\oa.toNat<n)(c3:Int)(b9:m.out.length+1+m.fuel.toNat<=4000000):
 I 103 #[F K.pm,.agg #[U 25,U j,U oa,U ob,O on,.slice ab an ac],T vb n n,U c3] w (vh K w (adS m on (v oa))):=by
 have b7:=hv.2 oa;have d0:=hv.2 ob;obtain⟨ka,rfl⟩:∃ka:Nat,oa=(ka:Int):=⟨oa.toNat,by omega⟩
 have b3:ka<n:=Zo;have d3:(ka:Int)<(n:Int):=Zo;have a1:=zI (W:=w) (o:=G #[U 25,U j,U ka,U ob,O on,.slice ab an ac] 76) rfl;have a7:Y w (w.alloc (G #[U 25,U j,U ka,U ob,O on,.slice ab an ac] 76)):=(Below.refl _ _).alloc (Je _) _;have H:=Ja h;have HV:=Ja hv;have y:=Ja (Jb a1 a7);clear h hv a1 a7;generalize a6:v (ka:Int)=xa at *;generalize a5:v ob=xb at *;have HX:=Ja (Jb a6 a5);clear a6 a5;go_enter Tryz.func103,Tryz.ntmps103;go_upto_region 4 with(go_at_call 52;go_must (refine(aaK 25 _).mono ?_;rintro e w1 ⟨he,i⟩;obtain rfl:e=.returned (.agg #[.bool true,.bool false,.bool true,.bool false,.bool true]):=he))
 have l:Y w (w1.alloc (G #[.bool true,.bool false,.bool true,.bool false,.bool true] 120)):=(y.out.2.trans (i.mono y.out.2.size)).alloc (Jn y.out.2.size i.size) _;have c:=zB (o:=(G #[.bool true,.bool false,.bool true,.bool false,.bool true] 120)) (zH i y.out.1 (lt_of_block y.out.1));have k:=zI (W:=w1) (o:=(G #[.bool true,.bool false,.bool true,.bool false,.bool true] 120)) rfl;have d6:w1.heap.size≠w.heap.size:=by have:=i.size;simp at this;omega
 generalize w1.alloc (G #[.bool true,.bool false,.bool true,.bool false,.bool true] 120)=W2 at *;generalize w1.heap.size=bs at *;have a2:=H.out.keep l;have a0:=HV.out.below (zH l HV.out.1 (lt_of_block HV.out.1));have p0:=K0 c;have p2:=K2 c;have p3:=K3 c;have p4:=K4 c;have p5:=K5 c;have s2:=K2 k;have s3:=K3 k;have c9:=lt_of_block c;have c8:=lt_of_block k;have ca:A W2 vb ka (O xa):=by rw[<-HX.out.1];exact a0.cell b3
 have c7:=lt_of_block a0.1;have u:=Ja a2;have HF:=Ja (FrmQ.ofBelow l (Qd H.out.size));have a4:=a2.lt;clear l c k i y a2 a0;obtain⟨ii,c0,b2,b1,b0⟩:=info_parts Tryz.info_event;have c13:=u.out.c13;have c2:=u.out.free 13;have d:=u.out.out;have nb:=zC d u.out.blk (.inr Zd);obtain⟨oa',oc',rfl⟩:=zG d;have b6:=Ja d;have d2:m.out.length<=4000000:=Zo;have b5:∀o,A (W2.alloc o) K.pm 13 (.slice oa' m.out.length oc'):=fun o=>(Oo (w:=W2) (Below.heap_alloc _ _ _ a4)).trans c13
 have b4:∀o,N (W2.alloc o) K.pm 13:=fun o=>(Qm (w:=W2) (Below.heap_alloc _ _ _ a4)).trans c2
 have d5:K.B<W2.heap.size:=u.out.size;clear d;go_upto_region 38 with fail
 go_region_law (first|(refine step_append_lies _ (by rfl) (.tmp 153) (.tmp 158) _ (by rfl) K.B 117 ii (.agg #[O 0,O 0]) 2 4 Tryz.underlying53 c0 b2 b1 b0 rfl Zo (.slice oa' m.out.length oc') m.out.length (qO m.out) (by rfl) ((b6.out.alloc _).drew) ⟨W2.heap.size,0,none⟩ 1 1 [O on,O xa] (by rfl) (by rfl) (Oi (cs:=#[O on,O xa]) (t:=117) (fr:=(0,0)) (heap_alloc_new W2 _)) (by simp[Value.oneCell']) Zo (by unfold maxLen;omega) Zo Zt (W2.heap.size+1) Zs ?_;intro gg c5 w3 a3 g d4 c4;have d8:=(g.cell_far ⟨K.pm,13,none⟩ Zt (Ne.symm nb)).trans (b5 _);have d7:=(g.frozen_far ⟨K.pm,13,none⟩ Zt (Ne.symm nb)).trans (b4 _)))
 all_goals go_wp2_with fail
 all_goals go_ret
 all_goals (
  have hO:=u.out.setO (p:=on) (x:=xa) (xN g) (by simpa[vL] using a3) b8 b7 b9
  exact vh.ok (x:=0) hO.1 (HF.out.trans hO.2) Zd)
theorem bK{S n:Nat}{ty:TypeId}{sz:Nat}{av:Value}{xs:List Value}(h:w.ownsRow S ty sz av n xs){b:Nat}{o:Nat}{n' c:Nat}(e:av=.slice (some ⟨b,o,none⟩) n' c):S<=b:=by
 obtain⟨_,h2⟩:=h;rcases h2 with⟨hv,_⟩|⟨g,d,cur,hv,hg,i,_⟩
 ·rw[hv] at e;cases e
 ·rw[hv] at e;cases e;exact hg
def zeroR:Res Nat->Res Nat
 |.ok _ m'=> .ok 0 m'
 |.trap k i m'=> .trap k i m'
def cX (K:MK)(r:Nat):Prop:=
 ∀(w:World) (m:Mach) (dp:Int) (ov av:Value) (f:Int) (args:List Nat),MachQ w K m none dp ov->0<=f->f.toNat<K.E.p.funcs.length->wV w w.heap.size av args->(args.length:Int)=K.E.p.args.getD f.toNat 0->(∀b o n c,av=.slice (some ⟨b,o,none⟩) n c->args≠ []->b≠K.pm)->
  I 47 #[F K.pm,U f,av,U (101-(r:Int))] w (vh K w (xW K.E r f args m))
theorem poll_q{ov:Value}(h:MachQ w K m none dp ov)(a7:OkProg K.E.p){r:Nat}(hr:r<=100)(hC:cX K r):
 I 128 #[F K.pm,U (100-(r:Int))] w (et K w (tY K.E (xW K.E r) m)):=by
 have c8:=h.c8;have c18:=h.c18;have t:=h.irq;obtain⟨ia,ic,a2,d2,d1⟩:=t.form;rw[a2] at c8 t;have b6:=h.pol;have b5:=h.lt;have H:=Ja h;have c0:=Ja a7;have HC:=Ja hC;clear h a7 hC
 by_cases l:m.polls<K.E.irq.length
 ·obtain⟨x,hx⟩:∃x,K.E.irq[m.polls]? =some x:=⟨_,Jd l⟩
  obtain⟨b,o,rfl,b0,j,c9⟩:=t.get hx;rw[Nk] at j;have hg:K.E.irq.getD m.polls 0=x:=by rw[Jj,hx];rfl
  have hJ:¬(K.E.irq.length:Int)<=(m.polls:Int):=Zo;have d4:(m.polls:Int)<K.E.irq.length:=Zo;have b3:K.E.irq.length<=9223372036854775807:=Zo;have u:=Ja l;have d5:=Ja b0;have HG:=Ja hg;clear t l hx b6 a2 b0 hg;go_enter Tryz.func128,Tryz.ntmps128;go_upto_region 0 with fail
  go_cut [16] (fun v wx=>v=.bool false/\∃n,wx=w.drewN n)
  case first=>
   go_quiet (fail);go_wp2;go_meet;exact⟨rfl,_,rfl⟩
  case rest=>
   obtain⟨rfl,n,rfl⟩:=hcut;have H1:=Ja (H.out.drewN n);have c2:=Ja ((FrmQ.refl K.B w).drewN (n:=n));have d8:(w.drewN n).cell? ⟨K.pm,8,none⟩=_:=c8;have b2:(w.drewN n).cell? ⟨K.pm,18,none⟩=_:=c18;have dc:(w.drewN n).cell? ⟨b,o+m.polls,none⟩=_:=j;have c7:=H1.out.lt;clear c8 c18 j b5;generalize w.drewN n=W1 at *;go_upto_region 1 with fail
   go_cut [4] (fun v wx=>v=.int .u8 (x:Int)/\∃n,wx=W1.drewN n)
   case first=>
    go_quiet (fail);go_wp2;go_meet;exact⟨rfl,_,rfl⟩
   case rest=>
    obtain⟨rfl,n2,rfl⟩:=hcut;have hm:=H1.out.drewN n2;have h2:=hm.put 18 (U ((m.polls:Int)+1)) (m':= {m with polls:=m.polls+1 }) (tr':=none) (dp':=dp) rfl rfl rfl hm.obd hm.fuel hm.inp u.out;have b9:(W1.drewN n2).cell? ⟨K.pm,18,none⟩=_:=b2;have b4:N (W1.drewN n2) K.pm 18:=hm.free 18;have c5:=hm.lt;have a0:=Ja (c2.out.trans ((FrmQ.refl _ _).drewN.trans (hm.frm 18 (U ((m.polls:Int)+1)))));have H2:=Ja h2;clear h2 hm d8 b2 dc;go_upto_region 3 with fail;generalize b7:(W1.drewN n2).setCell ⟨K.pm,18,none⟩ (U ((m.polls:Int)+1))=W2 at *;have f3:=H2.out.c3;have c4:=H2.out.lt;have a5:(x≠0/\K.E.p.handler≠-1)∨(x=0)∨(x≠0/\K.E.p.handler=-1):=Zo;clear b7 b9 b4;rcases a5 with⟨g,hh⟩|g|⟨g,hh⟩
    ·obtain⟨g1,g2,g3⟩:=c0.out.hnd hh;have hX:((x:Int)==0)=false:=Ze;have d:=HC.out W2 {m with polls:=m.polls+1 } dp ov (L) K.E.p.handler [] H2.out g1 g2 yN.nil (by rw[g3];rfl) (by intro b o n c e;cases e);obtain⟨R,hR⟩:∃R,xW K.E r K.E.p.handler [] {m with polls:=m.polls+1 }=R:=⟨_,rfl⟩
     rw[hR] at d;have hd:(100-(r:Int))+1=101-(r:Int):=Zo;have EE:=Ja (show tY K.E (xW K.E r) m=zeroR R by unfold tY;rw[if_pos u.out,HG.out,if_pos ⟨g,hh⟩,hR];cases R<;>rfl);have a6:(x:Int)≠0:=Zo;clear g hh hR g2 g3
     cases R with
     |ok y m'=>
      have a4:=Ja d;clear d;go_wp2_with (go_at_call 47;go_must (refine a4.out.mono ?_;rintro e w3 ⟨he,⟨b1,ov3,a1⟩,a3,d0⟩;obtain rfl:e=.returned (O y):=he))
      go_end0
      rw[EE.out]
      exact et.ok (x:=0) a1 (a0.out.trans a3) Zd
     |trap k i m'=>
      have a4:=Ja d;clear d;go_wp2_with (go_at_call 47;go_must (refine a4.out.mono ?_;rintro e w3 ⟨he,⟨b1,ov3,b8,a1⟩,a3⟩;obtain rfl:e=.returned (O 0):=he))
      go_end0
      rw[EE.out];exact⟨rfl,⟨b1,ov3,b8,a1⟩,a0.out.trans a3⟩
    ·have hX:((x:Int)==0)=true:=by rw[beq_iff_eq];omega
     have EE:=Ja (show tY K.E (xW K.E r) m=.ok 0 {m with polls:=m.polls+1 } by unfold tY;rw[if_pos u.out,HG.out,if_neg (by rintro⟨h,_⟩;exact h g)]);have a6:(x:Int)=0:=Zo;clear g;go_wp2
     go_end0
     rw[EE.out];exact et.ok (x:=0) H2.out a0.out Zd
    ·have hX:((x:Int)==0)=false:=Ze;have EE:=Ja (show tY K.E (xW K.E r) m=.ok 0 {m with polls:=m.polls+1 } by unfold tY;rw[if_pos u.out,HG.out,if_neg (by rintro⟨_,h⟩;exact h hh)]);have a6:(x:Int)≠0:=Zo;have d3:¬(0:Int)<=K.E.p.handler:=Zo;clear g;go_wp2
     go_end0
     rw[EE.out];exact et.ok (x:=0) H2.out a0.out Zd
 ·have EE:=Ja (show tY K.E (xW K.E r) m=.ok 0 m by unfold tY;rw[if_neg l]);have hJ:(K.E.irq.length:Int)<=(m.polls:Int):=Zo;have b3:K.E.irq.length<=9223372036854775807:=Zo;clear l t a2;go_enter Tryz.func128,Tryz.ntmps128;go_upto_region 0 with fail
  go_cut [16] (fun v wx=>v=.bool true/\∃n,wx=w.drewN n)
  case first=>
   go_quiet (fail);go_wp2;go_meet;exact⟨rfl,_,rfl⟩
  case rest=>
   obtain⟨rfl,n,rfl⟩:=hcut;go_wp2
   go_end0
   rw[EE.out];exact et.ok (x:=0) (H.out.drewN n) (FrmQ.refl _ _).drewN Zd
theorem qstep_27{ov:Value}(h:MachQ w K m none dp ov)(b8:on<65536)(ab:Option Addr)(an ac:Nat){n:Nat}{v:Int->Nat}(hv:dA w vb n v)(b0:Hid (OkProg K.E.p)){r:Nat}(hr:r<=100)(hC:Hid (cX K r)):
 I 103 #[F K.pm,.agg #[U 27,U g,U oa,U ob,O on,.slice ab an ac],T vb n n,U (100-(r:Int))] w (vh K w (tY K.E (xW K.E r) m)):=by
 have b7:=hv.2 oa;have b6:=hv.2 ob;have u:=zI (W:=w) (o:=G #[U 27,U g,U oa,U ob,O on,.slice ab an ac] 76) rfl;have a4:Y w (w.alloc (G #[U 27,U g,U oa,U ob,O on,.slice ab an ac] 76)):=(Below.refl _ _).alloc (Je _) _;have H:=Ja h;have HV:=Ja hv;have t:=Ja (Jb u a4);clear h hv u a4;generalize a3:v oa=xa at *;generalize a2:v ob=xb at *;have HX:=Ja (Jb a3 a2);clear a3 a2;go_enter Tryz.func103,Tryz.ntmps103;go_upto_region 4 with(go_at_call 52;go_must (refine(aaK 27 _).mono ?_;rintro e w1 ⟨he,d⟩;obtain rfl:e=.returned (.agg #[.bool true,.bool false,.bool false,.bool false,.bool false]):=he))
 have l:Y w (w1.alloc (G #[.bool true,.bool false,.bool false,.bool false,.bool false] 120)):=(t.out.2.trans (d.mono t.out.2.size)).alloc (Jn t.out.2.size d.size) _;have c:=zB (o:=(G #[.bool true,.bool false,.bool false,.bool false,.bool false] 120)) (zH d t.out.1 (lt_of_block t.out.1));have j:=zI (W:=w1) (o:=(G #[.bool true,.bool false,.bool false,.bool false,.bool false] 120)) rfl;have b9:w1.heap.size≠w.heap.size:=by have:=d.size;simp at this;omega
 generalize w1.alloc (G #[.bool true,.bool false,.bool false,.bool false,.bool false] 120)=W2 at *;generalize w1.heap.size=bs at *;have a1:=H.out.keep l;have a7:=HV.out.below (zH l HV.out.1 (lt_of_block HV.out.1));have p0:=K0 c;have p2:=K2 c;have p3:=K3 c;have p4:=K4 c;have p5:=K5 c;have s2:=K2 j;have s3:=K3 j;have b4:=lt_of_block c;have b3:=lt_of_block j;have HM:=Ja a1;have HF:=Ja (FrmQ.ofBelow l (Qd H.out.size));have b2:=a1.lt;clear l c j d t a1 a7;obtain⟨R,hR⟩:∃R,tY K.E (xW K.E r) m=R:=⟨_,rfl⟩
 have hc:=poll_q HM.out b0.out hr hC.out;have EE:=Ja hR;rw[show tY K.E (xW K.E r) m=R from hR] at hc
 cases R with
 |ok x m'=>
  have HC:=Ja hc;have a6:x=0:=by exact lU EE.out
  clear hc hR;subst a6;go_wp2_with (go_at_call 128;go_must (refine HC.out.mono ?_;rintro e w3 ⟨he,⟨a5,ov3,y⟩,a0,b5⟩;subst he))
  go_ret;rw[EE.out]
  exact vh.ok (x:=0) y (HF.out.trans a0) Zd
 |trap k i m'=>
  have HC:=Ja hc;clear hc hR;go_wp2_with (go_at_call 128;go_must (refine HC.out.mono ?_;rintro e w3 ⟨he,⟨a5,ov3,b1,y⟩,a0⟩;subst he))
  go_ret;rw[EE.out];exact⟨rfl,⟨a5,ov3,b1,y⟩,HF.out.trans a0⟩
theorem qstep_26{ov:Value}(h:MachQ w K m none dp ov){a1:Int}(g2:on<65536)(ab:Option Addr)(ac:Nat){n:Nat}{v:Int->Nat}(hv:dA w vb n v)(a6:zY w w.heap.size (.slice ab xs.length ac) xs)(a7:∀x∈xs,0<=x/\x.toNat<n)(d7:xs.length<=65536){r:Nat}(hr:r<=100)(hC:cX K r)(c2:0<=oa/\oa.toNat<K.E.p.funcs.length/\(xs.length:Int)=K.E.p.args.getD oa.toNat 0):
 I 103 #[F K.pm,.agg #[U 26,U a1,U oa,U ob,O on,.slice ab xs.length ac],T vb n n,U (100-(r:Int))] w (vh K w (xW K.E r oa (xs.map v) m)):=by
 have g1:=hv.2 oa;have g0:=hv.2 ob;have b0:=zI (W:=w) (o:=G #[U 26,U a1,U oa,U ob,O on,.slice ab xs.length ac] 76) rfl;have c3:Y w (w.alloc (G #[U 26,U a1,U oa,U ob,O on,.slice ab xs.length ac] 76)):=(Below.refl _ _).alloc (Je _) _;have H:=Ja h;have HV:=Ja hv;have H0:=Ja (Jb b0 c3);clear h hv b0 c3;go_enter Tryz.func103,Tryz.ntmps103;go_upto_region 4 with(go_at_call 52;go_must (refine(aaK 26 _).mono ?_;rintro e w1 ⟨he,a0⟩;obtain rfl:e=.returned (.agg #[.bool true,.bool false,.bool false,.bool false,.bool false]):=he))
 have l:Y w (w1.alloc (G #[.bool true,.bool false,.bool false,.bool false,.bool false] 120)):=(H0.out.2.trans (a0.mono H0.out.2.size)).alloc (Jn H0.out.2.size a0.size) _;have g:=zB (o:=(G #[.bool true,.bool false,.bool false,.bool false,.bool false] 120)) (zH a0 H0.out.1 (lt_of_block H0.out.1));have a5:=zI (W:=w1) (o:=(G #[.bool true,.bool false,.bool false,.bool false,.bool false] 120)) rfl;have g6:w1.heap.size≠w.heap.size:=by have:=a0.size;simp at this;omega
 generalize w1.alloc (G #[.bool true,.bool false,.bool false,.bool false,.bool false] 120)=W2 at *;generalize w1.heap.size=bs at *;have b5:=H.out.keep l;have c0:=HV.out.below (zH l HV.out.1 (lt_of_block HV.out.1));have p0:=K0 g;have p2:=K2 g;have p3:=K3 g;have p4:=K4 g;have p5:=K5 g;have s2:=K2 a5;have s3:=K3 a5;have b9:=lt_of_block g;have f8:=lt_of_block a5;have HM:=Ja b5;have HF:=Ja (FrmQ.ofBelow l (Qd H.out.size));have f6:=b5.lt;have e3:=Ja (a6.below zO l);have e4:=Ja l.size;have c7:=Ja c0;have HC:=Ja hC;have b7:=Ja c2;have HU:=Ja a7;obtain⟨_,_,ef,g5,f2⟩:=a6.form;cases ef;clear l g a5 a0 H0 b5 c0;have e9:xs.length<=65536:=d7;have f4:=e4.out;clear a6 hC c2 a7;go_wp2
 go_loopw [12,13] (fun rv kv wx=>∃k:Nat,k<=xs.length/\kv=U k/\Hid (wx.ownsRow W2.heap.size 43 1 rv k ((uT v xs k).map vL)/\Y W2 wx)) (fun _ kv _=>xs.length-(intOf kv).toNat)
 case atStart=>exact⟨0,Jt _,rfl,Ja ⟨Jv _ _ _ _,Below.refl _ _⟩⟩
 case round=>
  obtain⟨k,hk,rfl,j⟩:=hrel;obtain⟨ra,rc,rfl⟩:=zG j.out.1;have b6:FrmQ K.B W2 wr:=FrmQ.ofBelow j.out.2 (Qd HM.out.size);have d5:=zV j.out.2 b9 p5;have d2:=zV j.out.2 b9 p2;have e7:=j.out.2.size;have e5:w.heap.size<wr.heap.size:=Zo
  by_cases a4:k<xs.length
  ·have d6:(k:Int)<xs.length:=Zo;have c9:=Ja a4;obtain⟨x,hx⟩:∃x,xs[k]? =some x:=⟨_,Jd a4⟩
   obtain⟨b,o,rfl,hb,b4,e6⟩:=e3.out.get hx;rw[Nk] at b4;have cx:=zV j.out.2 (show b<W2.heap.size by omega) b4;have f7:b<wr.heap.size:=Zo;have d9:=HU.out x (Ji hx);have e2:=Ja (qH (v:=v) hx);have g4:=pA (v:=v) (show k<=xs.length by omega);obtain⟨kx,rfl⟩:∃kx:Nat,x=(kx:Int):=⟨x.toNat,by omega⟩
   have b2:kx<n:=Zo;have f0:(kx:Int)<(n:Int):=Zo;have a2:=c7.out.kept b6;have cv:=a2.cell b2;have f5:=lt_of_block a2.1;have f9:=a2.2 (kx:Int);obtain⟨ii,e0,d4,d3,d1⟩:=info_parts Tryz.info_u16;clear hx b4 a4 a2 d9 hb b2;generalize v (kx:Int)=vx at *;go_wp2_with (at_builtin;go_must (refine wpList_append_lies _ rfl (.tmp 172) (.tmp 181) 48 rfl W2.heap.size 43 ii (O 0) 1 2 Tryz.underlying48 e0 d4 d3 d1 rfl Zd _ k ((uT v xs k).map vL) rfl (j.out.1.alloc _) ⟨wr.heap.size,0,none⟩ 1 1 [O vx] rfl rfl (Oi (cs:=#[O vx]) (zI Zs)) (by simp[Value.oneCell']) Zd (by unfold maxLen;omega) Zo Zt (wr.heap.size+1) Zs ?_;intro gq f3 w6 a3 u f1 e8;have c8:=Ja (Jb a3 u);clear a3 u))
   go_roundw
   case rel=>
    refine⟨k+1,c9.out,by go_num,Ja ⟨?_,(j.out.2.alloc Zo _).grown c8.out.2 Zt (fun k hk=>(j.out.1.lt k hk).1)⟩⟩;rw[e2.out,Js];exact c8.out.1
   case measure=>have:=c9.out;simp[intOf];omega
  ·obtain rfl:k=xs.length:=by omega
   have d6:¬(xs.length:Int)<xs.length:=Zo;have t:=j.out.1;rw[r8] at t;have c4:=HM.out.keep j.out.2;have d:=HC.out wr m dp ov (.slice ra xs.length rc) oa (xs.map v) c4 b7.out.1 b7.out.2.1 (ms t Zs (fun y hy=>by obtain⟨z,_,rfl⟩:=Nu.1 hy;exact c7.out.2 z)) (by simpa using b7.out.2.2) (fun b o n c e _=>by have:=bK t e;have:=HM.out.lt;omega);have d0:=Ja (HF.out.trans b6);have g3:(100-(r:Int))+1=101-(r:Int):=Zo;obtain⟨R,hR⟩:∃R,xW K.E r oa (xs.map v) m=R:=⟨_,rfl⟩
   rw[hR] at d;have EE:=Ja hR;clear t c4 a4 hR b6
   cases R with
   |ok x m'=>
    have b8:=Ja d;clear d;go_wp2_with (go_at_call 47;go_must (refine b8.out.mono ?_;rintro e w3 ⟨he,⟨c5,ov3,b1⟩,b3,d8⟩;obtain rfl:e=.returned (O x):=he))
    go_ret;rw[EE.out]
    exact vh.ok b1 (d0.out.trans b3) d8
   |trap k i m'=>
    have b8:=Ja d;clear d;go_wp2_with (go_at_call 47;go_must (refine b8.out.mono ?_;rintro e w3 ⟨he,⟨c5,ov3,e1,b1⟩,b3⟩;obtain rfl:e=.returned (O 0):=he))
    go_ret;rw[EE.out];exact⟨rfl,⟨c5,ov3,e1,b1⟩,d0.out.trans b3⟩
theorem cS.args{n:Nat}(h:cS n o):∀x∈o.args,0<=x/\x.toNat<n:=fun x hx=>h x (by unfold rR;simp[hx])
theorem step_q{ov:Value}(h:MachQ w K m none dp ov)(i:OkProg K.E.p)(ho:ak3 K.E.p o)(hb:I64 o.code/\I64 o.res/\I64 o.a/\I64 o.b/\o.n<65536){av:Value}(j:zY w w.heap.size av o.args)
 {n:Nat} {v:Int->Nat} (hv:dA w vb n v) (g:cS n o) {r:Nat} (hr:r<=100) (u:cX K r) (l:m.out.length+1+m.fuel.toNat<=4000000):
 I 103 #[F K.pm,aam o av,T vb n n,U (100-(r:Int))] w (vh K w (oV K.E (xW K.E r) o v m)):=by
 obtain⟨code,res,oa,ob,on,xs⟩:=o;obtain⟨⟨a2,a1⟩,h2,k⟩:=ho;obtain⟨_,a3,a0,y,c⟩:=hb;obtain⟨aa,ac,d,_,_⟩:=j.form;simp only at *;unfold aam;have t:code=1∨code=2∨code=3∨code=4∨(5<=code/\code<=17)∨code=18∨code=19∨code=20∨code=21∨code=22∨code=23∨code=24∨code=25∨code=26∨code=27:=Zo;rcases t with rfl|rfl|rfl|rfl|x|rfl|rfl|rfl|rfl|rfl|rfl|rfl|rfl|rfl|rfl
 ·subst d;exact qstep_1 h c _ _ _ hv _
 ·subst d;exact qstep_2 h c _ _ _ hv _ (h2 rfl)
 ·subst d;exact qstep_3 h c _ _ _ hv (g.a rfl) _
 ·subst d;exact qstep_4 h c _ _ _ hv (g.a rfl) _
 ·subst d
  have e:oV K.E (xW K.E r) ⟨code,res,oa,ob,on,xs⟩ v m=iy m code (v oa) (v ob):=by
   unfold oV mU;simp only;rw[if_neg Zo,if_neg Zo,if_neg Zo,if_neg Zo,if_neg Zo,if_neg Zo,if_neg Zo,if_neg Zo,if_neg Zo,if_neg Zo,if_neg Zo,if_neg Zo,if_neg Zo,if_neg Zo]
  rw[e]
  have hs:(zi code).a=true/\(zi code).b=true:=by
   rcases rJ code with⟨h,e⟩|⟨h,e⟩|⟨h,e⟩|⟨h,e⟩|⟨h,e⟩|⟨h,e⟩|⟨h,e⟩|⟨h,e⟩
   all_goals first|omega|(rw[e];exact⟨rfl,rfl⟩)
  exact qstep_ar h c _ _ _ hv (g.a hs.1) (g.b hs.2) _ x
 ·subst d;exact qstep_18 h c _ _ _ hv (g.a rfl) _
 ·subst d;exact qstep_19 h c _ _ _ hv (g.a rfl) _
 ·subst d;exact qstep_20 h c _ _ _ hv (g.a rfl) (g.b rfl) _
 ·subst d;exact qstep_21 h c _ _ _ hv (g.a rfl) (g.b rfl) _
 ·subst d;exact qstep_22 h c _ _ _ hv (g.a rfl) _ (Ja i.bank)
 ·subst d;exact qstep_23 h c _ _ _ hv (g.a rfl) _ (Ja i.bank)
 ·subst d;exact qstep_24 h c _ _ _ hv _
 ·subst d;exact qstep_25 h c _ _ _ hv (g.a rfl) _ l
 ·subst d;exact qstep_26 h c _ _ hv j g.args (by have:=i.argle oa.toNat;have:=(k rfl).2.2;omega) hr u (k rfl)
 ·subst d;exact qstep_27 h c _ _ _ hv (Ja i) hr (Ja u)
def agn:Int->List IBlk->Int
 |nx,[]=>nx
 |nx,b::bs=>agn (ah4 nx b) bs
theorem agK:∀(bs:List IBlk) (nx:Int),nx<=agn nx bs
 | [],_=>Og _
 |b::bs,nx=>Int.le_trans (ahl nx b) (agK bs _)
def TrO (b:IBlk)(lo hi:Int)(l:List IOp)(o:IOp):Prop:=
 o∈b.ops∨∃(nx:Int) (n P:Nat) (x:Int) (Q:Nat),o∈grp nx n P x Q/\(∀o'∈grp nx n P x Q,o'∈l)/\(lo<=nx/\nx<hi)/\(n<65536/\P<65536/\Q<65536)/\(x∈b.params∨∃o'∈b.ops,(o'.res=x/\0<=x)∨(gw o'=true/\o'.a=x))
theorem TrO.mono{b:IBlk}{lo hi c d:Int}{l':List IOp}(h:TrO b lo hi l o)(h1:c<=lo)(h2:hi<=d)(h3:∀x∈l,x∈l'):TrO b c d l' o:=by
 rcases h with h|⟨nx,n,P,x,Q,k,j,m,i,g⟩
 ·exact .inl h
 ·exact .inr ⟨nx,n,P,x,Q,k,fun o' ho=>h3 o' (j o' ho),⟨by omega,by omega⟩,i,g⟩
theorem ahZ{b:IBlk}{v:Int}(hv:v∈b.params∨∃o'∈b.ops,o'.res=v)(h:o∈ae4 nx v):TrO b nx (aeP nx v) (ae4 nx v) o:=by
 unfold ae4 at h
 by_cases c:0<=v
 ·rw[if_pos c] at h;have e1:ae4 nx v=grp nx (v%65536).toNat 254 v 255:=if_pos c;have e2:aeP nx v=nx+1:=if_pos c;rw[e1,e2];refine .inr ⟨nx,_,_,_,_,h,fun _ h=>h,⟨Og _,by omega⟩,⟨by omega,by decide,by decide⟩,?_⟩;rcases hv with hv|⟨o',h1,h2⟩
  ·exact .inl hv
  ·exact .inr ⟨o',h1,.inl ⟨h2,c⟩⟩
 ·rw[if_neg c] at h;cases h
theorem ag6 {b:IBlk}:∀(ps:List Int) (nx:Int) (o:IOp),(∀v∈ps,v∈b.params)->o∈aeO nx ps->TrO b nx (aeB nx ps) (aeO nx ps) o
 | [],_,_,_,h=>by cases h
 |v::ps,nx,o,hp,h=>by
  have h1:=afR nx v;rcases Jl.1 h with h|h
  ·exact(ahZ (.inl (hp v (.head _))) h).mono (Og _) (afu ps _) fun x hx=>Jz _ hx
  ·exact(ag6 ps _ o (fun x hx=>hp x (.tail _ hx)) h).mono h1 (Og _) fun x hx=>Qf _ hx
theorem mem_trOp{b:IBlk}{q:IOp}(hq:q∈b.ops)(h:o∈ak1 nx ac q):TrO b nx (akO nx q) (ak1 nx ac q) o:=by
 unfold ak1 at h;rcases Jl.1 h with h|h
 ·unfold afF at h
  by_cases c:gw q=true
  ·rw[if_pos c] at h;have e1:afF nx ac q=grp nx (ac%65536) 253 q.a 252:=if_pos c;have e2:aeU nx q=nx+1:=if_pos c;have h3:=afR (aeU nx q) q.res;refine .inr ⟨nx,_,_,_,_,h,fun x hx=>?_,⟨Og _,?_⟩,⟨Qj _ Zd,by decide,by decide⟩,.inr ⟨q,hq,.inr ⟨c,rfl⟩⟩⟩
   ·show x∈afF nx ac q++q::ae4 (aeU nx q) q.res
    rw[e1];exact Jz _ hx
   ·show nx<aeP (aeU nx q) q.res
    omega
  ·rw[if_neg c] at h;cases h
 ·rcases Jq.1 h with rfl|h
  ·exact .inl hq
  ·exact(ahZ (.inr ⟨q,hq,rfl⟩) h).mono (ahy nx q) (Og _) fun x hx=>Qf _ (.tail _ hx)
theorem ah9 {b:IBlk}:∀(os:List IOp) (nx:Int) (ac:Nat) (o:IOp),(∀q∈os,q∈b.ops)->o∈afn nx ac os->TrO b nx (agD nx os) (afn nx ac os) o
 | [],_,_,_,_,h=>by cases h
 |q::os,nx,ac,o,hp,h=>by
  rcases Jl.1 h with h|h
  ·exact(mem_trOp (hp q (.head _)) h).mono (Og _) (agy os _) fun x hx=>Jz _ hx
  ·exact(ah9 os _ _ o (fun x hx=>hp x (.tail _ hx)) h).mono (aiG nx q) (Og _) fun x hx=>Qf _ hx
theorem af3{b:IBlk}(h:o∈(ah0 nx ac b).ops):TrO b nx (ah4 nx b) (ah0 nx ac b).ops o:=by
 have h:o∈aeO nx b.params++afn (aeB nx b.params) ac b.ops:=h;rcases Jl.1 h with h|h
 ·exact(ag6 b.params nx o (fun _ h=>h) h).mono (Og _) (agy b.ops _) fun x hx=>Jz _ hx
 ·exact(ah9 b.ops _ ac o (fun _ h=>h) h).mono (afu b.params nx) (Og _) fun x hx=>Qf _ hx
theorem ahf:∀(bs:List IBlk) (nx:Int) (ac:Nat) (b':IBlk),b'∈i5 nx ac bs->∃(nx1:Int) (ac1:Nat) (b:IBlk),b∈bs/\b'=ah0 nx1 ac1 b/\nx<=nx1/\ah4 nx1 b<=agn nx bs
 | [],_,_,_,h=>by cases h
 |b::bs,nx,ac,b',h=>by
  rcases Jq.1 h with rfl|h
  ·exact⟨nx,ac,b,.head _,rfl,Og _,agK bs _⟩
  ·obtain⟨nx1,ac1,c,h1,h2,h3,h4⟩:=ahf bs _ _ b' h;exact⟨nx1,ac1,c,.tail _ h1,h2,Int.le_trans (ahl nx b) h3,h4⟩
theorem aii:∀(os:List IOp) (nx:Int) (ac:Nat),∀o∈os,o∈afn nx ac os
 | [],_,_,_,h=>by cases h
 |q::os,nx,ac,o,h=>by
  rcases Jq.1 h with rfl|h
  ·exact Jz _ (Qf _ (.head _))
  ·exact Qf _ (aii os _ _ o h)
theorem tr_has:∀(bs:List IBlk) (nx:Int) (ac:Nat) (b:IBlk),b∈bs->∃b'∈i5 nx ac bs,b'.params=b.params/\∀o∈b.ops,o∈b'.ops
 | [],_,_,_,h=>by cases h
 |c::bs,nx,ac,b,h=>by
  rcases Jq.1 h with rfl|h
  ·exact⟨_,.head _,rfl,fun o ho=>Qf _ (aii _ _ _ o ho)⟩
  ·obtain⟨b',h1,h2⟩:=tr_has bs (ah4 nx c) (aeJ ac c.ops) b h;exact⟨b',.tail _ h1,h2⟩
theorem agb:∀(bs:List IBlk) (nx:Int) (ac:Nat),(i5 nx ac bs).length=bs.length
 | [],_,_=>rfl
 |b::bs,nx,ac=>congrArg (·+1) (agb bs _ _)
theorem aji (nx v:Int):(ae4 nx v).length<=3:=by unfold ae4;split<;>first|exact Je _|exact Jt _
theorem ahd:∀(ps:List Int) (nx:Int),(aeO nx ps).length<=ps.length*3
 | [],_=>Je _
 |v::ps,nx=>by
  have h1:=ahd ps (aeP nx v);have h2:=aji nx v
  show(ae4 nx v++aeO (aeP nx v) ps).length<=(ps.length+1)*3
  rw[Jk];omega
theorem aid:∀(os:List IOp) (nx:Int) (ac:Nat),(afn nx ac os).length<=os.length*7
 | [],_,_=>Je _
 |q::os,nx,ac=>by
  have h1:=aid os (akO nx q) (af5 ac q);have h2:=aji (aeU nx q) q.res;have h3:(afF nx ac q).length<=3:=by unfold afF;split<;>first|exact Je _|exact Jt _
  show(afF nx ac q++q::ae4 (aeU nx q) q.res++afn (akO nx q) (af5 ac q) os).length<=(os.length+1)*7
  simp only[Jk,Nq];omega
theorem trBlk_at{bs:List IBlk}(hi:i<bs.length):(xz (i5 nx ac bs) (i:Int)).params=(xz bs (i:Int)).params:=by
 obtain⟨b,hb⟩:∃b,bs[i]? =some b:=⟨_,Jd hi⟩
 obtain⟨c,_,h⟩:=aga bs nx ac i b hb;unfold xz;rw[Ni,Jj,Jj,h,hb];rfl
theorem aeV{p:IProg}{n:Nat}(c:p.funcs[n]? =some bl){f:List IBlk}(h:(mc p n).funcs[i]? =some f):(i=n/\f=i5 (aaG bl) 0 bl)∨(i≠n/\p.funcs[i]? =some f):=by
 have hg:p.funcs.getD n []=bl:=by rw[Jj,c];rfl
 have h:(p.funcs.set n (i5 (aaG (p.funcs.getD n [])) 0 (p.funcs.getD n [])))[i]? =some f:=h;rw[hg] at h
 by_cases e:n=i
 ·subst e;rw[Nn (Jh.1 c).1] at h;exact .inl ⟨rfl,(Nt h).symm⟩
 ·rw[Ns e] at h;exact .inr ⟨fun x=>e x.symm,h⟩
theorem ae8 {p:IProg}{n:Nat}:(mc p n).funcs.length=p.funcs.length:=Nd
theorem ag0{p:IProg}{n:Nat}(h:ak3 p o):ak3 (mc p n) o:=⟨h.1,h.2.1,fun e=>by rw[ae8];exact h.2.2 e⟩
theorem okop_grp{p:IProg}{m P:Nat}{Q:Nat}:∀o∈grp nx m P x Q,ak3 p o/\o.args=[]:=by
 intro o ho
 have h:(o.code=1∨o.code=25)/\o.args=[]:=by
  simp only[grp,Jq,List.not_mem_nil,or_false] at ho;rcases ho with rfl|rfl|rfl
  ·exact⟨.inl rfl,rfl⟩
  ·exact⟨.inr rfl,rfl⟩
  ·exact⟨.inr rfl,rfl⟩
 exact⟨⟨⟨by omega,by omega⟩,fun e=>by omega,fun e=>by omega⟩,h.2⟩
section
variable {p:IProg} {n:Nat} {bl:List IBlk} (hn:p.funcs[n]? =some bl)
include hn
theorem ajL (d:OkProg p):OkProg (mc p n):=by
 refine⟨fun f hf b hb=>?_,fun i b bs hi=>?_,fun h=>?_,d.bank,d.argle,by rw[ae8];exact d.alen⟩
 ·obtain⟨i,hi⟩:=Ny hf;rcases aeV hn hi with⟨_,rfl⟩|⟨_,h1⟩
  ·obtain⟨nx,ac,c,h1,rfl,_,_⟩:=ahf _ _ _ _ hb;have h2:=d.blk bl (Ji hn) c h1;refine⟨fun o ho=>?_,⟨h2.2.1.1,h2.2.1.2.1,h2.2.1.2.2.1,h2.2.1.2.2.2.1,fun e he=>?_⟩,h2.2.2⟩
   ·rcases af3 ho with h3|⟨_,_,_,_,_,h3,_⟩
    ·exact ag0 (h2.1 o h3)
    ·exact(okop_grp o h3).1
   ·have h3:=h2.2.1.2.2.2.2 e he;refine⟨h3.1,by rw[agb];exact h3.2.1,?_⟩;have e1:e.block=((e.block.toNat:Nat):Int):=Zo;rw[e1,trBlk_at h3.2.1,<-e1];exact h3.2.2
  ·have h2:=d.blk f (Ji h1) b hb;exact⟨fun o ho=>ag0 (h2.1 o ho),h2.2⟩
 ·rcases aeV hn hi with⟨rfl,h1⟩|⟨_,h1⟩
  ·cases bl with
   |nil=>cases h1
   |cons c cs=>
    injection h1 with h2 h3
    rw[h2];exact d.par i c cs hn
  ·exact d.par i b bs h1
 ·rw[ae8];exact d.hnd h
theorem ajw (u:UseProg p)(hr:∀b∈bl,∀o∈b.ops,-1<=o.res)(hN:agn (aaG bl) bl<=65536)(hL:∀b∈bl,b.params.length<=15000/\b.ops.length<=15000):UseProg (mc p n):=by
 have hm:=Ji hn;have hc:=u.cnt bl hm;have hb:=u.blk bl hm;have a4:=agK bl (aaG bl)
 have a1:bC (i5 (aaG bl) 0 bl):=fun b' hb'=>by
  obtain⟨nx,ac,c,h1,rfl,h2,h3⟩:=ahf _ _ _ _ hb';have d:=hb c h1;refine⟨fun v hv=>by have:=d.1 v hv;omega,fun o ho=>?_⟩;rcases af3 ho with h|⟨k,m,P,x,Q,h,_,h6,_⟩
  ·have:=hr c h1 o h;have:=(d.2.1 o h).2;omega
  ·simp only[grp,Jq,List.not_mem_nil,or_false] at h;rcases h with rfl|rfl|rfl<;>(dsimp only;omega)
 have a0:=bD a1
 have a3:aaG bl<=aaG (i5 (aaG bl) 0 bl):=by
  have hg:=(ahB (i5 (aaG bl) 0 bl) 0).2;have e:(i5 (aaG bl) 0 bl).foldl iL 0=aaG (i5 (aaG bl) 0 bl):=rfl;rw[e] at hg;refine ahx bl 0 a0.1 fun b hb2=>?_
  obtain⟨b',h1,h2,h3⟩:=tr_has bl (aaG bl) 0 b hb2;refine⟨fun v hv=>(hg b' h1).1 v (by rw[h2];exact hv),fun o ho=>(hg b' h1).2 o (h3 o ho)⟩
 refine⟨fun f hf=>?_,fun f hf=>?_,fun f hf b' hb'=>?_⟩
 ·obtain⟨i,hi⟩:=Ny hf;rcases aeV hn hi with⟨_,rfl⟩|⟨_,h1⟩
  ·have hs:=u.sz bl hm;refine⟨by rw[agb];exact hs.1,fun b' hb'=>?_⟩;obtain⟨nx,ac,c,h1,rfl,h2,h3⟩:=ahf _ _ _ _ hb';have d:=hs.2 c h1;have h:=hL c h1;have h6:=ahd c.params nx;have t:=aid c.ops (aeB nx c.params) ac;refine⟨d.1,?_,d.2.2⟩
   show(aeO nx c.params++afn (aeB nx c.params) ac c.ops).length<=_
   rw[Jk];omega
  ·exact u.sz f (Ji h1)
 ·obtain⟨i,hi⟩:=Ny hf;rcases aeV hn hi with⟨_,rfl⟩|⟨_,h1⟩
  ·exact a0
  ·exact u.cnt f (Ji h1)
 ·obtain⟨i,hi⟩:=Ny hf;rcases aeV hn hi with⟨_,rfl⟩|⟨_,h1⟩
  ·obtain⟨nx,ac,c,h1,rfl,h2,h3⟩:=ahf _ _ _ _ hb';have d:=hb c h1;have w:∀x,aku (i5 (aaG bl) 0 bl) x->0<=x/\x.toNat<(aaG (i5 (aaG bl) 0 bl)).toNat:=fun x g=>dY a1 g
   have j:∀x:Int,(0<=x/\x.toNat<(aaG bl).toNat)->0<=x/\x.toNat<(aaG (i5 (aaG bl) 0 bl)).toNat:=fun x g=>⟨g.1,by omega⟩
   refine⟨fun x g=>j x (d.1 x g),fun o ho=>⟨?_,fun h0=>(w _ ⟨_,hb',.inr ⟨o,ho,rfl,h0⟩⟩).2⟩,fun x g=>j x (d.2.2 x g)⟩;rcases af3 ho with h|⟨k,m,P,x,Q,h,h8,h6,_,t⟩
   ·exact fun x g=>j x ((d.2.1 o h).1 x g)
   ·have a2:0<=k/\k.toNat<(aaG (i5 (aaG bl) 0 bl)).toNat:=w k ⟨_,hb',.inr ⟨_,h8 _ (List.mem_cons_self ..),rfl,by omega⟩⟩
    have g:0<=x/\x.toNat<(aaG (i5 (aaG bl) 0 bl)).toNat:=by
     refine j x ?_;rcases t with t|⟨q,t,⟨rfl,h9⟩|⟨h9,rfl⟩⟩
     ·exact d.1 x t
     ·exact⟨h9,(d.2.1 q t).2 h9⟩
     ·exact(d.2.1 q t).1 _ (ajG (ajE h9))
    intro y l;simp only[grp,Jq,List.not_mem_nil,or_false] at h;rcases h with rfl|rfl|rfl
    ·cases l
    ·have l:y∈ [k]:=l;rw[Jo.1 l];exact a2
    ·have l:y∈ [x]:=l;rw[Jo.1 l];exact g
  ·exact u.blk f (Ji h1) b' hb'
theorem aj2 (h:P64 p)(u:UseProg p)(y:agn (aaG bl) bl<=65536):P64 (mc p n):=by
 have hm:=Ji hn;have w:=u.cnt bl hm;refine⟨fun f hf b' hb'=>?_,h.args,h.data,h.banks,h.ent,h.hnd⟩;obtain⟨i,hi⟩:=Ny hf;rcases aeV hn hi with⟨_,rfl⟩|⟨_,h1⟩
 ·obtain⟨nx,ac,c,h1,rfl,h2,h3⟩:=ahf _ _ _ _ hb';have g:=h.funcs bl hm c h1;refine⟨g.par,fun o ho=>?_,g.term,g.tos⟩;rcases af3 ho with k|⟨nx1,m,P,x,Q,k,_,h6,t,j⟩
  ·exact g.ops o k
  ·have d:I64 x:=by
    rcases j with j|⟨q,j,⟨rfl,_⟩|⟨_,rfl⟩⟩
    ·exact g.par x j
    ·exact(g.ops q j).1.2.1
    ·exact(g.ops q j).1.2.2.1
   have l:I64 nx1:=⟨by omega,by omega⟩
   have z0:I64 0:=⟨by decide,by decide⟩
   have z1:I64 1:=⟨by decide,by decide⟩
   have z2:I64 25:=⟨by decide,by decide⟩
   have z3:I64 (-1):=⟨by decide,by decide⟩
   simp only[grp,Jq,List.not_mem_nil,or_false] at k;rcases k with rfl|rfl|rfl
   ·exact⟨⟨z1,l,z0,z0,t.1⟩,fun x d=>by cases d⟩
   ·exact⟨⟨z2,z3,l,z0,t.2.1⟩,fun x d=>by cases d⟩
   ·exact⟨⟨z2,z3,d,z0,t.2.2⟩,fun x d=>by cases d⟩
 ·exact h.funcs f (Ji h1) b' hb'
end
theorem afy:∀(ps:List Int) (xs:List Nat) (v:Int->Nat),(∀x,v x<65536)->(∀a∈xs,a<65536)->∀x,r7 ps xs v x<65536
 | [],_,v,hv,_=>hv
 |_::_,[],v,hv,_=>hv
 |p::ps,a::xs,v,hv,ha=>afy ps xs _ (afX hv (ha a (.head _))) fun b hb=>ha b (.tail _ hb)
theorem ake{N:Nat}{D:Int->Prop}:∀(ps:List Int) (xs:List Nat) (v:Int->Nat),ps.length=xs.length->(∀(j:Nat) x a,ps[j]? =some x->xs[j]? =some a->(0<=x/\x.toNat<N)/\t.knw x=true/\(t.get x).has a)->DI t N D v->DI t N (fun x=>D x∨x∈ps) (r7 ps xs v)
 | [],[],v,_,_,hD=>fun x hx=>by
   rcases hx with hx|hx
   ·exact hD x hx
   ·cases hx
 |p::ps,[],v,hl,_,_=>by simp at hl
 | [],a::xs,v,hl,_,_=>by simp at hl
 |p::ps,a::xs,v,hl,hj,hD=>fun x hx=>by
  have h1:DI t N (fun x=>D x∨x=p) (iY v p a):=fun y c=>by
   unfold iY
   by_cases e:y=p
   ·rw[if_pos e,e];exact hj 0 p a rfl rfl
   ·rw[if_neg e];rcases c with c|c
    ·exact hD y c
    ·exact absurd c e
  refine ake ps xs _ (by simpa using hl) (fun j y b c hb=>hj (j+1) y b (by simpa using c) (by simpa using hb)) h1 x ?_;rcases hx with hx|hx
  ·exact .inl (.inl hx)
  ·rcases Jq.1 hx with rfl|hx
   ·exact .inl (.inr rfl)
   ·exact .inr hx
theorem aiO{V:List Nat}(h:akW bl i k x)(l:Walk (GE (zy bl)) (fun c=>c∈V∨c=i) 0 i):
 ((∃c∈V,DefIn (xz bl c) x)∨x∈(xz bl i).params)∨∃j o,j<k/\(xz bl i).ops[j]? =some o/\o.res=x/\0<=x:=by
 rcases h with(h|h)|⟨c,h1,h2,h3,m⟩
 ·exact .inl (.inr (by simpa using h))
 ·exact .inr h
 ·by_cases e:c∈V
  ·exact .inl (.inl ⟨c,e,m⟩)
  ·exact absurd (l.imp fun d g=>by
    rcases g with g|g
    ·rintro rfl;exact e g
    ·rintro rfl;exact h1 g) h3
structure TrFn (T:RepF) (t:Slv) (p:IProg) (bl:List IBlk):Prop where
 st:StF p bl
 rep:RepOk T t (aaG bl).toNat
 cnt:0<=aaG bl
 fix:∀i:Nat,i<bl.length->aiR p bl (xz bl i) t
 rng:∀i:Nat,i<bl.length->(∀x∈(xz bl i).params,0<=x/\x.toNat<(aaG bl).toNat)/\∀o∈(xz bl i).ops,0<=o.res->o.res.toNat<(aaG bl).toNat
 ent:∀x∈(xz bl (0:Nat)).params,t.knw x=true/\t.get x=lf
 ops:∀i:Nat,i<bl.length->∀o∈(xz bl i).ops,OpP o
 acc:∀(i k:Nat) o,i<bl.length->(xz bl i).ops[k]? =some o->gw o=true->((0<=o.a/\o.a.toNat<(aaG bl).toNat)/\t.knw o.a=true)->∀w,(t.get o.a).has w->afv T (253,aeJ (aeJ 0 ((bl.take i).flatMap (·.ops))) ((xz bl i).ops.take k)%65536) (252,w)
theorem ago{T:RepF}{p:IProg}(g:TrFn T t p bl){E:IEnv}(hp:E.p.data=p.data)(hE:akX E)(a5:agS T call):∀(n i:Nat) (V:List Nat) (args:List Nat) (v:Int->Nat) (m:Mach),i<bl.length->
 Walk (GE (zy bl)) (fun c=>c∈V∨c=i) 0 i->DI t (aaG bl).toNat (fun x=>(∃c∈V,DefIn (xz bl c) x)∨x∈(xz bl i).params) (r7 (xz bl i).params args v)->(∀x,r7 (xz bl i).params args v x<65536)->MG T m->
 afa T akA (tJ E call (i5 (aaG bl) 0 bl) n (i:Int) args v m)
 |0,i,V,args,v,m,hi,hw,hD1,hv1,h=>h.out.1
 |n+1,i,V,args,v,m,hi,hw,hD1,hv1,h=>by
  obtain⟨b,hb⟩:∃b,bl[i]? =some b:=⟨_,Jd hi⟩
  obtain⟨nx,c7,c3⟩:=aga bl (aaG bl) 0 i b hb;have d:xz bl (i:Int)=b:=vt hb;have c4:xz (i5 (aaG bl) 0 bl) (i:Int)=ah0 nx (aeJ 0 ((bl.take i).flatMap (·.ops))) b:=vt c3;have hN:((aaG bl).toNat:Int)<=nx:=by have:=g.cnt;omega
  have b0:=g.fix i hi;have b3:=g.rng i hi;have b4:=g.ops i hi;have c2:=g.st.use i;have b6:=g.st.ends i hi;have a0:=g.st.trm i hi;have c5:=g.acc i;rw[d] at hD1 hv1 b0 b3 b4 b6 a0;unfold tJ;rw[c4]
  show afa T akA (match iq E call (aeO nx b.params++afn (aeB nx b.params) (aeJ 0 ((bl.take i).flatMap (·.ops))) b.ops) (r7 b.params args v) m with
   |.trap k i m'=> .trap k i m'
   |.ok v2 m2=>
    if m2.fuel<=0 then .trap 7 0 m2
    else if b.term.kind=4 then .ok (if b.term.a=-1 then 0 else v2 b.term.a) m2.pay
    else if b.term.kind=5 then .trap 1 0 m2.pay
    else tJ E call (i5 (aaG bl) 0 bl) n (wK b.term (v2 b.term.a)).block ((wK b.term (v2 b.term.a)).args.map v2) v2 m2.pay)
  have u:=agv (aja (E:=E) (call:=call) g.rep b.params _ nx _ m hN (fun x l=> .inr l) hv1 h hD1) fun v1 m1 hw1 hD2 hm1=>
   akc g.rep hp hE a5 b.ops _ (aeB nx b.params) (aeJ 0 ((bl.take i).flatMap (·.ops))) v1 m1 (Int.le_trans hN (afu _ _))
    ⟨fun o ho=>⟨b4 o ho,b0.1 o ho,b3.2 o ho⟩,fun k o hk x l=>by
      have:=aiO (c2 k o hi (by rw[d];exact hk) x l) hw;rw[d] at this
      exact this,fun k o hk hak hkn w hww=>by
      have:=c5 k o hi (by rw[d];exact hk) hak hkn w hww;rw[d] at this
      exact this⟩ hw1 hm1 hD2
  cases hr:iq E call (aeO nx b.params++afn (aeB nx b.params) (aeJ 0 ((bl.take i).flatMap (·.ops))) b.ops) (r7 b.params args v) m with
  |trap k i' m'=>rw[hr] at u;exact u
  |ok v2 m2=>
   rw[hr] at u;obtain⟨a7,b8,a2⟩:=u;simp only
   by_cases h1:m2.fuel<=0
   ·rw[if_pos h1];exact a2.out.1
   rw[if_neg h1]
   by_cases h4:b.term.kind=4
   ·rw[if_pos h4];refine⟨?_,a2.pay⟩
    show(if b.term.a=-1 then 0 else v2 b.term.a)<65536
    split
    ·decide
    ·exact a7 _
   rw[if_neg h4]
   by_cases h5:b.term.kind=5
   ·rw[if_pos h5];exact a2.out.1
   rw[if_neg h5];obtain⟨e,he⟩:∃e,wK b.term (v2 b.term.a)=e:=⟨_,rfl⟩
   have a3:e∈b.term.to:=by rw[<-he];exact lL (acV a0) h4 h5 _
   rw[he]
   have b1:uM bl e=true:=by
    unfold aw at a0;rw[Jm,Oe] at a0;exact a0.1 e a3
   unfold uM at b1;simp only[Jm,decide_eq_true_eq] at b1;obtain⟨⟨c9,c8⟩,b7⟩:=b1;have a4:((e.block.toNat:Nat):Int)=e.block:=Zo;rw[<-a4];rw[<-a4] at b7;refine ago g hp hE a5 n e.block.toNat (i::V) (e.args.map v2) v2 m2.pay Zo ?_ (ake _ _ _ (by rw[Nr];exact b7.symm) ?_ ?_) (afy _ _ _ a7 fun a ha'=>by obtain⟨x,_,rfl⟩:=Nu.1 ha';exact a7 x) a2.pay
   ·refine .snoc (hw.imp fun c hc=>?_) (b:=i) ?_ (.inr rfl)
    ·rcases hc with hc|rfl
     ·exact .inl (.tail _ hc)
     ·exact .inl (.head _)
    ·show e.block.toNat∈succ (zy bl) i
     rw[aiT hi,d];exact Oj (f:=fun e:IEdge=>e.block.toNat) a3
   ·intro j x a l b2;rw[Jr,Oz] at b2;obtain⟨y,hy,rfl⟩:=b2
    have hz:(x,y)∈(xz bl (e.block.toNat:Int)).params.zip e.args:=by
     refine Ji (i:=j) ?_;exact List.getElem?_zip_eq_some.2 ⟨l,hy⟩
    rw[a4] at hz l;have b5:=b0.2 e a3 (x,y) hz
    have b9:y∈mE b.term:=by
     unfold mE;refine Qf _ ?_;exact List.mem_flatten.2 ⟨e.args,Oj (f:=fun e:IEdge=>e.args) a3,Ji hy⟩
    have a6:=aiO (b6 y b9) hw;rw[d] at a6
    have c0:=b8 y (by
     rcases a6 with a6|⟨j',o,_,h6,h7,h8⟩
     ·exact .inl a6
     ·exact .inr ⟨o,Ji h6,h7,h8⟩)
    refine⟨?_,b5.1,b5.2.has c0.2.2⟩;have:=(g.rng e.block.toNat Zo).1 x (by rw[a4];exact Ji l);exact this
   ·intro x l;obtain⟨c,hc,a1⟩:=l;refine b8 x ?_;rcases Jq.1 hc with rfl|hc
    ·rw[d] at a1;rcases a1 with a1|⟨o,ho,h6,h7⟩
     ·exact .inl (.inr a1)
     ·exact .inr ⟨o,ho,h6,h7⟩
    ·exact .inl (.inl ⟨c,hc,a1⟩)
theorem agW{T:RepF}{E:IEnv}(l:akX E)(g:agS T call)(ho:∀b∈bl,∀o∈b.ops,OpP o):∀(n:Nat) (i:Int) (args:List Nat) (v:Int->Nat) (m:Mach),(∀a∈args,a<65536)->(∀x,v x<65536)->MG T m->
 afa T akA (tJ E call bl n i args v m)
 |0,i,args,v,m,ha,hv,h=>h.out.1
 |n+1,i,args,v,m,ha,hv,h=>by
  have hob:∀o∈(xz bl i).ops,OpP o:=fun o hoo=>by
   unfold xz at hoo;rw[Jj] at hoo
   cases e:bl[i.toNat]? with
   |none=>rw[e] at hoo;cases hoo
   |some b=>rw[e] at hoo;exact ho b (Ji e) o hoo
  have c:=aif l g (xz bl i).ops _ m (afy (xz bl i).params args v hv ha) h hob;unfold tJ
  cases hr:iq E call (xz bl i).ops (r7 (xz bl i).params args v) m with
  |trap k i' m'=>rw[hr] at c;exact c
  |ok v2 m2=>
   rw[hr] at c;obtain⟨j,_,d⟩:=c;simp only
   split
   ·exact d.out.1
   ·split
    ·refine⟨?_,d.pay⟩
     show(if _ then 0 else v2 _)<65536
     split
     ·decide
     ·exact j _
    ·split
     ·exact d.out.1
     ·exact agW l g ho n _ _ v2 m2.pay (fun a ha'=>by obtain⟨x,_,rfl⟩:=Nu.1 ha';exact j x) j d.pay
theorem agq{T:RepF}{p:IProg}{f:Nat}(hf:f<p.funcs.length)(hF:p.funcs.getD f []≠ []->TrFn T t p (p.funcs.getD f []))(ho:∀bl∈p.funcs,∀b∈bl,∀o∈b.ops,OpP o){I Q:List Nat}(k:∀x∈I,x<65536):∀r,agS T (xW ⟨mc p f,I,Q⟩ r)
 |0=>fun g args m ha h=>h.out.1
 |r+1=>fun g args m ha h=>by
  have ih:=agq hf hF ho (I:=I) (Q:=Q) k r;have l:akX ⟨mc p f,I,Q⟩:=k;rw[callR_sc]
  split
  ·exact h.out.1
  ·rename_i j
   by_cases e:g.toNat=f
   ·have hg:(mc p f).funcs.getD g.toNat []=i5 (aaG (p.funcs.getD f [])) 0 (p.funcs.getD f []):=by
     show(p.funcs.set f _).getD g.toNat []=_
     rw[e,Jj,Nn hf];rfl
    have u:p.funcs.getD f []≠ []:=fun h=>j (by
     show((mc p f).funcs.getD g.toNat []).isEmpty=true
     rw[hg,h];rfl)
    have hF:=hF u
    show afa T akA (tJ ⟨mc p f,I,Q⟩ (xW ⟨mc p f,I,Q⟩ r) ((mc p f).funcs.getD g.toNat []) (m.fuel.toNat+1) ((0:Nat):Int) args (fun _=>0) m)
    rw[hg]
    have hl:0<(p.funcs.getD f []).length:=by
     cases d:p.funcs.getD f [] with
     |nil=>exact absurd d u
     |cons b bs=>exact Nat.succ_pos _
    have i:=afy (xz (p.funcs.getD f []) (0:Nat)).params args (fun _=>0) (fun _=>by decide) ha;refine ago hF rfl l ih _ 0 [] args _ m hl (.refl (.inr rfl)) (fun x d=>?_) i h;rcases d with⟨c,w,_⟩|d
    ·cases w
    ·obtain⟨h1,h2⟩:=hF.ent x d;exact⟨(hF.rng 0 hl).1 x d,h1,by rw[h2];exact aeG (i x)⟩
   ·have hg:(mc p f).funcs.getD g.toNat []=p.funcs.getD g.toNat []:=by
     show(p.funcs.set f _).getD g.toNat []=_
     rw[Jj,Ns (fun h=>e h.symm),<-Jj]
    show afa T akA (tJ ⟨mc p f,I,Q⟩ (xW ⟨mc p f,I,Q⟩ r) ((mc p f).funcs.getD g.toNat []) (m.fuel.toNat+1) 0 args (fun _=>0) m)
    rw[hg];refine agW l ih (fun b hb=>?_) _ 0 args _ m ha (fun _=>by decide) h;rw[Jj] at hb
    cases d:p.funcs[g.toNat]? with
    |none=>rw[d] at hb;cases hb
    |some bl=>rw[d] at hb;exact ho bl (Ji d) b hb
theorem ram_lt (s:ByteArray):∀x∈v7 s,x<256:=fun x hx=>by
 unfold v7 at hx;obtain⟨k,_,rfl⟩:=Nu.1 hx;exact UInt8.toNat_lt _
theorem ag3{T:RepF}{p:IProg}{f:Nat}(hf:f<p.funcs.length)(l:p.funcs.getD f []≠ []->TrFn T t p (p.funcs.getD f []))(ho:∀bl∈p.funcs,∀b∈bl,∀o∈b.ops,OpP o){I Q:List Nat}(j:∀x∈I,x<65536)(g:Int){args:List Nat}(d:∀a∈args,a<65536)(ram:ByteArray)(fuel:Int):
 aeQ T (bQ ⟨mc p f,I,Q⟩ g args ram fuel).out:=by
 have c:∀(r:Nat) (L:List Nat),(∀x∈L,x<256)->aeQ T (adO (xW ⟨mc p f,I,Q⟩ r g args ⟨L,fuel,[],0,0⟩)).out:=fun r L hL=>by
  have h:=agq hf l ho (I:=I) (Q:=Q) j r g args ⟨L,fuel,[],0,0⟩ d ⟨good_nil T,hL⟩
  cases hr:xW ⟨mc p f,I,Q⟩ r g args ⟨L,fuel,[],0,0⟩ with
  |ok x m=>rw[hr] at h;exact h.2.out.1
  |trap k i m=>rw[hr] at h;exact h
 unfold bQ;exact c 100 (v7 ram) (ram_lt ram)
def aiX (bl:List IBlk):List Int:=(ak4 bl).map agj
theorem ahs:∀(l:List IOp) (ac:Nat),aeJ ac l=ac+(l.filter gw).length
 | [],ac=>rfl
 |o::l,ac=>by
  show aeJ (af5 ac o) l=_
  rw[ahs l];unfold af5
  by_cases h:gw o=true
  ·rw[if_pos h,List.filter_cons_of_pos h,Nq];omega
  ·rw[if_neg h,List.filter_cons_of_neg h]
theorem ah2 {α:Type}(q:α->Bool):∀(l:List α) (k:Nat) (x:α),l[k]? =some x->q x=true->(l.filter q)[((l.take k).filter q).length]? =some x
 | [],k,x,h,_=>by simp at h
 |y::l,0,x,h,hq=>by
  simp at h;subst h
  rw[List.filter_cons_of_pos hq];rfl
 |y::l,k+1,x,h,hq=>by
  have ih:=ah2 q l k x (by simpa using h) hq;rw[Qo]
  by_cases c:q y=true
  ·rw[List.filter_cons_of_pos c,List.filter_cons_of_pos c,Nq];simpa using ih
  ·rw[List.filter_cons_of_neg c,List.filter_cons_of_neg c];exact ih
theorem flat_at:∀(i k:Nat) (b:IBlk) (o:IOp),bl[i]? =some b->b.ops[k]? =some o->(bl.flatMap (·.ops))[((bl.take i).flatMap (·.ops)).length+k]? =some o/\(bl.flatMap (·.ops)).take (((bl.take i).flatMap (·.ops)).length+k)=(bl.take i).flatMap (·.ops)++b.ops.take k:=by
 intro i k b o hb ho;have hi:=(Jh.1 hb).1;have hk:=(Jh.1 ho).1
 have e:bl=bl.take i++b::bl.drop (i+1):=by
  have h1:=Qi i bl
  have h2:bl.drop i=b::bl.drop (i+1):=by
   rw[Qn hi,(Jh.1 hb).2]
  rw[<-h2,h1]
 have e2:bl.flatMap (·.ops)=(bl.take i).flatMap (·.ops)++(b.ops++(bl.drop (i+1)).flatMap (·.ops)):=by
  conv=>lhs;rw[e]
  rw[Nx,Qa]
 rw[e2];constructor
 ·rw[Nc Zo,Nat.add_sub_cancel_left,Np hk];exact ho
 ·rw[List.take_length_add_append,List.take_append_of_le_length Zo]
theorem acc_at(hi:i<bl.length)(ho:(xz bl i).ops[k]? =some o)(c:gw o=true):(ak4 bl)[aeJ (aeJ 0 ((bl.take i).flatMap (·.ops))) ((xz bl i).ops.take k)]? =some o:=by
 obtain⟨b,hb⟩:∃b,bl[i]? =some b:=⟨_,Jd hi⟩
 rw[vt hb] at ho ⊢;obtain⟨h1,h2⟩:=flat_at i k b o hb ho;have:=ah2 gw _ _ o h1 c;rw[h2,List.filter_append,Jk] at this;rw[ahs,ahs,Ng];exact this
def repF (p:IProg)(bl:List IBlk):RepF:=⟨p6 p bl,ae9 p.data (p6 p bl) bl,aiX bl,p.data⟩
theorem FnS.rep{p:IProg}(h:FnS p bl):RepOk (repF p bl) (fnT p bl) (aaG bl).toNat:=⟨rfl,h.end.ok,by have:=h.cnt;omega⟩
theorem acc_pair{p:IProg}(h:FnS p bl)(hl:(ak4 bl).length<=65536)(hi:i<bl.length)(ho:(xz bl i).ops[k]? =some o)(m:gw o=true)(hk:(0<=o.a/\o.a.toNat<(aaG bl).toNat)/\(fnT p bl).knw o.a=true){w:Nat}(d:((fnT p bl).get o.a).has w):
 afv (repF p bl) (253,aeJ (aeJ 0 ((bl.take i).flatMap (·.ops))) ((xz bl i).ops.take k)%65536) (252,w):=by
 refine⟨fun e=>absurd (show(253:Nat)=254 from e) Zd,fun _=>?_⟩;have h1:=acc_at hi ho m;obtain⟨n,g⟩:∃n,aeJ (aeJ 0 ((bl.take i).flatMap (·.ops))) ((xz bl i).ops.take k)=n:=⟨_,rfl⟩
 rw[g] at h1 ⊢;have c:=(Jh.1 h1).1;have hm:n%65536=n:=Nat.mod_eq_of_lt Zo;obtain⟨_,_,hg⟩:=h.rep.get hk.1 hk.2;have hs:(aiX bl).getD n 0=agj o:=by unfold aiX;rw[Jj,Jr,h1];rfl
 have l:(ae9 p.data (p6 p bl) bl).getD n 0=ae6 p.data ((0:Nat):Int) ((fnT p bl).get o.a) (agj o):=by
  unfold ae9;rw[Jj,Jr,h1]
  show afL p.data (p6 p bl) o=_
  unfold afL;have hg:(p6 p bl).getD o.a.toNat ⟨0,0⟩=(fnT p bl).get o.a:=hg;rw[hg];rfl
 show n%65536<(ae9 p.data (p6 p bl) bl).length/\n%65536<(aiX bl).length/\(252:Nat)=252/\((ae9 p.data (p6 p bl) bl).getD (n%65536) 0=-1∨((0<=(ae9 p.data (p6 p bl) bl).getD (n%65536) 0/\((ae9 p.data (p6 p bl) bl).getD (n%65536) 0).toNat<p.data.length)/\(p.data.getD ((ae9 p.data (p6 p bl) bl).getD (n%65536) 0).toNat ⟨0,0,0⟩).bank=-1/\(p.data.getD ((ae9 p.data (p6 p bl) bl).getD (n%65536) 0).toNat ⟨0,0,0⟩).addr<=w/\(w:Int)+(aiX bl).getD (n%65536) 0<=(p.data.getD ((ae9 p.data (p6 p bl) bl).getD (n%65536) 0).toNat ⟨0,0,0⟩).addr+(p.data.getD ((ae9 p.data (p6 p bl) bl).getD (n%65536) 0).toNat ⟨0,0,0⟩).size))
 rw[hm,hs,l];refine⟨by unfold ae9;rw[Nr];exact c,by unfold aiX;rw[Nr];exact c,rfl,?_⟩;rcases afz p.data 0 ((fnT p bl).get o.a) (agj o) with h2|⟨j,h2,h3,t,x,u⟩
 ·exact .inl h2
 ·rw[h3,Ng,Ni];have:=d.1;have:=d.2;exact .inr ⟨⟨Int.natCast_nonneg _,h2⟩,t,by omega,by omega⟩
theorem FnS.tr{p:IProg}(h:FnS p bl)(hl:(ak4 bl).length<=65536)(ho:∀b∈bl,∀o∈b.ops,OpP o):TrFn (repF p bl) (fnT p bl) p bl where
 st:=h.st
 rep:=h.rep
 cnt:=h.cnt.1
 fix:=fun i hi=>h.end.fix i ((h.ord i).2 hi)
 rng:=fun i hi=>⟨(h.rng i hi).1,fun o ho h0=>((h.rng i hi).2 o ho).2 h0⟩
 ent:=fun x hx=>by
  obtain⟨h1,h2⟩:=ajx (n:=(aaG bl).toNat) (ps:=(xz bl (0:Nat)).params) (fun v hv=>((h.rng 0 h.pos).1 v hv).2) x hx;have:=h.end.kn x h1;exact⟨this.1,this.2 h2⟩
 ops:=fun i hi o hoo=>by
  obtain⟨b,hb⟩:∃b,bl[i]? =some b:=⟨_,Jd hi⟩
  rw[vt hb] at hoo;exact ho b (Ji hb) o hoo
 acc:=fun i k o hi hok ha hkn w hw=>acc_pair h hl hi hok ha hkn hw
def PoM (M:MS):Prop:=∀b∈M.f,∀o∈b.ops,o.code=25->o.n<=3
theorem po_tick(h:PoM M):PoM M.tick:=h
theorem aeF(h:PoM M)(ho:o.code=25->o.n<=3):PoM (M.emit o):=
 i3 h fun b hb x c=>by
  rcases Jl.1 c with c|c
  ·exact h b hb x c
  ·rw[Jo] at c;subst c;exact ho
theorem ag7(h:PoM M)(n:Nat):PoM (M.num n):=aeF h (fun e=>by have e:(1:Int)=25:=e;omega)
theorem afS(h:PoM M){t:ITerm}:PoM (M.endB t):=i3 h fun b hb x hx=>h b hb x hx
theorem afA(h:PoM M){n:Nat}:PoM (M.block n):=fun b hb=>by
 rcases Jl.1 hb with hb|hb
 ·exact h b hb
 ·rw[Jo] at hb;subst hb;exact fun o ho=>by simp[wJ] at ho
theorem afe(E:ME)(h:PoM M):PoM (zJ E M).2:=by
 unfold zJ
 split
 ·exact ag7 (po_tick h) _
 ·split
  ·exact h
  ·exact h
theorem ajS(E:ME)(h:PoM M):PoM (yJ E M).2:=by
 unfold yJ
 split
 ·exact afe E h
 ·exact aeF (M:=M.tick.tick.tick) h (fun e=>by(try dsimp only at e);first|omega|(unfold tkV at e;omega))
theorem ajN (E:ME):∀(n:Nat) {M:MS},PoM M->PoM (yI E n M).2
 |0,M,h=>h
 |n+1,M,h=>afe E (ajN E n h)
theorem po_call(E:ME)(h:PoM M):PoM (vN E M):=by
 unfold vN
 split
 ·exact h
 ·simp only
  split
  ·exact h
  ·exact aeF (ajN E _ (M:=M.tick) h) (fun e=>by(try dsimp only at e);first|omega|(unfold tkV at e;omega))
theorem po_arith(E:ME)(h:PoM M):PoM (yR E M):=by
 unfold yR;simp only;have h2:=afe E (afe E h)
 split
 ·split
  ·exact aeF (aeF (ag7 (M:=(zJ E (zJ E M).2).2.tick.tick) h2 1) (fun e=>by(try dsimp only at e);first|omega|(unfold tkV at e;omega))) (fun e=>by(try dsimp only at e);first|omega|(unfold tkV at e;omega))
  ·exact aeF (M:=(zJ E (zJ E M).2).2.tick.tick) h2 (fun e=>by(try dsimp only at e);first|omega|(unfold tkV at e;omega))
 ·exact aeF (M:=(zJ E (zJ E M).2).2.tick) h2 (fun e=>by(try dsimp only at e);first|omega|(unfold tkV at e;omega))
theorem po_op(E:ME)(h:PoM M):PoM (xK E M):=by
 unfold xK;simp only;have c:PoM M.tick:=h
 split
 ·exact ag7 (M:=M.tick.tick) h _
 split
 ·exact aeF (afe E (M:=M.tick.tick) h) (fun e=>by(try dsimp only at e);first|omega|(unfold tkV at e;omega))
 split
 ·exact aeF (M:=(yJ E M.tick).2.tick) (ajS E c) (fun e=>by(try dsimp only at e);first|omega|(unfold tkV at e;omega))
 split
 ·exact aeF (M:=(zJ E (yJ E M.tick).2).2.tick) (afe E (ajS E c)) (fun e=>by(try dsimp only at e);first|omega|(unfold tkV at e;omega))
 split
 ·exact aeF (M:=M.tick.tick) h (fun e=>by(try dsimp only at e);first|omega|(unfold tkV at e;omega))
 split
 ·exact aeF (M:=(zJ E M.tick).2.tick) (afe E c) (fun _=>by show 1+tkV _ _ 3<=3;unfold tkV;omega)
 split
 ·exact aeF (M:=(M.tick.tick.num (tkV E M.tick 4096)).tick) (ag7 (M:=M.tick.tick) h _) (fun e=>by(try dsimp only at e);first|omega|(unfold tkV at e;omega))
 split
 ·exact po_call E c
 split
 ·split
  ·exact aeF (M:=M.tick.tick) h (fun e=>by(try dsimp only at e);first|omega|(unfold tkV at e;omega))
  ·exact h
 ·exact po_arith E c
theorem po_ops (E:ME):∀(n:Nat) {M:MS},PoM M->PoM (qY E n M)
 |0,M,h=>h
 |n+1,M,h=>po_ops E n (po_op E h)
theorem po_run(E:ME)(h:PoM M):PoM (tR E M):=po_ops E _ (M:=M.tick) h
theorem ahX:∀(n:Nat) {M:MS},PoM M->PoM (xE n M)
 |0,M,h=>h
 |n+1,M,h=>afA (ahX n h)
theorem ajQ(E:ME)(hp:∀M,PoM M->PoM (c M))(tg:Nat)(d keep:Nat):∀(n k:Nat) {M:MS},PoM M->PoM (uV E c tg d keep n k M)
 |0,_,M,h=>h
 |n+1,k,M,h=>by
  unfold uV;simp only;refine ajQ E hp tg d keep n (k+1) ?_;have h1:PoM (c {M with cur:=tg+k }).tick:=hp _ h;have h2:=afe E h1
  show PoM _
  split
  ·exact afS (M:=(zJ E (c {M with cur:=tg+k }).tick).2) h2
  ·exact afS (M:=(zJ E (c {M with cur:=tg+k }).tick).2) h2
theorem aie(E:ME)(hp:∀M,PoM M->PoM (c M))(n:Nat)(h:PoM M):PoM (xi E c n M):=by
 unfold xi;simp only;have h2:=afA (n:=1) (ahX n (afe E h));have h3:=afS h2 (t:=⟨if 2<n then 3 else 2,(zJ E M).1,xk (zJ E M).2.f.length n⟩);exact ajQ E hp _ _ _ n 0 h3
theorem po_loop(E:ME)(hp:∀M,PoM M->PoM (c M))(h:PoM M):PoM (tH E c M):=by
 unfold tH;simp only;have h1:=afe E (ag7 (M:=M.tick) h (tkV E M 5));have h2:=afS (afA (n:=0) (afA (n:=0) (afA (n:=2) h1))) (t:=⟨1,0,[⟨((zJ E (M.tick.num (tkV E M 5))).2.f.length:Nat),[(M.next:Int),(zJ E (M.tick.num (tkV E M 5))).1]⟩]⟩);refine afS (afe E (aeF (ag7 (hp _ ?_) _) ?_))
 ·refine afS ?_;exact h2
 ·intro e;have e:(6:Int)=25:=e;omega
theorem agT (E:ME):∀(d:Nat) (M:MS),PoM M->PoM (zp E d M)
 |0,M,h=>po_run E h
 |d+1,M,h=>by
  have h1:=po_run E h
  show PoM (if(tR E M).left<1 then _ else _)
  split
  ·exact h1
  ·split
   ·exact aie E (agT E d) _ (M:=(tR E M).tick) h1
   split
   ·exact po_loop E (agT E d) (M:=(tR E M).tick) h1
   split
   ·exact aie E (agT E d) _ (M:=(tR E M).tick.tick) h1
   ·exact h1
theorem po_func (E:ME)(pos:Nat):PoM (xR E pos):=by
 have c:PoM (xD E pos):=by
  exact afA (M:= {(⟨pos,[],0,0,[],6⟩:MS).tick with next:=tkV E ⟨pos,[],0,0,[],6⟩ 3*10 }) (fun b hb=>by cases hb)
 have h1:=agT E 1 _ (agT E 2 _ c);unfold xR;simp only
 split
 ·exact afS (M:=(zp E 1 (zp E 2 (xD E pos))).tick) h1
 split
 ·exact afS (M:=(zp E 1 (zp E 2 (xD E pos))).tick) h1
 ·exact afS (afe E (M:=(zp E 1 (zp E 2 (xD E pos))).tick) h1)
theorem agF:∀(n:Nat) (l:List Int),l.Nodup->(∀v∈l,0<=v/\v<(n:Int))->l.length<=n
 |0,l,_,h=>by
  cases l with
  |nil=>exact Je _
  |cons a l=>have:=h a (.head _);omega
 |n+1,l,hn,h=>by
  by_cases hm:(n:Int)∈l
  ·have h1:=agF n (l.erase (n:Int)) (hn.erase _) fun v hv=>by
    have h2:=h v (List.mem_of_mem_erase hv);have h3:v≠(n:Int):=fun e=>by rw[e] at hv;exact(List.Nodup.mem_erase_iff hn).1 hv|>.1 rfl
    omega
   rw[List.length_erase_of_mem hm] at h1;have:=List.length_pos_of_mem hm;omega
  ·have h1:=agF n l hn fun v hv=>by
    have h2:=h v hv;have h3:v≠(n:Int):=fun e=>hm (e ▸ hv)
    omega
   omega
theorem aiY (nx v:Int):aeP nx v=nx+(if 0<=v then 1 else 0):=by unfold aeP;split<;>omega
theorem aic:∀(ps:List Int) (nx:Int),(∀v∈ps,0<=v)->aeB nx ps=nx+ps.length
 | [],nx,_=>by show nx=nx+((0:Nat):Int);omega
 |v::ps,nx,h=>by
  show aeB (aeP nx v) ps=_
  rw[aic ps _ (fun x hx=>h x (.tail _ hx)),aiY,if_pos (h v (.head _)),Nq];omega
theorem ajg:∀(os:List IOp) (nx:Int),agD nx os=nx+(abo os).length+(os.filter gw).length
 | [],nx=>by show nx=nx+((0:Nat):Int)+((0:Nat):Int);omega
 |o::os,nx=>by
  show agD (akO nx o) os=_
  rw[ajg os];unfold akO aeU abo;rw[aiY,List.filter_cons,List.filter_cons]
  by_cases h1:0<=o.res<;>by_cases h2:gw o=true
  all_goals simp only[h1,h2,if_true,if_false,decide_true,decide_false,Ql,Nq,Nr,Bool.false_eq_true]
  all_goals omega
theorem ah6:∀(bs:List IBlk) (nx:Int),(∀b∈bs,∀v∈b.params,0<=v)->agn nx bs=nx+(aaI bs).length+((bs.flatMap (·.ops)).filter gw).length
 | [],nx,_=>by show nx=nx+((0:Nat):Int)+((0:Nat):Int);omega
 |b::bs,nx,h=>by
  show agn (agD (aeB nx b.params) b.ops) bs=_
  rw[ah6 bs _ (fun c hc=>h c (.tail _ hc)),ajg,aic _ _ (h b (.head _))];unfold aaI;rw[Qa,Qa,List.filter_append,Jk,Jk];unfold abu;rw[Jk];omega
theorem aj7:∀(bs:List IBlk),(bs.flatMap (·.ops)).length=opsN bs
 | []=>rfl
 |b::bs=>by
  rw[Qa,Jk,aj7 bs];rfl
theorem akj(s:List Int)(h64:P64 (uR s)){n:Nat}(j:(uR s).funcs[n]? =some bl):
 agn (aaG bl) bl<=65536/\(∀b∈bl,b.params.length<=15000/\b.ops.length<=15000)/\(∀b∈bl,∀o∈b.ops,OpP o/\-1<=o.res)/\(ak4 bl).length<=65536:=by
 have d:=(Jh.1 j).1;rw[qA] at d;have h64:=h64.funcs bl (Ji j);rcases kz s d with⟨h,_⟩|h
 ·rw[j] at h;cases h;exact⟨by decide,(fun b hb=>by cases hb),(fun b hb=>by cases hb),by decide⟩
 ·rw[j] at h;cases h;obtain⟨pl,h1,_⟩:=gJ (gi s n) (zg s n).2;have t:=lz s n d;have u:=po_func (xC s n) (zg s n).2;have ho:=h1.ops;obtain⟨cur,vals,g⟩:=h1;generalize xR (xC s n) (zg s n).2=M at *;unfold MS.sz at t;have c:∀b∈M.f,∀v∈b.params,0<=v/\v<(M.next:Int):=fun b hb v hv=>g.rng v (Qx.2 ⟨b,hb,Jz _ hv⟩)
  have l:∀b∈M.f,∀o∈b.ops,0<=o.res->o.res<(M.next:Int):=fun b hb o ho m=>(g.rng o.res (Qx.2 ⟨b,hb,Qf _ (Nu.2 ⟨o,List.mem_filter.2 ⟨ho,decide_eq_true m⟩,rfl⟩)⟩)).2
  have y:=agF M.next (aaI M.f) g.nd g.rng
  have k:∀b∈M.f,∀o∈b.ops,OpP o/\-1<=o.res:=fun b hb o hoo=>by
   have h2:=ho b hb o hoo;have h3:=u b hb o hoo;exact⟨⟨(ajc h2).1,fun e=>by have:=h3 e;omega,((h64 b hb).ops o hoo).1.2.2.2.2⟩,ct h2⟩
  have w:aaG M.f<=(M.next:Int):=by
   refine ahx M.f 0 Zo fun b hb=>⟨fun v hv=>?_,fun o ho2=>?_⟩
   ·have:=c b hb v hv;rw[aaY Zo Zo];omega
   ·have h2:=(k b hb o ho2).2
    by_cases m:0<=o.res
    ·have:=l b hb o ho2 m;rw[aaY Zo Zo];omega
    ·rw[aaY Zo Zo];omega
  have a0:((M.f.flatMap (·.ops)).filter gw).length<=opsN M.f:=by
   rw[<-aj7];exact List.length_filter_le _ _
  have x:=bO M.f;refine⟨?_,fun b hb=>?_,k,?_⟩
  ·rw[ah6 _ _ (fun b hb v hv=>(c b hb v hv).1)];omega
  ·obtain⟨i,hi⟩:=Ny hb;have h3:=g.sml i b hi;have h4:=acZ hb;omega
  ·show((M.f.flatMap (·.ops)).filter gw).length<=65536
   omega
theorem yM.three{b n m:Nat}{xs:List Value}{e:TypeId}(h:Q w b xs.toArray e)(d:xs.length=m*n)(c:∀u∈xs,u.oneCell'=true):yM w n (T b m m) m xs:=
 ⟨_,_,rfl,d,c,.inr ⟨_,rfl,Oi (cs:=xs.toArray) h⟩⟩
def aff (t:PT)(n:Nat):List Row:=wY t.fv t.funcs::zP t.av t.args::vK t.dv t.data::v8 t.bv t.banks::(t.funcs.eraseIdx n).flatMap FT.rows
theorem wrapV (v:Int):IntKind.u16.wrap v=((v%65536).toNat:Int):=by rw[xY];omega
theorem ajH{V:PV}{p:IProg}(hp:ProgIn w w.heap.size V p)(hs:SmallP p){n:Nat}(hn:p.funcs[n]? =some bl)(hC:0<=aaG bl/\aaG bl<=65536):
 I 21 #[yH V p,U n] w (PtRet w (mc p n)):=by
 obtain⟨fa,fc,l0,h9,t3⟩:=hp.funcs.form;obtain⟨aa,ac,m0,u2,u0⟩:=hp.args.form;obtain⟨da,dc,l3,t6,t5⟩:=hp.data.form;obtain⟨ba,bc,l6,b6,t7⟩:=hp.banks.form;obtain⟨p1,s9⟩:∃p1,w.heap.size=p1:=⟨_,rfl⟩
 have l:∀W,Below w.heap.size w W->I 18 #[.agg (D p fa fc aa ac da dc ba bc)] W _:=fun W hb=>by
  have h:=uJ ((hp.below hb).mono hb.size) hs;unfold yH at h;rw[l0,m0,l3,l6] at h;exact h
 unfold yH;rw[l0,m0,l3,l6];have p8:Below w.heap.size w ((w.alloc (.cells (D p fa fc aa ac da dc ba bc) 29)).alloc (.cells #[.slice none 0 0,.slice none 0 0,U 0,U 0,.slice none 0 0,.slice none 0 0] 29)):=((Below.refl _ _).alloc (Je _) _).alloc Zs _;have A4:=hs.fn.1;have s6:=Ja l;have x0:=Ja p8;have HP:=Ja (Jb (hs.fn.2 bl (Ji hn)).1 (Jb (hp.p64.funcs bl (Ji hn)) (Jb hn hC)));obtain⟨C,m4⟩:∃C,aaG bl=C:=⟨_,rfl⟩
 have u4:=hC;rw[m4] at u4;have s2:=Ja m4;clear l p8 hp hs l0 m0 l3 l6 h9 t3 u2 u0 t6 t5 b6 t7 hn hC m4;go_enter Tryz.func21,Tryz.ntmps21;go_upto_region 2 with(go_at_call 18;go_must (refine(s6.out _ x0.out).mono ?_;rintro e w2 ⟨t,m6,d5,aa2,ac2,f6,f5,ba2,bc2,rfl,hV,ht,hr,hb⟩;have HT:=Ja (Jb hV (Jb ht (Jb hr hb)));clear hV ht hr hb))
 have d3:t.entry=p.entry/\t.handler=p.handler:=by rw[<-HT.out.2.1];exact⟨rfl,rfl⟩
 have g5:(zW t).toArray=D p m6 d5 aa2 ac2 f6 f5 ba2 bc2:=by
  unfold zW;rw[HT.out.1.1,HT.out.1.2.1,HT.out.1.2.2.1,HT.out.1.2.2.2,d3.1,d3.2]
 obtain⟨o5,j2⟩:∃o5,w2.heap.size=o5:=⟨_,rfl⟩
 have hm:RwMid w p1 o5 (zW t) [] t.rows (w2.alloc (.cells (zW t).toArray 29)):=RwMid.start s9 j2 HT.out.2.2.1 HT.out.2.2.2;rw[g5] at hm;have j1:p.funcs=t.funcs.map FT.fn:=by rw[<-HT.out.2.1];rfl
 have y3:t.funcs.length=p.funcs.length:=by rw[j1,Nr]
 have HC:=Ja g5;generalize u3:w2.alloc (.cells (D p m6 d5 aa2 ac2 f6 f5 ba2 bc2) 29)=W3 at *;rw[j2]
 obtain⟨F,hF,m2⟩:∃F,t.funcs[n]? =some F/\F.fn=bl:=by
  have h:=HP.out.2.2.1;rw[j1,Jr] at h
  cases e:t.funcs[n]? with
  |none=>rw[e] at h;cases h
  |some F=>rw[e] at h;exact⟨F,rfl,Nt h⟩
 have q1:wY t.fv t.funcs∈t.rows:=.head _;obtain⟨fg,A6,q7,h9,t4,x5,p3⟩:=hm.getS (f:=fun x:FT=> [x.bv]) (n:=1) Zd (fun _=>rfl) (r:=wY t.fv t.funcs) q1 ⟨rfl,rfl,Qh⟩ hF
 have u8:m6=some ⟨fg,0,none⟩:=by
  have h:t.fv=_:=q7;rw[HT.out.1.1] at h
  injection h
 subst u8
 have j3:RwMid w p1 o5 (zW t) [] (F.rows++aff t n) W3:=hm.perm (by
  have h:=aef FT.rows hF;refine(List.Perm.cons _ (List.Perm.cons _ (List.Perm.cons _ (List.Perm.cons _ h)))).trans ?_
  classical
  refine Jp.2 fun y=>?_
  simp only[aff,Nb,Nf]
  omega)
 obtain⟨m,i1⟩:∃m,F.blks.length=m:=⟨_,rfl⟩
 obtain⟨bga,bgc,q8⟩:=zG (j3.rows.own (zd F.bv F.blks) (.head _));have e5:F.bv=.slice bga m bgc:=by rw[<-i1];exact q8
 have f0:A W3 fg n (.slice bga m bgc):=by have h:=h9 0 _ rfl;rw[Nk] at h;rw[<-e5];exact h
 have b2:=hm.ho;rw[HC.out] at b2;have o0:A W3 o5 0 (T fg p.funcs.length d5):=zA (i:=0) b2 rfl;have ol:=lt_of_block b2;have z6:(n:Int)<(p.funcs.length:Int):=by have:=(Jh.1 HP.out.2.2.1).1;omega
 have j4:=j3.box [F.bv] 39;rw[e5] at j4;have z7:m<=2000000:=by have h:=HP.out.1.1;rw[<-m2] at h;unfold FT.fn at h;rw[Nr,i1] at h;exact h
 have f9:=Ja j4;have HF:=Ja (Jb hF (Jb m2 (Jb i1 (Jb e5 p3))));clear u3 hm j3 q1 q7 h9 t4 p3 q8 e5 b2 j4 j2 d3 g5 j1 hF m2 i1;go_upto_region 3 with fail;obtain⟨g6,h6⟩:∃g,W3.heap.size=g:=⟨_,rfl⟩
 rw[h6] at f9 ⊢;clear h6 o0 f0 ol;generalize W3.alloc (.cells #[.slice bga m bgc] 39)=W4 at *;have c9:=(f9.out.bx _ (.head _)).1;have q0:A W4 g6 0 (.slice bga m bgc):=zA (i:=0) c9 rfl;have ql:=lt_of_block c9;have m3:=jr (w:=W4) (FT.in (B:=p1+1+1) (f:=F) (fun r hr=>f9.out.rows.own r (Jz _ hr)) (by rw[HF.out.2.1];exact HP.out.2.1)) (Je _) (by rw[HF.out.2.1];exact HP.out.1);rw[HF.out.2.1,s2.out,HF.out.2.2.2.1] at m3;have w8:=Ja m3;clear m3 c9;go_upto_region 4 with(go_at_call 17;go_must (refine w8.out.mono ?_;rintro e w5 ⟨rfl,p5⟩))
 have w4:=Ja (f9.out.below p5);clear p5 q0 ql f9;go_wp2
 go_loopw [7,8,9] (fun nv cv iv wx=>∃(i:Nat) (nx:Int) (ac:Nat) (ds:List BT) (G:List Row),i<=m/\nv=U nx/\cv=U ac/\iv=U i/\Hid (ds.length=i/\i5 C 0 bl=ds.map BT.blk++i5 nx ac ((F.blks.drop i).map BT.blk)/\(C<=nx/\nx<=C+i*8000000)/\ac<=i*4000000/\RwMid w p1 o5 (zW t) [(g6,[F.bv],39)] (zd F.bv (ds++F.blks.drop i)::((ds++F.blks.drop i).flatMap BT.rows++(aff t n++G))) wx)) (fun _ _ iv _=>m-(intOf iv).toNat)
 case atStart=>
  refine⟨0,C,0,[],[],Jt _,rfl,rfl,rfl,Ja ⟨rfl,?_,⟨Og _,by omega⟩,Je _,?_⟩⟩
  ·rw[<-HF.out.2.1];rfl
  ·have h:=w4.out;rw[<-HF.out.2.2.2.1] at h;rw[Ua];exact h
 case round=>
  obtain⟨i,nx,ac,ds,G,hi,rfl,rfl,rfl,HK⟩:=hrel;have c9:=(HK.out.2.2.2.2.bx _ (.head _)).1;have q0:A wr g6 0 (.slice bga m bgc):=by rw[<-HF.out.2.2.2.1];exact zA (i:=0) c9 rfl
  have ql:=lt_of_block c9
  by_cases b1:i<m
  ·have s3:(i:Int)<(m:Int):=Zo;have s0:=Ja b1;obtain⟨b,hb⟩:∃b,F.blks[i]? =some b:=⟨_,Jd (by rw[HF.out.2.2.1];exact b1)⟩
   obtain⟨dr,l5⟩:∃dr,F.blks.drop (i+1)=dr:=⟨_,rfl⟩
   have e3:F.blks.drop i=b::dr:=by
    obtain⟨k7,rfl⟩:=Jh.1 hb;rw[<-l5];exact Qn k7
   have l4:=HK.out.1;have k6:=HK.out.2.2.2.2;rw[e3] at k6;have l8:(ds++b::dr)[i]? =some b:=by rw[Nc Zo,l4,Qy];rfl
   have d9:RwMid w p1 o5 (zW t) [(g6,[F.bv],39)] (zd F.bv (ds++b::dr)::(b.rows++(ds.flatMap BT.rows++dr.flatMap BT.rows++(aff t n++G)))) wr:=k6.perm (by
    classical
    refine Jp.2 fun y=>?_
    simp only[Nx,Qa,Nb,Nf]
    omega)
   obtain⟨bg,bgc3,n6,b6,t8,s4,p4⟩:=d9.getS (f:=zz) (n:=5) Zd (fun _=>rfl) (r:=zd F.bv (ds++b::dr)) (.head _) ⟨rfl,rfl,rfl⟩ l8
   have u9:bga=some ⟨bg,0,none⟩:=by
    have h:F.bv=_:=n6;rw[HF.out.2.2.2.1] at h
    injection h
   subst u9;obtain⟨pa,e9,i2⟩:=d9.formI (v:=b.pv) (xs:=b.params) (.tail _ (.head _));obtain⟨oa,oc,q5⟩:=zG (d9.rows.own (ma b.ov b.ops) (.tail _ (.tail _ (.head _))));obtain⟨ta,tc,q4⟩:=zG (d9.rows.own (xg b.tv b.tos) (.tail _ (.tail _ (.tail _ (.head _)))));have e4:b.ov=.slice oa b.ops.length oc:=q5;have h5:b.tv=.slice ta b.tos.length tc:=q4;have c0:A wr bg (i*5) (.slice pa b.params.length e9):=by rw[<-i2];exact b6 0 _ rfl
   have c1:A wr bg (i*5+1) (.slice oa b.ops.length oc):=by rw[<-e4];exact b6 1 _ rfl
   have c2:A wr bg (i*5+2) (U b.kind):=b6 2 _ rfl;have c3:A wr bg (i*5+3) (U b.a):=b6 3 _ rfl;have c4:A wr bg (i*5+4) (.slice ta b.tos.length tc):=by rw[<-h5];exact b6 4 _ rfl
   have d4:(zz b).toArray=#[.slice pa b.params.length e9,.slice oa b.ops.length oc,U b.kind,U b.a,.slice ta b.tos.length tc]:=by unfold zz;rw[i2,e4,h5]
   have j5:=d9.box (zz b) 84;rw[d4] at j5;have l7:=HP.out.1.2 b.blk (by rw[<-HF.out.2.1];exact Nu.2 ⟨b,Ji hb,rfl⟩);have l9:=HP.out.2.1 b.blk (by rw[<-HF.out.2.1];exact Nu.2 ⟨b,Ji hb,rfl⟩);have y4:b.params.length<=2000000:=l7.1;have y6:b.ops.length<=2000000:=by have h:=l7.2.1;unfold BT.blk at h;simp only[Nr] at h;exact h
   have x4:=HK.out.2.2.1;have x8:=HK.out.2.2.2.1;have i8:=Ja j5;have a1:=Ja (Jb d4 (Jb i2 (Jb e4 (Jb l9 (Jb e3 (Jb l5 (Jb l4 (Jb hb (Jb l8 p4)))))))));clear k6 d9 j5 b6 t8 p4 n6 i2 q5 e4 q4 h5 d4 l7 l9 hb e3 l5 l4 c9 b1 l8 s4;go_upto_region 9 with fail;obtain⟨b10,q3⟩:∃g,wr.heap.size=g:=⟨_,rfl⟩
   rw[q3] at i8 ⊢;clear q3 c0 c1 c2 c3 c4 q0 ql;generalize wr.alloc (.cells #[.slice pa b.params.length e9,.slice oa b.ops.length oc,U b.kind,U b.a,.slice ta b.tos.length tc] 84)=Y at *;have a5:=(i8.out.bx _ (.head _)).1;rw[a1.out.1] at a5;have y0:A Y b10 0 (.slice pa b.params.length e9):=zA (i:=0) a5 rfl;have yl:=lt_of_block a5;have wneg:IntKind.i64.wrap (-(b.params.length:Int))=-(b.params.length:Int):=Om _ Zo
   have o4:=(i8.out.nil (r:=ma (.slice none 0 0) []) (Jv _ _ _ _) rfl).perm (RS':=ma (.slice none 0 0) []::(wI []++(wI b.ops++(ma b.ov b.ops::zP b.pv b.params::xg b.tv b.tos::(ve b.tos++(zd F.bv (ds++b::dr)::(ds.flatMap BT.rows++dr.flatMap BT.rows++(aff t n++G)))))))) (by
    classical
    refine Jp.2 fun y=>?_
    simp only[BT.rows,wI,List.map_nil,Nb,Nf,List.count_nil]
    omega)
   have w0:=Ja o4;clear a5 o4 i8;go_wp2;clear y0 yl
   go_loopw [7,8,11,12] (fun nv cv ov kv wx=>∃(j:Nat) (L:List (IOp×Value)) (nx1:Int) (ac1:Nat) (ra:Option Addr) (rc:Nat),j<=b.params.length+b.ops.length/\nv=U nx1/\cv=U ac1/\ov=.slice ra L.length rc/\kv=U ((j:Int)-(b.params.length:Int))/\Hid (tqS b.params b.ops nx ac j=(L,nx1,ac1)/\RwMid w p1 o5 (zW t) [(b10,zz b,84),(g6,[F.bv],39)] (ma (.slice ra L.length rc) L::(wI L++(wI (b.ops.drop (j-b.params.length))++(ma b.ov b.ops::zP b.pv b.params::xg b.tv b.tos::(ve b.tos++(zd F.bv (ds++b::dr)::(ds.flatMap BT.rows++dr.flatMap BT.rows++(aff t n++G)))))))) wx)) (fun _ _ _ kv _=>b.params.length+b.ops.length-(intOf kv+b.params.length).toNat)
   case atStart=>exact⟨0,[],nx,ac,none,0,Jt _,rfl,rfl,rfl,by congr 1;omega,Ja ⟨rfl,by rw[Nat.zero_sub];exact w0.out⟩⟩
   case round=>
    obtain⟨j,L,nx1,ac1,ra,rc,hj,rfl,rfl,rfl,rfl,HJ⟩:=hrel;have c8:=tqS_len b.params b.ops nx ac j;rw[HJ.out.1] at c8;have A1:L.length<=j*7:=c8.1;have z8:nx<=nx1/\nx1<=nx+j*2:=c8.2.1;have A0:ac1<=ac+j:=c8.2.2;have a5:=(HJ.out.2.bx _ (.head _)).1;rw[a1.out.1] at a5;have y0:A wr b10 0 (.slice pa b.params.length e9):=zA (i:=0) a5 rfl;have y1:A wr b10 1 (.slice oa b.ops.length oc):=zA (i:=1) a5 rfl;have yl:=lt_of_block a5;obtain⟨ii,k9,g4,g3,g0⟩:=info_parts Tryz.info_irop;have wk:IntKind.i64.wrap ((j:Int)-(b.params.length:Int)+1)=((j+1:Nat):Int)-(b.params.length:Int):=by rw[Om _ Zo];omega
    clear c8 a5
    by_cases b1:j<b.params.length+b.ops.length
    ·have dk:decide ((j:Int)-(b.params.length:Int)<(b.ops.length:Int))=true:=decide_eq_true Zo;have e6:=Ja b1
     go_upto_if 48 with fail
     go_cut [7,8,11,13] (fun nv cv ov vv wx=>∃(L1:List (IOp×Value)) (nx2 v1:Int) (ac2:Nat) (b9:Option Addr) (b8:Nat),nv=U nx2/\cv=U ac2/\ov=.slice b9 L1.length b8/\vv=U v1/\Hid ((L1.length<=L.length+4/\(nx<=nx2/\nx2<=nx1+1))/\tqS b.params b.ops nx ac (j+1)=(L1++(ae4 nx2 v1).map aho,aeP nx2 v1,ac2)/\RwMid w p1 o5 (zW t) [(b10,zz b,84),(g6,[F.bv],39)] (ma (.slice b9 L1.length b8) L1::(wI L1++(wI (b.ops.drop (j+1-b.params.length))++(ma b.ov b.ops::zP b.pv b.params::xg b.tv b.tos::(ve b.tos++(zd F.bv (ds++b::dr)::(ds.flatMap BT.rows++dr.flatMap BT.rows++(aff t n++G)))))))) wx))
     case first=>
      by_cases h8:j<b.params.length
      ·obtain⟨v,hv⟩:∃v,b.params[j]? =some v:=⟨_,Jd h8⟩
       obtain⟨pg,y2,m7,a6,y5,x2,_⟩:=HJ.out.2.getI (v:=b.pv) (xs:=b.params) Zs hv
       have u5:pa=some ⟨pg,0,none⟩:=by
        rw[a1.out.2.1] at m7
        injection m7
       subst u5;have d0:decide ((j:Int)-(b.params.length:Int)<0)=true:=decide_eq_true Zo;have wj:IntKind.i64.wrap ((j:Int)-(b.params.length:Int)+(b.params.length:Int))=(j:Int):=by rw[Om _ Zo];omega
       have A3:(j:Int)<(b.params.length:Int):=Zo;have c5:=tqS_par (qs:=b.ops) (nx:=nx) (ac:=ac) hv;rw[HJ.out.1] at c5;have f7:=Ja c5;have s1:=Ja h8;clear hv h8 m7 c5 b1;go_wp2;go_meet
       exact⟨L,nx1,v,ac1,ra,rc,rfl,rfl,rfl,rfl,Ja ⟨⟨by omega,by omega⟩,f7.out,by
        have h:=HJ.out.2;have e1:j-b.params.length=0:=by have:=s1.out;omega
        have e2:j+1-b.params.length=0:=by have:=s1.out;omega
        rw[e1] at h;rw[e2]
        exact h⟩⟩
      ·have h0:b.params.length<=j:=Zo;obtain⟨k,hk⟩:∃k,j-b.params.length=k:=⟨_,rfl⟩
       have o6:k<b.ops.length:=Zo;have ek:(j:Int)-(b.params.length:Int)=(k:Int):=Zo;obtain⟨q,hq⟩:∃q,b.ops[k]? =some q:=⟨_,Jd o6⟩
       have o1:b.ops.drop k=q::b.ops.drop (k+1):=by
        obtain⟨k7,rfl⟩:=Jh.1 hq;exact Qn k7
       have c5:=tqS_op (nx:=nx) (ac:=ac) h0 (q:=q) (by rw[hk];exact hq);rw[HJ.out.1] at c5;obtain⟨og,oc2,q6,c7,t2,x3,_⟩:=HJ.out.2.getS (f:=zU) (n:=6) Zd (fun _=>rfl) (r:=ma b.ov b.ops) Zs ⟨rfl,rfl,rfl⟩ hq
       have u6:oa=some ⟨og,0,none⟩:=by
        have h:b.ov=_:=q6;rw[a1.out.2.2.1] at h
        injection h
       subst u6;have h7:=HJ.out.2;rw[hk,o1] at h7;obtain⟨xa,xc,n7⟩:=h7.formI (v:=q.2) (xs:=q.1.args) (by simp[wI]);obtain⟨o,av⟩:=q;have n7:av=.slice xa o.args.length xc:=n7;subst n7;have k0:A wr og (k*6) (U o.code):=c7 0 _ rfl;have k1:A wr og (k*6+1) (U o.res):=c7 1 _ rfl;have k2:A wr og (k*6+2) (U o.a):=c7 2 _ rfl;have k3:A wr og (k*6+3) (U o.b):=c7 3 _ rfl;have k4:A wr og (k*6+4) (O (o.n:Int)):=c7 4 _ rfl;have k5:A wr og (k*6+5) (.slice xa o.args.length xc):=c7 5 _ rfl;have d0:decide ((k:Int)<0)=false:=decide_eq_false Zo;have A2:(k:Int)<(b.ops.length:Int):=Zo;have g9:=h7.box (zU (o,.slice xa o.args.length xc)) 76;have q9:(zU (o,.slice xa o.args.length xc)).toArray=#[U o.code,U o.res,U o.a,U o.b,O (o.n:Int),.slice xa o.args.length xc]:=rfl;rw[q9] at g9;have f7:=Ja (Jb c5 (Jb hk h0));have w7:=Ja ek.symm;have b4:=Ja g9;rw[ek];rw[ek] at dk wk;clear hq o1 c5 q6 c7 t2 h7 g9 q9 h8 h0 o6 ek b1 hk;go_upto_region 17 with fail;obtain⟨a3,q2⟩:∃g,wr.heap.size=g:=⟨_,rfl⟩
       rw[q2] at b4 ⊢;clear q2 k0 k1 k2 k3 k4 k5 y0 y1 yl;generalize wr.alloc (.cells #[U o.code,U o.res,U o.a,U o.b,O (o.n:Int),.slice xa o.args.length xc] 76)=Z at *;have a0:=(b4.out.bx _ (.head _)).1;have z0:A Z a3 0 (U o.code):=zA (i:=0) a0 rfl;have z2:A Z a3 2 (U o.a):=zA (i:=2) a0 rfl;have zl:=lt_of_block a0;have o2:=b4.out.lt;clear a0
       go_cut [70] (fun s wx=>s=.bool (gw o)/\wx=Z)
       case first=>
        obtain⟨g1,d1⟩:∃g,decide (18<=o.code)=g:=⟨_,rfl⟩
        obtain⟨g2,d2⟩:∃g,decide (o.code<=21)=g:=⟨_,rfl⟩
        have HG:=Ja (show(g1 && g2)=gw o by rw[<-d1,<-d2];rfl);cases g1
        all_goals (
         go_wp2;go_meet
         exact⟨by rw[<-HG.out];rfl,rfl⟩)
       case rest=>
        obtain⟨rfl,n9⟩:=hcut;rw[n9];clear n9
        go_upto_if 70 with fail
        go_cut [7,8,11] (fun nv cv ov wx=>∃(L2:List (IOp×Value)) (d8:Option Addr) (d7:Nat),nv=U (aeU nx1 o)/\cv=U (af5 ac1 o:Int)/\ov=.slice d8 L2.length d7/\Hid (L2=L++(afF nx1 ac1 o).map aho/\RwMid w p1 o5 (zW t) ((a3,zU (o,.slice xa o.args.length xc),76):: [(b10,zz b,84),(g6,[F.bv],39)]) (ma (.slice d8 L2.length d7) L2::(wI L2++(wI ((o,.slice xa o.args.length xc)::b.ops.drop (k+1))++(ma b.ov b.ops::zP b.pv b.params::xg b.tv b.tos::(ve b.tos++(zd F.bv (ds++b::dr)::(ds.flatMap BT.rows++dr.flatMap BT.rows++(aff t n++G)))))))) wx))
        case first=>
         by_cases a2:gw o=true
         ·rw[a2];have w1:IntKind.u16.wrap (ac1:Int)=((ac1%65536:Nat):Int):=by rw[xY];omega
          have w2':IntKind.i64.wrap (nx1+1)=nx1+1:=Om _ Zo;have w3:IntKind.i64.wrap ((ac1:Int)+1)=(ac1:Int)+1:=Om _ Zo;have l:Z.ownsRow (p1+1+1) 76 6 (.slice ra L.length rc) L.length (L.flatMap zU):=b4.out.rows.own (ma (.slice ra L.length rc) L) (.head _);have eA:afF nx1 ac1 o=grp nx1 (ac1%65536) 253 o.a 252:=if_pos a2;have eN:aeU nx1 o=nx1+1:=if_pos a2;have eC:af5 ac1 o=ac1+1:=if_pos a2;have HE:=Ja (Jb eA (Jb eN eC));have f8:=Ja l;clear eA eN eC l;go_wp2_with (at_builtin;go_must (refine zK _ rfl (.tmp 71) (.tmp 81) 77 rfl (p1+1+1) 76 ii (.agg #[U 0,U 0,U 0,U 0,O 0,.slice none 0 0]) 6 64 Tryz.underlying77 k9 g4 g3 g0 rfl Zd (.slice ra L.length rc) L.length (L.flatMap zU) rfl (f8.out.alloc _) (T Z.heap.size 3 3) 3 [U 1,U nx1,U 0,U 0,O ((ac1%65536:Nat):Int),.slice none 0 0,U 25,U (-1),U nx1,U 0,O 253,.slice none 0 0,U 25,U (-1),U o.a,U 0,O 252,.slice none 0 0] rfl (yM.three (zI rfl) rfl (by simp[Value.oneCell'])) (by unfold maxLen;omega) Zo Zt ?_;intro v9 w9 c d a4;obtain⟨e8,e7,rfl⟩:=zG c;have HA:=Ja (Jb c (Jb d a4));clear c d a4))
          go_meet;have hA:=b4.out.addG (nx:=nx1) (x:=o.a) (n:=ac1%65536) (P:=253) (Q:=252) ((Below.refl _ _).alloc (Je _) _) HA.out.2.1 HA.out.1 HA.out.2.2
          exact⟨L++(grp nx1 (ac1%65536) 253 o.a 252).map aho,e8,e7,by rw[HE.out.2.1],by rw[HE.out.2.2];simp,by rw[Jk];rfl,Ja ⟨by rw[HE.out.1],by
           have e:(L++(grp nx1 (ac1%65536) 253 o.a 252).map aho).length=L.length+3:=by rw[Jk];rfl
           rw[e]
           exact hA⟩⟩
         ·have a2:gw o=false:=by simpa using a2
          rw[a2];have eA:afF nx1 ac1 o=[]:=if_neg (by rw[a2];decide);have eN:aeU nx1 o=nx1:=if_neg (by rw[a2];decide);have eC:af5 ac1 o=ac1:=if_neg (by rw[a2];decide);have HE:=Ja (Jb eA (Jb eN eC));clear eA eN eC;go_wp2;go_meet;exact⟨L,ra,rc,by rw[HE.out.2.1],by rw[HE.out.2.2],rfl,Ja ⟨by rw[HE.out.1,List.map_nil,Ua],b4.out⟩⟩
        case rest=>
         obtain⟨L2,d8,d7,rfl,rfl,rfl,e0⟩:=hcut;have u1:=ahI nx1 ac1 o;have A5:L2.length<=L.length+3:=by rw[e0.out.1,Jk,Nr];omega
         have a0:=(e0.out.2.bx _ (.head _)).1;have z0:A wc a3 0 (U o.code):=zA (i:=0) a0 rfl;have z1:A wc a3 1 (U o.res):=zA (i:=1) a0 rfl;have z2:A wc a3 2 (U o.a):=zA (i:=2) a0 rfl;have z3:A wc a3 3 (U o.b):=zA (i:=3) a0 rfl;have z4:A wc a3 4 (O (o.n:Int)):=zA (i:=4) a0 rfl;have z5:A wc a3 5 (.slice xa o.args.length xc):=zA (i:=5) a0 rfl;have zl:=lt_of_block a0;have o2:=e0.out.2.lt;have l:wc.ownsRow (p1+1+1) 76 6 (.slice d8 L2.length d7) L2.length (L2.flatMap zU):=e0.out.2.rows.own (ma (.slice d8 L2.length d7) L2) (.head _);have f8:=Ja l;have A7:=Ja a0;obtain⟨NX,i0⟩:∃z,aeU nx1 o=z:=⟨_,rfl⟩
         obtain⟨AC,m5⟩:∃z,af5 ac1 o=z:=⟨_,rfl⟩
         rw[i0,m5];rw[i0] at u1;have r6:=Ja (Jb i0 m5);clear l a0 i0 m5;go_upto_region 22 with(at_builtin;go_must (refine zK _ rfl (.tmp 87) (.tmp 89) 77 rfl (p1+1+1) 76 ii (.agg #[U 0,U 0,U 0,U 0,O 0,.slice none 0 0]) 6 64 Tryz.underlying77 k9 g4 g3 g0 rfl Zd (.slice d8 L2.length d7) L2.length (L2.flatMap zU) rfl (f8.out.alloc _) (T wc.heap.size 1 1) 1 [U o.code,U o.res,U o.a,U o.b,O (o.n:Int),.slice xa o.args.length xc] rfl (yM.three (zI rfl) rfl (by simp[Value.oneCell'])) (by unfold maxLen;omega) Zo Zt ?_;intro v9 w9 c d a4;obtain⟨e8,e7,rfl⟩:=zG c;have HA:=Ja (Jb c (Jb d a4));clear c d a4))
         have hA:=e0.out.2.add1 (q:=(o,.slice xa o.args.length xc)) ((Below.refl _ _).alloc (Je _) _) HA.out.2.1 HA.out.1 HA.out.2.2;have i9:=(hA.bx _ (.head _)).1;have z1:A w9 a3 1 (U o.res):=zA (i:=1) i9 rfl;have x9:=lt_of_block i9;have x1:=Ja hA;clear hA i9 z0 z2 z3 z4 z5 zl;go_wp2;rw[w7.out];go_meet;have e1:j+1-b.params.length=k+1:=by have:=f7.out.2.1;have:=f7.out.2.2;omega
         have e2:(L2++ [(o,Value.slice xa o.args.length xc)]).length=L2.length+1:=by rw[Jk];rfl
         refine⟨L2++ [(o,.slice xa o.args.length xc)],NX,o.res,AC,e8,e7,rfl,rfl,by rw[e2],rfl,Ja ⟨⟨by omega,by omega,by omega⟩,?_,?_⟩⟩
         ·rw[f7.out.1,e0.out.1,<-r6.out.1,<-r6.out.2];rfl
         ·rw[e1,e2];exact x1.out.few (B1:=[(a3,zU (o,.slice xa o.args.length xc),76)]) rfl
     case rest=>
      obtain⟨L1,nx2,v1,ac2,b9,b8,rfl,rfl,rfl,rfl,d6⟩:=hcut;have z9:=d6.out.1;have o2:=d6.out.2.2.lt;have wn:IntKind.i64.wrap (nx2+1)=nx2+1:=Om _ Zo;clear y0 y1 yl
      by_cases b5:0<=v1
      ·have d0:decide (0<=v1)=true:=decide_eq_true b5;have wv:=wrapV v1;have l:wc.ownsRow (p1+1+1) 76 6 (.slice b9 L1.length b8) L1.length (L1.flatMap zU):=d6.out.2.2.rows.own (ma (.slice b9 L1.length b8) L1) (.head _);have f8:=Ja l;have eA:ae4 nx2 v1=grp nx2 (v1%65536).toNat 254 v1 255:=if_pos b5;have eN:aeP nx2 v1=nx2+1:=if_pos b5;have HE:=Ja (Jb eA eN);obtain⟨vn,j0⟩:∃vn,(v1%65536).toNat=vn:=⟨_,rfl⟩
       rw[j0] at wv;have v6:=Ja j0;clear l b5 eA eN j0;go_wp2_with (at_builtin;go_must (refine zK _ rfl (.tmp 95) (.tmp 104) 77 rfl (p1+1+1) 76 ii (.agg #[U 0,U 0,U 0,U 0,O 0,.slice none 0 0]) 6 64 Tryz.underlying77 k9 g4 g3 g0 rfl Zd (.slice b9 L1.length b8) L1.length (L1.flatMap zU) rfl (f8.out.alloc _) (T wc.heap.size 3 3) 3 [U 1,U nx2,U 0,U 0,O vn,.slice none 0 0,U 25,U (-1),U nx2,U 0,O 254,.slice none 0 0,U 25,U (-1),U v1,U 0,O 255,.slice none 0 0] rfl (yM.three (zI rfl) rfl (by simp[Value.oneCell'])) (by unfold maxLen;omega) Zo Zt ?_;intro v9 w9 c d a4;obtain⟨e8,e7,rfl⟩:=zG c;have HA:=Ja (Jb c (Jb d a4));clear c d a4))
       go_roundw
       case rel=>
        have hA:=d6.out.2.2.addG (nx:=nx2) (x:=v1) (n:=vn) (P:=254) (Q:=255) ((Below.refl _ _).alloc (Je _) _) HA.out.2.1 HA.out.1 HA.out.2.2;have e:(L1++(grp nx2 vn 254 v1 255).map aho).length=L1.length+3:=by rw[Jk];rfl
        refine⟨j+1,L1++(grp nx2 vn 254 v1 255).map aho,nx2+1,ac2,e8,e7,e6.out,rfl,rfl,by rw[e],rfl,Ja ⟨?_,?_⟩⟩
        ·rw[d6.out.2.1,HE.out.1,HE.out.2,v6.out]
        ·rw[e];exact hA
       case measure=>have:=e6.out;simp[intOf];omega
      ·have d0:decide (0<=v1)=false:=decide_eq_false b5;have eA:ae4 nx2 v1=[]:=if_neg b5;have eN:aeP nx2 v1=nx2:=if_neg b5;have HE:=Ja (Jb eA eN);clear b5 eA eN;go_wp2;go_roundw
       case rel=>
        refine⟨j+1,L1,nx2,ac2,b9,b8,e6.out,rfl,rfl,rfl,rfl,Ja ⟨?_,d6.out.2.2⟩⟩;rw[d6.out.2.1,HE.out.1,HE.out.2,List.map_nil,Ua]
       case measure=>have:=e6.out;simp[intOf];omega
    ·obtain rfl:j=b.params.length+b.ops.length:=by omega
     have dk:decide ((((b.params.length+b.ops.length:Nat)):Int)-(b.params.length:Int)<(b.ops.length:Int))=false:=decide_eq_false Zo;have h4:=tqS_full (ps:=b.params) (qs:=b.ops) (nx:=nx) (ac:=ac) rfl;rw[HJ.out.1] at h4;have f4:=HJ.out.2;rw[show b.params.length+b.ops.length-b.params.length=b.ops.length by omega,List.drop_length] at f4;have l2:=(f4.bx _ (.tail _ (.head _))).1;have q0:A wr g6 0 (T bg m bgc):=by rw[<-HF.out.2.2.2.1];exact zA (i:=0) l2 rfl
     have ql:=lt_of_block l2;obtain⟨f2,f1,x7⟩:=f4.readS (f:=zz) (n:=5) Zd (fun _=>rfl) (r:=zd F.bv (ds++b::dr)) Zs ⟨rfl,rfl,rfl⟩ a1.out.2.2.2.2.2.2.2.2.2 a1.out.2.2.2.2.2.2.2.2.1;have z1:=f2 1 _ rfl;have zf:=f1 1 Zd
     have b3:=f4.putS (f:=zz) (n:=5) (fun _=>rfl) (r:=zd F.bv (ds++b::dr)) (rs:=ma (.slice ra L.length rc) L::(wI L++(ma b.ov b.ops::zP b.pv b.params::xg b.tv b.tos::(ve b.tos++(ds.flatMap BT.rows++dr.flatMap BT.rows++(aff t n++G)))))) (j:=1) (a:= {b with ops:=L,ov:=.slice ra L.length rc }) (u:=.slice ra L.length rc) (by
      classical
      refine Jp.2 fun y=>?_
      simp only[wI,List.map_nil,Nb,Nf,List.count_nil]
      omega) ⟨rfl,rfl,rfl⟩ a1.out.2.2.2.2.2.2.2.2.2 a1.out.2.2.2.2.2.2.2.2.1 Zd rfl
     have s5:=Ja b3;have n8:=Ja h4;clear f4 l2 f2 f1 b3 h4 b1 wk hj y0;have s7:A wr bg (i*5+1) (T bg 0 0)∨True:=.inr trivial;clear s7;go_wp2;go_roundw
     case rel=>
      refine⟨i+1,nx1,ac1,ds++ [{b with ops:=L,ov:=.slice ra L.length rc }],ma b.ov b.ops::G,s0.out,rfl,rfl,by go_num,Ja ⟨by rw[Jk,a1.out.2.2.2.2.2.2.1];rfl,?_,⟨by omega,by omega⟩,by omega,?_⟩⟩
      ·rw[HK.out.2.1,a1.out.2.2.2.2.1,a1.out.2.2.2.2.2.1,Js,Nv]
       congr 1
       have h1:=n8.out.1;have h2:=n8.out.2;have h1:L.map (·.1)=_:=h1;have h2:(nx1,ac1)=(agD (aeB nx b.params) (b.ops.map (·.1)),aeJ ac (b.ops.map (·.1))):=h2;have e1:nx1=ah4 nx b.blk:=congrArg Prod.fst h2;have e2:ac1=aeJ ac b.blk.ops:=congrArg Prod.snd h2;rw[e1,e2]
       show ah0 nx ac b.blk::i5 _ _ _=_::i5 _ _ _
       congr 1
       show ah0 nx ac b.blk=⟨b.params,L.map (·.1),⟨b.kind,b.a,b.tos.map (·.1)⟩⟩
       rw[h1];rfl
      ·have e:(ds++b::dr).set i {b with ops:=L,ov:=.slice ra L.length rc }=ds++ [{b with ops:=L,ov:=.slice ra L.length rc }]++dr:=by
        rw[Uj _ _ (by rw[a1.out.2.2.2.2.2.2.1];exact Je _),a1.out.2.2.2.2.2.2.1,Qy,Jf,Nv];rfl
       have h:=s5.out;rw[e] at h;rw[a1.out.2.2.2.2.2.1];refine(h.few (B1:=[(b10,zz b,84)]) rfl).perm ?_;refine List.Perm.cons _ ?_
       classical
       refine Jp.2 fun y=>?_
       simp only[BT.rows,Nx,Qa,List.flatMap_nil,Ua,Nb,Nf];omega
     case measure=>have:=s0.out;simp[intOf];omega
  ·obtain rfl:i=m:=by omega
   have s3:¬(i:Int)<(i:Int):=Zo;have f3:=HK.out.2.2.2.2;rw[<-HF.out.2.2.1,List.drop_length,Ua] at f3;have a7:=HK.out.2.1;rw[<-HF.out.2.2.1,List.drop_length,List.map_nil] at a7;have a7:i5 C 0 bl=ds.map BT.blk:=by rw[a7];exact Ua _
   have p0:wY t.fv t.funcs∈zd F.bv ds::(ds.flatMap BT.rows++(aff t n++G)):=by simp[aff]
   obtain⟨f2,f1,x6⟩:=f3.readS (f:=fun x:FT=> [x.bv]) (n:=1) Zd (fun _=>rfl) (r:=wY t.fv t.funcs) p0 ⟨rfl,rfl,Qh⟩ HF.out.2.2.2.2 HF.out.1;have z0:=f2 0 _ rfl;have zf:=f1 0 Zd;rw[Nk,Uk] at z0 zf;have b2:=f3.ho;rw[HC.out] at b2;have o0:A wr o5 0 (T fg p.funcs.length d5):=zA (i:=0) b2 rfl;have ol:=lt_of_block b2
   have b3:=f3.putS (f:=fun x:FT=> [x.bv]) (n:=1) (fun _=>rfl) (r:=wY t.fv t.funcs) (rs:=zd F.bv ds::(ds.flatMap BT.rows++(zP t.av t.args::vK t.dv t.data::v8 t.bv t.banks::(t.funcs.eraseIdx n).flatMap FT.rows++G))) (j:=0) (a:=⟨ds,F.bv⟩) (u:=F.bv) (by
    classical
    refine Jp.2 fun y=>?_
    simp only[aff,Nb,Nf]
    omega) ⟨rfl,rfl,Qh⟩ HF.out.2.2.2.2 HF.out.1 Zd rfl
   rw[Nk,Uk] at b3
   have l1:(⟨t.fv,39,1,(t.funcs.set n ⟨ds,F.bv⟩).length,(t.funcs.set n ⟨ds,F.bv⟩).flatMap fun x=> [x.bv]⟩:Row)=wY t.fv (t.funcs.set n ⟨ds,F.bv⟩):=by
    unfold wY;rw[<-Qh]
   obtain⟨W7,m1⟩:∃W7,wr.setCell ⟨fg,n,none⟩ (.slice bga i bgc)=W7:=⟨_,rfl⟩
   have b7:RwMid w p1 o5 (zW t) [(g6,[F.bv],39)] (wY t.fv (t.funcs.set n ⟨ds,F.bv⟩)::zd F.bv ds::(ds.flatMap BT.rows++(zP t.av t.args::vK t.dv t.data::v8 t.bv t.banks::(t.funcs.eraseIdx n).flatMap FT.rows++G))) W7:=by
    rw[<-l1,<-m1,<-HF.out.2.2.2.1];exact b3
   have a6:=b7.ho;rw[HC.out] at a6;have b0:=b7.hr;have n0:A W7 o5 0 (T fg p.funcs.length d5):=zA (i:=0) a6 rfl;have n1:A W7 o5 1 (.slice aa2 p.args.length ac2):=zA (i:=1) a6 rfl;have n2:A W7 o5 2 (U p.entry):=zA (i:=2) a6 rfl;have n3:A W7 o5 3 (U p.handler):=zA (i:=3) a6 rfl;have n4:A W7 o5 4 (.slice f6 p.data.length f5):=zA (i:=4) a6 rfl;have n5:A W7 o5 5 (.slice ba2 p.banks.length bc2):=zA (i:=5) a6 rfl;have nl:=lt_of_block a6;have r0:A W7 (p1+1) 0 (.slice none 0 0):=zA (i:=0) b0 rfl;have r1:A W7 (p1+1) 1 (.slice none 0 0):=zA (i:=1) b0 rfl;have r2:A W7 (p1+1) 2 (U 0):=zA (i:=2) b0 rfl;have r3:A W7 (p1+1) 3 (U 0):=zA (i:=3) b0 rfl;have r4:A W7 (p1+1) 4 (.slice none 0 0):=zA (i:=4) b0 rfl;have r5:A W7 (p1+1) 5 (.slice none 0 0):=zA (i:=5) b0 rfl;have rf:∀i,N W7 (p1+1) i:=fun i=>zE b0
   have rl:=lt_of_block b0;have d3:t.entry=p.entry/\t.handler=p.handler:=by rw[<-HT.out.2.1];exact⟨rfl,rfl⟩
   have o9:p.funcs.getD n []=bl:=by rw[Jj,HP.out.2.2.1];rfl
   have o3:n<t.funcs.length:=(Jh.1 HF.out.1).1
   have w6:=Ja (b7.ret (t:= {t with funcs:=t.funcs.set n ⟨ds,F.bv⟩}) (p:=mc p n) ⟨G,by
    have h:=ag1 FT.rows o3 ⟨ds,F.bv⟩;refine List.Perm.trans ?_ ((List.Perm.cons (wY t.fv (t.funcs.set n ⟨ds,F.bv⟩)) (List.Perm.cons (zP t.av t.args) (List.Perm.cons (vK t.dv t.data) (List.Perm.cons (v8 t.bv t.banks) h.symm)))).append_right G)
    classical
    refine Jp.2 fun y=>?_
    simp only[FT.rows,Nb,Nf]
    omega⟩ rfl (v0:=T fg p.funcs.length d5) (v1:=.slice aa2 p.args.length ac2) (v2:=U p.entry) (v3:=U p.handler) (v4:=.slice f6 p.data.length f5) (v5:=.slice ba2 p.banks.length bc2) HC.out (by
    show(⟨(t.funcs.set n ⟨ds,F.bv⟩).map FT.fn,t.args,t.entry,t.handler,t.data,t.banks⟩:IProg)=mc p n
    unfold mc;rw[o9,s2.out,a7,Ox];have e:t.prog=p:=HT.out.2.1
    rw[<-e];rfl))
   have s8:=q0;clear f3 a7 p0 f2 f1 b2 b3 b7 a6 b0 b1 l1 d3 o9 o3 s8;go_upto_region 28 with fail
   try rw[m1]
   clear m1 z0 zf o0 ol q0 ql;go_wp2;refine bodyPost_ret (v:=.agg (D p (some ⟨fg,0,none⟩) d5 aa2 ac2 f6 f5 ba2 bc2)) ?_ rfl ?_
   ·rw[zM rfl];go_simp
   ·exact w6.out
theorem ah7 (s:List Int):(uR s).args.getD 0 0=0:=by
 obtain⟨c,_⟩:=sm s;exact no s (mdN s) Zo
structure TrcdOk (p:IProg) (n:Nat) (bl:List IBlk):Prop where
 at_:p.funcs[n]? =some bl
 valid:vC p=0
 sized:∀f∈p.funcs,vZ f
 small:SmallP p
 cnt:0<=aaG bl/\aaG bl<=65536
 ok:OkProg (mc p n)
 use:UseProg (mc p n)
 p64:P64 (mc p n)
 fin:∀(I Q:List Nat) (g:Int) (args:List Nat) (ram:ByteArray) (fuel:Int),(∀x∈I,x<65536)->(∀a∈args,a<65536)->aeQ ⟨rgsP p (n:Int),objP p (n:Int),aiX bl,p.data⟩ (bQ ⟨mc p n,I,Q⟩ g args ram fuel).out
theorem agO(s:List Int)(h64:P64 (uR s)){n:Nat}(c:(uR s).funcs[n]? =some bl):TrcdOk (uR s) n bl:=by
 have hv:=fm s;have hm:=acK s;have i:∀f∈(uR s).funcs,vZ f:=fun f hf=>(hm.sized Zd f hf).1
 obtain⟨h1,h2,h3,h4⟩:=akj s h64 c;have w:=jM hv (fun f hf b hb=>(hm.sized Zd f hf).2 b hb);have d:=aM hv i
 have j:∀f∈(uR s).funcs,∀b∈f,∀o∈b.ops,OpP o:=fun f hf b hb o ho=>by
  obtain⟨k,hk⟩:=Ny hf;exact((akj s h64 hk).2.2.1 b hb o ho).1
 have l:=(Jh.1 c).1;have m:(uR s).funcs.getD n []=bl:=by rw[Jj,c];rfl
 refine⟨c,hv,i,hm.small Zd,d.cnt bl (Ji c),ajL c w,ajw c d (fun b hb o ho=>(h3 b hb o ho).2) h1 h2,aj2 c h64 d h1,fun I Q g args ram fuel hI ha=>?_⟩
 by_cases u:bl=[]
 ·exact ag3 (t:=⟨[],[]⟩) l (fun h=>absurd (m.trans u) h) j hI g ha ram fuel
 ·have y:=ai8 hv i h64 c u;have x:=y.tr h4 (fun b hb o ho=>(h3 b hb o ho).1);have h5:=ag3 (I:=I) (Q:=Q) (T:=repF (uR s) bl) (t:=fnT (uR s) bl) l (fun _=>by rw[m];exact x) j hI g ha ram fuel;rw[akn hv c u,objP_at hv c];exact h5
theorem ajb{p:IProg}{n:Nat}(h:TrcdOk p n bl){V:PV}(hp:ProgIn w w.heap.size V p):I 21 #[yH V p,U n] w (ai1 w (mc p n)):=
 (ajH hp h.small h.at_ h.cnt).mono fun e w' h'=>pt_open h.p64 h'
def szL (l:List IOp):List Int:=(l.filter gw).map agj
theorem szL_yes(h:gw o=true):szL (l++ [o])=szL l++ [agj o]:=by unfold szL;rw[List.filter_append,Js];simp[h]
theorem szL_no(h:gw o=false):szL (l++ [o])=szL l:=by unfold szL;rw[List.filter_append,Js];simp[h]
theorem szL_le (l:List IOp):(szL l).length<=l.length:=by unfold szL;rw[Nr];exact List.length_filter_le _ _
theorem szsF_eq (bl:List IBlk):aiX bl=szL (bl.flatMap (·.ops)):=rfl
theorem afB{Z w9:World}{t2:Nat}{v v':Value}{z:Int}(hb:Below t2 w Z)(ht:t2<=Z.heap.size)(ho:Z.ownsRow t2 3 1 v on ((szL l).map zN))(hl:on=(szL l).length)(hg:(Z.alloc (G #[U z] 3)).grownBy w9 v.ownBlock)(d:gw o=true)(c:agj o=z)
 (g:w9.ownsRow t2 3 1 v' (on+1) ((szL l).map zN++ [U z])):on+1=(szL (l++ [o])).length/\Below t2 w w9/\w9.ownsRow t2 3 1 v' (on+1) ((szL (l++ [o])).map zN):=by
 rw[szL_yes d,c];refine⟨by rw[Jk,<-hl];rfl,?_,by rw[Js];exact g⟩;exact(hb.alloc ht _).grown hg Zt (wF (ho.alloc (G #[U z] 3)))
theorem ahP{B:Nat}{d7:Value}(c9:wX w B d7 bl)(hB:B<=w.heap.size)(hs:vZ bl):
 I 25 #[.agg #[d7]] w (afZ w (aiX bl)):=by
 obtain⟨fa,fc,rfl,g3,g2⟩:=c9.form;have g1:=hs.1;have d1:=Ja (Jb c9 (Jb hB hs));obtain⟨t2,c7⟩:∃t,w.heap.size=t:=⟨_,rfl⟩
 have d4:Below t2 w (w.alloc (G #[.slice fa bl.length fc] 39)):=(Below.refl _ _).alloc Zo _;have b6:=zI (W:=w) (o:=G #[.slice fa bl.length fc] 39) rfl;have d6:B<=t2:=Zo;clear c9 hB hs;go_enter Tryz.func25,Tryz.ntmps25;go_upto_region 1 with fail;generalize e7:w.alloc (G #[.slice fa bl.length fc] 39)=W1 at *;rw[c7] at b6;have c0:A W1 t2 0 (.slice fa bl.length fc):=zA (i:=0) b6 rfl;have f3:=lt_of_block b6;have H1:=Ja d4;have e9:=Ja (show W1.ownsRow t2 3 1 (L) 0 ((szL ([]:List IOp)).map zN) from Jv _ _ _ _);obtain⟨ii,b7,b0,a7,a6⟩:=info_parts Tryz.info_int;have HT:=Ja c7;clear e7 d4 b6 c7;go_wp2;clear c0
 go_loopw [3,11] (fun sv kv wx=>∃(k:Nat) (oa:Option Addr) (on oc:Nat),k<=bl.length/\sv=.slice oa on oc/\kv=U k/\Hid (on=(szL ((bl.take k).flatMap (·.ops))).length/\Below t2 w wx/\wx.ownsRow t2 3 1 (.slice oa on oc) on ((szL ((bl.take k).flatMap (·.ops))).map zN))) (fun _ kv _=>bl.length-(intOf kv).toNat)
 case atStart=>exact⟨0,none,0,0,Jt _,rfl,rfl,Ja ⟨rfl,H1.out,e9.out⟩⟩
 case round=>
  obtain⟨k,oa,on,oc,hk,rfl,rfl,HK⟩:=hrel
  by_cases a1:k<bl.length
  ·have b5:(k:Int)<(bl.length:Int):=Zo;obtain⟨b,hb⟩:∃b,bl[k]? =some b:=⟨_,Jd a1⟩
   have b2:t2<=wr.heap.size:=by have:=HK.out.2.1.size;have:=HT.out;omega
   have a4:=HK.out.2.1.mono d6;obtain⟨bb,bo,e6,a5,c2,c3,h64,pv,ov,tv,c0,c1,c4,c8,b4,c5⟩:=d1.out.1.get hb;have c0:=zV a4 a5 c0;have c1:=zV a4 a5 c1;have c2:=zV a4 a5 c2;have c3:=zV a4 a5 c3;have c4:=zV a4 a5 c4;obtain⟨pa,pc,rfl,f9,f8⟩:=c8.form;obtain⟨qa,qc,rfl,f7,f6⟩:=b4.form;obtain⟨ta,tc,rfl,f5,f4⟩:=c5.form;subst e6;have f2:bb<wr.heap.size:=Zo;have d3:=d1.out.2.2.2 b (Ji hb);have g0:b.ops.length<=2000000:=d3.2.1;obtain⟨Y,hY⟩:∃Y,wr.alloc (G #[.slice pa b.params.length pc,.slice qa b.ops.length qc,U b.term.kind,U b.term.a,.slice ta b.term.to.length tc] 84)=Y:=⟨_,rfl⟩
   have d0:Below wr.heap.size wr Y:=by rw[<-hY];exact(Below.refl _ _).alloc (Je _) _
   have d2:Q Y wr.heap.size #[.slice pa b.params.length pc,.slice qa b.ops.length qc,U b.term.kind,U b.term.a,.slice ta b.term.to.length tc] 84:=by rw[<-hY];exact zI rfl
   have HY:=Ja (show Below t2 w Y/\Y.ownsRow t2 3 1 (.slice oa on oc) on ((szL ((bl.take k).flatMap (·.ops))).map zN)/\Q Y wr.heap.size #[.slice pa b.params.length pc,.slice qa b.ops.length qc,U b.term.kind,U b.term.a,.slice ta b.term.to.length tc] 84 from⟨HK.out.2.1.trans (d0.mono b2),p7 HK.out.2.2 d0 (Je _),d2⟩);have b3:=Ja (Jb hb (Jb a1 HK.out.1));have e8:=Ja b4;clear a4 hb a5 c8 b4 c5 d0 d2 d3 h64 a1 b2;go_upto_region 5 with fail;clear hY c0 c1 c2 c3 c4;have z1:A Y wr.heap.size 1 (.slice qa b.ops.length qc):=zA HY.out.2.2 rfl;have zl:=lt_of_block HY.out.2.2;go_wp2;clear z1 zl
   go_loopw [3,18] (fun sv jv wx=>∃(j:Nat) (oa:Option Addr) (on oc:Nat),j<=b.ops.length/\sv=.slice oa on oc/\jv=U j/\Hid (on=(szL ((bl.take k).flatMap (·.ops)++b.ops.take j)).length/\Below t2 w wx/\wx.ownsRow t2 3 1 (.slice oa on oc) on ((szL ((bl.take k).flatMap (·.ops)++b.ops.take j)).map zN))) (fun _ jv _=>b.ops.length-(intOf jv).toNat)
   case atStart=>exact⟨0,oa,on,oc,Jt _,rfl,rfl,Ja ⟨by rw[Uc,Ua];exact b3.out.2.2,HY.out.1,by rw[Uc,Ua];exact HY.out.2.1⟩⟩
   case round=>
    rename World=>wq
    obtain⟨j,oa,on,oc,hj,rfl,rfl,HJ⟩:=hrel
    by_cases a1:j<b.ops.length
    ·have b5:(j:Int)<(b.ops.length:Int):=Zo;obtain⟨o,ho⟩:∃o,b.ops[j]? =some o:=⟨_,Jd a1⟩
     have b2:t2<=wq.heap.size:=by have:=HJ.out.2.1.size;have:=HT.out;omega
     obtain⟨qb,qo,d8,d9,e0,e1,e2,e3,e4,h64,av,e5,d5⟩:=(e8.out.below xA (HJ.out.2.1.mono d6)).get ho;obtain⟨aa,ac,rfl,_,_⟩:=d5.form;subst d8;have f0:qb<wq.heap.size:=Zo;obtain⟨c,hc⟩:∃c,o.code=c:=⟨_,rfl⟩
     rw[hc] at e0;obtain⟨Z,hZ⟩:∃Z,wq.alloc (G #[U c,U o.res,U o.a,U o.b,O (o.n:Int),.slice aa o.args.length ac] 76)=Z:=⟨_,rfl⟩
     have b8:Below wq.heap.size wq Z:=by rw[<-hZ];exact(Below.refl _ _).alloc (Je _) _
     have b9:Q Z wq.heap.size #[U c,U o.res,U o.a,U o.b,O (o.n:Int),.slice aa o.args.length ac] 76:=by rw[<-hZ];exact zI rfl
     have u:=Ja (show Below t2 w Z/\Z.ownsRow t2 3 1 (.slice oa on oc) on ((szL ((bl.take k).flatMap (·.ops)++b.ops.take j)).map zN)/\Q Z wq.heap.size #[U c,U o.res,U o.a,U o.b,O (o.n:Int),.slice aa o.args.length ac] 76/\t2<=Z.heap.size from⟨HJ.out.2.1.trans (b8.mono b2),p7 HJ.out.2.2 b8 (Je _),b9,by have:=b8.size;omega⟩)
     have f1:on<=4000000000000:=by
      have h1:=HJ.out.1;have h2:=szL_le ((bl.take k).flatMap (·.ops)++b.ops.take j);have h3:=aio (bl.take k) fun x hx=>(d1.out.2.2.2 x (List.mem_of_mem_take hx)).2.1
      rw[Jk,Oc] at h2;rw[Oc] at h3;have h4:=b3.out.2.1;omega
     have m:=Ja (Jb ho (Jb hc (Jb a1 HJ.out.1)));clear ho h64 d5 b8 b9 a1 b2 d9;go_upto_region 8 with fail;clear hZ e0 e1 e2 e3 e4 e5 hc;have z0:A Z wq.heap.size 0 (U c):=zA u.out.2.2.1 rfl;have zl:=lt_of_block u.out.2.2.1
     by_cases b1:c=18∨c=19∨c=20∨c=21
     ·have a2:gw o=true:=by rw[agx,m.out.2.1];exact decide_eq_true b1
      rcases b1 with rfl|rfl|rfl|rfl
      ·have y:agj o=2:=by unfold agj;(rw[m.out.2.1])<;>rfl
       go_wp2_with (at_builtin;go_must (refine zK _ rfl (.tmp 27) (.tmp 28) 22 rfl t2 3 ii (U 0) 1 8 Tryz.underlying22 b7 b0 a7 a6 rfl Zd (.slice oa on oc) on ((szL ((bl.take k).flatMap (·.ops)++b.ops.take j)).map zN) rfl (u.out.2.1.alloc _) (T Z.heap.size 1 1) 1 [U 2] rfl (yM.one (zI Zs) rfl) (by unfold maxLen;omega) Zo (by have:=u.out.2.2.2;simp;omega) ?_;intro v9 w9 d g a0))
       obtain⟨oa9,oc9,rfl⟩:=zG d;have a3:=Ja (afB u.out.1 u.out.2.2.2 u.out.2.1 m.out.2.2.2 g a2 y d);clear d g a0 y;go_roundw
       case rel=>exact⟨j+1,oa9,on+1,oc9,m.out.2.2.1,rfl,by go_num,Ja (by rw[em m.out.1,<-Nv];exact a3.out)⟩
       case measure=>have:=m.out.2.2.1;simp[intOf];omega
      ·have y:agj o=1:=by unfold agj;(rw[m.out.2.1])<;>rfl
       go_wp2_with (at_builtin;go_must (refine zK _ rfl (.tmp 33) (.tmp 34) 22 rfl t2 3 ii (U 0) 1 8 Tryz.underlying22 b7 b0 a7 a6 rfl Zd (.slice oa on oc) on ((szL ((bl.take k).flatMap (·.ops)++b.ops.take j)).map zN) rfl (u.out.2.1.alloc _) (T Z.heap.size 1 1) 1 [U 1] rfl (yM.one (zI Zs) rfl) (by unfold maxLen;omega) Zo (by have:=u.out.2.2.2;simp;omega) ?_;intro v9 w9 d g a0))
       obtain⟨oa9,oc9,rfl⟩:=zG d;have a3:=Ja (afB u.out.1 u.out.2.2.2 u.out.2.1 m.out.2.2.2 g a2 y d);clear d g a0 y;go_roundw
       case rel=>exact⟨j+1,oa9,on+1,oc9,m.out.2.2.1,rfl,by go_num,Ja (by rw[em m.out.1,<-Nv];exact a3.out)⟩
       case measure=>have:=m.out.2.2.1;simp[intOf];omega
      ·have y:agj o=2:=by unfold agj;(rw[m.out.2.1])<;>rfl
       go_wp2_with (at_builtin;go_must (refine zK _ rfl (.tmp 27) (.tmp 28) 22 rfl t2 3 ii (U 0) 1 8 Tryz.underlying22 b7 b0 a7 a6 rfl Zd (.slice oa on oc) on ((szL ((bl.take k).flatMap (·.ops)++b.ops.take j)).map zN) rfl (u.out.2.1.alloc _) (T Z.heap.size 1 1) 1 [U 2] rfl (yM.one (zI Zs) rfl) (by unfold maxLen;omega) Zo (by have:=u.out.2.2.2;simp;omega) ?_;intro v9 w9 d g a0))
       obtain⟨oa9,oc9,rfl⟩:=zG d;have a3:=Ja (afB u.out.1 u.out.2.2.2 u.out.2.1 m.out.2.2.2 g a2 y d);clear d g a0 y;go_roundw
       case rel=>exact⟨j+1,oa9,on+1,oc9,m.out.2.2.1,rfl,by go_num,Ja (by rw[em m.out.1,<-Nv];exact a3.out)⟩
       case measure=>have:=m.out.2.2.1;simp[intOf];omega
      ·have y:agj o=1:=by unfold agj;(rw[m.out.2.1])<;>rfl
       go_wp2_with (at_builtin;go_must (refine zK _ rfl (.tmp 33) (.tmp 34) 22 rfl t2 3 ii (U 0) 1 8 Tryz.underlying22 b7 b0 a7 a6 rfl Zd (.slice oa on oc) on ((szL ((bl.take k).flatMap (·.ops)++b.ops.take j)).map zN) rfl (u.out.2.1.alloc _) (T Z.heap.size 1 1) 1 [U 1] rfl (yM.one (zI Zs) rfl) (by unfold maxLen;omega) Zo (by have:=u.out.2.2.2;simp;omega) ?_;intro v9 w9 d g a0))
       obtain⟨oa9,oc9,rfl⟩:=zG d;have a3:=Ja (afB u.out.1 u.out.2.2.2 u.out.2.1 m.out.2.2.2 g a2 y d);clear d g a0 y;go_roundw
       case rel=>exact⟨j+1,oa9,on+1,oc9,m.out.2.2.1,rfl,by go_num,Ja (by rw[em m.out.1,<-Nv];exact a3.out)⟩
       case measure=>have:=m.out.2.2.1;simp[intOf];omega
     ·have a2:gw o=false:=by rw[agx,m.out.2.1];exact decide_eq_false b1
      have HA:=Ja (szL_no (l:=(bl.take k).flatMap (·.ops)++b.ops.take j) a2);have g9:(c==18)=false:=Ze;have g6:(c==19)=false:=Ze;have g5:(c==20)=false:=Ze;have g4:(c==21)=false:=Ze;clear a2 b1;go_wp2;go_roundw
      case rel=>exact⟨j+1,oa,on,oc,m.out.2.2.1,rfl,by go_num,Ja (by rw[em m.out.1,<-Nv,HA.out];exact⟨m.out.2.2.2,u.out.1,u.out.2.1⟩)⟩
      case measure=>have:=m.out.2.2.1;simp[intOf];omega
    ·obtain rfl:j=b.ops.length:=by omega
     have b5:¬(b.ops.length:Int)<(b.ops.length:Int):=Zo;clear a1;go_wp2;go_roundw
     case rel=>exact⟨k+1,oa,on,oc,b3.out.2.1,rfl,by go_num,Ja (by rw[agY b3.out.1];have h:=HJ.out;rw[Nl] at h;exact h)⟩
     case measure=>have:=b3.out.2.1;simp[intOf];omega
  ·obtain rfl:k=bl.length:=by omega
   have b5:¬(bl.length:Int)<(bl.length:Int):=Zo;clear a1;go_wp2;go_ret;have h:=HK.out;rw[Nl] at h;refine⟨_,rfl,?_,by rw[HT.out];exact h.2.1⟩;rw[HT.out,szsF_eq,<-h.1];exact h.2.2
theorem agH (r:Nat):(y9 (gD r 272)).size<=9223372036854775807:=by rw[mG,gT];decide
theorem ajM{w':World}{R:List Rg}(h:R≠ []->∃b,ra=some ⟨b,0,none⟩/\Q w' b (R.flatMap pn).toArray 45/\w.heap.size<=b):akU w' ra R:=fun h0=>by
 obtain⟨b,e,h1,_⟩:=h h0;exact⟨b,e,h1⟩
theorem afT{z:World}{R:List Rg}(h:akU w ra R)(hb:Y w z):akU z ra R:=fun h0=>by
 obtain⟨b,e,h1⟩:=h h0;exact⟨b,e,zH hb h1 (lt_of_block h1)⟩
theorem ahO:∀z∈aiX bl,1<=z/\z<=2:=fun z hz=>by
 obtain⟨o,_,rfl⟩:=Nu.1 hz;unfold agj
 split<;>omega
theorem ajh {p:IProg}(hv:vC p=0)(n:Int):∀z∈objP p n,I64 z:=fun z hz=>by
 unfold objP at hz
 split at hz
 ·obtain⟨o,_,rfl⟩:=Nu.1 hz;have d:=ahD hv;rcases afz p.data 0 ((p6 p (p.funcs.getD n.toNat [])).getD o.a.toNat ⟨0,0⟩) (agj o) with h|⟨j,c,h,_⟩
  ·show I64 (afL p.data _ o)
   unfold afL
   show I64 (ae6 p.data ((0:Nat):Int) _ _)
   rw[h];exact⟨by decide,by decide⟩
  ·show I64 (afL p.data _ o)
   unfold afL
   show I64 (ae6 p.data ((0:Nat):Int) _ _)
   rw[h];exact⟨by omega,by omega⟩
 ·cases hz
end Go.Proofs.YtoahcpkibpomcaaGreat
