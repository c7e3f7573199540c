/- Part of a proof. -/
import Derived.Test.YtoahcpkibpomcaaGreatGZq2w
set_option linter.all false
set_option maxHeartbeats 8000000
set_option maxRecDepth 100000
namespace Go.Proofs.YtoahcpkibpomcaaGreat
open Go.RowKit
variable {w w0:World}{K:MK}{m:Mach}{dp g j oa ob:Int}{k on vb:Nat}{o:IOp}
theorem qstep_2{ov:Value}(h:MachQ w K m none dp ov)(b5:on<65536)(ab:Option Addr)(an ac:Nat){n:Nat}{v:Int->Nat}(hv:dA w vb n v)(a8:Int)(a5:0<=oa/\oa.toNat<K.E.p.data.length):
 G 103 #[Q K.pm,.agg #[U 2,U g,U oa,U ob,Y on,.slice ab an ac],F vb n n,U a8] w (pn K w (.ok ((((K.E.p.data.getD oa.toNat ⟨0,0,0⟩).addr)+on)%65536) m)):=by
 have b4:=hv.2 oa;have b3:=hv.2 ob;have y:=zI (W:=w) (o:=I #[U 2,U g,U oa,U ob,Y on,.slice ab an ac] 76) rfl;have a4:N w (w.alloc (I #[U 2,U g,U oa,U ob,Y on,.slice ab an ac] 76)):=(Below.refl _ _).alloc (Je _) _;have H:=Ja h;have HV:=Ja hv;have t:=Ja (Jb y a4);clear h hv y a4;generalize u:v oa=xa at *;generalize a2:v ob=xb at *;have HX:=Ja (Jb u a2);clear u a2;go_enter Tryz.func103,Tryz.ntmps103;go_upto_region 4 with(go_at_call 52;go_must (refine(aaK 2 _).mono ?_;rintro e w1 ⟨he,d⟩;obtain rfl:e=.returned (.agg #[.bool true,.bool true,.bool false,.bool false,.bool true]):=he))
 have l:N w (w1.alloc (I #[.bool true,.bool true,.bool false,.bool false,.bool true] 120)):=(t.out.2.trans (d.mono t.out.2.size)).alloc (Jn t.out.2.size d.size) _;have c:=zB (o:=(I #[.bool true,.bool true,.bool false,.bool false,.bool true] 120)) (zH d t.out.1 (lt_of_block t.out.1));have j:=zI (W:=w1) (o:=(I #[.bool true,.bool true,.bool false,.bool false,.bool true] 120)) rfl;have b8:w1.heap.size≠w.heap.size:=by have:=d.size;simp at this;omega
 generalize w1.alloc (I #[.bool true,.bool true,.bool false,.bool false,.bool true] 120)=W2 at *;generalize w1.heap.size=bs at *;have a1:=H.out.keep l;have a6:=HV.out.below (zH l HV.out.1 (lt_of_block HV.out.1));have p0:=K0 c;have p2:=K2 c;have p3:=K3 c;have p4:=K4 c;have p5:=K5 c;have s2:=K2 j;have s3:=K3 j;have b2:=lt_of_block c;have b1:=lt_of_block j;have HM:=Ja a1;have HF:=Ja (FrmQ.ofBelow l (Qd H.out.size));have b0:=a1.lt;clear l c j d t a1 a6;obtain⟨k,rfl⟩:∃k:Nat,oa=(k:Int):=⟨oa.toNat,by omega⟩
 have a3:k<K.E.p.data.length:=Zo;have b6:(k:Int)<K.E.p.data.length:=Zo;have i:=HM.out.prog.data;obtain⟨da,dc,a0,_,_⟩:=i.form;rw[a0] at i;obtain⟨x,hx⟩:∃x,K.E.p.data[k]? =some x:=⟨_,Jd a3⟩
 obtain⟨b,oo,rfl,_,_,b7,_,_,u,_⟩:=i.get hx;have c4:=HM.out.c4;rw[a0] at c4;have EE:=Ja (show(K.E.p.data.getD ((k:Nat):Int).toNat ⟨0,0,0⟩).addr=x.addr by rw[Ni,Jj,hx];rfl);clear a5 a3 i a0 hx;go_upto_region 16 with fail;go_quiet (fail);go_wp2;go_ret;rw[EE.out];have e:Ending.returned (Y (IntKind.u16.wrap ((x.addr:Int)+(on:Int))))=.returned (Y (((x.addr+on)%65536:Nat):Int)):=zh (by rw[xY];omega);exact e ▸ pn.ok (HM.out.drewN _) HF.out.drewN Zo
theorem qstep_24{ov:Value}(h:MachQ w K m none dp ov)(c9:on<65536)(ab:Option Addr)(an ac:Nat){n:Nat}{v:Int->Nat}(hv:dA w vb n v)(b3:Int):
 G 103 #[Q K.pm,.agg #[U 24,U j,U oa,U ob,Y on,.slice ab an ac],F vb n n,U b3] w (pn K w (uq K.E m)):=by
 have c8:=hv.2 oa;have c5:=hv.2 ob;have a0:=zI (W:=w) (o:=I #[U 24,U j,U oa,U ob,Y on,.slice ab an ac] 76) rfl;have a5:N w (w.alloc (I #[U 24,U j,U oa,U ob,Y on,.slice ab an ac] 76)):=(Below.refl _ _).alloc (Je _) _;have H:=Ja h;have HV:=Ja hv;have H0:=Ja (Jb a0 a5);clear h hv a0 a5;generalize a3:v oa=xa at *;generalize a2:v ob=xb at *;have HX:=Ja (Jb a3 a2);clear a3 a2;go_enter Tryz.func103,Tryz.ntmps103;go_upto_region 4 with(go_at_call 52;go_must (refine(aaK 24 _).mono ?_;rintro e w1 ⟨he,i⟩;obtain rfl:e=.returned (.agg #[.bool true,.bool true,.bool false,.bool false,.bool true]):=he))
 have u:N w (w1.alloc (I #[.bool true,.bool true,.bool false,.bool false,.bool true] 120)):=(H0.out.2.trans (i.mono H0.out.2.size)).alloc (Jn H0.out.2.size i.size) _;have c:=zB (o:=(I #[.bool true,.bool true,.bool false,.bool false,.bool true] 120)) (zH i H0.out.1 (lt_of_block H0.out.1));have t:=zI (W:=w1) (o:=(I #[.bool true,.bool true,.bool false,.bool false,.bool true] 120)) rfl;have d2:w1.heap.size≠w.heap.size:=by have:=i.size;simp at this;omega
 generalize w1.alloc (I #[.bool true,.bool true,.bool false,.bool false,.bool true] 120)=W2 at *;generalize w1.heap.size=bs at *;have a1:=H.out.keep u;have b0:=HV.out.below (zH u HV.out.1 (lt_of_block HV.out.1));have p0:=K0 c;have p2:=K2 c;have p3:=K3 c;have p4:=K4 c;have p5:=K5 c;have s2:=K2 t;have s3:=K3 t;have c3:=lt_of_block c;have c2:=lt_of_block t;have y:=Ja a1;have HF:=Ja (FrmQ.ofBelow u (Qd H.out.size));have c1:=a1.lt;clear u c t i H0 a1 b0;have c7:=y.out.c7;have c17:=y.out.c17;have g:=y.out.inn;obtain⟨ia,ic,k,d1,d0⟩:=g.form;rw[k] at c7 g;have b1:=y.out.inp
 by_cases d:m.inputs<K.E.inn.length
 ·obtain⟨x,hx⟩:∃x,K.E.inn[m.inputs]? =some x:=⟨_,Jd d⟩
  obtain⟨b,o,rfl,a4,l,a8⟩:=g.get hx;rw[Nk] at l;have EE:=Ja (show uq K.E m=.ok x {m with inputs:=m.inputs+1 } by unfold uq;rw[if_pos d,Jj,hx];rfl);have hJ:(m.inputs:Int)<K.E.inn.length:=Zo;have b4:=Ja d;have b7:=Ja a4;have a6:K.E.inn.length<=9223372036854775807:=Zo;have b5:=Ja k;clear g d hx b1 k a4;go_upto_region 34 with fail
  go_cut [123] (fun v wx=>v=.bool true/\∃n,wx=W2.drewN n)
  case first=>
   go_quiet (fail);go_wp2;go_meet;exact⟨rfl,_,rfl⟩
  case rest=>
   obtain⟨rfl,n2,rfl⟩:=hcut;have hm:=y.out.drewN n2;have h1:=hm.put 17 (U ((m.inputs:Int)+1)) (m':= {m with inputs:=m.inputs+1 }) (tr':=none) (dp':=dp) rfl rfl rfl hm.obd hm.fuel b4.out hm.pol;have hF:FrmQ K.B W2 ((W2.drewN n2).setCell ⟨K.pm,17,none⟩ (U ((m.inputs:Int)+1))):=(FrmQ.refl _ _).drewN.trans (hm.frm 17 _);have d7:(W2.drewN n2).cell? ⟨K.pm,7,none⟩=_:=c7;have d4:(W2.drewN n2).cell? ⟨K.pm,17,none⟩=_:=c17;have c0:D (W2.drewN n2) K.pm 17:=hm.free 17;have b9:=hm.lt;have e7:=h1.c7;rw[b5.out] at e7;have d3:=h1.c17;have b8:=h1.lt;have b2:=(hF.below.cell (p:=⟨b,o+m.inputs,none⟩) b7.out).trans l;have c4:IntKind.i64.wrap (((m.inputs+1:Nat):Int)-1)=(m.inputs:Int):=by rw[show(((m.inputs+1:Nat):Int)-1)=(m.inputs:Int) by omega];exact Om _ Zo
   have H1:=Ja h1;have b6:=Ja (HF.out.trans hF);clear h1 hF c7 c17 hm;go_upto_region 36 with fail;go_quiet (fail);go_wp2;go_ret;rw[EE.out];exact pn.ok (H1.out.drewN _) b6.out.drewN a8
 ·have EE:=Ja (show uq K.E m=.ok 0 m by unfold uq;rw[if_neg d]);have hJ:¬(m.inputs:Int)<K.E.inn.length:=Zo;have a6:K.E.inn.length<=9223372036854775807:=Zo;clear d g k;go_upto_region 34 with fail
  go_cut [123] (fun v wx=>v=.bool false/\∃n,wx=W2.drewN n)
  case first=>
   go_quiet (fail);go_wp2;go_meet;exact⟨rfl,_,rfl⟩
  case rest=>
   obtain⟨rfl,n2,rfl⟩:=hcut;go_wp2;go_ret;rw[EE.out];exact pn.ok (x:=0) (y.out.drewN _) HF.out.drewN Zd
theorem MachQ.setO{w2:World}{ov c:Value}{o:Obj}{p x:Nat}(h:MachQ w K m none dp ov)(hg:(w.alloc o).grownBy w2 ov.ownBlock)
 (i:w2.ownsRow K.B 117 2 c (m.out.length+1) (qO m.out++ [vL p,vL x])) (hp:p<65536) (t:x<65536) (hb:m.out.length+1+m.fuel.toNat<=4000000):
 MachQ (w2.setCell ⟨K.pm,13,none⟩ c) K {m with out:=m.out++ [(p,x)]} none dp c/\FrmQ K.B w (w2.setCell ⟨K.pm,13,none⟩ c):=by
 have n1:=zC h.out h.blk (.inr Zd);have n2:=zC h.out h.ram (.inr Zd);have b2:=zL hg (zB h.blk) n1;have r2:=zL hg (zB h.ram) n2;have hB:=h.size
 have l:FrmQ K.B w w2:=by
  refine⟨((Below.refl _ _).alloc (Qd hB) o).grown hg Zt (fun k hk=>(h.out.lt k hk).1),fun k o' hk hs=>?_⟩;refine zL hg (zB hk) ?_;intro e;obtain⟨_,h2⟩:=h.out;rcases h2 with⟨hv,_⟩|⟨g,y,cur,hv,_,u,_⟩
  ·rw[hv] at e;simp[Value.ownBlock] at e
  ·rw[hv] at e;simp only[Value.ownBlock,Option.some.injEq] at e;subst e;rw[u] at hk;have:=Nt hk;subst this;exact hs.2.1 rfl
 have j:FrmQ K.B w (w2.setCell ⟨K.pm,13,none⟩ c):=l.set b2 h.gpm (by simp[di]) _;refine⟨⟨?_,zR r2 (by simpa using h.ne),h.rlen,h.rlt,?_,?_,?_,h.fuel,h.inp,h.pol,h.gpm,h.grb,h.prog.below j.below,h.inn.below zr j.below,h.irq.below xQ j.below⟩,j⟩
 ·rw[zD b2];rfl
 ·have e1:(m.out++ [(p,x)]).length=m.out.length+1:=by simp
  show(w2.setCell ⟨K.pm,13,none⟩ c).ownsRow K.B 117 2 c (m.out++ [(p,x)]).length (qO (m.out++ [(p,x)]))
  rw[e1,kF];exact ownsRow_setCell_other i (by intro e;exact zC i b2 (.inr Zd) (by simpa using e)) _
 ·intro q d;rcases Jl.1 d with d|d
  ·exact h.olt q d
  ·simp at d;subst d;exact⟨hp,t⟩
 ·show(m.out++ [(p,x)]).length+m.fuel.toNat<=4000000
  simp;omega
theorem qstep_25{ov:Value}(h:MachQ w K m none dp ov)(b8:on<65536)(ab:Option Addr)(an ac:Nat){n:Nat}{v:Int->Nat}(hv:dA w vb n v)(d0:0<=oa/\oa.toNat<n)(c2:Int)(b9:m.out.length+1+m.fuel.toNat<=4000000):
 G 103 #[Q K.pm,.agg #[U 25,U j,U oa,U ob,Y on,.slice ab an ac],F vb n n,U c2] w (pn K w (adS m on (v oa))):=by
 have b7:=hv.2 oa;have c9:=hv.2 ob;obtain⟨ka,rfl⟩:∃ka:Nat,oa=(ka:Int):=⟨oa.toNat,by omega⟩
 have b3:ka<n:=Zo;have d2:(ka:Int)<(n:Int):=Zo;have a1:=zI (W:=w) (o:=I #[U 25,U j,U ka,U ob,Y on,.slice ab an ac] 76) rfl;have a8:N w (w.alloc (I #[U 25,U j,U ka,U ob,Y on,.slice ab an ac] 76)):=(Below.refl _ _).alloc (Je _) _;have H:=Ja h;have HV:=Ja hv;have y:=Ja (Jb a1 a8);clear h hv a1 a8;generalize a6:v (ka:Int)=xa at *;generalize a5:v ob=xb at *;have HX:=Ja (Jb a6 a5);clear a6 a5;go_enter Tryz.func103,Tryz.ntmps103;go_upto_region 4 with(go_at_call 52;go_must (refine(aaK 25 _).mono ?_;rintro e w1 ⟨he,i⟩;obtain rfl:e=.returned (.agg #[.bool true,.bool false,.bool true,.bool false,.bool true]):=he))
 have l:N w (w1.alloc (I #[.bool true,.bool false,.bool true,.bool false,.bool true] 120)):=(y.out.2.trans (i.mono y.out.2.size)).alloc (Jn y.out.2.size i.size) _;have c:=zB (o:=(I #[.bool true,.bool false,.bool true,.bool false,.bool true] 120)) (zH i y.out.1 (lt_of_block y.out.1));have k:=zI (W:=w1) (o:=(I #[.bool true,.bool false,.bool true,.bool false,.bool true] 120)) rfl;have d5:w1.heap.size≠w.heap.size:=by have:=i.size;simp at this;omega
 generalize w1.alloc (I #[.bool true,.bool false,.bool true,.bool false,.bool true] 120)=W2 at *;generalize w1.heap.size=bs at *;have a2:=H.out.keep l;have a0:=HV.out.below (zH l HV.out.1 (lt_of_block HV.out.1));have p0:=K0 c;have p2:=K2 c;have p3:=K3 c;have p4:=K4 c;have p5:=K5 c;have s2:=K2 k;have s3:=K3 k;have c8:=lt_of_block c;have c7:=lt_of_block k;have ca:A W2 vb ka (Y xa):=by rw[<-HX.out.1];exact a0.cell b3
 have c5:=lt_of_block a0.1;have u:=Ja a2;have HF:=Ja (FrmQ.ofBelow l (Qd H.out.size));have a4:=a2.lt;clear l c k i y a2 a0;obtain⟨ii,c0,b2,b1,b0⟩:=info_parts Tryz.info_event;have c13:=u.out.c13;have c1:=u.out.free 13;have d:=u.out.out;have nb:=zC d u.out.blk (.inr Zd);obtain⟨oa',oc',rfl⟩:=zG d;have b6:=Ja d;have d1:m.out.length<=4000000:=Zo;have b5:∀o,A (W2.alloc o) K.pm 13 (.slice oa' m.out.length oc'):=fun o=>(Oo (w:=W2) (Below.heap_alloc _ _ _ a4)).trans c13
 have b4:∀o,D (W2.alloc o) K.pm 13:=fun o=>(Qm (w:=W2) (Below.heap_alloc _ _ _ a4)).trans c1
 have d4:K.B<W2.heap.size:=u.out.size;clear d;go_upto_region 38 with fail
 go_region_law (first|(refine step_append_lies _ (by rfl) (.tmp 153) (.tmp 158) _ (by rfl) K.B 117 ii (.agg #[Y 0,Y 0]) 2 4 Tryz.underlying53 c0 b2 b1 b0 rfl Zo (.slice oa' m.out.length oc') m.out.length (qO m.out) (by rfl) ((b6.out.alloc _).drew) ⟨W2.heap.size,0,none⟩ 1 1 [Y on,Y xa] (by rfl) (by rfl) (Oi (cs:=#[Y on,Y xa]) (t:=117) (fr:=(0,0)) (heap_alloc_new W2 _)) (by simp[Value.oneCell']) Zo (by unfold maxLen;omega) Zo Zt (W2.heap.size+1) Zs ?_;intro gg c4 w3 a3 g d3 c3;have d7:=(g.cell_far ⟨K.pm,13,none⟩ Zt (Ne.symm nb)).trans (b5 _);have d6:=(g.frozen_far ⟨K.pm,13,none⟩ Zt (Ne.symm nb)).trans (b4 _)))
 all_goals go_wp2_with fail
 all_goals go_ret
 all_goals (
  have hO:=u.out.setO (p:=on) (x:=xa) (xN g) (by simpa[vL] using a3) b8 b7 b9
  exact pn.ok (x:=0) hO.1 (HF.out.trans hO.2) Zd)
theorem bK{S n:Nat}{ty:TypeId}{sz:Nat}{av:Value}{xs:List Value}(h:w.ownsRow S ty sz av n xs){b:Nat}{o:Nat}{n' c:Nat}(e:av=.slice (some ⟨b,o,none⟩) n' c):S<=b:=by
 obtain⟨_,h2⟩:=h;rcases h2 with⟨hv,_⟩|⟨g,d,cur,hv,hg,i,_⟩
 ·rw[hv] at e;cases e
 ·rw[hv] at e;cases e;exact hg
def zeroR:Res Nat->Res Nat
 |.ok _ m'=> .ok 0 m'
 |.trap k i m'=> .trap k i m'
def cX (K:MK)(r:Nat):Prop:=
 ∀(w:World) (m:Mach) (dp:Int) (ov av:Value) (f:Int) (args:List Nat),MachQ w K m none dp ov->0<=f->f.toNat<K.E.p.funcs.length->wV w w.heap.size av args->(args.length:Int)=K.E.p.args.getD f.toNat 0->(∀b o n c,av=.slice (some ⟨b,o,none⟩) n c->args≠ []->b≠K.pm)->
  G 47 #[Q K.pm,U f,av,U (101-(r:Int))] w (pn K w (xW K.E r f args m))
theorem poll_q{ov:Value}(h:MachQ w K m none dp ov)(a8:OkProg K.E.p){r:Nat}(hr:r<=100)(hC:cX K r):
 G 128 #[Q K.pm,U (100-(r:Int))] w (et K w (tY K.E (xW K.E r) m)):=by
 have c8:=h.c8;have c18:=h.c18;have t:=h.irq;obtain⟨ia,ic,a2,d1,d0⟩:=t.form;rw[a2] at c8 t;have b6:=h.pol;have b5:=h.lt;have H:=Ja h;have c0:=Ja a8;have HC:=Ja hC;clear h a8 hC
 by_cases l:m.polls<K.E.irq.length
 ·obtain⟨x,hx⟩:∃x,K.E.irq[m.polls]? =some x:=⟨_,Jd l⟩
  obtain⟨b,o,rfl,b0,j,c7⟩:=t.get hx;rw[Nk] at j;have hg:K.E.irq.getD m.polls 0=x:=by rw[Jj,hx];rfl
  have hJ:¬(K.E.irq.length:Int)<=(m.polls:Int):=Zo;have d3:(m.polls:Int)<K.E.irq.length:=Zo;have b3:K.E.irq.length<=9223372036854775807:=Zo;have u:=Ja l;have d4:=Ja b0;have HG:=Ja hg;clear t l hx b6 a2 b0 hg;go_enter Tryz.func128,Tryz.ntmps128;go_upto_region 0 with fail
  go_cut [16] (fun v wx=>v=.bool false/\∃n,wx=w.drewN n)
  case first=>
   go_quiet (fail);go_wp2;go_meet;exact⟨rfl,_,rfl⟩
  case rest=>
   obtain⟨rfl,n,rfl⟩:=hcut;have H1:=Ja (H.out.drewN n);have c1:=Ja ((FrmQ.refl K.B w).drewN (n:=n));have d8:(w.drewN n).cell? ⟨K.pm,8,none⟩=_:=c8;have b2:(w.drewN n).cell? ⟨K.pm,18,none⟩=_:=c18;have dc:(w.drewN n).cell? ⟨b,o+m.polls,none⟩=_:=j;have c5:=H1.out.lt;clear c8 c18 j b5;generalize w.drewN n=W1 at *;go_upto_region 1 with fail
   go_cut [4] (fun v wx=>v=.int .u8 (x:Int)/\∃n,wx=W1.drewN n)
   case first=>
    go_quiet (fail);go_wp2;go_meet;exact⟨rfl,_,rfl⟩
   case rest=>
    obtain⟨rfl,n2,rfl⟩:=hcut;have hm:=H1.out.drewN n2;have h2:=hm.put 18 (U ((m.polls:Int)+1)) (m':= {m with polls:=m.polls+1 }) (tr':=none) (dp':=dp) rfl rfl rfl hm.obd hm.fuel hm.inp u.out;have b9:(W1.drewN n2).cell? ⟨K.pm,18,none⟩=_:=b2;have b4:D (W1.drewN n2) K.pm 18:=hm.free 18;have c4:=hm.lt;have a0:=Ja (c1.out.trans ((FrmQ.refl _ _).drewN.trans (hm.frm 18 (U ((m.polls:Int)+1)))));have H2:=Ja h2;clear h2 hm d8 b2 dc;go_upto_region 3 with fail;generalize b7:(W1.drewN n2).setCell ⟨K.pm,18,none⟩ (U ((m.polls:Int)+1))=W2 at *;have f3:=H2.out.c3;have c2:=H2.out.lt;have a5:(x≠0/\K.E.p.handler≠-1)∨(x=0)∨(x≠0/\K.E.p.handler=-1):=Zo;clear b7 b9 b4;rcases a5 with⟨g,hh⟩|g|⟨g,hh⟩
    ·obtain⟨g1,g2,g3⟩:=c0.out.hnd hh;have hX:((x:Int)==0)=false:=Ze;have d:=HC.out W2 {m with polls:=m.polls+1 } dp ov (L) K.E.p.handler [] H2.out g1 g2 yN.nil (by rw[g3];rfl) (by intro b o n c e;cases e);obtain⟨R,hR⟩:∃R,xW K.E r K.E.p.handler [] {m with polls:=m.polls+1 }=R:=⟨_,rfl⟩
     rw[hR] at d;have hd:(100-(r:Int))+1=101-(r:Int):=Zo;have EE:=Ja (show tY K.E (xW K.E r) m=zeroR R by unfold tY;rw[if_pos u.out,HG.out,if_pos ⟨g,hh⟩,hR];cases R<;>rfl);have a6:(x:Int)≠0:=Zo;clear g hh hR g2 g3
     cases R with
     |ok y m'=>
      have a4:=Ja d;clear d;go_wp2_with (go_at_call 47;go_must (refine a4.out.mono ?_;rintro e w3 ⟨he,⟨b1,ov3,a1⟩,a3,c9⟩;obtain rfl:e=.returned (Y y):=he))
      go_end0
      rw[EE.out]
      exact et.ok (x:=0) a1 (a0.out.trans a3) Zd
     |trap k i m'=>
      have a4:=Ja d;clear d;go_wp2_with (go_at_call 47;go_must (refine a4.out.mono ?_;rintro e w3 ⟨he,⟨b1,ov3,b8,a1⟩,a3⟩;obtain rfl:e=.returned (Y 0):=he))
      go_end0
      rw[EE.out];exact⟨rfl,⟨b1,ov3,b8,a1⟩,a0.out.trans a3⟩
    ·have hX:((x:Int)==0)=true:=by rw[beq_iff_eq];omega
     have EE:=Ja (show tY K.E (xW K.E r) m=.ok 0 {m with polls:=m.polls+1 } by unfold tY;rw[if_pos u.out,HG.out,if_neg (by rintro⟨h,_⟩;exact h g)]);have a6:(x:Int)=0:=Zo;clear g;go_wp2
     go_end0
     rw[EE.out];exact et.ok (x:=0) H2.out a0.out Zd
    ·have hX:((x:Int)==0)=false:=Ze;have EE:=Ja (show tY K.E (xW K.E r) m=.ok 0 {m with polls:=m.polls+1 } by unfold tY;rw[if_pos u.out,HG.out,if_neg (by rintro⟨_,h⟩;exact h hh)]);have a6:(x:Int)≠0:=Zo;have d2:¬(0:Int)<=K.E.p.handler:=Zo;clear g;go_wp2
     go_end0
     rw[EE.out];exact et.ok (x:=0) H2.out a0.out Zd
 ·have EE:=Ja (show tY K.E (xW K.E r) m=.ok 0 m by unfold tY;rw[if_neg l]);have hJ:(K.E.irq.length:Int)<=(m.polls:Int):=Zo;have b3:K.E.irq.length<=9223372036854775807:=Zo;clear l t a2;go_enter Tryz.func128,Tryz.ntmps128;go_upto_region 0 with fail
  go_cut [16] (fun v wx=>v=.bool true/\∃n,wx=w.drewN n)
  case first=>
   go_quiet (fail);go_wp2;go_meet;exact⟨rfl,_,rfl⟩
  case rest=>
   obtain⟨rfl,n,rfl⟩:=hcut;go_wp2
   go_end0
   rw[EE.out];exact et.ok (x:=0) (H.out.drewN n) (FrmQ.refl _ _).drewN Zd
theorem qstep_27{ov:Value}(h:MachQ w K m none dp ov)(b8:on<65536)(ab:Option Addr)(an ac:Nat){n:Nat}{v:Int->Nat}(hv:dA w vb n v)(b0:Hid (OkProg K.E.p)){r:Nat}(hr:r<=100)(hC:Hid (cX K r)):
 G 103 #[Q K.pm,.agg #[U 27,U g,U oa,U ob,Y on,.slice ab an ac],F vb n n,U (100-(r:Int))] w (pn K w (tY K.E (xW K.E r) m)):=by
 have b7:=hv.2 oa;have b6:=hv.2 ob;have u:=zI (W:=w) (o:=I #[U 27,U g,U oa,U ob,Y on,.slice ab an ac] 76) rfl;have a4:N w (w.alloc (I #[U 27,U g,U oa,U ob,Y on,.slice ab an ac] 76)):=(Below.refl _ _).alloc (Je _) _;have H:=Ja h;have HV:=Ja hv;have t:=Ja (Jb u a4);clear h hv u a4;generalize a3:v oa=xa at *;generalize a2:v ob=xb at *;have HX:=Ja (Jb a3 a2);clear a3 a2;go_enter Tryz.func103,Tryz.ntmps103;go_upto_region 4 with(go_at_call 52;go_must (refine(aaK 27 _).mono ?_;rintro e w1 ⟨he,d⟩;obtain rfl:e=.returned (.agg #[.bool true,.bool false,.bool false,.bool false,.bool false]):=he))
 have l:N w (w1.alloc (I #[.bool true,.bool false,.bool false,.bool false,.bool false] 120)):=(t.out.2.trans (d.mono t.out.2.size)).alloc (Jn t.out.2.size d.size) _;have c:=zB (o:=(I #[.bool true,.bool false,.bool false,.bool false,.bool false] 120)) (zH d t.out.1 (lt_of_block t.out.1));have j:=zI (W:=w1) (o:=(I #[.bool true,.bool false,.bool false,.bool false,.bool false] 120)) rfl;have b9:w1.heap.size≠w.heap.size:=by have:=d.size;simp at this;omega
 generalize w1.alloc (I #[.bool true,.bool false,.bool false,.bool false,.bool false] 120)=W2 at *;generalize w1.heap.size=bs at *;have a1:=H.out.keep l;have a8:=HV.out.below (zH l HV.out.1 (lt_of_block HV.out.1));have p0:=K0 c;have p2:=K2 c;have p3:=K3 c;have p4:=K4 c;have p5:=K5 c;have s2:=K2 j;have s3:=K3 j;have b4:=lt_of_block c;have b3:=lt_of_block j;have HM:=Ja a1;have HF:=Ja (FrmQ.ofBelow l (Qd H.out.size));have b2:=a1.lt;clear l c j d t a1 a8;obtain⟨R,hR⟩:∃R,tY K.E (xW K.E r) m=R:=⟨_,rfl⟩
 have hc:=poll_q HM.out b0.out hr hC.out;have EE:=Ja hR;rw[show tY K.E (xW K.E r) m=R from hR] at hc
 cases R with
 |ok x m'=>
  have HC:=Ja hc;have a6:x=0:=by exact lU EE.out
  clear hc hR;subst a6;go_wp2_with (go_at_call 128;go_must (refine HC.out.mono ?_;rintro e w3 ⟨he,⟨a5,ov3,y⟩,a0,b5⟩;subst he))
  go_ret;rw[EE.out]
  exact pn.ok (x:=0) y (HF.out.trans a0) Zd
 |trap k i m'=>
  have HC:=Ja hc;clear hc hR;go_wp2_with (go_at_call 128;go_must (refine HC.out.mono ?_;rintro e w3 ⟨he,⟨a5,ov3,b1,y⟩,a0⟩;subst he))
  go_ret;rw[EE.out];exact⟨rfl,⟨a5,ov3,b1,y⟩,HF.out.trans a0⟩
theorem qstep_26{ov:Value}(h:MachQ w K m none dp ov){a1:Int}(g2:on<65536)(ab:Option Addr)(ac:Nat){n:Nat}{v:Int->Nat}(hv:dA w vb n v){xs:List Int}(a6:zY w w.heap.size (.slice ab xs.length ac) xs)(a8:∀x∈xs,0<=x/\x.toNat<n)(d6:xs.length<=65536){r:Nat}(hr:r<=100)(hC:cX K r)(c1:0<=oa/\oa.toNat<K.E.p.funcs.length/\(xs.length:Int)=K.E.p.args.getD oa.toNat 0):
 G 103 #[Q K.pm,.agg #[U 26,U a1,U oa,U ob,Y on,.slice ab xs.length ac],F vb n n,U (100-(r:Int))] w (pn K w (xW K.E r oa (xs.map v) m)):=by
 have g1:=hv.2 oa;have g0:=hv.2 ob;have b0:=zI (W:=w) (o:=I #[U 26,U a1,U oa,U ob,Y on,.slice ab xs.length ac] 76) rfl;have c2:N w (w.alloc (I #[U 26,U a1,U oa,U ob,Y on,.slice ab xs.length ac] 76)):=(Below.refl _ _).alloc (Je _) _;have H:=Ja h;have HV:=Ja hv;have H0:=Ja (Jb b0 c2);clear h hv b0 c2;go_enter Tryz.func103,Tryz.ntmps103;go_upto_region 4 with(go_at_call 52;go_must (refine(aaK 26 _).mono ?_;rintro e w1 ⟨he,a0⟩;obtain rfl:e=.returned (.agg #[.bool true,.bool false,.bool false,.bool false,.bool false]):=he))
 have l:N w (w1.alloc (I #[.bool true,.bool false,.bool false,.bool false,.bool false] 120)):=(H0.out.2.trans (a0.mono H0.out.2.size)).alloc (Jn H0.out.2.size a0.size) _;have g:=zB (o:=(I #[.bool true,.bool false,.bool false,.bool false,.bool false] 120)) (zH a0 H0.out.1 (lt_of_block H0.out.1));have a5:=zI (W:=w1) (o:=(I #[.bool true,.bool false,.bool false,.bool false,.bool false] 120)) rfl;have g6:w1.heap.size≠w.heap.size:=by have:=a0.size;simp at this;omega
 generalize w1.alloc (I #[.bool true,.bool false,.bool false,.bool false,.bool false] 120)=W2 at *;generalize w1.heap.size=bs at *;have b5:=H.out.keep l;have c0:=HV.out.below (zH l HV.out.1 (lt_of_block HV.out.1));have p0:=K0 g;have p2:=K2 g;have p3:=K3 g;have p4:=K4 g;have p5:=K5 g;have s2:=K2 a5;have s3:=K3 a5;have b9:=lt_of_block g;have f8:=lt_of_block a5;have HM:=Ja b5;have HF:=Ja (FrmQ.ofBelow l (Qd H.out.size));have f6:=b5.lt;have e2:=Ja (a6.below zO l);have e3:=Ja l.size;have c5:=Ja c0;have HC:=Ja hC;have b7:=Ja c1;have HU:=Ja a8;obtain⟨_,_,ef,g5,f2⟩:=a6.form;cases ef;clear l g a5 a0 H0 b5 c0;have e9:xs.length<=65536:=d6;have f4:=e3.out;clear a6 hC c1 a8;go_wp2
 go_loopw [12,13] (fun rv kv wx=>∃k:Nat,k<=xs.length/\kv=U k/\Hid (wx.ownsRow W2.heap.size 43 1 rv k ((uT v xs k).map vL)/\N W2 wx)) (fun _ kv _=>xs.length-(intOf kv).toNat)
 case atStart=>exact⟨0,Jt _,rfl,Ja ⟨Jv _ _ _ _,Below.refl _ _⟩⟩
 case round=>
  obtain⟨k,hk,rfl,j⟩:=hrel;obtain⟨ra,rc,rfl⟩:=zG j.out.1;have b6:FrmQ K.B W2 wr:=FrmQ.ofBelow j.out.2 (Qd HM.out.size);have d5:=zV j.out.2 b9 p5;have d2:=zV j.out.2 b9 p2;have e6:=j.out.2.size;have e4:w.heap.size<wr.heap.size:=Zo
  by_cases a4:k<xs.length
  ·have d4:(k:Int)<xs.length:=Zo;have c8:=Ja a4;obtain⟨x,hx⟩:∃x,xs[k]? =some x:=⟨_,Jd a4⟩
   obtain⟨b,o,rfl,hb,b4,e5⟩:=e2.out.get hx;rw[Nk] at b4;have cx:=zV j.out.2 (show b<W2.heap.size by omega) b4;have f7:b<wr.heap.size:=Zo;have d8:=HU.out x (Ji hx);have e1:=Ja (qH (v:=v) hx);have g4:=pA (v:=v) (show k<=xs.length by omega);obtain⟨kx,rfl⟩:∃kx:Nat,x=(kx:Int):=⟨x.toNat,by omega⟩
   have b2:kx<n:=Zo;have f0:(kx:Int)<(n:Int):=Zo;have a2:=c5.out.kept b6;have cv:=a2.cell b2;have f5:=lt_of_block a2.1;have f9:=a2.2 (kx:Int);obtain⟨ii,d9,d3,d1,d0⟩:=info_parts Tryz.info_u16;clear hx b4 a4 a2 d8 hb b2;generalize v (kx:Int)=vx at *;go_wp2_with (at_builtin;go_must (refine wpList_append_lies _ rfl (.tmp 172) (.tmp 181) 48 rfl W2.heap.size 43 ii (Y 0) 1 2 Tryz.underlying48 d9 d3 d1 d0 rfl Zd _ k ((uT v xs k).map vL) rfl (j.out.1.alloc _) ⟨wr.heap.size,0,none⟩ 1 1 [Y vx] rfl rfl (Oi (cs:=#[Y vx]) (zI Zs)) (by simp[Value.oneCell']) Zd (by unfold maxLen;omega) Zo Zt (wr.heap.size+1) Zs ?_;intro gq f3 w6 a3 u f1 e7;have c7:=Ja (Jb a3 u);clear a3 u))
   go_roundw
   case rel=>
    refine⟨k+1,c8.out,by go_num,Ja ⟨?_,(j.out.2.alloc Zo _).grown c7.out.2 Zt (fun k hk=>(j.out.1.lt k hk).1)⟩⟩;rw[e1.out,Js];exact c7.out.1
   case measure=>have:=c8.out;simp[intOf];omega
  ·obtain rfl:k=xs.length:=by omega
   have d4:¬(xs.length:Int)<xs.length:=Zo;have t:=j.out.1;rw[r8] at t;have c3:=HM.out.keep j.out.2;have d:=HC.out wr m dp ov (.slice ra xs.length rc) oa (xs.map v) c3 b7.out.1 b7.out.2.1 (ms t Zs (fun y hy=>by obtain⟨z,_,rfl⟩:=Nu.1 hy;exact c5.out.2 z)) (by simpa using b7.out.2.2) (fun b o n c e _=>by have:=bK t e;have:=HM.out.lt;omega);have c9:=Ja (HF.out.trans b6);have g3:(100-(r:Int))+1=101-(r:Int):=Zo;obtain⟨R,hR⟩:∃R,xW K.E r oa (xs.map v) m=R:=⟨_,rfl⟩
   rw[hR] at d;have EE:=Ja hR;clear t c3 a4 hR b6
   cases R with
   |ok x m'=>
    have b8:=Ja d;clear d;go_wp2_with (go_at_call 47;go_must (refine b8.out.mono ?_;rintro e w3 ⟨he,⟨c4,ov3,b1⟩,b3,d7⟩;obtain rfl:e=.returned (Y x):=he))
    go_ret;rw[EE.out]
    exact pn.ok b1 (c9.out.trans b3) d7
   |trap k i m'=>
    have b8:=Ja d;clear d;go_wp2_with (go_at_call 47;go_must (refine b8.out.mono ?_;rintro e w3 ⟨he,⟨c4,ov3,e0,b1⟩,b3⟩;obtain rfl:e=.returned (Y 0):=he))
    go_ret;rw[EE.out];exact⟨rfl,⟨c4,ov3,e0,b1⟩,c9.out.trans b3⟩
theorem cS.args{n:Nat}(h:cS n o):∀x∈o.args,0<=x/\x.toNat<n:=fun x hx=>h x (by unfold rR;simp[hx])
theorem step_q{ov:Value}(h:MachQ w K m none dp ov)(i:OkProg K.E.p)(ho:ajK K.E.p o)(hb:I64 o.code/\I64 o.res/\I64 o.a/\I64 o.b/\o.n<65536){av:Value}(j:zY w w.heap.size av o.args)
 {n:Nat} {v:Int->Nat} (hv:dA w vb n v) (g:cS n o) {r:Nat} (hr:r<=100) (u:cX K r) (l:m.out.length+1+m.fuel.toNat<=4000000):
 G 103 #[Q K.pm,aam o av,F vb n n,U (100-(r:Int))] w (pn K w (oV K.E (xW K.E r) o v m)):=by
 obtain⟨code,res,oa,ob,on,xs⟩:=o;obtain⟨⟨a2,a1⟩,h2,k⟩:=ho;obtain⟨_,a3,a0,y,c⟩:=hb;obtain⟨aa,ac,d,_,_⟩:=j.form;simp only at *;unfold aam;have t:code=1∨code=2∨code=3∨code=4∨(5<=code/\code<=17)∨code=18∨code=19∨code=20∨code=21∨code=22∨code=23∨code=24∨code=25∨code=26∨code=27:=Zo;rcases t with rfl|rfl|rfl|rfl|x|rfl|rfl|rfl|rfl|rfl|rfl|rfl|rfl|rfl|rfl
 ·subst d;exact qstep_1 h c _ _ _ hv _
 ·subst d;exact qstep_2 h c _ _ _ hv _ (h2 rfl)
 ·subst d;exact qstep_3 h c _ _ _ hv (g.a rfl) _
 ·subst d;exact qstep_4 h c _ _ _ hv (g.a rfl) _
 ·subst d
  have e:oV K.E (xW K.E r) ⟨code,res,oa,ob,on,xs⟩ v m=iy m code (v oa) (v ob):=by
   unfold oV mU;simp only;rw[if_neg Zo,if_neg Zo,if_neg Zo,if_neg Zo,if_neg Zo,if_neg Zo,if_neg Zo,if_neg Zo,if_neg Zo,if_neg Zo,if_neg Zo,if_neg Zo,if_neg Zo,if_neg Zo]
  rw[e]
  have hs:(zi code).a=true/\(zi code).b=true:=by
   rcases rJ code with⟨h,e⟩|⟨h,e⟩|⟨h,e⟩|⟨h,e⟩|⟨h,e⟩|⟨h,e⟩|⟨h,e⟩|⟨h,e⟩
   all_goals first|omega|(rw[e];exact⟨rfl,rfl⟩)
  exact qstep_ar h c _ _ _ hv (g.a hs.1) (g.b hs.2) _ x
 ·subst d;exact qstep_18 h c _ _ _ hv (g.a rfl) _
 ·subst d;exact qstep_19 h c _ _ _ hv (g.a rfl) _
 ·subst d;exact qstep_20 h c _ _ _ hv (g.a rfl) (g.b rfl) _
 ·subst d;exact qstep_21 h c _ _ _ hv (g.a rfl) (g.b rfl) _
 ·subst d;exact qstep_22 h c _ _ _ hv (g.a rfl) _ (Ja i.bank)
 ·subst d;exact qstep_23 h c _ _ _ hv (g.a rfl) _ (Ja i.bank)
 ·subst d;exact qstep_24 h c _ _ _ hv _
 ·subst d;exact qstep_25 h c _ _ _ hv (g.a rfl) _ l
 ·subst d;exact qstep_26 h c _ _ hv j g.args (by have:=i.argle oa.toNat;have:=(k rfl).2.2;omega) hr u (k rfl)
 ·subst d;exact qstep_27 h c _ _ _ hv (Ja i) hr (Ja u)
theorem FrmQ.setNew{B:Nat}{a:World}(h:FrmQ B a w){b i:Nat}(hb:a.heap.size<=b)(hB:B<=a.heap.size)(u:Value):FrmQ B a (w.setCell ⟨b,i,none⟩ u):=
 ⟨h.below.setCell (Jn hB hb) u,fun k o hk hs=>zR (h.kept k o hk hs) (by have:=lt_of_block hk;show k≠b;omega)⟩
theorem MachQ.setV{tr:Tr}{ov:Value}(h:MachQ w K m tr dp ov){n:Nat}{v:Int->Nat}(hv:dA w vb n v)(hB:K.B<=vb)(i:Nat)(u:Value):MachQ (w.setCell ⟨vb,i,none⟩ u) K m tr dp ov:=by
 have n1:K.pm≠vb:=by rintro e;have:=h.blk;rw[e,hv.1] at this;simp at this
 have n2:K.rb≠vb:=by rintro e;have:=h.ram;rw[e,hv.1] at this;simp at this
 have hb:Below K.B w (w.setCell ⟨vb,i,none⟩ u):=(Below.refl _ _).setCell hB _;refine⟨zR h.blk n1,zR h.ram n2,h.rlen,h.rlt,ownsRow_setCell_other h.out ?_ _,h.olt,h.obd,h.fuel,h.inp,h.pol,h.gpm,h.grb,h.prog.below hb,h.inn.below zr hb,h.irq.below xQ hb⟩;intro e;exact zC h.out hv.1 (.inr Zd) (by simpa using e)
structure CStQ (K:MK) (w0 w:World) (m:Mach) (vb N:Nat) (v:Int->Nat):Prop where
 mach:∃dp ov,MachQ w K m none dp ov
 frm:FrmQ K.B w0 w
 row:dA w vb N v
 new:w0.heap.size<=vb
 gb:K.B<w0.heap.size
theorem CStQ.alloc{N:Nat}{v:Int->Nat}(h:CStQ K w0 w m vb N v)(o:Obj):CStQ K w0 (w.alloc o) m vb N v:=by
 obtain⟨dp,ov,hm⟩:=h.mach;exact⟨⟨dp,ov,hm.keep ((Below.refl _ _).alloc (Je _) o)⟩,h.frm.trans ((FrmQ.refl _ _).alloc (Qd hm.size) o),h.row.kept ((FrmQ.refl K.B w).alloc (Qd hm.size) o),h.new,h.gb⟩
theorem CStQ.step {K:MK}{w0 w w':World}{m m':Mach}{vb N:Nat}{v:Int->Nat}{dp:Int}{ov:Value}(h:CStQ K w0 w m vb N v)(d:MachQ w' K m' none dp ov)(c:FrmQ K.B w w'):CStQ K w0 w' m' vb N v:=
 ⟨⟨dp,ov,d⟩,h.frm.trans c,h.row.kept c,h.new,h.gb⟩
theorem CStQ.keep{w':World}{N:Nat}{v:Int->Nat}(h:CStQ K w0 w m vb N v)(hb:Below w.heap.size w w'):CStQ K w0 w' m vb N v:=by
 obtain⟨dp,ov,hm⟩:=h.mach;exact h.step (hm.keep hb) (FrmQ.ofBelow hb (Qd hm.size))
theorem CStQ.set{N:Nat}{v:Int->Nat}(h:CStQ K w0 w m vb N v){r:Nat}(hr:r<65536):CStQ K w0 (w.setCell ⟨vb,k,none⟩ (Y r)) m vb N (iY v k r):=by
 obtain⟨dp,ov,hm⟩:=h.mach;have:=h.new;have:=h.gb;exact⟨⟨dp,ov,hm.setV h.row Zo _ _⟩,h.frm.setNew h.new Zo _,h.row.set hr,h.new,h.gb⟩
theorem dA.made{N:Nat}{b:Nat}(hb:O w b (madeCells #[Y 0] N) 43):dA w b N (fun _=>0):=by
 refine⟨?_,fun _=>by show 0<65536;omega⟩;rw[hb,yA]
 congr 3
 apply Oq;intro i
 by_cases hi:i<N
 ·simp[hi,vL]
 ·simp[hi]
def ez (t:ITerm)(a:Nat):Nat:=if t.kind=2/\a=0 then 1 else if t.kind=3 then min a (t.to.length-1) else 0
theorem cT (t:ITerm)(a:Nat):wK t a=t.to.getD (ez t a) ⟨0,[]⟩:=by
 unfold wK ez
 split
 ·rfl
 ·split<;>rfl
theorem taken_q (w:World)(t:ITerm)(ta:Option Addr)(tc:Nat)(a:Nat)(m:a<65536)(hl:1<=t.to.length/\t.to.length<=2000000)(hk:t.kind=1∨t.kind=2∨t.kind=3):
 G 104 #[.agg #[U t.kind,U t.a,.slice ta t.to.length tc],Y a] w (aeN w (ez t a:Nat)):=by
 have g:=(Below.refl w.heap.size w).alloc (Je _) (I #[U t.kind,U t.a,.slice ta t.to.length tc] 82);have d:=Ja g;clear g;generalize c:ez t a=q;unfold ez at c;generalize t.to.length=n at *;rcases hk with hk|hk|hk
 ·rw[if_neg Zo,if_neg Zo] at c;subst c;rw[hk] at d ⊢;go_enter Tryz.func104,Tryz.ntmps104;go_wp2;go_ret;exact⟨rfl,d.out⟩
 ·by_cases i:a=0
  ·subst i;rw[if_pos ⟨hk,rfl⟩] at c;subst c;rw[hk] at d ⊢;go_enter Tryz.func104,Tryz.ntmps104;go_wp2;go_ret;exact⟨rfl,d.out⟩
  ·rw[if_neg Zo,if_neg Zo] at c;subst c;have l:((a:Int)==0)=false:=Ze;have j:¬(a:Int)=0:=Zo;rw[hk] at d ⊢;go_enter Tryz.func104,Tryz.ntmps104;go_wp2;go_ret;exact⟨rfl,d.out⟩
 ·rw[if_neg Zo,if_pos hk] at c;have k:IntKind.i64.wrap (a:Int)=(a:Int):=Om _ Zo
  have h:∀(ts:Array TypeId) (t:TypeId) (W:World),(Builtin.min_ ts t #[U a,U ((n:Int)-1)]).run Tryz.prog W=.ok (U q) W:=fun ts t W=>by
   rw[run_min_int2];have:(q:Int)=if(n:Int)-1<(a:Int) then(n:Int)-1 else(a:Int):=by split<;>omega
   rw[this]
  have o:=Ja c;rw[hk] at d ⊢;clear c;go_enter Tryz.func104,Tryz.ntmps104;go_wp2;go_ret;exact⟨rfl,d.out⟩
def dM (s:ByteArray)(k:Nat):List Nat:=(List.range 8192).map fun j=>if j<k then(s.data.getD j 0).toNat else 0
theorem aD (n:Nat)(f:Nat->Nat)(h:∀i,f i=0):(List.range n).map f=List.replicate n 0:=by
 apply Oq;intro i
 by_cases hi:i<n
 ·simp[hi,h]
 ·simp[hi]
theorem ac8 (s:ByteArray):dM s 0=List.replicate 8192 0:=aD _ _ (fun i=>by rw[if_neg (Nat.not_lt_zero _)])
theorem aad (s:ByteArray)(k:Nat):(dM s k).length=8192:=by simp[dM]
theorem aab(s:ByteArray)(h:k<8192):(dM s k).set k (s.data.getD k 0).toNat=dM s (k+1):=by
 unfold dM;apply Oq;intro i;rw[Ov,Jr,Jr]
 by_cases hi:i<8192
 ·rw[Oh hi]
  by_cases hk:k=i
  ·subst hk;simp[hi]
  ·have:i<k+1↔i<k:=Zo;simp[hk,this]
 ·have c:(List.range 8192)[i]? =none:=Of (by simpa using hi);rw[c]
  by_cases hk:k=i
  ·subst hk;omega
  ·simp[hk]
theorem dm(s:ByteArray)(h:k=s.size∨k=8192):dM s k=v7 s:=by
 unfold dM v7;refine Up fun j hj=>?_
 have c:=Ol.1 hj
 split
 ·rfl
 ·rcases h with rfl|rfl
  ·have:s.data.getD j 0=0:=by
    rw[Array.getD_eq_getD_getElem?,Array.getElem?_eq_none (by show s.size<=j;omega)];rfl
   rw[this];rfl
  ·omega
def RetRam (w:World)(s:ByteArray)(e:Ending)(w':World):Prop:=∃b:Nat,e=.returned (F b 8192 8192)/\w.heap.size<=b/\O w' b ((v7 s).map ly).toArray 5/\N w w'
theorem ram_q (w:World)(s:ByteArray)(hs:s.size<=9223372036854775807):G 46 #[.string s] w (RetRam w s):=by
 have o:=mk_ram;obtain⟨Z,hZ⟩:∃Z,madeCells #[Value.int .u8 0] 8192=Z:=⟨_,rfl⟩
 rw[hZ] at o;have j:Z=((dM s 0).map ly).toArray:=by rw[<-hZ,yA,ac8,List.map_replicate];rfl
 have HZ:=Ja j;clear hZ j;go_enter Tryz.func46,Tryz.ntmps46;go_upto_region 2 with fail;have x:N w (w.alloc (I Z 5)):=(Below.refl _ _).alloc (Je _) _;have l:O (w.alloc (I Z 5)) w.heap.size ((dM s 0).map ly).toArray 5:=by rw[<-HZ.out];exact zI rfl
 generalize w.alloc (I Z 5)=W1 at *;generalize a0:w.heap.size=b0 at *;have g:=Ja (Jb x (Jb l a0));clear x l o;go_wp2
 go_loopw [4] (fun kv wx=>∃k:Nat,k<=8192/\k<=s.size/\kv=U k/\Hid (O wx b0 ((dM s k).map ly).toArray 5/\Below b0 w wx)) (fun kv _=>8192-(intOf kv).toNat)
 case atStart=>exact⟨0,by omega,by omega,rfl,Ja ⟨g.out.2.1,g.out.1⟩⟩
 case round=>
  obtain⟨k,hk,a5,rfl,d⟩:=hrel
  by_cases h1:k<s.size
  ·have a2:(k:Int)<s.size:=Zo
   by_cases h2:k<8192
   ·have a1:(k:Int)<8192:=Zo;have H2:=Ja (Jb h1 h2);obtain⟨y,hy⟩:∃y,(s.data.getD k 0).toNat=y:=⟨_,rfl⟩
    have a4:((s[k].toNat:Nat):Int)=(y:Int):=by rw[dt h1,hy]
    obtain⟨c0,u⟩:∃c,((dM s k).map ly)[k]? =some c:=⟨_,Jd (by rw[Nr,aad];exact h2)⟩
    have cc:A wr b0 k c0:=zA d.out.1 (by simpa using u);have cf:=zE (i:=k) d.out.1;have cl:=lt_of_block d.out.1;have m:=zD (i:=k) d.out.1 (.int .u8 (y:Int))
    have h:O (wr.setCell ⟨b0,k,none⟩ (.int .u8 (y:Int))) b0 ((dM s (k+1)).map ly).toArray 5:=by
     rw[m,<-aab s h2,hy,Ox];simp[ly]
    have a3:=Ja (Jb h (d.out.2.setCell (p:=⟨b0,k,none⟩) (Je _) (.int .u8 (y:Int))));clear m h u h2 hy;go_wp2;go_roundw
    case rel=>exact⟨k+1,by have:=H2.out;omega,by have:=H2.out;omega,by go_num,a3⟩
    case measure=>have:=H2.out;simp[intOf];omega
   ·obtain rfl:k=8192:=by omega
    have a1:¬((8192:Nat):Int)<8192:=Zo;have t:=dm s (k:=8192) (.inr rfl);have HF:=Ja t;clear h2 t;go_wp2;go_ret;exact⟨b0,rfl,by rw[g.out.2.2];exact Je _,by rw[<-HF.out];exact d.out.1,by rw[g.out.2.2];exact d.out.2⟩
  ·obtain rfl:k=s.size:=by omega
   have a2:¬(s.size:Int)<s.size:=Zo;have HF:=Ja (dm s (k:=s.size) (.inl rfl));clear h1;go_wp2;go_ret;exact⟨b0,rfl,by rw[g.out.2.2];exact Je _,by rw[<-HF.out];exact d.out.1,by rw[g.out.2.2];exact d.out.2⟩
theorem fin_at {T:RepF}:∀(l:List (Nat×Nat)) (k:Nat) (a b:Nat×Nat),aeC T l->l[k]? =some a->l[k+1]? =some b->aeV T a b
 | [],k,a,b,_,h,_=>by simp at h
 | [x],0,a,b,_,_,h=>by simp at h
 | [x],k+1,a,b,_,h,_=>by simp at h
 |x::y::l,0,a,b,h,h1,h2=>by
  simp at h1 h2;subst h1 h2
  exact h.1
 |x::y::l,k+1,a,b,h,h1,h2=>fin_at (y::l) k a b h.2 (by simpa using h1) (by simpa using h2)
theorem ins_any{V:PV}{p:IProg}(hp:ProgIn w w.heap.size V p){ov jv sv:Value}{out:List (Nat×Nat)}(ho:vM w w.heap.size ov out){ra:Option Addr}{R:List Rg}(hr:ajt w ra R){O S:List Int}(hO:zY w w.heap.size jv O)(hS:zY w w.heap.size sv S)
 (l0:p.data.length<=1000000000000) (hb:∀z∈S,z<=100) (b7:aeC ⟨R,O,S,p.data⟩ out):
 G 24 #[yH V p,ov,.slice ra R.length R.length,jv,sv] w fun e w'=>e=.returned (.bool true)/\N w w':=by
 obtain⟨oa,oc,rfl,c9,c8⟩:=ho.form;have k7:out.length<=9223372036854775807:=Jn c9 c8;obtain⟨ja,jc,rfl,g1,f9⟩:=hO.form;obtain⟨sa,sc,rfl,f7,f6⟩:=hS.form;obtain⟨Vf,Va,Vd,Vb⟩:=V;obtain⟨da,dc,b8,g6,g5⟩:=hp.data.form;have b8:Vd=.slice da p.data.length dc:=b8;subst b8;unfold yH;obtain⟨X,hX⟩:∃X,w.alloc (I #[Vf,Va,U p.entry,U p.handler,.slice da p.data.length dc,Vb] 29)=X:=⟨_,rfl⟩
 have d9:N w X:=by rw[<-hX];exact(Below.refl _ _).alloc (Je _) _
 have c7:X.heap[w.heap.size]? =some (I #[Vf,Va,U p.entry,U p.handler,.slice da p.data.length dc,Vb] 29):=by rw[<-hX];exact zI rfl
 have HX:=Ja (Jb d9 c7);have HI:=Ja (Jb ho (Jb hO (Jb hS (Jb hp.data (Jb hr (Jb b7 hb))))));clear hp ho hO hS hr b7 hb d9 c7 c9 c8 g1 f9 f7 f6 g6 g5;go_enter Tryz.func24,Tryz.ntmps24;go_upto_region 1 with fail
 try rw[hX]
 clear hX;go_wp2
 go_loopw [11] (fun kv wx=>∃k:Nat,k<=out.length-1/\kv=U k/\Hid (N X wx)) (fun kv _=>out.length-(intOf kv).toNat)
 case atStart=>exact⟨0,Jt _,rfl,Ja (Below.refl _ _)⟩
 case round=>
  obtain⟨k,hk,rfl,l⟩:=hrel;have wk:IntKind.i64.wrap ((k:Int)+1)=(k:Int)+1:=Om _ Zo
  by_cases a8:k+1<out.length
  ·have a1:(k:Int)+1<(out.length:Int):=Zo;have dk:decide ((k:Int)+1<(out.length:Int))=true:=decide_eq_true a1;obtain⟨a,ha⟩:∃a,out[k]? =some a:=⟨_,Jd Zo⟩
   obtain⟨b,hb⟩:∃b,out[k+1]? =some b:=⟨_,Jd a8⟩
   have a6:=fin_at out k a b HI.out.2.2.2.2.2.1 ha hb;have a0:=HX.out.1.trans (l.out.mono HX.out.1.size);obtain⟨eb,eo,rfl,g4,e0,e1,h0,e4⟩:=(HI.out.1.below vo a0).get ha;obtain⟨l4,l3,h9,f5,f0,f1,g9,e3⟩:=(HI.out.1.below vo a0).get hb;cases h9;have k9:(k:Int)<(out.length:Int):=Zo;have d:eb<wr.heap.size:=by have:=a0.size;omega
   have el:=f0;obtain⟨pa,va⟩:=a;obtain⟨pb,vb⟩:=b;have e0:A wr eb (eo+k*2) (.int .u16 (pa:Int)):=e0;have e1:A wr eb (eo+k*2+1) (.int .u16 (va:Int)):=e1;have f0:A wr eb (eo+(k+1)*2) (.int .u16 (pb:Int)):=f0;have f1:A wr eb (eo+(k+1)*2+1) (.int .u16 (vb:Int)):=f1;have e4:va<65536:=e4;have e3:vb<65536:=e3;have f2:=Ja a6;have g:=Ja a8;have b2:=Ja a0;have HE:=Ja (show ∀W,N wr W->(A W eb (eo+k*2) (.int .u16 (pa:Int))/\A W eb (eo+(k+1)*2) (.int .u16 (pb:Int)))/\eb<W.heap.size from fun W h=>⟨⟨(h.cell (p:=⟨eb,eo+k*2,none⟩) d).trans e0,(h.cell (p:=⟨eb,eo+(k+1)*2,none⟩) d).trans f0⟩,Jy d h.size⟩);clear ha hb a6 a0 el a8 g4 f5 h0 g9;go_upto_region 4 with fail;go_quiet (fail);generalize hy:wr.drewN _=Y;have d8:N wr Y:=by rw[<-hy];exact yL _ _ _
   have y:=Ja d8;clear hy e0 e1 f0 f1 d d8;obtain⟨⟨e0,f0⟩,d⟩:=HE.out Y y.out
   by_cases t:pa=254
   ·have o:=f2.out.1 t;have h1:va<R.length:=o.1;have h2:pb=255:=o.2.1;have h3:(R.getD va ⟨0,0⟩).lo<=vb:=o.2.2.1;have h4:vb<=(R.getD va ⟨0,0⟩).hi:=o.2.2.2;clear o;have e2:R≠ []:=fun e=>by rw[e] at h1;exact absurd h1 (Nat.not_lt_zero _)
    obtain⟨rb,rfl,b4⟩:=HI.out.2.2.2.2.1 e2;obtain⟨x,hx⟩:∃x,R[va]? =some x:=⟨_,Jd h1⟩
    have d5:R.getD va ⟨0,0⟩=x:=by rw[Jj,hx];rfl
    rw[d5] at h3 h4;have a5:=zH (b2.out.trans (y.out.mono b2.out.size)) b4 (lt_of_block b4);have r0:A Y rb (va*2) (.int .u16 (x.lo:Int)):=by have:=oW (f:=ro) (n:=2) (fun _=>rfl) a5 hx (j:=0) rfl;rw[Ng,Uk] at this;exact this
    have r1:A Y rb (va*2+1) (.int .u16 (x.hi:Int)):=by have:=oW (f:=ro) (n:=2) (fun _=>rfl) a5 hx (j:=1) rfl;rw[Ng] at this;exact this
    have rl:=lt_of_block a5;subst t h2;have d0:decide ((R.length:Int)<=(va:Int))=false:=decide_eq_false Zo;have i0:decide (R.length<=va)=false:=decide_eq_false Zo;have d2:decide ((vb:Int)<(x.lo:Int))=false:=decide_eq_false Zo;have l8:decide (vb<x.lo)=false:=decide_eq_false Zo;have d3:decide ((x.hi:Int)<(vb:Int))=false:=decide_eq_false Zo;have l7:decide (x.hi<vb)=false:=decide_eq_false Zo;have k5:(va:Int)<(R.length:Int):=Zo;clear e2 b4 hx d5 h3 h4 a5;go_wp2;go_roundw
    case rel=>exact⟨k+1,by have:=g.out;omega,by go_num,Ja (l.out.trans (y.out.mono l.out.size))⟩
    case measure=>have:=g.out;simp[intOf];omega
   ·have i8:((pa:Int)==254)=false:=Ze
    by_cases a3:pa=253
    ·have o:=f2.out.2 a3;have h1:va<O.length:=o.1;have h2:va<S.length:=o.2.1;have h3:pb=252:=o.2.2.1;have h4:O.getD va 0=-1∨((0<=O.getD va 0/\(O.getD va 0).toNat<p.data.length)/\(p.data.getD (O.getD va 0).toNat ⟨0,0,0⟩).bank=-1/\(p.data.getD (O.getD va 0).toNat ⟨0,0,0⟩).addr<=vb/\(vb:Int)+S.getD va 0<=(p.data.getD (O.getD va 0).toNat ⟨0,0,0⟩).addr+(p.data.getD (O.getD va 0).toNat ⟨0,0,0⟩).size):=o.2.2.2;clear o;have c:=b2.out.trans (y.out.mono b2.out.size);obtain⟨z,hz⟩:∃z,O[va]? =some z:=⟨_,Jd h1⟩
     obtain⟨s,hs⟩:∃s,S[va]? =some s:=⟨_,Jd h2⟩
     obtain⟨jb,jo,rfl,g2,j0,f4⟩:=(HI.out.2.1.below zO c).get hz;obtain⟨sb,so,rfl,f8,s0,b3⟩:=(HI.out.2.2.1.below zO c).get hs;rw[Nk] at j0 s0;have d4:jb<Y.heap.size:=by have:=c.size;omega
     have a4:sb<Y.heap.size:=by have:=c.size;omega
     have b5:O.getD va 0=z:=by rw[Jj,hz];rfl
     have b6:S.getD va 0=s:=by rw[Jj,hs];rfl
     rw[b5,b6] at h4;have k6:s<=100:=HI.out.2.2.2.2.2.2 s (Ji hs);subst a3 h3;have d0:decide ((O.length:Int)<=(va:Int))=false:=decide_eq_false Zo;have i0:decide (O.length<=va)=false:=decide_eq_false Zo;have d1:decide ((S.length:Int)<=(va:Int))=false:=decide_eq_false Zo;have l9:decide (S.length<=va)=false:=decide_eq_false Zo;have k4:(va:Int)<(O.length:Int):=Zo;have k3:(va:Int)<(S.length:Int):=Zo;rcases h4 with h4|⟨⟨h4,h5⟩,h6,h7,h8⟩
     ·subst h4;clear hz hs b5 b6 b3 f4 t;go_wp2;go_roundw
      case rel=>exact⟨k+1,by have:=g.out;omega,by go_num,Ja (l.out.trans (y.out.mono l.out.size))⟩
      case measure=>have:=g.out;simp[intOf];omega
     ·have tz:(z==-1)=false:=Ze;obtain⟨zn,rfl⟩:∃zn:Nat,z=(zn:Int):=⟨z.toNat,by omega⟩
      rw[Ni] at h5 h6 h7 h8;obtain⟨D,hD⟩:∃D,p.data[zn]? =some D:=⟨_,Jd h5⟩
      have d6:p.data.getD zn ⟨0,0,0⟩=D:=by rw[Jj,hD];rfl
      rw[d6] at h6 h7 h8;obtain⟨db,dq,rfl,g8,e7,e6,e5,j2,l2,l1⟩:=(HI.out.2.2.2.1.below tZ c).get hD;have u:db<Y.heap.size:=by have:=c.size;omega
      have b0:=zH (l.out.trans (y.out.mono l.out.size)) HX.out.2 (lt_of_block HX.out.2);have HC:=Ja (show ∀W,N Y W->A W w.heap.size 4 (.slice (some ⟨db,dq,none⟩) p.data.length dc)/\A W jb (jo+va) (U zn)/\A W db (dq+zn*3) (U D.bank)/\A W db (dq+zn*3+1) (.int .u16 (D.addr:Int))/\A W db (dq+zn*3+2) (.int .u16 (D.size:Int)) from fun W h=>⟨zA (zH h b0 (lt_of_block b0)) rfl,(h.cell (p:=⟨jb,jo+va,none⟩) d4).trans j0,(h.cell (p:=⟨db,dq+zn*3,none⟩) u).trans e7,(h.cell (p:=⟨db,dq+zn*3+1,none⟩) u).trans e6,(h.cell (p:=⟨db,dq+zn*3+2,none⟩) u).trans e5⟩);have e9:=Ja (show ∀W,N Y W->A W sb (so+va) (U s)/\sb<W.heap.size from fun W h=>⟨(h.cell (p:=⟨sb,so+va,none⟩) a4).trans s0,Jy a4 h.size⟩);obtain⟨g0,_⟩:=HC.out Y (Below.refl _ _);have g3:=lt_of_block b0;have l6:decide ((zn:Int)<0)=false:=decide_eq_false Zo;have l5:decide ((p.data.length:Int)<=(zn:Int))=false:=decide_eq_false Zo;have k0:decide (p.data.length<=zn)=false:=decide_eq_false Zo;have k2:(zn:Int)<(p.data.length:Int):=Zo;clear hz hs b5 b6 t hD d6 b0 c g2 f8 g8;go_upto_region 13 with fail;go_quiet (fail);generalize c5:Y.drewN _=Y2;have a2:N Y Y2:=by rw[<-c5];exact yL _ _ _
      have b1:=Ja a2;have hc:=HC.out Y2 a2;obtain⟨c0,c1,c2,c3,c4⟩:=hc;have f3:=Ja (show ∀W,N Y2 W->A W w.heap.size 4 (.slice (some ⟨db,dq,none⟩) p.data.length dc)/\A W jb (jo+va) (U zn)/\A W db (dq+zn*3) (U D.bank)/\A W db (dq+zn*3+1) (.int .u16 (D.addr:Int))/\A W db (dq+zn*3+2) (.int .u16 (D.size:Int)) from fun W h=>HC.out W (b1.out.trans (h.mono b1.out.size)));clear c5 e0 f0 d j0 s0 d4 a4 e7 e6 e5 u a2 g0 g3;have i2:=Ja h6;clear h6;go_upto_region 15 with fail
      go_region_held3 (fun w'=>A w' w.heap.size 4 (.slice (some ⟨db,dq,none⟩) p.data.length dc)/\A w' jb (jo+va) (U zn)/\A w' db (dq+zn*3) (U D.bank)/\A w' db (dq+zn*3+1) (.int .u16 (D.addr:Int))/\A w' db (dq+zn*3+2) (.int .u16 (D.size:Int)))
       ((refine f3.out _ ?_;repeat' (first|with_reducible exact Below.refl _ _|with_reducible assumption|with_reducible refine Below.drew ?_|with_reducible refine Below.alloc ?_ Zn _|with_reducible refine Below.setCell ?_ Zn _)))
       (fail)
      all_goals (
       first
        |(obtain⟨Z,hZ⟩:∃Z,(Y2.alloc (.cells #[.int .i64 D.bank,.int .u16 (D.addr:Int),.int .u16 (D.size:Int)] 89)).drew=Z:=⟨_,rfl⟩;rw[hZ])
        |(obtain⟨Z,hZ⟩:∃Z,Y2.drew.alloc (.cells #[.int .i64 D.bank,.int .u16 (D.addr:Int),.int .u16 (D.size:Int)] 89)=Z:=⟨_,rfl⟩;rw[hZ])
       have d7:N Y2 Z:=by rw[<-hZ];repeat' (first|exact Below.refl _ _|refine Below.drew ?_|refine Below.alloc ?_ (Je _) _)
       have m:Z.heap[Y2.heap.size]? =some (I #[U D.bank,.int .u16 (D.addr:Int),.int .u16 (D.size:Int)] 89):=by rw[<-hZ];exact zI rfl
       have b9:=b1.out.trans (d7.mono b1.out.size);obtain⟨s0,a4⟩:=e9.out Z b9;have z0:=zA (i:=0) m rfl;have z1:=zA (i:=1) m rfl;have z2:=zA (i:=2) m rfl;have zl:=lt_of_block m;rw[i2.out] at z0;have i1:=Ja b9;have u0:decide ((vb:Int)<(D.addr:Int))=false:=decide_eq_false Zo;have k1:decide (vb<D.addr)=false:=decide_eq_false Zo;have w1:IntKind.i64.wrap ((vb:Int)+s)=(vb:Int)+s:=Om _ (by have:=b3.1;omega);have w2:IntKind.i64.wrap ((D.addr:Int)+(D.size:Int))=(D.addr:Int)+(D.size:Int):=Om _ Zo;have u1:decide ((D.addr:Int)+(D.size:Int)<(vb:Int)+s)=false:=decide_eq_false Zo;clear hZ m d7 b9 h7 h8 c0 c1 c2 c3 c4 f3 HC e9;go_upto_region 16 with fail;go_quiet (fail);go_wp2;go_roundw
       case rel=>exact⟨k+1,by have:=g.out;omega,by go_num,Ja (yC (l.out.trans ((y.out.trans (i1.out.mono y.out.size)).mono l.out.size)))⟩
       case measure=>have:=g.out;simp[intOf];omega)
    ·have j1:((pa:Int)==253)=false:=Ze;clear t a3;go_wp2;go_roundw
     case rel=>exact⟨k+1,by have:=g.out;omega,by go_num,Ja (l.out.trans (y.out.mono l.out.size))⟩
     case measure=>have:=g.out;simp[intOf];omega
  ·have a1:¬(k:Int)+1<(out.length:Int):=Zo;have dk:decide ((k:Int)+1<(out.length:Int))=false:=decide_eq_false a1;clear a8;go_wp2;go_ret;exact⟨rfl,HX.out.1.trans (l.out.mono HX.out.1.size)⟩
end Go.Proofs.YtoahcpkibpomcaaGreat
