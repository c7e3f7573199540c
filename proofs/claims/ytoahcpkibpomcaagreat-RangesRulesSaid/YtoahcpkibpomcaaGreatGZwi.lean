/- Part of a proof. -/
import Derived.Test.YtoahcpkibpomcaaGreatGISmall
set_option linter.all false
set_option maxHeartbeats 8000000
set_option maxRecDepth 100000
namespace Go.Proofs.YtoahcpkibpomcaaGreat
open Go.RowKit
variable {w w':World}{K:MK}{m:Mach}{ov:Value}{g:List (List Nat)}{d:wO}{dp:Int}
theorem kh(h:MachAt w K m ov)(bank a:Nat)(hb:bank<65536)(l:a<65536)(hr:sJ K.E bank a=false):
 O 160 #[F K.pm,M bank,M a] w fun e w'=>e=.panicked [oE 2 a]/\w=w':=by
 have c5:=h.c5;obtain⟨ba,bc,d,j,i⟩:=h.prog.banks.form;rw[d] at c5
 have c:¬(bank<K.E.p.banks.length/\a<4096):=by
  intro f;unfold sJ at hr;rw[decide_eq_true f.1,decide_eq_true f.2] at hr;cases hr
 clear h d hr
 by_cases h1:bank<K.E.p.banks.length
 ·have g:¬(K.E.p.banks.length:Int)<=bank:=Zo;have k:4096<=(a:Int):=Zo;clear c h1;go_enter Tryz.func160,Tryz.ntmps160;go_wp2_with (go_at_call 153;go_must (refine(wj 2 a _).mono ?_;rintro e w' ⟨rfl,rfl⟩))
  exact⟨rfl,rfl,rfl⟩
 ·have g:(K.E.p.banks.length:Int)<=bank:=Zo;clear c h1;go_enter Tryz.func160,Tryz.ntmps160;go_wp2_with (go_at_call 153;go_must (refine(wj 2 a _).mono ?_;rintro e w' ⟨rfl,rfl⟩))
  exact⟨rfl,rfl,rfl⟩
theorem iH (E:IEnv)(bank a:Nat):sJ E bank a=true↔bank<E.p.banks.length/\a<4096:=by unfold sJ;rw[Jm,decide_eq_true_eq,decide_eq_true_eq]
theorem p8(h:MachAt w K m ov)(i:∀s∈K.E.p.banks,s.size=4096)(bank a:Nat)(hb:bank<65536)(ha:a<65536)(hr:sJ K.E bank a=true):
 O 160 #[F K.pm,M bank,M a] w fun e w'=>e=.returned (M (tS K.E bank a:Nat))/\w=w':=by
 have c5:=h.c5;have c:=h.prog.banks;obtain⟨ba,bc,g,q,l⟩:=c.form;rw[g] at c5 c;obtain⟨h1,h2⟩:=(iH _ _ _).1 hr;obtain⟨s,hs⟩:∃s,K.E.p.banks[bank]? =some s:=⟨_,Jd h1⟩
 obtain⟨b,o,rfl,_,d,_⟩:=c.get hs;rw[Nk] at d;have f:=i s (Ji hs);have j:tS K.E bank a=(s.data.getD a 0).toNat:=by unfold tS;rw[Jj,hs];rfl
 rw[j];have y:¬(K.E.p.banks.length:Int)<=bank:=Zo;have x:(bank:Int)<K.E.p.banks.length:=Zo;have u:¬4096<=(a:Int):=Zo;have t:a<s.size:=Zo;have k:(a:Int)<s.size:=Zo;have a0:=Ja f;clear h g hr hs j c h1 h2 i f;go_enter Tryz.func160,Tryz.ntmps160;go_wp2;go_ret;refine⟨zh ?_,rfl⟩;have:=s.data[a].toNat_lt;rw[xY]
 show((s.data[a].toNat:Nat):Int)%65536=((s.data[a].toNat:Nat):Int)
 omega
theorem jA(h:MachAt w K m ov):
 O 161 #[F K.pm] w fun e w'=>e=endOf (uq K.E m)/\MachAt w' K (uq K.E m).mach ov/\Frm K.B w w':=by
 have c7:=h.c7;have c11:=h.c11;have d:=h.inn;obtain⟨ia,ic,g,a7,a6⟩:=d.form;rw[g] at c7 d;have i:=Ja h;have t:=h.inp;have a0:=Ja g;clear h g
 by_cases c:m.inputs<K.E.inn.length
 ·obtain⟨x,l⟩:∃x,K.E.inn[m.inputs]? =some x:=⟨_,Jd c⟩
  obtain⟨b,o,rfl,j,f,a4⟩:=d.get l;have a1:=Ja j;clear j;rw[Nk] at f;have hI:¬(K.E.inn.length:Int)<=m.inputs:=Zo;have hJ:(m.inputs:Int)<K.E.inn.length:=Zo;have e:uq K.E m=.ok x {m with inputs:=m.inputs+1 }:=by unfold uq;rw[if_pos c,Jj,l];rfl
  rw[e];have k:=i.out.free 11;have y:=Ja c;have a2:K.E.inn.length<=9223372036854775807:=Zo;clear e d c l t;go_enter Tryz.func161,Tryz.ntmps161;go_upto_region 1 with fail
  go_cut [13] (fun v wx=>v=.bool false/\∃n,wx=w.drewN n)
  case first=>
   go_quiet (fail);go_wp2;go_meet;exact⟨rfl,_,rfl⟩
  case rest=>
   obtain⟨rfl,n,rfl⟩:=hcut;have h1:=(i.out.drewN n).setI y.out i.out.ne;have q:Frm K.B w ((w.drewN n).setCell ⟨K.pm,11,none⟩ (I ((m.inputs:Int)+1))):=(Frm.refl _ _).drewN.trans ((i.out.drewN n).frm 11 _);have d7:(w.drewN n).cell? ⟨K.pm,7,none⟩=_:=c7;have b1:(w.drewN n).cell? ⟨K.pm,11,none⟩=_:=c11;have a3:Y (w.drewN n) K.pm 11:=k;have e7:=h1.c7;rw[a0.out] at e7;have b0:=h1.c11;have u:=(q.below.cell (p:=⟨b,o+m.inputs,none⟩) a1.out).trans f;have a5:IntKind.i64.wrap (((m.inputs+1:Nat):Int)-1)=(m.inputs:Int):=by rw[show(((m.inputs+1:Nat):Int)-1)=(m.inputs:Int) by omega];exact Om _ Zo
   have H1:=Ja h1;have HF:=Ja q;clear h1 q c7 c11 k;go_upto_region 4 with fail;generalize (w.drewN n).setCell ⟨K.pm,11,none⟩ (I ((m.inputs:Int)+1))=W2 at *;go_quiet (fail);go_wp2;go_ret;exact⟨rfl,H1.out.drewN _,HF.out.drewN⟩
 ·have hI:(K.E.inn.length:Int)<=m.inputs:=Zo;have e:uq K.E m=.ok 0 m:=by unfold uq;rw[if_neg c]
  rw[e];clear e d c;go_enter Tryz.func161,Tryz.ntmps161;go_wp2;go_quiet (fail);go_wp2;go_ret;exact⟨rfl,i.out.drewN _,(Frm.refl _ _).drewN⟩
theorem jT(hv:zw g)(h:g.length<=9000000):∀x∈wQ g,I64 x:=by
 intro x d;unfold wQ at d;obtain⟨c,f,rfl⟩:=Nu.1 d;rcases idomOf hv c with⟨h1,_⟩|⟨c',h1,_,h3,_⟩
 ·rw[h1];exact⟨by omega,by omega⟩
 ·have:=(cA hv h3).1;rw[h1];exact⟨by omega,by omega⟩
theorem lp {α:Type}:∀l:List α,l=[]∨∃a m,l=a::m
 | []=> .inl rfl
 |a::m=> .inr ⟨a,m,rfl⟩
theorem nA{B:Nat}{V:PV}{p:IProg}(hp:ProgIn w B V p)(hB:B<=w.heap.size)(hl:p.args.length=p.funcs.length)(ha:p.args.all tX=true)(hs:∀f∈p.funcs,vZ f){n:Nat}(hn:n<p.funcs.length):
 O 69 #[yH V p,I n] w (ym w (yi p n)):=by
 have m:=Ja (show ProgIn w B V p/\B<=w.heap.size/\p.args.length=p.funcs.length/\p.args.all tX=true/\∀f∈p.funcs,vZ f from⟨hp,hB,hl,ha,hs⟩);have D1:=@run_makeMap Tryz.prog;obtain⟨Vf,Va,Vd,Vb⟩:=V;obtain⟨f1,f2,e1,x6,x5⟩:=hp.funcs.form;have l3:=hp.funcs;have l6:=hp.args;obtain⟨a1,a2,e2,q3,q1⟩:=hp.args.form;obtain⟨d1,d2,e3,y3,x8⟩:=hp.data.form;obtain⟨b1,b2,e4,y5,y4⟩:=hp.banks.form;simp only at e1 e2 e3 e4 l3 l6;subst e1 e2 e3 e4;have D2:p.funcs.length<=9223372036854775807:=Zo;have D3:p.args.length<=9223372036854775807:=Zo;obtain⟨blocks,h9⟩:∃bl,p.funcs[n]? =some bl:=⟨_,Jd hn⟩
 obtain⟨x,hx⟩:∃x,p.args[n]? =some x:=⟨_,Jd Zo⟩
 obtain⟨fb,fo,rfl,b5,bv,f9,o6⟩:=l3.get h9;obtain⟨ab,ao,rfl,u4,g1,A6⟩:=l6.get hx;rw[Nk] at f9 g1;obtain⟨ba,bc,rfl,w5,w1⟩:=o6.form;have A9:blocks.length<=9223372036854775807:=Zo;unfold yH;simp only;obtain⟨res,f6⟩:∃x,yi p n=x:=⟨_,rfl⟩
 rw[f6];have q5:=Ja f6;have j:=Ja (show p.funcs[n]? =some blocks/\wX w B (.slice ba blocks.length bc) blocks/\vZ blocks/\p.args[n]? =some x from⟨h9,o6,hs _ (Ji h9),hx⟩);have o9:Q w (w.alloc (G (Z p (some ⟨fb,fo,none⟩) f2 (some ⟨ab,ao,none⟩) a2 d1 d2 b1 b2) 29)):=(Below.refl _ _).alloc (Je _) _;have cf:=zV o9 (Jy b5 hB) f9;have C9:(n:Int)<p.funcs.length:=Zo;have D0:(n:Int)<p.args.length:=Zo;have v4:=Ja (show ab<B/\T w ab (ao+n) (I x) from⟨u4,g1⟩);have j9:=zI (W:=w) (o:=G (Z p (some ⟨fb,fo,none⟩) f2 (some ⟨ab,ao,none⟩) a2 d1 d2 b1 b2) 29) rfl;have k3:(w.alloc (G (Z p (some ⟨fb,fo,none⟩) f2 (some ⟨ab,ao,none⟩) a2 d1 d2 b1 b2) 29)).heap.size=w.heap.size+1:=by simp
 clear hp l3 l6 hB hl ha hs hn x6 x5 q3 q1 y3 x8 y5 y4 h9 hx f6 o6 w5 w1 f9 g1 b5 u4;go_enter Tryz.func69,Tryz.ntmps69;go_upto_region 1 with fail;generalize z0:w.alloc (G (Z p (some ⟨fb,fo,none⟩) f2 (some ⟨ab,ao,none⟩) a2 d1 d2 b1 b2) 29)=WP at *;have p0:=K0 j9;have u2:Q w (WP.alloc (G #[.slice ba blocks.length bc] 39)):=o9.alloc Zo _;have y:=zB (o:=G #[.slice ba blocks.length bc] 39) j9;have k0:A (WP.alloc (G #[.slice ba blocks.length bc] 39)) (w.heap.size+1) #[.slice ba blocks.length bc] 39:=zI k3;have e5:(WP.alloc (G #[.slice ba blocks.length bc] 39)).heap.size=w.heap.size+2:=by simp[k3]
 clear z0 o9 j9;go_upto_region 2 with fail;generalize z6:WP.alloc (G #[.slice ba blocks.length bc] 39)=WF at *;have q0:=K0 k0;clear z6 k3 p0 cf;have v1:=Ja (show Q w WF from u2);clear u2;rcases lp blocks with a4|⟨b0,bs,a4⟩
 ·have hr:res=true:=by rw[<-q5.out];unfold yi;rw[Jj,j.out.1,a4];rfl
  have t0:((blocks.length:Int)==0)=true:=by rw[a4];rfl
  clear a4;go_wp2;go_ret;exact⟨uz hr,v1.out⟩
 ·have t0:((blocks.length:Int)==0)=false:=by rw[beq_eq_false_iff_ne,a4,Nq];omega
  have v2:=Ja a4;have A7:(0:Int)<blocks.length:=by rw[a4,Nq];omega
  have h0:blocks[0]? =some b0:=by rw[a4];rfl
  obtain⟨kb,ko,rfl,t2,_,_,_,pv,ov,tv,e7,_,_,e6,_,_⟩:=j.out.2.1.get h0;obtain⟨pa,pc,rfl,l4,l2⟩:=e6.form;have A8:b0.params.length<=9223372036854775807:=Zo;have u9:=Ja (Jb t2 e7);clear a4 h0 t2 e7 e6 l4 l2;have p0:=K0 y;have p1:=K1 y;have p2:=K2 y;have p3:=K3 y;have p4:=K4 y;have p5:=K5 y;go_upto_region 5 with fail;have u6:A (((WF.alloc (.map #[] 0)).alloc (.map #[] 0)).alloc (G #[.slice (some ⟨fb,fo,none⟩) p.funcs.length f2,.slice (some ⟨ab,ao,none⟩) p.args.length a2,I p.entry,I p.handler,.slice d1 p.data.length d2,.slice b1 p.banks.length b2,.slice (some ⟨kb,ko,none⟩) blocks.length bc,.map (some (w.heap.size+2)),.map (some (w.heap.size+2+1)),U] 173)) (w.heap.size+2+1+1) #[.slice (some ⟨fb,fo,none⟩) p.funcs.length f2,.slice (some ⟨ab,ao,none⟩) p.args.length a2,I p.entry,I p.handler,.slice d1 p.data.length d2,.slice b1 p.banks.length b2,.slice (some ⟨kb,ko,none⟩) blocks.length bc,.map (some (w.heap.size+2)),.map (some (w.heap.size+2+1)),U] 173:=zI (by simp[e5]);have s9:(((WF.alloc (.map #[] 0)).alloc (.map #[] 0)).alloc (G #[.slice (some ⟨fb,fo,none⟩) p.funcs.length f2,.slice (some ⟨ab,ao,none⟩) p.args.length a2,I p.entry,I p.handler,.slice d1 p.data.length d2,.slice b1 p.banks.length b2,.slice (some ⟨kb,ko,none⟩) blocks.length bc,.map (some (w.heap.size+2)),.map (some (w.heap.size+2+1)),U] 173)).heap[w.heap.size+2]? =some (.map #[] 0):=zB (zB (zI e5));have s8:(((WF.alloc (.map #[] 0)).alloc (.map #[] 0)).alloc (G #[.slice (some ⟨fb,fo,none⟩) p.funcs.length f2,.slice (some ⟨ab,ao,none⟩) p.args.length a2,I p.entry,I p.handler,.slice d1 p.data.length d2,.slice b1 p.banks.length b2,.slice (some ⟨kb,ko,none⟩) blocks.length bc,.map (some (w.heap.size+2)),.map (some (w.heap.size+2+1)),U] 173)).heap[w.heap.size+2+1]? =some (.map #[] 0):=zB (zI (by simp[e5]));have b6:Q w (((WF.alloc (.map #[] 0)).alloc (.map #[] 0)).alloc (G #[.slice (some ⟨fb,fo,none⟩) p.funcs.length f2,.slice (some ⟨ab,ao,none⟩) p.args.length a2,I p.entry,I p.handler,.slice d1 p.data.length d2,.slice b1 p.banks.length b2,.slice (some ⟨kb,ko,none⟩) blocks.length bc,.map (some (w.heap.size+2)),.map (some (w.heap.size+2+1)),U] 173)):=((v1.out.alloc Zo _).alloc Zt _).alloc Zt _;have r3:A (((WF.alloc (.map #[] 0)).alloc (.map #[] 0)).alloc (G #[.slice (some ⟨fb,fo,none⟩) p.funcs.length f2,.slice (some ⟨ab,ao,none⟩) p.args.length a2,I p.entry,I p.handler,.slice d1 p.data.length d2,.slice b1 p.banks.length b2,.slice (some ⟨kb,ko,none⟩) blocks.length bc,.map (some (w.heap.size+2)),.map (some (w.heap.size+2+1)),U] 173)) w.heap.size (Z p (some ⟨fb,fo,none⟩) f2 (some ⟨ab,ao,none⟩) a2 d1 d2 b1 b2) 29:=zB (zB (zB y));have o3:A (((WF.alloc (.map #[] 0)).alloc (.map #[] 0)).alloc (G #[.slice (some ⟨fb,fo,none⟩) p.funcs.length f2,.slice (some ⟨ab,ao,none⟩) p.args.length a2,I p.entry,I p.handler,.slice d1 p.data.length d2,.slice b1 p.banks.length b2,.slice (some ⟨kb,ko,none⟩) blocks.length bc,.map (some (w.heap.size+2)),.map (some (w.heap.size+2+1)),U] 173)) (w.heap.size+1) #[.slice (some ⟨kb,ko,none⟩) blocks.length bc] 39:=zB (zB (zB k0));have r6:(((WF.alloc (.map #[] 0)).alloc (.map #[] 0)).alloc (G #[.slice (some ⟨fb,fo,none⟩) p.funcs.length f2,.slice (some ⟨ab,ao,none⟩) p.args.length a2,I p.entry,I p.handler,.slice d1 p.data.length d2,.slice b1 p.banks.length b2,.slice (some ⟨kb,ko,none⟩) blocks.length bc,.map (some (w.heap.size+2)),.map (some (w.heap.size+2+1)),U] 173)).heap.size=w.heap.size+2+1+1+1:=by simp[e5]
  generalize A2:((WF.alloc (.map #[] 0)).alloc (.map #[] 0)).alloc (G #[.slice (some ⟨fb,fo,none⟩) p.funcs.length f2,.slice (some ⟨ab,ao,none⟩) p.args.length a2,I p.entry,I p.handler,.slice d1 p.data.length d2,.slice b1 p.banks.length b2,.slice (some ⟨kb,ko,none⟩) blocks.length bc,.map (some (w.heap.size+2)),.map (some (w.heap.size+2+1)),U] 173)=W2 at *;generalize A3:w.heap.size+2+1+1=C at *;generalize v5:w.heap.size+2+1=m2 at *;generalize v6:w.heap.size+2=m1 at *;have a7:ChkAt W2 C m1 m2 (rC ⟨.slice (some ⟨fb,fo,none⟩) p.funcs.length f2,.slice (some ⟨ab,ao,none⟩) p.args.length a2,.slice d1 p.data.length d2,.slice b1 p.banks.length b2⟩ p) (.slice (some ⟨kb,ko,none⟩) blocks.length bc) (U) 0 ft:=ChkAt.made u6 rfl s9 s8 Zo;have w8:=Ja a7;have H2:=Ja (show Q w W2/\A W2 (w.heap.size+1) #[.slice (some ⟨kb,ko,none⟩) blocks.length bc] 39/\W2.heap.size=C+1/\w.heap.size+2=m1/\m1+1=m2/\m2+1=C from⟨b6,o3,r6,by omega,by omega,by omega⟩);have c0:=K0 o3;have c1:=K1 r3;have c2:T W2 kb ko (.slice pa b0.params.length pc):=by have:=zV (b6.mono m.out.2.1) u9.out.1 u9.out.2;simpa using this
  have c3:T W2 ab (ao+n) (I x):=zV (b6.mono m.out.2.1) v4.out.1 v4.out.2;obtain⟨qe,k6⟩:∃q,decide ((b0.params.length:Int)=x)=q:=⟨_,rfl⟩
  have t1:((b0.params.length:Int) !=x)=!qe:=by rw[bne,yv k6]
  have h5:p.args.getD n 0=x:=by rw[Jj,j.out.2.2.2];rfl
  have o1:yi p n=(qe && ((wg p blocks).map (iM blocks)).getD false):=by
   unfold yi;rw[Jj,j.out.1,Ot,v2.out];simp only;rw[h5,k6]
  rw[q5.out] at o1;have f5:=Ja o1;clear A2 A3 v5 v6 a7 b6 u6 s9 s8 r3 o3 r6 y k0 e5 q0 p0 p1 p2 p3 p4 p5 k6 h5 o1
  cases qe with
  |false=>
   go_quiet (fail);go_wp2;go_ret
   exact⟨uz f5.out,yC H2.out.1⟩
  |true=>
   have a5:Q w W2.drew:=H2.out.1.drew;have a6:=a5.mono m.out.2.1;have r5:=lM (m.out.1.below a6) (j.out.2.1.below yT a6) (Jn m.out.2.1 a5.size) (by have:=m.out.2.1;have:=H2.out.2.2.2;omega) (by have:=m.out.2.1;have:=H2.out.2.2.2;omega) m.out.2.2.1 j.out.2.2.1 (w8.out.below ((Below.refl W2.heap.size W2).drew));have q4:=Ja r5;have i2:=Ja a5;clear r5 a5 a6;obtain⟨r,hr⟩:∃r,wg p blocks=r:=⟨_,rfl⟩
   rw[hr] at q4 f5;have HR:=Ja hr;clear hr
   cases r with
   |none=>
    refine zt 14 Zk Zk ?_;simp only[Qo,Uc,Qp,Ui]
    repeat (go_big_quiet_step (fail))
    refine wpQuiet_nil ?_;go_wp2_with (first|(go_at_call 117;go_must (refine q4.out.mono ?_;rintro e w3 ⟨rfl,f0,_⟩))|go_in)
    go_ret
    exact⟨uz f5.out,i2.out.trans (f0.below (by have:=H2.out.2.2.2;omega) (by have:=H2.out.2.2.2;omega) i2.out.size)⟩
   |some d=>
    refine zt 14 Zk Zk ?_;simp only[Qo,Uc,Qp,Ui]
    repeat (go_big_quiet_step (fail))
    refine wpQuiet_nil ?_;go_upto_region 7 with(first|(go_at_call 117;go_must (refine q4.out.mono ?_;rintro e w3 ⟨rfl,f0,t9⟩))|go_in)
    obtain⟨N,hN,a7⟩:=t9 d rfl;have t:=i2.out.trans (f0.below (by have:=H2.out.2.2.2;omega) (by have:=H2.out.2.2.2;omega) i2.out.size);have o2:=f0.blk (b:=w.heap.size+1) H2.out.2.1 (by have:=H2.out.2.2.2;omega) (by have:=H2.out.2.2.2;omega);have g7:∀b∈blocks,(∀o∈b.ops,opF p o=true)/\tz blocks b.term=true:=rV blocks 0 ft d (by rw[<-wS];exact HR.out);have k2:C<w3.heap.size:=lt_of_block a7.blk;have t5:=ox (j.out.2.1.below yT (t.mono m.out.2.1)) (Jn m.out.2.1 t.size) ⟨j.out.2.2.1.1,fun b hb=>(j.out.2.2.1.2 b hb).2.2⟩;have HG:=Ja t5;have H3:=Ja (show Q w w3/\A w3 (w.heap.size+1) #[.slice (some ⟨kb,ko,none⟩) blocks.length bc] 39/\ChkAt w3 C m1 m2 (rC ⟨.slice (some ⟨fb,fo,none⟩) p.funcs.length f2,.slice (some ⟨ab,ao,none⟩) p.args.length a2,.slice d1 p.data.length d2,.slice b1 p.banks.length b2⟩ p) (.slice (some ⟨kb,ko,none⟩) blocks.length bc) (U) N d/\(∀b∈blocks,(∀o∈b.ops,opF p o=true)/\tz blocks b.term=true)/\C<w3.heap.size/\blocks≠ [] from⟨t,o2,a7,g7,k2,by rw[v2.out];simp⟩);have u0:=K0 o2;clear f0 t9 hN a7 t o2 g7 k2 t5 c0 c1 c2 c3 t1;have w0:(zk blocks).length=blocks.length:=by unfold zk;simp
    clear w0;go_upto_region 8 with(first|(go_at_call 41;go_must (refine HG.out.mono ?_;rintro e w4 ⟨gb,rfl,g8,t6,d4⟩))|go_in)
    have x3:(zk blocks).length=blocks.length:=by unfold zk;simp
    have g0:=(Below.refl w4.heap.size w4).alloc (Je _) (G #[L gb (zk blocks).length (zk blocks).length] 105);have k4:=g8.below g0;have d9:=d4.trans (g0.mono d4.size);have c7:Q w (w4.alloc (G #[L gb (zk blocks).length (zk blocks).length] 105)):=H3.out.1.trans (d9.mono H3.out.1.size);have t7:=zH d9 H3.out.2.1 (lt_of_block H3.out.2.1);have h8:=H3.out.2.2.1.below d9;have o0:=zI (W:=w4) (o:=G #[L gb (zk blocks).length (zk blocks).length] 105) rfl;have m4:C<w4.heap.size:=Jy H3.out.2.2.2.2.1 d4.size;have m8:=H3.out.2.2.2.2.1;generalize A1:w4.alloc (G #[L gb (zk blocks).length (zk blocks).length] 105)=W5 at *;generalize x4:w4.heap.size=g4 at *;generalize n3:(zk blocks).length=gl at *
    have b8:∀W:World,OwnRows zN 3 22 W w3.heap.size gb (zk blocks)->GraphIn W (L gb gl gl) (zy blocks):=fun W hW=>by
     have:=hW.asRows (Je _);rw[n3] at this;exact bU j.out.2.2.1 H3.out.2.2.2.2.2 (fun b hb=>(H3.out.2.2.2.1 b hb).2) this
    have r1:=Ja (show(∀W:World,OwnRows zN 3 22 W w3.heap.size gb (zk blocks)->GraphIn W (L gb gl gl) (zy blocks))/\OwnRows zN 3 22 W5 w3.heap.size gb (zk blocks)/\w3.heap.size<=gb from⟨b8,k4,t6⟩);have v0:=Ja (b8 _ k4);have H5:=Ja (show Q w W5/\A W5 (w.heap.size+1) #[.slice (some ⟨kb,ko,none⟩) blocks.length bc] 39/\ChkAt W5 C m1 m2 (rC ⟨.slice (some ⟨fb,fo,none⟩) p.funcs.length f2,.slice (some ⟨ab,ao,none⟩) p.args.length a2,.slice d1 p.data.length d2,.slice b1 p.banks.length b2⟩ p) (.slice (some ⟨kb,ko,none⟩) blocks.length bc) (U) N d/\A W5 g4 #[L gb gl gl] 105/\C<g4/\C<w3.heap.size from⟨c7,t7,h8,o0,m4,m8⟩);have u5:=K0 o0;clear g0 k4 d9 c7 t7 h8 o0 m4 m8 A1 x4 g8 d4 u0 t6 b8 n3 x3;go_upto_region 9 with(first|(go_at_call 118;go_must (refine(qP v0.out).mono ?_;rintro e w6 ⟨iv,rfl,d6,d3⟩;obtain⟨ia,ic,rfl⟩:=zG d6;have e8:=H5.out.2.2.1.below d3;have v9:T w6 C 9 (U):=zA e8.blk rfl;have vf:Y w6 C 9:=zE e8.blk))|go_in)
    have hv:=v0.out.valid;have nC:=zC d6 e8.blk (.inr Zd);have g9:=ownsRow_setCell_other (a:=⟨C,9,none⟩) d6 nC (.slice ia (wQ (zy blocks)).length ic);have n2:zY (w6.setCell ⟨C,9,none⟩ (.slice ia (wQ (zy blocks)).length ic)) (w6.setCell ⟨C,9,none⟩ (.slice ia (wQ (zy blocks)).length ic)).heap.size (.slice ia (wQ (zy blocks)).length ic) (wQ (zy blocks)):=uA g9 rfl (jT hv (by rw[xu];have:=j.out.2.2.1.1;omega));have h7:=e8.idom (.slice ia (wQ (zy blocks)).length ic);have a3:Q w (w6.setCell ⟨C,9,none⟩ (.slice ia (wQ (zy blocks)).length ic)):=(H5.out.1.trans (d3.mono H5.out.1.size)).setCell (by have:=H2.out.2.2.2;simp;omega) _;have h6:=zR (a:=⟨C,9,none⟩) (u:=.slice ia (wQ (zy blocks)).length ic) (zH d3 H5.out.2.1 (lt_of_block H5.out.2.1)) (by have:=H2.out.2.2.2;simp;omega);have n7:=zR (a:=⟨C,9,none⟩) (u:=.slice ia (wQ (zy blocks)).length ic) (zH d3 H5.out.2.2.2.1 (lt_of_block H5.out.2.2.2.1)) (by have:=H5.out.2.2.2.2;simp;omega);have n4:=r1.out.1 _ ((r1.out.2.1.below d3).set (a:=⟨C,9,none⟩) (by have:=r1.out.2.2;have:=H5.out.2.2.2.2.2;simp;omega) (by have:=H5.out.2.2.2.2.2;simp;omega) (.slice ia (wQ (zy blocks)).length ic));generalize A0:w6.setCell ⟨C,9,none⟩ (.slice ia (wQ (zy blocks)).length ic)=W7 at *;have h:=Ja (show Q w W7/\ChkAt W7 C m1 m2 (rC ⟨.slice (some ⟨fb,fo,none⟩) p.funcs.length f2,.slice (some ⟨ab,ao,none⟩) p.args.length a2,.slice d1 p.data.length d2,.slice b1 p.banks.length b2⟩ p) (.slice (some ⟨kb,ko,none⟩) blocks.length bc) (.slice ia (wQ (zy blocks)).length ic) N d/\zY W7 W7.heap.size (.slice ia (wQ (zy blocks)).length ic) (wQ (zy blocks))/\A W7 (w.heap.size+1) #[.slice (some ⟨kb,ko,none⟩) blocks.length bc] 39/\zw (zy blocks) from⟨a3,h7,n2,h6,hv⟩)
    have l7:∀W,Q W7 W->O 40 #[.agg #[L gb gl gl]] W fun e w'=>∃a c,e=.returned (.slice a (vD (zy blocks)).length c)/\Q W w':=fun W hb=>by
     refine(iJ (n4.below hb)).mono ?_;rintro e w' ⟨ov,rfl,ho,hb⟩;obtain⟨a,c,rfl⟩:=zG ho;exact⟨a,c,rfl,hb⟩
    have w7:=Ja l7;have y0:=K0 h6;have y1:=K0 n7;have l0:=lt_of_block h6;have l1:=lt_of_block n7;have k7:=Below.refl W7.heap.size W7;clear d6 d3 e8 v9 vf g9 nC n2 h7 a3 h6 n7 n4 l7 u5 hv A0;obtain⟨qo,k5⟩:∃q,decide ((vD (zy blocks)).length=blocks.length)=q:=⟨_,rfl⟩
    have t1:(((vD (zy blocks)).length:Int) !=(blocks.length:Int))=!qo:=by rw[bne,yv (q:=qo) (zZ k5 Zo)]
    have q9:=Ja k5;clear k5;generalize d7:(vD (zy blocks)).length=ol at *
    go_cut [57] (fun s wx=>s=.bool (!qo)/\Hid (Q W7 wx))
    case first=>
     go_region_held3 (fun w'=>T w' (w.heap.size+1) 0 (.slice (some ⟨kb,ko,none⟩) blocks.length bc)/\T w' g4 0 (L gb gl gl)/\Q W7 w')
      (first
        |(go_split_ands;refine⟨?_,?_,?_⟩<;>assumption)
        |(go_split_ands;refine⟨?_,?_,uG ?_⟩<;>assumption))
      (first|(go_at_call 40;go_must (refine(w7.out _ (by repeat' (first|assumption|(with_reducible refine Below.drew ?_)))).mono ?_;rintro e w2 ⟨qa,qc,rfl,b6⟩;have t:Q W7 w2:=Below.trans (by repeat' (first|assumption|(with_reducible refine Below.drew ?_))) (b6.mono (Below.size (B:=W7.heap.size) (w:=W7) (by repeat' (first|assumption|(with_reducible refine Below.drew ?_)))));have C5:T w2 (w.heap.size+1) 0 (.slice (some ⟨kb,ko,none⟩) blocks.length bc):=zV t l0 y0;have C4:T w2 g4 0 (L gb gl gl):=zV t l1 y1)))
     all_goals
      go_wp2_with fail;go_meet;exact⟨rfl,Ja (by repeat' (first|assumption|(with_reducible refine Below.drew ?_)))⟩
    case rest=>
     obtain⟨rfl,HB⟩:=hcut
     cases qo with
     |false=>
      have hr:res=false:=by
       rw[f5.out,Option.map_some,Ot];unfold iM;rw[d7,q9.out];rfl
      go_wp2;go_ret
      exact⟨uz hr,h.out.1.trans (HB.out.mono h.out.1.size)⟩
     |true=>
      have hr:res=tO d (zy blocks) blocks 0:=by
       rw[f5.out,Option.map_some,Ot];unfold iM;rw[d7,q9.out];rfl
      have b3:=jl h.out.2.2.2.2 (by rw[d7,xu];exact of_decide_eq_true q9.out);have f4:=Ja (Jb hr b3);have y2:T wc (w.heap.size+1) 0 (.slice (some ⟨kb,ko,none⟩) blocks.length bc):=zV HB.out l0 y0;clear hr b3 y0 y1 k7 t1 d7;go_wp2
      go_loopw [61] (fun iv wx=>∃i:Nat,i<=blocks.length/\iv=I i/\Hid (Q W7 wx/\tO d (zy blocks) (blocks.take i) 0=true)) (fun iv _=>blocks.length-(intOf iv).toNat)
      case atStart=>exact⟨0,Jt _,rfl,Ja ⟨HB.out,rfl⟩⟩
      case round=>
       obtain⟨i,hi,rfl,HI⟩:=hrel
       by_cases h4:i<blocks.length
       ·have v8:(i:Int)<blocks.length:=Zo;have i0:=Ja h4;obtain⟨bx,d0⟩:∃bx,blocks[i]? =some bx:=⟨_,Jd h4⟩
        obtain⟨b',o',e',b5,t4,t3,n1,C7,ov2,C6,e7,s7,s6,e6,m0,k1⟩:=j.out.2.1.get d0;cases e';obtain⟨g5,g3,rfl,l4,l2⟩:=e6.form;obtain⟨oa,oc,rfl,x2,x1⟩:=m0.form;obtain⟨ta,tc,rfl,x0,w9⟩:=k1.form;have C8:bx.ops.length<=9223372036854775807:=Zo;have l:Below B w wr:=(h.out.1.mono m.out.2.1).trans (HI.out.1.mono (Jn m.out.2.1 h.out.1.size));have e0:=zV l b5 e7;have e1:=zV l b5 s7;have e2:=zV l b5 t4;have e3:=zV l b5 t3;have e4:=zV l b5 s6;have a0:=Ja (show blocks[i]? =some bx/\mN w B (.slice oa bx.ops.length oc) bx.ops/\wH w B (.slice ta bx.term.to.length tc) bx.term.to/\(I64 bx.term.kind/\I64 bx.term.a)/\(bx.params.length<=2000000/\bx.ops.length<=2000000/\bx.term.to.length<=2000000)/\(∀o∈bx.ops,opF p o=true)/\tz blocks bx.term=true from⟨d0,m0,k1,n1,j.out.2.2.1.2 bx (Ji d0),(H3.out.2.2.2.1 bx (Ji d0)).1,(H3.out.2.2.2.1 bx (Ji d0)).2⟩);have j2:=zI (W:=wr) (o:=G #[.slice g5 bx.params.length g3,.slice oa bx.ops.length oc,I bx.term.kind,I bx.term.a,.slice ta bx.term.to.length tc] 84) rfl;have u3:=HI.out.1.alloc HI.out.1.size (G #[.slice g5 bx.params.length g3,.slice oa bx.ops.length oc,I bx.term.kind,I bx.term.a,.slice ta bx.term.to.length tc] 84);clear d0 t4 t3 n1 e7 s7 s6 e6 m0 k1 l4 l2 x2 x1 x0 w9 l h4 y2;go_upto_region 14 with fail;generalize z9:wr.alloc (G #[.slice g5 bx.params.length g3,.slice oa bx.ops.length oc,I bx.term.kind,I bx.term.a,.slice ta bx.term.to.length tc] 84)=W9 at *;generalize y8:wr.heap.size=b9 at *;have z1:=K1 j2;have H9:=Ja (show Q W7 W9/\A W9 b9 #[.slice g5 bx.params.length g3,.slice oa bx.ops.length oc,I bx.term.kind,I bx.term.a,.slice ta bx.term.to.length tc] 84 from⟨u3,j2⟩);clear z9 y8 j2 u3 e0 e1 e2 e3 e4;go_wp2
        go_loopw [69] (fun kv wx=>∃k:Nat,k<=bx.ops.length/\kv=I k/\Hid (Q W9 wx/\xF d (zy blocks) i (bx.ops.take k) 0=true)) (fun kv _=>bx.ops.length-(intOf kv).toNat)
        case atStart=>exact⟨0,Jt _,rfl,Ja ⟨Below.refl _ _,rfl⟩⟩
        case round=>
         obtain⟨k,hk,rfl,HK⟩:=hrel
         by_cases d8:k<bx.ops.length
         ·have r2:(k:Int)<bx.ops.length:=Zo;have r0:=Ja d8;obtain⟨o,ho⟩:∃o,bx.ops[k]? =some o:=⟨_,Jd d8⟩
          obtain⟨qb,qo,rfl,c9,s5,s4,s3,s2,s1,m3,av,s0,q2⟩:=a0.out.2.1.get ho;obtain⟨aa,ac,rfl,q3,q1⟩:=q2.form;have g:Q W7 wr:=H9.out.1.trans (HK.out.1.mono H9.out.1.size);have l:Below B w wr:=(h.out.1.mono m.out.2.1).trans (g.mono (Jn m.out.2.1 h.out.1.size));have c0:=zV l c9 s5;have c1:=zV l c9 s4;have c2:=zV l c9 s3;have c3:=zV l c9 s2;have c4:=zV l c9 s1;have c5:=zV l c9 s0;have b7:=zI (W:=wr) (o:=G #[I o.code,I o.res,I o.a,I o.b,M (o.n:Int),.slice aa o.args.length ac] 76) rfl;have u1:=HK.out.1.alloc HK.out.1.size (G #[I o.code,I o.res,I o.a,I o.b,M (o.n:Int),.slice aa o.args.length ac] 76);have a6:=l.alloc (Jn m.out.2.1 (Jn h.out.1.size g.size)) (G #[I o.code,I o.res,I o.a,I o.b,M (o.n:Int),.slice aa o.args.length ac] 76);have r4:=uses_any o m3 (Jn (Jn m.out.2.1 (Jn h.out.1.size g.size)) Zs) (q2.below zO a6) (aU m.out.2.2.2.1 (a0.out.2.2.2.2.2.1 o (Ji ho)));have HO:=Ja ho;clear ho s5 s4 s3 s2 s1 s0 m3 q2 q3 q1 l g d8 a6 z1;go_upto_region 17 with fail;generalize z7:wr.alloc (G #[I o.code,I o.res,I o.a,I o.b,M (o.n:Int),.slice aa o.args.length ac] 76)=WA at *;generalize y6:wr.heap.size=bA at *;have B5:=K0 b7;have B4:=K1 b7;have B3:=K2 b7;have B2:=K3 b7;have B1:=K4 b7;have B0:=K5 b7;have u8:=Ja r4;have d5:=Ja u1;clear r4 u1 b7 z7 y6 c0 c1 c2 c3 c4 c5;obtain⟨q,hq⟩:∃q,(rR o).all (yy d (zy blocks) i k)=q:=⟨_,rfl⟩
          have HQ:=Ja hq;clear hq
          have f3:∀W lv,Q WA W->zY W W.heap.size lv (rR o)->O 119 #[F C,lv,I i,I k] W (ym W q):=fun W lv hb hin=>by
           have a3:Q W7 W:=H9.out.1.trans ((d5.out.trans (hb.mono d5.out.size)).mono H9.out.1.size);rw[<-HQ.out];exact qI (h.out.2.1.below a3) h.out.2.2.2.2 f4.out.2 (by rw[xu];exact j.out.2.2.1.1) ((h.out.2.2.1.below zO a3).mono zO a3.size) (fun v b hv=>by rw[xu];exact rN HR.out v b hv) hin i (by rw[xu];exact i0.out) k (qL (Jn hk (Jn a0.out.2.2.2.2.1.2.1 Zd)))
          have i1:=Ja f3;clear f3
          cases q with
          |false=>
           go_wp2_with (first|(go_at_call 120;go_must (refine u8.out.mono ?_;rintro e wu ⟨uv,rfl,g6,b4⟩))|(go_at_call 119;go_must (refine(i1.out _ _ b4 g6).mono ?_;rintro e wd ⟨rfl,a5⟩))|go_in)
           go_ret
           have hr:res=false:=by
            rw[f4.out.1];refine pH a0.out.1 ?_;unfold aaC;rw[aeV HO.out HQ.out];rfl
           have A4:Q W7 wd:=H9.out.1.trans ((d5.out.trans ((b4.trans (a5.mono b4.size)).mono d5.out.size)).mono H9.out.1.size)
           exact⟨uz hr,h.out.1.trans (A4.mono h.out.1.size)⟩
          |true=>
           go_wp2_with (first|(go_at_call 120;go_must (refine u8.out.mono ?_;rintro e wu ⟨uv,rfl,g6,b4⟩))|(go_at_call 119;go_must (refine(i1.out _ _ b4 g6).mono ?_;rintro e wd ⟨rfl,a5⟩))|go_in)
           have HN:=Ja (d5.out.trans ((b4.trans (a5.mono b4.size)).mono d5.out.size));clear b4 a5 g6;go_roundw
           case rel=>
            have g2:=Ja (show Q W9 wd/\xF d (zy blocks) i (bx.ops.take (k+1)) 0=true from⟨HN.out,by rw[gZ HO.out,HK.out.2,HQ.out];rfl⟩)
            (repeat apply Exists.intro);exact⟨⟨k+1,r0.out,by go_num,g2⟩,rfl⟩
           case measure=>have:=r0.out;simp[intOf];omega
         ·obtain rfl:k=bx.ops.length:=by omega
          have r2:¬(bx.ops.length:Int)<bx.ops.length:=Zo;have g:Q W7 wr:=H9.out.1.trans (HK.out.1.mono H9.out.1.size);have a6:Below B w wr:=(h.out.1.mono m.out.2.1).trans (g.mono (Jn m.out.2.1 h.out.1.size));have c8:=zH HK.out.1 H9.out.2 (lt_of_block H9.out.2);have f8:=HK.out.2;rw[Nl] at f8;have z2:=K1 c8;have z3:=K2 c8;have z4:=K3 c8;have z5:=K4 c8;have l9:=lt_of_block c8;have k9:=Below.refl wr.heap.size wr;obtain⟨q,hq⟩:∃q,(mE bx.term).all (yy d (zy blocks) i bx.ops.length)=q:=⟨_,rfl⟩
          have t8:∀W,Q wr W->O 121 #[.agg #[I bx.term.kind,I bx.term.a,.slice ta bx.term.to.length tc]] W (wG W (mE bx.term)):=fun W hb=>
           ends_any bx.term a0.out.2.2.2.1 (Jn (Jn m.out.2.1 (Jn h.out.1.size g.size)) hb.size) (a0.out.2.2.1.below xL (a6.trans (hb.mono (Jn m.out.2.1 (Jn h.out.1.size g.size))))) ⟨a0.out.2.2.2.2.1.2.2,lD j.out.2.2.1 a0.out.2.2.2.2.2.2⟩
          have f3:∀W lv,Q wr W->zY W W.heap.size lv (mE bx.term)->O 119 #[F C,lv,I i,I (bx.ops.length:Int)] W (ym W q):=fun W lv hb hin=>by
           have a3:Q W7 W:=g.trans (hb.mono g.size);rw[<-hq];exact qI (h.out.2.1.below a3) h.out.2.2.2.2 f4.out.2 (by rw[xu];exact j.out.2.2.1.1) ((h.out.2.2.1.below zO a3).mono zO a3.size) (fun v b hv=>by rw[xu];exact rN HR.out v b hv) hin i (by rw[xu];exact i0.out) _ (qL (Jn a0.out.2.2.2.2.1.2.1 Zd))
          have A5:=Ja t8;have i1:=Ja f3;have HQ:=Ja (show aaC d (zy blocks) bx i=q from by unfold aaC;rw[f8,hq];rfl);have j1:=Ja g;clear hq t8 f3 f8 c8 a6 g d8 z1;go_wp2_with fail
          go_cut [91] (fun s wx=>s=.bool (!q)/\Hid (Q wr wx))
          case first=>
           go_region_held3 (fun w'=>T w' b9 1 (.slice oa bx.ops.length oc)/\T w' b9 2 (I bx.term.kind)/\T w' b9 3 (I bx.term.a)/\T w' b9 4 (.slice ta bx.term.to.length tc)/\Q wr w')
            (first
              |(go_split_ands;refine⟨?_,?_,?_,?_,?_⟩<;>assumption)
              |(go_split_ands;refine⟨?_,?_,?_,?_,uG ?_⟩<;>assumption))
            (first
              |(go_at_call 121;go_must (refine(A5.out _ (by repeat' (first|assumption|(with_reducible refine Below.drew ?_)))).mono ?_;rintro e w2 ⟨ev,rfl,x7,b6⟩;have t:Below wr.heap.size wr w2:=Below.trans (by repeat' (first|assumption|(with_reducible refine Below.drew ?_))) (b6.mono (Below.size (B:=wr.heap.size) (w:=wr) (by repeat' (first|assumption|(with_reducible refine Below.drew ?_)))));have B9:=zV t l9 z2;have B8:=zV t l9 z3;have B7:=zV t l9 z4;have B6:=zV t l9 z5))
              |(go_at_call 119;go_must (refine(i1.out _ _ (by repeat' (first|assumption|(with_reducible refine Below.drew ?_))) x7).mono ?_;rintro e w4 ⟨rfl,d4⟩;have c7:Below wr.heap.size wr w4:=Below.trans (by repeat' (first|assumption|(with_reducible refine Below.drew ?_))) (d4.mono (Below.size (B:=wr.heap.size) (w:=wr) (by repeat' (first|assumption|(with_reducible refine Below.drew ?_)))));have C3:=zV c7 l9 z2;have C2:=zV c7 l9 z3;have C1:=zV c7 l9 z4;have C0:=zV c7 l9 z5)))
           all_goals
            go_wp2_with fail;go_meet;exact⟨rfl,Ja (by repeat' (first|assumption|(with_reducible refine Below.drew ?_)))⟩
          case rest=>
           obtain⟨rfl,v3⟩:=hcut
           cases q with
           |false=>
            have hr:=Ja (show res=false by rw[f4.out.1];exact pH a0.out.1 HQ.out);go_wp2;go_ret
            exact⟨uz hr.out,h.out.1.trans ((j1.out.trans (v3.out.mono j1.out.size)).mono h.out.1.size)⟩
           |true=>
            go_wp2;go_roundw
            case rel=>
             have g2:=Ja (show Q W7 wc/\tO d (zy blocks) (blocks.take (i+1)) 0=true from⟨j1.out.trans (v3.out.mono j1.out.size),by rw[mz a0.out.1,HI.out.2,HQ.out];rfl⟩)
             (repeat apply Exists.intro);exact⟨⟨i+1,i0.out,by go_num,g2⟩,rfl⟩
            case measure=>have:=i0.out;simp[intOf];omega
       ·obtain rfl:i=blocks.length:=by omega
        have v8:¬(blocks.length:Int)<blocks.length:=Zo;have b3:=HI.out.2;rw[Nl] at b3;have hr:=Ja (f4.out.1.trans b3);clear b3 h4 y2;go_wp2;go_ret;exact⟨uz hr.out,h.out.1.trans (HI.out.1.mono h.out.1.size)⟩
theorem tu{B:Nat}{V:PV}{p:IProg}(hp:ProgIn w B V p)(hB:B<=w.heap.size)(hs:∀f∈p.funcs,vZ f):
 O 35 #[yH V p] w (m9 w (vC p)):=by
 have d:∀W,Q w W->O 68 #[yH V p] W (m9 W (sR p)):=fun W hb=>kB ((hp.below (hb.mono hB)).mono (Jn hB hb.size))
 have k:∀W n,Q w W->sR p=0->n<p.funcs.length->O 69 #[yH V p,I n] W (ym W (yi p n)):=fun W n hb h0 hn=>by
  obtain⟨_,h1,h2,_⟩:=se h0;exact nA (hp.below (hb.mono hB)) (Jn hB hb.size) h1 h2 hs hn
 obtain⟨Vf,Va,Vd,Vb⟩:=V;obtain⟨f1,f2,e1,_,_⟩:=hp.funcs.form;obtain⟨a1,a2,e2,_,_⟩:=hp.args.form;obtain⟨d1,d2,e3,_,_⟩:=hp.data.form;obtain⟨b1,b2,e4,_,_⟩:=hp.banks.form;simp only at e1 e2 e3 e4;subst e1 e2 e3 e4;have b6:p.funcs.length<=9223372036854775807:=Zo;unfold yH at d k ⊢;simp only at d k ⊢;have HH:=Ja d;have HF:=Ja k;have b0:Q w (w.alloc (G (Z p f1 f2 a1 a2 d1 d2 b1 b2) 29)):=(Below.refl _ _).alloc (Je _) _;have c:=zI (W:=w) (o:=G (Z p f1 f2 a1 a2 d1 d2 b1 b2) 29) rfl;obtain⟨res,t⟩:∃x,vC p=x:=⟨_,rfl⟩
 rw[t];have u:=Ja t;obtain⟨eh,a4⟩:∃x,sR p=x:=⟨_,rfl⟩
 rw[a4] at HH;have m:=Ja a4;clear hp hB hs d k t a4;go_enter Tryz.func35,Tryz.ntmps35;go_upto_region 1 with fail;generalize b5:w.alloc (G (Z p f1 f2 a1 a2 d1 d2 b1 b2) 29)=W0 at *;have y0:=K0 c;have y1:=K1 c;have y2:=K2 c;have y3:=K3 c;have y4:=K4 c;have y5:=K5 c;have H0:=Ja (show Q w W0/\A W0 w.heap.size (Z p f1 f2 a1 a2 d1 d2 b1 b2) 29 from⟨b0,c⟩);clear b0 c b5;go_upto_region 2 with(first|(go_at_call 68;go_must (refine(HH.out _ H0.out.1).mono ?_;rintro e w1 ⟨rfl,a5⟩))|go_in)
 have j:=Ja (show Q w w1/\A w1 w.heap.size (Z p f1 f2 a1 a2 d1 d2 b1 b2) 29 from⟨H0.out.1.trans (a5.mono H0.out.1.size),zH a5 H0.out.2 (lt_of_block H0.out.2)⟩);clear a5 y0 y1 y2 y3 y4 y5
 by_cases hz:eh=0
 ·subst hz;have y0:=K0 j.out.2;go_wp2
  go_loopw [13] (fun iv wx=>∃i:Nat,i<=p.funcs.length/\iv=I i/\Hid (Q w1 wx/\∀n,n<i->yi p n=true)) (fun iv _=>p.funcs.length-(intOf iv).toNat)
  case atStart=>exact⟨0,Jt _,rfl,Ja ⟨Below.refl _ _,fun n hn=>by omega⟩⟩
  case round=>
   obtain⟨i,hi,rfl,l⟩:=hrel
   by_cases y:i<p.funcs.length
   ·have b3:(i:Int)<p.funcs.length:=Zo;have a3:=Ja y;have g:=zH l.out.1 j.out.2 (lt_of_block j.out.2);have z0:=K0 g;have z1:=K1 g;have z2:=K2 g;have z3:=K3 g;have z4:=K4 g;have z5:=K5 g;have a7:=Ja (HF.out wr i (j.out.1.trans (l.out.1.mono j.out.1.size)) m.out y);obtain⟨q,hq⟩:∃q,yi p i=q:=⟨_,rfl⟩
    rw[hq] at a7;have HQ:=Ja hq;clear hq g y y0
    cases q with
    |false=>
     go_wp2_with (first|(go_at_call 69;go_must (refine a7.out.mono ?_;rintro e w2 ⟨rfl,a0⟩))|go_in)
     go_ret
     have hr:res=51:=by
      rw[<-u.out];unfold vC;rw[if_neg (by rw[m.out];simp),if_neg];intro b4;have:=Oe.1 b4 i (Ol.2 a3.out);rw[HQ.out] at this;cases this
     exact⟨zh hr.symm,j.out.1.trans ((l.out.1.trans (a0.mono l.out.1.size)).mono j.out.1.size)⟩
    |true=>
     go_wp2_with (first|(go_at_call 69;go_must (refine a7.out.mono ?_;rintro e w2 ⟨rfl,a0⟩))|go_in)
     have a6:=Ja (show Q w1 w2/\∀n,n<i+1->yi p n=true from⟨l.out.1.trans (a0.mono l.out.1.size),fun n hn=>by
      rcases Nat.lt_succ_iff_lt_or_eq.1 hn with h|rfl
      ·exact l.out.2 n h
      ·exact HQ.out⟩)
     clear a0;go_roundw
     case rel=>first|exact⟨i+1,a3.out,by go_num,a6⟩|((repeat apply Exists.intro);exact⟨⟨i+1,a3.out,by go_num,a6⟩,rfl⟩)
     case measure=>have:=a3.out;simp[intOf];omega
   ·obtain rfl:i=p.funcs.length:=by omega
    have b3:¬(p.funcs.length:Int)<p.funcs.length:=Zo
    have hr:=Ja (show res=0 by
     rw[<-u.out];unfold vC;rw[if_neg (by rw[m.out];simp),if_pos]
     exact Oe.2 fun n hn=>l.out.2 n (Ol.1 hn))
    clear y y0;go_wp2;go_ret;exact⟨zh hr.out.symm,j.out.1.trans (l.out.1.mono j.out.1.size)⟩
 ·have t1:(eh !=0)=true:=by rw[bne_iff_ne];exact hz
  have hr:=Ja (show res=eh by
   rw[<-u.out];unfold vC
   rw[if_pos (by rw[m.out];exact hz),m.out])
  clear hz;go_wp2;go_ret;exact⟨zh hr.out.symm,j.out.1⟩
def acg (f:Flds):Value:=.agg #[.bool f.is,.bool f.res,.bool f.a,.bool f.b,.bool f.n]
def wL (w:World)(f:Flds)(e:Ending)(w':World):Prop:=e=.returned (acg f)/\Q w w'
theorem shp_1 (w:World):O 52 #[I 1] w (wL w ⟨true,true,false,false,true⟩):=by
 go_enter Tryz.func52,Tryz.ntmps52;go_wp2;refine bodyPost_ret (v:=.agg #[.bool true,.bool true,.bool false,.bool false,.bool true]) ?_ rfl ?_
 ·rw[zM rfl];go_simp
 ·exact⟨rfl,Zr⟩
theorem shp_2 (w:World):O 52 #[I 2] w (wL w ⟨true,true,false,false,true⟩):=by
 go_enter Tryz.func52,Tryz.ntmps52;go_wp2;refine bodyPost_ret (v:=.agg #[.bool true,.bool true,.bool false,.bool false,.bool true]) ?_ rfl ?_
 ·rw[zM rfl];go_simp
 ·exact⟨rfl,Zr⟩
theorem shp_3 (w:World):O 52 #[I 3] w (wL w ⟨true,true,true,false,false⟩):=by
 go_enter Tryz.func52,Tryz.ntmps52;go_wp2;refine bodyPost_ret (v:=.agg #[.bool true,.bool true,.bool true,.bool false,.bool false]) ?_ rfl ?_
 ·rw[zM rfl];go_simp
 ·exact⟨rfl,Zr⟩
theorem shp_4 (w:World):O 52 #[I 4] w (wL w ⟨true,true,true,false,false⟩):=by
 go_enter Tryz.func52,Tryz.ntmps52;go_wp2;refine bodyPost_ret (v:=.agg #[.bool true,.bool true,.bool true,.bool false,.bool false]) ?_ rfl ?_
 ·rw[zM rfl];go_simp
 ·exact⟨rfl,Zr⟩
theorem shp_18 (w:World):O 52 #[I 18] w (wL w ⟨true,true,true,false,false⟩):=by
 go_enter Tryz.func52,Tryz.ntmps52;go_wp2;refine bodyPost_ret (v:=.agg #[.bool true,.bool true,.bool true,.bool false,.bool false]) ?_ rfl ?_
 ·rw[zM rfl];go_simp
 ·exact⟨rfl,Zr⟩
theorem shp_19 (w:World):O 52 #[I 19] w (wL w ⟨true,true,true,false,false⟩):=by
 go_enter Tryz.func52,Tryz.ntmps52;go_wp2;refine bodyPost_ret (v:=.agg #[.bool true,.bool true,.bool true,.bool false,.bool false]) ?_ rfl ?_
 ·rw[zM rfl];go_simp
 ·exact⟨rfl,Zr⟩
theorem shp_20 (w:World):O 52 #[I 20] w (wL w ⟨true,false,true,true,false⟩):=by
 go_enter Tryz.func52,Tryz.ntmps52;go_wp2;refine bodyPost_ret (v:=.agg #[.bool true,.bool false,.bool true,.bool true,.bool false]) ?_ rfl ?_
 ·rw[zM rfl];go_simp
 ·exact⟨rfl,Zr⟩
theorem shp_21 (w:World):O 52 #[I 21] w (wL w ⟨true,false,true,true,false⟩):=by
 go_enter Tryz.func52,Tryz.ntmps52;go_wp2;refine bodyPost_ret (v:=.agg #[.bool true,.bool false,.bool true,.bool true,.bool false]) ?_ rfl ?_
 ·rw[zM rfl];go_simp
 ·exact⟨rfl,Zr⟩
theorem shp_22 (w:World):O 52 #[I 22] w (wL w ⟨true,true,true,false,true⟩):=by
 go_enter Tryz.func52,Tryz.ntmps52;go_wp2;refine bodyPost_ret (v:=.agg #[.bool true,.bool true,.bool true,.bool false,.bool true]) ?_ rfl ?_
 ·rw[zM rfl];go_simp
 ·exact⟨rfl,Zr⟩
theorem shp_23 (w:World):O 52 #[I 23] w (wL w ⟨true,true,true,false,true⟩):=by
 go_enter Tryz.func52,Tryz.ntmps52;go_wp2;refine bodyPost_ret (v:=.agg #[.bool true,.bool true,.bool true,.bool false,.bool true]) ?_ rfl ?_
 ·rw[zM rfl];go_simp
 ·exact⟨rfl,Zr⟩
theorem shp_24 (w:World):O 52 #[I 24] w (wL w ⟨true,true,false,false,true⟩):=by
 go_enter Tryz.func52,Tryz.ntmps52;go_wp2;refine bodyPost_ret (v:=.agg #[.bool true,.bool true,.bool false,.bool false,.bool true]) ?_ rfl ?_
 ·rw[zM rfl];go_simp
 ·exact⟨rfl,Zr⟩
theorem shp_25 (w:World):O 52 #[I 25] w (wL w ⟨true,false,true,false,true⟩):=by
 go_enter Tryz.func52,Tryz.ntmps52;go_wp2;refine bodyPost_ret (v:=.agg #[.bool true,.bool false,.bool true,.bool false,.bool true]) ?_ rfl ?_
 ·rw[zM rfl];go_simp
 ·exact⟨rfl,Zr⟩
theorem shp_26 (w:World):O 52 #[I 26] w (wL w ⟨true,false,false,false,false⟩):=by
 go_enter Tryz.func52,Tryz.ntmps52;go_wp2;refine bodyPost_ret (v:=.agg #[.bool true,.bool false,.bool false,.bool false,.bool false]) ?_ rfl ?_
 ·rw[zM rfl];go_simp
 ·exact⟨rfl,Zr⟩
theorem shp_27 (w:World):O 52 #[I 27] w (wL w ⟨true,false,false,false,false⟩):=by
 go_enter Tryz.func52,Tryz.ntmps52;go_wp2;refine bodyPost_ret (v:=.agg #[.bool true,.bool false,.bool false,.bool false,.bool false]) ?_ rfl ?_
 ·rw[zM rfl];go_simp
 ·exact⟨rfl,Zr⟩
theorem aao (c:Int)(h:5<=c/\c<=17)(w:World):O 52 #[I c] w (wL w ⟨true,true,true,true,false⟩):=by
 have t1:((c:Int)==1)=false:=Ze;have t2:((c:Int)==2)=false:=Ze;have t3:((c:Int)==3)=false:=Ze;have t4:((c:Int)==4)=false:=Ze;have q:((c:Int)==18)=false:=Ze;have o:((c:Int)==19)=false:=Ze;have m:((c:Int)==20)=false:=Ze;have l:((c:Int)==21)=false:=Ze;have k:((c:Int)==22)=false:=Ze;have j:((c:Int)==23)=false:=Ze;have i:((c:Int)==24)=false:=Ze;have g:((c:Int)==25)=false:=Ze;have f:((c:Int)==26)=false:=Ze;have d:((c:Int)==27)=false:=Ze;have d1:decide (5<=c)=true:=by rw[decide_eq_true_eq];omega
 have d2:decide (c<=17)=true:=by rw[decide_eq_true_eq];omega
 clear h;go_enter Tryz.func52,Tryz.ntmps52;go_wp2;refine bodyPost_ret (v:=.agg #[.bool true,.bool true,.bool true,.bool true,.bool false]) ?_ rfl ?_
 ·rw[zM rfl];go_simp
 ·exact⟨rfl,Zr⟩
theorem shp_low (c:Int)(h:c<1)(w:World):O 52 #[I c] w (wL w ⟨false,false,false,false,false⟩):=by
 have t1:((c:Int)==1)=false:=Ze;have t2:((c:Int)==2)=false:=Ze;have t3:((c:Int)==3)=false:=Ze;have t4:((c:Int)==4)=false:=Ze;have q:((c:Int)==18)=false:=Ze;have o:((c:Int)==19)=false:=Ze;have m:((c:Int)==20)=false:=Ze;have l:((c:Int)==21)=false:=Ze;have k:((c:Int)==22)=false:=Ze;have j:((c:Int)==23)=false:=Ze;have i:((c:Int)==24)=false:=Ze;have g:((c:Int)==25)=false:=Ze;have f:((c:Int)==26)=false:=Ze;have d:((c:Int)==27)=false:=Ze;have d1:decide (5<=c)=false:=by rw[decide_eq_false_iff_not];omega
 have d2:decide (c<=17)=true:=by rw[decide_eq_true_eq];omega
 clear h;go_enter Tryz.func52,Tryz.ntmps52;go_wp2;refine bodyPost_ret (v:=.agg #[.bool false,.bool false,.bool false,.bool false,.bool false]) ?_ rfl ?_
 ·rw[zM rfl];go_simp
 ·exact⟨rfl,Zr⟩
theorem shp_high (c:Int)(h:27<c)(w:World):O 52 #[I c] w (wL w ⟨false,false,false,false,false⟩):=by
 have t1:((c:Int)==1)=false:=Ze;have t2:((c:Int)==2)=false:=Ze;have t3:((c:Int)==3)=false:=Ze;have t4:((c:Int)==4)=false:=Ze;have q:((c:Int)==18)=false:=Ze;have o:((c:Int)==19)=false:=Ze;have m:((c:Int)==20)=false:=Ze;have l:((c:Int)==21)=false:=Ze;have k:((c:Int)==22)=false:=Ze;have j:((c:Int)==23)=false:=Ze;have i:((c:Int)==24)=false:=Ze;have g:((c:Int)==25)=false:=Ze;have f:((c:Int)==26)=false:=Ze;have d:((c:Int)==27)=false:=Ze;have d1:decide (5<=c)=true:=by rw[decide_eq_true_eq];omega
 have d2:decide (c<=17)=false:=by rw[decide_eq_false_iff_not];omega
 clear h;go_enter Tryz.func52,Tryz.ntmps52;go_wp2;refine bodyPost_ret (v:=.agg #[.bool false,.bool false,.bool false,.bool false,.bool false]) ?_ rfl ?_
 ·rw[zM rfl];go_simp
 ·exact⟨rfl,Zr⟩
theorem aaK (c:Int)(w:World):O 52 #[I c] w (wL w (zi c)):=by
 rcases rJ c with⟨h,e⟩|⟨h,e⟩|⟨h,e⟩|⟨h,e⟩|⟨h,e⟩|⟨h,e⟩|⟨h,e⟩|⟨h,e⟩<;>rw[e]
 ·rcases h with rfl|rfl|rfl
  ·exact shp_1 w
  ·exact shp_2 w
  ·exact shp_24 w
 ·rcases h with rfl|rfl|rfl|rfl
  ·exact shp_3 w
  ·exact shp_4 w
  ·exact shp_18 w
  ·exact shp_19 w
 ·exact aao c h w
 ·rcases h with rfl|rfl
  ·exact shp_20 w
  ·exact shp_21 w
 ·rcases h with rfl|rfl
  ·exact shp_22 w
  ·exact shp_23 w
 ·subst h;exact shp_25 w
 ·rcases h with rfl|rfl
  ·exact shp_26 w
  ·exact shp_27 w
 ·rcases h with h|h
  ·exact shp_low c h w
  ·exact shp_high c h w
theorem dF{i:Int}:∀(os:List IOp) (k:Int),xF d g i os k=true↔∀(j:Nat) (o:IOp),os[j]? =some o->(rR o).all (yy d g i (k+j))=true
 | [],k=>by simp[xF]
 |o::os,k=>by
  show((rR o).all (yy d g i k) && xF d g i os (k+1))=true↔_
  rw[Jm,dF os (k+1)];constructor
  ·rintro⟨h1,h2⟩ j x hx
   cases j with
   |zero=>simp at hx;subst hx;simpa using h1
   |succ j=>
    have:=h2 j x (by simpa using hx);rw[show k+((j+1:Nat):Int)=k+1+(j:Int) by omega];exact this
  ·intro h;refine⟨by simpa using h 0 o rfl,fun j x hx=>?_⟩;have:=h (j+1) x (by simpa using hx);rw[show k+((j+1:Nat):Int)=k+1+(j:Int) by omega] at this;exact this
theorem cB:∀(bs:List IBlk) (i:Int),tO d g bs i=true↔∀(j:Nat) (b:IBlk),bs[j]? =some b->aaC d g b (i+j)=true
 | [],i=>by simp[tO]
 |b::bs,i=>by
  show(aaC d g b i && tO d g bs (i+1))=true↔_
  rw[Jm,cB bs (i+1)];constructor
  ·rintro⟨h1,h2⟩ j x hx
   cases j with
   |zero=>simp at hx;subst hx;simpa using h1
   |succ j=>
    have:=h2 j x (by simpa using hx);rw[show i+((j+1:Nat):Int)=i+1+(j:Int) by omega];exact this
  ·intro h;refine⟨by simpa using h 0 b rfl,fun j x hx=>?_⟩;have:=h (j+1) x (by simpa using hx);rw[show i+((j+1:Nat):Int)=i+1+(j:Int) by omega] at this;exact this
theorem aj(hv:zw g):(vD g).length=g.length↔∀x,x<g.length->wE g 0 x=true:=by
 constructor
 ·intro h x c;have hr:=jl hv h;have h0:0<g.length:=Zo;exact(yO hv 0 x).2 ⟨hr 0 h0,hr x c,dom_zero _ _⟩
 ·intro h;obtain⟨ns,d⟩:=adR hv;rw[d.eq];have h1:=dW (l:=0::ns) (m:=List.range g.length) d.nodup (fun x c=>Ol.2 (d.lt x c));have h2:=dW (l:=List.range g.length) (m:=0::ns) List.nodup_range (fun x c=>(d.mem x).2 ((yO hv 0 x).1 (h x (Ol.1 c))).2.1);rw[Un] at h1 h2;omega
abbrev Tr:=Option (Nat×Nat)
def trK (tr:Tr):Nat:=(tr.getD (0,0)).1
def trI (tr:Tr):Nat:=(tr.getD (0,0)).2
def ep (K:MK)(m:Mach)(tr:Tr)(dp:Int)(ov:Value):Array Value:=
 #[K.V.fv,K.V.av,I K.E.p.entry,I K.E.p.handler,K.V.dv,K.V.bv,L K.rb 8192 8192,K.inv,K.irqv,I m.fuel,.bool tr.isSome,I dp,M 0,ov,I (trK tr:Int),M (trI tr:Int),.string ⟨#[]⟩,I (m.inputs:Int),I (m.polls:Int)]
structure MachQ (w:World) (K:MK) (m:Mach) (tr:Tr) (dp:Int) (ov:Value):Prop where
 blk:w.heap[K.pm]? =some (.cells (ep K m tr dp ov) 114 (0,0))
 ram:w.heap[K.rb]? =some (.cells (m.ram.map q8).toArray 5 (0,0))
 rlen:m.ram.length=8192
 rlt:∀x∈m.ram,x<256
 out:w.ownsRow K.B 117 2 ov m.out.length (qO m.out)
 olt:∀p∈m.out,p.1<65536/\p.2<65536
 obd:m.out.length+m.fuel.toNat<=4000000
 fuel:-1<=m.fuel/\m.fuel<=4000000/\(tr=none->0<=m.fuel)
 inp:m.inputs<=K.E.inn.length
 pol:m.polls<=K.E.irq.length
 gpm:K.B<=K.pm
 grb:K.B<=K.rb
 prog:ProgIn w K.B K.V K.E.p
 inn:wV w K.B K.inv K.E.inn
 irq:dL w K.B K.irqv K.E.irq
def di:Obj->Prop
 |.cells _ t _=>t≠114/\t≠117/\t≠5
 |_=>True
structure FrmQ (B:Nat) (w w':World):Prop where
 below:Below B w w'
 kept:∀(k:Nat) (o:Obj),w.heap[k]? =some o->di o->w'.heap[k]? =some o
theorem FrmQ.refl (B:Nat)(w:World):FrmQ B w w:=⟨Below.refl _ _,fun _ _ h _=>h⟩
theorem FrmQ.trans {B:Nat}{a b c:World}(h:FrmQ B a b)(k:FrmQ B b c):FrmQ B a c:=⟨h.below.trans k.below,fun i o hi hs=>k.kept i o (h.kept i o hi hs) hs⟩
theorem FrmQ.drewN{B n:Nat}{a:World}(h:FrmQ B a w):FrmQ B a (w.drewN n):=⟨yC h.below,h.kept⟩
theorem FrmQ.alloc{B:Nat}{a:World}(h:FrmQ B a w)(c:B<=a.heap.size)(o:Obj):FrmQ B a (w.alloc o):=⟨h.below.alloc (Jn c h.below.size) o,fun i o' hi hs=>zB (h.kept i o' hi hs)⟩
theorem FrmQ.ofBelow{B:Nat}(hb:Q w w')(c:B<=w.heap.size):FrmQ B w w':=⟨hb.mono c,fun i o hi _=>zH hb hi (lt_of_block hi)⟩
theorem FrmQ.set{B:Nat}{a:World}(h:FrmQ B a w){b i:Nat}{cs:Array Value}{t:TypeId}(hb:A w b cs t)(c:B<=b)(ht:¬di (G cs t))(u:Value):FrmQ B a (w.setCell ⟨b,i,none⟩ u):=
 ⟨h.below.setCell c u,fun k o hk hs=>by
   have h1:=h.kept k o hk hs;refine zR h1 ?_;rintro rfl;rw[hb] at h1
   exact ht (by rw[Nt h1];exact hs)⟩
theorem MachQ.cell {w:World}{K:MK}{m:Mach}{tr:Tr}{dp:Int}{ov:Value}(h:MachQ w K m tr dp ov){i:Nat}{v:Value}(hv:(ep K m tr dp ov)[i]? =some v):T w K.pm i v:=zA h.blk hv
section
variable {w:World} {K:MK} {m:Mach} {tr:Tr} {dp:Int} {ov:Value} (h:MachQ w K m tr dp ov)
include h
theorem MachQ.c0:T w K.pm 0 K.V.fv:=h.cell rfl
theorem MachQ.c3:T w K.pm 3 (I K.E.p.handler):=h.cell rfl
theorem MachQ.c4:T w K.pm 4 K.V.dv:=h.cell rfl
theorem MachQ.c5:T w K.pm 5 K.V.bv:=h.cell rfl
theorem MachQ.c6:T w K.pm 6 (L K.rb 8192 8192):=h.cell rfl
theorem MachQ.c7:T w K.pm 7 K.inv:=h.cell rfl
theorem MachQ.c8:T w K.pm 8 K.irqv:=h.cell rfl
theorem MachQ.c9:T w K.pm 9 (I m.fuel):=h.cell rfl
theorem MachQ.c10:T w K.pm 10 (.bool tr.isSome):=h.cell rfl
theorem MachQ.c11:T w K.pm 11 (I dp):=h.cell rfl
theorem MachQ.c13:T w K.pm 13 ov:=h.cell rfl
theorem MachQ.c14:T w K.pm 14 (I (trK tr:Int)):=h.cell rfl
theorem MachQ.c15:T w K.pm 15 (M (trI tr:Int)):=h.cell rfl
theorem MachQ.c17:T w K.pm 17 (I (m.inputs:Int)):=h.cell rfl
theorem MachQ.c18:T w K.pm 18 (I (m.polls:Int)):=h.cell rfl
theorem MachQ.free (i:Nat):Y w K.pm i:=zE h.blk
theorem MachQ.lt:K.pm<w.heap.size:=lt_of_block h.blk
theorem MachQ.size:K.B<w.heap.size:=Nat.lt_of_le_of_lt h.gpm (lt_of_block h.blk)
theorem MachQ.ne:K.rb≠K.pm:=by
 intro e;have h1:=h.blk;have h2:=h.ram;rw[e,h1] at h2;simp at h2
theorem MachQ.keep(hb:Q w w'):MachQ w' K m tr dp ov:=
 ⟨zH hb h.blk (lt_of_block h.blk),zH hb h.ram (lt_of_block h.ram),h.rlen,h.rlt,p7 h.out hb (Je _),h.olt,h.obd,h.fuel,h.inp,h.pol,h.gpm,h.grb,
  h.prog.below (hb.mono (Jn h.gpm (Qd (lt_of_block h.blk)))),h.inn.below zr (hb.mono (Jn h.gpm (Qd (lt_of_block h.blk)))),h.irq.below xQ (hb.mono (Jn h.gpm (Qd (lt_of_block h.blk))))⟩
theorem MachQ.drewN (n:Nat):MachQ (w.drewN n) K m tr dp ov:=h.keep (yL _ _ _)
theorem MachQ.frm (i:Nat)(u:Value):FrmQ K.B w (w.setCell ⟨K.pm,i,none⟩ u):=(FrmQ.refl _ _).set h.blk h.gpm (by simp[di]) u
theorem MachQ.put (i:Nat)(u:Value){m':Mach}{tr':Tr}{dp':Int}(c:(ep K m tr dp ov).setIfInBounds i u=ep K m' tr' dp' ov)(h1:m'.ram=m.ram)(h2:m'.out=m.out)(h3:m'.out.length+m'.fuel.toNat<=4000000)
 (g:-1<=m'.fuel/\m'.fuel<=4000000/\(tr'=none->0<=m'.fuel)) (f:m'.inputs<=K.E.inn.length) (d:m'.polls<=K.E.irq.length):MachQ (w.setCell ⟨K.pm,i,none⟩ u) K m' tr' dp' ov:=by
 refine⟨?_,zR (by rw[h1];exact h.ram) (by simpa using h.ne),by rw[h1];exact h.rlen,by rw[h1];exact h.rlt,?_,by rw[h2];exact h.olt,h3,g,f,d,h.gpm,h.grb,?_,?_,?_⟩
 ·rw[zD h.blk,c]
 ·rw[h2];exact ownsRow_setCell_other h.out (by intro e;exact zC h.out h.blk (.inr Zd) (by simpa using e)) _
 ·exact h.prog.below ((Below.refl _ _).setCell h.gpm _)
 ·exact h.inn.below zr ((Below.refl _ _).setCell h.gpm _)
 ·exact h.irq.below xQ ((Below.refl _ _).setCell h.gpm _)
end
theorem ew(h:MachQ w K m none dp ov)(k i:Nat):O 101 #[F K.pm,I k,M i] w fun e w'=>e=.returned (.tuple #[])/\MachQ w' K m (some (k,i)) dp ov/\FrmQ K.B w w':=by
 have c10:=h.c10;have c14:=h.c14;have c15:=h.c15;have g:=h.free 10;have f:=h.free 14;have d:=h.free 15
 have c:=Ja (show MachQ (((w.setCell ⟨K.pm,10,none⟩ (.bool true)).setCell ⟨K.pm,14,none⟩ (I k)).setCell ⟨K.pm,15,none⟩ (M i)) K m (some (k,i)) dp ov/\FrmQ K.B w (((w.setCell ⟨K.pm,10,none⟩ (.bool true)).setCell ⟨K.pm,14,none⟩ (I k)).setCell ⟨K.pm,15,none⟩ (M i)) from by
  have h1:=h.put 10 (.bool true) (m':=m) (tr':=some (0,0)) (dp':=dp) rfl rfl rfl h.obd ⟨h.fuel.1,h.fuel.2.1,fun e=>by cases e⟩ h.inp h.pol;have h2:=h1.put 14 (I k) (m':=m) (tr':=some (k,0)) (dp':=dp) rfl rfl rfl h.obd ⟨h.fuel.1,h.fuel.2.1,fun e=>by cases e⟩ h.inp h.pol;have h3:=h2.put 15 (M i) (m':=m) (tr':=some (k,i)) (dp':=dp) rfl rfl rfl h.obd ⟨h.fuel.1,h.fuel.2.1,fun e=>by cases e⟩ h.inp h.pol
  exact⟨h3,((h.frm 10 _).trans (h1.frm 14 _)).trans (h2.frm 15 _)⟩)
 have hl:=h.lt;clear h;go_enter Tryz.func101,Tryz.ntmps101;go_wp2
 go_end0
 exact⟨rfl,c.out.1,c.out.2⟩
theorem bL(h:MachQ w K m none dp ov)(hf:0<m.fuel):O 102 #[F K.pm] w fun e w'=>e=.returned (.bool true)/\MachQ w' K m.pay none dp ov/\FrmQ K.B w w':=by
 have c9:=h.c9;have c10:=h.c10;have f9:=h.free 9;have hl:=h.lt;have d:¬m.fuel<1:=Zo;have hb:=h.fuel.2.1;have c:=Ja (Jb (h.put 9 (I (m.fuel-1)) (m':=m.pay) (tr':=none) (dp':=dp) rfl rfl rfl (by have:=h.obd;show m.out.length+(m.fuel-1).toNat<=_;omega) ⟨by show -1<=m.fuel-1;omega,by show m.fuel-1<=_;omega,fun _=>by show 0<=m.fuel-1;omega⟩ h.inp h.pol) (h.frm 9 (I (m.fuel-1))));clear h;go_enter Tryz.func102,Tryz.ntmps102;go_wp2;go_ret;exact⟨rfl,c.out.1,c.out.2⟩
theorem a9(h:MachQ w K m none dp ov)(hf:m.fuel<=0):O 102 #[F K.pm] w fun e w'=>e=.returned (.bool false)/\MachQ w' K m.pay (some (7,0)) dp ov/\FrmQ K.B w w':=by
 have c9:=h.c9;have j:m.fuel<1:=Zo;have g:=h.fuel.2.2 rfl;have H:=Ja h;clear h;go_enter Tryz.func102,Tryz.ntmps102;go_wp2_with (go_at_call 101;go_must (refine(ew H.out 7 0).mono ?_;rintro e w1 ⟨rfl,h1,c⟩;have d9:=h1.c9;have i:=h1.c10;have g9:=h1.free 9;have f:=h1.lt;have d:=Ja (Jb (h1.put 9 (I (m.fuel-1)) (m':=m.pay) (tr':=some (7,0)) (dp':=dp) rfl rfl rfl (by have:=h1.obd;show m.out.length+(m.fuel-1).toNat<=_;omega) ⟨by show -1<=m.fuel-1;omega,by show m.fuel-1<=_;omega,fun e=>by cases e⟩ h1.inp h1.pol) (c.trans (h1.frm 9 (I (m.fuel-1)))));clear h1 c))
 go_ret;exact⟨rfl,d.out.1,d.out.2⟩
def NilRet (w:World)(e:Ending)(w':World):Prop:=e=.returned (U)/\Q w w'
theorem agz{B:Nat}{V:PV}{p:IProg}(hp:ProgIn w B V p)(j:B<=w.heap.size)(hs:∀f∈p.funcs,vZ f)(hv:vC p=0)(f:Nat)(hf:p.funcs[f]? =some []):
 O 15 #[yH V p,I f] w (NilRet w):=by
 have o:∀W,Q w W->O 35 #[yH V p] W (m9 W 0):=fun W hb=>by
  have:=tu (hp.below (hb.mono j)) (Jn j hb.size) hs;rw[hv] at this;exact this
 have a7:=(Jh.1 hf).1;have a1:decide ((f:Int)<0)=false:=decide_eq_false Zo;have a0:decide ((p.funcs.length:Int)<=(f:Int))=false:=decide_eq_false Zo;have y:decide (p.funcs.length<=f)=false:=decide_eq_false Zo;obtain⟨Vf,Va,Vd,Vb⟩:=V;obtain⟨f1,f2,e1,b1,b0⟩:=hp.funcs.form;have u:Vf=.slice f1 p.funcs.length f2:=e1;subst u;obtain⟨X,t⟩:∃X,w.alloc (G #[.slice f1 p.funcs.length f2,Va,I p.entry,I p.handler,Vd,Vb] 29)=X:=⟨_,rfl⟩;have d:Q w X:=by rw[<-t];exact(Below.refl _ _).alloc (Je _) _
 have c:A X w.heap.size #[.slice f1 p.funcs.length f2,Va,I p.entry,I p.handler,Vd,Vb] 29:=by rw[<-t];exact zI rfl
 have x:=Ja (show ∀W,Q X W->O 35 #[.agg #[.slice f1 p.funcs.length f2,Va,I p.entry,I p.handler,Vd,Vb]] W (m9 W 0) from fun W hb=>o W (d.trans (hb.mono d.size)));obtain⟨gb,go,rfl,l,bv,g0,m⟩:=hp.funcs.get hf;obtain⟨ka,kc,rfl,a5,a4⟩:=m.form;rw[Nk] at g0;have HG:=Ja (show ∀W,Q w W->T W gb (go+f) (.slice ka 0 kc) from fun W hb=>zV (hb.mono j) l g0);have a6:gb<w.heap.size:=Zo;have x0:=zA (i:=0) c rfl;have x1:=zA (i:=1) c rfl;have x2:=zA (i:=2) c rfl;have x3:=zA (i:=3) c rfl;have x4:=zA (i:=4) c rfl;have x5:=zA (i:=5) c rfl;have q:=lt_of_block c;have h:=Ja (Jb d c);clear d c;clear hp j hs hv o hf g0 m l;unfold yH;go_enter Tryz.func15,Tryz.ntmps15;go_wp2_with fail
 go_step3
 go_wp2_with (go_at_call 35;go_must (refine(x.out _ (Below.refl _ _)).mono ?_;rintro e w1 ⟨rfl,g⟩;have k:=zH g h.out.2 q;have y0:=zA (i:=0) k rfl;have yg:=HG.out w1 (h.out.1.trans (g.mono h.out.1.size));have a3:=lt_of_block k;have a2:gb<w1.heap.size:=by omega))
 try rw[Exit.noGoto_ret]
 go_ret;exact⟨rfl,h.out.1.trans (g.mono h.out.1.size)⟩
end Go.Proofs.YtoahcpkibpomcaaGreat
