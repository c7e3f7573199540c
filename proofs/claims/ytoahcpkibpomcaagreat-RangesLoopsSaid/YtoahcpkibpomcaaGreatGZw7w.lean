/- Part of a proof. -/
import Derived.Test.YtoahcpkibpomcaaGreatGZt2w
set_option linter.all false
set_option maxHeartbeats 16000000
set_option maxRecDepth 100000
namespace Go.Proofs.YtoahcpkibpomcaaGreat
open Go.RowKit
variable {w:World}{W:Int->Int->Int->Prop}{d:wO}{c i j:Int}{k:Nat}{bl:List IBlk}{K:SK}{o:IOp}
theorem jT {g:List (List Nat)}(hv:zw g)(h:g.length<=9000000):∀x∈wQ g,I64 x:=by
 intro x d;unfold wQ at d;obtain⟨c,i,rfl⟩:=Nu.1 d;rcases idomOf hv c with⟨h1,_⟩|⟨c',h1,_,h3,_⟩
 ·rw[h1];exact⟨by omega,by omega⟩
 ·have:=(cA hv h3).1;rw[h1];exact⟨by omega,by omega⟩
theorem lp {α:Type}:∀l:List α,l=[]∨∃a m,l=a::m
 | []=> .inl rfl
 |a::m=> .inr ⟨a,m,rfl⟩
theorem nA{B:Nat}{V:PV}{p:IProg}(hp:ProgIn w B V p)(hB:B<=w.heap.size)(hl:p.args.length=p.funcs.length)(ha:p.args.all tX=true)(hs:∀f∈p.funcs,vZ f){n:Nat}(hn:n<p.funcs.length):
 G 69 #[yH V p,U n] w (ym w (yi p n)):=by
 have m:=Ja (show ProgIn w B V p/\B<=w.heap.size/\p.args.length=p.funcs.length/\p.args.all tX=true/\∀f∈p.funcs,vZ f from⟨hp,hB,hl,ha,hs⟩);have C2:=@run_makeMap Tryz.prog;obtain⟨Vf,Va,Vd,Vb⟩:=V;obtain⟨f1,f2,e1,w0,v6⟩:=hp.funcs.form;have l2:=hp.funcs;have l4:=hp.args;obtain⟨a1,a2,e2,o0,n8⟩:=hp.args.form;obtain⟨d1,d2,e3,w7,w5⟩:=hp.data.form;obtain⟨b1,b2,e4,w9,w8⟩:=hp.banks.form;simp only at e1 e2 e3 e4 l2 l4;subst e1 e2 e3 e4;have C3:p.funcs.length<=9223372036854775807:=Zo;have C4:p.args.length<=9223372036854775807:=Zo;obtain⟨blocks,h9⟩:∃bl,p.funcs[n]? =some bl:=⟨_,Jd hn⟩
 obtain⟨x,hx⟩:∃x,p.args[n]? =some x:=⟨_,Jd Zo⟩
 obtain⟨fb,fo,rfl,b5,bv,f8,n6⟩:=l2.get h9;obtain⟨ab,ao,rfl,s8,g0,y5⟩:=l4.get hx;rw[Nk] at f8 g0;obtain⟨ba,bc,rfl,u7,u6⟩:=n6.form;have A0:blocks.length<=9223372036854775807:=Zo;unfold yH;simp only;obtain⟨res,f6⟩:∃x,yi p n=x:=⟨_,rfl⟩
 rw[f6];have o2:=Ja f6;have j:=Ja (show p.funcs[n]? =some blocks/\wX w B (.slice ba blocks.length bc) blocks/\vZ blocks/\p.args[n]? =some x from⟨h9,n6,hs _ (Ji h9),hx⟩);have n7:Below w.heap.size w (w.alloc (I (P p (some ⟨fb,fo,none⟩) f2 (some ⟨ab,ao,none⟩) a2 d1 d2 b1 b2) 29)):=(Below.refl _ _).alloc (Je _) _;have cf:=zV n7 (Jy b5 hB) f8;have C0:(n:Int)<p.funcs.length:=Zo;have C1:(n:Int)<p.args.length:=Zo;have t8:=Ja (show ab<B/\A w ab (ao+n) (U x) from⟨s8,g0⟩);have j1:=zI (W:=w) (o:=I (P p (some ⟨fb,fo,none⟩) f2 (some ⟨ab,ao,none⟩) a2 d1 d2 b1 b2) 29) rfl;have k2:(w.alloc (I (P p (some ⟨fb,fo,none⟩) f2 (some ⟨ab,ao,none⟩) a2 d1 d2 b1 b2) 29)).heap.size=w.heap.size+1:=by simp
 clear hp l2 l4 hB hl ha hs hn w0 v6 o0 n8 w7 w5 w9 w8 h9 hx f6 n6 u7 u6 f8 g0 b5 s8;go_enter Tryz.func69,Tryz.ntmps69;go_upto_region 1 with fail;generalize x2:w.alloc (I (P p (some ⟨fb,fo,none⟩) f2 (some ⟨ab,ao,none⟩) a2 d1 d2 b1 b2) 29)=WP at *;have p0:=K0 j1;have s6:Below w.heap.size w (WP.alloc (I #[.slice ba blocks.length bc] 39)):=n7.alloc Zo _;have y:=zB (o:=I #[.slice ba blocks.length bc] 39) j1;have j2:O (WP.alloc (I #[.slice ba blocks.length bc] 39)) (w.heap.size+1) #[.slice ba blocks.length bc] 39:=zI k2;have e5:(WP.alloc (I #[.slice ba blocks.length bc] 39)).heap.size=w.heap.size+2:=by simp[k2]
 clear x2 n7 j1;go_upto_region 2 with fail;generalize x3:WP.alloc (I #[.slice ba blocks.length bc] 39)=WF at *;have q0:=K0 j2;clear x3 k2 p0 cf;have t5:=Ja (show Below w.heap.size w WF from s6);clear s6;rcases lp blocks with a4|⟨b0,bs,a4⟩
 ·have hr:res=true:=by rw[<-o2.out];unfold yi;rw[Jj,j.out.1,a4];rfl
  have t0:((blocks.length:Int)==0)=true:=by rw[a4];rfl
  clear a4;go_wp2;go_ret;exact⟨uz hr,t5.out⟩
 ·have t0:((blocks.length:Int)==0)=false:=by rw[beq_eq_false_iff_ne,a4,Nq];omega
  have t6:=Ja a4;have y6:(0:Int)<blocks.length:=by rw[a4,Nq];omega
  have h0:blocks[0]? =some b0:=by rw[a4];rfl
  obtain⟨kb,ko,rfl,r4,_,_,_,pv,ov,tv,e7,_,_,e6,_,_⟩:=j.out.2.1.get h0;obtain⟨pa,pc,rfl,l3,k6⟩:=e6.form;have z0:b0.params.length<=9223372036854775807:=Zo;have t3:=Ja (Jb r4 e7);clear a4 h0 r4 e7 e6 l3 k6;have p0:=K0 y;have p1:=K1 y;have p2:=K2 y;have p3:=K3 y;have p4:=K4 y;have p5:=K5 y;go_upto_region 5 with fail;have s9:O (((WF.alloc (.map #[] 0)).alloc (.map #[] 0)).alloc (I #[.slice (some ⟨fb,fo,none⟩) p.funcs.length f2,.slice (some ⟨ab,ao,none⟩) p.args.length a2,U p.entry,U p.handler,.slice d1 p.data.length d2,.slice b1 p.banks.length b2,.slice (some ⟨kb,ko,none⟩) blocks.length bc,.map (some (w.heap.size+2)),.map (some (w.heap.size+2+1)),L] 173)) (w.heap.size+2+1+1) #[.slice (some ⟨fb,fo,none⟩) p.funcs.length f2,.slice (some ⟨ab,ao,none⟩) p.args.length a2,U p.entry,U p.handler,.slice d1 p.data.length d2,.slice b1 p.banks.length b2,.slice (some ⟨kb,ko,none⟩) blocks.length bc,.map (some (w.heap.size+2)),.map (some (w.heap.size+2+1)),L] 173:=zI (by simp[e5]);have r3:(((WF.alloc (.map #[] 0)).alloc (.map #[] 0)).alloc (I #[.slice (some ⟨fb,fo,none⟩) p.funcs.length f2,.slice (some ⟨ab,ao,none⟩) p.args.length a2,U p.entry,U p.handler,.slice d1 p.data.length d2,.slice b1 p.banks.length b2,.slice (some ⟨kb,ko,none⟩) blocks.length bc,.map (some (w.heap.size+2)),.map (some (w.heap.size+2+1)),L] 173)).heap[w.heap.size+2]? =some (.map #[] 0):=zB (zB (zI e5));have r2:(((WF.alloc (.map #[] 0)).alloc (.map #[] 0)).alloc (I #[.slice (some ⟨fb,fo,none⟩) p.funcs.length f2,.slice (some ⟨ab,ao,none⟩) p.args.length a2,U p.entry,U p.handler,.slice d1 p.data.length d2,.slice b1 p.banks.length b2,.slice (some ⟨kb,ko,none⟩) blocks.length bc,.map (some (w.heap.size+2)),.map (some (w.heap.size+2+1)),L] 173)).heap[w.heap.size+2+1]? =some (.map #[] 0):=zB (zI (by simp[e5]));have b6:Below w.heap.size w (((WF.alloc (.map #[] 0)).alloc (.map #[] 0)).alloc (I #[.slice (some ⟨fb,fo,none⟩) p.funcs.length f2,.slice (some ⟨ab,ao,none⟩) p.args.length a2,U p.entry,U p.handler,.slice d1 p.data.length d2,.slice b1 p.banks.length b2,.slice (some ⟨kb,ko,none⟩) blocks.length bc,.map (some (w.heap.size+2)),.map (some (w.heap.size+2+1)),L] 173)):=((t5.out.alloc Zo _).alloc Zt _).alloc Zt _;have o9:O (((WF.alloc (.map #[] 0)).alloc (.map #[] 0)).alloc (I #[.slice (some ⟨fb,fo,none⟩) p.funcs.length f2,.slice (some ⟨ab,ao,none⟩) p.args.length a2,U p.entry,U p.handler,.slice d1 p.data.length d2,.slice b1 p.banks.length b2,.slice (some ⟨kb,ko,none⟩) blocks.length bc,.map (some (w.heap.size+2)),.map (some (w.heap.size+2+1)),L] 173)) w.heap.size (P p (some ⟨fb,fo,none⟩) f2 (some ⟨ab,ao,none⟩) a2 d1 d2 b1 b2) 29:=zB (zB (zB y));have n5:O (((WF.alloc (.map #[] 0)).alloc (.map #[] 0)).alloc (I #[.slice (some ⟨fb,fo,none⟩) p.funcs.length f2,.slice (some ⟨ab,ao,none⟩) p.args.length a2,U p.entry,U p.handler,.slice d1 p.data.length d2,.slice b1 p.banks.length b2,.slice (some ⟨kb,ko,none⟩) blocks.length bc,.map (some (w.heap.size+2)),.map (some (w.heap.size+2+1)),L] 173)) (w.heap.size+1) #[.slice (some ⟨kb,ko,none⟩) blocks.length bc] 39:=zB (zB (zB j2));have q2:(((WF.alloc (.map #[] 0)).alloc (.map #[] 0)).alloc (I #[.slice (some ⟨fb,fo,none⟩) p.funcs.length f2,.slice (some ⟨ab,ao,none⟩) p.args.length a2,U p.entry,U p.handler,.slice d1 p.data.length d2,.slice b1 p.banks.length b2,.slice (some ⟨kb,ko,none⟩) blocks.length bc,.map (some (w.heap.size+2)),.map (some (w.heap.size+2+1)),L] 173)).heap.size=w.heap.size+2+1+1+1:=by simp[e5]
  generalize x8:((WF.alloc (.map #[] 0)).alloc (.map #[] 0)).alloc (I #[.slice (some ⟨fb,fo,none⟩) p.funcs.length f2,.slice (some ⟨ab,ao,none⟩) p.args.length a2,U p.entry,U p.handler,.slice d1 p.data.length d2,.slice b1 p.banks.length b2,.slice (some ⟨kb,ko,none⟩) blocks.length bc,.map (some (w.heap.size+2)),.map (some (w.heap.size+2+1)),L] 173)=W2 at *;generalize x9:w.heap.size+2+1+1=C at *;generalize u1:w.heap.size+2+1=m2 at *;generalize u2:w.heap.size+2=m1 at *;have a8:ChkAt W2 C m1 m2 (rC ⟨.slice (some ⟨fb,fo,none⟩) p.funcs.length f2,.slice (some ⟨ab,ao,none⟩) p.args.length a2,.slice d1 p.data.length d2,.slice b1 p.banks.length b2⟩ p) (.slice (some ⟨kb,ko,none⟩) blocks.length bc) (L) 0 afB:=ChkAt.made s9 rfl r3 r2 Zo;have u9:=Ja a8;have H2:=Ja (show Below w.heap.size w W2/\O W2 (w.heap.size+1) #[.slice (some ⟨kb,ko,none⟩) blocks.length bc] 39/\W2.heap.size=C+1/\w.heap.size+2=m1/\m1+1=m2/\m2+1=C from⟨b6,n5,q2,by omega,by omega,by omega⟩);have c0:=K0 n5;have c1:=K1 o9;have c2:A W2 kb ko (.slice pa b0.params.length pc):=by have:=zV (b6.mono m.out.2.1) t3.out.1 t3.out.2;simpa using this
  have c3:A W2 ab (ao+n) (U x):=zV (b6.mono m.out.2.1) t8.out.1 t8.out.2;obtain⟨qe,k5⟩:∃q,decide ((b0.params.length:Int)=x)=q:=⟨_,rfl⟩
  have t1:((b0.params.length:Int) !=x)=!qe:=by rw[bne,y7 k5]
  have h5:p.args.getD n 0=x:=by rw[Jj,j.out.2.2.2];rfl
  have n3:yi p n=(qe && ((wg p blocks).map (iM blocks)).getD false):=by
   unfold yi;rw[Jj,j.out.1,Ot,t6.out];simp only;rw[h5,k5]
  rw[o2.out] at n3;have f5:=Ja n3;clear x8 x9 u1 u2 a8 b6 s9 r3 r2 o9 n5 q2 y j2 e5 q0 p0 p1 p2 p3 p4 p5 k5 h5 n3
  cases qe with
  |false=>
   go_quiet (fail);go_wp2;go_ret
   exact⟨uz f5.out,yC H2.out.1⟩
  |true=>
   have a5:Below w.heap.size w W2.drew:=H2.out.1.drew;have a6:=a5.mono m.out.2.1;have q1:=lM (m.out.1.below a6) (j.out.2.1.below yT a6) (Jn m.out.2.1 a5.size) (by have:=m.out.2.1;have:=H2.out.2.2.2;omega) (by have:=m.out.2.1;have:=H2.out.2.2.2;omega) m.out.2.2.1 j.out.2.2.1 (u9.out.below ((Below.refl W2.heap.size W2).drew));have o1:=Ja q1;have i2:=Ja a5;clear q1 a5 a6;obtain⟨r,hr⟩:∃r,wg p blocks=r:=⟨_,rfl⟩
   rw[hr] at o1 f5;have HR:=Ja hr;clear hr
   cases r with
   |none=>
    refine zt 14 Zk Zk ?_;simp only[Qo,Uc,Qp,Ui]
    repeat (go_big_quiet_step (fail))
    refine wpQuiet_nil ?_;go_wp2_with (first|(go_at_call 117;go_must (refine o1.out.mono ?_;rintro e w3 ⟨rfl,f0,_⟩))|go_in)
    go_ret
    exact⟨uz f5.out,i2.out.trans (f0.below (by have:=H2.out.2.2.2;omega) (by have:=H2.out.2.2.2;omega) i2.out.size)⟩
   |some d=>
    refine zt 14 Zk Zk ?_;simp only[Qo,Uc,Qp,Ui]
    repeat (go_big_quiet_step (fail))
    refine wpQuiet_nil ?_;go_upto_region 7 with(first|(go_at_call 117;go_must (refine o1.out.mono ?_;rintro e w3 ⟨rfl,f0,s4⟩))|go_in)
    obtain⟨N,hN,a8⟩:=s4 d rfl;have t:=i2.out.trans (f0.below (by have:=H2.out.2.2.2;omega) (by have:=H2.out.2.2.2;omega) i2.out.size);have n4:=f0.blk (b:=w.heap.size+1) H2.out.2.1 (by have:=H2.out.2.2.2;omega) (by have:=H2.out.2.2.2;omega);have g6:∀b∈blocks,(∀o∈b.ops,opF p o=true)/\mb blocks b.term=true:=rV blocks 0 afB d (by rw[<-wS];exact HR.out);have k1:C<w3.heap.size:=lt_of_block a8.blk;have s0:=ox (j.out.2.1.below yT (t.mono m.out.2.1)) (Jn m.out.2.1 t.size) ⟨j.out.2.2.1.1,fun b hb=>(j.out.2.2.1.2 b hb).2.2⟩;have HG:=Ja s0;have H3:=Ja (show Below w.heap.size w w3/\O w3 (w.heap.size+1) #[.slice (some ⟨kb,ko,none⟩) blocks.length bc] 39/\ChkAt w3 C m1 m2 (rC ⟨.slice (some ⟨fb,fo,none⟩) p.funcs.length f2,.slice (some ⟨ab,ao,none⟩) p.args.length a2,.slice d1 p.data.length d2,.slice b1 p.banks.length b2⟩ p) (.slice (some ⟨kb,ko,none⟩) blocks.length bc) (L) N d/\(∀b∈blocks,(∀o∈b.ops,opF p o=true)/\mb blocks b.term=true)/\C<w3.heap.size/\blocks≠ [] from⟨t,n4,a8,g6,k1,by rw[t6.out];simp⟩);have u0:=K0 n4;clear f0 s4 hN a8 t n4 g6 k1 s0 c0 c1 c2 c3 t1;have u4:(zk blocks).length=blocks.length:=by unfold zk;simp
    clear u4;go_upto_region 8 with(first|(go_at_call 41;go_must (refine HG.out.mono ?_;rintro e w4 ⟨gb,rfl,g8,s1,d4⟩))|go_in)
    have v4:(zk blocks).length=blocks.length:=by unfold zk;simp
    have f9:=(Below.refl w4.heap.size w4).alloc (Je _) (I #[F gb (zk blocks).length (zk blocks).length] 105);have k3:=g8.below f9;have d9:=d4.trans (f9.mono d4.size);have c7:Below w.heap.size w (w4.alloc (I #[F gb (zk blocks).length (zk blocks).length] 105)):=H3.out.1.trans (d9.mono H3.out.1.size);have s2:=zH d9 H3.out.2.1 (lt_of_block H3.out.2.1);have h8:=H3.out.2.2.1.below d9;have n2:=zI (W:=w4) (o:=I #[F gb (zk blocks).length (zk blocks).length] 105) rfl;have l8:C<w4.heap.size:=Jy H3.out.2.2.2.2.1 d4.size;have m0:=H3.out.2.2.2.2.1;generalize x7:w4.alloc (I #[F gb (zk blocks).length (zk blocks).length] 105)=W5 at *;generalize v5:w4.heap.size=g4 at *;generalize m5:(zk blocks).length=gl at *
    have b8:∀W:World,OwnRows zN 3 22 W w3.heap.size gb (zk blocks)->GraphIn W (F gb gl gl) (zy blocks):=fun W hW=>by
     have:=hW.asRows (Je _);rw[m5] at this;exact bU j.out.2.2.1 H3.out.2.2.2.2.2 (fun b hb=>(H3.out.2.2.2.1 b hb).2) this
    have o5:=Ja (show(∀W:World,OwnRows zN 3 22 W w3.heap.size gb (zk blocks)->GraphIn W (F gb gl gl) (zy blocks))/\OwnRows zN 3 22 W5 w3.heap.size gb (zk blocks)/\w3.heap.size<=gb from⟨b8,k3,s1⟩);have t4:=Ja (b8 _ k3);have H5:=Ja (show Below w.heap.size w W5/\O W5 (w.heap.size+1) #[.slice (some ⟨kb,ko,none⟩) blocks.length bc] 39/\ChkAt W5 C m1 m2 (rC ⟨.slice (some ⟨fb,fo,none⟩) p.funcs.length f2,.slice (some ⟨ab,ao,none⟩) p.args.length a2,.slice d1 p.data.length d2,.slice b1 p.banks.length b2⟩ p) (.slice (some ⟨kb,ko,none⟩) blocks.length bc) (L) N d/\O W5 g4 #[F gb gl gl] 105/\C<g4/\C<w3.heap.size from⟨c7,s2,h8,n2,l8,m0⟩);have u5:=K0 n2;clear f9 k3 d9 c7 s2 h8 n2 l8 m0 x7 v5 g8 d4 u0 s1 b8 m5 v4;go_upto_region 9 with(first|(go_at_call 118;go_must (refine(qP t4.out).mono ?_;rintro e w6 ⟨iv,rfl,d6,d3⟩;obtain⟨ia,ic,rfl⟩:=zG d6;have e9:=H5.out.2.2.1.below d3;have v9:A w6 C 9 (L):=zA e9.blk rfl;have vf:D w6 C 9:=zE e9.blk))|go_in)
    have hv:=t4.out.valid;have nC:=zC d6 e9.blk (.inr Zd);have g9:=ownsRow_setCell_other (a:=⟨C,9,none⟩) d6 nC (.slice ia (wQ (zy blocks)).length ic);have m4:zY (w6.setCell ⟨C,9,none⟩ (.slice ia (wQ (zy blocks)).length ic)) (w6.setCell ⟨C,9,none⟩ (.slice ia (wQ (zy blocks)).length ic)).heap.size (.slice ia (wQ (zy blocks)).length ic) (wQ (zy blocks)):=uA g9 rfl (jT hv (by rw[xu];have:=j.out.2.2.1.1;omega));have h7:=e9.idom (.slice ia (wQ (zy blocks)).length ic);have a3:Below w.heap.size w (w6.setCell ⟨C,9,none⟩ (.slice ia (wQ (zy blocks)).length ic)):=(H5.out.1.trans (d3.mono H5.out.1.size)).setCell (by have:=H2.out.2.2.2;simp;omega) _;have h6:=zR (a:=⟨C,9,none⟩) (u:=.slice ia (wQ (zy blocks)).length ic) (zH d3 H5.out.2.1 (lt_of_block H5.out.2.1)) (by have:=H2.out.2.2.2;simp;omega);have n1:=zR (a:=⟨C,9,none⟩) (u:=.slice ia (wQ (zy blocks)).length ic) (zH d3 H5.out.2.2.2.1 (lt_of_block H5.out.2.2.2.1)) (by have:=H5.out.2.2.2.2;simp;omega);have n0:=o5.out.1 _ ((o5.out.2.1.below d3).set (a:=⟨C,9,none⟩) (by have:=o5.out.2.2;have:=H5.out.2.2.2.2.2;simp;omega) (by have:=H5.out.2.2.2.2.2;simp;omega) (.slice ia (wQ (zy blocks)).length ic));generalize x6:w6.setCell ⟨C,9,none⟩ (.slice ia (wQ (zy blocks)).length ic)=W7 at *;have h:=Ja (show Below w.heap.size w W7/\ChkAt W7 C m1 m2 (rC ⟨.slice (some ⟨fb,fo,none⟩) p.funcs.length f2,.slice (some ⟨ab,ao,none⟩) p.args.length a2,.slice d1 p.data.length d2,.slice b1 p.banks.length b2⟩ p) (.slice (some ⟨kb,ko,none⟩) blocks.length bc) (.slice ia (wQ (zy blocks)).length ic) N d/\zY W7 W7.heap.size (.slice ia (wQ (zy blocks)).length ic) (wQ (zy blocks))/\O W7 (w.heap.size+1) #[.slice (some ⟨kb,ko,none⟩) blocks.length bc] 39/\zw (zy blocks) from⟨a3,h7,m4,h6,hv⟩)
    have l5:∀W,Below W7.heap.size W7 W->G 40 #[.agg #[F gb gl gl]] W fun e w'=>∃a c,e=.returned (.slice a (vD (zy blocks)).length c)/\Below W.heap.size W w':=fun W hb=>by
     refine(iJ (n0.below hb)).mono ?_;rintro e w' ⟨ov,rfl,ho,hb⟩;obtain⟨a,c,rfl⟩:=zG ho;exact⟨a,c,rfl,hb⟩
    have u8q:=Ja l5;have y0:=K0 h6;have y1:=K0 n1;have l0:=lt_of_block h6;have l1:=lt_of_block n1;have k7:=Below.refl W7.heap.size W7;clear d6 d3 e9 v9 vf g9 nC m4 h7 a3 h6 n1 n0 l5 u5 hv x6;obtain⟨qo,k4⟩:∃q,decide ((vD (zy blocks)).length=blocks.length)=q:=⟨_,rfl⟩
    have t1:(((vD (zy blocks)).length:Int) !=(blocks.length:Int))=!qo:=by rw[bne,y7 (q:=qo) (zZ k4 Zo)]
    have o3:=Ja k4;clear k4;generalize d7:(vD (zy blocks)).length=ol at *
    go_cut [57] (fun s wx=>s=.bool (!qo)/\Hid (Below W7.heap.size W7 wx))
    case first=>
     go_region_held3 (fun w'=>A w' (w.heap.size+1) 0 (.slice (some ⟨kb,ko,none⟩) blocks.length bc)/\A w' g4 0 (F gb gl gl)/\Below W7.heap.size W7 w')
      (first
        |(go_split_ands;refine⟨?_,?_,?_⟩<;>assumption)
        |(go_split_ands;refine⟨?_,?_,uG ?_⟩<;>assumption))
      (first|(go_at_call 40;go_must (refine(u8q.out _ (by repeat' (first|assumption|(with_reducible refine Below.drew ?_)))).mono ?_;rintro e w2 ⟨qa,qc,rfl,b6⟩;have t:Below W7.heap.size W7 w2:=Below.trans (by repeat' (first|assumption|(with_reducible refine Below.drew ?_))) (b6.mono (Below.size (B:=W7.heap.size) (w:=W7) (by repeat' (first|assumption|(with_reducible refine Below.drew ?_)))));have B6:A w2 (w.heap.size+1) 0 (.slice (some ⟨kb,ko,none⟩) blocks.length bc):=zV t l0 y0;have B5:A w2 g4 0 (F gb gl gl):=zV t l1 y1)))
     all_goals
      go_wp2_with fail;go_meet;exact⟨rfl,Ja (by repeat' (first|assumption|(with_reducible refine Below.drew ?_)))⟩
    case rest=>
     obtain⟨rfl,HB⟩:=hcut
     cases qo with
     |false=>
      have hr:res=false:=by
       rw[f5.out,Option.map_some,Ot];unfold iM;rw[d7,o3.out];rfl
      go_wp2;go_ret
      exact⟨uz hr,h.out.1.trans (HB.out.mono h.out.1.size)⟩
     |true=>
      have hr:res=tO d (zy blocks) blocks 0:=by
       rw[f5.out,Option.map_some,Ot];unfold iM;rw[d7,o3.out];rfl
      have b3:=jl h.out.2.2.2.2 (by rw[d7,xu];exact of_decide_eq_true o3.out);have f4:=Ja (Jb hr b3);have y2:A wc (w.heap.size+1) 0 (.slice (some ⟨kb,ko,none⟩) blocks.length bc):=zV HB.out l0 y0;clear hr b3 y0 y1 k7 t1 d7;go_wp2
      go_loopw [61] (fun iv wx=>∃i:Nat,i<=blocks.length/\iv=U i/\Hid (Below W7.heap.size W7 wx/\tO d (zy blocks) (blocks.take i) 0=true)) (fun iv _=>blocks.length-(intOf iv).toNat)
      case atStart=>exact⟨0,Jt _,rfl,Ja ⟨HB.out,rfl⟩⟩
      case round=>
       obtain⟨i,hi,rfl,HI⟩:=hrel
       by_cases h4:i<blocks.length
       ·have u3:(i:Int)<blocks.length:=Zo;have i0:=Ja h4;obtain⟨bx,d0⟩:∃bx,blocks[i]? =some bx:=⟨_,Jd h4⟩
        obtain⟨b',o',e',b5,r6,r5,m3,B8,ov2,B7,e7,r1,r0,e6,l6,k0⟩:=j.out.2.1.get d0;cases e';obtain⟨g3,g2,rfl,l3,k6⟩:=e6.form;obtain⟨oa,oc,rfl,v3,v2⟩:=l6.form;obtain⟨ta,tc,rfl,v1,v0⟩:=k0.form;have B9:bx.ops.length<=9223372036854775807:=Zo;have l:Below B w wr:=(h.out.1.mono m.out.2.1).trans (HI.out.1.mono (Jn m.out.2.1 h.out.1.size));have e0:=zV l b5 e7;have e1:=zV l b5 r1;have e2:=zV l b5 r6;have e3:=zV l b5 r5;have e4:=zV l b5 r0;have a0:=Ja (show blocks[i]? =some bx/\mN w B (.slice oa bx.ops.length oc) bx.ops/\wH w B (.slice ta bx.term.to.length tc) bx.term.to/\(I64 bx.term.kind/\I64 bx.term.a)/\(bx.params.length<=2000000/\bx.ops.length<=2000000/\bx.term.to.length<=2000000)/\(∀o∈bx.ops,opF p o=true)/\mb blocks bx.term=true from⟨d0,l6,k0,m3,j.out.2.2.1.2 bx (Ji d0),(H3.out.2.2.2.1 bx (Ji d0)).1,(H3.out.2.2.2.1 bx (Ji d0)).2⟩);have j0:=zI (W:=wr) (o:=I #[.slice g3 bx.params.length g2,.slice oa bx.ops.length oc,U bx.term.kind,U bx.term.a,.slice ta bx.term.to.length tc] 84) rfl;have s7:=HI.out.1.alloc HI.out.1.size (I #[.slice g3 bx.params.length g2,.slice oa bx.ops.length oc,U bx.term.kind,U bx.term.a,.slice ta bx.term.to.length tc] 84);clear d0 r6 r5 m3 e7 r1 r0 e6 l6 k0 l3 k6 v3 v2 v1 v0 l h4 y2;go_upto_region 14 with fail;generalize x5:wr.alloc (I #[.slice g3 bx.params.length g2,.slice oa bx.ops.length oc,U bx.term.kind,U bx.term.a,.slice ta bx.term.to.length tc] 84)=W9 at *;generalize x1:wr.heap.size=b9 at *;have z1:=K1 j0;have H9:=Ja (show Below W7.heap.size W7 W9/\O W9 b9 #[.slice g3 bx.params.length g2,.slice oa bx.ops.length oc,U bx.term.kind,U bx.term.a,.slice ta bx.term.to.length tc] 84 from⟨s7,j0⟩);clear x5 x1 j0 s7 e0 e1 e2 e3 e4;go_wp2
        go_loopw [69] (fun kv wx=>∃k:Nat,k<=bx.ops.length/\kv=U k/\Hid (Below W9.heap.size W9 wx/\xF d (zy blocks) i (bx.ops.take k) 0=true)) (fun kv _=>bx.ops.length-(intOf kv).toNat)
        case atStart=>exact⟨0,Jt _,rfl,Ja ⟨Below.refl _ _,rfl⟩⟩
        case round=>
         obtain⟨k,hk,rfl,HK⟩:=hrel
         by_cases d8:k<bx.ops.length
         ·have o6:(k:Int)<bx.ops.length:=Zo;have o4:=Ja d8;obtain⟨o,ho⟩:∃o,bx.ops[k]? =some o:=⟨_,Jd d8⟩
          obtain⟨qb,qo,rfl,c9,q9,q7,q6,q5,q4,l7,av,q3,n9⟩:=a0.out.2.1.get ho;obtain⟨aa,ac,rfl,o0,n8⟩:=n9.form;have g:Below W7.heap.size W7 wr:=H9.out.1.trans (HK.out.1.mono H9.out.1.size);have l:Below B w wr:=(h.out.1.mono m.out.2.1).trans (g.mono (Jn m.out.2.1 h.out.1.size));have c0:=zV l c9 q9;have c1:=zV l c9 q7;have c2:=zV l c9 q6;have c3:=zV l c9 q5;have c4:=zV l c9 q4;have c5:=zV l c9 q3;have b7:=zI (W:=wr) (o:=I #[U o.code,U o.res,U o.a,U o.b,Y (o.n:Int),.slice aa o.args.length ac] 76) rfl;have s5:=HK.out.1.alloc HK.out.1.size (I #[U o.code,U o.res,U o.a,U o.b,Y (o.n:Int),.slice aa o.args.length ac] 76);have a6:=l.alloc (Jn m.out.2.1 (Jn h.out.1.size g.size)) (I #[U o.code,U o.res,U o.a,U o.b,Y (o.n:Int),.slice aa o.args.length ac] 76);have p8:=uses_any o l7 (Jn (Jn m.out.2.1 (Jn h.out.1.size g.size)) Zs) (n9.below zO a6) (aU m.out.2.2.2.1 (a0.out.2.2.2.2.2.1 o (Ji ho)));have HO:=Ja ho;clear ho q9 q7 q6 q5 q4 q3 l7 n9 o0 n8 l g d8 a6 z1;go_upto_region 17 with fail;generalize x4:wr.alloc (I #[U o.code,U o.res,U o.a,U o.b,Y (o.n:Int),.slice aa o.args.length ac] 76)=WA at *;generalize x0:wr.heap.size=bA at *;have A6:=K0 b7;have A5:=K1 b7;have A4:=K2 b7;have A3:=K3 b7;have A2:=K4 b7;have A1:=K5 b7;have t2:=Ja p8;have d5:=Ja s5;clear p8 s5 b7 x4 x0 c0 c1 c2 c3 c4 c5;obtain⟨q,hq⟩:∃q,(rR o).all (yy d (zy blocks) i k)=q:=⟨_,rfl⟩
          have HQ:=Ja hq;clear hq
          have f3:∀W lv,Below WA.heap.size WA W->zY W W.heap.size lv (rR o)->G 119 #[Q C,lv,U i,U k] W (ym W q):=fun W lv hb hin=>by
           have a3:Below W7.heap.size W7 W:=H9.out.1.trans ((d5.out.trans (hb.mono d5.out.size)).mono H9.out.1.size);rw[<-HQ.out];exact qI (h.out.2.1.below a3) h.out.2.2.2.2 f4.out.2 (by rw[xu];exact j.out.2.2.1.1) ((h.out.2.2.1.below zO a3).mono zO a3.size) (fun v b hv=>by rw[xu];exact rN HR.out v b hv) hin i (by rw[xu];exact i0.out) k (qL (Jn hk (Jn a0.out.2.2.2.2.1.2.1 Zd)))
          have i1:=Ja f3;clear f3
          cases q with
          |false=>
           go_wp2_with (first|(go_at_call 120;go_must (refine t2.out.mono ?_;rintro e wu ⟨uv,rfl,g5,b4⟩))|(go_at_call 119;go_must (refine(i1.out _ _ b4 g5).mono ?_;rintro e wd ⟨rfl,a5⟩))|go_in)
           go_ret
           have hr:res=false:=by
            rw[f4.out.1];refine pH a0.out.1 ?_;unfold aaC;rw[agO HO.out HQ.out];rfl
           have y3:Below W7.heap.size W7 wd:=H9.out.1.trans ((d5.out.trans ((b4.trans (a5.mono b4.size)).mono d5.out.size)).mono H9.out.1.size)
           exact⟨uz hr,h.out.1.trans (y3.mono h.out.1.size)⟩
          |true=>
           go_wp2_with (first|(go_at_call 120;go_must (refine t2.out.mono ?_;rintro e wu ⟨uv,rfl,g5,b4⟩))|(go_at_call 119;go_must (refine(i1.out _ _ b4 g5).mono ?_;rintro e wd ⟨rfl,a5⟩))|go_in)
           have HN:=Ja (d5.out.trans ((b4.trans (a5.mono b4.size)).mono d5.out.size));clear b4 a5 g5;go_roundw
           case rel=>
            have g1:=Ja (show Below W9.heap.size W9 wd/\xF d (zy blocks) i (bx.ops.take (k+1)) 0=true from⟨HN.out,by rw[gZ HO.out,HK.out.2,HQ.out];rfl⟩)
            (repeat apply Exists.intro);exact⟨⟨k+1,o4.out,by go_num,g1⟩,rfl⟩
           case measure=>have:=o4.out;simp[intOf];omega
         ·obtain rfl:k=bx.ops.length:=by omega
          have o6:¬(bx.ops.length:Int)<bx.ops.length:=Zo;have g:Below W7.heap.size W7 wr:=H9.out.1.trans (HK.out.1.mono H9.out.1.size);have a6:Below B w wr:=(h.out.1.mono m.out.2.1).trans (g.mono (Jn m.out.2.1 h.out.1.size));have c8:=zH HK.out.1 H9.out.2 (lt_of_block H9.out.2);have f7:=HK.out.2;rw[Nl] at f7;have z2:=K1 c8;have z3:=K2 c8;have z4:=K3 c8;have z5:=K4 c8;have l9:=lt_of_block c8;have k9:=Below.refl wr.heap.size wr;obtain⟨q,hq⟩:∃q,(mE bx.term).all (yy d (zy blocks) i bx.ops.length)=q:=⟨_,rfl⟩
          have s3:∀W,Below wr.heap.size wr W->G 121 #[.agg #[U bx.term.kind,U bx.term.a,.slice ta bx.term.to.length tc]] W (wG W (mE bx.term)):=fun W hb=>
           ends_any bx.term a0.out.2.2.2.1 (Jn (Jn m.out.2.1 (Jn h.out.1.size g.size)) hb.size) (a0.out.2.2.1.below xL (a6.trans (hb.mono (Jn m.out.2.1 (Jn h.out.1.size g.size))))) ⟨a0.out.2.2.2.2.1.2.2,lD j.out.2.2.1 a0.out.2.2.2.2.2.2⟩
          have f3:∀W lv,Below wr.heap.size wr W->zY W W.heap.size lv (mE bx.term)->G 119 #[Q C,lv,U i,U (bx.ops.length:Int)] W (ym W q):=fun W lv hb hin=>by
           have a3:Below W7.heap.size W7 W:=g.trans (hb.mono g.size);rw[<-hq];exact qI (h.out.2.1.below a3) h.out.2.2.2.2 f4.out.2 (by rw[xu];exact j.out.2.2.1.1) ((h.out.2.2.1.below zO a3).mono zO a3.size) (fun v b hv=>by rw[xu];exact rN HR.out v b hv) hin i (by rw[xu];exact i0.out) _ (qL (Jn a0.out.2.2.2.2.1.2.1 Zd))
          have y4:=Ja s3;have i1:=Ja f3;have HQ:=Ja (show aaC d (zy blocks) bx i=q from by unfold aaC;rw[f7,hq];rfl);have i8:=Ja g;clear hq s3 f3 f7 c8 a6 g d8 z1;go_wp2_with fail
          go_cut [91] (fun s wx=>s=.bool (!q)/\Hid (Below wr.heap.size wr wx))
          case first=>
           go_region_held3 (fun w'=>A w' b9 1 (.slice oa bx.ops.length oc)/\A w' b9 2 (U bx.term.kind)/\A w' b9 3 (U bx.term.a)/\A w' b9 4 (.slice ta bx.term.to.length tc)/\Below wr.heap.size wr w')
            (first
              |(go_split_ands;refine⟨?_,?_,?_,?_,?_⟩<;>assumption)
              |(go_split_ands;refine⟨?_,?_,?_,?_,uG ?_⟩<;>assumption))
            (first
              |(go_at_call 121;go_must (refine(y4.out _ (by repeat' (first|assumption|(with_reducible refine Below.drew ?_)))).mono ?_;rintro e w2 ⟨ev,rfl,w1,b6⟩;have t:Below wr.heap.size wr w2:=Below.trans (by repeat' (first|assumption|(with_reducible refine Below.drew ?_))) (b6.mono (Below.size (B:=wr.heap.size) (w:=wr) (by repeat' (first|assumption|(with_reducible refine Below.drew ?_)))));have B0:=zV t l9 z2;have A9:=zV t l9 z3;have A8:=zV t l9 z4;have A7:=zV t l9 z5))
              |(go_at_call 119;go_must (refine(i1.out _ _ (by repeat' (first|assumption|(with_reducible refine Below.drew ?_))) w1).mono ?_;rintro e w4 ⟨rfl,d4⟩;have c7:Below wr.heap.size wr w4:=Below.trans (by repeat' (first|assumption|(with_reducible refine Below.drew ?_))) (d4.mono (Below.size (B:=wr.heap.size) (w:=wr) (by repeat' (first|assumption|(with_reducible refine Below.drew ?_)))));have B4:=zV c7 l9 z2;have B3:=zV c7 l9 z3;have B2:=zV c7 l9 z4;have B1:=zV c7 l9 z5)))
           all_goals
            go_wp2_with fail;go_meet;exact⟨rfl,Ja (by repeat' (first|assumption|(with_reducible refine Below.drew ?_)))⟩
          case rest=>
           obtain⟨rfl,t7⟩:=hcut
           cases q with
           |false=>
            have hr:=Ja (show res=false by rw[f4.out.1];exact pH a0.out.1 HQ.out);go_wp2;go_ret
            exact⟨uz hr.out,h.out.1.trans ((i8.out.trans (t7.out.mono i8.out.size)).mono h.out.1.size)⟩
           |true=>
            go_wp2;go_roundw
            case rel=>
             have g1:=Ja (show Below W7.heap.size W7 wc/\tO d (zy blocks) (blocks.take (i+1)) 0=true from⟨i8.out.trans (t7.out.mono i8.out.size),by rw[mz a0.out.1,HI.out.2,HQ.out];rfl⟩)
             (repeat apply Exists.intro);exact⟨⟨i+1,i0.out,by go_num,g1⟩,rfl⟩
            case measure=>have:=i0.out;simp[intOf];omega
       ·obtain rfl:i=blocks.length:=by omega
        have u3:¬(blocks.length:Int)<blocks.length:=Zo;have b3:=HI.out.2;rw[Nl] at b3;have hr:=Ja (f4.out.1.trans b3);clear b3 h4 y2;go_wp2;go_ret;exact⟨uz hr.out,h.out.1.trans (HI.out.1.mono h.out.1.size)⟩
theorem tu{B:Nat}{V:PV}{p:IProg}(hp:ProgIn w B V p)(hB:B<=w.heap.size)(hs:∀f∈p.funcs,vZ f):
 G 35 #[yH V p] w (m9 w (vC p)):=by
 have d:∀W,N w W->G 68 #[yH V p] W (m9 W (sR p)):=fun W hb=>kB ((hp.below (hb.mono hB)).mono (Jn hB hb.size))
 have k:∀W n,N w W->sR p=0->n<p.funcs.length->G 69 #[yH V p,U n] W (ym W (yi p n)):=fun W n hb h0 hn=>by
  obtain⟨_,h1,h2,_⟩:=se h0;exact nA (hp.below (hb.mono hB)) (Jn hB hb.size) h1 h2 hs hn
 obtain⟨Vf,Va,Vd,Vb⟩:=V;obtain⟨f1,f2,e1,_,_⟩:=hp.funcs.form;obtain⟨a1,a2,e2,_,_⟩:=hp.args.form;obtain⟨d1,d2,e3,_,_⟩:=hp.data.form;obtain⟨b1,b2,e4,_,_⟩:=hp.banks.form;simp only at e1 e2 e3 e4;subst e1 e2 e3 e4;have b6:p.funcs.length<=9223372036854775807:=Zo;unfold yH at d k ⊢;simp only at d k ⊢;have HH:=Ja d;have HF:=Ja k;have b0:N w (w.alloc (I (P p f1 f2 a1 a2 d1 d2 b1 b2) 29)):=(Below.refl _ _).alloc (Je _) _;have c:=zI (W:=w) (o:=I (P p f1 f2 a1 a2 d1 d2 b1 b2) 29) rfl;obtain⟨res,t⟩:∃x,vC p=x:=⟨_,rfl⟩
 rw[t];have u:=Ja t;obtain⟨eh,a4⟩:∃x,sR p=x:=⟨_,rfl⟩
 rw[a4] at HH;have m:=Ja a4;clear hp hB hs d k t a4;go_enter Tryz.func35,Tryz.ntmps35;go_upto_region 1 with fail;generalize b5:w.alloc (I (P p f1 f2 a1 a2 d1 d2 b1 b2) 29)=W0 at *;have y0:=K0 c;have y1:=K1 c;have y2:=K2 c;have y3:=K3 c;have y4:=K4 c;have y5:=K5 c;have H0:=Ja (show N w W0/\O W0 w.heap.size (P p f1 f2 a1 a2 d1 d2 b1 b2) 29 from⟨b0,c⟩);clear b0 c b5;go_upto_region 2 with(first|(go_at_call 68;go_must (refine(HH.out _ H0.out.1).mono ?_;rintro e w1 ⟨rfl,a5⟩))|go_in)
 have j:=Ja (show N w w1/\O w1 w.heap.size (P p f1 f2 a1 a2 d1 d2 b1 b2) 29 from⟨H0.out.1.trans (a5.mono H0.out.1.size),zH a5 H0.out.2 (lt_of_block H0.out.2)⟩);clear a5 y0 y1 y2 y3 y4 y5
 by_cases hz:eh=0
 ·subst hz;have y0:=K0 j.out.2;go_wp2
  go_loopw [13] (fun iv wx=>∃i:Nat,i<=p.funcs.length/\iv=U i/\Hid (N w1 wx/\∀n,n<i->yi p n=true)) (fun iv _=>p.funcs.length-(intOf iv).toNat)
  case atStart=>exact⟨0,Jt _,rfl,Ja ⟨Below.refl _ _,fun n hn=>by omega⟩⟩
  case round=>
   obtain⟨i,hi,rfl,l⟩:=hrel
   by_cases y:i<p.funcs.length
   ·have b3:(i:Int)<p.funcs.length:=Zo;have a3:=Ja y;have g:=zH l.out.1 j.out.2 (lt_of_block j.out.2);have z0:=K0 g;have z1:=K1 g;have z2:=K2 g;have z3:=K3 g;have z4:=K4 g;have z5:=K5 g;have a8:=Ja (HF.out wr i (j.out.1.trans (l.out.1.mono j.out.1.size)) m.out y);obtain⟨q,hq⟩:∃q,yi p i=q:=⟨_,rfl⟩
    rw[hq] at a8;have HQ:=Ja hq;clear hq g y y0
    cases q with
    |false=>
     go_wp2_with (first|(go_at_call 69;go_must (refine a8.out.mono ?_;rintro e w2 ⟨rfl,a0⟩))|go_in)
     go_ret
     have hr:res=51:=by
      rw[<-u.out];unfold vC;rw[if_neg (by rw[m.out];simp),if_neg];intro b4;have:=Oe.1 b4 i (Ol.2 a3.out);rw[HQ.out] at this;cases this
     exact⟨zh hr.symm,j.out.1.trans ((l.out.1.trans (a0.mono l.out.1.size)).mono j.out.1.size)⟩
    |true=>
     go_wp2_with (first|(go_at_call 69;go_must (refine a8.out.mono ?_;rintro e w2 ⟨rfl,a0⟩))|go_in)
     have a6:=Ja (show N w1 w2/\∀n,n<i+1->yi p n=true from⟨l.out.1.trans (a0.mono l.out.1.size),fun n hn=>by
      rcases Nat.lt_succ_iff_lt_or_eq.1 hn with h|rfl
      ·exact l.out.2 n h
      ·exact HQ.out⟩)
     clear a0;go_roundw
     case rel=>first|exact⟨i+1,a3.out,by go_num,a6⟩|((repeat apply Exists.intro);exact⟨⟨i+1,a3.out,by go_num,a6⟩,rfl⟩)
     case measure=>have:=a3.out;simp[intOf];omega
   ·obtain rfl:i=p.funcs.length:=by omega
    have b3:¬(p.funcs.length:Int)<p.funcs.length:=Zo
    have hr:=Ja (show res=0 by
     rw[<-u.out];unfold vC;rw[if_neg (by rw[m.out];simp),if_pos]
     exact Oe.2 fun n hn=>l.out.2 n (Ol.1 hn))
    clear y y0;go_wp2;go_ret;exact⟨zh hr.out.symm,j.out.1.trans (l.out.1.mono j.out.1.size)⟩
 ·have t1:(eh !=0)=true:=by rw[bne_iff_ne];exact hz
  have hr:=Ja (show res=eh by
   rw[<-u.out];unfold vC
   rw[if_pos (by rw[m.out];exact hz),m.out])
  clear hz;go_wp2;go_ret;exact⟨zh hr.out.symm,j.out.1⟩
def jx (blocks:List IBlk):Prop:=∀b∈blocks,(∀o∈b.ops,o.args.length<=2000000)/\∀e∈b.term.to,e.args.length<=2000000
theorem lG {v:Value}{l:List BT}:∀x∈zd v l::l.flatMap BT.rows,x.e≠39:=fun x c=>by
 rcases Jq.1 c with rfl|c
 ·show 84≠39;decide
 obtain⟨b,_,c⟩:=Qx.1 c;unfold BT.rows at c;rcases Jq.1 c with rfl|c
 ·show 3≠39;decide
 rcases Jq.1 c with rfl|c
 ·show 76≠39;decide
 rcases Jq.1 c with rfl|c
 ·show 79≠39;decide
 rcases Jl.1 c with c|c
 ·obtain⟨q,_,rfl⟩:=Nu.1 c
  show 3≠39;decide
 ·obtain⟨q,_,rfl⟩:=Nu.1 c
  show 3≠39;decide
theorem mA{B:Nat}{o3:Value}{blocks:List IBlk}(m1:wX w B o3 blocks)(hB:B<=w.heap.size)(hs:vZ blocks)(ha:jx blocks):
 G 44 #[.agg #[o3]] w (fun e w'=>∃(f:FT) (a:Option Addr) (n c:Nat),f.bv=.slice a n c/\e=.returned (.agg #[.slice a n c])/\f.fn=blocks/\Rows w' w.heap.size f.rows/\N w w'):=by
 obtain⟨fa,fc,rfl,z3,z2⟩:=m1.form;have y6:=hs.1;have h6:=Ja (Jb m1 (Jb hB (Jb hs ha)));obtain⟨f1,d5⟩:∃f1,w.heap.size=f1:=⟨_,rfl⟩
 have o1:N w (((w.alloc (I #[.slice fa blocks.length fc] 39)).alloc (I #[L] 39)).alloc (I #[L] 39)):=(((Below.refl _ _).alloc (Je _) _).alloc Zs _).alloc Zt _;have f3:=zB (o:=I #[L] 39) (zB (o:=I #[L] 39) (zI (W:=w) (o:=I #[.slice fa blocks.length fc] 39) rfl));have e9:=zB (o:=I #[L] 39) (zI (W:=w.alloc (I #[.slice fa blocks.length fc] 39)) (o:=I #[L] 39) rfl);have j2:=zI (W:=(w.alloc (I #[.slice fa blocks.length fc] 39)).alloc (I #[L] 39)) (o:=I #[L] 39) rfl;have n6:(w.alloc (I #[.slice fa blocks.length fc] 39)).heap.size=w.heap.size+1:=by simp
 have n5:((w.alloc (I #[.slice fa blocks.length fc] 39)).alloc (I #[L] 39)).heap.size=w.heap.size+1+1:=by simp
 rw[n6] at e9;rw[n5] at j2;clear m1 hB hs n6 n5 ha;go_enter Tryz.func44,Tryz.ntmps44;go_upto_region 2 with fail;generalize u0:((w.alloc (I #[.slice fa blocks.length fc] 39)).alloc (I #[L] 39)).alloc (I #[L] 39)=W1 at *;rw[d5] at f3 e9 j2;generalize t2:f1+1+1=g3 at *;generalize s8:f1+1=r2 at *;have h9:f1<r2/\r2<g3:=Zo;have u3q:=Ja (show OfTop w f1 r2 g3 (.slice fa blocks.length fc) (L) [] W1/\([]:List BT).map BT.blk=blocks.take 0 from⟨⟨f3,e9,j2,by rw[<-d5];exact o1,Rows.nil.cons (Jv _ _ _ _) (fun g e=>by simp[Row.blk,zd,Value.ownBlock] at e),h9⟩,rfl⟩);have k5:=Ja (show ∀wx,Below f1 w wx->wX wx B (.slice fa blocks.length fc) blocks/\B<=wx.heap.size from fun wx hbx=>⟨h6.out.1.below yT (hbx.mono (by rw[<-d5];exact h6.out.2.1)),Jn h6.out.2.1 hbx.size⟩);have u7q:=Ja d5;clear o1 f3 e9 j2 u0 d5 s8 t2 h9;go_wp2
 go_loopw [4] (fun kv wx=>∃(k:Nat) (l:List BT) (ga:Option Addr) (gc:Nat),k<=blocks.length/\kv=U k/\Hid (OfTop w f1 r2 g3 (.slice fa blocks.length fc) (.slice ga k gc) l wx/\l.map BT.blk=blocks.take k)) (fun kv _=>blocks.length-(intOf kv).toNat)
 case atStart=>exact⟨0,[],none,0,Jt _,rfl,u3q⟩
 case round=>
  obtain⟨k,l,ga,gc,hk,rfl,HK⟩:=hrel;have c0:=zA (i:=0) HK.out.1.h1 rfl;have t3:=lt_of_block HK.out.1.h1
  by_cases n9:k<blocks.length
  ·have p3:(k:Int)<(blocks.length:Int):=Zo;obtain⟨b,hb⟩:∃b,blocks[k]? =some b:=⟨_,Jd n9⟩
   have h0:=h6.out.2.2.1.2 b (Ji hb);have h4:=h6.out.2.2.2 b (Ji hb);obtain⟨tb,s7⟩:∃tb,wr.heap.size=tb:=⟨_,rfl⟩
   have b9:=HK.out.1.start s7;have HB:=Ja (Jb hb (Jb h0 h4));have w7:=h0.1;have x9:=h0.2.1;have w0:=h0.2.2;clear hb h0 h4;go_upto_region 6 with fail;generalize t8:wr.alloc (I #[L,L,U 0,U 0,L] 84)=W5 at *;obtain⟨b7,z4⟩:=k5.out _ b9.bel;obtain⟨bb,bo,t5,t7,u2,u1,h64,pv,ov,tv,g0,g1,g4,h8,o9,o5⟩:=b7.get HB.out.1;obtain⟨pa,pc,rfl,w8,w6⟩:=h8.form;subst t5;have p5:bb<W5.heap.size:=Zo;have d0:=zA (i:=0) b9.h1 rfl;have dl:=lt_of_block b9.h1;have t0:=zA (i:=0) b9.hb rfl;have n0:D W5 tb 0:=zE b9.hb;have tl:=lt_of_block b9.hb;have o6:=b9.sz;have l4:=zY.src h8;have o4:=Ja (Jb b9 l4);obtain⟨ij,f4,d3,d2,d1⟩:=info_parts Tryz.info_int;clear c0 t3 b9 b7 h8 o9 o5 g1 g4 u2 u1 h64 l4 t8
   go_cut [] (fun wx=>Hid (∃l0,OfMid w f1 r2 g3 tb (.slice (some ⟨bb,bo,none⟩) blocks.length fc) (.slice ga k gc) {bt0 with params:=b.params,pv:=l0 } l [] wx))
   case first=>
    go_region_law (first|(refine yG (by rfl) (.tmp 20) (.tmp 26) _ (by rfl) f1 3 ij (U 0) 1 8 Tryz.underlying22 f4 d3 d2 d1 rfl Zo (L) 0 [] (by rfl) (Jv _ _ _ _) (.slice pa b.params.length pc) b.params.length (b.params.map zN) (by rfl) o4.out.2 (by unfold maxLen;omega) Zo Zt ?_;intro aa9 v3 w9 d t y;have A5:=(t.cell_far ⟨tb,0,none⟩ Zt (by simp[Value.ownBlock])).trans t0;have A4:=(t.frozen_far ⟨tb,0,none⟩ Zt (by simp[Value.ownBlock])).trans n0))
    all_goals go_wp2_with fail
    all_goals go_meet
    all_goals (
     rw[Ng,Op] at d;rw[Ng] at y
     exact Ja ⟨_,o4.out.1.par rfl (Below.refl _ _).drew t d (fun q e=>y.elim (fun e2=> .inl (e2.symm.trans e)) (fun e2=> .inr (by have e3:=e2.symm.trans e;simp at e3;omega)))⟩)
   case rest=>
   obtain⟨l0,f0⟩:=hcut.out;obtain⟨bt1,f6⟩:∃bt1:BT,{bt0 with params:=b.params,pv:=l0 }=bt1:=⟨_,rfl⟩
   rw[f6] at f0;have u6:=Ja (show OfMid w f1 r2 g3 tb (.slice (some ⟨bb,bo,none⟩) blocks.length fc) (.slice ga k gc) {bt1 with ops:=[],ov:=L } l [] wc/\([]:List (IOp×Value)).map (·.1)=b.ops.take 0 from⟨by rw[<-f6] at f0 ⊢;exact f0,rfl⟩);have q3:=Ja f6;have e0:=zA (i:=0) f0.h1 rfl;have el:=lt_of_block f0.h1;clear f6 hcut d0 dl t0 n0 tl o6 f4 d3 d2 d1 ij p5 g0;have g9:Below f1 w wc:=f0.bel;have f7:bb<wc.heap.size:=Jy t7 (k5.out _ g9).2;clear f0 g9;go_wp2;clear e0 el f7
   go_loopw [6] (fun jv wx=>∃(j:Nat) (ol:List (IOp×Value)) (oa:Option Addr) (oc:Nat),j<=b.ops.length/\jv=U j/\Hid (OfMid w f1 r2 g3 tb (.slice (some ⟨bb,bo,none⟩) blocks.length fc) (.slice ga k gc) {bt1 with ops:=ol,ov:=.slice oa j oc } l [] wx/\ol.map (·.1)=b.ops.take j)) (fun jv _=>b.ops.length-(intOf jv).toNat)
   case atStart=>exact⟨0,[],none,0,Jt _,rfl,u6⟩
   case round=>
    obtain⟨j,ol,oa,oc,hj,rfl,HJ⟩:=hrel;have e0:=zA (i:=0) HJ.out.1.h1 rfl;have el:=lt_of_block HJ.out.1.h1;obtain⟨b7,q2⟩:=k5.out _ HJ.out.1.bel;obtain⟨b2,o2,i0,_,q2c,j1,g6,r5,ov2,q7,q0,q1,q4,c3,b1,b0⟩:=b7.get HB.out.1;cases i0;obtain⟨sa,sc,rfl,w5,w1⟩:=b1.form;have f7:bb<wr.heap.size:=Zo
    by_cases f2:j<b.ops.length
    ·have l8:(j:Int)<(b.ops.length:Int):=Zo;obtain⟨o,ho⟩:∃o,b.ops[j]? =some o:=⟨_,Jd f2⟩
     obtain⟨ob,oo,l5,p1,y0,y1,y2,y3,y4,f8,yv,y5,e7⟩:=b1.get ho;obtain⟨ya,yc,rfl,s5,r6⟩:=e7.form;subst l5;have p0:ob<wr.heap.size:=Zo;have m5:=(HB.out.2.2.1 o (Ji ho))
     obtain⟨q,hq⟩:∃q,wr.heap.size=q:=⟨_,rfl⟩
     have c7:N wr (wr.alloc (I (C o ya yc) 76)):=(Below.refl _ _).alloc (Je _) _;have b3:=zI (W:=wr) (o:=I (C o ya yc) 76) hq;have c2:=zY.src (e7.below zO (c7.mono q2));have h5:=Ja (Jb ho (Jb f8 hq));clear c3 b1 b0 b7 q0 q4 q2c j1 g6 ho f8 e7;go_upto_region 12 with fail;generalize m2:wr.alloc (I (C o ya yc) 76)=W6 at *;have z5:=zA (i:=5) b3 rfl;have q5:D W6 q 5:=zE b3;have zl:=lt_of_block b3;have c5:W6.ownsRow f1 3 1 (L) 0 []:=Jv _ _ _ _;have p4:f1<=W6.heap.size:=Jn HJ.out.1.sz c7.size;have b6:=Ja (Jb b3 (Jb c2 (Jb c5 c7)));obtain⟨ij,f4,d3,d2,d1⟩:=info_parts Tryz.info_int;clear b3 c2 c5 c7 m2 y0 y1 y2 y3 y4 y5;go_upto_region 13 with(at_builtin;go_must (refine zK _ rfl (.tmp 49) (.tmp 51) 22 rfl f1 3 ij (U 0) 1 8 Tryz.underlying22 f4 d3 d2 d1 rfl Zd (L) 0 [] rfl b6.out.2.2.1 (.slice ya o.args.length yc) o.args.length (o.args.map zN) rfl b6.out.2.1 (by unfold maxLen;omega) Zo Zo ?_;intro v9 w9 d t y;obtain⟨a2,a1,rfl⟩:=zG d;have b4:=zL t b6.out.1 (by simp[Value.ownBlock]);have k9:=zA (i:=5) b4 rfl;have k7:D w9 q 5:=zE b4;have h7:=lt_of_block b4;have c9:=Ja (Jb d (Jb t (Jb y b4)));clear d t y b4))
     have a8:OfMid w f1 r2 g3 tb (.slice (some ⟨bb,bo,none⟩) blocks.length fc) (.slice ga k gc) {bt1 with ops:=ol,ov:=.slice oa j oc } l [zP (.slice a2 o.args.length a1) o.args] (w9.setCell ⟨q,5,none⟩ (.slice a2 o.args.length a1)):=by
      have d:=c9.out.1;have y:=c9.out.2.2.1;rw[Ng,Op] at d;rw[Ng] at y;refine HJ.out.1.arg2 b6.out.2.2.2 c9.out.2.1 d (fun x e=>?_) ⟨by rw[h5.out.2.2];exact Je _,lt_of_block b6.out.1⟩ _;rcases y with e2|e2
      ·have e3:=e2.symm.trans e;simp[Value.ownBlock] at e3
      ·have e3:=e2.symm.trans e;simp at e3;omega
     have a6:=zD (i:=5) c9.out.2.2.2 (.slice a2 o.args.length a1);generalize j0:w9.setCell ⟨q,5,none⟩ (.slice a2 o.args.length a1)=W10 at *;have y0:=zA (i:=0) a6 rfl;have y1:=zA (i:=1) a6 rfl;have y2:=zA (i:=2) a6 rfl;have y3:=zA (i:=3) a6 rfl;have y4:=zA (i:=4) a6 rfl;have y5:=zA (i:=5) a6 rfl;have yl:=lt_of_block a6;have t1:=zA (i:=1) a8.hb rfl;have q9:=lt_of_block a8.hb
     have b8:ol.length=j:=by
      have h1:=congrArg List.length HJ.out.2;rw[Nr,Oc] at h1;omega
     have c4:W10.ownsRow f1 76 6 (.slice oa j oc) j (ol.flatMap zU):=by
      have h1:=a8.rows.own (tt (.slice oa j oc) ol) (.tail _ (.tail _ (.head _)));unfold tt at h1;simp only at h1;rw[b8] at h1;exact h1
     have m4:=a8.sz;have a0:=Ja (Jb a8 (Jb c4 b8));obtain⟨ik,g8,e6,e5,e4⟩:=info_parts Tryz.info_irop;clear a8 c4 b8 a6 j0 z5 q5 k9 k7 h7;have c1:yM (W10.alloc (I (C o a2 a1) 76)) 6 (F W10.heap.size 1 1) 1 (zU (o,.slice a2 o.args.length a1)):=yM.cells (zI rfl) rfl (by simp[zU,Value.oneCell']);have m3:=Ja c1;clear c1;go_wp2_with (at_builtin;go_must (refine zK _ rfl (.tmp 55) (.tmp 57) 77 rfl f1 76 ik (.agg #[U 0,U 0,U 0,U 0,Y 0,L]) 6 64 Tryz.underlying77 g8 e6 e5 e4 rfl Zd (.slice oa j oc) j (ol.flatMap zU) rfl (a0.out.2.1.alloc _) _ 1 (zU (o,.slice a2 o.args.length a1)) rfl m3.out (by unfold maxLen;omega) Zo Zt ?_;intro v11 w11 m h a5;obtain⟨e1,d9,rfl⟩:=zG m;have a3:=zL h (zB a0.out.1.hb) (zC a0.out.2.1 a0.out.1.hb (.inr Zd));have v5:=zA (i:=1) a3 rfl;have r4:D w11 tb 1:=zE a3;have r3:=lt_of_block a3;have a4:=Ja (Jb m (Jb h a5));clear m h a5 a3))
     go_roundw
     case rel=>
      refine⟨j+1,ol++ [(o,.slice a2 o.args.length a1)],e1,d9,f2,by go_num,Ja ⟨?_,?_⟩⟩
      ·exact a0.out.1.op ((Below.refl _ _).alloc (Je _) _) a4.out.2.1 (by show w11.ownsRow f1 76 6 _ (ol.length+1) _;rw[a0.out.2.2];exact a4.out.1) (fun x e=>a4.out.2.2.elim (fun e2=> .inl (e2.symm.trans e)) (fun e2=> .inr (by have e3:=e2.symm.trans e;simp at e3;omega)))
      ·rw[Js,HJ.out.2,Nh,h5.out.1];rfl
     case measure=>simp[intOf];omega
    ·obtain rfl:j=b.ops.length:=by omega
     have l8:¬(b.ops.length:Int)<(b.ops.length:Int):=Zo;have n8:ol.map (·.1)=b.ops:=by rw[HJ.out.2,Nl]
     obtain⟨bt2,i8⟩:∃bt2:BT,{bt1 with ops:=ol,ov:=.slice oa b.ops.length oc }=bt2:=⟨_,rfl⟩
     have d4:=HJ.out.1;rw[i8] at d4;have k4:bt2.tos=[]/\bt2.tv=L/\bt2.params=b.params/\bt2.ops=ol:=by rw[<-i8,<-q3.out];exact⟨rfl,rfl,rfl,rfl⟩
     have w2:=zA (i:=2) d4.hb rfl;have w3:=zA (i:=3) d4.hb rfl;have w4:=zA (i:=4) d4.hb rfl;have wf:∀i,D wr tb i:=fun i=>zE d4.hb
     have wl:=lt_of_block d4.hb;have H2:=Ja (Jb d4 (Jb k4 n8));have s9:q2c=q2c:=rfl;clear hj HJ d4 i8 k4 n8 c3 b1 b0 b7 g6 f2 s9;go_upto_region 14 with fail
     go_cut [] (fun wx=>Hid (OfMid w f1 r2 g3 tb (.slice (some ⟨bb,bo,none⟩) blocks.length fc) (.slice ga k gc) {bt2 with kind:=b.term.kind,a:=b.term.a } l [] wx))
     case first=>
      refine zt 16 Zk Zk ?_;simp only[Qo,Uc,Qp,Ui]
      repeat (go_big_quiet_step (fail))
      refine wpQuiet_nil ?_;go_wp2;go_meet;refine Ja (OfMid.below ?_ (Below.refl _ _).drew);have k1:=H2.out.1.set (i:=2) (u:=U b.term.kind) (bt':= {bt2 with kind:=b.term.kind }) rfl rfl;have k2:=k1.set (i:=3) (u:=U b.term.a) (bt':= {bt2 with kind:=b.term.kind,a:=b.term.a }) rfl rfl;exact k2.set (i:=4) (u:=L) (bt':= {bt2 with kind:=b.term.kind,a:=b.term.a }) (by unfold zz;rw[H2.out.2.1.2.1];rfl) rfl
     case rest=>
     have l6:=hcut.out;obtain⟨bt3,i2⟩:∃bt3:BT,{bt2 with kind:=b.term.kind,a:=b.term.a }=bt3:=⟨_,rfl⟩
     rw[i2] at l6;have f5:bt3.tos=[]/\bt3.tv=L/\bt3.params=b.params/\bt3.ops=ol/\bt3.kind=b.term.kind/\bt3.a=b.term.a:=by rw[<-i2];exact⟨H2.out.2.1.1,H2.out.2.1.2.1,H2.out.2.1.2.2.1,H2.out.2.1.2.2.2,rfl,rfl⟩
     have u5:=Ja (show OfMid w f1 r2 g3 tb (.slice (some ⟨bb,bo,none⟩) blocks.length fc) (.slice ga k gc) {bt3 with tos:=[],tv:=L } l [] wc/\([]:List (IEdge×Value)).map (·.1)=b.term.to.take 0 from⟨by
      have e:({bt3 with tos:=[],tv:=L }:BT)=bt3:=by
       obtain⟨x1,x2,x3,x4,x5,x6,x7,x8⟩:=bt3;obtain⟨h1,h2,_⟩:=f5;simp only at h1 h2;rw[h1,h2]
      rw[e]
      exact l6,rfl⟩)
     have k6:=Ja f5;clear l6 i2 f5 hcut w2 w3 w4 wf wl e0 el q0 q1 q2c j1 q4 f7;go_wp2
     go_loopw [9] (fun jv wx=>∃(j:Nat) (tl:List (IEdge×Value)) (ta:Option Addr) (tc:Nat),j<=b.term.to.length/\jv=U j/\Hid (OfMid w f1 r2 g3 tb (.slice (some ⟨bb,bo,none⟩) blocks.length fc) (.slice ga k gc) {bt3 with tos:=tl,tv:=.slice ta j tc } l [] wx/\tl.map (·.1)=b.term.to.take j)) (fun jv _=>b.term.to.length-(intOf jv).toNat)
     case atStart=>exact⟨0,[],none,0,Jt _,rfl,u5⟩
     case round=>
      obtain⟨j,c8,ta,tc,hj,rfl,HJ⟩:=hrel;have e0:=zA (i:=0) HJ.out.1.h1 rfl;have el:=lt_of_block HJ.out.1.h1;obtain⟨b7,p8⟩:=k5.out _ HJ.out.1.bel;obtain⟨b2,o2,i0,_,q2c,j1,g6,r5,ov2,q7,q0,q1,q4,c3,b1,b0⟩:=b7.get HB.out.1;cases i0;obtain⟨sa2,sc2,rfl,u9,u8⟩:=b0.form;have f7:bb<wr.heap.size:=Zo
      by_cases f2:j<b.term.to.length
      ·have l8:(j:Int)<(b.term.to.length:Int):=Zo;obtain⟨o,ho⟩:∃o,b.term.to[j]? =some o:=⟨_,Jd f2⟩
       obtain⟨ob,oo,l5,p1,y0,f8,yv,y1,e7⟩:=b0.get ho;obtain⟨ya,yc,rfl,s5,r6⟩:=e7.form;subst l5;have p0:ob<wr.heap.size:=Zo;have m5:=(HB.out.2.2.2 o (Ji ho))
       obtain⟨q,hq⟩:∃q,wr.heap.size=q:=⟨_,rfl⟩
       have c7:N wr (wr.alloc (I #[U o.block,.slice ya o.args.length yc] 79)):=(Below.refl _ _).alloc (Je _) _;have b3:=zI (W:=wr) (o:=I #[U o.block,.slice ya o.args.length yc] 79) hq;have c2:=zY.src (e7.below zO (c7.mono p8));have h5:=Ja (Jb ho (Jb f8 hq));clear c3 b1 b0 b7 q0 q1 q2c j1 g6 ho f8 e7;go_upto_region 20 with fail;generalize m2:wr.alloc (I #[U o.block,.slice ya o.args.length yc] 79)=W6 at *;have z1:=zA (i:=1) b3 rfl;have q6:D W6 q 1:=zE b3;have zl:=lt_of_block b3;have c5:W6.ownsRow f1 3 1 (L) 0 []:=Jv _ _ _ _;have p4:f1<=W6.heap.size:=Jn HJ.out.1.sz c7.size;have b6:=Ja (Jb b3 (Jb c2 (Jb c5 c7)));obtain⟨ij,f4,d3,d2,d1⟩:=info_parts Tryz.info_int;clear b3 c2 c5 c7 m2 y0 y1;go_upto_region 21 with(at_builtin;go_must (refine zK _ rfl (.tmp 98) (.tmp 100) 22 rfl f1 3 ij (U 0) 1 8 Tryz.underlying22 f4 d3 d2 d1 rfl Zd (L) 0 [] rfl b6.out.2.2.1 (.slice ya o.args.length yc) o.args.length (o.args.map zN) rfl b6.out.2.1 (by unfold maxLen;omega) Zo Zo ?_;intro v9 w9 d t y;obtain⟨a2,a1,rfl⟩:=zG d;have b4:=zL t b6.out.1 (by simp[Value.ownBlock]);have k9:=zA (i:=1) b4 rfl;have k7:D w9 q 1:=zE b4;have h7:=lt_of_block b4;have c9:=Ja (Jb d (Jb t (Jb y b4)));clear d t y b4))
       have a8:OfMid w f1 r2 g3 tb (.slice (some ⟨bb,bo,none⟩) blocks.length fc) (.slice ga k gc) {bt3 with tos:=c8,tv:=.slice ta j tc } l [zP (.slice a2 o.args.length a1) o.args] (w9.setCell ⟨q,1,none⟩ (.slice a2 o.args.length a1)):=by
        have d:=c9.out.1;have y:=c9.out.2.2.1;rw[Ng,Op] at d;rw[Ng] at y;refine HJ.out.1.arg2 b6.out.2.2.2 c9.out.2.1 d (fun x e=>?_) ⟨by rw[h5.out.2.2];exact Je _,lt_of_block b6.out.1⟩ _;rcases y with e2|e2
        ·have e3:=e2.symm.trans e;simp[Value.ownBlock] at e3
        ·have e3:=e2.symm.trans e;simp at e3;omega
       have a6:=zD (i:=1) c9.out.2.2.2 (.slice a2 o.args.length a1);generalize j0:w9.setCell ⟨q,1,none⟩ (.slice a2 o.args.length a1)=W10 at *;have y0:=zA (i:=0) a6 rfl;have y1:=zA (i:=1) a6 rfl;have yl:=lt_of_block a6;have t4:=zA (i:=4) a8.hb rfl;have q9:=lt_of_block a8.hb
       have b8:c8.length=j:=by
        have h1:=congrArg List.length HJ.out.2;rw[Nr,Oc] at h1;omega
       have c4:W10.ownsRow f1 79 2 (.slice ta j tc) j (c8.flatMap za):=by
        have h1:=a8.rows.own (xg (.slice ta j tc) c8) (.tail _ (.tail _ (.tail _ (.head _))));unfold xg at h1;simp only at h1;rw[b8] at h1;exact h1
       have m4:=a8.sz;have a0:=Ja (Jb a8 (Jb c4 b8));obtain⟨ik,g8,e6,e5,e4⟩:=info_parts Tryz.info_edge;clear a8 c4 b8 a6 j0 z1 q6 k9 k7 h7;have c1:yM (W10.alloc (I #[U o.block,.slice a2 o.args.length a1] 79)) 2 (F W10.heap.size 1 1) 1 (za (o,.slice a2 o.args.length a1)):=yM.cells (zI rfl) rfl (by simp[za,Value.oneCell']);have m3:=Ja c1;clear c1;go_wp2_with (at_builtin;go_must (refine zK _ rfl (.tmp 105) (.tmp 107) 80 rfl f1 79 ik (.agg #[U 0,L]) 2 32 Tryz.underlying80 g8 e6 e5 e4 rfl Zd (.slice ta j tc) j (c8.flatMap za) rfl (a0.out.2.1.alloc _) _ 1 (za (o,.slice a2 o.args.length a1)) rfl m3.out (by unfold maxLen;omega) Zo Zt ?_;intro v11 w11 m h a5;obtain⟨e1,d9,rfl⟩:=zG m;have a3:=zL h (zB a0.out.1.hb) (zC a0.out.2.1 a0.out.1.hb (.inr Zd));have v4:=zA (i:=4) a3 rfl;have r4:D w11 tb 4:=zE a3;have r3:=lt_of_block a3;have a4:=Ja (Jb m (Jb h a5));clear m h a5 a3))
       go_roundw
       case rel=>
        refine⟨j+1,c8++ [(o,.slice a2 o.args.length a1)],e1,d9,f2,by go_num,Ja ⟨?_,?_⟩⟩
        ·exact a0.out.1.edge ((Below.refl _ _).alloc (Je _) _) a4.out.2.1 (by show w11.ownsRow f1 79 2 _ (c8.length+1) _;rw[a0.out.2.2];exact a4.out.1) (fun x e=>a4.out.2.2.elim (fun e2=> .inl (e2.symm.trans e)) (fun e2=> .inr (by have e3:=e2.symm.trans e;simp at e3;omega)))
        ·rw[Js,HJ.out.2,Nh,h5.out.1];rfl
       case measure=>simp[intOf];omega
      ·obtain rfl:j=b.term.to.length:=by omega
       have l8:¬(b.term.to.length:Int)<(b.term.to.length:Int):=Zo;have n4:c8.map (·.1)=b.term.to:=by rw[HJ.out.2,Nl]
       obtain⟨bt4,i1⟩:∃bt4:BT,{bt3 with tos:=c8,tv:=.slice ta b.term.to.length tc }=bt4:=⟨_,rfl⟩
       have b5:=HJ.out.1;rw[i1] at b5
       have m0:bt4.blk=b:=by
        rw[<-i1];unfold BT.blk;simp only;rw[k6.out.2.2.1,k6.out.2.2.2.1,k6.out.2.2.2.2.1,k6.out.2.2.2.2.2,H2.out.2.2,n4]
       have r0:=b5.rows.own (zP bt4.pv bt4.params) (.head _);have r1:=b5.rows.own (tt bt4.ov bt4.ops) (.tail _ (.head _));have n1:=b5.rows.own (xg bt4.tv bt4.tos) (.tail _ (.tail _ (.head _)));obtain⟨g5,xc0,n3⟩:=zG r0;obtain⟨g2,xc1,f3⟩:=zG r1;obtain⟨f9,xc2,e9⟩:=zG n1;have l3:bt4.pv=.slice g5 bt4.params.length xc0:=n3;have l2:bt4.ov=.slice g2 bt4.ops.length xc1:=f3;have l1:bt4.tv=.slice f9 bt4.tos.length xc2:=e9;have l9:zz bt4=[.slice g5 bt4.params.length xc0,.slice g2 bt4.ops.length xc1,U bt4.kind,U bt4.a,.slice f9 bt4.tos.length xc2]:=by unfold zz;rw[l3,l2,l1]
       have d6:=b5.hb;rw[l9] at d6;have s0:=zA (i:=0) d6 rfl;have s1:=zA (i:=1) d6 rfl;have s2:=zA (i:=2) d6 rfl;have s3:=zA (i:=3) d6 rfl;have s4:=zA (i:=4) d6 rfl;have sl:=lt_of_block d6;have v2:=zA (i:=0) b5.h3 rfl;have A3:=lt_of_block b5.h3
       have l7:l.length=k:=by
        have h1:=congrArg List.length HK.out.2;rw[Nr,Oc] at h1;omega
       have k3:wr.ownsRow f1 84 5 (.slice ga k gc) k (l.flatMap zz):=by
        have h1:=b5.rows.own (zd (.slice ga k gc) l) (Qf [] (Qf bt4.rows (.head _)));unfold zd at h1;simp only at h1;rw[l7] at h1;exact h1
       have v1:=b5.sz;have d7:=Ja (Jb b5 (Jb k3 (Jb l7 (Jb m0 l9))));obtain⟨ik,g8,e6,e5,e4⟩:=info_parts Tryz.info_irblock;have k0:yM (wr.alloc (I #[.slice g5 bt4.params.length xc0,.slice g2 bt4.ops.length xc1,U bt4.kind,U bt4.a,.slice f9 bt4.tos.length xc2] 84)) 5 (F wr.heap.size 1 1) 1 [.slice g5 bt4.params.length xc0,.slice g2 bt4.ops.length xc1,U bt4.kind,U bt4.a,.slice f9 bt4.tos.length xc2]:=yM.cells (zI rfl) rfl (by simp[Value.oneCell']);have u4:=Ja k0;clear b5 k3 l7 m0 l9 d6 r0 r1 n1 n3 f3 e9 l3 l2 l1 i1 n4 hj HJ c3 b1 b0 b7 g6 f2 k0;go_wp2_with (at_builtin;go_must (refine zK _ rfl (.tmp 112) (.tmp 114) 37 rfl f1 84 ik (.agg #[L,L,U 0,U 0,L]) 5 88 Tryz.underlying37 g8 e6 e5 e4 rfl Zd (.slice ga k gc) k (l.flatMap zz) rfl (d7.out.2.1.alloc _) _ 1 [.slice g5 bt4.params.length xc0,.slice g2 bt4.ops.length xc1,U bt4.kind,U bt4.a,.slice f9 bt4.tos.length xc2] rfl u4.out (by unfold maxLen;omega) Zo Zt ?_;intro v11 w11 m h a5;obtain⟨e1,d9,rfl⟩:=zG m;have d8:=zL h (zB d7.out.1.h3) (zC d7.out.2.1 d7.out.1.h3 (.inr Zd));have A2:=zA (i:=0) d8 rfl;have A1:D w11 g3 0:=zE d8;have A0:=lt_of_block d8;have a4:=Ja (Jb m (Jb h a5));clear m h a5 d8))
       go_roundw
       case rel=>
        have t6:=d7.out.1.close ((Below.refl _ _).alloc (Je _) _) a4.out.2.1 (by rw[d7.out.2.2.1,d7.out.2.2.2.2];exact a4.out.1) (fun x e=>a4.out.2.2.elim (fun e2=> .inl (e2.symm.trans e)) (fun e2=> .inr (by have e3:=e2.symm.trans e;simp at e3;omega)));refine⟨k+1,l++ [bt4],e1,d9,n9,by go_num,Ja ⟨t6,?_⟩⟩;rw[Js,HK.out.2,Nh,HB.out.1]
        show _++ [bt4.blk]=_
        rw[d7.out.2.2.2.1];rfl
       case measure=>simp[intOf];omega
  ·obtain rfl:k=blocks.length:=by omega
   have p3:¬(blocks.length:Int)<(blocks.length:Int):=Zo;have d0:=zA (i:=0) HK.out.1.h3 rfl;have z0:=lt_of_block HK.out.1.h3;have e0:=zA (i:=0) HK.out.1.h2 rfl;have v0:=lt_of_block HK.out.1.h2;have ef:D wr r2 0:=zE HK.out.1.h2;go_wp2;have n2:=zD (i:=0) HK.out.1.h2 (.slice ga blocks.length gc);have x0:=zA (i:=0) n2 rfl;have v6:=lt_of_block n2;have o0:l.map BT.blk=blocks:=by rw[HK.out.2,Nl]
   have h9:=HK.out.1.ges
   have n7:Rows (wr.setCell ⟨r2,0,none⟩ (.slice ga blocks.length gc)) f1 (zd (.slice ga blocks.length gc) l::l.flatMap BT.rows):=by
    refine HK.out.1.rows.keep fun q hq=>Below.heap_setCell _ _ _ _ (fun e=>?_)
    obtain⟨x,hx,s6⟩:=Nj.1 hq;have e':q=r2:=e;subst e';exact zC (HK.out.1.rows.own x hx) HK.out.1.h2 (.inr (lG x hx)) s6
   have g9:Below f1 w (wr.setCell ⟨r2,0,none⟩ (.slice ga blocks.length gc)):=HK.out.1.bel.setCell (by show f1<=r2;omega) _;have HE:=Ja (Jb o0 (Jb n7 g9));have d5:=u7q.out;clear o0 n7 g9;refine bodyPost_ret (v:=.agg #[.slice ga blocks.length gc]) ?_ rfl ?_
   ·rw[zM rfl];go_simp
   ·refine⟨⟨l,.slice ga blocks.length gc⟩,ga,blocks.length,gc,rfl,rfl,HE.out.1,?_,?_⟩
    ·rw[d5];exact HE.out.2.1
    ·rw[d5];exact HE.out.2.2
theorem ai3{d':wO}{v k:Int}(h:rB d v i k=some d')(c:∀x b a,d.1 x=some b->d.2 x=some a->W x b a)(hv:W v i k):∀x b a,d'.1 x=some b->d'.2 x=some a->W x b a:=by
 unfold rB at h
 split at h
 ·cases h
 ·cases h;intro x b a h1 h2
  change lS d.1 v i x=some b at h1
  change lS d.2 v k x=some a at h2
  unfold lS at h1 h2
  by_cases e:x=v
  ·rw[if_pos e] at h1 h2;cases h1;cases h2;rw[e];exact hv
  ·rw[if_neg e] at h1 h2;exact c x b a h1 h2
theorem ah1:∀(l:List Int) (d d':wO),vJ i l d=some d'->(∀x b a,d.1 x=some b->d.2 x=some a->W x b a)->(∀v∈l,W v i (-1))->∀x b a,d'.1 x=some b->d'.2 x=some a->W x b a
 | [],d,d',h,hW,_=>by cases h;exact hW
 |v::l,d,d',h,hW,hl=>by
  unfold vJ at h
  cases h1:rB d v i (-1) with
  |none=>rw[h1] at h;cases h
  |some d1=>
   rw[h1,Nw] at h;exact ah1 l d1 d' h (ai3 h1 hW (hl v (.head _))) fun u hu=>hl u (.tail _ hu)
theorem aho{p:IProg}:∀(l:List IOp) (k:Int) (d d':wO),sS p i l k d=some d'->(∀x b a,d.1 x=some b->d.2 x=some a->W x b a)->(∀(j:Nat) o,l[j]? =some o->0<=o.res->W o.res i (k+j))->∀x b a,d'.1 x=some b->d'.2 x=some a->W x b a
 | [],k,d,d',h,hW,_=>by cases h;exact hW
 |o::l,k,d,d',h,hW,hl=>by
  unfold sS at h
  split at h
  ·split at h
   ·rename_i h0
    cases h1:rB d o.res i k with
    |none=>rw[h1] at h;cases h
    |some d1=>
     rw[h1,Nw] at h;refine aho l (k+1) d1 d' h (ai3 h1 hW ?_) fun j x hx h2=>?_
     ·have:=hl 0 o rfl h0
      simpa using this
     ·have:=hl (j+1) x hx h2
      rwa [show k+((j+1:Nat):Int)=k+1+(j:Int) by omega] at this
   ·refine aho l (k+1) d d' h hW fun j x hx h2=>?_
    have:=hl (j+1) x hx h2
    rwa [show k+((j+1:Nat):Int)=k+1+(j:Int) by omega] at this
  ·cases h
theorem ah6{p:IProg}:∀(l:List IBlk) (i:Int) (d d':wO),uH p bl l i d=some d'->(∀x b a,d.1 x=some b->d.2 x=some a->W x b a)->
 (∀(j:Nat) b,l[j]? =some b->(∀v∈b.params,W v (i+j) (-1))/\∀(k:Nat) o,b.ops[k]? =some o->0<=o.res->W o.res (i+j) k)->∀x b a,d'.1 x=some b->d'.2 x=some a->W x b a
 | [],i,d,d',h,hW,_=>by cases h;exact hW
 |b::l,i,d,d',h,hW,hl=>by
  unfold uH at h
  cases h1:pS p bl i b d with
  |none=>rw[h1] at h;cases h
  |some d1=>
   rw[h1,Nw] at h;have h0:=hl 0 b rfl;rw[show i+((0:Nat):Int)=i by omega] at h0;refine ah6 l (i+1) d1 d' h ?_ fun j x hx=>?_
   ·unfold pS at h1
    cases h2:vJ i b.params d with
    |none=>rw[h2] at h1;cases h1
    |some d2=>
     rw[h2,Nw] at h1
     cases h3:sS p i b.ops 0 d2 with
     |none=>rw[h3] at h1;cases h1
     |some d3=>
      rw[h3,Nw] at h1
      split at h1
      ·cases h1
       exact aho b.ops 0 d2 _ h3 (ah1 b.params d d2 h2 hW h0.1) fun j o ho h4=>by
        rw[Ub];exact h0.2 j o ho h4
      ·cases h1
   ·have:=hl (j+1) x hx
    rwa [show i+((j+1:Nat):Int)=i+1+(j:Int) by omega] at this
def agf (b:IBlk)(v:Int):Prop:=v∈b.params∨∃o∈b.ops,o.res=v/\0<=v
def aiT (bl:List IBlk)(i k:Nat)(v:Int):Prop:=
 ((xz bl i).params.contains v=true∨∃j o,j<k/\(xz bl i).ops[j]? =some o/\o.res=v/\0<=v)∨∃c:Nat,c≠i/\c<bl.length/\Dom (GE (zy bl)) c i/\agf (xz bl c) v
theorem z6{i:Nat}{b:IBlk}(h:bl[i]? =some b):xz bl (i:Int)=b:=by
 unfold xz;rw[Ni,Jj,h];rfl
structure StF (p:IProg) (bl:List IBlk):Prop where
 vg:zw (zy bl)
 all:∀i,i<bl.length->Reach (GE (zy bl)) i
 use:∀(i k:Nat) o,i<bl.length->(xz bl i).ops[k]? =some o->∀v∈rR o,aiT bl i k v
 ends:∀i:Nat,i<bl.length->∀v∈mE (xz bl i).term,aiT bl i (xz bl i).ops.length v
 opok:∀i:Nat,i<bl.length->∀o∈(xz bl i).ops,opF p o=true
 trm:∀i:Nat,i<bl.length->mb bl (xz bl i).term=true
theorem ah3{p:IProg}(hv:zw (zy bl))(hd:wg p bl=some d){i:Nat}(hi:i<bl.length){v:Int}(h:yy d (zy bl) i k v=true):aiT bl i k v:=by
 have a1:=ah6 (W:=fun v b a=>∃blk,bl[b.toNat]? =some blk/\0<=b/\((a=-1/\v∈blk.params)∨(0<=a/\∃o,blk.ops[a.toNat]? =some o/\o.res=v/\0<=v))) bl 0 _ d hd (fun x b a h1 _=>by cases h1) fun j b hb=>by
  refine⟨fun u hu=>⟨b,?_,by omega,.inl ⟨rfl,hu⟩⟩,fun m o ho h0=>⟨b,?_,by omega,.inr ⟨by omega,o,?_,rfl,h0⟩⟩⟩
  ·rw[show(0+(j:Int)).toNat=j by omega];exact hb
  ·rw[show(0+(j:Int)).toNat=j by omega];exact hb
  ·rw[Ni];exact ho
 unfold yy at h
 split at h
 ·rename_i b a h1 h2
  simp only[Jm,Bool.not_eq_true',Bool.and_eq_false_iff,decide_eq_false_iff_not] at h;obtain⟨h3,h4⟩:=h;obtain⟨blk,hb,h0,c⟩:=a1 v b a h1 h2;have a0:=(Jh.1 hb).1
  by_cases e:b=(i:Int)
  ·subst e;rw[Ni] at hb;have hk:a<(k:Int):=Zo;refine .inl ?_;rw[z6 hb];rcases c with⟨_,g⟩|⟨g,o,w,t,l⟩
   ·exact .inl (by simpa using g)
   ·exact .inr ⟨a.toNat,o,by omega,w,t,l⟩
  ·have y:=(yO hv b.toNat i).1 (by simpa using h4);refine .inr ⟨b.toNat,by omega,a0,y.2.2,?_⟩;rw[z6 hb];rcases c with⟨_,g⟩|⟨g,o,w,t,l⟩
   ·exact .inl g
   ·exact .inr ⟨o,Ji w,t,l⟩
 ·cases h
theorem stF_of{p:IProg}{n:Nat}(hn:p.funcs[n]? =some bl)(y:bl≠ [])(h:yi p n=true):StF p bl:=by
 cases bl with
 |nil=>exact absurd rfl y
 |cons b0 bs=>
  obtain⟨_,d,m,hr⟩:=tF hn h;have g:=rV (b0::bs) 0 _ d (show uH p (b0::bs) (b0::bs) 0 _=some d from m);have hv:zw (zy (b0::bs)):=nO y fun b hb=>(g b hb).2
  unfold iM at hr;simp only[Jm,decide_eq_true_eq] at hr;obtain⟨w,u⟩:=hr;have t:=(aj hv).1 (by rw[w,xu])
  have c:∀i:Nat,i<(b0::bs).length->(b0::bs)[i]? =some (xz (b0::bs) i)/\xz (b0::bs) i∈(b0::bs):=fun i hi=>by
   obtain⟨x,l⟩:∃x,(b0::bs)[i]? =some x:=⟨_,Jd hi⟩
   rw[z6 l];exact⟨l,Ji l⟩
  have j:∀i:Nat,i<(b0::bs).length->aaC d (zy (b0::bs)) (xz (b0::bs) i) i=true:=fun i hi=>by
   have:=(cB (b0::bs) 0).1 u i _ (c i hi).1
   rwa [Ub] at this
  refine⟨hv,fun i hi=>?_,fun i k o hi ho v hvu=>?_,fun i hi v hve=>?_,fun i hi o ho=>?_,fun i hi=>(g _ (c i hi).2).2⟩
  ·exact((yO hv 0 i).1 (t i (by rw[xu];exact hi))).2.1
  ·have h1:=j i hi;unfold aaC at h1;rw[Jm] at h1;have h2:=(dF _ 0).1 h1.1 k o ho;rw[Ub] at h2;exact ah3 hv m hi (Oe.1 h2 v hvu)
  ·have h1:=j i hi;unfold aaC at h1;rw[Jm] at h1;exact ah3 hv m hi (Oe.1 h1.2 v hve)
  ·exact(g _ (c i hi).2).1 o ho
theorem afb (x:Int)(h:(decide (-100<=x) && decide (x<=100))=true):I64 x:=by
 simp only[Jm,decide_eq_true_eq] at h;exact⟨by omega,by omega⟩
def agF (c:Int)(a b:Nat)(j:Int):List (IOp×Value):=[(⟨1,0,0,0,a,[]⟩,L),(⟨1,1,0,0,b,[]⟩,L),(⟨c,2,0,j,0,[]⟩,L)]
def exP (c:Int)(a b:Nat)(j:Int):IProg:=rd ⟨4,2,[]⟩ ((agF c a b j).map (·.1))
theorem exOps_ok(i:3<=c/\c<=17){a b:Nat}(g:a<65536)(hb:b<65536)(h:0<=j/\j<=1):oz (agF c a b j):=by
 intro q d;simp only[agF,Jq,List.not_mem_nil,or_false] at d;rcases d with rfl|rfl|rfl
 ·exact⟨⟨afb _ rfl,afb _ rfl,afb _ rfl,afb _ rfl,g⟩,rfl,rfl⟩
 ·exact⟨⟨afb _ rfl,afb _ rfl,afb _ rfl,afb _ rfl,hb⟩,rfl,rfl⟩
 ·exact⟨⟨⟨by show _<=c;omega,by show c<=_;omega⟩,afb _ rfl,afb _ rfl,⟨by show _<=j;omega,by show j<=_;omega⟩,by show 0<65536;omega⟩,rfl,rfl⟩
def exJ (c:Int):Int:=if c=3∨c=4 then 0 else 1
theorem aiP(d:3<=c/\c<=17)(a b:Nat):vC (exP c a b (exJ c))=0:=by
 have h:c=3∨c=4∨c=5∨c=6∨c=7∨c=8∨c=9∨c=10∨c=11∨c=12∨c=13∨c=14∨c=15∨c=16∨c=17:=Zo;rcases h with rfl|rfl|rfl|rfl|rfl|rfl|rfl|rfl|rfl|rfl|rfl|rfl|rfl|rfl|rfl<;>rfl
def exV (c:Int)(a b:Nat):Nat:=if c=8/\b=0 then 0 else cw c a b
def exF (c:Int)(b:Nat):Bool:=decide (¬(c=8/\b=0))
def exR (c:Int)(a b:Nat):IRun:=if c=8/\b=0 then⟨0,[],4,0,v7 ⟨#[]⟩,0,0⟩ else⟨cw c a b,[],6,0,v7 ⟨#[]⟩,0,0⟩
theorem exP_run(d:3<=c/\c<=17)(a b:Nat):bQ ⟨exP c a b (exJ c),[],[]⟩ 0 [] ⟨#[]⟩ 10=exR c a b:=by
 unfold exR;have h:c=3∨c=4∨c=5∨c=6∨c=7∨c=8∨c=9∨c=10∨c=11∨c=12∨c=13∨c=14∨c=15∨c=16∨c=17:=Zo;rcases h with rfl|rfl|rfl|rfl|rfl|rfl|rfl|rfl|rfl|rfl|rfl|rfl|rfl|rfl|rfl
 case inr.inr.inr.inr.inr.inl=>
  cases b with
  |zero=>rfl
  |succ b=>rfl
 all_goals rfl
theorem ex_prog{a b:Nat}(g:oz (agF c a b j)){W:World}(i:(((((w.alloc (I #[U 1,U 0,U 0,U 0,Y a,L,U 1,U 1,U 0,U 0,Y b,L,U c,U 2,U 0,U j,Y 0,L] 76)).alloc (I #[L,F w.heap.size 3 3,U 4,U 2,L] 84)).alloc (I #[F (w.heap.size+1) 1 1] 39)).alloc (I #[U 0] 3)).alloc (I #[F (w.heap.size+1+1) 1 1,F (w.heap.size+1+1+1) 1 1,U 0,U (-1),L,L] 29))=W):
 N w W/\ProgIn W W.heap.size ⟨F (w.heap.size+1+1) 1 1,F (w.heap.size+1+1+1) 1 1,L,L⟩ (exP c a b j)/\O W (w.heap.size+1+1+1+1) #[F (w.heap.size+1+1) 1 1,F (w.heap.size+1+1+1) 1 1,U 0,U (-1),L,L] 29:=by
 have hb:N w (((((w.alloc (I #[U 1,U 0,U 0,U 0,Y a,L,U 1,U 1,U 0,U 0,Y b,L,U c,U 2,U 0,U j,Y 0,L] 76)).alloc (I #[L,F w.heap.size 3 3,U 4,U 2,L] 84)).alloc (I #[F (w.heap.size+1) 1 1] 39)).alloc (I #[U 0] 3)).alloc (I #[F (w.heap.size+1+1) 1 1,F (w.heap.size+1+1+1) 1 1,U 0,U (-1),L,L] 29)):=(((((Below.refl _ _).alloc (Je _) _).alloc Zs _).alloc Zt _).alloc Zt _).alloc Zt _;have h:O (((((w.alloc (I #[U 1,U 0,U 0,U 0,Y a,L,U 1,U 1,U 0,U 0,Y b,L,U c,U 2,U 0,U j,Y 0,L] 76)).alloc (I #[L,F w.heap.size 3 3,U 4,U 2,L] 84)).alloc (I #[F (w.heap.size+1) 1 1] 39)).alloc (I #[U 0] 3)).alloc (I #[F (w.heap.size+1+1) 1 1,F (w.heap.size+1+1+1) 1 1,U 0,U (-1),L,L] 29)) w.heap.size ((agF c a b j).flatMap zU).toArray 76:=zB (zB (zB (zB (zI rfl))));have h1:O (((((w.alloc (I #[U 1,U 0,U 0,U 0,Y a,L,U 1,U 1,U 0,U 0,Y b,L,U c,U 2,U 0,U j,Y 0,L] 76)).alloc (I #[L,F w.heap.size 3 3,U 4,U 2,L] 84)).alloc (I #[F (w.heap.size+1) 1 1] 39)).alloc (I #[U 0] 3)).alloc (I #[F (w.heap.size+1+1) 1 1,F (w.heap.size+1+1+1) 1 1,U 0,U (-1),L,L] 29)) (w.heap.size+1) #[L,F w.heap.size 3 3,U 4,U 2,L] 84:=zB (zB (zB (zI Zs)));have h2:O (((((w.alloc (I #[U 1,U 0,U 0,U 0,Y a,L,U 1,U 1,U 0,U 0,Y b,L,U c,U 2,U 0,U j,Y 0,L] 76)).alloc (I #[L,F w.heap.size 3 3,U 4,U 2,L] 84)).alloc (I #[F (w.heap.size+1) 1 1] 39)).alloc (I #[U 0] 3)).alloc (I #[F (w.heap.size+1+1) 1 1,F (w.heap.size+1+1+1) 1 1,U 0,U (-1),L,L] 29)) (w.heap.size+1+1) #[F (w.heap.size+1) 1 1] 39:=zB (zB (zI Zs));have h3:O (((((w.alloc (I #[U 1,U 0,U 0,U 0,Y a,L,U 1,U 1,U 0,U 0,Y b,L,U c,U 2,U 0,U j,Y 0,L] 76)).alloc (I #[L,F w.heap.size 3 3,U 4,U 2,L] 84)).alloc (I #[F (w.heap.size+1) 1 1] 39)).alloc (I #[U 0] 3)).alloc (I #[F (w.heap.size+1+1) 1 1,F (w.heap.size+1+1+1) 1 1,U 0,U (-1),L,L] 29)) (w.heap.size+1+1+1) #[U 0] 3:=zB (zI Zs);have d:O (((((w.alloc (I #[U 1,U 0,U 0,U 0,Y a,L,U 1,U 1,U 0,U 0,Y b,L,U c,U 2,U 0,U j,Y 0,L] 76)).alloc (I #[L,F w.heap.size 3 3,U 4,U 2,L] 84)).alloc (I #[F (w.heap.size+1) 1 1] 39)).alloc (I #[U 0] 3)).alloc (I #[F (w.heap.size+1+1) 1 1,F (w.heap.size+1+1+1) 1 1,U 0,U (-1),L,L] 29)) (w.heap.size+1+1+1+1) #[F (w.heap.size+1+1) 1 1,F (w.heap.size+1+1+1) 1 1,U 0,U (-1),L,L] 29:=zI Zs;rw[i] at hb h h1 h2 h3 d;have k:=lt_of_block d;refine⟨hb,⟨?_,?_,yN.nil,yN.nil,afb _ rfl,afb _ rfl⟩,d⟩
 ·refine yN.one Zo ⟨F (w.heap.size+1) 1 1,zA h2 Zs,yN.one Zo ?_⟩;exact⟨zA h1 Zs,zA h1 Zs,⟨afb _ rfl,afb _ rfl⟩,L,F w.heap.size 3 3,L,zA h1 Zs,zA h1 Zs,zA h1 Zs,yN.nil,aiL (l:=agF c a b j) h Zo (eV g _ _) (by show 3<=1000000;decide),yN.nil⟩
 ·exact yN.one Zo ⟨zA h3 Zs,afb _ rfl⟩
theorem exR_form (c:Int)(a b:Nat):∃k:Nat,exR c a b=⟨exV c a b,[],k,0,v7 ⟨#[]⟩,0,0⟩/\((k:Int)==6)=exF c b:=by
 unfold exR exV exF
 by_cases h:c=8/\b=0
 ·rw[if_pos h,if_pos h];exact⟨4,rfl,by rw[decide_eq_false (fun k=>k h)];rfl⟩
 ·rw[if_neg h,if_neg h];exact⟨6,rfl,by rw[decide_eq_true h];rfl⟩
theorem ai5(hc:3<=c/\c<=17){a b:Nat}(ha:a<65536)(hb:b<65536)(w:World):
 G 123 #[U c,Y a,Y b] w (fun e w'=>e=.returned (.tuple #[Y (exV c a b:Int),.bool (exF c b)])/\N w w'):=by
 obtain⟨S,hS⟩:∃S,y9 (v7 ⟨#[]⟩)=S:=⟨_,rfl⟩
 obtain⟨k,hk,hf⟩:=exR_form c a b;have g:=exP_run hc a b;rw[hk] at g;have a0:=hc;have m:=exOps_ok hc ha hb (j:=exJ c) (by unfold exJ;split<;>omega);obtain⟨v,hv⟩:∃v,exV c a b=v:=⟨_,rfl⟩
 obtain⟨f,x⟩:∃f,exF c b=f:=⟨_,rfl⟩
 rw[hv] at g ⊢;rw[x] at hf ⊢
 have y:∀(j:Int),exJ c=j->∀(W:World),(((((w.alloc (I #[U 1,U 0,U 0,U 0,Y a,L,U 1,U 1,U 0,U 0,Y b,L,U c,U 2,U 0,U j,Y 0,L] 76)).alloc (I #[L,F w.heap.size 3 3,U 4,U 2,L] 84)).alloc (I #[F (w.heap.size+1) 1 1] 39)).alloc (I #[U 0] 3)).alloc (I #[F (w.heap.size+1+1) 1 1,F (w.heap.size+1+1+1) 1 1,U 0,U (-1),L,L] 29))=W->N w W/\O W (w.heap.size+1+1+1+1) #[F (w.heap.size+1+1) 1 1,F (w.heap.size+1+1+1) 1 1,U 0,U (-1),L,L] 29/\G 143 #[.agg #[F (w.heap.size+1+1) 1 1,F (w.heap.size+1+1+1) 1 1,U 0,U (-1),L,L],U 0,L,.string ⟨#[]⟩,.agg #[L,L],U 10] W (fun e w'=>∃oa1 oc1,e=.returned (.agg #[Y v,.slice oa1 0 oc1,U k,Y 0,.string S,U 0,U 0])/\N W w'):=fun j l W hW=>by
  subst l;obtain⟨h1,h2,h3⟩:=ex_prog m hW;refine⟨h1,h3,?_⟩;have a5:=uL (t:=⟨4,2,[]⟩) (ops:=(agF c a b (exJ c)).map (·.1)) (by show 3<=2000000;decide) Zd
  have:=(eval_ex h2 rfl (fun W hb=>by have:=tu ((h2.below hb).mono hb.size) (Je _) (fun f hf=>(a5 f hf).1);rw[aiP a0 a b] at this;exact this) 0 ⟨by decide,by show 0<1;decide⟩ yN.nil rfl ⟨#[]⟩ Zd yN.nil yN.nil 10 (afb _ rfl) Zd
   (fun K W ov hK hM=>by
     refine call_ex K (bk:=⟨[],(agF c a b (exJ c)).map (·.1),⟨4,2,[]⟩⟩) (by rw[hK];rfl) rfl rfl rfl (fun o ho=>?_) (by show 3<=3;decide) hM rfl;simp only[agF,Ql,List.map_nil,Jq,List.not_mem_nil,or_false] at ho;rcases ho with rfl|rfl|rfl
     ·exact⟨.inl rfl,by show(0:Int)<=0;decide⟩
     ·exact⟨.inl rfl,by show(0:Int)<=1;decide⟩
     ·refine⟨?_,by show(0:Int)<=2;decide⟩
      show agd c
      unfold agd
      omega)).mono (fun e w' h=>h.open)
  rw[g] at this;rw[<-hS];exact this.mono (fun e w' ⟨oa1,oc1,h1,_,h3⟩=>⟨oa1,oc1,h1,h3⟩)
 have a4:=Ja y;have HF:=Ja hf;obtain⟨q3,h3⟩:∃q,(c==3)=q:=⟨_,rfl⟩
 obtain⟨q4,h4⟩:∃q,(c==4)=q:=⟨_,rfl⟩
 have l:exJ c=if q3||q4 then 0 else 1:=by
  unfold exJ;rw[<-h3,<-h4];simp only[Bool.or_eq_true,beq_iff_eq]
 have HJ:=Ja l;clear l y hf g m hv x hk hS ha hb hc a0;go_enter Tryz.func123,Tryz.ntmps123;cases q3;cases q4
 all_goals (
  go_upto_region 5 with(go_at_call 999999;skip)
  generalize a3:World.alloc _ _=P1;have d:=Ja (a4.out _ HJ.out P1 a3);clear a3 a4 HJ;have x0:=K0 d.out.2.1;have x1:=K1 d.out.2.1;have x2:=K2 d.out.2.1;have x3:=K3 d.out.2.1;have x4:=K4 d.out.2.1;have x5:=K5 d.out.2.1;go_upto_region 6 with(go_at_call 143;go_must (refine(d.out.2.2).mono ?_;rintro e w1 ⟨oa1,oc1,rfl,hb⟩))
  clear x0 x1 x2 x3 x4 x5;have hx:=zI (W:=w1) (o:=I #[Y v,.slice oa1 0 oc1,U k,Y 0,.string S,U 0,U 0] 57) rfl;have a2:=(Below.refl w1.heap.size w1).alloc (Je _) (I #[Y v,.slice oa1 0 oc1,U k,Y 0,.string S,U 0,U 0] 57);have a1:=(d.out.1.trans ((hb.trans (a2.mono hb.size)).mono d.out.1.size))
  generalize hW:w1.alloc (I #[Y v,.slice oa1 0 oc1,U k,Y 0,.string S,U 0,U 0] 57)=R1 at *;generalize hc:w1.heap.size=r1 at *;have i:=Ja (Jb a1 hx);clear hb hx a2 a1 hW hc d;have y0:=K0 i.out.2;have y2:=K2 i.out.2;have u:=lt_of_block i.out.2;have HC:=Ja (show ∀W',N R1 W'->A W' r1 0 (Y v)/\A W' r1 2 (U k) from fun W' hb=>⟨(hb.cell (p:=⟨r1,0,none⟩) u).trans y0,(hb.cell (p:=⟨r1,2,none⟩) u).trans y2⟩);have a6:=HF.out
  go_region_held3 (fun w'=>A w' r1 0 (Y v)/\A w' r1 2 (U k)) ((refine HC.out _ ?_;repeat' (first|with_reducible exact Below.refl _ _|with_reducible assumption|with_reducible refine Below.drew ?_))) (fail)
  all_goals go_wp2
  all_goals refine bodyPost_ret (v:=.tuple #[Y v,.bool f]) (by simp[results,Tryz.results123,go_sem]) rfl ?_
  all_goals (refine⟨rfl,i.out.1.trans (Below.mono (B:=R1.heap.size) ?_ i.out.1.size)⟩;repeat' (first|with_reducible exact Below.refl _ _|with_reducible assumption|with_reducible refine Below.drew ?_)))
theorem ruG_ge{f:Nat}(h:ruG c=some f):3<=c:=by
 by_cases d:3<=c
 ·exact d
 ·simp only[ruG,putR] at h
  iterate 17 rw[if_neg Zo] at h
  cases h
theorem ahC{p:IProg}{u:List IBlk}{s:Slv}(h:SlvAt w K p u k s)(av:Value)(h1:o.code≠1)(h2:o.code≠2)(h64:I64 o.code)(hr:ruG o.code=none):
 G 96 #[Q K.sb,aam o av] w (mo w (afO p s o)):=by
 rw[show afO p s o=vu by unfold afO;rw[if_neg h1,if_neg h2];unfold afL;rw[ruG_none hr]];obtain⟨c,d,a,b,n,al⟩:=o;have h1:c≠1:=h1;have h2:c≠2:=h2;have e1:(c==1)=false:=by simpa using h1
 have e2:(c==2)=false:=by simpa using h2
 have hr:ruG c=none:=hr
 have x:=Ja (show ∀W,N w W->(Instr.lookup 95 (.map (some K.rm)) (U c) true).run Tryz.prog W=.ok (.tuple #[.nilFunc,.bool false]) W from fun W hb=>by
  have:=(h.below hb).map.lookOk h64
  rw[hr] at this;exact this)
 have y:=Ja (show ∀W,N w W->A W K.sb 7 (.map (some K.rm)) from fun W hb=>(h.below hb).cells.2.1);unfold aam;clear h h1 h2 h64 hr;go_enter Tryz.func96,Tryz.ntmps96;go_upto_region 6 with(go_at_call 999999;skip)
 obtain⟨X,t⟩:∃X,(w.alloc (I #[U c,U d,U a,U b,Y n,av] 76)).alloc (I #[Y 0,Y 0] 45)=X:=⟨_,rfl⟩
 have g:=Ja (show N w X/\O X w.heap.size #[U c,U d,U a,U b,Y n,av] 76/\O X (w.heap.size+1) #[Y 0,Y 0] 45 from by
  rw[<-t];exact⟨Zv,zB (zI rfl),zI Zs⟩)
 rw[t];clear t;have m:=Ja (show ∀W,N X W->A W K.sb 7 (.map (some K.rm))/\A W w.heap.size 0 (U c) from fun W hb=>⟨y.out W (g.out.1.trans (hb.mono g.out.1.size)),zA (zH hb g.out.2.1 (lt_of_block g.out.2.1)) rfl⟩);obtain⟨c0,c1⟩:=m.out X (Below.refl _ _);have hl:=x.out X.drew g.out.1.drew
 go_region_held3 (fun w'=>A w' K.sb 7 (.map (some K.rm))/\A w' w.heap.size 0 (U c)) ((refine m.out _ ?_;repeat' (first|with_reducible exact Below.refl _ _|with_reducible assumption|with_reducible refine Below.drew ?_)))
  (fail)
 all_goals go_wp2_with (go_at_call 39;go_must (refine(em _).mono ?_;rintro e w1 ⟨rfl,l⟩;have j:N X w1:=Below.trans (show N X _ from Zf) (l.mono (Je _));clear l;have hk:=zH j g.out.2.2 (lt_of_block g.out.2.2);have f0:=zA (i:=0) hk rfl;have f1:=zA (i:=1) hk rfl;have g0:=zE (i:=0) hk;have g1:=zE (i:=1) hk;have a0:=lt_of_block hk;have a1:=g.out.1.trans (j.mono g.out.1.size)))
 all_goals (refine bodyPost_ret (v:=.agg #[Y 0,Y 65535]) ?_ rfl ⟨rfl,Zj⟩;rw[zM rfl];go_simp)
theorem ruG_mem{f:Nat}(h:ruG c=some f):f=70∨f=72∨f=73∨f=74∨f=75∨f=77∨f=78∨f=79∨f=81∨f=82∨f=84∨f=85∨f=86∨f=88∨f=89∨f=90∨f=91:=by
 simp only[ruG,putR] at h
 by_cases d:c=23
 ·rw[if_pos d] at h;cases h;simp
 rw[if_neg d] at h
 by_cases g:c=19
 ·rw[if_pos g] at h;cases h;simp
 rw[if_neg g] at h
 by_cases i:c=17
 ·rw[if_pos i] at h;cases h;simp
 rw[if_neg i] at h
 by_cases j:c=16
 ·rw[if_pos j] at h;cases h;simp
 rw[if_neg j] at h
 by_cases k:c=15
 ·rw[if_pos k] at h;cases h;simp
 rw[if_neg k] at h
 by_cases l:c=14
 ·rw[if_pos l] at h;cases h;simp
 rw[if_neg l] at h
 by_cases m:c=13
 ·rw[if_pos m] at h;cases h;simp
 rw[if_neg m] at h
 by_cases o:c=12
 ·rw[if_pos o] at h;cases h;simp
 rw[if_neg o] at h
 by_cases t:c=11
 ·rw[if_pos t] at h;cases h;simp
 rw[if_neg t] at h
 by_cases u:c=10
 ·rw[if_pos u] at h;cases h;simp
 rw[if_neg u] at h
 by_cases w:c=9
 ·rw[if_pos w] at h;cases h;simp
 rw[if_neg w] at h
 by_cases x:c=8
 ·rw[if_pos x] at h;cases h;simp
 rw[if_neg x] at h
 by_cases y:c=7
 ·rw[if_pos y] at h;cases h;simp
 rw[if_neg y] at h
 by_cases h6:c=6
 ·rw[if_pos h6] at h;cases h;simp
 rw[if_neg h6] at h
 by_cases h5:c=5
 ·rw[if_pos h5] at h;cases h;simp
 rw[if_neg h5] at h
 by_cases h4:c=4
 ·rw[if_pos h4] at h;cases h;simp
 rw[if_neg h4] at h
 by_cases h3:c=3
 ·rw[if_pos h3] at h;cases h;simp
 rw[if_neg h3] at h;cases h
theorem appF_by{x y r:Rg}(hr:aeS c x y=some r):afL c x y=if(decide (c<=17) && (q8 x && (((c==3)||(c==4))||q8 y)))=true then(if exF c y.lo=true then agu (exV c x.lo y.lo) else vu) else r:=by
 unfold afL;rw[hr];simp only[Jm,Bool.or_eq_true,decide_eq_true_eq,beq_iff_eq]
 split
 ·unfold exF exV;simp only[decide_eq_true_eq]
  by_cases h:c=8/\y.lo=0
  ·rw[if_pos h,if_neg (fun k=>k h)]
  ·rw[if_neg h,if_pos h,if_neg h]
 ·rfl
theorem ahF{p:IProg}{e0:List IBlk}{s:Slv}(h:SlvAt w K p e0 k s)(av:Value)(h1:o.code≠1)(h2:o.code≠2)(h64:I64 o.code){f:Nat}(hr:ruG o.code=some f)
 (ha:0<=o.a/\o.a<K.n) (hb:0<=o.b/\o.b<K.n):
 G 96 #[.pointer (some ⟨K.sb,0,none⟩),aam o av] w (mo w (afO p s o)):=by
 rw[show afO p s o=afL o.code (s.get o.a) (s.get o.b) by unfold afO;rw[if_neg h1,if_neg h2]];obtain⟨c,d,a,b,n,al⟩:=o;have h1:c≠1:=h1;have h2:c≠2:=h2;have e1:(c==1)=false:=by simpa using h1
 have e2:(c==2)=false:=by simpa using h2
 have hr:ruG c=some f:=hr;have h64:I64 c:=h64;have ha:0<=a/\a<K.n:=ha;have hb:0<=b/\b<K.n:=hb
 show Calls _ _ _ _ (mo w (afL c (s.get a) (s.get b)))
 have b4:=fun(W:World) (hW:N w W)=>(h.below hW).rcell ha
 have b3:=fun(W:World) (hW:N w W)=>(h.below hW).rcell hb
 have c8:=h.oks.get a;have c7:=h.oks.get b;obtain⟨u,rfl⟩:∃u:Nat,a=u:=⟨a.toNat,by omega⟩
 obtain⟨v,rfl⟩:∃v:Nat,b=v:=⟨b.toNat,by omega⟩
 generalize s.get (u:Int)=x at *;generalize s.get (v:Int)=y at *;have hn:=h.n64;have hu:u<K.n:=Zo;have hv:v<K.n:=Zo
 have HL:=Ja (show ∀W,N w W->(Instr.lookup 95 (.map (some K.rm)) (U c) true).run Tryz.prog W=.ok (.tuple #[.func (.func f) #[] #[],.bool true]) W from fun W hb=>by
  have:=(h.below hb).map.lookOk h64
  rw[hr] at this;exact this)
 have HC:=Ja (show ∀W,N w W->A W K.sb 7 (.map (some K.rm))/\A W K.sb 8 (F K.rb K.n K.n)/\A W K.rb (u*2) (.int .u16 (x.lo:Int))/\A W K.rb (u*2+1) (.int .u16 (x.hi:Int))/\A W K.rb (v*2) (.int .u16 (y.lo:Int))/\A W K.rb (v*2+1) (.int .u16 (y.hi:Int)) from fun W hb=>⟨(h.below hb).cells.2.1,(h.below hb).cells.2.2.1,(b4 W hb).1,(b4 W hb).2,(b3 W hb).1,(b3 W hb).2⟩);obtain⟨R,hR⟩:∃R,afL c x y=R:=⟨_,rfl⟩
 have l:=Ja (Jb hr (Jb c8 (Jb c7 hR)));rw[hR];unfold aam;clear h h1 h2 h64 hr b4 b3 c8 c7 ha hb hR;go_enter Tryz.func96,Tryz.ntmps96;go_upto_region 6 with(go_at_call 999999;skip)
 obtain⟨X,hX⟩:∃X,(w.alloc (I #[U c,U d,U u,U v,.int .u16 (n:Int),av] 76)).alloc (I #[.int .u16 0,.int .u16 0] 45)=X:=⟨_,rfl⟩
 have j:=Ja (show N w X/\O X w.heap.size #[U c,U d,U u,U v,.int .u16 (n:Int),av] 76/\O X (w.heap.size+1) #[.int .u16 0,.int .u16 0] 45 from by
  rw[<-hX];exact⟨Zv,zB (zI rfl),zI Zs⟩)
 rw[hX];clear hX;have b6:=Ja (show ∀W,N X W->A W K.sb 7 (.map (some K.rm))/\A W w.heap.size 0 (U c) from fun W hb=>⟨(HC.out W (j.out.1.trans (hb.mono j.out.1.size))).1,zA (zH hb j.out.2.1 (lt_of_block j.out.2.1)) rfl⟩);have b5:=Ja (show ∀W,N X W->(A W w.heap.size 2 (U u)/\A W w.heap.size 3 (U v))/\(A W K.sb 8 (F K.rb K.n K.n)/\A W K.rb (u*2) (.int .u16 (x.lo:Int))/\A W K.rb (u*2+1) (.int .u16 (x.hi:Int))/\A W K.rb (v*2) (.int .u16 (y.lo:Int))/\A W K.rb (v*2+1) (.int .u16 (y.hi:Int))) from fun W hb=>⟨⟨zA (zH hb j.out.2.1 (lt_of_block j.out.2.1)) rfl,zA (zH hb j.out.2.1 (lt_of_block j.out.2.1)) rfl⟩,(HC.out W (j.out.1.trans (hb.mono j.out.1.size))).2⟩);obtain⟨c0,c1⟩:=b6.out X (Below.refl _ _);have hl:=HL.out X.drew j.out.1.drew
 go_region_held3 (fun w'=>A w' K.sb 7 (.map (some K.rm))/\A w' w.heap.size 0 (U c)) ((refine b6.out _ ?_;repeat' (first|with_reducible exact Below.refl _ _|with_reducible assumption|with_reducible refine Below.drew ?_)))
  (fail)
 all_goals go_upto_region 9 with(go_at_call 999999;skip)
 all_goals clear c0 c1 hl
 go_cut [7,8] (fun s t wx=>∃b7 b8,s=.pointer (some ⟨b7,0,none⟩)/\t=.pointer (some ⟨b8,0,none⟩)/\Hid (O wx b7 #[.int .u16 (x.lo:Int),.int .u16 (x.hi:Int)] 45/\O wx b8 #[.int .u16 (y.lo:Int),.int .u16 (y.hi:Int)] 45/\N X wx))
 case first=>
  obtain⟨⟨c0,c1⟩,c2,c3,c4,c5,c6⟩:=b5.out X.drew (Below.refl _ _).drew
  go_region_held3 (fun w'=>(A w' w.heap.size 2 (U u)/\A w' w.heap.size 3 (U v))/\(A w' K.sb 8 (F K.rb K.n K.n)/\A w' K.rb (u*2) (.int .u16 (x.lo:Int))/\A w' K.rb (u*2+1) (.int .u16 (x.hi:Int))/\A w' K.rb (v*2) (.int .u16 (y.lo:Int))/\A w' K.rb (v*2+1) (.int .u16 (y.hi:Int)))) ((refine b5.out _ ?_;repeat' (first|with_reducible exact Below.refl _ _|with_reducible assumption|with_reducible refine Below.drew ?_|with_reducible refine Below.alloc ?_ Zn _|with_reducible refine Below.setCell ?_ Zn _)))
  (fail)
  all_goals go_wp2_with fail
  all_goals go_meet
  all_goals exact⟨_,_,rfl,rfl,by first|exact zB (zI rfl)|exact zI Zs,by first|exact zB (zI rfl)|exact zI Zs,by repeat' (first|with_reducible exact Below.refl _ _|with_reducible assumption|with_reducible refine Below.drew ?_|with_reducible refine Below.alloc ?_ Zn _|with_reducible refine Below.setCell ?_ Zn _)⟩
 case rest=>
  obtain⟨b7,b8,rfl,rfl,HY⟩:=hcut
  rename World=>Y
  have d1:=j.out.1.trans (HY.out.2.2.mono j.out.1.size);have d2:=zH HY.out.2.2 j.out.2.2 (lt_of_block j.out.2.2);have d3:=zH HY.out.2.2 j.out.2.1 (lt_of_block j.out.2.1);have HB:=Ja (Jb d1 (Jb d3 d2));clear d1 d2 d3 b5 b6 HC HL;have HZ:=Ja (show ∀W,N Y W->A W b7 0 (.int .u16 (x.lo:Int))/\A W b7 1 (.int .u16 (x.hi:Int))/\A W b8 0 (.int .u16 (y.lo:Int))/\A W b8 1 (.int .u16 (y.hi:Int))/\A W w.heap.size 0 (U c) from fun W hb=>⟨zA (zH hb HY.out.1 (lt_of_block HY.out.1)) rfl,zA (zH hb HY.out.1 (lt_of_block HY.out.1)) rfl,zA (zH hb HY.out.2.1 (lt_of_block HY.out.2.1)) rfl,zA (zH hb HY.out.2.1 (lt_of_block HY.out.2.1)) rfl,zA (zH hb HB.out.2.1 (lt_of_block HB.out.2.1)) rfl⟩);obtain⟨q3,h3⟩:∃q,(c==3)=q:=⟨_,rfl⟩
  obtain⟨q4,h4⟩:∃q,(c==4)=q:=⟨_,rfl⟩
  obtain⟨z0,z1,z2,z3,z4⟩:=HZ.out Y (Below.refl _ _);go_upto_region 10 with(go_at_call 999999;skip)
  go_cut [9] (fun s wx=>s=.bool (q3||q4)/\wx=Y)
  case first=>
   cases q3;cases q4
   all_goals go_wp2_with fail
   all_goals go_meet
   all_goals exact⟨rfl,rfl⟩
  case rest=>
   obtain⟨rfl,b9⟩:=hcut;rw[b9];clear b9;obtain⟨q9,h9⟩:∃q,(q3||q4)=q:=⟨_,rfl⟩
   obtain⟨sx,a6⟩:∃q,q8 x=q:=⟨_,rfl⟩
   obtain⟨sy,a5⟩:∃q,q8 y=q:=⟨_,rfl⟩
   obtain⟨Q,hQ⟩:∃Q,(decide (c<=17) && (sx && (q9||sy)))=Q:=⟨_,rfl⟩
   have a4:=Ja (fun W=>ae6 W x);have d7:=Ja (fun W=>ae6 W y);rw[a6] at a4;rw[a5] at d7;rw[h9];go_upto_region 11 with(go_at_call 999999;skip)
   have HQ:=Ja (Jb h3 (Jb h4 (Jb h9 (Jb a6 (Jb a5 hQ)))));clear h3 h4 h9 a6 a5
   go_cut [85] (fun s wx=>s=.bool Q/\Hid (N Y wx))
   case first=>
    by_cases d5:c<=17
    ·rw[decide_eq_true d5,Bool.true_and] at hQ;cases sx
     ·go_wp2_with (go_at_call 83;go_must (refine(a4.out _).mono ?_;rintro e w1 ⟨rfl,g⟩))
      go_meet;exact⟨by rw[<-hQ];rfl,g⟩
     ·cases q9
      ·go_wp2_with (go_at_call 83;go_must (first|(refine(a4.out Y).mono ?_;rintro e w1 ⟨rfl,g⟩;obtain⟨z0,z1,z2,z3,z4⟩:=HZ.out w1 g)|(refine(d7.out _).mono ?_;rintro e w2 ⟨rfl,a1⟩)))
       go_meet;exact⟨by rw[<-hQ];rfl,g.trans (a1.mono g.size)⟩
      ·go_wp2_with (go_at_call 83;go_must (refine(a4.out _).mono ?_;rintro e w1 ⟨rfl,g⟩))
       go_meet;exact⟨by rw[<-hQ];rfl,g⟩
    ·rw[decide_eq_false d5,Bool.false_and] at hQ;subst hQ;go_wp2_with fail;go_meet;exact⟨rfl,Below.refl _ _⟩
   case rest=>
    obtain⟨rfl,HW⟩:=hcut
    rename World=>Z
    have d4:=HB.out.1.trans (HW.out.mono HB.out.1.size);have a8:=zH HW.out HB.out.2.2 (lt_of_block HB.out.2.2);have HR:=Ja (Jb d4 a8);clear d4 a8;obtain⟨r,a2,_⟩:=ahO l.out.1 l.out.2.1 l.out.2.2.1 Z
    have HF:=Ja (show ∀W,G f #[.agg #[.int .u16 (x.lo:Int),.int .u16 (x.hi:Int)],.agg #[.int .u16 (y.lo:Int),.int .u16 (y.hi:Int)]] W (fun e w'=>e=.returned (.agg #[.int .u16 (r.lo:Int),.int .u16 (r.hi:Int)])/\N W w') from fun W=>by
     obtain⟨r',h1,h2⟩:=ahO l.out.1 l.out.2.1 l.out.2.2.1 W;rw[a2] at h1;cases h1
     exact h2)
    have hR:=appF_by a2;rw[l.out.2.2.2,HQ.out.1,HQ.out.2.1,HQ.out.2.2.1,HQ.out.2.2.2.1,HQ.out.2.2.2.2.1,HQ.out.2.2.2.2.2] at hR;have d9:=ruG_ge l.out.1;clear z0 z1 z2 z3 z4;obtain⟨z0,z1,z2,z3,z4⟩:=HZ.out Z HW.out;cases Q
    ·rw[if_neg Zd] at hR;subst hR;clear a2;rcases ruG_mem l.out.1 with rfl|rfl|rfl|rfl|rfl|rfl|rfl|rfl|rfl|rfl|rfl|rfl|rfl|rfl|rfl|rfl|rfl
     all_goals go_wp2_with ((first|go_at_call 70|go_at_call 72|go_at_call 73|go_at_call 74|go_at_call 75|go_at_call 77|go_at_call 78|go_at_call 79|go_at_call 81|go_at_call 82|go_at_call 84|go_at_call 85|go_at_call 86|go_at_call 88|go_at_call 89|go_at_call 90|go_at_call 91);go_must (refine(HF.out _).mono ?_;rintro e w1 ⟨rfl,g⟩;have m:N Z w1:=Below.trans (show N Z _ from Zf) (g.mono (Je _));clear g;have hk:=zH m HR.out.2 (lt_of_block HR.out.2);have f0:=zA (i:=0) hk rfl;have f1:=zA (i:=1) hk rfl;have g0:=zE (i:=0) hk;have g1:=zE (i:=1) hk;have c9:=lt_of_block hk;have d0:=HR.out.1.trans (m.mono HR.out.1.size)))
     all_goals (refine bodyPost_ret (v:=.agg #[.int .u16 (R.lo:Int),.int .u16 (R.hi:Int)]) ?_ rfl ⟨rfl,Zj⟩;rw[zM rfl];go_simp)
    ·rw[if_pos rfl] at hR
     have d8:c<=17:=by
      have:=HQ.out.2.2.2.2.2;simp only[Jm,decide_eq_true_eq] at this;exact this.1
     obtain⟨fv,b0⟩:∃q,exF c y.lo=q:=⟨_,rfl⟩
     obtain⟨ev,b1⟩:∃q,exV c x.lo y.lo=q:=⟨_,rfl⟩
     have b2:=fun W=>ai5 ⟨d9,d8⟩ (Nat.lt_of_le_of_lt (Jn l.out.2.1.1 l.out.2.1.2) Zd) (Nat.lt_of_le_of_lt (Jn l.out.2.2.1.1 l.out.2.2.1.2) Zd) W (a:=x.lo) (b:=y.lo)
     have a3:R=if fv=true then agu ev else vu:=by rw[<-b0,<-b1];exact hR
     rw[b0,b1] at b2;have d6:=Ja b2;have HO:=Ja (fun W=>af7 W ev);clear b2 hR b0 b1 a2;cases fv
     ·rw[if_neg Zd] at a3;subst a3
      go_wp2_with (first
       |(go_at_call 123;go_must (refine(d6.out _).mono ?_;rintro e w1 ⟨rfl,g⟩;have a0:Below Z.heap.size Z w1:=Below.trans (show Below Z.heap.size Z _ from Zf) (g.mono (Je _));clear g))
       |(go_at_call 39;go_must (refine(em _).mono ?_;rintro e w2 ⟨rfl,a1⟩;have m:=a0.trans (a1.mono a0.size);clear a1 a0;have hk:=zH m HR.out.2 (lt_of_block HR.out.2);have f0:=zA (i:=0) hk rfl;have f1:=zA (i:=1) hk rfl;have g0:=zE (i:=0) hk;have g1:=zE (i:=1) hk;have c9:=lt_of_block hk;have d0:=HR.out.1.trans (m.mono HR.out.1.size))))
      refine bodyPost_ret (v:=.agg #[.int .u16 0,.int .u16 65535]) ?_ rfl ⟨rfl,Zj⟩;rw[zM rfl];go_simp
     ·rw[if_pos rfl] at a3;subst a3
      go_wp2_with (first
       |(go_at_call 123;go_must (refine(d6.out _).mono ?_;rintro e w1 ⟨rfl,g⟩;have a0:Below Z.heap.size Z w1:=Below.trans (show Below Z.heap.size Z _ from Zf) (g.mono (Je _));clear g))
       |(go_at_call 122;go_must (refine(HO.out _).mono ?_;rintro e w2 ⟨rfl,a1⟩;have m:=a0.trans (a1.mono a0.size);clear a1 a0;have hk:=zH m HR.out.2 (lt_of_block HR.out.2);have f0:=zA (i:=0) hk rfl;have f1:=zA (i:=1) hk rfl;have g0:=zE (i:=0) hk;have g1:=zE (i:=1) hk;have c9:=lt_of_block hk;have d0:=HR.out.1.trans (m.mono HR.out.1.size))))
      refine bodyPost_ret (v:=.agg #[.int .u16 (ev:Int),.int .u16 (ev:Int)]) ?_ rfl ⟨rfl,Zj⟩;rw[zM rfl];go_simp
end Go.Proofs.YtoahcpkibpomcaaGreat
