/- Part of a proof. -/
import Derived.Test.YtoahcpkibpomcaaGreatGZt2v2w
set_option linter.all false
set_option maxHeartbeats 6400000
set_option maxRecDepth 100000
namespace Go.Proofs.YtoahcpkibpomcaaGreat
open Go.RowKit
theorem bX (p q:Int):∃x:Int,∀(ts:Array TypeId) (t:TypeId) (W:World),(Builtin.max_ ts t #[U p,U q]).run Tryz.prog W=.ok (U x) W:=⟨_,fun ts t W=>run_max_int2 ..⟩
theorem blkAt_in {blocks:List IBlk}{a:Nat}(h:a<blocks.length):xz blocks a∈blocks:=Ji (rh h)
def HeadQ (K:MK)(w0 wx:World)(r n:Nat)(blocks:List IBlk)(vb N:Nat)(at':Nat)(sa:Option Addr)(sn sc:Nat)(R:Res Nat):Prop:=
 ∃(args:List Nat) (v:Int->Nat) (m:Mach),CStQ K w0 wx m vb N v/\wV wx wx.heap.size (.slice sa sn sc) args/\(∀y b o,y∈args->sa=some ⟨b,o,none⟩->b≠vb)/\args.length=(xz blocks at').params.length/\at'<blocks.length/\m.fuel.toNat<n/\tJ K.E (xW K.E r) blocks n at' args v m=R
def OpsQ (K:MK)(w0 wx:World)(r:Nat)(vb N b12:Nat)(cs:Array Value)(m1:Mach)(os:List IOp)(R:Res (Int->Nat)):Prop:=
 ∃(v:Int->Nat) (m:Mach),CStQ K w0 wx m vb N v/\O wx b12 cs 84/\m.fuel<=m1.fuel/\iq K.E (xW K.E r) os v m=R
theorem mk_row (N:Nat)(c:N<=65536)(W:World):(Instr.makeSlice 48 (U N) (U N)).run Tryz.prog W=.ok (F W.heap.size N N) (W.alloc (I (madeCells #[Y 0] N) 43)):=by
 have h:=run_make_row' (P:=Tryz.prog) 48 43 (Y 0) 2 Tryz.underlying48 Tryz.info_u16 rfl .i64 .i64 N Zo Zo W;exact h
theorem br (K:MK)(hu:UseProg K.E.p):cX K 0:=by
 intro w m dp ov av f args h b0 j ha hl d1;obtain⟨aa,ac,rfl,_,_⟩:=ha.form;obtain⟨k,rfl⟩:∃k:Nat,f=(k:Int):=⟨f.toNat,by omega⟩
 have i:=h.prog.funcs;obtain⟨fa,fc,a0,_,_⟩:=i.form;have c0:=h.c0;rw[a0] at i c0;have a5:k<K.E.p.funcs.length:=Zo;obtain⟨blocks,o⟩:∃bl,K.E.p.funcs[k]? =some bl:=⟨_,Jd a5⟩
 obtain⟨fb,fo,rfl,a1,bv,l,t⟩:=i.get o;rw[Nk] at l;obtain⟨ba,bc,rfl,_,c5⟩:=t.form;have d3:(k:Int)<K.E.p.funcs.length:=Zo;obtain⟨dx,d4⟩:=bX dp 101;have b1:=hu.cnt blocks (Ji o);obtain⟨N,hN⟩:∃N:Nat,aaG blocks=(N:Int):=⟨(aaG blocks).toNat,by omega⟩
 have b4:N<=65536:=Zo;have y:=hu.sz blocks (Ji o);have c7:=h.lt;have c11:=h.c11;have b5:=h.free 11;have hB:=h.size;have d0:fb<w.heap.size:=Zo;have h1:=h.put 11 (U dx) (m':=m) (tr':=none) (dp':=dx) rfl rfl rfl h.obd h.fuel h.inp h.pol;have a2:=h.frm 11 (U dx);have H1:=Ja (Jb h1 a2);have d6:=Ja (Jb t y);have b9:=Ja a1
 have c2:=Ja (show ∀W,Below K.B w W->G 17 #[.agg #[.slice ba blocks.length bc]] W (aeN W (N:Int)) from fun W hb=>by
  have:=jr (t.below yT hb) (Jn (Qd hB) hb.size) y;rw[hN] at this
  exact this)
 have b8:=Ja a0;have hI:(100:Int)<101:=Zo;have a6:=zV (Below.refl _ _) a1 l;clear a1 h i a0 a5 b0 j t o ha hl hu h1 a2 b1 hN y a6;have d2:=mk_row N b4;go_enter Tryz.func47,Tryz.ntmps47;go_upto_region 4 with fail;generalize b3:w.setCell ⟨K.pm,11,none⟩ (U dx)=W1 at *;clear b3 c11 b5;go_upto_region 7 with(go_at_call 101;go_must (refine(ew H1.out.1 5 0).mono ?_;rintro e w2 ⟨rfl,g,j⟩))
 have b2:=g.c0;rw[b8.out] at b2;have c9:=g.lt;have u:=H1.out.2.trans j;have c4:=zV u.below b9.out l;have c3:fb<w2.heap.size:=by have:=u.below.size;omega
 have x:=Ja (Jb g u);clear g j u c0 l;go_upto_region 8 with(go_at_call 17;go_must (refine(c2.out _ x.out.2.below).mono ?_;rintro e w3 ⟨rfl,a3⟩;have d:=x.out.1.keep a3;have b6:=d.c10;have a8:=d.lt;have a4:=Ja (Jb d (x.out.2.trans (FrmQ.ofBelow a3 (Qd x.out.1.size))));clear d a3))
 have c:=a4.out.1.keep ((Below.refl _ _).alloc (Je _) (I (madeCells #[Y 0] N) 43));have c1:=Ja (a4.out.2.trans ((FrmQ.refl K.B w3).alloc (Qd a4.out.1.size) (I (madeCells #[Y 0] N) 43)));have d5:=c.c10;have c8:=c.lt;have b7:=Ja c;clear c b6 a8;generalize w3.alloc (I (madeCells #[Y 0] N) 43)=w4 at *;generalize w3.heap.size=vb at *;go_wp2
 go_loopw [11] (fun _ wx=>wx=w4) (fun _ _=>0)
 case atStart=>rfl
 case round=>
  subst hrel;go_wp2;go_ret;exact pn.trap b7.out c1.out
theorem U16s.setCell {w:World}{B:Nat}{a:Option Addr}{n c pm i:Nat}{u:Value}{xs:List Nat}(h:wV w B (.slice a n c) xs)(d:∀b o,a=some ⟨b,o,none⟩->xs≠ []->b≠pm):wV (w.setCell ⟨pm,i,none⟩ u) B (.slice a n c) xs:=by
 obtain⟨a',t,e,h1,h2,h3⟩:=h;cases e;refine⟨a,c,rfl,h1,h2,fun k x hk=>?_⟩;obtain⟨b,o,g,m,l,j⟩:=h3 k x hk;refine⟨b,o,g,m,?_,j⟩;have:=d b o g (by rintro rfl;simp at hk);rw[<-l];exact Oo (Below.heap_setCell _ _ _ _ (by show b≠pm;exact this))
theorem CStQ.drew {K:MK}{w0 w:World}{m:Mach}{vb N:Nat}{v:Int->Nat}(h:CStQ K w0 w m vb N v):CStQ K w0 w.drew m vb N v:=h.keep (Below.refl _ _).drew
theorem ac7 (K:MK)(x5:OkProg K.E.p)(hu:UseProg K.E.p)(r:Nat)(hr:r+1<=100)(hC:cX K r):cX K (r+1):=by
 intro w m dp ov av f args h E7 c7 ha hl x6;obtain⟨aa,ac,rfl,_,_⟩:=ha.form;obtain⟨k,rfl⟩:∃k:Nat,f=(k:Int):=⟨f.toNat,by omega⟩
 have l6:=h.prog.funcs;obtain⟨fa,fc,s2,_,_⟩:=l6.form;have c0:=h.c0;rw[s2] at l6 c0;have x9:k<K.E.p.funcs.length:=Zo;obtain⟨blocks,d7⟩:∃bl,K.E.p.funcs[k]? =some bl:=⟨_,Jd x9⟩
 obtain⟨fb,fo,rfl,y5,bv,g9,l9⟩:=l6.get d7;rw[Nk] at g9;obtain⟨ba,bc,rfl,_,H6⟩:=l9.form;have y3:K.E.p.funcs.getD (k:Int).toNat []=blocks:=by rw[Ni,Jj,d7];rfl
 have bz:(k:Int)<K.E.p.funcs.length:=Zo;have s5:(101-((r+1:Nat):Int))=100-(r:Int):=Zo;have cc:¬(100:Int)<100-(r:Int):=Zo;obtain⟨dx,cb⟩:=bX dp (100-(r:Int));have b0:=hu.cnt blocks (Ji d7);obtain⟨N,hN⟩:∃N:Nat,aaG blocks=(N:Int):=⟨(aaG blocks).toNat,by omega⟩
 have F0:N<=65536:=Zo;have p8:=hu.sz blocks (Ji d7);have p1:=hu.blk blocks (Ji d7);rw[show(aaG blocks).toNat=N by omega] at p1
 have o5:xW K.E (r+1) k args m=if blocks.isEmpty then .trap 8 ((k:Int)%65536).toNat m else tJ K.E (xW K.E r) blocks (m.fuel.toNat+1) 0 args (fun _=>0) m:=by
  show(if(K.E.p.funcs.getD (k:Int).toNat []).isEmpty then _ else _)=_
  rw[y3]
 have ax:=h.lt;have c11:=h.c11;have A0:=h.free 11;have hB:=h.size;have az:fb<w.heap.size:=Zo;have h1:=h.put 11 (U dx) (m':=m) (tr':=none) (dp':=dx) rfl rfl rfl h.obd h.fuel h.inp h.pol;have s4:=h.frm 11 (U dx);have z4:=U16s.setCell (i:=11) (u:=U dx) ha (fun b o e hn=>x6 b o _ _ (by rw[e]) hn);have H1:=Ja (Jb h1 (Jb s4 (Jb z4 hl)));have B5:=Ja (Jb l9 p8);have B0:=Ja y5
 have B1:=Ja (show ∀W,Below K.B w W->G 17 #[.agg #[.slice ba blocks.length bc]] W (aeN W (N:Int)) from fun W hb=>by
  have:=jr (l9.below yT hb) (Jn (Qd hB) hb.size) p8;rw[hN] at this
  exact this)
 have A9:=Ja s2;have HC:=Ja hC;have v3:=Ja x5;have B4:=Ja d7;have F6:=Ja p1;have ah:=Ja (h.fuel.2.2 rfl);rw[s5];have A4:=Ja o5;have bu:=mk_row N F0;clear h l6 s2 x9 E7 c7 y3 l9 hC x5 d7 ha hl x6 s5 o5 hu h1 s4 b0 hN p8 p1 y5 z4
 by_cases h0:blocks.length=0
 ·have t1:((blocks.length:Int)==0)=true:=by rw[beq_iff_eq];omega
  have EE:=Ja (show xW K.E (r+1) k args m=.trap 8 ((k:Int)%65536).toNat m by rw[A4.out,if_pos (by rw[List.isEmpty_iff];exact Nz h0)]);obtain⟨q,t⟩:∃q:Nat,((k:Int)%65536).toNat=q:=⟨_,rfl⟩
  have bp:IntKind.u16.wrap (k:Int)=(q:Int):=by rw[xY];omega
  rw[t] at EE;clear h0 t;go_enter Tryz.func47,Tryz.ntmps47;go_upto_region 5 with fail;generalize h8:w.setCell ⟨K.pm,11,none⟩ (U dx)=W1 at *;clear h8 c11 A0;go_upto_region 7 with(go_at_call 101;go_must (refine(ew H1.out.1 8 q).mono ?_;rintro e w2 ⟨rfl,l3,c7⟩))
  have l8:=l3.c0;rw[A9.out] at l8;have f7:=l3.lt;have n0:=H1.out.2.1.trans c7;have t8:=zV n0.below B0.out g9;have n6:fb<w2.heap.size:=by have:=n0.below.size;omega
  have b9:=Ja (Jb l3 n0);clear l3 c7 n0 c0 g9;go_upto_region 8 with(go_at_call 17;go_must (refine(B1.out _ b9.out.2.below).mono ?_;rintro e w3 ⟨rfl,a4⟩;have l2:=b9.out.1.keep a4;have F3:=l2.c10;have D8:=l2.lt;have i0:=Ja (Jb l2 (b9.out.2.trans (FrmQ.ofBelow a4 (Qd b9.out.1.size))));clear l2 a4))
  have l1:=i0.out.1.keep ((Below.refl _ _).alloc (Je _) (I (madeCells #[Y 0] N) 43));have G2:=Ja (i0.out.2.trans ((FrmQ.refl K.B w3).alloc (Qd i0.out.1.size) (I (madeCells #[Y 0] N) 43)));have z5:=l1.c10;have ay:=l1.lt;have d9:=Ja l1;clear l1 F3 D8;generalize w3.alloc (I (madeCells #[Y 0] N) 43)=w4 at *;generalize w3.heap.size=vb at *;go_wp2
  go_loopw [11] (fun _ wx=>wx=w4) (fun _ _=>0)
  case atStart=>rfl
  case round=>
   subst hrel;go_wp2;go_ret;rw[EE.out];exact pn.trap d9.out G2.out
 ·have t1:((blocks.length:Int)==0)=false:=Ze;have EE:=Ja (show xW K.E (r+1) k args m=tJ K.E (xW K.E r) blocks (m.fuel.toNat+1) 0 args (fun _=>0) m by rw[A4.out,if_neg (by rw[List.isEmpty_iff];intro e;exact h0 (by rw[e];rfl))]);obtain⟨RES,j1⟩:∃R,xW K.E (r+1) k args m=R:=⟨_,rfl⟩
  rw[j1];have B3:=Ja (show ∀b∈blocks,OkBlk K.E.p blocks b from v3.out.blk blocks (Ji B4.out));have B7:=Ja h0;have F8:=Ja j1;clear h0 j1;go_enter Tryz.func47,Tryz.ntmps47;go_upto_region 5 with fail;generalize h8:w.setCell ⟨K.pm,11,none⟩ (U dx)=W1 at *;clear h8 c11 A0;go_upto_region 7 with fail;have l8:=H1.out.1.c0;rw[A9.out] at l8;have f7:=H1.out.1.lt;have t8:=zV H1.out.2.1.below B0.out g9;have n6:fb<W1.heap.size:=by have:=H1.out.2.1.below.size;omega
  clear c0 g9;go_upto_region 8 with(go_at_call 17;go_must (refine(B1.out _ H1.out.2.1.below).mono ?_;rintro e w3 ⟨rfl,a4⟩))
  have h6:Below W1.heap.size W1 (w3.alloc (I (madeCells #[Y 0] N) 43)):=a4.alloc a4.size _
  have q7:Hid (HeadQ K w (w3.alloc (I (madeCells #[Y 0] N) 43)) r (m.fuel.toNat+1) blocks w3.heap.size N 0 aa args.length ac RES):=by
   have H0:W1.heap.size=w.heap.size∨w.heap.size<=W1.heap.size:=.inr H1.out.2.1.below.size;refine⟨args,fun _=>0,m,⟨⟨dx,ov,H1.out.1.keep h6⟩,H1.out.2.1.trans (FrmQ.ofBelow h6 (Qd H1.out.1.size)),dA.made (zI rfl),Jn H1.out.2.1.below.size a4.size,hB⟩,?_,?_,?_,by have:=B7.out;omega,by omega,?_⟩
   ·exact(H1.out.2.2.1.below zr (h6.mono H1.out.2.1.below.size)).mono zr (Jn H1.out.2.1.below.size h6.size)
   ·intro y b o hy e;obtain⟨j,hj⟩:=Ny hy;obtain⟨b',o',e',x8,_⟩:=H1.out.2.2.1.get hj;rw[e] at e';cases e';have:=H1.out.2.1.below.size;have:=a4.size;omega
   ·obtain⟨b,bs,rfl⟩:∃b bs,blocks=b::bs:=by
     cases blocks with
     |nil=>exact absurd rfl B7.out
     |cons b bs=>exact⟨b,bs,rfl⟩
    have h1:=v3.out.par k b bs B4.out;have h2:=H1.out.2.2.2;rw[Ni] at h2
    show args.length=b.params.length
    omega
   ·rw[<-F8.out,EE.out];rfl
  generalize w3.alloc (I (madeCells #[Y 0] N) 43)=w4 at *;generalize w3.heap.size=vb at *;generalize D0:m.fuel.toNat+1=gas at q7;clear D0 a4 h6 f7 l8 t8 n6;go_wp2
  go_loopg [2,11] gas (fun n sv atv wx=>∃(at':Nat) (sa:Option Addr) (sn sc:Nat),sv=.slice sa sn sc/\atv=U at'/\Hid (HeadQ K w wx r n blocks vb N at' sa sn sc RES))
  case atStart=>exact⟨0,aa,args.length,ac,rfl,rfl,q7⟩
  case round=>
   obtain⟨at',sa,sn,sc,rfl,rfl,HS⟩:=hrel
   cases gk with
   |zero=>obtain⟨_,_,m1,_,_,_,_,_,x8,_⟩:=HS.out;exact absurd x8 (Nat.not_lt_zero _)
   |succ n=>
    obtain⟨args1,v1,m1,b0,f3,q9,z3,m3,y4,c⟩:=HS.out;obtain⟨sa',sc',e1,_,_⟩:=f3.form;cases e1;have D1:=B5.out.1.get (rh m3);have r3:=B3.out _ (Ji (rh m3));have p0:=F6.out _ (Ji (rh m3));generalize u1q:xz blocks at'=bk at *;have f5:=Ja u1q;obtain⟨bb,bo,rfl,d8,k2,k3,y0,pv,ov1,tv,kp,ko,kt,r1,r2,p3⟩:=D1;have k2:=zV b0.frm.below d8 k2;have k3:=zV b0.frm.below d8 k3;have kp:=zV b0.frm.below d8 kp;have ko:=zV b0.frm.below d8 ko;have kt:=zV b0.frm.below d8 kt;have E0:bb<wr.heap.size:=by have:=b0.gb;have:=b0.frm.below.size;omega
    obtain⟨pa,pc,rfl,_,_⟩:=r1.form;obtain⟨oa,oc,rfl,_,_⟩:=r2.form;obtain⟨ta,tc,rfl,_,_⟩:=p3.form;have H7:(at':Int)<blocks.length:=Zo;obtain⟨cg,ov0,r4⟩:=b0.mach;have z5:A wr K.pm 10 (.bool false):=r4.c10;have D9:=r4.lt;have B2:=Ja b0;have a8:=Ja (Jb f3 (Jb z3 q9));have n3:=Ja (Jb c y4);have k0:=Ja r3;have j2:=Ja p0;have u8q:=Ja (Jb r1 (Jb r2 (Jb p3 y0)));clear q7 HS b0 f3 z3 q9 y4 c r3 p0 u1q r1 r2 p3 y0 m3 r4;go_upto_region 11 with fail;have s9:=B2.out.alloc (I #[.slice pa bk.params.length pc,.slice oa bk.ops.length oc,U bk.term.kind,U bk.term.a,.slice ta bk.term.to.length tc] 84);have d:=zI (W:=wr) (o:=I #[.slice pa bk.params.length pc,.slice oa bk.ops.length oc,U bk.term.kind,U bk.term.a,.slice ta bk.term.to.length tc] 84) rfl;have h7:=(a8.out.1.below zr ((Below.refl _ _).alloc (Je _) (I #[.slice pa bk.params.length pc,.slice oa bk.ops.length oc,U bk.term.kind,U bk.term.a,.slice ta bk.term.to.length tc] 84))).mono zr (B':=(wr.alloc (I #[.slice pa bk.params.length pc,.slice oa bk.ops.length oc,U bk.term.kind,U bk.term.a,.slice ta bk.term.to.length tc] 84)).heap.size) Zs;have x7:wr.heap.size≠vb:=by have:=lt_of_block B2.out.row.1;omega
    generalize h8:wr.alloc (I #[.slice pa bk.params.length pc,.slice oa bk.ops.length oc,U bk.term.kind,U bk.term.a,.slice ta bk.term.to.length tc] 84)=W2 at *;generalize wr.heap.size=b12 at *;have v5:=Ja x7;have A6:=Ja (show CStQ K w W2 m1 vb N v1/\wV W2 W2.heap.size (.slice sa args1.length sc) args1/\O W2 b12 #[.slice pa bk.params.length pc,.slice oa bk.ops.length oc,U bk.term.kind,U bk.term.a,.slice ta bk.term.to.length tc] 84 from⟨s9,h7,d⟩);clear h8 s9 h7 d k2 k3 kp ko kt E0 z5 D9 x7;go_wp2
    go_loopw [13] (fun jv wx=>∃j:Nat,j<=bk.params.length/\jv=U j/\Hid (CStQ K w wx m1 vb N (r7 (bk.params.take j) (args1.take j) v1)/\wV wx wx.heap.size (.slice sa args1.length sc) args1/\O wx b12 #[.slice pa bk.params.length pc,.slice oa bk.ops.length oc,U bk.term.kind,U bk.term.a,.slice ta bk.term.to.length tc] 84)) (fun jv _=>bk.params.length-(intOf jv).toNat)
    case atStart=>exact⟨0,Jt _,rfl,A6⟩
    case round=>
     obtain⟨j,hj,rfl,HJ⟩:=hrel;have B9:=K0 HJ.out.2.2;have bj:=lt_of_block HJ.out.2.2
     by_cases a1:j<bk.params.length
     ·skip
      have f1:(j:Int)<bk.params.length:=Zo;have c5:=Ja a1;obtain⟨x,hx⟩:∃x,bk.params[j]? =some x:=⟨_,Jd a1⟩
      obtain⟨y,hy⟩:∃y,args1[j]? =some y:=⟨_,Jd (by rw[a8.out.2.1];exact a1)⟩
      obtain⟨b1,o1,rfl,c8,t7,G6⟩:=u8q.out.1.get hx;rw[Nk] at t7;have cp:=zV HJ.out.1.frm.below c8 t7;obtain⟨b2,o2,rfl,E9,t6,n9⟩:=HJ.out.2.1.get hy;rw[Nk] at t6;have bm:(j:Int)<args1.length:=by have:=a8.out.2.1;omega
      have r0:=qq (bk.params.take j) (args1.take j) v1 x y (by have:=a8.out.2.1;rw[Oc,Oc];omega);have e1:bk.params.take (j+1)=bk.params.take j++ [x]:=by rw[Nh,hx];rfl
      have e2:args1.take (j+1)=args1.take j++ [y]:=by rw[Nh,hy];rfl
      rw[<-e1,<-e2] at r0;have E3:=j2.out.1 x (Ji hx);have u2q:=a8.out.2.2 y b2 o2 (Ji hy) rfl;obtain⟨kx,rfl⟩:∃kx:Nat,x=(kx:Int):=⟨x.toNat,by omega⟩
      have r5:kx<N:=Zo;have H4:(kx:Int)<(N:Int):=Zo;have F7:=Ja r0;have u3q:b1≠vb:=by have:=HJ.out.1.new;have:=HJ.out.1.gb;omega
      have n1:=Ja (show ∀W:World,(∀k,k≠vb->W.heap[k]? =wr.heap[k]?)->A W b12 0 (.slice (some ⟨b1,o1,none⟩) bk.params.length pc)/\A W b1 (o1+j) (U kx)/\A W b2 (o2+j) (Y y) from fun W hW=>⟨(Oo (hW b12 v5.out)).trans B9,(Oo (hW b1 u3q)).trans cp,(Oo (hW b2 u2q)).trans t6⟩);have bi:b1<wr.heap.size:=Jw _ _ cp;have bh:b2<wr.heap.size:=Jw _ _ t6;have cv:=HJ.out.1.row.cell r5;have fv:=HJ.out.1.row.free kx;have lv:=lt_of_block HJ.out.1.row.1;have HY:=Ja n9;have G1:=Ja hy;clear hx hy t7 r0 e1 e2 c8 a1 E3 u2q r5 u3q n9 E9;go_upto_region 14 with fail
      go_region_held3 (fun w'=>A w' b12 0 (.slice (some ⟨b1,o1,none⟩) bk.params.length pc)/\A w' b1 (o1+j) (U kx)/\A w' b2 (o2+j) (Y y))
       ((refine n1.out _ ?_;rintro k E5;repeat' (first|(rw[Below.heap_setCell _ _ _ _ (by show k≠vb;exact E5)])|(rw[show ∀v:World,v.drew.heap=v.heap from fun _=>rfl])|exact rfl)))
       (fail)
      all_goals go_wp2_with fail
      all_goals go_roundw
      case rel=>
       refine⟨j+1,c5.out,by go_num,Ja ⟨?_,?_,?_⟩⟩
       ·rw[F7.out];exact(HJ.out.1.set HY.out).drew
       ·have h1:=U16s.setCell (pm:=vb) (i:=kx) (u:=Y y) HJ.out.2.1 (fun b o e _=>a8.out.2.2 y b o (Ji G1.out) e);exact(h1.below zr (Below.refl _ _).drew).mono zr Zs
       ·exact zR HJ.out.2.2 v5.out
      case measure=>have:=c5.out;simp[intOf];omega
     ·skip
      obtain rfl:j=bk.params.length:=by omega
      have f1:¬(bk.params.length:Int)<bk.params.length:=Zo;have l5:r7 (bk.params.take bk.params.length) (args1.take bk.params.length) v1=r7 bk.params args1 v1:=by rw[Nl,<-a8.out.2.1,Nl]
      have HQ:=HJ.out;rw[l5] at HQ;have ag:=K1 HQ.2.2;obtain⟨OR,u5q⟩:∃R,iq K.E (xW K.E r) bk.ops (r7 bk.params args1 v1) m1=R:=⟨_,rfl⟩
      have u9q:=Ja u5q;generalize s7:(#[.slice pa bk.params.length pc,.slice oa bk.ops.length oc,U bk.term.kind,U bk.term.a,.slice ta bk.term.to.length tc]:Array Value)=cs at *;have n2:=Ja s7;have q6:Hid (OpsQ K w wr r vb N b12 cs m1 (bk.ops.drop 0) OR):=⟨_,m1,HQ.1,HQ.2.2,Og _,u5q⟩
      clear HQ l5 HJ u5q s7 A6;go_wp2
      go_loopw [14] (fun jv wx=>∃j:Nat,j<=bk.ops.length/\jv=U j/\Hid (OpsQ K w wx r vb N b12 cs m1 (bk.ops.drop j) OR)) (fun jv _=>bk.ops.length-(intOf jv).toNat)
      case atStart=>exact⟨0,Jt _,rfl,q6⟩
      case round=>
       obtain⟨j,hj,rfl,HJ⟩:=hrel;obtain⟨v2,m2,d6,d,c7,d1⟩:=HJ.out;obtain⟨A2,ov2,h9⟩:=d6.mach;have g:=d;rw[<-n2.out] at g;have n5:=K1 g;have n8:=lt_of_block d;have f7:=h9.lt
       by_cases a1:j<bk.ops.length
       ·skip
        have f1:(j:Int)<bk.ops.length:=Zo;have c5:=Ja a1;obtain⟨o,ho⟩:∃o,bk.ops[j]? =some o:=⟨_,Jd a1⟩
        have l7:bk.ops.drop j=o::bk.ops.drop (j+1):=by rw[Qn a1];rw[Jd a1] at ho;rw[Nt ho]
        rw[l7,j7] at d1;obtain⟨b1,o1,rfl,c8,g0,g1,g2,g3,g4,s0,av3,g5,o0⟩:=u8q.out.2.1.get ho;obtain⟨xa,xc,rfl,_,_⟩:=o0.form;have b9:=Ja h9;have e5:=Ja d6;have D6:=Ja d;have k4:=Ja (Jb c7 d1);have A3:=Ja (Jb o0 s0);have HG:=Ja (Jb c8 (Jb g0 (Jb g1 (Jb g2 (Jb g3 (Jb g4 g5))))));have v0:=Ja (Jb (k0.out.1 o (Ji ho)) (j2.out.2.1 o (Ji ho)));clear d6 d c7 d1 o0 s0 l7 g0 g1 g2 g3 g4 g5 c8 a1 ho h9 g
        by_cases b7:m2.fuel<=0
        ·skip
         have a3:=k4.out.2;rw[if_pos b7] at a3;have c:=n3.out.1;rw[ru,f5.out,u9q.out,<-a3] at c;have c9:=Ja c;have d0:=Ja b7;clear a3 c b7;go_wp2_with (go_at_call 102;go_must (refine(a9 b9.out d0.out).mono ?_;rintro e w3 ⟨rfl,b5,b8⟩))
         go_ret;rw[<-c9.out];exact⟨rfl,⟨A2,ov2,m2.fuel-1,b5⟩,e5.out.frm.trans b8⟩
        ·skip
         have a3:=k4.out.2;rw[if_neg b7] at a3;have D4:=Ja a3;have d0:=Ja (show 0<m2.fuel by omega);clear a3 b7;go_upto_region 19 with(go_at_call 102;go_must (refine(bL b9.out d0.out).mono ?_;rintro e w3 ⟨rfl,b5,b8⟩))
         have l:=e5.out.step b5 b8;have d:=b8.kept _ _ D6.out (by simp[di]);have g:=d;rw[<-n2.out] at g;have C3:=K1 g;have C2:=lt_of_block d;have q0:=zV l.frm.below HG.out.1 HG.out.2.1;have q1:=zV l.frm.below HG.out.1 HG.out.2.2.1;have q2:=zV l.frm.below HG.out.1 HG.out.2.2.2.1;have q3:=zV l.frm.below HG.out.1 HG.out.2.2.2.2.1;have q4:=zV l.frm.below HG.out.1 HG.out.2.2.2.2.2.1;have q5:=zV l.frm.below HG.out.1 HG.out.2.2.2.2.2.2;have D7:b1<w3.heap.size:=Jw _ _ q0;have c1:=step_q b5 v3.out v0.out.1 A3.out.2 ((A3.out.1.below zO l.frm.below).mono zO (Qd b5.size)) l.row v0.out.2.1 (show r<=100 by omega) HC.out (by have:=b9.out.obd;have:=d0.out;simp only[Mach.pay];omega);unfold aam at c1;have a6:=Ja l;have G3:=Ja d;obtain⟨R3,u4q⟩:∃R,oV K.E (xW K.E r) o v2 m2.pay=R:=⟨_,rfl⟩
         have a3:=D4.out;rw[u4q] at c1 a3;have F9:=Ja u4q;clear l d b5 b8 n5 n8 f7 u4q g
         cases R3 with
         |ok x m4=>
          have u6q:=Ja c1;have s3:=pI (pO K.E r) F9.out;have HX:=Ja (Jb a3 s3);clear a3 s3 c1;go_upto_region 22 with(go_at_call 103;go_must (refine u6q.out.mono ?_;rintro e w4 ⟨he,⟨A1,ov4,b4⟩,e9,E1⟩;obtain rfl:e=.returned (Y x):=he))
          have a2:=a6.out.step b4 e9;have d:=e9.kept _ _ G3.out (by simp[di]);have g:=d;rw[<-n2.out] at g;have s121:=K1 g;have s12l:=lt_of_block d;have s1:=zV a2.frm.below HG.out.1 HG.out.2.2.1;have sbl:b1<w4.heap.size:=Jw _ _ s1;have s10:A w4 K.pm 10 (.bool false):=b4.c10;have slp:=b4.lt;have n4:=Ja d;have f4:=Ja a2;have B6:=Ja (show m4.fuel<=m1.fuel by have h1:=k4.out.1;have h2:=HX.out.2;simp only[Mach.pay] at h2;omega);have srow:=a2.row;clear a2 d g q0 q1 q2 q3 q4 q5 C3 C2 D7 b4 e9
          by_cases k9:0<=o.res
          ·have d3:=HX.out.1;have x3:=v0.out.2.2 k9;obtain⟨kr,r6⟩:∃kr:Nat,o.res=(kr:Int):=⟨o.res.toNat,by omega⟩
           rw[show iq K.E (xW K.E r) (bk.ops.drop (j+1)) (setV v2 o.res x) m4=iq K.E (xW K.E r) (bk.ops.drop (j+1)) (iY v2 (kr:Int) x) m4 by unfold setV;rw[if_pos k9,r6]] at d3;rw[r6] at s1 x3 k9;have v4:=Ja d3;have bw:(kr:Int)<(N:Int):=Zo;have sv:=srow.cell (k:=kr) Zo;have svf:=srow.free kr;have svl:=lt_of_block srow.1;have F5:=Ja E1;clear d3 x3 r6;go_wp2;go_roundw
           case rel=>exact⟨j+1,c5.out,by go_num,Ja ⟨_,m4,f4.out.set F5.out,zR n4.out v5.out,B6.out,v4.out⟩⟩
           case measure=>have:=c5.out;simp[intOf];omega
          ·have d3:=HX.out.1;unfold setV at d3;rw[if_neg k9] at d3;have v4:=Ja d3;clear d3;go_wp2;go_roundw
           case rel=>exact⟨j+1,c5.out,by go_num,Ja ⟨_,m4,f4.out,n4.out,B6.out,v4.out⟩⟩
           case measure=>have:=c5.out;simp[intOf];omega
         |trap k2 i2 m4=>
          have u6q:=Ja c1;have c:=n3.out.1;rw[ru,f5.out,u9q.out,<-a3] at c;have c9:=Ja c;clear a3 c c1;go_upto_region 22 with(go_at_call 103;go_must (refine u6q.out.mono ?_;rintro e w4 ⟨he,⟨A1,ov4,F2,b4⟩,e9⟩;obtain rfl:e=.returned (Y 0):=he))
          have s10:A w4 K.pm 10 (.bool true):=b4.c10;have slp:=b4.lt;have d9:=Ja (Jb b4 e9);clear b4 e9;go_wp2;go_ret;rw[<-c9.out];exact⟨rfl,⟨A1,ov4,F2,d9.out.1⟩,a6.out.frm.trans d9.out.2⟩
       ·skip
        obtain rfl:j=bk.ops.length:=by omega
        have f1:¬(bk.ops.length:Int)<bk.ops.length:=Zo;rw[List.drop_length] at d1;have c:=n3.out.1;rw[ru,f5.out,u9q.out,<-d1] at c;have u0q:(if m2.fuel<=0 then .trap 7 0 m2 else if bk.term.kind=4 then .ok (if bk.term.a=-1 then 0 else v2 bk.term.a) m2.pay else if bk.term.kind=5 then .trap 1 0 m2.pay else tJ K.E (xW K.E r) blocks n (wK bk.term (v2 bk.term.a)).block ((wK bk.term (v2 bk.term.a)).args.map v2) v2 m2.pay)=RES:=c;have b9:=Ja h9;have e5:=Ja d6;have B8:=Ja (Jb d c7);have v9:=Ja u0q;clear d1 c u0q d6 d c7 HJ h9 q6 g
        by_cases b7:m2.fuel<=0
        ·have c:=v9.out;rw[if_pos b7] at c;have c9:=Ja c;have d0:=Ja b7;clear c b7;go_wp2_with (go_at_call 102;go_must (refine(a9 b9.out d0.out).mono ?_;rintro e w3 ⟨rfl,b5,b8⟩))
         go_ret;rw[<-c9.out];exact⟨rfl,⟨A2,ov2,m2.fuel-1,b5⟩,e5.out.frm.trans b8⟩
        ·have c:=v9.out;rw[if_neg b7] at c;have k1:=Ja c;have d0:=Ja (show 0<m2.fuel by omega);clear c b7;go_upto_region 27 with(go_at_call 102;go_must (refine(bL b9.out d0.out).mono ?_;rintro e w3 ⟨rfl,b5,b8⟩))
         have s8:=e5.out.step b5 b8;have d:=b8.kept _ _ B8.out.1 (by simp[di]);rw[<-n2.out] at d;have q2:=K2 d;have q3:=K3 d;have q4:=K4 d;have C4:=lt_of_block d;have i0:=Ja b5;have D5:=Ja s8;clear s8 d b5 b8 n5 n8 f7;go_upto_region 30 with fail;have l:=D5.out.alloc (I #[U bk.term.kind,U bk.term.a,.slice ta bk.term.to.length tc] 82);have b4:=i0.out.keep ((Below.refl _ _).alloc (Je _) (I #[U bk.term.kind,U bk.term.a,.slice ta bk.term.to.length tc] 82));have d2:=zI (W:=w3) (o:=(I #[U bk.term.kind,U bk.term.a,.slice ta bk.term.to.length tc] 82)) rfl;generalize w3.alloc (I #[U bk.term.kind,U bk.term.a,.slice ta bk.term.to.length tc] 82)=W4 at *;generalize w3.heap.size=b18 at *;have q0:=K0 d2;have q1:=K1 d2;have w7:=K2 d2;have n7:=lt_of_block d2;have C8:=l.row.2 bk.term.a;have a6:=Ja l;have d9:=Ja b4;have an:=Ja d2;clear q2 q3 q4 C4 l b4 d2
         by_cases h5:bk.term.kind=5
         ·have c:=k1.out;rw[if_neg Zo,if_pos h5] at c;rw[h5] at q0;have c9:=Ja c;clear c h5;go_wp2_with (go_at_call 101;go_must (refine(ew d9.out 1 0).mono ?_;rintro e w5 ⟨rfl,m5,F1⟩))
          go_ret;rw[<-c9.out];exact pn.trap m5 (a6.out.frm.trans F1)
         ·have t5:(bk.term.kind==5)=false:=by rw[beq_eq_false_iff_ne];exact h5
          obtain⟨va,a0⟩:∃va:Nat,(if bk.term.kind=2∨bk.term.kind=3∨(bk.term.kind=4/\bk.term.a≠-1) then v2 bk.term.a else 0)=va:=⟨_,rfl⟩
          have k7:va<65536:=by rw[<-a0];split;exact C8;decide
          have f9:=k0.out.2.1.1;have e6:=j2.out.2.2;go_upto_region 34 with fail;obtain⟨q,t⟩:∃q:Bool,decide (bk.term.kind=2∨bk.term.kind=3∨(bk.term.kind=4/\bk.term.a≠-1))=q:=⟨_,rfl⟩
          have e7:q=true->0<=bk.term.a/\bk.term.a.toNat<N/\va=v2 bk.term.a:=fun e=>by
           rw[e,decide_eq_true_eq] at t;have:=e6 bk.term.a (by unfold mE ut;rcases t with h|h|⟨h,h2⟩<;>rw[h]<;>simp<;>omega);rw[if_pos t] at a0;exact⟨this.1,this.2,a0.symm⟩
          have d5:q=false->va=0:=fun e=>by
           rw[e,decide_eq_false_iff_not] at t;rw[if_neg t] at a0;exact a0.symm
          have A8:=Ja (Jb e7 d5)
          go_cut [157] (fun xv wx=>xv=.bool q/\wx=W4)
          case first=>
           have t3:(bk.term.kind=1/\q=false)∨(bk.term.kind=2/\q=true)∨(bk.term.kind=3/\q=true)∨(bk.term.kind=4/\bk.term.a=-1/\q=false)∨(bk.term.kind=4/\0<=bk.term.a/\q=true):=by
            rcases f9 with e|e|e|e|e
            ·exact .inl ⟨e,by rw[<-t];exact decide_eq_false Zo⟩
            ·exact .inr (.inl ⟨e,by rw[<-t];exact decide_eq_true Zo⟩)
            ·exact .inr (.inr (.inl ⟨e,by rw[<-t];exact decide_eq_true Zo⟩))
            ·by_cases ea:bk.term.a=-1
             ·exact .inr (.inr (.inr (.inl ⟨e,ea,by rw[<-t];exact decide_eq_false Zo⟩)))
             ·have x4:q=true:=by rw[<-t];exact decide_eq_true Zo
              exact .inr (.inr (.inr (.inr ⟨e,(e7 x4).1,x4⟩)))
            ·exact absurd e h5
           clear f9 e6 a0 h5 t5 e7 d5 t;rcases t3 with⟨e,e2⟩|⟨e,e2⟩|⟨e,e2⟩|⟨e,e3,e2⟩|⟨e,e3,e2⟩
           ·subst e2;rw[e] at q0;clear e;go_wp2;go_meet;exact⟨rfl,rfl⟩
           ·subst e2;rw[e] at q0;clear e;go_wp2;go_meet;exact⟨rfl,rfl⟩
           ·subst e2;rw[e] at q0;clear e;go_wp2;go_meet;exact⟨rfl,rfl⟩
           ·subst e2;rw[e] at q0;rw[e3] at q1;clear e e3;go_wp2;go_meet;exact⟨rfl,rfl⟩
           ·subst e2;rw[e] at q0;clear e;go_wp2;go_meet;exact⟨rfl,rfl⟩
          case rest=>
          obtain⟨rfl,rfl⟩:=hcut
          go_upto_if 157 with fail
          go_cut [19] (fun xv wx=>xv=Y va/\wx=wc)
          case first=>
           have u7q:=Ja a6.out.row;clear f9 e6 a0 h5 t5 e7 d5 t
           cases q with
           |false=>
            have e2:=A8.out.2 rfl;subst e2;go_wp2;go_meet
            exact⟨rfl,rfl⟩
           |true=>
            obtain⟨e3,e4,e2⟩:=A8.out.1 rfl;obtain⟨ka,y2⟩:∃ka:Nat,bk.term.a=(ka:Int):=⟨bk.term.a.toNat,by omega⟩
            rw[y2] at q1 e2;have F4:=u7q.out.cell (k:=ka) Zo;rw[<-e2] at F4;have H5:(ka:Int)<(N:Int):=Zo;have ap:=lt_of_block u7q.out.1;clear e2 e3 e4 y2;go_wp2;go_meet;exact⟨rfl,rfl⟩
          case rest=>
           obtain⟨rfl,rfl⟩:=hcut
           by_cases h4:bk.term.kind=4
           ·have c:=k1.out;rw[if_pos h4] at c
            have x0:(if bk.term.a=-1 then 0 else v2 bk.term.a)=va:=by
             rw[<-a0]
             by_cases ea:bk.term.a=-1
             ·rw[if_pos ea,if_neg Zo]
             ·rw[if_neg ea,if_pos Zo]
            rw[x0] at c;have c9:=Ja c;rw[h4] at q0;clear c h4 x0 a0 f9 e6 h5 t5 e7 d5 t;go_wp2;go_ret;rw[<-c9.out];exact pn.ok d9.out a6.out.frm k7
           ·generalize wc=W5 at *;have c:=k1.out;rw[if_neg h4,if_neg h5] at c;have l4:bk.term.kind=1∨bk.term.kind=2∨bk.term.kind=3:=Zo;have t4:(bk.term.kind==4)=false:=by rw[beq_eq_false_iff_ne];exact h4
            have c3:=k0.out.2.1
            have C9:1<=bk.term.to.length:=by
             rcases l4 with e|e|e
             ·exact c3.2.1 e
             ·have:=c3.2.2.1 e;omega
             ·exact c3.2.2.2.1 e
            have x2:ez bk.term (v2 bk.term.a)=ez bk.term va:=by
             unfold ez;rcases l4 with e|e|e
             ·rw[if_neg Zo,if_neg Zo,if_neg Zo,if_neg Zo]
             ·rw[if_pos Zo] at a0;rw[a0]
             ·rw[if_pos Zo] at a0;rw[a0]
            have d4:=lL c3 h4 h5 (v2 bk.term.a);have a5:=c3.2.2.2.2 _ d4;rw[cT,x2] at c d4 a5
            have p5:ez bk.term va<bk.term.to.length:=by
             unfold ez
             split
             ·have:=c3.2.2.1 Zo;omega
             ·split<;>omega
            have E4:bk.term.to.length<=2000000:=(B5.out.2.2 bk (by rw[<-f5.out];exact blkAt_in Zo)).2.2;have A5:=Ja (fun W=>taken_q W bk.term ta tc va k7 ⟨C9,E4⟩ l4);obtain⟨ti,p4⟩:∃ti,ez bk.term va=ti:=⟨_,rfl⟩
            rw[p4] at A5 c d4 a5 p5;obtain⟨x,k5⟩:∃x,bk.term.to[ti]? =some x:=⟨_,Jd p5⟩
            rw[show bk.term.to.getD ti ⟨0,[]⟩=x by rw[Jj,k5];rfl] at c d4 a5;obtain⟨b3,o3,rfl,a4,y6,G4,ev,z2,o4⟩:=u8q.out.2.2.1.get k5;obtain⟨ea,ec,rfl,_,_⟩:=o4.form
            have H2:x.args.length<=65536:=by
             rw[a5.2.2];have t:x.block=((x.block.toNat:Nat):Int):=Zo;rw[t];exact(B3.out _ (Ji (rh a5.2.1))).2.2
            have x1:∀y∈x.args,0<=y/\y.toNat<N:=fun y hy=>e6 y (by unfold mE;rw[Jl];right;exact List.mem_flatten.2 ⟨x.args,Nu.2 ⟨x,Ji k5,rfl⟩,hy⟩)
            have i8:=zV a6.out.frm.below a4 y6;have t2:=zV a6.out.frm.below a4 z2;have w8:b3<W5.heap.size:=Jw _ _ i8;have n1:=Ja (show ∀W:World,Below W5.heap.size W5 W->A W b18 0 (U bk.term.kind)/\A W b18 1 (U bk.term.a)/\A W b18 2 (.slice (some ⟨b3,o3,none⟩) bk.term.to.length tc)/\A W b3 (o3+ti*2) (U x.block)/\A W b3 (o3+ti*2+1) (.slice ea x.args.length ec) from fun W hb=>⟨zV hb n7 q0,zV hb n7 q1,zV hb n7 w7,zV hb w8 i8,zV hb w8 t2⟩);have G8:(ti:Int)<bk.term.to.length:=Zo;have i1:=Ja (Jb c (Jb a5 (Jb o4 x1)));clear c d4 a5 o4 x1 y6 z2 k5 p4 x2 c3 f9 e6 a0 h5 t5 h4 e7 d5 t a4 p5 l4 i8 t2;go_upto_region 38 with fail
            go_cut [20] (fun bv wx=>∃b20:Nat,bv=Q b20/\Hid (O wx b20 #[U x.block,.slice ea x.args.length ec] 79/\Below W5.heap.size W5 wx/\W5.heap.size<=b20))
            case first=>
             go_region_held3 (fun w'=>A w' b18 0 (U bk.term.kind)/\A w' b18 1 (U bk.term.a)/\A w' b18 2 (.slice (some ⟨b3,o3,none⟩) bk.term.to.length tc)/\A w' b3 (o3+ti*2) (U x.block)/\A w' b3 (o3+ti*2+1) (.slice ea x.args.length ec))
              ((refine n1.out _ ?_;repeat' (first|with_reducible exact Below.refl _ _|with_reducible assumption|with_reducible refine Below.drew ?_|with_reducible refine Below.alloc ?_ Zn _|with_reducible refine Below.setCell ?_ Zn _)))
              (first
                |(go_at_call 104
                  refine(A5.out _).mono ?_;rintro e y1 ⟨rfl,c8⟩;have f8:Below W5.heap.size W5 y1:=Below.trans Zb (c8.mono Zn);have bt:=f8.size
                  first|(have g6:O y1 W5.heap.size #[U 0,L] 79:=zH c8 (show(World.alloc W5 _).heap[W5.heap.size]? =_ from zI rfl) Zs;have e0:=zA (i:=0) g6 rfl;have e1:=zA (i:=1) g6 rfl;have ef:∀i,D y1 W5.heap.size i:=fun i=>zE g6;have el:=lt_of_block g6)|skip
                  clear c8))
             all_goals go_wp2_with fail
             all_goals go_meet
             all_goals first
              |exact⟨_,rfl,Ja ⟨zI rfl,f8.alloc f8.size _,f8.size⟩⟩
              |exact⟨_,rfl,Ja ⟨by have z0:=zD g6 (i:=0) (.int .i64 x.block);have z1:=zD z0 (i:=1) (.slice ea x.args.length ec);simpa using z1,(f8.setCell (Je _) _).setCell (Je _) _,Je _⟩⟩
            case rest=>
             obtain⟨b20,rfl,f6⟩:=hcut;have a2:=a6.out.keep f6.out.2.1;have C1:=K0 f6.out.1;have C0:=K1 f6.out.1;have w9:=lt_of_block f6.out.1;obtain⟨cf,ov5,m5⟩:=a2.mach;have cd:K.B<wc.heap.size:=m5.size;have G7:vb<wc.heap.size:=lt_of_block a2.row.1;have G0:=Ja (i1.out.2.2.1.below zO a2.frm.below);have f4:=Ja a2;clear a2 m5 n1 q0 q1 w7;generalize wc=W6 at *;go_wp2
             go_loopw [21,22] (fun rv kv wx=>∃k:Nat,k<=x.args.length/\kv=U k/\Hid (wx.ownsRow W6.heap.size 43 1 rv k ((uT v2 x.args k).map vL)/\Below W6.heap.size W6 wx)) (fun _ kv _=>x.args.length-(intOf kv).toNat)
             case atStart=>exact⟨0,Jt _,rfl,Ja ⟨Jv _ _ _ _,Below.refl _ _⟩⟩
             case round=>
              obtain⟨k6,ca,rfl,c2⟩:=hrel;obtain⟨ra,rc,rfl⟩:=zG c2.out.1;have c4:=f4.out.keep c2.out.2;have ad:=zV c2.out.2 w9 C0;have D2:=zV c2.out.2 w9 C1;have G9:=c2.out.2.size;have ab:b20<wr.heap.size:=Zo
              by_cases f2:k6<x.args.length
              ·skip
               have w1:(k6:Int)<x.args.length:=Zo;have v6:=Ja f2;obtain⟨y,hy⟩:∃y,x.args[k6]? =some y:=⟨_,Jd f2⟩
               obtain⟨b6,o6,rfl,E8,s6,G5⟩:=G0.out.get hy;rw[Nk] at s6;have cy:=zV c2.out.2 (show b6<W6.heap.size by omega) s6;have bg:b6<wr.heap.size:=Zo;have E2:=i1.out.2.2.2 y (Ji hy);have D3:=Ja (qH (v:=v2) hy);have H9:=pA (v:=v2) (show k6<=x.args.length by omega);obtain⟨ky,rfl⟩:∃ky:Nat,y=(ky:Int):=⟨y.toNat,by omega⟩
               have H3:(ky:Int)<(N:Int):=Zo;have ch:=c4.row.cell (k:=ky) Zo;have ao:=lt_of_block c4.row.1;have bq:=c4.row.2 (ky:Int);obtain⟨ii,E6,C7,C6,C5⟩:=info_parts Tryz.info_u16;clear hy s6 f2 c4 E8 E2;generalize v2 (ky:Int)=vy at *;go_wp2_with (at_builtin;go_must (refine wpList_append_lies _ rfl (.tmp 181) (.tmp 190) 48 rfl W6.heap.size 43 ii (Y 0) 1 2 Tryz.underlying48 E6 C7 C6 C5 rfl Zd _ k6 ((uT v2 x.args k6).map vL) rfl (c2.out.1.alloc _) ⟨wr.heap.size,0,none⟩ 1 1 [Y vy] rfl rfl (Oi (cs:=#[Y vy]) (zI Zs)) (by simp[Value.oneCell']) Zd (by unfold maxLen;omega) Zo Zt (wr.heap.size+1) Zs ?_;intro gq af w6 l0 g8 H8 f2;have A7:=Ja (Jb l0 g8);clear l0 g8))
               go_roundw
               case rel=>
                refine⟨k6+1,v6.out,by go_num,Ja ⟨?_,(c2.out.2.alloc Zo _).grown A7.out.2 Zt (fun k hk=>(c2.out.1.lt k hk).1)⟩⟩;rw[D3.out,Js];exact A7.out.1
               case measure=>have:=v6.out;simp[intOf];omega
              ·skip
               obtain rfl:k6=x.args.length:=by omega
               have w1:¬(x.args.length:Int)<x.args.length:=Zo;have f0:=c2.out.1;rw[r8] at f0;have o9:=ms f0 Zs (fun y hy=>by obtain⟨z,_,rfl⟩:=Nu.1 hy;exact c4.row.2 z);obtain⟨q,t⟩:∃q:Nat,x.block=(q:Int):=⟨x.block.toNat,by have:=i1.out.2.1.1;omega⟩
               rw[t] at D2;have m0:=i1.out.2.1;have j0:=i1.out.1;rw[t] at m0 j0
               have w0:Hid (HeadQ K w wr r n blocks vb N q ra x.args.length rc RES):=by
                refine⟨x.args.map v2,v2,m2.pay,c4,o9,?_,?_,?_,?_,j0⟩
                ·intro y b o _ e;have:=bK f0 (by rw[e]);omega
                ·rw[Nr];exact m0.2.2
                ·have:=m0.2.1;rw[Ni] at this;exact this
                ·have h1:=n3.out.2;have h2:=B8.out.2;have h3:=d0.out;simp only[Mach.pay];omega
               clear f0 o9 c4 m0 j0 t;go_wp2
               go_roundg n
               case measure=>omega
               case rel=>exact⟨q,ra,x.args.length,rc,rfl,rfl,w0⟩
theorem cN (K:MK)(hok:OkProg K.E.p)(hu:UseProg K.E.p):∀r,r<=100->cX K r
 |0,_=>br K hu
 |r+1,h=>ac7 K hok hu r h (cN K hok hu r Zo)
end Go.Proofs.YtoahcpkibpomcaaGreat
