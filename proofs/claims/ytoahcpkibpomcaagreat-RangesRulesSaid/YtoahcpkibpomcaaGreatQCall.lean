/- Part of a proof. -/
import Derived.Test.YtoahcpkibpomcaaGreatGZlh
set_option linter.all false
set_option maxHeartbeats 6400000
set_option maxRecDepth 100000
namespace Go.Proofs.YtoahcpkibpomcaaGreat
open Go.RowKit
theorem bX (p q:Int):∃x:Int,∀(ts:Array TypeId) (t:TypeId) (W:World),(Builtin.max_ ts t #[I p,I q]).run Tryz.prog W=.ok (I x) W:=⟨_,fun ts t W=>run_max_int2 ..⟩
theorem blkAt_in {blocks:List IBlk}{a:Nat}(h:a<blocks.length):xz blocks a∈blocks:=Ji (rh h)
def HeadQ (K:MK)(w0 wx:World)(r n:Nat)(blocks:List IBlk)(vb N:Nat)(at':Nat)(sa:Option Addr)(sn sc:Nat)(R:Res Nat):Prop:=
 ∃(args:List Nat) (v:Int->Nat) (m:Mach),CStQ K w0 wx m vb N v/\wV wx wx.heap.size (.slice sa sn sc) args/\(∀y b o,y∈args->sa=some ⟨b,o,none⟩->b≠vb)/\args.length=(xz blocks at').params.length/\at'<blocks.length/\m.fuel.toNat<n/\tJ K.E (xW K.E r) blocks n at' args v m=R
def OpsQ (K:MK)(w0 wx:World)(r:Nat)(vb N b12:Nat)(cs:Array Value)(m1:Mach)(os:List IOp)(R:Res (Int->Nat)):Prop:=
 ∃(v:Int->Nat) (m:Mach),CStQ K w0 wx m vb N v/\A wx b12 cs 84/\m.fuel<=m1.fuel/\iq K.E (xW K.E r) os v m=R
theorem mk_row (N:Nat)(c:N<=65536)(W:World):(Instr.makeSlice 48 (I N) (I N)).run Tryz.prog W=.ok (L W.heap.size N N) (W.alloc (G (madeCells #[M 0] N) 43)):=by
 have h:=run_make_row' (P:=Tryz.prog) 48 43 (M 0) 2 Tryz.underlying48 Tryz.info_u16 rfl .i64 .i64 N Zo Zo W;exact h
theorem br (K:MK)(hu:UseProg K.E.p):cX K 0:=by
 intro w m dp ov av f args h a7 j ha hl d0;obtain⟨aa,ac,rfl,_,_⟩:=ha.form;obtain⟨k,rfl⟩:∃k:Nat,f=(k:Int):=⟨f.toNat,by omega⟩
 have i:=h.prog.funcs;obtain⟨fa,fc,y,_,_⟩:=i.form;have c0:=h.c0;rw[y] at i c0;have a4:k<K.E.p.funcs.length:=Zo;obtain⟨blocks,o⟩:∃bl,K.E.p.funcs[k]? =some bl:=⟨_,Jd a4⟩
 obtain⟨fb,fo,rfl,a0,bv,l,q⟩:=i.get o;rw[Nk] at l;obtain⟨ba,bc,rfl,_,c4⟩:=q.form;have d2:(k:Int)<K.E.p.funcs.length:=Zo;obtain⟨dx,d3⟩:=bX dp 101;have b0:=hu.cnt blocks (Ji o);obtain⟨N,hN⟩:∃N:Nat,aaG blocks=(N:Int):=⟨(aaG blocks).toNat,by omega⟩
 have b3:N<=65536:=Zo;have x:=hu.sz blocks (Ji o);have c5:=h.lt;have c11:=h.c11;have b4:=h.free 11;have hB:=h.size;have c9:fb<w.heap.size:=Zo;have h1:=h.put 11 (I dx) (m':=m) (tr':=none) (dp':=dx) rfl rfl rfl h.obd h.fuel h.inp h.pol;have a1:=h.frm 11 (I dx);have H1:=Ja (Jb h1 a1);have d5:=Ja (Jb q x);have b8:=Ja a0
 have c1:=Ja (show ∀W,Below K.B w W->O 17 #[.agg #[.slice ba blocks.length bc]] W (pn W (N:Int)) from fun W hb=>by
  have:=jr (q.below yT hb) (Jn (Qd hB) hb.size) x;rw[hN] at this
  exact this)
 have b7:=Ja y;have hI:(100:Int)<101:=Zo;have a5:=zV (Below.refl _ _) a0 l;clear a0 h i y a4 a7 j q o ha hl hu h1 a1 b0 hN x a5;have d1:=mk_row N b3;go_enter Tryz.func47,Tryz.ntmps47;go_upto_region 4 with fail;generalize b2:w.setCell ⟨K.pm,11,none⟩ (I dx)=W1 at *;clear b2 c11 b4;go_upto_region 7 with(go_at_call 101;go_must (refine(ew H1.out.1 5 0).mono ?_;rintro e w2 ⟨rfl,g,j⟩))
 have b1:=g.c0;rw[b7.out] at b1;have c8:=g.lt;have t:=H1.out.2.trans j;have c3:=zV t.below b8.out l;have c2:fb<w2.heap.size:=by have:=t.below.size;omega
 have u:=Ja (Jb g t);clear g j t c0 l;go_upto_region 8 with(go_at_call 17;go_must (refine(c1.out _ u.out.2.below).mono ?_;rintro e w3 ⟨rfl,a2⟩;have d:=u.out.1.keep a2;have b5:=d.c10;have a6:=d.lt;have a3:=Ja (Jb d (u.out.2.trans (FrmQ.ofBelow a2 (Qd u.out.1.size))));clear d a2))
 have c:=a3.out.1.keep ((Below.refl _ _).alloc (Je _) (G (madeCells #[M 0] N) 43));have b9:=Ja (a3.out.2.trans ((FrmQ.refl K.B w3).alloc (Qd a3.out.1.size) (G (madeCells #[M 0] N) 43)));have d4:=c.c10;have c7:=c.lt;have b6:=Ja c;clear c b5 a6;generalize w3.alloc (G (madeCells #[M 0] N) 43)=w4 at *;generalize w3.heap.size=vb at *;go_wp2
 go_loopw [11] (fun _ wx=>wx=w4) (fun _ _=>0)
 case atStart=>rfl
 case round=>
  subst hrel;go_wp2;go_ret;exact vh.trap b6.out b9.out
theorem U16s.setCell {w:World}{B:Nat}{a:Option Addr}{n c pm i:Nat}{u:Value}{xs:List Nat}(h:wV w B (.slice a n c) xs)(d:∀b o,a=some ⟨b,o,none⟩->xs≠ []->b≠pm):wV (w.setCell ⟨pm,i,none⟩ u) B (.slice a n c) xs:=by
 obtain⟨a',m,e,h1,h2,h3⟩:=h;cases e;refine⟨a,c,rfl,h1,h2,fun k x hk=>?_⟩;obtain⟨b,o,f,l,j,g⟩:=h3 k x hk;refine⟨b,o,f,l,?_,g⟩;have:=d b o f (by rintro rfl;simp at hk);rw[<-j];exact Oo (Below.heap_setCell _ _ _ _ (by show b≠pm;exact this))
theorem CStQ.drew {K:MK}{w0 w:World}{m:Mach}{vb N:Nat}{v:Int->Nat}(h:CStQ K w0 w m vb N v):CStQ K w0 w.drew m vb N v:=h.keep (Below.refl _ _).drew
theorem ac7 (K:MK)(z4:OkProg K.E.p)(hu:UseProg K.E.p)(r:Nat)(hr:r+1<=100)(hC:cX K r):cX K (r+1):=by
 intro w m dp ov av f args h F7 c7 ha hl z5;obtain⟨aa,ac,rfl,_,_⟩:=ha.form;obtain⟨k,rfl⟩:∃k:Nat,f=(k:Int):=⟨f.toNat,by omega⟩
 have m0:=h.prog.funcs;obtain⟨fa,fc,u0,_,_⟩:=m0.form;have c0:=h.c0;rw[u0] at m0 c0;have z9:k<K.E.p.funcs.length:=Zo;obtain⟨blocks,d7⟩:∃bl,K.E.p.funcs[k]? =some bl:=⟨_,Jd z9⟩
 obtain⟨fb,fo,rfl,A4,bv,g9,n1⟩:=m0.get d7;rw[Nk] at g9;obtain⟨ba,bc,rfl,_,an⟩:=n1.form;have A2:K.E.p.funcs.getD (k:Int).toNat []=blocks:=by rw[Ni,Jj,d7];rfl
 have ch:(k:Int)<K.E.p.funcs.length:=Zo;have u3:(101-((r+1:Nat):Int))=100-(r:Int):=Zo;have ck:¬(100:Int)<100-(r:Int):=Zo;obtain⟨dx,cj⟩:=bX dp (100-(r:Int));have b0:=hu.cnt blocks (Ji d7);obtain⟨N,hN⟩:∃N:Nat,aaG blocks=(N:Int):=⟨(aaG blocks).toNat,by omega⟩
 have G0:N<=65536:=Zo;have s4:=hu.sz blocks (Ji d7);have r6:=hu.blk blocks (Ji d7);rw[show(aaG blocks).toNat=N by omega] at r6
 have r3:xW K.E (r+1) k args m=if blocks.isEmpty then .trap 8 ((k:Int)%65536).toNat m else tJ K.E (xW K.E r) blocks (m.fuel.toNat+1) 0 args (fun _=>0) m:=by
  show(if(K.E.p.funcs.getD (k:Int).toNat []).isEmpty then _ else _)=_
  rw[A2]
 have bp:=h.lt;have c11:=h.c11;have B0:=h.free 11;have hB:=h.size;have bt:fb<w.heap.size:=Zo;have h1:=h.put 11 (I dx) (m':=m) (tr':=none) (dp':=dx) rfl rfl rfl h.obd h.fuel h.inp h.pol;have u2:=h.frm 11 (I dx);have A8:=U16s.setCell (i:=11) (u:=I dx) ha (fun b o e hn=>z5 b o _ _ (by rw[e]) hn);have H1:=Ja (Jb h1 (Jb u2 (Jb A8 hl)));have C5:=Ja (Jb n1 s4);have C0:=Ja A4
 have C1:=Ja (show ∀W,Below K.B w W->O 17 #[.agg #[.slice ba blocks.length bc]] W (pn W (N:Int)) from fun W hb=>by
  have:=jr (n1.below yT hb) (Jn (Qd hB) hb.size) s4;rw[hN] at this
  exact this)
 have B9:=Ja u0;have HC:=Ja hC;have x3:=Ja z4;have C4:=Ja d7;have G6:=Ja r6;have bi:=Ja (h.fuel.2.2 rfl);rw[u3];have B4:=Ja r3;have cf:=mk_row N G0;clear h m0 u0 z9 F7 c7 A2 n1 hC z4 d7 ha hl z5 u3 r3 hu h1 u2 b0 hN s4 r6 A4 A8
 by_cases h6:blocks.length=0
 ·have t1:((blocks.length:Int)==0)=true:=by rw[beq_iff_eq];omega
  have EE:=Ja (show xW K.E (r+1) k args m=.trap 8 ((k:Int)%65536).toNat m by rw[B4.out,if_pos (by rw[List.isEmpty_iff];exact Nz h6)]);obtain⟨q,t⟩:∃q:Nat,((k:Int)%65536).toNat=q:=⟨_,rfl⟩
  have cb:IntKind.u16.wrap (k:Int)=(q:Int):=by rw[xY];omega
  rw[t] at EE;clear h6 t;go_enter Tryz.func47,Tryz.ntmps47;go_upto_region 5 with fail;generalize h9:w.setCell ⟨K.pm,11,none⟩ (I dx)=W1 at *;clear h9 c11 B0;go_upto_region 7 with(go_at_call 101;go_must (refine(ew H1.out.1 8 q).mono ?_;rintro e w2 ⟨rfl,l6,c7⟩))
  have m8:=l6.c0;rw[B9.out] at m8;have f8:=l6.lt;have n7:=H1.out.2.1.trans c7;have v5:=zV n7.below C0.out g9;have p4:fb<w2.heap.size:=by have:=n7.below.size;omega
  have b9:=Ja (Jb l6 n7);clear l6 c7 n7 c0 g9;go_upto_region 8 with(go_at_call 17;go_must (refine(C1.out _ b9.out.2.below).mono ?_;rintro e w3 ⟨rfl,a4⟩;have l4:=b9.out.1.keep a4;have G3:=l4.c10;have E8:=l4.lt;have i1:=Ja (Jb l4 (b9.out.2.trans (FrmQ.ofBelow a4 (Qd b9.out.1.size))));clear l4 a4))
  have l3:=i1.out.1.keep ((Below.refl _ _).alloc (Je _) (G (madeCells #[M 0] N) 43));have H3:=Ja (i1.out.2.trans ((FrmQ.refl K.B w3).alloc (Qd i1.out.1.size) (G (madeCells #[M 0] N) 43)));have A9:=l3.c10;have bq:=l3.lt;have d9:=Ja l3;clear l3 G3 E8;generalize w3.alloc (G (madeCells #[M 0] N) 43)=w4 at *;generalize w3.heap.size=vb at *;go_wp2
  go_loopw [11] (fun _ wx=>wx=w4) (fun _ _=>0)
  case atStart=>rfl
  case round=>
   subst hrel;go_wp2;go_ret;rw[EE.out];exact vh.trap d9.out H3.out
 ·have t1:((blocks.length:Int)==0)=false:=Ze;have EE:=Ja (show xW K.E (r+1) k args m=tJ K.E (xW K.E r) blocks (m.fuel.toNat+1) 0 args (fun _=>0) m by rw[B4.out,if_neg (by rw[List.isEmpty_iff];intro e;exact h6 (by rw[e];rfl))]);obtain⟨RES,k0⟩:∃R,xW K.E (r+1) k args m=R:=⟨_,rfl⟩
  rw[k0];have C3:=Ja (show ∀b∈blocks,OkBlk K.E.p blocks b from x3.out.blk blocks (Ji C4.out));have C7:=Ja h6;have G8:=Ja k0;clear h6 k0;go_enter Tryz.func47,Tryz.ntmps47;go_upto_region 5 with fail;generalize h9:w.setCell ⟨K.pm,11,none⟩ (I dx)=W1 at *;clear h9 c11 B0;go_upto_region 7 with fail;have m8:=H1.out.1.c0;rw[B9.out] at m8;have f8:=H1.out.1.lt;have v5:=zV H1.out.2.1.below C0.out g9;have p4:fb<W1.heap.size:=by have:=H1.out.2.1.below.size;omega
  clear c0 g9;go_upto_region 8 with(go_at_call 17;go_must (refine(C1.out _ H1.out.2.1.below).mono ?_;rintro e w3 ⟨rfl,a4⟩))
  have h7:Q W1 (w3.alloc (G (madeCells #[M 0] N) 43)):=a4.alloc a4.size _
  have s6:Hid (HeadQ K w (w3.alloc (G (madeCells #[M 0] N) 43)) r (m.fuel.toNat+1) blocks w3.heap.size N 0 aa args.length ac RES):=by
   have ad:W1.heap.size=w.heap.size∨w.heap.size<=W1.heap.size:=.inr H1.out.2.1.below.size;refine⟨args,fun _=>0,m,⟨⟨dx,ov,H1.out.1.keep h7⟩,H1.out.2.1.trans (FrmQ.ofBelow h7 (Qd H1.out.1.size)),dA.made (zI rfl),Jn H1.out.2.1.below.size a4.size,hB⟩,?_,?_,?_,by have:=C7.out;omega,by omega,?_⟩
   ·exact(H1.out.2.2.1.below zr (h7.mono H1.out.2.1.below.size)).mono zr (Jn H1.out.2.1.below.size h7.size)
   ·intro y b o hy e;obtain⟨j,hj⟩:=Ny hy;obtain⟨b',o',e',z7,_⟩:=H1.out.2.2.1.get hj;rw[e] at e';cases e';have:=H1.out.2.1.below.size;have:=a4.size;omega
   ·obtain⟨b,bs,rfl⟩:∃b bs,blocks=b::bs:=by
     cases blocks with
     |nil=>exact absurd rfl C7.out
     |cons b bs=>exact⟨b,bs,rfl⟩
    have h1:=x3.out.par k b bs C4.out;have h2:=H1.out.2.2.2;rw[Ni] at h2
    show args.length=b.params.length
    omega
   ·rw[<-G8.out,EE.out];rfl
  generalize w3.alloc (G (madeCells #[M 0] N) 43)=w4 at *;generalize w3.heap.size=vb at *;generalize E0:m.fuel.toNat+1=gas at s6;clear E0 a4 h7 f8 m8 v5 p4;go_wp2
  go_loopg [2,11] gas (fun n sv atv wx=>∃(at':Nat) (sa:Option Addr) (sn sc:Nat),sv=.slice sa sn sc/\atv=I at'/\Hid (HeadQ K w wx r n blocks vb N at' sa sn sc RES))
  case atStart=>exact⟨0,aa,args.length,ac,rfl,rfl,s6⟩
  case round=>
   obtain⟨at',sa,sn,sc,rfl,rfl,HS⟩:=hrel
   cases gk with
   |zero=>obtain⟨_,_,m1,_,_,_,_,_,z7,_⟩:=HS.out;exact absurd z7 (Nat.not_lt_zero _)
   |succ n=>
    obtain⟨args1,v1,m1,b0,f3,s7,A7,n3,A3,c⟩:=HS.out;obtain⟨sa',sc',e1,_,_⟩:=f3.form;cases e1;have E1:=C5.out.1.get (rh n3);have t3:=C3.out _ (Ji (rh n3));have r5:=G6.out _ (Ji (rh n3));generalize v8:xz blocks at'=bk at *;have f5:=Ja v8;obtain⟨bb,bo,rfl,d8,k2,k3,A0,pv,ov1,tv,kp,ko,kt,s9,t2,s0⟩:=E1;have k2:=zV b0.frm.below d8 k2;have k3:=zV b0.frm.below d8 k3;have kp:=zV b0.frm.below d8 kp;have ko:=zV b0.frm.below d8 ko;have kt:=zV b0.frm.below d8 kt;have F0:bb<wr.heap.size:=by have:=b0.gb;have:=b0.frm.below.size;omega
    obtain⟨pa,pc,rfl,_,_⟩:=s9.form;obtain⟨oa,oc,rfl,_,_⟩:=t2.form;obtain⟨ta,tc,rfl,_,_⟩:=s0.form;have ao:(at':Int)<blocks.length:=Zo;obtain⟨co,ov0,t6⟩:=b0.mach;have A9:T wr K.pm 10 (.bool false):=t6.c10;have E9:=t6.lt;have C2:=Ja b0;have a7:=Ja (Jb f3 (Jb A7 s7));have p0:=Ja (Jb c A3);have k4:=Ja t3;have k1:=Ja r5;have x0:=Ja (Jb s9 (Jb t2 (Jb s0 A0)));clear s6 HS b0 f3 A7 s7 A3 c t3 r5 v8 s9 t2 s0 A0 n3 t6;go_upto_region 11 with fail;have u8:=C2.out.alloc (G #[.slice pa bk.params.length pc,.slice oa bk.ops.length oc,I bk.term.kind,I bk.term.a,.slice ta bk.term.to.length tc] 84);have d:=zI (W:=wr) (o:=G #[.slice pa bk.params.length pc,.slice oa bk.ops.length oc,I bk.term.kind,I bk.term.a,.slice ta bk.term.to.length tc] 84) rfl;have h8:=(a7.out.1.below zr ((Below.refl _ _).alloc (Je _) (G #[.slice pa bk.params.length pc,.slice oa bk.ops.length oc,I bk.term.kind,I bk.term.a,.slice ta bk.term.to.length tc] 84))).mono zr (B':=(wr.alloc (G #[.slice pa bk.params.length pc,.slice oa bk.ops.length oc,I bk.term.kind,I bk.term.a,.slice ta bk.term.to.length tc] 84)).heap.size) Zs;have z6:wr.heap.size≠vb:=by have:=lt_of_block C2.out.row.1;omega
    generalize h9:wr.alloc (G #[.slice pa bk.params.length pc,.slice oa bk.ops.length oc,I bk.term.kind,I bk.term.a,.slice ta bk.term.to.length tc] 84)=W2 at *;generalize wr.heap.size=b12 at *;have x5:=Ja z6;have B6:=Ja (show CStQ K w W2 m1 vb N v1/\wV W2 W2.heap.size (.slice sa args1.length sc) args1/\A W2 b12 #[.slice pa bk.params.length pc,.slice oa bk.ops.length oc,I bk.term.kind,I bk.term.a,.slice ta bk.term.to.length tc] 84 from⟨u8,h8,d⟩);clear h9 u8 h8 d k2 k3 kp ko kt F0 A9 E9 z6;go_wp2
    go_loopw [13] (fun jv wx=>∃j:Nat,j<=bk.params.length/\jv=I j/\Hid (CStQ K w wx m1 vb N (r7 (bk.params.take j) (args1.take j) v1)/\wV wx wx.heap.size (.slice sa args1.length sc) args1/\A wx b12 #[.slice pa bk.params.length pc,.slice oa bk.ops.length oc,I bk.term.kind,I bk.term.a,.slice ta bk.term.to.length tc] 84)) (fun jv _=>bk.params.length-(intOf jv).toNat)
    case atStart=>exact⟨0,Jt _,rfl,B6⟩
    case round=>
     obtain⟨j,hj,rfl,HJ⟩:=hrel;have C9:=K0 HJ.out.2.2;have bz:=lt_of_block HJ.out.2.2
     by_cases a1:j<bk.params.length
     ·skip
      have f1:(j:Int)<bk.params.length:=Zo;have c5:=Ja a1;obtain⟨x,hx⟩:∃x,bk.params[j]? =some x:=⟨_,Jd a1⟩
      obtain⟨y,hy⟩:∃y,args1[j]? =some y:=⟨_,Jd (by rw[a7.out.2.1];exact a1)⟩
      obtain⟨b1,o1,rfl,c8,v4,H7⟩:=x0.out.1.get hx;rw[Nk] at v4;have cp:=zV HJ.out.1.frm.below c8 v4;obtain⟨b2,o2,rfl,F9,v3,r0⟩:=HJ.out.2.1.get hy;rw[Nk] at v3;have ca:(j:Int)<args1.length:=by have:=a7.out.2.1;omega
      have s8:=qq (bk.params.take j) (args1.take j) v1 x y (by have:=a7.out.2.1;rw[Oc,Oc];omega);have e1:bk.params.take (j+1)=bk.params.take j++ [x]:=by rw[Nh,hx];rfl
      have e2:args1.take (j+1)=args1.take j++ [y]:=by rw[Nh,hy];rfl
      rw[<-e1,<-e2] at s8;have F3:=k1.out.1 x (Ji hx);have v9:=a7.out.2.2 y b2 o2 (Ji hy) rfl;obtain⟨kx,rfl⟩:∃kx:Nat,x=(kx:Int):=⟨x.toNat,by omega⟩
      have t7:kx<N:=Zo;have al:(kx:Int)<(N:Int):=Zo;have G7:=Ja s8;have w0:b1≠vb:=by have:=HJ.out.1.new;have:=HJ.out.1.gb;omega
      have o0:=Ja (show ∀W:World,(∀k,k≠vb->W.heap[k]? =wr.heap[k]?)->T W b12 0 (.slice (some ⟨b1,o1,none⟩) bk.params.length pc)/\T W b1 (o1+j) (I kx)/\T W b2 (o2+j) (M y) from fun W hW=>⟨(Oo (hW b12 x5.out)).trans C9,(Oo (hW b1 w0)).trans cp,(Oo (hW b2 v9)).trans v3⟩);have bx:b1<wr.heap.size:=Jw _ _ cp;have bw:b2<wr.heap.size:=Jw _ _ v3;have cv:=HJ.out.1.row.cell t7;have fv:=HJ.out.1.row.free kx;have lv:=lt_of_block HJ.out.1.row.1;have HY:=Ja r0;have H2:=Ja hy;clear hx hy v4 s8 e1 e2 c8 a1 F3 v9 t7 w0 r0 F9;go_upto_region 14 with fail
      go_region_held3 (fun w'=>T w' b12 0 (.slice (some ⟨b1,o1,none⟩) bk.params.length pc)/\T w' b1 (o1+j) (I kx)/\T w' b2 (o2+j) (M y))
       ((refine o0.out _ ?_;rintro k F5;repeat' (first|(rw[Below.heap_setCell _ _ _ _ (by show k≠vb;exact F5)])|(rw[show ∀v:World,v.drew.heap=v.heap from fun _=>rfl])|exact rfl)))
       (fail)
      all_goals go_wp2_with fail
      all_goals go_roundw
      case rel=>
       refine⟨j+1,c5.out,by go_num,Ja ⟨?_,?_,?_⟩⟩
       ·rw[G7.out];exact(HJ.out.1.set HY.out).drew
       ·have h1:=U16s.setCell (pm:=vb) (i:=kx) (u:=M y) HJ.out.2.1 (fun b o e _=>a7.out.2.2 y b o (Ji H2.out) e);exact(h1.below zr (Below.refl _ _).drew).mono zr Zs
       ·exact zR HJ.out.2.2 x5.out
      case measure=>have:=c5.out;simp[intOf];omega
     ·skip
      obtain rfl:j=bk.params.length:=by omega
      have f1:¬(bk.params.length:Int)<bk.params.length:=Zo;have l9:r7 (bk.params.take bk.params.length) (args1.take bk.params.length) v1=r7 bk.params args1 v1:=by rw[Nl,<-a7.out.2.1,Nl]
      have HQ:=HJ.out;rw[l9] at HQ;have bh:=K1 HQ.2.2;obtain⟨OR,w7⟩:∃R,iq K.E (xW K.E r) bk.ops (r7 bk.params args1 v1) m1=R:=⟨_,rfl⟩
      have x1:=Ja w7;generalize u5:(#[.slice pa bk.params.length pc,.slice oa bk.ops.length oc,I bk.term.kind,I bk.term.a,.slice ta bk.term.to.length tc]:Array Value)=cs at *;have o9:=Ja u5;have s5:Hid (OpsQ K w wr r vb N b12 cs m1 (bk.ops.drop 0) OR):=⟨_,m1,HQ.1,HQ.2.2,Og _,w7⟩
      clear HQ l9 HJ w7 u5 B6;go_wp2
      go_loopw [14] (fun jv wx=>∃j:Nat,j<=bk.ops.length/\jv=I j/\Hid (OpsQ K w wx r vb N b12 cs m1 (bk.ops.drop j) OR)) (fun jv _=>bk.ops.length-(intOf jv).toNat)
      case atStart=>exact⟨0,Jt _,rfl,s5⟩
      case round=>
       obtain⟨j,hj,rfl,HJ⟩:=hrel;obtain⟨v2,m2,d6,d,c7,d1⟩:=HJ.out;obtain⟨B2,ov2,i0⟩:=d6.mach;have g:=d;rw[<-o9.out] at g;have p3:=K1 g;have q9:=lt_of_block d;have f8:=i0.lt
       by_cases a1:j<bk.ops.length
       ·skip
        have f1:(j:Int)<bk.ops.length:=Zo;have c5:=Ja a1;obtain⟨o,ho⟩:∃o,bk.ops[j]? =some o:=⟨_,Jd a1⟩
        have m3:bk.ops.drop j=o::bk.ops.drop (j+1):=by rw[Qn a1];rw[Jd a1] at ho;rw[Nt ho]
        rw[m3,j7] at d1;obtain⟨b1,o1,rfl,c8,g0,g1,g2,g3,g4,t9,av3,g5,r1⟩:=x0.out.2.1.get ho;obtain⟨xa,xc,rfl,_,_⟩:=r1.form;have b9:=Ja i0;have e5:=Ja d6;have E6:=Ja d;have k7:=Ja (Jb c7 d1);have B3:=Ja (Jb r1 t9);have HG:=Ja (Jb c8 (Jb g0 (Jb g1 (Jb g2 (Jb g3 (Jb g4 g5))))));have x2:=Ja (Jb (k4.out.1 o (Ji ho)) (k1.out.2.1 o (Ji ho)));clear d6 d c7 d1 r1 t9 m3 g0 g1 g2 g3 g4 g5 c8 a1 ho i0 g
        by_cases b7:m2.fuel<=0
        ·skip
         have a3:=k7.out.2;rw[if_pos b7] at a3;have c:=p0.out.1;rw[ru,f5.out,x1.out,<-a3] at c;have c9:=Ja c;have d0:=Ja b7;clear a3 c b7;go_wp2_with (go_at_call 102;go_must (refine(a9 b9.out d0.out).mono ?_;rintro e w3 ⟨rfl,b5,b8⟩))
         go_ret;rw[<-c9.out];exact⟨rfl,⟨B2,ov2,m2.fuel-1,b5⟩,e5.out.frm.trans b8⟩
        ·skip
         have a3:=k7.out.2;rw[if_neg b7] at a3;have E4:=Ja a3;have d0:=Ja (show 0<m2.fuel by omega);clear a3 b7;go_upto_region 19 with(go_at_call 102;go_must (refine(bL b9.out d0.out).mono ?_;rintro e w3 ⟨rfl,b5,b8⟩))
         have l:=e5.out.step b5 b8;have d:=b8.kept _ _ E6.out (by simp[di]);have g:=d;rw[<-o9.out] at g;have D3:=K1 g;have D2:=lt_of_block d;have q0:=zV l.frm.below HG.out.1 HG.out.2.1;have q1:=zV l.frm.below HG.out.1 HG.out.2.2.1;have q2:=zV l.frm.below HG.out.1 HG.out.2.2.2.1;have q3:=zV l.frm.below HG.out.1 HG.out.2.2.2.2.1;have q4:=zV l.frm.below HG.out.1 HG.out.2.2.2.2.2.1;have q5:=zV l.frm.below HG.out.1 HG.out.2.2.2.2.2.2;have E7:b1<w3.heap.size:=Jw _ _ q0;have c1:=step_q b5 x3.out x2.out.1 B3.out.2 ((B3.out.1.below zO l.frm.below).mono zO (Qd b5.size)) l.row x2.out.2.1 (show r<=100 by omega) HC.out (by have:=b9.out.obd;have:=d0.out;simp only[Mach.pay];omega);unfold aam at c1;have a6:=Ja l;have H4:=Ja d;obtain⟨R3,w1⟩:∃R,oV K.E (xW K.E r) o v2 m2.pay=R:=⟨_,rfl⟩
         have a3:=E4.out;rw[w1] at c1 a3;have G9:=Ja w1;clear l d b5 b8 p3 q9 f8 w1 g
         cases R3 with
         |ok x m4=>
          have w8:=Ja c1;have u1:=pI (pO K.E r) G9.out;have HX:=Ja (Jb a3 u1);clear a3 u1 c1;go_upto_region 22 with(go_at_call 103;go_must (refine w8.out.mono ?_;rintro e w4 ⟨he,⟨B1,ov4,b4⟩,e8,F1⟩;obtain rfl:e=.returned (M x):=he))
          have a2:=a6.out.step b4 e8;have d:=e8.kept _ _ H4.out (by simp[di]);have g:=d;rw[<-o9.out] at g;have s121:=K1 g;have s12l:=lt_of_block d;have s1:=zV a2.frm.below HG.out.1 HG.out.2.2.1;have sbl:b1<w4.heap.size:=Jw _ _ s1;have s10:T w4 K.pm 10 (.bool false):=b4.c10;have slp:=b4.lt;have p1:=Ja d;have f4:=Ja a2;have C6:=Ja (show m4.fuel<=m1.fuel by have h1:=k7.out.1;have h2:=HX.out.2;simp only[Mach.pay] at h2;omega);have srow:=a2.row;clear a2 d g q0 q1 q2 q3 q4 q5 D3 D2 E7 b4 e8
          by_cases l1:0<=o.res
          ·have d3:=HX.out.1;have z2:=x2.out.2.2 l1;obtain⟨kr,t8⟩:∃kr:Nat,o.res=(kr:Int):=⟨o.res.toNat,by omega⟩
           rw[show iq K.E (xW K.E r) (bk.ops.drop (j+1)) (setV v2 o.res x) m4=iq K.E (xW K.E r) (bk.ops.drop (j+1)) (iY v2 (kr:Int) x) m4 by unfold setV;rw[if_pos l1,t8]] at d3;rw[t8] at s1 z2 l1;have x4:=Ja d3;have cg:(kr:Int)<(N:Int):=Zo;have sv:=srow.cell (k:=kr) Zo;have svf:=srow.free kr;have svl:=lt_of_block srow.1;have G5:=Ja F1;clear d3 z2 t8;go_wp2;go_roundw
           case rel=>exact⟨j+1,c5.out,by go_num,Ja ⟨_,m4,f4.out.set G5.out,zR p1.out x5.out,C6.out,x4.out⟩⟩
           case measure=>have:=c5.out;simp[intOf];omega
          ·have d3:=HX.out.1;unfold setV at d3;rw[if_neg l1] at d3;have x4:=Ja d3;clear d3;go_wp2;go_roundw
           case rel=>exact⟨j+1,c5.out,by go_num,Ja ⟨_,m4,f4.out,p1.out,C6.out,x4.out⟩⟩
           case measure=>have:=c5.out;simp[intOf];omega
         |trap k2 i2 m4=>
          have w8:=Ja c1;have c:=p0.out.1;rw[ru,f5.out,x1.out,<-a3] at c;have c9:=Ja c;clear a3 c c1;go_upto_region 22 with(go_at_call 103;go_must (refine w8.out.mono ?_;rintro e w4 ⟨he,⟨B1,ov4,G2,b4⟩,e8⟩;obtain rfl:e=.returned (M 0):=he))
          have s10:T w4 K.pm 10 (.bool true):=b4.c10;have slp:=b4.lt;have d9:=Ja (Jb b4 e8);clear b4 e8;go_wp2;go_ret;rw[<-c9.out];exact⟨rfl,⟨B1,ov4,G2,d9.out.1⟩,a6.out.frm.trans d9.out.2⟩
       ·skip
        obtain rfl:j=bk.ops.length:=by omega
        have f1:¬(bk.ops.length:Int)<bk.ops.length:=Zo;rw[List.drop_length] at d1;have c:=p0.out.1;rw[ru,f5.out,x1.out,<-d1] at c;have v6:(if m2.fuel<=0 then .trap 7 0 m2 else if bk.term.kind=4 then .ok (if bk.term.a=-1 then 0 else v2 bk.term.a) m2.pay else if bk.term.kind=5 then .trap 1 0 m2.pay else tJ K.E (xW K.E r) blocks n (wK bk.term (v2 bk.term.a)).block ((wK bk.term (v2 bk.term.a)).args.map v2) v2 m2.pay)=RES:=c;have b9:=Ja i0;have e5:=Ja d6;have C8:=Ja (Jb d c7);have x7:=Ja v6;clear d1 c v6 d6 d c7 HJ i0 s5 g
        by_cases b7:m2.fuel<=0
        ·have c:=x7.out;rw[if_pos b7] at c;have c9:=Ja c;have d0:=Ja b7;clear c b7;go_wp2_with (go_at_call 102;go_must (refine(a9 b9.out d0.out).mono ?_;rintro e w3 ⟨rfl,b5,b8⟩))
         go_ret;rw[<-c9.out];exact⟨rfl,⟨B2,ov2,m2.fuel-1,b5⟩,e5.out.frm.trans b8⟩
        ·have c:=x7.out;rw[if_neg b7] at c;have k5:=Ja c;have d0:=Ja (show 0<m2.fuel by omega);clear c b7;go_upto_region 27 with(go_at_call 102;go_must (refine(bL b9.out d0.out).mono ?_;rintro e w3 ⟨rfl,b5,b8⟩))
         have u6:=e5.out.step b5 b8;have d:=b8.kept _ _ C8.out.1 (by simp[di]);rw[<-o9.out] at d;have q2:=K2 d;have q3:=K3 d;have q4:=K4 d;have D4:=lt_of_block d;have i1:=Ja b5;have E5:=Ja u6;clear u6 d b5 b8 p3 q9 f8;go_upto_region 30 with fail;have l:=E5.out.alloc (G #[I bk.term.kind,I bk.term.a,.slice ta bk.term.to.length tc] 82);have b4:=i1.out.keep ((Below.refl _ _).alloc (Je _) (G #[I bk.term.kind,I bk.term.a,.slice ta bk.term.to.length tc] 82));have d2:=zI (W:=w3) (o:=(G #[I bk.term.kind,I bk.term.a,.slice ta bk.term.to.length tc] 82)) rfl;generalize w3.alloc (G #[I bk.term.kind,I bk.term.a,.slice ta bk.term.to.length tc] 82)=W4 at *;generalize w3.heap.size=b18 at *;have q0:=K0 d2;have q1:=K1 d2;have y2:=K2 d2;have p5:=lt_of_block d2;have D8:=l.row.2 bk.term.a;have a6:=Ja l;have d9:=Ja b4;have bj:=Ja d2;clear q2 q3 q4 D4 l b4 d2
         by_cases h5:bk.term.kind=5
         ·have c:=k5.out;rw[if_neg Zo,if_pos h5] at c;rw[h5] at q0;have c9:=Ja c;clear c h5;go_wp2_with (go_at_call 101;go_must (refine(ew d9.out 1 0).mono ?_;rintro e w5 ⟨rfl,n4,G1⟩))
          go_ret;rw[<-c9.out];exact vh.trap n4 (a6.out.frm.trans G1)
         ·have t5:(bk.term.kind==5)=false:=by rw[beq_eq_false_iff_ne];exact h5
          obtain⟨va,a0⟩:∃va:Nat,(if bk.term.kind=2∨bk.term.kind=3∨(bk.term.kind=4/\bk.term.a≠-1) then v2 bk.term.a else 0)=va:=⟨_,rfl⟩
          have l0:va<65536:=by rw[<-a0];split;exact D8;decide
          have g6:=k4.out.2.1.1;have e6:=k1.out.2.2;go_upto_region 34 with fail;obtain⟨q,t⟩:∃q:Bool,decide (bk.term.kind=2∨bk.term.kind=3∨(bk.term.kind=4/\bk.term.a≠-1))=q:=⟨_,rfl⟩
          have e7:q=true->0<=bk.term.a/\bk.term.a.toNat<N/\va=v2 bk.term.a:=fun e=>by
           rw[e,decide_eq_true_eq] at t;have:=e6 bk.term.a (by unfold mE ut;rcases t with h|h|⟨h,h2⟩<;>rw[h]<;>simp<;>omega);rw[if_pos t] at a0;exact⟨this.1,this.2,a0.symm⟩
          have d5:q=false->va=0:=fun e=>by
           rw[e,decide_eq_false_iff_not] at t;rw[if_neg t] at a0;exact a0.symm
          have B8:=Ja (Jb e7 d5)
          go_cut [157] (fun xv wx=>xv=.bool q/\wx=W4)
          case first=>
           have v0:(bk.term.kind=1/\q=false)∨(bk.term.kind=2/\q=true)∨(bk.term.kind=3/\q=true)∨(bk.term.kind=4/\bk.term.a=-1/\q=false)∨(bk.term.kind=4/\0<=bk.term.a/\q=true):=by
            rcases g6 with e|e|e|e|e
            ·exact .inl ⟨e,by rw[<-t];exact decide_eq_false Zo⟩
            ·exact .inr (.inl ⟨e,by rw[<-t];exact decide_eq_true Zo⟩)
            ·exact .inr (.inr (.inl ⟨e,by rw[<-t];exact decide_eq_true Zo⟩))
            ·by_cases ea:bk.term.a=-1
             ·exact .inr (.inr (.inr (.inl ⟨e,ea,by rw[<-t];exact decide_eq_false Zo⟩)))
             ·have z3:q=true:=by rw[<-t];exact decide_eq_true Zo
              exact .inr (.inr (.inr (.inr ⟨e,(e7 z3).1,z3⟩)))
            ·exact absurd e h5
           clear g6 e6 a0 h5 t5 e7 d5 t;rcases v0 with⟨e,e2⟩|⟨e,e2⟩|⟨e,e2⟩|⟨e,e3,e2⟩|⟨e,e3,e2⟩
           ·subst e2;rw[e] at q0;clear e;go_wp2;go_meet;exact⟨rfl,rfl⟩
           ·subst e2;rw[e] at q0;clear e;go_wp2;go_meet;exact⟨rfl,rfl⟩
           ·subst e2;rw[e] at q0;clear e;go_wp2;go_meet;exact⟨rfl,rfl⟩
           ·subst e2;rw[e] at q0;rw[e3] at q1;clear e e3;go_wp2;go_meet;exact⟨rfl,rfl⟩
           ·subst e2;rw[e] at q0;clear e;go_wp2;go_meet;exact⟨rfl,rfl⟩
          case rest=>
          obtain⟨rfl,rfl⟩:=hcut
          go_upto_if 157 with fail
          go_cut [19] (fun xv wx=>xv=M va/\wx=wc)
          case first=>
           have w9:=Ja a6.out.row;clear g6 e6 a0 h5 t5 e7 d5 t
           cases q with
           |false=>
            have e2:=B8.out.2 rfl;subst e2;go_wp2;go_meet
            exact⟨rfl,rfl⟩
           |true=>
            obtain⟨e3,e4,e2⟩:=B8.out.1 rfl;obtain⟨ka,A1⟩:∃ka:Nat,bk.term.a=(ka:Int):=⟨bk.term.a.toNat,by omega⟩
            rw[A1] at q1 e2;have G4:=w9.out.cell (k:=ka) Zo;rw[<-e2] at G4;have am:(ka:Int)<(N:Int):=Zo;have bn:=lt_of_block w9.out.1;clear e2 e3 e4 A1;go_wp2;go_meet;exact⟨rfl,rfl⟩
          case rest=>
           obtain⟨rfl,rfl⟩:=hcut
           by_cases h4:bk.term.kind=4
           ·have c:=k5.out;rw[if_pos h4] at c
            have y5:(if bk.term.a=-1 then 0 else v2 bk.term.a)=va:=by
             rw[<-a0]
             by_cases ea:bk.term.a=-1
             ·rw[if_pos ea,if_neg Zo]
             ·rw[if_neg ea,if_pos Zo]
            rw[y5] at c;have c9:=Ja c;rw[h4] at q0;clear c h4 y5 a0 g6 e6 h5 t5 e7 d5 t;go_wp2;go_ret;rw[<-c9.out];exact vh.ok d9.out a6.out.frm l0
           ·generalize wc=W5 at *;have c:=k5.out;rw[if_neg h4,if_neg h5] at c;have l7:bk.term.kind=1∨bk.term.kind=2∨bk.term.kind=3:=Zo;have t4:(bk.term.kind==4)=false:=by rw[beq_eq_false_iff_ne];exact h4
            have c3:=k4.out.2.1
            have D9:1<=bk.term.to.length:=by
             rcases l7 with e|e|e
             ·exact c3.2.1 e
             ·have:=c3.2.2.1 e;omega
             ·exact c3.2.2.2.1 e
            have y8:ez bk.term (v2 bk.term.a)=ez bk.term va:=by
             unfold ez;rcases l7 with e|e|e
             ·rw[if_neg Zo,if_neg Zo,if_neg Zo,if_neg Zo]
             ·rw[if_pos Zo] at a0;rw[a0]
             ·rw[if_pos Zo] at a0;rw[a0]
            have d4:=lL c3 h4 h5 (v2 bk.term.a);have a5:=c3.2.2.2.2 _ d4;rw[cT,y8] at c d4 a5
            have s3:ez bk.term va<bk.term.to.length:=by
             unfold ez
             split
             ·have:=c3.2.2.1 Zo;omega
             ·split<;>omega
            have F4:bk.term.to.length<=2000000:=(C5.out.2.2 bk (by rw[<-f5.out];exact blkAt_in Zo)).2.2;have B5:=Ja (fun W=>taken_q W bk.term ta tc va l0 ⟨D9,F4⟩ l7);obtain⟨ti,s2⟩:∃ti,ez bk.term va=ti:=⟨_,rfl⟩
            rw[s2] at B5 c d4 a5 s3;obtain⟨x,k9⟩:∃x,bk.term.to[ti]? =some x:=⟨_,Jd s3⟩
            rw[show bk.term.to.getD ti ⟨0,[]⟩=x by rw[Jj,k9];rfl] at c d4 a5;obtain⟨b3,o3,rfl,a4,A5,H5,ev,A6,r2⟩:=x0.out.2.2.1.get k9;obtain⟨ea,ec,rfl,_,_⟩:=r2.form
            have af:x.args.length<=65536:=by
             rw[a5.2.2];have t:x.block=((x.block.toNat:Nat):Int):=Zo;rw[t];exact(C3.out _ (Ji (rh a5.2.1))).2.2
            have y6:∀y∈x.args,0<=y/\y.toNat<N:=fun y hy=>e6 y (by unfold mE;rw[Jl];right;exact List.mem_flatten.2 ⟨x.args,Nu.2 ⟨x,Ji k9,rfl⟩,hy⟩)
            have j2:=zV a6.out.frm.below a4 A5;have u9:=zV a6.out.frm.below a4 A6;have y3:b3<W5.heap.size:=Jw _ _ j2;have o0:=Ja (show ∀W:World,Q W5 W->T W b18 0 (I bk.term.kind)/\T W b18 1 (I bk.term.a)/\T W b18 2 (.slice (some ⟨b3,o3,none⟩) bk.term.to.length tc)/\T W b3 (o3+ti*2) (I x.block)/\T W b3 (o3+ti*2+1) (.slice ea x.args.length ec) from fun W hb=>⟨zV hb p5 q0,zV hb p5 q1,zV hb p5 y2,zV hb y3 j2,zV hb y3 u9⟩);have H9:(ti:Int)<bk.term.to.length:=Zo;have j1:=Ja (Jb c (Jb a5 (Jb r2 y6)));clear c d4 a5 r2 y6 A5 A6 k9 s2 y8 c3 g6 e6 a0 h5 t5 h4 e7 d5 t a4 s3 l7 j2 u9;go_upto_region 38 with fail
            go_cut [20] (fun bv wx=>∃b20:Nat,bv=F b20/\Hid (A wx b20 #[I x.block,.slice ea x.args.length ec] 79/\Q W5 wx/\W5.heap.size<=b20))
            case first=>
             go_region_held3 (fun w'=>T w' b18 0 (I bk.term.kind)/\T w' b18 1 (I bk.term.a)/\T w' b18 2 (.slice (some ⟨b3,o3,none⟩) bk.term.to.length tc)/\T w' b3 (o3+ti*2) (I x.block)/\T w' b3 (o3+ti*2+1) (.slice ea x.args.length ec))
              ((refine o0.out _ ?_;repeat' (first|with_reducible exact Below.refl _ _|with_reducible assumption|with_reducible refine Below.drew ?_|with_reducible refine Below.alloc ?_ Zn _|with_reducible refine Below.setCell ?_ Zn _)))
              (first
                |(go_at_call 104
                  refine(B5.out _).mono ?_;rintro e y1 ⟨rfl,c8⟩;have f9:Q W5 y1:=Below.trans Zb (c8.mono Zn);have cd:=f9.size
                  first|(have g7:A y1 W5.heap.size #[I 0,U] 79:=zH c8 (show(World.alloc W5 _).heap[W5.heap.size]? =_ from zI rfl) Zs;have e0:=zA (i:=0) g7 rfl;have e1:=zA (i:=1) g7 rfl;have ef:∀i,Y y1 W5.heap.size i:=fun i=>zE g7;have el:=lt_of_block g7)|skip
                  clear c8))
             all_goals go_wp2_with fail
             all_goals go_meet
             all_goals first
              |exact⟨_,rfl,Ja ⟨zI rfl,f9.alloc f9.size _,f9.size⟩⟩
              |exact⟨_,rfl,Ja ⟨by have z0:=zD g7 (i:=0) (.int .i64 x.block);have z1:=zD z0 (i:=1) (.slice ea x.args.length ec);simpa using z1,(f9.setCell (Je _) _).setCell (Je _) _,Je _⟩⟩
            case rest=>
             obtain⟨b20,rfl,f6⟩:=hcut;have a2:=a6.out.keep f6.out.2.1;have D1:=K0 f6.out.1;have D0:=K1 f6.out.1;have y4:=lt_of_block f6.out.1;obtain⟨cn,ov5,n4⟩:=a2.mach;have cl:K.B<wc.heap.size:=n4.size;have H8:vb<wc.heap.size:=lt_of_block a2.row.1;have H0:=Ja (j1.out.2.2.1.below zO a2.frm.below);have f4:=Ja a2;clear a2 n4 o0 q0 q1 y2;generalize wc=W6 at *;go_wp2
             go_loopw [21,22] (fun rv kv wx=>∃k:Nat,k<=x.args.length/\kv=I k/\Hid (wx.ownsRow W6.heap.size 43 1 rv k ((uT v2 x.args k).map vL)/\Q W6 wx)) (fun _ kv _=>x.args.length-(intOf kv).toNat)
             case atStart=>exact⟨0,Jt _,rfl,Ja ⟨Jv _ _ _ _,Below.refl _ _⟩⟩
             case round=>
              obtain⟨k6,ci,rfl,c2⟩:=hrel;obtain⟨ra,rc,rfl⟩:=zG c2.out.1;have c4:=f4.out.keep c2.out.2;have az:=zV c2.out.2 y4 D0;have E2:=zV c2.out.2 y4 D1;have ab:=c2.out.2.size;have ay:b20<wr.heap.size:=Zo
              by_cases f2:k6<x.args.length
              ·skip
               have y0:(k6:Int)<x.args.length:=Zo;have x6:=Ja f2;obtain⟨y,hy⟩:∃y,x.args[k6]? =some y:=⟨_,Jd f2⟩
               obtain⟨b6,o6,rfl,F8,u4,H6⟩:=H0.out.get hy;rw[Nk] at u4;have cy:=zV c2.out.2 (show b6<W6.heap.size by omega) u4;have bu:b6<wr.heap.size:=Zo;have F2:=j1.out.2.2.2 y (Ji hy);have E3:=Ja (qH (v:=v2) hy);have ar:=pA (v:=v2) (show k6<=x.args.length by omega);obtain⟨ky,rfl⟩:∃ky:Nat,y=(ky:Int):=⟨y.toNat,by omega⟩
               have ah:(ky:Int)<(N:Int):=Zo;have cq:=c4.row.cell (k:=ky) Zo;have bm:=lt_of_block c4.row.1;have cc:=c4.row.2 (ky:Int);obtain⟨ii,F6,D7,D6,D5⟩:=info_parts Tryz.info_u16;clear hy u4 f2 c4 F8 F2;generalize v2 (ky:Int)=vy at *;go_wp2_with (at_builtin;go_must (refine wpList_append_lies _ rfl (.tmp 181) (.tmp 190) 48 rfl W6.heap.size 43 ii (M 0) 1 2 Tryz.underlying48 F6 D7 D6 D5 rfl Zd _ k6 ((uT v2 x.args k6).map vL) rfl (c2.out.1.alloc _) ⟨wr.heap.size,0,none⟩ 1 1 [M vy] rfl rfl (Oi (cs:=#[M vy]) (zI Zs)) (by simp[Value.oneCell']) Zd (by unfold maxLen;omega) Zo Zt (wr.heap.size+1) Zs ?_;intro gq bg w6 l2 g8 ap f2;have B7:=Ja (Jb l2 g8);clear l2 g8))
               go_roundw
               case rel=>
                refine⟨k6+1,x6.out,by go_num,Ja ⟨?_,(c2.out.2.alloc Zo _).grown B7.out.2 Zt (fun k hk=>(c2.out.1.lt k hk).1)⟩⟩;rw[E3.out,Js];exact B7.out.1
               case measure=>have:=x6.out;simp[intOf];omega
              ·skip
               obtain rfl:k6=x.args.length:=by omega
               have y0:¬(x.args.length:Int)<x.args.length:=Zo;have f0:=c2.out.1;rw[r8] at f0;have r4:=ms f0 Zs (fun y hy=>by obtain⟨z,_,rfl⟩:=Nu.1 hy;exact c4.row.2 z);obtain⟨q,t⟩:∃q:Nat,x.block=(q:Int):=⟨x.block.toNat,by have:=j1.out.2.1.1;omega⟩
               rw[t] at E2;have n2:=j1.out.2.1;have j9:=j1.out.1;rw[t] at n2 j9
               have x8:Hid (HeadQ K w wr r n blocks vb N q ra x.args.length rc RES):=by
                refine⟨x.args.map v2,v2,m2.pay,c4,r4,?_,?_,?_,?_,j9⟩
                ·intro y b o _ e;have:=bK f0 (by rw[e]);omega
                ·rw[Nr];exact n2.2.2
                ·have:=n2.2.1;rw[Ni] at this;exact this
                ·have h1:=p0.out.2;have h2:=C8.out.2;have h3:=d0.out;simp only[Mach.pay];omega
               clear f0 r4 c4 n2 j9 t;go_wp2
               go_roundg n
               case measure=>omega
               case rel=>exact⟨q,ra,x.args.length,rc,rfl,rfl,x8⟩
theorem cN (K:MK)(hok:OkProg K.E.p)(hu:UseProg K.E.p):∀r,r<=100->cX K r
 |0,_=>br K hu
 |r+1,h=>ac7 K hok hu r h (cN K hok hu r Zo)
end Go.Proofs.YtoahcpkibpomcaaGreat
