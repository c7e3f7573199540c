/- Part of a proof. -/
import Derived.Test.YtojclalkfhoooaaGQRam
set_option linter.all false
set_option maxHeartbeats 6400000
set_option maxRecDepth 100000
namespace Go.Proofs.Ytojclalkfhoooaa
open Go.RowKit
theorem bX (p q:Int):∃x:Int,∀(ts:Array TypeId) (t:TypeId) (W:World),(Builtin.max_ ts t #[A p,A q]).run Try.prog W=.ok (A x) W:=⟨_,fun ts t W=>run_max_int2 ..⟩
theorem blkAt_in {blocks:List IBlk}{a:Nat}(h:a<blocks.length):xz blocks a∈blocks:=Ji (rh h)
def HeadQ (K:MK)(w0 wx:World)(r n:Nat)(blocks:List IBlk)(vb N:Nat)(at':Nat)(sa:Option Addr)(sn sc:Nat)(R:Res Nat):Prop:=
 ∃(args:List Nat) (v:Int->Nat) (m:Mach),CStQ K w0 wx m vb N v/\wV wx wx.heap.size (.slice sa sn sc) args/\(∀y b o,y∈args->sa=some ⟨b,o,none⟩->b≠vb)/\args.length=(xz blocks at').params.length/\at'<blocks.length/\m.fuel.toNat<n/\tJ K.E (xW K.E r) blocks n at' args v m=R
def OpsQ (K:MK)(w0 wx:World)(r:Nat)(vb N b12:Nat)(cs:Array Value)(m1:Mach)(os:List IOp)(R:Res (Int->Nat)):Prop:=
 ∃(v:Int->Nat) (m:Mach),CStQ K w0 wx m vb N v/\L wx b12 cs 49/\m.fuel<=m1.fuel/\iq K.E (xW K.E r) os v m=R
theorem mk_row (N:Nat)(c:N<=65536)(W:World):(Instr.makeSlice 36 (A N) (A N)).run Try.prog W=.ok (.slice (some ⟨W.heap.size,0,none⟩) N N) (W.alloc (U (madeCells #[I 0] N) 39)):=by
 have h:=run_make_row' (P:=Try.prog) 36 39 (I 0) 2 Try.underlying36 Try.info_u16 rfl .i64 .i64 N Zo Zo W;exact h
theorem br (K:MK)(hu:UseProg K.E.p):cX K 0:=by
 intro w m dp ov av f args h a7 j ha hl d1;obtain⟨aa,ac,rfl,_,_⟩:=ha.form;obtain⟨k,rfl⟩:∃k:Nat,f=(k:Int):=⟨f.toNat,by omega⟩
 have i:=h.prog.funcs;obtain⟨fa,fc,y,_,_⟩:=i.form;have c0:=h.c0;rw[y] at i c0;have a4:k<K.E.p.funcs.length:=Zo;obtain⟨blocks,o⟩:∃bl,K.E.p.funcs[k]? =some bl:=⟨_,Jd a4⟩
 obtain⟨fb,fo,rfl,a0,bv,l,r⟩:=i.get o;rw[Nk] at l;obtain⟨ba,bc,rfl,_,c5⟩:=r.form;have d3:(k:Int)<K.E.p.funcs.length:=Zo;obtain⟨dx,d4⟩:=bX dp 101;have b0:=hu.cnt blocks (Ji o);obtain⟨N,hN⟩:∃N:Nat,aaG blocks=(N:Int):=⟨(aaG blocks).toNat,by omega⟩
 have b3:N<=65536:=Zo;have x:=hu.sz blocks (Ji o);have c7:=h.lt;have c11:=h.c11;have b4:=h.free 11;have hB:=h.size;have d0:fb<w.heap.size:=Zo;have h1:=h.put 11 (A dx) (m':=m) (tr':=none) (dp':=dx) rfl rfl rfl h.obd h.fuel h.inp h.pol;have a1:=h.frm 11 (A dx);have H1:=Ja (Jb h1 a1);have d6:=Ja (Jb r x);have b8:=Ja a0
 have c2:=Ja (show ∀W,Below K.B w W->Y 41 #[.agg #[.slice ba blocks.length bc]] W (dq W (N:Int)) from fun W hb=>by
  have:=jr (r.below yT hb) (Jn (Qd hB) hb.size) x;rw[hN] at this
  exact this)
 have b7:=Ja y;have hI:(100:Int)<101:=Zo;have a5:=zV (Below.refl _ _) a0 l;clear a0 h i y a4 a7 j r o ha hl hu h1 a1 b0 hN x a5;have d2:=mk_row N b3;go_enter Try.func85,Try.ntmps85;go_upto_region 4 with fail;generalize b2:w.setCell ⟨K.pm,11,none⟩ (A dx)=W1 at *;clear b2 c11 b4;go_upto_region 7 with(go_at_call 112;go_must (refine(ew H1.out.1 5 0).mono ?_;rintro e w2 ⟨rfl,g,j⟩))
 have b1:=g.c0;rw[b7.out] at b1;have c9:=g.lt;have t:=H1.out.2.trans j;have c4:=zV t.below b8.out l;have c3:fb<w2.heap.size:=by have:=t.below.size;omega
 have u:=Ja (Jb g t);clear g j t c0 l;go_upto_region 8 with(go_at_call 41;go_must (refine(c2.out _ u.out.2.below).mono ?_;rintro e w3 ⟨rfl,a2⟩;have d:=u.out.1.keep a2;have b5:=d.c10;have a6:=d.lt;have a3:=Ja (Jb d (u.out.2.trans (FrmQ.ofBelow a2 (Qd u.out.1.size))));clear d a2))
 have c:=a3.out.1.keep ((Below.refl _ _).alloc (Je _) (U (madeCells #[I 0] N) 39));have b9:=Ja (a3.out.2.trans ((FrmQ.refl K.B w3).alloc (Qd a3.out.1.size) (U (madeCells #[I 0] N) 39)));have d5:=c.c10;have c8:=c.lt;have b6:=Ja c;clear c b5 a6;generalize w3.alloc (U (madeCells #[I 0] N) 39)=w4 at *;generalize w3.heap.size=vb at *;go_wp2
 go_loopw [11] (fun _ wx=>wx=w4) (fun _ _=>0)
 case atStart=>rfl
 case round=>
  subst hrel;go_wp2;go_ret;exact vh.trap b6.out b9.out
theorem U16s.setCell {w:World}{B:Nat}{a:Option Addr}{n cap pm i:Nat}{u:Value}{xs:List Nat}(h:wV w B (.slice a n cap) xs)(c:∀b o,a=some ⟨b,o,none⟩->xs≠ []->b≠pm):wV (w.setCell ⟨pm,i,none⟩ u) B (.slice a n cap) xs:=by
 obtain⟨a',m,e,h1,h2,h3⟩:=h;cases e;refine⟨a,cap,rfl,h1,h2,fun k x hk=>?_⟩;obtain⟨b,o,d,l,j,g⟩:=h3 k x hk;refine⟨b,o,d,l,?_,g⟩;have:=c b o d (by rintro rfl;simp at hk);rw[<-j];exact Oo (Below.heap_setCell _ _ _ _ (by show b≠pm;exact this))
theorem CStQ.drew {K:MK}{w0 w:World}{m:Mach}{vb N:Nat}{v:Int->Nat}(h:CStQ K w0 w m vb N v):CStQ K w0 w.drew m vb N v:=h.keep (Below.refl _ _).drew
theorem ac7 (K:MK)(w1:OkProg K.E.p)(hu:UseProg K.E.p)(r:Nat)(hr:r+1<=100)(hC:cX K r):cX K (r+1):=by
 intro w m dp ov av f args h D6 c7 ha hl w7;obtain⟨aa,ac,rfl,_,_⟩:=ha.form;obtain⟨k,rfl⟩:∃k:Nat,f=(k:Int):=⟨f.toNat,by omega⟩
 have k9:=h.prog.funcs;obtain⟨fa,fc,q7,_,_⟩:=k9.form;have c0:=h.c0;rw[q7] at k9 c0;have x0:k<K.E.p.funcs.length:=Zo;obtain⟨blocks,d7⟩:∃bl,K.E.p.funcs[k]? =some bl:=⟨_,Jd x0⟩
 obtain⟨fb,fo,rfl,x5,bv,g9,l2⟩:=k9.get d7;rw[Nk] at g9;obtain⟨ba,bc,rfl,_,G4⟩:=l2.form;have x3:K.E.p.funcs.getD (k:Int).toNat []=blocks:=by rw[Ni,Jj,d7];rfl
 have bd:(k:Int)<K.E.p.funcs.length:=Zo;have r0:(101-((r+1:Nat):Int))=100-(r:Int):=Zo;have bg:¬(100:Int)<100-(r:Int):=Zo;obtain⟨dx,bf⟩:=bX dp (100-(r:Int));have a7:=hu.cnt blocks (Ji d7);obtain⟨N,hN⟩:∃N:Nat,aaG blocks=(N:Int):=⟨(aaG blocks).toNat,by omega⟩
 have D9:N<=65536:=Zo;have o0:=hu.sz blocks (Ji d7);have n6:=hu.blk blocks (Ji d7);rw[show(aaG blocks).toNat=N by omega] at n6
 have n3:xW K.E (r+1) k args m=if blocks.isEmpty then .trap 8 ((k:Int)%65536).toNat m else tJ K.E (xW K.E r) blocks (m.fuel.toNat+1) 0 args (fun _=>0) m:=by
  show(if(K.E.p.funcs.getD (k:Int).toNat []).isEmpty then _ else _)=_
  rw[x3]
 have H7:=h.lt;have c11:=h.c11;have y2:=h.free 11;have hB:=h.size;have H9:fb<w.heap.size:=Zo;have h1:=h.put 11 (A dx) (m':=m) (tr':=none) (dp':=dx) rfl rfl rfl h.obd h.fuel h.inp h.pol;have q9:=h.frm 11 (A dx);have x9:=U16s.setCell (i:=11) (u:=A dx) ha (fun b o e hn=>w7 b o _ _ (by rw[e]) hn);have H1:=Ja (Jb h1 (Jb q9 (Jb x9 hl)));have A4:=Ja (Jb l2 o0);have z6:=Ja x5
 have A0:=Ja (show ∀W,Below K.B w W->Y 41 #[.agg #[.slice ba blocks.length bc]] W (dq W (N:Int)) from fun W hb=>by
  have:=jr (l2.below yT hb) (Jn (Qd hB) hb.size) o0;rw[hN] at this
  exact this)
 have z5:=Ja q7;have HC:=Ja hC;have u1:=Ja w1;have A3:=Ja d7;have E5:=Ja n6;have H3:=Ja (h.fuel.2.2 rfl);rw[r0];have y6:=Ja n3;have ax:=mk_row N D9;clear h k9 q7 x0 D6 c7 x3 l2 hC w1 d7 ha hl w7 r0 n3 hu h1 q9 a7 hN o0 n6 x5 x9
 by_cases h0:blocks.length=0
 ·have t1:((blocks.length:Int)==0)=true:=by rw[beq_iff_eq];omega
  have EE:=Ja (show xW K.E (r+1) k args m=.trap 8 ((k:Int)%65536).toNat m by rw[y6.out,if_pos (by rw[List.isEmpty_iff];exact Nz h0)]);obtain⟨q,hq⟩:∃q:Nat,((k:Int)%65536).toNat=q:=⟨_,rfl⟩
  have ao:IntKind.u16.wrap (k:Int)=(q:Int):=by rw[xY];omega
  rw[hq] at EE;clear h0 hq;go_enter Try.func85,Try.ntmps85;go_upto_region 5 with fail;generalize h8:w.setCell ⟨K.pm,11,none⟩ (A dx)=W1 at *;clear h8 c11 y2;go_upto_region 7 with(go_at_call 112;go_must (refine(ew H1.out.1 8 q).mono ?_;rintro e w2 ⟨rfl,k4,c7⟩))
  have l1:=k4.c0;rw[z5.out] at l1;have f6:=k4.lt;have l6:=H1.out.2.1.trans c7;have s3:=zV l6.below z6.out g9;have m5:fb<w2.heap.size:=by have:=l6.below.size;omega
  have b8:=Ja (Jb k4 l6);clear k4 c7 l6 c0 g9;go_upto_region 8 with(go_at_call 41;go_must (refine(A0.out _ b8.out.2.below).mono ?_;rintro e w3 ⟨rfl,a3⟩;have k1:=b8.out.1.keep a3;have E2:=k1.c10;have C7:=k1.lt;have i0:=Ja (Jb k1 (b8.out.2.trans (FrmQ.ofBelow a3 (Qd b8.out.1.size))));clear k1 a3))
  have k0:=i0.out.1.keep ((Below.refl _ _).alloc (Je _) (U (madeCells #[I 0] N) 39));have F1:=Ja (i0.out.2.trans ((FrmQ.refl K.B w3).alloc (Qd i0.out.1.size) (U (madeCells #[I 0] N) 39)));have y0:=k0.c10;have H8:=k0.lt;have d9:=Ja k0;clear k0 E2 C7;generalize w3.alloc (U (madeCells #[I 0] N) 39)=w4 at *;generalize w3.heap.size=vb at *;go_wp2
  go_loopw [11] (fun _ wx=>wx=w4) (fun _ _=>0)
  case atStart=>rfl
  case round=>
   subst hrel;go_wp2;go_ret;rw[EE.out];exact vh.trap d9.out F1.out
 ·have t1:((blocks.length:Int)==0)=false:=Ze;have EE:=Ja (show xW K.E (r+1) k args m=tJ K.E (xW K.E r) blocks (m.fuel.toNat+1) 0 args (fun _=>0) m by rw[y6.out,if_neg (by rw[List.isEmpty_iff];intro e;exact h0 (by rw[e];rfl))]);obtain⟨RES,i5⟩:∃R,xW K.E (r+1) k args m=R:=⟨_,rfl⟩
  rw[i5];have A2:=Ja (show ∀b∈blocks,OkBlk K.E.p blocks b from u1.out.blk blocks (Ji A3.out));have A6:=Ja h0;have E7:=Ja i5;clear h0 i5;go_enter Try.func85,Try.ntmps85;go_upto_region 5 with fail;generalize h8:w.setCell ⟨K.pm,11,none⟩ (A dx)=W1 at *;clear h8 c11 y2;go_upto_region 7 with fail;have l1:=H1.out.1.c0;rw[z5.out] at l1;have f6:=H1.out.1.lt;have s3:=zV H1.out.2.1.below z6.out g9;have m5:fb<W1.heap.size:=by have:=H1.out.2.1.below.size;omega
  clear c0 g9;go_upto_region 8 with(go_at_call 41;go_must (refine(A0.out _ H1.out.2.1.below).mono ?_;rintro e w3 ⟨rfl,a3⟩))
  have h6:F W1 (w3.alloc (U (madeCells #[I 0] N) 39)):=a3.alloc a3.size _
  have o5:Hid (HeadQ K w (w3.alloc (U (madeCells #[I 0] N) 39)) r (m.fuel.toNat+1) blocks w3.heap.size N 0 aa args.length ac RES):=by
   have F9:W1.heap.size=w.heap.size∨w.heap.size<=W1.heap.size:=.inr H1.out.2.1.below.size;refine⟨args,fun _=>0,m,⟨⟨dx,ov,H1.out.1.keep h6⟩,H1.out.2.1.trans (FrmQ.ofBelow h6 (Qd H1.out.1.size)),dA.made (zI rfl),Jn H1.out.2.1.below.size a3.size,hB⟩,?_,?_,?_,by have:=A6.out;omega,by omega,?_⟩
   ·exact(H1.out.2.2.1.below zr (h6.mono H1.out.2.1.below.size)).mono zr (Jn H1.out.2.1.below.size h6.size)
   ·intro y b o hy e;obtain⟨j,hj⟩:=Ny hy;obtain⟨b',o',e',w9,_⟩:=H1.out.2.2.1.get hj;rw[e] at e';cases e';have:=H1.out.2.1.below.size;have:=a3.size;omega
   ·obtain⟨b,bs,rfl⟩:∃b bs,blocks=b::bs:=by
     cases blocks with
     |nil=>exact absurd rfl A6.out
     |cons b bs=>exact⟨b,bs,rfl⟩
    have h1:=u1.out.par k b bs A3.out;have h2:=H1.out.2.2.2;rw[Ni] at h2
    show args.length=b.params.length
    omega
   ·rw[<-E7.out,EE.out];rfl
  generalize w3.alloc (U (madeCells #[I 0] N) 39)=w4 at *;generalize w3.heap.size=vb at *;generalize B9:m.fuel.toNat+1=gas at o5;clear B9 a3 h6 f6 l1 s3 m5;go_wp2
  go_loopg [2,11] gas (fun n sv atv wx=>∃(at':Nat) (sa:Option Addr) (sn sc:Nat),sv=.slice sa sn sc/\atv=A at'/\Hid (HeadQ K w wx r n blocks vb N at' sa sn sc RES))
  case atStart=>exact⟨0,aa,args.length,ac,rfl,rfl,o5⟩
  case round=>
   obtain⟨at',sa,sn,sc,rfl,rfl,HS⟩:=hrel
   cases gk with
   |zero=>obtain⟨_,_,m1,_,_,_,_,_,w9,_⟩:=HS.out;exact absurd w9 (Nat.not_lt_zero _)
   |succ n=>
    obtain⟨args1,v1,m1,a7,f2,o9,x8,l4,x4,c⟩:=HS.out;obtain⟨sa',sc',e1,_,_⟩:=f2.form;cases e1;have C0:=A4.out.1.get (rh l4);have p3:=A2.out _ (Ji (rh l4));have n5:=E5.out _ (Ji (rh l4));generalize s5:xz blocks at'=bk at *;have f4:=Ja s5;obtain⟨bb,bo,rfl,d8,k2,k3,x1,pv,ov1,tv,kp,ko,kt,p1,p2,n7⟩:=C0;have k2:=zV a7.frm.below d8 k2;have k3:=zV a7.frm.below d8 k3;have kp:=zV a7.frm.below d8 kp;have ko:=zV a7.frm.below d8 ko;have kt:=zV a7.frm.below d8 kt;have C9:bb<wr.heap.size:=by have:=a7.gb;have:=a7.frm.below.size;omega
    obtain⟨pa,pc,rfl,_,_⟩:=p1.form;obtain⟨oa,oc,rfl,_,_⟩:=p2.form;obtain⟨ta,tc,rfl,_,_⟩:=n7.form;have G5:(at':Int)<blocks.length:=Zo;obtain⟨bj,ov0,p4⟩:=a7.mach;have y0:G wr K.pm 10 (.bool false):=p4.c10;have C8:=p4.lt;have A1:=Ja a7;have a6:=Ja (Jb f2 (Jb x8 o9));have l9:=Ja (Jb c x4);have i7:=Ja p3;have i6:=Ja n5;have t7:=Ja (Jb p1 (Jb p2 (Jb n7 x1)));clear o5 HS a7 f2 x8 o9 x4 c p3 n5 s5 p1 p2 n7 x1 l4 p4;go_upto_region 11 with fail;have r4:=A1.out.alloc (U #[.slice pa bk.params.length pc,.slice oa bk.ops.length oc,A bk.term.kind,A bk.term.a,.slice ta bk.term.to.length tc] 49);have d:=zI (W:=wr) (o:=U #[.slice pa bk.params.length pc,.slice oa bk.ops.length oc,A bk.term.kind,A bk.term.a,.slice ta bk.term.to.length tc] 49) rfl;have h7:=(a6.out.1.below zr ((Below.refl _ _).alloc (Je _) (U #[.slice pa bk.params.length pc,.slice oa bk.ops.length oc,A bk.term.kind,A bk.term.a,.slice ta bk.term.to.length tc] 49))).mono zr (B':=(wr.alloc (U #[.slice pa bk.params.length pc,.slice oa bk.ops.length oc,A bk.term.kind,A bk.term.a,.slice ta bk.term.to.length tc] 49)).heap.size) Zs;have w8:wr.heap.size≠vb:=by have:=lt_of_block A1.out.row.1;omega
    generalize h8:wr.alloc (U #[.slice pa bk.params.length pc,.slice oa bk.ops.length oc,A bk.term.kind,A bk.term.a,.slice ta bk.term.to.length tc] 49)=W2 at *;generalize wr.heap.size=b12 at *;have u3:=Ja w8;have z2:=Ja (show CStQ K w W2 m1 vb N v1/\wV W2 W2.heap.size (.slice sa args1.length sc) args1/\L W2 b12 #[.slice pa bk.params.length pc,.slice oa bk.ops.length oc,A bk.term.kind,A bk.term.a,.slice ta bk.term.to.length tc] 49 from⟨r4,h7,d⟩);clear h8 r4 h7 d k2 k3 kp ko kt C9 y0 C8 w8;go_wp2
    go_loopw [13] (fun jv wx=>∃j:Nat,j<=bk.params.length/\jv=A j/\Hid (CStQ K w wx m1 vb N (r7 (bk.params.take j) (args1.take j) v1)/\wV wx wx.heap.size (.slice sa args1.length sc) args1/\L wx b12 #[.slice pa bk.params.length pc,.slice oa bk.ops.length oc,A bk.term.kind,A bk.term.a,.slice ta bk.term.to.length tc] 49)) (fun jv _=>bk.params.length-(intOf jv).toNat)
    case atStart=>exact⟨0,Jt _,rfl,z2⟩
    case round=>
     obtain⟨j,hj,rfl,HJ⟩:=hrel;have A8:=K0 HJ.out.2.2;have al:=lt_of_block HJ.out.2.2
     by_cases a0:j<bk.params.length
     ·skip
      have f0:(j:Int)<bk.params.length:=Zo;have c5:=Ja a0;obtain⟨x,hx⟩:∃x,bk.params[j]? =some x:=⟨_,Jd a0⟩
      obtain⟨y,hy⟩:∃y,args1[j]? =some y:=⟨_,Jd (by rw[a6.out.2.1];exact a0)⟩
      obtain⟨b1,o1,rfl,c8,s2,F5⟩:=t7.out.1.get hx;rw[Nk] at s2;have cp:=zV HJ.out.1.frm.below c8 s2;obtain⟨b2,o2,rfl,D8,s0,n0⟩:=HJ.out.2.1.get hy;rw[Nk] at s0;have an:(j:Int)<args1.length:=by have:=a6.out.2.1;omega
      have p0:=qq (bk.params.take j) (args1.take j) v1 x y (by have:=a6.out.2.1;rw[Oc,Oc];omega);have e1:bk.params.take (j+1)=bk.params.take j++ [x]:=by rw[Nh,hx];rfl
      have e2:args1.take (j+1)=args1.take j++ [y]:=by rw[Nh,hy];rfl
      rw[<-e1,<-e2] at p0;have D2:=i6.out.1 x (Ji hx);have s6:=a6.out.2.2 y b2 o2 (Ji hy) rfl;obtain⟨kx,rfl⟩:∃kx:Nat,x=(kx:Int):=⟨x.toNat,by omega⟩
      have p5:kx<N:=Zo;have G2:(kx:Int)<(N:Int):=Zo;have E6:=Ja p0;have s7:b1≠vb:=by have:=HJ.out.1.new;have:=HJ.out.1.gb;omega
      have l7:=Ja (show ∀W:World,(∀k,k≠vb->W.heap[k]? =wr.heap[k]?)->G W b12 0 (.slice (some ⟨b1,o1,none⟩) bk.params.length pc)/\G W b1 (o1+j) (A kx)/\G W b2 (o2+j) (I y) from fun W hW=>⟨(Oo (hW b12 u3.out)).trans A8,(Oo (hW b1 s7)).trans cp,(Oo (hW b2 s6)).trans s0⟩);have ag:b1<wr.heap.size:=Jw _ _ cp;have ad:b2<wr.heap.size:=Jw _ _ s0;have cv:=HJ.out.1.row.cell p5;have fv:=HJ.out.1.row.free kx;have lv:=lt_of_block HJ.out.1.row.1;have HY:=Ja n0;have F0:=Ja hy;clear hx hy s2 p0 e1 e2 c8 a0 D2 s6 p5 s7 n0 D8;go_upto_region 14 with fail
      go_region_held3 (fun w'=>G w' b12 0 (.slice (some ⟨b1,o1,none⟩) bk.params.length pc)/\G w' b1 (o1+j) (A kx)/\G w' b2 (o2+j) (I y))
       ((refine l7.out _ ?_;rintro k D4;repeat' (first|(rw[Below.heap_setCell _ _ _ _ (by show k≠vb;exact D4)])|(rw[show ∀v:World,v.drew.heap=v.heap from fun _=>rfl])|exact rfl)))
       (fail)
      all_goals go_wp2_with fail
      all_goals go_roundw
      case rel=>
       refine⟨j+1,c5.out,by go_num,Ja ⟨?_,?_,?_⟩⟩
       ·rw[E6.out];exact(HJ.out.1.set HY.out).drew
       ·have h1:=U16s.setCell (pm:=vb) (i:=kx) (u:=I y) HJ.out.2.1 (fun b o e _=>a6.out.2.2 y b o (Ji F0.out) e);exact(h1.below zr (Below.refl _ _).drew).mono zr Zs
       ·exact zR HJ.out.2.2 u3.out
      case measure=>have:=c5.out;simp[intOf];omega
     ·skip
      obtain rfl:j=bk.params.length:=by omega
      have f0:¬(bk.params.length:Int)<bk.params.length:=Zo;have k7:r7 (bk.params.take bk.params.length) (args1.take bk.params.length) v1=r7 bk.params args1 v1:=by rw[Nl,<-a6.out.2.1,Nl]
      have HQ:=HJ.out;rw[k7] at HQ;have H2:=K1 HQ.2.2;obtain⟨OR,t2⟩:∃R,iq K.E (xW K.E r) bk.ops (r7 bk.params args1 v1) m1=R:=⟨_,rfl⟩
      have t8:=Ja t2;generalize r2:(#[.slice pa bk.params.length pc,.slice oa bk.ops.length oc,A bk.term.kind,A bk.term.a,.slice ta bk.term.to.length tc]:Array Value)=cs at *;have l8:=Ja r2;have o4:Hid (OpsQ K w wr r vb N b12 cs m1 (bk.ops.drop 0) OR):=⟨_,m1,HQ.1,HQ.2.2,Og _,t2⟩
      clear HQ k7 HJ t2 r2 z2;go_wp2
      go_loopw [14] (fun jv wx=>∃j:Nat,j<=bk.ops.length/\jv=A j/\Hid (OpsQ K w wx r vb N b12 cs m1 (bk.ops.drop j) OR)) (fun jv _=>bk.ops.length-(intOf jv).toNat)
      case atStart=>exact⟨0,Jt _,rfl,o4⟩
      case round=>
       obtain⟨j,hj,rfl,HJ⟩:=hrel;obtain⟨v2,m2,d6,d,c7,d1⟩:=HJ.out;obtain⟨y4,ov2,h9⟩:=d6.mach;have g:=d;rw[<-l8.out] at g;have m3:=K1 g;have m7:=lt_of_block d;have f6:=h9.lt
       by_cases a0:j<bk.ops.length
       ·skip
        have f0:(j:Int)<bk.ops.length:=Zo;have c5:=Ja a0;obtain⟨o,ho⟩:∃o,bk.ops[j]? =some o:=⟨_,Jd a0⟩
        have l0:bk.ops.drop j=o::bk.ops.drop (j+1):=by rw[Qn a0];rw[Jd a0] at ho;rw[Nt ho]
        rw[l0,j7] at d1;obtain⟨b1,o1,rfl,c8,g0,g1,g2,g3,g4,q6,av3,g5,n1⟩:=t7.out.2.1.get ho;obtain⟨xa,xc,rfl,_,_⟩:=n1.form;have b8:=Ja h9;have e5:=Ja d6;have C5:=Ja d;have j1:=Ja (Jb c7 d1);have y5:=Ja (Jb n1 q6);have HG:=Ja (Jb c8 (Jb g0 (Jb g1 (Jb g2 (Jb g3 (Jb g4 g5))))));have u0:=Ja (Jb (i7.out.1 o (Ji ho)) (i6.out.2.1 o (Ji ho)));clear d6 d c7 d1 n1 q6 l0 g0 g1 g2 g3 g4 g5 c8 a0 ho h9 g
        by_cases b5:m2.fuel<=0
        ·skip
         have a2:=j1.out.2;rw[if_pos b5] at a2;have c:=l9.out.1;rw[ru,f4.out,t8.out,<-a2] at c;have c9:=Ja c;have d0:=Ja b5;clear a2 c b5;go_wp2_with (go_at_call 113;go_must (refine(a9 b8.out d0.out).mono ?_;rintro e w3 ⟨rfl,b4,b7⟩))
         go_ret;rw[<-c9.out];exact⟨rfl,⟨y4,ov2,m2.fuel-1,b4⟩,e5.out.frm.trans b7⟩
        ·skip
         have a2:=j1.out.2;rw[if_neg b5] at a2;have C3:=Ja a2;have d0:=Ja (show 0<m2.fuel by omega);clear a2 b5;go_upto_region 19 with(go_at_call 113;go_must (refine(bL b8.out d0.out).mono ?_;rintro e w3 ⟨rfl,b4,b7⟩))
         have l:=e5.out.step b4 b7;have d:=b7.kept _ _ C5.out (by simp[di]);have g:=d;rw[<-l8.out] at g;have B2:=K1 g;have B1:=lt_of_block d;have q0:=zV l.frm.below HG.out.1 HG.out.2.1;have q1:=zV l.frm.below HG.out.1 HG.out.2.2.1;have q2:=zV l.frm.below HG.out.1 HG.out.2.2.2.1;have q3:=zV l.frm.below HG.out.1 HG.out.2.2.2.2.1;have q4:=zV l.frm.below HG.out.1 HG.out.2.2.2.2.2.1;have q5:=zV l.frm.below HG.out.1 HG.out.2.2.2.2.2.2;have C6:b1<w3.heap.size:=Jw _ _ q0;have b9:=step_q b4 u1.out u0.out.1 y5.out.2 ((y5.out.1.below zO l.frm.below).mono zO (Qd b4.size)) l.row u0.out.2.1 (show r<=100 by omega) HC.out (by have:=b8.out.obd;have:=d0.out;simp only[Mach.pay];omega);unfold aam at b9;have a5:=Ja l;have F2:=Ja d;obtain⟨R3,s8⟩:∃R,oV K.E (xW K.E r) o v2 m2.pay=R:=⟨_,rfl⟩
         have a2:=C3.out;rw[s8] at b9 a2;have E8:=Ja s8;clear l d b4 b7 m3 m7 f6 s8 g
         cases R3 with
         |ok x m4=>
          have t3:=Ja b9;have q8:=pI (pO K.E r) E8.out;have HX:=Ja (Jb a2 q8);clear a2 q8 b9;go_upto_region 22 with(go_at_call 114;go_must (refine t3.out.mono ?_;rintro e w4 ⟨he,⟨y3,ov4,b0⟩,e8,D0⟩;obtain rfl:e=.returned (I x):=he))
          have a1:=a5.out.step b0 e8;have d:=e8.kept _ _ F2.out (by simp[di]);have g:=d;rw[<-l8.out] at g;have s121:=K1 g;have s12l:=lt_of_block d;have s1:=zV a1.frm.below HG.out.1 HG.out.2.2.1;have sbl:b1<w4.heap.size:=Jw _ _ s1;have s10:G w4 K.pm 10 (.bool false):=b0.c10;have slp:=b0.lt;have m0:=Ja d;have f3:=Ja a1;have A5:=Ja (show m4.fuel<=m1.fuel by have h1:=j1.out.1;have h2:=HX.out.2;simp only[Mach.pay] at h2;omega);have srow:=a1.row;clear a1 d g q0 q1 q2 q3 q4 q5 B2 B1 C6 b0 e8
          by_cases j4:0<=o.res
          ·have d3:=HX.out.1;have v9:=u0.out.2.2 j4;obtain⟨kr,p6⟩:∃kr:Nat,o.res=(kr:Int):=⟨o.res.toNat,by omega⟩
           rw[show iq K.E (xW K.E r) (bk.ops.drop (j+1)) (setV v2 o.res x) m4=iq K.E (xW K.E r) (bk.ops.drop (j+1)) (iY v2 (kr:Int) x) m4 by unfold setV;rw[if_pos j4,p6]] at d3;rw[p6] at s1 v9 j4;have u2:=Ja d3;have az:(kr:Int)<(N:Int):=Zo;have sv:=srow.cell (k:=kr) Zo;have svf:=srow.free kr;have svl:=lt_of_block srow.1;have E4:=Ja D0;clear d3 v9 p6;go_wp2;go_roundw
           case rel=>exact⟨j+1,c5.out,by go_num,Ja ⟨_,m4,f3.out.set E4.out,zR m0.out u3.out,A5.out,u2.out⟩⟩
           case measure=>have:=c5.out;simp[intOf];omega
          ·have d3:=HX.out.1;unfold setV at d3;rw[if_neg j4] at d3;have u2:=Ja d3;clear d3;go_wp2;go_roundw
           case rel=>exact⟨j+1,c5.out,by go_num,Ja ⟨_,m4,f3.out,m0.out,A5.out,u2.out⟩⟩
           case measure=>have:=c5.out;simp[intOf];omega
         |trap k2 i2 m4=>
          have t3:=Ja b9;have c:=l9.out.1;rw[ru,f4.out,t8.out,<-a2] at c;have c9:=Ja c;clear a2 c b9;go_upto_region 22 with(go_at_call 114;go_must (refine t3.out.mono ?_;rintro e w4 ⟨he,⟨y3,ov4,E1,b0⟩,e8⟩;obtain rfl:e=.returned (I 0):=he))
          have s10:G w4 K.pm 10 (.bool true):=b0.c10;have slp:=b0.lt;have d9:=Ja (Jb b0 e8);clear b0 e8;go_wp2;go_ret;rw[<-c9.out];exact⟨rfl,⟨y3,ov4,E1,d9.out.1⟩,a5.out.frm.trans d9.out.2⟩
       ·skip
        obtain rfl:j=bk.ops.length:=by omega
        have f0:¬(bk.ops.length:Int)<bk.ops.length:=Zo;rw[List.drop_length] at d1;have c:=l9.out.1;rw[ru,f4.out,t8.out,<-d1] at c;have s4:(if m2.fuel<=0 then .trap 7 0 m2 else if bk.term.kind=4 then .ok (if bk.term.a=-1 then 0 else v2 bk.term.a) m2.pay else if bk.term.kind=5 then .trap 1 0 m2.pay else tJ K.E (xW K.E r) blocks n (wK bk.term (v2 bk.term.a)).block ((wK bk.term (v2 bk.term.a)).args.map v2) v2 m2.pay)=RES:=c;have b8:=Ja h9;have e5:=Ja d6;have A7:=Ja (Jb d c7);have u5:=Ja s4;clear d1 c s4 d6 d c7 HJ h9 o4 g
        by_cases b5:m2.fuel<=0
        ·have c:=u5.out;rw[if_pos b5] at c;have c9:=Ja c;have d0:=Ja b5;clear c b5;go_wp2_with (go_at_call 113;go_must (refine(a9 b8.out d0.out).mono ?_;rintro e w3 ⟨rfl,b4,b7⟩))
         go_ret;rw[<-c9.out];exact⟨rfl,⟨y4,ov2,m2.fuel-1,b4⟩,e5.out.frm.trans b7⟩
        ·have c:=u5.out;rw[if_neg b5] at c;have j0:=Ja c;have d0:=Ja (show 0<m2.fuel by omega);clear c b5;go_upto_region 27 with(go_at_call 113;go_must (refine(bL b8.out d0.out).mono ?_;rintro e w3 ⟨rfl,b4,b7⟩))
         have r3:=e5.out.step b4 b7;have d:=b7.kept _ _ A7.out.1 (by simp[di]);rw[<-l8.out] at d;have q2:=K2 d;have q3:=K3 d;have q4:=K4 d;have B3:=lt_of_block d;have i0:=Ja b4;have C4:=Ja r3;clear r3 d b4 b7 m3 m7 f6;go_upto_region 30 with fail;have l:=C4.out.alloc (U #[A bk.term.kind,A bk.term.a,.slice ta bk.term.to.length tc] 47);have b0:=i0.out.keep ((Below.refl _ _).alloc (Je _) (U #[A bk.term.kind,A bk.term.a,.slice ta bk.term.to.length tc] 47));have d2:=zI (W:=w3) (o:=(U #[A bk.term.kind,A bk.term.a,.slice ta bk.term.to.length tc] 47)) rfl;generalize w3.alloc (U #[A bk.term.kind,A bk.term.a,.slice ta bk.term.to.length tc] 47)=W4 at *;generalize w3.heap.size=b18 at *;have q0:=K0 d2;have q1:=K1 d2;have u9:=K2 d2;have m6:=lt_of_block d2;have B7:=l.row.2 bk.term.a;have a5:=Ja l;have d9:=Ja b0;have H4:=Ja d2;clear q2 q3 q4 B3 l b0 d2
         by_cases h5:bk.term.kind=5
         ·have c:=j0.out;rw[if_neg Zo,if_pos h5] at c;rw[h5] at q0;have c9:=Ja c;clear c h5;go_wp2_with (go_at_call 112;go_must (refine(ew d9.out 1 0).mono ?_;rintro e w5 ⟨rfl,l5,E0⟩))
          go_ret;rw[<-c9.out];exact vh.trap l5 (a5.out.frm.trans E0)
         ·have t5:(bk.term.kind==5)=false:=by rw[beq_eq_false_iff_ne];exact h5
          obtain⟨va,t⟩:∃va:Nat,(if bk.term.kind=2∨bk.term.kind=3∨(bk.term.kind=4/\bk.term.a≠-1) then v2 bk.term.a else 0)=va:=⟨_,rfl⟩
          have j3:va<65536:=by rw[<-t];split;exact B7;decide
          have f8:=i7.out.2.1.1;have e6:=i6.out.2.2;go_upto_region 34 with fail;obtain⟨q,hq⟩:∃q:Bool,decide (bk.term.kind=2∨bk.term.kind=3∨(bk.term.kind=4/\bk.term.a≠-1))=q:=⟨_,rfl⟩
          have e7:q=true->0<=bk.term.a/\bk.term.a.toNat<N/\va=v2 bk.term.a:=fun e=>by
           rw[e,decide_eq_true_eq] at hq;have:=e6 bk.term.a (by unfold mE ut;rcases hq with h|h|⟨h,h2⟩<;>rw[h]<;>simp<;>omega);rw[if_pos hq] at t;exact⟨this.1,this.2,t.symm⟩
          have d5:q=false->va=0:=fun e=>by
           rw[e,decide_eq_false_iff_not] at hq;rw[if_neg hq] at t;exact t.symm
          have z4:=Ja (Jb e7 d5)
          go_cut [157] (fun xv wx=>xv=.bool q/\wx=W4)
          case first=>
           have r6:(bk.term.kind=1/\q=false)∨(bk.term.kind=2/\q=true)∨(bk.term.kind=3/\q=true)∨(bk.term.kind=4/\bk.term.a=-1/\q=false)∨(bk.term.kind=4/\0<=bk.term.a/\q=true):=by
            rcases f8 with e|e|e|e|e
            ·exact .inl ⟨e,by rw[<-hq];exact decide_eq_false Zo⟩
            ·exact .inr (.inl ⟨e,by rw[<-hq];exact decide_eq_true Zo⟩)
            ·exact .inr (.inr (.inl ⟨e,by rw[<-hq];exact decide_eq_true Zo⟩))
            ·by_cases ea:bk.term.a=-1
             ·exact .inr (.inr (.inr (.inl ⟨e,ea,by rw[<-hq];exact decide_eq_false Zo⟩)))
             ·have w0:q=true:=by rw[<-hq];exact decide_eq_true Zo
              exact .inr (.inr (.inr (.inr ⟨e,(e7 w0).1,w0⟩)))
            ·exact absurd e h5
           clear f8 e6 t h5 t5 e7 d5 hq;rcases r6 with⟨e,e2⟩|⟨e,e2⟩|⟨e,e2⟩|⟨e,e3,e2⟩|⟨e,e3,e2⟩
           ·subst e2;rw[e] at q0;clear e;go_wp2;go_meet;exact⟨rfl,rfl⟩
           ·subst e2;rw[e] at q0;clear e;go_wp2;go_meet;exact⟨rfl,rfl⟩
           ·subst e2;rw[e] at q0;clear e;go_wp2;go_meet;exact⟨rfl,rfl⟩
           ·subst e2;rw[e] at q0;rw[e3] at q1;clear e e3;go_wp2;go_meet;exact⟨rfl,rfl⟩
           ·subst e2;rw[e] at q0;clear e;go_wp2;go_meet;exact⟨rfl,rfl⟩
          case rest=>
          obtain⟨rfl,rfl⟩:=hcut
          go_upto_if 157 with fail
          go_cut [19] (fun xv wx=>xv=I va/\wx=wc)
          case first=>
           have t6:=Ja a5.out.row;clear f8 e6 t h5 t5 e7 d5 hq
           cases q with
           |false=>
            have e2:=z4.out.2 rfl;subst e2;go_wp2;go_meet
            exact⟨rfl,rfl⟩
           |true=>
            obtain⟨e3,e4,e2⟩:=z4.out.1 rfl;obtain⟨ka,x2⟩:∃ka:Nat,bk.term.a=(ka:Int):=⟨bk.term.a.toNat,by omega⟩
            rw[x2] at q1 e2;have E3:=t6.out.cell (k:=ka) Zo;rw[<-e2] at E3;have G3:(ka:Int)<(N:Int):=Zo;have H6:=lt_of_block t6.out.1;clear e2 e3 e4 x2;go_wp2;go_meet;exact⟨rfl,rfl⟩
          case rest=>
           obtain⟨rfl,rfl⟩:=hcut
           by_cases h4:bk.term.kind=4
           ·have c:=j0.out;rw[if_pos h4] at c
            have v4:(if bk.term.a=-1 then 0 else v2 bk.term.a)=va:=by
             rw[<-t]
             by_cases ea:bk.term.a=-1
             ·rw[if_pos ea,if_neg Zo]
             ·rw[if_neg ea,if_pos Zo]
            rw[v4] at c;have c9:=Ja c;rw[h4] at q0;clear c h4 v4 t f8 e6 h5 t5 e7 d5 hq;go_wp2;go_ret;rw[<-c9.out];exact vh.ok d9.out a5.out.frm j3
           ·generalize wc=W5 at *;have c:=j0.out;rw[if_neg h4,if_neg h5] at c;have k5:bk.term.kind=1∨bk.term.kind=2∨bk.term.kind=3:=Zo;have t4:(bk.term.kind==4)=false:=by rw[beq_eq_false_iff_ne];exact h4
            have c3:=i7.out.2.1
            have B8:1<=bk.term.to.length:=by
             rcases k5 with e|e|e
             ·exact c3.2.1 e
             ·have:=c3.2.2.1 e;omega
             ·exact c3.2.2.2.1 e
            have v6:ez bk.term (v2 bk.term.a)=ez bk.term va:=by
             unfold ez;rcases k5 with e|e|e
             ·rw[if_neg Zo,if_neg Zo,if_neg Zo,if_neg Zo]
             ·rw[if_pos Zo] at t;rw[t]
             ·rw[if_pos Zo] at t;rw[t]
            have d4:=lL c3 h4 h5 (v2 bk.term.a);have a4:=c3.2.2.2.2 _ d4;rw[cT,v6] at c d4 a4
            have n9:ez bk.term va<bk.term.to.length:=by
             unfold ez
             split
             ·have:=c3.2.2.1 Zo;omega
             ·split<;>omega
            have D3:bk.term.to.length<=2000000:=(A4.out.2.2 bk (by rw[<-f4.out];exact blkAt_in Zo)).2.2;have y7:=Ja (fun W=>taken_q W bk.term ta tc va j3 ⟨B8,D3⟩ k5);obtain⟨ti,n8⟩:∃ti,ez bk.term va=ti:=⟨_,rfl⟩
            rw[n8] at y7 c d4 a4 n9;obtain⟨x,j2⟩:∃x,bk.term.to[ti]? =some x:=⟨_,Jd n9⟩
            rw[show bk.term.to.getD ti ⟨0,[]⟩=x by rw[Jj,j2];rfl] at c d4 a4;obtain⟨b3,o3,rfl,a3,x6,F3,ev,x7,n2⟩:=t7.out.2.2.1.get j2;obtain⟨ea,ec,rfl,_,_⟩:=n2.form
            have G0:x.args.length<=65536:=by
             rw[a4.2.2];have hq:x.block=((x.block.toNat:Nat):Int):=Zo;rw[hq];exact(A2.out _ (Ji (rh a4.2.1))).2.2
            have v5:∀y∈x.args,0<=y/\y.toNat<N:=fun y hy=>e6 y (by unfold mE;rw[Jl];right;exact List.mem_flatten.2 ⟨x.args,Nu.2 ⟨x,Ji j2,rfl⟩,hy⟩)
            have i3:=zV a5.out.frm.below a3 x6;have r5:=zV a5.out.frm.below a3 x7;have v0:b3<W5.heap.size:=Jw _ _ i3;have l7:=Ja (show ∀W:World,F W5 W->G W b18 0 (A bk.term.kind)/\G W b18 1 (A bk.term.a)/\G W b18 2 (.slice (some ⟨b3,o3,none⟩) bk.term.to.length tc)/\G W b3 (o3+ti*2) (A x.block)/\G W b3 (o3+ti*2+1) (.slice ea x.args.length ec) from fun W hb=>⟨zV hb m6 q0,zV hb m6 q1,zV hb m6 u9,zV hb v0 i3,zV hb v0 r5⟩);have F7:(ti:Int)<bk.term.to.length:=Zo;have i1:=Ja (Jb c (Jb a4 (Jb n2 v5)));clear c d4 a4 n2 v5 x6 x7 j2 n8 v6 c3 f8 e6 t h5 t5 h4 e7 d5 hq a3 n9 k5 i3 r5;go_upto_region 38 with fail
            go_cut [20] (fun bv wx=>∃b20:Nat,bv=Q b20/\Hid (L wx b20 #[A x.block,.slice ea x.args.length ec] 75/\F W5 wx/\W5.heap.size<=b20))
            case first=>
             go_region_held3 (fun w'=>G w' b18 0 (A bk.term.kind)/\G w' b18 1 (A bk.term.a)/\G w' b18 2 (.slice (some ⟨b3,o3,none⟩) bk.term.to.length tc)/\G w' b3 (o3+ti*2) (A x.block)/\G w' b3 (o3+ti*2+1) (.slice ea x.args.length ec))
              ((refine l7.out _ ?_;repeat' (first|with_reducible exact Below.refl _ _|with_reducible assumption|with_reducible refine Below.drew ?_|with_reducible refine Below.alloc ?_ Zn _|with_reducible refine Below.setCell ?_ Zn _)))
              (first
                |(go_at_call 115
                  refine(y7.out _).mono ?_;rintro e y1 ⟨rfl,c8⟩;have f7:F W5 y1:=Below.trans Zb (c8.mono Zn);have aw:=f7.size
                  first|(have f9:L y1 W5.heap.size #[A 0,O] 75:=zH c8 (show(World.alloc W5 _).heap[W5.heap.size]? =_ from zI rfl) Zs;have e0:=zA (i:=0) f9 rfl;have e1:=zA (i:=1) f9 rfl;have ef:∀i,T y1 W5.heap.size i:=fun i=>zE f9;have el:=lt_of_block f9)|skip
                  clear c8))
             all_goals go_wp2_with fail
             all_goals go_meet
             all_goals first
              |exact⟨_,rfl,Ja ⟨zI rfl,f7.alloc f7.size _,f7.size⟩⟩
              |exact⟨_,rfl,Ja ⟨by have z0:=zD f9 (i:=0) (.int .i64 x.block);have z1:=zD z0 (i:=1) (.slice ea x.args.length ec);simpa using z1,(f7.setCell (Je _) _).setCell (Je _) _,Je _⟩⟩
            case rest=>
             obtain⟨b20,rfl,f5⟩:=hcut;have a1:=a5.out.keep f5.out.2.1;have B0:=K0 f5.out.1;have A9:=K1 f5.out.1;have v3:=lt_of_block f5.out.1;obtain⟨bi,ov5,l5⟩:=a1.mach;have bh:K.B<wc.heap.size:=l5.size;have F6:vb<wc.heap.size:=lt_of_block a1.row.1;have E9:=Ja (i1.out.2.2.1.below zO a1.frm.below);have f3:=Ja a1;clear a1 l5 l7 q0 q1 u9;generalize wc=W6 at *;go_wp2
             go_loopw [21,22] (fun rv kv wx=>∃k:Nat,k<=x.args.length/\kv=A k/\Hid (wx.ownsRow W6.heap.size 39 1 rv k ((uT v2 x.args k).map vL)/\F W6 wx)) (fun _ kv _=>x.args.length-(intOf kv).toNat)
             case atStart=>exact⟨0,Jt _,rfl,Ja ⟨Jv _ _ _ _,Below.refl _ _⟩⟩
             case round=>
              obtain⟨k6,be,rfl,c2⟩:=hrel;obtain⟨ra,rc,rfl⟩:=zG c2.out.1;have c4:=f3.out.keep c2.out.2;have G9:=zV c2.out.2 v3 A9;have C1:=zV c2.out.2 v3 B0;have F8:=c2.out.2.size;have G8:b20<wr.heap.size:=Zo
              by_cases f1:k6<x.args.length
              ·skip
               have u8:(k6:Int)<x.args.length:=Zo;have u4:=Ja f1;obtain⟨y,hy⟩:∃y,x.args[k6]? =some y:=⟨_,Jd f1⟩
               obtain⟨b6,o6,rfl,D7,r1,F4⟩:=E9.out.get hy;rw[Nk] at r1;have cy:=zV c2.out.2 (show b6<W6.heap.size by omega) r1;have ab:b6<wr.heap.size:=Zo;have D1:=i1.out.2.2.2 y (Ji hy);have C2:=Ja (qH (v:=v2) hy);have G7:=pA (v:=v2) (show k6<=x.args.length by omega);obtain⟨ky,rfl⟩:∃ky:Nat,y=(ky:Int):=⟨y.toNat,by omega⟩
               have G1:(ky:Int)<(N:Int):=Zo;have bm:=c4.row.cell (k:=ky) Zo;have H5:=lt_of_block c4.row.1;have ap:=c4.row.2 (ky:Int);obtain⟨ii,D5,B6,B5,B4⟩:=info_parts Try.info_u16;clear hy r1 f1 c4 D7 D1;generalize v2 (ky:Int)=vy at *;go_wp2_with (at_builtin;go_must (refine wpList_append_lies _ rfl (.tmp 181) (.tmp 190) 36 rfl W6.heap.size 39 ii (I 0) 1 2 Try.underlying36 D5 B6 B5 B4 rfl Zd _ k6 ((uT v2 x.args k6).map vL) rfl (c2.out.1.alloc _) ⟨wr.heap.size,0,none⟩ 1 1 [I vy] rfl rfl (Oi (cs:=#[I vy]) (zI Zs)) (by simp[Value.oneCell']) Zd (by unfold maxLen;omega) Zo Zt (wr.heap.size+1) Zs ?_;intro gq H0 w6 j5 g6 G6 f1;have z3:=Ja (Jb j5 g6);clear j5 g6))
               go_roundw
               case rel=>
                refine⟨k6+1,u4.out,by go_num,Ja ⟨?_,(c2.out.2.alloc Zo _).grown z3.out.2 Zt (fun k hk=>(c2.out.1.lt k hk).1)⟩⟩;rw[C2.out,Js];exact z3.out.1
               case measure=>have:=u4.out;simp[intOf];omega
              ·skip
               obtain rfl:k6=x.args.length:=by omega
               have u8:¬(x.args.length:Int)<x.args.length:=Zo;have e9:=c2.out.1;rw[r8] at e9;have n4:=ms e9 Zs (fun y hy=>by obtain⟨z,_,rfl⟩:=Nu.1 hy;exact c4.row.2 z);obtain⟨q,hq⟩:∃q:Nat,x.block=(q:Int):=⟨x.block.toNat,by have:=i1.out.2.1.1;omega⟩
               rw[hq] at C1;have l3:=i1.out.2.1;have i4:=i1.out.1;rw[hq] at l3 i4
               have u6:Hid (HeadQ K w wr r n blocks vb N q ra x.args.length rc RES):=by
                refine⟨x.args.map v2,v2,m2.pay,c4,n4,?_,?_,?_,?_,i4⟩
                ·intro y b o _ e;have:=bK e9 (by rw[e]);omega
                ·rw[Nr];exact l3.2.2
                ·have:=l3.2.1;rw[Ni] at this;exact this
                ·have h1:=l9.out.2;have h2:=A7.out.2;have h3:=d0.out;simp only[Mach.pay];omega
               clear e9 n4 c4 l3 i4 hq;go_wp2
               go_roundg n
               case measure=>omega
               case rel=>exact⟨q,ra,x.args.length,rc,rfl,rfl,u6⟩
theorem cN (K:MK)(hok:OkProg K.E.p)(hu:UseProg K.E.p):∀r,r<=100->cX K r
 |0,_=>br K hu
 |r+1,h=>ac7 K hok hu r h (cN K hok hu r Zo)
end Go.Proofs.Ytojclalkfhoooaa
