/- Part of a proof. -/
import Derived.Test.YtoahcpkibpomcaaGreatGZls
set_option linter.all false
set_option maxHeartbeats 6400000
set_option maxRecDepth 100000
namespace Go.Proofs.YtoahcpkibpomcaaGreat
open Go.RowKit
theorem bX (p q:Int):∃x:Int,∀(ts:Array TypeId) (t:TypeId) (W:World),(Builtin.max_ ts t #[U p,U q]).run Tryz.prog W=.ok (U x) W:=⟨_,fun ts t W=>run_max_int2 ..⟩
theorem blkAt_in {blocks:List IBlk}{a:Nat}(h:a<blocks.length):xz blocks a∈blocks:=Ji (rh h)
def HeadQ (K:MK)(w0 wx:World)(r n:Nat)(blocks:List IBlk)(vb N:Nat)(at':Nat)(sa:Option Addr)(sn sc:Nat)(R:Res Nat):Prop:=
 ∃(args:List Nat) (v:Int->Nat) (m:Mach),CStQ K w0 wx m vb N v/\wV wx wx.heap.size (.slice sa sn sc) args/\(∀y b o,y∈args->sa=some ⟨b,o,none⟩->b≠vb)/\args.length=(xz blocks at').params.length/\at'<blocks.length/\m.fuel.toNat<n/\tJ K.E (xW K.E r) blocks n at' args v m=R
def OpsQ (K:MK)(w0 wx:World)(r:Nat)(vb N b12:Nat)(cs:Array Value)(m1:Mach)(os:List IOp)(R:Res (Int->Nat)):Prop:=
 ∃(v:Int->Nat) (m:Mach),CStQ K w0 wx m vb N v/\Q wx b12 cs 84/\m.fuel<=m1.fuel/\iq K.E (xW K.E r) os v m=R
theorem mk_row (N:Nat)(c:N<=65536)(W:World):(Instr.makeSlice 48 (U N) (U N)).run Tryz.prog W=.ok (T W.heap.size N N) (W.alloc (G (madeCells #[O 0] N) 43)):=by
 have h:=run_make_row' (P:=Tryz.prog) 48 43 (O 0) 2 Tryz.underlying48 Tryz.info_u16 rfl .i64 .i64 N Zo Zo W;exact h
theorem br (K:MK)(hu:UseProg K.E.p):cX K 0:=by
 intro w m dp ov av f args h b0 j ha hl d2;obtain⟨aa,ac,rfl,_,_⟩:=ha.form;obtain⟨k,rfl⟩:∃k:Nat,f=(k:Int):=⟨f.toNat,by omega⟩
 have i:=h.prog.funcs;obtain⟨fa,fc,a0,_,_⟩:=i.form;have c0:=h.c0;rw[a0] at i c0;have a5:k<K.E.p.funcs.length:=Zo;obtain⟨blocks,o⟩:∃bl,K.E.p.funcs[k]? =some bl:=⟨_,Jd a5⟩
 obtain⟨fb,fo,rfl,a1,bv,l,t⟩:=i.get o;rw[Nk] at l;obtain⟨ba,bc,rfl,_,c7⟩:=t.form;have d4:(k:Int)<K.E.p.funcs.length:=Zo;obtain⟨dx,d5⟩:=bX dp 101;have b1:=hu.cnt blocks (Ji o);obtain⟨N,hN⟩:∃N:Nat,aaG blocks=(N:Int):=⟨(aaG blocks).toNat,by omega⟩
 have b4:N<=65536:=Zo;have y:=hu.sz blocks (Ji o);have c8:=h.lt;have c11:=h.c11;have b5:=h.free 11;have hB:=h.size;have d1:fb<w.heap.size:=Zo;have h1:=h.put 11 (U dx) (m':=m) (tr':=none) (dp':=dx) rfl rfl rfl h.obd h.fuel h.inp h.pol;have a2:=h.frm 11 (U dx);have H1:=Ja (Jb h1 a2);have d7:=Ja (Jb t y);have b9:=Ja a1
 have c3:=Ja (show ∀W,Below K.B w W->I 17 #[.agg #[.slice ba blocks.length bc]] W (afl W (N:Int)) from fun W hb=>by
  have:=jr (t.below yT hb) (Jn (Qd hB) hb.size) y;rw[hN] at this
  exact this)
 have b8:=Ja a0;have hI:(100:Int)<101:=Zo;have a6:=zV (Below.refl _ _) a1 l;clear a1 h i a0 a5 b0 j t o ha hl hu h1 a2 b1 hN y a6;have d3:=mk_row N b4;go_enter Tryz.func47,Tryz.ntmps47;go_upto_region 4 with fail;generalize b3:w.setCell ⟨K.pm,11,none⟩ (U dx)=W1 at *;clear b3 c11 b5;go_upto_region 7 with(go_at_call 101;go_must (refine(ew H1.out.1 5 0).mono ?_;rintro e w2 ⟨rfl,g,j⟩))
 have b2:=g.c0;rw[b8.out] at b2;have d0:=g.lt;have u:=H1.out.2.trans j;have c5:=zV u.below b9.out l;have c4:fb<w2.heap.size:=by have:=u.below.size;omega
 have x:=Ja (Jb g u);clear g j u c0 l;go_upto_region 8 with(go_at_call 17;go_must (refine(c3.out _ x.out.2.below).mono ?_;rintro e w3 ⟨rfl,a3⟩;have d:=x.out.1.keep a3;have b6:=d.c10;have a7:=d.lt;have a4:=Ja (Jb d (x.out.2.trans (FrmQ.ofBelow a3 (Qd x.out.1.size))));clear d a3))
 have c:=a4.out.1.keep ((Below.refl _ _).alloc (Je _) (G (madeCells #[O 0] N) 43));have c2:=Ja (a4.out.2.trans ((FrmQ.refl K.B w3).alloc (Qd a4.out.1.size) (G (madeCells #[O 0] N) 43)));have d6:=c.c10;have c9:=c.lt;have b7:=Ja c;clear c b6 a7;generalize w3.alloc (G (madeCells #[O 0] N) 43)=w4 at *;generalize w3.heap.size=vb at *;go_wp2
 go_loopw [11] (fun _ wx=>wx=w4) (fun _ _=>0)
 case atStart=>rfl
 case round=>
  subst hrel;go_wp2;go_ret;exact vh.trap b7.out c2.out
theorem U16s.setCell {w:World}{B:Nat}{a:Option Addr}{n c pm i:Nat}{u:Value}{xs:List Nat}(h:wV w B (.slice a n c) xs)(d:∀b o,a=some ⟨b,o,none⟩->xs≠ []->b≠pm):wV (w.setCell ⟨pm,i,none⟩ u) B (.slice a n c) xs:=by
 obtain⟨a',t,e,h1,h2,h3⟩:=h;cases e;refine⟨a,c,rfl,h1,h2,fun k x hk=>?_⟩;obtain⟨b,o,g,m,l,j⟩:=h3 k x hk;refine⟨b,o,g,m,?_,j⟩;have:=d b o g (by rintro rfl;simp at hk);rw[<-l];exact Oo (Below.heap_setCell _ _ _ _ (by show b≠pm;exact this))
theorem CStQ.drew {K:MK}{w0 w:World}{m:Mach}{vb N:Nat}{v:Int->Nat}(h:CStQ K w0 w m vb N v):CStQ K w0 w.drew m vb N v:=h.keep (Below.refl _ _).drew
theorem ac7 (K:MK)(w9:OkProg K.E.p)(hu:UseProg K.E.p)(r:Nat)(hr:r+1<=100)(hC:cX K r):cX K (r+1):=by
 intro w m dp ov av f args h D7 c7 ha hl x0;obtain⟨aa,ac,rfl,_,_⟩:=ha.form;obtain⟨k,rfl⟩:∃k:Nat,f=(k:Int):=⟨f.toNat,by omega⟩
 have l2:=h.prog.funcs;obtain⟨fa,fc,r1,_,_⟩:=l2.form;have c0:=h.c0;rw[r1] at l2 c0;have x3:k<K.E.p.funcs.length:=Zo;obtain⟨blocks,d7⟩:∃bl,K.E.p.funcs[k]? =some bl:=⟨_,Jd x3⟩
 obtain⟨fb,fo,rfl,x8,bv,g9,l5⟩:=l2.get d7;rw[Nk] at g9;obtain⟨ba,bc,rfl,_,G5⟩:=l5.form;have x6:K.E.p.funcs.getD (k:Int).toNat []=blocks:=by rw[Ni,Jj,d7];rfl
 have az:(k:Int)<K.E.p.funcs.length:=Zo;have r4:(101-((r+1:Nat):Int))=100-(r:Int):=Zo;have bh:¬(100:Int)<100-(r:Int):=Zo;obtain⟨dx,bg⟩:=bX dp (100-(r:Int));have a7:=hu.cnt blocks (Ji d7);obtain⟨N,hN⟩:∃N:Nat,aaG blocks=(N:Int):=⟨(aaG blocks).toNat,by omega⟩
 have E0:N<=65536:=Zo;have o9:=hu.sz blocks (Ji d7);have n9:=hu.blk blocks (Ji d7);rw[show(aaG blocks).toNat=N by omega] at n9
 have n6:xW K.E (r+1) k args m=if blocks.isEmpty then .trap 8 ((k:Int)%65536).toNat m else tJ K.E (xW K.E r) blocks (m.fuel.toNat+1) 0 args (fun _=>0) m:=by
  show(if(K.E.p.funcs.getD (k:Int).toNat []).isEmpty then _ else _)=_
  rw[x6]
 have H8:=h.lt;have c11:=h.c11;have y5:=h.free 11;have hB:=h.size;have ab:fb<w.heap.size:=Zo;have h1:=h.put 11 (U dx) (m':=m) (tr':=none) (dp':=dx) rfl rfl rfl h.obd h.fuel h.inp h.pol;have r3:=h.frm 11 (U dx);have y3:=U16s.setCell (i:=11) (u:=U dx) ha (fun b o e hn=>x0 b o _ _ (by rw[e]) hn);have H1:=Ja (Jb h1 (Jb r3 (Jb y3 hl)));have A5:=Ja (Jb l5 o9);have A0:=Ja x8
 have A1:=Ja (show ∀W,Below K.B w W->I 17 #[.agg #[.slice ba blocks.length bc]] W (afl W (N:Int)) from fun W hb=>by
  have:=jr (l5.below yT hb) (Jn (Qd hB) hb.size) o9;rw[hN] at this
  exact this)
 have z9:=Ja r1;have HC:=Ja hC;have u4:=Ja w9;have A4:=Ja d7;have E6:=Ja n9;have H4:=Ja (h.fuel.2.2 rfl);rw[r4];have z4:=Ja n6;have ax:=mk_row N E0;clear h l2 r1 x3 D7 c7 x6 l5 hC w9 d7 ha hl x0 r4 n6 hu h1 r3 a7 hN o9 n9 x8 y3
 by_cases h0:blocks.length=0
 ·have t1:((blocks.length:Int)==0)=true:=by rw[beq_iff_eq];omega
  have EE:=Ja (show xW K.E (r+1) k args m=.trap 8 ((k:Int)%65536).toNat m by rw[z4.out,if_pos (by rw[List.isEmpty_iff];exact Nz h0)]);obtain⟨q,hq⟩:∃q:Nat,((k:Int)%65536).toNat=q:=⟨_,rfl⟩
  have an:IntKind.u16.wrap (k:Int)=(q:Int):=by rw[xY];omega
  rw[hq] at EE;clear h0 hq;go_enter Tryz.func47,Tryz.ntmps47;go_upto_region 5 with fail;generalize h8:w.setCell ⟨K.pm,11,none⟩ (U dx)=W1 at *;clear h8 c11 y5;go_upto_region 7 with(go_at_call 101;go_must (refine(ew H1.out.1 8 q).mono ?_;rintro e w2 ⟨rfl,k9,c7⟩))
  have l4:=k9.c0;rw[z9.out] at l4;have f6:=k9.lt;have l9:=H1.out.2.1.trans c7;have s7:=zV l9.below A0.out g9;have n0:fb<w2.heap.size:=by have:=l9.below.size;omega
  have b8:=Ja (Jb k9 l9);clear k9 c7 l9 c0 g9;go_upto_region 8 with(go_at_call 17;go_must (refine(A1.out _ b8.out.2.below).mono ?_;rintro e w3 ⟨rfl,a3⟩;have k7:=b8.out.1.keep a3;have E3:=k7.c10;have C8:=k7.lt;have i0:=Ja (Jb k7 (b8.out.2.trans (FrmQ.ofBelow a3 (Qd b8.out.1.size))));clear k7 a3))
  have k5:=i0.out.1.keep ((Below.refl _ _).alloc (Je _) (G (madeCells #[O 0] N) 43));have F2:=Ja (i0.out.2.trans ((FrmQ.refl K.B w3).alloc (Qd i0.out.1.size) (G (madeCells #[O 0] N) 43)));have y4:=k5.c10;have H9:=k5.lt;have d9:=Ja k5;clear k5 E3 C8;generalize w3.alloc (G (madeCells #[O 0] N) 43)=w4 at *;generalize w3.heap.size=vb at *;go_wp2
  go_loopw [11] (fun _ wx=>wx=w4) (fun _ _=>0)
  case atStart=>rfl
  case round=>
   subst hrel;go_wp2;go_ret;rw[EE.out];exact vh.trap d9.out F2.out
 ·have t1:((blocks.length:Int)==0)=false:=Ze;have EE:=Ja (show xW K.E (r+1) k args m=tJ K.E (xW K.E r) blocks (m.fuel.toNat+1) 0 args (fun _=>0) m by rw[z4.out,if_neg (by rw[List.isEmpty_iff];intro e;exact h0 (by rw[e];rfl))]);obtain⟨RES,j0⟩:∃R,xW K.E (r+1) k args m=R:=⟨_,rfl⟩
  rw[j0];have A3:=Ja (show ∀b∈blocks,OkBlk K.E.p blocks b from u4.out.blk blocks (Ji A4.out));have A7:=Ja h0;have E8:=Ja j0;clear h0 j0;go_enter Tryz.func47,Tryz.ntmps47;go_upto_region 5 with fail;generalize h8:w.setCell ⟨K.pm,11,none⟩ (U dx)=W1 at *;clear h8 c11 y5;go_upto_region 7 with fail;have l4:=H1.out.1.c0;rw[z9.out] at l4;have f6:=H1.out.1.lt;have s7:=zV H1.out.2.1.below A0.out g9;have n0:fb<W1.heap.size:=by have:=H1.out.2.1.below.size;omega
  clear c0 g9;go_upto_region 8 with(go_at_call 17;go_must (refine(A1.out _ H1.out.2.1.below).mono ?_;rintro e w3 ⟨rfl,a3⟩))
  have h6:Y W1 (w3.alloc (G (madeCells #[O 0] N) 43)):=a3.alloc a3.size _
  have p1:Hid (HeadQ K w (w3.alloc (G (madeCells #[O 0] N) 43)) r (m.fuel.toNat+1) blocks w3.heap.size N 0 aa args.length ac RES):=by
   have G0:W1.heap.size=w.heap.size∨w.heap.size<=W1.heap.size:=.inr H1.out.2.1.below.size;refine⟨args,fun _=>0,m,⟨⟨dx,ov,H1.out.1.keep h6⟩,H1.out.2.1.trans (FrmQ.ofBelow h6 (Qd H1.out.1.size)),dA.made (zI rfl),Jn H1.out.2.1.below.size a3.size,hB⟩,?_,?_,?_,by have:=A7.out;omega,by omega,?_⟩
   ·exact(H1.out.2.2.1.below zr (h6.mono H1.out.2.1.below.size)).mono zr (Jn H1.out.2.1.below.size h6.size)
   ·intro y b o hy e;obtain⟨j,hj⟩:=Ny hy;obtain⟨b',o',e',x2,_⟩:=H1.out.2.2.1.get hj;rw[e] at e';cases e';have:=H1.out.2.1.below.size;have:=a3.size;omega
   ·obtain⟨b,bs,rfl⟩:∃b bs,blocks=b::bs:=by
     cases blocks with
     |nil=>exact absurd rfl A7.out
     |cons b bs=>exact⟨b,bs,rfl⟩
    have h1:=u4.out.par k b bs A4.out;have h2:=H1.out.2.2.2;rw[Ni] at h2
    show args.length=b.params.length
    omega
   ·rw[<-E8.out,EE.out];rfl
  generalize w3.alloc (G (madeCells #[O 0] N) 43)=w4 at *;generalize w3.heap.size=vb at *;generalize C0:m.fuel.toNat+1=gas at p1;clear C0 a3 h6 f6 l4 s7 n0;go_wp2
  go_loopg [2,11] gas (fun n sv atv wx=>∃(at':Nat) (sa:Option Addr) (sn sc:Nat),sv=.slice sa sn sc/\atv=U at'/\Hid (HeadQ K w wx r n blocks vb N at' sa sn sc RES))
  case atStart=>exact⟨0,aa,args.length,ac,rfl,rfl,p1⟩
  case round=>
   obtain⟨at',sa,sn,sc,rfl,rfl,HS⟩:=hrel
   cases gk with
   |zero=>obtain⟨_,_,m1,_,_,_,_,_,x2,_⟩:=HS.out;exact absurd x2 (Nat.not_lt_zero _)
   |succ n=>
    obtain⟨args1,v1,m1,a7,f2,p3,y2,l7,x7,c⟩:=HS.out;obtain⟨sa',sc',e1,_,_⟩:=f2.form;cases e1;have C1:=A5.out.1.get (rh l7);have q6:=A3.out _ (Ji (rh l7));have n8:=E6.out _ (Ji (rh l7));generalize s9:xz blocks at'=bk at *;have f4:=Ja s9;obtain⟨bb,bo,rfl,d8,k2,k3,x4,pv,ov1,tv,kp,ko,kt,p5,p8,o0⟩:=C1;have k2:=zV a7.frm.below d8 k2;have k3:=zV a7.frm.below d8 k3;have kp:=zV a7.frm.below d8 kp;have ko:=zV a7.frm.below d8 ko;have kt:=zV a7.frm.below d8 kt;have D0:bb<wr.heap.size:=by have:=a7.gb;have:=a7.frm.below.size;omega
    obtain⟨pa,pc,rfl,_,_⟩:=p5.form;obtain⟨oa,oc,rfl,_,_⟩:=p8.form;obtain⟨ta,tc,rfl,_,_⟩:=o0.form;have G6:(at':Int)<blocks.length:=Zo;obtain⟨bm,ov0,q7⟩:=a7.mach;have y4:A wr K.pm 10 (.bool false):=q7.c10;have C9:=q7.lt;have A2:=Ja a7;have a6:=Ja (Jb f2 (Jb y2 p3));have m5:=Ja (Jb c x7);have j2:=Ja q6;have j1:=Ja n8;have u1:=Ja (Jb p5 (Jb p8 (Jb o0 x4)));clear p1 HS a7 f2 y2 p3 x7 c q6 n8 s9 p5 p8 o0 x4 l7 q7;go_upto_region 11 with fail;have s2:=A2.out.alloc (G #[.slice pa bk.params.length pc,.slice oa bk.ops.length oc,U bk.term.kind,U bk.term.a,.slice ta bk.term.to.length tc] 84);have d:=zI (W:=wr) (o:=G #[.slice pa bk.params.length pc,.slice oa bk.ops.length oc,U bk.term.kind,U bk.term.a,.slice ta bk.term.to.length tc] 84) rfl;have h7:=(a6.out.1.below zr ((Below.refl _ _).alloc (Je _) (G #[.slice pa bk.params.length pc,.slice oa bk.ops.length oc,U bk.term.kind,U bk.term.a,.slice ta bk.term.to.length tc] 84))).mono zr (B':=(wr.alloc (G #[.slice pa bk.params.length pc,.slice oa bk.ops.length oc,U bk.term.kind,U bk.term.a,.slice ta bk.term.to.length tc] 84)).heap.size) Zs;have x1:wr.heap.size≠vb:=by have:=lt_of_block A2.out.row.1;omega
    generalize h8:wr.alloc (G #[.slice pa bk.params.length pc,.slice oa bk.ops.length oc,U bk.term.kind,U bk.term.a,.slice ta bk.term.to.length tc] 84)=W2 at *;generalize wr.heap.size=b12 at *;have u6:=Ja x1;have z6:=Ja (show CStQ K w W2 m1 vb N v1/\wV W2 W2.heap.size (.slice sa args1.length sc) args1/\Q W2 b12 #[.slice pa bk.params.length pc,.slice oa bk.ops.length oc,U bk.term.kind,U bk.term.a,.slice ta bk.term.to.length tc] 84 from⟨s2,h7,d⟩);clear h8 s2 h7 d k2 k3 kp ko kt D0 y4 C9 x1;go_wp2
    go_loopw [13] (fun jv wx=>∃j:Nat,j<=bk.params.length/\jv=U j/\Hid (CStQ K w wx m1 vb N (r7 (bk.params.take j) (args1.take j) v1)/\wV wx wx.heap.size (.slice sa args1.length sc) args1/\Q wx b12 #[.slice pa bk.params.length pc,.slice oa bk.ops.length oc,U bk.term.kind,U bk.term.a,.slice ta bk.term.to.length tc] 84)) (fun jv _=>bk.params.length-(intOf jv).toNat)
    case atStart=>exact⟨0,Jt _,rfl,z6⟩
    case round=>
     obtain⟨j,hj,rfl,HJ⟩:=hrel;have A9:=K0 HJ.out.2.2;have ah:=lt_of_block HJ.out.2.2
     by_cases a0:j<bk.params.length
     ·skip
      have f0:(j:Int)<bk.params.length:=Zo;have c5:=Ja a0;obtain⟨x,hx⟩:∃x,bk.params[j]? =some x:=⟨_,Jd a0⟩
      obtain⟨y,hy⟩:∃y,args1[j]? =some y:=⟨_,Jd (by rw[a6.out.2.1];exact a0)⟩
      obtain⟨b1,o1,rfl,c8,s6,F6⟩:=u1.out.1.get hx;rw[Nk] at s6;have cp:=zV HJ.out.1.frm.below c8 s6;obtain⟨b2,o2,rfl,D9,s5,n3⟩:=HJ.out.2.1.get hy;rw[Nk] at s5;have al:(j:Int)<args1.length:=by have:=a6.out.2.1;omega
      have p4:=qq (bk.params.take j) (args1.take j) v1 x y (by have:=a6.out.2.1;rw[Oc,Oc];omega);have e1:bk.params.take (j+1)=bk.params.take j++ [x]:=by rw[Nh,hx];rfl
      have e2:args1.take (j+1)=args1.take j++ [y]:=by rw[Nh,hy];rfl
      rw[<-e1,<-e2] at p4;have D3:=j1.out.1 x (Ji hx);have t2:=a6.out.2.2 y b2 o2 (Ji hy) rfl;obtain⟨kx,rfl⟩:∃kx:Nat,x=(kx:Int):=⟨x.toNat,by omega⟩
      have q8:kx<N:=Zo;have G3:(kx:Int)<(N:Int):=Zo;have E7:=Ja p4;have t3:b1≠vb:=by have:=HJ.out.1.new;have:=HJ.out.1.gb;omega
      have m0:=Ja (show ∀W:World,(∀k,k≠vb->W.heap[k]? =wr.heap[k]?)->A W b12 0 (.slice (some ⟨b1,o1,none⟩) bk.params.length pc)/\A W b1 (o1+j) (U kx)/\A W b2 (o2+j) (O y) from fun W hW=>⟨(Oo (hW b12 u6.out)).trans A9,(Oo (hW b1 t3)).trans cp,(Oo (hW b2 t2)).trans s5⟩);have ag:b1<wr.heap.size:=Jw _ _ cp;have af:b2<wr.heap.size:=Jw _ _ s5;have cv:=HJ.out.1.row.cell q8;have fv:=HJ.out.1.row.free kx;have lv:=lt_of_block HJ.out.1.row.1;have HY:=Ja n3;have F1:=Ja hy;clear hx hy s6 p4 e1 e2 c8 a0 D3 t2 q8 t3 n3 D9;go_upto_region 14 with fail
      go_region_held3 (fun w'=>A w' b12 0 (.slice (some ⟨b1,o1,none⟩) bk.params.length pc)/\A w' b1 (o1+j) (U kx)/\A w' b2 (o2+j) (O y))
       ((refine m0.out _ ?_;rintro k D5;repeat' (first|(rw[Below.heap_setCell _ _ _ _ (by show k≠vb;exact D5)])|(rw[show ∀v:World,v.drew.heap=v.heap from fun _=>rfl])|exact rfl)))
       (fail)
      all_goals go_wp2_with fail
      all_goals go_roundw
      case rel=>
       refine⟨j+1,c5.out,by go_num,Ja ⟨?_,?_,?_⟩⟩
       ·rw[E7.out];exact(HJ.out.1.set HY.out).drew
       ·have h1:=U16s.setCell (pm:=vb) (i:=kx) (u:=O y) HJ.out.2.1 (fun b o e _=>a6.out.2.2 y b o (Ji F1.out) e);exact(h1.below zr (Below.refl _ _).drew).mono zr Zs
       ·exact zR HJ.out.2.2 u6.out
      case measure=>have:=c5.out;simp[intOf];omega
     ·skip
      obtain rfl:j=bk.params.length:=by omega
      have f0:¬(bk.params.length:Int)<bk.params.length:=Zo;have l1:r7 (bk.params.take bk.params.length) (args1.take bk.params.length) v1=r7 bk.params args1 v1:=by rw[Nl,<-a6.out.2.1,Nl]
      have HQ:=HJ.out;rw[l1] at HQ;have H3:=K1 HQ.2.2;obtain⟨OR,t7⟩:∃R,iq K.E (xW K.E r) bk.ops (r7 bk.params args1 v1) m1=R:=⟨_,rfl⟩
      have u2:=Ja t7;generalize r6:(#[.slice pa bk.params.length pc,.slice oa bk.ops.length oc,U bk.term.kind,U bk.term.a,.slice ta bk.term.to.length tc]:Array Value)=cs at *;have m3:=Ja r6;have p0:Hid (OpsQ K w wr r vb N b12 cs m1 (bk.ops.drop 0) OR):=⟨_,m1,HQ.1,HQ.2.2,Og _,t7⟩
      clear HQ l1 HJ t7 r6 z6;go_wp2
      go_loopw [14] (fun jv wx=>∃j:Nat,j<=bk.ops.length/\jv=U j/\Hid (OpsQ K w wx r vb N b12 cs m1 (bk.ops.drop j) OR)) (fun jv _=>bk.ops.length-(intOf jv).toNat)
      case atStart=>exact⟨0,Jt _,rfl,p0⟩
      case round=>
       obtain⟨j,hj,rfl,HJ⟩:=hrel;obtain⟨v2,m2,d6,d,c7,d1⟩:=HJ.out;obtain⟨z2,ov2,h9⟩:=d6.mach;have g:=d;rw[<-m3.out] at g;have m7:=K1 g;have n2:=lt_of_block d;have f6:=h9.lt
       by_cases a0:j<bk.ops.length
       ·skip
        have f0:(j:Int)<bk.ops.length:=Zo;have c5:=Ja a0;obtain⟨o,ho⟩:∃o,bk.ops[j]? =some o:=⟨_,Jd a0⟩
        have l3:bk.ops.drop j=o::bk.ops.drop (j+1):=by rw[Qn a0];rw[Jd a0] at ho;rw[Nt ho]
        rw[l3,j7] at d1;obtain⟨b1,o1,rfl,c8,g0,g1,g2,g3,g4,r0,av3,g5,n4⟩:=u1.out.2.1.get ho;obtain⟨xa,xc,rfl,_,_⟩:=n4.form;have b8:=Ja h9;have e5:=Ja d6;have C6:=Ja d;have j4:=Ja (Jb c7 d1);have z3:=Ja (Jb n4 r0);have HG:=Ja (Jb c8 (Jb g0 (Jb g1 (Jb g2 (Jb g3 (Jb g4 g5))))));have u3:=Ja (Jb (j2.out.1 o (Ji ho)) (j1.out.2.1 o (Ji ho)));clear d6 d c7 d1 n4 r0 l3 g0 g1 g2 g3 g4 g5 c8 a0 ho h9 g
        by_cases b5:m2.fuel<=0
        ·skip
         have a2:=j4.out.2;rw[if_pos b5] at a2;have c:=m5.out.1;rw[ru,f4.out,u2.out,<-a2] at c;have c9:=Ja c;have d0:=Ja b5;clear a2 c b5;go_wp2_with (go_at_call 102;go_must (refine(a9 b8.out d0.out).mono ?_;rintro e w3 ⟨rfl,b4,b7⟩))
         go_ret;rw[<-c9.out];exact⟨rfl,⟨z2,ov2,m2.fuel-1,b4⟩,e5.out.frm.trans b7⟩
        ·skip
         have a2:=j4.out.2;rw[if_neg b5] at a2;have C4:=Ja a2;have d0:=Ja (show 0<m2.fuel by omega);clear a2 b5;go_upto_region 19 with(go_at_call 102;go_must (refine(bL b8.out d0.out).mono ?_;rintro e w3 ⟨rfl,b4,b7⟩))
         have l:=e5.out.step b4 b7;have d:=b7.kept _ _ C6.out (by simp[di]);have g:=d;rw[<-m3.out] at g;have B3:=K1 g;have B2:=lt_of_block d;have q0:=zV l.frm.below HG.out.1 HG.out.2.1;have q1:=zV l.frm.below HG.out.1 HG.out.2.2.1;have q2:=zV l.frm.below HG.out.1 HG.out.2.2.2.1;have q3:=zV l.frm.below HG.out.1 HG.out.2.2.2.2.1;have q4:=zV l.frm.below HG.out.1 HG.out.2.2.2.2.2.1;have q5:=zV l.frm.below HG.out.1 HG.out.2.2.2.2.2.2;have C7:b1<w3.heap.size:=Jw _ _ q0;have b9:=step_q b4 u4.out u3.out.1 z3.out.2 ((z3.out.1.below zO l.frm.below).mono zO (Qd b4.size)) l.row u3.out.2.1 (show r<=100 by omega) HC.out (by have:=b8.out.obd;have:=d0.out;simp only[Mach.pay];omega);unfold aam at b9;have a5:=Ja l;have F3:=Ja d;obtain⟨R3,t6⟩:∃R,oV K.E (xW K.E r) o v2 m2.pay=R:=⟨_,rfl⟩
         have a2:=C4.out;rw[t6] at b9 a2;have E9:=Ja t6;clear l d b4 b7 m7 n2 f6 t6 g
         cases R3 with
         |ok x m4=>
          have t8:=Ja b9;have r2:=pI (pO K.E r) E9.out;have HX:=Ja (Jb a2 r2);clear a2 r2 b9;go_upto_region 22 with(go_at_call 103;go_must (refine t8.out.mono ?_;rintro e w4 ⟨he,⟨y6,ov4,b0⟩,e8,D1⟩;obtain rfl:e=.returned (O x):=he))
          have a1:=a5.out.step b0 e8;have d:=e8.kept _ _ F3.out (by simp[di]);have g:=d;rw[<-m3.out] at g;have s121:=K1 g;have s12l:=lt_of_block d;have s1:=zV a1.frm.below HG.out.1 HG.out.2.2.1;have sbl:b1<w4.heap.size:=Jw _ _ s1;have s10:A w4 K.pm 10 (.bool false):=b0.c10;have slp:=b0.lt;have m6:=Ja d;have f3:=Ja a1;have A6:=Ja (show m4.fuel<=m1.fuel by have h1:=j4.out.1;have h2:=HX.out.2;simp only[Mach.pay] at h2;omega);have srow:=a1.row;clear a1 d g q0 q1 q2 q3 q4 q5 B3 B2 C7 b0 e8
          by_cases k1:0<=o.res
          ·have d3:=HX.out.1;have w7:=u3.out.2.2 k1;obtain⟨kr,q9⟩:∃kr:Nat,o.res=(kr:Int):=⟨o.res.toNat,by omega⟩
           rw[show iq K.E (xW K.E r) (bk.ops.drop (j+1)) (setV v2 o.res x) m4=iq K.E (xW K.E r) (bk.ops.drop (j+1)) (iY v2 (kr:Int) x) m4 by unfold setV;rw[if_pos k1,q9]] at d3;rw[q9] at s1 w7 k1;have u5:=Ja d3;have ay:(kr:Int)<(N:Int):=Zo;have sv:=srow.cell (k:=kr) Zo;have svf:=srow.free kr;have svl:=lt_of_block srow.1;have E5:=Ja D1;clear d3 w7 q9;go_wp2;go_roundw
           case rel=>exact⟨j+1,c5.out,by go_num,Ja ⟨_,m4,f3.out.set E5.out,zR m6.out u6.out,A6.out,u5.out⟩⟩
           case measure=>have:=c5.out;simp[intOf];omega
          ·have d3:=HX.out.1;unfold setV at d3;rw[if_neg k1] at d3;have u5:=Ja d3;clear d3;go_wp2;go_roundw
           case rel=>exact⟨j+1,c5.out,by go_num,Ja ⟨_,m4,f3.out,m6.out,A6.out,u5.out⟩⟩
           case measure=>have:=c5.out;simp[intOf];omega
         |trap k2 i2 m4=>
          have t8:=Ja b9;have c:=m5.out.1;rw[ru,f4.out,u2.out,<-a2] at c;have c9:=Ja c;clear a2 c b9;go_upto_region 22 with(go_at_call 103;go_must (refine t8.out.mono ?_;rintro e w4 ⟨he,⟨y6,ov4,E2,b0⟩,e8⟩;obtain rfl:e=.returned (O 0):=he))
          have s10:A w4 K.pm 10 (.bool true):=b0.c10;have slp:=b0.lt;have d9:=Ja (Jb b0 e8);clear b0 e8;go_wp2;go_ret;rw[<-c9.out];exact⟨rfl,⟨y6,ov4,E2,d9.out.1⟩,a5.out.frm.trans d9.out.2⟩
       ·skip
        obtain rfl:j=bk.ops.length:=by omega
        have f0:¬(bk.ops.length:Int)<bk.ops.length:=Zo;rw[List.drop_length] at d1;have c:=m5.out.1;rw[ru,f4.out,u2.out,<-d1] at c;have s8:(if m2.fuel<=0 then .trap 7 0 m2 else if bk.term.kind=4 then .ok (if bk.term.a=-1 then 0 else v2 bk.term.a) m2.pay else if bk.term.kind=5 then .trap 1 0 m2.pay else tJ K.E (xW K.E r) blocks n (wK bk.term (v2 bk.term.a)).block ((wK bk.term (v2 bk.term.a)).args.map v2) v2 m2.pay)=RES:=c;have b8:=Ja h9;have e5:=Ja d6;have A8:=Ja (Jb d c7);have u9:=Ja s8;clear d1 c s8 d6 d c7 HJ h9 p0 g
        by_cases b5:m2.fuel<=0
        ·have c:=u9.out;rw[if_pos b5] at c;have c9:=Ja c;have d0:=Ja b5;clear c b5;go_wp2_with (go_at_call 102;go_must (refine(a9 b8.out d0.out).mono ?_;rintro e w3 ⟨rfl,b4,b7⟩))
         go_ret;rw[<-c9.out];exact⟨rfl,⟨z2,ov2,m2.fuel-1,b4⟩,e5.out.frm.trans b7⟩
        ·have c:=u9.out;rw[if_neg b5] at c;have j3:=Ja c;have d0:=Ja (show 0<m2.fuel by omega);clear c b5;go_upto_region 27 with(go_at_call 102;go_must (refine(bL b8.out d0.out).mono ?_;rintro e w3 ⟨rfl,b4,b7⟩))
         have s0:=e5.out.step b4 b7;have d:=b7.kept _ _ A8.out.1 (by simp[di]);rw[<-m3.out] at d;have q2:=K2 d;have q3:=K3 d;have q4:=K4 d;have B4:=lt_of_block d;have i0:=Ja b4;have C5:=Ja s0;clear s0 d b4 b7 m7 n2 f6;go_upto_region 30 with fail;have l:=C5.out.alloc (G #[U bk.term.kind,U bk.term.a,.slice ta bk.term.to.length tc] 82);have b0:=i0.out.keep ((Below.refl _ _).alloc (Je _) (G #[U bk.term.kind,U bk.term.a,.slice ta bk.term.to.length tc] 82));have d2:=zI (W:=w3) (o:=(G #[U bk.term.kind,U bk.term.a,.slice ta bk.term.to.length tc] 82)) rfl;generalize w3.alloc (G #[U bk.term.kind,U bk.term.a,.slice ta bk.term.to.length tc] 82)=W4 at *;generalize w3.heap.size=b18 at *;have q0:=K0 d2;have q1:=K1 d2;have v4:=K2 d2;have n1:=lt_of_block d2;have B8:=l.row.2 bk.term.a;have a5:=Ja l;have d9:=Ja b0;have H5:=Ja d2;clear q2 q3 q4 B4 l b0 d2
         by_cases h5:bk.term.kind=5
         ·have c:=j3.out;rw[if_neg Zo,if_pos h5] at c;rw[h5] at q0;have c9:=Ja c;clear c h5;go_wp2_with (go_at_call 101;go_must (refine(ew d9.out 1 0).mono ?_;rintro e w5 ⟨rfl,l8,E1⟩))
          go_ret;rw[<-c9.out];exact vh.trap l8 (a5.out.frm.trans E1)
         ·have t5:(bk.term.kind==5)=false:=by rw[beq_eq_false_iff_ne];exact h5
          obtain⟨va,t⟩:∃va:Nat,(if bk.term.kind=2∨bk.term.kind=3∨(bk.term.kind=4/\bk.term.a≠-1) then v2 bk.term.a else 0)=va:=⟨_,rfl⟩
          have k0:va<65536:=by rw[<-t];split;exact B8;decide
          have f8:=j2.out.2.1.1;have e6:=j1.out.2.2;go_upto_region 34 with fail;obtain⟨q,hq⟩:∃q:Bool,decide (bk.term.kind=2∨bk.term.kind=3∨(bk.term.kind=4/\bk.term.a≠-1))=q:=⟨_,rfl⟩
          have e7:q=true->0<=bk.term.a/\bk.term.a.toNat<N/\va=v2 bk.term.a:=fun e=>by
           rw[e,decide_eq_true_eq] at hq;have:=e6 bk.term.a (by unfold mE ut;rcases hq with h|h|⟨h,h2⟩<;>rw[h]<;>simp<;>omega);rw[if_pos hq] at t;exact⟨this.1,this.2,t.symm⟩
          have d5:q=false->va=0:=fun e=>by
           rw[e,decide_eq_false_iff_not] at hq;rw[if_neg hq] at t;exact t.symm
          have z8:=Ja (Jb e7 d5)
          go_cut [157] (fun xv wx=>xv=.bool q/\wx=W4)
          case first=>
           have s4:(bk.term.kind=1/\q=false)∨(bk.term.kind=2/\q=true)∨(bk.term.kind=3/\q=true)∨(bk.term.kind=4/\bk.term.a=-1/\q=false)∨(bk.term.kind=4/\0<=bk.term.a/\q=true):=by
            rcases f8 with e|e|e|e|e
            ·exact .inl ⟨e,by rw[<-hq];exact decide_eq_false Zo⟩
            ·exact .inr (.inl ⟨e,by rw[<-hq];exact decide_eq_true Zo⟩)
            ·exact .inr (.inr (.inl ⟨e,by rw[<-hq];exact decide_eq_true Zo⟩))
            ·by_cases ea:bk.term.a=-1
             ·exact .inr (.inr (.inr (.inl ⟨e,ea,by rw[<-hq];exact decide_eq_false Zo⟩)))
             ·have w8:q=true:=by rw[<-hq];exact decide_eq_true Zo
              exact .inr (.inr (.inr (.inr ⟨e,(e7 w8).1,w8⟩)))
            ·exact absurd e h5
           clear f8 e6 t h5 t5 e7 d5 hq;rcases s4 with⟨e,e2⟩|⟨e,e2⟩|⟨e,e2⟩|⟨e,e3,e2⟩|⟨e,e3,e2⟩
           ·subst e2;rw[e] at q0;clear e;go_wp2;go_meet;exact⟨rfl,rfl⟩
           ·subst e2;rw[e] at q0;clear e;go_wp2;go_meet;exact⟨rfl,rfl⟩
           ·subst e2;rw[e] at q0;clear e;go_wp2;go_meet;exact⟨rfl,rfl⟩
           ·subst e2;rw[e] at q0;rw[e3] at q1;clear e e3;go_wp2;go_meet;exact⟨rfl,rfl⟩
           ·subst e2;rw[e] at q0;clear e;go_wp2;go_meet;exact⟨rfl,rfl⟩
          case rest=>
          obtain⟨rfl,rfl⟩:=hcut
          go_upto_if 157 with fail
          go_cut [19] (fun xv wx=>xv=O va/\wx=wc)
          case first=>
           have u0:=Ja a5.out.row;clear f8 e6 t h5 t5 e7 d5 hq
           cases q with
           |false=>
            have e2:=z8.out.2 rfl;subst e2;go_wp2;go_meet
            exact⟨rfl,rfl⟩
           |true=>
            obtain⟨e3,e4,e2⟩:=z8.out.1 rfl;obtain⟨ka,x5⟩:∃ka:Nat,bk.term.a=(ka:Int):=⟨bk.term.a.toNat,by omega⟩
            rw[x5] at q1 e2;have E4:=u0.out.cell (k:=ka) Zo;rw[<-e2] at E4;have G4:(ka:Int)<(N:Int):=Zo;have H7:=lt_of_block u0.out.1;clear e2 e3 e4 x5;go_wp2;go_meet;exact⟨rfl,rfl⟩
          case rest=>
           obtain⟨rfl,rfl⟩:=hcut
           by_cases h4:bk.term.kind=4
           ·have c:=j3.out;rw[if_pos h4] at c
            have v9:(if bk.term.a=-1 then 0 else v2 bk.term.a)=va:=by
             rw[<-t]
             by_cases ea:bk.term.a=-1
             ·rw[if_pos ea,if_neg Zo]
             ·rw[if_neg ea,if_pos Zo]
            rw[v9] at c;have c9:=Ja c;rw[h4] at q0;clear c h4 v9 t f8 e6 h5 t5 e7 d5 hq;go_wp2;go_ret;rw[<-c9.out];exact vh.ok d9.out a5.out.frm k0
           ·generalize wc=W5 at *;have c:=j3.out;rw[if_neg h4,if_neg h5] at c;have l0:bk.term.kind=1∨bk.term.kind=2∨bk.term.kind=3:=Zo;have t4:(bk.term.kind==4)=false:=by rw[beq_eq_false_iff_ne];exact h4
            have c3:=j2.out.2.1
            have B9:1<=bk.term.to.length:=by
             rcases l0 with e|e|e
             ·exact c3.2.1 e
             ·have:=c3.2.2.1 e;omega
             ·exact c3.2.2.2.1 e
            have w1:ez bk.term (v2 bk.term.a)=ez bk.term va:=by
             unfold ez;rcases l0 with e|e|e
             ·rw[if_neg Zo,if_neg Zo,if_neg Zo,if_neg Zo]
             ·rw[if_pos Zo] at t;rw[t]
             ·rw[if_pos Zo] at t;rw[t]
            have d4:=lL c3 h4 h5 (v2 bk.term.a);have a4:=c3.2.2.2.2 _ d4;rw[cT,w1] at c d4 a4
            have o5:ez bk.term va<bk.term.to.length:=by
             unfold ez
             split
             ·have:=c3.2.2.1 Zo;omega
             ·split<;>omega
            have D4:bk.term.to.length<=2000000:=(A5.out.2.2 bk (by rw[<-f4.out];exact blkAt_in Zo)).2.2;have z5:=Ja (fun W=>taken_q W bk.term ta tc va k0 ⟨B9,D4⟩ l0);obtain⟨ti,o4⟩:∃ti,ez bk.term va=ti:=⟨_,rfl⟩
            rw[o4] at z5 c d4 a4 o5;obtain⟨x,j5⟩:∃x,bk.term.to[ti]? =some x:=⟨_,Jd o5⟩
            rw[show bk.term.to.getD ti ⟨0,[]⟩=x by rw[Jj,j5];rfl] at c d4 a4;obtain⟨b3,o3,rfl,a3,x9,F4,ev,y0,n5⟩:=u1.out.2.2.1.get j5;obtain⟨ea,ec,rfl,_,_⟩:=n5.form
            have G1:x.args.length<=65536:=by
             rw[a4.2.2];have hq:x.block=((x.block.toNat:Nat):Int):=Zo;rw[hq];exact(A3.out _ (Ji (rh a4.2.1))).2.2
            have w0:∀y∈x.args,0<=y/\y.toNat<N:=fun y hy=>e6 y (by unfold mE;rw[Jl];right;exact List.mem_flatten.2 ⟨x.args,Nu.2 ⟨x,Ji j5,rfl⟩,hy⟩)
            have i8:=zV a5.out.frm.below a3 x9;have s3:=zV a5.out.frm.below a3 y0;have v5:b3<W5.heap.size:=Jw _ _ i8;have m0:=Ja (show ∀W:World,Y W5 W->A W b18 0 (U bk.term.kind)/\A W b18 1 (U bk.term.a)/\A W b18 2 (.slice (some ⟨b3,o3,none⟩) bk.term.to.length tc)/\A W b3 (o3+ti*2) (U x.block)/\A W b3 (o3+ti*2+1) (.slice ea x.args.length ec) from fun W hb=>⟨zV hb n1 q0,zV hb n1 q1,zV hb n1 v4,zV hb v5 i8,zV hb v5 s3⟩);have F8:(ti:Int)<bk.term.to.length:=Zo;have i1:=Ja (Jb c (Jb a4 (Jb n5 w0)));clear c d4 a4 n5 w0 x9 y0 j5 o4 w1 c3 f8 e6 t h5 t5 h4 e7 d5 hq a3 o5 l0 i8 s3;go_upto_region 38 with fail
            go_cut [20] (fun bv wx=>∃b20:Nat,bv=F b20/\Hid (Q wx b20 #[U x.block,.slice ea x.args.length ec] 79/\Y W5 wx/\W5.heap.size<=b20))
            case first=>
             go_region_held3 (fun w'=>A w' b18 0 (U bk.term.kind)/\A w' b18 1 (U bk.term.a)/\A w' b18 2 (.slice (some ⟨b3,o3,none⟩) bk.term.to.length tc)/\A w' b3 (o3+ti*2) (U x.block)/\A w' b3 (o3+ti*2+1) (.slice ea x.args.length ec))
              ((refine m0.out _ ?_;repeat' (first|with_reducible exact Below.refl _ _|with_reducible assumption|with_reducible refine Below.drew ?_|with_reducible refine Below.alloc ?_ Zn _|with_reducible refine Below.setCell ?_ Zn _)))
              (first
                |(go_at_call 104
                  refine(z5.out _).mono ?_;rintro e y1 ⟨rfl,c8⟩;have f7:Y W5 y1:=Below.trans Zb (c8.mono Zn);have ap:=f7.size
                  first|(have f9:Q y1 W5.heap.size #[U 0,L] 79:=zH c8 (show(World.alloc W5 _).heap[W5.heap.size]? =_ from zI rfl) Zs;have e0:=zA (i:=0) f9 rfl;have e1:=zA (i:=1) f9 rfl;have ef:∀i,y1.frozen? ⟨W5.heap.size,i,none⟩=false:=fun i=>zE f9;have el:=lt_of_block f9)|skip
                  clear c8))
             all_goals go_wp2_with fail
             all_goals go_meet
             all_goals first
              |exact⟨_,rfl,Ja ⟨zI rfl,f7.alloc f7.size _,f7.size⟩⟩
              |exact⟨_,rfl,Ja ⟨by have z0:=zD f9 (i:=0) (.int .i64 x.block);have z1:=zD z0 (i:=1) (.slice ea x.args.length ec);simpa using z1,(f7.setCell (Je _) _).setCell (Je _) _,Je _⟩⟩
            case rest=>
             obtain⟨b20,rfl,f5⟩:=hcut;have a1:=a5.out.keep f5.out.2.1;have B1:=K0 f5.out.1;have B0:=K1 f5.out.1;have v6:=lt_of_block f5.out.1;obtain⟨bj,ov5,l8⟩:=a1.mach;have bi:K.B<wc.heap.size:=l8.size;have F7:vb<wc.heap.size:=lt_of_block a1.row.1;have F0:=Ja (i1.out.2.2.1.below zO a1.frm.below);have f3:=Ja a1;clear a1 l8 m0 q0 q1 v4;generalize wc=W6 at *;go_wp2
             go_loopw [21,22] (fun rv kv wx=>∃k:Nat,k<=x.args.length/\kv=U k/\Hid (wx.ownsRow W6.heap.size 43 1 rv k ((uT v2 x.args k).map vL)/\Y W6 wx)) (fun _ kv _=>x.args.length-(intOf kv).toNat)
             case atStart=>exact⟨0,Jt _,rfl,Ja ⟨Jv _ _ _ _,Below.refl _ _⟩⟩
             case round=>
              obtain⟨k6,bf,rfl,c2⟩:=hrel;obtain⟨ra,rc,rfl⟩:=zG c2.out.1;have c4:=f3.out.keep c2.out.2;have H0:=zV c2.out.2 v6 B0;have C2:=zV c2.out.2 v6 B1;have F9:=c2.out.2.size;have G9:b20<wr.heap.size:=Zo
              by_cases f1:k6<x.args.length
              ·skip
               have v3:(k6:Int)<x.args.length:=Zo;have u8:=Ja f1;obtain⟨y,hy⟩:∃y,x.args[k6]? =some y:=⟨_,Jd f1⟩
               obtain⟨b6,o6,rfl,D8,r5,F5⟩:=F0.out.get hy;rw[Nk] at r5;have cy:=zV c2.out.2 (show b6<W6.heap.size by omega) r5;have ad:b6<wr.heap.size:=Zo;have D2:=i1.out.2.2.2 y (Ji hy);have C3:=Ja (qH (v:=v2) hy);have G8:=pA (v:=v2) (show k6<=x.args.length by omega);obtain⟨ky,rfl⟩:∃ky:Nat,y=(ky:Int):=⟨y.toNat,by omega⟩
               have G2:(ky:Int)<(N:Int):=Zo;have bn:=c4.row.cell (k:=ky) Zo;have H6:=lt_of_block c4.row.1;have ao:=c4.row.2 (ky:Int);obtain⟨ii,D6,B7,B6,B5⟩:=info_parts Tryz.info_u16;clear hy r5 f1 c4 D8 D2;generalize v2 (ky:Int)=vy at *;go_wp2_with (at_builtin;go_must (refine wpList_append_lies _ rfl (.tmp 181) (.tmp 190) 48 rfl W6.heap.size 43 ii (O 0) 1 2 Tryz.underlying48 D6 B7 B6 B5 rfl Zd _ k6 ((uT v2 x.args k6).map vL) rfl (c2.out.1.alloc _) ⟨wr.heap.size,0,none⟩ 1 1 [O vy] rfl rfl (Oi (cs:=#[O vy]) (zI Zs)) (by simp[Value.oneCell']) Zd (by unfold maxLen;omega) Zo Zt (wr.heap.size+1) Zs ?_;intro gq H2 w6 k4 g6 G7 f1;have z7:=Ja (Jb k4 g6);clear k4 g6))
               go_roundw
               case rel=>
                refine⟨k6+1,u8.out,by go_num,Ja ⟨?_,(c2.out.2.alloc Zo _).grown z7.out.2 Zt (fun k hk=>(c2.out.1.lt k hk).1)⟩⟩;rw[C3.out,Js];exact z7.out.1
               case measure=>have:=u8.out;simp[intOf];omega
              ·skip
               obtain rfl:k6=x.args.length:=by omega
               have v3:¬(x.args.length:Int)<x.args.length:=Zo;have e9:=c2.out.1;rw[r8] at e9;have n7:=ms e9 Zs (fun y hy=>by obtain⟨z,_,rfl⟩:=Nu.1 hy;exact c4.row.2 z);obtain⟨q,hq⟩:∃q:Nat,x.block=(q:Int):=⟨x.block.toNat,by have:=i1.out.2.1.1;omega⟩
               rw[hq] at C2;have l6:=i1.out.2.1;have i9:=i1.out.1;rw[hq] at l6 i9
               have v0:Hid (HeadQ K w wr r n blocks vb N q ra x.args.length rc RES):=by
                refine⟨x.args.map v2,v2,m2.pay,c4,n7,?_,?_,?_,?_,i9⟩
                ·intro y b o _ e;have:=bK e9 (by rw[e]);omega
                ·rw[Nr];exact l6.2.2
                ·have:=l6.2.1;rw[Ni] at this;exact this
                ·have h1:=m5.out.2;have h2:=A8.out.2;have h3:=d0.out;simp only[Mach.pay];omega
               clear e9 n7 c4 l6 i9 hq;go_wp2
               go_roundg n
               case measure=>omega
               case rel=>exact⟨q,ra,x.args.length,rc,rfl,rfl,v0⟩
theorem cN (K:MK)(hok:OkProg K.E.p)(hu:UseProg K.E.p):∀r,r<=100->cX K r
 |0,_=>br K hu
 |r+1,h=>ac7 K hok hu r h (cN K hok hu r Zo)
end Go.Proofs.YtoahcpkibpomcaaGreat
