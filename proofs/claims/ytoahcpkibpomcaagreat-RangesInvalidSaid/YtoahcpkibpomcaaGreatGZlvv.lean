/- Part of a proof. -/
import Derived.Test.YtoahcpkibpomcaaGreatGZwkv
set_option linter.all false
set_option maxHeartbeats 8000000
set_option maxRecDepth 100000
namespace Go.Proofs.YtoahcpkibpomcaaGreat
open Go.RowKit
variable {w:World}{a1 b1 d1 f1:Option Addr}{a2 b2 d2 f2 k:Nat}{o:IOp}
theorem afc:vC (afN 19)=0:=by decide+kernel
theorem af7:vC (afN 18)=0:=by decide+kernel
theorem exm_r19:p6 (afN 19) (agE 19)=[⟨0,65535⟩,⟨15,15⟩,⟨0,15⟩,⟨16384,16384⟩,⟨16384,16399⟩,⟨0,255⟩]:=by kernel_rfl
theorem exm_o19:agX (afN 19).data (p6 (afN 19) (agE 19)) (agE 19)=[0]:=by kernel_rfl
theorem exm_o18:agX (afN 18).data (p6 (afN 18) (agE 18)) (agE 18)=[-1]:=by kernel_rfl
theorem afL (a:Int):∀f∈(afN a).funcs,vZ f:=by
 intro f hf;simp only[afN,Jq,List.not_mem_nil,or_false] at hf;rcases hf with rfl|rfl
 ·exact⟨by decide,fun b hb=>by simp only[mainL,Jo] at hb;subst hb;exact⟨by decide,by decide,by decide⟩⟩
 ·exact⟨by show(1:Nat)<=_;omega,fun b hb=>by simp only[agE,Jo] at hb;subst hb;exact⟨by show(1:Nat)<=_;omega,by show(5:Nat)<=_;omega,by show(0:Nat)<=_;omega⟩⟩
theorem own_one1{base:Nat}{v:Value}{z:Int}(h:w.ownsRow base 3 1 v 1 [I z]):∃g cap cur,v=F g 1 cap/\1<=cap/\Q w g cur 3/\cur[0]? =some (I z):=by
 rcases h.2 with⟨_,e⟩|⟨g,cap,cur,rfl,hg,d,h1,h2,h3,i⟩
 ·omega
 ·refine⟨g,cap,cur,rfl,h1,d,?_⟩;have c:(cur.toList.take (1*1))[0]? =some (I z):=by rw[i];rfl
  rw[List.getElem?_take_of_lt Zo] at c
  simpa using c
theorem agx(hp:ProgIn w w.heap.size ⟨.slice f1 2 f2,.slice a1 2 a2,.slice d1 1 d2,.slice b1 0 b2⟩ (afN 19)):
 G 15 #[.agg #[.slice f1 2 f2,.slice a1 2 a2,I 0,I (-1),.slice d1 1 d2,.slice b1 0 b2],I 1] w (fun e w'=>∃b,e=.returned (F b 6 6)/\Q w' b #[U 0,U 65535,U 15,U 15,U 0,U 15,U 16384,U 16384,U 16384,U 16399,U 0,U 255] 45/\O w w'):=by
 refine(afi (f:=1) (bl:=agE 19) hp (Je _) (afL 19) afc rfl (fun h=>by cases h)).mono ?_;rintro e w' ⟨b,rfl,h1,h2,h3⟩;rw[exm_r19] at h1 ⊢;exact⟨b,rfl,h1,h3⟩
theorem afa{a z:Int}(hv:vC (afN a)=0)(ho:agX (afN a).data (p6 (afN a) (agE a)) (agE a)=[z])(hp:ProgIn w w.heap.size ⟨.slice f1 2 f2,.slice a1 2 a2,.slice d1 1 d2,.slice b1 0 b2⟩ (afN a)):
 G 16 #[.agg #[.slice f1 2 f2,.slice a1 2 a2,I 0,I (-1),.slice d1 1 d2,.slice b1 0 b2],I 1] w (fun e w'=>∃g cap,e=.returned (F g 1 cap)/\A w' g 0 (I z)/\g<w'.heap.size/\1<=cap/\O w w'):=by
 refine(afn (f:=1) (bl:=agE a) hp (Je _) (afL a) hv rfl).mono ?_;rintro e w' ⟨v,rfl,h1,h2⟩;rw[ho] at h1;obtain⟨g,cap,cur,rfl,h3,c,d⟩:=own_one1 h1;exact⟨g,cap,rfl,zA c d,lt_of_block c,h3,h2⟩
theorem aeF (w:World)(a:Int)(c:I64 a):G 30 #[I a] w (fun e w'=>∃f1 f2 a1 a2 d1 d2 b1 b2,e=.returned (.agg #[.slice f1 2 f2,.slice a1 2 a2,I 0,I (-1),.slice d1 1 d2,.slice b1 0 b2])/\ProgIn w' w'.heap.size ⟨.slice f1 2 f2,.slice a1 2 a2,.slice d1 1 d2,.slice b1 0 b2⟩ (afN a)/\O w w'):=
 (afS w a c).mono fun e w' h=>h.open
theorem sanity10 (w:World):G 11 #[] w fun e w'=>e=.returned (.bool true)/\O w w':=by
 go_enter Tryz.func11,Tryz.ntmps11
 go_upto_region 2 with(first
  |(go_at_call 30;go_must (refine(aeF _ 19 ⟨by decide,by decide⟩).mono ?_;rintro e w1 ⟨f1,f2,a1,a2,d1,d2,b1,b2,rfl,y,o⟩))
  |(go_at_call 15;go_must (refine(agx y).mono ?_;rintro e w2 ⟨rb,rfl,t,a4⟩)))
 have q:=Ja (Jb t (o.trans (a4.mono o.size)));clear t o a4 y
 go_upto_region 3 with(first
  |(go_at_call 30;go_must (refine(aeF _ 19 ⟨by decide,by decide⟩).mono ?_;rintro e w3 ⟨f1,f2,a1,a2,d1,d2,b1,b2,rfl,x,m⟩))
  |(go_at_call 16;go_must (refine(afa afc exm_o19 x).mono ?_;rintro e w4 ⟨g4,c4,rfl,k,j,a8,a3⟩)))
 have g:=m.trans (a3.mono m.size);have h:=Ja (Jb (zH g q.out.1 (lt_of_block q.out.1)) (Jb (q.out.2.trans (g.mono q.out.2.size)) (Jb k j)));clear m a3 x g k j
 go_upto_region 4 with(first
  |(go_at_call 30;go_must (refine(aeF _ 18 ⟨by decide,by decide⟩).mono ?_;rintro e w5 ⟨f1,f2,a1,a2,d1,d2,b1,b2,rfl,u,l⟩))
  |(go_at_call 16;go_must (refine(afa af7 exm_o18 u).mono ?_;rintro e w6 ⟨g6,c6,rfl,a9,a6,a7,a0⟩)))
 have d:=l.trans (a0.mono l.size);have c:=zH d h.out.1 (lt_of_block h.out.1);have H6:=Ja (h.out.2.1.trans (d.mono h.out.2.1.size));have k:=(d.cell (p:=⟨g4,0,none⟩) h.out.2.2.2).trans h.out.2.2.1;have j:=Jy h.out.2.2.2 d.size;have x0:=zA (i:=2*2) c rfl;have x1:=zA (i:=2*2+1) c rfl;have x2:=zA (i:=4*2) c rfl;have x3:=zA (i:=4*2+1) c rfl;have x4:=zA (i:=4) c rfl;have x5:=zA (i:=5) c rfl;have x6:=zA (i:=8) c rfl;have x7:=zA (i:=9) c rfl;have a5:=lt_of_block c;clear d l a0 u c;go_wp2;go_ret;exact⟨rfl,H6.out⟩
structure FnB (w W:World) (pb fb:Array Value):Prop where
 bel:Below w.heap.size w W
 pbx:W.heap[w.heap.size]? =some (.cells pb 29 (0,0))
 fbx:W.heap[w.heap.size+1]? =some (.cells fb 39 (0,0))
theorem FnB.below{W W':World}{pb fb:Array Value}(h:FnB w W pb fb)(hb:O W W'):FnB w W' pb fb:=
 ⟨h.bel.trans (hb.mono h.bel.size),zH hb h.pbx (lt_of_block h.pbx),zH hb h.fbx (lt_of_block h.fbx)⟩
def GoodB (p:IProg)(blocks:List IBlk)(b:IBlk):Prop:=(∀o∈b.ops,opF p o=true)/\wn blocks b.term=true
theorem aaw {a b:Bool}(h:b=a):Ending.returned (.bool a)=.returned (.bool b):=by rw[h]
theorem afV{p:IProg}{l:List IOp}(h:l[k]? =some o)(d:∀x∈l.take k,opF p x=true)(ho:opF p o=true):∀x∈l.take (k+1),opF p x=true:=by
 intro x c;rw[Nh,h,Option.toList] at c;rcases Jl.1 c with c|c
 ·exact d x c
 ·rw[Jo.1 c];exact ho
theorem endF_ops{d:wO}{g:List (List Nat)}{b:IBlk}{i:Nat}(ho:b.ops[k]? =some o)(h:(rR o).all (yy d g i (k:Int))=false):aau d g b i=false:=by
 unfold aau aaC;rw[aeQ ho h];simp
theorem bZ{V:PV}{p:IProg}(hp:ProgIn w w.heap.size V p)(hl:p.args.length=p.funcs.length)(ha:p.args.all tX=true)(hs:∀f∈p.funcs,vZ f){n:Nat}(hn:n<p.funcs.length):
 G 34 #[yH V p,I n] w (ym w (yi p n)):=by
 have HP:=Ja (show ProgIn w w.heap.size V p/\p.args.length=p.funcs.length/\p.args.all tX=true/\∀f∈p.funcs,vZ f from⟨hp,hl,ha,hs⟩);obtain⟨Vf,Va,Vd,Vb⟩:=V;obtain⟨f1,f2,e1,t4,j3⟩:=hp.funcs.form;have l4:=hp.funcs;have l5:=hp.args;obtain⟨a1,a2,e2,i5,i4⟩:=hp.args.form;obtain⟨d1,d2,e3,t6,j4⟩:=hp.data.form;obtain⟨b1,b2,e4,t8,t7⟩:=hp.banks.form;simp only at e1 e2 e3 e4 l4 l5;subst e1 e2 e3 e4;have x0:p.funcs.length<=9223372036854775807:=Zo;have x1:p.args.length<=9223372036854775807:=Zo;obtain⟨blocks,j5⟩:∃bl,p.funcs[n]? =some bl:=⟨_,Jd hn⟩
 obtain⟨x,hx⟩:∃x,p.args[n]? =some x:=⟨_,Jd Zo⟩
 obtain⟨fb,fo,rfl,t,bv,j0,m3⟩:=l4.get j5;obtain⟨ab,ao,rfl,q6,j1,u6⟩:=l5.get hx;rw[Nk] at j0 j1;obtain⟨ba,bc,rfl,s4,s3⟩:=m3.form;have u9:blocks.length<=9223372036854775807:=Zo;unfold yH;simp only;obtain⟨res,i7⟩:∃x,yi p n=x:=⟨_,rfl⟩
 rw[i7];have m6:=Ja i7;have u:=Ja (show p.funcs[n]? =some blocks/\wX w w.heap.size (.slice ba blocks.length bc) blocks/\vZ blocks/\p.args[n]? =some x from⟨j5,m3,hs _ (Ji j5),hx⟩);have m4:O w (w.alloc (T (R p (some ⟨fb,fo,none⟩) f2 (some ⟨ab,ao,none⟩) a2 d1 d2 b1 b2) 29)):=(Below.refl _ _).alloc (Je _) _;have cf:=zV m4 t j0;have w8:(n:Int)<p.funcs.length:=Zo;have w9:(n:Int)<p.args.length:=Zo;have s2:=Ja (show ab<w.heap.size/\A w ab (ao+n) (I x) from⟨q6,j1⟩);have l0:=zI (W:=w) (o:=T (R p (some ⟨fb,fo,none⟩) f2 (some ⟨ab,ao,none⟩) a2 d1 d2 b1 b2) 29) rfl;have n8:(w.alloc (T (R p (some ⟨fb,fo,none⟩) f2 (some ⟨ab,ao,none⟩) a2 d1 d2 b1 b2) 29)).heap.size=w.heap.size+1:=by simp
 clear hp l4 l5 hl ha hs hn t4 j3 i5 i4 t6 j4 t8 t7 j5 hx i7 m3 s4 s3 j0 j1 t q6;go_enter Tryz.func34,Tryz.ntmps34;go_upto_region 1 with fail;generalize u1:w.alloc (T (R p (some ⟨fb,fo,none⟩) f2 (some ⟨ab,ao,none⟩) a2 d1 d2 b1 b2) 29)=WP at *;have p0:=K0 l0;have q3:O w (WP.alloc (T #[.slice ba blocks.length bc] 39)):=m4.alloc Zo _;have k7:=zB (o:=T #[.slice ba blocks.length bc] 39) l0;have l1:Q (WP.alloc (T #[.slice ba blocks.length bc] 39)) (w.heap.size+1) #[.slice ba blocks.length bc] 39:=zI n8;clear u1 m4 l0;go_upto_region 2 with fail;generalize u2:WP.alloc (T #[.slice ba blocks.length bc] 39)=WF at *;have q0:=K0 l1;have f4:=Ja (show FnB w WF (R p (some ⟨fb,fo,none⟩) f2 (some ⟨ab,ao,none⟩) a2 d1 d2 b1 b2) #[.slice ba blocks.length bc] from⟨q3,k7,l1⟩);clear u2 n8 p0 cf q3 k7 l1;rcases lp blocks with b8|⟨b0,bs,b8⟩
 ·have hr:res=true:=by rw[<-m6.out];exact dy (by rw[u.out.1,b8])
  have t0:((blocks.length:Int)==0)=true:=by rw[b8];rfl
  clear b8;go_wp2;go_ret;exact⟨aaw hr,f4.out.bel⟩
 ·have t0:((blocks.length:Int)==0)=false:=by rw[beq_eq_false_iff_ne,b8,Nq];omega
  have s1:=Ja b8;have u7:(0:Int)<blocks.length:=by rw[b8,Nq];omega
  have h0:blocks[0]? =some b0:=by rw[b8];rfl
  obtain⟨kb,ko,rfl,p3,_,_,_,pv,ov,tv,b5,_,_,b4,_,_⟩:=u.out.2.1.get h0;obtain⟨pa,pc,rfl,e9,e8⟩:=b4.form;have u8:b0.params.length<=9223372036854775807:=Zo;obtain⟨qe,l3⟩:∃q,decide ((b0.params.length:Int)=x)=q:=⟨_,rfl⟩
  have t1:((b0.params.length:Int) !=x)=!qe:=by rw[bne,z6 l3]
  have m0:yi p n=(qe && ((wg p blocks).map (iM blocks)).getD false):=by
   rw[cJ u.out.1 (by rw[b8];simp),Jj,u.out.2.2.2,Ot,show xz blocks 0=b0 by rw[b8];rfl,l3]
  rw[m6.out] at m0;have n0:=Ja m0;have p0:=K0 f4.out.pbx;have p1:=K1 f4.out.pbx;have c2:A WF kb ko (.slice pa b0.params.length pc):=by have:=zV f4.out.bel p3 b5;simpa using this
  have c3:A WF ab (ao+n) (I x):=zV f4.out.bel s2.out.1 s2.out.2;clear l3 m0 b8 h0 p3 b5 b4 e9 e8;go_upto_region 4 with fail
  go_cut [39] (fun s wx=>s=.bool (!qe)/\∃n,wx=WF.drewN n)
  case first=>
   go_quiet (fail);go_wp2;go_meet;exact⟨rfl,_,rfl⟩
  case rest=>
  obtain⟨rfl,nq,rfl⟩:=hcut;have r8:=Ja (f4.out.below (yC (k:=nq) (Below.refl _ _)));clear q0 p0 p1 c2 c3;generalize WF.drewN nq=W1 at *
  cases qe with
  |false=>
   go_wp2;go_ret
   exact⟨aaw n0.out,r8.out.bel⟩
  |true=>
  have k3:=Ja (show res=((wg p blocks).map (iM blocks)).getD false from n0.out);clear t1 n0;go_wp2
  go_loopw [6] (fun iv wx=>∃i:Nat,i<=blocks.length/\iv=I i/\Hid (FnB w wx (R p (some ⟨fb,fo,none⟩) f2 (some ⟨ab,ao,none⟩) a2 d1 d2 b1 b2) #[.slice (some ⟨kb,ko,none⟩) blocks.length bc]/\∀b∈blocks.take i,GoodB p blocks b)) (fun iv _=>blocks.length-(intOf iv).toNat)
  case atStart=>exact⟨0,Jt _,rfl,Ja ⟨r8.out,fun b hb=>by simp at hb⟩⟩
  case round=>
   obtain⟨i,hi,rfl,HI⟩:=hrel;have q0:=K0 HI.out.1.fbx
   by_cases d0:i<blocks.length
   ·have f6:(i:Int)<blocks.length:=Zo;have c8:=Ja d0;obtain⟨bx,a3⟩:∃bx,blocks[i]? =some bx:=⟨_,Jd d0⟩
    obtain⟨b',o',e',t,e6,e5,b7,n5,ov2,n4,b5,d7,d6,b4,b6,b3⟩:=u.out.2.1.get a3;cases e';obtain⟨a9,a8,rfl,e9,e8⟩:=b4.form;obtain⟨oa,oc,rfl,i0,h9⟩:=b6.form;obtain⟨ta,tc,rfl,g6,f9⟩:=b3.form;have o2:bx.ops.length<=9223372036854775807:=Zo;have c:=HI.out.1.bel;have e0:=zV c t b5;have e1:=zV c t d7;have e2:=zV c t e6;have e3:=zV c t e5;have e4:=zV c t d6;have y:=Ja (show blocks[i]? =some bx/\mN w w.heap.size (.slice oa bx.ops.length oc) bx.ops/\wH w w.heap.size (.slice ta bx.term.to.length tc) bx.term.to/\(I64 bx.term.kind/\I64 bx.term.a)/\(bx.params.length<=2000000/\bx.ops.length<=2000000/\bx.term.to.length<=2000000) from⟨a3,b6,b3,b7,u.out.2.2.1.2 bx (Ji a3)⟩);have f8:=zI (W:=wr) (o:=T #[.slice a9 bx.params.length a8,.slice oa bx.ops.length oc,I bx.term.kind,I bx.term.a,.slice ta bx.term.to.length tc] 84) rfl;have i3:=HI.out.1.below ((Below.refl wr.heap.size wr).alloc (Je _) (T #[.slice a9 bx.params.length a8,.slice oa bx.ops.length oc,I bx.term.kind,I bx.term.a,.slice ta bx.term.to.length tc] 84));clear a3 e6 e5 b7 b5 d7 d6 b4 b6 b3 e9 e8 i0 h9 g6 f9 c t d0;go_upto_region 10 with fail;generalize wr.alloc (T #[.slice a9 bx.params.length a8,.slice oa bx.ops.length oc,I bx.term.kind,I bx.term.a,.slice ta bx.term.to.length tc] 84)=W9 at *;generalize wr.heap.size=b9 at *;have H9:=Ja (Jb i3 f8);clear f8 i3 e0 e1 e2 e3 e4;go_wp2
    go_loopw [8] (fun kv wx=>∃k:Nat,k<=bx.ops.length/\kv=I k/\Hid ((FnB w wx (R p (some ⟨fb,fo,none⟩) f2 (some ⟨ab,ao,none⟩) a2 d1 d2 b1 b2) #[.slice (some ⟨kb,ko,none⟩) blocks.length bc]/\Q wx b9 #[.slice a9 bx.params.length a8,.slice oa bx.ops.length oc,I bx.term.kind,I bx.term.a,.slice ta bx.term.to.length tc] 84)/\∀o∈bx.ops.take k,opF p o=true)) (fun kv _=>bx.ops.length-(intOf kv).toNat)
    case atStart=>exact⟨0,Jt _,rfl,Ja ⟨H9.out,fun o ho=>by simp at ho⟩⟩
    case round=>
     obtain⟨k,hk,rfl,m⟩:=hrel;have z1:=K1 m.out.1.2
     by_cases a7:k<bx.ops.length
     ·have f5:(k:Int)<bx.ops.length:=Zo;have c9:=Ja a7;obtain⟨o,ho⟩:∃o,bx.ops[k]? =some o:=⟨_,Jd a7⟩
      obtain⟨qb,qo,rfl,a5,h8,h7,h6,h5,h4,i9,av,g8,f3⟩:=y.out.2.1.get ho;obtain⟨aa,ac,rfl,i5,i4⟩:=f3.form;have c:=m.out.1.1.bel;have c0:=zV c a5 h8;have c1:=zV c a5 h7;have c2:=zV c a5 h6;have c3:=zV c a5 h5;have c4:=zV c a5 h4;have c5:=zV c a5 g8;have g0:=K0 m.out.1.1.pbx;have g1:=K1 m.out.1.1.pbx;have g2:=K2 m.out.1.1.pbx;have g3:=K3 m.out.1.1.pbx;have g4:=K4 m.out.1.1.pbx;have g5:=K5 m.out.1.1.pbx;obtain⟨q,hq⟩:∃q,opF p o=q:=⟨_,rfl⟩
      have j3:G 61 #[.agg (R p (some ⟨fb,fo,none⟩) f2 (some ⟨ab,ao,none⟩) a2 d1 d2 b1 b2),.agg (D o aa ac)] wr.drew (ym wr.drew q):=by
       rw[<-hq];have hb:=c.drew;exact formed_q ((HP.out.1.below hb).mono hb.size) HP.out.2.1 o ((f3.below zO hb).mono zO hb.size)
      have r6:=Ja j3;have HO:=Ja (Jb ho hq);have k6:=Ja ((Below.refl wr.heap.size wr).drew);clear ho hq h8 h7 h6 h5 h4 g8 f3 i5 i4 c a7 j3;go_upto_region 13 with fail;refine zt 6 Zk Zk ?_;simp only[Qo,Uc,Qp,Ui]
      repeat (go_big_quiet_step (fail))
      refine wpQuiet_nil ?_;clear z1 c0 c1 c2 c3 c4 c5 g0 g1 g2 g3 g4 g5 q0
      cases q with
      |false=>
       go_wp2_with (first|(go_at_call 61;go_must (refine r6.out.mono ?_;rintro e w3 ⟨rfl,a4⟩))|go_in)
       go_ret;refine⟨aaw ?_,(m.out.1.1.below (k6.out.trans (a4.mono k6.out.size))).bel⟩;rw[k3.out,dg (fun h=>by have:=(h bx (Ji y.out.1)).1 o (Ji HO.out.1);rw[HO.out.2] at this;cases this)]
       rfl
      |true=>
       go_wp2_with (first|(go_at_call 61;go_must (refine r6.out.mono ?_;rintro e w3 ⟨rfl,a4⟩))|go_in)
       have c7:=k6.out.trans (a4.mono k6.out.size);have HN:=Ja (Jb (Jb (m.out.1.1.below c7) (zH c7 m.out.1.2 (lt_of_block m.out.1.2))) (afV HO.out.1 m.out.2 HO.out.2));clear a4 c7;go_roundw
       case rel=>first|exact⟨k+1,c9.out,by go_num,HN⟩|((repeat apply Exists.intro);exact⟨⟨k+1,c9.out,by go_num,HN⟩,rfl⟩)
       case measure=>have:=c9.out;simp[intOf];omega
     ·obtain rfl:k=bx.ops.length:=by omega
      have f5:¬(bx.ops.length:Int)<bx.ops.length:=Zo;have d3:=m.out.2;rw[Nl] at d3;have s5:=Ja d3;have q1:=K0 m.out.1.1.fbx;have z2:=K2 m.out.1.2;have z3:=K3 m.out.1.2;have z4:=K4 m.out.1.2;obtain⟨q,hq⟩:∃q,wn blocks bx.term=q:=⟨_,rfl⟩
      have i1:G 62 #[.agg #[.slice (some ⟨kb,ko,none⟩) blocks.length bc],.agg #[I bx.term.kind,I bx.term.a,.slice ta bx.term.to.length tc]] wr (ym wr q):=by
       rw[<-hq];have hb:=m.out.1.1.bel;exact ended_q ((u.out.2.1.below yT hb).mono yT hb.size) bx.term ((y.out.2.2.1.below xL hb).mono xL hb.size)
      have k5:=Ja i1;have HQ:=Ja hq;clear d3 a7 hq i1 q0
      cases q with
      |false=>
       go_wp2_with (first|(go_at_call 62;go_must (refine k5.out.mono ?_;rintro e w3 ⟨rfl,a4⟩))|go_in)
       go_ret;refine⟨aaw ?_,(m.out.1.1.below a4).bel⟩;rw[k3.out,dg (fun h=>by have:=(h bx (Ji y.out.1)).2;rw[HQ.out] at this;cases this)]
       rfl
      |true=>
       go_wp2_with (first|(go_at_call 62;go_must (refine k5.out.mono ?_;rintro e w3 ⟨rfl,a4⟩))|go_in)
       have HN:=Ja (show FnB w w3 (R p (some ⟨fb,fo,none⟩) f2 (some ⟨ab,ao,none⟩) a2 d1 d2 b1 b2) #[.slice (some ⟨kb,ko,none⟩) blocks.length bc]/\∀b∈blocks.take (i+1),GoodB p blocks b from⟨m.out.1.1.below a4,fun b hb=>by
        rw[Nh,y.out.1,Option.toList] at hb;rcases Jl.1 hb with hb|hb
        ·exact HI.out.2 b hb
        ·rw[Jo.1 hb];exact⟨s5.out,HQ.out⟩⟩)
       clear a4 z1 z2 z3 z4 q1;go_roundw
       case rel=>first|exact⟨i+1,c8.out,by go_num,HN⟩|((repeat apply Exists.intro);exact⟨⟨i+1,c8.out,by go_num,HN⟩,rfl⟩)
       case measure=>have:=c8.out;simp[intOf];omega
   ·obtain rfl:i=blocks.length:=by omega
    have f6:¬(blocks.length:Int)<blocks.length:=Zo;have f0:=HI.out.2;rw[Nl] at f0;have n7:=bE (p:=p) (blocks:=blocks) f0;have c:=HI.out.1.bel;have i2:=defs_q ((u.out.2.1.below yT c).mono yT c.size) u.out.2.2.1 (fun b hb o ho=>ct ((f0 b hb).1 o ho));have n1:=Ja i2;have d4:=Ja (Jb f0 n7);clear d0 f0 n7 i2 c;go_upto_region 20 with(first|(go_at_call 63;go_must (refine n1.out.mono ?_;rintro e w5 ⟨dv,ok,xs,rfl,e7,m2,q2⟩))|go_in)
    have n2:=Ja (Jb e7 (Jb m2 q2));have i6:=HI.out.1.below e7;have u4:=Ja i6;have q5:=K0 i6.fbx;have p4:=agD (u.out.2.1.below yT i6.bel) i6.bel.size u.out.2.2.1;have HG:=Ja p4;obtain⟨da,dc,rfl,_,_⟩:=m2.form;clear e7 m2 q2 i6 p4 q0;have j4:∀W sv,pV W w5.heap.size sv (zk blocks)->G 64 #[.agg #[sv]] W (aar W (fe (zy blocks))):=fun W sv h=>doms_any (graph_q u.out.2.2.1 (by rw[s1.out];simp) (fun b hb=>(d4.out.1 b hb).2) h)
    have u5:=Ja j4;clear j4;go_upto_region 21 with(first|(go_at_call 48;go_must (refine HG.out.mono ?_;rintro e w6 ⟨ga,gn,gc,rfl,p5,m5⟩))|(go_at_call 64;go_must (refine(u5.out _ _ p5).mono ?_;rintro e w7 ⟨mv,rfl,l7,q4⟩))|go_in)
    obtain⟨ma,mc,rfl,s8⟩:=l7.form;have f7:=m5.trans (q4.mono m5.size);have r1:=u4.out.below f7;have m1:=(n2.out.2.1.below aa5 f7).mono aa5 f7.size;have k1:(fe (zy blocks)).length=blocks.length:=by unfold fe;rw[Nr,Un,xu]
    have q7:=nO (blocks:=blocks) (by rw[s1.out];simp) (fun b hb=>(d4.out.1 b hb).2);have H7:=Ja (Jb r1 (Jb m1 (Jb l7 q7)));clear p5 m5 l7 q4 f7 r1 m1 s8 q7 q5
    cases ok with
    |false=>
     have o3:res=false:=by
      rcases n2.out.2.2 with⟨d,_,h,_⟩|⟨h,_⟩
      ·cases h
      ·rw[k3.out,d4.out.2,h];rfl
     have u3:=Ja o3;clear o3;go_wp2
     go_loopw [14] (fun iv wx=>∃i:Nat,i<blocks.length/\iv=I i/\Hid (FnB w wx (R p (some ⟨fb,fo,none⟩) f2 (some ⟨ab,ao,none⟩) a2 d1 d2 b1 b2) #[.slice (some ⟨kb,ko,none⟩) blocks.length bc])) (fun iv _=>0)
     case atStart=>exact⟨0,by omega,rfl,Ja H7.out.1⟩
     case round=>
      obtain⟨i,hi,rfl,a6⟩:=hrel;have q0:=K0 a6.out.fbx;have f6:(i:Int)<blocks.length:=Zo;obtain⟨bx,a3⟩:∃bx,blocks[i]? =some bx:=⟨_,Jd hi⟩
      obtain⟨b',o',e',t,e6,e5,b7,n5,ov2,n4,b5,d7,d6,b4,b6,b3⟩:=u.out.2.1.get a3;cases e';obtain⟨a9,a8,rfl,e9,e8⟩:=b4.form;obtain⟨oa,oc,rfl,i0,h9⟩:=b6.form;obtain⟨ta,tc,rfl,g6,f9⟩:=b3.form;have o2:bx.ops.length<=9223372036854775807:=Zo;have c:=a6.out.bel;have e0:=zV c t b5;have e1:=zV c t d7;have e2:=zV c t e6;have e3:=zV c t e5;have e4:=zV c t d6;have y:=Ja (show blocks[i]? =some bx/\mN w w.heap.size (.slice oa bx.ops.length oc) bx.ops/\wH w w.heap.size (.slice ta bx.term.to.length tc) bx.term.to/\(I64 bx.term.kind/\I64 bx.term.a)/\(bx.params.length<=2000000/\bx.ops.length<=2000000/\bx.term.to.length<=2000000) from⟨a3,b6,b3,b7,u.out.2.2.1.2 bx (Ji a3)⟩);clear a3 e6 e5 b7 b5 d7 d6 b4 b6 b3 e9 e8 i0 h9 g6 f9 c t;go_wp2;go_ret
      exact⟨aaw u3.out,(a6.out.bel).alloc a6.out.bel.size _⟩
    |true=>
     obtain⟨d,hd,p9⟩:∃d,dD blocks 0 aaZ=some d/\dE xs blocks.length d:=by
      rcases n2.out.2.2 with⟨d,h1,_,h2⟩|⟨_,h⟩
      ·exact⟨d,h1,h2⟩
      ·cases h
     have k4:=Ja (show res=iM blocks d from by rw[k3.out,d4.out.2,hd];rfl);have s0:=Ja (show dE xs (zy blocks).length d from by rw[xu];exact p9);obtain⟨g,hg⟩:∃g,zy blocks=g:=⟨_,rfl⟩
     have p8:g.length=blocks.length:=by rw[<-hg,xu]
     rw[hg] at H7 s0 k1 ⊢;have a0:=Ja (Jb hg p8)
     have o9:∀(i:Nat) (k:Int) W lv l,i<blocks.length->O w7 W->zY W W.heap.size lv l->G 65 #[lv,I i,I k,.slice da xs.length dc,.slice ma (fe g).length mc] W (ym W (l.all (yy d g i k))):=fun i k W lv l hi hb hl=>
      known_q hl ((H7.out.2.1.below aa5 hb).mono aa5 hb.size) ((H7.out.2.2.1.below hb).mono hb.size) s0.out (by rw[a0.out.2];exact k1) dj (by rw[a0.out.2];exact hi) (by rw[a0.out.2];exact u.out.2.2.1.1)
     have r5:=Ja o9;clear hd p9 hg p8 o9;generalize q9:(fe g).length=ML at *;have v0:=Ja (Jb k1 q9);have x4:(0:Int)<ML:=Zo;have x3:0<ML:=Zo;have x2:ML<=9223372036854775807:=Zo;clear k1 q9;go_wp2
     go_loopw [14] (fun iv wx=>∃i:Nat,i<=blocks.length/\iv=I i/\Hid (FnB w wx (R p (some ⟨fb,fo,none⟩) f2 (some ⟨ab,ao,none⟩) a2 d1 d2 b1 b2) #[.slice (some ⟨kb,ko,none⟩) blocks.length bc]/\O w7 wx/\∀j b,j<i->blocks[j]? =some b->aau d g b j=true)) (fun iv _=>blocks.length-(intOf iv).toNat)
     case atStart=>exact⟨0,Jt _,rfl,Ja ⟨H7.out.1,Below.refl _ _,fun j b hj=>by omega⟩⟩
     case round=>
      obtain⟨i,hi,rfl,a6⟩:=hrel;have q0:=K0 a6.out.1.fbx
      by_cases d0:i<blocks.length
      ·have f6:(i:Int)<blocks.length:=Zo;have c8:=Ja d0;obtain⟨bx,a3⟩:∃bx,blocks[i]? =some bx:=⟨_,Jd d0⟩
       obtain⟨b',o',e',t,e6,e5,b7,n5,ov2,n4,b5,d7,d6,b4,b6,b3⟩:=u.out.2.1.get a3;cases e';obtain⟨a9,a8,rfl,e9,e8⟩:=b4.form;obtain⟨oa,oc,rfl,i0,h9⟩:=b6.form;obtain⟨ta,tc,rfl,g6,f9⟩:=b3.form;have o2:bx.ops.length<=9223372036854775807:=Zo;have c:=a6.out.1.bel;have e0:=zV c t b5;have e1:=zV c t d7;have e2:=zV c t e6;have e3:=zV c t e5;have e4:=zV c t d6;have y:=Ja (show blocks[i]? =some bx/\mN w w.heap.size (.slice oa bx.ops.length oc) bx.ops/\wH w w.heap.size (.slice ta bx.term.to.length tc) bx.term.to/\(I64 bx.term.kind/\I64 bx.term.a)/\(bx.params.length<=2000000/\bx.ops.length<=2000000/\bx.term.to.length<=2000000) from⟨a3,b6,b3,b7,u.out.2.2.1.2 bx (Ji a3)⟩);have f8:=zI (W:=wr) (o:=T #[.slice a9 bx.params.length a8,.slice oa bx.ops.length oc,I bx.term.kind,I bx.term.a,.slice ta bx.term.to.length tc] 84) rfl;have i3:=a6.out.1.below ((Below.refl wr.heap.size wr).alloc (Je _) (T #[.slice a9 bx.params.length a8,.slice oa bx.ops.length oc,I bx.term.kind,I bx.term.a,.slice ta bx.term.to.length tc] 84));clear a3 e6 e5 b7 b5 d7 d6 b4 b6 b3 e9 e8 i0 h9 g6 f9 c t;have k2:=a6.out.2.1.alloc a6.out.2.1.size (T #[.slice a9 bx.params.length a8,.slice oa bx.ops.length oc,I bx.term.kind,I bx.term.a,.slice ta bx.term.to.length tc] 84);go_upto_region 25 with fail;generalize wr.alloc (T #[.slice a9 bx.params.length a8,.slice oa bx.ops.length oc,I bx.term.kind,I bx.term.a,.slice ta bx.term.to.length tc] 84)=W9 at *;generalize wr.heap.size=b9 at *;obtain⟨r0,o1,l2,o0⟩:=dj (g:=g) 0 (by rw[a0.out.2];omega);have q8:aaB zf W9 W9.heap.size (.slice ma ML mc) (fe g):=by have:=(H7.out.2.2.1.below k2).mono k2.size;exact this
       obtain⟨mb,mo,ra,rc,rfl,s9,o4,s6,n9⟩:=q8.row o1;obtain⟨rb,ro,rfl,s7,l8⟩:=n9 i _ (o0 i (by rw[a0.out.2];exact c8.out));obtain⟨q,hq⟩:∃q,wE g 0 i=q:=⟨_,rfl⟩
       rw[hq] at l8;unfold zf at l8;rw[Uk] at o4;have w1:(i:Int)<r0.length:=by rw[l2,a0.out.2];omega
       have hrl:r0.length<=9223372036854775807:=by rw[l2,a0.out.2];omega
       have H9:=Ja (Jb i3 (Jb f8 k2));have HQ:=Ja hq;clear f8 i3 e0 e1 e2 e3 e4 k2 o1 l2 o0 q8 s9 s6 n9 s7 hq d0 q0
       cases q with
       |false=>
        go_wp2;go_ret;refine⟨aaw ?_,H9.out.1.bel⟩;rw[k4.out];have hv:=H7.out.2.2.2
        exact dz (by rw[a0.out.1];exact hv) y.out.1 (by unfold aau;rw[a0.out.1,HQ.out];rfl)
       |true=>
        go_upto_region 27 with fail;clear o4 l8;go_wp2
        go_loopw [16] (fun kv wx=>∃k:Nat,k<=bx.ops.length/\kv=I k/\Hid ((FnB w wx (R p (some ⟨fb,fo,none⟩) f2 (some ⟨ab,ao,none⟩) a2 d1 d2 b1 b2) #[.slice (some ⟨kb,ko,none⟩) blocks.length bc]/\Q wx b9 #[.slice a9 bx.params.length a8,.slice oa bx.ops.length oc,I bx.term.kind,I bx.term.a,.slice ta bx.term.to.length tc] 84/\O w7 wx)/\∀j o,j<k->bx.ops[j]? =some o->(rR o).all (yy d g i (0+(j:Int)))=true)) (fun kv _=>bx.ops.length-(intOf kv).toNat)
        case atStart=>exact⟨0,Jt _,rfl,Ja ⟨H9.out,fun j o hj=>by omega⟩⟩
        case round=>
         obtain⟨k,hk,rfl,m⟩:=hrel;have z1:=K1 m.out.1.2.1
         by_cases a7:k<bx.ops.length
         ·have f5:(k:Int)<bx.ops.length:=Zo;have c9:=Ja a7;obtain⟨o,ho⟩:∃o,bx.ops[k]? =some o:=⟨_,Jd a7⟩
          obtain⟨qb,qo,rfl,a5,h8,h7,h6,h5,h4,i9,av,g8,f3⟩:=y.out.2.1.get ho;obtain⟨aa,ac,rfl,i5,i4⟩:=f3.form;have c:=m.out.1.1.bel;have c0:=zV c a5 h8;have c1:=zV c a5 h7;have c2:=zV c a5 h6;have c3:=zV c a5 h5;have c4:=zV c a5 h4;have c5:=zV c a5 g8;have n6:=uses_q o i9 c.size (f3.below zO c) (aU HP.out.2.2.1 ((d4.out.1 bx (Ji y.out.1)).1 o (Ji ho)));have r2:=Ja n6;have HO:=Ja ho;obtain⟨q,hq⟩:∃q,(rR o).all (yy d g i (k:Int))=q:=⟨_,rfl⟩
          have m7:=Ja hq;clear n6 ho hq h8 h7 h6 h5 h4 g8 f3 i5 i4 c a7 i9
          have o5:∀W lv,O wr W->zY W W.heap.size lv (rR o)->G 65 #[lv,I i,I k,.slice da xs.length dc,.slice (some ⟨mb,mo,none⟩) ML mc] W (ym W q):=fun W lv hb hin=>by
           have:=r5.out i (k:Int) W lv _ c8.out (m.out.1.2.2.trans (hb.mono m.out.1.2.2.size)) hin
           rwa [m7.out] at this
          have r4:=Ja o5;clear o5
          cases q with
          |false=>
           go_wp2_with (first|(go_at_call 66;go_must (refine r2.out.mono ?_;rintro e wu ⟨uv,rfl,j2,d5⟩))|(go_at_call 65;go_must (refine(r4.out _ _ d5 j2).mono ?_;rintro e wd ⟨rfl,k0⟩))|go_in)
           go_ret;refine⟨aaw ?_,(m.out.1.1.below (d5.trans (k0.mono d5.size))).bel⟩;rw[k4.out];have hv:=H7.out.2.2.2;refine dz (by rw[a0.out.1];exact hv) y.out.1 ?_;rw[a0.out.1]
           exact endF_ops HO.out m7.out
          |true=>
           go_wp2_with (first|(go_at_call 66;go_must (refine r2.out.mono ?_;rintro e wu ⟨uv,rfl,j2,d5⟩))|(go_at_call 65;go_must (refine(r4.out _ _ d5 j2).mono ?_;rintro e wd ⟨rfl,k0⟩))|go_in)
           have c7:=d5.trans (k0.mono d5.size)
           have HN:=Ja (Jb (Jb (m.out.1.1.below c7) (Jb (zH c7 m.out.1.2.1 (lt_of_block m.out.1.2.1)) (m.out.1.2.2.trans (c7.mono m.out.1.2.2.size)))) (show ∀j o,j<k+1->bx.ops[j]? =some o->(rR o).all (yy d g i (0+(j:Int)))=true from fun j o' hj ho'=>by
            by_cases t2:j=k
            ·subst t2;rw[HO.out] at ho';cases ho';rw[Ub];exact m7.out
            ·exact m.out.2 j o' Zo ho'))
           clear d5 k0 j2 c7 z1;go_roundw
           case rel=>first|exact⟨k+1,c9.out,by go_num,HN⟩|((repeat apply Exists.intro);exact⟨⟨k+1,c9.out,by go_num,HN⟩,rfl⟩)
           case measure=>have:=c9.out;simp[intOf];omega
         ·obtain rfl:k=bx.ops.length:=by omega
          have f5:¬(bx.ops.length:Int)<bx.ops.length:=Zo;have z2:=K2 m.out.1.2.1;have z3:=K3 m.out.1.2.1;have z4:=K4 m.out.1.2.1;have l9:=lt_of_block m.out.1.2.1;have k9:=Below.refl wr.heap.size wr;have d3:xF d g i bx.ops 0=true:=(dF bx.ops 0).2 fun j o ho=>m.out.2 j o (Jh.1 ho).1 ho
          obtain⟨q,hq⟩:∃q,(mE bx.term).all (yy d g i bx.ops.length)=q:=⟨_,rfl⟩
          have i1:∀W,O wr W->G 67 #[.agg #[I bx.term.kind,I bx.term.a,.slice ta bx.term.to.length tc]] W (wG W (mE bx.term)):=fun W hb=>by
           have c:=m.out.1.1.bel.trans (hb.mono m.out.1.1.bel.size);exact ends_q bx.term y.out.2.2.2.1 c.size (y.out.2.2.1.below xL c) ⟨y.out.2.2.2.2.2.2,lD u.out.2.2.1 (d4.out.1 bx (Ji y.out.1)).2⟩
          have i2:∀W lv,O wr W->zY W W.heap.size lv (mE bx.term)->G 65 #[lv,I i,I (bx.ops.length:Int),.slice da xs.length dc,.slice (some ⟨mb,mo,none⟩) ML mc] W (ym W q):=fun W lv hb hin=>by
           have:=r5.out i (bx.ops.length:Int) W lv _ c8.out (m.out.1.2.2.trans (hb.mono m.out.1.2.2.size)) hin
           rwa [hq] at this
          have k5:=Ja i1;have n1:=Ja i2;have r3:=Ja (show aau d g bx i=q from by unfold aau aaC;rw[HQ.out,d3,hq];rfl);clear hq i1 i2 d3 a7;go_upto_region 33 with fail
          go_cut [18] (fun s wx=>s=.bool q/\Hid (O wr wx))
          case first=>
           go_region_held3 (fun w'=>A w' b9 1 (.slice oa bx.ops.length oc)/\A w' b9 2 (I bx.term.kind)/\A w' b9 3 (I bx.term.a)/\A w' b9 4 (.slice ta bx.term.to.length tc)/\O wr w')
            (first
              |(go_split_ands;refine⟨?_,?_,?_,?_,?_⟩<;>assumption)
              |(go_split_ands;refine⟨?_,?_,?_,?_,uG ?_⟩<;>assumption))
            (first
              |(go_at_call 67;go_must (refine(k5.out _ (by repeat' (first|assumption|(with_reducible refine Below.drew ?_)))).mono ?_;rintro e w2 ⟨ev,rfl,t5,u0⟩;have a4:Below wr.heap.size wr w2:=Below.trans (by repeat' (first|assumption|(with_reducible refine Below.drew ?_))) (u0.mono (Below.size (B:=wr.heap.size) (w:=wr) (by repeat' (first|assumption|(with_reducible refine Below.drew ?_)))));have v4:=zV a4 l9 z1;have v3:=zV a4 l9 z2;have v2:=zV a4 l9 z3;have v1:=zV a4 l9 z4))
              |(go_at_call 65;go_must (refine(n1.out _ _ (by repeat' (first|assumption|(with_reducible refine Below.drew ?_))) t5).mono ?_;rintro e w4 ⟨rfl,c7⟩;have e7:Below wr.heap.size wr w4:=Below.trans (by repeat' (first|assumption|(with_reducible refine Below.drew ?_))) (c7.mono (Below.size (B:=wr.heap.size) (w:=wr) (by repeat' (first|assumption|(with_reducible refine Below.drew ?_)))));have w0:=zV e7 l9 z1;have v9:=zV e7 l9 z2;have v6:=zV e7 l9 z3;have v5:=zV e7 l9 z4)))
           all_goals
            go_wp2_with fail;go_meet;exact⟨rfl,Ja (by repeat' (first|assumption|(with_reducible refine Below.drew ?_)))⟩
          case rest=>
           obtain⟨rfl,n3⟩:=hcut
           cases q with
           |false=>
            go_wp2;go_ret;refine⟨aaw ?_,(m.out.1.1.below n3.out).bel⟩;rw[k4.out];have hv:=H7.out.2.2.2
            exact dz (by rw[a0.out.1];exact hv) y.out.1 (by rw[a0.out.1];exact r3.out)
           |true=>
            have HN:=Ja (show FnB w wc (R p (some ⟨fb,fo,none⟩) f2 (some ⟨ab,ao,none⟩) a2 d1 d2 b1 b2) #[.slice (some ⟨kb,ko,none⟩) blocks.length bc]/\O w7 wc/\∀j b,j<i+1->blocks[j]? =some b->aau d g b j=true from
             ⟨m.out.1.1.below n3.out,m.out.1.2.2.trans (n3.out.mono m.out.1.2.2.size),fun j b hj hb=>by
               by_cases t3:j=i
               ·subst t3;rw[y.out.1] at hb;cases hb;exact r3.out
               ·exact a6.out.2.2 j b Zo hb⟩)
            clear z1 z2 z3 z4 l9 k9;go_wp2;go_roundw
            case rel=>first|exact⟨i+1,c8.out,by go_num,HN⟩|((repeat apply Exists.intro);exact⟨⟨i+1,c8.out,by go_num,HN⟩,rfl⟩)
            case measure=>have:=c8.out;simp[intOf];omega
      ·obtain rfl:i=blocks.length:=by omega
       have f6:¬(blocks.length:Int)<blocks.length:=Zo;clear d0;go_wp2;go_ret;refine⟨aaw ?_,a6.out.1.bel⟩;rw[k4.out];have hv:=H7.out.2.2.2;exact(bI (by rw[a0.out.1];exact hv)).2 fun j b hb=>by rw[a0.out.1];exact a6.out.2.2 j b (Jh.1 hb).1 hb
theorem ab0{V:PV}{p:IProg}(hp:ProgIn w w.heap.size V p)(hs:∀f∈p.funcs,vZ f):
 G 14 #[yH V p] w (m9 w (vC p)):=by
 have d:∀W,O w W->G 33 #[yH V p] W (m9 W (sR p)):=fun W hb=>hdr_q ((hp.below hb).mono hb.size)
 have j:∀W n,O w W->sR p=0->n<p.funcs.length->G 34 #[yH V p,I n] W (ym W (yi p n)):=fun W n hb h0 hn=>by
  obtain⟨_,h1,h2,_⟩:=se h0;exact bZ ((hp.below hb).mono hb.size) h1 h2 hs hn
 obtain⟨Vf,Va,Vd,Vb⟩:=V;obtain⟨f1,f2,e1,_,_⟩:=hp.funcs.form;obtain⟨a1,a2,e2,_,_⟩:=hp.args.form;obtain⟨d1,d2,e3,_,_⟩:=hp.data.form;obtain⟨b1,b2,e4,_,_⟩:=hp.banks.form;simp only at e1 e2 e3 e4;subst e1 e2 e3 e4;have b4:p.funcs.length<=9223372036854775807:=Zo;unfold yH at d j ⊢;simp only at d j ⊢;have HH:=Ja d;have HF:=Ja j;have a8:O w (w.alloc (T (R p f1 f2 a1 a2 d1 d2 b1 b2) 29)):=(Below.refl _ _).alloc (Je _) _;have c:=zI (W:=w) (o:=T (R p f1 f2 a1 a2 d1 d2 b1 b2) 29) rfl;obtain⟨res,t⟩:∃x,vC p=x:=⟨_,rfl⟩
 rw[t];have u:=Ja t;obtain⟨eh,a4⟩:∃x,sR p=x:=⟨_,rfl⟩
 rw[a4] at HH;have m:=Ja a4;clear hp hs d j t a4;go_enter Tryz.func14,Tryz.ntmps14;go_upto_region 1 with fail;generalize b3:w.alloc (T (R p f1 f2 a1 a2 d1 d2 b1 b2) 29)=W0 at *;have y0:=K0 c;have y1:=K1 c;have y2:=K2 c;have y3:=K3 c;have y4:=K4 c;have y5:=K5 c;have H0:=Ja (show O w W0/\Q W0 w.heap.size (R p f1 f2 a1 a2 d1 d2 b1 b2) 29 from⟨a8,c⟩);clear a8 c b3;go_upto_region 2 with(first|(go_at_call 33;go_must (refine(HH.out _ H0.out.1).mono ?_;rintro e w1 ⟨rfl,a5⟩))|go_in)
 have l:=Ja (show O w w1/\Q w1 w.heap.size (R p f1 f2 a1 a2 d1 d2 b1 b2) 29 from⟨H0.out.1.trans (a5.mono H0.out.1.size),zH a5 H0.out.2 (lt_of_block H0.out.2)⟩);clear a5 y0 y1 y2 y3 y4 y5
 by_cases hz:eh=0
 ·subst hz;go_wp2
  go_loopw [4] (fun iv wx=>∃i:Nat,i<=p.funcs.length/\iv=I i/\Hid (O w1 wx/\∀n,n<i->yi p n=true)) (fun iv _=>p.funcs.length-(intOf iv).toNat)
  case atStart=>exact⟨0,Jt _,rfl,Ja ⟨Below.refl _ _,fun n hn=>by omega⟩⟩
  case round=>
   obtain⟨i,hi,rfl,k⟩:=hrel;have g:=zH k.out.1 l.out.2 (lt_of_block l.out.2);have z0:=K0 g
   by_cases y:i<p.funcs.length
   ·have a9:(i:Int)<p.funcs.length:=Zo;have a3:=Ja y;have z1:=K1 g;have z2:=K2 g;have z3:=K3 g;have z4:=K4 g;have z5:=K5 g;have a7:=Ja (HF.out wr i (l.out.1.trans (k.out.1.mono l.out.1.size)) m.out y);obtain⟨q,hq⟩:∃q,yi p i=q:=⟨_,rfl⟩
    rw[hq] at a7;have HQ:=Ja hq;clear hq g y
    cases q with
    |false=>
     go_wp2_with (first|(go_at_call 34;go_must (refine a7.out.mono ?_;rintro e w2 ⟨rfl,a0⟩))|go_in)
     go_ret
     have hr:res=51:=by
      rw[<-u.out];unfold vC;rw[if_neg (by rw[m.out];simp),if_neg];intro b0;have:=Oe.1 b0 i (Ol.2 a3.out);rw[HQ.out] at this;cases this
     exact⟨zh hr.symm,l.out.1.trans ((k.out.1.trans (a0.mono k.out.1.size)).mono l.out.1.size)⟩
    |true=>
     go_wp2_with (first|(go_at_call 34;go_must (refine a7.out.mono ?_;rintro e w2 ⟨rfl,a0⟩))|go_in)
     have a6:=Ja (show O w1 w2/\∀n,n<i+1->yi p n=true from⟨k.out.1.trans (a0.mono k.out.1.size),fun n hn=>by
      rcases Nat.lt_succ_iff_lt_or_eq.1 hn with h|rfl
      ·exact k.out.2 n h
      ·exact HQ.out⟩)
     clear a0;go_roundw
     case rel=>first|exact⟨i+1,a3.out,by go_num,a6⟩|((repeat apply Exists.intro);exact⟨⟨i+1,a3.out,by go_num,a6⟩,rfl⟩)
     case measure=>have:=a3.out;simp[intOf];omega
   ·obtain rfl:i=p.funcs.length:=by omega
    have a9:¬(p.funcs.length:Int)<p.funcs.length:=Zo
    have hr:=Ja (show res=0 by
     rw[<-u.out];unfold vC;rw[if_neg (by rw[m.out];simp),if_pos]
     exact Oe.2 fun n hn=>k.out.2 n (Ol.1 hn))
    clear y;go_wp2;go_ret;exact⟨zh hr.out.symm,l.out.1.trans (k.out.1.mono l.out.1.size)⟩
 ·have t1:(eh !=0)=true:=by rw[bne_iff_ne];exact hz
  have hr:=Ja (show res=eh by
   rw[<-u.out];unfold vC
   rw[if_pos (by rw[m.out];exact hz),m.out])
  clear hz;go_wp2;go_ret;exact⟨zh hr.out.symm,l.out.1⟩
theorem afR{B:Nat}{V:PV}{p:IProg}(hp:ProgIn w B V p)(hB:B<=w.heap.size)(hs:∀f∈p.funcs,vZ f)(f:Int)(h:¬ahi p f):
 G 16 #[yH V p,I f] w (fun e w'=>∃a c,e=.returned (.slice a 0 c)/\O w w'):=by
 by_cases h1:vC p=0/\0<=f/\f.toNat<p.funcs.length
 ·obtain⟨hv,g,hl⟩:=h1
  have d:p.funcs.getD f.toNat []=[]:=by
   by_cases e:p.funcs.getD f.toNat []=[]
   ·exact e
   ·exact absurd ⟨hv,⟨g,hl⟩,e⟩ h
  have hf:p.funcs[f.toNat]? =some []:=by
   rw[Jj,Jd hl] at d;rw[Jd hl]
   simpa using d
  have:=afn hp hB hs hv hf;rw[Oa g] at this;refine this.mono ?_;rintro e w' ⟨v,rfl,ho,hb⟩;obtain⟨a,c,rfl⟩:=zG ho;exact⟨a,c,rfl,hb⟩
 ·refine(aeU hp hB hs f h1).mono ?_;rintro e w' ⟨rfl,hb⟩;exact⟨none,0,rfl,hb⟩
theorem afE (w:World)(sv:Value)(s:List Int)(q0 q1 q2 f:Int)(hs:zY w w.heap.size sv s)(hq:I64 q0/\I64 q1/\I64 q2)(hf:I64 f):
 G 3 #[sv,.agg #[I q0,I q1,I q2],I f] w fun e w'=>e=.returned (.bool true)/\O w w':=by
 obtain⟨sa,sc,rfl,f0,e9⟩:=hs.form;have HS:=Ja (Jb hs (Jb hq hf));clear hs f0 e9 hq hf;have a3:O w (w.alloc (T #[I q0,I q1,I q2] 23)):=(Below.refl _ _).alloc (Je _) _;have b6:QBx (w.alloc (T #[I q0,I q1,I q2] 23)) w.heap.size q0 q1 q2:=⟨zI rfl⟩
 have H0:=Ja (Jb a3 b6);clear a3 b6;go_enter Tryz.func3,Tryz.ntmps3;go_upto_region 2 with(go_at_call 11;go_must (refine(sanity10 _).mono ?_;rintro e w0 ⟨rfl,d⟩))
 have H1:=Ja (Jb (H0.out.1.trans (d.mono H0.out.1.size)) (H0.out.2.below d));clear d H0;have HM:=Ja (agB ((HS.out.1.below zO H1.out.1).mono zO H1.out.1.size));have a9:=acK (s.take 200);have b7:=fm (s.take 200);generalize uR (s.take 200)=p at *;go_upto_region 3 with(go_at_call 12;go_must (refine HM.out.mono ?_;rintro e w1 ⟨fa,fc,aa,ac,da,dc,ba,bc,rfl,hp,d⟩))
 have q:=d.alloc d.size (T (R p fa fc aa ac da dc ba bc) 29);have o:=Ja (Jb (H1.out.1.trans (q.mono H1.out.1.size)) (Jb (H1.out.2.below q) (PBx.new hp)));clear d hp q HM H1;generalize w1.alloc (T (R p fa fc aa ac da dc ba bc) 29)=X at *;generalize w1.heap.size=b8 at *;have c0:=o.out.2.2.c0;have c1:=o.out.2.2.c1;have c2:=o.out.2.2.c2;have c3:=o.out.2.2.c3;have c4:=o.out.2.2.c4;have c5:=o.out.2.2.c5;have d0:=o.out.2.1.c0;have d1:=o.out.2.1.c1;have d2:=o.out.2.1.c2;have HT:=Ja (kU (o.out.2.2.prog) (a9.small Zd) HS.out.2.1);have c7:=acA a9 q0 q1 q2;generalize wR p q0 q1 q2=t at *;go_upto_region 4 with(go_at_call 13;go_must (refine HT.out.mono ?_;rintro e w2 ⟨a5,a4,aa1,ac1,a7,a6,ba1,bc1,rfl,hp,d⟩))
 have q:=d.alloc d.size (T (R t a5 a4 aa1 ac1 a7 a6 ba1 bc1) 29);have g:=Ja (Jb (o.out.1.trans (q.mono o.out.1.size)) (Jb (o.out.2.2.below q) (PBx.new2 hp)));clear d hp q HT o c0 c1 c2 c3 c4 c5 d0 d1 d2;generalize w2.alloc (T (R t a5 a4 aa1 ac1 a7 a6 ba1 bc1) 29)=Y at *;generalize w2.heap.size=b9 at *;have j:=Ja (show(∀f∈p.funcs,vZ f)/\(∀f∈t.funcs,vZ f) from⟨fun f hf=>(a9.sized Zd f hf).1,fun f hf=>(c7.sized Zd f hf).1⟩);have b4:=Ja b7;clear a9 c7 b7;obtain⟨vt,a8⟩:∃x,vC t=x:=⟨_,rfl⟩
 have b3:=Ja (show ∀W,O Y W->G 14 #[.agg (R t a5 a4 aa1 ac1 a7 a6 ba1 bc1)] W (m9 W vt) from fun W hb=>by
  have:=ab0 (g.out.2.2.below hb).prog j.out.2
  rwa [a8] at this)
 have d5:=Ja (show vt≠0->∀W,O Y W->G 15 #[.agg (R t a5 a4 aa1 ac1 a7 a6 ba1 bc1),I 0] W (kr W)/\G 16 #[.agg (R t a5 a4 aa1 ac1 a7 a6 ba1 bc1),I 0] W (kr W) from fun h0 W hb=>
  ⟨aeE (g.out.2.2.below hb).prog (Je _) j.out.2 0 (fun h=>h0 (a8.symm.trans h.1)),aeU (g.out.2.2.below hb).prog (Je _) j.out.2 0 (fun h=>h0 (a8.symm.trans h.1))⟩)
 clear a8
 go_cut [30] from 16 to 30 (fun v wx=>v=.bool false/\Hid (O Y wx))
 case first=>
  have c0:=g.out.2.2.c0;have c1:=g.out.2.2.c1;have c2:=g.out.2.2.c2;have c3:=g.out.2.2.c3;have c4:=g.out.2.2.c4;have c5:=g.out.2.2.c5;have hl:=g.out.2.2.lt
  by_cases h0:vt=0
  ·subst h0;go_wp2_with (go_at_call 14;go_must (refine(b3.out _ (Below.refl _ _)).mono ?_;rintro e w3 ⟨rfl,a2⟩))
   go_meet;exact⟨rfl,Ja a2⟩
  ·have a0:(vt !=0)=true:=by simpa using h0
   have HN:=Ja (d5.out h0);clear h0
   go_wp2_with (first
    |(go_at_call 14;go_must (refine(b3.out _ (Below.refl _ _)).mono ?_;rintro e w3 ⟨rfl,a2⟩;have k:=g.out.2.2.below a2;have e0:=k.c0;have e1:=k.c1;have e2:=k.c2;have e3:=k.c3;have e4:=k.c4;have e5:=k.c5;have el:=k.lt;have b5:=Ja a2;clear a2 k c0 c1 c2 c3 c4 c5))
    |(go_at_call 15;go_must (refine(HN.out _ b5.out).1.mono ?_;rintro e w4 ⟨rfl,a1⟩;have m:=Ja (b5.out.trans (a1.mono b5.out.size));clear a1;have k:=g.out.2.2.below m.out;have c0:=k.c0;have c1:=k.c1;have c2:=k.c2;have c3:=k.c3;have c4:=k.c4;have c5:=k.c5;have cl:=k.lt;clear k e0 e1 e2 e3 e4 e5))
    |(go_at_call 16;go_must (refine(HN.out _ m.out).2.mono ?_;rintro e w5 ⟨rfl,b2⟩)))
   go_meet;exact⟨rfl,Ja (m.out.trans (b2.mono m.out.size))⟩
 case rest=>
  obtain⟨rfl,HW⟩:=hcut;have l:=Ja (Jb (g.out.2.1.below HW.out) (g.out.1.trans (HW.out.mono g.out.1.size)));clear d5 b3 HW;have k:=l.out.1;have c0:=k.c0;have c1:=k.c1;have c2:=k.c2;have c3:=k.c3;have c4:=k.c4;have c5:=k.c5;have cl:=k.lt;clear k
  by_cases u:ahi p f
  ·obtain⟨hv,⟨f4,c9⟩,a0⟩:=u;obtain⟨n,rfl⟩:∃n:Nat,f=n:=⟨f.toNat,by omega⟩
   rw[Ni] at c9 a0;obtain⟨bl,i⟩:∃bl,p.funcs[n]? =some bl:=⟨_,Jd c9⟩
   have y:bl≠ []:=by rw[Jj,i] at a0;exact a0
   have f6:0<bl.length:=List.length_pos_iff.2 y;have hF:=ag7 b4.out j.out.1 l.out.1.prog.p64 i y;obtain⟨N,hN⟩:∃N:Nat,aaG bl=N:=⟨(aaG bl).toNat,by have:=hF.cnt;omega⟩
   have b0:(p6 p bl).length=N:=by rw[(aeH hF).2,hN];rfl
   obtain⟨gb,go,f3,c8,bv,g0,b1⟩:=l.out.1.prog.funcs.get i;obtain⟨ka,kc,rfl,f2,f1⟩:=b1.form;rw[Nk] at g0;subst f3
   have HR:=Ja (show ∀W,O wc W->G 15 #[.agg (R p (some ⟨gb,go,none⟩) fc aa ac da dc ba bc),I n] W (fun e w'=>∃b,e=.returned (F b N N)/\O W w') from fun W hb=>by
    refine(afi (l.out.1.below hb).prog (Je _) j.out.1 b4.out i y).mono ?_;rintro e w' ⟨b,rfl,_,_,h3⟩;rw[b0]
    exact⟨b,rfl,h3⟩)
   have HK:=Ja (show ∀W,O wc W->G 17 #[.agg #[.slice ka bl.length kc]] W (aeP W (N:Int)) from fun W hb=>by
    have:=jr (b1.below yT hb) hb.size (j.out.1 bl (Ji i));rw[hN] at this
    exact this)
   have HO:=Ja (show ∀W,O wc W->G 16 #[.agg (R p (some ⟨gb,go,none⟩) fc aa ac da dc ba bc),I (p.funcs.length:Int)] W (kr W) from fun W hb=>
    aeU (l.out.1.below hb).prog (Je _) j.out.1 _ (fun h=>by have:=h.2.2;rw[Ni] at this;exact absurd this (Nat.lt_irrefl _)))
   have HC:=Ja (show ∀W,O wc W->(A W b8 0 (.slice (some ⟨gb,go,none⟩) p.funcs.length fc)/\A W b8 1 (.slice aa p.args.length ac)/\A W b8 2 (I p.entry)/\A W b8 3 (I p.handler)/\A W b8 4 (.slice da p.data.length dc)/\A W b8 5 (.slice ba p.banks.length bc))/\A W gb (go+n) (.slice ka bl.length kc) from fun W hb=>by
    have k:=l.out.1.below hb
    exact⟨⟨k.c0,k.c1,k.c2,k.c3,k.c4,k.c5⟩,zV hb c8 g0⟩)
   have hd:decide ((n:Int)<0)=false:=decide_eq_false Zo;have d3:decide ((p.funcs.length:Int)<=(n:Int))=false:=decide_eq_false Zo;have f5:decide (p.funcs.length<=n)=false:=decide_eq_false Zo;have g2:((bl.length:Int)==0)=false:=Ze;have g1:(bl.length==0)=false:=beq_eq_false_iff_ne.2 Zo;clear hv f4 a0 i y hF hN b0 b1;go_upto_region 8 with fail
   go_region_held3 (fun w'=>(A w' b8 0 (.slice (some ⟨gb,go,none⟩) p.funcs.length fc)/\A w' b8 1 (.slice aa p.args.length ac)/\A w' b8 2 (I p.entry)/\A w' b8 3 (I p.handler)/\A w' b8 4 (.slice da p.data.length dc)/\A w' b8 5 (.slice ba p.banks.length bc))/\A w' gb (go+n) (.slice ka bl.length kc))
    ((refine HC.out _ ?_;repeat' (first|with_reducible exact Below.refl _ _|with_reducible assumption|with_reducible refine Below.drew ?_|with_reducible refine Below.alloc ?_ Zn _|with_reducible refine Below.setCell ?_ Zn _)))
    ((first
      |(go_at_call 15;(with_reducible refine(HR.out _ Zb).mono ?_);rintro e y0 ⟨rb,rfl,a3⟩;have e7:Below wc.heap.size wc y0:=Below.trans Zb (a3.mono Zn);have f9:=e7.size;clear a3)
      |(go_at_call 17;(with_reducible refine(HK.out _ Zb).mono ?_);rintro e y1 ⟨rfl,d⟩;have e6:Below wc.heap.size wc y1:=Below.trans Zb (d.mono Zn);have f8:=e6.size;clear d)
      |(go_at_call 16;(with_reducible refine(HO.out _ Zb).mono ?_);rintro e y2 ⟨rfl,d4⟩;have d7:Below wc.heap.size wc y2:=Below.trans Zb (d4.mono Zn);have f7:=d7.size;clear d4)))
   all_goals go_wp2_with fail
   all_goals go_ret
   all_goals exact⟨rfl,l.out.2.trans (Below.mono (by first|with_reducible assumption|with_reducible exact uG Zz) l.out.2.size)⟩
  ·have HN:=Ja (show ∀W,O wc W->G 15 #[.agg (R p fa fc aa ac da dc ba bc),I f] W (kr W)/\G 16 #[.agg (R p fa fc aa ac da dc ba bc),I f] W (fun e w'=>∃a c,e=.returned (.slice a 0 c)/\O W w') from fun W hb=>
    ⟨aeE (l.out.1.below hb).prog (Je _) j.out.1 f u,afR (l.out.1.below hb).prog (Je _) j.out.1 f u⟩)
   have d6:=Ja (show ¬ahi p f from u);clear u;go_upto_region 6 with fail
   go_cut [49] from 31 to 49 (fun v wx=>v=.bool true/\wx=wc)
   case first=>
    by_cases h1:f<0
    ·have hd:decide (f<0)=true:=decide_eq_true h1;go_wp2;go_meet;exact⟨rfl,rfl⟩
    ·have hd:decide (f<0)=false:=decide_eq_false h1
     by_cases h2:(p.funcs.length:Int)<=f
     ·have d3:decide ((p.funcs.length:Int)<=f)=true:=decide_eq_true h2;go_wp2;go_meet;exact⟨rfl,rfl⟩
     ·obtain⟨n,rfl⟩:∃n:Nat,f=n:=⟨f.toNat,by omega⟩
      have hn:n<p.funcs.length:=Zo;have d3:decide ((p.funcs.length:Int)<=(n:Int))=false:=decide_eq_false h2;have f5:decide (p.funcs.length<=n)=false:=decide_eq_false Zo
      have he:p.funcs[n]? =some []:=by
       by_cases e:p.funcs.getD n []=[]
       ·rw[Jj,Jd hn] at e;rw[Jd hn]
        simpa using e
       ·exact absurd ⟨b4.out,⟨by omega,by rw[Ni];exact hn⟩,by rw[Ni];exact e⟩ d6.out
      obtain⟨gb,go,rfl,c8,bv,g0,i⟩:=l.out.1.prog.funcs.get he;obtain⟨ka,kc,rfl,f2,f1⟩:=i.form;rw[Nk] at g0;clear i he h1 h2;go_wp2;go_meet;exact⟨rfl,rfl⟩
   case rest=>
    obtain⟨rfl,e8⟩:=hcut;subst e8
    go_wp2_with (first
     |(go_at_call 15;go_must (refine(HN.out _ (Below.refl _ _)).1.mono ?_;rintro e w4 ⟨rfl,a1⟩;have m:=Ja a1;clear a1;have k:=l.out.1.below m.out;clear c0 c1 c2 c3 c4 c5 cl;have c0:=k.c0;have c1:=k.c1;have c2:=k.c2;have c3:=k.c3;have c4:=k.c4;have c5:=k.c5;have cl:=k.lt;clear k))
     |(go_at_call 16;go_must (refine(HN.out _ m.out).2.mono ?_;rintro e w5 ⟨oa,oc,rfl,b2⟩)))
    go_ret;exact⟨rfl,l.out.2.trans ((m.out.trans (b2.mono m.out.size)).mono l.out.2.size)⟩
end Go.Proofs.YtoahcpkibpomcaaGreat
