/-
  Part of a proof.
-/
import Derived.Test.YtoahcpkibpomcaaGreatQQuick
set_option linter.all false
set_option maxHeartbeats 16000000
set_option maxRecDepth 100000
namespace Go.Proofs.YtoahcpkibpomcaaGreat
open Go.RowKit
abbrev RunZ (W:World)(b:Nat):Prop:=Q W b #[O 0,L,U 0,O 0,.string ⟨#[]⟩,U 0,U 0] 57
theorem afY {W:World}{b:Nat}(h:RunZ W b):A W b 0 (O 0)/\A W b 1 (L)/\A W b 2 (U 0)/\A W b 3 (O 0)/\A W b 4 (.string ⟨#[]⟩)/\A W b 5 (U 0)/\A W b 6 (U 0)/\(∀i,N W b i)/\b<W.heap.size:=
 ⟨zA h rfl,zA h rfl,zA h rfl,zA h rfl,zA h rfl,zA h rfl,zA h rfl,fun i=>zE h,lt_of_block h⟩
theorem ajT (w:World)(sv:Value)(s:List Int)(xv:Value)(x:SetF)(hs:zY w w.heap.size sv s)(hx:SetIz w w.heap.size xv x):
 Calls Tryz.prog 5 #[sv,xv] w fun e w'=>e=.returned (.bool true)/\Below w.heap.size w w':=by
 obtain⟨sa,sc,rfl,h0,g9⟩:=hs.form;obtain⟨sa3,sc3,j,qc3,rfl,i0,h9⟩:=hx.form;have d5:=hx.ram;have g6:=hx.fuel;have HS:=Ja hs;have b2:Below w.heap.size w (w.alloc (G #[.slice sa3 x.inn.length sc3,.slice j x.irq.length qc3,.int .u32 (x.ram:Int),.int .u8 (x.fuel:Int)] 52)):=(Below.refl _ _).alloc (Je _) _;have e5:SBz (w.alloc (G #[.slice sa3 x.inn.length sc3,.slice j x.irq.length qc3,.int .u32 (x.ram:Int),.int .u8 (x.fuel:Int)] 52)) w.heap.size x sa3 sc3 j qc3:=⟨zI rfl,(hx.below b2).mono b2.size⟩
 obtain⟨xb,d2⟩:∃xb,w.heap.size=xb:=⟨_,rfl⟩
 have H0:=Ja (show Below w.heap.size w (w.alloc (G #[.slice sa3 x.inn.length sc3,.slice j x.irq.length qc3,.int .u32 (x.ram:Int),.int .u8 (x.fuel:Int)] 52))/\SBz (w.alloc (G #[.slice sa3 x.inn.length sc3,.slice j x.irq.length qc3,.int .u32 (x.ram:Int),.int .u8 (x.fuel:Int)] 52)) xb x sa3 sc3 j qc3 from⟨b2,d2 ▸ e5⟩);clear hs h0 g9 i0 h9 b2 e5 hx;go_enter Tryz.func5,Tryz.ntmps5;go_upto_region 1 with fail;generalize w.alloc (G #[.slice sa3 x.inn.length sc3,.slice j x.irq.length qc3,.int .u32 (x.ram:Int),.int .u8 (x.fuel:Int)] 52)=W0 at *
 try rw[d2]
 clear d2;go_upto_region 2 with(go_at_call 11;go_must (refine(ahv _).mono ?_;rintro e w0 ⟨rfl,g⟩))
 have H1:=Ja (Jb (H0.out.1.trans (g.mono H0.out.1.size)) (H0.out.2.below g));clear g H0;have HM:=Ja (af7 ((HS.out.below zO H1.out.1).mono zO H1.out.1.size));have e9:=fm (s.take 200);have f8:=Ja (fun h64 n bl hn=>agO (s.take 200) h64 (n:=n) (bl:=bl) hn);have i2:=Ja (ah7 (s.take 200));have l0:=Ja (aal (s.take 200));generalize uR (s.take 200)=p at *;go_upto_region 3 with(go_at_call 12;go_must (refine HM.out.mono ?_;rintro e w1 ⟨fa,fc,aa,ac,da,dc,ba,bc,rfl,hp,g⟩))
 have d8:=g.alloc g.size (G (D p fa fc aa ac da dc ba bc) 29);have d:=Ja (Jb (H1.out.1.trans (d8.mono H1.out.1.size)) (Jb (H1.out.2.below d8) (PBx.new hp)));clear g hp d8 HM H1;generalize w1.alloc (G (D p fa fc aa ac da dc ba bc) 29)=X at *;generalize w1.heap.size=b8 at *;have f1:=ahV e9;obtain⟨n,hn,h6⟩:∃n:Nat,(x.fuel:Int)%(p.funcs.length:Int)=(n:Int)/\n<p.funcs.length:=⟨x.fuel%p.funcs.length,by omega,Qj _ f1.1⟩
 obtain⟨bl,f3⟩:∃bl,p.funcs[n]? =some bl:=⟨_,Jd h6⟩
 have l:=Ja (f8.out d.out.2.2.prog.p64 n bl f3);clear f8 e9 f3;obtain⟨gb,go,rfl,f0,fv,g0,d9⟩:=d.out.2.2.prog.funcs.get l.out.at_;rw[Nk] at g0;obtain⟨ka,kc,rfl,h8,h7⟩:=d9.form;have HG:=Ja (show(gb<X.heap.size/\A X gb (go+n) (.slice ka bl.length kc))/\wX X X.heap.size (.slice ka bl.length kc) bl from⟨⟨f0,g0⟩,d9⟩);clear f0 g0 d9 h8 h7
 have HC:=Ja (show ∀W,Below X.heap.size X W->A W b8 0 (.slice (some ⟨gb,go,none⟩) p.funcs.length fc)/\A W b8 1 (.slice aa p.args.length ac)/\A W b8 2 (U p.entry)/\A W b8 3 (U p.handler)/\A W b8 4 (.slice da p.data.length dc)/\A W b8 5 (.slice ba p.banks.length bc)/\A W xb 0 (.slice sa3 x.inn.length sc3)/\A W xb 1 (.slice j x.irq.length qc3)/\A W xb 2 (.int .u32 (x.ram:Int))/\A W xb 3 (.int .u8 (x.fuel:Int)) from fun W hb=>by
  have h1:=d.out.2.2.below hb;have h2:=d.out.2.1.below hb
  exact⟨h1.c0,h1.c1,h1.c2,h1.c3,h1.c4,h1.c5,h2.c0,h2.c1,h2.c2,h2.c3⟩)
 have c0:=d.out.2.2.c0;have cl:=d.out.2.2.lt;have e3:=d.out.2.1.c3;have el:=lt_of_block d.out.2.1.blk;go_upto_region 4 with fail;rw[hn];clear hn c0 cl e3 el;obtain⟨q,hq⟩:∃q,mc p n=q:=⟨_,rfl⟩
 obtain⟨I,hI⟩:∃I,x.inn.take 20=I:=⟨_,rfl⟩
 obtain⟨Q,hQ⟩:∃Q,x.irq.take 20=Q:=⟨_,rfl⟩
 obtain⟨S,hS⟩:∃S,y9 (gD x.ram 272)=S:=⟨_,rfl⟩
 obtain⟨RN,e1⟩:∃RN,bQ ⟨q,I,Q⟩ 0 [] S 5000=RN:=⟨_,rfl⟩
 have f6:=Ja (show ∀W,Below X.heap.size X W->Calls Tryz.prog 21 #[.agg (D p (some ⟨gb,go,none⟩) fc aa ac da dc ba bc),U n] W (ai1 W q) from fun W hb=>by
  have h:=ajb l.out (d.out.2.2.below hb).prog;rw[hq] at h
  exact h)
 have g1:=Ja (show ∀W,Calls Tryz.prog 22 #[.int .u32 (x.ram:Int),U 272] W (aap W S) from fun W=>by rw[<-hS];exact eR W x.ram 272 d5 Zd)
 have f7:=Ja (show ∀W,Below X.heap.size X W->Calls Tryz.prog 23 #[.agg #[.slice sa3 x.inn.length sc3,.slice j x.irq.length qc3,.int .u32 (x.ram:Int),.int .u8 (x.fuel:Int)]] W (fun e w'=>∃ia ic qa qc,e=.returned (.agg #[.slice ia I.length ic,.slice qa Q.length qc])/\wV w' w'.heap.size (.slice ia I.length ic) I/\dL w' w'.heap.size (.slice qa Q.length qc) Q/\Below W.heap.size W w') from fun W hb=>by
  refine(ag9 (d.out.2.1.below hb).set).mono ?_;rintro e w' ⟨ia,ic,qa,qc,rfl,h1,h2,h3⟩;rw[hI] at h1 ⊢;rw[hQ] at h2 ⊢
  exact⟨ia,ic,qa,qc,rfl,h1.mono zr h3.size,h2.mono xQ h3.size,h3⟩)
 have f9:=Ja (show ∀(W:World) (b7:Option Addr) (b6:Nat) (aa1:Option Addr) (ac1:Nat) (c8:Option Addr) (c7:Nat) (ba1:Option Addr) (bc1:Nat) (ia:Option Addr) (ic:Nat) (qa:Option Addr) (qc:Nat),Below X.heap.size X W->ProgIn W W.heap.size ⟨.slice b7 q.funcs.length b6,.slice aa1 q.args.length ac1,.slice c8 q.data.length c7,.slice ba1 q.banks.length bc1⟩ q->wV W W.heap.size (.slice ia I.length ic) I->dL W W.heap.size (.slice qa Q.length qc) Q->
  Calls Tryz.prog 20 #[.agg (D q b7 b6 aa1 ac1 c8 c7 ba1 bc1),U 0,L,.string S,.agg #[.slice ia I.length ic,.slice qa Q.length qc],U 5000] W (eM W RN) from fun W b7 b6 aa1 ac1 c8 c7 ba1 bc1 ia ic qa qc hb hp hi hqq=>by
  rw[<-e1]
  refine(akv hp (hq ▸ l.out.ok) (hq ▸ l.out.use) 0 ⟨by decide,by rw[<-hq,ae8];exact f1.1⟩ yN.nil (by rw[<-hq];exact i2.out.symm) S (by rw[<-hS];exact agH _) hi hqq 5000 ⟨by decide,by decide⟩).mono fun e w' h=>h.open)
 have j0:=Ja (show(∀y∈I,y<65536)->aeQ ⟨rgsP p (n:Int),objP p (n:Int),aiX bl,p.data⟩ RN.out from fun h=>by rw[<-e1,<-hq];exact l.out.fin I Q _ _ S 5000 h (fun a ha=>by cases ha))
 have e2:∀y∈I,y<65536:=by
  rw[<-hI];obtain⟨_,_,_,_,e,h1,_⟩:=d.out.2.1.set.form;cases e;exact fun y hy=>akt h1 y (List.mem_of_mem_take hy)
 have g2:=Ja e2;clear hq hI hQ hS e1 e2 d5 g6
 go_cut [8] (fun v wx=>fy X RN v wx)
 case first=>
  go_region_held3 (fun w'=>A w' b8 0 (.slice (some ⟨gb,go,none⟩) p.funcs.length fc)/\A w' b8 1 (.slice aa p.args.length ac)/\A w' b8 2 (U p.entry)/\A w' b8 3 (U p.handler)/\A w' b8 4 (.slice da p.data.length dc)/\A w' b8 5 (.slice ba p.banks.length bc)/\A w' xb 0 (.slice sa3 x.inn.length sc3)/\A w' xb 1 (.slice j x.irq.length qc3)/\A w' xb 2 (.int .u32 (x.ram:Int))/\A w' xb 3 (.int .u8 (x.fuel:Int)))
   ((refine HC.out _ ?_;repeat' (first|with_reducible exact Below.refl _ _|with_reducible assumption|with_reducible refine Below.drew ?_|with_reducible refine Below.alloc ?_ Zn _|with_reducible refine Below.setCell ?_ Zn _)))
   (first
     |(go_at_call 21
       refine(f6.out _ Zb).mono ?_;rintro e y1 ⟨b7,b6,aa1,ac1,c8,c7,ba1,bc1,rfl,e8,g⟩;have g5:Below X.heap.size X y1:=Below.trans Zb (g.mono Zn);have k5:=g5.size
       first|(have d6:RunZ y1 X.heap.size:=zH g (show(World.alloc X _).heap[X.heap.size]? =_ from zI rfl) Zs)|skip
       clear g)
     |(go_at_call 22
       refine(g1.out _).mono ?_;rintro e y2 ⟨rfl,a3⟩;have a5:Below y1.heap.size y1 y2:=Below.trans Zc (a3.mono Zn);have e7:=(e8.below a5).mono a5.size;clear a5 e8;have g4:Below X.heap.size X y2:=Below.trans Zb (a3.mono Zn);have k4:=g4.size
       first|(have b0:=zH a3 d6 (by first|exact lt_of_block d6|(have:=lt_of_block d6;simp;omega)))|(have b0:RunZ y2 y1.heap.size:=zH a3 (by with_reducible exact zI rfl) Zs)|skip
       clear a3)
     |(go_at_call 23
       refine(f7.out _ Zb).mono ?_;rintro e y3 ⟨ia,ic,qa,qc,rfl,i1,h4,m⟩;have a4:Below y2.heap.size y2 y3:=Below.trans Zc (m.mono Zn);have h5:=(e7.below a4).mono a4.size;clear a4 e7;have g3:Below X.heap.size X y3:=Below.trans Zb (m.mono Zn);have k3:=g3.size
       first|(have a7:=zH m b0 (by first|exact lt_of_block b0|(have:=lt_of_block b0;simp;omega)))|(have a7:RunZ y3 y2.heap.size:=zH m (by with_reducible exact zI rfl) Zs)|skip
       clear m)
     |(go_at_call 20
       refine(f9.out _ _ _ _ _ _ _ _ _ _ _ _ _ Zb (ProgIn.mono (B:=y3.heap.size) (ProgIn.below h5 Zc) Zn) (yN.mono zr (B:=y3.heap.size) (yN.below zr i1 Zc) Zn) (yN.mono xQ (B:=y3.heap.size) (yN.below xQ h4 Zc) Zn)).mono ?_;rintro e y4 ⟨oa,oc,rfl,f2,e0⟩;have d1:Below X.heap.size X y4:=Below.trans Zb (e0.mono Zn);have k2:=d1.size
       first|(have a0:=zH e0 a7 (by first|exact lt_of_block a7|(have:=lt_of_block a7;simp;omega)))|(have a0:RunZ y4 y3.heap.size:=zH e0 (by with_reducible exact zI rfl) Zs)|skip
       first
        |(have hh:=afY (b:=X.heap.size) a0;obtain⟨c0,c1,c2,c3,c4,c5,c6,cf,cl⟩:=hh)
        |(have hh:=afY (b:=y1.heap.size) a0;obtain⟨c0,c1,c2,c3,c4,c5,c6,cf,cl⟩:=hh)
        |(have hh:=afY (b:=y2.heap.size) a0;obtain⟨c0,c1,c2,c3,c4,c5,c6,cf,cl⟩:=hh)
        |(have hh:=afY (b:=y3.heap.size) a0;obtain⟨c0,c1,c2,c3,c4,c5,c6,cf,cl⟩:=hh)
        |skip))
  all_goals go_wp2_with fail
  all_goals go_meet
  all_goals first|with_reducible exact gE d1 f2 a0 Zn|exact gN d1 f2
 case rest=>
  obtain⟨b9,oa3,oc3,rfl,a2⟩:=hcut;obtain⟨Y,hY⟩:∃Y,wc=Y:=⟨_,rfl⟩
  rw[hY] at a2 ⊢;clear hY f6 g1 f7 f9;have e4:=a2.out.2.2.2;have k:=Ja e4;clear e4;obtain⟨RG,b4⟩:∃RG,rgsP p (n:Int)=RG:=⟨_,rfl⟩
  obtain⟨OB,b5⟩:∃OB,objP p (n:Int)=OB:=⟨_,rfl⟩
  obtain⟨SZ,b3⟩:∃SZ,aiX bl=SZ:=⟨_,rfl⟩
  have j5:=Ja (show aeQ ⟨RG,OB,SZ,p.data⟩ RN.out by rw[<-b4,<-b5,<-b3];exact j0.out g2.out);have a6:=Ja (show(∀z∈OB,I64 z)/\∀z∈SZ,1<=z/\z<=2 by rw[<-b5,<-b3];exact⟨ajh l.out.valid _,ahO⟩)
  have j1:=Ja (show ∀W,Below X.heap.size X W->Calls Tryz.prog 15 #[.agg (D p (some ⟨gb,go,none⟩) fc aa ac da dc ba bc),U n] W (ah1 W RG) from fun W hb=>by
   have:=afE (d.out.2.2.below hb).prog (Je _) l.out.sized (n:Int)
   rwa [b4] at this)
  have j3:=Ja (show ∀W,Below X.heap.size X W->Calls Tryz.prog 16 #[.agg (D p (some ⟨gb,go,none⟩) fc aa ac da dc ba bc),U n] W (afZ W OB) from fun W hb=>by
   have:=afb (d.out.2.2.below hb).prog (Je _) l.out.sized (n:Int)
   rwa [b5] at this)
  have d4:=l.out.sized bl (Ji l.out.at_)
  have i9:=Ja (show ∀W,Below X.heap.size X W->Calls Tryz.prog 25 #[.agg #[.slice ka bl.length kc]] W (afZ W SZ) from fun W hb=>by
   have:=ahP ((HG.out.2.below yT hb).mono yT hb.size) (Je _) d4
   rwa [b3] at this)
  have f4:aaG bl=(RG.length:Int):=by rw[<-b4];exact(aje l.out.valid l.out.sized d.out.2.2.prog.p64 l.out.at_).symm
  have k0:=Ja (show ∀W,Below X.heap.size X W->Calls Tryz.prog 17 #[.agg #[.slice ka bl.length kc]] W (afl W (RG.length:Int)) from fun W hb=>by
   rw[<-f4]
   exact jr ((HG.out.2.below yT hb).mono yT hb.size) (Je _) d4)
  have k7:=ahD l.out.valid
  have t:=Ja (show ∀W,Below Y.heap.size Y W->(A W b8 0 (.slice (some ⟨gb,go,none⟩) p.funcs.length fc)/\A W b8 1 (.slice aa p.args.length ac)/\A W b8 2 (U p.entry)/\A W b8 3 (U p.handler)/\A W b8 4 (.slice da p.data.length dc)/\A W b8 5 (.slice ba p.banks.length bc))/\A W gb (go+n) (.slice ka bl.length kc)/\A W b9 1 (.slice oa3 RN.out.length oc3) from fun W hb=>by
   have h:=k.out.trans (hb.mono k.out.size);have h1:=d.out.2.2.below h
   exact⟨⟨h1.c0,h1.c1,h1.c2,h1.c3,h1.c4,h1.c5⟩,zV h HG.out.1.1 HG.out.1.2,zA (zH hb a2.out.2.1 (lt_of_block a2.out.2.1)) rfl⟩)
  have k6:(n:Int)<(p.funcs.length:Int):=Zo;clear b4 b5 b3 d4;clear f4;obtain⟨⟨c0,c1,c2,c3,c4,c5⟩,_,_⟩:=t.out Y (Below.refl _ _);have cl:=(d.out.2.2.below k.out).lt;go_upto_region 6 with(go_at_call 15;go_must (refine(j1.out _ k.out).mono ?_;rintro e w3 ⟨ra,rfl,e6,m⟩))
  clear c0 c1 c2 c3 c4 c5 cl;have k1:=Ja m;have u:=Ja (ajM e6);clear e6 m;have HZ:=Ja (show Below Y.heap.size Y w3 from k1.out);have k9:((RG.length:Int)==(RG.length:Int))=true:=by rw[beq_iff_eq]
  obtain⟨_,g0,b1⟩:=t.out w3 HZ.out;have gl:gb<w3.heap.size:=by have:=HG.out.1.1;have:=k.out.size;have:=HZ.out.size;omega
  have bl9:b9<w3.heap.size:=by have:=lt_of_block a2.out.2.1;have:=HZ.out.size;omega
  clear g0 b1;refine wp_region_noPanic ?_;refine wp_region_held_drew (S:=(fun w'=>(A w' b8 0 (.slice (some ⟨gb,go,none⟩) p.funcs.length fc)/\A w' b8 1 (.slice aa p.args.length ac)/\A w' b8 2 (U p.entry)/\A w' b8 3 (U p.handler)/\A w' b8 4 (.slice da p.data.length dc)/\A w' b8 5 (.slice ba p.banks.length bc))/\A w' gb (go+n) (.slice ka bl.length kc)/\A w' b9 1 (.slice oa3 RN.out.length oc3))) Zk (t.out _ HZ.out.drew) (fun hHeld=>?_);refine Th 0 ?_
  try simp only[Yp]
  refine Th 1 ?_
  try simp only[Yp]
  refine Th 2 ?_
  try simp only[Yp]
  refine Th 3 ?_
  try simp only[Yp]
  refine Th 4 ?_
  try simp only[Yp]
  refine Th 5 ?_
  try simp only[Yp]
  refine Th 6 ?_
  try simp only[Yp]
  refine Th 7 ?_
  try simp only[Yp]
  refine Th 8 ?_
  try simp only[Yp]
  refine wpAnyH_ready (rs:=[9]) Zk Zs ?_;refine AllReadyH.cons (o:=_) rfl (fun K hK=>?_) ?_
  ·skip
   (go_simp;refine(k0.out _ (k.out.trans (Below.mono HZ.out.drew k.out.size))).mono ?_;rintro e z0 ⟨rfl,c⟩;have u:=Ja (afT u.out ((Below.refl _ _).drew.trans c));have i:Below Y.heap.size Y z0:=HZ.out.trans (Below.mono ((Below.refl _ _).drew.trans c) HZ.out.size);have d0:=Ja i;clear i;clear c)
   refine hK.out _ _ (t.out _ d0.out) (fun hHeld=>?_);clear hK K
   try simp only[Yp]
   refine Th 10 ?_
   try simp only[Yp]
   refine Th 11 ?_
   try simp only[Yp]
   refine Td 12 ?_
   try simp only[Yp]
   refine Td 13 ?_
   try simp only[Yp]
   refine Td 14 ?_
   try simp only[Yp]
   refine Td 15 ?_
   try simp only[Yp]
   refine Td 16 ?_
   try simp only[Yp]
   refine Td 17 ?_
   try simp only[Yp]
   refine Td 18 ?_
   try simp only[Yp]
   refine Td 19 ?_
   try simp only[Yp]
   refine wpAnyH_ready (rs:=[20]) Zk Zs ?_;refine AllReadyH.cons (o:=_) rfl (fun K hK=>?_) ?_
   ·skip
    go_simp;refine hK.out _ _ hHeld (fun hHeld=>?_);clear hK K
    try simp only[Yp]
    refine wpAnyH_ready (rs:=[21]) Zk Zs ?_;refine AllReadyH.cons (o:=_) rfl (fun K hK=>?_) ?_
    ·skip
     go_simp;refine hK.out _ _ hHeld (fun hHeld=>?_);clear hK K
     try simp only[Yp]
     refine Th 22 ?_
     try simp only[Yp]
     refine Th 23 ?_
     try simp only[Yp]
     refine Th 24 ?_
     try simp only[Yp]
     refine Th 25 ?_
     try simp only[Yp]
     refine Th 26 ?_
     try simp only[Yp]
     refine Th 27 ?_
     try simp only[Yp]
     refine Th 28 ?_
     try simp only[Yp]
     refine Th 30 ?_
     try simp only[Yp]
     refine Th 31 ?_
     try simp only[Yp]
     refine Th 32 ?_
     try simp only[Yp]
     refine Th 33 ?_
     try simp only[Yp]
     refine Th 34 ?_
     try simp only[Yp]
     refine wpAnyH_ready (rs:=[29]) Zk Zs ?_;refine AllReadyH.cons (o:=_) rfl (fun K hK=>?_) ?_
     ·skip
      (go_simp;refine(j3.out _ (k.out.trans (Below.mono d0.out k.out.size))).mono ?_;rintro e z1 ⟨jv,rfl,d7,c⟩;obtain⟨ja,jc,rfl⟩:=zG d7;have u:=Ja (afT u.out c);have i:Below Y.heap.size Y z1:=d0.out.trans (Below.mono c d0.out.size);have c9:=Ja i;clear i;have j4:=Ja d7;clear d7 c)
      refine hK.out _ _ (t.out _ c9.out) (fun hHeld=>?_);clear hK K
      try simp only[Yp]
      refine wpAnyH_ready (rs:=[35]) Zk Zs ?_;refine AllReadyH.cons (o:=_) rfl (fun K hK=>?_) ?_
      ·skip
       (go_simp;refine(i9.out _ (k.out.trans (Below.mono c9.out k.out.size))).mono ?_;rintro e z2 ⟨tv,rfl,d3,c⟩;obtain⟨ta,tc,rfl⟩:=zG d3;have j2:=Ja (p7 j4.out c (Je _));have u:=Ja (afT u.out c);have i:Below Y.heap.size Y z2:=c9.out.trans (Below.mono c c9.out.size);have a1:=Ja i;clear i;have i8:=Ja d3;clear d3 c)
       refine hK.out _ _ (t.out _ a1.out) (fun hHeld=>?_);clear hK K
       try simp only[Yp]
       refine wpAnyH_ready (rs:=[36]) Zk Zs ?_;refine AllReadyH.cons (o:=_) rfl (fun K hK=>?_) ?_
       ·skip
        (go_simp;refine(akC (d.out.2.2.below (k.out.trans (Below.mono a1.out k.out.size))).prog ((a2.out.2.2.1.below vo a1.out).mono vo a1.out.size) u.out (pT j2.out a6.out.1) (pT i8.out (fun z hz=>by have:=a6.out.2 z hz;exact⟨by omega,by omega⟩)) Zo (fun z hz=>by have:=a6.out.2 z hz;omega) j5.out).mono ?_;rintro e z3 ⟨rfl,c⟩;have i:Below Y.heap.size Y z3:=a1.out.trans (Below.mono c a1.out.size);have f5:=Ja i;clear i;clear c)
        refine hK.out _ _ (t.out _ f5.out) (fun hHeld=>?_);clear hK K
        try simp only[Yp]
        refine wpAnyH_ready (rs:=[37]) Zk Zs ?_;refine AllReadyH.cons (o:=_) rfl (fun K hK=>?_) ?_
        ·skip
         go_simp;refine hK.out _ _ hHeld (fun hHeld=>?_);clear hK K
         try simp only[Yp]
         refine Th 38 ?_
         try simp only[Yp]
         refine wpAnyH_done Zk (NoPanic.normal ?_) _;go_simp;go_wp2_with fail;go_ret;exact⟨rfl,d.out.1.trans ((k.out.trans (f5.out.mono k.out.size)).mono d.out.1.size)⟩
        exact AllReadyH.nil
       exact AllReadyH.nil
      exact AllReadyH.nil
     exact AllReadyH.nil
    exact AllReadyH.nil
   exact AllReadyH.nil
  exact AllReadyH.nil
open Go.ChangeShapes Go.WideShapes Go.ChangeAt Go.RowKit
theorem agU:ownKnob Tryz.prog.godebug=none:=by kernel_rfl
theorem ae2:laidOutB Tryz.prog=true:=by kernel_rfl
theorem af4 (os:Os)(i:os.Started)(H:Type)(enc:TypeId×Value->H):
 ReturnsInHanded {} Tryz.checked os 5 .any (Rows.rangesSoundSpec.pre6 enc Tryz.prog Tryz.f5 Rows.rangesSoundRow.domain false) (Rows.rangesSoundSpec.post enc Tryz.prog Tryz.f5 false true false false):=by
 refine returnsInHanded_of_change (C:=Tryz.checked) agU i Zk Tryz.func5
  (ChangeSpec.witness6 (enc:=enc) (C:=Tryz.checked) false ⟨#[],#[L,.agg #[L,L,.int .u32 0,.int .u8 0]],[]⟩ 8 Zk Zk Zk Zk) ?_
 intro W base args ds gs ajZ d w a1 _;have c:∀(j:Nat) t v,Tryz.f5.params[j]? =some t->args[j]? =some v->Value.okWide Tryz.prog W .any base t v:=d;have g:=w;obtain⟨p,q,k,hV,rfl,a2,hnd⟩:=w;have y:DataW.TrodAll enc Tryz.prog W 0 (fun _=>true) true Tryz.f5.params.toList args.toList ds p:=k;rw[Tryz.params5] at y c;obtain⟨v0,vs0,d0,a4,p0,q0,a0,rfl,rfl,h0,r0⟩:=trodAll_cons y;obtain⟨v1,vs1,d1,a3,p1,q1,rfl,rfl,rfl,h1,r1⟩:=trodAll_cons r0;obtain⟨rfl,rfl,rfl⟩:=trodAll_nil r1;obtain rfl:args=#[v0,v1]:=by cases args;simp_all
 obtain⟨rfl,rfl⟩:=trodVars_none hV;obtain⟨x0,u⟩:=iX (c 0 22 v0 rfl rfl) h0;obtain⟨x1,o⟩:=ahi (c 1 52 v1 rfl rfl) h1;have m:∀x∈p0,x.block<W.heap.size:=fun x hx=>g.lt x (by simp[hx])
 have l:∀x∈p1,x.block<W.heap.size:=fun x hx=>g.lt x (by simp[hx])
 clear k d;simp only[Ua] at g;refine(ajT W v0 x0 v1 x1 u o).mono fun e W' ⟨he,hb⟩=>?_
 subst he;exact⟨_,rfl,_,_,_,[],p0++p1,[],g,trodAll_mk1 (shut_bool Tryz.underlying4 _),trodAll_mk2 (Below.trod ae2 Zk (of_decide_eq_true Zk) h0 hb m) (Below.trod ae2 Zk (of_decide_eq_true Zk) h1 hb l),rfl,hb.frame _,fun h=>by cases h⟩
theorem rangesSound_holds:Rows.RangesSoundSaid:=
 OpenClaim.holds_of_wide 5 Tryz.f5 rfl rfl rfl rfl rfl rfl rfl ⟨rfl,rfl,rfl,rfl,rfl⟩ rfl rfl rfl rfl rfl Zk Tryz.func5 Zk
  (of_decide_eq_true Zk) (by unfold Func.isWrapper;first|(rw[if_pos (by decide+kernel)];kernel_rfl)|(rw[if_neg (by decide+kernel)];exact⟨rfl,rfl⟩))
  (fun os started H enc _=>af4 os started H enc)
end Go.Proofs.YtoahcpkibpomcaaGreat
