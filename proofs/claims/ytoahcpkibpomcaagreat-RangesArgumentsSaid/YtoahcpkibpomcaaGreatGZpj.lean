/-
  Part of a proof.
-/
import Derived.Test.YtoahcpkibpomcaaGreatGLift9v2
import Derived.Test.YtoahcpkibpomcaaGreatQQuick
set_option linter.all false
set_option maxHeartbeats 16000000
set_option maxRecDepth 100000
namespace Go.Proofs.YtoahcpkibpomcaaGreat
open Go.RowKit
abbrev RunY (W:World)(b:Nat):Prop:=Q W b #[O 0,L,U 0,O 0,.string ⟨#[]⟩,U 0,U 0] 57
theorem afYq {W:World}{b:Nat}(h:RunY W b):A W b 0 (O 0)/\A W b 1 (L)/\A W b 2 (U 0)/\A W b 3 (O 0)/\A W b 4 (.string ⟨#[]⟩)/\A W b 5 (U 0)/\A W b 6 (U 0)/\(∀i,N W b i)/\b<W.heap.size:=
 ⟨zA h rfl,zA h rfl,zA h rfl,zA h rfl,zA h rfl,zA h rfl,zA h rfl,fun i=>zE h,lt_of_block h⟩
theorem law_args (w:World)(sv:Value)(s:List Int)(l:List Nat)(xv:Value)(x:SetF)(hs:zY w w.heap.size sv s)(hl:l.length=8/\∀a∈l,a<65536)(hx:SetIz w w.heap.size xv x):
 Calls Tryz.prog 6 #[sv,.agg (l.map vL).toArray,xv] w fun e w'=>e=.returned (.bool true)/\Below w.heap.size w w':=by
 obtain⟨sa,sc,rfl,k1,k0⟩:=hs.form;obtain⟨sa3,sc3,a2,qc3,rfl,k7,k6⟩:=hx.form;have e9:=hx.ram;have j5:=hx.fuel;have HS:=Ja hs;obtain⟨h0,f0⟩:=hl;obtain⟨W0,b0⟩:∃W0,(w.alloc (G (l.map vL).toArray 67)).alloc (G #[.slice sa3 x.inn.length sc3,.slice a2 x.irq.length qc3,.int .u32 (x.ram:Int),.int .u8 (x.fuel:Int)] 52)=W0:=⟨_,rfl⟩
 have d3:Below w.heap.size w W0:=by rw[<-b0];exact((Below.refl _ _).alloc (Je _) _).alloc Zs _
 have e7:SBz W0 (w.heap.size+1) x sa3 sc3 a2 qc3:=⟨by rw[<-b0];exact zI Zs,(hx.below d3).mono d3.size⟩
 have h4:W0.heap[w.heap.size]? =some (G (l.map vL).toArray 67):=by rw[<-b0];exact zB (zI rfl)
 obtain⟨lb,c9⟩:∃lb,w.heap.size=lb:=⟨_,rfl⟩
 obtain⟨xb,e6⟩:∃xb,lb+1=xb:=⟨_,rfl⟩
 rw[c9,e6] at e7;have H0:=Ja (show Below w.heap.size w W0/\SBz W0 xb x sa3 sc3 a2 qc3 from⟨d3,e7⟩);have e4:=Ja (show W0.heap[lb]? =some (G (l.map vL).toArray 67)/\l.length=8/\∀a∈l,a<65536 from⟨c9 ▸ h4,h0,f0⟩);clear hs k1 k0 k7 k6 d3 e7 hx h4 h0 f0;go_enter Tryz.func6,Tryz.ntmps6;go_upto_region 1 with fail
 try rw[b0]
 try rw[c9]
 try rw[e6]
 clear b0 e6 c9;go_upto_region 2 with(go_at_call 11;go_must (refine(ahv _).mono ?_;rintro e w0 ⟨rfl,g⟩))
 have H1:=Ja (Jb (H0.out.1.trans (g.mono H0.out.1.size)) (H0.out.2.below g));have e2:=Ja (Jb (zH g e4.out.1 (lt_of_block e4.out.1)) e4.out.2);clear e4;clear g H0;have HM:=Ja (af7 ((HS.out.below zO H1.out.1).mono zO H1.out.1.size));have g9:=fm (s.take 200);have i2:=Ja (fun h64 n bl hn=>agO (s.take 200) h64 (n:=n) (bl:=bl) hn);have n1:=Ja (ah7 (s.take 200));have f9:=Ja (aal (s.take 200));generalize uR (s.take 200)=p at *;go_upto_region 3 with(go_at_call 12;go_must (refine HM.out.mono ?_;rintro e w1 ⟨fa,fc,aa,ac,da,dc,ba,bc,rfl,hp,g⟩))
 have d2:=g.alloc g.size (G (D p fa fc aa ac da dc ba bc) 29);have j:=Ja (Jb (H1.out.1.trans (d2.mono H1.out.1.size)) (Jb (H1.out.2.below d2) (PBx.new hp)));have b4:=Ja (Jb (zH d2 e2.out.1 (lt_of_block e2.out.1)) e2.out.2);clear e2;clear g hp d2 HM H1;generalize w1.alloc (G (D p fa fc aa ac da dc ba bc) 29)=X at *;generalize w1.heap.size=b8 at *;have l0:=ahV g9;obtain⟨n,hn,c8⟩:∃n:Nat,(x.fuel:Int)%(p.funcs.length:Int)=(n:Int)/\n<p.funcs.length:=⟨x.fuel%p.funcs.length,by omega,Qj _ l0.1⟩
 obtain⟨bl,h8⟩:∃bl,p.funcs[n]? =some bl:=⟨_,Jd c8⟩
 have HT:=Ja (i2.out j.out.2.2.prog.p64 n bl h8);clear i2 g9 h8;obtain⟨gb,go,rfl,h6,fv,g0,f3⟩:=j.out.2.2.prog.funcs.get HT.out.at_;rw[Nk] at g0;obtain⟨ka,kc,rfl,k5,k4⟩:=f3.form;have HG:=Ja (show(gb<X.heap.size/\A X gb (go+n) (.slice ka bl.length kc))/\wX X X.heap.size (.slice ka bl.length kc) bl from⟨⟨h6,g0⟩,f3⟩);clear h6 g0 f3 k5 k4
 obtain⟨an,a1⟩:∃an,p.args[n]? =some an:=by
  obtain⟨m,h1,h2,_,h3⟩:=f9.out;obtain⟨k,hk,_⟩:=h3 n (by rw[<-h1];exact c8);exact⟨_,hk⟩
 obtain⟨ag,j0⟩:∃ag:Nat,an=(ag:Int)/\ag<4:=by
  obtain⟨m,h1,h2,_,h3⟩:=f9.out;obtain⟨k,hk,c⟩:=h3 n (by rw[<-h1];exact c8);rw[hk] at a1;exact⟨k,(Nt a1).symm,c⟩
 obtain⟨ab,ao,rfl,f5,a0,_⟩:=j.out.2.2.prog.args.get a1;rw[Nk] at a0;obtain⟨rfl,l2⟩:=j0;have HA:=Ja (show(ab<X.heap.size/\A X ab (ao+n) (U ag))/\ag<4/\p.args.getD n 0=(ag:Int) from⟨⟨f5,a0⟩,l2,by rw[Jj,a1];rfl⟩);clear f5 a0 a1
 have HC:=Ja (show ∀W,Below X.heap.size X W->A W b8 0 (.slice (some ⟨gb,go,none⟩) p.funcs.length fc)/\A W b8 1 (.slice (some ⟨ab,ao,none⟩) p.args.length ac)/\A W b8 2 (U p.entry)/\A W b8 3 (U p.handler)/\A W b8 4 (.slice da p.data.length dc)/\A W b8 5 (.slice ba p.banks.length bc)/\A W xb 0 (.slice sa3 x.inn.length sc3)/\A W xb 1 (.slice a2 x.irq.length qc3)/\A W xb 2 (.int .u32 (x.ram:Int))/\A W xb 3 (.int .u8 (x.fuel:Int))/\A W ab (ao+n) (U ag) from fun W hb=>by
  have h1:=j.out.2.2.below hb;have h2:=j.out.2.1.below hb
  exact⟨h1.c0,h1.c1,h1.c2,h1.c3,h1.c4,h1.c5,h2.c0,h2.c1,h2.c2,h2.c3,zV hb HA.out.1.1 HA.out.1.2⟩)
 have c0:=j.out.2.2.c0;have cl:=j.out.2.2.lt;have e3:=j.out.2.1.c3;have el:=lt_of_block j.out.2.1.blk;go_upto_region 4 with fail;rw[hn];clear hn c0 cl e3 el;obtain⟨q,hq⟩:∃q,mc p n=q:=⟨_,rfl⟩
 obtain⟨I,hI⟩:∃I,x.inn.take 20=I:=⟨_,rfl⟩
 obtain⟨Q,hQ⟩:∃Q,x.irq.take 20=Q:=⟨_,rfl⟩
 obtain⟨S,hS⟩:∃S,y9 (gD x.ram 272)=S:=⟨_,rfl⟩
 obtain⟨L,hL⟩:∃L,l.take ag=L:=⟨_,rfl⟩
 have b2:L.length=ag:=by rw[<-hL,Oc,b4.out.2.1];have:=HA.out.2.1;omega
 obtain⟨RN,f6⟩:∃RN,bQ ⟨q,I,Q⟩ (n:Int) L S 5000=RN:=⟨_,rfl⟩
 have i0:=Ja (show ∀W,Below X.heap.size X W->Calls Tryz.prog 21 #[.agg (D p (some ⟨gb,go,none⟩) fc (some ⟨ab,ao,none⟩) ac da dc ba bc),U n] W (ai1 W q) from fun W hb=>by
  have h:=ajb HT.out (j.out.2.2.below hb).prog;rw[hq] at h
  exact h)
 have i9:=Ja (show ∀W,Calls Tryz.prog 22 #[.int .u32 (x.ram:Int),U 272] W (aap W S) from fun W=>by rw[<-hS];exact eR W x.ram 272 e9 Zd)
 have i1:=Ja (show ∀W,Below X.heap.size X W->Calls Tryz.prog 23 #[.agg #[.slice sa3 x.inn.length sc3,.slice a2 x.irq.length qc3,.int .u32 (x.ram:Int),.int .u8 (x.fuel:Int)]] W (fun e w'=>∃ia ic qa qc,e=.returned (.agg #[.slice ia I.length ic,.slice qa Q.length qc])/\wV w' w'.heap.size (.slice ia I.length ic) I/\dL w' w'.heap.size (.slice qa Q.length qc) Q/\Below W.heap.size W w') from fun W hb=>by
  refine(ag9 (j.out.2.1.below hb).set).mono ?_;rintro e w' ⟨ia,ic,qa,qc,rfl,h1,h2,h3⟩;rw[hI] at h1 ⊢;rw[hQ] at h2 ⊢
  exact⟨ia,ic,qa,qc,rfl,h1.mono zr h3.size,h2.mono xQ h3.size,h3⟩)
 have i8:=Ja (show ∀(W:World) (d7:Option Addr) (d6:Nat) (aa1:Option Addr) (ac1:Nat) (d9:Option Addr) (d8:Nat) (ba1:Option Addr) (bc1:Nat) (ia:Option Addr) (ic:Nat) (qa:Option Addr) (qc:Nat),Below X.heap.size X W->ProgIn W W.heap.size ⟨.slice d7 q.funcs.length d6,.slice aa1 q.args.length ac1,.slice d9 q.data.length d8,.slice ba1 q.banks.length bc1⟩ q->wV W W.heap.size (.slice ia I.length ic) I->dL W W.heap.size (.slice qa Q.length qc) Q->
  Calls Tryz.prog 20 #[.agg (D q d7 d6 aa1 ac1 d9 d8 ba1 bc1),U n,T lb ag 8,.string S,.agg #[.slice ia I.length ic,.slice qa Q.length qc],U 5000] W (eM W RN) from fun W d7 d6 aa1 ac1 d9 d8 ba1 bc1 ia ic qa qc hb hp hi hqq=>by
  rw[<-f6];have g2:=zH hb b4.out.1 (lt_of_block b4.out.1)
  have l1:wV W W.heap.size (T lb ag 8) L:=by
   rw[<-hL];refine⟨some ⟨lb,0,none⟩,8,by rw[hL,b2],by rw[hL,b2];have:=HA.out.2.1;omega,by decide,fun k y hk=>⟨lb,0,rfl,lt_of_block g2,?_⟩⟩
   have h5:l[k]? =some y:=by
    rw[Ug] at hk
    split at hk
    ·exact hk
    ·cases hk
   refine⟨?_,b4.out.2.2 y (Ji h5)⟩;rw[Ng,Nk];exact zA g2 (by simp[h5,vL])
  refine(akv hp (hq ▸ HT.out.ok) (hq ▸ HT.out.use) (n:Int) ⟨by omega,by rw[Ni,<-hq,ae8];exact c8⟩ l1 (by rw[b2,Ni,<-hq];exact HA.out.2.2.symm) S (by rw[<-hS];exact agH _) hi hqq 5000 ⟨by decide,by decide⟩).mono fun e w' h=>h.open)
 have l5:=Ja (show(∀y∈I,y<65536)->aeQ ⟨rgsP p (n:Int),objP p (n:Int),aiX bl,p.data⟩ RN.out from fun h=>by rw[<-f6,<-hq];exact HT.out.fin I Q _ _ S 5000 h (by rw[<-hL];exact fun a ha=>b4.out.2.2 a (List.mem_of_mem_take ha)))
 have f8:∀y∈I,y<65536:=by
  rw[<-hI];obtain⟨_,_,_,_,e,h1,_⟩:=j.out.2.1.set.form;cases e;exact fun y hy=>akt h1 y (List.mem_of_mem_take hy)
 have j1:=Ja f8;clear hq hI hQ hS f6 f8 e9 j5 hL;have n0:(ag:Int)<=8:=by have:=HA.out.2.1;omega
 have m6:(n:Int)<(p.args.length:Int):=by
  obtain⟨m,h1,h2,_,_⟩:=f9.out;omega
 have n2:=Ja b2;clear b2
 go_cut [10] (fun v wx=>fy X RN v wx)
 case first=>
  go_region_held3 (fun w'=>A w' b8 0 (.slice (some ⟨gb,go,none⟩) p.funcs.length fc)/\A w' b8 1 (.slice (some ⟨ab,ao,none⟩) p.args.length ac)/\A w' b8 2 (U p.entry)/\A w' b8 3 (U p.handler)/\A w' b8 4 (.slice da p.data.length dc)/\A w' b8 5 (.slice ba p.banks.length bc)/\A w' xb 0 (.slice sa3 x.inn.length sc3)/\A w' xb 1 (.slice a2 x.irq.length qc3)/\A w' xb 2 (.int .u32 (x.ram:Int))/\A w' xb 3 (.int .u8 (x.fuel:Int))/\A w' ab (ao+n) (U ag))
   ((refine HC.out _ ?_;repeat' (first|with_reducible exact Below.refl _ _|with_reducible assumption|with_reducible refine Below.drew ?_|with_reducible refine Below.alloc ?_ Zn _|with_reducible refine Below.setCell ?_ Zn _)))
   (first
     |(go_at_call 21
       refine(i0.out _ Zb).mono ?_;rintro e y1 ⟨d7,d6,aa1,ac1,d9,d8,ba1,bc1,rfl,g6,g⟩;have j4:Below X.heap.size X y1:=Below.trans Zb (g.mono Zn);have m4:=j4.size
       first|(have f1:RunY y1 X.heap.size:=zH g (show(World.alloc X _).heap[X.heap.size]? =_ from zI rfl) Zs)|skip
       clear g)
     |(go_at_call 22
       refine(i9.out _).mono ?_;rintro e y2 ⟨rfl,a7⟩;have b7:Below y1.heap.size y1 y2:=Below.trans Zc (a7.mono Zn);have g5:=(g6.below b7).mono b7.size;clear b7 g6;have j3:Below X.heap.size X y2:=Below.trans Zb (a7.mono Zn);have m3:=j3.size
       first|(have d1:=zH a7 f1 (by first|exact lt_of_block f1|(have:=lt_of_block f1;simp;omega)))|(have d1:RunY y2 y1.heap.size:=zH a7 (by with_reducible exact zI rfl) Zs)|skip
       clear a7)
     |(go_at_call 23
       refine(i1.out _ Zb).mono ?_;rintro e y3 ⟨ia,ic,qa,qc,rfl,k9,k2,a6⟩;have b6:Below y2.heap.size y2 y3:=Below.trans Zc (a6.mono Zn);have k3:=(g5.below b6).mono b6.size;clear b6 g5;have j2:Below X.heap.size X y3:=Below.trans Zb (a6.mono Zn);have m2:=j2.size
       first|(have d0:=zH a6 d1 (by first|exact lt_of_block d1|(have:=lt_of_block d1;simp;omega)))|(have d0:RunY y3 y2.heap.size:=zH a6 (by with_reducible exact zI rfl) Zs)|skip
       clear a6)
     |(go_at_call 20
       refine(i8.out _ _ _ _ _ _ _ _ _ _ _ _ _ Zb (ProgIn.mono (B:=y3.heap.size) (ProgIn.below k3 Zc) Zn) (yN.mono zr (B:=y3.heap.size) (yN.below zr k9 Zc) Zn) (yN.mono xQ (B:=y3.heap.size) (yN.below xQ k2 Zc) Zn)).mono ?_;rintro e y4 ⟨oa,oc,rfl,h7,f4⟩;have e5:Below X.heap.size X y4:=Below.trans Zb (f4.mono Zn);have m1:=e5.size
       first|(have c:=zH f4 d0 (by first|exact lt_of_block d0|(have:=lt_of_block d0;simp;omega)))|(have c:RunY y4 y3.heap.size:=zH f4 (by with_reducible exact zI rfl) Zs)|skip
       first
        |(have hh:=afYq (b:=X.heap.size) c;obtain⟨c0,c1,c2,c3,c4,c5,c6,cf,cl⟩:=hh)
        |(have hh:=afYq (b:=y1.heap.size) c;obtain⟨c0,c1,c2,c3,c4,c5,c6,cf,cl⟩:=hh)
        |(have hh:=afYq (b:=y2.heap.size) c;obtain⟨c0,c1,c2,c3,c4,c5,c6,cf,cl⟩:=hh)
        |(have hh:=afYq (b:=y3.heap.size) c;obtain⟨c0,c1,c2,c3,c4,c5,c6,cf,cl⟩:=hh)
        |skip))
  all_goals go_wp2_with fail
  all_goals go_meet
  all_goals first|with_reducible exact gE e5 h7 c Zn|exact gN e5 h7
 case rest=>
  obtain⟨b9,oa3,oc3,rfl,a5⟩:=hcut;obtain⟨Y,hY⟩:∃Y,wc=Y:=⟨_,rfl⟩
  rw[hY] at a5 ⊢;clear hY i0 i9 i1 i8;have g1:=a5.out.2.2.2;have u:=Ja g1;clear g1;obtain⟨RG,f7⟩:∃RG,rgsP p (n:Int)=RG:=⟨_,rfl⟩
  obtain⟨OB,d5⟩:∃OB,objP p (n:Int)=OB:=⟨_,rfl⟩
  obtain⟨SZ,d4⟩:∃SZ,aiX bl=SZ:=⟨_,rfl⟩
  have m0:=Ja (show aeQ ⟨RG,OB,SZ,p.data⟩ RN.out by rw[<-f7,<-d5,<-d4];exact l5.out j1.out);have c7:=Ja (show(∀z∈OB,I64 z)/\∀z∈SZ,1<=z/\z<=2 by rw[<-d5,<-d4];exact⟨ajh HT.out.valid _,ahO⟩)
  have l6:=Ja (show ∀W,Below X.heap.size X W->Calls Tryz.prog 15 #[.agg (D p (some ⟨gb,go,none⟩) fc (some ⟨ab,ao,none⟩) ac da dc ba bc),U n] W (ah1 W RG) from fun W hb=>by
   have:=afE (j.out.2.2.below hb).prog (Je _) HT.out.sized (n:Int)
   rwa [f7] at this)
  have l8:=Ja (show ∀W,Below X.heap.size X W->Calls Tryz.prog 16 #[.agg (D p (some ⟨gb,go,none⟩) fc (some ⟨ab,ao,none⟩) ac da dc ba bc),U n] W (afZ W OB) from fun W hb=>by
   have:=afb (j.out.2.2.below hb).prog (Je _) HT.out.sized (n:Int)
   rwa [d5] at this)
  have g3:=HT.out.sized bl (Ji HT.out.at_)
  have l4:=Ja (show ∀W,Below X.heap.size X W->Calls Tryz.prog 25 #[.agg #[.slice ka bl.length kc]] W (afZ W SZ) from fun W hb=>by
   have:=ahP ((HG.out.2.below yT hb).mono yT hb.size) (Je _) g3
   rwa [d4] at this)
  have m7:=ahD HT.out.valid
  have a4:=Ja (show ∀W,Below Y.heap.size Y W->(A W b8 0 (.slice (some ⟨gb,go,none⟩) p.funcs.length fc)/\A W b8 1 (.slice (some ⟨ab,ao,none⟩) p.args.length ac)/\A W b8 2 (U p.entry)/\A W b8 3 (U p.handler)/\A W b8 4 (.slice da p.data.length dc)/\A W b8 5 (.slice ba p.banks.length bc))/\A W gb (go+n) (.slice ka bl.length kc)/\A W b9 1 (.slice oa3 RN.out.length oc3) from fun W hb=>by
   have h:=u.out.trans (hb.mono u.out.size);have h1:=j.out.2.2.below h
   exact⟨⟨h1.c0,h1.c1,h1.c2,h1.c3,h1.c4,h1.c5⟩,zV h HG.out.1.1 HG.out.1.2,zA (zH hb a5.out.2.1 (lt_of_block a5.out.2.1)) rfl⟩)
  have m5:(n:Int)<(p.funcs.length:Int):=Zo;clear f7 d5 d4 g3;go_upto_region 5 with fail;have HZ:=Ja (show Below Y.heap.size Y Y from(Below.refl _ _));obtain⟨_,g0,b1⟩:=a4.out Y HZ.out;have gl:gb<Y.heap.size:=by have:=HG.out.1.1;have:=u.out.size;have:=HZ.out.size;omega
  have bl9:b9<Y.heap.size:=by have:=lt_of_block a5.out.2.1;have:=HZ.out.size;omega
  clear g0 b1;refine wp_region_noPanic ?_;refine wp_region_held_drew (S:=(fun w'=>(A w' b8 0 (.slice (some ⟨gb,go,none⟩) p.funcs.length fc)/\A w' b8 1 (.slice (some ⟨ab,ao,none⟩) p.args.length ac)/\A w' b8 2 (U p.entry)/\A w' b8 3 (U p.handler)/\A w' b8 4 (.slice da p.data.length dc)/\A w' b8 5 (.slice ba p.banks.length bc))/\A w' gb (go+n) (.slice ka bl.length kc)/\A w' b9 1 (.slice oa3 RN.out.length oc3))) Zk (a4.out _ HZ.out.drew) (fun hHeld=>?_);refine Th 0 ?_
  try simp only[Yp]
  refine Th 1 ?_
  try simp only[Yp]
  refine Th 2 ?_
  try simp only[Yp]
  refine Th 3 ?_
  try simp only[Yp]
  refine Th 4 ?_
  try simp only[Yp]
  refine Th 5 ?_
  try simp only[Yp]
  refine Th 6 ?_
  try simp only[Yp]
  refine Th 8 ?_
  try simp only[Yp]
  refine Th 9 ?_
  try simp only[Yp]
  refine Th 11 ?_
  try simp only[Yp]
  refine Th 12 ?_
  try simp only[Yp]
  refine Th 13 ?_
  try simp only[Yp]
  refine Th 14 ?_
  try simp only[Yp]
  refine Th 15 ?_
  try simp only[Yp]
  refine wpAnyH_ready (rs:=[7]) Zk Zs ?_;refine AllReadyH.cons (o:=_) rfl (fun K hK=>?_) ?_
  ·skip
   (go_simp;refine(l6.out _ (u.out.trans (Below.mono HZ.out.drew u.out.size))).mono ?_;rintro e z0 ⟨ra,rfl,g4,d⟩;have t:Below Y.heap.size Y z0:=HZ.out.trans (Below.mono ((Below.refl _ _).drew.trans d) HZ.out.size);have e1:=Ja t;clear t;have b3:=Ja (ajM g4);clear g4 d)
   refine hK.out _ _ (a4.out _ e1.out) (fun hHeld=>?_);clear hK K
   try simp only[Yp]
   refine wpAnyH_ready (rs:=[10]) Zk Zs ?_;refine AllReadyH.cons (o:=_) rfl (fun K hK=>?_) ?_
   ·skip
    (go_simp;refine(l8.out _ (u.out.trans (Below.mono e1.out u.out.size))).mono ?_;rintro e z1 ⟨jv,rfl,f2,d⟩;obtain⟨ja,jc,rfl⟩:=zG f2;have b3:=Ja (afT b3.out d);have t:Below Y.heap.size Y z1:=e1.out.trans (Below.mono d e1.out.size);have e0:=Ja t;clear t;have l9:=Ja f2;clear f2 d)
    refine hK.out _ _ (a4.out _ e0.out) (fun hHeld=>?_);clear hK K
    try simp only[Yp]
    refine wpAnyH_ready (rs:=[16]) Zk Zs ?_;refine AllReadyH.cons (o:=_) rfl (fun K hK=>?_) ?_
    ·skip
     (go_simp;refine(l4.out _ (u.out.trans (Below.mono e0.out u.out.size))).mono ?_;rintro e z2 ⟨tv,rfl,e8,d⟩;obtain⟨ta,tc,rfl⟩:=zG e8;have l7:=Ja (p7 l9.out d (Je _));have b3:=Ja (afT b3.out d);have t:Below Y.heap.size Y z2:=e0.out.trans (Below.mono d e0.out.size);have a3:=Ja t;clear t;have l3:=Ja e8;clear e8 d)
     refine hK.out _ _ (a4.out _ a3.out) (fun hHeld=>?_);clear hK K
     try simp only[Yp]
     refine wpAnyH_ready (rs:=[17]) Zk Zs ?_;refine AllReadyH.cons (o:=_) rfl (fun K hK=>?_) ?_
     ·skip
      (go_simp;refine(akC (j.out.2.2.below (u.out.trans (Below.mono a3.out u.out.size))).prog ((a5.out.2.2.1.below vo a3.out).mono vo a3.out.size) b3.out (pT l7.out c7.out.1) (pT l3.out (fun z hz=>by have:=c7.out.2 z hz;exact⟨by omega,by omega⟩)) Zo (fun z hz=>by have:=c7.out.2 z hz;omega) m0.out).mono ?_;rintro e z3 ⟨rfl,d⟩;have t:Below Y.heap.size Y z3:=a3.out.trans (Below.mono d a3.out.size);have h9:=Ja t;clear t;clear d)
      refine hK.out _ _ (a4.out _ h9.out) (fun hHeld=>?_);clear hK K
      try simp only[Yp]
      refine wpAnyH_ready (rs:=[18]) Zk Zs ?_;refine AllReadyH.cons (o:=_) rfl (fun K hK=>?_) ?_
      ·skip
       go_simp;refine hK.out _ _ hHeld (fun hHeld=>?_);clear hK K
       try simp only[Yp]
       refine Th 19 ?_
       try simp only[Yp]
       refine wpAnyH_done Zk (NoPanic.normal ?_) _;go_simp;go_wp2_with fail;go_ret;exact⟨rfl,j.out.1.trans ((u.out.trans (h9.out.mono u.out.size)).mono j.out.1.size)⟩
      exact AllReadyH.nil
     exact AllReadyH.nil
    exact AllReadyH.nil
   exact AllReadyH.nil
  exact AllReadyH.nil
end Go.Proofs.YtoahcpkibpomcaaGreat
set_option maxRecDepth 100000
namespace Go.Proofs.YtoahcpkibpomcaaGreat
open Go.ChangeShapes Go.WideShapes Go.ChangeAt Go.RowKit
section
variable {H:Type} {enc:TypeId×Value->H} {W:World} {v:Value} {d:DataW H} {p:List MemPlace} {r:Go.Reach} {base:Nat}
theorem aiD (hv:Value.okWide Tryz.prog W r base 67 v)(j:DataW.Trod enc Tryz.prog W 0 (fun _=>true) true 67 v d p):∃l:List Nat,v=.agg (l.map vL).toArray/\(l.length=8/\∀x∈l,x<65536):=by
 have c2:Tryz.prog.cellsOf 67=8:=by kernel_rfl
 have c1:Tryz.prog.cellsOf 43=1:=by kernel_rfl
 simp only[Value.okWide,Tryz.underlying67] at hv;obtain⟨cs,rfl,g,_⟩:=hv;rw[c2] at g;obtain⟨fuel,hf⟩:=j;simp only[Value.cells] at hf;obtain⟨zs,e,hl,h⟩:=acP Tryz.underlying67 Tryz.underlying43 c1 (by simpa using g) hf;refine⟨zs.map Int.toNat,?_,by simpa using hl,fun x hx=>?_⟩
 ·rw[<-Array.toArray_toList (xs:=cs),e]
  congr 2
  rw[List.map_map];refine Up fun z c=>?_
  obtain⟨y,rfl,_⟩:=a8 (h z c);rfl
 ·obtain⟨z,c,rfl⟩:=Nu.1 hx;obtain⟨y,rfl,i⟩:=a8 (h z c)
  simpa using i
end
theorem afK:ownKnob Tryz.prog.godebug=none:=by kernel_rfl
theorem ce:laidOutB Tryz.prog=true:=by kernel_rfl
theorem afk (os:Os)(i:os.Started)(H:Type)(enc:TypeId×Value->H):
 ReturnsInHanded {} Tryz.checked os 6 .any (Rows.rangesArgumentsSpec.pre6 enc Tryz.prog Tryz.f6 Rows.rangesArgumentsRow.domain false) (Rows.rangesArgumentsSpec.post enc Tryz.prog Tryz.f6 false true false false):=by
 refine returnsInHanded_of_change (C:=Tryz.checked) afK i Zk Tryz.func6
  (ChangeSpec.witness6 (enc:=enc) (C:=Tryz.checked) false ⟨#[],#[L,.agg #[.int .u16 0,.int .u16 0,.int .u16 0,.int .u16 0,.int .u16 0,.int .u16 0,.int .u16 0,.int .u16 0],.agg #[L,L,.int .u32 0,.int .u8 0]],[]⟩ 8 Zk Zk Zk Zk) ?_
 intro W base args ds gs ajZ g hW a1 _;have c:∀(j:Nat) t v,Tryz.f6.params[j]? =some t->args[j]? =some v->Value.okWide Tryz.prog W .any base t v:=g;have d:=hW;obtain⟨p,q,k,hV,rfl,a2,hnd⟩:=hW;have hA:DataW.TrodAll enc Tryz.prog W 0 (fun _=>true) true Tryz.f6.params.toList args.toList ds p:=k;rw[Tryz.params6] at hA c;obtain⟨v0,vs0,d0,a5,p0,q0,a0,rfl,rfl,h0,r0⟩:=trodAll_cons hA;obtain⟨v1,vs1,d1,a4,p1,q1,rfl,rfl,rfl,h1,r1⟩:=trodAll_cons r0;obtain⟨v2,vs2,d2,a3,p2,q2,rfl,rfl,rfl,h2,r2⟩:=trodAll_cons r1;obtain⟨rfl,rfl,rfl⟩:=trodAll_nil r2;obtain rfl:args=#[v0,v1,v2]:=by cases args;simp_all
 obtain⟨rfl,rfl⟩:=trodVars_none hV;obtain⟨x0,y⟩:=iX (c 0 22 v0 rfl rfl) h0;obtain⟨x1,rfl,w⟩:=aiD (c 1 67 v1 rfl rfl) h1;obtain⟨x2,u⟩:=ahi (c 2 52 v2 rfl rfl) h2;have o:∀x∈p0,x.block<W.heap.size:=fun x hx=>d.lt x (by simp[hx])
 have m:∀x∈p1,x.block<W.heap.size:=fun x hx=>d.lt x (by simp[hx])
 have l:∀x∈p2,x.block<W.heap.size:=fun x hx=>d.lt x (by simp[hx])
 clear k g;simp only[Ua] at d;refine(law_args W v0 x0 x1 v2 x2 y w u).mono fun e W' ⟨he,hb⟩=>?_
 subst he;exact⟨_,rfl,_,_,_,[],p0++(p1++p2),[],d,trodAll_mk1 (shut_bool Tryz.underlying4 _),trodAll_mk3 (Below.trod ce Zk (of_decide_eq_true Zk) h0 hb o) (Below.trod ce Zk (of_decide_eq_true Zk) h1 hb m) (Below.trod ce Zk (of_decide_eq_true Zk) h2 hb l),rfl,hb.frame _,fun h=>by cases h⟩
theorem rangesArguments_holds:Rows.RangesArgumentsSaid:=
 OpenClaim.holds_of_wide 6 Tryz.f6 rfl rfl rfl rfl rfl rfl rfl ⟨rfl,rfl,rfl,rfl,rfl⟩ rfl rfl rfl rfl rfl Zk Tryz.func6 Zk
  (of_decide_eq_true Zk) (by unfold Func.isWrapper;first|(rw[if_pos (by decide+kernel)];kernel_rfl)|(rw[if_neg (by decide+kernel)];exact⟨rfl,rfl⟩))
  (fun os started H enc _=>afk os started H enc)
end Go.Proofs.YtoahcpkibpomcaaGreat
