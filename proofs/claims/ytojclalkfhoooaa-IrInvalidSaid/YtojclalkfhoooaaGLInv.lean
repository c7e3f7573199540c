/- Part of a proof. -/
import Derived.Test.YtojclalkfhoooaaGLFue
import Derived.Test.YtojclalkfhoooaaGLw0v2
import Derived.Test.YtojclalkfhoooaaGLw3
import Derived.Test.YtojclalkfhoooaaGLw3v2
import Derived.Test.YtojclalkfhoooaaGRVal9
import Derived.Test.YtojclalkfhoooaaGVnB
import Derived.Test.YtojclalkfhoooaaVnC
set_option linter.all false
set_option maxHeartbeats 16000000
set_option maxRecDepth 100000
namespace Go.Proofs.Ytojclalkfhoooaa
open Go.RowKit
variable {w:World}{oa:Option Addr}{oc:Nat}{l:List Nat}
theorem adj (w:World){x1 k1 i1 p1 q1 x2 k2 i2 p2 q2:Int}{n1 n2:Nat}{S1 S2:ByteArray}{o1 o2:Option Addr}{c1 c2:Nat}(hk:k1≠k2):
 Y 22 #[.agg #[I x1,.slice o1 n1 c1,A k1,I i1,.string S1,A p1,A q1],.agg #[I x2,.slice o2 n2 c2,A k2,I i2,.string S2,A p2,A q2]] w (ym w false):=by
 have c:=((Below.refl w.heap.size w).alloc (Je _) (U #[I x1,.slice o1 n1 c1,A k1,I i1,.string S1,A p1,A q1] 57)).alloc Zs (U #[I x2,.slice o2 n2 c2,A k2,I i2,.string S2,A p2,A q2] 57);have d:=Ja c;clear c
 by_cases g:x1=x2
 ·subst g;go_enter Try.func22,Try.ntmps22;go_wp2;go_ret;exact⟨rfl,d.out⟩
 ·go_enter Try.func22,Try.ntmps22;go_wp2;go_ret;exact⟨rfl,d.out⟩
theorem evs_nil{B:Nat}:vM w B (.slice none ([]:List (Nat×Nat)).length 0) []:=⟨none,0,rfl,Je _,by omega,fun k x hk=>by simp at hk⟩
theorem acY(h:vM w w.heap.size (.slice oa 0 oc) []):
 Y 29 #[.agg #[I 0,.slice oa 0 oc,A 0,I 0,.string ⟨#[]⟩,A 0,A 0]] w (ym w true):=by
 have c:=(Below.refl w.heap.size w).alloc (Je _) (U #[I 0,.slice oa 0 oc,A 0,I 0,.string ⟨#[]⟩,A 0,A 0] 57);have g:=Ja (Jb c ((h.below vo c).mono vo c.size));clear h c;go_enter Try.func29,Try.ntmps29;go_wp2_with (go_at_call 22;go_must (refine(acn (l:=[]) rfl Zd g.out.2 evs_nil).mono ?_;rintro e w1 ⟨rfl,d⟩;have i:=Ja d;clear d))
 go_ret;exact⟨rfl,g.out.1.trans (i.out.mono g.out.1.size)⟩
theorem zero_no{x k i p q:Int}{n:Nat}{S:ByteArray}(hk:k≠0):
 Y 29 #[.agg #[I x,.slice oa n oc,A k,I i,.string S,A p,A q]] w (ym w false):=by
 have d:=(Below.refl w.heap.size w).alloc (Je _) (U #[I x,.slice oa n oc,A k,I i,.string S,A p,A q] 57);have g:=Ja (Jb d hk);clear hk d;go_enter Try.func29,Try.ntmps29;go_wp2_with (go_at_call 22;go_must (refine(adj _ g.out.2).mono ?_;rintro e w1 ⟨rfl,c⟩;have h:=Ja c;clear c))
 go_ret;exact⟨rfl,g.out.1.trans (h.out.mono g.out.1.size)⟩
theorem ady{p:IProg}{f:Int}(h:f<0∨(p.funcs.length:Int)<=f):io p f l=false:=by
 unfold io;rcases h with h|h
 ·rw[decide_eq_false (show ¬0<=f by omega)];simp
 ·rw[decide_eq_false (show ¬f<p.funcs.length by omega)];simp
theorem ask_more{p:IProg}{f:Int}(h:(l.length:Int)≠p.args.getD f.toNat 0):io p f l=false:=by
 unfold io;rw[decide_eq_false h];simp
theorem ask_bad{p:IProg}{f:Int}(h:vC p≠0):io p f l=false:=by
 unfold io;rw[decide_eq_false h];simp
theorem abX{E:IEnv}{f:Int}{s:ByteArray}{F:Int}(h:io E.p f l=false):i9 E f l s F=sV:=by
 unfold i9;rw[h];rfl
def RetZ (w:World)(e:Ending)(w':World):Prop:=∃oa oc,e=.returned (.agg #[I 0,.slice oa 0 oc,A 0,I 0,.string ⟨#[]⟩,A 0,A 0])/\vM w' w'.heap.size (.slice oa 0 oc) []/\F w w'
theorem retZ{e:Ending}{w':World}(h:abr w sV e w'):RetZ w e w':=by
 obtain⟨oa,oc,rfl,h1,h2⟩:=h.open;exact⟨oa,oc,rfl,h1,h2⟩
theorem acI (w:World)(sv:Value)(s:List Int)(q0 q1 q2:Int)(xv:Value)(x:SetF)(hs:zY w w.heap.size sv s)(hq:I64 q0/\I64 q1/\I64 q2)(hx:SetIn w w.heap.size xv x):
 Calls Try.prog 6 #[sv,.agg #[A q0,A q1,A q2],xv] w fun e w'=>e=.returned (.bool true)/\Below w.heap.size w w':=by
 obtain⟨sa,sc,rfl,e9,e8⟩:=hs.form;obtain⟨sa3,sc3,d,qc3,rfl,f5,f4⟩:=hx.form;have HS:=Ja (Jb hs (Jb hx hq));have j:Below w.heap.size w ((w.alloc (U #[A q0,A q1,A q2] 23)).alloc (U #[.slice sa3 x.inn.length sc3,.slice d x.irq.length qc3,.int .u32 (x.ram:Int),.int .u16 (x.fuel:Int)] 41)):=((Below.refl _ _).alloc (Je _) _).alloc Zs _;have d4:QBx ((w.alloc (U #[A q0,A q1,A q2] 23)).alloc (U #[.slice sa3 x.inn.length sc3,.slice d x.irq.length qc3,.int .u32 (x.ram:Int),.int .u16 (x.fuel:Int)] 41)) w.heap.size q0 q1 q2:=⟨zB (zI rfl)⟩
 have d3:SBx ((w.alloc (U #[A q0,A q1,A q2] 23)).alloc (U #[.slice sa3 x.inn.length sc3,.slice d x.irq.length qc3,.int .u32 (x.ram:Int),.int .u16 (x.fuel:Int)] 41)) (w.heap.size+1) x sa3 sc3 d qc3:=⟨zI Zs,(hx.below j).mono j.size⟩
 have H0:=Ja (Jb j (Jb d4 d3));have e7:=hx.fuel;clear hs e9 e8 f5 f4 j d4 d3 hx hq;go_enter Try.func6,Try.ntmps6;go_upto_region 2 with(go_at_call 17;go_must (refine(ln _).mono ?_;rintro e w0 ⟨rfl,c⟩))
 have H1:=Ja (Jb (H0.out.1.trans (c.mono H0.out.1.size)) (Jb (H0.out.2.1.below c) (H0.out.2.2.below c)));clear c H0;have HM:=Ja (abW ((HS.out.1.below zO H1.out.1).mono zO H1.out.1.size));have b4:=acK (s.take 200);have HK:=Ja (Jb (fZ (s.take 200)) (acf (s.take 200)));have h4:(uR (s.take 200)).funcs.length<=4:=by rw[qA];exact(sm _).2
 generalize uR (s.take 200)=p at *;go_upto_region 3 with(go_at_call 18;go_must (refine HM.out.mono ?_;rintro e w1 ⟨fa,fc,aa,ac,da,dc,ba,bc,rfl,hp,c⟩))
 have r:=c.alloc c.size (U #[.slice fa p.funcs.length fc,.slice aa p.args.length ac,A p.entry,A p.handler,.slice da p.data.length dc,.slice ba p.banks.length bc] 29);have m:=Ja (Jb (H1.out.1.trans (r.mono H1.out.1.size)) (Jb (H1.out.2.1.below r) (Jb (H1.out.2.2.below r) (PBx.new hp))));clear c hp r HM H1;generalize w1.alloc (U #[.slice fa p.funcs.length fc,.slice aa p.args.length ac,A p.entry,A p.handler,.slice da p.data.length dc,.slice ba p.banks.length bc] 29)=X at *;generalize w1.heap.size=b8 at *;have c0:G X b8 0 (.slice fa p.funcs.length fc):=m.out.2.2.2.c0;have c1:G X b8 1 (.slice aa p.args.length ac):=m.out.2.2.2.c1;have c2:G X b8 2 (A p.entry):=m.out.2.2.2.c2;have c3:G X b8 3 (A p.handler):=m.out.2.2.2.c3;have c4:G X b8 4 (.slice da p.data.length dc):=m.out.2.2.2.c4;have c5:G X b8 5 (.slice ba p.banks.length bc):=m.out.2.2.2.c5;have d0:G X w.heap.size 0 (A q0):=m.out.2.1.c0;have d1:G X w.heap.size 1 (A q1):=m.out.2.1.c1;have d2:G X w.heap.size 2 (A q2):=m.out.2.1.c2;have HT:=Ja (kU (m.out.2.2.2.prog) (b4.small Zd) HS.out.2.2);have d5:=acA b4 q0 q1 q2;generalize wR p q0 q1 q2=t at *;go_upto_region 4 with(go_at_call 19;go_must (refine HT.out.mono ?_;rintro e w2 ⟨a1,a0,aa1,ac1,a3,a2,ba1,bc1,rfl,hp,c⟩))
 have r:=c.alloc c.size (U #[.slice a1 t.funcs.length a0,.slice aa1 t.args.length ac1,A t.entry,A t.handler,.slice a3 t.data.length a2,.slice ba1 t.banks.length bc1] 29);have l:=Ja (Jb (m.out.1.trans (r.mono m.out.1.size)) (Jb (m.out.2.2.1.below r) (Jb (m.out.2.2.2.below r) (PBx.new2 hp))));clear c hp r HT m c0 c1 c2 c3 c4 c5 d0 d1 d2;generalize w2.alloc (U #[.slice a1 t.funcs.length a0,.slice aa1 t.args.length ac1,A t.entry,A t.handler,.slice a3 t.data.length a2,.slice ba1 t.banks.length bc1] 29)=Y at *;generalize w2.heap.size=b9 at *;obtain⟨X,rfl⟩:∃X,X=Y:=⟨_,rfl⟩
 have a7:=Ja (Jb (b4.sized Zd) (d5.sized Zd));clear b4 d5;obtain⟨I,hI⟩:∃I,x.inn.take 20=I:=⟨_,rfl⟩
 obtain⟨Q,hQ⟩:∃Q,x.irq.take 20=Q:=⟨_,rfl⟩
 obtain⟨F1,d9⟩:∃F,x.fuel%3000=F:=⟨_,rfl⟩
 have f7:F1<3000:=Zo;obtain⟨vt,b7⟩:∃v,vC t=v:=⟨_,rfl⟩
 have HC:=Ja (show ∀W,Below X.heap.size X W->(G W b9 0 (.slice a1 t.funcs.length a0)/\G W b9 1 (.slice aa1 t.args.length ac1)/\G W b9 2 (A t.entry)/\G W b9 3 (A t.handler)/\G W b9 4 (.slice a3 t.data.length a2)/\G W b9 5 (.slice ba1 t.banks.length bc1)/\G W (w.heap.size+1) 0 (.slice sa3 x.inn.length sc3)/\G W (w.heap.size+1) 1 (.slice d x.irq.length qc3)/\G W (w.heap.size+1) 2 (.int .u32 (x.ram:Int))/\G W (w.heap.size+1) 3 (.int .u16 (x.fuel:Int))) from fun W hb=>by
  have h1:=l.out.2.2.2.below hb;have h2:=l.out.2.1.below hb
  exact⟨h1.c0,h1.c1,h1.c2,h1.c3,h1.c4,h1.c5,h2.c0,h2.c1,h2.c2,h2.c3⟩)
 have e1:=Ja (show ∀W,Below X.heap.size X W->Calls Try.prog 24 #[.agg #[.slice sa3 x.inn.length sc3,.slice d x.irq.length qc3,.int .u32 (x.ram:Int),.int .u16 (x.fuel:Int)]] W (aap W (aaX x)) from fun W hb=>gC (l.out.2.1.below hb).set)
 have e2:=Ja (show ∀W,Below X.heap.size X W->Calls Try.prog 26 #[.agg #[.slice sa3 x.inn.length sc3,.slice d x.irq.length qc3,.int .u32 (x.ram:Int),.int .u16 (x.fuel:Int)]] W (dq W (F1:Int)) from fun W hb=>by
  have:=fq (l.out.2.1.below hb).set;rw[d9] at this
  exact this)
 have e0:=Ja (show ∀W,Below X.heap.size X W->Calls Try.prog 25 #[.agg #[.slice sa3 x.inn.length sc3,.slice d x.irq.length qc3,.int .u32 (x.ram:Int),.int .u16 (x.fuel:Int)]] W (fun e w'=>∃ia ic qa qc,e=.returned (.agg #[.slice ia I.length ic,.slice qa Q.length qc])/\wV w' w'.heap.size (.slice ia I.length ic) I/\dL w' w'.heap.size (.slice qa Q.length qc) Q/\Below W.heap.size W w') from fun W hb=>by
  refine(fi (l.out.2.1.below hb).set).mono ?_;rintro e w' ⟨ia,ic,qa,qc,rfl,h1,h2,h3⟩;rw[hI] at h1 ⊢;rw[hQ] at h2 ⊢
  exact⟨ia,ic,qa,qc,rfl,h1.mono zr h3.size,h2.mono xQ h3.size,h3⟩)
 have c9:=Ja (show ∀W,Below X.heap.size X W->Calls Try.prog 21 #[.agg #[.slice a1 t.funcs.length a0,.slice aa1 t.args.length ac1,A t.entry,A t.handler,.slice a3 t.data.length a2,.slice ba1 t.banks.length bc1]] W (m9 W vt) from fun W hb=>by
  have:=ab0 (l.out.2.2.2.below hb).prog (fun f hf=>(a7.out.2 f hf).1)
  rwa [b7] at this)
 have b2:=Ja (show vt≠0->∀W ia ic qa qc,Below X.heap.size X W->wV W W.heap.size (.slice ia I.length ic) I->dL W W.heap.size (.slice qa Q.length qc) Q->
  Calls Try.prog 23 #[.agg #[.slice a1 t.funcs.length a0,.slice aa1 t.args.length ac1,A t.entry,A t.handler,.slice a3 t.data.length a2,.slice ba1 t.banks.length bc1],A 0,O,.string (aaX x),.agg #[.slice ia I.length ic,.slice qa Q.length qc],A F1] W (RetZ W) from fun hv=>fun W ia ic qa qc hb hi hq=>by
  have h:=mX (l.out.2.2.2.below hb).prog a7.out.2 0 ⟨by omega,by omega⟩ ((yN.nil:wV W W.heap.size _ [])) (aaX x) (eU x) hi hq (F1:Int) ⟨by omega,by omega⟩ Zo;rw[abX (ask_bad (by rw[b7];exact hv))] at h
  exact h.mono fun e w' h=>retZ h)
 have g2:=Ja (show ∀W ia ic qa qc,Below X.heap.size X W->wV W W.heap.size (.slice ia I.length ic) I->dL W W.heap.size (.slice qa Q.length qc) Q->
  Calls Try.prog 23 #[.agg #[.slice fa p.funcs.length fc,.slice aa p.args.length ac,A p.entry,A p.handler,.slice da p.data.length dc,.slice ba p.banks.length bc],A (-1),O,.string ⟨#[]⟩,.agg #[.slice ia I.length ic,.slice qa Q.length qc],A 9] W (RetZ W) from fun W ia ic qa qc hb hi hq=>by
  have h:=mX (l.out.2.2.1.below hb).prog a7.out.1 (-1) ⟨by omega,by omega⟩ ((yN.nil:wV W W.heap.size _ [])) ⟨#[]⟩ Zd hi hq 9 ⟨by omega,by omega⟩ Zo;rw[abX (ady (.inl Zo))] at h
  exact h.mono fun e w' h=>retZ h)
 have g1:=Ja (show ∀W ia ic qa qc,Below X.heap.size X W->wV W W.heap.size (.slice ia I.length ic) I->dL W W.heap.size (.slice qa Q.length qc) Q->
  Calls Try.prog 23 #[.agg #[.slice fa p.funcs.length fc,.slice aa p.args.length ac,A p.entry,A p.handler,.slice da p.data.length dc,.slice ba p.banks.length bc],A (p.funcs.length:Int),O,.string ⟨#[]⟩,.agg #[.slice ia I.length ic,.slice qa Q.length qc],A 9] W (RetZ W) from fun W ia ic qa qc hb hi hq=>by
  have h:=mX (l.out.2.2.1.below hb).prog a7.out.1 (p.funcs.length:Int) ⟨by omega,by omega⟩ ((yN.nil:wV W W.heap.size _ [])) ⟨#[]⟩ Zd hi hq 9 ⟨by omega,by omega⟩ Zo;rw[abX (ady (.inr (Og _)))] at h
  exact h.mono fun e w' h=>retZ h)
 have g0:=Ja (show ∀W b ia ic qa qc,Below X.heap.size X W->wV W W.heap.size (.slice ia I.length ic) I->dL W W.heap.size (.slice qa Q.length qc) Q->L W b #[.int .u16 1] 39->
  Calls Try.prog 23 #[.agg #[.slice fa p.funcs.length fc,.slice aa p.args.length ac,A p.entry,A p.handler,.slice da p.data.length dc,.slice ba p.banks.length bc],A 0,N b 1 1,.string ⟨#[]⟩,.agg #[.slice ia I.length ic,.slice qa Q.length qc],A 9] W (RetZ W) from fun W b ia ic qa qc hb hi hq hc=>by
  have hu:wV W W.heap.size (N b 1 1) [1]:=⟨_,1,rfl,Je _,by omega,fun k x hk=>by
   cases k with
   |zero=>cases hk;exact⟨b,0,rfl,lt_of_block hc,zA hc rfl,by decide⟩
   |succ k=>simp at hk⟩
  have h:=mX (l.out.2.2.1.below hb).prog a7.out.1 0 ⟨by omega,by omega⟩ hu ⟨#[]⟩ Zd hi hq 9 ⟨by omega,by omega⟩ Zo;rw[abX (ask_more (by show((1:Nat):Int)≠p.args.getD 0 0;rw[HK.out.2];decide))] at h
  exact h.mono fun e w' h=>retZ h)
 obtain⟨R,hR⟩:∃R,i9 ⟨p,I,Q⟩ 0 [] ⟨#[]⟩ 9=R:=⟨_,rfl⟩
 have d8:(R.kind:Int)≠0:=by
  rw[<-hR];unfold i9;rw[if_pos HK.out.1];have:=adl ⟨p,I,Q⟩ 0 [] ⟨#[]⟩ 9;omega
 have f9:=Ja (show ∀W ia ic qa qc,Below X.heap.size X W->wV W W.heap.size (.slice ia I.length ic) I->dL W W.heap.size (.slice qa Q.length qc) Q->
  Calls Try.prog 23 #[.agg #[.slice fa p.funcs.length fc,.slice aa p.args.length ac,A p.entry,A p.handler,.slice da p.data.length dc,.slice ba p.banks.length bc],A 0,O,.string ⟨#[]⟩,.agg #[.slice ia I.length ic,.slice qa Q.length qc],A 9] W (eM W R) from fun W ia ic qa qc hb hi hq=>by
  have h:=mX (l.out.2.2.1.below hb).prog a7.out.1 0 ⟨by omega,by omega⟩ (yN.nil:wV W W.heap.size _ []) ⟨#[]⟩ Zd hi hq 9 ⟨by omega,by omega⟩ Zo;rw[hR] at h
  exact h.mono fun e w' h=>h.open)
 have f8:=Ja d8;clear hI hQ d9 f7 hR d8 b7 e7;go_upto_region 5 with fail
 go_cut [32] (fun v wx=>v=.bool false/\Hid (Below X.heap.size X wx))
 case first=>
  by_cases hv:vt=0
  ·subst hv;clear b2;refine wp_region_noPanic ?_;refine wp_region_held_drew (S:=fun w'=>G w' b9 0 (.slice a1 t.funcs.length a0)/\G w' b9 1 (.slice aa1 t.args.length ac1)/\G w' b9 2 (A t.entry)/\G w' b9 3 (A t.handler)/\G w' b9 4 (.slice a3 t.data.length a2)/\G w' b9 5 (.slice ba1 t.banks.length bc1)/\G w' (w.heap.size+1) 0 (.slice sa3 x.inn.length sc3)/\G w' (w.heap.size+1) 1 (.slice d x.irq.length qc3)/\G w' (w.heap.size+1) 2 (.int .u32 (x.ram:Int))/\G w' (w.heap.size+1) 3 (.int .u16 (x.fuel:Int))) Zk (HC.out _ (uG (Below.refl _ _))) (fun hHeld=>?_);refine Th 0 ?_
   try simp only[Yp]
   refine wpAnyH_ready (rs:=[1]) Zk Zs ?_;refine AllReadyH.cons (o:=_) rfl (fun K hK=>?_) ?_
   ·skip
    go_simp;refine(c9.out _ Zb).mono ?_;rintro e y0 ⟨rfl,j⟩;have b3:Below X.heap.size X y0:=Below.trans Zb (j.mono Zn);clear j
    dsimp only
    refine hK.out _ _ (HC.out _ b3) (fun hHeld=>?_);clear hK K
    try simp only[Yp]
    refine Th 2 ?_
    try simp only[Yp]
    refine Th 3 ?_
    try simp only[Yp]
    refine wpAnyH_take (i:=4) (oi:=_) (v:=undef) rfl Zk Zk Zk (fun _ _ _ h=>h) (Or.inr ⟨by kernel_rfl,rfl⟩) Zz ?_
    try simp only[Yp]
    refine wpAnyH_take (i:=5) (oi:=_) (v:=undef) rfl Zk Zk Zk (fun _ _ _ h=>h) (Or.inr ⟨by kernel_rfl,rfl⟩) Zz ?_
    try simp only[Yp]
    refine wpAnyH_take (i:=6) (oi:=_) (v:=undef) rfl Zk Zk Zk (fun _ _ _ h=>h) (Or.inr ⟨by kernel_rfl,rfl⟩) Zz ?_
    try simp only[Yp]
    refine wpAnyH_take (i:=7) (oi:=_) (v:=undef) rfl Zk Zk Zk (fun _ _ _ h=>h) (Or.inr ⟨by kernel_rfl,rfl⟩) Zz ?_
    try simp only[Yp]
    refine wpAnyH_take (i:=8) (oi:=_) (v:=undef) rfl Zk Zk Zk (fun _ _ _ h=>h) (Or.inr ⟨by kernel_rfl,rfl⟩) Zz ?_
    try simp only[Yp]
    refine wpAnyH_take (i:=9) (oi:=_) (v:=undef) rfl Zk Zk Zk (fun _ _ _ h=>h) (Or.inr ⟨by kernel_rfl,rfl⟩) Zz ?_
    try simp only[Yp]
    refine wpAnyH_take (i:=10) (oi:=_) (v:=undef) rfl Zk Zk Zk (fun _ _ _ h=>h) (Or.inr ⟨by kernel_rfl,rfl⟩) Zz ?_
    try simp only[Yp]
    refine wpAnyH_take (i:=11) (oi:=_) (v:=undef) rfl Zk Zk Zk (fun _ _ _ h=>h) (Or.inr ⟨by kernel_rfl,rfl⟩) Zz ?_
    try simp only[Yp]
    refine wpAnyH_take (i:=12) (oi:=_) (v:=undef) rfl Zk Zk Zk (fun _ _ _ h=>h) (Or.inr ⟨by kernel_rfl,rfl⟩) Zz ?_
    try simp only[Yp]
    refine wpAnyH_take (i:=13) (oi:=_) (v:=undef) rfl Zk Zk Zk (fun _ _ _ h=>h) (Or.inr ⟨by kernel_rfl,rfl⟩) Zz ?_
    try simp only[Yp]
    refine wpAnyH_take (i:=14) (oi:=_) (v:=undef) rfl Zk Zk Zk (fun _ _ _ h=>h) (Or.inr ⟨by kernel_rfl,rfl⟩) Zz ?_
    try simp only[Yp]
    refine Th 15 ?_
    try simp only[Yp]
    refine wpAnyH_done Zk (NoPanic.normal ?_) _;go_simp;go_wp2_with fail;go_meet;exact⟨rfl,Ja b3⟩
   ·exact AllReadyH.nil
  ·have t0:(vt !=0)=true:=by rw[bne_iff_ne];exact hv
   have t1:(vt==0)=false:=by rw[beq_eq_false_iff_ne];exact hv
   have b2:=Ja (b2.out hv);clear hv
   go_region_held3 (fun w'=>G w' b9 0 (.slice a1 t.funcs.length a0)/\G w' b9 1 (.slice aa1 t.args.length ac1)/\G w' b9 2 (A t.entry)/\G w' b9 3 (A t.handler)/\G w' b9 4 (.slice a3 t.data.length a2)/\G w' b9 5 (.slice ba1 t.banks.length bc1)/\G w' (w.heap.size+1) 0 (.slice sa3 x.inn.length sc3)/\G w' (w.heap.size+1) 1 (.slice d x.irq.length qc3)/\G w' (w.heap.size+1) 2 (.int .u32 (x.ram:Int))/\G w' (w.heap.size+1) 3 (.int .u16 (x.fuel:Int)))
    ((refine HC.out _ ?_;repeat' (first|with_reducible exact Below.refl _ _|with_reducible assumption|with_reducible refine Below.drew ?_|with_reducible refine Below.alloc ?_ Zn _|with_reducible refine Below.setCell ?_ Zn _)))
    (first
    |(go_at_call 21
      refine(c9.out _ Zb).mono ?_;rintro e y0 ⟨rfl,j⟩;have b3:Below X.heap.size X y0:=Below.trans Zb (j.mono Zn);have h0:=b3.size
      clear j)
    |(go_at_call 24
      refine(e1.out _ Zb).mono ?_;rintro e y1 ⟨rfl,c⟩;have e6:Below X.heap.size X y1:=Below.trans Zb (c.mono Zn);have g9:=e6.size
      clear c)
    |(go_at_call 25
      refine(e0.out _ Zb).mono ?_;rintro e y2 ⟨ia,ic,qa,qc,rfl,a5,a4,a6⟩;have b6:Below X.heap.size X y2:=Below.trans Zb (a6.mono Zn);have f1:=b6.size
      clear a6)
    |(go_at_call 26
      refine(e2.out _ Zb).mono ?_;rintro e y3 ⟨rfl,c8⟩;have y:Below y2.heap.size y2 y3:=Below.trans Zb (c8.mono Zn);have f6:=(a5.below zr y).mono zr y.size;have f2:=(a4.below xQ y).mono xQ y.size;clear y;have e5:Below X.heap.size X y3:=Below.trans Zb (c8.mono Zn);have g6:=e5.size
      clear c8)
    |(go_at_call 23
      refine(b2.out _ _ _ _ _ Zb (yN.mono zr (B:=y3.heap.size) (yN.below zr f6 Zb) Zn) (yN.mono xQ (B:=y3.heap.size) (yN.below xQ f2 Zb) Zn)).mono ?_;rintro e y4 ⟨oa,oc,rfl,b0,g⟩;have u:Below X.heap.size X y4:=Below.trans Zb (g.mono Zn);have c7:=u.size
      clear g)
    |(go_at_call 29
      refine(acY (yN.mono vo (B:=y4.heap.size) (yN.below vo b0 Zb) Zn)).mono ?_;rintro e y5 ⟨rfl,b1⟩;have b5:Below X.heap.size X y5:=Below.trans Zb (b1.mono Zn);have f0:=b5.size
      clear b1))
   all_goals go_wp2_with fail
   all_goals go_meet
   all_goals exact⟨rfl,Ja (by first|assumption|exact uG Zz)⟩
 case rest=>
 obtain⟨rfl,HB⟩:=hcut
 have g3:=Ja (show ∀W,Below X.heap.size X W->(G W b8 0 (.slice fa p.funcs.length fc)/\G W b8 1 (.slice aa p.args.length ac)/\G W b8 2 (A p.entry)/\G W b8 3 (A p.handler)/\G W b8 4 (.slice da p.data.length dc)/\G W b8 5 (.slice ba p.banks.length bc)/\G W (w.heap.size+1) 0 (.slice sa3 x.inn.length sc3)/\G W (w.heap.size+1) 1 (.slice d x.irq.length qc3)/\G W (w.heap.size+1) 2 (.int .u32 (x.ram:Int))/\G W (w.heap.size+1) 3 (.int .u16 (x.fuel:Int))) from fun W hb=>by
  have h1:=l.out.2.2.1.below hb;have h2:=l.out.2.1.below hb
  exact⟨h1.c0,h1.c1,h1.c2,h1.c3,h1.c4,h1.c5,h2.c0,h2.c1,h2.c2,h2.c3⟩)
 have hB:=HB.out;have h6:=hB.size;clear HC b2 c9 e1 e2 HB;go_upto_region 7 with fail
 go_region_held3 (fun w'=>G w' b8 0 (.slice fa p.funcs.length fc)/\G w' b8 1 (.slice aa p.args.length ac)/\G w' b8 2 (A p.entry)/\G w' b8 3 (A p.handler)/\G w' b8 4 (.slice da p.data.length dc)/\G w' b8 5 (.slice ba p.banks.length bc)/\G w' (w.heap.size+1) 0 (.slice sa3 x.inn.length sc3)/\G w' (w.heap.size+1) 1 (.slice d x.irq.length qc3)/\G w' (w.heap.size+1) 2 (.int .u32 (x.ram:Int))/\G w' (w.heap.size+1) 3 (.int .u16 (x.fuel:Int)))
  ((refine g3.out _ ?_;repeat' (first|with_reducible exact Below.refl _ _|with_reducible assumption|with_reducible refine Below.drew ?_|with_reducible refine Below.alloc ?_ Zn _|with_reducible refine Below.setCell ?_ Zn _)))
  (first
    |(go_at_call 25
      refine(e0.out _ Zb).mono ?_;rintro e y2 ⟨ia,ic,qa,qc,rfl,a5,a4,a6⟩
      try (have f3:=zH a6 (show(World.alloc _ (U #[.int .u16 1] 39)).heap[_]? =_ from zI rfl) Zs)
      have b6:Below X.heap.size X y2:=Below.trans Zb (a6.mono Zn);have f1:=b6.size
      clear a6)
    |(go_at_call 23
      (with_reducible refine(g2.out _ _ _ _ _ Zb (yN.mono zr (B:=y2.heap.size) (yN.below zr a5 Zb) Zn) (yN.mono xQ (B:=y2.heap.size) (yN.below xQ a4 Zb) Zn)).mono ?_)
      rintro e y4 ⟨oa,oc,rfl,b0,g⟩;have u:Below X.heap.size X y4:=Below.trans Zb (g.mono Zn);have c7:=u.size
      clear g)
    |(go_at_call 23
      (with_reducible refine(g1.out _ _ _ _ _ Zb (yN.mono zr (B:=y2.heap.size) (yN.below zr a5 Zb) Zn) (yN.mono xQ (B:=y2.heap.size) (yN.below xQ a4 Zb) Zn)).mono ?_)
      rintro e y4 ⟨oa,oc,rfl,b0,g⟩;have u:Below X.heap.size X y4:=Below.trans Zb (g.mono Zn);have c7:=u.size
      clear g)
    |(go_at_call 23
      (with_reducible refine(g0.out _ _ _ _ _ _ Zb (yN.mono zr (B:=y2.heap.size) (yN.below zr a5 Zb) Zn) (yN.mono xQ (B:=y2.heap.size) (yN.below xQ a4 Zb) Zn) (by first|exact f3|exact zI rfl)).mono ?_)
      rintro e y4 ⟨oa,oc,rfl,b0,g⟩;have u:Below X.heap.size X y4:=Below.trans Zb (g.mono Zn);have c7:=u.size
      clear g)
    |(go_at_call 23
      (with_reducible refine(f9.out _ _ _ _ _ Zb (yN.mono zr (B:=y2.heap.size) (yN.below zr a5 Zb) Zn) (yN.mono xQ (B:=y2.heap.size) (yN.below xQ a4 Zb) Zn)).mono ?_)
      rintro e y6 ⟨ob,od,rfl,h5,d7⟩;have e4:Below X.heap.size X y6:=Below.trans Zb (d7.mono Zn);have g5:=e4.size
      clear d7)
    |(go_at_call 29
      (with_reducible refine(acY (yN.mono vo (B:=y4.heap.size) (yN.below vo b0 Zb) Zn)).mono ?_)
      rintro e y5 ⟨rfl,b1⟩;have b5:Below X.heap.size X y5:=Below.trans Zb (b1.mono Zn);have f0:=b5.size
      clear b1)
    |(go_at_call 29
      (with_reducible refine(zero_no f8.out).mono ?_)
      rintro e y7 ⟨rfl,d6⟩;have e3:Below X.heap.size X y7:=Below.trans Zb (d6.mono Zn);have g4:=e3.size
      clear d6))
 all_goals go_wp2_with fail
 all_goals go_ret
 all_goals exact⟨rfl,l.out.1.trans (Below.mono (by first|with_reducible assumption|with_reducible exact uG Zz) l.out.1.size)⟩
end Go.Proofs.Ytojclalkfhoooaa
