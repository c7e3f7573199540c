/- Part of a proof. -/
import Derived.Test.YtojclalkfhoooaaGLw0v2
import Derived.Test.YtojclalkfhoooaaGLw3
import Derived.Test.YtojclalkfhoooaaGRVal9
import Derived.Test.YtojclalkfhoooaaGVmGv2
set_option linter.all false
set_option maxHeartbeats 8000000
set_option maxRecDepth 100000
namespace Go.Proofs.Ytojclalkfhoooaa
open Go.RowKit
theorem adG (w:World)(sv:Value)(s:List Int)(q0 q1 q2 r0 r1 r2:Int)(hs:zY w w.heap.size sv s)(hq:I64 q0/\I64 q1/\I64 q2)(hr:I64 r0/\I64 r1/\I64 r2):
 Calls Try.prog 3 #[sv,.agg #[A q0,A q1,A q2],.agg #[A r0,A r1,A r2]] w fun e w'=>e=.returned (.bool true)/\F w w':=by
 obtain⟨sa,sc,rfl,d4,d3⟩:=hs.form;have HS:=Ja (Jb hs (Jb hq hr));clear hs d4 d3 hq hr;have a1:F w ((w.alloc (U #[A q0,A q1,A q2] 23)).alloc (U #[A r0,A r1,A r2] 23)):=((Below.refl _ _).alloc (Je _) _).alloc Zs _;have b0:QBx ((w.alloc (U #[A q0,A q1,A q2] 23)).alloc (U #[A r0,A r1,A r2] 23)) w.heap.size q0 q1 q2:=⟨zB (zI rfl)⟩
 have a7:QBx ((w.alloc (U #[A q0,A q1,A q2] 23)).alloc (U #[A r0,A r1,A r2] 23)) (w.heap.size+1) r0 r1 r2:=⟨zI Zs⟩
 have H0:=Ja (Jb a1 (Jb b0 a7));clear a1 b0 a7;go_enter Try.func3,Try.ntmps3;go_upto_region 2 with(go_at_call 17;go_must (refine(ln _).mono ?_;rintro e w0 ⟨rfl,c⟩))
 have H1:=Ja (Jb (H0.out.1.trans (c.mono H0.out.1.size)) (Jb (H0.out.2.1.below c) (H0.out.2.2.below c)));clear c H0;have HM:=Ja (abW ((HS.out.1.below zO H1.out.1).mono zO H1.out.1.size));have a4:=acK (s.take 200);have b1:=fm (s.take 200);generalize uR (s.take 200)=p at *;go_upto_region 3 with(go_at_call 18;go_must (refine HM.out.mono ?_;rintro e w1 ⟨fa,fc,aa,ac,da,dc,ba,bc,rfl,hp,c⟩))
 have d:=c.alloc c.size (U (R p fa fc aa ac da dc ba bc) 29);have g:=Ja (Jb (H1.out.1.trans (d.mono H1.out.1.size)) (Jb (H1.out.2.1.below d) (Jb (H1.out.2.2.below d) (PBx.new hp))));clear c hp d HM H1;generalize w1.alloc (U (R p fa fc aa ac da dc ba bc) 29)=X at *;generalize w1.heap.size=b8 at *;have c0:G X b8 0 (.slice fa p.funcs.length fc):=g.out.2.2.2.c0;have c1:G X b8 1 (.slice aa p.args.length ac):=g.out.2.2.2.c1;have c2:G X b8 2 (A p.entry):=g.out.2.2.2.c2;have c3:G X b8 3 (A p.handler):=g.out.2.2.2.c3;have c4:G X b8 4 (.slice da p.data.length dc):=g.out.2.2.2.c4;have c5:G X b8 5 (.slice ba p.banks.length bc):=g.out.2.2.2.c5;have d0:G X w.heap.size 0 (A q0):=g.out.2.1.c0;have d1:G X w.heap.size 1 (A q1):=g.out.2.1.c1;have d2:G X w.heap.size 2 (A q2):=g.out.2.1.c2;have HT:=Ja (kU (g.out.2.2.2.prog) (a4.small Zd) HS.out.2.1);have a3:=acA a4 q0 q1 q2;generalize wR p q0 q1 q2=t at *;go_upto_region 4 with(go_at_call 19;go_must (refine HT.out.mono ?_;rintro e w2 ⟨j,i,aa1,ac1,l,k,ba1,bc1,rfl,hp,c⟩))
 have d:=c.alloc c.size (U (R t j i aa1 ac1 l k ba1 bc1) 29);have h:=Ja (Jb (g.out.1.trans (d.mono g.out.1.size)) (Jb (g.out.2.1.below d) (Jb (g.out.2.2.1.below d) (Jb (g.out.2.2.2.below d) (PBx.new2 hp)))));clear c hp d HT g c0 c1 c2 c3 c4 c5 d0 d1 d2;generalize w2.alloc (U (R t j i aa1 ac1 l k ba1 bc1) 29)=Y at *;generalize w2.heap.size=b9 at *;obtain⟨X,rfl⟩:∃X,X=Y:=⟨_,rfl⟩
 have c0:G X b9 0 (.slice j t.funcs.length i):=h.out.2.2.2.2.c0;have c1:G X b9 1 (.slice aa1 t.args.length ac1):=h.out.2.2.2.2.c1;have c2:G X b9 2 (A t.entry):=h.out.2.2.2.2.c2;have c3:G X b9 3 (A t.handler):=h.out.2.2.2.2.c3;have c4:G X b9 4 (.slice l t.data.length k):=h.out.2.2.2.2.c4;have c5:G X b9 5 (.slice ba1 t.banks.length bc1):=h.out.2.2.2.2.c5;have d0:G X (w.heap.size+1) 0 (A r0):=h.out.2.2.1.c0;have d1:G X (w.heap.size+1) 1 (A r1):=h.out.2.2.1.c1;have d2:G X (w.heap.size+1) 2 (A r2):=h.out.2.2.1.c2;have HT:=Ja (kU (h.out.2.2.2.2.prog) (a3.small Zd) HS.out.2.2);have b2:=acA a3 r0 r1 r2;generalize wR t r0 r1 r2=u at *;go_upto_region 5 with(go_at_call 19;go_must (refine HT.out.mono ?_;rintro e w3 ⟨r,o,aa2,ac2,a0,y,ba2,bc2,rfl,hp,c⟩))
 have d:=c.alloc c.size (U (R u r o aa2 ac2 a0 y ba2 bc2) 29);have m:=Ja (Jb (h.out.1.trans (d.mono h.out.1.size)) (Jb (h.out.2.2.2.1.below d) (Jb (h.out.2.2.2.2.below d) (PBx.new2 hp))));clear c hp d HT h c0 c1 c2 c3 c4 c5 d0 d1 d2;generalize w3.alloc (U (R u r o aa2 ac2 a0 y ba2 bc2) 29)=Y at *;generalize w3.heap.size=b10 at *;obtain⟨X,rfl⟩:∃X,X=Y:=⟨_,rfl⟩
 have a2:=Ja (show mW p/\mW t/\mW u from⟨a4.sized Zd,a3.sized Zd,b2.sized Zd⟩)
 have HC:=Ja (show ∀W,F X W->(G W b8 0 (.slice fa p.funcs.length fc)/\G W b8 1 (.slice aa p.args.length ac)/\G W b8 2 (A p.entry)/\G W b8 3 (A p.handler)/\G W b8 4 (.slice da p.data.length dc)/\G W b8 5 (.slice ba p.banks.length bc)/\G W b9 0 (.slice j t.funcs.length i)/\G W b9 1 (.slice aa1 t.args.length ac1)/\G W b9 2 (A t.entry)/\G W b9 3 (A t.handler)/\G W b9 4 (.slice l t.data.length k)/\G W b9 5 (.slice ba1 t.banks.length bc1)/\G W b10 0 (.slice r u.funcs.length o)/\G W b10 1 (.slice aa2 u.args.length ac2)/\G W b10 2 (A u.entry)/\G W b10 3 (A u.handler)/\G W b10 4 (.slice a0 u.data.length y)/\G W b10 5 (.slice ba2 u.banks.length bc2)) from fun W hb=>by
  have h1:=m.out.2.1.below hb;have h2:=m.out.2.2.1.below hb;have h3:=m.out.2.2.2.below hb
  exact⟨h1.c0,h1.c1,h1.c2,h1.c3,h1.c4,h1.c5,h2.c0,h2.c1,h2.c2,h2.c3,h2.c4,h2.c5,h3.c0,h3.c1,h3.c2,h3.c3,h3.c4,h3.c5⟩)
 have d7:=Ja (show ∀W,F X W->Calls Try.prog 20 #[.agg (R p fa fc aa ac da dc ba bc)] W (m9 W 0) from fun W hb=>by
  have:=tu (m.out.2.1.below hb).prog (Je _) (fun f hf=>(a2.out.1 f hf).1)
  rwa [b1] at this)
 obtain⟨vt,a6⟩:∃x,vC t=x:=⟨_,rfl⟩
 obtain⟨vu,a5⟩:∃x,vC u=x:=⟨_,rfl⟩
 have d6:=Ja (show ∀W,F X W->Calls Try.prog 20 #[.agg (R t j i aa1 ac1 l k ba1 bc1)] W (m9 W vt) from fun W hb=>by
  have:=tu (m.out.2.2.1.below hb).prog (Je _) (fun f hf=>(a2.out.2.1 f hf).1)
  rwa [a6] at this)
 have d9:=Ja (show ∀W,F X W->Calls Try.prog 21 #[.agg (R t j i aa1 ac1 l k ba1 bc1)] W (m9 W vt) from fun W hb=>by
  have:=ab0 (m.out.2.2.1.below hb).prog (fun f hf=>(a2.out.2.1 f hf).1)
  rwa [a6] at this)
 have d5:=Ja (show ∀W,F X W->Calls Try.prog 20 #[.agg (R u r o aa2 ac2 a0 y ba2 bc2)] W (m9 W vu) from fun W hb=>by
  have:=tu (m.out.2.2.2.below hb).prog (Je _) (fun f hf=>(a2.out.2.2 f hf).1)
  rwa [a5] at this)
 have d8:=Ja (show ∀W,F X W->Calls Try.prog 21 #[.agg (R u r o aa2 ac2 a0 y ba2 bc2)] W (m9 W vu) from fun W hb=>by
  have:=ab0 (m.out.2.2.2.below hb).prog (fun f hf=>(a2.out.2.2 f hf).1)
  rwa [a5] at this)
 clear a4 a3 b2 b1 a6 a5
 go_region_held3 (fun w'=>G w' b8 0 (.slice fa p.funcs.length fc)/\G w' b8 1 (.slice aa p.args.length ac)/\G w' b8 2 (A p.entry)/\G w' b8 3 (A p.handler)/\G w' b8 4 (.slice da p.data.length dc)/\G w' b8 5 (.slice ba p.banks.length bc)/\G w' b9 0 (.slice j t.funcs.length i)/\G w' b9 1 (.slice aa1 t.args.length ac1)/\G w' b9 2 (A t.entry)/\G w' b9 3 (A t.handler)/\G w' b9 4 (.slice l t.data.length k)/\G w' b9 5 (.slice ba1 t.banks.length bc1)/\G w' b10 0 (.slice r u.funcs.length o)/\G w' b10 1 (.slice aa2 u.args.length ac2)/\G w' b10 2 (A u.entry)/\G w' b10 3 (A u.handler)/\G w' b10 4 (.slice a0 u.data.length y)/\G w' b10 5 (.slice ba2 u.banks.length bc2))
  ((refine HC.out _ ?_;repeat' (first|with_reducible exact Below.refl _ _|with_reducible assumption|with_reducible refine Below.drew ?_|with_reducible refine Below.alloc ?_ Zn _|with_reducible refine Below.setCell ?_ Zn _)))
  (first
    |(go_at_call 20
      (with_reducible refine(d7.out _ Zb).mono ?_)
      rintro e y0 ⟨rfl,a1⟩;have c9:F X y0:=Below.trans Zb (a1.mono Zn);have e4:=c9.size
      clear a1)
    |(go_at_call 20
      (with_reducible refine(d6.out _ Zb).mono ?_)
      rintro e y1 ⟨rfl,c⟩;have c8:F X y1:=Below.trans Zb (c.mono Zn);have e3:=c8.size
      clear c)
    |(go_at_call 21
      (with_reducible refine(d9.out _ Zb).mono ?_)
      rintro e y2 ⟨rfl,b5⟩;have c7:F X y2:=Below.trans Zb (b5.mono Zn);have e2:=c7.size
      clear b5)
    |(go_at_call 20
      (with_reducible refine(d5.out _ Zb).mono ?_)
      rintro e y3 ⟨rfl,b4⟩;have b7:F X y3:=Below.trans Zb (b4.mono Zn);have e1:=b7.size
      clear b4)
    |(go_at_call 21
      (with_reducible refine(d8.out _ Zb).mono ?_)
      rintro e y4 ⟨rfl,b3⟩;have b6:F X y4:=Below.trans Zb (b3.mono Zn);have e0:=b6.size
      clear b3))
 all_goals go_wp2_with fail
 all_goals go_ret
 all_goals exact⟨rfl,m.out.1.trans (Below.mono (by first|with_reducible assumption|with_reducible exact uG Zz) m.out.1.size)⟩
end Go.Proofs.Ytojclalkfhoooaa
