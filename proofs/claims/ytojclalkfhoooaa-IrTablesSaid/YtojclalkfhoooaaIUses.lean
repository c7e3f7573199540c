/- Part of a proof. -/
import Derived.Test.YtojclalkfhoooaaGApp
import Derived.Test.YtojclalkfhoooaaGVmD
import Derived.Test.YtojclalkfhoooaaGMap
set_option linter.unusedSimpArgs false
set_option linter.unusedVariables false
set_option maxHeartbeats 2000000
set_option maxRecDepth 100000
namespace Go.Proofs.Ytojclalkfhoooaa
open Go.RowKit
def wG (w:World)(xs:List Int)(e:Ending)(w':World):Prop:=∃v,e=.returned v/\zY w' w'.heap.size v xs/\Below w.heap.size w w'
theorem yP {B:Nat}{w W w':World}{v:Value}(h:Below B w W)(hg:W.grownBy w' v.ownBlock)(hB:B<=W.heap.size)(hv:∀k,v.ownBlock=some k->B<=k):Below B w w':=
 h.trans ⟨hg.os,hg.tape,hg.output,hg.size,fun k hk=>hg.block k (by omega) (fun e=>by have:=hv k e.symm;omega)⟩
theorem wF {w:World}{base:Nat}{e:TypeId}{size n:Nat}{v:Value}{xs:List Value}(h:w.ownsRow base e size v n xs):∀k,v.ownBlock=some k->base<=k:=fun k hk=>(h.lt k hk).1
theorem uses_00 {w:World}(o:IOp)(ho:I64 o.code/\I64 o.res/\I64 o.a/\I64 o.b/\o.n<65536){av:Value}{B:Nat}(hB:B<=w.heap.size)(hin:zY w B av o.args)(hlen:o.args.length<=1000000000000)(hfa:(zi o.code).a=false)(hfb:(zi o.code).b=false):
 Calls Try.prog 70 #[.agg #[.int .i64 o.code,.int .i64 o.res,.int .i64 o.a,.int .i64 o.b,.int .u16 (o.n:Int),av]] w (wG w ([]++o.args)):=by
 obtain⟨aa,ac,rfl,hac,ham⟩:=hin.form
 obtain⟨ii,hii,hzi0,hzi1,hzi2⟩:=info_parts Try.info_int
 obtain⟨q1,q2,q3,hf⟩:∃q1 q2 q3,∀W,Calls Try.prog 105 #[.int .i64 o.code] W fun e w'=>e=.returned (.tuple #[.agg #[.bool q1,.bool false,.bool false,.bool q2],.bool q3])/\Below W.heap.size W w':=
  ⟨(zi o.code).res,(zi o.code).n,(zi o.code).is,fun W=>by have:=yu o.code W;unfold yX nL at this;rw[hfa,hfb] at this;exact this⟩
 have HF:=Lib.hid hf
 have HIN:=Lib.hid (show zY w B (.slice aa o.args.length ac) o.args/\B<=w.heap.size/\o.args.length<=1000000000000 from⟨hin,hB,hlen⟩)
 have HO:=Lib.hid ho
 have ho64:∀x∈ []++o.args,I64 x:=by
  intro x hx
  rcases List.mem_append.1 hx with hx|hx
  ·simp at hx
  ·exact zY.all hin x hx
 have H64:=Lib.hid ho64
 have hx0:(w.alloc (.cells #[.int .i64 o.code,.int .i64 o.res,.int .i64 o.a,.int .i64 o.b,.int .u16 (o.n:Int),.slice aa o.args.length ac] 77)).heap[w.heap.size]? =some (.cells #[.int .i64 o.code,.int .i64 o.res,.int .i64 o.a,.int .i64 o.b,.int .u16 (o.n:Int),.slice aa o.args.length ac] 77 (0,0)):=zI rfl
 have hb0:Below w.heap.size w (w.alloc (.cells #[.int .i64 o.code,.int .i64 o.res,.int .i64 o.a,.int .i64 o.b,.int .u16 (o.n:Int),.slice aa o.args.length ac] 77)):=(Below.refl _ _).alloc (Nat.le_refl _) _
 have HX0:=Lib.hid (And.intro hx0 hb0)
 clear hf hin hB hlen ho ho64 hx0 hb0 hac ham hfa hfb
 go_enter Try.func70,Try.ntmps70
 go_upto_region 2 with(first|(go_at_call 105;go_must (refine(HF.out _).mono ?_;rintro e w1 ⟨rfl,hb1⟩))|go_in)
 have hb:=(HX0.out.2.trans (hb1.mono HX0.out.2.size)).alloc (by have:=HX0.out.2.size;have:=hb1.size;omega) (.cells #[.bool q1,.bool false,.bool false,.bool q2] 170)
 have hx1:=zB (o:=.cells #[.bool q1,.bool false,.bool false,.bool q2] 170) (zH hb1 HX0.out.1 (lt_of_block HX0.out.1))
 have hy1:(w1.alloc (.cells #[.bool q1,.bool false,.bool false,.bool q2] 170)).heap[w1.heap.size]? =some (.cells #[.bool q1,.bool false,.bool false,.bool q2] 170 (0,0)):=zI rfl
 generalize hW1:w1.alloc (.cells #[.bool q1,.bool false,.bool false,.bool q2] 170)=W1 at *
 generalize hc1:w1.heap.size=c1 at *
 have own0:W1.ownsRow w.heap.size 3 1 (.slice none 0 0) 0 []:=World.ownsRow_nil W1 _ _ _
 have H0:=Lib.hid (show Below w.heap.size w W1/\W1.heap[w.heap.size]? =some (.cells #[.int .i64 o.code,.int .i64 o.res,.int .i64 o.a,.int .i64 o.b,.int .u16 (o.n:Int),.slice aa o.args.length ac] 77 (0,0))/\W1.heap[c1]? =some (.cells #[.bool q1,.bool false,.bool false,.bool q2] 170 (0,0))/\W1.ownsRow w.heap.size 3 1 (.slice none 0 0) 0 [] from⟨hb,hx1,hy1,own0⟩)
 clear hW1 hc1 hb1 hb hx1 hy1 own0
 have x2:W1.cell? ⟨w.heap.size,2,none⟩=some (.int .i64 o.a):=zA H0.out.2.1 (by simp)
 have x3:W1.cell? ⟨w.heap.size,3,none⟩=some (.int .i64 o.b):=zA H0.out.2.1 (by simp)
 have x5:W1.cell? ⟨w.heap.size,5,none⟩=some (.slice aa o.args.length ac):=zA H0.out.2.1 (by simp)
 have f1:W1.cell? ⟨c1,1,none⟩=some (.bool false):=zA H0.out.2.2.1 (by simp)
 have f2:W1.cell? ⟨c1,2,none⟩=some (.bool false):=zA H0.out.2.2.1 (by simp)
 go_upto_region 5 with fail
 clear x2 x3 x5 f1 f2
 have x2:W1.cell? ⟨w.heap.size,2,none⟩=some (.int .i64 o.a):=zA H0.out.2.1 (by simp)
 have x3:W1.cell? ⟨w.heap.size,3,none⟩=some (.int .i64 o.b):=zA H0.out.2.1 (by simp)
 have x5:W1.cell? ⟨w.heap.size,5,none⟩=some (.slice aa o.args.length ac):=zA H0.out.2.1 (by simp)
 have f1:W1.cell? ⟨c1,1,none⟩=some (.bool false):=zA H0.out.2.2.1 (by simp)
 have f2:W1.cell? ⟨c1,2,none⟩=some (.bool false):=zA H0.out.2.2.1 (by simp)
 go_upto_region 7 with fail
 clear x2 x3 x5 f1 f2
 have x2:W1.cell? ⟨w.heap.size,2,none⟩=some (.int .i64 o.a):=zA H0.out.2.1 (by simp)
 have x3:W1.cell? ⟨w.heap.size,3,none⟩=some (.int .i64 o.b):=zA H0.out.2.1 (by simp)
 have x5:W1.cell? ⟨w.heap.size,5,none⟩=some (.slice aa o.args.length ac):=zA H0.out.2.1 (by simp)
 have f1:W1.cell? ⟨c1,1,none⟩=some (.bool false):=zA H0.out.2.2.1 (by simp)
 have f2:W1.cell? ⟨c1,2,none⟩=some (.bool false):=zA H0.out.2.2.1 (by simp)
 have hsrc:=zY.src (HIN.out.1.below zO (H0.out.1.mono HIN.out.2.1))
 have HSRC:=Lib.hid hsrc
 clear hsrc
 go_wp2_with (at_builtin;go_must (refine zK _ rfl (.tmp 26) (.tmp 28) 22 rfl w.heap.size 3 ii (.int .i64 0) 1 8 Try.underlying22 hii hzi0 hzi1 hzi2 rfl (by decide) (.slice none 0 0) 0 (([]:List Int).map zN) rfl H0.out.2.2.2 _ o.args.length (o.args.map zN) rfl HSRC.out (by have:=HIN.out.2.2;unfold maxLen;omega) (by have:=HIN.out.2.2;omega) H0.out.1.size ?_;intro v9 w9 hown hgrow hat))
 go_ret
 refine⟨v9,rfl,?_,yP H0.out.1 hgrow H0.out.1.size (wF H0.out.2.2.2)⟩
 rw[<-List.map_append] at hown
 exact uA hown (by simp<;>omega) H64.out
theorem uses_01 {w:World}(o:IOp)(ho:I64 o.code/\I64 o.res/\I64 o.a/\I64 o.b/\o.n<65536){av:Value}{B:Nat}(hB:B<=w.heap.size)(hin:zY w B av o.args)(hlen:o.args.length<=1000000000000)(hfa:(zi o.code).a=false)(hfb:(zi o.code).b=true):
 Calls Try.prog 70 #[.agg #[.int .i64 o.code,.int .i64 o.res,.int .i64 o.a,.int .i64 o.b,.int .u16 (o.n:Int),av]] w (wG w ([o.b]++o.args)):=by
 obtain⟨aa,ac,rfl,hac,ham⟩:=hin.form
 obtain⟨ii,hii,hzi0,hzi1,hzi2⟩:=info_parts Try.info_int
 obtain⟨q1,q2,q3,hf⟩:∃q1 q2 q3,∀W,Calls Try.prog 105 #[.int .i64 o.code] W fun e w'=>e=.returned (.tuple #[.agg #[.bool q1,.bool false,.bool true,.bool q2],.bool q3])/\Below W.heap.size W w':=
  ⟨(zi o.code).res,(zi o.code).n,(zi o.code).is,fun W=>by have:=yu o.code W;unfold yX nL at this;rw[hfa,hfb] at this;exact this⟩
 have HF:=Lib.hid hf
 have HIN:=Lib.hid (show zY w B (.slice aa o.args.length ac) o.args/\B<=w.heap.size/\o.args.length<=1000000000000 from⟨hin,hB,hlen⟩)
 have HO:=Lib.hid ho
 have ho64:∀x∈ [o.b]++o.args,I64 x:=by
  intro x hx
  rcases List.mem_append.1 hx with hx|hx
  ·simp at hx;rw[hx];exact ho.2.2.2.1
  ·exact zY.all hin x hx
 have H64:=Lib.hid ho64
 have hx0:(w.alloc (.cells #[.int .i64 o.code,.int .i64 o.res,.int .i64 o.a,.int .i64 o.b,.int .u16 (o.n:Int),.slice aa o.args.length ac] 77)).heap[w.heap.size]? =some (.cells #[.int .i64 o.code,.int .i64 o.res,.int .i64 o.a,.int .i64 o.b,.int .u16 (o.n:Int),.slice aa o.args.length ac] 77 (0,0)):=zI rfl
 have hb0:Below w.heap.size w (w.alloc (.cells #[.int .i64 o.code,.int .i64 o.res,.int .i64 o.a,.int .i64 o.b,.int .u16 (o.n:Int),.slice aa o.args.length ac] 77)):=(Below.refl _ _).alloc (Nat.le_refl _) _
 have HX0:=Lib.hid (And.intro hx0 hb0)
 clear hf hin hB hlen ho ho64 hx0 hb0 hac ham hfa hfb
 go_enter Try.func70,Try.ntmps70
 go_upto_region 2 with(first|(go_at_call 105;go_must (refine(HF.out _).mono ?_;rintro e w1 ⟨rfl,hb1⟩))|go_in)
 have hb:=(HX0.out.2.trans (hb1.mono HX0.out.2.size)).alloc (by have:=HX0.out.2.size;have:=hb1.size;omega) (.cells #[.bool q1,.bool false,.bool true,.bool q2] 170)
 have hx1:=zB (o:=.cells #[.bool q1,.bool false,.bool true,.bool q2] 170) (zH hb1 HX0.out.1 (lt_of_block HX0.out.1))
 have hy1:(w1.alloc (.cells #[.bool q1,.bool false,.bool true,.bool q2] 170)).heap[w1.heap.size]? =some (.cells #[.bool q1,.bool false,.bool true,.bool q2] 170 (0,0)):=zI rfl
 generalize hW1:w1.alloc (.cells #[.bool q1,.bool false,.bool true,.bool q2] 170)=W1 at *
 generalize hc1:w1.heap.size=c1 at *
 have own0:W1.ownsRow w.heap.size 3 1 (.slice none 0 0) 0 []:=World.ownsRow_nil W1 _ _ _
 have H0:=Lib.hid (show Below w.heap.size w W1/\W1.heap[w.heap.size]? =some (.cells #[.int .i64 o.code,.int .i64 o.res,.int .i64 o.a,.int .i64 o.b,.int .u16 (o.n:Int),.slice aa o.args.length ac] 77 (0,0))/\W1.heap[c1]? =some (.cells #[.bool q1,.bool false,.bool true,.bool q2] 170 (0,0))/\W1.ownsRow w.heap.size 3 1 (.slice none 0 0) 0 [] from⟨hb,hx1,hy1,own0⟩)
 clear hW1 hc1 hb1 hb hx1 hy1 own0
 have x2:W1.cell? ⟨w.heap.size,2,none⟩=some (.int .i64 o.a):=zA H0.out.2.1 (by simp)
 have x3:W1.cell? ⟨w.heap.size,3,none⟩=some (.int .i64 o.b):=zA H0.out.2.1 (by simp)
 have x5:W1.cell? ⟨w.heap.size,5,none⟩=some (.slice aa o.args.length ac):=zA H0.out.2.1 (by simp)
 have f1:W1.cell? ⟨c1,1,none⟩=some (.bool false):=zA H0.out.2.2.1 (by simp)
 have f2:W1.cell? ⟨c1,2,none⟩=some (.bool true):=zA H0.out.2.2.1 (by simp)
 go_upto_region 5 with fail
 clear x2 x3 x5 f1 f2
 have x2:W1.cell? ⟨w.heap.size,2,none⟩=some (.int .i64 o.a):=zA H0.out.2.1 (by simp)
 have x3:W1.cell? ⟨w.heap.size,3,none⟩=some (.int .i64 o.b):=zA H0.out.2.1 (by simp)
 have x5:W1.cell? ⟨w.heap.size,5,none⟩=some (.slice aa o.args.length ac):=zA H0.out.2.1 (by simp)
 have f1:W1.cell? ⟨c1,1,none⟩=some (.bool false):=zA H0.out.2.2.1 (by simp)
 have f2:W1.cell? ⟨c1,2,none⟩=some (.bool true):=zA H0.out.2.2.1 (by simp)
 go_upto_region 7 with(at_builtin;go_must (refine zK _ rfl (.tmp 21) (.tmp 24) 22 rfl w.heap.size 3 ii (.int .i64 0) 1 8 Try.underlying22 hii hzi0 hzi1 hzi2 rfl (by decide) (.slice none 0 0) 0 (([]:List Int).map zN) rfl (H0.out.2.2.2.alloc _) _ 1 [.int .i64 o.b] rfl (yM.one (zI (by simp)) (by simp[Value.oneCell'])) (by decide) (by decide) (by have:=H0.out.1.size;simp;omega) ?_;intro v2 W2 hown hgrow hat))
 have hbx:Below w.heap.size w W2:=yP (H0.out.1.alloc H0.out.1.size _) hgrow (by have:=H0.out.1.size;simp;omega) (wF H0.out.2.2.2)
 have hxx:=zL hgrow (zB H0.out.2.1) (zC H0.out.2.2.2 H0.out.2.1 (.inr (by decide)))
 have hyy:=zL hgrow (zB H0.out.2.2.1) (zC H0.out.2.2.2 H0.out.2.2.1 (.inr (by decide)))
 have H1:=Lib.hid (show Below w.heap.size w W2/\W2.heap[w.heap.size]? =some (.cells #[.int .i64 o.code,.int .i64 o.res,.int .i64 o.a,.int .i64 o.b,.int .u16 (o.n:Int),.slice aa o.args.length ac] 77 (0,0))/\W2.heap[c1]? =some (.cells #[.bool q1,.bool false,.bool true,.bool q2] 170 (0,0))/\W2.ownsRow w.heap.size 3 1 v2 1 (([o.b]:List Int).map zN) from⟨hbx,hxx,hyy,hown⟩)
 clear x2 x3 x5 f1 f2 hbx hxx hyy hown hgrow hat
 have x2:W2.cell? ⟨w.heap.size,2,none⟩=some (.int .i64 o.a):=zA H1.out.2.1 (by simp)
 have x3:W2.cell? ⟨w.heap.size,3,none⟩=some (.int .i64 o.b):=zA H1.out.2.1 (by simp)
 have x5:W2.cell? ⟨w.heap.size,5,none⟩=some (.slice aa o.args.length ac):=zA H1.out.2.1 (by simp)
 have f1:W2.cell? ⟨c1,1,none⟩=some (.bool false):=zA H1.out.2.2.1 (by simp)
 have f2:W2.cell? ⟨c1,2,none⟩=some (.bool true):=zA H1.out.2.2.1 (by simp)
 have hsrc:=zY.src (HIN.out.1.below zO (H1.out.1.mono HIN.out.2.1))
 have HSRC:=Lib.hid hsrc
 clear hsrc
 go_wp2_with (at_builtin;go_must (refine zK _ rfl (.tmp 26) (.tmp 28) 22 rfl w.heap.size 3 ii (.int .i64 0) 1 8 Try.underlying22 hii hzi0 hzi1 hzi2 rfl (by decide) v2 1 (([o.b]:List Int).map zN) rfl H1.out.2.2.2 _ o.args.length (o.args.map zN) rfl HSRC.out (by have:=HIN.out.2.2;unfold maxLen;omega) (by have:=HIN.out.2.2;omega) H1.out.1.size ?_;intro v9 w9 hown hgrow hat))
 go_ret
 refine⟨v9,rfl,?_,yP H1.out.1 hgrow H1.out.1.size (wF H1.out.2.2.2)⟩
 rw[<-List.map_append] at hown
 exact uA hown (by simp<;>omega) H64.out
theorem uses_10 {w:World}(o:IOp)(ho:I64 o.code/\I64 o.res/\I64 o.a/\I64 o.b/\o.n<65536){av:Value}{B:Nat}(hB:B<=w.heap.size)(hin:zY w B av o.args)(hlen:o.args.length<=1000000000000)(hfa:(zi o.code).a=true)(hfb:(zi o.code).b=false):
 Calls Try.prog 70 #[.agg #[.int .i64 o.code,.int .i64 o.res,.int .i64 o.a,.int .i64 o.b,.int .u16 (o.n:Int),av]] w (wG w ([o.a]++o.args)):=by
 obtain⟨aa,ac,rfl,hac,ham⟩:=hin.form
 obtain⟨ii,hii,hzi0,hzi1,hzi2⟩:=info_parts Try.info_int
 obtain⟨q1,q2,q3,hf⟩:∃q1 q2 q3,∀W,Calls Try.prog 105 #[.int .i64 o.code] W fun e w'=>e=.returned (.tuple #[.agg #[.bool q1,.bool true,.bool false,.bool q2],.bool q3])/\Below W.heap.size W w':=
  ⟨(zi o.code).res,(zi o.code).n,(zi o.code).is,fun W=>by have:=yu o.code W;unfold yX nL at this;rw[hfa,hfb] at this;exact this⟩
 have HF:=Lib.hid hf
 have HIN:=Lib.hid (show zY w B (.slice aa o.args.length ac) o.args/\B<=w.heap.size/\o.args.length<=1000000000000 from⟨hin,hB,hlen⟩)
 have HO:=Lib.hid ho
 have ho64:∀x∈ [o.a]++o.args,I64 x:=by
  intro x hx
  rcases List.mem_append.1 hx with hx|hx
  ·simp at hx;rw[hx];exact ho.2.2.1
  ·exact zY.all hin x hx
 have H64:=Lib.hid ho64
 have hx0:(w.alloc (.cells #[.int .i64 o.code,.int .i64 o.res,.int .i64 o.a,.int .i64 o.b,.int .u16 (o.n:Int),.slice aa o.args.length ac] 77)).heap[w.heap.size]? =some (.cells #[.int .i64 o.code,.int .i64 o.res,.int .i64 o.a,.int .i64 o.b,.int .u16 (o.n:Int),.slice aa o.args.length ac] 77 (0,0)):=zI rfl
 have hb0:Below w.heap.size w (w.alloc (.cells #[.int .i64 o.code,.int .i64 o.res,.int .i64 o.a,.int .i64 o.b,.int .u16 (o.n:Int),.slice aa o.args.length ac] 77)):=(Below.refl _ _).alloc (Nat.le_refl _) _
 have HX0:=Lib.hid (And.intro hx0 hb0)
 clear hf hin hB hlen ho ho64 hx0 hb0 hac ham hfa hfb
 go_enter Try.func70,Try.ntmps70
 go_upto_region 2 with(first|(go_at_call 105;go_must (refine(HF.out _).mono ?_;rintro e w1 ⟨rfl,hb1⟩))|go_in)
 have hb:=(HX0.out.2.trans (hb1.mono HX0.out.2.size)).alloc (by have:=HX0.out.2.size;have:=hb1.size;omega) (.cells #[.bool q1,.bool true,.bool false,.bool q2] 170)
 have hx1:=zB (o:=.cells #[.bool q1,.bool true,.bool false,.bool q2] 170) (zH hb1 HX0.out.1 (lt_of_block HX0.out.1))
 have hy1:(w1.alloc (.cells #[.bool q1,.bool true,.bool false,.bool q2] 170)).heap[w1.heap.size]? =some (.cells #[.bool q1,.bool true,.bool false,.bool q2] 170 (0,0)):=zI rfl
 generalize hW1:w1.alloc (.cells #[.bool q1,.bool true,.bool false,.bool q2] 170)=W1 at *
 generalize hc1:w1.heap.size=c1 at *
 have own0:W1.ownsRow w.heap.size 3 1 (.slice none 0 0) 0 []:=World.ownsRow_nil W1 _ _ _
 have H0:=Lib.hid (show Below w.heap.size w W1/\W1.heap[w.heap.size]? =some (.cells #[.int .i64 o.code,.int .i64 o.res,.int .i64 o.a,.int .i64 o.b,.int .u16 (o.n:Int),.slice aa o.args.length ac] 77 (0,0))/\W1.heap[c1]? =some (.cells #[.bool q1,.bool true,.bool false,.bool q2] 170 (0,0))/\W1.ownsRow w.heap.size 3 1 (.slice none 0 0) 0 [] from⟨hb,hx1,hy1,own0⟩)
 clear hW1 hc1 hb1 hb hx1 hy1 own0
 have x2:W1.cell? ⟨w.heap.size,2,none⟩=some (.int .i64 o.a):=zA H0.out.2.1 (by simp)
 have x3:W1.cell? ⟨w.heap.size,3,none⟩=some (.int .i64 o.b):=zA H0.out.2.1 (by simp)
 have x5:W1.cell? ⟨w.heap.size,5,none⟩=some (.slice aa o.args.length ac):=zA H0.out.2.1 (by simp)
 have f1:W1.cell? ⟨c1,1,none⟩=some (.bool true):=zA H0.out.2.2.1 (by simp)
 have f2:W1.cell? ⟨c1,2,none⟩=some (.bool false):=zA H0.out.2.2.1 (by simp)
 go_upto_region 5 with(at_builtin;go_must (refine zK _ rfl (.tmp 14) (.tmp 17) 22 rfl w.heap.size 3 ii (.int .i64 0) 1 8 Try.underlying22 hii hzi0 hzi1 hzi2 rfl (by decide) (.slice none 0 0) 0 (([]:List Int).map zN) rfl (H0.out.2.2.2.alloc _) _ 1 [.int .i64 o.a] rfl (yM.one (zI (by simp)) (by simp[Value.oneCell'])) (by decide) (by decide) (by have:=H0.out.1.size;simp;omega) ?_;intro v2 W2 hown hgrow hat))
 have hbx:Below w.heap.size w W2:=yP (H0.out.1.alloc H0.out.1.size _) hgrow (by have:=H0.out.1.size;simp;omega) (wF H0.out.2.2.2)
 have hxx:=zL hgrow (zB H0.out.2.1) (zC H0.out.2.2.2 H0.out.2.1 (.inr (by decide)))
 have hyy:=zL hgrow (zB H0.out.2.2.1) (zC H0.out.2.2.2 H0.out.2.2.1 (.inr (by decide)))
 have H1:=Lib.hid (show Below w.heap.size w W2/\W2.heap[w.heap.size]? =some (.cells #[.int .i64 o.code,.int .i64 o.res,.int .i64 o.a,.int .i64 o.b,.int .u16 (o.n:Int),.slice aa o.args.length ac] 77 (0,0))/\W2.heap[c1]? =some (.cells #[.bool q1,.bool true,.bool false,.bool q2] 170 (0,0))/\W2.ownsRow w.heap.size 3 1 v2 1 (([o.a]:List Int).map zN) from⟨hbx,hxx,hyy,hown⟩)
 clear x2 x3 x5 f1 f2 hbx hxx hyy hown hgrow hat
 have x2:W2.cell? ⟨w.heap.size,2,none⟩=some (.int .i64 o.a):=zA H1.out.2.1 (by simp)
 have x3:W2.cell? ⟨w.heap.size,3,none⟩=some (.int .i64 o.b):=zA H1.out.2.1 (by simp)
 have x5:W2.cell? ⟨w.heap.size,5,none⟩=some (.slice aa o.args.length ac):=zA H1.out.2.1 (by simp)
 have f1:W2.cell? ⟨c1,1,none⟩=some (.bool true):=zA H1.out.2.2.1 (by simp)
 have f2:W2.cell? ⟨c1,2,none⟩=some (.bool false):=zA H1.out.2.2.1 (by simp)
 go_upto_region 7 with fail
 clear x2 x3 x5 f1 f2
 have x2:W2.cell? ⟨w.heap.size,2,none⟩=some (.int .i64 o.a):=zA H1.out.2.1 (by simp)
 have x3:W2.cell? ⟨w.heap.size,3,none⟩=some (.int .i64 o.b):=zA H1.out.2.1 (by simp)
 have x5:W2.cell? ⟨w.heap.size,5,none⟩=some (.slice aa o.args.length ac):=zA H1.out.2.1 (by simp)
 have f1:W2.cell? ⟨c1,1,none⟩=some (.bool true):=zA H1.out.2.2.1 (by simp)
 have f2:W2.cell? ⟨c1,2,none⟩=some (.bool false):=zA H1.out.2.2.1 (by simp)
 have hsrc:=zY.src (HIN.out.1.below zO (H1.out.1.mono HIN.out.2.1))
 have HSRC:=Lib.hid hsrc
 clear hsrc
 go_wp2_with (at_builtin;go_must (refine zK _ rfl (.tmp 26) (.tmp 28) 22 rfl w.heap.size 3 ii (.int .i64 0) 1 8 Try.underlying22 hii hzi0 hzi1 hzi2 rfl (by decide) v2 1 (([o.a]:List Int).map zN) rfl H1.out.2.2.2 _ o.args.length (o.args.map zN) rfl HSRC.out (by have:=HIN.out.2.2;unfold maxLen;omega) (by have:=HIN.out.2.2;omega) H1.out.1.size ?_;intro v9 w9 hown hgrow hat))
 go_ret
 refine⟨v9,rfl,?_,yP H1.out.1 hgrow H1.out.1.size (wF H1.out.2.2.2)⟩
 rw[<-List.map_append] at hown
 exact uA hown (by simp<;>omega) H64.out
theorem uses_11 {w:World}(o:IOp)(ho:I64 o.code/\I64 o.res/\I64 o.a/\I64 o.b/\o.n<65536){av:Value}{B:Nat}(hB:B<=w.heap.size)(hin:zY w B av o.args)(hlen:o.args.length<=1000000000000)(hfa:(zi o.code).a=true)(hfb:(zi o.code).b=true):
 Calls Try.prog 70 #[.agg #[.int .i64 o.code,.int .i64 o.res,.int .i64 o.a,.int .i64 o.b,.int .u16 (o.n:Int),av]] w (wG w ([o.a,o.b]++o.args)):=by
 obtain⟨aa,ac,rfl,hac,ham⟩:=hin.form
 obtain⟨ii,hii,hzi0,hzi1,hzi2⟩:=info_parts Try.info_int
 obtain⟨q1,q2,q3,hf⟩:∃q1 q2 q3,∀W,Calls Try.prog 105 #[.int .i64 o.code] W fun e w'=>e=.returned (.tuple #[.agg #[.bool q1,.bool true,.bool true,.bool q2],.bool q3])/\Below W.heap.size W w':=
  ⟨(zi o.code).res,(zi o.code).n,(zi o.code).is,fun W=>by have:=yu o.code W;unfold yX nL at this;rw[hfa,hfb] at this;exact this⟩
 have HF:=Lib.hid hf
 have HIN:=Lib.hid (show zY w B (.slice aa o.args.length ac) o.args/\B<=w.heap.size/\o.args.length<=1000000000000 from⟨hin,hB,hlen⟩)
 have HO:=Lib.hid ho
 have ho64:∀x∈ [o.a,o.b]++o.args,I64 x:=by
  intro x hx
  rcases List.mem_append.1 hx with hx|hx
  ·simp at hx;rcases hx with rfl|rfl;exact ho.2.2.1;exact ho.2.2.2.1
  ·exact zY.all hin x hx
 have H64:=Lib.hid ho64
 have hx0:(w.alloc (.cells #[.int .i64 o.code,.int .i64 o.res,.int .i64 o.a,.int .i64 o.b,.int .u16 (o.n:Int),.slice aa o.args.length ac] 77)).heap[w.heap.size]? =some (.cells #[.int .i64 o.code,.int .i64 o.res,.int .i64 o.a,.int .i64 o.b,.int .u16 (o.n:Int),.slice aa o.args.length ac] 77 (0,0)):=zI rfl
 have hb0:Below w.heap.size w (w.alloc (.cells #[.int .i64 o.code,.int .i64 o.res,.int .i64 o.a,.int .i64 o.b,.int .u16 (o.n:Int),.slice aa o.args.length ac] 77)):=(Below.refl _ _).alloc (Nat.le_refl _) _
 have HX0:=Lib.hid (And.intro hx0 hb0)
 clear hf hin hB hlen ho ho64 hx0 hb0 hac ham hfa hfb
 go_enter Try.func70,Try.ntmps70
 go_upto_region 2 with(first|(go_at_call 105;go_must (refine(HF.out _).mono ?_;rintro e w1 ⟨rfl,hb1⟩))|go_in)
 have hb:=(HX0.out.2.trans (hb1.mono HX0.out.2.size)).alloc (by have:=HX0.out.2.size;have:=hb1.size;omega) (.cells #[.bool q1,.bool true,.bool true,.bool q2] 170)
 have hx1:=zB (o:=.cells #[.bool q1,.bool true,.bool true,.bool q2] 170) (zH hb1 HX0.out.1 (lt_of_block HX0.out.1))
 have hy1:(w1.alloc (.cells #[.bool q1,.bool true,.bool true,.bool q2] 170)).heap[w1.heap.size]? =some (.cells #[.bool q1,.bool true,.bool true,.bool q2] 170 (0,0)):=zI rfl
 generalize hW1:w1.alloc (.cells #[.bool q1,.bool true,.bool true,.bool q2] 170)=W1 at *
 generalize hc1:w1.heap.size=c1 at *
 have own0:W1.ownsRow w.heap.size 3 1 (.slice none 0 0) 0 []:=World.ownsRow_nil W1 _ _ _
 have H0:=Lib.hid (show Below w.heap.size w W1/\W1.heap[w.heap.size]? =some (.cells #[.int .i64 o.code,.int .i64 o.res,.int .i64 o.a,.int .i64 o.b,.int .u16 (o.n:Int),.slice aa o.args.length ac] 77 (0,0))/\W1.heap[c1]? =some (.cells #[.bool q1,.bool true,.bool true,.bool q2] 170 (0,0))/\W1.ownsRow w.heap.size 3 1 (.slice none 0 0) 0 [] from⟨hb,hx1,hy1,own0⟩)
 clear hW1 hc1 hb1 hb hx1 hy1 own0
 have x2:W1.cell? ⟨w.heap.size,2,none⟩=some (.int .i64 o.a):=zA H0.out.2.1 (by simp)
 have x3:W1.cell? ⟨w.heap.size,3,none⟩=some (.int .i64 o.b):=zA H0.out.2.1 (by simp)
 have x5:W1.cell? ⟨w.heap.size,5,none⟩=some (.slice aa o.args.length ac):=zA H0.out.2.1 (by simp)
 have f1:W1.cell? ⟨c1,1,none⟩=some (.bool true):=zA H0.out.2.2.1 (by simp)
 have f2:W1.cell? ⟨c1,2,none⟩=some (.bool true):=zA H0.out.2.2.1 (by simp)
 go_upto_region 5 with(at_builtin;go_must (refine zK _ rfl (.tmp 14) (.tmp 17) 22 rfl w.heap.size 3 ii (.int .i64 0) 1 8 Try.underlying22 hii hzi0 hzi1 hzi2 rfl (by decide) (.slice none 0 0) 0 (([]:List Int).map zN) rfl (H0.out.2.2.2.alloc _) _ 1 [.int .i64 o.a] rfl (yM.one (zI (by simp)) (by simp[Value.oneCell'])) (by decide) (by decide) (by have:=H0.out.1.size;simp;omega) ?_;intro v2 W2 hown hgrow hat))
 have hbx:Below w.heap.size w W2:=yP (H0.out.1.alloc H0.out.1.size _) hgrow (by have:=H0.out.1.size;simp;omega) (wF H0.out.2.2.2)
 have hxx:=zL hgrow (zB H0.out.2.1) (zC H0.out.2.2.2 H0.out.2.1 (.inr (by decide)))
 have hyy:=zL hgrow (zB H0.out.2.2.1) (zC H0.out.2.2.2 H0.out.2.2.1 (.inr (by decide)))
 have H1:=Lib.hid (show Below w.heap.size w W2/\W2.heap[w.heap.size]? =some (.cells #[.int .i64 o.code,.int .i64 o.res,.int .i64 o.a,.int .i64 o.b,.int .u16 (o.n:Int),.slice aa o.args.length ac] 77 (0,0))/\W2.heap[c1]? =some (.cells #[.bool q1,.bool true,.bool true,.bool q2] 170 (0,0))/\W2.ownsRow w.heap.size 3 1 v2 1 (([o.a]:List Int).map zN) from⟨hbx,hxx,hyy,hown⟩)
 clear x2 x3 x5 f1 f2 hbx hxx hyy hown hgrow hat
 have x2:W2.cell? ⟨w.heap.size,2,none⟩=some (.int .i64 o.a):=zA H1.out.2.1 (by simp)
 have x3:W2.cell? ⟨w.heap.size,3,none⟩=some (.int .i64 o.b):=zA H1.out.2.1 (by simp)
 have x5:W2.cell? ⟨w.heap.size,5,none⟩=some (.slice aa o.args.length ac):=zA H1.out.2.1 (by simp)
 have f1:W2.cell? ⟨c1,1,none⟩=some (.bool true):=zA H1.out.2.2.1 (by simp)
 have f2:W2.cell? ⟨c1,2,none⟩=some (.bool true):=zA H1.out.2.2.1 (by simp)
 go_upto_region 7 with(at_builtin;go_must (refine zK _ rfl (.tmp 21) (.tmp 24) 22 rfl w.heap.size 3 ii (.int .i64 0) 1 8 Try.underlying22 hii hzi0 hzi1 hzi2 rfl (by decide) v2 1 (([o.a]:List Int).map zN) rfl (H1.out.2.2.2.alloc _) _ 1 [.int .i64 o.b] rfl (yM.one (zI (by simp)) (by simp[Value.oneCell'])) (by decide) (by decide) (by have:=H1.out.1.size;simp;omega) ?_;intro v3 W3 hown hgrow hat))
 have hbx:Below w.heap.size w W3:=yP (H1.out.1.alloc H1.out.1.size _) hgrow (by have:=H1.out.1.size;simp;omega) (wF H1.out.2.2.2)
 have hxx:=zL hgrow (zB H1.out.2.1) (zC H1.out.2.2.2 H1.out.2.1 (.inr (by decide)))
 have hyy:=zL hgrow (zB H1.out.2.2.1) (zC H1.out.2.2.2 H1.out.2.2.1 (.inr (by decide)))
 have H2:=Lib.hid (show Below w.heap.size w W3/\W3.heap[w.heap.size]? =some (.cells #[.int .i64 o.code,.int .i64 o.res,.int .i64 o.a,.int .i64 o.b,.int .u16 (o.n:Int),.slice aa o.args.length ac] 77 (0,0))/\W3.heap[c1]? =some (.cells #[.bool q1,.bool true,.bool true,.bool q2] 170 (0,0))/\W3.ownsRow w.heap.size 3 1 v3 2 (([o.a,o.b]:List Int).map zN) from⟨hbx,hxx,hyy,hown⟩)
 clear x2 x3 x5 f1 f2 hbx hxx hyy hown hgrow hat
 have x2:W3.cell? ⟨w.heap.size,2,none⟩=some (.int .i64 o.a):=zA H2.out.2.1 (by simp)
 have x3:W3.cell? ⟨w.heap.size,3,none⟩=some (.int .i64 o.b):=zA H2.out.2.1 (by simp)
 have x5:W3.cell? ⟨w.heap.size,5,none⟩=some (.slice aa o.args.length ac):=zA H2.out.2.1 (by simp)
 have f1:W3.cell? ⟨c1,1,none⟩=some (.bool true):=zA H2.out.2.2.1 (by simp)
 have f2:W3.cell? ⟨c1,2,none⟩=some (.bool true):=zA H2.out.2.2.1 (by simp)
 have hsrc:=zY.src (HIN.out.1.below zO (H2.out.1.mono HIN.out.2.1))
 have HSRC:=Lib.hid hsrc
 clear hsrc
 go_wp2_with (at_builtin;go_must (refine zK _ rfl (.tmp 26) (.tmp 28) 22 rfl w.heap.size 3 ii (.int .i64 0) 1 8 Try.underlying22 hii hzi0 hzi1 hzi2 rfl (by decide) v3 2 (([o.a,o.b]:List Int).map zN) rfl H2.out.2.2.2 _ o.args.length (o.args.map zN) rfl HSRC.out (by have:=HIN.out.2.2;unfold maxLen;omega) (by have:=HIN.out.2.2;omega) H2.out.1.size ?_;intro v9 w9 hown hgrow hat))
 go_ret
 refine⟨v9,rfl,?_,yP H2.out.1 hgrow H2.out.1.size (wF H2.out.2.2.2)⟩
 rw[<-List.map_append] at hown
 exact uA hown (by simp<;>omega) H64.out
theorem uses_any {w:World}(o:IOp)(ho:I64 o.code/\I64 o.res/\I64 o.a/\I64 o.b/\o.n<65536){av:Value}{B:Nat}(hB:B<=w.heap.size)(hin:zY w B av o.args)(hlen:o.args.length<=1000000000000):
 Calls Try.prog 70 #[.agg #[.int .i64 o.code,.int .i64 o.res,.int .i64 o.a,.int .i64 o.b,.int .u16 (o.n:Int),av]] w (wG w (rR o)):=by
 unfold rR
 cases hfa:(zi o.code).a<;>cases hfb:(zi o.code).b
 ·exact uses_00 o ho hB hin hlen hfa hfb
 ·exact uses_01 o ho hB hin hlen hfa hfb
 ·exact uses_10 o ho hB hin hlen hfa hfb
 ·exact uses_11 o ho hB hin hlen hfa hfb
end Go.Proofs.Ytojclalkfhoooaa
