/- Part of a proof. -/
import Derived.Test.YtojclalkfhoooaaGApp
set_option linter.unusedSimpArgs false
set_option linter.unusedVariables false
set_option maxRecDepth 100000
namespace Go.Proofs.Ytojclalkfhoooaa
open Go.RowKit
structure Flds where
 is:Bool
 res:Bool
 a:Bool
 b:Bool
 n:Bool
def zi (c:Int):Flds:=
 if c=1∨c=2∨c=24 then⟨true,true,false,false,true⟩
 else if c=3∨c=4∨c=18∨c=19 then⟨true,true,true,false,false⟩
 else if 5<=c/\c<=17 then⟨true,true,true,true,false⟩
 else if c=20∨c=21 then⟨true,false,true,true,false⟩
 else if c=22∨c=23 then⟨true,true,true,false,true⟩
 else if c=25 then⟨true,false,true,false,true⟩
 else if c=26∨c=27 then⟨true,false,false,false,false⟩
 else⟨false,false,false,false,false⟩
theorem rJ (c:Int):
 ((c=1∨c=2∨c=24)/\zi c=⟨true,true,false,false,true⟩)∨((c=3∨c=4∨c=18∨c=19)/\zi c=⟨true,true,true,false,false⟩)∨((5<=c/\c<=17)/\zi c=⟨true,true,true,true,false⟩)∨((c=20∨c=21)/\zi c=⟨true,false,true,true,false⟩)∨
 ((c=22∨c=23)/\zi c=⟨true,true,true,false,true⟩)∨(c=25/\zi c=⟨true,false,true,false,true⟩)∨((c=26∨c=27)/\zi c=⟨true,false,false,false,false⟩)∨((c<1∨27<c)/\zi c=⟨false,false,false,false,false⟩):=by
 unfold zi
 by_cases h1:c=1∨c=2∨c=24
 ·exact .inl ⟨h1,if_pos h1⟩
 rw[if_neg h1]
 by_cases h2:c=3∨c=4∨c=18∨c=19
 ·exact .inr (.inl ⟨h2,if_pos h2⟩)
 rw[if_neg h2]
 by_cases h3:5<=c/\c<=17
 ·exact .inr (.inr (.inl ⟨h3,if_pos h3⟩))
 rw[if_neg h3]
 by_cases h4:c=20∨c=21
 ·exact .inr (.inr (.inr (.inl ⟨h4,if_pos h4⟩)))
 rw[if_neg h4]
 by_cases h5:c=22∨c=23
 ·exact .inr (.inr (.inr (.inr (.inl ⟨h5,if_pos h5⟩))))
 rw[if_neg h5]
 by_cases h6:c=25
 ·exact .inr (.inr (.inr (.inr (.inr (.inl ⟨h6,if_pos h6⟩)))))
 rw[if_neg h6]
 by_cases h7:c=26∨c=27
 ·exact .inr (.inr (.inr (.inr (.inr (.inr (.inl ⟨h7,if_pos h7⟩))))))
 rw[if_neg h7]
 exact .inr (.inr (.inr (.inr (.inr (.inr (.inr ⟨by omega,rfl⟩))))))
def nL (f:Flds):Value:=.tuple #[.agg #[.bool f.res,.bool f.a,.bool f.b,.bool f.n],.bool f.is]
def yX (w:World)(f:Flds)(e:Ending)(w':World):Prop:=e=.returned (nL f)/\Below w.heap.size w w'
theorem flds_1 (w:World):Calls Try.prog 105 #[.int .i64 1] w (yX w ⟨true,true,false,false,true⟩):=by
 go_enter Try.func105,Try.ntmps105
 go_wp2
 exact bodyPost_ret (v:=.tuple #[.agg #[.bool true,.bool false,.bool false,.bool true],.bool true]) (by simp[results,Try.results105,go_sem]) rfl ⟨rfl,by repeat' (first|exact Below.refl _ _|(refine Below.alloc ?_ (by simp) _)|(refine Below.setCell ?_ (by simp) _))⟩
theorem flds_2 (w:World):Calls Try.prog 105 #[.int .i64 2] w (yX w ⟨true,true,false,false,true⟩):=by
 go_enter Try.func105,Try.ntmps105
 go_wp2
 exact bodyPost_ret (v:=.tuple #[.agg #[.bool true,.bool false,.bool false,.bool true],.bool true]) (by simp[results,Try.results105,go_sem]) rfl ⟨rfl,by repeat' (first|exact Below.refl _ _|(refine Below.alloc ?_ (by simp) _)|(refine Below.setCell ?_ (by simp) _))⟩
theorem flds_3 (w:World):Calls Try.prog 105 #[.int .i64 3] w (yX w ⟨true,true,true,false,false⟩):=by
 go_enter Try.func105,Try.ntmps105
 go_wp2
 exact bodyPost_ret (v:=.tuple #[.agg #[.bool true,.bool true,.bool false,.bool false],.bool true]) (by simp[results,Try.results105,go_sem]) rfl ⟨rfl,by repeat' (first|exact Below.refl _ _|(refine Below.alloc ?_ (by simp) _)|(refine Below.setCell ?_ (by simp) _))⟩
theorem flds_4 (w:World):Calls Try.prog 105 #[.int .i64 4] w (yX w ⟨true,true,true,false,false⟩):=by
 go_enter Try.func105,Try.ntmps105
 go_wp2
 exact bodyPost_ret (v:=.tuple #[.agg #[.bool true,.bool true,.bool false,.bool false],.bool true]) (by simp[results,Try.results105,go_sem]) rfl ⟨rfl,by repeat' (first|exact Below.refl _ _|(refine Below.alloc ?_ (by simp) _)|(refine Below.setCell ?_ (by simp) _))⟩
theorem flds_18 (w:World):Calls Try.prog 105 #[.int .i64 18] w (yX w ⟨true,true,true,false,false⟩):=by
 go_enter Try.func105,Try.ntmps105
 go_wp2
 exact bodyPost_ret (v:=.tuple #[.agg #[.bool true,.bool true,.bool false,.bool false],.bool true]) (by simp[results,Try.results105,go_sem]) rfl ⟨rfl,by repeat' (first|exact Below.refl _ _|(refine Below.alloc ?_ (by simp) _)|(refine Below.setCell ?_ (by simp) _))⟩
theorem flds_19 (w:World):Calls Try.prog 105 #[.int .i64 19] w (yX w ⟨true,true,true,false,false⟩):=by
 go_enter Try.func105,Try.ntmps105
 go_wp2
 exact bodyPost_ret (v:=.tuple #[.agg #[.bool true,.bool true,.bool false,.bool false],.bool true]) (by simp[results,Try.results105,go_sem]) rfl ⟨rfl,by repeat' (first|exact Below.refl _ _|(refine Below.alloc ?_ (by simp) _)|(refine Below.setCell ?_ (by simp) _))⟩
theorem flds_20 (w:World):Calls Try.prog 105 #[.int .i64 20] w (yX w ⟨true,false,true,true,false⟩):=by
 go_enter Try.func105,Try.ntmps105
 go_wp2
 exact bodyPost_ret (v:=.tuple #[.agg #[.bool false,.bool true,.bool true,.bool false],.bool true]) (by simp[results,Try.results105,go_sem]) rfl ⟨rfl,by repeat' (first|exact Below.refl _ _|(refine Below.alloc ?_ (by simp) _)|(refine Below.setCell ?_ (by simp) _))⟩
theorem flds_21 (w:World):Calls Try.prog 105 #[.int .i64 21] w (yX w ⟨true,false,true,true,false⟩):=by
 go_enter Try.func105,Try.ntmps105
 go_wp2
 exact bodyPost_ret (v:=.tuple #[.agg #[.bool false,.bool true,.bool true,.bool false],.bool true]) (by simp[results,Try.results105,go_sem]) rfl ⟨rfl,by repeat' (first|exact Below.refl _ _|(refine Below.alloc ?_ (by simp) _)|(refine Below.setCell ?_ (by simp) _))⟩
theorem flds_22 (w:World):Calls Try.prog 105 #[.int .i64 22] w (yX w ⟨true,true,true,false,true⟩):=by
 go_enter Try.func105,Try.ntmps105
 go_wp2
 exact bodyPost_ret (v:=.tuple #[.agg #[.bool true,.bool true,.bool false,.bool true],.bool true]) (by simp[results,Try.results105,go_sem]) rfl ⟨rfl,by repeat' (first|exact Below.refl _ _|(refine Below.alloc ?_ (by simp) _)|(refine Below.setCell ?_ (by simp) _))⟩
theorem flds_23 (w:World):Calls Try.prog 105 #[.int .i64 23] w (yX w ⟨true,true,true,false,true⟩):=by
 go_enter Try.func105,Try.ntmps105
 go_wp2
 exact bodyPost_ret (v:=.tuple #[.agg #[.bool true,.bool true,.bool false,.bool true],.bool true]) (by simp[results,Try.results105,go_sem]) rfl ⟨rfl,by repeat' (first|exact Below.refl _ _|(refine Below.alloc ?_ (by simp) _)|(refine Below.setCell ?_ (by simp) _))⟩
theorem flds_24 (w:World):Calls Try.prog 105 #[.int .i64 24] w (yX w ⟨true,true,false,false,true⟩):=by
 go_enter Try.func105,Try.ntmps105
 go_wp2
 exact bodyPost_ret (v:=.tuple #[.agg #[.bool true,.bool false,.bool false,.bool true],.bool true]) (by simp[results,Try.results105,go_sem]) rfl ⟨rfl,by repeat' (first|exact Below.refl _ _|(refine Below.alloc ?_ (by simp) _)|(refine Below.setCell ?_ (by simp) _))⟩
theorem flds_25 (w:World):Calls Try.prog 105 #[.int .i64 25] w (yX w ⟨true,false,true,false,true⟩):=by
 go_enter Try.func105,Try.ntmps105
 go_wp2
 exact bodyPost_ret (v:=.tuple #[.agg #[.bool false,.bool true,.bool false,.bool true],.bool true]) (by simp[results,Try.results105,go_sem]) rfl ⟨rfl,by repeat' (first|exact Below.refl _ _|(refine Below.alloc ?_ (by simp) _)|(refine Below.setCell ?_ (by simp) _))⟩
theorem flds_26 (w:World):Calls Try.prog 105 #[.int .i64 26] w (yX w ⟨true,false,false,false,false⟩):=by
 go_enter Try.func105,Try.ntmps105
 go_wp2
 exact bodyPost_ret (v:=.tuple #[.agg #[.bool false,.bool false,.bool false,.bool false],.bool true]) (by simp[results,Try.results105,go_sem]) rfl ⟨rfl,by repeat' (first|exact Below.refl _ _|(refine Below.alloc ?_ (by simp) _)|(refine Below.setCell ?_ (by simp) _))⟩
theorem flds_27 (w:World):Calls Try.prog 105 #[.int .i64 27] w (yX w ⟨true,false,false,false,false⟩):=by
 go_enter Try.func105,Try.ntmps105
 go_wp2
 exact bodyPost_ret (v:=.tuple #[.agg #[.bool false,.bool false,.bool false,.bool false],.bool true]) (by simp[results,Try.results105,go_sem]) rfl ⟨rfl,by repeat' (first|exact Below.refl _ _|(refine Below.alloc ?_ (by simp) _)|(refine Below.setCell ?_ (by simp) _))⟩
theorem flds_mid (c:Int)(h:5<=c/\c<=17)(w:World):Calls Try.prog 105 #[.int .i64 c] w (yX w ⟨true,true,true,true,false⟩):=by
 have t1:((c:Int)==1)=false:=by rw[beq_eq_false_iff_ne];omega
 have t2:((c:Int)==2)=false:=by rw[beq_eq_false_iff_ne];omega
 have t3:((c:Int)==3)=false:=by rw[beq_eq_false_iff_ne];omega
 have t4:((c:Int)==4)=false:=by rw[beq_eq_false_iff_ne];omega
 have t18:((c:Int)==18)=false:=by rw[beq_eq_false_iff_ne];omega
 have t19:((c:Int)==19)=false:=by rw[beq_eq_false_iff_ne];omega
 have d1:decide (5<=c)=true:=by rw[decide_eq_true_eq];omega
 have d2:decide (c<=17)=true:=by rw[decide_eq_true_eq];omega
 clear h
 go_enter Try.func105,Try.ntmps105
 go_wp2
 exact bodyPost_ret (v:=.tuple #[.agg #[.bool true,.bool true,.bool true,.bool false],.bool true]) (by simp[results,Try.results105,go_sem]) rfl ⟨rfl,by repeat' (first|exact Below.refl _ _|(refine Below.alloc ?_ (by simp) _)|(refine Below.setCell ?_ (by simp) _))⟩
theorem flds_low (c:Int)(h:c<1)(w:World):Calls Try.prog 105 #[.int .i64 c] w (yX w ⟨false,false,false,false,false⟩):=by
 have t1:((c:Int)==1)=false:=by rw[beq_eq_false_iff_ne];omega
 have t2:((c:Int)==2)=false:=by rw[beq_eq_false_iff_ne];omega
 have t3:((c:Int)==3)=false:=by rw[beq_eq_false_iff_ne];omega
 have t4:((c:Int)==4)=false:=by rw[beq_eq_false_iff_ne];omega
 have t18:((c:Int)==18)=false:=by rw[beq_eq_false_iff_ne];omega
 have t19:((c:Int)==19)=false:=by rw[beq_eq_false_iff_ne];omega
 have t20:((c:Int)==20)=false:=by rw[beq_eq_false_iff_ne];omega
 have t21:((c:Int)==21)=false:=by rw[beq_eq_false_iff_ne];omega
 have t22:((c:Int)==22)=false:=by rw[beq_eq_false_iff_ne];omega
 have t23:((c:Int)==23)=false:=by rw[beq_eq_false_iff_ne];omega
 have t24:((c:Int)==24)=false:=by rw[beq_eq_false_iff_ne];omega
 have t25:((c:Int)==25)=false:=by rw[beq_eq_false_iff_ne];omega
 have t26:((c:Int)==26)=false:=by rw[beq_eq_false_iff_ne];omega
 have t27:((c:Int)==27)=false:=by rw[beq_eq_false_iff_ne];omega
 have d1:decide (5<=c)=false:=by rw[decide_eq_false_iff_not];omega
 clear h
 go_enter Try.func105,Try.ntmps105
 go_wp2
 exact bodyPost_ret (v:=.tuple #[.agg #[.bool false,.bool false,.bool false,.bool false],.bool false]) (by simp[results,Try.results105,go_sem]) rfl ⟨rfl,by repeat' (first|exact Below.refl _ _|(refine Below.alloc ?_ (by simp) _)|(refine Below.setCell ?_ (by simp) _))⟩
theorem iU (c:Int)(h:27<c)(w:World):Calls Try.prog 105 #[.int .i64 c] w (yX w ⟨false,false,false,false,false⟩):=by
 have t1:((c:Int)==1)=false:=by rw[beq_eq_false_iff_ne];omega
 have t2:((c:Int)==2)=false:=by rw[beq_eq_false_iff_ne];omega
 have t3:((c:Int)==3)=false:=by rw[beq_eq_false_iff_ne];omega
 have t4:((c:Int)==4)=false:=by rw[beq_eq_false_iff_ne];omega
 have t18:((c:Int)==18)=false:=by rw[beq_eq_false_iff_ne];omega
 have t19:((c:Int)==19)=false:=by rw[beq_eq_false_iff_ne];omega
 have t20:((c:Int)==20)=false:=by rw[beq_eq_false_iff_ne];omega
 have t21:((c:Int)==21)=false:=by rw[beq_eq_false_iff_ne];omega
 have t22:((c:Int)==22)=false:=by rw[beq_eq_false_iff_ne];omega
 have t23:((c:Int)==23)=false:=by rw[beq_eq_false_iff_ne];omega
 have t24:((c:Int)==24)=false:=by rw[beq_eq_false_iff_ne];omega
 have t25:((c:Int)==25)=false:=by rw[beq_eq_false_iff_ne];omega
 have t26:((c:Int)==26)=false:=by rw[beq_eq_false_iff_ne];omega
 have t27:((c:Int)==27)=false:=by rw[beq_eq_false_iff_ne];omega
 have d1:decide (5<=c)=true:=by rw[decide_eq_true_eq];omega
 have d2:decide (c<=17)=false:=by rw[decide_eq_false_iff_not];omega
 clear h
 go_enter Try.func105,Try.ntmps105
 go_wp2
 exact bodyPost_ret (v:=.tuple #[.agg #[.bool false,.bool false,.bool false,.bool false],.bool false]) (by simp[results,Try.results105,go_sem]) rfl ⟨rfl,by repeat' (first|exact Below.refl _ _|(refine Below.alloc ?_ (by simp) _)|(refine Below.setCell ?_ (by simp) _))⟩
theorem yu (c:Int)(w:World):Calls Try.prog 105 #[.int .i64 c] w (yX w (zi c)):=by
 rcases rJ c with⟨h,e⟩|⟨h,e⟩|⟨h,e⟩|⟨h,e⟩|⟨h,e⟩|⟨h,e⟩|⟨h,e⟩|⟨h,e⟩<;>rw[e]
 ·rcases h with rfl|rfl|rfl
  ·exact flds_1 w
  ·exact flds_2 w
  ·exact flds_24 w
 ·rcases h with rfl|rfl|rfl|rfl
  ·exact flds_3 w
  ·exact flds_4 w
  ·exact flds_18 w
  ·exact flds_19 w
 ·exact flds_mid c h w
 ·rcases h with rfl|rfl
  ·exact flds_20 w
  ·exact flds_21 w
 ·rcases h with rfl|rfl
  ·exact flds_22 w
  ·exact flds_23 w
 ·subst h;exact flds_25 w
 ·rcases h with rfl|rfl
  ·exact flds_26 w
  ·exact flds_27 w
 ·rcases h with h|h
  ·exact flds_low c h w
  ·exact iU c h w
end Go.Proofs.Ytojclalkfhoooaa
