/- Part of a proof. -/
import Derived.Test.YtojclalkfhoooaaGMkN
set_option linter.unusedSimpArgs false
set_option linter.unusedVariables false
set_option maxHeartbeats 4000000
set_option maxRecDepth 100000
namespace Go.Proofs.Ytojclalkfhoooaa
open Go.RowKit
theorem mkOp_0 {E:ME}{M:MS}(h:tkV E M 14=0):xK E M=M.tick.tick.num (tkV E M.tick 65536):=by
 unfold xK
 simp only[h]
 rfl
theorem op_0 {w:World}{K:MKC}{X:Nat->Prop}{M:MS}(h:wW w K X M)(hcur:M.cur<M.f.length)(hz:M.sz+20<=1000000)(hk:tkV K.E M 14=0):
 Calls Try.prog 91 #[.pointer (some ⟨K.pm,0,none⟩)] w (yk K X w (xK K.E M) (.tuple #[])):=by
 have HE:=Lib.hid h.alt
 have HT0:=Lib.hid (OpSt.start h hcur)
 have HB:=Lib.hid (And.intro hz hk)
 clear h hcur hz hk
 go_enter Try.func91,Try.ntmps91
 go_wp2_with (first
  |(go_at_call 59;refine(HT0.out.takeK 14 0 0 rfl HB.out.2 (by decide) (by decide) (by have:=HB.out.1;omega)).mono ?_;clear HT0;rintro e w1 ⟨rfl,hm1⟩)
  |(go_at_call 59;refine(hm1.out.take 65536 (by decide) (by decide) (by have:=HB.out.1;omega)).mono ?_;clear hm1;rintro e w2 ⟨z,qz,Hz,rfl,hm2⟩)
  |(go_at_call 94;refine(hm2.out.num z (by omega) (by have:=HB.out.1;omega)).mono ?_;clear hm2;rintro e w3 ⟨rfl,hm3⟩))
 first|go_end0|refine bodyPost_ret (results_none rfl _ _ _) rfl ?_
 rw[mkOp_0 HB.out.2]
 try rw[Hz.out]
 exact hm3.out.ret
theorem mkOp_1 {E:ME}{M:MS}(h:tkV E M 14=1):xK E M=(zJ E M.tick.tick).2.emit ⟨3+tkV E M.tick 2,0,(zJ E M.tick.tick).1,0,0,[]⟩:=by
 unfold xK
 simp only[h]
 rfl
theorem op_1 {w:World}{K:MKC}{X:Nat->Prop}{M:MS}(h:wW w K X M)(hcur:M.cur<M.f.length)(hz:M.sz+20<=1000000)(hk:tkV K.E M 14=1):
 Calls Try.prog 91 #[.pointer (some ⟨K.pm,0,none⟩)] w (yk K X w (xK K.E M) (.tuple #[])):=by
 have HE:=Lib.hid h.alt
 have HT0:=Lib.hid (OpSt.start h hcur)
 have HB:=Lib.hid (And.intro hz hk)
 clear h hcur hz hk
 go_enter Try.func91,Try.ntmps91
 go_wp2_with (first
  |(go_at_call 59;refine(HT0.out.takeK 14 1 1 rfl HB.out.2 (by decide) (by decide) (by have:=HB.out.1;omega)).mono ?_;clear HT0;rintro e w1 ⟨rfl,hm1⟩)
  |(go_at_call 59;refine(hm1.out.take 2 (by decide) (by decide) (by have:=HB.out.1;omega)).mono ?_;clear hm1;rintro e w2 ⟨z,qz,Hz,rfl,hm2⟩)
  |(go_at_call 62;refine(hm2.out.any (by have:=HB.out.1;omega)).mono ?_;clear hm2;rintro e w3 ⟨x,Hx,rfl,hm3⟩)
  |(go_at_call 117;refine(hm3.out.emit (3+(z:Int)) x 0 0 (vG _ (by omega) (by omega)) (Hx.out.1) (yF _ rfl) (by decide) (by have:=HB.out.1;omega)).mono ?_;clear hm3;rintro e w4 ⟨rfl,hm4⟩))
 first|go_end0|refine bodyPost_ret (results_none rfl _ _ _) rfl ?_
 rw[mkOp_1 HB.out.2]
 try rw[Hz.out]
 try rw[Hx.out.2]
 exact hm4.out.ret
theorem mkOp_2 {E:ME}{M:MS}(h:tkV E M 14=2):xK E M=(yJ E M.tick).2.tick.emit ⟨18+tkV E (yJ E M.tick).2 2,0,(yJ E M.tick).1,0,0,[]⟩:=by
 unfold xK
 simp only[h]
 rfl
theorem op_2 {w:World}{K:MKC}{X:Nat->Prop}{M:MS}(h:wW w K X M)(hcur:M.cur<M.f.length)(hz:M.sz+20<=1000000)(hk:tkV K.E M 14=2):
 Calls Try.prog 91 #[.pointer (some ⟨K.pm,0,none⟩)] w (yk K X w (xK K.E M) (.tuple #[])):=by
 have HE:=Lib.hid h.alt
 have HT0:=Lib.hid (OpSt.start h hcur)
 have HB:=Lib.hid (And.intro hz hk)
 clear h hcur hz hk
 go_enter Try.func91,Try.ntmps91
 go_wp2_with (first
  |(go_at_call 59;refine(HT0.out.takeK 14 2 2 rfl HB.out.2 (by decide) (by decide) (by have:=HB.out.1;omega)).mono ?_;clear HT0;rintro e w1 ⟨rfl,hm1⟩)
  |(go_at_call 118;refine(hm1.out.addr (by have:=HB.out.1;omega)).mono ?_;clear hm1;rintro e w2 ⟨x,Hx,rfl,hm2⟩)
  |(go_at_call 59;refine(hm2.out.take 2 (by decide) (by decide) (by have:=HB.out.1;omega)).mono ?_;clear hm2;rintro e w3 ⟨z,qz,Hz,rfl,hm3⟩)
  |(go_at_call 117;refine(hm3.out.emit (18+(z:Int)) x 0 0 (vG _ (by omega) (by omega)) (Hx.out.1) (yF _ rfl) (by decide) (by have:=HB.out.1;omega)).mono ?_;clear hm3;rintro e w4 ⟨rfl,hm4⟩))
 first|go_end0|refine bodyPost_ret (results_none rfl _ _ _) rfl ?_
 rw[mkOp_2 HB.out.2]
 try rw[Hx.out.2]
 try rw[Hz.out]
 exact hm4.out.ret
theorem mkOp_3 {E:ME}{M:MS}(h:tkV E M 14=3):xK E M=(yJ E M.tick).2.tick.emit ⟨18+tkV E (yJ E M.tick).2 2,0,(yJ E M.tick).1,0,0,[]⟩:=by
 unfold xK
 simp only[h]
 rfl
theorem op_3 {w:World}{K:MKC}{X:Nat->Prop}{M:MS}(h:wW w K X M)(hcur:M.cur<M.f.length)(hz:M.sz+20<=1000000)(hk:tkV K.E M 14=3):
 Calls Try.prog 91 #[.pointer (some ⟨K.pm,0,none⟩)] w (yk K X w (xK K.E M) (.tuple #[])):=by
 have HE:=Lib.hid h.alt
 have HT0:=Lib.hid (OpSt.start h hcur)
 have HB:=Lib.hid (And.intro hz hk)
 clear h hcur hz hk
 go_enter Try.func91,Try.ntmps91
 go_wp2_with (first
  |(go_at_call 59;refine(HT0.out.takeK 14 3 3 rfl HB.out.2 (by decide) (by decide) (by have:=HB.out.1;omega)).mono ?_;clear HT0;rintro e w1 ⟨rfl,hm1⟩)
  |(go_at_call 118;refine(hm1.out.addr (by have:=HB.out.1;omega)).mono ?_;clear hm1;rintro e w2 ⟨x,Hx,rfl,hm2⟩)
  |(go_at_call 59;refine(hm2.out.take 2 (by decide) (by decide) (by have:=HB.out.1;omega)).mono ?_;clear hm2;rintro e w3 ⟨z,qz,Hz,rfl,hm3⟩)
  |(go_at_call 117;refine(hm3.out.emit (18+(z:Int)) x 0 0 (vG _ (by omega) (by omega)) (Hx.out.1) (yF _ rfl) (by decide) (by have:=HB.out.1;omega)).mono ?_;clear hm3;rintro e w4 ⟨rfl,hm4⟩))
 first|go_end0|refine bodyPost_ret (results_none rfl _ _ _) rfl ?_
 rw[mkOp_3 HB.out.2]
 try rw[Hx.out.2]
 try rw[Hz.out]
 exact hm4.out.ret
theorem mkOp_4 {E:ME}{M:MS}(h:tkV E M 14=4):xK E M=(zJ E (yJ E M.tick).2).2.tick.emit ⟨20+tkV E (zJ E (yJ E M.tick).2).2 2,0,(yJ E M.tick).1,(zJ E (yJ E M.tick).2).1,0,[]⟩:=by
 unfold xK
 simp only[h]
 rfl
theorem op_4 {w:World}{K:MKC}{X:Nat->Prop}{M:MS}(h:wW w K X M)(hcur:M.cur<M.f.length)(hz:M.sz+20<=1000000)(hk:tkV K.E M 14=4):
 Calls Try.prog 91 #[.pointer (some ⟨K.pm,0,none⟩)] w (yk K X w (xK K.E M) (.tuple #[])):=by
 have HE:=Lib.hid h.alt
 have HT0:=Lib.hid (OpSt.start h hcur)
 have HB:=Lib.hid (And.intro hz hk)
 clear h hcur hz hk
 go_enter Try.func91,Try.ntmps91
 go_wp2_with (first
  |(go_at_call 59;refine(HT0.out.takeK 14 4 4 rfl HB.out.2 (by decide) (by decide) (by have:=HB.out.1;omega)).mono ?_;clear HT0;rintro e w1 ⟨rfl,hm1⟩)
  |(go_at_call 118;refine(hm1.out.addr (by have:=HB.out.1;omega)).mono ?_;clear hm1;rintro e w2 ⟨x,Hx,rfl,hm2⟩)
  |(go_at_call 62;refine(hm2.out.any (by have:=HB.out.1;omega)).mono ?_;clear hm2;rintro e w3 ⟨y,Hy,rfl,hm3⟩)
  |(go_at_call 59;refine(hm3.out.take 2 (by decide) (by decide) (by have:=HB.out.1;omega)).mono ?_;clear hm3;rintro e w4 ⟨z,qz,Hz,rfl,hm4⟩)
  |(go_at_call 117;refine(hm4.out.emit (20+(z:Int)) x y 0 (vG _ (by omega) (by omega)) (Hx.out.1) (Hy.out.1) (by decide) (by have:=HB.out.1;omega)).mono ?_;clear hm4;rintro e w5 ⟨rfl,hm5⟩))
 first|go_end0|refine bodyPost_ret (results_none rfl _ _ _) rfl ?_
 rw[mkOp_4 HB.out.2]
 try rw[Hx.out.2]
 try rw[Hy.out.2]
 try rw[Hz.out]
 exact hm5.out.ret
theorem mkOp_5 {E:ME}{M:MS}(h:tkV E M 14=5):xK E M=(zJ E (yJ E M.tick).2).2.tick.emit ⟨20+tkV E (zJ E (yJ E M.tick).2).2 2,0,(yJ E M.tick).1,(zJ E (yJ E M.tick).2).1,0,[]⟩:=by
 unfold xK
 simp only[h]
 rfl
theorem op_5 {w:World}{K:MKC}{X:Nat->Prop}{M:MS}(h:wW w K X M)(hcur:M.cur<M.f.length)(hz:M.sz+20<=1000000)(hk:tkV K.E M 14=5):
 Calls Try.prog 91 #[.pointer (some ⟨K.pm,0,none⟩)] w (yk K X w (xK K.E M) (.tuple #[])):=by
 have HE:=Lib.hid h.alt
 have HT0:=Lib.hid (OpSt.start h hcur)
 have HB:=Lib.hid (And.intro hz hk)
 clear h hcur hz hk
 go_enter Try.func91,Try.ntmps91
 go_wp2_with (first
  |(go_at_call 59;refine(HT0.out.takeK 14 5 5 rfl HB.out.2 (by decide) (by decide) (by have:=HB.out.1;omega)).mono ?_;clear HT0;rintro e w1 ⟨rfl,hm1⟩)
  |(go_at_call 118;refine(hm1.out.addr (by have:=HB.out.1;omega)).mono ?_;clear hm1;rintro e w2 ⟨x,Hx,rfl,hm2⟩)
  |(go_at_call 62;refine(hm2.out.any (by have:=HB.out.1;omega)).mono ?_;clear hm2;rintro e w3 ⟨y,Hy,rfl,hm3⟩)
  |(go_at_call 59;refine(hm3.out.take 2 (by decide) (by decide) (by have:=HB.out.1;omega)).mono ?_;clear hm3;rintro e w4 ⟨z,qz,Hz,rfl,hm4⟩)
  |(go_at_call 117;refine(hm4.out.emit (20+(z:Int)) x y 0 (vG _ (by omega) (by omega)) (Hx.out.1) (Hy.out.1) (by decide) (by have:=HB.out.1;omega)).mono ?_;clear hm4;rintro e w5 ⟨rfl,hm5⟩))
 first|go_end0|refine bodyPost_ret (results_none rfl _ _ _) rfl ?_
 rw[mkOp_5 HB.out.2]
 try rw[Hx.out.2]
 try rw[Hy.out.2]
 try rw[Hz.out]
 exact hm5.out.ret
theorem mkOp_6 {E:ME}{M:MS}(h:tkV E M 14=6):xK E M=M.tick.tick.emit ⟨24,0,0,0,1+tkV E M.tick 3,[]⟩:=by
 unfold xK
 simp only[h]
 rfl
theorem op_6 {w:World}{K:MKC}{X:Nat->Prop}{M:MS}(h:wW w K X M)(hcur:M.cur<M.f.length)(hz:M.sz+20<=1000000)(hk:tkV K.E M 14=6):
 Calls Try.prog 91 #[.pointer (some ⟨K.pm,0,none⟩)] w (yk K X w (xK K.E M) (.tuple #[])):=by
 have HE:=Lib.hid h.alt
 have HT0:=Lib.hid (OpSt.start h hcur)
 have HB:=Lib.hid (And.intro hz hk)
 clear h hcur hz hk
 go_enter Try.func91,Try.ntmps91
 go_wp2_with (first
  |(go_at_call 59;refine(HT0.out.takeK 14 6 6 rfl HB.out.2 (by decide) (by decide) (by have:=HB.out.1;omega)).mono ?_;clear HT0;rintro e w1 ⟨rfl,hm1⟩)
  |(go_at_call 59;refine(hm1.out.take 3 (by decide) (by decide) (by have:=HB.out.1;omega)).mono ?_;clear hm1;rintro e w2 ⟨z,qz,Hz,rfl,hm2⟩)
  |(go_at_call 117;refine(hm2.out.emit 24 0 0 (1+z) (yF _ rfl) (yF _ rfl) (yF _ rfl) (by omega) (by have:=HB.out.1;omega)).mono ?_;clear hm2;rintro e w3 ⟨rfl,hm3⟩))
 first|go_end0|refine bodyPost_ret (results_none rfl _ _ _) rfl ?_
 rw[mkOp_6 HB.out.2]
 try rw[Hz.out]
 exact hm3.out.ret
theorem mkOp_7 {E:ME}{M:MS}(h:tkV E M 14=7):xK E M=(zJ E M.tick).2.tick.emit ⟨25,0,(zJ E M.tick).1,0,1+tkV E (zJ E M.tick).2 3,[]⟩:=by
 unfold xK
 simp only[h]
 rfl
theorem op_7 {w:World}{K:MKC}{X:Nat->Prop}{M:MS}(h:wW w K X M)(hcur:M.cur<M.f.length)(hz:M.sz+20<=1000000)(hk:tkV K.E M 14=7):
 Calls Try.prog 91 #[.pointer (some ⟨K.pm,0,none⟩)] w (yk K X w (xK K.E M) (.tuple #[])):=by
 have HE:=Lib.hid h.alt
 have HT0:=Lib.hid (OpSt.start h hcur)
 have HB:=Lib.hid (And.intro hz hk)
 clear h hcur hz hk
 go_enter Try.func91,Try.ntmps91
 go_wp2_with (first
  |(go_at_call 59;refine(HT0.out.takeK 14 7 7 rfl HB.out.2 (by decide) (by decide) (by have:=HB.out.1;omega)).mono ?_;clear HT0;rintro e w1 ⟨rfl,hm1⟩)
  |(go_at_call 62;refine(hm1.out.any (by have:=HB.out.1;omega)).mono ?_;clear hm1;rintro e w2 ⟨x,Hx,rfl,hm2⟩)
  |(go_at_call 59;refine(hm2.out.take 3 (by decide) (by decide) (by have:=HB.out.1;omega)).mono ?_;clear hm2;rintro e w3 ⟨z,qz,Hz,rfl,hm3⟩)
  |(go_at_call 117;refine(hm3.out.emit 25 x 0 (1+z) (yF _ rfl) (Hx.out.1) (yF _ rfl) (by omega) (by have:=HB.out.1;omega)).mono ?_;clear hm3;rintro e w4 ⟨rfl,hm4⟩))
 first|go_end0|refine bodyPost_ret (results_none rfl _ _ _) rfl ?_
 rw[mkOp_7 HB.out.2]
 try rw[Hx.out.2]
 try rw[Hz.out]
 exact hm4.out.ret
theorem mkOp_8 {E:ME}{M:MS}(h:tkV E M 14=8):xK E M=(M.tick.tick.num (tkV E M.tick 4096)).tick.emit ⟨22+tkV E (M.tick.tick.num (tkV E M.tick 4096)) 2,0,(M.tick.next:Nat),0,0,[]⟩:=by
 unfold xK
 simp only[h]
 rfl
theorem op_8 {w:World}{K:MKC}{X:Nat->Prop}{M:MS}(h:wW w K X M)(hcur:M.cur<M.f.length)(hz:M.sz+20<=1000000)(hk:tkV K.E M 14=8):
 Calls Try.prog 91 #[.pointer (some ⟨K.pm,0,none⟩)] w (yk K X w (xK K.E M) (.tuple #[])):=by
 have HE:=Lib.hid h.alt
 have HT0:=Lib.hid (OpSt.start h hcur)
 have HB:=Lib.hid (And.intro hz hk)
 clear h hcur hz hk
 go_enter Try.func91,Try.ntmps91
 go_wp2_with (first
  |(go_at_call 59;refine(HT0.out.takeK 14 8 8 rfl HB.out.2 (by decide) (by decide) (by have:=HB.out.1;omega)).mono ?_;clear HT0;rintro e w1 ⟨rfl,hm1⟩)
  |(go_at_call 59;refine(hm1.out.take 4096 (by decide) (by decide) (by have:=HB.out.1;omega)).mono ?_;clear hm1;rintro e w2 ⟨y,qy,Hy,rfl,hm2⟩)
  |(go_at_call 94;refine(hm2.out.num y (by omega) (by have:=HB.out.1;omega)).mono ?_;have N1:=Lib.hid hm2.out.n64;clear hm2;rintro e w3 ⟨rfl,hm3⟩)
  |(go_at_call 59;refine(hm3.out.take 2 (by decide) (by decide) (by have:=HB.out.1;omega)).mono ?_;clear hm3;rintro e w4 ⟨z,qz,Hz,rfl,hm4⟩)
  |(go_at_call 117;refine(hm4.out.emit (22+(z:Int)) (M.next:Int) 0 0 (vG _ (by omega) (by omega)) N1.out (yF _ rfl) (by decide) (by have:=HB.out.1;omega)).mono ?_;clear hm4;rintro e w5 ⟨rfl,hm5⟩))
 first|go_end0|refine bodyPost_ret (results_none rfl _ _ _) rfl ?_
 rw[mkOp_8 HB.out.2]
 try rw[Hy.out]
 try rw[Hz.out]
 exact hm5.out.ret
theorem mkOp_9 {E:ME}{M:MS}(h:tkV E M 14=9):xK E M=vN E M.tick:=by
 unfold xK
 simp only[h]
 rfl
theorem op_9 {w:World}{K:MKC}{X:Nat->Prop}{M:MS}(h:wW w K X M)(hcur:M.cur<M.f.length)(hz:M.sz+20<=1000000)(hk:tkV K.E M 14=9):
 Calls Try.prog 91 #[.pointer (some ⟨K.pm,0,none⟩)] w (yk K X w (xK K.E M) (.tuple #[])):=by
 have HE:=Lib.hid h.alt
 have HT0:=Lib.hid (OpSt.start h hcur)
 have HB:=Lib.hid (And.intro hz hk)
 clear h hcur hz hk
 go_enter Try.func91,Try.ntmps91
 go_wp2_with (first
  |(go_at_call 59;refine(HT0.out.takeK 14 9 9 rfl HB.out.2 (by decide) (by decide) (by have:=HB.out.1;omega)).mono ?_;clear HT0;rintro e w1 ⟨rfl,hm1⟩)
  |(go_at_call 119;refine(hm1.out.call HE.out (by have:=HB.out.1;omega)).mono ?_;clear hm1;rintro e w2 ⟨rfl,hm2⟩))
 first|go_end0|refine bodyPost_ret (results_none rfl _ _ _) rfl ?_
 rw[mkOp_9 HB.out.2]
 exact hm2.out.ret
theorem mkOp_10a {E:ME}{M:MS}(h:tkV E M 14=10)(hq:tkV E M.tick 3=0):xK E M=M.tick.tick.emit ⟨27,0,0,0,0,[]⟩:=by
 unfold xK
 simp only[h,hq]
 rfl
theorem op_10a {w:World}{K:MKC}{X:Nat->Prop}{M:MS}(h:wW w K X M)(hcur:M.cur<M.f.length)(hz:M.sz+20<=1000000)(hk:tkV K.E M 14=10)(hq:tkV K.E M.tick 3=0):
 Calls Try.prog 91 #[.pointer (some ⟨K.pm,0,none⟩)] w (yk K X w (xK K.E M) (.tuple #[])):=by
 have HE:=Lib.hid h.alt
 have HT0:=Lib.hid (OpSt.start h hcur)
 have HB:=Lib.hid (And.intro hz hk)
 have Hhq:=Lib.hid hq
 clear h hcur hz hk hq
 go_enter Try.func91,Try.ntmps91
 go_wp2_with (first
  |(go_at_call 59;refine(HT0.out.takeK 14 10 10 rfl HB.out.2 (by decide) (by decide) (by have:=HB.out.1;omega)).mono ?_;clear HT0;rintro e w1 ⟨rfl,hm1⟩)
  |(go_at_call 59;refine(hm1.out.takeK 3 0 0 rfl Hhq.out (by decide) (by decide) (by have:=HB.out.1;omega)).mono ?_;clear hm1;rintro e w2 ⟨rfl,hm2⟩)
  |(go_at_call 117;refine(hm2.out.emit 27 0 0 0 (yF _ rfl) (yF _ rfl) (yF _ rfl) (by decide) (by have:=HB.out.1;omega)).mono ?_;clear hm2;rintro e w3 ⟨rfl,hm3⟩))
 first|go_end0|refine bodyPost_ret (results_none rfl _ _ _) rfl ?_
 rw[mkOp_10a HB.out.2 Hhq.out]
 exact hm3.out.ret
theorem mkOp_10b {E:ME}{M:MS}(h:tkV E M 14=10)(hq:¬tkV E M.tick 3=0):xK E M=M.tick.tick:=by
 unfold xK
 simp only[h,hq]
 rfl
theorem op_10b {w:World}{K:MKC}{X:Nat->Prop}{M:MS}(h:wW w K X M)(hcur:M.cur<M.f.length)(hz:M.sz+20<=1000000)(hk:tkV K.E M 14=10)(hq:¬tkV K.E M.tick 3=0):
 Calls Try.prog 91 #[.pointer (some ⟨K.pm,0,none⟩)] w (yk K X w (xK K.E M) (.tuple #[])):=by
 have HE:=Lib.hid h.alt
 have HT0:=Lib.hid (OpSt.start h hcur)
 have HB:=Lib.hid (And.intro hz hk)
 have Hhq:=Lib.hid hq
 clear h hcur hz hk hq
 go_enter Try.func91,Try.ntmps91
 go_wp2_with (first
  |(go_at_call 59;refine(HT0.out.takeK 14 10 10 rfl HB.out.2 (by decide) (by decide) (by have:=HB.out.1;omega)).mono ?_;clear HT0;rintro e w1 ⟨rfl,hm1⟩)
  |(go_at_call 59;refine(hm1.out.take 3 (by decide) (by decide) (by have:=HB.out.1;omega)).mono ?_;clear hm1;rintro e w2 ⟨z,qz,Hz,rfl,hm2⟩;have tz:((z:Int)==0)=false:=by rw[beq_eq_false_iff_ne];have:=Hz.out;have:=Hhq.out;omega))
 first|go_end0|refine bodyPost_ret (results_none rfl _ _ _) rfl ?_
 rw[mkOp_10b HB.out.2 Hhq.out]
 try rw[Hz.out]
 exact hm2.out.ret
theorem mkOp_11a {E:ME}{M:MS}(h:tkV E M 14=11)(hq:¬tkV E (zJ E (zJ E M.tick).2).2 13=3):xK E M=(zJ E (zJ E M.tick).2).2.tick.emit ⟨((5+tkV E (zJ E (zJ E M.tick).2).2 13:Nat):Int),0,(zJ E M.tick).1,(zJ E (zJ E M.tick).2).1,0,[]⟩:=by
 unfold xK
 simp only[h]
 show yR E M.tick=_
 unfold yR
 simp only
 rw[if_neg (by omega)]
theorem op_11a {w:World}{K:MKC}{X:Nat->Prop}{M:MS}(h:wW w K X M)(hcur:M.cur<M.f.length)(hz:M.sz+20<=1000000)(hk:tkV K.E M 14=11)(hq:¬tkV K.E (zJ K.E (zJ K.E M.tick).2).2 13=3):
 Calls Try.prog 91 #[.pointer (some ⟨K.pm,0,none⟩)] w (yk K X w (xK K.E M) (.tuple #[])):=by
 have HE:=Lib.hid h.alt
 have HT0:=Lib.hid (OpSt.start h hcur)
 have HB:=Lib.hid (And.intro hz hk)
 have Hhq:=Lib.hid hq
 clear h hcur hz hk hq
 go_enter Try.func91,Try.ntmps91
 go_wp2_with (first
  |(go_at_call 59;refine(HT0.out.takeK 14 11 11 rfl HB.out.2 (by decide) (by decide) (by have:=HB.out.1;omega)).mono ?_;clear HT0;rintro e w1 ⟨rfl,hm1⟩)
  |(go_at_call 62;refine(hm1.out.any (by have:=HB.out.1;omega)).mono ?_;clear hm1;rintro e w2 ⟨x,Hx,rfl,hm2⟩)
  |(go_at_call 62;refine(hm2.out.any (by have:=HB.out.1;omega)).mono ?_;clear hm2;rintro e w3 ⟨y,Hy,rfl,hm3⟩)
  |(go_at_call 59;refine(hm3.out.take 13 (by decide) (by decide) (by have:=HB.out.1;omega)).mono ?_;clear hm3;rintro e w4 ⟨z,qz,Hz,rfl,hm4⟩;have tz:((5+(z:Int))==8)=false:=by rw[beq_eq_false_iff_ne];have:=Hz.out;have:=Hhq.out;omega)
  |(go_at_call 117;refine(hm4.out.emit (5+(z:Int)) x y 0 (vG _ (by omega) (by omega)) (Hx.out.1) (Hy.out.1) (by decide) (by have:=HB.out.1;omega)).mono ?_;clear hm4;rintro e w5 ⟨rfl,hm5⟩))
 first|go_end0|refine bodyPost_ret (results_none rfl _ _ _) rfl ?_
 rw[mkOp_11a HB.out.2 Hhq.out]
 try rw[Hx.out.2]
 try rw[Hy.out.2]
 try rw[Hz.out]
 exact hm5.out.ret
theorem mkOp_11b {E:ME}{M:MS}(h:tkV E M 14=11)(hq:tkV E (zJ E (zJ E M.tick).2).2 13=3)(hp:tkV E (zJ E (zJ E M.tick).2).2.tick 8=0):xK E M=(zJ E (zJ E M.tick).2).2.tick.tick.emit ⟨8,0,(zJ E M.tick).1,(zJ E (zJ E M.tick).2).1,0,[]⟩:=by
 unfold xK
 simp only[h]
 show yR E M.tick=_
 unfold yR
 simp only
 rw[if_pos (by omega),if_neg (by omega)]
theorem op_11b {w:World}{K:MKC}{X:Nat->Prop}{M:MS}(h:wW w K X M)(hcur:M.cur<M.f.length)(hz:M.sz+20<=1000000)(hk:tkV K.E M 14=11)(hq:tkV K.E (zJ K.E (zJ K.E M.tick).2).2 13=3)(hp:tkV K.E (zJ K.E (zJ K.E M.tick).2).2.tick 8=0):
 Calls Try.prog 91 #[.pointer (some ⟨K.pm,0,none⟩)] w (yk K X w (xK K.E M) (.tuple #[])):=by
 have HE:=Lib.hid h.alt
 have HT0:=Lib.hid (OpSt.start h hcur)
 have HB:=Lib.hid (And.intro hz hk)
 have Hhq:=Lib.hid hq
 have Hhp:=Lib.hid hp
 clear h hcur hz hk hq hp
 go_enter Try.func91,Try.ntmps91
 go_wp2_with (first
  |(go_at_call 59;refine(HT0.out.takeK 14 11 11 rfl HB.out.2 (by decide) (by decide) (by have:=HB.out.1;omega)).mono ?_;clear HT0;rintro e w1 ⟨rfl,hm1⟩)
  |(go_at_call 62;refine(hm1.out.any (by have:=HB.out.1;omega)).mono ?_;clear hm1;rintro e w2 ⟨x,Hx,rfl,hm2⟩)
  |(go_at_call 62;refine(hm2.out.any (by have:=HB.out.1;omega)).mono ?_;clear hm2;rintro e w3 ⟨y,Hy,rfl,hm3⟩)
  |(go_at_call 59;refine(hm3.out.takeK 13 3 3 rfl Hhq.out (by decide) (by decide) (by have:=HB.out.1;omega)).mono ?_;clear hm3;rintro e w4 ⟨rfl,hm4⟩)
  |(go_at_call 59;refine(hm4.out.takeK 8 0 0 rfl Hhp.out (by decide) (by decide) (by have:=HB.out.1;omega)).mono ?_;clear hm4;rintro e w5 ⟨rfl,hm5⟩)
  |(go_at_call 117;refine(hm5.out.emit 8 x y 0 (yF _ rfl) (Hx.out.1) (Hy.out.1) (by decide) (by have:=HB.out.1;omega)).mono ?_;clear hm5;rintro e w6 ⟨rfl,hm6⟩))
 first|go_end0|refine bodyPost_ret (results_none rfl _ _ _) rfl ?_
 rw[mkOp_11b HB.out.2 Hhq.out Hhp.out]
 try rw[Hx.out.2]
 try rw[Hy.out.2]
 exact hm6.out.ret
theorem mkOp_11c {E:ME}{M:MS}(h:tkV E M 14=11)(hq:tkV E (zJ E (zJ E M.tick).2).2 13=3)(hp:0<tkV E (zJ E (zJ E M.tick).2).2.tick 8):xK E M=((((zJ E (zJ E M.tick).2).2.tick.tick.num 1).emit ⟨10,0,(zJ E (zJ E M.tick).2).1,((zJ E (zJ E M.tick).2).2.next:Nat),0,[]⟩).emit ⟨8,0,(zJ E M.tick).1,(((zJ E (zJ E M.tick).2).2.next+1:Nat):Int),0,[]⟩):=by
 unfold xK
 simp only[h]
 show yR E M.tick=_
 unfold yR
 simp only
 rw[if_pos (by omega),if_pos (by omega)]
 rfl
theorem op_11c {w:World}{K:MKC}{X:Nat->Prop}{M:MS}(h:wW w K X M)(hcur:M.cur<M.f.length)(hz:M.sz+20<=1000000)(hk:tkV K.E M 14=11)(hq:tkV K.E (zJ K.E (zJ K.E M.tick).2).2 13=3)(hp:0<tkV K.E (zJ K.E (zJ K.E M.tick).2).2.tick 8):
 Calls Try.prog 91 #[.pointer (some ⟨K.pm,0,none⟩)] w (yk K X w (xK K.E M) (.tuple #[])):=by
 have HE:=Lib.hid h.alt
 have HT0:=Lib.hid (OpSt.start h hcur)
 have HB:=Lib.hid (And.intro hz hk)
 have Hhq:=Lib.hid hq
 have Hhp:=Lib.hid hp
 clear h hcur hz hk hq hp
 go_enter Try.func91,Try.ntmps91
 go_wp2_with (first
  |(go_at_call 59;refine(HT0.out.takeK 14 11 11 rfl HB.out.2 (by decide) (by decide) (by have:=HB.out.1;omega)).mono ?_;clear HT0;rintro e w1 ⟨rfl,hm1⟩)
  |(go_at_call 62;refine(hm1.out.any (by have:=HB.out.1;omega)).mono ?_;clear hm1;rintro e w2 ⟨x,Hx,rfl,hm2⟩)
  |(go_at_call 62;refine(hm2.out.any (by have:=HB.out.1;omega)).mono ?_;clear hm2;rintro e w3 ⟨y,Hy,rfl,hm3⟩)
  |(go_at_call 59;refine(hm3.out.takeK 13 3 3 rfl Hhq.out (by decide) (by decide) (by have:=HB.out.1;omega)).mono ?_;clear hm3;rintro e w4 ⟨rfl,hm4⟩)
  |(go_at_call 59;refine(hm4.out.take 8 (by decide) (by decide) (by have:=HB.out.1;omega)).mono ?_;clear hm4;rintro e w5 ⟨z,qz,Hz,rfl,hm5⟩;have tz:(0:Int)<(z:Int):=by have:=Hz.out;have:=Hhp.out;omega)
  |(go_at_call 94;refine(hm5.out.num 1 (by omega) (by have:=HB.out.1;omega)).mono ?_;have N1:=Lib.hid hm5.out.n64;clear hm5;rintro e w6 ⟨rfl,hm6⟩)
  |(go_at_call 117;refine(hm6.out.emit 10 y _ 0 (yF _ rfl) (Hy.out.1) N1.out (by decide) (by have:=HB.out.1;omega)).mono ?_;have N2:=Lib.hid hm6.out.n64;clear hm6;rintro e w7 ⟨rfl,hm7⟩)
  |(go_at_call 117;refine(hm7.out.emit 8 x _ 0 (yF _ rfl) (Hx.out.1) N2.out (by decide) (by have:=HB.out.1;omega)).mono ?_;clear hm7;rintro e w8 ⟨rfl,hm8⟩))
 first|go_end0|refine bodyPost_ret (results_none rfl _ _ _) rfl ?_
 rw[mkOp_11c HB.out.2 Hhq.out Hhp.out]
 try rw[Hx.out.2]
 try rw[Hy.out.2]
 try rw[Hz.out]
 exact hm8.out.ret
theorem mkOp_12a {E:ME}{M:MS}(h:tkV E M 14=12)(hq:¬tkV E (zJ E (zJ E M.tick).2).2 13=3):xK E M=(zJ E (zJ E M.tick).2).2.tick.emit ⟨((5+tkV E (zJ E (zJ E M.tick).2).2 13:Nat):Int),0,(zJ E M.tick).1,(zJ E (zJ E M.tick).2).1,0,[]⟩:=by
 unfold xK
 simp only[h]
 show yR E M.tick=_
 unfold yR
 simp only
 rw[if_neg (by omega)]
theorem op_12a {w:World}{K:MKC}{X:Nat->Prop}{M:MS}(h:wW w K X M)(hcur:M.cur<M.f.length)(hz:M.sz+20<=1000000)(hk:tkV K.E M 14=12)(hq:¬tkV K.E (zJ K.E (zJ K.E M.tick).2).2 13=3):
 Calls Try.prog 91 #[.pointer (some ⟨K.pm,0,none⟩)] w (yk K X w (xK K.E M) (.tuple #[])):=by
 have HE:=Lib.hid h.alt
 have HT0:=Lib.hid (OpSt.start h hcur)
 have HB:=Lib.hid (And.intro hz hk)
 have Hhq:=Lib.hid hq
 clear h hcur hz hk hq
 go_enter Try.func91,Try.ntmps91
 go_wp2_with (first
  |(go_at_call 59;refine(HT0.out.takeK 14 12 12 rfl HB.out.2 (by decide) (by decide) (by have:=HB.out.1;omega)).mono ?_;clear HT0;rintro e w1 ⟨rfl,hm1⟩)
  |(go_at_call 62;refine(hm1.out.any (by have:=HB.out.1;omega)).mono ?_;clear hm1;rintro e w2 ⟨x,Hx,rfl,hm2⟩)
  |(go_at_call 62;refine(hm2.out.any (by have:=HB.out.1;omega)).mono ?_;clear hm2;rintro e w3 ⟨y,Hy,rfl,hm3⟩)
  |(go_at_call 59;refine(hm3.out.take 13 (by decide) (by decide) (by have:=HB.out.1;omega)).mono ?_;clear hm3;rintro e w4 ⟨z,qz,Hz,rfl,hm4⟩;have tz:((5+(z:Int))==8)=false:=by rw[beq_eq_false_iff_ne];have:=Hz.out;have:=Hhq.out;omega)
  |(go_at_call 117;refine(hm4.out.emit (5+(z:Int)) x y 0 (vG _ (by omega) (by omega)) (Hx.out.1) (Hy.out.1) (by decide) (by have:=HB.out.1;omega)).mono ?_;clear hm4;rintro e w5 ⟨rfl,hm5⟩))
 first|go_end0|refine bodyPost_ret (results_none rfl _ _ _) rfl ?_
 rw[mkOp_12a HB.out.2 Hhq.out]
 try rw[Hx.out.2]
 try rw[Hy.out.2]
 try rw[Hz.out]
 exact hm5.out.ret
theorem mkOp_12b {E:ME}{M:MS}(h:tkV E M 14=12)(hq:tkV E (zJ E (zJ E M.tick).2).2 13=3)(hp:tkV E (zJ E (zJ E M.tick).2).2.tick 8=0):xK E M=(zJ E (zJ E M.tick).2).2.tick.tick.emit ⟨8,0,(zJ E M.tick).1,(zJ E (zJ E M.tick).2).1,0,[]⟩:=by
 unfold xK
 simp only[h]
 show yR E M.tick=_
 unfold yR
 simp only
 rw[if_pos (by omega),if_neg (by omega)]
theorem op_12b {w:World}{K:MKC}{X:Nat->Prop}{M:MS}(h:wW w K X M)(hcur:M.cur<M.f.length)(hz:M.sz+20<=1000000)(hk:tkV K.E M 14=12)(hq:tkV K.E (zJ K.E (zJ K.E M.tick).2).2 13=3)(hp:tkV K.E (zJ K.E (zJ K.E M.tick).2).2.tick 8=0):
 Calls Try.prog 91 #[.pointer (some ⟨K.pm,0,none⟩)] w (yk K X w (xK K.E M) (.tuple #[])):=by
 have HE:=Lib.hid h.alt
 have HT0:=Lib.hid (OpSt.start h hcur)
 have HB:=Lib.hid (And.intro hz hk)
 have Hhq:=Lib.hid hq
 have Hhp:=Lib.hid hp
 clear h hcur hz hk hq hp
 go_enter Try.func91,Try.ntmps91
 go_wp2_with (first
  |(go_at_call 59;refine(HT0.out.takeK 14 12 12 rfl HB.out.2 (by decide) (by decide) (by have:=HB.out.1;omega)).mono ?_;clear HT0;rintro e w1 ⟨rfl,hm1⟩)
  |(go_at_call 62;refine(hm1.out.any (by have:=HB.out.1;omega)).mono ?_;clear hm1;rintro e w2 ⟨x,Hx,rfl,hm2⟩)
  |(go_at_call 62;refine(hm2.out.any (by have:=HB.out.1;omega)).mono ?_;clear hm2;rintro e w3 ⟨y,Hy,rfl,hm3⟩)
  |(go_at_call 59;refine(hm3.out.takeK 13 3 3 rfl Hhq.out (by decide) (by decide) (by have:=HB.out.1;omega)).mono ?_;clear hm3;rintro e w4 ⟨rfl,hm4⟩)
  |(go_at_call 59;refine(hm4.out.takeK 8 0 0 rfl Hhp.out (by decide) (by decide) (by have:=HB.out.1;omega)).mono ?_;clear hm4;rintro e w5 ⟨rfl,hm5⟩)
  |(go_at_call 117;refine(hm5.out.emit 8 x y 0 (yF _ rfl) (Hx.out.1) (Hy.out.1) (by decide) (by have:=HB.out.1;omega)).mono ?_;clear hm5;rintro e w6 ⟨rfl,hm6⟩))
 first|go_end0|refine bodyPost_ret (results_none rfl _ _ _) rfl ?_
 rw[mkOp_12b HB.out.2 Hhq.out Hhp.out]
 try rw[Hx.out.2]
 try rw[Hy.out.2]
 exact hm6.out.ret
theorem mkOp_12c {E:ME}{M:MS}(h:tkV E M 14=12)(hq:tkV E (zJ E (zJ E M.tick).2).2 13=3)(hp:0<tkV E (zJ E (zJ E M.tick).2).2.tick 8):xK E M=((((zJ E (zJ E M.tick).2).2.tick.tick.num 1).emit ⟨10,0,(zJ E (zJ E M.tick).2).1,((zJ E (zJ E M.tick).2).2.next:Nat),0,[]⟩).emit ⟨8,0,(zJ E M.tick).1,(((zJ E (zJ E M.tick).2).2.next+1:Nat):Int),0,[]⟩):=by
 unfold xK
 simp only[h]
 show yR E M.tick=_
 unfold yR
 simp only
 rw[if_pos (by omega),if_pos (by omega)]
 rfl
theorem op_12c {w:World}{K:MKC}{X:Nat->Prop}{M:MS}(h:wW w K X M)(hcur:M.cur<M.f.length)(hz:M.sz+20<=1000000)(hk:tkV K.E M 14=12)(hq:tkV K.E (zJ K.E (zJ K.E M.tick).2).2 13=3)(hp:0<tkV K.E (zJ K.E (zJ K.E M.tick).2).2.tick 8):
 Calls Try.prog 91 #[.pointer (some ⟨K.pm,0,none⟩)] w (yk K X w (xK K.E M) (.tuple #[])):=by
 have HE:=Lib.hid h.alt
 have HT0:=Lib.hid (OpSt.start h hcur)
 have HB:=Lib.hid (And.intro hz hk)
 have Hhq:=Lib.hid hq
 have Hhp:=Lib.hid hp
 clear h hcur hz hk hq hp
 go_enter Try.func91,Try.ntmps91
 go_wp2_with (first
  |(go_at_call 59;refine(HT0.out.takeK 14 12 12 rfl HB.out.2 (by decide) (by decide) (by have:=HB.out.1;omega)).mono ?_;clear HT0;rintro e w1 ⟨rfl,hm1⟩)
  |(go_at_call 62;refine(hm1.out.any (by have:=HB.out.1;omega)).mono ?_;clear hm1;rintro e w2 ⟨x,Hx,rfl,hm2⟩)
  |(go_at_call 62;refine(hm2.out.any (by have:=HB.out.1;omega)).mono ?_;clear hm2;rintro e w3 ⟨y,Hy,rfl,hm3⟩)
  |(go_at_call 59;refine(hm3.out.takeK 13 3 3 rfl Hhq.out (by decide) (by decide) (by have:=HB.out.1;omega)).mono ?_;clear hm3;rintro e w4 ⟨rfl,hm4⟩)
  |(go_at_call 59;refine(hm4.out.take 8 (by decide) (by decide) (by have:=HB.out.1;omega)).mono ?_;clear hm4;rintro e w5 ⟨z,qz,Hz,rfl,hm5⟩;have tz:(0:Int)<(z:Int):=by have:=Hz.out;have:=Hhp.out;omega)
  |(go_at_call 94;refine(hm5.out.num 1 (by omega) (by have:=HB.out.1;omega)).mono ?_;have N1:=Lib.hid hm5.out.n64;clear hm5;rintro e w6 ⟨rfl,hm6⟩)
  |(go_at_call 117;refine(hm6.out.emit 10 y _ 0 (yF _ rfl) (Hy.out.1) N1.out (by decide) (by have:=HB.out.1;omega)).mono ?_;have N2:=Lib.hid hm6.out.n64;clear hm6;rintro e w7 ⟨rfl,hm7⟩)
  |(go_at_call 117;refine(hm7.out.emit 8 x _ 0 (yF _ rfl) (Hx.out.1) N2.out (by decide) (by have:=HB.out.1;omega)).mono ?_;clear hm7;rintro e w8 ⟨rfl,hm8⟩))
 first|go_end0|refine bodyPost_ret (results_none rfl _ _ _) rfl ?_
 rw[mkOp_12c HB.out.2 Hhq.out Hhp.out]
 try rw[Hx.out.2]
 try rw[Hy.out.2]
 try rw[Hz.out]
 exact hm8.out.ret
theorem mkOp_13a {E:ME}{M:MS}(h:tkV E M 14=13)(hq:¬tkV E (zJ E (zJ E M.tick).2).2 13=3):xK E M=(zJ E (zJ E M.tick).2).2.tick.emit ⟨((5+tkV E (zJ E (zJ E M.tick).2).2 13:Nat):Int),0,(zJ E M.tick).1,(zJ E (zJ E M.tick).2).1,0,[]⟩:=by
 unfold xK
 simp only[h]
 show yR E M.tick=_
 unfold yR
 simp only
 rw[if_neg (by omega)]
theorem op_13a {w:World}{K:MKC}{X:Nat->Prop}{M:MS}(h:wW w K X M)(hcur:M.cur<M.f.length)(hz:M.sz+20<=1000000)(hk:tkV K.E M 14=13)(hq:¬tkV K.E (zJ K.E (zJ K.E M.tick).2).2 13=3):
 Calls Try.prog 91 #[.pointer (some ⟨K.pm,0,none⟩)] w (yk K X w (xK K.E M) (.tuple #[])):=by
 have HE:=Lib.hid h.alt
 have HT0:=Lib.hid (OpSt.start h hcur)
 have HB:=Lib.hid (And.intro hz hk)
 have Hhq:=Lib.hid hq
 clear h hcur hz hk hq
 go_enter Try.func91,Try.ntmps91
 go_wp2_with (first
  |(go_at_call 59;refine(HT0.out.takeK 14 13 13 rfl HB.out.2 (by decide) (by decide) (by have:=HB.out.1;omega)).mono ?_;clear HT0;rintro e w1 ⟨rfl,hm1⟩)
  |(go_at_call 62;refine(hm1.out.any (by have:=HB.out.1;omega)).mono ?_;clear hm1;rintro e w2 ⟨x,Hx,rfl,hm2⟩)
  |(go_at_call 62;refine(hm2.out.any (by have:=HB.out.1;omega)).mono ?_;clear hm2;rintro e w3 ⟨y,Hy,rfl,hm3⟩)
  |(go_at_call 59;refine(hm3.out.take 13 (by decide) (by decide) (by have:=HB.out.1;omega)).mono ?_;clear hm3;rintro e w4 ⟨z,qz,Hz,rfl,hm4⟩;have tz:((5+(z:Int))==8)=false:=by rw[beq_eq_false_iff_ne];have:=Hz.out;have:=Hhq.out;omega)
  |(go_at_call 117;refine(hm4.out.emit (5+(z:Int)) x y 0 (vG _ (by omega) (by omega)) (Hx.out.1) (Hy.out.1) (by decide) (by have:=HB.out.1;omega)).mono ?_;clear hm4;rintro e w5 ⟨rfl,hm5⟩))
 first|go_end0|refine bodyPost_ret (results_none rfl _ _ _) rfl ?_
 rw[mkOp_13a HB.out.2 Hhq.out]
 try rw[Hx.out.2]
 try rw[Hy.out.2]
 try rw[Hz.out]
 exact hm5.out.ret
theorem mkOp_13b {E:ME}{M:MS}(h:tkV E M 14=13)(hq:tkV E (zJ E (zJ E M.tick).2).2 13=3)(hp:tkV E (zJ E (zJ E M.tick).2).2.tick 8=0):xK E M=(zJ E (zJ E M.tick).2).2.tick.tick.emit ⟨8,0,(zJ E M.tick).1,(zJ E (zJ E M.tick).2).1,0,[]⟩:=by
 unfold xK
 simp only[h]
 show yR E M.tick=_
 unfold yR
 simp only
 rw[if_pos (by omega),if_neg (by omega)]
theorem op_13b {w:World}{K:MKC}{X:Nat->Prop}{M:MS}(h:wW w K X M)(hcur:M.cur<M.f.length)(hz:M.sz+20<=1000000)(hk:tkV K.E M 14=13)(hq:tkV K.E (zJ K.E (zJ K.E M.tick).2).2 13=3)(hp:tkV K.E (zJ K.E (zJ K.E M.tick).2).2.tick 8=0):
 Calls Try.prog 91 #[.pointer (some ⟨K.pm,0,none⟩)] w (yk K X w (xK K.E M) (.tuple #[])):=by
 have HE:=Lib.hid h.alt
 have HT0:=Lib.hid (OpSt.start h hcur)
 have HB:=Lib.hid (And.intro hz hk)
 have Hhq:=Lib.hid hq
 have Hhp:=Lib.hid hp
 clear h hcur hz hk hq hp
 go_enter Try.func91,Try.ntmps91
 go_wp2_with (first
  |(go_at_call 59;refine(HT0.out.takeK 14 13 13 rfl HB.out.2 (by decide) (by decide) (by have:=HB.out.1;omega)).mono ?_;clear HT0;rintro e w1 ⟨rfl,hm1⟩)
  |(go_at_call 62;refine(hm1.out.any (by have:=HB.out.1;omega)).mono ?_;clear hm1;rintro e w2 ⟨x,Hx,rfl,hm2⟩)
  |(go_at_call 62;refine(hm2.out.any (by have:=HB.out.1;omega)).mono ?_;clear hm2;rintro e w3 ⟨y,Hy,rfl,hm3⟩)
  |(go_at_call 59;refine(hm3.out.takeK 13 3 3 rfl Hhq.out (by decide) (by decide) (by have:=HB.out.1;omega)).mono ?_;clear hm3;rintro e w4 ⟨rfl,hm4⟩)
  |(go_at_call 59;refine(hm4.out.takeK 8 0 0 rfl Hhp.out (by decide) (by decide) (by have:=HB.out.1;omega)).mono ?_;clear hm4;rintro e w5 ⟨rfl,hm5⟩)
  |(go_at_call 117;refine(hm5.out.emit 8 x y 0 (yF _ rfl) (Hx.out.1) (Hy.out.1) (by decide) (by have:=HB.out.1;omega)).mono ?_;clear hm5;rintro e w6 ⟨rfl,hm6⟩))
 first|go_end0|refine bodyPost_ret (results_none rfl _ _ _) rfl ?_
 rw[mkOp_13b HB.out.2 Hhq.out Hhp.out]
 try rw[Hx.out.2]
 try rw[Hy.out.2]
 exact hm6.out.ret
theorem mkOp_13c {E:ME}{M:MS}(h:tkV E M 14=13)(hq:tkV E (zJ E (zJ E M.tick).2).2 13=3)(hp:0<tkV E (zJ E (zJ E M.tick).2).2.tick 8):xK E M=((((zJ E (zJ E M.tick).2).2.tick.tick.num 1).emit ⟨10,0,(zJ E (zJ E M.tick).2).1,((zJ E (zJ E M.tick).2).2.next:Nat),0,[]⟩).emit ⟨8,0,(zJ E M.tick).1,(((zJ E (zJ E M.tick).2).2.next+1:Nat):Int),0,[]⟩):=by
 unfold xK
 simp only[h]
 show yR E M.tick=_
 unfold yR
 simp only
 rw[if_pos (by omega),if_pos (by omega)]
 rfl
theorem op_13c {w:World}{K:MKC}{X:Nat->Prop}{M:MS}(h:wW w K X M)(hcur:M.cur<M.f.length)(hz:M.sz+20<=1000000)(hk:tkV K.E M 14=13)(hq:tkV K.E (zJ K.E (zJ K.E M.tick).2).2 13=3)(hp:0<tkV K.E (zJ K.E (zJ K.E M.tick).2).2.tick 8):
 Calls Try.prog 91 #[.pointer (some ⟨K.pm,0,none⟩)] w (yk K X w (xK K.E M) (.tuple #[])):=by
 have HE:=Lib.hid h.alt
 have HT0:=Lib.hid (OpSt.start h hcur)
 have HB:=Lib.hid (And.intro hz hk)
 have Hhq:=Lib.hid hq
 have Hhp:=Lib.hid hp
 clear h hcur hz hk hq hp
 go_enter Try.func91,Try.ntmps91
 go_wp2_with (first
  |(go_at_call 59;refine(HT0.out.takeK 14 13 13 rfl HB.out.2 (by decide) (by decide) (by have:=HB.out.1;omega)).mono ?_;clear HT0;rintro e w1 ⟨rfl,hm1⟩)
  |(go_at_call 62;refine(hm1.out.any (by have:=HB.out.1;omega)).mono ?_;clear hm1;rintro e w2 ⟨x,Hx,rfl,hm2⟩)
  |(go_at_call 62;refine(hm2.out.any (by have:=HB.out.1;omega)).mono ?_;clear hm2;rintro e w3 ⟨y,Hy,rfl,hm3⟩)
  |(go_at_call 59;refine(hm3.out.takeK 13 3 3 rfl Hhq.out (by decide) (by decide) (by have:=HB.out.1;omega)).mono ?_;clear hm3;rintro e w4 ⟨rfl,hm4⟩)
  |(go_at_call 59;refine(hm4.out.take 8 (by decide) (by decide) (by have:=HB.out.1;omega)).mono ?_;clear hm4;rintro e w5 ⟨z,qz,Hz,rfl,hm5⟩;have tz:(0:Int)<(z:Int):=by have:=Hz.out;have:=Hhp.out;omega)
  |(go_at_call 94;refine(hm5.out.num 1 (by omega) (by have:=HB.out.1;omega)).mono ?_;have N1:=Lib.hid hm5.out.n64;clear hm5;rintro e w6 ⟨rfl,hm6⟩)
  |(go_at_call 117;refine(hm6.out.emit 10 y _ 0 (yF _ rfl) (Hy.out.1) N1.out (by decide) (by have:=HB.out.1;omega)).mono ?_;have N2:=Lib.hid hm6.out.n64;clear hm6;rintro e w7 ⟨rfl,hm7⟩)
  |(go_at_call 117;refine(hm7.out.emit 8 x _ 0 (yF _ rfl) (Hx.out.1) N2.out (by decide) (by have:=HB.out.1;omega)).mono ?_;clear hm7;rintro e w8 ⟨rfl,hm8⟩))
 first|go_end0|refine bodyPost_ret (results_none rfl _ _ _) rfl ?_
 rw[mkOp_13c HB.out.2 Hhq.out Hhp.out]
 try rw[Hx.out.2]
 try rw[Hy.out.2]
 try rw[Hz.out]
 exact hm8.out.ret
theorem op_any {w:World}{K:MKC}{X:Nat->Prop}{M:MS}(h:wW w K X M)(hcur:M.cur<M.f.length)(hz:M.sz+20<=1000000):
 Calls Try.prog 91 #[.pointer (some ⟨K.pm,0,none⟩)] w (yk K X w (xK K.E M) (.tuple #[])):=by
 have h14:=vO K.E M (n:=14) (by omega)
 have h3:=vO K.E M.tick (n:=3) (by omega)
 obtain⟨k,hk⟩:∃k,tkV K.E M 14=k:=⟨_,rfl⟩
 rw[hk] at h14
 have hd:∀j,j=11∨j=12∨j=13->k=j->Calls Try.prog 91 #[.pointer (some ⟨K.pm,0,none⟩)] w (yk K X w (xK K.E M) (.tuple #[])):=fun j hj e=>by
  by_cases hq:tkV K.E (zJ K.E (zJ K.E M.tick).2).2 13=3
  ·by_cases hp:0<tkV K.E (zJ K.E (zJ K.E M.tick).2).2.tick 8
   ·rcases hj with rfl|rfl|rfl
    ·exact op_11c h hcur hz (hk.trans e) hq hp
    ·exact op_12c h hcur hz (hk.trans e) hq hp
    ·exact op_13c h hcur hz (hk.trans e) hq hp
   ·have hp0:tkV K.E (zJ K.E (zJ K.E M.tick).2).2.tick 8=0:=by omega
    rcases hj with rfl|rfl|rfl
    ·exact op_11b h hcur hz (hk.trans e) hq hp0
    ·exact op_12b h hcur hz (hk.trans e) hq hp0
    ·exact op_13b h hcur hz (hk.trans e) hq hp0
  ·rcases hj with rfl|rfl|rfl
   ·exact op_11a h hcur hz (hk.trans e) hq
   ·exact op_12a h hcur hz (hk.trans e) hq
   ·exact op_13a h hcur hz (hk.trans e) hq
 match k,h14 with
 |0,_=>exact op_0 h hcur hz hk
 |1,_=>exact op_1 h hcur hz hk
 |2,_=>exact op_2 h hcur hz hk
 |3,_=>exact op_3 h hcur hz hk
 |4,_=>exact op_4 h hcur hz hk
 |5,_=>exact op_5 h hcur hz hk
 |6,_=>exact op_6 h hcur hz hk
 |7,_=>exact op_7 h hcur hz hk
 |8,_=>exact op_8 h hcur hz hk
 |9,_=>exact op_9 h hcur hz hk
 |10,_=>
  by_cases hq:tkV K.E M.tick 3=0
  ·exact op_10a h hcur hz hk hq
  ·exact op_10b h hcur hz hk hq
 |11,_=>exact hd 11 (by omega) rfl
 |12,_=>exact hd 12 (by omega) rfl
 |13,_=>exact hd 13 (by omega) rfl
 |k+14,h=>exact absurd h (by omega)
open Go.RowKit
theorem own_take {w:World}{S:Nat}{e:TypeId}{a:Option Addr}{n c k:Nat}{xs:List Value}(h:w.ownsRow S e 1 (.slice a n c) n xs)(hk:k<=n):w.ownsRow S e 1 (.slice a k c) k (xs.take k):=by
 obtain⟨h1,h2⟩:=h
 refine⟨by rw[List.length_take,h1];omega,?_⟩
 rcases h2 with⟨h3,h4⟩|⟨g,cap,cur,h3,h4,h5,h6,h7,h8,h9⟩
 ·cases h3
  left
  have:k=0:=by omega
  subst this
  exact⟨rfl,rfl⟩
 ·cases h3
  refine .inr ⟨g,_,cur,rfl,h4,h5,by omega,h7,h8,?_⟩
  rw[<-h9,List.take_take]
  congr 1
  omega
def toL (tg n:Nat):List (IEdge×Value):=(List.range n).map fun k=>(⟨((tg+k:Nat):Int),[]⟩,.slice none 0 0)
theorem toL_succ (tg n:Nat):toL tg (n+1)=toL tg n++ [(⟨((tg+n:Nat):Int),[]⟩,.slice none 0 0)]:=by unfold toL;rw[List.range_succ,List.map_append];rfl
theorem toL_len (tg n:Nat):(toL tg n).length=n:=by unfold toL;simp
theorem toL_fst (tg n:Nat):(toL tg n).map (·.1)=xk tg n:=by unfold toL xk;rw[List.map_map];rfl
structure ToMid (w:World) (K:MKC) (X:Nat->Prop) (M:MS) (tv:Value) (j:Nat) (wx:World):Prop where
 own:wx.ownsRow w.heap.size 75 2 tv j ((toL M.f.length j).flatMap za)
 made:∃Xj,wW wx (K.withZ fun k=>K.Z k∨tv.ownBlock=some k) Xj (xE j M)/\Stp X w Xj wx
theorem ToMid.start {w:World}{K:MKC}{X:Nat->Prop}{M:MS}(h:wW w K X M):ToMid w K X M (.slice none 0 0) 0 w:=by
 refine⟨World.ownsRow_nil _ _ _ _,X,?_,Stp.refl _ _⟩
 obtain⟨fv,vv,l,h⟩:=h
 exact⟨fv,vv,l,h.off (Nat.le_refl _) ⟨rfl,rfl,rfl⟩ (fun _ _ _=>rfl) (fun k e=>e.elim .inl (fun e=>by simp[Value.ownBlock] at e)) (fun k e=>e.elim (h.env.zl k) (fun e=>by simp[Value.ownBlock] at e))⟩
theorem ToMid.next {w wx w2 w3:World}{K:MKC}{X X2:Nat->Prop}{M:MS}{tv tv':Value}{j:Nat}{o:Obj}(h:ToMid w K X M tv j wx)(h2:wW w2 (K.withZ fun k=>K.Z k∨tv.ownBlock=some k) X2 (xE (j+1) M))(hs2:Stp X w X2 w2)(hr2:w2.ownsRow w.heap.size 75 2 tv j ((toL M.f.length j).flatMap za))
 (hXB:∀k,X k->k<w.heap.size) (hB:K.B<=w.heap.size) (hg:(w2.alloc o).grownBy w3 tv.ownBlock) (hown:w3.ownsRow w.heap.size 75 2 tv' (j+1) ((toL M.f.length j).flatMap za++za (⟨((M.f.length+j:Nat):Int),[]⟩,.slice none 0 0))) (hat:∀k,tv'.ownBlock=some k->tv.ownBlock=some k∨w2.heap.size<=k):ToMid w K X M tv' (j+1) w3:=by
 obtain⟨fv,vv,l,h2⟩:=h2
 have hsz:w2.heap.size<=w3.heap.size:=by have:=hg.size;simp at this;omega
 have hk:∀k,k<w2.heap.size->tv.ownBlock≠some k->w3.heap[k]? =w2.heap[k]?:=fun k hk hne=>(hg.block k (by simp;omega) (fun e=>hne e.symm)).trans (Below.heap_alloc w2 o k hk)
 refine⟨?_,X2,⟨fv,vv,l,h2.off (K:=K.withZ fun k=>K.Z k∨tv.ownBlock=some k) hsz ⟨hg.os,hg.tape,hg.output⟩ (fun k hk' hz=>hk k hk' (fun e=>by have h1:k<K.B:=hz (.inr e);have:=(hr2.lt k e).1;omega)) (fun k e=>e.elim (fun e=> .inl (.inl e)) (fun e=>(hat k e).elim (fun e=> .inl (.inr e)) .inr)) (fun k e=>e.elim (fun e=>Nat.lt_of_lt_of_le (h2.env.zl k (.inl e)) hsz) (fun e=>(hown.lt k e).2))⟩,?_⟩
 ·rw[toL_succ,List.flatMap_append];exact hown
 ·refine⟨hg.os.trans hs2.os,hg.tape.trans hs2.tape,hg.output.trans hs2.output,Nat.le_trans hs2.size hsz,hs2.new,fun k hk' hx'=>(hk k (Nat.lt_of_lt_of_le hk' hs2.size) (fun e=>?_)).trans (hs2.kept k hk' hx')⟩
  have:=(hr2.lt k e).1;omega
theorem ToMid.done {w wx:World}{K:MKC}{X:Nat->Prop}{M:MS}{tv:Value}{j:Nat}(h:ToMid w K X M tv j wx)(hX:∀k,K.Z k->k<w.heap.size)(hM:M.f.length+j<=1000000):∃Xj,wW wx K Xj (xE j M)/\Stp X w Xj wx/\vT wx (K.av Xj) tv (xk M.f.length j):=by
 obtain⟨Xj,⟨fv,vv,l,hm⟩,hs⟩:=h.made
 refine⟨Xj,⟨fv,vv,l,hm.off (Z2:=K.Z) (Nat.le_refl _) ⟨rfl,rfl,rfl⟩ (fun _ _ _=>rfl) (fun k e=> .inl (.inl e)) (fun k e=>hm.env.zl k (.inl e))⟩,hs,?_⟩
 rw[<-toL_fst]
 refine ld (by rw[toL_len];exact h.own) (fun q hq=>?_) (fun k e hx=>hx.elim (fun e2=>hm.env.zx k e2 (.inr e)) (fun e2=>?_))
 ·unfold toL at hq
  obtain⟨m,hm2,rfl⟩:=List.mem_map.1 hq
  have:=List.mem_range.1 hm2
  exact⟨vG _ (by show -1000000<=((M.f.length+m:Nat):Int);omega) (by show((M.f.length+m:Nat):Int)<=1000000;omega),yE.nil⟩
 ·have:=(h.own.lt k e).1
  have:=hX k e2
  omega
theorem pj {w:World}{xs:List Int}{blk:Int}(hx:∀x∈xs,I64 x)(hl:xs.length<=1000)(hb:I64 blk)(X:Nat->Prop)(hX:∀k,X k->k<w.heap.size):
 vT ((w.alloc (.cells (xs.map fun x=>Value.int .i64 x).toArray 3)).alloc (.cells #[.int .i64 blk,.slice (some ⟨w.heap.size,0,none⟩) xs.length xs.length] 75)) X (.slice (some ⟨w.heap.size+1,0,none⟩) 1 1) [⟨blk,xs⟩]:=by
 refine qt (l:=[((⟨blk,xs⟩:IEdge),Value.slice (some ⟨w.heap.size,0,none⟩) xs.length xs.length)]) (e:=75) (zI (by simp)) (fun e=>by have:=hX _ e;omega) (fun q hq=>?_) (by simp)
 rw[List.mem_singleton] at hq
 subst hq
 exact⟨hb,ki (zB (zI rfl)) (fun e=>by have:=hX _ e;omega) hx (by omega)⟩
theorem edgeCell {w:World}{X:Nat->Prop}{v:Value}{xs:List IEdge}{a:Option Addr}{n c:Nat}(h:vT w X v xs)(hv:v=.slice a n c){k:Nat}{x:IEdge}(hx:xs[k]? =some x):∃b o,a=some ⟨b,o,none⟩/\w.cell? ⟨b,o+k*2,none⟩=some (.int .i64 x.block):=by
 subst hv
 obtain⟨a',c',e,_,_,h3⟩:=h
 cases e
 obtain⟨b,o,h4,_,_,h5,_⟩:=h3 k x hx
 exact⟨b,o,h4,h5⟩
theorem nl {tg n k:Nat}(h:k<n):(xk tg n)[k]? =some ⟨((tg+k:Nat):Int),[]⟩:=by unfold xk;rw[List.getElem?_map,List.getElem?_range h];rfl
theorem MkIn.cut {w:World}{K:MKC}{X:Nat->Prop}{M:MS}{fv:Value}{l:List BM}{a:Option Addr}{n c k:Nat}(h:MkIn w K X M fv (.slice a n c) l)(hk:k<=M.vals.length):
 MkIn (w.setCell ⟨K.pm,7,none⟩ (.slice a k c)) K X {M with vals:=M.vals.take k } fv (.slice a k c) l/\Stp X w X (w.setCell ⟨K.pm,7,none⟩ (.slice a k c)):=by
 have hv:=h.vown
 obtain⟨a',c',e⟩:=zG hv
 cases e
 have hlen:(M.vals.take k).length=k:=by rw[List.length_take];omega
 refine h.setC 7 _ {M with vals:=M.vals.take k } (.slice a k c) rfl rfl ?_ (fun x hx=>h.v64 x (List.mem_of_mem_take hx)) ?_ ?_ h.lft
 ·show w.ownsRow K.B 3 1 (.slice a k c) (M.vals.take k).length ((M.vals.take k).map zN)
  rw[hlen,List.map_take]
  exact own_take hv hk
 ·intro j e
  refine h.xv j ?_
  cases a with
  |none=>cases e
  |some a=>exact e
 ·have:=h.bnd
  unfold MS.sz at this ⊢
  simp only[hlen]
  omega
theorem MkIn.goto {w:World}{K:MKC}{X:Nat->Prop}{M:MS}{fv vv:Value}{l:List BM}(h:MkIn w K X M fv vv l)(k:Nat):
 MkIn (w.setCell ⟨K.pm,5,none⟩ (.int .i64 (k:Int))) K X {M with cur:=k } fv vv l/\Stp X w X (w.setCell ⟨K.pm,5,none⟩ (.int .i64 (k:Int))):=
 h.setC 5 _ {M with cur:=k } vv rfl rfl h.vown h.v64 h.xv h.bnd h.lft
theorem MkIn.parAt {w:World}{K:MKC}{X:Nat->Prop}{M:MS}{fv vv:Value}{l:List BM}(h:MkIn w K X M fv vv l){i:Nat}{b:IBlk}(hb:M.f[i]? =some b):
 ∃g c pa pc,fv=.slice (some ⟨g,0,none⟩) l.length c/\g<w.heap.size/\w.cell? ⟨g,i*5,none⟩=some (.slice pa b.params.length pc)/\∀k x,b.params[k]? =some x->∃bb o,pa=some ⟨bb,o,none⟩/\bb<w.heap.size/\w.cell? ⟨bb,o+k,none⟩=some (.int .i64 x)/\I64 x:=by
 obtain⟨q,hq,rfl,hok⟩:=h.getB hb
 obtain⟨g,c,hfv,hXg,hgl,hgp⟩:=h.fblk hq
 have hrg:=z9 yr h.own (by rw[hfv];rfl) hq
 have e0:w.cell? ⟨g,i*5,none⟩=some q.pv:=hrg 0 _ rfl
 obtain⟨pa,pc,hpv,h1,h2,h3⟩:=hok.par
 refine⟨g,c,pa,pc,hfv,hgl,by rw[e0,hpv],fun k x hx=>?_⟩
 obtain⟨bb,o,h4,h5,h6,h7,h8⟩:=h3 k x hx
 rw[Nat.mul_one] at h7
 exact⟨bb,o,h4,h5,h7,h8⟩
open Go.RowKit
theorem Try.info_edge:(Try.prog.info? 75).map (fun i=>(i.zero,i.size,i.bytes))=some (some (.agg #[.int .i64 0,.slice none 0 0]),2,32):=by kernel_rfl
def sU (d:Nat):Prop:=∀(w:World) (K:MKC) (X:Nat->Prop) (M:MS),wW w K X M->M.cur<M.f.length->M.sz+pC d<=1000000->
 Calls Try.prog 61 #[.pointer (some ⟨K.pm,0,none⟩),.int .i64 (d:Int)] w (yk K X w (zp K.E d M) (.tuple #[]))
theorem OpSt.part {w0 w:World}{K:MKC}{X0:Nat->Prop}{M0 M:MS}{c d:Nat}(h:OpSt w0 K X0 M0 c w M)(hP:sU d)(hz:M0.sz+(c+pC d)<=1000000):
 Calls Try.prog 61 #[.pointer (some ⟨K.pm,0,none⟩),.int .i64 (d:Int)] w fun e w'=>e=.returned (.tuple #[])/\Hid (OpSt w0 K X0 M0 (c+pC d) w' (zp K.E d M)):=by
 obtain⟨X,hm,hs⟩:=h.made
 refine(hP w K X M hm h.cur (by have:=h.gr.sz;omega)).mono ?_
 rintro e w' ⟨rfl,X',hm',hs'⟩
 have hg:=xw K.E hm.alt d M
 exact⟨rfl,Lib.hid ⟨⟨X',hm',hs.trans hs'⟩,h.gr.trans hg,hg.cur h.cur⟩⟩
structure ArmMid (w:World) (K:MKC) (X:Nat->Prop) (M:MS) (d tg join n j:Nat) (wx:World) (Mj:MS):Prop where
 made:∃Xj,wW wx K Xj Mj/\Stp X w Xj wx
 rest:uV K.E (zp K.E d) tg join M.vals.length n 0 M=uV K.E (zp K.E d) tg join M.vals.length (n-j) j Mj
 vals:Mj.vals=M.vals
 gr:GrowP (j*(pC d+5)) M Mj
theorem ArmMid.next {w wx w2:World}{K:MKC}{X Xj:Nat->Prop}{M Mj:MS}{d tg join n j:Nat}(h:ArmMid w K X M d tg join n j wx Mj)(hj:j<n)(hs:Stp X w Xj wx)(hf:tg+n<M.f.length)
 (h2:∃X2,wW w2 K X2 {wM K.E join j (zp K.E d {Mj with cur:=tg+j }) with vals:=(wM K.E join j (zp K.E d {Mj with cur:=tg+j })).vals.take M.vals.length }/\Stp Xj wx X2 w2):
 ArmMid w K X M d tg join n (j+1) w2 {wM K.E join j (zp K.E d {Mj with cur:=tg+j }) with vals:=(wM K.E join j (zp K.E d {Mj with cur:=tg+j })).vals.take M.vals.length }:=by
 obtain⟨X2,hm2,hs2⟩:=h2
 have hE:=hm2.alt
 have h1:=((vk Mj (tg+j) (by have:=h.gr.len;omega)).trans ((xw K.E hE d _).trans (su K.E join j (zp K.E d {Mj with cur:=tg+j })))).mono (show 0+(pC d+5)<=pC d+5 by omega)
 have h3:=sY h1
 have hl:Mj.vals.length=M.vals.length:=by rw[h.vals]
 rw[hl] at h3
 refine⟨⟨X2,hm2,hs.trans hs2⟩,?_,?_,?_⟩
 ·rw[h.rest,show n-j=(n-(j+1))+1 by omega,rg]
 ·have:=uF h1.pre
  rw[hl] at this
  exact this.trans h.vals
 ·have:=h.gr.trans h3
  rw[Nat.succ_mul]
  exact this
theorem lH {d:Nat}(hd:d<=5)(hP:sU d){w:World}{K:MKC}{X:Nat->Prop}{M:MS}(h:wW w K X M)(hcur:M.cur<M.f.length){n:Nat}(hn2:2<=n)(hn4:n<=4)(hz:M.sz+(31+4*pC d)<=1000000):
 Calls Try.prog 92 #[.pointer (some ⟨K.pm,0,none⟩),.int .i64 ((d:Int)+1),.int .i64 (n:Int)] w (yk K X w (xi K.E (zp K.E d) n M) (.tuple #[])):=by
 have HA:=Lib.hid (OpSt.start h hcur)
 have HZ:=Lib.hid (And.intro hz hP)
 have HKC:=Lib.hid hcur
 have hkl:K.B<=w.heap.size/\(∀k,K.Z k->k<w.heap.size):=by
  obtain⟨fv,vv,l,hi⟩:=h
  exact⟨hi.size,hi.env.zl⟩
 have HKL:=Lib.hid hkl
 clear h hcur hz hP hkl
 go_enter Try.func92,Try.ntmps92
 go_upto_region 1 with(go_at_call 62;go_must (refine(HA.out.any (by have:=HZ.out.1;omega)).mono ?_;rintro e w1 ⟨x,HX,rfl,HM1⟩))
 obtain⟨M1,hM1⟩:∃M1,(zJ K.E M).2=M1:=⟨_,rfl⟩
 rw[hM1] at HM1
 obtain⟨X1,hm1,hs1⟩:=HM1.out.made
 have hsz1:=HM1.out.gr.sz
 have hx1:(∀k,X1 k->k<w1.heap.size)/\K.B<=w1.heap.size/\(∀k,K.Z k->k<w1.heap.size)/\M1.f.length<=999900:=by
  obtain⟨fv,vv,l,hi⟩:=hm1
  refine⟨hi.xl,hi.size,hi.env.zl,?_⟩
  have h1:M1.f.length<=M1.sz:=by unfold MS.sz;omega
  have h2:=HZ.out.1
  have h3:pC d≥101:=by cases d<;>unfold pC<;>omega
  omega
 have HT0:=Lib.hid (ToMid.start hm1)
 have H1:=Lib.hid (And.intro hs1 (And.intro hx1 hM1))
 clear hm1 hs1 hsz1 hx1 hM1 HA
 go_wp2
 go_loopw [7,8] (fun tv kv wx=>∃(j:Nat) (ta:Option Addr) (tc:Nat),j<=n/\tv=.slice ta j tc/\kv=.int .i64 (j:Int)/\Hid (ToMid w1 K X1 M1 (.slice ta j tc) j wx)) (fun _ kv _=>n-(intOf kv).toNat)
 case atStart=>exact⟨0,none,0,Nat.zero_le _,rfl,rfl,HT0⟩
 case round=>
  obtain⟨j,ta,tc,hj,rfl,rfl,HT⟩:=hrel
  by_cases hlt:j<n
  ·have hltI:(j:Int)<(n:Int):=by omega
   obtain⟨Xj,hmj,hsj⟩:=HT.out.made
   have hblk:=rU hmj (n:=0) (by have h1:=(vW j M1).sz;have h2:=HM1.out.gr.sz;have h3:=HZ.out.1;omega)
   rw[tB] at hblk
   have hhat:∀(w4:World) (X4:Nat->Prop),Stp Xj wr X4 w4->w4.ownsRow w1.heap.size 75 2 (.slice ta j tc) j ((toL M1.f.length j).flatMap za):=fun w4 X4 hs4=>yD HT.out.own (fun k e=>hs4.kept k (HT.out.own.lt k e).2 (fun e2=>by
    obtain⟨fv,vv,l,hi⟩:=hmj
    exact hi.env.zx k e2 (.inr e)))
   obtain⟨ij,hij,hzj0,hzj1,hzj2⟩:=info_parts Try.info_edge
   have HN:=Lib.hid (And.intro hblk (And.intro hsj (And.intro hhat hlt)))
   have hszr:=hsj.size
   clear hmj hsj hblk hhat hlt
   go_wp2_with (first|(go_at_call 60;go_must (refine HN.out.1.mono ?_;rintro e w4 ⟨rfl,X4,hm4,hs4⟩;have hr4:=HN.out.2.2.1 w4 X4 hs4;have hs4z:=hs4.size;have hsrc:yM (w4.alloc (.cells #[.int .i64 ((M1.f.length+j:Nat):Int),.slice none 0 0] 75)) 2 (.slice (some ⟨w4.heap.size,0,none⟩) 1 1) 1 (za (⟨((M1.f.length+j:Nat):Int),[]⟩,.slice none 0 0)):=yM.cells (zI rfl) rfl (by simp[za,Value.oneCell'])))|(at_builtin;go_must (refine zK _ rfl (.tmp 20) (.tmp 24) 45 rfl w1.heap.size 75 ij (.agg #[.int .i64 0,.slice none 0 0]) 2 32 Try.underlying45 hij hzj0 hzj1 hzj2 rfl (by decide) (.slice ta j tc) j ((toL M1.f.length j).flatMap za) rfl (hr4.alloc _) _ 1 (za (⟨((M1.f.length+j:Nat):Int),[]⟩,.slice none 0 0)) rfl hsrc (by unfold maxLen;omega) (by omega) (by simp;omega) ?_;intro v9 w9 hown hgrow hat)))
   obtain⟨ra9,rc9,rfl⟩:=zG hown
   go_roundw
   case rel=>
    refine⟨j+1,ra9,rc9,HN.out.2.2.2,rfl,by go_num,Lib.hid (HT.out.next hm4 (HN.out.2.1.trans hs4) hr4 H1.out.2.1.1 H1.out.2.1.2.1 hgrow hown (fun k e=>?_))⟩
    rcases hat with e2|e2
    ·exact .inl (by rw[<-e2];exact e)
    ·right
     have e3:=e2.symm.trans e
     simp at e3
     omega
   case measure=>have:=HN.out.2.2.2;simp[intOf];omega
  ·obtain rfl:j=n:=by omega
   have hltI:¬(j:Int)<(j:Int):=by omega
   obtain⟨X2,hm2,hs2,hed⟩:=HT.out.done H1.out.2.1.2.2.1 (by have:=H1.out.2.1.2.2.2;omega)
   have hg2:=HM1.out.gr.trans (vW j M1)
   have hl2:=tB j M1
   obtain⟨tg,htg⟩:∃tg,M1.f.length=tg:=⟨_,rfl⟩
   rw[htg] at hl2 hed
   obtain⟨M2,hM2⟩:∃M2,xE j M1=M2:=⟨_,rfl⟩
   rw[hM2] at hm2 hg2 hl2
   have HB2:=Lib.hid (OpSt.start hm2 (hg2.cur HKC.out))
   have hz2:=hg2.sz
   have hblk1:=HB2.out.block 1 (by have:=HZ.out.1;omega)
   rw[hl2] at hblk1
   obtain⟨jn,hjn⟩:∃jn,tg+j=jn:=⟨_,rfl⟩
   rw[hjn] at hblk1
   have H2:=Lib.hid (And.intro (H1.out.1.trans hs2) (And.intro hed (And.intro hz2 (And.intro hM2 (And.intro htg (And.intro hjn (And.intro hl2 hg2)))))))
   have HBLK:=Lib.hid hblk1
   clear hm2 hs2 hed hg2 hl2 hM2 htg hz2 hblk1 hjn HT
   go_upto_region 7 with(go_at_call 60;go_must (refine HBLK.out.mono ?_;rintro e w3 ⟨rfl,HM3⟩))
   obtain⟨kd,hkd⟩:∃kd:Int,(if 2<j then 3 else 2)=kd:=⟨_,rfl⟩
   have hkd64:I64 kd:=by rw[<-hkd];split<;>exact yF _ rfl
   have hkd3:2<j->kd=3:=fun e=>by rw[<-hkd,if_pos e]
   have hkd2:¬2<j->kd=2:=fun e=>by rw[<-hkd,if_neg e]
   have HKD:=Lib.hid (And.intro hkd (And.intro hkd64 (And.intro hkd3 hkd2)))
   clear hkd hkd64 hkd3 hkd2
   go_upto_if 32 with fail
   go_cut [] (fun wx=>Hid (Below w3.heap.size w3 wx/\wx.heap[w3.heap.size]? =some (.cells #[.int .i64 kd,.int .i64 x,.slice ta j tc] 47 (0,0))))
   case first=>
    by_cases h3:2<j
    ·have h3I:(2:Int)<(j:Int):=by omega
     have hk:=HKD.out.2.2.1 h3
     subst hk
     go_wp2
     go_meet
     exact Lib.hid ⟨(Below.refl _ _).alloc (Nat.le_refl _) _,zI rfl⟩
    ·have h3I:¬(2:Int)<(j:Int):=by omega
     have hk:=HKD.out.2.2.2 h3
     subst hk
     go_wp2
     go_meet
     exact Lib.hid ⟨(Below.refl _ _).alloc (Nat.le_refl _) _,zI rfl⟩
   case rest=>
   obtain⟨hb4,ht4⟩:=hcut.out
   have t0:=zA (i:=0) ht4 rfl
   have t1:=zA (i:=1) ht4 rfl
   have t2:=zA (i:=2) ht4 rfl
   have HEND:=Lib.hid ((HM3.out.below hb4).endB kd x (xk tg j) (.slice ta j tc) HKD.out.2.1 HX.out.1 (fun X hm hs=>H2.out.2.1.step yq (hs.av K)))
   clear hb4 ht4 hcut
   go_upto_region 11 with(go_at_call 63;go_must (refine HEND.out.mono ?_;rintro e w5 ⟨rfl,HM5⟩))
   obtain⟨M3,hM3⟩:∃M3,(M2.block 1).endB ⟨kd,x,xk tg j⟩=M3:=⟨_,rfl⟩
   rw[hM3] at HM5
   obtain⟨X5,hm5,hs5⟩:=HM5.out.made
   have hed5:=H2.out.2.1.step yq (hs5.av K)
   have hm5':∃fv5 vv5 l5,MkIn w5 K X5 M3 fv5 vv5 l5:=hm5
   obtain⟨fv5,vv5,l5,hi5⟩:=hm5'
   have c7:=hi5.c7
   obtain⟨va5,vc5,hvv5⟩:=zG hi5.vown
   rw[hvv5] at c7
   have hpm5:=lt_of_block hi5.blk
   have hlen3:M3.f.length=jn+1:=by rw[<-hM3,(zv _ _).len,yz,<-H2.out.2.2.2.2.2.1];have:=H2.out.2.2.2.2.2.2.1;omega
   have hz3:M3.sz<=M.sz+(6+j):=by have:=HM5.out.gr.sz;have:=H2.out.2.2.1;omega
   have hz0:6+j+j*(pC d+5)+1<=31+4*pC d:=by have:=Nat.mul_le_mul_right (pC d+5) hn4;omega
   have H5:=Lib.hid (And.intro (H2.out.1.trans hs5) (And.intro hed5 (And.intro hM3 (And.intro hlen3 (And.intro hz3 hz0)))))
   have HA0:=Lib.hid (show ArmMid w5 K X5 M3 d tg jn j 0 w5 M3 from⟨⟨X5,hm5,Stp.refl _ _⟩,rfl,rfl,(GrowP.refl _).mono (Nat.zero_le _)⟩)
   clear hm5 hs5 hed5 hi5 hM3 hlen3 hz3 hz0 hvv5 t0 t1 t2
   go_wp2
   clear c7 hpm5
   go_loopw [12] (fun kv wx=>∃(i:Nat) (Mi:MS),i<=j/\kv=.int .i64 (i:Int)/\Hid (ArmMid w5 K X5 M3 d tg jn j i wx Mi)) (fun kv _=>j-(intOf kv).toNat)
   case atStart=>exact⟨0,M3,Nat.zero_le _,rfl,HA0⟩
   case round=>
    obtain⟨i,Mi,hi,rfl,HAM⟩:=hrel
    obtain⟨Xi,hmi,hsi⟩:=HAM.out.made
    obtain⟨fv,vv,l,hin⟩:=hmi
    by_cases hlt:i<j
    ·have hltI:(i:Int)<(j:Int):=by omega
     have hedi:=H5.out.2.1.step yq (hsi.av K)
     obtain⟨eb,eo,hta,hec⟩:=edgeCell hedi rfl (nl hlt)
     obtain⟨ti,hti⟩:∃ti,tg+i=ti:=⟨_,rfl⟩
     simp only[hti] at hec
     have f5:=hin.free 5
     have hpmi:=lt_of_block hin.blk
     have c5:=hin.c5
     have hgo:=hin.goto ti
     have hzi:Mi.sz<=M3.sz+i*(pC d+5):=HAM.out.gr.sz
     have hmul:i*(pC d+5)+(pC d+5)<=j*(pC d+5):=by have:=Nat.mul_le_mul_right (pC d+5) hlt;rw[Nat.succ_mul] at this;exact this
     have hbd:Mi.sz+(pC d+5)<=1000000:=by have h1:=HZ.out.1;have h2:=H5.out.2.2.2.2.1;have h3:=H5.out.2.2.2.2.2;omega
     have hcu:ti<Mi.f.length:=by have h1:=HAM.out.gr.len;have h2:=H5.out.2.2.2.1;have h3:=H2.out.2.2.2.2.2.1;omega
     have HTI:=Lib.hid hti
     have HI:=Lib.hid (And.intro hsi (And.intro hgo (And.intro hbd hcu)))
     subst hta
     clear hti hin hsi hedi hgo hzi hmul hbd hcu
     go_upto_region 16 with fail
     generalize hW6:wr.setCell ⟨K.pm,5,none⟩ (.int .i64 (ti:Int))=W6 at *
     obtain⟨M6,hM6⟩:∃M6:MS,{Mi with cur:=ti }=M6:=⟨_,rfl⟩
     have hz6:M6.sz+(pC d+5)<=1000000:=by rw[<-hM6];exact HI.out.2.2.1
     have hP6:OpSt W6 K Xi M6 0 W6 M6:=by rw[<-hM6];exact OpSt.start HI.out.2.1.1.at HI.out.2.2.2
     have HP6:=Lib.hid (And.intro (hP6.part HZ.out.2 (by omega)) (And.intro hM6 hz6))
     have hwd:IntKind.i64.wrap ((d:Int)+1-1)=(d:Int):=by rw[IntWalk.i64_in _ (by omega)];omega
     clear hM6 hz6 hP6 hW6 c5 f5 hec
     go_upto_region 17 with(go_at_call 61;go_must (refine HP6.out.1.mono ?_;rintro e w7 ⟨rfl,HM7⟩))
     obtain⟨M7,hM7⟩:∃M7,zp K.E d M6=M7:=⟨_,rfl⟩
     rw[hM7] at HM7
     have HM7e:=Lib.hid hM7
     clear hM7
     go_cut [65] (fun v wx=>∃bb:Bool,v=.bool bb/\(bb=true↔(tkV K.E M7 12=11/\0<i))/\Hid (OpSt W6 K Xi M6 (0+pC d+1) wx M7.tick))
     case first=>
      by_cases ht:tkV K.E M7 12=11
      ·have HTK:=Lib.hid (HM7.out.takeK 12 11 11 rfl ht (by decide) (by decide) (by have:=HP6.out.2.2;omega))
       have HT:=Lib.hid ht
       clear ht
       by_cases h0:0<i
       ·have h0I:(0:Int)<(i:Int):=by omega
        go_wp2_with (go_at_call 59;go_must (refine HTK.out.mono ?_;rintro e w8 ⟨rfl,HM8⟩))
        go_meet
        exact⟨true,rfl,⟨fun _=>⟨HT.out,h0⟩,fun _=>rfl⟩,HM8⟩
       ·have h0I:¬(0:Int)<(i:Int):=by omega
        go_wp2_with (go_at_call 59;go_must (refine HTK.out.mono ?_;rintro e w8 ⟨rfl,HM8⟩))
        go_meet
        exact⟨false,rfl,⟨(fun e=>by cases e),(fun e=>absurd e.2 h0)⟩,HM8⟩
      ·have HTK:=Lib.hid (HM7.out.take 12 (by decide) (by decide) (by have:=HP6.out.2.2;omega))
       have HT:=Lib.hid ht
       clear ht
       go_wp2_with (go_at_call 59;go_must (refine HTK.out.mono ?_;rintro e w8 ⟨z,hz12,HZ12,rfl,HM8⟩;have tz:((z:Int)==11)=false:=by rw[beq_eq_false_iff_ne];have:=HZ12.out;have:=HT.out;omega))
       go_meet
       exact⟨false,rfl,⟨(fun e=>by cases e),(fun e=>absurd e.1 HT.out)⟩,HM8⟩
     case rest=>
     obtain⟨bb,rfl,hbb,HM8⟩:=hcut
     have HBB:=Lib.hid hbb
     clear hbb
     have HANY:=Lib.hid (HM8.out.any (by have:=HP6.out.2.2;omega))
     go_upto_if 65 with fail
     go_cut [] (fun wx=>Hid (OpSt W6 K Xi M6 (0+pC d+1+4) wx (wM K.E jn i M7)))
     case first=>
      cases bb
      ·go_wp2_with (first|(go_at_call 62;go_must (refine HANY.out.mono ?_;rintro e w9 ⟨y,HY,rfl,HM9⟩;have HEN:=Lib.hid (HM9.out.endN 1 0 [⟨(jn:Int),[y]⟩] (.slice (some ⟨w9.heap.size+1,0,none⟩) 1 1) (yF _ rfl) (yF _ rfl) (((Below.refl _ _).alloc (Nat.le_refl _) _).alloc (by simp) _) (pj (w:=w9) (xs:=[y]) (blk:=(jn:Int)) (fun x hx=>by rw[List.mem_singleton] at hx;subst hx;exact HY.out.1) (by simp) (vG _ (by omega) (by have h1:=H5.out.2.2.2.1;have h2:=H5.out.2.2.2.2.1;have h3:=HZ.out.1;unfold MS.sz at *;omega))))))|(go_at_call 63;go_must (refine HEN.out.mono ?_;rintro e w10 ⟨rfl,HM10⟩)))
       go_meet
       refine Lib.hid ?_
       have e1:wM K.E jn i M7=(zJ K.E M7.tick).2.endB ⟨1,0,[⟨(jn:Nat),[(zJ K.E M7.tick).1]⟩]⟩:=by
        unfold wM
        rw[if_neg (fun e=>by have:=HBB.out.2 e;cases this)]
       rw[e1,HY.out.2]
       exact HM10.out
      ·go_wp2_with (first|(go_at_call 62;go_must (refine HANY.out.mono ?_;rintro e w9 ⟨y,HY,rfl,HM9⟩))|(go_at_call 63;go_must (refine(HM9.out.endB 4 y [] (.slice none 0 0) (yF _ rfl) HY.out.1 (fun X _ _=>yE.nil)).mono ?_;rintro e w10 ⟨rfl,HM10⟩)))
       go_meet
       refine Lib.hid ?_
       have e1:wM K.E jn i M7=(zJ K.E M7.tick).2.endB ⟨4,(zJ K.E M7.tick).1,[]⟩:=by
        unfold wM
        rw[if_pos (HBB.out.1 (by trivial))]
       rw[e1,HY.out.2]
       exact HM10.out
     case rest=>
     obtain⟨X9,⟨fv9,vv9,l9,hi9⟩,hs9⟩:=hcut.out.made
     obtain⟨va9,vc9,hvv9⟩:=zG hi9.vown
     subst hvv9
     have c7:=hi9.c7
     have f7:=hi9.free 7
     have hpm9:=lt_of_block hi9.blk
     have hge9:M3.vals.length<=(wM K.E jn i M7).vals.length:=by
      have h1:=sg hcut.out.gr.pre
      rw[<-HP6.out.2.1] at h1
      have h2:({Mi with cur:=ti }:MS).vals=Mi.vals:=rfl
      rw[h2,HAM.out.vals] at h1
      exact h1
     have hle9:M3.vals.length<=vc9:=Nat.le_trans hge9 (zm hi9.vown).1
     have hle9b:vc9<=9223372036854775807:=by have:=(zm hi9.vown).2;omega
     have hct:=hi9.cut hge9
     have HCT:=Lib.hid (And.intro hct hs9)
     clear hi9 hge9 hct hs9 hcut
     go_wp2
     go_roundw
     case rel=>
      have hq:=HAM.out.next (w2:=wc.setCell ⟨K.pm,7,none⟩ (.slice va9 M3.vals.length vc9)) hlt HI.out.1 (by have h1:=H5.out.2.2.2.1;have h2:=H2.out.2.2.2.2.2.1;omega) ⟨X9,?_,(HI.out.2.1.2.trans HCT.out.2).trans HCT.out.1.2⟩
      ·exact⟨i+1,_,hlt,by go_num,Lib.hid hq⟩
      ·rw[HTI.out,HP6.out.2.1,HM7e.out]
       exact HCT.out.1.1.at
     case measure=>have:=hlt;simp[intOf];omega
    ·obtain rfl:i=j:=by omega
     have hltI:¬(i:Int)<(i:Int):=by omega
     have hrest:=HAM.out.rest
     rw[show i-i=0 by omega] at hrest
     have hpar:∃b,Mi.f[jn]? =some b/\b.params=[(M2.next:Int)]:=by
      have hl2:=H2.out.2.2.2.2.2.2.1
      have hj2:=H2.out.2.2.2.2.2.1
      have h0:(M2.block 1).f[jn]? =some (wJ M2.next 1):=by
       show(M2.f++ [wJ M2.next 1])[jn]? =_
       rw[List.getElem?_append_right (by omega),show jn-M2.f.length=0 by omega]
       rfl
      obtain⟨b1,h1,h2⟩:=(zv (M2.block 1) ⟨kd,x,xk tg i⟩).par _ _ h0
      rw[H5.out.2.2.1] at h1
      obtain⟨b2,h3,h4⟩:=HAM.out.gr.par _ _ h1
      exact⟨b2,h3,h4.trans (h2.trans rfl)⟩
     obtain⟨bj,hbj,hbp⟩:=hpar
     have hgo:=hin.goto jn
     have c5:=hin.c5
     have f5:=hin.free 5
     have hpmi:=lt_of_block hin.blk
     have hjl:jn<l.length:=by rw[hin.len];exact(List.getElem?_eq_some_iff.1 hbj).1
     have hlc:=hin.flen
     rw[<-hin.len] at hlc
     have HI:=Lib.hid (And.intro hsi (And.intro hgo (And.intro hbj (And.intro hbp hrest))))
     clear hin hsi hgo hbj hbp hrest
     go_upto_region 22 with fail
     generalize hW6:wr.setCell ⟨K.pm,5,none⟩ (.int .i64 (jn:Int))=W6 at *
     obtain⟨g,c,pa,pc,hfv,hgl,hcp,hpc⟩:=HI.out.2.1.1.parAt (i:=jn) HI.out.2.2.1
     have h0:=hpc 0 (M2.next:Int) (by rw[HI.out.2.2.2.1];rfl)
     obtain⟨bb,o,hpa,hbb,hcell,h64⟩:=h0
     rw[Nat.add_zero] at hcell
     rw[HI.out.2.2.2.1] at hcp
     obtain⟨va,vc,hvv⟩:=zG HI.out.2.1.1.vown
     have hown:=HI.out.2.1.1.vown
     have c4:=HI.out.2.1.1.c4
     have c7:=HI.out.2.1.1.c7
     have f7:=HI.out.2.1.1.free 7
     have lpm:=lt_of_block HI.out.2.1.1.blk
     have nb:=zC hown HI.out.2.1.1.blk (.inr (by decide))
     rw[hvv] at hown c7 nb
     rw[hfv] at c4
     subst hpa
     have HOWN:=Lib.hid hown
     have HVV:=Lib.hid hvv
     have H64:=Lib.hid h64
     have hvl:Mi.vals.length<=999999:=by
      have h1:=HAM.out.vals
      have h2:=H5.out.2.2.2.2.1
      have h3:=HZ.out.1
      have h4:M3.vals.length<=M3.sz:=by unfold MS.sz;omega
      have h5:pC d≥101:=by cases d<;>unfold pC<;>omega
      rw[h1]
      omega
     have c7':∀o,(W6.alloc o).cell? ⟨K.pm,7,none⟩=some (.slice va Mi.vals.length vc):=fun o=>(World.cell?_of_block (w:=W6) (Below.heap_alloc _ _ _ lpm)).trans c7
     have f7':∀o,(W6.alloc o).frozen? ⟨K.pm,7,none⟩=false:=fun o=>(World.frozen?_of_block (w:=W6) (Below.heap_alloc _ _ _ lpm)).trans f7
     have hB2:K.B<=W6.heap.size:=HI.out.2.1.1.size
     obtain⟨ij,hij,hzj0,hzj1,hzj2⟩:=info_parts Try.info_int
     have HP:=Lib.hid hpc
     clear hown hvv h64 hpc hfv hltI c5 f5 hpmi hW6
     go_region_law (first|(refine step_append_lies _ (by rfl) (.tmp 97) (.tmp 109) _ (by rfl) K.B 3 ij (.int .i64 0) 1 8 Try.underlying22 hij hzj0 hzj1 hzj2 rfl (by omega) (.slice va Mi.vals.length vc) Mi.vals.length (Mi.vals.map zN) (by rfl) ((HOWN.out.alloc _).drew) ⟨W6.heap.size,0,none⟩ 1 1 [.int .i64 (M2.next:Int)] (by rfl) (by rfl) (World.news_of_block (cs:=#[.int .i64 (M2.next:Int)]) (t:=3) (fr:=(0,0)) (heap_alloc_new W6 _)) (by simp[Value.oneCell']) (by omega) (by unfold maxLen;omega) (by omega) (by simp;omega) (W6.heap.size+1) (by simp) ?_;intro gg cap3 w3 hown3 hgrow hat hlt4;have cp3:=(hgrow.cell_far ⟨K.pm,7,none⟩ (by simp;omega) (Ne.symm nb)).trans (c7' _);have fp3:=(hgrow.frozen_far ⟨K.pm,7,none⟩ (by simp;omega) (Ne.symm nb)).trans (f7' _)))
     all_goals go_wp2_with fail
     all_goals (first|go_end0|refine bodyPost_ret (results_none rfl _ _ _) rfl ?_)
     all_goals (
      have hg2:=xN hgrow
      rw[<-HVV.out] at hg2 hat
      have hP:=HI.out.2.1.1.putV (vv':=.slice (some ⟨gg,0,none⟩) (Mi.vals.length+1) cap3) (x:=(M2.next:Int)) hg2 hown3 (fun k e=>by
       have e2:gg=k:=by simpa[Value.ownBlock] using e
       subst e2
       rcases hat with e3|e3
       ·exact .inl e3
       ·right;omega) H64.out (by
       have h1:=HAM.out.gr.sz
       have h2:=H5.out.2.2.2.2.1
       have h3:=H5.out.2.2.2.2.2
       have h4:=HZ.out.1
       show Mi.sz+1<=1000000
       omega)
      refine⟨rfl,_,?_,(H5.out.1.trans HI.out.1).trans (HI.out.2.1.2.trans hP.2)⟩
      have e:xi K.E (zp K.E d) i M= {Mi with cur:=jn,vals:=Mi.vals++ [(M2.next:Int)]}:=by
       unfold xi
       simp only
       rw[H1.out.2.2,HX.out.2,H2.out.2.2.2.1,H2.out.2.2.2.2.1,H2.out.2.2.2.2.2.1,HKD.out.1,H5.out.2.2.1,HI.out.2.2.2.2]
       have e0:Mi.f.getD jn ⟨[],[],⟨0,0,[]⟩⟩=bj:=by rw[List.getD_eq_getElem?_getD,HI.out.2.2.1];rfl
       show({Mi with cur:=jn,vals:=Mi.vals++ [((Mi.f.getD jn ⟨[],[],⟨0,0,[]⟩⟩).params).getD 0 0]}:MS)=_
       rw[e0,HI.out.2.2.2.1]
       rfl
      rw[e]
      exact hP.1.at)
end Go.Proofs.Ytojclalkfhoooaa
