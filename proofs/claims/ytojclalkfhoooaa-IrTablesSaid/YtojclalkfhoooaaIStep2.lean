/- Part of a proof. -/
import Derived.Test.YtojclalkfhoooaaGIChk
set_option linter.unusedSimpArgs false
set_option linter.unusedVariables false
set_option maxHeartbeats 1000000
set_option maxRecDepth 100000
namespace Go.Proofs.Ytojclalkfhoooaa
open Go.RowKit
def Res.lt:Res Nat->Prop
 |.ok x _=>x<65536
 |.trap _ _ _=>True
def zQ (K:MK)(w:World)(r:Res Nat)(e:Ending)(w':World):Prop:=e=endOf r/\(∃ov',MachAt w' K r.mach ov')/\Frm K.B w w'/\r.lt
theorem zQ.ok {K:MK}{w w':World}{x:Nat}{m':Mach}{ov':Value}(h:MachAt w' K m' ov')(hF:Frm K.B w w')(hx:x<65536):zQ K w (.ok x m') (.returned (.int .u16 (x:Int))) w':=⟨rfl,⟨ov',h⟩,hF,hx⟩
theorem zQ.trap {K:MK}{w w':World}{k i:Nat}{m':Mach}{ov':Value}(h:MachAt w' K m' ov')(hF:Frm K.B w w'):zQ K w (.trap k i m') (.panicked [oE k i]) w':=⟨rfl,⟨ov',h⟩,hF,trivial⟩
theorem not16 (a:Nat)(h:a<65536):bits .xor .u16 IntKind.u16.max (a:Int)=((65535-a:Nat):Int):=by
 show IntKind.u16.wrap (((BitVec.ofInt 16 65535)^^^(BitVec.ofInt 16 (a:Int))).toNat:Int)=_
 have e1:BitVec.ofInt 16 65535=BitVec.allOnes 16:=by decide
 have e2:(BitVec.ofInt 16 (a:Int)).toNat=a:=by rw[BitVec.ofInt_natCast,BitVec.toNat_ofNat];exact Nat.mod_eq_of_lt h
 rw[e1,BitVec.xor_comm,BitVec.xor_allOnes,BitVec.toNat_not,e2,xY]
 omega
theorem or_low (x y:Nat)(hx:x<256)(hy:y<256):bits .or .u16 (IntKind.u16.wrap (x:Int)) (IntKind.u16.wrap (IntKind.u16.wrap (y:Int)*256))=((x+256*y:Nat):Int):=by
 have e1:IntKind.u16.wrap (x:Int)=(x:Int):=by rw[xY];omega
 have e2:IntKind.u16.wrap (IntKind.u16.wrap (y:Int)*256)=((y*256:Nat):Int):=by rw[xY,xY];omega
 rw[e1,e2,(bits_nat .u16 16 (by decide) wraps_u16 x (y*256) (by omega) (by omega)).2]
 have:=Nat.two_pow_add_eq_or_of_lt (i:=8) (b:=x) (by omega) y
 rw[Nat.or_comm,show y*256=2^8*y by omega,<-this]
 omega
theorem step_1 {w:World}{K:MK}{m:Mach}{ov:Value}(h:MachAt w K m ov){ores oa ob:Int}{on:Nat}(hra:I64 oa)(hrb:I64 ob)(hon:on<65536)(ab:Option Addr)(an ac:Nat){vb vn:Nat}{v:Int->Nat}(hv:xO w vb vn v)(d:Int):
 Calls Try.prog 82 #[.pointer (some ⟨K.pm,0,none⟩),.agg #[.int .i64 1,.int .i64 ores,.int .i64 oa,.int .i64 ob,.int .u16 (on:Int),.slice ab an ac],.map (some vb),.int .i64 d] w (zQ K w (.ok on m)):=by
 have hla:=fun(W:World) (hW:Frm K.B w W)=>(hv.kept hW).look hra
 have hlb:=fun(W:World) (hW:Frm K.B w W)=>(hv.kept hW).look hrb
 have hva:=hv.2 oa
 have hvb:=hv.2 ob
 have hbs:=h.size
 have HW1:=Lib.hid (h.keep ((Below.refl _ _).alloc (Nat.le_refl _) (.cells #[.int .i64 1,.int .i64 ores,.int .i64 oa,.int .i64 ob,.int .u16 (on:Int),.slice ab an ac] 77)))
 have HF1:=Lib.hid ((Frm.refl K.B w).alloc (by omega) (.cells #[.int .i64 1,.int .i64 ores,.int .i64 oa,.int .i64 ob,.int .u16 (on:Int),.slice ab an ac] 77))
 have la:=fun n:Nat=>hla _ (HF1.out.drewN (n:=n))
 have lb:=fun n:Nat=>hlb _ (HF1.out.drewN (n:=n))
 have hnew:(w.alloc (.cells #[.int .i64 1,.int .i64 ores,.int .i64 oa,.int .i64 ob,.int .u16 (on:Int),.slice ab an ac] 77)).heap[w.heap.size]? =some (.cells #[.int .i64 1,.int .i64 ores,.int .i64 oa,.int .i64 ob,.int .u16 (on:Int),.slice ab an ac] 77 (0,0)):=zI rfl
 clear h hv hla hlb
 generalize v oa=xa at *
 generalize v ob=xb at *
 go_enter Try.func82,Try.ntmps82
 go_upto_region 1 with fail
 generalize hW1:w.alloc (.cells #[.int .i64 1,.int .i64 ores,.int .i64 oa,.int .i64 ob,.int .u16 (on:Int),.slice ab an ac] 77)=W1 at *
 clear hW1
 have p0:W1.cell? ⟨w.heap.size,0,none⟩=some (.int .i64 1):=zA hnew (by simp)
 have p2:W1.cell? ⟨w.heap.size,2,none⟩=some (.int .i64 oa):=zA hnew (by simp)
 have p3:W1.cell? ⟨w.heap.size,3,none⟩=some (.int .i64 ob):=zA hnew (by simp)
 have p4:W1.cell? ⟨w.heap.size,4,none⟩=some (.int .u16 (on:Int)):=zA hnew (by simp)
 go_cut [9,10] (fun x y wx=>x=.int .u16 (xa:Int)/\y=.int .u16 (xb:Int)/\∃n,wx=W1.drewN n)
 case first=>
  go_quiet (fail)
  go_wp2
  go_meet
  exact⟨rfl,rfl,_,rfl⟩
 case rest=>
  obtain⟨rfl,rfl,n,rfl⟩:=hcut
  have HM:=Lib.hid (HW1.out.drewN n)
  have HF:=Lib.hid (HF1.out.drewN (n:=n))
  have q0:(W1.drewN n).cell? ⟨w.heap.size,0,none⟩=_:=p0
  have q2:(W1.drewN n).cell? ⟨w.heap.size,2,none⟩=_:=p2
  have q4:(W1.drewN n).cell? ⟨w.heap.size,4,none⟩=_:=p4
  clear la lb p0 p2 p3 p4 hnew HW1 HF1
  generalize W1.drewN n=W2 at *
  go_wp2
  go_ret
  exact zQ.ok HM.out HF.out hon
theorem step_3 {w:World}{K:MK}{m:Mach}{ov:Value}(h:MachAt w K m ov){ores oa ob:Int}{on:Nat}(hra:I64 oa)(hrb:I64 ob)(hon:on<65536)(ab:Option Addr)(an ac:Nat){vb vn:Nat}{v:Int->Nat}(hv:xO w vb vn v)(d:Int):
 Calls Try.prog 82 #[.pointer (some ⟨K.pm,0,none⟩),.agg #[.int .i64 3,.int .i64 ores,.int .i64 oa,.int .i64 ob,.int .u16 (on:Int),.slice ab an ac],.map (some vb),.int .i64 d] w (zQ K w (.ok ((65536-v oa)%65536) m)):=by
 have hla:=fun(W:World) (hW:Frm K.B w W)=>(hv.kept hW).look hra
 have hlb:=fun(W:World) (hW:Frm K.B w W)=>(hv.kept hW).look hrb
 have hva:=hv.2 oa
 have hvb:=hv.2 ob
 have hbs:=h.size
 have HW1:=Lib.hid (h.keep ((Below.refl _ _).alloc (Nat.le_refl _) (.cells #[.int .i64 3,.int .i64 ores,.int .i64 oa,.int .i64 ob,.int .u16 (on:Int),.slice ab an ac] 77)))
 have HF1:=Lib.hid ((Frm.refl K.B w).alloc (by omega) (.cells #[.int .i64 3,.int .i64 ores,.int .i64 oa,.int .i64 ob,.int .u16 (on:Int),.slice ab an ac] 77))
 have la:=fun n:Nat=>hla _ (HF1.out.drewN (n:=n))
 have lb:=fun n:Nat=>hlb _ (HF1.out.drewN (n:=n))
 have hnew:(w.alloc (.cells #[.int .i64 3,.int .i64 ores,.int .i64 oa,.int .i64 ob,.int .u16 (on:Int),.slice ab an ac] 77)).heap[w.heap.size]? =some (.cells #[.int .i64 3,.int .i64 ores,.int .i64 oa,.int .i64 ob,.int .u16 (on:Int),.slice ab an ac] 77 (0,0)):=zI rfl
 clear h hv hla hlb
 generalize v oa=xa at *
 generalize v ob=xb at *
 go_enter Try.func82,Try.ntmps82
 go_upto_region 1 with fail
 generalize hW1:w.alloc (.cells #[.int .i64 3,.int .i64 ores,.int .i64 oa,.int .i64 ob,.int .u16 (on:Int),.slice ab an ac] 77)=W1 at *
 clear hW1
 have p0:W1.cell? ⟨w.heap.size,0,none⟩=some (.int .i64 3):=zA hnew (by simp)
 have p2:W1.cell? ⟨w.heap.size,2,none⟩=some (.int .i64 oa):=zA hnew (by simp)
 have p3:W1.cell? ⟨w.heap.size,3,none⟩=some (.int .i64 ob):=zA hnew (by simp)
 have p4:W1.cell? ⟨w.heap.size,4,none⟩=some (.int .u16 (on:Int)):=zA hnew (by simp)
 go_cut [9,10] (fun x y wx=>x=.int .u16 (xa:Int)/\y=.int .u16 (xb:Int)/\∃n,wx=W1.drewN n)
 case first=>
  go_quiet (fail)
  go_wp2
  go_meet
  exact⟨rfl,rfl,_,rfl⟩
 case rest=>
  obtain⟨rfl,rfl,n,rfl⟩:=hcut
  have HM:=Lib.hid (HW1.out.drewN n)
  have HF:=Lib.hid (HF1.out.drewN (n:=n))
  have q0:(W1.drewN n).cell? ⟨w.heap.size,0,none⟩=_:=p0
  have q2:(W1.drewN n).cell? ⟨w.heap.size,2,none⟩=_:=p2
  have q4:(W1.drewN n).cell? ⟨w.heap.size,4,none⟩=_:=p4
  clear la lb p0 p2 p3 p4 hnew HW1 HF1
  generalize W1.drewN n=W2 at *
  go_wp2
  go_ret
  have e:Ending.returned (.int .u16 (IntKind.u16.wrap (-(xa:Int))))=.returned (.int .u16 (((65536-xa)%65536:Nat):Int)):=zh (by rw[xY];omega)
  exact e ▸ zQ.ok HM.out HF.out (by omega)
theorem step_4 {w:World}{K:MK}{m:Mach}{ov:Value}(h:MachAt w K m ov){ores oa ob:Int}{on:Nat}(hra:I64 oa)(hrb:I64 ob)(hon:on<65536)(ab:Option Addr)(an ac:Nat){vb vn:Nat}{v:Int->Nat}(hv:xO w vb vn v)(d:Int):
 Calls Try.prog 82 #[.pointer (some ⟨K.pm,0,none⟩),.agg #[.int .i64 4,.int .i64 ores,.int .i64 oa,.int .i64 ob,.int .u16 (on:Int),.slice ab an ac],.map (some vb),.int .i64 d] w (zQ K w (.ok (65535-v oa) m)):=by
 have hla:=fun(W:World) (hW:Frm K.B w W)=>(hv.kept hW).look hra
 have hlb:=fun(W:World) (hW:Frm K.B w W)=>(hv.kept hW).look hrb
 have hva:=hv.2 oa
 have hvb:=hv.2 ob
 have hbs:=h.size
 have HW1:=Lib.hid (h.keep ((Below.refl _ _).alloc (Nat.le_refl _) (.cells #[.int .i64 4,.int .i64 ores,.int .i64 oa,.int .i64 ob,.int .u16 (on:Int),.slice ab an ac] 77)))
 have HF1:=Lib.hid ((Frm.refl K.B w).alloc (by omega) (.cells #[.int .i64 4,.int .i64 ores,.int .i64 oa,.int .i64 ob,.int .u16 (on:Int),.slice ab an ac] 77))
 have la:=fun n:Nat=>hla _ (HF1.out.drewN (n:=n))
 have lb:=fun n:Nat=>hlb _ (HF1.out.drewN (n:=n))
 have hnew:(w.alloc (.cells #[.int .i64 4,.int .i64 ores,.int .i64 oa,.int .i64 ob,.int .u16 (on:Int),.slice ab an ac] 77)).heap[w.heap.size]? =some (.cells #[.int .i64 4,.int .i64 ores,.int .i64 oa,.int .i64 ob,.int .u16 (on:Int),.slice ab an ac] 77 (0,0)):=zI rfl
 clear h hv hla hlb
 generalize v oa=xa at *
 generalize v ob=xb at *
 go_enter Try.func82,Try.ntmps82
 go_upto_region 1 with fail
 generalize hW1:w.alloc (.cells #[.int .i64 4,.int .i64 ores,.int .i64 oa,.int .i64 ob,.int .u16 (on:Int),.slice ab an ac] 77)=W1 at *
 clear hW1
 have p0:W1.cell? ⟨w.heap.size,0,none⟩=some (.int .i64 4):=zA hnew (by simp)
 have p2:W1.cell? ⟨w.heap.size,2,none⟩=some (.int .i64 oa):=zA hnew (by simp)
 have p3:W1.cell? ⟨w.heap.size,3,none⟩=some (.int .i64 ob):=zA hnew (by simp)
 have p4:W1.cell? ⟨w.heap.size,4,none⟩=some (.int .u16 (on:Int)):=zA hnew (by simp)
 go_cut [9,10] (fun x y wx=>x=.int .u16 (xa:Int)/\y=.int .u16 (xb:Int)/\∃n,wx=W1.drewN n)
 case first=>
  go_quiet (fail)
  go_wp2
  go_meet
  exact⟨rfl,rfl,_,rfl⟩
 case rest=>
  obtain⟨rfl,rfl,n,rfl⟩:=hcut
  have HM:=Lib.hid (HW1.out.drewN n)
  have HF:=Lib.hid (HF1.out.drewN (n:=n))
  have q0:(W1.drewN n).cell? ⟨w.heap.size,0,none⟩=_:=p0
  have q2:(W1.drewN n).cell? ⟨w.heap.size,2,none⟩=_:=p2
  have q4:(W1.drewN n).cell? ⟨w.heap.size,4,none⟩=_:=p4
  clear la lb p0 p2 p3 p4 hnew HW1 HF1
  generalize W1.drewN n=W2 at *
  go_wp2
  go_ret
  have e:Ending.returned (.int .u16 (bits .xor .u16 IntKind.u16.max (xa:Int)))=.returned (.int .u16 ((65535-xa:Nat):Int)):=zh (not16 xa hva)
  exact e ▸ zQ.ok HM.out HF.out (by omega)
theorem step_18 {w:World}{K:MK}{m:Mach}{ov:Value}(h:MachAt w K m ov){ores oa ob:Int}{on:Nat}(hra:I64 oa)(hrb:I64 ob)(hon:on<65536)(ab:Option Addr)(an ac:Nat){vb vn:Nat}{v:Int->Nat}(hv:xO w vb vn v)(d:Int):
 Calls Try.prog 82 #[.pointer (some ⟨K.pm,0,none⟩),.agg #[.int .i64 18,.int .i64 ores,.int .i64 oa,.int .i64 ob,.int .u16 (on:Int),.slice ab an ac],.map (some vb),.int .i64 d] w (zQ K w (pR m (v oa))):=by
 have hla:=fun(W:World) (hW:Frm K.B w W)=>(hv.kept hW).look hra
 have hlb:=fun(W:World) (hW:Frm K.B w W)=>(hv.kept hW).look hrb
 have hva:=hv.2 oa
 have hvb:=hv.2 ob
 have hbs:=h.size
 have HW1:=Lib.hid (h.keep ((Below.refl _ _).alloc (Nat.le_refl _) (.cells #[.int .i64 18,.int .i64 ores,.int .i64 oa,.int .i64 ob,.int .u16 (on:Int),.slice ab an ac] 77)))
 have HF1:=Lib.hid ((Frm.refl K.B w).alloc (by omega) (.cells #[.int .i64 18,.int .i64 ores,.int .i64 oa,.int .i64 ob,.int .u16 (on:Int),.slice ab an ac] 77))
 have la:=fun n:Nat=>hla _ (HF1.out.drewN (n:=n))
 have lb:=fun n:Nat=>hlb _ (HF1.out.drewN (n:=n))
 have hnew:(w.alloc (.cells #[.int .i64 18,.int .i64 ores,.int .i64 oa,.int .i64 ob,.int .u16 (on:Int),.slice ab an ac] 77)).heap[w.heap.size]? =some (.cells #[.int .i64 18,.int .i64 ores,.int .i64 oa,.int .i64 ob,.int .u16 (on:Int),.slice ab an ac] 77 (0,0)):=zI rfl
 clear h hv hla hlb
 generalize v oa=xa at *
 generalize v ob=xb at *
 go_enter Try.func82,Try.ntmps82
 go_upto_region 1 with fail
 generalize hW1:w.alloc (.cells #[.int .i64 18,.int .i64 ores,.int .i64 oa,.int .i64 ob,.int .u16 (on:Int),.slice ab an ac] 77)=W1 at *
 clear hW1
 have p0:W1.cell? ⟨w.heap.size,0,none⟩=some (.int .i64 18):=zA hnew (by simp)
 have p2:W1.cell? ⟨w.heap.size,2,none⟩=some (.int .i64 oa):=zA hnew (by simp)
 have p3:W1.cell? ⟨w.heap.size,3,none⟩=some (.int .i64 ob):=zA hnew (by simp)
 have p4:W1.cell? ⟨w.heap.size,4,none⟩=some (.int .u16 (on:Int)):=zA hnew (by simp)
 go_cut [9,10] (fun x y wx=>x=.int .u16 (xa:Int)/\y=.int .u16 (xb:Int)/\∃n,wx=W1.drewN n)
 case first=>
  go_quiet (fail)
  go_wp2
  go_meet
  exact⟨rfl,rfl,_,rfl⟩
 case rest=>
  obtain⟨rfl,rfl,n,rfl⟩:=hcut
  have HM:=Lib.hid (HW1.out.drewN n)
  have HF:=Lib.hid (HF1.out.drewN (n:=n))
  have q0:(W1.drewN n).cell? ⟨w.heap.size,0,none⟩=_:=p0
  have q2:(W1.drewN n).cell? ⟨w.heap.size,2,none⟩=_:=p2
  have q4:(W1.drewN n).cell? ⟨w.heap.size,4,none⟩=_:=p4
  clear la lb p0 p2 p3 p4 hnew HW1 HF1
  generalize W1.drewN n=W2 at *
  have hx1:yg xa<65536:=Nat.mod_lt _ (by decide)
  have hwr:IntKind.u16.wrap ((xa:Int)+1)=((yg xa:Nat):Int):=by rw[xY];unfold yg;omega
  by_cases h1:wo xa=true
  ·by_cases h2:wo (yg xa)=true
   ·have EE:=Lib.hid (show pR m xa=.ok (tC m xa+256*tC m (yg xa)) m by unfold pR;rw[if_pos h1,if_pos h2])
    obtain⟨r1,r2,_⟩:=HM.out.ramCell h1
    obtain⟨r3,r4,_⟩:=HM.out.ramCell h2
    have C1:=Lib.hid h1
    have C2:=Lib.hid h2
    have R2:=Lib.hid (And.intro r2 r4)
    have t1:True:=trivial
    clear h1 h2 r2 r4
    go_wp2_with (first|(go_at_call 107;have gate:=t1;clear t1;go_must (refine(vX HM.out xa hva C1.out).mono ?_;rintro e w' ⟨rfl,rfl⟩))|(go_at_call 107;go_must (refine(vX HM.out (yg xa) hx1 C2.out).mono ?_;rintro e w' ⟨rfl,rfl⟩)))
    go_ret
    rw[EE.out]
    have e:Ending.returned (.int .u16 (bits .or .u16 (IntKind.u16.wrap (tC m xa:Int)) (IntKind.u16.wrap (IntKind.u16.wrap (tC m (yg xa):Int)*256))))=.returned (.int .u16 ((tC m xa+256*tC m (yg xa):Nat):Int)):=zh (or_low _ _ R2.out.1 R2.out.2)
    exact e ▸ zQ.ok HM.out HF.out (by have:=R2.out;omega)
   ·have h2':wo (yg xa)=false:=by simpa using h2
    have EE:=Lib.hid (show pR m xa=.trap 2 (yg xa) m by unfold pR;rw[if_pos h1,if_neg h2])
    obtain⟨r1,r2,_⟩:=HM.out.ramCell h1
    have C1:=Lib.hid h1
    have C2:=Lib.hid h2'
    have t1:True:=trivial
    clear h1 h2 h2' r2
    go_wp2_with (first|(go_at_call 107;have gate:=t1;clear t1;go_must (refine(vX HM.out xa hva C1.out).mono ?_;rintro e w' ⟨rfl,rfl⟩))|(go_at_call 107;go_must (refine(sX HM.out (yg xa) hx1 C2.out).mono ?_;rintro e w' ⟨rfl,rfl⟩)))
    exact⟨rfl,by rw[EE.out];exact zQ.trap HM.out HF.out⟩
  ·have h1':wo xa=false:=by simpa using h1
   have EE:=Lib.hid (show pR m xa=.trap 2 xa m by unfold pR;rw[if_neg h1])
   have C1:=Lib.hid h1'
   clear h1 h1'
   go_wp2_with (go_at_call 107;go_must (refine(sX HM.out xa hva C1.out).mono ?_;rintro e w' ⟨rfl,rfl⟩))
   exact⟨rfl,by rw[EE.out];exact zQ.trap HM.out HF.out⟩
theorem step_19 {w:World}{K:MK}{m:Mach}{ov:Value}(h:MachAt w K m ov){ores oa ob:Int}{on:Nat}(hra:I64 oa)(hrb:I64 ob)(hon:on<65536)(ab:Option Addr)(an ac:Nat){vb vn:Nat}{v:Int->Nat}(hv:xO w vb vn v)(d:Int):
 Calls Try.prog 82 #[.pointer (some ⟨K.pm,0,none⟩),.agg #[.int .i64 19,.int .i64 ores,.int .i64 oa,.int .i64 ob,.int .u16 (on:Int),.slice ab an ac],.map (some vb),.int .i64 d] w (zQ K w (rl m (v oa))):=by
 have hla:=fun(W:World) (hW:Frm K.B w W)=>(hv.kept hW).look hra
 have hlb:=fun(W:World) (hW:Frm K.B w W)=>(hv.kept hW).look hrb
 have hva:=hv.2 oa
 have hvb:=hv.2 ob
 have hbs:=h.size
 have HW1:=Lib.hid (h.keep ((Below.refl _ _).alloc (Nat.le_refl _) (.cells #[.int .i64 19,.int .i64 ores,.int .i64 oa,.int .i64 ob,.int .u16 (on:Int),.slice ab an ac] 77)))
 have HF1:=Lib.hid ((Frm.refl K.B w).alloc (by omega) (.cells #[.int .i64 19,.int .i64 ores,.int .i64 oa,.int .i64 ob,.int .u16 (on:Int),.slice ab an ac] 77))
 have la:=fun n:Nat=>hla _ (HF1.out.drewN (n:=n))
 have lb:=fun n:Nat=>hlb _ (HF1.out.drewN (n:=n))
 have hnew:(w.alloc (.cells #[.int .i64 19,.int .i64 ores,.int .i64 oa,.int .i64 ob,.int .u16 (on:Int),.slice ab an ac] 77)).heap[w.heap.size]? =some (.cells #[.int .i64 19,.int .i64 ores,.int .i64 oa,.int .i64 ob,.int .u16 (on:Int),.slice ab an ac] 77 (0,0)):=zI rfl
 clear h hv hla hlb
 generalize v oa=xa at *
 generalize v ob=xb at *
 go_enter Try.func82,Try.ntmps82
 go_upto_region 1 with fail
 generalize hW1:w.alloc (.cells #[.int .i64 19,.int .i64 ores,.int .i64 oa,.int .i64 ob,.int .u16 (on:Int),.slice ab an ac] 77)=W1 at *
 clear hW1
 have p0:W1.cell? ⟨w.heap.size,0,none⟩=some (.int .i64 19):=zA hnew (by simp)
 have p2:W1.cell? ⟨w.heap.size,2,none⟩=some (.int .i64 oa):=zA hnew (by simp)
 have p3:W1.cell? ⟨w.heap.size,3,none⟩=some (.int .i64 ob):=zA hnew (by simp)
 have p4:W1.cell? ⟨w.heap.size,4,none⟩=some (.int .u16 (on:Int)):=zA hnew (by simp)
 go_cut [9,10] (fun x y wx=>x=.int .u16 (xa:Int)/\y=.int .u16 (xb:Int)/\∃n,wx=W1.drewN n)
 case first=>
  go_quiet (fail)
  go_wp2
  go_meet
  exact⟨rfl,rfl,_,rfl⟩
 case rest=>
  obtain⟨rfl,rfl,n,rfl⟩:=hcut
  have HM:=Lib.hid (HW1.out.drewN n)
  have HF:=Lib.hid (HF1.out.drewN (n:=n))
  have q0:(W1.drewN n).cell? ⟨w.heap.size,0,none⟩=_:=p0
  have q2:(W1.drewN n).cell? ⟨w.heap.size,2,none⟩=_:=p2
  have q4:(W1.drewN n).cell? ⟨w.heap.size,4,none⟩=_:=p4
  clear la lb p0 p2 p3 p4 hnew HW1 HF1
  generalize W1.drewN n=W2 at *
  by_cases h1:wo xa=true
  ·have EE:=Lib.hid (show rl m xa=.ok (tC m xa) m by unfold rl;rw[if_pos h1])
   obtain⟨r1,r2,_⟩:=HM.out.ramCell h1
   have C1:=Lib.hid h1
   have R2:=Lib.hid r2
   clear h1 r2
   go_wp2_with (go_at_call 107;go_must (refine(vX HM.out xa hva C1.out).mono ?_;rintro e w' ⟨rfl,rfl⟩))
   go_ret
   rw[EE.out]
   have e:Ending.returned (.int .u16 (IntKind.u16.wrap (tC m xa:Int)))=.returned (.int .u16 ((tC m xa:Nat):Int)):=zh (by rw[xY];have:=R2.out;omega)
   exact e ▸ zQ.ok HM.out HF.out (by have:=R2.out;omega)
  ·have h1':wo xa=false:=by simpa using h1
   have EE:=Lib.hid (show rl m xa=.trap 2 xa m by unfold rl;rw[if_neg h1])
   have C1:=Lib.hid h1'
   clear h1 h1'
   go_wp2_with (go_at_call 107;go_must (refine(sX HM.out xa hva C1.out).mono ?_;rintro e w' ⟨rfl,rfl⟩))
   exact⟨rfl,by rw[EE.out];exact zQ.trap HM.out HF.out⟩
theorem step_20 {w:World}{K:MK}{m:Mach}{ov:Value}(h:MachAt w K m ov){ores oa ob:Int}{on:Nat}(hra:I64 oa)(hrb:I64 ob)(hon:on<65536)(ab:Option Addr)(an ac:Nat){vb vn:Nat}{v:Int->Nat}(hv:xO w vb vn v)(d:Int):
 Calls Try.prog 82 #[.pointer (some ⟨K.pm,0,none⟩),.agg #[.int .i64 20,.int .i64 ores,.int .i64 oa,.int .i64 ob,.int .u16 (on:Int),.slice ab an ac],.map (some vb),.int .i64 d] w (zQ K w (sK m (v oa) (v ob))):=by
 have hla:=fun(W:World) (hW:Frm K.B w W)=>(hv.kept hW).look hra
 have hlb:=fun(W:World) (hW:Frm K.B w W)=>(hv.kept hW).look hrb
 have hva:=hv.2 oa
 have hvb:=hv.2 ob
 have hbs:=h.size
 have HW1:=Lib.hid (h.keep ((Below.refl _ _).alloc (Nat.le_refl _) (.cells #[.int .i64 20,.int .i64 ores,.int .i64 oa,.int .i64 ob,.int .u16 (on:Int),.slice ab an ac] 77)))
 have HF1:=Lib.hid ((Frm.refl K.B w).alloc (by omega) (.cells #[.int .i64 20,.int .i64 ores,.int .i64 oa,.int .i64 ob,.int .u16 (on:Int),.slice ab an ac] 77))
 have la:=fun n:Nat=>hla _ (HF1.out.drewN (n:=n))
 have lb:=fun n:Nat=>hlb _ (HF1.out.drewN (n:=n))
 have hnew:(w.alloc (.cells #[.int .i64 20,.int .i64 ores,.int .i64 oa,.int .i64 ob,.int .u16 (on:Int),.slice ab an ac] 77)).heap[w.heap.size]? =some (.cells #[.int .i64 20,.int .i64 ores,.int .i64 oa,.int .i64 ob,.int .u16 (on:Int),.slice ab an ac] 77 (0,0)):=zI rfl
 clear h hv hla hlb
 generalize v oa=xa at *
 generalize v ob=xb at *
 go_enter Try.func82,Try.ntmps82
 go_upto_region 1 with fail
 generalize hW1:w.alloc (.cells #[.int .i64 20,.int .i64 ores,.int .i64 oa,.int .i64 ob,.int .u16 (on:Int),.slice ab an ac] 77)=W1 at *
 clear hW1
 have p0:W1.cell? ⟨w.heap.size,0,none⟩=some (.int .i64 20):=zA hnew (by simp)
 have p2:W1.cell? ⟨w.heap.size,2,none⟩=some (.int .i64 oa):=zA hnew (by simp)
 have p3:W1.cell? ⟨w.heap.size,3,none⟩=some (.int .i64 ob):=zA hnew (by simp)
 have p4:W1.cell? ⟨w.heap.size,4,none⟩=some (.int .u16 (on:Int)):=zA hnew (by simp)
 go_cut [9,10] (fun x y wx=>x=.int .u16 (xa:Int)/\y=.int .u16 (xb:Int)/\∃n,wx=W1.drewN n)
 case first=>
  go_quiet (fail)
  go_wp2
  go_meet
  exact⟨rfl,rfl,_,rfl⟩
 case rest=>
  obtain⟨rfl,rfl,n,rfl⟩:=hcut
  have HM:=Lib.hid (HW1.out.drewN n)
  have HF:=Lib.hid (HF1.out.drewN (n:=n))
  have q0:(W1.drewN n).cell? ⟨w.heap.size,0,none⟩=_:=p0
  have q2:(W1.drewN n).cell? ⟨w.heap.size,2,none⟩=_:=p2
  have q4:(W1.drewN n).cell? ⟨w.heap.size,4,none⟩=_:=p4
  clear la lb p0 p2 p3 p4 hnew HW1 HF1
  generalize W1.drewN n=W2 at *
  have hx1:yg xa<65536:=Nat.mod_lt _ (by decide)
  have hwr:IntKind.u16.wrap ((xa:Int)+1)=((yg xa:Nat):Int):=by rw[xY];unfold yg;omega
  by_cases h1:wo xa=true
  ·by_cases h2:wo (yg xa)=true
   ·have EE:=Lib.hid (show sK m xa xb=.ok 0 ((m.put xa (xb%256)).put (yg xa) (xb/256)) by unfold sK;rw[if_pos h1,if_pos h2])
    obtain⟨r0,_,r1⟩:=HM.out.ramCell h1
    have HS1:=HM.out.setR xa (xb%256) (by omega)
    have HS2:=HS1.1.setR (yg xa) (xb/256) (by omega)
    obtain⟨r2,_,r3⟩:=HS1.1.ramCell h2
    rw[show((xb%256:Nat):Int)=(xb:Int)%256 by omega] at r2 r3 HS1 HS2
    rw[show((xb/256:Nat):Int)=(xb:Int)/256 by omega] at HS2
    have C1:=Lib.hid h1
    have C2:=Lib.hid h2
    have HST:=Lib.hid (And.intro HS2.1 ((HF.out.trans HS1.2).trans HS2.2))
    have t1:True:=trivial
    clear h1 h2 HS1 HS2
    go_wp2_with (first|(go_at_call 107;have gate:=t1;clear t1;go_must (refine(vX HM.out xa hva C1.out).mono ?_;rintro e w' ⟨rfl,rfl⟩))|(go_at_call 107;go_must (refine(vX HM.out (yg xa) hx1 C2.out).mono ?_;rintro e w' ⟨rfl,rfl⟩)))
    go_ret
    rw[EE.out]
    exact zQ.ok (x:=0) HST.out.1 HST.out.2 (by decide)
   ·have h2':wo (yg xa)=false:=by simpa using h2
    have EE:=Lib.hid (show sK m xa xb=.trap 2 (yg xa) m by unfold sK;rw[if_pos h1,if_neg h2])
    obtain⟨r1,r2,_⟩:=HM.out.ramCell h1
    have C1:=Lib.hid h1
    have C2:=Lib.hid h2'
    have t1:True:=trivial
    clear h1 h2 h2' r2
    go_wp2_with (first|(go_at_call 107;have gate:=t1;clear t1;go_must (refine(vX HM.out xa hva C1.out).mono ?_;rintro e w' ⟨rfl,rfl⟩))|(go_at_call 107;go_must (refine(sX HM.out (yg xa) hx1 C2.out).mono ?_;rintro e w' ⟨rfl,rfl⟩)))
    exact⟨rfl,by rw[EE.out];exact zQ.trap HM.out HF.out⟩
  ·have h1':wo xa=false:=by simpa using h1
   have EE:=Lib.hid (show sK m xa xb=.trap 2 xa m by unfold sK;rw[if_neg h1])
   have C1:=Lib.hid h1'
   clear h1 h1'
   go_wp2_with (go_at_call 107;go_must (refine(sX HM.out xa hva C1.out).mono ?_;rintro e w' ⟨rfl,rfl⟩))
   exact⟨rfl,by rw[EE.out];exact zQ.trap HM.out HF.out⟩
theorem step_21 {w:World}{K:MK}{m:Mach}{ov:Value}(h:MachAt w K m ov){ores oa ob:Int}{on:Nat}(hra:I64 oa)(hrb:I64 ob)(hon:on<65536)(ab:Option Addr)(an ac:Nat){vb vn:Nat}{v:Int->Nat}(hv:xO w vb vn v)(d:Int):
 Calls Try.prog 82 #[.pointer (some ⟨K.pm,0,none⟩),.agg #[.int .i64 21,.int .i64 ores,.int .i64 oa,.int .i64 ob,.int .u16 (on:Int),.slice ab an ac],.map (some vb),.int .i64 d] w (zQ K w (td m (v oa) (v ob))):=by
 have hla:=fun(W:World) (hW:Frm K.B w W)=>(hv.kept hW).look hra
 have hlb:=fun(W:World) (hW:Frm K.B w W)=>(hv.kept hW).look hrb
 have hva:=hv.2 oa
 have hvb:=hv.2 ob
 have hbs:=h.size
 have HW1:=Lib.hid (h.keep ((Below.refl _ _).alloc (Nat.le_refl _) (.cells #[.int .i64 21,.int .i64 ores,.int .i64 oa,.int .i64 ob,.int .u16 (on:Int),.slice ab an ac] 77)))
 have HF1:=Lib.hid ((Frm.refl K.B w).alloc (by omega) (.cells #[.int .i64 21,.int .i64 ores,.int .i64 oa,.int .i64 ob,.int .u16 (on:Int),.slice ab an ac] 77))
 have la:=fun n:Nat=>hla _ (HF1.out.drewN (n:=n))
 have lb:=fun n:Nat=>hlb _ (HF1.out.drewN (n:=n))
 have hnew:(w.alloc (.cells #[.int .i64 21,.int .i64 ores,.int .i64 oa,.int .i64 ob,.int .u16 (on:Int),.slice ab an ac] 77)).heap[w.heap.size]? =some (.cells #[.int .i64 21,.int .i64 ores,.int .i64 oa,.int .i64 ob,.int .u16 (on:Int),.slice ab an ac] 77 (0,0)):=zI rfl
 clear h hv hla hlb
 generalize v oa=xa at *
 generalize v ob=xb at *
 go_enter Try.func82,Try.ntmps82
 go_upto_region 1 with fail
 generalize hW1:w.alloc (.cells #[.int .i64 21,.int .i64 ores,.int .i64 oa,.int .i64 ob,.int .u16 (on:Int),.slice ab an ac] 77)=W1 at *
 clear hW1
 have p0:W1.cell? ⟨w.heap.size,0,none⟩=some (.int .i64 21):=zA hnew (by simp)
 have p2:W1.cell? ⟨w.heap.size,2,none⟩=some (.int .i64 oa):=zA hnew (by simp)
 have p3:W1.cell? ⟨w.heap.size,3,none⟩=some (.int .i64 ob):=zA hnew (by simp)
 have p4:W1.cell? ⟨w.heap.size,4,none⟩=some (.int .u16 (on:Int)):=zA hnew (by simp)
 go_cut [9,10] (fun x y wx=>x=.int .u16 (xa:Int)/\y=.int .u16 (xb:Int)/\∃n,wx=W1.drewN n)
 case first=>
  go_quiet (fail)
  go_wp2
  go_meet
  exact⟨rfl,rfl,_,rfl⟩
 case rest=>
  obtain⟨rfl,rfl,n,rfl⟩:=hcut
  have HM:=Lib.hid (HW1.out.drewN n)
  have HF:=Lib.hid (HF1.out.drewN (n:=n))
  have q0:(W1.drewN n).cell? ⟨w.heap.size,0,none⟩=_:=p0
  have q2:(W1.drewN n).cell? ⟨w.heap.size,2,none⟩=_:=p2
  have q4:(W1.drewN n).cell? ⟨w.heap.size,4,none⟩=_:=p4
  clear la lb p0 p2 p3 p4 hnew HW1 HF1
  generalize W1.drewN n=W2 at *
  by_cases h1:wo xa=true
  ·have EE:=Lib.hid (show td m xa xb=.ok 0 (m.put xa (xb%256)) by unfold td;rw[if_pos h1])
   obtain⟨r0,_,r1⟩:=HM.out.ramCell h1
   have HS1:=HM.out.setR xa (xb%256) (by omega)
   rw[show((xb%256:Nat):Int)=(xb:Int)%256 by omega] at HS1
   have C1:=Lib.hid h1
   have HST:=Lib.hid (And.intro HS1.1 (HF.out.trans HS1.2))
   clear h1 HS1
   go_wp2_with (go_at_call 107;go_must (refine(vX HM.out xa hva C1.out).mono ?_;rintro e w' ⟨rfl,rfl⟩))
   go_ret
   rw[EE.out]
   exact zQ.ok (x:=0) HST.out.1 HST.out.2 (by decide)
  ·have h1':wo xa=false:=by simpa using h1
   have EE:=Lib.hid (show td m xa xb=.trap 2 xa m by unfold td;rw[if_neg h1])
   have C1:=Lib.hid h1'
   clear h1 h1'
   go_wp2_with (go_at_call 107;go_must (refine(sX HM.out xa hva C1.out).mono ?_;rintro e w' ⟨rfl,rfl⟩))
   exact⟨rfl,by rw[EE.out];exact zQ.trap HM.out HF.out⟩
end Go.Proofs.Ytojclalkfhoooaa
