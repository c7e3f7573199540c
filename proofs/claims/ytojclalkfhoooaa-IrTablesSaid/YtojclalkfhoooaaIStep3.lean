/- Part of a proof. -/
import Derived.Test.YtojclalkfhoooaaIStep2
import Derived.Deep.RegionLaw
set_option linter.unusedSimpArgs false
set_option linter.unusedVariables false
set_option maxHeartbeats 1000000
set_option maxRecDepth 100000
namespace Go.Proofs.Ytojclalkfhoooaa
open Go.RowKit
theorem Try.info_event:(Try.prog.info? 87).map (fun i=>(i.zero,i.size,i.bytes))=some (some (.agg #[.int .u16 0,.int .u16 0]),2,4):=by kernel_rfl
theorem p9 (E:IEnv)(b a:Nat):tS E b a<256:=by unfold tS;exact UInt8.toNat_lt _
theorem or_rom (x y:Nat)(hx:x<256)(hy:y<256):bits .or .u16 (x:Int) (IntKind.u16.wrap ((y:Int)*256))=((x+256*y:Nat):Int):=by
 have:=or_low x y hx hy
 have e1:IntKind.u16.wrap (x:Int)=(x:Int):=by rw[xY];omega
 have e2:IntKind.u16.wrap (y:Int)=(y:Int):=by rw[xY];omega
 rw[e1,e2] at this
 exact this
theorem xN {w w':World}{row:Option Nat}(h:w.drew.grownBy w' row):w.grownBy w' row:=⟨h.os,h.tape,h.output,h.size,h.block⟩
theorem ke (E:IEnv)(m:Mach)(hin:∀x∈E.inn,x<65536):∃x m',uq E m=.ok x m'/\x<65536:=by
 unfold uq
 by_cases h:m.inputs<E.inn.length
 ·rw[if_pos h];exact⟨_,_,rfl,by rw[List.getD_eq_getElem?_getD,List.getElem?_eq_getElem h];exact hin _ (List.getElem_mem h)⟩
 ·rw[if_neg h];exact⟨_,_,rfl,by decide⟩
theorem step_2 {w:World}{K:MK}{m:Mach}{ov:Value}(h:MachAt w K m ov){ores oa ob:Int}{on:Nat}(hra:I64 oa)(hrb:I64 ob)(hon:on<65536)(ab:Option Addr)(an ac:Nat){vb vn:Nat}{v:Int->Nat}(hv:xO w vb vn v)(d:Int)(hk:0<=oa/\oa.toNat<K.E.p.data.length):
 Calls Try.prog 82 #[.pointer (some ⟨K.pm,0,none⟩),.agg #[.int .i64 2,.int .i64 ores,.int .i64 oa,.int .i64 ob,.int .u16 (on:Int),.slice ab an ac],.map (some vb),.int .i64 d] w (zQ K w (.ok (((K.E.p.data.getD oa.toNat ⟨0,0,0⟩).addr+on)%65536) m)):=by
 have hla:=fun(W:World) (hW:Frm K.B w W)=>(hv.kept hW).look hra
 have hlb:=fun(W:World) (hW:Frm K.B w W)=>(hv.kept hW).look hrb
 have hva:=hv.2 oa
 have hvb:=hv.2 ob
 have hbs:=h.size
 have HW1:=Lib.hid (h.keep ((Below.refl _ _).alloc (Nat.le_refl _) (.cells #[.int .i64 2,.int .i64 ores,.int .i64 oa,.int .i64 ob,.int .u16 (on:Int),.slice ab an ac] 77)))
 have HF1:=Lib.hid ((Frm.refl K.B w).alloc (by omega) (.cells #[.int .i64 2,.int .i64 ores,.int .i64 oa,.int .i64 ob,.int .u16 (on:Int),.slice ab an ac] 77))
 have la:=fun n:Nat=>hla _ (HF1.out.drewN (n:=n))
 have lb:=fun n:Nat=>hlb _ (HF1.out.drewN (n:=n))
 have hnew:(w.alloc (.cells #[.int .i64 2,.int .i64 ores,.int .i64 oa,.int .i64 ob,.int .u16 (on:Int),.slice ab an ac] 77)).heap[w.heap.size]? =some (.cells #[.int .i64 2,.int .i64 ores,.int .i64 oa,.int .i64 ob,.int .u16 (on:Int),.slice ab an ac] 77 (0,0)):=zI rfl
 clear h hv hla hlb
 generalize v oa=xa at *
 generalize v ob=xb at *
 go_enter Try.func82,Try.ntmps82
 go_upto_region 1 with fail
 generalize hW1:w.alloc (.cells #[.int .i64 2,.int .i64 ores,.int .i64 oa,.int .i64 ob,.int .u16 (on:Int),.slice ab an ac] 77)=W1 at *
 clear hW1
 have p0:W1.cell? ⟨w.heap.size,0,none⟩=some (.int .i64 2):=zA hnew (by simp)
 have p2:W1.cell? ⟨w.heap.size,2,none⟩=some (.int .i64 oa):=zA hnew (by simp)
 have p3:W1.cell? ⟨w.heap.size,3,none⟩=some (.int .i64 ob):=zA hnew (by simp)
 have p4:W1.cell? ⟨w.heap.size,4,none⟩=some (.int .u16 (on:Int)):=zA hnew (by simp)
 go_cut [9,10] (fun x y wx=>x=.int .u16 (xa:Int)/\y=.int .u16 (xb:Int)/\∃n,wx=W1.drewN n)
 case first=>
  go_quiet (fail)
  go_wp2
  go_meet
  exact⟨rfl,rfl,_,rfl⟩
 case rest=>
  obtain⟨rfl,rfl,n,rfl⟩:=hcut
  have HM:=Lib.hid (HW1.out.drewN n)
  have HF:=Lib.hid (HF1.out.drewN (n:=n))
  have q0:(W1.drewN n).cell? ⟨w.heap.size,0,none⟩=_:=p0
  have q2:(W1.drewN n).cell? ⟨w.heap.size,2,none⟩=_:=p2
  have q4:(W1.drewN n).cell? ⟨w.heap.size,4,none⟩=_:=p4
  clear la lb p0 p2 p3 p4 hnew HW1 HF1
  generalize W1.drewN n=W2 at *
  obtain⟨k,rfl⟩:∃k:Nat,oa=(k:Int):=⟨oa.toNat,by omega⟩
  have hkl:k<K.E.p.data.length:=by omega
  have hkI:(k:Int)<K.E.p.data.length:=by omega
  have hdt:=HM.out.prog.data
  obtain⟨da,dc,hdv,_,_⟩:=hdt.form
  rw[hdv] at hdt
  obtain⟨x,hx⟩:∃x,K.E.p.data[k]? =some x:=⟨_,List.getElem?_eq_getElem hkl⟩
  obtain⟨b,oo,rfl,_,_,hc1,_,_,hxa,_⟩:=hdt.get hx
  have c4:=HM.out.c4
  rw[hdv] at c4
  have EE:=Lib.hid (show(K.E.p.data.getD ((k:Nat):Int).toNat ⟨0,0,0⟩).addr=x.addr by rw[Int.toNat_natCast,List.getD_eq_getElem?_getD,hx];rfl)
  clear hk hkl hdt hdv hx
  go_upto_region 7 with fail
  go_quiet (fail)
  go_wp2
  go_ret
  rw[EE.out]
  have e:Ending.returned (.int .u16 (IntKind.u16.wrap ((x.addr:Int)+(on:Int))))=.returned (.int .u16 (((x.addr+on)%65536:Nat):Int)):=zh (by rw[xY];omega)
  exact e ▸ zQ.ok (HM.out.drewN _) HF.out.drewN (by omega)
theorem step_22 {w:World}{K:MK}{m:Mach}{ov:Value}(h:MachAt w K m ov){ores oa ob:Int}{on:Nat}(hra:I64 oa)(hrb:I64 ob)(hon:on<65536)(ab:Option Addr)(an ac:Nat){vb vn:Nat}{v:Int->Nat}(hv:xO w vb vn v)(d:Int)(hbk:Hid (∀s∈K.E.p.banks,s.size=4096)):
 Calls Try.prog 82 #[.pointer (some ⟨K.pm,0,none⟩),.agg #[.int .i64 22,.int .i64 ores,.int .i64 oa,.int .i64 ob,.int .u16 (on:Int),.slice ab an ac],.map (some vb),.int .i64 d] w (zQ K w (im K.E m on (v oa))):=by
 have hla:=fun(W:World) (hW:Frm K.B w W)=>(hv.kept hW).look hra
 have hlb:=fun(W:World) (hW:Frm K.B w W)=>(hv.kept hW).look hrb
 have hva:=hv.2 oa
 have hvb:=hv.2 ob
 have hbs:=h.size
 have HW1:=Lib.hid (h.keep ((Below.refl _ _).alloc (Nat.le_refl _) (.cells #[.int .i64 22,.int .i64 ores,.int .i64 oa,.int .i64 ob,.int .u16 (on:Int),.slice ab an ac] 77)))
 have HF1:=Lib.hid ((Frm.refl K.B w).alloc (by omega) (.cells #[.int .i64 22,.int .i64 ores,.int .i64 oa,.int .i64 ob,.int .u16 (on:Int),.slice ab an ac] 77))
 have la:=fun n:Nat=>hla _ (HF1.out.drewN (n:=n))
 have lb:=fun n:Nat=>hlb _ (HF1.out.drewN (n:=n))
 have hnew:(w.alloc (.cells #[.int .i64 22,.int .i64 ores,.int .i64 oa,.int .i64 ob,.int .u16 (on:Int),.slice ab an ac] 77)).heap[w.heap.size]? =some (.cells #[.int .i64 22,.int .i64 ores,.int .i64 oa,.int .i64 ob,.int .u16 (on:Int),.slice ab an ac] 77 (0,0)):=zI rfl
 clear h hv hla hlb
 generalize v oa=xa at *
 generalize v ob=xb at *
 go_enter Try.func82,Try.ntmps82
 go_upto_region 1 with fail
 generalize hW1:w.alloc (.cells #[.int .i64 22,.int .i64 ores,.int .i64 oa,.int .i64 ob,.int .u16 (on:Int),.slice ab an ac] 77)=W1 at *
 clear hW1
 have p0:W1.cell? ⟨w.heap.size,0,none⟩=some (.int .i64 22):=zA hnew (by simp)
 have p2:W1.cell? ⟨w.heap.size,2,none⟩=some (.int .i64 oa):=zA hnew (by simp)
 have p3:W1.cell? ⟨w.heap.size,3,none⟩=some (.int .i64 ob):=zA hnew (by simp)
 have p4:W1.cell? ⟨w.heap.size,4,none⟩=some (.int .u16 (on:Int)):=zA hnew (by simp)
 go_cut [9,10] (fun x y wx=>x=.int .u16 (xa:Int)/\y=.int .u16 (xb:Int)/\∃n,wx=W1.drewN n)
 case first=>
  go_quiet (fail)
  go_wp2
  go_meet
  exact⟨rfl,rfl,_,rfl⟩
 case rest=>
  obtain⟨rfl,rfl,n,rfl⟩:=hcut
  have HM:=Lib.hid (HW1.out.drewN n)
  have HF:=Lib.hid (HF1.out.drewN (n:=n))
  have q0:(W1.drewN n).cell? ⟨w.heap.size,0,none⟩=_:=p0
  have q2:(W1.drewN n).cell? ⟨w.heap.size,2,none⟩=_:=p2
  have q4:(W1.drewN n).cell? ⟨w.heap.size,4,none⟩=_:=p4
  clear la lb p0 p2 p3 p4 hnew HW1 HF1
  generalize W1.drewN n=W2 at *
  have hx1:yg xa<65536:=Nat.mod_lt _ (by decide)
  have hwr:IntKind.u16.wrap ((xa:Int)+1)=((yg xa:Nat):Int):=by rw[xY];unfold yg;omega
  by_cases h1:sJ K.E on xa=true
  ·by_cases h2:sJ K.E on (yg xa)=true
   ·have EE:=Lib.hid (show im K.E m on xa=.ok (tS K.E on xa+256*tS K.E on (yg xa)) m by unfold im;rw[if_pos h1,if_pos h2])
    have C1:=Lib.hid h1
    have C2:=Lib.hid h2
    have t1:True:=trivial
    have g1:=p9 K.E on xa
    have g2:=p9 K.E on (yg xa)
    have G:=Lib.hid (And.intro g1 g2)
    clear h1 h2 g1 g2
    go_wp2_with (first|(go_at_call 108;have gate:=t1;clear t1;go_must (refine(p8 HM.out hbk.out on xa hon hva C1.out).mono ?_;rintro e w' ⟨rfl,rfl⟩))|(go_at_call 108;go_must (refine(p8 HM.out hbk.out on (yg xa) hon hx1 C2.out).mono ?_;rintro e w' ⟨rfl,rfl⟩)))
    go_ret
    rw[EE.out]
    have e:Ending.returned (.int .u16 (bits .or .u16 (tS K.E on xa:Int) (IntKind.u16.wrap ((tS K.E on (yg xa):Int)*256))))=.returned (.int .u16 ((tS K.E on xa+256*tS K.E on (yg xa):Nat):Int)):=zh (or_rom _ _ G.out.1 G.out.2)
    exact e ▸ zQ.ok HM.out HF.out (by have:=G.out;omega)
   ·have h2':sJ K.E on (yg xa)=false:=by simpa using h2
    have EE:=Lib.hid (show im K.E m on xa=.trap 2 (yg xa) m by unfold im;rw[if_pos h1,if_neg h2])
    have C1:=Lib.hid h1
    have C2:=Lib.hid h2'
    have t1:True:=trivial
    clear h1 h2 h2'
    go_wp2_with (first|(go_at_call 108;have gate:=t1;clear t1;go_must (refine(p8 HM.out hbk.out on xa hon hva C1.out).mono ?_;rintro e w' ⟨rfl,rfl⟩))|(go_at_call 108;go_must (refine(kh HM.out on (yg xa) hon hx1 C2.out).mono ?_;rintro e w' ⟨rfl,rfl⟩)))
    exact⟨rfl,by rw[EE.out];exact zQ.trap HM.out HF.out⟩
  ·have h1':sJ K.E on xa=false:=by simpa using h1
   have EE:=Lib.hid (show im K.E m on xa=.trap 2 xa m by unfold im;rw[if_neg h1])
   have C1:=Lib.hid h1'
   clear h1 h1'
   go_wp2_with (go_at_call 108;go_must (refine(kh HM.out on xa hon hva C1.out).mono ?_;rintro e w' ⟨rfl,rfl⟩))
   exact⟨rfl,by rw[EE.out];exact zQ.trap HM.out HF.out⟩
theorem step_23 {w:World}{K:MK}{m:Mach}{ov:Value}(h:MachAt w K m ov){ores oa ob:Int}{on:Nat}(hra:I64 oa)(hrb:I64 ob)(hon:on<65536)(ab:Option Addr)(an ac:Nat){vb vn:Nat}{v:Int->Nat}(hv:xO w vb vn v)(d:Int)(hbk:Hid (∀s∈K.E.p.banks,s.size=4096)):
 Calls Try.prog 82 #[.pointer (some ⟨K.pm,0,none⟩),.agg #[.int .i64 23,.int .i64 ores,.int .i64 oa,.int .i64 ob,.int .u16 (on:Int),.slice ab an ac],.map (some vb),.int .i64 d] w (zQ K w (nX K.E m on (v oa))):=by
 have hla:=fun(W:World) (hW:Frm K.B w W)=>(hv.kept hW).look hra
 have hlb:=fun(W:World) (hW:Frm K.B w W)=>(hv.kept hW).look hrb
 have hva:=hv.2 oa
 have hvb:=hv.2 ob
 have hbs:=h.size
 have HW1:=Lib.hid (h.keep ((Below.refl _ _).alloc (Nat.le_refl _) (.cells #[.int .i64 23,.int .i64 ores,.int .i64 oa,.int .i64 ob,.int .u16 (on:Int),.slice ab an ac] 77)))
 have HF1:=Lib.hid ((Frm.refl K.B w).alloc (by omega) (.cells #[.int .i64 23,.int .i64 ores,.int .i64 oa,.int .i64 ob,.int .u16 (on:Int),.slice ab an ac] 77))
 have la:=fun n:Nat=>hla _ (HF1.out.drewN (n:=n))
 have lb:=fun n:Nat=>hlb _ (HF1.out.drewN (n:=n))
 have hnew:(w.alloc (.cells #[.int .i64 23,.int .i64 ores,.int .i64 oa,.int .i64 ob,.int .u16 (on:Int),.slice ab an ac] 77)).heap[w.heap.size]? =some (.cells #[.int .i64 23,.int .i64 ores,.int .i64 oa,.int .i64 ob,.int .u16 (on:Int),.slice ab an ac] 77 (0,0)):=zI rfl
 clear h hv hla hlb
 generalize v oa=xa at *
 generalize v ob=xb at *
 go_enter Try.func82,Try.ntmps82
 go_upto_region 1 with fail
 generalize hW1:w.alloc (.cells #[.int .i64 23,.int .i64 ores,.int .i64 oa,.int .i64 ob,.int .u16 (on:Int),.slice ab an ac] 77)=W1 at *
 clear hW1
 have p0:W1.cell? ⟨w.heap.size,0,none⟩=some (.int .i64 23):=zA hnew (by simp)
 have p2:W1.cell? ⟨w.heap.size,2,none⟩=some (.int .i64 oa):=zA hnew (by simp)
 have p3:W1.cell? ⟨w.heap.size,3,none⟩=some (.int .i64 ob):=zA hnew (by simp)
 have p4:W1.cell? ⟨w.heap.size,4,none⟩=some (.int .u16 (on:Int)):=zA hnew (by simp)
 go_cut [9,10] (fun x y wx=>x=.int .u16 (xa:Int)/\y=.int .u16 (xb:Int)/\∃n,wx=W1.drewN n)
 case first=>
  go_quiet (fail)
  go_wp2
  go_meet
  exact⟨rfl,rfl,_,rfl⟩
 case rest=>
  obtain⟨rfl,rfl,n,rfl⟩:=hcut
  have HM:=Lib.hid (HW1.out.drewN n)
  have HF:=Lib.hid (HF1.out.drewN (n:=n))
  have q0:(W1.drewN n).cell? ⟨w.heap.size,0,none⟩=_:=p0
  have q2:(W1.drewN n).cell? ⟨w.heap.size,2,none⟩=_:=p2
  have q4:(W1.drewN n).cell? ⟨w.heap.size,4,none⟩=_:=p4
  clear la lb p0 p2 p3 p4 hnew HW1 HF1
  generalize W1.drewN n=W2 at *
  by_cases h1:sJ K.E on xa=true
  ·have EE:=Lib.hid (show nX K.E m on xa=.ok (tS K.E on xa) m by unfold nX;rw[if_pos h1])
   have C1:=Lib.hid h1
   clear h1
   go_wp2_with (go_at_call 108;go_must (refine(p8 HM.out hbk.out on xa hon hva C1.out).mono ?_;rintro e w' ⟨rfl,rfl⟩))
   go_ret
   rw[EE.out]
   exact zQ.ok HM.out HF.out (by have:=p9 K.E on xa;omega)
  ·have h1':sJ K.E on xa=false:=by simpa using h1
   have EE:=Lib.hid (show nX K.E m on xa=.trap 2 xa m by unfold nX;rw[if_neg h1])
   have C1:=Lib.hid h1'
   clear h1 h1'
   go_wp2_with (go_at_call 108;go_must (refine(kh HM.out on xa hon hva C1.out).mono ?_;rintro e w' ⟨rfl,rfl⟩))
   exact⟨rfl,by rw[EE.out];exact zQ.trap HM.out HF.out⟩
theorem step_24 {w:World}{K:MK}{m:Mach}{ov:Value}(h:MachAt w K m ov){ores oa ob:Int}{on:Nat}(hra:I64 oa)(hrb:I64 ob)(hon:on<65536)(ab:Option Addr)(an ac:Nat){vb vn:Nat}{v:Int->Nat}(hv:xO w vb vn v)(d:Int)(hin:Hid (∀x∈K.E.inn,x<65536)):
 Calls Try.prog 82 #[.pointer (some ⟨K.pm,0,none⟩),.agg #[.int .i64 24,.int .i64 ores,.int .i64 oa,.int .i64 ob,.int .u16 (on:Int),.slice ab an ac],.map (some vb),.int .i64 d] w (zQ K w (uq K.E m)):=by
 have hla:=fun(W:World) (hW:Frm K.B w W)=>(hv.kept hW).look hra
 have hlb:=fun(W:World) (hW:Frm K.B w W)=>(hv.kept hW).look hrb
 have hva:=hv.2 oa
 have hvb:=hv.2 ob
 have hbs:=h.size
 have HW1:=Lib.hid (h.keep ((Below.refl _ _).alloc (Nat.le_refl _) (.cells #[.int .i64 24,.int .i64 ores,.int .i64 oa,.int .i64 ob,.int .u16 (on:Int),.slice ab an ac] 77)))
 have HF1:=Lib.hid ((Frm.refl K.B w).alloc (by omega) (.cells #[.int .i64 24,.int .i64 ores,.int .i64 oa,.int .i64 ob,.int .u16 (on:Int),.slice ab an ac] 77))
 have la:=fun n:Nat=>hla _ (HF1.out.drewN (n:=n))
 have lb:=fun n:Nat=>hlb _ (HF1.out.drewN (n:=n))
 have hnew:(w.alloc (.cells #[.int .i64 24,.int .i64 ores,.int .i64 oa,.int .i64 ob,.int .u16 (on:Int),.slice ab an ac] 77)).heap[w.heap.size]? =some (.cells #[.int .i64 24,.int .i64 ores,.int .i64 oa,.int .i64 ob,.int .u16 (on:Int),.slice ab an ac] 77 (0,0)):=zI rfl
 clear h hv hla hlb
 generalize v oa=xa at *
 generalize v ob=xb at *
 go_enter Try.func82,Try.ntmps82
 go_upto_region 1 with fail
 generalize hW1:w.alloc (.cells #[.int .i64 24,.int .i64 ores,.int .i64 oa,.int .i64 ob,.int .u16 (on:Int),.slice ab an ac] 77)=W1 at *
 clear hW1
 have p0:W1.cell? ⟨w.heap.size,0,none⟩=some (.int .i64 24):=zA hnew (by simp)
 have p2:W1.cell? ⟨w.heap.size,2,none⟩=some (.int .i64 oa):=zA hnew (by simp)
 have p3:W1.cell? ⟨w.heap.size,3,none⟩=some (.int .i64 ob):=zA hnew (by simp)
 have p4:W1.cell? ⟨w.heap.size,4,none⟩=some (.int .u16 (on:Int)):=zA hnew (by simp)
 go_cut [9,10] (fun x y wx=>x=.int .u16 (xa:Int)/\y=.int .u16 (xb:Int)/\∃n,wx=W1.drewN n)
 case first=>
  go_quiet (fail)
  go_wp2
  go_meet
  exact⟨rfl,rfl,_,rfl⟩
 case rest=>
  obtain⟨rfl,rfl,n,rfl⟩:=hcut
  have HM:=Lib.hid (HW1.out.drewN n)
  have HF:=Lib.hid (HF1.out.drewN (n:=n))
  have q0:(W1.drewN n).cell? ⟨w.heap.size,0,none⟩=_:=p0
  have q2:(W1.drewN n).cell? ⟨w.heap.size,2,none⟩=_:=p2
  have q4:(W1.drewN n).cell? ⟨w.heap.size,4,none⟩=_:=p4
  clear la lb p0 p2 p3 p4 hnew HW1 HF1
  generalize W1.drewN n=W2 at *
  obtain⟨x,m',hx,hxl⟩:=ke K.E m hin.out
  have hcall:Calls Try.prog 109 #[.pointer (some ⟨K.pm,0,none⟩)] W2 fun e w'=>e=.returned (.int .u16 (x:Int))/\MachAt w' K m' ov/\Frm K.B W2 w':=by have:=jA HM.out;rw[hx] at this;exact this
  have EE:=Lib.hid hx
  have HC:=Lib.hid hcall
  clear hx hcall
  go_wp2_with (go_at_call 109;go_must (refine HC.out.mono ?_;rintro e w' ⟨rfl,hm',hf'⟩))
  go_ret
  rw[EE.out]
  exact zQ.ok hm' (HF.out.trans hf') hxl
theorem step_25 {w:World}{K:MK}{m:Mach}{ov:Value}(h:MachAt w K m ov){ores oa ob:Int}{on:Nat}(hra:I64 oa)(hrb:I64 ob)(hon:on<65536)(ab:Option Addr)(an ac:Nat){vb vn:Nat}{v:Int->Nat}(hv:xO w vb vn v)(d:Int)(hob:m.out.length+1+m.fuel.toNat<=4000000):
 Calls Try.prog 82 #[.pointer (some ⟨K.pm,0,none⟩),.agg #[.int .i64 25,.int .i64 ores,.int .i64 oa,.int .i64 ob,.int .u16 (on:Int),.slice ab an ac],.map (some vb),.int .i64 d] w (zQ K w (outR m on (v oa))):=by
 have hla:=fun(W:World) (hW:Frm K.B w W)=>(hv.kept hW).look hra
 have hlb:=fun(W:World) (hW:Frm K.B w W)=>(hv.kept hW).look hrb
 have hva:=hv.2 oa
 have hvb:=hv.2 ob
 have hbs:=h.size
 have HW1:=Lib.hid (h.keep ((Below.refl _ _).alloc (Nat.le_refl _) (.cells #[.int .i64 25,.int .i64 ores,.int .i64 oa,.int .i64 ob,.int .u16 (on:Int),.slice ab an ac] 77)))
 have HF1:=Lib.hid ((Frm.refl K.B w).alloc (by omega) (.cells #[.int .i64 25,.int .i64 ores,.int .i64 oa,.int .i64 ob,.int .u16 (on:Int),.slice ab an ac] 77))
 have la:=fun n:Nat=>hla _ (HF1.out.drewN (n:=n))
 have lb:=fun n:Nat=>hlb _ (HF1.out.drewN (n:=n))
 have hnew:(w.alloc (.cells #[.int .i64 25,.int .i64 ores,.int .i64 oa,.int .i64 ob,.int .u16 (on:Int),.slice ab an ac] 77)).heap[w.heap.size]? =some (.cells #[.int .i64 25,.int .i64 ores,.int .i64 oa,.int .i64 ob,.int .u16 (on:Int),.slice ab an ac] 77 (0,0)):=zI rfl
 clear h hv hla hlb
 generalize v oa=xa at *
 generalize v ob=xb at *
 go_enter Try.func82,Try.ntmps82
 go_upto_region 1 with fail
 generalize hW1:w.alloc (.cells #[.int .i64 25,.int .i64 ores,.int .i64 oa,.int .i64 ob,.int .u16 (on:Int),.slice ab an ac] 77)=W1 at *
 clear hW1
 have p0:W1.cell? ⟨w.heap.size,0,none⟩=some (.int .i64 25):=zA hnew (by simp)
 have p2:W1.cell? ⟨w.heap.size,2,none⟩=some (.int .i64 oa):=zA hnew (by simp)
 have p3:W1.cell? ⟨w.heap.size,3,none⟩=some (.int .i64 ob):=zA hnew (by simp)
 have p4:W1.cell? ⟨w.heap.size,4,none⟩=some (.int .u16 (on:Int)):=zA hnew (by simp)
 go_cut [9,10] (fun x y wx=>x=.int .u16 (xa:Int)/\y=.int .u16 (xb:Int)/\∃n,wx=W1.drewN n)
 case first=>
  go_quiet (fail)
  go_wp2
  go_meet
  exact⟨rfl,rfl,_,rfl⟩
 case rest=>
  obtain⟨rfl,rfl,n,rfl⟩:=hcut
  have HM:=Lib.hid (HW1.out.drewN n)
  have HF:=Lib.hid (HF1.out.drewN (n:=n))
  have q0:(W1.drewN n).cell? ⟨w.heap.size,0,none⟩=_:=p0
  have q2:(W1.drewN n).cell? ⟨w.heap.size,2,none⟩=_:=p2
  have q4:(W1.drewN n).cell? ⟨w.heap.size,4,none⟩=_:=p4
  clear la lb p0 p2 p3 p4 hnew HW1 HF1
  generalize W1.drewN n=W2 at *
  obtain⟨ii,hii,hzi0,hzi1,hzi2⟩:=info_parts Try.info_event
  have c10:=HM.out.c10
  have f10:=HM.out.free 10
  have hown:=HM.out.out
  have lpm:=lt_of_block HM.out.blk
  have nb:=zC hown HM.out.blk (.inr (by decide))
  obtain⟨oa',oc',rfl⟩:=zG hown
  have HOWN:=Lib.hid hown
  have hol:m.out.length<=4000000:=by omega
  have c10':∀o,(W2.alloc o).cell? ⟨K.pm,10,none⟩=some (.slice oa' m.out.length oc'):=fun o=>(World.cell?_of_block (w:=W2) (Below.heap_alloc _ _ _ lpm)).trans c10
  have f10':∀o,(W2.alloc o).frozen? ⟨K.pm,10,none⟩=false:=fun o=>(World.frozen?_of_block (w:=W2) (Below.heap_alloc _ _ _ lpm)).trans f10
  have hB2:K.B<W2.heap.size:=HM.out.size
  clear hown
  go_upto_region 30 with fail
  go_region_law (first|(refine step_append_lies _ (by rfl) (.tmp 145) (.tmp 150) _ (by rfl) K.B 87 ii (.agg #[.int .u16 0,.int .u16 0]) 2 4 Try.underlying53 hii hzi0 hzi1 hzi2 rfl (by omega) (.slice oa' m.out.length oc') m.out.length (qO m.out) (by rfl) ((HOWN.out.alloc _).drew) ⟨W2.heap.size,0,none⟩ 1 1 [.int .u16 (on:Int),.int .u16 (xa:Int)] (by rfl) (by rfl) (World.news_of_block (cs:=#[.int .u16 (on:Int),.int .u16 (xa:Int)]) (t:=87) (fr:=(0,0)) (heap_alloc_new W2 _)) (by simp[Value.oneCell']) (by omega) (by unfold maxLen;omega) (by omega) (by simp;omega) (W2.heap.size+1) (by simp) ?_;intro gg cap3 w3 hown3 hgrow hat hlt4;have cp3:=(hgrow.cell_far ⟨K.pm,10,none⟩ (by simp;omega) (Ne.symm nb)).trans (c10' _);have fp3:=(hgrow.frozen_far ⟨K.pm,10,none⟩ (by simp;omega) (Ne.symm nb)).trans (f10' _)))
  all_goals go_wp2_with fail
  all_goals go_ret
  all_goals (
   have hO:=HM.out.setO (p:=on) (x:=xa) (xN hgrow) (by simpa[vL] using hown3) hon hva hob
   exact zQ.ok (x:=0) hO.1 (HF.out.trans hO.2) (by decide))
theorem step_ar {w:World}{K:MK}{m:Mach}{ov:Value}(h:MachAt w K m ov){oc ores oa ob:Int}{on:Nat}(hra:I64 oa)(hrb:I64 ob)(hon:on<65536)(ab:Option Addr)(an ac:Nat){vb vn:Nat}{v:Int->Nat}(hv:xO w vb vn v)(d:Int)(hc:5<=oc/\oc<=17):
 Calls Try.prog 82 #[.pointer (some ⟨K.pm,0,none⟩),.agg #[.int .i64 oc,.int .i64 ores,.int .i64 oa,.int .i64 ob,.int .u16 (on:Int),.slice ab an ac],.map (some vb),.int .i64 d] w (zQ K w (iy m oc (v oa) (v ob))):=by
 have hla:=fun(W:World) (hW:Frm K.B w W)=>(hv.kept hW).look hra
 have hlb:=fun(W:World) (hW:Frm K.B w W)=>(hv.kept hW).look hrb
 have hva:=hv.2 oa
 have hvb:=hv.2 ob
 have hbs:=h.size
 have HW1:=Lib.hid (h.keep ((Below.refl _ _).alloc (Nat.le_refl _) (.cells #[.int .i64 oc,.int .i64 ores,.int .i64 oa,.int .i64 ob,.int .u16 (on:Int),.slice ab an ac] 77)))
 have HF1:=Lib.hid ((Frm.refl K.B w).alloc (by omega) (.cells #[.int .i64 oc,.int .i64 ores,.int .i64 oa,.int .i64 ob,.int .u16 (on:Int),.slice ab an ac] 77))
 have la:=fun n:Nat=>hla _ (HF1.out.drewN (n:=n))
 have lb:=fun n:Nat=>hlb _ (HF1.out.drewN (n:=n))
 have hnew:(w.alloc (.cells #[.int .i64 oc,.int .i64 ores,.int .i64 oa,.int .i64 ob,.int .u16 (on:Int),.slice ab an ac] 77)).heap[w.heap.size]? =some (.cells #[.int .i64 oc,.int .i64 ores,.int .i64 oa,.int .i64 ob,.int .u16 (on:Int),.slice ab an ac] 77 (0,0)):=zI rfl
 clear h hv hla hlb
 generalize v oa=xa at *
 generalize v ob=xb at *
 go_enter Try.func82,Try.ntmps82
 go_upto_region 1 with fail
 generalize hW1:w.alloc (.cells #[.int .i64 oc,.int .i64 ores,.int .i64 oa,.int .i64 ob,.int .u16 (on:Int),.slice ab an ac] 77)=W1 at *
 clear hW1
 have p0:W1.cell? ⟨w.heap.size,0,none⟩=some (.int .i64 oc):=zA hnew (by simp)
 have p2:W1.cell? ⟨w.heap.size,2,none⟩=some (.int .i64 oa):=zA hnew (by simp)
 have p3:W1.cell? ⟨w.heap.size,3,none⟩=some (.int .i64 ob):=zA hnew (by simp)
 have p4:W1.cell? ⟨w.heap.size,4,none⟩=some (.int .u16 (on:Int)):=zA hnew (by simp)
 go_cut [9,10] (fun x y wx=>x=.int .u16 (xa:Int)/\y=.int .u16 (xb:Int)/\∃n,wx=W1.drewN n)
 case first=>
  go_quiet (fail)
  go_wp2
  go_meet
  exact⟨rfl,rfl,_,rfl⟩
 case rest=>
  obtain⟨rfl,rfl,n,rfl⟩:=hcut
  have HM:=Lib.hid (HW1.out.drewN n)
  have HF:=Lib.hid (HF1.out.drewN (n:=n))
  have q0:(W1.drewN n).cell? ⟨w.heap.size,0,none⟩=_:=p0
  have q2:(W1.drewN n).cell? ⟨w.heap.size,2,none⟩=_:=p2
  have q4:(W1.drewN n).cell? ⟨w.heap.size,4,none⟩=_:=p4
  clear la lb p0 p2 p3 p4 hnew HW1 HF1
  generalize W1.drewN n=W2 at *
  have t1:((oc:Int)==1)=false:=by rw[beq_eq_false_iff_ne];omega
  have t2:((oc:Int)==2)=false:=by rw[beq_eq_false_iff_ne];omega
  have t3:((oc:Int)==3)=false:=by rw[beq_eq_false_iff_ne];omega
  have t4:((oc:Int)==4)=false:=by rw[beq_eq_false_iff_ne];omega
  have t18:((oc:Int)==18)=false:=by rw[beq_eq_false_iff_ne];omega
  have t19:((oc:Int)==19)=false:=by rw[beq_eq_false_iff_ne];omega
  have t20:((oc:Int)==20)=false:=by rw[beq_eq_false_iff_ne];omega
  have t21:((oc:Int)==21)=false:=by rw[beq_eq_false_iff_ne];omega
  have t22:((oc:Int)==22)=false:=by rw[beq_eq_false_iff_ne];omega
  have t23:((oc:Int)==23)=false:=by rw[beq_eq_false_iff_ne];omega
  have t24:((oc:Int)==24)=false:=by rw[beq_eq_false_iff_ne];omega
  have t25:((oc:Int)==25)=false:=by rw[beq_eq_false_iff_ne];omega
  have t26:((oc:Int)==26)=false:=by rw[beq_eq_false_iff_ne];omega
  have t27:((oc:Int)==27)=false:=by rw[beq_eq_false_iff_ne];omega
  have hcall:=jD oc hc xa xb hva hvb
  unfold rq at hcall
  by_cases h8:oc=8/\xb=0
  ·have EE:=Lib.hid (show iy m oc xa xb=.trap 4 0 m by unfold iy;rw[if_pos h8])
   simp only[if_pos h8] at hcall
   have HC:=Lib.hid hcall
   clear hc hcall h8
   go_wp2_with (go_at_call 111;go_must (refine(HC.out _).mono ?_;rintro e w' ⟨rfl,rfl⟩))
   exact⟨rfl,by rw[EE.out];exact zQ.trap HM.out HF.out⟩
  ·have EE:=Lib.hid (show iy m oc xa xb=.ok (yW oc xa xb) m by unfold iy;rw[if_neg h8])
   simp only[if_neg h8] at hcall
   have HC:=Lib.hid hcall
   clear hc hcall h8
   go_wp2_with (go_at_call 111;go_must (refine(HC.out _).mono ?_;rintro e w' ⟨rfl,rfl⟩))
   go_ret
   rw[EE.out]
   exact zQ.ok HM.out HF.out (jz _ _ _ hva hvb)
end Go.Proofs.Ytojclalkfhoooaa
