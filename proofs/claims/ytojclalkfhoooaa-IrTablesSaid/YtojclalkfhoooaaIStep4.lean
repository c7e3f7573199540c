/- Part of a proof. -/
import Derived.Test.YtojclalkfhoooaaIPoll
set_option linter.unusedSimpArgs false
set_option linter.unusedVariables false
set_option maxHeartbeats 1000000
set_option maxRecDepth 100000
namespace Go.Proofs.Ytojclalkfhoooaa
open Go.RowKit
theorem lU {E:IEnv}{call:Int->List Nat->Mach->Res Nat}{m m':Mach}{x:Nat}(h:tY E call m=.ok x m'):x=0:=by
 unfold tY at h
 split at h
 ·split at h
  ·split at h
   ·cases h;rfl
   ·cases h
  ·cases h;rfl
 ·cases h;rfl
theorem step_27 {w:World}{K:MK}{m:Mach}{ov:Value}(h:MachAt w K m ov){ores oa ob:Int}{on:Nat}(hra:I64 oa)(hrb:I64 ob)(hon:on<65536)(ab:Option Addr)(an ac:Nat){vb vn:Nat}{v:Int->Nat}(hv:xO w vb vn v)(hok:Hid (OkProg K.E.p)){r:Nat}(hr:r<=100)(hC:Hid (pq K r)):
 Calls Try.prog 82 #[.pointer (some ⟨K.pm,0,none⟩),.agg #[.int .i64 27,.int .i64 ores,.int .i64 oa,.int .i64 ob,.int .u16 (on:Int),.slice ab an ac],.map (some vb),.int .i64 (100-(r:Int))] w (zQ K w (tY K.E (xW K.E r) m)):=by
 have hla:=fun(W:World) (hW:Frm K.B w W)=>(hv.kept hW).look hra
 have hlb:=fun(W:World) (hW:Frm K.B w W)=>(hv.kept hW).look hrb
 have hva:=hv.2 oa
 have hvb:=hv.2 ob
 have hbs:=h.size
 have HW1:=Lib.hid (h.keep ((Below.refl _ _).alloc (Nat.le_refl _) (.cells #[.int .i64 27,.int .i64 ores,.int .i64 oa,.int .i64 ob,.int .u16 (on:Int),.slice ab an ac] 77)))
 have HF1:=Lib.hid ((Frm.refl K.B w).alloc (by omega) (.cells #[.int .i64 27,.int .i64 ores,.int .i64 oa,.int .i64 ob,.int .u16 (on:Int),.slice ab an ac] 77))
 have la:=fun n:Nat=>hla _ (HF1.out.drewN (n:=n))
 have lb:=fun n:Nat=>hlb _ (HF1.out.drewN (n:=n))
 have hnew:(w.alloc (.cells #[.int .i64 27,.int .i64 ores,.int .i64 oa,.int .i64 ob,.int .u16 (on:Int),.slice ab an ac] 77)).heap[w.heap.size]? =some (.cells #[.int .i64 27,.int .i64 ores,.int .i64 oa,.int .i64 ob,.int .u16 (on:Int),.slice ab an ac] 77 (0,0)):=zI rfl
 clear h hv hla hlb
 generalize v oa=xa at *
 generalize v ob=xb at *
 go_enter Try.func82,Try.ntmps82
 go_upto_region 1 with fail
 generalize hW1:w.alloc (.cells #[.int .i64 27,.int .i64 ores,.int .i64 oa,.int .i64 ob,.int .u16 (on:Int),.slice ab an ac] 77)=W1 at *
 clear hW1
 have p0:W1.cell? ⟨w.heap.size,0,none⟩=some (.int .i64 27):=zA hnew (by simp)
 have p2:W1.cell? ⟨w.heap.size,2,none⟩=some (.int .i64 oa):=zA hnew (by simp)
 have p3:W1.cell? ⟨w.heap.size,3,none⟩=some (.int .i64 ob):=zA hnew (by simp)
 have p4:W1.cell? ⟨w.heap.size,4,none⟩=some (.int .u16 (on:Int)):=zA hnew (by simp)
 go_cut [9,10] (fun x y wx=>x=.int .u16 (xa:Int)/\y=.int .u16 (xb:Int)/\∃n,wx=W1.drewN n)
 case first=>
  go_quiet (fail)
  go_wp2
  go_meet
  exact⟨rfl,rfl,_,rfl⟩
 case rest=>
  obtain⟨rfl,rfl,n,rfl⟩:=hcut
  have HM:=Lib.hid (HW1.out.drewN n)
  have HF:=Lib.hid (HF1.out.drewN (n:=n))
  have q0:(W1.drewN n).cell? ⟨w.heap.size,0,none⟩=_:=p0
  have q2:(W1.drewN n).cell? ⟨w.heap.size,2,none⟩=_:=p2
  have q4:(W1.drewN n).cell? ⟨w.heap.size,4,none⟩=_:=p4
  clear la lb p0 p2 p3 p4 hnew HW1 HF1
  generalize W1.drewN n=W2 at *
  have hcall:=poll_any HM.out hok.out hr hC.out
  cases hres:tY K.E (xW K.E r) m with
  |ok x m'=>
   have hx0:=lU hres
   subst hx0
   have hc2:Calls Try.prog 110 #[.pointer (some ⟨K.pm,0,none⟩),.int .i64 (100-(r:Int))] W2 fun e w'=>e=.returned (.tuple #[])/\(∃ov',MachAt w' K m' ov')/\Frm K.B W2 w':=by rw[hres] at hcall;exact hcall
   have HC2:=Lib.hid hc2
   have EE:=Lib.hid hres
   clear hcall hc2 hres
   go_wp2_with (go_at_call 110;go_must (refine HC2.out.mono ?_;rintro e w' ⟨rfl,⟨ov',hm'⟩,hf'⟩))
   go_ret
   rw[EE.out]
   exact zQ.ok (x:=0) hm' (HF.out.trans hf') (by decide)
  |trap k i m'=>
   have hc2:Calls Try.prog 110 #[.pointer (some ⟨K.pm,0,none⟩),.int .i64 (100-(r:Int))] W2 fun e w'=>e=.panicked [oE k i]/\(∃ov',MachAt w' K m' ov')/\Frm K.B W2 w':=by rw[hres] at hcall;exact hcall
   have HC2:=Lib.hid hc2
   have EE:=Lib.hid hres
   clear hcall hc2 hres
   go_wp2_with (go_at_call 110;go_must (refine HC2.out.mono ?_;rintro e w' ⟨rfl,⟨ov',hm'⟩,hf'⟩))
   exact⟨rfl,by rw[EE.out];exact zQ.trap hm' (HF.out.trans hf')⟩
theorem u16s_lt {w:World}{B:Nat}{v:Value}{xs:List Nat}(h:wV w B v xs):∀x∈xs,x<65536:=by
 intro x hx
 obtain⟨k,hk⟩:=List.getElem?_of_mem hx
 obtain⟨a,cap,rfl,_,_,_⟩:=id h
 obtain⟨b,o,_,_,h3⟩:=h.get hk
 exact h3.2
def opVal (o:IOp)(av:Value):Value:=.agg #[.int .i64 o.code,.int .i64 o.res,.int .i64 o.a,.int .i64 o.b,.int .u16 (o.n:Int),av]
theorem step_any {w:World}{K:MK}{m:Mach}{ov:Value}(h:MachAt w K m ov)(hok:OkProg K.E.p){o:IOp}(ho:OkOp K.E.p o)(hb:I64 o.code/\I64 o.res/\I64 o.a/\I64 o.b/\o.n<65536){av:Value}(hxs:zY w w.heap.size av o.args)
 {vb vn:Nat} {v:Int->Nat} (hv:xO w vb vn v) {r:Nat} (hr:r<=100) (hC:pq K r) (hob:m.out.length+1+m.fuel.toNat<=4000000):
 Calls Try.prog 82 #[.pointer (some ⟨K.pm,0,none⟩),opVal o av,.map (some vb),.int .i64 (100-(r:Int))] w (zQ K w (oV K.E (xW K.E r) o v m)):=by
 obtain⟨code,res,oa,ob,on,xs⟩:=o
 obtain⟨⟨hc1,hc2⟩,h2,h26⟩:=ho
 obtain⟨_,hbr,hra,hrb,hon⟩:=hb
 obtain⟨aa,ac,hav,_,_⟩:=hxs.form
 simp only at *
 unfold opVal
 have hcs:code=1∨code=2∨code=3∨code=4∨(5<=code/\code<=17)∨code=18∨code=19∨code=20∨code=21∨code=22∨code=23∨code=24∨code=25∨code=26∨code=27:=by omega
 have hin:∀x∈K.E.inn,x<65536:=u16s_lt h.inn
 rcases hcs with rfl|rfl|rfl|rfl|hc|rfl|rfl|rfl|rfl|rfl|rfl|rfl|rfl|rfl|rfl
 ·subst hav;exact step_1 h hra hrb hon _ _ _ hv _
 ·subst hav;exact step_2 h hra hrb hon _ _ _ hv _ (h2 rfl)
 ·subst hav;exact step_3 h hra hrb hon _ _ _ hv _
 ·subst hav;exact step_4 h hra hrb hon _ _ _ hv _
 ·subst hav
  have e:oV K.E (xW K.E r) ⟨code,res,oa,ob,on,xs⟩ v m=iy m code (v oa) (v ob):=by
   unfold oV mU
   simp only
   rw[if_neg (by omega),if_neg (by omega),if_neg (by omega),if_neg (by omega),if_neg (by omega),if_neg (by omega),if_neg (by omega),if_neg (by omega),if_neg (by omega),if_neg (by omega),if_neg (by omega),if_neg (by omega),if_neg (by omega),if_neg (by omega)]
  rw[e]
  exact step_ar h hra hrb hon _ _ _ hv _ hc
 ·subst hav;exact step_18 h hra hrb hon _ _ _ hv _
 ·subst hav;exact step_19 h hra hrb hon _ _ _ hv _
 ·subst hav;exact step_20 h hra hrb hon _ _ _ hv _
 ·subst hav;exact step_21 h hra hrb hon _ _ _ hv _
 ·subst hav;exact step_22 h hra hrb hon _ _ _ hv _ (Lib.hid hok.bank)
 ·subst hav;exact step_23 h hra hrb hon _ _ _ hv _ (Lib.hid hok.bank)
 ·subst hav;exact step_24 h hra hrb hon _ _ _ hv _ (Lib.hid hin)
 ·subst hav;exact step_25 h hra hrb hon _ _ _ hv _ hob
 ·exact step_26 h hra hrb hon hxs (by have:=hok.argle oa.toNat;have:=(h26 rfl).2.2;omega) hv hr hC (h26 rfl)
 ·subst hav;exact step_27 h hra hrb hon _ _ _ hv (Lib.hid hok) hr (Lib.hid hC)
end Go.Proofs.Ytojclalkfhoooaa
