/- Part of a proof. -/
import Derived.Test.YtojclalkfhoooaaICall
import Derived.Laws.BytesArg
set_option linter.unusedSimpArgs false
set_option linter.unusedVariables false
set_option maxHeartbeats 3200000
set_option maxRecDepth 100000
namespace Go.Proofs.Ytojclalkfhoooaa
open Go.RowKit
def y9 (l:List Nat):ByteArray:=strOfNums (l.map fun(n:Nat)=>(n:Int))
def yV (x:Nat)(ov:Value)(k i:Nat)(s:ByteArray)(inp pol:Nat):Array Value:=#[.int .u16 (x:Int),ov,.int .i64 (k:Int),.int .u16 (i:Int),.string s,.int .i64 (inp:Int),.int .i64 (pol:Int)]
theorem mp {w:World}{b:Nat}{l:List Nat}(h:w.heap[b]? =some (.cells (l.map wz).toArray 5 (0,0)))(hl:l.length=8192):
 (convert 37 9 (.slice (some ⟨b,0,none⟩) 8192 8192)).run Try.prog w=.ok (.string (y9 l)) w:=by
 refine run_convert_bytes_arg w 37 5 Try.underlying37 Try.underlying5 b 0 8192 8192 (l.map fun(n:Nat)=>(n:Int)) (by simpa using hl) (fun i hi=>?_) 9 Try.underlying9
 rw[Nat.zero_add]
 have hil:i<l.length:=by omega
 refine zA h ?_
 simp[List.getD_eq_getElem?_getD,List.getElem?_eq_getElem hil,wz]
theorem zu {w w':World}{b:Nat}(h:w.grownBy w' (some b))(j:Nat)(v:Value):w.grownBy (w'.setCell ⟨b,j,none⟩ v) (some b):=
 ⟨h.os,h.tape,h.output,by have:=h.size;simpa[World.setCell] using this,fun q hq hn=>by rw[Below.heap_setCell _ _ _ _ (by simpa using hn)];exact h.block q hq hn⟩
structure FinS (K:MK) (m:Mach) (ov:Value) (b13 bt:Nat) (k i:Nat) (w':World):Prop where
 c13:w'.cell? ⟨b13,0,none⟩=some (.pointer (some ⟨K.pm,0,none⟩))
 c6:w'.cell? ⟨K.pm,6,none⟩=some (.slice (some ⟨K.rb,0,none⟩) 8192 8192)
 c10:w'.cell? ⟨K.pm,10,none⟩=some ov
 c11:w'.cell? ⟨K.pm,11,none⟩=some (.int .i64 (m.inputs:Int))
 c12:w'.cell? ⟨K.pm,12,none⟩=some (.int .i64 (m.polls:Int))
 t0:w'.cell? ⟨bt,0,none⟩=some (.int .i64 (k:Int))
 t1:w'.cell? ⟨bt,1,none⟩=some (.int .u16 (i:Int))
 ram:w'.heap[K.rb]? =some (.cells (m.ram.map wz).toArray 5 (0,0))
theorem FinS.set {K:MK}{m:Mach}{ov:Value}{b13 bt k i b12:Nat}{w':World}(h:FinS K m ov b13 bt k i w')(n1:b12≠b13)(n2:b12≠K.pm)(n3:b12≠bt)(n4:b12≠K.rb)(j:Nat)(v:Value):FinS K m ov b13 bt k i (w'.setCell ⟨b12,j,none⟩ v):=by
 have key:∀ {b q:Nat} {x:Value},b12≠b->w'.cell? ⟨b,q,none⟩=some x->(w'.setCell ⟨b12,j,none⟩ v).cell? ⟨b,q,none⟩=some x:=fun hn hc=>by
  rw[World.cell?_of_block (w:=w') (Below.heap_setCell _ _ _ _ (by simpa using Ne.symm hn))];exact hc
 exact⟨key n1 h.c13,key n2 h.c6,key n2 h.c10,key n2 h.c11,key n2 h.c12,key n3 h.t0,key n3 h.t1,zR h.ram (by simpa using Ne.symm n4)⟩
theorem FinS.drew {K:MK}{m:Mach}{ov:Value}{b13 bt k i:Nat}{w':World}(h:FinS K m ov b13 bt k i w'):FinS K m ov b13 bt k i w'.drew:=⟨h.c13,h.c6,h.c10,h.c11,h.c12,h.t0,h.t1,h.ram⟩
theorem FinS.all {K:MK}{m:Mach}{oa:Option Addr}{oc b13 bt k i:Nat}{w':World}(hrl:m.ram.length=8192)(h:FinS K m (.slice oa m.out.length oc) b13 bt k i w'):w'.cell? ⟨b13,0,none⟩=some (.pointer (some ⟨K.pm,0,none⟩))/\w'.cell? ⟨K.pm,6,none⟩=some (.slice (some ⟨K.rb,0,none⟩) 8192 8192)/\w'.cell? ⟨K.pm,10,none⟩=some (.slice oa m.out.length oc)/\w'.cell? ⟨K.pm,11,none⟩=some (.int .i64 (m.inputs:Int))/\w'.cell? ⟨K.pm,12,none⟩=some (.int .i64 (m.polls:Int))/\w'.cell? ⟨bt,0,none⟩=some (.int .i64 (k:Int))/\w'.cell? ⟨bt,1,none⟩=some (.int .u16 (i:Int))/\(convert 37 9 (.slice (some ⟨K.rb,0,none⟩) 8192 8192)).run Try.prog w'=.ok (.string (y9 m.ram)) w':=⟨h.c13,h.c6,h.c10,h.c11,h.c12,h.t0,h.t1,mp h.ram hrl⟩
theorem pE {w:World}{K:MK}{m:Mach}{ov:Value}(h:MachAt w K m ov){b12 b13:Nat}(h13:w.heap[b13]? =some (.cells #[.pointer (some ⟨K.pm,0,none⟩)] 102 (0,0)))(h12:w.heap[b12]? =some (.cells #[.int .u16 0,.slice none 0 0,.int .i64 0,.int .u16 0,.string {data:=#[]},.int .i64 0,.int .i64 0] 57 (0,0)))(k i x:Nat):
 Calls Try.prog 50 #[.agg #[.int .i64 (k:Int),.int .u16 (i:Int)],.int .u16 (x:Int),.pointer (some ⟨b13,0,none⟩),.pointer (some ⟨b12,0,none⟩)] w fun e w'=>
  e=.returned (.tuple #[])/\w'.heap[b12]? =some (.cells (yV x ov k i (y9 m.ram) m.inputs m.polls) 57 (0,0))/\w.grownBy w' (some b12):=by
 obtain⟨oa,oc,rfl⟩:=zG h.out
 have hrl:=h.rlen
 have n1:b12≠b13:=by rintro rfl;rw[h12] at h13;simp at h13
 have n2:b12≠K.pm:=by rintro rfl;rw[h.blk] at h12;simp[r9] at h12
 have n4:b12≠K.rb:=by
  rintro rfl
  rw[h.ram] at h12
  have:=congrArg (fun o=>match o with|some (Obj.cells _ t _)=>t|_=>0) h12
  simp at this
 have n3:b12≠w.heap.size:=by have:=lt_of_block h12;omega
 have b:=(Below.refl w.heap.size w).alloc (Nat.le_refl _) (.cells #[.int .i64 (k:Int),.int .u16 (i:Int)] 55)
 have hM:=h.keep b
 have hS:FinS K m (.slice oa m.out.length oc) b13 w.heap.size k i (w.alloc (.cells #[.int .i64 (k:Int),.int .u16 (i:Int)] 55)):=
  ⟨zA (zB h13) (by simp),hM.c6,hM.c10,hM.c11,hM.c12,zA (zI rfl) (by simp),zA (zI rfl) (by simp),hM.ram⟩
 have h12a:=zB (o:=.cells #[.int .i64 (k:Int),.int .u16 (i:Int)] 55) h12
 have hGA:w.grownBy (w.alloc (.cells #[.int .i64 (k:Int),.int .u16 (i:Int)] 55)) (some b12):=World.grownBy_alloc w _ _
 have d0:(w.alloc (.cells #[.int .i64 (k:Int),.int .u16 (i:Int)] 55)).cell? ⟨b12,0,none⟩=some (.int .u16 0):=zA h12a (by simp)
 have f0:(w.alloc (.cells #[.int .i64 (k:Int),.int .u16 (i:Int)] 55)).frozen? ⟨b12,0,none⟩=false:=zE h12a
 have d1:(w.alloc (.cells #[.int .i64 (k:Int),.int .u16 (i:Int)] 55)).cell? ⟨b12,1,none⟩=some (.slice none 0 0):=zA h12a (by simp)
 have f1:(w.alloc (.cells #[.int .i64 (k:Int),.int .u16 (i:Int)] 55)).frozen? ⟨b12,1,none⟩=false:=zE h12a
 have d2:(w.alloc (.cells #[.int .i64 (k:Int),.int .u16 (i:Int)] 55)).cell? ⟨b12,2,none⟩=some (.int .i64 0):=zA h12a (by simp)
 have f2:(w.alloc (.cells #[.int .i64 (k:Int),.int .u16 (i:Int)] 55)).frozen? ⟨b12,2,none⟩=false:=zE h12a
 have d3:(w.alloc (.cells #[.int .i64 (k:Int),.int .u16 (i:Int)] 55)).cell? ⟨b12,3,none⟩=some (.int .u16 0):=zA h12a (by simp)
 have f3:(w.alloc (.cells #[.int .i64 (k:Int),.int .u16 (i:Int)] 55)).frozen? ⟨b12,3,none⟩=false:=zE h12a
 have d4:(w.alloc (.cells #[.int .i64 (k:Int),.int .u16 (i:Int)] 55)).cell? ⟨b12,4,none⟩=some (.string {data:=#[]}):=zA h12a (by simp)
 have f4:(w.alloc (.cells #[.int .i64 (k:Int),.int .u16 (i:Int)] 55)).frozen? ⟨b12,4,none⟩=false:=zE h12a
 have d5:(w.alloc (.cells #[.int .i64 (k:Int),.int .u16 (i:Int)] 55)).cell? ⟨b12,5,none⟩=some (.int .i64 0):=zA h12a (by simp)
 have f5:(w.alloc (.cells #[.int .i64 (k:Int),.int .u16 (i:Int)] 55)).frozen? ⟨b12,5,none⟩=false:=zE h12a
 have d6:(w.alloc (.cells #[.int .i64 (k:Int),.int .u16 (i:Int)] 55)).cell? ⟨b12,6,none⟩=some (.int .i64 0):=zA h12a (by simp)
 have f6:(w.alloc (.cells #[.int .i64 (k:Int),.int .u16 (i:Int)] 55)).frozen? ⟨b12,6,none⟩=false:=zE h12a
 have HG:=Lib.hid hGA
 have HB:=Lib.hid h12a
 clear h hM b h13 h12 hGA h12a
 go_enter Try.func50,Try.ntmps50
 go_upto_region 1 with fail
 generalize hW:w.alloc (.cells #[.int .i64 (k:Int),.int .u16 (i:Int)] 55)=W at *
 generalize w.heap.size=bt at *
 have hconv:∀w',FinS K m (.slice oa m.out.length oc) b13 bt k i w'->(convert 37 9 (.slice (some ⟨K.rb,0,none⟩) 8192 8192)).run Try.prog w'=.ok (.string (y9 m.ram)) w':=fun w' hs=>mp hs.ram hrl
 have c1:=hS.c13
 have c2:=hS.c6
 have c3:=hS.c10
 have c4:=hS.c11
 have c5:=hS.c12
 have c6:=hS.t0
 have c7:=hS.t1
 have cc:=hconv _ hS
 have hset:∀(w':World) (j:Nat) (v:Value),FinS K m (.slice oa m.out.length oc) b13 bt k i w'->FinS K m (.slice oa m.out.length oc) b13 bt k i (w'.setCell ⟨b12,j,none⟩ v):=fun w' j v hs=>hs.set n1 n2 n3 n4 j v
 have HSET:=Lib.hid hset
 have HCONV:=Lib.hid hconv
 have HS:=Lib.hid hS
 clear hset hconv hS hW
 refine wp_region_noPanic ?_
 refine wp_region_held_drew (S:=(fun w'=>w'.cell? ⟨b13,0,none⟩=some (.pointer (some ⟨K.pm,0,none⟩))/\w'.cell? ⟨K.pm,6,none⟩=some (.slice (some ⟨K.rb,0,none⟩) 8192 8192)/\w'.cell? ⟨K.pm,10,none⟩=some (.slice oa m.out.length oc)/\w'.cell? ⟨K.pm,11,none⟩=some (.int .i64 (m.inputs:Int))/\w'.cell? ⟨K.pm,12,none⟩=some (.int .i64 (m.polls:Int))/\w'.cell? ⟨bt,0,none⟩=some (.int .i64 (k:Int))/\w'.cell? ⟨bt,1,none⟩=some (.int .u16 (i:Int))/\(convert 37 9 (.slice (some ⟨K.rb,0,none⟩) 8192 8192)).run Try.prog w'=.ok (.string (y9 m.ram)) w')) (by kernel_rfl) (HS.out.drew.all hrl) (fun hHeld=>?_)
 have HSa:=Lib.hid HS.out.drew
 have HBa:=Lib.hid (show W.drew.heap[b12]? =_ from HB.out)
 have HGa:=Lib.hid (show w.grownBy W.drew (some b12) from⟨HG.out.os,HG.out.tape,HG.out.output,HG.out.size,HG.out.block⟩)
 clear c1 c2 c3 c4 c5 c6 c7 cc HS HB HG d0 f0 d1 f1 d2 f2 d3 f3 d4 f4 d5 f5 d6 f6
 generalize W.drew=Wa at *
 refine wpAnyH_take (i:=0) (oi:=_) (v:=?_) rfl (by kernel_rfl) (by kernel_rfl) (by kernel_rfl) (fun _ _ _ h=>h) (Or.inl ⟨by rfl,?_⟩) (by assumption) ?_
 rotate_left
 ·(intro w hSw;(try dsimp only at hSw);go_simp;try with_reducible rfl)
 (try simp only[Act.put,List.setIfInBounds_toArray,List.set_cons_zero,List.set_cons_succ])
 refine wpAnyH_take (i:=1) (oi:=_) (v:=?_) rfl (by kernel_rfl) (by kernel_rfl) (by kernel_rfl) (fun _ _ _ h=>h) (Or.inl ⟨by rfl,?_⟩) (by assumption) ?_
 rotate_left
 ·(intro w hSw;(try dsimp only at hSw);go_simp;try with_reducible rfl)
 (try simp only[Act.put,List.setIfInBounds_toArray,List.set_cons_zero,List.set_cons_succ])
 refine wpAnyH_take (i:=2) (oi:=_) (v:=?_) rfl (by kernel_rfl) (by kernel_rfl) (by kernel_rfl) (fun _ _ _ h=>h) (Or.inl ⟨by rfl,?_⟩) (by assumption) ?_
 rotate_left
 ·(intro w hSw;(try dsimp only at hSw);go_simp;try with_reducible rfl)
 (try simp only[Act.put,List.setIfInBounds_toArray,List.set_cons_zero,List.set_cons_succ])
 refine wpAnyH_take (i:=3) (oi:=_) (v:=?_) rfl (by kernel_rfl) (by kernel_rfl) (by kernel_rfl) (fun _ _ _ h=>h) (Or.inl ⟨by rfl,?_⟩) (by assumption) ?_
 rotate_left
 ·(intro w hSw;(try dsimp only at hSw);go_simp;try with_reducible rfl)
 (try simp only[Act.put,List.setIfInBounds_toArray,List.set_cons_zero,List.set_cons_succ])
 refine wpAnyH_take (i:=4) (oi:=_) (v:=?_) rfl (by kernel_rfl) (by kernel_rfl) (by kernel_rfl) (fun _ _ _ h=>h) (Or.inl ⟨by rfl,?_⟩) (by assumption) ?_
 rotate_left
 ·(intro w hSw;(try dsimp only at hSw);go_simp;try with_reducible rfl)
 (try simp only[Act.put,List.setIfInBounds_toArray,List.set_cons_zero,List.set_cons_succ])
 refine wpAnyH_take (i:=5) (oi:=_) (v:=?_) rfl (by kernel_rfl) (by kernel_rfl) (by kernel_rfl) (fun _ _ _ h=>h) (Or.inl ⟨by rfl,?_⟩) (by assumption) ?_
 rotate_left
 ·(intro w hSw;(try dsimp only at hSw);go_simp;try with_reducible rfl)
 (try simp only[Act.put,List.setIfInBounds_toArray,List.set_cons_zero,List.set_cons_succ])
 refine wpAnyH_take (i:=6) (oi:=_) (v:=?_) rfl (by kernel_rfl) (by kernel_rfl) (by kernel_rfl) (fun _ _ _ h=>h) (Or.inl ⟨by rfl,?_⟩) (by assumption) ?_
 rotate_left
 ·(intro w hSw;(try dsimp only at hSw);go_simp;try with_reducible rfl)
 (try simp only[Act.put,List.setIfInBounds_toArray,List.set_cons_zero,List.set_cons_succ])
 refine wpAnyH_take (i:=7) (oi:=_) (v:=?_) rfl (by kernel_rfl) (by kernel_rfl) (by kernel_rfl) (fun _ _ _ h=>h) (Or.inl ⟨by rfl,?_⟩) (by assumption) ?_
 rotate_left
 ·(intro w hSw;(try dsimp only at hSw);go_simp;try with_reducible rfl)
 (try simp only[Act.put,List.setIfInBounds_toArray,List.set_cons_zero,List.set_cons_succ])
 refine wpAnyH_take (i:=8) (oi:=_) (v:=?_) rfl (by kernel_rfl) (by kernel_rfl) (by kernel_rfl) (fun _ _ _ h=>h) (Or.inl ⟨by rfl,?_⟩) (by assumption) ?_
 rotate_left
 ·(intro w hSw;(try dsimp only at hSw);go_simp;try with_reducible rfl)
 (try simp only[Act.put,List.setIfInBounds_toArray,List.set_cons_zero,List.set_cons_succ])
 refine wpAnyH_take (i:=9) (oi:=_) (v:=?_) rfl (by kernel_rfl) (by kernel_rfl) (by kernel_rfl) (fun _ _ _ h=>h) (Or.inl ⟨by rfl,?_⟩) (by assumption) ?_
 rotate_left
 ·(intro w hSw;(try dsimp only at hSw);go_simp;try with_reducible rfl)
 (try simp only[Act.put,List.setIfInBounds_toArray,List.set_cons_zero,List.set_cons_succ])
 refine wpAnyH_take (i:=10) (oi:=_) (v:=?_) rfl (by kernel_rfl) (by kernel_rfl) (by kernel_rfl) (fun _ _ _ h=>h) (Or.inl ⟨by rfl,?_⟩) (by assumption) ?_
 rotate_left
 ·(intro w hSw;(try dsimp only at hSw);go_simp;try with_reducible rfl)
 (try simp only[Act.put,List.setIfInBounds_toArray,List.set_cons_zero,List.set_cons_succ])
 refine wpAnyH_take (i:=11) (oi:=_) (v:=?_) rfl (by kernel_rfl) (by kernel_rfl) (by kernel_rfl) (fun _ _ _ h=>h) (Or.inl ⟨by rfl,?_⟩) (by assumption) ?_
 rotate_left
 ·(intro w hSw;(try dsimp only at hSw);go_simp;try with_reducible rfl)
 (try simp only[Act.put,List.setIfInBounds_toArray,List.set_cons_zero,List.set_cons_succ])
 refine wpAnyH_take (i:=12) (oi:=_) (v:=?_) rfl (by kernel_rfl) (by kernel_rfl) (by kernel_rfl) (fun _ _ _ h=>h) (Or.inl ⟨by rfl,?_⟩) (by assumption) ?_
 rotate_left
 ·(intro w hSw;(try dsimp only at hSw);go_simp;try with_reducible rfl)
 (try simp only[Act.put,List.setIfInBounds_toArray,List.set_cons_zero,List.set_cons_succ])
 refine wpAnyH_take (i:=13) (oi:=_) (v:=?_) rfl (by kernel_rfl) (by kernel_rfl) (by kernel_rfl) (fun _ _ _ h=>h) (Or.inl ⟨by rfl,?_⟩) (by assumption) ?_
 rotate_left
 ·(intro w hSw;(try dsimp only at hSw);go_simp;try with_reducible rfl)
 (try simp only[Act.put,List.setIfInBounds_toArray,List.set_cons_zero,List.set_cons_succ])
 refine wpAnyH_take (i:=14) (oi:=_) (v:=?_) rfl (by kernel_rfl) (by kernel_rfl) (by kernel_rfl) (fun _ _ _ h=>h) (Or.inl ⟨by rfl,?_⟩) (by assumption) ?_
 rotate_left
 ·(intro w hSw;(try dsimp only at hSw);go_simp;try with_reducible rfl)
 (try simp only[Act.put,List.setIfInBounds_toArray,List.set_cons_zero,List.set_cons_succ])
 refine wpAnyH_take (i:=15) (oi:=_) (v:=?_) rfl (by kernel_rfl) (by kernel_rfl) (by kernel_rfl) (fun _ _ _ h=>h) (Or.inl ⟨by rfl,?_⟩) (by assumption) ?_
 rotate_left
 ·(intro w hSw;(try dsimp only at hSw);go_simp;try with_reducible rfl)
 (try simp only[Act.put,List.setIfInBounds_toArray,List.set_cons_zero,List.set_cons_succ])
 refine wpAnyH_take (i:=16) (oi:=_) (v:=?_) rfl (by kernel_rfl) (by kernel_rfl) (by kernel_rfl) (fun _ _ _ h=>h) (Or.inl ⟨by rfl,?_⟩) (by assumption) ?_
 rotate_left
 ·(intro w hSw;(try dsimp only at hSw);go_simp;try with_reducible rfl)
 (try simp only[Act.put,List.setIfInBounds_toArray,List.set_cons_zero,List.set_cons_succ])
 refine wpAnyH_take (i:=17) (oi:=_) (v:=?_) rfl (by kernel_rfl) (by kernel_rfl) (by kernel_rfl) (fun _ _ _ h=>h) (Or.inl ⟨by rfl,?_⟩) (by assumption) ?_
 rotate_left
 ·(intro w hSw;(try dsimp only at hSw);go_simp;try with_reducible rfl)
 (try simp only[Act.put,List.setIfInBounds_toArray,List.set_cons_zero,List.set_cons_succ])
 refine wpAnyH_take (i:=18) (oi:=_) (v:=?_) rfl (by kernel_rfl) (by kernel_rfl) (by kernel_rfl) (fun _ _ _ h=>h) (Or.inl ⟨by rfl,?_⟩) (by assumption) ?_
 rotate_left
 ·(intro w hSw;(try dsimp only at hSw);go_simp;try with_reducible rfl)
 (try simp only[Act.put,List.setIfInBounds_toArray,List.set_cons_zero,List.set_cons_succ])
 have e0:Wa.cell? ⟨b12,0,none⟩=some (.int .u16 0):=zA HBa.out (by simp)
 have g0:Wa.frozen? ⟨b12,0,none⟩=false:=zE HBa.out
 have e1:Wa.cell? ⟨b12,1,none⟩=some (.slice none 0 0):=zA HBa.out (by simp)
 have g1:Wa.frozen? ⟨b12,1,none⟩=false:=zE HBa.out
 have e2:Wa.cell? ⟨b12,2,none⟩=some (.int .i64 0):=zA HBa.out (by simp)
 have g2:Wa.frozen? ⟨b12,2,none⟩=false:=zE HBa.out
 have e3:Wa.cell? ⟨b12,3,none⟩=some (.int .u16 0):=zA HBa.out (by simp)
 have g3:Wa.frozen? ⟨b12,3,none⟩=false:=zE HBa.out
 have e4:Wa.cell? ⟨b12,4,none⟩=some (.string {data:=#[]}):=zA HBa.out (by simp)
 have g4:Wa.frozen? ⟨b12,4,none⟩=false:=zE HBa.out
 have e5:Wa.cell? ⟨b12,5,none⟩=some (.int .i64 0):=zA HBa.out (by simp)
 have g5:Wa.frozen? ⟨b12,5,none⟩=false:=zE HBa.out
 have e6:Wa.cell? ⟨b12,6,none⟩=some (.int .i64 0):=zA HBa.out (by simp)
 have g6:Wa.frozen? ⟨b12,6,none⟩=false:=zE HBa.out
 refine wpAnyH_ready (rs:=[19]) (by kernel_rfl) (by simp) ?_
 refine AllReadyH.cons (o:=_) rfl (fun K hK=>?_) ?_
 ·skip
  go_simp
  have HSb:=Lib.hid (HSET.out ((((((Wa.setCell ⟨b12,0,none⟩ (.int .u16 0)).setCell ⟨b12,1,none⟩ (.slice none 0 0)).setCell ⟨b12,2,none⟩ (.int .i64 0)).setCell ⟨b12,3,none⟩ (.int .u16 0)).setCell ⟨b12,4,none⟩ (.string {data:=#[]})).setCell ⟨b12,5,none⟩ (.int .i64 0)) 6 (.int .i64 0) (HSET.out (((((Wa.setCell ⟨b12,0,none⟩ (.int .u16 0)).setCell ⟨b12,1,none⟩ (.slice none 0 0)).setCell ⟨b12,2,none⟩ (.int .i64 0)).setCell ⟨b12,3,none⟩ (.int .u16 0)).setCell ⟨b12,4,none⟩ (.string {data:=#[]})) 5 (.int .i64 0) (HSET.out ((((Wa.setCell ⟨b12,0,none⟩ (.int .u16 0)).setCell ⟨b12,1,none⟩ (.slice none 0 0)).setCell ⟨b12,2,none⟩ (.int .i64 0)).setCell ⟨b12,3,none⟩ (.int .u16 0)) 4 (.string {data:=#[]}) (HSET.out (((Wa.setCell ⟨b12,0,none⟩ (.int .u16 0)).setCell ⟨b12,1,none⟩ (.slice none 0 0)).setCell ⟨b12,2,none⟩ (.int .i64 0)) 3 (.int .u16 0) (HSET.out ((Wa.setCell ⟨b12,0,none⟩ (.int .u16 0)).setCell ⟨b12,1,none⟩ (.slice none 0 0)) 2 (.int .i64 0) (HSET.out (Wa.setCell ⟨b12,0,none⟩ (.int .u16 0)) 1 (.slice none 0 0) (HSET.out Wa 0 (.int .u16 0) HSa.out)))))))
  have hbb0:(Wa.setCell ⟨b12,0,none⟩ (.int .u16 0)).heap[b12]? =some (.cells #[.int .u16 0,.slice none 0 0,.int .i64 0,.int .u16 0,.string {data:=#[]},.int .i64 0,.int .i64 0] 57 (0,0)):=by rw[zD HBa.out];rfl
  have hbb1:((Wa.setCell ⟨b12,0,none⟩ (.int .u16 0)).setCell ⟨b12,1,none⟩ (.slice none 0 0)).heap[b12]? =some (.cells #[.int .u16 0,.slice none 0 0,.int .i64 0,.int .u16 0,.string {data:=#[]},.int .i64 0,.int .i64 0] 57 (0,0)):=by rw[zD hbb0];rfl
  have hbb2:(((Wa.setCell ⟨b12,0,none⟩ (.int .u16 0)).setCell ⟨b12,1,none⟩ (.slice none 0 0)).setCell ⟨b12,2,none⟩ (.int .i64 0)).heap[b12]? =some (.cells #[.int .u16 0,.slice none 0 0,.int .i64 0,.int .u16 0,.string {data:=#[]},.int .i64 0,.int .i64 0] 57 (0,0)):=by rw[zD hbb1];rfl
  have hbb3:((((Wa.setCell ⟨b12,0,none⟩ (.int .u16 0)).setCell ⟨b12,1,none⟩ (.slice none 0 0)).setCell ⟨b12,2,none⟩ (.int .i64 0)).setCell ⟨b12,3,none⟩ (.int .u16 0)).heap[b12]? =some (.cells #[.int .u16 0,.slice none 0 0,.int .i64 0,.int .u16 0,.string {data:=#[]},.int .i64 0,.int .i64 0] 57 (0,0)):=by rw[zD hbb2];rfl
  have hbb4:(((((Wa.setCell ⟨b12,0,none⟩ (.int .u16 0)).setCell ⟨b12,1,none⟩ (.slice none 0 0)).setCell ⟨b12,2,none⟩ (.int .i64 0)).setCell ⟨b12,3,none⟩ (.int .u16 0)).setCell ⟨b12,4,none⟩ (.string {data:=#[]})).heap[b12]? =some (.cells #[.int .u16 0,.slice none 0 0,.int .i64 0,.int .u16 0,.string {data:=#[]},.int .i64 0,.int .i64 0] 57 (0,0)):=by rw[zD hbb3];rfl
  have hbb5:((((((Wa.setCell ⟨b12,0,none⟩ (.int .u16 0)).setCell ⟨b12,1,none⟩ (.slice none 0 0)).setCell ⟨b12,2,none⟩ (.int .i64 0)).setCell ⟨b12,3,none⟩ (.int .u16 0)).setCell ⟨b12,4,none⟩ (.string {data:=#[]})).setCell ⟨b12,5,none⟩ (.int .i64 0)).heap[b12]? =some (.cells #[.int .u16 0,.slice none 0 0,.int .i64 0,.int .u16 0,.string {data:=#[]},.int .i64 0,.int .i64 0] 57 (0,0)):=by rw[zD hbb4];rfl
  have hbb6:(((((((Wa.setCell ⟨b12,0,none⟩ (.int .u16 0)).setCell ⟨b12,1,none⟩ (.slice none 0 0)).setCell ⟨b12,2,none⟩ (.int .i64 0)).setCell ⟨b12,3,none⟩ (.int .u16 0)).setCell ⟨b12,4,none⟩ (.string {data:=#[]})).setCell ⟨b12,5,none⟩ (.int .i64 0)).setCell ⟨b12,6,none⟩ (.int .i64 0)).heap[b12]? =some (.cells #[.int .u16 0,.slice none 0 0,.int .i64 0,.int .u16 0,.string {data:=#[]},.int .i64 0,.int .i64 0] 57 (0,0)):=by rw[zD hbb5];rfl
  have HBb:=Lib.hid hbb6
  have HGb:=Lib.hid (zu (zu (zu (zu (zu (zu (zu HGa.out 0 (.int .u16 0)) 1 (.slice none 0 0)) 2 (.int .i64 0)) 3 (.int .u16 0)) 4 (.string {data:=#[]})) 5 (.int .i64 0)) 6 (.int .i64 0))
  refine hK.out _ _ (FinS.all hrl HSb.out) (fun hHeld=>?_)
  clear hK K e0 g0 e1 g1 e2 g2 e3 g3 e4 g4 e5 g5 e6 g6 hbb0 hbb1 hbb2 hbb3 hbb4 hbb5 hbb6 HSa HBa HGa
  (try simp only[Act.put,List.setIfInBounds_toArray,List.set_cons_zero,List.set_cons_succ])
  generalize (((((((Wa.setCell ⟨b12,0,none⟩ (.int .u16 0)).setCell ⟨b12,1,none⟩ (.slice none 0 0)).setCell ⟨b12,2,none⟩ (.int .i64 0)).setCell ⟨b12,3,none⟩ (.int .u16 0)).setCell ⟨b12,4,none⟩ (.string {data:=#[]})).setCell ⟨b12,5,none⟩ (.int .i64 0)).setCell ⟨b12,6,none⟩ (.int .i64 0))=Wb at *
  refine wpAnyH_take (i:=20) (oi:=_) (v:=?_) rfl (by kernel_rfl) (by kernel_rfl) (by kernel_rfl) (fun _ _ _ h=>h) (Or.inl ⟨by rfl,?_⟩) (by assumption) ?_
  rotate_left
  ·(intro w hSw;(try dsimp only at hSw);go_simp;try with_reducible rfl)
  (try simp only[Act.put,List.setIfInBounds_toArray,List.set_cons_zero,List.set_cons_succ])
  have e0:Wb.cell? ⟨b12,0,none⟩=some (.int .u16 0):=zA HBb.out (by simp)
  have g0:Wb.frozen? ⟨b12,0,none⟩=false:=zE HBb.out
  refine wpAnyH_ready (rs:=[21]) (by kernel_rfl) (by simp) ?_
  refine AllReadyH.cons (o:=_) rfl (fun K hK=>?_) ?_
  ·skip
   go_simp
   have HSc:=Lib.hid (HSET.out Wb 0 (.int .u16 (x:Int)) HSb.out)
   have hbc0:(Wb.setCell ⟨b12,0,none⟩ (.int .u16 (x:Int))).heap[b12]? =some (.cells #[.int .u16 (x:Int),.slice none 0 0,.int .i64 0,.int .u16 0,.string {data:=#[]},.int .i64 0,.int .i64 0] 57 (0,0)):=by rw[zD HBb.out];rfl
   have HBc:=Lib.hid hbc0
   have HGc:=Lib.hid (zu HGb.out 0 (.int .u16 (x:Int)))
   refine hK.out _ _ (FinS.all hrl HSc.out) (fun hHeld=>?_)
   clear hK K e0 g0 hbc0 HSb HBb HGb
   (try simp only[Act.put,List.setIfInBounds_toArray,List.set_cons_zero,List.set_cons_succ])
   generalize (Wb.setCell ⟨b12,0,none⟩ (.int .u16 (x:Int)))=Wc at *
   refine wpAnyH_take (i:=22) (oi:=_) (v:=?_) rfl (by kernel_rfl) (by kernel_rfl) (by kernel_rfl) (fun _ _ _ h=>h) (Or.inl ⟨by rfl,?_⟩) (by assumption) ?_
   rotate_left
   ·(intro w hSw;(try dsimp only at hSw);go_simp;try with_reducible rfl)
   (try simp only[Act.put,List.setIfInBounds_toArray,List.set_cons_zero,List.set_cons_succ])
   have e1:Wc.cell? ⟨b12,1,none⟩=some (.slice none 0 0):=zA HBc.out (by simp)
   have g1:Wc.frozen? ⟨b12,1,none⟩=false:=zE HBc.out
   refine wpAnyH_ready (rs:=[23]) (by kernel_rfl) (by simp) ?_
   refine AllReadyH.cons (o:=_) rfl (fun K hK=>?_) ?_
   ·skip
    go_simp
    have HSd:=Lib.hid (HSET.out Wc 1 (.slice oa m.out.length oc) HSc.out)
    have hbd0:(Wc.setCell ⟨b12,1,none⟩ (.slice oa m.out.length oc)).heap[b12]? =some (.cells #[.int .u16 (x:Int),.slice oa m.out.length oc,.int .i64 0,.int .u16 0,.string {data:=#[]},.int .i64 0,.int .i64 0] 57 (0,0)):=by rw[zD HBc.out];rfl
    have HBd:=Lib.hid hbd0
    have HGd:=Lib.hid (zu HGc.out 1 (.slice oa m.out.length oc))
    refine hK.out _ _ (FinS.all hrl HSd.out) (fun hHeld=>?_)
    clear hK K e1 g1 hbd0 HSc HBc HGc
    (try simp only[Act.put,List.setIfInBounds_toArray,List.set_cons_zero,List.set_cons_succ])
    generalize (Wc.setCell ⟨b12,1,none⟩ (.slice oa m.out.length oc))=Wd at *
    refine wpAnyH_take (i:=24) (oi:=_) (v:=?_) rfl (by kernel_rfl) (by kernel_rfl) (by kernel_rfl) (fun _ _ _ h=>h) (Or.inl ⟨by rfl,?_⟩) (by assumption) ?_
    rotate_left
    ·(intro w hSw;(try dsimp only at hSw);go_simp;try with_reducible rfl)
    (try simp only[Act.put,List.setIfInBounds_toArray,List.set_cons_zero,List.set_cons_succ])
    have e2:Wd.cell? ⟨b12,2,none⟩=some (.int .i64 0):=zA HBd.out (by simp)
    have g2:Wd.frozen? ⟨b12,2,none⟩=false:=zE HBd.out
    have e3:Wd.cell? ⟨b12,3,none⟩=some (.int .u16 0):=zA HBd.out (by simp)
    have g3:Wd.frozen? ⟨b12,3,none⟩=false:=zE HBd.out
    refine wpAnyH_ready (rs:=[25]) (by kernel_rfl) (by simp) ?_
    refine AllReadyH.cons (o:=_) rfl (fun K hK=>?_) ?_
    ·skip
     go_simp
     have HSe:=Lib.hid (HSET.out (Wd.setCell ⟨b12,2,none⟩ (.int .i64 (k:Int))) 3 (.int .u16 (i:Int)) (HSET.out Wd 2 (.int .i64 (k:Int)) HSd.out))
     have hbe0:(Wd.setCell ⟨b12,2,none⟩ (.int .i64 (k:Int))).heap[b12]? =some (.cells #[.int .u16 (x:Int),.slice oa m.out.length oc,.int .i64 (k:Int),.int .u16 0,.string {data:=#[]},.int .i64 0,.int .i64 0] 57 (0,0)):=by rw[zD HBd.out];rfl
     have hbe1:((Wd.setCell ⟨b12,2,none⟩ (.int .i64 (k:Int))).setCell ⟨b12,3,none⟩ (.int .u16 (i:Int))).heap[b12]? =some (.cells #[.int .u16 (x:Int),.slice oa m.out.length oc,.int .i64 (k:Int),.int .u16 (i:Int),.string {data:=#[]},.int .i64 0,.int .i64 0] 57 (0,0)):=by rw[zD hbe0];rfl
     have HBe:=Lib.hid hbe1
     have HGe:=Lib.hid (zu (zu HGd.out 2 (.int .i64 (k:Int))) 3 (.int .u16 (i:Int)))
     refine hK.out _ _ (FinS.all hrl HSe.out) (fun hHeld=>?_)
     clear hK K e2 g2 e3 g3 hbe0 hbe1 HSd HBd HGd
     (try simp only[Act.put,List.setIfInBounds_toArray,List.set_cons_zero,List.set_cons_succ])
     generalize ((Wd.setCell ⟨b12,2,none⟩ (.int .i64 (k:Int))).setCell ⟨b12,3,none⟩ (.int .u16 (i:Int)))=We at *
     refine wpAnyH_take (i:=26) (oi:=_) (v:=?_) rfl (by kernel_rfl) (by kernel_rfl) (by kernel_rfl) (fun _ _ _ h=>h) (Or.inl ⟨by rfl,?_⟩) (by assumption) ?_
     rotate_left
     ·(intro w hSw;(try dsimp only at hSw);go_simp;try with_reducible rfl)
     (try simp only[Act.put,List.setIfInBounds_toArray,List.set_cons_zero,List.set_cons_succ])
     have e4:We.cell? ⟨b12,4,none⟩=some (.string {data:=#[]}):=zA HBe.out (by simp)
     have g4:We.frozen? ⟨b12,4,none⟩=false:=zE HBe.out
     refine wpAnyH_ready (rs:=[27]) (by kernel_rfl) (by simp) ?_
     refine AllReadyH.cons (o:=_) rfl (fun K hK=>?_) ?_
     ·skip
      go_simp
      have HSf:=Lib.hid (HSET.out We 4 (.string (y9 m.ram)) HSe.out)
      have hbf0:(We.setCell ⟨b12,4,none⟩ (.string (y9 m.ram))).heap[b12]? =some (.cells #[.int .u16 (x:Int),.slice oa m.out.length oc,.int .i64 (k:Int),.int .u16 (i:Int),.string (y9 m.ram),.int .i64 0,.int .i64 0] 57 (0,0)):=by rw[zD HBe.out];rfl
      have HBf:=Lib.hid hbf0
      have HGf:=Lib.hid (zu HGe.out 4 (.string (y9 m.ram)))
      refine hK.out _ _ (FinS.all hrl HSf.out) (fun hHeld=>?_)
      clear hK K e4 g4 hbf0 HSe HBe HGe
      (try simp only[Act.put,List.setIfInBounds_toArray,List.set_cons_zero,List.set_cons_succ])
      generalize (We.setCell ⟨b12,4,none⟩ (.string (y9 m.ram)))=Wf at *
      refine wpAnyH_take (i:=28) (oi:=_) (v:=?_) rfl (by kernel_rfl) (by kernel_rfl) (by kernel_rfl) (fun _ _ _ h=>h) (Or.inl ⟨by rfl,?_⟩) (by assumption) ?_
      rotate_left
      ·(intro w hSw;(try dsimp only at hSw);go_simp;try with_reducible rfl)
      (try simp only[Act.put,List.setIfInBounds_toArray,List.set_cons_zero,List.set_cons_succ])
      have e5:Wf.cell? ⟨b12,5,none⟩=some (.int .i64 0):=zA HBf.out (by simp)
      have g5:Wf.frozen? ⟨b12,5,none⟩=false:=zE HBf.out
      refine wpAnyH_ready (rs:=[29]) (by kernel_rfl) (by simp) ?_
      refine AllReadyH.cons (o:=_) rfl (fun K hK=>?_) ?_
      ·skip
       go_simp
       have HSg:=Lib.hid (HSET.out Wf 5 (.int .i64 (m.inputs:Int)) HSf.out)
       have hbg0:(Wf.setCell ⟨b12,5,none⟩ (.int .i64 (m.inputs:Int))).heap[b12]? =some (.cells #[.int .u16 (x:Int),.slice oa m.out.length oc,.int .i64 (k:Int),.int .u16 (i:Int),.string (y9 m.ram),.int .i64 (m.inputs:Int),.int .i64 0] 57 (0,0)):=by rw[zD HBf.out];rfl
       have HBg:=Lib.hid hbg0
       have HGg:=Lib.hid (zu HGf.out 5 (.int .i64 (m.inputs:Int)))
       refine hK.out _ _ (FinS.all hrl HSg.out) (fun hHeld=>?_)
       clear hK K e5 g5 hbg0 HSf HBf HGf
       (try simp only[Act.put,List.setIfInBounds_toArray,List.set_cons_zero,List.set_cons_succ])
       generalize (Wf.setCell ⟨b12,5,none⟩ (.int .i64 (m.inputs:Int)))=Wg at *
       refine wpAnyH_take (i:=30) (oi:=_) (v:=?_) rfl (by kernel_rfl) (by kernel_rfl) (by kernel_rfl) (fun _ _ _ h=>h) (Or.inl ⟨by rfl,?_⟩) (by assumption) ?_
       rotate_left
       ·(intro w hSw;(try dsimp only at hSw);go_simp;try with_reducible rfl)
       (try simp only[Act.put,List.setIfInBounds_toArray,List.set_cons_zero,List.set_cons_succ])
       have e6:Wg.cell? ⟨b12,6,none⟩=some (.int .i64 0):=zA HBg.out (by simp)
       have g6:Wg.frozen? ⟨b12,6,none⟩=false:=zE HBg.out
       refine wpAnyH_ready (rs:=[31]) (by kernel_rfl) (by simp) ?_
       refine AllReadyH.cons (o:=_) rfl (fun K hK=>?_) ?_
       ·skip
        go_simp
        have HSh:=Lib.hid (HSET.out Wg 6 (.int .i64 (m.polls:Int)) HSg.out)
        have hbh0:(Wg.setCell ⟨b12,6,none⟩ (.int .i64 (m.polls:Int))).heap[b12]? =some (.cells #[.int .u16 (x:Int),.slice oa m.out.length oc,.int .i64 (k:Int),.int .u16 (i:Int),.string (y9 m.ram),.int .i64 (m.inputs:Int),.int .i64 (m.polls:Int)] 57 (0,0)):=by rw[zD HBg.out];rfl
        have HBh:=Lib.hid hbh0
        have HGh:=Lib.hid (zu HGg.out 6 (.int .i64 (m.polls:Int)))
        refine hK.out _ _ (FinS.all hrl HSh.out) (fun hHeld=>?_)
        clear hK K e6 g6 hbh0 HSg HBg HGg
        (try simp only[Act.put,List.setIfInBounds_toArray,List.set_cons_zero,List.set_cons_succ])
        generalize (Wg.setCell ⟨b12,6,none⟩ (.int .i64 (m.polls:Int)))=Wh at *
        refine wpAnyH_done (by kernel_rfl) (NoPanic.normal ?_) _
        go_wp2
        go_end0
        exact⟨rfl,HBh.out,HGh.out⟩
       ·exact AllReadyH.nil
      ·exact AllReadyH.nil
     ·exact AllReadyH.nil
    ·exact AllReadyH.nil
   ·exact AllReadyH.nil
  ·exact AllReadyH.nil
 ·exact AllReadyH.nil
end Go.Proofs.Ytojclalkfhoooaa
