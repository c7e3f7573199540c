/- Part of a proof. -/
import Derived.BigQuiet
import Derived.Deep.AppendLies
import Derived.Deep.CutBlock
import Derived.Deep.DeepCutAuto
import Derived.Deep.DeepMust
import Derived.Deep.LoopGhost
import Derived.Deep.QuietTactic
import Derived.Deep.RegionHeld3
import Derived.Deep.RegionLaw
import Derived.Lib.Hide
import Derived.Maps.AppendAt
import Derived.OrdersHeld
import Derived.Outline
import Derived.WalkKit
import Derived.WalkSpells
set_option linter.all false
namespace Go.Proofs.YtoahcpkibpomcaaGreat
open Go.RowKit
theorem Zk {P:Prop}(h:P:=by kernel_rfl):P:=h
theorem Zn {P:Prop}(h:P:=by first|exact Nat.le_refl _|omega|(simp;done)|(simp;omega)):P:=h
theorem Zy {P:Prop}(h:P:=by first|(simp;done)|(simp;omega)):P:=h
theorem Zx {P:Prop}(h:P:=by repeat' (first|exact Below.refl _ _|assumption|(refine Below.alloc ?_ (by first|(simp;done)|(simp;omega)) _)|(refine Below.setCell ?_ (by first|(simp;done)|(simp;omega)) _))):P:=h
theorem Zc {P:Prop}(h:P:=by repeat' (first|with_reducible exact Below.refl _ _|with_reducible refine Below.drew ?_|with_reducible refine Below.alloc ?_ (by first|exact Nat.le_refl _|omega|(simp;done)|(simp;omega)) _)):P:=h
theorem Zv {P:Prop}(h:P:=by repeat' (first|exact Below.refl _ _|(refine Below.alloc ?_ (by first|(simp;done)|(simp;omega)) _))):P:=h
theorem Zj {P:Prop}(h:P:=by repeat' (first|exact Below.refl _ _|assumption|(refine Below.drew ?_)|(refine Below.alloc ?_ (by first|(simp;done)|(simp;omega)) _)|(refine Below.setCell ?_ (by first|(simp;done)|(simp;omega)) _))):P:=h
theorem Zf {P:Prop}(h:P:=by repeat' (first|with_reducible exact Below.refl _ _|with_reducible refine Below.drew ?_)):P:=h
theorem Zr {P:Prop}(h:P:=by repeat' (first|exact Below.refl _ _|(refine Below.alloc ?_ (by simp) _)|(refine Below.setCell ?_ (by simp) _))):P:=h
theorem Th {P:Program}{ops:Array Oper}{Q:Exit->Act->World->Prop}{md:Region.Mode}{S:World->Prop}(i:Nat){oi:Oper}{v:Value}{fuel:Nat}{d:Array Bool}{a:Act}{w:World}(h:wpAnyH P md ops Q S fuel (d.setIfInBounds i true) (a.put oi.dst v) w)(hi:ops[i]? =some oi:=by rfl)
 (hs:Region.noSelect ops=true:=by kernel_rfl) (hf:Region.free md ops d i=true:=by kernel_rfl) (hr:(Region.ready md ops d).contains i=true:=by kernel_rfl)
 (k:∀c a w,Q (.panic c) (a.put oi.dst v) w->Q (.panic c) a w:=by exact fun _ _ _ h=>h) (g:YieldsIf P ops S oi v a:=by exact Or.inl ⟨by rfl,by intro w hSw;(try dsimp only at hSw);go_simp;try with_reducible rfl⟩) (j:S w:=by assumption):wpAnyH P md ops Q S (fuel+1) d a w:=
 wpAnyH_take hi hs hf hr k g j h
theorem Td {P:Program}{ops:Array Oper}{Q:Exit->Act->World->Prop}{md:Region.Mode}{S:World->Prop}(i:Nat){oi:Oper}{fuel:Nat}{d:Array Bool}{a:Act}{w:World}(h:wpAnyH P md ops Q S fuel (d.setIfInBounds i true) (a.put oi.dst undef) w)(hi:ops[i]? =some oi:=by rfl)
 (hs:Region.noSelect ops=true:=by kernel_rfl) (hf:Region.free md ops d i=true:=by kernel_rfl) (hr:(Region.ready md ops d).contains i=true:=by kernel_rfl)
 (k:∀c a w,Q (.panic c) (a.put oi.dst undef) w->Q (.panic c) a w:=by exact fun _ _ _ h=>h) (g:YieldsIf P ops S oi undef a:=by exact Or.inr ⟨by kernel_rfl,rfl⟩) (j:S w:=by assumption):wpAnyH P md ops Q S (fuel+1) d a w:=
 wpAnyH_take hi hs hf hr k g j h
theorem Zb {P:Prop}(h:P:=by repeat' (first|with_reducible exact Below.refl _ _|with_reducible assumption|with_reducible refine Below.drew ?_|with_reducible refine Below.alloc ?_ (by first|exact Nat.le_refl _|omega|(simp;done)|(simp;omega)) _)):P:=h
section
variable {W:World} {b:Nat} {x0 x1 x2 x3 x4 x5 x6:Value} {l:List Value} {t:TypeId}
theorem K0 (h:W.heap[b]? =some (.cells (x0::l).toArray t (0,0))):W.cell? ⟨b,0,none⟩=some x0:=by simp[World.cell?,h]
theorem K1 (h:W.heap[b]? =some (.cells (x0::x1::l).toArray t (0,0))):W.cell? ⟨b,1,none⟩=some x1:=by simp[World.cell?,h]
theorem K2 (h:W.heap[b]? =some (.cells (x0::x1::x2::l).toArray t (0,0))):W.cell? ⟨b,2,none⟩=some x2:=by simp[World.cell?,h]
theorem K3 (h:W.heap[b]? =some (.cells (x0::x1::x2::x3::l).toArray t (0,0))):W.cell? ⟨b,3,none⟩=some x3:=by simp[World.cell?,h]
theorem K4 (h:W.heap[b]? =some (.cells (x0::x1::x2::x3::x4::l).toArray t (0,0))):W.cell? ⟨b,4,none⟩=some x4:=by simp[World.cell?,h]
theorem K5 (h:W.heap[b]? =some (.cells (x0::x1::x2::x3::x4::x5::l).toArray t (0,0))):W.cell? ⟨b,5,none⟩=some x5:=by simp[World.cell?,h]
theorem K6 (h:W.heap[b]? =some (.cells (x0::x1::x2::x3::x4::x5::x6::l).toArray t (0,0))):W.cell? ⟨b,6,none⟩=some x6:=by simp[World.cell?,h]
end
theorem Yp:(∀(a:Act) (v:Value),a.put none v=a)/\(∀(a:Act) (d:Nat) (v:Value),a.put (some d) v= {a with tmps:=a.tmps.setIfInBounds d v })/\(∀(l:List Value) (i:Nat) (x:Value),l.toArray.setIfInBounds i x=(l.set i x).toArray)/\(∀(a:Value) (l:List Value) (x:Value),(a::l).set 0 x=x::l)/\(∀(a:Value) (l:List Value) (i:Nat) (x:Value),(a::l).set (i+1) x=a::l.set i x)/\(∀(l:List Oper) (i:Nat) (h:i<l.toArray.size),l.toArray[i]'h=l[i]'h)/\(∀(a:Oper) (l:List Oper) (h:0<(a::l).length),(a::l)[0]'h=a)/\(∀(a:Oper) (l:List Oper) (i:Nat) (h:i+1<(a::l).length),(a::l)[i+1]'h=l[i]'(Nat.lt_of_succ_lt_succ h)):=
 ⟨fun _ _=>rfl,fun _ _ _=>rfl,fun l i x=>List.setIfInBounds_toArray ..,fun _ _ _=>rfl,fun _ _ _ _=>rfl,fun _ _ _=>rfl,fun _ _ _=>rfl,fun _ _ _ _=>rfl⟩
abbrev Ja:=@Lib.hid
abbrev Jv:=@World.ownsRow_nil
abbrev Jw:=@World.block_lt_of_cell?
abbrev Oi:=@World.news_of_block
abbrev Ok:=@World.cell?_alloc_lt
abbrev Om:=@IntWalk.i64_in
abbrev Oo:=@World.cell?_of_block
abbrev Qm:=@World.frozen?_of_block
abbrev Uo:=@World.grownBy_alloc
end Go.Proofs.YtoahcpkibpomcaaGreat
