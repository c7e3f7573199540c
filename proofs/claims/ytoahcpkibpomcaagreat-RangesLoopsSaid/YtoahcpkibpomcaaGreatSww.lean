/- Part of a proof. -/
import Derived.Test.YtoahcpkibpomcaaGreatGVnAw
import Derived.BigQuiet
import Derived.Deep.AppendLies
import Derived.Deep.CutBlock
import Derived.Deep.DeepCutAuto
import Derived.Deep.DeepMust
import Derived.Deep.LoopGhost
import Derived.Deep.QuietTactic
import Derived.Deep.RegionHeld3
import Derived.Deep.RegionLaw
import Derived.Lib.Hide
import Derived.Maps.AppendAt
import Derived.OrdersHeld
import Derived.Outline
import Derived.Test.YtoahcpkibpomcaaGreatProg
import Derived.WalkKit
import Derived.WalkSpells
namespace Go.Proofs.YtoahcpkibpomcaaGreat
open Go.RowKit
structure Y0 where
structure Y1 where
structure Y2 where
structure Y3 where
structure Y4 (l : Array Value) (t : TypeId) where
structure Y5 (b n c : Nat) where
structure Y6 (b : Nat) where
structure Y7 (w : World) (b i : Nat) (v : Value) where
structure Y8 (w : World) (b : Nat) (l : Array Value) (t : TypeId) where
structure Y9 (b w : World) where
structure Yf (w : World) (b i : Nat) where
structure Yg (p : IProg) (a : Option Addr) (b : Nat) (c : Option Addr) (d : Nat) (e : Option Addr) (f : Nat) (g : Option Addr) (h : Nat) where
structure Yh (o : IOp) (a : Option Addr) (c : Nat) where
instance {p a b c d e f g h} : CoeOut (Yg p a b c d e f g h) (Array Value) := ⟨fun _ => #[.slice a p.funcs.length b, .slice c p.args.length d, .int .i64 p.entry, .int .i64 p.handler, .slice e p.data.length f, .slice g p.banks.length h]⟩
instance {o a c} : CoeOut (Yh o a c) (Array Value) := ⟨fun _ => #[.int .i64 o.code, .int .i64 o.res, .int .i64 o.a, .int .i64 o.b, .int .u16 (o.n : Int), .slice a o.args.length c]⟩
instance : CoeFun Y0 fun _ => Int → Value := ⟨fun _ => .int .i64⟩
instance : CoeFun Y1 fun _ => Int → Value := ⟨fun _ => .int .u16⟩
instance : CoeOut Y2 Value := ⟨fun _ => .slice none 0 0⟩
instance : CoeFun Y3 fun _ => FuncId → Array Value → World → (Ending → World → Prop) → Prop := ⟨fun _ => Calls Tryz.prog⟩
instance {l t} : CoeOut (Y4 l t) Obj := ⟨fun _ => .cells l t (0, 0)⟩
instance {b n c} : CoeOut (Y5 b n c) Value := ⟨fun _ => .slice (some ⟨b, 0, none⟩) n c⟩
instance {b} : CoeOut (Y6 b) Value := ⟨fun _ => .pointer (some ⟨b, 0, none⟩)⟩
instance {w b i v} : CoeSort (Y7 w b i v) Prop := ⟨fun _ => w.cell? ⟨b, i, none⟩ = some v⟩
instance {w b i v} : CoeOut (Y7 w b i v) Prop := ⟨fun _ => w.cell? ⟨b, i, none⟩ = some v⟩
instance {w b l t} : CoeSort (Y8 w b l t) Prop := ⟨fun _ => w.heap[b]? = some (.cells l t (0, 0))⟩
instance {w b l t} : CoeOut (Y8 w b l t) Prop := ⟨fun _ => w.heap[b]? = some (.cells l t (0, 0))⟩
instance {b w} : CoeSort (Y9 b w) Prop := ⟨fun _ => Below b.heap.size b w⟩
instance {b w} : CoeOut (Y9 b w) Prop := ⟨fun _ => Below b.heap.size b w⟩
instance {w b i} : CoeSort (Yf w b i) Prop := ⟨fun _ => w.frozen? ⟨b, i, none⟩ = false⟩
instance {w b i} : CoeOut (Yf w b i) Prop := ⟨fun _ => w.frozen? ⟨b, i, none⟩ = false⟩
abbrev P (p : IProg) (a : Option Addr) (b : Nat) (c : Option Addr) (d : Nat) (e : Option Addr) (f : Nat) (g : Option Addr) (h : Nat) : Yg p a b c d e f g h := ⟨⟩
abbrev C (o : IOp) (a : Option Addr) (c : Nat) : Yh o a c := ⟨⟩
abbrev U : Y0 := ⟨⟩
abbrev Y : Y1 := ⟨⟩
abbrev L : Y2 := ⟨⟩
abbrev G : Y3 := ⟨⟩
abbrev I (l : Array Value) (t : TypeId) : Y4 l t := ⟨⟩
abbrev F (b n c : Nat) : Y5 b n c := ⟨⟩
abbrev Q (b : Nat) : Y6 b := ⟨⟩
abbrev A (w : World) (b i : Nat) (v : Value) : Y7 w b i v := ⟨⟩
abbrev O (w : World) (b : Nat) (l : Array Value) (t : TypeId) : Y8 w b l t := ⟨⟩
abbrev N (b w : World) : Y9 b w := ⟨⟩
abbrev D (w : World) (b i : Nat) : Yf w b i := ⟨⟩
end Go.Proofs.YtoahcpkibpomcaaGreat
