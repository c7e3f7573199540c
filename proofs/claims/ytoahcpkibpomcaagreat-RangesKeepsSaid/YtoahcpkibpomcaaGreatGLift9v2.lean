/- Part of a proof. -/
import Derived.Test.YtoahcpkibpomcaaGreatSp
import Derived.BigQuiet
import Derived.BigRegion
import Derived.Carry
import Derived.Deep.AppendLies
import Derived.Deep.CutBlock
import Derived.Deep.DeepCutAuto
import Derived.Deep.DeepMust
import Derived.Deep.LoopGhost
import Derived.Deep.OwnRows
import Derived.Deep.QuietTactic
import Derived.Deep.RegionHeld3
import Derived.Deep.RegionLaw
import Derived.Deep.Slices
import Derived.Defers
import Derived.JoinedTies
import Derived.KernelRfl
import Derived.Laws.BitsLemmas
import Derived.Laws.BytesArg
import Derived.Laws.CopyOwn
import Derived.Laws.EntriesVeiled
import Derived.Lib.BufferWrite
import Derived.Lib.EndianBits
import Derived.Lib.Hide
import Derived.LoopIn
import Derived.LoopNIn
import Derived.Maps.AppendAt
import Derived.Maps.OwnOps
import Derived.Maps.OwnSet
import Derived.OpenShut
import Derived.OrdersHeld
import Derived.Outline
import Derived.OwnWalkIn
import Derived.ProofKit
import Derived.RangeFuncBound
import Derived.RangeFuncCalls
import Derived.RangeFuncLeaves
import Derived.RangeFuncNested
import Derived.Recover
import Derived.RegionIn
import Derived.Shelf.Abstract
import Derived.Shelf.Bits.Mul64
import Derived.Shelf.RegionOpen
import Derived.StillTail
import Derived.TacticsInMore
import Derived.Test.YtoahcpkibpomcaaGreatChecked
import Derived.Test.YtoahcpkibpomcaaGreatProg
import Derived.WalkKit
import Derived.WalkLawsBesides
import Derived.WalkSpells
import Derived.WideKeyEntry
import GoSem.Claim
import GoSem.ClaimJoined
import GoSem.ClaimMapViews
set_option maxRecDepth 100000
set_option linter.all false
namespace Go.Proofs.YtoahcpkibpomcaaGreat
open Go.ChangeShapes Go.WideShapes Go.ChangeAt Go.RowKit
theorem acP {P:Program}{H:Type}{enc:TypeId×Value->H}{W:World}{fuel:Nat}{n:Nat}{t e:TypeId}{q:IntKind}{cs:List Value}{x:DataW H×List MemPlace}(ht:P.underlying t=some (.array n e))(o:P.underlying e=some (.int q))(c1:P.cellsOf e=1)(hl:cs.length=n)
 (hf:DataW.trod enc P W 0 (fun _=>true) true fuel t cs=some x):∃zs:List Int,cs=zs.map (.int q)/\zs.length=n/\∀z∈zs,(Lit.int q z).wf=true:=by
 obtain⟨xs,k,_,_,_,u,j⟩:=DataW.trod_array ht hf
 have d:∀i,i<n->∃z:Int,cs[i]? =some (.int q z)/\(Lit.int q z).wf=true:=by
  intro i hi;have g:=j i hi;rw[c1,Jd Zo] at g;obtain⟨z,e0,_,w0⟩:=DataW.trod_int o g;refine⟨z,?_,w0⟩;rw[Nk] at e0;have h:=congrArg (fun l:List Value=>l[0]?) e0
  simpa using h
 obtain⟨f,c⟩:=Go.Deep.choose_lt d;refine⟨(List.range n).map f,?_,by simp,?_⟩
 ·apply Oq;intro i
  by_cases hi:i<n
  ·rw[(c i hi).1];simp[hi]
  ·rw[Of Zo,Of Zt]
 ·intro z m;obtain⟨i,hi,rfl⟩:=Nu.1 m;exact(c i (Ol.1 hi)).2
theorem a8 {z:Int}(h:(Lit.int .u16 z).wf=true):∃x:Nat,z=(x:Int)/\x<65536:=by
 have h:0<=z/\z<=65535:=by simpa[Lit.wf,IntKind.min,IntKind.max,IntKind.signed,IntKind.bits] using h
 exact⟨z.toNat,by rw[Oa h.1],by omega⟩
end Go.Proofs.YtoahcpkibpomcaaGreat
