/- Part of a proof. -/
import Derived.Test.YtojclalkfhoooaaGIFuel
set_option linter.all false
namespace Go.Proofs.Ytojclalkfhoooaa
def NZ {α:Type}(r:Res α):Prop:=∀k i m,r=.trap k i m->k≠0
theorem adf {α:Type}(x:α)(m:Mach):NZ (.ok x m):=fun k i m' h=>by cases h
theorem abd {α:Type}{k:Nat}(hk:k≠0)(i:Nat)(m:Mach):NZ (.trap k i m:Res α):=fun k' i' m' h=>by cases h;exact hk
theorem ab9 {α:Type}{c:Prop} [Decidable c] {r s:Res α}(hr:NZ r)(hs:NZ s):NZ (if c then r else s):=by split<;>assumption
theorem plain_nz (E:IEnv)(o:IOp)(a b:Nat)(m:Mach):NZ (mU E o a b m):=by
 unfold mU pR abh sK td im nX uq adS iy
 repeat' (first|exact adf _ _|exact abd Zd _ _|with_reducible apply ab9)
abbrev NZC (call:Int->List Nat->Mach->Res Nat):Prop:=∀f args m,NZ (call f args m)
theorem poll_nz (E:IEnv){call:Int->List Nat->Mach->Res Nat}(h:NZC call)(m:Mach):NZ (tY E call m):=by
 unfold tY;refine ab9 (ab9 ?_ (adf _ _)) (adf _ _)
 split
 ·exact adf _ _
 ·rename_i k i m' e
  exact abd (h _ _ _ _ _ _ e) _ _
theorem step_nz (E:IEnv){call:Int->List Nat->Mach->Res Nat}(h:NZC call)(o:IOp)(v:Int->Nat)(m:Mach):NZ (oV E call o v m):=by
 unfold oV;exact ab9 (h _ _ _) (ab9 (poll_nz E h m) (plain_nz E o _ _ m))
theorem ops_nz (E:IEnv){call:Int->List Nat->Mach->Res Nat}(h:NZC call):∀(os:List IOp) (v:Int->Nat) (m:Mach),NZ (iq E call os v m)
 | [],v,m=>adf _ _
 |o::os,v,m=>by
  unfold iq;refine ab9 (abd Zd _ _) ?_
  split
  ·exact ops_nz E h os _ _
  ·rename_i k i m' e
   exact abd (step_nz E h o v _ _ _ _ e) _ _
theorem acT (E:IEnv){call:Int->List Nat->Mach->Res Nat}(h:NZC call)(blocks:List IBlk):∀(n:Nat) (at':Int) (args:List Nat) (v:Int->Nat) (m:Mach),NZ (tJ E call blocks n at' args v m)
 |0,_,_,_,_=>abd Zd _ _
 |n+1,at',args,v,m=>by
  unfold tJ
  split
  ·rename_i k i m' e
   exact abd (ops_nz E h _ _ _ _ _ _ e) _ _
  ·exact ab9 (abd Zd _ _) (ab9 (adf _ _) (ab9 (abd Zd _ _) (acT E h blocks n _ _ _ _)))
theorem adq (E:IEnv):∀r,NZC (xW E r)
 |0=>fun f args m=>abd Zd _ _
 |r+1=>fun f args m=>by
  unfold xW;exact ab9 (abd Zd _ _) (acT E (adq E r) _ _ _ _ _ _)
theorem adl (E:IEnv)(f:Int)(args:List Nat)(ram:ByteArray)(fuel:Int):(bQ E f args ram fuel).kind≠0:=by
 unfold bQ
 cases h:xW E 100 f args ⟨v7 ram,fuel,[],0,0⟩ with
 |ok x m=>exact(show(6:Nat)≠0 by decide)
 |trap k i m=>exact adq E 100 f args _ k i m h
end Go.Proofs.Ytojclalkfhoooaa
