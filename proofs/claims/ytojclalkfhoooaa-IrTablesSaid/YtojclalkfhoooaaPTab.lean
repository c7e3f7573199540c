/-
  The law IrTables returns true for every input: the given statement. Conditions: none beyond the statement's own.
-/
import Derived.Test.YtojclalkfhoooaaLTab
import Derived.Test.YtojclalkfhoooaaLift9
set_option linter.unusedSimpArgs false
set_option linter.unusedVariables false
set_option maxRecDepth 100000
namespace Go.Proofs.Ytojclalkfhoooaa
open Go.ChangeShapes Go.WideShapes Go.ChangeAt Go.RowKit
theorem o0:ownKnob Try.prog.godebug=none:=by kernel_rfl
theorem we:laidOutB Try.prog=true:=by kernel_rfl
theorem rZ (os:Os)(started:os.Started)(H:Type)(enc:TypeId×Value->H):
 ReturnsInHanded {} Try.checked os 16 .any (Rows.irTablesSpec.pre6 enc Try.prog Try.f16 Rows.irTablesRow.domain false) (Rows.irTablesSpec.post enc Try.prog Try.f16 false true false false):=by
 refine returnsInHanded_of_change (C:=Try.checked) o0 started (by kernel_rfl) Try.func16
  (ChangeSpec.witness6 (enc:=enc) (C:=Try.checked) false ⟨#[],#[.slice none 0 0,.agg #[.int .i64 0,.int .i64 0,.int .i64 0],.agg #[.int .i64 0,.int .i64 0,.int .i64 0,.int .i64 0,.int .u16 0,.slice none 0 0]],[]⟩ 8 (by kernel_rfl) (by kernel_rfl) (by kernel_rfl) (by kernel_rfl)) ?_
 intro W base args ds gs before hval0 hW hcnd _
 have hval:∀(j:Nat) t v,Try.f16.params[j]? =some t->args[j]? =some v->Value.okWide Try.prog W .any base t v:=hval0
 have hW':=hW
 obtain⟨p,q,hA0,hV,rfl,hfz,hnd⟩:=hW
 have hA:DataW.TrodAll enc Try.prog W 0 (fun _=>true) true Try.f16.params.toList args.toList ds p:=hA0
 rw[Try.params16] at hA hval
 obtain⟨v0,vs0,d0,ds0,p0,q0,hargs,rfl,rfl,h0,r0⟩:=trodAll_cons hA
 obtain⟨v1,vs1,d1,ds1,p1,q1,rfl,rfl,rfl,h1,r1⟩:=trodAll_cons r0
 obtain⟨v2,vs2,d2,ds2,p2,q2,rfl,rfl,rfl,h2,r2⟩:=trodAll_cons r1
 obtain⟨rfl,rfl,rfl⟩:=trodAll_nil r2
 obtain rfl:args=#[v0,v1,v2]:=by cases args;simp_all
 obtain⟨rfl,rfl⟩:=trodVars_none hV
 obtain⟨x0,hx0⟩:=iX (hval 0 22 v0 rfl rfl) h0
 obtain⟨xa1,xb1,xc1,rfl,hx1⟩:=jy (hval 1 23 v1 rfl rfl) h1
 obtain⟨c2,e2,a2,b2,n2,s2a,s2n,s2c,rfl⟩:=iO (hval 2 77 v2 rfl rfl) h2
 have hlt0:∀x∈p0,x.block<W.heap.size:=fun x hx=>hW'.lt x (by simp[hx])
 have hlt1:∀x∈p1,x.block<W.heap.size:=fun x hx=>hW'.lt x (by simp[hx])
 have hlt2:∀x∈p2,x.block<W.heap.size:=fun x hx=>hW'.lt x (by simp[hx])
 clear hA0 hval0
 simp only[List.append_nil] at hW'
 refine(lK W v0 x0 xa1 xb1 xc1 c2 e2 a2 b2 n2 s2a s2n s2c hx0 hx1).mono fun e W' ⟨he,hb⟩=>?_
 subst he
 exact⟨_,rfl,_,_,_,[],p0++(p1++p2),[],hW',trodAll_mk1 (shut_bool Try.underlying4 _),trodAll_mk3 (Below.trod we (by kernel_rfl) (of_decide_eq_true (by kernel_rfl)) h0 hb hlt0) (Below.trod we (by kernel_rfl) (of_decide_eq_true (by kernel_rfl)) h1 hb hlt1) (Below.trod we (by kernel_rfl) (of_decide_eq_true (by kernel_rfl)) h2 hb hlt2),rfl,hb.frame _,fun h=>by cases h⟩
theorem irTables_holds:Rows.IrTablesSaid:=
 OpenClaim.holds_of_wide 16 Try.f16 rfl rfl rfl rfl rfl rfl rfl ⟨rfl,rfl,rfl,rfl,rfl⟩ rfl rfl rfl rfl rfl (by kernel_rfl) Try.func16 (by kernel_rfl)
  (of_decide_eq_true (by kernel_rfl)) (by unfold Func.isWrapper;first|(rw[if_pos (by decide+kernel)];kernel_rfl)|(rw[if_neg (by decide+kernel)];exact⟨rfl,rfl⟩))
  (fun os started H enc _=>rZ os started H enc)
end Go.Proofs.Ytojclalkfhoooaa
