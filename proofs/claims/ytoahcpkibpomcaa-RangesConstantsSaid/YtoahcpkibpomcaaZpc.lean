/-
  The law returns true for every input: the given statement. Conditions: none beyond the statement's own.
-/
import Derived.Test.YtoahcpkibpomcaaGZlg
set_option linter.all false
set_option maxRecDepth 100000
namespace Go.Proofs.Ytoahcpkibpomcaa
open Go.ChangeShapes Go.WideShapes Go.ChangeAt Go.RowKit
theorem agc:ownKnob Try.prog.godebug=none:=by kernel_rfl
theorem af4:laidOutB Try.prog=true:=by kernel_rfl
theorem aga (os:Os)(g:os.Started)(H:Type)(enc:TypeId×Value->H):
 ReturnsInHanded {} Try.checked os 3 .any (Rows.rangesConstantsSpec.pre6 enc Try.prog Try.f3 Rows.rangesConstantsRow.domain false) (Rows.rangesConstantsSpec.post enc Try.prog Try.f3 false true false false):=by
 refine returnsInHanded_of_change (C:=Try.checked) agc g Zk Try.func3
  (ChangeSpec.witness6 (enc:=enc) (C:=Try.checked) false ⟨#[],#[.int .u16 0,F],[]⟩ 8 Zk Zk Zk Zk) ?_
 intro W base args ds gs before d u a1 _;have c:∀(j:Nat) t v,Try.f3.params[j]? =some t->args[j]? =some v->Value.okWide Try.prog W .any base t v:=d;have f:=u;obtain⟨p,q,i,hV,rfl,a2,hnd⟩:=u;have w:DataW.TrodAll enc Try.prog W 0 (fun _=>true) true Try.f3.params.toList args.toList ds p:=i;rw[Try.params3] at w c;obtain⟨v0,vs0,d0,a4,p0,q0,a0,rfl,rfl,h0,r0⟩:=trodAll_cons w;obtain⟨v1,vs1,d1,a3,p1,q1,rfl,rfl,rfl,y,r1⟩:=trodAll_cons r0;obtain⟨rfl,rfl,rfl⟩:=trodAll_nil r1;obtain rfl:args=#[v0,v1]:=by cases args;simp_all
 obtain⟨rfl,rfl⟩:=trodVars_none hV;obtain⟨x0,rfl,o⟩:=u16_open (c 0 22 v0 rfl rfl) h0;obtain⟨x1,m⟩:=agQ (c 1 23 v1 rfl rfl) y;have l:∀x∈p0,x.block<W.heap.size:=fun x hx=>f.lt x (by simp[hx])
 have k:∀x∈p1,x.block<W.heap.size:=fun x hx=>f.lt x (by simp[hx])
 clear i d;simp only[Ua] at f;refine(law_con W x0 v1 x1 o m).mono fun e W' ⟨he,hb⟩=>?_
 subst he;exact⟨_,rfl,_,_,_,[],p0++p1,[],f,trodAll_mk1 (shut_bool Try.underlying4 _),trodAll_mk2 (Below.trod af4 Zk (of_decide_eq_true Zk) h0 hb l) (Below.trod af4 Zk (of_decide_eq_true Zk) y hb k),rfl,hb.frame _,fun h=>by cases h⟩
theorem rangesConstants_holds:Rows.RangesConstantsSaid:=
 OpenClaim.holds_of_wide 3 Try.f3 rfl rfl rfl rfl rfl rfl rfl ⟨rfl,rfl,rfl,rfl,rfl⟩ rfl rfl rfl rfl rfl Zk Try.func3 Zk
  (of_decide_eq_true Zk) (by unfold Func.isWrapper;first|(rw[if_pos (by decide+kernel)];kernel_rfl)|(rw[if_neg (by decide+kernel)];exact⟨rfl,rfl⟩))
  (fun os started H enc _=>aga os started H enc)
end Go.Proofs.Ytoahcpkibpomcaa
