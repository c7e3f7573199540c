/-
  The law returns true for every input: the given statement. Conditions: none beyond the statement's own.
-/
import Derived.Test.YtoahcpkibpomcaaGZlm
set_option linter.all false
set_option maxRecDepth 100000
namespace Go.Proofs.Ytoahcpkibpomcaa
open Go.ChangeShapes Go.WideShapes Go.ChangeAt Go.RowKit
theorem l5:ownKnob Try.prog.godebug=none:=by kernel_rfl
theorem wv:laidOutB Try.prog=true:=by kernel_rfl
theorem qz (os:Os)(g:os.Started)(H:Type)(enc:TypeId×Value->H):
 ReturnsInHanded {} Try.checked os 5 .any (Rows.rangesMovedSpec.pre6 enc Try.prog Try.f5 Rows.rangesMovedRow.domain false) (Rows.rangesMovedSpec.post enc Try.prog Try.f5 false true false false):=by
 refine returnsInHanded_of_change (C:=Try.checked) l5 g Zk Try.func5
  (ChangeSpec.witness6 (enc:=enc) (C:=Try.checked) false ⟨#[],#[.int .u8 0,.int .u16 0,.agg #[.int .u16 0,.int .u16 0]],[]⟩ 8 Zk Zk Zk Zk) ?_
 intro W base args ds gs before f hW a2 _;have c:∀(j:Nat) t v,Try.f5.params[j]? =some t->args[j]? =some v->Value.okWide Try.prog W .any base t v:=f;have d:=hW;obtain⟨p,q,i,hV,rfl,a3,hnd⟩:=hW;have hA:DataW.TrodAll enc Try.prog W 0 (fun _=>true) true Try.f5.params.toList args.toList ds p:=i;rw[Try.params5] at hA c;obtain⟨v0,vs0,d0,a6,p0,q0,a1,rfl,rfl,h0,r0⟩:=trodAll_cons hA;obtain⟨v1,vs1,d1,a5,p1,q1,rfl,rfl,rfl,h1,r1⟩:=trodAll_cons r0;obtain⟨v2,vs2,d2,a4,p2,q2,rfl,rfl,rfl,h2,r2⟩:=trodAll_cons r1;obtain⟨rfl,rfl,rfl⟩:=trodAll_nil r2;obtain rfl:args=#[v0,v1,v2]:=by cases args;simp_all
 obtain⟨rfl,rfl⟩:=trodVars_none hV;obtain⟨x0,rfl,a0⟩:=u8_open (c 0 5 v0 rfl rfl) h0;obtain⟨x1,rfl,y⟩:=u16_open (c 1 22 v1 rfl rfl) h1;obtain⟨u,o,rfl,w⟩:=cw (c 2 30 v2 rfl rfl) h2;have m:∀x∈p0,x.block<W.heap.size:=fun x hx=>d.lt x (by simp[hx])
 have l:∀x∈p1,x.block<W.heap.size:=fun x hx=>d.lt x (by simp[hx])
 have k:∀x∈p2,x.block<W.heap.size:=fun x hx=>d.lt x (by simp[hx])
 clear i f;simp only[Ua] at d;refine(afB W x0 x1 u o a0 y w).mono fun e W' ⟨he,hb⟩=>?_
 subst he;exact⟨_,rfl,_,_,_,[],p0++(p1++p2),[],d,trodAll_mk1 (shut_bool Try.underlying4 _),trodAll_mk3 (Below.trod wv Zk (of_decide_eq_true Zk) h0 hb m) (Below.trod wv Zk (of_decide_eq_true Zk) h1 hb l) (Below.trod wv Zk (of_decide_eq_true Zk) h2 hb k),rfl,hb.frame _,fun h=>by cases h⟩
theorem rangesMoved_holds:Rows.RangesMovedSaid:=
 OpenClaim.holds_of_wide 5 Try.f5 rfl rfl rfl rfl rfl rfl rfl ⟨rfl,rfl,rfl,rfl,rfl⟩ rfl rfl rfl rfl rfl Zk Try.func5 Zk
  (of_decide_eq_true Zk) (by unfold Func.isWrapper;first|(rw[if_pos (by decide+kernel)];kernel_rfl)|(rw[if_neg (by decide+kernel)];exact⟨rfl,rfl⟩))
  (fun os started H enc _=>qz os started H enc)
end Go.Proofs.Ytoahcpkibpomcaa
