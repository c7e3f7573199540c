/-
  The law returns true for every input: the given statement. Conditions: none beyond the statement's own.
-/
import Derived.Test.YtoahcpkibpomcaaGreatGZlvv
set_option linter.all false
set_option maxRecDepth 100000
namespace Go.Proofs.YtoahcpkibpomcaaGreat
open Go.ChangeShapes Go.WideShapes Go.ChangeAt Go.RowKit
theorem aeV:ownKnob Tryz.prog.godebug=none:=by kernel_rfl
theorem o6:laidOutB Tryz.prog=true:=by kernel_rfl
theorem aeJ (os:Os)(i:os.Started)(H:Type)(enc:TypeId×Value->H):
 ReturnsInHanded {} Tryz.checked os 3 .any (Rows.rangesInvalidSpec.pre6 enc Tryz.prog Tryz.f3 Rows.rangesInvalidRow.domain false) (Rows.rangesInvalidSpec.post enc Tryz.prog Tryz.f3 false true false false):=by
 refine returnsInHanded_of_change (C:=Tryz.checked) aeV i Zk Tryz.func3
  (ChangeSpec.witness6 (enc:=enc) (C:=Tryz.checked) false ⟨#[],#[L,.agg #[.int .i64 0,.int .i64 0,.int .i64 0],.int .i64 0],[]⟩ 8 Zk Zk Zk Zk) ?_
 intro W base args ds gs before g hW a4 _;have c:∀(j:Nat) t v,Tryz.f3.params[j]? =some t->args[j]? =some v->Value.okWide Tryz.prog W .any base t v:=g;have d:=hW;obtain⟨p,q,k,hV,rfl,a5,hnd⟩:=hW;have hA:DataW.TrodAll enc Tryz.prog W 0 (fun _=>true) true Tryz.f3.params.toList args.toList ds p:=k;rw[Tryz.params3] at hA c;obtain⟨v0,vs0,d0,a8,p0,q0,a3,rfl,rfl,h0,r0⟩:=trodAll_cons hA;obtain⟨v1,vs1,d1,a7,p1,q1,rfl,rfl,rfl,h1,r1⟩:=trodAll_cons r0;obtain⟨v2,vs2,d2,a6,p2,q2,rfl,rfl,rfl,h2,r2⟩:=trodAll_cons r1;obtain⟨rfl,rfl,rfl⟩:=trodAll_nil r2;obtain rfl:args=#[v0,v1,v2]:=by cases args;simp_all
 obtain⟨rfl,rfl⟩:=trodVars_none hV;obtain⟨x0,a2⟩:=iX (c 0 22 v0 rfl rfl) h0;obtain⟨y,w,u,rfl,a1⟩:=jy (c 1 23 v1 rfl rfl) h1;obtain⟨x2,rfl,a0⟩:=int_open (c 2 3 v2 rfl rfl) h2;have o:∀x∈p0,x.block<W.heap.size:=fun x hx=>d.lt x (by simp[hx])
 have m:∀x∈p1,x.block<W.heap.size:=fun x hx=>d.lt x (by simp[hx])
 have l:∀x∈p2,x.block<W.heap.size:=fun x hx=>d.lt x (by simp[hx])
 clear k g;simp only[Ua] at d;refine(afE W v0 x0 y w u x2 a2 a1 a0).mono fun e W' ⟨he,hb⟩=>?_
 subst he;exact⟨_,rfl,_,_,_,[],p0++(p1++p2),[],d,trodAll_mk1 (shut_bool Tryz.underlying4 _),trodAll_mk3 (Below.trod o6 Zk (of_decide_eq_true Zk) h0 hb o) (Below.trod o6 Zk (of_decide_eq_true Zk) h1 hb m) (Below.trod o6 Zk (of_decide_eq_true Zk) h2 hb l),rfl,hb.frame _,fun h=>by cases h⟩
theorem rangesInvalid_holds:Rows.RangesInvalidSaid:=
 OpenClaim.holds_of_wide 3 Tryz.f3 rfl rfl rfl rfl rfl rfl rfl ⟨rfl,rfl,rfl,rfl,rfl⟩ rfl rfl rfl rfl rfl Zk Tryz.func3 Zk
  (of_decide_eq_true Zk) (by unfold Func.isWrapper;first|(rw[if_pos (by decide+kernel)];kernel_rfl)|(rw[if_neg (by decide+kernel)];exact⟨rfl,rfl⟩))
  (fun os started H enc _=>aeJ os started H enc)
end Go.Proofs.YtoahcpkibpomcaaGreat
