/-
  The law returns true for every input: the given statement. Conditions: none beyond the statement's own.
-/
import Derived.Test.YtojclalkfhoooaaGLift10
set_option linter.all false
set_option maxRecDepth 100000
namespace Go.Proofs.Ytojclalkfhoooaa
open Go.ChangeShapes Go.WideShapes Go.ChangeAt Go.RowKit
theorem aw:ownKnob Try.prog.godebug=none:=by kernel_rfl
theorem vu:laidOutB Try.prog=true:=by kernel_rfl
theorem kr (os:Os)(i:os.Started)(H:Type)(enc:TypeId×Value->H):
 ReturnsInHanded {} Try.checked os 15 .any (Rows.irKeepsSpec.pre6 enc Try.prog Try.f15 Rows.irKeepsRow.domain false) (Rows.irKeepsSpec.post enc Try.prog Try.f15 false true false false):=by
 refine returnsInHanded_of_change (C:=Try.checked) aw i Zk Try.func15
  (ChangeSpec.witness6 (enc:=enc) (C:=Try.checked) false ⟨#[],#[F,.agg #[.int .i64 0,.int .i64 0,.int .i64 0],.agg #[F,F,.int .u32 0,.int .u16 0]],[]⟩ 8 Zk Zk Zk Zk) ?_
 intro W base args ds gs before g hW a3 _;have c:∀(j:Nat) t v,Try.f15.params[j]? =some t->args[j]? =some v->Value.okWide Try.prog W .any base t v:=g;have d:=hW;obtain⟨p,q,k,hV,rfl,a4,hnd⟩:=hW;have hA:DataW.TrodAll enc Try.prog W 0 (fun _=>true) true Try.f15.params.toList args.toList ds p:=k;rw[Try.params15] at hA c;obtain⟨v0,vs0,d0,a7,p0,q0,a2,rfl,rfl,h0,r0⟩:=trodAll_cons hA;obtain⟨v1,vs1,d1,a6,p1,q1,rfl,rfl,rfl,h1,r1⟩:=trodAll_cons r0;obtain⟨v2,vs2,d2,a5,p2,q2,rfl,rfl,rfl,h2,r2⟩:=trodAll_cons r1;obtain⟨rfl,rfl,rfl⟩:=trodAll_nil r2;obtain rfl:args=#[v0,v1,v2]:=by cases args;simp_all
 obtain⟨rfl,rfl⟩:=trodVars_none hV;obtain⟨x0,a1⟩:=iX (c 0 22 v0 rfl rfl) h0;obtain⟨w,u,r,rfl,a0⟩:=jy (c 1 23 v1 rfl rfl) h1;obtain⟨x2,y⟩:=fz (c 2 41 v2 rfl rfl) h2;have o:∀x∈p0,x.block<W.heap.size:=fun x hx=>d.lt x (by simp[hx])
 have m:∀x∈p1,x.block<W.heap.size:=fun x hx=>d.lt x (by simp[hx])
 have l:∀x∈p2,x.block<W.heap.size:=fun x hx=>d.lt x (by simp[hx])
 clear k g;simp only[Ua] at d;refine(aeG W v0 x0 w u r v2 x2 a1 a0 y).mono fun e W' ⟨he,hb⟩=>?_
 subst he;exact⟨_,rfl,_,_,_,[],p0++(p1++p2),[],d,trodAll_mk1 (shut_bool Try.underlying4 _),trodAll_mk3 (Below.trod vu Zk (of_decide_eq_true Zk) h0 hb o) (Below.trod vu Zk (of_decide_eq_true Zk) h1 hb m) (Below.trod vu Zk (of_decide_eq_true Zk) h2 hb l),rfl,hb.frame _,fun h=>by cases h⟩
theorem irKeeps_holds:Rows.IrKeepsSaid:=
 OpenClaim.holds_of_wide 15 Try.f15 rfl rfl rfl rfl rfl rfl rfl ⟨rfl,rfl,rfl,rfl,rfl⟩ rfl rfl rfl rfl rfl Zk Try.func15 Zk
  (of_decide_eq_true Zk) (by unfold Func.isWrapper;first|(rw[if_pos (by decide+kernel)];kernel_rfl)|(rw[if_neg (by decide+kernel)];exact⟨rfl,rfl⟩))
  (fun os started H enc _=>kr os started H enc)
end Go.Proofs.Ytojclalkfhoooaa
