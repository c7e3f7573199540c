/-
  The law returns true for every input: the given statement. Conditions: none beyond the statement's own.
-/
import Derived.Test.YtojclalkfhoooaaGLRen
import Derived.Test.YtojclalkfhoooaaGLift7
set_option linter.all false
set_option maxRecDepth 100000
namespace Go.Proofs.Ytojclalkfhoooaa
open Go.ChangeShapes Go.WideShapes Go.ChangeAt Go.RowKit
theorem aeg:ownKnob Try.prog.godebug=none:=by kernel_rfl
theorem adX:laidOutB Try.prog=true:=by kernel_rfl
theorem ad8 (os:Os)(i:os.Started)(H:Type)(enc:TypeId×Value->H):
 ReturnsInHanded {} Try.checked os 8 .any (Rows.irRenamedSpec.pre6 enc Try.prog Try.f8 Rows.irRenamedRow.domain false) (Rows.irRenamedSpec.post enc Try.prog Try.f8 false true false false):=by
 refine returnsInHanded_of_change (C:=Try.checked) aeg i Zk Try.func8
  (ChangeSpec.witness6 (enc:=enc) (C:=Try.checked) false ⟨#[],#[O,.agg #[O,O,.int .u32 0,.int .u16 0],.int .u16 0],[]⟩ 8 Zk Zk Zk Zk) ?_
 intro W base args ds gs before g y a1 _;have c:∀(j:Nat) t v,Try.f8.params[j]? =some t->args[j]? =some v->Value.okWide Try.prog W .any base t v:=g;have d:=y;obtain⟨p,q,k,hV,rfl,a2,hnd⟩:=y;have hA:DataW.TrodAll enc Try.prog W 0 (fun _=>true) true Try.f8.params.toList args.toList ds p:=k;rw[Try.params8] at hA c;obtain⟨v0,vs0,d0,a5,p0,q0,a0,rfl,rfl,h0,r0⟩:=trodAll_cons hA;obtain⟨v1,vs1,d1,a4,p1,q1,rfl,rfl,rfl,h1,r1⟩:=trodAll_cons r0;obtain⟨v2,vs2,d2,a3,p2,q2,rfl,rfl,rfl,h2,r2⟩:=trodAll_cons r1;obtain⟨rfl,rfl,rfl⟩:=trodAll_nil r2;obtain rfl:args=#[v0,v1,v2]:=by cases args;simp_all
 obtain⟨rfl,rfl⟩:=trodVars_none hV;obtain⟨x0,w⟩:=iX (c 0 22 v0 rfl rfl) h0;obtain⟨x1,u⟩:=fz (c 1 41 v1 rfl rfl) h1;obtain⟨x2,rfl,r⟩:=u16_open (c 2 39 v2 rfl rfl) h2;have o:∀x∈p0,x.block<W.heap.size:=fun x hx=>d.lt x (by simp[hx])
 have m:∀x∈p1,x.block<W.heap.size:=fun x hx=>d.lt x (by simp[hx])
 have l:∀x∈p2,x.block<W.heap.size:=fun x hx=>d.lt x (by simp[hx])
 clear k g;simp only[Ua] at d;refine(aen W v0 x0 v1 x1 x2 w u r).mono fun e W' ⟨he,hb⟩=>?_
 subst he;exact⟨_,rfl,_,_,_,[],p0++(p1++p2),[],d,trodAll_mk1 (shut_bool Try.underlying4 _),trodAll_mk3 (Below.trod adX Zk (of_decide_eq_true Zk) h0 hb o) (Below.trod adX Zk (of_decide_eq_true Zk) h1 hb m) (Below.trod adX Zk (of_decide_eq_true Zk) h2 hb l),rfl,hb.frame _,fun h=>by cases h⟩
theorem irRenamed_holds:Rows.IrRenamedSaid:=
 OpenClaim.holds_of_wide 8 Try.f8 rfl rfl rfl rfl rfl rfl rfl ⟨rfl,rfl,rfl,rfl,rfl⟩ rfl rfl rfl rfl rfl Zk Try.func8 Zk
  (of_decide_eq_true Zk) (by unfold Func.isWrapper;first|(rw[if_pos (by decide+kernel)];kernel_rfl)|(rw[if_neg (by decide+kernel)];exact⟨rfl,rfl⟩))
  (fun os started H enc _=>ad8 os started H enc)
end Go.Proofs.Ytojclalkfhoooaa
