/-
  The law returns true for every input: the given statement. Conditions: none beyond the statement's own.
-/
import Derived.Test.YtoahcpkibpomcaaGreatGZlu
set_option linter.all false
set_option maxRecDepth 100000
namespace Go.Proofs.YtoahcpkibpomcaaGreat
open Go.ChangeShapes Go.WideShapes Go.ChangeAt Go.RowKit
theorem ce:ownKnob Tryz.prog.godebug=none:=by kernel_rfl
theorem re:laidOutB Tryz.prog=true:=by kernel_rfl
theorem l8 (os:Os)(g:os.Started)(H:Type)(enc:TypeId×Value->H):
 ReturnsInHanded {} Tryz.checked os 8 .any (Rows.rangesRulesSpec.pre6 enc Tryz.prog Tryz.f8 Rows.rangesRulesRow.domain false) (Rows.rangesRulesSpec.post enc Tryz.prog Tryz.f8 false true false false):=by
 refine returnsInHanded_of_change (C:=Tryz.checked) ce g Zk Tryz.func8
  (ChangeSpec.witness6 (enc:=enc) (C:=Tryz.checked) false ⟨#[],#[.int .u8 0,.agg #[.int .u16 0,.int .u16 0,.int .u16 0,.int .u16 0],.agg #[.int .u16 0,.int .u16 0]],[]⟩ 8 Zk Zk Zk Zk) ?_
 intro W base args ds gs before f hW a6 _;have c:∀(j:Nat) t v,Tryz.f8.params[j]? =some t->args[j]? =some v->Value.okWide Tryz.prog W .any base t v:=f;have d:=hW;obtain⟨p,q,i,hV,rfl,a7,hnd⟩:=hW;have hA:DataW.TrodAll enc Tryz.prog W 0 (fun _=>true) true Tryz.f8.params.toList args.toList ds p:=i;rw[Tryz.params8] at hA c;obtain⟨v0,vs0,d0,b2,p0,q0,a5,rfl,rfl,h0,r0⟩:=trodAll_cons hA;obtain⟨v1,vs1,d1,b1,p1,q1,rfl,rfl,rfl,h1,r1⟩:=trodAll_cons r0;obtain⟨v2,vs2,d2,b0,p2,q2,rfl,rfl,rfl,h2,r2⟩:=trodAll_cons r1;obtain⟨rfl,rfl,rfl⟩:=trodAll_nil r2;obtain rfl:args=#[v0,v1,v2]:=by cases args;simp_all
 obtain⟨rfl,rfl⟩:=trodVars_none hV;obtain⟨x0,rfl,a4⟩:=u8_open (c 0 5 v0 rfl rfl) h0;obtain⟨a1,y,u,o,rfl,a3⟩:=afB (c 1 71 v1 rfl rfl) h1;obtain⟨a0,w,rfl,a2⟩:=afC (c 2 72 v2 rfl rfl) h2;have m:∀x∈p0,x.block<W.heap.size:=fun x hx=>d.lt x (by simp[hx])
 have l:∀x∈p1,x.block<W.heap.size:=fun x hx=>d.lt x (by simp[hx])
 have k:∀x∈p2,x.block<W.heap.size:=fun x hx=>d.lt x (by simp[hx])
 clear i f;simp only[Ua] at d;refine(agL W x0 a1 y u o a0 w a4 a3 a2).mono fun e W' ⟨he,hb⟩=>?_
 subst he;exact⟨_,rfl,_,_,_,[],p0++(p1++p2),[],d,trodAll_mk1 (shut_bool Tryz.underlying4 _),trodAll_mk3 (Below.trod re Zk (of_decide_eq_true Zk) h0 hb m) (Below.trod re Zk (of_decide_eq_true Zk) h1 hb l) (Below.trod re Zk (of_decide_eq_true Zk) h2 hb k),rfl,hb.frame _,fun h=>by cases h⟩
theorem rangesRules_holds:Rows.RangesRulesSaid:=
 OpenClaim.holds_of_wide 8 Tryz.f8 rfl rfl rfl rfl rfl rfl rfl ⟨rfl,rfl,rfl,rfl,rfl⟩ rfl rfl rfl rfl rfl Zk Tryz.func8 Zk
  (of_decide_eq_true Zk) (by unfold Func.isWrapper;first|(rw[if_pos (by decide+kernel)];kernel_rfl)|(rw[if_neg (by decide+kernel)];exact⟨rfl,rfl⟩))
  (fun os started H enc _=>l8 os started H enc)
end Go.Proofs.YtoahcpkibpomcaaGreat
