/-
  The law returns true for every input: the given statement. Conditions: none beyond the statement's own.
-/
import Derived.Test.YtoahcpkibpomcaaGreatGZlp
set_option linter.all false
set_option maxRecDepth 100000
namespace Go.Proofs.YtoahcpkibpomcaaGreat
open Go.ChangeShapes Go.WideShapes Go.ChangeAt Go.RowKit
theorem aeC:ownKnob Tryz.prog.godebug=none:=by kernel_rfl
theorem ma:laidOutB Tryz.prog=true:=by kernel_rfl
theorem i7 (os:Os)(i:os.Started)(H:Type)(enc:TypeId×Value->H):
 ReturnsInHanded {} Tryz.checked os 7 .any (Rows.rangesPreciseSpec.pre6 enc Tryz.prog Tryz.f7 Rows.rangesPreciseRow.domain false) (Rows.rangesPreciseSpec.post enc Tryz.prog Tryz.f7 false true false false):=by
 refine returnsInHanded_of_change (C:=Tryz.checked) aeC i Zk Tryz.func7
  (ChangeSpec.witness6 (enc:=enc) (C:=Tryz.checked) false ⟨#[],#[F,.int .u8 0],[]⟩ 8 Zk Zk Zk Zk) ?_
 intro W base args ds gs before d w a1 _;have c:∀(j:Nat) t v,Tryz.f7.params[j]? =some t->args[j]? =some v->Value.okWide Tryz.prog W .any base t v:=d;have g:=w;obtain⟨p,q,k,hV,rfl,a2,hnd⟩:=w;have y:DataW.TrodAll enc Tryz.prog W 0 (fun _=>true) true Tryz.f7.params.toList args.toList ds p:=k;rw[Tryz.params7] at y c;obtain⟨v0,vs0,d0,a4,p0,q0,a0,rfl,rfl,h0,r0⟩:=trodAll_cons y;obtain⟨v1,vs1,d1,a3,p1,q1,rfl,rfl,rfl,h1,r1⟩:=trodAll_cons r0;obtain⟨rfl,rfl,rfl⟩:=trodAll_nil r1;obtain rfl:args=#[v0,v1]:=by cases args;simp_all
 obtain⟨rfl,rfl⟩:=trodVars_none hV;obtain⟨x0,u⟩:=iX (c 0 22 v0 rfl rfl) h0;obtain⟨x1,rfl,o⟩:=u8_open (c 1 5 v1 rfl rfl) h1;have m:∀x∈p0,x.block<W.heap.size:=fun x hx=>g.lt x (by simp[hx])
 have l:∀x∈p1,x.block<W.heap.size:=fun x hx=>g.lt x (by simp[hx])
 clear k d;simp only[Ua] at g;refine(af6 W v0 x0 x1 u o).mono fun e W' ⟨he,hb⟩=>?_
 subst he;exact⟨_,rfl,_,_,_,[],p0++p1,[],g,trodAll_mk1 (shut_bool Tryz.underlying4 _),trodAll_mk2 (Below.trod ma Zk (of_decide_eq_true Zk) h0 hb m) (Below.trod ma Zk (of_decide_eq_true Zk) h1 hb l),rfl,hb.frame _,fun h=>by cases h⟩
theorem rangesPrecise_holds:Rows.RangesPreciseSaid:=
 OpenClaim.holds_of_wide 7 Tryz.f7 rfl rfl rfl rfl rfl rfl rfl ⟨rfl,rfl,rfl,rfl,rfl⟩ rfl rfl rfl rfl rfl Zk Tryz.func7 Zk
  (of_decide_eq_true Zk) (by unfold Func.isWrapper;first|(rw[if_pos (by decide+kernel)];kernel_rfl)|(rw[if_neg (by decide+kernel)];exact⟨rfl,rfl⟩))
  (fun os started H enc _=>i7 os started H enc)
end Go.Proofs.YtoahcpkibpomcaaGreat
