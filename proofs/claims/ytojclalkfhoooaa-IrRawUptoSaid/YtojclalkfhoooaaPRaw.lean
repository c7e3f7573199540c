/- Part of a proof. -/
import Derived.Test.YtojclalkfhoooaaGLRaw
import Derived.JoinedCond
set_option linter.all false
set_option maxRecDepth 100000
namespace Go.Proofs.Ytojclalkfhoooaa
open Go.ChangeShapes Go.WideShapes Go.ChangeAt Go.RowKit
theorem adx:ownKnob Try.prog.godebug=none:=by kernel_rfl
theorem abi:laidOutB Try.prog=true:=by kernel_rfl
theorem acx (os:Os)(i:os.Started)(H:Type)(enc:TypeId×Value->H)(F:Stop.Interp):
 ReturnsInHanded {} Try.checked os 4 .any ((Rows.OpenSpec.upto Rows.irRawSpec).pre6 enc Try.prog Try.f4 Rows.irRawUptoRow.domain false) (((Rows.OpenSpec.upto Rows.irRawSpec).at F).post enc Try.prog Try.f4 false true false false):=by
 refine returnsInHanded_of_cond (C:=Try.checked) (s:=Rows.OpenSpec.upto Rows.irRawSpec) (k:=Rows.uptoSmall) rfl adx i Zk Try.func4
  (OpenSpec.witness (enc:=enc) (C:=Try.checked) (s:=Rows.OpenSpec.upto Rows.irRawSpec) (k:=Rows.uptoSmall) rfl false ⟨#[],#[O,.int .i64 0,.agg #[O,O,.int .u32 0,.int .u16 0]],[]⟩ 8 Zk Zk Zk
    (x:=([.nil,.lit (.int .i64 0),.agg [.nil,.nil,.lit (.int .u32 0),.lit (.int .u16 0)]],[],[])) Zk rfl Zk) ?_
 intro W base args ds gs before g hW a3 hk _;have c:∀(j:Nat) t v,Try.f4.params[j]? =some t->args[j]? =some v->Value.okWide Try.prog W .any base t v:=g;have d:=hW;obtain⟨p,q,l,hV,rfl,a5,hnd⟩:=hW;have hA:DataW.TrodAll enc Try.prog W 0 (fun _=>true) true Try.f4.params.toList args.toList ds p:=l;rw[Try.params4] at hA c;obtain⟨v0,vs0,d0,b0,p0,q0,a2,rfl,rfl,h0,r0⟩:=trodAll_cons hA;obtain⟨v1,vs1,d1,a7,p1,q1,rfl,rfl,rfl,h1,r1⟩:=trodAll_cons r0;obtain⟨v2,vs2,d2,a6,p2,q2,rfl,rfl,rfl,h2,r2⟩:=trodAll_cons r1;obtain⟨rfl,rfl,rfl⟩:=trodAll_nil r2;obtain rfl:args=#[v0,v1,v2]:=by cases args;simp_all
 obtain⟨rfl,rfl⟩:=trodVars_none hV
 have a0:abP d0<=1048576:=by
  have h:=of_decide_eq_true hk;simp only[Ua,Rows.uptoBulkAll] at h
  show Rows.uptoBulk d0<=1048576
  omega
 obtain⟨x0,y,a4,a1⟩:=acG (c 0 35 v0 rfl rfl) h0;obtain⟨x1,rfl,w⟩:=int_open (c 1 3 v1 rfl rfl) h1;obtain⟨x2,u⟩:=fz (c 2 41 v2 rfl rfl) h2;have r:∀x∈p0,x.block<W.heap.size:=fun x hx=>d.lt x (by simp[hx])
 have o:∀x∈p1,x.block<W.heap.size:=fun x hx=>d.lt x (by simp[hx])
 have m:∀x∈p2,x.block<W.heap.size:=fun x hx=>d.lt x (by simp[hx])
 clear l g;simp only[Ua] at d;refine(law_raw W v0 x0 x1 v2 x2 y (fun b hb=>ac9 (a1 b hb) a0) w u).mono fun e W' ⟨he,hb⟩=>?_
 subst he;exact⟨_,rfl,_,_,_,[],p0++(p1++p2),[],d,trodAll_mk1 (shut_bool Try.underlying4 _),trodAll_mk3 (Below.trod abi Zk (of_decide_eq_true Zk) h0 hb r) (Below.trod abi Zk (of_decide_eq_true Zk) h1 hb o) (Below.trod abi Zk (of_decide_eq_true Zk) h2 hb m),rfl,hb.frame _,fun h=>by cases h⟩
theorem irRaw_upto:Rows.IrRawUptoSaid:=
 OpenClaim.holds_of_cond 4 Try.f4 rfl rfl rfl rfl rfl rfl rfl ⟨rfl,rfl,rfl,rfl,rfl⟩ rfl rfl rfl rfl rfl Zk Try.func4 Zk
  (of_decide_eq_true Zk) (by unfold Func.isWrapper;first|(rw[if_pos (by decide+kernel)];kernel_rfl)|(rw[if_neg (by decide+kernel)];exact⟨rfl,rfl⟩))
  (fun os started H enc _ F=>acx os started H enc F)
end Go.Proofs.Ytojclalkfhoooaa
