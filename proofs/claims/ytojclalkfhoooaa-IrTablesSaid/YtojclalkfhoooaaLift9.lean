/- Part of a proof. -/
import Derived.Test.YtojclalkfhoooaaGLift8
set_option maxRecDepth 100000
set_option linter.unusedSimpArgs false
set_option linter.unusedVariables false
namespace Go.Proofs.Ytojclalkfhoooaa
open Go.ChangeShapes Go.WideShapes Go.ChangeAt Go.RowKit
theorem nums_arr {P:Program}{H:Type}{enc:TypeId×Value->H}{W:World}{fuel:Nat}{n:Nat}{t e:TypeId}{q:IntKind}{cs:List Value}{x:DataW H×List MemPlace}(ht:P.underlying t=some (.array n e))(he:P.underlying e=some (.int q))(c1:P.cellsOf e=1)(hl:cs.length=n)
 (hf:DataW.trod enc P W 0 (fun _=>true) true fuel t cs=some x):∃zs:List Int,cs=zs.map (.int q)/\zs.length=n/\∀z∈zs,(Lit.int q z).wf=true:=by
 obtain⟨xs,k,_,_,_,hxl,hel⟩:=DataW.trod_array ht hf
 have each:∀i,i<n->∃z:Int,cs[i]? =some (.int q z)/\(Lit.int q z).wf=true:=by
  intro i hi
  have g:=hel i hi
  rw[c1,List.getElem?_eq_getElem (by omega)] at g
  obtain⟨z,e0,_,w0⟩:=DataW.trod_int he g
  refine⟨z,?_,w0⟩
  rw[Nat.mul_one] at e0
  have h:=congrArg (fun l:List Value=>l[0]?) e0
  simpa using h
 obtain⟨f,hff⟩:=Go.Deep.choose_lt each
 refine⟨(List.range n).map f,?_,by simp,?_⟩
 ·apply List.ext_getElem?
  intro i
  by_cases hi:i<n
  ·rw[(hff i hi).1];simp[hi]
  ·rw[List.getElem?_eq_none (by omega),List.getElem?_eq_none (by simp;omega)]
 ·intro z hz
  obtain⟨i,hi,rfl⟩:=List.mem_map.1 hz
  exact(hff i (List.mem_range.1 hi)).2
theorem kX {z:Int}(h:(Lit.int .i64 z).wf=true):I64 z:=by
 unfold I64
 simpa[Lit.wf,IntKind.min,IntKind.max,IntKind.signed,IntKind.bits] using h
section
variable {H:Type} {enc:TypeId×Value->H} {W:World} {v:Value} {d:DataW H} {p:List MemPlace} {r:Go.Reach} {base:Nat}
theorem jy (hv:Value.okWide Try.prog W r base 23 v)(h0:DataW.Trod enc Try.prog W 0 (fun _=>true) true 23 v d p):∃q0 q1 q2:Int,v=.agg #[.int .i64 q0,.int .i64 q1,.int .i64 q2]/\(I64 q0/\I64 q1/\I64 q2):=by
 have c2:Try.prog.cellsOf 23=3:=by kernel_rfl
 have c1:Try.prog.cellsOf 3=1:=by kernel_rfl
 simp only[Value.okWide,Try.underlying23] at hv
 obtain⟨cs,rfl,hsz,_⟩:=hv
 rw[c2] at hsz
 obtain⟨fuel,hf⟩:=h0
 simp only[Value.cells] at hf
 obtain⟨zs,e,hl,hz⟩:=nums_arr Try.underlying23 Try.underlying3 c1 (by simpa using hsz) hf
 obtain⟨a,b,c,rfl⟩:∃a b c,zs=[a,b,c]:=by
  match zs,hl with
  | [a,b,c],_=>exact⟨a,b,c,rfl⟩
 refine⟨a,b,c,?_,kX (hz a (by simp)),kX (hz b (by simp)),kX (hz c (by simp))⟩
 have e2:cs=#[.int .i64 a,.int .i64 b,.int .i64 c]:=by
  rw[<-Array.toArray_toList (xs:=cs),e];rfl
 rw[e2]
theorem iO (hv:Value.okWide Try.prog W r base 77 v)(h0:DataW.Trod enc Try.prog W 0 (fun _=>true) true 77 v d p):
 ∃(c e a b n:Int) (xa:Option Addr) (xn xc:Nat),v=.agg #[.int .i64 c,.int .i64 e,.int .i64 a,.int .i64 b,.int .u16 n,.slice xa xn xc]:=by
 obtain⟨cs,rfl,hsz⟩:=okWide_struct Try.underlying77 hv
 have c6:Try.prog.cellsOf 77=6:=by kernel_rfl
 have c1:Try.prog.cellsOf 3=1:=by kernel_rfl
 have c3:Try.prog.cellsOf 39=1:=by kernel_rfl
 have c4:Try.prog.cellsOf 22=1:=by kernel_rfl
 rw[c6] at hsz
 obtain⟨u0,u1,u2,u3,u4,u5,rfl⟩:∃u0 u1 u2 u3 u4 u5,cs=#[u0,u1,u2,u3,u4,u5]:=by
  match cs,hsz with
  |⟨[u0,u1,u2,u3,u4,u5]⟩,_=>exact⟨u0,u1,u2,u3,u4,u5,rfl⟩
 obtain⟨fuel,hf⟩:=h0
 obtain⟨xs,n,_,_,_,hxl,hel⟩:=DataW.trod_struct Try.underlying77 hf
 have hx6:xs.length=6:=hxl
 have g0:DataW.trod enc Try.prog W 0 (fun _=>true) true n 3 (([u0,u1,u2,u3,u4,u5].drop 0).take (Try.prog.cellsOf 3))=xs[0]?:=hel 0 _ rfl
 have g1:DataW.trod enc Try.prog W 0 (fun _=>true) true n 3 (([u0,u1,u2,u3,u4,u5].drop 1).take (Try.prog.cellsOf 3))=xs[1]?:=hel 1 _ rfl
 have g2:DataW.trod enc Try.prog W 0 (fun _=>true) true n 3 (([u0,u1,u2,u3,u4,u5].drop 2).take (Try.prog.cellsOf 3))=xs[2]?:=hel 2 _ rfl
 have g3:DataW.trod enc Try.prog W 0 (fun _=>true) true n 3 (([u0,u1,u2,u3,u4,u5].drop 3).take (Try.prog.cellsOf 3))=xs[3]?:=hel 3 _ rfl
 have g4:DataW.trod enc Try.prog W 0 (fun _=>true) true n 39 (([u0,u1,u2,u3,u4,u5].drop 4).take (Try.prog.cellsOf 39))=xs[4]?:=hel 4 _ rfl
 have g5:DataW.trod enc Try.prog W 0 (fun _=>true) true n 22 (([u0,u1,u2,u3,u4,u5].drop 5).take (Try.prog.cellsOf 22))=xs[5]?:=hel 5 _ rfl
 rw[c1] at g0 g1 g2 g3
 rw[c3] at g4
 rw[c4] at g5
 rw[List.getElem?_eq_getElem (by omega)] at g0 g1 g2 g3 g4 g5
 obtain⟨z0,e0,_,_⟩:=DataW.trod_int Try.underlying3 g0
 obtain⟨z1,e1,_,_⟩:=DataW.trod_int Try.underlying3 g1
 obtain⟨z2,e2,_,_⟩:=DataW.trod_int Try.underlying3 g2
 obtain⟨z3,e3,_,_⟩:=DataW.trod_int Try.underlying3 g3
 obtain⟨z4,e4,_,_⟩:=DataW.trod_int Try.underlying39 g4
 simp at e0 e1 e2 e3 e4 g5
 obtain⟨row,xa,xc,e5,_⟩:=iR g5
 subst e0 e1 e2 e3 e4 e5
 exact⟨z0,z1,z2,z3,z4,xa,row.length,xc,rfl⟩
end
end Go.Proofs.Ytojclalkfhoooaa
