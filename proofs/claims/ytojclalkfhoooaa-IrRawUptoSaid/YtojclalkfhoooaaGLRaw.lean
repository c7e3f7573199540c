/- Part of a proof. -/
import Derived.Test.YtojclalkfhoooaaGLift9v2
import Derived.Test.YtojclalkfhoooaaGLw3v2
import Derived.Test.YtojclalkfhoooaaGREval
set_option linter.all false
set_option maxHeartbeats 16000000
set_option maxRecDepth 100000
namespace Go.Proofs.Ytojclalkfhoooaa
open Go.RowKit
structure BlkLit where
 b:IBlk
 pv:Value
 ov:Value
 tv:Value
def aba (q:BlkLit):List Value:=[q.pv,q.ov,.int .i64 q.b.term.kind,.int .i64 q.b.term.a,q.tv]
def ac6 (w:World)(B:Nat)(q:BlkLit):Prop:=(I64 q.b.term.kind/\I64 q.b.term.a)/\zY w B q.pv q.b.params/\mN w B q.ov q.b.ops/\wH w B q.tv q.b.term.to
theorem ints_lit {w:World}{B b:Nat}{xs:List Int}{e:TypeId}(h:L w b (xs.map fun x=>A x).toArray e)(hb:b<B)(h64:∀x∈xs,I64 x)(hl:xs.length<=1000000):zY w B (N b xs.length xs.length) xs:=
 acC h hb Zs hl (fun k v x hv hx hc=>by
  rw[Jr,hx] at hv;cases hv
  exact⟨hc,h64 x (Ji hx)⟩)
end Go.Proofs.Ytojclalkfhoooaa
set_option maxRecDepth 100000
namespace Go.Proofs.Ytojclalkfhoooaa
open Go.ChangeShapes Go.WideShapes Go.ChangeAt Go.RowKit
section
variable {H:Type} {enc:TypeId×Value->H} {W:World} {v:Value} {d:DataW H} {p:List MemPlace} {r:Go.Reach} {base:Nat}
theorem int_open (hv:Value.okWide Try.prog W r base 3 v)(g:DataW.Trod enc Try.prog W 0 (fun _=>true) true 3 v d p):∃x:Int,v=.int .i64 x/\I64 x:=by
 obtain⟨n,rfl,_,_,c⟩:=open_int Try.underlying3 hv g;refine⟨n,rfl,?_⟩;unfold I64
 simpa[Lit.wf,IntKind.min,IntKind.max,IntKind.signed,IntKind.bits] using c
end
end Go.Proofs.Ytojclalkfhoooaa
set_option maxRecDepth 100000
namespace Go.Proofs.Ytojclalkfhoooaa
open Go.ChangeShapes Go.WideShapes Go.ChangeAt Go.RowKit
abbrev abP {H:Type}(d:DataW H):Nat:=Rows.uptoBulk d
theorem acU {H:Type}(d:DataW H):1<=abP d:=by
 cases d with
 |lit l=>cases l<;>simp[abP,Rows.uptoBulk]
 |nil=>simp[abP,Rows.uptoBulk]
 |ptr d=>simp[abP,Rows.uptoBulk]
 |slice elems spare=>simp[abP,Rows.uptoBulk]
 |agg parts=>simp[abP,Rows.uptoBulk]
 |iface t d=>simp[abP,Rows.uptoBulk]
 |map entries=>simp[abP,Rows.uptoBulk]
 |held h=>simp[abP,Rows.uptoBulk]
theorem aa3 {H:Type}{d:DataW H}{l:List (DataW H)}(h:d∈l):abP d<=Rows.uptoBulkAll l:=by
 induction l with
 |nil=>cases h
 |cons x r ih=>
  simp only[Rows.uptoBulkAll];rcases Jq.1 h with e|e
  ·subst e;show Rows.uptoBulk d<=_;omega
  ·have:=ih e;omega
theorem bulk_len {H:Type}(l:List (DataW H)):l.length<=Rows.uptoBulkAll l:=by
 induction l with
 |nil=>simp[Rows.uptoBulkAll]
 |cons x r ih=>have:=acU x;simp only[Rows.uptoBulkAll,Nq];have e:abP x=Rows.uptoBulk x:=rfl;omega
theorem ach {H:Type}(l s:List (DataW H)):abP (.slice l s)=Rows.uptoBulkAll l+Rows.uptoBulkAll s+1:=by simp only[abP,Rows.uptoBulk]
theorem abV {H:Type}(l:List (DataW H)):abP (.agg l)=Rows.uptoBulkAll l+1:=by simp only[abP,Rows.uptoBulk]
theorem abY {α:Type}{p:Nat->α->Prop}:∀n,(∀i,i<n->∃y,p i y)->∃l:List α,l.length=n/\∀i y,l[i]? =some y->p i y
 |0,_=>⟨[],rfl,fun i y h=>by simp at h⟩
 |n+1,h=>by
  obtain⟨l,h1,h2⟩:=abY n (fun i hi=>h i Zo);obtain⟨y,c⟩:=h n Zo;refine⟨l++ [y],by simp[h1],fun i z hz=>?_⟩
  by_cases hi:i<l.length
  ·rw[Np hi] at hz;exact h2 i z hz
  ·have hl:=(Jh.1 hz).1;simp at hl;obtain rfl:i=l.length:=by omega
   simp at hz;subst hz;rw[h1];exact c
theorem abU {α:Type}{P:Program}{H:Type}{enc:TypeId×Value->H}{W:World}{fuel:Nat}{u:Value}{x:DataW H×List MemPlace}{t e:TypeId}{sz:Nat}(ht:P.underlying t=some (.slice e))(c1:P.cellsOf e=sz)(a5:0<sz)
 (R:World->Nat->Nat->Nat->α->Prop) (S:Nat->α->Prop) (hS:∀m n a,m<=n->S m a->S n a)
 (hR:∀b o cs n y,cs.length=sz->(∀j v,cs[j]? =some v->G W b (o+j) v)->DataW.trod enc P W 0 (fun _=>true) true n e cs=some y->∃a,R W W.heap.size b o a/\S (abP y.1) a)
 (hf:DataW.trod enc P W 0 (fun _=>true) true fuel t [u]=some x):∃row:List α,yN sz R W W.heap.size u row/\row.length+1<=abP x.1/\∀a∈row,S (abP x.1) a:=by
 rcases Go.Deep.open_slice ht hf with⟨h1,rfl⟩|⟨a,len,cap,m,n,D,Pl,h1,hb,hl,hm,a4,rfl,hx⟩
 ·simp at h1;subst h1;exact⟨[],yN.nil,acU _,fun a h=>by simp at h⟩
 ·simp at h1;subst h1;simp only[if_true] at a4
  have a3:0<len->a.spot=none:=fun h0=>by
   obtain⟨g,h2,h3⟩:=hx 0 Zo;rw[c1] at h2;obtain⟨_,w,c⟩:=World.cells?_some h2;have k0:=c 0 Zo;rw[Go.Deep.add_add,Jd Zo] at k0;have h:=jd k0
   simpa[Addr.add] using h
  have a1:∀i,i<len->∃y:α,(a.spot=none/\a.block<W.heap.size/\R W W.heap.size a.block (a.off+i*sz) y)/\S (abP (D i)) y:=by
   intro i hi;obtain⟨g,h2,h3⟩:=hx i Zo;rw[c1] at h2;obtain⟨_,w,c⟩:=World.cells?_some h2;have hs:=a3 Zo;have ha:a=⟨a.block,a.off,none⟩:=by cases a;simp at hs;simp[hs]
   have hc:∀j v,g[j]? =some v->G W a.block (a.off+i*sz+j) v:=fun j v hj=>by
    have a7:=(Jh.1 hj).1;have k:=c j Zo;rw[Go.Deep.add_add,ha,kc] at k;rw[show a.off+i*sz+j=a.off+(i*sz+j) by omega,k]
    simpa using hj
   obtain⟨y,hy,a2⟩:=hR a.block (a.off+i*sz) g n _ w hc h3;refine⟨y,⟨hs,?_,hy⟩,a2⟩;obtain⟨v,hv⟩:∃v,g[0]? =some v:=⟨_,Jd Zo⟩
   exact jU (hc 0 v hv)
  obtain⟨l,r,a0⟩:=abY len a1;have a6:len<=Rows.uptoBulkAll ((List.range len).map D):=by have:=bulk_len ((List.range len).map D);simpa using this
  refine⟨l,⟨some a,cap,by rw[r],by rw[r];exact hl,by unfold maxLen at hm;omega,fun k y hk=>?_⟩,?_,fun y hy=>?_⟩
  ·obtain⟨⟨h2,h3,h4⟩,_⟩:=a0 k y hk;exact⟨a.block,a.off,by cases a;simp at h2;simp[h2],h3,h4⟩
  ·rw[ach,r];omega
  ·obtain⟨i,hi⟩:=Ny hy;have b0:=(Jh.1 hi).1;refine hS _ _ _ ?_ (a0 i y hi).2;have:=aa3 (d:=D i) (l:=(List.range len).map D) (Oj (Ol.2 Zo));rw[ach];omega
section
variable {H:Type} {enc:TypeId×Value->H} {W:World} {fuel:Nat} {u:Value} {x:DataW H×List MemPlace}
theorem ab5 (hf:DataW.trod enc Try.prog W 0 (fun _=>true) true fuel 22 [u]=some x):∃row:List Int,zY W W.heap.size u row/\row.length+1<=abP x.1:=by
 obtain⟨row,h1,h2,_⟩:=abU (α:=Int) Try.underlying22 (show Try.prog.cellsOf 3=1 by kernel_rfl) Zd IntR (fun _ _=>True) (fun _ _ _ _ h=>h) (fun b o cs n y hl hc ht=>by
  match cs,hl with
  | [v],_=>
    obtain⟨z,e0,_,w0⟩:=DataW.trod_int Try.underlying3 ht;simp at e0
    exact⟨z,⟨by rw[<-e0];exact hc 0 v rfl,kX w0⟩,trivial⟩) hf
 exact⟨row,h1,h2⟩
end
section
variable {H:Type} {enc:TypeId×Value->H} {W:World} {fuel:Nat} {u:Value} {x:DataW H×List MemPlace}
theorem ops_bulk (hf:DataW.trod enc Try.prog W 0 (fun _=>true) true fuel 44 [u]=some x):∃row:List IOp,mN W W.heap.size u row/\row.length+1<=abP x.1/\∀o∈row,o.args.length<=abP x.1:=
 abU (α:=IOp) Try.underlying44 (show Try.prog.cellsOf 77=6 by kernel_rfl) Zd OpR (fun n o=>o.args.length<=n) (fun m n a h1 h2=>Jn h2 h1) (fun b o cs n y hl hc ht=>by
  have c1:Try.prog.cellsOf 3=1:=by kernel_rfl
  have c3:Try.prog.cellsOf 39=1:=by kernel_rfl
  have c4:Try.prog.cellsOf 22=1:=by kernel_rfl
  match cs,hl with
  | [u0,u1,u2,u3,u4,u5],_=>
    obtain⟨xs,n,_,rfl,_,h,c⟩:=DataW.trod_struct Try.underlying77 ht;have i:xs.length=6:=h;have g0:DataW.trod enc Try.prog W 0 (fun _=>true) true n 3 (([u0,u1,u2,u3,u4,u5].drop 0).take (Try.prog.cellsOf 3))=xs[0]?:=c 0 _ rfl;have g1:DataW.trod enc Try.prog W 0 (fun _=>true) true n 3 (([u0,u1,u2,u3,u4,u5].drop 1).take (Try.prog.cellsOf 3))=xs[1]?:=c 1 _ rfl;have g2:DataW.trod enc Try.prog W 0 (fun _=>true) true n 3 (([u0,u1,u2,u3,u4,u5].drop 2).take (Try.prog.cellsOf 3))=xs[2]?:=c 2 _ rfl;have g3:DataW.trod enc Try.prog W 0 (fun _=>true) true n 3 (([u0,u1,u2,u3,u4,u5].drop 3).take (Try.prog.cellsOf 3))=xs[3]?:=c 3 _ rfl;have g4:DataW.trod enc Try.prog W 0 (fun _=>true) true n 39 (([u0,u1,u2,u3,u4,u5].drop 4).take (Try.prog.cellsOf 39))=xs[4]?:=c 4 _ rfl;have g5:DataW.trod enc Try.prog W 0 (fun _=>true) true n 22 (([u0,u1,u2,u3,u4,u5].drop 5).take (Try.prog.cellsOf 22))=xs[5]?:=c 5 _ rfl;rw[c1] at g0 g1 g2 g3;rw[c3] at g4;rw[c4] at g5;rw[Jd Zo] at g0 g1 g2 g3 g4 g5;obtain⟨z0,e0,_,w0⟩:=DataW.trod_int Try.underlying3 g0;obtain⟨z1,e1,_,w1⟩:=DataW.trod_int Try.underlying3 g1;obtain⟨z2,e2,_,w2⟩:=DataW.trod_int Try.underlying3 g2;obtain⟨z3,e3,_,w3⟩:=DataW.trod_int Try.underlying3 g3;obtain⟨z4,e4,_,w4⟩:=DataW.trod_int Try.underlying39 g4;simp at e0 e1 e2 e3 e4 g5;obtain⟨y4,rfl,g⟩:=a8 w4;obtain⟨row,h1,h2⟩:=ab5 g5;subst e0 e1 e2 e3 e4;refine⟨⟨z0,z1,z2,z3,y4,row⟩,⟨hc 0 _ rfl,hc 1 _ rfl,hc 2 _ rfl,hc 3 _ rfl,hc 4 _ rfl,⟨kX w0,kX w1,kX w2,kX w3,g⟩,u5,hc 5 _ rfl,h1⟩,?_⟩;have:=aa3 (d:=xs[5].1) (l:=xs.map (·.1)) (Oj (Uf _));rw[abV]
    show row.length<=_
    omega) hf
theorem adg (hf:DataW.trod enc Try.prog W 0 (fun _=>true) true fuel 45 [u]=some x):∃row:List IEdge,wH W W.heap.size u row/\row.length+1<=abP x.1/\∀o∈row,o.args.length<=abP x.1:=
 abU (α:=IEdge) Try.underlying45 (show Try.prog.cellsOf 75=2 by kernel_rfl) Zd adz (fun n o=>o.args.length<=n) (fun m n a h1 h2=>Jn h2 h1) (fun b o cs n y hl hc ht=>by
  have c1:Try.prog.cellsOf 3=1:=by kernel_rfl
  have c4:Try.prog.cellsOf 22=1:=by kernel_rfl
  match cs,hl with
  | [u0,u1],_=>
    obtain⟨xs,n,_,rfl,_,g,c⟩:=DataW.trod_struct Try.underlying75 ht;have h:xs.length=2:=g;have g0:DataW.trod enc Try.prog W 0 (fun _=>true) true n 3 (([u0,u1].drop 0).take (Try.prog.cellsOf 3))=xs[0]?:=c 0 _ rfl;have g5:DataW.trod enc Try.prog W 0 (fun _=>true) true n 22 (([u0,u1].drop 1).take (Try.prog.cellsOf 22))=xs[1]?:=c 1 _ rfl;rw[c1] at g0;rw[c4] at g5;rw[Jd Zo] at g0 g5;obtain⟨z0,e0,_,w0⟩:=DataW.trod_int Try.underlying3 g0;simp at e0 g5;obtain⟨row,h1,h2⟩:=ab5 g5;subst e0;refine⟨⟨z0,row⟩,⟨hc 0 _ rfl,kX w0,u1,hc 1 _ rfl,h1⟩,?_⟩;have:=aa3 (d:=xs[1].1) (l:=xs.map (·.1)) (Oj (Uf _));rw[abV]
    show row.length<=_
    omega) hf
def acE (n:Nat)(b:IBlk):Prop:=b.params.length<=n/\b.ops.length<=n/\b.term.to.length<=n/\(∀o∈b.ops,o.args.length<=n)/\∀e∈b.term.to,e.args.length<=n
theorem ac9 {m n:Nat}{b:IBlk}(h2:acE m b)(h1:m<=n):acE n b:=
 ⟨Jn h2.1 h1,Jn h2.2.1 h1,Jn h2.2.2.1 h1,fun o ho=>Jn (h2.2.2.2.1 o ho) h1,fun o ho=>Jn (h2.2.2.2.2 o ho) h1⟩
theorem acJ (hf:DataW.trod enc Try.prog W 0 (fun _=>true) true fuel 35 [u]=some x):∃row:List IBlk,wX W W.heap.size u row/\row.length+1<=abP x.1/\∀b∈row,acE (abP x.1) b:=
 abU (α:=IBlk) Try.underlying35 (show Try.prog.cellsOf 49=5 by kernel_rfl) Zd BlkR acE (fun m n a h1 h2=>⟨Jn h2.1 h1,Jn h2.2.1 h1,Jn h2.2.2.1 h1,fun o ho=>Jn (h2.2.2.2.1 o ho) h1,fun o ho=>Jn (h2.2.2.2.2 o ho) h1⟩) (fun b o cs n y hl hc ht=>by
  have c0:Try.prog.cellsOf 22=1:=by kernel_rfl
  have c1:Try.prog.cellsOf 44=1:=by kernel_rfl
  have c2:Try.prog.cellsOf 47=3:=by kernel_rfl
  have d0:Try.prog.cellsOf 3=1:=by kernel_rfl
  have d2:Try.prog.cellsOf 45=1:=by kernel_rfl
  match cs,hl with
  | [u0,u1,u2,u3,u4],_=>
    obtain⟨xs,n,_,rfl,_,k,g⟩:=DataW.trod_struct Try.underlying49 ht;have w:xs.length=3:=k;have g0:DataW.trod enc Try.prog W 0 (fun _=>true) true n 22 (([u0,u1,u2,u3,u4].drop 0).take (Try.prog.cellsOf 22))=xs[0]?:=g 0 _ rfl;have g1:DataW.trod enc Try.prog W 0 (fun _=>true) true n 44 (([u0,u1,u2,u3,u4].drop 1).take (Try.prog.cellsOf 44))=xs[1]?:=g 1 _ rfl;have g2:DataW.trod enc Try.prog W 0 (fun _=>true) true n 47 (([u0,u1,u2,u3,u4].drop 2).take (Try.prog.cellsOf 47))=xs[2]?:=g 2 _ rfl;rw[c0] at g0;rw[c1] at g1;rw[c2] at g2;rw[Jd Zo] at g0 g1 g2;obtain⟨r0,r,k0⟩:=ab5 g0;obtain⟨r1,h1,k1,i⟩:=ops_bulk g1;obtain⟨ys,n2,_,e2,_,j,c⟩:=DataW.trod_struct Try.underlying47 g2;have t:ys.length=3:=j;have q0:DataW.trod enc Try.prog W 0 (fun _=>true) true n2 3 (([u2,u3,u4].drop 0).take (Try.prog.cellsOf 3))=ys[0]?:=c 0 _ rfl;have q1:DataW.trod enc Try.prog W 0 (fun _=>true) true n2 3 (([u2,u3,u4].drop 1).take (Try.prog.cellsOf 3))=ys[1]?:=c 1 _ rfl;have q2:DataW.trod enc Try.prog W 0 (fun _=>true) true n2 45 (([u2,u3,u4].drop 2).take (Try.prog.cellsOf 45))=ys[2]?:=c 2 _ rfl;rw[d0] at q0 q1;rw[d2] at q2;rw[Jd Zo] at q0 q1 q2;obtain⟨z0,e0,_,w0⟩:=DataW.trod_int Try.underlying3 q0;obtain⟨z1,e1,_,w1⟩:=DataW.trod_int Try.underlying3 q1;simp at e0 e1;obtain⟨r2,h2,k2,h⟩:=adg q2;subst e0 e1;have m0:=aa3 (d:=xs[0].1) (l:=xs.map (·.1)) (Oj (Uf _));have m1:=aa3 (d:=xs[1].1) (l:=xs.map (·.1)) (Oj (Uf _));have m2:=aa3 (d:=xs[2].1) (l:=xs.map (·.1)) (Oj (Uf _));have m3:=aa3 (d:=ys[2].1) (l:=ys.map (·.1)) (Oj (Uf _));rw[e2] at m2;simp only at m2;rw[abV] at m2;refine⟨⟨r0,r1,⟨z0,z1,r2⟩⟩,⟨hc 2 _ rfl,hc 3 _ rfl,⟨kX w0,kX w1⟩,u0,u1,u4,hc 0 _ rfl,hc 1 _ rfl,hc 4 _ rfl,r,h1,h2⟩,?_⟩;simp only;rw[abV];refine⟨?_,?_,?_,fun o ho=>?_,fun o ho=>?_⟩
    ·show r0.length<=_;omega
    ·show r1.length<=_;omega
    ·show r2.length<=_;omega
    ·have:=i o ho;omega
    ·have:=h o ho;omega) hf
end
section
variable {H:Type} {enc:TypeId×Value->H} {W:World} {v:Value} {d:DataW H} {p:List MemPlace} {r:Go.Reach} {base:Nat}
theorem acG (hv:Value.okWide Try.prog W r base 35 v)(g:DataW.Trod enc Try.prog W 0 (fun _=>true) true 35 v d p):∃row:List IBlk,wX W W.heap.size v row/\row.length<=abP d/\∀b∈row,acE (abP d) b:=by
 obtain⟨a0,c,h,rfl⟩:=okWide_slice Try.underlying35 hv;obtain⟨fuel,hf⟩:=g;obtain⟨row,h1,h2,h3⟩:=acJ hf;exact⟨row,h1,by simp only at h2;omega,h3⟩
end
open Go.RowKit
theorem adk (x:SetF):(aaX x).size<=9223372036854775807:=by
 unfold aaX
 split
 ·decide
 ·rw[mG,gT];have:=Qj x.ram (show 0<3 by decide);omega
def cutB (b:IBlk):IBlk:=⟨b.params.take 4,b.ops.take 8,b.term⟩
theorem blks_own {w:World}{S:Nat}{v:Value}{l:List BlkLit}(h:w.ownsRow S 49 5 v l.length (l.flatMap aba))(h64:∀q∈l,ac6 w w.heap.size q):wX w w.heap.size v (l.map (·.b)):=by
 obtain⟨a,c,rfl⟩:=zG h;have hl:=zm h;refine⟨a,c,by rw[Nr],by rw[Nr];exact hl.1,by omega,fun k o hk=>?_⟩;rw[Jr,Oz] at hk;obtain⟨q,hq,rfl⟩:=hk;have r:=(Jh.1 hq).1;obtain⟨g,cap,e,hg,hb⟩:=h.form Zo;cases e
 have d:∀j v,(aba q)[j]? =some v->G w g (0+k*5+j) v:=fun j v hj=>by
  have i:j<5:=(Jh.1 hj).1;rw[Ng];exact(h.cellAt (k*5+j) Zo).trans ((uB aba 5 (fun _=>rfl) l k q hq j i).trans hj)
 obtain⟨h1,h2,h3,m⟩:=h64 q (Ji hq);exact⟨g,0,rfl,hb,d 2 _ rfl,d 3 _ rfl,h1,q.pv,q.ov,q.tv,d 0 _ rfl,d 1 _ rfl,d 4 _ rfl,h2,h3,m⟩
theorem ada {w w':World}{q:BlkLit}(h:ac6 w w.heap.size q)(hb:F w w'):ac6 w' w'.heap.size q:=
 ⟨h.1,(h.2.1.below zO hb).mono zO hb.size,(h.2.2.1.below xA hb).mono xA hb.size,(h.2.2.2.below xL hb).mono xL hb.size⟩
def adQ (F:List IBlk)(r:Int):IProg:=⟨[F,[]],[r,0],1,-1,[⟨-1,16384,9⟩],[]⟩
theorem adB {F blocks:List IBlk}{k:Nat}{r:Int}(h:F=(blocks.take k).map cutB)(hk:k<=6)(hb:∀b∈blocks,acE 1048576 b):mW (adQ F r):=by
 subst h;intro f hf;simp only[adQ,Jq,List.not_mem_nil,or_false] at hf;rcases hf with rfl|rfl
 ·refine⟨⟨by rw[Nr,Oc];omega,fun b hb2=>?_⟩,fun b hb2=>?_⟩
  ·obtain⟨b0,c,rfl⟩:=Nu.1 hb2;have:=hb b0 (List.mem_of_mem_take c);exact⟨by show(b0.params.take 4).length<=_;rw[Oc];omega,by show(b0.ops.take 8).length<=_;rw[Oc];omega,Jn this.2.2.1 Zd⟩
  ·obtain⟨b0,c,rfl⟩:=Nu.1 hb2
   show(b0.params.take 4).length<=_
   rw[Oc];omega
 ·exact⟨⟨by simp,fun b hb2=>by simp at hb2⟩,fun b hb2=>by simp at hb2⟩
structure RawSt (w wx:World) (fb k:Nat) (blocks:List IBlk) (fv:Value) (l:List BlkLit) (x:SetF) (sa:Option Addr) (sc:Nat) (qa:Option Addr) (qc:Nat):Prop where
 bel:Below w.heap.size w wx
 box:wx.heap[fb]? =some (.cells #[fv] 43 (0,0))
 own:wx.ownsRow w.heap.size 49 5 fv l.length (l.flatMap aba)
 lst:l.map (·.b)=(blocks.take k).map cutB
 ok:∀q∈l,ac6 w w.heap.size q
 sb:wx.heap[w.heap.size]? =some (.cells #[.slice sa x.inn.length sc,.slice qa x.irq.length qc,.int .u32 (x.ram:Int),.int .u16 (x.fuel:Int)] 41 (0,0))
 gb:w.heap.size<fb
theorem RawSt.len {w wx:World}{fb k:Nat}{blocks:List IBlk}{fv:Value}{l:List BlkLit}{x:SetF}{sa qa:Option Addr}{sc qc:Nat}(h:RawSt w wx fb k blocks fv l x sa sc qa qc)(hk:k<=blocks.length):l.length=k:=by
 have:=congrArg List.length h.lst;simp at this;omega
theorem RawSt.next {w wx w9:World}{fb k:Nat}{blocks:List IBlk}{fv fv':Value}{l:List BlkLit}{x:SetF}{sa qa:Option Addr}{sc qc:Nat}(h:RawSt w wx fb k blocks fv l x sa sc qa qc){W:World}(d:F wx W)(hg:W.grownBy w9 fv.ownBlock)
 {q:BlkLit} {bk:IBlk} (hk:blocks[k]? =some bk) (hq:q.b=cutB bk) (a0:ac6 w w.heap.size q) (j:w9.ownsRow w.heap.size 49 5 fv' (l.length+1) (l.flatMap aba++aba q)):
 RawSt w (w9.setCell ⟨fb,0,none⟩ fv') fb (k+1) blocks fv' (l++ [q]) x sa sc qa qc:=by
 have a2:=lt_of_block h.box;have m:=zH d h.box a2;have c:=p7 h.own d (Je _);have o:=zL hg m (zC c m (.inr Zd));have u:=zL hg (zH d h.sb (lt_of_block h.sb)) (zC c (zH d h.sb (lt_of_block h.sb)) (.inr Zd));have t:F w w9:=yP (h.bel.trans (d.mono h.bel.size)) hg (Jn h.bel.size d.size) (wF c);have r:F w (w9.setCell ⟨fb,0,none⟩ fv'):=t.setCell (Qd h.gb) _;refine⟨r,?_,?_,?_,?_,?_,h.gb⟩
 ·have:=zD o fv' (i:=0)
  simpa using this
 ·rw[Nx,Jk];have a1:=zC j o (.inr Zd);have:=ownsRow_setCell_other (a:=⟨fb,0,none⟩) j a1 fv'
  simpa using this
 ·rw[Js,h.lst,Nh,hk];simp[hq]
 ·intro y g;rcases Jl.1 g with g|g
  ·exact h.ok y g
  ·rw[Jo.1 g];exact a0
 ·exact zR u (by have:=h.gb;show w.heap.size≠fb;omega)
theorem law_raw (w:World)(bv:Value)(blocks:List IBlk)(n:Int)(xv:Value)(x:SetF)(hb:wX w w.heap.size bv blocks)(h5:∀b∈blocks,acE 1048576 b)(hn:I64 n)(hx:SetIn w w.heap.size xv x):
 Y 4 #[bv,A n,xv] w fun e w'=>e=.returned (.bool true)/\Below w.heap.size w w':=by
 obtain⟨ba,bc,rfl,p6,m7⟩:=hb.form;obtain⟨sa3,sc3,d,qc3,rfl,m2,m1⟩:=hx.form;obtain⟨ii,m3,i7,i6,i5⟩:=info_parts Try.info_irblock;obtain⟨m6,h4,d7⟩:=gj blocks.length 6;have j0:∀(ts:Array TypeId) (t:TypeId) (W:World),(Builtin.min_ ts t #[A (blocks.length:Int),A 6]).run Try.prog W=.ok (A m6) W:=fun ts t W=>by rw[h4];exact run_min_int2 ..
 have g9:m6<=blocks.length:=Zo;have d6:m6<=6:=Zo;have j1:(m6:Int)<=(bc:Int):=Zo;have HS:=Ja (Jb hb (Jb h5 (Jb hn hx)));have o5:=hx.fuel;have i1:Below w.heap.size w (w.alloc (U #[.slice sa3 x.inn.length sc3,.slice d x.irq.length qc3,.int .u32 (x.ram:Int),.int .u16 (x.fuel:Int)] 41)):=(Below.refl _ _).alloc (Je _) _;have f7:=zI (W:=w) (o:=U #[.slice sa3 x.inn.length sc3,.slice d x.irq.length qc3,.int .u32 (x.ram:Int),.int .u16 (x.fuel:Int)] 41) rfl;have H0:=Ja (Jb i1 f7);have f0:=Ja (Jb d7 g9);clear hb h5 hn hx m2 m1 m7 i1 f7 h4 d7;go_enter Try.func4,Try.ntmps4;go_upto_region 2 with(go_at_call 17;go_must (refine(ln _).mono ?_;rintro e w0 ⟨rfl,a0⟩))
 have H1:=Ja (Jb (H0.out.1.trans (a0.mono H0.out.1.size)) (zH a0 H0.out.2 (lt_of_block H0.out.2)));clear a0 H0
 have f8:RawSt w (w0.alloc (U #[O] 43)) w0.heap.size 0 blocks (O) [] x sa3 sc3 d qc3:=
  ⟨H1.out.1.alloc H1.out.1.size _,zI rfl,Jv _ _ _ _,rfl,fun q h=>by simp at h,zB H1.out.2,lt_of_block H1.out.2⟩
 have i4:=Ja f8;clear f8;go_upto_region 3 with fail;generalize w0.alloc (U #[O] 43)=X at *;generalize w0.heap.size=fb at *;clear H1;go_wp2
 go_loopw [22] (fun kv wx=>∃k:Nat,k<=m6/\kv=A k/\Hid (∃fv l,RawSt w wx fb k blocks fv l x sa3 sc3 d qc3)) (fun kv _=>m6-(intOf kv).toNat)
 case atStart=>exact⟨0,Jt _,rfl,Ja ⟨_,_,i4.out⟩⟩
 case round=>
  obtain⟨k,hk,rfl,HK⟩:=hrel;obtain⟨fv,l,hs⟩:=HK.out
  by_cases a1:k<m6
  ·have b9:(k:Int)<m6:=Zo;have b1:=Ja a1;obtain⟨bk,e8⟩:∃b,blocks[k]? =some b:=⟨_,Jd Zo⟩
   obtain⟨kb,ko,rfl,g,k2,k3,h6,pv,ov,tv,kp,f6,kt,d2,d3,d1⟩:=HS.out.1.get e8;obtain⟨pa,pc,rfl,l8,l7⟩:=d2.form;obtain⟨oa,oc,rfl,m0,l9⟩:=d3.form;obtain⟨ta,tc,rfl,l1,l0⟩:=d1.form;have t4:=lw d2 4;have t8:=lw d3 8;obtain⟨n4,g6,d5⟩:=gj bk.params.length 4;obtain⟨n8,g5,d4⟩:=gj bk.ops.length 8;have o2:∀(ts:Array TypeId) (t:TypeId) (W:World),(Builtin.min_ ts t #[A (bk.params.length:Int),A 4]).run Try.prog W=.ok (A n4) W:=fun ts t W=>by rw[g6];exact run_min_int2 ..
   have o1:∀(ts:Array TypeId) (t:TypeId) (W:World),(Builtin.min_ ts t #[A (bk.ops.length:Int),A 8]).run Try.prog W=.ok (A n8) W:=fun ts t W=>by rw[g5];exact run_min_int2 ..
   have q8:(n4:Int)<=(pc:Int):=Zo;have q7:(n8:Int)<=(oc:Int):=Zo;have p3:bk.params.length<=9223372036854775807:=Zo;have p4:bk.ops.length<=9223372036854775807:=Zo;rw[<-d5] at t4;rw[<-d4] at t8;have HQ:=Ja (show ac6 w w.heap.size ⟨cutB bk,.slice pa n4 pc,.slice oa n8 oc,.slice ta bk.term.to.length tc⟩ from⟨h6,t4,t8,d1⟩);have e0:=zV hs.bel g kp;have e1:=zV hs.bel g f6;have e2:=zV hs.bel g k2;have e3:=zV hs.bel g k3;have e4:=zV hs.bel g kt;have a5:=Ja (Jb hs e8);have a7:=hs.len (by have:=f0.out.2;omega);have f1:=Ja a7;clear k2 k3 h6 kp f6 kt d2 d3 d1 l8 l7 m0 l9 l1 l0 t4 t8 g6 g5 d5 d4 hs e8 a7 a1 g;go_upto_region 6 with fail;have hz:=zI (W:=wr) (o:=U #[.slice pa bk.params.length pc,.slice oa bk.ops.length oc,A bk.term.kind,A bk.term.a,.slice ta bk.term.to.length tc] 49) rfl;have e6:=(Below.refl wr.heap.size wr).alloc (Je _) (U #[.slice pa bk.params.length pc,.slice oa bk.ops.length oc,A bk.term.kind,A bk.term.a,.slice ta bk.term.to.length tc] 49);generalize wr.alloc (U #[.slice pa bk.params.length pc,.slice oa bk.ops.length oc,A bk.term.kind,A bk.term.a,.slice ta bk.term.to.length tc] 49)=W9 at *;have l2:=e6.size;have c0:=K0 hz;have c1:=K1 hz;have cf:∀i,T W9 wr.heap.size i:=fun i=>zE hz
   have cl:=lt_of_block hz;go_upto_region 8 with fail;have a6:=zD (i:=0) (zD (i:=1) hz (.slice oa n8 oc)) (.slice pa n4 pc);have a3:Below wr.heap.size wr ((W9.setCell ⟨wr.heap.size,1,none⟩ (.slice oa n8 oc)).setCell ⟨wr.heap.size,0,none⟩ (.slice pa n4 pc)):=(e6.setCell (Je _) _).setCell (Je _) _;generalize (W9.setCell ⟨wr.heap.size,1,none⟩ (.slice oa n8 oc)).setCell ⟨wr.heap.size,0,none⟩ (.slice pa n4 pc)=W10 at *;have u:L W10 wr.heap.size #[.slice pa n4 pc,.slice oa n8 oc,A bk.term.kind,A bk.term.a,.slice ta bk.term.to.length tc] 49:=by simpa using a6
   clear hz a6 e6 l2 c0 c1 cf cl e0 e1 e2 e3 e4;obtain⟨fa,fc,b4⟩:=zG a5.out.1.own;rw[f1.out] at b4;subst b4;have q0:=K0 u;have q1:=K1 u;have q2:=K2 u;have q3:=K3 u;have q4:=K4 u;have e7:=zH a3 a5.out.1.box (lt_of_block a5.out.1.box);have q5:=K0 e7;have b7:=p7 a5.out.1.own a3 (Je _);rw[f1.out] at b7;have o6:w.heap.size<=W10.heap.size:=Jn a5.out.1.bel.size a3.size;have HB:=Ja (Jb a3 (Jb e7 b7));clear u a3 e7 b7;go_wp2_with (at_builtin;go_must (refine zK _ rfl (.tmp 43) (.tmp 45) 35 rfl w.heap.size 49 ii (.agg #[O,O,A 0,A 0,O]) 5 88 Try.underlying35 m3 i7 i6 i5 rfl Zd (.slice fa k fc) k (l.flatMap aba) rfl (HB.out.2.2.alloc _) _ 1 [.slice pa n4 pc,.slice oa n8 oc,A bk.term.kind,A bk.term.a,.slice ta bk.term.to.length tc] rfl (yM.cells (zI Zs) rfl (by simp[Value.oneCell'])) (by unfold maxLen;omega) Zo Zt ?_;intro v9 w9 b2 b3 n0;obtain⟨o4,o3,rfl⟩:=zG b2;have c7:=zL b3 (zB HB.out.2.1) (zC HB.out.2.2 HB.out.2.1 (.inr Zd));have g0:=zA (i:=0) c7 rfl;have gf:T w9 fb 0:=zE c7;have gl:=lt_of_block c7;have HG:=Ja (Jb b2 b3);clear b2 b3 n0 c7))
   clear q0 q1 q2 q3 q4 q5;go_roundw
   case rel=>
    refine⟨k+1,b1.out,by go_num,Ja ⟨_,_,a5.out.1.next (HB.out.1.alloc HB.out.1.size _) HG.out.2 (q:=⟨cutB bk,.slice pa n4 pc,.slice oa n8 oc,.slice ta bk.term.to.length tc⟩) a5.out.2 rfl HQ.out ?_⟩⟩;rw[f1.out];exact HG.out.1
   case measure=>have:=b1.out;simp[intOf];omega
  ·obtain rfl:k=m6:=by omega
   have b9:¬(k:Int)<(k:Int):=Zo;obtain⟨fa,fc,b4⟩:=zG hs.own;have a7:=hs.len (by have:=f0.out.2;omega);rw[a7] at b4;subst b4;have hF:=blks_own hs.own (fun q hq=>ada (hs.ok q hq) hs.bel);have d8:=hs.lst;have i2:(l.map (·.b)).length=k:=by rw[Nr,a7]
   generalize l.map (·.b)=F at *;obtain⟨r3,l5⟩:∃r,n.tmod 3=r:=⟨_,rfl⟩
   have o0:-3<r3/\r3<3:=by
    rw[<-l5];exact⟨Qu n Zd,Qv n Zd⟩
   have q0:=K0 hs.box;have H5:=Ja (Jb hs.bel (Jb hs.sb (Jb hF (Jb d8 i2))));clear hs a1 HK i4 d8 i2 hF a7;go_upto_region 11 with fail
   have g4:∀W,Below wr.heap.size wr W->L W wr.heap.size #[.slice fa k fc,O] 43->L W (wr.heap.size+1) #[A r3,A 0] 3->L W (wr.heap.size+1+1) #[A (-1),.int .u16 16384,.int .u16 9] 51->
    ProgIn W W.heap.size ⟨N wr.heap.size 2 2,N (wr.heap.size+1) 2 2,N (wr.heap.size+1+1) 1 1,O⟩ (adQ F r3):=fun W hb h0 h1 h2=>by
    have hF:=(H5.out.2.2.1.below yT hb).mono yT hb.size;refine⟨acC (xs:=[F,[]]) (vs:=[.slice fa k fc,O]) h0 (lt_of_block h0) rfl (show 2<=1000000 by decide) (fun j v y hv hy hc=>?_),ints_lit (xs:=[r3,0]) h1 (lt_of_block h1) (fun y hy=>?_) (show 2<=1000000 by decide),yN.one (lt_of_block h2) ⟨zA h2 Zs,zA h2 Zs,zA h2 Zs,⟨by show I64 (-1);exact⟨by omega,by omega⟩,by show 16384<65536;decide,by show 9<65536;decide⟩⟩,yN.nil,⟨by show(-9223372036854775808:Int)<=1;omega,by show(1:Int)<=_;omega⟩,⟨by show(-9223372036854775808:Int)<=-1;omega,by show(-1:Int)<=_;omega⟩⟩
    ·match j with
     |0=>cases hv;cases hy;exact⟨_,hc,hF⟩
     |1=>cases hv;cases hy;exact⟨_,hc,yN.nil⟩
     |j+2=>simp at hv
    ·simp only[Jq,List.not_mem_nil,or_false] at hy;rcases hy with rfl|rfl
     ·exact⟨by omega,by omega⟩
     ·exact⟨by omega,by omega⟩
   have g2:PBx ((((wr.alloc (U #[.slice fa k fc,O] 43)).alloc (U #[A r3,A 0] 3)).alloc (U #[A (-1),.int .u16 16384,.int .u16 9] 51)).alloc (U #[N wr.heap.size 2 2,N (wr.heap.size+1) 2 2,A 1,A (-1),N (wr.heap.size+1+1) 1 1,O] 29)) (wr.heap.size+1+1+1) (adQ F r3) (some ⟨wr.heap.size,0,none⟩) 2 (some ⟨wr.heap.size+1,0,none⟩) 2 (some ⟨wr.heap.size+1+1,0,none⟩) 1 none 0:=by
    have c9:(((wr.alloc (U #[.slice fa k fc,O] 43)).alloc (U #[A r3,A 0] 3)).alloc (U #[A (-1),.int .u16 16384,.int .u16 9] 51)).heap.size=wr.heap.size+1+1+1:=by simp
    have h:=PBx.new (p:=adQ F r3) (fa:=some ⟨wr.heap.size,0,none⟩) (fc:=2) (aa:=some ⟨wr.heap.size+1,0,none⟩) (ac:=2) (da:=some ⟨wr.heap.size+1+1,0,none⟩) (dc:=1) (ba:=none) (bc:=0) (g4 (((wr.alloc (U #[.slice fa k fc,O] 43)).alloc (U #[A r3,A 0] 3)).alloc (U #[A (-1),.int .u16 16384,.int .u16 9] 51)) ((((Below.refl _ _).alloc (Je _) _).alloc Zs _).alloc Zt _) (zB (zB (zI rfl))) (zB (zI Zs)) (zI Zs));rw[c9] at h;exact h
   have a2:Below wr.heap.size wr ((((wr.alloc (U #[.slice fa k fc,O] 43)).alloc (U #[A r3,A 0] 3)).alloc (U #[A (-1),.int .u16 16384,.int .u16 9] 51)).alloc (U #[N wr.heap.size 2 2,N (wr.heap.size+1) 2 2,A 1,A (-1),N (wr.heap.size+1+1) 1 1,O] 29)):=((((Below.refl _ _).alloc (Je _) _).alloc Zs _).alloc Zt _).alloc Zt _;have H6:=Ja (Jb (H5.out.1.trans (a2.mono H5.out.1.size)) (Jb (zH a2 H5.out.2.1 (lt_of_block H5.out.2.1)) g2));clear g4 g2 a2 q0;generalize (((wr.alloc (U #[.slice fa k fc,O] 43)).alloc (U #[A r3,A 0] 3)).alloc (U #[A (-1),.int .u16 16384,.int .u16 9] 51)).alloc (U #[N wr.heap.size 2 2,N (wr.heap.size+1) 2 2,A 1,A (-1),N (wr.heap.size+1+1) 1 1,O] 29)=W6 at *;generalize wr.heap.size+1+1+1=b8 at *;generalize wr.heap.size+1+1=bd at *;generalize wr.heap.size+1=bg at *;generalize wr.heap.size=bf at *;go_upto_region 13 with fail;have a2:Below W6.heap.size W6 ((W6.alloc (U #[.int .u16 4,.int .u16 5] 39)).alloc (U #[A 0,A 1,A 2] 3)):=((Below.refl _ _).alloc (Je _) _).alloc Zs _;have k1:L ((W6.alloc (U #[.int .u16 4,.int .u16 5] 39)).alloc (U #[A 0,A 1,A 2] 3)) W6.heap.size #[.int .u16 4,.int .u16 5] 39:=zB (zI rfl);have k2:L ((W6.alloc (U #[.int .u16 4,.int .u16 5] 39)).alloc (U #[A 0,A 1,A 2] 3)) (W6.heap.size+1) #[A 0,A 1,A 2] 3:=zI Zs;have m:=Ja (Jb (H6.out.1.trans (a2.mono H6.out.1.size)) (Jb (Jb (zH a2 H6.out.2.1 (lt_of_block H6.out.2.1)) (H6.out.2.2.below a2)) (Jb k1 k2)));clear a2 k1 k2 H6;generalize (W6.alloc (U #[.int .u16 4,.int .u16 5] 39)).alloc (U #[A 0,A 1,A 2] 3)=X at *;generalize W6.heap.size+1=b13 at *;generalize W6.heap.size=b12 at *;have f9:mW (adQ F r3):=adB H5.out.2.2.2.1 d6 HS.out.2.1;have b6:=Ja (show SBx X w.heap.size x sa3 sc3 d qc3 from⟨m.out.2.1.1,(HS.out.2.2.2.below m.out.1).mono m.out.1.size⟩);have b5:=Ja f9;clear f9 f0 j0 d6 j1 g9;obtain⟨p,hp⟩:∃p,adQ F r3=p:=⟨_,rfl⟩
   rw[hp] at m b5;have g3:p.funcs.length=2/\p.args.length=2/\p.data.length=1/\p.banks.length=0/\p.entry=1/\p.handler=-1:=by rw[<-hp];exact⟨rfl,rfl,rfl,rfl,rfl,rfl⟩
   have q9:=Ja (Jb hp g3);clear hp g3;obtain⟨I,hI⟩:∃I,x.inn.take 20=I:=⟨_,rfl⟩
   obtain⟨Q,hQ⟩:∃Q,x.irq.take 20=Q:=⟨_,rfl⟩
   obtain⟨F1,i3⟩:∃F,x.fuel%3000=F:=⟨_,rfl⟩
   have q6:F1<3000:=Zo;have j3:=Ja (show ∀W,Below X.heap.size X W->Y 24 #[.agg #[.slice sa3 x.inn.length sc3,.slice d x.irq.length qc3,.int .u32 (x.ram:Int),.int .u16 (x.fuel:Int)]] W (aap W (aaX x)) from fun W hb=>gC (b6.out.below hb).set)
   have j4:=Ja (show ∀W,Below X.heap.size X W->Y 26 #[.agg #[.slice sa3 x.inn.length sc3,.slice d x.irq.length qc3,.int .u32 (x.ram:Int),.int .u16 (x.fuel:Int)]] W (dq W (F1:Int)) from fun W hb=>by
    have:=fq (b6.out.below hb).set;rw[i3] at this
    exact this)
   have j2:=Ja (show ∀W,Below X.heap.size X W->Y 25 #[.agg #[.slice sa3 x.inn.length sc3,.slice d x.irq.length qc3,.int .u32 (x.ram:Int),.int .u16 (x.fuel:Int)]] W (fun e w'=>∃ia ic qa qc,e=.returned (.agg #[.slice ia I.length ic,.slice qa Q.length qc])/\wV w' w'.heap.size (.slice ia I.length ic) I/\dL w' w'.heap.size (.slice qa Q.length qc) Q/\Below W.heap.size W w') from fun W hb=>by
    refine(fi (b6.out.below hb).set).mono ?_;rintro e w' ⟨ia,ic,qa,qc,rfl,h1,h2,h3⟩;rw[hI] at h1 ⊢;rw[hQ] at h2 ⊢
    exact⟨ia,ic,qa,qc,rfl,h1.mono zr h3.size,h2.mono xQ h3.size,h3⟩)
   have HU:=Ja (show ∀W j,Below X.heap.size X W->j<=2->wV W W.heap.size (N b12 j 2) ([4,5].take j) from fun W j hb hj=>by
    have h0:=zH hb m.out.2.2.1 (lt_of_block m.out.2.2.1);have h1:wV W W.heap.size (N b12 2 2) [4,5]:=acW (xs:=[4,5]) h0 (lt_of_block h0) Zd Zd;have h2:=lw (xs:=[4,5]) (cap:=2) (a:=some ⟨b12,0,none⟩) h1 j;rw[show min j ([4,5]:List Nat).length=j by show min j 2=j;omega] at h2
    exact h2)
   clear hI hQ i3;go_wp2
   go_loopw [61] (fun jv wx=>∃j:Nat,j<=3/\jv=A j/\Hid (Below X.heap.size X wx)) (fun jv _=>3-(intOf jv).toNat)
   case atStart=>exact⟨0,by omega,rfl,Ja (Below.refl _ _)⟩
   case round=>
    obtain⟨j,hj,rfl,c⟩:=hrel
    by_cases a1:j<3
    ·have b9:(j:Int)<3:=Zo;have p5:(j:Int)<=2:=Zo;have d9:j<=2:=Zo;have b1:=Ja a1;have g:=zH c.out m.out.2.2.2 (lt_of_block m.out.2.2.2)
     have q0:G wr b13 j (A j):=by
      match j,a1 with
      |0,_=>exact zA g Zs
      |1,_=>exact zA g Zs
      |2,_=>exact zA g Zs
     obtain⟨R,hR⟩:∃R,i9 ⟨p,I,Q⟩ 0 ([4,5].take j) (aaX x) (F1:Int)=R:=⟨_,rfl⟩
     have n5:=Ja (fun W (hb:Below wr.heap.size wr W)=>j3.out W (c.out.trans (hb.mono c.out.size)));have n6:=Ja (fun W (hb:Below wr.heap.size wr W)=>j4.out W (c.out.trans (hb.mono c.out.size)));have n3:=Ja (fun W (hb:Below wr.heap.size wr W)=>j2.out W (c.out.trans (hb.mono c.out.size)))
     have HC:=Ja (show ∀W,Below wr.heap.size wr W->(G W b8 0 (N bf p.funcs.length 2)/\G W b8 1 (N bg p.args.length 2)/\G W b8 2 (A p.entry)/\G W b8 3 (A p.handler)/\G W b8 4 (N bd p.data.length 1)/\G W b8 5 (.slice none p.banks.length 0)/\G W w.heap.size 0 (.slice sa3 x.inn.length sc3)/\G W w.heap.size 1 (.slice d x.irq.length qc3)/\G W w.heap.size 2 (.int .u32 (x.ram:Int))/\G W w.heap.size 3 (.int .u16 (x.fuel:Int))) from fun W hb=>by
      have h1:=m.out.2.1.2.below (c.out.trans (hb.mono c.out.size));have h2:=b6.out.below (c.out.trans (hb.mono c.out.size))
      exact⟨h1.c0,h1.c1,h1.c2,h1.c3,h1.c4,h1.c5,h2.c0,h2.c1,h2.c2,h2.c3⟩)
     have n7:=Ja (show ∀W ia ic qa qc,Below wr.heap.size wr W->wV W W.heap.size (.slice ia I.length ic) I->dL W W.heap.size (.slice qa Q.length qc) Q->
      Y 23 #[.agg #[N bf p.funcs.length 2,N bg p.args.length 2,A p.entry,A p.handler,N bd p.data.length 1,.slice none p.banks.length 0],A 0,N b12 j 2,.string (aaX x),.agg #[.slice ia I.length ic,.slice qa Q.length qc],A F1] W (eM W R) from fun W ia ic qa qc hb hi hq=>by
      have hb:=c.out.trans (hb.mono c.out.size);rw[<-hR]
      exact(mX (m.out.2.1.2.below hb).prog b5.out 0 ⟨by omega,by omega⟩ (HU.out W j hb d9) (aaX x) (adk x) hi hq (F1:Int) ⟨by omega,by omega⟩ Zo).mono fun e w' h=>h.open)
     have n9:=Ja (show ∀W ia ic qa qc,Below wr.heap.size wr W->wV W W.heap.size (.slice ia I.length ic) I->dL W W.heap.size (.slice qa Q.length qc) Q->
      Y 27 #[.agg #[N bf p.funcs.length 2,N bg p.args.length 2,A p.entry,A p.handler,N bd p.data.length 1,.slice none p.banks.length 0],A 0,N b12 j 2,.string (aaX x),.agg #[.slice ia I.length ic,.slice qa Q.length qc],A F1] W (eM W R) from fun W ia ic qa qc hb hi hq=>by
      have hb:=c.out.trans (hb.mono c.out.size);rw[<-hR]
      exact(eval_q (m.out.2.1.2.below hb).prog b5.out 0 ⟨by omega,by omega⟩ (HU.out W j hb d9) (aaX x) (adk x) hi hq (F1:Int) ⟨by omega,by omega⟩).mono fun e w' h=>h.open)
     have HR:=Ja hR;clear hR g a1;go_upto_region 15 with fail
     go_region_held3 (fun w'=>G w' b8 0 (N bf p.funcs.length 2)/\G w' b8 1 (N bg p.args.length 2)/\G w' b8 2 (A p.entry)/\G w' b8 3 (A p.handler)/\G w' b8 4 (N bd p.data.length 1)/\G w' b8 5 (.slice none p.banks.length 0)/\G w' w.heap.size 0 (.slice sa3 x.inn.length sc3)/\G w' w.heap.size 1 (.slice d x.irq.length qc3)/\G w' w.heap.size 2 (.int .u32 (x.ram:Int))/\G w' w.heap.size 3 (.int .u16 (x.fuel:Int)))
      ((refine HC.out _ ?_;repeat' (first|with_reducible exact Below.refl _ _|with_reducible assumption|with_reducible refine Below.drew ?_|with_reducible refine Below.alloc ?_ Zn _|with_reducible refine Below.setCell ?_ Zn _)))
      (first
        |(go_at_call 24
          refine(n5.out _ Zb).mono ?_;rintro e y1 ⟨rfl,a0⟩;have a6:Below wr.heap.size wr y1:=Below.trans Zb (a0.mono Zn);have l4:=a6.size
          try (have f5:Below y4.heap.size y4 y1:=Below.trans Zb (a0.mono Zn))
          try (have k9:=f5.size)
          clear a0)
        |(go_at_call 25
          refine(n3.out _ Zb).mono ?_;rintro e y2 ⟨ia,ic,qa,qc,rfl,m4,l6,b0⟩;have u:Below wr.heap.size wr y2:=Below.trans Zb (b0.mono Zn);have l3:=u.size
          try (have f4:Below y4.heap.size y4 y2:=Below.trans Zb (b0.mono Zn))
          try (have k7:=f4.size)
          clear b0)
        |(go_at_call 26
          refine(n6.out _ Zb).mono ?_;rintro e y3 ⟨rfl,c8⟩;have a4:Below y2.heap.size y2 y3:=Below.trans Zb (c8.mono Zn);have h7:=(m4.below zr a4).mono zr a4.size;have g1:=(l6.below xQ a4).mono xQ a4.size;clear a4;have c9:Below wr.heap.size wr y3:=Below.trans Zb (c8.mono Zn);have p2:=c9.size
          try (have f3:Below y4.heap.size y4 y3:=Below.trans Zb (c8.mono Zn))
          try (have k6:=f3.size)
          clear c8)
        |(go_at_call 23
          refine(n7.out _ _ _ _ _ Zb (yN.mono zr (B:=y3.heap.size) (yN.below zr h7 Zb) Zn) (yN.mono xQ (B:=y3.heap.size) (yN.below xQ g1 Zb) Zn)).mono ?_;rintro e y4 ⟨oa,oc,rfl,h8,i0⟩;have k4:Below wr.heap.size wr y4:=Below.trans Zb (i0.mono Zn);have p1:=k4.size
          clear i0)
        |(go_at_call 27
          refine(n9.out _ _ _ _ _ Zb (yN.mono zr (B:=y3.heap.size) (yN.below zr h7 Zb) Zn) (yN.mono xQ (B:=y3.heap.size) (yN.below xQ g1 Zb) Zn)).mono ?_;rintro e y5 ⟨ob,od,rfl,m5,e9⟩;have k0:Below wr.heap.size wr y5:=Below.trans Zb (e9.mono Zn);have p0:=k0.size
          try (have f2:Below y4.heap.size y4 y5:=Below.trans Zb (e9.mono Zn))
          try (have k5:=f2.size)
          clear e9)
        |(go_at_call 22
          refine(acn rfl (ev_len h8) (yN.mono vo (B:=y4.heap.size) (yN.below vo h8 Zb) Zn) (yN.mono vo (B:=y5.heap.size) (yN.below vo m5 Zb) Zn)).mono ?_;rintro e y6 ⟨rfl,h9⟩;have j5:Below wr.heap.size wr y6:=Below.trans Zb (h9.mono Zn);have o9:=j5.size
          clear h9))
     all_goals go_wp2_with fail
     all_goals go_roundw
     case rel=>
      have e5:Below X.heap.size X _:=c.out.trans (Below.mono (by first|with_reducible assumption|with_reducible exact uG Zz) c.out.size)
      first|exact⟨j+1,b1.out,by go_num,Ja e5⟩|((repeat apply Exists.intro);exact⟨⟨j+1,b1.out,by go_num,Ja e5⟩,rfl⟩)
     case measure=>have:=b1.out;simp[intOf];omega
    ·obtain rfl:j=3:=by omega
     have b9:¬((3:Nat):Int)<3:=by decide
     obtain⟨vt,d0⟩:∃v,vC p=v:=⟨_,rfl⟩
     have n2:=Ja (show ∀W,Below wr.heap.size wr W->Y 20 #[.agg #[N bf p.funcs.length 2,N bg p.args.length 2,A p.entry,A p.handler,N bd p.data.length 1,.slice none p.banks.length 0]] W (m9 W vt) from fun W hb=>by
      have:=tu (m.out.2.1.2.below (c.out.trans (hb.mono c.out.size))).prog (Je _) (fun f hf=>(b5.out f hf).1)
      rwa [d0] at this)
     have n1:=Ja (show ∀W,Below wr.heap.size wr W->Y 21 #[.agg #[N bf p.funcs.length 2,N bg p.args.length 2,A p.entry,A p.handler,N bd p.data.length 1,.slice none p.banks.length 0]] W (m9 W vt) from fun W hb=>by
      have:=ab0 (m.out.2.1.2.below (c.out.trans (hb.mono c.out.size))).prog (fun f hf=>(b5.out f hf).1)
      rwa [d0] at this)
     have HC:=Ja (show ∀W,Below wr.heap.size wr W->(G W b8 0 (N bf p.funcs.length 2)/\G W b8 1 (N bg p.args.length 2)/\G W b8 2 (A p.entry)/\G W b8 3 (A p.handler)/\G W b8 4 (N bd p.data.length 1)/\G W b8 5 (.slice none p.banks.length 0)/\G W w.heap.size 0 (.slice sa3 x.inn.length sc3)/\G W w.heap.size 1 (.slice d x.irq.length qc3)/\G W w.heap.size 2 (.int .u32 (x.ram:Int))/\G W w.heap.size 3 (.int .u16 (x.fuel:Int))) from fun W hb=>by
      have h1:=m.out.2.1.2.below (c.out.trans (hb.mono c.out.size));have h2:=b6.out.below (c.out.trans (hb.mono c.out.size))
      exact⟨h1.c0,h1.c1,h1.c2,h1.c3,h1.c4,h1.c5,h2.c0,h2.c1,h2.c2,h2.c3⟩)
     clear d0 a1;go_upto_region 18 with fail
     go_region_held3 (fun w'=>G w' b8 0 (N bf p.funcs.length 2)/\G w' b8 1 (N bg p.args.length 2)/\G w' b8 2 (A p.entry)/\G w' b8 3 (A p.handler)/\G w' b8 4 (N bd p.data.length 1)/\G w' b8 5 (.slice none p.banks.length 0)/\G w' w.heap.size 0 (.slice sa3 x.inn.length sc3)/\G w' w.heap.size 1 (.slice d x.irq.length qc3)/\G w' w.heap.size 2 (.int .u32 (x.ram:Int))/\G w' w.heap.size 3 (.int .u16 (x.fuel:Int)))
      ((refine HC.out _ ?_;repeat' (first|with_reducible exact Below.refl _ _|with_reducible assumption|with_reducible refine Below.drew ?_|with_reducible refine Below.alloc ?_ Zn _|with_reducible refine Below.setCell ?_ Zn _)))
      (first
        |(go_at_call 20
          refine(n2.out _ Zb).mono ?_;rintro e y1 ⟨rfl,a0⟩;have a6:Below wr.heap.size wr y1:=Below.trans Zb (a0.mono Zn);have l4:=a6.size
          clear a0)
        |(go_at_call 21
          refine(n1.out _ Zb).mono ?_;rintro e y2 ⟨rfl,b0⟩;have u:Below wr.heap.size wr y2:=Below.trans Zb (b0.mono Zn);have l3:=u.size
          clear b0))
     all_goals go_wp2_with fail
     all_goals go_ret
     all_goals exact⟨rfl,m.out.1.trans (Below.mono (c.out.trans (Below.mono (by first|with_reducible assumption|with_reducible exact uG Zz) c.out.size)) m.out.1.size)⟩
end Go.Proofs.Ytojclalkfhoooaa
