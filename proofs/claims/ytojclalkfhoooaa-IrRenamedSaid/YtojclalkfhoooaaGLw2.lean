/- Part of a proof. -/
import Derived.Test.YtojclalkfhoooaaGRShp
set_option linter.all false
namespace Go.Proofs.Ytojclalkfhoooaa
open Go.RowKit
variable {w:World}{vs:List Value}
abbrev fN:Array Value:=#[I 0,O,A 0,I 0,.string ⟨#[]⟩,A 0,A 0]
theorem fO{B b q:Nat}{x:Nat×Nat}(h:L w b fN 57):¬EvR w B b q x:=fun⟨h1,h2,_⟩=>by
 have c:∀i,w.cell? ⟨b,i,none⟩=fN[i]?:=fun i=>by
  cases hi:fN[i]? with
  |some v=>exact zA h hi
  |none=>simp[World.cell?,h,hi]
 rw[c] at h1 h2;simp only[fN] at h1 h2
 match q,h1,h2 with
 |0,_,h2=>simp at h2
 |1,h1,_=>simp at h1
 |2,h1,_=>simp at h1
 |3,_,h2=>simp at h2
 |4,h1,_=>simp at h1
 |5,h1,_=>simp at h1
 |6,h1,_=>simp at h1
 |q+7,h1,_=>simp at h1
theorem abJ{b b2 o:Nat}(c:b2≠b)(i:Nat):(w.setCells b o vs).cell? ⟨b2,i,none⟩=w.cell? ⟨b2,i,none⟩:=by
 unfold World.cell?;rw[show(w.setCells b o vs).heap[(⟨b2,i,none⟩:Addr).block]? =w.heap[(⟨b2,i,none⟩:Addr).block]? from ye b b2 c vs o w]
theorem ado{w2:World}{b:Nat}{l:List (Nat×Nat)}{ov:Value}(g:vM w2 w2.heap.size ov l)(h:L w2 b fN 57):vM (w2.setCells b 0 vs) (w2.setCells b 0 vs).heap.size ov l:=by
 obtain⟨a,cap,rfl,h1,h2,h3⟩:=g;refine⟨a,cap,rfl,h1,h2,fun k x hk=>?_⟩;obtain⟨b2,o2,e2,d,hr⟩:=h3 k x hk;have c:b2≠b:=fun e=>by subst e;exact fO h hr
 exact⟨b2,o2,e2,by rw[y8];exact d,(abJ c _).trans hr.1,(abJ c _).trans hr.2.1,hr.2.2⟩
end Go.Proofs.Ytojclalkfhoooaa
