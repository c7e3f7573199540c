/- Part of a proof. -/
import Derived.Test.YtojclalkfhoooaaIEval2
import Derived.Test.YtojclalkfhoooaaLift7
set_option linter.unusedSimpArgs false
set_option linter.unusedVariables false
set_option maxHeartbeats 1000000
set_option maxRecDepth 100000
namespace Go.Proofs.Ytojclalkfhoooaa
open Go.RowKit
theorem pZ:I64 0:=⟨by omega,by omega⟩
theorem i64_neg:I64 (-1):=⟨by omega,by omega⟩
def rd (t:ITerm)(ops:List IOp):IProg:=⟨[[⟨[],ops,t⟩]],[0],0,-1,[],[]⟩
def mL (w:World)(p:IProg)(e:Ending)(w':World):Prop:=∃V,e=.returned (yH V p)/\ProgIn w' w'.heap.size V p/\Below w.heap.size w w'
theorem yN.nil {α:Type}{sz:Nat}{R:World->Nat->Nat->Nat->α->Prop}{w:World}{B:Nat}:yN sz R w B (.slice none 0 0) []:=
 ⟨none,0,rfl,Nat.le_refl _,by omega,fun k x hk=>by simp at hk⟩
theorem yN.one {α:Type}{sz:Nat}{R:World->Nat->Nat->Nat->α->Prop}{w:World}{B b:Nat}{x:α}(hb:b<B)(h:R w B b 0 x):yN sz R w B (.slice (some ⟨b,0,none⟩) 1 1) [x]:=
 ⟨_,1,rfl,Nat.le_refl _,by omega,fun k y hk=>by
   have hk0:k=0:=by have:=(List.getElem?_eq_some_iff.1 hk).1;simp at this;omega
   subst hk0
   cases hk
   exact⟨b,0,rfl,hb,by simpa using h⟩⟩
theorem kW {w:World}{tk ta:Int}(ht:I64 tk/\I64 ta){eds:List IEdge}{tv:Value}(hto:wH w w.heap.size tv eds){ops:List IOp}{ov:Value}(hov:mN w w.heap.size ov ops):
 Calls Try.prog 32 #[.agg #[.int .i64 tk,.int .i64 ta,tv],ov] w (mL w (rd ⟨tk,ta,eds⟩ ops)):=by
 obtain⟨ea,ec,rfl,_,_⟩:=hto.form
 obtain⟨oa,oc,rfl,_,_⟩:=hov.form
 have HTO:=Lib.hid (And.intro ht (And.intro hto hov))
 clear hto hov ht
 go_enter Try.func32,Try.ntmps32
 go_wp2
 have hb:Below w.heap.size w (((((w.alloc (.cells #[.int .i64 tk,.int .i64 ta,.slice ea eds.length ec] 47)).alloc (.cells #[.slice (some ⟨w.heap.size+1+1+1,0,none⟩) 1 1,.slice (some ⟨w.heap.size+1+1+1+1,0,none⟩) 1 1,.int .i64 0,.int .i64 (-1),.slice none 0 0,.slice none 0 0] 29)).alloc (.cells #[.slice none 0 0,.slice oa ops.length oc,.int .i64 tk,.int .i64 ta,.slice ea eds.length ec] 49)).alloc (.cells #[.slice (some ⟨w.heap.size+1+1,0,none⟩) 1 1] 43)).alloc (.cells #[.int .i64 0] 3)):=(((((Below.refl _ _).alloc (Nat.le_refl _) _).alloc (by simp) _).alloc (by simp;omega) _).alloc (by simp;omega) _).alloc (by simp;omega) _
 have h1:(((((w.alloc (.cells #[.int .i64 tk,.int .i64 ta,.slice ea eds.length ec] 47)).alloc (.cells #[.slice (some ⟨w.heap.size+1+1+1,0,none⟩) 1 1,.slice (some ⟨w.heap.size+1+1+1+1,0,none⟩) 1 1,.int .i64 0,.int .i64 (-1),.slice none 0 0,.slice none 0 0] 29)).alloc (.cells #[.slice none 0 0,.slice oa ops.length oc,.int .i64 tk,.int .i64 ta,.slice ea eds.length ec] 49)).alloc (.cells #[.slice (some ⟨w.heap.size+1+1,0,none⟩) 1 1] 43)).alloc (.cells #[.int .i64 0] 3)).heap[w.heap.size+1+1]? =some (.cells #[.slice none 0 0,.slice oa ops.length oc,.int .i64 tk,.int .i64 ta,.slice ea eds.length ec] 49 (0,0)):=zB (zB (zI (by simp)))
 have h2:(((((w.alloc (.cells #[.int .i64 tk,.int .i64 ta,.slice ea eds.length ec] 47)).alloc (.cells #[.slice (some ⟨w.heap.size+1+1+1,0,none⟩) 1 1,.slice (some ⟨w.heap.size+1+1+1+1,0,none⟩) 1 1,.int .i64 0,.int .i64 (-1),.slice none 0 0,.slice none 0 0] 29)).alloc (.cells #[.slice none 0 0,.slice oa ops.length oc,.int .i64 tk,.int .i64 ta,.slice ea eds.length ec] 49)).alloc (.cells #[.slice (some ⟨w.heap.size+1+1,0,none⟩) 1 1] 43)).alloc (.cells #[.int .i64 0] 3)).heap[w.heap.size+1+1+1]? =some (.cells #[.slice (some ⟨w.heap.size+1+1,0,none⟩) 1 1] 43 (0,0)):=zB (zI (by simp))
 have h3:(((((w.alloc (.cells #[.int .i64 tk,.int .i64 ta,.slice ea eds.length ec] 47)).alloc (.cells #[.slice (some ⟨w.heap.size+1+1+1,0,none⟩) 1 1,.slice (some ⟨w.heap.size+1+1+1+1,0,none⟩) 1 1,.int .i64 0,.int .i64 (-1),.slice none 0 0,.slice none 0 0] 29)).alloc (.cells #[.slice none 0 0,.slice oa ops.length oc,.int .i64 tk,.int .i64 ta,.slice ea eds.length ec] 49)).alloc (.cells #[.slice (some ⟨w.heap.size+1+1,0,none⟩) 1 1] 43)).alloc (.cells #[.int .i64 0] 3)).heap[w.heap.size+1+1+1+1]? =some (.cells #[.int .i64 0] 3 (0,0)):=zI (by simp)
 refine bodyPost_ret (v:=.agg #[.slice (some ⟨w.heap.size+1+1+1,0,none⟩) 1 1,.slice (some ⟨w.heap.size+1+1+1+1,0,none⟩) 1 1,.int .i64 0,.int .i64 (-1),.slice none 0 0,.slice none 0 0]) ?_ rfl ?_
 ·rw[zM rfl]
  go_simp
 ·generalize hW:((((w.alloc (.cells #[.int .i64 tk,.int .i64 ta,.slice ea eds.length ec] 47)).alloc (.cells #[.slice (some ⟨w.heap.size+1+1+1,0,none⟩) 1 1,.slice (some ⟨w.heap.size+1+1+1+1,0,none⟩) 1 1,.int .i64 0,.int .i64 (-1),.slice none 0 0,.slice none 0 0] 29)).alloc (.cells #[.slice none 0 0,.slice oa ops.length oc,.int .i64 tk,.int .i64 ta,.slice ea eds.length ec] 49)).alloc (.cells #[.slice (some ⟨w.heap.size+1+1,0,none⟩) 1 1] 43)).alloc (.cells #[.int .i64 0] 3)=W at *
  have hsz:=lt_of_block h3
  have hE:=(HTO.out.2.1.below xL hb).mono xL hb.size
  have hO:=(HTO.out.2.2.below xA hb).mono xA hb.size
  refine⟨⟨.slice (some ⟨w.heap.size+1+1+1,0,none⟩) 1 1,.slice (some ⟨w.heap.size+1+1+1+1,0,none⟩) 1 1,.slice none 0 0,.slice none 0 0⟩,rfl,⟨?_,?_,yN.nil,yN.nil,pZ,i64_neg⟩,hb⟩
  ·refine yN.one (by omega) ⟨.slice (some ⟨w.heap.size+1+1,0,none⟩) 1 1,zA h2 (by simp),yN.one (by omega) ?_⟩
   exact⟨zA h1 (by simp),zA h1 (by simp),HTO.out.1,.slice none 0 0,.slice oa ops.length oc,.slice ea eds.length ec,zA h1 (by simp),zA h1 (by simp),zA h1 (by simp),yN.nil,hO,hE⟩
  ·exact yN.one (by omega) ⟨zA h3 (by simp),⟨by decide,by decide⟩⟩
open Go.RowKit
theorem uB {α:Type}(f:α->List Value)(n:Nat)(hf:∀a,(f a).length=n):∀(l:List α) (k:Nat) (a:α),l[k]? =some a->∀j,j<n->(l.flatMap f)[k*n+j]? =(f a)[j]?
 | [],k,a,hk,_,_=>by simp at hk
 |x::l,0,a,hk,j,hj=>by
  cases hk
  rw[List.flatMap_cons,Nat.zero_mul,Nat.zero_add,List.getElem?_append_left (by rw[hf];exact hj)]
 |x::l,k+1,a,hk,j,hj=>by
  rw[List.flatMap_cons,List.getElem?_append_right (by rw[hf,Nat.add_mul];omega),hf]
  have e:(k+1)*n+j-n=k*n+j:=by rw[Nat.add_mul];omega
  rw[e]
  exact uB f n hf l k a (by simpa using hk) j hj
theorem oW {α:Type}{f:α->List Value}{n:Nat}(hf:∀a,(f a).length=n){w:World}{b:Nat}{l:List α}{e:TypeId}(h:w.heap[b]? =some (.cells (l.flatMap f).toArray e (0,0))){k:Nat}{a:α}(hk:l[k]? =some a){j:Nat}{v:Value}(hj:(f a)[j]? =some v):
 w.cell? ⟨b,0+k*n+j,none⟩=some v:=by
 refine zA h ?_
 have hjn:j<n:=by rw[<-hf a];exact(List.getElem?_eq_some_iff.1 hj).1
 rw[Nat.zero_add,List.getElem?_toArray,uB f n hf l k a hk j hjn]
 exact hj
def zU (q:IOp×Value):List Value:=[.int .i64 q.1.code,.int .i64 q.1.res,.int .i64 q.1.a,.int .i64 q.1.b,.int .u16 (q.1.n:Int),q.2]
theorem ops_lit {w:World}{B b:Nat}{l:List (IOp×Value)}{e:TypeId}(h:w.heap[b]? =some (.cells (l.flatMap zU).toArray e (0,0)))(hb:b<B)(h64:∀q∈l,qN q.1/\zY w B q.2 q.1.args)(hl:l.length<=1000000):
 mN w B (.slice (some ⟨b,0,none⟩) l.length l.length) (l.map (·.1)):=by
 refine⟨_,l.length,by rw[List.length_map],by rw[List.length_map];exact Nat.le_refl _,by omega,fun k o hk=>?_⟩
 rw[List.getElem?_map,Option.map_eq_some_iff] at hk
 obtain⟨q,hq,rfl⟩:=hk
 have hc:=fun j v (hj:(zU q)[j]? =some v)=>oW (f:=zU) (n:=6) (fun _=>rfl) h hq hj
 obtain⟨h1,h2⟩:=h64 q (List.mem_of_getElem? hq)
 exact⟨b,0,rfl,hb,hc 0 _ rfl,hc 1 _ rfl,hc 2 _ rfl,hc 3 _ rfl,hc 4 _ rfl,h1,q.2,hc 5 _ rfl,h2⟩
def za (q:IEdge×Value):List Value:=[.int .i64 q.1.block,q.2]
structure BlkLit where
 b:IBlk
 pv:Value
 ov:Value
 tv:Value
theorem one_lit {α:Type}{R:World->Nat->Nat->Nat->α->Prop}{w:World}{B b:Nat}{vs:List Value}{xs:List α}{e:TypeId}(h:w.heap[b]? =some (.cells vs.toArray e (0,0)))(hb:b<B)(hn:vs.length=xs.length)(hl:xs.length<=1000000)
 (hR:∀(k:Nat) (v:Value) (x:α),vs[k]? =some v->xs[k]? =some x->w.cell? ⟨b,k,none⟩=some v->R w B b k x):yN 1 R w B (.slice (some ⟨b,0,none⟩) xs.length xs.length) xs:=by
 refine⟨_,xs.length,rfl,Nat.le_refl _,by omega,fun k x hk=>⟨b,0,rfl,hb,?_⟩⟩
 obtain⟨v,hv⟩:∃v,vs[k]? =some v:=⟨_,List.getElem?_eq_getElem (by rw[hn];exact(List.getElem?_eq_some_iff.1 hk).1)⟩
 rw[Nat.zero_add,Nat.mul_one]
 exact hR k v x hv hk (zA h (by simpa using hv))
theorem u16s_lit {w:World}{B b:Nat}{xs:List Nat}{e:TypeId}(h:w.heap[b]? =some (.cells (xs.map fun(x:Nat)=>Value.int .u16 (x:Int)).toArray e (0,0)))(hb:b<B)(h64:∀x∈xs,x<65536)(hl:xs.length<=1000000):wV w B (.slice (some ⟨b,0,none⟩) xs.length xs.length) xs:=
 one_lit h hb (by simp) hl (fun k v x hv hx hc=>by
  rw[List.getElem?_map,hx] at hv
  cases hv
  exact⟨hc,h64 x (List.mem_of_getElem? hx)⟩)
def RetProgO (w:World)(p:IProg)(e:Ending)(w':World):Prop:=
 ∃f1 f2 a1 a2 d1 d2 b1 b2,e=.returned (.agg #[.slice f1 p.funcs.length f2,.slice a1 p.args.length a2,.int .i64 p.entry,.int .i64 p.handler,.slice d1 p.data.length d2,.slice b1 p.banks.length b2])/\
  ProgIn w' w'.heap.size ⟨.slice f1 p.funcs.length f2,.slice a1 p.args.length a2,.slice d1 p.data.length d2,.slice b1 p.banks.length b2⟩ p/\Below w.heap.size w w'
theorem mL.open {w:World}{p:IProg}{e:Ending}{w':World}(h:mL w p e w'):RetProgO w p e w':=by
 obtain⟨⟨Vf,Va,Vd,Vb⟩,rfl,hp,hb⟩:=h
 obtain⟨f1,f2,e1,_,_⟩:=hp.funcs.form
 obtain⟨a1,a2,e2,_,_⟩:=hp.args.form
 obtain⟨d1,d2,e3,_,_⟩:=hp.data.form
 obtain⟨b1,b2,e4,_,_⟩:=hp.banks.form
 simp only at e1 e2 e3 e4
 subst e1 e2 e3 e4
 exact⟨f1,f2,a1,a2,d1,d2,b1,b2,rfl,hp,hb⟩
def RetRunO (w:World)(R:IRun)(e:Ending)(w':World):Prop:=
 ∃oa oc,e=.returned (.agg #[.int .u16 (R.value:Int),.slice oa R.out.length oc,.int .i64 (R.kind:Int),.int .u16 (R.info:Int),.string (y9 R.ram),.int .i64 (R.inputs:Int),.int .i64 (R.polls:Int)])/\vM w' w'.heap.size (.slice oa R.out.length oc) R.out/\Below w.heap.size w w'
theorem rf.open {w:World}{R:IRun}{e:Ending}{w':World}(h:rf w R e w'):RetRunO w R e w':=by
 obtain⟨ov,rfl,ho,hb⟩:=h
 obtain⟨oa,oc,rfl,_,_⟩:=ho.form
 exact⟨oa,oc,rfl,ho,hb⟩
theorem uL {t:ITerm}{ops:List IOp}(h1:ops.length<=2000000)(h2:t.to.length<=2000000):mW (rd t ops):=by
 intro f hf
 simp only[rd,List.mem_singleton] at hf
 subst hf
 refine⟨⟨by simp,fun b hb=>?_⟩,fun b hb=>?_⟩
 ·rw[List.mem_singleton] at hb;subst hb;exact⟨by simp,h1,h2⟩
 ·rw[List.mem_singleton] at hb;subst hb;simp
end Go.Proofs.Ytojclalkfhoooaa
set_option maxRecDepth 100000
namespace Go.Proofs.Ytojclalkfhoooaa
open Go.ChangeShapes Go.WideShapes Go.ChangeAt Go.RowKit
theorem jd {w:World}{a:Addr}{v:Value}(h:w.cell? a=some v):a.spot=none:=by
 unfold World.cell? at h
 split at h
 ·split at h
  ·simp at h
  ·rename_i h2;simpa using h2
 ·simp at h
theorem kc (b o k:Nat):(⟨b,o,none⟩:Addr).add k=⟨b,o+k,none⟩:=by
 unfold Addr.add;split
 ·rename_i h;subst h;rfl
 ·rfl
theorem nums_at {α:Type}{P:Program}{H:Type}{enc:TypeId×Value->H}{W:World}{fuel:Nat}{u:Value}{x:DataW H×List MemPlace}{t e:TypeId}{q:IntKind}(ht:P.underlying t=some (.slice e))(he:P.underlying e=some (.int q))(c1:P.cellsOf e=1)
 (R:World->Nat->Nat->Nat->α->Prop) (dec:Int->α) (hR:∀b o z,(Lit.int q z).wf=true->W.cell? ⟨b,o,none⟩=some (.int q z)->R W W.heap.size b o (dec z))
 (hf:DataW.trod enc P W 0 (fun _=>true) true fuel t [u]=some x):∃row:List α,yN 1 R W W.heap.size u row:=by
 rcases open_ints ht he c1 hf with⟨h1,_⟩|⟨a,len,cap,zs,h1,hb,hl,hm,hz,_,hcell,hwf⟩
 ·simp at h1;subst h1
  exact⟨[],yN.nil⟩
 ·simp at h1;subst h1
  simp only[if_true] at hz
  refine⟨(zs.take len).map dec,some a,cap,by simp[hz,Nat.min_eq_left hl],by simp[hz];omega,by unfold maxLen at hm;omega,fun k y hk=>?_⟩
  have hkl:=(List.getElem?_eq_some_iff.1 hk).1
  simp[hz] at hkl
  rw[List.getElem?_map,List.getElem?_take,if_pos (by omega),List.getElem?_eq_getElem (by omega)] at hk
  have hkx:=Option.some.inj hk
  have h4:=hcell k (by omega)
  have hs:=jd (hcell 0 (by omega))
  have ha:a=⟨a.block,a.off,none⟩:=by
   cases a;simp[Addr.add] at hs;simp[hs]
  rw[ha,kc] at h4
  rw[List.getD_eq_getElem?_getD,List.getElem?_eq_getElem (by omega),Option.getD_some] at h4
  refine⟨a.block,a.off,by rw[<-ha],jU h4,?_⟩
  rw[<-hkx,Nat.mul_one]
  exact hR _ _ _ (hwf _ (List.getElem_mem (by omega))) h4
section
variable {H:Type} {enc:TypeId×Value->H} {W:World} {fuel:Nat} {u:Value} {x:DataW H×List MemPlace}
theorem iR (hf:DataW.trod enc Try.prog W 0 (fun _=>true) true fuel 22 [u]=some x):∃row:List Int,zY W W.heap.size u row:=
 nums_at Try.underlying22 Try.underlying3 (by kernel_rfl) IntR id (fun b o z hz hc=>⟨hc,by unfold I64;simpa[Lit.wf,IntKind.min,IntKind.max,IntKind.signed,IntKind.bits] using hz⟩) hf
end
section
variable {H:Type} {enc:TypeId×Value->H} {W:World} {v:Value} {d:DataW H} {p:List MemPlace} {r:Go.Reach} {base:Nat}
theorem iX (hv:Value.okWide Try.prog W r base 22 v)(h0:DataW.Trod enc Try.prog W 0 (fun _=>true) true 22 v d p):∃row:List Int,zY W W.heap.size v row:=by
 obtain⟨a0,len0,cap0,rfl⟩:=okWide_slice Try.underlying22 hv
 obtain⟨fuel,hf⟩:=h0
 exact iR hf
end
end Go.Proofs.Ytojclalkfhoooaa
