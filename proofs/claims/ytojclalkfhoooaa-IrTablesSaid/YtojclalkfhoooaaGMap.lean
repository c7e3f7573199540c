/- Part of a proof. -/
import Derived.Test.YtojclalkfhoooaaRows
import Derived.WalkKit
import Derived.WalkSpells
import Derived.Deep.QuietTactic
import Derived.BigQuiet
import Derived.Outline
import Derived.Deep.AppendLies
import Derived.Maps.AppendAt
import Derived.Deep.DeepMust
import Derived.Deep.LoopGhost
import Derived.Deep.DeepCutAuto
import Derived.Deep.RegionHeld3
import Derived.Deep.RegionLaw
import Derived.Deep.CutBlock
import Derived.Lib.Hide
import Derived.Test.YtojclalkfhoooaaMath
import Derived.BigRegion
import Derived.Maps.OwnSet
import Derived.Maps.OwnOps
set_option linter.unusedSimpArgs false
set_option linter.unusedVariables false
set_option maxHeartbeats 1600000
namespace Go.Proofs.Ytojclalkfhoooaa
open Go.RowKit
def xp {α:Type}(enc:α->Value)(w:World)(B:Nat)(v:Value)(xs:List α):Prop:=
 ∃(a:Option Addr) (cap:Nat),v=.slice a xs.length cap/\xs.length<=cap/\∀(k:Nat) (x:α),xs[k]? =some x->∃b o,a=some ⟨b,o,none⟩/\b<B/\w.cell? ⟨b,o+k,none⟩=some (enc x)
def zN (n:Int):Value:=.int .i64 n
def zj (n:Nat):Value:=.int .i64 (n:Int)
def uo (b:Bool):Value:=.bool b
theorem xp.below {α:Type}{enc:α->Value}{w w':World}{B:Nat}{v:Value}{xs:List α}(h:xp enc w B v xs)(hb:Below B w w'):xp enc w' B v xs:=by
 obtain⟨a,cap,rfl,hcap,h⟩:=h
 refine⟨a,cap,rfl,hcap,fun k x hk=>?_⟩
 obtain⟨b,o,ha,hB,hc⟩:=h k x hk
 exact⟨b,o,ha,hB,(hb.cell (p:=⟨b,o+k,none⟩) hB).trans hc⟩
theorem xp.mono {α:Type}{enc:α->Value}{w:World}{B B':Nat}{v:Value}{xs:List α}(h:xp enc w B v xs)(hb:B<=B'):xp enc w B' v xs:=by
 obtain⟨a,cap,rfl,hcap,h⟩:=h
 refine⟨a,cap,rfl,hcap,fun k x hk=>?_⟩
 obtain⟨b,o,ha,hB,hc⟩:=h k x hk
 exact⟨b,o,ha,by omega,hc⟩
theorem xp.map {α β:Type}{enc:α->Value}{enc':β->Value}(f:β->α)(hf:∀x,enc (f x)=enc' x){w:World}{B:Nat}{v:Value}{xs:List β}:
 xp enc w B v (xs.map f)↔xp enc' w B v xs:=by
 constructor
 ·rintro⟨a,cap,rfl,hcap,h⟩
  refine⟨a,cap,by simp,by simpa using hcap,fun k x hk=>?_⟩
  have:=h k (f x) (by simp[hk])
  rwa [hf] at this
 ·rintro⟨a,cap,rfl,hcap,h⟩
  refine⟨a,cap,by simp,by simpa using hcap,fun k x hk=>?_⟩
  simp only[List.getElem?_map,Option.map_eq_some_iff] at hk
  obtain⟨y,hy,rfl⟩:=hk
  rw[hf]
  exact h k y hy
def y7 {α:Type}(enc:α->Value)(w:World)(B:Nat)(v:Value)(g:List (List α)):Prop:=
 ∃vs:List Value,xp id w B v vs/\vs.length=g.length/\∀(k:Nat) (rv:Value) (row:List α),vs[k]? =some rv->g[k]? =some row->xp enc w B rv row
theorem y7.below {α:Type}{enc:α->Value}{w w':World}{B:Nat}{v:Value}{g:List (List α)}(h:y7 enc w B v g)(hb:Below B w w'):y7 enc w' B v g:=by
 obtain⟨vs,h1,h2,h3⟩:=h
 exact⟨vs,h1.below hb,h2,fun k rv row a b=>(h3 k rv row a b).below hb⟩
theorem y7.mono {α:Type}{enc:α->Value}{w:World}{B B':Nat}{v:Value}{g:List (List α)}(h:y7 enc w B v g)(hb:B<=B'):y7 enc w B' v g:=by
 obtain⟨vs,h1,h2,h3⟩:=h
 exact⟨vs,h1.mono hb,h2,fun k rv row a b=>(h3 k rv row a b).mono hb⟩
theorem y7.form {α:Type}{enc:α->Value}{w:World}{B:Nat}{v:Value}{g:List (List α)}(h:y7 enc w B v g):∃a cap,v=.slice a g.length cap/\g.length<=cap:=by
 obtain⟨vs,⟨a,cap,rfl,hc,_⟩,h2,_⟩:=h
 exact⟨a,cap,by rw[h2],by omega⟩
theorem y7.row {α:Type}{enc:α->Value}{w:World}{B:Nat}{a:Option Addr}{len cap:Nat}{g:List (List α)}(h:y7 enc w B (.slice a len cap) g){k:Nat}{row:List α}(hk:g[k]? =some row):
 ∃b o a2 cap2,a=some ⟨b,o,none⟩/\b<B/\w.cell? ⟨b,o+k,none⟩=some (.slice a2 row.length cap2)/\row.length<=cap2/\∀j x,row[j]? =some x->∃b2 o2,a2=some ⟨b2,o2,none⟩/\b2<B/\w.cell? ⟨b2,o2+j,none⟩=some (enc x):=by
 obtain⟨vs,⟨a',cap',hv,_,hx⟩,h2,h3⟩:=h
 cases hv
 have hlt:k<vs.length:=by rw[h2];exact(List.getElem?_eq_some_iff.1 hk).1
 obtain⟨b,o,ha,hB,hc⟩:=hx k _ (List.getElem?_eq_getElem hlt)
 obtain⟨a2,cap2,hv2,hcap2,hx2⟩:=h3 k _ row (List.getElem?_eq_getElem hlt) hk
 refine⟨b,o,a2,cap2,ha,hB,?_,hcap2,hx2⟩
 rw[hc,<-hv2];rfl
theorem y7.map {α β:Type}{enc:α->Value}{enc':β->Value}(f:β->α)(hf:∀x,enc (f x)=enc' x){w:World}{B:Nat}{v:Value}{g:List (List β)}:
 y7 enc w B v (g.map (List.map f))↔y7 enc' w B v g:=by
 constructor
 ·rintro⟨vs,h1,h2,h3⟩
  exact⟨vs,h1,by simpa using h2,fun k rv row a b=>(xp.map f hf).1 (h3 k rv _ a (by simp[b]))⟩
 ·rintro⟨vs,h1,h2,h3⟩
  refine⟨vs,h1,by simpa using h2,fun k rv row a b=>?_⟩
  simp only[List.getElem?_map,Option.map_eq_some_iff] at b
  obtain⟨y,hy,rfl⟩:=b
  exact(xp.map f hf).2 (h3 k rv y a hy)
theorem zI {W:World}{o:Obj}{B:Nat}(h:W.heap.size=B):(W.alloc o).heap[B]? =some o:=by subst h;exact heap_alloc_new W o
theorem zB {W:World}{o o':Obj}{b:Nat}(h:W.heap[b]? =some o'):(W.alloc o).heap[b]? =some o':=(Below.heap_alloc W o b (lt_of_block h)).trans h
theorem zL {W w1:World}{row:Option Nat}{b:Nat}{o:Obj}(hg:W.grownBy w1 row)(hk:W.heap[b]? =some o)(hne:row≠some b):w1.heap[b]? =some o:=(hg.block b (lt_of_block hk) (Ne.symm hne)).trans hk
theorem zR {W:World}{b:Nat}{a:Addr}{u:Value}{o:Obj}(h:W.heap[b]? =some o)(hne:b≠a.block):(W.setCell a u).heap[b]? =some o:=(Below.heap_setCell _ _ _ _ hne).trans h
theorem zH {B:Nat}{W W':World}{b:Nat}{o:Obj}(hb:Below B W W')(h:W.heap[b]? =some o)(hlt:b<B):W'.heap[b]? =some o:=(hb.block b hlt).trans h
theorem zC {w:World}{base b:Nat}{e t:TypeId}{size n:Nat}{v:Value}{xs:List Value}{cs:Array Value}(h:w.ownsRow base e size v n xs)(hb:w.heap[b]? =some (.cells cs t (0,0)))(hne:b<base∨e≠t):v.ownBlock≠some b:=by
 rcases h.2 with⟨rfl,_⟩|⟨g,cap,cur,rfl,hg,hh,_⟩
 ·simp[Value.ownBlock]
 ·simp only[Value.ownBlock,ne_eq,Option.some.injEq]
  rintro rfl
  rw[hh] at hb
  rcases hne with hne|hne
  ·omega
  ·exact hne (by simpa using congrArg (fun o=>match o with|some (Obj.cells _ t _)=>t|_=>0) hb)
theorem zo {w:World}{base base':Nat}{e e':TypeId}{size size' n n':Nat}{v v':Value}{xs xs':List Value}(h:w.ownsRow base e size v n xs)(h':w.ownsRow base' e' size' v' n' xs')(hne:e≠e'):v.ownBlock=none∨v.ownBlock≠v'.ownBlock:=by
 rcases h.2 with⟨rfl,_⟩|⟨g,cap,cur,rfl,hg,hh,_⟩
 ·exact .inl rfl
 ·right
  intro e1
  exact zC h' hh (.inr (Ne.symm hne)) e1.symm
theorem zD {w:World}{b i:Nat}{cs:Array Value}{t:TypeId}(h:w.heap[b]? =some (.cells cs t (0,0)))(u:Value):(w.setCell ⟨b,i,none⟩ u).heap[b]? =some (.cells (cs.setIfInBounds i u) t (0,0)):=by
 have hlt:=lt_of_block h
 have h':w.heap[b]=.cells cs t (0,0):=by simpa[Array.getElem?_eq_getElem hlt] using h
 show(w.heap.modify b _)[b]? =_
 rw[Array.getElem?_eq_getElem (by simpa using hlt),Array.getElem_modify_self,h']
 rfl
theorem zA {w:World}{b i:Nat}{cs:Array Value}{t:TypeId}{v:Value}(h:w.heap[b]? =some (.cells cs t (0,0)))(hi:cs[i]? =some v):w.cell? ⟨b,i,none⟩=some v:=by simp[World.cell?,h,hi]
theorem zE {w:World}{b i:Nat}{cs:Array Value}{t:TypeId}(h:w.heap[b]? =some (.cells cs t (0,0))):w.frozen? ⟨b,i,none⟩=false:=by simp[World.frozen?,h]
theorem vY {w:World}{base base':Nat}{e:TypeId}{size n:Nat}{v:Value}{xs:List Value}(h:w.ownsRow base e size v n xs)(hb:base'<=base):w.ownsRow base' e size v n xs:=by
 refine⟨h.1,?_⟩
 rcases h.2 with h2|⟨g,cap,cur,rfl,hg,r⟩
 ·exact .inl h2
 ·exact .inr ⟨g,cap,cur,rfl,by omega,r⟩
theorem zG {w:World}{base:Nat}{e:TypeId}{size n:Nat}{v:Value}{xs:List Value}(h:w.ownsRow base e size v n xs):∃a cap,v=.slice a n cap:=by
 rcases h.2 with⟨rfl,rfl⟩|⟨g,cap,cur,rfl,_⟩
 ·exact⟨none,0,rfl⟩
 ·exact⟨_,cap,rfl⟩
theorem zm {w:World}{base:Nat}{e:TypeId}{size n m cap:Nat}{a:Option Addr}{xs:List Value}(h:w.ownsRow base e size (.slice a m cap) n xs):m<=cap/\cap<=9223372036854775807:=by
 rcases h.2 with⟨hv,_⟩|⟨g,c,cur,hv,_,_,h1,h2,_⟩
 ·cases hv;omega
 ·cases hv;unfold maxLen at h2;omega
theorem ji {w:World}{base:Nat}{e:TypeId}{size n k:Nat}{v:Value}{xs:List Value}(h:w.ownsRow base e size v n xs):(w.drewN k).ownsRow base e size v n xs:=h
theorem kg {w:World}{b k:Nat}{o:Option Obj}(h:w.heap[b]? =o):(w.drewN k).heap[b]? =o:=h
theorem yC {B k:Nat}{w w':World}(h:Below B w w'):Below B w (w'.drewN k):=⟨h.os,h.tape,h.output,h.size,h.block⟩
theorem sx {w:World}{b:Nat}{v v':Value}{t t':TypeId}(h:w.heap[b]? =some (.cells #[v] t (0,0)))(h':w.heap[b]? =some (.cells #[v'] t' (0,0))):v=v':=by
 rw[h] at h';simp only[Option.some.injEq,Obj.cells.injEq] at h';simpa using h'.1
theorem nJ {W W':World}{row:Option Nat}(h:W.grownBy W' row):W.grownBy W'.drew row:=⟨h.os,h.tape,h.output,h.size,h.block⟩
theorem oI (W:World)(row:Option Nat):W.grownBy W row:=⟨rfl,rfl,rfl,Nat.le_refl _,fun _ _ _=>rfl⟩
theorem yL (B:Nat)(w:World)(n:Nat):Below B w (w.drewN n):=⟨rfl,rfl,rfl,Nat.le_refl _,fun _ _=>rfl⟩
theorem jU {w:World}{b o:Nat}{v:Value}(h:w.cell? ⟨b,o,none⟩=some v):b<w.heap.size:=World.block_lt_of_cell? w _ h
theorem bcell {W w1:World}(hb:Below W.heap.size W w1):(∀b o,b<W.heap.size->w1.cell? ⟨b,o,none⟩=W.cell? ⟨b,o,none⟩)/\(∀b o,b<W.heap.size->w1.frozen? ⟨b,o,none⟩=W.frozen? ⟨b,o,none⟩):=
 ⟨fun b o h=>hb.cell (p:=⟨b,o,none⟩) h,fun b o h=>hb.frozen (p:=⟨b,o,none⟩) h⟩
theorem zh {k:IntKind}{a b:Int}(h:a=b):Ending.returned (.int k a)=.returned (.int k b):=by rw[h]
theorem rH {a b:Bool}(h:a=b):Ending.returned (.bool a)=.returned (.bool b):=by rw[h]
open Go.RowKit
def okS (n:Nat)(s:Int):Bool:=decide (0<=s) && decide (s<(n:Int))
theorem tm {α:Type}(p:α->Bool)(l:List α)(k:Nat)(x:α)(h:l[k]? =some x)(hp:(l.take k).all p=true)(hx:p x=true):(l.take (k+1)).all p=true:=by
 rw[List.take_add_one,h];simp[hp,hx]
theorem vU {α:Type}(p:α->Bool)(l:List α)(k:Nat)(x:α)(h:l[k]? =some x)(hx:p x=false):l.all p=false:=by
 rw[List.all_eq_false];exact⟨x,List.mem_of_getElem? h,by simp[hx]⟩
theorem lR (w:World)(sv:Value)(g:List (List Int))(B:Nat)(hB:B<=w.heap.size)(h:y7 zN w B sv g)(hn:g.length<=2000000)(hr:∀row∈g,row.length<=2000000):
 Calls Try.prog 100 #[.agg #[sv]] w fun e w'=>e=.returned (.bool (decide (0<g.length) && pB g))/\Below w.heap.size w w':=by
 obtain⟨a,cap,rfl,hcap⟩:=h.form
 have HR:=Lib.hid hr;clear hr
 have hbel:Below w.heap.size w (w.alloc (.cells #[.slice a g.length cap] 93)):=(Below.refl _ _).alloc (Nat.le_refl _) _
 go_enter Try.func100,Try.ntmps100
 go_wp2
 go_loop [10] (fun i=>∃k:Nat,k<=g.length/\i=.int .i64 k/\(g.take k).all (fun l=>l.all (okS g.length))=true) (fun i=>g.length-(intOf i).toNat)
 case atStart=>exact⟨0,Nat.zero_le _,rfl,by simp⟩
 case round=>
  obtain⟨k,hk,rfl,hall⟩:=hrel
  have HA:=Lib.hid hall;clear hall
  by_cases hlt:k<g.length
  ·obtain⟨row,hrow⟩:∃row,g[k]? =some row:=⟨_,List.getElem?_eq_getElem hlt⟩
   obtain⟨b,o,a2,cap2,rfl,hb,hc,hcap2,hx⟩:=h.row hrow
   have hrl:=HR.out row (List.mem_of_getElem? hrow)
   have hc1:(w.alloc (.cells #[.slice (some ⟨b,o,none⟩) g.length cap] 93)).cell? ⟨b,o+k,none⟩=some (.slice a2 row.length cap2):=(hbel.cell (p:=⟨b,o+k,none⟩) (show b<w.heap.size by omega)).trans hc
   have HROW:=Lib.hid hrow;clear hrow
   have HX:=Lib.hid hx;clear hx h hc
   have hlt1:(k:Int)<g.length:=by omega
   go_wp2
   go_loop [16] (fun i=>∃j:Nat,j<=row.length/\i=.int .i64 j/\(row.take j).all (okS g.length)=true) (fun i=>row.length-(intOf i).toNat)
   case atStart=>exact⟨0,Nat.zero_le _,rfl,by simp⟩
   case round=>
    obtain⟨j,hj,rfl,hall2⟩:=hrel
    have HA2:=Lib.hid hall2;clear hall2
    by_cases hlt2:j<row.length
    ·obtain⟨x,hxj⟩:∃x,row[j]? =some x:=⟨_,List.getElem?_eq_getElem hlt2⟩
     obtain⟨b2,o2,rfl,hb2,hc2⟩:=HX.out j x hxj
     simp only[zN] at hc2
     have hc3:(w.alloc (.cells #[.slice (some ⟨b,o,none⟩) g.length cap] 93)).cell? ⟨b2,o2+j,none⟩=some (.int .i64 x):=(hbel.cell (p:=⟨b2,o2+j,none⟩) (show b2<w.heap.size by omega)).trans hc2
     have HXJ:=Lib.hid hxj;clear hxj hc2
     have hlt3:(j:Int)<row.length:=by omega
     by_cases hx0:x<0
     ·have hf:pB g=false:=vU _ g k row HROW.out (vU _ row j x HXJ.out (by simp[okS];omega))
      have HF:=Lib.hid hf;clear hf
      go_wp2
      go_ret
      exact⟨by rw[HF.out];simp,hbel⟩
     ·by_cases hx1:x<g.length
      ·go_wp2
       go_round
       case rel=>exact⟨j+1,by omega,by go_num,tm _ row j x HXJ.out HA2.out (by simp[okS];omega)⟩
       case measure=>simp[intOf];omega
      ·have hf:pB g=false:=vU _ g k row HROW.out (vU _ row j x HXJ.out (by simp[okS];omega))
       have HF:=Lib.hid hf;clear hf
       go_wp2
       go_ret
       exact⟨by rw[HF.out];simp,hbel⟩
    ·go_wp2
     go_round
     case rel=>exact⟨k+1,by omega,by go_num,tm _ g k row HROW.out HA.out (by have:=HA2.out;rwa [List.take_of_length_le (by omega)] at this)⟩
     case measure=>simp[intOf];omega
  ·have hf:pB g=true:=by have:=HA.out;rwa [List.take_of_length_le (by omega)] at this
   have HF:=Lib.hid hf;clear hf
   go_wp2
   go_ret
   exact⟨by rw[HF.out];simp,hbel⟩
open Go.RowKit
def um (stk:List (Nat×Nat)):List Value:=stk.flatMap fun p=> [zj p.1,zj p.2]
theorem vH (stk:List (Nat×Nat))(u j:Nat):um (stk++ [(u,j)])=um stk++ [zj u,zj j]:=by simp[um]
theorem yK (stk:List (Nat×Nat)):(um stk).length=2*stk.length:=by
 induction stk with
 |nil=>rfl
 |cons p r ih=>simp only[um,List.flatMap_cons,List.length_append,List.length_cons,List.length_nil] at ih ⊢;omega
structure Dfs (w0 w:World) (B0 n Bv Bs Bk:Nat) (seen:List Bool) (stk:List (Nat×Nat)) (pv:Value) (post:List Nat):Prop where
 hv:w.heap[Bv]? =some (.cells #[.slice (some ⟨Bs,0,none⟩) n n] 141 (0,0))
 hs:w.heap[Bs]? =some (.cells (seen.map uo).toArray 4 (0,0))
 hl:seen.length=n
 hk:∃sv,w.heap[Bk]? =some (.cells #[sv] 163 (0,0))/\w.ownsRow (Bk+1) 165 2 sv stk.length (um stk)
 lt:B0<=Bs/\Bs<Bv/\Bv<Bk
 hp:w.ownsRow (Bk+1) 3 1 pv post.length (post.map zj)
 hb:Below B0 w0 w
theorem Dfs.drewN {w0 w:World}{B0 n Bv Bs Bk k:Nat}{seen:List Bool}{stk:List (Nat×Nat)}{pv:Value}{post:List Nat}(h:Dfs w0 w B0 n Bv Bs Bk seen stk pv post):Dfs w0 (w.drewN k) B0 n Bv Bs Bk seen stk pv post:=
 ⟨h.hv,h.hs,h.hl,h.hk,h.lt,h.hp,yC h.hb⟩
theorem Dfs.push {w0 w w2:World}{B0 n Bv Bs Bk u:Nat}{seen:List Bool}{stk:List (Nat×Nat)}{pv pv':Value}{post:List Nat}{o:Obj}(h:Dfs w0 w B0 n Bv Bs Bk seen stk pv post)
 (hg:(w.alloc o).grownBy w2 pv.ownBlock) (hown:w2.ownsRow (Bk+1) 3 1 pv' (post.length+1) (post.map zj++ [zj u])):Dfs w0 w2 B0 n Bv Bs Bk seen stk pv' (post++ [u]):=by
 obtain⟨hv,hs,hl,⟨sv,hk,hst⟩,hlt,hp,hb⟩:=h
 have hB:=lt_of_block hk
 refine⟨zL hg (zB hv) (zC hp hv (.inl (by omega))),zL hg (zB hs) (zC hp hs (.inl (by omega))),hl,
  ⟨sv,zL hg (zB hk) (zC hp hk (.inl (by omega))),(hst.alloc o).kept hg (zo hst hp (by decide))⟩,hlt,?_,?_⟩
 ·simpa using hown
 ·exact Below.grown (hb.alloc (by omega) o) hg (by simp;omega) (fun k hk'=>by have:=hp.lt k hk';omega)
theorem Dfs.popStk {w0 w:World}{B0 n Bv Bs Bk u j gk cp:Nat}{seen:List Bool}{st:List (Nat×Nat)}{pv:Value}{post:List Nat}(h:Dfs w0 w B0 n Bv Bs Bk seen (st++ [(u,j)]) pv post)
 (hc:w.heap[Bk]? =some (.cells #[.slice (some ⟨gk,0,none⟩) (st.length+1) cp] 163 (0,0))):Dfs w0 (w.setCell ⟨Bk,0,none⟩ (.slice (some ⟨gk,0,none⟩) st.length cp)) B0 n Bv Bs Bk seen st pv post:=by
 obtain⟨hv,hs,hl,⟨sv,hk,hst⟩,hlt,hp,hb⟩:=h
 obtain rfl:=sx hk hc
 simp only[List.length_append,List.length_cons,List.length_nil,Nat.zero_add,vH] at hst
 refine⟨zR hv (show Bv≠Bk by omega),zR hs (show Bs≠Bk by omega),hl,⟨_,one_setCell hk,?_⟩,hlt,ownsRow_setCell_other hp (zC (b:=Bk) hp hk (.inl (by omega))) _,hb.setCell (show B0<=Bk by omega) _⟩
 have h1:=ownsRow_setCell_other hst (a:=⟨Bk,0,none⟩) (zC (b:=Bk) hst hk (.inl (by omega))) (.slice (some ⟨gk,0,none⟩) st.length cp)
 obtain⟨hlen,hh⟩:=h1
 refine⟨by rw[yK];omega,.inr ?_⟩
 rcases hh with⟨hn,_⟩|⟨g',cap',cur,hv',hg',hh',hle,hcm,hcs,htake⟩
 ·cases hn
 ·cases hv'
  refine⟨gk,cp,cur,rfl,hg',hh',by omega,hcm,hcs,?_⟩
  have:=congrArg (List.take (st.length*2)) htake
  rw[List.take_take,Nat.min_eq_left (by omega),List.take_append_of_le_length (by rw[yK];omega),List.take_of_length_le (l:=um st) (by rw[yK];omega)] at this
  exact this
theorem Dfs.bump {w0 w:World}{B0 n Bv Bs Bk u j gk cp:Nat}{seen:List Bool}{st:List (Nat×Nat)}{pv:Value}{post:List Nat}(h:Dfs w0 w B0 n Bv Bs Bk seen (st++ [(u,j)]) pv post)
 (hc:w.heap[Bk]? =some (.cells #[.slice (some ⟨gk,0,none⟩) (st.length+1) cp] 163 (0,0))):Dfs w0 (w.setCell ⟨gk,st.length*2+1,none⟩ (zj (j+1))) B0 n Bv Bs Bk seen (st++ [(u,j+1)]) pv post:=by
 obtain⟨hv,hs,hl,⟨sv,hk,hst⟩,hlt,hp,hb⟩:=h
 obtain rfl:=sx hk hc
 simp only[List.length_append,List.length_cons,List.length_nil,Nat.zero_add,vH] at hst
 have hgk:=hst.lt gk rfl
 have hne:=zo hp hst (by decide)
 refine⟨zR hv (show Bv≠gk by omega),zR hs (show Bs≠gk by omega),hl,⟨_,zR hk (show Bk≠gk by omega),?_⟩,hlt,ownsRow_setCell_other hp ?_ _,hb.setCell (show B0<=gk by omega) _⟩
 ·have:=(hst.stored (st.length*2+1) (zj (j+1))).1
  simp only[List.length_append,List.length_cons,List.length_nil,Nat.zero_add,vH] at this ⊢
  have e:(um st++ [zj u,zj j]).set (st.length*2+1) (zj (j+1))=um st++ [zj u,zj (j+1)]:=by
   rw[List.set_append_right _ _ (by rw[yK];omega),yK,show st.length*2+1-2*st.length=1 by omega]
   rfl
  rw[e] at this
  exact this
 ·rcases hne with h0|h0
  ·rw[h0];simp
  ·exact h0
theorem Try.info_frame:(Try.prog.info? 165).map (fun i=>(i.zero,i.size,i.bytes))=some (some (.agg #[.int .i64 0,.int .i64 0]),2,16):=by kernel_rfl
theorem Try.info_int:(Try.prog.info? 3).map (fun i=>(i.zero,i.size,i.bytes))=some (some (.int .i64 0),1,8):=by kernel_rfl
theorem Try.info_bool:(Try.prog.info? 4).map (fun i=>(i.zero,i.size,i.bytes))=some (some (.bool false),1,1):=by kernel_rfl
theorem oF (w0 w:World)(B0 n Bv Bs Bk:Nat)(seen:List Bool)(stk:List (Nat×Nat))(pv:Value)(post:List Nat)(u:Nat)(h:Dfs w0 w B0 n Bv Bs Bk seen stk pv post)(hu:u<n)(hm:stk.length<=2000000):
 Calls Try.prog 103 #[.int .i64 u,.pointer (some ⟨Bv,0,none⟩),.pointer (some ⟨Bk,0,none⟩)] w fun e w'=>e=.returned (.tuple #[])/\Dfs w0 w' B0 n Bv Bs Bk (seen.set u true) (stk++ [(u,0)]) pv post:=by
 obtain⟨i0,hi,hz0,hz1,hz2⟩:=info_parts Try.info_frame
 obtain⟨hv,hs,hl,⟨sv,hk,hown⟩,hlt,hp,hbel⟩:=h
 have cv:=cell_of_one hv
 obtain⟨b0,hb0⟩:∃b0,seen[u]? =some b0:=⟨_,List.getElem?_eq_getElem (by omega)⟩
 have cs:w.cell? ⟨Bs,u,none⟩=some (.bool b0):=zA hs (by simp[hb0,uo])
 have fs:w.frozen? ⟨Bs,u,none⟩=false:=zE hs
 have HV:Hid ((w.setCell ⟨Bs,u,none⟩ (.bool true)).heap[Bv]? =_):=zR hv (show Bv≠Bs by omega)
 have hk1:(w.setCell ⟨Bs,u,none⟩ (.bool true)).heap[Bk]? =_:=zR hk (show Bk≠Bs by omega)
 have HS:Hid ((w.setCell ⟨Bs,u,none⟩ (.bool true)).heap[Bs]? =_):=zD hs (.bool true)
 have ck1:=cell_of_one hk1
 have own1:(w.setCell ⟨Bs,u,none⟩ (.bool true)).ownsRow (Bk+1) 165 2 sv stk.length (um stk):=ownsRow_setCell_other hown (zC (b:=Bs) hown hs (.inl (by omega))) _
 have hp1:(w.setCell ⟨Bs,u,none⟩ (.bool true)).ownsRow (Bk+1) 3 1 pv post.length (post.map zj):=ownsRow_setCell_other hp (zC (b:=Bs) hp hs (.inl (by omega))) _
 have HB:Hid (Bk+1<=(w.setCell ⟨Bs,u,none⟩ (.bool true)).heap.size):=lt_of_block hk1
 have HBEL:=Lib.hid (hbel.setCell (p:=⟨Bs,u,none⟩) (show B0<=Bs by omega) (.bool true))
 have HK:=Lib.hid hk1
 have HP:=Lib.hid hp1
 clear hs hv hb0 hk hk1 hp hp1 hbel
 go_enter Try.func103,Try.ntmps103
 go_wp2_with (at_builtin;go_must (refine wpList_append_lies _ rfl (.tmp 7) (.tmp 10) 163 rfl (Bk+1) 165 i0 _ 2 16 Try.underlying163 hi hz0 hz1 hz2 rfl (by decide) sv stk.length (um stk) rfl (own1.alloc _) ⟨w.heap.size,0,none⟩ 1 1 [.int .i64 u,.int .i64 0] rfl rfl (World.news_of_block (cs:=#[.int .i64 u,.int .i64 0]) (zI (by simp))) (by simp[Value.oneCell']) (by decide) (by unfold maxLen;omega) (by omega) (by have:=HB.out;simp at this ⊢;omega) _ rfl ?_;intro g cap w1 hown1 hgrow hat hlt1;have hk2:=zL hgrow (zB HK.out) (zC own1 HK.out (.inl (by omega)));have ck2:=cell_of_one hk2;have fk2:=free_of_one hk2;have HK2:=Lib.hid hk2;have HV2:=Lib.hid (zL hgrow (zB HV.out) (zC own1 HV.out (.inl (by omega))));have HS2:=Lib.hid (zL hgrow (zB HS.out) (zC own1 HS.out (.inl (by omega))));clear hk2))
 go_end0
 have hne:=zo HP.out own1 (by decide)
 have hp2:=(HP.out.alloc (.cells #[.int .i64 u,.int .i64 0] 165)).kept hgrow hne
 have hBk:=HB.out
 refine⟨rfl,⟨?_,?_,by simp[hl],⟨_,one_setCell HK2.out,?_⟩,hlt,?_,?_⟩⟩
 ·exact zR HV2.out (show Bv≠Bk by omega)
 ·rw[zR HS2.out (show Bs≠Bk by omega)]
  refine congrArg some (congrArg (fun x=>Obj.cells x _ _) ?_)
  simp[List.map_set,uo]
 ·have:=ownsRow_setCell_other hown1 (a:=⟨Bk,0,none⟩) (zC (b:=Bk) hown1 HK2.out (.inl (by omega))) (.slice (some ⟨g,0,none⟩) (stk.length+1) cap)
  rw[vH,List.length_append]
  exact this
 ·exact ownsRow_setCell_other hp2 (zC (b:=Bk) hp2 HK2.out (.inl (by omega))) _
 ·refine Below.setCell (Below.grown (HBEL.out.alloc (by omega) _) hgrow (by simp at hBk ⊢;omega) ?_) (show B0<=Bk by omega) _
  intro k hk
  have:=own1.lt k hk
  omega
open Go.RowKit
def qT (xs ys:List Nat)(k:Nat):Prop:=ys.length=xs.length/\∀m,m<xs.length->ys[m]? =if m<k∨xs.length<=m+k then xs[xs.length-1-m]? else xs[m]?
theorem qT.start (xs:List Nat):qT xs xs 0:=⟨rfl,fun m hm=>by rw[if_neg (by omega)]⟩
theorem qT.step {xs ys:List Nat}{k j x y:Nat}(h:qT xs ys k)(hj:k+j+1=xs.length)(hkj:k<j)(hx:ys[k]? =some x)(hy:ys[j]? =some y):qT xs ((ys.set k y).set j x) (k+1):=by
 obtain⟨h1,h2⟩:=h
 refine⟨by simp[h1],fun m hm=>?_⟩
 have e1:=h2 k (by omega)
 have e2:=h2 j (by omega)
 rw[if_neg (by omega)] at e1 e2
 rw[List.getElem?_set]
 by_cases hmj:j=m
 ·subst hmj
  rw[if_pos rfl,if_pos (by simp[h1];omega),if_pos (by omega),show xs.length-1-j=k by omega,<-e1,hx]
 ·rw[if_neg hmj,List.getElem?_set]
  by_cases hmk:k=m
  ·subst hmk
   rw[if_pos rfl,if_pos (by omega),if_pos (by omega),show xs.length-1-k=j by omega,<-e2,hy]
  ·rw[if_neg hmk,h2 m hm]
   by_cases hc:m<k∨xs.length<=m+k
   ·rw[if_pos hc,if_pos (by omega)]
   ·rw[if_neg hc,if_neg (by omega)]
theorem qT.done {xs ys:List Nat}{k:Nat}(h:qT xs ys k)(hk:xs.length<=2*k+1):ys=xs.reverse:=by
 obtain⟨h1,h2⟩:=h
 apply List.ext_getElem?
 intro m
 by_cases hm:m<xs.length
 ·rw[h2 m hm,List.getElem?_reverse hm]
  by_cases hc:m<k∨xs.length<=m+k
  ·rw[if_pos hc]
  ·rw[if_neg hc];congr 1;omega
 ·rw[List.getElem?_eq_none (by omega),List.getElem?_eq_none (by simp;omega)]
theorem mK (w:World)(base:Nat)(v:Value)(xs:List Nat)(hown:w.ownsRow base 3 1 v xs.length (xs.map zj))(hn:xs.length<=4000000):
 Calls Try.prog 104 #[v] w fun e w'=>e=.returned (.tuple #[])/\w'.ownsRow base 3 1 v xs.length (xs.reverse.map zj)/\w.grownBy w' v.ownBlock:=by
 rcases hown.2 with⟨rfl,h0⟩|⟨g,cap,cur,rfl,hg,hh,_⟩
 ·have hx:xs=[]:=List.eq_nil_of_length_eq_zero h0
  subst hx
  go_enter Try.func104,Try.ntmps104
  go_wp2
  refine wp_loop_rounds 1 ?_
  rw[rounds_succ]
  go_wp2
  go_end0
  exact⟨rfl,by simpa using hown,⟨rfl,rfl,rfl,Nat.le_refl _,fun _ _ _=>rfl⟩⟩
 ·clear hh hg
  have HO:=Lib.hid hown;clear hown
  go_enter Try.func104,Try.ntmps104
  go_wp2
  go_loopw [2,3] (fun i j wr=>∃(k:Nat) (jj:Int),i=.int .i64 k/\j=.int .i64 jj/\Hid ((k:Int)+jj+1=xs.length)/\(k:Int)<=xs.length/\-1<=jj+k/\jj<=xs.length/\∃ys,Hid (qT xs ys k/\wr.ownsRow base 3 1 (.slice (some ⟨g,0,none⟩) xs.length cap) xs.length (ys.map zj)/\w.grownBy wr (some g))) (fun i _ _=>xs.length-(intOf i).toNat)
  case atStart=>exact⟨0,(xs.length:Int)-1,rfl,rfl,by unfold Hid;omega,by omega,by omega,by omega,xs,qT.start xs,HO.out,⟨rfl,rfl,rfl,Nat.le_refl _,fun _ _ _=>rfl⟩⟩
  case round=>
   obtain⟨k,jj,rfl,rfl,HJ,hk,hj1,hj2,ys,HY⟩:=hrel
   by_cases hlt:(k:Int)<jj
   ·obtain⟨j,rfl⟩:∃j:Nat,jj=j:=⟨jj.toNat,by omega⟩
    have hlen:=HY.out.1.1
    have hj:=HJ.out
    obtain⟨x,hx⟩:∃x,ys[k]? =some x:=⟨_,List.getElem?_eq_getElem (by omega)⟩
    obtain⟨y,hy⟩:∃y,ys[j]? =some y:=⟨_,List.getElem?_eq_getElem (by omega)⟩
    have hr:=HY.out.2.1
    have g1:wr.cell? ⟨g,k,none⟩=some (.int .i64 (x:Int)):=(hr.cellAt k (by omega)).trans (by simp[hx,zj])
    have g2:wr.cell? ⟨g,j,none⟩=some (.int .i64 (y:Int)):=(hr.cellAt j (by omega)).trans (by simp[hy,zj])
    have f1:wr.frozen? ⟨g,k,none⟩=false:=hr.frozenAt k
    have f2:wr.frozen? ⟨g,j,none⟩=false:=hr.frozenAt j
    have hne:¬k=j:=by omega
    have i1:(k:Int)<xs.length:=by omega
    have i2:(j:Int)<xs.length:=by omega
    have HXY:=Lib.hid (And.intro hx hy)
    clear hlen hj hx hy hr
    go_wp2
    go_region
    go_wp2
    go_roundw
    case rel=>
     obtain⟨hx,hy⟩:=HXY.out
     have hlen:=HY.out.1.1
     have s1:=HY.out.2.1.stored k (zj y)
     have s2:=s1.1.stored j (zj x)
     refine⟨k+1,(j:Int)-1,by go_num,rfl,by have:=HJ.out;unfold Hid;omega,by omega,by omega,by omega,(ys.set k y).set j x,qT.step HY.out.1 (by have:=HJ.out;omega) (by omega) hx hy,?_,?_⟩
     ·have:=s2.1
      rw[<-List.map_set,<-List.map_set] at this
      exact this
     ·exact nJ ((HY.out.2.2.trans s1.2).trans s2.2)
    case measure=>simp[intOf];omega
   ·go_wp2
    go_end0
    have hd:=HY.out.1.done (by have:=HJ.out;omega)
    subst hd
    exact⟨rfl,by rw[<-List.map_reverse];exact HY.out.2.1,HY.out.2.2⟩
open Go.RowKit Go.Maps
theorem pk:Keyed Try.prog 3:=int_keyed Try.underlying3
theorem wf64 {x:Int}(h:-9223372036854775808<=x/\x<=9223372036854775807):(Lit.int .i64 x).wf=true:=by simp[Lit.wf,IntKind.min,IntKind.max,IntKind.signed,IntKind.bits];omega
theorem jp {x:Int}(h:-9223372036854775808<=x/\x<=9223372036854775807):keyOf Try.prog 3 (.int .i64 x)=some (.int .i64 x):=keyOf_int_mk Try.underlying3 (wf64 h)
theorem zeroInt (w:World):(zeroValue 3).run Try.prog w=.ok (.int .i64 0) w:=by kernel_rfl
def ud (w:World)(b n:Nat)(f:Int->Int):Prop:=
 ∃D:DataW Unit,w.ownsMap Try.prog 3 (plainElem Try.prog 3) b n D/\∀x,(Lit.int .i64 x).wf=true->D.atKey (.int .i64 x) (.lit (.int .i64 0))=.lit (.int .i64 (f x))
theorem ud.lt {w:World}{b n:Nat}{f:Int->Int}(h:ud w b n f):b<w.heap.size:=let⟨_,h,_⟩:=h;h.lt
theorem ud.same {w w':World}{b n:Nat}{f:Int->Int}(h:ud w b n f)(hb:w'.heap[b]? =w.heap[b]?):ud w' b n f:=by
 obtain⟨D,⟨es,clock,h1,h2⟩,h3⟩:=h
 exact⟨D,⟨es,clock,hb.trans h1,h2⟩,h3⟩
theorem ud.ne {w:World}{b n:Nat}{f:Int->Int}(h:ud w b n f){b':Nat}{c:Array Value}{t:TypeId}{z:Nat×Nat}(hb:w.heap[b']? =some (.cells c t z)):b≠b':=by
 obtain⟨D,⟨es,clock,h1,h2⟩,h3⟩:=h
 rintro rfl;rw[h1] at hb;simp at hb
theorem ud.look {w:World}{b n:Nat}{f:Int->Int}(h:ud w b n f){x:Int}(hx:-9223372036854775808<=x/\x<=9223372036854775807):
 (Instr.lookup 126 (.map (some b)) (.int .i64 x) false).run Try.prog w=.ok (.int .i64 (f x)) w/\(Lit.int .i64 (f x)).wf=true:=by
 obtain⟨D,h,hf⟩:=h
 obtain⟨c,hrun,hat,hwc⟩:=h.lookup_int pk Try.underlying126 Try.underlying3 (zeroInt w) (jp hx)
 rw[hf x (wf64 hx)] at hat
 simp only[DataW.lit.injEq,Lit.int.injEq,true_and] at hat
 subst hat
 exact⟨hrun,hwc⟩
theorem rW {ops:Array Oper}{rest:List Oper}{o:Oper}{a:Act}{Q:Exit->Act->World->Prop}{w:World}(hg:o.guard=none)(m x v:Operand)
 (hop:o.op=.mapUpdate 126 m x v) {b n:Nat} {f:Int->Int} (h:ud w b n f) (hn:n<9000000000000000000) (kx vv:Int) (hm:a.eval m=.map (some b)) (hx:a.eval x=.int .i64 kx) (hv:a.eval v=.int .i64 vv)
 (hkx:-9223372036854775808<=kx/\kx<=9223372036854775807) (hvv:-9223372036854775808<=vv/\vv<=9223372036854775807)
 (hK:∀w',ud w' b (n+1) (fun y=>if y=kx then vv else f y)->w.grownBy w' (some b)->wpList Try.prog ops Q rest (a.put o.dst undef) w'):wpList Try.prog ops Q (o::rest) a w:=by
 obtain⟨D,h,hf⟩:=h
 refine wpList_mapUpdate_own (H:=Unit) w hg m x v 126 hop 3 3 pk Try.underlying126 _ b n D hm h (by unfold maxLen;omega) _ _ _ hx hv (jp hkx) _ [] (plainElem_int Try.underlying3 (wf64 hvv)) ?_
 intro w1 hown hgrow
 refine hK w1 ⟨_,hown,fun y hy=>?_⟩ hgrow
 have hkl:WideAt.IsKeyLit (.int .i64 kx):=pk.key (jp hkx)
 by_cases e:y=kx
 ·subst e;simp only[if_true];exact Maps.atKey_put_same h.isMap hkl _ _
 ·simp only[if_neg e]
  rw[Maps.atKey_put_other (by simpa using e)]
  exact hf y hy
end Go.Proofs.Ytojclalkfhoooaa
