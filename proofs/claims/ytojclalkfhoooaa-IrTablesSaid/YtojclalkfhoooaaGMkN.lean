/- Part of a proof. -/
import Derived.Test.YtojclalkfhoooaaGTab2
import Derived.Test.YtojclalkfhoooaaGVmD
import Derived.Deep.RegionHeld3
import Derived.Test.YtojclalkfhoooaaIFlds
import Derived.Test.YtojclalkfhoooaaGApp
import Derived.Test.YtojclalkfhoooaaIStep3
import Derived.Deep.AppendLies
set_option linter.unusedSimpArgs false
set_option linter.unusedVariables false
set_option maxHeartbeats 2000000
set_option maxRecDepth 100000
namespace Go.Proofs.Ytojclalkfhoooaa
open Go.RowKit
theorem yr (q:BM):(xG q).length=5:=rfl
section
variable {w:World} {K:MKC} {X:Nat->Prop} {M:MS} {fv vv:Value} {l:List BM} (h:MkIn w K X M fv vv l)
include h
theorem MkIn.getB {i:Nat}{b:IBlk}(hb:M.f[i]? =some b):∃q,l[i]? =some q/\q.b=b/\BMOk w K X q:=by
 rw[h.fl,List.getElem?_map,Option.map_eq_some_iff] at hb
 obtain⟨q,hq,rfl⟩:=hb
 exact⟨q,hq,rfl,h.bok q (List.mem_of_getElem? hq)⟩
theorem MkIn.len:l.length=M.f.length:=by rw[h.fl,List.length_map]
theorem MkIn.flen:M.f.length<=1000000:=by have:=h.bnd;unfold MS.sz at this;omega
theorem MkIn.fblk {i:Nat}{q:BM}(hq:l[i]? =some q):∃g c,fv=.slice (some ⟨g,0,none⟩) l.length c/\X g/\g<w.heap.size/\g≠K.pm:=by
 have hlt:=(List.getElem?_eq_some_iff.1 hq).1
 obtain⟨a,c,e⟩:=zG h.own
 rw[e]
 have ho:=h.own
 rw[e] at ho
 obtain⟨g,cap,e2,hg,hlt2⟩:=ho.form (by omega)
 cases e2
 exact⟨g,_,rfl,h.xf g (by rw[e];rfl),hlt2,fun e3=>zC ho h.blk (.inr (by decide)) (by rw[<-e3];rfl)⟩
end
theorem MkIn.only {w W:World}{K:MKC}{X:Nat->Prop}{M M':MS}{fv vv:Value}{l:List BM}(h:MkIn w K X M fv vv l)(hsz:w.heap.size<=W.heap.size)(ho:W.os=w.os/\W.tape=w.tape/\W.output=w.output)
 (hk:∀k,k<w.heap.size->k≠K.pm->W.heap[k]? =w.heap[k]?) (hpm:W.heap[K.pm]? =some (.cells (uC K M' fv vv) 120 (0,0))) (hf:M'.f=M.f) (hv:M'.vals=M.vals) (hbnd:M'.sz<=1000000) (hl:6<=M'.left+M'.pos/\M'.left<=6):
 MkIn W K X M' fv vv l/\Stp X w X W:=by
 have hs:Stp X w X W:=⟨ho.1,ho.2.1,ho.2.2,hsz,fun _ h=> .inl h,fun k hk' hx=>hk k hk' (fun e=>hx (by rw[e];exact h.xm))⟩
 have hne:∀ {v:Value} {e:TypeId} {sz n:Nat} {xs:List Value},w.ownsRow K.B e sz v n xs->e≠120->∀k,v.ownBlock=some k->W.heap[k]? =w.heap[k]?:=fun ho he k hk'=>
  hk k (ho.lt k hk').2 (fun e=>zC ho h.blk (.inr he) (by rw[hk',e]))
 exact⟨⟨hpm,yD h.own (hne h.own (by decide)),hf.trans h.fl,fun q hq=>(h.bok q hq).step hs (hne (h.bok q hq).own (by decide)) (fun _ e=>e),h.apart,by rw[hv];exact yD h.vown (hne h.vown (by decide)),by rw[hv];exact h.v64,h.xm,h.xf,h.xv,h.xB,fun k e=>Nat.lt_of_lt_of_le (h.xl k e) hsz,
  h.env.step hs (hs.below h.xB h.size),hbnd,hl⟩,hs⟩
theorem MkIn.turn {w W:World}{K:MKC}{X X':Nat->Prop}{M M':MS}{fv vv:Value}{l:List BM}(h:MkIn w K X M fv vv l){q q':BM}{c g:Nat}(hq:l[c]? =some q)(hg:fv.ownBlock=some g)
 (hs:Stp X w X' W) (hXX:∀k,X k->X' k) (hXl:∀k,X' k->k<W.heap.size) (hXB:∀k,X' k->K.B<=k)
 (hk:∀k,k<w.heap.size->X k->k≠g->q.ov.ownBlock≠some k->W.heap[k]? =w.heap[k]?)
 (hpm:q.ov.ownBlock≠some K.pm) (hown:W.ownsRow K.B 49 5 fv l.length ((l.set c q').flatMap xG)) (hq':BMOk W K X' q')
 (hap:∀(j:Nat) (qj:BM) (k:Nat),l[j]? =some qj->q'.ov.ownBlock=some k->qj.ov.ownBlock=some k->j=c) (hf:M'.f=M.f.set c q'.b) (hM:M'.pos=M.pos/\M'.cur=M.cur/\M'.next=M.next/\M'.vals=M.vals/\M'.left=M.left) (hz:M'.sz<=1000000):
 MkIn W K X' M' fv vv (l.set c q'):=by
 have hc:=(List.getElem?_eq_some_iff.1 hq).1
 have hpg:K.pm≠g:=fun e=>zC h.own h.blk (.inr (by decide)) (by rw[hg,e])
 obtain⟨m1,m2,m3,m4,m5⟩:=hM
 have hcells:uC K M' fv vv=uC K M fv vv:=by unfold uC;rw[m1,m2,m3,m5]
 have hov:∀k,vv.ownBlock=some k->k≠g/\q.ov.ownBlock≠some k:=fun k hk=>by
  obtain⟨_,_,hx⟩:=zG h.vown
  refine⟨fun e=>?_,fun e=>?_⟩
  ·rcases zo h.vown h.own (by decide) with h1|h1
   ·rw[h1] at hk;cases hk
   ·exact h1 (by rw[hk,hg,e])
  ·rcases zo h.vown (h.bok q (List.mem_of_getElem? hq)).own (by decide) with h1|h1
   ·rw[h1] at hk;cases hk
   ·exact h1 (by rw[hk,e])
 have hoq:∀j qj,l[j]? =some qj->j≠c->∀k,qj.ov.ownBlock=some k->k≠g/\q.ov.ownBlock≠some k:=fun j qj hj hne k hk=>by
  refine⟨fun e=>?_,fun e=>hne (h.apart j c qj q k hj hq hk e)⟩
  rcases zo (h.bok qj (List.mem_of_getElem? hj)).own h.own (by decide) with h1|h1
  ·rw[h1] at hk;cases hk
  ·exact h1 (by rw[hk,hg,e])
 refine⟨?_,by rw[List.length_set];exact hown,by rw[hf,h.fl,List.map_set],fun p hp=>?_,fun i j qi qj k hi hj hqi hqj=>?_,?_,by rw[m4];exact h.v64,hXX _ h.xm,fun k hk=>hXX _ (h.xf k hk),fun k hk=>hXX _ (h.xv k hk),hXB,hXl,h.env.step hs (hs.below h.xB h.size),hz,by rw[m5,m1];exact h.lft⟩
 ·rw[hcells,hk K.pm (lt_of_block h.blk) h.xm hpg hpm];exact h.blk
 ·obtain⟨j,hj⟩:=List.getElem?_of_mem hp
  rw[List.getElem?_set] at hj
  by_cases e:c=j
  ·subst e
   rw[if_pos rfl,if_pos hc] at hj
   cases hj;exact hq'
  ·rw[if_neg e] at hj
   refine(h.bok p (List.mem_of_getElem? hj)).step hs (fun k hk'=>?_) hXX
   obtain⟨h1,h2⟩:=hoq j p hj (Ne.symm e) k hk'
   exact hk k (((h.bok p (List.mem_of_getElem? hj)).own.lt k hk').2) ((h.bok p (List.mem_of_getElem? hj)).inX k hk') h1 h2
 ·rw[List.getElem?_set] at hi hj
  by_cases ei:c=i
  ·rw[if_pos ei,if_pos hc] at hi
   cases hi
   by_cases ej:c=j
   ·omega
   ·rw[if_neg ej] at hj
    have:=hap j qj k hj hqi hqj
    omega
  ·rw[if_neg ei] at hi
   by_cases ej:c=j
   ·rw[if_pos ej,if_pos hc] at hj
    cases hj
    have:=hap i qi k hi hqj hqi
    omega
   ·rw[if_neg ej] at hj
    exact h.apart i j qi qj k hi hj hqi hqj
 ·rw[m4]
  refine yD h.vown (fun k hk'=>?_)
  obtain⟨h1,h2⟩:=hov k hk'
  exact hk k ((h.vown.lt k hk').2) (h.xv k hk') h1 h2
theorem MkIn.putV {w w3:World}{K:MKC}{X:Nat->Prop}{M:MS}{fv vv vv':Value}{l:List BM}(h:MkIn w K X M fv vv l){o:Obj}(hg:(w.alloc o).grownBy w3 vv.ownBlock){x:Int}
 (hown:w3.ownsRow K.B 3 1 vv' (M.vals.length+1) (M.vals.map zN++ [zN x])) (hat:∀k,vv'.ownBlock=some k->vv.ownBlock=some k∨w.heap.size<=k) (hx:I64 x) (hz:M.sz+1<=1000000):
 MkIn (w3.setCell ⟨K.pm,7,none⟩ vv') K (fun k=>X k∨vv'.ownBlock=some k) {M with vals:=M.vals++ [x]} fv vv' l/\Stp X w (fun k=>X k∨vv'.ownBlock=some k) (w3.setCell ⟨K.pm,7,none⟩ vv'):=by
 have n1:=zC h.vown h.blk (.inr (by decide))
 have hb3:=zL hg (zB h.blk) n1
 have hsz:w.heap.size<=w3.heap.size:=by have:=hg.size;simp at this;omega
 have hk:∀k,k<w.heap.size->k≠K.pm->vv.ownBlock≠some k->(w3.setCell ⟨K.pm,7,none⟩ vv').heap[k]? =w.heap[k]?:=fun k hk hne hv=>
  (Below.heap_setCell w3 ⟨K.pm,7,none⟩ vv' k hne).trans ((hg.block k (by simp;omega) (fun e=>hv e.symm)).trans (Below.heap_alloc w o k hk))
 have hs:Stp X w (fun k=>X k∨vv'.ownBlock=some k) (w3.setCell ⟨K.pm,7,none⟩ vv'):=
  ⟨hg.os,hg.tape,hg.output,by simpa using hsz,fun k hx'=>hx'.elim .inl (fun e=>(hat k e).elim (fun e2=> .inl (h.xv k e2)) .inr),fun k hk' hxk=>hk k hk' (fun e=>hxk (by rw[e];exact h.xm)) (fun e=>hxk (h.xv k e))⟩
 have hoth:∀ {v:Value} {e:TypeId} {sz n:Nat} {xs:List Value},w.ownsRow K.B e sz v n xs->e≠3->e≠120->∀k,v.ownBlock=some k->(w3.setCell ⟨K.pm,7,none⟩ vv').heap[k]? =w.heap[k]?:=fun {v e sz n xs} ho h1 h2 k hk'=>by
  refine hk k (ho.lt k hk').2 (fun e3=>zC ho h.blk (.inr h2) (by rw[hk',e3])) (fun e3=>?_)
  rcases zo ho h.vown h1 with h4|h4
  ·rw[h4] at hk';cases hk'
  ·exact h4 (by rw[hk',e3])
 refine⟨⟨?_,yD h.own (hoth h.own (by decide) (by decide)),h.fl,fun q hq=>(h.bok q hq).step hs (hoth (h.bok q hq).own (by decide) (by decide)) (fun _ e=> .inl e),h.apart,?_,?_,.inl h.xm,fun k e=> .inl (h.xf k e),fun k e=> .inr e,fun k e=>e.elim (h.xB k) (fun e2=>(hown.lt k e2).1),fun k e=>?_,h.env.step hs (hs.below h.xB h.size),?_,h.lft⟩,hs⟩
 ·rw[zD hb3];rfl
 ·show(w3.setCell ⟨K.pm,7,none⟩ vv').ownsRow K.B 3 1 vv' (M.vals++ [x]).length ((M.vals++ [x]).map zN)
  rw[List.length_append,List.length_singleton,List.map_append]
  exact ownsRow_setCell_other hown (fun e=>zC hown hb3 (.inr (by decide)) (by simpa using e)) _
 ·intro y hy
  rcases List.mem_append.1 hy with hy|hy
  ·exact h.v64 y hy
  ·rw[List.mem_singleton] at hy;subst hy;exact hx
 ·rcases e with e|e
  ·have:=h.xl k e;simp;omega
  ·have:=(hown.lt k e).2;simpa using this
 ·unfold MS.sz at *;simp only[List.length_append,List.length_singleton];omega
theorem MkIn.putO {w w6 W:World}{K:MKC}{X:Nat->Prop}{M M':MS}{fv vv ov':Value}{l:List BM}(h:MkIn w K X M fv vv l){q:BM}{c g lb:Nat}(hq:l[c]? =some q)(hg:fv.ownBlock=some g)
 {W3:World} (hb3:Below w.heap.size w W3) (hgr:W3.grownBy w6 q.ov.ownBlock) {o:IOp} {av:Value} (hown:w6.ownsRow K.B 77 6 ov' (q.ol.length+1) (q.ol.flatMap zU++zU (o,av)))
 (hat:∀k,ov'.ownBlock=some k->q.ov.ownBlock=some k∨w.heap.size<=k) (hlb:w.heap.size<=lb) {cs:Array Value} (hlk:w6.heap[lb]? =some (.cells cs 49 (0,0)))
 (hW:∃u,W=((w6.setCell ⟨lb,1,none⟩ u).drew.setCells g (c*5) (xG ⟨{q.b with ops:=q.b.ops++ [o]},q.pv,ov',q.tv,q.ol++ [(o,av)]⟩)))
 (ho:qN o/\wm w (K.av X) av o.args) (hf:M'.f=M.f.set c {q.b with ops:=q.b.ops++ [o]}) (hM:M'.pos=M.pos/\M'.cur=M.cur/\M'.next=M.next/\M'.vals=M.vals/\M'.left=M.left) (hz:M'.sz<=1000000):
 ∃X',MkIn W K X' M' fv vv (l.set c ⟨{q.b with ops:=q.b.ops++ [o]},q.pv,ov',q.tv,q.ol++ [(o,av)]⟩)/\Stp X w X' W:=by
 obtain⟨u,rfl⟩:=hW
 have hok:=h.bok q (List.mem_of_getElem? hq)
 have hgx:=h.xf g hg
 have hgl:=h.xl g hgx
 have hk:∀k,k<w.heap.size->k≠g->q.ov.ownBlock≠some k->((w6.setCell ⟨lb,1,none⟩ u).drew.setCells g (c*5) (xG ⟨{q.b with ops:=q.b.ops++ [o]},q.pv,ov',q.tv,q.ol++ [(o,av)]⟩)).heap[k]? =w.heap[k]?:=fun k hk hne hv=>
  (ye g k hne _ _ _).trans ((Below.heap_setCell w6 ⟨lb,1,none⟩ u k (by show k≠lb;omega)).trans ((hgr.block k (by have:=hb3.size;omega) (fun e=>hv e.symm)).trans (hb3.block k hk)))
 have hs:Stp X w (fun k=>X k∨ov'.ownBlock=some k) ((w6.setCell ⟨lb,1,none⟩ u).drew.setCells g (c*5) (xG ⟨{q.b with ops:=q.b.ops++ [o]},q.pv,ov',q.tv,q.ol++ [(o,av)]⟩)):=
  ⟨(ze g _ _ _).1.trans (hgr.os.trans hb3.os),(ze g _ _ _).2.1.trans (hgr.tape.trans hb3.tape),(ze g _ _ _).2.2.trans (hgr.output.trans hb3.output),by rw[y8];have:=hb3.size;have:=hgr.size;simp;omega,
   fun k hx'=>hx'.elim .inl (fun e=>(hat k e).elim (fun e2=> .inl (hok.inX k e2)) .inr),fun k hk' hxk=>hk k hk' (fun e=>hxk (by rw[e];exact hgx)) (fun e=>hxk (hok.inX k e))⟩
 have hov7:∀k,ov'.ownBlock=some k->k≠lb/\k≠g:=fun k e=>⟨fun e2=>zC hown hlk (.inr (by decide)) (by rw[e,e2]),fun e2=>by
  rcases hat k e with e3|e3
  ·rcases zo hok.own h.own (by decide) with h1|h1
   ·rw[h1] at e3;cases e3
   ·exact h1 (by rw[e3,hg,e2])
  ·omega⟩
 have hgo:q.ov.ownBlock≠some g:=fun e=>by
  rcases zo hok.own h.own (by decide) with h1|h1
  ·rw[h1] at e;cases e
  ·exact h1 (by rw[e,hg])
 have hfw:(w6.setCell ⟨lb,1,none⟩ u).drew.ownsRow K.B 49 5 fv l.length (l.flatMap xG):=yD h.own (fun k e=>by
  have e2:k=g:=by rw[hg] at e;cases e;rfl
  subst e2
  exact(Below.heap_setCell w6 ⟨lb,1,none⟩ u k (by show k≠lb;omega)).trans ((hgr.block k (by have:=hb3.size;omega) (fun e3=>hgo e3.symm)).trans (hb3.block k hgl)))
 refine⟨_,h.turn (M':=M') hq hg hs (fun k e=> .inl e) (fun k e=>?_) (fun k e=>e.elim (h.xB k) (fun e2=>(hown.lt k e2).1)) (fun k hk' _ hne hv=>hk k hk' hne hv) (fun e=>zC hok.own h.blk (.inr (by decide)) e) (uZ yr hfw hg hq _) ?_ (fun j qj k hj h1 h2=>?_) hf hM hz,hs⟩
 ·rcases e with e|e
  ·exact Nat.lt_of_lt_of_le (h.xl k e) hs.size
  ·rw[y8];have:=(hown.lt k e).2;simpa using this
 ·refine⟨hok.k64,hok.par.step zn (hs.av K),by rw[List.map_append,<-hok.ops];rfl,?_,fun p hp=>?_,hok.tos.step yq (hs.av K),fun k e=> .inr e⟩
  ·rw[List.length_append,List.length_singleton,List.flatMap_append]
   refine yD (show w6.ownsRow K.B 77 6 ov' (q.ol.length+1) (q.ol.flatMap zU++ [(o,av)].flatMap zU) from hown) (fun k e=>?_)
   obtain⟨e1,e2⟩:=hov7 k e
   exact(ye g k e2 _ _ _).trans (Below.heap_setCell w6 ⟨lb,1,none⟩ u k e1)
  ·rcases List.mem_append.1 hp with hp|hp
   ·exact⟨(hok.arg p hp).1,(hok.arg p hp).2.step zn (hs.av K)⟩
   ·rw[List.mem_singleton] at hp;subst hp
    exact⟨ho.1,ho.2.step zn (hs.av K)⟩
 ·rcases hat k h1 with e|e
  ·exact h.apart j c qj q k hj hq h2 e
  ·have:=((h.bok qj (List.mem_of_getElem? hj)).own.lt k h2).2;omega
theorem MkIn.putB {w w3:World}{K:MKC}{X:Nat->Prop}{M:MS}{fv vv fv':Value}{l:List BM}(h:MkIn w K X M fv vv l){o:Obj}(hg:(w.alloc o).grownBy w3 fv.ownBlock){b:IBlk}{pv:Value}(hb:b.ops=[]/\b.term=⟨0,0,[]⟩)
 (hown:w3.ownsRow K.B 49 5 fv' (l.length+1) (l.flatMap xG++xG ⟨b,pv,.slice none 0 0,.slice none 0 0,[]⟩)) (hat:∀k,fv'.ownBlock=some k->fv.ownBlock=some k∨w.heap.size<=k) (hpar:wm w (K.av X) pv b.params) (hz:M.sz+1<=1000000):
 MkIn (w3.setCell ⟨K.pm,4,none⟩ fv') K (fun k=>X k∨fv'.ownBlock=some k) {M with f:=M.f++ [b]} fv' vv (l++ [⟨b,pv,.slice none 0 0,.slice none 0 0,[]⟩])/\Stp X w (fun k=>X k∨fv'.ownBlock=some k) (w3.setCell ⟨K.pm,4,none⟩ fv'):=by
 have n1:=zC h.own h.blk (.inr (by decide))
 have hb3:=zL hg (zB h.blk) n1
 have hsz:w.heap.size<=w3.heap.size:=by have:=hg.size;simp at this;omega
 have hk:∀k,k<w.heap.size->k≠K.pm->fv.ownBlock≠some k->(w3.setCell ⟨K.pm,4,none⟩ fv').heap[k]? =w.heap[k]?:=fun k hk hne hv=>
  (Below.heap_setCell w3 ⟨K.pm,4,none⟩ fv' k hne).trans ((hg.block k (by simp;omega) (fun e=>hv e.symm)).trans (Below.heap_alloc w o k hk))
 have hs:Stp X w (fun k=>X k∨fv'.ownBlock=some k) (w3.setCell ⟨K.pm,4,none⟩ fv'):=
  ⟨hg.os,hg.tape,hg.output,by simpa using hsz,fun k hx'=>hx'.elim .inl (fun e=>(hat k e).elim (fun e2=> .inl (h.xf k e2)) .inr),fun k hk' hxk=>hk k hk' (fun e=>hxk (by rw[e];exact h.xm)) (fun e=>hxk (h.xf k e))⟩
 have hoth:∀ {v:Value} {e:TypeId} {sz n:Nat} {xs:List Value},w.ownsRow K.B e sz v n xs->e≠49->e≠120->∀k,v.ownBlock=some k->(w3.setCell ⟨K.pm,4,none⟩ fv').heap[k]? =w.heap[k]?:=fun {v e sz n xs} ho h1 h2 k hk'=>by
  refine hk k (ho.lt k hk').2 (fun e3=>zC ho h.blk (.inr h2) (by rw[hk',e3])) (fun e3=>?_)
  rcases zo ho h.own h1 with h4|h4
  ·rw[h4] at hk';cases hk'
  ·exact h4 (by rw[hk',e3])
 refine⟨⟨?_,?_,?_,fun q hq=>?_,fun i j qi qj k hi hj hqi hqj=>?_,yD h.vown (hoth h.vown (by decide) (by decide)),h.v64,.inl h.xm,fun k e=> .inr e,fun k e=> .inl (h.xv k e),fun k e=>e.elim (h.xB k) (fun e2=>(hown.lt k e2).1),fun k e=>?_,h.env.step hs (hs.below h.xB h.size),?_,h.lft⟩,hs⟩
 ·rw[zD hb3];rfl
 ·rw[List.length_append,List.length_singleton,List.flatMap_append]
  exact ownsRow_setCell_other (show w3.ownsRow K.B 49 5 fv' (l.length+1) (l.flatMap xG++ [(⟨b,pv,.slice none 0 0,.slice none 0 0,[]⟩:BM)].flatMap xG) from hown) (fun e=>zC hown hb3 (.inr (by decide)) (by simpa using e)) _
 ·rw[List.map_append,<-h.fl];rfl
 ·rcases List.mem_append.1 hq with hq|hq
  ·exact(h.bok q hq).step hs (hoth (h.bok q hq).own (by decide) (by decide)) (fun _ e=> .inl e)
  ·rw[List.mem_singleton] at hq
   subst hq
   refine⟨?_,hpar.step zn (hs.av K),hb.1,World.ownsRow_nil _ _ _ _,(fun o ho=>by cases ho),?_,(fun k e=>by simp[Value.ownBlock] at e)⟩
   ·rw[hb.2];exact⟨⟨by decide,by decide⟩,⟨by decide,by decide⟩⟩
   ·rw[hb.2];exact yE.nil
 ·have key:∀(m:Nat) (qm:BM),(l++ [(⟨b,pv,.slice none 0 0,.slice none 0 0,[]⟩:BM)])[m]? =some qm->qm.ov.ownBlock=some k->l[m]? =some qm:=fun m qm hm hqm=>by
   by_cases e:m<l.length
   ·rwa [List.getElem?_append_left e] at hm
   ·rw[List.getElem?_append_right (by omega)] at hm
    have:m-l.length=0:=by have:=(List.getElem?_eq_some_iff.1 hm).1;simp at this;omega
    rw[this] at hm
    cases hm
    simp[Value.ownBlock] at hqm
  exact h.apart i j qi qj k (key i qi hi hqi) (key j qj hj hqj) hqi hqj
 ·rcases e with e|e
  ·have:=h.xl k e;simp;omega
  ·have:=(hown.lt k e).2;simpa using this
 ·have e:nN [b]=0:=by unfold nN;simp[hb.1]
  unfold MS.sz at *
  simp only[List.length_append,List.length_singleton,ry,e]
  omega
open Go.RowKit
theorem nB {X:Nat->Prop}{w W2:World}{g:Nat}(o:Nat)(vs:List Value)(hb:Below w.heap.size w W2)(hX:X g):Stp X w X (W2.setCells g o vs):=
 ⟨(ze g vs o W2).1.trans hb.os,(ze g vs o W2).2.1.trans hb.tape,(ze g vs o W2).2.2.trans hb.output,by rw[y8];exact hb.size,fun _ h=> .inl h,fun k hk hx=>(ye g k (fun e=>hx (by rw[e];exact hX)) vs o W2).trans (hb.block k hk)⟩
theorem nt {w:World}{K:MKC}{X:Nat->Prop}{M:MS}(h:wW w K X M){t:ITerm}(hk:I64 t.kind)(ha:I64 t.a){tv:Value}(hto:vT w (K.av X) tv t.to)(hcur:M.cur<M.f.length):
 Calls Try.prog 63 #[.pointer (some ⟨K.pm,0,none⟩),.agg #[.int .i64 t.kind,.int .i64 t.a,tv]] w (yk K X w (M.endB t) (.tuple #[])):=by
 obtain⟨fv,vv,l,h⟩:=h
 obtain⟨b,hb⟩:∃b,M.f[M.cur]? =some b:=⟨_,List.getElem?_eq_getElem hcur⟩
 obtain⟨q,hq,rfl,hok⟩:=h.getB hb
 obtain⟨g,c,rfl,hXg,hgl,hgp⟩:=h.fblk hq
 obtain⟨ta,tc,rfl,_,_⟩:=hto.form
 obtain⟨pa,pc,hpv,_,_⟩:=hok.par.form
 obtain⟨oa,oc,hovf⟩:=zG hok.own
 obtain⟨ea,ec,htv,_,_⟩:=hok.tos.form
 have c4:=h.c4
 have c5:=h.c5
 have hrg:=z9 yr h.own rfl hq
 have e0:w.cell? ⟨g,M.cur*5,none⟩=some q.pv:=hrg 0 _ rfl
 have e1:=hrg 1 _ rfl
 have e2:=hrg 2 _ rfl
 have e3:=hrg 3 _ rfl
 have e4:=hrg 4 _ rfl
 have hpml:=lt_of_block h.blk
 have hll:=h.len
 have hcI:(M.cur:Int)<(l.length:Int):=by omega
 have hc0:(0:Int)<=(M.cur:Int):=by omega
 have hml:=h.flen
 rw[hpv] at e0
 rw[hovf] at e1
 rw[htv] at e4
 have H:=Lib.hid (And.intro h (And.intro hq (And.intro hok (And.intro hto (And.intro hb (And.intro hpv (And.intro hovf (And.intro htv (And.intro hk ha)))))))))
 clear h hq hok hto hb hrg hpv hovf htv hk ha hll hml
 go_enter Try.func63,Try.ntmps63
 go_upto_region 1 with fail
 have hall:∀w',Below w.heap.size w w'->w'.cell? ⟨K.pm,4,none⟩=some (.slice (some ⟨g,0,none⟩) l.length c)/\w'.cell? ⟨K.pm,5,none⟩=some (.int .i64 (M.cur:Int))/\w'.cell? ⟨g,M.cur*5,none⟩=some (.slice pa q.b.params.length pc)/\w'.cell? ⟨g,M.cur*5+1,none⟩=some (.slice oa q.ol.length oc)/\w'.cell? ⟨g,M.cur*5+2,none⟩=some (.int .i64 q.b.term.kind)/\w'.cell? ⟨g,M.cur*5+3,none⟩=some (.int .i64 q.b.term.a)/\w'.cell? ⟨g,M.cur*5+4,none⟩=some (.slice ea q.b.term.to.length ec):=fun w' hb=>⟨zV hb hpml c4,zV hb hpml c5,zV hb hgl e0,zV hb hgl e1,zV hb hgl e2,zV hb hgl e3,zV hb hgl e4⟩
 have HALL:=Lib.hid hall
 clear hall c4 c5 e0 e1 e2 e3 e4
 go_region_held3 (fun w'=>w'.cell? ⟨K.pm,4,none⟩=some (.slice (some ⟨g,0,none⟩) l.length c)/\w'.cell? ⟨K.pm,5,none⟩=some (.int .i64 (M.cur:Int))/\w'.cell? ⟨g,M.cur*5,none⟩=some (.slice pa q.b.params.length pc)/\w'.cell? ⟨g,M.cur*5+1,none⟩=some (.slice oa q.ol.length oc)/\w'.cell? ⟨g,M.cur*5+2,none⟩=some (.int .i64 q.b.term.kind)/\w'.cell? ⟨g,M.cur*5+3,none⟩=some (.int .i64 q.b.term.a)/\w'.cell? ⟨g,M.cur*5+4,none⟩=some (.slice ea q.b.term.to.length ec))
  ((refine HALL.out _ ?_;repeat' (first|exact Below.refl _ _|refine Below.drew ?_|refine Below.alloc ?_ (by simp<;>omega) _|refine Below.setCell ?_ (by simp<;>omega) _)))
  (fail)
 go_upto_region 3 with fail
 have hb2:Below w.heap.size w (((w.alloc (.cells #[.int .i64 t.kind,.int .i64 t.a,.slice ta t.to.length tc] 47)).alloc (.cells #[.slice pa q.b.params.length pc,.slice oa q.ol.length oc,.int .i64 t.kind,.int .i64 t.a,.slice ta t.to.length tc] 49)).drew):=(((Below.refl _ _).alloc (Nat.le_refl _) _).alloc (by simp) _).drew
 have hl2:(((w.alloc (.cells #[.int .i64 t.kind,.int .i64 t.a,.slice ta t.to.length tc] 47)).alloc (.cells #[.slice pa q.b.params.length pc,.slice oa q.ol.length oc,.int .i64 t.kind,.int .i64 t.a,.slice ta t.to.length tc] 49)).drew).heap[w.heap.size+1]? =some (.cells #[.slice pa q.b.params.length pc,.slice oa q.ol.length oc,.int .i64 t.kind,.int .i64 t.a,.slice ta t.to.length tc] 49 (0,0)):=zI (by simp)
 generalize hW2:((w.alloc (.cells #[.int .i64 t.kind,.int .i64 t.a,.slice ta t.to.length tc] 47)).alloc (.cells #[.slice pa q.b.params.length pc,.slice oa q.ol.length oc,.int .i64 t.kind,.int .i64 t.a,.slice ta t.to.length tc] 49)).drew=W2 at *
 obtain⟨c4,c5,_⟩:=HALL.out W2 hb2
 have l0:=zA (i:=0) hl2 rfl
 have l1:=zA (i:=1) hl2 rfl
 have l2:=zA (i:=2) hl2 rfl
 have l3:=zA (i:=3) hl2 rfl
 have l4:=zA (i:=4) hl2 rfl
 have HB:=Lib.hid hb2
 clear hb2 hl2 hW2 HALL
 refine zt 11 (by kernel_rfl) (by kernel_rfl) ?_
 simp only[List.take_succ_cons,List.take_zero,List.drop_succ_cons,List.drop_zero]
 repeat (go_big_quiet_step (fail))
 refine wpQuiet_nil ?_
 have hkp:=H.out.1.keep HB.out.drew
 refine wpList_store_mid rfl 49 (.tmp 28) (.tmp 27) rfl g (M.cur*5) #[.slice pa q.b.params.length pc,.slice oa q.ol.length oc,.int .i64 t.kind,.int .i64 t.a,.slice ta t.to.length tc] rfl rfl (zq (by decide) yr hkp.own rfl H.out.2.1) (by kernel_rfl) (by simp[Value.oneCell']) ?_
 go_wp2
 first|go_end0|refine bodyPost_ret (results_none rfl _ _ _) rfl ?_
 obtain⟨h,hq,hok,hto,hb,hpv,hovf,htv,hk,ha⟩:=H.out
 have hs:Stp X w X (W2.drew.setCells g (M.cur*5) (xG ⟨{q.b with term:=t },q.pv,q.ov,.slice ta t.to.length tc,q.ol⟩)):=nB _ _ HB.out.drew hXg
 have hcl: [Value.slice pa q.b.params.length pc,.slice oa q.ol.length oc,.int .i64 t.kind,.int .i64 t.a,.slice ta t.to.length tc]=xG ⟨{q.b with term:=t },q.pv,q.ov,.slice ta t.to.length tc,q.ol⟩:=by unfold xG;rw[hpv,hovf]
 rw[hcl]
 refine⟨rfl,X,⟨_,_,_,h.turn (M':=M.endB t) hq rfl hs (fun _ e=>e) (fun k e=>Nat.lt_of_lt_of_le (h.xl k e) hs.size) h.xB (fun k hk' hx hne _=>(ye g k hne _ _ _).trans (HB.out.drew.block k hk')) (fun e=>zC hok.own h.blk (.inr (by decide)) e) (uZ yr hkp.own rfl hq _) ?_ (fun j qj k hj h1 h2=>h.apart j _ qj q k hj hq h2 h1) ?_ ⟨rfl,rfl,rfl,rfl,rfl⟩ ?_⟩,hs⟩
 ·exact⟨⟨hk,ha⟩,hok.par.step zn (hs.av K),hok.ops,yD hok.own (fun k hk'=>(ye g k (fun e=>by
   rcases zo hok.own h.own (by decide) with h1|h1
   ·rw[h1] at hk';cases hk'
   ·exact h1 (by rw[hk',e];rfl)) _ _ _).trans (HB.out.drew.block k (hok.own.lt k hk').2)),fun o ho=>⟨(hok.arg o ho).1,(hok.arg o ho).2.step zn (hs.av K)⟩,hto.step yq (hs.av K),hok.inX⟩
 ·exact xI hb _
 ·have:=(zv M t).sz
  have:=h.bnd
  omega
open Go.RowKit
def shpVal (f:Flds):Value:=.agg #[.bool f.is,.bool f.res,.bool f.a,.bool f.b,.bool f.n]
def wL (w:World)(f:Flds)(e:Ending)(w':World):Prop:=e=.returned (shpVal f)/\Below w.heap.size w w'
theorem shp_1 (w:World):Calls Try.prog 54 #[.int .i64 1] w (wL w ⟨true,true,false,false,true⟩):=by
 go_enter Try.func54,Try.ntmps54
 go_wp2
 refine bodyPost_ret (v:=.agg #[.bool true,.bool true,.bool false,.bool false,.bool true]) ?_ rfl ?_
 ·rw[zM rfl]
  go_simp
 ·exact⟨rfl,by repeat' (first|exact Below.refl _ _|(refine Below.alloc ?_ (by simp) _)|(refine Below.setCell ?_ (by simp) _))⟩
theorem shp_2 (w:World):Calls Try.prog 54 #[.int .i64 2] w (wL w ⟨true,true,false,false,true⟩):=by
 go_enter Try.func54,Try.ntmps54
 go_wp2
 refine bodyPost_ret (v:=.agg #[.bool true,.bool true,.bool false,.bool false,.bool true]) ?_ rfl ?_
 ·rw[zM rfl]
  go_simp
 ·exact⟨rfl,by repeat' (first|exact Below.refl _ _|(refine Below.alloc ?_ (by simp) _)|(refine Below.setCell ?_ (by simp) _))⟩
theorem shp_3 (w:World):Calls Try.prog 54 #[.int .i64 3] w (wL w ⟨true,true,true,false,false⟩):=by
 go_enter Try.func54,Try.ntmps54
 go_wp2
 refine bodyPost_ret (v:=.agg #[.bool true,.bool true,.bool true,.bool false,.bool false]) ?_ rfl ?_
 ·rw[zM rfl]
  go_simp
 ·exact⟨rfl,by repeat' (first|exact Below.refl _ _|(refine Below.alloc ?_ (by simp) _)|(refine Below.setCell ?_ (by simp) _))⟩
theorem shp_4 (w:World):Calls Try.prog 54 #[.int .i64 4] w (wL w ⟨true,true,true,false,false⟩):=by
 go_enter Try.func54,Try.ntmps54
 go_wp2
 refine bodyPost_ret (v:=.agg #[.bool true,.bool true,.bool true,.bool false,.bool false]) ?_ rfl ?_
 ·rw[zM rfl]
  go_simp
 ·exact⟨rfl,by repeat' (first|exact Below.refl _ _|(refine Below.alloc ?_ (by simp) _)|(refine Below.setCell ?_ (by simp) _))⟩
theorem shp_18 (w:World):Calls Try.prog 54 #[.int .i64 18] w (wL w ⟨true,true,true,false,false⟩):=by
 go_enter Try.func54,Try.ntmps54
 go_wp2
 refine bodyPost_ret (v:=.agg #[.bool true,.bool true,.bool true,.bool false,.bool false]) ?_ rfl ?_
 ·rw[zM rfl]
  go_simp
 ·exact⟨rfl,by repeat' (first|exact Below.refl _ _|(refine Below.alloc ?_ (by simp) _)|(refine Below.setCell ?_ (by simp) _))⟩
theorem shp_19 (w:World):Calls Try.prog 54 #[.int .i64 19] w (wL w ⟨true,true,true,false,false⟩):=by
 go_enter Try.func54,Try.ntmps54
 go_wp2
 refine bodyPost_ret (v:=.agg #[.bool true,.bool true,.bool true,.bool false,.bool false]) ?_ rfl ?_
 ·rw[zM rfl]
  go_simp
 ·exact⟨rfl,by repeat' (first|exact Below.refl _ _|(refine Below.alloc ?_ (by simp) _)|(refine Below.setCell ?_ (by simp) _))⟩
theorem shp_20 (w:World):Calls Try.prog 54 #[.int .i64 20] w (wL w ⟨true,false,true,true,false⟩):=by
 go_enter Try.func54,Try.ntmps54
 go_wp2
 refine bodyPost_ret (v:=.agg #[.bool true,.bool false,.bool true,.bool true,.bool false]) ?_ rfl ?_
 ·rw[zM rfl]
  go_simp
 ·exact⟨rfl,by repeat' (first|exact Below.refl _ _|(refine Below.alloc ?_ (by simp) _)|(refine Below.setCell ?_ (by simp) _))⟩
theorem shp_21 (w:World):Calls Try.prog 54 #[.int .i64 21] w (wL w ⟨true,false,true,true,false⟩):=by
 go_enter Try.func54,Try.ntmps54
 go_wp2
 refine bodyPost_ret (v:=.agg #[.bool true,.bool false,.bool true,.bool true,.bool false]) ?_ rfl ?_
 ·rw[zM rfl]
  go_simp
 ·exact⟨rfl,by repeat' (first|exact Below.refl _ _|(refine Below.alloc ?_ (by simp) _)|(refine Below.setCell ?_ (by simp) _))⟩
theorem shp_22 (w:World):Calls Try.prog 54 #[.int .i64 22] w (wL w ⟨true,true,true,false,true⟩):=by
 go_enter Try.func54,Try.ntmps54
 go_wp2
 refine bodyPost_ret (v:=.agg #[.bool true,.bool true,.bool true,.bool false,.bool true]) ?_ rfl ?_
 ·rw[zM rfl]
  go_simp
 ·exact⟨rfl,by repeat' (first|exact Below.refl _ _|(refine Below.alloc ?_ (by simp) _)|(refine Below.setCell ?_ (by simp) _))⟩
theorem shp_23 (w:World):Calls Try.prog 54 #[.int .i64 23] w (wL w ⟨true,true,true,false,true⟩):=by
 go_enter Try.func54,Try.ntmps54
 go_wp2
 refine bodyPost_ret (v:=.agg #[.bool true,.bool true,.bool true,.bool false,.bool true]) ?_ rfl ?_
 ·rw[zM rfl]
  go_simp
 ·exact⟨rfl,by repeat' (first|exact Below.refl _ _|(refine Below.alloc ?_ (by simp) _)|(refine Below.setCell ?_ (by simp) _))⟩
theorem shp_24 (w:World):Calls Try.prog 54 #[.int .i64 24] w (wL w ⟨true,true,false,false,true⟩):=by
 go_enter Try.func54,Try.ntmps54
 go_wp2
 refine bodyPost_ret (v:=.agg #[.bool true,.bool true,.bool false,.bool false,.bool true]) ?_ rfl ?_
 ·rw[zM rfl]
  go_simp
 ·exact⟨rfl,by repeat' (first|exact Below.refl _ _|(refine Below.alloc ?_ (by simp) _)|(refine Below.setCell ?_ (by simp) _))⟩
theorem shp_25 (w:World):Calls Try.prog 54 #[.int .i64 25] w (wL w ⟨true,false,true,false,true⟩):=by
 go_enter Try.func54,Try.ntmps54
 go_wp2
 refine bodyPost_ret (v:=.agg #[.bool true,.bool false,.bool true,.bool false,.bool true]) ?_ rfl ?_
 ·rw[zM rfl]
  go_simp
 ·exact⟨rfl,by repeat' (first|exact Below.refl _ _|(refine Below.alloc ?_ (by simp) _)|(refine Below.setCell ?_ (by simp) _))⟩
theorem shp_26 (w:World):Calls Try.prog 54 #[.int .i64 26] w (wL w ⟨true,false,false,false,false⟩):=by
 go_enter Try.func54,Try.ntmps54
 go_wp2
 refine bodyPost_ret (v:=.agg #[.bool true,.bool false,.bool false,.bool false,.bool false]) ?_ rfl ?_
 ·rw[zM rfl]
  go_simp
 ·exact⟨rfl,by repeat' (first|exact Below.refl _ _|(refine Below.alloc ?_ (by simp) _)|(refine Below.setCell ?_ (by simp) _))⟩
theorem shp_27 (w:World):Calls Try.prog 54 #[.int .i64 27] w (wL w ⟨true,false,false,false,false⟩):=by
 go_enter Try.func54,Try.ntmps54
 go_wp2
 refine bodyPost_ret (v:=.agg #[.bool true,.bool false,.bool false,.bool false,.bool false]) ?_ rfl ?_
 ·rw[zM rfl]
  go_simp
 ·exact⟨rfl,by repeat' (first|exact Below.refl _ _|(refine Below.alloc ?_ (by simp) _)|(refine Below.setCell ?_ (by simp) _))⟩
theorem shp_mid (c:Int)(h:5<=c/\c<=17)(w:World):Calls Try.prog 54 #[.int .i64 c] w (wL w ⟨true,true,true,true,false⟩):=by
 have t1:((c:Int)==1)=false:=by rw[beq_eq_false_iff_ne];omega
 have t2:((c:Int)==2)=false:=by rw[beq_eq_false_iff_ne];omega
 have t3:((c:Int)==3)=false:=by rw[beq_eq_false_iff_ne];omega
 have t4:((c:Int)==4)=false:=by rw[beq_eq_false_iff_ne];omega
 have t18:((c:Int)==18)=false:=by rw[beq_eq_false_iff_ne];omega
 have t19:((c:Int)==19)=false:=by rw[beq_eq_false_iff_ne];omega
 have t20:((c:Int)==20)=false:=by rw[beq_eq_false_iff_ne];omega
 have t21:((c:Int)==21)=false:=by rw[beq_eq_false_iff_ne];omega
 have t22:((c:Int)==22)=false:=by rw[beq_eq_false_iff_ne];omega
 have t23:((c:Int)==23)=false:=by rw[beq_eq_false_iff_ne];omega
 have t24:((c:Int)==24)=false:=by rw[beq_eq_false_iff_ne];omega
 have t25:((c:Int)==25)=false:=by rw[beq_eq_false_iff_ne];omega
 have t26:((c:Int)==26)=false:=by rw[beq_eq_false_iff_ne];omega
 have t27:((c:Int)==27)=false:=by rw[beq_eq_false_iff_ne];omega
 have d1:decide (5<=c)=true:=by rw[decide_eq_true_eq];omega
 have d2:decide (c<=17)=true:=by rw[decide_eq_true_eq];omega
 clear h
 go_enter Try.func54,Try.ntmps54
 go_wp2
 refine bodyPost_ret (v:=.agg #[.bool true,.bool true,.bool true,.bool true,.bool false]) ?_ rfl ?_
 ·rw[zM rfl]
  go_simp
 ·exact⟨rfl,by repeat' (first|exact Below.refl _ _|(refine Below.alloc ?_ (by simp) _)|(refine Below.setCell ?_ (by simp) _))⟩
theorem shp_low (c:Int)(h:c<1)(w:World):Calls Try.prog 54 #[.int .i64 c] w (wL w ⟨false,false,false,false,false⟩):=by
 have t1:((c:Int)==1)=false:=by rw[beq_eq_false_iff_ne];omega
 have t2:((c:Int)==2)=false:=by rw[beq_eq_false_iff_ne];omega
 have t3:((c:Int)==3)=false:=by rw[beq_eq_false_iff_ne];omega
 have t4:((c:Int)==4)=false:=by rw[beq_eq_false_iff_ne];omega
 have t18:((c:Int)==18)=false:=by rw[beq_eq_false_iff_ne];omega
 have t19:((c:Int)==19)=false:=by rw[beq_eq_false_iff_ne];omega
 have t20:((c:Int)==20)=false:=by rw[beq_eq_false_iff_ne];omega
 have t21:((c:Int)==21)=false:=by rw[beq_eq_false_iff_ne];omega
 have t22:((c:Int)==22)=false:=by rw[beq_eq_false_iff_ne];omega
 have t23:((c:Int)==23)=false:=by rw[beq_eq_false_iff_ne];omega
 have t24:((c:Int)==24)=false:=by rw[beq_eq_false_iff_ne];omega
 have t25:((c:Int)==25)=false:=by rw[beq_eq_false_iff_ne];omega
 have t26:((c:Int)==26)=false:=by rw[beq_eq_false_iff_ne];omega
 have t27:((c:Int)==27)=false:=by rw[beq_eq_false_iff_ne];omega
 have d1:decide (5<=c)=false:=by rw[decide_eq_false_iff_not];omega
 have d2:decide (c<=17)=true:=by rw[decide_eq_true_eq];omega
 clear h
 go_enter Try.func54,Try.ntmps54
 go_wp2
 refine bodyPost_ret (v:=.agg #[.bool false,.bool false,.bool false,.bool false,.bool false]) ?_ rfl ?_
 ·rw[zM rfl]
  go_simp
 ·exact⟨rfl,by repeat' (first|exact Below.refl _ _|(refine Below.alloc ?_ (by simp) _)|(refine Below.setCell ?_ (by simp) _))⟩
theorem shp_high (c:Int)(h:27<c)(w:World):Calls Try.prog 54 #[.int .i64 c] w (wL w ⟨false,false,false,false,false⟩):=by
 have t1:((c:Int)==1)=false:=by rw[beq_eq_false_iff_ne];omega
 have t2:((c:Int)==2)=false:=by rw[beq_eq_false_iff_ne];omega
 have t3:((c:Int)==3)=false:=by rw[beq_eq_false_iff_ne];omega
 have t4:((c:Int)==4)=false:=by rw[beq_eq_false_iff_ne];omega
 have t18:((c:Int)==18)=false:=by rw[beq_eq_false_iff_ne];omega
 have t19:((c:Int)==19)=false:=by rw[beq_eq_false_iff_ne];omega
 have t20:((c:Int)==20)=false:=by rw[beq_eq_false_iff_ne];omega
 have t21:((c:Int)==21)=false:=by rw[beq_eq_false_iff_ne];omega
 have t22:((c:Int)==22)=false:=by rw[beq_eq_false_iff_ne];omega
 have t23:((c:Int)==23)=false:=by rw[beq_eq_false_iff_ne];omega
 have t24:((c:Int)==24)=false:=by rw[beq_eq_false_iff_ne];omega
 have t25:((c:Int)==25)=false:=by rw[beq_eq_false_iff_ne];omega
 have t26:((c:Int)==26)=false:=by rw[beq_eq_false_iff_ne];omega
 have t27:((c:Int)==27)=false:=by rw[beq_eq_false_iff_ne];omega
 have d1:decide (5<=c)=true:=by rw[decide_eq_true_eq];omega
 have d2:decide (c<=17)=false:=by rw[decide_eq_false_iff_not];omega
 clear h
 go_enter Try.func54,Try.ntmps54
 go_wp2
 refine bodyPost_ret (v:=.agg #[.bool false,.bool false,.bool false,.bool false,.bool false]) ?_ rfl ?_
 ·rw[zM rfl]
  go_simp
 ·exact⟨rfl,by repeat' (first|exact Below.refl _ _|(refine Below.alloc ?_ (by simp) _)|(refine Below.setCell ?_ (by simp) _))⟩
theorem shp_any (c:Int)(w:World):Calls Try.prog 54 #[.int .i64 c] w (wL w (zi c)):=by
 rcases rJ c with⟨h,e⟩|⟨h,e⟩|⟨h,e⟩|⟨h,e⟩|⟨h,e⟩|⟨h,e⟩|⟨h,e⟩|⟨h,e⟩<;>rw[e]
 ·rcases h with rfl|rfl|rfl
  ·exact shp_1 w
  ·exact shp_2 w
  ·exact shp_24 w
 ·rcases h with rfl|rfl|rfl|rfl
  ·exact shp_3 w
  ·exact shp_4 w
  ·exact shp_18 w
  ·exact shp_19 w
 ·exact shp_mid c h w
 ·rcases h with rfl|rfl
  ·exact shp_20 w
  ·exact shp_21 w
 ·rcases h with rfl|rfl
  ·exact shp_22 w
  ·exact shp_23 w
 ·subst h;exact shp_25 w
 ·rcases h with rfl|rfl
  ·exact shp_26 w
  ·exact shp_27 w
 ·rcases h with h|h
  ·exact shp_low c h w
  ·exact shp_high c h w
open Go.RowKit
theorem nW (c:Int):((zi c).res=true/\uc c=true)∨((zi c).res=false/\c=26/\uc c=true)∨((zi c).res=false/\c≠26/\uc c=false):=by
 unfold uc
 by_cases h:(zi c).res=true
 ·exact .inl ⟨h,by rw[h];rfl⟩
 ·have h':(zi c).res=false:=by simpa using h
  by_cases e:c=26
  ·exact .inr (.inl ⟨h',e,by rw[decide_eq_true e,Bool.or_true]⟩)
  ·exact .inr (.inr ⟨h',e,by rw[h',decide_eq_false e];rfl⟩)
def uN (M:MS)(c:Int):Nat:=if uc c then M.next+1 else M.next
def sB (M:MS)(c:Int):Int:=if uc c then(M.next:Int) else -1
def EmMid (w:World)(K:MKC)(X:Nat->Prop)(M:MS)(fv vv:Value)(l:List BM)(o:IOp)(av:Value)(wx:World):Prop:=
 wx.heap[w.heap.size]? =some (.cells #[.int .i64 o.code,.int .i64 (sB M o.code),.int .i64 o.a,.int .i64 o.b,.int .u16 (o.n:Int),av] 77 (0,0))/\MkIn wx K X {M with next:=uN M o.code } fv vv l/\Stp X w X wx
theorem rD {w:World}{K:MKC}{X:Nat->Prop}{M:MS}(h:wW w K X M){o:IOp}(ho:qN o){av:Value}(hav:wm w (K.av X) av o.args)(hcur:M.cur<M.f.length)(hz:M.sz+3<=1000000):
 Calls Try.prog 117 #[.pointer (some ⟨K.pm,0,none⟩),.agg #[.int .i64 o.code,.int .i64 o.res,.int .i64 o.a,.int .i64 o.b,.int .u16 (o.n:Int),av]] w (yk K X w (M.emit o) (.int .i64 (sB M o.code))):=by
 obtain⟨fv,vv,l,h⟩:=h
 obtain⟨aa,ac,hav1,_,_⟩:=hav.form
 have hpml:=lt_of_block h.blk
 have H:=Lib.hid (And.intro h (And.intro ho (And.intro hav (And.intro hav1 (And.intro hcur hz)))))
 clear h ho hav hcur hz
 subst hav1
 go_enter Try.func117,Try.ntmps117
 go_upto_region 3 with(go_at_call 54;go_must (refine(shp_any o.code _).mono ?_;rintro e w1 ⟨rfl,hb1⟩;unfold shpVal;have bx:w1.heap[w.heap.size]? =some (.cells #[.int .i64 o.code,.int .i64 o.res,.int .i64 o.a,.int .i64 o.b,.int .u16 (o.n:Int),.slice aa o.args.length ac] 77 (0,0)):=zH hb1 (zI rfl) (by simp);have y0:=zA (i:=0) bx rfl;have y1:=zA (i:=1) bx rfl;have fy1:w1.frozen? ⟨w.heap.size,1,none⟩=false:=zE bx;have hl1:=lt_of_block bx))
 have hw1:Below w.heap.size w w1:=(((Below.refl w.heap.size w).alloc (Nat.le_refl _) _).trans (hb1.mono (by simp)))
 have hb2:Below w.heap.size w ((w1.setCell ⟨w.heap.size,1,none⟩ (.int .i64 (-1))).alloc (.cells #[.bool (zi o.code).is,.bool (zi o.code).res,.bool (zi o.code).a,.bool (zi o.code).b,.bool (zi o.code).n] 111)):=(hw1.setCell (Nat.le_refl _) _).alloc (by have:=hw1.size;simp;omega) _
 have hx2:((w1.setCell ⟨w.heap.size,1,none⟩ (.int .i64 (-1))).alloc (.cells #[.bool (zi o.code).is,.bool (zi o.code).res,.bool (zi o.code).a,.bool (zi o.code).b,.bool (zi o.code).n] 111)).heap[w.heap.size]? =some (.cells #[.int .i64 o.code,.int .i64 (-1),.int .i64 o.a,.int .i64 o.b,.int .u16 (o.n:Int),.slice aa o.args.length ac] 77 (0,0)):=zB (zD bx _)
 have hf2:((w1.setCell ⟨w.heap.size,1,none⟩ (.int .i64 (-1))).alloc (.cells #[.bool (zi o.code).is,.bool (zi o.code).res,.bool (zi o.code).a,.bool (zi o.code).b,.bool (zi o.code).n] 111)).heap[w1.heap.size]? =some (.cells #[.bool (zi o.code).is,.bool (zi o.code).res,.bool (zi o.code).a,.bool (zi o.code).b,.bool (zi o.code).n] 111 (0,0)):=zI (by simp)
 generalize hW2:(w1.setCell ⟨w.heap.size,1,none⟩ (.int .i64 (-1))).alloc (.cells #[.bool (zi o.code).is,.bool (zi o.code).res,.bool (zi o.code).a,.bool (zi o.code).b,.bool (zi o.code).n] 111)=W2 at *
 generalize hc2:w1.heap.size=c2 at *
 have z0:=zA (i:=0) hx2 rfl
 have z1:=zA (i:=1) hf2 rfl
 have H2:=Lib.hid (And.intro hb2 (And.intro hx2 hf2))
 clear hb1 bx y0 y1 fy1 hw1 hb2 hx2 hf2 hW2
 go_cut [17] (fun v wx=>v=.bool (uc o.code)/\wx=W2)
 case first=>
  rcases nW o.code with⟨e1,e2⟩|⟨e1,e3,e2⟩|⟨e1,e3,e2⟩
  all_goals rw[e1] at z1
  all_goals have E2:=Lib.hid e2
  ·clear e1 e2
   go_wp2
   go_meet
   exact⟨by rw[E2.out],rfl⟩
  ·have t26:(o.code==26)=true:=by rw[e3];rfl
   clear e1 e2 e3
   go_wp2
   go_meet
   exact⟨by rw[E2.out],rfl⟩
  ·have t26:(o.code==26)=false:=by rw[beq_eq_false_iff_ne];exact e3
   clear e1 e2 e3
   go_wp2
   go_meet
   exact⟨by rw[E2.out],rfl⟩
 case rest=>
  obtain⟨rfl,hwc⟩:=hcut
  subst wc
  have hk2:=H.out.1.keep H2.out.1
  have hfr:=ot hk2 (by have:=H.out.2.2.2.2.2;omega)
  have hmid0:uc o.code=false->EmMid w K X M fv vv l o (.slice aa o.args.length ac) W2:=fun e=>by
   have e1:sB M o.code=-1:=by unfold sB;rw[e];rfl
   have e2:uN M o.code=M.next:=by unfold uN;rw[e];rfl
   exact⟨by rw[e1];exact H2.out.2.1,by rw[e2];exact hk2,Stp.of_below H2.out.1⟩
  have hmid1:uc o.code=true->EmMid w K X M fv vv l o (.slice aa o.args.length ac) ((W2.setCell ⟨K.pm,6,none⟩ (.int .i64 ((M.next+1:Nat):Int))).setCell ⟨w.heap.size,1,none⟩ (.int .i64 (M.next:Int))):=fun e=>by
   have e1:sB M o.code=(M.next:Int):=by unfold sB;rw[e];rfl
   have e2:uN M o.code=M.next+1:=by unfold uN;rw[e];rfl
   have hpl:=lt_of_block H.out.1.blk
   have hp2:=(hk2.blk)
   have hon:=H.out.1.only (W:=((W2.setCell ⟨K.pm,6,none⟩ (.int .i64 ((M.next+1:Nat):Int))).setCell ⟨w.heap.size,1,none⟩ (.int .i64 (M.next:Int)))) (M':= {M with next:=M.next+1 }) (by simpa using H2.out.1.size) ⟨H2.out.1.os,H2.out.1.tape,H2.out.1.output⟩ (fun k hk hne=>(Below.heap_setCell _ ⟨w.heap.size,1,none⟩ _ k (by show k≠w.heap.size;omega)).trans ((Below.heap_setCell _ ⟨K.pm,6,none⟩ _ k hne).trans (H2.out.1.block k hk)))
    (zR (zD hp2 _) (by show K.pm≠w.heap.size;omega)) rfl rfl (by have:=H.out.2.2.2.2.2;unfold MS.sz at *;simp only at *;omega) H.out.1.lft
   refine⟨?_,by rw[e2];exact hon.1,hon.2⟩
   rw[e1]
   exact zD (zR H2.out.2.1 (by show w.heap.size≠K.pm;omega)) _
  have z1w:∀(u:Value),(W2.setCell ⟨K.pm,6,none⟩ u).frozen? ⟨w.heap.size,1,none⟩=false:=fun u=>(World.frozen?_setCell ..).trans (zE H2.out.2.1)
  have z1c:∀(u:Value),(W2.setCell ⟨K.pm,6,none⟩ u).cell? ⟨w.heap.size,1,none⟩=some (.int .i64 (-1)):=fun u=>zA (i:=1) (zR (a:=⟨K.pm,6,none⟩) (u:=u) H2.out.2.1 (by show w.heap.size≠K.pm;omega)) rfl
  have HF:=Lib.hid (And.intro hfr (And.intro hmid0 hmid1))
  clear hfr hmid0 hmid1 hk2
  go_upto_if 17 with fail
  go_cut [] (fun wx=>Hid (EmMid w K X M fv vv l o (.slice aa o.args.length ac) wx))
  case first=>
   obtain⟨r,hr⟩:∃r,uc o.code=r:=⟨_,rfl⟩
   have HR:=Lib.hid hr
   rw[hr]
   clear hr
   cases r
   ·go_wp2
    go_meet
    exact Lib.hid (HF.out.2.1 HR.out)
   ·go_wp2_with (go_at_call 90;go_must (refine HF.out.1.mono ?_;rintro e w3 ⟨rfl,rfl⟩))
    go_meet
    exact Lib.hid (HF.out.2.2 HR.out)
  case rest=>
   obtain⟨hbx,h,hs⟩:=hcut.out
   have hcur:=H.out.2.2.2.2.1
   obtain⟨b,hb⟩:∃b,M.f[M.cur]? =some b:=⟨_,List.getElem?_eq_getElem hcur⟩
   obtain⟨q,hq,rfl,hok⟩:=h.getB (i:=M.cur) hb
   obtain⟨g,c,rfl,hXg,hgl,hgp⟩:=h.fblk hq
   obtain⟨pa,pc,hpv,_,_⟩:=hok.par.form
   obtain⟨oa,oc,hovf⟩:=zG hok.own
   obtain⟨ea,ec,htv,_,_⟩:=hok.tos.form
   have c4:=h.c4
   have c5:wc.cell? ⟨K.pm,5,none⟩=some (.int .i64 (M.cur:Int)):=h.c5
   have hrg:=z9 yr h.own rfl hq
   have e0:wc.cell? ⟨g,M.cur*5,none⟩=some q.pv:=hrg 0 _ rfl
   have e1:=hrg 1 _ rfl
   have e2:=hrg 2 _ rfl
   have e3:=hrg 3 _ rfl
   have e4:=hrg 4 _ rfl
   have hpml:=lt_of_block h.blk
   have hll:l.length=M.f.length:=h.len
   have hcI:(M.cur:Int)<(l.length:Int):=by omega
   have hc0:(0:Int)<=(M.cur:Int):=by omega
   have hbl:=lt_of_block hbx
   rw[hpv] at e0
   rw[hovf] at e1
   rw[htv] at e4
   have hall:∀w',Below wc.heap.size wc w'->w'.cell? ⟨K.pm,4,none⟩=some (.slice (some ⟨g,0,none⟩) l.length c)/\w'.cell? ⟨K.pm,5,none⟩=some (.int .i64 (M.cur:Int))/\w'.cell? ⟨g,M.cur*5,none⟩=some (.slice pa q.b.params.length pc)/\w'.cell? ⟨g,M.cur*5+1,none⟩=some (.slice oa q.ol.length oc)/\w'.cell? ⟨g,M.cur*5+2,none⟩=some (.int .i64 q.b.term.kind)/\w'.cell? ⟨g,M.cur*5+3,none⟩=some (.int .i64 q.b.term.a)/\w'.cell? ⟨g,M.cur*5+4,none⟩=some (.slice ea q.b.term.to.length ec):=fun w' hb=>⟨zV hb hpml c4,zV hb hpml c5,zV hb hgl e0,zV hb hgl e1,zV hb hgl e2,zV hb hgl e3,zV hb hgl e4⟩
   have HALL:=Lib.hid hall
   have HC:=Lib.hid (And.intro h (And.intro hq (And.intro hok (And.intro hb (And.intro hpv (And.intro hovf (And.intro htv (And.intro hbx hs))))))))
   obtain⟨R,hR⟩:∃R,sB M o.code=R:=⟨_,rfl⟩
   rw[hR] at hbx
   have HR:=Lib.hid hR
   clear hall c4 c5 e0 e1 e2 e3 e4 h hs hq hok hb hrg hpv hovf htv hll hcut HF z1w z1c z0 z1 hR
   go_upto_region 5 with fail
   go_region_held3 (fun w'=>w'.cell? ⟨K.pm,4,none⟩=some (.slice (some ⟨g,0,none⟩) l.length c)/\w'.cell? ⟨K.pm,5,none⟩=some (.int .i64 (M.cur:Int))/\w'.cell? ⟨g,M.cur*5,none⟩=some (.slice pa q.b.params.length pc)/\w'.cell? ⟨g,M.cur*5+1,none⟩=some (.slice oa q.ol.length oc)/\w'.cell? ⟨g,M.cur*5+2,none⟩=some (.int .i64 q.b.term.kind)/\w'.cell? ⟨g,M.cur*5+3,none⟩=some (.int .i64 q.b.term.a)/\w'.cell? ⟨g,M.cur*5+4,none⟩=some (.slice ea q.b.term.to.length ec))
    ((refine HALL.out _ ?_;repeat' (first|exact Below.refl _ _|refine Below.drew ?_|refine Below.alloc ?_ (by simp<;>omega) _|refine Below.setCell ?_ (by simp<;>omega) _)))
    (fail)
   go_upto_region 6 with fail
   have hb2:Below wc.heap.size wc ((wc.alloc (.cells #[.slice pa q.b.params.length pc,.slice oa q.ol.length oc,.int .i64 q.b.term.kind,.int .i64 q.b.term.a,.slice ea q.b.term.to.length ec] 49)).drew):=((Below.refl _ _).alloc (Nat.le_refl _) _).drew
   have hl2:((wc.alloc (.cells #[.slice pa q.b.params.length pc,.slice oa q.ol.length oc,.int .i64 q.b.term.kind,.int .i64 q.b.term.a,.slice ea q.b.term.to.length ec] 49)).drew).heap[wc.heap.size]? =some (.cells #[.slice pa q.b.params.length pc,.slice oa q.ol.length oc,.int .i64 q.b.term.kind,.int .i64 q.b.term.a,.slice ea q.b.term.to.length ec] 49 (0,0)):=zI rfl
   generalize hV2:(wc.alloc (.cells #[.slice pa q.b.params.length pc,.slice oa q.ol.length oc,.int .i64 q.b.term.kind,.int .i64 q.b.term.a,.slice ea q.b.term.to.length ec] 49)).drew=V2 at *
   have hk2:=HC.out.1.keep hb2
   have hq2:=HC.out.2.2.1.step (Stp.of_below hb2) (fun k hk=>hb2.block k (HC.out.2.2.1.own.lt k hk).2) (fun _ e=>e)
   have hbx2:=zH hb2 hbx hbl
   have l1:=zA (i:=1) hl2 rfl
   have x0:=zA (i:=0) hbx2 rfl
   have x1:=zA (i:=1) hbx2 rfl
   have x2:=zA (i:=2) hbx2 rfl
   have x3:=zA (i:=3) hbx2 rfl
   have x4:=zA (i:=4) hbx2 rfl
   have x5:=zA (i:=5) hbx2 rfl
   have hlb:=lt_of_block hl2
   have hown0:=hq2.own
   rw[HC.out.2.2.2.2.2.1] at hown0
   have hsrc:yM (V2.alloc (.cells #[.int .i64 o.code,.int .i64 R,.int .i64 o.a,.int .i64 o.b,.int .u16 (o.n:Int),.slice aa o.args.length ac] 77)) 6 (.slice (some ⟨V2.heap.size,0,none⟩) 1 1) 1 (zU ({o with res:=R },.slice aa o.args.length ac)):=yM.cells (zI rfl) rfl (by simp[zU,Value.oneCell'])
   have hn:q.ol.length<=1000000:=by
    have h1:=opsN_le HC.out.2.2.2.1
    rw[HC.out.2.2.1.ops,List.length_map] at h1
    have h2:=HC.out.1.bnd
    unfold MS.sz at h2
    simp only at h2
    omega
   have HV:=Lib.hid (And.intro hb2 (And.intro hl2 (And.intro hk2 (And.intro hq2 (And.intro hbx2 (And.intro hown0 (And.intro hsrc hn)))))))
   have hKB:K.B<=V2.heap.size:=hk2.size
   obtain⟨ii,hii,hzi0,hzi1,hzi2⟩:=info_parts Try.info_irop
   clear hb2 hl2 hk2 hq2 hbx2 hown0 hsrc hV2 hbx HALL hn
   go_upto_region 7 with(at_builtin;go_must (refine zK _ rfl (.tmp 33) (.tmp 35) 44 rfl K.B 77 ii (.agg #[.int .i64 0,.int .i64 0,.int .i64 0,.int .i64 0,.int .u16 0,.slice none 0 0]) 6 64 Try.underlying44 hii hzi0 hzi1 hzi2 rfl (by decide) (.slice oa q.ol.length oc) q.ol.length (q.ol.flatMap zU) rfl (HV.out.2.2.2.2.2.1.alloc _) _ 1 (zU ({o with res:=R },.slice aa o.args.length ac)) rfl HV.out.2.2.2.2.2.2.1 (by have:=HV.out.2.2.2.2.2.2.2;unfold maxLen;omega) (by have:=HV.out.2.2.2.2.2.2.2;omega) (by simp;omega) ?_;intro v9 w9 hown hgrow hat;obtain⟨oa9,oc9,rfl⟩:=zG hown;have hz:=zL hgrow (zB HV.out.2.1) (by have:=zC HV.out.2.2.2.2.2.1 HV.out.2.1 (.inr (by decide));exact this);have hz1:=zA (i:=1) hz rfl;have hzf:w9.frozen? ⟨wc.heap.size,1,none⟩=false:=zE hz))
   have hqg:q.ov.ownBlock≠some g:=fun e=>by
    rcases zo HC.out.2.2.1.own HC.out.1.own (by decide) with h1|h1
    ·rw[h1] at e;cases e
    ·exact h1 (by rw[e];rfl)
   have hrow:(Value.slice oa q.ol.length oc).ownBlock=q.ov.ownBlock:=by rw[HC.out.2.2.2.2.2.1]
   rw[hrow] at hgrow hat
   have hfw:(w9.setCell ⟨wc.heap.size,1,none⟩ (.slice oa9 (q.ol.length+1) oc9)).ownsRow K.B 49 5 (.slice (some ⟨g,0,none⟩) l.length c) l.length (l.flatMap xG):=yD HC.out.1.own (fun k e=>by
    have e2:k=g:=by simp[Value.ownBlock] at e;exact e.symm
    subst e2
    exact(Below.heap_setCell w9 ⟨wc.heap.size,1,none⟩ _ k (by show k≠wc.heap.size;omega)).trans ((hgrow.block k (by have:=HV.out.1.size;simp;omega) (fun e3=>hqg e3.symm)).trans ((Below.heap_alloc V2 _ k (by have:=HV.out.1.size;omega)).trans (HV.out.1.block k hgl))))
   have hpmr:q.ov.ownBlock≠some K.pm:=fun e=>zC HC.out.2.2.1.own HC.out.1.blk (.inr (by decide)) e
   have hpm9:=zR (a:=⟨wc.heap.size,1,none⟩) (u:=.slice oa9 (q.ol.length+1) oc9) (zL hgrow (zB HV.out.2.2.1.blk) hpmr) (by show K.pm≠wc.heap.size;omega)
   have hl9:=zD hz (i:=1) (.slice oa9 (q.ol.length+1) oc9)
   have c4:(w9.setCell ⟨wc.heap.size,1,none⟩ (.slice oa9 (q.ol.length+1) oc9)).cell? ⟨K.pm,4,none⟩=some (.slice (some ⟨g,0,none⟩) l.length c):=zA (i:=4) hpm9 rfl
   have c5:(w9.setCell ⟨wc.heap.size,1,none⟩ (.slice oa9 (q.ol.length+1) oc9)).cell? ⟨K.pm,5,none⟩=some (.int .i64 (M.cur:Int)):=zA (i:=5) hpm9 rfl
   have l0:=zA (i:=0) hl9 rfl
   have l1:=zA (i:=1) hl9 rfl
   have l2:=zA (i:=2) hl9 rfl
   have l3:=zA (i:=3) hl9 rfl
   have l4:=zA (i:=4) hl9 rfl
   have HG:=Lib.hid (And.intro hown (And.intro hgrow (And.intro hat (And.intro hz hfw))))
   have hth:=zq (by decide) yr hfw rfl HC.out.2.1
   generalize hW10:w9.setCell ⟨wc.heap.size,1,none⟩ (.slice oa9 (q.ol.length+1) oc9)=W10 at c4 c5 l0 l1 l2 l3 l4 hth ⊢
   have HW10:=Lib.hid hW10
   have HTH:=Lib.hid hth
   clear hown hgrow hat hz hz1 hzf hpm9 hl9 hqg hrow hfw hpmr hth hW10 x0 x1 x2 x3 x4 x5 hKB
   refine zt 11 (by kernel_rfl) (by kernel_rfl) ?_
   simp only[List.take_succ_cons,List.take_zero,List.drop_succ_cons,List.drop_zero]
   repeat (go_big_quiet_step (fail))
   refine wpQuiet_nil ?_
   refine wpList_store_mid rfl 49 (.tmp 48) (.tmp 47) rfl g (M.cur*5) #[.slice pa q.b.params.length pc,.slice oa9 (q.ol.length+1) oc9,.int .i64 q.b.term.kind,.int .i64 q.b.term.a,.slice ea q.b.term.to.length ec] rfl rfl HTH.out (by kernel_rfl) (by simp[Value.oneCell']) ?_
   go_upto_region 8 with fail
   have hput:∃X',MkIn (W10.drew.setCells g (M.cur*5) [.slice pa q.b.params.length pc,.slice oa9 (q.ol.length+1) oc9,.int .i64 q.b.term.kind,.int .i64 q.b.term.a,.slice ea q.b.term.to.length ec]) K X' {M with next:=uN M o.code,f:=M.f.set M.cur {q.b with ops:=q.b.ops++ [{o with res:=R }]}} (.slice (some ⟨g,0,none⟩) l.length c) vv (l.set M.cur ⟨{q.b with ops:=q.b.ops++ [{o with res:=R }]},q.pv,.slice oa9 (q.ol.length+1) oc9,q.tv,q.ol++ [({o with res:=R },.slice aa o.args.length ac)]⟩)
    /\Stp X wc X' (W10.drew.setCells g (M.cur*5) [.slice pa q.b.params.length pc,.slice oa9 (q.ol.length+1) oc9,.int .i64 q.b.term.kind,.int .i64 q.b.term.a,.slice ea q.b.term.to.length ec]):=by
    obtain⟨h,hq,hok,hb,hpv,hovf,htv,hbx,hs⟩:=HC.out
    obtain⟨hown,hgrow,hat,hz,hfw⟩:=HG.out
    refine h.putO (M':= {M with next:=uN M o.code,f:=M.f.set M.cur {q.b with ops:=q.b.ops++ [{o with res:=R }]}}) hq rfl (HV.out.1.alloc HV.out.1.size _) hgrow hown (fun k e=>?_) (Nat.le_refl _) hz ⟨.slice oa9 (q.ol.length+1) oc9,?_⟩ ⟨?_,H.out.2.2.1.step zn (hs.av K)⟩ rfl ⟨rfl,rfl,rfl,rfl,rfl⟩ ?_
    ·rcases hat with e2|e2
     ·exact .inl (by rw[<-e2];exact e)
     ·right
      have e3:=e2.symm.trans e
      have:=HV.out.1.size
      simp at e3
      omega
    ·rw[<-HW10.out]
     unfold xG
     rw[hpv,htv]
    ·obtain⟨o1,o2,o3,o4,o5⟩:=H.out.2.1
     refine⟨o1,?_,o3,o4,o5⟩
     rw[<-HR.out]
     unfold sB
     have:M.next<=M.sz:=by unfold MS.sz;omega
     have:=H.out.2.2.2.2.2
     show I64 (if uc o.code then(M.next:Int) else -1)
     split<;>exact⟨by omega,by omega⟩
    ·have h1:=sN M.f M.cur q.b {q.b with ops:=q.b.ops++ [{o with res:=R }]} hb
     simp at h1
     have h2:=H.out.2.2.2.2.2
     unfold MS.sz at h2 ⊢
     unfold uN
     simp only[List.length_set]
     split<;>omega
   obtain⟨X',hm,hst⟩:=hput
   have hst2:=HC.out.2.2.2.2.2.2.2.2.trans hst
   have hbx3:=hst.blk HC.out.2.2.2.2.2.2.2.1 (fun e=>by have:=H.out.1.xl _ e;omega)
   generalize hWF:W10.drew.setCells g (M.cur*5) [.slice pa q.b.params.length pc,.slice oa9 (q.ol.length+1) oc9,.int .i64 q.b.term.kind,.int .i64 q.b.term.a,.slice ea q.b.term.to.length ec]=WF at *
   generalize l.set M.cur ⟨{q.b with ops:=q.b.ops++ [{o with res:=R }]},q.pv,.slice oa9 (q.ol.length+1) oc9,q.tv,q.ol++ [({o with res:=R },.slice aa o.args.length ac)]⟩=lst at *
   rw[HR.out] at hbx3
   have x1:=zA (i:=1) hbx3 rfl
   have HF:=Lib.hid (And.intro hm (And.intro hst2 hbx3))
   have hmf: {M with next:=uN M o.code,f:=M.f.set M.cur {q.b with ops:=q.b.ops++ [{o with res:=R }]}}= {M.emit o with vals:=M.vals }:=by
    unfold MS.emit
    rw[xI HC.out.2.2.2.1,<-HR.out]
    rfl
   have HMF:=Lib.hid hmf
   clear hm hst hst2 hbx3 hWF hmf c4 c5 l0 l1 l2 l3 l4 HG HTH HW10 HV hlb
   obtain⟨r,hr⟩:∃r,uc o.code=r:=⟨_,rfl⟩
   have HRR:=Lib.hid hr
   clear hr
   cases r
   ·obtain rfl:R=-1:=by rw[<-HR.out];unfold sB;rw[HRR.out];rfl
    go_wp2
    go_ret
    have hlast:=HF.out.1
    rw[HMF.out] at hlast
    have e: {M.emit o with vals:=M.vals }=M.emit o:=by unfold MS.emit;rw[HRR.out];rfl
    rw[e] at hlast
    exact⟨zh HR.out.symm,X',⟨_,_,_,hlast⟩,HF.out.2.1⟩
   ·obtain rfl:R=(M.next:Int):=by rw[<-HR.out];unfold sB;rw[HRR.out];rfl
    obtain⟨va,vc,hvv⟩:=zG HF.out.1.vown
    have hown:=HF.out.1.vown
    have c7:=HF.out.1.c7
    have f7:=HF.out.1.free 7
    have lpm:=lt_of_block HF.out.1.blk
    have nb:=zC hown HF.out.1.blk (.inr (by decide))
    rw[hvv] at hown c7 nb
    have HOWN:=Lib.hid hown
    have HVV:=Lib.hid hvv
    have hvl:M.vals.length<=1000000:=by
     have h2:=H.out.2.2.2.2.2
     unfold MS.sz at h2
     omega
    have c7':∀o,(WF.alloc o).cell? ⟨K.pm,7,none⟩=some (.slice va M.vals.length vc):=fun o=>(World.cell?_of_block (w:=WF) (Below.heap_alloc _ _ _ lpm)).trans c7
    have f7':∀o,(WF.alloc o).frozen? ⟨K.pm,7,none⟩=false:=fun o=>(World.frozen?_of_block (w:=WF) (Below.heap_alloc _ _ _ lpm)).trans f7
    have x1':∀o,(WF.alloc o).cell? ⟨w.heap.size,1,none⟩=some (.int .i64 (M.next:Int)):=fun o=>(World.cell?_of_block (w:=WF) (Below.heap_alloc _ _ _ (lt_of_block HF.out.2.2))).trans x1
    have nbx:=zC hown HF.out.2.2 (.inr (by decide))
    have hB2:K.B<=WF.heap.size:=HF.out.1.size
    have hbl3:=lt_of_block HF.out.2.2
    obtain⟨ij,hij,hzj0,hzj1,hzj2⟩:=info_parts Try.info_int
    clear hown hvv
    go_upto_region 9 with fail
    go_region_law (first|(refine step_append_lies _ (by rfl) (.tmp 56) (.tmp 59) _ (by rfl) K.B 3 ij (.int .i64 0) 1 8 Try.underlying22 hij hzj0 hzj1 hzj2 rfl (by omega) (.slice va M.vals.length vc) M.vals.length (M.vals.map zN) (by rfl) ((HOWN.out.alloc _).drew) ⟨WF.heap.size,0,none⟩ 1 1 [.int .i64 (M.next:Int)] (by rfl) (by rfl) (World.news_of_block (cs:=#[.int .i64 (M.next:Int)]) (t:=3) (fr:=(0,0)) (heap_alloc_new WF _)) (by simp[Value.oneCell']) (by omega) (by unfold maxLen;omega) (by omega) (by simp;omega) (WF.heap.size+1) (by simp) ?_;intro gg cap3 w3 hown3 hgrow hat hlt4;have cp3:=(hgrow.cell_far ⟨K.pm,7,none⟩ (by simp;omega) (Ne.symm nb)).trans (c7' _);have fp3:=(hgrow.frozen_far ⟨K.pm,7,none⟩ (by simp;omega) (Ne.symm nb)).trans (f7' _);have bp3:=(hgrow.cell_far ⟨w.heap.size,1,none⟩ (by simp;omega) (Ne.symm nbx)).trans (x1' _)))
    all_goals go_wp2_with fail
    all_goals go_ret
    all_goals (
     have hz1:(show MS from {M with next:=uN M o.code,f:=M.f.set M.cur {q.b with ops:=q.b.ops++ [{o with res:=(M.next:Int)}]}}).sz+1<=1000000:=by
      have h1:=sN M.f M.cur q.b {q.b with ops:=q.b.ops++ [{o with res:=(M.next:Int)}]} HC.out.2.2.2.1
      simp at h1
      have h2:=H.out.2.2.2.2.2
      unfold MS.sz at h2 ⊢
      unfold uN
      simp only[List.length_set]
      split<;>omega
     have hg2:=xN hgrow
     rw[<-HVV.out] at hg2 hat
     have hP:=HF.out.1.putV (vv':=.slice (some ⟨gg,0,none⟩) (M.vals.length+1) cap3) (x:=(M.next:Int)) hg2 hown3 (fun k e=>by
      have e2:gg=k:=by simpa[Value.ownBlock] using e
      subst e2
      rcases hat with e3|e3
      ·exact .inl e3
      ·right;omega) (by have:=H.out.2.2.2.2.2;have:M.next<=M.sz:=by(unfold MS.sz;omega)
                        exact⟨by omega,by omega⟩) hz1
     have hlast:=hP.1
     have e:(show MS from {(show MS from {M with next:=uN M o.code,f:=M.f.set M.cur {q.b with ops:=q.b.ops++ [{o with res:=(M.next:Int)}]}}) with vals:=M.vals++ [(M.next:Int)]})=M.emit o:=by
      have:=HMF.out
      have h3:(M.emit o).vals=M.vals++ [(M.next:Int)]:=by unfold MS.emit;rw[HRR.out];rfl
      rw[<-h3]
      exact congrArg (fun m:MS=> {m with vals:=(M.emit o).vals }) this
     have e5:=congrArg (fun m=>MkIn (w3.setCell ⟨K.pm,7,none⟩ (.slice (some ⟨gg,0,none⟩) (M.vals.length+1) cap3)) K (fun k=>X' k∨(Value.slice (some ⟨gg,0,none⟩) (M.vals.length+1) cap3).ownBlock=some k) m (.slice (some ⟨g,0,none⟩) l.length c) (.slice (some ⟨gg,0,none⟩) (M.vals.length+1) cap3) lst) e
     exact⟨zh HR.out.symm,_,⟨_,_,_,cast e5 hlast⟩,HF.out.2.1.trans hP.2⟩)
open Go.RowKit
theorem Try.info_irblock:(Try.prog.info? 49).map (fun i=>(i.zero,i.size,i.bytes))=some (some (.agg #[.slice none 0 0,.slice none 0 0,.int .i64 0,.int .i64 0,.slice none 0 0]),5,88):=by kernel_rfl
def iZ (next i:Nat):List Int:=(List.range i).map fun k=>((next+k:Nat):Int)
theorem jE (next i:Nat):iZ next (i+1)=iZ next i++ [((next+i:Nat):Int)]:=by unfold iZ;rw[List.range_succ,List.map_append];rfl
theorem parL_len (next i:Nat):(iZ next i).length=i:=by unfold iZ;simp
structure BlkMid (w:World) (K:MKC) (M:MS) (fv vv:Value) (pv:Value) (i:Nat) (wx:World):Prop where
 box:wx.heap[w.heap.size]? =some (.cells #[pv,.slice none 0 0,.int .i64 0,.int .i64 0,.slice none 0 0] 49 (0,0))
 own:wx.ownsRow (w.heap.size+1) 3 1 pv i ((iZ M.next i).map zN)
 size:w.heap.size+1<=wx.heap.size
 rest:wx.os=w.os/\wx.tape=w.tape/\wx.output=w.output
 kept:∀k,k<w.heap.size->k≠K.pm->wx.heap[k]? =w.heap[k]?
 pm:wx.heap[K.pm]? =some (.cells (uC K {M with next:=M.next+i } fv vv) 120 (0,0))
theorem BlkMid.mk' {w wx:World}{K:MKC}{X:Nat->Prop}{M:MS}{fv vv pv:Value}{l:List BM}{i:Nat}(h:MkIn w K X M fv vv l)(hm:BlkMid w K M fv vv pv i wx)(hz:M.sz+i<=1000000):MkIn wx K X {M with next:=M.next+i } fv vv l/\Stp X w X wx:=
 h.only (by have:=hm.size;omega) hm.rest hm.kept hm.pm rfl rfl (by unfold MS.sz at *;simp only at *;omega) h.lft
theorem BlkMid.start {w:World}{K:MKC}{X:Nat->Prop}{M:MS}{fv vv:Value}{l:List BM}(h:MkIn w K X M fv vv l):BlkMid w K M fv vv (.slice none 0 0) 0 (w.alloc (.cells #[.slice none 0 0,.slice none 0 0,.int .i64 0,.int .i64 0,.slice none 0 0] 49)):=
 ⟨zI rfl,World.ownsRow_nil _ _ _ _,by simp,⟨rfl,rfl,rfl⟩,fun k hk _=>Below.heap_alloc w _ k hk,zB h.blk⟩
theorem BlkMid.next {w wr w3:World}{K:MKC}{X:Nat->Prop}{M:MS}{fv vv pv pv':Value}{l:List BM}{i:Nat}(h:MkIn w K X M fv vv l)(hm:BlkMid w K M fv vv pv i wr){o:Obj}(hg:((wr.setCell ⟨K.pm,6,none⟩ (.int .i64 ((M.next+i+1:Nat):Int))).alloc o).grownBy w3 pv.ownBlock)
 (hown:w3.ownsRow (w.heap.size+1) 3 1 pv' (i+1) ((iZ M.next i).map zN++ [zN ((M.next+i:Nat):Int)])):BlkMid w K M fv vv pv' (i+1) (w3.setCell ⟨w.heap.size,0,none⟩ pv'):=by
 have hpm:=lt_of_block h.blk
 have hpl:=lt_of_block hm.pm
 have hbl:=lt_of_block hm.box
 have n1:=zC hm.own hm.box (.inr (by decide))
 have n2:=zC hm.own hm.pm (.inr (by decide))
 have b1:=zL hg (zB (o:=o) (zR (a:=⟨K.pm,6,none⟩) (u:=.int .i64 ((M.next+i+1:Nat):Int)) hm.box (by show w.heap.size≠K.pm;omega))) n1
 have p1:=zL hg (zB (o:=o) (zD hm.pm (i:=6) (.int .i64 ((M.next+i+1:Nat):Int)))) n2
 have hs:=hg.size
 have hms:=hm.size
 simp at hs
 refine⟨zD b1 _,?_,by simp;omega,⟨hg.os.trans hm.rest.1,hg.tape.trans hm.rest.2.1,hg.output.trans hm.rest.2.2⟩,fun k hk hne=>?_,?_⟩
 ·rw[jE,List.map_append]
  exact ownsRow_setCell_other hown (fun e=>zC hown b1 (.inr (by decide)) (by simpa using e)) _
 ·refine(Below.heap_setCell w3 ⟨w.heap.size,0,none⟩ _ k (by show k≠w.heap.size;omega)).trans ((hg.block k (by simp;omega) (fun e=>?_)).trans ((Below.heap_alloc _ _ k (by simp;omega)).trans ((Below.heap_setCell wr ⟨K.pm,6,none⟩ _ k hne).trans (hm.kept k hk hne))))
  have:=(hm.own.lt k e.symm).1
  omega
 ·exact zR p1 (by show K.pm≠w.heap.size;omega)
theorem rU {w:World}{K:MKC}{X:Nat->Prop}{M:MS}(h:wW w K X M){n:Nat}(hz:M.sz+1+n<=1000000):
 Calls Try.prog 60 #[.pointer (some ⟨K.pm,0,none⟩),.int .i64 (n:Int)] w (yk K X w (M.block n) (.int .i64 (M.f.length:Int))):=by
 obtain⟨fv,vv,l,h⟩:=h
 have H:=Lib.hid (And.intro h hz)
 have hst:=BlkMid.start h
 have HST:=Lib.hid hst
 have hpmw:=lt_of_block h.blk
 clear h hz hst
 go_enter Try.func60,Try.ntmps60
 go_wp2
 go_loopw [6] (fun iv wx=>∃(i:Nat) (pv:Value),i<=n/\iv=.int .i64 (i:Int)/\Hid (BlkMid w K M fv vv pv i wx)) (fun iv _=>n-(intOf iv).toNat)
 case atStart=>exact⟨0,_,Nat.zero_le _,rfl,HST⟩
 case round=>
  obtain⟨i,pv,hi,rfl,HM⟩:=hrel
  by_cases hlt:i<n
  ·have hltI:(i:Int)<n:=by omega
   have hltI':i+1<=n:=hlt
   obtain⟨pa,pc,hpv⟩:=zG HM.out.own
   have hk:=(BlkMid.mk' H.out.1 HM.out (by have:=H.out.2;omega)).1
   have hfr:Calls Try.prog 90 #[.pointer (some ⟨K.pm,0,none⟩)] wr.drew fun e w'=>e=.returned (.int .i64 ((M.next+i:Nat):Int))/\w'=(wr.setCell ⟨K.pm,6,none⟩ (.int .i64 ((M.next+i+1:Nat):Int))).drew:=ot (hk.keep (Below.refl _ _).drew) (by have:=H.out.2;unfold MS.sz at *;simp only at *;omega)
   have hown:=HM.out.own
   rw[hpv] at hown
   have c0:=zA (i:=0) HM.out.box rfl
   rw[hpv] at c0
   have n1:=zC hown HM.out.box (.inr (by decide))
   have hil:i<=1000000:=by have:=H.out.2;omega
   have hbl:=lt_of_block HM.out.box
   have hszr:=HM.out.size
   obtain⟨ij,hij,hzj0,hzj1,hzj2⟩:=info_parts Try.info_int
   have hpml:=lt_of_block HM.out.pm
   have HO:=Lib.hid (And.intro hown (And.intro hfr (And.intro hpv (lt_of_block HM.out.box))))
   have c0':∀(u:Value) (o:Obj),((wr.setCell ⟨K.pm,6,none⟩ u).alloc o).cell? ⟨w.heap.size,0,none⟩=some (.slice pa i pc):=fun u o=>zA (i:=0) (zB (o:=o) (zR (a:=⟨K.pm,6,none⟩) (u:=u) HM.out.box (by show w.heap.size≠K.pm;omega))) (by rw[hpv];rfl)
   have f0':∀(u:Value) (o:Obj),((wr.setCell ⟨K.pm,6,none⟩ u).alloc o).frozen? ⟨w.heap.size,0,none⟩=false:=fun u o=>zE (zB (o:=o) (zR (a:=⟨K.pm,6,none⟩) (u:=u) HM.out.box (by show w.heap.size≠K.pm;omega)))
   have hown1:∀(u:Value) (o:Obj),((wr.setCell ⟨K.pm,6,none⟩ u).alloc o).ownsRow (w.heap.size+1) 3 1 (.slice pa i pc) i ((iZ M.next i).map zN):=fun u o=>(ownsRow_setCell_other hown (fun e=>zC hown HM.out.pm (.inr (by decide)) (by simpa using e)) u).alloc o
   have HOW:=Lib.hid (And.intro hown1 (And.intro c0' f0'))
   clear hpv hown hfr hk c0' f0' hown1
   go_upto_region 5 with fail
   go_region_law (first|(refine step_append_lies _ (by rfl) (.tmp 13) (.tmp 16) _ (by rfl) (w.heap.size+1) 3 ij (.int .i64 0) 1 8 Try.underlying22 hij hzj0 hzj1 hzj2 rfl (by omega) (.slice pa i pc) i ((iZ M.next i).map zN) (by rfl) ((HOW.out.1 _ _).drew) ⟨wr.heap.size,0,none⟩ 1 1 [.int .i64 ((M.next+i:Nat):Int)] (by rfl) (by rfl) (World.news_of_block (cs:=#[.int .i64 ((M.next+i:Nat):Int)]) (t:=3) (fr:=(0,0)) (zI (by simp))) (by simp[Value.oneCell']) (by omega) (by unfold maxLen;omega) (by omega) (by simp;omega) (wr.heap.size+1) (by simp) ?_;intro gg cap3 w3 hown3 hgrow hat hlt4;have cp3:=(hgrow.cell_far ⟨w.heap.size,0,none⟩ (by simp;omega) (Ne.symm n1)).trans (HOW.out.2.1 _ _);have fp3:=(hgrow.frozen_far ⟨w.heap.size,0,none⟩ (by simp;omega) (Ne.symm n1)).trans (HOW.out.2.2 _ _))|(go_simp;go_at_call 90;refine HO.out.2.1.mono ?_;rintro e w4 ⟨rfl,rfl⟩))
   all_goals go_wp2_with fail
   all_goals (
    refine⟨⟨i+1,.slice (some ⟨gg,0,none⟩) (i+1) cap3,hltI',by go_num,Lib.hid (BlkMid.next H.out.1 HM.out (by rw[HO.out.2.2.1];exact xN hgrow) hown3)⟩,by simp[intOf];omega⟩)
  ·obtain rfl:i=n:=by omega
   have hltI:¬(i:Int)<i:=by omega
   obtain⟨hk,hst⟩:=BlkMid.mk' H.out.1 HM.out (by have:=H.out.2;omega)
   obtain⟨pa,pc,hpv⟩:=zG HM.out.own
   subst hpv
   obtain⟨fa,fc,hfv⟩:=zG hk.own
   subst hfv
   have hpar:wm wr (K.av X) (.slice pa i pc) (wJ M.next i).params:=by
    refine rO HM.out.own (parL_len _ _) (fun x hx=>?_) (fun k e hxk=>?_)
    ·unfold iZ at hx
     obtain⟨m,hm,rfl⟩:=List.mem_map.1 hx
     have h1:=H.out.2
     have h2:=List.mem_range.1 hm
     unfold MS.sz at h1
     exact⟨by omega,by omega⟩
    ·have h2:=(HM.out.own.lt k e).1
     rcases hxk with hxk|hxk
     ·have:=H.out.1.xl k hxk;omega
     ·have:=H.out.1.env.zl k hxk;omega
   have hown:=hk.own
   have nb:=zC hown HM.out.pm (.inr (by decide))
   have c4:=hk.c4
   have hpml:=lt_of_block HM.out.pm
   have hbl:=lt_of_block HM.out.box
   have b0:=zA (i:=0) HM.out.box rfl
   have b1:=zA (i:=1) HM.out.box rfl
   have b2:=zA (i:=2) HM.out.box rfl
   have b3:=zA (i:=3) HM.out.box rfl
   have b4:=zA (i:=4) HM.out.box rfl
   have c4':∀o,(wr.alloc o).cell? ⟨K.pm,4,none⟩=some (.slice fa l.length fc):=fun o=>(World.cell?_of_block (w:=wr) (Below.heap_alloc _ _ _ hpml)).trans c4
   have f4':∀o,(wr.alloc o).frozen? ⟨K.pm,4,none⟩=false:=fun o=>(World.frozen?_of_block (w:=wr) (Below.heap_alloc _ _ _ hpml)).trans (hk.free 4)
   have hll:l.length=M.f.length:=H.out.1.len
   have hl6:l.length<=1000000:=by have:=H.out.1.flen;omega
   have hKB:K.B<=wr.heap.size:=hk.size
   obtain⟨ik,hik,hzk0,hzk1,hzk2⟩:=info_parts Try.info_irblock
   have HO:=Lib.hid (And.intro hk (And.intro hst (And.intro hpar (And.intro hown hll))))
   clear hk hst hpar hown hll
   go_upto_region 6 with fail
   go_region_law (first|(refine step_append_lies _ (by rfl) (.tmp 24) (.tmp 26) _ (by rfl) K.B 49 ik (.agg #[.slice none 0 0,.slice none 0 0,.int .i64 0,.int .i64 0,.slice none 0 0]) 5 88 Try.underlying35 hik hzk0 hzk1 hzk2 rfl (by omega) (.slice fa l.length fc) l.length (l.flatMap xG) (by rfl) ((HO.out.2.2.2.1.alloc _).drew) ⟨wr.heap.size,0,none⟩ 1 1 [.slice pa i pc,.slice none 0 0,.int .i64 0,.int .i64 0,.slice none 0 0] (by rfl) (by rfl) (World.news_of_block (cs:=#[.slice pa i pc,.slice none 0 0,.int .i64 0,.int .i64 0,.slice none 0 0]) (t:=49) (fr:=(0,0)) (heap_alloc_new wr _)) (by simp[Value.oneCell']) (by omega) (by unfold maxLen;omega) (by omega) (by simp;omega) (wr.heap.size+1) (by simp) ?_;intro gg cap3 w3 hown3 hgrow hat hlt4;have cp3:=(hgrow.cell_far ⟨K.pm,4,none⟩ (by simp;omega) (Ne.symm nb)).trans (c4' _);have fp3:=(hgrow.frozen_far ⟨K.pm,4,none⟩ (by simp;omega) (Ne.symm nb)).trans (f4' _)))
   all_goals go_wp2_with fail
   all_goals go_ret
   all_goals (
    have hP:=HO.out.1.putB (fv':=.slice (some ⟨gg,0,none⟩) (l.length+1) cap3) (b:=wJ M.next i) (pv:=.slice pa i pc) (xN hgrow) ⟨rfl,rfl⟩ hown3 (fun k e=>by
     have e2:gg=k:=by simpa[Value.ownBlock] using e
     subst e2
     rcases hat with e3|e3
     ·exact .inl e3
     ·right;omega) HO.out.2.2.1 (by have:=H.out.2;unfold MS.sz at *;simp only at *;omega)
    refine⟨zh (by have:=HO.out.2.2.2.2;omega),_,⟨_,_,_,hP.1⟩,HO.out.2.1.trans hP.2⟩)
open Go.RowKit
theorem emRes_of {M:MS}{c:Int}(h:uc c=true):sB M c=(M.next:Int):=by unfold sB;rw[h];rfl
theorem vG (x:Int)(h1:-1000000<=x)(h2:x<=1000000):I64 x:=⟨by omega,by omega⟩
theorem yF (x:Int)(h:(decide (-1000000<=x) && decide (x<=1000000))=true):I64 x:=by
 simp only[Bool.and_eq_true,decide_eq_true_eq] at h
 exact vG x h.1 h.2
theorem conOp_ok {n:Nat}(hn:n<65536):qN (conOp n):=⟨yF _ rfl,yF _ rfl,yF _ rfl,yF _ rfl,hn⟩
theorem ks {w:World}{K:MKC}{X:Nat->Prop}{M:MS}(h:wW w K X M){n:Nat}(hn:n<65536)(hcur:M.cur<M.f.length)(hz:M.sz+3<=1000000):
 Calls Try.prog 94 #[.pointer (some ⟨K.pm,0,none⟩),.int .u16 (n:Int)] w (yk K X w (M.num n) (.int .i64 (M.next:Int))):=by
 have hem:=rD h (conOp_ok hn) yE.nil hcur hz
 rw[emRes_of (show uc (conOp n).code=true from rfl)] at hem
 have HEM:=Lib.hid (show Calls Try.prog 117 #[.pointer (some ⟨K.pm,0,none⟩),.agg #[.int .i64 1,.int .i64 0,.int .i64 0,.int .i64 0,.int .u16 (n:Int),.slice none 0 0]] w (yk K X w (M.num n) (.int .i64 (M.next:Int))) from hem)
 clear h hem hcur hz
 go_enter Try.func94,Try.ntmps94
 go_wp2_with (go_at_call 117;go_must (refine HEM.out.mono ?_;rintro e w1 ⟨rfl,hm⟩))
 go_ret
 exact⟨rfl,hm⟩
theorem MkIn.valAt {w:World}{K:MKC}{X:Nat->Prop}{M:MS}{fv:Value}{l:List BM}{g n c:Nat}(h:MkIn w K X M fv (.slice (some ⟨g,0,none⟩) n c) l){i:Nat}(hi:i<M.vals.length):w.cell? ⟨g,i,none⟩=some (.int .i64 (M.vals.getD i 0)):=by
 have:=h.vown.cells rfl i (.int .i64 (M.vals.getD i 0)) (by rw[List.getElem?_map,List.getElem?_eq_getElem hi,List.getD_eq_getElem?_getD,List.getElem?_eq_getElem hi];rfl)
 rw[Addr.add_mid,Nat.zero_add] at this
 exact this
theorem pu {w:World}{K:MKC}{X:Nat->Prop}{M:MS}(h:wW w K X M)(hcur:M.cur<M.f.length)(hz:M.sz+4<=1000000):
 Calls Try.prog 62 #[.pointer (some ⟨K.pm,0,none⟩)] w (yk K X w (zJ K.E M).2 (.int .i64 (zJ K.E M).1)):=by
 obtain⟨fv,vv,l,h⟩:=h
 have c7:=h.c7
 have hown:=h.vown
 obtain⟨va,vc,rfl⟩:=zG hown
 have hvl:M.vals.length<=1000000:=by unfold MS.sz at hz;omega
 have H:=Lib.hid (And.intro h (And.intro hcur hz))
 clear h hcur hz
 by_cases h0:M.vals.length=0
 ·have hmk:zJ K.E M=((M.next:Int),M.tick.num (tkV K.E M 9)):=by unfold zJ;rw[if_pos h0]
  have HMK:=Lib.hid hmk
  have t0:((M.vals.length:Int)==0)=true:=by rw[beq_iff_eq];omega
  have t0':(M.vals.length==0)=true:=by rw[beq_iff_eq];omega
  have htk:=uD H.out.1 (n:=9) (by decide) (by decide) (by have:=H.out.2.2;omega)
  have hlt:=vO K.E M (n:=9) (by decide)
  have HT:=Lib.hid htk
  clear hmk hown h0 htk
  go_enter Try.func62,Try.ntmps62
  go_wp2_with (first|(go_at_call 59;go_must (refine HT.out.mono ?_;rintro e w1 ⟨rfl,hm1,hs1⟩))|(go_at_call 94;go_must (refine(ks hm1.at (n:=tkV K.E M 9) (by omega) H.out.2.1 (by have:=(zT M).sz;have:=H.out.2.2;omega)).mono ?_;rintro e w2 ⟨rfl,X2,hm2,hs2⟩)))
  go_ret
  rw[HMK.out]
  exact⟨rfl,X2,hm2,hs1.trans hs2⟩
 ·have hp:0<M.vals.length:=by omega
  obtain⟨g,cap,e,hgB,hgl⟩:=hown.form hp
  cases e
  have t0:((M.vals.length:Int)==0)=false:=by rw[beq_eq_false_iff_ne];omega
  have t0':(M.vals.length==0)=false:=by rw[beq_eq_false_iff_ne];omega
  have HT1:=Lib.hid (uD H.out.1 (n:=M.vals.length) hp hvl (by have:=H.out.2.2;omega))
  have hlt:=vO K.E M hp
  clear h0 hown
  go_enter Try.func62,Try.ntmps62
  go_upto_region 4 with(go_at_call 59;go_must (refine HT1.out.mono ?_;rintro e w1 ⟨rfl,hm1,hs1⟩))
  have HT2:=Lib.hid (uD hm1 (n:=3) (by decide) (by decide) (by have:=(zT M).sz;have:=H.out.2.2;omega))
  obtain⟨z3,hz3⟩:∃z,tkV K.E M.tick 3=z:=⟨_,rfl⟩
  rw[hz3] at HT2
  obtain⟨z0,hz0⟩:∃z,tkV K.E M M.vals.length=z:=⟨_,rfl⟩
  rw[hz0] at hlt
  try rw[hz0]
  by_cases h3:0<z3
  ·have h3I:(0:Int)<(z3:Int):=by omega
   have hmk:zJ K.E M=(M.vals.getD (M.vals.length-1-tkV K.E M.tick.tick (min 4 M.vals.length)) 0,M.tick.tick.tick):=by unfold zJ;rw[if_neg (by omega),if_pos (by rw[hz3];exact h3)]
   have hZ:=Lib.hid (And.intro hmk (And.intro hz3 hz0))
   clear hmk hz3 hz0
   go_upto_region 5 with(go_at_call 59;go_must (refine HT2.out.mono ?_;rintro e w2 ⟨rfl,hm2,hs2⟩))
   have hmin0:0<min 4 M.vals.length:=by omega
   have hmin:∀(ts:Array TypeId) (t:TypeId) (W:World),(Builtin.min_ ts t #[.int .i64 4,.int .i64 (M.vals.length:Int)]).run Try.prog W=.ok (.int .i64 ((min 4 M.vals.length:Nat):Int)) W:=fun ts t W=>by rw[show((min 4 M.vals.length:Nat):Int)=if(M.vals.length:Int)<(4:Int) then(M.vals.length:Int) else 4 by split<;>omega];exact run_min_int2 ..
   have HT3:=Lib.hid (uD (hm2.keep (Below.refl _ _).drew) (n:=min 4 M.vals.length) hmin0 (by omega) (by have:=(zT M).sz;have:=(zT M.tick).sz;have:=H.out.2.2;omega))
   have hlt4:=vO K.E M.tick.tick hmin0
   obtain⟨z4,hz4⟩:∃z,tkV K.E M.tick.tick (min 4 M.vals.length)=z:=⟨_,rfl⟩
   rw[hz4] at HT3 hlt4
   obtain⟨mn,hmn⟩:∃m,min 4 M.vals.length=m:=⟨_,rfl⟩
   rw[hmn] at HT3 hmin hlt4
   have hmn4:mn<=M.vals.length:=by omega
   have HZ4:=Lib.hid (And.intro hz4 hmn)
   have d7:=hm2.c7
   have HM2:=Lib.hid (And.intro hm2 (hs1.trans hs2))
   clear hz4 hmn hm1 hs1 hm2 hs2 c7 hmin0
   go_region_held3 (fun w'=>w'.cell? ⟨K.pm,7,none⟩=some (.slice (some ⟨g,0,none⟩) M.vals.length vc)) (first|exact d7|assumption|(exact MkIn.c7 (by assumption)))
    ((go_at_call 59;refine HT3.out.mono ?_;rintro e w3 ⟨rfl,hm3,hs3⟩))
   have hv:=hm3.valAt (i:=M.vals.length-1-z4) (show M.vals.length-1-z4<M.vals.length by omega)
   obtain⟨ix,hix⟩:∃ix:Nat,M.vals.length-1-z4=ix:=⟨_,rfl⟩
   have hc1:IntKind.i64.wrap (IntKind.i64.wrap ((M.vals.length:Int)-1)-(z4:Int))=(ix:Int):=by
    rw[IntWalk.i64_in ((M.vals.length:Int)-1) (by omega),IntWalk.i64_in _ (by omega)];omega
   rw[hc1]
   rw[hix] at hv
   have hxI:(ix:Int)<(M.vals.length:Int):=by omega
   have hst:=HM2.out.2.trans ((Stp.of_below (Below.refl _ _).drew).trans hs3)
   have HR:=Lib.hid (And.intro hm3 (And.intro hst hix))
   clear hm3 hst hs3 hix hc1 d7
   go_wp2
   go_ret
   rw[hZ.out.1]
   exact⟨zh (by rw[HZ4.out.1,HR.out.2.2,List.getD_eq_getElem?_getD];rfl),X,HR.out.1.at,HR.out.2.1⟩
  ·have h3I:¬(0:Int)<(z3:Int):=by omega
   have hmk:zJ K.E M=(M.vals.getD z0 0,M.tick.tick):=by unfold zJ;rw[if_neg (by omega),if_neg (by rw[hz3];exact h3),hz0]
   have hZ:=Lib.hid hmk
   clear hmk hz3 hz0
   go_upto_region 6 with(go_at_call 59;go_must (refine HT2.out.mono ?_;rintro e w2 ⟨rfl,hm2,hs2⟩))
   have hv:=hm2.valAt (i:=z0) hlt
   have d7:=hm2.c7
   have hxI:(z0:Int)<(M.vals.length:Int):=by omega
   have HR:=Lib.hid (And.intro hm2 (hs1.trans hs2))
   clear hm2 hs1 hs2 hm1
   go_wp2
   go_ret
   rw[hZ.out]
   exact⟨rfl,X,HR.out.1.at,HR.out.2⟩
open Go.RowKit
theorem addr_any {w:World}{K:MKC}{X:Nat->Prop}{M:MS}(h:wW w K X M)(hcur:M.cur<M.f.length)(hz:M.sz+6<=1000000):
 Calls Try.prog 118 #[.pointer (some ⟨K.pm,0,none⟩)] w (yk K X w (yJ K.E M).2 (.int .i64 (yJ K.E M).1)):=by
 obtain⟨fv,vv,l,h⟩:=h
 have HT1:=Lib.hid (uD h (n:=24) (by decide) (by decide) (by omega))
 have H:=Lib.hid (And.intro hcur hz)
 obtain⟨z1,hz1⟩:∃z,tkV K.E M 24=z:=⟨_,rfl⟩
 rw[hz1] at HT1
 have HZ1:=Lib.hid hz1
 clear h hcur hz hz1
 by_cases h0:z1=23
 ·have hmk:yJ K.E M=zJ K.E M.tick:=by unfold yJ;rw[if_pos (by rw[HZ1.out];exact h0)]
  have HMK:=Lib.hid hmk
  have t0:((z1:Int)==23)=true:=by rw[beq_iff_eq];omega
  have t0':(z1==23)=true:=by rw[beq_iff_eq];omega
  clear hmk h0
  go_enter Try.func118,Try.ntmps118
  go_wp2_with (first|(go_at_call 59;go_must (refine HT1.out.mono ?_;rintro e w1 ⟨rfl,hm1,hs1⟩))|(go_at_call 62;go_must (refine(pu hm1.at H.out.1 (by have:=(zT M).sz;have:=H.out.2;omega)).mono ?_;rintro e w2 ⟨rfl,X2,hm2,hs2⟩)))
  go_ret
  rw[HMK.out]
  exact⟨rfl,X2,hm2,hs1.trans hs2⟩
 ·have hmk:yJ K.E M=((M.next:Int),M.tick.tick.tick.emit ⟨2,0,(tkV K.E M.tick 2:Nat),0,tkV K.E M.tick.tick (sE (tkV K.E M.tick 2)),[]⟩):=by unfold yJ;rw[if_neg (by rw[HZ1.out];exact h0)]
  have HMK:=Lib.hid hmk
  have t0:((z1:Int)==23)=false:=by rw[beq_eq_false_iff_ne];omega
  have t0':(z1==23)=false:=by rw[beq_eq_false_iff_ne];omega
  clear hmk h0
  go_enter Try.func118,Try.ntmps118
  go_upto_region 3 with(go_at_call 59;go_must (refine HT1.out.mono ?_;rintro e w1 ⟨rfl,hm1,hs1⟩))
  have HT2:=Lib.hid (uD hm1 (n:=2) (by decide) (by decide) (by have:=(zT M).sz;have:=H.out.2;omega))
  have hk2:=vO K.E M.tick (n:=2) (by decide)
  obtain⟨k,hk⟩:∃z,tkV K.E M.tick 2=z:=⟨_,rfl⟩
  rw[hk] at HT2 hk2
  have HK:=Lib.hid hk
  clear hk
  go_upto_region 4 with(go_at_call 59;go_must (refine HT2.out.mono ?_;rintro e w2 ⟨rfl,hm2,hs2⟩))
  have g1:=(zT M).sz
  have g2:=(zT M.tick).sz
  have g3:=(zT M.tick.tick).sz
  have HT3:=Lib.hid (uD hm2 (n:=sE k) (by unfold sE;split<;>decide) (by unfold sE;split<;>decide) (by have:=H.out.2;omega))
  have hk3:=vO K.E M.tick.tick (n:=sE k) (by unfold sE;split<;>decide)
  obtain⟨z3,hz3⟩:∃z,tkV K.E M.tick.tick (sE k)=z:=⟨_,rfl⟩
  rw[hz3] at HT3 hk3
  have HZ3:=Lib.hid hz3
  obtain⟨db,hdv,hdX,hdb⟩:=hm2.env.data
  have c2:=hm2.c2
  have p4:=zA (i:=4) hm2.env.prog rfl
  rw[hdv] at p4
  have hk15:z3<15:=by unfold sE at hk3;split at hk3<;>omega
  have HS:=Lib.hid (hs1.trans hs2)
  have hem:∀(w3:World),MkIn w3 K X M.tick.tick.tick fv vv l->Calls Try.prog 117 #[.pointer (some ⟨K.pm,0,none⟩),.agg #[.int .i64 2,.int .i64 0,.int .i64 (k:Int),.int .i64 0,.int .u16 (z3:Int),.slice none 0 0]] w3 (yk K X w3 (M.tick.tick.tick.emit ⟨2,0,(k:Int),0,z3,[]⟩) (.int .i64 (M.next:Int))):=fun w3 hm3=>
   rD hm3.at (o:=⟨2,0,(k:Int),0,z3,[]⟩) ⟨yF _ rfl,yF _ rfl,vG (k:Int) (by omega) (by omega),yF _ rfl,(by show z3<65536;omega)⟩ yE.nil H.out.1 (by have:=H.out.2;omega)
  have HEM:=Lib.hid hem
  clear hm1 hs1 hs2 hz3 hm2 hdX hem
  have hk01:k=0∨k=1:=by omega
  rcases hk01 with rfl|rfl
  ·have d2:w2.cell? ⟨db,2,none⟩=some (.int .u16 16):=zA hdb rfl
   have HT4:=Lib.hid (show Calls Try.prog 59 #[.pointer (some ⟨K.pm,0,none⟩),.int .i64 15] w2 _ from HT3.out)
   go_wp2_with (first|(go_at_call 59;go_must (refine HT4.out.mono ?_;rintro e w3 ⟨rfl,hm3,hs3⟩))|(go_at_call 117;go_must (refine(HEM.out _ hm3).mono ?_;rintro e w4 ⟨rfl,X4,hm4,hs4⟩)))
   go_ret
   rw[HMK.out,HK.out,HZ3.out]
   exact⟨rfl,X4,hm4,HS.out.trans (hs3.trans hs4)⟩
  ·have d2:w2.cell? ⟨db,5,none⟩=some (.int .u16 7):=zA hdb rfl
   have HT4:=Lib.hid (show Calls Try.prog 59 #[.pointer (some ⟨K.pm,0,none⟩),.int .i64 6] w2 _ from HT3.out)
   go_wp2_with (first|(go_at_call 59;go_must (refine HT4.out.mono ?_;rintro e w3 ⟨rfl,hm3,hs3⟩))|(go_at_call 117;go_must (refine(HEM.out _ hm3).mono ?_;rintro e w4 ⟨rfl,X4,hm4,hs4⟩)))
   go_ret
   rw[HMK.out,HK.out,HZ3.out]
   exact⟨rfl,X4,hm4,HS.out.trans (hs3.trans hs4)⟩
open Go.RowKit
def MKC.withZ (K:MKC)(Z:Nat->Prop):MKC:= {K with Z:=Z }
theorem MkIn.off {w W:World}{K:MKC}{X Z2:Nat->Prop}{M:MS}{fv vv:Value}{l:List BM}(h:MkIn w K X M fv vv l)(hsz:w.heap.size<=W.heap.size)(ho:W.os=w.os/\W.tape=w.tape/\W.output=w.output)
 (hk:∀k,k<w.heap.size->(K.Z k->k<K.B)->W.heap[k]? =w.heap[k]?) (hZ:∀k,Z2 k->K.Z k∨w.heap.size<=k) (hZl:∀k,Z2 k->k<W.heap.size):MkIn W (K.withZ Z2) X M fv vv l:=by
 have ha:Stp (K.av X) w ((K.withZ Z2).av X) W:=⟨ho.1,ho.2.1,ho.2.2,hsz,fun k e=>e.elim (fun e=> .inl (.inl e)) (fun e=>(hZ k e).elim (fun e=> .inl (.inr e)) .inr),fun k hk' hx=>hk k hk' (fun e=>absurd (.inr e) hx)⟩
 have hx:∀k,X k->k<w.heap.size/\W.heap[k]? =w.heap[k]?:=fun k e=>⟨h.xl k e,hk k (h.xl k e) (fun e2=>absurd e2 (h.env.zx k e))⟩
 have hb:Below K.B w W:=⟨ho.1,ho.2.1,ho.2.2,hsz,fun k e=>hk k (Nat.lt_of_lt_of_le e h.size) (fun _=>e)⟩
 obtain⟨b,e1,e2,e3⟩:=h.env.data
 refine⟨(hx _ h.xm).2.trans h.blk,yD h.own (fun k e=>(hx k (h.xf k e)).2),h.fl,fun q hq=>?_,h.apart,yD h.vown (fun k e=>(hx k (h.xv k e)).2),h.v64,h.xm,h.xf,h.xv,h.xB,fun k e=>Nat.lt_of_lt_of_le (h.xl k e) hsz,?_,h.bnd,h.lft⟩
 ·have q1:=h.bok q hq
  exact⟨q1.k64,q1.par.step zn ha,q1.ops,yD q1.own (fun k e=>(hx k (q1.inX k e)).2),fun o ho=>⟨(q1.arg o ho).1,(q1.arg o ho).2.step zn ha⟩,q1.tos.step yq ha,q1.inX⟩
 ·exact⟨h.env.s.below zO hb,h.env.fpv,ha.blk h.env.prog h.env.ppX,h.env.args.step zn ha,⟨b,e1,ha.not (lt_of_block e3) e2,ha.blk e3 e2⟩,ha.not (lt_of_block h.env.prog) h.env.ppX,h.env.h64,h.env.len,h.env.nf,h.env.alt,
   fun k e1 e2=>(hZ k e2).elim (h.env.zx k e1) (fun e3=>by have:=h.xl k e1;omega),hZl⟩
theorem oD {w:World}{K:MKC}{X:Nat->Prop}{M:MS}(h:wW w K X M):I64 (zJ K.E M).1:=by
 obtain⟨fv,vv,l,h⟩:=h
 have hb:=h.bnd
 have hv:∀i,I64 (M.vals.getD i 0):=fun i=>by
  rw[List.getD_eq_getElem?_getD]
  cases hx:M.vals[i]? with
  |none=>exact yF _ rfl
  |some x=>exact h.v64 x (List.mem_of_getElem? hx)
 unfold zJ
 split
 ·unfold MS.sz at hb;exact⟨by show -9223372036854775808<=(M.next:Int);omega,by show(M.next:Int)<=9223372036854775807;omega⟩
 split
 ·exact hv _
 ·exact hv _
structure ArgMid (w:World) (K:MKC) (X:Nat->Prop) (M:MS) (av:Value) (j:Nat) (wx:World):Prop where
 own:wx.ownsRow w.heap.size 3 1 av j ((yI K.E j M).1.map zN)
 i64:∀x∈(yI K.E j M).1,I64 x
 made:∃Xj,wW wx (K.withZ fun k=>K.Z k∨av.ownBlock=some k) Xj (yI K.E j M).2/\Stp X w Xj wx
theorem qw (E:ME):∀(n:Nat) (M:MS),(yI E n M).1.length=n
 |0,_=>rfl
 |n+1,M=>by show((yI E n M).1++ [_]).length=_;rw[List.length_append,qw E n M];rfl
theorem ArgMid.start {w:World}{K:MKC}{X:Nat->Prop}{M:MS}(h:wW w K X M):ArgMid w K X M (.slice none 0 0) 0 w:=by
 refine⟨World.ownsRow_nil _ _ _ _,(fun x hx=>by cases hx),X,?_,Stp.refl _ _⟩
 obtain⟨fv,vv,l,h⟩:=h
 exact⟨fv,vv,l,h.off (Nat.le_refl _) ⟨rfl,rfl,rfl⟩ (fun _ _ _=>rfl) (fun k e=>e.elim .inl (fun e=>by simp[Value.ownBlock] at e)) (fun k e=>e.elim (h.env.zl k) (fun e=>by simp[Value.ownBlock] at e))⟩
theorem ArgMid.next {w wx w2 w3:World}{K:MKC}{X X2:Nat->Prop}{M:MS}{av av':Value}{j:Nat}{o:Obj}(h:ArgMid w K X M av j wx)(h2:wW w2 (K.withZ fun k=>K.Z k∨av.ownBlock=some k) X2 (yI K.E (j+1) M).2)(hs2:Stp X w X2 w2)(hr2:w2.ownsRow w.heap.size 3 1 av j ((yI K.E j M).1.map zN))(hx:I64 (zJ K.E (yI K.E j M).2).1)
 (hXB:∀k,X k->k<w.heap.size) (hB:K.B<=w.heap.size) (hg:(w2.alloc o).grownBy w3 av.ownBlock) (hown:w3.ownsRow w.heap.size 3 1 av' (j+1) ((yI K.E j M).1.map zN++ [zN (zJ K.E (yI K.E j M).2).1])) (hat:∀k,av'.ownBlock=some k->av.ownBlock=some k∨w2.heap.size<=k):ArgMid w K X M av' (j+1) w3:=by
 obtain⟨fv,vv,l,h2⟩:=h2
 have hsz:w2.heap.size<=w3.heap.size:=by have:=hg.size;simp at this;omega
 have hk:∀k,k<w2.heap.size->av.ownBlock≠some k->w3.heap[k]? =w2.heap[k]?:=fun k hk hne=>(hg.block k (by simp;omega) (fun e=>hne e.symm)).trans (Below.heap_alloc w2 o k hk)
 refine⟨?_,?_,X2,⟨fv,vv,l,h2.off (K:=K.withZ fun k=>K.Z k∨av.ownBlock=some k) hsz ⟨hg.os,hg.tape,hg.output⟩ (fun k hk' hz=>hk k hk' (fun e=>by have h1:k<K.B:=hz (.inr e);have:=(hr2.lt k e).1;omega)) (fun k e=>e.elim (fun e=> .inl (.inl e)) (fun e=>(hat k e).elim (fun e=> .inl (.inr e)) .inr)) (fun k e=>e.elim (fun e=>Nat.lt_of_lt_of_le (h2.env.zl k (.inl e)) hsz) (fun e=>(hown.lt k e).2))⟩,?_⟩
 ·show w3.ownsRow w.heap.size 3 1 av' (j+1) (((yI K.E j M).1++ [(zJ K.E (yI K.E j M).2).1]).map zN)
  rw[List.map_append];exact hown
 ·intro x hx'
  rcases List.mem_append.1 hx' with hx'|hx'
  ·exact h.i64 x hx'
  ·rw[List.mem_singleton] at hx';subst hx';exact hx
 ·refine⟨hg.os.trans hs2.os,hg.tape.trans hs2.tape,hg.output.trans hs2.output,Nat.le_trans hs2.size hsz,hs2.new,fun k hk' hx'=>(hk k (Nat.lt_of_lt_of_le hk' hs2.size) (fun e=>?_)).trans (hs2.kept k hk' hx')⟩
  have:=(hr2.lt k e).1;omega
theorem ArgMid.done {w wx:World}{K:MKC}{X:Nat->Prop}{M:MS}{av:Value}{j:Nat}(h:ArgMid w K X M av j wx)(hX:∀k,K.Z k->k<w.heap.size):∃Xj,wW wx K Xj (yI K.E j M).2/\Stp X w Xj wx/\wm wx (K.av Xj) av (yI K.E j M).1:=by
 obtain⟨Xj,⟨fv,vv,l,hm⟩,hs⟩:=h.made
 refine⟨Xj,⟨fv,vv,l,hm.off (Z2:=K.Z) (Nat.le_refl _) ⟨rfl,rfl,rfl⟩ (fun _ _ _=>rfl) (fun k e=> .inl (.inl e)) (fun k e=>hm.env.zl k (.inl e))⟩,hs,?_⟩
 refine rO h.own (qw _ _ _) h.i64 (fun k e hx=>hx.elim (fun e2=>hm.env.zx k e2 (.inr e)) (fun e2=>?_))
 have:=(h.own.lt k e).1
 have:=hX k e2
 omega
open Go.RowKit
theorem jh {w:World}{X:Nat->Prop}{v:Value}{xs:List Int}{a:Option Addr}{n c:Nat}(h:wm w X v xs)(hv:v=.slice a n c){k:Nat}{x:Int}(hx:xs[k]? =some x):∃b o,a=some ⟨b,o,none⟩/\w.cell? ⟨b,o+k,none⟩=some (.int .i64 x):=by
 subst hv
 obtain⟨a',c',e,_,_,h3⟩:=h
 cases e
 obtain⟨b,o,h4,_,_,h5,_⟩:=h3 k x hx
 rw[Nat.mul_one] at h5
 exact⟨b,o,h4,h5⟩
theorem jN {w:World}{K:MKC}{X:Nat->Prop}{M:MS}(h:wW w K X M)(hcur:M.cur<M.f.length)(hz:M.sz+16<=1000000):
 Calls Try.prog 119 #[.pointer (some ⟨K.pm,0,none⟩)] w (yk K X w (vN K.E M) (.tuple #[])):=by
 obtain⟨fv,vv,l,h⟩:=h
 have H:=Lib.hid (And.intro h (And.intro hcur hz))
 have c2:=h.c2
 have c3:=h.c3
 obtain⟨pa,pc,hpv⟩:=h.env.fpv
 have p0:=zA (i:=0) h.env.prog rfl
 rw[hpv] at p0
 have hnf:=h.env.nf
 have hpl:=lt_of_block h.env.prog
 have hpml:=lt_of_block h.blk
 clear h hcur hz hpv
 have hw1:IntKind.i64.wrap ((K.E.nf:Int)-(K.E.me:Int))=(K.E.nf:Int)-(K.E.me:Int):=IntWalk.i64_in _ (by omega)
 have hw2:IntKind.i64.wrap ((K.E.nf:Int)-(K.E.me:Int)-1)=(K.E.nf:Int)-(K.E.me:Int)-1:=IntWalk.i64_in _ (by omega)
 by_cases h0:K.E.nf<=K.E.me+1
 ·have hmk:vN K.E M=M:=by unfold vN;rw[if_pos h0]
  have HMK:=Lib.hid hmk
  have hw3:(K.E.nf:Int)-(K.E.me:Int)-1<1:=by omega
  clear hmk
  go_enter Try.func119,Try.ntmps119
  go_upto_region 0 with fail
  go_quiet (fail)
  go_wp2
  first|go_end0|refine bodyPost_ret (results_none rfl _ _ _) rfl ?_
  rw[HMK.out]
  exact⟨rfl,X,⟨_,_,_,H.out.1.keep (yL _ _ _)⟩,Stp.of_below (yL _ _ _)⟩
 ·obtain⟨m,hm⟩:∃m:Nat,K.E.nf-K.E.me-1=m:=⟨_,rfl⟩
  have hm1:1<=m:=by omega
  have hw3:¬(K.E.nf:Int)-(K.E.me:Int)-1<1:=by omega
  have hmI:(K.E.nf:Int)-(K.E.me:Int)-1=(m:Int):=by omega
  have hmI3:¬(m:Int)<1:=by omega
  rw[hmI] at hw2
  clear hw3
  go_enter Try.func119,Try.ntmps119
  go_upto_region 0 with fail
  go_cut [2] (fun v wx=>v=.int .i64 (m:Int)/\∃n,wx=w.drewN n)
  case first=>
   go_quiet (fail)
   go_wp2
   go_meet
   exact⟨by first|rfl|(rw[hmI]),_,rfl⟩
  case rest=>
   obtain⟨rfl,n0,rfl⟩:=hcut
   have hk1:=H.out.1.keep (yL _ w n0)
   generalize hW1:w.drewN n0=W1 at *
   have hs1:Stp X w X W1:=by rw[<-hW1];exact Stp.of_below (yL _ _ _)
   have HK1:=Lib.hid (And.intro hk1 hs1)
   have HT:=Lib.hid (uD (hk1.keep (Below.refl _ _).drew) (n:=m) (by omega) (by omega) (by have:=H.out.2.2;omega))
   have hlt:=vO K.E M (n:=m) (by omega)
   obtain⟨z,hz⟩:∃z,tkV K.E M m=z:=⟨_,rfl⟩
   rw[hz] at HT hlt
   have HZ:=Lib.hid (And.intro hz hm)
   have d3:=hk1.c3
   clear hk1 hs1 hz hm hW1 c2 c3 p0 hw1 hw2
   go_upto_region 2 with fail
   obtain⟨f,hf⟩:∃f:Nat,K.E.me+1+z=f:=⟨_,rfl⟩
   have hfI:(K.E.me:Int)+1+(z:Int)=(f:Int):=by omega
   have HFI:=Lib.hid (show IntKind.i64.wrap (IntKind.i64.wrap ((K.E.me:Int)+1)+(z:Int))=(f:Int) by rw[IntWalk.i64_in ((K.E.me:Int)+1) (by omega),IntWalk.i64_in _ (by omega)];exact hfI)
   clear hfI
   go_cut [3] (fun v wx=>v=.int .i64 (f:Int)/\Hid (MkIn wx K X M.tick fv vv l/\Stp X w X wx))
   case first=>
    go_region_held3 (fun w'=>w'.cell? ⟨K.pm,3,none⟩=some (.int .i64 (K.E.me:Int))) (first|exact d3|assumption|(exact MkIn.c3 (by assumption)))
     ((go_at_call 59;refine HT.out.mono ?_;rintro e w2 ⟨rfl,hm2,hs2⟩))
    all_goals go_wp2_with fail
    go_meet
    exact⟨by rw[HFI.out],Lib.hid ⟨hm2,HK1.out.2.trans ((Stp.of_below (Below.refl _ _).drew).trans hs2)⟩⟩
   obtain⟨rfl,hcc⟩:=hcut
   obtain⟨hm2,hst2⟩:=hcc.out
   generalize hWC:wc=w2 at *
   clear hcc hWC
   have hfn:f<K.E.nf:=by have:=HZ.out.2;omega
   have d2:=hm2.c2
   have p3:=zA (i:=3) hm2.env.prog rfl
   have HM2:=Lib.hid (And.intro hm2 (And.intro hst2 hf))
   have hpl2:=lt_of_block hm2.env.prog
   have hpml2:=lt_of_block hm2.blk
   clear hm2 hst2 hf d3 HK1 HT
   by_cases hh:(f:Int)=K.E.handler
   ·have t0:((f:Int)==K.E.handler)=true:=by rw[beq_iff_eq];exact hh
    have hmk:vN K.E M=M.tick:=by
     unfold vN
     rw[if_neg h0]
     simp only
     rw[HZ.out.2,HZ.out.1,HM2.out.2.2,if_pos hh]
    have HMK:=Lib.hid hmk
    clear hmk hh
    go_wp2
    first|go_end0|refine bodyPost_ret (results_none rfl _ _ _) rfl ?_
    rw[HMK.out]
    exact⟨rfl,X,HM2.out.1.at,HM2.out.2.1⟩
   ·have t0:((f:Int)==K.E.handler)=false:=by rw[beq_eq_false_iff_ne];exact hh
    have hmk:vN K.E M=(yI K.E (K.E.args.getD f 0).toNat M.tick).2.emit ⟨26,0,(f:Nat),0,0,(yI K.E (K.E.args.getD f 0).toNat M.tick).1⟩:=by
     unfold vN
     rw[if_neg h0]
     simp only
     rw[HZ.out.2,HZ.out.1,HM2.out.2.2,if_neg hh]
    have HMK:=Lib.hid hmk
    clear hmk hh
    obtain⟨aa,ac,hav,_,_⟩:=HM2.out.1.env.args.form
    have hargs:=HM2.out.1.env.args
    have hlen:=HM2.out.1.env.len
    have HAV:=Lib.hid (And.intro hav hargs)
    obtain⟨x,hx⟩:∃x,K.E.args[f]? =some x:=⟨_,List.getElem?_eq_getElem (by rw[hlen];exact hfn)⟩
    obtain⟨hx0,hx4⟩:=HM2.out.1.env.alt x (List.mem_of_getElem? hx)
    have hxg:K.E.args.getD f 0=x:=by rw[List.getD_eq_getElem?_getD,hx];rfl
    obtain⟨c,hc⟩:∃c:Nat,x.toNat=c:=⟨_,rfl⟩
    have hcx:x=(c:Int):=by omega
    have hmz:=(zT M).sz
    have HX:=Lib.hid (And.intro hx (And.intro hxg (And.intro hc hcx)))
    have hc3:c<=3:=by omega
    have hst0:=ArgMid.start HM2.out.1.at
    have HST:=Lib.hid hst0
    clear hav hargs hx hxg hc hcx hst0 hx0 hx4
    go_upto_region 5 with fail
    go_wp2
    clear d2 p3
    go_loopw [4,5] (fun rv jv wx=>∃(j:Nat) (ra:Option Addr) (rc:Nat),j<=c/\rv=.slice ra j rc/\jv=.int .i64 (j:Int)/\Hid (ArgMid w2 K X M.tick (.slice ra j rc) j wx)) (fun _ jv _=>c-(intOf jv).toNat)
    case atStart=>exact⟨0,none,0,Nat.zero_le _,rfl,rfl,HST⟩
    case round=>
     obtain⟨j,ra,rc,hj,rfl,rfl,HA⟩:=hrel
     have hgo:∃Xj fv' vv' l',MkIn wr (K.withZ fun k=>K.Z k∨(Value.slice ra j rc).ownBlock=some k) Xj (yI K.E j M.tick).2 fv' vv' l'/\Stp X w2 Xj wr:=by
      obtain⟨Xj,⟨fv',vv',l',hm⟩,hs⟩:=HA.out.made
      exact⟨Xj,fv',vv',l',hm,hs⟩
     obtain⟨Xj,fv',vv',l',hm,hs⟩:=hgo
     have e2:wr.cell? ⟨K.pm,2,none⟩=some (.pointer (some ⟨K.pp,0,none⟩)):=hm.c2
     have q1:wr.cell? ⟨K.pp,1,none⟩=some K.apv:=zA (i:=1) hm.env.prog rfl
     obtain⟨ab,ao,hab,hac⟩:=jh (show wm wr ((K.withZ fun k=>K.Z k∨(Value.slice ra j rc).ownBlock=some k).av Xj) K.apv K.E.args from hm.env.args) HAV.out.1 HX.out.1
     rw[HAV.out.1,hab] at q1
     rw[HX.out.2.2.2] at hac
     have hfl:(f:Int)<(K.E.args.length:Int):=by omega
     have hHM:=Lib.hid (And.intro hm hs)
     clear hm hs hab
     by_cases hlt:j<c
     ·have hltI:(j:Int)<(c:Int):=by omega
      have hgr:=tj K.E j M.tick
      have hcz:(yI K.E j M.tick).2.cur<(yI K.E j M.tick).2.f.length/\(yI K.E j M.tick).2.sz+4<=1000000:=by
       refine⟨?_,?_⟩
       ·rw[hgr.cur,hgr.len];exact H.out.2.1
       ·have:=hgr.sz;have:=H.out.2.2;omega
      have han:=pu (K:=K.withZ fun k=>K.Z k∨(Value.slice ra j rc).ownBlock=some k) hHM.out.1.at hcz.1 hcz.2
      have hx64:=oD hHM.out.1.at
      obtain⟨y,hy⟩:∃y,(zJ K.E (yI K.E j M.tick).2).1=y:=⟨_,rfl⟩
      have han2:Calls Try.prog 62 #[.pointer (some ⟨K.pm,0,none⟩)] wr (yk (K.withZ fun k=>K.Z k∨(Value.slice ra j rc).ownBlock=some k) Xj wr (yI K.E (j+1) M.tick).2 (.int .i64 y)):=by rw[<-hy];exact han
      have hhat:∀(w4:World) (X4:Nat->Prop),Stp Xj wr X4 w4->w4.ownsRow w2.heap.size 3 1 (.slice ra j rc) j ((yI K.E j M.tick).1.map zN):=fun w4 X4 hs4=>yD HA.out.own (fun k e=>hs4.kept k (HA.out.own.lt k e).2 (fun e2=>hHM.out.1.env.zx k e2 (.inr e)))
      obtain⟨ij,hij,hzj0,hzj1,hzj2⟩:=info_parts Try.info_int
      have HN:=Lib.hid (And.intro han2 (And.intro hx64 (And.intro hy hhat)))
      have HLT:=Lib.hid hlt
      have hjb:j<=3:=by omega
      have hszr:=hHM.out.2.size
      clear han han2 hx64 hy hhat hcz hgr hlt
      go_wp2_with (first|(go_at_call 62;go_must (refine HN.out.1.mono ?_;rintro e w4 ⟨rfl,X4,hm4,hs4⟩;have hr4:=HN.out.2.2.2 w4 X4 hs4;have hs4z:=hs4.size))|(at_builtin;go_must (refine zK _ rfl (.tmp 54) (.tmp 57) 22 rfl w2.heap.size 3 ij (.int .i64 0) 1 8 Try.underlying22 hij hzj0 hzj1 hzj2 rfl (by decide) (.slice ra j rc) j ((yI K.E j M.tick).1.map zN) rfl (hr4.alloc _) _ 1 [.int .i64 y] rfl (yM.one (zI rfl) rfl) (by unfold maxLen;omega) (by omega) (by simp;omega) ?_;intro v9 w9 hown hgrow hat)))
      obtain⟨ra9,rc9,rfl⟩:=zG hown
      go_roundw
      case rel=>
       refine⟨j+1,ra9,rc9,HLT.out,rfl,by go_num,Lib.hid (HA.out.next hm4 (hHM.out.2.trans hs4) hr4 (by rw[HN.out.2.2.1];have:=HN.out.2.1;rw[<-HN.out.2.2.1];exact this) HM2.out.1.xl HM2.out.1.size hgrow (by rw[HN.out.2.2.1];exact hown) (fun k e=>?_))⟩
       rcases hat with e2|e2
       ·exact .inl (by rw[<-e2];exact e)
       ·right
        have e3:=e2.symm.trans e
        simp at e3
        omega
      case measure=>have:=HLT.out;simp[intOf];omega
     ·obtain rfl:j=c:=by omega
      have hltI:¬(j:Int)<(j:Int):=by omega
      obtain⟨X9,hm9,hs9,hav9⟩:=HA.out.done HM2.out.1.env.zl
      have hgr:=tj K.E j M.tick
      have hem:=rD (o:=⟨26,0,(f:Int),0,0,(yI K.E j M.tick).1⟩) hm9 ⟨yF _ rfl,yF _ rfl,vG (f:Int) (by omega) (by omega),yF _ rfl,(by show 0<65536;omega)⟩ hav9 (by rw[hgr.cur,hgr.len];exact H.out.2.1) (by have:=hgr.sz;have:=H.out.2.2;omega)
      have HEM:=Lib.hid (And.intro hem (HM2.out.2.1.trans hs9))
      clear hm9 hs9 hav9 hgr hem
      go_wp2_with (go_at_call 117;go_must (refine HEM.out.1.mono ?_;rintro e w5 ⟨rfl,X5,hm5,hs5⟩))
      first|go_end0|refine bodyPost_ret (results_none rfl _ _ _) rfl ?_
      rw[HMK.out,HX.out.2.1,HX.out.2.2.1]
      exact⟨rfl,X5,hm5,HEM.out.2.trans hs5⟩
open Go.RowKit
structure OpSt (w0:World) (K:MKC) (X0:Nat->Prop) (M0:MS) (c:Nat) (w:World) (M:MS):Prop where
 made:∃X,wW w K X M/\Stp X0 w0 X w
 gr:GrowP c M0 M
 cur:M.cur<M.f.length
section
variable {w0 w:World} {K:MKC} {X0:Nat->Prop} {M0 M:MS} {c:Nat} (h:OpSt w0 K X0 M0 c w M)
include h
theorem OpSt.take (n:Nat)(hn:0<n)(hn2:n<=1000000)(hz:M0.sz+(c+1)<=1000000):
 Calls Try.prog 59 #[.pointer (some ⟨K.pm,0,none⟩),.int .i64 (n:Int)] w fun e w'=>∃z:Nat,z<n/\Hid (tkV K.E M n=z)/\e=.returned (.int .i64 (z:Int))/\Hid (OpSt w0 K X0 M0 (c+1) w' M.tick):=by
 obtain⟨X,hm,hs⟩:=h.made
 refine(m8 hm hn hn2 (by have:=h.gr.sz;omega)).mono ?_
 rintro e w' ⟨rfl,X',hm',hs'⟩
 exact⟨_,vO _ _ hn,Lib.hid rfl,rfl,Lib.hid ⟨⟨X',hm',hs.trans hs'⟩,h.gr.trans (zT M).p,h.cur⟩⟩
theorem OpSt.takeK (n k:Nat)(kI:Int)(hkI:(k:Int)=kI)(hk:tkV K.E M n=k)(hn:0<n)(hn2:n<=1000000)(hz:M0.sz+(c+1)<=1000000):
 Calls Try.prog 59 #[.pointer (some ⟨K.pm,0,none⟩),.int .i64 (n:Int)] w fun e w'=>e=.returned (.int .i64 kI)/\Hid (OpSt w0 K X0 M0 (c+1) w' M.tick):=by
 refine(h.take n hn hn2 hz).mono ?_
 rintro e w' ⟨z,_,hz,rfl,hm⟩
 refine⟨?_,hm⟩
 rw[<-hkI,<-hk,hz.out]
theorem OpSt.any (hz:M0.sz+(c+4)<=1000000):
 Calls Try.prog 62 #[.pointer (some ⟨K.pm,0,none⟩)] w fun e w'=>∃x:Int,Hid (I64 x/\(zJ K.E M).1=x)/\e=.returned (.int .i64 x)/\Hid (OpSt w0 K X0 M0 (c+4) w' (zJ K.E M).2):=by
 obtain⟨X,hm,hs⟩:=h.made
 refine(pu hm h.cur (by have:=h.gr.sz;omega)).mono ?_
 rintro e w' ⟨rfl,X',hm',hs'⟩
 exact⟨_,Lib.hid ⟨oD hm,rfl⟩,rfl,Lib.hid ⟨⟨X',hm',hs.trans hs'⟩,h.gr.trans (yU K.E M).p,by rw[(yU K.E M).cur,(yU K.E M).len];exact h.cur⟩⟩
theorem OpSt.addr (hz:M0.sz+(c+6)<=1000000):
 Calls Try.prog 118 #[.pointer (some ⟨K.pm,0,none⟩)] w fun e w'=>∃x:Int,Hid (I64 x/\(yJ K.E M).1=x)/\e=.returned (.int .i64 x)/\Hid (OpSt w0 K X0 M0 (c+6) w' (yJ K.E M).2):=by
 obtain⟨X,hm,hs⟩:=h.made
 refine(addr_any hm h.cur (by have:=h.gr.sz;omega)).mono ?_
 rintro e w' ⟨rfl,X',hm',hs'⟩
 refine⟨_,Lib.hid ⟨?_,rfl⟩,rfl,Lib.hid ⟨⟨X',hm',hs.trans hs'⟩,h.gr.trans (ue K.E M).p,by rw[(ue K.E M).cur,(ue K.E M).len];exact h.cur⟩⟩
 unfold yJ
 split
 ·obtain⟨fv,vv,l,hi⟩:=hm
  exact oD ((hi.ticked (by have:=h.gr.sz;omega)).1.at)
 ·obtain⟨fv,vv,l,hi⟩:=hm
  have hb:=hi.bnd
  unfold MS.sz at hb
  exact vG _ (by show -1000000<=(M.next:Int);omega) (by show(M.next:Int)<=1000000;omega)
theorem OpSt.next:(M.next:Int)<=1000000:=by
 obtain⟨X,⟨fv,vv,l,hi⟩,hs⟩:=h.made
 have hb:=hi.bnd
 unfold MS.sz at hb
 omega
theorem OpSt.n64:I64 (M.next:Int):=vG _ (by omega) h.next
theorem OpSt.num (n:Nat)(hn:n<65536)(hz:M0.sz+(c+3)<=1000000):
 Calls Try.prog 94 #[.pointer (some ⟨K.pm,0,none⟩),.int .u16 (n:Int)] w fun e w'=>e=.returned (.int .i64 (M.next:Int))/\Hid (OpSt w0 K X0 M0 (c+3) w' (M.num n)):=by
 obtain⟨X,hm,hs⟩:=h.made
 refine(ks hm hn h.cur (by have:=h.gr.sz;omega)).mono ?_
 rintro e w' ⟨rfl,X',hm',hs'⟩
 exact⟨rfl,Lib.hid ⟨⟨X',hm',hs.trans hs'⟩,h.gr.trans (wT M n).p,by rw[(wT M n).cur,(wT M n).len];exact h.cur⟩⟩
theorem OpSt.emit (code a b:Int)(n:Nat)(h1:I64 code)(h2:I64 a)(h3:I64 b)(hn:n<65536)(hz:M0.sz+(c+3)<=1000000):
 Calls Try.prog 117 #[.pointer (some ⟨K.pm,0,none⟩),.agg #[.int .i64 code,.int .i64 0,.int .i64 a,.int .i64 b,.int .u16 (n:Int),.slice none 0 0]] w fun e w'=>e=.returned (.int .i64 (sB M code))/\Hid (OpSt w0 K X0 M0 (c+3) w' (M.emit ⟨code,0,a,b,n,[]⟩)):=by
 obtain⟨X,hm,hs⟩:=h.made
 refine(rD (o:=⟨code,0,a,b,n,[]⟩) hm ⟨h1,yF _ rfl,h2,h3,hn⟩ yE.nil h.cur (by have:=h.gr.sz;omega)).mono ?_
 rintro e w' ⟨rfl,X',hm',hs'⟩
 exact⟨rfl,Lib.hid ⟨⟨X',hm',hs.trans hs'⟩,h.gr.trans (yB M _).p,by rw[(yB M _).cur,(yB M _).len];exact h.cur⟩⟩
theorem OpSt.call (hE:∀x∈K.E.args,0<=x/\x<4)(hz:M0.sz+(c+16)<=1000000):
 Calls Try.prog 119 #[.pointer (some ⟨K.pm,0,none⟩)] w fun e w'=>e=.returned (.tuple #[])/\Hid (OpSt w0 K X0 M0 (c+16) w' (vN K.E M)):=by
 obtain⟨X,hm,hs⟩:=h.made
 refine(jN hm h.cur (by have:=h.gr.sz;omega)).mono ?_
 rintro e w' ⟨rfl,X',hm',hs'⟩
 exact⟨rfl,Lib.hid ⟨⟨X',hm',hs.trans hs'⟩,h.gr.trans (sI K.E hE M).p,by rw[(sI K.E hE M).cur,(sI K.E hE M).len];exact h.cur⟩⟩
theorem OpSt.block (n:Nat)(hz:M0.sz+(c+(1+n))<=1000000):
 Calls Try.prog 60 #[.pointer (some ⟨K.pm,0,none⟩),.int .i64 (n:Int)] w fun e w'=>e=.returned (.int .i64 (M.f.length:Int))/\Hid (OpSt w0 K X0 M0 (c+(1+n)) w' (M.block n)):=by
 obtain⟨X,hm,hs⟩:=h.made
 refine(rU hm (n:=n) (by have:=h.gr.sz;omega)).mono ?_
 rintro e w' ⟨rfl,X',hm',hs'⟩
 exact⟨rfl,Lib.hid ⟨⟨X',hm',hs.trans hs'⟩,h.gr.trans (xM M n),by have:=h.cur;rw[yz];show M.cur<_;omega⟩⟩
theorem OpSt.flen:(M.f.length:Int)<=1000000:=by
 obtain⟨X,⟨fv,vv,l,hi⟩,hs⟩:=h.made
 have hb:=hi.bnd
 unfold MS.sz at hb
 omega
theorem OpSt.endB (k a:Int)(tos:List IEdge)(tv:Value)(hk:I64 k)(ha:I64 a)(hto:∀X,wW w K X M->Stp X0 w0 X w->vT w (K.av X) tv tos):
 Calls Try.prog 63 #[.pointer (some ⟨K.pm,0,none⟩),.agg #[.int .i64 k,.int .i64 a,tv]] w fun e w'=>e=.returned (.tuple #[])/\Hid (OpSt w0 K X0 M0 c w' (M.endB ⟨k,a,tos⟩)):=by
 obtain⟨X,hm,hs⟩:=h.made
 refine(nt (t:=⟨k,a,tos⟩) hm hk ha (hto X hm hs) h.cur).mono ?_
 rintro e w' ⟨rfl,X',hm',hs'⟩
 exact⟨rfl,Lib.hid ⟨⟨X',hm',hs.trans hs'⟩,h.gr.trans (zv M _).p,by rw[(zv M _).cur,(zv M _).len];exact h.cur⟩⟩
theorem OpSt.endN {w2:World}(k a:Int)(tos:List IEdge)(tv:Value)(hk:I64 k)(ha:I64 a)(hb:Below w.heap.size w w2)(hto:∀X:Nat->Prop,(∀k,X k->k<w.heap.size)->vT w2 X tv tos):
 Calls Try.prog 63 #[.pointer (some ⟨K.pm,0,none⟩),.agg #[.int .i64 k,.int .i64 a,tv]] w2 fun e w'=>e=.returned (.tuple #[])/\Hid (OpSt w0 K X0 M0 c w' (M.endB ⟨k,a,tos⟩)):=by
 obtain⟨X,⟨fv,vv,l,hm⟩,hs⟩:=h.made
 refine(nt (t:=⟨k,a,tos⟩) (hm.keep hb).at hk ha (hto (K.av X) (fun k e=>e.elim (hm.xl k) (hm.env.zl k))) h.cur).mono ?_
 rintro e w' ⟨rfl,X',hm',hs'⟩
 exact⟨rfl,Lib.hid ⟨⟨X',hm',hs.trans ((Stp.of_below hb).trans hs')⟩,h.gr.trans (zv M _).p,by rw[(zv M _).cur,(zv M _).len];exact h.cur⟩⟩
theorem OpSt.below {w':World}(hb:Below w.heap.size w w'):OpSt w0 K X0 M0 c w' M:=by
 obtain⟨X,⟨fv,vv,l,hm⟩,hs⟩:=h.made
 exact⟨⟨X,⟨fv,vv,l,hm.keep hb⟩,hs.trans (Stp.of_below hb)⟩,h.gr,h.cur⟩
end
theorem OpSt.start {w:World}{K:MKC}{X:Nat->Prop}{M:MS}(h:wW w K X M)(hcur:M.cur<M.f.length):OpSt w K X M 0 w M:=⟨⟨X,h,Stp.refl _ _⟩,GrowP.refl M,hcur⟩
theorem OpSt.ret {w w':World}{K:MKC}{X:Nat->Prop}{M M':MS}{c:Nat}{r:Value}(h:OpSt w K X M c w' M'):yk K X w M' r (.returned r) w':=⟨rfl,h.made⟩
theorem wW.alt {w:World}{K:MKC}{X:Nat->Prop}{M:MS}(h:wW w K X M):∀x∈K.E.args,0<=x/\x<4:=by
 obtain⟨fv,vv,l,hm⟩:=h
 exact hm.env.alt
end Go.Proofs.Ytojclalkfhoooaa
