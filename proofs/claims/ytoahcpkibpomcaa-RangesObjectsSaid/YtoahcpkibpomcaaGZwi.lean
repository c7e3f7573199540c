/- Part of a proof. -/
import Derived.Test.YtoahcpkibpomcaaGZw5
set_option linter.all false
set_option maxHeartbeats 16000000
set_option maxRecDepth 100000
namespace Go.Proofs.Ytoahcpkibpomcaa
open Go.RowKit
variable {g i k:Nat}{q:BM}{W w w3:World}{X:Nat->Prop}{M M':MS}{vv:Value}{l:List BM}{c:List IBlk}{o:IOp}
theorem yr (q:BM):(xG q).length=5:=rfl
section
variable {w:World} {K:MKC} {X:Nat->Prop} {M:MS} {fv vv:Value} {l:List BM} (h:MkIn w K X M fv vv l)
include h
theorem MkIn.getB{b:IBlk}(hb:M.f[i]? =some b):∃q,l[i]? =some q/\q.b=b/\BMOk w K X q:=by
 rw[h.fl,Jr,Oz] at hb;obtain⟨q,c,rfl⟩:=hb;exact⟨q,c,rfl,h.bok q (Ji c)⟩
theorem MkIn.len:l.length=M.f.length:=by rw[h.fl,Nr]
theorem MkIn.flen:M.f.length<=1000000:=by have:=h.bnd;unfold MS.sz at this;omega
theorem MkIn.fblk(j:l[i]? =some q):∃g c,fv=N g l.length c/\X g/\g<w.heap.size/\g≠K.pm:=by
 have k:=(Jh.1 j).1;obtain⟨a,c,e⟩:=zG h.own;rw[e];have ho:=h.own;rw[e] at ho;obtain⟨g,m,e2,hg,d⟩:=ho.form Zo;cases e2;exact⟨g,_,rfl,h.xf g (by rw[e];rfl),d,fun e3=>zC ho h.blk (.inr Zd) (by rw[<-e3];rfl)⟩
end
theorem MkIn.only{K:MKC}{fv:Value}(h:MkIn w K X M fv vv l)(d:w.heap.size<=W.heap.size)(ho:W.os=w.os/\W.tape=w.tape/\W.output=w.output)
 (hk:∀k,k<w.heap.size->k≠K.pm->W.heap[k]? =w.heap[k]?) (i:Q W K.pm (uC K M' fv vv) 99) (hf:M'.f=M.f) (hv:M'.vals=M.vals) (g:M'.sz<=1000000) (hl:6<=M'.left+M'.pos/\M'.left<=6):
 MkIn W K X M' fv vv l/\Stp X w X W:=by
 have hs:Stp X w X W:=⟨ho.1,ho.2.1,ho.2.2,d,fun _ h=> .inl h,fun k hk' hx=>hk k hk' (fun e=>hx (by rw[e];exact h.xm))⟩
 have c:∀ {v:Value} {e:TypeId} {sz n:Nat} {xs:List Value},w.ownsRow K.B e sz v n xs->e≠99->∀k,v.ownBlock=some k->W.heap[k]? =w.heap[k]?:=fun ho he k hk'=>
  hk k (ho.lt k hk').2 (fun e=>zC ho h.blk (.inr he) (by rw[hk',e]))
 exact⟨⟨i,yD h.own (c h.own Zd),hf.trans h.fl,fun q hq=>(h.bok q hq).step hs (c (h.bok q hq).own Zd) (fun _ e=>e),h.apart,by rw[hv];exact yD h.vown (c h.vown Zd),by rw[hv];exact h.v64,h.xm,h.xf,h.xv,h.xB,fun k e=>Jy (h.xl k e) d,
  h.env.step hs (hs.below h.xB h.size),g,hl⟩,hs⟩
theorem MkIn.turn{K:MKC}{X':Nat->Prop}{fv:Value}(h:MkIn w K X M fv vv l){q':BM}{c:Nat}(x:l[c]? =some q)(hg:fv.ownBlock=some g)
 (hs:Stp X w X' W) (o:∀k,X k->X' k) (a5:∀k,X' k->k<W.heap.size) (a6:∀k,X' k->K.B<=k)
 (hk:∀k,k<w.heap.size->X k->k≠g->q.ov.ownBlock≠some k->W.heap[k]? =w.heap[k]?)
 (a1:q.ov.ownBlock≠some K.pm) (y:W.ownsRow K.B 36 5 fv l.length ((l.set c q').flatMap xG)) (a0:BMOk W K X' q')
 (u:∀(j:Nat) (qj:BM) (k:Nat),l[j]? =some qj->q'.ov.ownBlock=some k->qj.ov.ownBlock=some k->j=c) (hf:M'.f=M.f.set c q'.b) (hM:M'.pos=M.pos/\M'.cur=M.cur/\M'.next=M.next/\M'.vals=M.vals/\M'.left=M.left) (hz:M'.sz<=1000000):
 MkIn W K X' M' fv vv (l.set c q'):=by
 have hc:=(Jh.1 x).1;have a2:K.pm≠g:=fun e=>zC h.own h.blk (.inr Zd) (by rw[hg,e])
 obtain⟨m1,m2,m3,m4,m5⟩:=hM;have t:uC K M' fv vv=uC K M fv vv:=by unfold uC;rw[m1,m2,m3,m5]
 have a3:∀k,vv.ownBlock=some k->k≠g/\q.ov.ownBlock≠some k:=fun k hk=>by
  obtain⟨_,_,hx⟩:=zG h.vown;refine⟨fun e=>?_,fun e=>?_⟩
  ·rcases zo h.vown h.own Zd with m|m
   ·rw[m] at hk;cases hk
   ·exact m (by rw[hk,hg,e])
  ·rcases zo h.vown (h.bok q (Ji x)).own Zd with m|m
   ·rw[m] at hk;cases hk
   ·exact m (by rw[hk,e])
 have a4:∀j qj,l[j]? =some qj->j≠c->∀k,qj.ov.ownBlock=some k->k≠g/\q.ov.ownBlock≠some k:=fun j qj d hne k hk=>by
  refine⟨fun e=>?_,fun e=>hne (h.apart j c qj q k d x hk e)⟩;rcases zo (h.bok qj (Ji d)).own h.own Zd with m|m
  ·rw[m] at hk;cases hk
  ·exact m (by rw[hk,hg,e])
 refine⟨?_,by rw[Nd];exact y,by rw[hf,h.fl,Ox],fun p hp=>?_,fun i j qi qj k hi d hqi hqj=>?_,?_,by rw[m4];exact h.v64,o _ h.xm,fun k hk=>o _ (h.xf k hk),fun k hk=>o _ (h.xv k hk),a6,a5,h.env.step hs (hs.below h.xB h.size),hz,by rw[m5,m1];exact h.lft⟩
 ·rw[t,hk K.pm (lt_of_block h.blk) h.xm a2 a1];exact h.blk
 ·obtain⟨j,d⟩:=Ny hp;rw[Ov] at d
  by_cases e:c=j
  ·subst e;rw[if_pos rfl,if_pos hc] at d;cases d;exact a0
  ·rw[if_neg e] at d;refine(h.bok p (Ji d)).step hs (fun k hk'=>?_) o;obtain⟨m,h2⟩:=a4 j p d (Ne.symm e) k hk';exact hk k (((h.bok p (Ji d)).own.lt k hk').2) ((h.bok p (Ji d)).inX k hk') m h2
 ·rw[Ov] at hi d
  by_cases ei:c=i
  ·rw[if_pos ei,if_pos hc] at hi;cases hi
   by_cases ej:c=j
   ·omega
   ·rw[if_neg ej] at d;have:=u j qj k d hqi hqj;omega
  ·rw[if_neg ei] at hi
   by_cases ej:c=j
   ·rw[if_pos ej,if_pos hc] at d;cases d;have:=u i qi k hi hqj hqi;omega
   ·rw[if_neg ej] at d;exact h.apart i j qi qj k hi d hqi hqj
 ·rw[m4];refine yD h.vown (fun k hk'=>?_);obtain⟨m,h2⟩:=a3 k hk';exact hk k ((h.vown.lt k hk').2) (h.xv k hk') m h2
theorem MkIn.putV{K:MKC}{fv vv':Value}(h:MkIn w K X M fv vv l){o:Obj}(hg:(w.alloc o).grownBy w3 vv.ownBlock){x:Int}
 (c:w3.ownsRow K.B 3 1 vv' (M.vals.length+1) (M.vals.map zN++ [zN x])) (t:∀k,vv'.ownBlock=some k->vv.ownBlock=some k∨w.heap.size<=k) (u:I64 x) (hz:M.sz+1<=1000000):
 MkIn (w3.setCell ⟨K.pm,7,none⟩ vv') K (fun k=>X k∨vv'.ownBlock=some k) {M with vals:=M.vals++ [x]} fv vv' l/\Stp X w (fun k=>X k∨vv'.ownBlock=some k) (w3.setCell ⟨K.pm,7,none⟩ vv'):=by
 have n1:=zC h.vown h.blk (.inr Zd);have i:=zL hg (zB h.blk) n1;have m:w.heap.size<=w3.heap.size:=by have:=hg.size;simp at this;omega
 have hk:∀k,k<w.heap.size->k≠K.pm->vv.ownBlock≠some k->(w3.setCell ⟨K.pm,7,none⟩ vv').heap[k]? =w.heap[k]?:=fun k hk hne hv=>
  (Below.heap_setCell w3 ⟨K.pm,7,none⟩ vv' k hne).trans ((hg.block k Zt (fun e=>hv e.symm)).trans (Below.heap_alloc w o k hk))
 have hs:Stp X w (fun k=>X k∨vv'.ownBlock=some k) (w3.setCell ⟨K.pm,7,none⟩ vv'):=
  ⟨hg.os,hg.tape,hg.output,by simpa using m,fun k hx'=>hx'.elim .inl (fun e=>(t k e).elim (fun e2=> .inl (h.xv k e2)) .inr),fun k hk' hxk=>hk k hk' (fun e=>hxk (by rw[e];exact h.xm)) (fun e=>hxk (h.xv k e))⟩
 have g:∀ {v:Value} {e:TypeId} {sz n:Nat} {xs:List Value},w.ownsRow K.B e sz v n xs->e≠3->e≠99->∀k,v.ownBlock=some k->(w3.setCell ⟨K.pm,7,none⟩ vv').heap[k]? =w.heap[k]?:=fun {v e sz n xs} ho h1 h2 k hk'=>by
  refine hk k (ho.lt k hk').2 (fun e3=>zC ho h.blk (.inr h2) (by rw[hk',e3])) (fun e3=>?_);rcases zo ho h.vown h1 with j|j
  ·rw[j] at hk';cases hk'
  ·exact j (by rw[hk',e3])
 refine⟨⟨?_,yD h.own (g h.own Zd Zd),h.fl,fun q hq=>(h.bok q hq).step hs (g (h.bok q hq).own Zd Zd) (fun _ e=> .inl e),h.apart,?_,?_,.inl h.xm,fun k e=> .inl (h.xf k e),fun k e=> .inr e,fun k e=>e.elim (h.xB k) (fun e2=>(c.lt k e2).1),fun k e=>?_,h.env.step hs (hs.below h.xB h.size),?_,h.lft⟩,hs⟩
 ·rw[zD i];rfl
 ·show(w3.setCell ⟨K.pm,7,none⟩ vv').ownsRow K.B 3 1 vv' (M.vals++ [x]).length ((M.vals++ [x]).map zN)
  rw[Jk,Ju,Js];exact ownsRow_setCell_other c (fun e=>zC c i (.inr Zd) (by simpa using e)) _
 ·intro y d;rcases Jl.1 d with d|d
  ·exact h.v64 y d
  ·rw[Jo] at d;subst d;exact u
 ·rcases e with e|e
  ·have:=h.xl k e;simp;omega
  ·have:=(c.lt k e).2;simpa using this
 ·unfold MS.sz at *;simp only[Jk,Ju];omega
theorem MkIn.putO{w6:World}{K:MKC}{fv i:Value}(h:MkIn w K X M fv vv l){c lb:Nat}(hq:l[c]? =some q)(hg:fv.ownBlock=some g)
 {W3:World} (m:O w W3) (t:W3.grownBy w6 q.ov.ownBlock)  {av:Value} (x:w6.ownsRow K.B 27 6 i (q.ol.length+1) (q.ol.flatMap zU++zU (o,av)))
 (a0:∀k,i.ownBlock=some k->q.ov.ownBlock=some k∨w.heap.size<=k) (a8:w.heap.size<=lb) {cs:Array Value} (a3:Q w6 lb cs 36)
 (hW:∃u,W=((w6.setCell ⟨lb,1,none⟩ u).drew.setCells g (c*5) (xG ⟨{q.b with ops:=q.b.ops++ [o]},q.pv,i,q.tv,q.ol++ [(o,av)]⟩)))
 (ho:qN o/\wm w (K.av X) av o.args) (hf:M'.f=M.f.set c {q.b with ops:=q.b.ops++ [o]}) (hM:M'.pos=M.pos/\M'.cur=M.cur/\M'.next=M.next/\M'.vals=M.vals/\M'.left=M.left) (hz:M'.sz<=1000000):
 ∃X',MkIn W K X' M' fv vv (l.set c ⟨{q.b with ops:=q.b.ops++ [o]},q.pv,i,q.tv,q.ol++ [(o,av)]⟩)/\Stp X w X' W:=by
 obtain⟨u,rfl⟩:=hW;have d:=h.bok q (Ji hq);have a1:=h.xf g hg;have a5:=h.xl g a1
 have hk:∀k,k<w.heap.size->k≠g->q.ov.ownBlock≠some k->((w6.setCell ⟨lb,1,none⟩ u).drew.setCells g (c*5) (xG ⟨{q.b with ops:=q.b.ops++ [o]},q.pv,i,q.tv,q.ol++ [(o,av)]⟩)).heap[k]? =w.heap[k]?:=fun k hk hne hv=>
  (ye g k hne _ _ _).trans ((Below.heap_setCell w6 ⟨lb,1,none⟩ u k (by show k≠lb;omega)).trans ((t.block k (by have:=m.size;omega) (fun e=>hv e.symm)).trans (m.block k hk)))
 have hs:Stp X w (fun k=>X k∨i.ownBlock=some k) ((w6.setCell ⟨lb,1,none⟩ u).drew.setCells g (c*5) (xG ⟨{q.b with ops:=q.b.ops++ [o]},q.pv,i,q.tv,q.ol++ [(o,av)]⟩)):=
  ⟨(ze g _ _ _).1.trans (t.os.trans m.os),(ze g _ _ _).2.1.trans (t.tape.trans m.tape),(ze g _ _ _).2.2.trans (t.output.trans m.output),by rw[y8];have:=m.size;have:=t.size;simp;omega,
   fun k hx'=>hx'.elim .inl (fun e=>(a0 k e).elim (fun e2=> .inl (d.inX k e2)) .inr),fun k hk' hxk=>hk k hk' (fun e=>hxk (by rw[e];exact a1)) (fun e=>hxk (d.inX k e))⟩
 have a2:∀k,i.ownBlock=some k->k≠lb/\k≠g:=fun k e=>⟨fun e2=>zC x a3 (.inr Zd) (by rw[e,e2]),fun e2=>by
  rcases a0 k e with e3|e3
  ·rcases zo d.own h.own Zd with y|y
   ·rw[y] at e3;cases e3
   ·exact y (by rw[e3,hg,e2])
  ·omega⟩
 have a4:q.ov.ownBlock≠some g:=fun e=>by
  rcases zo d.own h.own Zd with y|y
  ·rw[y] at e;cases e
  ·exact y (by rw[e,hg])
 have a6:(w6.setCell ⟨lb,1,none⟩ u).drew.ownsRow K.B 36 5 fv l.length (l.flatMap xG):=yD h.own (fun k e=>by
  have e2:k=g:=by rw[hg] at e;cases e;rfl
  subst e2
  exact(Below.heap_setCell w6 ⟨lb,1,none⟩ u k (by show k≠lb;omega)).trans ((t.block k (by have:=m.size;omega) (fun e3=>a4 e3.symm)).trans (m.block k a5)))
 refine⟨_,h.turn (M':=M') hq hg hs (fun k e=> .inl e) (fun k e=>?_) (fun k e=>e.elim (h.xB k) (fun e2=>(x.lt k e2).1)) (fun k hk' _ hne hv=>hk k hk' hne hv) (fun e=>zC d.own h.blk (.inr Zd) e) (uZ yr a6 hg hq _) ?_ (fun j qj k hj y h2=>?_) hf hM hz,hs⟩
 ·rcases e with e|e
  ·exact Jy (h.xl k e) hs.size
  ·rw[y8];have:=(x.lt k e).2;simpa using this
 ·refine⟨d.k64,d.par.step zn (hs.av K),by rw[Js,<-d.ops];rfl,?_,fun p hp=>?_,d.tos.step yq (hs.av K),fun k e=> .inr e⟩
  ·rw[Jk,Ju,Nx];refine yD (show w6.ownsRow K.B 27 6 i (q.ol.length+1) (q.ol.flatMap zU++ [(o,av)].flatMap zU) from x) (fun k e=>?_);obtain⟨e1,e2⟩:=a2 k e;exact(ye g k e2 _ _ _).trans (Below.heap_setCell w6 ⟨lb,1,none⟩ u k e1)
  ·rcases Jl.1 hp with hp|hp
   ·exact⟨(d.arg p hp).1,(d.arg p hp).2.step zn (hs.av K)⟩
   ·rw[Jo] at hp;subst hp;exact⟨ho.1,ho.2.step zn (hs.av K)⟩
 ·rcases a0 k y with e|e
  ·exact h.apart j c qj q k hj hq h2 e
  ·have:=((h.bok qj (Ji hj)).own.lt k h2).2;omega
theorem MkIn.putB{K:MKC}{fv fv':Value}(h:MkIn w K X M fv vv l){o:Obj}(hg:(w.alloc o).grownBy w3 fv.ownBlock){b:IBlk}{pv:Value}(hb:b.ops=[]/\b.term=⟨0,0,[]⟩)
 (c:w3.ownsRow K.B 36 5 fv' (l.length+1) (l.flatMap xG++xG ⟨b,pv,F,F,[]⟩)) (a1:∀k,fv'.ownBlock=some k->fv.ownBlock=some k∨w.heap.size<=k) (x:wm w (K.av X) pv b.params) (hz:M.sz+1<=1000000):
 MkIn (w3.setCell ⟨K.pm,4,none⟩ fv') K (fun k=>X k∨fv'.ownBlock=some k) {M with f:=M.f++ [b]} fv' vv (l++ [⟨b,pv,.slice none 0 0,.slice none 0 0,[]⟩])/\Stp X w (fun k=>X k∨fv'.ownBlock=some k) (w3.setCell ⟨K.pm,4,none⟩ fv'):=by
 have n1:=zC h.own h.blk (.inr Zd);have u:=zL hg (zB h.blk) n1;have a0:w.heap.size<=w3.heap.size:=by have:=hg.size;simp at this;omega
 have hk:∀k,k<w.heap.size->k≠K.pm->fv.ownBlock≠some k->(w3.setCell ⟨K.pm,4,none⟩ fv').heap[k]? =w.heap[k]?:=fun k hk hne hv=>
  (Below.heap_setCell w3 ⟨K.pm,4,none⟩ fv' k hne).trans ((hg.block k Zt (fun e=>hv e.symm)).trans (Below.heap_alloc w o k hk))
 have hs:Stp X w (fun k=>X k∨fv'.ownBlock=some k) (w3.setCell ⟨K.pm,4,none⟩ fv'):=
  ⟨hg.os,hg.tape,hg.output,by simpa using a0,fun k hx'=>hx'.elim .inl (fun e=>(a1 k e).elim (fun e2=> .inl (h.xf k e2)) .inr),fun k hk' hxk=>hk k hk' (fun e=>hxk (by rw[e];exact h.xm)) (fun e=>hxk (h.xf k e))⟩
 have g:∀ {v:Value} {e:TypeId} {sz n:Nat} {xs:List Value},w.ownsRow K.B e sz v n xs->e≠36->e≠99->∀k,v.ownBlock=some k->(w3.setCell ⟨K.pm,4,none⟩ fv').heap[k]? =w.heap[k]?:=fun {v e sz n xs} ho h1 h2 k hk'=>by
  refine hk k (ho.lt k hk').2 (fun e3=>zC ho h.blk (.inr h2) (by rw[hk',e3])) (fun e3=>?_);rcases zo ho h.own h1 with y|y
  ·rw[y] at hk';cases hk'
  ·exact y (by rw[hk',e3])
 refine⟨⟨?_,?_,?_,fun q d=>?_,fun i j qi qj k hi hj hqi hqj=>?_,yD h.vown (g h.vown Zd Zd),h.v64,.inl h.xm,fun k e=> .inr e,fun k e=> .inl (h.xv k e),fun k e=>e.elim (h.xB k) (fun e2=>(c.lt k e2).1),fun k e=>?_,h.env.step hs (hs.below h.xB h.size),?_,h.lft⟩,hs⟩
 ·rw[zD u];rfl
 ·rw[Jk,Ju,Nx];exact ownsRow_setCell_other (show w3.ownsRow K.B 36 5 fv' (l.length+1) (l.flatMap xG++ [(⟨b,pv,.slice none 0 0,.slice none 0 0,[]⟩:BM)].flatMap xG) from c) (fun e=>zC c u (.inr Zd) (by simpa using e)) _
 ·rw[Js,<-h.fl];rfl
 ·rcases Jl.1 d with d|d
  ·exact(h.bok q d).step hs (g (h.bok q d).own Zd Zd) (fun _ e=> .inl e)
  ·rw[Jo] at d;subst d;refine⟨?_,x.step zn (hs.av K),hb.1,Jv _ _ _ _,(fun o ho=>by cases ho),?_,(fun k e=>by simp[Value.ownBlock] at e)⟩
   ·rw[hb.2];exact⟨⟨by decide,by decide⟩,⟨by decide,by decide⟩⟩
   ·rw[hb.2];exact yE.nil
 ·have t:∀(m:Nat) (qm:BM),(l++ [(⟨b,pv,.slice none 0 0,.slice none 0 0,[]⟩:BM)])[m]? =some qm->qm.ov.ownBlock=some k->l[m]? =some qm:=fun m qm hm hqm=>by
   by_cases e:m<l.length
   ·rwa [Np e] at hm
   ·rw[Nc Zo] at hm;have:m-l.length=0:=by have:=(Jh.1 hm).1;simp at this;omega
    rw[this] at hm;cases hm;simp[Value.ownBlock] at hqm
  exact h.apart i j qi qj k (t i qi hi hqi) (t j qj hj hqj) hqi hqj
 ·rcases e with e|e
  ·have:=h.xl k e;simp;omega
  ·have:=(c.lt k e).2;simpa using this
 ·have e:opsN [b]=0:=by unfold opsN;simp[hb.1]
  unfold MS.sz at *;simp only[Jk,Ju,ry,e];omega
structure SK where
 sb:Nat
 rb:Nat
 kb:Nat
 rm:Nat
 n:Nat
 B:Nat
 V:PV
 fv:Value
variable {K:SK}
def slCells (K:SK)(p:IProg)(k:Nat):Array Value:=#[K.V.fv,K.V.av,I p.entry,I p.handler,K.V.dv,K.V.bv,K.fv,.map (some K.rm),N K.rb K.n K.n,N K.kb K.n K.n,I k]
def xe (a:Rg):List Value:=[G (a.lo:Int),G (a.hi:Int)]
structure SlvAt (w:World) (K:SK) (p:IProg) (bls:List IBlk) (k:Nat) (s:Slv):Prop where
 prog:ProgIn w K.B K.V p
 blks:wX w K.B K.fv bls
 map:ma w K.rm 17 ruG
 cell:w.heap[K.sb]? =some (.cells (slCells K p k) 69 (0,0))
 row:w.heap[K.rb]? =some (.cells (s.r.flatMap xe).toArray 48 (0,0))
 kn:w.heap[K.kb]? =some (.cells (s.kn.map Value.bool).toArray 4 (0,0))
 oks:OkS K.n s
 n64:K.n<=1000000
 lt:K.B<=K.sb/\K.B<=K.rb/\K.B<=K.kb/\K.B<=K.rm
 ne:K.sb≠K.rb/\K.sb≠K.kb/\K.sb≠K.rm/\K.rb≠K.kb/\K.rb≠K.rm/\K.kb≠K.rm
theorem SlvAt.below{w':World}{p:IProg}{s:Slv}(h:SlvAt w K p c k s)(hb:O w w'):SlvAt w' K p c k s:=by
 have d:=lt_of_block h.cell;have hB:K.B<=w.heap.size:=Qd (Nat.lt_of_le_of_lt h.lt.1 d);exact⟨h.prog.below (hb.mono hB),h.blks.below yT (hb.mono hB),h.map.below hb,(hb.block _ d).trans h.cell,(hb.block _ (lt_of_block h.row)).trans h.row,(hb.block _ (lt_of_block h.kn)).trans h.kn,h.oks,h.n64,h.lt,h.ne⟩
theorem SlvAt.rcell{p:IProg}{s:Slv}(h:SlvAt w K p c k s){v:Int}(d:0<=v/\v<K.n):
 U w K.rb (v.toNat*2) (G ((s.get v).lo:Int))/\U w K.rb (v.toNat*2+1) (G ((s.get v).hi:Int)):=by
 have hl:v.toNat<s.r.length:=by rw[h.oks.rl];omega
 have hg:s.r[v.toNat]? =some (s.get v):=by
  unfold Slv.get;rw[Jj,Jd hl];rfl
 exact⟨by have:=oW (f:=xe) (n:=2) (fun _=>rfl) h.row hg (j:=0) rfl;rw[Ng,Uk] at this;exact this,by have:=oW (f:=xe) (n:=2) (fun _=>rfl) h.row hg (j:=1) rfl;rw[Ng] at this;exact this⟩
theorem aw (w:World)(n:Nat):T 67 #[G n] w (fun e w'=>e=.returned (.agg #[G n,G n])/\O w w'):=afw w n
theorem aff(sv:Value)(av:Value)(h:o.code=1)(p:IProg)(s:Slv):
 T 54 #[sv,aam o av] w (tr w (aeS p s o)):=by
 rw[show aeS p s o=afY o.n from if_pos h];obtain⟨c,d,a,b,x,al⟩:=o;subst h;unfold aam;have j:=Ja (fun W=>aw W x);go_enter Try.func54,Try.ntmps54;go_wp2_with (go_at_call 67;go_must (refine(j.out _).mono ?_;rintro e w1 ⟨rfl,g⟩;have hk:Q w1 (w.heap.size+1) #[G 0,G 0] 48:=zH g (zI Zs) Zs;have f0:=zA (i:=0) hk rfl;have f1:=zA (i:=1) hk rfl;have g0:=zE (i:=0) hk;have g1:=zE (i:=1) hk;have k:=lt_of_block hk;have l:=Below.trans (show O w _ from by repeat' (first|exact Below.refl _ _|(refine Below.alloc ?_ (by first|(simp;done)|(simp;omega)) _))) (g.mono (by first|(simp;done)|(simp;omega)));clear g hk))
 refine bodyPost_ret (v:=.agg #[G x,G x]) ?_ rfl ⟨rfl,by repeat' (first|exact Below.refl _ _|assumption|(refine Below.drew ?_)|(refine Below.alloc ?_ (by first|(simp;done)|(simp;omega)) _)|(refine Below.setCell ?_ (by first|(simp;done)|(simp;omega)) _))⟩;rw[zM rfl];go_simp
theorem SlvAt.cells{p:IProg}{s:Slv}(h:SlvAt w K p c k s):
 U w K.sb 4 K.V.dv/\U w K.sb 7 (.map (some K.rm))/\U w K.sb 8 (N K.rb K.n K.n)/\U w K.sb 9 (N K.kb K.n K.n)/\U w K.sb 10 (I k)/\U w K.sb 6 K.fv:=
 ⟨zA h.cell rfl,zA h.cell rfl,zA h.cell rfl,zA h.cell rfl,zA h.cell rfl,zA h.cell rfl⟩
theorem afO{p:IProg}{a5:List IBlk}{s:Slv}(h:SlvAt w K p a5 k s)(av:Value)(h2:o.code=2)(ha:0<=o.a/\o.a<p.data.length)(hn:o.n<65536):
 T 54 #[L K.sb,aam o av] w (tr w (aeS p s o)):=by
 obtain⟨c,d,a,b,n,al⟩:=o;have ha:0<=a/\a<p.data.length:=ha;have hn:n<65536:=hn;obtain⟨j,rfl⟩:∃j:Nat,a=j:=⟨a.toNat,by omega⟩
 have h2:c=2:=h2;subst h2;rw[show aeS p s ⟨2,d,j,b,n,al⟩=afY (((p.data.getD j ⟨0,0,0⟩).addr+n)%65536) from rfl];unfold aam;obtain⟨x,hx⟩:∃x,p.data[j]? =some x:=⟨_,Jd Zo⟩
 obtain⟨da,dc,q,a1,a2⟩:=h.prog.data.form;have m:=h.prog.data;rw[q] at m;obtain⟨db,dq,rfl,a3,l⟩:=m.get hx;obtain⟨y,hy⟩:∃y,(x.addr+n)%65536=y:=⟨_,rfl⟩
 rw[show(p.data.getD j ⟨0,0,0⟩)=x by rw[Jj,hx];rfl,hy];have a6:IntKind.u16.wrap ((x.addr:Int)+n)=(y:Int):=by rw[xY];omega
 have a4:K.B<=w.heap.size:=Qd (Nat.lt_of_le_of_lt h.lt.1 (lt_of_block h.cell));have a8:=lt_of_block h.cell;have hj:j<p.data.length:=Zo;have HC:=Ja (show ∀W,O w W->U W K.sb 4 (.slice (some ⟨db,dq,none⟩) p.data.length dc)/\U W db (dq+j*3+1) (G (x.addr:Int)) from fun W hb=>⟨by rw[<-q];exact(h.below hb).cells.1,(hb.cell (p:=⟨db,dq+j*3+1,none⟩) (Jy a3 a4)).trans l.2.1⟩);have HO:=Ja (fun W=>aw W y);obtain⟨c0,c1⟩:=HC.out w (Below.refl _ _);clear h l m q hx hy ha hn a2 a1;go_enter Try.func54,Try.ntmps54;go_upto_region 5 with(go_at_call 999999;skip)
 obtain⟨X,hX⟩:∃X,(w.alloc (A #[I 2,I d,I j,I b,G n,av] 27)).alloc (A #[G 0,G 0] 48)=X:=⟨_,rfl⟩
 have g:=Ja (show O w X/\Q X w.heap.size #[I 2,I d,I j,I b,G n,av] 27/\Q X (w.heap.size+1) #[G 0,G 0] 48 from by
  rw[<-hX];exact⟨by repeat' (first|exact Below.refl _ _|(refine Below.alloc ?_ (by first|(simp;done)|(simp;omega)) _)),zB (zI rfl),zI Zs⟩)
 rw[hX];clear hX c0 c1;have a0:=Ja (show ∀W,Below (w.heap.size+1) X W->(U W K.sb 4 (.slice (some ⟨db,dq,none⟩) p.data.length dc)/\U W db (dq+j*3+1) (G (x.addr:Int)))/\U W w.heap.size 2 (I j)/\U W w.heap.size 4 (G n) from fun W hb=>⟨HC.out W (g.out.1.trans (hb.mono (Nat.le_succ _))),zA ((hb.block _ (Nat.lt_succ_self _)).trans g.out.2.1) rfl,zA ((hb.block _ (Nat.lt_succ_self _)).trans g.out.2.1) rfl⟩);obtain⟨⟨c0,c1⟩,c2,c3⟩:=a0.out X (Below.refl _ _)
 go_region_held3 (fun w'=>(U w' K.sb 4 (.slice (some ⟨db,dq,none⟩) p.data.length dc)/\U w' db (dq+j*3+1) (G (x.addr:Int)))/\U w' w.heap.size 2 (I j)/\U w' w.heap.size 4 (G n))
  ((refine a0.out _ ?_;repeat' (first|with_reducible exact Below.refl _ _|with_reducible assumption|with_reducible refine Below.drew ?_|refine Below.setCell ?_ (by first|exact Je _|(show w.heap.size+1<=w.heap.size+1;omega)) _)))
  ((go_at_call 67;(refine(HO.out _).mono ?_;rintro e w1 ⟨rfl,u⟩;have t:O X w1:=Below.trans (show O X _ from by repeat' (first|with_reducible exact Below.refl _ _|with_reducible refine Below.drew ?_)) (u.mono (Je _));clear u;have b1:Below (w.heap.size+1) X w1:=t.mono (Qd (lt_of_block g.out.2.2));have hk:=zH t g.out.2.2 (lt_of_block g.out.2.2);have f0:=zA (i:=0) hk rfl;have f1:=zA (i:=1) hk rfl;have g0:=zE (i:=0) hk;have g1:=zE (i:=1) hk;have a9:=lt_of_block hk;have b0:=g.out.1.trans (t.mono g.out.1.size))))
 all_goals go_wp2
 all_goals (refine bodyPost_ret (v:=.agg #[G y,G y]) ?_ rfl ⟨rfl,by repeat' (first|exact Below.refl _ _|assumption|(refine Below.drew ?_)|(refine Below.alloc ?_ (by first|(simp;done)|(simp;omega)) _)|(refine Below.setCell ?_ (by first|(simp;done)|(simp;omega)) _))⟩;rw[zM rfl];go_simp)
theorem ruG_ge {c:Int}{f:Nat}(h:ruG c=some f):3<=c:=by
 by_cases d:3<=c
 ·exact d
 ·simp only[ruG,putR] at h
  iterate 17 rw[if_neg Zo] at h
  cases h
theorem afe{p:IProg}{t:List IBlk}{s:Slv}(h:SlvAt w K p t k s)(av:Value)(h1:o.code≠1)(h2:o.code≠2)(h64:I64 o.code)(hr:ruG o.code=none):
 T 54 #[L K.sb,aam o av] w (tr w (aeS p s o)):=by
 rw[show aeS p s o=xr by unfold aeS;rw[if_neg h1,if_neg h2];unfold agL;rw[ruG_none hr]];obtain⟨c,d,a,b,n,al⟩:=o;have h1:c≠1:=h1;have h2:c≠2:=h2;have e1:(c==1)=false:=by simpa using h1
 have e2:(c==2)=false:=by simpa using h2
 have hr:ruG c=none:=hr
 have u:=Ja (show ∀W,O w W->(Instr.lookup 65 (.map (some K.rm)) (I c) true).run Try.prog W=.ok (.tuple #[.nilFunc,.bool false]) W from fun W hb=>by
  have:=(h.below hb).map.lookOk h64
  rw[hr] at this;exact this)
 have x:=Ja (show ∀W,O w W->U W K.sb 7 (.map (some K.rm)) from fun W hb=>(h.below hb).cells.2.1);unfold aam;clear h h1 h2 h64 hr;go_enter Try.func54,Try.ntmps54;go_upto_region 6 with(go_at_call 999999;skip)
 obtain⟨X,q⟩:∃X,(w.alloc (A #[I c,I d,I a,I b,G n,av] 27)).alloc (A #[G 0,G 0] 48)=X:=⟨_,rfl⟩
 have g:=Ja (show O w X/\Q X w.heap.size #[I c,I d,I a,I b,G n,av] 27/\Q X (w.heap.size+1) #[G 0,G 0] 48 from by
  rw[<-q];exact⟨by repeat' (first|exact Below.refl _ _|(refine Below.alloc ?_ (by first|(simp;done)|(simp;omega)) _)),zB (zI rfl),zI Zs⟩)
 rw[q];clear q;have m:=Ja (show ∀W,O X W->U W K.sb 7 (.map (some K.rm))/\U W w.heap.size 0 (I c) from fun W hb=>⟨x.out W (g.out.1.trans (hb.mono g.out.1.size)),zA (zH hb g.out.2.1 (lt_of_block g.out.2.1)) rfl⟩);obtain⟨c0,c1⟩:=m.out X (Below.refl _ _);have hl:=u.out X.drew g.out.1.drew
 go_region_held3 (fun w'=>U w' K.sb 7 (.map (some K.rm))/\U w' w.heap.size 0 (I c)) ((refine m.out _ ?_;repeat' (first|with_reducible exact Below.refl _ _|with_reducible assumption|with_reducible refine Below.drew ?_)))
  (fail)
 all_goals go_wp2_with (go_at_call 20;go_must (refine(re _).mono ?_;rintro e w1 ⟨rfl,l⟩;have j:O X w1:=Below.trans (show O X _ from by repeat' (first|with_reducible exact Below.refl _ _|with_reducible refine Below.drew ?_)) (l.mono (Je _));clear l;have hk:=zH j g.out.2.2 (lt_of_block g.out.2.2);have f0:=zA (i:=0) hk rfl;have f1:=zA (i:=1) hk rfl;have g0:=zE (i:=0) hk;have g1:=zE (i:=1) hk;have y:=lt_of_block hk;have a0:=g.out.1.trans (j.mono g.out.1.size)))
 all_goals (refine bodyPost_ret (v:=.agg #[G 0,G 65535]) ?_ rfl ⟨rfl,by repeat' (first|exact Below.refl _ _|assumption|(refine Below.drew ?_)|(refine Below.alloc ?_ (by first|(simp;done)|(simp;omega)) _)|(refine Below.setCell ?_ (by first|(simp;done)|(simp;omega)) _))⟩;rw[zM rfl];go_simp)
theorem ruG_mem {c:Int}{f:Nat}(h:ruG c=some f):f=28∨f=30∨f=31∨f=32∨f=33∨f=35∨f=36∨f=37∨f=39∨f=40∨f=42∨f=43∨f=44∨f=46∨f=47∨f=48∨f=49:=by
 simp only[ruG,putR] at h
 by_cases d:c=23
 ·rw[if_pos d] at h;cases h;simp
 rw[if_neg d] at h
 by_cases g:c=19
 ·rw[if_pos g] at h;cases h;simp
 rw[if_neg g] at h
 by_cases i:c=17
 ·rw[if_pos i] at h;cases h;simp
 rw[if_neg i] at h
 by_cases j:c=16
 ·rw[if_pos j] at h;cases h;simp
 rw[if_neg j] at h
 by_cases k:c=15
 ·rw[if_pos k] at h;cases h;simp
 rw[if_neg k] at h
 by_cases l:c=14
 ·rw[if_pos l] at h;cases h;simp
 rw[if_neg l] at h
 by_cases m:c=13
 ·rw[if_pos m] at h;cases h;simp
 rw[if_neg m] at h
 by_cases o:c=12
 ·rw[if_pos o] at h;cases h;simp
 rw[if_neg o] at h
 by_cases q:c=11
 ·rw[if_pos q] at h;cases h;simp
 rw[if_neg q] at h
 by_cases t:c=10
 ·rw[if_pos t] at h;cases h;simp
 rw[if_neg t] at h
 by_cases u:c=9
 ·rw[if_pos u] at h;cases h;simp
 rw[if_neg u] at h
 by_cases w:c=8
 ·rw[if_pos w] at h;cases h;simp
 rw[if_neg w] at h
 by_cases x:c=7
 ·rw[if_pos x] at h;cases h;simp
 rw[if_neg x] at h
 by_cases y:c=6
 ·rw[if_pos y] at h;cases h;simp
 rw[if_neg y] at h
 by_cases h5:c=5
 ·rw[if_pos h5] at h;cases h;simp
 rw[if_neg h5] at h
 by_cases h4:c=4
 ·rw[if_pos h4] at h;cases h;simp
 rw[if_neg h4] at h
 by_cases h3:c=3
 ·rw[if_pos h3] at h;cases h;simp
 rw[if_neg h3] at h;cases h
theorem appF_by {c:Int}{x y r:Rg}(hr:aeB c x y=some r):agL c x y=if(decide (c<=17) && (vu x && (((c==3)||(c==4))||vu y)))=true then(if exF c y.lo=true then afY (exV c x.lo y.lo) else xr) else r:=by
 unfold agL;rw[hr];simp only[Jm,Bool.or_eq_true,decide_eq_true_eq,beq_iff_eq]
 split
 ·unfold exF exV;simp only[decide_eq_true_eq]
  by_cases h:c=8/\y.lo=0
  ·rw[if_pos h,if_neg (fun k=>k h)]
  ·rw[if_neg h,if_pos h,if_neg h]
 ·rfl
theorem afx{p:IProg}{d8:List IBlk}{s:Slv}(h:SlvAt w K p d8 k s)(av:Value)(h1:o.code≠1)(h2:o.code≠2)(h64:I64 o.code){f:Nat}(hr:ruG o.code=some f)
 (ha:0<=o.a/\o.a<K.n) (hb:0<=o.b/\o.b<K.n):
 T 54 #[L K.sb,aam o av] w (tr w (aeS p s o)):=by
 rw[show aeS p s o=agL o.code (s.get o.a) (s.get o.b) by unfold aeS;rw[if_neg h1,if_neg h2]];obtain⟨c,d,a,b,n,al⟩:=o;have h1:c≠1:=h1;have h2:c≠2:=h2;have e1:(c==1)=false:=by simpa using h1
 have e2:(c==2)=false:=by simpa using h2
 have hr:ruG c=some f:=hr;have h64:I64 c:=h64;have ha:0<=a/\a<K.n:=ha;have hb:0<=b/\b<K.n:=hb
 show Calls _ _ _ _ (tr w (agL c (s.get a) (s.get b)))
 have b4:=fun(W:World) (hW:O w W)=>(h.below hW).rcell ha
 have b3:=fun(W:World) (hW:O w W)=>(h.below hW).rcell hb
 have c8:=h.oks.get a;have c7:=h.oks.get b;obtain⟨u,rfl⟩:∃u:Nat,a=u:=⟨a.toNat,by omega⟩
 obtain⟨v,rfl⟩:∃v:Nat,b=v:=⟨b.toNat,by omega⟩
 generalize s.get (u:Int)=x at *;generalize s.get (v:Int)=y at *;have hn:=h.n64;have hu:u<K.n:=Zo;have hv:v<K.n:=Zo
 have HL:=Ja (show ∀W,O w W->(Instr.lookup 65 (.map (some K.rm)) (I c) true).run Try.prog W=.ok (.tuple #[.func (.func f) #[] #[],.bool true]) W from fun W hb=>by
  have:=(h.below hb).map.lookOk h64
  rw[hr] at this;exact this)
 have HC:=Ja (show ∀W,O w W->U W K.sb 7 (.map (some K.rm))/\U W K.sb 8 (N K.rb K.n K.n)/\U W K.rb (u*2) (G (x.lo:Int))/\U W K.rb (u*2+1) (G (x.hi:Int))/\U W K.rb (v*2) (G (y.lo:Int))/\U W K.rb (v*2+1) (G (y.hi:Int)) from fun W hb=>⟨(h.below hb).cells.2.1,(h.below hb).cells.2.2.1,(b4 W hb).1,(b4 W hb).2,(b3 W hb).1,(b3 W hb).2⟩);obtain⟨R,hR⟩:∃R,agL c x y=R:=⟨_,rfl⟩
 have HP:=Ja (Jb hr (Jb c8 (Jb c7 hR)));rw[hR];unfold aam;clear h h1 h2 h64 hr b4 b3 c8 c7 ha hb hR;go_enter Try.func54,Try.ntmps54;go_upto_region 6 with(go_at_call 999999;skip)
 obtain⟨X,hX⟩:∃X,(w.alloc (A #[I c,I d,I u,I v,G n,av] 27)).alloc (A #[G 0,G 0] 48)=X:=⟨_,rfl⟩
 have HX:=Ja (show O w X/\X.heap[w.heap.size]? =some (A #[I c,I d,I u,I v,G n,av] 27)/\X.heap[w.heap.size+1]? =some (A #[G 0,G 0] 48) from by
  rw[<-hX];exact⟨by repeat' (first|exact Below.refl _ _|(refine Below.alloc ?_ (by first|(simp;done)|(simp;omega)) _)),zB (zI rfl),zI Zs⟩)
 rw[hX];clear hX;have b6:=Ja (show ∀W,O X W->U W K.sb 7 (.map (some K.rm))/\U W w.heap.size 0 (I c) from fun W hb=>⟨(HC.out W (HX.out.1.trans (hb.mono HX.out.1.size))).1,zA (zH hb HX.out.2.1 (lt_of_block HX.out.2.1)) rfl⟩);have b5:=Ja (show ∀W,O X W->(U W w.heap.size 2 (I u)/\U W w.heap.size 3 (I v))/\(U W K.sb 8 (N K.rb K.n K.n)/\U W K.rb (u*2) (G (x.lo:Int))/\U W K.rb (u*2+1) (G (x.hi:Int))/\U W K.rb (v*2) (G (y.lo:Int))/\U W K.rb (v*2+1) (G (y.hi:Int))) from fun W hb=>⟨⟨zA (zH hb HX.out.2.1 (lt_of_block HX.out.2.1)) rfl,zA (zH hb HX.out.2.1 (lt_of_block HX.out.2.1)) rfl⟩,(HC.out W (HX.out.1.trans (hb.mono HX.out.1.size))).2⟩);obtain⟨c0,c1⟩:=b6.out X (Below.refl _ _);have hl:=HL.out X.drew HX.out.1.drew
 go_region_held3 (fun w'=>U w' K.sb 7 (.map (some K.rm))/\U w' w.heap.size 0 (I c)) ((refine b6.out _ ?_;repeat' (first|with_reducible exact Below.refl _ _|with_reducible assumption|with_reducible refine Below.drew ?_)))
  (fail)
 all_goals go_upto_region 9 with(go_at_call 999999;skip)
 all_goals clear c0 c1 hl
 go_cut [7,8] (fun s t wx=>∃b7 b8,s=L b7/\t=L b8/\Hid (wx.heap[b7]? =some (A #[G (x.lo:Int),G (x.hi:Int)] 48)/\wx.heap[b8]? =some (A #[G (y.lo:Int),G (y.hi:Int)] 48)/\O X wx))
 case first=>
  obtain⟨⟨c0,c1⟩,c2,c3,c4,c5,c6⟩:=b5.out X.drew (Below.refl _ _).drew
  go_region_held3 (fun w'=>(U w' w.heap.size 2 (I u)/\U w' w.heap.size 3 (I v))/\(U w' K.sb 8 (N K.rb K.n K.n)/\U w' K.rb (u*2) (G (x.lo:Int))/\U w' K.rb (u*2+1) (G (x.hi:Int))/\U w' K.rb (v*2) (G (y.lo:Int))/\U w' K.rb (v*2+1) (G (y.hi:Int)))) ((refine b5.out _ ?_;repeat' (first|with_reducible exact Below.refl _ _|with_reducible assumption|with_reducible refine Below.drew ?_|with_reducible refine Below.alloc ?_ Zn _|with_reducible refine Below.setCell ?_ Zn _)))
  (fail)
  all_goals go_wp2_with fail
  all_goals go_meet
  all_goals exact⟨_,_,rfl,rfl,by first|exact zB (zI rfl)|exact zI Zs,by first|exact zB (zI rfl)|exact zI Zs,by repeat' (first|with_reducible exact Below.refl _ _|with_reducible assumption|with_reducible refine Below.drew ?_|with_reducible refine Below.alloc ?_ Zn _|with_reducible refine Below.setCell ?_ Zn _)⟩
 case rest=>
  obtain⟨b7,b8,rfl,rfl,HY⟩:=hcut
  rename World=>Y
  have c9:=HX.out.1.trans (HY.out.2.2.mono HX.out.1.size);have d0:=zH HY.out.2.2 HX.out.2.2 (lt_of_block HX.out.2.2);have d1:=zH HY.out.2.2 HX.out.2.1 (lt_of_block HX.out.2.1);have HB:=Ja (Jb c9 (Jb d1 d0));clear c9 d0 d1 b5 b6 HC HL;have HZ:=Ja (show ∀W,O Y W->U W b7 0 (G (x.lo:Int))/\U W b7 1 (G (x.hi:Int))/\U W b8 0 (G (y.lo:Int))/\U W b8 1 (G (y.hi:Int))/\U W w.heap.size 0 (I c) from fun W hb=>⟨zA (zH hb HY.out.1 (lt_of_block HY.out.1)) rfl,zA (zH hb HY.out.1 (lt_of_block HY.out.1)) rfl,zA (zH hb HY.out.2.1 (lt_of_block HY.out.2.1)) rfl,zA (zH hb HY.out.2.1 (lt_of_block HY.out.2.1)) rfl,zA (zH hb HB.out.2.1 (lt_of_block HB.out.2.1)) rfl⟩);obtain⟨q3,h3⟩:∃q,(c==3)=q:=⟨_,rfl⟩
  obtain⟨q4,h4⟩:∃q,(c==4)=q:=⟨_,rfl⟩
  obtain⟨z0,z1,z2,z3,z4⟩:=HZ.out Y (Below.refl _ _);go_upto_region 10 with(go_at_call 999999;skip)
  go_cut [9] (fun s wx=>s=.bool (q3||q4)/\wx=Y)
  case first=>
   cases q3;cases q4
   all_goals go_wp2_with fail
   all_goals go_meet
   all_goals exact⟨rfl,rfl⟩
  case rest=>
   obtain⟨rfl,b9⟩:=hcut;rw[b9];clear b9;obtain⟨q9,h9⟩:∃q,(q3||q4)=q:=⟨_,rfl⟩
   obtain⟨sx,a8⟩:∃q,vu x=q:=⟨_,rfl⟩
   obtain⟨sy,a6⟩:∃q,vu y=q:=⟨_,rfl⟩
   obtain⟨Q,hQ⟩:∃Q,(decide (c<=17) && (sx && (q9||sy)))=Q:=⟨_,rfl⟩
   have a5:=Ja (fun W=>i6 W x);have d5:=Ja (fun W=>i6 W y);rw[a8] at a5;rw[a6] at d5;rw[h9];go_upto_region 11 with(go_at_call 999999;skip)
   have HQ:=Ja (Jb h3 (Jb h4 (Jb h9 (Jb a8 (Jb a6 hQ)))));clear h3 h4 h9 a8 a6
   go_cut [85] (fun s wx=>s=.bool Q/\Hid (O Y wx))
   case first=>
    by_cases d3:c<=17
    ·rw[decide_eq_true d3,Bool.true_and] at hQ;cases sx
     ·go_wp2_with (go_at_call 41;go_must (refine(a5.out _).mono ?_;rintro e w1 ⟨rfl,g⟩))
      go_meet;exact⟨by rw[<-hQ];rfl,g⟩
     ·cases q9
      ·go_wp2_with (go_at_call 41;go_must (first|(refine(a5.out Y).mono ?_;rintro e w1 ⟨rfl,g⟩;obtain⟨z0,z1,z2,z3,z4⟩:=HZ.out w1 g)|(refine(d5.out _).mono ?_;rintro e w2 ⟨rfl,a2⟩)))
       go_meet;exact⟨by rw[<-hQ];rfl,g.trans (a2.mono g.size)⟩
      ·go_wp2_with (go_at_call 41;go_must (refine(a5.out _).mono ?_;rintro e w1 ⟨rfl,g⟩))
       go_meet;exact⟨by rw[<-hQ];rfl,g⟩
    ·rw[decide_eq_false d3,Bool.false_and] at hQ;subst hQ;go_wp2_with fail;go_meet;exact⟨rfl,Below.refl _ _⟩
   case rest=>
    obtain⟨rfl,HW⟩:=hcut
    rename World=>Z
    have d2:=HB.out.1.trans (HW.out.mono HB.out.1.size);have a9:=zH HW.out HB.out.2.2 (lt_of_block HB.out.2.2);have l:=Ja (Jb d2 a9);clear d2 a9;obtain⟨r,a3,_⟩:=afD HP.out.1 HP.out.2.1 HP.out.2.2.1 Z
    have HF:=Ja (show ∀W,T f #[.agg #[G (x.lo:Int),G (x.hi:Int)],.agg #[G (y.lo:Int),G (y.hi:Int)]] W (fun e w'=>e=.returned (.agg #[G (r.lo:Int),G (r.hi:Int)])/\O W w') from fun W=>by
     obtain⟨r',h1,h2⟩:=afD HP.out.1 HP.out.2.1 HP.out.2.2.1 W;rw[a3] at h1;cases h1
     exact h2)
    have hR:=appF_by a3;rw[HP.out.2.2.2,HQ.out.1,HQ.out.2.1,HQ.out.2.2.1,HQ.out.2.2.2.1,HQ.out.2.2.2.2.1,HQ.out.2.2.2.2.2] at hR;have d7:=ruG_ge HP.out.1;clear z0 z1 z2 z3 z4;obtain⟨z0,z1,z2,z3,z4⟩:=HZ.out Z HW.out;cases Q
    ·rw[if_neg Zd] at hR;subst hR;clear a3;rcases ruG_mem HP.out.1 with rfl|rfl|rfl|rfl|rfl|rfl|rfl|rfl|rfl|rfl|rfl|rfl|rfl|rfl|rfl|rfl|rfl
     ·go_wp2_with (go_at_call 28;go_must (refine(HF.out _).mono ?_;rintro e w1 ⟨rfl,g⟩;have j:O Z w1:=Below.trans (show O Z _ from by repeat' (first|with_reducible exact Below.refl _ _|with_reducible refine Below.drew ?_)) (g.mono (Je _));clear g;have hk:=zH j l.out.2 (lt_of_block l.out.2);have f0:=zA (i:=0) hk rfl;have f1:=zA (i:=1) hk rfl;have g0:=zE (i:=0) hk;have g1:=zE (i:=1) hk;have m:=lt_of_block hk;have a0:=l.out.1.trans (j.mono l.out.1.size)))
      refine bodyPost_ret (v:=.agg #[G (R.lo:Int),G (R.hi:Int)]) ?_ rfl ⟨rfl,by repeat' (first|exact Below.refl _ _|assumption|(refine Below.drew ?_)|(refine Below.alloc ?_ (by first|(simp;done)|(simp;omega)) _)|(refine Below.setCell ?_ (by first|(simp;done)|(simp;omega)) _))⟩;rw[zM rfl];go_simp
     ·go_wp2_with (go_at_call 30;go_must (refine(HF.out _).mono ?_;rintro e w1 ⟨rfl,g⟩;have j:O Z w1:=Below.trans (show O Z _ from by repeat' (first|with_reducible exact Below.refl _ _|with_reducible refine Below.drew ?_)) (g.mono (Je _));clear g;have hk:=zH j l.out.2 (lt_of_block l.out.2);have f0:=zA (i:=0) hk rfl;have f1:=zA (i:=1) hk rfl;have g0:=zE (i:=0) hk;have g1:=zE (i:=1) hk;have m:=lt_of_block hk;have a0:=l.out.1.trans (j.mono l.out.1.size)))
      refine bodyPost_ret (v:=.agg #[G (R.lo:Int),G (R.hi:Int)]) ?_ rfl ⟨rfl,by repeat' (first|exact Below.refl _ _|assumption|(refine Below.drew ?_)|(refine Below.alloc ?_ (by first|(simp;done)|(simp;omega)) _)|(refine Below.setCell ?_ (by first|(simp;done)|(simp;omega)) _))⟩;rw[zM rfl];go_simp
     ·go_wp2_with (go_at_call 31;go_must (refine(HF.out _).mono ?_;rintro e w1 ⟨rfl,g⟩;have j:O Z w1:=Below.trans (show O Z _ from by repeat' (first|with_reducible exact Below.refl _ _|with_reducible refine Below.drew ?_)) (g.mono (Je _));clear g;have hk:=zH j l.out.2 (lt_of_block l.out.2);have f0:=zA (i:=0) hk rfl;have f1:=zA (i:=1) hk rfl;have g0:=zE (i:=0) hk;have g1:=zE (i:=1) hk;have m:=lt_of_block hk;have a0:=l.out.1.trans (j.mono l.out.1.size)))
      refine bodyPost_ret (v:=.agg #[G (R.lo:Int),G (R.hi:Int)]) ?_ rfl ⟨rfl,by repeat' (first|exact Below.refl _ _|assumption|(refine Below.drew ?_)|(refine Below.alloc ?_ (by first|(simp;done)|(simp;omega)) _)|(refine Below.setCell ?_ (by first|(simp;done)|(simp;omega)) _))⟩;rw[zM rfl];go_simp
     ·go_wp2_with (go_at_call 32;go_must (refine(HF.out _).mono ?_;rintro e w1 ⟨rfl,g⟩;have j:O Z w1:=Below.trans (show O Z _ from by repeat' (first|with_reducible exact Below.refl _ _|with_reducible refine Below.drew ?_)) (g.mono (Je _));clear g;have hk:=zH j l.out.2 (lt_of_block l.out.2);have f0:=zA (i:=0) hk rfl;have f1:=zA (i:=1) hk rfl;have g0:=zE (i:=0) hk;have g1:=zE (i:=1) hk;have m:=lt_of_block hk;have a0:=l.out.1.trans (j.mono l.out.1.size)))
      refine bodyPost_ret (v:=.agg #[G (R.lo:Int),G (R.hi:Int)]) ?_ rfl ⟨rfl,by repeat' (first|exact Below.refl _ _|assumption|(refine Below.drew ?_)|(refine Below.alloc ?_ (by first|(simp;done)|(simp;omega)) _)|(refine Below.setCell ?_ (by first|(simp;done)|(simp;omega)) _))⟩;rw[zM rfl];go_simp
     ·go_wp2_with (go_at_call 33;go_must (refine(HF.out _).mono ?_;rintro e w1 ⟨rfl,g⟩;have j:O Z w1:=Below.trans (show O Z _ from by repeat' (first|with_reducible exact Below.refl _ _|with_reducible refine Below.drew ?_)) (g.mono (Je _));clear g;have hk:=zH j l.out.2 (lt_of_block l.out.2);have f0:=zA (i:=0) hk rfl;have f1:=zA (i:=1) hk rfl;have g0:=zE (i:=0) hk;have g1:=zE (i:=1) hk;have m:=lt_of_block hk;have a0:=l.out.1.trans (j.mono l.out.1.size)))
      refine bodyPost_ret (v:=.agg #[G (R.lo:Int),G (R.hi:Int)]) ?_ rfl ⟨rfl,by repeat' (first|exact Below.refl _ _|assumption|(refine Below.drew ?_)|(refine Below.alloc ?_ (by first|(simp;done)|(simp;omega)) _)|(refine Below.setCell ?_ (by first|(simp;done)|(simp;omega)) _))⟩;rw[zM rfl];go_simp
     ·go_wp2_with (go_at_call 35;go_must (refine(HF.out _).mono ?_;rintro e w1 ⟨rfl,g⟩;have j:O Z w1:=Below.trans (show O Z _ from by repeat' (first|with_reducible exact Below.refl _ _|with_reducible refine Below.drew ?_)) (g.mono (Je _));clear g;have hk:=zH j l.out.2 (lt_of_block l.out.2);have f0:=zA (i:=0) hk rfl;have f1:=zA (i:=1) hk rfl;have g0:=zE (i:=0) hk;have g1:=zE (i:=1) hk;have m:=lt_of_block hk;have a0:=l.out.1.trans (j.mono l.out.1.size)))
      refine bodyPost_ret (v:=.agg #[G (R.lo:Int),G (R.hi:Int)]) ?_ rfl ⟨rfl,by repeat' (first|exact Below.refl _ _|assumption|(refine Below.drew ?_)|(refine Below.alloc ?_ (by first|(simp;done)|(simp;omega)) _)|(refine Below.setCell ?_ (by first|(simp;done)|(simp;omega)) _))⟩;rw[zM rfl];go_simp
     ·go_wp2_with (go_at_call 36;go_must (refine(HF.out _).mono ?_;rintro e w1 ⟨rfl,g⟩;have j:O Z w1:=Below.trans (show O Z _ from by repeat' (first|with_reducible exact Below.refl _ _|with_reducible refine Below.drew ?_)) (g.mono (Je _));clear g;have hk:=zH j l.out.2 (lt_of_block l.out.2);have f0:=zA (i:=0) hk rfl;have f1:=zA (i:=1) hk rfl;have g0:=zE (i:=0) hk;have g1:=zE (i:=1) hk;have m:=lt_of_block hk;have a0:=l.out.1.trans (j.mono l.out.1.size)))
      refine bodyPost_ret (v:=.agg #[G (R.lo:Int),G (R.hi:Int)]) ?_ rfl ⟨rfl,by repeat' (first|exact Below.refl _ _|assumption|(refine Below.drew ?_)|(refine Below.alloc ?_ (by first|(simp;done)|(simp;omega)) _)|(refine Below.setCell ?_ (by first|(simp;done)|(simp;omega)) _))⟩;rw[zM rfl];go_simp
     ·go_wp2_with (go_at_call 37;go_must (refine(HF.out _).mono ?_;rintro e w1 ⟨rfl,g⟩;have j:O Z w1:=Below.trans (show O Z _ from by repeat' (first|with_reducible exact Below.refl _ _|with_reducible refine Below.drew ?_)) (g.mono (Je _));clear g;have hk:=zH j l.out.2 (lt_of_block l.out.2);have f0:=zA (i:=0) hk rfl;have f1:=zA (i:=1) hk rfl;have g0:=zE (i:=0) hk;have g1:=zE (i:=1) hk;have m:=lt_of_block hk;have a0:=l.out.1.trans (j.mono l.out.1.size)))
      refine bodyPost_ret (v:=.agg #[G (R.lo:Int),G (R.hi:Int)]) ?_ rfl ⟨rfl,by repeat' (first|exact Below.refl _ _|assumption|(refine Below.drew ?_)|(refine Below.alloc ?_ (by first|(simp;done)|(simp;omega)) _)|(refine Below.setCell ?_ (by first|(simp;done)|(simp;omega)) _))⟩;rw[zM rfl];go_simp
     ·go_wp2_with (go_at_call 39;go_must (refine(HF.out _).mono ?_;rintro e w1 ⟨rfl,g⟩;have j:O Z w1:=Below.trans (show O Z _ from by repeat' (first|with_reducible exact Below.refl _ _|with_reducible refine Below.drew ?_)) (g.mono (Je _));clear g;have hk:=zH j l.out.2 (lt_of_block l.out.2);have f0:=zA (i:=0) hk rfl;have f1:=zA (i:=1) hk rfl;have g0:=zE (i:=0) hk;have g1:=zE (i:=1) hk;have m:=lt_of_block hk;have a0:=l.out.1.trans (j.mono l.out.1.size)))
      refine bodyPost_ret (v:=.agg #[G (R.lo:Int),G (R.hi:Int)]) ?_ rfl ⟨rfl,by repeat' (first|exact Below.refl _ _|assumption|(refine Below.drew ?_)|(refine Below.alloc ?_ (by first|(simp;done)|(simp;omega)) _)|(refine Below.setCell ?_ (by first|(simp;done)|(simp;omega)) _))⟩;rw[zM rfl];go_simp
     ·go_wp2_with (go_at_call 40;go_must (refine(HF.out _).mono ?_;rintro e w1 ⟨rfl,g⟩;have j:O Z w1:=Below.trans (show O Z _ from by repeat' (first|with_reducible exact Below.refl _ _|with_reducible refine Below.drew ?_)) (g.mono (Je _));clear g;have hk:=zH j l.out.2 (lt_of_block l.out.2);have f0:=zA (i:=0) hk rfl;have f1:=zA (i:=1) hk rfl;have g0:=zE (i:=0) hk;have g1:=zE (i:=1) hk;have m:=lt_of_block hk;have a0:=l.out.1.trans (j.mono l.out.1.size)))
      refine bodyPost_ret (v:=.agg #[G (R.lo:Int),G (R.hi:Int)]) ?_ rfl ⟨rfl,by repeat' (first|exact Below.refl _ _|assumption|(refine Below.drew ?_)|(refine Below.alloc ?_ (by first|(simp;done)|(simp;omega)) _)|(refine Below.setCell ?_ (by first|(simp;done)|(simp;omega)) _))⟩;rw[zM rfl];go_simp
     ·go_wp2_with (go_at_call 42;go_must (refine(HF.out _).mono ?_;rintro e w1 ⟨rfl,g⟩;have j:O Z w1:=Below.trans (show O Z _ from by repeat' (first|with_reducible exact Below.refl _ _|with_reducible refine Below.drew ?_)) (g.mono (Je _));clear g;have hk:=zH j l.out.2 (lt_of_block l.out.2);have f0:=zA (i:=0) hk rfl;have f1:=zA (i:=1) hk rfl;have g0:=zE (i:=0) hk;have g1:=zE (i:=1) hk;have m:=lt_of_block hk;have a0:=l.out.1.trans (j.mono l.out.1.size)))
      refine bodyPost_ret (v:=.agg #[G (R.lo:Int),G (R.hi:Int)]) ?_ rfl ⟨rfl,by repeat' (first|exact Below.refl _ _|assumption|(refine Below.drew ?_)|(refine Below.alloc ?_ (by first|(simp;done)|(simp;omega)) _)|(refine Below.setCell ?_ (by first|(simp;done)|(simp;omega)) _))⟩;rw[zM rfl];go_simp
     ·go_wp2_with (go_at_call 43;go_must (refine(HF.out _).mono ?_;rintro e w1 ⟨rfl,g⟩;have j:O Z w1:=Below.trans (show O Z _ from by repeat' (first|with_reducible exact Below.refl _ _|with_reducible refine Below.drew ?_)) (g.mono (Je _));clear g;have hk:=zH j l.out.2 (lt_of_block l.out.2);have f0:=zA (i:=0) hk rfl;have f1:=zA (i:=1) hk rfl;have g0:=zE (i:=0) hk;have g1:=zE (i:=1) hk;have m:=lt_of_block hk;have a0:=l.out.1.trans (j.mono l.out.1.size)))
      refine bodyPost_ret (v:=.agg #[G (R.lo:Int),G (R.hi:Int)]) ?_ rfl ⟨rfl,by repeat' (first|exact Below.refl _ _|assumption|(refine Below.drew ?_)|(refine Below.alloc ?_ (by first|(simp;done)|(simp;omega)) _)|(refine Below.setCell ?_ (by first|(simp;done)|(simp;omega)) _))⟩;rw[zM rfl];go_simp
     ·go_wp2_with (go_at_call 44;go_must (refine(HF.out _).mono ?_;rintro e w1 ⟨rfl,g⟩;have j:O Z w1:=Below.trans (show O Z _ from by repeat' (first|with_reducible exact Below.refl _ _|with_reducible refine Below.drew ?_)) (g.mono (Je _));clear g;have hk:=zH j l.out.2 (lt_of_block l.out.2);have f0:=zA (i:=0) hk rfl;have f1:=zA (i:=1) hk rfl;have g0:=zE (i:=0) hk;have g1:=zE (i:=1) hk;have m:=lt_of_block hk;have a0:=l.out.1.trans (j.mono l.out.1.size)))
      refine bodyPost_ret (v:=.agg #[G (R.lo:Int),G (R.hi:Int)]) ?_ rfl ⟨rfl,by repeat' (first|exact Below.refl _ _|assumption|(refine Below.drew ?_)|(refine Below.alloc ?_ (by first|(simp;done)|(simp;omega)) _)|(refine Below.setCell ?_ (by first|(simp;done)|(simp;omega)) _))⟩;rw[zM rfl];go_simp
     ·go_wp2_with (go_at_call 46;go_must (refine(HF.out _).mono ?_;rintro e w1 ⟨rfl,g⟩;have j:O Z w1:=Below.trans (show O Z _ from by repeat' (first|with_reducible exact Below.refl _ _|with_reducible refine Below.drew ?_)) (g.mono (Je _));clear g;have hk:=zH j l.out.2 (lt_of_block l.out.2);have f0:=zA (i:=0) hk rfl;have f1:=zA (i:=1) hk rfl;have g0:=zE (i:=0) hk;have g1:=zE (i:=1) hk;have m:=lt_of_block hk;have a0:=l.out.1.trans (j.mono l.out.1.size)))
      refine bodyPost_ret (v:=.agg #[G (R.lo:Int),G (R.hi:Int)]) ?_ rfl ⟨rfl,by repeat' (first|exact Below.refl _ _|assumption|(refine Below.drew ?_)|(refine Below.alloc ?_ (by first|(simp;done)|(simp;omega)) _)|(refine Below.setCell ?_ (by first|(simp;done)|(simp;omega)) _))⟩;rw[zM rfl];go_simp
     ·go_wp2_with (go_at_call 47;go_must (refine(HF.out _).mono ?_;rintro e w1 ⟨rfl,g⟩;have j:O Z w1:=Below.trans (show O Z _ from by repeat' (first|with_reducible exact Below.refl _ _|with_reducible refine Below.drew ?_)) (g.mono (Je _));clear g;have hk:=zH j l.out.2 (lt_of_block l.out.2);have f0:=zA (i:=0) hk rfl;have f1:=zA (i:=1) hk rfl;have g0:=zE (i:=0) hk;have g1:=zE (i:=1) hk;have m:=lt_of_block hk;have a0:=l.out.1.trans (j.mono l.out.1.size)))
      refine bodyPost_ret (v:=.agg #[G (R.lo:Int),G (R.hi:Int)]) ?_ rfl ⟨rfl,by repeat' (first|exact Below.refl _ _|assumption|(refine Below.drew ?_)|(refine Below.alloc ?_ (by first|(simp;done)|(simp;omega)) _)|(refine Below.setCell ?_ (by first|(simp;done)|(simp;omega)) _))⟩;rw[zM rfl];go_simp
     ·go_wp2_with (go_at_call 48;go_must (refine(HF.out _).mono ?_;rintro e w1 ⟨rfl,g⟩;have j:O Z w1:=Below.trans (show O Z _ from by repeat' (first|with_reducible exact Below.refl _ _|with_reducible refine Below.drew ?_)) (g.mono (Je _));clear g;have hk:=zH j l.out.2 (lt_of_block l.out.2);have f0:=zA (i:=0) hk rfl;have f1:=zA (i:=1) hk rfl;have g0:=zE (i:=0) hk;have g1:=zE (i:=1) hk;have m:=lt_of_block hk;have a0:=l.out.1.trans (j.mono l.out.1.size)))
      refine bodyPost_ret (v:=.agg #[G (R.lo:Int),G (R.hi:Int)]) ?_ rfl ⟨rfl,by repeat' (first|exact Below.refl _ _|assumption|(refine Below.drew ?_)|(refine Below.alloc ?_ (by first|(simp;done)|(simp;omega)) _)|(refine Below.setCell ?_ (by first|(simp;done)|(simp;omega)) _))⟩;rw[zM rfl];go_simp
     ·go_wp2_with (go_at_call 49;go_must (refine(HF.out _).mono ?_;rintro e w1 ⟨rfl,g⟩;have j:O Z w1:=Below.trans (show O Z _ from by repeat' (first|with_reducible exact Below.refl _ _|with_reducible refine Below.drew ?_)) (g.mono (Je _));clear g;have hk:=zH j l.out.2 (lt_of_block l.out.2);have f0:=zA (i:=0) hk rfl;have f1:=zA (i:=1) hk rfl;have g0:=zE (i:=0) hk;have g1:=zE (i:=1) hk;have m:=lt_of_block hk;have a0:=l.out.1.trans (j.mono l.out.1.size)))
      refine bodyPost_ret (v:=.agg #[G (R.lo:Int),G (R.hi:Int)]) ?_ rfl ⟨rfl,by repeat' (first|exact Below.refl _ _|assumption|(refine Below.drew ?_)|(refine Below.alloc ?_ (by first|(simp;done)|(simp;omega)) _)|(refine Below.setCell ?_ (by first|(simp;done)|(simp;omega)) _))⟩;rw[zM rfl];go_simp
    ·rw[if_pos rfl] at hR
     have d6:c<=17:=by
      have:=HQ.out.2.2.2.2.2;simp only[Jm,decide_eq_true_eq] at this;exact this.1
     obtain⟨fv,b0⟩:∃q,exF c y.lo=q:=⟨_,rfl⟩
     obtain⟨ev,b1⟩:∃q,exV c x.lo y.lo=q:=⟨_,rfl⟩
     have b2:=fun W=>agd ⟨d7,d6⟩ (Nat.lt_of_le_of_lt (Jn HP.out.2.1.1 HP.out.2.1.2) Zd) (Nat.lt_of_le_of_lt (Jn HP.out.2.2.1.1 HP.out.2.2.1.2) Zd) W (a:=x.lo) (b:=y.lo)
     have a4:R=if fv=true then afY ev else xr:=by rw[<-b0,<-b1];exact hR
     rw[b0,b1] at b2;have d4:=Ja b2;have HO:=Ja (fun W=>aw W ev);clear b2 hR b0 b1 a3;cases fv
     ·rw[if_neg Zd] at a4;subst a4
      go_wp2_with (first
       |(go_at_call 68;go_must (refine(d4.out _).mono ?_;rintro e w1 ⟨rfl,g⟩;have a1:Below Z.heap.size Z w1:=Below.trans (show Below Z.heap.size Z _ from by repeat' (first|with_reducible exact Below.refl _ _|with_reducible refine Below.drew ?_)) (g.mono (Je _));clear g))
       |(go_at_call 20;go_must (refine(re _).mono ?_;rintro e w2 ⟨rfl,a2⟩;have j:=a1.trans (a2.mono a1.size);clear a2 a1;have hk:=zH j l.out.2 (lt_of_block l.out.2);have f0:=zA (i:=0) hk rfl;have f1:=zA (i:=1) hk rfl;have g0:=zE (i:=0) hk;have g1:=zE (i:=1) hk;have m:=lt_of_block hk;have a0:=l.out.1.trans (j.mono l.out.1.size))))
      refine bodyPost_ret (v:=.agg #[G 0,G 65535]) ?_ rfl ⟨rfl,by repeat' (first|exact Below.refl _ _|assumption|(refine Below.drew ?_)|(refine Below.alloc ?_ (by first|(simp;done)|(simp;omega)) _)|(refine Below.setCell ?_ (by first|(simp;done)|(simp;omega)) _))⟩;rw[zM rfl];go_simp
     ·rw[if_pos rfl] at a4;subst a4
      go_wp2_with (first
       |(go_at_call 68;go_must (refine(d4.out _).mono ?_;rintro e w1 ⟨rfl,g⟩;have a1:Below Z.heap.size Z w1:=Below.trans (show Below Z.heap.size Z _ from by repeat' (first|with_reducible exact Below.refl _ _|with_reducible refine Below.drew ?_)) (g.mono (Je _));clear g))
       |(go_at_call 67;go_must (refine(HO.out _).mono ?_;rintro e w2 ⟨rfl,a2⟩;have j:=a1.trans (a2.mono a1.size);clear a2 a1;have hk:=zH j l.out.2 (lt_of_block l.out.2);have f0:=zA (i:=0) hk rfl;have f1:=zA (i:=1) hk rfl;have g0:=zE (i:=0) hk;have g1:=zE (i:=1) hk;have m:=lt_of_block hk;have a0:=l.out.1.trans (j.mono l.out.1.size))))
      refine bodyPost_ret (v:=.agg #[G ev,G ev]) ?_ rfl ⟨rfl,by repeat' (first|exact Below.refl _ _|assumption|(refine Below.drew ?_)|(refine Below.alloc ?_ (by first|(simp;done)|(simp;omega)) _)|(refine Below.setCell ?_ (by first|(simp;done)|(simp;omega)) _))⟩;rw[zM rfl];go_simp
def agP (p:IProg)(f:Int):Prop:=vC p=0/\(0<=f/\f.toNat<p.funcs.length)/\p.funcs.getD f.toNat []≠ []
def m7 (w:World)(e:Ending)(w':World):Prop:=e=.returned (F)/\O w w'
theorem af2{B:Nat}{V:PV}{p:IProg}(hp:ProgIn w B V p)(hB:B<=w.heap.size)(hs:∀f∈p.funcs,vZ f)(hv:vC p≠0)(f:Int):
 T 8 #[yH V p,I f] w (m7 w):=by
 obtain⟨z,h⟩:∃z,vC p=z:=⟨_,rfl⟩
 have g:∀W,O w W->T 16 #[yH V p] W (m9 W z):=fun W hb=>by
  have:=tu (hp.below (hb.mono hB)) (Jn hB hb.size) hs;rw[h] at this;exact this
 rw[h] at hv;have t:(z !=0)=true:=by simpa using hv
 obtain⟨Vf,Va,Vd,Vb⟩:=V;obtain⟨f1,f2,e1,x,u⟩:=hp.funcs.form;have l:Vf=.slice f1 p.funcs.length f2:=e1;subst l;obtain⟨X,k⟩:∃X,w.alloc (A #[.slice f1 p.funcs.length f2,Va,I p.entry,I p.handler,Vd,Vb] 44)=X:=⟨_,rfl⟩;have d:O w X:=by rw[<-k];exact(Below.refl _ _).alloc (Je _) _
 have c:Q X w.heap.size #[.slice f1 p.funcs.length f2,Va,I p.entry,I p.handler,Vd,Vb] 44:=by rw[<-k];exact zI rfl
 have o:=Ja (show ∀W,O X W->T 16 #[.agg #[.slice f1 p.funcs.length f2,Va,I p.entry,I p.handler,Vd,Vb]] W (m9 W z) from fun W hb=>g W (d.trans (hb.mono d.size)));have x0:=zA (i:=0) c rfl;have x1:=zA (i:=1) c rfl;have x2:=zA (i:=2) c rfl;have x3:=zA (i:=3) c rfl;have x4:=zA (i:=4) c rfl;have x5:=zA (i:=5) c rfl;have q:=lt_of_block c;have m:=Ja (Jb d c);clear d c;clear hp hB hs hv g h;unfold yH;go_enter Try.func8,Try.ntmps8;go_wp2_with fail
 go_step3
 go_wp2_with (go_at_call 16;go_must (refine(o.out _ (Below.refl _ _)).mono ?_;rintro e w1 ⟨rfl,j⟩))
 try rw[Exit.noGoto_ret]
 go_ret;exact⟨rfl,m.out.1.trans (j.mono m.out.1.size)⟩
theorem af3{B:Nat}{V:PV}{p:IProg}(hp:ProgIn w B V p)(hB:B<=w.heap.size)(hs:∀f∈p.funcs,vZ f)(hv:vC p=0)(f:Int)(hf:f<0):
 T 8 #[yH V p,I f] w (m7 w):=by
 have g:∀W,O w W->T 16 #[yH V p] W (m9 W 0):=fun W hb=>by
  have:=tu (hp.below (hb.mono hB)) (Jn hB hb.size) hs;rw[hv] at this;exact this
 have q:decide (f<0)=true:=decide_eq_true hf;obtain⟨Vf,Va,Vd,Vb⟩:=V;obtain⟨f1,f2,e1,u,t⟩:=hp.funcs.form;have k:Vf=.slice f1 p.funcs.length f2:=e1;subst k;obtain⟨X,j⟩:∃X,w.alloc (A #[.slice f1 p.funcs.length f2,Va,I p.entry,I p.handler,Vd,Vb] 44)=X:=⟨_,rfl⟩;have d:O w X:=by rw[<-j];exact(Below.refl _ _).alloc (Je _) _
 have c:Q X w.heap.size #[.slice f1 p.funcs.length f2,Va,I p.entry,I p.handler,Vd,Vb] 44:=by rw[<-j];exact zI rfl
 have m:=Ja (show ∀W,O X W->T 16 #[.agg #[.slice f1 p.funcs.length f2,Va,I p.entry,I p.handler,Vd,Vb]] W (m9 W 0) from fun W hb=>g W (d.trans (hb.mono d.size)));have x0:=zA (i:=0) c rfl;have x1:=zA (i:=1) c rfl;have x2:=zA (i:=2) c rfl;have x3:=zA (i:=3) c rfl;have x4:=zA (i:=4) c rfl;have x5:=zA (i:=5) c rfl;have o:=lt_of_block c;have l:=Ja (Jb d c);clear d c;clear hp hB hs hv g;unfold yH;go_enter Try.func8,Try.ntmps8;go_wp2_with fail
 go_step3
 go_wp2_with (go_at_call 16;go_must (refine(m.out _ (Below.refl _ _)).mono ?_;rintro e w1 ⟨rfl,h⟩))
 try rw[Exit.noGoto_ret]
 go_ret;exact⟨rfl,l.out.1.trans (h.mono l.out.1.size)⟩
theorem af4{B:Nat}{V:PV}{p:IProg}(hp:ProgIn w B V p)(hB:B<=w.heap.size)(hs:∀f∈p.funcs,vZ f)(hv:vC p=0)(f:Int)(a1:0<=f)(hf:(p.funcs.length:Int)<=f):
 T 8 #[yH V p,I f] w (m7 w):=by
 have j:∀W,O w W->T 16 #[yH V p] W (m9 W 0):=fun W hb=>by
  have:=tu (hp.below (hb.mono hB)) (Jn hB hb.size) hs;rw[hv] at this;exact this
 have u:decide (f<0)=false:=decide_eq_false Zo;have t:decide ((p.funcs.length:Int)<=f)=true:=decide_eq_true hf;obtain⟨Vf,Va,Vd,Vb⟩:=V;obtain⟨f1,f2,e1,a0,y⟩:=hp.funcs.form;have o:Vf=.slice f1 p.funcs.length f2:=e1;subst o;obtain⟨X,m⟩:∃X,w.alloc (A #[.slice f1 p.funcs.length f2,Va,I p.entry,I p.handler,Vd,Vb] 44)=X:=⟨_,rfl⟩;have d:O w X:=by rw[<-m];exact(Below.refl _ _).alloc (Je _) _
 have c:Q X w.heap.size #[.slice f1 p.funcs.length f2,Va,I p.entry,I p.handler,Vd,Vb] 44:=by rw[<-m];exact zI rfl
 have q:=Ja (show ∀W,O X W->T 16 #[.agg #[.slice f1 p.funcs.length f2,Va,I p.entry,I p.handler,Vd,Vb]] W (m9 W 0) from fun W hb=>j W (d.trans (hb.mono d.size)));have x0:=zA (i:=0) c rfl;have x1:=zA (i:=1) c rfl;have x2:=zA (i:=2) c rfl;have x3:=zA (i:=3) c rfl;have x4:=zA (i:=4) c rfl;have x5:=zA (i:=5) c rfl;have k:=lt_of_block c;have l:=Ja (Jb d c);clear d c;clear hp hB hs hv j;unfold yH;go_enter Try.func8,Try.ntmps8;go_wp2_with fail
 go_step3
 go_wp2_with (go_at_call 16;go_must (refine(q.out _ (Below.refl _ _)).mono ?_;rintro e w1 ⟨rfl,h⟩;have g:=zH h l.out.2 k;have y0:=zA (i:=0) g rfl;have x:=lt_of_block g))
 try rw[Exit.noGoto_ret]
 go_ret;exact⟨rfl,l.out.1.trans (h.mono l.out.1.size)⟩
theorem aeF{B:Nat}{V:PV}{p:IProg}(hp:ProgIn w B V p)(hB:B<=w.heap.size)(hs:∀f∈p.funcs,vZ f)(hv:vC p=0)(f:Nat)(hf:p.funcs[f]? =some []):
 T 8 #[yH V p,I f] w (m7 w):=by
 have m:∀W,O w W->T 16 #[yH V p] W (m9 W 0):=fun W hb=>by
  have:=tu (hp.below (hb.mono hB)) (Jn hB hb.size) hs;rw[hv] at this;exact this
 have a6:=(Jh.1 hf).1;have a0:decide ((f:Int)<0)=false:=decide_eq_false Zo;have y:decide ((p.funcs.length:Int)<=(f:Int))=false:=decide_eq_false Zo;have x:decide (p.funcs.length<=f)=false:=decide_eq_false Zo;obtain⟨Vf,Va,Vd,Vb⟩:=V;obtain⟨f1,f2,e1,a9,a8⟩:=hp.funcs.form;have t:Vf=.slice f1 p.funcs.length f2:=e1;subst t;obtain⟨X,q⟩:∃X,w.alloc (A #[.slice f1 p.funcs.length f2,Va,I p.entry,I p.handler,Vd,Vb] 44)=X:=⟨_,rfl⟩;have d:O w X:=by rw[<-q];exact(Below.refl _ _).alloc (Je _) _
 have c:Q X w.heap.size #[.slice f1 p.funcs.length f2,Va,I p.entry,I p.handler,Vd,Vb] 44:=by rw[<-q];exact zI rfl
 have u:=Ja (show ∀W,O X W->T 16 #[.agg #[.slice f1 p.funcs.length f2,Va,I p.entry,I p.handler,Vd,Vb]] W (m9 W 0) from fun W hb=>m W (d.trans (hb.mono d.size)));obtain⟨gb,go,rfl,k,bv,g0,l⟩:=hp.funcs.get hf;obtain⟨ka,kc,rfl,a4,a3⟩:=l.form;rw[Nk] at g0;have HG:=Ja (show ∀W,O w W->U W gb (go+f) (.slice ka 0 kc) from fun W hb=>zV (hb.mono hB) k g0);have a5:gb<w.heap.size:=Zo;have x0:=zA (i:=0) c rfl;have x1:=zA (i:=1) c rfl;have x2:=zA (i:=2) c rfl;have x3:=zA (i:=3) c rfl;have x4:=zA (i:=4) c rfl;have x5:=zA (i:=5) c rfl;have o:=lt_of_block c;have h:=Ja (Jb d c);clear d c;clear hp hB hs hv m hf g0 l k;unfold yH;go_enter Try.func8,Try.ntmps8;go_wp2_with fail
 go_step3
 go_wp2_with (go_at_call 16;go_must (refine(u.out _ (Below.refl _ _)).mono ?_;rintro e w1 ⟨rfl,g⟩;have j:=zH g h.out.2 o;have y0:=zA (i:=0) j rfl;have yg:=HG.out w1 (h.out.1.trans (g.mono h.out.1.size));have a2:=lt_of_block j;have a1:gb<w1.heap.size:=by omega))
 try rw[Exit.noGoto_ret]
 go_ret;exact⟨rfl,h.out.1.trans (g.mono h.out.1.size)⟩
theorem ga{B:Nat}{V:PV}{p:IProg}(hp:ProgIn w B V p)(hB:B<=w.heap.size)(hs:∀f∈p.funcs,vZ f)(f:Int)(h:¬agP p f):
 T 8 #[yH V p,I f] w (m7 w):=by
 by_cases hv:vC p=0
 ·by_cases i:f<0
  ·exact af3 hp hB hs hv f i
  by_cases g:(p.funcs.length:Int)<=f
  ·exact af4 hp hB hs hv f Zo g
  obtain⟨n,rfl⟩:∃n:Nat,f=n:=⟨f.toNat,by omega⟩
  have c:n<p.funcs.length:=Zo
  have d:p.funcs.getD n []=[]:=by
   by_cases e:p.funcs.getD n []=[]
   ·exact e
   ·exact absurd ⟨hv,⟨by omega,by omega⟩,e⟩ h
  refine aeF hp hB hs hv n ?_;rw[Jj,Jd c] at d;rw[Jd c]
  simpa using d
 ·exact af2 hp hB hs hv f
end Go.Proofs.Ytoahcpkibpomcaa
