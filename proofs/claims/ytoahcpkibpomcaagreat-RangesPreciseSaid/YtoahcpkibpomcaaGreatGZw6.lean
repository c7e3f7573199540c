/- Part of a proof. -/
import Derived.Test.YtoahcpkibpomcaaGreatGZw4
set_option maxRecDepth 8000
set_option linter.all false
set_option maxHeartbeats 4000000
set_option maxRecDepth 100000
namespace Go.Proofs.YtoahcpkibpomcaaGreat
open Go.RowKit
variable {c idom xs:List Int}{t:Slv}{W W' w w' w1:World}{Bi Bn Bv C bi bp i k x:Nat}{ds:List Deferred}{P:Program}{g:List (List Nat)}{ns:List Nat}{l:List (IEdge×Value)}{X X':Nat->Prop}{o:IOp}{u:Int}
theorem UpN.lt{f:Int->Int}{t:Int}:∀ {k a a':Nat},UpN c f t k a a'->a<c.length->a'<c.length
 |0,_,_,h,ha=>by rw[h.2];exact ha
 |k+1,_,_,h,_=>by obtain⟨_,a1,h1,_,h2⟩:=h;exact UpN.lt h2 h1
theorem nj{b n:Nat}{f:Int->Int}(h:ud w b n f){x:Int}(c:-9223372036854775808<=x/\x<=9223372036854775807)(k:Nat):
 (Instr.lookup 171 (.map (some b)) (I x) false).run Tryz.prog (w.drewN k)=.ok (I (f x)) (w.drewN k):=
 (ud.look (h.same (w':=w.drewN k) rfl) c).1
theorem meet_any (w:World)(Bv Bi bv bm nm bi:Nat)(f:Int->Int)(c:List Int)(hn:c.length<=2000000)
 (c1:T w Bv 0 (Q bv)) (c2:T w bv 1 (.map (some bm))) (hm:ud w bm nm f)
 (c3:T w Bi 0 (Y bi c.length c.length)) (hi:L w bi (c.map (Value.int .i64)).toArray 3)
 (k0 a b r:Nat) (ha:a<c.length) (hb:b<c.length) (hM:qZ c f k0 a b r):
 A 146 #[I a,I b,Q Bv,Q Bi] w fun e w'=>e=.returned (I r)/\∃n,w'=w.drewN n:=by
 have m:=Ja hM;have HI:=Ja hi;have i:=Ja hm;clear hM hi hm;go_enter Tryz.func146,Tryz.ntmps146;go_wp2
 go_loopg [0,1] k0 (fun k x y wr=>∃a b:Nat,a<c.length/\b<c.length/\x=I a/\y=I b/\Hid (qZ c f k a b r)/\∃n,wr=w.drewN n)
 case atStart=>exact⟨a,b,ha,hb,rfl,rfl,m,0,rfl⟩
 case round=>
  clear ha hb m a b;obtain⟨a,b,ha,hb,rfl,rfl,m,n,rfl⟩:=hrel
  cases gk with
  |zero=>
   obtain⟨rfl,rfl⟩:=m.out;have a0:((r:Int) !=(r:Int))=false:=by simp
   go_wp2;go_ret
   exact⟨rfl,n,rfl⟩
  |succ k=>
   obtain⟨a2,j,a',h,j',b',o,hM⟩:=m.out;have a0:((a:Int) !=(b:Int))=true:=by simp;omega
   have l:=Ja h;have g:=Ja o;have a3:=Ja hM;have u:=UpN.lt h ha;have t:=UpN.lt o hb;clear a2 h o hM m;go_wp2
   go_loopg [0] j (fun j x wr=>∃a:Nat,a<c.length/\x=I a/\Hid (UpN c f (f b) j a a')/\∃n,wr=w.drewN n)
   case atStart=>exact⟨a,ha,rfl,l,n,rfl⟩
   case round=>
    clear l;obtain⟨x,a7,rfl,l,n2,rfl⟩:=hrel;have la:=nj i.out (x:=(x:Int)) Zo;have lb:=nj i.out (x:=(b:Int)) Zo
    cases gk with
    |zero=>
     obtain⟨ht,rfl⟩:=l.out;have d:decide (f b<f a')=false:=by simpa using ht
     go_wp2;go_quiet (fail);go_wp2
     go_loopg [1] j' (fun j y wr=>∃y0:Nat,y0<c.length/\y=I y0/\Hid (UpN c f (f a') j y0 b')/\∃n,wr=w.drewN n)
     case atStart=>exact⟨b,hb,rfl,g,_,World.drewN_drewN _ _ _⟩
     case round=>
      clear g d;obtain⟨y,a6,rfl,g,n3,rfl⟩:=hrel;have lc:=nj i.out (x:=(y:Int)) Zo
      cases gk with
      |zero=>
       obtain⟨ht,rfl⟩:=g.out;have d:decide (f a'<f b')=false:=by simpa using ht
       go_wp2;go_quiet (fail);go_wp2
       go_roundg k
       case measure=>omega
       case rel=>exact⟨a',b',u,t,rfl,rfl,a3,_,World.drewN_drewN _ _ _⟩
      |succ j2=>
       obtain⟨ht,y1,h1,hy,h⟩:=g.out;have d:decide (f a'<f y)=true:=by simpa using ht
       have cy:T w bi y (I y1):=zA HI.out (by simp[hy]);have a4:(y:Int)<c.length:=Zo;have q:=Ja h;clear hy h g;go_wp2;go_quiet (fail);go_wp2
       go_roundg j2
       case measure=>omega
       case rel=>exact⟨y1,h1,rfl,q,_,rfl⟩
    |succ j2=>
     obtain⟨ht,a1,h1,hx,h⟩:=l.out;have d:decide (f b<f x)=true:=by simpa using ht
     have cx:T w bi x (I a1):=zA HI.out (by simp[hx]);have a5:(x:Int)<c.length:=Zo;have q:=Ja h;clear hx h l;go_wp2;go_quiet (fail);go_wp2
     go_roundg j2
     case measure=>omega
     case rel=>exact⟨a1,h1,rfl,q,_,rfl⟩
end Go.Proofs.YtoahcpkibpomcaaGreat
set_option maxRecDepth 8000
namespace Go.Proofs.YtoahcpkibpomcaaGreat
open Go.RowKit Go.Shelf
variable {c idom xs:List Int}{t:Slv}{W W' w w' w1:World}{Bi Bn Bv C bi bp i k x:Nat}{ds:List Deferred}{P:Program}{g:List (List Nat)}{ns:List Nat}{l:List (IEdge×Value)}{X X':Nat->Prop}{o:IOp}{u:Int}
attribute [local go_sem] Oper.semAt_some
theorem wi.snoc {idom:List Int}{f:Int->Int}{p:Nat}:∀ {ps:List Nat} {d d1 d2:Int},wi idom f ps d d1->mJ idom f p d1 d2->wi idom f (ps++ [p]) d d2
 | [],d,d1,d2,h,h2=>by cases h;exact⟨d2,h2,rfl⟩
 |q::ps,d,d1,d2,⟨d0,h0,h⟩,h2=>⟨d0,h0,wi.snoc h h2⟩
theorem UpN.unique{f:Int->Int}{t:Int}:∀ {k k2 a r r2:Nat},UpN c f t k a r->UpN c f t k2 a r2->r=r2
 |0,0,_,_,_,h,h2=>h.2.trans h2.2.symm
 |0,_+1,_,_,_,h,h2=>absurd h2.1 h.1
 |_+1,0,_,_,_,h,h2=>absurd h.1 h2.1
 |k+1,k2+1,a,r,r2,⟨_,a1,_,h,h3⟩,⟨_,a2,_,h2,h4⟩=>by
  obtain rfl:a1=a2:=by rw[h] at h2;exact Int.ofNat_inj.1 (Nt h2)
  exact UpN.unique h3 h4
theorem qZ.unique{f:Int->Int}:∀ {k k2 a b r r2:Nat},qZ c f k a b r->qZ c f k2 a b r2->r=r2
 |0,0,_,_,_,_,h,h2=>h.2.trans h2.2.symm
 |0,_+1,_,_,_,_,h,h2=>absurd h.1 h2.1
 |_+1,0,_,_,_,_,h,h2=>absurd h2.1 h.1
 |k+1,k2+1,a,b,r,r2,⟨_,j,a1,h1,j',b1,h2,h3⟩,⟨_,i,a2,g1,i',b2,g2,g3⟩=>by
  obtain rfl:=UpN.unique h1 g1;obtain rfl:=UpN.unique h2 g2;exact qZ.unique h3 g3
theorem mJ.unique{f:Int->Int}{p:Nat}{d d1 d2:Int}(h:mJ c f p d d1)(h2:mJ c f p d d2):d1=d2:=by
 obtain⟨x,j,h⟩:=h;obtain⟨y,g,h2⟩:=h2;obtain rfl:x=y:=by rw[j] at g;simpa using g
 rcases h with⟨a,rfl⟩|⟨a,b,rfl⟩|⟨a,dn,rfl,_,k,r,hm,rfl⟩<;>rcases h2 with⟨a',e⟩|⟨a',b',e⟩|⟨a',dn',e0,_,k',r',i,e⟩
 ·exact e.symm
 ·exact absurd a a'
 ·exact absurd a a'
 ·exact absurd a' a
 ·exact e.symm
 ·omega
 ·exact absurd a' a
 ·omega
 ·obtain rfl:dn=dn':=by omega
  rw[e,qZ.unique hm i]
theorem wi.unique{f:Int->Int}:∀ {ps:List Nat} {d d1 d2:Int},wi c f ps d d1->wi c f ps d d2->d1=d2
 | [],_,_,_,h,h2=>h.trans h2.symm
 |p::ps,d,d1,d2,⟨e,h,h'⟩,⟨e2,g,g'⟩=>by
  obtain rfl:=h.unique g;exact wi.unique h' g'
structure DomMem (w W:World) (bv Bi bi n:Nat) (idom:List Int):Prop where
 hv:W.heap[w.heap.size]? =some (.cells #[.pointer (some ⟨bv,0,none⟩)] 192 (0,0))
 hi:W.heap[Bi]? =some (.cells #[.slice (some ⟨bi,0,none⟩) n n] 22 (0,0))
 hm:W.heap[Bi+1]? =some (.cells #[.func (.func 146) #[] #[.pointer (some ⟨w.heap.size,0,none⟩),.pointer (some ⟨Bi,0,none⟩)]] 204 (0,0))
 hr:W.heap[bi]? =some (.cells (idom.map (Value.int .i64)).toArray 3 (0,0))
 hl:idom.length=n
 hb:Below w.heap.size w W
 lt:w.heap.size<bi/\bi<Bi
theorem DomMem.kept{bv n:Nat}{row:Option Nat}(h:DomMem w W bv Bi bi n idom)(hg:W.grownBy W' row)
 (c:∀r,row=some r->w.heap.size<r/\r≠bi/\r≠Bi/\r≠Bi+1):DomMem w W' bv Bi bi n idom:=by
 obtain⟨hv,hi,hm,hr,hl,hb,lt⟩:=h;refine⟨zL hg hv (fun e=>by have:=c _ e;omega),zL hg hi (fun e=>(c _ e).2.2.1 rfl),zL hg hm (fun e=>(c _ e).2.2.2 rfl),zL hg hr (fun e=>(c _ e).2.1 rfl),hl,hb.grown hg hb.size (fun k hk=>?_),lt⟩;have:=c _ hk;omega
theorem DomMem.own{bv n:Nat}{row:Option Nat}(h:DomMem w W bv Bi bi n idom)(hg:W.grownBy W' row)
 (c:∀r,row=some r->∃o:Obj,W.heap[r]? =some o/\o.isCells=false) (hB:∀r,row=some r->w.heap.size<=r):DomMem w W' bv Bi bi n idom:=by
 refine h.kept hg (fun r e=>?_);obtain⟨o,ho,d⟩:=c r e
 have aux:∀ {b:Nat} {cs:Array Value} {t:TypeId},L W b cs t->r≠b:=by
  rintro b cs t hb rfl;rw[hb] at ho;cases ho;cases d
 exact⟨Nat.lt_of_le_of_ne (hB r e) (Ne.symm (aux h.hv)),aux h.hr,aux h.hi,aux h.hm⟩
theorem DomMem.set{bv n:Nat}(h:DomMem w W bv Bi bi n c)(k:Nat)(d:Int):DomMem w (W.setCell ⟨bi,k,none⟩ (I d)) bv Bi bi n (c.set k d):=by
 obtain⟨hv,hi,hm,hr,hl,hb,lt⟩:=h;refine⟨zR hv Zt,zR hi Zt,zR hm Zt,?_,by simpa using hl,hb.setCell Zt _,lt⟩;rw[zD hr];simp
def oh (B:Nat)(W:World)(ds:List Deferred):Prop:=
 ∃Ds:List Nat,ds=Ds.map (fun D=> {target:=.collected D,args:=#[]})/\Ds.Nodup/\∀D∈Ds,B<=D/\W.heap[D]? =some (.deferred (some []))
theorem oh.keeps{B:Nat}(h:oh B W ds)(hk:KeepsFrom 0 W W'):oh B W' ds:=by
 obtain⟨Ds,rfl,h1,h2⟩:=h;exact⟨Ds,rfl,h1,fun D hD=>⟨(h2 D hD).1,hk.same D _ (Jt _) (h2 D hD).2 rfl⟩⟩
theorem oh.push{B:Nat}{W0:World}{D:Nat}(h:oh B W0 ds)(hk:KeepsFrom 0 W0 W)(g:W0.heap.size<=D)(hB:B<=D)(d:W.heap[D]? =some (.deferred (some []))):
 oh B W ({target:=.collected D,args:=#[]}::ds):=by
 obtain⟨Ds,rfl,h1,h2⟩:=h;refine⟨D::Ds,rfl,Qt.2 ⟨fun hm=>?_,h1⟩,fun E c=>?_⟩
 ·have:=(Array.getElem?_eq_some_iff.1 (h2 D hm).2).1;omega
 ·rcases Jq.1 c with rfl|c
  ·exact⟨hB,d⟩
  ·exact⟨(h2 E c).1,hk.same E _ (Jt _) (h2 E c).2 rfl⟩
theorem sr{F:Fence}{m:Nat}{fn:Func}{c:Array Value}{R:Ending->World->Prop}(B:Nat)(G:World->Prop)
 (g:∀W D,B<=D->W.heap[D]? =some (.deferred (some []))->G W->G (W.putObj D (.deferred none))) (d:∀W,G W->LeavesIn F m P fn c R [] .returning W):
 ∀(Ds:List Nat) (W:World),Ds.Nodup->(∀D∈Ds,B<=D/\W.heap[D]? =some (.deferred (some [])))->G W->LeavesInM F m P fn c R (Ds.map (fun D=> {target:=.collected D,args:=#[]})) .returning W
 | [],W,_,_,h=>d W h
 |D::Ds,W,hn,hd,h=>by
  have hD:=hd D Zs;refine⟨by simp,.inl ⟨D,_,rfl,run_takeDeferred hD.2,?_⟩⟩;refine sr B G g d Ds _ (Qt.1 hn).2 (fun E hE=>⟨(hd E (by simp[hE])).1,?_⟩) (g W D hD.1 hD.2 h);rw[World.putObj_heap_other (by rintro rfl;exact(Qt.1 hn).1 hE)];exact(hd E (by simp[hE])).2
theorem _root_.Go.KeepsFrom.from0(h:KeepsFrom 0 W W')(B:Nat):KeepsFrom B W W':=⟨h.size,fun k o _ hk ho=>h.same k o (Jt _) hk ho⟩
theorem uh (W:World)(o:Obj):KeepsFrom 0 W (W.alloc o):=⟨by simp,fun k o' _ hk _=>(Below.heap_alloc _ _ _ (Array.getElem?_eq_some_iff.1 hk).1).trans hk⟩
theorem uu{b:Nat}{cs:Array Value}{t:TypeId}(h:L W b cs t)(v:Value):KeepsFrom 0 W (W.setCell ⟨b,i,none⟩ v):=
 ⟨by simp,fun k o _ hk hc=>(Below.heap_setCell _ _ _ k (fun e=>by subst e;rw[h] at hk;cases hk;cases hc)).trans hk⟩
theorem uW (W:World)(n:Nat):KeepsFrom 0 W (W.drewN n):=⟨Je _,fun _ _ _ h _=>h⟩
theorem oH{bv n:Nat}(h:L w1 (w.heap.size+2) (List.replicate n (I (-1))).toArray 3/\O w w1/\L w1 w.heap.size #[Q bv] 192)
 (d:w.heap.size+2<w1.heap.size) (h1:1<=n):
 DomMem w (((w1.setCell ⟨w.heap.size+2,0,none⟩ (I 0)).alloc (G #[Y (w.heap.size+2) n n] 22)).alloc (G #[.func (.func 146) #[] #[Q w.heap.size,Q w1.heap.size]] 204))
  bv w1.heap.size (w.heap.size+2) n ((0:Int)::List.replicate (n-1) (-1)):=by
 obtain⟨hr,hb,hv⟩:=h;have c:=zD (i:=0) hr (I 0);refine⟨zB (zB (zR hv Zs)),zB (zI Zs),zI Zs,?_,by simp;omega,?_,by omega,d⟩
 ·rw[zB (zB c)];obtain⟨m,rfl⟩:∃m,n=m+1:=⟨n-1,by omega⟩
  simp[Qz]
 ·exact((hb.setCell Zs _).alloc Zt _).alloc Zt _
theorem vA{b:Nat}{a:Addr}(h:a.block≠b)(u:Value):(W.setCell ⟨b,i,none⟩ u).cell? a=W.cell? a:=by
 have:(W.setCell ⟨b,i,none⟩ u).heap[a.block]? =W.heap[a.block]?:=Below.heap_setCell _ _ _ _ h;unfold World.cell?;rw[this]
theorem aaT.keptObj{n:Nat}{xs:List Nat}{bv op len:Nat}{ar:Option Addr}{g:Nat}{row:Option Nat}(h:aaT Bv Bn n xs bv bp op len i ar g W)(hg:W.grownBy W' row)
 (d:∀r,row=some r->∃o:Obj,W.heap[r]? =some o/\o.isCells=false):aaT Bv Bn n xs bv bp op len i ar g W':=by
 obtain⟨c1,c2,c3,k,c4,l⟩:=h;refine⟨cell_kept c1 hg d,cell_kept c2 hg d,cell_kept c3 hg d,k,cell_kept c4 hg d,fun j x hj=>?_⟩;obtain⟨b,o,e,c⟩:=l j x hj;exact⟨b,o,e,cell_kept c hg d⟩
theorem aaT.set{n:Nat}{xs:List Nat}{bv op len g:Nat}{ar:Option Addr}{d:Nat}{Bd:Nat}(h:aaT Bv Bn n xs bv bp op len g ar d W)(u:Value)
 (h1:Bv≠Bd) (h2:Bn≠Bd) (h3:bv≠Bd) (m:bp≠Bd) (l:∀(j x:Nat),xs[j]? =some x->∀a,ar=some a->a.block≠Bd):aaT Bv Bn n xs bv bp op len g ar d (W.setCell ⟨Bd,0,none⟩ u):=by
 obtain⟨c1,c2,c3,i,c4,k⟩:=h;refine⟨(vA h1 u).trans c1,(vA h2 u).trans c2,(vA h3 u).trans c3,i,(vA m u).trans c4,fun j x hj=>?_⟩;obtain⟨b,o,e,c⟩:=k j x hj;exact⟨b,o,e,(vA (a:=⟨b,o+j,none⟩) (l j x hj ⟨b,o,none⟩ e) u).trans c⟩
theorem jt{bv:Nat}{k:List Nat}{f:Int->Int}{c:List (List Nat)}(q:oN w C bv k f c)(hb:Below C w W){pr:List Nat}(g:c[x]? =some pr)
 (c1:T W Bv 0 (Q bv)) (c2:T W Bn 0 (I x)):
 ∃bp op len cap ar capr,aaT Bv Bn x pr bv bp op len cap ar capr W/\bp<C/\∀(j y:Nat),pr[j]? =some y->∀a,ar=some a->a.block<C:=by
 obtain⟨ov,bm,pv,nm,e0,e1,e2,ho,hm,t,hp,hl⟩:=q;obtain⟨a,cap,rfl,m⟩:=hp.form;obtain⟨b,o,a2,i,rfl,h,d,u,l⟩:=hp.row g;refine⟨b,o,c.length,cap,a2,i,⟨c1,c2,(hb.cell (p:=⟨bv,2,none⟩) hl).trans e2,(Jh.1 g).1,(hb.cell (p:=⟨b,o+x,none⟩) h).trans d,fun j y hj=>?_⟩,h,fun j y hj a e=>?_⟩
 ·obtain⟨b2,o2,e,hB,d⟩:=l j y hj;exact⟨b2,o2,e,(hb.cell (p:=⟨b2,o2+j,none⟩) hB).trans d⟩
 ·obtain⟨b2,o2,e2,hB,d⟩:=l j y hj;rw[e2] at e;cases e;exact hB
theorem qQ (w:World)(C bv n:Nat)(l3:List Nat)(f:Int->Int)(t:List (List Nat))(hC:C<=w.heap.size)(hV:oN w C bv l3 f t)(h1:1<=n)(hn:n<=2000000)
 (ns:List Nat) (o4:l3=0::ns) (l9:∀x∈ns,x<n) (q1:ns.length<=2000000) (hpl:t.length=n) (l7:∀row∈t,row.length<=4000004000000) (k0:Nat) (idom':List Int) (hD:ip t f ns k0 ((0:Int)::List.replicate (n-1) (-1)) idom'):
 A 141 #[Q bv,I n] w fun e w'=>∃g,e=.returned (.slice (some ⟨g,0,none⟩) n n)/\w.heap.size<=g/\L w' g (idom'.map (Value.int .i64)).toArray 3/\O w w':=by
 have HV:=Ja hV;have HD:=Ja hD;have HN:=Ja l9;have q0:=Ja l7;clear hV hD l9 l7;refine(callsIn_wide (n:=100)).1 (callsIn_of_wp_marks Tryz.func141 rfl trivial ?_ rfl);simp only[Tryz.ntmps141,List.size_toArray,Nq,Ow,Nat.reduceAdd,Nat.reduceSub,Array.replicate_succ,Array.replicate_zero,List.push_toArray,List.append_toArray,Op,List.cons_append];refine wpIn_wide.2 ?_
 have i2:∀W:World,W=(w.alloc (G #[Q bv] 192)).alloc (G #[I (-1)] 3)->A 145 #[.slice (some ⟨w.heap.size+1,0,none⟩) 1 1,I n] W fun e w1=>
  e=.returned (.slice (some ⟨w.heap.size+2,0,none⟩) n n)/\T w1 (w.heap.size+2) 0 (I (-1))/\N w1 (w.heap.size+2) 0/\w.heap.size+2<w1.heap.size/\Hid (L w1 (w.heap.size+2) (List.replicate n (I (-1))).toArray 3/\O w w1/\L w1 w.heap.size #[Q bv] 192):=by
  rintro W rfl;have n9:((w.alloc (G #[Q bv] 192)).alloc (G #[I (-1)] 3)).heap.size=w.heap.size+2:=by simp
  have hb:O w ((w.alloc (G #[Q bv] 192)).alloc (G #[I (-1)] 3)):=((Below.refl _ _).alloc (Je _) _).alloc Zs _;refine(lr _ (w.heap.size+1) 0 1 n (zA (zI Zs) Zs) h1 Zo).mono ?_;rintro e w1 ⟨rfl,hr,k1⟩;rw[n9] at hr k1 ⊢;exact⟨rfl,zA hr (by rw[List.getElem?_toArray,Nm,if_pos Zo]),zE hr,lt_of_block hr,hr,hb.trans (k1.mono Zo),zH k1 (zB (zI rfl)) Zo⟩
 have c3:∀(w1:World) (a:Addr) (u:Value) (o:Obj),(((w1.setCell a u).alloc o).alloc (G #[.nilFunc] 204)).cell? ⟨w1.heap.size+1,0,none⟩=some .nilFunc:=fun w1 a u o=>zA (zI Zs) Zs
 have f3:∀(w1:World) (a:Addr) (u:Value) (o:Obj),N (((w1.setCell a u).alloc o).alloc (G #[.nilFunc] 204)) (w1.heap.size+1) 0:=fun w1 a u o=>zE (zI Zs)
 go_wp2_with (go_at_call 145;go_must (refine(i2 _ rfl).mono ?_;rintro e w1 ⟨rfl,c0,f0,n4,HW⟩))
 refine wp_loop_ghost (fun k a W=>∃(ch:Bool) (ds:List Deferred),∃u9 g8 g6 g5 g4 g3 g2 g1 l2 l0 k9 g0 f9 f8 f7 f6 f5 f4 f2 f1 e8 e7 e6 e5 e4 e3 d7 d6 d5 d4 d3 d2 c9 c8 c7 c5 c4 c2 c1 b9 b8 b7 b6 b5:Value,a= {tmps:=#[.pointer (some ⟨bv,0,none⟩),I n,.pointer (some ⟨w.heap.size,0,none⟩),undef,.slice none 0 0,.pointer (some ⟨w1.heap.size,0,none⟩),.pointer (some ⟨w1.heap.size+1,0,none⟩),.bool ch,undef,u9,g8,g6,.slice (some ⟨w.heap.size+1,0,none⟩) 1 1,I n,.slice (some ⟨w.heap.size+2,0,none⟩) n n,.slice (some ⟨w.heap.size+2,0,none⟩) n n,.pointer (some ⟨w.heap.size+2,0,none⟩),.func (.func 146) #[] #[.pointer (some ⟨w.heap.size,0,none⟩),.pointer (some ⟨w1.heap.size,0,none⟩)],g5,g4,g3,g2,g1,l2,l0,k9,g0,f9,f8,f7,f6,f5,f4,f2,f1,e8,e7,e6,e5,e4,e3,d7,d6,d5,d4,d3,d2,c9,c8,c7,c5,c4,c2,c1,b9,b8,b7,b6,b5],defers:=ds }/\oh w.heap.size W ds/\∃idom,DomMem w W bv w1.heap.size (w.heap.size+2) n idom/\((ch=true/\ip t f ns k idom idom')∨(ch=false/\idom=idom'))) k0 ?_ ?_
 ·refine⟨true,[],_,_,_,_,_,_,_,_,_,_,_,_,_,_,_,_,_,_,_,_,_,_,_,_,_,_,_,_,_,_,_,_,_,_,_,_,_,_,_,_,_,_,_,_,rfl,⟨[],rfl,List.nodup_nil,by simp⟩,_,oH HW.out n4 h1,.inl ⟨rfl,HD.out⟩⟩
 clear HD HW c0 f0 c3 f3 i2;rintro k a W ⟨ch,ds,u9,g8,g6,g5,g4,g3,g2,g1,l2,l0,k9,g0,f9,f8,f7,f6,f5,f4,f2,f1,e8,e7,e6,e5,e4,e3,d7,d6,d5,d4,d3,d2,c9,c8,c7,c5,c4,c2,c1,b9,b8,b7,b6,b5,rfl,hM,idom,h4,m4⟩;have HM:=Ja hM;have q:=Ja h4;have k4:=Ja m4;clear hM h4 m4;have cI:=cell_of_one q.out.hi;have cV:=cell_of_one q.out.hv
 cases ch with
 |false=>
  go_wp2;obtain⟨Ds,rfl,hnd,o9⟩:=HM.out;obtain rfl:idom=idom':=k4.out.elim (fun h=>Bool.noConfusion h.1) (fun h=>h.2);refine sr w.heap.size (fun W=>L W (w.heap.size+2) (idom.map (Value.int .i64)).toArray 3/\O w W) ?_ ?_ Ds W hnd o9 ⟨q.out.hr,q.out.hb⟩
  ·rintro W D hB hd ⟨h1,h2⟩;exact⟨zL (grownBy_putObj' W D _) h1 (by rintro e;cases e;rw[h1] at hd;cases hd),h2.grown (grownBy_putObj' W D _) h2.size (by rintro k e;cases e;exact hB)⟩
  ·rintro W ⟨h1,h2⟩
   exact⟨_,results_tmp rfl _ _ _,_,rfl,by omega,h1,h2⟩
 |true=>
  have p8:=HV.out;obtain⟨ov,bm,pv,nm,e0,e1,e2,ho,hm,r0,hp,hl⟩:=p8;obtain⟨aO,capO,rfl,p1,h9⟩:=ho;subst o4;obtain⟨b,o,rfl,r6,p3⟩:=h9 0 0 rfl;simp only[Nq] at p1 e0;have HX:=Ja h9;clear e2 hm hp h9 p3 e1;have e0:=(q.out.hb.cell (p:=⟨bv,0,none⟩) (show bv<w.heap.size by omega)).trans e0;have l1:1<=capO:=Zo;go_upto_region 7 with fail
  go_cut [23,24,25] from 18 to 25 (fun s l i wx=>wx=W/\l=I (ns.length:Int)/\i=I 0/\∃o' c',s=.slice (some ⟨b,o',none⟩) ns.length c'/\Hid (0<ns.length->o'=o+1))
  case first=>
   go_wp2
   all_goals go_meet
   ·exact⟨rfl,rfl,rfl,_,_,rfl,by unfold Hid;intro h;omega⟩
   ·exact⟨rfl,rfl,rfl,_,_,rfl,fun _=>rfl⟩
  case rest=>
   obtain⟨rfl,rfl,rfl,o',c',rfl,HO⟩:=hcut
   obtain⟨k,i1,h5,a2,h7,rfl⟩:∃k2 i1 h5,ny t f ns idom false i1 h5/\((h5=false/\idom'=i1)∨(h5=true/\ip t f ns k2 i1 idom'))/\k=k2+1:=by
    rcases k4.out with⟨_,h⟩|⟨h,_⟩
    ·cases k with
     |zero=>exact h.elim
     |succ k=>obtain⟨i1,ch,h1,h2⟩:=h;exact⟨k,i1,ch,h1,h2,rfl⟩
    ·cases h
   have a4:=Ja a2;have k7:=Ja h7;clear a2 h7 k4 cI cV;go_wp2;refine wp_loop_ghost (fun k a W=>∃(i:Nat) (ch:Bool) (ds:List Deferred),∃u9 g8 g6 g5 g4 g3 g2 g1 g0 f9 f8 f7 f6 f5 f4 f2 f1 e8 e7 e6 e5 e4 e3 d7 d6 d5 d4 d3 d2 c9 c8 c7 c5 c4 c2 c1 b9 b8 b7 b6 b5:Value,a= {tmps:=#[.pointer (some ⟨bv,0,none⟩),I n,.pointer (some ⟨w.heap.size,0,none⟩),undef,.slice none 0 0,.pointer (some ⟨w1.heap.size,0,none⟩),.pointer (some ⟨w1.heap.size+1,0,none⟩),.bool ch,undef,u9,g8,g6,.slice (some ⟨w.heap.size+1,0,none⟩) 1 1,I n,.slice (some ⟨w.heap.size+2,0,none⟩) n n,.slice (some ⟨w.heap.size+2,0,none⟩) n n,.pointer (some ⟨w.heap.size+2,0,none⟩),.func (.func 146) #[] #[.pointer (some ⟨w.heap.size,0,none⟩),.pointer (some ⟨w1.heap.size,0,none⟩)],g5,g4,g3,g2,g1,(.slice (some ⟨b,o',none⟩) ns.length c'),(I (ns.length:Int)),(I i),g0,f9,f8,f7,f6,f5,f4,f2,f1,e8,e7,e6,e5,e4,e3,d7,d6,d5,d4,d3,d2,c9,c8,c7,c5,c4,c2,c1,b9,b8,b7,b6,b5],defers:=ds }/\k+i=ns.length/\oh w.heap.size W ds/\∃idom,DomMem w W bv w1.heap.size (w.heap.size+2) n idom/\ny t f (ns.drop i) idom ch i1 h5) ns.length ?_ ?_
   ·exact⟨0,false,ds,_,_,_,_,_,_,_,_,_,_,_,_,_,_,_,_,_,_,_,_,_,_,_,_,_,_,_,_,_,_,_,_,_,_,_,_,_,_,_,_,_,rfl,rfl,HM.out,idom,q.out,a4.out⟩
   clear a4 HM q ds idom;rintro j a W ⟨i,ch,ds,u9,g8,g6,g5,g4,g3,g2,g1,g0,f9,f8,f7,f6,f5,f4,f2,f1,e8,e7,e6,e5,e4,e3,d7,d6,d5,d4,d3,d2,c9,c8,c7,c5,c4,c2,c1,b9,b8,b7,b6,b5,rfl,r3,hM,idom,h4,a2⟩;have HM:=Ja hM;have q:=Ja h4;have a4:=Ja a2;clear hM h4 a2
   by_cases r1:(i:Int)<ns.length
   ·obtain⟨x,hx⟩:∃x,ns[i]? =some x:=⟨_,Jd Zo⟩
    have q6:=HN.out x (Ji hx);obtain⟨b1,o1,p4,_,h8⟩:=HX.out (i+1) x (by simpa using hx);obtain⟨rfl,rfl⟩:b=b1/\o=o1:=by simpa using p4
    have h8:T W b (o'+i) (I x):=by
     rw[HO.out Zo,Nat.add_assoc,Nat.add_comm 1 i];exact(q.out.hb.cell (p:=⟨b,o+(i+1),none⟩) (show b<w.heap.size by omega)).trans h8
    have cV:=cell_of_one q.out.hv;have r8:w.heap.size<W.heap.size:=lt_of_block q.out.hv;have q4:w1.heap.size+1<W.heap.size:=lt_of_block q.out.hm;go_wp2_with (go_at_call 147;refine(lj _ _ _).mono ?_;rintro e w2 ⟨rfl,rfl⟩)
    have b2:ns.drop i=x::ns.drop (i+1):=by
     rw[Qn Zo]
     congr 1
     have:=Jd (l:=ns) (i:=i) Zo;rw[hx] at this;exact(Nt this).symm
    have hp:=a4.out;rw[b2] at hp;obtain⟨pr,d0,old,l4,a5,a0,h6,b3⟩:=hp;have n3:(((W.alloc (G #[I (-1)] 3)).alloc (G #[Q bv] 192)).alloc (G #[I x] 3)).heap.size=W.heap.size+3:=by simp
    have a7:DomMem w (((W.alloc (G #[I (-1)] 3)).alloc (G #[Q bv] 192)).alloc (G #[I x] 3)) bv w1.heap.size (w.heap.size+2) n idom:=
     ((q.out.kept (Uo W _ none) (fun _ e=>by cases e)).kept (Uo _ _ none) (fun _ e=>by cases e)).kept (Uo _ _ none) (fun _ e=>by cases e)
    have b4:Boxed (((W.alloc (G #[I (-1)] 3)).alloc (G #[Q bv] 192)).alloc (G #[I x] 3)) W.heap.size 3 (I (-1)):=((Boxed.new W _ _).alloc _).alloc _;have j1:KeepsFrom 0 W (((W.alloc (G #[I (-1)] 3)).alloc (G #[Q bv] 192)).alloc (G #[I x] 3)):=((uh _ _).trans (uh _ _)).trans (uh _ _);obtain⟨bp,op,len,p9,ar,n5,b0,r5,m5⟩:=jt HV.out (a7.hb.mono hC) l4 (Bv:=W.heap.size+1) (Bn:=W.heap.size+1+1) (cell_of_one (zB (zI Zs))) (cell_of_one (zI Zs));generalize (((W.alloc (G #[I (-1)] 3)).alloc (G #[Q bv] 192)).alloc (G #[I x] 3))=W4 at n3 a7 b4 j1 b0 ⊢;have n6:=Ja a5;have HC:=Ja b3;have s0:=Ja a0
    refine(wpIn_wide (n:=100)).1 (wpIn_rangeFunc_ownG rfl Zd (gf:=152) (lb:=#[Q (W.heap.size+1),Q (W.heap.size+1+1)]) rfl trivial (enters_of Tryz.func152 Zk rfl)
     (nH 99 Zd (W.heap.size+1) (W.heap.size+1+1) x pr bv bp op len p9 ar n5 (q0.out pr (Ji l4)) W4 b0) (fun h k x=>k (h x)) (fun V l o o' hl ho hc _ h=>h.keptObj (grownBy_putObj' V l o') (fun r e=>by cases e;exact⟨o,ho,hc⟩)) (Below.refl _ _) (fun _=>rfl)
     (fun pre V=>DomMem w V bv w1.heap.size (w.heap.size+2) n idom/\KeepsFrom 0 W4 V/\∃d,Boxed V W.heap.size 3 (I d)/\OkD idom d/\wi idom f (pre.map (·.1)) (-1) d) (fun _ _ _=>False)
     ?own (fun _ _ _ _ _ hs _ _=>hs) ⟨a7,KeepsFrom.refl _ _,-1,b4,.inl rfl,rfl⟩ ?a1 ?assign ?body ?done ?stop)
    case own=>
     rintro s X Y row ⟨hd,hk,d,hb,ho,hp⟩ hg hr;exact⟨hd.own hg (fun r e=>(hr r e).2) (fun r e=>by have:=(hr r e).1;omega),ownFrom_keepsFrom (β:=Unit) (Je W4.heap.size) () X Y row hk hg hr,d,hb.kept hg (fun e=>by have:=(hr _ e.symm).1;omega),ho,hp⟩
    case assign=>
     intro l x W K hK
     gi_wp2
     exact hK
    case body=>
     clear h8 b0 a7 b4 a0 a5 b3 h6 hx b2 e0 cV;rintro l pre ⟨p,hp⟩ V ⟨hd,hk,d,hb,ho,a8⟩ q3;have a6:(pre++ [(⟨p,hp⟩: {p//p∈pr})]).map (fun x=>x.1)=pre.map (fun x=>x.1)++ [p]:=by rw[Js];rfl
     have a6:=Ja a6;obtain⟨hpl,a5⟩:=n6.out p hp;obtain⟨d1,l8,k5⟩:=a5 d ho;obtain⟨x0,i0,l5⟩:=k5;have HD:=Ja hd;have HK:=Ja hk;have HB:=Ja hb;have a9:=Ja (Jb l8 (a8.snoc ⟨x0,i0,l5⟩));have cI:=cell_of_one hd.hi;have cM:=cell_of_one hd.hm;have cD:=hb.cell;have fD:=hb.frozen;have o2:p<n:=by rw[<-hd.hl];exact hpl
     have cr:T V (w.heap.size+2) p (I x0):=zA hd.hr (by simp[i0]);have q9:(p:Int)<n:=Zo;clear hd hk hb a8 ho l8 a5 i0 hpl;rcases l5 with⟨i9,rfl⟩|⟨i9,r4,rfl⟩|⟨i9,dn,rfl,p0,k2,r,k6,rfl⟩
     ·gi_wp2
      refine(show _/\_/\_ from⟨KeepsFrom.refl _ _,fun h=>h,HD.out,HK.out,_,HB.out,a9.out.1,?_⟩);rw[a6.out];exact a9.out.2
     ·gi_wp2
      refine(show _/\_/\_ from⟨(uu HB.out _).from0 _,fun h=>h.set _ Zo Zo Zo Zo (fun j y hj a e=>by have:=m5 j y hj a e;omega),HD.out.kept (grownBy_setCell' V _ _) (fun r e=>by cases e;have:=HD.out.lt;omega),HK.out.trans (uu HB.out _),_,HB.out.set _,a9.out.1,?_⟩)
      show wi idom f ((pre++ [(⟨p,hp⟩: {p//p∈pr})]).map (fun x=>x.1)) (-1) _
      rw[a6.out];exact a9.out.2
     ·have hnd:¬(dn:Int)<0:=Zo
      gi_wp2
      obtain⟨ov,bm',q5,n7,e0,e1,e2,o3,m1,q2,o0,r2⟩:=HV.out.below (HD.out.hb.mono hC);refine⟨trivial,CallsIn.inRound l (callsIn_wide.2 ((meet_any V w.heap.size w1.heap.size bv bm' n7 (w.heap.size+2) f idom (by rw[HD.out.hl];exact hn) (cell_of_one HD.out.hv) e1 m1 (by rw[HD.out.hl];exact cI) HD.out.hr k2 p dn r (by rw[HD.out.hl];exact o2) p0 k6).mono ?_))⟩;rintro e V2 ⟨rfl,m,rfl⟩;clear e0 e1 e2 o3 m1 o0
      gi_wp2
      have n2:Boxed (V.drewN m) W.heap.size 3 (I dn):=HB.out;have m3:V.grownBy (V.drewN m) none:=⟨rfl,rfl,rfl,Je _,fun _ _ _=>rfl⟩
      have m2:KeepsFrom 0 V ((V.drewN m).setCell ⟨W.heap.size,0,none⟩ (I r)):=(uW V m).trans (uu n2 _);refine(show _/\_/\_ from⟨m2.from0 _,fun h=>(h.keptObj m3 (fun r e=>by cases e)).set _ Zo Zo Zo Zo (fun j y hj a e=>by have:=m5 j y hj a e;omega),(HD.out.kept m3 (fun r e=>by cases e)).kept (grownBy_setCell' _ _ _) (fun r e=>by cases e;have:=HD.out.lt;omega),HK.out.trans m2,_,n2.set _,a9.out.1,?_⟩)
      show wi idom f ((pre++ [(⟨p,hp⟩: {p//p∈pr})]).map (fun x=>x.1)) (-1) _
      rw[a6.out];exact a9.out.2
    case done=>
     rintro D xs V hD n8 ⟨hd,hk,d,hb,ho,a8⟩ n0;rw[n8] at a8;obtain rfl:=wi.unique a8 a0;have cI:=cell_of_one hd.hi;have cD:=hb.cell;have cr:T V (w.heap.size+2) x (I old):=zA hd.hr (by simp[h6]);have fr:N V (w.heap.size+2) x:=zE hd.hr;have q7:(x:Int)<n:=Zo;have HD:=Ja hd;have n1:=Ja (HM.out.push (j1.trans hk) Zo (by have:=q.out.hb.size;omega) n0);clear hd hk hb ho a8 n0 h8 b0 a7 b4 a0 a5 b3 h6 hx b2 e0 cV;rcases HC.out with⟨rfl,a3⟩|⟨o5,a3⟩
     ·have k3:=Ja a3;clear a3;have p5:(old !=old)=false:=by simp
      go_wp2;go_quiet (fail);go_wp2;have j2:V.grownBy (V.drewN nq) none:=⟨rfl,rfl,rfl,Je _,fun _ _ _=>rfl⟩
      refine⟨j-1,by omega,i+1,ch,_,_,_,_,_,_,_,_,_,_,_,_,_,_,_,_,_,_,_,_,_,_,_,_,_,_,_,_,_,_,_,_,_,_,_,_,_,_,_,_,_,_,(by rw[Int.natCast_add];rfl),by omega,n1.out.keeps (uW V nq),idom,HD.out.kept j2 (fun r e=>by cases e),k3.out⟩
     ·have k3:=Ja a3;clear a3;have p5:(old !=d)=true:=by simpa using o5
      go_wp2;go_quiet (fail);go_wp2;have j2:V.grownBy (V.drewN nq) none:=⟨rfl,rfl,rfl,Je _,fun _ _ _=>rfl⟩
      refine⟨j-1,by omega,i+1,true,_,_,_,_,_,_,_,_,_,_,_,_,_,_,_,_,_,_,_,_,_,_,_,_,_,_,_,_,_,_,_,_,_,_,_,_,_,_,_,_,_,_,(by rw[Int.natCast_add];rfl),by omega,(n1.out.keeps (uW V nq)).keeps (uu (W:=V.drewN nq) HD.out.hr _),idom.set x d,(HD.out.kept j2 (fun r e=>by cases e)).set x d,k3.out⟩
    case stop=>
     rintro D c pre V _ _ h _;exact h.elim
   ·go_wp2;obtain rfl:i=ns.length:=by omega
    have hp:=a4.out;rw[List.drop_length] at hp;obtain⟨rfl,rfl⟩:=hp;refine⟨k,by omega,?_⟩;rcases k7.out with⟨rfl,rfl⟩|⟨rfl,h⟩
    ·exact .inl ⟨_,⟨rfl,rfl⟩,HM.out,q.out⟩
    ·exact .inr ⟨_,⟨rfl,rfl⟩,HM.out,_,q.out,h⟩
end Go.Proofs.YtoahcpkibpomcaaGreat
set_option maxRecDepth 8000
namespace Go.Proofs.YtoahcpkibpomcaaGreat
open Go.RowKit Go.Shelf
variable {c idom xs:List Int}{t:Slv}{W W' w w' w1:World}{Bi Bn Bv C bi bp i k x:Nat}{ds:List Deferred}{P:Program}{g:List (List Nat)}{ns:List Nat}{l:List (IEdge×Value)}{X X':Nat->Prop}{o:IOp}{u:Int}
def j6 (w:World)(xs:List Int)(e:Ending)(w':World):Prop:=∃v,e=.returned v/\w'.ownsRow w.heap.size 3 1 v xs.length (xs.map zN)/\O w w'
theorem lI (g:List (List Nat))(c:List Nat):(un g c).length=g.length:=by
 have h1:∀(l:List Nat) (P:List (List Nat)) (n:Nat),(l.foldl (xS n) P).length=P.length:=by
  intro l
  induction l with
  |nil=>intros;rfl
  |cons a l ih=>intro P n;rw[Qk,ih];simp[xS]
 have h2:∀(l:List Nat) (P:List (List Nat)),(l.foldl (yh g) P).length=P.length:=by
  intro l
  induction l with
  |nil=>intros;rfl
  |cons a l ih=>intro P;rw[Qk,ih];unfold yh;rw[h1]
 unfold un;rw[h2];simp
theorem afJ(hr:∀row∈g,row.length<=2000000){c:List Nat}(ho:c.length<=2000000):∀row∈un g c,row.length<=4000004000000:=by
 intro row d;have:=rj g 2000000 hr c (List.replicate g.length []) 0 (by intro r hr;rw[(List.mem_replicate.1 hr).2];simp) row d;have h2:c.length*2000000<=2000000*2000000:=Qw _ ho;omega
theorem pz {c:List (List Nat)}{f:Int->Int}:∀ {ns:List Nat} {idom idom':List Int} {ch ch':Bool},ny c f ns idom ch idom' ch'->idom'.length=idom.length
 | [],_,_,_,_,h=>by rw[h.1]
 |n::ns,idom,idom',ch,ch',⟨pr,d,old,_,_,_,_,h⟩=>by
  rcases h with⟨_,h⟩|⟨_,h⟩
  ·exact pz h
  ·have:=pz h;simpa using this
theorem jF{c:List (List Nat)}{f:Int->Int}:∀ {k:Nat} {idom idom':List Int},ip c f ns k idom idom'->idom'.length=idom.length
 |0,_,_,h=>h.elim
 |k+1,idom,idom',⟨i1,ch,h1,h2⟩=>by
  have e:=pz h1;rcases h2 with⟨_,rfl⟩|⟨_,h2⟩
  ·exact e
  ·rw[jF h2,e]
theorem eL.len(h:eL g ns c)(hg:0<g.length):c.length=g.length:=by
 obtain⟨k,h⟩:=h;rw[jF h];simp;omega
theorem pe (w:World)(C bv:Nat)(g:List (List Nat))(hv:zw g)(d:g.length<=2000000)(hr:∀row∈g,row.length<=2000000)(ns:List Nat)(i:tV g (0::ns))(c:List Int)(hD:eL g ns c)
 (j:C<=w.heap.size) (h:oN w C bv (0::ns) (atF (0::ns) (0::ns).length) (un g (0::ns))):
 A 141 #[Q bv,I (g.length:Int)] w fun e w'=>∃b,e=.returned (Y b g.length g.length)/\w.heap.size<=b/\L w' b (c.map (Value.int .i64)).toArray 3/\O w w':=by
 obtain⟨h1,h2⟩:=i.nodes hv;obtain⟨k,hD⟩:=hD;simp only[Nq] at h1;exact qQ w C bv g.length (0::ns) _ _ j h hv.1 d ns rfl (fun x hx=>h2 x (by simp[hx])) Zo (lI _ _) (afJ hr Zt) k c hD
theorem tw (w:World)(sv:Value)(g:List (List Nat))(B:Nat)(hB:B<=w.heap.size)(h:aaB zj w B sv g)(hv:zw g)(hn:g.length<=2000000)(hr:∀row∈g,row.length<=2000000)(ns:List Nat)(hF:tV g (0::ns))(c:List Int)(hD:eL g ns c):
 A 118 #[.agg #[sv]] w (j6 w (c.set 0 (-1))):=by
 obtain⟨a,d,rfl,a4⟩:=h.form;have m:O w (w.alloc (G #[.slice a g.length d] 105)):=(Below.refl _ _).alloc (Je _) _;have HL:=Ja (hD.len hv.1);have HV:=Ja hv;have HR:=Ja hr;have HF:=Ja hF;have HD:=Ja hD;have cg:T (w.alloc (G #[.slice a g.length d] 105)) w.heap.size 0 (.slice a g.length d):=cell_of_one (zI rfl);have a6:=hv.1;clear hv hr hF hD;go_enter Tryz.func118,Tryz.ntmps118;go_wp2_with (go_at_call 93;go_must (refine(tK _ _ g B Zt (h.below (m.mono hB)) HV.out hn HR.out).mono ?_;rintro e w1 ⟨rfl,j⟩;obtain⟨l,u⟩:=bcell j))
 generalize y:w.alloc (G #[.slice a g.length d] 105)=W0 at cg j l u ⊢;have t:=Ja y;have lg:w.heap.size<W0.heap.size:=Jw W0 _ cg;have a9:=(l _ 0 lg).trans cg;have q:Below (w.heap.size+1) W0 w1:=j.mono Zo;clear y m l u cg j
 go_cut [3] (fun s wx=>∃b,s=Y b g.length g.length/\Hid (L wx b (c.map (Value.int .i64)).toArray 3/\w.heap.size<=b/\O w wx))
 case first=>
  go_region_held3 (fun w'=>T w' w.heap.size 0 (.slice a g.length d)/\Below (w.heap.size+1) W0 w')
   (first
     |(go_split_ands;refine⟨?_,?_⟩<;>assumption)
     |(go_split_ands;refine⟨?_,uG ?_⟩<;>assumption)
     |(go_split_ands;exact oY ‹_› ‹_› Zz Zz))
   (first
     |(go_at_call 140;refine(view_any _ _ g B (o7 hB t (by repeat' (first|assumption|(with_reducible refine Below.drew ?_)))) (nP h hB t (by repeat' (first|assumption|(with_reducible refine Below.drew ?_)))) HV.out hn HR.out (0::ns) HF.out).mono ?_;rintro e w2 ⟨bv,rfl,a7,hV,o⟩)
     |(go_at_call 141;refine(pe _ _ bv g HV.out hn HR.out ns HF.out c HD.out (Je _) hV).mono ?_;rintro e w3 ⟨b,rfl,a8,a0,a2⟩))
  all_goals
   go_wp2_with fail;go_meet
   have a1:Below (w.heap.size+1) W0 w3:=by
    repeat' (first|assumption|(with_reducible refine Below.drew ?_)|(refine Below.trans ?_ (Below.mono a2 ?_))|(refine Below.trans ?_ (Below.mono o ?_))|omega)
    all_goals (have:=o.size;have:=q.size;simp at *;omega)
   have a5:=o.size;have a3:=q.size;exact⟨b,rfl,a0,by simp at *;omega,ww rfl t a1⟩
 case rest=>
  obtain⟨b,rfl,k⟩:=hcut;have hl:=HL.out
  have cb:∃x,T wc b 0 (I x):=by
   obtain⟨x,hx⟩:∃x,c[0]? =some x:=⟨_,Jd Zo⟩
   exact⟨x,zA k.out.1 (by simp[hx])⟩
  obtain⟨x,cb⟩:=cb;have fb:N wc b 0:=zE k.out.1;go_wp2_with fail;go_ret;refine⟨_,rfl,?_,k.out.2.2.setCell (by simpa using k.out.2.1) _⟩;have hs:=zD (i:=0) k.out.1 (I (-1));refine⟨by simp,.inr ⟨b,g.length,_,by simp[hl],k.out.2.1,hs,by simp[hl],by unfold maxLen;omega,by simp[hl],?_⟩⟩;simp only[Ox,Nd,hl,Nk,Jc,List.toList_toArray];rw[Oy (by simp[hl])];rfl
end Go.Proofs.YtoahcpkibpomcaaGreat
set_option maxRecDepth 8000
namespace Go.Proofs.YtoahcpkibpomcaaGreat
open Go.RowKit Go.Shelf
variable {c idom xs:List Int}{t:Slv}{W W' w w' w1:World}{Bi Bn Bv C bi bp i k x:Nat}{ds:List Deferred}{P:Program}{g:List (List Nat)}{ns:List Nat}{l:List (IEdge×Value)}{X X':Nat->Prop}{o:IOp}{u:Int}
structure GraphIn (w:World) (sv:Value) (g:List (List Nat)):Prop where
 rows:aaB zj w w.heap.size sv g
 valid:zw g
 len:g.length<=2000000
 row:∀row∈g,row.length<=2000000
theorem GraphIn.below{sv:Value}(h:GraphIn w sv g)(hb:O w w'):GraphIn w' sv g:=
 ⟨(h.rows.below hb).mono hb.size,h.valid,h.len,h.row⟩
theorem iJ{sv:Value}(h:GraphIn w sv g):A 40 #[.agg #[sv]] w (fJ w (vD g)):=by
 obtain⟨ns,c⟩:=adR h.valid;rw[c.eq];exact tp w sv g w.heap.size (Je _) h.rows h.valid h.len h.row (0::ns) c.is
theorem qP{sv:Value}(h:GraphIn w sv g):A 118 #[.agg #[sv]] w (j6 w (wQ g)):=by
 obtain⟨ns,c⟩:=adR h.valid;obtain⟨D,d⟩:=c.dom;rw[<-idom_eq h.valid c d];exact tw w sv g w.heap.size (Je _) h.rows h.valid h.len h.row ns c.is D d.of
theorem ans_from{sv:Value}(h:GraphIn w sv g)(fr:Nat)(c:fr<g.length)(out:Int):A 49 #[.agg #[sv],I fr,I out] w (cE w (ie g fr out)):=
 from_any w sv g w.heap.size (Je _) h.rows h.valid h.len h.row fr c out _ (du h.valid fr c out)
open Go.RowKit
theorem vd{ops:Array Oper}{Q:Act->Prop}:∀ {rest:List Oper} {a:Act},wpQuiet P ops (fun w'=>w'=w) Q rest a->wpStill P ops w Q rest a
 | [],a,h=>h
 |o::rest,a,h=>by
  unfold wpQuiet at h;unfold wpStill
  split at h
  ·rename_i hw
   rw[if_pos hw];obtain⟨v,h1,h2⟩:=h;have h3:=h1 w rfl;have c:=vd h2;unfold Oper.quietAt at h3;unfold Oper.still;generalize (execOp a.eval o).run P w=r at *
   cases r with
   |ok n w'=>
    cases n<;>simp only[Oper.quietUpon] at h3<;>simp only[Oper.stillUpon]
    case value u=>obtain⟨e1,rfl⟩:=h3;exact⟨e1,c⟩
    case skip=>obtain⟨e1,rfl⟩:=h3;exact⟨e1,c⟩
    case enter f args=>exact⟨h3.1,v,h3.2,c⟩
   |halt x w'=>simp only[Oper.quietUpon] at h3
  ·rename_i hw
   rw[if_neg hw];exact vd h
theorem zt{id:Nat}{Q:Exit->Act->World->Prop}{a:Act}{l:List Oper}(n:Nat)(hm:P.follows .mixedOrders=true)(hB:Region.lexTailB .any l.toArray n=true)
 (h:wpQuiet P l.toArray (fun w'=>w'=w.drew) (fun a'=>wpList P l.toArray Q (l.drop n) a' w.drew) (l.take n) a):(Code.region id l.toArray true).wp P Q a w:=
 wp_region_still_tail n hm hB (vd h)
theorem qk{m1 m2 n:Nat}{pv:List Value}{a2 q:Value}{d d':wO}(h:ChkAt w C m1 m2 pv a2 q n d)(hn:n<9000000000000000000)(v i k:Int)(hv:I64 v)(hi:I64 i)(hk:I64 k)(g:rB d v i k=some d'):
 A 137 #[Q C,I v,I i,I k] w fun e w'=>e=.returned (.bool true)/\ChkAt w' C m1 m2 pv a2 q (n+1) d'/\Kept m1 m2 w w':=by
 obtain⟨hb,hl,o,a0,m,hd⟩:=h
 obtain⟨p0,p1,p2,p3,p4,p5,rfl⟩:∃a b c d e f,pv=[a,b,c,d,e,f]:=by
  match pv,hl with
  | [a,b,c,d,e,f],_=>exact⟨a,b,c,d,e,f,rfl⟩
 have a7:=o.lookOk hv;have b5:T w C 7 (.map (some m1)):=zA hb rfl;have b4:T w C 8 (.map (some m2)):=zA hb rfl;have j:¬((d.1 v).isSome∨v<0∨65535<v):=fun hc=>by rw[rB,if_pos hc] at g;cases g
 have a9:d'=(lS d.1 v i,lS d.2 v k):=by rw[rB,if_neg j] at g;cases g;rfl
 have h0:(d.1 v).isSome=false:=by cases l:(d.1 v).isSome with|false=>rfl|true=>exact absurd (.inl l) j
 have t:d.1 v=none:=by cases l:d.1 v with|none=>rfl|some y=>rw[l] at h0;cases h0
 have a4:d.2 v=none:=by cases l:d.2 v with|none=>rfl|some y=>have:=hd v;rw[l,t] at this;cases this
 have h1:decide (v<0)=false:=decide_eq_false Zo;have h2:decide (65535<v)=false:=decide_eq_false Zo;rw[h0] at a7;obtain⟨s1,w1,w2,e1,g1,e2,k1,g2⟩:=(wA.same (w':=w.drew) o rfl).entry hn hv hi t;obtain⟨es,ck,u⟩:=a0.blk;have a3:wA w2 m2 n d.2:=(wA.same (w':=w.drew) a0 rfl).same (g2.block m2 (lt_of_block u) (fun e=>m (by cases e;rfl)));obtain⟨s2,w3,w4,e3,g3,e4,k2,g4⟩:=a3.entry hn hv hk a4;subst a9;clear g j;simp only[goInt] at e1 e2 e3 e4;have H:=Ja (Jb g2 g4);go_enter Tryz.func137,Tryz.ntmps137;go_wp2
 go_region
 go_wp2;go_ret;obtain⟨g2,g4⟩:=H.out;obtain⟨b3,b7,a6⟩:=o.blk;have b1:C≠m1:=fun e=>by rw[e,a6] at hb;cases hb
 have b0:C≠m2:=fun e=>by rw[e,u] at hb;cases hb
 have a5:w.heap.size<=w2.heap.size:=g2.size;have a1:∀b,b≠m1->b≠m2->b<w.heap.size->w4.heap[b]? =w.heap[b]?:=fun b x1 x2 hbs=>(g4.block b Zo (fun e=>x2 (by cases e;rfl))).trans (g2.block b hbs (fun e=>x1 (by cases e;rfl)))
 obtain⟨b2,b6,a8⟩:=k1.blk;refine⟨rfl,⟨(a1 C b1 b0 (lt_of_block hb)).trans hb,rfl,k1.same (g4.block m1 (lt_of_block a8) (fun e=>m (by cases e;rfl))),k2,m,fun x=>?_⟩,⟨g4.os.trans g2.os,g4.tape.trans g2.tape,g4.output.trans g2.output,Jn a5 g4.size,fun b hbs x1 x2=>a1 b x1 x2 hbs⟩⟩
 show(lS d.1 v i x).isSome=(lS d.2 v k x).isSome
 unfold lS
 split
 ·rfl
 ·exact hd x
structure Stp (X:Nat->Prop) (w:World) (X':Nat->Prop) (w':World):Prop where
 os:w'.os=w.os
 tape:w'.tape=w.tape
 output:w'.output=w.output
 size:w.heap.size<=w'.heap.size
 new:∀k,X' k->X k∨w.heap.size<=k
 kept:∀k,k<w.heap.size->¬X k->w'.heap[k]? =w.heap[k]?
theorem Stp.refl (X:Nat->Prop)(w:World):Stp X w X w:=⟨rfl,rfl,rfl,Je _,fun _ h=> .inl h,fun _ _ _=>rfl⟩
theorem Stp.trans{X1 X2:Nat->Prop}{w2:World}(h:Stp X w X1 w1)(k:Stp X1 w1 X2 w2):Stp X w X2 w2:=
 ⟨k.os.trans h.os,k.tape.trans h.tape,k.output.trans h.output,Jn h.size k.size,
  fun i hi=>(k.new i hi).elim (h.new i) (fun e=> .inr (Jn h.size e)),
  fun i hi hx=>(k.kept i (Jy hi h.size) (fun e=>(h.new i e).elim hx Zo)).trans (h.kept i hi hx)⟩
theorem Stp.of_below(h:O w w'):Stp X w X w':=
 ⟨h.os,h.tape,h.output,h.size,fun _ h=> .inl h,fun k hk _=>h.block k hk⟩
theorem Stp.below{B:Nat}(h:Stp X w X' w')(c:∀k,X k->B<=k)(hB:B<=w.heap.size):Below B w w':=
 ⟨h.os,h.tape,h.output,h.size,fun k hk=>h.kept k Zo (fun e=>by have:=c k e;omega)⟩
theorem Stp.blk(h:Stp X w X' w'){o:Obj}(hk:w.heap[k]? =some o)(c:¬X k):w'.heap[k]? =some o:=(h.kept k (lt_of_block hk) c).trans hk
theorem Stp.cell {X X':Nat->Prop}{w w':World}(h:Stp X w X' w'){k i:Nat}{v:Value}(hk:T w k i v)(c:¬X k):T w' k i v:=
 (Oo (h.kept k (jU hk) c)).trans hk
theorem Stp.not(h:Stp X w X' w')(hk:k<w.heap.size)(c:¬X k):¬X' k:=fun e=>(h.new k e).elim c Zo
def yE {α:Type}(sz:Nat)(R:World->(Nat->Prop)->Nat->Nat->α->Prop)(w:World)(X:Nat->Prop)(v:Value)(xs:List α):Prop:=
 ∃(a:Option Addr) (cap:Nat),v=.slice a xs.length cap/\xs.length<=cap/\cap<=9223372036854775807/\∀(k:Nat) (x:α),xs[k]? =some x->∃b o,a=some ⟨b,o,none⟩/\b<w.heap.size/\¬X b/\R w X b (o+k*sz) x
def rP {α:Type}(R:World->(Nat->Prop)->Nat->Nat->α->Prop):Prop:=∀X w X' w' b q x,b<w.heap.size->¬X b->Stp X w X' w'->R w X b q x->R w' X' b q x
theorem yE.step {α:Type}{sz:Nat}{R:World->(Nat->Prop)->Nat->Nat->α->Prop}(i:rP R){X X':Nat->Prop}{w w':World}{v:Value}{xs:List α}(h:yE sz R w X v xs)(hs:Stp X w X' w'):yE sz R w' X' v xs:=by
 obtain⟨a,g,rfl,h1,h2,h3⟩:=h;refine⟨a,g,rfl,h1,h2,fun k x hk=>?_⟩;obtain⟨b,o,l,c,d,j⟩:=h3 k x hk;exact⟨b,o,l,Jy c hs.size,hs.not c d,i _ _ _ _ _ _ _ c d hs j⟩
theorem yE.nil{α:Type}{sz:Nat}{R:World->(Nat->Prop)->Nat->Nat->α->Prop}:yE sz R w X (F) []:=
 ⟨none,0,rfl,Je _,by omega,fun k x hk=>by simp at hk⟩
theorem yE.form{α:Type}{sz:Nat}{R:World->(Nat->Prop)->Nat->Nat->α->Prop}{v:Value}{xs:List α}(h:yE sz R w X v xs):∃a cap,v=.slice a xs.length cap/\xs.length<=cap/\cap<=9223372036854775807:=
 let⟨a,cap,e,h1,h2,_⟩:=h;⟨a,cap,e,h1,h2⟩
theorem yE.to{α:Type}{sz:Nat}{R:World->(Nat->Prop)->Nat->Nat->α->Prop}{S:World->Nat->Nat->Nat->α->Prop}{v:Value}{xs:List α}(h:yE sz R w X v xs)(c:∀b q x,R w X b q x->S w w.heap.size b q x):yN sz S w w.heap.size v xs:=by
 obtain⟨a,d,rfl,h1,h2,h3⟩:=h;refine⟨a,d,rfl,h1,h2,fun k x hk=>?_⟩;obtain⟨b,o,j,i,_,g⟩:=h3 k x hk;exact⟨b,o,j,i,c _ _ _ g⟩
def IntG (w:World)(X:Nat->Prop)(b q:Nat)(x:Int):Prop:=T w b q (I x)/\I64 x
theorem zn:rP IntG:=fun X w X' w' b q x _ hx hs h=>⟨hs.cell h.1 hx,h.2⟩
abbrev wm:=yE 1 IntG
def EdgeG (w:World)(X:Nat->Prop)(b q:Nat)(x:IEdge):Prop:=T w b q (I x.block)/\I64 x.block/\∃av,T w b (q+1) av/\wm w X av x.args
theorem yq:rP EdgeG:=fun X w X' w' b q x _ hx hs h=>by
 obtain⟨h1,h2,av,h3,c⟩:=h;exact⟨hs.cell h1 hx,h2,av,hs.cell h3 hx,c.step zn hs⟩
abbrev vT:=yE 2 EdgeG
theorem wm.to{v:Value}(h:wm w X v xs):zY w w.heap.size v xs:=yE.to h fun _ _ _ h=>h
theorem vT.to{v:Value}{xs:List IEdge}(h:vT w X v xs):wH w w.heap.size v xs:=yE.to h fun _ _ _ h=>by
 obtain⟨h1,h2,av,h3,c⟩:=h;exact⟨h1,h2,av,h3,wm.to c⟩
theorem rO{S:Nat}{v:Value}{n:Nat}(h:w.ownsRow S 3 1 v n (xs.map zN))(j:xs.length=n)(i:∀x∈xs,I64 x)(l:∀k,v.ownBlock=some k->¬X k):wm w X v xs:=by
 subst j;obtain⟨a,c,rfl⟩:=zG h;have hl:=zm h;refine⟨a,c,rfl,hl.1,by omega,fun k x hk=>?_⟩;have m:=(Jh.1 hk).1;obtain⟨g,o,e,hg,d⟩:=h.form Zo;cases e;refine⟨g,0,rfl,d,l g rfl,?_,i x (Ji hk)⟩;rw[Nk,Ng];exact(h.cellAt k Zo).trans (by rw[Jr,hk];rfl)
theorem ki{b:Nat}{e:TypeId}(h:L w b (xs.map fun x=>I x).toArray e)(c:¬X b)(h64:∀x∈xs,I64 x)(hl:xs.length<=1000000):wm w X (Y b xs.length xs.length) xs:=by
 refine⟨_,xs.length,rfl,Je _,by omega,fun k x hk=>⟨b,0,rfl,lt_of_block h,c,?_,h64 x (Ji hk)⟩⟩;rw[Ng,Nk];exact zA h (by simp[hk])
theorem ld{S:Nat}{v:Value}(h:w.ownsRow S 79 2 v l.length (l.flatMap za))(h64:∀q∈l,I64 q.1.block/\wm w X q.2 q.1.args)(t:∀k,v.ownBlock=some k->¬X k):vT w X v (l.map (·.1)):=by
 obtain⟨a,c,rfl⟩:=zG h;have hl:=zm h;refine⟨a,c,by rw[Nr],by rw[Nr];exact hl.1,by omega,fun k o hk=>?_⟩;rw[Jr,Oz] at hk;obtain⟨q,d,rfl⟩:=hk;have u:=(Jh.1 d).1;obtain⟨g,x,e,hg,hb⟩:=h.form Zo;cases e
 have m:∀j v,(za q)[j]? =some v->T w g (0+k*2+j) v:=fun j v hj=>by
  have i:j<2:=(Jh.1 hj).1;rw[Ng];exact(h.cellAt (k*2+j) Zo).trans ((uB za 2 (fun _=>rfl) l k q d j i).trans hj)
 obtain⟨h1,h2⟩:=h64 q (Ji d);exact⟨g,0,rfl,hb,t g rfl,m 0 _ rfl,h1,q.2,m 1 _ rfl,h2⟩
theorem qt{b:Nat}{e:TypeId}(h:L w b (l.flatMap za).toArray e)(g:¬X b)(h64:∀q∈l,I64 q.1.block/\wm w X q.2 q.1.args)(hl:l.length<=1000000):
 vT w X (Y b l.length l.length) (l.map (·.1)):=by
 refine⟨_,l.length,by rw[Nr],by rw[Nr];exact Je _,by omega,fun k o hk=>?_⟩;rw[Jr,Oz] at hk;obtain⟨q,c,rfl⟩:=hk;have d:=fun j v (hj:(za q)[j]? =some v)=>oW (f:=za) (n:=2) (fun _=>rfl) h c hj
 obtain⟨h1,h2⟩:=h64 q (Ji c);exact⟨b,0,rfl,lt_of_block h,g,d 0 _ rfl,h1,q.2,d 1 _ rfl,h2⟩
structure MKC where
 E:ME
 sv:Value
 fpv:Value
 apv:Value
 dv:Value
 bv:Value
 pm:Nat
 pp:Nat
 B:Nat
 Z:Nat->Prop
def MKC.av (K:MKC)(X:Nat->Prop):Nat->Prop:=fun k=>X k∨K.Z k
theorem Stp.av(h:Stp X w X' w')(K:MKC):Stp (K.av X) w (K.av X') w':=
 ⟨h.os,h.tape,h.output,h.size,fun k hk=>hk.elim (fun e=>(h.new k e).elim (fun e=> .inl (.inl e)) .inr) (fun e=> .inl (.inr e)),fun k hk hx=>h.kept k hk (fun e=>hx (.inl e))⟩
structure BM where
 b:IBlk
 pv:Value
 ov:Value
 tv:Value
 ol:List (IOp×Value)
def xG (q:BM):List Value:=[q.pv,q.ov,I q.b.term.kind,I q.b.term.a,q.tv]
structure BMOk (w:World) (K:MKC) (X:Nat->Prop) (q:BM):Prop where
 k64:I64 q.b.term.kind/\I64 q.b.term.a
 par:wm w (K.av X) q.pv q.b.params
 ops:q.b.ops=q.ol.map (·.1)
 own:w.ownsRow K.B 76 6 q.ov q.ol.length (q.ol.flatMap zU)
 arg:∀o∈q.ol,qN o.1/\wm w (K.av X) o.2 o.1.args
 tos:vT w (K.av X) q.tv q.b.term.to
 inX:∀k,q.ov.ownBlock=some k->X k
theorem BMOk.step {w w':World}{K:MKC}{X X':Nat->Prop}{q:BM}(h:BMOk w K X q)(hs:Stp X w X' w')(hk:∀k,q.ov.ownBlock=some k->w'.heap[k]? =w.heap[k]?)(c:∀k,X k->X' k):BMOk w' K X' q:=
 ⟨h.k64,h.par.step zn (hs.av K),h.ops,yD h.own hk,fun o ho=>⟨(h.arg o ho).1,(h.arg o ho).2.step zn (hs.av K)⟩,h.tos.step yq (hs.av K),fun k hk=>c k (h.inX k hk)⟩
def uC (K:MKC)(M:MS)(fv vv:Value):Array Value:=
 #[K.sv,I (M.pos:Int),Q K.pp,I (K.E.me:Int),fv,I (M.cur:Int),I (M.next:Int),vv,I M.left]
structure MkEnv (w:World) (K:MKC) (X:Nat->Prop):Prop where
 s:zY w K.B K.sv K.E.s
 fpv:∃a c,K.fpv=.slice a K.E.nf c
 prog:w.heap[K.pp]? =some (.cells #[K.fpv,K.apv,.int .i64 0,.int .i64 K.E.handler,K.dv,K.bv] 29 (0,0))
 args:wm w (K.av X) K.apv K.E.args
 data:∃b,K.dv=.slice (some ⟨b,0,none⟩) 3 3/\¬K.av X b/\w.heap[b]? =some (.cells #[.int .i64 (-1),.int .u16 16384,.int .u16 16,.int .i64 (-1),.int .u16 16640,.int .u16 7,.int .i64 0,.int .u16 128,.int .u16 32] 89 (0,0))
 ppX:¬K.av X K.pp
 h64:I64 K.E.handler
 len:K.E.args.length=K.E.nf
 nf:K.E.nf<=4/\K.E.me<K.E.nf
 alt:∀x∈K.E.args,0<=x/\x<4
 zx:∀k,X k->¬K.Z k
 zl:∀k,K.Z k->k<w.heap.size
theorem MkEnv.step {w w':World}{K:MKC}{X X':Nat->Prop}(h:MkEnv w K X)(hs:Stp X w X' w')(hb:Below K.B w w'):MkEnv w' K X':=by
 obtain⟨b,e1,e2,e3⟩:=h.data;have c:=hs.av K;exact⟨h.s.below zO hb,h.fpv,c.blk h.prog h.ppX,h.args.step zn c,⟨b,e1,c.not (lt_of_block e3) e2,c.blk e3 e2⟩,c.not (lt_of_block h.prog) h.ppX,h.h64,h.len,h.nf,h.alt,fun k e=>(hs.new k e).elim (h.zx k) (fun e2 e3=>by have:=h.zl k e3;omega),fun k e=>Jy (h.zl k e) hs.size⟩
structure MkIn (w:World) (K:MKC) (X:Nat->Prop) (M:MS) (fv vv:Value) (l:List BM):Prop where
 blk:w.heap[K.pm]? =some (.cells (uC K M fv vv) 128 (0,0))
 own:w.ownsRow K.B 84 5 fv l.length (l.flatMap xG)
 fl:M.f=l.map (·.b)
 bok:∀q∈l,BMOk w K X q
 apart:∀(i j:Nat) (qi qj:BM) (k:Nat),l[i]? =some qi->l[j]? =some qj->qi.ov.ownBlock=some k->qj.ov.ownBlock=some k->i=j
 vown:w.ownsRow K.B 3 1 vv M.vals.length (M.vals.map zN)
 v64:∀x∈M.vals,I64 x
 xm:X K.pm
 xf:∀k,fv.ownBlock=some k->X k
 xv:∀k,vv.ownBlock=some k->X k
 xB:∀k,X k->K.B<=k
 xl:∀k,X k->k<w.heap.size
 env:MkEnv w K X
 bnd:M.sz<=1000000
 lft:6<=M.left+M.pos/\M.left<=6
def wW (w:World)(K:MKC)(X:Nat->Prop)(M:MS):Prop:=∃fv vv l,MkIn w K X M fv vv l
section
variable {w:World} {K:MKC} {X:Nat->Prop} {M:MS} {fv vv:Value} {l:List BM} (h:MkIn w K X M fv vv l)
include h
theorem MkIn.c0:T w K.pm 0 K.sv:=zA h.blk rfl
theorem MkIn.c1:T w K.pm 1 (I (M.pos:Int)):=zA h.blk rfl
theorem MkIn.c2:T w K.pm 2 (Q K.pp):=zA h.blk rfl
theorem MkIn.c3:T w K.pm 3 (I (K.E.me:Int)):=zA h.blk rfl
theorem MkIn.c4:T w K.pm 4 fv:=zA h.blk rfl
theorem MkIn.c5:T w K.pm 5 (I (M.cur:Int)):=zA h.blk rfl
theorem MkIn.c6:T w K.pm 6 (I (M.next:Int)):=zA h.blk rfl
theorem MkIn.c7:T w K.pm 7 vv:=zA h.blk rfl
theorem MkIn.c8:T w K.pm 8 (I M.left):=zA h.blk rfl
theorem MkIn.free (i:Nat):N w K.pm i:=zE h.blk
theorem MkIn.size:K.B<=w.heap.size:=Jn (h.xB _ h.xm) (Qd (h.xl _ h.xm))
theorem MkIn.keep(hb:O w w'):MkIn w' K X M fv vv l:=
 have hs:Stp X w X w':=Stp.of_below hb;have hk:∀ {v:Value} {e:TypeId} {sz n:Nat} {xs:List Value},w.ownsRow K.B e sz v n xs->∀k,v.ownBlock=some k->w'.heap[k]? =w.heap[k]?:=fun ho k hk=>hb.block k (ho.lt k hk).2
 ⟨zH hb h.blk (lt_of_block h.blk),yD h.own (hk h.own),h.fl,fun q hq=>(h.bok q hq).step hs (hk (h.bok q hq).own) (fun _ e=>e),h.apart,yD h.vown (hk h.vown),h.v64,h.xm,h.xf,h.xv,h.xB,fun k e=>Jy (h.xl k e) hb.size,
  h.env.step hs (hb.mono h.size),h.bnd,h.lft⟩
theorem MkIn.setC (i:Nat)(u:Value)(M':MS)(vv':Value)(j:(uC K M fv vv).setIfInBounds i u=uC K M' fv vv')(hf:M'.f=M.f)(hv:w.ownsRow K.B 3 1 vv' M'.vals.length (M'.vals.map zN))(h64:∀x∈M'.vals,I64 x)(g:∀k,vv'.ownBlock=some k->X k)
 (d:M'.sz<=1000000) (hl:6<=M'.left+M'.pos/\M'.left<=6):MkIn (w.setCell ⟨K.pm,i,none⟩ u) K X M' fv vv' l/\Stp X w X (w.setCell ⟨K.pm,i,none⟩ u):=by
 have hs:Stp X w X (w.setCell ⟨K.pm,i,none⟩ u):=⟨rfl,rfl,rfl,by simp,fun _ h=> .inl h,fun k hk hx=>Below.heap_setCell _ _ _ _ (fun e=>hx (by rw[e];exact h.xm))⟩
 have c:∀ {v:Value} {e:TypeId} {sz n:Nat} {xs:List Value},w.ownsRow K.B e sz v n xs->e≠128->∀k,v.ownBlock=some k->(w.setCell ⟨K.pm,i,none⟩ u).heap[k]? =w.heap[k]?:=fun ho he k hk=>
  Below.heap_setCell _ _ _ _ (fun e=>zC ho h.blk (.inr he) (by rw[hk];exact congrArg some e))
 refine⟨⟨?_,yD h.own (c h.own Zd),hf.trans h.fl,fun q hq=>(h.bok q hq).step hs (c (h.bok q hq).own Zd) (fun _ e=>e),h.apart,yD hv (c hv Zd),h64,h.xm,h.xf,g,h.xB,fun k e=>by simpa using h.xl k e,
  h.env.step hs ((Below.refl _ _).setCell (h.xB _ h.xm) _),d,hl⟩,hs⟩
 rw[zD h.blk,j]
end
inductive Evn where
 |op (o:IOp)
 |arg (v x:Int)
def Evn.out:Evn->Option Int
 |.op o=>if 0<=o.res then some o.res else none
 |.arg v _=>some v
def Evn.ins:Evn->List Int
 |.op o=>if 0<=o.res then(if(zi o.code).a=true then [o.a] else [])++(if(zi o.code).b=true then [o.b] else []) else []
 |.arg _ x=> [x]
def evS (p:IProg)(k:Nat)(q:Slv×Bool):Evn->Slv×Bool
 |.op o=>opS p k q o
 |.arg v x=>ah1 k q (v,x)
def evB (bl:List IBlk)(b:IBlk):List Evn:=b.ops.map .op++b.term.to.flatMap fun e=>((xz bl e.block).params.zip e.args).map fun x=> .arg x.1 x.2
theorem evB_fold (p:IProg)(bl:List IBlk)(k:Nat)(b:IBlk)(q:Slv×Bool):afV p bl k q b=(evB bl b).foldl (evS p k) q:=by
 unfold evB afV;rw[List.foldl_append,List.foldl_map,List.foldl_flatMap]
 congr 1
 funext q e
 unfold ahr;rw[List.foldl_map];rfl
def evL (bl:List IBlk)(order:List Nat):List Evn:=order.flatMap fun i:Nat=>evB bl (xz bl (i:Int))
theorem agl{p:IProg}{n:Nat}{bl:List IBlk}{c:List Nat}(h:∀i∈c,mb n bl (xz bl i))(s:Slv):o6 p bl c k s=(evL bl c).foldl (evS p k) (s,false):=by
 unfold o6 evL;rw[List.foldl_flatMap];generalize (s,false)=q
 induction c generalizing q with
 |nil=>rfl
 |cons i l ih=>
  rw[Qk,Qk,agv (h i (.head _)),evB_fold];exact ih (fun j hj=>h j (.tail _ hj)) _
def ft (p:IProg)(t:Slv)(o:IOp):Option Rg:=
 if o.code=1 then some (afw o.n)
 else if o.code=2 then some (afw (((p.data.getD o.a.toNat ⟨0,0,0⟩).addr+o.n)%65536))
 else if(zi o.code).b=true then some (ac1 o.code (t.get o.a) (t.get o.b))
 else if(zi o.code).a=true then some (ac1 o.code (t.get o.a) y7)
 else none
def opQ (p:IProg)(t:Slv)(o:IOp):Slv:=
 if 0<=o.res then(match ft p t o with|some a=>⟨t.r.set o.res.toNat a,t.kn⟩|none=>t) else t
def agM (t:Slv)(v x:Int):Slv:=t.put v (if t.knw v=true then sq (t.get x) (t.get v) else t.get x)
def evQ (p:IProg)(t:Slv):Evn->Slv
 |.op o=>opQ p t o
 |.arg v x=>agM t v x
def EvOk (n:Nat):Evn->Prop
 |.op o=>agJ n o/\o.code<=27/\(0<=o.res->∀x∈Evn.ins (.op o),0<=x/\x.toNat<n)
 |.arg v x=>(0<=v/\v.toNat<n)/\0<=x/\x.toNat<n
def ahE (Q:Int->Prop):(Int->Prop)->List Evn->Prop
 |_,[]=>True
 |kn,ev::es=>(∀x∈ev.ins,kn x/\∀e∈ev::es,e.out≠some x)/\(match ev with|.op o=>0<=o.res->¬kn o.res/\¬Q o.res/\∀e∈es,e.out≠some o.res|.arg v _=>Q v)/\ahE Q (fun x=>kn x∨ev.out=some x) es
theorem ahE.imp {Q:Int->Prop}:∀ {es:List Evn} {k k':Int->Prop},(∀x,k x↔k' x)->ahE Q k es->ahE Q k' es
 | [],_,_,_,_=>trivial
 |ev::es,k,k',h,⟨h1,h2,h3⟩=>by
  refine⟨fun x hx=>⟨(h x).1 (h1 x hx).1,(h1 x hx).2⟩,?_,ahE.imp (fun x=>by rw[h x]) h3⟩
  cases ev with
  |op o=>exact fun h0=>⟨fun hk=>(h2 h0).1 ((h _).2 hk),(h2 h0).2⟩
  |arg v x=>exact h2
def FixEv (p:IProg)(s:Slv):Evn->Prop
 |.op o=>FixOp p o s
 |.arg v x=>aht (v,x) s
theorem p6 {n:Nat}{s:Slv}(hs:OkS n s){v:Int}(hv:v.toNat<n)(a:Rg):(s.put v a).get v=a/\(s.put v a).knw v=true:=⟨(aeO hs hv a).2,(aeO hs hv a).1⟩
theorem aeB{s:Slv}{v:Int}(h:v.toNat≠u.toNat)(a:Rg):(s.put v a).get u=s.get u/\(s.put v a).knw u=s.knw u:=by
 unfold Slv.get Slv.knw Slv.put;simp only[Jj];rw[Ns h,Ns h];exact⟨rfl,rfl⟩
theorem ae0{n:Nat}{s:Slv}(hs:OkS n s)(hk:k<=4){v:Int}(hv:v.toNat<n)(a:Rg):
 ((setF k s v a).1.get v=if s.knw v=true then sq a (s.get v) else a)/\(setF k s v a).1.knw v=true/\∀u:Int,v.toNat≠u.toNat->(setF k s v a).1.get u=s.get u/\(setF k s v a).1.knw u=s.knw u:=by
 have c:∀b,ahF k b=b:=fun b=>if_neg Zo
 unfold setF
 by_cases h1:s.knw v=true
 ·rw[if_pos h1]
  by_cases h2:lf (sq a (s.get v)) (s.get v)=true
  ·rw[if_pos h2,if_pos h1];exact⟨(bd h2).symm,h1,fun u _=>⟨rfl,rfl⟩⟩
  ·rw[if_neg h2,if_pos h1,c];exact⟨(p6 hs hv _).1,(p6 hs hv _).2,fun u hu=>aeB hu _⟩
 ·rw[if_neg h1,if_neg h1,c];exact⟨(p6 hs hv _).1,(p6 hs hv _).2,fun u hu=>aeB hu _⟩
theorem app_un {c:Int}(j:3<=c)(hb:(zi c).b=false)(a b b':Rg):afy c a b=afy c a b':=by
 by_cases h:c=3∨c=4
 ·unfold afy;rw[rule_un h a b b']
  cases ky c a b' with
  |none=>rfl
  |some r=>
   simp only;have e:(c<=17/\yf a=true/\((c=3∨c=4)∨yf b=true))↔(c<=17/\yf a=true/\((c=3∨c=4)∨yf b'=true)):=⟨fun k=>⟨k.1,k.2.1,.inl h⟩,fun k=>⟨k.1,k.2.1,.inl h⟩⟩
   by_cases h2:c<=17/\yf a=true/\((c=3∨c=4)∨yf b=true)
   ·rw[if_pos h2,if_pos (e.1 h2),if_neg Zo,if_neg Zo,ahV h a.lo b.lo b'.lo]
   ·rw[if_neg h2,if_neg (fun k=>h2 (e.2 k))]
 ·have i:¬(5<=c/\c<=17):=fun k=>by
   unfold zi at hb;rw[if_neg Zo,if_neg Zo,if_pos k] at hb;cases hb
  have hr:∀x,ky c a x=if c=19 then some ⟨0,255⟩ else if c=23 then some ⟨0,255⟩ else none:=fun x=>by
   unfold ky
   iterate 15 rw[if_neg Zo]
  unfold afy;rw[hr b,hr b']
  by_cases g:c=19
  ·rw[if_pos g];simp only;rw[if_neg Zo,if_neg Zo]
  ·rw[if_neg g]
   by_cases d:c=23
   ·rw[if_pos d];simp only;rw[if_neg Zo,if_neg Zo]
   ·rw[if_neg d]
theorem afm {c:Int}(i:3<=c/\c<=27)(d:(zi c).a=false)(a b:Rg):afy c a b=y7:=by
 have h:c=24∨c=26∨c=27:=by
  have g:c=3∨c=4∨c=18∨c=19∨(5<=c/\c<=17)∨c=20∨c=21∨c=22∨c=23∨c=24∨c=25∨c=26∨c=27:=Zo;rcases g with rfl|rfl|rfl|rfl|h|rfl|rfl|rfl|rfl|h|rfl|h|h
  ·cases d
  ·cases d
  ·cases d
  ·cases d
  ·unfold zi at d;rw[if_neg Zo,if_neg Zo,if_pos h] at d;cases d
  ·cases d
  ·cases d
  ·cases d
  ·cases d
  ·exact .inl h
  ·cases d
  ·exact .inr (.inl h)
  ·exact .inr (.inr h)
 rcases h with rfl|rfl|rfl<;>rfl
structure Sim (n:Nat) (Q:Int->Prop) (s t:Slv):Prop where
 oks:OkS n s
 okt:OkS n t
 eq:∀v:Int,0<=v->s.knw v=true->s.get v=t.get v
 full:∀v:Int,0<=v->v.toNat<n->s.knw v=false->t.get v=y7
 kn:∀v:Int,0<=v->Q v->t.knw v=s.knw v
theorem val_eq{p:IProg}{n:Nat}{Q:Int->Prop}{s:Slv}(h:Sim n Q s t)(h0:0<=o.res)(g:1<=o.code/\o.code<=27)(hk:∀x∈Evn.ins (.op o),0<=x/\s.knw x=true):(ft p t o).getD y7=i4 p s o:=by
 unfold ft i4
 by_cases h1:o.code=1
 ·rw[if_pos h1,if_pos h1];rfl
 rw[if_neg h1,if_neg h1]
 by_cases h2:o.code=2
 ·rw[if_pos h2,if_pos h2];rfl
 rw[if_neg h2,if_neg h2];have c:3<=o.code/\o.code<=27:=Zo;have hi:Evn.ins (.op o)=(if(zi o.code).a=true then [o.a] else [])++(if(zi o.code).b=true then [o.b] else []):=if_pos h0
 by_cases hb:(zi o.code).b=true
 ·have d:(zi o.code).a=true:=by
   have:=rJ o.code;rcases this with⟨_,e⟩|⟨_,e⟩|⟨_,e⟩|⟨_,e⟩|⟨_,e⟩|⟨_,e⟩|⟨_,e⟩|⟨_,e⟩
   all_goals first|(rw[e] at hb;cases hb;done)|(rw[e])
  have ka:=hk o.a (by rw[hi,if_pos d];exact Jz _ (.head _));have kb:=hk o.b (by rw[hi,if_pos hb];exact Qf _ (.head _));rw[if_pos hb]
  show ac1 o.code (t.get o.a) (t.get o.b)=_
  rw[aeM c (h.okt.get _) (h.okt.get _),h.eq _ ka.1 ka.2,h.eq _ kb.1 kb.2]
 ·rw[if_neg hb]
  by_cases d:(zi o.code).a=true
  ·have ka:=hk o.a (by rw[hi,if_pos d];exact Jz _ (.head _));rw[if_pos d]
   show ac1 o.code (t.get o.a) y7=_
   rw[aeM c (h.okt.get _) vu,h.eq _ ka.1 ka.2];exact app_un c.1 (by simpa using hb) _ _ _
  ·rw[if_neg d];exact(afm c (by simpa using d) _ _).symm
theorem vy{v:Int}(hv:0<=v)(c:0<=u)(h:v≠u):v.toNat≠u.toNat:=by omega
theorem OkS.setR{n:Nat}(h:OkS n t)(v:Nat){a:Rg}(d:a.ok):OkS n ⟨t.r.set v a,t.kn⟩:=
 ⟨by show(t.r.set v a).length=n;rw[Nd,h.rl],h.kl,fun x c=>by
   rcases Qe c with c|rfl
   ·exact h.ok x c
   ·exact d⟩
theorem ahz{n:Nat}(h:OkS n t){v:Int}(hv:v.toNat<n)(a:Rg):(⟨t.r.set v.toNat a,t.kn⟩:Slv).get v=a:=by
 unfold Slv.get;simp only[Jj];rw[Nn (by rw[h.rl];exact hv)];rfl
theorem getR_ne{v:Int}(h:v.toNat≠u.toNat)(a:Rg):(⟨t.r.set v.toNat a,t.kn⟩:Slv).get u=t.get u:=by
 unfold Slv.get;simp only[Jj];rw[Ns h]
structure Pass (p:IProg) (n:Nat) (Q:Int->Prop) (es:List Evn) (s s' t':Slv):Prop where
 sim:Sim n Q s' t'
 fix:∀e∈es,FixEv p s' e
 grow:∀v:Int,0<=v->s.knw v=true->s'.knw v=true/\(s.get v).sub (s'.get v)
 stay:∀v:Int,0<=v->(∀e∈es,e.out≠some v)->s'.get v=s.get v/\s'.knw v=s.knw v
theorem ag5 (a b:Rg):a.sub (sq a b):=⟨Nat.min_le_left _ _,Nat.le_max_left _ _⟩
theorem agH (a b:Rg):b.sub (sq a b):=⟨Nat.min_le_right _ _,Nat.le_max_right _ _⟩
theorem Rg.sub.refl (a:Rg):a.sub a:=⟨Je _,Je _⟩
theorem Rg.sub.trans {a b c:Rg}(h:a.sub b)(k:b.sub c):a.sub c:=⟨Jn k.1 h.1,Jn h.2 k.2⟩
theorem aeP {p:IProg}{n k:Nat}(a0:k<=4){Q:Int->Prop}:∀(es:List Evn) (s t:Slv) (c:Bool),(∀e∈es,EvOk n e)->ahE Q (fun x=>0<=x/\s.knw x=true) es->Sim n Q s t->
 Pass p n Q es s (es.foldl (evS p k) (s,c)).1 (es.foldl (evQ p) t)
 | [],s,t,c,_,_,hS=>⟨hS,(fun e he=>by cases he),fun v _ hv=>⟨hv,Rg.sub.refl _⟩,fun v _ _=>⟨rfl,rfl⟩⟩
 |.op o::es,s,t,c,hE,hG,hS=>by
  obtain⟨g1,g2,g3⟩:=hG;have ho:=hE _ (.head _)
  by_cases h0:0<=o.res
  ·obtain⟨h1,h2,h3⟩:=g2 h0;obtain⟨hv,c0,_⟩:=ho.1 h0
   have a9:s.knw o.res=false:=by
    cases e:s.knw o.res with
    |false=>rfl
    |true=>exact absurd ⟨h0,e⟩ h1
   have g:=val_eq (p:=p) hS h0 ⟨c0,ho.2.1⟩ fun x hx=>(g1 x hx).1
   obtain⟨e1,e2,e3⟩:=ae0 (k:=k) hS.oks a0 hv (i4 p s o);rw[a9,if_neg Zd] at e1;have a7:=agB (p:=p) hS.oks ho.1 h0
   have j:evS p k (s,c) (.op o)=((setF k s o.res (i4 p s o)).1,c||(setF k s o.res (i4 p s o)).2):=by
    show opS p k (s,c) o=_
    unfold opS;rw[if_pos h0];rfl
   obtain⟨s1,i⟩:∃s1,(setF k s o.res (i4 p s o)).1=s1:=⟨_,rfl⟩
   rw[i] at e1 e2 e3 j;have w:OkS n s1:=by rw[<-i];exact hS.oks.set _ a7
   have a5:∀v:Int,0<=v->(opQ p t o).get v=(if v=o.res then i4 p s o else t.get v)/\(opQ p t o).knw v=t.knw v:=fun v d=>by
    unfold opQ;rw[if_pos h0]
    cases m:ft p t o with
    |some a=>
     rw[m] at g;have g:a=i4 p s o:=g;refine⟨?_,rfl⟩
     by_cases ev:v=o.res
     ·rw[if_pos ev,ev];simp only;rw[ahz hS.okt hv,g]
     ·rw[if_neg ev];exact getR_ne (vy h0 d (Ne.symm ev)) _
    |none=>
     rw[m] at g;have g:y7=i4 p s o:=g;refine⟨?_,rfl⟩
     by_cases ev:v=o.res
     ·rw[if_pos ev,ev];simp only;rw[hS.full _ h0 hv a9,g]
     ·rw[if_neg ev]
   have a2:OkS n (opQ p t o):=by
    unfold opQ;rw[if_pos h0]
    cases m:ft p t o with
    |some a=>
     rw[m] at g;have g:a=i4 p s o:=g
     exact hS.okt.setR _ (by rw[g];exact a7)
    |none=>exact hS.okt
   have b0:Sim n Q s1 (opQ p t o):=⟨w,a2,fun v d hk=>by
    rw[(a5 v d).1]
    by_cases ev:v=o.res
    ·rw[if_pos ev,ev,e1]
    ·have:=e3 v (vy h0 d (Ne.symm ev));rw[if_neg ev,this.1]
     exact hS.eq v d (by rw[<-this.2];exact hk),
    fun v d y hk=>by
     rw[(a5 v d).1]
     by_cases ev:v=o.res
     ·rw[ev,e2] at hk;cases hk
     ·have:=e3 v (vy h0 d (Ne.symm ev));rw[if_neg ev]
      exact hS.full v d y (by rw[<-this.2];exact hk),
    fun v d m=>by
     have ev:v≠o.res:=fun e=>h2 (by rw[<-e];exact m)
     have:=e3 v (vy h0 d (Ne.symm ev));rw[(a5 v d).2,this.2]
     exact hS.kn v d m⟩
   have a1:ahE Q (fun x=>0<=x/\s1.knw x=true) es:=g3.imp fun x=>by
    show((0<=x/\s.knw x=true)∨(if 0<=o.res then some o.res else none)=some x)↔_
    rw[if_pos h0]
    by_cases ev:x=o.res
    ·rw[ev];exact⟨fun _=>⟨h0,e2⟩,fun _=> .inr rfl⟩
    ·constructor
     ·rintro(⟨a,b⟩|e)
      ·exact⟨a,by rw[(e3 x (vy h0 a (Ne.symm ev))).2];exact b⟩
      ·exact absurd (Nt e).symm ev
     ·rintro⟨a,b⟩;exact .inl ⟨a,by rw[<-(e3 x (vy h0 a (Ne.symm ev))).2];exact b⟩
   have ih:=aeP (p:=p) a0 es s1 (opQ p t o) (c||(setF k s o.res (i4 p s o)).2) (fun e he=>hE e (.tail _ he)) a1 b0;rw[Qk,Qk,j]
   show Pass p n Q (.op o::es) s (es.foldl (evS p k) (s1,c||(setF k s o.res (i4 p s o)).2)).1 (es.foldl (evQ p) (opQ p t o))
   generalize (es.foldl (evS p k) (s1,c||(setF k s o.res (i4 p s o)).2)).1=s' at ih ⊢;have a8:=ih.stay o.res h0 h3;refine⟨ih.sim,fun e he=>?_,fun v d hk=>?_,fun v d hn=>?_⟩
   ·rcases Jq.1 he with rfl|he
    ·intro _;refine⟨by rw[a8.2];exact e2,?_⟩;rw[a8.1,e1]
     have b3:∀x∈Evn.ins (.op o),s'.get x=s.get x:=fun x hx=>by
      obtain⟨⟨q1,q2⟩,q3⟩:=g1 x hx;have l:x≠o.res:=fun e=>q3 (.op o) (.head _) (by show(if 0<=o.res then some o.res else none)=some x;rw[if_pos h0,e])
      rw[(ih.stay x q1 fun e he=>q3 e (.tail _ he)).1];exact(e3 x (vy h0 q1 (Ne.symm l))).1
     have hi:Evn.ins (.op o)=(if(zi o.code).a=true then [o.a] else [])++(if(zi o.code).b=true then [o.b] else []):=if_pos h0
     have:i4 p s' o=i4 p s o:=by
      unfold i4
      by_cases k1:o.code=1
      ·rw[if_pos k1,if_pos k1]
      rw[if_neg k1,if_neg k1]
      by_cases k2:o.code=2
      ·rw[if_pos k2,if_pos k2]
      rw[if_neg k2,if_neg k2];have c1:=ho.2.1
      by_cases ha:(zi o.code).a=true
      ·rw[b3 o.a (by rw[hi,if_pos ha];exact Jz _ (.head _))]
       by_cases hb:(zi o.code).b=true
       ·rw[b3 o.b (by rw[hi,if_pos hb];exact Qf _ (.head _))]
       ·exact app_un Zo (by simpa using hb) _ _ _
      ·rw[afm Zo (by simpa using ha),afm Zo (by simpa using ha)]
     rw[this];exact Rg.sub.refl _
    ·exact ih.fix e he
   ·have l:v≠o.res:=fun e=>by rw[e,a9] at hk;cases hk
    have q:=e3 v (vy h0 d (Ne.symm l));have:=ih.grow v d (by rw[q.2];exact hk);rw[q.1] at this;exact this
   ·have l:v≠o.res:=fun e=>hn (.op o) (.head _) (by show(if 0<=o.res then some o.res else none)=some v;rw[if_pos h0,e])
    have q:=e3 v (vy h0 d (Ne.symm l));have:=ih.stay v d fun e he=>hn e (.tail _ he)
    rw[q.1,q.2] at this;exact this
  ·have j:evS p k (s,c) (.op o)=(s,c):=if_neg h0;have b7:evQ p t (.op o)=t:=if_neg h0
   have a1:ahE Q (fun x=>0<=x/\s.knw x=true) es:=g3.imp fun x=>by
    show((0<=x/\s.knw x=true)∨(if 0<=o.res then some o.res else none)=some x)↔_
    rw[if_neg h0];exact⟨fun h=>(by rcases h with h|h;exact h;cases h),.inl⟩
   have ih:=aeP (p:=p) a0 es s t c (fun e he=>hE e (.tail _ he)) a1 hS;rw[Qk,Qk,j,b7];refine⟨ih.sim,fun e he=>?_,ih.grow,fun v d hn=>ih.stay v d fun e he=>hn e (.tail _ he)⟩;rcases Jq.1 he with rfl|he
   ·exact fun h=>absurd h h0
   ·exact ih.fix e he
 |.arg v x::es,s,t,c,hE,hG,hS=>by
  obtain⟨g1,g2,g3⟩:=hG;obtain⟨⟨d,y⟩,a4,c2⟩:=hE _ (.head _);obtain⟨⟨_,b5⟩,b1⟩:=g1 x (.head _);have b4:x≠v:=fun e=>b1 (.arg v x) (.head _) (by rw[e];rfl)
  obtain⟨e1,e2,e3⟩:=ae0 (k:=k) hS.oks a0 y (s.get x);have j:evS p k (s,c) (.arg v x)=((setF k s v (s.get x)).1,c||(setF k s v (s.get x)).2):=rfl;obtain⟨s1,i⟩:∃s1,(setF k s v (s.get x)).1=s1:=⟨_,rfl⟩
  rw[i] at e1 e2 e3 j;have w:OkS n s1:=by rw[<-i];exact hS.oks.set _ (hS.oks.get _)
  have b9:=hS.kn v d g2;have b2:=hS.eq x a4 b5
  have b6:(agM t v x).get v=s1.get v:=by
   unfold agM;rw[(p6 hS.okt y _).1,e1,b9]
   by_cases h:s.knw v=true
   ·rw[if_pos h,if_pos h,b2,hS.eq v d h]
   ·rw[if_neg h,if_neg h,b2]
  have a6:∀u:Int,0<=u->u≠v->(agM t v x).get u=t.get u/\(agM t v x).knw u=t.knw u:=fun u hu l=>aeB (vy d hu (Ne.symm l)) _
  have a2:OkS n (agM t v x):=hS.okt.put _ (by split;exact aeE (hS.okt.get _) (hS.okt.get _);exact hS.okt.get _)
  have b0:Sim n Q s1 (agM t v x):=⟨w,a2,fun u hu hk=>by
   by_cases ev:u=v
   ·rw[ev,b6]
   ·have q:=e3 u (vy d hu (Ne.symm ev));rw[(a6 u hu ev).1,q.1]
    exact hS.eq u hu (by rw[<-q.2];exact hk),
   fun u hu hun hk=>by
    by_cases ev:u=v
    ·rw[ev,e2] at hk;cases hk
    ·have q:=e3 u (vy d hu (Ne.symm ev));rw[(a6 u hu ev).1]
     exact hS.full u hu hun (by rw[<-q.2];exact hk),
   fun u hu m=>by
    by_cases ev:u=v
    ·rw[ev,e2];exact(p6 hS.okt y _).2
    ·have q:=e3 u (vy d hu (Ne.symm ev));rw[(a6 u hu ev).2,q.2]
     exact hS.kn u hu m⟩
  have a1:ahE Q (fun x=>0<=x/\s1.knw x=true) es:=g3.imp fun u=>by
   show((0<=u/\s.knw u=true)∨some v=some u)↔_
   by_cases ev:u=v
   ·rw[ev];exact⟨fun _=>⟨d,e2⟩,fun _=> .inr rfl⟩
   ·constructor
    ·rintro(⟨a,b⟩|e)
     ·exact⟨a,by rw[(e3 u (vy d a (Ne.symm ev))).2];exact b⟩
     ·exact absurd (Nt e).symm ev
    ·rintro⟨a,b⟩;exact .inl ⟨a,by rw[<-(e3 u (vy d a (Ne.symm ev))).2];exact b⟩
  have ih:=aeP (p:=p) a0 es s1 (agM t v x) (c||(setF k s v (s.get x)).2) (fun e he=>hE e (.tail _ he)) a1 b0;rw[Qk,Qk,j]
  show Pass p n Q (.arg v x::es) s (es.foldl (evS p k) (s1,c||(setF k s v (s.get x)).2)).1 (es.foldl (evQ p) (agM t v x))
  generalize (es.foldl (evS p k) (s1,c||(setF k s v (s.get x)).2)).1=s' at ih ⊢;have a3:=ih.grow v d e2
  have b8:(s.get x).sub (s1.get v):=by
   rw[e1]
   split
   ·exact ag5 _ _
   ·exact Rg.sub.refl _
  refine⟨ih.sim,fun e he=>?_,fun u hu hk=>?_,fun u hu hn=>?_⟩
  ·rcases Jq.1 he with rfl|he
   ·refine⟨a3.1,?_⟩;have q:=ih.stay x a4 fun e he=>b1 e (.tail _ he)
    show(s'.get x).sub (s'.get v)
    rw[q.1,(e3 x (vy d a4 (Ne.symm b4))).1];exact b8.trans a3.2
   ·exact ih.fix e he
  ·by_cases ev:u=v
   ·rw[ev] at hk ⊢;refine⟨a3.1,Rg.sub.trans ?_ a3.2⟩;rw[e1,if_pos hk];exact agH _ _
   ·have q:=e3 u (vy d hu (Ne.symm ev));have:=ih.grow u hu (by rw[q.2];exact hk);rw[q.1] at this;exact this
  ·have ev:u≠v:=fun e=>hn (.arg v x) (.head _) (by rw[e];rfl)
   have q:=e3 u (vy d hu (Ne.symm ev));have:=ih.stay u hu fun e he=>hn e (.tail _ he)
   rw[q.1,q.2] at this;exact this
theorem hull_in {a g:Rg}(h:a.sub g):lf (sq a g) g=true:=by
 have h1:min a.lo g.lo=g.lo:=Nat.min_eq_right h.1;have h2:max a.hi g.hi=g.hi:=Nat.max_eq_right h.2;unfold lf sq;simp[h1,h2]
theorem set_in{s:Slv}{v:Int}{a:Rg}(hk:s.knw v=true)(h:a.sub (s.get v)):setF k s v a=(s,false):=by
 unfold setF;rw[if_pos hk,if_pos (hull_in h)]
theorem afq{p:IProg}:∀(es:List Evn) (s:Slv),(∀e∈es,FixEv p s e)->es.foldl (evS p k) (s,false)=(s,false)
 | [],_,_=>rfl
 |.op o::es,s,h=>by
  have h1:evS p k (s,false) (.op o)=(s,false):=by
   show opS p k (s,false) o=_
   unfold opS
   by_cases h0:0<=o.res
   ·have:=h _ (.head _) h0;rw[if_pos h0];unfold m7;rw[set_in this.1 this.2];rfl
   ·rw[if_neg h0]
  rw[Qk,h1]
  exact afq es s fun e he=>h e (.tail _ he)
 |.arg v x::es,s,h=>by
  have h1:evS p k (s,false) (.arg v x)=(s,false):=by
   have:=h _ (.head _)
   show m7 k v (s.get x) (s,false)=_
   unfold m7;rw[set_in this.1 this.2];rfl
  rw[Qk,h1];exact afq es s fun e he=>h e (.tail _ he)
theorem rX (s:List Int)(pos:Nat){n:Nat}(c:0<n):tk0 s pos n<n:=by
 unfold tk0;have h1:=Ob (s.getD pos 0) (show(n:Int)≠0 by omega);have h2:=Int.emod_lt_of_pos (s.getD pos 0) (show(0:Int)<n by omega);omega
theorem sm (s:List Int):1<=mdN s/\mdN s<=4:=by
 have:=rX s 0 (n:=4) Zo;unfold mdN;omega
theorem yY (s:List Int):∀n,(yS s n).length=n
 |0=>rfl
 |n+1=>by unfold yS;rw[Jk,yY s n];rfl
theorem xy (s:List Int):∀n,∀x∈yS s n,0<=x/\x<4
 |0,x,h=>by unfold yS at h;simp at h
 |n+1,x,h=>by
  unfold yS at h;rcases Jl.1 h with h|h
  ·exact xy s n x h
  ·have:=rX s n (n:=4) Zo;rw[Jo] at h;subst h
   split<;>omega
theorem yx (s:List Int):∀k,(zg s k).1.length=k
 |0=>rfl
 |k+1=>by
  show((zg s k).1++ [_]).length=_
  rw[Jk,yx s k];rfl
theorem eP {E:ME}(d:∀x∈E.args,0<=x/\x<4)(f:Nat):(E.args.getD f 0).toNat<=3:=by
 rw[Jj]
 cases c:E.args[f]? with
 |none=>simp
 |some x=>have:=d x (Ji c);simp only[Ot];omega
theorem sd (n p:Nat):(wJ n p).params.length=p:=by unfold wJ;simp
theorem sQ {E:ME}(c:∀x∈E.args,0<=x/\x<4)(pos:Nat):(xD E pos).sz<=pos+40:=by
 have h1:=eP c E.me;have h2:=aaE E ⟨pos,[],0,0,[],6⟩ (n:=3) Zo;unfold xD;simp only;unfold MS.sz MS.block MS.tick;simp only[sd,Op,bT,Ju];omega
theorem rx {E:ME}(c:∀x∈E.args,0<=x/\x<4)(pos:Nat):GrowP 2829 (xD E pos) (xR E pos):=by
 have h:=(xw E c 2 (xD E pos)).trans (xw E c 1 (zp E 2 (xD E pos)));have e:pC 2+pC 1=2824:=rfl;rw[e] at h;unfold xR;simp only;have ht:=h.trans (zT (zp E 1 (zp E 2 (xD E pos)))).p
 split
 ·exact(ht.trans (zv _ _).p).mono Zo
 split
 ·exact(ht.trans (zv _ _).p).mono Zo
 ·exact((ht.trans (yU E _).p).trans (zv _ _).p).mono Zo
theorem lN {E:ME}(c:∀x∈E.args,0<=x/\x<4)(pos:Nat):(xR E pos).pos<=pos+3000:=by
 have h1:=(rx c pos).sz;have h2:=sQ c pos;have h3:(xR E pos).pos<=(xR E pos).sz:=by unfold MS.sz;omega
 omega
theorem mdPos_le (s:List Int):sP s<=5:=by
 have:=sm s;unfold sP
 split<;>omega
theorem pos_step{y:Nat}(h1:y<=5+k*3000)(h2:x<=y+3000):x<=5+(k+1)*3000:=by omega
theorem tU (s:List Int)(k:Nat):(zg s k).2<=5+k*3000:=by
 induction k with
 |zero=>exact mdPos_le s
 |succ k ih=>exact pos_step ih (lN (E:=xC s k) (xy s _) (zg s k).2)
def rp (k:Nat):Nat:=(k*k+k/256)%256
def iu:List Nat:=(List.range 4096).map rp
def uQ (k:Nat):List Nat:=(List.range 4096).map fun j=>if j<k then rp j else 0
theorem pM (k:Nat):(uQ k).length=4096:=by simp[uQ]
theorem mM:uQ 0=List.replicate 4096 0:=by
 apply Oq;intro j;unfold uQ;rw[Jr,Nm]
 by_cases h:j<4096
 ·rw[Oh h,if_pos h];rfl
 ·rw[Of (by simpa using h),if_neg h];rfl
theorem nu:uQ 4096=iu:=Up fun j hj=>if_pos (Ol.1 hj)
theorem kC(h:k<4096):(uQ k).set k (rp k)=uQ (k+1):=by
 apply Oq;intro j;rw[Ov,pM];unfold uQ;rw[Jr,Jr]
 by_cases e:k=j
 ·subst e;rw[if_pos rfl,if_pos h,Oh h]
  show some _=some (if k<k+1 then rp k else 0)
  rw[if_pos Zo]
 ·rw[if_neg e]
  by_cases c:j<4096
  ·rw[Oh c]
   show some (if j<k then rp j else 0)=some (if j<k+1 then rp j else 0)
   by_cases h2:j<k
   ·rw[if_pos h2,if_pos Zo]
   ·rw[if_neg h2,if_neg Zo]
  ·rw[Of (by simpa using c)];rfl
theorem ll (n:Nat):(((List.range n).map rp).map fun(n:Nat)=>(n:Int)).map (fun n=>UInt8.ofNat n.toNat)=(List.range n).map fun k=>UInt8.ofNat (k*k+k/256):=by
 rw[List.map_map,List.map_map];apply Up;intro k hk
 show UInt8.ofNat (((rp k:Nat):Int).toNat)=_
 rw[Ni];unfold rp;apply UInt8.toNat_inj.1;simp
theorem mq:y9 iu=sG:=congrArg (fun l:List UInt8=>(⟨l.toArray⟩:ByteArray)) (ll 4096)
structure SK where
 sb:Nat
 rb:Nat
 kb:Nat
 rm:Nat
 n:Nat
 B:Nat
 V:PV
 fv:Value
variable {K:SK}
def slCells (K:SK)(p:IProg)(k:Nat):Array Value:=#[K.V.fv,K.V.av,I p.entry,I p.handler,K.V.dv,K.V.bv,K.fv,.map (some K.rm),Y K.rb K.n K.n,Y K.kb K.n K.n,I k]
def wb (a:Rg):List Value:=[U (a.lo:Int),U (a.hi:Int)]
structure SlvAt (w:World) (K:SK) (p:IProg) (bls:List IBlk) (k:Nat) (s:Slv):Prop where
 prog:ProgIn w K.B K.V p
 blks:wX w K.B K.fv bls
 map:l6 w K.rm 17 ruG
 cell:w.heap[K.sb]? =some (.cells (slCells K p k) 99 (0,0))
 row:w.heap[K.rb]? =some (.cells (s.r.flatMap wb).toArray 45 (0,0))
 kn:w.heap[K.kb]? =some (.cells (s.kn.map Value.bool).toArray 4 (0,0))
 oks:OkS K.n s
 n64:K.n<=1000000
 lt:K.B<=K.sb/\K.B<=K.rb/\K.B<=K.kb/\K.B<=K.rm
 ne:K.sb≠K.rb/\K.sb≠K.kb/\K.sb≠K.rm/\K.rb≠K.kb/\K.rb≠K.rm/\K.kb≠K.rm
theorem SlvAt.below{p:IProg}{c:List IBlk}{s:Slv}(h:SlvAt w K p c k s)(hb:O w w'):SlvAt w' K p c k s:=by
 have h1:=lt_of_block h.cell;have hB:K.B<=w.heap.size:=Qd (Nat.lt_of_le_of_lt h.lt.1 h1);exact⟨h.prog.below (hb.mono hB),h.blks.below yT (hb.mono hB),h.map.below hb,(hb.block _ h1).trans h.cell,(hb.block _ (lt_of_block h.row)).trans h.row,(hb.block _ (lt_of_block h.kn)).trans h.kn,h.oks,h.n64,h.lt,h.ne⟩
theorem SlvAt.rcell{p:IProg}{c:List IBlk}{s:Slv}(h:SlvAt w K p c k s){v:Int}(h0:0<=v/\v<K.n):
 T w K.rb (v.toNat*2) (U ((s.get v).lo:Int))/\T w K.rb (v.toNat*2+1) (U ((s.get v).hi:Int)):=by
 have hl:v.toNat<s.r.length:=by rw[h.oks.rl];omega
 have hg:s.r[v.toNat]? =some (s.get v):=by
  unfold Slv.get;rw[Jj,Jd hl];rfl
 exact⟨by have:=oW (f:=wb) (n:=2) (fun _=>rfl) h.row hg (j:=0) rfl;rw[Ng,Uk] at this;exact this,by have:=oW (f:=wb) (n:=2) (fun _=>rfl) h.row hg (j:=1) rfl;rw[Ng] at this;exact this⟩
theorem ae3 (w:World)(n:Nat):A 122 #[U n] w (fun e w'=>e=.returned (.agg #[U n,U n])/\O w w'):=af2 w n
theorem af8(sv:Value)(av:Value)(h1:o.code=1)(p:IProg)(s:Slv):
 A 96 #[sv,aam o av] w (re w (i4 p s o)):=by
 rw[show i4 p s o=afw o.n from if_pos h1];obtain⟨c,d,a,b,x,al⟩:=o;subst h1;unfold aam;have h:=Ja (fun W=>ae3 W x);go_enter Tryz.func96,Tryz.ntmps96;go_wp2_with (go_at_call 122;go_must (refine(h.out _).mono ?_;rintro e w1 ⟨rfl,g⟩;have hk:L w1 (w.heap.size+1) #[U 0,U 0] 45:=zH g (zI Zs) Zs;have f0:=zA (i:=0) hk rfl;have f1:=zA (i:=1) hk rfl;have g0:=zE (i:=0) hk;have g1:=zE (i:=1) hk;have j:=lt_of_block hk;have k:=Below.trans (show O w _ from by repeat' (first|exact Below.refl _ _|(refine Below.alloc ?_ (by first|(simp;done)|(simp;omega)) _))) (g.mono (by first|(simp;done)|(simp;omega)));clear g hk))
 refine bodyPost_ret (v:=.agg #[U x,U x]) ?_ rfl ⟨rfl,by repeat' (first|exact Below.refl _ _|assumption|(refine Below.drew ?_)|(refine Below.alloc ?_ (by first|(simp;done)|(simp;omega)) _)|(refine Below.setCell ?_ (by first|(simp;done)|(simp;omega)) _))⟩;rw[zM rfl];go_simp
theorem SlvAt.cells{p:IProg}{c:List IBlk}{s:Slv}(h:SlvAt w K p c k s):
 T w K.sb 4 K.V.dv/\T w K.sb 7 (.map (some K.rm))/\T w K.sb 8 (Y K.rb K.n K.n)/\T w K.sb 9 (Y K.kb K.n K.n)/\T w K.sb 10 (I k)/\T w K.sb 6 K.fv:=
 ⟨zA h.cell rfl,zA h.cell rfl,zA h.cell rfl,zA h.cell rfl,zA h.cell rfl,zA h.cell rfl⟩
theorem agS{p:IProg}{a5:List IBlk}{s:Slv}(h:SlvAt w K p a5 k s)(av:Value)(h2:o.code=2)(ha:0<=o.a/\o.a<p.data.length)(hn:o.n<65536):
 A 96 #[Q K.sb,aam o av] w (re w (i4 p s o)):=by
 obtain⟨c,d,a,b,n,al⟩:=o;have ha:0<=a/\a<p.data.length:=ha;have hn:n<65536:=hn;obtain⟨j,rfl⟩:∃j:Nat,a=j:=⟨a.toNat,by omega⟩
 have h2:c=2:=h2;subst h2;rw[show i4 p s ⟨2,d,j,b,n,al⟩=afw (((p.data.getD j ⟨0,0,0⟩).addr+n)%65536) from rfl];unfold aam;obtain⟨x,hx⟩:∃x,p.data[j]? =some x:=⟨_,Jd Zo⟩
 obtain⟨da,dc,q,a1,a2⟩:=h.prog.data.form;have m:=h.prog.data;rw[q] at m;obtain⟨db,dq,rfl,a3,l⟩:=m.get hx;obtain⟨y,hy⟩:∃y,(x.addr+n)%65536=y:=⟨_,rfl⟩
 rw[show(p.data.getD j ⟨0,0,0⟩)=x by rw[Jj,hx];rfl,hy];have a6:IntKind.u16.wrap ((x.addr:Int)+n)=(y:Int):=by rw[xY];omega
 have a4:K.B<=w.heap.size:=Qd (Nat.lt_of_le_of_lt h.lt.1 (lt_of_block h.cell));have a7:=lt_of_block h.cell;have hj:j<p.data.length:=Zo;have HC:=Ja (show ∀W,O w W->T W K.sb 4 (.slice (some ⟨db,dq,none⟩) p.data.length dc)/\T W db (dq+j*3+1) (U (x.addr:Int)) from fun W hb=>⟨by rw[<-q];exact(h.below hb).cells.1,(hb.cell (p:=⟨db,dq+j*3+1,none⟩) (Jy a3 a4)).trans l.2.1⟩);have HO:=Ja (fun W=>ae3 W y);obtain⟨c0,c1⟩:=HC.out w (Below.refl _ _);clear h l m q hx hy ha hn a2 a1;go_enter Tryz.func96,Tryz.ntmps96;go_upto_region 5 with(go_at_call 999999;skip)
 obtain⟨X,hX⟩:∃X,(w.alloc (G #[I 2,I d,I j,I b,U n,av] 76)).alloc (G #[U 0,U 0] 45)=X:=⟨_,rfl⟩
 have g:=Ja (show O w X/\L X w.heap.size #[I 2,I d,I j,I b,U n,av] 76/\L X (w.heap.size+1) #[U 0,U 0] 45 from by
  rw[<-hX];exact⟨by repeat' (first|exact Below.refl _ _|(refine Below.alloc ?_ (by first|(simp;done)|(simp;omega)) _)),zB (zI rfl),zI Zs⟩)
 rw[hX];clear hX c0 c1;have a0:=Ja (show ∀W,Below (w.heap.size+1) X W->(T W K.sb 4 (.slice (some ⟨db,dq,none⟩) p.data.length dc)/\T W db (dq+j*3+1) (U (x.addr:Int)))/\T W w.heap.size 2 (I j)/\T W w.heap.size 4 (U n) from fun W hb=>⟨HC.out W (g.out.1.trans (hb.mono (Nat.le_succ _))),zA ((hb.block _ (Nat.lt_succ_self _)).trans g.out.2.1) rfl,zA ((hb.block _ (Nat.lt_succ_self _)).trans g.out.2.1) rfl⟩);obtain⟨⟨c0,c1⟩,c2,c3⟩:=a0.out X (Below.refl _ _)
 go_region_held3 (fun w'=>(T w' K.sb 4 (.slice (some ⟨db,dq,none⟩) p.data.length dc)/\T w' db (dq+j*3+1) (U (x.addr:Int)))/\T w' w.heap.size 2 (I j)/\T w' w.heap.size 4 (U n))
  ((refine a0.out _ ?_;repeat' (first|with_reducible exact Below.refl _ _|with_reducible assumption|with_reducible refine Below.drew ?_|refine Below.setCell ?_ (by first|exact Je _|(show w.heap.size+1<=w.heap.size+1;omega)) _)))
  ((go_at_call 122;(refine(HO.out _).mono ?_;rintro e w1 ⟨rfl,u⟩;have t:O X w1:=Below.trans (show O X _ from by repeat' (first|with_reducible exact Below.refl _ _|with_reducible refine Below.drew ?_)) (u.mono (Je _));clear u;have b0:Below (w.heap.size+1) X w1:=t.mono (Qd (lt_of_block g.out.2.2));have hk:=zH t g.out.2.2 (lt_of_block g.out.2.2);have f0:=zA (i:=0) hk rfl;have f1:=zA (i:=1) hk rfl;have g0:=zE (i:=0) hk;have g1:=zE (i:=1) hk;have a8:=lt_of_block hk;have a9:=g.out.1.trans (t.mono g.out.1.size))))
 all_goals go_wp2
 all_goals (refine bodyPost_ret (v:=.agg #[U y,U y]) ?_ rfl ⟨rfl,by repeat' (first|exact Below.refl _ _|assumption|(refine Below.drew ?_)|(refine Below.alloc ?_ (by first|(simp;done)|(simp;omega)) _)|(refine Below.setCell ?_ (by first|(simp;done)|(simp;omega)) _))⟩;rw[zM rfl];go_simp)
end Go.Proofs.YtoahcpkibpomcaaGreat
