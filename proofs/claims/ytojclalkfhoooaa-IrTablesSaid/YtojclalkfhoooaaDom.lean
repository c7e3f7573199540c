/- Part of a proof. -/
import Derived.Test.YtojclalkfhoooaaGIter
import Derived.Test.YtojclalkfhoooaaGMeet
import Derived.Laws.EntriesVeiled
set_option maxRecDepth 8000
set_option linter.unusedSimpArgs false
set_option linter.unusedVariables false
set_option maxHeartbeats 4000000
set_option maxRecDepth 100000
namespace Go.Proofs.Ytojclalkfhoooaa
open Go.RowKit Go.Shelf
attribute [local go_sem] Oper.semAt_some
theorem wi.snoc {idom:List Int}{f:Int->Int}{p:Nat}:∀ {ps:List Nat} {d d1 d2:Int},wi idom f ps d d1->mJ idom f p d1 d2->wi idom f (ps++ [p]) d d2
 | [],d,d1,d2,h,h2=>by cases h;exact⟨d2,h2,rfl⟩
 |q::ps,d,d1,d2,⟨d0,h0,h⟩,h2=>⟨d0,h0,wi.snoc h h2⟩
theorem UpN.unique {idom:List Int}{f:Int->Int}{t:Int}:∀ {k k2 a r r2:Nat},UpN idom f t k a r->UpN idom f t k2 a r2->r=r2
 |0,0,_,_,_,h,h2=>h.2.trans h2.2.symm
 |0,_+1,_,_,_,h,h2=>absurd h2.1 h.1
 |_+1,0,_,_,_,h,h2=>absurd h.1 h2.1
 |k+1,k2+1,a,r,r2,⟨_,a1,_,h,h3⟩,⟨_,a2,_,h2,h4⟩=>by
  obtain rfl:a1=a2:=by rw[h] at h2;exact Int.ofNat_inj.1 (Option.some.inj h2)
  exact UpN.unique h3 h4
theorem qZ.unique {idom:List Int}{f:Int->Int}:∀ {k k2 a b r r2:Nat},qZ idom f k a b r->qZ idom f k2 a b r2->r=r2
 |0,0,_,_,_,_,h,h2=>h.2.trans h2.2.symm
 |0,_+1,_,_,_,_,h,h2=>absurd h.1 h2.1
 |_+1,0,_,_,_,_,h,h2=>absurd h2.1 h.1
 |k+1,k2+1,a,b,r,r2,⟨_,j,a1,h1,j',b1,h2,h3⟩,⟨_,i,a2,g1,i',b2,g2,g3⟩=>by
  obtain rfl:=UpN.unique h1 g1
  obtain rfl:=UpN.unique h2 g2
  exact qZ.unique h3 g3
theorem mJ.unique {idom:List Int}{f:Int->Int}{p:Nat}{d d1 d2:Int}(h:mJ idom f p d d1)(h2:mJ idom f p d d2):d1=d2:=by
 obtain⟨x,hx,h⟩:=h
 obtain⟨y,hy,h2⟩:=h2
 obtain rfl:x=y:=by rw[hx] at hy;simpa using hy
 rcases h with⟨a,rfl⟩|⟨a,b,rfl⟩|⟨a,dn,rfl,_,k,r,hm,rfl⟩<;>rcases h2 with⟨a',e⟩|⟨a',b',e⟩|⟨a',dn',e0,_,k',r',hm',e⟩
 ·exact e.symm
 ·exact absurd a a'
 ·exact absurd a a'
 ·exact absurd a' a
 ·exact e.symm
 ·omega
 ·exact absurd a' a
 ·omega
 ·obtain rfl:dn=dn':=by omega
  rw[e,qZ.unique hm hm']
theorem wi.unique {idom:List Int}{f:Int->Int}:∀ {ps:List Nat} {d d1 d2:Int},wi idom f ps d d1->wi idom f ps d d2->d1=d2
 | [],_,_,_,h,h2=>h.trans h2.symm
 |p::ps,d,d1,d2,⟨e,h,h'⟩,⟨e2,g,g'⟩=>by
  obtain rfl:=h.unique g
  exact wi.unique h' g'
structure DomMem (w W:World) (bv Bi bi n:Nat) (idom:List Int):Prop where
 hv:W.heap[w.heap.size]? =some (.cells #[.pointer (some ⟨bv,0,none⟩)] 160 (0,0))
 hi:W.heap[Bi]? =some (.cells #[.slice (some ⟨bi,0,none⟩) n n] 22 (0,0))
 hm:W.heap[Bi+1]? =some (.cells #[.func (.func 121) #[] #[.pointer (some ⟨w.heap.size,0,none⟩),.pointer (some ⟨Bi,0,none⟩)]] 190 (0,0))
 hr:W.heap[bi]? =some (.cells (idom.map (Value.int .i64)).toArray 3 (0,0))
 hl:idom.length=n
 hb:Below w.heap.size w W
 lt:w.heap.size<bi/\bi<Bi
theorem DomMem.kept {w W W':World}{bv Bi bi n:Nat}{idom:List Int}{row:Option Nat}(h:DomMem w W bv Bi bi n idom)(hg:W.grownBy W' row)
 (hne:∀r,row=some r->w.heap.size<r/\r≠bi/\r≠Bi/\r≠Bi+1):DomMem w W' bv Bi bi n idom:=by
 obtain⟨hv,hi,hm,hr,hl,hb,lt⟩:=h
 refine⟨zL hg hv (fun e=>by have:=hne _ e;omega),zL hg hi (fun e=>(hne _ e).2.2.1 rfl),zL hg hm (fun e=>(hne _ e).2.2.2 rfl),zL hg hr (fun e=>(hne _ e).2.1 rfl),hl,hb.grown hg hb.size (fun k hk=>?_),lt⟩
 have:=hne _ hk;omega
theorem DomMem.own {w W W':World}{bv Bi bi n:Nat}{idom:List Int}{row:Option Nat}(h:DomMem w W bv Bi bi n idom)(hg:W.grownBy W' row)
 (hne:∀r,row=some r->∃o:Obj,W.heap[r]? =some o/\o.isCells=false) (hB:∀r,row=some r->w.heap.size<=r):DomMem w W' bv Bi bi n idom:=by
 refine h.kept hg (fun r e=>?_)
 obtain⟨o,ho,hc⟩:=hne r e
 have aux:∀ {b:Nat} {cs:Array Value} {t:TypeId},W.heap[b]? =some (.cells cs t (0,0))->r≠b:=by
  rintro b cs t hb rfl;rw[hb] at ho;cases ho;cases hc
 exact⟨Nat.lt_of_le_of_ne (hB r e) (Ne.symm (aux h.hv)),aux h.hr,aux h.hi,aux h.hm⟩
theorem DomMem.set {w W:World}{bv Bi bi n:Nat}{idom:List Int}(h:DomMem w W bv Bi bi n idom)(k:Nat)(d:Int):DomMem w (W.setCell ⟨bi,k,none⟩ (.int .i64 d)) bv Bi bi n (idom.set k d):=by
 obtain⟨hv,hi,hm,hr,hl,hb,lt⟩:=h
 refine⟨zR hv (by simp;omega),zR hi (by simp;omega),zR hm (by simp;omega),?_,by simpa using hl,hb.setCell (by simp;omega) _,lt⟩
 rw[zD hr]
 simp
def oh (B:Nat)(W:World)(ds:List Deferred):Prop:=
 ∃Ds:List Nat,ds=Ds.map (fun D=> {target:=.collected D,args:=#[]})/\Ds.Nodup/\∀D∈Ds,B<=D/\W.heap[D]? =some (.deferred (some []))
theorem oh.keeps {B:Nat}{W W':World}{ds:List Deferred}(h:oh B W ds)(hk:KeepsFrom 0 W W'):oh B W' ds:=by
 obtain⟨Ds,rfl,h1,h2⟩:=h
 exact⟨Ds,rfl,h1,fun D hD=>⟨(h2 D hD).1,hk.same D _ (Nat.zero_le _) (h2 D hD).2 rfl⟩⟩
theorem oh.push {B:Nat}{W0 W:World}{ds:List Deferred}{D:Nat}(h:oh B W0 ds)(hk:KeepsFrom 0 W0 W)(hD:W0.heap.size<=D)(hB:B<=D)(hd:W.heap[D]? =some (.deferred (some []))):
 oh B W ({target:=.collected D,args:=#[]}::ds):=by
 obtain⟨Ds,rfl,h1,h2⟩:=h
 refine⟨D::Ds,rfl,List.nodup_cons.2 ⟨fun hm=>?_,h1⟩,fun E hE=>?_⟩
 ·have:=(Array.getElem?_eq_some_iff.1 (h2 D hm).2).1;omega
 ·rcases List.mem_cons.1 hE with rfl|hE
  ·exact⟨hB,hd⟩
  ·exact⟨(h2 E hE).1,hk.same E _ (Nat.zero_le _) (h2 E hE).2 rfl⟩
theorem sr {F:Fence}{m:Nat}{P:Program}{fn:Func}{tmps:Array Value}{R:Ending->World->Prop}(B:Nat)(G:World->Prop)
 (hG:∀W D,B<=D->W.heap[D]? =some (.deferred (some []))->G W->G (W.putObj D (.deferred none))) (hend:∀W,G W->LeavesIn F m P fn tmps R [] .returning W):
 ∀(Ds:List Nat) (W:World),Ds.Nodup->(∀D∈Ds,B<=D/\W.heap[D]? =some (.deferred (some [])))->G W->LeavesInM F m P fn tmps R (Ds.map (fun D=> {target:=.collected D,args:=#[]})) .returning W
 | [],W,_,_,h=>hend W h
 |D::Ds,W,hn,hd,h=>by
  have hD:=hd D (by simp)
  refine⟨by simp,.inl ⟨D,_,rfl,run_takeDeferred hD.2,?_⟩⟩
  refine sr B G hG hend Ds _ (List.nodup_cons.1 hn).2 (fun E hE=>⟨(hd E (by simp[hE])).1,?_⟩) (hG W D hD.1 hD.2 h)
  rw[World.putObj_heap_other (by rintro rfl;exact(List.nodup_cons.1 hn).1 hE)]
  exact(hd E (by simp[hE])).2
theorem _root_.Go.KeepsFrom.from0 {W W':World}(h:KeepsFrom 0 W W')(B:Nat):KeepsFrom B W W':=⟨h.size,fun k o _ hk ho=>h.same k o (Nat.zero_le _) hk ho⟩
theorem uh (W:World)(o:Obj):KeepsFrom 0 W (W.alloc o):=⟨by simp,fun k o' _ hk _=>(Below.heap_alloc _ _ _ (Array.getElem?_eq_some_iff.1 hk).1).trans hk⟩
theorem uu {W:World}{b i:Nat}{cs:Array Value}{t:TypeId}(h:W.heap[b]? =some (.cells cs t (0,0)))(v:Value):KeepsFrom 0 W (W.setCell ⟨b,i,none⟩ v):=
 ⟨by simp,fun k o _ hk hc=>(Below.heap_setCell _ _ _ k (fun e=>by subst e;rw[h] at hk;cases hk;cases hc)).trans hk⟩
theorem uW (W:World)(n:Nat):KeepsFrom 0 W (W.drewN n):=⟨Nat.le_refl _,fun _ _ _ h _=>h⟩
theorem oH {w w1:World}{bv n:Nat}(h:w1.heap[w.heap.size+2]? =some (.cells (List.replicate n (.int .i64 (-1))).toArray 3 (0,0))/\Below w.heap.size w w1/\w1.heap[w.heap.size]? =some (.cells #[.pointer (some ⟨bv,0,none⟩)] 160 (0,0)))
 (hlt:w.heap.size+2<w1.heap.size) (h1:1<=n):
 DomMem w (((w1.setCell ⟨w.heap.size+2,0,none⟩ (.int .i64 0)).alloc (.cells #[.slice (some ⟨w.heap.size+2,0,none⟩) n n] 22)).alloc (.cells #[.func (.func 121) #[] #[.pointer (some ⟨w.heap.size,0,none⟩),.pointer (some ⟨w1.heap.size,0,none⟩)]] 190))
  bv w1.heap.size (w.heap.size+2) n ((0:Int)::List.replicate (n-1) (-1)):=by
 obtain⟨hr,hb,hv⟩:=h
 have hr0:=zD (i:=0) hr (.int .i64 0)
 refine⟨zB (zB (zR hv (by simp))),zB (zI (by simp)),zI (by simp),?_,by simp;omega,?_,by omega,hlt⟩
 ·rw[zB (zB hr0)]
  obtain⟨m,rfl⟩:∃m,n=m+1:=⟨n-1,by omega⟩
  simp[List.replicate_succ]
 ·exact((hb.setCell (by simp) _).alloc (by simp;omega) _).alloc (by simp;omega) _
theorem vA {W:World}{b i:Nat}{a:Addr}(h:a.block≠b)(u:Value):(W.setCell ⟨b,i,none⟩ u).cell? a=W.cell? a:=by
 have:(W.setCell ⟨b,i,none⟩ u).heap[a.block]? =W.heap[a.block]?:=Below.heap_setCell _ _ _ _ h
 unfold World.cell?
 rw[this]
theorem wb.keptObj {Bv Bn n:Nat}{xs:List Nat}{bv bp op len cap:Nat}{ar:Option Addr}{capr:Nat}{W W':World}{row:Option Nat}(h:wb Bv Bn n xs bv bp op len cap ar capr W)(hg:W.grownBy W' row)
 (hne:∀r,row=some r->∃o:Obj,W.heap[r]? =some o/\o.isCells=false):wb Bv Bn n xs bv bp op len cap ar capr W':=by
 obtain⟨c1,c2,c3,hn,c4,hc⟩:=h
 refine⟨cell_kept c1 hg hne,cell_kept c2 hg hne,cell_kept c3 hg hne,hn,cell_kept c4 hg hne,fun j x hj=>?_⟩
 obtain⟨b,o,e,c⟩:=hc j x hj
 exact⟨b,o,e,cell_kept c hg hne⟩
theorem wb.set {Bv Bn n:Nat}{xs:List Nat}{bv bp op len cap:Nat}{ar:Option Addr}{capr:Nat}{W:World}{Bd:Nat}(h:wb Bv Bn n xs bv bp op len cap ar capr W)(u:Value)
 (h1:Bv≠Bd) (h2:Bn≠Bd) (h3:bv≠Bd) (h4:bp≠Bd) (h5:∀(j x:Nat),xs[j]? =some x->∀a,ar=some a->a.block≠Bd):wb Bv Bn n xs bv bp op len cap ar capr (W.setCell ⟨Bd,0,none⟩ u):=by
 obtain⟨c1,c2,c3,hn,c4,hc⟩:=h
 refine⟨(vA h1 u).trans c1,(vA h2 u).trans c2,(vA h3 u).trans c3,hn,(vA h4 u).trans c4,fun j x hj=>?_⟩
 obtain⟨b,o,e,c⟩:=hc j x hj
 exact⟨b,o,e,(vA (a:=⟨b,o+j,none⟩) (h5 j x hj ⟨b,o,none⟩ e) u).trans c⟩
theorem jt {w W:World}{C bv:Nat}{ord:List Nat}{f:Int->Int}{preds:List (List Nat)}(hV:oN w C bv ord f preds)(hb:Below C w W){x:Nat}{pr:List Nat}(hpr:preds[x]? =some pr){Bv Bn:Nat}
 (c1:W.cell? ⟨Bv,0,none⟩=some (.pointer (some ⟨bv,0,none⟩))) (c2:W.cell? ⟨Bn,0,none⟩=some (.int .i64 (x:Int))):
 ∃bp op len cap ar capr,wb Bv Bn x pr bv bp op len cap ar capr W/\bp<C/\∀(j y:Nat),pr[j]? =some y->∀a,ar=some a->a.block<C:=by
 obtain⟨ov,bm,pv,nm,e0,e1,e2,ho,hm,hm2,hp,hl⟩:=hV
 obtain⟨a,cap,rfl,hcap⟩:=hp.form
 obtain⟨b,o,a2,cap2,rfl,hbC,hc,hc2,hx⟩:=hp.row hpr
 refine⟨b,o,preds.length,cap,a2,cap2,⟨c1,c2,(hb.cell (p:=⟨bv,2,none⟩) hl).trans e2,(List.getElem?_eq_some_iff.1 hpr).1,(hb.cell (p:=⟨b,o+x,none⟩) hbC).trans hc,fun j y hj=>?_⟩,hbC,fun j y hj a e=>?_⟩
 ·obtain⟨b2,o2,e,hB,hc⟩:=hx j y hj
  exact⟨b2,o2,e,(hb.cell (p:=⟨b2,o2+j,none⟩) hB).trans hc⟩
 ·obtain⟨b2,o2,e2,hB,hc⟩:=hx j y hj
  rw[e2] at e;cases e;exact hB
theorem qQ (w:World)(C bv n:Nat)(ord:List Nat)(f:Int->Int)(preds:List (List Nat))(hC:C<=w.heap.size)(hV:oN w C bv ord f preds)(h1:1<=n)(hn:n<=2000000)
 (ns:List Nat) (hns:ord=0::ns) (hnl:∀x∈ns,x<n) (hnsl:ns.length<=2000000) (hpl:preds.length=n) (hpb:∀row∈preds,row.length<=4000004000000) (k0:Nat) (idom':List Int) (hD:ip preds f ns k0 ((0:Int)::List.replicate (n-1) (-1)) idom'):
 Calls Try.prog 102 #[.pointer (some ⟨bv,0,none⟩),.int .i64 (n:Int)] w fun e w'=>∃g,e=.returned (.slice (some ⟨g,0,none⟩) n n)/\w.heap.size<=g/\w'.heap[g]? =some (.cells (idom'.map (Value.int .i64)).toArray 3 (0,0))/\Below w.heap.size w w':=by
 have HV:=Lib.hid hV
 have HD:=Lib.hid hD
 have HN:=Lib.hid hnl
 have HPB:=Lib.hid hpb
 clear hV hD hnl hpb
 refine(callsIn_wide (n:=100)).1 (callsIn_of_wp_marks Try.func102 rfl trivial ?_ rfl)
 simp only[Try.ntmps102,List.size_toArray,List.length_cons,List.length_nil,Nat.reduceAdd,Nat.reduceSub,Array.replicate_succ,Array.replicate_zero,List.push_toArray,List.append_toArray,List.nil_append,List.cons_append]
 refine wpIn_wide.2 ?_
 have hrep:∀W:World,W=(w.alloc (.cells #[.pointer (some ⟨bv,0,none⟩)] 160)).alloc (.cells #[.int .i64 (-1)] 3)->Calls Try.prog 120 #[.slice (some ⟨w.heap.size+1,0,none⟩) 1 1,.int .i64 (n:Int)] W fun e w1=>
  e=.returned (.slice (some ⟨w.heap.size+2,0,none⟩) n n)/\w1.cell? ⟨w.heap.size+2,0,none⟩=some (.int .i64 (-1))/\w1.frozen? ⟨w.heap.size+2,0,none⟩=false/\w.heap.size+2<w1.heap.size/\Hid (w1.heap[w.heap.size+2]? =some (.cells (List.replicate n (.int .i64 (-1))).toArray 3 (0,0))/\Below w.heap.size w w1/\w1.heap[w.heap.size]? =some (.cells #[.pointer (some ⟨bv,0,none⟩)] 160 (0,0))):=by
  rintro W rfl
  have hsz:((w.alloc (.cells #[.pointer (some ⟨bv,0,none⟩)] 160)).alloc (.cells #[.int .i64 (-1)] 3)).heap.size=w.heap.size+2:=by simp
  have hb:Below w.heap.size w ((w.alloc (.cells #[.pointer (some ⟨bv,0,none⟩)] 160)).alloc (.cells #[.int .i64 (-1)] 3)):=((Below.refl _ _).alloc (Nat.le_refl _) _).alloc (by simp) _
  refine(lr _ (w.heap.size+1) 0 1 n (zA (zI (by simp)) (by simp)) h1 (by omega)).mono ?_
  rintro e w1 ⟨rfl,hr,hb1⟩
  rw[hsz] at hr hb1 ⊢
  exact⟨rfl,zA hr (by rw[List.getElem?_toArray,List.getElem?_replicate,if_pos (by omega)]),zE hr,lt_of_block hr,hr,hb.trans (hb1.mono (by omega)),zH hb1 (zB (zI rfl)) (by omega)⟩
 have c3:∀(w1:World) (a:Addr) (u:Value) (o:Obj),(((w1.setCell a u).alloc o).alloc (.cells #[.nilFunc] 190)).cell? ⟨w1.heap.size+1,0,none⟩=some .nilFunc:=fun w1 a u o=>zA (zI (by simp)) (by simp)
 have f3:∀(w1:World) (a:Addr) (u:Value) (o:Obj),(((w1.setCell a u).alloc o).alloc (.cells #[.nilFunc] 190)).frozen? ⟨w1.heap.size+1,0,none⟩=false:=fun w1 a u o=>zE (zI (by simp))
 go_wp2_with (go_at_call 120;go_must (refine(hrep _ rfl).mono ?_;rintro e w1 ⟨rfl,c0,f0,hlt0,HW⟩))
 refine wp_loop_ghost (fun k a W=>∃(ch:Bool) (ds:List Deferred),∃u9 u10 u11 u18 u19 u20 u21 u22 u23 u24 u25 u26 u27 u28 u29 u30 u31 u32 u33 u34 u35 u36 u37 u38 u39 u40 u41 u42 u43 u44 u45 u46 u47 u48 u49 u50 u51 u52 u53 u54 u55 u56 u57 u58:Value,a= {tmps:=#[.pointer (some ⟨bv,0,none⟩),.int .i64 (n:Int),.pointer (some ⟨w.heap.size,0,none⟩),undef,.slice none 0 0,.pointer (some ⟨w1.heap.size,0,none⟩),.pointer (some ⟨w1.heap.size+1,0,none⟩),.bool ch,undef,u9,u10,u11,.slice (some ⟨w.heap.size+1,0,none⟩) 1 1,.int .i64 (n:Int),.slice (some ⟨w.heap.size+2,0,none⟩) n n,.slice (some ⟨w.heap.size+2,0,none⟩) n n,.pointer (some ⟨w.heap.size+2,0,none⟩),.func (.func 121) #[] #[.pointer (some ⟨w.heap.size,0,none⟩),.pointer (some ⟨w1.heap.size,0,none⟩)],u18,u19,u20,u21,u22,u23,u24,u25,u26,u27,u28,u29,u30,u31,u32,u33,u34,u35,u36,u37,u38,u39,u40,u41,u42,u43,u44,u45,u46,u47,u48,u49,u50,u51,u52,u53,u54,u55,u56,u57,u58],defers:=ds }/\oh w.heap.size W ds/\∃idom,DomMem w W bv w1.heap.size (w.heap.size+2) n idom/\((ch=true/\ip preds f ns k idom idom')∨(ch=false/\idom=idom'))) k0 ?_ ?_
 ·refine⟨true,[],_,_,_,_,_,_,_,_,_,_,_,_,_,_,_,_,_,_,_,_,_,_,_,_,_,_,_,_,_,_,_,_,_,_,_,_,_,_,_,_,_,_,_,_,rfl,⟨[],rfl,List.nodup_nil,by simp⟩,_,oH HW.out hlt0 h1,.inl ⟨rfl,HD.out⟩⟩
 clear HD HW c0 f0 c3 f3 hrep
 rintro k a W ⟨ch,ds,u9,u10,u11,u18,u19,u20,u21,u22,u23,u24,u25,u26,u27,u28,u29,u30,u31,u32,u33,u34,u35,u36,u37,u38,u39,u40,u41,u42,u43,u44,u45,u46,u47,u48,u49,u50,u51,u52,u53,u54,u55,u56,u57,u58,rfl,hM,idom,hdm,hch⟩
 have HM:=Lib.hid hM
 have HDM:=Lib.hid hdm
 have HCH:=Lib.hid hch
 clear hM hdm hch
 have cI:=cell_of_one HDM.out.hi
 have cV:=cell_of_one HDM.out.hv
 cases ch with
 |false=>
  go_wp2
  obtain⟨Ds,rfl,hnd,hds⟩:=HM.out
  obtain rfl:idom=idom':=HCH.out.elim (fun h=>Bool.noConfusion h.1) (fun h=>h.2)
  refine sr w.heap.size (fun W=>W.heap[w.heap.size+2]? =some (.cells (idom.map (Value.int .i64)).toArray 3 (0,0))/\Below w.heap.size w W) ?_ ?_ Ds W hnd hds ⟨HDM.out.hr,HDM.out.hb⟩
  ·rintro W D hB hd ⟨h1,h2⟩
   exact⟨zL (grownBy_putObj' W D _) h1 (by rintro e;cases e;rw[h1] at hd;cases hd),h2.grown (grownBy_putObj' W D _) h2.size (by rintro k e;cases e;exact hB)⟩
  ·rintro W ⟨h1,h2⟩
   exact⟨_,results_tmp rfl _ _ _,_,rfl,by omega,h1,h2⟩
 |true=>
  have hVW:=HV.out
  obtain⟨ov,bm,pv,nm,e0,e1,e2,ho,hm,hm2,hp,hl⟩:=hVW
  obtain⟨aO,capO,rfl,hcO,hxO⟩:=ho
  subst hns
  obtain⟨b,o,rfl,hbC,hc0⟩:=hxO 0 0 rfl
  simp only[List.length_cons] at hcO e0
  have HX:=Lib.hid hxO
  clear e2 hm hp hxO hc0 e1
  have e0:=(HDM.out.hb.cell (p:=⟨bv,0,none⟩) (show bv<w.heap.size by omega)).trans e0
  have l1:1<=capO:=by omega
  go_upto_region 7 with fail
  go_cut [23,24,25] from 18 to 25 (fun s l i wx=>wx=W/\l=.int .i64 (ns.length:Int)/\i=.int .i64 0/\∃o' c',s=.slice (some ⟨b,o',none⟩) ns.length c'/\Hid (0<ns.length->o'=o+1))
  case first=>
   go_wp2
   all_goals go_meet
   ·exact⟨rfl,rfl,rfl,_,_,rfl,by unfold Hid;intro h;omega⟩
   ·exact⟨rfl,rfl,rfl,_,_,rfl,fun _=>rfl⟩
  case rest=>
   obtain⟨rfl,rfl,rfl,o',c',rfl,HO⟩:=hcut
   obtain⟨k,i1,chE,hpass,hrest,rfl⟩:∃k2 i1 chE,ny preds f ns idom false i1 chE/\((chE=false/\idom'=i1)∨(chE=true/\ip preds f ns k2 i1 idom'))/\k=k2+1:=by
    rcases HCH.out with⟨_,h⟩|⟨h,_⟩
    ·cases k with
     |zero=>exact h.elim
     |succ k=>obtain⟨i1,ch,h1,h2⟩:=h;exact⟨k,i1,ch,h1,h2,rfl⟩
    ·cases h
   have HPASS:=Lib.hid hpass
   have HREST:=Lib.hid hrest
   clear hpass hrest HCH cI cV
   go_wp2
   refine wp_loop_ghost (fun k a W=>∃(i:Nat) (ch:Bool) (ds:List Deferred),∃u9 u10 u11 u18 u19 u20 u21 u22 u26 u27 u28 u29 u30 u31 u32 u33 u34 u35 u36 u37 u38 u39 u40 u41 u42 u43 u44 u45 u46 u47 u48 u49 u50 u51 u52 u53 u54 u55 u56 u57 u58:Value,a= {tmps:=#[.pointer (some ⟨bv,0,none⟩),.int .i64 (n:Int),.pointer (some ⟨w.heap.size,0,none⟩),undef,.slice none 0 0,.pointer (some ⟨w1.heap.size,0,none⟩),.pointer (some ⟨w1.heap.size+1,0,none⟩),.bool ch,undef,u9,u10,u11,.slice (some ⟨w.heap.size+1,0,none⟩) 1 1,.int .i64 (n:Int),.slice (some ⟨w.heap.size+2,0,none⟩) n n,.slice (some ⟨w.heap.size+2,0,none⟩) n n,.pointer (some ⟨w.heap.size+2,0,none⟩),.func (.func 121) #[] #[.pointer (some ⟨w.heap.size,0,none⟩),.pointer (some ⟨w1.heap.size,0,none⟩)],u18,u19,u20,u21,u22,(.slice (some ⟨b,o',none⟩) ns.length c'),(.int .i64 (ns.length:Int)),(.int .i64 (i:Int)),u26,u27,u28,u29,u30,u31,u32,u33,u34,u35,u36,u37,u38,u39,u40,u41,u42,u43,u44,u45,u46,u47,u48,u49,u50,u51,u52,u53,u54,u55,u56,u57,u58],defers:=ds }/\k+i=ns.length/\oh w.heap.size W ds/\∃idom,DomMem w W bv w1.heap.size (w.heap.size+2) n idom/\ny preds f (ns.drop i) idom ch i1 chE) ns.length ?_ ?_
   ·exact⟨0,false,ds,_,_,_,_,_,_,_,_,_,_,_,_,_,_,_,_,_,_,_,_,_,_,_,_,_,_,_,_,_,_,_,_,_,_,_,_,_,_,_,_,_,rfl,rfl,HM.out,idom,HDM.out,HPASS.out⟩
   clear HPASS HM HDM ds idom
   rintro j a W ⟨i,ch,ds,u9,u10,u11,u18,u19,u20,u21,u22,u26,u27,u28,u29,u30,u31,u32,u33,u34,u35,u36,u37,u38,u39,u40,u41,u42,u43,u44,u45,u46,u47,u48,u49,u50,u51,u52,u53,u54,u55,u56,u57,u58,rfl,hji,hM,idom,hdm,hpass⟩
   have HM:=Lib.hid hM
   have HDM:=Lib.hid hdm
   have HPASS:=Lib.hid hpass
   clear hM hdm hpass
   by_cases hlt:(i:Int)<ns.length
   ·obtain⟨x,hx⟩:∃x,ns[i]? =some x:=⟨_,List.getElem?_eq_getElem (by omega)⟩
    have hxn:=HN.out x (List.mem_of_getElem? hx)
    obtain⟨b1,o1,hbo,_,hcx⟩:=HX.out (i+1) x (by simpa using hx)
    obtain⟨rfl,rfl⟩:b=b1/\o=o1:=by simpa using hbo
    have hcx:W.cell? ⟨b,o'+i,none⟩=some (.int .i64 (x:Int)):=by
     rw[HO.out (by omega),Nat.add_assoc,Nat.add_comm 1 i]
     exact(HDM.out.hb.cell (p:=⟨b,o+(i+1),none⟩) (show b<w.heap.size by omega)).trans hcx
    have cV:=cell_of_one HDM.out.hv
    have hWs:w.heap.size<W.heap.size:=lt_of_block HDM.out.hv
    have hWs2:w1.heap.size+1<W.heap.size:=lt_of_block HDM.out.hm
    go_wp2_with (go_at_call 122;refine(lj _ _ _).mono ?_;rintro e w2 ⟨rfl,rfl⟩)
    have hdrop:ns.drop i=x::ns.drop (i+1):=by
     rw[List.drop_eq_getElem_cons (by omega)]
     congr 1
     have:=List.getElem?_eq_getElem (l:=ns) (i:=i) (by omega)
     rw[hx] at this;exact(Option.some.inj this).symm
    have hp:=HPASS.out
    rw[hdrop] at hp
    obtain⟨pr,d0,old,hpr,htot,hpreds,hold,hcase⟩:=hp
    have hsz4:(((W.alloc (.cells #[.int .i64 (-1)] 3)).alloc (.cells #[.pointer (some ⟨bv,0,none⟩)] 160)).alloc (.cells #[.int .i64 (x:Int)] 3)).heap.size=W.heap.size+3:=by simp
    have hdm4:DomMem w (((W.alloc (.cells #[.int .i64 (-1)] 3)).alloc (.cells #[.pointer (some ⟨bv,0,none⟩)] 160)).alloc (.cells #[.int .i64 (x:Int)] 3)) bv w1.heap.size (w.heap.size+2) n idom:=
     ((HDM.out.kept (World.grownBy_alloc W _ none) (fun _ e=>by cases e)).kept (World.grownBy_alloc _ _ none) (fun _ e=>by cases e)).kept (World.grownBy_alloc _ _ none) (fun _ e=>by cases e)
    have hbx4:Boxed (((W.alloc (.cells #[.int .i64 (-1)] 3)).alloc (.cells #[.pointer (some ⟨bv,0,none⟩)] 160)).alloc (.cells #[.int .i64 (x:Int)] 3)) W.heap.size 3 (.int .i64 (-1)):=((Boxed.new W _ _).alloc _).alloc _
    have hkp4:KeepsFrom 0 W (((W.alloc (.cells #[.int .i64 (-1)] 3)).alloc (.cells #[.pointer (some ⟨bv,0,none⟩)] 160)).alloc (.cells #[.int .i64 (x:Int)] 3)):=((uh _ _).trans (uh _ _)).trans (uh _ _)
    obtain⟨bp,op,len,cap,ar,capr,hit4,hbp,har⟩:=jt HV.out (hdm4.hb.mono hC) hpr (Bv:=W.heap.size+1) (Bn:=W.heap.size+1+1) (cell_of_one (zB (zI (by simp)))) (cell_of_one (zI (by simp)))
    generalize (((W.alloc (.cells #[.int .i64 (-1)] 3)).alloc (.cells #[.pointer (some ⟨bv,0,none⟩)] 160)).alloc (.cells #[.int .i64 (x:Int)] 3))=W4 at hsz4 hdm4 hbx4 hkp4 hit4 ⊢
    have HTOT:=Lib.hid htot
    have HC:=Lib.hid hcase
    have HPR:=Lib.hid hpreds
    refine(wpIn_wide (n:=100)).1 (wpIn_rangeFunc_ownG rfl (by decide) (gf:=129) (lb:=#[.pointer (some ⟨W.heap.size+1,0,none⟩),.pointer (some ⟨W.heap.size+1+1,0,none⟩)]) rfl trivial (enters_of Try.func129 (by kernel_rfl) rfl)
     (nH 99 (by decide) (W.heap.size+1) (W.heap.size+1+1) x pr bv bp op len cap ar capr (HPB.out pr (List.mem_of_getElem? hpr)) W4 hit4) (fun h k x=>k (h x)) (fun V l o o' hl ho hc _ h=>h.keptObj (grownBy_putObj' V l o') (fun r e=>by cases e;exact⟨o,ho,hc⟩)) (Below.refl _ _) (fun _=>rfl)
     (fun pre V=>DomMem w V bv w1.heap.size (w.heap.size+2) n idom/\KeepsFrom 0 W4 V/\∃d,Boxed V W.heap.size 3 (.int .i64 d)/\OkD idom d/\wi idom f (pre.map (·.1)) (-1) d) (fun _ _ _=>False)
     ?own (fun _ _ _ _ _ hs _ _=>hs) ⟨hdm4,KeepsFrom.refl _ _,-1,hbx4,.inl rfl,rfl⟩ ?a1 ?assign ?body ?done ?stop)
    case own=>
     rintro s X Y row ⟨hd,hk,d,hb,ho,hp⟩ hg hr
     exact⟨hd.own hg (fun r e=>(hr r e).2) (fun r e=>by have:=(hr r e).1;omega),ownFrom_keepsFrom (β:=Unit) (Nat.le_refl W4.heap.size) () X Y row hk hg hr,d,hb.kept hg (fun e=>by have:=(hr _ e.symm).1;omega),ho,hp⟩
    case assign=>
     intro l x W K hK
     gi_wp2
     exact hK
    case body=>
     clear hcx hit4 hdm4 hbx4 hpreds htot hcase hold hx hdrop e0 cV
     rintro l pre ⟨p,hp⟩ V ⟨hd,hk,d,hb,ho,hps⟩ hlen
     have hmap:(pre++ [(⟨p,hp⟩: {p//p∈pr})]).map (fun x=>x.1)=pre.map (fun x=>x.1)++ [p]:=by rw[List.map_append];rfl
     have hmap:=Lib.hid hmap
     obtain⟨hpl,htot⟩:=HTOT.out p hp
     obtain⟨d1,ho1,hpick⟩:=htot d ho
     obtain⟨x0,hx0,hpk⟩:=hpick
     have HD:=Lib.hid hd
     have HK:=Lib.hid hk
     have HB:=Lib.hid hb
     have HOD:=Lib.hid (And.intro ho1 (hps.snoc ⟨x0,hx0,hpk⟩))
     have cI:=cell_of_one hd.hi
     have cM:=cell_of_one hd.hm
     have cD:=hb.cell
     have fD:=hb.frozen
     have hpn:p<n:=by rw[<-hd.hl];exact hpl
     have cr:V.cell? ⟨w.heap.size+2,p,none⟩=some (.int .i64 x0):=zA hd.hr (by simp[hx0])
     have hpi:(p:Int)<n:=by omega
     clear hd hk hb hps ho ho1 htot hx0 hpl
     rcases hpk with⟨hneg,rfl⟩|⟨hneg,hd0,rfl⟩|⟨hneg,dn,rfl,hdn,k2,r,hmeet,rfl⟩
     ·gi_wp2
      refine(show _/\_/\_ from⟨KeepsFrom.refl _ _,fun h=>h,HD.out,HK.out,_,HB.out,HOD.out.1,?_⟩)
      rw[hmap.out];exact HOD.out.2
     ·gi_wp2
      refine(show _/\_/\_ from⟨(uu HB.out _).from0 _,fun h=>h.set _ (by omega) (by omega) (by omega) (by omega) (fun j y hj a e=>by have:=har j y hj a e;omega),HD.out.kept (grownBy_setCell' V _ _) (fun r e=>by cases e;have:=HD.out.lt;omega),HK.out.trans (uu HB.out _),_,HB.out.set _,HOD.out.1,?_⟩)
      show wi idom f ((pre++ [(⟨p,hp⟩: {p//p∈pr})]).map (fun x=>x.1)) (-1) _
      rw[hmap.out];exact HOD.out.2
     ·have hnd:¬(dn:Int)<0:=by omega
      gi_wp2
      obtain⟨ov,bm',pv',nm',e0,e1,e2,hoo,hmm,hm2',hpp,hll⟩:=HV.out.below (HD.out.hb.mono hC)
      refine⟨trivial,CallsIn.inRound l (callsIn_wide.2 ((meet_any V w.heap.size w1.heap.size bv bm' nm' (w.heap.size+2) f idom (by rw[HD.out.hl];exact hn) (cell_of_one HD.out.hv) e1 hmm (by rw[HD.out.hl];exact cI) HD.out.hr k2 p dn r (by rw[HD.out.hl];exact hpn) hdn hmeet).mono ?_))⟩
      rintro e V2 ⟨rfl,m,rfl⟩
      clear e0 e1 e2 hoo hmm hpp
      gi_wp2
      have HBm:Boxed (V.drewN m) W.heap.size 3 (.int .i64 (dn:Int)):=HB.out
      have hgm:V.grownBy (V.drewN m) none:=⟨rfl,rfl,rfl,Nat.le_refl _,fun _ _ _=>rfl⟩
      have hkm:KeepsFrom 0 V ((V.drewN m).setCell ⟨W.heap.size,0,none⟩ (.int .i64 (r:Int))):=(uW V m).trans (uu HBm _)
      refine(show _/\_/\_ from⟨hkm.from0 _,fun h=>(h.keptObj hgm (fun r e=>by cases e)).set _ (by omega) (by omega) (by omega) (by omega) (fun j y hj a e=>by have:=har j y hj a e;omega),(HD.out.kept hgm (fun r e=>by cases e)).kept (grownBy_setCell' _ _ _) (fun r e=>by cases e;have:=HD.out.lt;omega),HK.out.trans hkm,_,HBm.set _,HOD.out.1,?_⟩)
      show wi idom f ((pre++ [(⟨p,hp⟩: {p//p∈pr})]).map (fun x=>x.1)) (-1) _
      rw[hmap.out];exact HOD.out.2
    case done=>
     rintro D xs V hD hxs ⟨hd,hk,d,hb,ho,hps⟩ hDD
     rw[hxs] at hps
     obtain rfl:=wi.unique hps hpreds
     have cI:=cell_of_one hd.hi
     have cD:=hb.cell
     have cr:V.cell? ⟨w.heap.size+2,x,none⟩=some (.int .i64 old):=zA hd.hr (by simp[hold])
     have fr:V.frozen? ⟨w.heap.size+2,x,none⟩=false:=zE hd.hr
     have hxi:(x:Int)<n:=by omega
     have HD:=Lib.hid hd
     have HM4:=Lib.hid (HM.out.push (hkp4.trans hk) (by omega) (by have:=HDM.out.hb.size;omega) hDD)
     clear hd hk hb ho hps hDD hcx hit4 hdm4 hbx4 hpreds htot hcase hold hx hdrop e0 cV
     rcases HC.out with⟨rfl,hnext⟩|⟨hne,hnext⟩
     ·have HNX:=Lib.hid hnext
      clear hnext
      have hbb:(old !=old)=false:=by simp
      go_wp2
      go_quiet (fail)
      go_wp2
      have hgq:V.grownBy (V.drewN nq) none:=⟨rfl,rfl,rfl,Nat.le_refl _,fun _ _ _=>rfl⟩
      refine⟨j-1,by omega,i+1,ch,_,_,_,_,_,_,_,_,_,_,_,_,_,_,_,_,_,_,_,_,_,_,_,_,_,_,_,_,_,_,_,_,_,_,_,_,_,_,_,_,_,_,(by rw[Int.natCast_add];rfl),by omega,HM4.out.keeps (uW V nq),idom,HD.out.kept hgq (fun r e=>by cases e),HNX.out⟩
     ·have HNX:=Lib.hid hnext
      clear hnext
      have hbb:(old !=d)=true:=by simpa using hne
      go_wp2
      go_quiet (fail)
      go_wp2
      have hgq:V.grownBy (V.drewN nq) none:=⟨rfl,rfl,rfl,Nat.le_refl _,fun _ _ _=>rfl⟩
      refine⟨j-1,by omega,i+1,true,_,_,_,_,_,_,_,_,_,_,_,_,_,_,_,_,_,_,_,_,_,_,_,_,_,_,_,_,_,_,_,_,_,_,_,_,_,_,_,_,_,_,(by rw[Int.natCast_add];rfl),by omega,(HM4.out.keeps (uW V nq)).keeps (uu (W:=V.drewN nq) HD.out.hr _),idom.set x d,(HD.out.kept hgq (fun r e=>by cases e)).set x d,HNX.out⟩
    case stop=>
     rintro D c pre V _ _ h _
     exact h.elim
   ·go_wp2
    obtain rfl:i=ns.length:=by omega
    have hp:=HPASS.out
    rw[List.drop_length] at hp
    obtain⟨rfl,rfl⟩:=hp
    refine⟨k,by omega,?_⟩
    rcases HREST.out with⟨rfl,rfl⟩|⟨rfl,h⟩
    ·exact .inl ⟨_,⟨rfl,rfl⟩,HM.out,HDM.out⟩
    ·exact .inr ⟨_,⟨rfl,rfl⟩,HM.out,_,HDM.out,h⟩
end Go.Proofs.Ytojclalkfhoooaa
