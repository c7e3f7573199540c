/- Part of a proof. -/
import Derived.Test.YtoahcpkibpomcaaGreatGTur0v
import Derived.Test.YtoahcpkibpomcaaGreatSpo6v
set_option linter.all false
set_option maxHeartbeats 4000000
set_option maxRecDepth 100000
namespace Go.Proofs
open Go.Shelf
def Tryz.lays212_ren:Go.Shelf.Ren:=⟨fun|212=>151|263=>157|264=>158|n=>n,fun|46=>92|51=>50|146=>220|53=>181|148=>222|n=>n,fun|n=>n⟩
theorem Tryz.lays212:Go.Proofs.Lays.n212 Tryz.prog Tryz.lays212_ren:= {
 mixed:=by kernel_rfl
 f212:=Tryz.func151.trans (congrArg some (by kernel_rfl))
 f263:=Tryz.func157.trans (congrArg some (by kernel_rfl))
 f264:=Tryz.func158.trans (congrArg some (by kernel_rfl))
 t46:=Tryz.underlying92
 a46:=Tryz.isAgg92
 z46:=Tryz.sizeOf92
 v46:=Tryz.zeroValue92
 t51:=Tryz.underlying50
 a51:=Tryz.isAgg50
 z51:=Tryz.sizeOf50
 v51:=Tryz.zeroValue50
 t53:=Tryz.underlying181
 a53:=Tryz.isAgg181
 z53:=Tryz.sizeOf181
 v53:=Tryz.zeroValue181
 t146:=Tryz.underlying220
 a146:=Tryz.isAgg220
 z146:=Tryz.sizeOf220
 v146:=Tryz.zeroValue220
 t148:=Tryz.underlying222
 a148:=Tryz.isAgg222
 z148:=Tryz.sizeOf222
 v148:=Tryz.zeroValue222 }
open Go.RowKit Go.Lib in
theorem Tryz.bits_Mul (x y:Nat)(d:x<18446744073709551616)(c:y<18446744073709551616)(w:World):
 Calls Tryz.prog 151 #[.int .u64 x,.int .u64 y] w fun e w'=>e=.returned (.tuple #[.int .u64 ((x*y/18446744073709551616:Nat):Int),.int .u64 ((x*y%18446744073709551616:Nat):Int)])/\w'=w:=Any.bits_Mul Tryz.lays212 x y d c w
end Go.Proofs
namespace Go.Proofs.YtoahcpkibpomcaaGreat
open Go.RowKit
variable {Bi Bn Bv C bi bp bs c d db g i j k m o5 p1 x:Nat}{t:PT}{W W' w w0 w2:World}{idom:List Int}{ds:List Deferred}{xs:List (Int×Int)}{seen:List Bool}{wv:Value}{K:MKC}{X0:Nat->Prop}{M M0:MS}{q0 q1 q2:Int}
def wN (N m:Nat)(z:Value):List Value:=List.replicate m z++List.replicate (N-m) (I 0)
theorem nY (N:Nat)(z:Value):wN N 0 z=List.replicate N (I 0):=by simp[wN]
theorem mI (N:Nat)(z:Value):wN N N z=List.replicate N z:=by simp[wN]
theorem kK{N:Nat}(z:Value)(h:j<m):(wN N m z)[j]? =some z:=by
 unfold wN;rw[Np (by simpa using h)];simp[h]
theorem sL{N:Nat}(z:Value)(h:m+k<=N):splice (wN N m z) m (List.replicate k z)=wN N (m+k) z:=by
 unfold splice wN
 have e1:List.take m (List.replicate m z++List.replicate (N-m) (I 0))=List.replicate m z:=by
  rw[List.take_append_of_le_length Zs,Oy Zs]
 have e2:List.drop (m+(List.replicate k z).length) (List.replicate m z++List.replicate (N-m) (I 0))=List.replicate (N-(m+k)) (I 0):=by
  rw[List.drop_append,List.drop_eq_nil_of_le Zs,Op,List.drop_replicate]
  congr 1;simp;omega
 rw[e1,e2,<-Nv,List.replicate_append_replicate]
theorem qW{N:Nat}(z:Value)(h:k<=N):splice (List.replicate N (I 0)) 0 (List.replicate k z)=wN N k z:=by
 have:=sL (m:=0) z (by omega:0+k<=N);rw[nY] at this
 simpa using this
theorem lr (w:World)(s o a2 N:Nat)(hc:A w s o (I (-1)))(h1:1<=N)(hN:N<=4000000):
 G 145 #[.slice (some ⟨s,o,none⟩) 1 a2,I N] w fun e w'=>e=.returned (.slice (some ⟨w.heap.size,0,none⟩) N N)/\Q w' w.heap.size (List.replicate N (I (-1))).toArray 3/\O w w':=by
 obtain⟨ii,a6,a9,a3,a8⟩:=info_parts Tryz.info_int;have a4:=run_make_row' (P:=Tryz.prog) 22 3 (I 0) 8 Tryz.underlying22 Tryz.info_int rfl .i64 .i64 N Zo Zo;go_enter Tryz.func145,Tryz.ntmps145
 have u:G 151 #[.int .u64 1,.int .u64 (N:Int)] w fun e w'=>e=.returned (.tuple #[.int .u64 0,.int .u64 (N:Int)])/\w'=w:=by
  refine(Tryz.bits_Mul 1 N Zo Zo w).mono ?_;rintro e w1 ⟨rfl,rfl⟩;refine⟨?_,rfl⟩;rw[show 1*N/18446744073709551616=0 by omega,show 1*N%18446744073709551616=N by omega];rfl
 have hs:=jU hc;have b4:(N:Int)<=9223372036854775807:=Zo;have b3:¬(N:Int)<0:=Zo;have x: [I (-1)].length=Nat.min 1 N:=(Ud h1).symm;have l:Q (w.alloc (.cells (madeCells #[I 0] N) 3)) w.heap.size (List.replicate N (I 0)).toArray 3:=by rw[zI rfl,yA]
 have k:∀(j:Nat) (v:Value),[I (-1)][j]? =some v->(w.alloc (.cells (madeCells #[I 0] N) 3)).cell? ((⟨s,o,none⟩:Addr).add j)=some v:=by
  intro j v g
  cases j with
  |zero=>simp at g;subst g;exact(Ok _ _ _ hs).trans hc
  |succ j=>simp at g
 have q:O w (w.alloc (.cells (madeCells #[I 0] N) 3)):=(Below.refl _ _).alloc (Je _) _;have t:(Tryz.prog.info? 3).map (·.size)=some 1:=by rw[a6];simp[a3]
 go_wp2_with (first|(go_at_call 151;refine u.mono ?_;rintro e w1 ⟨rfl,rfl⟩)|(with_reducible refine wpList_copy_splice rfl (.tmp 31) (.tmp 32) 22 22 rfl 3 Tryz.underlying22 t (some ⟨w1.heap.size,0,none⟩) (some ⟨s,o,none⟩) N N 1 a2 rfl rfl w1.heap.size 0 (List.replicate N (I 0)) 3 l [I (-1)] x (fun _=>⟨rfl,_,rfl,k⟩) Zt (by simp[Value.oneCell']) w1.heap.size w1 q (Je _) ?_;intro w2 c a7))
 have a1:Hid (Q w2 w1.heap.size (wN N 1 (I (-1))).toArray 3):=by
  have:=c.out;rw[show([I (-1)]:List Value)=List.replicate 1 (I (-1)) from rfl,qW _ h1] at this;exact Ja this
 clear u c q k l x a4
 go_loopw [8] (fun i wr=>∃m:Nat,i=I m/\1<=m/\(m:Int)<=N/\Hid (Q wr w1.heap.size (wN N m (I (-1))).toArray 3)/\O w1 wr) (fun i _=>N-(intOf i).toNat)
 case atStart=>exact⟨1,rfl,by omega,by omega,a1,a7⟩
 case round=>
  obtain⟨m,rfl,x,b1,c,y⟩:=hrel
  by_cases b2:(m:Int)<N
  ·have e1:(m:Int)<=N:=Zo;have e2:(0:Int)<=m:=Zo;go_wp2
   obtain⟨w3,b0,a0,d⟩:∃w3:World,(Sem.run Tryz.prog (Builtin.copy_ #[22,22] 3 #[.slice (some ⟨w1.heap.size,m,none⟩) (N-m) (N-m),.slice (some ⟨w1.heap.size,0,none⟩) m N]) wr.drew=.ok (I ((min m (N-m):Nat):Int)) w3.drew)/\Hid (Q w3 w1.heap.size (wN N (m+min m (N-m)) (I (-1))).toArray 3)/\O w1 w3:=by
    refine⟨wr.setRow w1.heap.size (splice (wN N m (I (-1))) m (List.replicate (min m (N-m)) (I (-1)))).toArray,?_,?_,py y (Je _) _⟩
    ·have:=run_copy_row (P:=Tryz.prog) wr.drew 22 22 3 3 w1.heap.size m (N-m) (N-m) ⟨w1.heap.size,0,none⟩ m N (wN N m (I (-1))).toArray 3 (List.replicate (min m (N-m)) (I (-1))) Tryz.underlying22 t c.out
      (by rw[Qr]) (fun j v g=>by
       have a5:j<min m (N-m):=by
        have:=(Jh.1 g).1;simpa using this
       rw[Nm,if_pos a5] at g;cases g;have ea:(⟨w1.heap.size,0,none⟩:Addr).add j=⟨w1.heap.size,j,none⟩:=by by_cases h:j=0<;>simp[Addr.add,h]
       rw[ea];refine zA (w:=wr.drew) (b:=w1.heap.size) (cs:=(wN N m (I (-1))).toArray) c.out ?_;simp only[List.getElem?_toArray]
       exact kK _ Zo) (by simp[wN];omega) (by intro v hv;rw[List.eq_of_mem_replicate hv];rfl)
     rw[Qr] at this;refine(this.trans ?_);unfold splice;simp only[Nv,Qr];rfl
    ·have:=setRow_heap wr w1.heap.size _ (splice (wN N m (I (-1))) m (List.replicate (min m (N-m)) (I (-1)))).toArray _ _ c.out;rw[sL _ Zo] at this ⊢;exact Ja this
   clear c y;go_wp2
   go_region
   go_wp2;go_roundw
   case rel=>exact⟨m+min m (N-m),by rw[Int.natCast_add],by omega,by omega,a0,⟨d.os,d.tape,d.output,d.size,d.block⟩⟩
   case measure=>simp[intOf];omega
  ·go_wp2;go_ret;have:m=N:=Zo;subst this;refine⟨rfl,?_,y⟩;have:=c.out;rw[mI] at this
   simpa using this
end Go.Proofs.YtoahcpkibpomcaaGreat
set_option maxRecDepth 8000
namespace Go.Proofs.YtoahcpkibpomcaaGreat
open Go.RowKit Go.Shelf
variable {Bi Bn Bv C bi bp bs c d db g i j k m o5 p1 x:Nat}{t:PT}{W W' w w0 w2:World}{idom:List Int}{ds:List Deferred}{xs:List (Int×Int)}{seen:List Bool}{wv:Value}{K:MKC}{X0:Nat->Prop}{M M0:MS}{q0 q1 q2:Int}
attribute [local go_sem] Oper.semAt_some
theorem wi.snoc {idom:List Int}{f:Int->Int}{p:Nat}:∀ {ps:List Nat} {d d1 d2:Int},wi idom f ps d d1->mJ idom f p d1 d2->wi idom f (ps++ [p]) d d2
 | [],d,d1,d2,h,h2=>by cases h;exact⟨d2,h2,rfl⟩
 |q::ps,d,d1,d2,⟨d0,h0,h⟩,h2=>⟨d0,h0,wi.snoc h h2⟩
theorem UpN.unique {c:List Int}{f:Int->Int}{t:Int}:∀ {k k2 a r r2:Nat},UpN c f t k a r->UpN c f t k2 a r2->r=r2
 |0,0,_,_,_,h,h2=>h.2.trans h2.2.symm
 |0,_+1,_,_,_,h,h2=>absurd h2.1 h.1
 |_+1,0,_,_,_,h,h2=>absurd h.1 h2.1
 |k+1,k2+1,a,r,r2,⟨_,a1,_,h,h3⟩,⟨_,a2,_,h2,h4⟩=>by
  obtain rfl:a1=a2:=by rw[h] at h2;exact Int.ofNat_inj.1 (Nt h2)
  exact UpN.unique h3 h4
theorem qZ.unique {c:List Int}{f:Int->Int}:∀ {k k2 a b r r2:Nat},qZ c f k a b r->qZ c f k2 a b r2->r=r2
 |0,0,_,_,_,_,h,h2=>h.2.trans h2.2.symm
 |0,_+1,_,_,_,_,h,h2=>absurd h.1 h2.1
 |_+1,0,_,_,_,_,h,h2=>absurd h2.1 h.1
 |k+1,k2+1,a,b,r,r2,⟨_,j,a1,h1,j',b1,h2,h3⟩,⟨_,i,a2,g1,i',b2,g2,g3⟩=>by
  obtain rfl:=UpN.unique h1 g1;obtain rfl:=UpN.unique h2 g2;exact qZ.unique h3 g3
theorem mJ.unique {c:List Int}{f:Int->Int}{p:Nat}{d d1 d2:Int}(h:mJ c f p d d1)(h2:mJ c f p d d2):d1=d2:=by
 obtain⟨x,j,h⟩:=h;obtain⟨y,g,h2⟩:=h2;obtain rfl:x=y:=by rw[j] at g;simpa using g
 rcases h with⟨a,rfl⟩|⟨a,b,rfl⟩|⟨a,dn,rfl,_,k,r,hm,rfl⟩<;>rcases h2 with⟨a',e⟩|⟨a',b',e⟩|⟨a',dn',e0,_,k',r',i,e⟩
 ·exact e.symm
 ·exact absurd a a'
 ·exact absurd a a'
 ·exact absurd a' a
 ·exact e.symm
 ·omega
 ·exact absurd a' a
 ·omega
 ·obtain rfl:dn=dn':=by omega
  rw[e,qZ.unique hm i]
theorem wi.unique {c:List Int}{f:Int->Int}:∀ {ps:List Nat} {d d1 d2:Int},wi c f ps d d1->wi c f ps d d2->d1=d2
 | [],_,_,_,h,h2=>h.trans h2.symm
 |p::ps,d,d1,d2,⟨e,h,h'⟩,⟨e2,g,g'⟩=>by
  obtain rfl:=h.unique g;exact wi.unique h' g'
structure DomMem (w W:World) (bv Bi bi n:Nat) (idom:List Int):Prop where
 hv:W.heap[w.heap.size]? =some (.cells #[.pointer (some ⟨bv,0,none⟩)] 192 (0,0))
 hi:W.heap[Bi]? =some (.cells #[.slice (some ⟨bi,0,none⟩) n n] 22 (0,0))
 hm:W.heap[Bi+1]? =some (.cells #[.func (.func 146) #[] #[.pointer (some ⟨w.heap.size,0,none⟩),.pointer (some ⟨Bi,0,none⟩)]] 204 (0,0))
 hr:W.heap[bi]? =some (.cells (idom.map (Value.int .i64)).toArray 3 (0,0))
 hl:idom.length=n
 hb:Below w.heap.size w W
 lt:w.heap.size<bi/\bi<Bi
theorem DomMem.kept{bv n:Nat}{row:Option Nat}(h:DomMem w W bv Bi bi n idom)(hg:W.grownBy W' row)
 (c:∀r,row=some r->w.heap.size<r/\r≠bi/\r≠Bi/\r≠Bi+1):DomMem w W' bv Bi bi n idom:=by
 obtain⟨hv,hi,hm,hr,hl,hb,lt⟩:=h;refine⟨zL hg hv (fun e=>by have:=c _ e;omega),zL hg hi (fun e=>(c _ e).2.2.1 rfl),zL hg hm (fun e=>(c _ e).2.2.2 rfl),zL hg hr (fun e=>(c _ e).2.1 rfl),hl,hb.grown hg hb.size (fun k hk=>?_),lt⟩;have:=c _ hk;omega
theorem DomMem.own{bv n:Nat}{row:Option Nat}(h:DomMem w W bv Bi bi n idom)(hg:W.grownBy W' row)
 (c:∀r,row=some r->∃o:Obj,W.heap[r]? =some o/\o.isCells=false) (hB:∀r,row=some r->w.heap.size<=r):DomMem w W' bv Bi bi n idom:=by
 refine h.kept hg (fun r e=>?_);obtain⟨o,ho,d⟩:=c r e
 have aux:∀ {b:Nat} {cs:Array Value} {t:TypeId},Q W b cs t->r≠b:=by
  rintro b cs t hb rfl;rw[hb] at ho;cases ho;cases d
 exact⟨Nat.lt_of_le_of_ne (hB r e) (Ne.symm (aux h.hv)),aux h.hr,aux h.hi,aux h.hm⟩
theorem DomMem.set{bv n:Nat}{c:List Int}(h:DomMem w W bv Bi bi n c)(k:Nat)(d:Int):DomMem w (W.setCell ⟨bi,k,none⟩ (I d)) bv Bi bi n (c.set k d):=by
 obtain⟨hv,hi,hm,hr,hl,hb,lt⟩:=h;refine⟨zR hv Zt,zR hi Zt,zR hm Zt,?_,by simpa using hl,hb.setCell Zt _,lt⟩;rw[zD hr];simp
def oh (B:Nat)(W:World)(ds:List Deferred):Prop:=
 ∃Ds:List Nat,ds=Ds.map (fun D=> {target:=.collected D,args:=#[]})/\Ds.Nodup/\∀D∈Ds,B<=D/\W.heap[D]? =some (.deferred (some []))
theorem oh.keeps{B:Nat}(h:oh B W ds)(hk:KeepsFrom 0 W W'):oh B W' ds:=by
 obtain⟨Ds,rfl,h1,h2⟩:=h;exact⟨Ds,rfl,h1,fun D hD=>⟨(h2 D hD).1,hk.same D _ (Jt _) (h2 D hD).2 rfl⟩⟩
theorem oh.push{B:Nat}{W0:World}{D:Nat}(h:oh B W0 ds)(hk:KeepsFrom 0 W0 W)(g:W0.heap.size<=D)(hB:B<=D)(d:W.heap[D]? =some (.deferred (some []))):
 oh B W ({target:=.collected D,args:=#[]}::ds):=by
 obtain⟨Ds,rfl,h1,h2⟩:=h;refine⟨D::Ds,rfl,Qt.2 ⟨fun hm=>?_,h1⟩,fun E c=>?_⟩
 ·have:=(Array.getElem?_eq_some_iff.1 (h2 D hm).2).1;omega
 ·rcases Jq.1 c with rfl|c
  ·exact⟨hB,d⟩
  ·exact⟨(h2 E c).1,hk.same E _ (Jt _) (h2 E c).2 rfl⟩
theorem sr{F:Fence}{P:Program}{fn:Func}{c:Array Value}{R:Ending->World->Prop}(B:Nat)(G:World->Prop)
 (g:∀W D,B<=D->W.heap[D]? =some (.deferred (some []))->G W->G (W.putObj D (.deferred none))) (d:∀W,G W->LeavesIn F m P fn c R [] .returning W):
 ∀(Ds:List Nat) (W:World),Ds.Nodup->(∀D∈Ds,B<=D/\W.heap[D]? =some (.deferred (some [])))->G W->LeavesInM F m P fn c R (Ds.map (fun D=> {target:=.collected D,args:=#[]})) .returning W
 | [],W,_,_,h=>d W h
 |D::Ds,W,hn,hd,h=>by
  have hD:=hd D Zs;refine⟨by simp,.inl ⟨D,_,rfl,run_takeDeferred hD.2,?_⟩⟩;refine sr B G g d Ds _ (Qt.1 hn).2 (fun E hE=>⟨(hd E (by simp[hE])).1,?_⟩) (g W D hD.1 hD.2 h);rw[World.putObj_heap_other (by rintro rfl;exact(Qt.1 hn).1 hE)];exact(hd E (by simp[hE])).2
theorem _root_.Go.KeepsFrom.from0(h:KeepsFrom 0 W W')(B:Nat):KeepsFrom B W W':=⟨h.size,fun k o _ hk ho=>h.same k o (Jt _) hk ho⟩
theorem uh (W:World)(o:Obj):KeepsFrom 0 W (W.alloc o):=⟨by simp,fun k o' _ hk _=>(Below.heap_alloc _ _ _ (Array.getElem?_eq_some_iff.1 hk).1).trans hk⟩
theorem uu{b:Nat}{cs:Array Value}{t:TypeId}(h:Q W b cs t)(v:Value):KeepsFrom 0 W (W.setCell ⟨b,i,none⟩ v):=
 ⟨by simp,fun k o _ hk hc=>(Below.heap_setCell _ _ _ k (fun e=>by subst e;rw[h] at hk;cases hk;cases hc)).trans hk⟩
theorem uW (W:World)(n:Nat):KeepsFrom 0 W (W.drewN n):=⟨Je _,fun _ _ _ h _=>h⟩
theorem oH{w1:World}{bv n:Nat}(h:Q w1 (w.heap.size+2) (List.replicate n (I (-1))).toArray 3/\O w w1/\Q w1 w.heap.size #[Y bv] 192)
 (d:w.heap.size+2<w1.heap.size) (h1:1<=n):
 DomMem w (((w1.setCell ⟨w.heap.size+2,0,none⟩ (I 0)).alloc (T #[F (w.heap.size+2) n n] 22)).alloc (T #[.func (.func 146) #[] #[Y w.heap.size,Y w1.heap.size]] 204))
  bv w1.heap.size (w.heap.size+2) n ((0:Int)::List.replicate (n-1) (-1)):=by
 obtain⟨hr,hb,hv⟩:=h;have c:=zD (i:=0) hr (I 0);refine⟨zB (zB (zR hv Zs)),zB (zI Zs),zI Zs,?_,by simp;omega,?_,by omega,d⟩
 ·rw[zB (zB c)];obtain⟨m,rfl⟩:∃m,n=m+1:=⟨n-1,by omega⟩
  simp[Qz]
 ·exact((hb.setCell Zs _).alloc Zt _).alloc Zt _
theorem vA{b:Nat}{a:Addr}(h:a.block≠b)(u:Value):(W.setCell ⟨b,i,none⟩ u).cell? a=W.cell? a:=by
 have:(W.setCell ⟨b,i,none⟩ u).heap[a.block]? =W.heap[a.block]?:=Below.heap_setCell _ _ _ _ h;unfold World.cell?;rw[this]
theorem aaT.keptObj{n:Nat}{xs:List Nat}{bv op len:Nat}{ar:Option Addr}{row:Option Nat}(h:aaT Bv Bn n xs bv bp op len i ar g W)(hg:W.grownBy W' row)
 (d:∀r,row=some r->∃o:Obj,W.heap[r]? =some o/\o.isCells=false):aaT Bv Bn n xs bv bp op len i ar g W':=by
 obtain⟨c1,c2,c3,k,c4,l⟩:=h;refine⟨cell_kept c1 hg d,cell_kept c2 hg d,cell_kept c3 hg d,k,cell_kept c4 hg d,fun j x hj=>?_⟩;obtain⟨b,o,e,c⟩:=l j x hj;exact⟨b,o,e,cell_kept c hg d⟩
theorem aaT.set{n:Nat}{xs:List Nat}{bv op len:Nat}{ar:Option Addr}{Bd:Nat}(h:aaT Bv Bn n xs bv bp op len g ar d W)(u:Value)
 (h1:Bv≠Bd) (h2:Bn≠Bd) (h3:bv≠Bd) (m:bp≠Bd) (l:∀(j x:Nat),xs[j]? =some x->∀a,ar=some a->a.block≠Bd):aaT Bv Bn n xs bv bp op len g ar d (W.setCell ⟨Bd,0,none⟩ u):=by
 obtain⟨c1,c2,c3,i,c4,k⟩:=h;refine⟨(vA h1 u).trans c1,(vA h2 u).trans c2,(vA h3 u).trans c3,i,(vA m u).trans c4,fun j x hj=>?_⟩;obtain⟨b,o,e,c⟩:=k j x hj;exact⟨b,o,e,(vA (a:=⟨b,o+j,none⟩) (l j x hj ⟨b,o,none⟩ e) u).trans c⟩
theorem jt{bv:Nat}{k:List Nat}{f:Int->Int}{c:List (List Nat)}(q:oN w C bv k f c)(hb:Below C w W){pr:List Nat}(g:c[x]? =some pr)
 (c1:A W Bv 0 (Y bv)) (c2:A W Bn 0 (I x)):
 ∃bp op len cap ar capr,aaT Bv Bn x pr bv bp op len cap ar capr W/\bp<C/\∀(j y:Nat),pr[j]? =some y->∀a,ar=some a->a.block<C:=by
 obtain⟨ov,bm,pv,nm,e0,e1,e2,ho,hm,t,hp,hl⟩:=q;obtain⟨a,cap,rfl,m⟩:=hp.form;obtain⟨b,o,a2,i,rfl,h,d,u,l⟩:=hp.row g;refine⟨b,o,c.length,cap,a2,i,⟨c1,c2,(hb.cell (p:=⟨bv,2,none⟩) hl).trans e2,(Jh.1 g).1,(hb.cell (p:=⟨b,o+x,none⟩) h).trans d,fun j y hj=>?_⟩,h,fun j y hj a e=>?_⟩
 ·obtain⟨b2,o2,e,hB,d⟩:=l j y hj;exact⟨b2,o2,e,(hb.cell (p:=⟨b2,o2+j,none⟩) hB).trans d⟩
 ·obtain⟨b2,o2,e2,hB,d⟩:=l j y hj;rw[e2] at e;cases e;exact hB
theorem qQ (w:World)(C bv n:Nat)(j5:List Nat)(f:Int->Int)(t:List (List Nat))(hC:C<=w.heap.size)(hV:oN w C bv j5 f t)(h1:1<=n)(hn:n<=2000000)
 (ns:List Nat) (n0:j5=0::ns) (k6:∀x∈ns,x<n) (o2:ns.length<=2000000) (hpl:t.length=n) (k4:∀row∈t,row.length<=4000004000000) (k0:Nat) (idom':List Int) (hD:ip t f ns k0 ((0:Int)::List.replicate (n-1) (-1)) idom'):
 G 141 #[.pointer (some ⟨bv,0,none⟩),I n] w fun e w'=>∃g,e=.returned (F g n n)/\w.heap.size<=g/\Q w' g (idom'.map (Value.int .i64)).toArray 3/\O w w':=by
 have HV:=Ja hV;have HD:=Ja hD;have HN:=Ja k6;have o0:=Ja k4;clear hV hD k6 k4;refine(callsIn_wide (n:=100)).1 (callsIn_of_wp_marks Tryz.func141 rfl trivial ?_ rfl);simp only[Tryz.ntmps141,List.size_toArray,Nq,Ow,Nat.reduceAdd,Nat.reduceSub,Array.replicate_succ,Array.replicate_zero,List.push_toArray,List.append_toArray,Op,List.cons_append];refine wpIn_wide.2 ?_
 have i0:∀W:World,W=(w.alloc (T #[.pointer (some ⟨bv,0,none⟩)] 192)).alloc (T #[I (-1)] 3)->G 145 #[F (w.heap.size+1) 1 1,I n] W fun e w1=>
  e=.returned (F (w.heap.size+2) n n)/\A w1 (w.heap.size+2) 0 (I (-1))/\N w1 (w.heap.size+2) 0/\w.heap.size+2<w1.heap.size/\Hid (Q w1 (w.heap.size+2) (List.replicate n (I (-1))).toArray 3/\O w w1/\Q w1 w.heap.size #[.pointer (some ⟨bv,0,none⟩)] 192):=by
  rintro W rfl;have m4:((w.alloc (T #[.pointer (some ⟨bv,0,none⟩)] 192)).alloc (T #[I (-1)] 3)).heap.size=w.heap.size+2:=by simp
  have hb:O w ((w.alloc (T #[.pointer (some ⟨bv,0,none⟩)] 192)).alloc (T #[I (-1)] 3)):=((Below.refl _ _).alloc (Je _) _).alloc Zs _;refine(lr _ (w.heap.size+1) 0 1 n (zA (zI Zs) Zs) h1 Zo).mono ?_;rintro e w1 ⟨rfl,hr,i5⟩;rw[m4] at hr i5 ⊢;exact⟨rfl,zA hr (by rw[List.getElem?_toArray,Nm,if_pos Zo]),zE hr,lt_of_block hr,hr,hb.trans (i5.mono Zo),zH i5 (zB (zI rfl)) Zo⟩
 have c3:∀(w1:World) (a:Addr) (u:Value) (o:Obj),(((w1.setCell a u).alloc o).alloc (T #[.nilFunc] 204)).cell? ⟨w1.heap.size+1,0,none⟩=some .nilFunc:=fun w1 a u o=>zA (zI Zs) Zs
 have f3:∀(w1:World) (a:Addr) (u:Value) (o:Obj),N (((w1.setCell a u).alloc o).alloc (T #[.nilFunc] 204)) (w1.heap.size+1) 0:=fun w1 a u o=>zE (zI Zs)
 go_wp2_with (go_at_call 145;go_must (refine(i0 _ rfl).mono ?_;rintro e w1 ⟨rfl,c0,f0,l9,HW⟩))
 refine wp_loop_ghost (fun k a W=>∃(ch:Bool) (ds:List Deferred),∃u9 g8 g6 g5 g4 g3 g2 g1 j4 j3 j2 g0 f9 f8 f7 f6 f5 f4 f2 f1 e9 e8 e7 e6 e5 e4 e3 d7 d6 d5 d4 d3 d2 c9 c8 c7 c5 c4 c2 b9 b8 b7 b6 b5:Value,a= {tmps:=#[.pointer (some ⟨bv,0,none⟩),I n,.pointer (some ⟨w.heap.size,0,none⟩),undef,.slice none 0 0,.pointer (some ⟨w1.heap.size,0,none⟩),.pointer (some ⟨w1.heap.size+1,0,none⟩),.bool ch,undef,u9,g8,g6,.slice (some ⟨w.heap.size+1,0,none⟩) 1 1,I n,.slice (some ⟨w.heap.size+2,0,none⟩) n n,.slice (some ⟨w.heap.size+2,0,none⟩) n n,.pointer (some ⟨w.heap.size+2,0,none⟩),.func (.func 146) #[] #[.pointer (some ⟨w.heap.size,0,none⟩),.pointer (some ⟨w1.heap.size,0,none⟩)],g5,g4,g3,g2,g1,j4,j3,j2,g0,f9,f8,f7,f6,f5,f4,f2,f1,e9,e8,e7,e6,e5,e4,e3,d7,d6,d5,d4,d3,d2,c9,c8,c7,c5,c4,c2,b9,b8,b7,b6,b5],defers:=ds }/\oh w.heap.size W ds/\∃idom,DomMem w W bv w1.heap.size (w.heap.size+2) n idom/\((ch=true/\ip t f ns k idom idom')∨(ch=false/\idom=idom'))) k0 ?_ ?_
 ·refine⟨true,[],_,_,_,_,_,_,_,_,_,_,_,_,_,_,_,_,_,_,_,_,_,_,_,_,_,_,_,_,_,_,_,_,_,_,_,_,_,_,_,_,_,_,_,_,rfl,⟨[],rfl,List.nodup_nil,by simp⟩,_,oH HW.out l9 h1,.inl ⟨rfl,HD.out⟩⟩
 clear HD HW c0 f0 c3 f3 i0;rintro k a W ⟨ch,ds,u9,g8,g6,g5,g4,g3,g2,g1,j4,j3,j2,g0,f9,f8,f7,f6,f5,f4,f2,f1,e9,e8,e7,e6,e5,e4,e3,d7,d6,d5,d4,d3,d2,c9,c8,c7,c5,c4,c2,b9,b8,b7,b6,b5,rfl,hM,idom,h0,l2⟩;have HM:=Ja hM;have q:=Ja h0;have i7:=Ja l2;clear hM h0 l2;have cI:=cell_of_one q.out.hi;have cV:=cell_of_one q.out.hv
 cases ch with
 |false=>
  go_wp2;obtain⟨Ds,rfl,hnd,n2⟩:=HM.out;obtain rfl:idom=idom':=i7.out.elim (fun h=>Bool.noConfusion h.1) (fun h=>h.2);refine sr w.heap.size (fun W=>Q W (w.heap.size+2) (idom.map (Value.int .i64)).toArray 3/\O w W) ?_ ?_ Ds W hnd n2 ⟨q.out.hr,q.out.hb⟩
  ·rintro W D hB hd ⟨h1,h2⟩;exact⟨zL (grownBy_putObj' W D _) h1 (by rintro e;cases e;rw[h1] at hd;cases hd),h2.grown (grownBy_putObj' W D _) h2.size (by rintro k e;cases e;exact hB)⟩
  ·rintro W ⟨h1,h2⟩
   exact⟨_,results_tmp rfl _ _ _,_,rfl,by omega,h1,h2⟩
 |true=>
  have n8:=HV.out;obtain⟨ov,bm,pv,nm,e0,e1,e2,ho,hm,p4,hp,hl⟩:=n8;obtain⟨aO,capO,rfl,n4,h8⟩:=ho;subst n0;obtain⟨b,o,rfl,q2,n5⟩:=h8 0 0 rfl;simp only[Nq] at n4 e0;have HX:=Ja h8;clear e2 hm hp h8 n5 e1;have e0:=(q.out.hb.cell (p:=⟨bv,0,none⟩) (show bv<w.heap.size by omega)).trans e0;have l1:1<=capO:=Zo;go_upto_region 7 with fail
  go_cut [23,24,25] from 18 to 25 (fun s l i wx=>wx=W/\l=I (ns.length:Int)/\i=I 0/\∃o' c',s=.slice (some ⟨b,o',none⟩) ns.length c'/\Hid (0<ns.length->o'=o+1))
  case first=>
   go_wp2
   all_goals go_meet
   ·exact⟨rfl,rfl,rfl,_,_,rfl,by unfold Hid;intro h;omega⟩
   ·exact⟨rfl,rfl,rfl,_,_,rfl,fun _=>rfl⟩
  case rest=>
   obtain⟨rfl,rfl,rfl,o',c',rfl,HO⟩:=hcut
   obtain⟨k,i1,h4,a2,h6,rfl⟩:∃k2 i1 h4,ny t f ns idom false i1 h4/\((h4=false/\idom'=i1)∨(h4=true/\ip t f ns k2 i1 idom'))/\k=k2+1:=by
    rcases i7.out with⟨_,h⟩|⟨h,_⟩
    ·cases k with
     |zero=>exact h.elim
     |succ k=>obtain⟨i1,ch,h1,h2⟩:=h;exact⟨k,i1,ch,h1,h2,rfl⟩
    ·cases h
   have a4:=Ja a2;have j1:=Ja h6;clear a2 h6 i7 cI cV;go_wp2;refine wp_loop_ghost (fun k a W=>∃(i:Nat) (ch:Bool) (ds:List Deferred),∃u9 g8 g6 g5 g4 g3 g2 g1 g0 f9 f8 f7 f6 f5 f4 f2 f1 e9 e8 e7 e6 e5 e4 e3 d7 d6 d5 d4 d3 d2 c9 c8 c7 c5 c4 c2 b9 b8 b7 b6 b5:Value,a= {tmps:=#[.pointer (some ⟨bv,0,none⟩),I n,.pointer (some ⟨w.heap.size,0,none⟩),undef,.slice none 0 0,.pointer (some ⟨w1.heap.size,0,none⟩),.pointer (some ⟨w1.heap.size+1,0,none⟩),.bool ch,undef,u9,g8,g6,.slice (some ⟨w.heap.size+1,0,none⟩) 1 1,I n,.slice (some ⟨w.heap.size+2,0,none⟩) n n,.slice (some ⟨w.heap.size+2,0,none⟩) n n,.pointer (some ⟨w.heap.size+2,0,none⟩),.func (.func 146) #[] #[.pointer (some ⟨w.heap.size,0,none⟩),.pointer (some ⟨w1.heap.size,0,none⟩)],g5,g4,g3,g2,g1,(.slice (some ⟨b,o',none⟩) ns.length c'),(I (ns.length:Int)),(I i),g0,f9,f8,f7,f6,f5,f4,f2,f1,e9,e8,e7,e6,e5,e4,e3,d7,d6,d5,d4,d3,d2,c9,c8,c7,c5,c4,c2,b9,b8,b7,b6,b5],defers:=ds }/\k+i=ns.length/\oh w.heap.size W ds/\∃idom,DomMem w W bv w1.heap.size (w.heap.size+2) n idom/\ny t f (ns.drop i) idom ch i1 h4) ns.length ?_ ?_
   ·exact⟨0,false,ds,_,_,_,_,_,_,_,_,_,_,_,_,_,_,_,_,_,_,_,_,_,_,_,_,_,_,_,_,_,_,_,_,_,_,_,_,_,_,_,_,_,rfl,rfl,HM.out,idom,q.out,a4.out⟩
   clear a4 HM q ds idom;rintro j a W ⟨i,ch,ds,u9,g8,g6,g5,g4,g3,g2,g1,g0,f9,f8,f7,f6,f5,f4,f2,f1,e9,e8,e7,e6,e5,e4,e3,d7,d6,d5,d4,d3,d2,c9,c8,c7,c5,c4,c2,b9,b8,b7,b6,b5,rfl,p9,hM,idom,h0,a2⟩;have HM:=Ja hM;have q:=Ja h0;have a4:=Ja a2;clear hM h0 a2
   by_cases p5:(i:Int)<ns.length
   ·obtain⟨x,hx⟩:∃x,ns[i]? =some x:=⟨_,Jd Zo⟩
    have p0:=HN.out x (Ji hx);obtain⟨b1,o1,n6,_,h7⟩:=HX.out (i+1) x (by simpa using hx);obtain⟨rfl,rfl⟩:b=b1/\o=o1:=by simpa using n6
    have h7:A W b (o'+i) (I x):=by
     rw[HO.out Zo,Nat.add_assoc,Nat.add_comm 1 i];exact(q.out.hb.cell (p:=⟨b,o+(i+1),none⟩) (show b<w.heap.size by omega)).trans h7
    have cV:=cell_of_one q.out.hv;have q3:w.heap.size<W.heap.size:=lt_of_block q.out.hv;have o5:w1.heap.size+1<W.heap.size:=lt_of_block q.out.hm;go_wp2_with (go_at_call 147;refine(lj _ _ _).mono ?_;rintro e w2 ⟨rfl,rfl⟩)
    have b2:ns.drop i=x::ns.drop (i+1):=by
     rw[Qn Zo]
     congr 1
     have:=Jd (l:=ns) (i:=i) Zo;rw[hx] at this;exact(Nt this).symm
    have hp:=a4.out;rw[b2] at hp;obtain⟨pr,d0,old,k1,a5,a0,h5,b3⟩:=hp;have l8:(((W.alloc (T #[I (-1)] 3)).alloc (T #[.pointer (some ⟨bv,0,none⟩)] 192)).alloc (T #[I x] 3)).heap.size=W.heap.size+3:=by simp
    have a7:DomMem w (((W.alloc (T #[I (-1)] 3)).alloc (T #[.pointer (some ⟨bv,0,none⟩)] 192)).alloc (T #[I x] 3)) bv w1.heap.size (w.heap.size+2) n idom:=
     ((q.out.kept (Uo W _ none) (fun _ e=>by cases e)).kept (Uo _ _ none) (fun _ e=>by cases e)).kept (Uo _ _ none) (fun _ e=>by cases e)
    have b4:Boxed (((W.alloc (T #[I (-1)] 3)).alloc (T #[.pointer (some ⟨bv,0,none⟩)] 192)).alloc (T #[I x] 3)) W.heap.size 3 (I (-1)):=((Boxed.new W _ _).alloc _).alloc _;have i3:KeepsFrom 0 W (((W.alloc (T #[I (-1)] 3)).alloc (T #[.pointer (some ⟨bv,0,none⟩)] 192)).alloc (T #[I x] 3)):=((uh _ _).trans (uh _ _)).trans (uh _ _);obtain⟨bp,op,len,n9,ar,m0,b0,q1,l3⟩:=jt HV.out (a7.hb.mono hC) k1 (Bv:=W.heap.size+1) (Bn:=W.heap.size+1+1) (cell_of_one (zB (zI Zs))) (cell_of_one (zI Zs));generalize (((W.alloc (T #[I (-1)] 3)).alloc (T #[.pointer (some ⟨bv,0,none⟩)] 192)).alloc (T #[I x] 3))=W4 at l8 a7 b4 i3 b0 ⊢;have m1:=Ja a5;have HC:=Ja b3;have q4:=Ja a0
    refine(wpIn_wide (n:=100)).1 (wpIn_rangeFunc_ownG rfl Zd (gf:=152) (lb:=#[.pointer (some ⟨W.heap.size+1,0,none⟩),.pointer (some ⟨W.heap.size+1+1,0,none⟩)]) rfl trivial (enters_of Tryz.func152 Zk rfl)
     (nH 99 Zd (W.heap.size+1) (W.heap.size+1+1) x pr bv bp op len n9 ar m0 (o0.out pr (Ji k1)) W4 b0) (fun h k x=>k (h x)) (fun V l o o' hl ho hc _ h=>h.keptObj (grownBy_putObj' V l o') (fun r e=>by cases e;exact⟨o,ho,hc⟩)) (Below.refl _ _) (fun _=>rfl)
     (fun pre V=>DomMem w V bv w1.heap.size (w.heap.size+2) n idom/\KeepsFrom 0 W4 V/\∃d,Boxed V W.heap.size 3 (I d)/\OkD idom d/\wi idom f (pre.map (·.1)) (-1) d) (fun _ _ _=>False)
     ?own (fun _ _ _ _ _ hs _ _=>hs) ⟨a7,KeepsFrom.refl _ _,-1,b4,.inl rfl,rfl⟩ ?a1 ?assign ?body ?done ?stop)
    case own=>
     rintro s X Y row ⟨hd,hk,d,hb,ho,hp⟩ hg hr;exact⟨hd.own hg (fun r e=>(hr r e).2) (fun r e=>by have:=(hr r e).1;omega),ownFrom_keepsFrom (β:=Unit) (Je W4.heap.size) () X Y row hk hg hr,d,hb.kept hg (fun e=>by have:=(hr _ e.symm).1;omega),ho,hp⟩
    case assign=>
     intro l x W K hK
     gi_wp2
     exact hK
    case body=>
     clear h7 b0 a7 b4 a0 a5 b3 h5 hx b2 e0 cV;rintro l pre ⟨p,hp⟩ V ⟨hd,hk,d,hb,ho,a8⟩ o4;have a6:(pre++ [(⟨p,hp⟩: {p//p∈pr})]).map (fun x=>x.1)=pre.map (fun x=>x.1)++ [p]:=by rw[Js];rfl
     have a6:=Ja a6;obtain⟨hpl,a5⟩:=m1.out p hp;obtain⟨d1,k5,i9⟩:=a5 d ho;obtain⟨x0,h9,k3⟩:=i9;have HD:=Ja hd;have HK:=Ja hk;have HB:=Ja hb;have a9:=Ja (Jb k5 (a8.snoc ⟨x0,h9,k3⟩));have cI:=cell_of_one hd.hi;have cM:=cell_of_one hd.hm;have cD:=hb.cell;have fD:=hb.frozen;have m6:p<n:=by rw[<-hd.hl];exact hpl
     have cr:A V (w.heap.size+2) p (I x0):=zA hd.hr (by simp[h9]);have p3:(p:Int)<n:=Zo;clear hd hk hb a8 ho k5 a5 h9 hpl;rcases k3 with⟨i2,rfl⟩|⟨i2,q0,rfl⟩|⟨i2,dn,rfl,n3,k2,r,j0,rfl⟩
     ·gi_wp2
      refine(show _/\_/\_ from⟨KeepsFrom.refl _ _,fun h=>h,HD.out,HK.out,_,HB.out,a9.out.1,?_⟩);rw[a6.out];exact a9.out.2
     ·gi_wp2
      refine(show _/\_/\_ from⟨(uu HB.out _).from0 _,fun h=>h.set _ Zo Zo Zo Zo (fun j y hj a e=>by have:=l3 j y hj a e;omega),HD.out.kept (grownBy_setCell' V _ _) (fun r e=>by cases e;have:=HD.out.lt;omega),HK.out.trans (uu HB.out _),_,HB.out.set _,a9.out.1,?_⟩)
      show wi idom f ((pre++ [(⟨p,hp⟩: {p//p∈pr})]).map (fun x=>x.1)) (-1) _
      rw[a6.out];exact a9.out.2
     ·have hnd:¬(dn:Int)<0:=Zo
      gi_wp2
      obtain⟨ov,bm',o9,m2,e0,e1,e2,m7,k7,o3,m5,p8⟩:=HV.out.below (HD.out.hb.mono hC);refine⟨trivial,CallsIn.inRound l (callsIn_wide.2 ((meet_any V w.heap.size w1.heap.size bv bm' m2 (w.heap.size+2) f idom (by rw[HD.out.hl];exact hn) (cell_of_one HD.out.hv) e1 k7 (by rw[HD.out.hl];exact cI) HD.out.hr k2 p dn r (by rw[HD.out.hl];exact m6) n3 j0).mono ?_))⟩;rintro e V2 ⟨rfl,m,rfl⟩;clear e0 e1 e2 m7 k7 m5
      gi_wp2
      have l7:Boxed (V.drewN m) W.heap.size 3 (I dn):=HB.out;have l0:V.grownBy (V.drewN m) none:=⟨rfl,rfl,rfl,Je _,fun _ _ _=>rfl⟩
      have k9:KeepsFrom 0 V ((V.drewN m).setCell ⟨W.heap.size,0,none⟩ (I r)):=(uW V m).trans (uu l7 _);refine(show _/\_/\_ from⟨k9.from0 _,fun h=>(h.keptObj l0 (fun r e=>by cases e)).set _ Zo Zo Zo Zo (fun j y hj a e=>by have:=l3 j y hj a e;omega),(HD.out.kept l0 (fun r e=>by cases e)).kept (grownBy_setCell' _ _ _) (fun r e=>by cases e;have:=HD.out.lt;omega),HK.out.trans k9,_,l7.set _,a9.out.1,?_⟩)
      show wi idom f ((pre++ [(⟨p,hp⟩: {p//p∈pr})]).map (fun x=>x.1)) (-1) _
      rw[a6.out];exact a9.out.2
    case done=>
     rintro D xs V hD m3 ⟨hd,hk,d,hb,ho,a8⟩ l4;rw[m3] at a8;obtain rfl:=wi.unique a8 a0;have cI:=cell_of_one hd.hi;have cD:=hb.cell;have cr:A V (w.heap.size+2) x (I old):=zA hd.hr (by simp[h5]);have fr:N V (w.heap.size+2) x:=zE hd.hr;have p1:(x:Int)<n:=Zo;have HD:=Ja hd;have l5:=Ja (HM.out.push (i3.trans hk) Zo (by have:=q.out.hb.size;omega) l4);clear hd hk hb ho a8 l4 h7 b0 a7 b4 a0 a5 b3 h5 hx b2 e0 cV;rcases HC.out with⟨rfl,a3⟩|⟨n1,a3⟩
     ·have i6:=Ja a3;clear a3;have n7:(old !=old)=false:=by simp
      go_wp2;go_quiet (fail);go_wp2;have i4:V.grownBy (V.drewN nq) none:=⟨rfl,rfl,rfl,Je _,fun _ _ _=>rfl⟩
      refine⟨j-1,by omega,i+1,ch,_,_,_,_,_,_,_,_,_,_,_,_,_,_,_,_,_,_,_,_,_,_,_,_,_,_,_,_,_,_,_,_,_,_,_,_,_,_,_,_,_,_,(by rw[Int.natCast_add];rfl),by omega,l5.out.keeps (uW V nq),idom,HD.out.kept i4 (fun r e=>by cases e),i6.out⟩
     ·have i6:=Ja a3;clear a3;have n7:(old !=d)=true:=by simpa using n1
      go_wp2;go_quiet (fail);go_wp2;have i4:V.grownBy (V.drewN nq) none:=⟨rfl,rfl,rfl,Je _,fun _ _ _=>rfl⟩
      refine⟨j-1,by omega,i+1,true,_,_,_,_,_,_,_,_,_,_,_,_,_,_,_,_,_,_,_,_,_,_,_,_,_,_,_,_,_,_,_,_,_,_,_,_,_,_,_,_,_,_,(by rw[Int.natCast_add];rfl),by omega,(l5.out.keeps (uW V nq)).keeps (uu (W:=V.drewN nq) HD.out.hr _),idom.set x d,(HD.out.kept i4 (fun r e=>by cases e)).set x d,i6.out⟩
    case stop=>
     rintro D c pre V _ _ h _;exact h.elim
   ·go_wp2;obtain rfl:i=ns.length:=by omega
    have hp:=a4.out;rw[List.drop_length] at hp;obtain⟨rfl,rfl⟩:=hp;refine⟨k,by omega,?_⟩;rcases j1.out with⟨rfl,rfl⟩|⟨rfl,h⟩
    ·exact .inl ⟨_,⟨rfl,rfl⟩,HM.out,q.out⟩
    ·exact .inr ⟨_,⟨rfl,rfl⟩,HM.out,_,q.out,h⟩
theorem cF{w':World}{base:Nat}{e:TypeId}{size n:Nat}{v:Value}{xs:List Value}(h:w.ownsRow base e size v n xs)(hb:Below C w w')(i:w.heap.size<=C):w'.ownsRow base e size v n xs:=by
 refine⟨h.1,?_⟩;rcases h.2 with h2|⟨g,d,cur,rfl,hg,c,r⟩
 ·exact .inl h2
 ·exact .inr ⟨g,d,cur,rfl,hg,zH hb c (by have:=lt_of_block c;omega),r⟩
theorem bH{base n:Nat}{e:TypeId}{xs:List Value}{x:Value}(h:w.ownsRow base e 1 (F g (n+1) c) (n+1) (xs++ [x])):w.ownsRow base e 1 (F g n c) n xs:=by
 have hl:=h.1;simp only[Jk,Ju,Nk] at hl;refine⟨by omega,.inr ?_⟩;rcases h.2 with⟨hv,_⟩|⟨g',j,cur,hv,hg,i,h1,h2,h3,d⟩
 ·cases hv
 ·cases hv;refine⟨g,c,cur,rfl,hg,i,by omega,h2,h3,?_⟩;have:(cur.toList.take (n+1)).take n=(xs++ [x]).take n:=by rw[Nk] at d;rw[d]
  rw[List.take_take,Ud Zo,List.take_append_of_le_length Zo,Oy (l:=xs) Zo] at this;rw[Nk];exact this
end Go.Proofs.YtoahcpkibpomcaaGreat
set_option maxRecDepth 8000
namespace Go.Proofs.YtoahcpkibpomcaaGreat
open Go.RowKit
variable {Bi Bn Bv C bi bp bs c d db g i j k m o5 p1 x:Nat}{t:PT}{W W' w w0 w2:World}{idom:List Int}{ds:List Deferred}{xs:List (Int×Int)}{seen:List Bool}{wv:Value}{K:MKC}{X0:Nat->Prop}{M M0:MS}{q0 q1 q2:Int}
structure FMem (w0 w:World) (bs:Nat) (seen:List Bool) (wv:Value) (work:List Nat):Prop where
 hs:w.heap[bs]? =some (.cells (seen.map zf).toArray 4 (0,0))
 hp:w.ownsRow (bs+1) 3 1 wv work.length (work.map zj)
 hb:Below bs w0 w
theorem FMem.mark{n:Nat}{work:List Nat}(h:FMem w0 w bs seen wv work):FMem w0 (w.setCell ⟨bs,n,none⟩ (.bool true)) bs (seen.set n true) wv work:=by
 obtain⟨hs,hp,hb⟩:=h;refine⟨?_,ownsRow_setCell_other hp (zC (b:=bs) hp hs (.inr Zd)) _,hb.setCell (show bs<=bs from Je _) _⟩;rw[zD hs];simp[zf,Ox]
theorem FMem.push{c:Value}{d work':List Nat}(h:FMem w0 w bs seen wv d)(o:Obj)(hg:(w.alloc o).grownBy w2 wv.ownBlock)(ho:w2.ownsRow (bs+1) 3 1 c work'.length (work'.map zj)):FMem w0 w2 bs seen c work':=by
 obtain⟨hs,hp,hb⟩:=h;have hl:=lt_of_block hs;exact⟨zL hg (zB hs) (zC (b:=bs) hp hs (.inr Zd)),ho,(hb.alloc Zo o).grown hg Zt (fun k e=>by have:=(hp.lt k e).1;omega)⟩
theorem FMem.pop{st:List Nat}(h:FMem w0 w bs seen (F g (st.length+1) c) (st++ [x])):FMem w0 w bs seen (F g st.length c) st:=by
 obtain⟨hs,hp,hb⟩:=h;simp only[Jk,Ju,Js,Ql,List.map_nil] at hp;exact⟨hs,bH hp,hb⟩
theorem dP (n:Nat):ey (List.replicate n false)=n:=by simp[ey]
def cE (w:World)(F:List Bool)(e:Ending)(w':World):Prop:=∃bs,e=.returned (.slice (some ⟨bs,0,none⟩) F.length F.length)/\w.heap.size<=bs/\Q w' bs (F.map zf).toArray 4/\O w w'
theorem from_any (w:World)(sv:Value)(g:List (List Nat))(B:Nat)(hB:B<=w.heap.size)(h:aaB zj w B sv g)(hv:zw g)(hn:g.length<=2000000)(hr:∀row∈g,row.length<=2000000)(fr:Nat)(b7:fr<g.length)(out:Int)(F:List Bool)(hF:iK g fr out F):
 G 49 #[.agg #[sv],I fr,I out] w (cE w F):=by
 obtain⟨a,c,rfl,f5⟩:=h.form;obtain⟨ii,d7,d2,d1,d0⟩:=info_parts Tryz.info_int;have cg:A (w.alloc (T #[.slice a g.length c] 105)) w.heap.size 0 (.slice a g.length c):=cell_of_one (zI rfl);have HV:=Ja hv;have HR:=Ja hr;have HF:=Ja hF;clear hv hr hF;have g4:=run_make_row' (P:=Tryz.prog) 97 4 (.bool false) 1 Tryz.underlying97 Tryz.info_bool rfl .i64 .i64 g.length Zo Zo;rcases HF.out with⟨a5,c5⟩|⟨a5,k0,c4⟩
 ·have a1:((fr:Int)==out)=true:=by simpa using a5
  have e7:=Ja c5;clear a5 c5;go_enter Tryz.func49,Tryz.ntmps49;go_wp2;go_ret
  have hs:Q ((w.alloc (T #[.slice a g.length c] 105)).alloc (T (madeCells #[.bool false] g.length) 4)) (w.heap.size+1) ((List.replicate g.length false).map zf).toArray 4:=by
   rw[zI Zs,yA];simp[zf]
  rw[e7.out];exact⟨w.heap.size+1,by rw[Qr];rfl,by omega,hs,((Below.refl _ w).alloc (Je _) _).alloc Zs _⟩
 ·have a1:((fr:Int)==out)=false:=by simpa using a5
  have e6:=Ja c4
  have b8:FMem (w.alloc (T #[.slice a g.length c] 105)) (((w.alloc (T #[.slice a g.length c] 105)).alloc (T (madeCells #[.bool false] g.length) 4)).alloc (T #[I fr] 3)) (w.heap.size+1) (List.replicate g.length false) (.slice (some ⟨w.heap.size+2,0,none⟩) 1 1) [fr]:=by
   refine⟨?_,⟨by simp,.inr ⟨w.heap.size+2,1,_,by simp,by omega,zI Zs,by simp,by decide,by simp,by simp[zj]⟩⟩,?_⟩
   ·rw[zB (zI Zs),yA];simp[zf]
   ·exact((Below.refl _ _).alloc Zs _).alloc Zs _
  have i4:=zA (i:=fr) (v:=.bool false) b8.hs (by simp[zf,Nm,b7]);have i2:=zE (i:=fr) b8.hs;have h4:(fr:Int)<g.length:=Zo
  have e5:Hid (FMem (w.alloc (T #[.slice a g.length c] 105)) (((w.alloc (T #[.slice a g.length c] 105)).alloc (T ((madeCells #[.bool false] g.length).setIfInBounds fr (.bool true)) 4)).alloc (T #[I fr] 3)) (w.heap.size+1) ((List.replicate g.length false).set fr true) (.slice (some ⟨w.heap.size+1+1,0,none⟩) 1 1) [fr]):=by
   refine⟨?_,⟨by simp,.inr ⟨w.heap.size+2,1,_,by simp,by omega,zI Zs,by simp,by decide,by simp,by simp[zj]⟩⟩,?_⟩
   ·rw[zB (zI Zs),yA];simp only[zf,Ox,List.map_replicate,Jc]
   ·exact((Below.refl _ _).alloc Zs _).alloc Zs _
  clear a5 c4 b8;go_enter Tryz.func49,Tryz.ntmps49;go_wp2
  go_loopg [8] k0 (fun k v wr=>∃seen work,Hid (FMem (w.alloc (T #[.slice a g.length c] 105)) wr (w.heap.size+1) seen v work/\aaj g out k seen work F/\seen.length=g.length/\work.length+ey seen<=2000001/\∀x∈work,x<g.length))
  case atStart=>exact⟨_,_,e5.out,e6.out,by simp,by have:=dN (seen:=List.replicate g.length false) (n:=fr) (by rw[Nm,if_pos b7]);rw[dP] at this;simp;omega,by simpa using b7⟩
  case round=>
   obtain⟨seen,work,m⟩:=hrel
   cases gk with
   |zero=>
    obtain⟨rfl,rfl⟩:=m.out.2.1;obtain⟨a0,c0,rfl⟩:=zG m.out.1.hp;simp only[Ow];go_wp2;go_ret;have hl:=m.out.2.2.1;refine⟨w.heap.size+1,by rw[hl];rfl,by omega,m.out.1.hs,?_⟩
    exact((Below.refl _ w).alloc (Je _) _).trans (m.out.1.hb.mono Zo)
   |succ k=>
    obtain⟨st,n,rfl,b6⟩:=m.out.2.1;have a6:=m.out.1;have ho:=a6.hp;simp only[Jk,Nq,Ow,Ng] at ho;obtain⟨gw,i5,rfl,g8,h0⟩:=ho.form Zo;have h6:=(zm ho).1;have f3:=(zm ho).2;have ce:A wr gw st.length (I n):=(ho.cellAt st.length Zo).trans (by simp[zj]);have d6:n<g.length:=m.out.2.2.2.2 n Zs;have g3:(n:Int)<g.length:=Zo;obtain⟨row,q⟩:∃row,g[n]? =some row:=⟨_,Jd d6⟩
    have a9:succ g n=row:=by unfold succ;rw[Jj,q];rfl
    have c3:O w wr:=((Below.refl _ w).alloc (Je _) _).trans (a6.hb.mono Zo);obtain⟨bg,og,a2,g0,rfl,h9,hc,e8,hx⟩:=(h.below (c3.mono hB)).row q;have h7:A wr w.heap.size 0 (.slice (some ⟨bg,og,none⟩) g.length c):=(a6.hb.cell (p:=⟨w.heap.size,0,none⟩) (show w.heap.size<w.heap.size+1 by omega)).trans cg;have d4:=Ja a6.pop;have d3:=Ja b6;have t:=Ja (Jb q a9);have f6:=c3;have hrl:=HR.out row (Ji q);have HW:=Ja (Jb m.out.2.2.1 m.out.2.2.2);have g6:st.length+1<=2000001:=by have:=m.out.2.2.2.1;simp only[Jk,Ju] at this;omega
    clear a6 ho b6 q a9 m;go_wp2
    go_loopw [8,10] (fun v jv wx=>∃j:Nat,j<=row.length/\jv=I j/\Hid (FMem (w.alloc (T #[.slice (some ⟨bg,og,none⟩) g.length c] 105)) wx (w.heap.size+1) ((row.take j).foldl (ua out) (seen,st)).1 v ((row.take j).foldl (ua out) (seen,st)).2)) (fun _ jv _=>row.length-(intOf jv).toNat)
    case atStart=>exact⟨0,Jt _,rfl,d4.out⟩
    case round=>
     obtain⟨j,hj,rfl,l⟩:=hrel;generalize o:(row.take j).foldl (ua out) (seen,st)=s2 at l;have y:=dS out (row.take j) (seen,st);rw[o] at y;obtain⟨sn,wk⟩:=s2
     dsimp only at l y
     have c7:=Ja (Jb o y);obtain⟨aw,cw,rfl⟩:=zG l.out.hp;have e1:O w wr:=((Below.refl _ w).alloc (Je _) _).trans (l.out.hb.mono Zo);have f4:A wr w.heap.size 0 (.slice (some ⟨bg,og,none⟩) g.length c):=(l.out.hb.cell (p:=⟨w.heap.size,0,none⟩) (show w.heap.size<w.heap.size+1 by omega)).trans cg;obtain⟨bg',og',a2',e9,e',f7,e0,_,c2⟩:=(h.below (e1.mono hB)).row t.out.1;cases e';have h8:=e0
     by_cases g5:(j:Int)<row.length
     ·obtain⟨s,b3⟩:∃s,row[j]? =some s:=⟨_,Jd Zo⟩
      have g2:s<g.length:=HV.out.2 row (Ji t.out.1) s (Ji b3);have f0:(s:Int)<g.length:=Zo;obtain⟨b2,o2,rfl,i0,e2⟩:=c2 j s b3;simp only[zj] at e2;have hl:=HW.out.1;obtain⟨b0,a8⟩:∃b0,sn[s]? =some b0:=⟨_,Jd Zo⟩
      have i3:A wr (w.heap.size+1) s (.bool b0):=zA l.out.hs (by simp[a8,zf]);have i1:N wr (w.heap.size+1) s:=zE l.out.hs
      have b1:(row.take (j+1)).foldl (ua out) (seen,st)=ua out (sn,wk) s:=by
       rw[Nh,b3,List.foldl_append,c7.out.1];rfl
      have d:=Ja (Jb b1 a8);clear b1 b3 a8 c2 y o
      by_cases u:(s:Int)=out
      ·have a1:((s:Int) !=out)=false:=by simpa using u
       have b9:=Ja u;clear u;go_wp2;go_roundw
       case rel=>
        refine⟨j+1,by omega,by simp,?_⟩;rw[d.out.1];unfold ua;rw[if_neg (fun h=>h.1 b9.out)];exact l.out
       case measure=>simp[intOf]<;>omega
      ·have a1:((s:Int) !=out)=true:=by simpa using u
       have b9:=Ja u;clear u
       cases b0 with
       |true=>
        go_wp2;go_roundw
        case rel=>
         refine⟨j+1,by omega,by simp,?_⟩;rw[d.out.1];unfold ua;rw[if_neg (fun h=>by have:=h.2;rw[d.out.2] at this;simp at this)];exact l.out
        case measure=>simp[intOf]<;>omega
       |false=>
        have d5:wk.length<=4000004:=by
         have h1:=c7.out.2.2;have h2:=HW.out.2.1;simp only[Jk,Ju] at h1 h2;omega
        have i6:=Ja d5;have f2:=(zm l.out.hp)
        have HM:=Ja (l.out.mark (n:=s));have g1:=lt_of_block l.out.hs;go_wp2_with (at_builtin;go_must (refine wpList_append_lies _ rfl (.tmp 70) (.tmp 72) 22 rfl (w.heap.size+1+1) 3 ii (I 0) 1 8 Tryz.underlying22 d7 d2 d1 d0 rfl Zd _ wk.length (wk.map zj) rfl (HM.out.hp.alloc _) ⟨wr.heap.size,0,none⟩ 1 1 [I s] rfl rfl (Oi (cs:=#[I s]) (zI Zs)) (by simp[Value.oneCell']) Zd (by unfold maxLen;omega) Zo Zt (wr.heap.size+1) Zs ?_;intro gq f9 w6 b4 a4 f8 f1;have c9:=Ja (Jb b4 a4);clear b4 a4))
        go_roundw
        case rel=>
         refine⟨j+1,by omega,by simp,?_⟩;rw[d.out.1];unfold ua;rw[if_pos ⟨b9.out,d.out.2⟩];refine HM.out.push _ c9.out.2 ?_
         simpa[zj] using c9.out.1
        case measure=>simp[intOf]<;>omega
     ·obtain rfl:j=row.length:=by omega
      rw[Nl] at o;have b5:(succ g n).foldl (ua out) (seen,st)=(sn,wk):=by rw[t.out.2];exact o
      have a3:=d3.out;rw[b5] at a3;have e3:=Ja a3;have a7:=rL out row (seen,st) (fun s hs=>by rw[HW.out.1];exact HV.out.2 row (Ji t.out.1) s hs);rw[o] at a7;have e4:=Ja a7;have c8:=Ja y;clear a3 y o b5 a7;go_wp2
      go_roundg k
      refine⟨sn,wk,l.out,e3.out,?_,?_,?_⟩
      ·rw[c8.out.1];exact HW.out.1
      ·have h1:=c8.out.2;have h2:=HW.out.2.1;simp only[Jk,Ju] at h2;omega
      ·intro x hx;rcases(e4.out.2.2.1 x).1 hx with h5|⟨h5,_⟩
       ·exact HW.out.2.2 x (by simp[h5])
       ·exact HV.out.2 row (Ji t.out.1) x h5
      exact Nat.lt_succ_self k
theorem OpSt.op(h:OpSt w0 K X0 M0 c w M)(i:M0.sz+(c+20)<=1000000):
 G 111 #[Y K.pm] w fun e w'=>e=.returned (.tuple #[])/\Hid (OpSt w0 K X0 M0 (c+20) w' (xK K.E M)):=by
 obtain⟨X,hm,hs⟩:=h.made;refine(op_any hm h.cur (by have:=h.gr.sz;omega)).mono ?_;rintro e w' ⟨rfl,X',g,d⟩;have hg:=pX K.E hm.alt M;exact⟨rfl,Ja ⟨⟨X',g,hs.trans d⟩,h.gr.trans hg.p,by rw[hg.cur,hg.len];exact h.cur⟩⟩
theorem OpSt.mono{c':Nat}(h:OpSt w0 K X0 M0 c w M)(d:c<=c'):OpSt w0 K X0 M0 c' w M:=⟨h.made,h.gr.mono d,h.cur⟩
theorem sU.of(h:∀(w:World) (K:MKC) (X:Nat->Prop) (M:MS),OpSt w K X M 0 w M->M.sz+pC d<=1000000->G 57 #[Y K.pm,I d] w (yk K X w (zp K.E d M) (.tuple #[]))):sU d:=
 fun w K X M hm hc hz=>h w K X M (OpSt.start hm hc) hz
theorem OpSt.choice(h:OpSt w0 K X0 M0 c w M)(m:d<=5)(o:sU d)(n:Nat)(nI:Int)(j:(n:Int)=nI)(k:2<=n)(g:n<=4)(q:M0.sz+(c+(31+4*pC d))<=1000000):
 G 112 #[Y K.pm,I ((d:Int)+1),I nI] w fun e w'=>e=.returned (.tuple #[])/\Hid (OpSt w0 K X0 M0 (c+(31+4*pC d)) w' (xi K.E (zp K.E d) n M)):=by
 obtain⟨X,hm,hs⟩:=h.made;rw[<-j];refine(lH m o hm h.cur k g (by have:=h.gr.sz;omega)).mono ?_;rintro e w' ⟨rfl,X',l,i⟩;have hg:=uU K.E _ _ (xw K.E hm.alt d) n g M;exact⟨rfl,Ja ⟨⟨X',l,hs.trans i⟩,h.gr.trans hg,hg.cur h.cur⟩⟩
theorem OpSt.loop(h:OpSt w0 K X0 M0 c w M)(j:d<=5)(k:sU d)(l:M0.sz+(c+(24+pC d))<=1000000):
 G 113 #[Y K.pm,I ((d:Int)+1)] w fun e w'=>e=.returned (.tuple #[])/\Hid (OpSt w0 K X0 M0 (c+(24+pC d)) w' (tH K.E (zp K.E d) M)):=by
 obtain⟨X,hm,hs⟩:=h.made;refine(loop_any j k hm h.cur (by have:=h.gr.sz;omega)).mono ?_;rintro e w' ⟨rfl,X',i,g⟩;have hg:=qg K.E _ _ (xw K.E hm.alt d) M;exact⟨rfl,Ja ⟨⟨X',i,hs.trans g⟩,h.gr.trans hg,hg.cur h.cur⟩⟩
theorem OpSt.counted(h:OpSt w0 K X0 M0 c w M)(hp:M0.pos<M.pos)(hl:M.left=M0.left)(d:6<=M0.left+M0.pos):OpSt w0 K X0 M0 c (w.setCell ⟨K.pm,8,none⟩ (I (M.left-1))) {M with left:=M.left-1 }:=by
 obtain⟨X,⟨fv,vv,l,hi⟩,hs⟩:=h.made;have h1:6<=(M.left-1)+(M.pos:Int):=Zo;have h2:=hi.setC 8 (I (M.left-1)) {M with left:=M.left-1 } vv rfl rfl hi.vown hi.v64 hi.xv hi.bnd ⟨h1,by have:=hi.lft;show M.left-1<=6;omega⟩;have g:=h.gr;exact⟨⟨X,h2.1.at,hs.trans h2.2⟩,⟨g.pos,g.sz,g.len,g.nxt,g.pre,g.cur,by have:=g.left;show M.left-1<=_;omega,fun _=>h1,g.par⟩,h.cur⟩
theorem km:sU 0:=sU.of fun w K X M h hz=>by
 have d:=Ja (Jb h hz);clear h hz
 show G 57 #[Y K.pm,I 0] w _
 go_enter Tryz.func57,Tryz.ntmps57;go_wp2_with (go_at_call 55;go_must (refine(d.out.1.take 5 Zd Zd (by have:=d.out.2;unfold pC at this;omega)).mono ?_;rintro e w1 ⟨t,ht,o,rfl,m⟩))
 go_loopw [4] (fun kv wx=>∃(kI:Int) (Mj:MS),-1<=kI/\kI<=(t:Int)/\kv=I kI/\Hid (OpSt w K X M (1+20*((t:Int)-kI).toNat) wx Mj/\qY K.E (t+1) M.tick=qY K.E (kI+1).toNat Mj/\Mj.left=M.left/\M.pos<Mj.pos)) (fun kv _=>(intOf kv+1).toNat)
 case atStart=>exact⟨_,_,by omega,by omega,rfl,Ja ⟨m.out.mono Zo,by congr 1,rfl,Nat.lt_succ_self _⟩⟩
 case round=>
  obtain⟨kI,Mj,a2,a1,rfl,c⟩:=hrel
  by_cases h0:0<=kI
  ·have q:=Ja (c.out.1.op (by have:=d.out.2;unfold pC at this;omega));go_wp2_with (go_at_call 111;go_must (refine q.out.mono ?_;rintro e w2 ⟨rfl,k⟩))
   go_roundw
   case rel=>
    have hg:=pX K.E (by obtain⟨X',hm,_⟩:=c.out.1.made;exact hm.alt) Mj;refine⟨kI-1,_,by omega,by omega,rfl,Ja ⟨k.out.mono Zo,?_,hg.left.trans c.out.2.2.1,Jy c.out.2.2.2 hg.pos⟩⟩;rw[c.out.2.1,show(kI+1).toNat=(kI-1+1).toNat+1 by omega];rfl
   case measure=>simp[intOf];omega
  ·obtain rfl:kI=-1:=by omega
   obtain⟨X',fv,vv,l,hi,hs⟩:=c.out.1.facts
   have g:6<=M.left+M.pos:=by
    obtain⟨_,_,_,_,j,_⟩:=d.out.1.facts;exact j.lft.1
   have i:=c.out.1.counted c.out.2.2.2 c.out.2.2.1 g;have c8:=hi.c8;have f8:=hi.free 8;have y:=lt_of_block hi.blk;have a0:=hi.lft;have a3:(Mj.pos:Int)<=1000000:=by have:=hi.bnd;unfold MS.sz at this;omega
   have x:IntKind.i64.wrap (Mj.left-1)=Mj.left-1:=Om _ Zo;have u:=Ja i;clear hi hs i g;go_wp2
   first|go_end0|refine bodyPost_ret (results_none rfl _ _ _) rfl ?_
   have e:zp K.E 0 M= {Mj with left:=Mj.left-1 }:=by
    show tR K.E M=_
    unfold tR;simp only;rw[o.out,c.out.2.1];rfl
   rw[e];exact u.out.ret
theorem jB(hd:d<=5)(hP:sU d):sU (d+1):=sU.of fun w K X M h hz=>by
 have a1:pC (d+1)=134+4*pC d:=rfl;rw[a1] at hz;have i:=Ja (Jb h hz);have y:=Ja hP;clear h hz hP a1;have c0:¬((d:Int)+1<1):=Zo;have c2:decide ((d:Int)+1<1)=false:=by rw[decide_eq_false_iff_not];omega
 rw[show((d+1:Nat):Int)=(d:Int)+1 from Int.natCast_succ d];go_enter Tryz.func57,Tryz.ntmps57;go_wp2_with (go_at_call 55;go_must (refine(i.out.1.take 5 Zd Zd (by have:=i.out.2;omega)).mono ?_;rintro e w1 ⟨t,ht,HT,rfl,b5⟩))
 go_loopw [4] (fun kv wx=>∃(kI:Int) (Mj:MS),-1<=kI/\kI<=(t:Int)/\kv=I kI/\Hid (OpSt w K X M (1+20*((t:Int)-kI).toNat) wx Mj/\qY K.E (t+1) M.tick=qY K.E (kI+1).toNat Mj/\Mj.left=M.left/\M.pos<Mj.pos)) (fun kv _=>(intOf kv+1).toNat)
 case atStart=>exact⟨_,_,by omega,by omega,rfl,Ja ⟨b5.out.mono Zo,by congr 1,rfl,Nat.lt_succ_self _⟩⟩
 case round=>
  obtain⟨kI,Mj,b9,b8,rfl,m⟩:=hrel
  by_cases h0:0<=kI
  ·have HO:=Ja (m.out.1.op (by have:=i.out.2;omega));go_wp2_with (go_at_call 111;go_must (refine HO.out.mono ?_;rintro e w2 ⟨rfl,b4⟩))
   go_roundw
   case rel=>
    have hg:=pX K.E (by obtain⟨X',hm,_⟩:=m.out.1.made;exact hm.alt) Mj;refine⟨kI-1,_,by omega,by omega,rfl,Ja ⟨b4.out.mono Zo,?_,hg.left.trans m.out.2.2.1,Jy m.out.2.2.2 hg.pos⟩⟩;rw[m.out.2.1,show(kI+1).toNat=(kI-1+1).toNat+1 by omega];rfl
   case measure=>simp[intOf];omega
  ·obtain rfl:kI=-1:=by omega
   obtain⟨X',fv,vv,l,hi,hs⟩:=m.out.1.facts
   have a5:6<=M.left+M.pos:=by
    obtain⟨_,_,_,_,a8,_⟩:=i.out.1.facts;exact a8.lft.1
   have a0:=m.out.1.counted m.out.2.2.2 m.out.2.2.1 a5;have c8:=hi.c8;have f8:=hi.free 8;have b7:=lt_of_block hi.blk;have a7:=hi.lft;have a9:(Mj.pos:Int)<=1000000:=by have:=hi.bnd;unfold MS.sz at this;omega
   have a6:IntKind.i64.wrap (Mj.left-1)=Mj.left-1:=Om _ Zo;obtain⟨M2,u⟩:∃M2:MS,{Mj with left:=Mj.left-1 }=M2:=⟨_,rfl⟩
   rw[u] at a0
   have e2:tR K.E M=M2:=by
    rw[<-u];unfold tR;simp only;rw[HT.out,m.out.2.1];rfl
   have c3:=World.cell?_setCell_same _ _ (I (Mj.left-1)) c8;have a4:Mj.left-1=M2.left:=by rw[<-u]
   have o:=Ja (Jb (a0.mono (show 1+20*((t:Int) - -1).toNat<=101 by omega)) (Jb e2 a4));clear hi hs a0 a5 u e2 a4;go_upto_region 5 with fail;generalize b0:wr.setCell ⟨K.pm,8,none⟩ (I (Mj.left-1))=W2 at *;generalize hL:Mj.left-1=L at *;clear c8 f8 a6 a7 a9 b0 hL m
   by_cases x:L<1
   ·have b1:decide (L<1)=true:=by rw[decide_eq_true_iff];exact x
    go_wp2
    first|go_end0|refine bodyPost_ret (results_none rfl _ _ _) rfl ?_
    have e:zp K.E (d+1) M=M2:=by
     unfold zp;simp only;rw[o.out.2.1,if_pos (by rw[<-o.out.2.2];exact x)]
    rw[e];exact o.out.1.ret
   ·have b1:decide (L<1)=false:=by rw[decide_eq_false_iff_not];exact x
    have a3:zp K.E (d+1) M=if tkV K.E M2 5=1∨tkV K.E M2 5=2 then xi K.E (zp K.E d) 2 M2.tick else if tkV K.E M2 5=3 then tH K.E (zp K.E d) M2.tick else if tkV K.E M2 5=4 then xi K.E (zp K.E d) (2+tkV K.E M2.tick 3) M2.tick.tick else M2.tick:=by
     conv=>lhs;unfold zp
     simp only;rw[o.out.2.1,if_neg (by rw[<-o.out.2.2];exact x)]
    have q:=Ja a3;clear a3;have a2:=aaE K.E M2 (n:=5) Zo;obtain⟨k,hk⟩:∃k,tkV K.E M2 5=k:=⟨_,rfl⟩
    rw[hk] at a2;have c:=Ja hk;clear hk
    match k,a2,c with
    |0,_,c=>
     go_wp2_with (go_at_call 55;go_must (refine(o.out.1.takeK 5 0 0 rfl c.out Zd Zd (by have:=i.out.2;omega)).mono ?_;rintro e w3 ⟨rfl,g⟩))
     first|go_end0|refine bodyPost_ret (results_none rfl _ _ _) rfl ?_
     rw[q.out,c.out]
     exact g.out.ret
    |1,_,c=>
     go_wp2_with (first|(go_at_call 55;go_must (refine(o.out.1.takeK 5 1 1 rfl c.out Zd Zd (by have:=i.out.2;omega)).mono ?_;rintro e w3 ⟨rfl,g⟩))|(go_at_call 112;go_must (refine(g.out.choice hd y.out 2 2 rfl Zd Zd (by have:=i.out.2;omega)).mono ?_;rintro e w4 ⟨rfl,j⟩)))
     first|go_end0|refine bodyPost_ret (results_none rfl _ _ _) rfl ?_
     rw[q.out,c.out]
     exact j.out.ret
    |2,_,c=>
     go_wp2_with (first|(go_at_call 55;go_must (refine(o.out.1.takeK 5 2 2 rfl c.out Zd Zd (by have:=i.out.2;omega)).mono ?_;rintro e w3 ⟨rfl,g⟩))|(go_at_call 112;go_must (refine(g.out.choice hd y.out 2 2 rfl Zd Zd (by have:=i.out.2;omega)).mono ?_;rintro e w4 ⟨rfl,j⟩)))
     first|go_end0|refine bodyPost_ret (results_none rfl _ _ _) rfl ?_
     rw[q.out,c.out]
     exact j.out.ret
    |3,_,c=>
     go_wp2_with (first|(go_at_call 55;go_must (refine(o.out.1.takeK 5 3 3 rfl c.out Zd Zd (by have:=i.out.2;omega)).mono ?_;rintro e w3 ⟨rfl,g⟩))|(go_at_call 113;go_must (refine(g.out.loop hd y.out (by have:=i.out.2;omega)).mono ?_;rintro e w4 ⟨rfl,j⟩)))
     first|go_end0|refine bodyPost_ret (results_none rfl _ _ _) rfl ?_
     rw[q.out,c.out]
     exact j.out.ret
    |4,_,c=>
     have HG:=Ja o.out.1;go_wp2_with (first|(go_at_call 55;refine(HG.out.takeK 5 4 4 rfl c.out Zd Zd (by have:=i.out.2;omega)).mono ?_;clear HG;rintro e w3 ⟨rfl,g⟩)|(go_at_call 55;refine(g.out.take 3 Zd Zd (by have:=i.out.2;omega)).mono ?_;clear g;rintro e w4 ⟨z,b6,b2,rfl,j⟩)|(go_at_call 112;refine(j.out.choice hd y.out (2+z) (2+(z:Int)) Zo Zo Zo (by have:=i.out.2;omega)).mono ?_;rintro e w5 ⟨rfl,b3⟩))
     first|go_end0|refine bodyPost_ret (results_none rfl _ _ _) rfl ?_
     rw[q.out,c.out,b2.out]
     exact b3.out.ret
    |k+5,h,_=>exact absurd h Zo
theorem pW:∀d,d<=5->sU d
 |0,_=>km
 |d+1,h=>jB Zo (pW d Zo)
theorem vF{α:Type}{sz:Nat}{R:World->Nat->Nat->Nat->α->Prop}{B:Nat}{v:Value}{xs:List α}(h:yN sz R w B v xs){x:α}(c:x∈xs):∃b o,R w B b o x:=by
 obtain⟨k,hk⟩:=Ny c;obtain⟨a,d,rfl,_,_,h3⟩:=h;obtain⟨b,o,_,_,hr⟩:=h3 k x hk;exact⟨b,_,hr⟩
theorem rI{B:Nat}{v:Value}{xs:List Int}(h:zY w B v xs):∀x∈xs,I64 x:=fun x hx=>by
 obtain⟨b,o,hr⟩:=vF h hx;exact hr.2
theorem ProgIn.p64{B:Nat}{V:PV}{p:IProg}(h:ProgIn w B V p):P64 p:=by
 refine⟨fun f hf b hb=>?_,rI h.args,fun o ho=>?_,fun s hs=>?_,h.ent,h.hnd⟩
 ·obtain⟨x,y,bv,_,d⟩:=vF h.funcs hf;obtain⟨x,y,_,_,h3,pv,ov,tv,_,_,_,j,i,g⟩:=vF d hb;refine⟨rI j,fun o ho=>?_,h3,fun e he=>?_⟩
  ·obtain⟨x,y,_,_,_,_,_,k,av,_,c⟩:=vF i ho;exact⟨k,rI c⟩
  ·obtain⟨x,y,_,h2,av,_,c⟩:=vF g he;exact⟨h2,rI c⟩
 ·obtain⟨x,y,_,_,_,l⟩:=vF h.data ho;exact l
 ·obtain⟨x,y,h1,h2⟩:=vF h.banks hs;exact h2
theorem Tryz.info_obj:(Tryz.prog.info? 89).map (fun i=>(i.zero,i.size,i.bytes))=some (some (.agg #[I 0,U 0,U 0]),3,16):=by kernel_rfl
theorem Tryz.info_str:(Tryz.prog.info? 9).map (fun i=>(i.zero,i.size,i.bytes))=some (some (.string ⟨#[]⟩),1,16):=by kernel_rfl
theorem oe{α:Type}{sz:Nat}{R:World->Nat->Nat->Nat->α->Prop}{f:α->List Value}(c:0<sz)(hf:∀a,(f a).length=sz)(h1:∀a,∀u∈f a,u.oneCell'=true){B:Nat}{v:Value}{xs:List α}(h:yN sz R w B v xs)
 (hR:∀b q x,R w B b q x->∀j u,(f x)[j]? =some u->A w b (q+j) u):yM w sz v xs.length (xs.flatMap f):=by
 obtain⟨a,m,rfl,h2,h3,l⟩:=h;refine⟨a,m,rfl,wq f sz hf xs,fun u hu=>?_,?_⟩
 ·obtain⟨x,_,t⟩:=Qx.1 hu;exact h1 x u t
 ·cases xs with
  |nil=>
   cases a with
   |none=>exact .inl ⟨rfl,rfl⟩
   |some ad=>exact .inr ⟨ad,rfl,fun j u hu=>by simp at hu⟩
  |cons x xs=>
   obtain⟨b,o,rfl,_,_⟩:=l 0 x rfl;refine .inr ⟨_,rfl,fun j u hu=>?_⟩
   have i:j<(x::xs).length*sz:=by
    have:=(Jh.1 hu).1;rw[wq f sz hf] at this;exact this
   have hk:j/sz<(x::xs).length:=by
    rw[Nat.div_lt_iff_lt_mul c];exact i
   obtain⟨y,d⟩:∃y,(x::xs)[j/sz]? =some y:=⟨_,Jd hk⟩
   obtain⟨b',o',e,_,hr⟩:=l (j/sz) y d;cases e;have hm:=Qj j c;have hj:j=(j/sz)*sz+j%sz:=by rw[Nat.mul_comm];exact(Nat.div_add_mod j sz).symm
   have g:(f y)[j%sz]? =some u:=by
    have k:=uB f sz hf (x::xs) (j/sz) y d (j%sz) hm;rw[<-hj] at k;rw[<-k];exact hu
   have h6:=hR _ _ _ hr (j%sz) u g
   have e2:(⟨b,o,none⟩:Addr).add j=⟨b,o+j,none⟩:=by
    unfold Addr.add
    split
    ·rename_i h0;rw[h0];rfl
    ·rfl
   rw[e2,show o+j=o+(j/sz)*sz+j%sz by omega];exact h6
theorem kQ:∀(w:World) (B b q:Nat) (x:IObj),ObjR w B b q x->∀(j:Nat) (u:Value),(xP x)[j]? =some u->A w b (q+j) u:=fun w B b q x h j u hj=>by
 obtain⟨c,h1,h2,_⟩:=h
 match j,hj with
 |0,hj=>cases hj;exact c
 |1,hj=>cases hj;exact h1
 |2,hj=>cases hj;exact h2
 |j+3,hj=>simp[xP] at hj
theorem strs_src{B:Nat}{v:Value}{xs:List ByteArray}(h:adu w B v xs):yM w 1 v xs.length (xs.map .string):=by
 have h1:=oe (f:=fun s:ByteArray=> [Value.string s]) (sz:=1) Zd (fun _=>rfl) (fun a u hu=>by rw[Jo] at hu;subst hu;rfl) h (fun b q x hx j u hj=>by
  match j,hj with
  |0,hj=>cases hj;exact hx.1
  |j+1,hj=>simp at hj)
 rw[<-Qh] at h1;exact h1
theorem vz{B r2:Nat}{cs:Array Value}{u:Value}(h:Rows w B t.rows)(h2:Q w r2 cs 29):Rows (w.setCell ⟨r2,i,none⟩ u) B t.rows:=by
 refine h.keep fun k hk=>Below.heap_setCell _ _ _ _ (fun e=>?_)
 obtain⟨x,d,c⟩:=Nj.1 hk;have e':k=r2:=e;subst e';exact zC (h.own x d) h2 (.inr (vr x d)) c
def pt0 (en hn:Int):PT:=⟨[],L,[],L,[],L,[],L,en,hn⟩
theorem pt0_rows{B:Nat}{en c:Int}:Rows w B (pt0 en c).rows:=by
 show Rows w B [wY (L) [],zP (L) [],vK (L) [],v8 (L) []]
 refine(((Rows.nil.cons (Jv _ _ _ _) ?_).cons (Jv _ _ _ _) ?_).cons (Jv _ _ _ _) ?_).cons (Jv _ _ _ _) ?_
 all_goals (intro g e;simp[Row.blk,v8,vK,zP,wY,Value.ownBlock] at e)
structure SmallP (p:IProg):Prop where
 fn:p.funcs.length<=2000000/\∀f∈p.funcs,vZ f/\jx f
 ar:p.args.length<=2000000
 da:p.data.length<=2000000
 ba:p.banks.length<=2000000
theorem own_any{V:PV}{p:IProg}(hp:ProgIn w w.heap.size V p)(hs:SmallP p):
 G 18 #[yH V p] w (fun e w'=>∃t:PT,e=.returned (yH t.V p)/\t.prog=p/\Rows w' w.heap.size t.rows/\O w w'):=by
 obtain⟨fa,fc,e9,m0,l8⟩:=hp.funcs.form;obtain⟨aa,ac,f3,n0,m6⟩:=hp.args.form;obtain⟨da,dc,f0,m3,m1⟩:=hp.data.form;obtain⟨ba,bc,f1,i9,m4⟩:=hp.banks.form;obtain⟨p1,c8⟩:∃p1,w.heap.size=p1:=⟨_,rfl⟩
 have l9:=hs.fn.1;have m7:=hs.ar;have m2:=hs.da;have f2:=hs.ba;have i3:ProgIn w w.heap.size ⟨.slice fa p.funcs.length fc,.slice aa p.args.length ac,.slice da p.data.length dc,.slice ba p.banks.length bc⟩ p:=⟨by show iS _ _ _ _;rw[<-e9];exact hp.funcs,by show zY _ _ _ _;rw[<-f3];exact hp.args,by show kq _ _ _ _;rw[<-f0];exact hp.data,by show adu _ _ _ _;rw[<-f1];exact hp.banks,hp.ent,hp.hnd⟩
 have HP:=Ja (Jb i3 (Jb hs (Jb c8 (Jb e9 (Jb f3 (Jb f0 f1))))));unfold yH;rw[e9,f3,f0,f1];clear hp i3 hs e9 f3 f0 f1;have j1:O w (((w.alloc (T (R p fa fc aa ac da dc ba bc) 29)).alloc (T #[L,L,I 0,I 0,L,L] 29)).alloc (T #[L,L,I p.entry,I p.handler,L,L] 29)):=(((Below.refl _ _).alloc (Je _) _).alloc Zs _).alloc Zt _;have f4:=zB (o:=T #[L,L,I p.entry,I p.handler,L,L] 29) (zB (o:=T #[L,L,I 0,I 0,L,L] 29) (zI (W:=w) (o:=T (R p fa fc aa ac da dc ba bc) 29) rfl));have e1:=zB (o:=T #[L,L,I p.entry,I p.handler,L,L] 29) (zI (W:=w.alloc (T (R p fa fc aa ac da dc ba bc) 29)) (o:=T #[L,L,I 0,I 0,L,L] 29) rfl);have e0:=zI (W:=(w.alloc (T (R p fa fc aa ac da dc ba bc) 29)).alloc (T #[L,L,I 0,I 0,L,L] 29)) (o:=T #[L,L,I p.entry,I p.handler,L,L] 29) rfl;have i1:(w.alloc (T (R p fa fc aa ac da dc ba bc) 29)).heap.size=w.heap.size+1:=by simp
 have i0:((w.alloc (T (R p fa fc aa ac da dc ba bc) 29)).alloc (T #[L,L,I 0,I 0,L,L] 29)).heap.size=w.heap.size+1+1:=by simp
 rw[i1] at e1;rw[i0] at e0;clear i1 i0;go_enter Tryz.func18,Tryz.ntmps18;go_upto_region 2 with fail;generalize f9:((w.alloc (T (R p fa fc aa ac da dc ba bc) 29)).alloc (T #[L,L,I 0,I 0,L,L] 29)).alloc (T #[L,L,I p.entry,I p.handler,L,L] 29)=W1 at *;rw[c8] at f4 e1 e0;generalize k1:p1+1+1=q3 at *;generalize k0:p1+1=r2 at *;have f8:p1<r2/\r2<q3:=Zo;obtain⟨t0,f5⟩:∃t0,pt0 p.entry p.handler=t0:=⟨_,rfl⟩
 have c5:OwMid w p1 r2 q3 ⟨.slice fa p.funcs.length fc,.slice aa p.args.length ac,.slice da p.data.length dc,.slice ba p.banks.length bc⟩ p t0 W1:=⟨f4,e1,by rw[<-f5];exact e0,by rw[<-c8];exact j1,by rw[<-f5];exact pt0_rows,f8⟩
 have d4:=Ja f5;clear j1 f4 e1 e0 f9 k1 k0 f8;have c2:=HP.out.1;have a1:O w W1:=by rw[c8];exact c5.bel
 have a9:yM W1 1 (.slice aa p.args.length ac) (p.args.length) (p.args.map zN):=zY.src (c2.args.below zO a1);have qc:=zA (i:=1) c5.h3 rfl;have qs:A W1 q3 1 (L):=by rw[qc];rw[<-d4.out];rfl
 have ql:=lt_of_block c5.h3;have pc:=zA (i:=1) c5.h1 rfl;have pl:=lt_of_block c5.h1;have c9:=c5.sz;have g5:=Ja (Jb c5 a9);have b7:W1.ownsRow p1 3 1 (L) 0 []:=Jv _ _ _ _;obtain⟨ij,b8,a5,a4,a3⟩:=info_parts Tryz.info_int;clear c5 a9 c2 a1 qc;go_upto_region 3 with(at_builtin;go_must (refine zK _ rfl (.tmp 11) (.tmp 13) 22 rfl p1 3 ij (I 0) 1 8 Tryz.underlying22 b8 a5 a4 a3 rfl Zd (L) 0 [] rfl b7 (.slice aa p.args.length ac) (p.args.length) (p.args.map zN) rfl g5.out.2 (by unfold maxLen;omega) Zo Zo ?_;intro v9 w9 d g h;obtain⟨a0,y,rfl⟩:=zG d;have a2:=zL g g5.out.1.h3 (by simp[Value.ownBlock]);have d1:=zA (i:=1) a2 rfl;have d0:N w9 q3 1:=zE a2;have c7:=lt_of_block a2;have l:=Ja (Jb d (Jb g h));clear d g h a2))
 have d:=l.out.1;have h:=l.out.2.2;rw[Ng,Op] at d;rw[Ng] at h;obtain⟨t1,e6⟩:∃t1:PT,{t0 with args:=p.args,av:=.slice a0 (p.args.length) y }=t1:=⟨_,rfl⟩
 have c4:OwMid w p1 r2 q3 ⟨.slice fa p.funcs.length fc,.slice aa p.args.length ac,.slice da p.data.length dc,.slice ba p.banks.length bc⟩ p t1 (w9.setCell ⟨q3,1,none⟩ (.slice a0 (p.args.length) y)):=by
  rw[<-e6];refine g5.out.1.grow (r:=zP t0.av t0.args) (r':=zP (.slice a0 (p.args.length) y) (p.args)) (ns:=[]) (rs:=wY t0.fv t0.funcs::vK t0.dv t0.data::v8 t0.bv t0.banks::t0.funcs.flatMap FT.rows) ?_ (Below.refl _ _) Rows.nil ?_ d (fun x e=>?_) ?_ rfl
  ·classical
   unfold PT.rows;refine Jp.2 fun r=>?_
   simp only[Nb,Nf,Op];omega
  ·rw[show(zP t0.av t0.args).blk=none by rw[<-d4.out];rfl];exact l.out.2.1
  ·rcases h with e2|e2
   ·have e3:=e2.symm.trans e;simp[Value.ownBlock] at e3
   ·right;have e3:=e2.symm.trans e;simp at e3;omega
  ·classical
   unfold PT.rows;refine Jp.2 fun r=>?_
   simp only[Nb,Nf,Op];omega
 generalize f9:w9.setCell ⟨q3,1,none⟩ (.slice a0 (p.args.length) y)=V1 at *;rw[<-d4.out] at e6;have g2:=Ja e6;clear l d h f9 d1 d0 c7 qs ql pc pl b7 c9 e6 b8 a5 a4 a3 ij;have c2:=HP.out.1;have a1:O w V1:=by rw[c8];exact c4.bel
 have a9:yM V1 3 (.slice da p.data.length dc) (p.data.length) (p.data.flatMap xP):=oe (f:=xP) Zd sk (by simp[xP,Value.oneCell']) (c2.data.below tZ a1) (fun b q x hx=>kQ _ _ b q x hx);have qc:=zA (i:=4) c4.h3 rfl;have qs:A V1 q3 4 (L):=by rw[qc];rw[<-g2.out];rfl
 have ql:=lt_of_block c4.h3;have pc:=zA (i:=4) c4.h1 rfl;have pl:=lt_of_block c4.h1;have c9:=c4.sz;have g4:=Ja (Jb c4 a9);have b7:V1.ownsRow p1 89 3 (L) 0 []:=Jv _ _ _ _;obtain⟨ij,b8,a5,a4,a3⟩:=info_parts Tryz.info_obj;clear c4 a9 c2 a1 qc;go_upto_region 4 with(at_builtin;go_must (refine zK _ rfl (.tmp 17) (.tmp 19) 26 rfl p1 89 ij (.agg #[I 0,U 0,U 0]) 3 16 Tryz.underlying26 b8 a5 a4 a3 rfl Zd (L) 0 [] rfl b7 (.slice da p.data.length dc) (p.data.length) (p.data.flatMap xP) rfl g4.out.2 (by unfold maxLen;omega) Zo Zo ?_;intro v9 w9 d g h;obtain⟨a7,a6,rfl⟩:=zG d;have a2:=zL g g4.out.1.h3 (by simp[Value.ownBlock]);have d1:=zA (i:=4) a2 rfl;have d0:N w9 q3 4:=zE a2;have c7:=lt_of_block a2;have l:=Ja (Jb d (Jb g h));clear d g h a2))
 have d:=l.out.1;have h:=l.out.2.2;rw[Ng,Op] at d;rw[Ng] at h;obtain⟨t2,e5⟩:∃t2:PT,{t1 with data:=p.data,dv:=.slice a7 (p.data.length) a6 }=t2:=⟨_,rfl⟩
 have c3:OwMid w p1 r2 q3 ⟨.slice fa p.funcs.length fc,.slice aa p.args.length ac,.slice da p.data.length dc,.slice ba p.banks.length bc⟩ p t2 (w9.setCell ⟨q3,4,none⟩ (.slice a7 (p.data.length) a6)):=by
  rw[<-e5];refine g4.out.1.grow (r:=vK t1.dv t1.data) (r':=vK (.slice a7 (p.data.length) a6) (p.data)) (ns:=[]) (rs:=wY t1.fv t1.funcs::zP t1.av t1.args::v8 t1.bv t1.banks::t1.funcs.flatMap FT.rows) ?_ (Below.refl _ _) Rows.nil ?_ d (fun x e=>?_) ?_ rfl
  ·classical
   unfold PT.rows;refine Jp.2 fun r=>?_
   simp only[Nb,Nf,Op];omega
  ·rw[show(vK t1.dv t1.data).blk=none by rw[<-g2.out];rfl];exact l.out.2.1
  ·rcases h with e2|e2
   ·have e3:=e2.symm.trans e;simp[Value.ownBlock] at e3
   ·right;have e3:=e2.symm.trans e;simp at e3;omega
  ·classical
   unfold PT.rows;refine Jp.2 fun r=>?_
   simp only[Nb,Nf,Op];omega
 generalize k4:w9.setCell ⟨q3,4,none⟩ (.slice a7 (p.data.length) a6)=V2 at *;rw[<-g2.out] at e5;have g1:=Ja e5;clear l d h k4 d1 d0 c7 qs ql pc pl b7 c9 e5 b8 a5 a4 a3 ij;have c2:=HP.out.1;have a1:O w V2:=by rw[c8];exact c3.bel
 have a9:yM V2 1 (.slice ba p.banks.length bc) (p.banks.length) (p.banks.map .string):=strs_src (c2.banks.below tN a1);have qc:=zA (i:=5) c3.h3 rfl;have qs:A V2 q3 5 (L):=by rw[qc];rw[<-g1.out];rfl
 have ql:=lt_of_block c3.h3;have pc:=zA (i:=5) c3.h1 rfl;have pl:=lt_of_block c3.h1;have c9:=c3.sz;have g3:=Ja (Jb c3 a9);have b7:V2.ownsRow p1 9 1 (L) 0 []:=Jv _ _ _ _;obtain⟨ij,b8,a5,a4,a3⟩:=info_parts Tryz.info_str;clear c3 a9 c2 a1 qc;go_upto_region 5 with(at_builtin;go_must (refine zK _ rfl (.tmp 23) (.tmp 25) 27 rfl p1 9 ij (.string ⟨#[]⟩) 1 16 Tryz.underlying27 b8 a5 a4 a3 rfl Zd (L) 0 [] rfl b7 (.slice ba p.banks.length bc) (p.banks.length) (p.banks.map .string) rfl g3.out.2 (by unfold maxLen;omega) Zo Zo ?_;intro v9 w9 d g h;obtain⟨a8,rc3,rfl⟩:=zG d;have a2:=zL g g3.out.1.h3 (by simp[Value.ownBlock]);have d1:=zA (i:=5) a2 rfl;have d0:N w9 q3 5:=zE a2;have c7:=lt_of_block a2;have l:=Ja (Jb d (Jb g h));clear d g h a2))
 have d:=l.out.1;have h:=l.out.2.2;rw[Ng,Op] at d;rw[Ng] at h;obtain⟨t3,e4⟩:∃t3:PT,{t2 with banks:=p.banks,bv:=.slice a8 (p.banks.length) rc3 }=t3:=⟨_,rfl⟩
 have i5:OwMid w p1 r2 q3 ⟨.slice fa p.funcs.length fc,.slice aa p.args.length ac,.slice da p.data.length dc,.slice ba p.banks.length bc⟩ p t3 (w9.setCell ⟨q3,5,none⟩ (.slice a8 (p.banks.length) rc3)):=by
  rw[<-e4];refine g3.out.1.grow (r:=v8 t2.bv t2.banks) (r':=v8 (.slice a8 (p.banks.length) rc3) (p.banks)) (ns:=[]) (rs:=wY t2.fv t2.funcs::zP t2.av t2.args::vK t2.dv t2.data::t2.funcs.flatMap FT.rows) ?_ (Below.refl _ _) Rows.nil ?_ d (fun x e=>?_) ?_ rfl
  ·classical
   unfold PT.rows;refine Jp.2 fun r=>?_
   simp only[Nb,Nf,Op];omega
  ·rw[show(v8 t2.bv t2.banks).blk=none by rw[<-g1.out];rfl];exact l.out.2.1
  ·rcases h with e2|e2
   ·have e3:=e2.symm.trans e;simp[Value.ownBlock] at e3
   ·right;have e3:=e2.symm.trans e;simp at e3;omega
  ·classical
   unfold PT.rows;refine Jp.2 fun r=>?_
   simp only[Nb,Nf,Op];omega
 generalize k3:w9.setCell ⟨q3,5,none⟩ (.slice a8 (p.banks.length) rc3)=V3 at *;rw[<-g1.out] at e4;have k5:=Ja e4;clear l d h k3 d1 d0 c7 qs ql pc pl b7 c9 e4 b8 a5 a4 a3 ij
 have d5:t3.funcs=[]/\t3.fv=L/\t3.args=p.args/\t3.data=p.data/\t3.banks=p.banks/\t3.entry=p.entry/\t3.handler=p.handler/\t3.av=.slice a0 p.args.length y/\t3.dv=.slice a7 p.data.length a6/\t3.bv=.slice a8 p.banks.length rc3:=by
  rw[<-k5.out];exact⟨rfl,rfl,rfl,rfl,rfl,rfl,rfl,rfl,rfl,rfl⟩
 have d4:=Ja (show OwMid w p1 r2 q3 ⟨.slice fa p.funcs.length fc,.slice aa p.args.length ac,.slice da p.data.length dc,.slice ba p.banks.length bc⟩ p {t3 with funcs:=[],fv:=L } V3/\([]:List FT).map FT.fn=p.funcs.take 0 from⟨by
  have e:({t3 with funcs:=[],fv:=L }:PT)=t3:=by
   obtain⟨x1,x2,x3,x4,x5,x6,x7,x8,x9,k9⟩:=t3;obtain⟨h1,h2,_⟩:=d5;simp only at h1 h2;rw[h1,h2]
  rw[e]
  exact i5,rfl⟩)
 have m:=Ja d5;clear i5 d5;go_wp2
 go_loopw [4] (fun kv wx=>∃(k:Nat) (fl:List FT) (ga:Option Addr) (gc:Nat),k<=p.funcs.length/\kv=I k/\Hid (OwMid w p1 r2 q3 ⟨.slice fa p.funcs.length fc,.slice aa p.args.length ac,.slice da p.data.length dc,.slice ba p.banks.length bc⟩ p {t3 with funcs:=fl,fv:=.slice ga k gc } wx/\fl.map FT.fn=p.funcs.take k)) (fun kv _=>p.funcs.length-(intOf kv).toNat)
 case atStart=>exact⟨0,[],none,0,Jt _,rfl,d4⟩
 case round=>
  obtain⟨k,fl,ga,gc,hk,rfl,j⟩:=hrel;have c0:A wr p1 0 (.slice fa p.funcs.length fc):=zA (i:=0) j.out.1.h1 rfl;have cl:=lt_of_block j.out.1.h1
  by_cases f7:k<p.funcs.length
  ·have j4:(k:Int)<(p.funcs.length:Int):=Zo;obtain⟨f,hf⟩:∃f,p.funcs[k]? =some f:=⟨_,Jd f7⟩
   have a1:O w wr:=by rw[HP.out.2.2.1];exact j.out.1.bel
   have i7:=HP.out.1.funcs.below vR a1;obtain⟨bb,bo,k2,m5,bv,i9,f2⟩:=i7.get hf;rw[Nk] at i9;obtain⟨xa,xc,rfl,_,_⟩:=f2.form;subst k2;have f6:=HP.out.2.1.fn.2 f (Ji hf);have j2:=a1.size;have k7:bb<wr.heap.size:=Zo;have i4:∀W,O wr W->G 44 #[.agg #[.slice xa f.length xc]] W (fun e w'=>∃(ft:FT) (a:Option Addr) (n c:Nat),ft.bv=.slice a n c/\e=.returned (.agg #[.slice a n c])/\ft.fn=f/\Rows w' W.heap.size ft.rows/\O W w'):=fun W hW=>mA (f2.below yT (hW.mono j2)) (Jn j2 hW.size) f6.1 f6.2
   have q0:=zA (i:=0) j.out.1.h3 rfl;have qf:N wr q3 0:=zE j.out.1.h3;have ql:=lt_of_block j.out.1.h3;have j3:=Ja (Jb i4 hf);clear i4 hf f6 i7 f2 a1;go_upto_region 8 with fail
   have d6:fl.length=k:=by
    have h1:=congrArg List.length j.out.2;rw[Nr,Oc] at h1;omega
   have e7:wr.ownsRow p1 39 1 (.slice ga k gc) k (fl.map (·.bv)):=by
    have h1:=j.out.1.rows.own (wY (.slice ga k gc) fl) (.head _);unfold wY at h1;simp only at h1;rw[d6] at h1;exact h1
   have HO:=Ja (Jb e7 d6);have c9:=j.out.1.sz;obtain⟨ij,b8,a5,a4,a3⟩:=info_parts Tryz.info_irfunc;clear e7 d6
   go_region_law (first|(refine yG (by rfl) (.tmp 36) (.tmp 43) _ (by rfl) p1 39 ij (.agg #[L]) 1 24 Tryz.underlying25 b8 a5 a4 a3 rfl Zo (.slice ga k gc) k (fl.map (·.bv)) (by rfl) (b9.out.2.2.alloc _) (F w5.heap.size 1 1) 1 [.slice h4 g8 h0] (by rfl) (yM.one (zI rfl) rfl) (by unfold maxLen;omega) Zo Zt ?_;intro aa9 g0 w9 d g h;have d7:=zL g (zB b9.out.2.1) (zC b9.out.2.2 b9.out.2.1 (.inr Zd));have l4:=zA (i:=0) d7 rfl;have l2:N w9 q3 0:=zE d7;have l0:=lt_of_block d7;have l:=Ja (Jb d (Jb g h));clear d g h d7)|(go_simp;refine(j3.out.1 _ (Below.refl _ _).drew).mono ?_;rintro e w5 ⟨ft,h4,g8,h0,i6,rfl,g6⟩;have d3:O wr w5:=(Below.refl _ _).drew.trans g6.2.2;have d2:=zH d3 j.out.1.h3 (lt_of_block j.out.1.h3);have e8:=p7 HO.out.1 d3 (Je _);have l5:=zA (i:=0) d2 rfl;have l3:N w5 q3 0:=zE d2;have l1:=lt_of_block d2;have k6:=d3.size;have b9:=Ja (Jb (Jb i6 (Jb g6 d3)) (Jb d2 e8));clear i6 g6 d3 d2 e8;dsimp only))
   all_goals go_wp2_with fail
   all_goals (
    refine⟨⟨k+1,fl++ [ft],aa9,g0,f7,by go_num,Ja ⟨?_,?_⟩⟩,by simp[intOf];omega⟩
    ·have j0:=(Below.refl w5.heap.size w5).alloc (Je _) (T #[.slice h4 g8 h0] 39);refine j.out.1.grow (r:=wY (.slice ga k gc) fl) (r':=wY (.slice aa9 (k+1) g0) (fl++ [ft])) (ns:=ft.rows) (rs:=zP t3.av t3.args::vK t3.dv t3.data::v8 t3.bv t3.banks::fl.flatMap FT.rows) (Uq _) (b9.out.1.2.2.trans (j0.mono b9.out.1.2.2.size)) (b9.out.1.2.1.2.1.below j0) l.out.2.1 ?_ (fun x e=>?_) ?_ rfl
     ·show w9.ownsRow p1 39 1 _ (fl++ [ft]).length ((fl++ [ft]).map (·.bv))
      rw[Jk,Ju,HO.out.2,Js]
      show w9.ownsRow p1 39 1 _ (k+1) (fl.map (·.bv)++ [ft.bv])
      rw[b9.out.1.1];exact l.out.1
     ·rcases l.out.2.2 with e2|e2
      ·exact .inl (e2.symm.trans e)
      ·right;have e3:=e2.symm.trans e;simp at e3;simp;omega
     ·classical
      unfold PT.rows;refine Jp.2 fun r=>?_
      simp only[Nb,Nf,Nx,Qa,List.flatMap_nil,Ua];omega
    ·rw[Js,j.out.2,Nh,j3.out.2]
     show _++ [ft.fn]=_
     rw[b9.out.1.2.1.1]
     rfl)
  ·obtain rfl:k=p.funcs.length:=by omega
   have j4:¬(p.funcs.length:Int)<(p.funcs.length:Int):=Zo;have q0:A wr q3 0 (.slice ga p.funcs.length gc):=zA (i:=0) j.out.1.h3 rfl;have q1:A wr q3 1 (.slice a0 p.args.length y):=(zA (i:=1) j.out.1.h3 rfl).trans (by rw[<-m.out.2.2.2.2.2.2.2.1];rfl);have q2:A wr q3 2 (I p.entry):=(zA (i:=2) j.out.1.h3 rfl).trans (by rw[<-m.out.2.2.2.2.2.1];rfl);have j5:A wr q3 3 (I p.handler):=(zA (i:=3) j.out.1.h3 rfl).trans (by rw[<-m.out.2.2.2.2.2.2.1];rfl);have q4:A wr q3 4 (.slice a7 p.data.length a6):=(zA (i:=4) j.out.1.h3 rfl).trans (by rw[<-m.out.2.2.2.2.2.2.2.2.1];rfl);have q5:A wr q3 5 (.slice a8 p.banks.length rc3):=(zA (i:=5) j.out.1.h3 rfl).trans (by rw[<-m.out.2.2.2.2.2.2.2.2.2];rfl);have ql:=lt_of_block j.out.1.h3;have v0:=zA (i:=0) j.out.1.h2 rfl;have v1:=zA (i:=1) j.out.1.h2 rfl;have v2:=zA (i:=2) j.out.1.h2 rfl;have v3:=zA (i:=3) j.out.1.h2 rfl;have v4:=zA (i:=4) j.out.1.h2 rfl;have v5:=zA (i:=5) j.out.1.h2 rfl;have vf:∀i,N wr r2 i:=fun i=>zE j.out.1.h2
   have vl:=lt_of_block j.out.1.h2;clear f7;go_wp2;have b0:=j.out.1.h2;have b1:=zD (i:=0) b0 (.slice ga p.funcs.length gc);have b2:=zD (i:=1) b1 (.slice a0 p.args.length y);have b3:=zD (i:=2) b2 (I p.entry);have b4:=zD (i:=3) b3 (I p.handler);have b5:=zD (i:=4) b4 (.slice a7 p.data.length a6);have b6:=zD (i:=5) b5 (.slice a8 p.banks.length rc3);have i2:=vz (i:=5) (u:=.slice a8 p.banks.length rc3) (vz (i:=4) (u:=.slice a7 p.data.length a6) (vz (i:=3) (u:=I p.handler) (vz (i:=2) (u:=I p.entry) (vz (i:=1) (u:=.slice a0 p.args.length y) (vz (i:=0) (u:=.slice ga p.funcs.length gc) j.out.1.rows b0) b1) b2) b3) b4) b5;have hg:=j.out.1.ges;have h9:Below p1 w (wr.setCell ⟨r2,0,none⟩ (.slice ga p.funcs.length gc)):=j.out.1.bel.setCell (by show p1<=r2;omega) _;have h8:Below p1 w ((wr.setCell ⟨r2,0,none⟩ (.slice ga p.funcs.length gc)).setCell ⟨r2,1,none⟩ (.slice a0 p.args.length y)):=h9.setCell (by show p1<=r2;omega) _;have h7:Below p1 w (((wr.setCell ⟨r2,0,none⟩ (.slice ga p.funcs.length gc)).setCell ⟨r2,1,none⟩ (.slice a0 p.args.length y)).setCell ⟨r2,2,none⟩ (I p.entry)):=h8.setCell (by show p1<=r2;omega) _;have h6:Below p1 w ((((wr.setCell ⟨r2,0,none⟩ (.slice ga p.funcs.length gc)).setCell ⟨r2,1,none⟩ (.slice a0 p.args.length y)).setCell ⟨r2,2,none⟩ (I p.entry)).setCell ⟨r2,3,none⟩ (I p.handler)):=h7.setCell (by show p1<=r2;omega) _;have h5:Below p1 w (((((wr.setCell ⟨r2,0,none⟩ (.slice ga p.funcs.length gc)).setCell ⟨r2,1,none⟩ (.slice a0 p.args.length y)).setCell ⟨r2,2,none⟩ (I p.entry)).setCell ⟨r2,3,none⟩ (I p.handler)).setCell ⟨r2,4,none⟩ (.slice a7 p.data.length a6)):=h6.setCell (by show p1<=r2;omega) _;have a1:Below p1 w ((((((wr.setCell ⟨r2,0,none⟩ (.slice ga p.funcs.length gc)).setCell ⟨r2,1,none⟩ (.slice a0 p.args.length y)).setCell ⟨r2,2,none⟩ (I p.entry)).setCell ⟨r2,3,none⟩ (I p.handler)).setCell ⟨r2,4,none⟩ (.slice a7 p.data.length a6)).setCell ⟨r2,5,none⟩ (.slice a8 p.banks.length rc3)):=h5.setCell (by show p1<=r2;omega) _;clear h9 h8 h7 h6 h5;have HE:=Ja (Jb i2 a1);generalize (((((wr.setCell ⟨r2,0,none⟩ (.slice ga p.funcs.length gc)).setCell ⟨r2,1,none⟩ (.slice a0 p.args.length y)).setCell ⟨r2,2,none⟩ (I p.entry)).setCell ⟨r2,3,none⟩ (I p.handler)).setCell ⟨r2,4,none⟩ (.slice a7 p.data.length a6)).setCell ⟨r2,5,none⟩ (.slice a8 p.banks.length rc3)=WF at *;have x0:=zA (i:=0) b6 rfl;have x1:=zA (i:=1) b6 rfl;have x2:=zA (i:=2) b6 rfl;have x3:=zA (i:=3) b6 rfl;have x4:=zA (i:=4) b6 rfl;have x5:=zA (i:=5) b6 rfl;have l7:=lt_of_block b6;clear b0 b1 b2 b3 b4 b5 b6 i2 a1 q0 q1 q2 j5 q4 q5 v0 v1 v2 v3 v4 v5 vf;refine bodyPost_ret (v:=.agg (R p ga gc a0 y a7 a6 a8 rc3)) ?_ rfl ?_
   ·rw[zM rfl];go_simp
   ·refine⟨{t3 with funcs:=fl,fv:=.slice ga p.funcs.length gc },?_,?_,?_,?_⟩
    ·unfold PT.V;simp only;rw[m.out.2.2.2.2.2.2.2.1,m.out.2.2.2.2.2.2.2.2.1,m.out.2.2.2.2.2.2.2.2.2]
    ·unfold PT.prog;simp only;rw[j.out.2,Nl,m.out.2.2.1,m.out.2.2.2.1,m.out.2.2.2.2.1,m.out.2.2.2.2.2.1,m.out.2.2.2.2.2.2.1]
    ·first|exact HE.out.1|(rw[HP.out.2.2.1];exact HE.out.1)
    ·first|exact HE.out.2|(rw[HP.out.2.2.1];exact HE.out.2)
theorem iF{B:Nat}{v:Value}{bt:BT}{l:List BT}{rs:List Row}(h:SpSt w B g i v bt l rs){n:Nat}(d:n<65536)(c:SzB bt){what:Nat}(hw:what<=12∨what=19):
 G 32 #[.pointer (some ⟨g,i*5,none⟩),I what,I n] w (uE w B g i v bt l rs what n):=by
 rcases hw with hw|rfl
 ·by_cases m:what<=7
  ·by_cases j:0<bt.ops.length
   ·match what,m with
    |0,_=>exact spoil_0 h d c j
    |1,_=>exact spoil_1 h d c j
    |2,_=>exact spoil_2 h d c j
    |3,_=>exact spoil_3 h d c j
    |4,_=>exact spoil_4 h d c j
    |5,_=>exact spoil_5 h d c j
    |6,_=>exact spoil_6 h d c j
    |7,_=>exact spoil_7 h d c j
   ·exact mB h d c m Zo
  ·match what,hw,m with
   |8,_,_=>exact spoil_8 h d c
   |9,_,_=>exact spoil_9 h d c
   |10,_,_=>exact spoil_10 h d c
   |11,_,_=>exact spoil_11 h d c
   |12,_,_=>exact spoil_12 h d c
   |0,_,h|1,_,h|2,_,h|3,_,h|4,_,h|5,_,h|6,_,h|7,_,h=>exact absurd Zd h
   |k+13,h,_=>exact absurd h Zo
 ·exact spoil_19 h d c
def pd (w:World)(p:IProg)(e:Ending)(w':World):Prop:=∃t:PT,e=.returned (yH t.V t.prog)/\t.prog=p/\Rows w' w.heap.size t.rows/\O w w'
theorem TuMid.ret{wx:World}(h:TuMid w p1 o5 q0 q1 q2 t wx){v0 v1 v2 v3 v4 v5:Value}(d:(zW t).toArray=#[v0,v1,v2,v3,v4,v5]){p:IProg}(hp:t.prog=p):
 pd w p (.returned (.agg #[v0,v1,v2,v3,v4,v5])) ((((((wx.setCell ⟨p1+1+1,0,none⟩ v0).setCell ⟨p1+1+1,1,none⟩ v1).setCell ⟨p1+1+1,2,none⟩ v2).setCell ⟨p1+1+1,3,none⟩ v3).setCell ⟨p1+1+1,4,none⟩ v4).setCell ⟨p1+1+1,5,none⟩ v5):=by
 have e:zW t=[v0,v1,v2,v3,v4,v5]:=congrArg Array.toList d;unfold zW at e;simp only[List.cons.injEq,and_true] at e;obtain⟨rfl,rfl,rfl,rfl,rfl,rfl⟩:=e;refine⟨t,rfl,hp,?_,?_⟩
 ·have hb:=h.base;refine(h.rows.base (show w.heap.size<=p1+1+1+1 by omega)).keep fun k hk=>?_
  have c:k≠p1+1+1:=fun e=>by have:=(h.rows.lt hk).1;omega
  exact(Below.heap_setCell _ _ _ _ c).trans ((Below.heap_setCell _ _ _ _ c).trans ((Below.heap_setCell _ _ _ _ c).trans ((Below.heap_setCell _ _ _ _ c).trans ((Below.heap_setCell _ _ _ _ c).trans (Below.heap_setCell _ _ _ _ c)))))
 ·have hb:=h.bel;rw[h.base] at hb ⊢;exact(((((hb.setCell (by show w.heap.size<=w.heap.size+1+1;omega) _).setCell (by show w.heap.size<=w.heap.size+1+1;omega) _).setCell (by show w.heap.size<=w.heap.size+1+1;omega) _).setCell (by show w.heap.size<=w.heap.size+1+1;omega) _).setCell (by show w.heap.size<=w.heap.size+1+1;omega) _).setCell (by show w.heap.size<=w.heap.size+1+1;omega) _
theorem TuMid.start{o:Obj}(d:w.heap.size=p1)(g:w2.heap.size=o5)
 (hr:Rows w2 (((w.alloc o).alloc (T #[I q0,I q1,I q2] 23)).alloc (T #[L,L,I 0,I 0,L,L] 29)).heap.size t.rows)
 (hb:O (((w.alloc o).alloc (T #[I q0,I q1,I q2] 23)).alloc (T #[L,L,I 0,I 0,L,L] 29)) w2):
 TuMid w p1 o5 q0 q1 q2 t (w2.alloc (T (zW t).toArray 29)):=by
 subst d g;have hs:(((w.alloc o).alloc (T #[I q0,I q1,I q2] 23)).alloc (T #[L,L,I 0,I 0,L,L] 29)).heap.size=w.heap.size+1+1+1:=by simp
 have h1:=zB (o:=T #[L,L,I 0,I 0,L,L] 29) (zI (W:=w.alloc o) (o:=T #[I q0,I q1,I q2] 23) (B:=w.heap.size+1) Zs);have h2:=zI (W:=(w.alloc o).alloc (T #[I q0,I q1,I q2] 23)) (o:=T #[L,L,I 0,I 0,L,L] 29) (B:=w.heap.size+1+1) Zs;have h3:O w (((w.alloc o).alloc (T #[I q0,I q1,I q2] 23)).alloc (T #[L,L,I 0,I 0,L,L] 29)):=(((Below.refl _ _).alloc (Je _) _).alloc Zs _).alloc Zt _;have c:=hb.size;rw[hs] at hr hb c;refine⟨zB (zH hb h1 Zo),zB (zH hb h2 Zo),zI rfl,?_,rfl,?_,by omega⟩
 ·exact(h3.trans (hb.mono Zo)).alloc Zo _
 ·exact hr.below ((Below.refl _ _).alloc (Je _) _)
theorem turn_idx (r:Nat)(h:r<4)(w:World):(Instr.index 87 (.agg #[I 16392,I 24575,I 512,I 16896]) (I r)).run Tryz.prog w=.ok (I (lY r:Nat)) w:=by
 rcases(show r=0∨r=1∨r=2∨r=3 by omega) with rfl|rfl|rfl|rfl
 ·kernel_rfl
 ·kernel_rfl
 ·kernel_rfl
 ·kernel_rfl
def tq (t:PT):List Row:=wY t.fv t.funcs::vK t.dv t.data::v8 t.bv t.banks::t.funcs.flatMap FT.rows
def sC (t:PT):List Row:=wY t.fv t.funcs::zP t.av t.args::v8 t.bv t.banks::t.funcs.flatMap FT.rows
def uy (t:PT):List Row:=wY t.fv t.funcs::zP t.av t.args::vK t.dv t.data::t.funcs.flatMap FT.rows
theorem row_args (t:PT):zP t.av t.args∈t.rows/\True:=⟨.tail _ (.head _),trivial⟩
theorem row_data (t:PT):vK t.dv t.data∈t.rows/\True:=⟨.tail _ (.tail _ (.head _)),trivial⟩
theorem jI (t:PT):v8 t.bv t.banks∈t.rows/\True:=⟨.tail _ (.tail _ (.tail _ (.head _))),trivial⟩
theorem abG (t:PT):True/\t.rows.Perm (zP t.av t.args::tq t):=⟨trivial,by
 classical
 unfold PT.rows tq;refine Jp.2 fun y=>?_
 simp only[Nb,Nf]
 omega⟩
theorem abI (t:PT):True/\t.rows.Perm (vK t.dv t.data::sC t):=⟨trivial,by
 classical
 unfold PT.rows sC;refine Jp.2 fun y=>?_
 simp only[Nb,Nf]
 omega⟩
theorem tL (t:PT):True/\t.rows.Perm (v8 t.bv t.banks::uy t):=⟨trivial,by
 classical
 unfold PT.rows uy;refine Jp.2 fun y=>?_
 simp only[Nb,Nf]
 omega⟩
theorem qU (t:PT)(x:List Int)(v:Value):({t with args:=x,av:=v }:PT).rows.Perm (zP v x::tq t):=(abG {t with args:=x,av:=v }).2
theorem qS (t:PT)(x:List IObj)(v:Value):({t with data:=x,dv:=v }:PT).rows.Perm (vK v x::sC t):=(abI {t with data:=x,dv:=v }).2
theorem qE (t:PT)(x:List ByteArray)(v:Value):({t with banks:=x,bv:=v }:PT).rows.Perm (v8 v x::uy t):=(tL {t with banks:=x,bv:=v }).2
def eu (xs:List (Int×Int)):List Value:=xs.flatMap fun p=> [I p.1,I p.2]
theorem aas{p:Int×Int}(h:xs[k]? =some p):(eu xs)[k*2]? =some (I p.1)/\(eu xs)[k*2+1]? =some (I p.2):=by
 induction xs generalizing k with
 |nil=>simp at h
 |cons x xs ih=>
  cases k with
  |zero=>simp at h;subst h;exact⟨rfl,rfl⟩
  |succ k=>
   have:=ih (by simpa using h);rw[show(k+1)*2=k*2+2 by omega];exact this
theorem bu{p:Int×Int}(h:xs[k]? =some p)(b:Int):(eu xs).set (k*2) (I b)=eu (xs.set k (b,p.2)):=by
 induction xs generalizing k with
 |nil=>simp at h
 |cons x xs ih=>
  cases k with
  |zero=>simp at h;subst h;rfl
  |succ k=>
   have:=ih (by simpa using h);rw[show(k+1)*2=k*2+2 by omega];have e:eu (x::xs)=I x.1:: I x.2::eu xs:=rfl;rw[e]
   show _::_::(eu xs).set (k*2) (I b)=_
   rw[this];rfl
theorem aN{p:Int×Int}(h:xs[k]? =some p)(a:Int):(eu xs).set (k*2+1) (I a)=eu (xs.set k (p.1,a)):=by
 induction xs generalizing k with
 |nil=>simp at h
 |cons x xs ih=>
  cases k with
  |zero=>simp at h;subst h;rfl
  |succ k=>
   have:=ih (by simpa using h);rw[show(k+1)*2+1=k*2+1+2 by omega];have e:eu (x::xs)=I x.1:: I x.2::eu xs:=rfl;rw[e]
   show _::_::(eu xs).set (k*2+1) (I a)=_
   rw[this];rfl
theorem adv (n:Nat):eu (List.replicate n (0,0))=List.replicate (n*2) (I 0):=by
 induction n with
 |zero=>rfl
 |succ n ih=>
  rw[Qz]
  show I 0:: I 0::eu (List.replicate n (0,0))=_
  rw[ih,show(n+1)*2=n*2+1+1 by omega,Qz,Qz]
theorem aE (n:Nat):madeCells #[I 0,I 0] (n*2)=(eu (List.replicate n (0,0))).toArray:=by
 rw[adv];unfold madeCells;apply Array.ext
 ·simp
 ·intro i h1 h2;simp at h1;have h3:i%2=0∨i%2=1:=Zo;rcases h3 with h3|h3
  ·simp[h3]
  ·simp[h3]
def bw (w:World)(db:Nat)(xs:List (Int×Int)):Prop:=Q w db (eu xs).toArray 168
theorem bw.cell {w:World}{db:Nat}{xs:List (Int×Int)}(h:bw w db xs){k:Nat}{p:Int×Int}(hk:xs[k]? =some p):A w db (k*2) (I p.1)/\A w db (k*2+1) (I p.2):=by
 have:=aas hk;exact⟨zA h (by simpa using this.1),zA h (by simpa using this.2)⟩
theorem bw.set1(h:bw w db xs){p:Int×Int}(hk:xs[k]? =some p)(b:Int):bw (w.setCell ⟨db,k*2,none⟩ (I b)) db (xs.set k (b,p.2)):=by
 unfold bw;rw[zD h,Jc,bu hk]
theorem bw.set2(h:bw w db xs){p:Int×Int}(hk:xs[k]? =some p)(b a:Int):bw ((w.setCell ⟨db,k*2,none⟩ (I b)).setCell ⟨db,k*2+1,none⟩ (I a)) db (xs.set k (b,a)):=by
 have h1:=h.set1 hk b;have c:=(Jh.1 hk).1;unfold bw at h1 ⊢;rw[zD h1,Jc,aN (p:=(b,p.2)) (by simp[c])];simp
theorem bw.elems(h:bw w db xs)(hl:xs.length<=65536):yN 2 DefR w w.heap.size (F db xs.length xs.length) xs:=
 ⟨some ⟨db,0,none⟩,xs.length,rfl,Je _,by omega,fun k x hk=>⟨db,0,rfl,lt_of_block h,by rw[Ng];exact h.cell hk⟩⟩
theorem dE.put{d:wO}(h:dE xs m d){v:Nat}(hv:v<xs.length){i k:Int}(hi:0<=i/\i.toNat<m):dE (xs.set v (i,k)) m (lS d.1 v i,lS d.2 v k):=by
 refine⟨fun u b a hu=>?_,fun x hx=>?_⟩
 ·rw[Ov] at hu
  by_cases e:v=u
  ·subst e;rw[if_pos rfl,if_pos hv] at hu;cases hu;refine⟨fun hb=>by omega,fun _=>⟨?_,?_,hi.2⟩⟩
   ·show lS d.1 v i v=some i
    unfold lS;rw[if_pos rfl]
   ·show lS d.2 v k v=some k
    unfold lS;rw[if_pos rfl]
  ·rw[if_neg e] at hu;have c:¬(u:Int)=(v:Int):=Zo;obtain⟨g1,g2⟩:=h.1 u b a hu;refine⟨fun hb=>?_,fun hb=>?_⟩
   ·show lS d.1 v i u=none
    unfold lS;rw[if_neg c];exact g1 hb
   ·obtain⟨g3,g4,g5⟩:=g2 hb;refine⟨?_,?_,g5⟩
    ·show lS d.1 v i u=some b
     unfold lS;rw[if_neg c];exact g3
    ·show lS d.2 v k u=some a
     unfold lS;rw[if_neg c];exact g4
 ·rw[Nd] at hx
  show lS d.1 v i x=none
  unfold lS;rw[if_neg Zo];exact h.2 x hx
def aaZ:wO:=(fun _=>none,fun _=>none)
theorem dE.start (n m:Nat):dE (List.replicate n (-1,0)) m aaZ:=by
 refine⟨fun v b a hv=>?_,fun x _=>rfl⟩;have:=Ji hv;rw[List.mem_replicate] at this;obtain⟨_,e⟩:=this;cases e;exact⟨fun _=>rfl,fun h=>absurd h Zd⟩
def itD (i:Int)(b:IBlk)(t:Nat)(d:wO):Option wO:=
 if t<b.params.length then(vJ i (b.params.drop t) d).bind (aat i b.ops 0) else aat i (b.ops.drop (t-b.params.length)) ((t-b.params.length:Nat):Int) d
theorem itD_zero (i:Int)(b:IBlk)(d:wO):itD i b 0 d=aax i b d:=by
 unfold itD aax
 split
 ·rfl
 ·rename_i h
  have:b.params=[]:=Nz Zo;rw[this];rfl
theorem itD_par {i:Int}{b:IBlk}{t:Nat}{v:Int}(h:b.params[t]? =some v)(d:wO):itD i b t d=(rB d v i (-1)).bind (itD i b (t+1)):=by
 have hl:=(Jh.1 h).1;have e:b.params.drop t=v::b.params.drop (t+1):=by rw[Qn hl,(Jh.1 h).2]
 unfold itD;rw[if_pos hl,e]
 show((rB d v i (-1)).bind (vJ i (b.params.drop (t+1)))).bind (aat i b.ops 0)=_
 cases rB d v i (-1) with
 |none=>rfl
 |some d'=>
  simp only[Nw]
  by_cases h2:t+1<b.params.length
  ·rw[if_pos h2]
  ·rw[if_neg h2,List.drop_eq_nil_of_le Zo,show t+1-b.params.length=0 by omega];rfl
theorem itD_op{i:Int}{b:IBlk}{o:IOp}(h:b.ops[j]? =some o)(d:wO):itD i b (b.params.length+j) d=if o.res=-1 then itD i b (b.params.length+j+1) d else(rB d o.res i j).bind (itD i b (b.params.length+j+1)):=by
 have hl:=(Jh.1 h).1;have e:b.ops.drop j=o::b.ops.drop (j+1):=by rw[Qn hl,(Jh.1 h).2]
 have e1:∀d,itD i b (b.params.length+j+1) d=aat i (b.ops.drop (j+1)) ((j:Int)+1) d:=fun d=>by
  unfold itD;rw[if_neg Zo,show b.params.length+j+1-b.params.length=j+1 by omega];rfl
 have e2:itD i b (b.params.length+j) d=aat i (b.ops.drop j) (j:Int) d:=by
  unfold itD;rw[if_neg Zo,show b.params.length+j-b.params.length=j by omega]
 rw[e2,e]
 show(if o.res=-1 then _ else _)=_
 split
 ·rw[e1]
 ·cases rB d o.res i j with
  |none=>rfl
  |some d'=>exact(e1 d').symm
theorem itD_end {i:Int}{b:IBlk}{d:wO}:itD i b (b.params.length+b.ops.length) d=some d:=by
 unfold itD;rw[if_neg Zo,show b.params.length+b.ops.length-b.params.length=b.ops.length by omega,List.drop_length];rfl
end Go.Proofs.YtoahcpkibpomcaaGreat
