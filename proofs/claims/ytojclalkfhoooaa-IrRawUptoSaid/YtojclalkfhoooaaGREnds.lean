/- Part of a proof. -/
import Derived.Test.YtojclalkfhoooaaGOwn0
import Derived.Test.YtojclalkfhoooaaGRShp
set_option linter.all false
set_option maxHeartbeats 4000000
set_option maxRecDepth 100000
namespace Go.Proofs.Ytojclalkfhoooaa
open Go.RowKit
variable {g2 g3 k on:Nat}{w w9 wx:World}{blocks:List IBlk}{c gv lv:Value}{xs:List Int}{o:Obj}{d i oa ob oc:Int}{g:List (List Nat)}
def cG (x:Int):Int:=wrap64 (x+1)
def qK (n:Int)(l:List Int):Int:=l.foldl (fun n v=>max n (cG v)) n
def o8 (n:Int)(l:List IOp):Int:=l.foldl (fun n o=>max n (cG o.res)) n
def iL (n:Int)(b:IBlk):Int:=o8 (qK n b.params) b.ops
def aaG (blocks:List IBlk):Int:=blocks.foldl iL 0
theorem wt{α β:Type}(f:β->α->β)(z:β){l:List α}{x:α}(h:l[k]? =some x):(l.take (k+1)).foldl f z=f ((l.take k).foldl f z) x:=by
 rw[Nh,h,List.foldl_append];rfl
theorem mZ (a b:Int):(if a<b then b else a)=max a b:=by
 rw[Int.max_def]
 split<;>split<;>omega
def dq (w:World)(x:Int)(e:Ending)(w':World):Prop:=e=.returned (A x)/\F w w'
theorem jr{B:Nat}{b8:Value}(a7:wX w B b8 blocks)(hB:B<=w.heap.size)(hs:vZ blocks):
 Y 41 #[.agg #[b8]] w (dq w (aaG blocks)):=by
 obtain⟨fa,fc,rfl,e7,e5⟩:=a7.form;have e4:=hs.1;have h:=Ja (Jb a7 (Jb hB hs));have b7:F w (w.alloc (U #[.slice fa blocks.length fc] 43)):=(Below.refl _ _).alloc (Je _) _;have a1:=zI (W:=w) (o:=U #[.slice fa blocks.length fc] 43) rfl;obtain⟨fb,a5⟩:∃fb,w.heap.size=fb:=⟨_,rfl⟩
 clear a7 hB hs;go_enter Try.func41,Try.ntmps41;go_upto_region 1 with fail;generalize d0:w.alloc (U #[.slice fa blocks.length fc] 43)=W1 at *;rw[a5] at a1;have c:=Ja (Jb b7 (Jb a1 a5));clear b7 a1 d0 a5;go_wp2
 go_loopw [3,4] (fun nv kv wx=>∃(k:Nat) (n:Int),k<=blocks.length/\nv=A n/\kv=A k/\Hid (n=(blocks.take k).foldl iL 0/\F W1 wx)) (fun _ kv _=>blocks.length-(intOf kv).toNat)
 case atStart=>exact⟨0,0,Jt _,rfl,rfl,Ja ⟨rfl,Below.refl _ _⟩⟩
 case round=>
  obtain⟨k,n,hk,rfl,rfl,g⟩:=hrel;have a0:=zH g.out.2 c.out.2.1 (lt_of_block c.out.2.1);have c0:=zA (i:=0) a0 rfl;have e6:=lt_of_block a0
  by_cases b3:k<blocks.length
  ·have c3:(k:Int)<(blocks.length:Int):=Zo;obtain⟨b,hb⟩:∃b,blocks[k]? =some b:=⟨_,Jd b3⟩
   have b5:wX wr B (.slice fa blocks.length fc) blocks:=(h.out.1.below yT ((c.out.1.trans (g.out.2.mono c.out.1.size)).mono h.out.2.1))
   obtain⟨bb,bo,c5,c8,g2,g3,h64,pv,ov,tv,g0,g1,g4,u,y,a2⟩:=b5.get hb;obtain⟨pa,pc,rfl,e0,d8⟩:=u.form;obtain⟨oa,oc,rfl,e3,e1⟩:=y.form;obtain⟨ta,tc,rfl,d7,d5⟩:=a2.form;have d4:bb<wr.heap.size:=Jy c8 (by have:=h.out.2.1;have:=(c.out.1.trans (g.out.2.mono c.out.1.size)).size;omega);have a6:=h.out.2.2.2 b (Ji hb);have r:F wr (wr.alloc (U #[.slice pa b.params.length pc,.slice oa b.ops.length oc,A b.term.kind,A b.term.a,.slice ta b.term.to.length tc] 49)):=(Below.refl _ _).alloc (Je _) _;have l:=zI (W:=wr) (o:=U #[.slice pa b.params.length pc,.slice oa b.ops.length oc,A b.term.kind,A b.term.a,.slice ta b.term.to.length tc] 49) rfl;subst c5;have d9:=a6.1;have e2:=a6.2.1;obtain⟨tb,a3⟩:∃tb,wr.heap.size=tb:=⟨_,rfl⟩
   have HT:=Ja a3;clear b5 a6;go_upto_region 6 with fail;generalize c9:wr.alloc (U #[.slice pa b.params.length pc,.slice oa b.ops.length oc,A b.term.kind,A b.term.a,.slice ta b.term.to.length tc] 49)=W5 at *;rw[a3] at l;have t0:=zA (i:=0) l rfl;have t1:=zA (i:=1) l rfl;have d6:=lt_of_block l;have c7:∀q,B<=q->Below q wr W5->True:=fun _ _ _=>trivial
   have b1:=(u.below zO (r.mono (show B<=wr.heap.size by have:=h.out.2.1;have:=(c.out.1.trans (g.out.2.mono c.out.1.size)).size;omega)))
   have b2:=(y.below xA (r.mono (show B<=wr.heap.size by have:=h.out.2.1;have:=(c.out.1.trans (g.out.2.mono c.out.1.size)).size;omega)))
   have b6:=g.out.2.trans (r.mono g.out.2.size);have H5:=Ja (Jb b1 (Jb b2 (Jb b6 hb)));have e8:B<=wr.heap.size:=by have:=h.out.2.1;have:=(c.out.1.trans (g.out.2.mono c.out.1.size)).size;omega
   have d2:wr.heap.size<=W5.heap.size:=r.size;clear c7 b1 b2 b6 hb u y a2 r l g0 g1 g2 g3 g4 h64 a0 a3 c9;go_wp2
   go_loop [3,6] (fun nv jv=>∃(j:Nat) (m:Int),j<=b.params.length/\nv=A m/\jv=A j/\Hid (m=qK n (b.params.take j))) (fun _ jv=>b.params.length-(intOf jv).toNat)
   case atStart=>exact⟨0,n,Jt _,rfl,rfl,Ja rfl⟩
   case round=>
    obtain⟨j,m,hj,rfl,rfl,HM⟩:=hrel
    by_cases d:j<b.params.length
    ·have b4:(j:Int)<(b.params.length:Int):=Zo;obtain⟨x,t⟩:∃x,b.params[j]? =some x:=⟨_,Jd d⟩
     obtain⟨pb,po,a4,c4,b0,b9⟩:=H5.out.1.get t;rw[Nk] at b0;subst a4;have c2:pb<W5.heap.size:=Zo;have HX:=Ja t;clear t b9;go_wp2
     go_round
     case rel=>
      refine⟨j+1,_,d,rfl,by go_num,Ja ?_⟩;unfold qK;rw[wt _ _ HX.out,mZ,HM.out];rfl
     case measure=>simp[intOf];omega
    ·obtain rfl:j=b.params.length:=by omega
     have b4:¬(b.params.length:Int)<(b.params.length:Int):=Zo;have d1:=Ja (show m=qK n b.params by rw[HM.out,Nl]);clear hj HM d;go_wp2
     go_loop [3,7] (fun nv jv=>∃(j:Nat) (m2:Int),j<=b.ops.length/\nv=A m2/\jv=A j/\Hid (m2=o8 m (b.ops.take j))) (fun _ jv=>b.ops.length-(intOf jv).toNat)
     case atStart=>exact⟨0,m,Jt _,rfl,rfl,Ja rfl⟩
     case round=>
      obtain⟨j,m2,hj,rfl,rfl,HM⟩:=hrel
      by_cases d:j<b.ops.length
      ·have b4:(j:Int)<(b.ops.length:Int):=Zo;obtain⟨x,t⟩:∃x,b.ops[j]? =some x:=⟨_,Jd d⟩
       obtain⟨pb,po,a4,c4,_,b0,_⟩:=H5.out.2.1.get t;subst a4;have c2:pb<W5.heap.size:=Zo;have HX:=Ja t;clear t;go_wp2
       go_round
       case rel=>
        refine⟨j+1,_,d,rfl,by go_num,Ja ?_⟩;unfold o8;rw[wt _ _ HX.out,mZ,HM.out];rfl
       case measure=>simp[intOf];omega
      ·obtain rfl:j=b.ops.length:=by omega
       have d3:¬(b.ops.length:Int)<(b.ops.length:Int):=Zo;clear hj d;go_wp2;go_roundw
       case rel=>
        refine⟨k+1,m2,b3,rfl,by go_num,Ja ⟨?_,H5.out.2.2.1⟩⟩;rw[wt _ _ H5.out.2.2.2,<-g.out.1,HM.out,Nl,d1.out];rfl
       case measure=>simp[intOf];omega
  ·obtain rfl:k=blocks.length:=by omega
   have c3:¬(blocks.length:Int)<(blocks.length:Int):=Zo;clear a0;go_wp2;go_ret;refine⟨?_,c.out.1.trans (g.out.2.mono c.out.1.size)⟩;rw[g.out.1,Nl];rfl
abbrev GR:=List Int×Value
variable {l:List GR}
def pU (v:Value)(l:List GR):Row:=⟨v,22,1,l.length,l.map (·.2)⟩
def sp (l:List GR):List Row:=l.map fun q=>zP q.2 q.1
def pV (w:World)(B:Nat)(v:Value)(rows:List (List Int)):Prop:=∃l:List GR,l.map (·.1)=rows/\Rows w B (pU v l::sp l)
def RetGraph (w:World)(rows:List (List Int))(e:Ending)(w':World):Prop:=∃a n c,e=.returned (.agg #[.slice a n c])/\pV w' w.heap.size (.slice a n c) rows/\F w w'
theorem ne_type7{a b:Nat}{ca cb:Array Value}{ta tb:TypeId}(d:L w a ca ta)(hb:L w b cb tb)(c:ta≠tb):a≠b:=fun e=>by
 subst e;rw[d] at hb
 injection hb with h3
 injection h3 with _ h4
 exact c h4
theorem rowI_get{b:IBlk}{e:IEdge}(h:b.term.to[k]? =some e):(tW b).take (k+1)=(tW b).take k++ [e.block]:=by
 unfold tW;rw[Nh,Jr,h];rfl
theorem lZ{l:List IBlk}{b:IBlk}(h:l[k]? =some b):(zk l).take (k+1)=(zk l).take k++ [tW b]:=by
 unfold zk;rw[Nh,Jr,h];rfl
structure GrMid (w:World) (fb g2 g3:Nat) (fv gv lv:Value) (l:List GR) (xs:List Int) (wx:World):Prop where
 h1:wx.heap[fb]? =some (.cells #[fv] 43 (0,0))
 h2:wx.heap[g2]? =some (.cells #[.slice none 0 0] 93 (0,0))
 h3:wx.heap[g3]? =some (.cells #[gv] 93 (0,0))
 bel:Below fb w wx
 rows:Rows wx fb (zP lv xs::pU gv l::sp l)
 ges:fb<=g2/\fb<=g3/\g2≠g3/\fb≠g3
 sz:fb<=wx.heap.size
theorem GrMid.next{fb:Nat}{fv:Value}(h:GrMid w fb g2 g3 fv gv lv l xs wx){x:Int}(hg:(wx.alloc o).grownBy w9 lv.ownBlock)
 (i:w9.ownsRow fb 3 1 c (xs.length+1) (xs.map zN++ [zN x])) (j:c.ownBlock=lv.ownBlock∨c.ownBlock=some (wx.alloc o).heap.size):GrMid w fb g2 g3 fv gv c l (xs++ [x]) w9:=by
 have ho:=h.rows.own _ (.head _);have hb:∀ {b:Nat} {cs:Array Value} {t:TypeId},L wx b cs t->3≠t->L w9 b cs t:=fun hb hne=>zL hg (zB hb) (zC ho hb (.inr hne))
 have g:F wx (wx.alloc o):=(Below.refl _ _).alloc (Je _) _;have d:wx.heap.size<=w9.heap.size:=by have:=hg.size;simp at this;omega
 refine⟨hb h.h1 Zd,hb h.h2 Zd,hb h.h3 Zd,?_,?_,h.ges,Jn h.sz d⟩
 ·exact h.bel.trans ⟨hg.os,hg.tape,hg.output,d,fun k hk=>(hg.block k (by simp;have:=h.sz;omega) (fun e=>by have:=(ho.lt k e.symm).1;omega)).trans (g.block k (by have:=h.sz;omega))⟩
 ·refine h.rows.grow (r':=zP c (xs++ [x])) g hg ?_ (fun k e=>?_)
  ·show w9.ownsRow fb 3 1 c (xs++ [x]).length ((xs++ [x]).map zN)
   rw[Jk,Ju,Js];exact i
  ·rcases j with e2|e2
   ·exact .inl (e2.symm.trans e)
   ·right;have e3:=e2.symm.trans e;simp at e3;omega
theorem GrMid.close{fb:Nat}{fv:Value}(h:GrMid w fb g2 g3 fv gv lv l xs wx)(hg:(wx.alloc o).grownBy w9 gv.ownBlock)
 (i:w9.ownsRow fb 22 1 c (l.length+1) (l.map (·.2)++ [lv])) (y:c.ownBlock=gv.ownBlock∨c.ownBlock=some (wx.alloc o).heap.size) (u:Value):
 L (w9.setCell ⟨g3,0,none⟩ u) fb #[fv] 43/\L (w9.setCell ⟨g3,0,none⟩ u) g2 #[O] 93/\L (w9.setCell ⟨g3,0,none⟩ u) g3 #[u] 93/\Below fb w (w9.setCell ⟨g3,0,none⟩ u)/\
  Rows (w9.setCell ⟨g3,0,none⟩ u) fb (pU c (l++ [(xs,lv)])::sp (l++ [(xs,lv)])):=by
 have ho:=h.rows.own (pU gv l) (.tail _ (.head _));have hb:∀ {b:Nat} {cs:Array Value} {t:TypeId},L wx b cs t->22≠t->L w9 b cs t:=fun hb hne=>zL hg (zB hb) (zC ho hb (.inr hne))
 have d:F wx (wx.alloc o):=(Below.refl _ _).alloc (Je _) _;have j:wx.heap.size<=w9.heap.size:=by have:=hg.size;simp at this;omega
 have g:=hb h.h3 Zd;refine⟨zR (hb h.h1 Zd) h.ges.2.2.2,zR (hb h.h2 Zd) h.ges.2.2.1,by rw[zD g];rfl,?_,?_⟩
 ·exact(h.bel.trans ⟨hg.os,hg.tape,hg.output,j,fun k hk=>(hg.block k (by simp;have:=h.sz;omega) (fun e=>by have:=(ho.lt k e.symm).1;omega)).trans (d.block k (by have:=h.sz;omega))⟩).setCell h.ges.2.1 _
 ·have h1:=(h.rows.perm (List.Perm.swap _ _ _)).grow (r':=pU c (l++ [(xs,lv)])) d hg (by
   show w9.ownsRow fb 22 1 c (l++ [(xs,lv)]).length ((l++ [(xs,lv)]).map (·.2))
   rw[Jk,Ju,Js]
   exact i) (fun k e=>by
   rcases y with e2|e2
   ·exact .inl (e2.symm.trans e)
   ·right;have e3:=e2.symm.trans e;simp at e3
    omega)
  have h2:Rows w9 fb (pU c (l++ [(xs,lv)])::sp (l++ [(xs,lv)])):=h1.perm (List.Perm.cons _ (by
   unfold sp;rw[Js]
   exact(List.perm_append_singleton _ _).symm))
  refine h2.keep fun k hk=>Below.heap_setCell _ _ _ _ (fun e=>?_)
  obtain⟨r,hr,x⟩:=Nj.1 hk;have e':k=g3:=e;subst e'
  have m:93≠r.e:=by
   rcases Jq.1 hr with rfl|hr
   ·show 93≠22;decide
   ·unfold sp at hr;obtain⟨q,_,rfl⟩:=Nu.1 hr
    show 93≠3;decide
  exact zC (h2.own r hr) g (.inr (fun e=>m e.symm)) x
theorem kn{B:Nat}{e1:Value}(c5:wX w B e1 blocks)(hB:B<=w.heap.size)(hs:vZ blocks):
 Y 39 #[.agg #[e1]] w (RetGraph w (zk blocks)):=by
 obtain⟨fa,fc,rfl,j4,j3⟩:=c5.form;have j1:=hs.1;have b5:=Ja (Jb c5 (Jb hB hs));obtain⟨fb,c4⟩:∃fb,w.heap.size=fb:=⟨_,rfl⟩
 have d7:F w (((w.alloc (U #[.slice fa blocks.length fc] 43)).alloc (U #[O] 93)).alloc (U #[O] 93)):=(((Below.refl _ _).alloc (Je _) _).alloc Zs _).alloc Zt _;have b6:=zB (o:=U #[O] 93) (zB (o:=U #[O] 93) (zI (W:=w) (o:=U #[.slice fa blocks.length fc] 43) rfl));have b2:=zB (o:=U #[O] 93) (zI (W:=w.alloc (U #[.slice fa blocks.length fc] 43)) (o:=U #[O] 93) rfl);have b1:=zI (W:=(w.alloc (U #[.slice fa blocks.length fc] 43)).alloc (U #[O] 93)) (o:=U #[O] 93) rfl;have d2:(w.alloc (U #[.slice fa blocks.length fc] 43)).heap.size=w.heap.size+1:=by simp
 have d1:((w.alloc (U #[.slice fa blocks.length fc] 43)).alloc (U #[O] 93)).heap.size=w.heap.size+1+1:=by simp
 rw[d2] at b2;rw[d1] at b1;clear c5 hB hs d2 d1;go_enter Try.func39,Try.ntmps39;go_upto_region 2 with fail;generalize h0:((w.alloc (U #[.slice fa blocks.length fc] 43)).alloc (U #[O] 93)).alloc (U #[O] 93)=W1 at *;rw[c4] at b6 b2 b1;generalize f8:fb+1+1=g3 at *;generalize f9:fb+1=g2 at *;have d3:g2≠g3/\fb<=g2/\fb<=g3:=Zo;have H1:=Ja (Jb d7 (Jb b6 (Jb b2 (Jb b1 (Jb c4 d3)))));clear d7 b6 b2 b1 h0 c4 f9 f8 d3;go_wp2
 go_loopw [4] (fun kv wx=>∃(k:Nat) (a:Option Addr) (n c:Nat),k<=blocks.length/\kv=A k/\Hid (L wx fb #[.slice fa blocks.length fc] 43/\L wx g2 #[O] 93/\L wx g3 #[.slice a n c] 93/\Below fb w wx/\pV wx fb (.slice a n c) ((zk blocks).take k))) (fun kv _=>blocks.length-(intOf kv).toNat)
 case atStart=>exact⟨0,none,0,0,Jt _,rfl,Ja ⟨H1.out.2.1,H1.out.2.2.1,H1.out.2.2.2.1,by rw[<-H1.out.2.2.2.2.1];exact H1.out.1,[],rfl,Rows.nil.cons (Jv _ _ _ _) (fun g e=>by simp[Row.blk,pU,Value.ownBlock] at e)⟩⟩
 case round=>
  obtain⟨k,a,n,c,hk,rfl,t⟩:=hrel;have c0:=zA (i:=0) t.out.1 rfl;have c3:=lt_of_block t.out.1
  by_cases d4:k<blocks.length
  ·have e8:(k:Int)<(blocks.length:Int):=Zo;obtain⟨b,hb⟩:∃b,blocks[k]? =some b:=⟨_,Jd d4⟩
   obtain⟨l,hl,b3⟩:=t.out.2.2.2.2;have a4:fb=w.heap.size:=H1.out.2.2.2.2.1.symm;have x:GrMid w fb g2 g3 (.slice fa blocks.length fc) (.slice a n c) (O) l [] wr:=⟨t.out.1,t.out.2.1,t.out.2.2.1,t.out.2.2.2.1,b3.cons (Jv _ _ _ _) (fun g e=>by simp[Row.blk,zP,Value.ownBlock] at e),⟨H1.out.2.2.2.2.2.2.1,H1.out.2.2.2.2.2.2.2,H1.out.2.2.2.2.2.1,fun e=>ne_type7 t.out.1 t.out.2.2.1 Zd e⟩,Qd c3⟩
   have h5:=Ja x;have HL:=Ja (Jb hl hb);have d6:=b5.out.2.2.2 b (Ji hb);have i5:=d6.2.2;have h4:=Ja (show ∀wx,Below fb w wx->wX wx B (.slice fa blocks.length fc) blocks/\B<=wx.heap.size from fun wx hbx=>⟨b5.out.1.below yT (hbx.mono (by rw[a4];exact b5.out.2.1)),Jn b5.out.2.1 hbx.size⟩);clear hl b3 x hb d6 a4;go_wp2;clear c0 c3
   go_loopw [5,6] (fun lv jv wx=>∃(j:Nat) (la:Option Addr) (lc:Nat),j<=b.term.to.length/\lv=.slice la j lc/\jv=A j/\Hid (GrMid w fb g2 g3 (.slice fa blocks.length fc) (.slice a n c) (.slice la j lc) l ((tW b).take j) wx)) (fun _ jv _=>b.term.to.length-(intOf jv).toNat)
   case atStart=>exact⟨0,none,0,Jt _,rfl,rfl,h5⟩
   case round=>
    obtain⟨j,la,lc,hj,rfl,rfl,HM⟩:=hrel;have c0:=zA (i:=0) HM.out.h1 rfl;have c3:=lt_of_block HM.out.h1;obtain⟨c2,k2⟩:=h4.out _ HM.out.bel;obtain⟨bb,bo,g6,k1,d9,d8,h64,pv,ov,tv,g0,g1,g4,b7,b9,a1⟩:=c2.get HL.out.2;obtain⟨ta,tc,rfl,i6,i4⟩:=a1.form;subst g6;have i0:bb<wr.heap.size:=Zo
    by_cases d5:j<b.term.to.length
    ·have f4:(j:Int)<(b.term.to.length:Int):=Zo;obtain⟨e,he⟩:∃e,b.term.to[j]? =some e:=⟨_,Jd d5⟩
     obtain⟨eb,eo,f0,k0,j5,e9,_⟩:=a1.get he;subst f0;have h9:eb<wr.heap.size:=Zo;have b8:=HM.out.rows.own _ (.head _);have a6:((tW b).take j).length=j:=te hj
     have u:wr.ownsRow fb 3 1 (.slice la j lc) j (((tW b).take j).map zN):=by
      have h:=b8
      show wr.ownsRow fb 3 1 (.slice la j lc) j _
      unfold zP at h;simp only at h;rw[a6] at h;exact h
     have HO:=Ja (Jb u (Jb a6 he));have g5:fb<=wr.heap.size:=Zo;obtain⟨ij,f6,e7,e6,e5⟩:=info_parts Try.info_int;clear b8 a6 u he b7 b9 a1 c2 e9 g0 g1 d9 d8 h64;go_wp2_with (at_builtin;go_must (refine zK _ rfl (.tmp 26) (.tmp 38) 22 rfl fb 3 ij (A 0) 1 8 Try.underlying22 f6 e7 e6 e5 rfl Zd (.slice la j lc) j (((tW b).take j).map zN) rfl (HO.out.1.alloc _) _ 1 [zN e.block] rfl (yM.one (zI rfl) rfl) (by unfold maxLen;omega) Zo Zt ?_;intro v9 w9 m d y;obtain⟨b0,a7,rfl⟩:=zG m;have a0:=Ja (Jb m (Jb d y));clear m d y))
     go_roundw
     case rel=>
      refine⟨j+1,b0,a7,d5,rfl,by go_num,Ja ?_⟩;rw[rowI_get HO.out.2.2];exact HM.out.next a0.out.2.1 (by rw[HO.out.2.1];exact a0.out.1) a0.out.2.2
     case measure=>simp[intOf];omega
    ·obtain rfl:j=b.term.to.length:=by omega
     have f4:¬(b.term.to.length:Int)<(b.term.to.length:Int):=Zo;have c8:(tW b).take b.term.to.length=tW b:=Oy (by unfold tW;simp);have x:=HM.out;rw[c8] at x;have j0:=zA (i:=0) x.h3 rfl;have h7:=lt_of_block x.h3;have a2:=x.rows.own (pU (.slice a n c) l) (.tail _ (.head _));obtain⟨a',c',c7⟩:=zG a2
     have f3:n=l.length:=by
      simp only[pU] at c7;cases c7;rfl
     subst f3;have u:wr.ownsRow fb 22 1 (.slice a l.length c) l.length (l.map (·.2)):=a2
     have i7:l.length<=2000000:=by
      have h1:=congrArg List.length HL.out.1;rw[Nr,Oc] at h1;omega
     have HO:=Ja (Jb x u);have g5:fb<=wr.heap.size:=Zo;obtain⟨ik,f5,e4,e3,e2⟩:=info_parts Try.info_ints;clear c8 x a2 c7 u b7 b9 a1 c2 g0 g1 d9 d8 h64;go_wp2_with (at_builtin;go_must (refine zK _ rfl (.tmp 41) (.tmp 43) 91 rfl fb 22 ik (O) 1 24 Try.underlying91 f5 e4 e3 e2 rfl Zd (.slice a l.length c) l.length (l.map (·.2)) rfl (HO.out.2.alloc _) _ 1 [.slice la b.term.to.length lc] rfl (yM.one (zI rfl) rfl) (by unfold maxLen;omega) Zo Zt ?_;intro v9 w9 m d y;obtain⟨b0,a7,rfl⟩:=zG m;have b4:=zL d (zB HO.out.1.h3) (zC HO.out.2 HO.out.1.h3 (.inr Zd));have i2:=zA (i:=0) b4 rfl;have i1:T w9 g3 0:=zE b4;have h6:=lt_of_block b4;have a0:=Ja (Jb m (Jb d y));clear m d y b4))
     go_roundw
     case rel=>
      have a5:=HO.out.1.close a0.out.2.1 a0.out.1 a0.out.2.2 (.slice b0 (l.length+1) a7);refine⟨k+1,b0,l.length+1,a7,d4,by go_num,Ja ⟨a5.1,a5.2.1,a5.2.2.1,a5.2.2.2.1,l++ [(tW b,.slice la b.term.to.length lc)],?_,a5.2.2.2.2⟩⟩;rw[lZ HL.out.2,Js,HL.out.1];rfl
     case measure=>simp[intOf];omega
  ·obtain rfl:k=blocks.length:=by omega
   have e8:¬(blocks.length:Int)<(blocks.length:Int):=Zo;have d0:=zA (i:=0) t.out.2.2.1 rfl;have j2:=lt_of_block t.out.2.2.1;have e0:=zA (i:=0) t.out.2.1 rfl;have h8:=lt_of_block t.out.2.1;have ef:T wr g2 0:=zE t.out.2.1;go_wp2;have g9:=t.out.2.2.2.1;have f7:=t.out.2.2.2.2;have a4:=H1.out.2.2.2.2.1;have c9:=zD (i:=0) t.out.2.1 (.slice a n c);have x0:=zA (i:=0) c9 rfl;have i3:=lt_of_block c9;refine bodyPost_ret (v:=.agg #[.slice a n c]) ?_ rfl ?_
   ·rw[zM rfl];go_simp
   ·refine⟨a,n,c,rfl,?_,?_⟩
    ·obtain⟨l,hl,hr⟩:=f7;refine⟨l,by rw[hl,Oy (by unfold zk;simp)],?_⟩;rw[a4];refine hr.keep fun q hq=>Below.heap_setCell _ _ _ _ (fun e=>?_)
     obtain⟨r,a3,f2⟩:=Nj.1 hq;have e':q=g2:=e;subst e'
     have f1:r.e≠93:=by
      rcases Jq.1 a3 with rfl|a3
      ·show 22≠93;decide
      ·unfold sp at a3;obtain⟨p,_,rfl⟩:=Nu.1 a3
       show 3≠93;decide
     exact zC (hr.own r a3) t.out.2.1 (.inr f1) f2
    ·rw[a4];exact g9.setCell H1.out.2.2.2.2.2.2.1 _
theorem dJ (c:Int){f:Flds}(h:zi c=f)(w:World):Y 54 #[A c] w (wL w f):=by
 have:=aaK c w;rw[h] at this;exact this
theorem aak{V:PV}{p:IProg}(hp:ProgIn w w.heap.size V p)(ab:Option Addr)(an ac:Nat)(xs:List Int)(a5:xs.length=an)(c2:an<=9223372036854775807)(y:zi oc=⟨true,true,true,false,false⟩)(k:oc≠2/\oc≠24/\oc≠25/\oc≠26):
 Y 73 #[yH V p,.agg #[A (oc),A d,A oa,A ob,I on,.slice ab an ac]] w (ym w (opF p ⟨oc,d,oa,ob,on,xs⟩)):=by
 obtain⟨Vf,Va,Vd,Vb⟩:=V;obtain⟨f1,f2,e1,a6,_⟩:=hp.funcs.form;obtain⟨a1,a2,e2,_,_⟩:=hp.args.form;obtain⟨d1,d2,e3,a7,_⟩:=hp.data.form;obtain⟨b1,b2,e4,_,_⟩:=hp.banks.form;simp only at e1 e2 e3 e4;subst e1 e2 e3 e4;unfold yH;simp only;have b9:p.funcs.length<=9223372036854775807:=Zo;have c0:p.data.length<=9223372036854775807:=Zo;have a3:=((Below.refl w.heap.size w).alloc (Je _) (U (R p f1 f2 a1 a2 d1 d2 b1 b2) 29)).alloc Zs (U #[A (oc),A d,A oa,A ob,I on,.slice ab an ac] 77);have x:=zB (o:=U #[A (oc),A d,A oa,A ob,I on,.slice ab an ac] 77) (zI (W:=w) (o:=U (R p f1 f2 a1 a2 d1 d2 b1 b2) 29) rfl);have u:=zI (W:=w.alloc (U (R p f1 f2 a1 a2 d1 d2 b1 b2) 29)) (o:=U #[A (oc),A d,A oa,A ob,I on,.slice ab an ac] 77) (B:=w.heap.size+1) Zs;have m:=Ja (Jb a3 (Jb x u));obtain⟨res,c⟩:∃r,opF p ⟨oc,d,oa,ob,on,xs⟩=r:=⟨_,rfl⟩
 rw[c];unfold opF at c;simp only[y,a5] at c;rw[if_neg k.2.2.2,if_neg k.1,decide_eq_true k.2.1,decide_eq_true k.2.2.1] at c;have t2:(oc==2)=false:=Ze;have b8:(oc !=2)=true:=by rw[bne_iff_ne];omega
 have b7:(oc==24)=false:=Ze;have b4:(oc !=24)=true:=by rw[bne_iff_ne];omega
 have b6:(oc==25)=false:=Ze;have b3:(oc !=25)=true:=by rw[bne_iff_ne];omega
 have b5:(oc==26)=false:=Ze;have b0:(oc !=26)=true:=by rw[bne_iff_ne];omega
 clear k;have HP:=Ja hp;clear a3 x u hp a6 a7;go_enter Try.func73,Try.ntmps73;go_upto_region 2 with(go_at_call 54;go_must (refine(dJ oc y _).mono ?_;rintro e w1 ⟨he,l⟩;obtain rfl:e=.returned (.agg #[.bool true,.bool true,.bool true,.bool false,.bool false]):=he))
 have a0:=(m.out.1.trans (l.mono m.out.1.size)).alloc (Jn m.out.1.size l.size) (U #[.bool true,.bool true,.bool true,.bool false,.bool false] 111);have j:=zB (o:=(U #[.bool true,.bool true,.bool true,.bool false,.bool false] 111)) (zH l m.out.2.1 (lt_of_block m.out.2.1));have g:=zB (o:=(U #[.bool true,.bool true,.bool true,.bool false,.bool false] 111)) (zH l m.out.2.2 (lt_of_block m.out.2.2));have h:=zI (W:=w1) (o:=(U #[.bool true,.bool true,.bool true,.bool false,.bool false] 111)) rfl;generalize w1.alloc (U #[.bool true,.bool true,.bool true,.bool false,.bool false] 111)=W2 at *;generalize w1.heap.size=bs at *;have p0:=K0 j;have p1:=K1 j;have p4:=K4 j;have o0:=K0 g;have o1:=K1 g;have o2:=K2 g;have o3:=K3 g;have o4:=K4 g;have o5:=K5 g;have s0:=K0 h;have s1:=K1 h;have s2:=K2 h;have s3:=K3 h;have s4:=K4 h;have l0:=lt_of_block j;have l1:=lt_of_block g;have l2:=lt_of_block h;have i:=Ja a0;clear a0 j g h l m
 by_cases h1:0<an
 ·skip
  have hr:res=false:=by rw[<-c];simp;try omega
  subst hr;have i1:(0:Int)<(an:Int):=Zo;clear c h1;go_wp2;go_ret
  first|exact⟨rfl,i.out⟩|exact⟨uz Zt,i.out⟩
 by_cases h2:d<0
 ·skip
  have hr:res=false:=by rw[<-c];simp;try omega
  subst hr;have i1:¬(0:Int)<(an:Int):=Zo;clear c h1;go_wp2;go_ret
  first|exact⟨rfl,i.out⟩|exact⟨uz Zt,i.out⟩
 by_cases h3:ob=0
 rotate_left
 ·skip
  have hr:res=false:=by rw[<-c];simp;try omega
  subst hr;have i1:¬(0:Int)<(an:Int):=Zo;have i3:(ob==0)=false:=Ze;have t:(ob !=0)=true:=by rw[bne_iff_ne];omega
  clear c h1;go_wp2;go_ret
  first|exact⟨rfl,i.out⟩|exact⟨uz Zt,i.out⟩
 by_cases h4:on=0
 rotate_left
 ·skip
  have hr:res=false:=by rw[<-c];simp;try omega
  subst hr;have i1:¬(0:Int)<(an:Int):=Zo;have i3:(ob==0)=true:=by rw[beq_iff_eq];omega
  have t:(ob !=0)=false:=by rw[bne_eq_false_iff_eq];omega
  have i4:((on:Int)==0)=false:=Ze;have a4:((on:Int) !=0)=true:=by rw[bne_iff_ne];omega
  clear c h1 h3;go_wp2;go_ret
  first|exact⟨rfl,i.out⟩|exact⟨uz Zt,i.out⟩
 have hr:res=true:=by rw[<-c];simp;try omega
 subst hr;have i1:¬(0:Int)<(an:Int):=Zo;have i3:(ob==0)=true:=by rw[beq_iff_eq];omega
 have t:(ob !=0)=false:=by rw[bne_eq_false_iff_eq];omega
 have i4:((on:Int)==0)=true:=by rw[beq_iff_eq];omega
 have a4:((on:Int) !=0)=false:=by rw[bne_eq_false_iff_eq];omega
 clear c h1 h3 h4;go_wp2;go_ret
 first|exact⟨rfl,i.out⟩|exact⟨uz Zt,i.out⟩
theorem aF{V:PV}{p:IProg}(hp:ProgIn w w.heap.size V p)(ab:Option Addr)(an ac:Nat)(xs:List Int)(a4:xs.length=an)(c0:an<=9223372036854775807)(x:zi oc=⟨true,true,true,true,false⟩)(j:oc≠2/\oc≠24/\oc≠25/\oc≠26):
 Y 73 #[yH V p,.agg #[A (oc),A d,A oa,A ob,I on,.slice ab an ac]] w (ym w (opF p ⟨oc,d,oa,ob,on,xs⟩)):=by
 obtain⟨Vf,Va,Vd,Vb⟩:=V;obtain⟨f1,f2,e1,a5,_⟩:=hp.funcs.form;obtain⟨a1,a2,e2,_,_⟩:=hp.args.form;obtain⟨d1,d2,e3,a6,_⟩:=hp.data.form;obtain⟨b1,b2,e4,_,_⟩:=hp.banks.form;simp only at e1 e2 e3 e4;subst e1 e2 e3 e4;unfold yH;simp only;have b8:p.funcs.length<=9223372036854775807:=Zo;have b9:p.data.length<=9223372036854775807:=Zo;have a0:=((Below.refl w.heap.size w).alloc (Je _) (U (R p f1 f2 a1 a2 d1 d2 b1 b2) 29)).alloc Zs (U #[A (oc),A d,A oa,A ob,I on,.slice ab an ac] 77);have u:=zB (o:=U #[A (oc),A d,A oa,A ob,I on,.slice ab an ac] 77) (zI (W:=w) (o:=U (R p f1 f2 a1 a2 d1 d2 b1 b2) 29) rfl);have t:=zI (W:=w.alloc (U (R p f1 f2 a1 a2 d1 d2 b1 b2) 29)) (o:=U #[A (oc),A d,A oa,A ob,I on,.slice ab an ac] 77) (B:=w.heap.size+1) Zs;have m:=Ja (Jb a0 (Jb u t));obtain⟨res,c⟩:∃r,opF p ⟨oc,d,oa,ob,on,xs⟩=r:=⟨_,rfl⟩
 rw[c];unfold opF at c;simp only[x,a4] at c;rw[if_neg j.2.2.2,if_neg j.1,decide_eq_true j.2.1,decide_eq_true j.2.2.1] at c;have t2:(oc==2)=false:=Ze;have b7:(oc !=2)=true:=by rw[bne_iff_ne];omega
 have b6:(oc==24)=false:=Ze;have b3:(oc !=24)=true:=by rw[bne_iff_ne];omega
 have b5:(oc==25)=false:=Ze;have b0:(oc !=25)=true:=by rw[bne_iff_ne];omega
 have b4:(oc==26)=false:=Ze;have a7:(oc !=26)=true:=by rw[bne_iff_ne];omega
 clear j;have HP:=Ja hp;clear a0 u t hp a5 a6;go_enter Try.func73,Try.ntmps73;go_upto_region 2 with(go_at_call 54;go_must (refine(dJ oc x _).mono ?_;rintro e w1 ⟨he,k⟩;obtain rfl:e=.returned (.agg #[.bool true,.bool true,.bool true,.bool true,.bool false]):=he))
 have y:=(m.out.1.trans (k.mono m.out.1.size)).alloc (Jn m.out.1.size k.size) (U #[.bool true,.bool true,.bool true,.bool true,.bool false] 111);have i:=zB (o:=(U #[.bool true,.bool true,.bool true,.bool true,.bool false] 111)) (zH k m.out.2.1 (lt_of_block m.out.2.1));have g:=zB (o:=(U #[.bool true,.bool true,.bool true,.bool true,.bool false] 111)) (zH k m.out.2.2 (lt_of_block m.out.2.2));have h:=zI (W:=w1) (o:=(U #[.bool true,.bool true,.bool true,.bool true,.bool false] 111)) rfl;generalize w1.alloc (U #[.bool true,.bool true,.bool true,.bool true,.bool false] 111)=W2 at *;generalize w1.heap.size=bs at *;have p0:=K0 i;have p1:=K1 i;have p4:=K4 i;have o0:=K0 g;have o1:=K1 g;have o2:=K2 g;have o3:=K3 g;have o4:=K4 g;have o5:=K5 g;have s0:=K0 h;have s1:=K1 h;have s2:=K2 h;have s3:=K3 h;have s4:=K4 h;have l0:=lt_of_block i;have l1:=lt_of_block g;have l2:=lt_of_block h;have l:=Ja y;clear y i g h k m
 by_cases h1:0<an
 ·skip
  have hr:res=false:=by rw[<-c];simp;try omega
  subst hr;have i1:(0:Int)<(an:Int):=Zo;clear c h1;go_wp2;go_ret
  first|exact⟨rfl,l.out⟩|exact⟨uz Zt,l.out⟩
 by_cases h2:d<0
 ·skip
  have hr:res=false:=by rw[<-c];simp;try omega
  subst hr;have i1:¬(0:Int)<(an:Int):=Zo;clear c h1;go_wp2;go_ret
  first|exact⟨rfl,l.out⟩|exact⟨uz Zt,l.out⟩
 by_cases h4:on=0
 rotate_left
 ·skip
  have hr:res=false:=by rw[<-c];simp;try omega
  subst hr;have i1:¬(0:Int)<(an:Int):=Zo;have i4:((on:Int)==0)=false:=Ze;have a3:((on:Int) !=0)=true:=by rw[bne_iff_ne];omega
  clear c h1;go_wp2;go_ret
  first|exact⟨rfl,l.out⟩|exact⟨uz Zt,l.out⟩
 have hr:res=true:=by rw[<-c];simp;try omega
 subst hr;have i1:¬(0:Int)<(an:Int):=Zo;have i4:((on:Int)==0)=true:=by rw[beq_iff_eq];omega
 have a3:((on:Int) !=0)=false:=by rw[bne_eq_false_iff_eq];omega
 clear c h1 h4;go_wp2;go_ret
 first|exact⟨rfl,l.out⟩|exact⟨uz Zt,l.out⟩
theorem aaa{V:PV}{p:IProg}(hp:ProgIn w w.heap.size V p){c:Int}(ab:Option Addr)(an ac:Nat)(xs:List Int)(a5:xs.length=an)(c2:an<=9223372036854775807)(y:zi oc=⟨true,false,true,true,false⟩)(j:oc≠2/\oc≠24/\oc≠25/\oc≠26):
 Y 73 #[yH V p,.agg #[A (oc),A c,A oa,A ob,I on,.slice ab an ac]] w (ym w (opF p ⟨oc,c,oa,ob,on,xs⟩)):=by
 obtain⟨Vf,Va,Vd,Vb⟩:=V;obtain⟨f1,f2,e1,a6,_⟩:=hp.funcs.form;obtain⟨a1,a2,e2,_,_⟩:=hp.args.form;obtain⟨d1,d2,e3,a7,_⟩:=hp.data.form;obtain⟨b1,b2,e4,_,_⟩:=hp.banks.form;simp only at e1 e2 e3 e4;subst e1 e2 e3 e4;unfold yH;simp only;have b9:p.funcs.length<=9223372036854775807:=Zo;have c0:p.data.length<=9223372036854775807:=Zo;have a3:=((Below.refl w.heap.size w).alloc (Je _) (U (R p f1 f2 a1 a2 d1 d2 b1 b2) 29)).alloc Zs (U #[A (oc),A c,A oa,A ob,I on,.slice ab an ac] 77);have x:=zB (o:=U #[A (oc),A c,A oa,A ob,I on,.slice ab an ac] 77) (zI (W:=w) (o:=U (R p f1 f2 a1 a2 d1 d2 b1 b2) 29) rfl);have u:=zI (W:=w.alloc (U (R p f1 f2 a1 a2 d1 d2 b1 b2) 29)) (o:=U #[A (oc),A c,A oa,A ob,I on,.slice ab an ac] 77) (B:=w.heap.size+1) Zs;have m:=Ja (Jb a3 (Jb x u));obtain⟨res,d⟩:∃r,opF p ⟨oc,c,oa,ob,on,xs⟩=r:=⟨_,rfl⟩
 rw[d];unfold opF at d;simp only[y,a5] at d;rw[if_neg j.2.2.2,if_neg j.1,decide_eq_true j.2.1,decide_eq_true j.2.2.1] at d;have t2:(oc==2)=false:=Ze;have b8:(oc !=2)=true:=by rw[bne_iff_ne];omega
 have b7:(oc==24)=false:=Ze;have b4:(oc !=24)=true:=by rw[bne_iff_ne];omega
 have b6:(oc==25)=false:=Ze;have b3:(oc !=25)=true:=by rw[bne_iff_ne];omega
 have b5:(oc==26)=false:=Ze;have b0:(oc !=26)=true:=by rw[bne_iff_ne];omega
 clear j;have HP:=Ja hp;clear a3 x u hp a6 a7;go_enter Try.func73,Try.ntmps73;go_upto_region 2 with(go_at_call 54;go_must (refine(dJ oc y _).mono ?_;rintro e w1 ⟨he,k⟩;obtain rfl:e=.returned (.agg #[.bool true,.bool false,.bool true,.bool true,.bool false]):=he))
 have a0:=(m.out.1.trans (k.mono m.out.1.size)).alloc (Jn m.out.1.size k.size) (U #[.bool true,.bool false,.bool true,.bool true,.bool false] 111);have i:=zB (o:=(U #[.bool true,.bool false,.bool true,.bool true,.bool false] 111)) (zH k m.out.2.1 (lt_of_block m.out.2.1));have g:=zB (o:=(U #[.bool true,.bool false,.bool true,.bool true,.bool false] 111)) (zH k m.out.2.2 (lt_of_block m.out.2.2));have h:=zI (W:=w1) (o:=(U #[.bool true,.bool false,.bool true,.bool true,.bool false] 111)) rfl;generalize w1.alloc (U #[.bool true,.bool false,.bool true,.bool true,.bool false] 111)=W2 at *;generalize w1.heap.size=bs at *;have p0:=K0 i;have p1:=K1 i;have p4:=K4 i;have o0:=K0 g;have o1:=K1 g;have o2:=K2 g;have o3:=K3 g;have o4:=K4 g;have o5:=K5 g;have s0:=K0 h;have s1:=K1 h;have s2:=K2 h;have s3:=K3 h;have s4:=K4 h;have l0:=lt_of_block i;have l1:=lt_of_block g;have l2:=lt_of_block h;have l:=Ja a0;clear a0 i g h k m
 by_cases h1:0<an
 ·skip
  have hr:res=false:=by rw[<-d];simp;try omega
  subst hr;have i1:(0:Int)<(an:Int):=Zo;clear d h1;go_wp2;go_ret
  first|exact⟨rfl,l.out⟩|exact⟨uz Zt,l.out⟩
 by_cases h2:c=-1
 rotate_left
 ·skip
  have hr:res=false:=by rw[<-d];simp;try omega
  subst hr;have i1:¬(0:Int)<(an:Int):=Zo;have i2:(c==-1)=false:=Ze;have t:(c !=-1)=true:=by rw[bne_iff_ne];omega
  clear d h1;go_wp2;go_ret
  first|exact⟨rfl,l.out⟩|exact⟨uz Zt,l.out⟩
 by_cases h4:on=0
 rotate_left
 ·skip
  have hr:res=false:=by rw[<-d];simp;try omega
  subst hr;have i1:¬(0:Int)<(an:Int):=Zo;have i2:(c==-1)=true:=by rw[beq_iff_eq];omega
  have t:(c !=-1)=false:=by rw[bne_eq_false_iff_eq];omega
  have i4:((on:Int)==0)=false:=Ze;have a4:((on:Int) !=0)=true:=by rw[bne_iff_ne];omega
  clear d h1 h2;go_wp2;go_ret
  first|exact⟨rfl,l.out⟩|exact⟨uz Zt,l.out⟩
 have hr:res=true:=by rw[<-d];simp;try omega
 subst hr;have i1:¬(0:Int)<(an:Int):=Zo;have i2:(c==-1)=true:=by rw[beq_iff_eq];omega
 have t:(c !=-1)=false:=by rw[bne_eq_false_iff_eq];omega
 have i4:((on:Int)==0)=true:=by rw[beq_iff_eq];omega
 have a4:((on:Int) !=0)=false:=by rw[bne_eq_false_iff_eq];omega
 clear d h1 h2 h4;go_wp2;go_ret
 first|exact⟨rfl,l.out⟩|exact⟨uz Zt,l.out⟩
theorem aG{V:PV}{p:IProg}(hp:ProgIn w w.heap.size V p)(ab:Option Addr)(an ac:Nat)(xs:List Int)(a4:xs.length=an)(c0:an<=9223372036854775807)(x:zi oc=⟨true,true,true,false,true⟩)(j:oc≠2/\oc≠24/\oc≠25/\oc≠26):
 Y 73 #[yH V p,.agg #[A (oc),A d,A oa,A ob,I on,.slice ab an ac]] w (ym w (opF p ⟨oc,d,oa,ob,on,xs⟩)):=by
 obtain⟨Vf,Va,Vd,Vb⟩:=V;obtain⟨f1,f2,e1,a5,_⟩:=hp.funcs.form;obtain⟨a1,a2,e2,_,_⟩:=hp.args.form;obtain⟨d1,d2,e3,a6,_⟩:=hp.data.form;obtain⟨b1,b2,e4,_,_⟩:=hp.banks.form;simp only at e1 e2 e3 e4;subst e1 e2 e3 e4;unfold yH;simp only;have b8:p.funcs.length<=9223372036854775807:=Zo;have b9:p.data.length<=9223372036854775807:=Zo;have a0:=((Below.refl w.heap.size w).alloc (Je _) (U (R p f1 f2 a1 a2 d1 d2 b1 b2) 29)).alloc Zs (U #[A (oc),A d,A oa,A ob,I on,.slice ab an ac] 77);have u:=zB (o:=U #[A (oc),A d,A oa,A ob,I on,.slice ab an ac] 77) (zI (W:=w) (o:=U (R p f1 f2 a1 a2 d1 d2 b1 b2) 29) rfl);have t:=zI (W:=w.alloc (U (R p f1 f2 a1 a2 d1 d2 b1 b2) 29)) (o:=U #[A (oc),A d,A oa,A ob,I on,.slice ab an ac] 77) (B:=w.heap.size+1) Zs;have m:=Ja (Jb a0 (Jb u t));obtain⟨res,c⟩:∃r,opF p ⟨oc,d,oa,ob,on,xs⟩=r:=⟨_,rfl⟩
 rw[c];unfold opF at c;simp only[x,a4] at c;rw[if_neg j.2.2.2,if_neg j.1,decide_eq_true j.2.1,decide_eq_true j.2.2.1] at c;have t2:(oc==2)=false:=Ze;have b7:(oc !=2)=true:=by rw[bne_iff_ne];omega
 have b6:(oc==24)=false:=Ze;have b3:(oc !=24)=true:=by rw[bne_iff_ne];omega
 have b5:(oc==25)=false:=Ze;have b0:(oc !=25)=true:=by rw[bne_iff_ne];omega
 have b4:(oc==26)=false:=Ze;have a7:(oc !=26)=true:=by rw[bne_iff_ne];omega
 clear j;have HP:=Ja hp;clear a0 u t hp a5 a6;go_enter Try.func73,Try.ntmps73;go_upto_region 2 with(go_at_call 54;go_must (refine(dJ oc x _).mono ?_;rintro e w1 ⟨he,k⟩;obtain rfl:e=.returned (.agg #[.bool true,.bool true,.bool true,.bool false,.bool true]):=he))
 have y:=(m.out.1.trans (k.mono m.out.1.size)).alloc (Jn m.out.1.size k.size) (U #[.bool true,.bool true,.bool true,.bool false,.bool true] 111);have i:=zB (o:=(U #[.bool true,.bool true,.bool true,.bool false,.bool true] 111)) (zH k m.out.2.1 (lt_of_block m.out.2.1));have g:=zB (o:=(U #[.bool true,.bool true,.bool true,.bool false,.bool true] 111)) (zH k m.out.2.2 (lt_of_block m.out.2.2));have h:=zI (W:=w1) (o:=(U #[.bool true,.bool true,.bool true,.bool false,.bool true] 111)) rfl;generalize w1.alloc (U #[.bool true,.bool true,.bool true,.bool false,.bool true] 111)=W2 at *;generalize w1.heap.size=bs at *;have p0:=K0 i;have p1:=K1 i;have p4:=K4 i;have o0:=K0 g;have o1:=K1 g;have o2:=K2 g;have o3:=K3 g;have o4:=K4 g;have o5:=K5 g;have s0:=K0 h;have s1:=K1 h;have s2:=K2 h;have s3:=K3 h;have s4:=K4 h;have l0:=lt_of_block i;have l1:=lt_of_block g;have l2:=lt_of_block h;have l:=Ja y;clear y i g h k m
 by_cases h1:0<an
 ·skip
  have hr:res=false:=by rw[<-c];simp;try omega
  subst hr;have i1:(0:Int)<(an:Int):=Zo;clear c h1;go_wp2;go_ret
  first|exact⟨rfl,l.out⟩|exact⟨uz Zt,l.out⟩
 by_cases h2:d<0
 ·skip
  have hr:res=false:=by rw[<-c];simp;try omega
  subst hr;have i1:¬(0:Int)<(an:Int):=Zo;clear c h1;go_wp2;go_ret
  first|exact⟨rfl,l.out⟩|exact⟨uz Zt,l.out⟩
 by_cases h3:ob=0
 rotate_left
 ·skip
  have hr:res=false:=by rw[<-c];simp;try omega
  subst hr;have i1:¬(0:Int)<(an:Int):=Zo;have i3:(ob==0)=false:=Ze;have a3:(ob !=0)=true:=by rw[bne_iff_ne];omega
  clear c h1;go_wp2;go_ret
  first|exact⟨rfl,l.out⟩|exact⟨uz Zt,l.out⟩
 have hr:res=true:=by rw[<-c];simp;try omega
 subst hr;have i1:¬(0:Int)<(an:Int):=Zo;have i3:(ob==0)=true:=by rw[beq_iff_eq];omega
 have a3:(ob !=0)=false:=by rw[bne_eq_false_iff_eq];omega
 clear c h1 h3;go_wp2;go_ret
 first|exact⟨rfl,l.out⟩|exact⟨uz Zt,l.out⟩
theorem ay{V:PV}{p:IProg}(hp:ProgIn w w.heap.size V p){c:Int}(ab:Option Addr)(an ac:Nat)(xs:List Int)(a0:xs.length=an)(b8:an<=9223372036854775807)(u:zi oc=⟨false,false,false,false,false⟩)(j:oc≠2/\oc≠24/\oc≠25/\oc≠26):
 Y 73 #[yH V p,.agg #[A (oc),A c,A oa,A ob,I on,.slice ab an ac]] w (ym w (opF p ⟨oc,c,oa,ob,on,xs⟩)):=by
 obtain⟨Vf,Va,Vd,Vb⟩:=V;obtain⟨f1,f2,e1,a3,_⟩:=hp.funcs.form;obtain⟨a1,a2,e2,_,_⟩:=hp.args.form;obtain⟨d1,d2,e3,a4,_⟩:=hp.data.form;obtain⟨b1,b2,e4,_,_⟩:=hp.banks.form;simp only at e1 e2 e3 e4;subst e1 e2 e3 e4;unfold yH;simp only;have b6:p.funcs.length<=9223372036854775807:=Zo;have b7:p.data.length<=9223372036854775807:=Zo;have y:=((Below.refl w.heap.size w).alloc (Je _) (U (R p f1 f2 a1 a2 d1 d2 b1 b2) 29)).alloc Zs (U #[A (oc),A c,A oa,A ob,I on,.slice ab an ac] 77);have t:=zB (o:=U #[A (oc),A c,A oa,A ob,I on,.slice ab an ac] 77) (zI (W:=w) (o:=U (R p f1 f2 a1 a2 d1 d2 b1 b2) 29) rfl);have m:=zI (W:=w.alloc (U (R p f1 f2 a1 a2 d1 d2 b1 b2) 29)) (o:=U #[A (oc),A c,A oa,A ob,I on,.slice ab an ac] 77) (B:=w.heap.size+1) Zs;have l:=Ja (Jb y (Jb t m));obtain⟨res,d⟩:∃r,opF p ⟨oc,c,oa,ob,on,xs⟩=r:=⟨_,rfl⟩
 rw[d];unfold opF at d;simp only[u,a0] at d;rw[if_neg j.2.2.2,if_neg j.1,decide_eq_true j.2.1,decide_eq_true j.2.2.1] at d;have t2:(oc==2)=false:=Ze;have b5:(oc !=2)=true:=by rw[bne_iff_ne];omega
 have b4:(oc==24)=false:=Ze;have a7:(oc !=24)=true:=by rw[bne_iff_ne];omega
 have b3:(oc==25)=false:=Ze;have a6:(oc !=25)=true:=by rw[bne_iff_ne];omega
 have b0:(oc==26)=false:=Ze;have a5:(oc !=26)=true:=by rw[bne_iff_ne];omega
 clear j;have HP:=Ja hp;clear y t m hp a3 a4;go_enter Try.func73,Try.ntmps73;go_upto_region 2 with(go_at_call 54;go_must (refine(dJ oc u _).mono ?_;rintro e w1 ⟨he,k⟩;obtain rfl:e=.returned (.agg #[.bool false,.bool false,.bool false,.bool false,.bool false]):=he))
 have x:=(l.out.1.trans (k.mono l.out.1.size)).alloc (Jn l.out.1.size k.size) (U #[.bool false,.bool false,.bool false,.bool false,.bool false] 111);have i:=zB (o:=(U #[.bool false,.bool false,.bool false,.bool false,.bool false] 111)) (zH k l.out.2.1 (lt_of_block l.out.2.1));have g:=zB (o:=(U #[.bool false,.bool false,.bool false,.bool false,.bool false] 111)) (zH k l.out.2.2 (lt_of_block l.out.2.2));have h:=zI (W:=w1) (o:=(U #[.bool false,.bool false,.bool false,.bool false,.bool false] 111)) rfl;generalize w1.alloc (U #[.bool false,.bool false,.bool false,.bool false,.bool false] 111)=W2 at *;generalize w1.heap.size=bs at *;have p0:=K0 i;have p1:=K1 i;have p4:=K4 i;have o0:=K0 g;have o1:=K1 g;have o2:=K2 g;have o3:=K3 g;have o4:=K4 g;have o5:=K5 g;have s0:=K0 h;have s1:=K1 h;have s2:=K2 h;have s3:=K3 h;have s4:=K4 h;have l0:=lt_of_block i;have l1:=lt_of_block g;have l2:=lt_of_block h;have HB:=Ja x;clear x i g h k l;have hr:res=false:=by rw[<-d];simp;try omega
 subst hr;clear d;go_wp2;go_ret
 first|exact⟨rfl,HB.out⟩|exact⟨uz Zt,HB.out⟩
def kindF (t:ITerm):Bool:=
 if t.kind=1 then decide (t.to.length=1) && decide (t.a=0)
 else if t.kind=2 then decide (t.to.length=2)
 else if t.kind=3 then decide (1<=t.to.length)
 else if t.kind=4 then decide (t.to.length=0)
 else if t.kind=5 then decide (t.to.length=0) && decide (t.a=0)
 else false
theorem termF_eq (blocks:List IBlk)(t:ITerm):wn blocks t=(t.to.all (uM blocks) && kindF t):=rfl
theorem aaL{α:Type}{p:α->Bool}{l:List α}{x:α}(h:l[k]? =some x):(l.take (k+1)).all p=((l.take k).all p && p x):=by rw[Nh,h];simp
theorem ended_q{b7 tv:Value}(a5:wX w w.heap.size b7 blocks)(t:ITerm)(a2:wH w w.heap.size tv t.to):
 Y 74 #[.agg #[b7],.agg #[A t.kind,A t.a,tv]] w (ym w (wn blocks t)):=by
 obtain⟨fa,fc,rfl,d1,e7⟩:=a5.form;obtain⟨ta,tc,rfl,c5,e4⟩:=a2.form;obtain⟨tk,tA,tt⟩:=t;simp only at *;have e9:blocks.length<=9223372036854775807:=Zo;have e3:tt.length<=9223372036854775807:=Zo;rw[termF_eq];simp only;have y:=Ja (Jb a5 a2);obtain⟨q,hq⟩:∃q,kindF ⟨tk,tA,tt⟩=q:=⟨_,rfl⟩
 rw[hq];obtain⟨res,d⟩:∃r,(tt.all (uM blocks) && q)=r:=⟨_,rfl⟩
 rw[d];have a7:=Ja d;clear d;unfold kindF at hq;simp only at hq;have b5:=(((Below.refl w.heap.size w).alloc (Je _) (U #[.slice fa blocks.length fc] 43)).alloc Zs (U #[A tk,A tA,.slice ta tt.length tc] 47)).alloc Zt (U #[A 0,A 1,A 2,A (tt.length:Int),A 0,A 0] 173);have a1:=zB (o:=U #[A 0,A 1,A 2,A (tt.length:Int),A 0,A 0] 173) (zB (o:=U #[A tk,A tA,.slice ta tt.length tc] 47) (zI (W:=w) (o:=U #[.slice fa blocks.length fc] 43) rfl));have l:=zB (o:=U #[A 0,A 1,A 2,A (tt.length:Int),A 0,A 0] 173) (zI (W:=w.alloc (U #[.slice fa blocks.length fc] 43)) (o:=U #[A tk,A tA,.slice ta tt.length tc] 47) (B:=w.heap.size+1) Zs);have h:=zI (W:=(w.alloc (U #[.slice fa blocks.length fc] 43)).alloc (U #[A tk,A tA,.slice ta tt.length tc] 47)) (o:=U #[A 0,A 1,A 2,A (tt.length:Int),A 0,A 0] 173) (B:=w.heap.size+1+1) Zs;clear a5 a2 d1 c5;go_enter Try.func74,Try.ntmps74;go_upto_region 2 with fail;generalize ((w.alloc (U #[.slice fa blocks.length fc] 43)).alloc (U #[A tk,A tA,.slice ta tt.length tc] 47)).alloc (U #[A 0,A 1,A 2,A (tt.length:Int),A 0,A 0] 173)=W1 at *;have f0:=K0 a1;have t0:=K0 l;have t1:=K1 l;have t2:=K2 l;have m0:=K0 h;have m1:=K1 h;have m2:=K2 h;have m3:=K3 h;have m4:=K4 h;have m5:=K5 h;have l0:=lt_of_block a1;have l1:=lt_of_block l;have l2:=lt_of_block h;have g:=Ja b5;clear b5 a1 l h
 go_cut [55] (fun v wx=>v=.bool (!q)/\∃n,wx=W1.drewN n)
 case first=>
  clear y a7
  by_cases k1:tk<1
  ·have hr:q=false:=by rw[<-hq,if_neg Zo,if_neg Zo,if_neg Zo,if_neg Zo,if_neg Zo]
   subst hr;clear hq;go_quiet (fail);go_wp2;go_meet;exact⟨rfl,_,rfl⟩
  by_cases k2:5<tk
  ·have hr:q=false:=by rw[<-hq,if_neg Zo,if_neg Zo,if_neg Zo,if_neg Zo,if_neg Zo]
   subst hr;clear hq;go_quiet (fail);go_wp2;go_meet;exact⟨rfl,_,rfl⟩
  have c9:tk=1∨tk=2∨tk=3∨tk=4∨tk=5:=Zo;clear k1 k2;rcases c9 with rfl|rfl|rfl|rfl|rfl
  ·skip
   by_cases h1:tt.length=1
   rotate_left
   ·skip
    have hr:q=false:=by rw[<-hq];simp[h1];try omega
    subst hr;have i1:((tt.length:Int)==1)=false:=Ze;have c:((tt.length:Int) !=1)=true:=by rw[bne_iff_ne];omega
    clear hq h1;go_quiet (fail);go_wp2;go_meet;exact⟨rfl,_,rfl⟩
   by_cases h2:tA=0
   rotate_left
   ·skip
    have hr:q=false:=by rw[<-hq];simp[h1,h2];try omega
    subst hr;have i1:((tt.length:Int)==1)=true:=by rw[beq_iff_eq];omega
    have c:((tt.length:Int) !=1)=false:=by rw[bne_eq_false_iff_eq];omega
    have i2:(tA==0)=false:=Ze;have a0:(tA !=0)=true:=by rw[bne_iff_ne];omega
    clear hq h1 h2;go_quiet (fail);go_wp2;go_meet;exact⟨rfl,_,rfl⟩
   have hr:q=true:=by rw[<-hq];simp[h1,h2];try omega
   subst hr;have i1:((tt.length:Int)==1)=true:=by rw[beq_iff_eq];omega
   have c:((tt.length:Int) !=1)=false:=by rw[bne_eq_false_iff_eq];omega
   have i2:(tA==0)=true:=by rw[beq_iff_eq];omega
   have a0:(tA !=0)=false:=by rw[bne_eq_false_iff_eq];omega
   clear hq h1 h2;go_quiet (fail);go_wp2;go_meet;exact⟨rfl,_,rfl⟩
  ·skip
   by_cases h1:tt.length=2
   rotate_left
   ·skip
    have hr:q=false:=by rw[<-hq];simp[h1];try omega
    subst hr;have i1:((tt.length:Int)==2)=false:=Ze;have c:((tt.length:Int) !=2)=true:=by rw[bne_iff_ne];omega
    clear hq h1;go_quiet (fail);go_wp2;go_meet;exact⟨rfl,_,rfl⟩
   have hr:q=true:=by rw[<-hq];simp[h1];try omega
   subst hr;have i1:((tt.length:Int)==2)=true:=by rw[beq_iff_eq];omega
   have c:((tt.length:Int) !=2)=false:=by rw[bne_eq_false_iff_eq];omega
   clear hq h1;go_quiet (fail);go_wp2;go_meet;exact⟨rfl,_,rfl⟩
  ·skip
   by_cases h1:tt.length=0
   ·skip
    have hr:q=false:=by rw[<-hq];simp[h1];try omega
    subst hr;have i1:((tt.length:Int)==0)=true:=by rw[beq_iff_eq];omega
    have c:((tt.length:Int) !=0)=false:=by rw[bne_eq_false_iff_eq];omega
    clear hq h1;go_quiet (fail);go_wp2;go_meet;exact⟨rfl,_,rfl⟩
   have hr:q=true:=by rw[<-hq];simp[h1];try omega
   subst hr;have i1:((tt.length:Int)==0)=false:=Ze;have c:((tt.length:Int) !=0)=true:=by rw[bne_iff_ne];omega
   clear hq h1;go_quiet (fail);go_wp2;go_meet;exact⟨rfl,_,rfl⟩
  ·skip
   by_cases h1:tt.length=0
   rotate_left
   ·skip
    have hr:q=false:=by rw[<-hq];simp[h1];try omega
    subst hr;have i1:((tt.length:Int)==0)=false:=Ze;have c:((tt.length:Int) !=0)=true:=by rw[bne_iff_ne];omega
    clear hq h1;go_quiet (fail);go_wp2;go_meet;exact⟨rfl,_,rfl⟩
   have hr:q=true:=by rw[<-hq];simp[h1];try omega
   subst hr;have i1:((tt.length:Int)==0)=true:=by rw[beq_iff_eq];omega
   have c:((tt.length:Int) !=0)=false:=by rw[bne_eq_false_iff_eq];omega
   clear hq h1;go_quiet (fail);go_wp2;go_meet;exact⟨rfl,_,rfl⟩
  ·skip
   by_cases h1:tt.length=0
   rotate_left
   ·skip
    have hr:q=false:=by rw[<-hq];simp[h1];try omega
    subst hr;have i1:((tt.length:Int)==0)=false:=Ze;have c:((tt.length:Int) !=0)=true:=by rw[bne_iff_ne];omega
    clear hq h1;go_quiet (fail);go_wp2;go_meet;exact⟨rfl,_,rfl⟩
   by_cases h2:tA=0
   rotate_left
   ·skip
    have hr:q=false:=by rw[<-hq];simp[h1,h2];try omega
    subst hr;have i1:((tt.length:Int)==0)=true:=by rw[beq_iff_eq];omega
    have c:((tt.length:Int) !=0)=false:=by rw[bne_eq_false_iff_eq];omega
    have i2:(tA==0)=false:=Ze;have a0:(tA !=0)=true:=by rw[bne_iff_ne];omega
    clear hq h1 h2;go_quiet (fail);go_wp2;go_meet;exact⟨rfl,_,rfl⟩
   have hr:q=true:=by rw[<-hq];simp[h1,h2];try omega
   subst hr;have i1:((tt.length:Int)==0)=true:=by rw[beq_iff_eq];omega
   have c:((tt.length:Int) !=0)=false:=by rw[bne_eq_false_iff_eq];omega
   have i2:(tA==0)=true:=by rw[beq_iff_eq];omega
   have a0:(tA !=0)=false:=by rw[bne_eq_false_iff_eq];omega
   clear hq h1 h2;go_quiet (fail);go_wp2;go_meet;exact⟨rfl,_,rfl⟩
 case rest=>
  obtain⟨rfl,n,rfl⟩:=hcut;have f0:(W1.drewN n).cell? ⟨w.heap.size,0,none⟩=_:=f0;have t2:(W1.drewN n).cell? ⟨w.heap.size+1,2,none⟩=_:=t2;have l0:w.heap.size<(W1.drewN n).heap.size:=l0;have l1:w.heap.size+1<(W1.drewN n).heap.size:=l1;have g:=Ja (yC (k:=n) g.out);clear hq t0 t1 m0 m1 m2 m3 m4 m5 l2;generalize W1.drewN n=wc at *
  cases q with
  |false=>
   have hr:res=false:=by rw[<-a7.out,Uh]
   subst hr;go_wp2;go_ret
   exact⟨rfl,g.out⟩
  |true=>
   have d:=a7.out;rw[Bool.and_true] at d;have a6:=Ja d;have HT:=Ja (Jb (y.out.1.below yT g.out) (y.out.2.below xL g.out));have HC:=Ja (show ∀W,F wc W->G W w.heap.size 0 (.slice fa blocks.length fc)/\G W (w.heap.size+1) 2 (.slice ta tt.length tc)/\w.heap.size<W.heap.size/\w.heap.size+1<W.heap.size from fun W hb=>⟨zV hb l0 f0,zV hb l1 t2,Jy l0 hb.size,Jy l1 hb.size⟩);clear d y;go_wp2;clear f0 t2 l0 l1
   go_loopw [6] (fun kv wx=>∃k:Nat,k<=tt.length/\kv=A k/\Hid (F wc wx/\(tt.take k).all (uM blocks)=true)) (fun kv _=>tt.length-(intOf kv).toNat)
   case atStart=>exact⟨0,Jt _,rfl,Ja ⟨Below.refl _ _,by simp⟩⟩
   case round=>
    obtain⟨k,hk,rfl,j⟩:=hrel;obtain⟨f0,t2,l0,l1⟩:=HC.out _ j.out.1
    by_cases u:k<tt.length
    ·have c0:(k:Int)<tt.length:=Zo;have b8:=Ja u;obtain⟨e,he⟩:∃e,tt[k]? =some e:=⟨_,Jd u⟩
     have HE:=Ja he;have a3:=g.out.size;obtain⟨eb,eo,rfl,d5,d2,h64,av,e8,b6⟩:=((HT.out.2.mono xL (B':=wc.heap.size) a3).below xL j.out.1).get he;obtain⟨va,vc,rfl,c4,e2⟩:=b6.form;have d6:eb<wr.heap.size:=Jw _ _ d2;have f2:e.args.length<=9223372036854775807:=Zo;have b4:=(HT.out.1.mono yT (B':=wc.heap.size) a3).below yT j.out.1;clear he u c4 b6;go_upto_region 8 with fail;have hx:=zI (W:=wr) (o:=U #[A e.block,.slice va e.args.length vc] 75) rfl;have m:=(Below.refl wr.heap.size wr).alloc (Je _) (U #[A e.block,.slice va e.args.length vc] 75);have d3:=zV m l0 f0;have c2:=zV m l1 t2;have x:=Ja (j.out.1.trans (m.mono j.out.1.size));have i:=b4.below yT (m.mono j.out.1.size);generalize wr.alloc (U #[A e.block,.slice va e.args.length vc] 75)=W2 at *;generalize wr.heap.size=be at *;have e0:=K0 hx;have e1:=K1 hx;have d7:=lt_of_block hx;have d9:=Jw _ _ d3
     have b2:∀r,uM blocks e=false->res=r->r=false:=fun r he2 hr=>by
      rw[<-hr,<-a6.out,Um];exact⟨e,Ji HE.out,by rw[he2];decide⟩
     have b0:=Ja b2;clear b2 f0 t2 l0 l1 b4 m hx c2 a3
     by_cases h1:e.block<1
     ·have hr:=b0.out res (by unfold uM;rw[decide_eq_false (show ¬1<=e.block by omega)];rfl) rfl;subst hr;have j1:decide (e.block<1)=true:=decide_eq_true h1;clear i;go_quiet (fail);go_wp2;go_ret;exact⟨rfl,g.out.trans (yC (x.out.mono g.out.size))⟩
     have j1:decide (e.block<1)=false:=decide_eq_false h1
     by_cases h2:(blocks.length:Int)<=e.block
     ·have hr:=b0.out res (by unfold uM;rw[decide_eq_false (show ¬e.block<(blocks.length:Int) by omega),Uh];rfl) rfl;subst hr;have j2:decide ((blocks.length:Int)<=e.block)=true:=decide_eq_true h2;clear i;go_quiet (fail);go_wp2;go_ret;exact⟨rfl,g.out.trans (yC (x.out.mono g.out.size))⟩
     have j2:decide ((blocks.length:Int)<=e.block)=false:=decide_eq_false h2;obtain⟨kb,a4⟩:∃kb:Nat,e.block=(kb:Int):=⟨e.block.toNat,by omega⟩
     have c8:kb<blocks.length:=Zo;have d0:(kb:Int)<(blocks.length:Int):=Zo;obtain⟨bb,bo,rfl,f1,_,_,_,pv,ov,tv,kp,_,_,b1,_,_⟩:=i.get (rh c8);obtain⟨pa,pc,rfl,c7,e5⟩:=b1.form;have e6:(xz blocks (kb:Int)).params.length<=9223372036854775807:=Zo;have d8:bb<W2.heap.size:=Jw _ _ kp;rw[a4] at j1 j2 h1 h2 e0
     have b3:uM blocks e=decide (e.args.length=(xz blocks (kb:Int)).params.length):=by
      unfold uM;rw[a4,decide_eq_true (show(1:Int)<=(kb:Int) by omega),decide_eq_true d0];rfl
     have b9:=Ja b3;clear i a4 b1 c7 b3;generalize (xz blocks (kb:Int)).params.length=pn at *
     by_cases h3:e.args.length=pn
     ·have j3:((e.args.length:Int)==(pn:Int))=true:=by rw[beq_iff_eq];omega
      have c3:((e.args.length:Int) !=(pn:Int))=false:=by rw[bne_eq_false_iff_eq];omega
      have d4:=Ja (show uM blocks e=true by rw[b9.out];exact decide_eq_true h3);clear h3;go_quiet (fail);go_wp2;go_roundw
      case rel=>exact⟨k+1,b8.out,by go_num,Ja ⟨yC x.out,by rw[aaL HE.out,j.out.2,d4.out];rfl⟩⟩
      case measure=>have:=b8.out;simp[intOf];omega
     ·have hr:=b0.out res (by rw[b9.out];exact decide_eq_false h3) rfl;subst hr;have j3:((e.args.length:Int)==(pn:Int))=false:=Ze;have c3:((e.args.length:Int) !=(pn:Int))=true:=by rw[bne_iff_ne];omega
      go_quiet (fail);go_wp2;go_ret;exact⟨rfl,g.out.trans (yC (x.out.mono g.out.size))⟩
    ·obtain rfl:k=tt.length:=by omega
     have c0:¬(tt.length:Int)<tt.length:=Zo;have hr:res=true:=by rw[<-a6.out];have:=j.out.2;rwa [Nl] at this
     subst hr;clear u;go_wp2;go_ret;exact⟨rfl,g.out.trans (j.out.1.mono g.out.size)⟩
def DefR (w:World)(B b q:Nat)(x:Int×Int):Prop:=G w b q (A x.1)/\G w b (q+1) (A x.2)
theorem aa5:vV DefR:=⟨fun w w' B b q x hB hb h=>⟨zV hb hB h.1,zV hb hB h.2⟩,fun w B B' b q x _ h=>h⟩
def dE (xs:List (Int×Int))(m:Nat)(d:wO):Prop:=
 (∀(v:Nat) (b a:Int),xs[v]? =some (b,a)->(b<0->d.1 v=none)/\(0<=b->d.1 v=some b/\d.2 v=some a/\b.toNat<m))/\∀x:Int,(x<0∨(xs.length:Int)<=x)->d.1 x=none
theorem dC{d:wO}{k v:Int}(h:d.1 v=none):yy d g i k v=false:=by unfold yy;rw[h]
theorem aK{d:wO}{k v b a:Int}(h:d.1 v=some b)(h2:d.2 v=some a):yy d g i k v=(!(decide (b=i) && decide (k<=a)) && wE g b.toNat i.toNat):=by unfold yy;rw[h,h2]
theorem known_q{dv mv:Value}{l:List Int}{xs:List (Int×Int)}{M:List (List Bool)}{d:wO}{i:Nat}{k:Int}(hl:zY w w.heap.size lv l)(hd:yN 2 DefR w w.heap.size dv xs)(hm:aaB uo w w.heap.size mv M)
 (b5:dE xs g.length d) (b8:M.length=g.length) (b7:∀b,b<g.length->∃r,M[b]? =some r/\r.length=g.length/\∀j,j<g.length->r[j]? =some (wE g b j)) (hi:i<g.length) (b4:g.length<=2000000):
 Y 77 #[lv,A i,A k,dv,mv] w (ym w (l.all (yy d g i k))):=by
 obtain⟨la,lc,rfl,d0,e8⟩:=hl.form;obtain⟨da,dc,rfl,d5,f2⟩:=hd.form
 obtain⟨ma,mc,rfl⟩:∃ma mc,mv=.slice ma M.length mc:=by
  obtain⟨vs,⟨a,cap,e,_⟩,h2,_⟩:=hm;rw[h2] at e;exact⟨a,cap,e⟩
 have e9:l.length<=9223372036854775807:=Zo;have e6:xs.length<=9223372036854775807:=Zo;have e7:M.length<=9223372036854775807:=Zo;have HL:=Ja (Jb hl (Jb hd hm));have d8:=Ja b4;have y:=Ja (Jb b5 (Jb b8 (Jb b7 hi)));obtain⟨res,u⟩:∃r,l.all (yy d g i k)=r:=⟨_,rfl⟩
 rw[u];have b0:=Ja u;clear hl hd hm b5 b8 b7 hi d0 d5 u b4;go_enter Try.func77,Try.ntmps77;go_wp2
 go_loopw [11] (fun jv wx=>∃j:Nat,j<=l.length/\jv=A j/\Hid (F w wx/\(l.take j).all (yy d g i k)=true)) (fun jv _=>l.length-(intOf jv).toNat)
 case atStart=>exact⟨0,Jt _,rfl,Ja ⟨Below.refl _ _,by simp⟩⟩
 case round=>
  obtain⟨j,hj,rfl,c⟩:=hrel
  by_cases a0:j<l.length
  ·have c5:(j:Int)<l.length:=Zo;have a4:=Ja a0;obtain⟨v,hv⟩:∃v,l[j]? =some v:=⟨_,Jd a0⟩
   have HV:=Ja hv;obtain⟨lb,lo,rfl,d1,hc,d9⟩:=(HL.out.1.below zO c.out.1).get hv;rw[Nk] at hc;have e5:lb<wr.heap.size:=Jw _ _ hc;have HF:=Ja (show yy d g i k v=false->res=false from fun h=>by rw[<-b0.out,Um];exact⟨v,Ji HV.out,by rw[h];decide⟩);clear hv a0 d1
   by_cases v1:v<0
   ·have hr:=HF.out (dC (y.out.1.2 v (.inl v1)));subst hr;go_wp2;go_ret;exact⟨rfl,c.out.1⟩
   by_cases v2:(xs.length:Int)<=v
   ·have hr:=HF.out (dC (y.out.1.2 v (.inr v2)));subst hr;go_wp2;go_ret;exact⟨rfl,c.out.1⟩
   obtain⟨kv,d2⟩:∃kv:Nat,v=(kv:Int):=⟨v.toNat,by omega⟩
   subst d2;have a7:kv<xs.length:=Zo;have f0:(kv:Int)<(xs.length:Int):=Zo;obtain⟨⟨b,a⟩,a3⟩:∃x,xs[kv]? =some x:=⟨_,Jd a7⟩
   obtain⟨eb,eo,rfl,d4,c1,c2⟩:=(HL.out.2.1.below aa5 c.out.1).get a3;have e4:eb<wr.heap.size:=Jw _ _ c1;obtain⟨g1,g2⟩:=y.out.1.1 kv b a a3;simp only at c1 c2
   by_cases v3:b<0
   ·have hr:=HF.out (dC (g1 v3));subst hr;clear g1 g2 a3 a7;go_wp2;go_ret;exact⟨rfl,c.out.1⟩
   obtain⟨g3,g4,g5⟩:=g2 Zo;have a1:=aK (g:=g) (i:=(i:Int)) (k:=k) g3 g4;obtain⟨kb,d3⟩:∃kb:Nat,b=(kb:Int):=⟨b.toNat,by omega⟩
   subst d3;rw[Ni] at g5 a1;rw[Ni] at a1;obtain⟨r,a6,c8,b3⟩:=y.out.2.2.1 kb g5;obtain⟨vs,⟨a',e1,ev,_,a2⟩,b1,a5⟩:=HL.out.2.2.below c.out.1;obtain⟨rv,t⟩:∃rv,vs[kb]? =some rv:=⟨_,Jd (by rw[b1];exact(Jh.1 a6).1)⟩
   obtain⟨mb,mo,em,c9,c3⟩:=a2 kb rv t;subst em;obtain⟨ra,rc,rfl,_,b2⟩:=a5 kb rv r t a6;obtain⟨rb,ro,rfl,c7,c4⟩:=b2 i _ (b3 i y.out.2.2.2);simp only[Value.slice.injEq] at ev;obtain⟨d7,_,d6⟩:=ev;subst d7 d6;unfold uo at c4;simp only[id] at c3;have e3:mb<wr.heap.size:=Jw _ _ c3;have e2:rb<wr.heap.size:=Jw _ _ c4;have e0:(kb:Int)<(M.length:Int):=by have:=y.out.2.1;omega
   have f1:(i:Int)<(r.length:Int):=by have:=y.out.2.2.2;omega
   have hrl:r.length<=9223372036854775807:=by have:=d8.out;omega
   have c0:=Ja a1;have b6:=(Below.refl wr.heap.size wr).alloc (Je _) (U #[A kb,A a] 175);have m:=Ja (c.out.1.trans (b6.mono c.out.1.size));clear g1 g2 g3 g4 g5 a3 a7 a6 c8 b3 a1 b6 d4 c9 c7 a2 a5 b2 b1 t;obtain⟨q,hq⟩:∃q,wE g kb i=q:=⟨_,rfl⟩
   rw[hq] at c4 c0;have b9:∀p:Bool,(!(decide ((kb:Int)=(i:Int)) && decide (k<=a)) && q)=p->yy d g i k (kv:Int)=p:=fun p h=>c0.out.trans h
   have o:=Ja b9;clear b9 hq
   by_cases v4:(kb:Int)=(i:Int)
   ·have i4:((kb:Int)==(i:Int))=true:=by rw[beq_iff_eq];exact v4
    by_cases v5:k<=a
    ·have hr:=HF.out (o.out false (by simp[v4,v5]));subst hr;clear v4;go_wp2;go_ret;exact⟨rfl,m.out⟩
    ·cases q with
     |false=>
      have hr:=HF.out (o.out false Zs);subst hr;clear v4;go_wp2;go_ret
      exact⟨rfl,m.out⟩
     |true=>
      have HT:=Ja (o.out true (by simp[v5]));clear v4;go_wp2;go_roundw
      case rel=>exact⟨j+1,a4.out,by go_num,Ja ⟨m.out,by rw[aaL HV.out,c.out.2,HT.out];rfl⟩⟩
      case measure=>have:=a4.out;simp[intOf];omega
   ·have i4:((kb:Int)==(i:Int))=false:=by rw[beq_eq_false_iff_ne];exact v4
    cases q with
    |false=>
     have hr:=HF.out (o.out false Zs);subst hr;go_wp2;go_ret
     exact⟨rfl,m.out⟩
    |true=>
     have HT:=Ja (o.out true Zt);go_wp2;go_roundw
     case rel=>exact⟨j+1,a4.out,by go_num,Ja ⟨m.out,by rw[aaL HV.out,c.out.2,HT.out];rfl⟩⟩
     case measure=>have:=a4.out;simp[intOf];omega
  ·obtain rfl:j=l.length:=by omega
   have c5:¬(l.length:Int)<l.length:=Zo;have hr:res=true:=by rw[<-b0.out];have:=c.out.2;rwa [Nl] at this
   subst hr;clear a0;go_wp2;go_ret;exact⟨rfl,c.out.1⟩
theorem rUses_00(o:IOp)(ho:I64 o.code/\I64 o.res/\I64 o.a/\I64 o.b/\o.n<65536){av:Value}{B:Nat}(hB:B<=w.heap.size)(g:zY w B av o.args)(r:o.args.length<=1000000000000)(a2:(zi o.code).a=false)(a1:(zi o.code).b=false):
 Y 78 #[.agg #[A o.code,A o.res,A o.a,A o.b,I (o.n:Int),av]] w (wG w ([]++o.args)):=by
 obtain⟨aa,ac,rfl,b3,b2⟩:=g.form;obtain⟨ii,b0,a6,a5,a4⟩:=info_parts Try.info_int
 obtain⟨q1,q2,q3,hf⟩:∃q1 q2 q3,∀W,Y 54 #[A o.code] W fun e w'=>e=.returned (.agg #[.bool q1,.bool q2,.bool false,.bool false,.bool q3])/\F W w':=
  ⟨(zi o.code).is,(zi o.code).res,(zi o.code).n,fun W=>by have:=dJ o.code rfl W;unfold wL acg at this;rw[a2,a1] at this;exact this⟩
 have HF:=Ja hf;have i:=Ja (show zY w B (.slice aa o.args.length ac) o.args/\B<=w.heap.size/\o.args.length<=1000000000000 from⟨g,hB,r⟩);have HO:=Ja ho
 have m:∀x∈ []++o.args,I64 x:=by
  intro x j;rcases Jl.1 j with j|j
  ·simp at j
  ·exact zY.all g x j
 have b5:=Ja m;have a0:=zI (W:=w) (o:=U (D o aa ac) 77) rfl;have a3:F w (w.alloc (U (D o aa ac) 77)):=(Below.refl _ _).alloc (Je _) _;have d:=Ja (Jb a0 a3);clear hf g hB r ho m a0 a3 b3 b2 a2 a1;go_enter Try.func78,Try.ntmps78;go_upto_region 2 with(first|(go_at_call 54;go_must (refine(HF.out _).mono ?_;rintro e w1 ⟨rfl,h⟩))|go_in)
 have hb:=(d.out.2.trans (h.mono d.out.2.size)).alloc (by have:=d.out.2.size;have:=h.size;omega) (U #[.bool q1,.bool q2,.bool false,.bool false,.bool q3] 111);have y:=zB (o:=U #[.bool q1,.bool q2,.bool false,.bool false,.bool q3] 111) (zH h d.out.1 (lt_of_block d.out.1));have u:=zI (W:=w1) (o:=U #[.bool q1,.bool q2,.bool false,.bool false,.bool q3] 111) rfl;generalize b4:w1.alloc (U #[.bool q1,.bool q2,.bool false,.bool false,.bool q3] 111)=W1 at *;generalize b1:w1.heap.size=c1 at *;have own0:W1.ownsRow w.heap.size 3 1 (O) 0 []:=Jv W1 _ _ _;have c:=Ja (show F w W1/\L W1 w.heap.size (D o aa ac) 77/\L W1 c1 #[.bool q1,.bool q2,.bool false,.bool false,.bool q3] 111/\W1.ownsRow w.heap.size 3 1 (O) 0 [] from⟨hb,y,u,own0⟩);clear b4 b1 h hb y u own0;have x2:=K2 c.out.2.1;have x3:=K3 c.out.2.1;have x5:=K5 c.out.2.1;have f1:=K2 c.out.2.2.1;have f2:=K3 c.out.2.2.1;go_upto_region 5 with fail;clear x2 x3 x5 f1 f2;have x2:=K2 c.out.2.1;have x3:=K3 c.out.2.1;have x5:=K5 c.out.2.1;have f1:=K2 c.out.2.2.1;have f2:=K3 c.out.2.2.1;go_upto_region 7 with fail;clear x2 x3 x5 f1 f2;have x2:=K2 c.out.2.1;have x3:=K3 c.out.2.1;have x5:=K5 c.out.2.1;have f1:=K2 c.out.2.2.1;have f2:=K3 c.out.2.2.1;have k:=zY.src (i.out.1.below zO (c.out.1.mono i.out.2.1));have a7:=Ja k;clear k;go_wp2_with (at_builtin;go_must (refine zK _ rfl (.tmp 22) (.tmp 24) 22 rfl w.heap.size 3 ii (A 0) 1 8 Try.underlying22 b0 a6 a5 a4 rfl Zd (O) 0 (([]:List Int).map zN) rfl c.out.2.2.2 _ o.args.length (o.args.map zN) rfl a7.out (by have:=i.out.2.2;unfold maxLen;omega) (by have:=i.out.2.2;omega) c.out.1.size ?_;intro v9 w9 l t b6))
 go_ret;refine⟨v9,rfl,?_,yP c.out.1 t c.out.1.size (wF c.out.2.2.2)⟩;rw[<-Js] at l;exact uA l (by simp<;>omega) b5.out
theorem rUses_01(o:IOp)(ho:I64 o.code/\I64 o.res/\I64 o.a/\I64 o.b/\o.n<65536){av:Value}{B:Nat}(hB:B<=w.heap.size)(j:zY w B av o.args)(a1:o.args.length<=1000000000000)(b1:(zi o.code).a=false)(b0:(zi o.code).b=true):
 Y 78 #[.agg #[A o.code,A o.res,A o.a,A o.b,I (o.n:Int),av]] w (wG w ([o.b]++o.args)):=by
 obtain⟨aa,ac,rfl,b8,b7⟩:=j.form;obtain⟨ii,a7,u,t,r⟩:=info_parts Try.info_int
 obtain⟨q1,q2,q3,hf⟩:∃q1 q2 q3,∀W,Y 54 #[A o.code] W fun e w'=>e=.returned (.agg #[.bool q1,.bool q2,.bool false,.bool true,.bool q3])/\F W w':=
  ⟨(zi o.code).is,(zi o.code).res,(zi o.code).n,fun W=>by have:=dJ o.code rfl W;unfold wL acg at this;rw[b1,b0] at this;exact this⟩
 have HF:=Ja hf;have l:=Ja (show zY w B (.slice aa o.args.length ac) o.args/\B<=w.heap.size/\o.args.length<=1000000000000 from⟨j,hB,a1⟩);have HO:=Ja ho
 have a0:∀x∈ [o.b]++o.args,I64 x:=by
  intro x m;rcases Jl.1 m with m|m
  ·simp at m;rw[m];exact ho.2.2.2.1
  ·exact zY.all j x m
 have c0:=Ja a0;have a6:=zI (W:=w) (o:=U (D o aa ac) 77) rfl;have b3:F w (w.alloc (U (D o aa ac) 77)):=(Below.refl _ _).alloc (Je _) _;have i:=Ja (Jb a6 b3);clear hf j hB a1 ho a0 a6 b3 b8 b7 b1 b0;go_enter Try.func78,Try.ntmps78;go_upto_region 2 with(first|(go_at_call 54;go_must (refine(HF.out _).mono ?_;rintro e w1 ⟨rfl,k⟩))|go_in)
 have hb:=(i.out.2.trans (k.mono i.out.2.size)).alloc (by have:=i.out.2.size;have:=k.size;omega) (U #[.bool q1,.bool q2,.bool false,.bool true,.bool q3] 111);have a5:=zB (o:=U #[.bool q1,.bool q2,.bool false,.bool true,.bool q3] 111) (zH k i.out.1 (lt_of_block i.out.1));have a3:=zI (W:=w1) (o:=U #[.bool q1,.bool q2,.bool false,.bool true,.bool q3] 111) rfl;generalize b9:w1.alloc (U #[.bool q1,.bool q2,.bool false,.bool true,.bool q3] 111)=W1 at *;generalize b6:w1.heap.size=c1 at *;have own0:W1.ownsRow w.heap.size 3 1 (O) 0 []:=Jv W1 _ _ _;have c:=Ja (show F w W1/\L W1 w.heap.size (D o aa ac) 77/\L W1 c1 #[.bool q1,.bool q2,.bool false,.bool true,.bool q3] 111/\W1.ownsRow w.heap.size 3 1 (O) 0 [] from⟨hb,a5,a3,own0⟩);clear b9 b6 k hb a5 a3 own0;have x2:=K2 c.out.2.1;have x3:=K3 c.out.2.1;have x5:=K5 c.out.2.1;have f1:=K2 c.out.2.2.1;have f2:=K3 c.out.2.2.1;go_upto_region 5 with fail;clear x2 x3 x5 f1 f2;have x2:=K2 c.out.2.1;have x3:=K3 c.out.2.1;have x5:=K5 c.out.2.1;have f1:=K2 c.out.2.2.1;have f2:=K3 c.out.2.2.1;go_upto_region 7 with(at_builtin;go_must (refine zK _ rfl (.tmp 17) (.tmp 20) 22 rfl w.heap.size 3 ii (A 0) 1 8 Try.underlying22 a7 u t r rfl Zd (O) 0 (([]:List Int).map zN) rfl (c.out.2.2.2.alloc _) _ 1 [A o.b] rfl (yM.one (zI Zs) (by simp[Value.oneCell'])) Zd Zd (by have:=c.out.1.size;simp;omega) ?_;intro v2 W2 g d b4))
 have b2:F w W2:=yP (c.out.1.alloc c.out.1.size _) d (by have:=c.out.1.size;simp;omega) (wF c.out.2.2.2);have a4:=zL d (zB c.out.2.1) (zC c.out.2.2.2 c.out.2.1 (.inr Zd));have a2:=zL d (zB c.out.2.2.1) (zC c.out.2.2.2 c.out.2.2.1 (.inr Zd));have h:=Ja (show F w W2/\L W2 w.heap.size (D o aa ac) 77/\L W2 c1 #[.bool q1,.bool q2,.bool false,.bool true,.bool q3] 111/\W2.ownsRow w.heap.size 3 1 v2 1 (([o.b]:List Int).map zN) from⟨b2,a4,a2,g⟩);clear x2 x3 x5 f1 f2 b2 a4 a2 g d b4;have x2:=K2 h.out.2.1;have x3:=K3 h.out.2.1;have x5:=K5 h.out.2.1;have f1:=K2 h.out.2.2.1;have f2:=K3 h.out.2.2.1;have y:=zY.src (l.out.1.below zO (h.out.1.mono l.out.2.1));have b5:=Ja y;clear y;go_wp2_with (at_builtin;go_must (refine zK _ rfl (.tmp 22) (.tmp 24) 22 rfl w.heap.size 3 ii (A 0) 1 8 Try.underlying22 a7 u t r rfl Zd v2 1 (([o.b]:List Int).map zN) rfl h.out.2.2.2 _ o.args.length (o.args.map zN) rfl b5.out (by have:=l.out.2.2;unfold maxLen;omega) (by have:=l.out.2.2;omega) h.out.1.size ?_;intro v9 w9 g d b4))
 go_ret;refine⟨v9,rfl,?_,yP h.out.1 d h.out.1.size (wF h.out.2.2.2)⟩;rw[<-Js] at g;exact uA g (by simp<;>omega) c0.out
theorem rUses_10(o:IOp)(ho:I64 o.code/\I64 o.res/\I64 o.a/\I64 o.b/\o.n<65536){av:Value}{B:Nat}(hB:B<=w.heap.size)(j:zY w B av o.args)(a1:o.args.length<=1000000000000)(b1:(zi o.code).a=true)(b0:(zi o.code).b=false):
 Y 78 #[.agg #[A o.code,A o.res,A o.a,A o.b,I (o.n:Int),av]] w (wG w ([o.a]++o.args)):=by
 obtain⟨aa,ac,rfl,b8,b7⟩:=j.form;obtain⟨ii,a7,u,t,r⟩:=info_parts Try.info_int
 obtain⟨q1,q2,q3,hf⟩:∃q1 q2 q3,∀W,Y 54 #[A o.code] W fun e w'=>e=.returned (.agg #[.bool q1,.bool q2,.bool true,.bool false,.bool q3])/\F W w':=
  ⟨(zi o.code).is,(zi o.code).res,(zi o.code).n,fun W=>by have:=dJ o.code rfl W;unfold wL acg at this;rw[b1,b0] at this;exact this⟩
 have HF:=Ja hf;have l:=Ja (show zY w B (.slice aa o.args.length ac) o.args/\B<=w.heap.size/\o.args.length<=1000000000000 from⟨j,hB,a1⟩);have HO:=Ja ho
 have a0:∀x∈ [o.a]++o.args,I64 x:=by
  intro x m;rcases Jl.1 m with m|m
  ·simp at m;rw[m];exact ho.2.2.1
  ·exact zY.all j x m
 have c0:=Ja a0;have a6:=zI (W:=w) (o:=U (D o aa ac) 77) rfl;have b3:F w (w.alloc (U (D o aa ac) 77)):=(Below.refl _ _).alloc (Je _) _;have i:=Ja (Jb a6 b3);clear hf j hB a1 ho a0 a6 b3 b8 b7 b1 b0;go_enter Try.func78,Try.ntmps78;go_upto_region 2 with(first|(go_at_call 54;go_must (refine(HF.out _).mono ?_;rintro e w1 ⟨rfl,k⟩))|go_in)
 have hb:=(i.out.2.trans (k.mono i.out.2.size)).alloc (by have:=i.out.2.size;have:=k.size;omega) (U #[.bool q1,.bool q2,.bool true,.bool false,.bool q3] 111);have a5:=zB (o:=U #[.bool q1,.bool q2,.bool true,.bool false,.bool q3] 111) (zH k i.out.1 (lt_of_block i.out.1));have a3:=zI (W:=w1) (o:=U #[.bool q1,.bool q2,.bool true,.bool false,.bool q3] 111) rfl;generalize b9:w1.alloc (U #[.bool q1,.bool q2,.bool true,.bool false,.bool q3] 111)=W1 at *;generalize b6:w1.heap.size=c1 at *;have own0:W1.ownsRow w.heap.size 3 1 (O) 0 []:=Jv W1 _ _ _;have c:=Ja (show F w W1/\L W1 w.heap.size (D o aa ac) 77/\L W1 c1 #[.bool q1,.bool q2,.bool true,.bool false,.bool q3] 111/\W1.ownsRow w.heap.size 3 1 (O) 0 [] from⟨hb,a5,a3,own0⟩);clear b9 b6 k hb a5 a3 own0;have x2:=K2 c.out.2.1;have x3:=K3 c.out.2.1;have x5:=K5 c.out.2.1;have f1:=K2 c.out.2.2.1;have f2:=K3 c.out.2.2.1;go_upto_region 5 with(at_builtin;go_must (refine zK _ rfl (.tmp 10) (.tmp 13) 22 rfl w.heap.size 3 ii (A 0) 1 8 Try.underlying22 a7 u t r rfl Zd (O) 0 (([]:List Int).map zN) rfl (c.out.2.2.2.alloc _) _ 1 [A o.a] rfl (yM.one (zI Zs) (by simp[Value.oneCell'])) Zd Zd (by have:=c.out.1.size;simp;omega) ?_;intro v2 W2 h d b4))
 have b2:F w W2:=yP (c.out.1.alloc c.out.1.size _) d (by have:=c.out.1.size;simp;omega) (wF c.out.2.2.2);have a4:=zL d (zB c.out.2.1) (zC c.out.2.2.2 c.out.2.1 (.inr Zd));have a2:=zL d (zB c.out.2.2.1) (zC c.out.2.2.2 c.out.2.2.1 (.inr Zd));have g:=Ja (show F w W2/\L W2 w.heap.size (D o aa ac) 77/\L W2 c1 #[.bool q1,.bool q2,.bool true,.bool false,.bool q3] 111/\W2.ownsRow w.heap.size 3 1 v2 1 (([o.a]:List Int).map zN) from⟨b2,a4,a2,h⟩);clear x2 x3 x5 f1 f2 b2 a4 a2 h d b4;have x2:=K2 g.out.2.1;have x3:=K3 g.out.2.1;have x5:=K5 g.out.2.1;have f1:=K2 g.out.2.2.1;have f2:=K3 g.out.2.2.1;go_upto_region 7 with fail;clear x2 x3 x5 f1 f2;have x2:=K2 g.out.2.1;have x3:=K3 g.out.2.1;have x5:=K5 g.out.2.1;have f1:=K2 g.out.2.2.1;have f2:=K3 g.out.2.2.1;have y:=zY.src (l.out.1.below zO (g.out.1.mono l.out.2.1));have b5:=Ja y;clear y;go_wp2_with (at_builtin;go_must (refine zK _ rfl (.tmp 22) (.tmp 24) 22 rfl w.heap.size 3 ii (A 0) 1 8 Try.underlying22 a7 u t r rfl Zd v2 1 (([o.a]:List Int).map zN) rfl g.out.2.2.2 _ o.args.length (o.args.map zN) rfl b5.out (by have:=l.out.2.2;unfold maxLen;omega) (by have:=l.out.2.2;omega) g.out.1.size ?_;intro v9 w9 h d b4))
 go_ret;refine⟨v9,rfl,?_,yP g.out.1 d g.out.1.size (wF g.out.2.2.2)⟩;rw[<-Js] at h;exact uA h (by simp<;>omega) c0.out
theorem rUses_11(o:IOp)(ho:I64 o.code/\I64 o.res/\I64 o.a/\I64 o.b/\o.n<65536){av:Value}{B:Nat}(hB:B<=w.heap.size)(y:zY w B av o.args)(a5:o.args.length<=1000000000000)(b3:(zi o.code).a=true)(b2:(zi o.code).b=true):
 Y 78 #[.agg #[A o.code,A o.res,A o.a,A o.b,I (o.n:Int),av]] w (wG w ([o.a,o.b]++o.args)):=by
 obtain⟨aa,ac,rfl,b8,b7⟩:=y.form;obtain⟨ii,a6,u,t,r⟩:=info_parts Try.info_int
 obtain⟨q1,q2,q3,hf⟩:∃q1 q2 q3,∀W,Y 54 #[A o.code] W fun e w'=>e=.returned (.agg #[.bool q1,.bool q2,.bool true,.bool true,.bool q3])/\F W w':=
  ⟨(zi o.code).is,(zi o.code).res,(zi o.code).n,fun W=>by have:=dJ o.code rfl W;unfold wL acg at this;rw[b3,b2] at this;exact this⟩
 have HF:=Ja hf;have a2:=Ja (show zY w B (.slice aa o.args.length ac) o.args/\B<=w.heap.size/\o.args.length<=1000000000000 from⟨y,hB,a5⟩);have HO:=Ja ho
 have a4:∀x∈ [o.a,o.b]++o.args,I64 x:=by
  intro x hx;rcases Jl.1 hx with hx|hx
  ·simp at hx;rcases hx with rfl|rfl;exact ho.2.2.1;exact ho.2.2.2.1
  ·exact zY.all y x hx
 have c0:=Ja a4;have b1:=zI (W:=w) (o:=U (D o aa ac) 77) rfl;have b4:F w (w.alloc (U (D o aa ac) 77)):=(Below.refl _ _).alloc (Je _) _;have m:=Ja (Jb b1 b4);clear hf y hB a5 ho a4 b1 b4 b8 b7 b3 b2;go_enter Try.func78,Try.ntmps78;go_upto_region 2 with(first|(go_at_call 54;go_must (refine(HF.out _).mono ?_;rintro e w1 ⟨rfl,a0⟩))|go_in)
 have hb:=(m.out.2.trans (a0.mono m.out.2.size)).alloc (by have:=m.out.2.size;have:=a0.size;omega) (U #[.bool q1,.bool q2,.bool true,.bool true,.bool q3] 111);have b0:=zB (o:=U #[.bool q1,.bool q2,.bool true,.bool true,.bool q3] 111) (zH a0 m.out.1 (lt_of_block m.out.1));have a7:=zI (W:=w1) (o:=U #[.bool q1,.bool q2,.bool true,.bool true,.bool q3] 111) rfl;generalize b9:w1.alloc (U #[.bool q1,.bool q2,.bool true,.bool true,.bool q3] 111)=W1 at *;generalize b6:w1.heap.size=c1 at *;have own0:W1.ownsRow w.heap.size 3 1 (O) 0 []:=Jv W1 _ _ _;have h:=Ja (show F w W1/\L W1 w.heap.size (D o aa ac) 77/\L W1 c1 #[.bool q1,.bool q2,.bool true,.bool true,.bool q3] 111/\W1.ownsRow w.heap.size 3 1 (O) 0 [] from⟨hb,b0,a7,own0⟩);clear b9 b6 a0 hb b0 a7 own0;have x2:=K2 h.out.2.1;have x3:=K3 h.out.2.1;have x5:=K5 h.out.2.1;have f1:=K2 h.out.2.2.1;have f2:=K3 h.out.2.2.1;go_upto_region 5 with(at_builtin;go_must (refine zK _ rfl (.tmp 10) (.tmp 13) 22 rfl w.heap.size 3 ii (A 0) 1 8 Try.underlying22 a6 u t r rfl Zd (O) 0 (([]:List Int).map zN) rfl (h.out.2.2.2.alloc _) _ 1 [A o.a] rfl (yM.one (zI Zs) (by simp[Value.oneCell'])) Zd Zd (by have:=h.out.1.size;simp;omega) ?_;intro v2 W2 d c a1))
 have l:F w W2:=yP (h.out.1.alloc h.out.1.size _) c (by have:=h.out.1.size;simp;omega) (wF h.out.2.2.2);have k:=zL c (zB h.out.2.1) (zC h.out.2.2.2 h.out.2.1 (.inr Zd));have j:=zL c (zB h.out.2.2.1) (zC h.out.2.2.2 h.out.2.2.1 (.inr Zd));have g:=Ja (show F w W2/\L W2 w.heap.size (D o aa ac) 77/\L W2 c1 #[.bool q1,.bool q2,.bool true,.bool true,.bool q3] 111/\W2.ownsRow w.heap.size 3 1 v2 1 (([o.a]:List Int).map zN) from⟨l,k,j,d⟩);clear x2 x3 x5 f1 f2 l k j d c a1;have x2:=K2 g.out.2.1;have x3:=K3 g.out.2.1;have x5:=K5 g.out.2.1;have f1:=K2 g.out.2.2.1;have f2:=K3 g.out.2.2.1;go_upto_region 7 with(at_builtin;go_must (refine zK _ rfl (.tmp 17) (.tmp 20) 22 rfl w.heap.size 3 ii (A 0) 1 8 Try.underlying22 a6 u t r rfl Zd v2 1 (([o.a]:List Int).map zN) rfl (g.out.2.2.2.alloc _) _ 1 [A o.b] rfl (yM.one (zI Zs) (by simp[Value.oneCell'])) Zd Zd (by have:=g.out.1.size;simp;omega) ?_;intro v3 W3 d c a1))
 have l:F w W3:=yP (g.out.1.alloc g.out.1.size _) c (by have:=g.out.1.size;simp;omega) (wF g.out.2.2.2);have k:=zL c (zB g.out.2.1) (zC g.out.2.2.2 g.out.2.1 (.inr Zd));have j:=zL c (zB g.out.2.2.1) (zC g.out.2.2.2 g.out.2.2.1 (.inr Zd));have i:=Ja (show F w W3/\L W3 w.heap.size (D o aa ac) 77/\L W3 c1 #[.bool q1,.bool q2,.bool true,.bool true,.bool q3] 111/\W3.ownsRow w.heap.size 3 1 v3 2 (([o.a,o.b]:List Int).map zN) from⟨l,k,j,d⟩);clear x2 x3 x5 f1 f2 l k j d c a1;have x2:=K2 i.out.2.1;have x3:=K3 i.out.2.1;have x5:=K5 i.out.2.1;have f1:=K2 i.out.2.2.1;have f2:=K3 i.out.2.2.1;have a3:=zY.src (a2.out.1.below zO (i.out.1.mono a2.out.2.1));have b5:=Ja a3;clear a3;go_wp2_with (at_builtin;go_must (refine zK _ rfl (.tmp 22) (.tmp 24) 22 rfl w.heap.size 3 ii (A 0) 1 8 Try.underlying22 a6 u t r rfl Zd v3 2 (([o.a,o.b]:List Int).map zN) rfl i.out.2.2.2 _ o.args.length (o.args.map zN) rfl b5.out (by have:=a2.out.2.2;unfold maxLen;omega) (by have:=a2.out.2.2;omega) i.out.1.size ?_;intro v9 w9 d c a1))
 go_ret;refine⟨v9,rfl,?_,yP i.out.1 c i.out.1.size (wF i.out.2.2.2)⟩;rw[<-Js] at d;exact uA d (by simp<;>omega) c0.out
theorem uses_q(o:IOp)(ho:I64 o.code/\I64 o.res/\I64 o.a/\I64 o.b/\o.n<65536){av:Value}{B:Nat}(hB:B<=w.heap.size)(d:zY w B av o.args)(c:o.args.length<=1000000000000):
 Y 78 #[.agg #[A o.code,A o.res,A o.a,A o.b,I (o.n:Int),av]] w (wG w (rR o)):=by
 unfold rR;cases h:(zi o.code).a<;>cases g:(zi o.code).b
 ·exact rUses_00 o ho hB d c h g
 ·exact rUses_01 o ho hB d c h g
 ·exact rUses_10 o ho hB d c h g
 ·exact rUses_11 o ho hB d c h g
theorem rEnds_1(t:ITerm)(ht:I64 t.kind/\I64 t.a){tv:Value}{B:Nat}(hB:B<=w.heap.size)(a1:wH w B tv t.to)(b6:t.to.length<=2000000/\∀e∈t.to,e.args.length<=2000000)(hh:ut t=true):
 Y 79 #[.agg #[A t.kind,A t.a,tv]] w (wG w ([t.a]++(t.to.map (·.args)).flatten)):=by
 obtain⟨ta,tc,rfl,d7,d6⟩:=a1.form;obtain⟨ii,c3,a6,a5,a4⟩:=info_parts Try.info_int;have e5:t.to.length<=9223372036854775807:=Zo
 have h64:∀x∈ [t.a]++(t.to.map (·.args)).flatten,I64 x:=by
  intro x hx;rcases Jl.1 hx with hx|hx
  ·simp at hx;rw[hx];exact ht.2
  ·obtain⟨l,hl,d5⟩:=List.mem_flatten.1 hx;obtain⟨e,he,rfl⟩:=Nu.1 hl;obtain⟨k,hk⟩:=Ny he;obtain⟨b,o,_,_,_,_,av,_,r⟩:=a1.get hk;exact zY.all r x d5
 have d2:=Ja h64;unfold ut at hh;obtain⟨tk,c2⟩:∃x,t.kind=x:=⟨_,rfl⟩
 obtain⟨tA,b0⟩:∃x,t.a=x:=⟨_,rfl⟩
 rw[c2,b0] at hh ht ⊢
 try rw[b0] at d2
 obtain⟨b2,g2⟩:∃q,decide (tk=2)=q:=⟨_,rfl⟩
 obtain⟨b3,g3⟩:∃q,decide (tk=3)=q:=⟨_,rfl⟩
 obtain⟨b4,g4⟩:∃q,decide (tk=4)=q:=⟨_,rfl⟩
 obtain⟨b5,g5⟩:∃q,decide (tA≠-1)=q:=⟨_,rfl⟩
 rw[g2,g3,g4,g5] at hh;have t2:(tk==2)=b2:=vg g2;have t3:(tk==3)=b3:=vg g3;have t4:(tk==4)=b4:=vg g4;have t5:(tA !=-1)=b5:=by rw[<-g5,bne];by_cases h:tA=-1<;>simp[h]
 have g:=Ja (show wH w B (.slice ta t.to.length tc) t.to/\B<=w.heap.size/\t.to.length<=2000000/\∀e∈t.to,e.args.length<=2000000 from⟨a1,hB,b6⟩);have HT:=Ja ht;have j:=zI (W:=w) (o:=U #[A tk,A tA,.slice ta t.to.length tc] 47) rfl;have d0:F w (w.alloc (U #[A tk,A tA,.slice ta t.to.length tc] 47)):=(Below.refl _ _).alloc (Je _) _;clear a1 hB b6 ht d7 d6 g2 g3 g4 g5 c2 b0 h64;have d8:=my b2 b3 b4 b5 hh;clear hh;rcases d8 with rfl|⟨rfl,rfl⟩|⟨rfl,rfl,rfl,rfl⟩
 all_goals (
  go_enter Try.func79,Try.ntmps79;go_upto_region 2 with fail;generalize e3:w.alloc (U #[A tk,A tA,.slice ta t.to.length tc] 47)=W0 at *;have y0:=K0 j;have y1:=K1 j;have y2:=K2 j;have H0:=Ja (show F w W0/\L W0 w.heap.size #[A tk,A tA,.slice ta t.to.length tc] 47 from⟨d0,j⟩);clear e3 j d0;have own0:W0.ownsRow w.heap.size 3 1 (O) 0 []:=Jv W0 _ _ _;have i:=Ja own0;clear own0;go_upto_region 4 with(at_builtin;go_must (refine zK _ rfl (.tmp 23) (.tmp 26) 22 rfl w.heap.size 3 ii (A 0) 1 8 Try.underlying22 c3 a6 a5 a4 rfl Zd (O) 0 [] rfl (i.out.alloc _) _ 1 [A tA] rfl (yM.one (zI Zs) (by simp[Value.oneCell'])) Zd Zd (by have:=H0.out.1.size;simp;omega) ?_;intro v0 W1 d c b8))
  have c8:F w W1:=yP (H0.out.1.alloc H0.out.1.size _) c (by have:=H0.out.1.size;simp;omega) (wF i.out);have a7:=zL c (zB H0.out.2) (zC i.out H0.out.2 (.inr Zd));have z2:=K2 a7;have HS:=Ja (show EndsMem w W1 ([tA]++xT t 0) v0/\_ from⟨⟨c8,d⟩,a7⟩);clear c8 a7 d c b8 y0 y1 y2;go_wp2
  go_loopw [3,4] (fun lv kv wx=>∃k:Nat,k<=t.to.length/\kv=A k/\Hid (EndsMem w wx ([tA]++xT t k) lv/\L wx w.heap.size #[A tk,A tA,.slice ta t.to.length tc] 47)) (fun _ kv _=>t.to.length-(intOf kv).toNat)
  case atStart=>exact⟨0,Jt _,rfl,HS⟩
  case round=>
   obtain⟨k,hk,rfl,u⟩:=hrel;have z2:=K2 u.out.2
   by_cases a3:k<t.to.length
   ·have d3:(k:Int)<t.to.length:=Zo;have d1:=Ja a3;obtain⟨e,he⟩:∃e,t.to[k]? =some e:=⟨_,Jd a3⟩
    obtain⟨eb,eo,rfl,c4,c7,d4,av,c5,r⟩:=g.out.1.get he;obtain⟨aa,ac,rfl,e2,d9⟩:=r.form;have b7:=u.out.1.below.mono g.out.2.1;have e0:=zV b7 c4 c7;have e1:=zV b7 c4 c5;have HE:=Ja (show t.to[k]? =some e/\zY w B (.slice aa e.args.length ac) e.args from⟨he,r⟩);clear he c7 c5 d4 r e2 d9 b7 a3;have a0:=u.out.1.below;have a2:=u.out.1.own;have b1:=zY.src (HE.out.2.below zO (a0.mono g.out.2.1))
    have m:([tA]++xT t k).length+e.args.length<=6000000000000:=by
     have h1:=tP g.out.2.2.2 k hk;have h2:=g.out.2.2.1;have h3:=g.out.2.2.2 e (Ji HE.out.1);rw[Jk];simp only[Nq,Ow];omega
    have y:=Ja (show _/\_ from⟨m,a0⟩);have b9:=Ja a2;have e4:=Ja b1;clear m a2 b1 a0 e0;go_wp2_with (at_builtin;go_must (refine zK _ rfl (.tmp 35) (.tmp 41) 22 rfl w.heap.size 3 ii (A 0) 1 8 Try.underlying22 c3 a6 a5 a4 rfl Zd _ ([tA]++xT t k).length (([tA]++xT t k).map zN) rfl b9.out _ e.args.length (e.args.map zN) rfl e4.out (by have:=y.out.1;unfold maxLen;omega) (by have:=y.out.1;omega) y.out.2.size ?_;intro v9 w9 d c b8))
    have c0:=zL c u.out.2 (zC b9.out u.out.2 (.inr Zd));have c9:=yP y.out.2 c y.out.2.size (wF b9.out);have HN:=Ja (Jb (Jb c9 c0) d);clear d c b8 c9 c0;go_roundw
    case rel=>
     refine⟨k+1,d1.out,by go_num,Ja ⟨⟨HN.out.1.1,?_⟩,HN.out.1.2⟩⟩;rw[u7 HE.out.1,<-Nv,Jk (bs:=e.args),Js (l₂:=e.args)];exact HN.out.2
    case measure=>have:=d1.out;simp[intOf];omega
   ·obtain rfl:k=t.to.length:=by omega
    have d3:¬(t.to.length:Int)<t.to.length:=Zo;clear a3;go_wp2;go_ret;have d:=u.out.1.own;rw[si] at d
    exact⟨_,rfl,uA d rfl d2.out,u.out.1.below⟩)
theorem rEnds_0(t:ITerm)(ht:I64 t.kind/\I64 t.a){tv:Value}{B:Nat}(hB:B<=w.heap.size)(a0:wH w B tv t.to)(a5:t.to.length<=2000000/\∀e∈t.to,e.args.length<=2000000)(hh:ut t=false):
 Y 79 #[.agg #[A t.kind,A t.a,tv]] w (wG w (([]:List Int)++(t.to.map (·.args)).flatten)):=by
 obtain⟨ta,tc,rfl,d2,d1⟩:=a0.form;obtain⟨ii,d3,c7,c5,c4⟩:=info_parts Try.info_int;have e2:t.to.length<=9223372036854775807:=Zo
 have h64:∀x∈([]:List Int)++(t.to.map (·.args)).flatten,I64 x:=by
  intro x hx;rcases Jl.1 hx with hx|hx
  ·simp at hx
  ·obtain⟨l,hl,d0⟩:=List.mem_flatten.1 hx;obtain⟨e,he,rfl⟩:=Nu.1 hl;obtain⟨k,hk⟩:=Ny he;obtain⟨b,o,_,_,_,_,av,_,m⟩:=a0.get hk;exact zY.all m x d0
 have c3:=Ja h64;unfold ut at hh;obtain⟨tk,b1⟩:∃x,t.kind=x:=⟨_,rfl⟩
 obtain⟨tA,a3⟩:∃x,t.a=x:=⟨_,rfl⟩
 rw[b1,a3] at hh ht ⊢
 try rw[a3] at c3
 obtain⟨b2,g2⟩:∃q,decide (tk=2)=q:=⟨_,rfl⟩
 obtain⟨b3,g3⟩:∃q,decide (tk=3)=q:=⟨_,rfl⟩
 obtain⟨b4,g4⟩:∃q,decide (tk=4)=q:=⟨_,rfl⟩
 obtain⟨b5,g5⟩:∃q,decide (tA≠-1)=q:=⟨_,rfl⟩
 rw[g2,g3,g4,g5] at hh;have t2:(tk==2)=b2:=vg g2;have t3:(tk==3)=b3:=vg g3;have t4:(tk==4)=b4:=vg g4;have t5:(tA !=-1)=b5:=by rw[<-g5,bne];by_cases h:tA=-1<;>simp[h]
 have d:=Ja (show wH w B (.slice ta t.to.length tc) t.to/\B<=w.heap.size/\t.to.length<=2000000/\∀e∈t.to,e.args.length<=2000000 from⟨a0,hB,a5⟩);have HT:=Ja ht;have i:=zI (W:=w) (o:=U #[A tk,A tA,.slice ta t.to.length tc] 47) rfl;have c0:F w (w.alloc (U #[A tk,A tA,.slice ta t.to.length tc] 47)):=(Below.refl _ _).alloc (Je _) _;clear a0 hB a5 ht d2 d1 g2 g3 g4 g5 b1 a3 h64;have d4:=lB b2 b3 b4 b5 hh;clear hh;rcases d4 with⟨rfl,rfl,rfl⟩|⟨rfl,rfl,rfl,rfl⟩
 all_goals (
  go_enter Try.func79,Try.ntmps79;go_upto_region 2 with fail;generalize d8:w.alloc (U #[A tk,A tA,.slice ta t.to.length tc] 47)=W0 at *;have y0:=K0 i;have y1:=K1 i;have y2:=K2 i;have H0:=Ja (show F w W0/\L W0 w.heap.size #[A tk,A tA,.slice ta t.to.length tc] 47 from⟨c0,i⟩);clear d8 i c0;go_upto_region 4 with fail;have z2:=y2;have HS:=Ja (show EndsMem w W0 (([]:List Int)++xT t 0) (O)/\_ from⟨⟨H0.out.1,Jv W0 _ _ _⟩,H0.out.2⟩);generalize W0=W1 at *;clear y0 y1 y2;go_wp2
  go_loopw [3,4] (fun lv kv wx=>∃k:Nat,k<=t.to.length/\kv=A k/\Hid (EndsMem w wx (([]:List Int)++xT t k) lv/\L wx w.heap.size #[A tk,A tA,.slice ta t.to.length tc] 47)) (fun _ kv _=>t.to.length-(intOf kv).toNat)
  case atStart=>exact⟨0,Jt _,rfl,HS⟩
  case round=>
   obtain⟨k,hk,rfl,r⟩:=hrel;have z2:=K2 r.out.2
   by_cases a2:k<t.to.length
   ·have c8:(k:Int)<t.to.length:=Zo;have c2:=Ja a2;obtain⟨e,he⟩:∃e,t.to[k]? =some e:=⟨_,Jd a2⟩
    obtain⟨eb,eo,rfl,b6,b8,c9,av,b7,m⟩:=d.out.1.get he;obtain⟨aa,ac,rfl,d7,d6⟩:=m.form;have a6:=r.out.1.below.mono d.out.2.1;have e0:=zV a6 b6 b8;have e1:=zV a6 b6 b7;have HE:=Ja (show t.to[k]? =some e/\zY w B (.slice aa e.args.length ac) e.args from⟨he,m⟩);clear he b8 b7 c9 m d7 d6 a6 a2;have y:=r.out.1.below;have a1:=r.out.1.own;have a4:=zY.src (HE.out.2.below zO (y.mono d.out.2.1))
    have j:(([]:List Int)++xT t k).length+e.args.length<=6000000000000:=by
     have h1:=tP d.out.2.2.2 k hk;have h2:=d.out.2.2.1;have h3:=d.out.2.2.2 e (Ji HE.out.1);rw[Jk];simp only[Nq,Ow];omega
    have u:=Ja (show _/\_ from⟨j,y⟩);have a7:=Ja a1;have d9:=Ja a4;clear j a1 a4 y e0;go_wp2_with (at_builtin;go_must (refine zK _ rfl (.tmp 35) (.tmp 41) 22 rfl w.heap.size 3 ii (A 0) 1 8 Try.underlying22 d3 c7 c5 c4 rfl Zd _ (([]:List Int)++xT t k).length ((([]:List Int)++xT t k).map zN) rfl a7.out _ e.args.length (e.args.map zN) rfl d9.out (by have:=u.out.1;unfold maxLen;omega) (by have:=u.out.1;omega) u.out.2.size ?_;intro v9 w9 c g d5))
    have b0:=zL g r.out.2 (zC a7.out r.out.2 (.inr Zd));have b9:=yP u.out.2 g u.out.2.size (wF a7.out);have HN:=Ja (Jb (Jb b9 b0) c);clear c g d5 b9 b0;go_roundw
    case rel=>
     refine⟨k+1,c2.out,by go_num,Ja ⟨⟨HN.out.1.1,?_⟩,HN.out.1.2⟩⟩;rw[u7 HE.out.1,<-Nv,Jk (bs:=e.args),Js (l₂:=e.args)];exact HN.out.2
    case measure=>have:=c2.out;simp[intOf];omega
   ·obtain rfl:k=t.to.length:=by omega
    have c8:¬(t.to.length:Int)<t.to.length:=Zo;clear a2;go_wp2;go_ret;have c:=r.out.1.own;rw[si] at c
    exact⟨_,rfl,uA c rfl c3.out,r.out.1.below⟩)
theorem ends_q(t:ITerm)(g:I64 t.kind/\I64 t.a){tv:Value}{B:Nat}(hB:B<=w.heap.size)(d:wH w B tv t.to)(c:t.to.length<=2000000/\∀e∈t.to,e.args.length<=2000000):
 Y 79 #[.agg #[A t.kind,A t.a,tv]] w (wG w (mE t)):=by
 unfold mE;cases h:ut t
 ·exact rEnds_0 t g hB d c h
 ·exact rEnds_1 t g hB d c h
end Go.Proofs.Ytojclalkfhoooaa
