/- Part of a proof. -/
import Derived.Test.YtojclalkfhoooaaGTab2
import Derived.Test.YtojclalkfhoooaaGMkX
set_option linter.unusedSimpArgs false
set_option linter.unusedVariables false
set_option maxHeartbeats 4000000
set_option maxRecDepth 100000
namespace Go.Proofs.Ytojclalkfhoooaa
open Go.RowKit
structure OfMid (w:World) (f1 r2 g3 tb:Nat) (fv gv:Value) (bt:BT) (l:List BT) (xr:List Row) (wx:World):Prop where
 h1:wx.heap[f1]? =some (.cells #[fv] 43 (0,0))
 h2:wx.heap[r2]? =some (.cells #[.slice none 0 0] 43 (0,0))
 h3:wx.heap[g3]? =some (.cells #[gv] 43 (0,0))
 hb:wx.heap[tb]? =some (.cells (zz bt).toArray 49 (0,0))
 bel:Below f1 w wx
 rows:Rows wx f1 (xr++(bt.rows++(zd gv l::l.flatMap BT.rows)))
 ges:f1<r2/\r2<g3/\g3<tb
 hgt:gv.ownBlock≠some tb
 xe:∀r∈xr,r.e=3
section
variable {w:World} {f1 r2 g3 tb:Nat} {fv gv:Value} {bt:BT} {l:List BT} {xr:List Row} {wx:World} (h:OfMid w f1 r2 g3 tb fv gv bt l xr wx)
include h
theorem OfMid.sz:f1<=wx.heap.size:=Nat.le_of_lt (lt_of_block h.h1)
theorem OfMid.below {w':World}(hb:Below wx.heap.size wx w'):OfMid w f1 r2 g3 tb fv gv bt l xr w':=
 ⟨zH hb h.h1 (lt_of_block h.h1),zH hb h.h2 (lt_of_block h.h2),zH hb h.h3 (lt_of_block h.h3),zH hb h.hb (lt_of_block h.hb),h.bel.trans (hb.mono h.sz),h.rows.below hb,h.ges,h.hgt,h.xe⟩
theorem OfMid.noTb:∀x∈xr++(bt.rows++(zd gv l::l.flatMap BT.rows)),x.blk≠some tb:=by
 have hE:∀(b:BT),∀x∈b.rows,x.e≠49:=fun b x hx=>by
  unfold BT.rows at hx
  rcases List.mem_cons.1 hx with rfl|hx
  ·show 3≠49;decide
  rcases List.mem_cons.1 hx with rfl|hx
  ·show 77≠49;decide
  rcases List.mem_cons.1 hx with rfl|hx
  ·show 75≠49;decide
  rcases List.mem_append.1 hx with hx|hx
  ·obtain⟨q,_,rfl⟩:=List.mem_map.1 hx
   show 3≠49;decide
  ·obtain⟨q,_,rfl⟩:=List.mem_map.1 hx
   show 3≠49;decide
 intro x hx
 have ho:=h.rows.own x hx
 rcases List.mem_append.1 hx with hx|hx
 ·exact zC ho h.hb (.inr (by rw[h.xe x hx];decide))
 rcases List.mem_append.1 hx with hx|hx
 ·exact zC ho h.hb (.inr (hE bt x hx))
 rcases List.mem_cons.1 hx with rfl|hx
 ·exact h.hgt
 ·obtain⟨b,_,hb⟩:=List.mem_flatMap.1 hx
  exact zC ho h.hb (.inr (hE b x hb))
theorem OfMid.grow {w1 w':World}{r r':Row}{rs:List Row}{bt':BT}{xr':List Row}(hp:(xr++(bt.rows++(zd gv l::l.flatMap BT.rows))).Perm (r::rs))(hb1:Below wx.heap.size wx w1)(hg:w1.grownBy w' r.blk)
 (hown:w'.ownsRow f1 r'.e r'.sz r'.v r'.n r'.cs) (hat:∀k,r'.blk=some k->r.blk=some k∨wx.heap.size<=k) (he:r.e≠43/\r.e≠49) (he':r'.e≠49) {W:World} (hW:W=w'∨∃i u,W=w'.setCell ⟨tb,i,none⟩ u)
 (hbt:∀c:Array Value,w'.heap[tb]? =some (.cells c 49 (0,0))->c=(zz bt).toArray->W.heap[tb]? =some (.cells (zz bt').toArray 49 (0,0)))
 (hq:(r'::rs).Perm (xr'++(bt'.rows++(zd gv l::l.flatMap BT.rows)))) (hxe:∀r∈xr',r.e=3):OfMid w f1 r2 g3 tb fv gv bt' l xr' W:=by
 have hr:=h.rows.perm hp
 have ho:=hr.own r (.head _)
 have keep:∀ {b:Nat} {cs:Array Value} {t:TypeId},wx.heap[b]? =some (.cells cs t (0,0))->r.e≠t->w'.heap[b]? =some (.cells cs t (0,0)):=fun hb hne=>zL hg (zH hb1 hb (lt_of_block hb)) (zC ho hb (.inr hne))
 have hsz:wx.heap.size<=w'.heap.size:=Nat.le_trans hb1.size hg.size
 have hbel:Below f1 w w':=h.bel.trans ⟨hg.os.trans hb1.os,hg.tape.trans hb1.tape,hg.output.trans hb1.output,hsz,fun k hk=>(hg.block k (by have:=h.sz;have:=hb1.size;omega) (fun e=>by have:=(ho.lt k e.symm).1;omega)).trans (hb1.block k (by have:=h.sz;omega))⟩
 have hnew:Rows w' f1 (r'::rs):=hr.grow hb1 hg hown hat
 have htb:=keep h.hb he.2
 rcases hW with rfl|⟨i,u,rfl⟩
 ·exact⟨keep h.h1 he.1,keep h.h2 he.1,keep h.h3 he.1,hbt _ htb rfl,hbel,hnew.perm hq,h.ges,h.hgt,hxe⟩
 ·have hg1:=h.ges
  refine⟨zR (keep h.h1 he.1) (by show f1≠tb;omega),zR (keep h.h2 he.1) (by show r2≠tb;omega),zR (keep h.h3 he.1) (by show g3≠tb;omega),hbt _ htb rfl,hbel.setCell (by show f1<=tb;omega) _,(hnew.keep fun k hk=>Below.heap_setCell _ _ _ _ (fun e=>?_)).perm hq,h.ges,h.hgt,hxe⟩
  obtain⟨x,hx,hxk⟩:=List.mem_filterMap.1 hk
  have e':k=tb:=e
  subst e'
  rcases List.mem_cons.1 hx with rfl|hx
  ·exact zC hown htb (.inr he') hxk
  ·exact h.noTb x (hp.mem_iff.2 (.tail _ hx)) hxk
end
section
variable {w:World} {f1 r2 g3 tb:Nat} {fv gv:Value} {bt:BT} {l:List BT} {wx:World}
theorem OfMid.par {w1 w9:World}{pv':Value}{xs:List Int}(h:OfMid w f1 r2 g3 tb fv gv bt l [] wx)(hp:bt.params=[])(hb1:Below wx.heap.size wx w1)(hg:w1.grownBy w9 bt.pv.ownBlock)(hown:w9.ownsRow f1 3 1 pv' xs.length (xs.map zN))
 (hat:∀k,pv'.ownBlock=some k->bt.pv.ownBlock=some k∨wx.heap.size<=k):OfMid w f1 r2 g3 tb fv gv {bt with params:=xs,pv:=pv' } l [] (w9.setCell ⟨tb,0,none⟩ pv'):=
 h.grow (r:=zP bt.pv bt.params) (r':=zP pv' xs) (List.Perm.refl _) hb1 hg hown hat ⟨by show 3≠_;decide,by show 3≠_;decide⟩ (by show 3≠_;decide) (.inr ⟨0,pv',rfl⟩)
  (fun c hc e=>by subst e;rw[zD hc];rfl) (List.Perm.refl _) (fun r hr=>by simp at hr)
theorem OfMid.arg2 {w1 w9:World}{av:Value}{xs:List Int}(h:OfMid w f1 r2 g3 tb fv gv bt l [] wx)(hb1:Below wx.heap.size wx w1)(hg:w1.grownBy w9 none)(hown:w9.ownsRow f1 3 1 av xs.length (xs.map zN))(hat:∀k,av.ownBlock=some k->w1.heap.size<=k)
 {q i:Nat} (hq:wx.heap.size<=q/\q<w1.heap.size) (u:Value):OfMid w f1 r2 g3 tb fv gv bt l [zP av xs] (w9.setCell ⟨q,i,none⟩ u):=by
 have hb9:Below wx.heap.size wx (w9.setCell ⟨q,i,none⟩ u):=Below.setCell ⟨hg.os.trans hb1.os,hg.tape.trans hb1.tape,hg.output.trans hb1.output,Nat.le_trans hb1.size hg.size,fun k hk=>(hg.block k (Nat.lt_of_lt_of_le hk hb1.size) (fun e=>by cases e)).trans (hb1.block k hk)⟩ hq.1 _
 have h9:=h.below hb9
 have hown2:(w9.setCell ⟨q,i,none⟩ u).ownsRow f1 3 1 av xs.length (xs.map zN):=yD hown (fun k e=>Below.heap_setCell _ _ _ _ (fun e2=>by have:=hat k e;have e3:k=q:=e2;omega))
 exact⟨h9.h1,h9.h2,h9.h3,h9.hb,h9.bel,h9.rows.cons hown2 (fun g e hm=>by have:=hat g e;have:=(h.rows.lt hm).2;omega),h9.ges,h9.hgt,fun r hr=>by rw[List.mem_singleton] at hr;subst hr;rfl⟩
theorem OfMid.op {w1 w9:World}{ov' av:Value}{o:IOp}(h:OfMid w f1 r2 g3 tb fv gv bt l [zP av o.args] wx)(hb1:Below wx.heap.size wx w1)(hg:w1.grownBy w9 bt.ov.ownBlock)
 (hown:w9.ownsRow f1 77 6 ov' (bt.ops.length+1) (bt.ops.flatMap zU++zU (o,av))) (hat:∀k,ov'.ownBlock=some k->bt.ov.ownBlock=some k∨wx.heap.size<=k):
 OfMid w f1 r2 g3 tb fv gv {bt with ops:=bt.ops++ [(o,av)],ov:=ov' } l [] (w9.setCell ⟨tb,1,none⟩ ov'):=
 h.grow (r:=yo bt.ov bt.ops) (r':=yo ov' (bt.ops++ [(o,av)])) (rs:=zP av o.args::zP bt.pv bt.params::xg bt.tv bt.tos::(wI bt.ops++ve bt.tos)++(zd gv l::l.flatMap BT.rows)) (by
  classical
  unfold BT.rows
  refine List.perm_iff_count.2 fun r=>?_
  simp only[List.count_append,List.count_cons,List.count_nil]
  omega) hb1 hg (by
  show w9.ownsRow f1 77 6 ov' (bt.ops++ [(o,av)]).length ((bt.ops++ [(o,av)]).flatMap zU)
  rw[List.length_append,List.length_singleton,List.flatMap_append]
  simpa using hown) hat ⟨by show 77≠_;decide,by show 77≠_;decide⟩ (by show 77≠_;decide) (.inr ⟨1,ov',rfl⟩)
  (fun c hc e=>by subst e;rw[zD hc];rfl) (by
   classical
   unfold BT.rows wI
   refine List.perm_iff_count.2 fun r=>?_
   simp only[List.count_append,List.count_cons,List.count_nil,List.map_append,List.map_cons,List.map_nil]
   omega) (fun r hr=>by simp at hr)
theorem OfMid.edge {w1 w9:World}{tv' av:Value}{o:IEdge}(h:OfMid w f1 r2 g3 tb fv gv bt l [zP av o.args] wx)(hb1:Below wx.heap.size wx w1)(hg:w1.grownBy w9 bt.tv.ownBlock)
 (hown:w9.ownsRow f1 75 2 tv' (bt.tos.length+1) (bt.tos.flatMap za++za (o,av))) (hat:∀k,tv'.ownBlock=some k->bt.tv.ownBlock=some k∨wx.heap.size<=k):
 OfMid w f1 r2 g3 tb fv gv {bt with tos:=bt.tos++ [(o,av)],tv:=tv' } l [] (w9.setCell ⟨tb,4,none⟩ tv'):=
 h.grow (r:=xg bt.tv bt.tos) (r':=xg tv' (bt.tos++ [(o,av)])) (rs:=zP av o.args::zP bt.pv bt.params::yo bt.ov bt.ops::(wI bt.ops++ve bt.tos)++(zd gv l::l.flatMap BT.rows)) (by
  classical
  unfold BT.rows
  refine List.perm_iff_count.2 fun r=>?_
  simp only[List.count_append,List.count_cons,List.count_nil]
  omega) hb1 hg (by
  show w9.ownsRow f1 75 2 tv' (bt.tos++ [(o,av)]).length ((bt.tos++ [(o,av)]).flatMap za)
  rw[List.length_append,List.length_singleton,List.flatMap_append]
  simpa using hown) hat ⟨by show 75≠_;decide,by show 75≠_;decide⟩ (by show 75≠_;decide) (.inr ⟨4,tv',rfl⟩)
  (fun c hc e=>by subst e;rw[zD hc];rfl) (by
   classical
   unfold BT.rows ve
   refine List.perm_iff_count.2 fun r=>?_
   simp only[List.count_append,List.count_cons,List.count_nil,List.map_append,List.map_cons,List.map_nil]
   omega) (fun r hr=>by simp at hr)
theorem OfMid.set {bt':BT}{i:Nat}{u:Value}(h:OfMid w f1 r2 g3 tb fv gv bt l [] wx)(hc:((zz bt).toArray).setIfInBounds i u=(zz bt').toArray)(hr:bt'.rows=bt.rows):OfMid w f1 r2 g3 tb fv gv bt' l [] (wx.setCell ⟨tb,i,none⟩ u):=by
 have hg:=h.ges
 refine⟨zR h.h1 (by show f1≠tb;omega),zR h.h2 (by show r2≠tb;omega),zR h.h3 (by show g3≠tb;omega),by rw[zD h.hb,hc],h.bel.setCell (by show f1<=tb;omega) _,?_,h.ges,h.hgt,h.xe⟩
 rw[hr]
 refine h.rows.keep fun k hk=>Below.heap_setCell _ _ _ _ (fun e=>?_)
 obtain⟨x,hx,hxk⟩:=List.mem_filterMap.1 hk
 have e':k=tb:=e
 subst e'
 exact h.noTb x hx hxk
end
structure OfTop (w:World) (f1 r2 g3:Nat) (fv gv:Value) (l:List BT) (wx:World):Prop where
 h1:wx.heap[f1]? =some (.cells #[fv] 43 (0,0))
 h2:wx.heap[r2]? =some (.cells #[.slice none 0 0] 43 (0,0))
 h3:wx.heap[g3]? =some (.cells #[gv] 43 (0,0))
 bel:Below f1 w wx
 rows:Rows wx f1 (zd gv l::l.flatMap BT.rows)
 ges:f1<r2/\r2<g3
def bt0:BT:=⟨[],.slice none 0 0,[],.slice none 0 0,0,0,[],.slice none 0 0⟩
theorem OfTop.start {w:World}{f1 r2 g3:Nat}{fv gv:Value}{l:List BT}{wx:World}(h:OfTop w f1 r2 g3 fv gv l wx){tb:Nat}(htb:wx.heap.size=tb):
 OfMid w f1 r2 g3 tb fv gv bt0 l [] (wx.alloc (.cells #[.slice none 0 0,.slice none 0 0,.int .i64 0,.int .i64 0,.slice none 0 0] 49)):=by
 have hba:Below wx.heap.size wx (wx.alloc (.cells #[.slice none 0 0,.slice none 0 0,.int .i64 0,.int .i64 0,.slice none 0 0] 49)):=(Below.refl _ _).alloc (Nat.le_refl _) _
 have hl:=lt_of_block h.h3
 have hl1:=lt_of_block h.h1
 have hnil:∀(e:TypeId) (W:World) (sz:Nat),W.ownsRow f1 e sz (.slice none 0 0) 0 []:=fun e W sz=>World.ownsRow_nil _ _ _ _
 refine⟨zB h.h1,zB h.h2,zB h.h3,zI htb,h.bel.alloc (by omega) _,?_,⟨h.ges.1,h.ges.2,by omega⟩,fun e=>?_,fun r hr=>by simp at hr⟩
 ·show Rows _ f1 (zP (.slice none 0 0) []::yo (.slice none 0 0) []::xg (.slice none 0 0) []::(zd gv l::l.flatMap BT.rows))
  have hr:=h.rows.below hba
  exact((hr.cons (hnil _ _ _) (fun g e=>by simp[Row.blk,xg,Value.ownBlock] at e)).cons (hnil _ _ _) (fun g e=>by simp[Row.blk,yo,Value.ownBlock] at e)).cons (hnil _ _ _) (fun g e=>by simp[Row.blk,zP,Value.ownBlock] at e)
 ·have:=((h.rows.own _ (.head _)).lt tb e).2
  omega
theorem OfMid.close {w:World}{f1 r2 g3 tb:Nat}{fv gv gv':Value}{bt:BT}{l:List BT}{wx w1 w9:World}(h:OfMid w f1 r2 g3 tb fv gv bt l [] wx)(hb1:Below wx.heap.size wx w1)(hg:w1.grownBy w9 gv.ownBlock)
 (hown:w9.ownsRow f1 49 5 gv' (l.length+1) (l.flatMap zz++zz bt)) (hat:∀k,gv'.ownBlock=some k->gv.ownBlock=some k∨wx.heap.size<=k):OfTop w f1 r2 g3 fv gv' (l++ [bt]) (w9.setCell ⟨g3,0,none⟩ gv'):=by
 have hp:(bt.rows++(zd gv l::l.flatMap BT.rows)).Perm (zd gv l::(bt.rows++l.flatMap BT.rows)):=List.perm_middle
 have hr:Rows wx f1 (zd gv l::(bt.rows++l.flatMap BT.rows)):=h.rows.perm hp
 have ho:=hr.own _ (.head _)
 have keep:∀ {b:Nat} {cs:Array Value} {t:TypeId},wx.heap[b]? =some (.cells cs t (0,0))->49≠t->w9.heap[b]? =some (.cells cs t (0,0)):=fun hb hne=>zL hg (zH hb1 hb (lt_of_block hb)) (zC ho hb (.inr hne))
 have hsz:wx.heap.size<=w9.heap.size:=Nat.le_trans hb1.size hg.size
 have hbel:Below f1 w w9:=h.bel.trans ⟨hg.os.trans hb1.os,hg.tape.trans hb1.tape,hg.output.trans hb1.output,hsz,fun k hk=>(hg.block k (by have:=h.sz;have:=hb1.size;omega) (fun e=>by have:=(ho.lt k e.symm).1;omega)).trans (hb1.block k (by have:=h.sz;omega))⟩
 have hnew:Rows w9 f1 (zd gv' (l++ [bt])::(bt.rows++l.flatMap BT.rows)):=hr.grow hb1 hg (by
  show w9.ownsRow f1 49 5 gv' (l++ [bt]).length ((l++ [bt]).flatMap zz)
  rw[List.length_append,List.length_singleton,List.flatMap_append]
  simpa using hown) hat
 have h3:=keep h.h3 (by decide)
 have hg1:=h.ges
 refine⟨zR (keep h.h1 (by decide)) (by show f1≠g3;omega),zR (keep h.h2 (by decide)) (by show r2≠g3;omega),by rw[zD h3];rfl,hbel.setCell (by show f1<=g3;omega) _,?_,⟨h.ges.1,h.ges.2.1⟩⟩
 have hnew2:Rows w9 f1 (zd gv' (l++ [bt])::(l++ [bt]).flatMap BT.rows):=hnew.perm (List.Perm.cons _ (by rw[List.flatMap_append];simpa using List.perm_append_comm))
 refine hnew2.keep fun k hk=>Below.heap_setCell _ _ _ _ (fun e=>?_)
 obtain⟨x,hx,hxk⟩:=List.mem_filterMap.1 hk
 have e':k=g3:=e
 subst e'
 have hxe:x.e≠43:=by
  rcases List.mem_cons.1 hx with rfl|hx
  ·show 49≠43;decide
  obtain⟨b,_,hx⟩:=List.mem_flatMap.1 hx
  unfold BT.rows at hx
  rcases List.mem_cons.1 hx with rfl|hx
  ·show 3≠43;decide
  rcases List.mem_cons.1 hx with rfl|hx
  ·show 77≠43;decide
  rcases List.mem_cons.1 hx with rfl|hx
  ·show 75≠43;decide
  rcases List.mem_append.1 hx with hx|hx
  ·obtain⟨q,_,rfl⟩:=List.mem_map.1 hx
   show 3≠43;decide
  ·obtain⟨q,_,rfl⟩:=List.mem_map.1 hx
   show 3≠43;decide
 exact zC (hnew2.own x hx) h3 (.inr hxe) hxk
open Go.RowKit
def jx (blocks:List IBlk):Prop:=∀b∈blocks,(∀o∈b.ops,o.args.length<=2000000)/\∀e∈b.term.to,e.args.length<=2000000
theorem lG {v:Value}{l:List BT}:∀x∈zd v l::l.flatMap BT.rows,x.e≠43:=fun x hx=>by
 rcases List.mem_cons.1 hx with rfl|hx
 ·show 49≠43;decide
 obtain⟨b,_,hx⟩:=List.mem_flatMap.1 hx
 unfold BT.rows at hx
 rcases List.mem_cons.1 hx with rfl|hx
 ·show 3≠43;decide
 rcases List.mem_cons.1 hx with rfl|hx
 ·show 77≠43;decide
 rcases List.mem_cons.1 hx with rfl|hx
 ·show 75≠43;decide
 rcases List.mem_append.1 hx with hx|hx
 ·obtain⟨q,_,rfl⟩:=List.mem_map.1 hx
  show 3≠43;decide
 ·obtain⟨q,_,rfl⟩:=List.mem_map.1 hx
  show 3≠43;decide
theorem mA {w:World}{B:Nat}{fbv:Value}{blocks:List IBlk}(hbl:wX w B fbv blocks)(hB:B<=w.heap.size)(hs:vZ blocks)(ha:jx blocks):
 Calls Try.prog 57 #[.agg #[fbv]] w (fun e w'=>∃(f:FT) (a:Option Addr) (n c:Nat),f.bv=.slice a n c/\e=.returned (.agg #[.slice a n c])/\f.fn=blocks/\Rows w' w.heap.size f.rows/\Below w.heap.size w w'):=by
 obtain⟨fa,fc,rfl,hfc,hfm⟩:=hbl.form
 have hl0:=hs.1
 have HBL:=Lib.hid (And.intro hbl (And.intro hB (And.intro hs ha)))
 obtain⟨f1,hf1⟩:∃f1,w.heap.size=f1:=⟨_,rfl⟩
 have hb1:Below w.heap.size w (((w.alloc (.cells #[.slice fa blocks.length fc] 43)).alloc (.cells #[.slice none 0 0] 43)).alloc (.cells #[.slice none 0 0] 43)):=(((Below.refl _ _).alloc (Nat.le_refl _) _).alloc (by simp) _).alloc (by simp;omega) _
 have hx1:=zB (o:=.cells #[.slice none 0 0] 43) (zB (o:=.cells #[.slice none 0 0] 43) (zI (W:=w) (o:=.cells #[.slice fa blocks.length fc] 43) rfl))
 have hx2:=zB (o:=.cells #[.slice none 0 0] 43) (zI (W:=w.alloc (.cells #[.slice fa blocks.length fc] 43)) (o:=.cells #[.slice none 0 0] 43) rfl)
 have hx3:=zI (W:=(w.alloc (.cells #[.slice fa blocks.length fc] 43)).alloc (.cells #[.slice none 0 0] 43)) (o:=.cells #[.slice none 0 0] 43) rfl
 have hs1:(w.alloc (.cells #[.slice fa blocks.length fc] 43)).heap.size=w.heap.size+1:=by simp
 have hs2:((w.alloc (.cells #[.slice fa blocks.length fc] 43)).alloc (.cells #[.slice none 0 0] 43)).heap.size=w.heap.size+1+1:=by simp
 rw[hs1] at hx2
 rw[hs2] at hx3
 clear hbl hB hs hs1 hs2 ha
 go_enter Try.func57,Try.ntmps57
 go_upto_region 2 with fail
 generalize hW1:((w.alloc (.cells #[.slice fa blocks.length fc] 43)).alloc (.cells #[.slice none 0 0] 43)).alloc (.cells #[.slice none 0 0] 43)=W1 at *
 rw[hf1] at hx1 hx2 hx3
 generalize hg3:f1+1+1=g3 at *
 generalize hr2:f1+1=r2 at *
 have hges:f1<r2/\r2<g3:=by omega
 have HT0:=Lib.hid (show OfTop w f1 r2 g3 (.slice fa blocks.length fc) (.slice none 0 0) [] W1/\([]:List BT).map BT.blk=blocks.take 0 from⟨⟨hx1,hx2,hx3,by rw[<-hf1];exact hb1,Rows.nil.cons (World.ownsRow_nil _ _ _ _) (fun g e=>by simp[Row.blk,zd,Value.ownBlock] at e),hges⟩,rfl⟩)
 have HIN:=Lib.hid (show ∀wx,Below f1 w wx->wX wx B (.slice fa blocks.length fc) blocks/\B<=wx.heap.size from fun wx hbx=>⟨HBL.out.1.below yT (hbx.mono (by rw[<-hf1];exact HBL.out.2.1)),Nat.le_trans HBL.out.2.1 hbx.size⟩)
 have HF1:=Lib.hid hf1
 clear hb1 hx1 hx2 hx3 hW1 hf1 hr2 hg3 hges
 go_wp2
 go_loopw [4] (fun kv wx=>∃(k:Nat) (l:List BT) (ga:Option Addr) (gc:Nat),k<=blocks.length/\kv=.int .i64 (k:Int)/\Hid (OfTop w f1 r2 g3 (.slice fa blocks.length fc) (.slice ga k gc) l wx/\l.map BT.blk=blocks.take k)) (fun kv _=>blocks.length-(intOf kv).toNat)
 case atStart=>exact⟨0,[],none,0,Nat.zero_le _,rfl,HT0⟩
 case round=>
  obtain⟨k,l,ga,gc,hk,rfl,HK⟩:=hrel
  have c0:=zA (i:=0) HK.out.1.h1 rfl
  have hfl:=lt_of_block HK.out.1.h1
  by_cases hlt:k<blocks.length
  ·have hltI:(k:Int)<(blocks.length:Int):=by omega
   obtain⟨b,hb⟩:∃b,blocks[k]? =some b:=⟨_,List.getElem?_eq_getElem hlt⟩
   have hbs:=HBL.out.2.2.1.2 b (List.mem_of_getElem? hb)
   have hbargs:=HBL.out.2.2.2 b (List.mem_of_getElem? hb)
   obtain⟨tb,htb⟩:∃tb,wr.heap.size=tb:=⟨_,rfl⟩
   have hst:=HK.out.1.start htb
   have HB:=Lib.hid (And.intro hb (And.intro hbs hbargs))
   have hpl:=hbs.1
   have hol:=hbs.2.1
   have htl:=hbs.2.2
   clear hb hbs hbargs
   go_upto_region 6 with fail
   generalize hW5:wr.alloc (.cells #[.slice none 0 0,.slice none 0 0,.int .i64 0,.int .i64 0,.slice none 0 0] 49)=W5 at *
   obtain⟨hin,hBs⟩:=HIN.out _ hst.bel
   obtain⟨bb,bo,hfa,hbB,g2c,g3c,h64,pv,ov,tv,g0,g1,g4,hpar,hops,htos⟩:=hin.get HB.out.1
   obtain⟨pa,pc,rfl,hpc,hpm⟩:=hpar.form
   subst hfa
   have hbl2:bb<W5.heap.size:=by omega
   have d0:=zA (i:=0) hst.h1 rfl
   have dl:=lt_of_block hst.h1
   have t0:=zA (i:=0) hst.hb rfl
   have tf0:W5.frozen? ⟨tb,0,none⟩=false:=zE hst.hb
   have tl:=lt_of_block hst.hb
   have hszf:=hst.sz
   have hsrc:=zY.src hpar
   have HS5:=Lib.hid (And.intro hst hsrc)
   obtain⟨ij,hij,hzj0,hzj1,hzj2⟩:=info_parts Try.info_int
   clear c0 hfl hst hin hpar hops htos g1 g4 g2c g3c h64 hsrc hW5
   go_cut [] (fun wx=>Hid (∃pv',OfMid w f1 r2 g3 tb (.slice (some ⟨bb,bo,none⟩) blocks.length fc) (.slice ga k gc) {bt0 with params:=b.params,pv:=pv' } l [] wx))
   case first=>
    go_region_law (first|(refine yG (by rfl) (.tmp 20) (.tmp 26) _ (by rfl) f1 3 ij (.int .i64 0) 1 8 Try.underlying22 hij hzj0 hzj1 hzj2 rfl (by omega) (.slice none 0 0) 0 [] (by rfl) (World.ownsRow_nil _ _ _ _) (.slice pa b.params.length pc) b.params.length (b.params.map zN) (by rfl) HS5.out.2 (by unfold maxLen;omega) (by omega) (by simp;omega) ?_;intro aa9 cap9 w9 hown9 hgrow9 hat9;have cp9:=(hgrow9.cell_far ⟨tb,0,none⟩ (by simp;omega) (by simp[Value.ownBlock])).trans t0;have fp9:=(hgrow9.frozen_far ⟨tb,0,none⟩ (by simp;omega) (by simp[Value.ownBlock])).trans tf0))
    all_goals go_wp2_with fail
    all_goals go_meet
    all_goals (
     rw[Nat.zero_add,List.nil_append] at hown9
     rw[Nat.zero_add] at hat9
     exact Lib.hid ⟨_,HS5.out.1.par rfl (Below.refl _ _).drew hgrow9 hown9 (fun q e=>hat9.elim (fun e2=> .inl (e2.symm.trans e)) (fun e2=> .inr (by have e3:=e2.symm.trans e;simp at e3;omega)))⟩)
   case rest=>
   obtain⟨pv',hmp⟩:=hcut.out
   obtain⟨bt1,hbt1⟩:∃bt1:BT,{bt0 with params:=b.params,pv:=pv' }=bt1:=⟨_,rfl⟩
   rw[hbt1] at hmp
   have HM0:=Lib.hid (show OfMid w f1 r2 g3 tb (.slice (some ⟨bb,bo,none⟩) blocks.length fc) (.slice ga k gc) {bt1 with ops:=[],ov:=.slice none 0 0 } l [] wc/\([]:List (IOp×Value)).map (·.1)=b.ops.take 0 from⟨by rw[<-hbt1] at hmp ⊢;exact hmp,rfl⟩)
   have HBT1:=Lib.hid hbt1
   have e0:=zA (i:=0) hmp.h1 rfl
   have el:=lt_of_block hmp.h1
   clear hbt1 hcut d0 dl t0 tf0 tl hszf hij hzj0 hzj1 hzj2 ij hbl2 g0
   have hbw:Below f1 w wc:=hmp.bel
   have hbs2:bb<wc.heap.size:=Nat.lt_of_lt_of_le hbB (HIN.out _ hbw).2
   clear hmp hbw
   go_wp2
   clear e0 el hbs2
   go_loopw [6] (fun jv wx=>∃(j:Nat) (ol:List (IOp×Value)) (oa:Option Addr) (oc:Nat),j<=b.ops.length/\jv=.int .i64 (j:Int)/\Hid (OfMid w f1 r2 g3 tb (.slice (some ⟨bb,bo,none⟩) blocks.length fc) (.slice ga k gc) {bt1 with ops:=ol,ov:=.slice oa j oc } l [] wx/\ol.map (·.1)=b.ops.take j)) (fun jv _=>b.ops.length-(intOf jv).toNat)
   case atStart=>exact⟨0,[],none,0,Nat.zero_le _,rfl,HM0⟩
   case round=>
    obtain⟨j,ol,oa,oc,hj,rfl,HJ⟩:=hrel
    have e0:=zA (i:=0) HJ.out.1.h1 rfl
    have el:=lt_of_block HJ.out.1.h1
    obtain⟨hin,hBs2⟩:=HIN.out _ HJ.out.1.bel
    obtain⟨b2,o2,hfa2,_,q2c,q3c,q64,pv2,ov2,tv2,q0,q1,q4,hpar2,hops2,htos2⟩:=hin.get HB.out.1
    cases hfa2
    obtain⟨sa,sc,rfl,hsc,hsm⟩:=hops2.form
    have hbs2:bb<wr.heap.size:=by omega
    by_cases hjl:j<b.ops.length
    ·have hjI:(j:Int)<(b.ops.length:Int):=by omega
     obtain⟨o,ho⟩:∃o,b.ops[j]? =some o:=⟨_,List.getElem?_eq_getElem hjl⟩
     obtain⟨ob,oo,hsa,hobB,y0,y1,y2,y3,y4,y64,yv,y5,hya⟩:=hops2.get ho
     obtain⟨ya,yc,rfl,hyc,hym⟩:=hya.form
     subst hsa
     have hobl:ob<wr.heap.size:=by omega
     have hargs:=(HB.out.2.2.1 o (List.mem_of_getElem? ho))
     obtain⟨q,hq⟩:∃q,wr.heap.size=q:=⟨_,rfl⟩
     have hb6:Below wr.heap.size wr (wr.alloc (.cells #[.int .i64 o.code,.int .i64 o.res,.int .i64 o.a,.int .i64 o.b,.int .u16 (o.n:Int),.slice ya o.args.length yc] 77)):=(Below.refl _ _).alloc (Nat.le_refl _) _
     have hx6:=zI (W:=wr) (o:=.cells #[.int .i64 o.code,.int .i64 o.res,.int .i64 o.a,.int .i64 o.b,.int .u16 (o.n:Int),.slice ya o.args.length yc] 77) hq
     have hsrc6:=zY.src (hya.below zO (hb6.mono hBs2))
     have HO6:=Lib.hid (And.intro ho (And.intro y64 hq))
     clear hpar2 hops2 htos2 hin q0 q4 q2c q3c q64 ho y64 hya
     go_upto_region 12 with fail
     generalize hW6:wr.alloc (.cells #[.int .i64 o.code,.int .i64 o.res,.int .i64 o.a,.int .i64 o.b,.int .u16 (o.n:Int),.slice ya o.args.length yc] 77)=W6 at *
     have z5:=zA (i:=5) hx6 rfl
     have zf5:W6.frozen? ⟨q,5,none⟩=false:=zE hx6
     have zl:=lt_of_block hx6
     have hnil6:W6.ownsRow f1 3 1 (.slice none 0 0) 0 []:=World.ownsRow_nil _ _ _ _
     have hfs6:f1<=W6.heap.size:=Nat.le_trans HJ.out.1.sz hb6.size
     have HX6:=Lib.hid (And.intro hx6 (And.intro hsrc6 (And.intro hnil6 hb6)))
     obtain⟨ij,hij,hzj0,hzj1,hzj2⟩:=info_parts Try.info_int
     clear hx6 hsrc6 hnil6 hb6 hW6 y0 y1 y2 y3 y4 y5
     go_upto_region 13 with(at_builtin;go_must (refine zK _ rfl (.tmp 49) (.tmp 51) 22 rfl f1 3 ij (.int .i64 0) 1 8 Try.underlying22 hij hzj0 hzj1 hzj2 rfl (by decide) (.slice none 0 0) 0 [] rfl HX6.out.2.2.1 (.slice ya o.args.length yc) o.args.length (o.args.map zN) rfl HX6.out.2.1 (by unfold maxLen;omega) (by omega) (by omega) ?_;intro v9 w9 hown9 hgrow9 hat9;obtain⟨ra9,rc9,rfl⟩:=zG hown9;have hq9:=zL hgrow9 HX6.out.1 (by simp[Value.ownBlock]);have q9c:=zA (i:=5) hq9 rfl;have q9f:w9.frozen? ⟨q,5,none⟩=false:=zE hq9;have hq9l:=lt_of_block hq9;have HG9:=Lib.hid (And.intro hown9 (And.intro hgrow9 (And.intro hat9 hq9)));clear hown9 hgrow9 hat9 hq9))
     have hm9:OfMid w f1 r2 g3 tb (.slice (some ⟨bb,bo,none⟩) blocks.length fc) (.slice ga k gc) {bt1 with ops:=ol,ov:=.slice oa j oc } l [zP (.slice ra9 o.args.length rc9) o.args] (w9.setCell ⟨q,5,none⟩ (.slice ra9 o.args.length rc9)):=by
      have hown9:=HG9.out.1
      have hat9:=HG9.out.2.2.1
      rw[Nat.zero_add,List.nil_append] at hown9
      rw[Nat.zero_add] at hat9
      refine HJ.out.1.arg2 HX6.out.2.2.2 HG9.out.2.1 hown9 (fun x e=>?_) ⟨by rw[HO6.out.2.2];exact Nat.le_refl _,lt_of_block HX6.out.1⟩ _
      rcases hat9 with e2|e2
      ·have e3:=e2.symm.trans e;simp[Value.ownBlock] at e3
      ·have e3:=e2.symm.trans e
       simp at e3
       omega
     have hqx:=zD (i:=5) HG9.out.2.2.2 (.slice ra9 o.args.length rc9)
     generalize hW10:w9.setCell ⟨q,5,none⟩ (.slice ra9 o.args.length rc9)=W10 at *
     have y0:=zA (i:=0) hqx rfl
     have y1:=zA (i:=1) hqx rfl
     have y2:=zA (i:=2) hqx rfl
     have y3:=zA (i:=3) hqx rfl
     have y4:=zA (i:=4) hqx rfl
     have y5:=zA (i:=5) hqx rfl
     have yl:=lt_of_block hqx
     have t1:=zA (i:=1) hm9.hb rfl
     have ttl:=lt_of_block hm9.hb
     have hol2:ol.length=j:=by
      have h1:=congrArg List.length HJ.out.2
      rw[List.length_map,List.length_take] at h1
      omega
     have hownO:W10.ownsRow f1 77 6 (.slice oa j oc) j (ol.flatMap zU):=by
      have h1:=hm9.rows.own (yo (.slice oa j oc) ol) (.tail _ (.tail _ (.head _)))
      unfold yo at h1
      simp only at h1
      rw[hol2] at h1
      exact h1
     have hfs10:=hm9.sz
     have HM10:=Lib.hid (And.intro hm9 (And.intro hownO hol2))
     obtain⟨ik,hik,hzk0,hzk1,hzk2⟩:=info_parts Try.info_irop
     clear hm9 hownO hol2 hqx hW10 z5 zf5 q9c q9f hq9l
     have hsrcO:yM (W10.alloc (.cells #[.int .i64 o.code,.int .i64 o.res,.int .i64 o.a,.int .i64 o.b,.int .u16 (o.n:Int),.slice ra9 o.args.length rc9] 77)) 6 (.slice (some ⟨W10.heap.size,0,none⟩) 1 1) 1 (zU (o,.slice ra9 o.args.length rc9)):=yM.cells (zI rfl) rfl (by simp[zU,Value.oneCell'])
     have HSO:=Lib.hid hsrcO
     clear hsrcO
     go_wp2_with (at_builtin;go_must (refine zK _ rfl (.tmp 55) (.tmp 57) 44 rfl f1 77 ik (.agg #[.int .i64 0,.int .i64 0,.int .i64 0,.int .i64 0,.int .u16 0,.slice none 0 0]) 6 64 Try.underlying44 hik hzk0 hzk1 hzk2 rfl (by decide) (.slice oa j oc) j (ol.flatMap zU) rfl (HM10.out.2.1.alloc _) _ 1 (zU (o,.slice ra9 o.args.length rc9)) rfl HSO.out (by unfold maxLen;omega) (by omega) (by simp;omega) ?_;intro v11 w11 hown11 hgrow11 hat11;obtain⟨ra11,rc11,rfl⟩:=zG hown11;have htb11:=zL hgrow11 (zB HM10.out.1.hb) (zC HM10.out.2.1 HM10.out.1.hb (.inr (by decide)));have tb1:=zA (i:=1) htb11 rfl;have tbf:w11.frozen? ⟨tb,1,none⟩=false:=zE htb11;have tbl:=lt_of_block htb11;have HG11:=Lib.hid (And.intro hown11 (And.intro hgrow11 hat11));clear hown11 hgrow11 hat11 htb11))
     go_roundw
     case rel=>
      refine⟨j+1,ol++ [(o,.slice ra9 o.args.length rc9)],ra11,rc11,hjl,by go_num,Lib.hid ⟨?_,?_⟩⟩
      ·exact HM10.out.1.op ((Below.refl _ _).alloc (Nat.le_refl _) _) HG11.out.2.1 (by show w11.ownsRow f1 77 6 _ (ol.length+1) _;rw[HM10.out.2.2];exact HG11.out.1) (fun x e=>HG11.out.2.2.elim (fun e2=> .inl (e2.symm.trans e)) (fun e2=> .inr (by have e3:=e2.symm.trans e;simp at e3;omega)))
      ·rw[List.map_append,HJ.out.2,List.take_add_one,HO6.out.1]
       rfl
     case measure=>simp[intOf];omega
    ·obtain rfl:j=b.ops.length:=by omega
     have hjI:¬(b.ops.length:Int)<(b.ops.length:Int):=by omega
     have hoq:ol.map (·.1)=b.ops:=by rw[HJ.out.2,List.take_length]
     obtain⟨bt2,hbt2⟩:∃bt2:BT,{bt1 with ops:=ol,ov:=.slice oa b.ops.length oc }=bt2:=⟨_,rfl⟩
     have hm2:=HJ.out.1
     rw[hbt2] at hm2
     have hbt2f:bt2.tos=[]/\bt2.tv=.slice none 0 0/\bt2.params=b.params/\bt2.ops=ol:=by rw[<-hbt2,<-HBT1.out];exact⟨rfl,rfl,rfl,rfl⟩
     have w2:=zA (i:=2) hm2.hb rfl
     have w3:=zA (i:=3) hm2.hb rfl
     have w4:=zA (i:=4) hm2.hb rfl
     have wf:∀i,wr.frozen? ⟨tb,i,none⟩=false:=fun i=>zE hm2.hb
     have wl:=lt_of_block hm2.hb
     have H2:=Lib.hid (And.intro hm2 (And.intro hbt2f hoq))
     have hqk:q2c=q2c:=rfl
     clear hj HJ hm2 hbt2 hbt2f hoq hpar2 hops2 htos2 hin q64 hjl hqk
     go_upto_region 14 with fail
     go_cut [] (fun wx=>Hid (OfMid w f1 r2 g3 tb (.slice (some ⟨bb,bo,none⟩) blocks.length fc) (.slice ga k gc) {bt2 with kind:=b.term.kind,a:=b.term.a } l [] wx))
     case first=>
      refine zt 16 (by kernel_rfl) (by kernel_rfl) ?_
      simp only[List.take_succ_cons,List.take_zero,List.drop_succ_cons,List.drop_zero]
      repeat (go_big_quiet_step (fail))
      refine wpQuiet_nil ?_
      go_wp2
      go_meet
      refine Lib.hid (OfMid.below ?_ (Below.refl _ _).drew)
      have k1:=H2.out.1.set (i:=2) (u:=.int .i64 b.term.kind) (bt':= {bt2 with kind:=b.term.kind }) rfl rfl
      have k2:=k1.set (i:=3) (u:=.int .i64 b.term.a) (bt':= {bt2 with kind:=b.term.kind,a:=b.term.a }) rfl rfl
      exact k2.set (i:=4) (u:=.slice none 0 0) (bt':= {bt2 with kind:=b.term.kind,a:=b.term.a }) (by unfold zz;rw[H2.out.2.1.2.1];rfl) rfl
     case rest=>
     have hmc:=hcut.out
     obtain⟨bt3,hbt3⟩:∃bt3:BT,{bt2 with kind:=b.term.kind,a:=b.term.a }=bt3:=⟨_,rfl⟩
     rw[hbt3] at hmc
     have hbt3f:bt3.tos=[]/\bt3.tv=.slice none 0 0/\bt3.params=b.params/\bt3.ops=ol/\bt3.kind=b.term.kind/\bt3.a=b.term.a:=by rw[<-hbt3];exact⟨H2.out.2.1.1,H2.out.2.1.2.1,H2.out.2.1.2.2.1,H2.out.2.1.2.2.2,rfl,rfl⟩
     have HM3:=Lib.hid (show OfMid w f1 r2 g3 tb (.slice (some ⟨bb,bo,none⟩) blocks.length fc) (.slice ga k gc) {bt3 with tos:=[],tv:=.slice none 0 0 } l [] wc/\([]:List (IEdge×Value)).map (·.1)=b.term.to.take 0 from⟨by
      have e:({bt3 with tos:=[],tv:=.slice none 0 0 }:BT)=bt3:=by
       obtain⟨x1,x2,x3,x4,x5,x6,x7,x8⟩:=bt3
       obtain⟨h1,h2,_⟩:=hbt3f
       simp only at h1 h2
       rw[h1,h2]
      rw[e]
      exact hmc,rfl⟩)
     have HB3:=Lib.hid hbt3f
     clear hmc hbt3 hbt3f hcut w2 w3 w4 wf wl e0 el q0 q1 q2c q3c q4 hbs2
     go_wp2
     go_loopw [9] (fun jv wx=>∃(j:Nat) (tl:List (IEdge×Value)) (ta:Option Addr) (tc:Nat),j<=b.term.to.length/\jv=.int .i64 (j:Int)/\Hid (OfMid w f1 r2 g3 tb (.slice (some ⟨bb,bo,none⟩) blocks.length fc) (.slice ga k gc) {bt3 with tos:=tl,tv:=.slice ta j tc } l [] wx/\tl.map (·.1)=b.term.to.take j)) (fun jv _=>b.term.to.length-(intOf jv).toNat)
     case atStart=>exact⟨0,[],none,0,Nat.zero_le _,rfl,HM3⟩
     case round=>
      obtain⟨j,el2,ta,tc,hj,rfl,HJ⟩:=hrel
      have e0:=zA (i:=0) HJ.out.1.h1 rfl
      have el:=lt_of_block HJ.out.1.h1
      obtain⟨hin,hBs3⟩:=HIN.out _ HJ.out.1.bel
      obtain⟨b2,o2,hfa2,_,q2c,q3c,q64,pv2,ov2,tv2,q0,q1,q4,hpar2,hops2,htos2⟩:=hin.get HB.out.1
      cases hfa2
      obtain⟨sa2,sc2,rfl,hsc2,hsm2⟩:=htos2.form
      have hbs2:bb<wr.heap.size:=by omega
      by_cases hjl:j<b.term.to.length
      ·have hjI:(j:Int)<(b.term.to.length:Int):=by omega
       obtain⟨o,ho⟩:∃o,b.term.to[j]? =some o:=⟨_,List.getElem?_eq_getElem hjl⟩
       obtain⟨ob,oo,hsa,hobB,y0,y64,yv,y1,hya⟩:=htos2.get ho
       obtain⟨ya,yc,rfl,hyc,hym⟩:=hya.form
       subst hsa
       have hobl:ob<wr.heap.size:=by omega
       have hargs:=(HB.out.2.2.2 o (List.mem_of_getElem? ho))
       obtain⟨q,hq⟩:∃q,wr.heap.size=q:=⟨_,rfl⟩
       have hb6:Below wr.heap.size wr (wr.alloc (.cells #[.int .i64 o.block,.slice ya o.args.length yc] 75)):=(Below.refl _ _).alloc (Nat.le_refl _) _
       have hx6:=zI (W:=wr) (o:=.cells #[.int .i64 o.block,.slice ya o.args.length yc] 75) hq
       have hsrc6:=zY.src (hya.below zO (hb6.mono hBs3))
       have HO6:=Lib.hid (And.intro ho (And.intro y64 hq))
       clear hpar2 hops2 htos2 hin q0 q1 q2c q3c q64 ho y64 hya
       go_upto_region 20 with fail
       generalize hW6:wr.alloc (.cells #[.int .i64 o.block,.slice ya o.args.length yc] 75)=W6 at *
       have z1:=zA (i:=1) hx6 rfl
       have zf1:W6.frozen? ⟨q,1,none⟩=false:=zE hx6
       have zl:=lt_of_block hx6
       have hnil6:W6.ownsRow f1 3 1 (.slice none 0 0) 0 []:=World.ownsRow_nil _ _ _ _
       have hfs6:f1<=W6.heap.size:=Nat.le_trans HJ.out.1.sz hb6.size
       have HX6:=Lib.hid (And.intro hx6 (And.intro hsrc6 (And.intro hnil6 hb6)))
       obtain⟨ij,hij,hzj0,hzj1,hzj2⟩:=info_parts Try.info_int
       clear hx6 hsrc6 hnil6 hb6 hW6 y0 y1
       go_upto_region 21 with(at_builtin;go_must (refine zK _ rfl (.tmp 98) (.tmp 100) 22 rfl f1 3 ij (.int .i64 0) 1 8 Try.underlying22 hij hzj0 hzj1 hzj2 rfl (by decide) (.slice none 0 0) 0 [] rfl HX6.out.2.2.1 (.slice ya o.args.length yc) o.args.length (o.args.map zN) rfl HX6.out.2.1 (by unfold maxLen;omega) (by omega) (by omega) ?_;intro v9 w9 hown9 hgrow9 hat9;obtain⟨ra9,rc9,rfl⟩:=zG hown9;have hq9:=zL hgrow9 HX6.out.1 (by simp[Value.ownBlock]);have q9c:=zA (i:=1) hq9 rfl;have q9f:w9.frozen? ⟨q,1,none⟩=false:=zE hq9;have hq9l:=lt_of_block hq9;have HG9:=Lib.hid (And.intro hown9 (And.intro hgrow9 (And.intro hat9 hq9)));clear hown9 hgrow9 hat9 hq9))
       have hm9:OfMid w f1 r2 g3 tb (.slice (some ⟨bb,bo,none⟩) blocks.length fc) (.slice ga k gc) {bt3 with tos:=el2,tv:=.slice ta j tc } l [zP (.slice ra9 o.args.length rc9) o.args] (w9.setCell ⟨q,1,none⟩ (.slice ra9 o.args.length rc9)):=by
        have hown9:=HG9.out.1
        have hat9:=HG9.out.2.2.1
        rw[Nat.zero_add,List.nil_append] at hown9
        rw[Nat.zero_add] at hat9
        refine HJ.out.1.arg2 HX6.out.2.2.2 HG9.out.2.1 hown9 (fun x e=>?_) ⟨by rw[HO6.out.2.2];exact Nat.le_refl _,lt_of_block HX6.out.1⟩ _
        rcases hat9 with e2|e2
        ·have e3:=e2.symm.trans e;simp[Value.ownBlock] at e3
        ·have e3:=e2.symm.trans e
         simp at e3
         omega
       have hqx:=zD (i:=1) HG9.out.2.2.2 (.slice ra9 o.args.length rc9)
       generalize hW10:w9.setCell ⟨q,1,none⟩ (.slice ra9 o.args.length rc9)=W10 at *
       have y0:=zA (i:=0) hqx rfl
       have y1:=zA (i:=1) hqx rfl
       have yl:=lt_of_block hqx
       have t4:=zA (i:=4) hm9.hb rfl
       have ttl:=lt_of_block hm9.hb
       have hol2:el2.length=j:=by
        have h1:=congrArg List.length HJ.out.2
        rw[List.length_map,List.length_take] at h1
        omega
       have hownO:W10.ownsRow f1 75 2 (.slice ta j tc) j (el2.flatMap za):=by
        have h1:=hm9.rows.own (xg (.slice ta j tc) el2) (.tail _ (.tail _ (.tail _ (.head _))))
        unfold xg at h1
        simp only at h1
        rw[hol2] at h1
        exact h1
       have hfs10:=hm9.sz
       have HM10:=Lib.hid (And.intro hm9 (And.intro hownO hol2))
       obtain⟨ik,hik,hzk0,hzk1,hzk2⟩:=info_parts Try.info_edge
       clear hm9 hownO hol2 hqx hW10 z1 zf1 q9c q9f hq9l
       have hsrcO:yM (W10.alloc (.cells #[.int .i64 o.block,.slice ra9 o.args.length rc9] 75)) 2 (.slice (some ⟨W10.heap.size,0,none⟩) 1 1) 1 (za (o,.slice ra9 o.args.length rc9)):=yM.cells (zI rfl) rfl (by simp[za,Value.oneCell'])
       have HSO:=Lib.hid hsrcO
       clear hsrcO
       go_wp2_with (at_builtin;go_must (refine zK _ rfl (.tmp 105) (.tmp 107) 45 rfl f1 75 ik (.agg #[.int .i64 0,.slice none 0 0]) 2 32 Try.underlying45 hik hzk0 hzk1 hzk2 rfl (by decide) (.slice ta j tc) j (el2.flatMap za) rfl (HM10.out.2.1.alloc _) _ 1 (za (o,.slice ra9 o.args.length rc9)) rfl HSO.out (by unfold maxLen;omega) (by omega) (by simp;omega) ?_;intro v11 w11 hown11 hgrow11 hat11;obtain⟨ra11,rc11,rfl⟩:=zG hown11;have htb11:=zL hgrow11 (zB HM10.out.1.hb) (zC HM10.out.2.1 HM10.out.1.hb (.inr (by decide)));have tb4:=zA (i:=4) htb11 rfl;have tbf:w11.frozen? ⟨tb,4,none⟩=false:=zE htb11;have tbl:=lt_of_block htb11;have HG11:=Lib.hid (And.intro hown11 (And.intro hgrow11 hat11));clear hown11 hgrow11 hat11 htb11))
       go_roundw
       case rel=>
        refine⟨j+1,el2++ [(o,.slice ra9 o.args.length rc9)],ra11,rc11,hjl,by go_num,Lib.hid ⟨?_,?_⟩⟩
        ·exact HM10.out.1.edge ((Below.refl _ _).alloc (Nat.le_refl _) _) HG11.out.2.1 (by show w11.ownsRow f1 75 2 _ (el2.length+1) _;rw[HM10.out.2.2];exact HG11.out.1) (fun x e=>HG11.out.2.2.elim (fun e2=> .inl (e2.symm.trans e)) (fun e2=> .inr (by have e3:=e2.symm.trans e;simp at e3;omega)))
        ·rw[List.map_append,HJ.out.2,List.take_add_one,HO6.out.1]
         rfl
       case measure=>simp[intOf];omega
      ·obtain rfl:j=b.term.to.length:=by omega
       have hjI:¬(b.term.to.length:Int)<(b.term.to.length:Int):=by omega
       have htq:el2.map (·.1)=b.term.to:=by rw[HJ.out.2,List.take_length]
       obtain⟨bt4,hbt4⟩:∃bt4:BT,{bt3 with tos:=el2,tv:=.slice ta b.term.to.length tc }=bt4:=⟨_,rfl⟩
       have hm4:=HJ.out.1
       rw[hbt4] at hm4
       have hblk:bt4.blk=b:=by
        rw[<-hbt4]
        unfold BT.blk
        simp only
        rw[HB3.out.2.2.1,HB3.out.2.2.2.1,HB3.out.2.2.2.2.1,HB3.out.2.2.2.2.2,H2.out.2.2,htq]
       have r0:=hm4.rows.own (zP bt4.pv bt4.params) (.head _)
       have r1:=hm4.rows.own (yo bt4.ov bt4.ops) (.tail _ (.head _))
       have r2':=hm4.rows.own (xg bt4.tv bt4.tos) (.tail _ (.tail _ (.head _)))
       obtain⟨xa0,xc0,hx0⟩:=zG r0
       obtain⟨xa1,xc1,hx1⟩:=zG r1
       obtain⟨xa2,xc2,hx2⟩:=zG r2'
       have hx0':bt4.pv=.slice xa0 bt4.params.length xc0:=hx0
       have hx1':bt4.ov=.slice xa1 bt4.ops.length xc1:=hx1
       have hx2':bt4.tv=.slice xa2 bt4.tos.length xc2:=hx2
       have hcs:zz bt4=[.slice xa0 bt4.params.length xc0,.slice xa1 bt4.ops.length xc1,.int .i64 bt4.kind,.int .i64 bt4.a,.slice xa2 bt4.tos.length xc2]:=by unfold zz;rw[hx0',hx1',hx2']
       have hbb:=hm4.hb
       rw[hcs] at hbb
       have s0:=zA (i:=0) hbb rfl
       have s1:=zA (i:=1) hbb rfl
       have s2:=zA (i:=2) hbb rfl
       have s3:=zA (i:=3) hbb rfl
       have s4:=zA (i:=4) hbb rfl
       have sl:=lt_of_block hbb
       have g3c':=zA (i:=0) hm4.h3 rfl
       have g3l:=lt_of_block hm4.h3
       have hkl:l.length=k:=by
        have h1:=congrArg List.length HK.out.2
        rw[List.length_map,List.length_take] at h1
        omega
       have hownB:wr.ownsRow f1 49 5 (.slice ga k gc) k (l.flatMap zz):=by
        have h1:=hm4.rows.own (zd (.slice ga k gc) l) (List.mem_append_right [] (List.mem_append_right bt4.rows (.head _)))
        unfold zd at h1
        simp only at h1
        rw[hkl] at h1
        exact h1
       have hfs4:=hm4.sz
       have HM4:=Lib.hid (And.intro hm4 (And.intro hownB (And.intro hkl (And.intro hblk hcs))))
       obtain⟨ik,hik,hzk0,hzk1,hzk2⟩:=info_parts Try.info_irblock
       have hsrcB:yM (wr.alloc (.cells #[.slice xa0 bt4.params.length xc0,.slice xa1 bt4.ops.length xc1,.int .i64 bt4.kind,.int .i64 bt4.a,.slice xa2 bt4.tos.length xc2] 49)) 5 (.slice (some ⟨wr.heap.size,0,none⟩) 1 1) 1 [.slice xa0 bt4.params.length xc0,.slice xa1 bt4.ops.length xc1,.int .i64 bt4.kind,.int .i64 bt4.a,.slice xa2 bt4.tos.length xc2]:=yM.cells (zI rfl) rfl (by simp[Value.oneCell'])
       have HSB:=Lib.hid hsrcB
       clear hm4 hownB hkl hblk hcs hbb r0 r1 r2' hx0 hx1 hx2 hx0' hx1' hx2' hbt4 htq hj HJ hpar2 hops2 htos2 hin q64 hjl hsrcB
       go_wp2_with (at_builtin;go_must (refine zK _ rfl (.tmp 112) (.tmp 114) 35 rfl f1 49 ik (.agg #[.slice none 0 0,.slice none 0 0,.int .i64 0,.int .i64 0,.slice none 0 0]) 5 88 Try.underlying35 hik hzk0 hzk1 hzk2 rfl (by decide) (.slice ga k gc) k (l.flatMap zz) rfl (HM4.out.2.1.alloc _) _ 1 [.slice xa0 bt4.params.length xc0,.slice xa1 bt4.ops.length xc1,.int .i64 bt4.kind,.int .i64 bt4.a,.slice xa2 bt4.tos.length xc2] rfl HSB.out (by unfold maxLen;omega) (by omega) (by simp;omega) ?_;intro v11 w11 hown11 hgrow11 hat11;obtain⟨ra11,rc11,rfl⟩:=zG hown11;have hg311:=zL hgrow11 (zB HM4.out.1.h3) (zC HM4.out.2.1 HM4.out.1.h3 (.inr (by decide)));have gg1:=zA (i:=0) hg311 rfl;have ggf:w11.frozen? ⟨g3,0,none⟩=false:=zE hg311;have ggl:=lt_of_block hg311;have HG11:=Lib.hid (And.intro hown11 (And.intro hgrow11 hat11));clear hown11 hgrow11 hat11 hg311))
       go_roundw
       case rel=>
        have hcl:=HM4.out.1.close ((Below.refl _ _).alloc (Nat.le_refl _) _) HG11.out.2.1 (by rw[HM4.out.2.2.1,HM4.out.2.2.2.2];exact HG11.out.1) (fun x e=>HG11.out.2.2.elim (fun e2=> .inl (e2.symm.trans e)) (fun e2=> .inr (by have e3:=e2.symm.trans e;simp at e3;omega)))
        refine⟨k+1,l++ [bt4],ra11,rc11,hlt,by go_num,Lib.hid ⟨hcl,?_⟩⟩
        rw[List.map_append,HK.out.2,List.take_add_one,HB.out.1]
        show _++ [bt4.blk]=_
        rw[HM4.out.2.2.2.1]
        rfl
       case measure=>simp[intOf];omega
  ·obtain rfl:k=blocks.length:=by omega
   have hltI:¬(blocks.length:Int)<(blocks.length:Int):=by omega
   have d0:=zA (i:=0) HK.out.1.h3 rfl
   have hgl:=lt_of_block HK.out.1.h3
   have e0:=zA (i:=0) HK.out.1.h2 rfl
   have hgl2:=lt_of_block HK.out.1.h2
   have ef:wr.frozen? ⟨r2,0,none⟩=false:=zE HK.out.1.h2
   go_wp2
   have hxg:=zD (i:=0) HK.out.1.h2 (.slice ga blocks.length gc)
   have x0:=zA (i:=0) hxg rfl
   have hxl:=lt_of_block hxg
   have hfn:l.map BT.blk=blocks:=by rw[HK.out.2,List.take_length]
   have hges:=HK.out.1.ges
   have hrs:Rows (wr.setCell ⟨r2,0,none⟩ (.slice ga blocks.length gc)) f1 (zd (.slice ga blocks.length gc) l::l.flatMap BT.rows):=by
    refine HK.out.1.rows.keep fun q hq=>Below.heap_setCell _ _ _ _ (fun e=>?_)
    obtain⟨x,hx,hxk⟩:=List.mem_filterMap.1 hq
    have e':q=r2:=e
    subst e'
    exact zC (HK.out.1.rows.own x hx) HK.out.1.h2 (.inr (lG x hx)) hxk
   have hbw:Below f1 w (wr.setCell ⟨r2,0,none⟩ (.slice ga blocks.length gc)):=HK.out.1.bel.setCell (by show f1<=r2;omega) _
   have HE:=Lib.hid (And.intro hfn (And.intro hrs hbw))
   have hf1:=HF1.out
   clear hfn hrs hbw
   refine bodyPost_ret (v:=.agg #[.slice ga blocks.length gc]) ?_ rfl ?_
   ·rw[zM rfl]
    go_simp
   ·refine⟨⟨l,.slice ga blocks.length gc⟩,ga,blocks.length,gc,rfl,rfl,HE.out.1,?_,?_⟩
    ·rw[hf1];exact HE.out.2.1
    ·rw[hf1];exact HE.out.2.2
open Go.RowKit
def zW (t:PT):List Value:=[t.fv,t.av,.int .i64 t.entry,.int .i64 t.handler,t.dv,t.bv]
theorem vr {t:PT}:∀x∈t.rows,x.e≠29:=fun x hx=>by
 unfold PT.rows at hx
 rcases List.mem_cons.1 hx with rfl|hx
 ·show 43≠29;decide
 rcases List.mem_cons.1 hx with rfl|hx
 ·show 3≠29;decide
 rcases List.mem_cons.1 hx with rfl|hx
 ·show 51≠29;decide
 rcases List.mem_cons.1 hx with rfl|hx
 ·show 9≠29;decide
 obtain⟨f,_,hx⟩:=List.mem_flatMap.1 hx
 unfold FT.rows at hx
 rcases List.mem_cons.1 hx with rfl|hx
 ·show 49≠29;decide
 obtain⟨b,_,hx⟩:=List.mem_flatMap.1 hx
 unfold BT.rows at hx
 rcases List.mem_cons.1 hx with rfl|hx
 ·show 3≠29;decide
 rcases List.mem_cons.1 hx with rfl|hx
 ·show 77≠29;decide
 rcases List.mem_cons.1 hx with rfl|hx
 ·show 75≠29;decide
 rcases List.mem_append.1 hx with hx|hx
 ·obtain⟨q,_,rfl⟩:=List.mem_map.1 hx
  show 3≠29;decide
 ·obtain⟨q,_,rfl⟩:=List.mem_map.1 hx
  show 3≠29;decide
structure OwMid (w:World) (p1 r2 q3:Nat) (V:PV) (p:IProg) (t:PT) (wx:World):Prop where
 h1:wx.heap[p1]? =some (.cells #[V.fv,V.av,.int .i64 p.entry,.int .i64 p.handler,V.dv,V.bv] 29 (0,0))
 h2:wx.heap[r2]? =some (.cells #[.slice none 0 0,.slice none 0 0,.int .i64 0,.int .i64 0,.slice none 0 0,.slice none 0 0] 29 (0,0))
 h3:wx.heap[q3]? =some (.cells (zW t).toArray 29 (0,0))
 bel:Below p1 w wx
 rows:Rows wx p1 t.rows
 ges:p1<r2/\r2<q3
section
variable {w:World} {p1 r2 q3:Nat} {V:PV} {p:IProg} {t:PT} {wx:World} (h:OwMid w p1 r2 q3 V p t wx)
include h
theorem OwMid.sz:p1<=wx.heap.size:=Nat.le_of_lt (lt_of_block h.h1)
theorem OwMid.grow {w1 w':World}{r r':Row}{rs ns:List Row}{t':PT}{i:Nat}{u:Value}(hp:t.rows.Perm (r::rs))(hb1:Below wx.heap.size wx w1)(hns:Rows w1 wx.heap.size ns)(hg:w1.grownBy w' r.blk)
 (hown:w'.ownsRow p1 r'.e r'.sz r'.v r'.n r'.cs) (hat:∀k,r'.blk=some k->r.blk=some k∨w1.heap.size<=k) (hq:(r'::(ns++rs)).Perm t'.rows) (hc:((zW t).toArray).setIfInBounds i u=(zW t').toArray):OwMid w p1 r2 q3 V p t' (w'.setCell ⟨q3,i,none⟩ u):=by
 have hr:=h.rows.perm hp
 have ho:=hr.own r (.head _)
 have hre:r.e≠29:=vr r (hp.mem_iff.2 (.head _))
 have keep:∀ {b:Nat} {cs:Array Value},wx.heap[b]? =some (.cells cs 29 (0,0))->w'.heap[b]? =some (.cells cs 29 (0,0)):=fun hb=>zL hg (zH hb1 hb (lt_of_block hb)) (zC ho hb (.inr hre))
 have hsz:wx.heap.size<=w'.heap.size:=Nat.le_trans hb1.size hg.size
 have hbel:Below p1 w w':=h.bel.trans ⟨hg.os.trans hb1.os,hg.tape.trans hb1.tape,hg.output.trans hb1.output,hsz,fun k hk=>(hg.block k (by have:=h.sz;have:=hb1.size;omega) (fun e=>by have:=(ho.lt k e.symm).1;omega)).trans (hb1.block k (by have:=h.sz;omega))⟩
 have h1:Rows w1 p1 (r::(ns++rs)):=(hr.append hns hb1 h.sz).perm List.perm_middle
 have hnew:Rows w' p1 (r'::(ns++rs)):=h1.grow (Below.refl _ _) hg hown hat
 have h3:=keep h.h3
 have hgs:=h.ges
 refine⟨zR (keep h.h1) (by show p1≠q3;omega),zR (keep h.h2) (by show r2≠q3;omega),by rw[zD h3,hc],hbel.setCell (by show p1<=q3;omega) _,?_,h.ges⟩
 have hnew2:=hnew.perm hq
 refine hnew2.keep fun k hk=>Below.heap_setCell _ _ _ _ (fun e=>?_)
 obtain⟨x,hx,hxk⟩:=List.mem_filterMap.1 hk
 have e':k=q3:=e
 subst e'
 exact zC (hnew2.own x hx) h3 (.inr (vr x hx)) hxk
end
open Go.RowKit
theorem Try.info_obj:(Try.prog.info? 51).map (fun i=>(i.zero,i.size,i.bytes))=some (some (.agg #[.int .i64 0,.int .u16 0,.int .u16 0]),3,16):=by kernel_rfl
theorem Try.info_str:(Try.prog.info? 9).map (fun i=>(i.zero,i.size,i.bytes))=some (some (.string ⟨#[]⟩),1,16):=by kernel_rfl
theorem oe {α:Type}{sz:Nat}{R:World->Nat->Nat->Nat->α->Prop}{f:α->List Value}(hsz:0<sz)(hf:∀a,(f a).length=sz)(h1:∀a,∀u∈f a,u.oneCell'=true){w:World}{B:Nat}{v:Value}{xs:List α}(h:yN sz R w B v xs)
 (hR:∀b q x,R w B b q x->∀j u,(f x)[j]? =some u->w.cell? ⟨b,q+j,none⟩=some u):yM w sz v xs.length (xs.flatMap f):=by
 obtain⟨a,cap,rfl,h2,h3,h4⟩:=h
 refine⟨a,cap,rfl,wq f sz hf xs,fun u hu=>?_,?_⟩
 ·obtain⟨x,_,hx⟩:=List.mem_flatMap.1 hu
  exact h1 x u hx
 ·cases xs with
  |nil=>
   cases a with
   |none=>exact .inl ⟨rfl,rfl⟩
   |some ad=>exact .inr ⟨ad,rfl,fun j u hu=>by simp at hu⟩
  |cons x xs=>
   obtain⟨b,o,rfl,_,_⟩:=h4 0 x rfl
   refine .inr ⟨_,rfl,fun j u hu=>?_⟩
   have hjl:j<(x::xs).length*sz:=by
    have:=(List.getElem?_eq_some_iff.1 hu).1
    rw[wq f sz hf] at this
    exact this
   have hk:j/sz<(x::xs).length:=by
    rw[Nat.div_lt_iff_lt_mul hsz]
    exact hjl
   obtain⟨y,hy⟩:∃y,(x::xs)[j/sz]? =some y:=⟨_,List.getElem?_eq_getElem hk⟩
   obtain⟨b',o',e,_,hr⟩:=h4 (j/sz) y hy
   cases e
   have hm:=Nat.mod_lt j hsz
   have hj:j=(j/sz)*sz+j%sz:=by rw[Nat.mul_comm];exact(Nat.div_add_mod j sz).symm
   have hu2:(f y)[j%sz]? =some u:=by
    have h5:=uB f sz hf (x::xs) (j/sz) y hy (j%sz) hm
    rw[<-hj] at h5
    rw[<-h5]
    exact hu
   have h6:=hR _ _ _ hr (j%sz) u hu2
   have e2:(⟨b,o,none⟩:Addr).add j=⟨b,o+j,none⟩:=by
    unfold Addr.add
    split
    ·rename_i h0;rw[h0];rfl
    ·rfl
   rw[e2,show o+j=o+(j/sz)*sz+j%sz by omega]
   exact h6
theorem kQ:∀(w:World) (B b q:Nat) (x:IObj),ObjR w B b q x->∀(j:Nat) (u:Value),(xP x)[j]? =some u->w.cell? ⟨b,q+j,none⟩=some u:=fun w B b q x h j u hj=>by
 obtain⟨h0,h1,h2,_⟩:=h
 match j,hj with
 |0,hj=>cases hj;exact h0
 |1,hj=>cases hj;exact h1
 |2,hj=>cases hj;exact h2
 |j+3,hj=>simp[xP] at hj
theorem strs_src {w:World}{B:Nat}{v:Value}{xs:List ByteArray}(h:ky w B v xs):yM w 1 v xs.length (xs.map .string):=by
 have h1:=oe (f:=fun s:ByteArray=> [Value.string s]) (sz:=1) (by decide) (fun _=>rfl) (fun a u hu=>by rw[List.mem_singleton] at hu;subst hu;rfl) h (fun b q x hx j u hj=>by
  match j,hj with
  |0,hj=>cases hj;exact hx.1
  |j+1,hj=>simp at hj)
 rw[<-List.map_eq_flatMap] at h1
 exact h1
theorem vz {w:World}{B r2 i:Nat}{t:PT}{cs:Array Value}{u:Value}(h:Rows w B t.rows)(h2:w.heap[r2]? =some (.cells cs 29 (0,0))):Rows (w.setCell ⟨r2,i,none⟩ u) B t.rows:=by
 refine h.keep fun k hk=>Below.heap_setCell _ _ _ _ (fun e=>?_)
 obtain⟨x,hx,hxk⟩:=List.mem_filterMap.1 hk
 have e':k=r2:=e
 subst e'
 exact zC (h.own x hx) h2 (.inr (vr x hx)) hxk
def pt0 (en hn:Int):PT:=⟨[],.slice none 0 0,[],.slice none 0 0,[],.slice none 0 0,[],.slice none 0 0,en,hn⟩
theorem pt0_rows {w:World}{B:Nat}{en hn:Int}:Rows w B (pt0 en hn).rows:=by
 show Rows w B [wY (.slice none 0 0) [],zP (.slice none 0 0) [],vK (.slice none 0 0) [],v8 (.slice none 0 0) []]
 refine(((Rows.nil.cons (World.ownsRow_nil _ _ _ _) ?_).cons (World.ownsRow_nil _ _ _ _) ?_).cons (World.ownsRow_nil _ _ _ _) ?_).cons (World.ownsRow_nil _ _ _ _) ?_
 all_goals (intro g e;simp[Row.blk,v8,vK,zP,wY,Value.ownBlock] at e)
structure SmallP (p:IProg):Prop where
 fn:p.funcs.length<=2000000/\∀f∈p.funcs,vZ f/\jx f
 ar:p.args.length<=2000000
 da:p.data.length<=2000000
 ba:p.banks.length<=2000000
theorem own_any {w:World}{V:PV}{p:IProg}(hp:ProgIn w w.heap.size V p)(hs:SmallP p):
 Calls Try.prog 36 #[yH V p] w (fun e w'=>∃t:PT,e=.returned (yH t.V p)/\t.prog=p/\Rows w' w.heap.size t.rows/\Below w.heap.size w w'):=by
 obtain⟨fa,fc,hfv,hfc,hfm⟩:=hp.funcs.form
 obtain⟨aa,ac,hav,hac,ham⟩:=hp.args.form
 obtain⟨da,dc,hdv,hdc,hdm⟩:=hp.data.form
 obtain⟨ba,bc,hbv,hbc,hbm⟩:=hp.banks.form
 obtain⟨p1,hp1⟩:∃p1,w.heap.size=p1:=⟨_,rfl⟩
 have hfl:=hs.fn.1
 have hal:=hs.ar
 have hdl:=hs.da
 have hbl:=hs.ba
 have hp':ProgIn w w.heap.size ⟨.slice fa p.funcs.length fc,.slice aa p.args.length ac,.slice da p.data.length dc,.slice ba p.banks.length bc⟩ p:=⟨by show iS _ _ _ _;rw[<-hfv];exact hp.funcs,by show zY _ _ _ _;rw[<-hav];exact hp.args,by show kq _ _ _ _;rw[<-hdv];exact hp.data,by show ky _ _ _ _;rw[<-hbv];exact hp.banks,hp.ent,hp.hnd⟩
 have HP:=Lib.hid (And.intro hp' (And.intro hs (And.intro hp1 (And.intro hfv (And.intro hav (And.intro hdv hbv))))))
 unfold yH
 rw[hfv,hav,hdv,hbv]
 clear hp hp' hs hfv hav hdv hbv
 have hb1:Below w.heap.size w (((w.alloc (.cells #[.slice fa p.funcs.length fc,.slice aa p.args.length ac,.int .i64 p.entry,.int .i64 p.handler,.slice da p.data.length dc,.slice ba p.banks.length bc] 29)).alloc (.cells #[.slice none 0 0,.slice none 0 0,.int .i64 0,.int .i64 0,.slice none 0 0,.slice none 0 0] 29)).alloc (.cells #[.slice none 0 0,.slice none 0 0,.int .i64 p.entry,.int .i64 p.handler,.slice none 0 0,.slice none 0 0] 29)):=(((Below.refl _ _).alloc (Nat.le_refl _) _).alloc (by simp) _).alloc (by simp;omega) _
 have hx1:=zB (o:=.cells #[.slice none 0 0,.slice none 0 0,.int .i64 p.entry,.int .i64 p.handler,.slice none 0 0,.slice none 0 0] 29) (zB (o:=.cells #[.slice none 0 0,.slice none 0 0,.int .i64 0,.int .i64 0,.slice none 0 0,.slice none 0 0] 29) (zI (W:=w) (o:=.cells #[.slice fa p.funcs.length fc,.slice aa p.args.length ac,.int .i64 p.entry,.int .i64 p.handler,.slice da p.data.length dc,.slice ba p.banks.length bc] 29) rfl))
 have hx2:=zB (o:=.cells #[.slice none 0 0,.slice none 0 0,.int .i64 p.entry,.int .i64 p.handler,.slice none 0 0,.slice none 0 0] 29) (zI (W:=w.alloc (.cells #[.slice fa p.funcs.length fc,.slice aa p.args.length ac,.int .i64 p.entry,.int .i64 p.handler,.slice da p.data.length dc,.slice ba p.banks.length bc] 29)) (o:=.cells #[.slice none 0 0,.slice none 0 0,.int .i64 0,.int .i64 0,.slice none 0 0,.slice none 0 0] 29) rfl)
 have hx3:=zI (W:=(w.alloc (.cells #[.slice fa p.funcs.length fc,.slice aa p.args.length ac,.int .i64 p.entry,.int .i64 p.handler,.slice da p.data.length dc,.slice ba p.banks.length bc] 29)).alloc (.cells #[.slice none 0 0,.slice none 0 0,.int .i64 0,.int .i64 0,.slice none 0 0,.slice none 0 0] 29)) (o:=.cells #[.slice none 0 0,.slice none 0 0,.int .i64 p.entry,.int .i64 p.handler,.slice none 0 0,.slice none 0 0] 29) rfl
 have hs1:(w.alloc (.cells #[.slice fa p.funcs.length fc,.slice aa p.args.length ac,.int .i64 p.entry,.int .i64 p.handler,.slice da p.data.length dc,.slice ba p.banks.length bc] 29)).heap.size=w.heap.size+1:=by simp
 have hs2:((w.alloc (.cells #[.slice fa p.funcs.length fc,.slice aa p.args.length ac,.int .i64 p.entry,.int .i64 p.handler,.slice da p.data.length dc,.slice ba p.banks.length bc] 29)).alloc (.cells #[.slice none 0 0,.slice none 0 0,.int .i64 0,.int .i64 0,.slice none 0 0,.slice none 0 0] 29)).heap.size=w.heap.size+1+1:=by simp
 rw[hs1] at hx2
 rw[hs2] at hx3
 clear hs1 hs2
 go_enter Try.func36,Try.ntmps36
 go_upto_region 2 with fail
 generalize hW1:((w.alloc (.cells #[.slice fa p.funcs.length fc,.slice aa p.args.length ac,.int .i64 p.entry,.int .i64 p.handler,.slice da p.data.length dc,.slice ba p.banks.length bc] 29)).alloc (.cells #[.slice none 0 0,.slice none 0 0,.int .i64 0,.int .i64 0,.slice none 0 0,.slice none 0 0] 29)).alloc (.cells #[.slice none 0 0,.slice none 0 0,.int .i64 p.entry,.int .i64 p.handler,.slice none 0 0,.slice none 0 0] 29)=W1 at *
 rw[hp1] at hx1 hx2 hx3
 generalize hq3:p1+1+1=q3 at *
 generalize hr2:p1+1=r2 at *
 have hges:p1<r2/\r2<q3:=by omega
 obtain⟨t0,ht0⟩:∃t0,pt0 p.entry p.handler=t0:=⟨_,rfl⟩
 have hm0:OwMid w p1 r2 q3 ⟨.slice fa p.funcs.length fc,.slice aa p.args.length ac,.slice da p.data.length dc,.slice ba p.banks.length bc⟩ p t0 W1:=⟨hx1,hx2,by rw[<-ht0];exact hx3,by rw[<-hp1];exact hb1,by rw[<-ht0];exact pt0_rows,hges⟩
 have HT0:=Lib.hid ht0
 clear hb1 hx1 hx2 hx3 hW1 hq3 hr2 hges
 have hpr:=HP.out.1
 have hbw:Below w.heap.size w W1:=by rw[hp1];exact hm0.bel
 have hsrc:yM W1 1 (.slice aa p.args.length ac) (p.args.length) (p.args.map zN):=zY.src (hpr.args.below zO hbw)
 have qc:=zA (i:=1) hm0.h3 rfl
 have qs:W1.cell? ⟨q3,1,none⟩=some (.slice none 0 0):=by rw[qc];rw[<-HT0.out];rfl
 have ql:=lt_of_block hm0.h3
 have pc:=zA (i:=1) hm0.h1 rfl
 have pl:=lt_of_block hm0.h1
 have hfs:=hm0.sz
 have HM0:=Lib.hid (And.intro hm0 hsrc)
 have hnil:W1.ownsRow p1 3 1 (.slice none 0 0) 0 []:=World.ownsRow_nil _ _ _ _
 obtain⟨ij,hij,hzj0,hzj1,hzj2⟩:=info_parts Try.info_int
 clear hm0 hsrc hpr hbw qc
 go_upto_region 3 with(at_builtin;go_must (refine zK _ rfl (.tmp 11) (.tmp 13) 22 rfl p1 3 ij (.int .i64 0) 1 8 Try.underlying22 hij hzj0 hzj1 hzj2 rfl (by decide) (.slice none 0 0) 0 [] rfl hnil (.slice aa p.args.length ac) (p.args.length) (p.args.map zN) rfl HM0.out.2 (by unfold maxLen;omega) (by omega) (by omega) ?_;intro v9 w9 hown9 hgrow9 hat9;obtain⟨ra1,rc1,rfl⟩:=zG hown9;have hq9:=zL hgrow9 HM0.out.1.h3 (by simp[Value.ownBlock]);have q9c:=zA (i:=1) hq9 rfl;have q9f:w9.frozen? ⟨q3,1,none⟩=false:=zE hq9;have hq9l:=lt_of_block hq9;have HG9:=Lib.hid (And.intro hown9 (And.intro hgrow9 hat9));clear hown9 hgrow9 hat9 hq9))
 have hown9:=HG9.out.1
 have hat9:=HG9.out.2.2
 rw[Nat.zero_add,List.nil_append] at hown9
 rw[Nat.zero_add] at hat9
 obtain⟨t1,ht1⟩:∃t1:PT,{t0 with args:=p.args,av:=.slice ra1 (p.args.length) rc1 }=t1:=⟨_,rfl⟩
 have hm1:OwMid w p1 r2 q3 ⟨.slice fa p.funcs.length fc,.slice aa p.args.length ac,.slice da p.data.length dc,.slice ba p.banks.length bc⟩ p t1 (w9.setCell ⟨q3,1,none⟩ (.slice ra1 (p.args.length) rc1)):=by
  rw[<-ht1]
  refine HM0.out.1.grow (r:=zP t0.av t0.args) (r':=zP (.slice ra1 (p.args.length) rc1) (p.args)) (ns:=[]) (rs:=wY t0.fv t0.funcs::vK t0.dv t0.data::v8 t0.bv t0.banks::t0.funcs.flatMap FT.rows) ?_ (Below.refl _ _) Rows.nil ?_ hown9 (fun x e=>?_) ?_ rfl
  ·classical
   unfold PT.rows
   refine List.perm_iff_count.2 fun r=>?_
   simp only[List.count_append,List.count_cons,List.nil_append]
   omega
  ·rw[show(zP t0.av t0.args).blk=none by rw[<-HT0.out];rfl];exact HG9.out.2.1
  ·rcases hat9 with e2|e2
   ·have e3:=e2.symm.trans e;simp[Value.ownBlock] at e3
   ·right;have e3:=e2.symm.trans e;simp at e3;omega
  ·classical
   unfold PT.rows
   refine List.perm_iff_count.2 fun r=>?_
   simp only[List.count_append,List.count_cons,List.nil_append]
   omega
 generalize hW1:w9.setCell ⟨q3,1,none⟩ (.slice ra1 (p.args.length) rc1)=V1 at *
 rw[<-HT0.out] at ht1
 have HT1:=Lib.hid ht1
 clear HG9 hown9 hat9 hW1 q9c q9f hq9l qs ql pc pl hnil hfs ht1 hij hzj0 hzj1 hzj2 ij
 have hpr:=HP.out.1
 have hbw:Below w.heap.size w V1:=by rw[hp1];exact hm1.bel
 have hsrc:yM V1 3 (.slice da p.data.length dc) (p.data.length) (p.data.flatMap xP):=oe (f:=xP) (by decide) sk (by simp[xP,Value.oneCell']) (hpr.data.below tZ hbw) (fun b q x hx=>kQ _ _ b q x hx)
 have qc:=zA (i:=4) hm1.h3 rfl
 have qs:V1.cell? ⟨q3,4,none⟩=some (.slice none 0 0):=by rw[qc];rw[<-HT1.out];rfl
 have ql:=lt_of_block hm1.h3
 have pc:=zA (i:=4) hm1.h1 rfl
 have pl:=lt_of_block hm1.h1
 have hfs:=hm1.sz
 have HM1:=Lib.hid (And.intro hm1 hsrc)
 have hnil:V1.ownsRow p1 51 3 (.slice none 0 0) 0 []:=World.ownsRow_nil _ _ _ _
 obtain⟨ij,hij,hzj0,hzj1,hzj2⟩:=info_parts Try.info_obj
 clear hm1 hsrc hpr hbw qc
 go_upto_region 4 with(at_builtin;go_must (refine zK _ rfl (.tmp 17) (.tmp 19) 26 rfl p1 51 ij (.agg #[.int .i64 0,.int .u16 0,.int .u16 0]) 3 16 Try.underlying26 hij hzj0 hzj1 hzj2 rfl (by decide) (.slice none 0 0) 0 [] rfl hnil (.slice da p.data.length dc) (p.data.length) (p.data.flatMap xP) rfl HM1.out.2 (by unfold maxLen;omega) (by omega) (by omega) ?_;intro v9 w9 hown9 hgrow9 hat9;obtain⟨ra2,rc2,rfl⟩:=zG hown9;have hq9:=zL hgrow9 HM1.out.1.h3 (by simp[Value.ownBlock]);have q9c:=zA (i:=4) hq9 rfl;have q9f:w9.frozen? ⟨q3,4,none⟩=false:=zE hq9;have hq9l:=lt_of_block hq9;have HG9:=Lib.hid (And.intro hown9 (And.intro hgrow9 hat9));clear hown9 hgrow9 hat9 hq9))
 have hown9:=HG9.out.1
 have hat9:=HG9.out.2.2
 rw[Nat.zero_add,List.nil_append] at hown9
 rw[Nat.zero_add] at hat9
 obtain⟨t2,ht2⟩:∃t2:PT,{t1 with data:=p.data,dv:=.slice ra2 (p.data.length) rc2 }=t2:=⟨_,rfl⟩
 have hm2:OwMid w p1 r2 q3 ⟨.slice fa p.funcs.length fc,.slice aa p.args.length ac,.slice da p.data.length dc,.slice ba p.banks.length bc⟩ p t2 (w9.setCell ⟨q3,4,none⟩ (.slice ra2 (p.data.length) rc2)):=by
  rw[<-ht2]
  refine HM1.out.1.grow (r:=vK t1.dv t1.data) (r':=vK (.slice ra2 (p.data.length) rc2) (p.data)) (ns:=[]) (rs:=wY t1.fv t1.funcs::zP t1.av t1.args::v8 t1.bv t1.banks::t1.funcs.flatMap FT.rows) ?_ (Below.refl _ _) Rows.nil ?_ hown9 (fun x e=>?_) ?_ rfl
  ·classical
   unfold PT.rows
   refine List.perm_iff_count.2 fun r=>?_
   simp only[List.count_append,List.count_cons,List.nil_append]
   omega
  ·rw[show(vK t1.dv t1.data).blk=none by rw[<-HT1.out];rfl];exact HG9.out.2.1
  ·rcases hat9 with e2|e2
   ·have e3:=e2.symm.trans e;simp[Value.ownBlock] at e3
   ·right;have e3:=e2.symm.trans e;simp at e3;omega
  ·classical
   unfold PT.rows
   refine List.perm_iff_count.2 fun r=>?_
   simp only[List.count_append,List.count_cons,List.nil_append]
   omega
 generalize hW2:w9.setCell ⟨q3,4,none⟩ (.slice ra2 (p.data.length) rc2)=V2 at *
 rw[<-HT1.out] at ht2
 have HT2:=Lib.hid ht2
 clear HG9 hown9 hat9 hW2 q9c q9f hq9l qs ql pc pl hnil hfs ht2 hij hzj0 hzj1 hzj2 ij
 have hpr:=HP.out.1
 have hbw:Below w.heap.size w V2:=by rw[hp1];exact hm2.bel
 have hsrc:yM V2 1 (.slice ba p.banks.length bc) (p.banks.length) (p.banks.map .string):=strs_src (hpr.banks.below tN hbw)
 have qc:=zA (i:=5) hm2.h3 rfl
 have qs:V2.cell? ⟨q3,5,none⟩=some (.slice none 0 0):=by rw[qc];rw[<-HT2.out];rfl
 have ql:=lt_of_block hm2.h3
 have pc:=zA (i:=5) hm2.h1 rfl
 have pl:=lt_of_block hm2.h1
 have hfs:=hm2.sz
 have HM2:=Lib.hid (And.intro hm2 hsrc)
 have hnil:V2.ownsRow p1 9 1 (.slice none 0 0) 0 []:=World.ownsRow_nil _ _ _ _
 obtain⟨ij,hij,hzj0,hzj1,hzj2⟩:=info_parts Try.info_str
 clear hm2 hsrc hpr hbw qc
 go_upto_region 5 with(at_builtin;go_must (refine zK _ rfl (.tmp 23) (.tmp 25) 27 rfl p1 9 ij (.string ⟨#[]⟩) 1 16 Try.underlying27 hij hzj0 hzj1 hzj2 rfl (by decide) (.slice none 0 0) 0 [] rfl hnil (.slice ba p.banks.length bc) (p.banks.length) (p.banks.map .string) rfl HM2.out.2 (by unfold maxLen;omega) (by omega) (by omega) ?_;intro v9 w9 hown9 hgrow9 hat9;obtain⟨ra3,rc3,rfl⟩:=zG hown9;have hq9:=zL hgrow9 HM2.out.1.h3 (by simp[Value.ownBlock]);have q9c:=zA (i:=5) hq9 rfl;have q9f:w9.frozen? ⟨q3,5,none⟩=false:=zE hq9;have hq9l:=lt_of_block hq9;have HG9:=Lib.hid (And.intro hown9 (And.intro hgrow9 hat9));clear hown9 hgrow9 hat9 hq9))
 have hown9:=HG9.out.1
 have hat9:=HG9.out.2.2
 rw[Nat.zero_add,List.nil_append] at hown9
 rw[Nat.zero_add] at hat9
 obtain⟨t3,ht3⟩:∃t3:PT,{t2 with banks:=p.banks,bv:=.slice ra3 (p.banks.length) rc3 }=t3:=⟨_,rfl⟩
 have hm3:OwMid w p1 r2 q3 ⟨.slice fa p.funcs.length fc,.slice aa p.args.length ac,.slice da p.data.length dc,.slice ba p.banks.length bc⟩ p t3 (w9.setCell ⟨q3,5,none⟩ (.slice ra3 (p.banks.length) rc3)):=by
  rw[<-ht3]
  refine HM2.out.1.grow (r:=v8 t2.bv t2.banks) (r':=v8 (.slice ra3 (p.banks.length) rc3) (p.banks)) (ns:=[]) (rs:=wY t2.fv t2.funcs::zP t2.av t2.args::vK t2.dv t2.data::t2.funcs.flatMap FT.rows) ?_ (Below.refl _ _) Rows.nil ?_ hown9 (fun x e=>?_) ?_ rfl
  ·classical
   unfold PT.rows
   refine List.perm_iff_count.2 fun r=>?_
   simp only[List.count_append,List.count_cons,List.nil_append]
   omega
  ·rw[show(v8 t2.bv t2.banks).blk=none by rw[<-HT2.out];rfl];exact HG9.out.2.1
  ·rcases hat9 with e2|e2
   ·have e3:=e2.symm.trans e;simp[Value.ownBlock] at e3
   ·right;have e3:=e2.symm.trans e;simp at e3;omega
  ·classical
   unfold PT.rows
   refine List.perm_iff_count.2 fun r=>?_
   simp only[List.count_append,List.count_cons,List.nil_append]
   omega
 generalize hW3:w9.setCell ⟨q3,5,none⟩ (.slice ra3 (p.banks.length) rc3)=V3 at *
 rw[<-HT2.out] at ht3
 have HT3:=Lib.hid ht3
 clear HG9 hown9 hat9 hW3 q9c q9f hq9l qs ql pc pl hnil hfs ht3 hij hzj0 hzj1 hzj2 ij
 have ht3f:t3.funcs=[]/\t3.fv=.slice none 0 0/\t3.args=p.args/\t3.data=p.data/\t3.banks=p.banks/\t3.entry=p.entry/\t3.handler=p.handler/\t3.av=.slice ra1 p.args.length rc1/\t3.dv=.slice ra2 p.data.length rc2/\t3.bv=.slice ra3 p.banks.length rc3:=by
  rw[<-HT3.out]
  exact⟨rfl,rfl,rfl,rfl,rfl,rfl,rfl,rfl,rfl,rfl⟩
 have HT0:=Lib.hid (show OwMid w p1 r2 q3 ⟨.slice fa p.funcs.length fc,.slice aa p.args.length ac,.slice da p.data.length dc,.slice ba p.banks.length bc⟩ p {t3 with funcs:=[],fv:=.slice none 0 0 } V3/\([]:List FT).map FT.fn=p.funcs.take 0 from⟨by
  have e:({t3 with funcs:=[],fv:=.slice none 0 0 }:PT)=t3:=by
   obtain⟨x1,x2,x3,x4,x5,x6,x7,x8,x9,x10⟩:=t3
   obtain⟨h1,h2,_⟩:=ht3f
   simp only at h1 h2
   rw[h1,h2]
  rw[e]
  exact hm3,rfl⟩)
 have HT3F:=Lib.hid ht3f
 clear hm3 ht3f
 go_wp2
 go_loopw [4] (fun kv wx=>∃(k:Nat) (fl:List FT) (ga:Option Addr) (gc:Nat),k<=p.funcs.length/\kv=.int .i64 (k:Int)/\Hid (OwMid w p1 r2 q3 ⟨.slice fa p.funcs.length fc,.slice aa p.args.length ac,.slice da p.data.length dc,.slice ba p.banks.length bc⟩ p {t3 with funcs:=fl,fv:=.slice ga k gc } wx/\fl.map FT.fn=p.funcs.take k)) (fun kv _=>p.funcs.length-(intOf kv).toNat)
 case atStart=>exact⟨0,[],none,0,Nat.zero_le _,rfl,HT0⟩
 case round=>
  obtain⟨k,fl,ga,gc,hk,rfl,HK⟩:=hrel
  have c0:wr.cell? ⟨p1,0,none⟩=some (.slice fa p.funcs.length fc):=zA (i:=0) HK.out.1.h1 rfl
  have cl:=lt_of_block HK.out.1.h1
  by_cases hlt:k<p.funcs.length
  ·have hltI:(k:Int)<(p.funcs.length:Int):=by omega
   obtain⟨f,hf⟩:∃f,p.funcs[k]? =some f:=⟨_,List.getElem?_eq_getElem hlt⟩
   have hbw:Below w.heap.size w wr:=by rw[HP.out.2.2.1];exact HK.out.1.bel
   have hfn:=HP.out.1.funcs.below vR hbw
   obtain⟨bb,bo,hfa,hbB,bv,hbc,hbl⟩:=hfn.get hf
   rw[Nat.mul_one] at hbc
   obtain⟨xa,xc,rfl,_,_⟩:=hbl.form
   subst hfa
   have hsf:=HP.out.2.1.fn.2 f (List.mem_of_getElem? hf)
   have hBs:=hbw.size
   have hbl2:bb<wr.heap.size:=by omega
   have hof:∀W,Below wr.heap.size wr W->Calls Try.prog 57 #[.agg #[.slice xa f.length xc]] W (fun e w'=>∃(ft:FT) (a:Option Addr) (n c:Nat),ft.bv=.slice a n c/\e=.returned (.agg #[.slice a n c])/\ft.fn=f/\Rows w' W.heap.size ft.rows/\Below W.heap.size W w'):=fun W hW=>mA (hbl.below yT (hW.mono hBs)) (Nat.le_trans hBs hW.size) hsf.1 hsf.2
   have q0:=zA (i:=0) HK.out.1.h3 rfl
   have qf:wr.frozen? ⟨q3,0,none⟩=false:=zE HK.out.1.h3
   have ql:=lt_of_block HK.out.1.h3
   have HOF:=Lib.hid (And.intro hof hf)
   clear hof hf hsf hfn hbl hbw
   go_upto_region 8 with fail
   have hfl2:fl.length=k:=by
    have h1:=congrArg List.length HK.out.2
    rw[List.length_map,List.length_take] at h1
    omega
   have hownF:wr.ownsRow p1 43 1 (.slice ga k gc) k (fl.map (·.bv)):=by
    have h1:=HK.out.1.rows.own (wY (.slice ga k gc) fl) (.head _)
    unfold wY at h1
    simp only at h1
    rw[hfl2] at h1
    exact h1
   have HO:=Lib.hid (And.intro hownF hfl2)
   have hfs:=HK.out.1.sz
   obtain⟨ij,hij,hzj0,hzj1,hzj2⟩:=info_parts Try.info_irfunc
   clear hownF hfl2
   go_region_law (first|(refine yG (by rfl) (.tmp 36) (.tmp 43) _ (by rfl) p1 43 ij (.agg #[.slice none 0 0]) 1 24 Try.underlying25 hij hzj0 hzj1 hzj2 rfl (by omega) (.slice ga k gc) k (fl.map (·.bv)) (by rfl) (HF6.out.2.2.alloc _) (.slice (some ⟨w5.heap.size,0,none⟩) 1 1) 1 [.slice xa5 xn5 xc5] (by rfl) (yM.one (zI rfl) rfl) (by unfold maxLen;omega) (by omega) (by simp;omega) ?_;intro aa9 cap9 w9 hown9 hgrow9 hat9;have hx9:=zL hgrow9 (zB HF6.out.2.1) (zC HF6.out.2.2 HF6.out.2.1 (.inr (by decide)));have q09:=zA (i:=0) hx9 rfl;have qf9:w9.frozen? ⟨q3,0,none⟩=false:=zE hx9;have ql9:=lt_of_block hx9;have HG9:=Lib.hid (And.intro hown9 (And.intro hgrow9 hat9));clear hown9 hgrow9 hat9 hx9)|(go_simp;refine(HOF.out.1 _ (Below.refl _ _).drew).mono ?_;rintro e w5 ⟨ft,xa5,xn5,xc5,hft,rfl,HF5⟩;have hb5:Below wr.heap.size wr w5:=(Below.refl _ _).drew.trans HF5.2.2;have hx5:=zH hb5 HK.out.1.h3 (lt_of_block HK.out.1.h3);have hown5:=p7 HO.out.1 hb5 (Nat.le_refl _);have q05:=zA (i:=0) hx5 rfl;have qf5:w5.frozen? ⟨q3,0,none⟩=false:=zE hx5;have ql5:=lt_of_block hx5;have hsz5:=hb5.size;have HF6:=Lib.hid (And.intro (And.intro hft (And.intro HF5 hb5)) (And.intro hx5 hown5));clear hft HF5 hb5 hx5 hown5;dsimp only))
   all_goals go_wp2_with fail
   all_goals (
    refine⟨⟨k+1,fl++ [ft],aa9,cap9,hlt,by go_num,Lib.hid ⟨?_,?_⟩⟩,by simp[intOf];omega⟩
    ·have hba:=(Below.refl w5.heap.size w5).alloc (Nat.le_refl _) (.cells #[.slice xa5 xn5 xc5] 43)
     refine HK.out.1.grow (r:=wY (.slice ga k gc) fl) (r':=wY (.slice aa9 (k+1) cap9) (fl++ [ft])) (ns:=ft.rows) (rs:=zP t3.av t3.args::vK t3.dv t3.data::v8 t3.bv t3.banks::fl.flatMap FT.rows) (List.Perm.refl _) (HF6.out.1.2.2.trans (hba.mono HF6.out.1.2.2.size)) (HF6.out.1.2.1.2.1.below hba) HG9.out.2.1 ?_ (fun x e=>?_) ?_ rfl
     ·show w9.ownsRow p1 43 1 _ (fl++ [ft]).length ((fl++ [ft]).map (·.bv))
      rw[List.length_append,List.length_singleton,HO.out.2,List.map_append]
      show w9.ownsRow p1 43 1 _ (k+1) (fl.map (·.bv)++ [ft.bv])
      rw[HF6.out.1.1]
      exact HG9.out.1
     ·rcases HG9.out.2.2 with e2|e2
      ·exact .inl (e2.symm.trans e)
      ·right
       have e3:=e2.symm.trans e
       simp at e3
       simp
       omega
     ·classical
      unfold PT.rows
      refine List.perm_iff_count.2 fun r=>?_
      simp only[List.count_append,List.count_cons,List.flatMap_append,List.flatMap_cons,List.flatMap_nil,List.append_nil]
      omega
    ·rw[List.map_append,HK.out.2,List.take_add_one,HOF.out.2]
     show _++ [ft.fn]=_
     rw[HF6.out.1.2.1.1]
     rfl)
  ·obtain rfl:k=p.funcs.length:=by omega
   have hltI:¬(p.funcs.length:Int)<(p.funcs.length:Int):=by omega
   have q0:wr.cell? ⟨q3,0,none⟩=some (.slice ga p.funcs.length gc):=zA (i:=0) HK.out.1.h3 rfl
   have q1:wr.cell? ⟨q3,1,none⟩=some (.slice ra1 p.args.length rc1):=(zA (i:=1) HK.out.1.h3 rfl).trans (by rw[<-HT3F.out.2.2.2.2.2.2.2.1];rfl)
   have q2:wr.cell? ⟨q3,2,none⟩=some (.int .i64 p.entry):=(zA (i:=2) HK.out.1.h3 rfl).trans (by rw[<-HT3F.out.2.2.2.2.2.1];rfl)
   have q3':wr.cell? ⟨q3,3,none⟩=some (.int .i64 p.handler):=(zA (i:=3) HK.out.1.h3 rfl).trans (by rw[<-HT3F.out.2.2.2.2.2.2.1];rfl)
   have q4:wr.cell? ⟨q3,4,none⟩=some (.slice ra2 p.data.length rc2):=(zA (i:=4) HK.out.1.h3 rfl).trans (by rw[<-HT3F.out.2.2.2.2.2.2.2.2.1];rfl)
   have q5:wr.cell? ⟨q3,5,none⟩=some (.slice ra3 p.banks.length rc3):=(zA (i:=5) HK.out.1.h3 rfl).trans (by rw[<-HT3F.out.2.2.2.2.2.2.2.2.2];rfl)
   have ql:=lt_of_block HK.out.1.h3
   have v0:=zA (i:=0) HK.out.1.h2 rfl
   have v1:=zA (i:=1) HK.out.1.h2 rfl
   have v2:=zA (i:=2) HK.out.1.h2 rfl
   have v3:=zA (i:=3) HK.out.1.h2 rfl
   have v4:=zA (i:=4) HK.out.1.h2 rfl
   have v5:=zA (i:=5) HK.out.1.h2 rfl
   have vf:∀i,wr.frozen? ⟨r2,i,none⟩=false:=fun i=>zE HK.out.1.h2
   have vl:=lt_of_block HK.out.1.h2
   clear hlt
   go_wp2
   have b0:=HK.out.1.h2
   have b1:=zD (i:=0) b0 (.slice ga p.funcs.length gc)
   have b2:=zD (i:=1) b1 (.slice ra1 p.args.length rc1)
   have b3:=zD (i:=2) b2 (.int .i64 p.entry)
   have b4:=zD (i:=3) b3 (.int .i64 p.handler)
   have b5:=zD (i:=4) b4 (.slice ra2 p.data.length rc2)
   have b6:=zD (i:=5) b5 (.slice ra3 p.banks.length rc3)
   have hr6:=vz (i:=5) (u:=.slice ra3 p.banks.length rc3) (vz (i:=4) (u:=.slice ra2 p.data.length rc2) (vz (i:=3) (u:=.int .i64 p.handler) (vz (i:=2) (u:=.int .i64 p.entry) (vz (i:=1) (u:=.slice ra1 p.args.length rc1) (vz (i:=0) (u:=.slice ga p.funcs.length gc) HK.out.1.rows b0) b1) b2) b3) b4) b5
   have hg:=HK.out.1.ges
   have hz0:Below p1 w (wr.setCell ⟨r2,0,none⟩ (.slice ga p.funcs.length gc)):=HK.out.1.bel.setCell (by show p1<=r2;omega) _
   have hz1:Below p1 w ((wr.setCell ⟨r2,0,none⟩ (.slice ga p.funcs.length gc)).setCell ⟨r2,1,none⟩ (.slice ra1 p.args.length rc1)):=hz0.setCell (by show p1<=r2;omega) _
   have hz2:Below p1 w (((wr.setCell ⟨r2,0,none⟩ (.slice ga p.funcs.length gc)).setCell ⟨r2,1,none⟩ (.slice ra1 p.args.length rc1)).setCell ⟨r2,2,none⟩ (.int .i64 p.entry)):=hz1.setCell (by show p1<=r2;omega) _
   have hz3:Below p1 w ((((wr.setCell ⟨r2,0,none⟩ (.slice ga p.funcs.length gc)).setCell ⟨r2,1,none⟩ (.slice ra1 p.args.length rc1)).setCell ⟨r2,2,none⟩ (.int .i64 p.entry)).setCell ⟨r2,3,none⟩ (.int .i64 p.handler)):=hz2.setCell (by show p1<=r2;omega) _
   have hz4:Below p1 w (((((wr.setCell ⟨r2,0,none⟩ (.slice ga p.funcs.length gc)).setCell ⟨r2,1,none⟩ (.slice ra1 p.args.length rc1)).setCell ⟨r2,2,none⟩ (.int .i64 p.entry)).setCell ⟨r2,3,none⟩ (.int .i64 p.handler)).setCell ⟨r2,4,none⟩ (.slice ra2 p.data.length rc2)):=hz3.setCell (by show p1<=r2;omega) _
   have hbw:Below p1 w ((((((wr.setCell ⟨r2,0,none⟩ (.slice ga p.funcs.length gc)).setCell ⟨r2,1,none⟩ (.slice ra1 p.args.length rc1)).setCell ⟨r2,2,none⟩ (.int .i64 p.entry)).setCell ⟨r2,3,none⟩ (.int .i64 p.handler)).setCell ⟨r2,4,none⟩ (.slice ra2 p.data.length rc2)).setCell ⟨r2,5,none⟩ (.slice ra3 p.banks.length rc3)):=hz4.setCell (by show p1<=r2;omega) _
   clear hz0 hz1 hz2 hz3 hz4
   have HE:=Lib.hid (And.intro hr6 hbw)
   generalize (((((wr.setCell ⟨r2,0,none⟩ (.slice ga p.funcs.length gc)).setCell ⟨r2,1,none⟩ (.slice ra1 p.args.length rc1)).setCell ⟨r2,2,none⟩ (.int .i64 p.entry)).setCell ⟨r2,3,none⟩ (.int .i64 p.handler)).setCell ⟨r2,4,none⟩ (.slice ra2 p.data.length rc2)).setCell ⟨r2,5,none⟩ (.slice ra3 p.banks.length rc3)=WF at *
   have x0:=zA (i:=0) b6 rfl
   have x1:=zA (i:=1) b6 rfl
   have x2:=zA (i:=2) b6 rfl
   have x3:=zA (i:=3) b6 rfl
   have x4:=zA (i:=4) b6 rfl
   have x5:=zA (i:=5) b6 rfl
   have hwl:=lt_of_block b6
   clear b0 b1 b2 b3 b4 b5 b6 hr6 hbw q0 q1 q2 q3' q4 q5 v0 v1 v2 v3 v4 v5 vf
   refine bodyPost_ret (v:=.agg #[.slice ga p.funcs.length gc,.slice ra1 p.args.length rc1,.int .i64 p.entry,.int .i64 p.handler,.slice ra2 p.data.length rc2,.slice ra3 p.banks.length rc3]) ?_ rfl ?_
   ·rw[zM rfl]
    go_simp
   ·refine⟨{t3 with funcs:=fl,fv:=.slice ga p.funcs.length gc },?_,?_,?_,?_⟩
    ·unfold PT.V
     simp only
     rw[HT3F.out.2.2.2.2.2.2.2.1,HT3F.out.2.2.2.2.2.2.2.2.1,HT3F.out.2.2.2.2.2.2.2.2.2]
    ·unfold PT.prog
     simp only
     rw[HK.out.2,List.take_length,HT3F.out.2.2.1,HT3F.out.2.2.2.1,HT3F.out.2.2.2.2.1,HT3F.out.2.2.2.2.2.1,HT3F.out.2.2.2.2.2.2.1]
    ·first|exact HE.out.1|(rw[HP.out.2.2.1];exact HE.out.1)
    ·first|exact HE.out.2|(rw[HP.out.2.2.1];exact HE.out.2)
open Go.RowKit
theorem iI {α:Type}{f:α->List Value}{n:Nat}(hf:∀a,(f a).length=n){l:List α}{k:Nat}{b a:α}(hk:l[k]? =some b){j:Nat}{u:Value}(hj:j<n)(ha:(f b).set j u=f a):(l.flatMap f).set (k*n+j) u=(l.set k a).flatMap f:=by
 have hlt:=(List.getElem?_eq_some_iff.1 hk).1
 have hb:l[k]=b:=(List.getElem?_eq_some_iff.1 hk).2
 have e1:l=l.take k++b::l.drop (k+1):=by
  rw[<-hb,List.getElem_cons_drop,List.take_append_drop]
 have hl:(l.take k).length=k:=by simp;omega
 have e2:l.set k a=l.take k++a::l.drop (k+1):=by
  rw[List.set_eq_take_append_cons_drop,if_pos hlt]
 have e3:l.flatMap f=(l.take k).flatMap f++(f b++(l.drop (k+1)).flatMap f):=by
  conv=>lhs;rw[e1]
  rw[List.flatMap_append,List.flatMap_cons]
 have h4:((l.take k).flatMap f).length=k*n:=by rw[wq f n hf,hl]
 rw[e2,e3,List.flatMap_append,List.flatMap_cons,List.set_append_right _ _ (by omega),h4,Nat.add_sub_cancel_left,List.set_append_left _ _ (by rw[hf];exact hj),ha]
theorem yp {α:Type}{f:α->List Value}{n:Nat}{w:World}{base g:Nat}{e:TypeId}{v:Value}{l:List α}{k:Nat}{b a:α}(hf:∀a,(f a).length=n)(h:w.ownsRow base e n v l.length (l.flatMap f))(hg:v.ownBlock=some g)(hk:l[k]? =some b){j:Nat}{u:Value}(hj:j<n)(ha:(f b).set j u=f a):
 (w.setCell ⟨g,k*n+j,none⟩ u).ownsRow base e n v l.length ((l.set k a).flatMap f):=by
 refine⟨by rw[wq f n hf,List.length_set],?_⟩
 rcases h.2 with⟨rfl,_⟩|⟨g',cap,cur,rfl,h1,h2,h3,h4,h5,h6⟩
 ·simp[Value.ownBlock] at hg
 ·simp[Value.ownBlock] at hg
  subst hg
  refine .inr ⟨g',cap,_,rfl,h1,zD h2 u,h3,h4,by simpa using h5,?_⟩
  rw[Array.toList_setIfInBounds,List.take_set,h6]
  exact iI hf hk hj ha
structure Chg (w:World) (rs:List Row) (w':World):Prop where
 os:w'.os=w.os
 tape:w'.tape=w.tape
 output:w'.output=w.output
 size:w.heap.size<=w'.heap.size
 kept:∀k,k<w.heap.size->k ∉ rs.filterMap Row.blk->w'.heap[k]? =w.heap[k]?
structure SpSt (w:World) (B g i:Nat) (v:Value) (bt:BT) (l:List BT) (rs:List Row):Prop where
 rows:Rows w B (zd v l::(bt.rows++rs))
 at':l[i]? =some bt
 gb:v.ownBlock=some g
theorem Chg.of {w w':World}{rs rs':List Row}(h:Chg w rs w')(hs:∀k,k∈rs.filterMap Row.blk->k∈rs'.filterMap Row.blk):Chg w rs' w':=⟨h.os,h.tape,h.output,h.size,fun k hk hn=>h.kept k hk (fun e=>hn (hs k e))⟩
theorem xJ {w:World}{a:Addr}{u:Value}{r:Row}(h:r.blk=some a.block):Chg w [r] (w.setCell a u):=
 ⟨rfl,rfl,rfl,by simp,fun k hk hn=>Below.heap_setCell _ _ _ _ (fun e=>hn (by rw[List.mem_filterMap];exact⟨r,.head _,by rw[h,e]⟩))⟩
theorem vQ {α β:Type}{f:α->β}{l:List α}{k:Nat}{b a:α}(hk:l[k]? =some b)(h:f a=f b):(l.set k a).map f=l.map f:=by
 rw[List.map_set,h]
 apply List.ext_getElem?
 intro j
 rw[List.getElem?_set]
 split
 ·rename_i e
  subst e
  rw[List.getElem?_map,hk]
  have:=(List.getElem?_eq_some_iff.1 hk).1
  simp[this]
 ·rfl
theorem pY {α:Type}{f:α->List Value}{l:List α}{k:Nat}{b a:α}(hk:l[k]? =some b)(h:f a=f b):(l.set k a).flatMap f=l.flatMap f:=by
 rw[List.flatMap_def,List.flatMap_def,vQ hk h]
section
variable {w:World} {B g i:Nat} {v:Value} {bt:BT} {l:List BT} {rs:List Row} (h:SpSt w B g i v bt l rs)
include h
theorem SpSt.il:i<l.length:=(List.getElem?_eq_some_iff.1 h.at').1
theorem SpSt.set_at (bt':BT):(l.set i bt')[i]? =some bt':=by rw[List.getElem?_set_self h.il]
theorem SpSt.setB {j:Nat}{u:Value}{bt':BT}(hj:j<5)(hc:(zz bt).set j u=zz bt')(hr:bt'.rows=bt.rows):SpSt (w.setCell ⟨g,i*5+j,none⟩ u) B g i v bt' (l.set i bt') rs:=by
 refine⟨?_,h.set_at bt',h.gb⟩
 rw[hr]
 refine h.rows.put (r':=zd v (l.set i bt')) h.gb (fun k hk=>Below.heap_setCell _ _ _ _ hk) ?_ rfl
 show(w.setCell ⟨g,i*5+j,none⟩ u).ownsRow B 49 5 v (l.set i bt').length ((l.set i bt').flatMap zz)
 rw[List.length_set]
 exact yp zX (h.rows.own _ (.head _)) h.gb h.at' hj hc
theorem SpSt.sub {w':World}{bt':BT}(hc:zz bt'=zz bt)(hr:Rows w' B (zd v l::(bt'.rows++rs))):SpSt w' B g i v bt' (l.set i bt') rs:=by
 refine⟨?_,h.set_at bt',h.gb⟩
 have e:zd v (l.set i bt')=zd v l:=by
  unfold zd
  rw[List.length_set,pY h.at' hc]
 rw[e]
 exact hr
theorem SpSt.setO {ob k j:Nat}{u av:Value}{o o':IOp}(hg:bt.ov.ownBlock=some ob)(hk:bt.ops[k]? =some (o,av))(hj:j<6)(hc:(zU (o,av)).set j u=zU (o',av))(ha:o'.args=o.args):
 SpSt (w.setCell ⟨ob,k*6+j,none⟩ u) B g i v {bt with ops:=bt.ops.set k (o',av)} (l.set i {bt with ops:=bt.ops.set k (o',av)}) rs:=by
 have e1:wI (bt.ops.set k (o',av))=wI bt.ops:=vQ hk (by simp only;rw[ha])
 refine h.sub rfl ?_
 have hp:(zd v l::(bt.rows++rs)).Perm (yo bt.ov bt.ops::(zd v l::zP bt.pv bt.params::xg bt.tv bt.tos::(wI bt.ops++ve bt.tos)++rs)):=by
  classical
  unfold BT.rows
  refine List.perm_iff_count.2 fun r=>?_
  simp only[List.count_append,List.count_cons]
  omega
 have hq:(yo bt.ov (bt.ops.set k (o',av))::(zd v l::zP bt.pv bt.params::xg bt.tv bt.tos::(wI bt.ops++ve bt.tos)++rs)).Perm (zd v l::(({bt with ops:=bt.ops.set k (o',av)}:BT).rows++rs)):=by
  classical
  unfold BT.rows
  simp only
  rw[e1]
  refine List.perm_iff_count.2 fun r=>?_
  simp only[List.count_append,List.count_cons]
  omega
 refine((h.rows.perm hp).put (r':=yo bt.ov (bt.ops.set k (o',av))) hg (fun k hk=>Below.heap_setCell _ _ _ _ hk) ?_ rfl).perm hq
 show(w.setCell ⟨ob,k*6+j,none⟩ u).ownsRow B 77 6 bt.ov (bt.ops.set k (o',av)).length _
 rw[List.length_set]
 exact yp z7 ((h.rows.perm hp).own _ (.head _)) hg hk hj hc
theorem SpSt.setE {ob k j:Nat}{u av:Value}{o o':IEdge}(hg:bt.tv.ownBlock=some ob)(hk:bt.tos[k]? =some (o,av))(hj:j<2)(hc:(za (o,av)).set j u=za (o',av))(ha:o'.args=o.args):
 SpSt (w.setCell ⟨ob,k*2+j,none⟩ u) B g i v {bt with tos:=bt.tos.set k (o',av)} (l.set i {bt with tos:=bt.tos.set k (o',av)}) rs:=by
 have e1:ve (bt.tos.set k (o',av))=ve bt.tos:=vQ hk (by simp only;rw[ha])
 refine h.sub rfl ?_
 have hp:(zd v l::(bt.rows++rs)).Perm (xg bt.tv bt.tos::(zd v l::zP bt.pv bt.params::yo bt.ov bt.ops::(wI bt.ops++ve bt.tos)++rs)):=by
  classical
  unfold BT.rows
  refine List.perm_iff_count.2 fun r=>?_
  simp only[List.count_append,List.count_cons]
  omega
 have hq:(xg bt.tv (bt.tos.set k (o',av))::(zd v l::zP bt.pv bt.params::yo bt.ov bt.ops::(wI bt.ops++ve bt.tos)++rs)).Perm (zd v l::(({bt with tos:=bt.tos.set k (o',av)}:BT).rows++rs)):=by
  classical
  unfold BT.rows
  simp only
  rw[e1]
  refine List.perm_iff_count.2 fun r=>?_
  simp only[List.count_append,List.count_cons]
  omega
 refine((h.rows.perm hp).put (r':=xg bt.tv (bt.tos.set k (o',av))) hg (fun k hk=>Below.heap_setCell _ _ _ _ hk) ?_ rfl).perm hq
 show(w.setCell ⟨ob,k*2+j,none⟩ u).ownsRow B 75 2 bt.tv (bt.tos.set k (o',av)).length _
 rw[List.length_set]
 exact yp yd ((h.rows.perm hp).own _ (.head _)) hg hk hj hc
end
open Go.RowKit
theorem tT {α β:Type}(f:α->β){l:List α}{k:Nat}{b:α}(hk:l[k]? =some b):(l.map f).Perm (f b::(l.eraseIdx k).map f):=by
 obtain⟨hlt,hb⟩:=List.getElem?_eq_some_iff.1 hk
 have e1:l=l.take k++b::l.drop (k+1):=by
  rw[<-hb,List.getElem_cons_drop,List.take_append_drop]
 rw[List.eraseIdx_eq_take_drop_succ]
 conv=>lhs;rw[e1]
 rw[List.map_append,List.map_append,List.map_cons]
 exact List.perm_middle
theorem rM {α β:Type}(f:α->β){l:List α}{k:Nat}(hk:k<l.length)(a:α):((l.set k a).map f).Perm (f a::(l.eraseIdx k).map f):=by
 have h:=tT f (l:=l.set k a) (k:=k) (b:=a) (by rw[List.getElem?_set_self hk])
 rw[List.eraseIdx_set_eq] at h
 exact h
section
variable {w:World} {B g i:Nat} {v:Value} {bt:BT} {l:List BT} {rs:List Row} (h:SpSt w B g i v bt l rs)
include h
theorem SpSt.growB {w1 w9:World}{r r':Row}{q:List Row}{j:Nat}{u:Value}{bt':BT}(hp:bt.rows.Perm (r::q))(hb1:Below w.heap.size w w1)(hg:w1.grownBy w9 r.blk)(hown:w9.ownsRow B r'.e r'.sz r'.v r'.n r'.cs)
 (hat:∀k,r'.blk=some k->r.blk=some k∨w.heap.size<=k) (hq:(r'::q).Perm bt'.rows) (hj:j<5) (hc:(zz bt).set j u=zz bt'):SpSt (w9.setCell ⟨g,i*5+j,none⟩ u) B g i v bt' (l.set i bt') rs:=by
 have h1:(zd v l::(bt.rows++rs)).Perm (r::(zd v l::(q++rs))):=((hp.append_right rs).cons _).trans (List.Perm.swap _ _ _)
 have h2:=(h.rows.perm h1).grow hb1 hg hown hat
 have h3:Rows w9 B (zd v l::(bt'.rows++rs)):=h2.perm ((List.Perm.swap _ _ _).trans ((hq.append_right rs).cons _))
 refine⟨?_,h.set_at bt',h.gb⟩
 refine h3.put (r':=zd v (l.set i bt')) h.gb (fun k hk=>Below.heap_setCell _ _ _ _ hk) ?_ rfl
 show(w9.setCell ⟨g,i*5+j,none⟩ u).ownsRow B 49 5 v (l.set i bt').length ((l.set i bt').flatMap zz)
 rw[List.length_set]
 exact yp zX (h3.own _ (.head _)) h.gb h.at' hj hc
theorem SpSt.growO {w1 w9:World}{ob k:Nat}{av av':Value}{o:IOp}{x:Int}(hgo:bt.ov.ownBlock=some ob)(hk:bt.ops[k]? =some (o,av))(hb1:Below w.heap.size w w1)(hg:w1.grownBy w9 av.ownBlock)(hown:w9.ownsRow B 3 1 av' (o.args.length+1) (o.args.map zN++ [zN x]))
 (hat:∀k,av'.ownBlock=some k->av.ownBlock=some k∨w.heap.size<=k):
 SpSt (w9.setCell ⟨ob,k*6+5,none⟩ av') B g i v {bt with ops:=bt.ops.set k ({o with args:=o.args++ [x]},av')} (l.set i {bt with ops:=bt.ops.set k ({o with args:=o.args++ [x]},av')}) rs:=by
 have hkl:=(List.getElem?_eq_some_iff.1 hk).1
 have p1:(wI bt.ops).Perm (zP av o.args::(bt.ops.eraseIdx k).map fun o=>zP o.2 o.1.args):=tT (fun o:IOp×Value=>zP o.2 o.1.args) hk
 have p2:(wI (bt.ops.set k ({o with args:=o.args++ [x]},av'))).Perm (zP av' (o.args++ [x])::(bt.ops.eraseIdx k).map fun o=>zP o.2 o.1.args):=rM (fun o:IOp×Value=>zP o.2 o.1.args) hkl ({o with args:=o.args++ [x]},av')
 refine h.sub rfl ?_
 generalize (bt.ops.eraseIdx k).map (fun o=>zP o.2 o.1.args)=E at p1 p2
 classical
 have c1:=List.perm_iff_count.1 p1
 have c2:=List.perm_iff_count.1 p2
 have hp:(zd v l::(bt.rows++rs)).Perm (zP av o.args::(yo bt.ov bt.ops::(zd v l::zP bt.pv bt.params::xg bt.tv bt.tos::(E++ve bt.tos)++rs))):=by
  unfold BT.rows
  refine List.perm_iff_count.2 fun r=>?_
  have:=c1 r
  simp only[List.count_append,List.count_cons] at this ⊢
  omega
 have h2:=(h.rows.perm hp).grow (r':=zP av' (o.args++ [x])) hb1 hg (by
  show w9.ownsRow B 3 1 av' (o.args++ [x]).length ((o.args++ [x]).map zN)
  rw[List.length_append,List.length_singleton,List.map_append]
  exact hown) hat
 have h3:=h2.perm (List.Perm.swap _ _ _)
 have h4:=h3.put (g:=ob) (r':=yo bt.ov (bt.ops.set k ({o with args:=o.args++ [x]},av'))) (w':=w9.setCell ⟨ob,k*6+5,none⟩ av') hgo (fun k hk=>Below.heap_setCell _ _ _ _ hk) (by
  show(w9.setCell ⟨ob,k*6+5,none⟩ av').ownsRow B 77 6 bt.ov (bt.ops.set k ({o with args:=o.args++ [x]},av')).length _
  rw[List.length_set]
  exact yp z7 (h3.own _ (.head _)) hgo hk (by decide) rfl) rfl
 refine h4.perm ?_
 unfold BT.rows
 refine List.perm_iff_count.2 fun r=>?_
 have:=c2 r
 simp only[List.count_append,List.count_cons] at this ⊢
 omega
theorem SpSt.growE {w1 w9:World}{ob k:Nat}{av av':Value}{o:IEdge}{x:Int}(hgo:bt.tv.ownBlock=some ob)(hk:bt.tos[k]? =some (o,av))(hb1:Below w.heap.size w w1)(hg:w1.grownBy w9 av.ownBlock)(hown:w9.ownsRow B 3 1 av' (o.args.length+1) (o.args.map zN++ [zN x]))
 (hat:∀k,av'.ownBlock=some k->av.ownBlock=some k∨w.heap.size<=k):
 SpSt (w9.setCell ⟨ob,k*2+1,none⟩ av') B g i v {bt with tos:=bt.tos.set k ({o with args:=o.args++ [x]},av')} (l.set i {bt with tos:=bt.tos.set k ({o with args:=o.args++ [x]},av')}) rs:=by
 have hkl:=(List.getElem?_eq_some_iff.1 hk).1
 have p1:(ve bt.tos).Perm (zP av o.args::(bt.tos.eraseIdx k).map fun o=>zP o.2 o.1.args):=tT (fun o:IEdge×Value=>zP o.2 o.1.args) hk
 have p2:(ve (bt.tos.set k ({o with args:=o.args++ [x]},av'))).Perm (zP av' (o.args++ [x])::(bt.tos.eraseIdx k).map fun o=>zP o.2 o.1.args):=rM (fun o:IEdge×Value=>zP o.2 o.1.args) hkl ({o with args:=o.args++ [x]},av')
 refine h.sub rfl ?_
 generalize (bt.tos.eraseIdx k).map (fun o=>zP o.2 o.1.args)=E at p1 p2
 classical
 have c1:=List.perm_iff_count.1 p1
 have c2:=List.perm_iff_count.1 p2
 have hp:(zd v l::(bt.rows++rs)).Perm (zP av o.args::(xg bt.tv bt.tos::(zd v l::zP bt.pv bt.params::yo bt.ov bt.ops::(wI bt.ops++E)++rs))):=by
  unfold BT.rows
  refine List.perm_iff_count.2 fun r=>?_
  have:=c1 r
  simp only[List.count_append,List.count_cons] at this ⊢
  omega
 have h2:=(h.rows.perm hp).grow (r':=zP av' (o.args++ [x])) hb1 hg (by
  show w9.ownsRow B 3 1 av' (o.args++ [x]).length ((o.args++ [x]).map zN)
  rw[List.length_append,List.length_singleton,List.map_append]
  exact hown) hat
 have h3:=h2.perm (List.Perm.swap _ _ _)
 have h4:=h3.put (g:=ob) (r':=xg bt.tv (bt.tos.set k ({o with args:=o.args++ [x]},av'))) (w':=w9.setCell ⟨ob,k*2+1,none⟩ av') hgo (fun k hk=>Below.heap_setCell _ _ _ _ hk) (by
  show(w9.setCell ⟨ob,k*2+1,none⟩ av').ownsRow B 75 2 bt.tv (bt.tos.set k ({o with args:=o.args++ [x]},av')).length _
  rw[List.length_set]
  exact yp yd (h3.own _ (.head _)) hgo hk (by decide) rfl) rfl
 refine h4.perm ?_
 unfold BT.rows
 refine List.perm_iff_count.2 fun r=>?_
 have:=c2 r
 simp only[List.count_append,List.count_cons] at this ⊢
 omega
theorem SpSt.cutO {k:Nat}{oa:Option Addr}{n c:Nat}(hv:bt.ov=.slice oa n c)(hn:n=bt.ops.length)(hk:k<=bt.ops.length):
 SpSt (w.setCell ⟨g,i*5+1,none⟩ (.slice oa k c)) B g i v {bt with ops:=bt.ops.take k,ov:=.slice oa k c } (l.set i {bt with ops:=bt.ops.take k,ov:=.slice oa k c }) rs:=by
 classical
 subst hn
 have e1:wI bt.ops=wI (bt.ops.take k)++wI (bt.ops.drop k):=by
  unfold wI
  rw[<-List.map_append,List.take_append_drop]
 have hp:(zd v l::(bt.rows++rs)).Perm (wI (bt.ops.drop k)++(yo bt.ov bt.ops::(zd v l::zP bt.pv bt.params::xg bt.tv bt.tos::(wI (bt.ops.take k)++ve bt.tos)++rs))):=by
  unfold BT.rows
  rw[e1]
  refine List.perm_iff_count.2 fun r=>?_
  simp only[List.count_append,List.count_cons]
  omega
 have h2:=(h.rows.perm hp).right
 have ho:=h2.own _ (.head _)
 have h3:Rows w B (yo (.slice oa k c) (bt.ops.take k)::(zd v l::zP bt.pv bt.params::xg bt.tv bt.tos::(wI (bt.ops.take k)++ve bt.tos)++rs)):=by
  refine h2.tail.cons ?_ (fun x e=>?_)
  ·have ho':w.ownsRow B 77 6 (.slice oa bt.ops.length c) bt.ops.length (bt.ops.flatMap zU):=by rw[<-hv];exact ho
   have hl:(bt.ops.take k).length=k:=by rw[List.length_take];omega
   show w.ownsRow B 77 6 (.slice oa k c) (bt.ops.take k).length ((bt.ops.take k).flatMap zU)
   rw[hl]
   obtain⟨q1,q2⟩:=ho'
   refine⟨by rw[wq zU 6 (fun _=>rfl),hl],?_⟩
   rcases q2 with⟨q3,q4⟩|⟨gg,cap,cur,q3,q4,q5,q6,q7,q8,q9⟩
   ·left
    injection q3 with z1 z2 z3
    have hk0:k=0:=by omega
    subst z1 z3 hk0
    exact⟨rfl,by simp⟩
   ·injection q3 with z1 z2 z3
    subst z1 z3
    refine .inr ⟨gg,c,cur,rfl,q4,q5,by omega,q7,q8,?_⟩
    have e3:(bt.ops.take k).flatMap zU=(bt.ops.flatMap zU).take (k*6):=by
     have e4:((bt.ops.take k).flatMap zU).length=k*6:=by rw[wq zU 6 (fun _=>rfl),hl]
     have e5:=List.take_left (l₁:=(bt.ops.take k).flatMap zU) (l₂:=(bt.ops.drop k).flatMap zU)
     rw[e4,<-List.flatMap_append,List.take_append_drop] at e5
     exact e5.symm
    rw[e3,<-q9,List.take_take]
    congr 1
    omega
  ·refine h2.apart (g:=x) ?_
   have e2:(Value.slice oa k c).ownBlock=some x:=e
   show bt.ov.ownBlock=some x
   rw[hv]
   cases oa with
   |none=>cases e2
   |some ad=>exact e2
 have h4:Rows w B (zd v l::(({bt with ops:=bt.ops.take k,ov:=.slice oa k c }:BT).rows++rs)):=h3.perm (by
  unfold BT.rows
  simp only
  refine List.perm_iff_count.2 fun r=>?_
  simp only[List.count_append,List.count_cons]
  omega)
 refine⟨?_,h.set_at _,h.gb⟩
 refine h4.put (r':=zd v (l.set i {bt with ops:=bt.ops.take k,ov:=.slice oa k c })) h.gb (fun k hk=>Below.heap_setCell _ _ _ _ hk) ?_ rfl
 show(w.setCell ⟨g,i*5+1,none⟩ _).ownsRow B 49 5 v (l.set i _).length ((l.set i _).flatMap zz)
 rw[List.length_set]
 exact yp zX (h4.own _ (.head _)) h.gb h.at' (by decide) rfl
end
theorem putO {bt:BT}{rs:List Row}{w:World}{B:Nat}{ob k:Nat}{ol':List (IOp×Value)}{x:IOp×Value}{r0:IOp×Value}(hgo:bt.ov.ownBlock=some ob){ol:List (IOp×Value)}(hr:Rows w B (yo bt.ov ol::rs))(hk:ol[k]? =some r0)(he:ol'=ol.set k x):
 Rows (w.setCells ob (k*6) (zU x)) B (yo bt.ov ol'::rs):=by
 subst he
 refine hr.put (g:=ob) (r':=yo bt.ov (ol.set k x)) hgo (fun q hq=>ye ob q hq _ _ _) ?_ rfl
 show(w.setCells ob (k*6) (zU x)).ownsRow B 77 6 bt.ov (ol.set k x).length ((ol.set k x).flatMap zU)
 rw[List.length_set]
 exact uZ z7 (hr.own _ (.head _)) hgo hk x
open Go.RowKit
def spO (what n:Nat)(o:IOp):IOp:=
 match what with
 |0=> {o with code:=(n:Int)/7%30 }
 |1=> {o with res:=(n:Int)/7%40-2 }
 |2=> {o with a:=(n:Int)/7%40-2 }
 |3=> {o with b:=(n:Int)/7%40 }
 |4=> {o with n:=n/7%300 }
 |5=> {o with args:=o.args++ [(n:Int)/7%20]}
 |_=>o
def xh (what n:Nat)(b:IBlk):IBlk:=
 if what<=7 then
  (if b.ops.length=0 then b
   else if what=6 then
    (match b.ops[n%b.ops.length]?,b.ops[n/7%b.ops.length]? with
     |some x,some y=> {b with ops:=(b.ops.set (n%b.ops.length) y).set (n/7%b.ops.length) x }
     |_,_=>b)
   else if what=7 then {b with ops:=b.ops.take (n%b.ops.length)}
   else {b with ops:=wD b.ops (n%b.ops.length) (spO what n)})
 else if what=8 then {b with params:=b.params++ [(n:Int)%40]}
 else if what=9 then {b with term:= {b.term with kind:=(n:Int)%7 }}
 else if what=10 then {b with term:= {b.term with a:=(n:Int)%40-2 }}
 else if what=11 then {b with term:=⟨b.term.kind,b.term.a,wD b.term.to 0 fun e=> {e with block:=(n:Int)%9-1 }⟩}
 else if what=12 then {b with term:=⟨b.term.kind,b.term.a,wD b.term.to (b.term.to.length-1) fun e=> {e with args:=e.args++ [(n:Int)%40]}⟩}
 else b
theorem Chg.refl (w:World)(rs:List Row):Chg w rs w:=⟨rfl,rfl,rfl,Nat.le_refl _,fun _ _ _=>rfl⟩
theorem Chg.trans {w w1 w2:World}{rs:List Row}(h:Chg w rs w1)(k:Chg w1 rs w2):Chg w rs w2:=
 ⟨k.os.trans h.os,k.tape.trans h.tape,k.output.trans h.output,Nat.le_trans h.size k.size,fun x hx hn=>(k.kept x (Nat.lt_of_lt_of_le hx h.size) hn).trans (h.kept x hx hn)⟩
theorem Chg.below {w w1:World}{rs:List Row}(hb:Below w.heap.size w w1):Chg w rs w1:=⟨hb.os,hb.tape,hb.output,hb.size,fun k hk _=>hb.block k hk⟩
theorem uY {w w1:World}{r:Row}(hg:w.grownBy w1 r.blk):Chg w [r] w1:=
 ⟨hg.os,hg.tape,hg.output,hg.size,fun k hk hn=>hg.block k hk (fun e=>hn (List.mem_filterMap.2 ⟨r,.head _,e.symm⟩))⟩
theorem Chg.one {w w1:World}{r:Row}{rs:List Row}(h:Chg w [r] w1)(hr:r∈rs):Chg w rs w1:=h.of fun k hk=>by
 obtain⟨x,hx,e⟩:=List.mem_filterMap.1 hk
 rw[List.mem_singleton] at hx
 subst hx
 exact List.mem_filterMap.2 ⟨_,hr,e⟩
end Go.Proofs.Ytojclalkfhoooaa
