/- Part of a proof. -/
import Derived.Test.YtojclalkfhoooaaGOwn0
import Derived.Test.YtojclalkfhoooaaMkX
set_option linter.all false
set_option maxHeartbeats 4000000
set_option maxRecDepth 100000
namespace Go.Proofs.Ytojclalkfhoooaa
open Go.RowKit
variable {w w' w1 w9 wx:World}{rs rs':List Row}{r r':Row}{d gv u:Value}{xs:List Int}{f1 g3 i r2 tb:Nat}
theorem Rows.below{B:Nat}(h:Rows w B rs)(hb:F w w'):Rows w' B rs:=h.keep fun k hk=>hb.block k (h.lt hk).2
theorem Rows.base{B B':Nat}(h:Rows w B rs)(hB:B'<=B):Rows w B' rs:=⟨fun r hr=>vY (h.own r hr) hB,h.nd⟩
theorem Rows.right{B:Nat}(h:Rows w B (rs++rs')):Rows w B rs':=by
 induction rs with
 |nil=>exact h
 |cons r rs ih=>exact ih h.tail
theorem Rows.left{B:Nat}(h:Rows w B (rs++rs')):Rows w B rs:=(h.perm List.perm_append_comm).right
theorem Rows.append{B:Nat}(h:Rows w B rs)(c:Rows w' w.heap.size rs')(hb:F w w')(hB:B<=w.heap.size):Rows w' B (rs'++rs):=by
 have h1:=h.below hb;have h2:=c.base hB;refine⟨fun r hr=>(Jl.1 hr).elim (h2.own r) (h1.own r),?_⟩;rw[List.filterMap_append];refine Qq.2 ⟨c.nd,h.nd,fun a ha b hb' e=>?_⟩;have e1:=(c.lt ha).1;have e2:=(h.lt hb').2;omega
structure BT where
 params:List Int
 pv:Value
 ops:List (IOp×Value)
 ov:Value
 kind:Int
 a:Int
 tos:List (IEdge×Value)
 tv:Value
structure FT where
 blks:List BT
 bv:Value
structure PT where
 funcs:List FT
 fv:Value
 args:List Int
 av:Value
 data:List IObj
 dv:Value
 banks:List ByteArray
 bv:Value
 entry:Int
 handler:Int
def BT.blk (b:BT):IBlk:=⟨b.params,b.ops.map (·.1),⟨b.kind,b.a,b.tos.map (·.1)⟩⟩
def zz (b:BT):List Value:=[b.pv,b.ov,A b.kind,A b.a,b.tv]
def FT.fn (f:FT):List IBlk:=f.blks.map BT.blk
def PT.prog (t:PT):IProg:=⟨t.funcs.map FT.fn,t.args,t.entry,t.handler,t.data,t.banks⟩
def PT.V (t:PT):PV:=⟨t.fv,t.av,t.dv,t.bv⟩
def yo (v:Value)(l:List (IOp×Value)):Row:=⟨v,77,6,l.length,l.flatMap zU⟩
def xg (v:Value)(l:List (IEdge×Value)):Row:=⟨v,75,2,l.length,l.flatMap za⟩
def zd (v:Value)(l:List BT):Row:=⟨v,49,5,l.length,l.flatMap zz⟩
def xP (o:IObj):List Value:=[A o.bank,I (o.addr:Int),I (o.size:Int)]
def wY (v:Value)(l:List FT):Row:=⟨v,43,1,l.length,l.map (·.bv)⟩
def vK (v:Value)(l:List IObj):Row:=⟨v,51,3,l.length,l.flatMap xP⟩
def v8 (v:Value)(l:List ByteArray):Row:=⟨v,9,1,l.length,l.map .string⟩
def wI (l:List (IOp×Value)):List Row:=l.map fun o=>zP o.2 o.1.args
def ve (l:List (IEdge×Value)):List Row:=l.map fun o=>zP o.2 o.1.args
def BT.rows (b:BT):List Row:=zP b.pv b.params::yo b.ov b.ops::xg b.tv b.tos::(wI b.ops++ve b.tos)
variable {bt':BT}{l:List BT}
def FT.rows (f:FT):List Row:=zd f.bv f.blks::f.blks.flatMap BT.rows
def PT.rows (t:PT):List Row:=wY t.fv t.funcs::zP t.av t.args::vK t.dv t.data::v8 t.bv t.banks::t.funcs.flatMap FT.rows
variable {t:PT}
theorem sk (q:IObj):(xP q).length=3:=rfl
structure OfMid (w:World) (f1 r2 g3 tb:Nat) (fv gv:Value) (bt:BT) (l:List BT) (xr:List Row) (wx:World):Prop where
 h1:wx.heap[f1]? =some (.cells #[fv] 43 (0,0))
 h2:wx.heap[r2]? =some (.cells #[.slice none 0 0] 43 (0,0))
 h3:wx.heap[g3]? =some (.cells #[gv] 43 (0,0))
 hb:wx.heap[tb]? =some (.cells (zz bt).toArray 49 (0,0))
 bel:Below f1 w wx
 rows:Rows wx f1 (xr++(bt.rows++(zd gv l::l.flatMap BT.rows)))
 ges:f1<r2/\r2<g3/\g3<tb
 hgt:gv.ownBlock≠some tb
 xe:∀r∈xr,r.e=3
section
variable {w:World} {f1 r2 g3 tb:Nat} {fv gv:Value} {bt:BT} {l:List BT} {xr:List Row} {wx:World} (h:OfMid w f1 r2 g3 tb fv gv bt l xr wx)
include h
theorem OfMid.sz:f1<=wx.heap.size:=Qd (lt_of_block h.h1)
theorem OfMid.below(hb:F wx w'):OfMid w f1 r2 g3 tb fv gv bt l xr w':=
 ⟨zH hb h.h1 (lt_of_block h.h1),zH hb h.h2 (lt_of_block h.h2),zH hb h.h3 (lt_of_block h.h3),zH hb h.hb (lt_of_block h.hb),h.bel.trans (hb.mono h.sz),h.rows.below hb,h.ges,h.hgt,h.xe⟩
theorem OfMid.noTb:∀x∈xr++(bt.rows++(zd gv l::l.flatMap BT.rows)),x.blk≠some tb:=by
 have d:∀(b:BT),∀x∈b.rows,x.e≠49:=fun b x c=>by
  unfold BT.rows at c;rcases Jq.1 c with rfl|c
  ·show 3≠49;decide
  rcases Jq.1 c with rfl|c
  ·show 77≠49;decide
  rcases Jq.1 c with rfl|c
  ·show 75≠49;decide
  rcases Jl.1 c with c|c
  ·obtain⟨q,_,rfl⟩:=Nu.1 c
   show 3≠49;decide
  ·obtain⟨q,_,rfl⟩:=Nu.1 c
   show 3≠49;decide
 intro x c;have ho:=h.rows.own x c;rcases Jl.1 c with c|c
 ·exact zC ho h.hb (.inr (by rw[h.xe x c];decide))
 rcases Jl.1 c with c|c
 ·exact zC ho h.hb (.inr (d bt x c))
 rcases Jq.1 c with rfl|c
 ·exact h.hgt
 ·obtain⟨b,_,hb⟩:=Qx.1 c;exact zC ho h.hb (.inr (d b x hb))
theorem OfMid.grow{j:List Row}(hp:(xr++(bt.rows++(zd gv l::l.flatMap BT.rows))).Perm (r::rs))(d:F wx w1)(hg:w1.grownBy w' r.blk)
 (o:w'.ownsRow f1 r'.e r'.sz r'.v r'.n r'.cs) (a6:∀k,r'.blk=some k->r.blk=some k∨wx.heap.size<=k) (g:r.e≠43/\r.e≠49) (a5:r'.e≠49) {W:World} (hW:W=w'∨∃i u,W=w'.setCell ⟨tb,i,none⟩ u)
 (a3:∀c:Array Value,L w' tb c 49->c=(zz bt).toArray->L W tb (zz bt').toArray 49)
 (hq:(r'::rs).Perm (j++(bt'.rows++(zd gv l::l.flatMap BT.rows)))) (a2:∀r∈j,r.e=3):OfMid w f1 r2 g3 tb fv gv bt' l j W:=by
 have hr:=h.rows.perm hp;have ho:=hr.own r (.head _);have keep:∀ {b:Nat} {cs:Array Value} {t:TypeId},L wx b cs t->r.e≠t->L w' b cs t:=fun hb hne=>zL hg (zH d hb (lt_of_block hb)) (zC ho hb (.inr hne))
 have a4:wx.heap.size<=w'.heap.size:=Jn d.size hg.size;have a0:Below f1 w w':=h.bel.trans ⟨hg.os.trans d.os,hg.tape.trans d.tape,hg.output.trans d.output,a4,fun k hk=>(hg.block k (by have:=h.sz;have:=d.size;omega) (fun e=>by have:=(ho.lt k e.symm).1;omega)).trans (d.block k (by have:=h.sz;omega))⟩;have y:Rows w' f1 (r'::rs):=hr.grow d hg o a6;have m:=keep h.hb g.2;rcases hW with rfl|⟨i,u,rfl⟩
 ·exact⟨keep h.h1 g.1,keep h.h2 g.1,keep h.h3 g.1,a3 _ m rfl,a0,y.perm hq,h.ges,h.hgt,a2⟩
 ·have a7:=h.ges;refine⟨zR (keep h.h1 g.1) (by show f1≠tb;omega),zR (keep h.h2 g.1) (by show r2≠tb;omega),zR (keep h.h3 g.1) (by show g3≠tb;omega),a3 _ m rfl,a0.setCell (by show f1<=tb;omega) _,(y.keep fun k hk=>Below.heap_setCell _ _ _ _ (fun e=>?_)).perm hq,h.ges,h.hgt,a2⟩;obtain⟨x,hx,a1⟩:=Nj.1 hk;have e':k=tb:=e;subst e';rcases Jq.1 hx with rfl|hx
  ·exact zC o m (.inr a5) a1
  ·exact h.noTb x (hp.mem_iff.2 (.tail _ hx)) a1
end
section
variable {w:World} {f1 r2 g3 tb:Nat} {fv gv:Value} {bt:BT} {l:List BT} {wx:World}
theorem OfMid.par(h:OfMid w f1 r2 g3 tb fv gv bt l [] wx)(hp:bt.params=[])(i:F wx w1)(hg:w1.grownBy w9 bt.pv.ownBlock)(g:w9.ownsRow f1 3 1 d xs.length (xs.map zN))
 (j:∀k,d.ownBlock=some k->bt.pv.ownBlock=some k∨wx.heap.size<=k):OfMid w f1 r2 g3 tb fv gv {bt with params:=xs,pv:=d } l [] (w9.setCell ⟨tb,0,none⟩ d):=
 h.grow (r:=zP bt.pv bt.params) (r':=zP d xs) (Uq _) i hg g j ⟨by show 3≠_;decide,by show 3≠_;decide⟩ (by show 3≠_;decide) (.inr ⟨0,d,rfl⟩)
  (fun c hc e=>by subst e;rw[zD hc];rfl) (Uq _) (fun r hr=>by simp at hr)
theorem OfMid.arg2{av:Value}(h:OfMid w f1 r2 g3 tb fv gv bt l [] wx)(c:F wx w1)(hg:w1.grownBy w9 none)(o:w9.ownsRow f1 3 1 av xs.length (xs.map zN))(m:∀k,av.ownBlock=some k->w1.heap.size<=k)
 {q:Nat} (hq:wx.heap.size<=q/\q<w1.heap.size) (u:Value):OfMid w f1 r2 g3 tb fv gv bt l [zP av xs] (w9.setCell ⟨q,i,none⟩ u):=by
 have t:F wx (w9.setCell ⟨q,i,none⟩ u):=Below.setCell ⟨hg.os.trans c.os,hg.tape.trans c.tape,hg.output.trans c.output,Jn c.size hg.size,fun k hk=>(hg.block k (Jy hk c.size) (fun e=>by cases e)).trans (c.block k hk)⟩ hq.1 _;have d:=h.below t;have j:(w9.setCell ⟨q,i,none⟩ u).ownsRow f1 3 1 av xs.length (xs.map zN):=yD o (fun k e=>Below.heap_setCell _ _ _ _ (fun e2=>by have:=m k e;have e3:k=q:=e2;omega));exact⟨d.h1,d.h2,d.h3,d.hb,d.bel,d.rows.cons j (fun g e hm=>by have:=m g e;have:=(h.rows.lt hm).2;omega),d.ges,d.hgt,fun r hr=>by rw[Jo] at hr;subst hr;rfl⟩
theorem OfMid.op{av:Value}{o:IOp}(h:OfMid w f1 r2 g3 tb fv gv bt l [zP av o.args] wx)(i:F wx w1)(hg:w1.grownBy w9 bt.ov.ownBlock)
 (g:w9.ownsRow f1 77 6 d (bt.ops.length+1) (bt.ops.flatMap zU++zU (o,av))) (j:∀k,d.ownBlock=some k->bt.ov.ownBlock=some k∨wx.heap.size<=k):
 OfMid w f1 r2 g3 tb fv gv {bt with ops:=bt.ops++ [(o,av)],ov:=d } l [] (w9.setCell ⟨tb,1,none⟩ d):=
 h.grow (r:=yo bt.ov bt.ops) (r':=yo d (bt.ops++ [(o,av)])) (rs:=zP av o.args::zP bt.pv bt.params::xg bt.tv bt.tos::(wI bt.ops++ve bt.tos)++(zd gv l::l.flatMap BT.rows)) (by
  classical
  unfold BT.rows;refine Jp.2 fun r=>?_
  simp only[Nb,Nf,List.count_nil]
  omega) i hg (by
  show w9.ownsRow f1 77 6 d (bt.ops++ [(o,av)]).length ((bt.ops++ [(o,av)]).flatMap zU)
  rw[Jk,Ju,Nx]
  simpa using g) j ⟨by show 77≠_;decide,by show 77≠_;decide⟩ (by show 77≠_;decide) (.inr ⟨1,d,rfl⟩)
  (fun c hc e=>by subst e;rw[zD hc];rfl) (by
   classical
   unfold BT.rows wI;refine Jp.2 fun r=>?_
   simp only[Nb,Nf,List.count_nil,Js,Ql,List.map_nil]
   omega) (fun r hr=>by simp at hr)
theorem OfMid.edge{av:Value}{o:IEdge}(h:OfMid w f1 r2 g3 tb fv gv bt l [zP av o.args] wx)(i:F wx w1)(hg:w1.grownBy w9 bt.tv.ownBlock)
 (g:w9.ownsRow f1 75 2 d (bt.tos.length+1) (bt.tos.flatMap za++za (o,av))) (j:∀k,d.ownBlock=some k->bt.tv.ownBlock=some k∨wx.heap.size<=k):
 OfMid w f1 r2 g3 tb fv gv {bt with tos:=bt.tos++ [(o,av)],tv:=d } l [] (w9.setCell ⟨tb,4,none⟩ d):=
 h.grow (r:=xg bt.tv bt.tos) (r':=xg d (bt.tos++ [(o,av)])) (rs:=zP av o.args::zP bt.pv bt.params::yo bt.ov bt.ops::(wI bt.ops++ve bt.tos)++(zd gv l::l.flatMap BT.rows)) (by
  classical
  unfold BT.rows;refine Jp.2 fun r=>?_
  simp only[Nb,Nf,List.count_nil]
  omega) i hg (by
  show w9.ownsRow f1 75 2 d (bt.tos++ [(o,av)]).length ((bt.tos++ [(o,av)]).flatMap za)
  rw[Jk,Ju,Nx]
  simpa using g) j ⟨by show 75≠_;decide,by show 75≠_;decide⟩ (by show 75≠_;decide) (.inr ⟨4,d,rfl⟩)
  (fun c hc e=>by subst e;rw[zD hc];rfl) (by
   classical
   unfold BT.rows ve;refine Jp.2 fun r=>?_
   simp only[Nb,Nf,List.count_nil,Js,Ql,List.map_nil]
   omega) (fun r hr=>by simp at hr)
theorem OfMid.set(h:OfMid w f1 r2 g3 tb fv gv bt l [] wx)(g:((zz bt).toArray).setIfInBounds i u=(zz bt').toArray)(hr:bt'.rows=bt.rows):OfMid w f1 r2 g3 tb fv gv bt' l [] (wx.setCell ⟨tb,i,none⟩ u):=by
 have hg:=h.ges;refine⟨zR h.h1 (by show f1≠tb;omega),zR h.h2 (by show r2≠tb;omega),zR h.h3 (by show g3≠tb;omega),by rw[zD h.hb,g],h.bel.setCell (by show f1<=tb;omega) _,?_,h.ges,h.hgt,h.xe⟩;rw[hr];refine h.rows.keep fun k hk=>Below.heap_setCell _ _ _ _ (fun e=>?_)
 obtain⟨x,d,c⟩:=Nj.1 hk;have e':k=tb:=e;subst e';exact h.noTb x d c
end
structure OfTop (w:World) (f1 r2 g3:Nat) (fv gv:Value) (l:List BT) (wx:World):Prop where
 h1:wx.heap[f1]? =some (.cells #[fv] 43 (0,0))
 h2:wx.heap[r2]? =some (.cells #[.slice none 0 0] 43 (0,0))
 h3:wx.heap[g3]? =some (.cells #[gv] 43 (0,0))
 bel:Below f1 w wx
 rows:Rows wx f1 (zd gv l::l.flatMap BT.rows)
 ges:f1<r2/\r2<g3
def bt0:BT:=⟨[],O,[],O,0,0,[],O⟩
theorem OfTop.start{fv:Value}(h:OfTop w f1 r2 g3 fv gv l wx)(d:wx.heap.size=tb):
 OfMid w f1 r2 g3 tb fv gv bt0 l [] (wx.alloc (U #[O,O,A 0,A 0,O] 49)):=by
 have i:F wx (wx.alloc (U #[O,O,A 0,A 0,O] 49)):=(Below.refl _ _).alloc (Je _) _;have hl:=lt_of_block h.h3;have j:=lt_of_block h.h1;have c:∀(e:TypeId) (W:World) (sz:Nat),W.ownsRow f1 e sz (O) 0 []:=fun e W sz=>Jv _ _ _ _
 refine⟨zB h.h1,zB h.h2,zB h.h3,zI d,h.bel.alloc Zo _,?_,⟨h.ges.1,h.ges.2,by omega⟩,fun e=>?_,fun r hr=>by simp at hr⟩
 ·show Rows _ f1 (zP (O) []::yo (O) []::xg (O) []::(zd gv l::l.flatMap BT.rows))
  have hr:=h.rows.below i;exact((hr.cons (c _ _ _) (fun g e=>by simp[Row.blk,xg,Value.ownBlock] at e)).cons (c _ _ _) (fun g e=>by simp[Row.blk,yo,Value.ownBlock] at e)).cons (c _ _ _) (fun g e=>by simp[Row.blk,zP,Value.ownBlock] at e)
 ·have:=((h.rows.own _ (.head _)).lt tb e).2;omega
theorem OfMid.close{fv g:Value}{bt:BT}(h:OfMid w f1 r2 g3 tb fv gv bt l [] wx)(d:F wx w1)(hg:w1.grownBy w9 gv.ownBlock)
 (j:w9.ownsRow f1 49 5 g (l.length+1) (l.flatMap zz++zz bt)) (a0:∀k,g.ownBlock=some k->gv.ownBlock=some k∨wx.heap.size<=k):OfTop w f1 r2 g3 fv g (l++ [bt]) (w9.setCell ⟨g3,0,none⟩ g):=by
 have hp:(bt.rows++(zd gv l::l.flatMap BT.rows)).Perm (zd gv l::(bt.rows++l.flatMap BT.rows)):=List.perm_middle;have hr:Rows wx f1 (zd gv l::(bt.rows++l.flatMap BT.rows)):=h.rows.perm hp;have ho:=hr.own _ (.head _);have keep:∀ {b:Nat} {cs:Array Value} {t:TypeId},L wx b cs t->49≠t->L w9 b cs t:=fun hb hne=>zL hg (zH d hb (lt_of_block hb)) (zC ho hb (.inr hne))
 have y:wx.heap.size<=w9.heap.size:=Jn d.size hg.size;have o:Below f1 w w9:=h.bel.trans ⟨hg.os.trans d.os,hg.tape.trans d.tape,hg.output.trans d.output,y,fun k hk=>(hg.block k (by have:=h.sz;have:=d.size;omega) (fun e=>by have:=(ho.lt k e.symm).1;omega)).trans (d.block k (by have:=h.sz;omega))⟩
 have m:Rows w9 f1 (zd g (l++ [bt])::(bt.rows++l.flatMap BT.rows)):=hr.grow d hg (by
  show w9.ownsRow f1 49 5 g (l++ [bt]).length ((l++ [bt]).flatMap zz)
  rw[Jk,Ju,Nx]
  simpa using j) a0
 have h3:=keep h.h3 Zd;have a1:=h.ges;refine⟨zR (keep h.h1 Zd) (by show f1≠g3;omega),zR (keep h.h2 Zd) (by show r2≠g3;omega),by rw[zD h3];rfl,o.setCell (by show f1<=g3;omega) _,?_,⟨h.ges.1,h.ges.2.1⟩⟩;have i:Rows w9 f1 (zd g (l++ [bt])::(l++ [bt]).flatMap BT.rows):=m.perm (List.Perm.cons _ (by rw[Nx];simpa using List.perm_append_comm));refine i.keep fun k hk=>Below.heap_setCell _ _ _ _ (fun e=>?_)
 obtain⟨x,c,r⟩:=Nj.1 hk;have e':k=g3:=e;subst e'
 have u:x.e≠43:=by
  rcases Jq.1 c with rfl|c
  ·show 49≠43;decide
  obtain⟨b,_,c⟩:=Qx.1 c;unfold BT.rows at c;rcases Jq.1 c with rfl|c
  ·show 3≠43;decide
  rcases Jq.1 c with rfl|c
  ·show 77≠43;decide
  rcases Jq.1 c with rfl|c
  ·show 75≠43;decide
  rcases Jl.1 c with c|c
  ·obtain⟨q,_,rfl⟩:=Nu.1 c
   show 3≠43;decide
  ·obtain⟨q,_,rfl⟩:=Nu.1 c
   show 3≠43;decide
 exact zC (i.own x c) h3 (.inr u) r
theorem lG{v:Value}:∀x∈zd v l::l.flatMap BT.rows,x.e≠43:=fun x c=>by
 rcases Jq.1 c with rfl|c
 ·show 49≠43;decide
 obtain⟨b,_,c⟩:=Qx.1 c;unfold BT.rows at c;rcases Jq.1 c with rfl|c
 ·show 3≠43;decide
 rcases Jq.1 c with rfl|c
 ·show 77≠43;decide
 rcases Jq.1 c with rfl|c
 ·show 75≠43;decide
 rcases Jl.1 c with c|c
 ·obtain⟨q,_,rfl⟩:=Nu.1 c
  show 3≠43;decide
 ·obtain⟨q,_,rfl⟩:=Nu.1 c
  show 3≠43;decide
theorem mA{B:Nat}{n3:Value}{blocks:List IBlk}(l4:wX w B n3 blocks)(hB:B<=w.heap.size)(hs:vZ blocks)(ha:jx blocks):
 Y 57 #[.agg #[n3]] w (fun e w'=>∃(f:FT) (a:Option Addr) (n c:Nat),f.bv=.slice a n c/\e=.returned (.agg #[.slice a n c])/\f.fn=blocks/\Rows w' w.heap.size f.rows/\F w w'):=by
 obtain⟨fa,fc,rfl,w1,w0⟩:=l4.form;have v5:=hs.1;have h6:=Ja (Jb l4 (Jb hB (Jb hs ha)));obtain⟨f1,d5⟩:∃f1,w.heap.size=f1:=⟨_,rfl⟩
 have n2:F w (((w.alloc (U #[.slice fa blocks.length fc] 43)).alloc (U #[O] 43)).alloc (U #[O] 43)):=(((Below.refl _ _).alloc (Je _) _).alloc Zs _).alloc Zt _;have f2:=zB (o:=U #[O] 43) (zB (o:=U #[O] 43) (zI (W:=w) (o:=U #[.slice fa blocks.length fc] 43) rfl));have e8:=zB (o:=U #[O] 43) (zI (W:=w.alloc (U #[.slice fa blocks.length fc] 43)) (o:=U #[O] 43) rfl);have i6:=zI (W:=(w.alloc (U #[.slice fa blocks.length fc] 43)).alloc (U #[O] 43)) (o:=U #[O] 43) rfl;have m5:(w.alloc (U #[.slice fa blocks.length fc] 43)).heap.size=w.heap.size+1:=by simp
 have m4:((w.alloc (U #[.slice fa blocks.length fc] 43)).alloc (U #[O] 43)).heap.size=w.heap.size+1+1:=by simp
 rw[m5] at e8;rw[m4] at i6;clear l4 hB hs m5 m4 ha;go_enter Try.func57,Try.ntmps57;go_upto_region 2 with fail;generalize s5:((w.alloc (U #[.slice fa blocks.length fc] 43)).alloc (U #[O] 43)).alloc (U #[O] 43)=W1 at *;rw[d5] at f2 e8 i6;generalize q8:f1+1+1=g3 at *;generalize q6:f1+1=r2 at *;have h9:f1<r2/\r2<g3:=Zo;have s8:=Ja (show OfTop w f1 r2 g3 (.slice fa blocks.length fc) (O) [] W1/\([]:List BT).map BT.blk=blocks.take 0 from⟨⟨f2,e8,i6,by rw[<-d5];exact n2,Rows.nil.cons (Jv _ _ _ _) (fun g e=>by simp[Row.blk,zd,Value.ownBlock] at e),h9⟩,rfl⟩);have j2:=Ja (show ∀wx,Below f1 w wx->wX wx B (.slice fa blocks.length fc) blocks/\B<=wx.heap.size from fun wx hbx=>⟨h6.out.1.below yT (hbx.mono (by rw[<-d5];exact h6.out.2.1)),Jn h6.out.2.1 hbx.size⟩);have t6:=Ja d5;clear n2 f2 e8 i6 s5 d5 q6 q8 h9;go_wp2
 go_loopw [4] (fun kv wx=>∃(k:Nat) (l:List BT) (ga:Option Addr) (gc:Nat),k<=blocks.length/\kv=A k/\Hid (OfTop w f1 r2 g3 (.slice fa blocks.length fc) (.slice ga k gc) l wx/\l.map BT.blk=blocks.take k)) (fun kv _=>blocks.length-(intOf kv).toNat)
 case atStart=>exact⟨0,[],none,0,Jt _,rfl,s8⟩
 case round=>
  obtain⟨k,l,ga,gc,hk,rfl,HK⟩:=hrel;have c0:=zA (i:=0) HK.out.1.h1 rfl;have q9:=lt_of_block HK.out.1.h1
  by_cases n0:k<blocks.length
  ·have o0:(k:Int)<(blocks.length:Int):=Zo;obtain⟨b,hb⟩:∃b,blocks[k]? =some b:=⟨_,Jd n0⟩
   have h0:=h6.out.2.2.1.2 b (Ji hb);have h4:=h6.out.2.2.2 b (Ji hb);obtain⟨tb,q5⟩:∃tb,wr.heap.size=tb:=⟨_,rfl⟩
   have b8:=HK.out.1.start q5;have HB:=Ja (Jb hb (Jb h0 h4));have v2:=h0.1;have v4:=h0.2.1;have u8:=h0.2.2;clear hb h0 h4;go_upto_region 6 with fail;generalize r6:wr.alloc (U #[O,O,A 0,A 0,O] 49)=W5 at *;obtain⟨b6,w5⟩:=j2.out _ b8.bel;obtain⟨bb,bo,r3,r5,s7,s6,h64,pv,ov,tv,g0,g1,g4,h8,n7,n5⟩:=b6.get HB.out.1;obtain⟨pa,pc,rfl,v3,v1⟩:=h8.form;subst r3;have o3:bb<W5.heap.size:=Zo;have d0:=zA (i:=0) b8.h1 rfl;have dl:=lt_of_block b8.h1;have t0:=zA (i:=0) b8.hb rfl;have l9:T W5 tb 0:=zE b8.hb;have tl:=lt_of_block b8.hb;have n6:=b8.sz;have k6:=zY.src h8;have n4:=Ja (Jb b8 k6);obtain⟨ij,f3,d3,d2,d1⟩:=info_parts Try.info_int;clear c0 q9 b8 b6 h8 n7 n5 g1 g4 s7 s6 h64 k6 r6
   go_cut [] (fun wx=>Hid (∃k0,OfMid w f1 r2 g3 tb (.slice (some ⟨bb,bo,none⟩) blocks.length fc) (.slice ga k gc) {bt0 with params:=b.params,pv:=k0 } l [] wx))
   case first=>
    go_region_law (first|(refine yG (by rfl) (.tmp 20) (.tmp 26) _ (by rfl) f1 3 ij (A 0) 1 8 Try.underlying22 f3 d3 d2 d1 rfl Zo (O) 0 [] (by rfl) (Jv _ _ _ _) (.slice pa b.params.length pc) b.params.length (b.params.map zN) (by rfl) n4.out.2 (by unfold maxLen;omega) Zo Zt ?_;intro aa9 u3 w9 d r t;have y7:=(r.cell_far ⟨tb,0,none⟩ Zt (by simp[Value.ownBlock])).trans t0;have y6:=(r.frozen_far ⟨tb,0,none⟩ Zt (by simp[Value.ownBlock])).trans l9))
    all_goals go_wp2_with fail
    all_goals go_meet
    all_goals (
     rw[Ng,Op] at d;rw[Ng] at t
     exact Ja ⟨_,n4.out.1.par rfl (Below.refl _ _).drew r d (fun q e=>t.elim (fun e2=> .inl (e2.symm.trans e)) (fun e2=> .inr (by have e3:=e2.symm.trans e;simp at e3;omega)))⟩)
   case rest=>
   obtain⟨k0,e9⟩:=hcut.out;obtain⟨bt1,f5⟩:∃bt1:BT,{bt0 with params:=b.params,pv:=k0 }=bt1:=⟨_,rfl⟩
   rw[f5] at e9;have t5:=Ja (show OfMid w f1 r2 g3 tb (.slice (some ⟨bb,bo,none⟩) blocks.length fc) (.slice ga k gc) {bt1 with ops:=[],ov:=O } l [] wc/\([]:List (IOp×Value)).map (·.1)=b.ops.take 0 from⟨by rw[<-f5] at e9 ⊢;exact e9,rfl⟩);have o6:=Ja f5;have e0:=zA (i:=0) e9.h1 rfl;have el:=lt_of_block e9.h1;clear f5 hcut d0 dl t0 l9 tl n6 f3 d3 d2 d1 ij o3 g0;have g9:Below f1 w wc:=e9.bel;have f6:bb<wc.heap.size:=Jy r5 (j2.out _ g9).2;clear e9 g9;go_wp2;clear e0 el f6
   go_loopw [6] (fun jv wx=>∃(j:Nat) (ol:List (IOp×Value)) (oa:Option Addr) (oc:Nat),j<=b.ops.length/\jv=A j/\Hid (OfMid w f1 r2 g3 tb (.slice (some ⟨bb,bo,none⟩) blocks.length fc) (.slice ga k gc) {bt1 with ops:=ol,ov:=.slice oa j oc } l [] wx/\ol.map (·.1)=b.ops.take j)) (fun jv _=>b.ops.length-(intOf jv).toNat)
   case atStart=>exact⟨0,[],none,0,Jt _,rfl,t5⟩
   case round=>
    obtain⟨j,ol,oa,oc,hj,rfl,HJ⟩:=hrel;have e0:=zA (i:=0) HJ.out.1.h1 rfl;have el:=lt_of_block HJ.out.1.h1;obtain⟨b6,o5⟩:=j2.out _ HJ.out.1.bel;obtain⟨b2,o2,i0,_,q2c,i5,g5,p5,ov2,p1,q0,q1,q4,c3,b0,a7⟩:=b6.get HB.out.1;cases i0;obtain⟨sa,sc,rfl,v0,u9⟩:=b0.form;have f6:bb<wr.heap.size:=Zo
    by_cases f0:j<b.ops.length
    ·have l1:(j:Int)<(b.ops.length:Int):=Zo;obtain⟨o,ho⟩:∃o,b.ops[j]? =some o:=⟨_,Jd f0⟩
     obtain⟨ob,oo,k7,n9,y0,y1,y2,y3,y4,f7,yv,y5,e7⟩:=b0.get ho;obtain⟨ya,yc,rfl,q2,p6⟩:=e7.form;subst k7;have n8:ob<wr.heap.size:=Zo;have l8:=(HB.out.2.2.1 o (Ji ho))
     obtain⟨q,hq⟩:∃q,wr.heap.size=q:=⟨_,rfl⟩
     have c7:F wr (wr.alloc (U (D o ya yc) 77)):=(Below.refl _ _).alloc (Je _) _;have b1:=zI (W:=wr) (o:=U (D o ya yc) 77) hq;have c2:=zY.src (e7.below zO (c7.mono o5));have h5:=Ja (Jb ho (Jb f7 hq));clear c3 b0 a7 b6 q0 q4 q2c i5 g5 ho f7 e7;go_upto_region 12 with fail;generalize l5:wr.alloc (U (D o ya yc) 77)=W6 at *;have z5:=zA (i:=5) b1 rfl;have o9:T W6 q 5:=zE b1;have zl:=lt_of_block b1;have c5:W6.ownsRow f1 3 1 (O) 0 []:=Jv _ _ _ _;have o1:f1<=W6.heap.size:=Jn HJ.out.1.sz c7.size;have b5:=Ja (Jb b1 (Jb c2 (Jb c5 c7)));obtain⟨ij,f3,d3,d2,d1⟩:=info_parts Try.info_int;clear b1 c2 c5 c7 l5 y0 y1 y2 y3 y4 y5;go_upto_region 13 with(at_builtin;go_must (refine zK _ rfl (.tmp 49) (.tmp 51) 22 rfl f1 3 ij (A 0) 1 8 Try.underlying22 f3 d3 d2 d1 rfl Zd (O) 0 [] rfl b5.out.2.2.1 (.slice ya o.args.length yc) o.args.length (o.args.map zN) rfl b5.out.2.1 (by unfold maxLen;omega) Zo Zo ?_;intro v9 w9 d r t;obtain⟨a1,a0,rfl⟩:=zG d;have b3:=zL r b5.out.1 (by simp[Value.ownBlock]);have j5:=zA (i:=5) b3 rfl;have j4:T w9 q 5:=zE b3;have h7:=lt_of_block b3;have c9:=Ja (Jb d (Jb r (Jb t b3)));clear d r t b3))
     have a6:OfMid w f1 r2 g3 tb (.slice (some ⟨bb,bo,none⟩) blocks.length fc) (.slice ga k gc) {bt1 with ops:=ol,ov:=.slice oa j oc } l [zP (.slice a1 o.args.length a0) o.args] (w9.setCell ⟨q,5,none⟩ (.slice a1 o.args.length a0)):=by
      have d:=c9.out.1;have t:=c9.out.2.2.1;rw[Ng,Op] at d;rw[Ng] at t;refine HJ.out.1.arg2 b5.out.2.2.2 c9.out.2.1 d (fun x e=>?_) ⟨by rw[h5.out.2.2];exact Je _,lt_of_block b5.out.1⟩ _;rcases t with e2|e2
      ·have e3:=e2.symm.trans e;simp[Value.ownBlock] at e3
      ·have e3:=e2.symm.trans e;simp at e3;omega
     have a5:=zD (i:=5) c9.out.2.2.2 (.slice a1 o.args.length a0);generalize i4:w9.setCell ⟨q,5,none⟩ (.slice a1 o.args.length a0)=W10 at *;have y0:=zA (i:=0) a5 rfl;have y1:=zA (i:=1) a5 rfl;have y2:=zA (i:=2) a5 rfl;have y3:=zA (i:=3) a5 rfl;have y4:=zA (i:=4) a5 rfl;have y5:=zA (i:=5) a5 rfl;have yl:=lt_of_block a5;have t1:=zA (i:=1) a6.hb rfl;have p2:=lt_of_block a6.hb
     have b7:ol.length=j:=by
      have h1:=congrArg List.length HJ.out.2;rw[Nr,Oc] at h1;omega
     have c4:W10.ownsRow f1 77 6 (.slice oa j oc) j (ol.flatMap zU):=by
      have h1:=a6.rows.own (yo (.slice oa j oc) ol) (.tail _ (.tail _ (.head _)));unfold yo at h1;simp only at h1;rw[b7] at h1;exact h1
     have l7:=a6.sz;have y:=Ja (Jb a6 (Jb c4 b7));obtain⟨ik,g6,e6,e5,e4⟩:=info_parts Try.info_irop;clear a6 c4 b7 a5 i4 z5 o9 j5 j4 h7;have b9:yM (W10.alloc (U (D o a1 a0) 77)) 6 (N W10.heap.size 1 1) 1 (zU (o,.slice a1 o.args.length a0)):=yM.cells (zI rfl) rfl (by simp[zU,Value.oneCell']);have l6:=Ja b9;clear b9;go_wp2_with (at_builtin;go_must (refine zK _ rfl (.tmp 55) (.tmp 57) 44 rfl f1 77 ik (.agg #[A 0,A 0,A 0,A 0,I 0,O]) 6 64 Try.underlying44 g6 e6 e5 e4 rfl Zd (.slice oa j oc) j (ol.flatMap zU) rfl (y.out.2.1.alloc _) _ 1 (zU (o,.slice a1 o.args.length a0)) rfl l6.out (by unfold maxLen;omega) Zo Zt ?_;intro v11 w11 m h a4;obtain⟨e1,d9,rfl⟩:=zG m;have a2:=zL h (zB y.out.1.hb) (zC y.out.2.1 y.out.1.hb (.inr Zd));have u5:=zA (i:=1) a2 rfl;have p4:T w11 tb 1:=zE a2;have p3:=lt_of_block a2;have a3:=Ja (Jb m (Jb h a4));clear m h a4 a2))
     go_roundw
     case rel=>
      refine⟨j+1,ol++ [(o,.slice a1 o.args.length a0)],e1,d9,f0,by go_num,Ja ⟨?_,?_⟩⟩
      ·exact y.out.1.op ((Below.refl _ _).alloc (Je _) _) a3.out.2.1 (by show w11.ownsRow f1 77 6 _ (ol.length+1) _;rw[y.out.2.2];exact a3.out.1) (fun x e=>a3.out.2.2.elim (fun e2=> .inl (e2.symm.trans e)) (fun e2=> .inr (by have e3:=e2.symm.trans e;simp at e3;omega)))
      ·rw[Js,HJ.out.2,Nh,h5.out.1];rfl
     case measure=>simp[intOf];omega
    ·obtain rfl:j=b.ops.length:=by omega
     have l1:¬(b.ops.length:Int)<(b.ops.length:Int):=Zo;have m7:ol.map (·.1)=b.ops:=by rw[HJ.out.2,Nl]
     obtain⟨bt2,i3⟩:∃bt2:BT,{bt1 with ops:=ol,ov:=.slice oa b.ops.length oc }=bt2:=⟨_,rfl⟩
     have d4:=HJ.out.1;rw[i3] at d4;have j1:bt2.tos=[]/\bt2.tv=O/\bt2.params=b.params/\bt2.ops=ol:=by rw[<-i3,<-o6.out];exact⟨rfl,rfl,rfl,rfl⟩
     have w2:=zA (i:=2) d4.hb rfl;have w3:=zA (i:=3) d4.hb rfl;have w4:=zA (i:=4) d4.hb rfl;have wf:∀i,T wr tb i:=fun i=>zE d4.hb
     have wl:=lt_of_block d4.hb;have H2:=Ja (Jb d4 (Jb j1 m7));have q7:q2c=q2c:=rfl;clear hj HJ d4 i3 j1 m7 c3 b0 a7 b6 g5 f0 q7;go_upto_region 14 with fail
     go_cut [] (fun wx=>Hid (OfMid w f1 r2 g3 tb (.slice (some ⟨bb,bo,none⟩) blocks.length fc) (.slice ga k gc) {bt2 with kind:=b.term.kind,a:=b.term.a } l [] wx))
     case first=>
      refine zt 16 Zk Zk ?_;simp only[Qo,Uc,Qp,Ui]
      repeat (go_big_quiet_step (fail))
      refine wpQuiet_nil ?_;go_wp2;go_meet;refine Ja (OfMid.below ?_ (Below.refl _ _).drew);have k1:=H2.out.1.set (i:=2) (u:=A b.term.kind) (bt':= {bt2 with kind:=b.term.kind }) rfl rfl;have k2:=k1.set (i:=3) (u:=A b.term.a) (bt':= {bt2 with kind:=b.term.kind,a:=b.term.a }) rfl rfl;exact k2.set (i:=4) (u:=O) (bt':= {bt2 with kind:=b.term.kind,a:=b.term.a }) (by unfold zz;rw[H2.out.2.1.2.1];rfl) rfl
     case rest=>
     have k9:=hcut.out;obtain⟨bt3,i2⟩:∃bt3:BT,{bt2 with kind:=b.term.kind,a:=b.term.a }=bt3:=⟨_,rfl⟩
     rw[i2] at k9;have f4:bt3.tos=[]/\bt3.tv=O/\bt3.params=b.params/\bt3.ops=ol/\bt3.kind=b.term.kind/\bt3.a=b.term.a:=by rw[<-i2];exact⟨H2.out.2.1.1,H2.out.2.1.2.1,H2.out.2.1.2.2.1,H2.out.2.1.2.2.2,rfl,rfl⟩
     have t3:=Ja (show OfMid w f1 r2 g3 tb (.slice (some ⟨bb,bo,none⟩) blocks.length fc) (.slice ga k gc) {bt3 with tos:=[],tv:=O } l [] wc/\([]:List (IEdge×Value)).map (·.1)=b.term.to.take 0 from⟨by
      have e:({bt3 with tos:=[],tv:=O }:BT)=bt3:=by
       obtain⟨x1,x2,x3,x4,x5,x6,x7,x8⟩:=bt3;obtain⟨h1,h2,_⟩:=f4;simp only at h1 h2;rw[h1,h2]
      rw[e]
      exact k9,rfl⟩)
     have j3:=Ja f4;clear k9 i2 f4 hcut w2 w3 w4 wf wl e0 el q0 q1 q2c i5 q4 f6;go_wp2
     go_loopw [9] (fun jv wx=>∃(j:Nat) (tl:List (IEdge×Value)) (ta:Option Addr) (tc:Nat),j<=b.term.to.length/\jv=A j/\Hid (OfMid w f1 r2 g3 tb (.slice (some ⟨bb,bo,none⟩) blocks.length fc) (.slice ga k gc) {bt3 with tos:=tl,tv:=.slice ta j tc } l [] wx/\tl.map (·.1)=b.term.to.take j)) (fun jv _=>b.term.to.length-(intOf jv).toNat)
     case atStart=>exact⟨0,[],none,0,Jt _,rfl,t3⟩
     case round=>
      obtain⟨j,c8,ta,tc,hj,rfl,HJ⟩:=hrel;have e0:=zA (i:=0) HJ.out.1.h1 rfl;have el:=lt_of_block HJ.out.1.h1;obtain⟨b6,o4⟩:=j2.out _ HJ.out.1.bel;obtain⟨b2,o2,i0,_,q2c,i5,g5,p5,ov2,p1,q0,q1,q4,c3,b0,a7⟩:=b6.get HB.out.1;cases i0;obtain⟨sa2,sc2,rfl,t8,t7⟩:=a7.form;have f6:bb<wr.heap.size:=Zo
      by_cases f0:j<b.term.to.length
      ·have l1:(j:Int)<(b.term.to.length:Int):=Zo;obtain⟨o,ho⟩:∃o,b.term.to[j]? =some o:=⟨_,Jd f0⟩
       obtain⟨ob,oo,k7,n9,y0,f7,yv,y1,e7⟩:=a7.get ho;obtain⟨ya,yc,rfl,q2,p6⟩:=e7.form;subst k7;have n8:ob<wr.heap.size:=Zo;have l8:=(HB.out.2.2.2 o (Ji ho))
       obtain⟨q,hq⟩:∃q,wr.heap.size=q:=⟨_,rfl⟩
       have c7:F wr (wr.alloc (U #[A o.block,.slice ya o.args.length yc] 75)):=(Below.refl _ _).alloc (Je _) _;have b1:=zI (W:=wr) (o:=U #[A o.block,.slice ya o.args.length yc] 75) hq;have c2:=zY.src (e7.below zO (c7.mono o4));have h5:=Ja (Jb ho (Jb f7 hq));clear c3 b0 a7 b6 q0 q1 q2c i5 g5 ho f7 e7;go_upto_region 20 with fail;generalize l5:wr.alloc (U #[A o.block,.slice ya o.args.length yc] 75)=W6 at *;have z1:=zA (i:=1) b1 rfl;have p0:T W6 q 1:=zE b1;have zl:=lt_of_block b1;have c5:W6.ownsRow f1 3 1 (O) 0 []:=Jv _ _ _ _;have o1:f1<=W6.heap.size:=Jn HJ.out.1.sz c7.size;have b5:=Ja (Jb b1 (Jb c2 (Jb c5 c7)));obtain⟨ij,f3,d3,d2,d1⟩:=info_parts Try.info_int;clear b1 c2 c5 c7 l5 y0 y1;go_upto_region 21 with(at_builtin;go_must (refine zK _ rfl (.tmp 98) (.tmp 100) 22 rfl f1 3 ij (A 0) 1 8 Try.underlying22 f3 d3 d2 d1 rfl Zd (O) 0 [] rfl b5.out.2.2.1 (.slice ya o.args.length yc) o.args.length (o.args.map zN) rfl b5.out.2.1 (by unfold maxLen;omega) Zo Zo ?_;intro v9 w9 d r t;obtain⟨a1,a0,rfl⟩:=zG d;have b3:=zL r b5.out.1 (by simp[Value.ownBlock]);have j5:=zA (i:=1) b3 rfl;have j4:T w9 q 1:=zE b3;have h7:=lt_of_block b3;have c9:=Ja (Jb d (Jb r (Jb t b3)));clear d r t b3))
       have a6:OfMid w f1 r2 g3 tb (.slice (some ⟨bb,bo,none⟩) blocks.length fc) (.slice ga k gc) {bt3 with tos:=c8,tv:=.slice ta j tc } l [zP (.slice a1 o.args.length a0) o.args] (w9.setCell ⟨q,1,none⟩ (.slice a1 o.args.length a0)):=by
        have d:=c9.out.1;have t:=c9.out.2.2.1;rw[Ng,Op] at d;rw[Ng] at t;refine HJ.out.1.arg2 b5.out.2.2.2 c9.out.2.1 d (fun x e=>?_) ⟨by rw[h5.out.2.2];exact Je _,lt_of_block b5.out.1⟩ _;rcases t with e2|e2
        ·have e3:=e2.symm.trans e;simp[Value.ownBlock] at e3
        ·have e3:=e2.symm.trans e;simp at e3;omega
       have a5:=zD (i:=1) c9.out.2.2.2 (.slice a1 o.args.length a0);generalize i4:w9.setCell ⟨q,1,none⟩ (.slice a1 o.args.length a0)=W10 at *;have y0:=zA (i:=0) a5 rfl;have y1:=zA (i:=1) a5 rfl;have yl:=lt_of_block a5;have t4:=zA (i:=4) a6.hb rfl;have p2:=lt_of_block a6.hb
       have b7:c8.length=j:=by
        have h1:=congrArg List.length HJ.out.2;rw[Nr,Oc] at h1;omega
       have c4:W10.ownsRow f1 75 2 (.slice ta j tc) j (c8.flatMap za):=by
        have h1:=a6.rows.own (xg (.slice ta j tc) c8) (.tail _ (.tail _ (.tail _ (.head _))));unfold xg at h1;simp only at h1;rw[b7] at h1;exact h1
       have l7:=a6.sz;have y:=Ja (Jb a6 (Jb c4 b7));obtain⟨ik,g6,e6,e5,e4⟩:=info_parts Try.info_edge;clear a6 c4 b7 a5 i4 z1 p0 j5 j4 h7;have b9:yM (W10.alloc (U #[A o.block,.slice a1 o.args.length a0] 75)) 2 (N W10.heap.size 1 1) 1 (za (o,.slice a1 o.args.length a0)):=yM.cells (zI rfl) rfl (by simp[za,Value.oneCell']);have l6:=Ja b9;clear b9;go_wp2_with (at_builtin;go_must (refine zK _ rfl (.tmp 105) (.tmp 107) 45 rfl f1 75 ik (.agg #[A 0,O]) 2 32 Try.underlying45 g6 e6 e5 e4 rfl Zd (.slice ta j tc) j (c8.flatMap za) rfl (y.out.2.1.alloc _) _ 1 (za (o,.slice a1 o.args.length a0)) rfl l6.out (by unfold maxLen;omega) Zo Zt ?_;intro v11 w11 m h a4;obtain⟨e1,d9,rfl⟩:=zG m;have a2:=zL h (zB y.out.1.hb) (zC y.out.2.1 y.out.1.hb (.inr Zd));have u4:=zA (i:=4) a2 rfl;have p4:T w11 tb 4:=zE a2;have p3:=lt_of_block a2;have a3:=Ja (Jb m (Jb h a4));clear m h a4 a2))
       go_roundw
       case rel=>
        refine⟨j+1,c8++ [(o,.slice a1 o.args.length a0)],e1,d9,f0,by go_num,Ja ⟨?_,?_⟩⟩
        ·exact y.out.1.edge ((Below.refl _ _).alloc (Je _) _) a3.out.2.1 (by show w11.ownsRow f1 75 2 _ (c8.length+1) _;rw[y.out.2.2];exact a3.out.1) (fun x e=>a3.out.2.2.elim (fun e2=> .inl (e2.symm.trans e)) (fun e2=> .inr (by have e3:=e2.symm.trans e;simp at e3;omega)))
        ·rw[Js,HJ.out.2,Nh,h5.out.1];rfl
       case measure=>simp[intOf];omega
      ·obtain rfl:j=b.term.to.length:=by omega
       have l1:¬(b.term.to.length:Int)<(b.term.to.length:Int):=Zo;have m3:c8.map (·.1)=b.term.to:=by rw[HJ.out.2,Nl]
       obtain⟨bt4,i1⟩:∃bt4:BT,{bt3 with tos:=c8,tv:=.slice ta b.term.to.length tc }=bt4:=⟨_,rfl⟩
       have b4:=HJ.out.1;rw[i1] at b4
       have l3:bt4.blk=b:=by
        rw[<-i1];unfold BT.blk;simp only;rw[j3.out.2.2.1,j3.out.2.2.2.1,j3.out.2.2.2.2.1,j3.out.2.2.2.2.2,H2.out.2.2,m3]
       have r0:=b4.rows.own (zP bt4.pv bt4.params) (.head _);have r1:=b4.rows.own (yo bt4.ov bt4.ops) (.tail _ (.head _));have m0:=b4.rows.own (xg bt4.tv bt4.tos) (.tail _ (.tail _ (.head _)));obtain⟨g2,xc0,m2⟩:=zG r0;obtain⟨f9,xc1,f2⟩:=zG r1;obtain⟨f8,xc2,e8⟩:=zG m0;have k5:bt4.pv=.slice g2 bt4.params.length xc0:=m2;have k4:bt4.ov=.slice f9 bt4.ops.length xc1:=f2;have k3:bt4.tv=.slice f8 bt4.tos.length xc2:=e8;have l2:zz bt4=[.slice g2 bt4.params.length xc0,.slice f9 bt4.ops.length xc1,A bt4.kind,A bt4.a,.slice f8 bt4.tos.length xc2]:=by unfold zz;rw[k5,k4,k3]
       have d6:=b4.hb;rw[l2] at d6;have s0:=zA (i:=0) d6 rfl;have s1:=zA (i:=1) d6 rfl;have s2:=zA (i:=2) d6 rfl;have s3:=zA (i:=3) d6 rfl;have s4:=zA (i:=4) d6 rfl;have sl:=lt_of_block d6;have u2:=zA (i:=0) b4.h3 rfl;have x9:=lt_of_block b4.h3
       have l0:l.length=k:=by
        have h1:=congrArg List.length HK.out.2;rw[Nr,Oc] at h1;omega
       have j0:wr.ownsRow f1 49 5 (.slice ga k gc) k (l.flatMap zz):=by
        have h1:=b4.rows.own (zd (.slice ga k gc) l) (Qf [] (Qf bt4.rows (.head _)));unfold zd at h1;simp only at h1;rw[l0] at h1;exact h1
       have u1:=b4.sz;have d7:=Ja (Jb b4 (Jb j0 (Jb l0 (Jb l3 l2))));obtain⟨ik,g6,e6,e5,e4⟩:=info_parts Try.info_irblock;have i7:yM (wr.alloc (U #[.slice g2 bt4.params.length xc0,.slice f9 bt4.ops.length xc1,A bt4.kind,A bt4.a,.slice f8 bt4.tos.length xc2] 49)) 5 (N wr.heap.size 1 1) 1 [.slice g2 bt4.params.length xc0,.slice f9 bt4.ops.length xc1,A bt4.kind,A bt4.a,.slice f8 bt4.tos.length xc2]:=yM.cells (zI rfl) rfl (by simp[Value.oneCell']);have t2:=Ja i7;clear b4 j0 l0 l3 l2 d6 r0 r1 m0 m2 f2 e8 k5 k4 k3 i1 m3 hj HJ c3 b0 a7 b6 g5 f0 i7;go_wp2_with (at_builtin;go_must (refine zK _ rfl (.tmp 112) (.tmp 114) 35 rfl f1 49 ik (.agg #[O,O,A 0,A 0,O]) 5 88 Try.underlying35 g6 e6 e5 e4 rfl Zd (.slice ga k gc) k (l.flatMap zz) rfl (d7.out.2.1.alloc _) _ 1 [.slice g2 bt4.params.length xc0,.slice f9 bt4.ops.length xc1,A bt4.kind,A bt4.a,.slice f8 bt4.tos.length xc2] rfl t2.out (by unfold maxLen;omega) Zo Zt ?_;intro v11 w11 m h a4;obtain⟨e1,d9,rfl⟩:=zG m;have d8:=zL h (zB d7.out.1.h3) (zC d7.out.2.1 d7.out.1.h3 (.inr Zd));have w8:=zA (i:=0) d8 rfl;have w7:T w11 g3 0:=zE d8;have w6:=lt_of_block d8;have a3:=Ja (Jb m (Jb h a4));clear m h a4 d8))
       go_roundw
       case rel=>
        have r4:=d7.out.1.close ((Below.refl _ _).alloc (Je _) _) a3.out.2.1 (by rw[d7.out.2.2.1,d7.out.2.2.2.2];exact a3.out.1) (fun x e=>a3.out.2.2.elim (fun e2=> .inl (e2.symm.trans e)) (fun e2=> .inr (by have e3:=e2.symm.trans e;simp at e3;omega)));refine⟨k+1,l++ [bt4],e1,d9,n0,by go_num,Ja ⟨r4,?_⟩⟩;rw[Js,HK.out.2,Nh,HB.out.1]
        show _++ [bt4.blk]=_
        rw[d7.out.2.2.2.1];rfl
       case measure=>simp[intOf];omega
  ·obtain rfl:k=blocks.length:=by omega
   have o0:¬(blocks.length:Int)<(blocks.length:Int):=Zo;have d0:=zA (i:=0) HK.out.1.h3 rfl;have v6:=lt_of_block HK.out.1.h3;have e0:=zA (i:=0) HK.out.1.h2 rfl;have u0:=lt_of_block HK.out.1.h2;have ef:T wr r2 0:=zE HK.out.1.h2;go_wp2;have m1:=zD (i:=0) HK.out.1.h2 (.slice ga blocks.length gc);have x0:=zA (i:=0) m1 rfl;have u6:=lt_of_block m1;have n1:l.map BT.blk=blocks:=by rw[HK.out.2,Nl]
   have h9:=HK.out.1.ges
   have m6:Rows (wr.setCell ⟨r2,0,none⟩ (.slice ga blocks.length gc)) f1 (zd (.slice ga blocks.length gc) l::l.flatMap BT.rows):=by
    refine HK.out.1.rows.keep fun q hq=>Below.heap_setCell _ _ _ _ (fun e=>?_)
    obtain⟨x,hx,q3⟩:=Nj.1 hq;have e':q=r2:=e;subst e';exact zC (HK.out.1.rows.own x hx) HK.out.1.h2 (.inr (lG x hx)) q3
   have g9:Below f1 w (wr.setCell ⟨r2,0,none⟩ (.slice ga blocks.length gc)):=HK.out.1.bel.setCell (by show f1<=r2;omega) _;have HE:=Ja (Jb n1 (Jb m6 g9));have d5:=t6.out;clear n1 m6 g9;refine bodyPost_ret (v:=.agg #[.slice ga blocks.length gc]) ?_ rfl ?_
   ·rw[zM rfl];go_simp
   ·refine⟨⟨l,.slice ga blocks.length gc⟩,ga,blocks.length,gc,rfl,rfl,HE.out.1,?_,?_⟩
    ·rw[d5];exact HE.out.2.1
    ·rw[d5];exact HE.out.2.2
def zW (t:PT):List Value:=[t.fv,t.av,A t.entry,A t.handler,t.dv,t.bv]
theorem vr:∀x∈t.rows,x.e≠29:=fun x c=>by
 unfold PT.rows at c;rcases Jq.1 c with rfl|c
 ·show 43≠29;decide
 rcases Jq.1 c with rfl|c
 ·show 3≠29;decide
 rcases Jq.1 c with rfl|c
 ·show 51≠29;decide
 rcases Jq.1 c with rfl|c
 ·show 9≠29;decide
 obtain⟨f,_,c⟩:=Qx.1 c;unfold FT.rows at c;rcases Jq.1 c with rfl|c
 ·show 49≠29;decide
 obtain⟨b,_,c⟩:=Qx.1 c;unfold BT.rows at c;rcases Jq.1 c with rfl|c
 ·show 3≠29;decide
 rcases Jq.1 c with rfl|c
 ·show 77≠29;decide
 rcases Jq.1 c with rfl|c
 ·show 75≠29;decide
 rcases Jl.1 c with c|c
 ·obtain⟨q,_,rfl⟩:=Nu.1 c
  show 3≠29;decide
 ·obtain⟨q,_,rfl⟩:=Nu.1 c
  show 3≠29;decide
structure OwMid (w:World) (p1 r2 q3:Nat) (V:PV) (p:IProg) (t:PT) (wx:World):Prop where
 h1:wx.heap[p1]? =some (.cells #[V.fv,V.av,.int .i64 p.entry,.int .i64 p.handler,V.dv,V.bv] 29 (0,0))
 h2:wx.heap[r2]? =some (.cells #[.slice none 0 0,.slice none 0 0,.int .i64 0,.int .i64 0,.slice none 0 0,.slice none 0 0] 29 (0,0))
 h3:wx.heap[q3]? =some (.cells (zW t).toArray 29 (0,0))
 bel:Below p1 w wx
 rows:Rows wx p1 t.rows
 ges:p1<r2/\r2<q3
section
variable {w:World} {p1 r2 q3:Nat} {V:PV} {p:IProg} {t:PT} {wx:World} (h:OwMid w p1 r2 q3 V p t wx)
include h
theorem OwMid.sz:p1<=wx.heap.size:=Qd (lt_of_block h.h1)
theorem OwMid.grow{ns:List Row}{t':PT}(hp:t.rows.Perm (r::rs))(c:F wx w1)(a1:Rows w1 wx.heap.size ns)(hg:w1.grownBy w' r.blk)
 (g:w'.ownsRow p1 r'.e r'.sz r'.v r'.n r'.cs) (a2:∀k,r'.blk=some k->r.blk=some k∨w1.heap.size<=k) (hq:(r'::(ns++rs)).Perm t'.rows) (hc:((zW t).toArray).setIfInBounds i u=(zW t').toArray):OwMid w p1 r2 q3 V p t' (w'.setCell ⟨q3,i,none⟩ u):=by
 have hr:=h.rows.perm hp;have ho:=hr.own r (.head _);have a0:r.e≠29:=vr r (hp.mem_iff.2 (.head _));have keep:∀ {b:Nat} {cs:Array Value},L wx b cs 29->L w' b cs 29:=fun hb=>zL hg (zH c hb (lt_of_block hb)) (zC ho hb (.inr a0))
 have y:wx.heap.size<=w'.heap.size:=Jn c.size hg.size;have l:Below p1 w w':=h.bel.trans ⟨hg.os.trans c.os,hg.tape.trans c.tape,hg.output.trans c.output,y,fun k hk=>(hg.block k (by have:=h.sz;have:=c.size;omega) (fun e=>by have:=(ho.lt k e.symm).1;omega)).trans (c.block k (by have:=h.sz;omega))⟩;have h1:Rows w1 p1 (r::(ns++rs)):=(hr.append a1 c h.sz).perm List.perm_middle;have j:Rows w' p1 (r'::(ns++rs)):=h1.grow (Below.refl _ _) hg g a2;have h3:=keep h.h3;have a3:=h.ges;refine⟨zR (keep h.h1) (by show p1≠q3;omega),zR (keep h.h2) (by show r2≠q3;omega),by rw[zD h3,hc],l.setCell (by show p1<=q3;omega) _,?_,h.ges⟩;have d:=j.perm hq;refine d.keep fun k hk=>Below.heap_setCell _ _ _ _ (fun e=>?_)
 obtain⟨x,o,m⟩:=Nj.1 hk;have e':k=q3:=e;subst e';exact zC (d.own x o) h3 (.inr (vr x o)) m
end
theorem Try.info_obj:(Try.prog.info? 51).map (fun i=>(i.zero,i.size,i.bytes))=some (some (.agg #[A 0,I 0,I 0]),3,16):=by kernel_rfl
theorem Try.info_str:(Try.prog.info? 9).map (fun i=>(i.zero,i.size,i.bytes))=some (some (.string ⟨#[]⟩),1,16):=by kernel_rfl
theorem oe{α:Type}{sz:Nat}{R:World->Nat->Nat->Nat->α->Prop}{f:α->List Value}(c:0<sz)(hf:∀a,(f a).length=sz)(h1:∀a,∀u∈f a,u.oneCell'=true){B:Nat}{v:Value}{xs:List α}(h:yN sz R w B v xs)
 (t:∀b q x,R w B b q x->∀j u,(f x)[j]? =some u->G w b (q+j) u):yM w sz v xs.length (xs.flatMap f):=by
 obtain⟨a,cap,rfl,h2,h3,l⟩:=h;refine⟨a,cap,rfl,wq f sz hf xs,fun u hu=>?_,?_⟩
 ·obtain⟨x,_,m⟩:=Qx.1 hu;exact h1 x u m
 ·cases xs with
  |nil=>
   cases a with
   |none=>exact .inl ⟨rfl,rfl⟩
   |some ad=>exact .inr ⟨ad,rfl,fun j u hu=>by simp at hu⟩
  |cons x xs=>
   obtain⟨b,o,rfl,_,_⟩:=l 0 x rfl;refine .inr ⟨_,rfl,fun j u hu=>?_⟩
   have i:j<(x::xs).length*sz:=by
    have:=(Jh.1 hu).1;rw[wq f sz hf] at this;exact this
   have hk:j/sz<(x::xs).length:=by
    rw[Nat.div_lt_iff_lt_mul c];exact i
   obtain⟨y,d⟩:∃y,(x::xs)[j/sz]? =some y:=⟨_,Jd hk⟩
   obtain⟨b',o',e,_,hr⟩:=l (j/sz) y d;cases e;have hm:=Qj j c;have r:j=(j/sz)*sz+j%sz:=by rw[Nat.mul_comm];exact(Nat.div_add_mod j sz).symm
   have g:(f y)[j%sz]? =some u:=by
    have k:=uB f sz hf (x::xs) (j/sz) y d (j%sz) hm;rw[<-r] at k;rw[<-k];exact hu
   have h6:=t _ _ _ hr (j%sz) u g
   have e2:(⟨b,o,none⟩:Addr).add j=⟨b,o+j,none⟩:=by
    unfold Addr.add
    split
    ·rename_i h0;rw[h0];rfl
    ·rfl
   rw[e2,show o+j=o+(j/sz)*sz+j%sz by omega];exact h6
theorem kQ:∀(w:World) (B b q:Nat) (x:IObj),ObjR w B b q x->∀(j:Nat) (u:Value),(xP x)[j]? =some u->G w b (q+j) u:=fun w B b q x h j u hj=>by
 obtain⟨c,h1,h2,_⟩:=h
 match j,hj with
 |0,hj=>cases hj;exact c
 |1,hj=>cases hj;exact h1
 |2,hj=>cases hj;exact h2
 |j+3,hj=>simp[xP] at hj
theorem strs_src{B:Nat}{v:Value}{xs:List ByteArray}(h:adu w B v xs):yM w 1 v xs.length (xs.map .string):=by
 have h1:=oe (f:=fun s:ByteArray=> [Value.string s]) (sz:=1) Zd (fun _=>rfl) (fun a u hu=>by rw[Jo] at hu;subst hu;rfl) h (fun b q x hx j u hj=>by
  match j,hj with
  |0,hj=>cases hj;exact hx.1
  |j+1,hj=>simp at hj)
 rw[<-Qh] at h1;exact h1
theorem vz{B:Nat}{cs:Array Value}(h:Rows w B t.rows)(h2:L w r2 cs 29):Rows (w.setCell ⟨r2,i,none⟩ u) B t.rows:=by
 refine h.keep fun k hk=>Below.heap_setCell _ _ _ _ (fun e=>?_)
 obtain⟨x,d,c⟩:=Nj.1 hk;have e':k=r2:=e;subst e';exact zC (h.own x d) h2 (.inr (vr x d)) c
def pt0 (en hn:Int):PT:=⟨[],O,[],O,[],O,[],O,en,hn⟩
theorem pt0_rows{B:Nat}{en c:Int}:Rows w B (pt0 en c).rows:=by
 show Rows w B [wY (O) [],zP (O) [],vK (O) [],v8 (O) []]
 refine(((Rows.nil.cons (Jv _ _ _ _) ?_).cons (Jv _ _ _ _) ?_).cons (Jv _ _ _ _) ?_).cons (Jv _ _ _ _) ?_
 all_goals (intro g e;simp[Row.blk,v8,vK,zP,wY,Value.ownBlock] at e)
theorem own_any{V:PV}{p:IProg}(hp:ProgIn w w.heap.size V p)(hs:SmallP p):
 Y 36 #[yH V p] w (fun e w'=>∃t:PT,e=.returned (yH t.V p)/\t.prog=p/\Rows w' w.heap.size t.rows/\F w w'):=by
 obtain⟨fa,fc,e9,m0,l8⟩:=hp.funcs.form;obtain⟨aa,ac,f3,n0,m6⟩:=hp.args.form;obtain⟨da,dc,f0,m3,m1⟩:=hp.data.form;obtain⟨ba,bc,f1,j0,m4⟩:=hp.banks.form;obtain⟨p1,d0⟩:∃p1,w.heap.size=p1:=⟨_,rfl⟩
 have l9:=hs.fn.1;have m7:=hs.ar;have m2:=hs.da;have f2:=hs.ba;have i3:ProgIn w w.heap.size ⟨.slice fa p.funcs.length fc,.slice aa p.args.length ac,.slice da p.data.length dc,.slice ba p.banks.length bc⟩ p:=⟨by show iS _ _ _ _;rw[<-e9];exact hp.funcs,by show zY _ _ _ _;rw[<-f3];exact hp.args,by show kq _ _ _ _;rw[<-f0];exact hp.data,by show adu _ _ _ _;rw[<-f1];exact hp.banks,hp.ent,hp.hnd⟩
 have HP:=Ja (Jb i3 (Jb hs (Jb d0 (Jb e9 (Jb f3 (Jb f0 f1))))));unfold yH;rw[e9,f3,f0,f1];clear hp i3 hs e9 f3 f0 f1;have j2:F w (((w.alloc (U (R p fa fc aa ac da dc ba bc) 29)).alloc (U #[O,O,A 0,A 0,O,O] 29)).alloc (U #[O,O,A p.entry,A p.handler,O,O] 29)):=(((Below.refl _ _).alloc (Je _) _).alloc Zs _).alloc Zt _;have f4:=zB (o:=U #[O,O,A p.entry,A p.handler,O,O] 29) (zB (o:=U #[O,O,A 0,A 0,O,O] 29) (zI (W:=w) (o:=U (R p fa fc aa ac da dc ba bc) 29) rfl));have e1:=zB (o:=U #[O,O,A p.entry,A p.handler,O,O] 29) (zI (W:=w.alloc (U (R p fa fc aa ac da dc ba bc) 29)) (o:=U #[O,O,A 0,A 0,O,O] 29) rfl);have e0:=zI (W:=(w.alloc (U (R p fa fc aa ac da dc ba bc) 29)).alloc (U #[O,O,A 0,A 0,O,O] 29)) (o:=U #[O,O,A p.entry,A p.handler,O,O] 29) rfl;have i1:(w.alloc (U (R p fa fc aa ac da dc ba bc) 29)).heap.size=w.heap.size+1:=by simp
 have i0:((w.alloc (U (R p fa fc aa ac da dc ba bc) 29)).alloc (U #[O,O,A 0,A 0,O,O] 29)).heap.size=w.heap.size+1+1:=by simp
 rw[i1] at e1;rw[i0] at e0;clear i1 i0;go_enter Try.func36,Try.ntmps36;go_upto_region 2 with fail;generalize f9:((w.alloc (U (R p fa fc aa ac da dc ba bc) 29)).alloc (U #[O,O,A 0,A 0,O,O] 29)).alloc (U #[O,O,A p.entry,A p.handler,O,O] 29)=W1 at *;rw[d0] at f4 e1 e0;generalize k2:p1+1+1=q3 at *;generalize k1:p1+1=r2 at *;have f8:p1<r2/\r2<q3:=Zo;obtain⟨t0,f5⟩:∃t0,pt0 p.entry p.handler=t0:=⟨_,rfl⟩
 have c8:OwMid w p1 r2 q3 ⟨.slice fa p.funcs.length fc,.slice aa p.args.length ac,.slice da p.data.length dc,.slice ba p.banks.length bc⟩ p t0 W1:=⟨f4,e1,by rw[<-f5];exact e0,by rw[<-d0];exact j2,by rw[<-f5];exact pt0_rows,f8⟩
 have d6:=Ja f5;clear j2 f4 e1 e0 f9 k2 k1 f8;have c4:=HP.out.1;have a1:F w W1:=by rw[d0];exact c8.bel
 have b8:yM W1 1 (.slice aa p.args.length ac) (p.args.length) (p.args.map zN):=zY.src (c4.args.below zO a1);have qc:=zA (i:=1) c8.h3 rfl;have qs:G W1 q3 1 (O):=by rw[qc];rw[<-d6.out];rfl
 have ql:=lt_of_block c8.h3;have pc:=zA (i:=1) c8.h1 rfl;have pl:=lt_of_block c8.h1;have d1:=c8.sz;have g5:=Ja (Jb c8 b8);have b9:W1.ownsRow p1 3 1 (O) 0 []:=Jv _ _ _ _;obtain⟨ij,c2,a5,a4,a3⟩:=info_parts Try.info_int;clear c8 b8 c4 a1 qc;go_upto_region 3 with(at_builtin;go_must (refine zK _ rfl (.tmp 11) (.tmp 13) 22 rfl p1 3 ij (A 0) 1 8 Try.underlying22 c2 a5 a4 a3 rfl Zd (O) 0 [] rfl b9 (.slice aa p.args.length ac) (p.args.length) (p.args.map zN) rfl g5.out.2 (by unfold maxLen;omega) Zo Zo ?_;intro v9 w9 d g h;obtain⟨a0,y,rfl⟩:=zG d;have a2:=zL g g5.out.1.h3 (by simp[Value.ownBlock]);have d3:=zA (i:=1) a2 rfl;have d2:T w9 q3 1:=zE a2;have c9:=lt_of_block a2;have l:=Ja (Jb d (Jb g h));clear d g h a2))
 have d:=l.out.1;have h:=l.out.2.2;rw[Ng,Op] at d;rw[Ng] at h;obtain⟨t1,e6⟩:∃t1:PT,{t0 with args:=p.args,av:=.slice a0 (p.args.length) y }=t1:=⟨_,rfl⟩
 have c7:OwMid w p1 r2 q3 ⟨.slice fa p.funcs.length fc,.slice aa p.args.length ac,.slice da p.data.length dc,.slice ba p.banks.length bc⟩ p t1 (w9.setCell ⟨q3,1,none⟩ (.slice a0 (p.args.length) y)):=by
  rw[<-e6];refine g5.out.1.grow (r:=zP t0.av t0.args) (r':=zP (.slice a0 (p.args.length) y) (p.args)) (ns:=[]) (rs:=wY t0.fv t0.funcs::vK t0.dv t0.data::v8 t0.bv t0.banks::t0.funcs.flatMap FT.rows) ?_ (Below.refl _ _) Rows.nil ?_ d (fun x e=>?_) ?_ rfl
  ·classical
   unfold PT.rows;refine Jp.2 fun r=>?_
   simp only[Nb,Nf,Op];omega
  ·rw[show(zP t0.av t0.args).blk=none by rw[<-d6.out];rfl];exact l.out.2.1
  ·rcases h with e2|e2
   ·have e3:=e2.symm.trans e;simp[Value.ownBlock] at e3
   ·right;have e3:=e2.symm.trans e;simp at e3;omega
  ·classical
   unfold PT.rows;refine Jp.2 fun r=>?_
   simp only[Nb,Nf,Op];omega
 generalize f9:w9.setCell ⟨q3,1,none⟩ (.slice a0 (p.args.length) y)=V1 at *;rw[<-d6.out] at e6;have g2:=Ja e6;clear l d h f9 d3 d2 c9 qs ql pc pl b9 d1 e6 c2 a5 a4 a3 ij;have c4:=HP.out.1;have a1:F w V1:=by rw[d0];exact c7.bel
 have b8:yM V1 3 (.slice da p.data.length dc) (p.data.length) (p.data.flatMap xP):=oe (f:=xP) Zd sk (by simp[xP,Value.oneCell']) (c4.data.below tZ a1) (fun b q x hx=>kQ _ _ b q x hx);have qc:=zA (i:=4) c7.h3 rfl;have qs:G V1 q3 4 (O):=by rw[qc];rw[<-g2.out];rfl
 have ql:=lt_of_block c7.h3;have pc:=zA (i:=4) c7.h1 rfl;have pl:=lt_of_block c7.h1;have d1:=c7.sz;have g4:=Ja (Jb c7 b8);have b9:V1.ownsRow p1 51 3 (O) 0 []:=Jv _ _ _ _;obtain⟨ij,c2,a5,a4,a3⟩:=info_parts Try.info_obj;clear c7 b8 c4 a1 qc;go_upto_region 4 with(at_builtin;go_must (refine zK _ rfl (.tmp 17) (.tmp 19) 26 rfl p1 51 ij (.agg #[A 0,I 0,I 0]) 3 16 Try.underlying26 c2 a5 a4 a3 rfl Zd (O) 0 [] rfl b9 (.slice da p.data.length dc) (p.data.length) (p.data.flatMap xP) rfl g4.out.2 (by unfold maxLen;omega) Zo Zo ?_;intro v9 w9 d g h;obtain⟨a7,a6,rfl⟩:=zG d;have a2:=zL g g4.out.1.h3 (by simp[Value.ownBlock]);have d3:=zA (i:=4) a2 rfl;have d2:T w9 q3 4:=zE a2;have c9:=lt_of_block a2;have l:=Ja (Jb d (Jb g h));clear d g h a2))
 have d:=l.out.1;have h:=l.out.2.2;rw[Ng,Op] at d;rw[Ng] at h;obtain⟨t2,e5⟩:∃t2:PT,{t1 with data:=p.data,dv:=.slice a7 (p.data.length) a6 }=t2:=⟨_,rfl⟩
 have c5:OwMid w p1 r2 q3 ⟨.slice fa p.funcs.length fc,.slice aa p.args.length ac,.slice da p.data.length dc,.slice ba p.banks.length bc⟩ p t2 (w9.setCell ⟨q3,4,none⟩ (.slice a7 (p.data.length) a6)):=by
  rw[<-e5];refine g4.out.1.grow (r:=vK t1.dv t1.data) (r':=vK (.slice a7 (p.data.length) a6) (p.data)) (ns:=[]) (rs:=wY t1.fv t1.funcs::zP t1.av t1.args::v8 t1.bv t1.banks::t1.funcs.flatMap FT.rows) ?_ (Below.refl _ _) Rows.nil ?_ d (fun x e=>?_) ?_ rfl
  ·classical
   unfold PT.rows;refine Jp.2 fun r=>?_
   simp only[Nb,Nf,Op];omega
  ·rw[show(vK t1.dv t1.data).blk=none by rw[<-g2.out];rfl];exact l.out.2.1
  ·rcases h with e2|e2
   ·have e3:=e2.symm.trans e;simp[Value.ownBlock] at e3
   ·right;have e3:=e2.symm.trans e;simp at e3;omega
  ·classical
   unfold PT.rows;refine Jp.2 fun r=>?_
   simp only[Nb,Nf,Op];omega
 generalize k5:w9.setCell ⟨q3,4,none⟩ (.slice a7 (p.data.length) a6)=V2 at *;rw[<-g2.out] at e5;have g1:=Ja e5;clear l d h k5 d3 d2 c9 qs ql pc pl b9 d1 e5 c2 a5 a4 a3 ij;have c4:=HP.out.1;have a1:F w V2:=by rw[d0];exact c5.bel
 have b8:yM V2 1 (.slice ba p.banks.length bc) (p.banks.length) (p.banks.map .string):=strs_src (c4.banks.below tN a1);have qc:=zA (i:=5) c5.h3 rfl;have qs:G V2 q3 5 (O):=by rw[qc];rw[<-g1.out];rfl
 have ql:=lt_of_block c5.h3;have pc:=zA (i:=5) c5.h1 rfl;have pl:=lt_of_block c5.h1;have d1:=c5.sz;have g3:=Ja (Jb c5 b8);have b9:V2.ownsRow p1 9 1 (O) 0 []:=Jv _ _ _ _;obtain⟨ij,c2,a5,a4,a3⟩:=info_parts Try.info_str;clear c5 b8 c4 a1 qc;go_upto_region 5 with(at_builtin;go_must (refine zK _ rfl (.tmp 23) (.tmp 25) 27 rfl p1 9 ij (.string ⟨#[]⟩) 1 16 Try.underlying27 c2 a5 a4 a3 rfl Zd (O) 0 [] rfl b9 (.slice ba p.banks.length bc) (p.banks.length) (p.banks.map .string) rfl g3.out.2 (by unfold maxLen;omega) Zo Zo ?_;intro v9 w9 d g h;obtain⟨b7,rc3,rfl⟩:=zG d;have a2:=zL g g3.out.1.h3 (by simp[Value.ownBlock]);have d3:=zA (i:=5) a2 rfl;have d2:T w9 q3 5:=zE a2;have c9:=lt_of_block a2;have l:=Ja (Jb d (Jb g h));clear d g h a2))
 have d:=l.out.1;have h:=l.out.2.2;rw[Ng,Op] at d;rw[Ng] at h;obtain⟨t3,e4⟩:∃t3:PT,{t2 with banks:=p.banks,bv:=.slice b7 (p.banks.length) rc3 }=t3:=⟨_,rfl⟩
 have i5:OwMid w p1 r2 q3 ⟨.slice fa p.funcs.length fc,.slice aa p.args.length ac,.slice da p.data.length dc,.slice ba p.banks.length bc⟩ p t3 (w9.setCell ⟨q3,5,none⟩ (.slice b7 (p.banks.length) rc3)):=by
  rw[<-e4];refine g3.out.1.grow (r:=v8 t2.bv t2.banks) (r':=v8 (.slice b7 (p.banks.length) rc3) (p.banks)) (ns:=[]) (rs:=wY t2.fv t2.funcs::zP t2.av t2.args::vK t2.dv t2.data::t2.funcs.flatMap FT.rows) ?_ (Below.refl _ _) Rows.nil ?_ d (fun x e=>?_) ?_ rfl
  ·classical
   unfold PT.rows;refine Jp.2 fun r=>?_
   simp only[Nb,Nf,Op];omega
  ·rw[show(v8 t2.bv t2.banks).blk=none by rw[<-g1.out];rfl];exact l.out.2.1
  ·rcases h with e2|e2
   ·have e3:=e2.symm.trans e;simp[Value.ownBlock] at e3
   ·right;have e3:=e2.symm.trans e;simp at e3;omega
  ·classical
   unfold PT.rows;refine Jp.2 fun r=>?_
   simp only[Nb,Nf,Op];omega
 generalize k4:w9.setCell ⟨q3,5,none⟩ (.slice b7 (p.banks.length) rc3)=V3 at *;rw[<-g1.out] at e4;have k6:=Ja e4;clear l d h k4 d3 d2 c9 qs ql pc pl b9 d1 e4 c2 a5 a4 a3 ij
 have d7:t3.funcs=[]/\t3.fv=O/\t3.args=p.args/\t3.data=p.data/\t3.banks=p.banks/\t3.entry=p.entry/\t3.handler=p.handler/\t3.av=.slice a0 p.args.length y/\t3.dv=.slice a7 p.data.length a6/\t3.bv=.slice b7 p.banks.length rc3:=by
  rw[<-k6.out];exact⟨rfl,rfl,rfl,rfl,rfl,rfl,rfl,rfl,rfl,rfl⟩
 have d6:=Ja (show OwMid w p1 r2 q3 ⟨.slice fa p.funcs.length fc,.slice aa p.args.length ac,.slice da p.data.length dc,.slice ba p.banks.length bc⟩ p {t3 with funcs:=[],fv:=O } V3/\([]:List FT).map FT.fn=p.funcs.take 0 from⟨by
  have e:({t3 with funcs:=[],fv:=O }:PT)=t3:=by
   obtain⟨x1,x2,x3,x4,x5,x6,x7,x8,x9,l0⟩:=t3;obtain⟨h1,h2,_⟩:=d7;simp only at h1 h2;rw[h1,h2]
  rw[e]
  exact i5,rfl⟩)
 have m:=Ja d7;clear i5 d7;go_wp2
 go_loopw [4] (fun kv wx=>∃(k:Nat) (fl:List FT) (ga:Option Addr) (gc:Nat),k<=p.funcs.length/\kv=A k/\Hid (OwMid w p1 r2 q3 ⟨.slice fa p.funcs.length fc,.slice aa p.args.length ac,.slice da p.data.length dc,.slice ba p.banks.length bc⟩ p {t3 with funcs:=fl,fv:=.slice ga k gc } wx/\fl.map FT.fn=p.funcs.take k)) (fun kv _=>p.funcs.length-(intOf kv).toNat)
 case atStart=>exact⟨0,[],none,0,Jt _,rfl,d6⟩
 case round=>
  obtain⟨k,fl,ga,gc,hk,rfl,j⟩:=hrel;have c0:G wr p1 0 (.slice fa p.funcs.length fc):=zA (i:=0) j.out.1.h1 rfl;have cl:=lt_of_block j.out.1.h1
  by_cases f7:k<p.funcs.length
  ·have j5:(k:Int)<(p.funcs.length:Int):=Zo;obtain⟨f,hf⟩:∃f,p.funcs[k]? =some f:=⟨_,Jd f7⟩
   have a1:F w wr:=by rw[HP.out.2.2.1];exact j.out.1.bel
   have i7:=HP.out.1.funcs.below vR a1;obtain⟨bb,bo,k3,m5,bv,j0,f2⟩:=i7.get hf;rw[Nk] at j0;obtain⟨xa,xc,rfl,_,_⟩:=f2.form;subst k3;have f6:=HP.out.2.1.fn.2 f (Ji hf);have j3:=a1.size;have k9:bb<wr.heap.size:=Zo;have i4:∀W,F wr W->Y 57 #[.agg #[.slice xa f.length xc]] W (fun e w'=>∃(ft:FT) (a:Option Addr) (n c:Nat),ft.bv=.slice a n c/\e=.returned (.agg #[.slice a n c])/\ft.fn=f/\Rows w' W.heap.size ft.rows/\F W w'):=fun W hW=>mA (f2.below yT (hW.mono j3)) (Jn j3 hW.size) f6.1 f6.2
   have q0:=zA (i:=0) j.out.1.h3 rfl;have qf:T wr q3 0:=zE j.out.1.h3;have ql:=lt_of_block j.out.1.h3;have j4:=Ja (Jb i4 hf);clear i4 hf f6 i7 f2 a1;go_upto_region 8 with fail
   have d8:fl.length=k:=by
    have h1:=congrArg List.length j.out.2;rw[Nr,Oc] at h1;omega
   have e7:wr.ownsRow p1 43 1 (.slice ga k gc) k (fl.map (·.bv)):=by
    have h1:=j.out.1.rows.own (wY (.slice ga k gc) fl) (.head _);unfold wY at h1;simp only at h1;rw[d8] at h1;exact h1
   have HO:=Ja (Jb e7 d8);have d1:=j.out.1.sz;obtain⟨ij,c2,a5,a4,a3⟩:=info_parts Try.info_irfunc;clear e7 d8
   go_region_law (first|(refine yG (by rfl) (.tmp 36) (.tmp 43) _ (by rfl) p1 43 ij (.agg #[O]) 1 24 Try.underlying25 c2 a5 a4 a3 rfl Zo (.slice ga k gc) k (fl.map (·.bv)) (by rfl) (c3.out.2.2.alloc _) (N w5.heap.size 1 1) 1 [.slice h4 g9 h0] (by rfl) (yM.one (zI rfl) rfl) (by unfold maxLen;omega) Zo Zt ?_;intro aa9 g0 w9 d g h;have d9:=zL g (zB c3.out.2.1) (zC c3.out.2.2 c3.out.2.1 (.inr Zd));have l5:=zA (i:=0) d9 rfl;have l3:T w9 q3 0:=zE d9;have l1:=lt_of_block d9;have l:=Ja (Jb d (Jb g h));clear d g h d9)|(go_simp;refine(j4.out.1 _ (Below.refl _ _).drew).mono ?_;rintro e w5 ⟨ft,h4,g9,h0,i6,rfl,g6⟩;have d5:F wr w5:=(Below.refl _ _).drew.trans g6.2.2;have d4:=zH d5 j.out.1.h3 (lt_of_block j.out.1.h3);have e8:=p7 HO.out.1 d5 (Je _);have l6:=zA (i:=0) d4 rfl;have l4:T w5 q3 0:=zE d4;have l2:=lt_of_block d4;have k7:=d5.size;have c3:=Ja (Jb (Jb i6 (Jb g6 d5)) (Jb d4 e8));clear i6 g6 d5 d4 e8;dsimp only))
   all_goals go_wp2_with fail
   all_goals (
    refine⟨⟨k+1,fl++ [ft],aa9,g0,f7,by go_num,Ja ⟨?_,?_⟩⟩,by simp[intOf];omega⟩
    ·have j1:=(Below.refl w5.heap.size w5).alloc (Je _) (U #[.slice h4 g9 h0] 43);refine j.out.1.grow (r:=wY (.slice ga k gc) fl) (r':=wY (.slice aa9 (k+1) g0) (fl++ [ft])) (ns:=ft.rows) (rs:=zP t3.av t3.args::vK t3.dv t3.data::v8 t3.bv t3.banks::fl.flatMap FT.rows) (Uq _) (c3.out.1.2.2.trans (j1.mono c3.out.1.2.2.size)) (c3.out.1.2.1.2.1.below j1) l.out.2.1 ?_ (fun x e=>?_) ?_ rfl
     ·show w9.ownsRow p1 43 1 _ (fl++ [ft]).length ((fl++ [ft]).map (·.bv))
      rw[Jk,Ju,HO.out.2,Js]
      show w9.ownsRow p1 43 1 _ (k+1) (fl.map (·.bv)++ [ft.bv])
      rw[c3.out.1.1];exact l.out.1
     ·rcases l.out.2.2 with e2|e2
      ·exact .inl (e2.symm.trans e)
      ·right;have e3:=e2.symm.trans e;simp at e3;simp;omega
     ·classical
      unfold PT.rows;refine Jp.2 fun r=>?_
      simp only[Nb,Nf,Nx,Qa,List.flatMap_nil,Ua];omega
    ·rw[Js,j.out.2,Nh,j4.out.2]
     show _++ [ft.fn]=_
     rw[c3.out.1.2.1.1]
     rfl)
  ·obtain rfl:k=p.funcs.length:=by omega
   have j5:¬(p.funcs.length:Int)<(p.funcs.length:Int):=Zo;have q0:G wr q3 0 (.slice ga p.funcs.length gc):=zA (i:=0) j.out.1.h3 rfl;have q1:G wr q3 1 (.slice a0 p.args.length y):=(zA (i:=1) j.out.1.h3 rfl).trans (by rw[<-m.out.2.2.2.2.2.2.2.1];rfl);have q2:G wr q3 2 (A p.entry):=(zA (i:=2) j.out.1.h3 rfl).trans (by rw[<-m.out.2.2.2.2.2.1];rfl);have k0:G wr q3 3 (A p.handler):=(zA (i:=3) j.out.1.h3 rfl).trans (by rw[<-m.out.2.2.2.2.2.2.1];rfl);have q4:G wr q3 4 (.slice a7 p.data.length a6):=(zA (i:=4) j.out.1.h3 rfl).trans (by rw[<-m.out.2.2.2.2.2.2.2.2.1];rfl);have q5:G wr q3 5 (.slice b7 p.banks.length rc3):=(zA (i:=5) j.out.1.h3 rfl).trans (by rw[<-m.out.2.2.2.2.2.2.2.2.2];rfl);have ql:=lt_of_block j.out.1.h3;have v0:=zA (i:=0) j.out.1.h2 rfl;have v1:=zA (i:=1) j.out.1.h2 rfl;have v2:=zA (i:=2) j.out.1.h2 rfl;have v3:=zA (i:=3) j.out.1.h2 rfl;have v4:=zA (i:=4) j.out.1.h2 rfl;have v5:=zA (i:=5) j.out.1.h2 rfl;have vf:∀i,T wr r2 i:=fun i=>zE j.out.1.h2
   have vl:=lt_of_block j.out.1.h2;clear f7;go_wp2;have b0:=j.out.1.h2;have b1:=zD (i:=0) b0 (.slice ga p.funcs.length gc);have b2:=zD (i:=1) b1 (.slice a0 p.args.length y);have b3:=zD (i:=2) b2 (A p.entry);have b4:=zD (i:=3) b3 (A p.handler);have b5:=zD (i:=4) b4 (.slice a7 p.data.length a6);have b6:=zD (i:=5) b5 (.slice b7 p.banks.length rc3);have i2:=vz (i:=5) (u:=.slice b7 p.banks.length rc3) (vz (i:=4) (u:=.slice a7 p.data.length a6) (vz (i:=3) (u:=A p.handler) (vz (i:=2) (u:=A p.entry) (vz (i:=1) (u:=.slice a0 p.args.length y) (vz (i:=0) (u:=.slice ga p.funcs.length gc) j.out.1.rows b0) b1) b2) b3) b4) b5;have hg:=j.out.1.ges;have h9:Below p1 w (wr.setCell ⟨r2,0,none⟩ (.slice ga p.funcs.length gc)):=j.out.1.bel.setCell (by show p1<=r2;omega) _;have h8:Below p1 w ((wr.setCell ⟨r2,0,none⟩ (.slice ga p.funcs.length gc)).setCell ⟨r2,1,none⟩ (.slice a0 p.args.length y)):=h9.setCell (by show p1<=r2;omega) _;have h7:Below p1 w (((wr.setCell ⟨r2,0,none⟩ (.slice ga p.funcs.length gc)).setCell ⟨r2,1,none⟩ (.slice a0 p.args.length y)).setCell ⟨r2,2,none⟩ (A p.entry)):=h8.setCell (by show p1<=r2;omega) _;have h6:Below p1 w ((((wr.setCell ⟨r2,0,none⟩ (.slice ga p.funcs.length gc)).setCell ⟨r2,1,none⟩ (.slice a0 p.args.length y)).setCell ⟨r2,2,none⟩ (A p.entry)).setCell ⟨r2,3,none⟩ (A p.handler)):=h7.setCell (by show p1<=r2;omega) _;have h5:Below p1 w (((((wr.setCell ⟨r2,0,none⟩ (.slice ga p.funcs.length gc)).setCell ⟨r2,1,none⟩ (.slice a0 p.args.length y)).setCell ⟨r2,2,none⟩ (A p.entry)).setCell ⟨r2,3,none⟩ (A p.handler)).setCell ⟨r2,4,none⟩ (.slice a7 p.data.length a6)):=h6.setCell (by show p1<=r2;omega) _;have a1:Below p1 w ((((((wr.setCell ⟨r2,0,none⟩ (.slice ga p.funcs.length gc)).setCell ⟨r2,1,none⟩ (.slice a0 p.args.length y)).setCell ⟨r2,2,none⟩ (A p.entry)).setCell ⟨r2,3,none⟩ (A p.handler)).setCell ⟨r2,4,none⟩ (.slice a7 p.data.length a6)).setCell ⟨r2,5,none⟩ (.slice b7 p.banks.length rc3)):=h5.setCell (by show p1<=r2;omega) _;clear h9 h8 h7 h6 h5;have HE:=Ja (Jb i2 a1);generalize (((((wr.setCell ⟨r2,0,none⟩ (.slice ga p.funcs.length gc)).setCell ⟨r2,1,none⟩ (.slice a0 p.args.length y)).setCell ⟨r2,2,none⟩ (A p.entry)).setCell ⟨r2,3,none⟩ (A p.handler)).setCell ⟨r2,4,none⟩ (.slice a7 p.data.length a6)).setCell ⟨r2,5,none⟩ (.slice b7 p.banks.length rc3)=WF at *;have x0:=zA (i:=0) b6 rfl;have x1:=zA (i:=1) b6 rfl;have x2:=zA (i:=2) b6 rfl;have x3:=zA (i:=3) b6 rfl;have x4:=zA (i:=4) b6 rfl;have x5:=zA (i:=5) b6 rfl;have l7:=lt_of_block b6;clear b0 b1 b2 b3 b4 b5 b6 i2 a1 q0 q1 q2 k0 q4 q5 v0 v1 v2 v3 v4 v5 vf;refine bodyPost_ret (v:=.agg (R p ga gc a0 y a7 a6 b7 rc3)) ?_ rfl ?_
   ·rw[zM rfl];go_simp
   ·refine⟨{t3 with funcs:=fl,fv:=.slice ga p.funcs.length gc },?_,?_,?_,?_⟩
    ·unfold PT.V;simp only;rw[m.out.2.2.2.2.2.2.2.1,m.out.2.2.2.2.2.2.2.2.1,m.out.2.2.2.2.2.2.2.2.2]
    ·unfold PT.prog;simp only;rw[j.out.2,Nl,m.out.2.2.1,m.out.2.2.2.1,m.out.2.2.2.2.1,m.out.2.2.2.2.2.1,m.out.2.2.2.2.2.2.1]
    ·first|exact HE.out.1|(rw[HP.out.2.2.1];exact HE.out.1)
    ·first|exact HE.out.2|(rw[HP.out.2.2.1];exact HE.out.2)
theorem uJ{V:PV}{p:IProg}(hp:ProgIn w w.heap.size V p)(hs:SmallP p):
 Y 36 #[yH V p] w (fun e w'=>∃(t:PT) (fa:Option Addr) (fc:Nat) (aa:Option Addr) (ac:Nat) (da:Option Addr) (dc:Nat) (ba:Option Addr) (bc:Nat),e=.returned (.agg (R p fa fc aa ac da dc ba bc))/\
  (t.fv=.slice fa p.funcs.length fc/\t.av=.slice aa p.args.length ac/\t.dv=.slice da p.data.length dc/\t.bv=.slice ba p.banks.length bc)/\t.prog=p/\Rows w' w.heap.size t.rows/\F w w'):=by
 refine(own_any hp hs).mono ?_;rintro e w' ⟨t,rfl,c,hr,hb⟩;have e1:t.funcs.length=p.funcs.length:=by rw[<-c];unfold PT.prog;simp
 have e2:t.args.length=p.args.length:=by rw[<-c];rfl
 have e3:t.data.length=p.data.length:=by rw[<-c];rfl
 have e4:t.banks.length=p.banks.length:=by rw[<-c];rfl
 obtain⟨fa,fc,h1⟩:=zG (hr.own (wY t.fv t.funcs) (.head _));obtain⟨aa,ac,h2⟩:=zG (hr.own (zP t.av t.args) (.tail _ (.head _)));obtain⟨da,dc,h3⟩:=zG (hr.own (vK t.dv t.data) (.tail _ (.tail _ (.head _))));obtain⟨ba,bc,j⟩:=zG (hr.own (v8 t.bv t.banks) (.tail _ (.tail _ (.tail _ (.head _)))));have i:t.fv=.slice fa p.funcs.length fc:=by rw[<-e1];exact h1
 have h:t.av=.slice aa p.args.length ac:=by rw[<-e2];exact h2
 have g:t.dv=.slice da p.data.length dc:=by rw[<-e3];exact h3
 have d:t.bv=.slice ba p.banks.length bc:=by rw[<-e4];exact j
 refine⟨t,fa,fc,aa,ac,da,dc,ba,bc,?_,⟨i,h,g,d⟩,c,hr,hb⟩;unfold yH PT.V;simp only;rw[i,h,g,d]
end Go.Proofs.Ytojclalkfhoooaa
