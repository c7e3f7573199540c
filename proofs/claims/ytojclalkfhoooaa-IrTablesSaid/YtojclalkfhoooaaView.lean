/- Part of a proof. -/
import Derived.Test.YtojclalkfhoooaaOrd2
import Derived.Test.YtojclalkfhoooaaGMap
import Derived.Test.YtojclalkfhoooaaGApp
set_option maxRecDepth 8000
set_option linter.unusedSimpArgs false
set_option linter.unusedVariables false
set_option maxHeartbeats 1600000
namespace Go.Proofs.Ytojclalkfhoooaa
open Go.RowKit
theorem mD {P:List (List Nat)}{n s m:Nat}(h:∀r∈P,r.length<=m):∀r∈xS n P s,r.length<=m+1:=by
 intro r hr
 rcases List.mem_or_eq_of_mem_set hr with hr|rfl
 ·have:=h r hr;omega
 ·simp only[List.length_append,List.length_cons,List.length_nil]
  by_cases hs:s<P.length
  ·have:=h (P.getD s []) (by rw[List.getD_eq_getElem?_getD,List.getElem?_eq_getElem hs];exact List.getElem_mem hs)
   omega
  ·rw[List.getD_eq_getElem?_getD,List.getElem?_eq_none (by omega)];simp
theorem oB (n:Nat):∀(l:List Nat) (P:List (List Nat)) (m:Nat),(∀r∈P,r.length<=m)->∀r∈l.foldl (xS n) P,r.length<=m+l.length
 | [],_,_,h=>h
 |s::l,P,m,h=>fun r hr=>by
  have:=oB n l _ (m+1) (mD h) r hr
  simp only[List.length_cons];omega
theorem rj (g:List (List Nat))(D:Nat)(hD:∀row∈g,row.length<=D):∀(l:List Nat) (P:List (List Nat)) (m:Nat),(∀r∈P,r.length<=m)->∀r∈l.foldl (yh g) P,r.length<=m+l.length*D
 | [],_,_,h=>by simpa using h
 |u::l,P,m,h=>fun r hr=>by
  have hd:(succ g u).length<=D:=by
   unfold succ
   rw[List.getD_eq_getElem?_getD]
   cases e:g[u]? with
   |none=>simp
   |some row=>exact hD row (List.mem_of_getElem? e)
  have:=rj g D hD l _ (m+D) (fun r hr=>by have:=oB u (succ g u) P m h r hr;omega) r hr
  simp only[List.length_cons,Nat.add_mul,Nat.one_mul];omega
theorem pred_len {g:List (List Nat)}{D:Nat}(hD:∀row∈g,row.length<=D)(ord row:List Nat)(k j n N:Nat)(hk:k<=N){s:Nat}{pr:List Nat}
 (h:((row.take j).foldl (xS n) ((ord.take k).foldl (yh g) (List.replicate N [])))[s]? =some pr):pr.length<=k*D+j:=by
 have h1:=oB n (row.take j) _ (0+(ord.take k).length*D) (rj g D hD (ord.take k) (List.replicate N []) 0 (by intro r hr;rw[(List.mem_replicate.1 hr).2];simp)) pr (List.mem_of_getElem? h)
 have h2:(ord.take k).length<=k:=List.length_take_le _ _
 have h3:(row.take j).length<=j:=List.length_take_le _ _
 have h4:=Nat.mul_le_mul_right D h2
 omega
structure ViewMem (w0 w:World) (B0 B bv bm bp n:Nat) (ov:Value) (ord:List Nat) (nm:Nat) (f:Int->Int) (preds:List (List Nat)):Prop where
 hv:w.heap[bv]? =some (.cells #[ov,.map (some bm),.slice (some ⟨bp,0,none⟩) n n] 188 (0,0))
 ho:w.ownsRow B0 3 1 ov ord.length (ord.map zj)
 ho2:∀g,ov.ownBlock=some g->g<B
 hm:ud w bm nm f
 hp:OwnRows zj 3 22 w B bp preds
 hl:preds.length=n
 hb:Below B0 w0 w
 lt:B0<=bv/\B0<=bm/\B0<=bp/\bv<B/\bm<B/\bp<B/\B<=w.heap.size
def oN (w:World)(C bv:Nat)(ord:List Nat)(f:Int->Int)(preds:List (List Nat)):Prop:=
 ∃ov bm pv nm,w.cell? ⟨bv,0,none⟩=some ov/\w.cell? ⟨bv,1,none⟩=some (.map (some bm))/\w.cell? ⟨bv,2,none⟩=some pv/\xp zj w C ov ord/\ud w bm nm f/\bm<C/\y7 zj w C pv preds/\bv<C
theorem oN.below {w w':World}{C bv:Nat}{ord:List Nat}{f:Int->Int}{preds:List (List Nat)}(h:oN w C bv ord f preds)(hb:Below C w w'):oN w' C bv ord f preds:=by
 obtain⟨ov,bm,pv,nm,c0,c1,c2,ho,hm,hm2,hp,hl⟩:=h
 exact⟨ov,bm,pv,nm,(hb.cell (p:=⟨bv,0,none⟩) hl).trans c0,(hb.cell (p:=⟨bv,1,none⟩) hl).trans c1,(hb.cell (p:=⟨bv,2,none⟩) hl).trans c2,ho.below hb,hm.same (hb.block bm hm2),hm2,hp.below hb,hl⟩
def RetView (w:World)(ord:List Nat)(f:Int->Int)(preds:List (List Nat))(e:Ending)(w':World):Prop:=
 ∃bv,e=.returned (.pointer (some ⟨bv,0,none⟩))/\w.heap.size<=bv/\oN w' w'.heap.size bv ord f preds/\Below w.heap.size w w'
theorem ViewMem.read {w0 w:World}{B0 B bv bm bp n:Nat}{ov:Value}{ord:List Nat}{nm:Nat}{f:Int->Int}{preds:List (List Nat)}(h:ViewMem w0 w B0 B bv bm bp n ov ord nm f preds):oN w w.heap.size bv ord f preds:=by
 refine⟨ov,bm,.slice (some ⟨bp,0,none⟩) n n,nm,zA h.hv (by simp),zA h.hv (by simp),zA h.hv (by simp),rY h.ho (Nat.le_refl _),h.hm,h.hm.lt,?_,lt_of_block h.hv⟩
 have:=h.hp.asRows (Nat.le_refl w.heap.size)
 rwa [h.hl] at this
theorem Try.info_ints:(Try.prog.info? 22).map (fun i=>(i.zero,i.size,i.bytes))=some (some (.slice none 0 0),1,24):=by kernel_rfl
theorem ViewMem.store {w0 w w':World}{B0 B bv bm bp n:Nat}{ov:Value}{ord:List Nat}{nm nm':Nat}{f f':Int->Int}{preds:List (List Nat)}(h:ViewMem w0 w B0 B bv bm bp n ov ord nm f preds)
 (hg:w.grownBy w' (some bm)) (hm:ud w' bm nm' f'):ViewMem w0 w' B0 B bv bm bp n ov ord nm' f' preds:=by
 obtain⟨hv,ho,ho2,hm0,hp,hl,hb,hlt⟩:=h
 obtain⟨c,hc⟩:=hp.blk
 refine⟨zL hg hv (by simpa using hm0.ne hv),ho.kept hg ?_,ho2,hm,hp.kept hg (by simpa using hm0.ne hc) (by intro k hk;cases hk;omega),hl,hb.grown hg (by have:=lt_of_block hv;have:=hm0.lt;omega) (by intro k hk;cases hk;omega),by have:=hg.size;omega⟩
 right
 intro e
 rcases ho.2 with⟨rfl,_⟩|⟨g,cap,cur,rfl,hg',hh,_⟩
 ·simp[Value.ownBlock] at e
 ·simp only[Value.ownBlock,Option.some.injEq] at e
  subst e
  exact hm0.ne hh rfl
theorem ViewMem.push {w0 w w2:World}{B0 B bv bm bp n s x g cap' H cap:Nat}{ov:Value}{ord:List Nat}{nm:Nat}{f:Int->Int}{preds:List (List Nat)}{row:List Nat}{a:Option Addr}{o:Obj}(h:ViewMem w0 w B0 B bv bm bp n ov ord nm f preds)
 (hs:preds[s]? =some row) (hc:w.cell? ⟨bp,s,none⟩=some (.slice a row.length cap)) (hg:(w.alloc o).grownBy w2 (Value.slice a row.length cap).ownBlock)
 (hown:w2.ownsRow B 3 1 (.slice (some ⟨g,0,none⟩) (row.length+1) cap') (row.length+1) (row.map zj++ [zj x]))
 (hat:(Value.slice a row.length cap).ownBlock=some g∨g=H) (hH:w.heap.size<=H):
 ViewMem w0 (w2.setCell ⟨bp,s,none⟩ (.slice (some ⟨g,0,none⟩) (row.length+1) cap')) B0 B bv bm bp n ov ord nm f (preds.set s (row++ [x])):=by
 obtain⟨hv,ho,ho2,hm0,hp,hl,hb,hlt⟩:=h
 obtain⟨c,hcb⟩:=hp.blk
 obtain⟨a',cap2,hc',hor,_⟩:=hp.get hs
 rw[hc] at hc'
 cases hc'
 have hrow:=zC hor hv (.inl (by omega))
 have hrowB:∀k,(Value.slice a row.length cap).ownBlock=some k->B<=k:=fun k hk=>(hor.lt k hk).1
 have hneb:bv≠bp:=by rintro rfl;rw[hv] at hcb;simp at hcb
 have hput:=hp.put (by decide) hs hc hg (row':=row++ [x]) (by simpa using hown) hat hH
 simp only[List.length_append,List.length_cons,List.length_nil,Nat.zero_add] at hput
 refine⟨zR (zL hg (zB hv) hrow) (by simpa using hneb),?_,ho2,?_,hput,by simp[hl],?_,by have:=hg.size;simp[World.setCell] at this ⊢;omega⟩
 ·refine ownsRow_setCell_other ((ho.alloc o).kept hg ?_) ?_ _
  ·cases hk:ov.ownBlock with
   |none=>exact .inl rfl
   |some k=>
    right
    intro e
    have:=ho2 k hk;have:=hrowB k e.symm;omega
  ·exact zC (b:=bp) ho hcb (.inr (by decide))
 ·refine hm0.same ?_
  rw[Below.heap_setCell _ _ _ _ (by simpa using hm0.ne hcb),hg.block bm (by have:=hm0.lt;simp;omega) (fun e=>by have:=hrowB bm e.symm;omega),Below.heap_alloc _ _ _ hm0.lt]
 ·have hvl:=lt_of_block hv
  exact((hb.alloc (by omega) o).grown hg (by simp;omega) (fun k hk=>by have:=hrowB k hk;omega)).setCell (show B0<=bp by omega) _
theorem uj {w w':World}{row:Option Nat}(h:w.drew.grownBy w' row):w.grownBy w' row:=⟨h.os,h.tape,h.output,h.size,h.block⟩
theorem uG {B:Nat}{w w':World}(h:Below B w w'):Below B w w'.drew:=h.drew
theorem lq {n:Nat}{W0 w':World}{v:Value}(hc:w'.cell? ⟨n,0,none⟩=some v)(h:Below (n+1) W0 w')(hl:n<W0.heap.size)(o:Obj):(w'.alloc o).cell? ⟨n,0,none⟩=some v/\Below (n+1) W0 (w'.alloc o):=by
 have:=h.size
 exact⟨by rw[World.cell?_of_block (w:=w') (Below.heap_alloc _ _ _ (by simp;omega))];exact hc,h.alloc (by omega) o⟩
theorem oY {n:Nat}{W0 w' w1:World}{v:Value}(hc:w'.cell? ⟨n,0,none⟩=some v)(h:Below (n+1) W0 w')(hl:n<W0.heap.size)(hb:Below w'.heap.size w' w1):w1.cell? ⟨n,0,none⟩=some v/\Below (n+1) W0 w1:=by
 have:=h.size
 exact⟨(hb.cell (p:=⟨n,0,none⟩) (show n<_ by omega)).trans hc,h.trans (hb.mono (by omega))⟩
theorem ww {n:Nat}{w W0 w':World}{o:Obj}(hn:n=w.heap.size)(hW:Hid (w.alloc o=W0))(h:Below (n+1) W0 w'):Below n w w':=by
 have e:=hW.out
 subst e
 subst hn
 exact((Below.refl _ _).alloc (Nat.le_refl _) _).trans (h.mono (by omega))
theorem o7 {B:Nat}{w W0 w':World}{o:Obj}(hB:B<=w.heap.size)(hW:Hid (w.alloc o=W0))(h:Below (w.heap.size+1) W0 w'):B<=w'.heap.size:=by
 have:=(ww rfl hW h).size;omega
theorem nP {B:Nat}{w W0 w':World}{o:Obj}{v:Value}{g:List (List Nat)}(hR:y7 zj w B v g)(hB:B<=w.heap.size)(hW:Hid (w.alloc o=W0))(h:Below (w.heap.size+1) W0 w'):y7 zj w' B v g:=
 hR.below ((ww rfl hW h).mono hB)
theorem lo {w W0 w1 X wy:World}{F F':List Nat}{ao:Option Addr}{co bv bm bp n:Nat}(hF:F.length=F'.length)(hov:w1.ownsRow X.heap.size 3 1 (.slice ao F.length co) F.length (F.map zj))(lg:w.heap.size<W0.heap.size)
 (hX:W0.heap.size<=X.heap.size) (hb:Below (w.heap.size+1) W0 wy) (hg:w1.grownBy wy none) (hbv:wy.heap.size=bv)
 (hm:wy.heap[bm]? =some (.map #[] 0)) (hp:wy.heap[bp]? =some (.cells (madeCells #[.slice none 0 0] n) 22 (0,0))) (lt:w.heap.size<bm/\w.heap.size<bp):
 ∃bv' bm' bp' ov,Value.pointer (some ⟨bv,0,none⟩)=.pointer (some ⟨bv',0,none⟩)/\Hid (ViewMem W0 (wy.alloc (.cells #[.slice ao F'.length co,.map (some bm),.slice (some ⟨bp,0,none⟩) n n] 188)) (w.heap.size+1) (wy.alloc (.cells #[.slice ao F'.length co,.map (some bm),.slice (some ⟨bp,0,none⟩) n n] 188)).heap.size bv' bm' bp' n ov F 0 (fun _=>0) (List.replicate n [])):=by
 rw[<-hF]
 have h1:=hb.size
 have h2:=hg.size
 have ho:=(hov.kept hg (by cases ao<;>simp[Value.ownBlock])).alloc (.cells #[.slice ao F.length co,.map (some bm),.slice (some ⟨bp,0,none⟩) n n] 188)
 have h3:=lt_of_block hm
 have h4:=lt_of_block hp
 refine⟨bv,bm,bp,.slice ao F.length co,rfl,zI hbv,vY ho (by omega),fun g hg=>(ho.lt g hg).2,?_,OwnRows.made _ (by rw[zB hp,yA]),by simp,hb.alloc (by omega) _,?_⟩
 ·exact⟨_,⟨#[],0,zB hm,(let⟨es,clock,h1,h2,_⟩:=(World.ownsMap_made (H:=Unit) w Try.prog 3 (plainElem Try.prog 3));by
   rw[zI rfl] at h1;cases h1;exact h2),Nat.le_refl _,rfl⟩,fun _ _=>rfl⟩
 ·simp only[World.size_alloc]
  omega
theorem view_any (w:World)(sv:Value)(g:List (List Nat))(B:Nat)(hB:B<=w.heap.size)(h:y7 zj w B sv g)(hv:zw g)(hn:g.length<=2000000)(hr:∀row∈g,row.length<=2000000)
 (ord:List Nat) (hF:tV g ord):
 Calls Try.prog 101 #[.agg #[sv]] w (RetView w ord (atF ord ord.length) (un g ord)):=by
 obtain⟨a,cap,rfl,hcap⟩:=h.form
 obtain⟨ii,hii,hzi0,hzi1,hzi2⟩:=info_parts Try.info_int
 have hbel:Below w.heap.size w (w.alloc (.cells #[.slice a g.length cap] 93)):=(Below.refl _ _).alloc (Nat.le_refl _) _
 have hmm:=@run_makeMap Try.prog
 have hmk:=run_make_row' (P:=Try.prog) 91 22 (.slice none 0 0) 24 Try.underlying91 Try.info_ints rfl .i64 .i64 g.length (by omega) (by omega)
 have HV:=Lib.hid hv
 have HR:=Lib.hid hr
 have HF:=Lib.hid hF
 have cg:(w.alloc (.cells #[.slice a g.length cap] 93)).cell? ⟨w.heap.size,0,none⟩=some (.slice a g.length cap):=cell_of_one (zI rfl)
 clear hv hr hF
 go_enter Try.func101,Try.ntmps101
 go_upto_region 1 with fail
 generalize hW0:w.alloc (.cells #[.slice a g.length cap] 93)=W0 at cg ⊢
 have HW0:=Lib.hid hW0
 have hb00:=Below.refl (w.heap.size+1) W0
 have lg:w.heap.size<W0.heap.size:=World.block_lt_of_cell? W0 _ cg
 clear hW0 hbel
 go_cut [3] (fun s3 wx=>∃bv bm bp ov,s3=.pointer (some ⟨bv,0,none⟩)/\Hid (ViewMem W0 wx (w.heap.size+1) wx.heap.size bv bm bp g.length ov ord 0 (fun _=>0) (List.replicate g.length [])))
 case first=>
  go_region_held3 (fun w'=>w'.cell? ⟨w.heap.size,0,none⟩=some (.slice a g.length cap)/\Below (w.heap.size+1) W0 w')
   (first
     |(go_split_ands;refine⟨?_,?_⟩<;>assumption)
     |(go_split_ands;refine⟨?_,uG ?_⟩<;>assumption)
     |(go_split_ands;exact lq ‹_› ‹_› (by assumption) _)
     |(go_split_ands;exact oY ‹_› ‹_› (by assumption) (by assumption)))
   ((go_at_call 68;refine(tp _ _ g B (o7 hB HW0 (by repeat' (first|assumption|(with_reducible refine Below.drew ?_)|(with_reducible refine Below.alloc ?_ ?_ _)|omega|(simp<;>omega)))) (nP h hB HW0 (by repeat' (first|assumption|(with_reducible refine Below.drew ?_)|(with_reducible refine Below.alloc ?_ ?_ _)|omega|(simp<;>omega)))) HV.out hn HR.out ord HF.out).mono ?_;rintro e w1 ⟨ov,rfl,hov,hb1⟩;obtain⟨ao,co,rfl⟩:=zG hov))
  all_goals
   go_wp2_with fail
   go_meet
   have hs1:=hb1.size
   simp at hs1
   refine lo (w:=w) (w1:=w1) (F:=ord) rfl hov lg ?_ ?_ ?_ ?_ ?_ ?_ ?_
   ·simp<;>omega
   ·repeat' (first|assumption|(with_reducible refine Below.drew ?_)|(with_reducible refine Below.alloc ?_ ?_ _)|(refine Below.trans ?_ (Below.mono hb1 ?_))|omega|(simp<;>omega))
   ·repeat' (first|(with_reducible exact oI _ _)|(with_reducible refine World.grownBy.trans ?_ (World.grownBy_alloc _ _ _)))
   ·simp
   ·repeat' (first|(refine zI ?_;first|rfl|(simp;done))|(refine zB ?_)|(refine zH hb1 ?_ ?_)|omega|(simp<;>omega))
   ·repeat' (first|(refine zI ?_;first|rfl|(simp;done))|(refine zB ?_)|(refine zH hb1 ?_ ?_)|omega|(simp<;>omega))
   ·constructor<;>first|omega|(simp<;>omega)
 case rest=>
  obtain⟨bv,bm,bp,ov,rfl,HVM⟩:=hcut
  obtain⟨BB,hBB⟩:∃BB,BB=wc.heap.size:=⟨_,rfl⟩
  rw[<-hBB] at HVM
  clear hBB hmm hmk
  have ho:=HVM.out.ho
  obtain⟨ao,co,rfl⟩:=zG ho
  have hcv:=HVM.out.hv
  have cv0:wc.cell? ⟨bv,0,none⟩=some (.slice ao ord.length co):=zA hcv (by simp)
  clear ho hcv
  have hol:=(HF.out.nodes HV.out).1
  go_wp2_with fail
  go_loopw [22] (fun i wr=>∃k:Nat,k<=ord.length/\i=.int .i64 k/\Hid (ViewMem W0 wr (w.heap.size+1) BB bv bm bp g.length (.slice ao ord.length co) ord k (atF ord k) ((ord.take k).foldl (yh g) (List.replicate g.length [])))) (fun i _=>ord.length-(intOf i).toNat)
  case atStart=>exact⟨0,Nat.zero_le _,rfl,by rw[show atF ord 0=fun _=>0 from rfl];simpa using HVM⟩
  case round=>
   obtain⟨k,hk,rfl,HK⟩:=hrel
   by_cases hlt:k<ord.length
   ·obtain⟨n,hnk⟩:∃n,ord[k]? =some n:=⟨_,List.getElem?_eq_getElem hlt⟩
    have hng:n<g.length:=(HF.out.nodes HV.out).2 n (List.mem_of_getElem? hnk)
    have hng1:(n:Int)<g.length:=by omega
    have hlt1:(k:Int)<ord.length:=by omega
    have hso:=rY HK.out.ho (Nat.le_refl _)
    obtain⟨ao',co',hao,_,hx⟩:=hso
    cases hao
    obtain⟨bo,oo,rfl,_,con⟩:=hx k n hnk
    simp only[zj] at con
    have cv1:wr.cell? ⟨bv,1,none⟩=some (.map (some bm)):=zA HK.out.hv (by simp)
    obtain⟨row,hrow⟩:∃row,g[n]? =some row:=⟨_,List.getElem?_eq_getElem hng⟩
    have HNK:=Lib.hid hnk
    clear hx hnk cv0
    obtain⟨b,o,a2,cap2,rfl,hb,hc,hcap2,hx⟩:=h.row hrow
    have HX:=Lib.hid hx
    have HC:=Lib.hid hc
    clear hx hc
    go_wp2_with (at_mapUpdate;go_must (refine rW rfl (.tmp 30) (.tmp 31) (.tmp 32) rfl HK.out.hm (by omega) (n:Int) (k:Int) rfl rfl rfl (by omega) (by omega) ?_;intro w2 hm2 hg2;have hvm2:=HK.out.store hg2 hm2;have hcg2:=(hvm2.hb.cell (p:=⟨w.heap.size,0,none⟩) (show w.heap.size<w.heap.size+1 by omega)).trans cg;have hc:=((ww rfl HW0 hvm2.hb).cell (p:=⟨b,o+n,none⟩) (show b<w.heap.size by omega)).trans HC.out;have HVM2:=Lib.hid hvm2;clear hvm2 hm2 hg2))
    have hrl:=HR.out row (List.mem_of_getElem? hrow)
    have HROW:=Lib.hid hrow
    clear HK con cv1 hrow
    go_loopw [39] (fun i wx=>∃j:Nat,j<=row.length/\i=.int .i64 j/\Hid (ViewMem W0 wx (w.heap.size+1) BB bv bm bp g.length (.slice (some ⟨bo,oo,none⟩) ord.length co) ord (k+1) (fun y=>if y=(n:Int) then(k:Int) else atF ord k y) ((row.take j).foldl (xS n) ((ord.take k).foldl (yh g) (List.replicate g.length []))))) (fun i _=>row.length-(intOf i).toNat)
    case atStart=>exact⟨0,Nat.zero_le _,rfl,by simpa using HVM2⟩
    case round=>
     obtain⟨j,hj,rfl,HJ⟩:=hrel
     by_cases hlt2:j<row.length
     ·obtain⟨s,hsj⟩:∃s,row[j]? =some s:=⟨_,List.getElem?_eq_getElem hlt2⟩
      have hsg:s<g.length:=HV.out.2 row (List.mem_of_getElem? HROW.out) s (List.mem_of_getElem? hsj)
      obtain⟨b2,o2,rfl,hb2,cs0⟩:=HX.out j s hsj
      have cs:=((ww rfl HW0 HJ.out.hb).cell (p:=⟨b2,o2+j,none⟩) (show b2<w.heap.size by omega)).trans cs0
      simp only[zj] at cs
      have hpl:=HJ.out.hl
      obtain⟨pr,hpr⟩:∃pr,((row.take j).foldl (xS n) ((ord.take k).foldl (yh g) (List.replicate g.length [])))[s]? =some pr:=⟨_,List.getElem?_eq_getElem (by rw[hpl];exact hsg)⟩
      obtain⟨ap,capp,cp,hop,fp⟩:=HJ.out.hp.get hpr
      have c2:wr.cell? ⟨bv,2,none⟩=some (.slice (some ⟨bp,0,none⟩) g.length g.length):=zA HJ.out.hv (by simp)
      have hsz:=HJ.out.lt.2.2.2.2.2.2
      have hprl:pr.length<=4000004000000:=by have:=pred_len HR.out ord row k j n _ (Nat.le_trans hk hol) hpr;omega
      have hsg1:(s:Int)<g.length:=by omega
      have hlt3:(j:Int)<row.length:=by omega
      have lb:=HJ.out.lt
      have lbv:=lt_of_block HJ.out.hv
      have lbp:=HJ.out.hp.bplt
      have nbv:=zC hop HJ.out.hv (.inl (by omega))
      obtain⟨cc,hcc⟩:=HJ.out.hp.blk
      have nbp:=zC hop hcc (.inr (by decide))
      have HPR:=Lib.hid hpr
      have HSJ:=Lib.hid hsj
      have HCC:=Lib.hid hcc
      have HOP:=Lib.hid hop
      clear hpr hsj hcc hop cs0 hpl hcg2 hc
      have fp':∀o,(wr.alloc o).frozen? ⟨bp,s,none⟩=false:=fun o=>(World.frozen?_of_block (w:=wr) (Below.heap_alloc _ _ _ lbp)).trans fp
      have cp':∀o,(wr.alloc o).cell? ⟨bp,s,none⟩=some (.slice ap pr.length capp):=fun o=>(World.cell?_of_block (w:=wr) (Below.heap_alloc _ _ _ lbp)).trans cp
      have c2':∀o,(wr.alloc o).cell? ⟨bv,2,none⟩=some (.slice (some ⟨bp,0,none⟩) g.length g.length):=fun o=>(World.cell?_of_block (w:=wr) (Below.heap_alloc _ _ _ lbv)).trans c2
      go_upto_block 3 with fail
      go_cut [7] (fun s7 wx=>Hid (ViewMem W0 wx (w.heap.size+1) BB bv bm bp g.length (.slice (some ⟨bo,oo,none⟩) ord.length co) ord (k+1) (fun y=>if y=(n:Int) then(k:Int) else atF ord k y) (((row.take j).foldl (xS n) ((ord.take k).foldl (yh g) (List.replicate g.length []))).set s (pr++ [n]))))
      case first=>
       go_upto_region 9 with fail
       go_region_law (first|(refine step_append_lies _ (by rfl) (.tmp 54) (.tmp 56) _ (by rfl) BB 3 ii (.int .i64 0) 1 8 Try.underlying22 hii hzi0 hzi1 hzi2 rfl (by omega) (.slice ap pr.length capp) pr.length (pr.map zj) (by rfl) ((HOP.out.alloc _).drew) ⟨wr.heap.size,0,none⟩ 1 1 [.int .i64 n] (by rfl) (by rfl) (World.news_of_block (cs:=#[.int .i64 n]) (t:=3) (fr:=(0,0)) (heap_alloc_new wr _)) (by simp[Value.oneCell']) (by omega) (by unfold maxLen;omega) (by omega) (by simp;omega) (wr.heap.size+1) (by simp) ?_;intro gg cap3 w3 hown3 hgrow hat hlt4;have c23:=(hgrow.cell_far ⟨bv,2,none⟩ (by simp;omega) (Ne.symm nbv)).trans (c2' _);have cp3:=(hgrow.cell_far ⟨bp,s,none⟩ (by simp;omega) (Ne.symm nbp)).trans (cp' _);have fp3:=(hgrow.frozen_far ⟨bp,s,none⟩ (by simp;omega) (Ne.symm nbp)).trans (fp' _)))
       all_goals (go_wp2_with fail;go_meet;exact Lib.hid (HJ.out.push HPR.out cp (uj hgrow) hown3 hat (by omega)))
      case rest=>
       go_wp2_with fail
       go_roundw
       case rel=>exact⟨j+1,by omega,by go_num,by rw[List.take_add_one,HSJ.out];simpa[xS,List.getD_eq_getElem?_getD,HPR.out] using hcut⟩
       case measure=>simp[intOf];omega
     ·go_wp2_with fail
      go_roundw
      case rel=>exact⟨k+1,by omega,by go_num,by
       have hjj:j=row.length:=by omega
       have h1:=HJ
       rw[hjj,List.take_length] at h1
       rw[List.take_add_one,HNK.out,List.foldl_append]
       have h2:succ g n=row:=by simp[succ,List.getD_eq_getElem?_getD,HROW.out]
       have h3:atF ord (k+1)=fun y=>if y=(n:Int) then(k:Int) else atF ord k y:=by
        funext y;simp only[atF,List.getD_eq_getElem?_getD,HNK.out,Option.getD_some]
       rw[h3]
       simpa[yh,h2] using h1⟩
      case measure=>simp[intOf];omega
   ·have hkk:k=ord.length:=by omega
    subst hkk
    go_wp2_with fail
    go_ret
    refine⟨bv,rfl,?_,?_,ww rfl HW0 HK.out.hb⟩
    ·have:=HK.out.lt;omega
    ·have:=HK.out.read
     rwa [List.take_length] at this
end Go.Proofs.Ytojclalkfhoooaa
