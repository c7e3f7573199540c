/- Part of a proof. -/
import Derived.Test.YtojclalkfhoooaaGApp
import Derived.Test.YtojclalkfhoooaaView
import Derived.Test.YtojclalkfhoooaaGVmD
import Derived.BigRegion
set_option linter.unusedSimpArgs false
set_option linter.unusedVariables false
set_option maxHeartbeats 4000000
set_option maxRecDepth 100000
namespace Go.Proofs.Ytojclalkfhoooaa
open Go.RowKit
def tW (b:IBlk):List Int:=b.term.to.map (·.block)
def zk (blocks:List IBlk):List (List Int):=blocks.map tW
def sH (blocks:List IBlk)(u k:Nat):List (List Int):=(blocks.take u).map tW++(match blocks[u]? with|some b=> [(tW b).take k]|none=> [])++List.replicate (blocks.length-u-1) []
theorem sF {blocks:List IBlk}{u:Nat}{b:IBlk}(h:blocks[u]? =some b)(k:Nat):sH blocks u k=(blocks.take u).map tW++(tW b).take k::List.replicate (blocks.length-u-1) []:=by
 unfold sH;rw[h];simp
theorem lA (blocks:List IBlk):sH blocks 0 0=List.replicate blocks.length []:=by
 cases blocks with
 |nil=>rfl
 |cons b bs=>simp[sH,List.replicate_succ]
theorem iD {blocks:List IBlk}{u:Nat}{b:IBlk}(h:blocks[u]? =some b)(k:Nat):(sH blocks u k)[u]? =some ((tW b).take k):=by
 have hu:=(List.getElem?_eq_some_iff.1 h).1
 rw[sF h,List.getElem?_append_right (by simp;omega)]
 have:u-((blocks.take u).map tW).length=0:=by simp;omega
 rw[this];rfl
theorem jW {blocks:List IBlk}{u:Nat}{b:IBlk}(h:blocks[u]? =some b){k:Nat}{e:IEdge}(he:b.term.to[k]? =some e):(sH blocks u k).set u ((tW b).take k++ [e.block])=sH blocks u (k+1):=by
 have hu:=(List.getElem?_eq_some_iff.1 h).1
 have hr:(tW b)[k]? =some e.block:=by unfold tW;rw[List.getElem?_map,he];rfl
 rw[sF h,sF h,List.set_append_right _ _ (by simp;omega)]
 have:u-((blocks.take u).map tW).length=0:=by simp;omega
 rw[this,List.set_cons_zero,List.take_add_one (i:=k) (l:=tW b),hr];rfl
theorem li {blocks:List IBlk}{u:Nat}{b:IBlk}(h:blocks[u]? =some b):sH blocks u b.term.to.length=sH blocks (u+1) 0:=by
 have hu:=(List.getElem?_eq_some_iff.1 h).1
 have hr:(tW b).take b.term.to.length=tW b:=by rw[List.take_of_length_le];unfold tW;simp
 rw[sF h,hr]
 cases h2:blocks[u+1]? with
 |some b2=>
  have hu2:=(List.getElem?_eq_some_iff.1 h2).1
  rw[sF h2,List.take_zero,List.take_add_one,h,List.map_append]
  have:blocks.length-u-1=blocks.length-(u+1)-1+1:=by omega
  rw[this,List.replicate_succ]
  simp
 |none=>
  have hle:blocks.length<=u+1:=by simpa using h2
  have e1:blocks.length-u-1=0:=by omega
  unfold sH
  rw[h2,e1,List.take_add_one,h]
  simp;omega
theorem lE (blocks:List IBlk):sH blocks blocks.length 0=zk blocks:=by
 unfold sH zk
 rw[List.take_length]
 simp
theorem te {b:IBlk}{k:Nat}(h:k<=b.term.to.length):((tW b).take k).length=k:=by unfold tW;simp;omega
def RetRowsI (w:World)(rows:List (List Int))(e:Ending)(w':World):Prop:=∃bp,e=.returned (.agg #[.slice (some ⟨bp,0,none⟩) rows.length rows.length])/\OwnRows zN 3 22 w' w.heap.size bp rows/\w.heap.size<=bp/\Below w.heap.size w w'
theorem ox {w:World}{B:Nat}{fbv:Value}{blocks:List IBlk}(hbl:wX w B fbv blocks)(hB:B<=w.heap.size)(hs:blocks.length<=2000000/\∀b∈blocks,b.term.to.length<=2000000):
 Calls Try.prog 38 #[.agg #[fbv]] w (RetRowsI w (zk blocks)):=by
 obtain⟨fa,fc,rfl,hfc,hfm⟩:=hbl.form
 have hfl:blocks.length<=9223372036854775807:=by omega
 have hmk:=run_make_row' (P:=Try.prog) 91 22 (.slice none 0 0) 24 Try.underlying91 Try.info_ints rfl .i64 .i64 blocks.length (by omega) (by omega)
 obtain⟨ii,hii,hzi0,hzi1,hzi2⟩:=info_parts Try.info_int
 have HBL:=Lib.hid (show wX w B (.slice fa blocks.length fc) blocks/\B<=w.heap.size/\blocks.length<=2000000/\∀b∈blocks,b.term.to.length<=2000000 from⟨hbl,hB,hs⟩)
 have hb0:Below w.heap.size w ((w.alloc (.cells #[.slice fa blocks.length fc] 43)).alloc (.cells #[.slice none 0 0] 93)):=((Below.refl _ _).alloc (Nat.le_refl _) _).alloc (by simp) _
 have hx0:((w.alloc (.cells #[.slice fa blocks.length fc] 43)).alloc (.cells #[.slice none 0 0] 93)).heap[w.heap.size]? =some (.cells #[.slice fa blocks.length fc] 43 (0,0)):=zB (zI rfl)
 have hx1:((w.alloc (.cells #[.slice fa blocks.length fc] 43)).alloc (.cells #[.slice none 0 0] 93)).heap[w.heap.size+1]? =some (.cells #[.slice none 0 0] 93 (0,0)):=zI (by simp)
 have hsz0:((w.alloc (.cells #[.slice fa blocks.length fc] 43)).alloc (.cells #[.slice none 0 0] 93)).heap.size=w.heap.size+2:=by simp
 clear hbl hB hs hfc hfm
 go_enter Try.func38,Try.ntmps38
 go_upto_region 1 with fail
 generalize hV:(w.alloc (.cells #[.slice fa blocks.length fc] 43)).alloc (.cells #[.slice none 0 0] 93)=V at *
 have HM0:=Lib.hid (GMem.start' V (w.heap.size+2) hsz0 blocks.length 2000000)
 have HV:=Lib.hid (show Below w.heap.size w V/\V.heap[w.heap.size]? =some (.cells #[.slice fa blocks.length fc] 43 (0,0))/\V.heap[w.heap.size+1]? =some (.cells #[.slice none 0 0] 93 (0,0))/\V.heap.size=w.heap.size+2 from⟨hb0,hx0,hx1,hsz0⟩)
 have y0:V.cell? ⟨w.heap.size,0,none⟩=some (.slice fa blocks.length fc):=zA hx0 (by simp)
 clear hV hb0 hx0 hx1
 go_wp2
 go_loopw [16] (fun uv wx=>∃u:Nat,u<=blocks.length/\uv=.int .i64 (u:Int)/\Hid (GMem V wx (w.heap.size+2) (w.heap.size+2+1) blocks.length 2000000 (sH blocks u 0))) (fun uv _=>blocks.length-(intOf uv).toNat)
 case atStart=>exact⟨0,Nat.zero_le _,rfl,by rw[lA];exact HM0⟩
 case round=>
  obtain⟨u,hu,rfl,HU⟩:=hrel
  by_cases hltu:u<blocks.length
  ·have hltuI:(u:Int)<blocks.length:=by omega
   have HLTU:=Lib.hid hltu
   obtain⟨bx,hbx⟩:∃bx,blocks[u]? =some bx:=⟨_,List.getElem?_eq_getElem hltu⟩
   obtain⟨fb,fo,rfl,hfb,hk0,hk1,hk64,pv,ov,tv,hp0,hp1,hp2,hpi,hoi,hti⟩:=HBL.out.1.get hbx
   obtain⟨pa,pc,rfl,hpc,hpm⟩:=hpi.form
   obtain⟨oa,oc,rfl,hoc,hom⟩:=hoi.form
   obtain⟨ta,tc,rfl,htc,htm⟩:=hti.form
   have htl:bx.term.to.length<=9223372036854775807:=by omega
   have hbw:Below B w wr:=(HV.out.1.mono HBL.out.2.1).trans (HU.out.hb.mono (by have:=HV.out.2.2.2;have:=HBL.out.2.1;omega))
   have e0:=zV hbw hfb hp0
   have e1:=zV hbw hfb hp1
   have e2:=zV hbw hfb hk0
   have e3:=zV hbw hfb hk1
   have e4:=zV hbw hfb hp2
   have HBX:=Lib.hid (show blocks[u]? =some bx/\wH w B (.slice ta bx.term.to.length tc) bx.term.to/\bx.term.to.length<=2000000 from⟨hbx,hti,HBL.out.2.2.2 bx (List.mem_of_getElem? hbx)⟩)
   have hz0:(wr.alloc (.cells #[.slice pa bx.params.length pc,.slice oa bx.ops.length oc,.int .i64 bx.term.kind,.int .i64 bx.term.a,.slice ta bx.term.to.length tc] 49)).heap[wr.heap.size]? =some (.cells #[.slice pa bx.params.length pc,.slice oa bx.ops.length oc,.int .i64 bx.term.kind,.int .i64 bx.term.a,.slice ta bx.term.to.length tc] 49 (0,0)):=zI rfl
   have hg1:=HU.out.alloc (.cells #[.slice pa bx.params.length pc,.slice oa bx.ops.length oc,.int .i64 bx.term.kind,.int .i64 bx.term.a,.slice ta bx.term.to.length tc] 49)
   clear hbx hk0 hk1 hk64 hp0 hp1 hp2 hpi hoi hti hpc hpm hoc hom htc htm hltu hbw
   go_upto_region 5 with fail
   generalize hW1:wr.alloc (.cells #[.slice pa bx.params.length pc,.slice oa bx.ops.length oc,.int .i64 bx.term.kind,.int .i64 bx.term.a,.slice ta bx.term.to.length tc] 49)=W1 at *
   generalize hb5:wr.heap.size=b5 at *
   have z4:W1.cell? ⟨b5,4,none⟩=some (.slice ta bx.term.to.length tc):=zA hz0 (by simp)
   have HG1:=Lib.hid hg1
   clear hW1 hz0 hg1 e0 e1 e2 e3 e4 y0
   go_wp2
   go_loopw [25] (fun kv wx=>∃k:Nat,k<=bx.term.to.length/\kv=.int .i64 (k:Int)/\Hid (GMem V wx (w.heap.size+2) (w.heap.size+2+1) blocks.length 2000000 (sH blocks u k))) (fun kv _=>bx.term.to.length-(intOf kv).toNat)
   case atStart=>exact⟨0,Nat.zero_le _,rfl,HG1⟩
   case round=>
    obtain⟨k,hk,rfl,HK⟩:=hrel
    by_cases hltk:k<bx.term.to.length
    ·have hltkI:(k:Int)<bx.term.to.length:=by omega
     have HLTK:=Lib.hid hltk
     obtain⟨e,he⟩:∃e,bx.term.to[k]? =some e:=⟨_,List.getElem?_eq_getElem hltk⟩
     obtain⟨qb,qo,rfl,hqb,hq0,he64,av,hq1,hai⟩:=HBX.out.2.1.get he
     obtain⟨aa,ac,rfl,_,_⟩:=hai.form
     have hbw:Below B w wr:=(HV.out.1.mono HBL.out.2.1).trans (HK.out.hb.mono (by have:=HV.out.2.2.2;have:=HBL.out.2.1;omega))
     have c0:=zV hbw hqb hq0
     have c1:=zV hbw hqb hq1
     have hz0:(wr.alloc (.cells #[.int .i64 e.block,.slice aa e.args.length ac] 75)).heap[wr.heap.size]? =some (.cells #[.int .i64 e.block,.slice aa e.args.length ac] 75 (0,0)):=zI rfl
     have hg2:=HK.out.alloc (.cells #[.int .i64 e.block,.slice aa e.args.length ac] 75)
     have HE:=Lib.hid (show bx.term.to[k]? =some e/\I64 e.block from⟨he,he64⟩)
     clear he he64 hq0 hq1 hai hbw hltk z4
     go_upto_region 8 with fail
     generalize hW2:wr.alloc (.cells #[.int .i64 e.block,.slice aa e.args.length ac] 75)=W2 at *
     generalize hb7:wr.heap.size=b7 at *
     have hR:=iD HBX.out.1 k
     have hrl:=te (b:=bx) hk
     have hps:=jW HBX.out.1 HE.out.1
     have HPS:=Lib.hid hps
     generalize hRe:(tW bx).take k=ur at *
     obtain⟨ap,capp,cp,hop,fp⟩:=hg2.hr.get hR
     have lbg:=lt_of_block hg2.hg
     have lbp:=hg2.hr.bplt
     obtain⟨cc,hcc⟩:=hg2.hr.blk
     have nbg:=zC hop hg2.hg (.inr (by decide))
     have nbp:=zC hop hcc (.inr (by decide))
     have chr:W2.cell? ⟨w.heap.size+2+1,0,none⟩=some (.slice (some ⟨w.heap.size+2,0,none⟩) blocks.length blocks.length):=zA hg2.hg (by simp)
     have n7:=zC hop hz0 (.inr (by decide))
     have hz7:=zA (i:=0) (v:=.int .i64 e.block) hz0 (by simp)
     have l7:=lt_of_block hz0
     have HR:=Lib.hid (And.intro hR hop)
     have HG2:=Lib.hid hg2
     have hszV:=hg2.hb.size
     have hlu:=HLTU.out
     have hu2:=HBX.out.2.2
     have HHE:=HE.out.2
     have fp':∀o,(W2.alloc o).frozen? ⟨w.heap.size+2,u,none⟩=false:=fun o=>(World.frozen?_of_block (w:=W2) (Below.heap_alloc _ _ _ lbp)).trans fp
     have cp':∀o,(W2.alloc o).cell? ⟨w.heap.size+2,u,none⟩=some (.slice ap ur.length capp):=fun o=>(World.cell?_of_block (w:=W2) (Below.heap_alloc _ _ _ lbp)).trans cp
     have chr':∀o,(W2.alloc o).cell? ⟨w.heap.size+2+1,0,none⟩=some (.slice (some ⟨w.heap.size+2,0,none⟩) blocks.length blocks.length):=fun o=>(World.cell?_of_block (w:=W2) (Below.heap_alloc _ _ _ lbg)).trans chr
     have HRL:=Lib.hid (And.intro hrl hk)
     clear hcc hR hop hRe hW2 hg2 hps c0 c1 hz0 hrl
     go_region_law (first|(refine step_append_lies _ (by rfl) (.tmp 36) (.tmp 39) _ (by rfl) V.heap.size 3 ii (.int .i64 0) 1 8 Try.underlying22 hii hzi0 hzi1 hzi2 rfl (by omega) (.slice ap ur.length capp) ur.length (ur.map zN) (by rfl) ((HR.out.2.alloc _).drew) ⟨W2.heap.size,0,none⟩ 1 1 [.int .i64 e.block] (by rfl) (by rfl) (World.news_of_block (cs:=#[.int .i64 e.block]) (t:=3) (fr:=(0,0)) (heap_alloc_new W2 _)) (by simp[Value.oneCell']) (by omega) (by have:=HRL.out;unfold maxLen;omega) (by have:=HRL.out;omega) (by simp;omega) (W2.heap.size+1) (by simp) ?_;intro gg cap3 w3 hown3 hgrow hat hlt4;have c23:=(hgrow.cell_far ⟨w.heap.size+2+1,0,none⟩ (by simp;omega) (Ne.symm nbg)).trans (chr' _);have cp3:=(hgrow.cell_far ⟨w.heap.size+2,u,none⟩ (by simp;omega) (Ne.symm nbp)).trans (cp' _);have fp3:=(hgrow.frozen_far ⟨w.heap.size+2,u,none⟩ (by simp;omega) (Ne.symm nbp)).trans (fp' _)))
     all_goals go_wp2_with fail
     all_goals go_roundw
     all_goals first
      |(have:=HLTK.out;simp[intOf];omega)
      |(refine⟨k+1,HLTK.out,by go_num,?_⟩
        have hput:=HG2.out.put (row':=ur++ [e.block]) HR.out.1 cp (uj hgrow) (by simpa[zN] using hown3) hat (by omega) (by have:=HRL.out;simp;omega)
        rw[HPS.out] at hput
        simpa using Lib.hid hput)
    ·obtain rfl:k=bx.term.to.length:=by omega
     have hltkI:¬(bx.term.to.length:Int)<bx.term.to.length:=by omega
     clear z4
     go_wp2
     go_roundw
     case rel=>exact⟨u+1,HLTU.out,by go_num,by rw[<-li HBX.out.1];exact HK⟩
     case measure=>have:=HLTU.out;simp[intOf];omega
  ·obtain rfl:u=blocks.length:=by omega
   have hltuI:¬(blocks.length:Int)<blocks.length:=by omega
   have hG:=HU.out
   rw[lE] at hG
   have hln:(zk blocks).length=blocks.length:=by unfold zk;simp
   have chr:wr.cell? ⟨w.heap.size+2+1,0,none⟩=some (.slice (some ⟨w.heap.size+2,0,none⟩) blocks.length blocks.length):=zA hG.hg (by simp)
   have hx1:=zH hG.hb HV.out.2.2.1 (by have:=HV.out.2.2.2;omega)
   have hres:wr.cell? ⟨w.heap.size+1,0,none⟩=some (.slice none 0 0):=zA hx1 (by simp)
   have hfr:=zE (i:=0) hx1
   have hbb:Below w.heap.size w wr:=HV.out.1.trans (hG.hb.mono (by have:=HV.out.2.2.2;omega))
   have hrows:=(hG.hr.set (a:=⟨w.heap.size+1,0,none⟩) (by simp) (by have:=HV.out.2.2.2;simp;omega) (.slice (some ⟨w.heap.size+2,0,none⟩) blocks.length blocks.length)).base (B':=w.heap.size) (by have:=HV.out.2.2.2;omega)
   have HROW:=Lib.hid (And.intro hrows (hbb.setCell (p:=⟨w.heap.size+1,0,none⟩) (by simp) (.slice (some ⟨w.heap.size+2,0,none⟩) blocks.length blocks.length)))
   clear hrows hG hx1 hltu y0 hbb
   go_wp2
   refine bodyPost_ret (v:=.agg #[.slice (some ⟨w.heap.size+2,0,none⟩) blocks.length blocks.length]) ?_ rfl ⟨_,by rw[hln],HROW.out.1,by omega,HROW.out.2⟩
   rw[zM rfl]
   go_simp
end Go.Proofs.Ytojclalkfhoooaa
