/- Part of a proof. -/
import Derived.Test.YtojclalkfhoooaaIOper
set_option linter.unusedSimpArgs false
set_option linter.unusedVariables false
set_option maxHeartbeats 4000000
set_option maxRecDepth 100000
namespace Go.Proofs.Ytojclalkfhoooaa
open Go.RowKit
theorem edge_bad {blocks:List IBlk}{t:ITerm}{k:Nat}{e:IEdge}(he:t.to[k]? =some e)(h:uM blocks e=false):wn blocks t=false:=by
 unfold wn
 have:t.to.all (uM blocks)=false:=by
  rw[Bool.eq_false_iff]
  intro h2
  rw[List.all_eq_true.1 h2 e (List.mem_of_getElem? he)] at h
  cases h
 rw[this];rfl
theorem term_any {w:World}{B C:Nat}{cs:Array Value}{fbv:Value}{blocks:List IBlk}(hbl:wX w B fbv blocks)(hB:B<=w.heap.size)(hC:w.heap[C]? =some (.cells cs 128 (0,0)))(h6:cs[6]? =some fbv)(t:ITerm)(ht:I64 t.kind/\I64 t.a){tv:Value}(hto:wH w B tv t.to):
 Calls Try.prog 99 #[.pointer (some ⟨C,0,none⟩),.agg #[.int .i64 t.kind,.int .i64 t.a,tv]] w (ym w (wn blocks t)):=by
 obtain⟨fa,fc,rfl,hfc,hfm⟩:=hbl.form
 obtain⟨ta,tc,rfl,htc,htm⟩:=hto.form
 have hfl:blocks.length<=9223372036854775807:=by omega
 have htl:t.to.length<=9223372036854775807:=by omega
 obtain⟨tk,htk⟩:∃x,t.kind=x:=⟨_,rfl⟩
 obtain⟨tA,htA⟩:∃x,t.a=x:=⟨_,rfl⟩
 have HBL:=Lib.hid hbl
 have HTO:=Lib.hid hto
 obtain⟨res,hres⟩:∃x,wn blocks t=x:=⟨_,rfl⟩
 rw[hres,htk,htA]
 have HRES:=Lib.hid (show wn blocks t=res/\t.kind=tk/\t.a=tA from⟨hres,htk,htA⟩)
 have hb0:Below w.heap.size w (w.alloc (.cells #[.int .i64 tk,.int .i64 tA,.slice ta t.to.length tc] 47)):=(Below.refl _ _).alloc (Nat.le_refl _) _
 have hx0:(w.alloc (.cells #[.int .i64 tk,.int .i64 tA,.slice ta t.to.length tc] 47)).heap[w.heap.size]? =some (.cells #[.int .i64 tk,.int .i64 tA,.slice ta t.to.length tc] 47 (0,0)):=zI rfl
 have hc0:=zB (o:=.cells #[.int .i64 tk,.int .i64 tA,.slice ta t.to.length tc] 47) hC
 clear hbl hto hres htk htA hC hfc hfm htc htm
 go_enter Try.func99,Try.ntmps99
 go_upto_region 1 with fail
 generalize hW0:w.alloc (.cells #[.int .i64 tk,.int .i64 tA,.slice ta t.to.length tc] 47)=W0 at *
 have y2:W0.cell? ⟨w.heap.size,2,none⟩=some (.slice ta t.to.length tc):=zA hx0 (by simp)
 have HB0:=Lib.hid hb0
 have HX0:=Lib.hid hx0
 have HC0:=Lib.hid hc0
 clear hW0 hb0 hx0 hc0
 go_wp2
 go_loopw [10] (fun kv wx=>∃k:Nat,k<=t.to.length/\kv=.int .i64 (k:Int)/\Hid (Below W0.heap.size W0 wx/\(t.to.take k).all (uM blocks)=true)) (fun kv _=>t.to.length-(intOf kv).toNat)
 case atStart=>exact⟨0,Nat.zero_le _,rfl,Lib.hid ⟨Below.refl _ _,by rfl⟩⟩
 case round=>
  obtain⟨k,hk,rfl,HK⟩:=hrel
  by_cases hlt:k<t.to.length
  ·have hltI:(k:Int)<t.to.length:=by omega
   have HLT:=Lib.hid hlt
   obtain⟨e,he⟩:∃e,t.to[k]? =some e:=⟨_,List.getElem?_eq_getElem hlt⟩
   obtain⟨b,oo,rfl,hb,hc0,he64,av,hc1,hav⟩:=HTO.out.get he
   obtain⟨aa,ac,rfl,hac,ham⟩:=hav.form
   have hal:e.args.length<=9223372036854775807:=by omega
   have hbw:Below w.heap.size w wr:=HB0.out.trans (HK.out.1.mono HB0.out.size)
   obtain⟨eb,heb⟩:∃x,e.block=x:=⟨_,rfl⟩
   rw[heb] at hc0
   have e0:=zV hbw (Nat.lt_of_lt_of_le hb hB) hc0
   have e1:=zV hbw (Nat.lt_of_lt_of_le hb hB) hc1
   have hblk:=zH HK.out.1 HC0.out (lt_of_block HC0.out)
   have HT:=Lib.hid (show(t.to.take (k+1)).all (uM blocks)=((t.to.take k).all (uM blocks) && uM blocks e)/\(uM blocks e=false->wn blocks t=false) from⟨xX (uM blocks) he,fun h=>edge_bad he h⟩)
   have HE:=Lib.hid heb
   have he64':I64 eb:=heb ▸ he64
   obtain⟨he1,he2⟩:=he64'
   have hz1:=zB (o:=.cells #[.int .i64 eb,.slice aa e.args.length ac] 75) hblk
   have hz0:(wr.alloc (.cells #[.int .i64 eb,.slice aa e.args.length ac] 75)).heap[wr.heap.size]? =some (.cells #[.int .i64 eb,.slice aa e.args.length ac] 75 (0,0)):=zI rfl
   have hzb:=HK.out.1.alloc (HK.out.1.size) (.cells #[.int .i64 eb,.slice aa e.args.length ac] 75)
   clear hc0 hc1 hav he hblk hlt hac ham he64 heb y2
   go_upto_region 4 with fail
   generalize hW1:wr.alloc (.cells #[.int .i64 eb,.slice aa e.args.length ac] 75)=W1 at *
   generalize wr.heap.size=b6 at *
   have z60:W1.cell? ⟨b6,0,none⟩=some (.int .i64 eb):=zA hz0 (by simp)
   have z61:W1.cell? ⟨b6,1,none⟩=some (.slice aa e.args.length ac):=zA hz0 (by simp)
   have zc:W1.cell? ⟨C,6,none⟩=some (.slice fa blocks.length fc):=zA hz1 h6
   have HZB:=Lib.hid hzb
   clear hW1 hz0 hz1 hzb hbw e0 e1
   by_cases g1:1<=eb
   ·have t1:decide (eb<1)=false:=decide_eq_false (by omega)
    obtain⟨j,rfl⟩:∃j:Nat,eb=(j:Int):=⟨eb.toNat,by omega⟩
    by_cases g2:j<blocks.length
    ·have t2:decide ((blocks.length:Int)<=(j:Int))=false:=decide_eq_false (by omega)
     have t2n:decide (blocks.length<=j)=false:=decide_eq_false (by omega)
     have t2I:(j:Int)<(blocks.length:Int):=by omega
     obtain⟨bx,hbx⟩:∃bx,blocks[j]? =some bx:=⟨_,List.getElem?_eq_getElem g2⟩
     obtain⟨fb,fo,rfl,hfb,_,_,_,pv,ov,tv2,hp0,_,_,hpi,_⟩:=HBL.out.get hbx
     obtain⟨pa,pc,rfl,hpc,hpm⟩:=hpi.form
     have hpl:bx.params.length<=9223372036854775807:=by omega
     have hbw1:Below w.heap.size w W1:=HB0.out.trans (HZB.out.mono HB0.out.size)
     have p0:=zV hbw1 (Nat.lt_of_lt_of_le hfb hB) hp0
     obtain⟨q3,hq3⟩:∃q,decide (e.args.length=bx.params.length)=q:=⟨_,rfl⟩
     have t3:((e.args.length:Int) !=(bx.params.length:Int))=!q3:=by
      rw[bne,zf (q:=q3) (zZ hq3 (by omega))]
     have hef:uM blocks e=q3:=by
      unfold uM xz
      rw[HE.out,decide_eq_true g1,decide_eq_true t2I,Int.toNat_natCast,List.getD_eq_getElem?_getD,hbx,Option.getD_some,hq3];rfl
     have HEF:=Lib.hid hef
     clear hbx hp0 hpi hpc hpm hbw1 hef hq3 g2
     cases q3 with
     |true=>
      go_quiet (fail)
      go_wp2
      go_roundw
      case rel=>exact⟨k+1,HLT.out,by go_num,Lib.hid ⟨yC HZB.out,by rw[HT.out.1,HK.out.2,HEF.out];rfl⟩⟩
      case measure=>have:=HLT.out;simp[intOf];omega
     |false=>
      go_quiet (fail)
      go_wp2
      go_ret
      exact⟨uz (HRES.out.1.symm.trans (HT.out.2 HEF.out)),yC (HB0.out.trans (HZB.out.mono HB0.out.size))⟩
    ·have t2:decide ((blocks.length:Int)<=(j:Int))=true:=decide_eq_true (by omega)
     have t2n:decide (blocks.length<=j)=true:=decide_eq_true (by omega)
     have hef:uM blocks e=false:=by
      unfold uM
      rw[HE.out,decide_eq_false (show ¬(j:Int)<(blocks.length:Int) by omega),Bool.and_false];rfl
     have HEF:=Lib.hid hef
     clear hef g2
     go_quiet (fail)
     go_wp2
     go_ret
     exact⟨uz (HRES.out.1.symm.trans (HT.out.2 HEF.out)),yC (HB0.out.trans (HZB.out.mono HB0.out.size))⟩
   ·have t1:decide (eb<1)=true:=decide_eq_true (by omega)
    have hef:uM blocks e=false:=by
     unfold uM
     rw[HE.out,decide_eq_false g1];rfl
    have HEF:=Lib.hid hef
    clear hef g1
    go_quiet (fail)
    go_wp2
    go_ret
    exact⟨uz (HRES.out.1.symm.trans (HT.out.2 HEF.out)),yC (HB0.out.trans (HZB.out.mono HB0.out.size))⟩
  ·obtain rfl:k=t.to.length:=by omega
   have hltI:¬(t.to.length:Int)<t.to.length:=by omega
   have hblk:=zH HK.out.1 HX0.out (lt_of_block HX0.out)
   have z0:wr.cell? ⟨w.heap.size,0,none⟩=some (.int .i64 tk):=zA hblk (by simp)
   have z1:wr.cell? ⟨w.heap.size,1,none⟩=some (.int .i64 tA):=zA hblk (by simp)
   have z2:wr.cell? ⟨w.heap.size,2,none⟩=some (.slice ta t.to.length tc):=zA hblk (by simp)
   have hall:t.to.all (uM blocks)=true:=by have:=HK.out.2;rwa [List.take_length] at this
   have HR:Hid ((if tk=1 then decide (t.to.length=1) && decide (tA=0)
    else if tk=2 then decide (t.to.length=2)
    else if tk=3 then decide (1<=t.to.length)
    else if tk=4 then decide (t.to.length=0)
    else if tk=5 then decide (t.to.length=0) && decide (tA=0)
    else false)=res):=by
    have h:=HRES.out
    unfold wn at h
    rw[hall,Bool.true_and,h.2.1,h.2.2] at h
    exact h.1
   have HBW:=Lib.hid (show Below w.heap.size w wr from HB0.out.trans (HK.out.1.mono HB0.out.size))
   obtain⟨a1,h1⟩:∃q,decide (t.to.length=1)=q:=⟨_,rfl⟩
   obtain⟨a2,h2⟩:∃q,decide (t.to.length=2)=q:=⟨_,rfl⟩
   obtain⟨a3,h3⟩:∃q,decide (1<=t.to.length)=q:=⟨_,rfl⟩
   obtain⟨a4,h4⟩:∃q,decide (t.to.length=0)=q:=⟨_,rfl⟩
   obtain⟨a5,h5⟩:∃q,decide (tA=0)=q:=⟨_,rfl⟩
   rw[h1,h2,h3,h4,h5] at HR
   have t1:((t.to.length:Int)==1)=a1:=zf (zZ h1 (by omega))
   have t2:((t.to.length:Int)==2)=a2:=zf (zZ h2 (by omega))
   have t3:decide ((1:Int)<=(t.to.length:Int))=a3:=zZ h3 (by omega)
   have t4:((t.to.length:Int)==0)=a4:=zf (zZ h4 (by omega))
   have t5:=zf h5
   clear hall hblk h1 h2 h4 h5 y2 hlt
   by_cases k1:tk=1
   ·subst k1
    cases a1<;>cases a5
    all_goals go_wp2
    all_goals go_ret
    all_goals exact⟨uz (HR.out.symm.trans rfl),HBW.out⟩
   by_cases k2:tk=2
   ·subst k2
    go_wp2
    go_ret
    exact⟨uz (HR.out.symm.trans rfl),HBW.out⟩
   by_cases k3:tk=3
   ·subst k3
    go_wp2
    go_ret
    exact⟨uz (HR.out.symm.trans rfl),HBW.out⟩
   by_cases k4:tk=4
   ·subst k4
    go_wp2
    go_ret
    exact⟨uz (HR.out.symm.trans rfl),HBW.out⟩
   by_cases k5:tk=5
   ·subst k5
    cases a4<;>cases a5
    all_goals go_wp2
    all_goals go_ret
    all_goals exact⟨uz (HR.out.symm.trans rfl),HBW.out⟩
   have HR2:Hid (false=res):=by
    have:=HR.out
    rw[if_neg k1,if_neg k2,if_neg k3,if_neg k4,if_neg k5] at this
    exact this
   have u1:(tk==1)=false:=by rw[beq_eq_false_iff_ne];exact k1
   have u2:(tk==2)=false:=by rw[beq_eq_false_iff_ne];exact k2
   have u3:(tk==3)=false:=by rw[beq_eq_false_iff_ne];exact k3
   have u4:(tk==4)=false:=by rw[beq_eq_false_iff_ne];exact k4
   have u5:(tk==5)=false:=by rw[beq_eq_false_iff_ne];exact k5
   clear k1 k2 k3 k4 k5 HR
   go_wp2
   go_ret
   exact⟨uz HR2.out.symm,HBW.out⟩
end Go.Proofs.Ytojclalkfhoooaa
