/- Part of a proof. -/
import Derived.Test.YtojclalkfhoooaaGVmD
set_option linter.unusedSimpArgs false
set_option linter.unusedVariables false
set_option maxHeartbeats 8000000
set_option maxRecDepth 100000
namespace Go.Proofs.Ytojclalkfhoooaa
open Go.RowKit
theorem cnt_lt {i j:Nat}(hi:i<=2000000)(hj:j<=2000000):i*4000000+j<9000000000000000000:=by omega
theorem cnt_lt2 {i j:Nat}(hi:i<=2000000)(hj:j<=2000000):i*4000000+2000000+j<9000000000000000000:=by omega
theorem cnt_0 (i:Nat):i*4000000<=i*4000000+0:=by omega
theorem cnt_1 (i j:Nat):i*4000000+j+1<=i*4000000+(j+1):=by omega
theorem cnt_2 {i j:Nat}(h:j<=2000000):i*4000000+j<=i*4000000+2000000+0:=by omega
theorem cnt_3 (i j:Nat):i*4000000+2000000+j+1<=i*4000000+2000000+(j+1):=by omega
theorem cnt_3' (i j:Nat):i*4000000+2000000+j<=i*4000000+2000000+(j+1):=by omega
theorem cnt_4 {i j:Nat}(h:j<=2000000):i*4000000+2000000+j<=(i+1)*4000000:=by omega
theorem wA.le {w:World}{b n n':Nat}{g:Int->Option Int}(h:wA w b n g)(hn:n<=n'):wA w b n' g:=by
 obtain⟨D,⟨es,clock,k1,k2,k3,k4⟩,k5⟩:=h
 exact⟨D,⟨es,clock,k1,k2,Nat.le_trans k3 hn,k4⟩,k5⟩
theorem ChkAt.le {w:World}{C m1 m2:Nat}{pv:List Value}{blv idv:Value}{n n':Nat}{d:wO}(h:ChkAt w C m1 m2 pv blv idv n d)(hn:n<=n'):ChkAt w C m1 m2 pv blv idv n' d:=
 ⟨h.blk,h.plen,h.map1.le hn,h.map2.le hn,h.ne,h.dom⟩
theorem qL {n:Nat}(h:n<=9000000):I64 (n:Int):=⟨by omega,by omega⟩
theorem blkF_eq {p:IProg}{bl:List IBlk}{i:Int}{b:IBlk}{d d1 d2:wO}(h1:vJ i b.params d=some d1)(h2:sS p i b.ops 0 d1=some d2):pS p bl i b d=if wn bl b.term then some d2 else none:=by
 unfold pS;rw[h1,Option.bind_some,h2,Option.bind_some]
theorem mS {p:IProg}{bl:List IBlk}{i:Int}{b:IBlk}{d:wO}(h1:vJ i b.params d=none):pS p bl i b d=none:=by
 unfold pS;rw[h1];rfl
theorem mm {p:IProg}{bl:List IBlk}{i:Int}{b:IBlk}{d d1:wO}(h1:vJ i b.params d=some d1)(h2:sS p i b.ops 0 d1=none):pS p bl i b d=none:=by
 unfold pS;rw[h1,Option.bind_some,h2];rfl
theorem lM {w:World}{B C m1 m2:Nat}{V:PV}{p:IProg}{fbv idv:Value}{blocks:List IBlk}(hp:ProgIn w B V p)(hbl:wX w B fbv blocks)(hB:B<=w.heap.size)(h1:B<=m1)(h2:B<=m2)(hl:p.args.length=p.funcs.length)(hs:vZ blocks)
 (hc:ChkAt w C m1 m2 (rC V p) fbv idv 0 sy):
 Calls Try.prog 66 #[.pointer (some ⟨C,0,none⟩)] w (ShpPost w C m1 m2 (rC V p) fbv idv (wg p blocks)):=by
 obtain⟨fa,fc,rfl,hfc,hfm⟩:=hbl.form
 have hfl:blocks.length<=9223372036854775807:=by omega
 have HBL:=Lib.hid hbl
 have HPS:=Lib.hid (show ProgIn w B V p/\B<=w.heap.size/\B<=m1/\B<=m2/\p.args.length=p.funcs.length/\vZ blocks from⟨hp,hB,h1,h2,hl,hs⟩)
 have HNE:=Lib.hid hc.ne1
 have HMM:=Lib.hid (And.intro hc.map1.lt hc.map2.lt)
 have HC0:=Lib.hid hc
 obtain⟨res,hres⟩:∃x,wg p blocks=x:=⟨_,rfl⟩
 rw[hres]
 have HRES:=Lib.hid hres
 have y6:w.cell? ⟨C,6,none⟩=some (.slice fa blocks.length fc):=zA hc.blk rfl
 clear hp hbl hB h1 h2 hl hs hc hres hfc hfm
 go_enter Try.func66,Try.ntmps66
 go_wp2
 go_loopw [15] (fun kv wx=>∃i:Nat,i<=blocks.length/\kv=.int .i64 (i:Int)/\Hid (Kept m1 m2 w wx/\∃d,ChkAt wx C m1 m2 (rC V p) (.slice fa blocks.length fc) idv (i*4000000) d/\uH p blocks (blocks.take i) 0 sy=some d)) (fun kv _=>blocks.length-(intOf kv).toNat)
 case atStart=>exact⟨0,Nat.zero_le _,rfl,Lib.hid ⟨Kept.refl _ _ _,sy,HC0.out,rfl⟩⟩
 case round=>
  obtain⟨i,hi,rfl,HI⟩:=hrel
  by_cases hlt:i<blocks.length
  ·have hltI:(i:Int)<blocks.length:=by omega
   have HLT:=Lib.hid hlt
   obtain⟨bx,hbx⟩:∃bx,blocks[i]? =some bx:=⟨_,List.getElem?_eq_getElem hlt⟩
   obtain⟨fb,fo,rfl,hfb,hk0,hk1,hk64,pv,ov,tv,hp0,hp1,hp2,hpi,hoi,hti⟩:=HBL.out.get hbx
   obtain⟨pa,pc,rfl,hpc,hpm⟩:=hpi.form
   obtain⟨oa,oc,rfl,hoc,hom⟩:=hoi.form
   obtain⟨ta,tc,rfl,htc,htm⟩:=hti.form
   have hpl:bx.params.length<=9223372036854775807:=by omega
   have hol:bx.ops.length<=9223372036854775807:=by omega
   have hbw:Below B w wr:=HI.out.1.below HPS.out.2.2.1 HPS.out.2.2.2.1 HPS.out.2.1
   have e0:=zV hbw hfb hp0
   have e1:=zV hbw hfb hp1
   have e2:=zV hbw hfb hk0
   have e3:=zV hbw hfb hk1
   have e4:=zV hbw hfb hp2
   have HBX:=Lib.hid (show blocks[i]? =some bx/\zY w B (.slice pa bx.params.length pc) bx.params/\mN w B (.slice oa bx.ops.length oc) bx.ops/\wH w B (.slice ta bx.term.to.length tc) bx.term.to/\(I64 bx.term.kind/\I64 bx.term.a) from⟨hbx,hpi,hoi,hti,hk64⟩)
   obtain⟨d,hcd,hpre⟩:=HI.out.2
   have hci:=hcd.below ((Below.refl wr.heap.size wr).alloc (Nat.le_refl _) (.cells #[.slice pa bx.params.length pc,.slice oa bx.ops.length oc,.int .i64 bx.term.kind,.int .i64 bx.term.a,.slice ta bx.term.to.length tc] 49))
   have HMR:=Lib.hid (And.intro hcd.map1.lt hcd.map2.lt)
   have HPRE:=Lib.hid hpre
   have hz0:(wr.alloc (.cells #[.slice pa bx.params.length pc,.slice oa bx.ops.length oc,.int .i64 bx.term.kind,.int .i64 bx.term.a,.slice ta bx.term.to.length tc] 49)).heap[wr.heap.size]? =some (.cells #[.slice pa bx.params.length pc,.slice oa bx.ops.length oc,.int .i64 bx.term.kind,.int .i64 bx.term.a,.slice ta bx.term.to.length tc] 49 (0,0)):=zI rfl
   have hkw:=HI.out.1.trans (Kept.of ((Below.refl wr.heap.size wr).alloc (Nat.le_refl _) (.cells #[.slice pa bx.params.length pc,.slice oa bx.ops.length oc,.int .i64 bx.term.kind,.int .i64 bx.term.a,.slice ta bx.term.to.length tc] 49)))
   clear hbx hk0 hk1 hk64 hp0 hp1 hp2 hpi hoi hti hpc hpm hoc hom htc htm hbw hcd hpre hlt y6
   go_upto_region 4 with fail
   generalize hW1:wr.alloc (.cells #[.slice pa bx.params.length pc,.slice oa bx.ops.length oc,.int .i64 bx.term.kind,.int .i64 bx.term.a,.slice ta bx.term.to.length tc] 49)=W1 at *
   generalize hb4:wr.heap.size=b4 at *
   have z0:W1.cell? ⟨b4,0,none⟩=some (.slice pa bx.params.length pc):=zA hz0 (by simp)
   have HZ0:=Lib.hid (show W1.heap[b4]? =some (.cells #[.slice pa bx.params.length pc,.slice oa bx.ops.length oc,.int .i64 bx.term.kind,.int .i64 bx.term.a,.slice ta bx.term.to.length tc] 49 (0,0))/\b4≠m1/\b4≠m2 from⟨hz0,by have:=HMR.out.1;omega,by have:=HMR.out.2;omega⟩)
   have HKW:=Lib.hid hkw
   have HCI:=Lib.hid hci
   have HSB:=Lib.hid (HPS.out.2.2.2.2.2.2 bx (List.mem_of_getElem? HBX.out.1))
   have HIL:=Lib.hid (show i<=2000000 from Nat.le_trans hi HPS.out.2.2.2.2.2.1)
   clear hW1 hb4 hz0 hci hkw e0 e1 e2 e3 e4
   go_wp2
   go_loopw [23] (fun jv wx=>∃j:Nat,j<=bx.params.length/\jv=.int .i64 (j:Int)/\Hid (Kept m1 m2 W1 wx/\∃d',ChkAt wx C m1 m2 (rC V p) (.slice (some ⟨fb,fo,none⟩) blocks.length fc) idv (i*4000000+j) d'/\vJ i (bx.params.take j) d=some d')) (fun jv _=>bx.params.length-(intOf jv).toNat)
   case atStart=>exact⟨0,Nat.zero_le _,rfl,Lib.hid ⟨Kept.refl _ _ _,d,HCI.out.le (cnt_0 i),rfl⟩⟩
   case round=>
    obtain⟨j,hj,rfl,HJ⟩:=hrel
    by_cases hltj:j<bx.params.length
    ·have hltjI:(j:Int)<bx.params.length:=by omega
     have HLTJ:=Lib.hid hltj
     obtain⟨v,hv⟩:∃v,bx.params[j]? =some v:=⟨_,List.getElem?_eq_getElem hltj⟩
     obtain⟨qb,qo,rfl,hqb,hqc,hv64⟩:=HBX.out.2.1.get hv
     rw[Nat.mul_one] at hqc
     have hbw:Below B w wr:=(HKW.out.trans HJ.out.1).below HPS.out.2.2.1 HPS.out.2.2.2.1 HPS.out.2.1
     have cv:=zV hbw hqb hqc
     obtain⟨d',hcd,hpre⟩:=HJ.out.2
     have HV:=Lib.hid (show bx.params[j]? =some v/\vJ i (bx.params.take j) d=some d' from⟨hv,hpre⟩)
     have h64i:I64 (i:Int):=qL (by have:=HIL.out;omega)
     have h64m:I64 (-1):=⟨by omega,by omega⟩
     cases hdf:rB d' v i (-1) with
     |none=>
      have HD:=Lib.hid hdf
      have HCALL:=Lib.hid (oK hcd v i (-1) hv64 h64i h64m hdf)
      clear hv hqc hqb hbw hcd hpre hdf h64i h64m hltj hv64 z0
      go_wp2_with (go_at_call 97;go_must (refine HCALL.out.mono ?_;intro e w1 hh;obtain⟨rfl,hw⟩:=hh;rw[hw];clear hw))
      go_ret
      refine⟨?_,HKW.out.trans HJ.out.1,fun d2 hd2=>?_⟩
      ·rw[<-HRES.out,wS,vt HBX.out.1 HPRE.out (mS (qr HV.out.1 HV.out.2 HD.out))];rfl
      ·rw[<-HRES.out,wS,vt HBX.out.1 HPRE.out (mS (qr HV.out.1 HV.out.2 HD.out))] at hd2;cases hd2
     |some d2=>
      have HD:=Lib.hid hdf
      have HCALL:=Lib.hid (qk hcd (cnt_lt HIL.out (Nat.le_trans hj HSB.out.1)) v i (-1) hv64 h64i h64m hdf)
      clear hv hqc hqb hbw hcd hpre hdf h64i h64m hltj hv64 z0
      go_wp2_with (go_at_call 97;go_must (refine HCALL.out.mono ?_;rintro e w1 ⟨rfl,hcd1,hk1⟩))
      have HC1:=Lib.hid (And.intro hcd1 hk1)
      clear hcd1 hk1
      go_roundw
      case rel=>exact⟨j+1,HLTJ.out,by go_num,Lib.hid ⟨HJ.out.1.trans HC1.out.2,d2,HC1.out.1.le (cnt_1 i j),(lf HV.out.1 HV.out.2).trans HD.out⟩⟩
      case measure=>have:=HLTJ.out;simp[intOf];omega
    ·obtain rfl:j=bx.params.length:=by omega
     have hltjI:¬(bx.params.length:Int)<bx.params.length:=by omega
     obtain⟨d1,hcd,hpre⟩:=HJ.out.2
     rw[List.take_length] at hpre
     have HD1:=Lib.hid hpre
     have HCD:=Lib.hid hcd
     have hzr:=HJ.out.1.blk HZ0.out.1 HZ0.out.2.1 HZ0.out.2.2
     have z1:wr.cell? ⟨b4,1,none⟩=some (.slice oa bx.ops.length oc):=zA hzr (by simp)
     have HZR:=Lib.hid hzr
     have HKR:=Lib.hid (HKW.out.trans HJ.out.1)
     clear hcd hpre hltj hzr z0
     generalize wr=W2 at *
     go_wp2
     go_loopw [36] (fun kv wx=>∃k:Nat,k<=bx.ops.length/\kv=.int .i64 (k:Int)/\Hid (Kept m1 m2 W2 wx/\∃d',ChkAt wx C m1 m2 (rC V p) (.slice (some ⟨fb,fo,none⟩) blocks.length fc) idv (i*4000000+2000000+k) d'/\sS p i (bx.ops.take k) 0 d1=some d')) (fun kv _=>bx.ops.length-(intOf kv).toNat)
     case atStart=>exact⟨0,Nat.zero_le _,rfl,Lib.hid ⟨Kept.refl _ _ _,d1,HCD.out.le (cnt_2 HSB.out.1),rfl⟩⟩
     case round=>
      obtain⟨k,hk,rfl,HK⟩:=hrel
      by_cases hltk:k<bx.ops.length
      ·have hltkI:(k:Int)<bx.ops.length:=by omega
       have HLTK:=Lib.hid hltk
       obtain⟨o,ho⟩:∃o,bx.ops[k]? =some o:=⟨_,List.getElem?_eq_getElem hltk⟩
       obtain⟨qb,qo,rfl,hqb,hq0,hq1,hq2,hq3,hq4,ho64,av,hq5,hai⟩:=HBX.out.2.2.1.get ho
       obtain⟨aa,ac,rfl,hac,ham⟩:=hai.form
       have hbw:Below B w wr:=(HKR.out.trans HK.out.1).below HPS.out.2.2.1 HPS.out.2.2.2.1 HPS.out.2.1
       have c0:=zV hbw hqb hq0
       have c1:=zV hbw hqb hq1
       have c2:=zV hbw hqb hq2
       have c3:=zV hbw hqb hq3
       have c4:=zV hbw hqb hq4
       have c5:=zV hbw hqb hq5
       obtain⟨d',hcd,hpre⟩:=HK.out.2
       have HV:=Lib.hid (show bx.ops[k]? =some o/\sS p i (bx.ops.take k) 0 d1=some d' from⟨ho,hpre⟩)
       have HOO:=Lib.hid (show(I64 o.code/\I64 o.res/\I64 o.a/\I64 o.b/\o.n<65536)/\o.args.length<=ac/\ac<=9223372036854775807 from⟨ho64,hac,ham⟩)
       have hblw:=(Below.refl wr.heap.size wr).alloc (Nat.le_refl _) (.cells #[.int .i64 o.code,.int .i64 o.res,.int .i64 o.a,.int .i64 o.b,.int .u16 (o.n:Int),.slice aa o.args.length ac] 77)
       have hz5:(wr.alloc (.cells #[.int .i64 o.code,.int .i64 o.res,.int .i64 o.a,.int .i64 o.b,.int .u16 (o.n:Int),.slice aa o.args.length ac] 77)).heap[wr.heap.size]? =some (.cells #[.int .i64 o.code,.int .i64 o.res,.int .i64 o.a,.int .i64 o.b,.int .u16 (o.n:Int),.slice aa o.args.length ac] 77 (0,0)):=zI rfl
       have hkx:=HK.out.1.trans (Kept.of hblw)
       have hcx:=hcd.below hblw
       have hbx:Below B w (wr.alloc (.cells #[.int .i64 o.code,.int .i64 o.res,.int .i64 o.a,.int .i64 o.b,.int .u16 (o.n:Int),.slice aa o.args.length ac] 77)):=hbw.alloc (Nat.le_trans HPS.out.2.1 hbw.size) _
       have HMR2:=Lib.hid (And.intro hcd.map1.lt hcd.map2.lt)
       clear ho hq0 hq1 hq2 hq3 hq4 hq5 ho64 hai hac ham hbw hcd hpre hltk z1
       go_upto_region 13 with fail
       generalize hW3:wr.alloc (.cells #[.int .i64 o.code,.int .i64 o.res,.int .i64 o.a,.int .i64 o.b,.int .u16 (o.n:Int),.slice aa o.args.length ac] 77)=W3 at *
       generalize hb8:wr.heap.size=b8 at *
       have z80:W3.cell? ⟨b8,0,none⟩=some (.int .i64 o.code):=zA hz5 (by simp)
       have z81:W3.cell? ⟨b8,1,none⟩=some (.int .i64 o.res):=zA hz5 (by simp)
       have z82:W3.cell? ⟨b8,2,none⟩=some (.int .i64 o.a):=zA hz5 (by simp)
       have z83:W3.cell? ⟨b8,3,none⟩=some (.int .i64 o.b):=zA hz5 (by simp)
       have z84:W3.cell? ⟨b8,4,none⟩=some (.int .u16 (o.n:Int)):=zA hz5 (by simp)
       have z85:W3.cell? ⟨b8,5,none⟩=some (.slice aa o.args.length ac):=zA hz5 (by simp)
       have hop:=oper_any (HPS.out.1.below hbx) (Nat.le_trans HPS.out.2.1 hbx.size) hcx.blk HPS.out.2.2.2.2.1 o HOO.out.1 aa ac HOO.out.2
       unfold opV at hop
       have HOP:=Lib.hid hop
       have HKX:=Lib.hid hkx
       have HCX:=Lib.hid hcx
       have HZ5:=Lib.hid hz5
       have HMB:=Lib.hid (show b8≠m1/\b8≠m2 from⟨by have:=HMR2.out.1;omega,by have:=HMR2.out.2;omega⟩)
       clear hop hkx hcx hz5 hW3 hb8 hbx hblw c0 c1 c2 c3 c4 c5
       obtain⟨q,hq⟩:∃q,opF p o=q:=⟨_,rfl⟩
       rw[hq] at HOP
       have HQ:=Lib.hid hq
       clear hq
       cases q with
       |false=>
        go_wp2_with (first|(go_at_call 98;go_must (refine HOP.out.mono ?_;rintro e w4 ⟨rfl,hb4⟩))|go_in)
        go_ret
        have hno:wg p blocks=none:=by
         rw[wS]
         exact vt HBX.out.1 HPRE.out (mm HD1.out (oR HV.out.1 HV.out.2 (by unfold ug;rw[HQ.out];rfl)))
        refine⟨?_,(HKR.out.trans HKX.out).trans (Kept.of hb4),fun d2 hd2=>?_⟩
        ·rw[<-HRES.out,hno];rfl
        ·rw[<-HRES.out,hno] at hd2;cases hd2
       |true=>
        by_cases hr:0<=o.res
        ·have t1:decide (0<=o.res)=true:=decide_eq_true hr
         have HR:=Lib.hid hr
         obtain⟨r,hdf⟩:∃r,rB d' o.res i k=r:=⟨_,rfl⟩
         have HD:=Lib.hid hdf
         have h64:=Lib.hid (show I64 o.res/\I64 (i:Int)/\I64 (k:Int) from⟨HOO.out.1.2.1,qL (Nat.le_trans HIL.out (by decide)),qL (Nat.le_trans (Nat.le_trans hk HSB.out.2.1) (by decide))⟩)
         clear hr hdf
         cases r with
         |none=>
          go_wp2_with (first|(go_at_call 98;go_must (refine HOP.out.mono ?_;rintro e w4 ⟨rfl,hb4⟩;have hc4:=HCX.out.below hb4;have hz4:=zH hb4 HZ5.out (lt_of_block HZ5.out);have u1:w4.cell? ⟨b8,1,none⟩=some (.int .i64 o.res):=zA hz4 (by simp);have HC4:=Lib.hid (And.intro hc4 hb4);clear hc4 hb4 hz4))|(go_at_call 97;go_must (refine(oK HC4.out.1 o.res i k h64.out.1 h64.out.2.1 h64.out.2.2 HD.out).mono ?_;intro e w5 hh;obtain⟨rfl,hw⟩:=hh;rw[hw];clear hw))|go_in)
          go_ret
          have hno:wg p blocks=none:=by
           rw[wS]
           exact vt HBX.out.1 HPRE.out (mm HD1.out (oR HV.out.1 HV.out.2 (by unfold ug;rw[HQ.out,if_pos rfl,if_pos HR.out,HD.out])))
          refine⟨?_,(HKR.out.trans HKX.out).trans (Kept.of HC4.out.2),fun d2 hd2=>?_⟩
          ·rw[<-HRES.out,hno];rfl
          ·rw[<-HRES.out,hno] at hd2;cases hd2
         |some d2=>
          go_wp2_with (first|(go_at_call 98;go_must (refine HOP.out.mono ?_;rintro e w4 ⟨rfl,hb4⟩;have hc4:=HCX.out.below hb4;have hz4:=zH hb4 HZ5.out (lt_of_block HZ5.out);have u1:w4.cell? ⟨b8,1,none⟩=some (.int .i64 o.res):=zA hz4 (by simp);have HC4:=Lib.hid (And.intro hc4 hb4);clear hc4 hb4 hz4))|(go_at_call 97;go_must (refine(qk HC4.out.1 (cnt_lt2 HIL.out (Nat.le_trans hk HSB.out.2.1)) o.res i k h64.out.1 h64.out.2.1 h64.out.2.2 HD.out).mono ?_;rintro e w5 ⟨rfl,hcd1,hk1⟩;have HC1:=Lib.hid (And.intro hcd1 hk1);clear hcd1 hk1))|go_in)
          go_roundw
          case rel=>exact⟨k+1,HLTK.out,by go_num,Lib.hid ⟨(HKX.out.trans (Kept.of HC4.out.2)).trans HC1.out.2,d2,HC1.out.1.le (cnt_3 i k),(og HV.out.1 HV.out.2).trans (by unfold ug;rw[HQ.out,if_pos rfl,if_pos HR.out,HD.out])⟩⟩
          case measure=>have:=HLTK.out;simp[intOf];omega
        ·have t1:decide (0<=o.res)=false:=decide_eq_false hr
         have HR:=Lib.hid hr
         clear hr
         go_wp2_with (first|(go_at_call 98;go_must (refine HOP.out.mono ?_;rintro e w4 ⟨rfl,hb4⟩;have hc4:=HCX.out.below hb4;have hz4:=zH hb4 HZ5.out (lt_of_block HZ5.out);have u1:w4.cell? ⟨b8,1,none⟩=some (.int .i64 o.res):=zA hz4 (by simp);have HC4:=Lib.hid (And.intro hc4 hb4);clear hc4 hb4 hz4))|go_in)
         go_roundw
         case rel=>exact⟨k+1,HLTK.out,by go_num,Lib.hid ⟨HKX.out.trans (Kept.of HC4.out.2),d',HC4.out.1.le (cnt_3' i k),(og HV.out.1 HV.out.2).trans (by unfold ug;rw[HQ.out,if_pos rfl,if_neg (by have:=HR.out;omega)])⟩⟩
         case measure=>have:=HLTK.out;simp[intOf];omega
      ·obtain rfl:k=bx.ops.length:=by omega
       have hltkI:¬(bx.ops.length:Int)<bx.ops.length:=by omega
       obtain⟨d2,hcd,hpre⟩:=HK.out.2
       rw[List.take_length] at hpre
       have hzr:=HK.out.1.blk HZR.out HZ0.out.2.1 HZ0.out.2.2
       have z2:wr.cell? ⟨b4,2,none⟩=some (.int .i64 bx.term.kind):=zA hzr (by simp)
       have z3:wr.cell? ⟨b4,3,none⟩=some (.int .i64 bx.term.a):=zA hzr (by simp)
       have z4:wr.cell? ⟨b4,4,none⟩=some (.slice ta bx.term.to.length tc):=zA hzr (by simp)
       have hbw:Below B w wr:=(HKR.out.trans HK.out.1).below HPS.out.2.2.1 HPS.out.2.2.2.1 HPS.out.2.1
       have hterm:=term_any (HBL.out.below yT hbw) (Nat.le_trans HPS.out.2.1 hbw.size) hcd.blk rfl bx.term HBX.out.2.2.2.2 (HBX.out.2.2.2.1.below xL hbw)
       have HBF:=Lib.hid (blkF_eq (p:=p) (bl:=blocks) HD1.out hpre)
       obtain⟨q,hq⟩:∃q,wn blocks bx.term=q:=⟨_,rfl⟩
       rw[hq] at hterm HBF
       have HTM:=Lib.hid hterm
       have HCD2:=Lib.hid hcd
       clear hcd hpre hzr hbw hterm hq hltk z1
       cases q with
       |false=>
        go_wp2_with (first|(go_at_call 99;go_must (refine HTM.out.mono ?_;rintro e w4 ⟨rfl,hb4⟩))|go_in)
        go_ret
        have hno:wg p blocks=none:=by
         rw[wS]
         exact vt HBX.out.1 HPRE.out (by rw[HBF.out];rfl)
        refine⟨?_,(HKR.out.trans HK.out.1).trans (Kept.of hb4),fun d2 hd2=>?_⟩
        ·rw[<-HRES.out,hno];rfl
        ·rw[<-HRES.out,hno] at hd2;cases hd2
       |true=>
        go_wp2_with (first|(go_at_call 99;go_must (refine HTM.out.mono ?_;rintro e w4 ⟨rfl,hb4⟩))|go_in)
        have HB4:=Lib.hid hb4
        clear hb4
        go_roundw
        case rel=>exact⟨i+1,HLT.out,by go_num,Lib.hid ⟨(HKR.out.trans HK.out.1).trans (Kept.of HB4.out),d2,(HCD2.out.below HB4.out).le (cnt_4 HSB.out.2.1),(lQ HBX.out.1 HPRE.out).trans (by rw[HBF.out];rfl)⟩⟩
        case measure=>have:=HLT.out;simp[intOf];omega
  ·obtain rfl:i=blocks.length:=by omega
   have hltI:¬(blocks.length:Int)<blocks.length:=by omega
   obtain⟨d,hcd,hpre⟩:=HI.out.2
   rw[List.take_length] at hpre
   have HCD:=Lib.hid (And.intro hcd hpre)
   clear hcd hpre hlt
   go_wp2
   go_ret
   have hr:res=some d:=by rw[<-HRES.out,wS,HCD.out.2]
   rw[hr]
   refine⟨rfl,HI.out.1,fun d2 hd2=>?_⟩
   cases hd2
   exact⟨_,cnt_lt HPS.out.2.2.2.2.2.1 (Nat.zero_le _),HCD.out.1.le (cnt_0 _)⟩
end Go.Proofs.Ytojclalkfhoooaa
