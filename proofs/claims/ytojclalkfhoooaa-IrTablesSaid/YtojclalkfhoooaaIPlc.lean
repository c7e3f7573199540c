/- Part of a proof. -/
import Derived.Test.YtojclalkfhoooaaIHdr
set_option linter.unusedSimpArgs false
set_option linter.unusedVariables false
set_option maxHeartbeats 3200000
set_option maxRecDepth 100000
namespace Go.Proofs.Ytojclalkfhoooaa
open Go.RowKit
def mh (l:List ByteArray):Bool:=l.all fun s=>decide (s.size=4096)
def lF (o:IObj)(l:List IObj):Bool:=l.all fun x=>!uK o x
def lm (nb:Nat)(l:List IObj)(i:Nat):Bool:=match l[i]? with|some o=>sW nb o && lF o (l.take i)|none=>true
def ig (nb:Nat)(l:List IObj):Bool:=(List.range l.length).all (lm nb l)
def wB (p:IProg):Bool:=mh p.banks && ig p.banks.length p.data
theorem xX {α:Type}(f:α->Bool){l:List α}{k:Nat}{x:α}(h:l[k]? =some x):(l.take (k+1)).all f=((l.take k).all f && f x):=by
 rw[List.take_add_one,h,List.all_append];simp
theorem vP {α:Type}(f:α->Bool){l:List α}{k:Nat}{x:α}(h:l[k]? =some x)(hf:f x=false):l.all f=false:=by
 rw[List.all_eq_false];exact⟨x,List.mem_of_getElem? h,by rw[hf];simp⟩
theorem mO {nb:Nat}{l:List IObj}{i:Nat}(hi:i<l.length)(h:lm nb l i=false):ig nb l=false:=by
 unfold ig;rw[List.all_eq_false];exact⟨i,List.mem_range.2 hi,by rw[h];simp⟩
def mQ (nb:Nat)(l:List IObj)(i:Nat):Bool:=(List.range i).all (lm nb l)
theorem nU (nb:Nat)(l:List IObj)(i:Nat):mQ nb l (i+1)=(mQ nb l i && lm nb l i):=by unfold mQ;rw[List.range_succ,List.all_append];simp
theorem kN {w:World}{V:PV}{p:IProg}(hp:ProgIn w w.heap.size V p):
 Calls Try.prog 65 #[yH V p] w fun e w'=>e=.returned (.bool (wB p))/\Below w.heap.size w w':=by
 obtain⟨Vf,Va,Vd,Vb⟩:=V
 obtain⟨f1,f2,e1,_,_⟩:=hp.funcs.form
 obtain⟨a1,a2,e2,_,_⟩:=hp.args.form
 have hpd:=hp.data
 have hpb:=hp.banks
 obtain⟨d1,d2,e3,hdc,hdm⟩:=hp.data.form
 obtain⟨b1,b2,e4,hbc,hbm⟩:=hp.banks.form
 simp only at e1 e2 e3 e4 hpd hpb
 subst e1 e2 e3 e4
 have HP:=Lib.hid hp
 have HPD:=Lib.hid hpd
 have HPB:=Lib.hid hpb
 unfold yH
 simp only
 have hdl:p.data.length<=d2:=hdc
 have hbl:p.banks.length<=9223372036854775807:=by omega
 clear hp hpd hpb
 go_enter Try.func65,Try.ntmps65
 go_upto_region 1 with fail
 have hb0:Below w.heap.size w (w.alloc (.cells #[.slice f1 p.funcs.length f2,.slice a1 p.args.length a2,.int .i64 p.entry,.int .i64 p.handler,.slice d1 p.data.length d2,.slice b1 p.banks.length b2] 29)):=(Below.refl _ _).alloc (Nat.le_refl _) _
 have hx0:(w.alloc (.cells #[.slice f1 p.funcs.length f2,.slice a1 p.args.length a2,.int .i64 p.entry,.int .i64 p.handler,.slice d1 p.data.length d2,.slice b1 p.banks.length b2] 29)).heap[w.heap.size]? =some (.cells #[.slice f1 p.funcs.length f2,.slice a1 p.args.length a2,.int .i64 p.entry,.int .i64 p.handler,.slice d1 p.data.length d2,.slice b1 p.banks.length b2] 29 (0,0)):=zI rfl
 generalize hW0:w.alloc (.cells #[.slice f1 p.funcs.length f2,.slice a1 p.args.length a2,.int .i64 p.entry,.int .i64 p.handler,.slice d1 p.data.length d2,.slice b1 p.banks.length b2] 29)=W0 at *
 have HB0:=Lib.hid hb0
 have HX0:=Lib.hid hx0
 have p5:W0.cell? ⟨w.heap.size,5,none⟩=some (.slice b1 p.banks.length b2):=zA hx0 (by simp)
 have p4:W0.cell? ⟨w.heap.size,4,none⟩=some (.slice d1 p.data.length d2):=zA hx0 (by simp)
 clear hW0 hb0 hx0
 go_wp2
 go_loopw [12] (fun kv wx=>∃k:Nat,k<=p.banks.length/\kv=.int .i64 (k:Int)/\wx=W0/\Hid ((p.banks.take k).all (fun s=>decide (s.size=4096))=true)) (fun kv _=>p.banks.length-(intOf kv).toNat)
 case atStart=>exact⟨0,Nat.zero_le _,rfl,rfl,by rfl⟩
 case round=>
  obtain⟨k,hk,rfl,rfl,HK⟩:=hrel
  generalize hWW:wr=W0 at *
  clear hWW
  by_cases hlt:k<p.banks.length
  ·have hltI:(k:Int)<p.banks.length:=by omega
   have HLT:=Lib.hid hlt
   obtain⟨s,hs⟩:∃s,p.banks[k]? =some s:=⟨_,List.getElem?_eq_getElem hlt⟩
   obtain⟨b,o,rfl,hb,hc,hsz⟩:=HPB.out.get hs
   rw[Nat.mul_one] at hc
   have cs:=zV HB0.out hb hc
   have hts:=xX (fun s:ByteArray=>decide (s.size=4096)) hs
   have hfa:=fun h=>vP (fun s:ByteArray=>decide (s.size=4096)) hs h
   have HT:=Lib.hid (And.intro hts hfa)
   clear hs hc hb hts hfa hlt
   by_cases hq:s.size=4096
   ·have t1:((s.size:Int) !=4096)=false:=by rw[bne_eq_false_iff_eq];omega
    have HQ:=Lib.hid hq
    clear hq
    go_wp2
    go_roundw
    case rel=>exact⟨k+1,HLT.out,by go_num,by trivial,Lib.hid (by rw[HT.out.1,HK.out];simp[HQ.out])⟩
    case measure=>have:=HLT.out;simp[intOf];omega
   ·have t1:((s.size:Int) !=4096)=true:=by rw[bne_iff_ne];omega
    have HQ:=Lib.hid hq
    clear hq
    go_wp2
    go_ret
    refine⟨rH ?_,HB0.out⟩
    have hfb:mh p.banks=false:=HT.out.2 (by simp[HQ.out])
    unfold wB;rw[hfb];rfl
  ·obtain rfl:k=p.banks.length:=by omega
   have hltI:¬(p.banks.length:Int)<p.banks.length:=by omega
   have hbk:mh p.banks=true:=by have:=HK.out;rw[List.take_length] at this;exact this
   have hpl:wB p=ig p.banks.length p.data:=by unfold wB;rw[hbk];rfl
   have HPL:=Lib.hid hpl
   clear hbk hpl HK
   go_wp2
   go_loopw [23] (fun iv wx=>∃i:Nat,i<=p.data.length/\iv=.int .i64 (i:Int)/\Hid (Below W0.heap.size W0 wx/\mQ p.banks.length p.data i=true)) (fun iv _=>p.data.length-(intOf iv).toNat)
   case atStart=>exact⟨0,Nat.zero_le _,rfl,Below.refl _ _,by rfl⟩
   case round=>
    obtain⟨i,hi,rfl,HI⟩:=hrel
    by_cases hlti:i<p.data.length
    ·skip
     have hltiI:(i:Int)<p.data.length:=by omega
     have HLTI:=Lib.hid hlti
     obtain⟨o,ho⟩:∃o,p.data[i]? =some o:=⟨_,List.getElem?_eq_getElem hlti⟩
     obtain⟨b,oo,rfl,hb,hc0,hc1,hc2,hob,hoa,hos⟩:=HPD.out.get ho
     have hbw:Below w.heap.size w wr:=HB0.out.trans (HI.out.1.mono HB0.out.size)
     have e0:=zV hbw hb hc0
     have e1:=zV hbw hb hc1
     have e2:=zV hbw hb hc2
     have x4:=zA (i:=4) (v:=.slice (some ⟨b,oo,none⟩) p.data.length d2) (zH HI.out.1 HX0.out (lt_of_block HX0.out)) (by simp)
     have hblk:=zH HI.out.1 HX0.out (lt_of_block HX0.out)
     have HOB:=Lib.hid (show I64 o.bank/\o.addr<65536/\o.size<65536 from⟨hob,hoa,hos⟩)
     have HBW:=Lib.hid hbw
     have HO:=Lib.hid (And.intro ho hb)
     have hok:lm p.banks.length p.data i=(sW p.banks.length o && lF o (p.data.take i)):=by unfold lm;rw[ho]
     have HOK:=Lib.hid hok
     have hdf:=fun h=>mO (nb:=p.banks.length) hlti h
     have HDF:=Lib.hid hdf
     clear ho hb hc0 hc1 hc2 hob hoa hos hlti hbw hok hdf p5 p4
     go_upto_region 10 with fail
     have hz0:(wr.alloc (.cells #[.int .i64 o.bank,.int .u16 (o.addr:Int),.int .u16 (o.size:Int)] 51)).heap[wr.heap.size]? =some (.cells #[.int .i64 o.bank,.int .u16 (o.addr:Int),.int .u16 (o.size:Int)] 51 (0,0)):=zI rfl
     have hz1:=zB (o:=.cells #[.int .i64 o.bank,.int .u16 (o.addr:Int),.int .u16 (o.size:Int)] 51) hblk
     have hzb:=HI.out.1.alloc (HI.out.1.size) (.cells #[.int .i64 o.bank,.int .u16 (o.addr:Int),.int .u16 (o.size:Int)] 51)
     have hbx:W0.heap.size<=wr.heap.size:=HI.out.1.size
     generalize hW1:wr.alloc (.cells #[.int .i64 o.bank,.int .u16 (o.addr:Int),.int .u16 (o.size:Int)] 51)=W1 at *
     generalize wr.heap.size=b6 at *
     have z60:W1.cell? ⟨b6,0,none⟩=some (.int .i64 o.bank):=zA hz0 (by simp)
     have z61:W1.cell? ⟨b6,1,none⟩=some (.int .u16 (o.addr:Int)):=zA hz0 (by simp)
     have z62:W1.cell? ⟨b6,2,none⟩=some (.int .u16 (o.size:Int)):=zA hz0 (by simp)
     have y0:W1.cell? ⟨w.heap.size,0,none⟩=some (.slice f1 p.funcs.length f2):=zA hz1 (by simp)
     have y1:W1.cell? ⟨w.heap.size,1,none⟩=some (.slice a1 p.args.length a2):=zA hz1 (by simp)
     have y2:W1.cell? ⟨w.heap.size,2,none⟩=some (.int .i64 p.entry):=zA hz1 (by simp)
     have y3:W1.cell? ⟨w.heap.size,3,none⟩=some (.int .i64 p.handler):=zA hz1 (by simp)
     have y4:W1.cell? ⟨w.heap.size,4,none⟩=some (.slice (some ⟨b,oo,none⟩) p.data.length d2):=zA hz1 (by simp)
     have y5:W1.cell? ⟨w.heap.size,5,none⟩=some (.slice b1 p.banks.length b2):=zA hz1 (by simp)
     have HW1:=Lib.hid (And.intro hzb (HB0.out.trans (hzb.mono HB0.out.size)))
     have HZ:=Lib.hid (And.intro hz0 hz1)
     have hins:=kL ((HP.out.below HW1.out.2).mono HW1.out.2.size) o HOB.out
     unfold yH iz at hins
     simp only at hins
     have HINS:=Lib.hid hins
     clear hW1 hz0 hz1 hzb hins hblk e0 e1 e2 x4
     obtain⟨q1,hq1⟩:∃q,sW p.banks.length o=q:=⟨_,rfl⟩
     rw[hq1] at HINS
     have HQ1:=Lib.hid hq1
     clear hq1
     cases q1 with
     |false=>
      go_wp2_with (go_at_call 95;go_must (refine HINS.out.mono ?_;rintro e w2 ⟨rfl,hb2⟩))
      go_ret
      refine⟨rH ?_,HW1.out.2.trans (hb2.mono HW1.out.2.size)⟩
      rw[HPL.out]
      exact(HDF.out (by rw[HOK.out,HQ1.out];rfl)).symm
     |true=>
      go_upto_region 12 with(go_at_call 95;go_must (refine HINS.out.mono ?_;rintro e w2 ⟨rfl,hb2⟩))
      have v4:=zA (i:=4) (v:=.slice (some ⟨b,oo,none⟩) p.data.length d2) (zH hb2 HZ.out.2 (lt_of_block HZ.out.2)) (by simp)
      have HZ2:=Lib.hid (And.intro (zH hb2 HZ.out.1 (lt_of_block HZ.out.1)) hb2)
      have hwb2:=HW1.out.2.trans (hb2.mono HW1.out.2.size)
      have HWB2:=Lib.hid (And.intro hwb2 (HW1.out.1.trans (hb2.mono HW1.out.1.size)))
      have hid2:i<=d2:=by omega
      clear z60 z61 z62 y0 y1 y2 y3 y4 y5 hb2 hwb2
      go_wp2
      go_loopw [37] (fun jv wx=>∃j:Nat,j<=i/\jv=.int .i64 (j:Int)/\Hid (Below w2.heap.size w2 wx/\lF o (p.data.take j)=true)) (fun jv _=>i-(intOf jv).toNat)
      case atStart=>exact⟨0,Nat.zero_le _,rfl,Below.refl _ _,by rfl⟩
      case round=>
       obtain⟨j,hj,rfl,HJ⟩:=hrel
       by_cases hltj:j<i
       ·have hltjI:(j:Int)<i:=by omega
        have HLTJ:=Lib.hid hltj
        obtain⟨x,hx⟩:∃x,p.data[j]? =some x:=⟨_,List.getElem?_eq_getElem (by omega)⟩
        obtain⟨b',o',e',hb',hc0,hc1,hc2,hxb,hxa,hxs⟩:=HPD.out.get hx
        cases e'
        have hbw:=HWB2.out.1.trans (HJ.out.1.mono HWB2.out.1.size)
        have e0:=zV hbw hb' hc0
        have e1:=zV hbw hb' hc1
        have e2:=zV hbw hb' hc2
        have hz6:=zH HJ.out.1 HZ2.out.1 (lt_of_block HZ2.out.1)
        have HOB2:=Lib.hid (show I64 x.bank/\x.addr<65536/\x.size<65536 from⟨hxb,hxa,hxs⟩)
        have hts:=xX (fun y=>!uK o y) hx
        have hti:(p.data.take i)[j]? =some x:=by rw[List.getElem?_take,if_pos hltj];exact hx
        have hfa:=fun h=>vP (fun y=>!uK o y) hti h
        have HT:=Lib.hid (And.intro hts hfa)
        have HBW2:=Lib.hid hbw
        clear hx hb' hc0 hc1 hc2 hxb hxa hxs hts hfa hti hltj hbw
        go_upto_region 15 with fail
        have hz8:(wr.alloc (.cells #[.int .i64 x.bank,.int .u16 (x.addr:Int),.int .u16 (x.size:Int)] 51)).heap[wr.heap.size]? =some (.cells #[.int .i64 x.bank,.int .u16 (x.addr:Int),.int .u16 (x.size:Int)] 51 (0,0)):=zI rfl
        have hz6b:=zB (o:=.cells #[.int .i64 x.bank,.int .u16 (x.addr:Int),.int .u16 (x.size:Int)] 51) hz6
        have hb8:=HJ.out.1.alloc HJ.out.1.size (.cells #[.int .i64 x.bank,.int .u16 (x.addr:Int),.int .u16 (x.size:Int)] 51)
        generalize hW8:wr.alloc (.cells #[.int .i64 x.bank,.int .u16 (x.addr:Int),.int .u16 (x.size:Int)] 51)=W8 at *
        generalize wr.heap.size=b8 at *
        have z60:W8.cell? ⟨b6,0,none⟩=some (.int .i64 o.bank):=zA hz6b (by simp)
        have z61:W8.cell? ⟨b6,1,none⟩=some (.int .u16 (o.addr:Int)):=zA hz6b (by simp)
        have z62:W8.cell? ⟨b6,2,none⟩=some (.int .u16 (o.size:Int)):=zA hz6b (by simp)
        have z80:W8.cell? ⟨b8,0,none⟩=some (.int .i64 x.bank):=zA hz8 (by simp)
        have z81:W8.cell? ⟨b8,1,none⟩=some (.int .u16 (x.addr:Int)):=zA hz8 (by simp)
        have z82:W8.cell? ⟨b8,2,none⟩=some (.int .u16 (x.size:Int)):=zA hz8 (by simp)
        have hov:=nT W8 o x HOB.out HOB2.out
        unfold iz at hov
        have HOV:=Lib.hid hov
        have HB8:=Lib.hid hb8
        clear hW8 hz8 hz6b hz6 hb8 hov e0 e1 e2
        obtain⟨q2,hq2⟩:∃q,uK o x=q:=⟨_,rfl⟩
        rw[hq2] at HOV
        have HQ2:=Lib.hid hq2
        clear hq2
        cases q2 with
        |true=>
         go_wp2_with (go_at_call 96;go_must (refine HOV.out.mono ?_;rintro e w3 ⟨rfl,hb3⟩))
         go_ret
         have hbE:=HB8.out.trans (hb3.mono HB8.out.size)
         refine⟨rH ?_,HWB2.out.1.trans (hbE.mono HWB2.out.1.size)⟩
         rw[HPL.out]
         exact(HDF.out (by rw[HOK.out];unfold lF;rw[HT.out.2 (by rw[HQ2.out];rfl),Bool.and_false])).symm
        |false=>
         go_wp2_with (go_at_call 96;go_must (refine HOV.out.mono ?_;rintro e w3 ⟨rfl,hb3⟩))
         go_roundw
         case rel=>exact⟨j+1,HLTJ.out,by go_num,Lib.hid ⟨HB8.out.trans (hb3.mono HB8.out.size),by unfold lF;rw[HT.out.1];have:=HJ.out.2;unfold lF at this;rw[this,HQ2.out];rfl⟩⟩
         case measure=>have:=HLTJ.out;simp[intOf];omega
       ·obtain rfl:j=i:=by omega
        have hltjI:¬(j:Int)<j:=by omega
        go_wp2
        go_roundw
        case rel=>
         refine⟨j+1,HLTI.out,by go_num,Lib.hid ⟨HWB2.out.2.trans (HJ.out.1.mono HWB2.out.2.size),?_⟩⟩
         rw[nU,HI.out.2,HOK.out,HQ1.out,HJ.out.2];rfl
        case measure=>have:=HLTI.out;simp[intOf];omega
    ·obtain rfl:i=p.data.length:=by omega
     have hltiI:¬(p.data.length:Int)<p.data.length:=by omega
     go_wp2
     go_ret
     refine⟨rH ?_,HB0.out.trans (HI.out.1.mono HB0.out.size)⟩
     rw[HPL.out]
     exact HI.out.2.symm
end Go.Proofs.Ytojclalkfhoooaa
