/- Part of a proof. -/
import Derived.Test.YtojclalkfhoooaaIPlc
set_option linter.unusedSimpArgs false
set_option linter.unusedVariables false
set_option maxHeartbeats 3200000
set_option maxRecDepth 100000
namespace Go.Proofs.Ytojclalkfhoooaa
open Go.RowKit
def tX (n:Int):Bool:=decide (0<=n) && decide (n<=8)
def sR (p:IProg):Int:=
 if 2000<p.funcs.length∨512<p.data.length∨64<p.banks.length then 2
 else if p.args.length≠p.funcs.length then 1
 else if p.args.all tX=false then 1
 else if yw p p.entry=false∨(p.handler≠-1/\yw p p.handler=false) then 1
 else if wB p=false then 37
 else 0
def m9 (w:World)(x:Int)(e:Ending)(w':World):Prop:=e=.returned (.int .i64 x)/\Below w.heap.size w w'
theorem kB {w:World}{V:PV}{p:IProg}(hp:ProgIn w w.heap.size V p):Calls Try.prog 46 #[yH V p] w (m9 w (sR p)):=by
 have hstarts:∀(W:World),Below w.heap.size w W->p.args.length=p.funcs.length->∀f,Calls Try.prog 64 #[yH V p,.int .i64 f] W fun e w'=>e=.returned (.bool (yw p f))/\Below W.heap.size W w':=fun W hb hl f=>kR ((hp.below hb).mono hb.size) hl f
 have hplaces:∀(W:World),Below w.heap.size w W->Calls Try.prog 65 #[yH V p] W fun e w'=>e=.returned (.bool (wB p))/\Below W.heap.size W w':=fun W hb=>kN ((hp.below hb).mono hb.size)
 obtain⟨Vf,Va,Vd,Vb⟩:=V
 obtain⟨f1,f2,e1,_,_⟩:=hp.funcs.form
 have hpa:=hp.args
 obtain⟨a1,a2,e2,_,_⟩:=hp.args.form
 obtain⟨d1,d2,e3,_,_⟩:=hp.data.form
 obtain⟨b1,b2,e4,_,_⟩:=hp.banks.form
 simp only at e1 e2 e3 e4 hpa
 subst e1 e2 e3 e4
 unfold yH at hstarts hplaces ⊢
 simp only at hstarts hplaces ⊢
 have hal:p.args.length<=9223372036854775807:=by omega
 have HPA:=Lib.hid hpa
 have HST:=Lib.hid hstarts
 have HPL:=Lib.hid hplaces
 have hb0:Below w.heap.size w (w.alloc (.cells #[.slice f1 p.funcs.length f2,.slice a1 p.args.length a2,.int .i64 p.entry,.int .i64 p.handler,.slice d1 p.data.length d2,.slice b1 p.banks.length b2] 29)):=(Below.refl _ _).alloc (Nat.le_refl _) _
 have hx0:(w.alloc (.cells #[.slice f1 p.funcs.length f2,.slice a1 p.args.length a2,.int .i64 p.entry,.int .i64 p.handler,.slice d1 p.data.length d2,.slice b1 p.banks.length b2] 29)).heap[w.heap.size]? =some (.cells #[.slice f1 p.funcs.length f2,.slice a1 p.args.length a2,.int .i64 p.entry,.int .i64 p.handler,.slice d1 p.data.length d2,.slice b1 p.banks.length b2] 29 (0,0)):=zI rfl
 obtain⟨q1,h1⟩:∃q,decide (2000<p.funcs.length)=q:=⟨_,rfl⟩
 obtain⟨q2,h2⟩:∃q,decide (512<p.data.length)=q:=⟨_,rfl⟩
 obtain⟨q3,h3⟩:∃q,decide (64<p.banks.length)=q:=⟨_,rfl⟩
 have h1I:decide ((2000:Int)<(p.funcs.length:Int))=q1:=zZ h1 (by omega)
 have h2I:decide ((512:Int)<(p.data.length:Int))=q2:=zZ h2 (by omega)
 have h3I:decide ((64:Int)<(p.banks.length:Int))=q3:=zZ h3 (by omega)
 have HQ:=Lib.hid (And.intro h1 (And.intro h2 h3))
 clear hp hpa hstarts hplaces
 by_cases hbig:q1=true∨q2=true∨q3=true
 ·have hh:sR p=2:=by
   unfold sR
   rw[if_pos]
   rcases hbig with e|e|e
   ·exact .inl (of_decide_eq_true (HQ.out.1.trans e))
   ·exact .inr (.inl (of_decide_eq_true (HQ.out.2.1.trans e)))
   ·exact .inr (.inr (of_decide_eq_true (HQ.out.2.2.trans e)))
  rw[hh]
  have HB:=Lib.hid hbig
  clear hh hbig hx0
  cases q1<;>cases q2<;>cases q3
  all_goals first
   |(exfalso;have:=HB.out;simp at this;done)
   |(go_enter Try.func46,Try.ntmps46
     go_wp2
     go_ret
     exact⟨rfl,hb0⟩)
 ·obtain⟨e1,e2,e3⟩:q1=false/\q2=false/\q3=false:=by
   cases q1<;>cases q2<;>cases q3<;>simp at hbig ⊢
  subst e1 e2 e3
  have hh1:sR p=if p.args.length≠p.funcs.length then 1 else if p.args.all tX=false then 1 else if yw p p.entry=false∨(p.handler≠-1/\yw p p.handler=false) then 1 else if wB p=false then 37 else 0:=by
   unfold sR
   rw[if_neg]
   rintro(e|e|e)
   ·exact absurd e (of_decide_eq_false HQ.out.1)
   ·exact absurd e (of_decide_eq_false HQ.out.2.1)
   ·exact absurd e (of_decide_eq_false HQ.out.2.2)
  rw[hh1]
  clear hh1 hbig
  by_cases hl:p.args.length=p.funcs.length
  ·rw[if_neg (fun h=>h hl)]
   generalize hres:(if p.args.all tX=false then(1:Int) else if yw p p.entry=false∨(p.handler≠-1/\yw p p.handler=false) then 1 else if wB p=false then 37 else 0)=res
   have HRES:=Lib.hid hres
   clear hres
   have t1:((p.args.length:Int) !=(p.funcs.length:Int))=false:=by rw[bne_eq_false_iff_eq];omega
   have HL:=Lib.hid hl
   clear hl
   go_enter Try.func46,Try.ntmps46
   go_upto_region 5 with fail
   generalize hW0:w.alloc (.cells #[.slice f1 p.funcs.length f2,.slice a1 p.args.length a2,.int .i64 p.entry,.int .i64 p.handler,.slice d1 p.data.length d2,.slice b1 p.banks.length b2] 29)=W0 at *
   have HB0:=Lib.hid hb0
   have HX0:=Lib.hid hx0
   have y0:W0.cell? ⟨w.heap.size,0,none⟩=some (.slice f1 p.funcs.length f2):=zA hx0 (by simp)
   have y1:W0.cell? ⟨w.heap.size,1,none⟩=some (.slice a1 p.args.length a2):=zA hx0 (by simp)
   have y2:W0.cell? ⟨w.heap.size,2,none⟩=some (.int .i64 p.entry):=zA hx0 (by simp)
   have y3:W0.cell? ⟨w.heap.size,3,none⟩=some (.int .i64 p.handler):=zA hx0 (by simp)
   have y4:W0.cell? ⟨w.heap.size,4,none⟩=some (.slice d1 p.data.length d2):=zA hx0 (by simp)
   have y5:W0.cell? ⟨w.heap.size,5,none⟩=some (.slice b1 p.banks.length b2):=zA hx0 (by simp)
   clear hW0 hb0 hx0
   go_wp2
   go_loopw [31] (fun kv wx=>∃k:Nat,k<=p.args.length/\kv=.int .i64 (k:Int)/\wx=W0/\Hid ((p.args.take k).all tX=true)) (fun kv _=>p.args.length-(intOf kv).toNat)
   case atStart=>exact⟨0,Nat.zero_le _,rfl,rfl,by rfl⟩
   case round=>
    obtain⟨k,hk,rfl,rfl,HK⟩:=hrel
    generalize hWW:wr=W0 at *
    clear hWW
    by_cases hlt:k<p.args.length
    ·have hltI:(k:Int)<p.args.length:=by omega
     have HLT:=Lib.hid hlt
     obtain⟨n,hn⟩:∃n,p.args[k]? =some n:=⟨_,List.getElem?_eq_getElem hlt⟩
     obtain⟨b,o,rfl,hb,hc,hn64⟩:=HPA.out.get hn
     rw[Nat.mul_one] at hc
     have cn:=zV HB0.out hb hc
     have HT:=Lib.hid (And.intro (xX tX hn) (fun h=>vP tX hn h))
     obtain⟨q1,g1⟩:∃q,decide (0<=n)=q:=⟨_,rfl⟩
     obtain⟨q2,g2⟩:∃q,decide (n<=8)=q:=⟨_,rfl⟩
     have g1I:decide (n<0)=!q1:=by rw[<-g1];by_cases h:0<=n<;>simp[h]<;>omega
     have g2I:decide (8<n)=!q2:=by rw[<-g2];by_cases h:n<=8<;>simp[h]<;>omega
     have HA:=Lib.hid (show tX n=(q1 && q2) by unfold tX;rw[g1,g2])
     clear hn hc hb hlt g1 g2
     cases q1<;>cases q2
     case true.true=>
      simp only[Bool.not_true] at g1I g2I
      go_wp2
      go_roundw
      case rel=>exact⟨k+1,HLT.out,by go_num,by trivial,Lib.hid (by rw[HT.out.1,HK.out,HA.out];rfl)⟩
      case measure=>have:=HLT.out;simp[intOf];omega
     all_goals simp only[Bool.not_true,Bool.not_false] at g1I g2I
     all_goals go_wp2
     all_goals go_ret
     all_goals refine⟨zh ?_,HB0.out⟩
     all_goals rw[<-HRES.out,if_pos (HT.out.2 (by rw[HA.out];rfl))]
    ·obtain rfl:k=p.args.length:=by omega
     have hltI:¬(p.args.length:Int)<p.args.length:=by omega
     have hall:p.args.all tX=true:=by have:=HK.out;rw[List.take_length] at this;exact this
     have hr1:=HRES.out
     rw[if_neg (by rw[hall];simp)] at hr1
     have HR1:=Lib.hid hr1
     clear hr1 hall HK
     go_upto_region 11 with fail
     obtain⟨qe,hqe⟩:∃q,yw p p.entry=q:=⟨_,rfl⟩
     have hse:Calls Try.prog 64 #[.agg #[.slice f1 p.funcs.length f2,.slice a1 p.args.length a2,.int .i64 p.entry,.int .i64 p.handler,.slice d1 p.data.length d2,.slice b1 p.banks.length b2],.int .i64 p.entry] W0 fun e w'=>e=.returned (.bool qe)/\Below W0.heap.size W0 w':=by rw[<-hqe];exact HST.out _ HB0.out HL.out _
     have HSE:=Lib.hid hse
     have HQE:=Lib.hid hqe
     clear hse hqe
     cases qe with
     |false=>
      go_wp2_with (go_at_call 64;go_must (refine HSE.out.mono ?_;rintro e w2 ⟨rfl,hb2⟩))
      go_ret
      refine⟨zh ?_,HB0.out.trans (hb2.mono HB0.out.size)⟩
      rw[<-HR1.out,if_pos (.inl HQE.out)]
     |true=>
      by_cases hh:p.handler=-1
      ·have t2:(p.handler !=-1)=false:=by rw[bne_eq_false_iff_eq];exact hh
       have HR2:Hid ((if wB p=false then(37:Int) else 0)=res):=by
        have h:=HR1.out
        rw[if_neg (by rintro(e|e);(rw[HQE.out] at e;cases e);exact e.1 hh)] at h
        exact h
       clear hh
       go_upto_region 13 with(go_at_call 64;go_must (refine HSE.out.mono ?_;rintro e w2 ⟨rfl,hb2⟩;have hx2:=zH hb2 HX0.out (lt_of_block HX0.out);have u0:w2.cell? ⟨w.heap.size,0,none⟩=some (.slice f1 p.funcs.length f2):=zA hx2 (by simp);have u1:w2.cell? ⟨w.heap.size,1,none⟩=some (.slice a1 p.args.length a2):=zA hx2 (by simp);have u2:w2.cell? ⟨w.heap.size,2,none⟩=some (.int .i64 p.entry):=zA hx2 (by simp);have u3:w2.cell? ⟨w.heap.size,3,none⟩=some (.int .i64 p.handler):=zA hx2 (by simp);have u4:w2.cell? ⟨w.heap.size,4,none⟩=some (.slice d1 p.data.length d2):=zA hx2 (by simp);have u5:w2.cell? ⟨w.heap.size,5,none⟩=some (.slice b1 p.banks.length b2):=zA hx2 (by simp)))
       have hb3:=HB0.out.trans (hb2.mono HB0.out.size)
       obtain⟨qp,hqp⟩:∃q,wB p=q:=⟨_,rfl⟩
       have hpc:Calls Try.prog 65 #[.agg #[.slice f1 p.funcs.length f2,.slice a1 p.args.length a2,.int .i64 p.entry,.int .i64 p.handler,.slice d1 p.data.length d2,.slice b1 p.banks.length b2]] w2 fun e w'=>e=.returned (.bool qp)/\Below w2.heap.size w2 w':=by rw[<-hqp];exact HPL.out _ hb3
       have HPC:=Lib.hid hpc
       have HQP:=Lib.hid hqp
       clear hpc hqp
       cases qp with
       |false=>
        go_wp2_with (go_at_call 65;go_must (refine HPC.out.mono ?_;rintro e w5 ⟨rfl,hb5⟩))
        go_ret
        refine⟨zh ?_,(hb3).trans (hb5.mono (hb3).size)⟩
        rw[<-HR2.out,if_pos HQP.out]
       |true=>
        go_wp2_with (go_at_call 65;go_must (refine HPC.out.mono ?_;rintro e w5 ⟨rfl,hb5⟩))
        go_ret
        refine⟨zh ?_,(hb3).trans (hb5.mono (hb3).size)⟩
        rw[<-HR2.out,if_neg (by rw[HQP.out];simp)]
      ·have t2:(p.handler !=-1)=true:=by rw[bne_iff_ne];exact hh
       obtain⟨qh,hqh⟩:∃q,yw p p.handler=q:=⟨_,rfl⟩
       have HQH:=Lib.hid hqh
       have hsh:∀W,Below w.heap.size w W->Calls Try.prog 64 #[.agg #[.slice f1 p.funcs.length f2,.slice a1 p.args.length a2,.int .i64 p.entry,.int .i64 p.handler,.slice d1 p.data.length d2,.slice b1 p.banks.length b2],.int .i64 p.handler] W fun e w'=>e=.returned (.bool qh)/\Below W.heap.size W w':=fun W hb=>by rw[<-hqh];exact HST.out _ hb HL.out _
       have HSH:=Lib.hid hsh
       have HH:=Lib.hid hh
       have g1:True:=trivial
       clear hh hqh hsh
       cases qh with
       |false=>
        go_wp2_with (first|(go_at_call 64;have gate:=g1;clear g1;go_must (refine HSE.out.mono ?_;rintro e w2 ⟨rfl,hb2⟩;have hx2:=zH hb2 HX0.out (lt_of_block HX0.out);have u0:w2.cell? ⟨w.heap.size,0,none⟩=some (.slice f1 p.funcs.length f2):=zA hx2 (by simp);have u1:w2.cell? ⟨w.heap.size,1,none⟩=some (.slice a1 p.args.length a2):=zA hx2 (by simp);have u2:w2.cell? ⟨w.heap.size,2,none⟩=some (.int .i64 p.entry):=zA hx2 (by simp);have u3:w2.cell? ⟨w.heap.size,3,none⟩=some (.int .i64 p.handler):=zA hx2 (by simp);have u4:w2.cell? ⟨w.heap.size,4,none⟩=some (.slice d1 p.data.length d2):=zA hx2 (by simp);have u5:w2.cell? ⟨w.heap.size,5,none⟩=some (.slice b1 p.banks.length b2):=zA hx2 (by simp);have hb3:=HB0.out.trans (hb2.mono HB0.out.size)))|(go_at_call 64;go_must (refine(HSH.out _ hb3).mono ?_;rintro e w4 ⟨rfl,hb4⟩)))
        go_ret
        refine⟨zh ?_,hb3.trans (hb4.mono hb3.size)⟩
        rw[<-HR1.out,if_pos (.inr ⟨HH.out,HQH.out⟩)]
       |true=>
        have HR2:Hid ((if wB p=false then(37:Int) else 0)=res):=by
         have h:=HR1.out
         rw[if_neg (by rintro(e|e);(rw[HQE.out] at e;cases e);(rw[HQH.out] at e;cases e.2))] at h
         exact h
        go_upto_region 13 with(first|(go_at_call 64;have gate:=g1;clear g1;go_must (refine HSE.out.mono ?_;rintro e w2 ⟨rfl,hb2⟩;have hx2:=zH hb2 HX0.out (lt_of_block HX0.out);have u0:w2.cell? ⟨w.heap.size,0,none⟩=some (.slice f1 p.funcs.length f2):=zA hx2 (by simp);have u1:w2.cell? ⟨w.heap.size,1,none⟩=some (.slice a1 p.args.length a2):=zA hx2 (by simp);have u2:w2.cell? ⟨w.heap.size,2,none⟩=some (.int .i64 p.entry):=zA hx2 (by simp);have u3:w2.cell? ⟨w.heap.size,3,none⟩=some (.int .i64 p.handler):=zA hx2 (by simp);have u4:w2.cell? ⟨w.heap.size,4,none⟩=some (.slice d1 p.data.length d2):=zA hx2 (by simp);have u5:w2.cell? ⟨w.heap.size,5,none⟩=some (.slice b1 p.banks.length b2):=zA hx2 (by simp);have hb3:=HB0.out.trans (hb2.mono HB0.out.size)))|(go_at_call 64;go_must (refine(HSH.out _ hb3).mono ?_;rintro e w4 ⟨rfl,hb4⟩;have hx4:=zH hb4 hx2 (lt_of_block hx2);have v0:w4.cell? ⟨w.heap.size,0,none⟩=some (.slice f1 p.funcs.length f2):=zA hx4 (by simp);have v1:w4.cell? ⟨w.heap.size,1,none⟩=some (.slice a1 p.args.length a2):=zA hx4 (by simp);have v2:w4.cell? ⟨w.heap.size,2,none⟩=some (.int .i64 p.entry):=zA hx4 (by simp);have v3:w4.cell? ⟨w.heap.size,3,none⟩=some (.int .i64 p.handler):=zA hx4 (by simp);have v4:w4.cell? ⟨w.heap.size,4,none⟩=some (.slice d1 p.data.length d2):=zA hx4 (by simp);have v5:w4.cell? ⟨w.heap.size,5,none⟩=some (.slice b1 p.banks.length b2):=zA hx4 (by simp))))
        have hb6:=hb3.trans (hb4.mono hb3.size)
        obtain⟨qp,hqp⟩:∃q,wB p=q:=⟨_,rfl⟩
        have hpc:Calls Try.prog 65 #[.agg #[.slice f1 p.funcs.length f2,.slice a1 p.args.length a2,.int .i64 p.entry,.int .i64 p.handler,.slice d1 p.data.length d2,.slice b1 p.banks.length b2]] w4 fun e w'=>e=.returned (.bool qp)/\Below w4.heap.size w4 w':=by rw[<-hqp];exact HPL.out _ hb6
        have HPC:=Lib.hid hpc
        have HQP:=Lib.hid hqp
        clear hpc hqp
        cases qp with
        |false=>
         go_wp2_with (go_at_call 65;go_must (refine HPC.out.mono ?_;rintro e w5 ⟨rfl,hb5⟩))
         go_ret
         refine⟨zh ?_,(hb6).trans (hb5.mono (hb6).size)⟩
         rw[<-HR2.out,if_pos HQP.out]
        |true=>
         go_wp2_with (go_at_call 65;go_must (refine HPC.out.mono ?_;rintro e w5 ⟨rfl,hb5⟩))
         go_ret
         refine⟨zh ?_,(hb6).trans (hb5.mono (hb6).size)⟩
         rw[<-HR2.out,if_neg (by rw[HQP.out];simp)]
  ·rw[if_pos hl]
   have t1:((p.args.length:Int) !=(p.funcs.length:Int))=true:=by rw[bne_iff_ne];omega
   clear hl hx0
   go_enter Try.func46,Try.ntmps46
   go_wp2
   go_ret
   exact⟨rfl,hb0⟩
end Go.Proofs.Ytojclalkfhoooaa
