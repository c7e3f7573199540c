/- Part of a proof. -/
import Derived.Test.YtojclalkfhoooaaIFun2
set_option linter.unusedSimpArgs false
set_option linter.unusedVariables false
set_option maxHeartbeats 4000000
set_option maxRecDepth 100000
namespace Go.Proofs.Ytojclalkfhoooaa
open Go.RowKit
theorem tu {w:World}{B:Nat}{V:PV}{p:IProg}(hp:ProgIn w B V p)(hB:B<=w.heap.size)(hs:∀f∈p.funcs,vZ f):
 Calls Try.prog 20 #[yH V p] w (m9 w (vC p)):=by
 have hhead:∀W,Below w.heap.size w W->Calls Try.prog 46 #[yH V p] W (m9 W (sR p)):=fun W hb=>kB ((hp.below (hb.mono hB)).mono (Nat.le_trans hB hb.size))
 have hfun:∀W n,Below w.heap.size w W->sR p=0->n<p.funcs.length->Calls Try.prog 47 #[yH V p,.int .i64 (n:Int)] W (ym W (yi p n)):=fun W n hb h0 hn=>by
  obtain⟨_,h1,h2,_⟩:=se h0
  exact nA (hp.below (hb.mono hB)) (Nat.le_trans hB hb.size) h1 h2 hs hn
 obtain⟨Vf,Va,Vd,Vb⟩:=V
 obtain⟨f1,f2,e1,_,_⟩:=hp.funcs.form
 obtain⟨a1,a2,e2,_,_⟩:=hp.args.form
 obtain⟨d1,d2,e3,_,_⟩:=hp.data.form
 obtain⟨b1,b2,e4,_,_⟩:=hp.banks.form
 simp only at e1 e2 e3 e4
 subst e1 e2 e3 e4
 have hfl:p.funcs.length<=9223372036854775807:=by omega
 unfold yH at hhead hfun ⊢
 simp only at hhead hfun ⊢
 have HH:=Lib.hid hhead
 have HF:=Lib.hid hfun
 have hb0:Below w.heap.size w (w.alloc (.cells #[.slice f1 p.funcs.length f2,.slice a1 p.args.length a2,.int .i64 p.entry,.int .i64 p.handler,.slice d1 p.data.length d2,.slice b1 p.banks.length b2] 29)):=(Below.refl _ _).alloc (Nat.le_refl _) _
 have hx0:(w.alloc (.cells #[.slice f1 p.funcs.length f2,.slice a1 p.args.length a2,.int .i64 p.entry,.int .i64 p.handler,.slice d1 p.data.length d2,.slice b1 p.banks.length b2] 29)).heap[w.heap.size]? =some (.cells #[.slice f1 p.funcs.length f2,.slice a1 p.args.length a2,.int .i64 p.entry,.int .i64 p.handler,.slice d1 p.data.length d2,.slice b1 p.banks.length b2] 29 (0,0)):=zI rfl
 obtain⟨res,hres⟩:∃x,vC p=x:=⟨_,rfl⟩
 rw[hres]
 have HRES:=Lib.hid hres
 obtain⟨eh,heh⟩:∃x,sR p=x:=⟨_,rfl⟩
 rw[heh] at HH
 have HEH:=Lib.hid heh
 clear hp hB hs hhead hfun hres heh
 go_enter Try.func20,Try.ntmps20
 go_upto_region 1 with fail
 generalize hW0:w.alloc (.cells #[.slice f1 p.funcs.length f2,.slice a1 p.args.length a2,.int .i64 p.entry,.int .i64 p.handler,.slice d1 p.data.length d2,.slice b1 p.banks.length b2] 29)=W0 at *
 have y0:W0.cell? ⟨w.heap.size,0,none⟩=some (.slice f1 p.funcs.length f2):=zA hx0 (by simp)
 have y1:W0.cell? ⟨w.heap.size,1,none⟩=some (.slice a1 p.args.length a2):=zA hx0 (by simp)
 have y2:W0.cell? ⟨w.heap.size,2,none⟩=some (.int .i64 p.entry):=zA hx0 (by simp)
 have y3:W0.cell? ⟨w.heap.size,3,none⟩=some (.int .i64 p.handler):=zA hx0 (by simp)
 have y4:W0.cell? ⟨w.heap.size,4,none⟩=some (.slice d1 p.data.length d2):=zA hx0 (by simp)
 have y5:W0.cell? ⟨w.heap.size,5,none⟩=some (.slice b1 p.banks.length b2):=zA hx0 (by simp)
 have H0:=Lib.hid (show Below w.heap.size w W0/\W0.heap[w.heap.size]? =some (.cells #[.slice f1 p.funcs.length f2,.slice a1 p.args.length a2,.int .i64 p.entry,.int .i64 p.handler,.slice d1 p.data.length d2,.slice b1 p.banks.length b2] 29 (0,0)) from⟨hb0,hx0⟩)
 clear hb0 hx0 hW0
 go_upto_region 2 with(first|(go_at_call 46;go_must (refine(HH.out _ H0.out.1).mono ?_;rintro e w1 ⟨rfl,hb1⟩))|go_in)
 have H1:=Lib.hid (show Below w.heap.size w w1/\w1.heap[w.heap.size]? =some (.cells #[.slice f1 p.funcs.length f2,.slice a1 p.args.length a2,.int .i64 p.entry,.int .i64 p.handler,.slice d1 p.data.length d2,.slice b1 p.banks.length b2] 29 (0,0)) from⟨H0.out.1.trans (hb1.mono H0.out.1.size),zH hb1 H0.out.2 (lt_of_block H0.out.2)⟩)
 clear hb1 y0 y1 y2 y3 y4 y5
 by_cases hz:eh=0
 ·subst hz
  have y0:w1.cell? ⟨w.heap.size,0,none⟩=some (.slice f1 p.funcs.length f2):=zA H1.out.2 (by simp)
  go_wp2
  go_loopw [13] (fun iv wx=>∃i:Nat,i<=p.funcs.length/\iv=.int .i64 (i:Int)/\Hid (Below w1.heap.size w1 wx/\∀n,n<i->yi p n=true)) (fun iv _=>p.funcs.length-(intOf iv).toNat)
  case atStart=>exact⟨0,Nat.zero_le _,rfl,Lib.hid ⟨Below.refl _ _,fun n hn=>by omega⟩⟩
  case round=>
   obtain⟨i,hi,rfl,HI⟩:=hrel
   by_cases hlt:i<p.funcs.length
   ·have hltI:(i:Int)<p.funcs.length:=by omega
    have HLT:=Lib.hid hlt
    have hxr:=zH HI.out.1 H1.out.2 (lt_of_block H1.out.2)
    have z0:wr.cell? ⟨w.heap.size,0,none⟩=some (.slice f1 p.funcs.length f2):=zA hxr (by simp)
    have z1:wr.cell? ⟨w.heap.size,1,none⟩=some (.slice a1 p.args.length a2):=zA hxr (by simp)
    have z2:wr.cell? ⟨w.heap.size,2,none⟩=some (.int .i64 p.entry):=zA hxr (by simp)
    have z3:wr.cell? ⟨w.heap.size,3,none⟩=some (.int .i64 p.handler):=zA hxr (by simp)
    have z4:wr.cell? ⟨w.heap.size,4,none⟩=some (.slice d1 p.data.length d2):=zA hxr (by simp)
    have z5:wr.cell? ⟨w.heap.size,5,none⟩=some (.slice b1 p.banks.length b2):=zA hxr (by simp)
    have HFI:=Lib.hid (HF.out wr i (H1.out.1.trans (HI.out.1.mono H1.out.1.size)) HEH.out hlt)
    obtain⟨q,hq⟩:∃q,yi p i=q:=⟨_,rfl⟩
    rw[hq] at HFI
    have HQ:=Lib.hid hq
    clear hq hxr hlt y0
    cases q with
    |false=>
     go_wp2_with (first|(go_at_call 47;go_must (refine HFI.out.mono ?_;rintro e w2 ⟨rfl,hb2⟩))|go_in)
     go_ret
     have hr:res=51:=by
      rw[<-HRES.out]
      unfold vC
      rw[if_neg (by rw[HEH.out];simp),if_neg]
      intro hall
      have:=List.all_eq_true.1 hall i (List.mem_range.2 HLT.out)
      rw[HQ.out] at this
      cases this
     exact⟨zh hr.symm,H1.out.1.trans ((HI.out.1.trans (hb2.mono HI.out.1.size)).mono H1.out.1.size)⟩
    |true=>
     go_wp2_with (first|(go_at_call 47;go_must (refine HFI.out.mono ?_;rintro e w2 ⟨rfl,hb2⟩))|go_in)
     have HREL:=Lib.hid (show Below w1.heap.size w1 w2/\∀n,n<i+1->yi p n=true from⟨HI.out.1.trans (hb2.mono HI.out.1.size),fun n hn=>by
      rcases Nat.lt_succ_iff_lt_or_eq.1 hn with h|rfl
      ·exact HI.out.2 n h
      ·exact HQ.out⟩)
     clear hb2
     go_roundw
     case rel=>first|exact⟨i+1,HLT.out,by go_num,HREL⟩|((repeat apply Exists.intro);exact⟨⟨i+1,HLT.out,by go_num,HREL⟩,rfl⟩)
     case measure=>have:=HLT.out;simp[intOf];omega
   ·obtain rfl:i=p.funcs.length:=by omega
    have hltI:¬(p.funcs.length:Int)<p.funcs.length:=by omega
    have hr:=Lib.hid (show res=0 by
     rw[<-HRES.out]
     unfold vC
     rw[if_neg (by rw[HEH.out];simp),if_pos]
     exact List.all_eq_true.2 fun n hn=>HI.out.2 n (List.mem_range.1 hn))
    clear hlt y0
    go_wp2
    go_ret
    exact⟨zh hr.out.symm,H1.out.1.trans (HI.out.1.mono H1.out.1.size)⟩
 ·have t1:(eh !=0)=true:=by rw[bne_iff_ne];exact hz
  have hr:=Lib.hid (show res=eh by
   rw[<-HRES.out]
   unfold vC
   rw[if_pos (by rw[HEH.out];exact hz),HEH.out])
  clear hz
  go_wp2
  go_ret
  exact⟨zh hr.out.symm,H1.out.1⟩
end Go.Proofs.Ytojclalkfhoooaa
