/- Part of a proof. -/
import Derived.Test.YtojclalkfhoooaaGMeet
set_option linter.unusedSimpArgs false
set_option linter.unusedVariables false
set_option maxHeartbeats 2000000
namespace Go.Proofs.Ytojclalkfhoooaa
open Go.RowKit
def endP0:Res Nat->Ending
 |.ok _ _=> .returned (.tuple #[])
 |.trap k i _=> .panicked [oE k i]
def wU (K:MK)(w:World)(r:Res Nat)(e:Ending)(w':World):Prop:=e=endP0 r/\(∃ov',MachAt w' K r.mach ov')/\Frm K.B w w'
theorem wU.ok {K:MK}{w w':World}{x:Nat}{m':Mach}{ov':Value}(h:MachAt w' K m' ov')(hF:Frm K.B w w'):wU K w (.ok x m') (.returned (.tuple #[])) w':=⟨rfl,⟨ov',h⟩,hF⟩
theorem wU.trap {K:MK}{w w':World}{k i:Nat}{m':Mach}{ov':Value}(h:MachAt w' K m' ov')(hF:Frm K.B w w'):wU K w (.trap k i m') (.panicked [oE k i]) w':=⟨rfl,⟨ov',h⟩,hF⟩
theorem u16s_nil (w:World)(B:Nat):wV w B (.slice none 0 0) []:=⟨none,0,rfl,Nat.le_refl _,by decide,fun k x hk=>by simp at hk⟩
theorem poll_any {w:World}{K:MK}{m:Mach}{ov:Value}(h:MachAt w K m ov)(hok:OkProg K.E.p){r:Nat}(hr:r<=100)(hC:pq K r):
 Calls Try.prog 110 #[.pointer (some ⟨K.pm,0,none⟩),.int .i64 (100-(r:Int))] w (wU K w (tY K.E (xW K.E r) m)):=by
 have c8:=h.c8
 have c12:=h.c12
 have hin:=h.irq
 obtain⟨ia,ic,hiv,hic,him⟩:=hin.form
 rw[hiv] at c8 hin
 have HH:=Lib.hid h
 have hil:=h.pol
 have HIV:=Lib.hid hiv
 have HOK:=Lib.hid hok
 have HC:=Lib.hid hC
 clear h hiv hok hC
 by_cases hlt:m.polls<K.E.irq.length
 ·obtain⟨x,hx⟩:∃x,K.E.irq[m.polls]? =some x:=⟨_,List.getElem?_eq_getElem hlt⟩
  obtain⟨b,o,rfl,hbl,hcell,hxl⟩:=hin.get hx
  have HBL:=Lib.hid hbl
  rw[Nat.mul_one] at hcell
  have hI:¬(K.E.irq.length:Int)<=m.polls:=by omega
  have hJ:(m.polls:Int)<K.E.irq.length:=by omega
  have hpd:tY K.E (xW K.E r) m=if x≠0/\K.E.p.handler≠-1 then(match xW K.E r K.E.p.handler [] {m with polls:=m.polls+1 } with|.ok _ m'=> .ok 0 m'|.trap k i m'=> .trap k i m') else .ok 0 {m with polls:=m.polls+1 }:=by
   unfold tY;rw[if_pos hlt,List.getD_eq_getElem?_getD,hx];rfl
  have HPD:=Lib.hid hpd
  have f12:=HH.out.free 12
  have HLT:=Lib.hid hlt
  have hcap:K.E.irq.length<=9223372036854775807:=by omega
  clear hin hlt hx hil hbl hpd
  go_enter Try.func110,Try.ntmps110
  go_upto_region 0 with fail
  go_cut [14] (fun v wx=>v=.bool false/\∃n,wx=w.drewN n)
  case first=>
   go_quiet (fail)
   go_wp2
   go_meet
   exact⟨rfl,_,rfl⟩
  case rest=>
   obtain⟨rfl,n,rfl⟩:=hcut
   have h1:=(HH.out.drewN n).setP HLT.out HH.out.ne
   have hF:Frm K.B w ((w.drewN n).setCell ⟨K.pm,12,none⟩ (.int .i64 ((m.polls:Int)+1))):=(Frm.refl _ _).drewN.trans ((HH.out.drewN n).frm 12 _)
   have d8:(w.drewN n).cell? ⟨K.pm,8,none⟩=_:=c8
   have d12:(w.drewN n).cell? ⟨K.pm,12,none⟩=_:=c12
   have d12f:(w.drewN n).frozen? ⟨K.pm,12,none⟩=false:=f12
   have e8:=h1.c8
   rw[HIV.out] at e8
   have e12:=h1.c12
   have e3:=h1.c3
   have hcell2:=(hF.below.cell (p:=⟨b,o+m.polls,none⟩) HBL.out).trans hcell
   have hwr:IntKind.i64.wrap (((m.polls+1:Nat):Int)-1)=(m.polls:Int):=by rw[show(((m.polls+1:Nat):Int)-1)=(m.polls:Int) by omega];exact IntWalk.i64_in _ (by omega)
   have H1:=Lib.hid h1
   have HF:=Lib.hid hF
   clear h1 hF c8 c12 f12
   go_upto_region 2 with fail
   generalize (w.drewN n).setCell ⟨K.pm,12,none⟩ (.int .i64 ((m.polls:Int)+1))=W2 at *
   by_cases hx0:x=0
   ·have t1:((x:Int) !=0)=false:=by rw[bne_eq_false_iff_eq];omega
    have EE:=Lib.hid (show tY K.E (xW K.E r) m=.ok 0 {m with polls:=m.polls+1 } by rw[HPD.out,if_neg (fun h=>h.1 hx0)])
    clear hx0
    go_quiet (fail)
    go_wp2
    go_end0
    rw[EE.out]
    exact wU.ok (H1.out.drewN _) HF.out.drewN
   ·have t1:((x:Int) !=0)=true:=by rw[bne_iff_ne];omega
    by_cases hh:K.E.p.handler=-1
    ·have t2:(K.E.p.handler !=-1)=false:=by rw[bne_eq_false_iff_eq];exact hh
     have EE:=Lib.hid (show tY K.E (xW K.E r) m=.ok 0 {m with polls:=m.polls+1 } by rw[HPD.out,if_neg (fun h=>h.2 hh)])
     clear hx0 hh
     go_quiet (fail)
     go_wp2
     go_end0
     rw[EE.out]
     exact wU.ok (H1.out.drewN _) HF.out.drewN
    ·have t2:(K.E.p.handler !=-1)=true:=by rw[bne_iff_ne];exact hh
     have hpc:=HPD.out
     rw[if_pos ⟨hx0,hh⟩] at hpc
     have hcall:∀q,pq K r->Calls Try.prog 52 #[.pointer (some ⟨K.pm,0,none⟩),.int .i64 K.E.p.handler,.slice none 0 0,.int .i64 (101-(r:Int))] (W2.drewN q) (zQ K (W2.drewN q) (xW K.E r K.E.p.handler [] {m with polls:=m.polls+1 })):=fun q hC=>by
      obtain⟨h1,h2,h3⟩:=HOK.out.hnd hh
      exact hC (W2.drewN q) _ ov _ _ [] (H1.out.drewN q) h1 h2 (u16s_nil _ _) (by rw[h3];rfl)
     have HCL:=Lib.hid (fun q=>hcall q HC.out)
     have HPC:=Lib.hid hpc
     clear hx0 hh hcall hpc
     go_cut [42] (fun v wx=>v=.bool true/\∃q,wx=W2.drewN q)
     case first=>
      go_quiet (fail)
      go_wp2
      go_meet
      exact⟨rfl,_,rfl⟩
     case rest=>
      obtain⟨rfl,q,rfl⟩:=hcut
      have g3:(W2.drewN q).cell? ⟨K.pm,3,none⟩=_:=e3
      cases hres:xW K.E r K.E.p.handler [] {m with polls:=m.polls+1 } with
      |ok x m'=>
       have hc2:Calls Try.prog 52 #[.pointer (some ⟨K.pm,0,none⟩),.int .i64 K.E.p.handler,.slice none 0 0,.int .i64 (101-(r:Int))] (W2.drewN q) fun e w'=>e=.returned (.int .u16 (x:Int))/\(∃ov',MachAt w' K m' ov')/\Frm K.B (W2.drewN q) w'/\x<65536:=by have:=HCL.out q;rw[hres] at this;exact this
       have HC2:=Lib.hid hc2
       have EE:=Lib.hid (show tY K.E (xW K.E r) m=.ok 0 m' by rw[HPC.out,hres])
       clear hc2 hres
       have hdp:(100-(r:Int))+1=101-(r:Int):=by omega
       go_wp2_with (go_at_call 52;go_must (refine HC2.out.mono ?_;rintro e w' ⟨rfl,⟨ov',hm'⟩,hf',hx'⟩))
       go_end0
       rw[EE.out]
       exact wU.ok hm' (HF.out.drewN.trans hf')
      |trap k i m'=>
       have hc2:Calls Try.prog 52 #[.pointer (some ⟨K.pm,0,none⟩),.int .i64 K.E.p.handler,.slice none 0 0,.int .i64 (101-(r:Int))] (W2.drewN q) fun e w'=>e=.panicked [oE k i]/\(∃ov',MachAt w' K m' ov')/\Frm K.B (W2.drewN q) w'/\True:=by have:=HCL.out q;rw[hres] at this;exact this
       have HC2:=Lib.hid hc2
       have EE:=Lib.hid (show tY K.E (xW K.E r) m=.trap k i m' by rw[HPC.out,hres])
       clear hc2 hres
       have hdp:(100-(r:Int))+1=101-(r:Int):=by omega
       go_wp2_with (go_at_call 52;go_must (refine HC2.out.mono ?_;rintro e w' ⟨rfl,⟨ov',hm'⟩,hf',hx'⟩))
       exact⟨rfl,by rw[EE.out];exact wU.trap hm' (HF.out.drewN.trans hf')⟩
 ·have hI:(K.E.irq.length:Int)<=m.polls:=by omega
  have e:tY K.E (xW K.E r) m=.ok 0 m:=by unfold tY;rw[if_neg hlt]
  have EE:=Lib.hid e
  clear e hin hlt
  go_enter Try.func110,Try.ntmps110
  go_wp2
  go_quiet (fail)
  go_wp2
  first|go_end0|refine bodyPost_ret (results_none rfl _ _ _) rfl ?_
  rw[EE.out]
  exact wU.ok (HH.out.drewN _) (Frm.refl _ _).drewN
end Go.Proofs.Ytojclalkfhoooaa
