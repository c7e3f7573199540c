/- Part of a proof. -/
import Derived.Test.YtojclalkfhoooaaIUses
import Derived.Test.YtojclalkfhoooaaITerm
set_option linter.unusedSimpArgs false
set_option linter.unusedVariables false
set_option maxHeartbeats 4000000
set_option maxRecDepth 100000
namespace Go.Proofs.Ytojclalkfhoooaa
open Go.RowKit
def xT (t:ITerm)(k:Nat):List Int:=((t.to.take k).map (·.args)).flatten
theorem u7 {t:ITerm}{k:Nat}{e:IEdge}(h:t.to[k]? =some e):xT t (k+1)=xT t k++e.args:=by
 unfold xT
 rw[List.take_add_one,h,List.map_append,List.flatten_append];simp
theorem tP {t:ITerm}(h:∀e∈t.to,e.args.length<=2000000):∀k,k<=t.to.length->(xT t k).length<=k*2000000
 |0,_=>Nat.zero_le _
 |k+1,hk=>by
  obtain⟨e,he⟩:∃e,t.to[k]? =some e:=⟨_,List.getElem?_eq_getElem (by omega)⟩
  rw[u7 he,List.length_append]
  have:=tP h k (by omega)
  have:=h e (List.mem_of_getElem? he)
  omega
theorem si (t:ITerm):xT t t.to.length=(t.to.map (·.args)).flatten:=by unfold xT;rw[List.take_length]
theorem my:∀b2 b3 b4 b5:Bool,(b2||(b3||b4 && b5))=true->(b2=true)∨(b2=false/\b3=true)∨(b2=false/\b3=false/\b4=true/\b5=true)
 |true,_,_,_,_=> .inl rfl
 |false,true,_,_,_=> .inr (.inl ⟨rfl,rfl⟩)
 |false,false,true,true,_=> .inr (.inr ⟨rfl,rfl,rfl,rfl⟩)
theorem lB:∀b2 b3 b4 b5:Bool,(b2||(b3||b4 && b5))=false->(b2=false/\b3=false/\b4=false)∨(b2=false/\b3=false/\b4=true/\b5=false)
 |false,false,false,_,_=> .inl ⟨rfl,rfl,rfl⟩
 |false,false,true,false,_=> .inr ⟨rfl,rfl,rfl,rfl⟩
structure EndsMem (w wx:World) (xs:List Int) (v:Value):Prop where
 below:Below w.heap.size w wx
 own:wx.ownsRow w.heap.size 3 1 v xs.length (xs.map zN)
theorem ends_1 {w:World}(t:ITerm)(ht:I64 t.kind/\I64 t.a){tv:Value}{B:Nat}(hB:B<=w.heap.size)(hto:wH w B tv t.to)(hlen:t.to.length<=2000000/\∀e∈t.to,e.args.length<=2000000)(hh:ut t=true):
 Calls Try.prog 71 #[.agg #[.int .i64 t.kind,.int .i64 t.a,tv]] w (wG w ([t.a]++(t.to.map (·.args)).flatten)):=by
 obtain⟨ta,tc,rfl,htc,htm⟩:=hto.form
 obtain⟨ii,hii,hzi0,hzi1,hzi2⟩:=info_parts Try.info_int
 have htl:t.to.length<=9223372036854775807:=by omega
 have h64:∀x∈ [t.a]++(t.to.map (·.args)).flatten,I64 x:=by
  intro x hx
  rcases List.mem_append.1 hx with hx|hx
  ·simp at hx;rw[hx];exact ht.2
  ·obtain⟨l,hl,hxl⟩:=List.mem_flatten.1 hx
   obtain⟨e,he,rfl⟩:=List.mem_map.1 hl
   obtain⟨k,hk⟩:=List.getElem?_of_mem he
   obtain⟨b,o,_,_,_,_,av,_,hav⟩:=hto.get hk
   exact zY.all hav x hxl
 have H64:=Lib.hid h64
 unfold ut at hh
 obtain⟨tk,htk⟩:∃x,t.kind=x:=⟨_,rfl⟩
 obtain⟨tA,htA⟩:∃x,t.a=x:=⟨_,rfl⟩
 rw[htk,htA] at hh ht ⊢
 try rw[htA] at H64
 obtain⟨b2,g2⟩:∃q,decide (tk=2)=q:=⟨_,rfl⟩
 obtain⟨b3,g3⟩:∃q,decide (tk=3)=q:=⟨_,rfl⟩
 obtain⟨b4,g4⟩:∃q,decide (tk=4)=q:=⟨_,rfl⟩
 obtain⟨b5,g5⟩:∃q,decide (tA≠-1)=q:=⟨_,rfl⟩
 rw[g2,g3,g4,g5] at hh
 have t2:(tk==2)=b2:=zf g2
 have t3:(tk==3)=b3:=zf g3
 have t4:(tk==4)=b4:=zf g4
 have t5:(tA !=-1)=b5:=by rw[<-g5,bne];by_cases h:tA=-1<;>simp[h]
 have HTO:=Lib.hid (show wH w B (.slice ta t.to.length tc) t.to/\B<=w.heap.size/\t.to.length<=2000000/\∀e∈t.to,e.args.length<=2000000 from⟨hto,hB,hlen⟩)
 have HT:=Lib.hid ht
 have hx0:(w.alloc (.cells #[.int .i64 tk,.int .i64 tA,.slice ta t.to.length tc] 47)).heap[w.heap.size]? =some (.cells #[.int .i64 tk,.int .i64 tA,.slice ta t.to.length tc] 47 (0,0)):=zI rfl
 have hb0:Below w.heap.size w (w.alloc (.cells #[.int .i64 tk,.int .i64 tA,.slice ta t.to.length tc] 47)):=(Below.refl _ _).alloc (Nat.le_refl _) _
 clear hto hB hlen ht htc htm g2 g3 g4 g5 htk htA h64
 have hcs:=my b2 b3 b4 b5 hh
 clear hh
 rcases hcs with rfl|⟨rfl,rfl⟩|⟨rfl,rfl,rfl,rfl⟩
 all_goals (
  go_enter Try.func71,Try.ntmps71
  go_upto_region 2 with fail
  generalize hW0:w.alloc (.cells #[.int .i64 tk,.int .i64 tA,.slice ta t.to.length tc] 47)=W0 at *
  have y0:W0.cell? ⟨w.heap.size,0,none⟩=some (.int .i64 tk):=zA hx0 (by simp)
  have y1:W0.cell? ⟨w.heap.size,1,none⟩=some (.int .i64 tA):=zA hx0 (by simp)
  have y2:W0.cell? ⟨w.heap.size,2,none⟩=some (.slice ta t.to.length tc):=zA hx0 (by simp)
  have H0:=Lib.hid (show Below w.heap.size w W0/\W0.heap[w.heap.size]? =some (.cells #[.int .i64 tk,.int .i64 tA,.slice ta t.to.length tc] 47 (0,0)) from⟨hb0,hx0⟩)
  clear hW0 hx0 hb0
  have own0:W0.ownsRow w.heap.size 3 1 (.slice none 0 0) 0 []:=World.ownsRow_nil W0 _ _ _
  have HOWN0:=Lib.hid own0
  clear own0
  go_upto_region 4 with(at_builtin;go_must (refine zK _ rfl (.tmp 24) (.tmp 27) 22 rfl w.heap.size 3 ii (.int .i64 0) 1 8 Try.underlying22 hii hzi0 hzi1 hzi2 rfl (by decide) (.slice none 0 0) 0 [] rfl (HOWN0.out.alloc _) _ 1 [.int .i64 tA] rfl (yM.one (zI (by simp)) (by simp[Value.oneCell'])) (by decide) (by decide) (by have:=H0.out.1.size;simp;omega) ?_;intro v0 W1 hown hgrow hat))
  have hbx:Below w.heap.size w W1:=yP (H0.out.1.alloc H0.out.1.size _) hgrow (by have:=H0.out.1.size;simp;omega) (wF HOWN0.out)
  have hxx:=zL hgrow (zB H0.out.2) (zC HOWN0.out H0.out.2 (.inr (by decide)))
  have z2:W1.cell? ⟨w.heap.size,2,none⟩=some (.slice ta t.to.length tc):=zA hxx (by simp)
  have HS:=Lib.hid (show EndsMem w W1 ([tA]++xT t 0) v0 from⟨hbx,hown⟩)
  have HX1:=Lib.hid hxx
  clear hbx hxx hown hgrow hat y0 y1 y2
  go_wp2
  go_loopw [3,32] (fun lv kv wx=>∃k:Nat,k<=t.to.length/\kv=.int .i64 (k:Int)/\Hid (EndsMem w wx ([tA]++xT t k) lv)) (fun _ kv _=>t.to.length-(intOf kv).toNat)
  case atStart=>exact⟨0,Nat.zero_le _,rfl,HS⟩
  case round=>
   obtain⟨k,hk,rfl,HK⟩:=hrel
   by_cases hlt:k<t.to.length
   ·have hltI:(k:Int)<t.to.length:=by omega
    have HLT:=Lib.hid hlt
    obtain⟨e,he⟩:∃e,t.to[k]? =some e:=⟨_,List.getElem?_eq_getElem hlt⟩
    obtain⟨eb,eo,rfl,heb,hc0,he64,av,hc1,hav⟩:=HTO.out.1.get he
    obtain⟨aa,ac,rfl,hac,ham⟩:=hav.form
    have hbw:=HK.out.below.mono HTO.out.2.1
    have e0:=zV hbw heb hc0
    have e1:=zV hbw heb hc1
    have HE:=Lib.hid (show t.to[k]? =some e/\zY w B (.slice aa e.args.length ac) e.args from⟨he,hav⟩)
    clear he hc0 hc1 he64 hav hac ham hbw hlt z2
    have hz5:(wr.alloc (.cells #[.int .i64 e.block,.slice aa e.args.length ac] 75)).heap[wr.heap.size]? =some (.cells #[.int .i64 e.block,.slice aa e.args.length ac] 75 (0,0)):=zI rfl
    have hbl2:=HK.out.below.alloc HK.out.below.size (.cells #[.int .i64 e.block,.slice aa e.args.length ac] 75)
    have hown2:=HK.out.own.alloc (.cells #[.int .i64 e.block,.slice aa e.args.length ac] 75)
    have hsrc:=zY.src (HE.out.2.below zO (hbl2.mono HTO.out.2.1))
    go_upto_region 7 with fail
    generalize hW2:wr.alloc (.cells #[.int .i64 e.block,.slice aa e.args.length ac] 75)=W2 at *
    generalize wr.heap.size=b5 at *
    have z51:W2.cell? ⟨b5,1,none⟩=some (.slice aa e.args.length ac):=zA hz5 (by simp)
    have hcount:([tA]++xT t k).length+e.args.length<=6000000000000:=by
     have h1:=tP HTO.out.2.2.2 k hk
     have h2:=HTO.out.2.2.1
     have h3:=HTO.out.2.2.2 e (List.mem_of_getElem? HE.out.1)
     rw[List.length_append]
     simp only[List.length_cons,List.length_nil]
     omega
    have HCT:=Lib.hid (show _/\_ from⟨hcount,hbl2⟩)
    have HOW:=Lib.hid hown2
    have HSR:=Lib.hid hsrc
    clear hcount hown2 hsrc hbl2 hz5 hW2 e0 e1
    go_wp2_with (at_builtin;go_must (refine zK _ rfl (.tmp 36) (.tmp 38) 22 rfl w.heap.size 3 ii (.int .i64 0) 1 8 Try.underlying22 hii hzi0 hzi1 hzi2 rfl (by decide) _ ([tA]++xT t k).length (([tA]++xT t k).map zN) rfl HOW.out _ e.args.length (e.args.map zN) rfl HSR.out (by have:=HCT.out.1;unfold maxLen;omega) (by have:=HCT.out.1;omega) HCT.out.2.size ?_;intro v9 w9 hown hgrow hat))
    have hb9:=yP HCT.out.2 hgrow HCT.out.2.size (wF HOW.out)
    have HN:=Lib.hid (And.intro hb9 hown)
    clear hown hgrow hat hb9
    go_roundw
    case rel=>
     refine⟨k+1,HLT.out,by go_num,Lib.hid ⟨HN.out.1,?_⟩⟩
     rw[u7 HE.out.1,<-List.append_assoc,List.length_append (bs:=e.args),List.map_append (l₂:=e.args)]
     exact HN.out.2
    case measure=>have:=HLT.out;simp[intOf];omega
   ·obtain rfl:k=t.to.length:=by omega
    have hltI:¬(t.to.length:Int)<t.to.length:=by omega
    clear hlt z2
    go_wp2
    go_ret
    have hown:=HK.out.own
    rw[si] at hown
    exact⟨_,rfl,uA hown rfl H64.out,HK.out.below⟩)
theorem ends_0 {w:World}(t:ITerm)(ht:I64 t.kind/\I64 t.a){tv:Value}{B:Nat}(hB:B<=w.heap.size)(hto:wH w B tv t.to)(hlen:t.to.length<=2000000/\∀e∈t.to,e.args.length<=2000000)(hh:ut t=false):
 Calls Try.prog 71 #[.agg #[.int .i64 t.kind,.int .i64 t.a,tv]] w (wG w (([]:List Int)++(t.to.map (·.args)).flatten)):=by
 obtain⟨ta,tc,rfl,htc,htm⟩:=hto.form
 obtain⟨ii,hii,hzi0,hzi1,hzi2⟩:=info_parts Try.info_int
 have htl:t.to.length<=9223372036854775807:=by omega
 have h64:∀x∈([]:List Int)++(t.to.map (·.args)).flatten,I64 x:=by
  intro x hx
  rcases List.mem_append.1 hx with hx|hx
  ·simp at hx
  ·obtain⟨l,hl,hxl⟩:=List.mem_flatten.1 hx
   obtain⟨e,he,rfl⟩:=List.mem_map.1 hl
   obtain⟨k,hk⟩:=List.getElem?_of_mem he
   obtain⟨b,o,_,_,_,_,av,_,hav⟩:=hto.get hk
   exact zY.all hav x hxl
 have H64:=Lib.hid h64
 unfold ut at hh
 obtain⟨tk,htk⟩:∃x,t.kind=x:=⟨_,rfl⟩
 obtain⟨tA,htA⟩:∃x,t.a=x:=⟨_,rfl⟩
 rw[htk,htA] at hh ht ⊢
 try rw[htA] at H64
 obtain⟨b2,g2⟩:∃q,decide (tk=2)=q:=⟨_,rfl⟩
 obtain⟨b3,g3⟩:∃q,decide (tk=3)=q:=⟨_,rfl⟩
 obtain⟨b4,g4⟩:∃q,decide (tk=4)=q:=⟨_,rfl⟩
 obtain⟨b5,g5⟩:∃q,decide (tA≠-1)=q:=⟨_,rfl⟩
 rw[g2,g3,g4,g5] at hh
 have t2:(tk==2)=b2:=zf g2
 have t3:(tk==3)=b3:=zf g3
 have t4:(tk==4)=b4:=zf g4
 have t5:(tA !=-1)=b5:=by rw[<-g5,bne];by_cases h:tA=-1<;>simp[h]
 have HTO:=Lib.hid (show wH w B (.slice ta t.to.length tc) t.to/\B<=w.heap.size/\t.to.length<=2000000/\∀e∈t.to,e.args.length<=2000000 from⟨hto,hB,hlen⟩)
 have HT:=Lib.hid ht
 have hx0:(w.alloc (.cells #[.int .i64 tk,.int .i64 tA,.slice ta t.to.length tc] 47)).heap[w.heap.size]? =some (.cells #[.int .i64 tk,.int .i64 tA,.slice ta t.to.length tc] 47 (0,0)):=zI rfl
 have hb0:Below w.heap.size w (w.alloc (.cells #[.int .i64 tk,.int .i64 tA,.slice ta t.to.length tc] 47)):=(Below.refl _ _).alloc (Nat.le_refl _) _
 clear hto hB hlen ht htc htm g2 g3 g4 g5 htk htA h64
 have hcs:=lB b2 b3 b4 b5 hh
 clear hh
 rcases hcs with⟨rfl,rfl,rfl⟩|⟨rfl,rfl,rfl,rfl⟩
 all_goals (
  go_enter Try.func71,Try.ntmps71
  go_upto_region 2 with fail
  generalize hW0:w.alloc (.cells #[.int .i64 tk,.int .i64 tA,.slice ta t.to.length tc] 47)=W0 at *
  have y0:W0.cell? ⟨w.heap.size,0,none⟩=some (.int .i64 tk):=zA hx0 (by simp)
  have y1:W0.cell? ⟨w.heap.size,1,none⟩=some (.int .i64 tA):=zA hx0 (by simp)
  have y2:W0.cell? ⟨w.heap.size,2,none⟩=some (.slice ta t.to.length tc):=zA hx0 (by simp)
  have H0:=Lib.hid (show Below w.heap.size w W0/\W0.heap[w.heap.size]? =some (.cells #[.int .i64 tk,.int .i64 tA,.slice ta t.to.length tc] 47 (0,0)) from⟨hb0,hx0⟩)
  clear hW0 hx0 hb0
  go_upto_region 4 with fail
  have z2:=y2
  have HS:=Lib.hid (show EndsMem w W0 (([]:List Int)++xT t 0) (.slice none 0 0) from⟨H0.out.1,World.ownsRow_nil W0 _ _ _⟩)
  have HX1:=Lib.hid H0.out.2
  generalize W0=W1 at *
  clear y0 y1 y2
  go_wp2
  go_loopw [3,32] (fun lv kv wx=>∃k:Nat,k<=t.to.length/\kv=.int .i64 (k:Int)/\Hid (EndsMem w wx (([]:List Int)++xT t k) lv)) (fun _ kv _=>t.to.length-(intOf kv).toNat)
  case atStart=>exact⟨0,Nat.zero_le _,rfl,HS⟩
  case round=>
   obtain⟨k,hk,rfl,HK⟩:=hrel
   by_cases hlt:k<t.to.length
   ·have hltI:(k:Int)<t.to.length:=by omega
    have HLT:=Lib.hid hlt
    obtain⟨e,he⟩:∃e,t.to[k]? =some e:=⟨_,List.getElem?_eq_getElem hlt⟩
    obtain⟨eb,eo,rfl,heb,hc0,he64,av,hc1,hav⟩:=HTO.out.1.get he
    obtain⟨aa,ac,rfl,hac,ham⟩:=hav.form
    have hbw:=HK.out.below.mono HTO.out.2.1
    have e0:=zV hbw heb hc0
    have e1:=zV hbw heb hc1
    have HE:=Lib.hid (show t.to[k]? =some e/\zY w B (.slice aa e.args.length ac) e.args from⟨he,hav⟩)
    clear he hc0 hc1 he64 hav hac ham hbw hlt z2
    have hz5:(wr.alloc (.cells #[.int .i64 e.block,.slice aa e.args.length ac] 75)).heap[wr.heap.size]? =some (.cells #[.int .i64 e.block,.slice aa e.args.length ac] 75 (0,0)):=zI rfl
    have hbl2:=HK.out.below.alloc HK.out.below.size (.cells #[.int .i64 e.block,.slice aa e.args.length ac] 75)
    have hown2:=HK.out.own.alloc (.cells #[.int .i64 e.block,.slice aa e.args.length ac] 75)
    have hsrc:=zY.src (HE.out.2.below zO (hbl2.mono HTO.out.2.1))
    go_upto_region 7 with fail
    generalize hW2:wr.alloc (.cells #[.int .i64 e.block,.slice aa e.args.length ac] 75)=W2 at *
    generalize wr.heap.size=b5 at *
    have z51:W2.cell? ⟨b5,1,none⟩=some (.slice aa e.args.length ac):=zA hz5 (by simp)
    have hcount:(([]:List Int)++xT t k).length+e.args.length<=6000000000000:=by
     have h1:=tP HTO.out.2.2.2 k hk
     have h2:=HTO.out.2.2.1
     have h3:=HTO.out.2.2.2 e (List.mem_of_getElem? HE.out.1)
     rw[List.length_append]
     simp only[List.length_cons,List.length_nil]
     omega
    have HCT:=Lib.hid (show _/\_ from⟨hcount,hbl2⟩)
    have HOW:=Lib.hid hown2
    have HSR:=Lib.hid hsrc
    clear hcount hown2 hsrc hbl2 hz5 hW2 e0 e1
    go_wp2_with (at_builtin;go_must (refine zK _ rfl (.tmp 36) (.tmp 38) 22 rfl w.heap.size 3 ii (.int .i64 0) 1 8 Try.underlying22 hii hzi0 hzi1 hzi2 rfl (by decide) _ (([]:List Int)++xT t k).length ((([]:List Int)++xT t k).map zN) rfl HOW.out _ e.args.length (e.args.map zN) rfl HSR.out (by have:=HCT.out.1;unfold maxLen;omega) (by have:=HCT.out.1;omega) HCT.out.2.size ?_;intro v9 w9 hown hgrow hat))
    have hb9:=yP HCT.out.2 hgrow HCT.out.2.size (wF HOW.out)
    have HN:=Lib.hid (And.intro hb9 hown)
    clear hown hgrow hat hb9
    go_roundw
    case rel=>
     refine⟨k+1,HLT.out,by go_num,Lib.hid ⟨HN.out.1,?_⟩⟩
     rw[u7 HE.out.1,<-List.append_assoc,List.length_append (bs:=e.args),List.map_append (l₂:=e.args)]
     exact HN.out.2
    case measure=>have:=HLT.out;simp[intOf];omega
   ·obtain rfl:k=t.to.length:=by omega
    have hltI:¬(t.to.length:Int)<t.to.length:=by omega
    clear hlt z2
    go_wp2
    go_ret
    have hown:=HK.out.own
    rw[si] at hown
    exact⟨_,rfl,uA hown rfl H64.out,HK.out.below⟩)
theorem ends_any {w:World}(t:ITerm)(ht:I64 t.kind/\I64 t.a){tv:Value}{B:Nat}(hB:B<=w.heap.size)(hto:wH w B tv t.to)(hlen:t.to.length<=2000000/\∀e∈t.to,e.args.length<=2000000):
 Calls Try.prog 71 #[.agg #[.int .i64 t.kind,.int .i64 t.a,tv]] w (wG w (mE t)):=by
 unfold mE
 cases hh:ut t
 ·exact ends_0 t ht hB hto hlen hh
 ·exact ends_1 t ht hB hto hlen hh
end Go.Proofs.Ytojclalkfhoooaa
