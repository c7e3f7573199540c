/- Part of a proof. -/
import Derived.Test.YtojclalkfhoooaaVs
import Derived.Test.YtojclalkfhoooaaGTab3
import Derived.Test.YtojclalkfhoooaaISan
set_option linter.unusedSimpArgs false
set_option linter.unusedVariables false
set_option maxHeartbeats 4000000
set_option maxRecDepth 100000
namespace Go.Proofs.Ytojclalkfhoooaa
open Go.RowKit
theorem lK (w:World)(sv:Value)(s:List Int)(q0 q1 q2:Int)(c r a b n:Int)(xa:Option Addr)(xn xc:Nat)(hs:zY w w.heap.size sv s)(hq:I64 q0/\I64 q1/\I64 q2):
 Calls Try.prog 16 #[sv,.agg #[.int .i64 q0,.int .i64 q1,.int .i64 q2],.agg #[.int .i64 c,.int .i64 r,.int .i64 a,.int .i64 b,.int .u16 n,.slice xa xn xc]] w fun e w'=>e=.returned (.bool true)/\Below w.heap.size w w':=by
 obtain⟨sa,sc,rfl,hsc,hsm⟩:=hs.form
 have HS:=Lib.hid (And.intro hs hq)
 clear hs hsc hsm hq
 have hb0:Below w.heap.size w ((w.alloc (.cells #[.int .i64 q0,.int .i64 q1,.int .i64 q2] 23)).alloc (.cells #[.int .i64 c,.int .i64 r,.int .i64 a,.int .i64 b,.int .u16 n,.slice xa xn xc] 77)):=((Below.refl _ _).alloc (Nat.le_refl _) _).alloc (by simp) _
 have hx0:=zB (o:=.cells #[.int .i64 c,.int .i64 r,.int .i64 a,.int .i64 b,.int .u16 n,.slice xa xn xc] 77) (zI (W:=w) (o:=.cells #[.int .i64 q0,.int .i64 q1,.int .i64 q2] 23) rfl)
 have hx1:=zI (W:=w.alloc (.cells #[.int .i64 q0,.int .i64 q1,.int .i64 q2] 23)) (o:=.cells #[.int .i64 c,.int .i64 r,.int .i64 a,.int .i64 b,.int .u16 n,.slice xa xn xc] 77) (B:=w.heap.size+1) (by simp)
 have H0:=Lib.hid (And.intro hb0 (And.intro hx0 hx1))
 clear hb0 hx0 hx1
 go_enter Try.func16,Try.ntmps16
 go_upto_region 2 with(go_at_call 17;go_must (refine(ln _).mono ?_;rintro e w0 ⟨rfl,hb1⟩))
 have hb2:=H0.out.1.trans (hb1.mono H0.out.1.size)
 have hx2:=zH hb1 H0.out.2.1 (lt_of_block H0.out.2.1)
 have hx3:=zH hb1 H0.out.2.2 (lt_of_block H0.out.2.2)
 have hs0:w.heap.size+2<=w0.heap.size:=by have:=hb1.size;simp at this;omega
 have H1:=Lib.hid (And.intro hb2 (And.intro hx2 (And.intro hx3 hs0)))
 clear hb1 hb2 hx2 hx3 hs0 H0
 have HM:=Lib.hid (show ∀W,Below w0.heap.size w0 W->Calls Try.prog 18 #[.slice sa s.length sc] W (oC W (uR (s.take 200))) from fun W hb=>made_law ((HS.out.1.below zO (H1.out.1.trans (hb.mono H1.out.1.size))).mono zO (H1.out.1.trans (hb.mono H1.out.1.size)).size))
 have hm1:=made_smS (s.take 200)
 generalize uR (s.take 200)=p at *
 have HT:=Lib.hid (show ∀(W:World) (fa:Option Addr) (fc:Nat) (aa:Option Addr) (ac:Nat) (da:Option Addr) (dc:Nat) (ba:Option Addr) (bc:Nat),ProgIn W W.heap.size ⟨.slice fa p.funcs.length fc,.slice aa p.args.length ac,.slice da p.data.length dc,.slice ba p.banks.length bc⟩ p->
  Calls Try.prog 19 #[.agg #[.slice fa p.funcs.length fc,.slice aa p.args.length ac,.int .i64 p.entry,.int .i64 p.handler,.slice da p.data.length dc,.slice ba p.banks.length bc],.agg #[.int .i64 q0,.int .i64 q1,.int .i64 q2]] W (TuRet2 W (wR p q0 q1 q2)) from fun W fa fc aa ac da dc ba bc hp=>kU hp (hm1.small (by decide)) HS.out.2)
 have hm2:=turn_sm hm1 q0 q1 q2
 generalize wR p q0 q1 q2=p' at *
 have HM2:=Lib.hid hm2
 clear hm1 hm2
 have hq0:∀W,Below w0.heap.size w0 W->W.cell? ⟨w.heap.size,0,none⟩=some (.int .i64 q0)/\W.cell? ⟨w.heap.size,1,none⟩=some (.int .i64 q1)/\W.cell? ⟨w.heap.size,2,none⟩=some (.int .i64 q2):=fun W hb=>by
  have h:=zH hb H1.out.2.1 (lt_of_block H1.out.2.1)
  exact⟨zA h (by simp),zA h (by simp),zA h (by simp)⟩
 have HQ:=Lib.hid hq0
 clear hq0
 go_cut [8] (fun v wx=>jL w0 p' v wx)
 case first=>
  go_region_held3 (fun w'=>w'.cell? ⟨w.heap.size,0,none⟩=some (.int .i64 q0)/\w'.cell? ⟨w.heap.size,1,none⟩=some (.int .i64 q1)/\w'.cell? ⟨w.heap.size,2,none⟩=some (.int .i64 q2))
   ((refine HQ.out _ ?_;repeat' (first|with_reducible exact Below.refl _ _|with_reducible assumption|with_reducible refine Below.drew ?_|with_reducible refine Below.alloc ?_ (by first|exact Nat.le_refl _|omega|(simp;done)|(simp;omega)) _|with_reducible refine Below.setCell ?_ (by first|exact Nat.le_refl _|omega|(simp;done)|(simp;omega)) _)))
   (first
     |(go_at_call 18
       refine(HM.out _ (by repeat' (first|with_reducible exact Below.refl _ _|with_reducible assumption|with_reducible refine Below.drew ?_|with_reducible refine Below.alloc ?_ (by first|exact Nat.le_refl _|omega|(simp;done)|(simp;omega)) _))).mono ?_
       rintro e w1 ⟨fa,fc,aa,ac,da,dc,ba,bc,rfl,hp,hb1⟩
       have hz1:Below w0.heap.size w0 w1:=Below.trans (by repeat' (first|with_reducible exact Below.refl _ _|with_reducible assumption|with_reducible refine Below.drew ?_|with_reducible refine Below.alloc ?_ (by first|exact Nat.le_refl _|omega|(simp;done)|(simp;omega)) _)) (hb1.mono (by first|exact Nat.le_refl _|omega|(simp;done)|(simp;omega)))
       have hs1:=hz1.size
       try have hk1:w1.heap[w0.heap.size]? =some (.cells #[.slice none 0 0,.slice none 0 0,.int .i64 0,.int .i64 0,.slice none 0 0,.slice none 0 0] 29 (0,0)):=zH hb1 (show(World.alloc w0 _).heap[w0.heap.size]? =_ from zI rfl) (by simp)
       clear hb1)
     |(go_at_call 19
       refine(HT.out _ _ _ _ _ _ _ _ _ (ProgIn.mono (ProgIn.below hp (by repeat' (first|with_reducible exact Below.refl _ _|with_reducible assumption|with_reducible refine Below.drew ?_|with_reducible refine Below.alloc ?_ (by first|exact Nat.le_refl _|omega|(simp;done)|(simp;omega)) _))) (by first|exact Nat.le_refl _|omega|(simp;done)|(simp;omega)))).mono ?_
       rintro e w2 ⟨ga,gc,ha,hc,ia,ic,ja,jc,rfl,hp2,hb2⟩
       have hz2:Below w0.heap.size w0 w2:=Below.trans (by repeat' (first|with_reducible exact Below.refl _ _|with_reducible assumption|with_reducible refine Below.drew ?_|with_reducible refine Below.alloc ?_ (by first|exact Nat.le_refl _|omega|(simp;done)|(simp;omega)) _)) (hb2.mono (by first|exact Nat.le_refl _|omega|(simp;done)|(simp;omega)))
       have hs2:=hz2.size
       first
        |(have hk2:w2.heap[w0.heap.size]? =some (.cells #[.slice none 0 0,.slice none 0 0,.int .i64 0,.int .i64 0,.slice none 0 0,.slice none 0 0] 29 (0,0)):=zH hb2 hk1 (by first|exact lt_of_block hk1|(have:=lt_of_block hk1;simp;omega));have c0:=zA (i:=0) hk2 rfl;have c1:=zA (i:=1) hk2 rfl;have c2:=zA (i:=2) hk2 rfl;have c3:=zA (i:=3) hk2 rfl;have c4:=zA (i:=4) hk2 rfl;have c5:=zA (i:=5) hk2 rfl;have cf:∀i,w2.frozen? ⟨w0.heap.size,i,none⟩=false:=fun i=>zE hk2;have cl:=lt_of_block hk2)
        |(have hk2:w2.heap[w1.heap.size]? =some (.cells #[.slice none 0 0,.slice none 0 0,.int .i64 0,.int .i64 0,.slice none 0 0,.slice none 0 0] 29 (0,0)):=zH hb2 (by with_reducible exact zI rfl) (by simp);have c0:=zA (i:=0) hk2 rfl;have c1:=zA (i:=1) hk2 rfl;have c2:=zA (i:=2) hk2 rfl;have c3:=zA (i:=3) hk2 rfl;have c4:=zA (i:=4) hk2 rfl;have c5:=zA (i:=5) hk2 rfl;have cf:∀i,w2.frozen? ⟨w1.heap.size,i,none⟩=false:=fun i=>zE hk2;have cl:=lt_of_block hk2)
        |skip))
  all_goals go_wp2_with fail
  all_goals go_meet
  ·exact kD hz2 hp2
  ·exact qx hz2 hp2 hk2 (by simp) (by omega)
  ·exact qx hz2 hp2 hk2 (lt_of_block hk1) (Nat.le_refl _)
 case rest=>
  obtain⟨b8,fa,fc,aa,ac,da,dc,ba,bc,rfl,HK⟩:=hcut
  have k0:wc.cell? ⟨b8,0,none⟩=some (.slice fa p'.funcs.length fc):=zA HK.out.2.1 (by simp)
  have kl:=lt_of_block HK.out.2.1
  go_wp2
  go_loopw [27] (fun kv wx=>∃k:Nat,k<=p'.funcs.length/\kv=.int .i64 (k:Int)/\Hid (Below wc.heap.size wc wx)) (fun kv _=>p'.funcs.length-(intOf kv).toNat)
  case atStart=>exact⟨0,Nat.zero_le _,rfl,Lib.hid (Below.refl _ _)⟩
  case round=>
   obtain⟨k,hk,rfl,HB⟩:=hrel
   by_cases hlt:k<p'.funcs.length
   ·have hltI:(k:Int)<(p'.funcs.length:Int):=by omega
    have HLT:=Lib.hid hlt
    have hplen:p'.funcs.length<=15001:=HM2.out.fn
    obtain⟨f,hf⟩:∃f,p'.funcs[k]? =some f:=⟨_,List.getElem?_eq_getElem hlt⟩
    have hin:=(HK.out.2.2.1.funcs.below vR HB.out).get hf
    obtain⟨fb,fo,rfl,hfb,bv,hc,hbl⟩:=hin
    obtain⟨xb,xd,rfl,hxc,hxm⟩:=hbl.form
    rw[Nat.mul_one] at hc
    have hfl:fb<wr.heap.size:=by have:=HB.out.size;omega
    have hG:∀W,Below wr.heap.size wr W->wX W wc.heap.size (.slice xb f.length xd) f/\wc.heap.size<=W.heap.size:=fun W hb=>⟨hbl.below yT (hb.mono HB.out.size),Nat.le_trans HB.out.size hb.size⟩
    have HG:=Lib.hid (And.intro hG (HM2.out.sized (by decide) f (List.mem_of_getElem? hf)).1)
    have hgl:(zk f).length<=2000000:=by unfold zk;rw[List.length_map];exact HG.out.2.1
    clear hG hbl hf hxc hxm
    have hb10:=(Below.refl wr.heap.size wr).alloc (Nat.le_refl _) (.cells #[.slice xb f.length xd] 43)
    have hx10:=zI (W:=wr) (o:=.cells #[.slice xb f.length xd] 43) rfl
    have H10:=Lib.hid (And.intro hb10 hx10)
    clear hb10 hx10
    go_upto_region 7 with(go_at_call 38;go_must (refine(ox (HG.out.1 _ H10.out.1).1 (HG.out.1 _ H10.out.1).2 (by have h:=HG.out.2;exact⟨by have:=h.1;omega,fun b hb=>by have:=(h.2 b hb).2.2;omega⟩)).mono ?_;rintro e w5 ⟨g1,rfl,ho1,hg1,hb5⟩;have y10:=zH hb5 H10.out.2 (lt_of_block H10.out.2);have y10c:=zA (i:=0) y10 rfl;have y10l:=lt_of_block y10;have H5:=Lib.hid (And.intro (H10.out.1.trans (hb5.mono H10.out.1.size)) (And.intro y10 (And.intro (kE ho1 (by omega)) hg1)));clear ho1 hg1 hb5 y10))
    have hb11:=H5.out.1.alloc H5.out.1.size (.cells #[.slice (some ⟨g1,0,none⟩) (zk f).length (zk f).length] 93)
    have hx11:=zI (W:=w5) (o:=.cells #[.slice (some ⟨g1,0,none⟩) (zk f).length (zk f).length] 93) rfl
    have hy10:=zB (o:=.cells #[.slice (some ⟨g1,0,none⟩) (zk f).length (zk f).length] 93) H5.out.2.1
    have hr11:=H5.out.2.2.1.below yZ ((Below.refl w5.heap.size w5).alloc (Nat.le_refl _) (.cells #[.slice (some ⟨g1,0,none⟩) (zk f).length (zk f).length] 93))
    have H11:=Lib.hid (And.intro hb11 (And.intro hx11 (And.intro hy10 hr11)))
    clear hb11 hx11 hy10 hr11
    go_upto_region 8 with(go_at_call 39;go_must (refine(kn (HG.out.1 _ H11.out.1).1 (HG.out.1 _ H11.out.1).2 HG.out.2).mono ?_;rintro e w6 ⟨ra,rn,rc,rfl,ho2,hb6⟩;have y10:=zH hb6 H11.out.2.2.1 (lt_of_block H11.out.2.2.1);have y11:=zH hb6 H11.out.2.1 (lt_of_block H11.out.2.1);have H6:=Lib.hid (And.intro (H11.out.1.trans (hb6.mono H11.out.1.size)) (And.intro y10 (And.intro y11 (And.intro ((H11.out.2.2.2.below yZ (hb6.mono (by simp))).mono yZ (B':=w6.heap.size) (by have:=hb6.size;simp at this;omega)) (iW ho2)))));clear ho2 hb6 y10 y11))
    obtain⟨ra',rc',hre,_,_⟩:=H6.out.2.2.2.2.form
    cases hre
    have hbV:=(H6.out.1.alloc H6.out.1.size (.cells #[.slice ra (zk f).length rc] 93))
    have hx12:=zI (W:=w6) (o:=.cells #[.slice ra (zk f).length rc] 93) rfl
    have hx10:=zB (o:=.cells #[.slice ra (zk f).length rc] 93) H6.out.2.1
    have hx11:=zB (o:=.cells #[.slice ra (zk f).length rc] 93) H6.out.2.2.1
    have hba:=(Below.refl w6.heap.size w6).alloc (Nat.le_refl _) (.cells #[.slice ra (zk f).length rc] 93)
    have hr1:=H6.out.2.2.2.1.below yZ hba
    have hr2:=H6.out.2.2.2.2.below yZ hba
    have h5s:=H5.out.1.size
    have h6s:=H6.out.1.size
    have hr1:=hr1.mono yZ (show w6.heap.size<=(w6.alloc (.cells #[.slice ra (zk f).length rc] 93)).heap.size by simp)
    have hr2:=hr2.mono yZ (show w6.heap.size<=(w6.alloc (.cells #[.slice ra (zk f).length rc] 93)).heap.size by simp)
    generalize hV:w6.alloc (.cells #[.slice ra (zk f).length rc] 93)=V at *
    generalize zk f=G at *
    clear hba hV H5 H6 H11 y10c y10l
    have hwb:=HB.out.size
    generalize wr.heap.size=b10 at *
    rename_i hr1' hr2'
    clear hr1' hr2'
    generalize w5.heap.size=b11 at *
    generalize w6.heap.size=b12 at *
    have hbVs:=Nat.le_of_lt (lt_of_block hx10)
    have HV:=Lib.hid (And.intro hbV (And.intro hx10 (And.intro hx11 (And.intro hx12 (And.intro hr1 hr2)))))
    have HVC:=Lib.hid (show ∀W,Below V.heap.size V W->W.cell? ⟨b10,0,none⟩=some (.slice xb f.length xd)/\W.cell? ⟨b11,0,none⟩=some (.slice (some ⟨g1,0,none⟩) G.length G.length)/\W.cell? ⟨b12,0,none⟩=some (.slice ra G.length rc) from fun W hb=>⟨zA (zH hb hx10 (lt_of_block hx10)) (by simp),zA (zH hb hx11 (lt_of_block hx11)) (by simp),zA (zH hb hx12 (lt_of_block hx12)) (by simp)⟩)
    clear hbV hx10 hx11 hx12 hr1 hr2
    go_cut [48] (fun v wx=>v=.bool false/\Hid (Below V.heap.size V wx))
    case first=>
     go_region_held3 (fun w'=>w'.cell? ⟨b10,0,none⟩=some (.slice xb f.length xd)/\w'.cell? ⟨b11,0,none⟩=some (.slice (some ⟨g1,0,none⟩) G.length G.length)/\w'.cell? ⟨b12,0,none⟩=some (.slice ra G.length rc))
      ((refine HVC.out _ ?_;repeat' (first|with_reducible exact Below.refl _ _|with_reducible assumption|with_reducible refine Below.drew ?_)))
      (first
        |(go_at_call 40
          refine(ls (HG.out.1 _ (HV.out.1.trans (Below.mono (B:=V.heap.size) (by repeat' (first|with_reducible exact Below.refl _ _|with_reducible assumption|with_reducible refine Below.drew ?_)) hbVs))).1 (HG.out.1 _ (HV.out.1.trans (Below.mono (B:=V.heap.size) (by repeat' (first|with_reducible exact Below.refl _ _|with_reducible assumption|with_reducible refine Below.drew ?_)) hbVs))).2 HG.out.2).mono ?_
          rintro e w7 ⟨rfl,hb7⟩
          have hz7:Below V.heap.size V w7:=Below.trans (by repeat' (first|with_reducible exact Below.refl _ _|with_reducible assumption|with_reducible refine Below.drew ?_)) (hb7.mono (by first|exact Nat.le_refl _|omega|(simp;done)|(simp;omega)))
          have hs7:=hz7.size
          clear hb7)
        |(go_at_call 41
          refine(jr (HG.out.1 _ (HV.out.1.trans (Below.mono (B:=V.heap.size) (by repeat' (first|with_reducible exact Below.refl _ _|with_reducible assumption|with_reducible refine Below.drew ?_)) hbVs))).1 (HG.out.1 _ (HV.out.1.trans (Below.mono (B:=V.heap.size) (by repeat' (first|with_reducible exact Below.refl _ _|with_reducible assumption|with_reducible refine Below.drew ?_)) hbVs))).2 HG.out.2).mono ?_
          rintro e w8 ⟨rfl,hb8⟩
          have hz8:Below V.heap.size V w8:=Below.trans (by repeat' (first|with_reducible exact Below.refl _ _|with_reducible assumption|with_reducible refine Below.drew ?_)) (hb8.mono (by first|exact Nat.le_refl _|omega|(simp;done)|(simp;omega)))
          have hs8:=hz8.size
          clear hb8))
     all_goals go_wp2_with fail
     all_goals go_meet
     exact⟨rfl,Lib.hid hz8⟩
    case rest=>
     obtain⟨rfl,HB2⟩:=hcut
     have c11:=(HVC.out _ HB2.out).2.1
     have c11l:=World.block_lt_of_cell? _ _ c11
     go_wp2
     clear c11 c11l
     go_loopw [52] (fun nv wx=>∃m:Nat,m<=G.length/\nv=.int .i64 (m:Int)/\Hid (Below V.heap.size V wx)) (fun nv _=>G.length-(intOf nv).toNat)
     case atStart=>exact⟨0,Nat.zero_le _,rfl,HB2⟩
     case round=>
      obtain⟨m,hm,rfl,HB3⟩:=hrel
      by_cases hmg:m<G.length
      ·have hmI:(m:Int)<(G.length:Int):=by omega
       have HMG:=Lib.hid hmg
       obtain⟨R,hR⟩:∃R,G[m]? =some R:=⟨_,List.getElem?_eq_getElem hmg⟩
       obtain⟨z10,z11,z12⟩:=HVC.out _ HB3.out
       have l11:b11<wr.heap.size:=World.block_lt_of_cell? _ _ z11
       have l12:b12<wr.heap.size:=World.block_lt_of_cell? _ _ z12
       obtain⟨e1,f1,he1,hb1,v1,hc1,hi1⟩:=(HV.out.2.2.2.2.1.below yZ HB3.out).get hR
       cases he1
       obtain⟨e2,f2,rfl,hb2,v2,hc2,hi2⟩:=(HV.out.2.2.2.2.2.below yZ HB3.out).get hR
       obtain⟨s1,t1,rfl,_,_⟩:=hi1.form
       obtain⟨s2,t2,rfl,_,_⟩:=hi2.form
       rw[Nat.mul_one] at hc1 hc2
       rw[Nat.zero_add] at hc1
       have hs3:=HB3.out.size
       have hbl1:g1<wr.heap.size:=by omega
       have hbl2:e2<wr.heap.size:=by omega
       have HO:=Lib.hid (show ∀W,Below wr.heap.size wr W->W.cell? ⟨b11,0,none⟩=some (.slice (some ⟨g1,0,none⟩) G.length G.length)/\W.cell? ⟨b12,0,none⟩=some (.slice (some ⟨e2,f2,none⟩) G.length rc)/\W.cell? ⟨g1,m,none⟩=some (.slice s1 R.length t1)/\W.cell? ⟨e2,f2+m,none⟩=some (.slice s2 R.length t2)/\pg W W.heap.size (.slice s1 R.length t1) R/\pg W W.heap.size (.slice s2 R.length t2) R/\(b11<W.heap.size/\b12<W.heap.size/\g1<W.heap.size/\e2<W.heap.size) from fun W hb=>⟨zV hb l11 z11,zV hb l12 z12,zV hb hbl1 hc1,zV hb hbl2 hc2,(hi1.below xx (hb.mono hs3)).mono xx (Nat.le_trans hs3 hb.size),(hi2.below xx (hb.mono hs3)).mono xx (Nat.le_trans hs3 hb.size),by have:=hb.size;omega⟩)
       clear hmg hR hi1 hi2
       go_wp2
       go_quiet (fail)
       go_wp2
       clear z10 z11 z12 hc1 hc2 l11 l12 hbl1 hbl2
       go_loopw [74] (fun iv wx=>∃i:Nat,i<=R.length/\iv=.int .i64 (i:Int)/\Hid (Below wr.heap.size wr wx)) (fun iv _=>R.length-(intOf iv).toNat)
       case atStart=>exact⟨0,Nat.zero_le _,rfl,Lib.hid (yL _ _ _)⟩
       case round=>
        obtain⟨i,hi,rfl,HB4⟩:=hrel
        by_cases hir:i<R.length
        ·have hiI:(i:Int)<(R.length:Int):=by omega
         have HIR:=Lib.hid hir
         obtain⟨x,hx⟩:∃x,R[i]? =some x:=⟨_,List.getElem?_eq_getElem hir⟩
         obtain⟨z11,z12,hc1,hc2,hi1,hi2,l11,l12,l1,l2⟩:=HO.out _ HB4.out
         obtain⟨y1,j1,rfl,hl1,hv1⟩:=hi1.get hx
         obtain⟨y2,j2,rfl,hl2,hv2⟩:=hi2.get hx
         rw[Nat.mul_one] at hv1 hv2
         unfold i8 at hv1 hv2
         clear hir hx hi1 hi2
         go_wp2
         go_quiet (fail)
         go_wp2
         go_roundw
         case rel=>exact⟨i+1,HIR.out,by go_num,Lib.hid (yC HB4.out)⟩
         case measure=>have:=HIR.out;simp[intOf];omega
        ·obtain rfl:i=R.length:=by omega
         have hiI:¬(R.length:Int)<(R.length:Int):=by omega
         clear hir
         go_wp2
         go_roundw
         case rel=>exact⟨m+1,HMG.out,by go_num,Lib.hid (HB3.out.trans (HB4.out.mono HB3.out.size))⟩
         case measure=>have:=HMG.out;simp[intOf];omega
      ·obtain rfl:m=G.length:=by omega
       have hmI:¬(G.length:Int)<(G.length:Int):=by omega
       clear hmg
       have c10:=(HVC.out _ HB3.out).1
       have c10l:=World.block_lt_of_cell? _ _ c10
       go_wp2
       clear c10 c10l
       go_loopw [99] (fun jv wx=>∃j:Nat,j<=f.length/\jv=.int .i64 (j:Int)/\Hid (Below V.heap.size V wx)) (fun jv _=>f.length-(intOf jv).toNat)
       case atStart=>exact⟨0,Nat.zero_le _,rfl,HB3⟩
       case round=>
        obtain⟨j,hj,rfl,HB4⟩:=hrel
        by_cases hjf:j<f.length
        ·have hjI:(j:Int)<(f.length:Int):=by omega
         have HJF:=Lib.hid hjf
         have hflen:f.length<=2000000:=HG.out.2.1
         obtain⟨blk,hblk⟩:∃blk,f[j]? =some blk:=⟨_,List.getElem?_eq_getElem hjf⟩
         have hs4:=HB4.out.size
         obtain⟨hbk,hbs⟩:=HG.out.1 _ (HV.out.1.trans (HB4.out.mono hbVs))
         obtain⟨e3,f3,rfl,hl3,hk1,hk2,hk64,pv,ov,tv,hk3,hk4,hk5,hp,ho,ht⟩:=hbk.get hblk
         obtain⟨pa,pc,rfl,_,_⟩:=hp.form
         obtain⟨oa,oc,rfl,_,_⟩:=ho.form
         obtain⟨ta,tc,rfl,_,_⟩:=ht.form
         have hl3':e3<wr.heap.size:=by omega
         have hbo:=(Below.refl wr.heap.size wr).alloc (Nat.le_refl _) (.cells #[.slice pa blk.params.length pc,.slice oa blk.ops.length oc,.int .i64 blk.term.kind,.int .i64 blk.term.a,.slice ta blk.term.to.length tc] 49)
         have HO:=Lib.hid (And.intro ((ho.mono xA hbs).below xA hbo) (And.intro (HB4.out.trans (hbo.mono hs4)) hbo.size))
         clear hjf hblk hbk hp ho ht hbo
         go_wp2
         generalize wr.alloc (.cells #[.slice pa blk.params.length pc,.slice oa blk.ops.length oc,.int .i64 blk.term.kind,.int .i64 blk.term.a,.slice ta blk.term.to.length tc] 49)=X at *
         clear hl3' hk1 hk2 hk3 hk4 hk5
         go_loopw [106] (fun iv wx=>∃i:Nat,i<=blk.ops.length/\iv=.int .i64 (i:Int)/\Hid (Below X.heap.size X wx)) (fun iv _=>blk.ops.length-(intOf iv).toNat)
         case atStart=>exact⟨0,Nat.zero_le _,rfl,Lib.hid (Below.refl _ _)⟩
         case round=>
          obtain⟨i,hi,rfl,HB5⟩:=hrel
          by_cases hio:i<blk.ops.length
          ·have hiI:(i:Int)<(blk.ops.length:Int):=by omega
           have HIO:=Lib.hid hio
           obtain⟨x,hx⟩:∃x,blk.ops[i]? =some x:=⟨_,List.getElem?_eq_getElem hio⟩
           have hs5:=HB5.out.size
           have hs6:=HO.out.2.1.size
           have hVB:=HO.out.2.2
           obtain⟨e4,f4,rfl,hl4,c0,c1,c2,c3,c4,c64,av,c5,ha⟩:=((HO.out.1.below xA (HB5.out.mono hVB))).get hx
           obtain⟨ya,yc,rfl,_,_⟩:=ha.form
           have hl4':e4<wr.heap.size:=by omega
           clear hio hx ha c64
           go_upto_region 28 with fail
           have hbY:=HB5.out.alloc hs5 (.cells #[.int .i64 x.code,.int .i64 x.res,.int .i64 x.a,.int .i64 x.b,.int .u16 (x.n:Int),.slice ya x.args.length yc] 77)
           have hxY:=zI (W:=wr) (o:=(.cells #[.int .i64 x.code,.int .i64 x.res,.int .i64 x.a,.int .i64 x.b,.int .u16 (x.n:Int),.slice ya x.args.length yc] 77)) rfl
           generalize wr.heap.size=b18 at *
           generalize wr.alloc (.cells #[.int .i64 x.code,.int .i64 x.res,.int .i64 x.a,.int .i64 x.b,.int .u16 (x.n:Int),.slice ya x.args.length yc] 77)=Y at *
           have HY:=Lib.hid hbY
           have HYC:=Lib.hid (show ∀W,Below Y.heap.size Y W->W.cell? ⟨b18,0,none⟩=some (.int .i64 x.code)/\W.cell? ⟨b18,1,none⟩=some (.int .i64 x.res)/\W.cell? ⟨b18,2,none⟩=some (.int .i64 x.a)/\W.cell? ⟨b18,3,none⟩=some (.int .i64 x.b)/\W.cell? ⟨b18,4,none⟩=some (.int .u16 (x.n:Int))/\W.cell? ⟨b18,5,none⟩=some (.slice ya x.args.length yc) from fun W hb=>by
            have h:=zH hb hxY (lt_of_block hxY)
            exact⟨zA h (by simp),zA h (by simp),zA h (by simp),zA h (by simp),zA h (by simp),zA h (by simp)⟩)
           clear hbY hxY c0 c1 c2 c3 c4 c5
           go_cut [114] (fun v wx=>v=.bool false/\Hid (Below Y.heap.size Y wx))
           case first=>
            go_region_held3 (fun w'=>w'.cell? ⟨b18,0,none⟩=some (.int .i64 x.code)/\w'.cell? ⟨b18,1,none⟩=some (.int .i64 x.res)/\w'.cell? ⟨b18,2,none⟩=some (.int .i64 x.a)/\w'.cell? ⟨b18,3,none⟩=some (.int .i64 x.b)/\w'.cell? ⟨b18,4,none⟩=some (.int .u16 (x.n:Int))/\w'.cell? ⟨b18,5,none⟩=some (.slice ya x.args.length yc))
             ((refine HYC.out _ ?_;repeat' (first|with_reducible exact Below.refl _ _|with_reducible assumption|with_reducible refine Below.drew ?_)))
             (first
               |(go_at_call 42
                 refine(oM _ _ _ _ _ _ _ x.code rfl).mono ?_
                 rintro e w7 ⟨rfl,hb7⟩
                 have hz7:Below Y.heap.size Y w7:=Below.trans (by repeat' (first|with_reducible exact Below.refl _ _|with_reducible assumption|with_reducible refine Below.drew ?_)) (hb7.mono (by first|exact Nat.le_refl _|omega|(simp;done)|(simp;omega)))
                 have hs7:=hz7.size
                 clear hb7)
               |(go_at_call 43
                 refine(mx _ _ _ _ _ _ _ x.code rfl).mono ?_
                 rintro e w8 ⟨rfl,hb8⟩
                 have hz8:Below Y.heap.size Y w8:=Below.trans (by repeat' (first|with_reducible exact Below.refl _ _|with_reducible assumption|with_reducible refine Below.drew ?_)) (hb8.mono (by first|exact Nat.le_refl _|omega|(simp;done)|(simp;omega)))
                 have hs8:=hz8.size
                 clear hb8))
            all_goals go_wp2_with fail
            all_goals go_meet
            exact⟨rfl,Lib.hid hz8⟩
           case rest=>
            obtain⟨rfl,HB6⟩:=hcut
            go_wp2
            go_roundw
            case rel=>exact⟨i+1,HIO.out,by go_num,Lib.hid (HY.out.trans (HB6.out.mono HY.out.size))⟩
            case measure=>have:=HIO.out;simp[intOf];omega
          ·obtain rfl:i=blk.ops.length:=by omega
           have hiI:¬(blk.ops.length:Int)<(blk.ops.length:Int):=by omega
           clear hio
           go_wp2
           go_roundw
           case rel=>exact⟨j+1,HJF.out,by have:=HJF.out;have:=HG.out.2.1;go_num,Lib.hid (HO.out.2.1.trans (HB5.out.mono HO.out.2.1.size))⟩
           case measure=>have:=HJF.out;have:=HG.out.2.1;simp[intOf];omega
        ·obtain rfl:j=f.length:=by omega
         have hjI:¬(f.length:Int)<(f.length:Int):=by omega
         clear hjf
         go_wp2
         go_roundw
         case rel=>exact⟨k+1,HLT.out,by have:=HLT.out;have:=HM2.out.fn;go_num,Lib.hid (HB.out.trans ((HV.out.1.mono (by omega)).trans (HB4.out.mono (by omega))))⟩
         case measure=>have:=HLT.out;have:=HM2.out.fn;simp[intOf];omega
   ·obtain rfl:k=p'.funcs.length:=by omega
    have hltI:¬(p'.funcs.length:Int)<(p'.funcs.length:Int):=by omega
    clear hlt
    have hB1:=H1.out.1
    have hB2:=HB.out.mono (B':=w0.heap.size) HK.out.2.2.2.size
    have hB3:=HK.out.2.2.2.trans hB2
    have hB4:=hB1.trans (hB3.mono hB1.size)
    have HOC:=Lib.hid (show ∀W,Below wr.heap.size wr W->W.cell? ⟨w.heap.size+1,0,none⟩=some (.int .i64 c)/\W.cell? ⟨w.heap.size+1,1,none⟩=some (.int .i64 r)/\W.cell? ⟨w.heap.size+1,2,none⟩=some (.int .i64 a)/\W.cell? ⟨w.heap.size+1,3,none⟩=some (.int .i64 b)/\W.cell? ⟨w.heap.size+1,4,none⟩=some (.int .u16 n)/\W.cell? ⟨w.heap.size+1,5,none⟩=some (.slice xa xn xc) from fun W hb=>by
     have h0:=zH hB3 H1.out.2.2.1 (lt_of_block H1.out.2.2.1)
     have h:=zH hb h0 (lt_of_block h0)
     exact⟨zA h (by simp),zA h (by simp),zA h (by simp),zA h (by simp),zA h (by simp),zA h (by simp)⟩)
    have HB4:=Lib.hid hB4
    clear hB1 hB2 hB3 hB4
    go_upto_region 33 with fail
    go_cut [6] (fun v wx=>v=.bool true/\Hid (Below wr.heap.size wr wx))
    case first=>
     go_region_held3 (fun w'=>w'.cell? ⟨w.heap.size+1,0,none⟩=some (.int .i64 c)/\w'.cell? ⟨w.heap.size+1,1,none⟩=some (.int .i64 r)/\w'.cell? ⟨w.heap.size+1,2,none⟩=some (.int .i64 a)/\w'.cell? ⟨w.heap.size+1,3,none⟩=some (.int .i64 b)/\w'.cell? ⟨w.heap.size+1,4,none⟩=some (.int .u16 n)/\w'.cell? ⟨w.heap.size+1,5,none⟩=some (.slice xa xn xc))
      ((refine HOC.out _ ?_;repeat' (first|with_reducible exact Below.refl _ _|with_reducible assumption|with_reducible refine Below.drew ?_)))
      (first
        |(go_at_call 42
          refine(oM _ _ _ _ _ _ _ c rfl).mono ?_
          rintro e w7 ⟨rfl,hb7⟩
          have hz7:Below wr.heap.size wr w7:=Below.trans (by repeat' (first|with_reducible exact Below.refl _ _|with_reducible assumption|with_reducible refine Below.drew ?_)) (hb7.mono (by first|exact Nat.le_refl _|omega|(simp;done)|(simp;omega)))
          have hs7:=hz7.size
          clear hb7)
        |(go_at_call 43
          refine(mx _ _ _ _ _ _ _ c rfl).mono ?_
          rintro e w8 ⟨rfl,hb8⟩
          have hz8:Below wr.heap.size wr w8:=Below.trans (by repeat' (first|with_reducible exact Below.refl _ _|with_reducible assumption|with_reducible refine Below.drew ?_)) (hb8.mono (by first|exact Nat.le_refl _|omega|(simp;done)|(simp;omega)))
          have hs8:=hz8.size
          clear hb8))
     all_goals go_wp2_with fail
     all_goals go_meet
     exact⟨rfl,Lib.hid hz8⟩
    case rest=>
     obtain⟨rfl,HB6⟩:=hcut
     go_wp2
     go_ret
     exact⟨rfl,HB4.out.trans (HB6.out.mono HB4.out.size)⟩
end Go.Proofs.Ytojclalkfhoooaa
