/- Part of a proof. -/
import Derived.Test.YtojclalkfhoooaaGTur4
import Derived.Test.YtojclalkfhoooaaGSpo8
import Derived.Test.YtojclalkfhoooaaGMkX
import Derived.Test.YtojclalkfhoooaaIEval2
import Derived.Test.YtojclalkfhoooaaGTab2
set_option linter.unusedSimpArgs false
set_option linter.unusedVariables false
set_option maxHeartbeats 4000000
set_option maxRecDepth 100000
namespace Go.Proofs.Ytojclalkfhoooaa
open Go.RowKit
theorem jO {w:World}{V:PV}{p:IProg}(hp:ProgIn w w.heap.size V p)(hs:SmallP p){q0 q1 q2:Int}(hq:I64 q0/\I64 q1/\I64 q2)(hw:yn q0=13):
 Calls Try.prog 19 #[yH V p,.agg #[.int .i64 q0,.int .i64 q1,.int .i64 q2]] w (pd w (wR p q0 q1 q2)):=by
 obtain⟨fa,fc,hfv,hfc,hfm⟩:=hp.funcs.form
 obtain⟨aa,ac,hav,hac,ham⟩:=hp.args.form
 obtain⟨da,dc,hdv,hdc,hdm⟩:=hp.data.form
 obtain⟨ba,bc,hbv,hbc,hbm⟩:=hp.banks.form
 obtain⟨p1,hp1⟩:∃p1,w.heap.size=p1:=⟨_,rfl⟩
 have hown:∀W,Below w.heap.size w W->Calls Try.prog 36 #[.agg #[.slice fa p.funcs.length fc,.slice aa p.args.length ac,.int .i64 p.entry,.int .i64 p.handler,.slice da p.data.length dc,.slice ba p.banks.length bc]] W _:=fun W hb=>by
  have h:=uJ ((hp.below hb).mono hb.size) hs
  unfold yH at h
  rw[hfv,hav,hdv,hbv] at h
  exact h
 unfold yH
 rw[hfv,hav,hdv,hbv]
 obtain⟨n,hn⟩:∃n,uS q2=n:=⟨_,rfl⟩
 have hnI:q2%65536=(n:Int):=by rw[<-hn];unfold uS;omega
 have hn6:n<65536:=by omega
 obtain⟨what,hwh⟩:∃k,yn q0=k:=⟨_,rfl⟩
 have hqt:-20<q0.tmod 20/\q0.tmod 20<20:=⟨by have:=Int.lt_tmod_of_pos q0 (show(0:Int)<20 by decide);omega,Int.tmod_lt_of_pos q0 (by decide)⟩
 have hwI:(q0.tmod 20+20)%20=(what:Int):=by
  rw[<-hwh]
  unfold yn
  have h1:=Int.emod_nonneg q0 (show(20:Int)≠0 by decide)
  rw[Int.toNat_of_nonneg h1]
  have h2:=Int.mul_tdiv_add_tmod q0 20
  omega
 have a65:=yt q2
 rw[hnI] at a65
 have a65b:=yt q1
 have hfl:=hs.fn.1
 have hb1:Below w.heap.size w (((w.alloc (.cells #[.slice fa p.funcs.length fc,.slice aa p.args.length ac,.int .i64 p.entry,.int .i64 p.handler,.slice da p.data.length dc,.slice ba p.banks.length bc] 29)).alloc (.cells #[.int .i64 q0,.int .i64 q1,.int .i64 q2] 23)).alloc (.cells #[.slice none 0 0,.slice none 0 0,.int .i64 0,.int .i64 0,.slice none 0 0,.slice none 0 0] 29)):=(((Below.refl _ _).alloc (Nat.le_refl _) _).alloc (by simp) _).alloc (by simp;omega) _
 have HOWN:=Lib.hid hown
 have HB1:=Lib.hid hb1
 have HP:=Lib.hid (And.intro hs (And.intro hn hwh))
 clear hown hb1 hp hs hfv hav hdv hbv hfc hfm hac ham hdc hdm hbc hbm hn hq
 have hw':=HP.out.2.2.symm.trans hw
 subst hw'
 have hwI':(q0.tmod 20+20)%20=13:=hwI
 clear hwI
 go_enter Try.func19,Try.ntmps19
 go_upto_region 2 with(go_at_call 36;go_must (refine(HOWN.out _ HB1.out).mono ?_;rintro e w2 ⟨t,fa2,fc2,aa2,ac2,da2,dc2,ba2,bc2,rfl,hV,ht,hr,hb⟩;have HT:=Lib.hid (And.intro hV (And.intro ht (And.intro hr hb)));clear hV ht hr hb))
 have hent:t.entry=p.entry/\t.handler=p.handler:=by rw[<-HT.out.2.1];exact⟨rfl,rfl⟩
 have hptc:(zW t).toArray=#[.slice fa2 p.funcs.length fc2,.slice aa2 p.args.length ac2,.int .i64 p.entry,.int .i64 p.handler,.slice da2 p.data.length dc2,.slice ba2 p.banks.length bc2]:=by
  unfold zW
  rw[HT.out.1.1,HT.out.1.2.1,HT.out.1.2.2.1,HT.out.1.2.2.2,hent.1,hent.2]
 obtain⟨o5,ho5⟩:∃o5,w2.heap.size=o5:=⟨_,rfl⟩
 have hm:TuMid w p1 o5 q0 q1 q2 t (w2.alloc (.cells (zW t).toArray 29)):=TuMid.start hp1 ho5 HT.out.2.2.1 HT.out.2.2.2
 rw[hptc] at hm
 generalize hW3:w2.alloc (.cells #[.slice fa2 p.funcs.length fc2,.slice aa2 p.args.length ac2,.int .i64 p.entry,.int .i64 p.handler,.slice da2 p.data.length dc2,.slice ba2 p.banks.length bc2] 29)=W3 at *
 clear hW3
 rw[ho5]
 clear ho5
 have ho:=hm.ho
 rw[hptc] at ho
 have cq0:=zA (i:=0) hm.hq rfl
 have cq1:=zA (i:=1) hm.hq rfl
 have cq2:=zA (i:=2) hm.hq rfl
 have co0:=zA (i:=0) ho rfl
 have co1:=zA (i:=1) ho rfl
 have co4:=zA (i:=4) ho rfl
 have co5:=zA (i:=5) ho rfl
 have of:∀i,W3.frozen? ⟨o5,i,none⟩=false:=fun i=>zE ho
 have co2:=zA (i:=2) ho rfl
 have co3:=zA (i:=3) ho rfl
 have ol:=lt_of_block ho
 have HM:=Lib.hid (And.intro hm (And.intro ho (And.intro hptc hent)))
 have HV:=Lib.hid HT.out.1
 have HPR:=Lib.hid HT.out.2.1
 clear hm ho hptc hent HT HOWN HB1
 obtain⟨f,hf⟩:∃f,uk p q1=f:=⟨_,rfl⟩
 have HF:=Lib.hid hf
 clear hf
 go_upto_if 23 with fail
 go_cut [7,8] (fun s7 s8 wx=>s7=.int .i64 13/\s8=.int .i64 (f:Int)/\W3=wx)
 case first=>
  have hf:=HF.out
  unfold uk at hf
  by_cases hlt:0<p.funcs.length
  ·rw[if_pos hlt] at hf
   have hltI:(0:Int)<(p.funcs.length:Int):=by omega
   have hfI:(q1%65536)%(p.funcs.length:Int)=(f:Int):=by
    rw[<-hf,Int.natCast_emod,Int.toNat_of_nonneg (Int.emod_nonneg _ (by decide))]
   have h0:0<=q1%65536:=Int.emod_nonneg _ (by decide)
   clear hf hlt
   go_wp2
   go_meet
   exact⟨by first|rfl|rw[hwI'],by first|rfl|rw[hfI],rfl⟩
  ·rw[if_neg hlt] at hf
   have hltI:¬(0:Int)<(p.funcs.length:Int):=by omega
   subst hf
   clear hlt
   go_wp2
   go_meet
   exact⟨by first|rfl|rw[hwI'],rfl,rfl⟩
 case rest=>
 obtain⟨rfl,rfl,rfl⟩:=hcut
 have hge:=HM.out.1.ge
 have hlen:=HP.out.1.ar
 have hfld:t.args=p.args:=by rw[<-HPR.out];rfl
 have hrow:W3.ownsRow (p1+1+1+1) 3 1 (.slice aa2 p.args.length ac2) (p.args.length) (p.args.map zN):=by
  have h1:=HM.out.1.rows.own (zP t.av t.args) (row_args t).1
  have e:=HV.out.2.1
  rw[e] at h1
  have h2:W3.ownsRow (p1+1+1+1) 3 1 (.slice aa2 p.args.length ac2) (t.args.length) _:=h1
  rw[hfld] at h2
  exact h2
 have hne:(Value.slice aa2 p.args.length ac2).ownBlock≠some o5:=zC hrow HM.out.2.1 (.inr (by decide))
 have HR:=Lib.hid (And.intro hrow (And.intro hne hfld))
 obtain⟨ii,hii,hzi0,hzi1,hzi2⟩:=info_parts Try.info_int
 clear hrow hne hfld
 go_upto_region 24 with(at_builtin;go_must (refine zK _ rfl (.tmp 71) (.tmp 75) 22 (by rfl) (p1+1+1+1) 3 ii (.int .i64 0) 1 8 Try.underlying22 hii hzi0 hzi1 hzi2 rfl (by omega) (.slice aa2 p.args.length ac2) (p.args.length) (p.args.map zN) (by rfl) (HR.out.1.alloc _) (.slice (some ⟨W3.heap.size,0,none⟩) 1 1) 1 [.int .i64 ((n:Int)%10-1)] (by rfl) (yM.one (zI rfl) rfl) (by unfold maxLen;omega) (by omega) (by simp;omega) ?_;intro v9 w9 hown9 hgrow9 hat9;obtain⟨ra,rc,rfl⟩:=zG hown9;have ho9:=zL hgrow9 (zB HM.out.2.1) HR.out.2.1;have d0:=zA (i:=0) ho9 rfl;have d1:=zA (i:=1) ho9 rfl;have df:w9.frozen? ⟨o5,1,none⟩=false:=zE ho9;have dl:=lt_of_block ho9;have HG:=Lib.hid (And.intro hown9 (And.intro hgrow9 hat9));clear hown9 hgrow9 hat9 ho9))
 have hm2:=(by
  have hgr:=HG.out.2.1
  have e9:=HV.out.2.1
  rw[<-e9] at hgr
  refine HM.out.1.grow (r:=zP t.av t.args) (r':=zP (.slice ra (p.args.length+1) rc) (t.args++ [((n:Int)%10-1)])) (rs:=tq t) (i:=1) (u:=.slice ra (p.args.length+1) rc) (t':= {t with args:=t.args++ [((n:Int)%10-1)],av:=.slice ra (p.args.length+1) rc }) (tx t).2 ((Below.refl W3.heap.size W3).alloc (Nat.le_refl _) (.cells #[.int .i64 ((n:Int)%10-1)] 3)) hgr ?_ (fun x e=>?_) ?_ ?_
  ·show w9.ownsRow (p1+1+1+1) 3 1 _ (t.args++ [((n:Int)%10-1)]).length _
   rw[List.length_append,List.length_singleton,HR.out.2.2]
   have h9:=HG.out.1
   show w9.ownsRow _ _ _ _ _ ((p.args++ [((n:Int)%10-1)]).map zN)
   rw[List.map_append]
   exact h9
  ·rcases HG.out.2.2 with e2|e2
   ·left
    have e3:=e2.symm.trans e
    show t.av.ownBlock=some x
    rw[e9]
    exact e3
   ·right
    have e3:=e2.symm.trans e
    simp at e3
    omega
  ·exact(qU t _ _).symm
  ·rfl)
 generalize hWF:w9.setCell ⟨o5,1,none⟩ (.slice ra (p.args.length+1) rc)=WF at *
 have ho2:=hm2.ho
 have e0:(zW ({t with args:=t.args++ [(n:Int)%10-1],av:=.slice ra (p.args.length+1) rc }:PT)).toArray=#[.slice fa2 p.funcs.length fc2,.slice ra (p.args.length+1) rc,.int .i64 p.entry,.int .i64 p.handler,.slice da2 p.data.length dc2,.slice ba2 p.banks.length bc2]:=by
  unfold zW
  first|(simp only;done)|(simp only[HV.out.1,HV.out.2.1,HV.out.2.2.1,HV.out.2.2.2,HM.out.2.2.2.1,HM.out.2.2.2.2])
 rw[e0] at ho2
 clear hWF cq0 cq1 cq2 co0 co1 co2 co3 co4 co5 of ol
 have x0:=zA (i:=0) ho2 rfl
 have x1:=zA (i:=1) ho2 rfl
 have x2:=zA (i:=2) ho2 rfl
 have x3:=zA (i:=3) ho2 rfl
 have x4:=zA (i:=4) ho2 rfl
 have x5:=zA (i:=5) ho2 rfl
 have xl:=lt_of_block ho2
 have y0:=zA (i:=0) hm2.hr rfl
 have y1:=zA (i:=1) hm2.hr rfl
 have y2:=zA (i:=2) hm2.hr rfl
 have y3:=zA (i:=3) hm2.hr rfl
 have y4:=zA (i:=4) hm2.hr rfl
 have y5:=zA (i:=5) hm2.hr rfl
 have yf:∀i,WF.frozen? ⟨p1+1+1,i,none⟩=false:=fun i=>zE hm2.hr
 have yl:=lt_of_block hm2.hr
 have HM2:=Lib.hid (And.intro hm2 e0)
 clear hm2 ho2 e0
 go_wp2
 refine bodyPost_ret (v:=.agg #[.slice fa2 p.funcs.length fc2,.slice ra (p.args.length+1) rc,.int .i64 p.entry,.int .i64 p.handler,.slice da2 p.data.length dc2,.slice ba2 p.banks.length bc2]) ?_ rfl (HM2.out.1.ret HM2.out.2 ?_)
 ·rw[zM rfl]
  go_simp
 ·have hw2:=HP.out.2.2
  have hn2:=HP.out.2.1
  have hf2:=HF.out
  have hpr:=HPR.out
  unfold wR rA
  rw[hn2,hf2,show yn q0=13 from hw2]
  rw[<-hpr]
  rfl
theorem iT {w:World}{V:PV}{p:IProg}(hp:ProgIn w w.heap.size V p)(hs:SmallP p){q0 q1 q2:Int}(hq:I64 q0/\I64 q1/\I64 q2)(hw:yn q0=14):
 Calls Try.prog 19 #[yH V p,.agg #[.int .i64 q0,.int .i64 q1,.int .i64 q2]] w (pd w (wR p q0 q1 q2)):=by
 obtain⟨fa,fc,hfv,hfc,hfm⟩:=hp.funcs.form
 obtain⟨aa,ac,hav,hac,ham⟩:=hp.args.form
 obtain⟨da,dc,hdv,hdc,hdm⟩:=hp.data.form
 obtain⟨ba,bc,hbv,hbc,hbm⟩:=hp.banks.form
 obtain⟨p1,hp1⟩:∃p1,w.heap.size=p1:=⟨_,rfl⟩
 have hown:∀W,Below w.heap.size w W->Calls Try.prog 36 #[.agg #[.slice fa p.funcs.length fc,.slice aa p.args.length ac,.int .i64 p.entry,.int .i64 p.handler,.slice da p.data.length dc,.slice ba p.banks.length bc]] W _:=fun W hb=>by
  have h:=uJ ((hp.below hb).mono hb.size) hs
  unfold yH at h
  rw[hfv,hav,hdv,hbv] at h
  exact h
 unfold yH
 rw[hfv,hav,hdv,hbv]
 obtain⟨n,hn⟩:∃n,uS q2=n:=⟨_,rfl⟩
 have hnI:q2%65536=(n:Int):=by rw[<-hn];unfold uS;omega
 have hn6:n<65536:=by omega
 obtain⟨what,hwh⟩:∃k,yn q0=k:=⟨_,rfl⟩
 have hqt:-20<q0.tmod 20/\q0.tmod 20<20:=⟨by have:=Int.lt_tmod_of_pos q0 (show(0:Int)<20 by decide);omega,Int.tmod_lt_of_pos q0 (by decide)⟩
 have hwI:(q0.tmod 20+20)%20=(what:Int):=by
  rw[<-hwh]
  unfold yn
  have h1:=Int.emod_nonneg q0 (show(20:Int)≠0 by decide)
  rw[Int.toNat_of_nonneg h1]
  have h2:=Int.mul_tdiv_add_tmod q0 20
  omega
 have a65:=yt q2
 rw[hnI] at a65
 have a65b:=yt q1
 have hfl:=hs.fn.1
 have hb1:Below w.heap.size w (((w.alloc (.cells #[.slice fa p.funcs.length fc,.slice aa p.args.length ac,.int .i64 p.entry,.int .i64 p.handler,.slice da p.data.length dc,.slice ba p.banks.length bc] 29)).alloc (.cells #[.int .i64 q0,.int .i64 q1,.int .i64 q2] 23)).alloc (.cells #[.slice none 0 0,.slice none 0 0,.int .i64 0,.int .i64 0,.slice none 0 0,.slice none 0 0] 29)):=(((Below.refl _ _).alloc (Nat.le_refl _) _).alloc (by simp) _).alloc (by simp;omega) _
 have HOWN:=Lib.hid hown
 have HB1:=Lib.hid hb1
 have HP:=Lib.hid (And.intro hs (And.intro hn hwh))
 clear hown hb1 hp hs hfv hav hdv hbv hfc hfm hac ham hdc hdm hbc hbm hn hq
 have hw':=HP.out.2.2.symm.trans hw
 subst hw'
 have hwI':(q0.tmod 20+20)%20=14:=hwI
 clear hwI
 go_enter Try.func19,Try.ntmps19
 go_upto_region 2 with(go_at_call 36;go_must (refine(HOWN.out _ HB1.out).mono ?_;rintro e w2 ⟨t,fa2,fc2,aa2,ac2,da2,dc2,ba2,bc2,rfl,hV,ht,hr,hb⟩;have HT:=Lib.hid (And.intro hV (And.intro ht (And.intro hr hb)));clear hV ht hr hb))
 have hent:t.entry=p.entry/\t.handler=p.handler:=by rw[<-HT.out.2.1];exact⟨rfl,rfl⟩
 have hptc:(zW t).toArray=#[.slice fa2 p.funcs.length fc2,.slice aa2 p.args.length ac2,.int .i64 p.entry,.int .i64 p.handler,.slice da2 p.data.length dc2,.slice ba2 p.banks.length bc2]:=by
  unfold zW
  rw[HT.out.1.1,HT.out.1.2.1,HT.out.1.2.2.1,HT.out.1.2.2.2,hent.1,hent.2]
 obtain⟨o5,ho5⟩:∃o5,w2.heap.size=o5:=⟨_,rfl⟩
 have hm:TuMid w p1 o5 q0 q1 q2 t (w2.alloc (.cells (zW t).toArray 29)):=TuMid.start hp1 ho5 HT.out.2.2.1 HT.out.2.2.2
 rw[hptc] at hm
 generalize hW3:w2.alloc (.cells #[.slice fa2 p.funcs.length fc2,.slice aa2 p.args.length ac2,.int .i64 p.entry,.int .i64 p.handler,.slice da2 p.data.length dc2,.slice ba2 p.banks.length bc2] 29)=W3 at *
 clear hW3
 rw[ho5]
 clear ho5
 have ho:=hm.ho
 rw[hptc] at ho
 have cq0:=zA (i:=0) hm.hq rfl
 have cq1:=zA (i:=1) hm.hq rfl
 have cq2:=zA (i:=2) hm.hq rfl
 have co0:=zA (i:=0) ho rfl
 have co1:=zA (i:=1) ho rfl
 have co4:=zA (i:=4) ho rfl
 have co5:=zA (i:=5) ho rfl
 have of:∀i,W3.frozen? ⟨o5,i,none⟩=false:=fun i=>zE ho
 have co2:=zA (i:=2) ho rfl
 have co3:=zA (i:=3) ho rfl
 have ol:=lt_of_block ho
 have HM:=Lib.hid (And.intro hm (And.intro ho (And.intro hptc hent)))
 have HV:=Lib.hid HT.out.1
 have HPR:=Lib.hid HT.out.2.1
 clear hm ho hptc hent HT HOWN HB1
 obtain⟨f,hf⟩:∃f,uk p q1=f:=⟨_,rfl⟩
 have HF:=Lib.hid hf
 clear hf
 go_upto_if 23 with fail
 go_cut [7,8] (fun s7 s8 wx=>s7=.int .i64 14/\s8=.int .i64 (f:Int)/\W3=wx)
 case first=>
  have hf:=HF.out
  unfold uk at hf
  by_cases hlt:0<p.funcs.length
  ·rw[if_pos hlt] at hf
   have hltI:(0:Int)<(p.funcs.length:Int):=by omega
   have hfI:(q1%65536)%(p.funcs.length:Int)=(f:Int):=by
    rw[<-hf,Int.natCast_emod,Int.toNat_of_nonneg (Int.emod_nonneg _ (by decide))]
   have h0:0<=q1%65536:=Int.emod_nonneg _ (by decide)
   clear hf hlt
   go_wp2
   go_meet
   exact⟨by first|rfl|rw[hwI'],by first|rfl|rw[hfI],rfl⟩
  ·rw[if_neg hlt] at hf
   have hltI:¬(0:Int)<(p.funcs.length:Int):=by omega
   subst hf
   clear hlt
   go_wp2
   go_meet
   exact⟨by first|rfl|rw[hwI'],rfl,rfl⟩
 case rest=>
 obtain⟨rfl,rfl,rfl⟩:=hcut
 go_upto_region 24 with fail
 have hm2:=HM.out.1.set (t':= {t with entry:=(n:Int)%7-1 }) (i:=2) (u:=.int .i64 ((n:Int)%7-1)) rfl rfl
 generalize hWF:W3.setCell ⟨o5,2,none⟩ (.int .i64 ((n:Int)%7-1))=WF at *
 have ho2:=hm2.ho
 have e0:(zW ({t with entry:=(n:Int)%7-1 }:PT)).toArray=#[.slice fa2 p.funcs.length fc2,.slice aa2 p.args.length ac2,.int .i64 ((n:Int)%7-1),.int .i64 p.handler,.slice da2 p.data.length dc2,.slice ba2 p.banks.length bc2]:=by
  unfold zW
  first|(simp only;done)|(simp only[HV.out.1,HV.out.2.1,HV.out.2.2.1,HV.out.2.2.2,HM.out.2.2.2.1,HM.out.2.2.2.2])
 rw[e0] at ho2
 clear hWF cq0 cq1 cq2 co0 co1 co2 co3 co4 co5 of ol
 have x0:=zA (i:=0) ho2 rfl
 have x1:=zA (i:=1) ho2 rfl
 have x2:=zA (i:=2) ho2 rfl
 have x3:=zA (i:=3) ho2 rfl
 have x4:=zA (i:=4) ho2 rfl
 have x5:=zA (i:=5) ho2 rfl
 have xl:=lt_of_block ho2
 have y0:=zA (i:=0) hm2.hr rfl
 have y1:=zA (i:=1) hm2.hr rfl
 have y2:=zA (i:=2) hm2.hr rfl
 have y3:=zA (i:=3) hm2.hr rfl
 have y4:=zA (i:=4) hm2.hr rfl
 have y5:=zA (i:=5) hm2.hr rfl
 have yf:∀i,WF.frozen? ⟨p1+1+1,i,none⟩=false:=fun i=>zE hm2.hr
 have yl:=lt_of_block hm2.hr
 have HM2:=Lib.hid (And.intro hm2 e0)
 clear hm2 ho2 e0
 go_wp2
 refine bodyPost_ret (v:=.agg #[.slice fa2 p.funcs.length fc2,.slice aa2 p.args.length ac2,.int .i64 ((n:Int)%7-1),.int .i64 p.handler,.slice da2 p.data.length dc2,.slice ba2 p.banks.length bc2]) ?_ rfl (HM2.out.1.ret HM2.out.2 ?_)
 ·rw[zM rfl]
  go_simp
 ·have hw2:=HP.out.2.2
  have hn2:=HP.out.2.1
  have hf2:=HF.out
  have hpr:=HPR.out
  unfold wR rA
  rw[hn2,hf2,show yn q0=14 from hw2]
  rw[<-hpr]
  rfl
theorem jf {w:World}{V:PV}{p:IProg}(hp:ProgIn w w.heap.size V p)(hs:SmallP p){q0 q1 q2:Int}(hq:I64 q0/\I64 q1/\I64 q2)(hw:yn q0=15):
 Calls Try.prog 19 #[yH V p,.agg #[.int .i64 q0,.int .i64 q1,.int .i64 q2]] w (pd w (wR p q0 q1 q2)):=by
 obtain⟨fa,fc,hfv,hfc,hfm⟩:=hp.funcs.form
 obtain⟨aa,ac,hav,hac,ham⟩:=hp.args.form
 obtain⟨da,dc,hdv,hdc,hdm⟩:=hp.data.form
 obtain⟨ba,bc,hbv,hbc,hbm⟩:=hp.banks.form
 obtain⟨p1,hp1⟩:∃p1,w.heap.size=p1:=⟨_,rfl⟩
 have hown:∀W,Below w.heap.size w W->Calls Try.prog 36 #[.agg #[.slice fa p.funcs.length fc,.slice aa p.args.length ac,.int .i64 p.entry,.int .i64 p.handler,.slice da p.data.length dc,.slice ba p.banks.length bc]] W _:=fun W hb=>by
  have h:=uJ ((hp.below hb).mono hb.size) hs
  unfold yH at h
  rw[hfv,hav,hdv,hbv] at h
  exact h
 unfold yH
 rw[hfv,hav,hdv,hbv]
 obtain⟨n,hn⟩:∃n,uS q2=n:=⟨_,rfl⟩
 have hnI:q2%65536=(n:Int):=by rw[<-hn];unfold uS;omega
 have hn6:n<65536:=by omega
 obtain⟨what,hwh⟩:∃k,yn q0=k:=⟨_,rfl⟩
 have hqt:-20<q0.tmod 20/\q0.tmod 20<20:=⟨by have:=Int.lt_tmod_of_pos q0 (show(0:Int)<20 by decide);omega,Int.tmod_lt_of_pos q0 (by decide)⟩
 have hwI:(q0.tmod 20+20)%20=(what:Int):=by
  rw[<-hwh]
  unfold yn
  have h1:=Int.emod_nonneg q0 (show(20:Int)≠0 by decide)
  rw[Int.toNat_of_nonneg h1]
  have h2:=Int.mul_tdiv_add_tmod q0 20
  omega
 have a65:=yt q2
 rw[hnI] at a65
 have a65b:=yt q1
 have hfl:=hs.fn.1
 have hb1:Below w.heap.size w (((w.alloc (.cells #[.slice fa p.funcs.length fc,.slice aa p.args.length ac,.int .i64 p.entry,.int .i64 p.handler,.slice da p.data.length dc,.slice ba p.banks.length bc] 29)).alloc (.cells #[.int .i64 q0,.int .i64 q1,.int .i64 q2] 23)).alloc (.cells #[.slice none 0 0,.slice none 0 0,.int .i64 0,.int .i64 0,.slice none 0 0,.slice none 0 0] 29)):=(((Below.refl _ _).alloc (Nat.le_refl _) _).alloc (by simp) _).alloc (by simp;omega) _
 have HOWN:=Lib.hid hown
 have HB1:=Lib.hid hb1
 have HP:=Lib.hid (And.intro hs (And.intro hn hwh))
 clear hown hb1 hp hs hfv hav hdv hbv hfc hfm hac ham hdc hdm hbc hbm hn hq
 have hw':=HP.out.2.2.symm.trans hw
 subst hw'
 have hwI':(q0.tmod 20+20)%20=15:=hwI
 clear hwI
 go_enter Try.func19,Try.ntmps19
 go_upto_region 2 with(go_at_call 36;go_must (refine(HOWN.out _ HB1.out).mono ?_;rintro e w2 ⟨t,fa2,fc2,aa2,ac2,da2,dc2,ba2,bc2,rfl,hV,ht,hr,hb⟩;have HT:=Lib.hid (And.intro hV (And.intro ht (And.intro hr hb)));clear hV ht hr hb))
 have hent:t.entry=p.entry/\t.handler=p.handler:=by rw[<-HT.out.2.1];exact⟨rfl,rfl⟩
 have hptc:(zW t).toArray=#[.slice fa2 p.funcs.length fc2,.slice aa2 p.args.length ac2,.int .i64 p.entry,.int .i64 p.handler,.slice da2 p.data.length dc2,.slice ba2 p.banks.length bc2]:=by
  unfold zW
  rw[HT.out.1.1,HT.out.1.2.1,HT.out.1.2.2.1,HT.out.1.2.2.2,hent.1,hent.2]
 obtain⟨o5,ho5⟩:∃o5,w2.heap.size=o5:=⟨_,rfl⟩
 have hm:TuMid w p1 o5 q0 q1 q2 t (w2.alloc (.cells (zW t).toArray 29)):=TuMid.start hp1 ho5 HT.out.2.2.1 HT.out.2.2.2
 rw[hptc] at hm
 generalize hW3:w2.alloc (.cells #[.slice fa2 p.funcs.length fc2,.slice aa2 p.args.length ac2,.int .i64 p.entry,.int .i64 p.handler,.slice da2 p.data.length dc2,.slice ba2 p.banks.length bc2] 29)=W3 at *
 clear hW3
 rw[ho5]
 clear ho5
 have ho:=hm.ho
 rw[hptc] at ho
 have cq0:=zA (i:=0) hm.hq rfl
 have cq1:=zA (i:=1) hm.hq rfl
 have cq2:=zA (i:=2) hm.hq rfl
 have co0:=zA (i:=0) ho rfl
 have co1:=zA (i:=1) ho rfl
 have co4:=zA (i:=4) ho rfl
 have co5:=zA (i:=5) ho rfl
 have of:∀i,W3.frozen? ⟨o5,i,none⟩=false:=fun i=>zE ho
 have co2:=zA (i:=2) ho rfl
 have co3:=zA (i:=3) ho rfl
 have ol:=lt_of_block ho
 have HM:=Lib.hid (And.intro hm (And.intro ho (And.intro hptc hent)))
 have HV:=Lib.hid HT.out.1
 have HPR:=Lib.hid HT.out.2.1
 clear hm ho hptc hent HT HOWN HB1
 obtain⟨f,hf⟩:∃f,uk p q1=f:=⟨_,rfl⟩
 have HF:=Lib.hid hf
 clear hf
 go_upto_if 23 with fail
 go_cut [7,8] (fun s7 s8 wx=>s7=.int .i64 15/\s8=.int .i64 (f:Int)/\W3=wx)
 case first=>
  have hf:=HF.out
  unfold uk at hf
  by_cases hlt:0<p.funcs.length
  ·rw[if_pos hlt] at hf
   have hltI:(0:Int)<(p.funcs.length:Int):=by omega
   have hfI:(q1%65536)%(p.funcs.length:Int)=(f:Int):=by
    rw[<-hf,Int.natCast_emod,Int.toNat_of_nonneg (Int.emod_nonneg _ (by decide))]
   have h0:0<=q1%65536:=Int.emod_nonneg _ (by decide)
   clear hf hlt
   go_wp2
   go_meet
   exact⟨by first|rfl|rw[hwI'],by first|rfl|rw[hfI],rfl⟩
  ·rw[if_neg hlt] at hf
   have hltI:¬(0:Int)<(p.funcs.length:Int):=by omega
   subst hf
   clear hlt
   go_wp2
   go_meet
   exact⟨by first|rfl|rw[hwI'],rfl,rfl⟩
 case rest=>
 obtain⟨rfl,rfl,rfl⟩:=hcut
 go_upto_region 24 with fail
 have hm2:=HM.out.1.set (t':= {t with handler:=(n:Int)%7-2 }) (i:=3) (u:=.int .i64 ((n:Int)%7-2)) rfl rfl
 generalize hWF:W3.setCell ⟨o5,3,none⟩ (.int .i64 ((n:Int)%7-2))=WF at *
 have ho2:=hm2.ho
 have e0:(zW ({t with handler:=(n:Int)%7-2 }:PT)).toArray=#[.slice fa2 p.funcs.length fc2,.slice aa2 p.args.length ac2,.int .i64 p.entry,.int .i64 ((n:Int)%7-2),.slice da2 p.data.length dc2,.slice ba2 p.banks.length bc2]:=by
  unfold zW
  first|(simp only;done)|(simp only[HV.out.1,HV.out.2.1,HV.out.2.2.1,HV.out.2.2.2,HM.out.2.2.2.1,HM.out.2.2.2.2])
 rw[e0] at ho2
 clear hWF cq0 cq1 cq2 co0 co1 co2 co3 co4 co5 of ol
 have x0:=zA (i:=0) ho2 rfl
 have x1:=zA (i:=1) ho2 rfl
 have x2:=zA (i:=2) ho2 rfl
 have x3:=zA (i:=3) ho2 rfl
 have x4:=zA (i:=4) ho2 rfl
 have x5:=zA (i:=5) ho2 rfl
 have xl:=lt_of_block ho2
 have y0:=zA (i:=0) hm2.hr rfl
 have y1:=zA (i:=1) hm2.hr rfl
 have y2:=zA (i:=2) hm2.hr rfl
 have y3:=zA (i:=3) hm2.hr rfl
 have y4:=zA (i:=4) hm2.hr rfl
 have y5:=zA (i:=5) hm2.hr rfl
 have yf:∀i,WF.frozen? ⟨p1+1+1,i,none⟩=false:=fun i=>zE hm2.hr
 have yl:=lt_of_block hm2.hr
 have HM2:=Lib.hid (And.intro hm2 e0)
 clear hm2 ho2 e0
 go_wp2
 refine bodyPost_ret (v:=.agg #[.slice fa2 p.funcs.length fc2,.slice aa2 p.args.length ac2,.int .i64 p.entry,.int .i64 ((n:Int)%7-2),.slice da2 p.data.length dc2,.slice ba2 p.banks.length bc2]) ?_ rfl (HM2.out.1.ret HM2.out.2 ?_)
 ·rw[zM rfl]
  go_simp
 ·have hw2:=HP.out.2.2
  have hn2:=HP.out.2.1
  have hf2:=HF.out
  have hpr:=HPR.out
  unfold wR rA
  rw[hn2,hf2,show yn q0=15 from hw2]
  rw[<-hpr]
  rfl
theorem turned_d {w:World}{V:PV}{p:IProg}(hp:ProgIn w w.heap.size V p)(hs:SmallP p){q0 q1 q2:Int}(hq:I64 q0/\I64 q1/\I64 q2)(hw:yn q0<=12∨yn q0=19):
 Calls Try.prog 19 #[yH V p,.agg #[.int .i64 q0,.int .i64 q1,.int .i64 q2]] w (pd w (wR p q0 q1 q2)):=by
 obtain⟨fa,fc,hfv,hfc,hfm⟩:=hp.funcs.form
 obtain⟨aa,ac,hav,hac,ham⟩:=hp.args.form
 obtain⟨da,dc,hdv,hdc,hdm⟩:=hp.data.form
 obtain⟨ba,bc,hbv,hbc,hbm⟩:=hp.banks.form
 obtain⟨p1,hp1⟩:∃p1,w.heap.size=p1:=⟨_,rfl⟩
 have hown:∀W,Below w.heap.size w W->Calls Try.prog 36 #[.agg #[.slice fa p.funcs.length fc,.slice aa p.args.length ac,.int .i64 p.entry,.int .i64 p.handler,.slice da p.data.length dc,.slice ba p.banks.length bc]] W _:=fun W hb=>by
  have h:=uJ ((hp.below hb).mono hb.size) hs
  unfold yH at h
  rw[hfv,hav,hdv,hbv] at h
  exact h
 unfold yH
 rw[hfv,hav,hdv,hbv]
 obtain⟨n,hn⟩:∃n,uS q2=n:=⟨_,rfl⟩
 have hnI:q2%65536=(n:Int):=by rw[<-hn];unfold uS;omega
 have hn6:n<65536:=by omega
 obtain⟨what,hwh⟩:∃k,yn q0=k:=⟨_,rfl⟩
 have hqt:-20<q0.tmod 20/\q0.tmod 20<20:=⟨by have:=Int.lt_tmod_of_pos q0 (show(0:Int)<20 by decide);omega,Int.tmod_lt_of_pos q0 (by decide)⟩
 have hwI:(q0.tmod 20+20)%20=(what:Int):=by
  rw[<-hwh]
  unfold yn
  have h1:=Int.emod_nonneg q0 (show(20:Int)≠0 by decide)
  rw[Int.toNat_of_nonneg h1]
  have h2:=Int.mul_tdiv_add_tmod q0 20
  omega
 have a65:=yt q2
 rw[hnI] at a65
 have a65b:=yt q1
 have hfl:=hs.fn.1
 have hb1:Below w.heap.size w (((w.alloc (.cells #[.slice fa p.funcs.length fc,.slice aa p.args.length ac,.int .i64 p.entry,.int .i64 p.handler,.slice da p.data.length dc,.slice ba p.banks.length bc] 29)).alloc (.cells #[.int .i64 q0,.int .i64 q1,.int .i64 q2] 23)).alloc (.cells #[.slice none 0 0,.slice none 0 0,.int .i64 0,.int .i64 0,.slice none 0 0,.slice none 0 0] 29)):=(((Below.refl _ _).alloc (Nat.le_refl _) _).alloc (by simp) _).alloc (by simp;omega) _
 have HOWN:=Lib.hid hown
 have HB1:=Lib.hid hb1
 have HP:=Lib.hid (And.intro hs (And.intro hn hwh))
 clear hown hb1 hp hs hfv hav hdv hbv hfc hfm hac ham hdc hdm hbc hbm hn hq
 have HWX:=Lib.hid hw
 have hw12:what<=12∨what=19:=by have e:=HP.out.2.2;rw[<-e];exact hw
 have b13:((what:Int)==13)=false:=by rw[beq_eq_false_iff_ne];omega
 have b14:((what:Int)==14)=false:=by rw[beq_eq_false_iff_ne];omega
 have b15:((what:Int)==15)=false:=by rw[beq_eq_false_iff_ne];omega
 have b16:((what:Int)==16)=false:=by rw[beq_eq_false_iff_ne];omega
 have b17:((what:Int)==17)=false:=by rw[beq_eq_false_iff_ne];omega
 have b18:((what:Int)==18)=false:=by rw[beq_eq_false_iff_ne];omega
 clear hw hw12
 go_enter Try.func19,Try.ntmps19
 go_upto_region 2 with(go_at_call 36;go_must (refine(HOWN.out _ HB1.out).mono ?_;rintro e w2 ⟨t,fa2,fc2,aa2,ac2,da2,dc2,ba2,bc2,rfl,hV,ht,hr,hb⟩;have HT:=Lib.hid (And.intro hV (And.intro ht (And.intro hr hb)));clear hV ht hr hb))
 have hent:t.entry=p.entry/\t.handler=p.handler:=by rw[<-HT.out.2.1];exact⟨rfl,rfl⟩
 have hptc:(zW t).toArray=#[.slice fa2 p.funcs.length fc2,.slice aa2 p.args.length ac2,.int .i64 p.entry,.int .i64 p.handler,.slice da2 p.data.length dc2,.slice ba2 p.banks.length bc2]:=by
  unfold zW
  rw[HT.out.1.1,HT.out.1.2.1,HT.out.1.2.2.1,HT.out.1.2.2.2,hent.1,hent.2]
 obtain⟨o5,ho5⟩:∃o5,w2.heap.size=o5:=⟨_,rfl⟩
 have hm:TuMid w p1 o5 q0 q1 q2 t (w2.alloc (.cells (zW t).toArray 29)):=TuMid.start hp1 ho5 HT.out.2.2.1 HT.out.2.2.2
 rw[hptc] at hm
 generalize hW3:w2.alloc (.cells #[.slice fa2 p.funcs.length fc2,.slice aa2 p.args.length ac2,.int .i64 p.entry,.int .i64 p.handler,.slice da2 p.data.length dc2,.slice ba2 p.banks.length bc2] 29)=W3 at *
 clear hW3
 rw[ho5]
 clear ho5
 have ho:=hm.ho
 rw[hptc] at ho
 have cq0:=zA (i:=0) hm.hq rfl
 have cq1:=zA (i:=1) hm.hq rfl
 have cq2:=zA (i:=2) hm.hq rfl
 have co0:=zA (i:=0) ho rfl
 have co1:=zA (i:=1) ho rfl
 have co4:=zA (i:=4) ho rfl
 have co5:=zA (i:=5) ho rfl
 have of:∀i,W3.frozen? ⟨o5,i,none⟩=false:=fun i=>zE ho
 have co2:=zA (i:=2) ho rfl
 have co3:=zA (i:=3) ho rfl
 have ol:=lt_of_block ho
 have HM:=Lib.hid (And.intro hm (And.intro ho (And.intro hptc hent)))
 have HV:=Lib.hid HT.out.1
 have HPR:=Lib.hid HT.out.2.1
 clear hm ho hptc hent HT HOWN HB1
 obtain⟨f,hf⟩:∃f,uk p q1=f:=⟨_,rfl⟩
 have HF:=Lib.hid hf
 clear hf
 go_upto_if 23 with fail
 go_cut [7,8] (fun s7 s8 wx=>s7=.int .i64 (what:Int)/\s8=.int .i64 (f:Int)/\W3=wx)
 case first=>
  have hf:=HF.out
  unfold uk at hf
  by_cases hlt:0<p.funcs.length
  ·rw[if_pos hlt] at hf
   have hltI:(0:Int)<(p.funcs.length:Int):=by omega
   have hfI:(q1%65536)%(p.funcs.length:Int)=(f:Int):=by
    rw[<-hf,Int.natCast_emod,Int.toNat_of_nonneg (Int.emod_nonneg _ (by decide))]
   have h0:0<=q1%65536:=Int.emod_nonneg _ (by decide)
   clear hf hlt
   go_wp2
   go_meet
   exact⟨by first|rfl|rw[hwI],by first|rfl|rw[hfI],rfl⟩
  ·rw[if_neg hlt] at hf
   have hltI:¬(0:Int)<(p.funcs.length:Int):=by omega
   subst hf
   clear hlt
   go_wp2
   go_meet
   exact⟨by first|rfl|rw[hwI],rfl,rfl⟩
 case rest=>
 obtain⟨rfl,rfl,rfl⟩:=hcut
 have hlenF:t.funcs.length=p.funcs.length:=by rw[<-HPR.out];unfold PT.prog;simp
 by_cases hfn:0<p.funcs.length
 ·have hfl2:f<p.funcs.length:=by
   have h:=HF.out
   unfold uk at h
   rw[if_pos hfn] at h
   rw[<-h]
   exact Nat.mod_lt _ hfn
  obtain⟨ft,hft⟩:∃ft,t.funcs[f]? =some ft:=⟨_,List.getElem?_eq_getElem (by omega)⟩
  have hpf:p.funcs[f]? =some ft.fn:=by
   rw[<-HPR.out]
   show(t.funcs.map FT.fn)[f]? =_
   rw[List.getElem?_map,hft]
   rfl
  have hfo:=kZ HM.out.1.rows
  rw[HV.out.1,hlenF] at hfo
  obtain⟨fb,fc3,hfa,hfbB,hfbl⟩:=hfo.form hfn
  cases hfa
  have hfb:t.fv.ownBlock=some fb:=by rw[HV.out.1];rfl
  obtain⟨cf,ff,fbl⟩:=kj HM.out.1.rows hfb hft
  have hgo:W3.ownsRow (p1+1+1+1) 49 5 ft.bv ft.blks.length (ft.blks.flatMap zz):=HM.out.1.rows.own (zd ft.bv ft.blks) ((PT.rows_at hft).mem_iff.2 (.head _))
  obtain⟨ga,gc,hgv⟩:=zG hgo
  rw[hgv] at cf
  have hfI:(f:Int)<(p.funcs.length:Int):=by omega
  have hfnI:(0:Int)<(p.funcs.length:Int):=by omega
  have hbsz:=(HP.out.1.fn.2 ft.fn (List.mem_of_getElem? hpf))
  have hblen:ft.fn.length=ft.blks.length:=by unfold FT.fn;simp
  have hbl2:ft.blks.length<=2000000:=by have:=hbsz.1.1;omega
  have HFT:=Lib.hid (And.intro hft (And.intro hpf (And.intro hfb (And.intro hgv (And.intro hgo (And.intro hbsz hblen))))))
  clear hft hpf hfb hgv hgo hfo hbsz hblen hlenF
  by_cases hbl:0<ft.blks.length
  ·have hblI:(0:Int)<(ft.blks.length:Int):=by omega
   obtain⟨i,hi⟩:∃i,turnK q1 n ft.blks.length=i:=⟨_,rfl⟩
   have hil:i<ft.blks.length:=by rw[<-hi];exact Nat.mod_lt _ hbl
   obtain⟨bt,hbt⟩:∃bt,ft.blks[i]? =some bt:=⟨_,List.getElem?_eq_getElem hil⟩
   obtain⟨x,hx⟩:∃x:Nat,q1/65536%65536=(x:Int):=⟨(q1/65536%65536).toNat,by omega⟩
   have hxl:(x:Int)<65536:=by omega
   have HIX:=Lib.hid (And.intro hi (And.intro hx hxl))
   have hiI:(i:Int)<(ft.blks.length:Int):=by omega
   have hgf:=HFT.out.2.2.2.2.1
   rw[HFT.out.2.2.2.1] at hgf
   obtain⟨gb,gc2,hga,hgbB,hgbl⟩:=hgf.form hbl
   cases hga
   have hgb:ft.bv.ownBlock=some gb:=by rw[HFT.out.2.2.2.1];rfl
   have hbb:=HFT.out.2.2.2.2.2.1
   have hmem:bt.blk∈ft.fn:=List.mem_map_of_mem (List.mem_of_getElem? hbt)
   have hsz:SzB bt:=by
    obtain⟨h1,h2⟩:=hbb
    have h3:=h1.2 _ hmem
    exact szB_of h3 h2 hmem
   have hsp:∀W,Below W3.heap.size W3 W->Calls Try.prog 45 #[.pointer (some ⟨gb,i*5,none⟩),.int .i64 (what:Int),.int .i64 (n:Int)] W (uE W (p1+1+1+1) gb i ft.bv bt ft.blks ((ft.blks.eraseIdx i).flatMap BT.rows++t.but f) what n):=fun W hW=>iF ((HM.out.1.below hW).block HFT.out.1 hbt hgb) hn6 hsz (by have e:=HP.out.2.2;rw[<-e];exact HWX.out)
   have HSP:=Lib.hid (And.intro hsp (And.intro hbt hi))
   have x0:(W3.alloc (.cells #[.slice (some ⟨gb,0,none⟩) ft.blks.length gc] 43)).cell? ⟨W3.heap.size,0,none⟩=some (.slice (some ⟨gb,0,none⟩) ft.blks.length gc):=zA (zI rfl) rfl
   have x1:(W3.alloc (.cells #[.slice (some ⟨gb,0,none⟩) ft.blks.length gc] 43)).cell? ⟨p1+1,1,none⟩=some (.int .i64 q1):=zA (zB HM.out.1.hq) rfl
   clear hsp hbt hi hx hgf hgb hbb hmem hsz hbl hxl
   go_upto_region 10 with fail
   have hxl:=HIX.out.2.2
   have a3:bits .and .i64 (q1/65536) 65535=(x:Int):=by rw[yt,HIX.out.2.1]
   have a4:IntKind.i64.wrap ((n:Int)/64)=(n:Int)/64:=IntWalk.i64_in _ (by omega)
   have a5:IntKind.i64.wrap ((x:Int)+(n:Int)/64)=(x:Int)+(n:Int)/64:=IntWalk.i64_in _ (by omega)
   have a6:((x:Int)+(n:Int)/64)%(ft.blks.length:Int)=(i:Int):=by
    rw[<-HIX.out.1]
    unfold turnK
    rw[HIX.out.2.1,Int.toNat_natCast]
    simp
   have a7:((x:Int)+(n:Int)/64).tmod (ft.blks.length:Int)=(i:Int):=by rw[Int.tmod_eq_emod_of_nonneg (by omega)];exact a6
   clear hxl
   refine zt 16 (by kernel_rfl) (by kernel_rfl) ?_
   simp only[List.take_succ_cons,List.take_zero,List.drop_succ_cons,List.drop_zero]
   repeat (go_big_quiet_step (fail))
   refine wpQuiet_nil ?_
   go_upto_region 24 with(go_at_call 45;go_must (refine(HSP.out.1 _ (((Below.refl _ _).alloc (Nat.le_refl _) (.cells #[.slice (some ⟨gb,0,none⟩) ft.blks.length gc] 43)).drew)).mono ?_;rintro e w9 ⟨rfl,bt',hsp9,hbk9,hch9⟩;have HG:=Lib.hid (And.intro hsp9 (And.intro hbk9 hch9));clear hsp9 hbk9 hch9))
   have hm2:=((HM.out.1.below (((Below.refl _ _).alloc (Nat.le_refl _) (.cells #[.slice (some ⟨gb,0,none⟩) ft.blks.length gc] 43)).drew)).unblock HFT.out.1 HSP.out.2.1 HG.out.1 HG.out.2.2)
   generalize hWF:w9=WF at *
   have ho2:=hm2.ho
   have e0:(zW ({t with funcs:=t.funcs.set f {ft with blks:=ft.blks.set i bt' }}:PT)).toArray=#[.slice (some ⟨fb,0,none⟩) p.funcs.length fc2,.slice aa2 p.args.length ac2,.int .i64 p.entry,.int .i64 p.handler,.slice da2 p.data.length dc2,.slice ba2 p.banks.length bc2]:=by
    unfold zW
    first|(simp only;done)|(simp only[HV.out.1,HV.out.2.1,HV.out.2.2.1,HV.out.2.2.2,HM.out.2.2.2.1,HM.out.2.2.2.2])
   rw[e0] at ho2
   clear hWF cq0 cq1 cq2 co0 co1 co2 co3 co4 co5 of ol
   have x0:=zA (i:=0) ho2 rfl
   have x1:=zA (i:=1) ho2 rfl
   have x2:=zA (i:=2) ho2 rfl
   have x3:=zA (i:=3) ho2 rfl
   have x4:=zA (i:=4) ho2 rfl
   have x5:=zA (i:=5) ho2 rfl
   have xl:=lt_of_block ho2
   have y0:=zA (i:=0) hm2.hr rfl
   have y1:=zA (i:=1) hm2.hr rfl
   have y2:=zA (i:=2) hm2.hr rfl
   have y3:=zA (i:=3) hm2.hr rfl
   have y4:=zA (i:=4) hm2.hr rfl
   have y5:=zA (i:=5) hm2.hr rfl
   have yf:∀i,WF.frozen? ⟨p1+1+1,i,none⟩=false:=fun i=>zE hm2.hr
   have yl:=lt_of_block hm2.hr
   have HM2:=Lib.hid (And.intro hm2 e0)
   clear hm2 ho2 e0
   go_wp2
   refine bodyPost_ret (v:=.agg #[.slice (some ⟨fb,0,none⟩) p.funcs.length fc2,.slice aa2 p.args.length ac2,.int .i64 p.entry,.int .i64 p.handler,.slice da2 p.data.length dc2,.slice ba2 p.banks.length bc2]) ?_ rfl (HM2.out.1.ret HM2.out.2 ?_)
   ·rw[zM rfl]
    go_simp
   ·have hw2:=HP.out.2.2
    have hn2:=HP.out.2.1
    have hf2:=HF.out
    have hpr:=HPR.out
    have hwx:=HWX.out
    rw[hw2] at hwx
    unfold wR rA
    rw[hn2,hf2,hw2,if_neg (by omega),if_neg (by omega),if_neg (by omega),if_neg (by omega),if_neg (by omega),if_neg (by omega)]
    have e1:wD p.funcs f (lW what q1 n)=p.funcs.set f (wD ft.fn i (xh what n)):=by
     rw[xI HFT.out.2.1]
     unfold lW
     rw[HFT.out.2.2.2.2.2.2,HSP.out.2.2]
    rw[e1,<-hpr]
    unfold PT.prog
    simp only[List.map_set]
    have e2:wD ft.fn i (xh what n)=({ft with blks:=ft.blks.set i bt' }:FT).fn:=by
     unfold FT.fn
     rw[xI (x:=bt.blk) (by rw[List.getElem?_map,HSP.out.2.1];rfl),List.map_set,HG.out.2.1]
    rw[e2]
  ·have hblI:¬(0:Int)<(ft.blks.length:Int):=by omega
   have HN:=Lib.hid (show ∀g,p.funcs[f]? =some g->g.length=0 from fun g hg=>by
    rw[HFT.out.2.1] at hg
    cases hg
    have:=HFT.out.2.2.2.2.2.2
    omega)
   clear hbl
   go_upto_region 24 with fail
   have hm2:=HM.out.1
   generalize hWF:W3=WF at *
   have ho2:=hm2.ho
   have e0:(zW t).toArray=#[.slice (some ⟨fb,0,none⟩) p.funcs.length fc2,.slice aa2 p.args.length ac2,.int .i64 p.entry,.int .i64 p.handler,.slice da2 p.data.length dc2,.slice ba2 p.banks.length bc2]:=by
    unfold zW
    first|(simp only;done)|(simp only[HV.out.1,HV.out.2.1,HV.out.2.2.1,HV.out.2.2.2,HM.out.2.2.2.1,HM.out.2.2.2.2])
   rw[e0] at ho2
   clear hWF cq0 cq1 cq2 co0 co1 co2 co3 co4 co5 of ol
   have x0:=zA (i:=0) ho2 rfl
   have x1:=zA (i:=1) ho2 rfl
   have x2:=zA (i:=2) ho2 rfl
   have x3:=zA (i:=3) ho2 rfl
   have x4:=zA (i:=4) ho2 rfl
   have x5:=zA (i:=5) ho2 rfl
   have xl:=lt_of_block ho2
   have y0:=zA (i:=0) hm2.hr rfl
   have y1:=zA (i:=1) hm2.hr rfl
   have y2:=zA (i:=2) hm2.hr rfl
   have y3:=zA (i:=3) hm2.hr rfl
   have y4:=zA (i:=4) hm2.hr rfl
   have y5:=zA (i:=5) hm2.hr rfl
   have yf:∀i,WF.frozen? ⟨p1+1+1,i,none⟩=false:=fun i=>zE hm2.hr
   have yl:=lt_of_block hm2.hr
   have HM2:=Lib.hid (And.intro hm2 e0)
   clear hm2 ho2 e0
   go_wp2
   refine bodyPost_ret (v:=.agg #[.slice (some ⟨fb,0,none⟩) p.funcs.length fc2,.slice aa2 p.args.length ac2,.int .i64 p.entry,.int .i64 p.handler,.slice da2 p.data.length dc2,.slice ba2 p.banks.length bc2]) ?_ rfl (HM2.out.1.ret HM2.out.2 ?_)
   ·rw[zM rfl]
    go_simp
   ·have hw2:=HP.out.2.2
    have hn2:=HP.out.2.1
    have hf2:=HF.out
    have hpr:=HPR.out
    have hwx:=HWX.out
    rw[hw2] at hwx
    unfold wR
    rw[hn2,hf2,hw2,uw (.inr hwx) HN.out]
    exact hpr
 ·have hfnI:¬(0:Int)<(p.funcs.length:Int):=by omega
  have HN:=Lib.hid (show ∀g,p.funcs[f]? =some g->g.length=0 from fun g hg=>by
   have:=(List.getElem?_eq_some_iff.1 hg).1
   omega)
  clear hfn hlenF
  go_upto_region 24 with fail
  have hm2:=HM.out.1
  generalize hWF:W3=WF at *
  have ho2:=hm2.ho
  have e0:(zW t).toArray=#[.slice fa2 p.funcs.length fc2,.slice aa2 p.args.length ac2,.int .i64 p.entry,.int .i64 p.handler,.slice da2 p.data.length dc2,.slice ba2 p.banks.length bc2]:=by
   unfold zW
   first|(simp only;done)|(simp only[HV.out.1,HV.out.2.1,HV.out.2.2.1,HV.out.2.2.2,HM.out.2.2.2.1,HM.out.2.2.2.2])
  rw[e0] at ho2
  clear hWF cq0 cq1 cq2 co0 co1 co2 co3 co4 co5 of ol
  have x0:=zA (i:=0) ho2 rfl
  have x1:=zA (i:=1) ho2 rfl
  have x2:=zA (i:=2) ho2 rfl
  have x3:=zA (i:=3) ho2 rfl
  have x4:=zA (i:=4) ho2 rfl
  have x5:=zA (i:=5) ho2 rfl
  have xl:=lt_of_block ho2
  have y0:=zA (i:=0) hm2.hr rfl
  have y1:=zA (i:=1) hm2.hr rfl
  have y2:=zA (i:=2) hm2.hr rfl
  have y3:=zA (i:=3) hm2.hr rfl
  have y4:=zA (i:=4) hm2.hr rfl
  have y5:=zA (i:=5) hm2.hr rfl
  have yf:∀i,WF.frozen? ⟨p1+1+1,i,none⟩=false:=fun i=>zE hm2.hr
  have yl:=lt_of_block hm2.hr
  have HM2:=Lib.hid (And.intro hm2 e0)
  clear hm2 ho2 e0
  go_wp2
  refine bodyPost_ret (v:=.agg #[.slice fa2 p.funcs.length fc2,.slice aa2 p.args.length ac2,.int .i64 p.entry,.int .i64 p.handler,.slice da2 p.data.length dc2,.slice ba2 p.banks.length bc2]) ?_ rfl (HM2.out.1.ret HM2.out.2 ?_)
  ·rw[zM rfl]
   go_simp
  ·have hw2:=HP.out.2.2
   have hn2:=HP.out.2.1
   have hf2:=HF.out
   have hpr:=HPR.out
   have hwx:=HWX.out
   rw[hw2] at hwx
   unfold wR
   rw[hn2,hf2,hw2,uw (.inr hwx) HN.out]
   exact hpr
open Go.RowKit
theorem je {w:World}{V:PV}{p:IProg}(hp:ProgIn w w.heap.size V p)(hs:SmallP p){q0 q1 q2:Int}(hq:I64 q0/\I64 q1/\I64 q2)(hw:yn q0=16):
 Calls Try.prog 19 #[yH V p,.agg #[.int .i64 q0,.int .i64 q1,.int .i64 q2]] w (pd w (wR p q0 q1 q2)):=by
 obtain⟨fa,fc,hfv,hfc,hfm⟩:=hp.funcs.form
 obtain⟨aa,ac,hav,hac,ham⟩:=hp.args.form
 obtain⟨da,dc,hdv,hdc,hdm⟩:=hp.data.form
 obtain⟨ba,bc,hbv,hbc,hbm⟩:=hp.banks.form
 obtain⟨p1,hp1⟩:∃p1,w.heap.size=p1:=⟨_,rfl⟩
 have hown:∀W,Below w.heap.size w W->Calls Try.prog 36 #[.agg #[.slice fa p.funcs.length fc,.slice aa p.args.length ac,.int .i64 p.entry,.int .i64 p.handler,.slice da p.data.length dc,.slice ba p.banks.length bc]] W _:=fun W hb=>by
  have h:=uJ ((hp.below hb).mono hb.size) hs
  unfold yH at h
  rw[hfv,hav,hdv,hbv] at h
  exact h
 unfold yH
 rw[hfv,hav,hdv,hbv]
 obtain⟨n,hn⟩:∃n,uS q2=n:=⟨_,rfl⟩
 have hnI:q2%65536=(n:Int):=by rw[<-hn];unfold uS;omega
 have hn6:n<65536:=by omega
 obtain⟨what,hwh⟩:∃k,yn q0=k:=⟨_,rfl⟩
 have hqt:-20<q0.tmod 20/\q0.tmod 20<20:=⟨by have:=Int.lt_tmod_of_pos q0 (show(0:Int)<20 by decide);omega,Int.tmod_lt_of_pos q0 (by decide)⟩
 have hwI:(q0.tmod 20+20)%20=(what:Int):=by
  rw[<-hwh]
  unfold yn
  have h1:=Int.emod_nonneg q0 (show(20:Int)≠0 by decide)
  rw[Int.toNat_of_nonneg h1]
  have h2:=Int.mul_tdiv_add_tmod q0 20
  omega
 have a65:=yt q2
 rw[hnI] at a65
 have a65b:=yt q1
 have hfl:=hs.fn.1
 have hb1:Below w.heap.size w (((w.alloc (.cells #[.slice fa p.funcs.length fc,.slice aa p.args.length ac,.int .i64 p.entry,.int .i64 p.handler,.slice da p.data.length dc,.slice ba p.banks.length bc] 29)).alloc (.cells #[.int .i64 q0,.int .i64 q1,.int .i64 q2] 23)).alloc (.cells #[.slice none 0 0,.slice none 0 0,.int .i64 0,.int .i64 0,.slice none 0 0,.slice none 0 0] 29)):=(((Below.refl _ _).alloc (Nat.le_refl _) _).alloc (by simp) _).alloc (by simp;omega) _
 have HOWN:=Lib.hid hown
 have HB1:=Lib.hid hb1
 have HP:=Lib.hid (And.intro hs (And.intro hn hwh))
 clear hown hb1 hp hs hfv hav hdv hbv hfc hfm hac ham hdc hdm hbc hbm hn hq
 have hw':=HP.out.2.2.symm.trans hw
 subst hw'
 have hwI':(q0.tmod 20+20)%20=16:=hwI
 clear hwI
 go_enter Try.func19,Try.ntmps19
 go_upto_region 2 with(go_at_call 36;go_must (refine(HOWN.out _ HB1.out).mono ?_;rintro e w2 ⟨t,fa2,fc2,aa2,ac2,da2,dc2,ba2,bc2,rfl,hV,ht,hr,hb⟩;have HT:=Lib.hid (And.intro hV (And.intro ht (And.intro hr hb)));clear hV ht hr hb))
 have hent:t.entry=p.entry/\t.handler=p.handler:=by rw[<-HT.out.2.1];exact⟨rfl,rfl⟩
 have hptc:(zW t).toArray=#[.slice fa2 p.funcs.length fc2,.slice aa2 p.args.length ac2,.int .i64 p.entry,.int .i64 p.handler,.slice da2 p.data.length dc2,.slice ba2 p.banks.length bc2]:=by
  unfold zW
  rw[HT.out.1.1,HT.out.1.2.1,HT.out.1.2.2.1,HT.out.1.2.2.2,hent.1,hent.2]
 obtain⟨o5,ho5⟩:∃o5,w2.heap.size=o5:=⟨_,rfl⟩
 have hm:TuMid w p1 o5 q0 q1 q2 t (w2.alloc (.cells (zW t).toArray 29)):=TuMid.start hp1 ho5 HT.out.2.2.1 HT.out.2.2.2
 rw[hptc] at hm
 generalize hW3:w2.alloc (.cells #[.slice fa2 p.funcs.length fc2,.slice aa2 p.args.length ac2,.int .i64 p.entry,.int .i64 p.handler,.slice da2 p.data.length dc2,.slice ba2 p.banks.length bc2] 29)=W3 at *
 clear hW3
 rw[ho5]
 clear ho5
 have ho:=hm.ho
 rw[hptc] at ho
 have cq0:=zA (i:=0) hm.hq rfl
 have cq1:=zA (i:=1) hm.hq rfl
 have cq2:=zA (i:=2) hm.hq rfl
 have co0:=zA (i:=0) ho rfl
 have co1:=zA (i:=1) ho rfl
 have co4:=zA (i:=4) ho rfl
 have co5:=zA (i:=5) ho rfl
 have of:∀i,W3.frozen? ⟨o5,i,none⟩=false:=fun i=>zE ho
 have co2:=zA (i:=2) ho rfl
 have co3:=zA (i:=3) ho rfl
 have ol:=lt_of_block ho
 have HM:=Lib.hid (And.intro hm (And.intro ho (And.intro hptc hent)))
 have HV:=Lib.hid HT.out.1
 have HPR:=Lib.hid HT.out.2.1
 clear hm ho hptc hent HT HOWN HB1
 obtain⟨f,hf⟩:∃f,uk p q1=f:=⟨_,rfl⟩
 have HF:=Lib.hid hf
 clear hf
 go_upto_if 23 with fail
 go_cut [7,8] (fun s7 s8 wx=>s7=.int .i64 16/\s8=.int .i64 (f:Int)/\W3=wx)
 case first=>
  have hf:=HF.out
  unfold uk at hf
  by_cases hlt:0<p.funcs.length
  ·rw[if_pos hlt] at hf
   have hltI:(0:Int)<(p.funcs.length:Int):=by omega
   have hfI:(q1%65536)%(p.funcs.length:Int)=(f:Int):=by
    rw[<-hf,Int.natCast_emod,Int.toNat_of_nonneg (Int.emod_nonneg _ (by decide))]
   have h0:0<=q1%65536:=Int.emod_nonneg _ (by decide)
   clear hf hlt
   go_wp2
   go_meet
   exact⟨by first|rfl|rw[hwI'],by first|rfl|rw[hfI],rfl⟩
  ·rw[if_neg hlt] at hf
   have hltI:¬(0:Int)<(p.funcs.length:Int):=by omega
   subst hf
   clear hlt
   go_wp2
   go_meet
   exact⟨by first|rfl|rw[hwI'],rfl,rfl⟩
 case rest=>
 obtain⟨rfl,rfl,rfl⟩:=hcut
 have hge:=HM.out.1.ge
 have hlen:=HP.out.1.da
 have hfld:t.data=p.data:=by rw[<-HPR.out];rfl
 have hrow:W3.ownsRow (p1+1+1+1) 51 3 (.slice da2 p.data.length dc2) (p.data.length) (p.data.flatMap xP):=by
  have h1:=HM.out.1.rows.own (vK t.dv t.data) (row_data t).1
  have e:=HV.out.2.2.1
  rw[e] at h1
  have h2:W3.ownsRow (p1+1+1+1) 51 3 (.slice da2 p.data.length dc2) (t.data.length) _:=h1
  rw[hfld] at h2
  exact h2
 have hne:(Value.slice da2 p.data.length dc2).ownBlock≠some o5:=zC hrow HM.out.2.1 (.inr (by decide))
 have HR:=Lib.hid (And.intro hrow (And.intro hne hfld))
 obtain⟨ii,hii,hzi0,hzi1,hzi2⟩:=info_parts Try.info_obj
 clear hrow hne hfld
 obtain⟨r,hr⟩:∃r,n/4%4=r:=⟨_,rfl⟩
 obtain⟨sz,hsz⟩:∃s,n/16%4=s:=⟨_,rfl⟩
 obtain⟨ad,had⟩:∃a,lY r=a:=⟨_,rfl⟩
 have hr4:r<4:=by omega
 have hidx:∀w,(Instr.index 98 (.agg #[.int .i64 16392,.int .i64 24575,.int .i64 512,.int .i64 16896]) (.int .i64 (r:Int))).run Try.prog w=.ok (.int .i64 (ad:Int)) w:=fun w=>by
  rw[<-had]
  exact turn_idx r hr4 w
 have hadl:ad<65536:=by rw[<-had];unfold lY;split<;>(try split)<;>(try split)<;>omega
 have f1:(n:Int).tmod 4=(n:Int)%4:=Int.tmod_eq_emod_of_nonneg (by omega)
 have f2:IntKind.i64.wrap ((n:Int)%4-2)=(n:Int)%4-2:=IntWalk.i64_in _ (by omega)
 have f3:IntKind.i64.wrap ((n:Int)/4)=(n:Int)/4:=IntWalk.i64_in _ (by omega)
 have f4:((n:Int)/4).tmod 4=(r:Int):=by rw[Int.tmod_eq_emod_of_nonneg (by omega),<-hr];simp
 have f5:IntKind.i64.wrap ((n:Int)/16)=(n:Int)/16:=IntWalk.i64_in _ (by omega)
 have f6:((n:Int)/16).tmod 4=(sz:Int):=by rw[Int.tmod_eq_emod_of_nonneg (by omega),<-hsz];simp
 have f7:IntKind.u16.wrap (ad:Int)=(ad:Int):=by rw[IntKind.wrap_u16];omega
 have f8:IntKind.u16.wrap (sz:Int)=(sz:Int):=by rw[IntKind.wrap_u16];omega
 have hRW:=Lib.hid (show((W3.alloc (.cells #[.int .i64 ((n:Int)%4-2),.int .u16 (ad:Int),.int .u16 (sz:Int)] 51)).drew).ownsRow (p1+1+1+1) 51 3 (.slice da2 p.data.length dc2) p.data.length (p.data.flatMap xP)/\yM ((W3.alloc (.cells #[.int .i64 ((n:Int)%4-2),.int .u16 (ad:Int),.int .u16 (sz:Int)] 51)).drew) 3 (.slice (some ⟨W3.heap.size,0,none⟩) 1 1) 1 [.int .i64 ((n:Int)%4-2),.int .u16 (ad:Int),.int .u16 (sz:Int)]/\((W3.alloc (.cells #[.int .i64 ((n:Int)%4-2),.int .u16 (ad:Int),.int .u16 (sz:Int)] 51)).drew).heap[o5]? =some (.cells #[.slice fa2 p.funcs.length fc2,.slice aa2 p.args.length ac2,.int .i64 p.entry,.int .i64 p.handler,.slice da2 p.data.length dc2,.slice ba2 p.banks.length bc2] 29 (0,0)) from⟨HR.out.1.alloc _,yM.cells (w:=(W3.alloc (.cells #[.int .i64 ((n:Int)%4-2),.int .u16 (ad:Int),.int .u16 (sz:Int)] 51)).drew) (zI (W:=W3) rfl) rfl (by simp[Value.oneCell']),zB HM.out.2.1⟩)
 have HI:=Lib.hid (And.intro hr (And.intro hsz had))
 clear hr hsz had hr4
 go_upto_region 18 with fail
 refine wp_region_noPanic ?_
 refine yQ (S:=(fun w'=>w'.cell? ⟨o5,4,none⟩=some (.slice da2 p.data.length dc2))) 19 (by kernel_rfl) co4 (fun hHeld=>?_)
 refine zF (i:=0) (oi:=_) (v:=?_) rfl (by kernel_rfl) (by kernel_rfl) (by kernel_rfl) (by kernel_rfl) (fun _ _ _ h=>h) (Or.inl ⟨by rfl,?_⟩) (by assumption) ?_
 rotate_left
 ·(intro w hSw;(try dsimp only at hSw);go_simp;try with_reducible rfl)
 (try simp only[Act.put,List.setIfInBounds_toArray,List.set_cons_zero,List.set_cons_succ])
 refine zF (i:=1) (oi:=_) (v:=?_) rfl (by kernel_rfl) (by kernel_rfl) (by kernel_rfl) (by kernel_rfl) (fun _ _ _ h=>h) (Or.inl ⟨by rfl,?_⟩) (by assumption) ?_
 rotate_left
 ·(intro w hSw;(try dsimp only at hSw);go_simp;try with_reducible rfl)
 (try simp only[Act.put,List.setIfInBounds_toArray,List.set_cons_zero,List.set_cons_succ])
 refine zF (i:=2) (oi:=_) (v:=?_) rfl (by kernel_rfl) (by kernel_rfl) (by kernel_rfl) (by kernel_rfl) (fun _ _ _ h=>h) (Or.inl ⟨by rfl,?_⟩) (by assumption) ?_
 rotate_left
 ·(intro w hSw;(try dsimp only at hSw);go_simp;try with_reducible rfl)
 (try simp only[Act.put,List.setIfInBounds_toArray,List.set_cons_zero,List.set_cons_succ])
 refine zF (i:=3) (oi:=_) (v:=?_) rfl (by kernel_rfl) (by kernel_rfl) (by kernel_rfl) (by kernel_rfl) (fun _ _ _ h=>h) (Or.inl ⟨by rfl,?_⟩) (by assumption) ?_
 rotate_left
 ·(intro w hSw;(try dsimp only at hSw);go_simp;try with_reducible rfl)
 (try simp only[Act.put,List.setIfInBounds_toArray,List.set_cons_zero,List.set_cons_succ])
 refine zF (i:=4) (oi:=_) (v:=?_) rfl (by kernel_rfl) (by kernel_rfl) (by kernel_rfl) (by kernel_rfl) (fun _ _ _ h=>h) (Or.inl ⟨by rfl,?_⟩) (by assumption) ?_
 rotate_left
 ·(intro w hSw;(try dsimp only at hSw);go_simp;try with_reducible rfl)
 (try simp only[Act.put,List.setIfInBounds_toArray,List.set_cons_zero,List.set_cons_succ])
 refine zF (i:=5) (oi:=_) (v:=?_) rfl (by kernel_rfl) (by kernel_rfl) (by kernel_rfl) (by kernel_rfl) (fun _ _ _ h=>h) (Or.inl ⟨by rfl,?_⟩) (by assumption) ?_
 rotate_left
 ·(intro w hSw;(try dsimp only at hSw);go_simp;try with_reducible rfl)
 (try simp only[Act.put,List.setIfInBounds_toArray,List.set_cons_zero,List.set_cons_succ])
 refine zF (i:=6) (oi:=_) (v:=?_) rfl (by kernel_rfl) (by kernel_rfl) (by kernel_rfl) (by kernel_rfl) (fun _ _ _ h=>h) (Or.inl ⟨by rfl,?_⟩) (by assumption) ?_
 rotate_left
 ·(intro w hSw;(try dsimp only at hSw);go_simp;try with_reducible rfl)
 (try simp only[Act.put,List.setIfInBounds_toArray,List.set_cons_zero,List.set_cons_succ])
 refine zF (i:=7) (oi:=_) (v:=?_) rfl (by kernel_rfl) (by kernel_rfl) (by kernel_rfl) (by kernel_rfl) (fun _ _ _ h=>h) (Or.inl ⟨by rfl,?_⟩) (by assumption) ?_
 rotate_left
 ·(intro w hSw;(try dsimp only at hSw);go_simp;try with_reducible rfl)
 (try simp only[Act.put,List.setIfInBounds_toArray,List.set_cons_zero,List.set_cons_succ])
 refine zF (i:=8) (oi:=_) (v:=?_) rfl (by kernel_rfl) (by kernel_rfl) (by kernel_rfl) (by kernel_rfl) (fun _ _ _ h=>h) (Or.inl ⟨by rfl,?_⟩) (by assumption) ?_
 rotate_left
 ·(intro w hSw;(try dsimp only at hSw);go_simp;try with_reducible rfl)
 (try simp only[Act.put,List.setIfInBounds_toArray,List.set_cons_zero,List.set_cons_succ])
 refine zF (i:=9) (oi:=_) (v:=?_) rfl (by kernel_rfl) (by kernel_rfl) (by kernel_rfl) (by kernel_rfl) (fun _ _ _ h=>h) (Or.inl ⟨by rfl,?_⟩) (by assumption) ?_
 rotate_left
 ·(intro w hSw;(try dsimp only at hSw);go_simp;try with_reducible rfl)
 (try simp only[Act.put,List.setIfInBounds_toArray,List.set_cons_zero,List.set_cons_succ])
 refine zF (i:=10) (oi:=_) (v:=?_) rfl (by kernel_rfl) (by kernel_rfl) (by kernel_rfl) (by kernel_rfl) (fun _ _ _ h=>h) (Or.inl ⟨by rfl,?_⟩) (by assumption) ?_
 rotate_left
 ·(intro w hSw;(try dsimp only at hSw);go_simp;try with_reducible rfl)
 (try simp only[Act.put,List.setIfInBounds_toArray,List.set_cons_zero,List.set_cons_succ])
 refine zF (i:=11) (oi:=_) (v:=?_) rfl (by kernel_rfl) (by kernel_rfl) (by kernel_rfl) (by kernel_rfl) (fun _ _ _ h=>h) (Or.inl ⟨by rfl,?_⟩) (by assumption) ?_
 rotate_left
 ·(intro w hSw;(try dsimp only at hSw);go_simp;try with_reducible rfl)
 (try simp only[Act.put,List.setIfInBounds_toArray,List.set_cons_zero,List.set_cons_succ])
 refine zF (i:=12) (oi:=_) (v:=?_) rfl (by kernel_rfl) (by kernel_rfl) (by kernel_rfl) (by kernel_rfl) (fun _ _ _ h=>h) (Or.inl ⟨by rfl,?_⟩) (by assumption) ?_
 rotate_left
 ·(intro w hSw;(try dsimp only at hSw);go_simp;try with_reducible rfl)
 (try simp only[Act.put,List.setIfInBounds_toArray,List.set_cons_zero,List.set_cons_succ])
 refine zF (i:=13) (oi:=_) (v:=?_) rfl (by kernel_rfl) (by kernel_rfl) (by kernel_rfl) (by kernel_rfl) (fun _ _ _ h=>h) (Or.inl ⟨by rfl,?_⟩) (by assumption) ?_
 rotate_left
 ·(intro w hSw;(try dsimp only at hSw);go_simp;try with_reducible rfl)
 (try simp only[Act.put,List.setIfInBounds_toArray,List.set_cons_zero,List.set_cons_succ])
 refine zF (i:=14) (oi:=_) (v:=?_) rfl (by kernel_rfl) (by kernel_rfl) (by kernel_rfl) (by kernel_rfl) (fun _ _ _ h=>h) (Or.inl ⟨by rfl,?_⟩) (by assumption) ?_
 rotate_left
 ·(intro w hSw;(try dsimp only at hSw);go_simp;try with_reducible rfl)
 (try simp only[Act.put,List.setIfInBounds_toArray,List.set_cons_zero,List.set_cons_succ])
 refine zF (i:=15) (oi:=_) (v:=?_) rfl (by kernel_rfl) (by kernel_rfl) (by kernel_rfl) (by kernel_rfl) (fun _ _ _ h=>h) (Or.inl ⟨by rfl,?_⟩) (by assumption) ?_
 rotate_left
 ·(intro w hSw;(try dsimp only at hSw);go_simp;try with_reducible rfl)
 (try simp only[Act.put,List.setIfInBounds_toArray,List.set_cons_zero,List.set_cons_succ])
 refine z8 (rs:=[16]) (by kernel_rfl) (by simp) ?_
 refine zS.cons (o:=_) rfl (fun K hK=>?_) ?_
 ·skip
  go_simp
  refine hK.out _ _ (zA (i:=4) hRW.out.2.2 rfl) (fun hHeld=>?_)
  clear hK K
  (try simp only[Act.put,List.setIfInBounds_toArray,List.set_cons_zero,List.set_cons_succ])
  refine z8 (rs:=[17]) (by kernel_rfl) (by simp) ?_
  refine zS.cons (o:=_) rfl (fun K hK=>?_) ?_
  ·skip
   (refine yG (by rfl) (.tmp 93) (.tmp 108) _ (by rfl) (p1+1+1+1) 51 ii (.agg #[.int .i64 0,.int .u16 0,.int .u16 0]) 3 16 Try.underlying26 hii hzi0 hzi1 hzi2 rfl (by omega) (.slice da2 p.data.length dc2) (p.data.length) (p.data.flatMap xP) (by rfl) hRW.out.1 (.slice (some ⟨W3.heap.size,0,none⟩) 1 1) 1 [.int .i64 ((n:Int)%4-2),.int .u16 (ad:Int),.int .u16 (sz:Int)] (by rfl) hRW.out.2.1 (by unfold maxLen;omega) (by omega) (by simp;omega) ?_;intro ra rc w9 hown9 hgrow9 hat9;have ho9:=zL hgrow9 hRW.out.2.2 HR.out.2.1;have d1:=zA (i:=4) ho9 rfl;have df:w9.frozen? ⟨o5,4,none⟩=false:=zE ho9;have dl:=lt_of_block ho9;have HG:=Lib.hid (And.intro hown9 (And.intro hgrow9 hat9));clear hown9 hgrow9 hat9;(try dsimp only))
   refine hK.out _ _ d1 (fun hHeld=>?_)
   clear hK K
   (try simp only[Act.put,List.setIfInBounds_toArray,List.set_cons_zero,List.set_cons_succ])
   refine zF (i:=18) (oi:=_) (v:=?_) rfl (by kernel_rfl) (by kernel_rfl) (by kernel_rfl) (by kernel_rfl) (fun _ _ _ h=>h) (Or.inl ⟨by rfl,?_⟩) (by assumption) ?_
   rotate_left
   ·(intro w hSw;(try dsimp only at hSw);go_simp;try with_reducible rfl)
   (try simp only[Act.put,List.setIfInBounds_toArray,List.set_cons_zero,List.set_cons_succ])
   refine z8 (rs:=[19]) (by kernel_rfl) (by simp) ?_
   refine zS.last (o:=_) rfl (fun K hK=>?_)
   go_simp
   refine hK.out _ _ ?_
   clear hK K
   (try simp only[Act.put,List.setIfInBounds_toArray,List.set_cons_zero,List.set_cons_succ])
   refine xj (by kernel_rfl) (NoPanic.normal ?_) _
   go_upto_region 24 with fail
   have hm2:=(by
    have hgr:=HG.out.2.1
    have e9:=HV.out.2.2.1
    rw[<-e9] at hgr
    refine HM.out.1.grow (r:=vK t.dv t.data) (r':=vK (.slice ra (p.data.length+1) rc) (t.data++ [(⟨(n:Int)%4-2,ad,sz⟩:IObj)])) (rs:=sC t) (i:=4) (u:=.slice ra (p.data.length+1) rc) (t':= {t with data:=t.data++ [(⟨(n:Int)%4-2,ad,sz⟩:IObj)],dv:=.slice ra (p.data.length+1) rc }) (tt t).2 (((Below.refl W3.heap.size W3).alloc (Nat.le_refl _) (.cells #[.int .i64 ((n:Int)%4-2),.int .u16 (ad:Int),.int .u16 (sz:Int)] 51)).drew) hgr ?_ (fun x e=>?_) ?_ ?_
    ·show w9.ownsRow (p1+1+1+1) 51 3 _ (t.data++ [(⟨(n:Int)%4-2,ad,sz⟩:IObj)]).length _
     rw[List.length_append,List.length_singleton,HR.out.2.2]
     have h9:=HG.out.1
     show w9.ownsRow _ _ _ _ _ ((p.data++ [(⟨(n:Int)%4-2,ad,sz⟩:IObj)]).flatMap xP)
     rw[List.flatMap_append]
     exact h9
    ·rcases HG.out.2.2 with e2|e2
     ·left
      have e3:=e2.symm.trans e
      show t.dv.ownBlock=some x
      rw[e9]
      exact e3
     ·right
      have e3:=e2.symm.trans e
      simp at e3
      omega
    ·exact(qS t _ _).symm
    ·rfl)
   generalize hWF:w9.setCell ⟨o5,4,none⟩ (.slice ra (p.data.length+1) rc)=WF at *
   have ho2:=hm2.ho
   have e0:(zW ({t with data:=t.data++ [(⟨(n:Int)%4-2,ad,sz⟩:IObj)],dv:=.slice ra (p.data.length+1) rc }:PT)).toArray=#[.slice fa2 p.funcs.length fc2,.slice aa2 p.args.length ac2,.int .i64 p.entry,.int .i64 p.handler,.slice ra (p.data.length+1) rc,.slice ba2 p.banks.length bc2]:=by
    unfold zW
    first|(simp only;done)|(simp only[HV.out.1,HV.out.2.1,HV.out.2.2.1,HV.out.2.2.2,HM.out.2.2.2.1,HM.out.2.2.2.2])
   rw[e0] at ho2
   clear hWF cq0 cq1 cq2 co0 co1 co2 co3 co4 co5 of ol
   have x0:=zA (i:=0) ho2 rfl
   have x1:=zA (i:=1) ho2 rfl
   have x2:=zA (i:=2) ho2 rfl
   have x3:=zA (i:=3) ho2 rfl
   have x4:=zA (i:=4) ho2 rfl
   have x5:=zA (i:=5) ho2 rfl
   have xl:=lt_of_block ho2
   have y0:=zA (i:=0) hm2.hr rfl
   have y1:=zA (i:=1) hm2.hr rfl
   have y2:=zA (i:=2) hm2.hr rfl
   have y3:=zA (i:=3) hm2.hr rfl
   have y4:=zA (i:=4) hm2.hr rfl
   have y5:=zA (i:=5) hm2.hr rfl
   have yf:∀i,WF.frozen? ⟨p1+1+1,i,none⟩=false:=fun i=>zE hm2.hr
   have yl:=lt_of_block hm2.hr
   have HM2:=Lib.hid (And.intro hm2 e0)
   clear hm2 ho2 e0
   go_wp2
   refine bodyPost_ret (v:=.agg #[.slice fa2 p.funcs.length fc2,.slice aa2 p.args.length ac2,.int .i64 p.entry,.int .i64 p.handler,.slice ra (p.data.length+1) rc,.slice ba2 p.banks.length bc2]) ?_ rfl (HM2.out.1.ret HM2.out.2 ?_)
   ·rw[zM rfl]
    go_simp
   ·have hw2:=HP.out.2.2
    have hn2:=HP.out.2.1
    have hf2:=HF.out
    have hpr:=HPR.out
    unfold wR rA
    rw[hn2,hf2,show yn q0=16 from hw2]
    rw[<-hpr]
    simp only[HI.out.1,HI.out.2.1,HI.out.2.2]
    rfl
  exact zS.nil
 exact zS.nil
theorem jX {w:World}{V:PV}{p:IProg}(hp:ProgIn w w.heap.size V p)(hs:SmallP p){q0 q1 q2:Int}(hq:I64 q0/\I64 q1/\I64 q2)(hw:yn q0=17):
 Calls Try.prog 19 #[yH V p,.agg #[.int .i64 q0,.int .i64 q1,.int .i64 q2]] w (pd w (wR p q0 q1 q2)):=by
 obtain⟨fa,fc,hfv,hfc,hfm⟩:=hp.funcs.form
 obtain⟨aa,ac,hav,hac,ham⟩:=hp.args.form
 obtain⟨da,dc,hdv,hdc,hdm⟩:=hp.data.form
 obtain⟨ba,bc,hbv,hbc,hbm⟩:=hp.banks.form
 obtain⟨p1,hp1⟩:∃p1,w.heap.size=p1:=⟨_,rfl⟩
 have hown:∀W,Below w.heap.size w W->Calls Try.prog 36 #[.agg #[.slice fa p.funcs.length fc,.slice aa p.args.length ac,.int .i64 p.entry,.int .i64 p.handler,.slice da p.data.length dc,.slice ba p.banks.length bc]] W _:=fun W hb=>by
  have h:=uJ ((hp.below hb).mono hb.size) hs
  unfold yH at h
  rw[hfv,hav,hdv,hbv] at h
  exact h
 unfold yH
 rw[hfv,hav,hdv,hbv]
 obtain⟨n,hn⟩:∃n,uS q2=n:=⟨_,rfl⟩
 have hnI:q2%65536=(n:Int):=by rw[<-hn];unfold uS;omega
 have hn6:n<65536:=by omega
 obtain⟨what,hwh⟩:∃k,yn q0=k:=⟨_,rfl⟩
 have hqt:-20<q0.tmod 20/\q0.tmod 20<20:=⟨by have:=Int.lt_tmod_of_pos q0 (show(0:Int)<20 by decide);omega,Int.tmod_lt_of_pos q0 (by decide)⟩
 have hwI:(q0.tmod 20+20)%20=(what:Int):=by
  rw[<-hwh]
  unfold yn
  have h1:=Int.emod_nonneg q0 (show(20:Int)≠0 by decide)
  rw[Int.toNat_of_nonneg h1]
  have h2:=Int.mul_tdiv_add_tmod q0 20
  omega
 have a65:=yt q2
 rw[hnI] at a65
 have a65b:=yt q1
 have hfl:=hs.fn.1
 have hb1:Below w.heap.size w (((w.alloc (.cells #[.slice fa p.funcs.length fc,.slice aa p.args.length ac,.int .i64 p.entry,.int .i64 p.handler,.slice da p.data.length dc,.slice ba p.banks.length bc] 29)).alloc (.cells #[.int .i64 q0,.int .i64 q1,.int .i64 q2] 23)).alloc (.cells #[.slice none 0 0,.slice none 0 0,.int .i64 0,.int .i64 0,.slice none 0 0,.slice none 0 0] 29)):=(((Below.refl _ _).alloc (Nat.le_refl _) _).alloc (by simp) _).alloc (by simp;omega) _
 have HOWN:=Lib.hid hown
 have HB1:=Lib.hid hb1
 have HP:=Lib.hid (And.intro hs (And.intro hn hwh))
 clear hown hb1 hp hs hfv hav hdv hbv hfc hfm hac ham hdc hdm hbc hbm hn hq
 have hw':=HP.out.2.2.symm.trans hw
 subst hw'
 have hwI':(q0.tmod 20+20)%20=17:=hwI
 clear hwI
 go_enter Try.func19,Try.ntmps19
 go_upto_region 2 with(go_at_call 36;go_must (refine(HOWN.out _ HB1.out).mono ?_;rintro e w2 ⟨t,fa2,fc2,aa2,ac2,da2,dc2,ba2,bc2,rfl,hV,ht,hr,hb⟩;have HT:=Lib.hid (And.intro hV (And.intro ht (And.intro hr hb)));clear hV ht hr hb))
 have hent:t.entry=p.entry/\t.handler=p.handler:=by rw[<-HT.out.2.1];exact⟨rfl,rfl⟩
 have hptc:(zW t).toArray=#[.slice fa2 p.funcs.length fc2,.slice aa2 p.args.length ac2,.int .i64 p.entry,.int .i64 p.handler,.slice da2 p.data.length dc2,.slice ba2 p.banks.length bc2]:=by
  unfold zW
  rw[HT.out.1.1,HT.out.1.2.1,HT.out.1.2.2.1,HT.out.1.2.2.2,hent.1,hent.2]
 obtain⟨o5,ho5⟩:∃o5,w2.heap.size=o5:=⟨_,rfl⟩
 have hm:TuMid w p1 o5 q0 q1 q2 t (w2.alloc (.cells (zW t).toArray 29)):=TuMid.start hp1 ho5 HT.out.2.2.1 HT.out.2.2.2
 rw[hptc] at hm
 generalize hW3:w2.alloc (.cells #[.slice fa2 p.funcs.length fc2,.slice aa2 p.args.length ac2,.int .i64 p.entry,.int .i64 p.handler,.slice da2 p.data.length dc2,.slice ba2 p.banks.length bc2] 29)=W3 at *
 clear hW3
 rw[ho5]
 clear ho5
 have ho:=hm.ho
 rw[hptc] at ho
 have cq0:=zA (i:=0) hm.hq rfl
 have cq1:=zA (i:=1) hm.hq rfl
 have cq2:=zA (i:=2) hm.hq rfl
 have co0:=zA (i:=0) ho rfl
 have co1:=zA (i:=1) ho rfl
 have co4:=zA (i:=4) ho rfl
 have co5:=zA (i:=5) ho rfl
 have of:∀i,W3.frozen? ⟨o5,i,none⟩=false:=fun i=>zE ho
 have co2:=zA (i:=2) ho rfl
 have co3:=zA (i:=3) ho rfl
 have ol:=lt_of_block ho
 have HM:=Lib.hid (And.intro hm (And.intro ho (And.intro hptc hent)))
 have HV:=Lib.hid HT.out.1
 have HPR:=Lib.hid HT.out.2.1
 clear hm ho hptc hent HT HOWN HB1
 obtain⟨f,hf⟩:∃f,uk p q1=f:=⟨_,rfl⟩
 have HF:=Lib.hid hf
 clear hf
 go_upto_if 23 with fail
 go_cut [7,8] (fun s7 s8 wx=>s7=.int .i64 17/\s8=.int .i64 (f:Int)/\W3=wx)
 case first=>
  have hf:=HF.out
  unfold uk at hf
  by_cases hlt:0<p.funcs.length
  ·rw[if_pos hlt] at hf
   have hltI:(0:Int)<(p.funcs.length:Int):=by omega
   have hfI:(q1%65536)%(p.funcs.length:Int)=(f:Int):=by
    rw[<-hf,Int.natCast_emod,Int.toNat_of_nonneg (Int.emod_nonneg _ (by decide))]
   have h0:0<=q1%65536:=Int.emod_nonneg _ (by decide)
   clear hf hlt
   go_wp2
   go_meet
   exact⟨by first|rfl|rw[hwI'],by first|rfl|rw[hfI],rfl⟩
  ·rw[if_neg hlt] at hf
   have hltI:¬(0:Int)<(p.funcs.length:Int):=by omega
   subst hf
   clear hlt
   go_wp2
   go_meet
   exact⟨by first|rfl|rw[hwI'],rfl,rfl⟩
 case rest=>
 obtain⟨rfl,rfl,rfl⟩:=hcut
 have hge:=HM.out.1.ge
 have hlen:=HP.out.1.ba
 have hfld:t.banks=p.banks:=by rw[<-HPR.out];rfl
 have hrow:W3.ownsRow (p1+1+1+1) 9 1 (.slice ba2 p.banks.length bc2) (p.banks.length) (p.banks.map .string):=by
  have h1:=HM.out.1.rows.own (v8 t.bv t.banks) (jI t).1
  have e:=HV.out.2.2.2
  rw[e] at h1
  have h2:W3.ownsRow (p1+1+1+1) 9 1 (.slice ba2 p.banks.length bc2) (t.banks.length) _:=h1
  rw[hfld] at h2
  exact h2
 have hne:(Value.slice ba2 p.banks.length bc2).ownBlock≠some o5:=zC hrow HM.out.2.1 (.inr (by decide))
 have HR:=Lib.hid (And.intro hrow (And.intro hne hfld))
 obtain⟨ii,hii,hzi0,hzi1,hzi2⟩:=info_parts Try.info_str
 clear hrow hne hfld
 obtain⟨m,hmn⟩:∃m,4096-n%3/2=m:=⟨_,rfl⟩
 have f1:(n:Int).tmod 3=(n:Int)%3:=Int.tmod_eq_emod_of_nonneg (by omega)
 have f0:((n:Int)%3).tdiv 2=(n:Int)%3/2:=Int.tdiv_eq_ediv_of_nonneg (by omega)
 have f2:IntKind.i64.wrap ((n:Int)%3/2)=(n:Int)%3/2:=IntWalk.i64_in _ (by omega)
 have f3:IntKind.i64.wrap (4096-(n:Int)%3/2)=(m:Int):=by rw[IntWalk.i64_in _ (by omega)];omega
 have hml:m<=4096:=by omega
 have hmi:(0:Int)<=(m:Int):=by omega
 have hmk:=run_make_row' (P:=Try.prog) 37 5 (.int .u8 0) 1 Try.underlying37 Try.info_u8 rfl .i64 .i64 m (by omega) (by omega)
 have hcv:(convert 37 9 (.slice (some ⟨W3.heap.size,0,none⟩) m m)).run Try.prog (W3.alloc (.cells (madeCells #[.int .u8 0] m) 5)).drew=.ok (.string (xV m)) (W3.alloc (.cells (madeCells #[.int .u8 0] m) 5)).drew:=pN (w:=(W3.alloc (.cells (madeCells #[.int .u8 0] m) 5)).drew) (l:=List.replicate m 0) (by
  have e:=zI (W:=W3) (o:=.cells (madeCells #[.int .u8 0] m) 5) rfl
  rw[yA] at e
  rw[List.map_replicate]
  rw[yA]
  exact e) (by simp)
 have hRW:=Lib.hid (show(((W3.alloc (.cells (madeCells #[.int .u8 0] m) 5)).alloc (.cells #[.string (xV m)] 9)).drew).ownsRow (p1+1+1+1) 9 1 (.slice ba2 p.banks.length bc2) p.banks.length (p.banks.map .string)/\yM (((W3.alloc (.cells (madeCells #[.int .u8 0] m) 5)).alloc (.cells #[.string (xV m)] 9)).drew) 1 (.slice (some ⟨W3.heap.size+1,0,none⟩) 1 1) 1 [.string (xV m)]/\(((W3.alloc (.cells (madeCells #[.int .u8 0] m) 5)).alloc (.cells #[.string (xV m)] 9)).drew).heap[o5]? =some (.cells #[.slice fa2 p.funcs.length fc2,.slice aa2 p.args.length ac2,.int .i64 p.entry,.int .i64 p.handler,.slice da2 p.data.length dc2,.slice ba2 p.banks.length bc2] 29 (0,0))/\(W3.alloc (.cells (madeCells #[.int .u8 0] m) 5)).drew.heap[o5]? =some (.cells #[.slice fa2 p.funcs.length fc2,.slice aa2 p.args.length ac2,.int .i64 p.entry,.int .i64 p.handler,.slice da2 p.data.length dc2,.slice ba2 p.banks.length bc2] 29 (0,0)) from⟨(HR.out.1.alloc _).alloc _,yM.one (w:=((W3.alloc (.cells (madeCells #[.int .u8 0] m) 5)).alloc (.cells #[.string (xV m)] 9)).drew) (zI (W:=W3.alloc (.cells (madeCells #[.int .u8 0] m) 5)) (by simp)) rfl,zB (zB HM.out.2.1),zB HM.out.2.1⟩)
 have HI:=Lib.hid hmn
 clear hmn
 go_upto_region 20 with fail
 refine wp_region_noPanic ?_
 refine yQ (S:=(fun w'=>w'.cell? ⟨o5,5,none⟩=some (.slice ba2 p.banks.length bc2))) 11 (by kernel_rfl) co5 (fun hHeld=>?_)
 refine zF (i:=0) (oi:=_) (v:=?_) rfl (by kernel_rfl) (by kernel_rfl) (by kernel_rfl) (by kernel_rfl) (fun _ _ _ h=>h) (Or.inl ⟨by rfl,?_⟩) (by assumption) ?_
 rotate_left
 ·(intro w hSw;(try dsimp only at hSw);go_simp;try with_reducible rfl)
 (try simp only[Act.put,List.setIfInBounds_toArray,List.set_cons_zero,List.set_cons_succ])
 refine zF (i:=1) (oi:=_) (v:=?_) rfl (by kernel_rfl) (by kernel_rfl) (by kernel_rfl) (by kernel_rfl) (fun _ _ _ h=>h) (Or.inl ⟨by rfl,?_⟩) (by assumption) ?_
 rotate_left
 ·(intro w hSw;(try dsimp only at hSw);go_simp;try with_reducible rfl)
 (try simp only[Act.put,List.setIfInBounds_toArray,List.set_cons_zero,List.set_cons_succ])
 refine zF (i:=2) (oi:=_) (v:=?_) rfl (by kernel_rfl) (by kernel_rfl) (by kernel_rfl) (by kernel_rfl) (fun _ _ _ h=>h) (Or.inl ⟨by rfl,?_⟩) (by assumption) ?_
 rotate_left
 ·(intro w hSw;(try dsimp only at hSw);go_simp;try with_reducible rfl)
 (try simp only[Act.put,List.setIfInBounds_toArray,List.set_cons_zero,List.set_cons_succ])
 refine zF (i:=3) (oi:=_) (v:=?_) rfl (by kernel_rfl) (by kernel_rfl) (by kernel_rfl) (by kernel_rfl) (fun _ _ _ h=>h) (Or.inl ⟨by rfl,?_⟩) (by assumption) ?_
 rotate_left
 ·(intro w hSw;(try dsimp only at hSw);go_simp;try with_reducible rfl)
 (try simp only[Act.put,List.setIfInBounds_toArray,List.set_cons_zero,List.set_cons_succ])
 refine zF (i:=4) (oi:=_) (v:=?_) rfl (by kernel_rfl) (by kernel_rfl) (by kernel_rfl) (by kernel_rfl) (fun _ _ _ h=>h) (Or.inl ⟨by rfl,?_⟩) (by assumption) ?_
 rotate_left
 ·(intro w hSw;(try dsimp only at hSw);go_simp;try with_reducible rfl)
 (try simp only[Act.put,List.setIfInBounds_toArray,List.set_cons_zero,List.set_cons_succ])
 refine zF (i:=5) (oi:=_) (v:=?_) rfl (by kernel_rfl) (by kernel_rfl) (by kernel_rfl) (by kernel_rfl) (fun _ _ _ h=>h) (Or.inl ⟨by rfl,?_⟩) (by assumption) ?_
 rotate_left
 ·(intro w hSw;(try dsimp only at hSw);go_simp;try with_reducible rfl)
 (try simp only[Act.put,List.setIfInBounds_toArray,List.set_cons_zero,List.set_cons_succ])
 refine z8 (rs:=[6]) (by kernel_rfl) (by simp) ?_
 refine zS.cons (o:=_) rfl (fun K hK=>?_) ?_
 ·skip
  go_simp
  refine hK.out _ _ (zA (i:=5) hRW.out.2.2.2 rfl) (fun hHeld=>?_)
  clear hK K
  (try simp only[Act.put,List.setIfInBounds_toArray,List.set_cons_zero,List.set_cons_succ])
  refine z8 (rs:=[7]) (by kernel_rfl) (by simp) ?_
  refine zS.cons (o:=_) rfl (fun K hK=>?_) ?_
  ·skip
   go_simp
   refine hK.out _ _ (by assumption) (fun hHeld=>?_)
   clear hK K
   (try simp only[Act.put,List.setIfInBounds_toArray,List.set_cons_zero,List.set_cons_succ])
   refine z8 (rs:=[8]) (by kernel_rfl) (by simp) ?_
   refine zS.cons (o:=_) rfl (fun K hK=>?_) ?_
   ·skip
    go_simp
    refine hK.out _ _ (zA (i:=5) hRW.out.2.2.1 rfl) (fun hHeld=>?_)
    clear hK K
    (try simp only[Act.put,List.setIfInBounds_toArray,List.set_cons_zero,List.set_cons_succ])
    refine z8 (rs:=[9]) (by kernel_rfl) (by simp) ?_
    refine zS.cons (o:=_) rfl (fun K hK=>?_) ?_
    ·skip
     (refine yG (by rfl) (.tmp 114) (.tmp 121) _ (by rfl) (p1+1+1+1) 9 ii (.string ⟨#[]⟩) 1 16 Try.underlying27 hii hzi0 hzi1 hzi2 rfl (by omega) (.slice ba2 p.banks.length bc2) (p.banks.length) (p.banks.map .string) (by rfl) hRW.out.1 (.slice (some ⟨W3.heap.size+1,0,none⟩) 1 1) 1 [.string (xV m)] (by rfl) hRW.out.2.1 (by unfold maxLen;omega) (by omega) (by simp;omega) ?_;intro ra rc w9 hown9 hgrow9 hat9;have ho9:=zL hgrow9 hRW.out.2.2.1 HR.out.2.1;have d1:=zA (i:=5) ho9 rfl;have df:w9.frozen? ⟨o5,5,none⟩=false:=zE ho9;have dl:=lt_of_block ho9;have HG:=Lib.hid (And.intro hown9 (And.intro hgrow9 hat9));clear hown9 hgrow9 hat9;(try dsimp only))
     refine hK.out _ _ d1 (fun hHeld=>?_)
     clear hK K
     (try simp only[Act.put,List.setIfInBounds_toArray,List.set_cons_zero,List.set_cons_succ])
     refine zF (i:=10) (oi:=_) (v:=?_) rfl (by kernel_rfl) (by kernel_rfl) (by kernel_rfl) (by kernel_rfl) (fun _ _ _ h=>h) (Or.inl ⟨by rfl,?_⟩) (by assumption) ?_
     rotate_left
     ·(intro w hSw;(try dsimp only at hSw);go_simp;try with_reducible rfl)
     (try simp only[Act.put,List.setIfInBounds_toArray,List.set_cons_zero,List.set_cons_succ])
     refine z8 (rs:=[11]) (by kernel_rfl) (by simp) ?_
     refine zS.last (o:=_) rfl (fun K hK=>?_)
     go_simp
     refine hK.out _ _ ?_
     clear hK K
     (try simp only[Act.put,List.setIfInBounds_toArray,List.set_cons_zero,List.set_cons_succ])
     refine xj (by kernel_rfl) (NoPanic.normal ?_) _
     go_upto_region 24 with fail
     have hm2:=(by
      have hgr:=HG.out.2.1
      have e9:=HV.out.2.2.2
      rw[<-e9] at hgr
      refine HM.out.1.grow (r:=v8 t.bv t.banks) (r':=v8 (.slice ra (p.banks.length+1) rc) (t.banks++ [(xV m)])) (rs:=uy t) (i:=5) (u:=.slice ra (p.banks.length+1) rc) (t':= {t with banks:=t.banks++ [(xV m)],bv:=.slice ra (p.banks.length+1) rc }) (tL t).2 ((((Below.refl W3.heap.size W3).alloc (Nat.le_refl _) (.cells (madeCells #[.int .u8 0] m) 5)).alloc (by simp) (.cells #[.string (xV m)] 9)).drew) hgr ?_ (fun x e=>?_) ?_ ?_
      ·show w9.ownsRow (p1+1+1+1) 9 1 _ (t.banks++ [(xV m)]).length _
       rw[List.length_append,List.length_singleton,HR.out.2.2]
       have h9:=HG.out.1
       show w9.ownsRow _ _ _ _ _ ((p.banks++ [(xV m)]).map .string)
       rw[List.map_append]
       exact h9
      ·rcases HG.out.2.2 with e2|e2
       ·left
        have e3:=e2.symm.trans e
        show t.bv.ownBlock=some x
        rw[e9]
        exact e3
       ·right
        have e3:=e2.symm.trans e
        simp at e3
        omega
      ·exact(qE t _ _).symm
      ·rfl)
     generalize hWF:w9.setCell ⟨o5,5,none⟩ (.slice ra (p.banks.length+1) rc)=WF at *
     have ho2:=hm2.ho
     have e0:(zW ({t with banks:=t.banks++ [(xV m)],bv:=.slice ra (p.banks.length+1) rc }:PT)).toArray=#[.slice fa2 p.funcs.length fc2,.slice aa2 p.args.length ac2,.int .i64 p.entry,.int .i64 p.handler,.slice da2 p.data.length dc2,.slice ra (p.banks.length+1) rc]:=by
      unfold zW
      first|(simp only;done)|(simp only[HV.out.1,HV.out.2.1,HV.out.2.2.1,HV.out.2.2.2,HM.out.2.2.2.1,HM.out.2.2.2.2])
     rw[e0] at ho2
     clear hWF cq0 cq1 cq2 co0 co1 co2 co3 co4 co5 of ol
     have x0:=zA (i:=0) ho2 rfl
     have x1:=zA (i:=1) ho2 rfl
     have x2:=zA (i:=2) ho2 rfl
     have x3:=zA (i:=3) ho2 rfl
     have x4:=zA (i:=4) ho2 rfl
     have x5:=zA (i:=5) ho2 rfl
     have xl:=lt_of_block ho2
     have y0:=zA (i:=0) hm2.hr rfl
     have y1:=zA (i:=1) hm2.hr rfl
     have y2:=zA (i:=2) hm2.hr rfl
     have y3:=zA (i:=3) hm2.hr rfl
     have y4:=zA (i:=4) hm2.hr rfl
     have y5:=zA (i:=5) hm2.hr rfl
     have yf:∀i,WF.frozen? ⟨p1+1+1,i,none⟩=false:=fun i=>zE hm2.hr
     have yl:=lt_of_block hm2.hr
     have HM2:=Lib.hid (And.intro hm2 e0)
     clear hm2 ho2 e0
     go_wp2
     refine bodyPost_ret (v:=.agg #[.slice fa2 p.funcs.length fc2,.slice aa2 p.args.length ac2,.int .i64 p.entry,.int .i64 p.handler,.slice da2 p.data.length dc2,.slice ra (p.banks.length+1) rc]) ?_ rfl (HM2.out.1.ret HM2.out.2 ?_)
     ·rw[zM rfl]
      go_simp
     ·have hw2:=HP.out.2.2
      have hn2:=HP.out.2.1
      have hf2:=HF.out
      have hpr:=HPR.out
      unfold wR rA
      rw[hn2,hf2,show yn q0=17 from hw2]
      rw[<-hpr]
      simp only[HI.out]
      rfl
    exact zS.nil
   exact zS.nil
  exact zS.nil
 exact zS.nil
open Go.RowKit
theorem lO {w:World}{V:PV}{p:IProg}(hp:ProgIn w w.heap.size V p)(hs:SmallP p){q0 q1 q2:Int}(hq:I64 q0/\I64 q1/\I64 q2):
 Calls Try.prog 19 #[yH V p,.agg #[.int .i64 q0,.int .i64 q1,.int .i64 q2]] w (pd w (wR p q0 q1 q2)):=by
 have h:=turnW_lt q0
 by_cases h1:yn q0<=12∨yn q0=19
 ·exact turned_d hp hs hq h1
 by_cases h2:yn q0=13
 ·exact jO hp hs hq h2
 by_cases h3:yn q0=14
 ·exact iT hp hs hq h3
 by_cases h4:yn q0=15
 ·exact jf hp hs hq h4
 by_cases h5:yn q0=16
 ·exact je hp hs hq h5
 by_cases h6:yn q0=17
 ·exact jX hp hs hq h6
 ·exact iE hp hs hq (by omega)
open Go.RowKit
theorem jP {w:World}{s:List Int}{sv:Value}(hs:zY w w.heap.size sv s):
 Calls Try.prog 44 #[sv] w (fun e w'=>∃V:PV,e=.returned (yH V (uR s))/\(∀W,StaysL w.heap.size w' W->ProgIn W W.heap.size V (uR s))/\Below w.heap.size w w'):=by
 obtain⟨sa,sc,hsv,_,_⟩:=hs.form
 subst hsv
 have HS:=Lib.hid hs
 have hmk:=mk_bank
 obtain⟨Z,hZ⟩:∃Z,madeCells #[Value.int .u8 0] 4096=Z:=⟨_,rfl⟩
 rw[hZ] at hmk
 have HZ:=Lib.hid hZ
 clear hs hZ
 go_enter Try.func44,Try.ntmps44
 go_upto_region 2 with fail
 generalize hW0:(w.alloc (.cells #[.slice none 0 0,.slice none 0 0,.int .i64 0,.int .i64 0,.slice none 0 0,.slice none 0 0] 29)).alloc (.cells Z 5)=W0
 have hzl:Z=((uQ 0).map wz).toArray:=by rw[<-HZ.out,yA,mM,List.map_replicate];rfl
 have hr0:W0.heap[w.heap.size]? =some (.cells #[.slice none 0 0,.slice none 0 0,.int .i64 0,.int .i64 0,.slice none 0 0,.slice none 0 0] 29 (0,0)):=by rw[<-hW0];exact zB (zI rfl)
 have hb0:W0.heap[w.heap.size+1]? =some (.cells ((uQ 0).map wz).toArray 5 (0,0)):=by rw[<-hW0,<-hzl];exact zI (by simp)
 have hbl0:Below w.heap.size w W0:=by rw[<-hW0];exact((Below.refl _ _).alloc (Nat.le_refl _) _).alloc (by simp) _
 have H0:=Lib.hid (And.intro hb0 (And.intro hr0 hbl0))
 obtain⟨rr,hrr⟩:∃rr,w.heap.size=rr:=⟨_,rfl⟩
 rw[hrr] at H0 ⊢
 obtain⟨bb,hbb⟩:∃bb,rr+1=bb:=⟨_,rfl⟩
 rw[hbb] at H0 ⊢
 have HBB:=Lib.hid (And.intro hrr hbb)
 clear hzl hr0 hb0 hbl0 hW0 hmk hrr hbb HZ
 go_wp2
 go_loopw [4] (fun kv wx=>∃k:Nat,k<=4096/\kv=.int .i64 (k:Int)/\Hid (wx.heap[bb]? =some (.cells ((uQ k).map wz).toArray 5 (0,0))/\wx.heap[rr]? =some (.cells #[.slice none 0 0,.slice none 0 0,.int .i64 0,.int .i64 0,.slice none 0 0,.slice none 0 0] 29 (0,0))/\Below rr w wx)) (fun kv _=>4096-(intOf kv).toNat)
 case atStart=>exact⟨0,Nat.zero_le _,rfl,H0⟩
 case round=>
  obtain⟨k,hk,rfl,HK⟩:=hrel
  by_cases hlt:k<4096
  ·have hltI:(k:Int)<4096:=by omega
   have HLT:=Lib.hid hlt
   obtain⟨x,hx⟩:∃x,(uQ k)[k]? =some x:=⟨_,List.getElem?_eq_getElem (by rw[pM];exact hlt)⟩
   have cx:wr.cell? ⟨bb,k,none⟩=some (.int .u8 (x:Int)):=zA HK.out.1 (by simp[hx,wz])
   have fx:wr.frozen? ⟨bb,k,none⟩=false:=zE HK.out.1
   have hlb:=lt_of_block HK.out.1
   have hq:k*k<=4095*4095:=Nat.mul_le_mul (by omega) (by omega)
   have hq0:(0:Int)<=(k:Int)*(k:Int):=by rw[<-Int.natCast_mul];exact Int.natCast_nonneg _
   have hq1:(k:Int)*(k:Int)<=16769025:=by rw[<-Int.natCast_mul];omega
   clear hlt hx hq
   go_wp2
   have e1:((k:Int)*(k:Int)+(k:Int)/256)%256=((rp k:Nat):Int):=by unfold rp;simp
   rw[e1]
   refine⟨⟨k+1,HLT.out,by go_num,Lib.hid ⟨?_,zR (a:=⟨bb,k,none⟩) HK.out.2.1 (by have:=HBB.out.2;show rr≠bb;omega),HK.out.2.2.setCell (by have:=HBB.out.2;show rr<=bb;omega) _⟩⟩,by have:=HLT.out;simp[intOf];omega⟩
   rw[zD HK.out.1,<-kC HLT.out]
   simp[List.map_set,wz]
  ·obtain rfl:k=4096:=by omega
   have hltI:¬(((4096:Nat):Int)<4096):=by omega
   have hblk:=HK.out.1
   rw[nu] at hblk
   have hcv:=pN hblk (n:=4096) (by unfold iu;simp)
   rw[mq] at hcv
   have hrl:=lt_of_block HK.out.2.1
   clear hlt hblk hk
   obtain⟨bank,hbank⟩:∃b,sG=b:=⟨_,rfl⟩
   rw[hbank] at hcv
   have HBK:=Lib.hid hbank
   clear hbank
   go_upto_region 9 with fail
   have hset:=md_setup (sv:=.slice sa s.length sc) HBB.out.1 HK.out.2.1 HK.out.2.2
   rw[HBK.out] at hset
   generalize (((wr.alloc (.cells #[.string bank] 9)).alloc (.cells #[.slice none 0 0,.slice none 0 0,.int .i64 0,.int .i64 (-1),.slice (some ⟨wr.heap.size+1+1,0,none⟩) 3 3,.slice (some ⟨wr.heap.size,0,none⟩) 1 1] 29)).alloc (.cells #[.int .i64 (-1),.int .u16 16384,.int .u16 16,.int .i64 (-1),.int .u16 16640,.int .u16 7,.int .i64 0,.int .u16 128,.int .u16 32] 51)).alloc (.cells #[.slice sa s.length sc,.int .i64 0,.pointer (some ⟨wr.heap.size+1,0,none⟩),.int .i64 0,.slice none 0 0,.int .i64 0,.int .i64 0,.slice none 0 0,.int .i64 0] 120)=W1 at *
   generalize wr.heap.size+1+1+1=pm at *
   generalize wr.heap.size+1+1=db at *
   generalize wr.heap.size+1=pp at *
   generalize wr.heap.size=sb at *
   have H1:=Lib.hid hset
   have hsz:=hset.bel.size
   have htk:Calls Try.prog 59 #[.pointer (some ⟨pm,0,none⟩),.int .i64 4] W1 (fun e w'=>∃z:Nat,z<4/\Hid (mdN s=1+z)/\e=.returned (.int .i64 (z:Int))/\Hid (MdHd w (.slice sa s.length sc) (.slice none 0 0) rr sb pp db pm (-1) (.slice none 0 0) [] 1 w')):=
    (tf hset.mkr rfl rfl (HS.out.below zO hset.bel) (n:=4) (by decide) (by decide) (by decide)).mono (fun e w' ⟨h1,h2,h3⟩=>⟨_,rX s 0 (by decide),Lib.hid rfl,h1,Lib.hid (hset.tick h2 h3)⟩)
   have HTK:=Lib.hid htk
   clear hset hcv hltI hrl htk
   go_upto_region 10 with(go_at_call 59;go_must (refine HTK.out.mono ?_;rintro e W2 ⟨z,hz4,HN,rfl,HM2⟩))
   obtain⟨n,hn⟩:∃n,1+z=n:=⟨_,rfl⟩
   have hnI:1+(z:Int)=(n:Int):=by omega
   rw[hnI]
   have hnN:mdN s=n:=HN.out.trans hn
   have hn4:1<=n/\n<=4:=by omega
   have HN:=Lib.hid hnN
   clear hnN hnI hn hz4 HTK H1 hsz
   go_wp2
   go_loopw [8] (fun kv wx=>∃(k:Nat) (av:Value),k<=n/\kv=.int .i64 (k:Int)/\Hid (MdHd w (.slice sa s.length sc) av rr sb pp db pm (-1) (.slice none 0 0) (yS s k) (sw k) wx)) (fun kv _=>n-(intOf kv).toNat)
   case atStart=>exact⟨0,_,Nat.zero_le _,rfl,HM2⟩
   case round=>
    obtain⟨k,av,hk,rfl,HK⟩:=hrel
    by_cases hlt:k<n
    ·have hltI:(k:Int)<(n:Int):=by omega
     obtain⟨ij,hij,hzj0,hzj1,hzj2⟩:=info_parts Try.info_int
     by_cases hk0:k=0
     ·have hkI:¬(0:Int)<(k:Int):=by omega
      have HK0:=Lib.hid hk0
      clear hk0
      obtain⟨aa,ac,hav⟩:=zG HK.out.own
      have hown:=HK.out.own
      rw[yY] at hav hown
      subst hav
      have hsz:=HK.out.bel.size
      have c1:=zA (i:=1) HK.out.prog rfl
      have hpl:=lt_of_block HK.out.prog
      have HO:=Lib.hid hown
      clear hown
      go_wp2_with (at_builtin;go_must (refine zK _ rfl (.tmp 61) (.tmp 63) 22 rfl w.heap.size 3 ij (.int .i64 0) 1 8 Try.underlying22 hij hzj0 hzj1 hzj2 rfl (by decide) (.slice aa k ac) k ((yS s k).map zN) rfl (HO.out.alloc _) _ 1 [zN 0] rfl (yM.one (zI rfl) rfl) (by unfold maxLen;omega) (by omega) (by simp;omega) ?_;intro v9 w9 hown9 hgrow9 hat9;obtain⟨ra9,rc9,rfl⟩:=zG hown9;have hp9:=zL hgrow9 (zB HK.out.prog) (zC HO.out HK.out.prog (.inr (by decide)));have p9c:=zA (i:=1) hp9 rfl;have p9f:w9.frozen? ⟨pp,1,none⟩=false:=zE hp9;have hp9l:=lt_of_block hp9;have HG:=Lib.hid (And.intro hown9 hgrow9);clear hown9 hgrow9 hat9 hp9))
      go_roundw
      case rel=>
       have hq:=HK.out.push (x:=0) (av':=.slice ra9 (k+1) rc9) HG.out.2 (by rw[yY];exact HG.out.1)
       refine⟨k+1,.slice ra9 (k+1) rc9,hlt,by go_num,Lib.hid ?_⟩
       have e1:yS s (k+1)=yS s k++ [0]:=by rw[qC,if_pos HK0.out]
       have e2:sw (k+1)=sw k:=by have:=HK0.out;subst this;rfl
       rw[e1,e2]
       exact hq
      case measure=>simp[intOf];omega
     ·have hkI:(0:Int)<(k:Int):=by omega
      have HK0:=Lib.hid hk0
      have htk:Calls Try.prog 59 #[.pointer (some ⟨pm,0,none⟩),.int .i64 4] wr (fun e w'=>∃z:Nat,z<4/\Hid (tk0 s k 4=z)/\e=.returned (.int .i64 (z:Int))/\Hid (MdHd w (.slice sa s.length sc) av rr sb pp db pm (-1) (.slice none 0 0) (yS s k) (k+1) w')):=by
       have e:sw k=k:=by unfold sw;rw[if_neg hk0]
       have hm:=HK.out
       rw[e] at hm
       exact(tf hm.mkr rfl rfl (HS.out.below zO hm.bel) (n:=4) (by decide) (by decide) (by omega)).mono (fun e w' ⟨h1,h2,h3⟩=>⟨_,rX s k (by decide),Lib.hid rfl,h1,Lib.hid (hm.tick h2 h3)⟩)
      have HTK:=Lib.hid htk
      clear hk0 htk
      go_upto_region 16 with(go_at_call 59;go_must (refine HTK.out.mono ?_;rintro e W3 ⟨z,hz4,HZ4,rfl,HM3⟩))
      obtain⟨aa,ac,hav⟩:=zG HM3.out.own
      have hown:=HM3.out.own
      rw[yY] at hav hown
      subst hav
      have hsz:=HM3.out.bel.size
      have c1:=zA (i:=1) HM3.out.prog rfl
      have hpl:=lt_of_block HM3.out.prog
      have HO:=Lib.hid hown
      clear hown
      go_wp2_with (at_builtin;go_must (refine zK _ rfl (.tmp 61) (.tmp 63) 22 rfl w.heap.size 3 ij (.int .i64 0) 1 8 Try.underlying22 hij hzj0 hzj1 hzj2 rfl (by decide) (.slice aa k ac) k ((yS s k).map zN) rfl (HO.out.alloc _) _ 1 [zN (z:Int)] rfl (yM.one (zI rfl) rfl) (by unfold maxLen;omega) (by omega) (by simp;omega) ?_;intro v9 w9 hown9 hgrow9 hat9;obtain⟨ra9,rc9,rfl⟩:=zG hown9;have hp9:=zL hgrow9 (zB HM3.out.prog) (zC HO.out HM3.out.prog (.inr (by decide)));have p9c:=zA (i:=1) hp9 rfl;have p9f:w9.frozen? ⟨pp,1,none⟩=false:=zE hp9;have hp9l:=lt_of_block hp9;have HG:=Lib.hid (And.intro hown9 hgrow9);clear hown9 hgrow9 hat9 hp9))
      go_roundw
      case rel=>
       have hq:=HM3.out.push (x:=(z:Int)) (av':=.slice ra9 (k+1) rc9) HG.out.2 (by rw[yY];exact HG.out.1)
       refine⟨k+1,.slice ra9 (k+1) rc9,hlt,by go_num,Lib.hid ?_⟩
       have e1:yS s (k+1)=yS s k++ [(z:Int)]:=by rw[qC,if_neg HK0.out,HZ4.out]
       have e2:sw (k+1)=k+1:=rfl
       rw[e1,e2]
       exact hq
      case measure=>simp[intOf];omega
    ·obtain rfl:n=k:=by omega
     have hltI:¬(n:Int)<(n:Int):=by omega
     have e:sw n=n:=by unfold sw;rw[if_neg (by omega)]
     have hmf:=mk_funcs n hn4.2
     have hfu:=HK.out
     rw[e] at hfu
     have p0:=zA (i:=0) hfu.prog rfl
     have p0f:wr.frozen? ⟨pp,0,none⟩=false:=zE hfu.prog
     have hpl:=lt_of_block hfu.prog
     have HF0:=Lib.hid (And.intro (hfu.funcs (.cells (List.replicate n (Value.slice none 0 0)).toArray 43) (.slice (some ⟨wr.heap.size,0,none⟩) n n)) (zI (W:=wr.setCell ⟨pp,0,none⟩ (.slice (some ⟨wr.heap.size,0,none⟩) n n)) (o:=.cells (List.replicate n (Value.slice none 0 0)).toArray 43) (B:=wr.heap.size) (by simp)))
     have hfB:=hfu.bel.size
     have harr:(List.replicate n (Value.slice none 0 0)).toArray=Array.replicate n (Value.slice none 0 0):=by simp
     rw[harr] at HF0 hmf
     clear harr
     clear hlt e hfu HK HM2
     go_upto_region 18 with fail
     generalize hW3:(wr.setCell ⟨pp,0,none⟩ (.slice (some ⟨wr.heap.size,0,none⟩) n n)).alloc (.cells (Array.replicate n (Value.slice none 0 0)) 43)=W3 at *
     generalize hfb:wr.heap.size=fb at *
     clear p0 p0f hmf hltI hW3
     obtain⟨m,hm⟩:∃m,n=m+1:=⟨n-1,by omega⟩
     have hnm:(n:Int)-1=(m:Int):=by omega
     have hmn:m<n:=by omega
     have hmn2:n-1=m:=by omega
     have HMN:=Lib.hid (And.intro hm hmn2)
     clear hm hmn2
     obtain⟨x,hx⟩:∃x,(yS s n)[m]? =some x:=⟨_,List.getElem?_eq_getElem (by rw[yY];exact hmn)⟩
     obtain⟨g,ac,e,hg1,hgl⟩:=HF0.out.1.own.form (by rw[yY];omega)
     rw[yY] at e
     subst e
     have c1:=zA (i:=1) HF0.out.1.prog rfl
     have hpl3:=lt_of_block HF0.out.1.prog
     have hxc:W3.cell? ⟨g,m,none⟩=some (.int .i64 x):=by
      have h0:=HF0.out.1.own
      rw[yY] at h0
      have h1:=h0.cellAt m (by omega)
      exact h1.trans (by rw[List.getElem?_map,hx];rfl)
     have hask:oJ s=(decide (1<n) && decide (x=0)):=by
      unfold oJ
      rw[HN.out,HMN.out.2,List.getD_eq_getElem?_getD,hx]
      rfl
     have hpmf:pm<W3.heap.size:=lt_of_block HF0.out.1.mkr
     have hfbl:fb<W3.heap.size:=lt_of_block HF0.out.2
     have hpf:fb≠pm:=fun e=>by
      have h1:=HF0.out.1.mkr
      have h2:=HF0.out.2
      rw[e,h1] at h2
      injection h2 with h3
      injection h3 with _ h4
      exact absurd h4 (by decide)
     have htk:Calls Try.prog 59 #[.pointer (some ⟨pm,0,none⟩),.int .i64 2] W3 (fun e w'=>∃z:Nat,z<2/\Hid (tk0 s n 2=z)/\e=.returned (.int .i64 (z:Int))/\Hid (MdHd w (.slice sa s.length sc) (.slice (some ⟨g,0,none⟩) n ac) rr sb pp db pm (-1) (.slice (some ⟨fb,0,none⟩) n n) (yS s n) (n+1) w'/\w'.heap[fb]? =some (.cells (Array.replicate n (Value.slice none 0 0)) 43 (0,0)))):=
      (tf HF0.out.1.mkr rfl rfl (HS.out.below zO HF0.out.1.bel) (n:=2) (by decide) (by decide) (by omega)).mono (fun e w' ⟨h1,h2,h3⟩=>⟨_,rX s n (by decide),Lib.hid rfl,h1,Lib.hid ⟨HF0.out.1.tick h2 h3,h3.blk HF0.out.2 hpf⟩⟩)
     have HTK:=Lib.hid htk
     have HAX:=Lib.hid (And.intro hask hx)
     have HPF:=Lib.hid hpf
     clear hask hx htk hpf
     have hn1b:1<n->decide ((1:Int)<(n:Int))=true/\decide (1<n)=true:=fun h=>⟨by rw[decide_eq_true_iff];omega,by rw[decide_eq_true_iff];exact h⟩
     have HN1B:=Lib.hid hn1b
     clear hn1b
     go_cut [89] (fun v wx=>∃b:Bool,v=.bool b/\Hid ((b=true↔oJ s=true/\tk0 s n 2=0)/\MdHd w (.slice sa s.length sc) (.slice (some ⟨g,0,none⟩) n ac) rr sb pp db pm (-1) (.slice (some ⟨fb,0,none⟩) n n) (yS s n) (sP s) wx/\wx.heap[fb]? =some (.cells (Array.replicate n (Value.slice none 0 0)) 43 (0,0))))
     case first=>
      by_cases h1:1<n
      ·have h1I:(1:Int)<(n:Int):=by omega
       obtain⟨h1a,h1b⟩:=HN1B.out h1
       by_cases hx0:x=0
       ·have hxb:(x==0)=true:=by rw[beq_iff_eq];exact hx0
        have hask:oJ s=true:=by rw[HAX.out.1];simp[h1,hx0]
        have HASK:=Lib.hid hask
        have HX0:=Lib.hid hx0
        clear hask hx0
        have hpos:sP s=n+1:=by unfold sP;rw[HASK.out,HN.out];rfl
        have HPOS:=Lib.hid hpos
        clear hpos
        by_cases hz0:tk0 s n 2=0
        ·have HZ0:=Lib.hid hz0
         clear hz0
         go_wp2_with (go_at_call 59;go_must (refine HTK.out.mono ?_;rintro e w4 ⟨z,hz2,HZ,rfl,HM4⟩;obtain rfl:z=0:=HZ.out.symm.trans HZ0.out))
         go_meet
         refine⟨true,rfl,Lib.hid ⟨⟨(fun _=>⟨HASK.out,HZ0.out⟩),(fun _=>rfl)⟩,?_,HM4.out.2⟩⟩
         rw[HPOS.out]
         exact HM4.out.1
        ·have HZ0:=Lib.hid hz0
         clear hz0
         go_wp2_with (go_at_call 59;go_must (refine HTK.out.mono ?_;rintro e w4 ⟨z,hz2,HZ,rfl,HM4⟩;have tz:((z:Int)==0)=false:=by rw[beq_eq_false_iff_ne];have:=HZ.out;have:=HZ0.out;omega))
         go_meet
         refine⟨false,rfl,Lib.hid ⟨⟨(fun e=>by cases e),(fun e=>absurd e.2 HZ0.out)⟩,?_,HM4.out.2⟩⟩
         rw[HPOS.out]
         exact HM4.out.1
       ·have hxb:(x==0)=false:=by rw[beq_eq_false_iff_ne];exact hx0
        have HX0:=Lib.hid hx0
        clear hx0
        go_wp2
        go_meet
        have hask:oJ s=false:=by rw[HAX.out.1];simp[HX0.out]
        refine⟨false,rfl,Lib.hid ⟨⟨(fun e=>by cases e),(fun e=>by rw[hask] at e;cases e.1)⟩,?_,HF0.out.2⟩⟩
        have e:sP s=n:=by unfold sP;rw[hask,HN.out];rfl
        rw[e]
        exact HF0.out.1
      ·have h1I:¬(1:Int)<(n:Int):=by omega
       have h1b:decide (1<n)=false:=by rw[decide_eq_false_iff_not];exact h1
       have h1a:decide ((1:Int)<(n:Int))=false:=by rw[decide_eq_false_iff_not];exact h1I
       go_wp2
       go_meet
       have hask:oJ s=false:=by rw[HAX.out.1,h1b];rfl
       refine⟨false,rfl,Lib.hid ⟨⟨(fun e=>by cases e),(fun e=>by rw[hask] at e;cases e.1)⟩,?_,HF0.out.2⟩⟩
       have e:sP s=n:=by unfold sP;rw[hask,HN.out];rfl
       rw[e]
       exact HF0.out.1
     case rest=>
     obtain⟨b,rfl,HB⟩:=hcut
     have HBB2:=Lib.hid HB
     clear c1 hpl3 hxc hpmf hfbl
     have p3:=zA (i:=3) HB.out.2.1.prog rfl
     have p3f:wc.frozen? ⟨pp,3,none⟩=false:=zE HB.out.2.1.prog
     have ppl:=lt_of_block HB.out.2.1.prog
     have HNX:=Lib.hid (And.intro (HB.out.2.1.hnd (m:Int)) (zR (a:=⟨pp,3,none⟩) (u:=.int .i64 (m:Int)) HB.out.2.2 (fun e=>by
      have h1:=HB.out.2.1.prog
      have h2:=HB.out.2.2
      rw[e] at h2
      rw[show(⟨pp,3,none⟩:Addr).block=pp from rfl,h1] at h2
      injection h2 with h3
      injection h3 with _ h4
      exact absurd h4 (by decide))))
     go_upto_if 89 with fail
     go_cut [] (fun wx=>Hid (MdHd w (.slice sa s.length sc) (.slice (some ⟨g,0,none⟩) n ac) rr sb pp db pm (vw s) (.slice (some ⟨fb,0,none⟩) n n) (yS s n) (sP s) wx/\wx.heap[fb]? =some (.cells (Array.replicate n (Value.slice none 0 0)) 43 (0,0))))
     case first=>
      cases b
      ·go_wp2
       go_meet
       have e:vw s=-1:=by unfold vw;rw[if_neg (fun e=>by rw[HN.out] at e;have:=HBB2.out.out.1.2 e;cases this)]
       rw[e]
       exact Lib.hid HBB2.out.out.2
      ·go_wp2
       go_meet
       have e:vw s=(m:Int):=by unfold vw;rw[HN.out,if_pos (HBB2.out.out.1.1 (by trivial)),HMN.out.2]
       rw[e]
       exact HNX
     case rest=>
     refine ‹∀(a:Act) (w:World),Code.wp Try.prog _ _ a w->_› _ _ ?_
     have hnN:=HN.out
     subst hnN
     exact j9 HS hcut hfB HMN.out.2 _ _ _ _ _ _ _ _ _ _ _ _ _ _ _ _ _ _ _ _ _ _ _ _ _ _ _ _ _ _ _ _ _ _ _ _ _ _ _ _ _ _ _ _ _ _ _ _ _ _ _ _ _ _ _ _ _ _ _ _ _ _ _ _ _ _ _ _ _ _ _ _ _ _ _ _ _ _ _ _ _ _ _ _ _ _ _ _ _ _ _ _ _ _ _ _ _ _ _ _ _ _ _ _ _ _ _ _ _ _ _ _ _ _ _ _ _ _ _ _ _ _ _ _ _ _ _ _ _ _ _ _ _ _ _ _ _ _ _ _ _ _ _ _ _ _ _ _ _ _ _ _ _ _ _ _ _ _ _ _ _ _ _ _ _ _ _ _ _ _ _ _ _ _ _ _ _ _ _ _ _ _ _ _ _ _ _ _ _ _ _ _ _ _ _ _
open Go.RowKit
theorem take_min (n m:Nat):∃k:Nat,(k:Int)=(if(m:Int)<(n:Int) then(m:Int) else(n:Int))/\k=min m n:=⟨min m n,by split<;>omega,rfl⟩
theorem lw {α:Type}{sz:Nat}{R:World->Nat->Nat->Nat->α->Prop}{w:World}{B:Nat}{a:Option Addr}{cap:Nat}{xs:List α}(h:yN sz R w B (.slice a xs.length cap) xs)(m:Nat):yN sz R w B (.slice a (min m xs.length) cap) (xs.take m):=by
 obtain⟨a',cap',e,h1,h2,h3⟩:=h
 cases e
 exact⟨a,cap,by rw[List.length_take],by rw[List.length_take];omega,h2,fun k x hk=>h3 k x (by rw[List.getElem?_take] at hk;split at hk;exact hk;cases hk)⟩
def oC (w:World)(p:IProg)(e:Ending)(w':World):Prop:=∃(fa:Option Addr) (fc:Nat) (aa:Option Addr) (ac:Nat) (da:Option Addr) (dc:Nat) (ba:Option Addr) (bc:Nat),e=.returned (.agg #[.slice fa p.funcs.length fc,.slice aa p.args.length ac,.int .i64 p.entry,.int .i64 p.handler,.slice da p.data.length dc,.slice ba p.banks.length bc])/\
 ProgIn w' w'.heap.size ⟨.slice fa p.funcs.length fc,.slice aa p.args.length ac,.slice da p.data.length dc,.slice ba p.banks.length bc⟩ p/\Below w.heap.size w w'
theorem nE {w w0:World}{V:PV}{p:IProg}(h:ProgIn w w.heap.size V p)(hb:Below w0.heap.size w0 w):oC w0 p (.returned (yH V p)) w:=by
 obtain⟨fa,fc,h1,_,_⟩:=h.funcs.form
 obtain⟨aa,ac,h2,_,_⟩:=h.args.form
 obtain⟨da,dc,h3,_,_⟩:=h.data.form
 obtain⟨ba,bc,h4,_,_⟩:=h.banks.form
 obtain⟨v1,v2,v3,v4⟩:=V
 simp only at h1 h2 h3 h4
 subst h1 h2 h3 h4
 exact⟨fa,fc,aa,ac,da,dc,ba,bc,rfl,h,hb⟩
theorem qu (w:World)(r o:Nat)(vs:List Value):Below r w (w.setCells r o vs):=
 ⟨(ze r vs o w).1,(ze r vs o w).2.1,(ze r vs o w).2.2,Nat.le_of_eq (y8 r vs o w).symm,fun k hk=>ye r k (by omega) vs o w⟩
theorem pJ {w:World}{r o L:Nat}{vs:List Value}(h:r<L):StaysL L w (w.setCells r o vs):=
 ⟨Nat.le_of_eq (y8 r vs o w).symm,⟨(ze r vs o w).1,(ze r vs o w).2.1,(ze r vs o w).2.2⟩,fun k hk _=>ye r k (by omega) vs o w⟩
theorem made_law {w:World}{s:List Int}{sv:Value}(hs:zY w w.heap.size sv s):Calls Try.prog 18 #[sv] w (oC w (uR (s.take 200))):=by
 obtain⟨sa,sc,rfl,hsc,hsm⟩:=hs.form
 obtain⟨k,hk,hkm⟩:=take_min s.length 200
 have hmin:∀(ts:Array TypeId) (t:TypeId) (W:World),(Builtin.min_ ts t #[.int .i64 (s.length:Int),.int .i64 200]).run Try.prog W=.ok (.int .i64 (k:Int)) W:=fun ts t W=>by rw[hk];exact run_min_int2 ..
 have hkc:(k:Int)<=(sc:Int):=by omega
 have ht:=lw hs 200
 rw[<-hkm] at ht
 have hm:∀W,Below w.heap.size w W->Calls Try.prog 44 #[.slice sa k sc] W (fun e w'=>oC W (uR (s.take 200)) e w'/\∃V,e=.returned (yH V (uR (s.take 200)))/\∀U,StaysL W.heap.size w' U->ProgIn U U.heap.size V (uR (s.take 200))):=fun W hb=>(jP ((ht.below zO hb).mono zO hb.size)).mono fun e w' ⟨V,he,hp,hbw⟩=>by
  subst he
  exact⟨nE (hp _ (StaysL.refl _ _)) hbw,V,rfl,hp⟩
 have hlen:(uR (s.take 200)).funcs.length<=4:=by rw[qA];exact(sm _).2
 generalize uR (s.take 200)=p at *
 have HM:=Lib.hid hm
 clear hm hk hkm ht hs
 have hb0:Below w.heap.size w (w.alloc (.cells #[.slice none 0 0,.slice none 0 0,.int .i64 0,.int .i64 0,.slice none 0 0,.slice none 0 0] 29)):=(Below.refl _ _).alloc (Nat.le_refl _) _
 have hx0:(w.alloc (.cells #[.slice none 0 0,.slice none 0 0,.int .i64 0,.int .i64 0,.slice none 0 0,.slice none 0 0] 29)).heap[w.heap.size]? =some (.cells #[.slice none 0 0,.slice none 0 0,.int .i64 0,.int .i64 0,.slice none 0 0,.slice none 0 0] 29 (0,0)):=zI rfl
 have H0:=Lib.hid (And.intro hb0 hx0)
 clear hb0 hx0
 go_enter Try.func18,Try.ntmps18
 go_wp2_with (go_at_call 44;go_must (refine(HM.out _ H0.out.1).mono ?_;rintro e w1 ⟨⟨fa,fc,aa,ac,da,dc,ba,bc,rfl,hp,hb1⟩,V,hV,hst⟩;have hx1:=zH hb1 H0.out.2 (lt_of_block H0.out.2);have c0:=zA (i:=0) hx1 rfl;have c1:=zA (i:=1) hx1 rfl;have c2:=zA (i:=2) hx1 rfl;have c3:=zA (i:=3) hx1 rfl;have c4:=zA (i:=4) hx1 rfl;have c5:=zA (i:=5) hx1 rfl;have cf:∀i,w1.frozen? ⟨w.heap.size,i,none⟩=false:=fun i=>zE hx1;have cl:=lt_of_block hx1;have HP:=Lib.hid (And.intro hp (And.intro hb1 (And.intro hx1 (And.intro hV hst))));clear hp hb1 hx1 hV hst))
 refine bodyPost_ret (v:=.agg #[.slice fa p.funcs.length fc,.slice aa p.args.length ac,.int .i64 p.entry,.int .i64 p.handler,.slice da p.data.length dc,.slice ba p.banks.length bc]) ?_ rfl ?_
 ·rw[zM rfl]
  go_simp
 ·have hbw:=H0.out.1.trans (HP.out.2.1.mono H0.out.1.size)
  have hs1:(w.alloc (.cells #[.slice none 0 0,.slice none 0 0,.int .i64 0,.int .i64 0,.slice none 0 0,.slice none 0 0] 29)).heap.size=w.heap.size+1:=by simp
  have hz:Below w.heap.size w1 (w1.setCells w.heap.size 0 [.slice fa p.funcs.length fc,.slice aa p.args.length ac,.int .i64 p.entry,.int .i64 p.handler,.slice da p.data.length dc,.slice ba p.banks.length bc]):=qu _ _ _ _
  have hU:=HP.out.2.2.2.2 _ (pJ (vs:=[.slice fa p.funcs.length fc,.slice aa p.args.length ac,.int .i64 p.entry,.int .i64 p.handler,.slice da p.data.length dc,.slice ba p.banks.length bc]) (o:=0) (w:=w1) (r:=w.heap.size) (by rw[hs1];omega))
  have hr:=nE hU (hbw.trans hz)
  rw[<-HP.out.2.2.2.1] at hr
  exact hr
open Go.RowKit
def i8 (w:World)(B b q:Nat)(x:Int):Prop:=w.cell? ⟨b,q,none⟩=some (.int .i64 x)
theorem xx:vV i8:=⟨fun w w' B b q x hB hb h=>zV hb hB h,fun w B B' b q x hB h=>h⟩
abbrev pg:=yN 1 i8
def RowCR (w:World)(B b q:Nat)(x:List Int):Prop:=∃v,w.cell? ⟨b,q,none⟩=some v/\pg w B v x
theorem yZ:vV RowCR:=
 ⟨fun w w' B b q x hB hb h=>by obtain⟨v,h1,h2⟩:=h;exact⟨v,zV hb hB h1,h2.below xx hb⟩,fun w B B' b q x hB h=>by obtain⟨v,h1,h2⟩:=h;exact⟨v,h1,h2.mono xx hB⟩⟩
abbrev RowsC:=yN 1 RowCR
theorem mf {w:World}{B:Nat}{v:Value}{xs:List Int}(h:w.ownsRow B 3 1 v xs.length (xs.map zN)):pg w w.heap.size v xs:=by
 have h2:w.ownsRow B 3 1 v xs.length (xs.flatMap fun x=> [zN x]):=by rw[<-List.map_eq_flatMap];exact h
 have:=wC (sz:=1) (f:=fun x:Int=> [zN x]) (R:=i8) (g:=fun x:Int=>x) (by decide) (fun _=>rfl) h2 (fun q hq b o hc=>hc 0 _ rfl)
 rw[List.map_id'] at this
 exact this
theorem iW {w:World}{B:Nat}{v:Value}{rows:List (List Int)}(h:pV w B v rows):RowsC w w.heap.size v rows:=by
 obtain⟨l,rfl,hr⟩:=h
 have h1:w.ownsRow B 22 1 v l.length (l.flatMap fun q=> [q.2]):=by rw[<-List.map_eq_flatMap];exact hr.own _ (.head _)
 exact wC (sz:=1) (f:=fun q:GR=> [q.2]) (R:=RowCR) (g:=fun q:GR=>q.1) (by decide) (fun _=>rfl) h1 (fun q hq b o hc=>⟨q.2,hc 0 _ rfl,mf (hr.own (zP q.2 q.1) (.tail _ (show zP q.2 q.1∈sp l from List.mem_map_of_mem (f:=fun q:GR=>zP q.2 q.1) hq)))⟩)
theorem kE {w:World}{B bp:Nat}{rows:List (List Int)}(h:OwnRows zN 3 22 w B bp rows)(hl:rows.length<=9223372036854775807):RowsC w w.heap.size (.slice (some ⟨bp,0,none⟩) rows.length rows.length) rows:=by
 obtain⟨vs,hb,hvl,ho,_⟩:=h
 refine⟨_,_,rfl,Nat.le_refl _,hl,fun k row hk=>⟨bp,0,rfl,lt_of_block hb,?_⟩⟩
 have hkl:=(List.getElem?_eq_some_iff.1 hk).1
 obtain⟨v,hv⟩:∃v,vs[k]? =some v:=⟨_,List.getElem?_eq_getElem (by omega)⟩
 refine⟨v,?_,mf (ho k row v hk hv)⟩
 rw[Nat.mul_one,Nat.zero_add]
 exact zA hb (by simpa using hv)
def TuRet2 (w:World)(p:IProg)(e:Ending)(w':World):Prop:=∃(fa:Option Addr) (fc:Nat) (aa:Option Addr) (ac:Nat) (da:Option Addr) (dc:Nat) (ba:Option Addr) (bc:Nat),e=.returned (.agg #[.slice fa p.funcs.length fc,.slice aa p.args.length ac,.int .i64 p.entry,.int .i64 p.handler,.slice da p.data.length dc,.slice ba p.banks.length bc])/\
 (∀U,StaysL w.heap.size w' U->ProgIn U U.heap.size ⟨.slice fa p.funcs.length fc,.slice aa p.args.length ac,.slice da p.data.length dc,.slice ba p.banks.length bc⟩ p)/\Below w.heap.size w w'
theorem kU {w:World}{V:PV}{p:IProg}(hp:ProgIn w w.heap.size V p)(hs:SmallP p){q0 q1 q2:Int}(hq:I64 q0/\I64 q1/\I64 q2):
 Calls Try.prog 19 #[yH V p,.agg #[.int .i64 q0,.int .i64 q1,.int .i64 q2]] w (TuRet2 w (wR p q0 q1 q2)):=by
 have h64:=turn_64 hp.p64 q0 q1 q2
 refine(lO hp hs hq).mono ?_
 generalize wR p q0 q1 q2=p' at *
 rintro e w' ⟨t,rfl,ht,hr,hb⟩
 subst ht
 obtain⟨fa,fc,h1,_,_⟩:=(PT.in hr h64).funcs.form
 obtain⟨aa,ac,h2,_,_⟩:=(PT.in hr h64).args.form
 obtain⟨da,dc,h3,_,_⟩:=(PT.in hr h64).data.form
 obtain⟨ba,bc,h4,_,_⟩:=(PT.in hr h64).banks.form
 refine⟨fa,fc,aa,ac,da,dc,ba,bc,?_,fun U hU=>?_,hb⟩
 ·unfold yH
  rw[h1,h2,h3,h4]
 ·have:=PT.in (hr.keep (w':=U) fun k hk=>hU.kept k (hr.lt hk).1 (hr.lt hk).2) h64
  rw[<-h1,<-h2,<-h3,<-h4]
  exact this
theorem StaysL.alloc {L:Nat}{w W:World}(h:StaysL L w W)(o:Obj):StaysL L w (W.alloc o):=
 ⟨by simp;exact Nat.le_succ_of_le h.size,h.rest,fun k h1 h2=>(Below.heap_alloc _ _ k (Nat.lt_of_lt_of_le h2 h.size)).trans (h.kept k h1 h2)⟩
theorem sets6 {w:World}{b:Nat}{u0 u1 u2 u3 u4 u5:Value}{t:TypeId}(v0 v1 v2 v3 v4 v5:Value)(h:w.heap[b]? =some (.cells #[u0,u1,u2,u3,u4,u5] t (0,0))):
 ((((((w.setCell ⟨b,0,none⟩ v0).setCell ⟨b,1,none⟩ v1).setCell ⟨b,2,none⟩ v2).setCell ⟨b,3,none⟩ v3).setCell ⟨b,4,none⟩ v4).setCell ⟨b,5,none⟩ v5).heap[b]? =some (.cells #[v0,v1,v2,v3,v4,v5] t (0,0)):=by
 have h0:=zD h v0 (i:=0)
 have h1:=zD h0 v1 (i:=1)
 have h2:=zD h1 v2 (i:=2)
 have h3:=zD h2 v3 (i:=3)
 have h4:=zD h3 v4 (i:=4)
 have h5:=zD h4 v5 (i:=5)
 simpa using h5
def jL (w0:World)(p:IProg)(v:Value)(wx:World):Prop:=∃(b8:Nat) (fa:Option Addr) (fc:Nat) (aa:Option Addr) (ac:Nat) (da:Option Addr) (dc:Nat) (ba:Option Addr) (bc:Nat),v=.pointer (some ⟨b8,0,none⟩)/\Hid (w0.heap.size<=b8/\wx.heap[b8]? =some (.cells #[.slice fa p.funcs.length fc,.slice aa p.args.length ac,.int .i64 p.entry,.int .i64 p.handler,.slice da p.data.length dc,.slice ba p.banks.length bc] 29 (0,0))/\ProgIn wx wx.heap.size ⟨.slice fa p.funcs.length fc,.slice aa p.args.length ac,.slice da p.data.length dc,.slice ba p.banks.length bc⟩ p/\Below w0.heap.size w0 wx)
theorem kD {w0 w2:World}{L:Nat}{p:IProg}{fa aa da ba:Option Addr}{fc ac dc bc:Nat}(hz:Below w0.heap.size w0 w2)(hp:∀U,StaysL L w2 U->ProgIn U U.heap.size ⟨.slice fa p.funcs.length fc,.slice aa p.args.length ac,.slice da p.data.length dc,.slice ba p.banks.length bc⟩ p):
 jL w0 p (.pointer (some ⟨w2.heap.size,0,none⟩)) (w2.alloc (.cells #[.slice fa p.funcs.length fc,.slice aa p.args.length ac,.int .i64 p.entry,.int .i64 p.handler,.slice da p.data.length dc,.slice ba p.banks.length bc] 29)):=
 ⟨_,fa,fc,aa,ac,da,dc,ba,bc,rfl,Lib.hid ⟨hz.size,zI rfl,hp _ ((StaysL.refl _ _).alloc _),hz.alloc hz.size _⟩⟩
theorem qx {w0 w2:World}{L b8:Nat}{p:IProg}{fa aa da ba:Option Addr}{fc ac dc bc:Nat}{u0 u1 u2 u3 u4 u5:Value}(hz:Below w0.heap.size w0 w2)(hp:∀U,StaysL L w2 U->ProgIn U U.heap.size ⟨.slice fa p.funcs.length fc,.slice aa p.args.length ac,.slice da p.data.length dc,.slice ba p.banks.length bc⟩ p)
 (h:w2.heap[b8]? =some (.cells #[u0,u1,u2,u3,u4,u5] 29 (0,0))) (hL:b8<L) (h0:w0.heap.size<=b8):
 jL w0 p (.pointer (some ⟨b8,0,none⟩)) ((((((w2.setCell ⟨b8,0,none⟩ (.slice fa p.funcs.length fc)).setCell ⟨b8,1,none⟩ (.slice aa p.args.length ac)).setCell ⟨b8,2,none⟩ (.int .i64 p.entry)).setCell ⟨b8,3,none⟩ (.int .i64 p.handler)).setCell ⟨b8,4,none⟩ (.slice da p.data.length dc)).setCell ⟨b8,5,none⟩ (.slice ba p.banks.length bc)):=
 ⟨_,fa,fc,aa,ac,da,dc,ba,bc,rfl,Lib.hid ⟨h0,sets6 _ _ _ _ _ _ h,hp _ (pJ (o:=0) (vs:=[.slice fa p.funcs.length fc,.slice aa p.args.length ac,.int .i64 p.entry,.int .i64 p.handler,.slice da p.data.length dc,.slice ba p.banks.length bc]) hL),hz.trans ((qu w2 b8 0 [.slice fa p.funcs.length fc,.slice aa p.args.length ac,.int .i64 p.entry,.int .i64 p.handler,.slice da p.data.length dc,.slice ba p.banks.length bc]).mono h0)⟩⟩
end Go.Proofs.Ytojclalkfhoooaa
