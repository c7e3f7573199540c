/- Part of a proof. -/
import Derived.Test.YtoahcpkibpomcaaGreatGQRam
set_option linter.all false
set_option maxHeartbeats 16000000
set_option maxRecDepth 100000
namespace Go.Proofs.YtoahcpkibpomcaaGreat
open Go.RowKit
variable {c i x:Int}{N f j k vb:Nat}{w w' w0:World}{K:SK}{o:IOp}{g:List (List Nat)}{m m' m2:Mach}{d d':wO}{bl blocks:List IBlk}{call:Int->List Nat->Mach->Res Nat}
theorem ruG_ge(h:ruG c=some f):3<=c:=by
 by_cases d:3<=c
 ·exact d
 ·simp only[ruG,putR] at h
  iterate 17 rw[if_neg Zo] at h
  cases h
theorem afM{p:IProg}{t:List IBlk}{s:Slv}(h:SlvAt w K p t k s)(av:Value)(h1:o.code≠1)(h2:o.code≠2)(l:I64 o.code)(hr:ruG o.code=none):
 O 96 #[F K.sb,aam o av] w (tg w (na p s o)):=by
 rw[show na p s o=zx by unfold na;rw[if_neg h1,if_neg h2];unfold em;rw[ruG_none hr]];obtain⟨c,d,a,b,n,al⟩:=o;have h1:c≠1:=h1;have h2:c≠2:=h2;have e1:(c==1)=false:=by simpa using h1
 have e2:(c==2)=false:=by simpa using h2
 have hr:ruG c=none:=hr
 have u:=Ja (show ∀W,Q w W->(Instr.lookup 95 (.map (some K.rm)) (I c) true).run Tryz.prog W=.ok (.tuple #[.nilFunc,.bool false]) W from fun W hb=>by
  have:=(h.below hb).map.lookOk l
  rw[hr] at this;exact this)
 have x:=Ja (show ∀W,Q w W->T W K.sb 7 (.map (some K.rm)) from fun W hb=>(h.below hb).cells.2.1);unfold aam;clear h h1 h2 l hr;go_enter Tryz.func96,Tryz.ntmps96;go_upto_region 6 with(go_at_call 999999;skip)
 obtain⟨X,q⟩:∃X,(w.alloc (G #[I c,I d,I a,I b,M n,av] 76)).alloc (G #[M 0,M 0] 45)=X:=⟨_,rfl⟩
 have f:=Ja (show Q w X/\A X w.heap.size #[I c,I d,I a,I b,M n,av] 76/\A X (w.heap.size+1) #[M 0,M 0] 45 from by
  rw[<-q];exact⟨by repeat' (first|exact Below.refl _ _|(refine Below.alloc ?_ (by first|(simp;done)|(simp;omega)) _)),zB (zI rfl),zI Zs⟩)
 rw[q];clear q;have m:=Ja (show ∀W,Q X W->T W K.sb 7 (.map (some K.rm))/\T W w.heap.size 0 (I c) from fun W hb=>⟨x.out W (f.out.1.trans (hb.mono f.out.1.size)),zA (zH hb f.out.2.1 (lt_of_block f.out.2.1)) rfl⟩);obtain⟨c0,c1⟩:=m.out X (Below.refl _ _);have hl:=u.out X.drew f.out.1.drew
 go_region_held3 (fun w'=>T w' K.sb 7 (.map (some K.rm))/\T w' w.heap.size 0 (I c)) ((refine m.out _ ?_;repeat' (first|with_reducible exact Below.refl _ _|with_reducible assumption|with_reducible refine Below.drew ?_)))
  (fail)
 all_goals go_wp2_with (go_at_call 39;go_must (refine(q6 _).mono ?_;rintro e w1 ⟨rfl,j⟩;have g:Q X w1:=Below.trans (show Q X _ from by repeat' (first|with_reducible exact Below.refl _ _|with_reducible refine Below.drew ?_)) (j.mono (Je _));clear j;have hk:=zH g f.out.2.2 (lt_of_block f.out.2.2);have f0:=zA (i:=0) hk rfl;have f1:=zA (i:=1) hk rfl;have g0:=zE (i:=0) hk;have g1:=zE (i:=1) hk;have y:=lt_of_block hk;have a0:=f.out.1.trans (g.mono f.out.1.size)))
 all_goals (refine bodyPost_ret (v:=.agg #[M 0,M 65535]) ?_ rfl ⟨rfl,by repeat' (first|exact Below.refl _ _|assumption|(refine Below.drew ?_)|(refine Below.alloc ?_ (by first|(simp;done)|(simp;omega)) _)|(refine Below.setCell ?_ (by first|(simp;done)|(simp;omega)) _))⟩;rw[zM rfl];go_simp)
theorem ruG_mem(h:ruG c=some f):f=70∨f=72∨f=73∨f=74∨f=75∨f=77∨f=78∨f=79∨f=81∨f=82∨f=84∨f=85∨f=86∨f=88∨f=89∨f=90∨f=91:=by
 simp only[ruG,putR] at h
 by_cases d:c=23
 ·rw[if_pos d] at h;cases h;simp
 rw[if_neg d] at h
 by_cases g:c=19
 ·rw[if_pos g] at h;cases h;simp
 rw[if_neg g] at h
 by_cases i:c=17
 ·rw[if_pos i] at h;cases h;simp
 rw[if_neg i] at h
 by_cases j:c=16
 ·rw[if_pos j] at h;cases h;simp
 rw[if_neg j] at h
 by_cases k:c=15
 ·rw[if_pos k] at h;cases h;simp
 rw[if_neg k] at h
 by_cases l:c=14
 ·rw[if_pos l] at h;cases h;simp
 rw[if_neg l] at h
 by_cases m:c=13
 ·rw[if_pos m] at h;cases h;simp
 rw[if_neg m] at h
 by_cases o:c=12
 ·rw[if_pos o] at h;cases h;simp
 rw[if_neg o] at h
 by_cases q:c=11
 ·rw[if_pos q] at h;cases h;simp
 rw[if_neg q] at h
 by_cases t:c=10
 ·rw[if_pos t] at h;cases h;simp
 rw[if_neg t] at h
 by_cases u:c=9
 ·rw[if_pos u] at h;cases h;simp
 rw[if_neg u] at h
 by_cases w:c=8
 ·rw[if_pos w] at h;cases h;simp
 rw[if_neg w] at h
 by_cases x:c=7
 ·rw[if_pos x] at h;cases h;simp
 rw[if_neg x] at h
 by_cases y:c=6
 ·rw[if_pos y] at h;cases h;simp
 rw[if_neg y] at h
 by_cases h5:c=5
 ·rw[if_pos h5] at h;cases h;simp
 rw[if_neg h5] at h
 by_cases h4:c=4
 ·rw[if_pos h4] at h;cases h;simp
 rw[if_neg h4] at h
 by_cases h3:c=3
 ·rw[if_pos h3] at h;cases h;simp
 rw[if_neg h3] at h;cases h
theorem appF_by{x y r:Rg}(hr:n5 c x y=some r):em c x y=if(decide (c<=17) && (yf x && (((c==3)||(c==4))||yf y)))=true then(if exF c y.lo=true then pt (exV c x.lo y.lo) else zx) else r:=by
 unfold em;rw[hr];simp only[Jm,Bool.or_eq_true,decide_eq_true_eq,beq_iff_eq]
 split
 ·unfold exF exV;simp only[decide_eq_true_eq]
  by_cases h:c=8/\y.lo=0
  ·rw[if_pos h,if_neg (fun k=>k h)]
  ·rw[if_neg h,if_pos h,if_neg h]
 ·rfl
theorem afO{p:IProg}{d9:List IBlk}{s:Slv}(h:SlvAt w K p d9 k s)(av:Value)(h1:o.code≠1)(h2:o.code≠2)(h64:I64 o.code)(hr:ruG o.code=some f)
 (ha:0<=o.a/\o.a<K.n) (hb:0<=o.b/\o.b<K.n):
 O 96 #[F K.sb,aam o av] w (tg w (na p s o)):=by
 rw[show na p s o=em o.code (s.get o.a) (s.get o.b) by unfold na;rw[if_neg h1,if_neg h2]];obtain⟨c,d,a,b,n,al⟩:=o;have h1:c≠1:=h1;have h2:c≠2:=h2;have e1:(c==1)=false:=by simpa using h1
 have e2:(c==2)=false:=by simpa using h2
 have hr:ruG c=some f:=hr;have h64:I64 c:=h64;have ha:0<=a/\a<K.n:=ha;have hb:0<=b/\b<K.n:=hb
 show Calls _ _ _ _ (tg w (em c (s.get a) (s.get b)))
 have b5:=fun(W:World) (hW:Below w.heap.size w W)=>(h.below hW).rcell ha
 have b4:=fun(W:World) (hW:Below w.heap.size w W)=>(h.below hW).rcell hb
 have c9:=h.oks.get a;have c8:=h.oks.get b;obtain⟨u,rfl⟩:∃u:Nat,a=u:=⟨a.toNat,by omega⟩
 obtain⟨v,rfl⟩:∃v:Nat,b=v:=⟨b.toNat,by omega⟩
 generalize s.get (u:Int)=x at *;generalize s.get (v:Int)=y at *;have hn:=h.n64;have hu:u<K.n:=Zo;have hv:v<K.n:=Zo
 have HL:=Ja (show ∀W,Below w.heap.size w W->(Instr.lookup 95 (.map (some K.rm)) (I c) true).run Tryz.prog W=.ok (.tuple #[.func (.func f) #[] #[],.bool true]) W from fun W hb=>by
  have:=(h.below hb).map.lookOk h64
  rw[hr] at this;exact this)
 have HC:=Ja (show ∀W,Below w.heap.size w W->T W K.sb 7 (.map (some K.rm))/\T W K.sb 8 (L K.rb K.n K.n)/\T W K.rb (u*2) (M (x.lo:Int))/\T W K.rb (u*2+1) (M (x.hi:Int))/\T W K.rb (v*2) (M (y.lo:Int))/\T W K.rb (v*2+1) (M (y.hi:Int)) from fun W hb=>⟨(h.below hb).cells.2.1,(h.below hb).cells.2.2.1,(b5 W hb).1,(b5 W hb).2,(b4 W hb).1,(b4 W hb).2⟩);obtain⟨R,hR⟩:∃R,em c x y=R:=⟨_,rfl⟩
 have HP:=Ja (Jb hr (Jb c9 (Jb c8 hR)));rw[hR];unfold aam;clear h h1 h2 h64 hr b5 b4 c9 c8 ha hb hR;go_enter Tryz.func96,Tryz.ntmps96;go_upto_region 6 with(go_at_call 999999;skip)
 obtain⟨X,hX⟩:∃X,(w.alloc (G #[I c,I d,I u,I v,M n,av] 76)).alloc (G #[M 0,M 0] 45)=X:=⟨_,rfl⟩
 have HX:=Ja (show Below w.heap.size w X/\A X w.heap.size #[I c,I d,I u,I v,M n,av] 76/\A X (w.heap.size+1) #[M 0,M 0] 45 from by
  rw[<-hX];exact⟨by repeat' (first|exact Below.refl _ _|(refine Below.alloc ?_ (by first|(simp;done)|(simp;omega)) _)),zB (zI rfl),zI Zs⟩)
 rw[hX];clear hX;have b9:=Ja (show ∀W,Below X.heap.size X W->T W K.sb 7 (.map (some K.rm))/\T W w.heap.size 0 (I c) from fun W hb=>⟨(HC.out W (HX.out.1.trans (hb.mono HX.out.1.size))).1,zA (zH hb HX.out.2.1 (lt_of_block HX.out.2.1)) rfl⟩);have b6:=Ja (show ∀W,Below X.heap.size X W->(T W w.heap.size 2 (I u)/\T W w.heap.size 3 (I v))/\(T W K.sb 8 (L K.rb K.n K.n)/\T W K.rb (u*2) (M (x.lo:Int))/\T W K.rb (u*2+1) (M (x.hi:Int))/\T W K.rb (v*2) (M (y.lo:Int))/\T W K.rb (v*2+1) (M (y.hi:Int))) from fun W hb=>⟨⟨zA (zH hb HX.out.2.1 (lt_of_block HX.out.2.1)) rfl,zA (zH hb HX.out.2.1 (lt_of_block HX.out.2.1)) rfl⟩,(HC.out W (HX.out.1.trans (hb.mono HX.out.1.size))).2⟩);obtain⟨c0,c1⟩:=b9.out X (Below.refl _ _);have hl:=HL.out X.drew HX.out.1.drew
 go_region_held3 (fun w'=>T w' K.sb 7 (.map (some K.rm))/\T w' w.heap.size 0 (I c)) ((refine b9.out _ ?_;repeat' (first|with_reducible exact Below.refl _ _|with_reducible assumption|with_reducible refine Below.drew ?_)))
  (fail)
 all_goals go_upto_region 9 with(go_at_call 999999;skip)
 all_goals clear c0 c1 hl
 go_cut [7,8] (fun s t wx=>∃b7 b8,s=F b7/\t=F b8/\Hid (A wx b7 #[M (x.lo:Int),M (x.hi:Int)] 45/\A wx b8 #[M (y.lo:Int),M (y.hi:Int)] 45/\Below X.heap.size X wx))
 case first=>
  obtain⟨⟨c0,c1⟩,c2,c3,c4,c5,c6⟩:=b6.out X.drew (Below.refl _ _).drew
  go_region_held3 (fun w'=>(T w' w.heap.size 2 (I u)/\T w' w.heap.size 3 (I v))/\(T w' K.sb 8 (L K.rb K.n K.n)/\T w' K.rb (u*2) (M (x.lo:Int))/\T w' K.rb (u*2+1) (M (x.hi:Int))/\T w' K.rb (v*2) (M (y.lo:Int))/\T w' K.rb (v*2+1) (M (y.hi:Int)))) ((refine b6.out _ ?_;repeat' (first|with_reducible exact Below.refl _ _|with_reducible assumption|with_reducible refine Below.drew ?_|with_reducible refine Below.alloc ?_ Zn _|with_reducible refine Below.setCell ?_ Zn _)))
  (fail)
  all_goals go_wp2_with fail
  all_goals go_meet
  all_goals exact⟨_,_,rfl,rfl,by first|exact zB (zI rfl)|exact zI Zs,by first|exact zB (zI rfl)|exact zI Zs,by repeat' (first|with_reducible exact Below.refl _ _|with_reducible assumption|with_reducible refine Below.drew ?_|with_reducible refine Below.alloc ?_ Zn _|with_reducible refine Below.setCell ?_ Zn _)⟩
 case rest=>
  obtain⟨b7,b8,rfl,rfl,HY⟩:=hcut
  rename World=>Y
  have d0:=HX.out.1.trans (HY.out.2.2.mono HX.out.1.size);have d1:=zH HY.out.2.2 HX.out.2.2 (lt_of_block HX.out.2.2);have d2:=zH HY.out.2.2 HX.out.2.1 (lt_of_block HX.out.2.1);have HB:=Ja (Jb d0 (Jb d2 d1));clear d0 d1 d2 b6 b9 HC HL;have HZ:=Ja (show ∀W,Below Y.heap.size Y W->T W b7 0 (M (x.lo:Int))/\T W b7 1 (M (x.hi:Int))/\T W b8 0 (M (y.lo:Int))/\T W b8 1 (M (y.hi:Int))/\T W w.heap.size 0 (I c) from fun W hb=>⟨zA (zH hb HY.out.1 (lt_of_block HY.out.1)) rfl,zA (zH hb HY.out.1 (lt_of_block HY.out.1)) rfl,zA (zH hb HY.out.2.1 (lt_of_block HY.out.2.1)) rfl,zA (zH hb HY.out.2.1 (lt_of_block HY.out.2.1)) rfl,zA (zH hb HB.out.2.1 (lt_of_block HB.out.2.1)) rfl⟩);obtain⟨q3,h3⟩:∃q,(c==3)=q:=⟨_,rfl⟩
  obtain⟨q4,h4⟩:∃q,(c==4)=q:=⟨_,rfl⟩
  obtain⟨z0,z1,z2,z3,z4⟩:=HZ.out Y (Below.refl _ _);go_upto_region 10 with(go_at_call 999999;skip)
  go_cut [9] (fun s wx=>s=.bool (q3||q4)/\wx=Y)
  case first=>
   cases q3;cases q4
   all_goals go_wp2_with fail
   all_goals go_meet
   all_goals exact⟨rfl,rfl⟩
  case rest=>
   obtain⟨rfl,c7⟩:=hcut;rw[c7];clear c7;obtain⟨q9,h9⟩:∃q,(q3||q4)=q:=⟨_,rfl⟩
   obtain⟨sx,a7⟩:∃q,yf x=q:=⟨_,rfl⟩
   obtain⟨sy,a6⟩:∃q,yf y=q:=⟨_,rfl⟩
   obtain⟨Q,hQ⟩:∃Q,(decide (c<=17) && (sx && (q9||sy)))=Q:=⟨_,rfl⟩
   have a5:=Ja (fun W=>m5 W x);have d6:=Ja (fun W=>m5 W y);rw[a7] at a5;rw[a6] at d6;rw[h9];go_upto_region 11 with(go_at_call 999999;skip)
   have HQ:=Ja (Jb h3 (Jb h4 (Jb h9 (Jb a7 (Jb a6 hQ)))));clear h3 h4 h9 a7 a6
   go_cut [85] (fun s wx=>s=.bool Q/\Hid (Below Y.heap.size Y wx))
   case first=>
    by_cases d4:c<=17
    ·rw[decide_eq_true d4,Bool.true_and] at hQ;cases sx
     ·go_wp2_with (go_at_call 83;go_must (refine(a5.out _).mono ?_;rintro e w1 ⟨rfl,g⟩))
      go_meet;exact⟨by rw[<-hQ];rfl,g⟩
     ·cases q9
      ·go_wp2_with (go_at_call 83;go_must (first|(refine(a5.out Y).mono ?_;rintro e w1 ⟨rfl,g⟩;obtain⟨z0,z1,z2,z3,z4⟩:=HZ.out w1 g)|(refine(d6.out _).mono ?_;rintro e w2 ⟨rfl,a2⟩)))
       go_meet;exact⟨by rw[<-hQ];rfl,g.trans (a2.mono g.size)⟩
      ·go_wp2_with (go_at_call 83;go_must (refine(a5.out _).mono ?_;rintro e w1 ⟨rfl,g⟩))
       go_meet;exact⟨by rw[<-hQ];rfl,g⟩
    ·rw[decide_eq_false d4,Bool.false_and] at hQ;subst hQ;go_wp2_with fail;go_meet;exact⟨rfl,Below.refl _ _⟩
   case rest=>
    obtain⟨rfl,HW⟩:=hcut
    rename World=>Z
    have d3:=HB.out.1.trans (HW.out.mono HB.out.1.size);have b0:=zH HW.out HB.out.2.2 (lt_of_block HB.out.2.2);have l:=Ja (Jb d3 b0);clear d3 b0;obtain⟨r,a3,_⟩:=af1 HP.out.1 HP.out.2.1 HP.out.2.2.1 Z
    have HF:=Ja (show ∀W,O f #[.agg #[M (x.lo:Int),M (x.hi:Int)],.agg #[M (y.lo:Int),M (y.hi:Int)]] W (fun e w'=>e=.returned (.agg #[M (r.lo:Int),M (r.hi:Int)])/\Below W.heap.size W w') from fun W=>by
     obtain⟨r',h1,h2⟩:=af1 HP.out.1 HP.out.2.1 HP.out.2.2.1 W;rw[a3] at h1;cases h1
     exact h2)
    have hR:=appF_by a3;rw[HP.out.2.2.2,HQ.out.1,HQ.out.2.1,HQ.out.2.2.1,HQ.out.2.2.2.1,HQ.out.2.2.2.2.1,HQ.out.2.2.2.2.2] at hR;have d8:=ruG_ge HP.out.1;clear z0 z1 z2 z3 z4;obtain⟨z0,z1,z2,z3,z4⟩:=HZ.out Z HW.out;cases Q
    ·rw[if_neg Zd] at hR;subst hR;clear a3;rcases ruG_mem HP.out.1 with rfl|rfl|rfl|rfl|rfl|rfl|rfl|rfl|rfl|rfl|rfl|rfl|rfl|rfl|rfl|rfl|rfl
     ·go_wp2_with (go_at_call 70;go_must (refine(HF.out _).mono ?_;rintro e w1 ⟨rfl,g⟩;have j:Below Z.heap.size Z w1:=Below.trans (show Below Z.heap.size Z _ from by repeat' (first|with_reducible exact Below.refl _ _|with_reducible refine Below.drew ?_)) (g.mono (Je _));clear g;have hk:=zH j l.out.2 (lt_of_block l.out.2);have f0:=zA (i:=0) hk rfl;have f1:=zA (i:=1) hk rfl;have g0:=zE (i:=0) hk;have g1:=zE (i:=1) hk;have m:=lt_of_block hk;have a0:=l.out.1.trans (j.mono l.out.1.size)))
      refine bodyPost_ret (v:=.agg #[M (R.lo:Int),M (R.hi:Int)]) ?_ rfl ⟨rfl,by repeat' (first|exact Below.refl _ _|assumption|(refine Below.drew ?_)|(refine Below.alloc ?_ (by first|(simp;done)|(simp;omega)) _)|(refine Below.setCell ?_ (by first|(simp;done)|(simp;omega)) _))⟩;rw[zM rfl];go_simp
     ·go_wp2_with (go_at_call 72;go_must (refine(HF.out _).mono ?_;rintro e w1 ⟨rfl,g⟩;have j:Below Z.heap.size Z w1:=Below.trans (show Below Z.heap.size Z _ from by repeat' (first|with_reducible exact Below.refl _ _|with_reducible refine Below.drew ?_)) (g.mono (Je _));clear g;have hk:=zH j l.out.2 (lt_of_block l.out.2);have f0:=zA (i:=0) hk rfl;have f1:=zA (i:=1) hk rfl;have g0:=zE (i:=0) hk;have g1:=zE (i:=1) hk;have m:=lt_of_block hk;have a0:=l.out.1.trans (j.mono l.out.1.size)))
      refine bodyPost_ret (v:=.agg #[M (R.lo:Int),M (R.hi:Int)]) ?_ rfl ⟨rfl,by repeat' (first|exact Below.refl _ _|assumption|(refine Below.drew ?_)|(refine Below.alloc ?_ (by first|(simp;done)|(simp;omega)) _)|(refine Below.setCell ?_ (by first|(simp;done)|(simp;omega)) _))⟩;rw[zM rfl];go_simp
     ·go_wp2_with (go_at_call 73;go_must (refine(HF.out _).mono ?_;rintro e w1 ⟨rfl,g⟩;have j:Below Z.heap.size Z w1:=Below.trans (show Below Z.heap.size Z _ from by repeat' (first|with_reducible exact Below.refl _ _|with_reducible refine Below.drew ?_)) (g.mono (Je _));clear g;have hk:=zH j l.out.2 (lt_of_block l.out.2);have f0:=zA (i:=0) hk rfl;have f1:=zA (i:=1) hk rfl;have g0:=zE (i:=0) hk;have g1:=zE (i:=1) hk;have m:=lt_of_block hk;have a0:=l.out.1.trans (j.mono l.out.1.size)))
      refine bodyPost_ret (v:=.agg #[M (R.lo:Int),M (R.hi:Int)]) ?_ rfl ⟨rfl,by repeat' (first|exact Below.refl _ _|assumption|(refine Below.drew ?_)|(refine Below.alloc ?_ (by first|(simp;done)|(simp;omega)) _)|(refine Below.setCell ?_ (by first|(simp;done)|(simp;omega)) _))⟩;rw[zM rfl];go_simp
     ·go_wp2_with (go_at_call 74;go_must (refine(HF.out _).mono ?_;rintro e w1 ⟨rfl,g⟩;have j:Below Z.heap.size Z w1:=Below.trans (show Below Z.heap.size Z _ from by repeat' (first|with_reducible exact Below.refl _ _|with_reducible refine Below.drew ?_)) (g.mono (Je _));clear g;have hk:=zH j l.out.2 (lt_of_block l.out.2);have f0:=zA (i:=0) hk rfl;have f1:=zA (i:=1) hk rfl;have g0:=zE (i:=0) hk;have g1:=zE (i:=1) hk;have m:=lt_of_block hk;have a0:=l.out.1.trans (j.mono l.out.1.size)))
      refine bodyPost_ret (v:=.agg #[M (R.lo:Int),M (R.hi:Int)]) ?_ rfl ⟨rfl,by repeat' (first|exact Below.refl _ _|assumption|(refine Below.drew ?_)|(refine Below.alloc ?_ (by first|(simp;done)|(simp;omega)) _)|(refine Below.setCell ?_ (by first|(simp;done)|(simp;omega)) _))⟩;rw[zM rfl];go_simp
     ·go_wp2_with (go_at_call 75;go_must (refine(HF.out _).mono ?_;rintro e w1 ⟨rfl,g⟩;have j:Below Z.heap.size Z w1:=Below.trans (show Below Z.heap.size Z _ from by repeat' (first|with_reducible exact Below.refl _ _|with_reducible refine Below.drew ?_)) (g.mono (Je _));clear g;have hk:=zH j l.out.2 (lt_of_block l.out.2);have f0:=zA (i:=0) hk rfl;have f1:=zA (i:=1) hk rfl;have g0:=zE (i:=0) hk;have g1:=zE (i:=1) hk;have m:=lt_of_block hk;have a0:=l.out.1.trans (j.mono l.out.1.size)))
      refine bodyPost_ret (v:=.agg #[M (R.lo:Int),M (R.hi:Int)]) ?_ rfl ⟨rfl,by repeat' (first|exact Below.refl _ _|assumption|(refine Below.drew ?_)|(refine Below.alloc ?_ (by first|(simp;done)|(simp;omega)) _)|(refine Below.setCell ?_ (by first|(simp;done)|(simp;omega)) _))⟩;rw[zM rfl];go_simp
     ·go_wp2_with (go_at_call 77;go_must (refine(HF.out _).mono ?_;rintro e w1 ⟨rfl,g⟩;have j:Below Z.heap.size Z w1:=Below.trans (show Below Z.heap.size Z _ from by repeat' (first|with_reducible exact Below.refl _ _|with_reducible refine Below.drew ?_)) (g.mono (Je _));clear g;have hk:=zH j l.out.2 (lt_of_block l.out.2);have f0:=zA (i:=0) hk rfl;have f1:=zA (i:=1) hk rfl;have g0:=zE (i:=0) hk;have g1:=zE (i:=1) hk;have m:=lt_of_block hk;have a0:=l.out.1.trans (j.mono l.out.1.size)))
      refine bodyPost_ret (v:=.agg #[M (R.lo:Int),M (R.hi:Int)]) ?_ rfl ⟨rfl,by repeat' (first|exact Below.refl _ _|assumption|(refine Below.drew ?_)|(refine Below.alloc ?_ (by first|(simp;done)|(simp;omega)) _)|(refine Below.setCell ?_ (by first|(simp;done)|(simp;omega)) _))⟩;rw[zM rfl];go_simp
     ·go_wp2_with (go_at_call 78;go_must (refine(HF.out _).mono ?_;rintro e w1 ⟨rfl,g⟩;have j:Below Z.heap.size Z w1:=Below.trans (show Below Z.heap.size Z _ from by repeat' (first|with_reducible exact Below.refl _ _|with_reducible refine Below.drew ?_)) (g.mono (Je _));clear g;have hk:=zH j l.out.2 (lt_of_block l.out.2);have f0:=zA (i:=0) hk rfl;have f1:=zA (i:=1) hk rfl;have g0:=zE (i:=0) hk;have g1:=zE (i:=1) hk;have m:=lt_of_block hk;have a0:=l.out.1.trans (j.mono l.out.1.size)))
      refine bodyPost_ret (v:=.agg #[M (R.lo:Int),M (R.hi:Int)]) ?_ rfl ⟨rfl,by repeat' (first|exact Below.refl _ _|assumption|(refine Below.drew ?_)|(refine Below.alloc ?_ (by first|(simp;done)|(simp;omega)) _)|(refine Below.setCell ?_ (by first|(simp;done)|(simp;omega)) _))⟩;rw[zM rfl];go_simp
     ·go_wp2_with (go_at_call 79;go_must (refine(HF.out _).mono ?_;rintro e w1 ⟨rfl,g⟩;have j:Below Z.heap.size Z w1:=Below.trans (show Below Z.heap.size Z _ from by repeat' (first|with_reducible exact Below.refl _ _|with_reducible refine Below.drew ?_)) (g.mono (Je _));clear g;have hk:=zH j l.out.2 (lt_of_block l.out.2);have f0:=zA (i:=0) hk rfl;have f1:=zA (i:=1) hk rfl;have g0:=zE (i:=0) hk;have g1:=zE (i:=1) hk;have m:=lt_of_block hk;have a0:=l.out.1.trans (j.mono l.out.1.size)))
      refine bodyPost_ret (v:=.agg #[M (R.lo:Int),M (R.hi:Int)]) ?_ rfl ⟨rfl,by repeat' (first|exact Below.refl _ _|assumption|(refine Below.drew ?_)|(refine Below.alloc ?_ (by first|(simp;done)|(simp;omega)) _)|(refine Below.setCell ?_ (by first|(simp;done)|(simp;omega)) _))⟩;rw[zM rfl];go_simp
     ·go_wp2_with (go_at_call 81;go_must (refine(HF.out _).mono ?_;rintro e w1 ⟨rfl,g⟩;have j:Below Z.heap.size Z w1:=Below.trans (show Below Z.heap.size Z _ from by repeat' (first|with_reducible exact Below.refl _ _|with_reducible refine Below.drew ?_)) (g.mono (Je _));clear g;have hk:=zH j l.out.2 (lt_of_block l.out.2);have f0:=zA (i:=0) hk rfl;have f1:=zA (i:=1) hk rfl;have g0:=zE (i:=0) hk;have g1:=zE (i:=1) hk;have m:=lt_of_block hk;have a0:=l.out.1.trans (j.mono l.out.1.size)))
      refine bodyPost_ret (v:=.agg #[M (R.lo:Int),M (R.hi:Int)]) ?_ rfl ⟨rfl,by repeat' (first|exact Below.refl _ _|assumption|(refine Below.drew ?_)|(refine Below.alloc ?_ (by first|(simp;done)|(simp;omega)) _)|(refine Below.setCell ?_ (by first|(simp;done)|(simp;omega)) _))⟩;rw[zM rfl];go_simp
     ·go_wp2_with (go_at_call 82;go_must (refine(HF.out _).mono ?_;rintro e w1 ⟨rfl,g⟩;have j:Below Z.heap.size Z w1:=Below.trans (show Below Z.heap.size Z _ from by repeat' (first|with_reducible exact Below.refl _ _|with_reducible refine Below.drew ?_)) (g.mono (Je _));clear g;have hk:=zH j l.out.2 (lt_of_block l.out.2);have f0:=zA (i:=0) hk rfl;have f1:=zA (i:=1) hk rfl;have g0:=zE (i:=0) hk;have g1:=zE (i:=1) hk;have m:=lt_of_block hk;have a0:=l.out.1.trans (j.mono l.out.1.size)))
      refine bodyPost_ret (v:=.agg #[M (R.lo:Int),M (R.hi:Int)]) ?_ rfl ⟨rfl,by repeat' (first|exact Below.refl _ _|assumption|(refine Below.drew ?_)|(refine Below.alloc ?_ (by first|(simp;done)|(simp;omega)) _)|(refine Below.setCell ?_ (by first|(simp;done)|(simp;omega)) _))⟩;rw[zM rfl];go_simp
     ·go_wp2_with (go_at_call 84;go_must (refine(HF.out _).mono ?_;rintro e w1 ⟨rfl,g⟩;have j:Below Z.heap.size Z w1:=Below.trans (show Below Z.heap.size Z _ from by repeat' (first|with_reducible exact Below.refl _ _|with_reducible refine Below.drew ?_)) (g.mono (Je _));clear g;have hk:=zH j l.out.2 (lt_of_block l.out.2);have f0:=zA (i:=0) hk rfl;have f1:=zA (i:=1) hk rfl;have g0:=zE (i:=0) hk;have g1:=zE (i:=1) hk;have m:=lt_of_block hk;have a0:=l.out.1.trans (j.mono l.out.1.size)))
      refine bodyPost_ret (v:=.agg #[M (R.lo:Int),M (R.hi:Int)]) ?_ rfl ⟨rfl,by repeat' (first|exact Below.refl _ _|assumption|(refine Below.drew ?_)|(refine Below.alloc ?_ (by first|(simp;done)|(simp;omega)) _)|(refine Below.setCell ?_ (by first|(simp;done)|(simp;omega)) _))⟩;rw[zM rfl];go_simp
     ·go_wp2_with (go_at_call 85;go_must (refine(HF.out _).mono ?_;rintro e w1 ⟨rfl,g⟩;have j:Below Z.heap.size Z w1:=Below.trans (show Below Z.heap.size Z _ from by repeat' (first|with_reducible exact Below.refl _ _|with_reducible refine Below.drew ?_)) (g.mono (Je _));clear g;have hk:=zH j l.out.2 (lt_of_block l.out.2);have f0:=zA (i:=0) hk rfl;have f1:=zA (i:=1) hk rfl;have g0:=zE (i:=0) hk;have g1:=zE (i:=1) hk;have m:=lt_of_block hk;have a0:=l.out.1.trans (j.mono l.out.1.size)))
      refine bodyPost_ret (v:=.agg #[M (R.lo:Int),M (R.hi:Int)]) ?_ rfl ⟨rfl,by repeat' (first|exact Below.refl _ _|assumption|(refine Below.drew ?_)|(refine Below.alloc ?_ (by first|(simp;done)|(simp;omega)) _)|(refine Below.setCell ?_ (by first|(simp;done)|(simp;omega)) _))⟩;rw[zM rfl];go_simp
     ·go_wp2_with (go_at_call 86;go_must (refine(HF.out _).mono ?_;rintro e w1 ⟨rfl,g⟩;have j:Below Z.heap.size Z w1:=Below.trans (show Below Z.heap.size Z _ from by repeat' (first|with_reducible exact Below.refl _ _|with_reducible refine Below.drew ?_)) (g.mono (Je _));clear g;have hk:=zH j l.out.2 (lt_of_block l.out.2);have f0:=zA (i:=0) hk rfl;have f1:=zA (i:=1) hk rfl;have g0:=zE (i:=0) hk;have g1:=zE (i:=1) hk;have m:=lt_of_block hk;have a0:=l.out.1.trans (j.mono l.out.1.size)))
      refine bodyPost_ret (v:=.agg #[M (R.lo:Int),M (R.hi:Int)]) ?_ rfl ⟨rfl,by repeat' (first|exact Below.refl _ _|assumption|(refine Below.drew ?_)|(refine Below.alloc ?_ (by first|(simp;done)|(simp;omega)) _)|(refine Below.setCell ?_ (by first|(simp;done)|(simp;omega)) _))⟩;rw[zM rfl];go_simp
     ·go_wp2_with (go_at_call 88;go_must (refine(HF.out _).mono ?_;rintro e w1 ⟨rfl,g⟩;have j:Below Z.heap.size Z w1:=Below.trans (show Below Z.heap.size Z _ from by repeat' (first|with_reducible exact Below.refl _ _|with_reducible refine Below.drew ?_)) (g.mono (Je _));clear g;have hk:=zH j l.out.2 (lt_of_block l.out.2);have f0:=zA (i:=0) hk rfl;have f1:=zA (i:=1) hk rfl;have g0:=zE (i:=0) hk;have g1:=zE (i:=1) hk;have m:=lt_of_block hk;have a0:=l.out.1.trans (j.mono l.out.1.size)))
      refine bodyPost_ret (v:=.agg #[M (R.lo:Int),M (R.hi:Int)]) ?_ rfl ⟨rfl,by repeat' (first|exact Below.refl _ _|assumption|(refine Below.drew ?_)|(refine Below.alloc ?_ (by first|(simp;done)|(simp;omega)) _)|(refine Below.setCell ?_ (by first|(simp;done)|(simp;omega)) _))⟩;rw[zM rfl];go_simp
     ·go_wp2_with (go_at_call 89;go_must (refine(HF.out _).mono ?_;rintro e w1 ⟨rfl,g⟩;have j:Below Z.heap.size Z w1:=Below.trans (show Below Z.heap.size Z _ from by repeat' (first|with_reducible exact Below.refl _ _|with_reducible refine Below.drew ?_)) (g.mono (Je _));clear g;have hk:=zH j l.out.2 (lt_of_block l.out.2);have f0:=zA (i:=0) hk rfl;have f1:=zA (i:=1) hk rfl;have g0:=zE (i:=0) hk;have g1:=zE (i:=1) hk;have m:=lt_of_block hk;have a0:=l.out.1.trans (j.mono l.out.1.size)))
      refine bodyPost_ret (v:=.agg #[M (R.lo:Int),M (R.hi:Int)]) ?_ rfl ⟨rfl,by repeat' (first|exact Below.refl _ _|assumption|(refine Below.drew ?_)|(refine Below.alloc ?_ (by first|(simp;done)|(simp;omega)) _)|(refine Below.setCell ?_ (by first|(simp;done)|(simp;omega)) _))⟩;rw[zM rfl];go_simp
     ·go_wp2_with (go_at_call 90;go_must (refine(HF.out _).mono ?_;rintro e w1 ⟨rfl,g⟩;have j:Below Z.heap.size Z w1:=Below.trans (show Below Z.heap.size Z _ from by repeat' (first|with_reducible exact Below.refl _ _|with_reducible refine Below.drew ?_)) (g.mono (Je _));clear g;have hk:=zH j l.out.2 (lt_of_block l.out.2);have f0:=zA (i:=0) hk rfl;have f1:=zA (i:=1) hk rfl;have g0:=zE (i:=0) hk;have g1:=zE (i:=1) hk;have m:=lt_of_block hk;have a0:=l.out.1.trans (j.mono l.out.1.size)))
      refine bodyPost_ret (v:=.agg #[M (R.lo:Int),M (R.hi:Int)]) ?_ rfl ⟨rfl,by repeat' (first|exact Below.refl _ _|assumption|(refine Below.drew ?_)|(refine Below.alloc ?_ (by first|(simp;done)|(simp;omega)) _)|(refine Below.setCell ?_ (by first|(simp;done)|(simp;omega)) _))⟩;rw[zM rfl];go_simp
     ·go_wp2_with (go_at_call 91;go_must (refine(HF.out _).mono ?_;rintro e w1 ⟨rfl,g⟩;have j:Below Z.heap.size Z w1:=Below.trans (show Below Z.heap.size Z _ from by repeat' (first|with_reducible exact Below.refl _ _|with_reducible refine Below.drew ?_)) (g.mono (Je _));clear g;have hk:=zH j l.out.2 (lt_of_block l.out.2);have f0:=zA (i:=0) hk rfl;have f1:=zA (i:=1) hk rfl;have g0:=zE (i:=0) hk;have g1:=zE (i:=1) hk;have m:=lt_of_block hk;have a0:=l.out.1.trans (j.mono l.out.1.size)))
      refine bodyPost_ret (v:=.agg #[M (R.lo:Int),M (R.hi:Int)]) ?_ rfl ⟨rfl,by repeat' (first|exact Below.refl _ _|assumption|(refine Below.drew ?_)|(refine Below.alloc ?_ (by first|(simp;done)|(simp;omega)) _)|(refine Below.setCell ?_ (by first|(simp;done)|(simp;omega)) _))⟩;rw[zM rfl];go_simp
    ·rw[if_pos rfl] at hR
     have d7:c<=17:=by
      have:=HQ.out.2.2.2.2.2;simp only[Jm,decide_eq_true_eq] at this;exact this.1
     obtain⟨fv,b1⟩:∃q,exF c y.lo=q:=⟨_,rfl⟩
     obtain⟨ev,b2⟩:∃q,exV c x.lo y.lo=q:=⟨_,rfl⟩
     have b3:=fun W=>agN ⟨d8,d7⟩ (Nat.lt_of_le_of_lt (Jn HP.out.2.1.1 HP.out.2.1.2) Zd) (Nat.lt_of_le_of_lt (Jn HP.out.2.2.1.1 HP.out.2.2.1.2) Zd) W (a:=x.lo) (b:=y.lo)
     have a4:R=if fv=true then pt ev else zx:=by rw[<-b1,<-b2];exact hR
     rw[b1,b2] at b3;have d5:=Ja b3;have HO:=Ja (fun W=>be W ev);clear b3 hR b1 b2 a3;cases fv
     ·rw[if_neg Zd] at a4;subst a4
      go_wp2_with (first
       |(go_at_call 123;go_must (refine(d5.out _).mono ?_;rintro e w1 ⟨rfl,g⟩;have a1:Below Z.heap.size Z w1:=Below.trans (show Below Z.heap.size Z _ from by repeat' (first|with_reducible exact Below.refl _ _|with_reducible refine Below.drew ?_)) (g.mono (Je _));clear g))
       |(go_at_call 39;go_must (refine(q6 _).mono ?_;rintro e w2 ⟨rfl,a2⟩;have j:=a1.trans (a2.mono a1.size);clear a2 a1;have hk:=zH j l.out.2 (lt_of_block l.out.2);have f0:=zA (i:=0) hk rfl;have f1:=zA (i:=1) hk rfl;have g0:=zE (i:=0) hk;have g1:=zE (i:=1) hk;have m:=lt_of_block hk;have a0:=l.out.1.trans (j.mono l.out.1.size))))
      refine bodyPost_ret (v:=.agg #[M 0,M 65535]) ?_ rfl ⟨rfl,by repeat' (first|exact Below.refl _ _|assumption|(refine Below.drew ?_)|(refine Below.alloc ?_ (by first|(simp;done)|(simp;omega)) _)|(refine Below.setCell ?_ (by first|(simp;done)|(simp;omega)) _))⟩;rw[zM rfl];go_simp
     ·rw[if_pos rfl] at a4;subst a4
      go_wp2_with (first
       |(go_at_call 123;go_must (refine(d5.out _).mono ?_;rintro e w1 ⟨rfl,g⟩;have a1:Below Z.heap.size Z w1:=Below.trans (show Below Z.heap.size Z _ from by repeat' (first|with_reducible exact Below.refl _ _|with_reducible refine Below.drew ?_)) (g.mono (Je _));clear g))
       |(go_at_call 122;go_must (refine(HO.out _).mono ?_;rintro e w2 ⟨rfl,a2⟩;have j:=a1.trans (a2.mono a1.size);clear a2 a1;have hk:=zH j l.out.2 (lt_of_block l.out.2);have f0:=zA (i:=0) hk rfl;have f1:=zA (i:=1) hk rfl;have g0:=zE (i:=0) hk;have g1:=zE (i:=1) hk;have m:=lt_of_block hk;have a0:=l.out.1.trans (j.mono l.out.1.size))))
      refine bodyPost_ret (v:=.agg #[M ev,M ev]) ?_ rfl ⟨rfl,by repeat' (first|exact Below.refl _ _|assumption|(refine Below.drew ?_)|(refine Below.alloc ?_ (by first|(simp;done)|(simp;omega)) _)|(refine Below.setCell ?_ (by first|(simp;done)|(simp;omega)) _))⟩;rw[zM rfl];go_simp
theorem agk{p:IProg}{i:List IBlk}{s:Slv}(h:SlvAt w K p i k s)(av:Value)(c:I64 o.code)(j:o.n<65536)(d:o.code=2->0<=o.a/\o.a<p.data.length)
 (g:o.code≠1->o.code≠2->ruG o.code≠none->(0<=o.a/\o.a<K.n)/\0<=o.b/\o.b<K.n):
 O 96 #[F K.sb,aam o av] w (tg w (na p s o)):=by
 by_cases h1:o.code=1
 ·exact afw _ av h1 p s
 by_cases h2:o.code=2
 ·exact agw h av h2 (d h2) j
 cases hr:ruG o.code with
 |none=>exact afM h av h1 h2 c hr
 |some f=>
  obtain⟨l,hb⟩:=g h1 h2 (by rw[hr];exact fun e=>by cases e);exact afO h av h1 h2 c hr l hb
structure SlvTo (w w':World) (K:SK):Prop where
 os:w'.os=w.os
 tape:w'.tape=w.tape
 output:w'.output=w.output
 size:w.heap.size<=w'.heap.size
 block:∀i,i<w.heap.size->i≠K.rb->i≠K.kb->i≠K.sb->w'.heap[i]? =w.heap[i]?
theorem SlvTo.refl (w:World)(K:SK):SlvTo w w K:=⟨rfl,rfl,rfl,Je _,fun _ _ _ _ _=>rfl⟩
theorem SlvTo.trans{w1 w2:World}(h:SlvTo w w1 K)(d:SlvTo w1 w2 K):SlvTo w w2 K:=
 ⟨d.os.trans h.os,d.tape.trans h.tape,d.output.trans h.output,Jn h.size d.size,fun i hi a b c=>(d.block i (Jy hi h.size) a b c).trans (h.block i hi a b c)⟩
theorem SlvTo.of_below(h:Q w w'):SlvTo w w' K:=⟨h.os,h.tape,h.output,h.size,fun i hi _ _ _=>h.block i hi⟩
theorem SlvTo.below(h:SlvTo w w' K){B:Nat}(c:B<=K.rb/\B<=K.kb/\B<=K.sb/\B<=w.heap.size):Below B w w':=
 ⟨h.os,h.tape,h.output,h.size,fun i hi=>h.block i Zo Zo Zo Zo⟩
theorem aeZ (l:List Rg)(v:Nat)(a:Rg)(h:v<l.length):(((l.flatMap xB).toArray.setIfInBounds (v*2) (M (a.lo:Int))).setIfInBounds (v*2+1) (M (a.hi:Int)))=((l.set v a).flatMap xB).toArray:=by
 simp only[Jc]
 congr 1
 induction l generalizing v with
 |nil=>simp at h
 |cons x l ih=>
  cases v with
  |zero=>rfl
  |succ v=>
   have:=ih v (by simpa using h);rw[show(v+1)*2=v*2+1+1 by omega];simp only[Qa,Jg];rw[<-this];rfl
theorem sg{p:IProg}{c:List IBlk}{s:Slv}(h:SlvAt w K p c k s){v:Nat}(hv:v<K.n):T w K.kb v (.bool (s.knw v)):=by
 refine zA h.kn ?_;have hl:v<s.kn.length:=by rw[h.oks.kl];exact hv
 unfold Slv.knw;simp[Jj,Jd hl,hl]
theorem SlvAt.put{X:World}{p:IProg}{g:List IBlk}{s:Slv}(h:SlvAt X K p g k s){v:Nat}(hv:v<K.n){a:Rg}(q:a.ok){W:World}
 (d:((X.setCell ⟨K.kb,v,none⟩ (.bool true)).setCell ⟨K.rb,v*2,none⟩ (M (a.lo:Int))).setCell ⟨K.rb,v*2+1,none⟩ (M (a.hi:Int))=W):
 SlvAt W K p g k (s.put v a)/\SlvTo X W K:=by
 have l:=h.ne;have c:=h.lt;have m:=zD (i:=v) h.kn (.bool true)
 have o:W.heap[K.kb]? =(X.setCell ⟨K.kb,v,none⟩ (.bool true)).heap[K.kb]?:=by
  rw[<-d,Below.heap_setCell _ _ _ _ (by show K.kb≠K.rb;omega),Below.heap_setCell _ _ _ _ (by show K.kb≠K.rb;omega)]
 have j:A (X.setCell ⟨K.kb,v,none⟩ (.bool true)) K.rb (s.r.flatMap xB).toArray 45:=by
  rw[Below.heap_setCell _ _ _ _ (by show K.rb≠K.kb;omega)];exact h.row
 have f:=zD (i:=v*2+1) (zD (i:=v*2) j (M (a.lo:Int))) (M (a.hi:Int));rw[d] at f
 have hb:Below K.B X W:=by
  rw[<-d];exact(((Below.refl K.B X).setCell c.2.2.1 _).setCell c.2.1 _).setCell c.2.1 _
 have ho:∀i,i≠K.rb->i≠K.kb->W.heap[i]? =X.heap[i]?:=fun i h1 h2=>by
  rw[<-d,Below.heap_setCell _ _ _ _ h1,Below.heap_setCell _ _ _ _ h1,Below.heap_setCell _ _ _ _ h2]
 refine⟨⟨h.prog.below hb,h.blks.below yT hb,h.map.same (ho _ Zo Zo),(ho _ Zo Zo).trans h.cell,?_,?_,h.oks.put _ q,h.n64,c,l⟩,⟨hb.os,hb.tape,hb.output,hb.size,fun i _ h1 h2 _=>ho i h1 h2⟩⟩
 ·have:=aeZ s.r v a (by rw[h.oks.rl];exact hv);rw[show(s.put (v:Int) a).r=s.r.set v a from rfl,<-this];exact f
 ·rw[o,m,show(s.put (v:Int) a).kn=s.kn.set v true from rfl];simp[Ox]
def ng (w:World)(K:SK)(p:IProg)(bls:List IBlk)(k:Nat)(q:Slv×Bool)(e:Ending)(w':World):Prop:=e=.returned (.bool q.2)/\SlvAt w' K p bls k q.1/\SlvTo w w' K
theorem set_new{p:IProg}{j:List IBlk}{s:Slv}(h:SlvAt w K p j k s){v:Nat}(hv:v<K.n){a:Rg}(m:a.ok)(hk:¬4<k)(g:s.knw v=false):
 O 38 #[F K.sb,I v,.agg #[M (a.lo:Int),M (a.hi:Int)]] w (ng w K p j k (s.put v a,true)):=by
 have f:=sg h hv;rw[g] at f;have y:¬(4:Int)<(k:Int):=Zo;have H:=Ja (Jb h m);have hn:=h.n64;have l1:=lt_of_block h.cell;have l2:=lt_of_block h.row;have l3:=lt_of_block h.kn;obtain⟨s4,s7,s8,s9,s10,s6⟩:=h.cells;have x:=h.ne;clear h m hk g s4 s7 s6;go_enter Tryz.func38,Tryz.ntmps38;go_upto_region 7 with(go_at_call 999999;skip)
 obtain⟨X,l⟩:∃X,w.alloc (G #[M (a.lo:Int),M (a.hi:Int)] 45)=X:=⟨_,rfl⟩
 have d:=Ja (show Q w X/\A X w.heap.size #[M (a.lo:Int),M (a.hi:Int)] 45/\w.heap.size<X.heap.size from by
  rw[<-l];exact⟨Below.alloc (Below.refl _ _) (Je _) _,zI rfl,by simp⟩)
 rw[l];clear l;clear f s8 s9 s10;have c:=Ja (H.out.1.below d.out.1);have q:=Ja (show ∀W:World,W.heap[K.sb]? =X.heap[K.sb]?->W.heap[w.heap.size]? =X.heap[w.heap.size]?->T W K.sb 8 (L K.rb K.n K.n)/\T W K.sb 9 (L K.kb K.n K.n)/\T W w.heap.size 0 (M (a.lo:Int))/\T W w.heap.size 1 (M (a.hi:Int)) from fun W h1 h2=>⟨zA (h1.trans c.out.cell) rfl,zA (h1.trans c.out.cell) rfl,zA (h2.trans d.out.2.1) rfl,zA (h2.trans d.out.2.1) rfl⟩);obtain⟨c0,c1,c2,c3⟩:=q.out X rfl rfl;have kx:=sg c.out hv;have kf:=zE (i:=v) c.out.kn;obtain⟨r0,r1⟩:=c.out.rcell (v:=(v:Int)) Zo;rw[Ni] at r0 r1;have u:=zE (i:=v*2) c.out.row;have t:=zE (i:=v*2+1) c.out.row;have m1:=lt_of_block c.out.cell;have m2:=lt_of_block c.out.row;have m3:=lt_of_block c.out.kn;have m4:=d.out.2.2;go_region_held3 (fun w'=>T w' K.sb 8 (L K.rb K.n K.n)/\T w' K.sb 9 (L K.kb K.n K.n)/\T w' w.heap.size 0 (M (a.lo:Int))/\T w' w.heap.size 1 (M (a.hi:Int))) ((refine q.out _ ?_ ?_<;>(repeat' (first|(rw[Below.heap_setCell _ _ _ _ (by first|(show K.sb≠K.kb;omega)|(show K.sb≠K.rb;omega)|(show w.heap.size≠K.kb;omega)|(show w.heap.size≠K.rb;omega))])|(rw[show ∀v:World,v.drew.heap=v.heap from fun _=>rfl])|exact rfl)))) (fail)
 all_goals go_wp2
 all_goals (
  obtain⟨W,o⟩:∃W,((X.setCell ⟨K.kb,v,none⟩ (.bool true)).setCell ⟨K.rb,v*2,none⟩ (M (a.lo:Int))).setCell ⟨K.rb,v*2+1,none⟩ (M (a.hi:Int))=W:=⟨_,rfl⟩
  rw[o];obtain⟨j1,j2⟩:=c.out.put hv H.out.2 o;go_ret
  exact⟨rfl,j1.below (Below.refl _ _).drew,((SlvTo.of_below d.out.1).trans j2).trans (SlvTo.of_below (Below.refl _ _).drew)⟩)
theorem ae6{p:IProg}{q:List IBlk}{s:Slv}(h:SlvAt w K p q k s){v:Nat}(hv:v<K.n){a0:Rg}(hk:4<k)(m:s.knw v=false):
 O 38 #[F K.sb,I v,.agg #[M (a0.lo:Int),M (a0.hi:Int)]] w (ng w K p q k (s.put v zx,true)):=by
 have l:=sg h hv;rw[m] at l;have a4:(4:Int)<(k:Int):=Zo;obtain⟨a,g⟩:∃a,zx=a:=⟨_,rfl⟩
 have H:=Ja (Jb h (show a.ok from g ▸ xr));have hn:=h.n64;have l1:=lt_of_block h.cell;have l2:=lt_of_block h.row;have l3:=lt_of_block h.kn;obtain⟨s4,s7,s8,s9,s10,s6⟩:=h.cells;have a3:=h.ne;have HZ:=Ja g;rw[g];clear h hk m s4 s7 s6 g;go_enter Tryz.func38,Tryz.ntmps38;go_upto_region 7 with(go_at_call 39;go_must (refine(q6 _).mono ?_;rintro e w1 ⟨rfl,d⟩;have hk:=zH d (zI rfl) Zs;have f0:=zA (i:=0) hk rfl;have f1:=zA (i:=1) hk rfl;have g0:=zE (i:=0) hk;have g1:=zE (i:=1) hk;have u:=lt_of_block hk;have o:=Below.trans (show Q w _ from by repeat' (first|exact Below.refl _ _|(refine Below.alloc ?_ (by first|(simp;done)|(simp;omega)) _))) (d.mono (by first|(simp;done)|(simp;omega)))))
 obtain⟨X,j⟩:∃X,(w1.setCell ⟨w.heap.size,0,none⟩ (M 0)).setCell ⟨w.heap.size,1,none⟩ (M 65535)=X:=⟨_,rfl⟩
 have f:=Ja (show Q w X/\A X w.heap.size #[M (a.lo:Int),M (a.hi:Int)] 45/\w.heap.size<X.heap.size from by
  have t:=zD (i:=1) (zD (i:=0) hk (M 0)) (M 65535);rw[j] at t;refine⟨by rw[<-j];exact(o.setCell (Je _) _).setCell (Je _) _,?_,lt_of_block t⟩;rw[<-HZ.out]
  exact t)
 rw[j];clear j hk f0 f1 g0 g1 u o d;clear l s8 s9 s10;have c:=Ja (H.out.1.below f.out.1);have y:=Ja (show ∀W:World,W.heap[K.sb]? =X.heap[K.sb]?->W.heap[w.heap.size]? =X.heap[w.heap.size]?->T W K.sb 8 (L K.rb K.n K.n)/\T W K.sb 9 (L K.kb K.n K.n)/\T W w.heap.size 0 (M (a.lo:Int))/\T W w.heap.size 1 (M (a.hi:Int)) from fun W h1 h2=>⟨zA (h1.trans c.out.cell) rfl,zA (h1.trans c.out.cell) rfl,zA (h2.trans f.out.2.1) rfl,zA (h2.trans f.out.2.1) rfl⟩);obtain⟨c0,c1,c2,c3⟩:=y.out X rfl rfl;have kx:=sg c.out hv;have kf:=zE (i:=v) c.out.kn;obtain⟨r0,r1⟩:=c.out.rcell (v:=(v:Int)) Zo;rw[Ni] at r0 r1;have a2:=zE (i:=v*2) c.out.row;have a1:=zE (i:=v*2+1) c.out.row;have m1:=lt_of_block c.out.cell;have m2:=lt_of_block c.out.row;have m3:=lt_of_block c.out.kn;have m4:=f.out.2.2;go_region_held3 (fun w'=>T w' K.sb 8 (L K.rb K.n K.n)/\T w' K.sb 9 (L K.kb K.n K.n)/\T w' w.heap.size 0 (M (a.lo:Int))/\T w' w.heap.size 1 (M (a.hi:Int))) ((refine y.out _ ?_ ?_<;>(repeat' (first|(rw[Below.heap_setCell _ _ _ _ (by first|(show K.sb≠K.kb;omega)|(show K.sb≠K.rb;omega)|(show w.heap.size≠K.kb;omega)|(show w.heap.size≠K.rb;omega))])|(rw[show ∀v:World,v.drew.heap=v.heap from fun _=>rfl])|exact rfl)))) (fail)
 all_goals go_wp2
 all_goals (
  obtain⟨W,x⟩:∃W,((X.setCell ⟨K.kb,v,none⟩ (.bool true)).setCell ⟨K.rb,v*2,none⟩ (M (a.lo:Int))).setCell ⟨K.rb,v*2+1,none⟩ (M (a.hi:Int))=W:=⟨_,rfl⟩
  rw[x];obtain⟨j1,j2⟩:=c.out.put hv H.out.2 x;go_ret
  exact⟨rfl,j1.below (Below.refl _ _).drew,((SlvTo.of_below f.out.1).trans j2).trans (SlvTo.of_below (Below.refl _ _).drew)⟩)
theorem aeT (w:World)(a b:Rg):O 92 #[.agg #[M (a.lo:Int),M (a.hi:Int)],.agg #[M (b.lo:Int),M (b.hi:Int)]] w (fun e w'=>e=.returned (.agg #[M ((tn a b).lo:Int),M ((tn a b).hi:Int)])/\Q w w'):=hull_any w a b
theorem ahi{p:IProg}{a2:List IBlk}{s:Slv}(h:SlvAt w K p a2 k s){v:Nat}(hv:v<K.n){a:Rg}(a0:s.knw v=true)(c:pC (tn a (s.get v)) (s.get v)=true):
 O 38 #[F K.sb,I v,.agg #[M (a.lo:Int),M (a.hi:Int)]] w (ng w K p a2 k (s,false)):=by
 have y:=sg h hv;rw[a0] at y;have j:=fun(W:World) (hW:Q w W)=>(h.below hW).rcell (v:=(v:Int)) Zo
 generalize hg:s.get (v:Int)=g at *;obtain⟨q,hq⟩:∃q,tn a g=q:=⟨_,rfl⟩
 have HH:=Ja (fun W=>aeT W a g);rw[hq] at HH c
 have x:q.lo=g.lo/\q.hi=g.hi:=by
  unfold pC at c
  simpa only[Jm,decide_eq_true_eq] using c
 rw[Ni] at j;have H:=Ja h;have hn:=h.n64;obtain⟨s4,s7,s8,s9,s10,s6⟩:=h.cells;have HC:=Ja (show ∀W:World,Q w W->T W K.sb 8 (L K.rb K.n K.n)/\T W K.rb (v*2) (M (g.lo:Int))/\T W K.rb (v*2+1) (M (g.hi:Int)) from fun W hb=>⟨(h.below hb).cells.2.2.1,(j W hb).1,(j W hb).2⟩);have l1:=lt_of_block h.cell;have l2:=lt_of_block h.row;have l3:=lt_of_block h.kn;have a3:=Ja x;clear h x a0 c s4 s7 s6 s8 s10 j hg hq;go_enter Tryz.func38,Tryz.ntmps38;go_upto_region 2 with(go_at_call 999999;skip)
 obtain⟨X,hX⟩:∃X,w.alloc (G #[M (a.lo:Int),M (a.hi:Int)] 45)=X:=⟨_,rfl⟩
 have d:=Ja (show Q w X/\A X w.heap.size #[M (a.lo:Int),M (a.hi:Int)] 45/\w.heap.size<X.heap.size from by
  rw[<-hX];exact⟨Below.alloc (Below.refl _ _) (Je _) _,zI rfl,by simp⟩)
 rw[hX];clear hX y s9;have t:=Ja (show ∀W:World,Below w.heap.size X W->T W K.sb 8 (L K.rb K.n K.n)/\T W K.rb (v*2) (M (g.lo:Int))/\T W K.rb (v*2+1) (M (g.hi:Int)) from fun W hb=>HC.out W (d.out.1.trans hb));obtain⟨c0,c1,c2⟩:=t.out X (Below.refl _ _);have x0:=zA (i:=0) d.out.2.1 rfl;have x1:=zA (i:=1) d.out.2.1 rfl;have a5:=d.out.2.2;refine wp_region_noPanic ?_;refine yQ (S:=(fun w'=>T w' K.sb 8 (L K.rb K.n K.n)/\T w' K.rb (v*2) (M (g.lo:Int))/\T w' K.rb (v*2+1) (M (g.hi:Int))/\T w' w.heap.size 0 (M (a.lo:Int))/\T w' w.heap.size 1 (M (a.hi:Int)))) 9 Zk ⟨c0,c1,c2,x0,x1⟩ (fun hHeld=>?_);refine Tl 0 ?_
 try simp only[Yp]
 refine Tl 1 ?_
 try simp only[Yp]
 refine Tl 2 ?_
 try simp only[Yp]
 refine Tl 3 ?_
 try simp only[Yp]
 refine Tl 4 ?_
 try simp only[Yp]
 refine Tl 5 ?_
 try simp only[Yp]
 refine Tl 6 ?_
 try simp only[Yp]
 refine Tl 7 ?_
 try simp only[Yp]
 refine z8 (rs:=[8]) Zk Zs ?_;refine zS.cons (o:=_) rfl (fun K hK=>?_) ?_
 ·skip
  (go_simp;refine(HH.out _).mono ?_;rintro e w1 ⟨rfl,a1⟩;have l:Q X w1:=(Below.refl X.heap.size X).drew.trans a1;clear a1;have hk:=zH l d.out.2.1 (lt_of_block d.out.2.1);have f0:=zA (i:=0) hk rfl;have f1:=zA (i:=1) hk rfl;have g0:=zE (i:=0) hk;have g1:=zE (i:=1) hk;have a6:=lt_of_block hk;have m:=t.out w1 (l.mono (Qd d.out.2.2)))
  refine hK.out _ _ ⟨m.1,m.2.1,m.2.2,f0,f1⟩ (fun hHeld=>?_);clear hK K
  try simp only[Yp]
  refine z8 (rs:=[9]) Zk Zs ?_;refine zS.last (o:=_) rfl (fun K hK=>?_);go_simp;refine hK.out _ _ ?_;clear hK K
  try simp only[Yp]
  refine xj Zk (NoPanic.normal ?_) _;go_upto_region 3 with(go_at_call 999999;skip)
  obtain⟨Y,u⟩:∃Y,(w1.setCell ⟨w.heap.size,0,none⟩ (M (q.lo:Int))).setCell ⟨w.heap.size,1,none⟩ (M (q.hi:Int))=Y:=⟨_,rfl⟩
  have f:=Ja (show Q w Y/\A Y w.heap.size #[M (q.lo:Int),M (q.hi:Int)] 45/\w.heap.size<Y.heap.size from by
   have hh:=zD (i:=1) (zD (i:=0) hk (M (q.lo:Int))) (M (q.hi:Int));rw[u] at hh
   exact⟨by rw[<-u];exact((d.out.1.trans (l.mono (Qd d.out.2.2))).setCell (Je _) _).setCell (Je _) _,hh,lt_of_block hh⟩)
  rw[u];clear u hk f0 f1 g0 g1 a6 l m t c0 c1 c2 x0 x1 a5;have a4:=Ja (show ∀W:World,Q Y W->(T W K.sb 8 (L K.rb K.n K.n)/\T W K.rb (v*2) (M (g.lo:Int))/\T W K.rb (v*2+1) (M (g.hi:Int)))/\T W w.heap.size 0 (M (q.lo:Int))/\T W w.heap.size 1 (M (q.hi:Int)) from fun W hb=>⟨HC.out W (f.out.1.trans (hb.mono (Qd f.out.2.2))),zA (zH hb f.out.2.1 (lt_of_block f.out.2.1)) rfl,zA (zH hb f.out.2.1 (lt_of_block f.out.2.1)) rfl⟩);obtain⟨⟨c0,c1,c2⟩,x0,x1⟩:=a4.out Y (Below.refl _ _);have e0:((q.lo:Int)==(g.lo:Int))=true:=by rw[a3.out.1];exact beq_self_eq_true _
  have e1:((q.hi:Int)==(g.hi:Int))=true:=by rw[a3.out.2];exact beq_self_eq_true _
  go_region_held3 (fun w'=>(T w' K.sb 8 (L K.rb K.n K.n)/\T w' K.rb (v*2) (M (g.lo:Int))/\T w' K.rb (v*2+1) (M (g.hi:Int)))/\T w' w.heap.size 0 (M (q.lo:Int))/\T w' w.heap.size 1 (M (q.hi:Int)))
   ((refine a4.out _ ?_;repeat' (first|with_reducible exact Below.refl _ _|with_reducible assumption|with_reducible refine Below.drew ?_)))
   (fail)
  all_goals go_wp2
  all_goals go_ret
  all_goals exact⟨rfl,H.out.below f.out.1.drew,SlvTo.of_below f.out.1.drew⟩
 exact zS.nil
def aq (N:Nat)(b:IBlk):Prop:=(∀x∈b.params,0<=x/\x.toNat<N)/\(∀o∈b.ops,cS N o/\(0<=o.res->o.res.toNat<N))/\∀x∈mE b.term,0<=x/\x.toNat<N
structure UseProg (p:IProg):Prop where
 sz:∀bl∈p.funcs,vZ bl
 cnt:∀bl∈p.funcs,0<=aaG bl/\aaG bl<=65536
 blk:∀bl∈p.funcs,∀b∈bl,aq (aaG bl).toNat b
theorem FrmQ.setNew{B:Nat}{a:World}(h:FrmQ B a w){b i:Nat}(hb:a.heap.size<=b)(c:B<=a.heap.size)(u:Value):FrmQ B a (w.setCell ⟨b,i,none⟩ u):=
 ⟨h.below.setCell (Jn c hb) u,fun k o hk hs=>zR (h.kept k o hk hs) (by have:=lt_of_block hk;show k≠b;omega)⟩
theorem MachQ.setV{K:MK}{tr:Tr}{dp:Int}{ov:Value}(h:MachQ w K m tr dp ov){n:Nat}{v:Int->Nat}(hv:dA w vb n v)(c:K.B<=vb)(i:Nat)(u:Value):MachQ (w.setCell ⟨vb,i,none⟩ u) K m tr dp ov:=by
 have n1:K.pm≠vb:=by rintro e;have:=h.blk;rw[e,hv.1] at this;simp at this
 have n2:K.rb≠vb:=by rintro e;have:=h.ram;rw[e,hv.1] at this;simp at this
 have hb:Below K.B w (w.setCell ⟨vb,i,none⟩ u):=(Below.refl _ _).setCell c _;refine⟨zR h.blk n1,zR h.ram n2,h.rlen,h.rlt,ownsRow_setCell_other h.out ?_ _,h.olt,h.obd,h.fuel,h.inp,h.pol,h.gpm,h.grb,h.prog.below hb,h.inn.below zr hb,h.irq.below xQ hb⟩;intro e;exact zC h.out hv.1 (.inr Zd) (by simpa using e)
structure CStQ (K:MK) (w0 w:World) (m:Mach) (vb N:Nat) (v:Int->Nat):Prop where
 mach:∃dp ov,MachQ w K m none dp ov
 frm:FrmQ K.B w0 w
 row:dA w vb N v
 new:w0.heap.size<=vb
 gb:K.B<w0.heap.size
theorem CStQ.alloc{K:MK}{v:Int->Nat}(h:CStQ K w0 w m vb N v)(o:Obj):CStQ K w0 (w.alloc o) m vb N v:=by
 obtain⟨dp,ov,hm⟩:=h.mach;exact⟨⟨dp,ov,hm.keep ((Below.refl _ _).alloc (Je _) o)⟩,h.frm.trans ((FrmQ.refl _ _).alloc (Qd hm.size) o),h.row.kept ((FrmQ.refl K.B w).alloc (Qd hm.size) o),h.new,h.gb⟩
theorem CStQ.step {K:MK}{w0 w w':World}{m m':Mach}{vb N:Nat}{v:Int->Nat}{dp:Int}{ov:Value}(h:CStQ K w0 w m vb N v)(d:MachQ w' K m' none dp ov)(c:FrmQ K.B w w'):CStQ K w0 w' m' vb N v:=
 ⟨⟨dp,ov,d⟩,h.frm.trans c,h.row.kept c,h.new,h.gb⟩
theorem CStQ.keep{K:MK}{v:Int->Nat}(h:CStQ K w0 w m vb N v)(hb:Q w w'):CStQ K w0 w' m vb N v:=by
 obtain⟨dp,ov,hm⟩:=h.mach;exact h.step (hm.keep hb) (FrmQ.ofBelow hb (Qd hm.size))
theorem CStQ.set{K:MK}{v:Int->Nat}(h:CStQ K w0 w m vb N v){r:Nat}(hr:r<65536):CStQ K w0 (w.setCell ⟨vb,k,none⟩ (M r)) m vb N (iY v k r):=by
 obtain⟨dp,ov,hm⟩:=h.mach;have:=h.new;have:=h.gb;exact⟨⟨dp,ov,hm.setV h.row Zo _ _⟩,h.frm.setNew h.new Zo _,h.row.set hr,h.new,h.gb⟩
theorem dA.made{b:Nat}(hb:A w b (madeCells #[M 0] N) 43):dA w b N (fun _=>0):=by
 refine⟨?_,fun _=>by show 0<65536;omega⟩;rw[hb,yA]
 congr 3
 apply Oq;intro i
 by_cases hi:i<N
 ·simp[hi,vL]
 ·simp[hi]
def ez (t:ITerm)(a:Nat):Nat:=if t.kind=2/\a=0 then 1 else if t.kind=3 then min a (t.to.length-1) else 0
theorem cT (t:ITerm)(a:Nat):wK t a=t.to.getD (ez t a) ⟨0,[]⟩:=by
 unfold wK ez
 split
 ·rfl
 ·split<;>rfl
theorem taken_q (w:World)(t:ITerm)(ta:Option Addr)(tc:Nat)(a:Nat)(k:a<65536)(hl:1<=t.to.length/\t.to.length<=2000000)(hk:t.kind=1∨t.kind=2∨t.kind=3):
 O 104 #[.agg #[I t.kind,I t.a,.slice ta t.to.length tc],M a] w (pn w (ez t a:Nat)):=by
 have f:=(Below.refl w.heap.size w).alloc (Je _) (G #[I t.kind,I t.a,.slice ta t.to.length tc] 82);have d:=Ja f;clear f;generalize c:ez t a=q;unfold ez at c;generalize t.to.length=n at *;rcases hk with hk|hk|hk
 ·rw[if_neg Zo,if_neg Zo] at c;subst c;rw[hk] at d ⊢;go_enter Tryz.func104,Tryz.ntmps104;go_wp2;go_ret;exact⟨rfl,d.out⟩
 ·by_cases h0:a=0
  ·subst h0;rw[if_pos ⟨hk,rfl⟩] at c;subst c;rw[hk] at d ⊢;go_enter Tryz.func104,Tryz.ntmps104;go_wp2;go_ret;exact⟨rfl,d.out⟩
  ·rw[if_neg Zo,if_neg Zo] at c;subst c;have j:((a:Int)==0)=false:=Ze;have h:¬(a:Int)=0:=Zo;rw[hk] at d ⊢;go_enter Tryz.func104,Tryz.ntmps104;go_wp2;go_ret;exact⟨rfl,d.out⟩
 ·rw[if_neg Zo,if_pos hk] at c;have i:IntKind.i64.wrap (a:Int)=(a:Int):=Om _ Zo
  have g:∀(ts:Array TypeId) (t:TypeId) (W:World),(Builtin.min_ ts t #[I a,I ((n:Int)-1)]).run Tryz.prog W=.ok (I q) W:=fun ts t W=>by
   rw[run_min_int2];have:(q:Int)=if(n:Int)-1<(a:Int) then(n:Int)-1 else(a:Int):=by split<;>omega
   rw[this]
  have l:=Ja c;rw[hk] at d ⊢;clear c;go_enter Tryz.func104,Tryz.ntmps104;go_wp2;go_ret;exact⟨rfl,d.out⟩
structure Loc (bl:List IBlk) (d:wO):Prop where
 par:∀(i:Nat) b,bl[i]? =some b->∀v∈b.params,d.1 v=some (i:Int)/\d.2 v=some (-1)
 op:∀(i:Nat) b,bl[i]? =some b->∀(k:Nat) o,b.ops[k]? =some o->0<=o.res->d.1 o.res=some (i:Int)/\d.2 o.res=some (k:Int)
def m7 (d d':wO):Prop:=∀x b,d.1 x=some b->d'.1 x=some b/\d'.2 x=d.2 x
theorem m7.refl (d:wO):m7 d d:=fun x b h=>⟨h,rfl⟩
theorem m7.trans {a b c:wO}(h:m7 a b)(k:m7 b c):m7 a c:=fun x y e=>⟨(k x y (h x y e).1).1,((k x y (h x y e).1).2).trans (h x y e).2⟩
theorem afe{v k:Int}(h:rB d v i k=some d'):m7 d d'/\d'.1 v=some i/\d'.2 v=some k:=by
 unfold rB at h
 split at h
 ·cases h
 ·rename_i f
  cases h;refine⟨fun x b hx=>?_,by show lS d.1 v i v=_;unfold lS;rw[if_pos rfl],by show lS d.2 v k v=_;unfold lS;rw[if_pos rfl]⟩;have c:x≠v:=fun e=>f (.inl (by rw[<-e,hx];rfl))
  show lS d.1 v i x=some b/\lS d.2 v k x=d.2 x
  unfold lS;rw[if_neg c,if_neg c];exact⟨hx,rfl⟩
theorem m7.at(h:m7 d d'){k:Int}(c:d.1 x=some i/\d.2 x=some k):d'.1 x=some i/\d'.2 x=some k:=⟨(h x i c.1).1,((h x i c.1).2).trans c.2⟩
theorem aeH:∀(l:List Int) (d d':wO),vJ i l d=some d'->m7 d d'/\∀v∈l,d'.1 v=some i/\d'.2 v=some (-1)
 | [],d,d',h=>by cases h;exact⟨m7.refl _,fun v hv=>by cases hv⟩
 |v::l,d,d',h=>by
  unfold vJ at h
  cases h1:rB d v i (-1) with
  |none=>rw[h1] at h;cases h
  |some d1=>
   rw[h1,Nw] at h;obtain⟨a1,a2⟩:=afe h1;obtain⟨b1,b2⟩:=aeH l d1 d' h;refine⟨a1.trans b1,fun u c=>?_⟩;rcases Jq.1 c with rfl|c
   ·exact b1.at a2
   ·exact b2 u c
theorem bd{p:IProg}:∀(l:List IOp) (k:Int) (d d':wO),sS p i l k d=some d'->m7 d d'/\∀(j:Nat) o,l[j]? =some o->0<=o.res->d'.1 o.res=some i/\d'.2 o.res=some (k+j)
 | [],k,d,d',h=>by cases h;exact⟨m7.refl _,fun j o hj=>by simp at hj⟩
 |o::l,k,d,d',h=>by
  unfold sS at h
  split at h
  ·split at h
   ·rename_i h0
    cases h1:rB d o.res i k with
    |none=>rw[h1] at h;cases h
    |some d1=>
     rw[h1,Nw] at h;obtain⟨a1,a2⟩:=afe h1;obtain⟨b1,b2⟩:=bd l (k+1) d1 d' h;refine⟨a1.trans b1,fun j x hx h3=>?_⟩
     cases j with
     |zero=>cases hx;rw[show k+((0:Nat):Int)=k by omega];exact b1.at a2
     |succ j=>rw[show k+((j+1:Nat):Int)=k+1+(j:Int) by omega];exact b2 j x (by simpa using hx) h3
   ·rename_i h0
    obtain⟨b1,b2⟩:=bd l (k+1) d d' h;refine⟨b1,fun j x hx h3=>?_⟩
    cases j with
    |zero=>cases hx;exact absurd h3 h0
    |succ j=>rw[show k+((j+1:Nat):Int)=k+1+(j:Int) by omega];exact b2 j x (by simpa using hx) h3
  ·cases h
theorem aeG{p:IProg}:∀(l:List IBlk) (i:Int) (d d':wO),uH p bl l i d=some d'->m7 d d'/\∀(j:Nat) b,l[j]? =some b->(∀v∈b.params,d'.1 v=some (i+j)/\d'.2 v=some (-1))/\∀(k:Nat) o,b.ops[k]? =some o->0<=o.res->d'.1 o.res=some (i+j)/\d'.2 o.res=some (k:Int)
 | [],i,d,d',h=>by cases h;exact⟨m7.refl _,fun j b hj=>by simp at hj⟩
 |b::l,i,d,d',h=>by
  unfold uH at h
  cases h1:pS p bl i b d with
  |none=>rw[h1] at h;cases h
  |some d1=>
   rw[h1,Nw] at h;obtain⟨c1,c2⟩:=aeG l (i+1) d1 d' h
   have hb:m7 d d1/\(∀v∈b.params,d1.1 v=some i/\d1.2 v=some (-1))/\∀(k:Nat) o,b.ops[k]? =some o->0<=o.res->d1.1 o.res=some i/\d1.2 o.res=some (k:Int):=by
    unfold pS at h1
    cases h2:vJ i b.params d with
    |none=>rw[h2] at h1;cases h1
    |some d2=>
     rw[h2,Nw] at h1
     cases h3:sS p i b.ops 0 d2 with
     |none=>rw[h3] at h1;cases h1
     |some d3=>
      rw[h3,Nw] at h1
      split at h1
      ·cases h1;obtain⟨a1,a2⟩:=aeH b.params d d2 h2;obtain⟨b1,b2⟩:=bd b.ops 0 d2 _ h3;exact⟨a1.trans b1,fun v hv=>b1.at (a2 v hv),fun k o ho h0=>by have:=b2 k o ho h0;rwa [Ub] at this⟩
      ·cases h1
   refine⟨hb.1.trans c1,fun j x hx=>?_⟩
   cases j with
   |zero=>
    cases hx;rw[show i+((0:Nat):Int)=i by omega]
    exact⟨fun v hv=>c1.at (hb.2.1 v hv),fun k o ho h0=>c1.at (hb.2.2 k o ho h0)⟩
   |succ j=>rw[show i+((j+1:Nat):Int)=i+1+(j:Int) by omega];exact c2 j x (by simpa using hx)
theorem loc_of{p:IProg}{n:Nat}(c:p.funcs[n]? =some bl)(h0:bl≠ [])(h:yi p n=true):∃d,Loc bl d:=by
 cases bl with
 |nil=>exact absurd rfl h0
 |cons b0 bs=>
  obtain⟨_,d,f,hr⟩:=tF c h;obtain⟨_,h2⟩:=aeG (b0::bs) 0 _ d (show uH p (b0::bs) (b0::bs) 0 _=some d from f);refine⟨d,fun i b hb v hv=>?_,fun i b hb k o ho h0=>?_⟩
  ·have:=(h2 i b hb).1 v hv
   rwa [Ub] at this
  ·have:=(h2 i b hb).2 k o ho h0
   rwa [Ub] at this
def AcyG (g:List (List Nat)):Prop:=∀u s,u<g.length->s∈succ g u->¬Walk (GE g) (fun _=>True) s u
theorem ahn{L:List Nat}{a b:Nat}(h:Desc g L a b):Walk (GE g) (fun _=>True) a b:=by
 induction h with
 |refl a=>exact .refl trivial
 |step h1 _ _ ih=>exact Walk.trans (.snoc (.refl trivial) h1 trivial) ih
theorem topo{ns:List Nat}(c:OrdF g ns)(f:AcyG g){u s:Nat}(d:u∈0::ns)(hs:s∈succ g u):wh (0::ns) u<wh (0::ns) s:=by
 rcases c.back u s ⟨(c.mem u).1 d,hs⟩ with h|h
 ·exact h
 ·exact absurd (ahn h) (f u s (c.lt u d) hs)
theorem i5 {α β:Type}(f:α->List β):∀(l:List α) (pre:List β) (e:β) (post:List β),l.flatMap f=pre++e::post->∃o1 i o2 l1 l2,l=o1++i::o2/\f i=l1++e::l2/\pre=o1.flatMap f++l1/\post=l2++o2.flatMap f
 | [],pre,e,post,h=>by simp at h
 |a::l,pre,e,post,h=>by
  rw[Qa] at h;rcases List.append_eq_append_iff.1 h with⟨m,h1,h2⟩|⟨m,h1,h2⟩
  ·obtain⟨o1,i,o2,l1,l2,e1,e2,e3,e4⟩:=i5 f l m e post h2;exact⟨a::o1,i,o2,l1,l2,by rw[e1];rfl,e2,by rw[h1,e3,Qa,Nv],e4⟩
  ·cases m with
   |nil=>
    rw[Ua] at h1;rw[Op] at h2;obtain⟨o1,i,o2,l1,l2,e1,e2,e3,e4⟩:=i5 f l [] e post h2.symm
    exact⟨a::o1,i,o2,l1,l2,by rw[e1];rfl,e2,by rw[Qa,Nv,<-e3,Ua,h1],e4⟩
   |cons x m=>
    rw[List.cons_append] at h2;obtain⟨rfl,h3⟩:=List.cons.inj h2;exact⟨[],a,l,pre,m,rfl,h1,rfl,h3⟩
def Cnd (Q k:Int->Prop)(pre:List Evn)(ev:Evn)(post:List Evn):Prop:=
 (∀x∈ev.ins,(k x∨∃e∈pre,e.out=some x)/\∀e∈ev::post,e.out≠some x)/\
 (match ev with|.op o=>0<=o.res->(¬k o.res/\∀e∈pre,e.out≠some o.res)/\¬Q o.res/\∀e∈post,e.out≠some o.res|.arg v _=>Q v)
theorem ahf {Q:Int->Prop}:∀(es:List Evn) (k:Int->Prop),(∀pre ev post,es=pre++ev::post->Cnd Q k pre ev post)->ag9 Q k es
 | [],_,_=>trivial
 |ev::es,k,h=>by
  obtain⟨c1,c2⟩:=h [] ev es rfl;refine⟨fun x hx=>⟨?_,(c1 x hx).2⟩,?_,ahf es _ fun pre ev' post e=>?_⟩
  ·rcases(c1 x hx).1 with h1|⟨_,h1,_⟩
   ·exact h1
   ·cases h1
  ·cases ev with
   |op o=>exact fun h0=>⟨(c2 h0).1.1,(c2 h0).2⟩
   |arg v x=>exact c2
  ·obtain⟨d1,d2⟩:=h (ev::pre) ev' post (by rw[e];rfl);refine⟨fun x hx=>⟨?_,(d1 x hx).2⟩,?_⟩
   ·rcases(d1 x hx).1 with h1|⟨e',h1,h2⟩
    ·exact .inl (.inl h1)
    ·rcases Jq.1 h1 with rfl|h1
     ·exact .inl (.inr h2)
     ·exact .inr ⟨e',h1,h2⟩
   ·cases ev' with
    |op o=>
     intro h0;obtain⟨⟨q1,q2⟩,q3⟩:=d2 h0
     exact⟨⟨fun hk=>hk.elim q1 (q2 ev (.head _)),fun e' he=>q2 e' (.tail _ he)⟩,q3⟩
    |arg v x=>exact d2
theorem agP{p:IProg}(g:StF p bl)(h:j<bl.length){e:Evn}(he:e∈evB bl (xz bl j))(hx:e.out=some x):
 (∃o,e=.op o/\o∈(xz bl j).ops/\o.res=x/\0<=x)∨∃(s:Nat) (b:IBlk),s∈succ (zy bl) j/\1<=s/\bl[s]? =some b/\x∈b.params:=by
 unfold evB at he;rcases Jl.1 he with he|he
 ·obtain⟨o,ho,rfl⟩:=Nu.1 he;have hx:(if 0<=o.res then some o.res else none)=some x:=hx
  by_cases h0:0<=o.res
  ·rw[if_pos h0] at hx;cases hx;exact .inl ⟨o,rfl,ho,rfl,h0⟩
  ·rw[if_neg h0] at hx;cases hx
 ·obtain⟨ed,f,he⟩:=Qx.1 he;obtain⟨⟨v,y⟩,i,rfl⟩:=Nu.1 he;have hx:some v=some x:=hx;cases hx;have c:=g.trm j h;unfold tz at c;rw[Jm,Oe] at c;have d:=c.1 ed f;unfold uM at d;simp only[Jm,decide_eq_true_eq] at d;have hs:ed.block.toNat<bl.length:=Zo;refine .inr ⟨ed.block.toNat,bl[ed.block.toNat],?_,by omega,Jd hs,?_⟩
  ·rw[agb h];exact Nu.2 ⟨ed,f,rfl⟩
  ·have hb:=y7 (Jd hs);rw[show((ed.block.toNat:Nat):Int)=ed.block by omega] at hb;rw[<-hb];exact(List.of_mem_zip i).1
theorem arg_in{p:IProg}(h:StF p bl){s:Nat}(i:j<bl.length)(hs:s∈succ (zy bl) j){b:IBlk}(hb:bl[s]? =some b)(l:x∈b.params):∃e∈evB bl (xz bl j),e.out=some x:=by
 rw[agb i] at hs;obtain⟨ed,g,rfl⟩:=Nu.1 hs;have c:=h.trm j i;unfold tz at c;rw[Jm,Oe] at c;have d:=c.1 ed g;unfold uM at d;simp only[Jm,decide_eq_true_eq] at d;have f:=y7 hb;rw[show((ed.block.toNat:Nat):Int)=ed.block by omega] at f;rw[f] at d;obtain⟨m,hm⟩:=Ny l;have o:=(Jh.1 hm).1;obtain⟨y,k⟩:∃y,ed.args[m]? =some y:=⟨_,Jd Zo⟩
 refine⟨.arg x y,?_,rfl⟩;unfold evB;refine Qf _ (Qx.2 ⟨ed,g,Nu.2 ⟨(x,y),?_,rfl⟩⟩);rw[f];exact Ji (List.getElem?_zip_eq_some.2 ⟨hm,k⟩)
theorem rr{E:IEnv}{os:List IOp}{v:Int->Nat}{r:Nat}(hf:0<m.fuel)(hs:oV E call o v m.pay=.ok r m'):iq E call (o::os) v m=iq E call os (setV v o.res r) m':=by
 show(if m.fuel<=0 then Res.trap 7 0 m else match oV E call o v m.pay with|.ok r m'=>iq E call os (setV v o.res r) m'|.trap k i m'=> .trap k i m')=_
 rw[if_neg Zo,hs]
theorem agJ{E:IEnv}{os:List IOp}{v:Int->Nat}{i:Nat}(hf:0<m.fuel)(hs:oV E call o v m.pay=.trap k i m'):iq E call (o::os) v m=.trap k i m':=by
 unfold iq;rw[if_neg Zo,hs]
theorem agx{E:IEnv}{n:Nat}{args:List Nat}{v v2:Int->Nat}(h:iq E call (xz blocks c).ops (r7 (xz blocks c).params args v) m=.ok v2 m2)(hf:0<m2.fuel)(hk:(xz blocks c).term.kind=4):
 tJ E call blocks (n+1) c args v m=.ok (if(xz blocks c).term.a=-1 then 0 else v2 (xz blocks c).term.a) m2.pay:=by
 rw[tJ];rw[h];simp only;rw[if_neg Zo,if_pos hk]
theorem afG{E:IEnv}{n:Nat}{args:List Nat}{v:Int->Nat}{i:Nat}(h:iq E call (xz blocks c).ops (r7 (xz blocks c).params args v) m=.trap k i m2):
 tJ E call blocks (n+1) c args v m=.trap k i m2:=by
 rw[tJ];rw[h]
end Go.Proofs.YtoahcpkibpomcaaGreat
set_option maxRecDepth 100000
namespace Go.Proofs.YtoahcpkibpomcaaGreat
open Go.ChangeShapes Go.WideShapes Go.ChangeAt Go.RowKit
variable {c i x:Int}{N f j k vb:Nat}{w w' w0:World}{K:SK}{o:IOp}{g:List (List Nat)}{m m' m2:Mach}{d d':wO}{bl blocks:List IBlk}{call:Int->List Nat->Mach->Res Nat}
section
variable {H:Type} {enc:TypeId×Value->H} {W:World} {v:Value} {d:DataW H} {p:List MemPlace} {r:Go.Reach} {base:Nat}
theorem afB (hv:Value.okWide Tryz.prog W r base 71 v)(h0:DataW.Trod enc Tryz.prog W 0 (fun _=>true) true 71 v d p):∃q0 q1 q2 q3:Nat,v=.agg #[.int .u16 (q0:Int),.int .u16 (q1:Int),.int .u16 (q2:Int),.int .u16 (q3:Int)]/\(q0<65536/\q1<65536/\q2<65536/\q3<65536):=by
 have c2:Tryz.prog.cellsOf 71=4:=by kernel_rfl
 have c1:Tryz.prog.cellsOf 43=1:=by kernel_rfl
 simp only[Value.okWide,Tryz.underlying71] at hv;obtain⟨cs,rfl,g,_⟩:=hv;rw[c2] at g;obtain⟨fuel,hf⟩:=h0;simp only[Value.cells] at hf;obtain⟨zs,e,hl,f⟩:=acP Tryz.underlying71 Tryz.underlying43 c1 (by simpa using g) hf
 obtain⟨a,b,c,d,rfl⟩:∃a b c d,zs=[a,b,c,d]:=by
  match zs,hl with
  | [a,b,c,d],_=>exact⟨a,b,c,d,rfl⟩
 obtain⟨x,rfl,k⟩:=a8 (f a Zs);obtain⟨y,rfl,j⟩:=a8 (f b Zs);obtain⟨x2,rfl,i⟩:=a8 (f c Zs);obtain⟨x3,rfl,h⟩:=a8 (f d Zs);refine⟨x,y,x2,x3,?_,k,j,i,h⟩
 have e2:cs=#[.int .u16 (x:Int),.int .u16 (y:Int),.int .u16 (x2:Int),.int .u16 (x3:Int)]:=by
  rw[<-Array.toArray_toList (xs:=cs),e];rfl
 rw[e2]
end
end Go.Proofs.YtoahcpkibpomcaaGreat
