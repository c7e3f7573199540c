/- Part of a proof. -/
import Derived.Test.YtoahcpkibpomcaaGreatGZl2v
set_option linter.all false
set_option maxHeartbeats 16000000
set_option maxRecDepth 100000
namespace Go.Proofs.YtoahcpkibpomcaaGreat
open Go.RowKit
variable {c j:Int}{W w w':World}{K:SK}{k:Nat}{o:IOp}
theorem aeK (x:Int)(h:(decide (-100<=x) && decide (x<=100))=true):I64 x:=by
 simp only[Jm,decide_eq_true_eq] at h;exact⟨by omega,by omega⟩
def afs (c:Int)(a b:Nat)(j:Int):List (IOp×Value):=[(⟨1,0,0,0,a,[]⟩,L),(⟨1,1,0,0,b,[]⟩,L),(⟨c,2,0,j,0,[]⟩,L)]
def exP (c:Int)(a b:Nat)(j:Int):IProg:=rd ⟨4,2,[]⟩ ((afs c a b j).map (·.1))
theorem exOps_ok(h:3<=c/\c<=17){a b:Nat}(d:a<65536)(hb:b<65536)(g:0<=j/\j<=1):oz (afs c a b j):=by
 intro q hq;simp only[afs,Jq,List.not_mem_nil,or_false] at hq;rcases hq with rfl|rfl|rfl
 ·exact⟨⟨aeK _ rfl,aeK _ rfl,aeK _ rfl,aeK _ rfl,d⟩,rfl,rfl⟩
 ·exact⟨⟨aeK _ rfl,aeK _ rfl,aeK _ rfl,aeK _ rfl,hb⟩,rfl,rfl⟩
 ·exact⟨⟨⟨by show _<=c;omega,by show c<=_;omega⟩,aeK _ rfl,aeK _ rfl,⟨by show _<=j;omega,by show j<=_;omega⟩,by show 0<65536;omega⟩,rfl,rfl⟩
def exJ (c:Int):Int:=if c=3∨c=4 then 0 else 1
theorem ag8(d:3<=c/\c<=17)(a b:Nat):vC (exP c a b (exJ c))=0:=by
 have h:c=3∨c=4∨c=5∨c=6∨c=7∨c=8∨c=9∨c=10∨c=11∨c=12∨c=13∨c=14∨c=15∨c=16∨c=17:=Zo;rcases h with rfl|rfl|rfl|rfl|rfl|rfl|rfl|rfl|rfl|rfl|rfl|rfl|rfl|rfl|rfl<;>rfl
def exV (c:Int)(a b:Nat):Nat:=if c=8/\b=0 then 0 else afm c a b
def exF (c:Int)(b:Nat):Bool:=decide (¬(c=8/\b=0))
def exR (c:Int)(a b:Nat):IRun:=if c=8/\b=0 then⟨0,[],4,0,v7 ⟨#[]⟩,0,0⟩ else⟨afm c a b,[],6,0,v7 ⟨#[]⟩,0,0⟩
theorem exP_run(d:3<=c/\c<=17)(a b:Nat):bQ ⟨exP c a b (exJ c),[],[]⟩ 0 [] ⟨#[]⟩ 10=exR c a b:=by
 unfold exR;have h:c=3∨c=4∨c=5∨c=6∨c=7∨c=8∨c=9∨c=10∨c=11∨c=12∨c=13∨c=14∨c=15∨c=16∨c=17:=Zo;rcases h with rfl|rfl|rfl|rfl|rfl|rfl|rfl|rfl|rfl|rfl|rfl|rfl|rfl|rfl|rfl
 case inr.inr.inr.inr.inr.inl=>
  cases b with
  |zero=>rfl
  |succ b=>rfl
 all_goals rfl
theorem ex_prog{a b:Nat}(g:oz (afs c a b j))(i:(((((w.alloc (T #[I 1,I 0,I 0,I 0,U a,L,I 1,I 1,I 0,I 0,U b,L,I c,I 2,I 0,I j,U 0,L] 76)).alloc (T #[L,F w.heap.size 3 3,I 4,I 2,L] 84)).alloc (T #[F (w.heap.size+1) 1 1] 39)).alloc (T #[I 0] 3)).alloc (T #[F (w.heap.size+1+1) 1 1,F (w.heap.size+1+1+1) 1 1,I 0,I (-1),L,L] 29))=W):
 O w W/\ProgIn W W.heap.size ⟨F (w.heap.size+1+1) 1 1,F (w.heap.size+1+1+1) 1 1,L,L⟩ (exP c a b j)/\Q W (w.heap.size+1+1+1+1) #[F (w.heap.size+1+1) 1 1,F (w.heap.size+1+1+1) 1 1,I 0,I (-1),L,L] 29:=by
 have hb:O w (((((w.alloc (T #[I 1,I 0,I 0,I 0,U a,L,I 1,I 1,I 0,I 0,U b,L,I c,I 2,I 0,I j,U 0,L] 76)).alloc (T #[L,F w.heap.size 3 3,I 4,I 2,L] 84)).alloc (T #[F (w.heap.size+1) 1 1] 39)).alloc (T #[I 0] 3)).alloc (T #[F (w.heap.size+1+1) 1 1,F (w.heap.size+1+1+1) 1 1,I 0,I (-1),L,L] 29)):=(((((Below.refl _ _).alloc (Je _) _).alloc Zs _).alloc Zt _).alloc Zt _).alloc Zt _;have h:Q (((((w.alloc (T #[I 1,I 0,I 0,I 0,U a,L,I 1,I 1,I 0,I 0,U b,L,I c,I 2,I 0,I j,U 0,L] 76)).alloc (T #[L,F w.heap.size 3 3,I 4,I 2,L] 84)).alloc (T #[F (w.heap.size+1) 1 1] 39)).alloc (T #[I 0] 3)).alloc (T #[F (w.heap.size+1+1) 1 1,F (w.heap.size+1+1+1) 1 1,I 0,I (-1),L,L] 29)) w.heap.size ((afs c a b j).flatMap zU).toArray 76:=zB (zB (zB (zB (zI rfl))));have h1:Q (((((w.alloc (T #[I 1,I 0,I 0,I 0,U a,L,I 1,I 1,I 0,I 0,U b,L,I c,I 2,I 0,I j,U 0,L] 76)).alloc (T #[L,F w.heap.size 3 3,I 4,I 2,L] 84)).alloc (T #[F (w.heap.size+1) 1 1] 39)).alloc (T #[I 0] 3)).alloc (T #[F (w.heap.size+1+1) 1 1,F (w.heap.size+1+1+1) 1 1,I 0,I (-1),L,L] 29)) (w.heap.size+1) #[L,F w.heap.size 3 3,I 4,I 2,L] 84:=zB (zB (zB (zI Zs)));have h2:Q (((((w.alloc (T #[I 1,I 0,I 0,I 0,U a,L,I 1,I 1,I 0,I 0,U b,L,I c,I 2,I 0,I j,U 0,L] 76)).alloc (T #[L,F w.heap.size 3 3,I 4,I 2,L] 84)).alloc (T #[F (w.heap.size+1) 1 1] 39)).alloc (T #[I 0] 3)).alloc (T #[F (w.heap.size+1+1) 1 1,F (w.heap.size+1+1+1) 1 1,I 0,I (-1),L,L] 29)) (w.heap.size+1+1) #[F (w.heap.size+1) 1 1] 39:=zB (zB (zI Zs));have h3:Q (((((w.alloc (T #[I 1,I 0,I 0,I 0,U a,L,I 1,I 1,I 0,I 0,U b,L,I c,I 2,I 0,I j,U 0,L] 76)).alloc (T #[L,F w.heap.size 3 3,I 4,I 2,L] 84)).alloc (T #[F (w.heap.size+1) 1 1] 39)).alloc (T #[I 0] 3)).alloc (T #[F (w.heap.size+1+1) 1 1,F (w.heap.size+1+1+1) 1 1,I 0,I (-1),L,L] 29)) (w.heap.size+1+1+1) #[I 0] 3:=zB (zI Zs);have d:Q (((((w.alloc (T #[I 1,I 0,I 0,I 0,U a,L,I 1,I 1,I 0,I 0,U b,L,I c,I 2,I 0,I j,U 0,L] 76)).alloc (T #[L,F w.heap.size 3 3,I 4,I 2,L] 84)).alloc (T #[F (w.heap.size+1) 1 1] 39)).alloc (T #[I 0] 3)).alloc (T #[F (w.heap.size+1+1) 1 1,F (w.heap.size+1+1+1) 1 1,I 0,I (-1),L,L] 29)) (w.heap.size+1+1+1+1) #[F (w.heap.size+1+1) 1 1,F (w.heap.size+1+1+1) 1 1,I 0,I (-1),L,L] 29:=zI Zs;rw[i] at hb h h1 h2 h3 d;have k:=lt_of_block d;refine⟨hb,⟨?_,?_,yN.nil,yN.nil,aeK _ rfl,aeK _ rfl⟩,d⟩
 ·refine yN.one Zo ⟨F (w.heap.size+1) 1 1,zA h2 Zs,yN.one Zo ?_⟩;exact⟨zA h1 Zs,zA h1 Zs,⟨aeK _ rfl,aeK _ rfl⟩,L,F w.heap.size 3 3,L,zA h1 Zs,zA h1 Zs,zA h1 Zs,yN.nil,agP (l:=afs c a b j) h Zo (eV g _ _) (by show 3<=1000000;decide),yN.nil⟩
 ·exact yN.one Zo ⟨zA h3 Zs,aeK _ rfl⟩
theorem exR_form (c:Int)(a b:Nat):∃k:Nat,exR c a b=⟨exV c a b,[],k,0,v7 ⟨#[]⟩,0,0⟩/\((k:Int)==6)=exF c b:=by
 unfold exR exV exF
 by_cases h:c=8/\b=0
 ·rw[if_pos h,if_pos h];exact⟨4,rfl,by rw[decide_eq_false (fun k=>k h)];rfl⟩
 ·rw[if_neg h,if_neg h];exact⟨6,rfl,by rw[decide_eq_true h];rfl⟩
theorem agU(hc:3<=c/\c<=17){a b:Nat}(ha:a<65536)(hb:b<65536)(w:World):
 G 123 #[I c,U a,U b] w (fun e w'=>e=.returned (.tuple #[U (exV c a b:Int),.bool (exF c b)])/\O w w'):=by
 obtain⟨S,hS⟩:∃S,y9 (v7 ⟨#[]⟩)=S:=⟨_,rfl⟩
 obtain⟨k,hk,hf⟩:=exR_form c a b;have g:=exP_run hc a b;rw[hk] at g;have a0:=hc;have m:=exOps_ok hc ha hb (j:=exJ c) (by unfold exJ;split<;>omega);obtain⟨v,hv⟩:∃v,exV c a b=v:=⟨_,rfl⟩
 obtain⟨f,x⟩:∃f,exF c b=f:=⟨_,rfl⟩
 rw[hv] at g ⊢;rw[x] at hf ⊢
 have y:∀(j:Int),exJ c=j->∀(W:World),(((((w.alloc (T #[I 1,I 0,I 0,I 0,U a,L,I 1,I 1,I 0,I 0,U b,L,I c,I 2,I 0,I j,U 0,L] 76)).alloc (T #[L,F w.heap.size 3 3,I 4,I 2,L] 84)).alloc (T #[F (w.heap.size+1) 1 1] 39)).alloc (T #[I 0] 3)).alloc (T #[F (w.heap.size+1+1) 1 1,F (w.heap.size+1+1+1) 1 1,I 0,I (-1),L,L] 29))=W->O w W/\Q W (w.heap.size+1+1+1+1) #[F (w.heap.size+1+1) 1 1,F (w.heap.size+1+1+1) 1 1,I 0,I (-1),L,L] 29/\G 143 #[.agg #[F (w.heap.size+1+1) 1 1,F (w.heap.size+1+1+1) 1 1,I 0,I (-1),L,L],I 0,L,.string ⟨#[]⟩,.agg #[L,L],I 10] W (fun e w'=>∃oa1 oc1,e=.returned (.agg #[U v,.slice oa1 0 oc1,I k,U 0,.string S,I 0,I 0])/\O W w'):=fun j l W hW=>by
  subst l;obtain⟨h1,h2,h3⟩:=ex_prog m hW;refine⟨h1,h3,?_⟩;have a5:=uL (t:=⟨4,2,[]⟩) (ops:=(afs c a b (exJ c)).map (·.1)) (by show 3<=2000000;decide) Zd
  have:=(eval_ex h2 rfl (fun W hb=>by have:=tu ((h2.below hb).mono hb.size) (Je _) (fun f hf=>(a5 f hf).1);rw[ag8 a0 a b] at this;exact this) 0 ⟨by decide,by show 0<1;decide⟩ yN.nil rfl ⟨#[]⟩ Zd yN.nil yN.nil 10 (aeK _ rfl) Zd
   (fun K W ov hK hM=>by
     refine call_ex K (bk:=⟨[],(afs c a b (exJ c)).map (·.1),⟨4,2,[]⟩⟩) (by rw[hK];rfl) rfl rfl rfl (fun o ho=>?_) (by show 3<=3;decide) hM rfl;simp only[afs,Ql,List.map_nil,Jq,List.not_mem_nil,or_false] at ho;rcases ho with rfl|rfl|rfl
     ·exact⟨.inl rfl,by show(0:Int)<=0;decide⟩
     ·exact⟨.inl rfl,by show(0:Int)<=1;decide⟩
     ·refine⟨?_,by show(0:Int)<=2;decide⟩
      show ae8 c
      unfold ae8
      omega)).mono (fun e w' h=>h.open)
  rw[g] at this;rw[<-hS];exact this.mono (fun e w' ⟨oa1,oc1,h1,_,h3⟩=>⟨oa1,oc1,h1,h3⟩)
 have a4:=Ja y;have HF:=Ja hf;obtain⟨q3,h3⟩:∃q,(c==3)=q:=⟨_,rfl⟩
 obtain⟨q4,h4⟩:∃q,(c==4)=q:=⟨_,rfl⟩
 have l:exJ c=if q3||q4 then 0 else 1:=by
  unfold exJ;rw[<-h3,<-h4];simp only[Bool.or_eq_true,beq_iff_eq]
 have HJ:=Ja l;clear l y hf g m hv x hk hS ha hb hc a0;go_enter Tryz.func123,Tryz.ntmps123;cases q3;cases q4
 all_goals (
  go_upto_region 5 with(go_at_call 999999;skip)
  generalize a3:World.alloc _ _=P1;have d:=Ja (a4.out _ HJ.out P1 a3);clear a3 a4 HJ;have x0:=K0 d.out.2.1;have x1:=K1 d.out.2.1;have x2:=K2 d.out.2.1;have x3:=K3 d.out.2.1;have x4:=K4 d.out.2.1;have x5:=K5 d.out.2.1;go_upto_region 6 with(go_at_call 143;go_must (refine(d.out.2.2).mono ?_;rintro e w1 ⟨oa1,oc1,rfl,hb⟩))
  clear x0 x1 x2 x3 x4 x5;have hx:=zI (W:=w1) (o:=T #[U v,.slice oa1 0 oc1,I k,U 0,.string S,I 0,I 0] 57) rfl;have a2:=(Below.refl w1.heap.size w1).alloc (Je _) (T #[U v,.slice oa1 0 oc1,I k,U 0,.string S,I 0,I 0] 57);have a1:=(d.out.1.trans ((hb.trans (a2.mono hb.size)).mono d.out.1.size))
  generalize hW:w1.alloc (T #[U v,.slice oa1 0 oc1,I k,U 0,.string S,I 0,I 0] 57)=R1 at *;generalize hc:w1.heap.size=r1 at *;have i:=Ja (Jb a1 hx);clear hb hx a2 a1 hW hc d;have y0:=K0 i.out.2;have y2:=K2 i.out.2;have u:=lt_of_block i.out.2;have HC:=Ja (show ∀W',O R1 W'->A W' r1 0 (U v)/\A W' r1 2 (I k) from fun W' hb=>⟨(hb.cell (p:=⟨r1,0,none⟩) u).trans y0,(hb.cell (p:=⟨r1,2,none⟩) u).trans y2⟩);have a6:=HF.out
  go_region_held3 (fun w'=>A w' r1 0 (U v)/\A w' r1 2 (I k)) ((refine HC.out _ ?_;repeat' (first|with_reducible exact Below.refl _ _|with_reducible assumption|with_reducible refine Below.drew ?_))) (fail)
  all_goals go_wp2
  all_goals refine bodyPost_ret (v:=.tuple #[U v,.bool f]) (by simp[results,Tryz.results123,go_sem]) rfl ?_
  all_goals (refine⟨rfl,i.out.1.trans (Below.mono (B:=R1.heap.size) ?_ i.out.1.size)⟩;repeat' (first|with_reducible exact Below.refl _ _|with_reducible assumption|with_reducible refine Below.drew ?_)))
theorem ruG_ge{f:Nat}(h:ruG c=some f):3<=c:=by
 by_cases d:3<=c
 ·exact d
 ·simp only[ruG,putR] at h
  iterate 17 rw[if_neg Zo] at h
  cases h
theorem af2{p:IProg}{t:List IBlk}{s:Slv}(h:SlvAt w K p t k s)(av:Value)(h1:o.code≠1)(h2:o.code≠2)(h64:I64 o.code)(hr:ruG o.code=none):
 G 96 #[Y K.sb,aam o av] w (lx w (afq p s o)):=by
 rw[show afq p s o=vu by unfold afq;rw[if_neg h1,if_neg h2];unfold ahd;rw[ruG_none hr]];obtain⟨c,d,a,b,n,al⟩:=o;have h1:c≠1:=h1;have h2:c≠2:=h2;have e1:(c==1)=false:=by simpa using h1
 have e2:(c==2)=false:=by simpa using h2
 have hr:ruG c=none:=hr
 have u:=Ja (show ∀W,O w W->(Instr.lookup 95 (.map (some K.rm)) (I c) true).run Tryz.prog W=.ok (.tuple #[.nilFunc,.bool false]) W from fun W hb=>by
  have:=(h.below hb).map.lookOk h64
  rw[hr] at this;exact this)
 have x:=Ja (show ∀W,O w W->A W K.sb 7 (.map (some K.rm)) from fun W hb=>(h.below hb).cells.2.1);unfold aam;clear h h1 h2 h64 hr;go_enter Tryz.func96,Tryz.ntmps96;go_upto_region 6 with(go_at_call 999999;skip)
 obtain⟨X,q⟩:∃X,(w.alloc (T #[I c,I d,I a,I b,U n,av] 76)).alloc (T #[U 0,U 0] 45)=X:=⟨_,rfl⟩
 have g:=Ja (show O w X/\Q X w.heap.size #[I c,I d,I a,I b,U n,av] 76/\Q X (w.heap.size+1) #[U 0,U 0] 45 from by
  rw[<-q];exact⟨Zv,zB (zI rfl),zI Zs⟩)
 rw[q];clear q;have m:=Ja (show ∀W,O X W->A W K.sb 7 (.map (some K.rm))/\A W w.heap.size 0 (I c) from fun W hb=>⟨x.out W (g.out.1.trans (hb.mono g.out.1.size)),zA (zH hb g.out.2.1 (lt_of_block g.out.2.1)) rfl⟩);obtain⟨c0,c1⟩:=m.out X (Below.refl _ _);have hl:=u.out X.drew g.out.1.drew
 go_region_held3 (fun w'=>A w' K.sb 7 (.map (some K.rm))/\A w' w.heap.size 0 (I c)) ((refine m.out _ ?_;repeat' (first|with_reducible exact Below.refl _ _|with_reducible assumption|with_reducible refine Below.drew ?_)))
  (fail)
 all_goals go_wp2_with (go_at_call 39;go_must (refine(d8 _).mono ?_;rintro e w1 ⟨rfl,l⟩;have j:O X w1:=Below.trans (show O X _ from Zf) (l.mono (Je _));clear l;have hk:=zH j g.out.2.2 (lt_of_block g.out.2.2);have f0:=zA (i:=0) hk rfl;have f1:=zA (i:=1) hk rfl;have g0:=zE (i:=0) hk;have g1:=zE (i:=1) hk;have y:=lt_of_block hk;have a0:=g.out.1.trans (j.mono g.out.1.size)))
 all_goals (refine bodyPost_ret (v:=.agg #[U 0,U 65535]) ?_ rfl ⟨rfl,Zj⟩;rw[zM rfl];go_simp)
theorem ruG_mem{f:Nat}(h:ruG c=some f):f=70∨f=72∨f=73∨f=74∨f=75∨f=77∨f=78∨f=79∨f=81∨f=82∨f=84∨f=85∨f=86∨f=88∨f=89∨f=90∨f=91:=by
 simp only[ruG,putR] at h
 by_cases d:c=23
 ·rw[if_pos d] at h;cases h;simp
 rw[if_neg d] at h
 by_cases g:c=19
 ·rw[if_pos g] at h;cases h;simp
 rw[if_neg g] at h
 by_cases i:c=17
 ·rw[if_pos i] at h;cases h;simp
 rw[if_neg i] at h
 by_cases j:c=16
 ·rw[if_pos j] at h;cases h;simp
 rw[if_neg j] at h
 by_cases k:c=15
 ·rw[if_pos k] at h;cases h;simp
 rw[if_neg k] at h
 by_cases l:c=14
 ·rw[if_pos l] at h;cases h;simp
 rw[if_neg l] at h
 by_cases m:c=13
 ·rw[if_pos m] at h;cases h;simp
 rw[if_neg m] at h
 by_cases o:c=12
 ·rw[if_pos o] at h;cases h;simp
 rw[if_neg o] at h
 by_cases q:c=11
 ·rw[if_pos q] at h;cases h;simp
 rw[if_neg q] at h
 by_cases t:c=10
 ·rw[if_pos t] at h;cases h;simp
 rw[if_neg t] at h
 by_cases u:c=9
 ·rw[if_pos u] at h;cases h;simp
 rw[if_neg u] at h
 by_cases w:c=8
 ·rw[if_pos w] at h;cases h;simp
 rw[if_neg w] at h
 by_cases x:c=7
 ·rw[if_pos x] at h;cases h;simp
 rw[if_neg x] at h
 by_cases y:c=6
 ·rw[if_pos y] at h;cases h;simp
 rw[if_neg y] at h
 by_cases h5:c=5
 ·rw[if_pos h5] at h;cases h;simp
 rw[if_neg h5] at h
 by_cases h4:c=4
 ·rw[if_pos h4] at h;cases h;simp
 rw[if_neg h4] at h
 by_cases h3:c=3
 ·rw[if_pos h3] at h;cases h;simp
 rw[if_neg h3] at h;cases h
theorem appF_by{x y r:Rg}(hr:afj c x y=some r):ahd c x y=if(decide (c<=17) && (sq x && (((c==3)||(c==4))||sq y)))=true then(if exF c y.lo=true then agn (exV c x.lo y.lo) else vu) else r:=by
 unfold ahd;rw[hr];simp only[Jm,Bool.or_eq_true,decide_eq_true_eq,beq_iff_eq]
 split
 ·unfold exF exV;simp only[decide_eq_true_eq]
  by_cases h:c=8/\y.lo=0
  ·rw[if_pos h,if_neg (fun k=>k h)]
  ·rw[if_neg h,if_pos h,if_neg h]
 ·rfl
theorem af0{p:IProg}{e0:List IBlk}{s:Slv}(h:SlvAt w K p e0 k s)(av:Value)(h1:o.code≠1)(h2:o.code≠2)(h64:I64 o.code){f:Nat}(hr:ruG o.code=some f)
 (ha:0<=o.a/\o.a<K.n) (hb:0<=o.b/\o.b<K.n):
 G 96 #[.pointer (some ⟨K.sb,0,none⟩),aam o av] w (lx w (afq p s o)):=by
 rw[show afq p s o=ahd o.code (s.get o.a) (s.get o.b) by unfold afq;rw[if_neg h1,if_neg h2]];obtain⟨c,d,a,b,n,al⟩:=o;have h1:c≠1:=h1;have h2:c≠2:=h2;have e1:(c==1)=false:=by simpa using h1
 have e2:(c==2)=false:=by simpa using h2
 have hr:ruG c=some f:=hr;have h64:I64 c:=h64;have ha:0<=a/\a<K.n:=ha;have hb:0<=b/\b<K.n:=hb
 show Calls _ _ _ _ (lx w (ahd c (s.get a) (s.get b)))
 have b2:=fun(W:World) (hW:O w W)=>(h.below hW).rcell ha
 have b1:=fun(W:World) (hW:O w W)=>(h.below hW).rcell hb
 have b9:=h.oks.get a;have b6:=h.oks.get b;obtain⟨u,rfl⟩:∃u:Nat,a=u:=⟨a.toNat,by omega⟩
 obtain⟨v,rfl⟩:∃v:Nat,b=v:=⟨b.toNat,by omega⟩
 generalize s.get (u:Int)=x at *;generalize s.get (v:Int)=y at *;have hn:=h.n64;have hu:u<K.n:=Zo;have hv:v<K.n:=Zo
 have HL:=Ja (show ∀W,O w W->(Instr.lookup 95 (.map (some K.rm)) (I c) true).run Tryz.prog W=.ok (.tuple #[.func (.func f) #[] #[],.bool true]) W from fun W hb=>by
  have:=(h.below hb).map.lookOk h64
  rw[hr] at this;exact this)
 have HC:=Ja (show ∀W,O w W->A W K.sb 7 (.map (some K.rm))/\A W K.sb 8 (F K.rb K.n K.n)/\A W K.rb (u*2) (U (x.lo:Int))/\A W K.rb (u*2+1) (U (x.hi:Int))/\A W K.rb (v*2) (U (y.lo:Int))/\A W K.rb (v*2+1) (U (y.hi:Int)) from fun W hb=>⟨(h.below hb).cells.2.1,(h.below hb).cells.2.2.1,(b2 W hb).1,(b2 W hb).2,(b1 W hb).1,(b1 W hb).2⟩);obtain⟨R,hR⟩:∃R,ahd c x y=R:=⟨_,rfl⟩
 have l:=Ja (Jb hr (Jb b9 (Jb b6 hR)));rw[hR];unfold aam;clear h h1 h2 h64 hr b2 b1 b9 b6 ha hb hR;go_enter Tryz.func96,Tryz.ntmps96;go_upto_region 6 with(go_at_call 999999;skip)
 obtain⟨X,hX⟩:∃X,(w.alloc (T #[I c,I d,I u,I v,U n,av] 76)).alloc (T #[U 0,U 0] 45)=X:=⟨_,rfl⟩
 have j:=Ja (show O w X/\X.heap[w.heap.size]? =some (T #[I c,I d,I u,I v,U n,av] 76)/\X.heap[w.heap.size+1]? =some (T #[U 0,U 0] 45) from by
  rw[<-hX];exact⟨Zv,zB (zI rfl),zI Zs⟩)
 rw[hX];clear hX;have b4:=Ja (show ∀W,O X W->A W K.sb 7 (.map (some K.rm))/\A W w.heap.size 0 (I c) from fun W hb=>⟨(HC.out W (j.out.1.trans (hb.mono j.out.1.size))).1,zA (zH hb j.out.2.1 (lt_of_block j.out.2.1)) rfl⟩);have b3:=Ja (show ∀W,O X W->(A W w.heap.size 2 (I u)/\A W w.heap.size 3 (I v))/\(A W K.sb 8 (F K.rb K.n K.n)/\A W K.rb (u*2) (U (x.lo:Int))/\A W K.rb (u*2+1) (U (x.hi:Int))/\A W K.rb (v*2) (U (y.lo:Int))/\A W K.rb (v*2+1) (U (y.hi:Int))) from fun W hb=>⟨⟨zA (zH hb j.out.2.1 (lt_of_block j.out.2.1)) rfl,zA (zH hb j.out.2.1 (lt_of_block j.out.2.1)) rfl⟩,(HC.out W (j.out.1.trans (hb.mono j.out.1.size))).2⟩);obtain⟨c0,c1⟩:=b4.out X (Below.refl _ _);have hl:=HL.out X.drew j.out.1.drew
 go_region_held3 (fun w'=>A w' K.sb 7 (.map (some K.rm))/\A w' w.heap.size 0 (I c)) ((refine b4.out _ ?_;repeat' (first|with_reducible exact Below.refl _ _|with_reducible assumption|with_reducible refine Below.drew ?_)))
  (fail)
 all_goals go_upto_region 9 with(go_at_call 999999;skip)
 all_goals clear c0 c1 hl
 go_cut [7,8] (fun s t wx=>∃b7 b8,s=.pointer (some ⟨b7,0,none⟩)/\t=.pointer (some ⟨b8,0,none⟩)/\Hid (wx.heap[b7]? =some (T #[U (x.lo:Int),U (x.hi:Int)] 45)/\wx.heap[b8]? =some (T #[U (y.lo:Int),U (y.hi:Int)] 45)/\O X wx))
 case first=>
  obtain⟨⟨c0,c1⟩,c2,c3,c4,c5,c6⟩:=b3.out X.drew (Below.refl _ _).drew
  go_region_held3 (fun w'=>(A w' w.heap.size 2 (I u)/\A w' w.heap.size 3 (I v))/\(A w' K.sb 8 (F K.rb K.n K.n)/\A w' K.rb (u*2) (U (x.lo:Int))/\A w' K.rb (u*2+1) (U (x.hi:Int))/\A w' K.rb (v*2) (U (y.lo:Int))/\A w' K.rb (v*2+1) (U (y.hi:Int)))) ((refine b3.out _ ?_;repeat' (first|with_reducible exact Below.refl _ _|with_reducible assumption|with_reducible refine Below.drew ?_|with_reducible refine Below.alloc ?_ Zn _|with_reducible refine Below.setCell ?_ Zn _)))
  (fail)
  all_goals go_wp2_with fail
  all_goals go_meet
  all_goals exact⟨_,_,rfl,rfl,by first|exact zB (zI rfl)|exact zI Zs,by first|exact zB (zI rfl)|exact zI Zs,by repeat' (first|with_reducible exact Below.refl _ _|with_reducible assumption|with_reducible refine Below.drew ?_|with_reducible refine Below.alloc ?_ Zn _|with_reducible refine Below.setCell ?_ Zn _)⟩
 case rest=>
  obtain⟨b7,b8,rfl,rfl,HY⟩:=hcut
  rename World=>Y
  have c9:=j.out.1.trans (HY.out.2.2.mono j.out.1.size);have d0:=zH HY.out.2.2 j.out.2.2 (lt_of_block j.out.2.2);have d1:=zH HY.out.2.2 j.out.2.1 (lt_of_block j.out.2.1);have HB:=Ja (Jb c9 (Jb d1 d0));clear c9 d0 d1 b3 b4 HC HL;have HZ:=Ja (show ∀W,O Y W->A W b7 0 (U (x.lo:Int))/\A W b7 1 (U (x.hi:Int))/\A W b8 0 (U (y.lo:Int))/\A W b8 1 (U (y.hi:Int))/\A W w.heap.size 0 (I c) from fun W hb=>⟨zA (zH hb HY.out.1 (lt_of_block HY.out.1)) rfl,zA (zH hb HY.out.1 (lt_of_block HY.out.1)) rfl,zA (zH hb HY.out.2.1 (lt_of_block HY.out.2.1)) rfl,zA (zH hb HY.out.2.1 (lt_of_block HY.out.2.1)) rfl,zA (zH hb HB.out.2.1 (lt_of_block HB.out.2.1)) rfl⟩);obtain⟨q3,h3⟩:∃q,(c==3)=q:=⟨_,rfl⟩
  obtain⟨q4,h4⟩:∃q,(c==4)=q:=⟨_,rfl⟩
  obtain⟨z0,z1,z2,z3,z4⟩:=HZ.out Y (Below.refl _ _);go_upto_region 10 with(go_at_call 999999;skip)
  go_cut [9] (fun s wx=>s=.bool (q3||q4)/\wx=Y)
  case first=>
   cases q3;cases q4
   all_goals go_wp2_with fail
   all_goals go_meet
   all_goals exact⟨rfl,rfl⟩
  case rest=>
   obtain⟨rfl,b5⟩:=hcut;rw[b5];clear b5;obtain⟨q9,h9⟩:∃q,(q3||q4)=q:=⟨_,rfl⟩
   obtain⟨sx,a6⟩:∃q,sq x=q:=⟨_,rfl⟩
   obtain⟨sy,a5⟩:∃q,sq y=q:=⟨_,rfl⟩
   obtain⟨Q,hQ⟩:∃Q,(decide (c<=17) && (sx && (q9||sy)))=Q:=⟨_,rfl⟩
   have a4:=Ja (fun W=>aeI W x);have d5:=Ja (fun W=>aeI W y);rw[a6] at a4;rw[a5] at d5;rw[h9];go_upto_region 11 with(go_at_call 999999;skip)
   have HQ:=Ja (Jb h3 (Jb h4 (Jb h9 (Jb a6 (Jb a5 hQ)))));clear h3 h4 h9 a6 a5
   go_cut [85] (fun s wx=>s=.bool Q/\Hid (O Y wx))
   case first=>
    by_cases d3:c<=17
    ·rw[decide_eq_true d3,Bool.true_and] at hQ;cases sx
     ·go_wp2_with (go_at_call 83;go_must (refine(a4.out _).mono ?_;rintro e w1 ⟨rfl,g⟩))
      go_meet;exact⟨by rw[<-hQ];rfl,g⟩
     ·cases q9
      ·go_wp2_with (go_at_call 83;go_must (first|(refine(a4.out Y).mono ?_;rintro e w1 ⟨rfl,g⟩;obtain⟨z0,z1,z2,z3,z4⟩:=HZ.out w1 g)|(refine(d5.out _).mono ?_;rintro e w2 ⟨rfl,a1⟩)))
       go_meet;exact⟨by rw[<-hQ];rfl,g.trans (a1.mono g.size)⟩
      ·go_wp2_with (go_at_call 83;go_must (refine(a4.out _).mono ?_;rintro e w1 ⟨rfl,g⟩))
       go_meet;exact⟨by rw[<-hQ];rfl,g⟩
    ·rw[decide_eq_false d3,Bool.false_and] at hQ;subst hQ;go_wp2_with fail;go_meet;exact⟨rfl,Below.refl _ _⟩
   case rest=>
    obtain⟨rfl,HW⟩:=hcut
    rename World=>Z
    have d2:=HB.out.1.trans (HW.out.mono HB.out.1.size);have a7:=zH HW.out HB.out.2.2 (lt_of_block HB.out.2.2);have HR:=Ja (Jb d2 a7);clear d2 a7;obtain⟨r,a2,_⟩:=af9 l.out.1 l.out.2.1 l.out.2.2.1 Z
    have HF:=Ja (show ∀W,G f #[.agg #[U (x.lo:Int),U (x.hi:Int)],.agg #[U (y.lo:Int),U (y.hi:Int)]] W (fun e w'=>e=.returned (.agg #[U (r.lo:Int),U (r.hi:Int)])/\O W w') from fun W=>by
     obtain⟨r',h1,h2⟩:=af9 l.out.1 l.out.2.1 l.out.2.2.1 W;rw[a2] at h1;cases h1
     exact h2)
    have hR:=appF_by a2;rw[l.out.2.2.2,HQ.out.1,HQ.out.2.1,HQ.out.2.2.1,HQ.out.2.2.2.1,HQ.out.2.2.2.2.1,HQ.out.2.2.2.2.2] at hR;have d7:=ruG_ge l.out.1;clear z0 z1 z2 z3 z4;obtain⟨z0,z1,z2,z3,z4⟩:=HZ.out Z HW.out;cases Q
    ·rw[if_neg Zd] at hR;subst hR;clear a2;rcases ruG_mem l.out.1 with rfl|rfl|rfl|rfl|rfl|rfl|rfl|rfl|rfl|rfl|rfl|rfl|rfl|rfl|rfl|rfl|rfl
     all_goals go_wp2_with ((first|go_at_call 70|go_at_call 72|go_at_call 73|go_at_call 74|go_at_call 75|go_at_call 77|go_at_call 78|go_at_call 79|go_at_call 81|go_at_call 82|go_at_call 84|go_at_call 85|go_at_call 86|go_at_call 88|go_at_call 89|go_at_call 90|go_at_call 91);go_must (refine(HF.out _).mono ?_;rintro e w1 ⟨rfl,g⟩;have m:O Z w1:=Below.trans (show O Z _ from Zf) (g.mono (Je _));clear g;have hk:=zH m HR.out.2 (lt_of_block HR.out.2);have f0:=zA (i:=0) hk rfl;have f1:=zA (i:=1) hk rfl;have g0:=zE (i:=0) hk;have g1:=zE (i:=1) hk;have c7:=lt_of_block hk;have c8:=HR.out.1.trans (m.mono HR.out.1.size)))
     all_goals (refine bodyPost_ret (v:=.agg #[U (R.lo:Int),U (R.hi:Int)]) ?_ rfl ⟨rfl,Zj⟩;rw[zM rfl];go_simp)
    ·rw[if_pos rfl] at hR
     have d6:c<=17:=by
      have:=HQ.out.2.2.2.2.2;simp only[Jm,decide_eq_true_eq] at this;exact this.1
     obtain⟨fv,a8⟩:∃q,exF c y.lo=q:=⟨_,rfl⟩
     obtain⟨ev,a9⟩:∃q,exV c x.lo y.lo=q:=⟨_,rfl⟩
     have b0:=fun W=>agU ⟨d7,d6⟩ (Nat.lt_of_le_of_lt (Jn l.out.2.1.1 l.out.2.1.2) Zd) (Nat.lt_of_le_of_lt (Jn l.out.2.2.1.1 l.out.2.2.1.2) Zd) W (a:=x.lo) (b:=y.lo)
     have a3:R=if fv=true then agn ev else vu:=by rw[<-a8,<-a9];exact hR
     rw[a8,a9] at b0;have d4:=Ja b0;have HO:=Ja (fun W=>afe W ev);clear b0 hR a8 a9 a2;cases fv
     ·rw[if_neg Zd] at a3;subst a3
      go_wp2_with (first
       |(go_at_call 123;go_must (refine(d4.out _).mono ?_;rintro e w1 ⟨rfl,g⟩;have a0:Below Z.heap.size Z w1:=Below.trans (show Below Z.heap.size Z _ from Zf) (g.mono (Je _));clear g))
       |(go_at_call 39;go_must (refine(d8 _).mono ?_;rintro e w2 ⟨rfl,a1⟩;have m:=a0.trans (a1.mono a0.size);clear a1 a0;have hk:=zH m HR.out.2 (lt_of_block HR.out.2);have f0:=zA (i:=0) hk rfl;have f1:=zA (i:=1) hk rfl;have g0:=zE (i:=0) hk;have g1:=zE (i:=1) hk;have c7:=lt_of_block hk;have c8:=HR.out.1.trans (m.mono HR.out.1.size))))
      refine bodyPost_ret (v:=.agg #[U 0,U 65535]) ?_ rfl ⟨rfl,Zj⟩;rw[zM rfl];go_simp
     ·rw[if_pos rfl] at a3;subst a3
      go_wp2_with (first
       |(go_at_call 123;go_must (refine(d4.out _).mono ?_;rintro e w1 ⟨rfl,g⟩;have a0:Below Z.heap.size Z w1:=Below.trans (show Below Z.heap.size Z _ from Zf) (g.mono (Je _));clear g))
       |(go_at_call 122;go_must (refine(HO.out _).mono ?_;rintro e w2 ⟨rfl,a1⟩;have m:=a0.trans (a1.mono a0.size);clear a1 a0;have hk:=zH m HR.out.2 (lt_of_block HR.out.2);have f0:=zA (i:=0) hk rfl;have f1:=zA (i:=1) hk rfl;have g0:=zE (i:=0) hk;have g1:=zE (i:=1) hk;have c7:=lt_of_block hk;have c8:=HR.out.1.trans (m.mono HR.out.1.size))))
      refine bodyPost_ret (v:=.agg #[U ev,U ev]) ?_ rfl ⟨rfl,Zj⟩;rw[zM rfl];go_simp
theorem ago{p:IProg}{g:List IBlk}{s:Slv}(h:SlvAt w K p g k s)(av:Value)(h64:I64 o.code)(i:o.n<65536)(c:o.code=2->0<=o.a/\o.a<p.data.length)
 (d:o.code≠1->o.code≠2->ruG o.code≠none->(0<=o.a/\o.a<K.n)/\0<=o.b/\o.b<K.n):
 G 96 #[Y K.sb,aam o av] w (lx w (afq p s o)):=by
 by_cases h1:o.code=1
 ·exact afX _ av h1 p s
 by_cases h2:o.code=2
 ·exact agC h av h2 (c h2) i
 cases hr:ruG o.code with
 |none=>exact af2 h av h1 h2 h64 hr
 |some f=>
  obtain⟨j,hb⟩:=d h1 h2 (by rw[hr];exact fun e=>by cases e);exact af0 h av h1 h2 h64 hr j hb
structure SlvTo (w w':World) (K:SK):Prop where
 os:w'.os=w.os
 tape:w'.tape=w.tape
 output:w'.output=w.output
 size:w.heap.size<=w'.heap.size
 block:∀i,i<w.heap.size->i≠K.rb->i≠K.kb->i≠K.sb->w'.heap[i]? =w.heap[i]?
theorem SlvTo.refl (w:World)(K:SK):SlvTo w w K:=⟨rfl,rfl,rfl,Je _,fun _ _ _ _ _=>rfl⟩
theorem SlvTo.trans{w1 w2:World}(h:SlvTo w w1 K)(d:SlvTo w1 w2 K):SlvTo w w2 K:=
 ⟨d.os.trans h.os,d.tape.trans h.tape,d.output.trans h.output,Jn h.size d.size,fun i hi a b c=>(d.block i (Jy hi h.size) a b c).trans (h.block i hi a b c)⟩
theorem SlvTo.of_below(h:O w w'):SlvTo w w' K:=⟨h.os,h.tape,h.output,h.size,fun i hi _ _ _=>h.block i hi⟩
theorem SlvTo.below(h:SlvTo w w' K){B:Nat}(hB:B<=K.rb/\B<=K.kb/\B<=K.sb/\B<=w.heap.size):Below B w w':=
 ⟨h.os,h.tape,h.output,h.size,fun i hi=>h.block i Zo Zo Zo Zo⟩
theorem agc (l:List Rg)(v:Nat)(a:Rg)(h:v<l.length):(((l.flatMap tr).toArray.setIfInBounds (v*2) (U (a.lo:Int))).setIfInBounds (v*2+1) (U (a.hi:Int)))=((l.set v a).flatMap tr).toArray:=by
 simp only[Jc]
 congr 1
 induction l generalizing v with
 |nil=>simp at h
 |cons x l ih=>
  cases v with
  |zero=>rfl
  |succ v=>
   have:=ih v (by simpa using h);rw[show(v+1)*2=v*2+1+1 by omega];simp only[Qa,Jg];rw[<-this];rfl
theorem ae6{p:IProg}{c:List IBlk}{s:Slv}(h:SlvAt w K p c k s){v:Nat}(hv:v<K.n):A w K.kb v (.bool (s.knw v)):=by
 refine zA h.kn ?_;have hl:v<s.kn.length:=by rw[h.oks.kl];exact hv
 unfold Slv.knw;simp[Jj,Jd hl,hl]
theorem SlvAt.put{X:World}{p:IProg}{j:List IBlk}{s:Slv}(h:SlvAt X K p j k s){v:Nat}(hv:v<K.n){a:Rg}(t:a.ok)
 (d:((X.setCell ⟨K.kb,v,none⟩ (.bool true)).setCell ⟨K.rb,v*2,none⟩ (U (a.lo:Int))).setCell ⟨K.rb,v*2+1,none⟩ (U (a.hi:Int))=W):
 SlvAt W K p j k (s.put v a)/\SlvTo X W K:=by
 have m:=h.ne;have c:=h.lt;have o:=zD (i:=v) h.kn (.bool true)
 have q:W.heap[K.kb]? =(X.setCell ⟨K.kb,v,none⟩ (.bool true)).heap[K.kb]?:=by
  rw[<-d,Below.heap_setCell _ _ _ _ (by show K.kb≠K.rb;omega),Below.heap_setCell _ _ _ _ (by show K.kb≠K.rb;omega)]
 have l:Q (X.setCell ⟨K.kb,v,none⟩ (.bool true)) K.rb (s.r.flatMap tr).toArray 45:=by
  rw[Below.heap_setCell _ _ _ _ (by show K.rb≠K.kb;omega)];exact h.row
 have g:=zD (i:=v*2+1) (zD (i:=v*2) l (U (a.lo:Int))) (U (a.hi:Int));rw[d] at g
 have hb:Below K.B X W:=by
  rw[<-d];exact(((Below.refl K.B X).setCell c.2.2.1 _).setCell c.2.1 _).setCell c.2.1 _
 have ho:∀i,i≠K.rb->i≠K.kb->W.heap[i]? =X.heap[i]?:=fun i h1 h2=>by
  rw[<-d,Below.heap_setCell _ _ _ _ h1,Below.heap_setCell _ _ _ _ h1,Below.heap_setCell _ _ _ _ h2]
 refine⟨⟨h.prog.below hb,h.blks.below yT hb,h.map.same (ho _ Zo Zo),(ho _ Zo Zo).trans h.cell,?_,?_,h.oks.put _ t,h.n64,c,m⟩,⟨hb.os,hb.tape,hb.output,hb.size,fun i _ h1 h2 _=>ho i h1 h2⟩⟩
 ·have:=agc s.r v a (by rw[h.oks.rl];exact hv);rw[show(s.put (v:Int) a).r=s.r.set v a from rfl,<-this];exact g
 ·rw[q,o,show(s.put (v:Int) a).kn=s.kn.set v true from rfl];simp[Ox]
def afp (w:World)(K:SK)(p:IProg)(bls:List IBlk)(k:Nat)(q:Slv×Bool)(e:Ending)(w':World):Prop:=e=.returned (.bool q.2)/\SlvAt w' K p bls k q.1/\SlvTo w w' K
theorem hull_lit (w:World)(a b:Rg):G 92 #[.agg #[U (a.lo:Int),U (a.hi:Int)],.agg #[U (b.lo:Int),U (b.hi:Int)]] w (fun e w'=>e=.returned (.agg #[U ((aeG a b).lo:Int),U ((aeG a b).hi:Int)])/\O w w'):=hull_any w a b
def afx (w wx:World)(a:Rg):Prop:=O w wx/\Q wx w.heap.size #[U (a.lo:Int),U (a.hi:Int)] 45/\w.heap.size<wx.heap.size
theorem afx.put{wx:World}{a:Rg}(h:afx w wx a)(b:Rg):afx w ((wx.setCell ⟨w.heap.size,0,none⟩ (U (b.lo:Int))).setCell ⟨w.heap.size,1,none⟩ (U (b.hi:Int))) b:=by
 have c:=zD (i:=1) (zD (i:=0) h.2.1 (U (b.lo:Int))) (U (b.hi:Int));exact⟨(h.1.setCell (Je _) _).setCell (Je _) _,c,lt_of_block c⟩
theorem afx.to{W':World}{a:Rg}(h:afx w W a)(hb:O W W'):afx w W' a:=⟨h.1.trans (hb.mono (Qd h.2.2)),zH hb h.2.1 h.2.2,Jy h.2.2 hb.size⟩
theorem af5{p:IProg}{b3:List IBlk}{s:Slv}(h:SlvAt w K p b3 k s){v:Nat}(hv:v<K.n){a0:Rg}(ha:a0.ok)(hh:(aeG a0 (s.get v)).ok):
 G 38 #[.pointer (some ⟨K.sb,0,none⟩),I v,.agg #[U (a0.lo:Int),U (a0.hi:Int)]] w (afp w K p b3 k (setF k s v a0)):=by
 have a5:=ae6 h hv;have x:=fun(W:World) (hW:O w W)=>(h.below hW).rcell (v:=(v:Int)) Zo
 obtain⟨Z,j⟩:∃Z,setF k s v a0=Z:=⟨_,rfl⟩
 have hF:=j;unfold setF at hF;rw[j];generalize hg:s.get (v:Int)=g at *;obtain⟨q,hq⟩:∃q,aeG a0 g=q:=⟨_,rfl⟩
 obtain⟨kn,a6⟩:∃b,s.knw (v:Int)=b:=⟨_,rfl⟩
 rw[a6] at hF a5;rw[hq] at hF hh;have HH:=Ja (fun W=>hull_lit W a0 g);rw[hq] at HH;have HF:=Ja hF.symm;rw[Ni] at x;have H:=Ja (Jb h (Jb ha hh));have HK:=Ja (fun(W:World) (hW:O w W)=>(h.below hW).cells.2.2.2.2.1);have hn:=h.n64;have b8:=h.ne;obtain⟨s4,s7,s8,s9,s10,s6⟩:=h.cells;have m:=Ja (show ∀W:World,O w W->A W K.sb 8 (F K.rb K.n K.n)/\A W K.rb (v*2) (U (g.lo:Int))/\A W K.rb (v*2+1) (U (g.hi:Int)) from fun W hb=>⟨(h.below hb).cells.2.2.1,(x W hb).1,(x W hb).2⟩);have l1:=lt_of_block h.cell;have l2:=lt_of_block h.row;have l3:=lt_of_block h.kn;clear h ha hh hF j a6 s4 s7 s6 s8 s10 x hg hq;go_enter Tryz.func38,Tryz.ntmps38
 go_upto_if 13 with(go_at_call 999999;skip)
 obtain⟨X,hX⟩:∃X,w.alloc (T #[U (a0.lo:Int),U (a0.hi:Int)] 45)=X:=⟨_,rfl⟩
 have c:=Ja (show afx w X a0 from by rw[<-hX];exact⟨Below.alloc (Below.refl _ _) (Je _) _,zI rfl,by simp⟩);rw[hX];clear hX a5 s9
 go_cut [] (fun wx=>∃a:Rg,Hid (a.ok/\Z=(s.put v (agY k a),true)/\afx w wx a))
 case first=>
  cases kn
  ·go_wp2;go_meet;exact⟨a0,Ja ⟨H.out.2.1,HF.out,c.out⟩⟩
  ·obtain⟨c0,c1,c2⟩:=m.out X c.out.1;have x0:=zA (i:=0) c.out.2.1 rfl;have x1:=zA (i:=1) c.out.2.1 rfl;have b5:=c.out.2.2;go_upto_region 2 with(go_at_call 999999;skip)
   refine wp_region_noPanic ?_;refine yQ (S:=(fun w'=>A w' K.sb 8 (F K.rb K.n K.n)/\A w' K.rb (v*2) (U (g.lo:Int))/\A w' K.rb (v*2+1) (U (g.hi:Int))/\A w' w.heap.size 0 (U (a0.lo:Int))/\A w' w.heap.size 1 (U (a0.hi:Int)))) 9 Zk ⟨c0,c1,c2,x0,x1⟩ (fun hHeld=>?_);refine Tl 0 ?_
   try simp only[Yp]
   refine Tl 1 ?_
   try simp only[Yp]
   refine Tl 2 ?_
   try simp only[Yp]
   refine Tl 3 ?_
   try simp only[Yp]
   refine Tl 4 ?_
   try simp only[Yp]
   refine Tl 5 ?_
   try simp only[Yp]
   refine Tl 6 ?_
   try simp only[Yp]
   refine Tl 7 ?_
   try simp only[Yp]
   refine z8 (rs:=[8]) Zk Zs ?_;refine zS.cons (o:=_) rfl (fun K hK=>?_) ?_
   ·skip
    (go_simp;refine(HH.out _).mono ?_;rintro e w1 ⟨rfl,y⟩;have a9:O X w1:=(Below.refl X.heap.size X).drew.trans y;clear y;have HY:=Ja (c.out.to a9);have hk:=HY.out.2.1;have f0:=zA (i:=0) hk rfl;have f1:=zA (i:=1) hk rfl;have g0:=zE (i:=0) hk;have g1:=zE (i:=1) hk;have a4:=lt_of_block hk;have a2:=m.out w1 HY.out.1)
    refine hK.out _ _ ⟨a2.1,a2.2.1,a2.2.2,f0,f1⟩ (fun hHeld=>?_);clear hK K
    try simp only[Yp]
    refine z8 (rs:=[9]) Zk Zs ?_;refine zS.last (o:=_) rfl (fun K hK=>?_);go_simp;refine hK.out _ _ ?_;clear hK K
    try simp only[Yp]
    refine xj Zk (NoPanic.normal ?_) _;go_upto_region 3 with(go_at_call 999999;skip)
    obtain⟨Y,hY⟩:∃Y,(w1.setCell ⟨w.heap.size,0,none⟩ (U (q.lo:Int))).setCell ⟨w.heap.size,1,none⟩ (U (q.hi:Int))=Y:=⟨_,rfl⟩
    have l:=Ja (HY.out.put q);rw[hY] at l ⊢;clear hY hk f0 f1 g0 g1 a4 a9 a2 c0 c1 c2 x0 x1 b5
    have b4:=Ja (show ∀W:World,O Y W->A W K.sb 8 (F K.rb K.n K.n)/\A W K.rb (v*2) (U (g.lo:Int))/\A W K.rb (v*2+1) (U (g.hi:Int))/\A W w.heap.size 0 (U (q.lo:Int))/\A W w.heap.size 1 (U (q.hi:Int)) from fun W hb=>by
     have h1:=l.out.to hb;have h2:=m.out W h1.1
     exact⟨h2.1,h2.2.1,h2.2.2,zA h1.2.1 rfl,zA h1.2.1 rfl⟩)
    obtain⟨c0,c1,c2,x0,x1⟩:=b4.out Y (Below.refl _ _);obtain⟨b0,e0⟩:∃b,((q.lo:Int)==(g.lo:Int))=b:=⟨_,rfl⟩
    obtain⟨b1,e1⟩:∃b,((q.hi:Int)==(g.hi:Int))=b:=⟨_,rfl⟩
    have d:=Ja (show Z=if(b0 && b1)=true then(s,false) else(s.put v (agY k q),true) by
     have:(b0 && b1)=ae0 q g:=by
      rw[<-e0,<-e1,Bool.eq_iff_iff];unfold ae0;simp only[Jm,beq_iff_eq,decide_eq_true_eq];omega
     rw[this];exact HF.out)
    cases b0<;>cases b1
    all_goals go_region_held3 (fun w'=>A w' K.sb 8 (F K.rb K.n K.n)/\A w' K.rb (v*2) (U (g.lo:Int))/\A w' K.rb (v*2+1) (U (g.hi:Int))/\A w' w.heap.size 0 (U (q.lo:Int))/\A w' w.heap.size 1 (U (q.hi:Int)))
     ((refine b4.out _ ?_;repeat' (first|with_reducible exact Below.refl _ _|with_reducible assumption|with_reducible refine Below.drew ?_)))
     (fail)
    all_goals go_wp2
    rotate_right
    ·go_ret;rw[show Z=(s,false) from d.out];exact⟨rfl,H.out.1.below l.out.1.drew,SlvTo.of_below l.out.1.drew⟩
    all_goals go_meet
    all_goals exact⟨q,Ja ⟨H.out.2.2,d.out,l.out.to (Below.refl _ _).drew⟩⟩
   exact zS.nil
 case rest=>
  obtain⟨a1,u⟩:=hcut;obtain⟨a,hz⟩:∃a,agY k a1=a:=⟨_,rfl⟩
  have j:=u.out.2.1;rw[hz] at j;have l:=Ja j;have a3:a.ok:=hz ▸ agF u.out.1;have a8:a=if 4<k then vu else a1:=hz.symm
  obtain⟨t,ht⟩:∃t,decide ((4:Int)<(k:Int))=t:=⟨_,rfl⟩
  have a7:a=if t=true then vu else a1:=by
   rw[a8,<-ht]
   by_cases e:4<k
   ·rw[if_pos e,if_pos (decide_eq_true Zo)]
   ·rw[if_neg e,if_neg Zt]
  have HT:=Ja a7;have HO:=Ja a3;obtain⟨X1,b2⟩:∃X,wc=X:=⟨_,rfl⟩
  rw[b2] at u ⊢;clear b2 HF c HH j hz a8 a7 a3;have s10:=HK.out _ u.out.2.2.1
  go_upto_if 36 with(go_at_call 999999;skip)
  clear s10 ht
  go_cut [] (fun wx=>Hid (afx w wx a))
  case first=>
   cases t
   ·go_wp2;go_meet;exact Ja (by rw[show a=a1 from HT.out];exact u.out.2.2)
   ·go_wp2_with (go_at_call 39;go_must (refine(d8 _).mono ?_;rintro e w1 ⟨rfl,y⟩;have HB:=Ja (u.out.2.2.to y);have hk:=HB.out.2.1;have f0:=zA (i:=0) hk rfl;have f1:=zA (i:=1) hk rfl;have g0:=zE (i:=0) hk;have g1:=zE (i:=1) hk;have a4:=lt_of_block hk))
    go_meet;exact Ja (by rw[show a=vu from HT.out];exact HB.out.put vu)
  case rest=>
   obtain⟨X,hX⟩:∃X,wc=X:=⟨_,rfl⟩
   have c:=hcut;rw[hX] at c ⊢;clear hX hcut u HT HK m;go_upto_region 7 with(go_at_call 999999;skip)
   have d:=Ja (H.out.1.below c.out.1);have m:=Ja (show ∀W:World,W.heap[K.sb]? =X.heap[K.sb]?->W.heap[w.heap.size]? =X.heap[w.heap.size]?->A W K.sb 8 (F K.rb K.n K.n)/\A W K.sb 9 (F K.kb K.n K.n)/\A W w.heap.size 0 (U (a.lo:Int))/\A W w.heap.size 1 (U (a.hi:Int)) from fun W h1 h2=>⟨zA (h1.trans d.out.cell) rfl,zA (h1.trans d.out.cell) rfl,zA (h2.trans c.out.2.1) rfl,zA (h2.trans c.out.2.1) rfl⟩);obtain⟨c0,c1,c2,c3⟩:=m.out X rfl rfl;have kx:=ae6 d.out hv;have kf:=zE (i:=v) d.out.kn;obtain⟨r0,r1⟩:=d.out.rcell (v:=(v:Int)) Zo;rw[Ni] at r0 r1;have b7:=zE (i:=v*2) d.out.row;have b6:=zE (i:=v*2+1) d.out.row;have m1:=lt_of_block d.out.cell;have m2:=lt_of_block d.out.row;have m3:=lt_of_block d.out.kn;have m4:=c.out.2.2;go_region_held3 (fun w'=>A w' K.sb 8 (F K.rb K.n K.n)/\A w' K.sb 9 (F K.kb K.n K.n)/\A w' w.heap.size 0 (U (a.lo:Int))/\A w' w.heap.size 1 (U (a.hi:Int))) ((refine m.out _ ?_ ?_<;>(repeat' (first|(rw[Below.heap_setCell _ _ _ _ (by first|(show K.sb≠K.kb;omega)|(show K.sb≠K.rb;omega)|(show w.heap.size≠K.kb;omega)|(show w.heap.size≠K.rb;omega))])|(rw[show ∀v:World,v.drew.heap=v.heap from fun _=>rfl])|exact rfl)))) (fail)
   all_goals go_wp2
   all_goals (
    obtain⟨W,hW⟩:∃W,((X.setCell ⟨K.kb,v,none⟩ (.bool true)).setCell ⟨K.rb,v*2,none⟩ (U (a.lo:Int))).setCell ⟨K.rb,v*2+1,none⟩ (U (a.hi:Int))=W:=⟨_,rfl⟩
    rw[hW];obtain⟨j1,j2⟩:=d.out.put hv HO.out hW;go_ret;rw[l.out]
    exact⟨rfl,j1.below (Below.refl _ _).drew,((SlvTo.of_below c.out.1).trans j2).trans (SlvTo.of_below (Below.refl _ _).drew)⟩)
theorem defs_q{f6:Value}{blocks:List IBlk}(c9:wX w w.heap.size f6 blocks)(hs:vZ blocks)(d7:∀b∈blocks,∀o∈b.ops,-1<=o.res):
 G 63 #[.agg #[f6]] w (RetDefs w blocks):=by
 obtain⟨fa,fc,rfl,h6,i9⟩:=c9.form;have j0:blocks.length<=2000000:=hs.1;obtain⟨N0,e4⟩:∃N0:Nat,aaG blocks=(N0:Int):=⟨(aaG blocks).toNat,by have:=bO blocks;omega⟩
 obtain⟨n,hn⟩:∃n,min N0 65536=n:=⟨_,rfl⟩
 have a2:n<=65536:=Zo
 have f9:∀(ts:Array TypeId) (t:TypeId) (W:World),(Builtin.min_ ts t #[I N0,I 65536]).run Tryz.prog W=.ok (I n) W:=fun ts t W=>by
  rw[run_min_int2];have:(n:Int)=if(65536:Int)<(N0:Int) then 65536 else(N0:Int):=by split<;>omega
  rw[this]
 have g3:=Ja (show ∀b∈blocks,(∀v∈b.params,v<=65535->0<=v->v<n)/\∀o∈b.ops,o.res<=65535->0<=o.res->o.res<n from fun b hb=>by
  have hg:=(dr blocks 0).2 b hb;have e:blocks.foldl iL 0=(N0:Int):=e4;rw[e] at hg
  exact⟨fun v hv h1 h2=>by have:=hg.1 v hv;rw[aaY Zo h1] at this;omega,fun o ho h1 h2=>by have:=hg.2 o ho;rw[aaY Zo h1] at this;omega⟩)
 have e8:=Ja (show ∀W,O w W->G 17 #[.agg #[.slice fa blocks.length fc]] W (aeP W (N0:Int)) from fun W hb=>by
  have:=jr (c9.below yT hb) hb.size hs;rw[e4] at this
  exact this)
 have g8:=mk_defs n a2;have d5:=Ja (Jb c9 (Jb hs d7));have f5:=(Below.refl w.heap.size w).alloc (Je _) (T #[.slice fa blocks.length fc] 39);have f1:=zI (W:=w) (o:=T #[.slice fa blocks.length fc] 39) rfl;have H0:=Ja (Jb f5 f1);obtain⟨D,hD⟩:∃D,dD blocks 0 aaZ=D:=⟨_,rfl⟩
 have HD:=Ja hD;clear c9 hs d7 h6 e4 hn f5 f1 hD;go_enter Tryz.func63,Tryz.ntmps63;go_upto_region 2 with(go_at_call 17;go_must (refine(e8.out _ H0.out.1).mono ?_;rintro e w1 ⟨rfl,b9⟩))
 have g6:Hid (DSt w (w1.alloc (T (eu (List.replicate n (0,0))).toArray 168)) w1.heap.size n #[.slice fa blocks.length fc] (ab2 n 0)):=by
  refine⟨zI rfl,zB (zH b9 H0.out.2 (lt_of_block H0.out.2)),(H0.out.1.trans (b9.mono H0.out.1.size)).alloc (Jn H0.out.1.size b9.size) _,af (Jt _),?_⟩;have:=lt_of_block H0.out.2;have:=b9.size;omega
 generalize w1.alloc (T (eu (List.replicate n (0,0))).toArray 168)=W2 at *;generalize w1.heap.size=db at *;clear b9 g8 f9 e8 H0;go_wp2
 go_loopw [5] (fun kv wx=>∃k:Nat,k<=n/\kv=I k/\Hid (DSt w wx db n #[.slice fa blocks.length fc] (ab2 n k))) (fun kv _=>n-(intOf kv).toNat)
 case atStart=>exact⟨0,Jt _,rfl,g6⟩
 case round=>
  obtain⟨k,hk,rfl,HK⟩:=hrel
  by_cases b2:k<n
  ·have c4:(k:Int)<n:=Zo;have f7:=Ja b2;have hc:=(HK.out.row.cell (cY b2)).1;have hf:=zE (i:=k*2) HK.out.row;have hl:=lt_of_block HK.out.row;have hz:=HK.out.set1 (cY b2) (-1);rw[aai b2] at hz;have HZ:=Ja hz;clear hz b2;go_wp2;go_roundw
   case rel=>exact⟨k+1,f7.out,by go_num,HZ⟩
   case measure=>have:=f7.out;simp[intOf];omega
  ·obtain rfl:k=n:=by omega
   have c4:¬(k:Int)<(k:Int):=Zo
   have f8:Hid (∃(xs:List (Int×Int)) (d:wO),DSt w wr db k #[.slice fa blocks.length fc] xs/\dE xs blocks.length d/\dD (blocks.drop 0) ((0:Nat):Int) d=D):=
    ⟨List.replicate k (-1,0),aaZ,by have:=HK.out;rwa [show ab2 k k=List.replicate k (-1,0) by unfold ab2;simp] at this,dE.start _ _,HD.out⟩
   clear b2 HK;go_wp2
   go_loopw [6] (fun iv wx=>∃i:Nat,i<=blocks.length/\iv=I i/\Hid (∃(xs:List (Int×Int)) (d:wO),DSt w wx db k #[.slice fa blocks.length fc] xs/\dE xs blocks.length d/\dD (blocks.drop i) (i:Int) d=D)) (fun iv _=>blocks.length-(intOf iv).toNat)
   case atStart=>exact⟨0,Jt _,rfl,f8⟩
   case round=>
    obtain⟨i,hi,rfl,HI⟩:=hrel;obtain⟨e9,d0,q,c8,b4⟩:=HI.out;have f0:=K0 q.box;have lf:=lt_of_block q.box
    by_cases b8:i<blocks.length
    ·have g2:(i:Int)<blocks.length:=Zo;have d4:=Ja b8;obtain⟨bk,d1⟩:∃b,blocks[i]? =some b:=⟨_,Jd b8⟩
     have c7:blocks.drop i=bk::blocks.drop (i+1):=by rw[Qn b8,(Jh.1 d1).2]
     rw[c7] at b4;have e3:(itD (i:Int) bk 0 d0).bind (dD (blocks.drop (i+1)) ((i:Int)+1))=D:=by rw[itD_zero];exact b4
     have a9:=Ji d1;obtain⟨bb,bo,rfl,b5,k2,k3,h4,pv,ov,tv,kp,ko,kt,e0,e1,f2⟩:=d5.out.1.get d1;have k2:=zV q.bel b5 k2;have k3:=zV q.bel b5 k3;have kp:=zV q.bel b5 kp;have ko:=zV q.bel b5 ko;have kt:=zV q.bel b5 kt;have g5:bb<wr.heap.size:=Jw _ _ k2;obtain⟨pa,pc,rfl,_,_⟩:=e0.form;obtain⟨oa,oc,rfl,_,_⟩:=e1.form;obtain⟨ta,tc,rfl,_,_⟩:=f2.form;have i4:bk.params.length<=2000000:=(d5.out.2.1.2 bk a9).1;have i5:bk.ops.length<=2000000:=(d5.out.2.1.2 bk a9).2.1;have c0:=Ja (Jb e0 (Jb e1 (Jb (g3.out bk a9) (d5.out.2.2 bk a9))));have c3:=Ja (Jb q (Jb c8 e3));clear b4 e3 c7 d1 a9 e0 e1 f2 h4 b8 q c8 HI b5;go_upto_region 10 with fail;have e2:=c3.out.1.alloc (T #[.slice pa bk.params.length pc,.slice oa bk.ops.length oc,I bk.term.kind,I bk.term.a,.slice ta bk.term.to.length tc] 84);have d2:=zI (W:=wr) (o:=T #[.slice pa bk.params.length pc,.slice oa bk.ops.length oc,I bk.term.kind,I bk.term.a,.slice ta bk.term.to.length tc] 84) rfl;have f3:wr.heap.size≠db:=by have:=lt_of_block c3.out.1.row;omega
     generalize wr.alloc (T #[.slice pa bk.params.length pc,.slice oa bk.ops.length oc,I bk.term.kind,I bk.term.a,.slice ta bk.term.to.length tc] 84)=W3 at *;generalize wr.heap.size=b7 at *;have d3:=Ja f3;have q0:=K0 d2;have ql:=lt_of_block d2;have a7:Hid (∃(xs:List (Int×Int)) (d:wO),DSt w W3 db k #[.slice (some ⟨bb,bo,none⟩) blocks.length fc] xs/\dE xs blocks.length d/\Q W3 b7 #[.slice pa bk.params.length pc,.slice oa bk.ops.length oc,I bk.term.kind,I bk.term.a,.slice ta bk.term.to.length tc] 84/\(itD (i:Int) bk 0 d).bind (dD (blocks.drop (i+1)) ((i:Int)+1))=D):=⟨e9,d0,e2,c3.out.2.1,d2,c3.out.2.2⟩
     clear e2 d2 f3 k2 k3 kp ko kt g5 f0 lf c3;go_wp2;clear q0 ql
     go_loopw [8] (fun kv wx=>∃(t:Nat) (z:Int),t<=bk.params.length+bk.ops.length/\z=(t:Int)-(bk.params.length:Int)/\kv=I z/\Hid (∃(xs:List (Int×Int)) (d:wO),DSt w wx db k #[.slice (some ⟨bb,bo,none⟩) blocks.length fc] xs/\dE xs blocks.length d/\Q wx b7 #[.slice pa bk.params.length pc,.slice oa bk.ops.length oc,I bk.term.kind,I bk.term.a,.slice ta bk.term.to.length tc] 84/\(itD (i:Int) bk t d).bind (dD (blocks.drop (i+1)) ((i:Int)+1))=D)) (fun kv _=>(bk.params.length+bk.ops.length)-(intOf kv+bk.params.length).toNat)
     case atStart=>exact⟨0,-(bk.params.length:Int),by omega,by omega,by go_num,a7⟩
     case round=>
      obtain⟨t,z,ht,hz,rfl,HT⟩:=hrel;obtain⟨xs,d,x1,x2,x3,x4⟩:=HT.out;have q0:=K0 x3;have q1:=K1 x3;have ql:=lt_of_block x3;have c:=Ja (Jb x1 (Jb x2 x3))
      by_cases g1:t<bk.params.length+bk.ops.length
      ·have c4:z<bk.ops.length:=Zo
       by_cases c5:t<bk.params.length
       ·obtain⟨v,hv⟩:∃v,bk.params[t]? =some v:=⟨_,Jd c5⟩
        have u:=x4;rw[itD_par hv] at u;have a1:=Ja (show(rB d v (i:Int) (-1)).bind (fun d'=>(itD (i:Int) bk (t+1) d').bind (dD (blocks.drop (i+1)) ((i:Int)+1)))=D by rw[<-u];cases rB d v (i:Int) (-1)<;>rfl)
        have b1:=Ja (show v<=65535->v<(k:Int) from fun h=>by
         by_cases h0:0<=v
         ·exact c0.out.2.2.1.1 v (Ji hv) h h0
         ·omega)
        obtain⟨eb,eo,rfl,b3,a6,_⟩:=c0.out.1.get hv;rw[Nk] at a6;have a6:=zV x1.bel b3 a6;have g4:eb<wr.heap.size:=Jw _ _ a6;have i0:z<0:=Zo;have h9:z+(bk.params.length:Int)=(t:Int):=Zo;have i2:(t:Int)<(bk.params.length:Int):=Zo
        have g0:∀(ts:Array TypeId) (ty:TypeId) (W:World),(Builtin.max_ ts ty #[I z,I (-1)]).run Tryz.prog W=.ok (I (-1)) W:=fun ts ty W=>by
         rw[run_max_int2];have:(if z< -1 then(-1:Int) else z)=-1:=by split<;>omega
         first|rw[this]|(split<;>(congr 2;omega))
        have a5:=Ja (Jb hz (Jb c5 ht));clear x1 x2 x3 x4 u hv b3 a7 hz;go_upto_region 19 with fail
        by_cases v1:v<0
        ·have g:D=none:=by rw[<-a1.out,dB c.out.2.1 (by rw[c.out.1.len];exact b1.out) (.inl v1)];rfl
         have y:=Ja g;clear g;go_wp2;refine bodyPost_ret (v:=.tuple #[F db k k,.bool false]) (by simp[results,Tryz.results63,go_sem]) rfl ⟨_,_,xs,rfl,c.out.1.bel,?_,.inr ⟨by rw[HD.out];exact y.out,rfl⟩⟩;have:=c.out.1.row.elems (by rw[c.out.1.len];exact a2)
         rwa [c.out.1.len] at this
        by_cases v2:(k:Int)<=v
        ·have g:D=none:=by rw[<-a1.out,dB c.out.2.1 (by rw[c.out.1.len];exact b1.out) (.inr (.inl (by rw[c.out.1.len];exact v2)))];rfl
         have y:=Ja g;clear g;go_wp2;refine bodyPost_ret (v:=.tuple #[F db k k,.bool false]) (by simp[results,Tryz.results63,go_sem]) rfl ⟨_,_,xs,rfl,c.out.1.bel,?_,.inr ⟨by rw[HD.out];exact y.out,rfl⟩⟩;have:=c.out.1.row.elems (by rw[c.out.1.len];exact a2)
         rwa [c.out.1.len] at this
        obtain⟨kv,m⟩:∃kv:Nat,v=(kv:Int):=⟨(v).toNat,by omega⟩
        have a3:kv<xs.length:=by rw[c.out.1.len];omega
        have h5:(kv:Int)<(k:Int):=Zo;obtain⟨⟨b0,a0⟩,l⟩:∃x,xs[kv]? =some x:=⟨_,Jd a3⟩
        have c1:=(c.out.1.row.cell l).1;have c2:=(c.out.1.row.cell l).2;have cf:=fun i=>zE (i:=i) c.out.1.row
        have cl:=lt_of_block c.out.1.row;simp only at c1 c2;have h8:=Ja l
        by_cases v3:0<=b0
        ·have g:D=none:=by rw[<-a1.out,dB c.out.2.1 (by rw[c.out.1.len];exact b1.out) (.inr (.inr ⟨b0,a0,by rw[m];exact l,v3,by omega⟩))];rfl
         clear l a3;rw[m] at *;have y:=Ja g;clear g;go_wp2;refine bodyPost_ret (v:=.tuple #[F db k k,.bool false]) (by simp[results,Tryz.results63,go_sem]) rfl ⟨_,_,xs,rfl,c.out.1.bel,?_,.inr ⟨by rw[HD.out];exact y.out,rfl⟩⟩;have:=c.out.1.row.elems (by rw[c.out.1.len];exact a2)
         rwa [c.out.1.len] at this
        have a4:=cH c.out.2.1 (by rw[c.out.1.len];exact a2) l Zo (i:Int) (-1);have a8:=a1.out;rw[m,a4] at a8;have e7:=Ja a8;have e5:=Ja (c.out.1.set2 l (i:Int) (-1));have e6:=Ja (c.out.2.1.put a3 (i:=(i:Int)) (k:=-1) ⟨by omega,by rw[Ni];exact d4.out⟩);rw[m] at *;clear l a3 a4 a8 m;go_wp2;go_roundw
        case rel=>exact⟨t+1,z+1,by have:=a5.out;omega,by have:=a5.out;omega,by go_num,Ja ⟨_,_,e5.out,e6.out,zR (zR c.out.2.2 d3.out) d3.out,e7.out⟩⟩
        case measure=>have:=a5.out;simp[intOf];omega
       ·obtain⟨j,rfl⟩:∃j,t=bk.params.length+j:=⟨t-bk.params.length,by omega⟩
        have d6:z=(j:Int):=Zo;subst d6;have f4:j<bk.ops.length:=Zo;obtain⟨o,ho⟩:∃o,bk.ops[j]? =some o:=⟨_,Jd f4⟩
        have u:=x4;rw[itD_op ho] at u;obtain⟨eb,eo,rfl,b3,_,a6,_,_,_,_,_⟩:=c0.out.2.1.get ho;have a6:=zV x1.bel b3 a6;have g4:eb<wr.heap.size:=Jw _ _ a6
        have g0:∀(ts:Array TypeId) (ty:TypeId) (W:World),(Builtin.max_ ts ty #[I j,I (-1)]).run Tryz.prog W=.ok (I j) W:=fun ts ty W=>by
         rw[run_max_int2];have:(if(j:Int)< -1 then(-1:Int) else(j:Int))=(j:Int):=by split<;>omega
         first|rw[this]|(split<;>(congr 2;omega))
        have i7:(0:Int)<=(j:Int):=Zo;have i6:¬(j:Int)<0:=Zo;have a5:=Ja (Jb f4 ht);have i3:-1<=o.res:=c0.out.2.2.2 o (Ji ho)
        have b1:=Ja (show o.res<=65535->o.res<(k:Int) from fun h=>by
         by_cases h0:0<=o.res
         ·exact c0.out.2.2.1.2 o (Ji ho) h h0
         ·omega)
        by_cases b6:o.res=-1
        ·rw[if_pos b6] at u;have i1:(o.res==-1)=true:=by rw[beq_iff_eq];exact b6
         have a1:=Ja u;clear x1 x2 x3 x4 u ho b3 a7 hz b6 c5;go_wp2;go_roundw
         case rel=>exact⟨bk.params.length+j+1,(j:Int)+1,by have:=a5.out;omega,by omega,by go_num,Ja ⟨xs,d,c.out.1,c.out.2.1,c.out.2.2,a1.out⟩⟩
         case measure=>have:=a5.out;simp[intOf];omega
        ·rw[if_neg b6] at u;have i1:(o.res==-1)=false:=by rw[beq_eq_false_iff_ne];exact b6
         have a1:=Ja (show(rB d o.res (i:Int) (j:Int)).bind (fun d'=>(itD (i:Int) bk (bk.params.length+j+1) d').bind (dD (blocks.drop (i+1)) ((i:Int)+1)))=D by rw[<-u];cases rB d o.res (i:Int) (j:Int)<;>rfl);clear x1 x2 x3 x4 u ho b3 a7 hz c5;go_upto_region 19 with fail
         by_cases v1:o.res<0
         ·have g:D=none:=by rw[<-a1.out,dB c.out.2.1 (by rw[c.out.1.len];exact b1.out) (.inl v1)];rfl
          have y:=Ja g;clear g;go_wp2;refine bodyPost_ret (v:=.tuple #[F db k k,.bool false]) (by simp[results,Tryz.results63,go_sem]) rfl ⟨_,_,xs,rfl,c.out.1.bel,?_,.inr ⟨by rw[HD.out];exact y.out,rfl⟩⟩;have:=c.out.1.row.elems (by rw[c.out.1.len];exact a2)
          rwa [c.out.1.len] at this
         by_cases v2:(k:Int)<=o.res
         ·have g:D=none:=by rw[<-a1.out,dB c.out.2.1 (by rw[c.out.1.len];exact b1.out) (.inr (.inl (by rw[c.out.1.len];exact v2)))];rfl
          have y:=Ja g;clear g;go_wp2;refine bodyPost_ret (v:=.tuple #[F db k k,.bool false]) (by simp[results,Tryz.results63,go_sem]) rfl ⟨_,_,xs,rfl,c.out.1.bel,?_,.inr ⟨by rw[HD.out];exact y.out,rfl⟩⟩;have:=c.out.1.row.elems (by rw[c.out.1.len];exact a2)
          rwa [c.out.1.len] at this
         obtain⟨kv,m⟩:∃kv:Nat,o.res=(kv:Int):=⟨(o.res).toNat,by omega⟩
         have a3:kv<xs.length:=by rw[c.out.1.len];omega
         have h5:(kv:Int)<(k:Int):=Zo;obtain⟨⟨b0,a0⟩,l⟩:∃x,xs[kv]? =some x:=⟨_,Jd a3⟩
         have c1:=(c.out.1.row.cell l).1;have c2:=(c.out.1.row.cell l).2;have cf:=fun i=>zE (i:=i) c.out.1.row
         have cl:=lt_of_block c.out.1.row;simp only at c1 c2;have h8:=Ja l
         by_cases v3:0<=b0
         ·have g:D=none:=by rw[<-a1.out,dB c.out.2.1 (by rw[c.out.1.len];exact b1.out) (.inr (.inr ⟨b0,a0,by rw[m];exact l,v3,by omega⟩))];rfl
          clear l a3;rw[m] at *;have y:=Ja g;clear g;go_wp2;refine bodyPost_ret (v:=.tuple #[F db k k,.bool false]) (by simp[results,Tryz.results63,go_sem]) rfl ⟨_,_,xs,rfl,c.out.1.bel,?_,.inr ⟨by rw[HD.out];exact y.out,rfl⟩⟩;have:=c.out.1.row.elems (by rw[c.out.1.len];exact a2)
          rwa [c.out.1.len] at this
         have a4:=cH c.out.2.1 (by rw[c.out.1.len];exact a2) l Zo (i:Int) ((j:Int));have a8:=a1.out;rw[m,a4] at a8;have e7:=Ja a8;have e5:=Ja (c.out.1.set2 l (i:Int) ((j:Int)));have e6:=Ja (c.out.2.1.put a3 (i:=(i:Int)) (k:=(j:Int)) ⟨by omega,by rw[Ni];exact d4.out⟩);rw[m] at *;clear l a3 a4 a8 m;go_wp2;go_roundw
         case rel=>exact⟨bk.params.length+j+1,(j:Int)+1,by have:=a5.out;omega,by have:=a5.out;omega,by go_num,Ja ⟨_,_,e5.out,e6.out,zR (zR c.out.2.2 d3.out) d3.out,e7.out⟩⟩
         case measure=>have:=a5.out;simp[intOf];omega
      ·obtain rfl:t=bk.params.length+bk.ops.length:=by omega
       have d6:z=(bk.ops.length:Int):=Zo;subst d6;have c4:¬(bk.ops.length:Int)<(bk.ops.length:Int):=Zo;rw[itD_end] at x4;have h7:=Ja (show dD (blocks.drop (i+1)) ((i:Int)+1) d=D from x4);clear x1 x2 x3 x4 a7 hz g1;go_wp2;go_roundw
       case rel=>exact⟨i+1,d4.out,by go_num,Ja ⟨xs,d,c.out.1,c.out.2.1,h7.out⟩⟩
       case measure=>have:=d4.out;simp[intOf];omega
    ·obtain rfl:i=blocks.length:=by omega
     have g2:¬(blocks.length:Int)<blocks.length:=Zo;rw[List.drop_length] at b4;have HQ:=Ja (Jb q (Jb c8 b4));clear b8 q c8 b4 HI;go_wp2;refine bodyPost_ret (v:=.tuple #[F db k k,.bool true]) (by simp[results,Tryz.results63,go_sem]) rfl ⟨_,_,e9,rfl,HQ.out.1.bel,?_,.inl ⟨d0,by rw[HD.out];exact HQ.out.2.2.symm,rfl,HQ.out.2.1⟩⟩;have:=HQ.out.1.row.elems (by rw[HQ.out.1.len];exact a2)
     rwa [HQ.out.1.len] at this
def objT (o:IObj)(a:Rg)(n:Int):Prop:=o.bank=-1/\o.addr<=a.lo/\(a.hi:Int)+n<=(o.addr:Int)+o.size
theorem objGo_at{l:List IObj}{o:IObj}(h:l[k]? =some o)(a:Rg)(n:Int):(objT o a n->ae2 (l.drop k) k a n=k)/\(¬objT o a n->ae2 (l.drop k) k a n=ae2 (l.drop (k+1)) (k+1:Nat) a n):=by
 have hk:=(Jh.1 h).1;have c:l.drop k=o::l.drop (k+1):=by rw[Qn hk,(Jh.1 h).2]
 rw[c,show((k+1:Nat):Int)=(k:Int)+1 by omega];rw[ae2];constructor
 ·intro ht;exact if_pos ht
 ·intro ht;exact if_neg ht
theorem agu{B:Nat}{V:PV}{p:IProg}(hp:ProgIn w B V p)(hB:B<=w.heap.size){a:Rg}(ha:a.ok)(n:Int)(hn:0<=n/\n<=2):
 Calls Tryz.prog 43 #[yH V p,.agg #[U (a.lo:Int),U (a.hi:Int)],I n] w (aeP w (ae2 p.data 0 a n)):=by
 obtain⟨Vf,Va,Vd,Vb⟩:=V;obtain⟨da,dc,e3,b3,b2⟩:=hp.data.form;have a4:=hp.data;have a8:Vd=.slice da p.data.length dc:=e3;subst a8;have b4:=ha.1;have b5:=ha.2;have b1:=hn.1;have b0:=hn.2;obtain⟨G,hG⟩:∃G,ae2 p.data 0 a n=G:=⟨_,rfl⟩
 rw[hG];have HG:=Ja hG;unfold yH;obtain⟨X,hX⟩:∃X,(w.alloc (T #[Vf,Va,I p.entry,I p.handler,.slice da p.data.length dc,Vb] 29)).alloc (T #[U (a.lo:Int),U (a.hi:Int)] 45)=X:=⟨_,rfl⟩
 have l:O w X:=by rw[<-hX];exact((Below.refl _ _).alloc (Je _) _).alloc Zs _
 have a1:Q X w.heap.size #[Vf,Va,I p.entry,I p.handler,.slice da p.data.length dc,Vb] 29:=by rw[<-hX];exact zB (zI rfl)
 have a0:Q X (w.heap.size+1) #[U (a.lo:Int),U (a.hi:Int)] 45:=by rw[<-hX];exact zI Zs
 have g:=Ja (show O w X/\Q X w.heap.size #[Vf,Va,I p.entry,I p.handler,.slice da p.data.length dc,Vb] 29/\Q X (w.heap.size+1) #[U (a.lo:Int),U (a.hi:Int)] 45/\kq X B (.slice da p.data.length dc) p.data/\B<=X.heap.size from⟨l,a1,a0,a4.below tZ (l.mono hB),Jn hB l.size⟩);clear a4 hp l a1 a0 hG ha hn hB;go_enter Tryz.func43,Tryz.ntmps43;go_upto_region 1 with fail;clear hX;obtain⟨t3,a3⟩:∃t,w.heap.size=t:=⟨_,rfl⟩
 obtain⟨t4,a2⟩:∃t,w.heap.size+1=t:=⟨_,rfl⟩
 have HT:=Ja g.out.1;rw[a2] at g ⊢;rw[a3] at g ⊢;clear a3 a2;have d4:A X t3 4 (.slice da p.data.length dc):=zA g.out.2.1 rfl;go_wp2;clear d4
 go_loopw [12] (fun kv wx=>∃k:Nat,k<=p.data.length/\kv=I k/\Hid (ae2 (p.data.drop k) k a n=G/\O X wx)) (fun kv _=>p.data.length-(intOf kv).toNat)
 case atStart=>exact⟨0,Jt _,rfl,Ja ⟨HG.out,Below.refl _ _⟩⟩
 case round=>
  obtain⟨k,hk,rfl,c⟩:=hrel;have j:=zH c.out.2 g.out.2.2.1 (lt_of_block g.out.2.2.1);have x0:A wr t4 0 (U (a.lo:Int)):=zA j rfl;have x1:A wr t4 1 (U (a.hi:Int)):=zA j rfl;have b6:=lt_of_block j;clear j
  by_cases y:k<p.data.length
  ·have a6:(k:Int)<(p.data.length:Int):=Zo;obtain⟨o,ho⟩:∃o,p.data[k]? =some o:=⟨_,Jd y⟩
   obtain⟨ob,oq,a7,a5,o0,o1,o2,ob64,oa64,os64⟩:=(g.out.2.2.2.1.below tZ (c.out.2.mono g.out.2.2.2.2)).get ho;subst a7;have a9:ob<wr.heap.size:=Jy a5 (Jn g.out.2.2.2.2 c.out.2.size);have d:=Ja (Jb (objGo_at ho a n) (Jb y ob64));clear ho ob64 y a5;obtain⟨ov,m⟩:∃v,o.bank=v:=⟨_,rfl⟩
   obtain⟨oA,x⟩:∃v,o.addr=v:=⟨_,rfl⟩
   obtain⟨oS,u⟩:∃v,o.size=v:=⟨_,rfl⟩
   have i:=Ja (Jb m (Jb x u));rw[m] at o0;rw[x] at o1 oa64;rw[u] at o2 os64;clear m x u;have hT:∀q:Prop,Decidable q->True:=fun _ _=>trivial
   clear hT
   by_cases h1:ov=-1
   ·by_cases h2:oA<=a.lo
    ·by_cases h3:(a.hi:Int)+n<=(oA:Int)+oS
     ·have h:=Ja ((d.out.1.1 ⟨i.out.1.trans h1,by rw[i.out.2.1];exact h2,by rw[i.out.2.1,i.out.2.2];exact h3⟩).symm.trans c.out.1);subst h1;go_wp2;go_ret;exact⟨by rw[<-h.out];rfl,(HT.out.trans (c.out.2.mono HT.out.size)).trans ((Below.alloc (Below.refl _ _) (Je _) _).mono (Jn HT.out.size c.out.2.size))⟩
     ·have h:=Ja ((d.out.1.2 (fun t=>h3 (by have:=t.2.2;rw[i.out.2.1,i.out.2.2] at this;exact this))).symm.trans c.out.1);subst h1;go_wp2;go_roundw
      case rel=>exact⟨k+1,d.out.2.1,by go_num,Ja ⟨h.out,c.out.2.trans ((Below.alloc (Below.refl _ _) (Je _) _).mono c.out.2.size)⟩⟩
      case measure=>have:=d.out.2.1;simp[intOf];omega
    ·have h:=Ja ((d.out.1.2 (fun t=>h2 (by have:=t.2.1;rw[i.out.2.1] at this;exact this))).symm.trans c.out.1);have b7:a.lo<oA:=Zo;subst h1;clear h2;go_wp2;go_roundw
     case rel=>exact⟨k+1,d.out.2.1,by go_num,Ja ⟨h.out,c.out.2.trans ((Below.alloc (Below.refl _ _) (Je _) _).mono c.out.2.size)⟩⟩
     case measure=>have:=d.out.2.1;simp[intOf];omega
   ·have h:=Ja ((d.out.1.2 (fun t=>h1 (i.out.1.symm.trans t.1))).symm.trans c.out.1);have b8:(ov==(-1:Int))=false:=by simpa using h1
    go_wp2;go_roundw
    case rel=>exact⟨k+1,d.out.2.1,by go_num,Ja ⟨h.out,c.out.2.trans ((Below.alloc (Below.refl _ _) (Je _) _).mono c.out.2.size)⟩⟩
    case measure=>have:=d.out.2.1;simp[intOf];omega
  ·obtain rfl:k=p.data.length:=by omega
   have a6:¬(p.data.length:Int)<(p.data.length:Int):=Zo;have h:=Ja (show(-1:Int)=G by have:=c.out.1;rw[List.drop_length] at this;exact this);go_wp2;go_ret;exact⟨by rw[<-h.out];rfl,HT.out.trans (c.out.2.mono HT.out.size)⟩
end Go.Proofs.YtoahcpkibpomcaaGreat
set_option maxRecDepth 100000
namespace Go.Proofs.YtoahcpkibpomcaaGreat
open Go.ChangeShapes Go.WideShapes Go.ChangeAt Go.RowKit
variable {c j:Int}{W w w':World}{K:SK}{k:Nat}{o:IOp}
theorem jd{a:Addr}{v:Value}(h:w.cell? a=some v):a.spot=none:=by
 unfold World.cell? at h
 split at h
 ·split at h
  ·simp at h
  ·rename_i h2;simpa using h2
 ·simp at h
theorem agR (b o k:Nat):(⟨b,o,none⟩:Addr).add k=⟨b,o+k,none⟩:=by
 unfold Addr.add;split
 ·rename_i h;subst h;rfl
 ·rfl
theorem fP{α:Type}{P:Program}{H:Type}{enc:TypeId×Value->H}{fuel:Nat}{u:Value}{x:DataW H×List MemPlace}{t e:TypeId}{q:IntKind}(ht:P.underlying t=some (.slice e))(he:P.underlying e=some (.int q))(c1:P.cellsOf e=1)
 (R:World->Nat->Nat->Nat->α->Prop) (h:Int->α) (hR:∀b o z,(Lit.int q z).wf=true->A W b o (.int q z)->R W W.heap.size b o (h z))
 (hf:DataW.trod enc P W 0 (fun _=>true) true fuel t [u]=some x):∃row:List α,yN 1 R W W.heap.size u row:=by
 rcases open_ints ht he c1 hf with⟨h1,_⟩|⟨a,len,w,zs,h1,hb,hl,hm,d,_,c,i⟩
 ·simp at h1;subst h1;exact⟨[],yN.nil⟩
 ·simp at h1;subst h1;simp only[if_true] at d;refine⟨(zs.take len).map h,some a,w,by simp[d,Ud hl],by simp[d];omega,by unfold maxLen at hm;omega,fun k y hk=>?_⟩;have l:=(Jh.1 hk).1;simp[d] at l;rw[Jr,Ug,if_pos Zo,Jd Zo] at hk;have j:=Nt hk;have g:=c k Zo;have hs:=jd (c 0 Zo)
  have m:a=⟨a.block,a.off,none⟩:=by
   cases a;simp[Addr.add] at hs;simp[hs]
  rw[m,agR] at g;rw[Jj,Jd Zo,Ot] at g;refine⟨a.block,a.off,by rw[<-m],jU g,?_⟩;rw[<-j,Nk];exact hR _ _ _ (i _ (Uf Zo)) g
section
variable {H:Type} {enc:TypeId×Value->H} {W:World} {fuel:Nat} {u:Value} {x:DataW H×List MemPlace}
theorem iR (hf:DataW.trod enc Tryz.prog W 0 (fun _=>true) true fuel 22 [u]=some x):∃row:List Int,zY W W.heap.size u row:=
 fP Tryz.underlying22 Tryz.underlying3 Zk IntR id (fun b o z hz hc=>⟨hc,by unfold I64;simpa[Lit.wf,IntKind.min,IntKind.max,IntKind.signed,IntKind.bits] using hz⟩) hf
end
section
variable {H:Type} {enc:TypeId×Value->H} {W:World} {v:Value} {d:DataW H} {p:List MemPlace} {r:Go.Reach} {base:Nat}
theorem iX (hv:Value.okWide Tryz.prog W r base 22 v)(g:DataW.Trod enc Tryz.prog W 0 (fun _=>true) true 22 v d p):∃row:List Int,zY W W.heap.size v row:=by
 obtain⟨a0,c,h,rfl⟩:=okWide_slice Tryz.underlying22 hv;obtain⟨fuel,hf⟩:=g;exact iR hf
end
end Go.Proofs.YtoahcpkibpomcaaGreat
