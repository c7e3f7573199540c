/- Part of a proof. -/
import Derived.Test.YtoahcpkibpomcaaGreatGLift9
set_option linter.all false
set_option maxHeartbeats 4000000
set_option maxRecDepth 100000
namespace Go.Proofs.YtoahcpkibpomcaaGreat
open Go.RowKit
variable {c dp f i j oa ob:Int}{w:World}{K:MK}{k on vb:Nat}{o:IOp}{m:Mach}{ov:Value}
def oz (l:List (IOp×Value)):Prop:=∀q∈l,qN q.1/\q.1.args=[]/\q.2=U
theorem eV {l:List (IOp×Value)}(h:oz l)(w:World)(B:Nat):∀q∈l,qN q.1/\zY w B q.2 q.1.args:=fun q hq=>by
 obtain⟨h1,h2,h3⟩:=h q hq;rw[h2,h3];exact⟨h1,yN.nil⟩
theorem np (x:Int)(h:(decide (-100<=x) && decide (x<=100))=true):I64 x:=by
 simp only[Jm,decide_eq_true_eq] at h;exact⟨by omega,by omega⟩
def age (c:Int)(a b:Nat)(j:Int):List (IOp×Value):=[(⟨1,0,0,0,a,[]⟩,U),(⟨1,1,0,0,b,[]⟩,U),(⟨c,2,0,j,0,[]⟩,U)]
def exP (c:Int)(a b:Nat)(j:Int):IProg:=rd ⟨4,2,[]⟩ ((age c a b j).map (·.1))
theorem exOps_ok(h:3<=c/\c<=17){a b:Nat}(f:a<65536)(hb:b<65536)(g:0<=j/\j<=1):oz (age c a b j):=by
 intro q d;simp only[age,Jq,List.not_mem_nil,or_false] at d;rcases d with rfl|rfl|rfl
 ·exact⟨⟨np _ rfl,np _ rfl,np _ rfl,np _ rfl,f⟩,rfl,rfl⟩
 ·exact⟨⟨np _ rfl,np _ rfl,np _ rfl,np _ rfl,hb⟩,rfl,rfl⟩
 ·exact⟨⟨⟨by show _<=c;omega,by show c<=_;omega⟩,np _ rfl,np _ rfl,⟨by show _<=j;omega,by show j<=_;omega⟩,by show 0<65536;omega⟩,rfl,rfl⟩
def exJ (c:Int):Int:=if c=3∨c=4 then 0 else 1
theorem ag8(d:3<=c/\c<=17)(a b:Nat):vC (exP c a b (exJ c))=0:=by
 have h:c=3∨c=4∨c=5∨c=6∨c=7∨c=8∨c=9∨c=10∨c=11∨c=12∨c=13∨c=14∨c=15∨c=16∨c=17:=Zo;rcases h with rfl|rfl|rfl|rfl|rfl|rfl|rfl|rfl|rfl|rfl|rfl|rfl|rfl|rfl|rfl<;>rfl
def exV (c:Int)(a b:Nat):Nat:=if c=8/\b=0 then 0 else pp c a b
def exF (c:Int)(b:Nat):Bool:=decide (¬(c=8/\b=0))
def exR (c:Int)(a b:Nat):IRun:=if c=8/\b=0 then⟨0,[],4,0,v7 ⟨#[]⟩,0,0⟩ else⟨pp c a b,[],6,0,v7 ⟨#[]⟩,0,0⟩
theorem exP_run(f:3<=c/\c<=17)(a b:Nat):i9 ⟨exP c a b (exJ c),[],[]⟩ 0 [] ⟨#[]⟩ 10=exR c a b:=by
 have d:io (exP c a b (exJ c)) 0 []=true:=by
  unfold io;rw[ag8 f a b];rfl
 refine(if_pos d).trans ?_;unfold exR;have h:c=3∨c=4∨c=5∨c=6∨c=7∨c=8∨c=9∨c=10∨c=11∨c=12∨c=13∨c=14∨c=15∨c=16∨c=17:=Zo;rcases h with rfl|rfl|rfl|rfl|rfl|rfl|rfl|rfl|rfl|rfl|rfl|rfl|rfl|rfl|rfl
 case inr.inr.inr.inr.inr.inl=>
  cases b with
  |zero=>rfl
  |succ b=>rfl
 all_goals rfl
theorem ex_prog{a b:Nat}(f:oz (age c a b j)){W:World}(g:(((((w.alloc (G #[I 1,I 0,I 0,I 0,M a,U,I 1,I 1,I 0,I 0,M b,U,I c,I 2,I 0,I j,M 0,U] 76)).alloc (G #[U,L w.heap.size 3 3,I 4,I 2,U] 84)).alloc (G #[L (w.heap.size+1) 1 1] 39)).alloc (G #[I 0] 3)).alloc (G #[L (w.heap.size+1+1) 1 1,L (w.heap.size+1+1+1) 1 1,I 0,I (-1),U,U] 29))=W):
 Q w W/\ProgIn W W.heap.size ⟨L (w.heap.size+1+1) 1 1,L (w.heap.size+1+1+1) 1 1,U,U⟩ (exP c a b j)/\A W (w.heap.size+1+1+1+1) #[L (w.heap.size+1+1) 1 1,L (w.heap.size+1+1+1) 1 1,I 0,I (-1),U,U] 29:=by
 have hb:Q w (((((w.alloc (G #[I 1,I 0,I 0,I 0,M a,U,I 1,I 1,I 0,I 0,M b,U,I c,I 2,I 0,I j,M 0,U] 76)).alloc (G #[U,L w.heap.size 3 3,I 4,I 2,U] 84)).alloc (G #[L (w.heap.size+1) 1 1] 39)).alloc (G #[I 0] 3)).alloc (G #[L (w.heap.size+1+1) 1 1,L (w.heap.size+1+1+1) 1 1,I 0,I (-1),U,U] 29)):=(((((Below.refl _ _).alloc (Je _) _).alloc Zs _).alloc Zt _).alloc Zt _).alloc Zt _;have h0:A (((((w.alloc (G #[I 1,I 0,I 0,I 0,M a,U,I 1,I 1,I 0,I 0,M b,U,I c,I 2,I 0,I j,M 0,U] 76)).alloc (G #[U,L w.heap.size 3 3,I 4,I 2,U] 84)).alloc (G #[L (w.heap.size+1) 1 1] 39)).alloc (G #[I 0] 3)).alloc (G #[L (w.heap.size+1+1) 1 1,L (w.heap.size+1+1+1) 1 1,I 0,I (-1),U,U] 29)) w.heap.size ((age c a b j).flatMap zU).toArray 76:=zB (zB (zB (zB (zI rfl))));have h1:A (((((w.alloc (G #[I 1,I 0,I 0,I 0,M a,U,I 1,I 1,I 0,I 0,M b,U,I c,I 2,I 0,I j,M 0,U] 76)).alloc (G #[U,L w.heap.size 3 3,I 4,I 2,U] 84)).alloc (G #[L (w.heap.size+1) 1 1] 39)).alloc (G #[I 0] 3)).alloc (G #[L (w.heap.size+1+1) 1 1,L (w.heap.size+1+1+1) 1 1,I 0,I (-1),U,U] 29)) (w.heap.size+1) #[U,L w.heap.size 3 3,I 4,I 2,U] 84:=zB (zB (zB (zI Zs)));have h2:A (((((w.alloc (G #[I 1,I 0,I 0,I 0,M a,U,I 1,I 1,I 0,I 0,M b,U,I c,I 2,I 0,I j,M 0,U] 76)).alloc (G #[U,L w.heap.size 3 3,I 4,I 2,U] 84)).alloc (G #[L (w.heap.size+1) 1 1] 39)).alloc (G #[I 0] 3)).alloc (G #[L (w.heap.size+1+1) 1 1,L (w.heap.size+1+1+1) 1 1,I 0,I (-1),U,U] 29)) (w.heap.size+1+1) #[L (w.heap.size+1) 1 1] 39:=zB (zB (zI Zs));have h3:A (((((w.alloc (G #[I 1,I 0,I 0,I 0,M a,U,I 1,I 1,I 0,I 0,M b,U,I c,I 2,I 0,I j,M 0,U] 76)).alloc (G #[U,L w.heap.size 3 3,I 4,I 2,U] 84)).alloc (G #[L (w.heap.size+1) 1 1] 39)).alloc (G #[I 0] 3)).alloc (G #[L (w.heap.size+1+1) 1 1,L (w.heap.size+1+1+1) 1 1,I 0,I (-1),U,U] 29)) (w.heap.size+1+1+1) #[I 0] 3:=zB (zI Zs);have d:A (((((w.alloc (G #[I 1,I 0,I 0,I 0,M a,U,I 1,I 1,I 0,I 0,M b,U,I c,I 2,I 0,I j,M 0,U] 76)).alloc (G #[U,L w.heap.size 3 3,I 4,I 2,U] 84)).alloc (G #[L (w.heap.size+1) 1 1] 39)).alloc (G #[I 0] 3)).alloc (G #[L (w.heap.size+1+1) 1 1,L (w.heap.size+1+1+1) 1 1,I 0,I (-1),U,U] 29)) (w.heap.size+1+1+1+1) #[L (w.heap.size+1+1) 1 1,L (w.heap.size+1+1+1) 1 1,I 0,I (-1),U,U] 29:=zI Zs;rw[g] at hb h0 h1 h2 h3 d;have h:=lt_of_block d;refine⟨hb,⟨?_,?_,yN.nil,yN.nil,np _ rfl,np _ rfl⟩,d⟩
 ·refine yN.one Zo ⟨L (w.heap.size+1) 1 1,zA h2 Zs,yN.one Zo ?_⟩;exact⟨zA h1 Zs,zA h1 Zs,⟨np _ rfl,np _ rfl⟩,U,L w.heap.size 3 3,U,zA h1 Zs,zA h1 Zs,zA h1 Zs,yN.nil,agO (l:=age c a b j) h0 Zo (eV f _ _) (by show 3<=1000000;decide),yN.nil⟩
 ·exact yN.one Zo ⟨zA h3 Zs,np _ rfl⟩
theorem exR_form (c:Int)(a b:Nat):∃k:Nat,exR c a b=⟨exV c a b,[],k,0,v7 ⟨#[]⟩,0,0⟩/\((k:Int)==6)=exF c b:=by
 unfold exR exV exF
 by_cases h:c=8/\b=0
 ·rw[if_pos h,if_pos h];exact⟨4,rfl,by rw[decide_eq_false (fun k=>k h)];rfl⟩
 ·rw[if_neg h,if_neg h];exact⟨6,rfl,by rw[decide_eq_true h];rfl⟩
theorem agN(hc:3<=c/\c<=17){a b:Nat}(ha:a<65536)(hb:b<65536)(w:World):
 O 123 #[I c,M a,M b] w (fun e w'=>e=.returned (.tuple #[M (exV c a b:Int),.bool (exF c b)])/\Q w w'):=by
 obtain⟨S,hS⟩:∃S,y9 (v7 ⟨#[]⟩)=S:=⟨_,rfl⟩
 obtain⟨k,hk,hf⟩:=exR_form c a b;have y:=exP_run hc a b;rw[hk] at y;have a0:=exOps_ok hc ha hb (j:=exJ c) (by unfold exJ;split<;>omega);obtain⟨v,hv⟩:∃v,exV c a b=v:=⟨_,rfl⟩
 obtain⟨f,a2⟩:∃f,exF c b=f:=⟨_,rfl⟩
 rw[hv] at y ⊢;rw[a2] at hf ⊢
 have a3:∀(j:Int),exJ c=j->∀(W:World),(((((w.alloc (G #[I 1,I 0,I 0,I 0,M a,U,I 1,I 1,I 0,I 0,M b,U,I c,I 2,I 0,I j,M 0,U] 76)).alloc (G #[U,L w.heap.size 3 3,I 4,I 2,U] 84)).alloc (G #[L (w.heap.size+1) 1 1] 39)).alloc (G #[I 0] 3)).alloc (G #[L (w.heap.size+1+1) 1 1,L (w.heap.size+1+1+1) 1 1,I 0,I (-1),U,U] 29))=W->Q w W/\A W (w.heap.size+1+1+1+1) #[L (w.heap.size+1+1) 1 1,L (w.heap.size+1+1+1) 1 1,I 0,I (-1),U,U] 29/\O 143 #[.agg #[L (w.heap.size+1+1) 1 1,L (w.heap.size+1+1+1) 1 1,I 0,I (-1),U,U],I 0,U,.string ⟨#[]⟩,.agg #[U,U],I 10] W (fun e w'=>∃oa1 oc1,e=.returned (.agg #[M v,.slice oa1 0 oc1,I k,M 0,.string S,I 0,I 0])/\Q W w'):=fun j hj W hW=>by
  subst hj;obtain⟨h1,h2,h3⟩:=ex_prog a0 hW;refine⟨h1,h3,?_⟩;have:=(mX h2 (uL (t:=⟨4,2,[]⟩) (by show 3<=2000000;decide) Zd) 0 (np _ rfl) yN.nil ⟨#[]⟩ Zd yN.nil yN.nil 10 (np _ rfl) Zd).mono (fun e w' h=>h.open);rw[y] at this;rw[<-hS];exact this.mono (fun e w' ⟨oa1,oc1,h1,_,h3⟩=>⟨oa1,oc1,h1,h3⟩)
 have x:=Ja a3;have HF:=Ja hf;obtain⟨q3,h3⟩:∃q,(c==3)=q:=⟨_,rfl⟩
 obtain⟨q4,h4⟩:∃q,(c==4)=q:=⟨_,rfl⟩
 have hj:exJ c=if q3||q4 then 0 else 1:=by
  unfold exJ;rw[<-h3,<-h4];simp only[Bool.or_eq_true,beq_iff_eq]
 have HJ:=Ja hj;clear hj a3 hf y a0 hv a2 hk hS ha hb hc;go_enter Tryz.func123,Tryz.ntmps123;cases q3;cases q4
 ·go_upto_region 5 with(go_at_call 999999;skip)
  obtain⟨P1,i⟩:∃P1,(((((w.alloc (G #[I 1,I 0,I 0,I 0,M a,U,I 1,I 1,I 0,I 0,M b,U,I c,I 2,I 0,I 1,M 0,U] 76)).alloc (G #[U,L w.heap.size 3 3,I 4,I 2,U] 84)).alloc (G #[L (w.heap.size+1) 1 1] 39)).alloc (G #[I 0] 3)).alloc (G #[L (w.heap.size+1+1) 1 1,L (w.heap.size+1+1+1) 1 1,I 0,I (-1),U,U] 29))=P1:=⟨_,rfl⟩
  have d:=Ja (x.out 1 (HJ.out) P1 i);rw[i];clear i x HJ;have x0:=K0 d.out.2.1;have x1:=K1 d.out.2.1;have x2:=K2 d.out.2.1;have x3:=K3 d.out.2.1;have x4:=K4 d.out.2.1;have x5:=K5 d.out.2.1;go_upto_region 6 with(go_at_call 143;go_must (refine(d.out.2.2).mono ?_;rintro e w1 ⟨oa1,oc1,rfl,hb⟩))
  clear x0 x1 x2 x3 x4 x5;have hx:=zI (W:=w1) (o:=G #[M v,.slice oa1 0 oc1,I k,M 0,.string S,I 0,I 0] 57) rfl;have u:=(Below.refl w1.heap.size w1).alloc (Je _) (G #[M v,.slice oa1 0 oc1,I k,M 0,.string S,I 0,I 0] 57);have m:=(d.out.1.trans ((hb.trans (u.mono hb.size)).mono d.out.1.size))
  generalize hW:w1.alloc (G #[M v,.slice oa1 0 oc1,I k,M 0,.string S,I 0,I 0] 57)=R1 at *;generalize hc:w1.heap.size=r1 at *;have g:=Ja (Jb m hx);clear hb hx u m hW hc d;have y0:=K0 g.out.2;have y2:=K2 g.out.2;have l:=lt_of_block g.out.2;have HC:=Ja (show ∀W',Q R1 W'->T W' r1 0 (M v)/\T W' r1 2 (I k) from fun W' hb=>⟨(hb.cell (p:=⟨r1,0,none⟩) l).trans y0,(hb.cell (p:=⟨r1,2,none⟩) l).trans y2⟩);have a1:=HF.out
  go_region_held3 (fun w'=>T w' r1 0 (M v)/\T w' r1 2 (I k)) ((refine HC.out _ ?_;repeat' (first|with_reducible exact Below.refl _ _|with_reducible assumption|with_reducible refine Below.drew ?_))) (fail)
  all_goals go_wp2
  all_goals refine bodyPost_ret (v:=.tuple #[M v,.bool f]) (by simp[results,Tryz.results123,go_sem]) rfl ?_
  all_goals (refine⟨rfl,g.out.1.trans (Below.mono (B:=R1.heap.size) ?_ g.out.1.size)⟩;repeat' (first|with_reducible exact Below.refl _ _|with_reducible assumption|with_reducible refine Below.drew ?_))
 ·go_upto_region 5 with(go_at_call 999999;skip)
  obtain⟨P1,i⟩:∃P1,(((((w.alloc (G #[I 1,I 0,I 0,I 0,M a,U,I 1,I 1,I 0,I 0,M b,U,I c,I 2,I 0,I 0,M 0,U] 76)).alloc (G #[U,L w.heap.size 3 3,I 4,I 2,U] 84)).alloc (G #[L (w.heap.size+1) 1 1] 39)).alloc (G #[I 0] 3)).alloc (G #[L (w.heap.size+1+1) 1 1,L (w.heap.size+1+1+1) 1 1,I 0,I (-1),U,U] 29))=P1:=⟨_,rfl⟩
  have d:=Ja (x.out 0 (HJ.out) P1 i);rw[i];clear i x HJ;have x0:=K0 d.out.2.1;have x1:=K1 d.out.2.1;have x2:=K2 d.out.2.1;have x3:=K3 d.out.2.1;have x4:=K4 d.out.2.1;have x5:=K5 d.out.2.1;go_upto_region 6 with(go_at_call 143;go_must (refine(d.out.2.2).mono ?_;rintro e w1 ⟨oa1,oc1,rfl,hb⟩))
  clear x0 x1 x2 x3 x4 x5;have hx:=zI (W:=w1) (o:=G #[M v,.slice oa1 0 oc1,I k,M 0,.string S,I 0,I 0] 57) rfl;have u:=(Below.refl w1.heap.size w1).alloc (Je _) (G #[M v,.slice oa1 0 oc1,I k,M 0,.string S,I 0,I 0] 57);have m:=(d.out.1.trans ((hb.trans (u.mono hb.size)).mono d.out.1.size))
  generalize hW:w1.alloc (G #[M v,.slice oa1 0 oc1,I k,M 0,.string S,I 0,I 0] 57)=R1 at *;generalize hc:w1.heap.size=r1 at *;have g:=Ja (Jb m hx);clear hb hx u m hW hc d;have y0:=K0 g.out.2;have y2:=K2 g.out.2;have l:=lt_of_block g.out.2;have HC:=Ja (show ∀W',Q R1 W'->T W' r1 0 (M v)/\T W' r1 2 (I k) from fun W' hb=>⟨(hb.cell (p:=⟨r1,0,none⟩) l).trans y0,(hb.cell (p:=⟨r1,2,none⟩) l).trans y2⟩);have a1:=HF.out
  go_region_held3 (fun w'=>T w' r1 0 (M v)/\T w' r1 2 (I k)) ((refine HC.out _ ?_;repeat' (first|with_reducible exact Below.refl _ _|with_reducible assumption|with_reducible refine Below.drew ?_))) (fail)
  all_goals go_wp2
  all_goals refine bodyPost_ret (v:=.tuple #[M v,.bool f]) (by simp[results,Tryz.results123,go_sem]) rfl ?_
  all_goals (refine⟨rfl,g.out.1.trans (Below.mono (B:=R1.heap.size) ?_ g.out.1.size)⟩;repeat' (first|with_reducible exact Below.refl _ _|with_reducible assumption|with_reducible refine Below.drew ?_))
 ·go_upto_region 5 with(go_at_call 999999;skip)
  obtain⟨P1,i⟩:∃P1,(((((w.alloc (G #[I 1,I 0,I 0,I 0,M a,U,I 1,I 1,I 0,I 0,M b,U,I c,I 2,I 0,I 0,M 0,U] 76)).alloc (G #[U,L w.heap.size 3 3,I 4,I 2,U] 84)).alloc (G #[L (w.heap.size+1) 1 1] 39)).alloc (G #[I 0] 3)).alloc (G #[L (w.heap.size+1+1) 1 1,L (w.heap.size+1+1+1) 1 1,I 0,I (-1),U,U] 29))=P1:=⟨_,rfl⟩
  have d:=Ja (x.out 0 (HJ.out) P1 i);rw[i];clear i x HJ;have x0:=K0 d.out.2.1;have x1:=K1 d.out.2.1;have x2:=K2 d.out.2.1;have x3:=K3 d.out.2.1;have x4:=K4 d.out.2.1;have x5:=K5 d.out.2.1;go_upto_region 6 with(go_at_call 143;go_must (refine(d.out.2.2).mono ?_;rintro e w1 ⟨oa1,oc1,rfl,hb⟩))
  clear x0 x1 x2 x3 x4 x5;have hx:=zI (W:=w1) (o:=G #[M v,.slice oa1 0 oc1,I k,M 0,.string S,I 0,I 0] 57) rfl;have u:=(Below.refl w1.heap.size w1).alloc (Je _) (G #[M v,.slice oa1 0 oc1,I k,M 0,.string S,I 0,I 0] 57);have m:=(d.out.1.trans ((hb.trans (u.mono hb.size)).mono d.out.1.size))
  generalize hW:w1.alloc (G #[M v,.slice oa1 0 oc1,I k,M 0,.string S,I 0,I 0] 57)=R1 at *;generalize hc:w1.heap.size=r1 at *;have g:=Ja (Jb m hx);clear hb hx u m hW hc d;have y0:=K0 g.out.2;have y2:=K2 g.out.2;have l:=lt_of_block g.out.2;have HC:=Ja (show ∀W',Q R1 W'->T W' r1 0 (M v)/\T W' r1 2 (I k) from fun W' hb=>⟨(hb.cell (p:=⟨r1,0,none⟩) l).trans y0,(hb.cell (p:=⟨r1,2,none⟩) l).trans y2⟩);have a1:=HF.out
  go_region_held3 (fun w'=>T w' r1 0 (M v)/\T w' r1 2 (I k)) ((refine HC.out _ ?_;repeat' (first|with_reducible exact Below.refl _ _|with_reducible assumption|with_reducible refine Below.drew ?_))) (fail)
  all_goals go_wp2
  all_goals refine bodyPost_ret (v:=.tuple #[M v,.bool f]) (by simp[results,Tryz.results123,go_sem]) rfl ?_
  all_goals (refine⟨rfl,g.out.1.trans (Below.mono (B:=R1.heap.size) ?_ g.out.1.size)⟩;repeat' (first|with_reducible exact Below.refl _ _|with_reducible assumption|with_reducible refine Below.drew ?_))
structure SK where
 sb:Nat
 rb:Nat
 kb:Nat
 rm:Nat
 n:Nat
 B:Nat
 V:PV
 fv:Value
def slCells (K:SK)(p:IProg)(k:Nat):Array Value:=#[K.V.fv,K.V.av,I p.entry,I p.handler,K.V.dv,K.V.bv,K.fv,.map (some K.rm),L K.rb K.n K.n,L K.kb K.n K.n,I k]
def xB (a:Rg):List Value:=[M (a.lo:Int),M (a.hi:Int)]
structure SlvAt (w:World) (K:SK) (p:IProg) (bls:List IBlk) (k:Nat) (s:Slv):Prop where
 prog:ProgIn w K.B K.V p
 blks:wX w K.B K.fv bls
 map:qz w K.rm 17 ruG
 cell:w.heap[K.sb]? =some (.cells (slCells K p k) 99 (0,0))
 row:w.heap[K.rb]? =some (.cells (s.r.flatMap xB).toArray 45 (0,0))
 kn:w.heap[K.kb]? =some (.cells (s.kn.map Value.bool).toArray 4 (0,0))
 oks:OkS K.n s
 n64:K.n<=1000000
 lt:K.B<=K.sb/\K.B<=K.rb/\K.B<=K.kb/\K.B<=K.rm
 ne:K.sb≠K.rb/\K.sb≠K.kb/\K.sb≠K.rm/\K.rb≠K.kb/\K.rb≠K.rm/\K.kb≠K.rm
theorem SlvAt.below{w':World}{K:SK}{p:IProg}{c:List IBlk}{s:Slv}(h:SlvAt w K p c k s)(hb:Q w w'):SlvAt w' K p c k s:=by
 have h1:=lt_of_block h.cell;have d:K.B<=w.heap.size:=Qd (Nat.lt_of_le_of_lt h.lt.1 h1);exact⟨h.prog.below (hb.mono d),h.blks.below yT (hb.mono d),h.map.below hb,(hb.block _ h1).trans h.cell,(hb.block _ (lt_of_block h.row)).trans h.row,(hb.block _ (lt_of_block h.kn)).trans h.kn,h.oks,h.n64,h.lt,h.ne⟩
theorem SlvAt.rcell{K:SK}{p:IProg}{c:List IBlk}{s:Slv}(h:SlvAt w K p c k s){v:Int}(h0:0<=v/\v<K.n):
 T w K.rb (v.toNat*2) (M ((s.get v).lo:Int))/\T w K.rb (v.toNat*2+1) (M ((s.get v).hi:Int)):=by
 have hl:v.toNat<s.r.length:=by rw[h.oks.rl];omega
 have hg:s.r[v.toNat]? =some (s.get v):=by
  unfold Slv.get;rw[Jj,Jd hl];rfl
 exact⟨by have:=oW (f:=xB) (n:=2) (fun _=>rfl) h.row hg (j:=0) rfl;rw[Ng,Uk] at this;exact this,by have:=oW (f:=xB) (n:=2) (fun _=>rfl) h.row hg (j:=1) rfl;rw[Ng] at this;exact this⟩
theorem be (w:World)(n:Nat):O 122 #[M n] w (fun e w'=>e=.returned (.agg #[M n,M n])/\Q w w'):=afx w n
theorem afw(sv:Value)(av:Value)(h1:o.code=1)(p:IProg)(s:Slv):
 O 96 #[sv,aam o av] w (tg w (na p s o)):=by
 rw[show na p s o=pt o.n from if_pos h1];obtain⟨c,d,a,b,x,al⟩:=o;subst h1;unfold aam;have g:=Ja (fun W=>be W x);go_enter Tryz.func96,Tryz.ntmps96;go_wp2_with (go_at_call 122;go_must (refine(g.out _).mono ?_;rintro e w1 ⟨rfl,f⟩;have hk:A w1 (w.heap.size+1) #[M 0,M 0] 45:=zH f (zI Zs) Zs;have f0:=zA (i:=0) hk rfl;have f1:=zA (i:=1) hk rfl;have g0:=zE (i:=0) hk;have g1:=zE (i:=1) hk;have h:=lt_of_block hk;have j:=Below.trans (show Q w _ from by repeat' (first|exact Below.refl _ _|(refine Below.alloc ?_ (by first|(simp;done)|(simp;omega)) _))) (f.mono (by first|(simp;done)|(simp;omega)));clear f hk))
 refine bodyPost_ret (v:=.agg #[M x,M x]) ?_ rfl ⟨rfl,by repeat' (first|exact Below.refl _ _|assumption|(refine Below.drew ?_)|(refine Below.alloc ?_ (by first|(simp;done)|(simp;omega)) _)|(refine Below.setCell ?_ (by first|(simp;done)|(simp;omega)) _))⟩;rw[zM rfl];go_simp
theorem SlvAt.cells{K:SK}{p:IProg}{c:List IBlk}{s:Slv}(h:SlvAt w K p c k s):
 T w K.sb 4 K.V.dv/\T w K.sb 7 (.map (some K.rm))/\T w K.sb 8 (L K.rb K.n K.n)/\T w K.sb 9 (L K.kb K.n K.n)/\T w K.sb 10 (I k)/\T w K.sb 6 K.fv:=
 ⟨zA h.cell rfl,zA h.cell rfl,zA h.cell rfl,zA h.cell rfl,zA h.cell rfl,zA h.cell rfl⟩
theorem agw{K:SK}{p:IProg}{a4:List IBlk}{s:Slv}(h:SlvAt w K p a4 k s)(av:Value)(h2:o.code=2)(ha:0<=o.a/\o.a<p.data.length)(hn:o.n<65536):
 O 96 #[F K.sb,aam o av] w (tg w (na p s o)):=by
 obtain⟨c,d,a,b,n,al⟩:=o;have ha:0<=a/\a<p.data.length:=ha;have hn:n<65536:=hn;obtain⟨j,rfl⟩:∃j:Nat,a=j:=⟨a.toNat,by omega⟩
 have h2:c=2:=h2;subst h2;rw[show na p s ⟨2,d,j,b,n,al⟩=pt (((p.data.getD j ⟨0,0,0⟩).addr+n)%65536) from rfl];unfold aam;obtain⟨x,hx⟩:∃x,p.data[j]? =some x:=⟨_,Jd Zo⟩
 obtain⟨da,dc,m,a0,a1⟩:=h.prog.data.form;have l:=h.prog.data;rw[m] at l;obtain⟨db,dq,rfl,a2,g⟩:=l.get hx;obtain⟨y,hy⟩:∃y,(x.addr+n)%65536=y:=⟨_,rfl⟩
 rw[show(p.data.getD j ⟨0,0,0⟩)=x by rw[Jj,hx];rfl,hy];have a5:IntKind.u16.wrap ((x.addr:Int)+n)=(y:Int):=by rw[xY];omega
 have a3:K.B<=w.heap.size:=Qd (Nat.lt_of_le_of_lt h.lt.1 (lt_of_block h.cell));have a6:=lt_of_block h.cell;have hj:j<p.data.length:=Zo;have HC:=Ja (show ∀W,Q w W->T W K.sb 4 (.slice (some ⟨db,dq,none⟩) p.data.length dc)/\T W db (dq+j*3+1) (M (x.addr:Int)) from fun W hb=>⟨by rw[<-m];exact(h.below hb).cells.1,(hb.cell (p:=⟨db,dq+j*3+1,none⟩) (Jy a2 a3)).trans g.2.1⟩);have HO:=Ja (fun W=>be W y);obtain⟨c0,c1⟩:=HC.out w (Below.refl _ _);clear h g l m hx hy ha hn a1 a0;go_enter Tryz.func96,Tryz.ntmps96;go_upto_region 5 with(go_at_call 999999;skip)
 obtain⟨X,hX⟩:∃X,(w.alloc (G #[I 2,I d,I j,I b,M n,av] 76)).alloc (G #[M 0,M 0] 45)=X:=⟨_,rfl⟩
 have f:=Ja (show Q w X/\A X w.heap.size #[I 2,I d,I j,I b,M n,av] 76/\A X (w.heap.size+1) #[M 0,M 0] 45 from by
  rw[<-hX];exact⟨by repeat' (first|exact Below.refl _ _|(refine Below.alloc ?_ (by first|(simp;done)|(simp;omega)) _)),zB (zI rfl),zI Zs⟩)
 rw[hX];clear hX c0 c1;have u:=Ja (show ∀W,Below (w.heap.size+1) X W->(T W K.sb 4 (.slice (some ⟨db,dq,none⟩) p.data.length dc)/\T W db (dq+j*3+1) (M (x.addr:Int)))/\T W w.heap.size 2 (I j)/\T W w.heap.size 4 (M n) from fun W hb=>⟨HC.out W (f.out.1.trans (hb.mono (Nat.le_succ _))),zA ((hb.block _ (Nat.lt_succ_self _)).trans f.out.2.1) rfl,zA ((hb.block _ (Nat.lt_succ_self _)).trans f.out.2.1) rfl⟩);obtain⟨⟨c0,c1⟩,c2,c3⟩:=u.out X (Below.refl _ _)
 go_region_held3 (fun w'=>(T w' K.sb 4 (.slice (some ⟨db,dq,none⟩) p.data.length dc)/\T w' db (dq+j*3+1) (M (x.addr:Int)))/\T w' w.heap.size 2 (I j)/\T w' w.heap.size 4 (M n))
  ((refine u.out _ ?_;repeat' (first|with_reducible exact Below.refl _ _|with_reducible assumption|with_reducible refine Below.drew ?_|refine Below.setCell ?_ (by first|exact Je _|(show w.heap.size+1<=w.heap.size+1;omega)) _)))
  ((go_at_call 122;(refine(HO.out _).mono ?_;rintro e w1 ⟨rfl,t⟩;have q:Q X w1:=Below.trans (show Q X _ from by repeat' (first|with_reducible exact Below.refl _ _|with_reducible refine Below.drew ?_)) (t.mono (Je _));clear t;have b1:Below (w.heap.size+1) X w1:=q.mono (Qd (lt_of_block f.out.2.2));have hk:=zH q f.out.2.2 (lt_of_block f.out.2.2);have f0:=zA (i:=0) hk rfl;have f1:=zA (i:=1) hk rfl;have g0:=zE (i:=0) hk;have g1:=zE (i:=1) hk;have a7:=lt_of_block hk;have b0:=f.out.1.trans (q.mono f.out.1.size))))
 all_goals go_wp2
 all_goals (refine bodyPost_ret (v:=.agg #[M y,M y]) ?_ rfl ⟨rfl,by repeat' (first|exact Below.refl _ _|assumption|(refine Below.drew ?_)|(refine Below.alloc ?_ (by first|(simp;done)|(simp;omega)) _)|(refine Below.setCell ?_ (by first|(simp;done)|(simp;omega)) _))⟩;rw[zM rfl];go_simp)
theorem dC{d:wO}{g:List (List Nat)}{k v:Int}(h:d.1 v=none):yy d g i k v=false:=by unfold yy;rw[h]
theorem ct{p:IProg}(h:opF p o=true):-1<=o.res:=by
 unfold opF at h;rw[Jm] at h;have h2:=h.2
 split at h2
 ·simp only[Jm,decide_eq_true_eq] at h2;omega
 ·split at h2
  ·simp only[Jm,decide_eq_true_eq] at h2;omega
  ·simp only[Jm,decide_eq_true_eq] at h2;omega
theorem aW (l:List Int):∀(n:Int),n<=qK n l/\∀v∈l,cG v<=qK n l:=by
 induction l with
 |nil=>intro n;exact⟨Og _,fun v hv=>by cases hv⟩
 |cons x l ih=>
  intro n;obtain⟨h1,h2⟩:=ih (max n (cG x));have e:qK n (x::l)=qK (max n (cG x)) l:=rfl;rw[e];refine⟨by omega,fun v hv=>?_⟩;rcases Jq.1 hv with rfl|hv
  ·omega
  ·exact h2 v hv
theorem adH (l:List IOp):∀(n:Int),n<=o8 n l/\∀o∈l,cG o.res<=o8 n l:=by
 induction l with
 |nil=>intro n;exact⟨Og _,fun v hv=>by cases hv⟩
 |cons x l ih=>
  intro n;obtain⟨h1,h2⟩:=ih (max n (cG x.res));have e:o8 n (x::l)=o8 (max n (cG x.res)) l:=rfl;rw[e];refine⟨by omega,fun v hv=>?_⟩;rcases Jq.1 hv with rfl|hv
  ·omega
  ·exact h2 v hv
theorem dr (l:List IBlk):∀(n:Int),n<=l.foldl iL n/\∀b∈l,(∀v∈b.params,cG v<=l.foldl iL n)/\∀o∈b.ops,cG o.res<=l.foldl iL n:=by
 induction l with
 |nil=>intro n;exact⟨Og _,fun v hv=>by cases hv⟩
 |cons x l ih=>
  intro n;obtain⟨h1,h2⟩:=ih (iL n x);have p1:=aW x.params n;have p2:=adH x.ops (qK n x.params);have e:iL n x=o8 (qK n x.params) x.ops:=rfl;rw[Qk];refine⟨by omega,fun b hb=>?_⟩;rcases Jq.1 hb with rfl|hb
  ·exact⟨fun v hv=>by have:=p1.2 v hv;omega,fun o ho=>by have:=p2.2 o ho;omega⟩
  ·exact h2 b hb
theorem bO (blocks:List IBlk):0<=aaG blocks:=(dr blocks 0).1
theorem wrap64_in {n:Int}(h1:-9223372036854775808<=n)(h2:n<=9223372036854775807):wrap64 n=n:=by first|exact Om _ Zo|(unfold wrap64;omega)
theorem aaY {v:Int}(h:-1<=v)(h2:v<=65535):cG v=v+1:=by unfold cG;rw[wrap64_in Zo Zo]
theorem qstep_2(h:MachQ w K m none dp ov)(b3:on<65536)(ab:Option Addr)(an ac:Nat){n:Nat}{v:Int->Nat}(hv:dA w vb n v)(a5:Int)(a3:0<=oa/\oa.toNat<K.E.p.data.length):
 O 103 #[F K.pm,.agg #[I 2,I f,I oa,I ob,M on,.slice ab an ac],L vb n n,I a5] w (vh K w (.ok ((((K.E.p.data.getD oa.toNat ⟨0,0,0⟩).addr)+on)%65536) m)):=by
 have b2:=hv.2 oa;have b1:=hv.2 ob;have t:=zI (W:=w) (o:=G #[I 2,I f,I oa,I ob,M on,.slice ab an ac] 76) rfl;have a2:Q w (w.alloc (G #[I 2,I f,I oa,I ob,M on,.slice ab an ac] 76)):=(Below.refl _ _).alloc (Je _) _;have H:=Ja h;have HV:=Ja hv;have l:=Ja (Jb t a2);clear h hv t a2;generalize q:v oa=xa at *;generalize a0:v ob=xb at *;have HX:=Ja (Jb q a0);clear q a0;go_enter Tryz.func103,Tryz.ntmps103;go_upto_region 4 with(go_at_call 52;go_must (refine(aaK 2 _).mono ?_;rintro e w1 ⟨he,d⟩;obtain rfl:e=.returned (.agg #[.bool true,.bool true,.bool false,.bool false,.bool true]):=he))
 have j:Q w (w1.alloc (G #[.bool true,.bool true,.bool false,.bool false,.bool true] 120)):=(l.out.2.trans (d.mono l.out.2.size)).alloc (Jn l.out.2.size d.size) _;have c:=zB (o:=(G #[.bool true,.bool true,.bool false,.bool false,.bool true] 120)) (zH d l.out.1 (lt_of_block l.out.1));have i:=zI (W:=w1) (o:=(G #[.bool true,.bool true,.bool false,.bool false,.bool true] 120)) rfl;have b6:w1.heap.size≠w.heap.size:=by have:=d.size;simp at this;omega
 generalize w1.alloc (G #[.bool true,.bool true,.bool false,.bool false,.bool true] 120)=W2 at *;generalize w1.heap.size=bs at *;have y:=H.out.keep j;have a4:=HV.out.below (zH j HV.out.1 (lt_of_block HV.out.1));have p0:=K0 c;have p2:=K2 c;have p3:=K3 c;have p4:=K4 c;have p5:=K5 c;have s2:=K2 i;have s3:=K3 i;have b0:=lt_of_block c;have a7:=lt_of_block i;have HM:=Ja y;have HF:=Ja (FrmQ.ofBelow j (Qd H.out.size));have a6:=y.lt;clear j c i d l y a4;obtain⟨k,rfl⟩:∃k:Nat,oa=(k:Int):=⟨oa.toNat,by omega⟩
 have a1:k<K.E.p.data.length:=Zo;have b4:(k:Int)<K.E.p.data.length:=Zo;have g:=HM.out.prog.data;obtain⟨da,dc,u,_,_⟩:=g.form;rw[u] at g;obtain⟨x,hx⟩:∃x,K.E.p.data[k]? =some x:=⟨_,Jd a1⟩
 obtain⟨b,oo,rfl,_,_,b5,_,_,q,_⟩:=g.get hx;have c4:=HM.out.c4;rw[u] at c4;have EE:=Ja (show(K.E.p.data.getD ((k:Nat):Int).toNat ⟨0,0,0⟩).addr=x.addr by rw[Ni,Jj,hx];rfl);clear a3 a1 g u hx;go_upto_region 16 with fail;go_quiet (fail);go_wp2;go_ret;rw[EE.out];have e:Ending.returned (M (IntKind.u16.wrap ((x.addr:Int)+(on:Int))))=.returned (M (((x.addr+on)%65536:Nat):Int)):=zh (by rw[xY];omega);exact e ▸ vh.ok (HM.out.drewN _) HF.out.drewN Zo
theorem qstep_24(h:MachQ w K m none dp ov)(c8:on<65536)(ab:Option Addr)(an ac:Nat){n:Nat}{v:Int->Nat}(hv:dA w vb n v)(b2:Int):
 O 103 #[F K.pm,.agg #[I 24,I i,I oa,I ob,M on,.slice ab an ac],L vb n n,I b2] w (vh K w (uq K.E m)):=by
 have c5:=hv.2 oa;have c4:=hv.2 ob;have y:=zI (W:=w) (o:=G #[I 24,I i,I oa,I ob,M on,.slice ab an ac] 76) rfl;have a4:Q w (w.alloc (G #[I 24,I i,I oa,I ob,M on,.slice ab an ac] 76)):=(Below.refl _ _).alloc (Je _) _;have H:=Ja h;have HV:=Ja hv;have u:=Ja (Jb y a4);clear h hv y a4;generalize a2:v oa=xa at *;generalize a1:v ob=xb at *;have HX:=Ja (Jb a2 a1);clear a2 a1;go_enter Tryz.func103,Tryz.ntmps103;go_upto_region 4 with(go_at_call 52;go_must (refine(aaK 24 _).mono ?_;rintro e w1 ⟨he,g⟩;obtain rfl:e=.returned (.agg #[.bool true,.bool true,.bool false,.bool false,.bool true]):=he))
 have q:Q w (w1.alloc (G #[.bool true,.bool true,.bool false,.bool false,.bool true] 120)):=(u.out.2.trans (g.mono u.out.2.size)).alloc (Jn u.out.2.size g.size) _;have c:=zB (o:=(G #[.bool true,.bool true,.bool false,.bool false,.bool true] 120)) (zH g u.out.1 (lt_of_block u.out.1));have l:=zI (W:=w1) (o:=(G #[.bool true,.bool true,.bool false,.bool false,.bool true] 120)) rfl;have d1:w1.heap.size≠w.heap.size:=by have:=g.size;simp at this;omega
 generalize w1.alloc (G #[.bool true,.bool true,.bool false,.bool false,.bool true] 120)=W2 at *;generalize w1.heap.size=bs at *;have a0:=H.out.keep q;have a7:=HV.out.below (zH q HV.out.1 (lt_of_block HV.out.1));have p0:=K0 c;have p2:=K2 c;have p3:=K3 c;have p4:=K4 c;have p5:=K5 c;have s2:=K2 l;have s3:=K3 l;have c2:=lt_of_block c;have c1:=lt_of_block l;have t:=Ja a0;have HF:=Ja (FrmQ.ofBelow q (Qd H.out.size));have c0:=a0.lt;clear q c l g u a0 a7;have c7:=t.out.c7;have c17:=t.out.c17;have f:=t.out.inn;obtain⟨ia,ic,j,d0,c9⟩:=f.form;rw[j] at c7 f;have b0:=t.out.inp
 by_cases d:m.inputs<K.E.inn.length
 ·obtain⟨x,hx⟩:∃x,K.E.inn[m.inputs]? =some x:=⟨_,Jd d⟩
  obtain⟨b,o,rfl,a3,k,a6⟩:=f.get hx;rw[Nk] at k;have EE:=Ja (show uq K.E m=.ok x {m with inputs:=m.inputs+1 } by unfold uq;rw[if_pos d,Jj,hx];rfl);have hJ:(m.inputs:Int)<K.E.inn.length:=Zo;have b3:=Ja d;have b6:=Ja a3;have a5:K.E.inn.length<=9223372036854775807:=Zo;have b4:=Ja j;clear f d hx b0 j a3;go_upto_region 34 with fail
  go_cut [123] (fun v wx=>v=.bool true/\∃n,wx=W2.drewN n)
  case first=>
   go_quiet (fail);go_wp2;go_meet;exact⟨rfl,_,rfl⟩
  case rest=>
   obtain⟨rfl,n2,rfl⟩:=hcut;have hm:=t.out.drewN n2;have h1:=hm.put 17 (I ((m.inputs:Int)+1)) (m':= {m with inputs:=m.inputs+1 }) (tr':=none) (dp':=dp) rfl rfl rfl hm.obd hm.fuel b3.out hm.pol;have hF:FrmQ K.B W2 ((W2.drewN n2).setCell ⟨K.pm,17,none⟩ (I ((m.inputs:Int)+1))):=(FrmQ.refl _ _).drewN.trans (hm.frm 17 _);have d7:(W2.drewN n2).cell? ⟨K.pm,7,none⟩=_:=c7;have d3:(W2.drewN n2).cell? ⟨K.pm,17,none⟩=_:=c17;have b9:Y (W2.drewN n2) K.pm 17:=hm.free 17;have b8:=hm.lt;have e7:=h1.c7;rw[b4.out] at e7;have d2:=h1.c17;have b7:=h1.lt;have b1:=(hF.below.cell (p:=⟨b,o+m.inputs,none⟩) b6.out).trans k;have c3:IntKind.i64.wrap (((m.inputs+1:Nat):Int)-1)=(m.inputs:Int):=by rw[show(((m.inputs+1:Nat):Int)-1)=(m.inputs:Int) by omega];exact Om _ Zo
   have H1:=Ja h1;have b5:=Ja (HF.out.trans hF);clear h1 hF c7 c17 hm;go_upto_region 36 with fail;go_quiet (fail);go_wp2;go_ret;rw[EE.out];exact vh.ok (H1.out.drewN _) b5.out.drewN a6
 ·have EE:=Ja (show uq K.E m=.ok 0 m by unfold uq;rw[if_neg d]);have hJ:¬(m.inputs:Int)<K.E.inn.length:=Zo;have a5:K.E.inn.length<=9223372036854775807:=Zo;clear d f j;go_upto_region 34 with fail
  go_cut [123] (fun v wx=>v=.bool false/\∃n,wx=W2.drewN n)
  case first=>
   go_quiet (fail);go_wp2;go_meet;exact⟨rfl,_,rfl⟩
  case rest=>
   obtain⟨rfl,n2,rfl⟩:=hcut;go_wp2;go_ret;rw[EE.out];exact vh.ok (x:=0) (t.out.drewN _) HF.out.drewN Zd
theorem MachQ.setO{w2:World}{c:Value}{o:Obj}{p x:Nat}(h:MachQ w K m none dp ov)(hg:(w.alloc o).grownBy w2 ov.ownBlock)
 (f:w2.ownsRow K.B 117 2 c (m.out.length+1) (qO m.out++ [vL p,vL x])) (hp:p<65536) (l:x<65536) (hb:m.out.length+1+m.fuel.toNat<=4000000):
 MachQ (w2.setCell ⟨K.pm,13,none⟩ c) K {m with out:=m.out++ [(p,x)]} none dp c/\FrmQ K.B w (w2.setCell ⟨K.pm,13,none⟩ c):=by
 have n1:=zC h.out h.blk (.inr Zd);have n2:=zC h.out h.ram (.inr Zd);have b2:=zL hg (zB h.blk) n1;have r2:=zL hg (zB h.ram) n2;have u:=h.size
 have j:FrmQ K.B w w2:=by
  refine⟨((Below.refl _ _).alloc (Qd u) o).grown hg Zt (fun k hk=>(h.out.lt k hk).1),fun k o' hk hs=>?_⟩;refine zL hg (zB hk) ?_;intro e;obtain⟨_,h2⟩:=h.out;rcases h2 with⟨hv,_⟩|⟨g,a0,y,hv,_,t,_⟩
  ·rw[hv] at e;simp[Value.ownBlock] at e
  ·rw[hv] at e;simp only[Value.ownBlock,Option.some.injEq] at e;subst e;rw[t] at hk;have:=Nt hk;subst this;exact hs.2.1 rfl
 have i:FrmQ K.B w (w2.setCell ⟨K.pm,13,none⟩ c):=j.set b2 h.gpm (by simp[di]) _;refine⟨⟨?_,zR r2 (by simpa using h.ne),h.rlen,h.rlt,?_,?_,?_,h.fuel,h.inp,h.pol,h.gpm,h.grb,h.prog.below i.below,h.inn.below zr i.below,h.irq.below xQ i.below⟩,i⟩
 ·rw[zD b2];rfl
 ·have e1:(m.out++ [(p,x)]).length=m.out.length+1:=by simp
  show(w2.setCell ⟨K.pm,13,none⟩ c).ownsRow K.B 117 2 c (m.out++ [(p,x)]).length (qO (m.out++ [(p,x)]))
  rw[e1,kF];exact ownsRow_setCell_other f (by intro e;exact zC f b2 (.inr Zd) (by simpa using e)) _
 ·intro q d;rcases Jl.1 d with d|d
  ·exact h.olt q d
  ·simp at d;subst d;exact⟨hp,l⟩
 ·show(m.out++ [(p,x)]).length+m.fuel.toNat<=4000000
  simp;omega
theorem qstep_25(h:MachQ w K m none dp ov)(b6:on<65536)(ab:Option Addr)(an ac:Nat){n:Nat}{v:Int->Nat}(hv:dA w vb n v)(c8:0<=oa/\oa.toNat<n)(c0:Int)(b7:m.out.length+1+m.fuel.toNat<=4000000):
 O 103 #[F K.pm,.agg #[I 25,I i,I oa,I ob,M on,.slice ab an ac],L vb n n,I c0] w (vh K w (adS m on (v oa))):=by
 have b5:=hv.2 oa;have c7:=hv.2 ob;obtain⟨ka,rfl⟩:∃ka:Nat,oa=(ka:Int):=⟨oa.toNat,by omega⟩
 have b1:ka<n:=Zo;have d0:(ka:Int)<(n:Int):=Zo;have y:=zI (W:=w) (o:=G #[I 25,I i,I ka,I ob,M on,.slice ab an ac] 76) rfl;have a5:Q w (w.alloc (G #[I 25,I i,I ka,I ob,M on,.slice ab an ac] 76)):=(Below.refl _ _).alloc (Je _) _;have H:=Ja h;have HV:=Ja hv;have q:=Ja (Jb y a5);clear h hv y a5;generalize a4:v (ka:Int)=xa at *;generalize a3:v ob=xb at *;have HX:=Ja (Jb a4 a3);clear a4 a3;go_enter Tryz.func103,Tryz.ntmps103;go_upto_region 4 with(go_at_call 52;go_must (refine(aaK 25 _).mono ?_;rintro e w1 ⟨he,g⟩;obtain rfl:e=.returned (.agg #[.bool true,.bool false,.bool true,.bool false,.bool true]):=he))
 have k:Q w (w1.alloc (G #[.bool true,.bool false,.bool true,.bool false,.bool true] 120)):=(q.out.2.trans (g.mono q.out.2.size)).alloc (Jn q.out.2.size g.size) _;have c:=zB (o:=(G #[.bool true,.bool false,.bool true,.bool false,.bool true] 120)) (zH g q.out.1 (lt_of_block q.out.1));have j:=zI (W:=w1) (o:=(G #[.bool true,.bool false,.bool true,.bool false,.bool true] 120)) rfl;have d3:w1.heap.size≠w.heap.size:=by have:=g.size;simp at this;omega
 generalize w1.alloc (G #[.bool true,.bool false,.bool true,.bool false,.bool true] 120)=W2 at *;generalize w1.heap.size=bs at *;have a0:=H.out.keep k;have u:=HV.out.below (zH k HV.out.1 (lt_of_block HV.out.1));have p0:=K0 c;have p2:=K2 c;have p3:=K3 c;have p4:=K4 c;have p5:=K5 c;have s2:=K2 j;have s3:=K3 j;have c5:=lt_of_block c;have c4:=lt_of_block j;have ca:T W2 vb ka (M xa):=by rw[<-HX.out.1];exact u.cell b1
 have c3:=lt_of_block u.1;have l:=Ja a0;have HF:=Ja (FrmQ.ofBelow k (Qd H.out.size));have a2:=a0.lt;clear k c j g q a0 u;obtain⟨ii,b8,b0,a7,a6⟩:=info_parts Tryz.info_event;have c13:=l.out.c13;have b9:=l.out.free 13;have d:=l.out.out;have nb:=zC d l.out.blk (.inr Zd);obtain⟨oa',oc',rfl⟩:=zG d;have b4:=Ja d;have c9:m.out.length<=4000000:=Zo;have b3:∀o,T (W2.alloc o) K.pm 13 (.slice oa' m.out.length oc'):=fun o=>(Oo (w:=W2) (Below.heap_alloc _ _ _ a2)).trans c13
 have b2:∀o,Y (W2.alloc o) K.pm 13:=fun o=>(Qm (w:=W2) (Below.heap_alloc _ _ _ a2)).trans b9
 have d2:K.B<W2.heap.size:=l.out.size;clear d;go_upto_region 38 with fail
 go_region_law (first|(refine step_append_lies _ (by rfl) (.tmp 153) (.tmp 158) _ (by rfl) K.B 117 ii (.agg #[M 0,M 0]) 2 4 Tryz.underlying53 b8 b0 a7 a6 rfl Zo (.slice oa' m.out.length oc') m.out.length (qO m.out) (by rfl) ((b4.out.alloc _).drew) ⟨W2.heap.size,0,none⟩ 1 1 [M on,M xa] (by rfl) (by rfl) (Oi (cs:=#[M on,M xa]) (t:=117) (fr:=(0,0)) (heap_alloc_new W2 _)) (by simp[Value.oneCell']) Zo (by unfold maxLen;omega) Zo Zt (W2.heap.size+1) Zs ?_;intro gg c2 w3 a1 f d1 c1;have d5:=(f.cell_far ⟨K.pm,13,none⟩ Zt (Ne.symm nb)).trans (b3 _);have d4:=(f.frozen_far ⟨K.pm,13,none⟩ Zt (Ne.symm nb)).trans (b2 _)))
 all_goals go_wp2_with fail
 all_goals go_ret
 all_goals (
  have hO:=l.out.setO (p:=on) (x:=xa) (xN f) (by simpa[vL] using a1) b6 b5 b7
  exact vh.ok (x:=0) hO.1 (HF.out.trans hO.2) Zd)
theorem bK{S n:Nat}{ty:TypeId}{sz:Nat}{av:Value}{xs:List Value}(h:w.ownsRow S ty sz av n xs){b:Nat}{o:Nat}{n' c:Nat}(e:av=.slice (some ⟨b,o,none⟩) n' c):S<=b:=by
 obtain⟨_,h2⟩:=h;rcases h2 with⟨hv,_⟩|⟨g,f,d,hv,hg,i,_⟩
 ·rw[hv] at e;cases e
 ·rw[hv] at e;cases e;exact hg
def zeroR:Res Nat->Res Nat
 |.ok _ m'=> .ok 0 m'
 |.trap k i m'=> .trap k i m'
def cX (K:MK)(r:Nat):Prop:=
 ∀(w:World) (m:Mach) (dp:Int) (ov av:Value) (f:Int) (args:List Nat),MachQ w K m none dp ov->0<=f->f.toNat<K.E.p.funcs.length->wV w w.heap.size av args->(args.length:Int)=K.E.p.args.getD f.toNat 0->(∀b o n c,av=.slice (some ⟨b,o,none⟩) n c->args≠ []->b≠K.pm)->
  O 47 #[F K.pm,I f,av,I (101-(r:Int))] w (vh K w (xW K.E r f args m))
theorem poll_q(h:MachQ w K m none dp ov)(a5:OkProg K.E.p){r:Nat}(hr:r<=100)(hC:cX K r):
 O 128 #[F K.pm,I (100-(r:Int))] w (et K w (tY K.E (xW K.E r) m)):=by
 have c8:=h.c8;have c18:=h.c18;have l:=h.irq;obtain⟨ia,ic,a0,c9,c7⟩:=l.form;rw[a0] at c8 l;have b4:=h.pol;have b3:=h.lt;have H:=Ja h;have b8:=Ja a5;have HC:=Ja hC;clear h a5 hC
 by_cases j:m.polls<K.E.irq.length
 ·obtain⟨x,hx⟩:∃x,K.E.irq[m.polls]? =some x:=⟨_,Jd j⟩
  obtain⟨b,o,rfl,a6,g,c4⟩:=l.get hx;rw[Nk] at g;have hg:K.E.irq.getD m.polls 0=x:=by rw[Jj,hx];rfl
  have hJ:¬(K.E.irq.length:Int)<=(m.polls:Int):=Zo;have d1:(m.polls:Int)<K.E.irq.length:=Zo;have b1:K.E.irq.length<=9223372036854775807:=Zo;have q:=Ja j;have d2:=Ja a6;have HG:=Ja hg;clear l j hx b4 a0 a6 hg;go_enter Tryz.func128,Tryz.ntmps128;go_upto_region 0 with fail
  go_cut [16] (fun v wx=>v=.bool false/\∃n,wx=w.drewN n)
  case first=>
   go_quiet (fail);go_wp2;go_meet;exact⟨rfl,_,rfl⟩
  case rest=>
   obtain⟨rfl,n,rfl⟩:=hcut;have H1:=Ja (H.out.drewN n);have b9:=Ja ((FrmQ.refl K.B w).drewN (n:=n));have d8:(w.drewN n).cell? ⟨K.pm,8,none⟩=_:=c8;have b0:(w.drewN n).cell? ⟨K.pm,18,none⟩=_:=c18;have dc:(w.drewN n).cell? ⟨b,o+m.polls,none⟩=_:=g;have c2:=H1.out.lt;clear c8 c18 g b3;generalize w.drewN n=W1 at *;go_upto_region 1 with fail
   go_cut [4] (fun v wx=>v=.int .u8 (x:Int)/\∃n,wx=W1.drewN n)
   case first=>
    go_quiet (fail);go_wp2;go_meet;exact⟨rfl,_,rfl⟩
   case rest=>
    obtain⟨rfl,n2,rfl⟩:=hcut;have hm:=H1.out.drewN n2;have h2:=hm.put 18 (I ((m.polls:Int)+1)) (m':= {m with polls:=m.polls+1 }) (tr':=none) (dp':=dp) rfl rfl rfl hm.obd hm.fuel hm.inp q.out;have b7:(W1.drewN n2).cell? ⟨K.pm,18,none⟩=_:=b0;have b2:Y (W1.drewN n2) K.pm 18:=hm.free 18;have c1:=hm.lt;have t:=Ja (b9.out.trans ((FrmQ.refl _ _).drewN.trans (hm.frm 18 (I ((m.polls:Int)+1)))));have H2:=Ja h2;clear h2 hm d8 b0 dc;go_upto_region 3 with fail;generalize b5:(W1.drewN n2).setCell ⟨K.pm,18,none⟩ (I ((m.polls:Int)+1))=W2 at *;have f3:=H2.out.c3;have c0:=H2.out.lt;have a3:(x≠0/\K.E.p.handler≠-1)∨(x=0)∨(x≠0/\K.E.p.handler=-1):=Zo;clear b5 b7 b2;rcases a3 with⟨f,hh⟩|f|⟨f,hh⟩
    ·obtain⟨g1,g2,g3⟩:=b8.out.hnd hh;have hX:((x:Int)==0)=false:=Ze;have d:=HC.out W2 {m with polls:=m.polls+1 } dp ov (U) K.E.p.handler [] H2.out g1 g2 yN.nil (by rw[g3];rfl) (by intro b o n c e;cases e);obtain⟨R,hR⟩:∃R,xW K.E r K.E.p.handler [] {m with polls:=m.polls+1 }=R:=⟨_,rfl⟩
     rw[hR] at d;have hd:(100-(r:Int))+1=101-(r:Int):=Zo;have EE:=Ja (show tY K.E (xW K.E r) m=zeroR R by unfold tY;rw[if_pos q.out,HG.out,if_pos ⟨f,hh⟩,hR];cases R<;>rfl);have a4:(x:Int)≠0:=Zo;clear f hh hR g2 g3
     cases R with
     |ok y m'=>
      have a2:=Ja d;clear d;go_wp2_with (go_at_call 47;go_must (refine a2.out.mono ?_;rintro e w3 ⟨he,⟨a7,ov3,u⟩,a1,c5⟩;obtain rfl:e=.returned (M y):=he))
      go_end0
      rw[EE.out]
      exact et.ok (x:=0) u (t.out.trans a1) Zd
     |trap k i m'=>
      have a2:=Ja d;clear d;go_wp2_with (go_at_call 47;go_must (refine a2.out.mono ?_;rintro e w3 ⟨he,⟨a7,ov3,b6,u⟩,a1⟩;obtain rfl:e=.returned (M 0):=he))
      go_end0
      rw[EE.out];exact⟨rfl,⟨a7,ov3,b6,u⟩,t.out.trans a1⟩
    ·have hX:((x:Int)==0)=true:=by rw[beq_iff_eq];omega
     have EE:=Ja (show tY K.E (xW K.E r) m=.ok 0 {m with polls:=m.polls+1 } by unfold tY;rw[if_pos q.out,HG.out,if_neg (by rintro⟨h,_⟩;exact h f)]);have a4:(x:Int)=0:=Zo;clear f;go_wp2
     go_end0
     rw[EE.out];exact et.ok (x:=0) H2.out t.out Zd
    ·have hX:((x:Int)==0)=false:=Ze;have EE:=Ja (show tY K.E (xW K.E r) m=.ok 0 {m with polls:=m.polls+1 } by unfold tY;rw[if_pos q.out,HG.out,if_neg (by rintro⟨_,h⟩;exact h hh)]);have a4:(x:Int)≠0:=Zo;have d0:¬(0:Int)<=K.E.p.handler:=Zo;clear f;go_wp2
     go_end0
     rw[EE.out];exact et.ok (x:=0) H2.out t.out Zd
 ·have EE:=Ja (show tY K.E (xW K.E r) m=.ok 0 m by unfold tY;rw[if_neg j]);have hJ:(K.E.irq.length:Int)<=(m.polls:Int):=Zo;have b1:K.E.irq.length<=9223372036854775807:=Zo;clear j l a0;go_enter Tryz.func128,Tryz.ntmps128;go_upto_region 0 with fail
  go_cut [16] (fun v wx=>v=.bool true/\∃n,wx=w.drewN n)
  case first=>
   go_quiet (fail);go_wp2;go_meet;exact⟨rfl,_,rfl⟩
  case rest=>
   obtain⟨rfl,n,rfl⟩:=hcut;go_wp2
   go_end0
   rw[EE.out];exact et.ok (x:=0) (H.out.drewN n) (FrmQ.refl _ _).drewN Zd
theorem qstep_27(h:MachQ w K m none dp ov)(b7:on<65536)(ab:Option Addr)(an ac:Nat){n:Nat}{v:Int->Nat}(hv:dA w vb n v)(a7:Hid (OkProg K.E.p)){r:Nat}(hr:r<=100)(hC:Hid (cX K r)):
 O 103 #[F K.pm,.agg #[I 27,I f,I oa,I ob,M on,.slice ab an ac],L vb n n,I (100-(r:Int))] w (vh K w (tY K.E (xW K.E r) m)):=by
 have b6:=hv.2 oa;have b5:=hv.2 ob;have q:=zI (W:=w) (o:=G #[I 27,I f,I oa,I ob,M on,.slice ab an ac] 76) rfl;have a3:Q w (w.alloc (G #[I 27,I f,I oa,I ob,M on,.slice ab an ac] 76)):=(Below.refl _ _).alloc (Je _) _;have H:=Ja h;have HV:=Ja hv;have l:=Ja (Jb q a3);clear h hv q a3;generalize a2:v oa=xa at *;generalize a1:v ob=xb at *;have HX:=Ja (Jb a2 a1);clear a2 a1;go_enter Tryz.func103,Tryz.ntmps103;go_upto_region 4 with(go_at_call 52;go_must (refine(aaK 27 _).mono ?_;rintro e w1 ⟨y,d⟩;obtain rfl:e=.returned (.agg #[.bool true,.bool false,.bool false,.bool false,.bool false]):=y))
 have j:Q w (w1.alloc (G #[.bool true,.bool false,.bool false,.bool false,.bool false] 120)):=(l.out.2.trans (d.mono l.out.2.size)).alloc (Jn l.out.2.size d.size) _;have c:=zB (o:=(G #[.bool true,.bool false,.bool false,.bool false,.bool false] 120)) (zH d l.out.1 (lt_of_block l.out.1));have g:=zI (W:=w1) (o:=(G #[.bool true,.bool false,.bool false,.bool false,.bool false] 120)) rfl;have b8:w1.heap.size≠w.heap.size:=by have:=d.size;simp at this;omega
 generalize w1.alloc (G #[.bool true,.bool false,.bool false,.bool false,.bool false] 120)=W2 at *;generalize w1.heap.size=bs at *;have a0:=H.out.keep j;have a6:=HV.out.below (zH j HV.out.1 (lt_of_block HV.out.1));have p0:=K0 c;have p2:=K2 c;have p3:=K3 c;have p4:=K4 c;have p5:=K5 c;have s2:=K2 g;have s3:=K3 g;have b3:=lt_of_block c;have b2:=lt_of_block g;have HM:=Ja a0;have HF:=Ja (FrmQ.ofBelow j (Qd H.out.size));have b1:=a0.lt;clear j c g d l a0 a6;obtain⟨R,hR⟩:∃R,tY K.E (xW K.E r) m=R:=⟨_,rfl⟩
 have hc:=poll_q HM.out a7.out hr hC.out;have EE:=Ja hR;rw[show tY K.E (xW K.E r) m=R from hR] at hc
 cases R with
 |ok x m'=>
  have HC:=Ja hc;have a5:x=0:=by exact lU EE.out
  clear hc hR;subst a5;go_wp2_with (go_at_call 128;go_must (refine HC.out.mono ?_;rintro e w3 ⟨y,⟨a4,ov3,t⟩,u,b4⟩;subst y))
  go_ret;rw[EE.out]
  exact vh.ok (x:=0) t (HF.out.trans u) Zd
 |trap k i m'=>
  have HC:=Ja hc;clear hc hR;go_wp2_with (go_at_call 128;go_must (refine HC.out.mono ?_;rintro e w3 ⟨y,⟨a4,ov3,b0,t⟩,u⟩;subst y))
  go_ret;rw[EE.out];exact⟨rfl,⟨a4,ov3,b0,t⟩,HF.out.trans u⟩
theorem qstep_26(h:MachQ w K m none dp ov){u:Int}(g1:on<65536)(ab:Option Addr)(ac:Nat){n:Nat}{v:Int->Nat}(hv:dA w vb n v){xs:List Int}(a4:zY w w.heap.size (.slice ab xs.length ac) xs)(a5:∀x∈xs,0<=x/\x.toNat<n)(d3:xs.length<=65536){r:Nat}(hr:r<=100)(hC:cX K r)(b9:0<=oa/\oa.toNat<K.E.p.funcs.length/\(xs.length:Int)=K.E.p.args.getD oa.toNat 0):
 O 103 #[F K.pm,.agg #[I 26,I u,I oa,I ob,M on,.slice ab xs.length ac],L vb n n,I (100-(r:Int))] w (vh K w (xW K.E r oa (xs.map v) m)):=by
 have g0:=hv.2 oa;have f9:=hv.2 ob;have a6:=zI (W:=w) (o:=G #[I 26,I u,I oa,I ob,M on,.slice ab xs.length ac] 76) rfl;have c0:Q w (w.alloc (G #[I 26,I u,I oa,I ob,M on,.slice ab xs.length ac] 76)):=(Below.refl _ _).alloc (Je _) _;have H:=Ja h;have HV:=Ja hv;have H0:=Ja (Jb a6 c0);clear h hv a6 c0;go_enter Tryz.func103,Tryz.ntmps103;go_upto_region 4 with(go_at_call 52;go_must (refine(aaK 26 _).mono ?_;rintro e w1 ⟨he,t⟩;obtain rfl:e=.returned (.agg #[.bool true,.bool false,.bool false,.bool false,.bool false]):=he))
 have j:Q w (w1.alloc (G #[.bool true,.bool false,.bool false,.bool false,.bool false] 120)):=(H0.out.2.trans (t.mono H0.out.2.size)).alloc (Jn H0.out.2.size t.size) _;have f:=zB (o:=(G #[.bool true,.bool false,.bool false,.bool false,.bool false] 120)) (zH t H0.out.1 (lt_of_block H0.out.1));have a3:=zI (W:=w1) (o:=(G #[.bool true,.bool false,.bool false,.bool false,.bool false] 120)) rfl;have g5:w1.heap.size≠w.heap.size:=by have:=t.size;simp at this;omega
 generalize w1.alloc (G #[.bool true,.bool false,.bool false,.bool false,.bool false] 120)=W2 at *;generalize w1.heap.size=bs at *;have b3:=H.out.keep j;have b8:=HV.out.below (zH j HV.out.1 (lt_of_block HV.out.1));have p0:=K0 f;have p2:=K2 f;have p3:=K3 f;have p4:=K4 f;have p5:=K5 f;have s2:=K2 a3;have s3:=K3 a3;have b7:=lt_of_block f;have f6:=lt_of_block a3;have HM:=Ja b3;have HF:=Ja (FrmQ.ofBelow j (Qd H.out.size));have f4:=b3.lt;have e0:=Ja (a4.below zO j);have e1:=Ja j.size;have c3:=Ja b8;have HC:=Ja hC;have b5:=Ja b9;have HU:=Ja a5;obtain⟨_,_,ef,g4,f0⟩:=a4.form;cases ef;clear j f a3 t H0 b3 b8;have e6:xs.length<=65536:=d3;have f2:=e1.out;clear a4 hC b9 a5;go_wp2
 go_loopw [12,13] (fun rv kv wx=>∃k:Nat,k<=xs.length/\kv=I k/\Hid (wx.ownsRow W2.heap.size 43 1 rv k ((uT v xs k).map vL)/\Q W2 wx)) (fun _ kv _=>xs.length-(intOf kv).toNat)
 case atStart=>exact⟨0,Jt _,rfl,Ja ⟨Jv _ _ _ _,Below.refl _ _⟩⟩
 case round=>
  obtain⟨k,hk,rfl,g⟩:=hrel;obtain⟨ra,rc,rfl⟩:=zG g.out.1;have b4:FrmQ K.B W2 wr:=FrmQ.ofBelow g.out.2 (Qd HM.out.size);have d5:=zV g.out.2 b7 p5;have d2:=zV g.out.2 b7 p2;have e4:=g.out.2.size;have e2:w.heap.size<wr.heap.size:=Zo
  by_cases a2:k<xs.length
  ·have d1:(k:Int)<xs.length:=Zo;have c5:=Ja a2;obtain⟨x,hx⟩:∃x,xs[k]? =some x:=⟨_,Jd a2⟩
   obtain⟨b,o,rfl,hb,b2,e3⟩:=e0.out.get hx;rw[Nk] at b2;have cx:=zV g.out.2 (show b<W2.heap.size by omega) b2;have f5:b<wr.heap.size:=Zo;have d6:=HU.out x (Ji hx);have d9:=Ja (qH (v:=v) hx);have g3:=pA (v:=v) (show k<=xs.length by omega);obtain⟨kx,rfl⟩:∃kx:Nat,x=(kx:Int):=⟨x.toNat,by omega⟩
   have b0:kx<n:=Zo;have e7:(kx:Int)<(n:Int):=Zo;have a0:=c3.out.kept b4;have cv:=a0.cell b0;have f3:=lt_of_block a0.1;have f8:=a0.2 (kx:Int);obtain⟨ii,d7,d0,c9,c8⟩:=info_parts Tryz.info_u16;clear hx b2 a2 a0 d6 hb b0;generalize v (kx:Int)=vx at *;go_wp2_with (at_builtin;go_must (refine wpList_append_lies _ rfl (.tmp 172) (.tmp 181) 48 rfl W2.heap.size 43 ii (M 0) 1 2 Tryz.underlying48 d7 d0 c9 c8 rfl Zd _ k ((uT v xs k).map vL) rfl (g.out.1.alloc _) ⟨wr.heap.size,0,none⟩ 1 1 [M vx] rfl rfl (Oi (cs:=#[M vx]) (zI Zs)) (by simp[Value.oneCell']) Zd (by unfold maxLen;omega) Zo Zt (wr.heap.size+1) Zs ?_;intro gq f1 w6 a1 q e8 e5;have c4:=Ja (Jb a1 q);clear a1 q))
   go_roundw
   case rel=>
    refine⟨k+1,c5.out,by go_num,Ja ⟨?_,(g.out.2.alloc Zo _).grown c4.out.2 Zt (fun k hk=>(g.out.1.lt k hk).1)⟩⟩;rw[d9.out,Js];exact c4.out.1
   case measure=>have:=c5.out;simp[intOf];omega
  ·obtain rfl:k=xs.length:=by omega
   have d1:¬(xs.length:Int)<xs.length:=Zo;have l:=g.out.1;rw[r8] at l;have c1:=HM.out.keep g.out.2;have d:=HC.out wr m dp ov (.slice ra xs.length rc) oa (xs.map v) c1 b5.out.1 b5.out.2.1 (ms l Zs (fun y hy=>by obtain⟨z,_,rfl⟩:=Nu.1 hy;exact c3.out.2 z)) (by simpa using b5.out.2.2) (fun b o n c e _=>by have:=bK l e;have:=HM.out.lt;omega);have c7:=Ja (HF.out.trans b4);have g2:(100-(r:Int))+1=101-(r:Int):=Zo;obtain⟨R,hR⟩:∃R,xW K.E r oa (xs.map v) m=R:=⟨_,rfl⟩
   rw[hR] at d;have EE:=Ja hR;clear l c1 a2 hR b4
   cases R with
   |ok x m'=>
    have b6:=Ja d;clear d;go_wp2_with (go_at_call 47;go_must (refine b6.out.mono ?_;rintro e w3 ⟨he,⟨c2,ov3,a7⟩,b1,d4⟩;obtain rfl:e=.returned (M x):=he))
    go_ret;rw[EE.out]
    exact vh.ok a7 (c7.out.trans b1) d4
   |trap k i m'=>
    have b6:=Ja d;clear d;go_wp2_with (go_at_call 47;go_must (refine b6.out.mono ?_;rintro e w3 ⟨he,⟨c2,ov3,d8,a7⟩,b1⟩;obtain rfl:e=.returned (M 0):=he))
    go_ret;rw[EE.out];exact⟨rfl,⟨c2,ov3,d8,a7⟩,c7.out.trans b1⟩
def cS (n:Nat)(o:IOp):Prop:=∀x∈rR o,0<=x/\x.toNat<n
theorem cS.a{n:Nat}(h:cS n o)(hs:(zi o.code).a=true):0<=o.a/\o.a.toNat<n:=h _ (by unfold rR;rw[hs];simp)
theorem cS.b{n:Nat}(h:cS n o)(hs:(zi o.code).b=true):0<=o.b/\o.b.toNat<n:=h _ (by unfold rR;rw[hs];simp)
theorem cS.args{n:Nat}(h:cS n o):∀x∈o.args,0<=x/\x.toNat<n:=fun x hx=>h x (by unfold rR;simp[hx])
theorem step_q(h:MachQ w K m none dp ov)(g:OkProg K.E.p)(ho:OkOp K.E.p o)(hb:I64 o.code/\I64 o.res/\I64 o.a/\I64 o.b/\o.n<65536){av:Value}(i:zY w w.heap.size av o.args)
 {n:Nat} {v:Int->Nat} (hv:dA w vb n v) (f:cS n o) {r:Nat} (hr:r<=100) (q:cX K r) (k:m.out.length+1+m.fuel.toNat<=4000000):
 O 103 #[F K.pm,aam o av,L vb n n,I (100-(r:Int))] w (vh K w (oV K.E (xW K.E r) o v m)):=by
 obtain⟨code,res,oa,ob,on,xs⟩:=o;obtain⟨⟨a0,y⟩,h2,j⟩:=ho;obtain⟨_,a1,x,u,c⟩:=hb;obtain⟨aa,ac,d,_,_⟩:=i.form;simp only at *;unfold aam;have l:code=1∨code=2∨code=3∨code=4∨(5<=code/\code<=17)∨code=18∨code=19∨code=20∨code=21∨code=22∨code=23∨code=24∨code=25∨code=26∨code=27:=Zo;rcases l with rfl|rfl|rfl|rfl|t|rfl|rfl|rfl|rfl|rfl|rfl|rfl|rfl|rfl|rfl
 ·subst d;exact qstep_1 h c _ _ _ hv _
 ·subst d;exact qstep_2 h c _ _ _ hv _ (h2 rfl)
 ·subst d;exact qstep_3 h c _ _ _ hv (f.a rfl) _
 ·subst d;exact qstep_4 h c _ _ _ hv (f.a rfl) _
 ·subst d
  have e:oV K.E (xW K.E r) ⟨code,res,oa,ob,on,xs⟩ v m=iy m code (v oa) (v ob):=by
   unfold oV mU;simp only;rw[if_neg Zo,if_neg Zo,if_neg Zo,if_neg Zo,if_neg Zo,if_neg Zo,if_neg Zo,if_neg Zo,if_neg Zo,if_neg Zo,if_neg Zo,if_neg Zo,if_neg Zo,if_neg Zo]
  rw[e]
  have hs:(zi code).a=true/\(zi code).b=true:=by
   rcases rJ code with⟨h,e⟩|⟨h,e⟩|⟨h,e⟩|⟨h,e⟩|⟨h,e⟩|⟨h,e⟩|⟨h,e⟩|⟨h,e⟩
   all_goals first|omega|(rw[e];exact⟨rfl,rfl⟩)
  exact qstep_ar h c _ _ _ hv (f.a hs.1) (f.b hs.2) _ t
 ·subst d;exact qstep_18 h c _ _ _ hv (f.a rfl) _
 ·subst d;exact qstep_19 h c _ _ _ hv (f.a rfl) _
 ·subst d;exact qstep_20 h c _ _ _ hv (f.a rfl) (f.b rfl) _
 ·subst d;exact qstep_21 h c _ _ _ hv (f.a rfl) (f.b rfl) _
 ·subst d;exact qstep_22 h c _ _ _ hv (f.a rfl) _ (Ja g.bank)
 ·subst d;exact qstep_23 h c _ _ _ hv (f.a rfl) _ (Ja g.bank)
 ·subst d;exact qstep_24 h c _ _ _ hv _
 ·subst d;exact qstep_25 h c _ _ _ hv (f.a rfl) _ k
 ·subst d;exact qstep_26 h c _ _ hv i f.args (by have:=g.argle oa.toNat;have:=(j rfl).2.2;omega) hr q (j rfl)
 ·subst d;exact qstep_27 h c _ _ _ hv (Ja g) hr (Ja q)
def aeB (o:IOp):Bool:=decide (18<=o.code) && decide (o.code<=21)
theorem agb {bl:List IBlk}{i:Nat}(hi:i<bl.length):succ (zy bl) i=(xz bl i).term.to.map fun e=>e.block.toNat:=by
 obtain⟨b,hb⟩:∃b,bl[i]? =some b:=⟨_,Jd hi⟩
 rw[y7 hb];unfold succ zy;rw[Jj,Jr,hb];rfl
def RgsAny (w:World)(R:List Rg)(e:Ending)(w':World):Prop:=∃ra:Option Addr,e=.returned (.slice ra R.length R.length)/\(R≠ []->∃b,ra=some ⟨b,0,none⟩/\A w' b (R.flatMap xB).toArray 45/\w.heap.size<=b)/\Q w w'
def dM (s:ByteArray)(k:Nat):List Nat:=(List.range 8192).map fun j=>if j<k then(s.data.getD j 0).toNat else 0
theorem aD (n:Nat)(f:Nat->Nat)(h:∀i,f i=0):(List.range n).map f=List.replicate n 0:=by
 apply Oq;intro i
 by_cases hi:i<n
 ·simp[hi,h]
 ·simp[hi]
theorem ac8 (s:ByteArray):dM s 0=List.replicate 8192 0:=aD _ _ (fun i=>by rw[if_neg (Nat.not_lt_zero _)])
theorem aad (s:ByteArray)(k:Nat):(dM s k).length=8192:=by simp[dM]
theorem aab(s:ByteArray)(h:k<8192):(dM s k).set k (s.data.getD k 0).toNat=dM s (k+1):=by
 unfold dM;apply Oq;intro i;rw[Ov,Jr,Jr]
 by_cases hi:i<8192
 ·rw[Oh hi]
  by_cases hk:k=i
  ·subst hk;simp[hi]
  ·have:i<k+1↔i<k:=Zo;simp[hk,this]
 ·have c:(List.range 8192)[i]? =none:=Of (by simpa using hi);rw[c]
  by_cases hk:k=i
  ·subst hk;omega
  ·simp[hk]
theorem dm(s:ByteArray)(h:k=s.size∨k=8192):dM s k=v7 s:=by
 unfold dM v7;refine Up fun j hj=>?_
 have c:=Ol.1 hj
 split
 ·rfl
 ·rcases h with rfl|rfl
  ·have:s.data.getD j 0=0:=by
    rw[Array.getD_eq_getD_getElem?,Array.getElem?_eq_none (by show s.size<=j;omega)];rfl
   rw[this];rfl
  ·omega
def RetRam (w:World)(s:ByteArray)(e:Ending)(w':World):Prop:=∃b:Nat,e=.returned (L b 8192 8192)/\w.heap.size<=b/\A w' b ((v7 s).map q8).toArray 5/\Q w w'
theorem ram_q (w:World)(s:ByteArray)(hs:s.size<=9223372036854775807):O 46 #[.string s] w (RetRam w s):=by
 have m:=mk_ram;obtain⟨Z,x⟩:∃Z,madeCells #[Value.int .u8 0] 8192=Z:=⟨_,rfl⟩
 rw[x] at m;have h:Z=((dM s 0).map q8).toArray:=by rw[<-x,yA,ac8,List.map_replicate];rfl
 have HZ:=Ja h;clear x h;go_enter Tryz.func46,Tryz.ntmps46;go_upto_region 2 with fail;have t:Q w (w.alloc (G Z 5)):=(Below.refl _ _).alloc (Je _) _;have j:A (w.alloc (G Z 5)) w.heap.size ((dM s 0).map q8).toArray 5:=by rw[<-HZ.out];exact zI rfl
 generalize w.alloc (G Z 5)=W1 at *;generalize a0:w.heap.size=b0 at *;have f:=Ja (Jb t (Jb j a0));clear t j m;go_wp2
 go_loopw [4] (fun kv wx=>∃k:Nat,k<=8192/\k<=s.size/\kv=I k/\Hid (A wx b0 ((dM s k).map q8).toArray 5/\Below b0 w wx)) (fun kv _=>8192-(intOf kv).toNat)
 case atStart=>exact⟨0,by omega,by omega,rfl,Ja ⟨f.out.2.1,f.out.1⟩⟩
 case round=>
  obtain⟨k,hk,a5,rfl,d⟩:=hrel
  by_cases h1:k<s.size
  ·have a2:(k:Int)<s.size:=Zo
   by_cases h2:k<8192
   ·have a1:(k:Int)<8192:=Zo;have H2:=Ja (Jb h1 h2);obtain⟨y,u⟩:∃y,(s.data.getD k 0).toNat=y:=⟨_,rfl⟩
    have a4:((s[k].toNat:Nat):Int)=(y:Int):=by rw[dt h1,u]
    obtain⟨c0,q⟩:∃c,((dM s k).map q8)[k]? =some c:=⟨_,Jd (by rw[Nr,aad];exact h2)⟩
    have cc:T wr b0 k c0:=zA d.out.1 (by simpa using q);have cf:=zE (i:=k) d.out.1;have cl:=lt_of_block d.out.1;have l:=zD (i:=k) d.out.1 (.int .u8 (y:Int))
    have g:A (wr.setCell ⟨b0,k,none⟩ (.int .u8 (y:Int))) b0 ((dM s (k+1)).map q8).toArray 5:=by
     rw[l,<-aab s h2,u,Ox];simp[q8]
    have a3:=Ja (Jb g (d.out.2.setCell (p:=⟨b0,k,none⟩) (Je _) (.int .u8 (y:Int))));clear l g q h2 u;go_wp2;go_roundw
    case rel=>exact⟨k+1,by have:=H2.out;omega,by have:=H2.out;omega,by go_num,a3⟩
    case measure=>have:=H2.out;simp[intOf];omega
   ·obtain rfl:k=8192:=by omega
    have a1:¬((8192:Nat):Int)<8192:=Zo;have o:=dm s (k:=8192) (.inr rfl);have HF:=Ja o;clear h2 o;go_wp2;go_ret;exact⟨b0,rfl,by rw[f.out.2.2];exact Je _,by rw[<-HF.out];exact d.out.1,by rw[f.out.2.2];exact d.out.2⟩
  ·obtain rfl:k=s.size:=by omega
   have a2:¬(s.size:Int)<s.size:=Zo;have HF:=Ja (dm s (k:=s.size) (.inl rfl));clear h1;go_wp2;go_ret;exact⟨b0,rfl,by rw[f.out.2.2];exact Je _,by rw[<-HF.out];exact d.out.1,by rw[f.out.2.2];exact d.out.2⟩
end Go.Proofs.YtoahcpkibpomcaaGreat
