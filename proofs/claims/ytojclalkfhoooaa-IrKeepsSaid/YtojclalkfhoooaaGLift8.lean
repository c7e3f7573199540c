/- Part of a proof. -/
import Derived.Test.YtojclalkfhoooaaGOwn0
import Derived.Deep.Slices
import Derived.OpenShut
import Derived.ProofKit
set_option linter.all false
set_option maxHeartbeats 4000000
set_option maxRecDepth 100000
namespace Go.Proofs.Ytojclalkfhoooaa
open Go.RowKit
def sanP:IProg:=rd ⟨4,2,[]⟩ [⟨1,0,0,0,7,[]⟩,⟨24,1,0,0,3,[]⟩,⟨6,2,0,1,0,[]⟩,⟨25,-1,2,0,9,[]⟩]
def sanQ:IProg:=rd ⟨4,-1,[]⟩ [⟨1,0,0,0,16383,[]⟩,⟨18,1,0,0,0,[]⟩]
def sanB:IProg:=rd ⟨4,-1,[]⟩ [⟨3,1,0,0,0,[]⟩,⟨1,0,0,0,1,[]⟩]
theorem kS:vC sanP=0:=by decide+kernel
theorem lh:vC sanB=51:=by decide+kernel
theorem sanP_run:i9 ⟨sanP,[9],[]⟩ 0 [] ⟨#[]⟩ 50=⟨65534,[(9,65534)],6,0,v7 ⟨#[]⟩,1,0⟩:=by
 have h:io sanP 0 []=true:=by decide+kernel
 have e:bQ ⟨sanP,[9],[]⟩ 0 [] ⟨#[]⟩ 50=⟨65534,[(9,65534)],6,0,v7 ⟨#[]⟩,1,0⟩:=rfl;exact(if_pos h).trans e
theorem sanQ_run:i9 ⟨sanQ,[],[]⟩ 0 [] ⟨#[]⟩ 50=⟨0,[],2,16383,v7 ⟨#[]⟩,0,0⟩:=by
 have h:io sanQ 0 []=true:=by decide+kernel
 have e:bQ ⟨sanQ,[],[]⟩ 0 [] ⟨#[]⟩ 50=⟨0,[],2,16383,v7 ⟨#[]⟩,0,0⟩:=rfl;exact(if_pos h).trans e
def sanPl:List (IOp×Value):=[(⟨1,0,0,0,7,[]⟩,F),(⟨24,1,0,0,3,[]⟩,F),(⟨6,2,0,1,0,[]⟩,F),(⟨25,-1,2,0,9,[]⟩,F)]
def sanQl:List (IOp×Value):=[(⟨1,0,0,0,16383,[]⟩,F),(⟨18,1,0,0,0,[]⟩,F)]
def sanBl:List (IOp×Value):=[(⟨3,1,0,0,0,[]⟩,F),(⟨1,0,0,0,1,[]⟩,F)]
def oz (l:List (IOp×Value)):Prop:=∀q∈l,qN q.1/\q.1.args=[]/\q.2=F
theorem eV {l:List (IOp×Value)}(h:oz l)(w:World)(B:Nat):∀q∈l,qN q.1/\zY w B q.2 q.1.args:=fun q hq=>by
 obtain⟨h1,h2,h3⟩:=h q hq;rw[h2,h3];exact⟨h1,yN.nil⟩
theorem sanPl_ok:oz sanPl:=by
 intro q hq;simp only[sanPl,Jq,List.not_mem_nil,or_false] at hq;rcases hq with rfl|rfl|rfl|rfl<;>exact⟨⟨⟨by decide,by decide⟩,⟨by decide,by decide⟩,⟨by decide,by decide⟩,⟨by decide,by decide⟩,by decide⟩,rfl,rfl⟩
theorem sanQl_ok:oz sanQl:=by
 intro q hq;simp only[sanQl,Jq,List.not_mem_nil,or_false] at hq;rcases hq with rfl|rfl<;>exact⟨⟨⟨by decide,by decide⟩,⟨by decide,by decide⟩,⟨by decide,by decide⟩,⟨by decide,by decide⟩,by decide⟩,rfl,rfl⟩
theorem sanBl_ok:oz sanBl:=by
 intro q hq;simp only[sanBl,Jq,List.not_mem_nil,or_false] at hq;rcases hq with rfl|rfl<;>exact⟨⟨⟨by decide,by decide⟩,⟨by decide,by decide⟩,⟨by decide,by decide⟩,⟨by decide,by decide⟩,by decide⟩,rfl,rfl⟩
def RetSmall (w:World)(p:IProg)(e:Ending)(w':World):Prop:=
 ∃f1 f2 a1 a2 d1 d2 b1 b2,e=.returned (.agg #[.slice f1 1 f2,.slice a1 1 a2,O 0,O (-1),.slice d1 0 d2,.slice b1 0 b2])/\
  ProgIn w' w'.heap.size ⟨.slice f1 1 f2,.slice a1 1 a2,.slice d1 0 d2,.slice b1 0 b2⟩ p/\L w w'
theorem qF {W:World}{b:Nat}{l:List (IOp×Value)}{e:TypeId}(h:Y W b (l.flatMap zU).toArray e)(hl:oz l)(c:l.length<=1000000){tk ta:Int}(d:I64 tk/\I64 ta){n:Nat}(g:n=l.length):
 G 32 #[.agg #[O tk,O ta,F],Q b n n] W (RetSmall W (rd ⟨tk,ta,[]⟩ (l.map (·.1)))):=by
 subst g;exact(kW d yN.nil (ops_lit h (lt_of_block h) (eV hl W _) c)).mono (fun e w' h=>h.open)
theorem ln (w:World):G 17 #[] w fun e w'=>e=.returned (.bool true)/\L w w':=by
 obtain⟨S,hS⟩:∃S,y9 (v7 ⟨#[]⟩)=S:=⟨_,rfl⟩
 go_enter Try.func17,Try.ntmps17;have d5:=Ja (Below.refl w.heap.size w);have HS:=Ja hS;clear hS;go_upto_region 2 with(go_at_call 32;go_must (refine(qF (l:=sanPl) (zI rfl) sanPl_ok Zd ⟨⟨by decide,by decide⟩,⟨by decide,by decide⟩⟩ rfl).mono ?_;rintro e w1 ⟨f1,g1,a1,b1,d1,e1,h1,i1,rfl,hp,hb⟩))
 have j:=zI (W:=w1) (o:=A #[.slice f1 1 g1,.slice a1 1 b1,O 0,O (-1),.slice d1 0 e1,.slice h1 0 i1] 29) rfl;have c:=(Below.refl w1.heap.size w1).alloc (Je _) (A #[.slice f1 1 g1,.slice a1 1 b1,O 0,O (-1),.slice d1 0 e1,.slice h1 0 i1] 29);have u:=(hp.below c).mono c.size;have d:=((Below.refl w.heap.size w).alloc (Je _) _).trans ((hb.trans (c.mono hb.size)).mono Zs);generalize hW:w1.alloc (A #[.slice f1 1 g1,.slice a1 1 b1,O 0,O (-1),.slice d1 0 e1,.slice h1 0 i1] 29)=P1 at *;generalize hc:w1.heap.size=c1 at *;have g:=Ja (show L w P1/\ProgIn P1 P1.heap.size ⟨.slice f1 1 g1,.slice a1 1 b1,.slice d1 0 e1,.slice h1 0 i1⟩ sanP/\Y P1 c1 #[.slice f1 1 g1,.slice a1 1 b1,O 0,O (-1),.slice d1 0 e1,.slice h1 0 i1] 29 from⟨d,u,j⟩);clear hb hp j c u d hW hc
 have m:∀(W:World) (b:Nat),L P1 W->Y W b #[U 9] 39->G 23 #[.agg #[.slice f1 1 g1,.slice a1 1 b1,O 0,O (-1),.slice d1 0 e1,.slice h1 0 i1],O 0,F,.string ⟨#[]⟩,.agg #[Q b 1 1,F],O 50] W (fun e w'=>∃oa1 oc1,e=.returned (.agg #[U 65534,.slice oa1 1 oc1,O 6,U 0,.string S,O 1,O 0])/\vM w' w'.heap.size (.slice oa1 1 oc1) [(9,65534)]/\L W w'):=fun W b hb hc=>by
  have:=(mX ((g.out.2.1.below hb).mono hb.size) (uL Zd Zd) 0 pZ yN.nil ⟨#[]⟩ Zd (acW (xs:=[9]) hc (lt_of_block hc) Zd Zd) yN.nil 50 ⟨by decide,by decide⟩ Zd).mono (fun e w' h=>h.open);rw[sanP_run] at this;rw[<-HS.out];exact this
 have b0:=Ja m;clear m;have x0:=K0 g.out.2.2;have x1:=K1 g.out.2.2;have x2:=K2 g.out.2.2;have x3:=K3 g.out.2.2;have x4:=K4 g.out.2.2;have x5:=K5 g.out.2.2;go_upto_region 3 with(go_at_call 23;go_must (refine(b0.out _ _ ((Below.refl _ _).alloc (Je _) _) (zI rfl)).mono ?_;rintro e w1 ⟨oa1,oc1,rfl,ho,hb⟩))
 clear x0 x1 x2 x3 x4 x5;have j:=zI (W:=w1) (o:=A #[U 65534,.slice oa1 1 oc1,O 6,U 0,.string S,O 1,O 0] 57) rfl;have c:=(Below.refl w1.heap.size w1).alloc (Je _) (A #[U 65534,.slice oa1 1 oc1,O 6,U 0,.string S,O 1,O 0] 57);have a7:=(ho.below vo c).mono vo c.size;have d:L P1 _:=((Below.refl _ _).alloc (Je _) _).trans ((hb.trans (c.mono hb.size)).mono Zs);generalize hW:w1.alloc (A #[U 65534,.slice oa1 1 oc1,O 6,U 0,.string S,O 1,O 0] 57)=R1 at *;generalize hc:w1.heap.size=r1 at *;have a5:=Ja (show L P1 R1/\vM R1 R1.heap.size (.slice oa1 1 oc1) [(9,65534)]/\Y R1 r1 #[U 65534,.slice oa1 1 oc1,O 6,U 0,.string S,O 1,O 0] 57 from⟨d,a7,j⟩);clear hb ho j c a7 d hW hc b0;go_upto_region 4 with(go_at_call 32;go_must (refine(qF (l:=sanQl) (zI rfl) sanQl_ok Zd ⟨⟨by decide,by decide⟩,⟨by decide,by decide⟩⟩ rfl).mono ?_;rintro e w1 ⟨f2,g2,a2,b2,d2,e2,h2,i2,rfl,hp,hb⟩))
 have j:=zI (W:=w1) (o:=A #[.slice f2 1 g2,.slice a2 1 b2,O 0,O (-1),.slice d2 0 e2,.slice h2 0 i2] 29) rfl;have c:=(Below.refl w1.heap.size w1).alloc (Je _) (A #[.slice f2 1 g2,.slice a2 1 b2,O 0,O (-1),.slice d2 0 e2,.slice h2 0 i2] 29);have u:=(hp.below c).mono c.size;have d:=((Below.refl R1.heap.size R1).alloc (Je _) _).trans ((hb.trans (c.mono hb.size)).mono Zs);generalize hW:w1.alloc (A #[.slice f2 1 g2,.slice a2 1 b2,O 0,O (-1),.slice d2 0 e2,.slice h2 0 i2] 29)=P2 at *;generalize hc:w1.heap.size=c2 at *;have i:=Ja (show L R1 P2/\ProgIn P2 P2.heap.size ⟨.slice f2 1 g2,.slice a2 1 b2,.slice d2 0 e2,.slice h2 0 i2⟩ sanQ/\Y P2 c2 #[.slice f2 1 g2,.slice a2 1 b2,O 0,O (-1),.slice d2 0 e2,.slice h2 0 i2] 29 from⟨d,u,j⟩);clear hb hp j c u d hW hc
 have m:∀(W:World),L P2 W->G 23 #[.agg #[.slice f2 1 g2,.slice a2 1 b2,O 0,O (-1),.slice d2 0 e2,.slice h2 0 i2],O 0,F,.string ⟨#[]⟩,.agg #[F,F],O 50] W (fun e w'=>∃oa2 oc2,e=.returned (.agg #[U 0,.slice oa2 0 oc2,O 2,U 16383,.string S,O 0,O 0])/\vM w' w'.heap.size (.slice oa2 0 oc2) []/\L W w'):=fun W hb=>by
  have:=(mX ((i.out.2.1.below hb).mono hb.size) (uL Zd Zd) 0 pZ yN.nil ⟨#[]⟩ Zd yN.nil yN.nil 50 ⟨by decide,by decide⟩ Zd).mono (fun e w' h=>h.open);rw[sanQ_run] at this;rw[<-HS.out];exact this
 have b0:=Ja m;clear m;have x0:=K0 i.out.2.2;have x1:=K1 i.out.2.2;have x2:=K2 i.out.2.2;have x3:=K3 i.out.2.2;have x4:=K4 i.out.2.2;have x5:=K5 i.out.2.2;go_upto_region 5 with(go_at_call 23;go_must (refine(b0.out _ (Below.refl _ _)).mono ?_;rintro e w1 ⟨oa2,oc2,rfl,ho,hb⟩))
 clear x0 x1 x2 x3 x4 x5;have j:=zI (W:=w1) (o:=A #[U 0,.slice oa2 0 oc2,O 2,U 16383,.string S,O 0,O 0] 57) rfl;have c:=(Below.refl w1.heap.size w1).alloc (Je _) (A #[U 0,.slice oa2 0 oc2,O 2,U 16383,.string S,O 0,O 0] 57);have a7:=(ho.below vo c).mono vo c.size;have d:L P2 _:=hb.trans (c.mono hb.size);generalize hW:w1.alloc (A #[U 0,.slice oa2 0 oc2,O 2,U 16383,.string S,O 0,O 0] 57)=R2 at *;generalize hc:w1.heap.size=r2 at *;have a9:=Ja (show L P2 R2/\vM R2 R2.heap.size (.slice oa2 0 oc2) []/\Y R2 r2 #[U 0,.slice oa2 0 oc2,O 2,U 16383,.string S,O 0,O 0] 57 from⟨d,a7,j⟩);clear hb ho j c a7 d hW hc b0;go_upto_region 6 with(go_at_call 32;go_must (refine(qF (l:=sanBl) (zI rfl) sanBl_ok Zd ⟨⟨by decide,by decide⟩,⟨by decide,by decide⟩⟩ rfl).mono ?_;rintro e w1 ⟨f3,g3,a3,b3,d3,e3,h3,i3,rfl,hp,hb⟩))
 have j:=zI (W:=w1) (o:=A #[.slice f3 1 g3,.slice a3 1 b3,O 0,O (-1),.slice d3 0 e3,.slice h3 0 i3] 29) rfl;have c:=(Below.refl w1.heap.size w1).alloc (Je _) (A #[.slice f3 1 g3,.slice a3 1 b3,O 0,O (-1),.slice d3 0 e3,.slice h3 0 i3] 29);have u:=(hp.below c).mono c.size;have d:=((Below.refl R2.heap.size R2).alloc (Je _) _).trans ((hb.trans (c.mono hb.size)).mono Zs);generalize hW:w1.alloc (A #[.slice f3 1 g3,.slice a3 1 b3,O 0,O (-1),.slice d3 0 e3,.slice h3 0 i3] 29)=P3 at *;generalize hc:w1.heap.size=c3 at *;have b6:=Ja (show L R2 P3/\ProgIn P3 P3.heap.size ⟨.slice f3 1 g3,.slice a3 1 b3,.slice d3 0 e3,.slice h3 0 i3⟩ sanB/\Y P3 c3 #[.slice f3 1 g3,.slice a3 1 b3,O 0,O (-1),.slice d3 0 e3,.slice h3 0 i3] 29 from⟨d,u,j⟩);clear hb hp j c u d hW hc;have b7:L R2 P3:=b6.out.1;have b4:L R1 P3:=i.out.1.trans ((a9.out.1.trans (b7.mono a9.out.1.size)).mono i.out.1.size);have a6:L P1 P3:=a5.out.1.trans (b4.mono a5.out.1.size);have b8:L w P3:=g.out.1.trans (a6.mono g.out.1.size);have r:=zH b4 a5.out.2.2 (lt_of_block a5.out.2.2);have q:=zH b7 a9.out.2.2 (lt_of_block a9.out.2.2);have y:=zH a6 g.out.2.2 (lt_of_block g.out.2.2);have a0:=b6.out.2.2;obtain⟨eb,eo,he,c8,m⟩:=(a5.out.2.1.below vo b4).get (k:=0) (x:=(9,65534)) rfl;subst he;have d8:T P3 eb eo (U 9):=by simpa using m.1
 have d7:T P3 eb (eo+1) (U 65534):=by simpa using m.2.1
 have b9:∀W,L P3 W->G 20 #[.agg #[.slice f3 1 g3,.slice a3 1 b3,O 0,O (-1),.slice d3 0 e3,.slice h3 0 i3]] W fun e w'=>e=.returned (O 51)/\L W w':=fun W hb=>by
  have:=tu ((b6.out.2.1.below hb).mono hb.size) (Je _) (fun f hf=>(uL (t:=⟨4,-1,[]⟩) Zd Zd f hf).1);rw[lh] at this;exact this
 have c0:∀W,L P3 W->G 20 #[.agg #[.slice f1 1 g1,.slice a1 1 b1,O 0,O (-1),.slice d1 0 e1,.slice h1 0 i1]] W fun e w'=>e=.returned (O 0)/\L W w':=fun W hb=>by
  have c4:=a6.trans (hb.mono a6.size);have:=tu ((g.out.2.1.below c4).mono c4.size) (Je _) (fun f hf=>(uL (t:=⟨4,2,[]⟩) Zd Zd f hf).1);rw[kS] at this;exact this
 have d0:=Ja b9;have d4:=Ja c0;have c5:=Ja b8;have y0:=K0 r;have y1:=K1 r;have y2:=K2 r;have y3:=K3 r;have y4:=K4 r;have y5:=K5 r;have y6:=K6 r;have z0:=K0 q;have z1:=K1 q;have z2:=K2 q;have z3:=K3 q;have z4:=K4 q;have z5:=K5 q;have z6:=K6 q;have u0:=K0 a0;have u1:=K1 a0;have u2:=K2 a0;have u3:=K3 a0;have u4:=K4 a0;have u5:=K5 a0;have v0:=K0 y;have v1:=K1 y;have v2:=K2 y;have v3:=K3 y;have v4:=K4 y;have v5:=K5 y;have c7:=Ja y;clear b7 b4 a6 b8 r q y a0 m c8 b9 c0 a5 a9 g i b6 d5 HS;have m1:True:=trivial;go_wp2_with (first|(go_at_call 20;have d6:=m1;clear m1;go_must (refine(d0.out _ (Below.refl _ _)).mono ?_;rintro e w5 ⟨rfl,b5⟩;have a4:=zH b5 c7.out (lt_of_block c7.out);have q0:=K0 a4;have q1:=K1 a4;have q2:=K2 a4;have q3:=K3 a4;have q4:=K4 a4;have q5:=K5 a4))|(go_at_call 20;go_must (refine(d4.out _ b5).mono ?_;rintro e w6 ⟨rfl,c9⟩)))
 go_ret;exact⟨rfl,c5.out.trans ((b5.trans (c9.mono b5.size)).mono c5.out.size)⟩
theorem i4:∀(j n:Nat) (s:ByteArray),n<10^(j+1)->(cw n s).size<=s.size+j
 |0,n,s,h=>by rw[cw,if_pos (by simpa using h)];exact Je _
 |j+1,n,s,h=>by
  rw[cw]
  by_cases hn:n<10
  ·rw[if_pos hn];omega
  ·rw[if_neg hn]
   have h1:=i4 j (n/10) (aeO (n/10%10)++s) (by
    rw[Nat.div_lt_iff_lt_mul Zd];rw[Nat.pow_succ] at h
    exact h)
   rw[ByteArray.size_append,rm] at h1;omega
theorem m0 {n:Nat}(h:n<18446744073709551616):(fu n).size<=20:=by
 have:=i4 19 n (aeO (n%10)) Zo;rw[rm] at this;unfold fu;omega
def sg (n:Int):ByteArray:=if n<0 then(⟨#[45]⟩:ByteArray)++fu (-n).toNat else fu n.toNat
theorem wk {n:Int}(h:I64 n):(sg n).size<=21:=by
 obtain⟨h1,h2⟩:=h;unfold sg
 split
 ·rw[ByteArray.size_append];have:=m0 (n:=(-n).toNat) Zo
  show 1+_<=21
  omega
 ·have:=m0 (n:=n.toNat) Zo;omega
theorem ma (w:World)(n:Int)(j:I64 n):
 G 86 #[O n] w (fun e w'=>e=.returned (.string (sg n))/\L w w'):=by
 obtain⟨h1,h2⟩:=j
 by_cases g:n<0
 ·have d:=ac1 w (-n).toNat Zo;rw[show(((-n).toNat:Nat):Int)=-n by omega] at d;have m:IntKind.i64.wrap (n+1)=n+1:=Om _ ⟨by omega,by omega⟩;have l:IntKind.i64.wrap (-(n+1))=-(n+1):=Om _ ⟨by omega,by omega⟩;have i:IntKind.u64.wrap (-(n+1))=-(n+1):=IntWalk.u64_in _ ⟨by omega,by omega⟩;have k:IntKind.u64.wrap (-(n+1)+1)=-n:=by rw[show -(n+1)+1=-n by omega];exact IntWalk.u64_in _ ⟨by omega,by omega⟩
  have hs:=m0 (n:=(-n).toNat) Zo;have h:sg n=(⟨#[45]⟩:ByteArray)++fu (-n).toNat:=by unfold sg;rw[if_pos g]
  have q:(⟨#[45]⟩:ByteArray).size=1:=rfl;go_enter Try.func86,Try.ntmps86;go_wp2_with (go_at_call 116;go_must (refine d.mono ?_;rintro e w1 ⟨rfl,c⟩))
  go_ret;rw[h];exact⟨rfl,c⟩
 ·have d:=ac1 w n.toNat Zo;rw[show((n.toNat:Nat):Int)=n by omega] at d;have o:0<=n:=Zo;have i:IntKind.u64.wrap n=n:=IntWalk.u64_in _ ⟨by omega,by omega⟩;have h:sg n=fu n.toNat:=by unfold sg;rw[if_neg g]
  go_enter Try.func86,Try.ntmps86;go_wp2_with (go_at_call 116;go_must (refine d.mono ?_;rintro e w1 ⟨rfl,c⟩))
  go_ret;rw[h];exact⟨rfl,c⟩
theorem nB {X:Nat->Prop}{w W2:World}{g:Nat}(o:Nat)(vs:List Value)(hb:L w W2)(c:X g):Stp X w X (W2.setCells g o vs):=
 ⟨(ze g vs o W2).1.trans hb.os,(ze g vs o W2).2.1.trans hb.tape,(ze g vs o W2).2.2.trans hb.output,by rw[y8];exact hb.size,fun _ h=> .inl h,fun k hk hx=>(ye g k (fun e=>hx (by rw[e];exact c)) vs o W2).trans (hb.block k hk)⟩
theorem nt {w:World}{K:MKC}{X:Nat->Prop}{M:MS}(h:wW w K X M){t:ITerm}(hk:I64 t.kind)(ha:I64 t.a){tv:Value}(hto:vT w (K.av X) tv t.to)(a6:M.cur<M.f.length):
 G 63 #[I K.pm,.agg #[O t.kind,O t.a,tv]] w (yk K X w (M.endB t) (.tuple #[])):=by
 obtain⟨fv,vv,l,h⟩:=h;obtain⟨b,hb⟩:∃b,M.f[M.cur]? =some b:=⟨_,Jd a6⟩
 obtain⟨q,hq,rfl,d⟩:=h.getB hb;obtain⟨g,c,rfl,b1,y,b3⟩:=h.fblk hq;obtain⟨ta,tc,rfl,_,_⟩:=hto.form;obtain⟨pa,pc,x,_,_⟩:=d.par.form;obtain⟨oa,oc,m⟩:=zG d.own;obtain⟨ea,ec,a1,_,_⟩:=d.tos.form;have c4:=h.c4;have c5:=h.c5;have r:=wb yr h.own rfl hq;have e0:T w g (M.cur*5) q.pv:=r 0 _ rfl;have e1:=r 1 _ rfl;have e2:=r 2 _ rfl;have e3:=r 3 _ rfl;have e4:=r 4 _ rfl;have a2:=lt_of_block h.blk;have a9:=h.len;have b4:(M.cur:Int)<(l.length:Int):=Zo;have b5:(0:Int)<=(M.cur:Int):=Zo;have a7:=h.flen;rw[x] at e0;rw[m] at e1;rw[a1] at e4;have H:=Ja (Jb h (Jb hq (Jb d (Jb hto (Jb hb (Jb x (Jb m (Jb a1 (Jb hk ha)))))))));clear h hq d hto hb r x m a1 hk ha a9 a7;go_enter Try.func63,Try.ntmps63;go_upto_region 1 with fail;have a4:∀w',L w w'->T w' K.pm 4 (Q g l.length c)/\T w' K.pm 5 (O (M.cur:Int))/\T w' g (M.cur*5) (.slice pa q.b.params.length pc)/\T w' g (M.cur*5+1) (.slice oa q.ol.length oc)/\T w' g (M.cur*5+2) (O q.b.term.kind)/\T w' g (M.cur*5+3) (O q.b.term.a)/\T w' g (M.cur*5+4) (.slice ea q.b.term.to.length ec):=fun w' hb=>⟨zV hb a2 c4,zV hb a2 c5,zV hb y e0,zV hb y e1,zV hb y e2,zV hb y e3,zV hb y e4⟩
 have a0:=Ja a4;clear a4 c4 c5 e0 e1 e2 e3 e4
 go_region_held3 (fun w'=>T w' K.pm 4 (Q g l.length c)/\T w' K.pm 5 (O (M.cur:Int))/\T w' g (M.cur*5) (.slice pa q.b.params.length pc)/\T w' g (M.cur*5+1) (.slice oa q.ol.length oc)/\T w' g (M.cur*5+2) (O q.b.term.kind)/\T w' g (M.cur*5+3) (O q.b.term.a)/\T w' g (M.cur*5+4) (.slice ea q.b.term.to.length ec))
  ((refine a0.out _ ?_;repeat' (first|exact Below.refl _ _|refine Below.drew ?_|refine Below.alloc ?_ (by simp<;>omega) _|refine Below.setCell ?_ (by simp<;>omega) _)))
  (fail)
 go_upto_region 3 with fail;have a3:L w (((w.alloc (A #[O t.kind,O t.a,.slice ta t.to.length tc] 47)).alloc (A #[.slice pa q.b.params.length pc,.slice oa q.ol.length oc,O t.kind,O t.a,.slice ta t.to.length tc] 49)).drew):=(((Below.refl _ _).alloc (Je _) _).alloc Zs _).drew;have u:Y (((w.alloc (A #[O t.kind,O t.a,.slice ta t.to.length tc] 47)).alloc (A #[.slice pa q.b.params.length pc,.slice oa q.ol.length oc,O t.kind,O t.a,.slice ta t.to.length tc] 49)).drew) (w.heap.size+1) #[.slice pa q.b.params.length pc,.slice oa q.ol.length oc,O t.kind,O t.a,.slice ta t.to.length tc] 49:=zI Zs;generalize b2:((w.alloc (A #[O t.kind,O t.a,.slice ta t.to.length tc] 47)).alloc (A #[.slice pa q.b.params.length pc,.slice oa q.ol.length oc,O t.kind,O t.a,.slice ta t.to.length tc] 49)).drew=W2 at *;obtain⟨c4,c5,_⟩:=a0.out W2 a3;have l0:=zA (i:=0) u rfl;have l1:=zA (i:=1) u rfl;have l2:=zA (i:=2) u rfl;have l3:=zA (i:=3) u rfl;have l4:=zA (i:=4) u rfl;have HB:=Ja a3;clear a3 u b2 a0;refine zt 11 Zk Zk ?_;simp only[Qo,Uc,Qp,Ui]
 repeat (go_big_quiet_step (fail))
 refine wpQuiet_nil ?_;have a5:=H.out.1.keep HB.out.drew;refine wpList_store_mid rfl 49 (.tmp 28) (.tmp 27) rfl g (M.cur*5) #[.slice pa q.b.params.length pc,.slice oa q.ol.length oc,O t.kind,O t.a,.slice ta t.to.length tc] rfl rfl (zq Zd yr a5.own rfl H.out.2.1) Zk (by simp[Value.oneCell']) ?_;go_wp2
 first|go_end0|refine bodyPost_ret (results_none rfl _ _ _) rfl ?_
 obtain⟨h,hq,d,hto,hb,x,m,a1,hk,ha⟩:=H.out;have hs:Stp X w X (W2.drew.setCells g (M.cur*5) (xG ⟨{q.b with term:=t },q.pv,q.ov,.slice ta t.to.length tc,q.ol⟩)):=nB _ _ HB.out.drew b1;have b0: [Value.slice pa q.b.params.length pc,.slice oa q.ol.length oc,O t.kind,O t.a,.slice ta t.to.length tc]=xG ⟨{q.b with term:=t },q.pv,q.ov,.slice ta t.to.length tc,q.ol⟩:=by unfold xG;rw[x,m]
 rw[b0];refine⟨rfl,X,⟨_,_,_,h.turn (M':=M.endB t) hq rfl hs (fun _ e=>e) (fun k e=>Jy (h.xl k e) hs.size) h.xB (fun k hk' hx hne _=>(ye g k hne _ _ _).trans (HB.out.drew.block k hk')) (fun e=>zC d.own h.blk (.inr Zd) e) (uZ yr a5.own rfl hq _) ?_ (fun j qj k hj h1 h2=>h.apart j _ qj q k hj hq h2 h1) ?_ ⟨rfl,rfl,rfl,rfl,rfl⟩ ?_⟩,hs⟩
 ·exact⟨⟨hk,ha⟩,d.par.step zn (hs.av K),d.ops,yD d.own (fun k hk'=>(ye g k (fun e=>by
   rcases zo d.own h.own Zd with h1|h1
   ·rw[h1] at hk';cases hk'
   ·exact h1 (by rw[hk',e];rfl)) _ _ _).trans (HB.out.drew.block k (d.own.lt k hk').2)),fun o ho=>⟨(d.arg o ho).1,(d.arg o ho).2.step zn (hs.av K)⟩,hto.step yq (hs.av K),d.inX⟩
 ·exact xI hb _
 ·have:=(zv M t).sz;have:=h.bnd;omega
theorem Try.info_irblock:(Try.prog.info? 49).map (fun i=>(i.zero,i.size,i.bytes))=some (some (.agg #[.slice none 0 0,.slice none 0 0,O 0,O 0,.slice none 0 0]),5,88):=by kernel_rfl
def iZ (next i:Nat):List Int:=(List.range i).map fun k=>((next+k:Nat):Int)
theorem jE (next i:Nat):iZ next (i+1)=iZ next i++ [((next+i:Nat):Int)]:=by unfold iZ;rw[List.range_succ,Js];rfl
theorem parL_len (next i:Nat):(iZ next i).length=i:=by unfold iZ;simp
structure BlkMid (w:World) (K:MKC) (M:MS) (fv vv:Value) (pv:Value) (i:Nat) (wx:World):Prop where
 box:wx.heap[w.heap.size]? =some (.cells #[pv,.slice none 0 0,.int .i64 0,.int .i64 0,.slice none 0 0] 49 (0,0))
 own:wx.ownsRow (w.heap.size+1) 3 1 pv i ((iZ M.next i).map zN)
 size:w.heap.size+1<=wx.heap.size
 rest:wx.os=w.os/\wx.tape=w.tape/\wx.output=w.output
 kept:∀k,k<w.heap.size->k≠K.pm->wx.heap[k]? =w.heap[k]?
 pm:wx.heap[K.pm]? =some (.cells (uC K {M with next:=M.next+i } fv vv) 120 (0,0))
theorem BlkMid.mk' {w wx:World}{K:MKC}{X:Nat->Prop}{M:MS}{fv vv pv:Value}{l:List BM}{i:Nat}(h:MkIn w K X M fv vv l)(hm:BlkMid w K M fv vv pv i wx)(c:M.sz+i<=1000000):MkIn wx K X {M with next:=M.next+i } fv vv l/\Stp X w X wx:=
 h.only (by have:=hm.size;omega) hm.rest hm.kept hm.pm rfl rfl (by unfold MS.sz at *;simp only at *;omega) h.lft
theorem BlkMid.start {w:World}{K:MKC}{X:Nat->Prop}{M:MS}{fv vv:Value}{l:List BM}(h:MkIn w K X M fv vv l):BlkMid w K M fv vv (F) 0 (w.alloc (A #[F,F,O 0,O 0,F] 49)):=
 ⟨zI rfl,Jv _ _ _ _,by simp,⟨rfl,rfl,rfl⟩,fun k hk _=>Below.heap_alloc w _ k hk,zB h.blk⟩
theorem BlkMid.next {w wr w3:World}{K:MKC}{X:Nat->Prop}{M:MS}{fv vv pv c:Value}{l:List BM}{i:Nat}(h:MkIn w K X M fv vv l)(hm:BlkMid w K M fv vv pv i wr){o:Obj}(hg:((wr.setCell ⟨K.pm,6,none⟩ (O ((M.next+i+1:Nat):Int))).alloc o).grownBy w3 pv.ownBlock)
 (d:w3.ownsRow (w.heap.size+1) 3 1 c (i+1) ((iZ M.next i).map zN++ [zN ((M.next+i:Nat):Int)])):BlkMid w K M fv vv c (i+1) (w3.setCell ⟨w.heap.size,0,none⟩ c):=by
 have g:=lt_of_block h.blk;have j:=lt_of_block hm.pm;have q:=lt_of_block hm.box;have n1:=zC hm.own hm.box (.inr Zd);have n2:=zC hm.own hm.pm (.inr Zd);have b1:=zL hg (zB (o:=o) (zR (a:=⟨K.pm,6,none⟩) (u:=O ((M.next+i+1:Nat):Int)) hm.box (by show w.heap.size≠K.pm;omega))) n1;have p1:=zL hg (zB (o:=o) (zD hm.pm (i:=6) (O ((M.next+i+1:Nat):Int)))) n2;have hs:=hg.size;have m:=hm.size;simp at hs;refine⟨zD b1 _,?_,by simp;omega,⟨hg.os.trans hm.rest.1,hg.tape.trans hm.rest.2.1,hg.output.trans hm.rest.2.2⟩,fun k hk hne=>?_,?_⟩
 ·rw[jE,Js];exact ownsRow_setCell_other d (fun e=>zC d b1 (.inr Zd) (by simpa using e)) _
 ·refine(Below.heap_setCell w3 ⟨w.heap.size,0,none⟩ _ k (by show k≠w.heap.size;omega)).trans ((hg.block k Zt (fun e=>?_)).trans ((Below.heap_alloc _ _ k Zt).trans ((Below.heap_setCell wr ⟨K.pm,6,none⟩ _ k hne).trans (hm.kept k hk hne))));have:=(hm.own.lt k e.symm).1;omega
 ·exact zR p1 (by show K.pm≠w.heap.size;omega)
theorem rU {w:World}{K:MKC}{X:Nat->Prop}{M:MS}(h:wW w K X M){n:Nat}(hz:M.sz+1+n<=1000000):
 G 60 #[I K.pm,O n] w (yk K X w (M.block n) (O (M.f.length:Int))):=by
 obtain⟨fv,vv,l,h⟩:=h;have H:=Ja (Jb h hz);have y:=BlkMid.start h;have d8:=Ja y;have e1:=lt_of_block h.blk;clear h hz y;go_enter Try.func60,Try.ntmps60;go_wp2
 go_loopw [6] (fun iv wx=>∃(i:Nat) (pv:Value),i<=n/\iv=O i/\Hid (BlkMid w K M fv vv pv i wx)) (fun iv _=>n-(intOf iv).toNat)
 case atStart=>exact⟨0,_,Jt _,rfl,d8⟩
 case round=>
  obtain⟨i,pv,hi,rfl,c⟩:=hrel
  by_cases c9:i<n
  ·have c7:(i:Int)<n:=Zo;have a5:i+1<=n:=c9;obtain⟨pa,pc,j⟩:=zG c.out.own;have hk:=(BlkMid.mk' H.out.1 c.out (by have:=H.out.2;omega)).1;have a7:G 90 #[I K.pm] wr.drew fun e w'=>e=.returned (O ((M.next+i:Nat):Int))/\w'=(wr.setCell ⟨K.pm,6,none⟩ (O ((M.next+i+1:Nat):Int))).drew:=d9 (hk.keep (Below.refl _ _).drew) (by have:=H.out.2;unfold MS.sz at *;simp only at *;omega)
   have d:=c.out.own;rw[j] at d;have c0:=zA (i:=0) c.out.box rfl;rw[j] at c0;have n1:=zC d c.out.box (.inr Zd);have e5:i<=1000000:=by have:=H.out.2;omega
   have d3:=lt_of_block c.out.box;have e0:=c.out.size;obtain⟨ij,d1,c5,c3,c2⟩:=info_parts Try.info_int;have a0:=lt_of_block c.out.pm;have HO:=Ja (Jb d (Jb a7 (Jb j (lt_of_block c.out.box))));have b6:∀(u:Value) (o:Obj),T ((wr.setCell ⟨K.pm,6,none⟩ u).alloc o) w.heap.size 0 (.slice pa i pc):=fun u o=>zA (i:=0) (zB (o:=o) (zR (a:=⟨K.pm,6,none⟩) (u:=u) c.out.box (by show w.heap.size≠K.pm;omega))) (by rw[j];rfl)
   have b5:∀(u:Value) (o:Obj),N ((wr.setCell ⟨K.pm,6,none⟩ u).alloc o) w.heap.size 0:=fun u o=>zE (zB (o:=o) (zR (a:=⟨K.pm,6,none⟩) (u:=u) c.out.box (by show w.heap.size≠K.pm;omega)))
   have a2:∀(u:Value) (o:Obj),((wr.setCell ⟨K.pm,6,none⟩ u).alloc o).ownsRow (w.heap.size+1) 3 1 (.slice pa i pc) i ((iZ M.next i).map zN):=fun u o=>(ownsRow_setCell_other d (fun e=>zC d c.out.pm (.inr Zd) (by simpa using e)) u).alloc o
   have a4:=Ja (Jb a2 (Jb b6 b5));clear j d a7 hk b6 b5 a2;go_upto_region 5 with fail
   go_region_law (first|(refine step_append_lies _ (by rfl) (.tmp 13) (.tmp 16) _ (by rfl) (w.heap.size+1) 3 ij (O 0) 1 8 Try.underlying22 d1 c5 c3 c2 rfl Zo (.slice pa i pc) i ((iZ M.next i).map zN) (by rfl) ((a4.out.1 _ _).drew) ⟨wr.heap.size,0,none⟩ 1 1 [O ((M.next+i:Nat):Int)] (by rfl) (by rfl) (Oi (cs:=#[O ((M.next+i:Nat):Int)]) (t:=3) (fr:=(0,0)) (zI Zs)) (by simp[Value.oneCell']) Zo (by unfold maxLen;omega) Zo Zt (wr.heap.size+1) Zs ?_;intro gg a1 w3 q g a9 c8;have d6:=(g.cell_far ⟨w.heap.size,0,none⟩ Zt (Ne.symm n1)).trans (a4.out.2.1 _ _);have d4:=(g.frozen_far ⟨w.heap.size,0,none⟩ Zt (Ne.symm n1)).trans (a4.out.2.2 _ _))|(go_simp;go_at_call 90;refine HO.out.2.1.mono ?_;rintro e w4 ⟨rfl,rfl⟩))
   all_goals go_wp2_with fail
   all_goals (
    refine⟨⟨i+1,Q gg (i+1) a1,a5,by go_num,Ja (BlkMid.next H.out.1 c.out (by rw[HO.out.2.2.1];exact xN g) q)⟩,by simp[intOf];omega⟩)
  ·obtain rfl:i=n:=by omega
   have c7:¬(i:Int)<i:=Zo;obtain⟨hk,y⟩:=BlkMid.mk' H.out.1 c.out (by have:=H.out.2;omega);obtain⟨pa,pc,j⟩:=zG c.out.own;subst j;obtain⟨fa,fc,d2⟩:=zG hk.own;subst d2
   have a3:wm wr (K.av X) (.slice pa i pc) (wJ M.next i).params:=by
    refine rO c.out.own (parL_len _ _) (fun x hx=>?_) (fun k e r=>?_)
    ·unfold iZ at hx;obtain⟨m,hm,rfl⟩:=Nu.1 hx;have h1:=H.out.2;have h2:=Ol.1 hm;unfold MS.sz at h1;exact⟨by omega,by omega⟩
    ·have h2:=(c.out.own.lt k e).1;rcases r with r|r
     ·have:=H.out.1.xl k r;omega
     ·have:=H.out.1.env.zl k r;omega
   have d:=hk.own;have nb:=zC d c.out.pm (.inr Zd);have c4:=hk.c4;have a0:=lt_of_block c.out.pm;have d3:=lt_of_block c.out.box;have b0:=zA (i:=0) c.out.box rfl;have b1:=zA (i:=1) c.out.box rfl;have b2:=zA (i:=2) c.out.box rfl;have b3:=zA (i:=3) c.out.box rfl;have b4:=zA (i:=4) c.out.box rfl;have d7:∀o,T (wr.alloc o) K.pm 4 (.slice fa l.length fc):=fun o=>(Oo (w:=wr) (Below.heap_alloc _ _ _ a0)).trans c4
   have d5:∀o,N (wr.alloc o) K.pm 4:=fun o=>(Qm (w:=wr) (Below.heap_alloc _ _ _ a0)).trans (hk.free 4)
   have a6:l.length=M.f.length:=H.out.1.len;have e4:l.length<=1000000:=by have:=H.out.1.flen;omega
   have e6:K.B<=wr.heap.size:=hk.size;obtain⟨ik,d0,b9,b8,b7⟩:=info_parts Try.info_irblock;have HO:=Ja (Jb hk (Jb y (Jb a3 (Jb d a6))));clear hk y a3 d a6;go_upto_region 6 with fail
   go_region_law (first|(refine step_append_lies _ (by rfl) (.tmp 24) (.tmp 26) _ (by rfl) K.B 49 ik (.agg #[F,F,O 0,O 0,F]) 5 88 Try.underlying35 d0 b9 b8 b7 rfl Zo (.slice fa l.length fc) l.length (l.flatMap xG) (by rfl) ((HO.out.2.2.2.1.alloc _).drew) ⟨wr.heap.size,0,none⟩ 1 1 [.slice pa i pc,F,O 0,O 0,F] (by rfl) (by rfl) (Oi (cs:=#[.slice pa i pc,F,O 0,O 0,F]) (t:=49) (fr:=(0,0)) (heap_alloc_new wr _)) (by simp[Value.oneCell']) Zo (by unfold maxLen;omega) Zo Zt (wr.heap.size+1) Zs ?_;intro gg a1 w3 q g a9 c8;have d6:=(g.cell_far ⟨K.pm,4,none⟩ Zt (Ne.symm nb)).trans (d7 _);have d4:=(g.frozen_far ⟨K.pm,4,none⟩ Zt (Ne.symm nb)).trans (d5 _)))
   all_goals go_wp2_with fail
   all_goals go_ret
   all_goals (
    have hP:=HO.out.1.putB (fv':=Q gg (l.length+1) a1) (b:=wJ M.next i) (pv:=.slice pa i pc) (xN g) ⟨rfl,rfl⟩ q (fun k e=>by
     have e2:gg=k:=by simpa[Value.ownBlock] using e
     subst e2;rcases a9 with e3|e3
     ·exact .inl e3
     ·right;omega) HO.out.2.2.1 (by have:=H.out.2;unfold MS.sz at *;simp only at *;omega)
    refine⟨zh (by have:=HO.out.2.2.2.2;omega),_,⟨_,_,_,hP.1⟩,HO.out.2.1.trans hP.2⟩)
theorem emRes_of {M:MS}{c:Int}(h:sx c=true):sB M c=(M.next:Int):=by unfold sB;rw[h];rfl
theorem vG (x:Int)(h1:-1000000<=x)(h2:x<=1000000):I64 x:=⟨by omega,by omega⟩
theorem yF (x:Int)(h:(decide (-1000000<=x) && decide (x<=1000000))=true):I64 x:=by
 simp only[Jm,decide_eq_true_eq] at h;exact vG x h.1 h.2
theorem conOp_ok {n:Nat}(c:n<65536):qN (conOp n):=⟨yF _ rfl,yF _ rfl,yF _ rfl,yF _ rfl,c⟩
theorem ks {w:World}{K:MKC}{X:Nat->Prop}{M:MS}(h:wW w K X M){n:Nat}(j:n<65536)(d:M.cur<M.f.length)(g:M.sz+3<=1000000):
 G 94 #[I K.pm,U n] w (yk K X w (M.num n) (O (M.next:Int))):=by
 have c:=rD h (conOp_ok j) yE.nil d g;rw[emRes_of (show sx (conOp n).code=true from rfl)] at c;have i:=Ja (show G 117 #[I K.pm,.agg #[O 1,O 0,O 0,O 0,U n,F]] w (yk K X w (M.num n) (O (M.next:Int))) from c);clear h c d g;go_enter Try.func94,Try.ntmps94;go_wp2_with (go_at_call 117;go_must (refine i.out.mono ?_;rintro e w1 ⟨rfl,hm⟩))
 go_ret;exact⟨rfl,hm⟩
theorem MkIn.valAt {w:World}{K:MKC}{X:Nat->Prop}{M:MS}{fv:Value}{l:List BM}{g n c:Nat}(h:MkIn w K X M fv (Q g n c) l){i:Nat}(hi:i<M.vals.length):T w g i (O (M.vals.getD i 0)):=by
 have:=h.vown.cells rfl i (O (M.vals.getD i 0)) (by rw[Jr,Jd hi,Jj,Jd hi];rfl);rw[Addr.add_mid,Ng] at this;exact this
theorem pu {w:World}{K:MKC}{X:Nat->Prop}{M:MS}(h:wW w K X M)(a6:M.cur<M.f.length)(hz:M.sz+4<=1000000):
 G 62 #[I K.pm] w (yk K X w (zJ K.E M).2 (O (zJ K.E M).1)):=by
 obtain⟨fv,vv,l,h⟩:=h;have c7:=h.c7;have r:=h.vown;obtain⟨va,vc,rfl⟩:=zG r;have b7:M.vals.length<=1000000:=by unfold MS.sz at hz;omega
 have H:=Ja (Jb h (Jb a6 hz));clear h a6 hz
 by_cases h0:M.vals.length=0
 ·have d:zJ K.E M=((M.next:Int),M.tick.num (tkV K.E M 9)):=by unfold zJ;rw[if_pos h0]
  have c2:=Ja d;have t0:((M.vals.length:Int)==0)=true:=by rw[beq_iff_eq];omega
  have b5:(M.vals.length==0)=true:=by rw[beq_iff_eq];omega
  have b0:=uD H.out.1 (n:=9) Zd Zd (by have:=H.out.2.2;omega);have a4:=aaE K.E M (n:=9) Zd;have HT:=Ja b0;clear d r h0 b0;go_enter Try.func62,Try.ntmps62;go_wp2_with (first|(go_at_call 59;go_must (refine HT.out.mono ?_;rintro e w1 ⟨rfl,x,q⟩))|(go_at_call 94;go_must (refine(ks x.at (n:=tkV K.E M 9) Zo H.out.2.1 (by have:=(zT M).sz;have:=H.out.2.2;omega)).mono ?_;rintro e w2 ⟨rfl,X2,c,j⟩)))
  go_ret;rw[c2.out];exact⟨rfl,X2,c,q.trans j⟩
 ·have hp:0<M.vals.length:=Zo;obtain⟨g,c9,e,c8,c5⟩:=r.form hp;cases e;have t0:((M.vals.length:Int)==0)=false:=Ze;have b5:(M.vals.length==0)=false:=by rw[beq_eq_false_iff_ne];omega
  have c0:=Ja (uD H.out.1 (n:=M.vals.length) hp b7 (by have:=H.out.2.2;omega));have a4:=aaE K.E M hp;clear h0 r;go_enter Try.func62,Try.ntmps62;go_upto_region 4 with(go_at_call 59;go_must (refine c0.out.mono ?_;rintro e w1 ⟨rfl,x,q⟩))
  have a9:=Ja (uD x (n:=3) Zd Zd (by have:=(zT M).sz;have:=H.out.2.2;omega));obtain⟨z3,k⟩:∃z,tkV K.E M.tick 3=z:=⟨_,rfl⟩
  rw[k] at a9;obtain⟨z0,o⟩:∃z,tkV K.E M M.vals.length=z:=⟨_,rfl⟩
  rw[o] at a4
  try rw[o]
  by_cases h3:0<z3
  ·have b8:(0:Int)<(z3:Int):=Zo;have d:zJ K.E M=(M.vals.getD (M.vals.length-1-tkV K.E M.tick.tick (min 4 M.vals.length)) 0,M.tick.tick.tick):=by unfold zJ;rw[if_neg Zo,if_pos (by rw[k];exact h3)]
   have hZ:=Ja (Jb d (Jb k o));clear d k o;go_upto_region 5 with(go_at_call 59;go_must (refine a9.out.mono ?_;rintro e w2 ⟨rfl,c,j⟩))
   have u:0<min 4 M.vals.length:=Zo;have b4:∀(ts:Array TypeId) (t:TypeId) (W:World),(Builtin.min_ ts t #[O 4,O (M.vals.length:Int)]).run Try.prog W=.ok (O ((min 4 M.vals.length:Nat):Int)) W:=fun ts t W=>by rw[show((min 4 M.vals.length:Nat):Int)=if(M.vals.length:Int)<(4:Int) then(M.vals.length:Int) else 4 by split<;>omega];exact run_min_int2 ..
   have a7:=Ja (uD (c.keep (Below.refl _ _).drew) (n:=min 4 M.vals.length) u Zo (by have:=(zT M).sz;have:=(zT M.tick).sz;have:=H.out.2.2;omega));have a3:=aaE K.E M.tick.tick u;obtain⟨z4,a0⟩:∃z,tkV K.E M.tick.tick (min 4 M.vals.length)=z:=⟨_,rfl⟩
   rw[a0] at a7 a3;obtain⟨mn,a1⟩:∃m,min 4 M.vals.length=m:=⟨_,rfl⟩
   rw[a1] at a7 b4 a3;have c4:mn<=M.vals.length:=Zo;have b9:=Ja (Jb a0 a1);have d7:=c.c7;have c3:=Ja (Jb c (q.trans j));clear a0 a1 x q c j c7 u
   go_region_held3 (fun w'=>T w' K.pm 7 (Q g M.vals.length vc)) (first|exact d7|assumption|(exact MkIn.c7 Zz))
    ((go_at_call 59;refine a7.out.mono ?_;rintro e w3 ⟨rfl,a2,b2⟩))
   have hv:=a2.valAt (i:=M.vals.length-1-z4) (show M.vals.length-1-z4<M.vals.length by omega);obtain⟨ix,a5⟩:∃ix:Nat,M.vals.length-1-z4=ix:=⟨_,rfl⟩
   have b3:IntKind.i64.wrap (IntKind.i64.wrap ((M.vals.length:Int)-1)-(z4:Int))=(ix:Int):=by
    rw[Om ((M.vals.length:Int)-1) Zo,Om _ Zo];omega
   rw[b3];rw[a5] at hv;have b6:(ix:Int)<(M.vals.length:Int):=Zo;have b1:=c3.out.2.trans ((Stp.of_below (Below.refl _ _).drew).trans b2);have y:=Ja (Jb a2 (Jb b1 a5));clear a2 b1 b2 a5 b3 d7;go_wp2;go_ret;rw[hZ.out.1];exact⟨zh (by rw[b9.out.1,y.out.2.2,Jj];rfl),X,y.out.1.at,y.out.2.1⟩
  ·have b8:¬(0:Int)<(z3:Int):=Zo;have d:zJ K.E M=(M.vals.getD z0 0,M.tick.tick):=by unfold zJ;rw[if_neg Zo,if_neg (by rw[k];exact h3),o]
   have hZ:=Ja d;clear d k o;go_upto_region 6 with(go_at_call 59;go_must (refine a9.out.mono ?_;rintro e w2 ⟨rfl,c,j⟩))
   have hv:=c.valAt (i:=z0) a4;have d7:=c.c7;have b6:(z0:Int)<(M.vals.length:Int):=Zo;have y:=Ja (Jb c (q.trans j));clear c q j x;go_wp2;go_ret;rw[hZ.out];exact⟨rfl,X,y.out.1.at,y.out.2⟩
theorem addr_any {w:World}{K:MKC}{X:Nat->Prop}{M:MS}(h:wW w K X M)(a2:M.cur<M.f.length)(hz:M.sz+6<=1000000):
 G 118 #[I K.pm] w (yk K X w (yJ K.E M).2 (O (yJ K.E M).1)):=by
 obtain⟨fv,vv,l,h⟩:=h;have a5:=Ja (uD h (n:=24) Zd Zd Zo);have H:=Ja (Jb a2 hz);obtain⟨z1,u⟩:∃z,tkV K.E M 24=z:=⟨_,rfl⟩
 rw[u] at a5;have b0:=Ja u;clear h a2 hz u
 by_cases h0:z1=23
 ·have d:yJ K.E M=zJ K.E M.tick:=by unfold yJ;rw[if_pos (by rw[b0.out];exact h0)]
  have r:=Ja d;have t0:((z1:Int)==23)=true:=by rw[beq_iff_eq];omega
  have b4:(z1==23)=true:=by rw[beq_iff_eq];omega
  clear d h0;go_enter Try.func118,Try.ntmps118;go_wp2_with (first|(go_at_call 59;go_must (refine a5.out.mono ?_;rintro e w1 ⟨rfl,q,m⟩))|(go_at_call 62;go_must (refine(pu q.at H.out.1 (by have:=(zT M).sz;have:=H.out.2;omega)).mono ?_;rintro e w2 ⟨rfl,X2,c,j⟩)))
  go_ret;rw[r.out];exact⟨rfl,X2,c,m.trans j⟩
 ·have d:yJ K.E M=((M.next:Int),M.tick.tick.tick.emit ⟨2,0,(tkV K.E M.tick 2:Nat),0,tkV K.E M.tick.tick (sE (tkV K.E M.tick 2)),[]⟩):=by unfold yJ;rw[if_neg (by rw[b0.out];exact h0)]
  have r:=Ja d;have t0:((z1:Int)==23)=false:=Ze;have b4:(z1==23)=false:=by rw[beq_eq_false_iff_ne];omega
  clear d h0;go_enter Try.func118,Try.ntmps118;go_upto_region 3 with(go_at_call 59;go_must (refine a5.out.mono ?_;rintro e w1 ⟨rfl,q,m⟩))
  have b1:=Ja (uD q (n:=2) Zd Zd (by have:=(zT M).sz;have:=H.out.2;omega));have b5:=aaE K.E M.tick (n:=2) Zd;obtain⟨k,hk⟩:∃z,tkV K.E M.tick 2=z:=⟨_,rfl⟩
  rw[hk] at b1 b5;have HK:=Ja hk;clear hk;go_upto_region 4 with(go_at_call 59;go_must (refine b1.out.mono ?_;rintro e w2 ⟨rfl,c,j⟩))
  have g1:=(zT M).sz;have g2:=(zT M.tick).sz;have g3:=(zT M.tick.tick).sz;have a4:=Ja (uD c (n:=sE k) (by unfold sE;split<;>decide) (by unfold sE;split<;>decide) (by have:=H.out.2;omega));have a1:=aaE K.E M.tick.tick (n:=sE k) (by unfold sE;split<;>decide);obtain⟨z3,t⟩:∃z,tkV K.E M.tick.tick (sE k)=z:=⟨_,rfl⟩
  rw[t] at a4 a1;have a9:=Ja t;obtain⟨db,b6,b7,a7⟩:=c.env.data;have c2:=c.c2;have p4:=zA (i:=4) c.env.prog rfl;rw[b6] at p4;have b8:z3<15:=by unfold sE at a1;split at a1<;>omega
  have HS:=Ja (m.trans j)
  have a6:∀(w3:World),MkIn w3 K X M.tick.tick.tick fv vv l->G 117 #[I K.pm,.agg #[O 2,O 0,O k,O 0,U z3,F]] w3 (yk K X w3 (M.tick.tick.tick.emit ⟨2,0,(k:Int),0,z3,[]⟩) (O (M.next:Int))):=fun w3 g=>
   rD g.at (o:=⟨2,0,(k:Int),0,z3,[]⟩) ⟨yF _ rfl,yF _ rfl,vG (k:Int) Zo Zo,yF _ rfl,(by show z3<65536;omega)⟩ yE.nil H.out.1 (by have:=H.out.2;omega)
  have b2:=Ja a6;clear q m j t c b7 a6;have b3:k=0∨k=1:=Zo;rcases b3 with rfl|rfl
  ·have d2:T w2 db 2 (U 16):=zA a7 rfl;have a3:=Ja (show G 59 #[I K.pm,O 15] w2 _ from a4.out);go_wp2_with (first|(go_at_call 59;go_must (refine a3.out.mono ?_;rintro e w3 ⟨rfl,g,y⟩))|(go_at_call 117;go_must (refine(b2.out _ g).mono ?_;rintro e w4 ⟨rfl,X4,a0,x⟩)))
   go_ret;rw[r.out,HK.out,a9.out];exact⟨rfl,X4,a0,HS.out.trans (y.trans x)⟩
  ·have d2:T w2 db 5 (U 7):=zA a7 rfl;have a3:=Ja (show G 59 #[I K.pm,O 6] w2 _ from a4.out);go_wp2_with (first|(go_at_call 59;go_must (refine a3.out.mono ?_;rintro e w3 ⟨rfl,g,y⟩))|(go_at_call 117;go_must (refine(b2.out _ g).mono ?_;rintro e w4 ⟨rfl,X4,a0,x⟩)))
   go_ret;rw[r.out,HK.out,a9.out];exact⟨rfl,X4,a0,HS.out.trans (y.trans x)⟩
def MKC.withZ (K:MKC)(Z:Nat->Prop):MKC:= {K with Z:=Z }
theorem MkIn.off {w W:World}{K:MKC}{X Z2:Nat->Prop}{M:MS}{fv vv:Value}{l:List BM}(h:MkIn w K X M fv vv l)(g:w.heap.size<=W.heap.size)(ho:W.os=w.os/\W.tape=w.tape/\W.output=w.output)
 (hk:∀k,k<w.heap.size->(K.Z k->k<K.B)->W.heap[k]? =w.heap[k]?) (j:∀k,Z2 k->K.Z k∨w.heap.size<=k) (i:∀k,Z2 k->k<W.heap.size):MkIn W (K.withZ Z2) X M fv vv l:=by
 have c:Stp (K.av X) w ((K.withZ Z2).av X) W:=⟨ho.1,ho.2.1,ho.2.2,g,fun k e=>e.elim (fun e=> .inl (.inl e)) (fun e=>(j k e).elim (fun e=> .inl (.inr e)) .inr),fun k hk' d=>hk k hk' (fun e=>absurd (.inr e) d)⟩
 have d:∀k,X k->k<w.heap.size/\W.heap[k]? =w.heap[k]?:=fun k e=>⟨h.xl k e,hk k (h.xl k e) (fun e2=>absurd e2 (h.env.zx k e))⟩
 have hb:Below K.B w W:=⟨ho.1,ho.2.1,ho.2.2,g,fun k e=>hk k (Jy e h.size) (fun _=>e)⟩
 obtain⟨b,e1,e2,e3⟩:=h.env.data;refine⟨(d _ h.xm).2.trans h.blk,yD h.own (fun k e=>(d k (h.xf k e)).2),h.fl,fun q hq=>?_,h.apart,yD h.vown (fun k e=>(d k (h.xv k e)).2),h.v64,h.xm,h.xf,h.xv,h.xB,fun k e=>Jy (h.xl k e) g,?_,h.bnd,h.lft⟩
 ·have q1:=h.bok q hq;exact⟨q1.k64,q1.par.step zn c,q1.ops,yD q1.own (fun k e=>(d k (q1.inX k e)).2),fun o ho=>⟨(q1.arg o ho).1,(q1.arg o ho).2.step zn c⟩,q1.tos.step yq c,q1.inX⟩
 ·exact⟨h.env.s.below zO hb,h.env.fpv,c.blk h.env.prog h.env.ppX,h.env.args.step zn c,⟨b,e1,c.not (lt_of_block e3) e2,c.blk e3 e2⟩,c.not (lt_of_block h.env.prog) h.env.ppX,h.env.h64,h.env.len,h.env.nf,h.env.alt,
   fun k e1 e2=>(j k e2).elim (h.env.zx k e1) (fun e3=>by have:=h.xl k e1;omega),i⟩
theorem oD {w:World}{K:MKC}{X:Nat->Prop}{M:MS}(h:wW w K X M):I64 (zJ K.E M).1:=by
 obtain⟨fv,vv,l,h⟩:=h;have hb:=h.bnd
 have hv:∀i,I64 (M.vals.getD i 0):=fun i=>by
  rw[Jj]
  cases c:M.vals[i]? with
  |none=>exact yF _ rfl
  |some x=>exact h.v64 x (Ji c)
 unfold zJ
 split
 ·unfold MS.sz at hb;exact⟨by show -9223372036854775808<=(M.next:Int);omega,by show(M.next:Int)<=9223372036854775807;omega⟩
 split
 ·exact hv _
 ·exact hv _
structure ArgMid (w:World) (K:MKC) (X:Nat->Prop) (M:MS) (av:Value) (j:Nat) (wx:World):Prop where
 own:wx.ownsRow w.heap.size 3 1 av j ((yI K.E j M).1.map zN)
 i64:∀x∈(yI K.E j M).1,I64 x
 made:∃Xj,wW wx (K.withZ fun k=>K.Z k∨av.ownBlock=some k) Xj (yI K.E j M).2/\Stp X w Xj wx
theorem qw (E:ME):∀(n:Nat) (M:MS),(yI E n M).1.length=n
 |0,_=>rfl
 |n+1,M=>by show((yI E n M).1++ [_]).length=_;rw[Jk,qw E n M];rfl
theorem ArgMid.start {w:World}{K:MKC}{X:Nat->Prop}{M:MS}(h:wW w K X M):ArgMid w K X M (F) 0 w:=by
 refine⟨Jv _ _ _ _,(fun x hx=>by cases hx),X,?_,Stp.refl _ _⟩;obtain⟨fv,vv,l,h⟩:=h;exact⟨fv,vv,l,h.off (Je _) ⟨rfl,rfl,rfl⟩ (fun _ _ _=>rfl) (fun k e=>e.elim .inl (fun e=>by simp[Value.ownBlock] at e)) (fun k e=>e.elim (h.env.zl k) (fun e=>by simp[Value.ownBlock] at e))⟩
theorem ArgMid.next {w wx w2 w3:World}{K:MKC}{X X2:Nat->Prop}{M:MS}{av av':Value}{j:Nat}{o:Obj}(h:ArgMid w K X M av j wx)(h2:wW w2 (K.withZ fun k=>K.Z k∨av.ownBlock=some k) X2 (yI K.E (j+1) M).2)(d:Stp X w X2 w2)(m:w2.ownsRow w.heap.size 3 1 av j ((yI K.E j M).1.map zN))(r:I64 (zJ K.E (yI K.E j M).2).1)
 (t:∀k,X k->k<w.heap.size) (hB:K.B<=w.heap.size) (hg:(w2.alloc o).grownBy w3 av.ownBlock) (i:w3.ownsRow w.heap.size 3 1 av' (j+1) ((yI K.E j M).1.map zN++ [zN (zJ K.E (yI K.E j M).2).1])) (q:∀k,av'.ownBlock=some k->av.ownBlock=some k∨w2.heap.size<=k):ArgMid w K X M av' (j+1) w3:=by
 obtain⟨fv,vv,l,h2⟩:=h2;have g:w2.heap.size<=w3.heap.size:=by have:=hg.size;simp at this;omega
 have hk:∀k,k<w2.heap.size->av.ownBlock≠some k->w3.heap[k]? =w2.heap[k]?:=fun k hk hne=>(hg.block k Zt (fun e=>hne e.symm)).trans (Below.heap_alloc w2 o k hk)
 refine⟨?_,?_,X2,⟨fv,vv,l,h2.off (K:=K.withZ fun k=>K.Z k∨av.ownBlock=some k) g ⟨hg.os,hg.tape,hg.output⟩ (fun k hk' hz=>hk k hk' (fun e=>by have h1:k<K.B:=hz (.inr e);have:=(m.lt k e).1;omega)) (fun k e=>e.elim (fun e=> .inl (.inl e)) (fun e=>(q k e).elim (fun e=> .inl (.inr e)) .inr)) (fun k e=>e.elim (fun e=>Jy (h2.env.zl k (.inl e)) g) (fun e=>(i.lt k e).2))⟩,?_⟩
 ·show w3.ownsRow w.heap.size 3 1 av' (j+1) (((yI K.E j M).1++ [(zJ K.E (yI K.E j M).2).1]).map zN)
  rw[Js];exact i
 ·intro x c;rcases Jl.1 c with c|c
  ·exact h.i64 x c
  ·rw[Jo] at c;subst c;exact r
 ·refine⟨hg.os.trans d.os,hg.tape.trans d.tape,hg.output.trans d.output,Jn d.size g,d.new,fun k hk' c=>(hk k (Jy hk' d.size) (fun e=>?_)).trans (d.kept k hk' c)⟩;have:=(m.lt k e).1;omega
theorem ArgMid.done {w wx:World}{K:MKC}{X:Nat->Prop}{M:MS}{av:Value}{j:Nat}(h:ArgMid w K X M av j wx)(c:∀k,K.Z k->k<w.heap.size):∃Xj,wW wx K Xj (yI K.E j M).2/\Stp X w Xj wx/\wm wx (K.av Xj) av (yI K.E j M).1:=by
 obtain⟨Xj,⟨fv,vv,l,hm⟩,hs⟩:=h.made;refine⟨Xj,⟨fv,vv,l,hm.off (Z2:=K.Z) (Je _) ⟨rfl,rfl,rfl⟩ (fun _ _ _=>rfl) (fun k e=> .inl (.inl e)) (fun k e=>hm.env.zl k (.inl e))⟩,hs,?_⟩;refine rO h.own (qw _ _ _) h.i64 (fun k e hx=>hx.elim (fun e2=>hm.env.zx k e2 (.inr e)) (fun e2=>?_));have:=(h.own.lt k e).1;have:=c k e2;omega
theorem jh {w:World}{X:Nat->Prop}{v:Value}{xs:List Int}{a:Option Addr}{n c:Nat}(h:wm w X v xs)(hv:v=.slice a n c){k:Nat}{x:Int}(g:xs[k]? =some x):∃b o,a=some ⟨b,o,none⟩/\T w b (o+k) (O x):=by
 subst hv;obtain⟨a',c',e,_,_,h3⟩:=h;cases e;obtain⟨b,o,i,_,_,d,_⟩:=h3 k x g;rw[Nk] at d;exact⟨b,o,i,d⟩
theorem jN {w:World}{K:MKC}{X:Nat->Prop}{M:MS}(h:wW w K X M)(b1:M.cur<M.f.length)(hz:M.sz+16<=1000000):
 G 119 #[I K.pm] w (yk K X w (vN K.E M) (.tuple #[])):=by
 obtain⟨fv,vv,l,h⟩:=h;have H:=Ja (Jb h (Jb b1 hz));have c2:=h.c2;have c3:=h.c3;obtain⟨pa,pc,c4⟩:=h.env.fpv;have p0:=zA (i:=0) h.env.prog rfl;rw[c4] at p0;have h8:=h.env.nf;have h7:=lt_of_block h.env.prog;have h4:=lt_of_block h.blk;clear h b1 hz c4;have f4:IntKind.i64.wrap ((K.E.nf:Int)-(K.E.me:Int))=(K.E.nf:Int)-(K.E.me:Int):=Om _ Zo;have b7:IntKind.i64.wrap ((K.E.nf:Int)-(K.E.me:Int)-1)=(K.E.nf:Int)-(K.E.me:Int)-1:=Om _ Zo
 by_cases h0:K.E.nf<=K.E.me+1
 ·have q:vN K.E M=M:=by unfold vN;rw[if_pos h0]
  have a0:=Ja q;have b6:(K.E.nf:Int)-(K.E.me:Int)-1<1:=Zo;clear q;go_enter Try.func119,Try.ntmps119;go_upto_region 0 with fail;go_quiet (fail);go_wp2
  first|go_end0|refine bodyPost_ret (results_none rfl _ _ _) rfl ?_
  rw[a0.out];exact⟨rfl,X,⟨_,_,_,H.out.1.keep (yL _ _ _)⟩,Stp.of_below (yL _ _ _)⟩
 ·obtain⟨m,hm⟩:∃m:Nat,K.E.nf-K.E.me-1=m:=⟨_,rfl⟩
  have i0:1<=m:=Zo;have b6:¬(K.E.nf:Int)-(K.E.me:Int)-1<1:=Zo;have c5:(K.E.nf:Int)-(K.E.me:Int)-1=(m:Int):=Zo;have h6:¬(m:Int)<1:=Zo;rw[c5] at b7;clear b6;go_enter Try.func119,Try.ntmps119;go_upto_region 0 with fail
  go_cut [2] (fun v wx=>v=O m/\∃n,wx=w.drewN n)
  case first=>
   go_quiet (fail);go_wp2;go_meet;exact⟨by first|rfl|(rw[c5]),_,rfl⟩
  case rest=>
   obtain⟨rfl,n0,rfl⟩:=hcut;have a2:=H.out.1.keep (yL _ w n0);generalize d7:w.drewN n0=W1 at *;have b9:Stp X w X W1:=by rw[<-d7];exact Stp.of_below (yL _ _ _)
   have e0:=Ja (Jb a2 b9);have HT:=Ja (uD (a2.keep (Below.refl _ _).drew) (n:=m) Zo Zo (by have:=H.out.2.2;omega));have a1:=aaE K.E M (n:=m) Zo;obtain⟨z,hz⟩:∃z,tkV K.E M m=z:=⟨_,rfl⟩
   rw[hz] at HT a1;have HZ:=Ja (Jb hz hm);have d3:=a2.c3;clear a2 b9 hz hm d7 c2 c3 p0 f4 b7;go_upto_region 2 with fail;obtain⟨f,hf⟩:∃f:Nat,K.E.me+1+z=f:=⟨_,rfl⟩
   have c8:(K.E.me:Int)+1+(z:Int)=(f:Int):=Zo;have g6:=Ja (show IntKind.i64.wrap (IntKind.i64.wrap ((K.E.me:Int)+1)+(z:Int))=(f:Int) by rw[Om ((K.E.me:Int)+1) Zo,Om _ Zo];exact c8);clear c8
   go_cut [3] (fun v wx=>v=O f/\Hid (MkIn wx K X M.tick fv vv l/\Stp X w X wx))
   case first=>
    go_region_held3 (fun w'=>T w' K.pm 3 (O (K.E.me:Int))) (first|exact d3|assumption|(exact MkIn.c3 Zz))
     ((go_at_call 59;refine HT.out.mono ?_;rintro e w2 ⟨rfl,r,f6⟩))
    all_goals go_wp2_with fail
    go_meet;exact⟨by rw[g6.out],Ja ⟨r,e0.out.2.trans ((Stp.of_below (Below.refl _ _).drew).trans f6)⟩⟩
   obtain⟨rfl,d1⟩:=hcut;obtain⟨r,a5⟩:=d1.out;generalize g4:wc=w2 at *;clear d1 g4;have g1:f<K.E.nf:=by have:=HZ.out.2;omega
   have d2:=r.c2;have p3:=zA (i:=3) r.env.prog rfl;have d:=Ja (Jb r (Jb a5 hf));have h5:=lt_of_block r.env.prog;have g7:=lt_of_block r.blk;clear r a5 hf d3 e0 HT
   by_cases hh:(f:Int)=K.E.handler
   ·have t0:((f:Int)==K.E.handler)=true:=by rw[beq_iff_eq];exact hh
    have q:vN K.E M=M.tick:=by
     unfold vN;rw[if_neg h0];simp only;rw[HZ.out.2,HZ.out.1,d.out.2.2,if_pos hh]
    have a0:=Ja q;clear q hh;go_wp2
    first|go_end0|refine bodyPost_ret (results_none rfl _ _ _) rfl ?_
    rw[a0.out];exact⟨rfl,X,d.out.1.at,d.out.2.1⟩
   ·have t0:((f:Int)==K.E.handler)=false:=by rw[beq_eq_false_iff_ne];exact hh
    have q:vN K.E M=(yI K.E (K.E.args.getD f 0).toNat M.tick).2.emit ⟨26,0,(f:Nat),0,0,(yI K.E (K.E.args.getD f 0).toNat M.tick).1⟩:=by
     unfold vN;rw[if_neg h0];simp only;rw[HZ.out.2,HZ.out.1,d.out.2.2,if_neg hh]
    have a0:=Ja q;clear q hh;obtain⟨aa,ac,d4,_,_⟩:=d.out.1.env.args.form;have a3:=d.out.1.env.args;have e9:=d.out.1.env.len;have e4:=Ja (Jb d4 a3);obtain⟨x,hx⟩:∃x,K.E.args[f]? =some x:=⟨_,Jd (by rw[e9];exact g1)⟩
    obtain⟨f3,f2⟩:=d.out.1.env.alt x (Ji hx);have b5:K.E.args.getD f 0=x:=by rw[Jj,hx];rfl
    obtain⟨c,hc⟩:∃c:Nat,x.toNat=c:=⟨_,rfl⟩
    have d0:x=(c:Int):=Zo;have h9:=(zT M).sz;have HX:=Ja (Jb hx (Jb b5 (Jb hc d0)));have i3:c<=3:=Zo;have a6:=ArgMid.start d.out.1.at;have g5:=Ja a6;clear d4 a3 hx b5 hc d0 a6 f3 f2;go_upto_region 5 with fail;go_wp2;clear d2 p3
    go_loopw [4,5] (fun rv jv wx=>∃(j:Nat) (ra:Option Addr) (rc:Nat),j<=c/\rv=.slice ra j rc/\jv=O j/\Hid (ArgMid w2 K X M.tick (.slice ra j rc) j wx)) (fun _ jv _=>c-(intOf jv).toNat)
    case atStart=>exact⟨0,none,0,Jt _,rfl,rfl,g5⟩
    case round=>
     obtain⟨j,ra,rc,hj,rfl,rfl,HA⟩:=hrel
     have g0:∃Xj fv' vv' l',MkIn wr (K.withZ fun k=>K.Z k∨(Value.slice ra j rc).ownBlock=some k) Xj (yI K.E j M.tick).2 fv' vv' l'/\Stp X w2 Xj wr:=by
      obtain⟨Xj,⟨fv',vv',l',hm⟩,hs⟩:=HA.out.made;exact⟨Xj,fv',vv',l',hm,hs⟩
     obtain⟨Xj,fv',vv',l',hm,hs⟩:=g0;have e2:T wr K.pm 2 (I K.pp):=hm.c2;have q1:T wr K.pp 1 K.apv:=zA (i:=1) hm.env.prog rfl;obtain⟨ab,ao,d6,g3⟩:=jh (show wm wr ((K.withZ fun k=>K.Z k∨(Value.slice ra j rc).ownBlock=some k).av Xj) K.apv K.E.args from hm.env.args) e4.out.1 HX.out.1;rw[e4.out.1,d6] at q1;rw[HX.out.2.2.2] at g3;have i2:(f:Int)<(K.E.args.length:Int):=Zo;have u:=Ja (Jb hm hs);clear hm hs d6
     by_cases a1:j<c
     ·have e8:(j:Int)<(c:Int):=Zo;have g:=tj K.E j M.tick
      have b0:(yI K.E j M.tick).2.cur<(yI K.E j M.tick).2.f.length/\(yI K.E j M.tick).2.sz+4<=1000000:=by
       refine⟨?_,?_⟩
       ·rw[g.cur,g.len];exact H.out.2.1
       ·have:=g.sz;have:=H.out.2.2;omega
      have d5:=pu (K:=K.withZ fun k=>K.Z k∨(Value.slice ra j rc).ownBlock=some k) u.out.1.at b0.1 b0.2;have a4:=oD u.out.1.at;obtain⟨y,hy⟩:∃y,(zJ K.E (yI K.E j M.tick).2).1=y:=⟨_,rfl⟩
      have b3:G 62 #[I K.pm] wr (yk (K.withZ fun k=>K.Z k∨(Value.slice ra j rc).ownBlock=some k) Xj wr (yI K.E (j+1) M.tick).2 (O y)):=by rw[<-hy];exact d5
      have a9:∀(w4:World) (X4:Nat->Prop),Stp Xj wr X4 w4->w4.ownsRow w2.heap.size 3 1 (.slice ra j rc) j ((yI K.E j M.tick).1.map zN):=fun w4 X4 t=>yD HA.out.own (fun k e=>t.kept k (HA.out.own.lt k e).2 (fun e2=>u.out.1.env.zx k e2 (.inr e)))
      obtain⟨ij,f9,e7,e6,e5⟩:=info_parts Try.info_int;have HN:=Ja (Jb b3 (Jb a4 (Jb hy a9)));have d8:=Ja a1;have i1:j<=3:=Zo;have g8:=u.out.2.size;clear d5 b3 a4 hy a9 b0 g a1;go_wp2_with (first|(go_at_call 62;go_must (refine HN.out.1.mono ?_;rintro e w4 ⟨rfl,X4,f8,t⟩;have c0:=HN.out.2.2.2 w4 X4 t;have g9:=t.size))|(at_builtin;go_must (refine zK _ rfl (.tmp 54) (.tmp 57) 22 rfl w2.heap.size 3 ij (O 0) 1 8 Try.underlying22 f9 e7 e6 e5 rfl Zd (.slice ra j rc) j ((yI K.E j M.tick).1.map zN) rfl (c0.alloc _) _ 1 [O y] rfl (yM.one (zI rfl) rfl) (by unfold maxLen;omega) Zo Zt ?_;intro v9 w9 a7 b4 g2)))
      obtain⟨f1,f0,rfl⟩:=zG a7;go_roundw
      case rel=>
       refine⟨j+1,f1,f0,d8.out,rfl,by go_num,Ja (HA.out.next f8 (u.out.2.trans t) c0 (by rw[HN.out.2.2.1];have:=HN.out.2.1;rw[<-HN.out.2.2.1];exact this) d.out.1.xl d.out.1.size b4 (by rw[HN.out.2.2.1];exact a7) (fun k e=>?_))⟩;rcases g2 with e2|e2
       ·exact .inl (by rw[<-e2];exact e)
       ·right;have e3:=e2.symm.trans e;simp at e3;omega
      case measure=>have:=d8.out;simp[intOf];omega
     ·obtain rfl:j=c:=by omega
      have e8:¬(j:Int)<(j:Int):=Zo;obtain⟨X9,c7,b8,b2⟩:=HA.out.done d.out.1.env.zl;have g:=tj K.E j M.tick;have c9:=rD (o:=⟨26,0,(f:Int),0,0,(yI K.E j M.tick).1⟩) c7 ⟨yF _ rfl,yF _ rfl,vG (f:Int) Zo Zo,yF _ rfl,(by show 0<65536;omega)⟩ b2 (by rw[g.cur,g.len];exact H.out.2.1) (by have:=g.sz;have:=H.out.2.2;omega);have e1:=Ja (Jb c9 (d.out.2.1.trans b8));clear c7 b8 b2 g c9;go_wp2_with (go_at_call 117;go_must (refine e1.out.1.mono ?_;rintro e w5 ⟨rfl,X5,f7,f5⟩))
      first|go_end0|refine bodyPost_ret (results_none rfl _ _ _) rfl ?_
      rw[a0.out,HX.out.2.1,HX.out.2.2.1];exact⟨rfl,X5,f7,e1.out.2.trans f5⟩
structure OpSt (w0:World) (K:MKC) (X0:Nat->Prop) (M0:MS) (c:Nat) (w:World) (M:MS):Prop where
 made:∃X,wW w K X M/\Stp X0 w0 X w
 gr:GrowP c M0 M
 cur:M.cur<M.f.length
section
variable {w0 w:World} {K:MKC} {X0:Nat->Prop} {M0 M:MS} {c:Nat} (h:OpSt w0 K X0 M0 c w M)
include h
theorem OpSt.take (n:Nat)(i:0<n)(g:n<=1000000)(k:M0.sz+(c+1)<=1000000):
 G 59 #[I K.pm,O n] w fun e w'=>∃z:Nat,z<n/\Hid (tkV K.E M n=z)/\e=.returned (O z)/\Hid (OpSt w0 K X0 M0 (c+1) w' M.tick):=by
 obtain⟨X,hm,hs⟩:=h.made;refine(m8 hm i g (by have:=h.gr.sz;omega)).mono ?_;rintro e w' ⟨rfl,X',j,d⟩;exact⟨_,aaE _ _ i,Ja rfl,rfl,Ja ⟨⟨X',j,hs.trans d⟩,h.gr.trans (zT M).p,h.cur⟩⟩
theorem OpSt.takeK (n k:Nat)(kI:Int)(g:(k:Int)=kI)(hk:tkV K.E M n=k)(i:0<n)(d:n<=1000000)(hz:M0.sz+(c+1)<=1000000):
 G 59 #[I K.pm,O n] w fun e w'=>e=.returned (O kI)/\Hid (OpSt w0 K X0 M0 (c+1) w' M.tick):=by
 refine(h.take n i d hz).mono ?_;rintro e w' ⟨z,_,hz,rfl,hm⟩;refine⟨?_,hm⟩;rw[<-g,<-hk,hz.out]
theorem OpSt.any (i:M0.sz+(c+4)<=1000000):
 G 62 #[I K.pm] w fun e w'=>∃x:Int,Hid (I64 x/\(zJ K.E M).1=x)/\e=.returned (O x)/\Hid (OpSt w0 K X0 M0 (c+4) w' (zJ K.E M).2):=by
 obtain⟨X,hm,hs⟩:=h.made;refine(pu hm h.cur (by have:=h.gr.sz;omega)).mono ?_;rintro e w' ⟨rfl,X',g,d⟩;exact⟨_,Ja ⟨oD hm,rfl⟩,rfl,Ja ⟨⟨X',g,hs.trans d⟩,h.gr.trans (yU K.E M).p,by rw[(yU K.E M).cur,(yU K.E M).len];exact h.cur⟩⟩
theorem OpSt.addr (i:M0.sz+(c+6)<=1000000):
 G 118 #[I K.pm] w fun e w'=>∃x:Int,Hid (I64 x/\(yJ K.E M).1=x)/\e=.returned (O x)/\Hid (OpSt w0 K X0 M0 (c+6) w' (yJ K.E M).2):=by
 obtain⟨X,hm,hs⟩:=h.made;refine(addr_any hm h.cur (by have:=h.gr.sz;omega)).mono ?_;rintro e w' ⟨rfl,X',g,d⟩;refine⟨_,Ja ⟨?_,rfl⟩,rfl,Ja ⟨⟨X',g,hs.trans d⟩,h.gr.trans (ue K.E M).p,by rw[(ue K.E M).cur,(ue K.E M).len];exact h.cur⟩⟩;unfold yJ
 split
 ·obtain⟨fv,vv,l,hi⟩:=hm;exact oD ((hi.ticked (by have:=h.gr.sz;omega)).1.at)
 ·obtain⟨fv,vv,l,hi⟩:=hm;have hb:=hi.bnd;unfold MS.sz at hb;exact vG _ (by show -1000000<=(M.next:Int);omega) (by show(M.next:Int)<=1000000;omega)
theorem OpSt.next:(M.next:Int)<=1000000:=by
 obtain⟨X,⟨fv,vv,l,hi⟩,hs⟩:=h.made;have hb:=hi.bnd;unfold MS.sz at hb;omega
theorem OpSt.n64:I64 (M.next:Int):=vG _ Zo h.next
theorem OpSt.num (n:Nat)(i:n<65536)(j:M0.sz+(c+3)<=1000000):
 G 94 #[I K.pm,U n] w fun e w'=>e=.returned (O (M.next:Int))/\Hid (OpSt w0 K X0 M0 (c+3) w' (M.num n)):=by
 obtain⟨X,hm,hs⟩:=h.made;refine(ks hm i h.cur (by have:=h.gr.sz;omega)).mono ?_;rintro e w' ⟨rfl,X',g,d⟩;exact⟨rfl,Ja ⟨⟨X',g,hs.trans d⟩,h.gr.trans (wT M n).p,by rw[(wT M n).cur,(wT M n).len];exact h.cur⟩⟩
theorem OpSt.emit (code a b:Int)(n:Nat)(h1:I64 code)(h2:I64 a)(h3:I64 b)(i:n<65536)(j:M0.sz+(c+3)<=1000000):
 G 117 #[I K.pm,.agg #[O code,O 0,O a,O b,U n,F]] w fun e w'=>e=.returned (O (sB M code))/\Hid (OpSt w0 K X0 M0 (c+3) w' (M.emit ⟨code,0,a,b,n,[]⟩)):=by
 obtain⟨X,hm,hs⟩:=h.made;refine(rD (o:=⟨code,0,a,b,n,[]⟩) hm ⟨h1,yF _ rfl,h2,h3,i⟩ yE.nil h.cur (by have:=h.gr.sz;omega)).mono ?_;rintro e w' ⟨rfl,X',g,d⟩;exact⟨rfl,Ja ⟨⟨X',g,hs.trans d⟩,h.gr.trans (yB M _).p,by rw[(yB M _).cur,(yB M _).len];exact h.cur⟩⟩
theorem OpSt.call (d:∀x∈K.E.args,0<=x/\x<4)(j:M0.sz+(c+16)<=1000000):
 G 119 #[I K.pm] w fun e w'=>e=.returned (.tuple #[])/\Hid (OpSt w0 K X0 M0 (c+16) w' (vN K.E M)):=by
 obtain⟨X,hm,hs⟩:=h.made;refine(jN hm h.cur (by have:=h.gr.sz;omega)).mono ?_;rintro e w' ⟨rfl,X',i,g⟩;exact⟨rfl,Ja ⟨⟨X',i,hs.trans g⟩,h.gr.trans (pb K.E d M).p,by rw[(pb K.E d M).cur,(pb K.E d M).len];exact h.cur⟩⟩
theorem OpSt.block (n:Nat)(i:M0.sz+(c+(1+n))<=1000000):
 G 60 #[I K.pm,O n] w fun e w'=>e=.returned (O (M.f.length:Int))/\Hid (OpSt w0 K X0 M0 (c+(1+n)) w' (M.block n)):=by
 obtain⟨X,hm,hs⟩:=h.made;refine(rU hm (n:=n) (by have:=h.gr.sz;omega)).mono ?_;rintro e w' ⟨rfl,X',g,d⟩;exact⟨rfl,Ja ⟨⟨X',g,hs.trans d⟩,h.gr.trans (xM M n),by have:=h.cur;rw[yz];show M.cur<_;omega⟩⟩
theorem OpSt.flen:(M.f.length:Int)<=1000000:=by
 obtain⟨X,⟨fv,vv,l,hi⟩,hs⟩:=h.made;have hb:=hi.bnd;unfold MS.sz at hb;omega
theorem OpSt.endB (k a:Int)(tos:List IEdge)(tv:Value)(hk:I64 k)(j:I64 a)(d:∀X,wW w K X M->Stp X0 w0 X w->vT w (K.av X) tv tos):
 G 63 #[I K.pm,.agg #[O k,O a,tv]] w fun e w'=>e=.returned (.tuple #[])/\Hid (OpSt w0 K X0 M0 c w' (M.endB ⟨k,a,tos⟩)):=by
 obtain⟨X,hm,hs⟩:=h.made;refine(nt (t:=⟨k,a,tos⟩) hm hk j (d X hm hs) h.cur).mono ?_;rintro e w' ⟨rfl,X',i,g⟩;exact⟨rfl,Ja ⟨⟨X',i,hs.trans g⟩,h.gr.trans (zv M _).p,by rw[(zv M _).cur,(zv M _).len];exact h.cur⟩⟩
theorem OpSt.endN {w2:World}(k a:Int)(tos:List IEdge)(tv:Value)(hk:I64 k)(j:I64 a)(hb:L w w2)(d:∀X:Nat->Prop,(∀k,X k->k<w.heap.size)->vT w2 X tv tos):
 G 63 #[I K.pm,.agg #[O k,O a,tv]] w2 fun e w'=>e=.returned (.tuple #[])/\Hid (OpSt w0 K X0 M0 c w' (M.endB ⟨k,a,tos⟩)):=by
 obtain⟨X,⟨fv,vv,l,hm⟩,hs⟩:=h.made;refine(nt (t:=⟨k,a,tos⟩) (hm.keep hb).at hk j (d (K.av X) (fun k e=>e.elim (hm.xl k) (hm.env.zl k))) h.cur).mono ?_;rintro e w' ⟨rfl,X',i,g⟩;exact⟨rfl,Ja ⟨⟨X',i,hs.trans ((Stp.of_below hb).trans g)⟩,h.gr.trans (zv M _).p,by rw[(zv M _).cur,(zv M _).len];exact h.cur⟩⟩
theorem OpSt.below {w':World}(hb:L w w'):OpSt w0 K X0 M0 c w' M:=by
 obtain⟨X,⟨fv,vv,l,hm⟩,hs⟩:=h.made;exact⟨⟨X,⟨fv,vv,l,hm.keep hb⟩,hs.trans (Stp.of_below hb)⟩,h.gr,h.cur⟩
end
theorem OpSt.start {w:World}{K:MKC}{X:Nat->Prop}{M:MS}(h:wW w K X M)(c:M.cur<M.f.length):OpSt w K X M 0 w M:=⟨⟨X,h,Stp.refl _ _⟩,GrowP.refl M,c⟩
theorem OpSt.ret {w w':World}{K:MKC}{X:Nat->Prop}{M M':MS}{c:Nat}{r:Value}(h:OpSt w K X M c w' M'):yk K X w M' r (.returned r) w':=⟨rfl,h.made⟩
theorem wW.alt {w:World}{K:MKC}{X:Nat->Prop}{M:MS}(h:wW w K X M):∀x∈K.E.args,0<=x/\x<4:=by
 obtain⟨fv,vv,l,hm⟩:=h;exact hm.env.alt
theorem own_take {w:World}{S:Nat}{e:TypeId}{a:Option Addr}{n c k:Nat}{xs:List Value}(h:w.ownsRow S e 1 (.slice a n c) n xs)(hk:k<=n):w.ownsRow S e 1 (.slice a k c) k (xs.take k):=by
 obtain⟨h1,h2⟩:=h;refine⟨by rw[Oc,h1];omega,?_⟩;rcases h2 with⟨h3,d⟩|⟨g,o,cur,h3,d,m,q,l,j,i⟩
 ·cases h3;left;have:k=0:=Zo;subst this;exact⟨rfl,rfl⟩
 ·cases h3;refine .inr ⟨g,_,cur,rfl,d,m,by omega,l,j,?_⟩;rw[<-i,List.take_take]
  congr 1
  omega
def toL (tg n:Nat):List (IEdge×Value):=(List.range n).map fun k=>(⟨((tg+k:Nat):Int),[]⟩,F)
theorem toL_succ (tg n:Nat):toL tg (n+1)=toL tg n++ [(⟨((tg+n:Nat):Int),[]⟩,.slice none 0 0)]:=by unfold toL;rw[List.range_succ,Js];rfl
theorem toL_len (tg n:Nat):(toL tg n).length=n:=by unfold toL;simp
theorem toL_fst (tg n:Nat):(toL tg n).map (·.1)=xk tg n:=by unfold toL xk;rw[List.map_map];rfl
structure ToMid (w:World) (K:MKC) (X:Nat->Prop) (M:MS) (tv:Value) (j:Nat) (wx:World):Prop where
 own:wx.ownsRow w.heap.size 75 2 tv j ((toL M.f.length j).flatMap za)
 made:∃Xj,wW wx (K.withZ fun k=>K.Z k∨tv.ownBlock=some k) Xj (xE j M)/\Stp X w Xj wx
theorem ToMid.start {w:World}{K:MKC}{X:Nat->Prop}{M:MS}(h:wW w K X M):ToMid w K X M (F) 0 w:=by
 refine⟨Jv _ _ _ _,X,?_,Stp.refl _ _⟩;obtain⟨fv,vv,l,h⟩:=h;exact⟨fv,vv,l,h.off (Je _) ⟨rfl,rfl,rfl⟩ (fun _ _ _=>rfl) (fun k e=>e.elim .inl (fun e=>by simp[Value.ownBlock] at e)) (fun k e=>e.elim (h.env.zl k) (fun e=>by simp[Value.ownBlock] at e))⟩
theorem ToMid.next {w wx w2 w3:World}{K:MKC}{X X2:Nat->Prop}{M:MS}{tv d:Value}{j:Nat}{o:Obj}(h:ToMid w K X M tv j wx)(h2:wW w2 (K.withZ fun k=>K.Z k∨tv.ownBlock=some k) X2 (xE (j+1) M))(c:Stp X w X2 w2)(m:w2.ownsRow w.heap.size 75 2 tv j ((toL M.f.length j).flatMap za))
 (r:∀k,X k->k<w.heap.size) (hB:K.B<=w.heap.size) (hg:(w2.alloc o).grownBy w3 tv.ownBlock) (i:w3.ownsRow w.heap.size 75 2 d (j+1) ((toL M.f.length j).flatMap za++za (⟨((M.f.length+j:Nat):Int),[]⟩,F))) (q:∀k,d.ownBlock=some k->tv.ownBlock=some k∨w2.heap.size<=k):ToMid w K X M d (j+1) w3:=by
 obtain⟨fv,vv,l,h2⟩:=h2;have g:w2.heap.size<=w3.heap.size:=by have:=hg.size;simp at this;omega
 have hk:∀k,k<w2.heap.size->tv.ownBlock≠some k->w3.heap[k]? =w2.heap[k]?:=fun k hk hne=>(hg.block k Zt (fun e=>hne e.symm)).trans (Below.heap_alloc w2 o k hk)
 refine⟨?_,X2,⟨fv,vv,l,h2.off (K:=K.withZ fun k=>K.Z k∨tv.ownBlock=some k) g ⟨hg.os,hg.tape,hg.output⟩ (fun k hk' hz=>hk k hk' (fun e=>by have h1:k<K.B:=hz (.inr e);have:=(m.lt k e).1;omega)) (fun k e=>e.elim (fun e=> .inl (.inl e)) (fun e=>(q k e).elim (fun e=> .inl (.inr e)) .inr)) (fun k e=>e.elim (fun e=>Jy (h2.env.zl k (.inl e)) g) (fun e=>(i.lt k e).2))⟩,?_⟩
 ·rw[toL_succ,Nx];exact i
 ·refine⟨hg.os.trans c.os,hg.tape.trans c.tape,hg.output.trans c.output,Jn c.size g,c.new,fun k hk' hx'=>(hk k (Jy hk' c.size) (fun e=>?_)).trans (c.kept k hk' hx')⟩;have:=(m.lt k e).1;omega
theorem ToMid.done {w wx:World}{K:MKC}{X:Nat->Prop}{M:MS}{tv:Value}{j:Nat}(h:ToMid w K X M tv j wx)(d:∀k,K.Z k->k<w.heap.size)(g:M.f.length+j<=1000000):∃Xj,wW wx K Xj (xE j M)/\Stp X w Xj wx/\vT wx (K.av Xj) tv (xk M.f.length j):=by
 obtain⟨Xj,⟨fv,vv,l,hm⟩,hs⟩:=h.made;refine⟨Xj,⟨fv,vv,l,hm.off (Z2:=K.Z) (Je _) ⟨rfl,rfl,rfl⟩ (fun _ _ _=>rfl) (fun k e=> .inl (.inl e)) (fun k e=>hm.env.zl k (.inl e))⟩,hs,?_⟩;rw[<-toL_fst];refine ld (by rw[toL_len];exact h.own) (fun q hq=>?_) (fun k e hx=>hx.elim (fun e2=>hm.env.zx k e2 (.inr e)) (fun e2=>?_))
 ·unfold toL at hq;obtain⟨m,c,rfl⟩:=Nu.1 hq;have:=Ol.1 c;exact⟨vG _ (by show -1000000<=((M.f.length+m:Nat):Int);omega) (by show((M.f.length+m:Nat):Int)<=1000000;omega),yE.nil⟩
 ·have:=(h.own.lt k e).1;have:=d k e2;omega
theorem pj {w:World}{xs:List Int}{blk:Int}(d:∀x∈xs,I64 x)(hl:xs.length<=1000)(hb:I64 blk)(X:Nat->Prop)(c:∀k,X k->k<w.heap.size):
 vT ((w.alloc (A (xs.map fun x=>O x).toArray 3)).alloc (A #[O blk,Q w.heap.size xs.length xs.length] 75)) X (Q (w.heap.size+1) 1 1) [⟨blk,xs⟩]:=by
 refine qt (l:=[((⟨blk,xs⟩:IEdge),Q w.heap.size xs.length xs.length)]) (e:=75) (zI Zs) (fun e=>by have:=c _ e;omega) (fun q hq=>?_) Zs;rw[Jo] at hq;subst hq;exact⟨hb,ki (zB (zI rfl)) (fun e=>by have:=c _ e;omega) d Zo⟩
theorem edgeCell {w:World}{X:Nat->Prop}{v:Value}{xs:List IEdge}{a:Option Addr}{n c:Nat}(h:vT w X v xs)(hv:v=.slice a n c){k:Nat}{x:IEdge}(d:xs[k]? =some x):∃b o,a=some ⟨b,o,none⟩/\T w b (o+k*2) (O x.block):=by
 subst hv;obtain⟨a',c',e,_,_,h3⟩:=h;cases e;obtain⟨b,o,i,_,_,g,_⟩:=h3 k x d;exact⟨b,o,i,g⟩
theorem nl {tg n k:Nat}(h:k<n):(xk tg n)[k]? =some ⟨((tg+k:Nat):Int),[]⟩:=by unfold xk;rw[Jr,Oh h];rfl
theorem MkIn.cut {w:World}{K:MKC}{X:Nat->Prop}{M:MS}{fv:Value}{l:List BM}{a:Option Addr}{n c k:Nat}(h:MkIn w K X M fv (.slice a n c) l)(hk:k<=M.vals.length):
 MkIn (w.setCell ⟨K.pm,7,none⟩ (.slice a k c)) K X {M with vals:=M.vals.take k } fv (.slice a k c) l/\Stp X w X (w.setCell ⟨K.pm,7,none⟩ (.slice a k c)):=by
 have hv:=h.vown;obtain⟨a',c',e⟩:=zG hv;cases e;have d:(M.vals.take k).length=k:=by rw[Oc];omega
 refine h.setC 7 _ {M with vals:=M.vals.take k } (.slice a k c) rfl rfl ?_ (fun x hx=>h.v64 x (List.mem_of_mem_take hx)) ?_ ?_ h.lft
 ·show w.ownsRow K.B 3 1 (.slice a k c) (M.vals.take k).length ((M.vals.take k).map zN)
  rw[d,List.map_take];exact own_take hv hk
 ·intro j e;refine h.xv j ?_
  cases a with
  |none=>cases e
  |some a=>exact e
 ·have:=h.bnd;unfold MS.sz at this ⊢;simp only[d];omega
theorem MkIn.goto {w:World}{K:MKC}{X:Nat->Prop}{M:MS}{fv vv:Value}{l:List BM}(h:MkIn w K X M fv vv l)(k:Nat):
 MkIn (w.setCell ⟨K.pm,5,none⟩ (O k)) K X {M with cur:=k } fv vv l/\Stp X w X (w.setCell ⟨K.pm,5,none⟩ (O k)):=
 h.setC 5 _ {M with cur:=k } vv rfl rfl h.vown h.v64 h.xv h.bnd h.lft
theorem MkIn.parAt {w:World}{K:MKC}{X:Nat->Prop}{M:MS}{fv vv:Value}{l:List BM}(h:MkIn w K X M fv vv l){i:Nat}{b:IBlk}(hb:M.f[i]? =some b):
 ∃g c pa pc,fv=Q g l.length c/\g<w.heap.size/\T w g (i*5) (.slice pa b.params.length pc)/\∀k x,b.params[k]? =some x->∃bb o,pa=some ⟨bb,o,none⟩/\bb<w.heap.size/\T w bb (o+k) (O x)/\I64 x:=by
 obtain⟨q,hq,rfl,r⟩:=h.getB hb;obtain⟨g,c,d,a1,t,a0⟩:=h.fblk hq;have j:=wb yr h.own (by rw[d];rfl) hq;have e0:T w g (i*5) q.pv:=j 0 _ rfl;obtain⟨pa,pc,m,h1,h2,h3⟩:=r.par;refine⟨g,c,pa,pc,d,t,by rw[e0,m],fun k x hx=>?_⟩;obtain⟨bb,o,h4,h5,h6,u,y⟩:=h3 k x hx;rw[Nk] at u;exact⟨bb,o,h4,h5,u,y⟩
def jQ {α:Type}(R:World->(Nat->Prop)->Nat->Nat->α->Prop):Prop:=∀w X Y b q x,(∀k,Y k->X k)->R w X b q x->R w Y b q x
theorem yE.anti {α:Type}{sz:Nat}{R:World->(Nat->Prop)->Nat->Nat->α->Prop}(g:jQ R){w:World}{X Y:Nat->Prop}{v:Value}{xs:List α}(h:yE sz R w X v xs)(c:∀k,Y k->X k):yE sz R w Y v xs:=by
 obtain⟨a,d,rfl,h1,h2,h3⟩:=h;refine⟨a,d,rfl,h1,h2,fun k x hk=>?_⟩;obtain⟨b,o,m,l,j,i⟩:=h3 k x hk;exact⟨b,o,m,l,fun e=>j (c _ e),g _ _ _ _ _ _ c i⟩
theorem abf:jQ IntG:=fun w X Y b q x hY h=>h
theorem qd:jQ EdgeG:=fun w X Y b q x hY h=>by
 obtain⟨h1,h2,av,h3,c⟩:=h;exact⟨h1,h2,av,h3,c.anti abf hY⟩
def OpG (w:World)(X:Nat->Prop)(b q:Nat)(x:IOp):Prop:=
 T w b q (O x.code)/\T w b (q+1) (O x.res)/\T w b (q+2) (O x.a)/\T w b (q+3) (O x.b)/\T w b (q+4) (U (x.n:Int))/\
  (I64 x.code/\I64 x.res/\I64 x.a/\I64 x.b/\x.n<65536)/\∃av,T w b (q+5) av/\wm w X av x.args
theorem lu:rP OpG:=fun X w X' w' b q x _ hx hs h=>by
 obtain⟨h1,h2,h3,j,i,g,av,d,c⟩:=h;exact⟨hs.cell h1 hx,hs.cell h2 hx,hs.cell h3 hx,hs.cell j hx,hs.cell i hx,g,av,hs.cell d hx,c.step zn hs⟩
theorem opG_anti:jQ OpG:=fun w X Y b q x hY h=>by
 obtain⟨h1,h2,h3,j,i,g,av,d,c⟩:=h;exact⟨h1,h2,h3,j,i,g,av,d,c.anti abf hY⟩
abbrev OpsG:=yE 6 OpG
def BlkG (w:World)(X:Nat->Prop)(b q:Nat)(x:IBlk):Prop:=
 T w b (q+2) (O x.term.kind)/\T w b (q+3) (O x.term.a)/\(I64 x.term.kind/\I64 x.term.a)/\
  ∃pv ov tv,T w b q pv/\T w b (q+1) ov/\T w b (q+4) tv/\wm w X pv x.params/\OpsG w X ov x.ops/\vT w X tv x.term.to
theorem xq:rP BlkG:=fun X w X' w' b q x _ hx hs h=>by
 obtain⟨h1,h2,h3,pv,ov,tv,k,j,i,g,d,c⟩:=h;exact⟨hs.cell h1 hx,hs.cell h2 hx,h3,pv,ov,tv,hs.cell k hx,hs.cell j hx,hs.cell i hx,g.step zn hs,d.step lu hs,c.step yq hs⟩
theorem jG:jQ BlkG:=fun w X Y b q x hY h=>by
 obtain⟨h1,h2,h3,pv,ov,tv,k,j,i,g,d,c⟩:=h;exact⟨h1,h2,h3,pv,ov,tv,k,j,i,g.anti abf hY,d.anti opG_anti hY,c.anti qd hY⟩
abbrev pf:=yE 5 BlkG
theorem OpsG.to {w:World}{X:Nat->Prop}{v:Value}{xs:List IOp}(h:OpsG w X v xs):mN w w.heap.size v xs:=yE.to h fun _ _ _ h=>by
 obtain⟨h1,h2,h3,j,i,g,av,d,c⟩:=h;exact⟨h1,h2,h3,j,i,g,av,d,wm.to c⟩
theorem pf.to {w:World}{X:Nat->Prop}{v:Value}{xs:List IBlk}(h:pf w X v xs):wX w w.heap.size v xs:=yE.to h fun _ _ _ h=>by
 obtain⟨h1,h2,h3,pv,ov,tv,k,j,i,g,d,c⟩:=h;exact⟨h1,h2,h3,pv,ov,tv,k,j,i,wm.to g,OpsG.to d,vT.to c⟩
theorem qv {α β:Type}{sz:Nat}{f:β->List Value}{g:β->α}{R:World->(Nat->Prop)->Nat->Nat->α->Prop}(t:0<sz)(hf:∀a,(f a).length=sz){w:World}{X:Nat->Prop}{S:Nat}{e:TypeId}{v:Value}{l:List β}(h:w.ownsRow S e sz v l.length (l.flatMap f))(m:∀k,v.ownBlock=some k->¬X k)
 (r:∀q∈l,∀b o,(∀j u,(f q)[j]? =some u->T w b (o+j) u)->R w X b o (g q)):yE sz R w X v (l.map g):=by
 obtain⟨a,c,rfl⟩:=zG h;have hl:=zm h;refine⟨a,c,by rw[Nr],by rw[Nr];exact hl.1,by omega,fun k o hk=>?_⟩;rw[Jr,Oz] at hk;obtain⟨q,hq,rfl⟩:=hk;have d:=(Jh.1 hq).1;obtain⟨gg,x,e,hg,hb⟩:=h.form Zo;cases e;refine⟨gg,0,rfl,hb,m gg rfl,r q (Ji hq) _ _ fun j u hj=>?_⟩;have i:j<sz:=by rw[<-hf q];exact(Jh.1 hj).1
 rw[Ng]
 exact(h.cellAt (k*sz+j) (by
  have:(k+1)*sz<=l.length*sz:=Qw sz d;rw[Nat.add_mul] at this
  omega)).trans ((uB f sz hf l k q hq j i).trans hj)
theorem mF (q:IOp×Value):(zU q).length=6:=rfl
theorem MkIn.blks {w:World}{K:MKC}{X:Nat->Prop}{M:MS}{fv vv:Value}{l:List BM}(h:MkIn w K X M fv vv l):pf w (fun k=>k=K.pm∨K.Z k) fv M.f:=by
 have c:∀k,(k=K.pm∨K.Z k)->K.av X k:=fun k e=>e.elim (fun e=> .inl (by rw[e];exact h.xm)) .inr
 rw[h.fl];refine qv Zd yr h.own (fun k e e2=>?_) (fun q hq b o hc=>?_)
 ·rcases e2 with e2|e2
  ·exact zC h.own h.blk (.inr Zd) (by rw[e,e2])
  ·exact h.env.zx k (h.xf k e) e2
 ·have ok:=h.bok q hq;refine⟨hc 2 _ rfl,hc 3 _ rfl,ok.k64,q.pv,q.ov,q.tv,hc 0 _ rfl,hc 1 _ rfl,hc 4 _ rfl,ok.par.anti abf c,?_,ok.tos.anti qd c⟩;rw[ok.ops];refine qv Zd mF ok.own (fun k e e2=>?_) (fun p hp b2 o2 hc2=>?_)
  ·rcases e2 with e2|e2
   ·exact zC ok.own h.blk (.inr Zd) (by rw[e,e2])
   ·exact h.env.zx k (ok.inX k e) e2
  ·have oa:=ok.arg p hp;exact⟨hc2 0 _ rfl,hc2 1 _ rfl,hc2 2 _ rfl,hc2 3 _ rfl,hc2 4 _ rfl,oa.1,p.2,hc2 5 _ rfl,oa.2.anti abf c⟩
theorem MkIn.putVs {w w3:World}{K:MKC}{X:Nat->Prop}{M:MS}{fv vv vv':Value}{l:List BM}(h:MkIn w K X M fv vv l)(hg:w.grownBy w3 vv.ownBlock){xs:List Int}{n:Nat}(t:n=M.vals.length+xs.length)
 (c:w3.ownsRow K.B 3 1 vv' n (M.vals.map zN++xs.map zN)) (o:∀k,vv'.ownBlock=some k->vv.ownBlock=some k∨w.heap.size<=k) (r:∀x∈xs,I64 x) (u:M.sz+xs.length<=1000000):
 MkIn (w3.setCell ⟨K.pm,7,none⟩ vv') K (fun k=>X k∨vv'.ownBlock=some k) {M with vals:=M.vals++xs } fv vv' l/\Stp X w (fun k=>X k∨vv'.ownBlock=some k) (w3.setCell ⟨K.pm,7,none⟩ vv'):=by
 subst t;have n1:=zC h.vown h.blk (.inr Zd);have i:=zL hg h.blk n1;have m:w.heap.size<=w3.heap.size:=hg.size
 have hk:∀k,k<w.heap.size->k≠K.pm->vv.ownBlock≠some k->(w3.setCell ⟨K.pm,7,none⟩ vv').heap[k]? =w.heap[k]?:=fun k hk hne hv=>
  (Below.heap_setCell w3 ⟨K.pm,7,none⟩ vv' k hne).trans (hg.block k hk (fun e=>hv e.symm))
 have hs:Stp X w (fun k=>X k∨vv'.ownBlock=some k) (w3.setCell ⟨K.pm,7,none⟩ vv'):=
  ⟨hg.os,hg.tape,hg.output,by simpa using m,fun k hx'=>hx'.elim .inl (fun e=>(o k e).elim (fun e2=> .inl (h.xv k e2)) .inr),fun k hk' hxk=>hk k hk' (fun e=>hxk (by rw[e];exact h.xm)) (fun e=>hxk (h.xv k e))⟩
 have g:∀ {v:Value} {e:TypeId} {sz n:Nat} {xs:List Value},w.ownsRow K.B e sz v n xs->e≠3->e≠120->∀k,v.ownBlock=some k->(w3.setCell ⟨K.pm,7,none⟩ vv').heap[k]? =w.heap[k]?:=fun {v e sz n xs} ho h1 h2 k hk'=>by
  refine hk k (ho.lt k hk').2 (fun e3=>zC ho h.blk (.inr h2) (by rw[hk',e3])) (fun e3=>?_);rcases zo ho h.vown h1 with j|j
  ·rw[j] at hk';cases hk'
  ·exact j (by rw[hk',e3])
 refine⟨⟨?_,yD h.own (g h.own Zd Zd),h.fl,fun q hq=>(h.bok q hq).step hs (g (h.bok q hq).own Zd Zd) (fun _ e=> .inl e),h.apart,?_,?_,.inl h.xm,fun k e=> .inl (h.xf k e),fun k e=> .inr e,fun k e=>e.elim (h.xB k) (fun e2=>(c.lt k e2).1),fun k e=>?_,h.env.step hs (hs.below h.xB h.size),?_,h.lft⟩,hs⟩
 ·rw[zD i];rfl
 ·show(w3.setCell ⟨K.pm,7,none⟩ vv').ownsRow K.B 3 1 vv' (M.vals++xs).length ((M.vals++xs).map zN)
  rw[Jk,Js];exact ownsRow_setCell_other c (fun e=>zC c i (.inr Zd) (by simpa using e)) _
 ·intro y d;rcases Jl.1 d with d|d
  ·exact h.v64 y d
  ·exact r y d
 ·rcases e with e|e
  ·have:=h.xl k e;simp;omega
  ·have:=(c.lt k e).2;simpa using this
 ·unfold MS.sz at *;simp only[Jk];omega
structure MDC where
 sv:Value
 apv:Value
 dv:Value
 bv:Value
 pm:Nat
 pp:Nat
 fb:Nat
 rr:Nat
 B:Nat
def mdK (s:List Int)(C:MDC)(k:Nat):MKC:=⟨xC s k,C.sv,Q C.fb (mdN s) (mdN s),C.apv,C.dv,C.bv,C.pm,C.pp,C.B,fun j=>(j=C.fb∨j=C.rr)∨j<C.B⟩
theorem MkEnv.me {w:World}{s:List Int}{C:MDC}{j k:Nat}{X:Nat->Prop}(h:MkEnv w (mdK s C j) X)(hk:k<mdN s):MkEnv w (mdK s C k) X:=
 ⟨h.s,h.fpv,h.prog,h.args,h.data,h.ppX,h.h64,h.len,⟨h.nf.1,hk⟩,h.alt,h.zx,h.zl⟩
theorem MkEnv.anti {w:World}{K:MKC}{X Y:Nat->Prop}(h:MkEnv w K X)(d:∀k,Y k->X k):MkEnv w K Y:=by
 have c:∀k,K.av Y k->K.av X k:=fun k e=>e.elim (fun e=> .inl (d k e)) .inr
 obtain⟨b,e1,e2,e3⟩:=h.data;exact⟨h.s,h.fpv,h.prog,h.args.anti abf c,⟨b,e1,fun e=>e2 (c _ e),e3⟩,fun e=>h.ppX (c _ e),h.h64,h.len,h.nf,h.alt,fun k e=>h.zx k (d k e),h.zl⟩
theorem MkEnv.stepA {w w':World}{K:MKC}{X:Nat->Prop}(h:MkEnv w K X)(c:Stp (K.av X) w (K.av X) w')(hb:Below K.B w w'):MkEnv w' K X:=by
 obtain⟨b,e1,e2,e3⟩:=h.data;exact⟨h.s.below zO hb,h.fpv,c.blk h.prog h.ppX,h.args.step zn c,⟨b,e1,e2,c.blk e3 e2⟩,h.ppX,h.h64,h.len,h.nf,h.alt,h.zx,fun k e=>Jy (h.zl k e) c.size⟩
structure MdAt (s:List Int) (C:MDC) (w0:World) (k:Nat) (wx:World):Prop where
 env:MkEnv wx (mdK s C 0) (fun j=>j=C.pm)
 mkr:∃(me:Value) (cur:Nat) (fv next vv left:Value),wx.heap[C.pm]? =some (.cells #[C.sv,.int .i64 ((zg s k).2:Int),.pointer (some ⟨C.pp,0,none⟩),me,fv,.int .i64 (cur:Int),next,vv,left] 120 (0,0))
 row:∃hs:List Value,hs.length=mdN s/\wx.heap[C.fb]? =some (.cells hs.toArray 43 (0,0))/\∀(j:Nat) (x:List IBlk),(zg s k).1[j]? =some x->∃v:Value,hs[j]? =some v/\pf wx (fun i=>i=C.pm∨((i=C.fb∨i=C.rr)∨i<C.B)) v x
 bel:Below w0.heap.size w0 wx
 hB:C.B=w0.heap.size
 pmB:C.B<=C.pm
 fbB:C.B<=C.fb
 rrB:C.B<=C.rr
theorem MdAt.start {s:List Int}{C:MDC}{w0 wx W:World}{k:Nat}(h:MdAt s C w0 k wx)(hk:k<mdN s){cur next:Nat}(d:(zg s k).2+1+next<=900000)
 (c:Y W C.pm (uC (mdK s C k) ⟨(zg s k).2+1,[],cur,next,[],6⟩ (F) (F)) 120)
 (hs:Stp (fun j=>j=C.pm) wx (fun j=>j=C.pm) W):MkIn W (mdK s C k) (fun j=>j=C.pm) ⟨(zg s k).2+1,[],cur,next,[],6⟩ (F) (F) []:=
 ⟨c,Jv _ _ _ _,rfl,fun q hq=>by simp at hq,fun i j qi qj k hi=>by simp at hi,Jv _ _ _ _,fun x hx=>by simp at hx,rfl,fun k e=>by simp[Value.ownBlock] at e,fun k e=>by simp[Value.ownBlock] at e,
  fun k e=>by rw[e];exact h.pmB,fun k e=>by rw[e];exact lt_of_block c,(h.env.step hs (hs.below (fun k e=>by rw[e];exact h.pmB) (by show C.B<=_;rw[h.hB];exact h.bel.size))).me hk,by unfold MS.sz;simp[nN];omega,⟨by show(6:Int)<=6+_;omega,by show(6:Int)<=6;omega⟩⟩
theorem MdAt.done {s:List Int}{C:MDC}{w0 wx W W2:World}{k:Nat}(h:MdAt s C w0 k wx)(hk:k<mdN s){X:Nat->Prop}{fv vv:Value}{l:List BM}(hm:MkIn W (mdK s C k) X (xR (xC s k) (zg s k).2) fv vv l)(hs:Stp (fun j=>j=C.pm) wx X W)(u:(zg s k).1.length=k)
 (c:W2.heap.size=W.heap.size/\W2.os=W.os/\W2.tape=W.tape/\W2.output=W.output) (g:∀i,i≠C.fb->W2.heap[i]? =W.heap[i]?) (a1:∀cs:Array Value,Y W C.fb cs 43->Y W2 C.fb (cs.setIfInBounds k fv) 43):MdAt s C w0 (k+1) W2:=by
 obtain⟨row,hrl,o,r⟩:=h.row;have m:¬(C.fb=C.pm):=fun e=>h.env.zx C.pm rfl (.inl (.inl e.symm))
 have a6:¬X C.fb:=fun e=>hm.env.zx C.fb e (.inl (.inl rfl))
 have d:Stp ((mdK s C k).av fun j=>j=C.pm) W ((mdK s C k).av fun j=>j=C.pm) W2:=⟨c.2.1,c.2.2.1,c.2.2.2,by rw[c.1];exact Je _,fun k e=> .inl e,fun i _ hx=>g i (fun e=>hx (.inr (.inl (.inl e))))⟩
 have a4:C.B<=wx.heap.size:=by rw[h.hB];exact h.bel.size
 have a3:Below C.B wx W:=hs.below (fun k e=>by rw[e];exact h.pmB) a4;have a5:C.B<=C.fb:=h.fbB;have q:Below C.B W W2:=⟨c.2.1,c.2.2.1,c.2.2.2,by rw[c.1];exact Je _,fun i hi=>g i Zo⟩
 have w:MkEnv W2 (mdK s C 0) (fun j=>j=C.pm):=((hm.env.anti (fun i e=>by rw[e];exact hm.xm)).stepA d q).me (by have:=hk;omega);have a0:C.fb<wx.heap.size:=lt_of_block o;refine⟨w,?_,?_,?_,h.hB,h.pmB,h.fbB,h.rrB⟩
 ·have h1:=hm.blk;exact⟨_,_,_,_,_,_,(g C.pm (fun e=>m e.symm)).trans h1⟩
 ·have t:Y W C.fb row.toArray 43:=(hs.kept _ a0 (fun e=>m e)).trans o;refine⟨row.set k fv,by rw[Nd];exact hrl,by rw[a1 _ t];simp,fun j x hj=>?_⟩;have e1:(zg s (k+1)).1=(zg s k).1++ [(xR (xC s k) (zg s k).2).f]:=rfl;rw[e1] at hj
  by_cases a7:j<k
  ·rw[Np Zo] at hj;obtain⟨v,hv,a2⟩:=r j x hj;refine⟨v,by rw[Ns Zo];exact hv,?_⟩;have h2:pf W ((mdK s C k).av X) v x:=yE.step (X:=(mdK s C k).av fun j=>j=C.pm) xq a2 (hs.av _);have h3:pf W ((mdK s C k).av fun j=>j=C.pm) v x:=h2.anti jG (fun i e=>e.elim (fun e=> .inl (by rw[e];exact hm.xm)) .inr);exact h3.step xq d
  ·have y:j=k:=by
    have:=(Jh.1 hj).1;simp at this;omega
   subst y;rw[Nc Zo,u,Qy] at hj;cases hj;refine⟨fv,by rw[Nn Zo],?_⟩;have h2:pf W ((mdK s C j).av fun i=>i=C.pm) fv (xR (xC s j) (zg s j).2).f:=hm.blks;exact h2.step xq d
 ·have e:C.B=w0.heap.size:=h.hB;have:=h.bel.trans (B:=w0.heap.size) (by rw[<-e];exact a3.trans q);exact this
theorem tf {w:World}{pm pos B:Nat}{cs:Array Value}{s:List Int}{sv:Value}(hb:Y w pm cs 120)(q:cs[0]? =some sv)(h1:cs[1]? =some (O pos))(hs:zY w B sv s){n:Nat}(l:0<n)(g:n<=1000000)(t:pos+1<=1000000):
 G 59 #[I pm,O n] w fun e w'=>e=.returned (O (tk0 s pos n:Nat))/\Y w' pm (cs.setIfInBounds 1 (O ((pos+1:Nat):Int))) 120/\Stp (fun j=>j=pm) w (fun j=>j=pm) w':=by
 have c0:=zA hb q;have c1:=zA hb h1;obtain⟨sa,sc,i,a1,a0⟩:=hs.form;rw[i] at c0 hs;have f1:N w pm 1:=zE hb;have a2:=lt_of_block hb
 have d:=Ja (show ∀n,Y ((w.drewN n).setCell ⟨pm,1,none⟩ (O ((pos:Int)+1))) pm (cs.setIfInBounds 1 (O ((pos+1:Nat):Int))) 120/\Stp (fun j=>j=pm) w (fun j=>j=pm) ((w.drewN n).setCell ⟨pm,1,none⟩ (O ((pos:Int)+1))) from fun n=>
  ⟨zD (w:=w.drewN n) hb _,⟨rfl,rfl,rfl,by simp,fun _ h=> .inl h,fun k hk c=>Below.heap_setCell _ _ _ _ (fun e=>c (by rw[e]))⟩⟩)
 have hp:(pos:Int)+1<=1000000:=Zo;clear hb q h1
 by_cases m:pos<s.length
 ·obtain⟨x,c⟩:∃x,s[pos]? =some x:=⟨_,Jd m⟩
  obtain⟨b,o,rfl,hb,u,h64⟩:=hs.get c;rw[Nk] at u;have y:(pos:Int)<(s.length:Int):=Zo;have hv:tk0 s pos n=(x%(n:Int)).toNat:=by unfold tk0;rw[Jj,c];rfl
  have e1:=rK x n l g;rw[hv];have r:=Ja e1;clear hs c hb e1 hv;go_enter Try.func59,Try.ntmps59;go_wp2;go_quiet (fail);go_wp2;go_quiet (fail);go_wp2;go_ret;exact⟨zh r.out,(d.out _).1,(d.out _).2⟩
 ·have y:¬(pos:Int)<(s.length:Int):=Zo;have hv:tk0 s pos n=((0:Int)%(n:Int)).toNat:=by unfold tk0;rw[Jj,Of Zo];rfl
  have e1:=rK 0 n l g;rw[hv];have r:=Ja e1;clear hs hv e1;go_enter Try.func59,Try.ntmps59;go_wp2;go_quiet (fail);go_wp2;go_ret;exact⟨zh Zs,(d.out _).1,(d.out _).2⟩
def zW (t:PT):List Value:=[t.fv,t.av,O t.entry,O t.handler,t.dv,t.bv]
theorem vr {t:PT}:∀x∈t.rows,x.e≠29:=fun x c=>by
 unfold PT.rows at c;rcases Jq.1 c with rfl|c
 ·show 43≠29;decide
 rcases Jq.1 c with rfl|c
 ·show 3≠29;decide
 rcases Jq.1 c with rfl|c
 ·show 51≠29;decide
 rcases Jq.1 c with rfl|c
 ·show 9≠29;decide
 obtain⟨f,_,c⟩:=Qx.1 c;unfold FT.rows at c;rcases Jq.1 c with rfl|c
 ·show 49≠29;decide
 obtain⟨b,_,c⟩:=Qx.1 c;unfold BT.rows at c;rcases Jq.1 c with rfl|c
 ·show 3≠29;decide
 rcases Jq.1 c with rfl|c
 ·show 77≠29;decide
 rcases Jq.1 c with rfl|c
 ·show 75≠29;decide
 rcases Jl.1 c with c|c
 ·obtain⟨q,_,rfl⟩:=Nu.1 c
  show 3≠29;decide
 ·obtain⟨q,_,rfl⟩:=Nu.1 c
  show 3≠29;decide
structure OwMid (w:World) (p1 r2 q3:Nat) (V:PV) (p:IProg) (t:PT) (wx:World):Prop where
 h1:wx.heap[p1]? =some (.cells #[V.fv,V.av,.int .i64 p.entry,.int .i64 p.handler,V.dv,V.bv] 29 (0,0))
 h2:wx.heap[r2]? =some (.cells #[.slice none 0 0,.slice none 0 0,.int .i64 0,.int .i64 0,.slice none 0 0,.slice none 0 0] 29 (0,0))
 h3:wx.heap[q3]? =some (.cells (zW t).toArray 29 (0,0))
 bel:Below p1 w wx
 rows:Rows wx p1 t.rows
 ges:p1<r2/\r2<q3
section
variable {w:World} {p1 r2 q3:Nat} {V:PV} {p:IProg} {t:PT} {wx:World} (h:OwMid w p1 r2 q3 V p t wx)
include h
theorem OwMid.sz:p1<=wx.heap.size:=Qd (lt_of_block h.h1)
theorem OwMid.grow {w1 w':World}{r r':Row}{rs ns:List Row}{t':PT}{i:Nat}{u:Value}(hp:t.rows.Perm (r::rs))(c:L wx w1)(a0:Rows w1 wx.heap.size ns)(hg:w1.grownBy w' r.blk)
 (g:w'.ownsRow p1 r'.e r'.sz r'.v r'.n r'.cs) (a1:∀k,r'.blk=some k->r.blk=some k∨w1.heap.size<=k) (hq:(r'::(ns++rs)).Perm t'.rows) (hc:((zW t).toArray).setIfInBounds i u=(zW t').toArray):OwMid w p1 r2 q3 V p t' (w'.setCell ⟨q3,i,none⟩ u):=by
 have hr:=h.rows.perm hp;have ho:=hr.own r (.head _);have y:r.e≠29:=vr r (hp.mem_iff.2 (.head _));have keep:∀ {b:Nat} {cs:Array Value},Y wx b cs 29->Y w' b cs 29:=fun hb=>zL hg (zH c hb (lt_of_block hb)) (zC ho hb (.inr y))
 have q:wx.heap.size<=w'.heap.size:=Jn c.size hg.size;have l:Below p1 w w':=h.bel.trans ⟨hg.os.trans c.os,hg.tape.trans c.tape,hg.output.trans c.output,q,fun k hk=>(hg.block k (by have:=h.sz;have:=c.size;omega) (fun e=>by have:=(ho.lt k e.symm).1;omega)).trans (c.block k (by have:=h.sz;omega))⟩;have h1:Rows w1 p1 (r::(ns++rs)):=(hr.append a0 c h.sz).perm List.perm_middle;have j:Rows w' p1 (r'::(ns++rs)):=h1.grow (Below.refl _ _) hg g a1;have h3:=keep h.h3;have a2:=h.ges;refine⟨zR (keep h.h1) (by show p1≠q3;omega),zR (keep h.h2) (by show r2≠q3;omega),by rw[zD h3,hc],l.setCell (by show p1<=q3;omega) _,?_,h.ges⟩;have d:=j.perm hq;refine d.keep fun k hk=>Below.heap_setCell _ _ _ _ (fun e=>?_)
 obtain⟨x,o,m⟩:=Nj.1 hk;have e':k=q3:=e;subst e';exact zC (d.own x o) h3 (.inr (vr x o)) m
end
theorem iI {α:Type}{f:α->List Value}{n:Nat}(hf:∀a,(f a).length=n){l:List α}{k:Nat}{b a:α}(hk:l[k]? =some b){j:Nat}{u:Value}(d:j<n)(g:(f b).set j u=f a):(l.flatMap f).set (k*n+j) u=(l.set k a).flatMap f:=by
 have c:=(Jh.1 hk).1;have hb:l[k]=b:=(Jh.1 hk).2
 have e1:l=l.take k++b::l.drop (k+1):=by
  rw[<-hb,Ue,Qi]
 have hl:(l.take k).length=k:=by simp;omega
 have e2:l.set k a=l.take k++a::l.drop (k+1):=by
  rw[List.set_eq_take_append_cons_drop,if_pos c]
 have e3:l.flatMap f=(l.take k).flatMap f++(f b++(l.drop (k+1)).flatMap f):=by
  conv=>lhs;rw[e1]
  rw[Nx,Qa]
 have h:((l.take k).flatMap f).length=k*n:=by rw[wq f n hf,hl]
 rw[e2,e3,Nx,Qa,Uj _ _ Zo,h,Nat.add_sub_cancel_left,List.set_append_left _ _ (by rw[hf];exact d),g]
theorem yp {α:Type}{f:α->List Value}{n:Nat}{w:World}{base g:Nat}{e:TypeId}{v:Value}{l:List α}{k:Nat}{b a:α}(hf:∀a,(f a).length=n)(h:w.ownsRow base e n v l.length (l.flatMap f))(hg:v.ownBlock=some g)(hk:l[k]? =some b){j:Nat}{u:Value}(d:j<n)(i:(f b).set j u=f a):
 (w.setCell ⟨g,k*n+j,none⟩ u).ownsRow base e n v l.length ((l.set k a).flatMap f):=by
 refine⟨by rw[wq f n hf,Nd],?_⟩;rcases h.2 with⟨rfl,_⟩|⟨g',c,cur,rfl,h1,h2,h3,q,o,m⟩
 ·simp[Value.ownBlock] at hg
 ·simp[Value.ownBlock] at hg;subst hg;refine .inr ⟨g',c,_,rfl,h1,zD h2 u,h3,q,by simpa using o,?_⟩;rw[Array.toList_setIfInBounds,List.take_set,m];exact iI hf hk d i
structure Chg (w:World) (rs:List Row) (w':World):Prop where
 os:w'.os=w.os
 tape:w'.tape=w.tape
 output:w'.output=w.output
 size:w.heap.size<=w'.heap.size
 kept:∀k,k<w.heap.size->k ∉ rs.filterMap Row.blk->w'.heap[k]? =w.heap[k]?
structure SpSt (w:World) (B g i:Nat) (v:Value) (bt:BT) (l:List BT) (rs:List Row):Prop where
 rows:Rows w B (zd v l::(bt.rows++rs))
 at':l[i]? =some bt
 gb:v.ownBlock=some g
theorem Chg.of {w w':World}{rs rs':List Row}(h:Chg w rs w')(hs:∀k,k∈rs.filterMap Row.blk->k∈rs'.filterMap Row.blk):Chg w rs' w':=⟨h.os,h.tape,h.output,h.size,fun k hk hn=>h.kept k hk (fun e=>hn (hs k e))⟩
theorem xJ {w:World}{a:Addr}{u:Value}{r:Row}(h:r.blk=some a.block):Chg w [r] (w.setCell a u):=
 ⟨rfl,rfl,rfl,by simp,fun k hk hn=>Below.heap_setCell _ _ _ _ (fun e=>hn (by rw[Nj];exact⟨r,.head _,by rw[h,e]⟩))⟩
theorem vQ {α β:Type}{f:α->β}{l:List α}{k:Nat}{b a:α}(hk:l[k]? =some b)(h:f a=f b):(l.set k a).map f=l.map f:=by
 rw[Ox,h];apply Oq;intro j;rw[Ov]
 split
 ·rename_i e
  subst e;rw[Jr,hk];have:=(Jh.1 hk).1;simp[this]
 ·rfl
theorem pY {α:Type}{f:α->List Value}{l:List α}{k:Nat}{b a:α}(hk:l[k]? =some b)(h:f a=f b):(l.set k a).flatMap f=l.flatMap f:=by
 rw[List.flatMap_def,List.flatMap_def,vQ hk h]
section
variable {w:World} {B g i:Nat} {v:Value} {bt:BT} {l:List BT} {rs:List Row} (h:SpSt w B g i v bt l rs)
include h
theorem SpSt.il:i<l.length:=(Jh.1 h.at').1
theorem SpSt.set_at (bt':BT):(l.set i bt')[i]? =some bt':=by rw[Nn h.il]
theorem SpSt.setB {j:Nat}{u:Value}{bt':BT}(c:j<5)(d:(zz bt).set j u=zz bt')(hr:bt'.rows=bt.rows):SpSt (w.setCell ⟨g,i*5+j,none⟩ u) B g i v bt' (l.set i bt') rs:=by
 refine⟨?_,h.set_at bt',h.gb⟩;rw[hr];refine h.rows.put (r':=zd v (l.set i bt')) h.gb (fun k hk=>Below.heap_setCell _ _ _ _ hk) ?_ rfl
 show(w.setCell ⟨g,i*5+j,none⟩ u).ownsRow B 49 5 v (l.set i bt').length ((l.set i bt').flatMap zz)
 rw[Nd];exact yp zX (h.rows.own _ (.head _)) h.gb h.at' c d
theorem SpSt.sub {w':World}{bt':BT}(c:zz bt'=zz bt)(hr:Rows w' B (zd v l::(bt'.rows++rs))):SpSt w' B g i v bt' (l.set i bt') rs:=by
 refine⟨?_,h.set_at bt',h.gb⟩
 have e:zd v (l.set i bt')=zd v l:=by
  unfold zd;rw[Nd,pY h.at' c]
 rw[e];exact hr
theorem SpSt.setO {ob k j:Nat}{u av:Value}{o o':IOp}(hg:bt.ov.ownBlock=some ob)(hk:bt.ops[k]? =some (o,av))(c:j<6)(d:(zU (o,av)).set j u=zU (o',av))(m:o'.args=o.args):
 SpSt (w.setCell ⟨ob,k*6+j,none⟩ u) B g i v {bt with ops:=bt.ops.set k (o',av)} (l.set i {bt with ops:=bt.ops.set k (o',av)}) rs:=by
 have e1:wI (bt.ops.set k (o',av))=wI bt.ops:=vQ hk (by simp only;rw[m]);refine h.sub rfl ?_
 have hp:(zd v l::(bt.rows++rs)).Perm (yo bt.ov bt.ops::(zd v l::zP bt.pv bt.params::xg bt.tv bt.tos::(wI bt.ops++ve bt.tos)++rs)):=by
  classical
  unfold BT.rows;refine Jp.2 fun r=>?_
  simp only[Nb,Nf];omega
 have hq:(yo bt.ov (bt.ops.set k (o',av))::(zd v l::zP bt.pv bt.params::xg bt.tv bt.tos::(wI bt.ops++ve bt.tos)++rs)).Perm (zd v l::(({bt with ops:=bt.ops.set k (o',av)}:BT).rows++rs)):=by
  classical
  unfold BT.rows;simp only;rw[e1];refine Jp.2 fun r=>?_
  simp only[Nb,Nf];omega
 refine((h.rows.perm hp).put (r':=yo bt.ov (bt.ops.set k (o',av))) hg (fun k hk=>Below.heap_setCell _ _ _ _ hk) ?_ rfl).perm hq
 show(w.setCell ⟨ob,k*6+j,none⟩ u).ownsRow B 77 6 bt.ov (bt.ops.set k (o',av)).length _
 rw[Nd];exact yp y7 ((h.rows.perm hp).own _ (.head _)) hg hk c d
theorem SpSt.setE {ob k j:Nat}{u av:Value}{o o':IEdge}(hg:bt.tv.ownBlock=some ob)(hk:bt.tos[k]? =some (o,av))(c:j<2)(d:(za (o,av)).set j u=za (o',av))(m:o'.args=o.args):
 SpSt (w.setCell ⟨ob,k*2+j,none⟩ u) B g i v {bt with tos:=bt.tos.set k (o',av)} (l.set i {bt with tos:=bt.tos.set k (o',av)}) rs:=by
 have e1:ve (bt.tos.set k (o',av))=ve bt.tos:=vQ hk (by simp only;rw[m]);refine h.sub rfl ?_
 have hp:(zd v l::(bt.rows++rs)).Perm (xg bt.tv bt.tos::(zd v l::zP bt.pv bt.params::yo bt.ov bt.ops::(wI bt.ops++ve bt.tos)++rs)):=by
  classical
  unfold BT.rows;refine Jp.2 fun r=>?_
  simp only[Nb,Nf];omega
 have hq:(xg bt.tv (bt.tos.set k (o',av))::(zd v l::zP bt.pv bt.params::yo bt.ov bt.ops::(wI bt.ops++ve bt.tos)++rs)).Perm (zd v l::(({bt with tos:=bt.tos.set k (o',av)}:BT).rows++rs)):=by
  classical
  unfold BT.rows;simp only;rw[e1];refine Jp.2 fun r=>?_
  simp only[Nb,Nf];omega
 refine((h.rows.perm hp).put (r':=xg bt.tv (bt.tos.set k (o',av))) hg (fun k hk=>Below.heap_setCell _ _ _ _ hk) ?_ rfl).perm hq
 show(w.setCell ⟨ob,k*2+j,none⟩ u).ownsRow B 75 2 bt.tv (bt.tos.set k (o',av)).length _
 rw[Nd];exact yp yd ((h.rows.perm hp).own _ (.head _)) hg hk c d
end
theorem tT {α β:Type}(f:α->β){l:List α}{k:Nat}{b:α}(hk:l[k]? =some b):(l.map f).Perm (f b::(l.eraseIdx k).map f):=by
 obtain⟨c,hb⟩:=Jh.1 hk
 have e1:l=l.take k++b::l.drop (k+1):=by
  rw[<-hb,Ue,Qi]
 rw[List.eraseIdx_eq_take_drop_succ]
 conv=>lhs;rw[e1]
 rw[Js,Js,Ql];exact List.perm_middle
theorem rM {α β:Type}(f:α->β){l:List α}{k:Nat}(hk:k<l.length)(a:α):((l.set k a).map f).Perm (f a::(l.eraseIdx k).map f):=by
 have h:=tT f (l:=l.set k a) (k:=k) (b:=a) (by rw[Nn hk]);rw[List.eraseIdx_set_eq] at h;exact h
section
variable {w:World} {B g i:Nat} {v:Value} {bt:BT} {l:List BT} {rs:List Row} (h:SpSt w B g i v bt l rs)
include h
theorem SpSt.growB {w1 w9:World}{r r':Row}{q:List Row}{j:Nat}{u:Value}{bt':BT}(hp:bt.rows.Perm (r::q))(d:L w w1)(hg:w1.grownBy w9 r.blk)(c:w9.ownsRow B r'.e r'.sz r'.v r'.n r'.cs)
 (m:∀k,r'.blk=some k->r.blk=some k∨w.heap.size<=k) (hq:(r'::q).Perm bt'.rows) (o:j<5) (t:(zz bt).set j u=zz bt'):SpSt (w9.setCell ⟨g,i*5+j,none⟩ u) B g i v bt' (l.set i bt') rs:=by
 have h1:(zd v l::(bt.rows++rs)).Perm (r::(zd v l::(q++rs))):=((hp.append_right rs).cons _).trans (List.Perm.swap _ _ _);have h2:=(h.rows.perm h1).grow d hg c m;have h3:Rows w9 B (zd v l::(bt'.rows++rs)):=h2.perm ((List.Perm.swap _ _ _).trans ((hq.append_right rs).cons _));refine⟨?_,h.set_at bt',h.gb⟩;refine h3.put (r':=zd v (l.set i bt')) h.gb (fun k hk=>Below.heap_setCell _ _ _ _ hk) ?_ rfl
 show(w9.setCell ⟨g,i*5+j,none⟩ u).ownsRow B 49 5 v (l.set i bt').length ((l.set i bt').flatMap zz)
 rw[Nd];exact yp zX (h3.own _ (.head _)) h.gb h.at' o t
theorem SpSt.growO {w1 w9:World}{ob k:Nat}{av av':Value}{o:IOp}{x:Int}(c:bt.ov.ownBlock=some ob)(hk:bt.ops[k]? =some (o,av))(m:L w w1)(hg:w1.grownBy w9 av.ownBlock)(d:w9.ownsRow B 3 1 av' (o.args.length+1) (o.args.map zN++ [zN x]))
 (q:∀k,av'.ownBlock=some k->av.ownBlock=some k∨w.heap.size<=k):
 SpSt (w9.setCell ⟨ob,k*6+5,none⟩ av') B g i v {bt with ops:=bt.ops.set k ({o with args:=o.args++ [x]},av')} (l.set i {bt with ops:=bt.ops.set k ({o with args:=o.args++ [x]},av')}) rs:=by
 have j:=(Jh.1 hk).1;have p1:(wI bt.ops).Perm (zP av o.args::(bt.ops.eraseIdx k).map fun o=>zP o.2 o.1.args):=tT (fun o:IOp×Value=>zP o.2 o.1.args) hk;have p2:(wI (bt.ops.set k ({o with args:=o.args++ [x]},av'))).Perm (zP av' (o.args++ [x])::(bt.ops.eraseIdx k).map fun o=>zP o.2 o.1.args):=rM (fun o:IOp×Value=>zP o.2 o.1.args) j ({o with args:=o.args++ [x]},av');refine h.sub rfl ?_;generalize (bt.ops.eraseIdx k).map (fun o=>zP o.2 o.1.args)=E at p1 p2
 classical
 have c1:=Jp.1 p1;have c2:=Jp.1 p2
 have hp:(zd v l::(bt.rows++rs)).Perm (zP av o.args::(yo bt.ov bt.ops::(zd v l::zP bt.pv bt.params::xg bt.tv bt.tos::(E++ve bt.tos)++rs))):=by
  unfold BT.rows;refine Jp.2 fun r=>?_
  have:=c1 r;simp only[Nb,Nf] at this ⊢;omega
 have h2:=(h.rows.perm hp).grow (r':=zP av' (o.args++ [x])) m hg (by
  show w9.ownsRow B 3 1 av' (o.args++ [x]).length ((o.args++ [x]).map zN)
  rw[Jk,Ju,Js]
  exact d) q
 have h3:=h2.perm (List.Perm.swap _ _ _)
 have t:=h3.put (g:=ob) (r':=yo bt.ov (bt.ops.set k ({o with args:=o.args++ [x]},av'))) (w':=w9.setCell ⟨ob,k*6+5,none⟩ av') c (fun k hk=>Below.heap_setCell _ _ _ _ hk) (by
  show(w9.setCell ⟨ob,k*6+5,none⟩ av').ownsRow B 77 6 bt.ov (bt.ops.set k ({o with args:=o.args++ [x]},av')).length _
  rw[Nd]
  exact yp y7 (h3.own _ (.head _)) c hk Zd rfl) rfl
 refine t.perm ?_;unfold BT.rows;refine Jp.2 fun r=>?_
 have:=c2 r;simp only[Nb,Nf] at this ⊢;omega
theorem SpSt.growE {w1 w9:World}{ob k:Nat}{av av':Value}{o:IEdge}{x:Int}(c:bt.tv.ownBlock=some ob)(hk:bt.tos[k]? =some (o,av))(m:L w w1)(hg:w1.grownBy w9 av.ownBlock)(d:w9.ownsRow B 3 1 av' (o.args.length+1) (o.args.map zN++ [zN x]))
 (q:∀k,av'.ownBlock=some k->av.ownBlock=some k∨w.heap.size<=k):
 SpSt (w9.setCell ⟨ob,k*2+1,none⟩ av') B g i v {bt with tos:=bt.tos.set k ({o with args:=o.args++ [x]},av')} (l.set i {bt with tos:=bt.tos.set k ({o with args:=o.args++ [x]},av')}) rs:=by
 have j:=(Jh.1 hk).1;have p1:(ve bt.tos).Perm (zP av o.args::(bt.tos.eraseIdx k).map fun o=>zP o.2 o.1.args):=tT (fun o:IEdge×Value=>zP o.2 o.1.args) hk;have p2:(ve (bt.tos.set k ({o with args:=o.args++ [x]},av'))).Perm (zP av' (o.args++ [x])::(bt.tos.eraseIdx k).map fun o=>zP o.2 o.1.args):=rM (fun o:IEdge×Value=>zP o.2 o.1.args) j ({o with args:=o.args++ [x]},av');refine h.sub rfl ?_;generalize (bt.tos.eraseIdx k).map (fun o=>zP o.2 o.1.args)=E at p1 p2
 classical
 have c1:=Jp.1 p1;have c2:=Jp.1 p2
 have hp:(zd v l::(bt.rows++rs)).Perm (zP av o.args::(xg bt.tv bt.tos::(zd v l::zP bt.pv bt.params::yo bt.ov bt.ops::(wI bt.ops++E)++rs))):=by
  unfold BT.rows;refine Jp.2 fun r=>?_
  have:=c1 r;simp only[Nb,Nf] at this ⊢;omega
 have h2:=(h.rows.perm hp).grow (r':=zP av' (o.args++ [x])) m hg (by
  show w9.ownsRow B 3 1 av' (o.args++ [x]).length ((o.args++ [x]).map zN)
  rw[Jk,Ju,Js]
  exact d) q
 have h3:=h2.perm (List.Perm.swap _ _ _)
 have t:=h3.put (g:=ob) (r':=xg bt.tv (bt.tos.set k ({o with args:=o.args++ [x]},av'))) (w':=w9.setCell ⟨ob,k*2+1,none⟩ av') c (fun k hk=>Below.heap_setCell _ _ _ _ hk) (by
  show(w9.setCell ⟨ob,k*2+1,none⟩ av').ownsRow B 75 2 bt.tv (bt.tos.set k ({o with args:=o.args++ [x]},av')).length _
  rw[Nd]
  exact yp yd (h3.own _ (.head _)) c hk Zd rfl) rfl
 refine t.perm ?_;unfold BT.rows;refine Jp.2 fun r=>?_
 have:=c2 r;simp only[Nb,Nf] at this ⊢;omega
theorem SpSt.cutO {k:Nat}{oa:Option Addr}{n c:Nat}(hv:bt.ov=.slice oa n c)(o:n=bt.ops.length)(hk:k<=bt.ops.length):
 SpSt (w.setCell ⟨g,i*5+1,none⟩ (.slice oa k c)) B g i v {bt with ops:=bt.ops.take k,ov:=.slice oa k c } (l.set i {bt with ops:=bt.ops.take k,ov:=.slice oa k c }) rs:=by
 classical
 subst o
 have e1:wI bt.ops=wI (bt.ops.take k)++wI (bt.ops.drop k):=by
  unfold wI;rw[<-Js,Qi]
 have hp:(zd v l::(bt.rows++rs)).Perm (wI (bt.ops.drop k)++(yo bt.ov bt.ops::(zd v l::zP bt.pv bt.params::xg bt.tv bt.tos::(wI (bt.ops.take k)++ve bt.tos)++rs))):=by
  unfold BT.rows;rw[e1];refine Jp.2 fun r=>?_
  simp only[Nb,Nf];omega
 have h2:=(h.rows.perm hp).right;have ho:=h2.own _ (.head _)
 have h3:Rows w B (yo (.slice oa k c) (bt.ops.take k)::(zd v l::zP bt.pv bt.params::xg bt.tv bt.tos::(wI (bt.ops.take k)++ve bt.tos)++rs)):=by
  refine h2.tail.cons ?_ (fun x e=>?_)
  ·have d:w.ownsRow B 77 6 (.slice oa bt.ops.length c) bt.ops.length (bt.ops.flatMap zU):=by rw[<-hv];exact ho
   have hl:(bt.ops.take k).length=k:=by rw[Oc];omega
   show w.ownsRow B 77 6 (.slice oa k c) (bt.ops.take k).length ((bt.ops.take k).flatMap zU)
   rw[hl];obtain⟨q1,q2⟩:=d;refine⟨by rw[wq zU 6 (fun _=>rfl),hl],?_⟩;rcases q2 with⟨q3,q4⟩|⟨gg,q,cur,q3,q4,q5,q6,q7,q8,q9⟩
   ·left
    injection q3 with z1 z2 z3
    have j:k=0:=Zo;subst z1 z3 j;exact⟨rfl,by simp⟩
   ·injection q3 with z1 z2 z3
    subst z1 z3;refine .inr ⟨gg,c,cur,rfl,q4,q5,by omega,q7,q8,?_⟩
    have e3:(bt.ops.take k).flatMap zU=(bt.ops.flatMap zU).take (k*6):=by
     have e4:((bt.ops.take k).flatMap zU).length=k*6:=by rw[wq zU 6 (fun _=>rfl),hl]
     have e5:=List.take_left (l₁:=(bt.ops.take k).flatMap zU) (l₂:=(bt.ops.drop k).flatMap zU);rw[e4,<-Nx,Qi] at e5;exact e5.symm
    rw[e3,<-q9,List.take_take]
    congr 1
    omega
  ·refine h2.apart (g:=x) ?_;have e2:(Value.slice oa k c).ownBlock=some x:=e
   show bt.ov.ownBlock=some x
   rw[hv]
   cases oa with
   |none=>cases e2
   |some ad=>exact e2
 have m:Rows w B (zd v l::(({bt with ops:=bt.ops.take k,ov:=.slice oa k c }:BT).rows++rs)):=h3.perm (by
  unfold BT.rows;simp only;refine Jp.2 fun r=>?_
  simp only[Nb,Nf]
  omega)
 refine⟨?_,h.set_at _,h.gb⟩;refine m.put (r':=zd v (l.set i {bt with ops:=bt.ops.take k,ov:=.slice oa k c })) h.gb (fun k hk=>Below.heap_setCell _ _ _ _ hk) ?_ rfl
 show(w.setCell ⟨g,i*5+1,none⟩ _).ownsRow B 49 5 v (l.set i _).length ((l.set i _).flatMap zz)
 rw[Nd];exact yp zX (m.own _ (.head _)) h.gb h.at' Zd rfl
end
theorem putO {bt:BT}{rs:List Row}{w:World}{B:Nat}{ob k:Nat}{c:List (IOp×Value)}{x:IOp×Value}{r0:IOp×Value}(d:bt.ov.ownBlock=some ob){ol:List (IOp×Value)}(hr:Rows w B (yo bt.ov ol::rs))(hk:ol[k]? =some r0)(h:c=ol.set k x):
 Rows (w.setCells ob (k*6) (zU x)) B (yo bt.ov c::rs):=by
 subst h;refine hr.put (g:=ob) (r':=yo bt.ov (ol.set k x)) d (fun q hq=>ye ob q hq _ _ _) ?_ rfl
 show(w.setCells ob (k*6) (zU x)).ownsRow B 77 6 bt.ov (ol.set k x).length ((ol.set k x).flatMap zU)
 rw[Nd];exact uZ y7 (hr.own _ (.head _)) d hk x
def spO (what n:Nat)(o:IOp):IOp:=
 match what with
 |0=> {o with code:=(n:Int)/7%30 }
 |1=> {o with res:=(n:Int)/7%40-2 }
 |2=> {o with a:=(n:Int)/7%40-2 }
 |3=> {o with b:=(n:Int)/7%40 }
 |4=> {o with n:=n/7%300 }
 |5=> {o with args:=o.args++ [(n:Int)/7%20]}
 |_=>o
def xh (what n:Nat)(b:IBlk):IBlk:=
 if what<=7 then
  (if b.ops.length=0 then b
   else if what=6 then
    (match b.ops[n%b.ops.length]?,b.ops[n/7%b.ops.length]? with
     |some x,some y=> {b with ops:=(b.ops.set (n%b.ops.length) y).set (n/7%b.ops.length) x }
     |_,_=>b)
   else if what=7 then {b with ops:=b.ops.take (n%b.ops.length)}
   else {b with ops:=wD b.ops (n%b.ops.length) (spO what n)})
 else if what=8 then {b with params:=b.params++ [(n:Int)%40]}
 else if what=9 then {b with term:= {b.term with kind:=(n:Int)%7 }}
 else if what=10 then {b with term:= {b.term with a:=(n:Int)%40-2 }}
 else if what=11 then {b with term:=⟨b.term.kind,b.term.a,wD b.term.to 0 fun e=> {e with block:=(n:Int)%9-1 }⟩}
 else if what=12 then {b with term:=⟨b.term.kind,b.term.a,wD b.term.to (b.term.to.length-1) fun e=> {e with args:=e.args++ [(n:Int)%40]}⟩}
 else b
theorem Chg.refl (w:World)(rs:List Row):Chg w rs w:=⟨rfl,rfl,rfl,Je _,fun _ _ _=>rfl⟩
theorem Chg.trans {w w1 w2:World}{rs:List Row}(h:Chg w rs w1)(k:Chg w1 rs w2):Chg w rs w2:=
 ⟨k.os.trans h.os,k.tape.trans h.tape,k.output.trans h.output,Jn h.size k.size,fun x hx hn=>(k.kept x (Jy hx h.size) hn).trans (h.kept x hx hn)⟩
theorem Chg.below {w w1:World}{rs:List Row}(hb:L w w1):Chg w rs w1:=⟨hb.os,hb.tape,hb.output,hb.size,fun k hk _=>hb.block k hk⟩
theorem uY {w w1:World}{r:Row}(hg:w.grownBy w1 r.blk):Chg w [r] w1:=
 ⟨hg.os,hg.tape,hg.output,hg.size,fun k hk hn=>hg.block k hk (fun e=>hn (Nj.2 ⟨r,.head _,e.symm⟩))⟩
theorem Chg.one {w w1:World}{r:Row}{rs:List Row}(h:Chg w [r] w1)(hr:r∈rs):Chg w rs w1:=h.of fun k hk=>by
 obtain⟨x,c,e⟩:=Nj.1 hk;rw[Jo] at c;subst c;exact Nj.2 ⟨_,hr,e⟩
end Go.Proofs.Ytojclalkfhoooaa
set_option maxRecDepth 100000
namespace Go.Proofs.Ytojclalkfhoooaa
open Go.ChangeShapes Go.WideShapes Go.ChangeAt Go.RowKit
theorem jd {w:World}{a:Addr}{v:Value}(h:w.cell? a=some v):a.spot=none:=by
 unfold World.cell? at h
 split at h
 ·split at h
  ·simp at h
  ·rename_i h2;simpa using h2
 ·simp at h
theorem aeI (b o k:Nat):(⟨b,o,none⟩:Addr).add k=⟨b,o+k,none⟩:=by
 unfold Addr.add;split
 ·rename_i h;subst h;rfl
 ·rfl
theorem fP {α:Type}{P:Program}{H:Type}{enc:TypeId×Value->H}{W:World}{fuel:Nat}{u:Value}{x:DataW H×List MemPlace}{t e:TypeId}{q:IntKind}(w:P.underlying t=some (.slice e))(he:P.underlying e=some (.int q))(c1:P.cellsOf e=1)
 (R:World->Nat->Nat->Nat->α->Prop) (h:Int->α) (hR:∀b o z,(Lit.int q z).wf=true->T W b o (.int q z)->R W W.heap.size b o (h z))
 (hf:DataW.trod enc P W 0 (fun _=>true) true fuel t [u]=some x):∃row:List α,yN 1 R W W.heap.size u row:=by
 rcases open_ints w he c1 hf with⟨h1,_⟩|⟨a,len,r,zs,h1,hb,hl,hm,d,_,c,i⟩
 ·simp at h1;subst h1;exact⟨[],yN.nil⟩
 ·simp at h1;subst h1;simp only[if_true] at d;refine⟨(zs.take len).map h,some a,r,by simp[d,Ud hl],by simp[d];omega,by unfold maxLen at hm;omega,fun k y hk=>?_⟩;have l:=(Jh.1 hk).1;simp[d] at l;rw[Jr,Ug,if_pos Zo,Jd Zo] at hk;have j:=Nt hk;have g:=c k Zo;have hs:=jd (c 0 Zo)
  have m:a=⟨a.block,a.off,none⟩:=by
   cases a;simp[Addr.add] at hs;simp[hs]
  rw[m,aeI] at g;rw[Jj,Jd Zo,Ot] at g;refine⟨a.block,a.off,by rw[<-m],jU g,?_⟩;rw[<-j,Nk];exact hR _ _ _ (i _ (Uf Zo)) g
section
variable {H:Type} {enc:TypeId×Value->H} {W:World} {fuel:Nat} {u:Value} {x:DataW H×List MemPlace}
theorem iR (hf:DataW.trod enc Try.prog W 0 (fun _=>true) true fuel 22 [u]=some x):∃row:List Int,zY W W.heap.size u row:=
 fP Try.underlying22 Try.underlying3 Zk IntR id (fun b o z hz hc=>⟨hc,by unfold I64;simpa[Lit.wf,IntKind.min,IntKind.max,IntKind.signed,IntKind.bits] using hz⟩) hf
theorem bytes_at (hf:DataW.trod enc Try.prog W 0 (fun _=>true) true fuel 37 [u]=some x):∃row:List Nat,dL W W.heap.size u row:=
 fP Try.underlying37 Try.underlying5 Zk U8R Int.toNat (fun b o z hz hc=>by
  have h:0<=z/\z<=255:=by simpa[Lit.wf,IntKind.min,IntKind.max,IntKind.signed,IntKind.bits] using hz
  exact⟨by rw[hc,Oa h.1],by omega⟩) hf
theorem words_at (hf:DataW.trod enc Try.prog W 0 (fun _=>true) true fuel 36 [u]=some x):∃row:List Nat,wV W W.heap.size u row:=
 fP Try.underlying36 Try.underlying39 Zk U16R Int.toNat (fun b o z hz hc=>by
  have h:0<=z/\z<=65535:=by simpa[Lit.wf,IntKind.min,IntKind.max,IntKind.signed,IntKind.bits] using hz
  exact⟨by rw[hc,Oa h.1],by omega⟩) hf
end
section
variable {H:Type} {enc:TypeId×Value->H} {W:World} {v:Value} {d:DataW H} {p:List MemPlace} {r:Go.Reach} {base:Nat}
theorem iX (hv:Value.okWide Try.prog W r base 22 v)(g:DataW.Trod enc Try.prog W 0 (fun _=>true) true 22 v d p):∃row:List Int,zY W W.heap.size v row:=by
 obtain⟨a0,c,h,rfl⟩:=okWide_slice Try.underlying22 hv;obtain⟨fuel,hf⟩:=g;exact iR hf
end
end Go.Proofs.Ytojclalkfhoooaa
