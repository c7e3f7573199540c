/- Part of a proof. -/
import Derived.Test.YtojclalkfhoooaaGISmall
set_option linter.all false
set_option maxHeartbeats 4000000
set_option maxRecDepth 100000
namespace Go.Proofs.Ytojclalkfhoooaa
open Go.RowKit
variable {W w w' w1 w3:World}{c g i k:Nat}{xs:List Int}{X X':Nat->Prop}{o:Obj}{M M':MS}{vv:Value}
theorem tu{B:Nat}{V:PV}{p:IProg}(hp:ProgIn w B V p)(hB:B<=w.heap.size)(hs:∀f∈p.funcs,vZ f):
 G 20 #[yH V p] w (m9 w (vC p)):=by
 have d:∀W,L w W->G 46 #[yH V p] W (m9 W (sR p)):=fun W hb=>kB ((hp.below (hb.mono hB)).mono (Jn hB hb.size))
 have k:∀W n,L w W->sR p=0->n<p.funcs.length->G 47 #[yH V p,O n] W (ym W (yi p n)):=fun W n hb h0 hn=>by
  obtain⟨_,h1,h2,_⟩:=se h0;exact nA (hp.below (hb.mono hB)) (Jn hB hb.size) h1 h2 hs hn
 obtain⟨Vf,Va,Vd,Vb⟩:=V;obtain⟨f1,f2,e1,_,_⟩:=hp.funcs.form;obtain⟨a1,a2,e2,_,_⟩:=hp.args.form;obtain⟨d1,d2,e3,_,_⟩:=hp.data.form;obtain⟨b1,b2,e4,_,_⟩:=hp.banks.form;simp only at e1 e2 e3 e4;subst e1 e2 e3 e4;have b4:p.funcs.length<=9223372036854775807:=Zo;unfold yH at d k ⊢;simp only at d k ⊢;have HH:=Ja d;have HF:=Ja k;have a7:L w (w.alloc (A (P p f1 f2 a1 a2 d1 d2 b1 b2) 29)):=(Below.refl _ _).alloc (Je _) _;have c:=zI (W:=w) (o:=A (P p f1 f2 a1 a2 d1 d2 b1 b2) 29) rfl;obtain⟨res,r⟩:∃x,vC p=x:=⟨_,rfl⟩
 rw[r];have t:=Ja r;obtain⟨eh,a3⟩:∃x,sR p=x:=⟨_,rfl⟩
 rw[a3] at HH;have m:=Ja a3;clear hp hB hs d k r a3;go_enter Try.func20,Try.ntmps20;go_upto_region 1 with fail;generalize b3:w.alloc (A (P p f1 f2 a1 a2 d1 d2 b1 b2) 29)=W0 at *;have y0:=K0 c;have y1:=K1 c;have y2:=K2 c;have y3:=K3 c;have y4:=K4 c;have y5:=K5 c;have H0:=Ja (show L w W0/\Y W0 w.heap.size (P p f1 f2 a1 a2 d1 d2 b1 b2) 29 from⟨a7,c⟩);clear a7 c b3;go_upto_region 2 with(first|(go_at_call 46;go_must (refine(HH.out _ H0.out.1).mono ?_;rintro e w1 ⟨rfl,a4⟩))|go_in)
 have j:=Ja (show L w w1/\Y w1 w.heap.size (P p f1 f2 a1 a2 d1 d2 b1 b2) 29 from⟨H0.out.1.trans (a4.mono H0.out.1.size),zH a4 H0.out.2 (lt_of_block H0.out.2)⟩);clear a4 y0 y1 y2 y3 y4 y5
 by_cases hz:eh=0
 ·subst hz;have y0:=K0 j.out.2;go_wp2
  go_loopw [13] (fun iv wx=>∃i:Nat,i<=p.funcs.length/\iv=O i/\Hid (L w1 wx/\∀n,n<i->yi p n=true)) (fun iv _=>p.funcs.length-(intOf iv).toNat)
  case atStart=>exact⟨0,Jt _,rfl,Ja ⟨Below.refl _ _,fun n hn=>by omega⟩⟩
  case round=>
   obtain⟨i,hi,rfl,l⟩:=hrel
   by_cases u:i<p.funcs.length
   ·have a9:(i:Int)<p.funcs.length:=Zo;have a0:=Ja u;have g:=zH l.out.1 j.out.2 (lt_of_block j.out.2);have z0:=K0 g;have z1:=K1 g;have z2:=K2 g;have z3:=K3 g;have z4:=K4 g;have z5:=K5 g;have a6:=Ja (HF.out wr i (j.out.1.trans (l.out.1.mono j.out.1.size)) m.out u);obtain⟨q,hq⟩:∃q,yi p i=q:=⟨_,rfl⟩
    rw[hq] at a6;have HQ:=Ja hq;clear hq g u y0
    cases q with
    |false=>
     go_wp2_with (first|(go_at_call 47;go_must (refine a6.out.mono ?_;rintro e w2 ⟨rfl,y⟩))|go_in)
     go_ret
     have hr:res=51:=by
      rw[<-t.out];unfold vC;rw[if_neg (by rw[m.out];simp),if_neg];intro b0;have:=Oe.1 b0 i (Ol.2 a0.out);rw[HQ.out] at this;cases this
     exact⟨zh hr.symm,j.out.1.trans ((l.out.1.trans (y.mono l.out.1.size)).mono j.out.1.size)⟩
    |true=>
     go_wp2_with (first|(go_at_call 47;go_must (refine a6.out.mono ?_;rintro e w2 ⟨rfl,y⟩))|go_in)
     have a5:=Ja (show L w1 w2/\∀n,n<i+1->yi p n=true from⟨l.out.1.trans (y.mono l.out.1.size),fun n hn=>by
      rcases Nat.lt_succ_iff_lt_or_eq.1 hn with h|rfl
      ·exact l.out.2 n h
      ·exact HQ.out⟩)
     clear y;go_roundw
     case rel=>first|exact⟨i+1,a0.out,by go_num,a5⟩|((repeat apply Exists.intro);exact⟨⟨i+1,a0.out,by go_num,a5⟩,rfl⟩)
     case measure=>have:=a0.out;simp[intOf];omega
   ·obtain rfl:i=p.funcs.length:=by omega
    have a9:¬(p.funcs.length:Int)<p.funcs.length:=Zo
    have hr:=Ja (show res=0 by
     rw[<-t.out];unfold vC;rw[if_neg (by rw[m.out];simp),if_pos]
     exact Oe.2 fun n hn=>l.out.2 n (Ol.1 hn))
    clear u y0;go_wp2;go_ret;exact⟨zh hr.out.symm,j.out.1.trans (l.out.1.mono j.out.1.size)⟩
 ·have t1:(eh !=0)=true:=by rw[bne_iff_ne];exact hz
  have hr:=Ja (show res=eh by
   rw[<-t.out];unfold vC
   rw[if_pos (by rw[m.out];exact hz),m.out])
  clear hz;go_wp2;go_ret;exact⟨zh hr.out.symm,j.out.1⟩
def sV:IRun:=⟨0,[],0,0,[],0,0⟩
def io (p:IProg)(f:Int)(args:List Nat):Bool:=decide (vC p=0) && decide (0<=f) && decide (f<p.funcs.length) && decide ((args.length:Int)=p.args.getD f.toNat 0)
def i9 (E:IEnv)(f:Int)(args:List Nat)(s:ByteArray)(fuel:Int):IRun:=if io E.p f args then bQ E f args s fuel else sV
def mW (p:IProg):Prop:=∀f∈p.funcs,vZ f/\∀b∈f,b.params.length<=65536
theorem dX:aeF sV (F)=.agg #[U 0,F,O 0,U 0,.string ⟨#[]⟩,O 0,O 0]:=by kernel_rfl
theorem bJ:∀a b c d:Bool,(a && b && c && d)=false->(a=false)∨(a=true/\b=false)∨(a=true/\b=true/\c=false)∨(a=true/\b=true/\c=true/\d=false)
 |false,_,_,_,_=> .inl rfl
 |true,false,_,_,_=> .inr (.inl ⟨rfl,rfl⟩)
 |true,true,false,_,_=> .inr (.inr (.inl ⟨rfl,rfl,rfl⟩))
 |true,true,true,false,_=> .inr (.inr (.inr ⟨rfl,rfl,rfl,rfl⟩))
theorem iV{V:PV}{p:IProg}(hp:ProgIn w w.heap.size V p)(hs:mW p)(f:Int)(b7:I64 f){args:List Nat}{av:Value}(ha:wV w w.heap.size av args)(s:ByteArray)
 {inv irqv:Value} {inn irq:List Nat} (a6:wV w w.heap.size inv inn) (a5:dL w w.heap.size irqv irq) (fuel:Int) (l:io p f args=false):
 G 23 #[sZ V p,O f,av,.string s,.agg #[inv,irqv],O fuel] w (abr w sV):=by
 have hV:∀W,L w W->G 20 #[sZ V p] W (m9 W (vC p)):=fun W hb=>tu ((hp.below hb).mono hb.size) (Je _) (fun f hf=>(hs f hf).1)
 have a0:vC p=0->p.args.length=p.funcs.length:=fun h=>(se (rz h).1).2.1
 obtain⟨Vf,Va,Vd,Vb⟩:=V;have t:=hp.args;obtain⟨f1,f2,e1,_,_⟩:=hp.funcs.form;obtain⟨a1,a2,e2,_,_⟩:=hp.args.form;obtain⟨d1,d2,e3,_,_⟩:=hp.data.form;obtain⟨b1,b2,e4,_,_⟩:=hp.banks.form;obtain⟨v1,v2,rfl,_,_⟩:=ha.form;obtain⟨i1,i2,rfl,_,_⟩:=a6.form;obtain⟨q1,q2,rfl,_,_⟩:=a5.form;simp only at e1 e2 e3 e4 t;subst e1 e2 e3 e4;unfold sZ at hV ⊢;simp only at hV ⊢;have c2:p.funcs.length<=9223372036854775807:=Zo;have b8:args.length<=9223372036854775807:=Zo;unfold io at l;obtain⟨x1,h1⟩:∃q,decide (vC p=0)=q:=⟨_,rfl⟩
 obtain⟨x2,h2⟩:∃q,decide (0<=f)=q:=⟨_,rfl⟩
 obtain⟨x3,h3⟩:∃q,decide (f<p.funcs.length)=q:=⟨_,rfl⟩
 obtain⟨x4,h4⟩:∃q,decide ((args.length:Int)=p.args.getD f.toNat 0)=q:=⟨_,rfl⟩
 rw[h1,h2,h3,h4] at l;obtain⟨vp,a4⟩:∃x,vC p=x:=⟨_,rfl⟩
 rw[a4] at hV h1 a0;have t1:(vp !=0)=!x1:=by rw[bne,vg h1]
 have t2:decide (f<0)=!x2:=by rw[<-h2];by_cases h:0<=f<;>simp[h]<;>omega
 have t3:decide ((p.funcs.length:Int)<=f)=!x3:=by rw[<-h3];by_cases h:f<p.funcs.length<;>simp[h]<;>omega
 have HV:=Ja hV;have b4:=bJ x1 x2 x3 x4 l;have o:L w (((w.alloc (A (P p f1 f2 a1 a2 d1 d2 b1 b2) 29)).alloc (A #[.slice i1 inn.length i2,.slice q1 irq.length q2] 61)).alloc (A #[U 0,F,O 0,U 0,.string ⟨#[]⟩,O 0,O 0] 57)):=(((Below.refl _ _).alloc (Je _) _).alloc Zs _).alloc Zt _;have d:Y (((w.alloc (A (P p f1 f2 a1 a2 d1 d2 b1 b2) 29)).alloc (A #[.slice i1 inn.length i2,.slice q1 irq.length q2] 61)).alloc (A #[U 0,F,O 0,U 0,.string ⟨#[]⟩,O 0,O 0] 57)) w.heap.size (P p f1 f2 a1 a2 d1 d2 b1 b2) 29:=zB (zB (zI rfl));have m:Y (((w.alloc (A (P p f1 f2 a1 a2 d1 d2 b1 b2) 29)).alloc (A #[.slice i1 inn.length i2,.slice q1 irq.length q2] 61)).alloc (A #[U 0,F,O 0,U 0,.string ⟨#[]⟩,O 0,O 0] 57)) (w.heap.size+1+1) #[U 0,F,O 0,U 0,.string ⟨#[]⟩,O 0,O 0] 57:=zI Zs;have b5:=Ja (show zY w w.heap.size (.slice a1 p.args.length a2) p.args from t);have b0:=Ja (show x1=true->p.args.length=p.funcs.length from fun h=>a0 (of_decide_eq_true (h1.trans h)));clear hp hs ha a6 a5 hV a0 t l h1 a4;rcases b4 with rfl|⟨rfl,rfl⟩|⟨rfl,rfl,rfl⟩|⟨rfl,rfl,rfl,rfl⟩
 case inr.inr.inr=>
  obtain⟨k,rfl⟩:∃k:Nat,f=(k:Int):=⟨f.toNat,by have:=of_decide_eq_true h2;omega⟩
  have c0:(k:Int)<p.funcs.length:=of_decide_eq_true h3;obtain⟨x,hx⟩:∃x,p.args[k]? =some x:=⟨_,Jd (by have:=b0.out rfl;omega)⟩
  obtain⟨ba,oa,rfl,a7,u,_⟩:=b5.out.get hx;rw[Nk] at u;have b6:(k:Int)<p.args.length:=by have:=b0.out rfl;omega
  have c3:decide (p.funcs.length<=k)=false:=by rw[decide_eq_false_iff_not];omega
  have t4:((args.length:Int) !=x)=true:=by
   rw[Ni,Jj,hx,Ot] at h4;rw[bne,vg h4];rfl
  have a9:=Ja (Jb a7 u);clear h2 h3 h4 hx a7 u
  go_enter_defers Try.func23,Try.ntmps23
  go_upto_region 1 with fail;generalize a3:((w.alloc (A (P p f1 f2 (some ⟨ba,oa,none⟩) a2 d1 d2 b1 b2) 29)).alloc (A #[.slice i1 inn.length i2,.slice q1 irq.length q2] 61)).alloc (A #[U 0,F,O 0,U 0,.string ⟨#[]⟩,O 0,O 0] 57)=W0 at *;have g:=Ja (Jb o (Jb d m));have p0:=K0 d;have p1:=K1 d;have p2:=K2 d;have p3:=K3 d;have p4:=K4 d;have p5:=K5 d;clear o d m a3;go_wp2_with (go_at_call 20;go_must (refine(HV.out _ g.out.1).mono ?_;rintro e W1 ⟨rfl,i⟩;have j:=zH i g.out.2.1 (lt_of_block g.out.2.1);have c:=zH i g.out.2.2 (lt_of_block g.out.2.2);have q0:=K0 j;have b3:=K1 j;have r0:=K0 c;have s0:N W1 (w.heap.size+1+1) 0:=zE c;have r1:=K1 c;have s1:N W1 (w.heap.size+1+1) 1:=zE c;have r2:=K2 c;have s2:N W1 (w.heap.size+1+1) 2:=zE c;have r3:=K3 c;have s3:N W1 (w.heap.size+1+1) 3:=zE c;have r4:=K4 c;have s4:N W1 (w.heap.size+1+1) 4:=zE c;have r5:=K5 c;have s5:N W1 (w.heap.size+1+1) 5:=zE c;have r6:=K6 c;have s6:N W1 (w.heap.size+1+1) 6:=zE c;have r:=Ja (g.out.1.trans (i.mono g.out.1.size));have b9:=zV r.out a9.out.1 a9.out.2;clear i j c))
  have y:=((((((r.out.setCell (p:=⟨w.heap.size+1+1,0,none⟩) Zt (U 0)).setCell (p:=⟨w.heap.size+1+1,1,none⟩) Zt (F)).setCell (p:=⟨w.heap.size+1+1,2,none⟩) Zt (O 0)).setCell (p:=⟨w.heap.size+1+1,3,none⟩) Zt (U 0)).setCell (p:=⟨w.heap.size+1+1,4,none⟩) Zt (.string ⟨#[]⟩)).setCell (p:=⟨w.heap.size+1+1,5,none⟩) Zt (O 0)).setCell (p:=⟨w.heap.size+1+1,6,none⟩) Zt (O 0);refine⟨.agg #[U 0,F,O 0,U 0,.string ⟨#[]⟩,O 0,O 0],?_,F,by rw[dX],⟨none,0,rfl,Je _,by omega,fun k x hk=>by simp[sV] at hk⟩,y⟩;rw[zM rfl];go_simp
 all_goals clear h4
 all_goals (
  go_enter_defers Try.func23,Try.ntmps23
  go_upto_region 1 with fail;generalize a3:((w.alloc (A (P p f1 f2 a1 a2 d1 d2 b1 b2) 29)).alloc (A #[.slice i1 inn.length i2,.slice q1 irq.length q2] 61)).alloc (A #[U 0,F,O 0,U 0,.string ⟨#[]⟩,O 0,O 0] 57)=W0 at *;have g:=Ja (Jb o (Jb d m));have p0:=K0 d;have p1:=K1 d;have p2:=K2 d;have p3:=K3 d;have p4:=K4 d;have p5:=K5 d;clear o d m a3;go_wp2_with (go_at_call 20;go_must (refine(HV.out _ g.out.1).mono ?_;rintro e W1 ⟨rfl,i⟩;have j:=zH i g.out.2.1 (lt_of_block g.out.2.1);have c:=zH i g.out.2.2 (lt_of_block g.out.2.2);have q0:=K0 j;have b3:=K1 j;have r0:=K0 c;have s0:N W1 (w.heap.size+1+1) 0:=zE c;have r1:=K1 c;have s1:N W1 (w.heap.size+1+1) 1:=zE c;have r2:=K2 c;have s2:N W1 (w.heap.size+1+1) 2:=zE c;have r3:=K3 c;have s3:N W1 (w.heap.size+1+1) 3:=zE c;have r4:=K4 c;have s4:N W1 (w.heap.size+1+1) 4:=zE c;have r5:=K5 c;have s5:N W1 (w.heap.size+1+1) 5:=zE c;have r6:=K6 c;have s6:N W1 (w.heap.size+1+1) 6:=zE c;have r:=Ja (g.out.1.trans (i.mono g.out.1.size));clear i j c))
  have y:=((((((r.out.setCell (p:=⟨w.heap.size+1+1,0,none⟩) Zt (U 0)).setCell (p:=⟨w.heap.size+1+1,1,none⟩) Zt (F)).setCell (p:=⟨w.heap.size+1+1,2,none⟩) Zt (O 0)).setCell (p:=⟨w.heap.size+1+1,3,none⟩) Zt (U 0)).setCell (p:=⟨w.heap.size+1+1,4,none⟩) Zt (.string ⟨#[]⟩)).setCell (p:=⟨w.heap.size+1+1,5,none⟩) Zt (O 0)).setCell (p:=⟨w.heap.size+1+1,6,none⟩) Zt (O 0);refine⟨.agg #[U 0,F,O 0,U 0,.string ⟨#[]⟩,O 0,O 0],?_,F,by rw[dX],⟨none,0,rfl,Je _,by omega,fun k x hk=>by simp[sV] at hk⟩,y⟩;rw[zM rfl]
  go_simp)
theorem mX{V:PV}{p:IProg}(hp:ProgIn w w.heap.size V p)(hs:mW p)(f:Int)(g:I64 f){args:List Nat}{av:Value}(m:wV w w.heap.size av args)(s:ByteArray)(i:s.size<=9223372036854775807)
 {inv irqv:Value} {inn irq:List Nat} (d:wV w w.heap.size inv inn) (c:dL w w.heap.size irqv irq) (fuel:Int) (k:I64 fuel) (l:fuel.toNat<=4000000):
 G 23 #[yH V p,O f,av,.string s,.agg #[inv,irqv],O fuel] w (abr w (i9 ⟨p,inn,irq⟩ f args s fuel)):=by
 unfold i9
 cases h:io p f args with
 |false=>exact iV hp hs f g m s d c fuel h
 |true=>
  unfold io at h;simp only[Jm,decide_eq_true_eq] at h;obtain⟨⟨⟨h1,h2⟩,h3⟩,o⟩:=h;have j:=jM h1 (fun f hf b hb=>(hs f hf).2 b hb)
  have q:(if io p f args=true then bQ ⟨p,inn,irq⟩ f args s fuel else sV)=bQ ⟨p,inn,irq⟩ f args s fuel:=by
   rw[if_pos];unfold io;simp only[Jm,decide_eq_true_eq];exact⟨⟨⟨h1,h2⟩,h3⟩,o⟩
  refine eval_ok hp j (fun W hb=>?_) f ⟨h2,by omega⟩ m o s i d c fuel k l;have:=tu ((hp.below hb).mono hb.size) (Je _) (fun f hf=>(hs f hf).1);rw[h1] at this;exact this
def ed (s:Nat):Nat:=(s*1664525+1013904223)%4294967296
def gx (s:Nat):Nat->Nat
 |0=>s
 |k+1=>ed (gx s k)
def gF (s k:Nat):Nat:=gx s (k+1)/16777216
def gD (s n:Nat):List Nat:=(List.range n).map (gF s)
theorem nextS_lt (s:Nat):ed s<4294967296:=Qj _ Zd
theorem eT {s:Nat}(h:s<4294967296):∀k,gx s k<4294967296
 |0=>h
 |k+1=>nextS_lt _
theorem gT (s n:Nat):(gD s n).length=n:=by simp[gD]
def aaU (s n k:Nat):List Nat:=(List.range n).map fun j=>if j<k then gF s j else 0
theorem gz (s n:Nat):aaU s n 0=List.replicate n 0:=by
 apply Oq;intro j;unfold aaU;rw[Jr,Nm]
 by_cases h:j<n
 ·rw[Oh h,if_pos h];rfl
 ·rw[Of (by simpa using h),if_neg h];rfl
theorem gt (s n:Nat):aaU s n n=gD s n:=by
 unfold aaU gD;exact Up fun j hj=>if_pos (Ol.1 hj)
theorem gG (s n k:Nat):(aaU s n k).length=n:=by simp[aaU]
theorem fL(s n:Nat)(h:k<n):(aaU s n k).set k (gF s k)=aaU s n (k+1):=by
 apply Oq;intro j;rw[Ov,gG];unfold aaU;rw[Jr,Jr]
 by_cases e:k=j
 ·subst e;rw[if_pos rfl,if_pos h,Oh h]
  show some _=some (if k<k+1 then gF s k else 0)
  rw[if_pos Zo]
 ·rw[if_neg e]
  by_cases c:j<n
  ·rw[Oh c]
   show some (if j<k then gF s j else 0)=some (if j<k+1 then gF s j else 0)
   by_cases h2:j<k
   ·rw[if_pos h2,if_pos Zo]
   ·rw[if_neg h2,if_neg Zo]
  ·rw[Of (by simpa using c)];rfl
theorem pN{b n:Nat}{l:List Nat}(h:Y w b (l.map wz).toArray 5)(hl:l.length=n):
 (convert 37 9 (Q b n n)).run Try.prog w=.ok (.string (y9 l)) w:=by
 refine run_convert_bytes_arg w 37 5 Try.underlying37 Try.underlying5 b 0 n n (l.map fun(n:Nat)=>(n:Int)) (by simpa using hl) (fun i hi=>?_) 9 Try.underlying9;rw[Ng];have c:i<l.length:=Zo;refine zA h ?_;simp[Jj,Jd c,wz]
def aap (w:World)(s:ByteArray)(e:Ending)(w':World):Prop:=e=.returned (.string s)/\L w w'
theorem eR (w:World)(s n:Nat)(hs:s<4294967296)(r:n<=1000000):G 33 #[.int .u32 (s:Int),O n] w (aap w (y9 (gD s n))):=by
 have u:=run_make_row' (P:=Try.prog) 37 5 (.int .u8 0) 1 Try.underlying37 Try.info_u8 rfl .i64 .i64 n Zo Zo
 have m:∀(ts:Array TypeId) (t:TypeId) (W:World),(Builtin.max_ ts t #[O 0,O n]).run Try.prog W=.ok (O n) W:=fun ts t W=>by
  rw[run_max_int2]
  split
  ·rfl
  ·have:n=0:=Zo;subst this;rfl
 have a3:n<=9223372036854775807:=Zo;have HN:=Ja (Jb hs r)
 have l:Y (w.alloc (A (madeCells #[.int .u8 0] n) 5)) w.heap.size ((aaU s n 0).map wz).toArray 5:=by
  rw[zI rfl,yA,gz,List.map_replicate];rfl
 have j:L w (w.alloc (A (madeCells #[.int .u8 0] n) 5)):=(Below.refl _ _).alloc (Je _) _;have a2:(w.alloc (A (madeCells #[.int .u8 0] n) 5)).heap.size=w.heap.size+1:=by simp
 clear hs r;go_enter Try.func33,Try.ntmps33;go_upto_region 2 with fail;generalize a1:w.alloc (A (madeCells #[.int .u8 0] n) 5)=W0 at *;generalize a0:w.heap.size=bb at *;have H0:=Ja (Jb l j);clear l j a1 u m;go_wp2
 go_loopw [0,6] (fun sv kv wx=>∃(k z:Nat),k<=n/\sv=.int .u32 (z:Int)/\kv=O k/\Hid (z=gx s k/\Y wx bb ((aaU s n k).map wz).toArray 5/\Below bb w wx)) (fun _ kv _=>n-(intOf kv).toNat)
 case atStart=>exact⟨0,s,Jt _,rfl,rfl,Ja ⟨rfl,H0.out.1,H0.out.2⟩⟩
 case round=>
  obtain⟨k,z,hk,rfl,rfl,c⟩:=hrel
  by_cases g:k<n
  ·have o:(k:Int)<n:=Zo;have h:=Ja g;have hz:z<4294967296:=by rw[c.out.1];exact eT HN.out.1 k
   obtain⟨x,q⟩:∃x,(aaU s n k)[k]? =some x:=⟨_,Jd (by rw[gG];exact g)⟩
   have cx:T wr bb k (.int .u8 (x:Int)):=zA c.out.2.1 (by simp[q,wz]);have fx:N wr bb k:=zE c.out.2.1;clear g q;go_wp2;have e1:((z:Int)*1664525%4294967296+1013904223)%4294967296=((ed z:Nat):Int):=by unfold ed;omega
   have e2:((z:Int)*1664525+1013904223)%4294967296/16777216=((ed z/16777216:Nat):Int):=by unfold ed;omega
   have i:ed z=gx s (k+1):=by rw[c.out.1];rfl
   have y:ed z/16777216=gF s k:=by rw[i];rfl
   rw[e1,e2];refine⟨⟨k+1,ed z,h.out,rfl,by go_num,Ja ⟨i,?_,c.out.2.2.setCell Zs _⟩⟩,by have:=h.out;simp[intOf];omega⟩;rw[zD c.out.2.1,y,<-fL s n h.out];simp[Ox,wz]
  ·obtain rfl:k=n:=by omega
   have o:¬(k:Int)<k:=Zo;have d:=c.out.2.1;rw[gt] at d;have a4:=pN d (gT s k);have HC:=Ja c.out.2.2;clear g d;go_wp2;go_ret;exact⟨rfl,by rw[a0];exact HC.out⟩
theorem uB {α:Type}(f:α->List Value)(n:Nat)(hf:∀a,(f a).length=n):∀(l:List α) (k:Nat) (a:α),l[k]? =some a->∀j,j<n->(l.flatMap f)[k*n+j]? =(f a)[j]?
 | [],k,a,hk,_,_=>by simp at hk
 |x::l,0,a,hk,j,hj=>by
  cases hk
  rw[Qa,Nat.zero_mul,Ng,Np (by rw[hf];exact hj)]
 |x::l,k+1,a,hk,j,hj=>by
  rw[Qa,Nc (by rw[hf,Nat.add_mul];omega),hf];have e:(k+1)*n+j-n=k*n+j:=by rw[Nat.add_mul];omega
  rw[e];exact uB f n hf l k a (by simpa using hk) j hj
theorem oW{α:Type}{f:α->List Value}{n:Nat}(hf:∀a,(f a).length=n){b:Nat}{l:List α}{e:TypeId}(h:Y w b (l.flatMap f).toArray e){a:α}(hk:l[k]? =some a){j:Nat}{v:Value}(d:(f a)[j]? =some v):
 T w b (0+k*n+j) v:=by
 refine zA h ?_;have c:j<n:=by rw[<-hf a];exact(Jh.1 d).1
 rw[Ng,List.getElem?_toArray,uB f n hf l k a hk j c];exact d
def zU (q:IOp×Value):List Value:=[O q.1.code,O q.1.res,O q.1.a,O q.1.b,U (q.1.n:Int),q.2]
theorem ops_lit{B b:Nat}{l:List (IOp×Value)}{e:TypeId}(h:Y w b (l.flatMap zU).toArray e)(hb:b<B)(h64:∀q∈l,qN q.1/\zY w B q.2 q.1.args)(hl:l.length<=1000000):
 mN w B (Q b l.length l.length) (l.map (·.1)):=by
 refine⟨_,l.length,by rw[Nr],by rw[Nr];exact Je _,by omega,fun k o hk=>?_⟩;rw[Jr,Oz] at hk;obtain⟨q,hq,rfl⟩:=hk;have c:=fun j v (hj:(zU q)[j]? =some v)=>oW (f:=zU) (n:=6) (fun _=>rfl) h hq hj
 obtain⟨h1,h2⟩:=h64 q (Ji hq);exact⟨b,0,rfl,hb,c 0 _ rfl,c 1 _ rfl,c 2 _ rfl,c 3 _ rfl,c 4 _ rfl,h1,q.2,c 5 _ rfl,h2⟩
def za (q:IEdge×Value):List Value:=[O q.1.block,q.2]
theorem acC{α:Type}{R:World->Nat->Nat->Nat->α->Prop}{B b:Nat}{vs:List Value}{xs:List α}{e:TypeId}(h:Y w b vs.toArray e)(hb:b<B)(c:vs.length=xs.length)(hl:xs.length<=1000000)
 (d:∀(k:Nat) (v:Value) (x:α),vs[k]? =some v->xs[k]? =some x->T w b k v->R w B b k x):yN 1 R w B (Q b xs.length xs.length) xs:=by
 refine⟨_,xs.length,rfl,Je _,by omega,fun k x hk=>⟨b,0,rfl,hb,?_⟩⟩;obtain⟨v,hv⟩:∃v,vs[k]? =some v:=⟨_,Jd (by rw[c];exact(Jh.1 hk).1)⟩
 rw[Ng,Nk];exact d k v x hv hk (zA h (by simpa using hv))
theorem acW{B b:Nat}{xs:List Nat}{e:TypeId}(h:Y w b (xs.map fun(x:Nat)=>U x).toArray e)(hb:b<B)(h64:∀x∈xs,x<65536)(hl:xs.length<=1000000):wV w B (Q b xs.length xs.length) xs:=
 acC h hb Zs hl (fun k v x hv hx hc=>by
  rw[Jr,hx] at hv;cases hv
  exact⟨hc,h64 x (Ji hx)⟩)
def RetProgO (w:World)(p:IProg)(e:Ending)(w':World):Prop:=
 ∃f1 f2 a1 a2 d1 d2 b1 b2,e=.returned (.agg (P p f1 f2 a1 a2 d1 d2 b1 b2))/\
  ProgIn w' w'.heap.size ⟨.slice f1 p.funcs.length f2,.slice a1 p.args.length a2,.slice d1 p.data.length d2,.slice b1 p.banks.length b2⟩ p/\L w w'
theorem mL.open{p:IProg}{e:Ending}(h:mL w p e w'):RetProgO w p e w':=by
 obtain⟨⟨Vf,Va,Vd,Vb⟩,rfl,hp,hb⟩:=h;obtain⟨f1,f2,e1,_,_⟩:=hp.funcs.form;obtain⟨a1,a2,e2,_,_⟩:=hp.args.form;obtain⟨d1,d2,e3,_,_⟩:=hp.data.form;obtain⟨b1,b2,e4,_,_⟩:=hp.banks.form;simp only at e1 e2 e3 e4;subst e1 e2 e3 e4;exact⟨f1,f2,a1,a2,d1,d2,b1,b2,rfl,hp,hb⟩
def eM (w:World)(R:IRun)(e:Ending)(w':World):Prop:=
 ∃oa oc,e=.returned (.agg #[U (R.value:Int),.slice oa R.out.length oc,O (R.kind:Int),U (R.info:Int),.string (y9 R.ram),O (R.inputs:Int),O (R.polls:Int)])/\vM w' w'.heap.size (.slice oa R.out.length oc) R.out/\L w w'
theorem abr.open{R:IRun}{e:Ending}(h:abr w R e w'):eM w R e w':=by
 obtain⟨ov,rfl,ho,hb⟩:=h;obtain⟨oa,oc,rfl,_,_⟩:=ho.form;exact⟨oa,oc,rfl,ho,hb⟩
theorem uL {t:ITerm}{ops:List IOp}(h1:ops.length<=2000000)(h2:t.to.length<=2000000):mW (rd t ops):=by
 intro f hf;simp only[rd,Jo] at hf;subst hf;refine⟨⟨by simp,fun b hb=>?_⟩,fun b hb=>?_⟩
 ·rw[Jo] at hb;subst hb;exact⟨by simp,h1,h2⟩
 ·rw[Jo] at hb;subst hb;simp
def acg (f:Flds):Value:=.agg #[.bool f.is,.bool f.res,.bool f.a,.bool f.b,.bool f.n]
def wL (w:World)(f:Flds)(e:Ending)(w':World):Prop:=e=.returned (acg f)/\L w w'
theorem shp_1 (w:World):G 54 #[O 1] w (wL w ⟨true,true,false,false,true⟩):=by
 go_enter Try.func54,Try.ntmps54;go_wp2;refine bodyPost_ret (v:=.agg #[.bool true,.bool true,.bool false,.bool false,.bool true]) ?_ rfl ?_
 ·rw[zM rfl];go_simp
 ·exact⟨rfl,Zr⟩
theorem shp_2 (w:World):G 54 #[O 2] w (wL w ⟨true,true,false,false,true⟩):=by
 go_enter Try.func54,Try.ntmps54;go_wp2;refine bodyPost_ret (v:=.agg #[.bool true,.bool true,.bool false,.bool false,.bool true]) ?_ rfl ?_
 ·rw[zM rfl];go_simp
 ·exact⟨rfl,Zr⟩
theorem shp_3 (w:World):G 54 #[O 3] w (wL w ⟨true,true,true,false,false⟩):=by
 go_enter Try.func54,Try.ntmps54;go_wp2;refine bodyPost_ret (v:=.agg #[.bool true,.bool true,.bool true,.bool false,.bool false]) ?_ rfl ?_
 ·rw[zM rfl];go_simp
 ·exact⟨rfl,Zr⟩
theorem shp_4 (w:World):G 54 #[O 4] w (wL w ⟨true,true,true,false,false⟩):=by
 go_enter Try.func54,Try.ntmps54;go_wp2;refine bodyPost_ret (v:=.agg #[.bool true,.bool true,.bool true,.bool false,.bool false]) ?_ rfl ?_
 ·rw[zM rfl];go_simp
 ·exact⟨rfl,Zr⟩
theorem shp_18 (w:World):G 54 #[O 18] w (wL w ⟨true,true,true,false,false⟩):=by
 go_enter Try.func54,Try.ntmps54;go_wp2;refine bodyPost_ret (v:=.agg #[.bool true,.bool true,.bool true,.bool false,.bool false]) ?_ rfl ?_
 ·rw[zM rfl];go_simp
 ·exact⟨rfl,Zr⟩
theorem shp_19 (w:World):G 54 #[O 19] w (wL w ⟨true,true,true,false,false⟩):=by
 go_enter Try.func54,Try.ntmps54;go_wp2;refine bodyPost_ret (v:=.agg #[.bool true,.bool true,.bool true,.bool false,.bool false]) ?_ rfl ?_
 ·rw[zM rfl];go_simp
 ·exact⟨rfl,Zr⟩
theorem shp_20 (w:World):G 54 #[O 20] w (wL w ⟨true,false,true,true,false⟩):=by
 go_enter Try.func54,Try.ntmps54;go_wp2;refine bodyPost_ret (v:=.agg #[.bool true,.bool false,.bool true,.bool true,.bool false]) ?_ rfl ?_
 ·rw[zM rfl];go_simp
 ·exact⟨rfl,Zr⟩
theorem shp_21 (w:World):G 54 #[O 21] w (wL w ⟨true,false,true,true,false⟩):=by
 go_enter Try.func54,Try.ntmps54;go_wp2;refine bodyPost_ret (v:=.agg #[.bool true,.bool false,.bool true,.bool true,.bool false]) ?_ rfl ?_
 ·rw[zM rfl];go_simp
 ·exact⟨rfl,Zr⟩
theorem shp_22 (w:World):G 54 #[O 22] w (wL w ⟨true,true,true,false,true⟩):=by
 go_enter Try.func54,Try.ntmps54;go_wp2;refine bodyPost_ret (v:=.agg #[.bool true,.bool true,.bool true,.bool false,.bool true]) ?_ rfl ?_
 ·rw[zM rfl];go_simp
 ·exact⟨rfl,Zr⟩
theorem shp_23 (w:World):G 54 #[O 23] w (wL w ⟨true,true,true,false,true⟩):=by
 go_enter Try.func54,Try.ntmps54;go_wp2;refine bodyPost_ret (v:=.agg #[.bool true,.bool true,.bool true,.bool false,.bool true]) ?_ rfl ?_
 ·rw[zM rfl];go_simp
 ·exact⟨rfl,Zr⟩
theorem shp_24 (w:World):G 54 #[O 24] w (wL w ⟨true,true,false,false,true⟩):=by
 go_enter Try.func54,Try.ntmps54;go_wp2;refine bodyPost_ret (v:=.agg #[.bool true,.bool true,.bool false,.bool false,.bool true]) ?_ rfl ?_
 ·rw[zM rfl];go_simp
 ·exact⟨rfl,Zr⟩
theorem shp_25 (w:World):G 54 #[O 25] w (wL w ⟨true,false,true,false,true⟩):=by
 go_enter Try.func54,Try.ntmps54;go_wp2;refine bodyPost_ret (v:=.agg #[.bool true,.bool false,.bool true,.bool false,.bool true]) ?_ rfl ?_
 ·rw[zM rfl];go_simp
 ·exact⟨rfl,Zr⟩
theorem shp_26 (w:World):G 54 #[O 26] w (wL w ⟨true,false,false,false,false⟩):=by
 go_enter Try.func54,Try.ntmps54;go_wp2;refine bodyPost_ret (v:=.agg #[.bool true,.bool false,.bool false,.bool false,.bool false]) ?_ rfl ?_
 ·rw[zM rfl];go_simp
 ·exact⟨rfl,Zr⟩
theorem shp_27 (w:World):G 54 #[O 27] w (wL w ⟨true,false,false,false,false⟩):=by
 go_enter Try.func54,Try.ntmps54;go_wp2;refine bodyPost_ret (v:=.agg #[.bool true,.bool false,.bool false,.bool false,.bool false]) ?_ rfl ?_
 ·rw[zM rfl];go_simp
 ·exact⟨rfl,Zr⟩
theorem aao (c:Int)(h:5<=c/\c<=17)(w:World):G 54 #[O c] w (wL w ⟨true,true,true,true,false⟩):=by
 have t1:((c:Int)==1)=false:=Ze;have t2:((c:Int)==2)=false:=Ze;have t3:((c:Int)==3)=false:=Ze;have t4:((c:Int)==4)=false:=Ze;have r:((c:Int)==18)=false:=Ze;have q:((c:Int)==19)=false:=Ze;have o:((c:Int)==20)=false:=Ze;have m:((c:Int)==21)=false:=Ze;have l:((c:Int)==22)=false:=Ze;have k:((c:Int)==23)=false:=Ze;have j:((c:Int)==24)=false:=Ze;have i:((c:Int)==25)=false:=Ze;have g:((c:Int)==26)=false:=Ze;have d:((c:Int)==27)=false:=Ze;have d1:decide (5<=c)=true:=by rw[decide_eq_true_eq];omega
 have d2:decide (c<=17)=true:=by rw[decide_eq_true_eq];omega
 clear h;go_enter Try.func54,Try.ntmps54;go_wp2;refine bodyPost_ret (v:=.agg #[.bool true,.bool true,.bool true,.bool true,.bool false]) ?_ rfl ?_
 ·rw[zM rfl];go_simp
 ·exact⟨rfl,Zr⟩
theorem shp_low (c:Int)(h:c<1)(w:World):G 54 #[O c] w (wL w ⟨false,false,false,false,false⟩):=by
 have t1:((c:Int)==1)=false:=Ze;have t2:((c:Int)==2)=false:=Ze;have t3:((c:Int)==3)=false:=Ze;have t4:((c:Int)==4)=false:=Ze;have r:((c:Int)==18)=false:=Ze;have q:((c:Int)==19)=false:=Ze;have o:((c:Int)==20)=false:=Ze;have m:((c:Int)==21)=false:=Ze;have l:((c:Int)==22)=false:=Ze;have k:((c:Int)==23)=false:=Ze;have j:((c:Int)==24)=false:=Ze;have i:((c:Int)==25)=false:=Ze;have g:((c:Int)==26)=false:=Ze;have d:((c:Int)==27)=false:=Ze;have d1:decide (5<=c)=false:=by rw[decide_eq_false_iff_not];omega
 have d2:decide (c<=17)=true:=by rw[decide_eq_true_eq];omega
 clear h;go_enter Try.func54,Try.ntmps54;go_wp2;refine bodyPost_ret (v:=.agg #[.bool false,.bool false,.bool false,.bool false,.bool false]) ?_ rfl ?_
 ·rw[zM rfl];go_simp
 ·exact⟨rfl,Zr⟩
theorem shp_high (c:Int)(h:27<c)(w:World):G 54 #[O c] w (wL w ⟨false,false,false,false,false⟩):=by
 have t1:((c:Int)==1)=false:=Ze;have t2:((c:Int)==2)=false:=Ze;have t3:((c:Int)==3)=false:=Ze;have t4:((c:Int)==4)=false:=Ze;have r:((c:Int)==18)=false:=Ze;have q:((c:Int)==19)=false:=Ze;have o:((c:Int)==20)=false:=Ze;have m:((c:Int)==21)=false:=Ze;have l:((c:Int)==22)=false:=Ze;have k:((c:Int)==23)=false:=Ze;have j:((c:Int)==24)=false:=Ze;have i:((c:Int)==25)=false:=Ze;have g:((c:Int)==26)=false:=Ze;have d:((c:Int)==27)=false:=Ze;have d1:decide (5<=c)=true:=by rw[decide_eq_true_eq];omega
 have d2:decide (c<=17)=false:=by rw[decide_eq_false_iff_not];omega
 clear h;go_enter Try.func54,Try.ntmps54;go_wp2;refine bodyPost_ret (v:=.agg #[.bool false,.bool false,.bool false,.bool false,.bool false]) ?_ rfl ?_
 ·rw[zM rfl];go_simp
 ·exact⟨rfl,Zr⟩
theorem aaK (c:Int)(w:World):G 54 #[O c] w (wL w (zi c)):=by
 rcases rJ c with⟨h,e⟩|⟨h,e⟩|⟨h,e⟩|⟨h,e⟩|⟨h,e⟩|⟨h,e⟩|⟨h,e⟩|⟨h,e⟩<;>rw[e]
 ·rcases h with rfl|rfl|rfl
  ·exact shp_1 w
  ·exact shp_2 w
  ·exact shp_24 w
 ·rcases h with rfl|rfl|rfl|rfl
  ·exact shp_3 w
  ·exact shp_4 w
  ·exact shp_18 w
  ·exact shp_19 w
 ·exact aao c h w
 ·rcases h with rfl|rfl
  ·exact shp_20 w
  ·exact shp_21 w
 ·rcases h with rfl|rfl
  ·exact shp_22 w
  ·exact shp_23 w
 ·subst h;exact shp_25 w
 ·rcases h with rfl|rfl
  ·exact shp_26 w
  ·exact shp_27 w
 ·rcases h with h|h
  ·exact shp_low c h w
  ·exact shp_high c h w
structure Stp (X:Nat->Prop) (w:World) (X':Nat->Prop) (w':World):Prop where
 os:w'.os=w.os
 tape:w'.tape=w.tape
 output:w'.output=w.output
 size:w.heap.size<=w'.heap.size
 new:∀k,X' k->X k∨w.heap.size<=k
 kept:∀k,k<w.heap.size->¬X k->w'.heap[k]? =w.heap[k]?
theorem Stp.refl (X:Nat->Prop)(w:World):Stp X w X w:=⟨rfl,rfl,rfl,Je _,fun _ h=> .inl h,fun _ _ _=>rfl⟩
theorem Stp.trans{X1 X2:Nat->Prop}{w2:World}(h:Stp X w X1 w1)(k:Stp X1 w1 X2 w2):Stp X w X2 w2:=
 ⟨k.os.trans h.os,k.tape.trans h.tape,k.output.trans h.output,Jn h.size k.size,
  fun i hi=>(k.new i hi).elim (h.new i) (fun e=> .inr (Jn h.size e)),
  fun i hi hx=>(k.kept i (Jy hi h.size) (fun e=>(h.new i e).elim hx Zo)).trans (h.kept i hi hx)⟩
theorem Stp.of_below(h:L w w'):Stp X w X w':=
 ⟨h.os,h.tape,h.output,h.size,fun _ h=> .inl h,fun k hk _=>h.block k hk⟩
theorem Stp.below{B:Nat}(h:Stp X w X' w')(c:∀k,X k->B<=k)(hB:B<=w.heap.size):Below B w w':=
 ⟨h.os,h.tape,h.output,h.size,fun k hk=>h.kept k Zo (fun e=>by have:=c k e;omega)⟩
theorem Stp.blk(h:Stp X w X' w')(hk:w.heap[k]? =some o)(c:¬X k):w'.heap[k]? =some o:=(h.kept k (lt_of_block hk) c).trans hk
theorem Stp.cell {X X':Nat->Prop}{w w':World}(h:Stp X w X' w'){k i:Nat}{v:Value}(hk:T w k i v)(c:¬X k):T w' k i v:=
 (Oo (h.kept k (jU hk) c)).trans hk
theorem Stp.not(h:Stp X w X' w')(hk:k<w.heap.size)(c:¬X k):¬X' k:=fun e=>(h.new k e).elim c Zo
def yE {α:Type}(sz:Nat)(R:World->(Nat->Prop)->Nat->Nat->α->Prop)(w:World)(X:Nat->Prop)(v:Value)(xs:List α):Prop:=
 ∃(a:Option Addr) (cap:Nat),v=.slice a xs.length cap/\xs.length<=cap/\cap<=9223372036854775807/\∀(k:Nat) (x:α),xs[k]? =some x->∃b o,a=some ⟨b,o,none⟩/\b<w.heap.size/\¬X b/\R w X b (o+k*sz) x
def rP {α:Type}(R:World->(Nat->Prop)->Nat->Nat->α->Prop):Prop:=∀X w X' w' b q x,b<w.heap.size->¬X b->Stp X w X' w'->R w X b q x->R w' X' b q x
theorem yE.step {α:Type}{sz:Nat}{R:World->(Nat->Prop)->Nat->Nat->α->Prop}(i:rP R){X X':Nat->Prop}{w w':World}{v:Value}{xs:List α}(h:yE sz R w X v xs)(hs:Stp X w X' w'):yE sz R w' X' v xs:=by
 obtain⟨a,g,rfl,h1,h2,h3⟩:=h;refine⟨a,g,rfl,h1,h2,fun k x hk=>?_⟩;obtain⟨b,o,l,c,d,j⟩:=h3 k x hk;exact⟨b,o,l,Jy c hs.size,hs.not c d,i _ _ _ _ _ _ _ c d hs j⟩
theorem yE.nil{α:Type}{sz:Nat}{R:World->(Nat->Prop)->Nat->Nat->α->Prop}:yE sz R w X (F) []:=
 ⟨none,0,rfl,Je _,by omega,fun k x hk=>by simp at hk⟩
theorem yE.form{α:Type}{sz:Nat}{R:World->(Nat->Prop)->Nat->Nat->α->Prop}{v:Value}{xs:List α}(h:yE sz R w X v xs):∃a cap,v=.slice a xs.length cap/\xs.length<=cap/\cap<=9223372036854775807:=
 let⟨a,cap,e,h1,h2,_⟩:=h;⟨a,cap,e,h1,h2⟩
theorem yE.to{α:Type}{sz:Nat}{R:World->(Nat->Prop)->Nat->Nat->α->Prop}{S:World->Nat->Nat->Nat->α->Prop}{v:Value}{xs:List α}(h:yE sz R w X v xs)(c:∀b q x,R w X b q x->S w w.heap.size b q x):yN sz S w w.heap.size v xs:=by
 obtain⟨a,d,rfl,h1,h2,h3⟩:=h;refine⟨a,d,rfl,h1,h2,fun k x hk=>?_⟩;obtain⟨b,o,j,i,_,g⟩:=h3 k x hk;exact⟨b,o,j,i,c _ _ _ g⟩
def IntG (w:World)(X:Nat->Prop)(b q:Nat)(x:Int):Prop:=T w b q (O x)/\I64 x
theorem zn:rP IntG:=fun X w X' w' b q x _ hx hs h=>⟨hs.cell h.1 hx,h.2⟩
abbrev wm:=yE 1 IntG
def EdgeG (w:World)(X:Nat->Prop)(b q:Nat)(x:IEdge):Prop:=T w b q (O x.block)/\I64 x.block/\∃av,T w b (q+1) av/\wm w X av x.args
theorem yq:rP EdgeG:=fun X w X' w' b q x _ hx hs h=>by
 obtain⟨h1,h2,av,h3,c⟩:=h;exact⟨hs.cell h1 hx,h2,av,hs.cell h3 hx,c.step zn hs⟩
abbrev vT:=yE 2 EdgeG
theorem wm.to{v:Value}(h:wm w X v xs):zY w w.heap.size v xs:=yE.to h fun _ _ _ h=>h
theorem vT.to{v:Value}{xs:List IEdge}(h:vT w X v xs):wH w w.heap.size v xs:=yE.to h fun _ _ _ h=>by
 obtain⟨h1,h2,av,h3,c⟩:=h;exact⟨h1,h2,av,h3,wm.to c⟩
theorem rO{S:Nat}{v:Value}{n:Nat}(h:w.ownsRow S 3 1 v n (xs.map zN))(j:xs.length=n)(i:∀x∈xs,I64 x)(l:∀k,v.ownBlock=some k->¬X k):wm w X v xs:=by
 subst j;obtain⟨a,c,rfl⟩:=zG h;have hl:=zm h;refine⟨a,c,rfl,hl.1,by omega,fun k x hk=>?_⟩;have m:=(Jh.1 hk).1;obtain⟨g,o,e,hg,d⟩:=h.form Zo;cases e;refine⟨g,0,rfl,d,l g rfl,?_,i x (Ji hk)⟩;rw[Nk,Ng];exact(h.cellAt k Zo).trans (by rw[Jr,hk];rfl)
theorem ki{b:Nat}{e:TypeId}(h:Y w b (xs.map fun x=>O x).toArray e)(c:¬X b)(h64:∀x∈xs,I64 x)(hl:xs.length<=1000000):wm w X (Q b xs.length xs.length) xs:=by
 refine⟨_,xs.length,rfl,Je _,by omega,fun k x hk=>⟨b,0,rfl,lt_of_block h,c,?_,h64 x (Ji hk)⟩⟩;rw[Ng,Nk];exact zA h (by simp[hk])
theorem ld{S:Nat}{v:Value}{l:List (IEdge×Value)}(h:w.ownsRow S 75 2 v l.length (l.flatMap za))(h64:∀q∈l,I64 q.1.block/\wm w X q.2 q.1.args)(m:∀k,v.ownBlock=some k->¬X k):vT w X v (l.map (·.1)):=by
 obtain⟨a,c,rfl⟩:=zG h;have hl:=zm h;refine⟨a,c,by rw[Nr],by rw[Nr];exact hl.1,by omega,fun k o hk=>?_⟩;rw[Jr,Oz] at hk;obtain⟨q,hq,rfl⟩:=hk;have r:=(Jh.1 hq).1;obtain⟨g,t,e,hg,hb⟩:=h.form Zo;cases e
 have i:∀j v,(za q)[j]? =some v->T w g (0+k*2+j) v:=fun j v hj=>by
  have d:j<2:=(Jh.1 hj).1;rw[Ng];exact(h.cellAt (k*2+j) Zo).trans ((uB za 2 (fun _=>rfl) l k q hq j d).trans hj)
 obtain⟨h1,h2⟩:=h64 q (Ji hq);exact⟨g,0,rfl,hb,m g rfl,i 0 _ rfl,h1,q.2,i 1 _ rfl,h2⟩
theorem qt{b:Nat}{l:List (IEdge×Value)}{e:TypeId}(h:Y w b (l.flatMap za).toArray e)(d:¬X b)(h64:∀q∈l,I64 q.1.block/\wm w X q.2 q.1.args)(hl:l.length<=1000000):
 vT w X (Q b l.length l.length) (l.map (·.1)):=by
 refine⟨_,l.length,by rw[Nr],by rw[Nr];exact Je _,by omega,fun k o hk=>?_⟩;rw[Jr,Oz] at hk;obtain⟨q,hq,rfl⟩:=hk;have c:=fun j v (hj:(za q)[j]? =some v)=>oW (f:=za) (n:=2) (fun _=>rfl) h hq hj
 obtain⟨h1,h2⟩:=h64 q (Ji hq);exact⟨b,0,rfl,lt_of_block h,d,c 0 _ rfl,h1,q.2,c 1 _ rfl,h2⟩
structure MKC where
 E:ME
 sv:Value
 fpv:Value
 apv:Value
 dv:Value
 bv:Value
 pm:Nat
 pp:Nat
 B:Nat
 Z:Nat->Prop
def MKC.av (K:MKC)(X:Nat->Prop):Nat->Prop:=fun k=>X k∨K.Z k
variable {K:MKC}
theorem Stp.av(h:Stp X w X' w')(K:MKC):Stp (K.av X) w (K.av X') w':=
 ⟨h.os,h.tape,h.output,h.size,fun k hk=>hk.elim (fun e=>(h.new k e).elim (fun e=> .inl (.inl e)) .inr) (fun e=> .inl (.inr e)),fun k hk hx=>h.kept k hk (fun e=>hx (.inl e))⟩
structure BM where
 b:IBlk
 pv:Value
 ov:Value
 tv:Value
 ol:List (IOp×Value)
variable {l:List BM}{q:BM}
def xG (q:BM):List Value:=[q.pv,q.ov,O q.b.term.kind,O q.b.term.a,q.tv]
structure BMOk (w:World) (K:MKC) (X:Nat->Prop) (q:BM):Prop where
 k64:I64 q.b.term.kind/\I64 q.b.term.a
 par:wm w (K.av X) q.pv q.b.params
 ops:q.b.ops=q.ol.map (·.1)
 own:w.ownsRow K.B 77 6 q.ov q.ol.length (q.ol.flatMap zU)
 arg:∀o∈q.ol,qN o.1/\wm w (K.av X) o.2 o.1.args
 tos:vT w (K.av X) q.tv q.b.term.to
 inX:∀k,q.ov.ownBlock=some k->X k
theorem BMOk.step {w w':World}{K:MKC}{X X':Nat->Prop}{q:BM}(h:BMOk w K X q)(hs:Stp X w X' w')(hk:∀k,q.ov.ownBlock=some k->w'.heap[k]? =w.heap[k]?)(c:∀k,X k->X' k):BMOk w' K X' q:=
 ⟨h.k64,h.par.step zn (hs.av K),h.ops,yD h.own hk,fun o ho=>⟨(h.arg o ho).1,(h.arg o ho).2.step zn (hs.av K)⟩,h.tos.step yq (hs.av K),fun k hk=>c k (h.inX k hk)⟩
def uC (K:MKC)(M:MS)(fv vv:Value):Array Value:=
 #[K.sv,O (M.pos:Int),I K.pp,O (K.E.me:Int),fv,O (M.cur:Int),O (M.next:Int),vv,O M.left]
structure MkEnv (w:World) (K:MKC) (X:Nat->Prop):Prop where
 s:zY w K.B K.sv K.E.s
 fpv:∃a c,K.fpv=.slice a K.E.nf c
 prog:w.heap[K.pp]? =some (.cells #[K.fpv,K.apv,.int .i64 0,.int .i64 K.E.handler,K.dv,K.bv] 29 (0,0))
 args:wm w (K.av X) K.apv K.E.args
 data:∃b,K.dv=.slice (some ⟨b,0,none⟩) 3 3/\¬K.av X b/\w.heap[b]? =some (.cells #[.int .i64 (-1),.int .u16 16384,.int .u16 16,.int .i64 (-1),.int .u16 16640,.int .u16 7,.int .i64 0,.int .u16 128,.int .u16 32] 51 (0,0))
 ppX:¬K.av X K.pp
 h64:I64 K.E.handler
 len:K.E.args.length=K.E.nf
 nf:K.E.nf<=4/\K.E.me<K.E.nf
 alt:∀x∈K.E.args,0<=x/\x<4
 zx:∀k,X k->¬K.Z k
 zl:∀k,K.Z k->k<w.heap.size
theorem MkEnv.step {w w':World}{K:MKC}{X X':Nat->Prop}(h:MkEnv w K X)(hs:Stp X w X' w')(hb:Below K.B w w'):MkEnv w' K X':=by
 obtain⟨b,e1,e2,e3⟩:=h.data;have c:=hs.av K;exact⟨h.s.below zO hb,h.fpv,c.blk h.prog h.ppX,h.args.step zn c,⟨b,e1,c.not (lt_of_block e3) e2,c.blk e3 e2⟩,c.not (lt_of_block h.prog) h.ppX,h.h64,h.len,h.nf,h.alt,fun k e=>(hs.new k e).elim (h.zx k) (fun e2 e3=>by have:=h.zl k e3;omega),fun k e=>Jy (h.zl k e) hs.size⟩
structure MkIn (w:World) (K:MKC) (X:Nat->Prop) (M:MS) (fv vv:Value) (l:List BM):Prop where
 blk:w.heap[K.pm]? =some (.cells (uC K M fv vv) 120 (0,0))
 own:w.ownsRow K.B 49 5 fv l.length (l.flatMap xG)
 fl:M.f=l.map (·.b)
 bok:∀q∈l,BMOk w K X q
 apart:∀(i j:Nat) (qi qj:BM) (k:Nat),l[i]? =some qi->l[j]? =some qj->qi.ov.ownBlock=some k->qj.ov.ownBlock=some k->i=j
 vown:w.ownsRow K.B 3 1 vv M.vals.length (M.vals.map zN)
 v64:∀x∈M.vals,I64 x
 xm:X K.pm
 xf:∀k,fv.ownBlock=some k->X k
 xv:∀k,vv.ownBlock=some k->X k
 xB:∀k,X k->K.B<=k
 xl:∀k,X k->k<w.heap.size
 env:MkEnv w K X
 bnd:M.sz<=1000000
 lft:6<=M.left+M.pos/\M.left<=6
def wW (w:World)(K:MKC)(X:Nat->Prop)(M:MS):Prop:=∃fv vv l,MkIn w K X M fv vv l
section
variable {w:World} {K:MKC} {X:Nat->Prop} {M:MS} {fv vv:Value} {l:List BM} (h:MkIn w K X M fv vv l)
include h
theorem MkIn.c0:T w K.pm 0 K.sv:=zA h.blk rfl
theorem MkIn.c1:T w K.pm 1 (O (M.pos:Int)):=zA h.blk rfl
theorem MkIn.c2:T w K.pm 2 (I K.pp):=zA h.blk rfl
theorem MkIn.c3:T w K.pm 3 (O (K.E.me:Int)):=zA h.blk rfl
theorem MkIn.c4:T w K.pm 4 fv:=zA h.blk rfl
theorem MkIn.c5:T w K.pm 5 (O (M.cur:Int)):=zA h.blk rfl
theorem MkIn.c6:T w K.pm 6 (O (M.next:Int)):=zA h.blk rfl
theorem MkIn.c7:T w K.pm 7 vv:=zA h.blk rfl
theorem MkIn.c8:T w K.pm 8 (O M.left):=zA h.blk rfl
theorem MkIn.free (i:Nat):N w K.pm i:=zE h.blk
theorem MkIn.size:K.B<=w.heap.size:=Jn (h.xB _ h.xm) (Qd (h.xl _ h.xm))
theorem MkIn.keep(hb:L w w'):MkIn w' K X M fv vv l:=
 have hs:Stp X w X w':=Stp.of_below hb;have hk:∀ {v:Value} {e:TypeId} {sz n:Nat} {xs:List Value},w.ownsRow K.B e sz v n xs->∀k,v.ownBlock=some k->w'.heap[k]? =w.heap[k]?:=fun ho k hk=>hb.block k (ho.lt k hk).2
 ⟨zH hb h.blk (lt_of_block h.blk),yD h.own (hk h.own),h.fl,fun q hq=>(h.bok q hq).step hs (hk (h.bok q hq).own) (fun _ e=>e),h.apart,yD h.vown (hk h.vown),h.v64,h.xm,h.xf,h.xv,h.xB,fun k e=>Jy (h.xl k e) hb.size,
  h.env.step hs (hb.mono h.size),h.bnd,h.lft⟩
theorem MkIn.setC (i:Nat)(u:Value)(M':MS)(vv':Value)(j:(uC K M fv vv).setIfInBounds i u=uC K M' fv vv')(hf:M'.f=M.f)(hv:w.ownsRow K.B 3 1 vv' M'.vals.length (M'.vals.map zN))(h64:∀x∈M'.vals,I64 x)(g:∀k,vv'.ownBlock=some k->X k)
 (d:M'.sz<=1000000) (hl:6<=M'.left+M'.pos/\M'.left<=6):MkIn (w.setCell ⟨K.pm,i,none⟩ u) K X M' fv vv' l/\Stp X w X (w.setCell ⟨K.pm,i,none⟩ u):=by
 have hs:Stp X w X (w.setCell ⟨K.pm,i,none⟩ u):=⟨rfl,rfl,rfl,by simp,fun _ h=> .inl h,fun k hk hx=>Below.heap_setCell _ _ _ _ (fun e=>hx (by rw[e];exact h.xm))⟩
 have c:∀ {v:Value} {e:TypeId} {sz n:Nat} {xs:List Value},w.ownsRow K.B e sz v n xs->e≠120->∀k,v.ownBlock=some k->(w.setCell ⟨K.pm,i,none⟩ u).heap[k]? =w.heap[k]?:=fun ho he k hk=>
  Below.heap_setCell _ _ _ _ (fun e=>zC ho h.blk (.inr he) (by rw[hk];exact congrArg some e))
 refine⟨⟨?_,yD h.own (c h.own Zd),hf.trans h.fl,fun q hq=>(h.bok q hq).step hs (c (h.bok q hq).own Zd) (fun _ e=>e),h.apart,yD hv (c hv Zd),h64,h.xm,h.xf,g,h.xB,fun k e=>by simpa using h.xl k e,
  h.env.step hs ((Below.refl _ _).setCell (h.xB _ h.xm) _),d,hl⟩,hs⟩
 rw[zD h.blk,j]
end
def aav {α:Type}:List α->Nat->List α->List α
 |xs,_,[]=>xs
 |xs,o,v::vs=>aav (xs.set o v) (o+1) vs
theorem mV {α:Type}:∀(vs:List α) (xs:List α) (o:Nat),(aav xs o vs).length=xs.length
 | [],xs,o=>rfl
 |v::vs,xs,o=>(mV vs _ _).trans Zs
theorem oq {α:Type}(m:Nat):∀(vs:List α) (xs:List α) (o:Nat),(aav xs o vs).take m=aav (xs.take m) o vs
 | [],xs,o=>rfl
 |v::vs,xs,o=>(oq m vs _ _).trans (by rw[List.take_set];rfl)
theorem fV {α:Type}:∀(vs p q r:List α),q.length=vs.length->aav (p++(q++r)) p.length vs=p++(vs++r)
 | [],p,[],r,_=>rfl
 |v::vs,p,x::q,r,h=>by
  have e:(p++(x::q++r)).set p.length v=(p++ [v])++(q++r):=by
   rw[Uj _ _ (Je _)];simp
  show aav ((p++(x::q++r)).set p.length v) (p.length+1) vs=_
  rw[e];have:=fV vs (p++ [v]) q r (by simpa using h);rw[Jk,Ju] at this;rw[this]
  simp
 | [],p,x::q,r,h=>by simp at h
 |v::vs,p,[],r,h=>by simp at h
theorem wq {α:Type}(f:α->List Value)(n:Nat)(hf:∀a,(f a).length=n):∀l:List α,(l.flatMap f).length=l.length*n
 | []=>by simp
 |a::l=>by rw[Qa,Jk,hf,wq f n hf l,Nq,Nat.add_mul];omega
theorem js {α:Type}(f:α->List Value)(n:Nat)(hf:∀a,(f a).length=n)(l:List α)(k:Nat)(b a:α)(hk:l[k]? =some b):aav (l.flatMap f) (k*n) (f a)=(l.set k a).flatMap f:=by
 have c:=(Jh.1 hk).1;have hb:l[k]=b:=(Jh.1 hk).2
 have e1:l=l.take k++b::l.drop (k+1):=by
  rw[<-hb,Ue,Qi]
 have hl:(l.take k).length=k:=by simp;omega
 have e2:l.set k a=l.take k++a::l.drop (k+1):=by
  rw[List.set_eq_take_append_cons_drop,if_pos c]
 rw[e2]
 have e3:l.flatMap f=(l.take k).flatMap f++(f b++(l.drop (k+1)).flatMap f):=by
  conv=>lhs;rw[e1]
  rw[Nx,Qa]
 have d:((l.take k).flatMap f).length=k*n:=by rw[wq f n hf,hl]
 rw[e3,Nx,Qa,<-d];exact fV _ _ _ _ (by rw[hf,hf])
theorem th (b:Nat)(t:TypeId):∀(vs:List Value) (o:Nat) (w:World) (cur:Array Value),Y w b cur t->Y (w.setCells b o vs) b (aav cur.toList o vs).toArray t
 | [],o,w,cur,h=>by simpa[aav,World.setCells] using h
 |v::vs,o,w,cur,h=>by
  have:=th b t vs (o+1) (w.setCell ⟨b,o,none⟩ v) _ (zD h v);rw[Array.toList_setIfInBounds] at this;exact this
theorem ye (b k:Nat)(hne:k≠b):∀(vs:List Value) (o:Nat) (w:World),(w.setCells b o vs).heap[k]? =w.heap[k]?
 | [],o,w=>rfl
 |v::vs,o,w=>(ye b k hne vs (o+1) _).trans (Below.heap_setCell _ _ _ _ (by simpa using hne))
theorem y8 (b:Nat):∀(vs:List Value) (o:Nat) (w:World),(w.setCells b o vs).heap.size=w.heap.size
 | [],_,_=>rfl
 |v::vs,o,w=>(y8 b vs (o+1) _).trans Zs
theorem ze (b:Nat):∀(vs:List Value) (o:Nat) (w:World),(w.setCells b o vs).os=w.os/\(w.setCells b o vs).tape=w.tape/\(w.setCells b o vs).output=w.output
 | [],_,_=>⟨rfl,rfl,rfl⟩
 |v::vs,o,w=>ze b vs (o+1) _
section
variable {α:Type} {f:α->List Value} {n:Nat} {w:World} {base g:Nat} {e:TypeId} {v:Value} {l:List α} {k:Nat} {b:α}
theorem wb (hf:∀a,(f a).length=n)(h:w.ownsRow base e n v l.length (l.flatMap f))(hg:v.ownBlock=some g)(hk:l[k]? =some b):w.rangeAt g (k*n) (f b):=fun j u hj=>by
 have c:j<n:=by rw[<-hf b];exact(Jh.1 hj).1
 have h1:=h.cells hg (k*n+j) u ((uB f n hf l k b hk j c).trans hj);rw[Addr.add_mid,Ng] at h1;exact h1
theorem zq (m:0<n)(hf:∀a,(f a).length=n)(h:w.ownsRow base e n v l.length (l.flatMap f))(hg:v.ownBlock=some g)(hk:l[k]? =some b):w.there g (k*n) n:=fun j hj=>by
 refine⟨?_,?_⟩
 ·obtain⟨u,c⟩:∃u,(f b)[j]? =some u:=⟨_,Jd (by rw[hf];exact hj)⟩
  rw[wb hf h hg hk j u c];rfl
 ·rcases h.2 with⟨rfl,_⟩|⟨g',i,cur,rfl,_,d,_⟩
  ·simp[Value.ownBlock] at hg
  ·simp[Value.ownBlock] at hg;subst hg;exact zE d
theorem uZ (hf:∀a,(f a).length=n)(h:w.ownsRow base e n v l.length (l.flatMap f))(hg:v.ownBlock=some g)(hk:l[k]? =some b)(a:α):(w.setCells g (k*n) (f a)).ownsRow base e n v l.length ((l.set k a).flatMap f):=by
 refine⟨by rw[wq f n hf,Nd],?_⟩;rcases h.2 with⟨rfl,_⟩|⟨g',c,cur,rfl,h1,h2,h3,j,i,d⟩
 ·simp[Value.ownBlock] at hg
 ·simp[Value.ownBlock] at hg;subst hg;refine .inr ⟨g',c,_,rfl,h1,th _ _ _ _ _ _ h2,h3,j,?_,?_⟩
  ·rw[List.size_toArray,mV];simpa using i
  ·rw[oq,d];exact js f n hf l k b a hk
end
def yk (K:MKC)(X:Nat->Prop)(w:World)(M':MS)(r:Value)(e:Ending)(w':World):Prop:=e=.returned r/\∃X',wW w' K X' M'/\Stp X w X' w'
theorem MkIn.at{fv:Value}(h:MkIn w K X M fv vv l):wW w K X M:=⟨fv,vv,l,h⟩
theorem MkIn.ticked{fv:Value}(h:MkIn w K X M fv vv l)(c:M.sz+1<=1000000):MkIn (w.setCell ⟨K.pm,1,none⟩ (O ((M.pos:Int)+1))) K X M.tick fv vv l/\Stp X w X (w.setCell ⟨K.pm,1,none⟩ (O ((M.pos:Int)+1))):=
 h.setC 1 _ M.tick vv rfl rfl h.vown h.v64 h.xv (by have:=(zT M).sz;omega) (by have:=h.lft;show 6<=M.left+((M.pos+1:Nat):Int)/\M.left<=6;omega)
theorem rK (x:Int)(n:Nat)(d:0<n)(c:n<=1000000):Int.tmod (wrap64 (Int.tmod x n+n)) n=((x%(n:Int)).toNat:Int):=by
 have h1:=Qv x (show(0:Int)<n by omega)
 have h2:-(n:Int)<Int.tmod x n:=by
  have:=Qu x (show(0:Int)<n by omega);omega
 have e:wrap64 (Int.tmod x n+n)=Int.tmod x n+n:=IntWalk.wrap64_in _ Zo;rw[e];have h3:=Ob x (show(n:Int)≠0 by omega);have g:=Int.emod_lt_of_pos x (show(0:Int)<n by omega)
 have e2:Int.tmod (Int.tmod x n+n) n=x%(n:Int):=by
  rw[Qc Zo,Int.add_emod_right]
  conv=>rhs;rw[<-Int.tmod_add_mul_tdiv x n]
  rw[Int.add_mul_emod_self_left]
 rw[e2];omega
theorem uD{fv:Value}(h:MkIn w K X M fv vv l){n:Nat}(k:0<n)(d:n<=1000000)(i:M.sz+1<=1000000):
 G 59 #[I K.pm,O n] w fun e w'=>e=.returned (O (tkV K.E M n:Nat))/\MkIn w' K X M.tick fv vv l/\Stp X w X w':=by
 have hs:=h.env.s;have c0:=h.c0;have c1:=h.c1;obtain⟨sa,sc,j,a0,y⟩:=hs.form;rw[j] at c0 hs;have f1:=h.free 1;have c:=Ja (show ∀n,MkIn ((w.drewN n).setCell ⟨K.pm,1,none⟩ (O ((M.pos:Int)+1))) K X M.tick fv vv l/\Stp X w X ((w.drewN n).setCell ⟨K.pm,1,none⟩ (O ((M.pos:Int)+1))) from fun n=>⟨((h.keep (yL _ w n)).ticked i).1,(Stp.of_below (yL _ w n)).trans ((h.keep (yL _ w n)).ticked i).2⟩)
 have r:(M.pos:Int)+1<=1000000:=by
  have:M.pos<=M.sz:=by unfold MS.sz;omega
  omega
 clear h
 by_cases m:M.pos<K.E.s.length
 ·obtain⟨x,g⟩:∃x,K.E.s[M.pos]? =some x:=⟨_,Jd m⟩
  obtain⟨b,o,rfl,hb,t,h64⟩:=hs.get g;rw[Nk] at t;have u:(M.pos:Int)<(K.E.s.length:Int):=Zo;have hv:tkV K.E M n=(x%(n:Int)).toNat:=by unfold tkV;rw[Jj,g];rfl
  have e1:=rK x n k d;rw[hv];have q:=Ja e1;clear hs g hb e1 hv;go_enter Try.func59,Try.ntmps59;go_wp2;go_quiet (fail);go_wp2;go_quiet (fail);go_wp2;go_ret;exact⟨zh q.out,(c.out _).1,(c.out _).2⟩
 ·have u:¬(M.pos:Int)<(K.E.s.length:Int):=Zo;have hv:tkV K.E M n=((0:Int)%(n:Int)).toNat:=by unfold tkV;rw[Jj,Of Zo];rfl
  have e1:=rK 0 n k d;rw[hv];have q:=Ja e1;clear hs hv e1;go_enter Try.func59,Try.ntmps59;go_wp2;go_quiet (fail);go_wp2;go_ret;exact⟨zh Zs,(c.out _).1,(c.out _).2⟩
theorem m8(h:wW w K X M){n:Nat}(g:0<n)(c:n<=1000000)(d:M.sz+1<=1000000):
 G 59 #[I K.pm,O n] w (yk K X w M.tick (O (tkV K.E M n:Nat))):=by
 obtain⟨fv,vv,l,h⟩:=h;refine(uD h g c d).mono ?_;rintro e w' ⟨rfl,h1,h2⟩;exact⟨rfl,X,h1.at,h2⟩
theorem d9{fv:Value}(h:MkIn w K X M fv vv l)(d:M.sz+1<=1000000):
 G 90 #[I K.pm] w fun e w'=>e=.returned (O (M.next:Int))/\w'=w.setCell ⟨K.pm,6,none⟩ (O ((M.next+1:Nat):Int)):=by
 have c6:=h.c6;have f6:=h.free 6
 have g:(M.next:Int)+1<=1000000:=by
  have:M.next<=M.sz:=by unfold MS.sz;omega
  omega
 have hb:=h.blk;have c:T (w.setCell ⟨K.pm,6,none⟩ (O ((M.next:Int)+1))) K.pm 6 (O ((M.next:Int)+1)):=World.cell?_setCell_same _ _ _ c6;clear h hb;go_enter Try.func90,Try.ntmps90;go_wp2;go_ret;refine⟨zh Zo,?_⟩;rfl
theorem yr (q:BM):(xG q).length=5:=rfl
section
variable {w:World} {K:MKC} {X:Nat->Prop} {M:MS} {fv vv:Value} {l:List BM} (h:MkIn w K X M fv vv l)
include h
theorem MkIn.getB{b:IBlk}(hb:M.f[i]? =some b):∃q,l[i]? =some q/\q.b=b/\BMOk w K X q:=by
 rw[h.fl,Jr,Oz] at hb;obtain⟨q,hq,rfl⟩:=hb;exact⟨q,hq,rfl,h.bok q (Ji hq)⟩
theorem MkIn.len:l.length=M.f.length:=by rw[h.fl,Nr]
theorem MkIn.flen:M.f.length<=1000000:=by have:=h.bnd;unfold MS.sz at this;omega
theorem MkIn.fblk(hq:l[i]? =some q):∃g c,fv=Q g l.length c/\X g/\g<w.heap.size/\g≠K.pm:=by
 have j:=(Jh.1 hq).1;obtain⟨a,c,e⟩:=zG h.own;rw[e];have ho:=h.own;rw[e] at ho;obtain⟨g,k,e2,hg,d⟩:=ho.form Zo;cases e2;exact⟨g,_,rfl,h.xf g (by rw[e];rfl),d,fun e3=>zC ho h.blk (.inr Zd) (by rw[<-e3];rfl)⟩
end
theorem MkIn.only{fv:Value}(h:MkIn w K X M fv vv l)(d:w.heap.size<=W.heap.size)(ho:W.os=w.os/\W.tape=w.tape/\W.output=w.output)
 (hk:∀k,k<w.heap.size->k≠K.pm->W.heap[k]? =w.heap[k]?) (i:Y W K.pm (uC K M' fv vv) 120) (hf:M'.f=M.f) (hv:M'.vals=M.vals) (g:M'.sz<=1000000) (hl:6<=M'.left+M'.pos/\M'.left<=6):
 MkIn W K X M' fv vv l/\Stp X w X W:=by
 have hs:Stp X w X W:=⟨ho.1,ho.2.1,ho.2.2,d,fun _ h=> .inl h,fun k hk' hx=>hk k hk' (fun e=>hx (by rw[e];exact h.xm))⟩
 have c:∀ {v:Value} {e:TypeId} {sz n:Nat} {xs:List Value},w.ownsRow K.B e sz v n xs->e≠120->∀k,v.ownBlock=some k->W.heap[k]? =w.heap[k]?:=fun ho he k hk'=>
  hk k (ho.lt k hk').2 (fun e=>zC ho h.blk (.inr he) (by rw[hk',e]))
 exact⟨⟨i,yD h.own (c h.own Zd),hf.trans h.fl,fun q hq=>(h.bok q hq).step hs (c (h.bok q hq).own Zd) (fun _ e=>e),h.apart,by rw[hv];exact yD h.vown (c h.vown Zd),by rw[hv];exact h.v64,h.xm,h.xf,h.xv,h.xB,fun k e=>Jy (h.xl k e) d,
  h.env.step hs (hs.below h.xB h.size),g,hl⟩,hs⟩
theorem MkIn.turn{fv:Value}(h:MkIn w K X M fv vv l){q':BM}(hq:l[c]? =some q)(hg:fv.ownBlock=some g)
 (hs:Stp X w X' W) (m:∀k,X k->X' k) (a3:∀k,X' k->k<W.heap.size) (a4:∀k,X' k->K.B<=k)
 (hk:∀k,k<w.heap.size->X k->k≠g->q.ov.ownBlock≠some k->W.heap[k]? =w.heap[k]?)
 (y:q.ov.ownBlock≠some K.pm) (t:W.ownsRow K.B 49 5 fv l.length ((l.set c q').flatMap xG)) (x:BMOk W K X' q')
 (r:∀(j:Nat) (qj:BM) (k:Nat),l[j]? =some qj->q'.ov.ownBlock=some k->qj.ov.ownBlock=some k->j=c) (hf:M'.f=M.f.set c q'.b) (hM:M'.pos=M.pos/\M'.cur=M.cur/\M'.next=M.next/\M'.vals=M.vals/\M'.left=M.left) (hz:M'.sz<=1000000):
 MkIn W K X' M' fv vv (l.set c q'):=by
 have u:=(Jh.1 hq).1;have a0:K.pm≠g:=fun e=>zC h.own h.blk (.inr Zd) (by rw[hg,e])
 obtain⟨m1,m2,m3,m4,m5⟩:=hM;have o:uC K M' fv vv=uC K M fv vv:=by unfold uC;rw[m1,m2,m3,m5]
 have a1:∀k,vv.ownBlock=some k->k≠g/\q.ov.ownBlock≠some k:=fun k hk=>by
  obtain⟨_,_,hx⟩:=zG h.vown;refine⟨fun e=>?_,fun e=>?_⟩
  ·rcases zo h.vown h.own Zd with h1|h1
   ·rw[h1] at hk;cases hk
   ·exact h1 (by rw[hk,hg,e])
  ·rcases zo h.vown (h.bok q (Ji hq)).own Zd with h1|h1
   ·rw[h1] at hk;cases hk
   ·exact h1 (by rw[hk,e])
 have a2:∀j qj,l[j]? =some qj->j≠c->∀k,qj.ov.ownBlock=some k->k≠g/\q.ov.ownBlock≠some k:=fun j qj d hne k hk=>by
  refine⟨fun e=>?_,fun e=>hne (h.apart j c qj q k d hq hk e)⟩;rcases zo (h.bok qj (Ji d)).own h.own Zd with h1|h1
  ·rw[h1] at hk;cases hk
  ·exact h1 (by rw[hk,hg,e])
 refine⟨?_,by rw[Nd];exact t,by rw[hf,h.fl,Ox],fun p hp=>?_,fun i j qi qj k hi d hqi hqj=>?_,?_,by rw[m4];exact h.v64,m _ h.xm,fun k hk=>m _ (h.xf k hk),fun k hk=>m _ (h.xv k hk),a4,a3,h.env.step hs (hs.below h.xB h.size),hz,by rw[m5,m1];exact h.lft⟩
 ·rw[o,hk K.pm (lt_of_block h.blk) h.xm a0 y];exact h.blk
 ·obtain⟨j,d⟩:=Ny hp;rw[Ov] at d
  by_cases e:c=j
  ·subst e;rw[if_pos rfl,if_pos u] at d;cases d;exact x
  ·rw[if_neg e] at d;refine(h.bok p (Ji d)).step hs (fun k hk'=>?_) m;obtain⟨h1,h2⟩:=a2 j p d (Ne.symm e) k hk';exact hk k (((h.bok p (Ji d)).own.lt k hk').2) ((h.bok p (Ji d)).inX k hk') h1 h2
 ·rw[Ov] at hi d
  by_cases ei:c=i
  ·rw[if_pos ei,if_pos u] at hi;cases hi
   by_cases ej:c=j
   ·omega
   ·rw[if_neg ej] at d;have:=r j qj k d hqi hqj;omega
  ·rw[if_neg ei] at hi
   by_cases ej:c=j
   ·rw[if_pos ej,if_pos u] at d;cases d;have:=r i qi k hi hqj hqi;omega
   ·rw[if_neg ej] at d;exact h.apart i j qi qj k hi d hqi hqj
 ·rw[m4];refine yD h.vown (fun k hk'=>?_);obtain⟨h1,h2⟩:=a1 k hk';exact hk k ((h.vown.lt k hk').2) (h.xv k hk') h1 h2
theorem MkIn.putV{fv vv':Value}(h:MkIn w K X M fv vv l)(hg:(w.alloc o).grownBy w3 vv.ownBlock){x:Int}
 (c:w3.ownsRow K.B 3 1 vv' (M.vals.length+1) (M.vals.map zN++ [zN x])) (r:∀k,vv'.ownBlock=some k->vv.ownBlock=some k∨w.heap.size<=k) (t:I64 x) (u:M.sz+1<=1000000):
 MkIn (w3.setCell ⟨K.pm,7,none⟩ vv') K (fun k=>X k∨vv'.ownBlock=some k) {M with vals:=M.vals++ [x]} fv vv' l/\Stp X w (fun k=>X k∨vv'.ownBlock=some k) (w3.setCell ⟨K.pm,7,none⟩ vv'):=by
 have n1:=zC h.vown h.blk (.inr Zd);have i:=zL hg (zB h.blk) n1;have m:w.heap.size<=w3.heap.size:=by have:=hg.size;simp at this;omega
 have hk:∀k,k<w.heap.size->k≠K.pm->vv.ownBlock≠some k->(w3.setCell ⟨K.pm,7,none⟩ vv').heap[k]? =w.heap[k]?:=fun k hk hne hv=>
  (Below.heap_setCell w3 ⟨K.pm,7,none⟩ vv' k hne).trans ((hg.block k Zt (fun e=>hv e.symm)).trans (Below.heap_alloc w o k hk))
 have hs:Stp X w (fun k=>X k∨vv'.ownBlock=some k) (w3.setCell ⟨K.pm,7,none⟩ vv'):=
  ⟨hg.os,hg.tape,hg.output,by simpa using m,fun k hx'=>hx'.elim .inl (fun e=>(r k e).elim (fun e2=> .inl (h.xv k e2)) .inr),fun k hk' hxk=>hk k hk' (fun e=>hxk (by rw[e];exact h.xm)) (fun e=>hxk (h.xv k e))⟩
 have g:∀ {v:Value} {e:TypeId} {sz n:Nat} {xs:List Value},w.ownsRow K.B e sz v n xs->e≠3->e≠120->∀k,v.ownBlock=some k->(w3.setCell ⟨K.pm,7,none⟩ vv').heap[k]? =w.heap[k]?:=fun {v e sz n xs} ho h1 h2 k hk'=>by
  refine hk k (ho.lt k hk').2 (fun e3=>zC ho h.blk (.inr h2) (by rw[hk',e3])) (fun e3=>?_);rcases zo ho h.vown h1 with j|j
  ·rw[j] at hk';cases hk'
  ·exact j (by rw[hk',e3])
 refine⟨⟨?_,yD h.own (g h.own Zd Zd),h.fl,fun q hq=>(h.bok q hq).step hs (g (h.bok q hq).own Zd Zd) (fun _ e=> .inl e),h.apart,?_,?_,.inl h.xm,fun k e=> .inl (h.xf k e),fun k e=> .inr e,fun k e=>e.elim (h.xB k) (fun e2=>(c.lt k e2).1),fun k e=>?_,h.env.step hs (hs.below h.xB h.size),?_,h.lft⟩,hs⟩
 ·rw[zD i];rfl
 ·show(w3.setCell ⟨K.pm,7,none⟩ vv').ownsRow K.B 3 1 vv' (M.vals++ [x]).length ((M.vals++ [x]).map zN)
  rw[Jk,Ju,Js];exact ownsRow_setCell_other c (fun e=>zC c i (.inr Zd) (by simpa using e)) _
 ·intro y d;rcases Jl.1 d with d|d
  ·exact h.v64 y d
  ·rw[Jo] at d;subst d;exact t
 ·rcases e with e|e
  ·have:=h.xl k e;simp;omega
  ·have:=(c.lt k e).2;simpa using this
 ·unfold MS.sz at *;simp only[Jk,Ju];omega
theorem MkIn.putO{w6:World}{fv i:Value}(h:MkIn w K X M fv vv l){lb:Nat}(hq:l[c]? =some q)(hg:fv.ownBlock=some g)
 {W3:World} (m:L w W3) (r:W3.grownBy w6 q.ov.ownBlock) {o:IOp} {av:Value} (t:w6.ownsRow K.B 77 6 i (q.ol.length+1) (q.ol.flatMap zU++zU (o,av)))
 (x:∀k,i.ownBlock=some k->q.ov.ownBlock=some k∨w.heap.size<=k) (a5:w.heap.size<=lb) {cs:Array Value} (a1:Y w6 lb cs 49)
 (hW:∃u,W=((w6.setCell ⟨lb,1,none⟩ u).drew.setCells g (c*5) (xG ⟨{q.b with ops:=q.b.ops++ [o]},q.pv,i,q.tv,q.ol++ [(o,av)]⟩)))
 (ho:qN o/\wm w (K.av X) av o.args) (hf:M'.f=M.f.set c {q.b with ops:=q.b.ops++ [o]}) (hM:M'.pos=M.pos/\M'.cur=M.cur/\M'.next=M.next/\M'.vals=M.vals/\M'.left=M.left) (hz:M'.sz<=1000000):
 ∃X',MkIn W K X' M' fv vv (l.set c ⟨{q.b with ops:=q.b.ops++ [o]},q.pv,i,q.tv,q.ol++ [(o,av)]⟩)/\Stp X w X' W:=by
 obtain⟨u,rfl⟩:=hW;have d:=h.bok q (Ji hq);have y:=h.xf g hg;have a3:=h.xl g y
 have hk:∀k,k<w.heap.size->k≠g->q.ov.ownBlock≠some k->((w6.setCell ⟨lb,1,none⟩ u).drew.setCells g (c*5) (xG ⟨{q.b with ops:=q.b.ops++ [o]},q.pv,i,q.tv,q.ol++ [(o,av)]⟩)).heap[k]? =w.heap[k]?:=fun k hk hne hv=>
  (ye g k hne _ _ _).trans ((Below.heap_setCell w6 ⟨lb,1,none⟩ u k (by show k≠lb;omega)).trans ((r.block k (by have:=m.size;omega) (fun e=>hv e.symm)).trans (m.block k hk)))
 have hs:Stp X w (fun k=>X k∨i.ownBlock=some k) ((w6.setCell ⟨lb,1,none⟩ u).drew.setCells g (c*5) (xG ⟨{q.b with ops:=q.b.ops++ [o]},q.pv,i,q.tv,q.ol++ [(o,av)]⟩)):=
  ⟨(ze g _ _ _).1.trans (r.os.trans m.os),(ze g _ _ _).2.1.trans (r.tape.trans m.tape),(ze g _ _ _).2.2.trans (r.output.trans m.output),by rw[y8];have:=m.size;have:=r.size;simp;omega,
   fun k hx'=>hx'.elim .inl (fun e=>(x k e).elim (fun e2=> .inl (d.inX k e2)) .inr),fun k hk' hxk=>hk k hk' (fun e=>hxk (by rw[e];exact y)) (fun e=>hxk (d.inX k e))⟩
 have a0:∀k,i.ownBlock=some k->k≠lb/\k≠g:=fun k e=>⟨fun e2=>zC t a1 (.inr Zd) (by rw[e,e2]),fun e2=>by
  rcases x k e with e3|e3
  ·rcases zo d.own h.own Zd with h1|h1
   ·rw[h1] at e3;cases e3
   ·exact h1 (by rw[e3,hg,e2])
  ·omega⟩
 have a2:q.ov.ownBlock≠some g:=fun e=>by
  rcases zo d.own h.own Zd with h1|h1
  ·rw[h1] at e;cases e
  ·exact h1 (by rw[e,hg])
 have a4:(w6.setCell ⟨lb,1,none⟩ u).drew.ownsRow K.B 49 5 fv l.length (l.flatMap xG):=yD h.own (fun k e=>by
  have e2:k=g:=by rw[hg] at e;cases e;rfl
  subst e2
  exact(Below.heap_setCell w6 ⟨lb,1,none⟩ u k (by show k≠lb;omega)).trans ((r.block k (by have:=m.size;omega) (fun e3=>a2 e3.symm)).trans (m.block k a3)))
 refine⟨_,h.turn (M':=M') hq hg hs (fun k e=> .inl e) (fun k e=>?_) (fun k e=>e.elim (h.xB k) (fun e2=>(t.lt k e2).1)) (fun k hk' _ hne hv=>hk k hk' hne hv) (fun e=>zC d.own h.blk (.inr Zd) e) (uZ yr a4 hg hq _) ?_ (fun j qj k hj h1 h2=>?_) hf hM hz,hs⟩
 ·rcases e with e|e
  ·exact Jy (h.xl k e) hs.size
  ·rw[y8];have:=(t.lt k e).2;simpa using this
 ·refine⟨d.k64,d.par.step zn (hs.av K),by rw[Js,<-d.ops];rfl,?_,fun p hp=>?_,d.tos.step yq (hs.av K),fun k e=> .inr e⟩
  ·rw[Jk,Ju,Nx];refine yD (show w6.ownsRow K.B 77 6 i (q.ol.length+1) (q.ol.flatMap zU++ [(o,av)].flatMap zU) from t) (fun k e=>?_);obtain⟨e1,e2⟩:=a0 k e;exact(ye g k e2 _ _ _).trans (Below.heap_setCell w6 ⟨lb,1,none⟩ u k e1)
  ·rcases Jl.1 hp with hp|hp
   ·exact⟨(d.arg p hp).1,(d.arg p hp).2.step zn (hs.av K)⟩
   ·rw[Jo] at hp;subst hp;exact⟨ho.1,ho.2.step zn (hs.av K)⟩
 ·rcases x k h1 with e|e
  ·exact h.apart j c qj q k hj hq h2 e
  ·have:=((h.bok qj (Ji hj)).own.lt k h2).2;omega
theorem MkIn.putB{fv fv':Value}(h:MkIn w K X M fv vv l)(hg:(w.alloc o).grownBy w3 fv.ownBlock){b:IBlk}{pv:Value}(hb:b.ops=[]/\b.term=⟨0,0,[]⟩)
 (c:w3.ownsRow K.B 49 5 fv' (l.length+1) (l.flatMap xG++xG ⟨b,pv,F,F,[]⟩)) (y:∀k,fv'.ownBlock=some k->fv.ownBlock=some k∨w.heap.size<=k) (t:wm w (K.av X) pv b.params) (hz:M.sz+1<=1000000):
 MkIn (w3.setCell ⟨K.pm,4,none⟩ fv') K (fun k=>X k∨fv'.ownBlock=some k) {M with f:=M.f++ [b]} fv' vv (l++ [⟨b,pv,.slice none 0 0,.slice none 0 0,[]⟩])/\Stp X w (fun k=>X k∨fv'.ownBlock=some k) (w3.setCell ⟨K.pm,4,none⟩ fv'):=by
 have n1:=zC h.own h.blk (.inr Zd);have r:=zL hg (zB h.blk) n1;have x:w.heap.size<=w3.heap.size:=by have:=hg.size;simp at this;omega
 have hk:∀k,k<w.heap.size->k≠K.pm->fv.ownBlock≠some k->(w3.setCell ⟨K.pm,4,none⟩ fv').heap[k]? =w.heap[k]?:=fun k hk hne hv=>
  (Below.heap_setCell w3 ⟨K.pm,4,none⟩ fv' k hne).trans ((hg.block k Zt (fun e=>hv e.symm)).trans (Below.heap_alloc w o k hk))
 have hs:Stp X w (fun k=>X k∨fv'.ownBlock=some k) (w3.setCell ⟨K.pm,4,none⟩ fv'):=
  ⟨hg.os,hg.tape,hg.output,by simpa using x,fun k hx'=>hx'.elim .inl (fun e=>(y k e).elim (fun e2=> .inl (h.xf k e2)) .inr),fun k hk' hxk=>hk k hk' (fun e=>hxk (by rw[e];exact h.xm)) (fun e=>hxk (h.xf k e))⟩
 have d:∀ {v:Value} {e:TypeId} {sz n:Nat} {xs:List Value},w.ownsRow K.B e sz v n xs->e≠49->e≠120->∀k,v.ownBlock=some k->(w3.setCell ⟨K.pm,4,none⟩ fv').heap[k]? =w.heap[k]?:=fun {v e sz n xs} ho h1 h2 k hk'=>by
  refine hk k (ho.lt k hk').2 (fun e3=>zC ho h.blk (.inr h2) (by rw[hk',e3])) (fun e3=>?_);rcases zo ho h.own h1 with u|u
  ·rw[u] at hk';cases hk'
  ·exact u (by rw[hk',e3])
 refine⟨⟨?_,?_,?_,fun q hq=>?_,fun i j qi qj k hi hj hqi hqj=>?_,yD h.vown (d h.vown Zd Zd),h.v64,.inl h.xm,fun k e=> .inr e,fun k e=> .inl (h.xv k e),fun k e=>e.elim (h.xB k) (fun e2=>(c.lt k e2).1),fun k e=>?_,h.env.step hs (hs.below h.xB h.size),?_,h.lft⟩,hs⟩
 ·rw[zD r];rfl
 ·rw[Jk,Ju,Nx];exact ownsRow_setCell_other (show w3.ownsRow K.B 49 5 fv' (l.length+1) (l.flatMap xG++ [(⟨b,pv,.slice none 0 0,.slice none 0 0,[]⟩:BM)].flatMap xG) from c) (fun e=>zC c r (.inr Zd) (by simpa using e)) _
 ·rw[Js,<-h.fl];rfl
 ·rcases Jl.1 hq with hq|hq
  ·exact(h.bok q hq).step hs (d (h.bok q hq).own Zd Zd) (fun _ e=> .inl e)
  ·rw[Jo] at hq;subst hq;refine⟨?_,t.step zn (hs.av K),hb.1,Jv _ _ _ _,(fun o ho=>by cases ho),?_,(fun k e=>by simp[Value.ownBlock] at e)⟩
   ·rw[hb.2];exact⟨⟨by decide,by decide⟩,⟨by decide,by decide⟩⟩
   ·rw[hb.2];exact yE.nil
 ·have g:∀(m:Nat) (qm:BM),(l++ [(⟨b,pv,.slice none 0 0,.slice none 0 0,[]⟩:BM)])[m]? =some qm->qm.ov.ownBlock=some k->l[m]? =some qm:=fun m qm hm hqm=>by
   by_cases e:m<l.length
   ·rwa [Np e] at hm
   ·rw[Nc Zo] at hm;have:m-l.length=0:=by have:=(Jh.1 hm).1;simp at this;omega
    rw[this] at hm;cases hm;simp[Value.ownBlock] at hqm
  exact h.apart i j qi qj k (g i qi hi hqi) (g j qj hj hqj) hqi hqj
 ·rcases e with e|e
  ·have:=h.xl k e;simp;omega
  ·have:=(c.lt k e).2;simpa using this
 ·have e:nN [b]=0:=by unfold nN;simp[hb.1]
  unfold MS.sz at *;simp only[Jk,Ju,ry,e];omega
theorem nW (c:Int):((zi c).res=true/\sx c=true)∨((zi c).res=false/\c=26/\sx c=true)∨((zi c).res=false/\c≠26/\sx c=false):=by
 unfold sx
 by_cases h:(zi c).res=true
 ·exact .inl ⟨h,by rw[h];rfl⟩
 ·have d:(zi c).res=false:=by simpa using h
  by_cases e:c=26
  ·exact .inr (.inl ⟨d,e,by rw[decide_eq_true e,Bool.or_true]⟩)
  ·exact .inr (.inr ⟨d,e,by rw[d,decide_eq_false e];rfl⟩)
def uN (M:MS)(c:Int):Nat:=if sx c then M.next+1 else M.next
def sB (M:MS)(c:Int):Int:=if sx c then(M.next:Int) else -1
def EmMid (w:World)(K:MKC)(X:Nat->Prop)(M:MS)(fv vv:Value)(l:List BM)(o:IOp)(av:Value)(wx:World):Prop:=
 Y wx w.heap.size #[O o.code,O (sB M o.code),O o.a,O o.b,U (o.n:Int),av] 77/\MkIn wx K X {M with next:=uN M o.code } fv vv l/\Stp X w X wx
theorem rD(h:wW w K X M){o:IOp}(ho:qN o){av:Value}(f1:wm w (K.av X) av o.args)(hcur:M.cur<M.f.length)(hz:M.sz+3<=1000000):
 G 117 #[I K.pm,.agg #[O o.code,O o.res,O o.a,O o.b,U (o.n:Int),av]] w (yk K X w (M.emit o) (O (sB M o.code))):=by
 obtain⟨fv,vv,l,h⟩:=h;obtain⟨aa,ac,f0,_,_⟩:=f1.form;have b7:=lt_of_block h.blk;have H:=Ja (Jb h (Jb ho (Jb f1 (Jb f0 (Jb hcur hz)))));clear h ho f1 hcur hz;subst f0;go_enter Try.func117,Try.ntmps117;go_upto_region 3 with(go_at_call 54;go_must (refine(aaK o.code _).mono ?_;rintro e w1 ⟨rfl,e9⟩;unfold acg;have bx:Y w1 w.heap.size (D o aa ac) 77:=zH e9 (zI rfl) Zs;have y0:=zA (i:=0) bx rfl;have y1:=zA (i:=1) bx rfl;have k2:N w1 w.heap.size 1:=zE bx;have l8:=lt_of_block bx))
 have d2:L w w1:=(((Below.refl w.heap.size w).alloc (Je _) _).trans (e9.mono Zs))
 have a2:L w ((w1.setCell ⟨w.heap.size,1,none⟩ (O (-1))).alloc (A #[.bool (zi o.code).is,.bool (zi o.code).res,.bool (zi o.code).a,.bool (zi o.code).b,.bool (zi o.code).n] 111)):=(d2.setCell (Je _) _).alloc (by have:=d2.size;simp;omega) _;have d1:Y ((w1.setCell ⟨w.heap.size,1,none⟩ (O (-1))).alloc (A #[.bool (zi o.code).is,.bool (zi o.code).res,.bool (zi o.code).a,.bool (zi o.code).b,.bool (zi o.code).n] 111)) w.heap.size #[O o.code,O (-1),O o.a,O o.b,U (o.n:Int),.slice aa o.args.length ac] 77:=zB (zD bx _);have e8:Y ((w1.setCell ⟨w.heap.size,1,none⟩ (O (-1))).alloc (A #[.bool (zi o.code).is,.bool (zi o.code).res,.bool (zi o.code).a,.bool (zi o.code).b,.bool (zi o.code).n] 111)) w1.heap.size #[.bool (zi o.code).is,.bool (zi o.code).res,.bool (zi o.code).a,.bool (zi o.code).b,.bool (zi o.code).n] 111:=zI Zs;generalize j5:(w1.setCell ⟨w.heap.size,1,none⟩ (O (-1))).alloc (A #[.bool (zi o.code).is,.bool (zi o.code).res,.bool (zi o.code).a,.bool (zi o.code).b,.bool (zi o.code).n] 111)=W2 at *;generalize m2:w1.heap.size=c2 at *;have z0:=zA (i:=0) d1 rfl;have z1:=zA (i:=1) e8 rfl;have H2:=Ja (Jb a2 (Jb d1 e8));clear e9 bx y0 y1 k2 d2 a2 d1 e8 j5
 go_cut [17] (fun v wx=>v=.bool (sx o.code)/\wx=W2)
 case first=>
  rcases nW o.code with⟨e1,e2⟩|⟨e1,e3,e2⟩|⟨e1,e3,e2⟩
  all_goals rw[e1] at z1
  all_goals have E2:=Ja e2
  ·clear e1 e2;go_wp2;go_meet;exact⟨by rw[E2.out],rfl⟩
  ·have i0:(o.code==26)=true:=by rw[e3];rfl
   clear e1 e2 e3;go_wp2;go_meet;exact⟨by rw[E2.out],rfl⟩
  ·have i0:(o.code==26)=false:=by rw[beq_eq_false_iff_ne];exact e3
   clear e1 e2 e3;go_wp2;go_meet;exact⟨by rw[E2.out],rfl⟩
 case rest=>
  obtain⟨rfl,k9⟩:=hcut;subst wc;have a3:=H.out.1.keep H2.out.1;have g3:=d9 a3 (by have:=H.out.2.2.2.2.2;omega)
  have c0:sx o.code=false->EmMid w K X M fv vv l o (.slice aa o.args.length ac) W2:=fun e=>by
   have e1:sB M o.code=-1:=by unfold sB;rw[e];rfl
   have e2:uN M o.code=M.next:=by unfold uN;rw[e];rfl
   exact⟨by rw[e1];exact H2.out.2.1,by rw[e2];exact a3,Stp.of_below H2.out.1⟩
  have b9:sx o.code=true->EmMid w K X M fv vv l o (.slice aa o.args.length ac) ((W2.setCell ⟨K.pm,6,none⟩ (O ((M.next+1:Nat):Int))).setCell ⟨w.heap.size,1,none⟩ (O (M.next:Int))):=fun e=>by
   have e1:sB M o.code=(M.next:Int):=by unfold sB;rw[e];rfl
   have e2:uN M o.code=M.next+1:=by unfold uN;rw[e];rfl
   have l7:=lt_of_block H.out.1.blk;have i3:=(a3.blk)
   have g0:=H.out.1.only (W:=((W2.setCell ⟨K.pm,6,none⟩ (O ((M.next+1:Nat):Int))).setCell ⟨w.heap.size,1,none⟩ (O (M.next:Int)))) (M':= {M with next:=M.next+1 }) (by simpa using H2.out.1.size) ⟨H2.out.1.os,H2.out.1.tape,H2.out.1.output⟩ (fun k hk hne=>(Below.heap_setCell _ ⟨w.heap.size,1,none⟩ _ k (by show k≠w.heap.size;omega)).trans ((Below.heap_setCell _ ⟨K.pm,6,none⟩ _ k hne).trans (H2.out.1.block k hk)))
    (zR (zD i3 _) (by show K.pm≠w.heap.size;omega)) rfl rfl (by have:=H.out.2.2.2.2.2;unfold MS.sz at *;simp only at *;omega) H.out.1.lft
   refine⟨?_,by rw[e2];exact g0.1,g0.2⟩;rw[e1];exact zD (zR H2.out.2.1 (by show w.heap.size≠K.pm;omega)) _
  have h7:∀(u:Value),N (W2.setCell ⟨K.pm,6,none⟩ u) w.heap.size 1:=fun u=>(World.frozen?_setCell ..).trans (zE H2.out.2.1)
  have h8:∀(u:Value),T (W2.setCell ⟨K.pm,6,none⟩ u) w.heap.size 1 (O (-1)):=fun u=>zA (i:=1) (zR (a:=⟨K.pm,6,none⟩) (u:=u) H2.out.2.1 (by show w.heap.size≠K.pm;omega)) rfl
  have y:=Ja (Jb g3 (Jb c0 b9));clear g3 c0 b9 a3
  go_upto_if 17 with fail
  go_cut [] (fun wx=>Hid (EmMid w K X M fv vv l o (.slice aa o.args.length ac) wx))
  case first=>
   obtain⟨r,hr⟩:∃r,sx o.code=r:=⟨_,rfl⟩
   have HR:=Ja hr;rw[hr];clear hr;cases r
   ·go_wp2;go_meet;exact Ja (y.out.2.1 HR.out)
   ·go_wp2_with (go_at_call 90;go_must (refine y.out.1.mono ?_;rintro e w3 ⟨rfl,rfl⟩))
    go_meet;exact Ja (y.out.2.2 HR.out)
  case rest=>
   obtain⟨b0,h,hs⟩:=hcut.out;have hcur:=H.out.2.2.2.2.1;obtain⟨b,hb⟩:∃b,M.f[M.cur]? =some b:=⟨_,Jd hcur⟩
   obtain⟨q,hq,rfl,a6⟩:=h.getB (i:=M.cur) hb;obtain⟨g,c,rfl,m4,a9,l9⟩:=h.fblk hq;obtain⟨pa,pc,b6,_,_⟩:=a6.par.form;obtain⟨oa,oc,b2⟩:=zG a6.own;obtain⟨ea,ec,b5,_,_⟩:=a6.tos.form;have c4:=h.c4;have c5:T wc K.pm 5 (O (M.cur:Int)):=h.c5;have a5:=wb yr h.own rfl hq;have e0:T wc g (M.cur*5) q.pv:=a5 0 _ rfl;have e1:=a5 1 _ rfl;have e2:=a5 2 _ rfl;have e3:=a5 3 _ rfl;have e4:=a5 4 _ rfl;have b7:=lt_of_block h.blk;have i8:l.length=M.f.length:=h.len;have m1:(M.cur:Int)<(l.length:Int):=Zo;have m3:(0:Int)<=(M.cur:Int):=Zo;have j3:=lt_of_block b0;rw[b6] at e0;rw[b2] at e1;rw[b5] at e4;have f2:∀w',L wc w'->T w' K.pm 4 (Q g l.length c)/\T w' K.pm 5 (O (M.cur:Int))/\T w' g (M.cur*5) (.slice pa q.b.params.length pc)/\T w' g (M.cur*5+1) (.slice oa q.ol.length oc)/\T w' g (M.cur*5+2) (O q.b.term.kind)/\T w' g (M.cur*5+3) (O q.b.term.a)/\T w' g (M.cur*5+4) (.slice ea q.b.term.to.length ec):=fun w' hb=>⟨zV hb b7 c4,zV hb b7 c5,zV hb a9 e0,zV hb a9 e1,zV hb a9 e2,zV hb a9 e3,zV hb a9 e4⟩
   have f5:=Ja f2;have HC:=Ja (Jb h (Jb hq (Jb a6 (Jb hb (Jb b6 (Jb b2 (Jb b5 (Jb b0 hs))))))));obtain⟨R,hR⟩:∃R,sB M o.code=R:=⟨_,rfl⟩
   rw[hR] at b0;have HR:=Ja hR;clear f2 c4 c5 e0 e1 e2 e3 e4 h hs hq a6 hb a5 b6 b2 b5 i8 hcut y h7 h8 z0 z1 hR;go_upto_region 5 with fail
   go_region_held3 (fun w'=>T w' K.pm 4 (Q g l.length c)/\T w' K.pm 5 (O (M.cur:Int))/\T w' g (M.cur*5) (.slice pa q.b.params.length pc)/\T w' g (M.cur*5+1) (.slice oa q.ol.length oc)/\T w' g (M.cur*5+2) (O q.b.term.kind)/\T w' g (M.cur*5+3) (O q.b.term.a)/\T w' g (M.cur*5+4) (.slice ea q.b.term.to.length ec))
    ((refine f5.out _ ?_;repeat' (first|exact Below.refl _ _|refine Below.drew ?_|refine Below.alloc ?_ (by simp<;>omega) _|refine Below.setCell ?_ (by simp<;>omega) _)))
    (fail)
   go_upto_region 6 with fail;have a2:L wc ((wc.alloc (A #[.slice pa q.b.params.length pc,.slice oa q.ol.length oc,O q.b.term.kind,O q.b.term.a,.slice ea q.b.term.to.length ec] 49)).drew):=((Below.refl _ _).alloc (Je _) _).drew;have c3:Y ((wc.alloc (A #[.slice pa q.b.params.length pc,.slice oa q.ol.length oc,O q.b.term.kind,O q.b.term.a,.slice ea q.b.term.to.length ec] 49)).drew) wc.heap.size #[.slice pa q.b.params.length pc,.slice oa q.ol.length oc,O q.b.term.kind,O q.b.term.a,.slice ea q.b.term.to.length ec] 49:=zI rfl;generalize k0:(wc.alloc (A #[.slice pa q.b.params.length pc,.slice oa q.ol.length oc,O q.b.term.kind,O q.b.term.a,.slice ea q.b.term.to.length ec] 49)).drew=V2 at *;have a3:=HC.out.1.keep a2;have e6:=HC.out.2.2.1.step (Stp.of_below a2) (fun k hk=>a2.block k (HC.out.2.2.1.own.lt k hk).2) (fun _ e=>e);have a0:=zH a2 b0 j3;have l1:=zA (i:=1) c3 rfl;have x0:=zA (i:=0) a0 rfl;have x1:=zA (i:=1) a0 rfl;have x2:=zA (i:=2) a0 rfl;have x3:=zA (i:=3) a0 rfl;have x4:=zA (i:=4) a0 rfl;have x5:=zA (i:=5) a0 rfl;have j0:=lt_of_block c3;have b1:=e6.own;rw[HC.out.2.2.2.2.2.1] at b1;have d7:yM (V2.alloc (A #[O o.code,O R,O o.a,O o.b,U (o.n:Int),.slice aa o.args.length ac] 77)) 6 (Q V2.heap.size 1 1) 1 (zU ({o with res:=R },.slice aa o.args.length ac)):=yM.cells (zI rfl) rfl (by simp[zU,Value.oneCell'])
   have hn:q.ol.length<=1000000:=by
    have h1:=opsN_le HC.out.2.2.2.1;rw[HC.out.2.2.1.ops,Nr] at h1;have h2:=HC.out.1.bnd;unfold MS.sz at h2;simp only at h2;omega
   have HV:=Ja (Jb a2 (Jb c3 (Jb a3 (Jb e6 (Jb a0 (Jb b1 (Jb d7 hn)))))));have k1:K.B<=V2.heap.size:=a3.size;obtain⟨ii,j2,h4,h0,g9⟩:=info_parts Try.info_irop;clear a2 c3 a3 e6 a0 b1 d7 k0 b0 f5 hn;go_upto_region 7 with(at_builtin;go_must (refine zK _ rfl (.tmp 33) (.tmp 35) 44 rfl K.B 77 ii (.agg #[O 0,O 0,O 0,O 0,U 0,F]) 6 64 Try.underlying44 j2 h4 h0 g9 rfl Zd (.slice oa q.ol.length oc) q.ol.length (q.ol.flatMap zU) rfl (HV.out.2.2.2.2.2.1.alloc _) _ 1 (zU ({o with res:=R },.slice aa o.args.length ac)) rfl HV.out.2.2.2.2.2.2.1 (by have:=HV.out.2.2.2.2.2.2.2;unfold maxLen;omega) (by have:=HV.out.2.2.2.2.2.2.2;omega) Zt ?_;intro v9 w9 j d a4;obtain⟨oa9,oc9,rfl⟩:=zG j;have hz:=zL d (zB HV.out.2.1) (by have:=zC HV.out.2.2.2.2.2.1 HV.out.2.1 (.inr Zd);exact this);have d0:=zA (i:=1) hz rfl;have i2:N w9 wc.heap.size 1:=zE hz))
   have f9:q.ov.ownBlock≠some g:=fun e=>by
    rcases zo HC.out.2.2.1.own HC.out.1.own Zd with h1|h1
    ·rw[h1] at e;cases e
    ·exact h1 (by rw[e];rfl)
   have d8:(Value.slice oa q.ol.length oc).ownBlock=q.ov.ownBlock:=by rw[HC.out.2.2.2.2.2.1]
   rw[d8] at d a4
   have c8:(w9.setCell ⟨wc.heap.size,1,none⟩ (.slice oa9 (q.ol.length+1) oc9)).ownsRow K.B 49 5 (Q g l.length c) l.length (l.flatMap xG):=yD HC.out.1.own (fun k e=>by
    have e2:k=g:=by simp[Value.ownBlock] at e;exact e.symm
    subst e2
    exact(Below.heap_setCell w9 ⟨wc.heap.size,1,none⟩ _ k (by show k≠wc.heap.size;omega)).trans ((d.block k (by have:=HV.out.1.size;simp;omega) (fun e3=>f9 e3.symm)).trans ((Below.heap_alloc V2 _ k (by have:=HV.out.1.size;omega)).trans (HV.out.1.block k a9))))
   have e7:q.ov.ownBlock≠some K.pm:=fun e=>zC HC.out.2.2.1.own HC.out.1.blk (.inr Zd) e
   have b8:=zR (a:=⟨wc.heap.size,1,none⟩) (u:=.slice oa9 (q.ol.length+1) oc9) (zL d (zB HV.out.2.2.1.blk) e7) (by show K.pm≠wc.heap.size;omega);have a7:=zD hz (i:=1) (.slice oa9 (q.ol.length+1) oc9);have c4:T (w9.setCell ⟨wc.heap.size,1,none⟩ (.slice oa9 (q.ol.length+1) oc9)) K.pm 4 (Q g l.length c):=zA (i:=4) b8 rfl;have c5:T (w9.setCell ⟨wc.heap.size,1,none⟩ (.slice oa9 (q.ol.length+1) oc9)) K.pm 5 (O (M.cur:Int)):=zA (i:=5) b8 rfl;have l0:=zA (i:=0) a7 rfl;have l1:=zA (i:=1) a7 rfl;have l2:=zA (i:=2) a7 rfl;have l3:=zA (i:=3) a7 rfl;have l4:=zA (i:=4) a7 rfl;have HG:=Ja (Jb j (Jb d (Jb a4 (Jb hz c8))));have d4:=zq Zd yr c8 rfl HC.out.2.1;generalize f3:w9.setCell ⟨wc.heap.size,1,none⟩ (.slice oa9 (q.ol.length+1) oc9)=W10 at c4 c5 l0 l1 l2 l3 l4 d4 ⊢;have f4:=Ja f3;have g4:=Ja d4;clear j d a4 hz d0 i2 b8 a7 f9 d8 c8 e7 d4 f3 x0 x1 x2 x3 x4 x5 k1;refine zt 11 Zk Zk ?_;simp only[Qo,Uc,Qp,Ui]
   repeat (go_big_quiet_step (fail))
   refine wpQuiet_nil ?_;refine wpList_store_mid rfl 49 (.tmp 48) (.tmp 47) rfl g (M.cur*5) #[.slice pa q.b.params.length pc,.slice oa9 (q.ol.length+1) oc9,O q.b.term.kind,O q.b.term.a,.slice ea q.b.term.to.length ec] rfl rfl g4.out Zk (by simp[Value.oneCell']) ?_;go_upto_region 8 with fail
   have h5:∃X',MkIn (W10.drew.setCells g (M.cur*5) [.slice pa q.b.params.length pc,.slice oa9 (q.ol.length+1) oc9,O q.b.term.kind,O q.b.term.a,.slice ea q.b.term.to.length ec]) K X' {M with next:=uN M o.code,f:=M.f.set M.cur {q.b with ops:=q.b.ops++ [{o with res:=R }]}} (Q g l.length c) vv (l.set M.cur ⟨{q.b with ops:=q.b.ops++ [{o with res:=R }]},q.pv,.slice oa9 (q.ol.length+1) oc9,q.tv,q.ol++ [({o with res:=R },.slice aa o.args.length ac)]⟩)
    /\Stp X wc X' (W10.drew.setCells g (M.cur*5) [.slice pa q.b.params.length pc,.slice oa9 (q.ol.length+1) oc9,O q.b.term.kind,O q.b.term.a,.slice ea q.b.term.to.length ec]):=by
    obtain⟨h,hq,a6,hb,b6,b2,b5,b0,hs⟩:=HC.out;obtain⟨j,d,a4,hz,c8⟩:=HG.out;refine h.putO (M':= {M with next:=uN M o.code,f:=M.f.set M.cur {q.b with ops:=q.b.ops++ [{o with res:=R }]}}) hq rfl (HV.out.1.alloc HV.out.1.size _) d j (fun k e=>?_) (Je _) hz ⟨.slice oa9 (q.ol.length+1) oc9,?_⟩ ⟨?_,H.out.2.2.1.step zn (hs.av K)⟩ rfl ⟨rfl,rfl,rfl,rfl,rfl⟩ ?_
    ·rcases a4 with e2|e2
     ·exact .inl (by rw[<-e2];exact e)
     ·right;have e3:=e2.symm.trans e;have:=HV.out.1.size;simp at e3;omega
    ·rw[<-f4.out];unfold xG;rw[b6,b5]
    ·obtain⟨o1,o2,o3,o4,o5⟩:=H.out.2.1;refine⟨o1,?_,o3,o4,o5⟩;rw[<-HR.out];unfold sB;have:M.next<=M.sz:=by unfold MS.sz;omega
     have:=H.out.2.2.2.2.2
     show I64 (if sx o.code then(M.next:Int) else -1)
     split<;>exact⟨by omega,by omega⟩
    ·have h1:=sN M.f M.cur q.b {q.b with ops:=q.b.ops++ [{o with res:=R }]} hb;simp at h1;have h2:=H.out.2.2.2.2.2;unfold MS.sz at h2 ⊢;unfold uN;simp only[Nd]
     split<;>omega
   obtain⟨X',hm,d6⟩:=h5;have d5:=HC.out.2.2.2.2.2.2.2.2.trans d6;have b3:=d6.blk HC.out.2.2.2.2.2.2.2.1 (fun e=>by have:=H.out.1.xl _ e;omega);generalize j4:W10.drew.setCells g (M.cur*5) [.slice pa q.b.params.length pc,.slice oa9 (q.ol.length+1) oc9,O q.b.term.kind,O q.b.term.a,.slice ea q.b.term.to.length ec]=WF at *;generalize l.set M.cur ⟨{q.b with ops:=q.b.ops++ [{o with res:=R }]},q.pv,.slice oa9 (q.ol.length+1) oc9,q.tv,q.ol++ [({o with res:=R },.slice aa o.args.length ac)]⟩=lst at *;rw[HR.out] at b3;have x1:=zA (i:=1) b3 rfl;have y:=Ja (Jb hm (Jb d5 b3))
   have g1: {M with next:=uN M o.code,f:=M.f.set M.cur {q.b with ops:=q.b.ops++ [{o with res:=R }]}}= {M.emit o with vals:=M.vals }:=by
    unfold MS.emit;rw[xI HC.out.2.2.2.1,<-HR.out];rfl
   have g5:=Ja g1;clear hm d6 d5 b3 j4 g1 c4 c5 l0 l1 l2 l3 l4 HG g4 f4 HV j0;obtain⟨r,hr⟩:∃r,sx o.code=r:=⟨_,rfl⟩
   have c9:=Ja hr;clear hr;cases r
   ·obtain rfl:R=-1:=by rw[<-HR.out];unfold sB;rw[c9.out];rfl
    go_wp2;go_ret;have a1:=y.out.1;rw[g5.out] at a1;have e: {M.emit o with vals:=M.vals }=M.emit o:=by unfold MS.emit;rw[c9.out];rfl
    rw[e] at a1;exact⟨zh HR.out.symm,X',⟨_,_,_,a1⟩,y.out.2.1⟩
   ·obtain rfl:R=(M.next:Int):=by rw[<-HR.out];unfold sB;rw[c9.out];rfl
    obtain⟨va,vc,d3⟩:=zG y.out.1.vown;have j:=y.out.1.vown;have c7:=y.out.1.c7;have f7:=y.out.1.free 7;have f8:=lt_of_block y.out.1.blk;have nb:=zC j y.out.1.blk (.inr Zd);rw[d3] at j c7 nb;have h6:=Ja j;have k5:=Ja d3
    have l5:M.vals.length<=1000000:=by
     have h2:=H.out.2.2.2.2.2;unfold MS.sz at h2;omega
    have k4:∀o,T (WF.alloc o) K.pm 7 (.slice va M.vals.length vc):=fun o=>(Oo (w:=WF) (Below.heap_alloc _ _ _ f8)).trans c7
    have k3:∀o,N (WF.alloc o) K.pm 7:=fun o=>(Qm (w:=WF) (Below.heap_alloc _ _ _ f8)).trans f7
    have h9:∀o,T (WF.alloc o) w.heap.size 1 (O (M.next:Int)):=fun o=>(Oo (w:=WF) (Below.heap_alloc _ _ _ (lt_of_block y.out.2.2))).trans x1
    have i1:=zC j y.out.2.2 (.inr Zd);have m5:K.B<=WF.heap.size:=y.out.1.size;have k7:=lt_of_block y.out.2.2;obtain⟨ij,j1,g8,g7,g6⟩:=info_parts Try.info_int;clear j d3;go_upto_region 9 with fail
    go_region_law (first|(refine step_append_lies _ (by rfl) (.tmp 56) (.tmp 59) _ (by rfl) K.B 3 ij (O 0) 1 8 Try.underlying22 j1 g8 g7 g6 rfl Zo (.slice va M.vals.length vc) M.vals.length (M.vals.map zN) (by rfl) ((h6.out.alloc _).drew) ⟨WF.heap.size,0,none⟩ 1 1 [O (M.next:Int)] (by rfl) (by rfl) (Oi (cs:=#[O (M.next:Int)]) (t:=3) (fr:=(0,0)) (heap_alloc_new WF _)) (by simp[Value.oneCell']) Zo (by unfold maxLen;omega) Zo Zt (WF.heap.size+1) Zs ?_;intro gg b4 w3 f6 d a4 k6;have m7:=(d.cell_far ⟨K.pm,7,none⟩ Zt (Ne.symm nb)).trans (k4 _);have m6:=(d.frozen_far ⟨K.pm,7,none⟩ Zt (Ne.symm nb)).trans (k3 _);have bp3:=(d.cell_far ⟨w.heap.size,1,none⟩ Zt (Ne.symm i1)).trans (h9 _)))
    all_goals go_wp2_with fail
    all_goals go_ret
    all_goals (
     have d0:(show MS from {M with next:=uN M o.code,f:=M.f.set M.cur {q.b with ops:=q.b.ops++ [{o with res:=(M.next:Int)}]}}).sz+1<=1000000:=by
      have h1:=sN M.f M.cur q.b {q.b with ops:=q.b.ops++ [{o with res:=(M.next:Int)}]} HC.out.2.2.2.1;simp at h1;have h2:=H.out.2.2.2.2.2;unfold MS.sz at h2 ⊢;unfold uN;simp only[Nd]
      split<;>omega
     have g2:=xN d;rw[<-k5.out] at g2 a4
     have hP:=y.out.1.putV (vv':=Q gg (M.vals.length+1) b4) (x:=(M.next:Int)) g2 f6 (fun k e=>by
      have e2:gg=k:=by simpa[Value.ownBlock] using e
      subst e2;rcases a4 with e3|e3
      ·exact .inl e3
      ·right;omega) (by have:=H.out.2.2.2.2.2;have:M.next<=M.sz:=by(unfold MS.sz;omega)
                        exact⟨by omega,by omega⟩) d0
     have a1:=hP.1
     have e:(show MS from {(show MS from {M with next:=uN M o.code,f:=M.f.set M.cur {q.b with ops:=q.b.ops++ [{o with res:=(M.next:Int)}]}}) with vals:=M.vals++ [(M.next:Int)]})=M.emit o:=by
      have:=g5.out;have h3:(M.emit o).vals=M.vals++ [(M.next:Int)]:=by unfold MS.emit;rw[c9.out];rfl
      rw[<-h3];exact congrArg (fun m:MS=> {m with vals:=(M.emit o).vals }) this
     have e5:=congrArg (fun m=>MkIn (w3.setCell ⟨K.pm,7,none⟩ (Q gg (M.vals.length+1) b4)) K (fun k=>X' k∨(Value.slice (some ⟨gg,0,none⟩) (M.vals.length+1) b4).ownBlock=some k) m (Q g l.length c) (Q gg (M.vals.length+1) b4) lst) e
     exact⟨zh HR.out.symm,_,⟨_,_,_,cast e5 a1⟩,y.out.2.1.trans hP.2⟩)
structure Row where
 v:Value
 e:TypeId
 sz:Nat
 n:Nat
 cs:List Value
def Row.blk (r:Row):Option Nat:=r.v.ownBlock
variable {rs rs':List Row}{r r':Row}
structure Rows (w:World) (B:Nat) (rs:List Row):Prop where
 own:∀r∈rs,w.ownsRow B r.e r.sz r.v r.n r.cs
 nd:(rs.filterMap Row.blk).Nodup
theorem Rows.perm{B:Nat}(h:Rows w B rs)(hp:rs.Perm rs'):Rows w B rs':=
 ⟨fun r hr=>h.own r (hp.mem_iff.2 hr),(hp.filterMap Row.blk).nodup_iff.1 h.nd⟩
theorem Rows.lt{B:Nat}(h:Rows w B rs)(hk:k∈rs.filterMap Row.blk):B<=k/\k<w.heap.size:=by
 obtain⟨r,hr,e⟩:=Nj.1 hk;exact(h.own r hr).lt k e
theorem Rows.keep{B:Nat}(h:Rows w B rs)(hk:∀k∈rs.filterMap Row.blk,w'.heap[k]? =w.heap[k]?):Rows w' B rs:=
 ⟨fun r hr=>yD (h.own r hr) (fun k e=>hk k (Nj.2 ⟨r,hr,e⟩)),h.nd⟩
theorem Rows.below{B:Nat}(h:Rows w B rs)(hb:L w w'):Rows w' B rs:=h.keep fun k hk=>hb.block k (h.lt hk).2
theorem Rows.base{B B':Nat}(h:Rows w B rs)(hB:B'<=B):Rows w B' rs:=⟨fun r hr=>vY (h.own r hr) hB,h.nd⟩
theorem Rows.tail{B:Nat}(h:Rows w B (r::rs)):Rows w B rs:=by
 refine⟨fun x hx=>h.own x (List.mem_cons_of_mem _ hx),?_⟩;have:=h.nd;rw[List.filterMap_cons] at this
 split at this
 ·exact this
 ·exact(Qt.1 this).2
theorem Rows.right{B:Nat}(h:Rows w B (rs++rs')):Rows w B rs':=by
 induction rs with
 |nil=>exact h
 |cons r rs ih=>exact ih h.tail
theorem Rows.apart{B:Nat}(h:Rows w B (r::rs))(hg:r.blk=some g):g ∉ rs.filterMap Row.blk:=by
 have:=h.nd;rw[List.filterMap_cons,hg] at this;exact(Qt.1 this).1
theorem Rows.cons{B:Nat}(h:Rows w B rs)(hr:w.ownsRow B r.e r.sz r.v r.n r.cs)(d:∀g,r.blk=some g->g ∉ rs.filterMap Row.blk):Rows w B (r::rs):=by
 refine⟨fun x c=>?_,?_⟩
 ·rcases Jq.1 c with rfl|c
  ·exact hr
  ·exact h.own x c
 ·rw[List.filterMap_cons]
  split
  ·exact h.nd
  ·rename_i g hg
   exact Qt.2 ⟨d g hg,h.nd⟩
theorem Rows.nil{B:Nat}:Rows w B []:=⟨fun r hr=>by simp at hr,by simp⟩
theorem Rows.append{B:Nat}(h:Rows w B rs)(c:Rows w' w.heap.size rs')(hb:L w w')(hB:B<=w.heap.size):Rows w' B (rs'++rs):=by
 have h1:=h.below hb;have h2:=c.base hB;refine⟨fun r hr=>(Jl.1 hr).elim (h2.own r) (h1.own r),?_⟩;rw[List.filterMap_append];refine Qq.2 ⟨c.nd,h.nd,fun a ha b hb' e=>?_⟩;have e1:=(c.lt ha).1;have e2:=(h.lt hb').2;omega
theorem Rows.grow{B:Nat}(h:Rows w B (r::rs))(hb:L w w1)(hg:w1.grownBy w' r.blk)(c:w'.ownsRow B r'.e r'.sz r'.v r'.n r'.cs)(d:∀k,r'.blk=some k->r.blk=some k∨w.heap.size<=k):Rows w' B (r'::rs):=by
 have i:Rows w' B rs:=h.tail.keep fun k hk=>(hg.block k (Jy (h.tail.lt hk).2 hb.size) (fun e=>h.apart e.symm hk)).trans (hb.block k (h.tail.lt hk).2)
 refine i.cons c fun g e hg2=>?_
 rcases d g e with e2|e2
 ·exact h.apart e2 hg2
 ·have:=(h.tail.lt hg2).2;omega
theorem Rows.put{B:Nat}(h:Rows w B (r::rs))(hg:r.blk=some g)(hk:∀k,k≠g->w'.heap[k]? =w.heap[k]?)(c:w'.ownsRow B r'.e r'.sz r'.v r'.n r'.cs)(hv:r'.v=r.v):Rows w' B (r'::rs):=by
 have d:Rows w' B rs:=h.tail.keep fun k hk2=>hk k (fun e=>h.apart hg (by rw[<-e];exact hk2))
 refine d.cons c fun g2 e hg2=>?_
 refine h.apart (g:=g2) ?_ hg2;unfold Row.blk at e ⊢;rw[<-hv];exact e
structure BT where
 params:List Int
 pv:Value
 ops:List (IOp×Value)
 ov:Value
 kind:Int
 a:Int
 tos:List (IEdge×Value)
 tv:Value
structure FT where
 blks:List BT
 bv:Value
structure PT where
 funcs:List FT
 fv:Value
 args:List Int
 av:Value
 data:List IObj
 dv:Value
 banks:List ByteArray
 bv:Value
 entry:Int
 handler:Int
def BT.blk (b:BT):IBlk:=⟨b.params,b.ops.map (·.1),⟨b.kind,b.a,b.tos.map (·.1)⟩⟩
def zz (b:BT):List Value:=[b.pv,b.ov,O b.kind,O b.a,b.tv]
def FT.fn (f:FT):List IBlk:=f.blks.map BT.blk
def PT.prog (t:PT):IProg:=⟨t.funcs.map FT.fn,t.args,t.entry,t.handler,t.data,t.banks⟩
def PT.V (t:PT):PV:=⟨t.fv,t.av,t.dv,t.bv⟩
def zP (v:Value)(xs:List Int):Row:=⟨v,3,1,xs.length,xs.map zN⟩
def yo (v:Value)(l:List (IOp×Value)):Row:=⟨v,77,6,l.length,l.flatMap zU⟩
def xg (v:Value)(l:List (IEdge×Value)):Row:=⟨v,75,2,l.length,l.flatMap za⟩
def zd (v:Value)(l:List BT):Row:=⟨v,49,5,l.length,l.flatMap zz⟩
def xP (o:IObj):List Value:=[O o.bank,U (o.addr:Int),U (o.size:Int)]
def wY (v:Value)(l:List FT):Row:=⟨v,43,1,l.length,l.map (·.bv)⟩
def vK (v:Value)(l:List IObj):Row:=⟨v,51,3,l.length,l.flatMap xP⟩
def v8 (v:Value)(l:List ByteArray):Row:=⟨v,9,1,l.length,l.map .string⟩
def wI (l:List (IOp×Value)):List Row:=l.map fun o=>zP o.2 o.1.args
def ve (l:List (IEdge×Value)):List Row:=l.map fun o=>zP o.2 o.1.args
def BT.rows (b:BT):List Row:=zP b.pv b.params::yo b.ov b.ops::xg b.tv b.tos::(wI b.ops++ve b.tos)
def FT.rows (f:FT):List Row:=zd f.bv f.blks::f.blks.flatMap BT.rows
def PT.rows (t:PT):List Row:=wY t.fv t.funcs::zP t.av t.args::vK t.dv t.data::v8 t.bv t.banks::t.funcs.flatMap FT.rows
structure B64 (b:IBlk):Prop where
 par:∀x∈b.params,I64 x
 ops:∀o∈b.ops,qN o/\∀x∈o.args,I64 x
 term:I64 b.term.kind/\I64 b.term.a
 tos:∀e∈b.term.to,I64 e.block/\∀x∈e.args,I64 x
structure P64 (p:IProg):Prop where
 funcs:∀f∈p.funcs,∀b∈f,B64 b
 args:∀x∈p.args,I64 x
 data:∀o∈p.data,I64 o.bank/\o.addr<65536/\o.size<65536
 banks:∀s∈p.banks,s.size<=9223372036854775807
 ent:I64 p.entry
 hnd:I64 p.handler
theorem wC{α β:Type}{sz:Nat}{f:β->List Value}{g:β->α}{R:World->Nat->Nat->Nat->α->Prop}(r:0<sz)(hf:∀a,(f a).length=sz){S:Nat}{e:TypeId}{v:Value}{l:List β}(h:w.ownsRow S e sz v l.length (l.flatMap f))
 (m:∀q∈l,∀b o,(∀j u,(f q)[j]? =some u->T w b (o+j) u)->R w w.heap.size b o (g q)):yN sz R w w.heap.size v (l.map g):=by
 obtain⟨a,c,rfl⟩:=zG h;have hl:=zm h;refine⟨a,c,by rw[Nr],by rw[Nr];exact hl.1,by omega,fun k o hk=>?_⟩;rw[Jr,Oz] at hk;obtain⟨q,hq,rfl⟩:=hk;have d:=(Jh.1 hq).1;obtain⟨gg,t,e,hg,hb⟩:=h.form Zo;cases e;refine⟨gg,0,rfl,hb,m q (Ji hq) _ _ fun j u hj=>?_⟩;have i:j<sz:=by rw[<-hf q];exact(Jh.1 hj).1
 rw[Ng]
 exact(h.cellAt (k*sz+j) (by
  have:(k+1)*sz<=l.length*sz:=Qw sz d;rw[Nat.add_mul] at this
  omega)).trans ((uB f sz hf l k q hq j i).trans hj)
theorem pT{B:Nat}{v:Value}(h:w.ownsRow B 3 1 v xs.length (xs.map zN))(h64:∀x∈xs,I64 x):zY w w.heap.size v xs:=by
 have h2:w.ownsRow B 3 1 v xs.length (xs.flatMap fun x=> [zN x]):=by rw[<-Qh];exact h
 have:=wC (sz:=1) (f:=fun x:Int=> [zN x]) (R:=IntR) (g:=fun x:Int=>x) Zd (fun _=>rfl) h2 (fun q hq b o hc=>⟨hc 0 _ rfl,h64 q hq⟩);rw[List.map_id'] at this;exact this
theorem y7 (q:IOp×Value):(zU q).length=6:=rfl
theorem yd (q:IEdge×Value):(za q).length=2:=rfl
theorem zX (q:BT):(zz q).length=5:=rfl
theorem sk (q:IObj):(xP q).length=3:=rfl
theorem BT.in{B:Nat}{b:BT}(h:∀r∈b.rows,w.ownsRow B r.e r.sz r.v r.n r.cs)(h64:B64 b.blk):zY w w.heap.size b.pv b.params/\mN w w.heap.size b.ov (b.ops.map (·.1))/\wH w w.heap.size b.tv (b.tos.map (·.1)):=by
 unfold BT.rows at h;refine⟨pT (h _ (.head _)) h64.par,?_,?_⟩
 ·refine wC Zd y7 (h _ (.tail _ (.head _))) fun q hq b2 o hc=>?_
  have h1:=h64.ops q.1 (Oj hq);exact⟨hc 0 _ rfl,hc 1 _ rfl,hc 2 _ rfl,hc 3 _ rfl,hc 4 _ rfl,h1.1,q.2,hc 5 _ rfl,pT (h (zP q.2 q.1.args) (.tail _ (.tail _ (.tail _ (Jz _ (Oj hq)))))) h1.2⟩
 ·refine wC Zd yd (h _ (.tail _ (.tail _ (.head _)))) fun q hq b2 o hc=>?_
  have h1:=h64.tos q.1 (Oj hq);exact⟨hc 0 _ rfl,h1.1,q.2,hc 1 _ rfl,pT (h (zP q.2 q.1.args) (.tail _ (.tail _ (.tail _ (Qf _ (Oj hq)))))) h1.2⟩
theorem FT.in{B:Nat}{f:FT}(h:∀r∈f.rows,w.ownsRow B r.e r.sz r.v r.n r.cs)(h64:∀b∈f.fn,B64 b):wX w w.heap.size f.bv f.fn:=by
 unfold FT.rows at h;refine wC Zd zX (h _ (.head _)) fun q hq b2 o hc=>?_
 have hb:=h64 q.blk (Oj hq);have h1:=BT.in (w:=w) (B:=B) (b:=q) (fun r hr=>h r (.tail _ (Qx.2 ⟨q,hq,hr⟩))) hb;exact⟨hc 2 _ rfl,hc 3 _ rfl,hb.term,q.pv,q.ov,q.tv,hc 0 _ rfl,hc 1 _ rfl,hc 4 _ rfl,h1.1,h1.2.1,h1.2.2⟩
theorem PT.in{B:Nat}{t:PT}(h:Rows w B t.rows)(h64:P64 t.prog):ProgIn w w.heap.size t.V t.prog:=by
 have h:=h.own;unfold PT.rows at h;refine⟨?_,pT (h _ (.tail _ (.head _))) h64.args,?_,?_,h64.ent,h64.hnd⟩
 ·have h1:w.ownsRow B 43 1 t.fv t.funcs.length (t.funcs.flatMap fun f=> [f.bv]):=by rw[<-Qh];exact h _ (.head _)
  refine wC (sz:=1) (f:=fun f:FT=> [f.bv]) (g:=FT.fn) Zd (fun _=>rfl) h1 fun q hq b2 o hc=>?_
  exact⟨q.bv,hc 0 _ rfl,FT.in (B:=B) (fun r hr=>h r (.tail _ (.tail _ (.tail _ (.tail _ (Qx.2 ⟨q,hq,hr⟩)))))) (h64.funcs q.fn (Oj hq))⟩
 ·have:=wC (sz:=3) (f:=xP) (R:=ObjR) (g:=fun x:IObj=>x) Zd sk (h (vK t.dv t.data) (.tail _ (.tail _ (.head _)))) (fun q hq b o hc=>?_)
  ·rw[List.map_id'] at this;exact this
  ·have h1:=h64.data q hq;exact⟨hc 0 _ rfl,hc 1 _ rfl,hc 2 _ rfl,h1.1,h1.2.1,h1.2.2⟩
 ·have h1:w.ownsRow B 9 1 t.bv t.banks.length (t.banks.flatMap fun s=> [.string s]):=by rw[<-Qh];exact h _ (.tail _ (.tail _ (.tail _ (.head _))))
  have:=wC (sz:=1) (f:=fun s:ByteArray=> [.string s]) (R:=StrR) (g:=fun x:ByteArray=>x) Zd (fun _=>rfl) h1 (fun q hq b o hc=>⟨hc 0 _ rfl,h64.banks q hq⟩);rw[List.map_id'] at this;exact this
end Go.Proofs.Ytojclalkfhoooaa
