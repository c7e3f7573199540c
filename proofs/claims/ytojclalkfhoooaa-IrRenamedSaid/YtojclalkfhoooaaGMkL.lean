/- Part of a proof. -/
import Derived.Test.YtojclalkfhoooaaGISem
set_option linter.all false
set_option maxHeartbeats 3200000
set_option maxRecDepth 100000
namespace Go.Proofs.Ytojclalkfhoooaa
open Go.RowKit
variable {W W0 w w' w0 w1:World}{o:Obj}{blocks:List IBlk}{i:Int}{K:MK}{m:Mach}{B0 C bm bp cap m1 m2 nm x:Nat}{c g:Value}{preds:List (List Nat)}{xs:List Value}
def tX (n:Int):Bool:=decide (0<=n) && decide (n<=8)
def sR (p:IProg):Int:=
 if 2000<p.funcs.length∨512<p.data.length∨64<p.banks.length then 2
 else if p.args.length≠p.funcs.length then 1
 else if p.args.all tX=false then 1
 else if yw p p.entry=false∨(p.handler≠-1/\yw p p.handler=false) then 1
 else if wB p=false then 37
 else 0
def m9 (w:World)(x:Int)(e:Ending)(w':World):Prop:=e=.returned (A x)/\F w w'
theorem kB{V:PV}{p:IProg}(hp:ProgIn w w.heap.size V p):Y 46 #[yH V p] w (m9 w (sR p)):=by
 have i:∀(W:World),F w W->p.args.length=p.funcs.length->∀f,Y 64 #[yH V p,A f] W fun e w'=>e=.returned (.bool (yw p f))/\F W w':=fun W hb hl f=>kR ((hp.below hb).mono hb.size) hl f
 have j:∀(W:World),F w W->Y 65 #[yH V p] W fun e w'=>e=.returned (.bool (wB p))/\F W w':=fun W hb=>kN ((hp.below hb).mono hb.size)
 obtain⟨Vf,Va,Vd,Vb⟩:=V;obtain⟨f1,f2,e1,_,_⟩:=hp.funcs.form;have b9:=hp.args;obtain⟨a1,a2,e2,_,_⟩:=hp.args.form;obtain⟨d1,d2,e3,_,_⟩:=hp.data.form;obtain⟨b1,b2,e4,_,_⟩:=hp.banks.form;simp only at e1 e2 e3 e4 b9;subst e1 e2 e3 e4;unfold yH at i j ⊢;simp only at i j ⊢;have e8:p.args.length<=9223372036854775807:=Zo;have e6:=Ja b9;have d3:=Ja i;have d6:=Ja j;have b0:F w (w.alloc (U (R p f1 f2 a1 a2 d1 d2 b1 b2) 29)):=(Below.refl _ _).alloc (Je _) _;have l:=zI (W:=w) (o:=U (R p f1 f2 a1 a2 d1 d2 b1 b2) 29) rfl;obtain⟨q1,h1⟩:∃q,decide (2000<p.funcs.length)=q:=⟨_,rfl⟩
 obtain⟨q2,h2⟩:∃q,decide (512<p.data.length)=q:=⟨_,rfl⟩
 obtain⟨q3,h3⟩:∃q,decide (64<p.banks.length)=q:=⟨_,rfl⟩
 have f3:decide ((2000:Int)<(p.funcs.length:Int))=q1:=zZ h1 Zo;have f0:decide ((512:Int)<(p.data.length:Int))=q2:=zZ h2 Zo;have e9:decide ((64:Int)<(p.banks.length:Int))=q3:=zZ h3 Zo;have HQ:=Ja (Jb h1 (Jb h2 h3));clear hp b9 i j
 by_cases t:q1=true∨q2=true∨q3=true
 ·have hh:sR p=2:=by
   unfold sR;rw[if_pos];rcases t with e|e|e
   ·exact .inl (of_decide_eq_true (HQ.out.1.trans e))
   ·exact .inr (.inl (of_decide_eq_true (HQ.out.2.1.trans e)))
   ·exact .inr (.inr (of_decide_eq_true (HQ.out.2.2.trans e)))
  rw[hh];have HB:=Ja t;clear hh t l;cases q1<;>cases q2<;>cases q3
  all_goals first
   |(exfalso;have:=HB.out;simp at this;done)
   |(go_enter Try.func46,Try.ntmps46
     go_wp2;go_ret
     exact⟨rfl,b0⟩)
 ·obtain⟨e1,e2,e3⟩:q1=false/\q2=false/\q3=false:=by
   cases q1<;>cases q2<;>cases q3<;>simp at t ⊢
  subst e1 e2 e3
  have c8:sR p=if p.args.length≠p.funcs.length then 1 else if p.args.all tX=false then 1 else if yw p p.entry=false∨(p.handler≠-1/\yw p p.handler=false) then 1 else if wB p=false then 37 else 0:=by
   unfold sR;rw[if_neg];rintro(e|e|e)
   ·exact absurd e (of_decide_eq_false HQ.out.1)
   ·exact absurd e (of_decide_eq_false HQ.out.2.1)
   ·exact absurd e (of_decide_eq_false HQ.out.2.2)
  rw[c8];clear c8 t
  by_cases hl:p.args.length=p.funcs.length
  ·rw[if_neg (fun h=>h hl)];generalize b5:(if p.args.all tX=false then(1:Int) else if yw p p.entry=false∨(p.handler≠-1/\yw p p.handler=false) then 1 else if wB p=false then 37 else 0)=res;have c3:=Ja b5;clear b5;have t1:((p.args.length:Int) !=(p.funcs.length:Int))=false:=by rw[bne_eq_false_iff_eq];omega
   have HL:=Ja hl;clear hl;go_enter Try.func46,Try.ntmps46;go_upto_region 5 with fail;generalize e5:w.alloc (U (R p f1 f2 a1 a2 d1 d2 b1 b2) 29)=W0 at *;have g:=Ja b0;have y:=Ja l;have y0:=K0 l;have y1:=K1 l;have y2:=K2 l;have y3:=K3 l;have y4:=K4 l;have y5:=K5 l;clear e5 b0 l;go_wp2
   go_loopw [31] (fun kv wx=>∃k:Nat,k<=p.args.length/\kv=A k/\wx=W0/\Hid ((p.args.take k).all tX=true)) (fun kv _=>p.args.length-(intOf kv).toNat)
   case atStart=>exact⟨0,Jt _,rfl,rfl,by rfl⟩
   case round=>
    obtain⟨k,hk,rfl,rfl,HK⟩:=hrel;generalize e0:wr=W0 at *;clear e0
    by_cases c0:k<p.args.length
    ·have d8:(k:Int)<p.args.length:=Zo;have d7:=Ja c0;obtain⟨n,hn⟩:∃n,p.args[k]? =some n:=⟨_,Jd c0⟩
     obtain⟨b,o,rfl,hb,hc,e7⟩:=e6.out.get hn;rw[Nk] at hc;have cn:=zV g.out hb hc;have HT:=Ja (Jb (xX tX hn) (fun h=>aaN tX hn h));obtain⟨q1,g1⟩:∃q,decide (0<=n)=q:=⟨_,rfl⟩
     obtain⟨q2,g2⟩:∃q,decide (n<=8)=q:=⟨_,rfl⟩
     have d0:decide (n<0)=!q1:=by rw[<-g1];by_cases h:0<=n<;>simp[h]<;>omega
     have c9:decide (8<n)=!q2:=by rw[<-g2];by_cases h:n<=8<;>simp[h]<;>omega
     have HA:=Ja (show tX n=(q1 && q2) by unfold tX;rw[g1,g2]);clear hn hc hb c0 g1 g2;cases q1<;>cases q2
     case true.true=>
      simp only[Bool.not_true] at d0 c9;go_wp2;go_roundw
      case rel=>exact⟨k+1,d7.out,by go_num,by trivial,Ja (by rw[HT.out.1,HK.out,HA.out];rfl)⟩
      case measure=>have:=d7.out;simp[intOf];omega
     all_goals simp only[Bool.not_true,Bool.not_false] at d0 c9
     all_goals go_wp2
     all_goals go_ret
     all_goals refine⟨zh ?_,g.out⟩
     all_goals rw[<-c3.out,if_pos (HT.out.2 (by rw[HA.out];rfl))]
    ·obtain rfl:k=p.args.length:=by omega
     have d8:¬(p.args.length:Int)<p.args.length:=Zo;have c2:p.args.all tX=true:=by have:=HK.out;rw[Nl] at this;exact this
     have b6:=c3.out;rw[if_neg (by rw[c2];simp)] at b6;have b4:=Ja b6;clear b6 c2 HK;go_upto_region 11 with fail;obtain⟨qe,b8⟩:∃q,yw p p.entry=q:=⟨_,rfl⟩
     have c7:Y 64 #[.agg (R p f1 f2 a1 a2 d1 d2 b1 b2),A p.entry] W0 fun e w'=>e=.returned (.bool qe)/\F W0 w':=by rw[<-b8];exact d3.out _ g.out HL.out _
     have b3:=Ja c7;have c4:=Ja b8;clear c7 b8
     cases qe with
     |false=>
      go_wp2_with (go_at_call 64;go_must (refine b3.out.mono ?_;rintro e w2 ⟨rfl,m⟩))
      go_ret;refine⟨zh ?_,g.out.trans (m.mono g.out.size)⟩
      rw[<-b4.out,if_pos (.inl c4.out)]
     |true=>
      by_cases hh:p.handler=-1
      ·have t2:(p.handler !=-1)=false:=by rw[bne_eq_false_iff_eq];exact hh
       have a4:Hid ((if wB p=false then(37:Int) else 0)=res):=by
        have h:=b4.out;rw[if_neg (by rintro(e|e);(rw[c4.out] at e;cases e);exact e.1 hh)] at h;exact h
       clear hh;go_upto_region 13 with(go_at_call 64;go_must (refine b3.out.mono ?_;rintro e w2 ⟨rfl,m⟩;have c:=zH m y.out (lt_of_block y.out);have u0:=K0 c;have u1:=K1 c;have u2:=K2 c;have u3:=K3 c;have u4:=K4 c;have u5:=K5 c))
       have d:=g.out.trans (m.mono g.out.size);obtain⟨qp,r⟩:∃q,wB p=q:=⟨_,rfl⟩
       have a0:Y 65 #[.agg (R p f1 f2 a1 a2 d1 d2 b1 b2)] w2 fun e w'=>e=.returned (.bool qp)/\F w2 w':=by rw[<-r];exact d6.out _ d
       have a6:=Ja a0;have a5:=Ja r;clear a0 r
       cases qp with
       |false=>
        go_wp2_with (go_at_call 65;go_must (refine a6.out.mono ?_;rintro e w5 ⟨rfl,u⟩))
        go_ret;refine⟨zh ?_,(d).trans (u.mono (d).size)⟩
        rw[<-a4.out,if_pos a5.out]
       |true=>
        go_wp2_with (go_at_call 65;go_must (refine a6.out.mono ?_;rintro e w5 ⟨rfl,u⟩))
        go_ret;refine⟨zh ?_,(d).trans (u.mono (d).size)⟩;rw[<-a4.out,if_neg (by rw[a5.out];simp)]
      ·have t2:(p.handler !=-1)=true:=by rw[bne_iff_ne];exact hh
       obtain⟨qh,b7⟩:∃q,yw p p.handler=q:=⟨_,rfl⟩
       have d5:=Ja b7;have c5:∀W,F w W->Y 64 #[.agg (R p f1 f2 a1 a2 d1 d2 b1 b2),A p.handler] W fun e w'=>e=.returned (.bool qh)/\F W w':=fun W hb=>by rw[<-b7];exact d3.out _ hb HL.out _
       have d4:=Ja c5;have HH:=Ja hh;have g1:True:=trivial;clear hh b7 c5
       cases qh with
       |false=>
        go_wp2_with (first|(go_at_call 64;have d9:=g1;clear g1;go_must (refine b3.out.mono ?_;rintro e w2 ⟨rfl,m⟩;have c:=zH m y.out (lt_of_block y.out);have u0:=K0 c;have u1:=K1 c;have u2:=K2 c;have u3:=K3 c;have u4:=K4 c;have u5:=K5 c;have d:=g.out.trans (m.mono g.out.size)))|(go_at_call 64;go_must (refine(d4.out _ d).mono ?_;rintro e w4 ⟨rfl,a7⟩)))
        go_ret;refine⟨zh ?_,d.trans (a7.mono d.size)⟩
        rw[<-b4.out,if_pos (.inr ⟨HH.out,d5.out⟩)]
       |true=>
        have a4:Hid ((if wB p=false then(37:Int) else 0)=res):=by
         have h:=b4.out;rw[if_neg (by rintro(e|e);(rw[c4.out] at e;cases e);(rw[d5.out] at e;cases e.2))] at h;exact h
        go_upto_region 13 with(first|(go_at_call 64;have d9:=g1;clear g1;go_must (refine b3.out.mono ?_;rintro e w2 ⟨rfl,m⟩;have c:=zH m y.out (lt_of_block y.out);have u0:=K0 c;have u1:=K1 c;have u2:=K2 c;have u3:=K3 c;have u4:=K4 c;have u5:=K5 c;have d:=g.out.trans (m.mono g.out.size)))|(go_at_call 64;go_must (refine(d4.out _ d).mono ?_;rintro e w4 ⟨rfl,a7⟩;have x:=zH a7 c (lt_of_block c);have v0:=K0 x;have v1:=K1 x;have v2:=K2 x;have v3:=K3 x;have v4:=K4 x;have v5:=K5 x)))
        have a3:=d.trans (a7.mono d.size);obtain⟨qp,r⟩:∃q,wB p=q:=⟨_,rfl⟩
        have a0:Y 65 #[.agg (R p f1 f2 a1 a2 d1 d2 b1 b2)] w4 fun e w'=>e=.returned (.bool qp)/\F w4 w':=by rw[<-r];exact d6.out _ a3
        have a6:=Ja a0;have a5:=Ja r;clear a0 r
        cases qp with
        |false=>
         go_wp2_with (go_at_call 65;go_must (refine a6.out.mono ?_;rintro e w5 ⟨rfl,u⟩))
         go_ret;refine⟨zh ?_,(a3).trans (u.mono (a3).size)⟩
         rw[<-a4.out,if_pos a5.out]
        |true=>
         go_wp2_with (go_at_call 65;go_must (refine a6.out.mono ?_;rintro e w5 ⟨rfl,u⟩))
         go_ret;refine⟨zh ?_,(a3).trans (u.mono (a3).size)⟩;rw[<-a4.out,if_neg (by rw[a5.out];simp)]
  ·rw[if_pos hl];have t1:((p.args.length:Int) !=(p.funcs.length:Int))=true:=by rw[bne_iff_ne];omega
   clear hl l;go_enter Try.func46,Try.ntmps46;go_wp2;go_ret;exact⟨rfl,b0⟩
def opF (p:IProg)(o:IOp):Bool:=
 (zi o.code).is &&
  (if o.code=26 then decide (0<=o.a) && decide (o.a<p.funcs.length) && decide ((o.args.length:Int)=p.args.getD o.a.toNat 0) && decide (-1<=o.res) && decide (o.b=0) && decide (o.n=0)
   else if o.code=2 then decide (0<=o.a) && decide (o.a<p.data.length) && decide (0<=o.res) && decide (o.b=0) && decide (o.args.length=0)
   else decide ((zi o.code).res=decide (0<=o.res)) && decide (-1<=o.res) && ((zi o.code).a||decide (o.a=0)) && ((zi o.code).b||decide (o.b=0)) && ((zi o.code).n||decide (o.n=0)) && decide (o.args.length=0) &&
    (decide (o.code≠24) && decide (o.code≠25)||decide (1<=o.n) && decide (o.n<=255)))
def uM (blocks:List IBlk)(e:IEdge):Bool:=decide (1<=e.block) && decide (e.block<blocks.length) && decide (e.args.length=(xz blocks e.block).params.length)
def wn (blocks:List IBlk)(t:ITerm):Bool:=
 t.to.all (uM blocks) &&
  (if t.kind=1 then decide (t.to.length=1) && decide (t.a=0)
   else if t.kind=2 then decide (t.to.length=2)
   else if t.kind=3 then decide (1<=t.to.length)
   else if t.kind=4 then decide (t.to.length=0)
   else if t.kind=5 then decide (t.to.length=0) && decide (t.a=0)
   else false)
abbrev wO:=(Int->Option Int)×(Int->Option Int)
variable {d:wO}
def rB (d:wO)(v i k:Int):Option wO:=if(d.1 v).isSome∨v<0∨65535<v then none else some (lS d.1 v i,lS d.2 v k)
def vJ (i:Int):List Int->wO->Option wO
 | [],d=>some d
 |v::vs,d=>(rB d v i (-1)).bind (vJ i vs)
def sS (p:IProg)(i:Int):List IOp->Int->wO->Option wO
 | [],_,d=>some d
 |o::os,k,d=>if opF p o then(if 0<=o.res then(rB d o.res i k).bind (sS p i os (k+1)) else sS p i os (k+1) d) else none
def pS (p:IProg)(blocks:List IBlk)(i:Int)(b:IBlk)(d:wO):Option wO:=
 ((vJ i b.params d).bind (sS p i b.ops 0)).bind fun d'=>if wn blocks b.term then some d' else none
def uH (p:IProg)(blocks:List IBlk):List IBlk->Int->wO->Option wO
 | [],_,d=>some d
 |b::bs,i,d=>(pS p blocks i b d).bind (uH p blocks bs (i+1))
def wg (p:IProg)(blocks:List IBlk):Option wO:=uH p blocks blocks 0 (fun _=>none,fun _=>none)
theorem opF_ok {p:IProg}{o:IOp}(h:opF p o=true):OkOp p o:=by
 unfold opF at h;rw[Jm] at h;obtain⟨h1,h2⟩:=h;refine⟨?_,?_,?_⟩
 ·have:=rJ o.code;rcases this with⟨h,e⟩|⟨h,e⟩|⟨h,e⟩|⟨h,e⟩|⟨h,e⟩|⟨h,e⟩|⟨h,e⟩|⟨h,e⟩
  all_goals first|omega|(rw[e] at h1;exact absurd h1 Zd)
 ·intro h;rw[if_neg Zo,if_pos h] at h2;simp only[Jm,decide_eq_true_eq] at h2;omega
 ·intro h;rw[if_pos h] at h2;simp only[Jm,decide_eq_true_eq] at h2;omega
theorem acV{t:ITerm}(h:wn blocks t=true):bS blocks t:=by
 unfold wn at h;rw[Jm,Oe] at h;obtain⟨h1,h2⟩:=h
 have hk:t.kind=1/\t.to.length=1∨t.kind=2/\t.to.length=2∨t.kind=3/\1<=t.to.length∨t.kind=4∨t.kind=5:=by
  by_cases k1:t.kind=1
  ·rw[if_pos k1] at h2;simp only[Jm,decide_eq_true_eq] at h2;exact .inl ⟨k1,h2.1⟩
  by_cases k2:t.kind=2
  ·rw[if_neg k1,if_pos k2] at h2;simp only[decide_eq_true_eq] at h2;exact .inr (.inl ⟨k2,h2⟩)
  by_cases k3:t.kind=3
  ·rw[if_neg k1,if_neg k2,if_pos k3] at h2;simp only[decide_eq_true_eq] at h2;exact .inr (.inr (.inl ⟨k3,h2⟩))
  by_cases k4:t.kind=4
  ·exact .inr (.inr (.inr (.inl k4)))
  by_cases k5:t.kind=5
  ·exact .inr (Zi k5)
  rw[if_neg k1,if_neg k2,if_neg k3,if_neg k4,if_neg k5] at h2;cases h2
 refine⟨by omega,by omega,by omega,by omega,fun e he=>?_⟩;have:=h1 e he;unfold uM at this;simp only[Jm,decide_eq_true_eq] at this;omega
def rR (o:IOp):List Int:=(if(zi o.code).a then [o.a] else [])++(if(zi o.code).b then [o.b] else [])++o.args
def ut (t:ITerm):Bool:=decide (t.kind=2)||(decide (t.kind=3)||decide (t.kind=4) && decide (t.a≠-1))
def mE (t:ITerm):List Int:=(if ut t then [t.a] else [])++(t.to.map (·.args)).flatten
def zy (blocks:List IBlk):List (List Nat):=blocks.map fun b=>b.term.to.map fun e=>e.block.toNat
def yy (d:wO)(g:List (List Nat))(i k:Int)(v:Int):Bool:=
 match d.1 v,d.2 v with
 |some b,some a=>!(decide (b=i) && decide (k<=a)) && wE g b.toNat i.toNat
 |_,_=>false
def xF (d:wO)(g:List (List Nat))(i:Int):List IOp->Int->Bool
 | [],_=>true
 |o::os,k=>(rR o).all (yy d g i k) && xF d g i os (k+1)
def aaC (d:wO)(g:List (List Nat))(b:IBlk)(i:Int):Bool:=xF d g i b.ops 0 && (mE b.term).all (yy d g i b.ops.length)
def tO (d:wO)(g:List (List Nat)):List IBlk->Int->Bool
 | [],_=>true
 |b::bs,i=>aaC d g b i && tO d g bs (i+1)
def iM (blocks:List IBlk)(d:wO):Bool:=decide ((vD (zy blocks)).length=blocks.length) && tO d (zy blocks) blocks 0
def yi (p:IProg)(n:Nat):Bool:=
 match p.funcs.getD n [] with
 | []=>true
 |b::bs=>decide ((b.params.length:Int)=p.args.getD n 0) && ((wg p (b::bs)).map (iM (b::bs))).getD false
def vC (p:IProg):Int:=if sR p≠0 then sR p else if(List.range p.funcs.length).all (yi p) then 0 else 51
theorem uX:∀(l m:List Int) (d:wO),vJ i (l++m) d=(vJ i l d).bind (vJ i m)
 | [],m,d=>rfl
 |v::l,m,d=>by
  show(rB d v i (-1)).bind (vJ i (l++m))=((rB d v i (-1)).bind (vJ i l)).bind (vJ i m)
  cases rB d v i (-1) with
  |none=>rfl
  |some d'=>exact uX l m d'
theorem nF{p:IProg}{b:IBlk}{d':wO}(h:pS p blocks i b d=some d'):wn blocks b.term=true/\∃d1,vJ i b.params d=some d1/\sS p i b.ops 0 d1=some d':=by
 unfold pS at h
 cases h1:vJ i b.params d with
 |none=>rw[h1] at h;cases h
 |some d1=>
  rw[h1,Nw] at h
  cases h2:sS p i b.ops 0 d1 with
  |none=>rw[h2] at h;cases h
  |some d2=>
   rw[h2,Nw] at h
   split at h
   ·cases h;exact⟨‹_›,d1,rfl,h2⟩
   ·cases h
theorem nk{p:IProg}:∀(os:List IOp) (k:Int) (d d':wO),sS p i os k d=some d'->∀o∈os,opF p o=true
 | [],_,_,_,_,o,ho=>by cases ho
 |x::os,k,d,d',h,o,ho=>by
  unfold sS at h
  split at h
  ·rename_i hx
   rcases Jq.1 ho with rfl|ho
   ·exact hx
   ·split at h
    ·cases h1:rB d x.res i k with
     |none=>rw[h1] at h;cases h
     |some d1=>rw[h1,Nw] at h;exact nk os _ _ _ h o ho
    ·exact nk os _ _ _ h o ho
  ·cases h
theorem rV{p:IProg}:∀(bs:List IBlk) (i:Int) (d d':wO),uH p blocks bs i d=some d'->∀b∈bs,(∀o∈b.ops,opF p o=true)/\wn blocks b.term=true
 | [],_,_,_,_,b,hb=>by cases hb
 |x::bs,i,d,d',h,b,hb=>by
  unfold uH at h
  cases h1:pS p blocks i x d with
  |none=>rw[h1] at h;cases h
  |some d1=>
   rw[h1,Nw] at h;rcases Jq.1 hb with rfl|hb
   ·obtain⟨h2,d2,_,h3⟩:=nF h1;exact⟨nk _ _ _ _ h3,h2⟩
   ·exact rV bs _ _ _ h b hb
theorem tF {p:IProg}{n:Nat}{b:IBlk}{bs:List IBlk}(hf:p.funcs[n]? =some (b::bs))(h:yi p n=true):
 (b.params.length:Int)=p.args.getD n 0/\∃d,wg p (b::bs)=some d/\iM (b::bs) d=true:=by
 unfold yi at h;rw[Jj,hf,Ot] at h;simp only[Jm,decide_eq_true_eq] at h;obtain⟨h1,h2⟩:=h;refine⟨h1,?_⟩
 cases h3:wg p (b::bs) with
 |none=>rw[h3] at h2;cases h2
 |some d=>rw[h3] at h2;exact⟨d,rfl,h2⟩
theorem se {p:IProg}(h:sR p=0):(p.funcs.length<=2000/\p.data.length<=512/\p.banks.length<=64)/\p.args.length=p.funcs.length/\p.args.all tX=true/\yw p p.entry=true/\(p.handler≠-1->yw p p.handler=true)/\wB p=true:=by
 unfold sR at h
 split at h
 ·omega
 split at h
 ·omega
 split at h
 ·omega
 split at h
 ·omega
 split at h
 ·omega
 rename_i h1 h2 h3 c g
 refine⟨by omega,by simpa using h2,by simpa using h3,?_,?_,by simpa using g⟩
 ·simpa using fun e=>c (.inl e)
 ·intro d
  simpa using fun e=>c (.inr ⟨d,e⟩)
theorem rz {p:IProg}(h:vC p=0):sR p=0/\∀n,n<p.funcs.length->yi p n=true:=by
 unfold vC at h
 split at h
 ·rename_i h1;exact absurd h h1
 ·rename_i h1
  refine⟨by omega,?_⟩
  split at h
  ·rename_i h2
   intro n c;exact Oe.1 h2 n (Ol.2 c)
  ·omega
theorem jM {p:IProg}(h:vC p=0)(m:∀blocks∈p.funcs,∀b∈blocks,b.params.length<=65536):OkProg p:=by
 obtain⟨h0,l⟩:=rz h;obtain⟨_,u,k,_,y,j⟩:=se h0
 have r:∀i,0<=p.args.getD i 0/\p.args.getD i 0<=8:=by
  intro i;rw[Jj]
  cases w:p.args[i]? with
  |none=>simp
  |some x=>
   have:=Oe.1 k x (Ji w);unfold tX at this;simp only[Jm,decide_eq_true_eq] at this;exact this
 refine⟨fun blocks hb b hbb=>?_,fun i b bs hi=>?_,fun g=>?_,?_,fun i=>?_,u⟩
 ·obtain⟨n,g⟩:=Ny hb;have t:=(Jh.1 g).1;have hF:=l n t
  match blocks,hbb,g with
  |b0::bs,hbb,g=>
   obtain⟨_,d,hs,_⟩:=tF g hF;obtain⟨k1,k2⟩:=rV _ _ _ _ hs b hbb;exact⟨fun o ho=>opF_ok (k1 o ho),acV k2,m _ hb b hbb⟩
 ·exact(tF hi (l i (Jh.1 hi).1)).1
 ·have:=y g;unfold yw at this;simp only[Jm,decide_eq_true_eq,beq_iff_eq] at this;obtain⟨a,b,c⟩:=this;exact⟨a,by omega,c⟩
 ·intro s hs;unfold wB at j;rw[Jm] at j;have:=j.1;unfold mh at this
  simpa using Oe.1 this s hs
 ·have:=r i;omega
theorem inRam_no (a:Nat):wo a=false↔a<16384∨24576<=a:=by
 rw[<-Bool.not_eq_true,qG];omega
theorem sX{ov:Value}(h:MachAt w K m ov)(a:Nat)(g:a<65536)(hr:wo a=false):Y 107 #[Q K.pm,I a] w fun e w'=>e=.panicked [oE 2 a]/\w=w':=by
 clear h;rcases(inRam_no a).1 hr with hlt|hge
 ·have c:(a:Int)<16384:=Zo;clear hr hlt;go_enter Try.func107,Try.ntmps107;go_wp2_with (go_at_call 80;go_must (refine(wj 2 a _).mono ?_;rintro e w' ⟨rfl,rfl⟩))
  exact⟨rfl,rfl,rfl⟩
 ·have c:24576<=(a:Int):=Zo;have d:¬(a:Int)<16384:=Zo;clear hr hge;go_enter Try.func107,Try.ntmps107;go_wp2_with (go_at_call 80;go_must (refine(wj 2 a _).mono ?_;rintro e w' ⟨rfl,rfl⟩))
  exact⟨rfl,rfl,rfl⟩
theorem vX{ov:Value}(h:MachAt w K m ov)(a:Nat)(g:a<65536)(hr:wo a=true):Y 107 #[Q K.pm,I a] w fun e w'=>e=.returned (.pointer (some ⟨K.rb,a-16384,none⟩))/\w=w':=by
 have c6:=h.c6;clear h;have c:=(qG a).1 hr;have h1:¬(a:Int)<16384:=Zo;have h2:¬24576<=(a:Int):=Zo;have h3:0<=(a:Int)-16384:=Zo;have i:(a:Int)-16384<8192:=Zo;have d:((a:Int)-16384).toNat=a-16384:=Zo;have j:=Ja d;clear hr c d;go_enter Try.func107,Try.ntmps107;go_wp2;go_ret;exact⟨rfl,rfl⟩
theorem rec_idle (p:Addr)(w:World):
 CallsD Try.prog 51 #[.pointer (some p)] .returning w fun e u' w'=>e=.returned (.tuple #[])/\u'=.returning/\w=w':=by
 refine callsD_of_wpS Try.func51 rfl fun c₀ cs hu=>?_
 apply wpS_seq;apply wpS_region;simp[wpOpsS,go_sem,recoverD,hu,Try.ntmps51,Exit.thenS];apply wpS_seq;apply wpS_seq;apply wpS_region;simp[wpOpsS,go_sem,recoverD,hu,Try.ntmps51,Exit.thenS];refine wpS_cond (t:=true) (by simp[Act.eval,Array.replicate]) ?_;simp only[if_true];refine wpS_of_wp (wp_ret ?_);cases c₀
 simp_all [Exit.thenS,bodyPostS,results,Try.results51]
theorem kA (v:Value)(w:World):(Instr.typeAssert (.iface 107 v) 20 107 true).run Try.prog w=.ok (.tuple #[v,.bool true]) w:=by kernel_rfl
theorem pi{ov:Value}(h:MachAt w K m ov){b12 b13 d:Nat}(r:L w b13 #[Q K.pm] 102)(u:L w b12 #[I 0,O,A 0,I 0,.string {data:=#[]},A 0,A 0] 57)
 (o:G w d 0 (.func (.func 50) #[] #[Q b13,Q b12])) (k i:Nat) (j:List PanicEntry):
 CallsD Try.prog 51 #[Q d] (.panicking (oE k i::j)) w fun e u' w'=>
  e=.returned (.tuple #[])/\u'=.panicking ({oE k i with recovered:=true }::j)/\L w' b12 (yV 0 ov k i (y9 m.ram) m.inputs m.polls) 57/\w.grownBy w' (some b12):=by
 refine callsD_of_wpS Try.func51 rfl fun c₀ cs g=>?_
 unfold oE at g ⊢;apply wpS_seq;apply wpS_region;simp[wpOpsS,go_sem,recoverD,g,Try.ntmps51,Exit.thenS];apply wpS_seq;apply wpS_seq;apply wpS_region;simp[wpOpsS,go_sem,recoverD,g,Try.ntmps51,Exit.thenS];refine wpS_cond (t:=false) (by simp[Act.eval,Array.replicate]) ?_;simp only[Bool.false_eq_true,if_false];refine wpS_of_wp (wp_skip ?_);simp only[Exit.thenS];refine wpS_of_wp ?_;have a1:=kA (.agg #[A k,I i]);have HH:=Ja h;have HU:=Ja g;have H2:=Ja (Jb r u);clear h g r u
 have e:(#[Value.pointer (some ⟨d,0,none⟩)]++(((((Array.replicate 18 undef).setIfInBounds 3 (Value.iface 107 (.agg #[A k,I i]))).setIfInBounds 0 (Value.iface 107 (.agg #[A k,I i]))).setIfInBounds 4 (Value.iface 107 (.agg #[A k,I i]))).setIfInBounds 5 (Value.bool false)):Array Value)=#[.pointer (some ⟨d,0,none⟩),.iface 107 (.agg #[A k,I i]),undef,undef,.iface 107 (.agg #[A k,I i]),.iface 107 (.agg #[A k,I i]),.bool false,undef,undef,undef,undef,undef,undef,undef,undef,undef,undef,undef,undef]:=by
  simp[Array.replicate,List.replicate]
 rw[e];clear e;have x:=Jw w _ o;have a0:(w.alloc (U #[A k,I i] 107)).cell? ⟨d,0,none⟩=_:=(Oo (w:=w) (Below.heap_alloc _ _ _ x)).trans o;have y:=HH.out.keep ((Below.refl _ _).alloc (Je _) (U #[A k,I i] 107));have hF:=Ja (pE y (b12:=b12) (b13:=b13) (zB H2.out.1) (zB H2.out.2) k i 0);clear y;go_wp2_with (go_at_call 50;go_must (refine hF.out.mono ?_;rintro e w4 ⟨rfl,h5,l⟩))
 have hg:w.grownBy w4 (some b12):=⟨l.os,l.tape,l.output,Jn Zs l.size,fun q hq hn=>(l.block q Zt hn).trans (Below.heap_alloc _ _ _ hq)⟩
 have g:=HU.out;cases c₀;simp only at g;simp[bodyPostS,results,Try.results51,h5,hg]
structure ChkAt (w:World) (C m1 m2:Nat) (pv:List Value) (blv idv:Value) (n:Nat) (d:wO):Prop where
 blk:w.heap[C]? =some (.cells (pv++ [blv,.map (some m1),.map (some m2),idv]).toArray 128 (0,0))
 plen:pv.length=6
 map1:wA w m1 n d.1
 map2:wA w m2 n d.2
 ne:m1≠m2
 dom:∀x,(d.1 x).isSome=(d.2 x).isSome
structure Kept (m1 m2:Nat) (w w':World):Prop where
 os:w'.os=w.os
 tape:w'.tape=w.tape
 output:w'.output=w.output
 size:w.heap.size<=w'.heap.size
 block:∀k,k<w.heap.size->k≠m1->k≠m2->w'.heap[k]? =w.heap[k]?
theorem Kept.refl (m1 m2:Nat)(w:World):Kept m1 m2 w w:=⟨rfl,rfl,rfl,Je _,fun _ _ _ _=>rfl⟩
theorem Kept.trans{a b c:World}(h:Kept m1 m2 a b)(k:Kept m1 m2 b c):Kept m1 m2 a c:=
 ⟨k.os.trans h.os,k.tape.trans h.tape,k.output.trans h.output,Jn h.size k.size,fun i hi x1 x2=>(k.block i (Jy hi h.size) x1 x2).trans (h.block i hi x1 x2)⟩
theorem Kept.of(h:F w w'):Kept m1 m2 w w':=⟨h.os,h.tape,h.output,h.size,fun i hi _ _=>h.block i hi⟩
theorem Kept.below{B:Nat}(h:Kept m1 m2 w w')(h1:B<=m1)(h2:B<=m2)(hB:B<=w.heap.size):Below B w w':=
 ⟨h.os,h.tape,h.output,h.size,fun i hi=>h.block i Zo Zo Zo⟩
theorem Kept.blk{b:Nat}(h:Kept m1 m2 w w')(hb:w.heap[b]? =some o)(h1:b≠m1)(h2:b≠m2):w'.heap[b]? =some o:=(h.block b (lt_of_block hb) h1 h2).trans hb
theorem wA.lt{b n:Nat}{g:Int->Option Int}(h:wA w b n g):b<w.heap.size:=by
 obtain⟨es,ck,hb⟩:=h.blk;exact lt_of_block hb
theorem ChkAt.below{pv:List Value}{n:Nat}(h:ChkAt w C m1 m2 pv g c n d)(hb:F w w'):ChkAt w' C m1 m2 pv g c n d:=
 ⟨zH hb h.blk (lt_of_block h.blk),h.plen,h.map1.same (hb.block m1 h.map1.lt),h.map2.same (hb.block m2 h.map2.lt),h.ne,h.dom⟩
theorem ChkAt.ne1{pv:List Value}{n:Nat}(h:ChkAt w C m1 m2 pv g c n d):C≠m1/\C≠m2:=by
 obtain⟨j,l,h1⟩:=h.map1.blk;obtain⟨i,k,h2⟩:=h.map2.blk;have:=h.blk;exact⟨fun e=>(by rw[e,h1] at this;cases this),fun e=>(by rw[e,h2] at this;cases this)⟩
theorem oK{n:Nat}{pv:List Value}{t l:Value}(h:ChkAt w C m1 m2 pv t l n d)(v i k:Int)(hv:I64 v)(hi:I64 i)(hk:I64 k)(g:rB d v i k=none):
 Y 97 #[Q C,A v,A i,A k] w fun e w'=>e=.returned (.bool false)/\w'=w:=by
 obtain⟨hb,hl,m,x,u,hd⟩:=h
 obtain⟨p0,p1,p2,p3,p4,p5,rfl⟩:∃a b c d e f,pv=[a,b,c,d,e,f]:=by
  match pv,hl with
  | [a,b,c,d,e,f],_=>exact⟨a,b,c,d,e,f,rfl⟩
 have o:=m.lookOk hv;have y:G w C 7 (.map (some m1)):=zA hb rfl;obtain⟨q0,r⟩:∃b,(d.1 v).isSome=b:=⟨_,rfl⟩
 obtain⟨q1,h1⟩:∃b,decide (v<0)=b:=⟨_,rfl⟩
 obtain⟨q2,h2⟩:∃b,decide (65535<v)=b:=⟨_,rfl⟩
 rw[r] at o
 have hq:(q0||q1||q2)=true:=by
  unfold rB at g;rw[r] at g
  split at g
  ·rename_i j
   rcases j with j|j|j
   ·rw[j];rfl
   ·rw[<-h1,decide_eq_true j];simp
   ·rw[<-h2,decide_eq_true j];simp
  ·cases g
 clear g hb;cases q0<;>cases q1<;>cases q2
 all_goals first|(cases hq;done)|skip
 all_goals go_enter Try.func97,Try.ntmps97
 all_goals go_wp2
 all_goals go_ret
 all_goals exact⟨rfl,rfl⟩
end Go.Proofs.Ytojclalkfhoooaa
set_option maxRecDepth 8000
namespace Go.Proofs.Ytojclalkfhoooaa
open Go.RowKit
variable {W W0 w w' w0 w1:World}{o:Obj}{blocks:List IBlk}{i:Int}{K:MK}{m:Mach}{B0 C bm bp cap m1 m2 nm x:Nat}{c g:Value}{preds:List (List Nat)}{xs:List Value}{d:wO}
theorem mD {P:List (List Nat)}{n s m:Nat}(h:∀r∈P,r.length<=m):∀r∈xS n P s,r.length<=m+1:=by
 intro r hr;rcases Qe hr with hr|rfl
 ·have:=h r hr;omega
 ·simp only[Jk,Nq,Ow]
  by_cases hs:s<P.length
  ·have:=h (P.getD s []) (by rw[Jj,Jd hs];exact Uf hs);omega
  ·rw[Jj,Of Zo];simp
theorem oB (n:Nat):∀(l:List Nat) (P:List (List Nat)) (m:Nat),(∀r∈P,r.length<=m)->∀r∈l.foldl (xS n) P,r.length<=m+l.length
 | [],_,_,h=>h
 |s::l,P,m,h=>fun r hr=>by
  have:=oB n l _ (m+1) (mD h) r hr;simp only[Nq];omega
theorem rj (g:List (List Nat))(D:Nat)(c:∀row∈g,row.length<=D):∀(l:List Nat) (P:List (List Nat)) (m:Nat),(∀r∈P,r.length<=m)->∀r∈l.foldl (yh g) P,r.length<=m+l.length*D
 | [],_,_,h=>by simpa using h
 |u::l,P,m,h=>fun r hr=>by
  have hd:(succ g u).length<=D:=by
   unfold succ;rw[Jj]
   cases e:g[u]? with
   |none=>simp
   |some row=>exact c row (Ji e)
  have:=rj g D c l _ (m+D) (fun r hr=>by have:=oB u (succ g u) P m h r hr;omega) r hr;simp only[Nq,Nat.add_mul,Nat.one_mul];omega
theorem pred_len {g:List (List Nat)}{D:Nat}(d:∀row∈g,row.length<=D)(c row:List Nat)(k j n N:Nat)(hk:k<=N){s:Nat}{pr:List Nat}
 (h:((row.take j).foldl (xS n) ((c.take k).foldl (yh g) (List.replicate N [])))[s]? =some pr):pr.length<=k*D+j:=by
 have h1:=oB n (row.take j) _ (0+(c.take k).length*D) (rj g D d (c.take k) (List.replicate N []) 0 (by intro r hr;rw[(List.mem_replicate.1 hr).2];simp)) pr (Ji h);have h2:(c.take k).length<=k:=List.length_take_le _ _;have h3:(row.take j).length<=j:=List.length_take_le _ _;have i:=Qw D h2;omega
structure ViewMem (w0 w:World) (B0 B bv bm bp n:Nat) (ov:Value) (ord:List Nat) (nm:Nat) (f:Int->Int) (preds:List (List Nat)):Prop where
 hv:w.heap[bv]? =some (.cells #[ov,.map (some bm),.slice (some ⟨bp,0,none⟩) n n] 188 (0,0))
 ho:w.ownsRow B0 3 1 ov ord.length (ord.map zj)
 ho2:∀g,ov.ownBlock=some g->g<B
 hm:ud w bm nm f
 hp:OwnRows zj 3 22 w B bp preds
 hl:preds.length=n
 hb:Below B0 w0 w
 lt:B0<=bv/\B0<=bm/\B0<=bp/\bv<B/\bm<B/\bp<B/\B<=w.heap.size
def oN (w:World)(C bv:Nat)(ord:List Nat)(f:Int->Int)(preds:List (List Nat)):Prop:=
 ∃ov bm pv nm,G w bv 0 ov/\G w bv 1 (.map (some bm))/\G w bv 2 pv/\xp zj w C ov ord/\ud w bm nm f/\bm<C/\aaB zj w C pv preds/\bv<C
theorem oN.below{bv:Nat}{c:List Nat}{f:Int->Int}(h:oN w C bv c f preds)(hb:Below C w w'):oN w' C bv c f preds:=by
 obtain⟨ov,bm,pv,nm,c0,c1,c2,ho,hm,d,hp,hl⟩:=h;exact⟨ov,bm,pv,nm,(hb.cell (p:=⟨bv,0,none⟩) hl).trans c0,(hb.cell (p:=⟨bv,1,none⟩) hl).trans c1,(hb.cell (p:=⟨bv,2,none⟩) hl).trans c2,ho.below hb,hm.same (hb.block bm d),d,hp.below hb,hl⟩
def RetView (w:World)(ord:List Nat)(f:Int->Int)(preds:List (List Nat))(e:Ending)(w':World):Prop:=
 ∃bv,e=.returned (Q bv)/\w.heap.size<=bv/\oN w' w'.heap.size bv ord f preds/\F w w'
theorem ViewMem.read{B bv n:Nat}{ov:Value}{c:List Nat}{f:Int->Int}(h:ViewMem w0 w B0 B bv bm bp n ov c nm f preds):oN w w.heap.size bv c f preds:=by
 refine⟨ov,bm,N bp n n,nm,zA h.hv Zs,zA h.hv Zs,zA h.hv Zs,rY h.ho (Je _),h.hm,h.hm.lt,?_,lt_of_block h.hv⟩;have:=h.hp.asRows (Je w.heap.size)
 rwa [h.hl] at this
theorem Try.info_ints:(Try.prog.info? 22).map (fun i=>(i.zero,i.size,i.bytes))=some (some (.slice none 0 0),1,24):=by kernel_rfl
theorem ViewMem.store{B bv n:Nat}{ov:Value}{i:List Nat}{j:Nat}{f f':Int->Int}(h:ViewMem w0 w B0 B bv bm bp n ov i nm f preds)
 (hg:w.grownBy w' (some bm)) (hm:ud w' bm j f'):ViewMem w0 w' B0 B bv bm bp n ov i j f' preds:=by
 obtain⟨hv,ho,ho2,d,hp,hl,hb,o⟩:=h;obtain⟨c,m⟩:=hp.blk;refine⟨zL hg hv (by simpa using d.ne hv),ho.kept hg ?_,ho2,hm,hp.kept hg (by simpa using d.ne m) (by intro k hk;cases hk;omega),hl,hb.grown hg (by have:=lt_of_block hv;have:=d.lt;omega) (by intro k hk;cases hk;omega),by have:=hg.size;omega⟩;right;intro e;rcases ho.2 with⟨rfl,_⟩|⟨g,cap,cur,rfl,r,l,_⟩
 ·simp[Value.ownBlock] at e
 ·simp only[Value.ownBlock,Option.some.injEq] at e;subst e;exact d.ne l rfl
theorem ViewMem.push{w2:World}{B bv n s g r H:Nat}{ov:Value}{t:List Nat}{f:Int->Int}{d:List (List Nat)}{row:List Nat}{a:Option Addr}(h:ViewMem w0 w B0 B bv bm bp n ov t nm f d)
 (hs:d[s]? =some row) (hc:G w bp s (.slice a row.length cap)) (hg:(w.alloc o).grownBy w2 (Value.slice a row.length cap).ownBlock)
 (a1:w2.ownsRow B 3 1 (N g (row.length+1) r) (row.length+1) (row.map zj++ [zj x]))
 (a3:(Value.slice a row.length cap).ownBlock=some g∨g=H) (hH:w.heap.size<=H):
 ViewMem w0 (w2.setCell ⟨bp,s,none⟩ (N g (row.length+1) r)) B0 B bv bm bp n ov t nm f (d.set s (row++ [x])):=by
 obtain⟨hv,ho,ho2,j,hp,hl,hb,a6⟩:=h;obtain⟨c,l⟩:=hp.blk;obtain⟨a',a4,y,u,_⟩:=hp.get hs;rw[hc] at y;cases y;have a0:=zC u hv (.inl Zo);have i:∀k,(Value.slice a row.length cap).ownBlock=some k->B<=k:=fun k hk=>(u.lt k hk).1
 have a2:bv≠bp:=by rintro rfl;rw[hv] at l;simp at l
 have m:=hp.put Zd hs hc hg (row':=row++ [x]) (by simpa using a1) a3 hH;simp only[Jk,Nq,Ow,Ng] at m;refine⟨zR (zL hg (zB hv) a0) (by simpa using a2),?_,ho2,?_,m,by simp[hl],?_,by have:=hg.size;simp[World.setCell] at this ⊢;omega⟩
 ·refine ownsRow_setCell_other ((ho.alloc o).kept hg ?_) ?_ _
  ·cases hk:ov.ownBlock with
   |none=>exact .inl rfl
   |some k=>
    right;intro e;have:=ho2 k hk;have:=i k e.symm;omega
  ·exact zC (b:=bp) ho l (.inr Zd)
 ·refine j.same ?_;rw[Below.heap_setCell _ _ _ _ (by simpa using j.ne l),hg.block bm (by have:=j.lt;simp;omega) (fun e=>by have:=i bm e.symm;omega),Below.heap_alloc _ _ _ j.lt]
 ·have a5:=lt_of_block hv;exact((hb.alloc Zo o).grown hg Zt (fun k hk=>by have:=i k hk;omega)).setCell (show B0<=bp by omega) _
theorem uj{row:Option Nat}(h:w.drew.grownBy w' row):w.grownBy w' row:=⟨h.os,h.tape,h.output,h.size,h.block⟩
theorem uG{B:Nat}(h:Below B w w'):Below B w w'.drew:=h.drew
theorem lq{n:Nat}{v:Value}(c:G w' n 0 v)(h:Below (n+1) W0 w')(hl:n<W0.heap.size)(o:Obj):G (w'.alloc o) n 0 v/\Below (n+1) W0 (w'.alloc o):=by
 have:=h.size;exact⟨by rw[Oo (w:=w') (Below.heap_alloc _ _ _ Zt)];exact c,h.alloc Zo o⟩
theorem oY{n:Nat}{v:Value}(c:G w' n 0 v)(h:Below (n+1) W0 w')(hl:n<W0.heap.size)(hb:F w' w1):G w1 n 0 v/\Below (n+1) W0 w1:=by
 have:=h.size;exact⟨(hb.cell (p:=⟨n,0,none⟩) (show n<_ by omega)).trans c,h.trans (hb.mono Zo)⟩
theorem ww{n:Nat}(c:n=w.heap.size)(d:Hid (w.alloc o=W0))(h:Below (n+1) W0 w'):Below n w w':=by
 have e:=d.out;subst e;subst c;exact((Below.refl _ _).alloc (Je _) _).trans (h.mono Zo)
theorem o7{B:Nat}(hB:B<=w.heap.size)(c:Hid (w.alloc o=W0))(h:Below (w.heap.size+1) W0 w'):B<=w'.heap.size:=by
 have:=(ww rfl c h).size;omega
theorem nP{B:Nat}{v:Value}{g:List (List Nat)}(d:aaB zj w B v g)(hB:B<=w.heap.size)(c:Hid (w.alloc o=W0))(h:Below (w.heap.size+1) W0 w'):aaB zj w' B v g:=
 d.below ((ww rfl c h).mono hB)
theorem aJ{X wy:World}{F F':List Nat}{ao:Option Addr}{co bv n:Nat}(h:F.length=F'.length)(c:w1.ownsRow X.heap.size 3 1 (.slice ao F.length co) F.length (F.map zj))(lg:w.heap.size<W0.heap.size)
 (i:W0.heap.size<=X.heap.size) (hb:Below (w.heap.size+1) W0 wy) (hg:w1.grownBy wy none) (d:wy.heap.size=bv)
 (hm:wy.heap[bm]? =some (.map #[] 0)) (hp:L wy bp (madeCells #[O] n) 22) (lt:w.heap.size<bm/\w.heap.size<bp):
 ∃bv' bm' bp' ov,Value.pointer (some ⟨bv,0,none⟩)=Q bv'/\Hid (ViewMem W0 (wy.alloc (U #[.slice ao F'.length co,.map (some bm),N bp n n] 188)) (w.heap.size+1) (wy.alloc (U #[.slice ao F'.length co,.map (some bm),N bp n n] 188)).heap.size bv' bm' bp' n ov F 0 (fun _=>0) (List.replicate n [])):=by
 rw[<-h];have h1:=hb.size;have h2:=hg.size;have ho:=(c.kept hg (by cases ao<;>simp[Value.ownBlock])).alloc (U #[.slice ao F.length co,.map (some bm),N bp n n] 188);have h3:=lt_of_block hm;have j:=lt_of_block hp;refine⟨bv,bm,bp,.slice ao F.length co,rfl,zI d,vY ho Zo,fun g hg=>(ho.lt g hg).2,?_,OwnRows.made _ (by rw[zB hp,yA]),by simp,hb.alloc Zo _,?_⟩
 ·exact⟨_,⟨#[],0,zB hm,(let⟨es,clock,h1,h2,_⟩:=(World.ownsMap_made (H:=Unit) w Try.prog 3 (plainElem Try.prog 3));by
   rw[zI rfl] at h1;cases h1;exact h2),Je _,rfl⟩,fun _ _=>rfl⟩
 ·simp only[World.size_alloc];omega
theorem view_any (w:World)(sv:Value)(g:List (List Nat))(B:Nat)(hB:B<=w.heap.size)(h:aaB zj w B sv g)(hv:zw g)(hn:g.length<=2000000)(hr:∀row∈g,row.length<=2000000)
 (c:List Nat) (hF:tV g c):
 Y 101 #[.agg #[sv]] w (RetView w c (atF c c.length) (un g c)):=by
 obtain⟨a,cap,rfl,g6⟩:=h.form;obtain⟨ii,e9,d2,d1,d0⟩:=info_parts Try.info_int;have d5:Below w.heap.size w (w.alloc (U #[.slice a g.length cap] 93)):=(Below.refl _ _).alloc (Je _) _;have e4:=@run_makeMap Try.prog;have e5:=run_make_row' (P:=Try.prog) 91 22 (O) 24 Try.underlying91 Try.info_ints rfl .i64 .i64 g.length Zo Zo;have HV:=Ja hv;have HR:=Ja hr;have HF:=Ja hF;have cg:G (w.alloc (U #[.slice a g.length cap] 93)) w.heap.size 0 (.slice a g.length cap):=cell_of_one (zI rfl);clear hv hr hF;go_enter Try.func101,Try.ntmps101;go_upto_region 1 with fail;generalize c3:w.alloc (U #[.slice a g.length cap] 93)=W0 at cg ⊢;have u:=Ja c3;have g9:=Below.refl (w.heap.size+1) W0;have lg:w.heap.size<W0.heap.size:=Jw W0 _ cg;clear c3 d5
 go_cut [3] (fun s3 wx=>∃bv bm bp ov,s3=Q bv/\Hid (ViewMem W0 wx (w.heap.size+1) wx.heap.size bv bm bp g.length ov c 0 (fun _=>0) (List.replicate g.length [])))
 case first=>
  go_region_held3 (fun w'=>G w' w.heap.size 0 (.slice a g.length cap)/\Below (w.heap.size+1) W0 w')
   (first
     |(go_split_ands;refine⟨?_,?_⟩<;>assumption)
     |(go_split_ands;refine⟨?_,uG ?_⟩<;>assumption)
     |(go_split_ands;exact lq ‹_› ‹_› Zz _)
     |(go_split_ands;exact oY ‹_› ‹_› Zz Zz))
   ((go_at_call 68;refine(tp _ _ g B (o7 hB u (by repeat' (first|assumption|(with_reducible refine Below.drew ?_)|(with_reducible refine Below.alloc ?_ ?_ _)|omega|(simp<;>omega)))) (nP h hB u (by repeat' (first|assumption|(with_reducible refine Below.drew ?_)|(with_reducible refine Below.alloc ?_ ?_ _)|omega|(simp<;>omega)))) HV.out hn HR.out c HF.out).mono ?_;rintro e w1 ⟨ov,rfl,b7,a5⟩;obtain⟨ao,co,rfl⟩:=zG b7))
  all_goals
   go_wp2_with fail;go_meet;have e1:=a5.size;simp at e1;refine aJ (w:=w) (w1:=w1) (F:=c) rfl b7 lg ?_ ?_ ?_ ?_ ?_ ?_ ?_
   ·simp<;>omega
   ·repeat' (first|assumption|(with_reducible refine Below.drew ?_)|(with_reducible refine Below.alloc ?_ ?_ _)|(refine Below.trans ?_ (Below.mono a5 ?_))|omega|(simp<;>omega))
   ·repeat' (first|(with_reducible exact oI _ _)|(with_reducible refine World.grownBy.trans ?_ (Uo _ _ _)))
   ·simp
   ·repeat' (first|(refine zI ?_;first|rfl|(simp;done))|(refine zB ?_)|(refine zH a5 ?_ ?_)|omega|(simp<;>omega))
   ·repeat' (first|(refine zI ?_;first|rfl|(simp;done))|(refine zB ?_)|(refine zH a5 ?_ ?_)|omega|(simp<;>omega))
   ·constructor<;>first|omega|(simp<;>omega)
 case rest=>
  obtain⟨bv,bm,bp,ov,rfl,a6⟩:=hcut;obtain⟨BB,c4⟩:∃BB,BB=wc.heap.size:=⟨_,rfl⟩
  rw[<-c4] at a6;clear c4 e4 e5;have ho:=a6.out.ho;obtain⟨ao,co,rfl⟩:=zG ho;have c0:=a6.out.hv;have f4:=K0 c0;clear ho c0;have e2:=(HF.out.nodes HV.out).1;go_wp2_with fail
  go_loopw [22] (fun i wr=>∃k:Nat,k<=c.length/\i=A k/\Hid (ViewMem W0 wr (w.heap.size+1) BB bv bm bp g.length (.slice ao c.length co) c k (atF c k) ((c.take k).foldl (yh g) (List.replicate g.length [])))) (fun i _=>c.length-(intOf i).toNat)
  case atStart=>exact⟨0,Jt _,rfl,by rw[show atF c 0=fun _=>0 from rfl];simpa using a6⟩
  case round=>
   obtain⟨k,hk,rfl,x⟩:=hrel
   by_cases e6:k<c.length
   ·obtain⟨n,a4⟩:∃n,c[k]? =some n:=⟨_,Jd e6⟩
    have e3:n<g.length:=(HF.out.nodes HV.out).2 n (Ji a4);have g2:(n:Int)<g.length:=Zo;have g5:(k:Int)<c.length:=Zo;have d9:=rY x.out.ho (Je _);obtain⟨ao',h9,f1,_,hx⟩:=d9;cases f1;obtain⟨bo,oo,rfl,_,c7⟩:=hx k n a4;simp only[zj] at c7;have f3:=K1 x.out.hv;obtain⟨row,r⟩:∃row,g[n]? =some row:=⟨_,Jd e3⟩
    have c9:=Ja a4;clear hx a4 f4;obtain⟨b,o,a2,h4,rfl,hb,hc,f9,hx⟩:=h.row r;have HX:=Ja hx;have HC:=Ja hc;clear hx hc;go_wp2_with (at_mapUpdate;go_must (refine rW rfl (.tmp 30) (.tmp 31) (.tmp 32) rfl x.out.hm Zo (n:Int) (k:Int) rfl rfl rfl Zo Zo ?_;intro w2 b8 b9;have m:=x.out.store b9 b8;have d4:=(m.hb.cell (p:=⟨w.heap.size,0,none⟩) (show w.heap.size<w.heap.size+1 by omega)).trans cg;have hc:=((ww rfl u m.hb).cell (p:=⟨b,o+n,none⟩) (show b<w.heap.size by omega)).trans HC.out;have d6:=Ja m;clear m b8 b9))
    have hrl:=HR.out row (Ji r);have b1:=Ja r;clear x c7 f3 r
    go_loopw [39] (fun i wx=>∃j:Nat,j<=row.length/\i=A j/\Hid (ViewMem W0 wx (w.heap.size+1) BB bv bm bp g.length (.slice (some ⟨bo,oo,none⟩) c.length co) c (k+1) (fun y=>if y=(n:Int) then(k:Int) else atF c k y) ((row.take j).foldl (xS n) ((c.take k).foldl (yh g) (List.replicate g.length []))))) (fun i _=>row.length-(intOf i).toNat)
    case atStart=>exact⟨0,Jt _,rfl,by simpa using d6⟩
    case round=>
     obtain⟨j,hj,rfl,d⟩:=hrel
     by_cases d3:j<row.length
     ·obtain⟨s,a0⟩:∃s,row[j]? =some s:=⟨_,Jd d3⟩
      have e0:s<g.length:=HV.out.2 row (Ji b1.out) s (Ji a0);obtain⟨b2,o2,rfl,h6,c5⟩:=HX.out j s a0;have cs:=((ww rfl u d.out.hb).cell (p:=⟨b2,o2+j,none⟩) (show b2<w.heap.size by omega)).trans c5;simp only[zj] at cs;have b6:=d.out.hl;obtain⟨pr,a1⟩:∃pr,((row.take j).foldl (xS n) ((c.take k).foldl (yh g) (List.replicate g.length [])))[s]? =some pr:=⟨_,Jd (by rw[b6];exact e0)⟩
      obtain⟨ap,b0,cp,a3,fp⟩:=d.out.hp.get a1;have c2:=K2 d.out.hv;have h5:=d.out.lt.2.2.2.2.2.2;have g1:pr.length<=4000004000000:=by have:=pred_len HR.out c row k j n _ (Jn hk e2) a1;omega
      have g0:(s:Int)<g.length:=Zo;have g4:(j:Int)<row.length:=Zo;have lb:=d.out.lt;have d8:=lt_of_block d.out.hv;have b5:=d.out.hp.bplt;have d7:=zC a3 d.out.hv (.inl Zo);obtain⟨cc,a7⟩:=d.out.hp.blk;have b4:=zC a3 a7 (.inr Zd);have c8:=Ja a1;have f7:=Ja a0;have i1:=Ja a7;have f8:=Ja a3;clear a1 a0 a7 a3 c5 b6 d4 hc;have f2:∀o,T (wr.alloc o) bp s:=fun o=>(Qm (w:=wr) (Below.heap_alloc _ _ _ b5)).trans fp
      have f5:∀o,G (wr.alloc o) bp s (.slice ap pr.length b0):=fun o=>(Oo (w:=wr) (Below.heap_alloc _ _ _ b5)).trans cp
      have f6:∀o,G (wr.alloc o) bv 2 (N bp g.length g.length):=fun o=>(Oo (w:=wr) (Below.heap_alloc _ _ _ d8)).trans c2
      go_upto_block 3 with fail
      go_cut [7] (fun s7 wx=>Hid (ViewMem W0 wx (w.heap.size+1) BB bv bm bp g.length (.slice (some ⟨bo,oo,none⟩) c.length co) c (k+1) (fun y=>if y=(n:Int) then(k:Int) else atF c k y) (((row.take j).foldl (xS n) ((c.take k).foldl (yh g) (List.replicate g.length []))).set s (pr++ [n]))))
      case first=>
       go_upto_region 9 with fail
       go_region_law (first|(refine step_append_lies _ (by rfl) (.tmp 54) (.tmp 56) _ (by rfl) BB 3 ii (A 0) 1 8 Try.underlying22 e9 d2 d1 d0 rfl Zo (.slice ap pr.length b0) pr.length (pr.map zj) (by rfl) ((f8.out.alloc _).drew) ⟨wr.heap.size,0,none⟩ 1 1 [A n] (by rfl) (by rfl) (Oi (cs:=#[A n]) (t:=3) (fr:=(0,0)) (heap_alloc_new wr _)) (by simp[Value.oneCell']) Zo (by unfold maxLen;omega) Zo Zt (wr.heap.size+1) Zs ?_;intro gg h0 w3 b3 l f0 g3;have i0:=(l.cell_far ⟨bv,2,none⟩ Zt (Ne.symm d7)).trans (f6 _);have h8:=(l.cell_far ⟨bp,s,none⟩ Zt (Ne.symm b4)).trans (f5 _);have h7:=(l.frozen_far ⟨bp,s,none⟩ Zt (Ne.symm b4)).trans (f2 _)))
       all_goals (go_wp2_with fail;go_meet;exact Ja (d.out.push c8.out cp (uj l) b3 f0 Zo))
      case rest=>
       go_wp2_with fail;go_roundw
       case rel=>exact⟨j+1,by omega,by go_num,by rw[Nh,f7.out];simpa[xS,Jj,c8.out] using hcut⟩
       case measure=>simp[intOf];omega
     ·go_wp2_with fail;go_roundw
      case rel=>exact⟨k+1,by omega,by go_num,by
       have e8:j=row.length:=Zo;have h1:=d;rw[e8,Nl] at h1;rw[Nh,c9.out,List.foldl_append];have h2:succ g n=row:=by simp[succ,Jj,b1.out]
       have h3:atF c (k+1)=fun y=>if y=(n:Int) then(k:Int) else atF c k y:=by
        funext y;simp only[atF,Jj,c9.out,Ot]
       rw[h3]
       simpa[yh,h2] using h1⟩
      case measure=>simp[intOf];omega
   ·have e7:k=c.length:=Zo;subst e7;go_wp2_with fail;go_ret;refine⟨bv,rfl,?_,?_,ww rfl u x.out.hb⟩
    ·have:=x.out.lt;omega
    ·have:=x.out.read
     rwa [Nl] at this
def wG (w:World)(xs:List Int)(e:Ending)(w':World):Prop:=∃v,e=.returned v/\zY w' w'.heap.size v xs/\F w w'
theorem yP{B:Nat}{v:Value}(h:Below B w W)(hg:W.grownBy w' v.ownBlock)(hB:B<=W.heap.size)(hv:∀k,v.ownBlock=some k->B<=k):Below B w w':=
 h.trans ⟨hg.os,hg.tape,hg.output,hg.size,fun k hk=>hg.block k Zo (fun e=>by have:=hv k e.symm;omega)⟩
theorem wF{base:Nat}{e:TypeId}{size n:Nat}{v:Value}(h:w.ownsRow base e size v n xs):∀k,v.ownBlock=some k->base<=k:=fun k hk=>(h.lt k hk).1
theorem uses_00(o:IOp)(ho:I64 o.code/\I64 o.res/\I64 o.a/\I64 o.b/\o.n<65536){av:Value}{B:Nat}(hB:B<=w.heap.size)(g:zY w B av o.args)(r:o.args.length<=1000000000000)(a2:(zi o.code).a=false)(a1:(zi o.code).b=false):
 Y 70 #[.agg #[A o.code,A o.res,A o.a,A o.b,I (o.n:Int),av]] w (wG w ([]++o.args)):=by
 obtain⟨aa,ac,rfl,b3,b2⟩:=g.form;obtain⟨ii,b0,a6,a5,a4⟩:=info_parts Try.info_int
 obtain⟨q1,q2,q3,hf⟩:∃q1 q2 q3,∀W,Y 105 #[A o.code] W fun e w'=>e=.returned (.tuple #[.agg #[.bool q1,.bool false,.bool false,.bool q2],.bool q3])/\F W w':=
  ⟨(zi o.code).res,(zi o.code).n,(zi o.code).is,fun W=>by have:=yu o.code W;unfold yX nL at this;rw[a2,a1] at this;exact this⟩
 have HF:=Ja hf;have i:=Ja (show zY w B (.slice aa o.args.length ac) o.args/\B<=w.heap.size/\o.args.length<=1000000000000 from⟨g,hB,r⟩);have HO:=Ja ho
 have m:∀x∈ []++o.args,I64 x:=by
  intro x j;rcases Jl.1 j with j|j
  ·simp at j
  ·exact zY.all g x j
 have b5:=Ja m;have a0:=zI (W:=w) (o:=U (D o aa ac) 77) rfl;have a3:F w (w.alloc (U (D o aa ac) 77)):=(Below.refl _ _).alloc (Je _) _;have d:=Ja (Jb a0 a3);clear hf g hB r ho m a0 a3 b3 b2 a2 a1;go_enter Try.func70,Try.ntmps70;go_upto_region 2 with(first|(go_at_call 105;go_must (refine(HF.out _).mono ?_;rintro e w1 ⟨rfl,h⟩))|go_in)
 have hb:=(d.out.2.trans (h.mono d.out.2.size)).alloc (by have:=d.out.2.size;have:=h.size;omega) (U #[.bool q1,.bool false,.bool false,.bool q2] 170);have y:=zB (o:=U #[.bool q1,.bool false,.bool false,.bool q2] 170) (zH h d.out.1 (lt_of_block d.out.1));have u:=zI (W:=w1) (o:=U #[.bool q1,.bool false,.bool false,.bool q2] 170) rfl;generalize b4:w1.alloc (U #[.bool q1,.bool false,.bool false,.bool q2] 170)=W1 at *;generalize b1:w1.heap.size=c1 at *;have own0:W1.ownsRow w.heap.size 3 1 (O) 0 []:=Jv W1 _ _ _;have c:=Ja (show F w W1/\L W1 w.heap.size (D o aa ac) 77/\L W1 c1 #[.bool q1,.bool false,.bool false,.bool q2] 170/\W1.ownsRow w.heap.size 3 1 (O) 0 [] from⟨hb,y,u,own0⟩);clear b4 b1 h hb y u own0;have x2:=K2 c.out.2.1;have x3:=K3 c.out.2.1;have x5:=K5 c.out.2.1;have f1:=K1 c.out.2.2.1;have f2:=K2 c.out.2.2.1;go_upto_region 5 with fail;clear x2 x3 x5 f1 f2;have x2:=K2 c.out.2.1;have x3:=K3 c.out.2.1;have x5:=K5 c.out.2.1;have f1:=K1 c.out.2.2.1;have f2:=K2 c.out.2.2.1;go_upto_region 7 with fail;clear x2 x3 x5 f1 f2;have x2:=K2 c.out.2.1;have x3:=K3 c.out.2.1;have x5:=K5 c.out.2.1;have f1:=K1 c.out.2.2.1;have f2:=K2 c.out.2.2.1;have k:=zY.src (i.out.1.below zO (c.out.1.mono i.out.2.1));have a7:=Ja k;clear k;go_wp2_with (at_builtin;go_must (refine zK _ rfl (.tmp 26) (.tmp 28) 22 rfl w.heap.size 3 ii (A 0) 1 8 Try.underlying22 b0 a6 a5 a4 rfl Zd (O) 0 (([]:List Int).map zN) rfl c.out.2.2.2 _ o.args.length (o.args.map zN) rfl a7.out (by have:=i.out.2.2;unfold maxLen;omega) (by have:=i.out.2.2;omega) c.out.1.size ?_;intro v9 w9 l t b6))
 go_ret;refine⟨v9,rfl,?_,yP c.out.1 t c.out.1.size (wF c.out.2.2.2)⟩;rw[<-Js] at l;exact uA l (by simp<;>omega) b5.out
theorem uses_01(o:IOp)(ho:I64 o.code/\I64 o.res/\I64 o.a/\I64 o.b/\o.n<65536){av:Value}{B:Nat}(hB:B<=w.heap.size)(j:zY w B av o.args)(a1:o.args.length<=1000000000000)(b1:(zi o.code).a=false)(b0:(zi o.code).b=true):
 Y 70 #[.agg #[A o.code,A o.res,A o.a,A o.b,I (o.n:Int),av]] w (wG w ([o.b]++o.args)):=by
 obtain⟨aa,ac,rfl,b8,b7⟩:=j.form;obtain⟨ii,a7,u,t,r⟩:=info_parts Try.info_int
 obtain⟨q1,q2,q3,hf⟩:∃q1 q2 q3,∀W,Y 105 #[A o.code] W fun e w'=>e=.returned (.tuple #[.agg #[.bool q1,.bool false,.bool true,.bool q2],.bool q3])/\F W w':=
  ⟨(zi o.code).res,(zi o.code).n,(zi o.code).is,fun W=>by have:=yu o.code W;unfold yX nL at this;rw[b1,b0] at this;exact this⟩
 have HF:=Ja hf;have l:=Ja (show zY w B (.slice aa o.args.length ac) o.args/\B<=w.heap.size/\o.args.length<=1000000000000 from⟨j,hB,a1⟩);have HO:=Ja ho
 have a0:∀x∈ [o.b]++o.args,I64 x:=by
  intro x m;rcases Jl.1 m with m|m
  ·simp at m;rw[m];exact ho.2.2.2.1
  ·exact zY.all j x m
 have c0:=Ja a0;have a6:=zI (W:=w) (o:=U (D o aa ac) 77) rfl;have b3:F w (w.alloc (U (D o aa ac) 77)):=(Below.refl _ _).alloc (Je _) _;have i:=Ja (Jb a6 b3);clear hf j hB a1 ho a0 a6 b3 b8 b7 b1 b0;go_enter Try.func70,Try.ntmps70;go_upto_region 2 with(first|(go_at_call 105;go_must (refine(HF.out _).mono ?_;rintro e w1 ⟨rfl,k⟩))|go_in)
 have hb:=(i.out.2.trans (k.mono i.out.2.size)).alloc (by have:=i.out.2.size;have:=k.size;omega) (U #[.bool q1,.bool false,.bool true,.bool q2] 170);have a5:=zB (o:=U #[.bool q1,.bool false,.bool true,.bool q2] 170) (zH k i.out.1 (lt_of_block i.out.1));have a3:=zI (W:=w1) (o:=U #[.bool q1,.bool false,.bool true,.bool q2] 170) rfl;generalize b9:w1.alloc (U #[.bool q1,.bool false,.bool true,.bool q2] 170)=W1 at *;generalize b6:w1.heap.size=c1 at *;have own0:W1.ownsRow w.heap.size 3 1 (O) 0 []:=Jv W1 _ _ _;have c:=Ja (show F w W1/\L W1 w.heap.size (D o aa ac) 77/\L W1 c1 #[.bool q1,.bool false,.bool true,.bool q2] 170/\W1.ownsRow w.heap.size 3 1 (O) 0 [] from⟨hb,a5,a3,own0⟩);clear b9 b6 k hb a5 a3 own0;have x2:=K2 c.out.2.1;have x3:=K3 c.out.2.1;have x5:=K5 c.out.2.1;have f1:=K1 c.out.2.2.1;have f2:=K2 c.out.2.2.1;go_upto_region 5 with fail;clear x2 x3 x5 f1 f2;have x2:=K2 c.out.2.1;have x3:=K3 c.out.2.1;have x5:=K5 c.out.2.1;have f1:=K1 c.out.2.2.1;have f2:=K2 c.out.2.2.1;go_upto_region 7 with(at_builtin;go_must (refine zK _ rfl (.tmp 21) (.tmp 24) 22 rfl w.heap.size 3 ii (A 0) 1 8 Try.underlying22 a7 u t r rfl Zd (O) 0 (([]:List Int).map zN) rfl (c.out.2.2.2.alloc _) _ 1 [A o.b] rfl (yM.one (zI Zs) (by simp[Value.oneCell'])) Zd Zd (by have:=c.out.1.size;simp;omega) ?_;intro v2 W2 g d b4))
 have b2:F w W2:=yP (c.out.1.alloc c.out.1.size _) d (by have:=c.out.1.size;simp;omega) (wF c.out.2.2.2);have a4:=zL d (zB c.out.2.1) (zC c.out.2.2.2 c.out.2.1 (.inr Zd));have a2:=zL d (zB c.out.2.2.1) (zC c.out.2.2.2 c.out.2.2.1 (.inr Zd));have h:=Ja (show F w W2/\L W2 w.heap.size (D o aa ac) 77/\L W2 c1 #[.bool q1,.bool false,.bool true,.bool q2] 170/\W2.ownsRow w.heap.size 3 1 v2 1 (([o.b]:List Int).map zN) from⟨b2,a4,a2,g⟩);clear x2 x3 x5 f1 f2 b2 a4 a2 g d b4;have x2:=K2 h.out.2.1;have x3:=K3 h.out.2.1;have x5:=K5 h.out.2.1;have f1:=K1 h.out.2.2.1;have f2:=K2 h.out.2.2.1;have y:=zY.src (l.out.1.below zO (h.out.1.mono l.out.2.1));have b5:=Ja y;clear y;go_wp2_with (at_builtin;go_must (refine zK _ rfl (.tmp 26) (.tmp 28) 22 rfl w.heap.size 3 ii (A 0) 1 8 Try.underlying22 a7 u t r rfl Zd v2 1 (([o.b]:List Int).map zN) rfl h.out.2.2.2 _ o.args.length (o.args.map zN) rfl b5.out (by have:=l.out.2.2;unfold maxLen;omega) (by have:=l.out.2.2;omega) h.out.1.size ?_;intro v9 w9 g d b4))
 go_ret;refine⟨v9,rfl,?_,yP h.out.1 d h.out.1.size (wF h.out.2.2.2)⟩;rw[<-Js] at g;exact uA g (by simp<;>omega) c0.out
theorem uses_10(o:IOp)(ho:I64 o.code/\I64 o.res/\I64 o.a/\I64 o.b/\o.n<65536){av:Value}{B:Nat}(hB:B<=w.heap.size)(j:zY w B av o.args)(a1:o.args.length<=1000000000000)(b1:(zi o.code).a=true)(b0:(zi o.code).b=false):
 Y 70 #[.agg #[A o.code,A o.res,A o.a,A o.b,I (o.n:Int),av]] w (wG w ([o.a]++o.args)):=by
 obtain⟨aa,ac,rfl,b8,b7⟩:=j.form;obtain⟨ii,a7,u,t,r⟩:=info_parts Try.info_int
 obtain⟨q1,q2,q3,hf⟩:∃q1 q2 q3,∀W,Y 105 #[A o.code] W fun e w'=>e=.returned (.tuple #[.agg #[.bool q1,.bool true,.bool false,.bool q2],.bool q3])/\F W w':=
  ⟨(zi o.code).res,(zi o.code).n,(zi o.code).is,fun W=>by have:=yu o.code W;unfold yX nL at this;rw[b1,b0] at this;exact this⟩
 have HF:=Ja hf;have l:=Ja (show zY w B (.slice aa o.args.length ac) o.args/\B<=w.heap.size/\o.args.length<=1000000000000 from⟨j,hB,a1⟩);have HO:=Ja ho
 have a0:∀x∈ [o.a]++o.args,I64 x:=by
  intro x m;rcases Jl.1 m with m|m
  ·simp at m;rw[m];exact ho.2.2.1
  ·exact zY.all j x m
 have c0:=Ja a0;have a6:=zI (W:=w) (o:=U (D o aa ac) 77) rfl;have b3:F w (w.alloc (U (D o aa ac) 77)):=(Below.refl _ _).alloc (Je _) _;have i:=Ja (Jb a6 b3);clear hf j hB a1 ho a0 a6 b3 b8 b7 b1 b0;go_enter Try.func70,Try.ntmps70;go_upto_region 2 with(first|(go_at_call 105;go_must (refine(HF.out _).mono ?_;rintro e w1 ⟨rfl,k⟩))|go_in)
 have hb:=(i.out.2.trans (k.mono i.out.2.size)).alloc (by have:=i.out.2.size;have:=k.size;omega) (U #[.bool q1,.bool true,.bool false,.bool q2] 170);have a5:=zB (o:=U #[.bool q1,.bool true,.bool false,.bool q2] 170) (zH k i.out.1 (lt_of_block i.out.1));have a3:=zI (W:=w1) (o:=U #[.bool q1,.bool true,.bool false,.bool q2] 170) rfl;generalize b9:w1.alloc (U #[.bool q1,.bool true,.bool false,.bool q2] 170)=W1 at *;generalize b6:w1.heap.size=c1 at *;have own0:W1.ownsRow w.heap.size 3 1 (O) 0 []:=Jv W1 _ _ _;have c:=Ja (show F w W1/\L W1 w.heap.size (D o aa ac) 77/\L W1 c1 #[.bool q1,.bool true,.bool false,.bool q2] 170/\W1.ownsRow w.heap.size 3 1 (O) 0 [] from⟨hb,a5,a3,own0⟩);clear b9 b6 k hb a5 a3 own0;have x2:=K2 c.out.2.1;have x3:=K3 c.out.2.1;have x5:=K5 c.out.2.1;have f1:=K1 c.out.2.2.1;have f2:=K2 c.out.2.2.1;go_upto_region 5 with(at_builtin;go_must (refine zK _ rfl (.tmp 14) (.tmp 17) 22 rfl w.heap.size 3 ii (A 0) 1 8 Try.underlying22 a7 u t r rfl Zd (O) 0 (([]:List Int).map zN) rfl (c.out.2.2.2.alloc _) _ 1 [A o.a] rfl (yM.one (zI Zs) (by simp[Value.oneCell'])) Zd Zd (by have:=c.out.1.size;simp;omega) ?_;intro v2 W2 h d b4))
 have b2:F w W2:=yP (c.out.1.alloc c.out.1.size _) d (by have:=c.out.1.size;simp;omega) (wF c.out.2.2.2);have a4:=zL d (zB c.out.2.1) (zC c.out.2.2.2 c.out.2.1 (.inr Zd));have a2:=zL d (zB c.out.2.2.1) (zC c.out.2.2.2 c.out.2.2.1 (.inr Zd));have g:=Ja (show F w W2/\L W2 w.heap.size (D o aa ac) 77/\L W2 c1 #[.bool q1,.bool true,.bool false,.bool q2] 170/\W2.ownsRow w.heap.size 3 1 v2 1 (([o.a]:List Int).map zN) from⟨b2,a4,a2,h⟩);clear x2 x3 x5 f1 f2 b2 a4 a2 h d b4;have x2:=K2 g.out.2.1;have x3:=K3 g.out.2.1;have x5:=K5 g.out.2.1;have f1:=K1 g.out.2.2.1;have f2:=K2 g.out.2.2.1;go_upto_region 7 with fail;clear x2 x3 x5 f1 f2;have x2:=K2 g.out.2.1;have x3:=K3 g.out.2.1;have x5:=K5 g.out.2.1;have f1:=K1 g.out.2.2.1;have f2:=K2 g.out.2.2.1;have y:=zY.src (l.out.1.below zO (g.out.1.mono l.out.2.1));have b5:=Ja y;clear y;go_wp2_with (at_builtin;go_must (refine zK _ rfl (.tmp 26) (.tmp 28) 22 rfl w.heap.size 3 ii (A 0) 1 8 Try.underlying22 a7 u t r rfl Zd v2 1 (([o.a]:List Int).map zN) rfl g.out.2.2.2 _ o.args.length (o.args.map zN) rfl b5.out (by have:=l.out.2.2;unfold maxLen;omega) (by have:=l.out.2.2;omega) g.out.1.size ?_;intro v9 w9 h d b4))
 go_ret;refine⟨v9,rfl,?_,yP g.out.1 d g.out.1.size (wF g.out.2.2.2)⟩;rw[<-Js] at h;exact uA h (by simp<;>omega) c0.out
theorem uses_11(o:IOp)(ho:I64 o.code/\I64 o.res/\I64 o.a/\I64 o.b/\o.n<65536){av:Value}{B:Nat}(hB:B<=w.heap.size)(y:zY w B av o.args)(a5:o.args.length<=1000000000000)(b3:(zi o.code).a=true)(b2:(zi o.code).b=true):
 Y 70 #[.agg #[A o.code,A o.res,A o.a,A o.b,I (o.n:Int),av]] w (wG w ([o.a,o.b]++o.args)):=by
 obtain⟨aa,ac,rfl,b8,b7⟩:=y.form;obtain⟨ii,a6,u,t,r⟩:=info_parts Try.info_int
 obtain⟨q1,q2,q3,hf⟩:∃q1 q2 q3,∀W,Y 105 #[A o.code] W fun e w'=>e=.returned (.tuple #[.agg #[.bool q1,.bool true,.bool true,.bool q2],.bool q3])/\F W w':=
  ⟨(zi o.code).res,(zi o.code).n,(zi o.code).is,fun W=>by have:=yu o.code W;unfold yX nL at this;rw[b3,b2] at this;exact this⟩
 have HF:=Ja hf;have a2:=Ja (show zY w B (.slice aa o.args.length ac) o.args/\B<=w.heap.size/\o.args.length<=1000000000000 from⟨y,hB,a5⟩);have HO:=Ja ho
 have a4:∀x∈ [o.a,o.b]++o.args,I64 x:=by
  intro x hx;rcases Jl.1 hx with hx|hx
  ·simp at hx;rcases hx with rfl|rfl;exact ho.2.2.1;exact ho.2.2.2.1
  ·exact zY.all y x hx
 have c0:=Ja a4;have b1:=zI (W:=w) (o:=U (D o aa ac) 77) rfl;have b4:F w (w.alloc (U (D o aa ac) 77)):=(Below.refl _ _).alloc (Je _) _;have m:=Ja (Jb b1 b4);clear hf y hB a5 ho a4 b1 b4 b8 b7 b3 b2;go_enter Try.func70,Try.ntmps70;go_upto_region 2 with(first|(go_at_call 105;go_must (refine(HF.out _).mono ?_;rintro e w1 ⟨rfl,a0⟩))|go_in)
 have hb:=(m.out.2.trans (a0.mono m.out.2.size)).alloc (by have:=m.out.2.size;have:=a0.size;omega) (U #[.bool q1,.bool true,.bool true,.bool q2] 170);have b0:=zB (o:=U #[.bool q1,.bool true,.bool true,.bool q2] 170) (zH a0 m.out.1 (lt_of_block m.out.1));have a7:=zI (W:=w1) (o:=U #[.bool q1,.bool true,.bool true,.bool q2] 170) rfl;generalize b9:w1.alloc (U #[.bool q1,.bool true,.bool true,.bool q2] 170)=W1 at *;generalize b6:w1.heap.size=c1 at *;have own0:W1.ownsRow w.heap.size 3 1 (O) 0 []:=Jv W1 _ _ _;have h:=Ja (show F w W1/\L W1 w.heap.size (D o aa ac) 77/\L W1 c1 #[.bool q1,.bool true,.bool true,.bool q2] 170/\W1.ownsRow w.heap.size 3 1 (O) 0 [] from⟨hb,b0,a7,own0⟩);clear b9 b6 a0 hb b0 a7 own0;have x2:=K2 h.out.2.1;have x3:=K3 h.out.2.1;have x5:=K5 h.out.2.1;have f1:=K1 h.out.2.2.1;have f2:=K2 h.out.2.2.1;go_upto_region 5 with(at_builtin;go_must (refine zK _ rfl (.tmp 14) (.tmp 17) 22 rfl w.heap.size 3 ii (A 0) 1 8 Try.underlying22 a6 u t r rfl Zd (O) 0 (([]:List Int).map zN) rfl (h.out.2.2.2.alloc _) _ 1 [A o.a] rfl (yM.one (zI Zs) (by simp[Value.oneCell'])) Zd Zd (by have:=h.out.1.size;simp;omega) ?_;intro v2 W2 d c a1))
 have l:F w W2:=yP (h.out.1.alloc h.out.1.size _) c (by have:=h.out.1.size;simp;omega) (wF h.out.2.2.2);have k:=zL c (zB h.out.2.1) (zC h.out.2.2.2 h.out.2.1 (.inr Zd));have j:=zL c (zB h.out.2.2.1) (zC h.out.2.2.2 h.out.2.2.1 (.inr Zd));have g:=Ja (show F w W2/\L W2 w.heap.size (D o aa ac) 77/\L W2 c1 #[.bool q1,.bool true,.bool true,.bool q2] 170/\W2.ownsRow w.heap.size 3 1 v2 1 (([o.a]:List Int).map zN) from⟨l,k,j,d⟩);clear x2 x3 x5 f1 f2 l k j d c a1;have x2:=K2 g.out.2.1;have x3:=K3 g.out.2.1;have x5:=K5 g.out.2.1;have f1:=K1 g.out.2.2.1;have f2:=K2 g.out.2.2.1;go_upto_region 7 with(at_builtin;go_must (refine zK _ rfl (.tmp 21) (.tmp 24) 22 rfl w.heap.size 3 ii (A 0) 1 8 Try.underlying22 a6 u t r rfl Zd v2 1 (([o.a]:List Int).map zN) rfl (g.out.2.2.2.alloc _) _ 1 [A o.b] rfl (yM.one (zI Zs) (by simp[Value.oneCell'])) Zd Zd (by have:=g.out.1.size;simp;omega) ?_;intro v3 W3 d c a1))
 have l:F w W3:=yP (g.out.1.alloc g.out.1.size _) c (by have:=g.out.1.size;simp;omega) (wF g.out.2.2.2);have k:=zL c (zB g.out.2.1) (zC g.out.2.2.2 g.out.2.1 (.inr Zd));have j:=zL c (zB g.out.2.2.1) (zC g.out.2.2.2 g.out.2.2.1 (.inr Zd));have i:=Ja (show F w W3/\L W3 w.heap.size (D o aa ac) 77/\L W3 c1 #[.bool q1,.bool true,.bool true,.bool q2] 170/\W3.ownsRow w.heap.size 3 1 v3 2 (([o.a,o.b]:List Int).map zN) from⟨l,k,j,d⟩);clear x2 x3 x5 f1 f2 l k j d c a1;have x2:=K2 i.out.2.1;have x3:=K3 i.out.2.1;have x5:=K5 i.out.2.1;have f1:=K1 i.out.2.2.1;have f2:=K2 i.out.2.2.1;have a3:=zY.src (a2.out.1.below zO (i.out.1.mono a2.out.2.1));have b5:=Ja a3;clear a3;go_wp2_with (at_builtin;go_must (refine zK _ rfl (.tmp 26) (.tmp 28) 22 rfl w.heap.size 3 ii (A 0) 1 8 Try.underlying22 a6 u t r rfl Zd v3 2 (([o.a,o.b]:List Int).map zN) rfl i.out.2.2.2 _ o.args.length (o.args.map zN) rfl b5.out (by have:=a2.out.2.2;unfold maxLen;omega) (by have:=a2.out.2.2;omega) i.out.1.size ?_;intro v9 w9 d c a1))
 go_ret;refine⟨v9,rfl,?_,yP i.out.1 c i.out.1.size (wF i.out.2.2.2)⟩;rw[<-Js] at d;exact uA d (by simp<;>omega) c0.out
theorem uses_any(o:IOp)(ho:I64 o.code/\I64 o.res/\I64 o.a/\I64 o.b/\o.n<65536){av:Value}{B:Nat}(hB:B<=w.heap.size)(d:zY w B av o.args)(c:o.args.length<=1000000000000):
 Y 70 #[.agg #[A o.code,A o.res,A o.a,A o.b,I (o.n:Int),av]] w (wG w (rR o)):=by
 unfold rR;cases h:(zi o.code).a<;>cases g:(zi o.code).b
 ·exact uses_00 o ho hB d c h g
 ·exact uses_01 o ho hB d c h g
 ·exact uses_10 o ho hB d c h g
 ·exact uses_11 o ho hB d c h g
end Go.Proofs.Ytojclalkfhoooaa
set_option maxRecDepth 8000
namespace Go.Proofs.Ytojclalkfhoooaa
open Go.RowKit Go.Shelf
variable {W W0 w w' w0 w1:World}{o:Obj}{blocks:List IBlk}{i:Int}{K:MK}{m:Mach}{B0 C bm bp cap m1 m2 nm x:Nat}{c g:Value}{preds:List (List Nat)}{xs:List Value}{d:wO}
attribute [local go_sem] Oper.semAt_some
def aaT (Bv Bn n:Nat)(xs:List Nat)(bv bp op len cap:Nat)(ar:Option Addr)(capr:Nat)(W:World):Prop:=
 G W Bv 0 (Q bv)/\G W Bn 0 (A n)/\G W bv 2 (.slice (some ⟨bp,op,none⟩) len cap)/\n<len/\
  G W bp (op+n) (.slice ar xs.length capr)/\∀(j:Nat) (x:Nat),xs[j]? =some x->∃b o,ar=some ⟨b,o,none⟩/\G W b (o+j) (A x)
theorem aH (m:Nat)(hm:1<=m)(l Bv Bn n:Nat)(xs:List Nat)(bv bp op len cap:Nat)(ar:Option Addr)(c:Nat)(hx:xs.length<=4000004000000)(J Jx:List Nat->World->Prop)
 (y:∀(pre:List Nat) (x:Nat) (W:World),J pre W->xs[pre.length]? =some x->YieldAt Fence.wide (m-1) Try.prog l #[A x] W fun e W'=>
   (e=.returned (.bool true)/\J (pre++ [x]) W'/\(aaT Bv Bn n xs bv bp op len cap ar c W->aaT Bv Bn n xs bv bp op len cap ar c W'))∨(e=.returned (.bool false)/\Jx (pre++ [x]) W'))
 (a0:∀pre W k,J pre W->J pre (W.drewN k)) (W:World) (hR:aaT Bv Bn n xs bv bp op len cap ar c W) (h0:J [] W):
 CallsIn Fence.wide m Try.prog 129 #[.func (.yield l) #[] #[],Q Bv,Q Bn] W fun e W'=>(∃v,e=.returned v)/\
  ((∃ys,ys=xs/\J ys W')∨(∃pre,pre<+:xs/\Jx pre W')):=by
 have a2:=Ja hR;obtain⟨c1,c2,c3,hn,c4,hc⟩:=hR;have a5:(n:Int)<len:=Zo;refine callsIn_of_wp Try.func129 rfl trivial ?_ rfl;simp only[Try.ntmps129,List.size_toArray,Nq,Ow,Nat.reduceAdd,Nat.reduceSub,Array.replicate_succ,Array.replicate_zero,List.push_toArray,List.append_toArray,Op,List.cons_append]
 gi_wp2
 gi_region
 gi_wp2
 gi_loopw [14] (fun i wr=>∃k:Nat,k<=xs.length/\i=A k/\J (xs.take k) wr/\Hid (aaT Bv Bn n xs bv bp op len cap ar c wr)) (fun i _=>xs.length-(intOf i).toNat)
 case atStart=>exact⟨0,Jt _,rfl,a0 _ _ 1 h0,a2⟩
 case round=>
  obtain⟨k,hk,rfl,h,HR⟩:=hrel
  by_cases t:k<xs.length
  ·obtain⟨x,d⟩:∃x,xs[k]? =some x:=⟨_,Jd t⟩
   obtain⟨b,o,w,a6⟩:=HR.out.2.2.2.2.2 k x d;obtain⟨fn,a3,assign,body,hy,hR⟩:=y _ x wr h (by rw[Oc,Ud hk];exact d);have g:xs.take (k+1)=xs.take k++ [x]:=by rw[Nh,d];rfl
   have j:=Ja g;have a7:=Ja d;have a4:(k:Int)<xs.length:=Zo;subst w;clear d g c1 c2 c3 c4 hc y
   gi_wp2
   refine hR.mono ?_;rintro e W3 (⟨rfl,a1,u⟩|⟨rfl,r⟩)
   ·gi_wp2
    go_roundw
    case rel=>exact⟨k+1,by omega,by go_num,by rw[j.out];exact a1,u HR⟩
    case measure=>simp[intOf];omega
   ·gi_wp2
    refine bodyPost_ret (results_none rfl _ _ _) rfl ?_;exact⟨⟨_,rfl⟩,.inr ⟨_,by rw[<-j.out];exact List.take_prefix _ _,r⟩⟩
  ·obtain rfl:k=xs.length:=by omega
   gi_wp2
   go_end0
   exact⟨⟨_,rfl⟩,.inl ⟨_,Nl,h⟩⟩
theorem lj (p:Option Addr)(n:Int)(w:World):
 Y 122 #[.pointer p,A n] w fun e w'=>e=.returned (.func (.func 129) #[] #[Q w.heap.size,Q (w.heap.size+1)])/\
  w'=(w.alloc (U #[.pointer p] 160)).alloc (U #[A n] 3):=by
 go_enter Try.func122,Try.ntmps122;go_wp2;go_ret;exact⟨rfl,rfl⟩
theorem aaT.below{Bv Bn n bv op len d:Nat}{xs:List Nat}{ar:Option Addr}{W':World}(h:aaT Bv Bn n xs bv bp op len cap ar d W)(hb:Below C W W')(k:W.heap.size<=C):aaT Bv Bn n xs bv bp op len cap ar d W':=by
 obtain⟨c1,c2,c3,g,c4,i⟩:=h;have up:∀ {a:Addr} {v:Value},W.cell? a=some v->W'.cell? a=some v:=fun {a v} h=>(hb.cell (Jy (Jw W a h) k)).trans h
 refine⟨up c1,up c2,up c3,g,up c4,fun j x hj=>?_⟩;obtain⟨b,o,e,c⟩:=i j x hj;exact⟨b,o,e,up c⟩
theorem mC{xs:List Nat}{k:Nat}(h:xs[k]? =some x):xs.attach.take (k+1)=xs.attach.take k++ [⟨x,Ji h⟩]:=by
 rw[Nh]
 congr 1
 obtain⟨c,rfl⟩:=Jh.1 h;rw[Jd (by simpa using c)];simp
theorem nH (m:Nat)(hm:1<=m)(Bv Bn n:Nat)(xs:List Nat)(bv bp op len cap:Nat)(ar:Option Addr)(c:Nat)(d:xs.length<=4000004000000)(w:World)(g:aaT Bv Bn n xs bv bp op len cap ar c w):
 SeqStopsK Fence.wide m Try.prog 129 #[Q Bv,Q Bn] (fun x: {p//p∈xs}=> #[A (x.1:Int)]) (fun W W'=>aaT Bv Bn n xs bv bp op len cap ar c W->aaT Bv Bn n xs bv bp op len cap ar c W')
  (fun ys=>ys.map (·.1)=xs) (fun _=>True) xs.length w:=fun l J Jx W hW hJ _ hY h0=>by
 refine(aH m hm l Bv Bn n xs bv bp op len cap ar c d (fun pre W=>J (xs.attach.take pre.length) W) (fun pre W=>Jx (xs.attach.take pre.length) W) (fun pre x W1 h1 h2=>?_)
  (fun pre W1 k h=>hJ _ W1 (W1.drewN k) none h ⟨rfl,rfl,rfl,Je _,fun _ _ _=>rfl⟩ (fun _ e=>by cases e)) W (g.below hW (Je _)) (by simpa using h0)).mono ?_
 ·have i:pre.length<xs.length:=(Jh.1 h2).1;refine(hY _ ⟨x,Ji h2⟩ W1 h1 (by rw[Oc,List.length_attach];omega)).mono ?_;rw[Jk,Ju,mC h2];exact fun e w' h=>h
 ·rintro e w' ⟨hv,(⟨ys,rfl,h⟩|⟨pre,_,h⟩)⟩
  ·exact⟨hv,.inl ⟨_,by simp,h⟩⟩
  ·exact⟨hv,.inr ⟨_,trivial,h⟩⟩
theorem bH{base g n:Nat}{e:TypeId}{x:Value}(h:w.ownsRow base e 1 (N g (n+1) cap) (n+1) (xs++ [x])):w.ownsRow base e 1 (N g n cap) n xs:=by
 have hl:=h.1;simp only[Jk,Ju,Nk] at hl;refine⟨by omega,.inr ?_⟩;rcases h.2 with⟨hv,_⟩|⟨g',i,cur,hv,hg,d,h1,h2,h3,c⟩
 ·cases hv
 ·cases hv;refine⟨g,cap,cur,rfl,hg,d,by omega,h2,h3,?_⟩;have:(cur.toList.take (n+1)).take n=(xs++ [x]).take n:=by rw[Nk] at c;rw[c]
  rw[List.take_take,Ud Zo,List.take_append_of_le_length Zo,Oy (l:=xs) Zo] at this;rw[Nk];exact this
open Go.RowKit
theorem ye (b k:Nat)(hne:k≠b):∀(vs:List Value) (o:Nat) (w:World),(w.setCells b o vs).heap[k]? =w.heap[k]?
 | [],o,w=>rfl
 |v::vs,o,w=>(ye b k hne vs (o+1) _).trans (Below.heap_setCell _ _ _ _ (by simpa using hne))
theorem y8 (b:Nat):∀(vs:List Value) (o:Nat) (w:World),(w.setCells b o vs).heap.size=w.heap.size
 | [],_,_=>rfl
 |v::vs,o,w=>(y8 b vs (o+1) _).trans Zs
theorem ze (b:Nat):∀(vs:List Value) (o:Nat) (w:World),(w.setCells b o vs).os=w.os/\(w.setCells b o vs).tape=w.tape/\(w.setCells b o vs).output=w.output
 | [],_,_=>⟨rfl,rfl,rfl⟩
 |v::vs,o,w=>ze b vs (o+1) _
end Go.Proofs.Ytojclalkfhoooaa
