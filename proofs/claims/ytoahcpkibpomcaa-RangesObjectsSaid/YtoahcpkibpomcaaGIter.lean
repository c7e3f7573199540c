/- Part of a proof. -/
import Derived.Test.YtoahcpkibpomcaaGLw3
set_option linter.all false
set_option maxHeartbeats 4000000
set_option maxRecDepth 100000
namespace Go.Proofs.Ytoahcpkibpomcaa
open Go.RowKit
variable {P:Program}{W0 w w' w0 w1:World}{B0 C bm bp j k m nm x:Nat}{i:Int}{blocks:List IBlk}{d d':wO}{K:MK}{g preds:List (List Nat)}{c:List Nat}{o:Obj}{xs:List Int}
def yH (V:PV)(p:IProg):Value:=.agg #[V.fv,V.av,I p.entry,I p.handler,V.dv,V.bv]
def iz (o:IObj):Value:=.agg #[I o.bank,G (o.addr:Int),G (o.size:Int)]
def sW (nb:Nat)(o:IObj):Bool:=
 if o.bank=-1 then decide (0<o.size) && (decide (16384<=o.addr) && decide (o.addr+o.size<=24576))
 else decide (0<o.size) && (decide (0<=o.bank) && (decide (o.bank<nb) && decide (o.addr+o.size<=4096)))
def uK (a b:IObj):Bool:=decide (a.bank=b.bank) && (decide (a.addr<b.addr+b.size) && decide (b.addr<a.addr+a.size))
theorem zZ {P Q:Prop} [Decidable P] [Decidable Q] {b:Bool}(h:decide P=b)(e:P↔Q):decide Q=b:=by rw[<-h];exact decide_eq_decide.2 e.symm
theorem kL{V:PV}{p:IProg}(hp:ProgIn w w.heap.size V p)(o:IObj)(ho:I64 o.bank/\o.addr<65536/\o.size<65536):
 T 74 #[yH V p,iz o] w fun e w'=>e=.returned (.bool (sW p.banks.length o))/\O w w':=by
 obtain⟨Vf,Va,Vd,Vb⟩:=V;obtain⟨f1,f2,e1,_,_⟩:=hp.funcs.form;obtain⟨a1,a2,e2,_,_⟩:=hp.args.form;obtain⟨d1,d2,e3,_,_⟩:=hp.data.form;obtain⟨b1,b2,e4,k,u⟩:=hp.banks.form;simp only at e1 e2 e3 e4;subst e1 e2 e3 e4;unfold yH iz;simp only;have x:p.banks.length<=9223372036854775807:=Zo;obtain⟨q,t,m⟩:=ho;clear hp k;obtain⟨q1,l⟩:∃b,decide (0<o.size)=b:=⟨_,rfl⟩
 have d:∀M:Nat,∀b,decide (o.addr+o.size<=M)=b->decide ((o.addr:Int)+(o.size:Int)<=(M:Int))=b:=fun M b h=>zZ h Zo
 by_cases c:o.bank=-1
 ·have e:sW p.banks.length o=(decide (0<o.size) && (decide (16384<=o.addr) && decide (o.addr+o.size<=24576))):=if_pos c;obtain⟨q2,j⟩:∃b,decide (16384<=o.addr)=b:=⟨_,rfl⟩
  obtain⟨q3,g⟩:∃b,decide (o.addr+o.size<=24576)=b:=⟨_,rfl⟩
  have a3:decide ((16384:Int)<=(o.addr:Int))=q2:=zZ j Zo;have a0:decide ((o.addr:Int)+(o.size:Int)<=24576)=q3:=d 24576 _ g;have t1:(o.bank==-1)=true:=by rw[beq_iff_eq];exact c
  rw[e,l,j,g];have H3:=Ja g;clear e d c g;cases q1<;>cases q2<;>cases q3
  all_goals go_enter Try.func74,Try.ntmps74
  all_goals go_wp2
  all_goals go_ret
  all_goals exact⟨rfl,((Below.refl _ _).alloc (Je _) _).alloc Zs _⟩
 ·have e:sW p.banks.length o=(decide (0<o.size) && (decide (0<=o.bank) && (decide (o.bank<p.banks.length) && decide (o.addr+o.size<=4096)))):=if_neg c;obtain⟨q2,j⟩:∃b,decide (0<=o.bank)=b:=⟨_,rfl⟩
  obtain⟨q3,g⟩:∃b,decide (o.bank<(p.banks.length:Int))=b:=⟨_,rfl⟩
  obtain⟨q4,i⟩:∃b,decide (o.addr+o.size<=4096)=b:=⟨_,rfl⟩
  have y:decide ((o.addr:Int)+(o.size:Int)<=4096)=q4:=d 4096 _ i;have t1:(o.bank==-1)=false:=by rw[beq_eq_false_iff_ne];exact c
  rw[e,l,j,g,i];have H4:=Ja i;clear e d c i;cases q1<;>cases q2<;>cases q3<;>cases q4
  all_goals go_enter Try.func74,Try.ntmps74
  all_goals go_wp2
  all_goals go_ret
  all_goals exact⟨rfl,((Below.refl _ _).alloc (Je _) _).alloc Zs _⟩
theorem nT (w:World)(a b:IObj)(l:I64 a.bank/\a.addr<65536/\a.size<65536)(hb:I64 b.bank/\b.addr<65536/\b.size<65536):
 T 75 #[iz a,iz b] w fun e w'=>e=.returned (.bool (uK a b))/\O w w':=by
 unfold iz;obtain⟨_,k,i⟩:=l;obtain⟨_,j,h⟩:=hb;obtain⟨q1,g⟩:∃q,decide (a.bank=b.bank)=q:=⟨_,rfl⟩
 obtain⟨q2,d⟩:∃q,decide (a.addr<b.addr+b.size)=q:=⟨_,rfl⟩
 obtain⟨q3,c⟩:∃q,decide (b.addr<a.addr+a.size)=q:=⟨_,rfl⟩
 have t1:(a.bank==b.bank)=q1:=by rw[<-g];rw[Bool.eq_iff_iff,beq_iff_eq,decide_eq_true_eq]
 have t2:decide ((a.addr:Int)<(b.addr:Int)+(b.size:Int))=q2:=zZ d Zo;have t3:decide ((b.addr:Int)<(a.addr:Int)+(a.size:Int))=q3:=zZ c Zo;have e:uK a b=(q1 && (q2 && q3)):=by unfold uK;rw[g,d,c]
 rw[e];clear e g d c;cases q1<;>cases q2<;>cases q3
 all_goals go_enter Try.func75,Try.ntmps75
 all_goals go_wp2
 all_goals go_ret
 all_goals exact⟨rfl,((Below.refl _ _).alloc (Je _) _).alloc Zs _⟩
def yw (p:IProg)(f:Int):Bool:=decide (0<=f) && (decide (f<p.funcs.length) && (p.args.getD f.toNat 0==0))
theorem kR{V:PV}{p:IProg}(hp:ProgIn w w.heap.size V p)(hl:p.args.length=p.funcs.length)(f:Int):
 T 60 #[yH V p,I f] w fun e w'=>e=.returned (.bool (yw p f))/\O w w':=by
 obtain⟨Vf,Va,Vd,Vb⟩:=V;obtain⟨f1,f2,e1,i,u⟩:=hp.funcs.form;have c:=hp.args;obtain⟨a1,a2,e2,_,_⟩:=hp.args.form;obtain⟨d1,d2,e3,_,_⟩:=hp.data.form;obtain⟨b1,b2,e4,_,_⟩:=hp.banks.form;simp only at e1 e2 e3 e4 c;subst e1 e2 e3 e4;unfold yH;simp only;have y:p.funcs.length<=9223372036854775807:=Zo;clear hp i;have l:O w (w.alloc (A (R p f1 f2 a1 a2 d1 d2 b1 b2) 44)):=(Below.refl _ _).alloc (Je _) _
 by_cases d:0<=f
 ·obtain⟨k,rfl⟩:∃k:Nat,f=(k:Int):=⟨f.toNat,by omega⟩
  by_cases g:k<p.funcs.length
  ·obtain⟨x,h⟩:∃x,p.args[k]? =some x:=⟨_,Jd Zo⟩
   obtain⟨b,o,rfl,hb,j,_⟩:=c.get h;rw[Nk] at j;have a0:=zV l hb j;obtain⟨q,m⟩:∃q,(x==0)=q:=⟨_,rfl⟩
   have e:yw p k=q:=by unfold yw;rw[decide_eq_true d,decide_eq_true (show(k:Int)<p.funcs.length by omega),Ni,Jj,h];exact m
   rw[e];have t1:decide (k<p.funcs.length)=true:=decide_eq_true g;have t:(k:Int)<p.args.length:=Zo;clear e d g h c;cases q
   all_goals go_enter Try.func60,Try.ntmps60
   all_goals go_wp2
   all_goals go_ret
   all_goals exact⟨rfl,(Below.refl _ _).alloc (Je _) _⟩
  ·have e:yw p k=false:=by unfold yw;rw[decide_eq_true d,decide_eq_false (show ¬(k:Int)<p.funcs.length by omega)];rfl
   rw[e];have t1:decide (k<p.funcs.length)=false:=decide_eq_false g;clear e d g c;go_enter Try.func60,Try.ntmps60;go_wp2;go_ret;exact⟨rfl,(Below.refl _ _).alloc (Je _) _⟩
 ·have e:yw p f=false:=by unfold yw;rw[decide_eq_false d];rfl
  rw[e];have t1:decide (0<=f)=false:=decide_eq_false d;clear e d c;go_enter Try.func60,Try.ntmps60;go_wp2;go_ret;exact⟨rfl,(Below.refl _ _).alloc (Je _) _⟩
def mh (l:List ByteArray):Bool:=l.all fun s=>decide (s.size=4096)
def lF (o:IObj)(l:List IObj):Bool:=l.all fun x=>!uK o x
def lm (nb:Nat)(l:List IObj)(i:Nat):Bool:=match l[i]? with|some o=>sW nb o && lF o (l.take i)|none=>true
def ig (nb:Nat)(l:List IObj):Bool:=(List.range l.length).all (lm nb l)
def wB (p:IProg):Bool:=mh p.banks && ig p.banks.length p.data
theorem xX{α:Type}(f:α->Bool){l:List α}{x:α}(h:l[k]? =some x):(l.take (k+1)).all f=((l.take k).all f && f x):=by
 rw[Nh,h,List.all_append];simp
theorem aaN{α:Type}(f:α->Bool){l:List α}{x:α}(h:l[k]? =some x)(hf:f x=false):l.all f=false:=by
 rw[Um];exact⟨x,Ji h,by rw[hf];simp⟩
theorem mO {nb:Nat}{l:List IObj}{i:Nat}(hi:i<l.length)(h:lm nb l i=false):ig nb l=false:=by
 unfold ig;rw[Um];exact⟨i,Ol.2 hi,by rw[h];simp⟩
def mQ (nb:Nat)(l:List IObj)(i:Nat):Bool:=(List.range i).all (lm nb l)
theorem nU (nb:Nat)(l:List IObj)(i:Nat):mQ nb l (i+1)=(mQ nb l i && lm nb l i):=by unfold mQ;rw[List.range_succ,List.all_append];simp
theorem kN{V:PV}{p:IProg}(hp:ProgIn w w.heap.size V p):
 T 61 #[yH V p] w fun e w'=>e=.returned (.bool (wB p))/\O w w':=by
 obtain⟨Vf,Va,Vd,Vb⟩:=V;obtain⟨f1,f2,e1,_,_⟩:=hp.funcs.form;obtain⟨a1,a2,e2,_,_⟩:=hp.args.form;have c7:=hp.data;have c8:=hp.banks;obtain⟨d1,d2,e3,i0,k7⟩:=hp.data.form;obtain⟨b1,b2,e4,l3,l1⟩:=hp.banks.form;simp only at e1 e2 e3 e4 c7 c8;subst e1 e2 e3 e4;have HP:=Ja hp;have h3:=Ja c7;have k0:=Ja c8;unfold yH;simp only;have k9:p.data.length<=d2:=i0;have l2:p.banks.length<=9223372036854775807:=Zo;clear hp c7 c8;go_enter Try.func61,Try.ntmps61;go_upto_region 1 with fail;have g8:O w (w.alloc (A (R p f1 f2 a1 a2 d1 d2 b1 b2) 44)):=(Below.refl _ _).alloc (Je _) _;have b7:=zI (W:=w) (o:=A (R p f1 f2 a1 a2 d1 d2 b1 b2) 44) rfl;generalize j2:w.alloc (A (R p f1 f2 a1 a2 d1 d2 b1 b2) 44)=W0 at *;have t:=Ja g8;have c0:=Ja b7;have p5:=K5 b7;have p4:=K4 b7;clear j2 g8 b7;go_wp2
 go_loopw [12] (fun kv wx=>∃k:Nat,k<=p.banks.length/\kv=I k/\wx=W0/\Hid ((p.banks.take k).all (fun s=>decide (s.size=4096))=true)) (fun kv _=>p.banks.length-(intOf kv).toNat)
 case atStart=>exact⟨0,Jt _,rfl,rfl,by rfl⟩
 case round=>
  obtain⟨k,hk,rfl,rfl,HK⟩:=hrel;generalize i2:wr=W0 at *;clear i2
  by_cases d0:k<p.banks.length
  ·have h7:(k:Int)<p.banks.length:=Zo;have h5:=Ja d0;obtain⟨s,hs⟩:∃s,p.banks[k]? =some s:=⟨_,Jd d0⟩
   obtain⟨b,o,rfl,hb,hc,k6⟩:=k0.out.get hs;rw[Nk] at hc;have cs:=zV t.out hb hc;have a5:=xX (fun s:ByteArray=>decide (s.size=4096)) hs;have a6:=fun h=>aaN (fun s:ByteArray=>decide (s.size=4096)) hs h
   have HT:=Ja (Jb a5 a6);clear hs hc hb a5 a6 d0
   by_cases hq:s.size=4096
   ·have t1:((s.size:Int) !=4096)=false:=by rw[bne_eq_false_iff_eq];omega
    have HQ:=Ja hq;clear hq;go_wp2;go_roundw
    case rel=>exact⟨k+1,h5.out,by go_num,by trivial,Ja (by rw[HT.out.1,HK.out];simp[HQ.out])⟩
    case measure=>have:=h5.out;simp[intOf];omega
   ·have t1:((s.size:Int) !=4096)=true:=by rw[bne_iff_ne];omega
    have HQ:=Ja hq;clear hq;go_wp2;go_ret;refine⟨rH ?_,t.out⟩;have h9:mh p.banks=false:=HT.out.2 (by simp[HQ.out]);unfold wB;rw[h9];rfl
  ·obtain rfl:k=p.banks.length:=by omega
   have h7:¬(p.banks.length:Int)<p.banks.length:=Zo;have g5:mh p.banks=true:=by have:=HK.out;rw[Nl] at this;exact this
   have f9:wB p=ig p.banks.length p.data:=by unfold wB;rw[g5];rfl
   have d5:=Ja f9;clear g5 f9 HK;go_wp2
   go_loopw [23] (fun iv wx=>∃i:Nat,i<=p.data.length/\iv=I i/\Hid (O W0 wx/\mQ p.banks.length p.data i=true)) (fun iv _=>p.data.length-(intOf iv).toNat)
   case atStart=>exact⟨0,Jt _,rfl,Below.refl _ _,by rfl⟩
   case round=>
    obtain⟨i,hi,rfl,HI⟩:=hrel
    by_cases a0:i<p.data.length
    ·skip
     have e7:(i:Int)<p.data.length:=Zo;have e5:=Ja a0;obtain⟨o,ho⟩:∃o,p.data[i]? =some o:=⟨_,Jd a0⟩
     obtain⟨b,oo,rfl,hb,b0,a9,a8,g2,g3,g0⟩:=h3.out.get ho;have c:O w wr:=t.out.trans (HI.out.1.mono t.out.size);have e0:=zV c hb b0;have e1:=zV c hb a9;have e2:=zV c hb a8;have x4:=zA (i:=4) (v:=.slice (some ⟨b,oo,none⟩) p.data.length d2) (zH HI.out.1 c0.out (lt_of_block c0.out)) Zs;have d3:=zH HI.out.1 c0.out (lt_of_block c0.out);have h4:=Ja (show I64 o.bank/\o.addr<65536/\o.size<65536 from⟨g2,g3,g0⟩);have l4:=Ja c;have HO:=Ja (Jb ho hb);have g1:lm p.banks.length p.data i=(sW p.banks.length o && lF o (p.data.take i)):=by unfold lm;rw[ho]
     have d7:=Ja g1;have g4:=fun h=>mO (nb:=p.banks.length) a0 h
     have h6:=Ja g4;clear ho hb b0 a9 a8 g2 g3 g0 a0 c g1 g4 p5 p4;go_upto_region 10 with fail;have a4:=zI (W:=wr) (o:=A #[I o.bank,G (o.addr:Int),G (o.size:Int)] 55) rfl;have g:=zB (o:=A #[I o.bank,G (o.addr:Int),G (o.size:Int)] 55) d3;have c2:=HI.out.1.alloc (HI.out.1.size) (A #[I o.bank,G (o.addr:Int),G (o.size:Int)] 55);have l0:W0.heap.size<=wr.heap.size:=HI.out.1.size;generalize j1:wr.alloc (A #[I o.bank,G (o.addr:Int),G (o.size:Int)] 55)=W1 at *;generalize wr.heap.size=b6 at *;have f3:=K0 a4;have f0:=K1 a4;have e8:=K2 a4;have y0:=K0 g;have y1:=K1 g;have y2:=K2 g;have y3:=K3 g;have y4:=K4 g;have y5:=K5 g;have m:=Ja (Jb c2 (t.out.trans (c2.mono t.out.size)));have HZ:=Ja (Jb a4 g);have a3:=kL ((HP.out.below m.out.2).mono m.out.2.size) o h4.out;unfold yH iz at a3;simp only at a3;have b4:=Ja a3;clear j1 a4 g c2 a3 d3 e0 e1 e2 x4;obtain⟨q1,c5⟩:∃q,sW p.banks.length o=q:=⟨_,rfl⟩
     rw[c5] at b4;have h2:=Ja c5;clear c5
     cases q1 with
     |false=>
      go_wp2_with (go_at_call 74;go_must (refine b4.out.mono ?_;rintro e w2 ⟨rfl,l⟩))
      go_ret;refine⟨rH ?_,m.out.2.trans (l.mono m.out.2.size)⟩;rw[d5.out]
      exact(h6.out (by rw[d7.out,h2.out];rfl)).symm
     |true=>
      go_upto_region 12 with(go_at_call 74;go_must (refine b4.out.mono ?_;rintro e w2 ⟨rfl,l⟩))
      have v4:=zA (i:=4) (v:=.slice (some ⟨b,oo,none⟩) p.data.length d2) (zH l HZ.out.2 (lt_of_block HZ.out.2)) Zs;have h0:=Ja (Jb (zH l HZ.out.1 (lt_of_block HZ.out.1)) l);have c3:=m.out.2.trans (l.mono m.out.2.size);have d:=Ja (Jb c3 (m.out.1.trans (l.mono m.out.1.size)));have k1:i<=d2:=Zo;clear f3 f0 e8 y0 y1 y2 y3 y4 y5 l c3;go_wp2
      go_loopw [37] (fun jv wx=>∃j:Nat,j<=i/\jv=I j/\Hid (O w2 wx/\lF o (p.data.take j)=true)) (fun jv _=>i-(intOf jv).toNat)
      case atStart=>exact⟨0,Jt _,rfl,Below.refl _ _,by rfl⟩
      case round=>
       obtain⟨j,hj,rfl,HJ⟩:=hrel
       by_cases b3:j<i
       ·have e6:(j:Int)<i:=Zo;have d8:=Ja b3;obtain⟨x,hx⟩:∃x,p.data[j]? =some x:=⟨_,Jd Zo⟩
        obtain⟨b',o',e',b9,b0,a9,a8,f6,f7,f5⟩:=h3.out.get hx;cases e';have c:=d.out.1.trans (HJ.out.1.mono d.out.1.size);have e0:=zV c b9 b0;have e1:=zV c b9 a9;have e2:=zV c b9 a8;have f4:=zH HJ.out.1 h0.out.1 (lt_of_block h0.out.1);have h8:=Ja (show I64 x.bank/\x.addr<65536/\x.size<65536 from⟨f6,f7,f5⟩);have a5:=xX (fun y=>!uK o y) hx;have f8:(p.data.take i)[j]? =some x:=by rw[Ug,if_pos b3];exact hx
        have a6:=fun h=>aaN (fun y=>!uK o y) f8 h
        have HT:=Ja (Jb a5 a6);have k2:=Ja c;clear hx b9 b0 a9 a8 f6 f7 f5 a5 a6 f8 b3 c;go_upto_region 15 with fail;have b5:=zI (W:=wr) (o:=A #[I x.bank,G (x.addr:Int),G (x.size:Int)] 55) rfl;have u:=zB (o:=A #[I x.bank,G (x.addr:Int),G (x.size:Int)] 55) f4;have g6:=HJ.out.1.alloc HJ.out.1.size (A #[I x.bank,G (x.addr:Int),G (x.size:Int)] 55);generalize i8:wr.alloc (A #[I x.bank,G (x.addr:Int),G (x.size:Int)] 55)=W8 at *;generalize wr.heap.size=b8 at *;have f3:=K0 u;have f0:=K1 u;have e8:=K2 u;have k5:=K0 b5;have k4:=K1 b5;have k3:=K2 b5;have c9:=nT W8 o x h4.out h8.out;unfold iz at c9;have d6:=Ja c9;have c1:=Ja g6;clear i8 b5 u f4 g6 c9 e0 e1 e2;obtain⟨q2,c4⟩:∃q,uK o x=q:=⟨_,rfl⟩
        rw[c4] at d6;have h1:=Ja c4;clear c4
        cases q2 with
        |true=>
         go_wp2_with (go_at_call 75;go_must (refine d6.out.mono ?_;rintro e w3 ⟨rfl,d4⟩))
         go_ret;have i1:=c1.out.trans (d4.mono c1.out.size);refine⟨rH ?_,d.out.1.trans (i1.mono d.out.1.size)⟩;rw[d5.out]
         exact(h6.out (by rw[d7.out];unfold lF;rw[HT.out.2 (by rw[h1.out];rfl),Uh])).symm
        |false=>
         go_wp2_with (go_at_call 75;go_must (refine d6.out.mono ?_;rintro e w3 ⟨rfl,d4⟩))
         go_roundw
         case rel=>exact⟨j+1,d8.out,by go_num,Ja ⟨c1.out.trans (d4.mono c1.out.size),by unfold lF;rw[HT.out.1];have:=HJ.out.2;unfold lF at this;rw[this,h1.out];rfl⟩⟩
         case measure=>have:=d8.out;simp[intOf];omega
       ·obtain rfl:j=i:=by omega
        have e6:¬(j:Int)<j:=Zo;go_wp2;go_roundw
        case rel=>
         refine⟨j+1,e5.out,by go_num,Ja ⟨d.out.2.trans (HJ.out.1.mono d.out.2.size),?_⟩⟩;rw[nU,HI.out.2,d7.out,h2.out,HJ.out.2];rfl
        case measure=>have:=e5.out;simp[intOf];omega
    ·obtain rfl:i=p.data.length:=by omega
     have e7:¬(p.data.length:Int)<p.data.length:=Zo;go_wp2;go_ret;refine⟨rH ?_,t.out.trans (HI.out.1.mono t.out.size)⟩;rw[d5.out];exact HI.out.2.symm
def tX (n:Int):Bool:=decide (0<=n) && decide (n<=8)
def sR (p:IProg):Int:=
 if 2000<p.funcs.length∨512<p.data.length∨64<p.banks.length then 2
 else if p.args.length≠p.funcs.length then 1
 else if p.args.all tX=false then 1
 else if yw p p.entry=false∨(p.handler≠-1/\yw p p.handler=false) then 1
 else if wB p=false then 37
 else 0
def m9 (w:World)(x:Int)(e:Ending)(w':World):Prop:=e=.returned (I x)/\O w w'
theorem kB{V:PV}{p:IProg}(hp:ProgIn w w.heap.size V p):T 26 #[yH V p] w (m9 w (sR p)):=by
 have i:∀(W:World),O w W->p.args.length=p.funcs.length->∀f,T 60 #[yH V p,I f] W fun e w'=>e=.returned (.bool (yw p f))/\O W w':=fun W hb hl f=>kR ((hp.below hb).mono hb.size) hl f
 have j:∀(W:World),O w W->T 61 #[yH V p] W fun e w'=>e=.returned (.bool (wB p))/\O W w':=fun W hb=>kN ((hp.below hb).mono hb.size)
 obtain⟨Vf,Va,Vd,Vb⟩:=V;obtain⟨f1,f2,e1,_,_⟩:=hp.funcs.form;have b9:=hp.args;obtain⟨a1,a2,e2,_,_⟩:=hp.args.form;obtain⟨d1,d2,e3,_,_⟩:=hp.data.form;obtain⟨b1,b2,e4,_,_⟩:=hp.banks.form;simp only at e1 e2 e3 e4 b9;subst e1 e2 e3 e4;unfold yH at i j ⊢;simp only at i j ⊢;have e8:p.args.length<=9223372036854775807:=Zo;have e6:=Ja b9;have d0:=Ja i;have d5:=Ja j;have b0:O w (w.alloc (A (R p f1 f2 a1 a2 d1 d2 b1 b2) 44)):=(Below.refl _ _).alloc (Je _) _;have l:=zI (W:=w) (o:=A (R p f1 f2 a1 a2 d1 d2 b1 b2) 44) rfl;obtain⟨q1,h1⟩:∃q,decide (2000<p.funcs.length)=q:=⟨_,rfl⟩
 obtain⟨q2,h2⟩:∃q,decide (512<p.data.length)=q:=⟨_,rfl⟩
 obtain⟨q3,h3⟩:∃q,decide (64<p.banks.length)=q:=⟨_,rfl⟩
 have f4:decide ((2000:Int)<(p.funcs.length:Int))=q1:=zZ h1 Zo;have f3:decide ((512:Int)<(p.data.length:Int))=q2:=zZ h2 Zo;have f0:decide ((64:Int)<(p.banks.length:Int))=q3:=zZ h3 Zo;have HQ:=Ja (Jb h1 (Jb h2 h3));clear hp b9 i j
 by_cases u:q1=true∨q2=true∨q3=true
 ·have hh:sR p=2:=by
   unfold sR;rw[if_pos];rcases u with e|e|e
   ·exact .inl (of_decide_eq_true (HQ.out.1.trans e))
   ·exact .inr (.inl (of_decide_eq_true (HQ.out.2.1.trans e)))
   ·exact .inr (.inr (of_decide_eq_true (HQ.out.2.2.trans e)))
  rw[hh];have HB:=Ja u;clear hh u l;cases q1<;>cases q2<;>cases q3
  all_goals first
   |(exfalso;have:=HB.out;simp at this;done)
   |(go_enter Try.func26,Try.ntmps26
     go_wp2;go_ret
     exact⟨rfl,b0⟩)
 ·obtain⟨e1,e2,e3⟩:q1=false/\q2=false/\q3=false:=by
   cases q1<;>cases q2<;>cases q3<;>simp at u ⊢
  subst e1 e2 e3
  have c7:sR p=if p.args.length≠p.funcs.length then 1 else if p.args.all tX=false then 1 else if yw p p.entry=false∨(p.handler≠-1/\yw p p.handler=false) then 1 else if wB p=false then 37 else 0:=by
   unfold sR;rw[if_neg];rintro(e|e|e)
   ·exact absurd e (of_decide_eq_false HQ.out.1)
   ·exact absurd e (of_decide_eq_false HQ.out.2.1)
   ·exact absurd e (of_decide_eq_false HQ.out.2.2)
  rw[c7];clear c7 u
  by_cases hl:p.args.length=p.funcs.length
  ·rw[if_neg (fun h=>h hl)];generalize b5:(if p.args.all tX=false then(1:Int) else if yw p p.entry=false∨(p.handler≠-1/\yw p p.handler=false) then 1 else if wB p=false then 37 else 0)=res;have c2:=Ja b5;clear b5;have t1:((p.args.length:Int) !=(p.funcs.length:Int))=false:=by rw[bne_eq_false_iff_eq];omega
   have HL:=Ja hl;clear hl;go_enter Try.func26,Try.ntmps26;go_upto_region 5 with fail;generalize e5:w.alloc (A (R p f1 f2 a1 a2 d1 d2 b1 b2) 44)=W0 at *;have g:=Ja b0;have a0:=Ja l;have y0:=K0 l;have y1:=K1 l;have y2:=K2 l;have y3:=K3 l;have y4:=K4 l;have y5:=K5 l;clear e5 b0 l;go_wp2
   go_loopw [31] (fun kv wx=>∃k:Nat,k<=p.args.length/\kv=I k/\wx=W0/\Hid ((p.args.take k).all tX=true)) (fun kv _=>p.args.length-(intOf kv).toNat)
   case atStart=>exact⟨0,Jt _,rfl,rfl,by rfl⟩
   case round=>
    obtain⟨k,hk,rfl,rfl,HK⟩:=hrel;generalize e0:wr=W0 at *;clear e0
    by_cases c0:k<p.args.length
    ·have d7:(k:Int)<p.args.length:=Zo;have d6:=Ja c0;obtain⟨n,hn⟩:∃n,p.args[k]? =some n:=⟨_,Jd c0⟩
     obtain⟨b,o,rfl,hb,hc,e7⟩:=e6.out.get hn;rw[Nk] at hc;have cn:=zV g.out hb hc;have HT:=Ja (Jb (xX tX hn) (fun h=>aaN tX hn h));obtain⟨q1,g1⟩:∃q,decide (0<=n)=q:=⟨_,rfl⟩
     obtain⟨q2,g2⟩:∃q,decide (n<=8)=q:=⟨_,rfl⟩
     have c9:decide (n<0)=!q1:=by rw[<-g1];by_cases h:0<=n<;>simp[h]<;>omega
     have c8:decide (8<n)=!q2:=by rw[<-g2];by_cases h:n<=8<;>simp[h]<;>omega
     have HA:=Ja (show tX n=(q1 && q2) by unfold tX;rw[g1,g2]);clear hn hc hb c0 g1 g2;cases q1<;>cases q2
     case true.true=>
      simp only[Bool.not_true] at c9 c8;go_wp2;go_roundw
      case rel=>exact⟨k+1,d6.out,by go_num,by trivial,Ja (by rw[HT.out.1,HK.out,HA.out];rfl)⟩
      case measure=>have:=d6.out;simp[intOf];omega
     all_goals simp only[Bool.not_true,Bool.not_false] at c9 c8
     all_goals go_wp2
     all_goals go_ret
     all_goals refine⟨zh ?_,g.out⟩
     all_goals rw[<-c2.out,if_pos (HT.out.2 (by rw[HA.out];rfl))]
    ·obtain rfl:k=p.args.length:=by omega
     have d7:¬(p.args.length:Int)<p.args.length:=Zo;have c1:p.args.all tX=true:=by have:=HK.out;rw[Nl] at this;exact this
     have b6:=c2.out;rw[if_neg (by rw[c1];simp)] at b6;have b4:=Ja b6;clear b6 c1 HK;go_upto_region 11 with fail;obtain⟨qe,b8⟩:∃q,yw p p.entry=q:=⟨_,rfl⟩
     have c5:T 60 #[.agg (R p f1 f2 a1 a2 d1 d2 b1 b2),I p.entry] W0 fun e w'=>e=.returned (.bool qe)/\O W0 w':=by rw[<-b8];exact d0.out _ g.out HL.out _
     have b3:=Ja c5;have c3:=Ja b8;clear c5 b8
     cases qe with
     |false=>
      go_wp2_with (go_at_call 60;go_must (refine b3.out.mono ?_;rintro e w2 ⟨rfl,m⟩))
      go_ret;refine⟨zh ?_,g.out.trans (m.mono g.out.size)⟩
      rw[<-b4.out,if_pos (.inl c3.out)]
     |true=>
      by_cases hh:p.handler=-1
      ·have t2:(p.handler !=-1)=false:=by rw[bne_eq_false_iff_eq];exact hh
       have a5:Hid ((if wB p=false then(37:Int) else 0)=res):=by
        have h:=b4.out;rw[if_neg (by rintro(e|e);(rw[c3.out] at e;cases e);exact e.1 hh)] at h;exact h
       clear hh;go_upto_region 13 with(go_at_call 60;go_must (refine b3.out.mono ?_;rintro e w2 ⟨rfl,m⟩;have c:=zH m a0.out (lt_of_block a0.out);have u0:=K0 c;have u1:=K1 c;have u2:=K2 c;have u3:=K3 c;have u4:=K4 c;have u5:=K5 c))
       have d:=g.out.trans (m.mono g.out.size);obtain⟨qp,t⟩:∃q,wB p=q:=⟨_,rfl⟩
       have a3:T 61 #[.agg (R p f1 f2 a1 a2 d1 d2 b1 b2)] w2 fun e w'=>e=.returned (.bool qp)/\O w2 w':=by rw[<-t];exact d5.out _ d
       have a8:=Ja a3;have a6:=Ja t;clear a3 t
       cases qp with
       |false=>
        go_wp2_with (go_at_call 61;go_must (refine a8.out.mono ?_;rintro e w5 ⟨rfl,x⟩))
        go_ret;refine⟨zh ?_,(d).trans (x.mono (d).size)⟩
        rw[<-a5.out,if_pos a6.out]
       |true=>
        go_wp2_with (go_at_call 61;go_must (refine a8.out.mono ?_;rintro e w5 ⟨rfl,x⟩))
        go_ret;refine⟨zh ?_,(d).trans (x.mono (d).size)⟩;rw[<-a5.out,if_neg (by rw[a6.out];simp)]
      ·have t2:(p.handler !=-1)=true:=by rw[bne_iff_ne];exact hh
       obtain⟨qh,b7⟩:∃q,yw p p.handler=q:=⟨_,rfl⟩
       have d4:=Ja b7;have c4:∀W,O w W->T 60 #[.agg (R p f1 f2 a1 a2 d1 d2 b1 b2),I p.handler] W fun e w'=>e=.returned (.bool qh)/\O W w':=fun W hb=>by rw[<-b7];exact d0.out _ hb HL.out _
       have d3:=Ja c4;have HH:=Ja hh;have g1:True:=trivial;clear hh b7 c4
       cases qh with
       |false=>
        go_wp2_with (first|(go_at_call 60;have d8:=g1;clear g1;go_must (refine b3.out.mono ?_;rintro e w2 ⟨rfl,m⟩;have c:=zH m a0.out (lt_of_block a0.out);have u0:=K0 c;have u1:=K1 c;have u2:=K2 c;have u3:=K3 c;have u4:=K4 c;have u5:=K5 c;have d:=g.out.trans (m.mono g.out.size)))|(go_at_call 60;go_must (refine(d3.out _ d).mono ?_;rintro e w4 ⟨rfl,a9⟩)))
        go_ret;refine⟨zh ?_,d.trans (a9.mono d.size)⟩
        rw[<-b4.out,if_pos (.inr ⟨HH.out,d4.out⟩)]
       |true=>
        have a5:Hid ((if wB p=false then(37:Int) else 0)=res):=by
         have h:=b4.out;rw[if_neg (by rintro(e|e);(rw[c3.out] at e;cases e);(rw[d4.out] at e;cases e.2))] at h;exact h
        go_upto_region 13 with(first|(go_at_call 60;have d8:=g1;clear g1;go_must (refine b3.out.mono ?_;rintro e w2 ⟨rfl,m⟩;have c:=zH m a0.out (lt_of_block a0.out);have u0:=K0 c;have u1:=K1 c;have u2:=K2 c;have u3:=K3 c;have u4:=K4 c;have u5:=K5 c;have d:=g.out.trans (m.mono g.out.size)))|(go_at_call 60;go_must (refine(d3.out _ d).mono ?_;rintro e w4 ⟨rfl,a9⟩;have y:=zH a9 c (lt_of_block c);have v0:=K0 y;have v1:=K1 y;have v2:=K2 y;have v3:=K3 y;have v4:=K4 y;have v5:=K5 y)))
        have a4:=d.trans (a9.mono d.size);obtain⟨qp,t⟩:∃q,wB p=q:=⟨_,rfl⟩
        have a3:T 61 #[.agg (R p f1 f2 a1 a2 d1 d2 b1 b2)] w4 fun e w'=>e=.returned (.bool qp)/\O w4 w':=by rw[<-t];exact d5.out _ a4
        have a8:=Ja a3;have a6:=Ja t;clear a3 t
        cases qp with
        |false=>
         go_wp2_with (go_at_call 61;go_must (refine a8.out.mono ?_;rintro e w5 ⟨rfl,x⟩))
         go_ret;refine⟨zh ?_,(a4).trans (x.mono (a4).size)⟩
         rw[<-a5.out,if_pos a6.out]
        |true=>
         go_wp2_with (go_at_call 61;go_must (refine a8.out.mono ?_;rintro e w5 ⟨rfl,x⟩))
         go_ret;refine⟨zh ?_,(a4).trans (x.mono (a4).size)⟩;rw[<-a5.out,if_neg (by rw[a6.out];simp)]
  ·rw[if_pos hl];have t1:((p.args.length:Int) !=(p.funcs.length:Int))=true:=by rw[bne_iff_ne];omega
   clear hl l;go_enter Try.func26,Try.ntmps26;go_wp2;go_ret;exact⟨rfl,b0⟩
def rR (o:IOp):List Int:=(if(zi o.code).a then [o.a] else [])++(if(zi o.code).b then [o.b] else [])++o.args
def ut (t:ITerm):Bool:=decide (t.kind=2)||(decide (t.kind=3)||decide (t.kind=4) && decide (t.a≠-1))
def mE (t:ITerm):List Int:=(if ut t then [t.a] else [])++(t.to.map (·.args)).flatten
def zy (blocks:List IBlk):List (List Nat):=blocks.map fun b=>b.term.to.map fun e=>e.block.toNat
def yy (d:wO)(g:List (List Nat))(i k:Int)(v:Int):Bool:=
 match d.1 v,d.2 v with
 |some b,some a=>!(decide (b=i) && decide (k<=a)) && wE g b.toNat i.toNat
 |_,_=>false
def xF (d:wO)(g:List (List Nat))(i:Int):List IOp->Int->Bool
 | [],_=>true
 |o::os,k=>(rR o).all (yy d g i k) && xF d g i os (k+1)
def aaC (d:wO)(g:List (List Nat))(b:IBlk)(i:Int):Bool:=xF d g i b.ops 0 && (mE b.term).all (yy d g i b.ops.length)
def tO (d:wO)(g:List (List Nat)):List IBlk->Int->Bool
 | [],_=>true
 |b::bs,i=>aaC d g b i && tO d g bs (i+1)
def iM (blocks:List IBlk)(d:wO):Bool:=decide ((vD (zy blocks)).length=blocks.length) && tO d (zy blocks) blocks 0
def yi (p:IProg)(n:Nat):Bool:=
 match p.funcs.getD n [] with
 | []=>true
 |b::bs=>decide ((b.params.length:Int)=p.args.getD n 0) && ((wg p (b::bs)).map (iM (b::bs))).getD false
def vC (p:IProg):Int:=if sR p≠0 then sR p else if(List.range p.funcs.length).all (yi p) then 0 else 51
theorem uX:∀(l m:List Int) (d:wO),vJ i (l++m) d=(vJ i l d).bind (vJ i m)
 | [],m,d=>rfl
 |v::l,m,d=>by
  show(rB d v i (-1)).bind (vJ i (l++m))=((rB d v i (-1)).bind (vJ i l)).bind (vJ i m)
  cases rB d v i (-1) with
  |none=>rfl
  |some d'=>exact uX l m d'
theorem nF{p:IProg}{b:IBlk}(h:pS p blocks i b d=some d'):wn blocks b.term=true/\∃d1,vJ i b.params d=some d1/\sS p i b.ops 0 d1=some d':=by
 unfold pS at h
 cases g:vJ i b.params d with
 |none=>rw[g] at h;cases h
 |some d1=>
  rw[g,Nw] at h
  cases c:sS p i b.ops 0 d1 with
  |none=>rw[c] at h;cases h
  |some d2=>
   rw[c,Nw] at h
   split at h
   ·cases h;exact⟨‹_›,d1,rfl,c⟩
   ·cases h
theorem nk{p:IProg}:∀(os:List IOp) (k:Int) (d d':wO),sS p i os k d=some d'->∀o∈os,opF p o=true
 | [],_,_,_,_,o,ho=>by cases ho
 |x::os,k,d,d',h,o,ho=>by
  unfold sS at h
  split at h
  ·rename_i hx
   rcases Jq.1 ho with rfl|ho
   ·exact hx
   ·split at h
    ·cases h1:rB d x.res i k with
     |none=>rw[h1] at h;cases h
     |some d1=>rw[h1,Nw] at h;exact nk os _ _ _ h o ho
    ·exact nk os _ _ _ h o ho
  ·cases h
theorem rV{p:IProg}:∀(bs:List IBlk) (i:Int) (d d':wO),uH p blocks bs i d=some d'->∀b∈bs,(∀o∈b.ops,opF p o=true)/\wn blocks b.term=true
 | [],_,_,_,_,b,hb=>by cases hb
 |x::bs,i,d,d',h,b,hb=>by
  unfold uH at h
  cases h1:pS p blocks i x d with
  |none=>rw[h1] at h;cases h
  |some d1=>
   rw[h1,Nw] at h;rcases Jq.1 hb with rfl|hb
   ·obtain⟨h2,d2,_,h3⟩:=nF h1;exact⟨nk _ _ _ _ h3,h2⟩
   ·exact rV bs _ _ _ h b hb
theorem tF {p:IProg}{n:Nat}{b:IBlk}{bs:List IBlk}(hf:p.funcs[n]? =some (b::bs))(h:yi p n=true):
 (b.params.length:Int)=p.args.getD n 0/\∃d,wg p (b::bs)=some d/\iM (b::bs) d=true:=by
 unfold yi at h;rw[Jj,hf,Ot] at h;simp only[Jm,decide_eq_true_eq] at h;obtain⟨i,c⟩:=h;refine⟨i,?_⟩
 cases g:wg p (b::bs) with
 |none=>rw[g] at c;cases c
 |some d=>rw[g] at c;exact⟨d,rfl,c⟩
theorem se {p:IProg}(h:sR p=0):(p.funcs.length<=2000/\p.data.length<=512/\p.banks.length<=64)/\p.args.length=p.funcs.length/\p.args.all tX=true/\yw p p.entry=true/\(p.handler≠-1->yw p p.handler=true)/\wB p=true:=by
 unfold sR at h
 split at h
 ·omega
 split at h
 ·omega
 split at h
 ·omega
 split at h
 ·omega
 split at h
 ·omega
 rename_i k j i c g
 refine⟨by omega,by simpa using j,by simpa using i,?_,?_,by simpa using g⟩
 ·simpa using fun e=>c (.inl e)
 ·intro d
  simpa using fun e=>c (.inr ⟨d,e⟩)
theorem rz {p:IProg}(h:vC p=0):sR p=0/\∀n,n<p.funcs.length->yi p n=true:=by
 unfold vC at h
 split at h
 ·rename_i c;exact absurd h c
 ·rename_i c
  refine⟨by omega,?_⟩
  split at h
  ·rename_i g
   intro n d;exact Oe.1 g n (Ol.2 d)
  ·omega
theorem jM {p:IProg}(h:vC p=0)(m:∀blocks∈p.funcs,∀b∈blocks,b.params.length<=65536):OkProg p:=by
 obtain⟨h0,l⟩:=rz h;obtain⟨_,u,k,_,y,j⟩:=se h0
 have q:∀i,0<=p.args.getD i 0/\p.args.getD i 0<=8:=by
  intro i;rw[Jj]
  cases w:p.args[i]? with
  |none=>simp
  |some x=>
   have:=Oe.1 k x (Ji w);unfold tX at this;simp only[Jm,decide_eq_true_eq] at this;exact this
 refine⟨fun blocks hb b hbb=>?_,fun i b bs hi=>?_,fun g=>?_,?_,fun i=>?_,u⟩
 ·obtain⟨n,g⟩:=Ny hb;have t:=(Jh.1 g).1;have hF:=l n t
  match blocks,hbb,g with
  |b0::bs,hbb,g=>
   obtain⟨_,d,hs,_⟩:=tF g hF;obtain⟨k1,k2⟩:=rV _ _ _ _ hs b hbb;exact⟨fun o ho=>ags (k1 o ho),acV k2,m _ hb b hbb⟩
 ·exact(tF hi (l i (Jh.1 hi).1)).1
 ·have:=y g;unfold yw at this;simp only[Jm,decide_eq_true_eq,beq_iff_eq] at this;obtain⟨a,b,c⟩:=this;exact⟨a,by omega,c⟩
 ·intro s hs;unfold wB at j;rw[Jm] at j;have:=j.1;unfold mh at this
  simpa using Oe.1 this s hs
 ·have:=q i;omega
theorem inRam_no (a:Nat):wo a=false↔a<16384∨24576<=a:=by
 rw[<-Bool.not_eq_true,qG];omega
theorem sX{m:Mach}{ov:Value}(h:MachAt w K m ov)(a:Nat)(g:a<65536)(hr:wo a=false):T 101 #[L K.pm,G a] w fun e w'=>e=.panicked [oE 2 a]/\w=w':=by
 clear h;rcases(inRam_no a).1 hr with hlt|hge
 ·have c:(a:Int)<16384:=Zo;clear hr hlt;go_enter Try.func101,Try.ntmps101;go_wp2_with (go_at_call 95;go_must (refine(wj 2 a _).mono ?_;rintro e w' ⟨rfl,rfl⟩))
  exact⟨rfl,rfl,rfl⟩
 ·have c:24576<=(a:Int):=Zo;have d:¬(a:Int)<16384:=Zo;clear hr hge;go_enter Try.func101,Try.ntmps101;go_wp2_with (go_at_call 95;go_must (refine(wj 2 a _).mono ?_;rintro e w' ⟨rfl,rfl⟩))
  exact⟨rfl,rfl,rfl⟩
theorem vX{m:Mach}{ov:Value}(h:MachAt w K m ov)(a:Nat)(g:a<65536)(hr:wo a=true):T 101 #[L K.pm,G a] w fun e w'=>e=.returned (.pointer (some ⟨K.rb,a-16384,none⟩))/\w=w':=by
 have c6:=h.c6;clear h;have c:=(qG a).1 hr;have l:¬(a:Int)<16384:=Zo;have k:¬24576<=(a:Int):=Zo;have j:0<=(a:Int)-16384:=Zo;have i:(a:Int)-16384<8192:=Zo;have d:((a:Int)-16384).toNat=a-16384:=Zo;have o:=Ja d;clear hr c d;go_enter Try.func101,Try.ntmps101;go_wp2;go_ret;exact⟨rfl,rfl⟩
theorem xY (n:Int):IntKind.u16.wrap n=n%65536:=by rw[IntKind.wrap_u16]
theorem mH (a:Nat)(h:a<65536):IntKind.i16.wrap (a:Int)=s16 a:=by
 unfold s16;show(if(true && decide ((a:Int)%2^16≥(2^15:Int))) then(a:Int)%2^16-2^16 else(a:Int)%2^16)=_;by_cases c:a<32768
 ·rw[if_neg Zt,if_pos c];omega
 ·rw[if_pos Zt,if_neg c];omega
theorem ar5 (a b:Nat):IntKind.u16.wrap ((a:Int)+b)=((yW 5 a b:Nat):Int):=by rw[xY];show _=(((a+b)%65536:Nat):Int);omega
theorem ar6 (a b:Nat)(hb:b<65536):IntKind.u16.wrap ((a:Int)-b)=((yW 6 a b:Nat):Int):=by rw[xY];show _=(((a+(65536-b))%65536:Nat):Int);omega
theorem ar7 (a b:Nat):IntKind.u16.wrap ((a:Int)*b)=((yW 7 a b:Nat):Int):=by
 rw[xY];show _=((a*b%65536:Nat):Int);rw[Ou,Int.natCast_mul];rfl
theorem ar8 (a b:Nat)(c:a<65536):IntKind.u16.wrap ((a:Int)/b)=((yW 8 a b:Nat):Int):=by
 rw[xY];show _=((a/b:Nat):Int);rw[<-Int.natCast_ediv];have:=Nat.div_le_self a b;generalize a/b=x at *;omega
theorem ar9 (a b:Nat)(c:a<65536)(hb:b<65536):bits .and .u16 (a:Int) b=((yW 9 a b:Nat):Int):=(bits_nat .u16 16 Zd wraps_u16 a b c hb).1
theorem ar10 (a b:Nat)(c:a<65536)(hb:b<65536):bits .or .u16 (a:Int) b=((yW 10 a b:Nat):Int):=(bits_nat .u16 16 Zd wraps_u16 a b c hb).2
theorem ar11 (a b:Nat)(c:a<65536)(hb:b<65536):bits .xor .u16 (a:Int) b=((yW 11 a b:Nat):Int):=by
 show IntKind.u16.wrap (((BitVec.ofInt 16 (a:Int))^^^(BitVec.ofInt 16 (b:Int))).toNat:Int)=((a^^^b:Nat):Int)
 have e1:(BitVec.ofInt 16 (a:Int)).toNat=a:=by rw[BitVec.ofInt_natCast,BitVec.toNat_ofNat];exact Nat.mod_eq_of_lt c
 have e2:(BitVec.ofInt 16 (b:Int)).toNat=b:=by rw[BitVec.ofInt_natCast,BitVec.toNat_ofNat];exact Nat.mod_eq_of_lt hb
 rw[BitVec.toNat_xor,e1,e2,xY];have:a^^^b<65536:=Nat.xor_lt_two_pow (n:=16) c hb;generalize a^^^b=x at *;omega
theorem ar12 (a b:Nat):IntKind.u16.wrap ((a:Int)*2^(b%16))=((yW 12 a b:Nat):Int):=by
 rw[xY];show _=((a*2^(b%16)%65536:Nat):Int);rw[Ou,Int.natCast_mul,Int.natCast_pow];rfl
theorem ar13 (a b:Nat):(a:Int)/2^(b%16)=((yW 13 a b:Nat):Int):=by
 show _=((a/2^(b%16):Nat):Int);rw[Int.natCast_ediv,Int.natCast_pow];rfl
theorem ar14 (a b:Nat)(c:a<65536):IntKind.u16.wrap (IntKind.i16.wrap (a:Int)/2^(b%16))=((yW 14 a b:Nat):Int):=by
 rw[mH a c,xY];show _=((((s16 a/2^(b%16))%65536).toNat:Nat):Int);omega
theorem ar15 (a b:Nat):(iw ((a:Int)==(b:Int)):Nat)=yW 15 a b:=by
 show _=iw (decide (a=b));congr 1;rw[Bool.eq_iff_iff,beq_iff_eq,decide_eq_true_eq];omega
theorem ar17 (a b:Nat)(c:a<65536)(hb:b<65536):(iw (decide (IntKind.i16.wrap (a:Int)<IntKind.i16.wrap (b:Int))):Nat)=yW 17 a b:=by
 rw[mH a c,mH b hb];rfl
theorem jz (c:Int)(a b:Nat)(g:a<65536)(hb:b<65536):yW c a b<65536:=by
 have k:∀x,a/x<65536:=fun x=>Nat.lt_of_le_of_lt (Nat.div_le_self _ _) g
 have hm:∀x,x%65536<65536:=fun x=>Qj _ Zd
 have d:∀b,iw b<65536:=fun b=>by cases b<;>decide
 unfold yW
 by_cases c5:c=5;· rw[if_pos c5];exact hm _
 rw[if_neg c5];by_cases c6:c=6;· rw[if_pos c6];exact hm _
 rw[if_neg c6];by_cases c7:c=7;· rw[if_pos c7];exact hm _
 rw[if_neg c7];by_cases c8:c=8;· rw[if_pos c8];exact k _
 rw[if_neg c8];by_cases c9:c=9;· rw[if_pos c9];exact Nat.lt_of_le_of_lt Nat.and_le_left g
 rw[if_neg c9];by_cases c10:c=10;· rw[if_pos c10];exact Nat.or_lt_two_pow (n:=16) g hb
 rw[if_neg c10];by_cases c11:c=11;· rw[if_pos c11];exact Nat.xor_lt_two_pow (n:=16) g hb
 rw[if_neg c11];by_cases c12:c=12;· rw[if_pos c12];exact hm _
 rw[if_neg c12];by_cases c13:c=13;· rw[if_pos c13];exact k _
 rw[if_neg c13];by_cases j:c=14;· rw[if_pos j];omega
 rw[if_neg j];by_cases i:c=15;· rw[if_pos i];exact d _
 rw[if_neg i];by_cases h:c=16;· rw[if_pos h];exact d _
 rw[if_neg h];exact d _
theorem qD (b:Bool)(w:World):T 106 #[.bool b] w fun e w'=>e=.returned (G (iw b:Nat))/\w=w':=by
 cases b<;>go_enter Try.func106,Try.ntmps106<;>go_wp2<;>go_ret<;>exact⟨rfl,rfl⟩
theorem arith_5 (a b:Nat)(c:a<65536)(hb:b<65536)(w:World):T 105 #[I 5,G a,G b] w fun e w'=>e=.returned (G (yW 5 a b:Nat))/\w=w':=by
 go_enter Try.func105,Try.ntmps105;go_wp2
 all_goals go_ret
 all_goals refine⟨zh ?_,rfl⟩
 all_goals exact ar5 a b
theorem arith_6 (a b:Nat)(c:a<65536)(hb:b<65536)(w:World):T 105 #[I 6,G a,G b] w fun e w'=>e=.returned (G (yW 6 a b:Nat))/\w=w':=by
 go_enter Try.func105,Try.ntmps105;go_wp2
 all_goals go_ret
 all_goals refine⟨zh ?_,rfl⟩
 all_goals exact ar6 a b hb
theorem arith_7 (a b:Nat)(c:a<65536)(hb:b<65536)(w:World):T 105 #[I 7,G a,G b] w fun e w'=>e=.returned (G (yW 7 a b:Nat))/\w=w':=by
 go_enter Try.func105,Try.ntmps105;go_wp2
 all_goals go_ret
 all_goals refine⟨zh ?_,rfl⟩
 all_goals exact ar7 a b
theorem arith_8 (a b:Nat)(c:a<65536)(hb:b<65536)(d:b≠0)(w:World):T 105 #[I 8,G a,G b] w fun e w'=>e=.returned (G (yW 8 a b:Nat))/\w=w':=by
 have h:((b:Int)==0)=false:=Ze;have g:¬(b:Int)=0:=Zo;clear d;go_enter Try.func105,Try.ntmps105;go_wp2
 all_goals go_ret
 all_goals refine⟨zh ?_,rfl⟩
 all_goals exact ar8 a b c
theorem arith_80 (a:Nat)(w:World):T 105 #[I 8,G a,G ((0:Nat):Int)] w fun e w'=>e=.panicked [oE 4 0]/\w=w':=by
 go_enter Try.func105,Try.ntmps105;go_wp2_with (go_at_call 95;go_must (refine(wj 4 0 _).mono ?_;rintro e w' ⟨rfl,rfl⟩))
 exact⟨rfl,rfl,rfl⟩
theorem arith_9 (a b:Nat)(c:a<65536)(hb:b<65536)(w:World):T 105 #[I 9,G a,G b] w fun e w'=>e=.returned (G (yW 9 a b:Nat))/\w=w':=by
 go_enter Try.func105,Try.ntmps105;go_wp2
 all_goals go_ret
 all_goals refine⟨zh ?_,rfl⟩
 all_goals exact ar9 a b c hb
theorem arith_10 (a b:Nat)(c:a<65536)(hb:b<65536)(w:World):T 105 #[I 10,G a,G b] w fun e w'=>e=.returned (G (yW 10 a b:Nat))/\w=w':=by
 go_enter Try.func105,Try.ntmps105;go_wp2
 all_goals go_ret
 all_goals refine⟨zh ?_,rfl⟩
 all_goals exact ar10 a b c hb
theorem arith_11 (a b:Nat)(c:a<65536)(hb:b<65536)(w:World):T 105 #[I 11,G a,G b] w fun e w'=>e=.returned (G (yW 11 a b:Nat))/\w=w':=by
 go_enter Try.func105,Try.ntmps105;go_wp2
 all_goals go_ret
 all_goals refine⟨zh ?_,rfl⟩
 all_goals exact ar11 a b c hb
theorem arith_12 (a b:Nat)(c:a<65536)(hb:b<65536)(w:World):T 105 #[I 12,G a,G b] w fun e w'=>e=.returned (G (yW 12 a b:Nat))/\w=w':=by
 go_enter Try.func105,Try.ntmps105;go_wp2
 all_goals go_ret
 all_goals refine⟨zh ?_,rfl⟩
 all_goals exact ar12 a b
theorem arith_13 (a b:Nat)(c:a<65536)(hb:b<65536)(w:World):T 105 #[I 13,G a,G b] w fun e w'=>e=.returned (G (yW 13 a b:Nat))/\w=w':=by
 go_enter Try.func105,Try.ntmps105;go_wp2
 all_goals go_ret
 all_goals refine⟨zh ?_,rfl⟩
 all_goals exact ar13 a b
theorem arith_14 (a b:Nat)(c:a<65536)(hb:b<65536)(w:World):T 105 #[I 14,G a,G b] w fun e w'=>e=.returned (G (yW 14 a b:Nat))/\w=w':=by
 go_enter Try.func105,Try.ntmps105;go_wp2
 all_goals go_ret
 all_goals refine⟨zh ?_,rfl⟩
 all_goals exact ar14 a b c
theorem arith_15 (a b:Nat)(c:a<65536)(hb:b<65536)(w:World):T 105 #[I 15,G a,G b] w fun e w'=>e=.returned (G (yW 15 a b:Nat))/\w=w':=by
 go_enter Try.func105,Try.ntmps105;go_wp2_with (go_at_call 106;go_must (refine(qD _ _).mono ?_;rintro e w' ⟨rfl,rfl⟩))
 all_goals go_ret
 all_goals refine⟨zh ?_,rfl⟩
 all_goals exact congrArg _ (ar15 a b)
theorem arith_16 (a b:Nat)(c:a<65536)(hb:b<65536)(w:World):T 105 #[I 16,G a,G b] w fun e w'=>e=.returned (G (yW 16 a b:Nat))/\w=w':=by
 go_enter Try.func105,Try.ntmps105;go_wp2_with (go_at_call 106;go_must (refine(qD _ _).mono ?_;rintro e w' ⟨rfl,rfl⟩))
 all_goals go_ret
 all_goals refine⟨zh ?_,rfl⟩
 all_goals exact rfl
theorem arith_17 (a b:Nat)(c:a<65536)(hb:b<65536)(w:World):T 105 #[I 17,G a,G b] w fun e w'=>e=.returned (G (yW 17 a b:Nat))/\w=w':=by
 go_enter Try.func105,Try.ntmps105;go_wp2_with (go_at_call 106;go_must (refine(qD _ _).mono ?_;rintro e w' ⟨rfl,rfl⟩))
 all_goals go_ret
 all_goals refine⟨zh ?_,rfl⟩
 all_goals exact congrArg _ (ar17 a b c hb)
def rq (c:Int)(a b:Nat)(w:World)(e:Ending)(w':World):Prop:=e=(if c=8/\b=0 then .panicked [oE 4 0] else .returned (G (yW c a b:Nat)))/\w=w'
theorem jD (c:Int)(i:5<=c/\c<=17)(a b:Nat)(d:a<65536)(hb:b<65536)(w:World):T 105 #[I c,G a,G b] w (rq c a b w):=by
 unfold rq;have h:c=5∨c=6∨c=7∨c=8∨c=9∨c=10∨c=11∨c=12∨c=13∨c=14∨c=15∨c=16∨c=17:=Zo;rcases h with rfl|rfl|rfl|rfl|rfl|rfl|rfl|rfl|rfl|rfl|rfl|rfl|rfl
 ·rw[if_neg Zo];exact arith_5 a b d hb w
 ·rw[if_neg Zo];exact arith_6 a b d hb w
 ·rw[if_neg Zo];exact arith_7 a b d hb w
 ·by_cases g:b=0
  ·subst g;rw[if_pos ⟨rfl,rfl⟩];exact arith_80 a w
  ·rw[if_neg (fun h=>g h.2)];exact arith_8 a b d hb g w
 ·rw[if_neg Zo];exact arith_9 a b d hb w
 ·rw[if_neg Zo];exact arith_10 a b d hb w
 ·rw[if_neg Zo];exact arith_11 a b d hb w
 ·rw[if_neg Zo];exact arith_12 a b d hb w
 ·rw[if_neg Zo];exact arith_13 a b d hb w
 ·rw[if_neg Zo];exact arith_14 a b d hb w
 ·rw[if_neg Zo];exact arith_15 a b d hb w
 ·rw[if_neg Zo];exact arith_16 a b d hb w
 ·rw[if_neg Zo];exact arith_17 a b d hb w
theorem qk{m1 m2 n:Nat}{pv:List Value}{a2 q:Value}(h:ChkAt w C m1 m2 pv a2 q n d)(hn:n<9000000000000000000)(v i k:Int)(hv:I64 v)(hi:I64 i)(hk:I64 k)(g:rB d v i k=some d'):
 T 76 #[L C,I v,I i,I k] w fun e w'=>e=.returned (.bool true)/\ChkAt w' C m1 m2 pv a2 q (n+1) d'/\Kept m1 m2 w w':=by
 obtain⟨hb,hl,o,a0,m,hd⟩:=h
 obtain⟨p0,p1,p2,p3,p4,p5,rfl⟩:∃a b c d e f,pv=[a,b,c,d,e,f]:=by
  match pv,hl with
  | [a,b,c,d,e,f],_=>exact⟨a,b,c,d,e,f,rfl⟩
 have a8:=o.lookOk hv;have b6:U w C 7 (.map (some m1)):=zA hb rfl;have b5:U w C 8 (.map (some m2)):=zA hb rfl;have j:¬((d.1 v).isSome∨v<0∨65535<v):=fun hc=>by rw[rB,if_pos hc] at g;cases g
 have b0:d'=(lS d.1 v i,lS d.2 v k):=by rw[rB,if_neg j] at g;cases g;rfl
 have h0:(d.1 v).isSome=false:=by cases l:(d.1 v).isSome with|false=>rfl|true=>exact absurd (.inl l) j
 have t:d.1 v=none:=by cases l:d.1 v with|none=>rfl|some y=>rw[l] at h0;cases h0
 have a4:d.2 v=none:=by cases l:d.2 v with|none=>rfl|some y=>have:=hd v;rw[l,t] at this;cases this
 have h1:decide (v<0)=false:=decide_eq_false Zo;have h2:decide (65535<v)=false:=decide_eq_false Zo;rw[h0] at a8;obtain⟨s1,w1,w2,e1,g1,e2,k1,g2⟩:=(wA.same (w':=w.drew) o rfl).entry hn hv hi t;obtain⟨es,ck,u⟩:=a0.blk;have a3:wA w2 m2 n d.2:=(wA.same (w':=w.drew) a0 rfl).same (g2.block m2 (lt_of_block u) (fun e=>m (by cases e;rfl)));obtain⟨s2,w3,w4,e3,g3,e4,k2,g4⟩:=a3.entry hn hv hk a4;subst b0;clear g j;simp only[goInt] at e1 e2 e3 e4;have H:=Ja (Jb g2 g4);go_enter Try.func76,Try.ntmps76;go_wp2
 go_region
 go_wp2;go_ret;obtain⟨g2,g4⟩:=H.out;obtain⟨b4,b8,a6⟩:=o.blk;have b2:C≠m1:=fun e=>by rw[e,a6] at hb;cases hb
 have b1:C≠m2:=fun e=>by rw[e,u] at hb;cases hb
 have a5:w.heap.size<=w2.heap.size:=g2.size;have a1:∀b,b≠m1->b≠m2->b<w.heap.size->w4.heap[b]? =w.heap[b]?:=fun b x1 x2 hbs=>(g4.block b Zo (fun e=>x2 (by cases e;rfl))).trans (g2.block b hbs (fun e=>x1 (by cases e;rfl)))
 obtain⟨b3,b7,a9⟩:=k1.blk;refine⟨rfl,⟨(a1 C b2 b1 (lt_of_block hb)).trans hb,rfl,k1.same (g4.block m1 (lt_of_block a9) (fun e=>m (by cases e;rfl))),k2,m,fun x=>?_⟩,⟨g4.os.trans g2.os,g4.tape.trans g2.tape,g4.output.trans g2.output,Jn a5 g4.size,fun b hbs x1 x2=>a1 b x1 x2 hbs⟩⟩
 show(lS d.1 v i x).isSome=(lS d.2 v k x).isSome
 unfold lS
 split
 ·rfl
 ·exact hd x
end Go.Proofs.Ytoahcpkibpomcaa
set_option maxRecDepth 8000
namespace Go.Proofs.Ytoahcpkibpomcaa
open Go.RowKit
variable {P:Program}{W0 w w' w0 w1:World}{B0 C bm bp j k m nm x:Nat}{i:Int}{blocks:List IBlk}{d d':wO}{K:MK}{g preds:List (List Nat)}{c:List Nat}{o:Obj}{xs:List Int}
theorem mD{P:List (List Nat)}{n s:Nat}(h:∀r∈P,r.length<=m):∀r∈xS n P s,r.length<=m+1:=by
 intro r hr;rcases Qe hr with hr|rfl
 ·have:=h r hr;omega
 ·simp only[Jk,Nq,Ow]
  by_cases hs:s<P.length
  ·have:=h (P.getD s []) (by rw[Jj,Jd hs];exact Uf hs);omega
  ·rw[Jj,Of Zo];simp
theorem oB (n:Nat):∀(l:List Nat) (P:List (List Nat)) (m:Nat),(∀r∈P,r.length<=m)->∀r∈l.foldl (xS n) P,r.length<=m+l.length
 | [],_,_,h=>h
 |s::l,P,m,h=>fun r hr=>by
  have:=oB n l _ (m+1) (mD h) r hr;simp only[Nq];omega
theorem rj (g:List (List Nat))(D:Nat)(c:∀row∈g,row.length<=D):∀(l:List Nat) (P:List (List Nat)) (m:Nat),(∀r∈P,r.length<=m)->∀r∈l.foldl (yh g) P,r.length<=m+l.length*D
 | [],_,_,h=>by simpa using h
 |u::l,P,m,h=>fun r hr=>by
  have hd:(succ g u).length<=D:=by
   unfold succ;rw[Jj]
   cases e:g[u]? with
   |none=>simp
   |some row=>exact c row (Ji e)
  have:=rj g D c l _ (m+D) (fun r hr=>by have:=oB u (succ g u) P m h r hr;omega) r hr;simp only[Nq,Nat.add_mul,Nat.one_mul];omega
theorem pred_len{D:Nat}(d:∀row∈g,row.length<=D)(c row:List Nat)(k j n N:Nat)(hk:k<=N){s:Nat}{pr:List Nat}
 (h:((row.take j).foldl (xS n) ((c.take k).foldl (yh g) (List.replicate N [])))[s]? =some pr):pr.length<=k*D+j:=by
 have o:=oB n (row.take j) _ (0+(c.take k).length*D) (rj g D d (c.take k) (List.replicate N []) 0 (by intro r hr;rw[(List.mem_replicate.1 hr).2];simp)) pr (Ji h);have i:(c.take k).length<=k:=List.length_take_le _ _;have m:(row.take j).length<=j:=List.length_take_le _ _;have l:=Qw D i;omega
structure ViewMem (w0 w:World) (B0 B bv bm bp n:Nat) (ov:Value) (ord:List Nat) (nm:Nat) (f:Int->Int) (preds:List (List Nat)):Prop where
 hv:w.heap[bv]? =some (.cells #[ov,.map (some bm),.slice (some ⟨bp,0,none⟩) n n] 140 (0,0))
 ho:w.ownsRow B0 3 1 ov ord.length (ord.map zj)
 ho2:∀g,ov.ownBlock=some g->g<B
 hm:ud w bm nm f
 hp:OwnRows zj 3 25 w B bp preds
 hl:preds.length=n
 hb:Below B0 w0 w
 lt:B0<=bv/\B0<=bm/\B0<=bp/\bv<B/\bm<B/\bp<B/\B<=w.heap.size
def oN (w:World)(C bv:Nat)(ord:List Nat)(f:Int->Int)(preds:List (List Nat)):Prop:=
 ∃ov bm pv nm,U w bv 0 ov/\U w bv 1 (.map (some bm))/\U w bv 2 pv/\xp zj w C ov ord/\ud w bm nm f/\bm<C/\aaB zj w C pv preds/\bv<C
theorem oN.below{bv:Nat}{f:Int->Int}(h:oN w C bv c f preds)(hb:Below C w w'):oN w' C bv c f preds:=by
 obtain⟨ov,bm,pv,nm,c0,c1,c2,ho,hm,d,hp,hl⟩:=h;exact⟨ov,bm,pv,nm,(hb.cell (p:=⟨bv,0,none⟩) hl).trans c0,(hb.cell (p:=⟨bv,1,none⟩) hl).trans c1,(hb.cell (p:=⟨bv,2,none⟩) hl).trans c2,ho.below hb,hm.same (hb.block bm d),d,hp.below hb,hl⟩
def RetView (w:World)(ord:List Nat)(f:Int->Int)(preds:List (List Nat))(e:Ending)(w':World):Prop:=
 ∃bv,e=.returned (L bv)/\w.heap.size<=bv/\oN w' w'.heap.size bv ord f preds/\O w w'
theorem ViewMem.read{B bv n:Nat}{ov:Value}{f:Int->Int}(h:ViewMem w0 w B0 B bv bm bp n ov c nm f preds):oN w w.heap.size bv c f preds:=by
 refine⟨ov,bm,N bp n n,nm,zA h.hv Zs,zA h.hv Zs,zA h.hv Zs,rY h.ho (Je _),h.hm,h.hm.lt,?_,lt_of_block h.hv⟩;have:=h.hp.asRows (Je w.heap.size)
 rwa [h.hl] at this
theorem Try.info_ints:(Try.prog.info? 25).map (fun i=>(i.zero,i.size,i.bytes))=some (some (.slice none 0 0),1,24):=by kernel_rfl
theorem ViewMem.store{B bv n:Nat}{ov:Value}{i:List Nat}{f f':Int->Int}(h:ViewMem w0 w B0 B bv bm bp n ov i nm f preds)
 (hg:w.grownBy w' (some bm)) (hm:ud w' bm j f'):ViewMem w0 w' B0 B bv bm bp n ov i j f' preds:=by
 obtain⟨hv,ho,ho2,d,hp,hl,hb,o⟩:=h;obtain⟨c,m⟩:=hp.blk;refine⟨zL hg hv (by simpa using d.ne hv),ho.kept hg ?_,ho2,hm,hp.kept hg (by simpa using d.ne m) (by intro k hk;cases hk;omega),hl,hb.grown hg (by have:=lt_of_block hv;have:=d.lt;omega) (by intro k hk;cases hk;omega),by have:=hg.size;omega⟩;right;intro e;rcases ho.2 with⟨rfl,_⟩|⟨g,t,cur,rfl,q,l,_⟩
 ·simp[Value.ownBlock] at e
 ·simp only[Value.ownBlock,Option.some.injEq] at e;subst e;exact d.ne l rfl
theorem ViewMem.push{w2:World}{B bv n s g t H:Nat}{ov:Value}{u:List Nat}{f:Int->Int}{d:List (List Nat)}{row:List Nat}{a:Option Addr}(h:ViewMem w0 w B0 B bv bm bp n ov u nm f d)
 (hs:d[s]? =some row) (hc:U w bp s (.slice a row.length m)) (hg:(w.alloc o).grownBy w2 (Value.slice a row.length m).ownBlock)
 (a2:w2.ownsRow B 3 1 (N g (row.length+1) t) (row.length+1) (row.map zj++ [zj x]))
 (a4:(Value.slice a row.length m).ownBlock=some g∨g=H) (hH:w.heap.size<=H):
 ViewMem w0 (w2.setCell ⟨bp,s,none⟩ (N g (row.length+1) t)) B0 B bv bm bp n ov u nm f (d.set s (row++ [x])):=by
 obtain⟨hv,ho,ho2,j,hp,hl,hb,a8⟩:=h;obtain⟨c,l⟩:=hp.blk;obtain⟨a',a5,a0,y,_⟩:=hp.get hs;rw[hc] at a0;cases a0;have a1:=zC y hv (.inl Zo);have i:∀k,(Value.slice a row.length m).ownBlock=some k->B<=k:=fun k hk=>(y.lt k hk).1
 have a3:bv≠bp:=by rintro rfl;rw[hv] at l;simp at l
 have q:=hp.put Zd hs hc hg (row':=row++ [x]) (by simpa using a2) a4 hH;simp only[Jk,Nq,Ow,Ng] at q;refine⟨zR (zL hg (zB hv) a1) (by simpa using a3),?_,ho2,?_,q,by simp[hl],?_,by have:=hg.size;simp[World.setCell] at this ⊢;omega⟩
 ·refine ownsRow_setCell_other ((ho.alloc o).kept hg ?_) ?_ _
  ·cases hk:ov.ownBlock with
   |none=>exact .inl rfl
   |some k=>
    right;intro e;have:=ho2 k hk;have:=i k e.symm;omega
  ·exact zC (b:=bp) ho l (.inr Zd)
 ·refine j.same ?_;rw[Below.heap_setCell _ _ _ _ (by simpa using j.ne l),hg.block bm (by have:=j.lt;simp;omega) (fun e=>by have:=i bm e.symm;omega),Below.heap_alloc _ _ _ j.lt]
 ·have a6:=lt_of_block hv;exact((hb.alloc Zo o).grown hg Zt (fun k hk=>by have:=i k hk;omega)).setCell (show B0<=bp by omega) _
theorem uj{row:Option Nat}(h:w.drew.grownBy w' row):w.grownBy w' row:=⟨h.os,h.tape,h.output,h.size,h.block⟩
theorem uG{B:Nat}(h:Below B w w'):Below B w w'.drew:=h.drew
theorem lq{n:Nat}{v:Value}(c:U w' n 0 v)(h:Below (n+1) W0 w')(hl:n<W0.heap.size)(o:Obj):U (w'.alloc o) n 0 v/\Below (n+1) W0 (w'.alloc o):=by
 have:=h.size;exact⟨by rw[Oo (w:=w') (Below.heap_alloc _ _ _ Zt)];exact c,h.alloc Zo o⟩
theorem oY{n:Nat}{v:Value}(c:U w' n 0 v)(h:Below (n+1) W0 w')(hl:n<W0.heap.size)(hb:O w' w1):U w1 n 0 v/\Below (n+1) W0 w1:=by
 have:=h.size;exact⟨(hb.cell (p:=⟨n,0,none⟩) (show n<_ by omega)).trans c,h.trans (hb.mono Zo)⟩
theorem ww{n:Nat}(c:n=w.heap.size)(d:Hid (w.alloc o=W0))(h:Below (n+1) W0 w'):Below n w w':=by
 have e:=d.out;subst e;subst c;exact((Below.refl _ _).alloc (Je _) _).trans (h.mono Zo)
theorem o7{B:Nat}(hB:B<=w.heap.size)(c:Hid (w.alloc o=W0))(h:Below (w.heap.size+1) W0 w'):B<=w'.heap.size:=by
 have:=(ww rfl c h).size;omega
theorem nP{B:Nat}{v:Value}(d:aaB zj w B v g)(hB:B<=w.heap.size)(c:Hid (w.alloc o=W0))(h:Below (w.heap.size+1) W0 w'):aaB zj w' B v g:=
 d.below ((ww rfl c h).mono hB)
theorem aJ{X wy:World}{F F':List Nat}{ao:Option Addr}{co bv n:Nat}(j:F.length=F'.length)(d:w1.ownsRow X.heap.size 3 1 (.slice ao F.length co) F.length (F.map zj))(lg:w.heap.size<W0.heap.size)
 (k:W0.heap.size<=X.heap.size) (hb:Below (w.heap.size+1) W0 wy) (hg:w1.grownBy wy none) (h:wy.heap.size=bv)
 (hm:wy.heap[bm]? =some (.map #[] 0)) (hp:Q wy bp (madeCells #[.slice none 0 0] n) 25) (lt:w.heap.size<bm/\w.heap.size<bp):
 ∃bv' bm' bp' ov,Value.pointer (some ⟨bv,0,none⟩)=L bv'/\Hid (ViewMem W0 (wy.alloc (A #[.slice ao F'.length co,.map (some bm),N bp n n] 140)) (w.heap.size+1) (wy.alloc (A #[.slice ao F'.length co,.map (some bm),N bp n n] 140)).heap.size bv' bm' bp' n ov F 0 (fun _=>0) (List.replicate n [])):=by
 rw[<-j];have c:=hb.size;have i:=hg.size;have ho:=(d.kept hg (by cases ao<;>simp[Value.ownBlock])).alloc (A #[.slice ao F.length co,.map (some bm),N bp n n] 140);have m:=lt_of_block hm;have l:=lt_of_block hp;refine⟨bv,bm,bp,.slice ao F.length co,rfl,zI h,vY ho Zo,fun g hg=>(ho.lt g hg).2,?_,OwnRows.made _ (by rw[zB hp,yA]),by simp,hb.alloc Zo _,?_⟩
 ·exact⟨_,⟨#[],0,zB hm,(let⟨es,clock,c,i,_⟩:=(World.ownsMap_made (H:=Unit) w Try.prog 3 (plainElem Try.prog 3));by
   rw[zI rfl] at c;cases c;exact i),Je _,rfl⟩,fun _ _=>rfl⟩
 ·simp only[World.size_alloc];omega
theorem view_any (w:World)(sv:Value)(g:List (List Nat))(B:Nat)(hB:B<=w.heap.size)(h:aaB zj w B sv g)(hv:zw g)(hn:g.length<=2000000)(hr:∀row∈g,row.length<=2000000)
 (c:List Nat) (hF:tV g c):
 T 79 #[.agg #[sv]] w (RetView w c (atF c c.length) (un g c)):=by
 obtain⟨a,u,rfl,g6⟩:=h.form;obtain⟨ii,e8,d0,c9,c8⟩:=info_parts Try.info_int;have d3:O w (w.alloc (A #[.slice a g.length u] 75)):=(Below.refl _ _).alloc (Je _) _;have e3:=@run_makeMap Try.prog;have e4:=run_make_row' (P:=Try.prog) 73 25 (.slice none 0 0) 24 Try.underlying73 Try.info_ints rfl .i64 .i64 g.length Zo Zo;have HV:=Ja hv;have HR:=Ja hr;have HF:=Ja hF;have cg:U (w.alloc (A #[.slice a g.length u] 75)) w.heap.size 0 (.slice a g.length u):=cell_of_one (zI rfl);clear hv hr hF;go_enter Try.func79,Try.ntmps79;go_upto_region 1 with fail;generalize c0:w.alloc (A #[.slice a g.length u] 75)=W0 at cg ⊢;have x:=Ja c0;have g8:=Below.refl (w.heap.size+1) W0;have lg:w.heap.size<W0.heap.size:=Jw W0 _ cg;clear c0 d3
 go_cut [3] (fun s3 wx=>∃bv bm bp ov,s3=L bv/\Hid (ViewMem W0 wx (w.heap.size+1) wx.heap.size bv bm bp g.length ov c 0 (fun _=>0) (List.replicate g.length [])))
 case first=>
  go_region_held3 (fun w'=>U w' w.heap.size 0 (.slice a g.length u)/\Below (w.heap.size+1) W0 w')
   (first
     |(go_split_ands;refine⟨?_,?_⟩<;>assumption)
     |(go_split_ands;refine⟨?_,uG ?_⟩<;>assumption)
     |(go_split_ands;exact lq ‹_› ‹_› Zz _)
     |(go_split_ands;exact oY ‹_› ‹_› Zz Zz))
   ((go_at_call 21;refine(tp _ _ g B (o7 hB x (by repeat' (first|assumption|(with_reducible refine Below.drew ?_)|(with_reducible refine Below.alloc ?_ ?_ _)|omega|(simp<;>omega)))) (nP h hB x (by repeat' (first|assumption|(with_reducible refine Below.drew ?_)|(with_reducible refine Below.alloc ?_ ?_ _)|omega|(simp<;>omega)))) HV.out hn HR.out c HF.out).mono ?_;rintro e w1 ⟨ov,rfl,b6,a5⟩;obtain⟨ao,co,rfl⟩:=zG b6))
  all_goals
   go_wp2_with fail;go_meet;have e0:=a5.size;simp at e0;refine aJ (w:=w) (w1:=w1) (F:=c) rfl b6 lg ?_ ?_ ?_ ?_ ?_ ?_ ?_
   ·simp<;>omega
   ·repeat' (first|assumption|(with_reducible refine Below.drew ?_)|(with_reducible refine Below.alloc ?_ ?_ _)|(refine Below.trans ?_ (Below.mono a5 ?_))|omega|(simp<;>omega))
   ·repeat' (first|(with_reducible exact oI _ _)|(with_reducible refine World.grownBy.trans ?_ (Uo _ _ _)))
   ·simp
   ·repeat' (first|(refine zI ?_;first|rfl|(simp;done))|(refine zB ?_)|(refine zH a5 ?_ ?_)|omega|(simp<;>omega))
   ·repeat' (first|(refine zI ?_;first|rfl|(simp;done))|(refine zB ?_)|(refine zH a5 ?_ ?_)|omega|(simp<;>omega))
   ·constructor<;>first|omega|(simp<;>omega)
 case rest=>
  obtain⟨bv,bm,bp,ov,rfl,a6⟩:=hcut;obtain⟨BB,c1⟩:∃BB,BB=wc.heap.size:=⟨_,rfl⟩
  rw[<-c1] at a6;clear c1 e3 e4;have ho:=a6.out.ho;obtain⟨ao,co,rfl⟩:=zG ho;have b9:=a6.out.hv;have f4:=K0 b9;clear ho b9;have e1:=(HF.out.nodes HV.out).1;go_wp2_with fail
  go_loopw [22] (fun i wr=>∃k:Nat,k<=c.length/\i=I k/\Hid (ViewMem W0 wr (w.heap.size+1) BB bv bm bp g.length (.slice ao c.length co) c k (atF c k) ((c.take k).foldl (yh g) (List.replicate g.length [])))) (fun i _=>c.length-(intOf i).toNat)
  case atStart=>exact⟨0,Jt _,rfl,by rw[show atF c 0=fun _=>0 from rfl];simpa using a6⟩
  case round=>
   obtain⟨k,hk,rfl,HK⟩:=hrel
   by_cases e5:k<c.length
   ·obtain⟨n,a4⟩:∃n,c[k]? =some n:=⟨_,Jd e5⟩
    have e2:n<g.length:=(HF.out.nodes HV.out).2 n (Ji a4);have g2:(n:Int)<g.length:=Zo;have g5:(k:Int)<c.length:=Zo;have d7:=rY HK.out.ho (Je _);obtain⟨ao',h9,f1,_,hx⟩:=d7;cases f1;obtain⟨bo,oo,rfl,_,c4⟩:=hx k n a4;simp only[zj] at c4;have f3:=K1 HK.out.hv;obtain⟨row,q⟩:∃row,g[n]? =some row:=⟨_,Jd e2⟩
    have c7:=Ja a4;clear hx a4 f4;obtain⟨b,o,a2,h4,rfl,hb,hc,f9,hx⟩:=h.row q;have HX:=Ja hx;have HC:=Ja hc;clear hx hc;go_wp2_with (at_mapUpdate;go_must (refine rW rfl (.tmp 30) (.tmp 31) (.tmp 32) rfl HK.out.hm Zo (n:Int) (k:Int) rfl rfl rfl Zo Zo ?_;intro w2 b7 b8;have m:=HK.out.store b8 b7;have d2:=(m.hb.cell (p:=⟨w.heap.size,0,none⟩) (show w.heap.size<w.heap.size+1 by omega)).trans cg;have hc:=((ww rfl x m.hb).cell (p:=⟨b,o+n,none⟩) (show b<w.heap.size by omega)).trans HC.out;have d4:=Ja m;clear m b7 b8))
    have hrl:=HR.out row (Ji q);have b0:=Ja q;clear HK c4 f3 q
    go_loopw [39] (fun i wx=>∃j:Nat,j<=row.length/\i=I j/\Hid (ViewMem W0 wx (w.heap.size+1) BB bv bm bp g.length (.slice (some ⟨bo,oo,none⟩) c.length co) c (k+1) (fun y=>if y=(n:Int) then(k:Int) else atF c k y) ((row.take j).foldl (xS n) ((c.take k).foldl (yh g) (List.replicate g.length []))))) (fun i _=>row.length-(intOf i).toNat)
    case atStart=>exact⟨0,Jt _,rfl,by simpa using d4⟩
    case round=>
     obtain⟨j,hj,rfl,d⟩:=hrel
     by_cases d1:j<row.length
     ·obtain⟨s,a0⟩:∃s,row[j]? =some s:=⟨_,Jd d1⟩
      have d8:s<g.length:=HV.out.2 row (Ji b0.out) s (Ji a0);obtain⟨b2,o2,rfl,h6,c3⟩:=HX.out j s a0;have cs:=((ww rfl x d.out.hb).cell (p:=⟨b2,o2+j,none⟩) (show b2<w.heap.size by omega)).trans c3;simp only[zj] at cs;have b5:=d.out.hl;obtain⟨pr,a1⟩:∃pr,((row.take j).foldl (xS n) ((c.take k).foldl (yh g) (List.replicate g.length [])))[s]? =some pr:=⟨_,Jd (by rw[b5];exact d8)⟩
      obtain⟨ap,a9,cp,a3,fp⟩:=d.out.hp.get a1;have c2:=K2 d.out.hv;have h5:=d.out.lt.2.2.2.2.2.2;have g1:pr.length<=4000004000000:=by have:=pred_len HR.out c row k j n _ (Jn hk e1) a1;omega
      have g0:(s:Int)<g.length:=Zo;have g4:(j:Int)<row.length:=Zo;have lb:=d.out.lt;have d6:=lt_of_block d.out.hv;have b4:=d.out.hp.bplt;have d5:=zC a3 d.out.hv (.inl Zo);obtain⟨cc,a8⟩:=d.out.hp.blk;have b3:=zC a3 a8 (.inr Zd);have c5:=Ja a1;have f7:=Ja a0;have i1:=Ja a8;have f8:=Ja a3;clear a1 a0 a8 a3 c3 b5 d2 hc;have f2:∀o,Y (wr.alloc o) bp s:=fun o=>(Qm (w:=wr) (Below.heap_alloc _ _ _ b4)).trans fp
      have f5:∀o,U (wr.alloc o) bp s (.slice ap pr.length a9):=fun o=>(Oo (w:=wr) (Below.heap_alloc _ _ _ b4)).trans cp
      have f6:∀o,U (wr.alloc o) bv 2 (N bp g.length g.length):=fun o=>(Oo (w:=wr) (Below.heap_alloc _ _ _ d6)).trans c2
      go_upto_block 3 with fail
      go_cut [7] (fun s7 wx=>Hid (ViewMem W0 wx (w.heap.size+1) BB bv bm bp g.length (.slice (some ⟨bo,oo,none⟩) c.length co) c (k+1) (fun y=>if y=(n:Int) then(k:Int) else atF c k y) (((row.take j).foldl (xS n) ((c.take k).foldl (yh g) (List.replicate g.length []))).set s (pr++ [n]))))
      case first=>
       go_upto_region 9 with fail
       go_region_law (first|(refine step_append_lies _ (by rfl) (.tmp 54) (.tmp 56) _ (by rfl) BB 3 ii (I 0) 1 8 Try.underlying25 e8 d0 c9 c8 rfl Zo (.slice ap pr.length a9) pr.length (pr.map zj) (by rfl) ((f8.out.alloc _).drew) ⟨wr.heap.size,0,none⟩ 1 1 [I n] (by rfl) (by rfl) (Oi (cs:=#[I n]) (t:=3) (fr:=(0,0)) (heap_alloc_new wr _)) (by simp[Value.oneCell']) Zo (by unfold maxLen;omega) Zo Zt (wr.heap.size+1) Zs ?_;intro gg h0 w3 b1 l f0 g3;have i0:=(l.cell_far ⟨bv,2,none⟩ Zt (Ne.symm d5)).trans (f6 _);have h8:=(l.cell_far ⟨bp,s,none⟩ Zt (Ne.symm b3)).trans (f5 _);have h7:=(l.frozen_far ⟨bp,s,none⟩ Zt (Ne.symm b3)).trans (f2 _)))
       all_goals (go_wp2_with fail;go_meet;exact Ja (d.out.push c5.out cp (uj l) b1 f0 Zo))
      case rest=>
       go_wp2_with fail;go_roundw
       case rel=>exact⟨j+1,by omega,by go_num,by rw[Nh,f7.out];simpa[xS,Jj,c5.out] using hcut⟩
       case measure=>simp[intOf];omega
     ·go_wp2_with fail;go_roundw
      case rel=>exact⟨k+1,by omega,by go_num,by
       have e7:j=row.length:=Zo;have h1:=d;rw[e7,Nl] at h1;rw[Nh,c7.out,List.foldl_append];have h2:succ g n=row:=by simp[succ,Jj,b0.out]
       have h3:atF c (k+1)=fun y=>if y=(n:Int) then(k:Int) else atF c k y:=by
        funext y;simp only[atF,Jj,c7.out,Ot]
       rw[h3]
       simpa[yh,h2] using h1⟩
      case measure=>simp[intOf];omega
   ·have e6:k=c.length:=Zo;subst e6;go_wp2_with fail;go_ret;refine⟨bv,rfl,?_,?_,ww rfl x HK.out.hb⟩
    ·have:=HK.out.lt;omega
    ·have:=HK.out.read
     rwa [Nl] at this
def yM (w:World)(size:Nat)(xv:Value)(m:Nat)(news:List Value):Prop:=
 ∃a c,xv=.slice a m c/\news.length=m*size/\(∀u∈news,u.oneCell'=true)/\((a=none/\m=0)∨∃ad,a=some ad/\∀j u,news[j]? =some u->w.cell? (ad.add j)=some u)
theorem tE(w:World)(h:Nat)(t ty e:TypeId)(i:TypeInfo)(z:Value)(size bytes:Nat)(ht:P.underlying t=some (.slice e))(hi:P.info? e=some i)(hz:i.zero=some z)
 (l:i.size=size) (a1:i.bytes=bytes) (x:z.cells.size=size) (y:0<size) (v:Value) (n:Nat) (xs:List Value) (j:w.ownsRow h e size v n xs)
 (xv:Value) (m:Nat) (d:List Value) (u:yM w size xv m d) (a2:n+m<=maxLen) (k:(n+m)*bytes<=140737488355328) (q:h<=w.heap.size):
 ∃v' w',(Builtin.append_ #[t,t] ty #[v,xv]).run P w=.ok v' w'/\w'.ownsRow h e size v' (n+m) (xs++d)/\w.grownBy w' v.ownBlock/\(v'.ownBlock=v.ownBlock∨v'.ownBlock=some w.heap.size):=by
 obtain⟨a,c,rfl,hl,h1,⟨rfl,rfl⟩|⟨ad,rfl,o⟩⟩:=u
 ·have hn:d=[]:=Nz (by simpa using hl);subst hn;refine⟨v,w,?_,by simpa using j,⟨rfl,rfl,rfl,Je _,fun _ _ _=>rfl⟩,.inl rfl⟩;rcases j.2 with⟨rfl,rfl⟩|⟨g,a8,cur,rfl,a6,hg,a0,a5,a4,a3⟩
  ·simp[Builtin.append_,run_underlying ht,sizeOf,typeInfo,hi,Builtin.lenOf,run_firstCells_none]
  ·simp[Builtin.append_,run_underlying ht,sizeOf,typeInfo,hi,Builtin.lenOf,run_firstCells_none,a0,storeCells]
 ·obtain⟨v',w',h2,h3,h4,_,h5⟩:=run_append_own_at (P:=P) w h t ty e i z size bytes ht hi hz l a1 x y v n xs j ad m c d hl o h1 a2 k q;exact⟨v',w',h2,h3,h4,h5⟩
theorem zK(w:World){ops:Array Oper}{rest:List Oper}{o:Oper}{a:Act}{Q:Exit->Act->World->Prop}(a0:o.guard=none)(s x:Operand)(t:TypeId)
 (ho:o.op=.call {callee:=.builtin .append,args:=#[s,x],argTypes:=#[t,t]})
 (c:Nat) (e:TypeId) (i:TypeInfo) (z:Value) (size bytes:Nat) (ht:P.underlying t=some (.slice e)) (hi:P.info? e=some i) (hz:i.zero=some z)
 (j:i.size=size) (a1:i.bytes=bytes) (u:z.cells.size=size) (y:0<size)
 (v:Value) (n:Nat) (xs:List Value) (hs:a.eval s=v) (q:w.ownsRow c e size v n xs)
 (xv:Value) (m:Nat) (d:List Value) (hx:a.eval x=xv) (l:yM w size xv m d) (a2:n+m<=maxLen) (g:(n+m)*bytes<=140737488355328) (k:c<=w.heap.size)
 (h:∀v' w',w'.ownsRow c e size v' (n+m) (xs++d)->w.grownBy w' v.ownBlock->(v'.ownBlock=v.ownBlock∨v'.ownBlock=some w.heap.size)->wpList P ops Q rest (a.put o.dst v') w'):
 wpList P ops Q (o::rest) a w:=by
 refine wpList_plain a0 fun K hK=>?_
 obtain⟨v',w',hr,h2,h3,h5⟩:=tE (P:=P) w c t o.type e i z size bytes ht hi hz j a1 u y v n xs q xv m d l a2 g k;unfold Oper.wp execOp;simp only[ho,resolve,invoke,builtin,Sem.run_bind,Sem.run_pure,Result.andThen_ok,List.map_toArray,Ql,List.map_nil,hs,hx,hr];exact hK _ _ (h v' w' h2 h3 h5)
theorem yM.one{b:Nat}{x:Value}{e:TypeId}(h:Q w b #[x] e)(c:x.oneCell'=true):yM w 1 (N b 1 1) 1 [x]:=
 ⟨_,_,rfl,rfl,by simpa using c,.inr ⟨_,rfl,Oi (cs:=#[x]) h⟩⟩
theorem zY.src{B:Nat}{v:Value}(h:zY w B v xs):yM w 1 v xs.length (xs.map zN):=by
 obtain⟨a,g,rfl,m,l,d⟩:=h;refine⟨a,g,rfl,by simp,by simp[zN,Value.oneCell'],?_⟩
 cases xs with
 |nil=>
  cases a with
  |none=>exact .inl ⟨rfl,rfl⟩
  |some ad=>exact .inr ⟨ad,rfl,fun j u hu=>by simp at hu⟩
 |cons x xs=>
  obtain⟨b,o,rfl,_,_⟩:=d 0 x rfl;refine .inr ⟨_,rfl,fun j u hu=>?_⟩;rw[Jr,Oz] at hu;obtain⟨y,i,rfl⟩:=hu;obtain⟨b',o',e,_,c,_⟩:=d j y i;cases e;rw[Nk] at c;unfold Addr.add
  split
  ·rename_i k;rw[k] at c;exact c
  ·exact c
theorem uA{S:Nat}{v:Value}{n:Nat}(h:w.ownsRow S 3 1 v n (xs.map zN))(j:xs.length=n)(i:∀x∈xs,I64 x):zY w w.heap.size v xs:=by
 subst j;obtain⟨a,c,rfl⟩:=zG h;have hl:=zm h;refine⟨a,c,rfl,hl.1,by omega,fun k x hk=>?_⟩;have l:=(Jh.1 hk).1;obtain⟨g,m,e,hg,d⟩:=h.form Zo;cases e;refine⟨g,0,rfl,d,?_,i x (Ji hk)⟩;rw[Nk,Ng];exact(h.cellAt k Zo).trans (by rw[Jr,hk];rfl)
theorem zY.all{B:Nat}{v:Value}(h:zY w B v xs):∀x∈xs,I64 x:=by
 intro x c;obtain⟨k,hk⟩:=Ny c;obtain⟨_,_,_,_,_,g⟩:=h;obtain⟨_,_,_,_,_,d⟩:=g k x hk;exact d
theorem yG{ops:Array Oper}{o:Oper}{a:Act}{K:Act->World->Prop}{Q:Exit->Act->World->Prop}{E:Prop}(a0:o.guard=none)(s x:Operand)(t:TypeId)
 (ho:o.op=.call {callee:=.builtin .append,args:=#[s,x],argTypes:=#[t,t]})
 (c:Nat) (e:TypeId) (i:TypeInfo) (z:Value) (size bytes:Nat) (ht:P.underlying t=some (.slice e)) (hi:P.info? e=some i) (hz:i.zero=some z)
 (j:i.size=size) (a1:i.bytes=bytes) (u:z.cells.size=size) (y:0<size)
 (v:Value) (n:Nat) (xs:List Value) (hs:a.eval s=v) (q:w.ownsRow c e size v n xs)
 (xv:Value) (m:Nat) (d:List Value) (hx:a.eval x=xv) (l:yM w size xv m d) (a2:n+m<=maxLen) (g:(n+m)*bytes<=140737488355328) (k:c<=w.heap.size)
 (h:∀aa cap w',w'.ownsRow c e size (.slice aa (n+m) cap) (n+m) (xs++d)->w.grownBy w' v.ownBlock->((Value.slice aa (n+m) cap).ownBlock=v.ownBlock∨(Value.slice aa (n+m) cap).ownBlock=some w.heap.size)->K (a.put o.dst (.slice aa (n+m) cap)) w'):
 if Region.wanted o (yielded ops a.tmps)=true then Oper.wp P o a w K Q else E:=by
 have hw:Region.wanted o (yielded ops a.tmps)=true:=by simp[Region.wanted,a0]
 rw[if_pos hw];obtain⟨v',w',hr,h2,h3,h5⟩:=tE (P:=P) w c t o.type e i z size bytes ht hi hz j a1 u y v n xs q xv m d l a2 g k;obtain⟨aa,cap,rfl⟩:=zG h2;unfold Oper.wp execOp;simp only[ho,resolve,invoke,builtin,Sem.run_bind,Sem.run_pure,Result.andThen_ok,List.map_toArray,Ql,List.map_nil,hs,hx,hr];exact h aa cap w' h2 h3 h5
end Go.Proofs.Ytoahcpkibpomcaa
namespace Go.Proofs
open Go.Shelf
def Try.lays212_ren:Go.Shelf.Ren:=⟨fun|212=>93|263=>99|264=>100|n=>n,fun|46=>59|51=>163|146=>164|53=>166|148=>167|n=>n,fun|n=>n⟩
theorem Try.lays212:Go.Proofs.Lays.n212 Try.prog Try.lays212_ren:= {
 mixed:=by kernel_rfl
 f212:=Try.func93.trans (congrArg some (by kernel_rfl))
 f263:=Try.func99.trans (congrArg some (by kernel_rfl))
 f264:=Try.func100.trans (congrArg some (by kernel_rfl))
 t46:=Try.underlying59
 a46:=Try.isAgg59
 z46:=Try.sizeOf59
 v46:=Try.zeroValue59
 t51:=Try.underlying163
 a51:=Try.isAgg163
 z51:=Try.sizeOf163
 v51:=Try.zeroValue163
 t53:=Try.underlying166
 a53:=Try.isAgg166
 z53:=Try.sizeOf166
 v53:=Try.zeroValue166
 t146:=Try.underlying164
 a146:=Try.isAgg164
 z146:=Try.sizeOf164
 v146:=Try.zeroValue164
 t148:=Try.underlying167
 a148:=Try.isAgg167
 z148:=Try.sizeOf167
 v148:=Try.zeroValue167 }
open Go.RowKit Go.Lib in
theorem Try.bits_Mul (x y:Nat)(d:x<18446744073709551616)(c:y<18446744073709551616)(w:World):
 Calls Try.prog 93 #[.int .u64 x,.int .u64 y] w fun e w'=>e=.returned (.tuple #[.int .u64 ((x*y/18446744073709551616:Nat):Int),.int .u64 ((x*y%18446744073709551616:Nat):Int)])/\w'=w:=Any.bits_Mul Try.lays212 x y d c w
end Go.Proofs
namespace Go.Proofs.Ytoahcpkibpomcaa
open Go.RowKit
variable {P:Program}{W0 w w' w0 w1:World}{B0 C bm bp j k m nm x:Nat}{i:Int}{blocks:List IBlk}{d d':wO}{K:MK}{g preds:List (List Nat)}{c:List Nat}{o:Obj}{xs:List Int}
def wN (N m:Nat)(z:Value):List Value:=List.replicate m z++List.replicate (N-m) (I 0)
theorem nY (N:Nat)(z:Value):wN N 0 z=List.replicate N (I 0):=by simp[wN]
theorem mI (N:Nat)(z:Value):wN N N z=List.replicate N z:=by simp[wN]
theorem kK{N:Nat}(z:Value)(h:j<m):(wN N m z)[j]? =some z:=by
 unfold wN;rw[Np (by simpa using h)];simp[h]
theorem sL{N:Nat}(z:Value)(h:m+k<=N):splice (wN N m z) m (List.replicate k z)=wN N (m+k) z:=by
 unfold splice wN
 have e1:List.take m (List.replicate m z++List.replicate (N-m) (I 0))=List.replicate m z:=by
  rw[List.take_append_of_le_length Zs,Oy Zs]
 have e2:List.drop (m+(List.replicate k z).length) (List.replicate m z++List.replicate (N-m) (I 0))=List.replicate (N-(m+k)) (I 0):=by
  rw[List.drop_append,List.drop_eq_nil_of_le Zs,Op,List.drop_replicate]
  congr 1;simp;omega
 rw[e1,e2,<-Nv,List.replicate_append_replicate]
theorem qW{N:Nat}(z:Value)(h:k<=N):splice (List.replicate N (I 0)) 0 (List.replicate k z)=wN N k z:=by
 have:=sL (m:=0) z (by omega:0+k<=N);rw[nY] at this
 simpa using this
theorem lr (w:World)(s o a2 N:Nat)(hc:U w s o (I (-1)))(h1:1<=N)(hN:N<=4000000):
 T 86 #[.slice (some ⟨s,o,none⟩) 1 a2,I N] w fun e w'=>e=.returned (.slice (some ⟨w.heap.size,0,none⟩) N N)/\Q w' w.heap.size (List.replicate N (I (-1))).toArray 3/\O w w':=by
 obtain⟨ii,a6,b0,a3,a9⟩:=info_parts Try.info_int;have a4:=run_make_row' (P:=Try.prog) 25 3 (I 0) 8 Try.underlying25 Try.info_int rfl .i64 .i64 N Zo Zo;go_enter Try.func86,Try.ntmps86
 have u:T 93 #[.int .u64 1,.int .u64 (N:Int)] w fun e w'=>e=.returned (.tuple #[.int .u64 0,.int .u64 (N:Int)])/\w'=w:=by
  refine(Try.bits_Mul 1 N Zo Zo w).mono ?_;rintro e w1 ⟨rfl,rfl⟩;refine⟨?_,rfl⟩;rw[show 1*N/18446744073709551616=0 by omega,show 1*N%18446744073709551616=N by omega];rfl
 have hs:=jU hc;have b5:(N:Int)<=9223372036854775807:=Zo;have b4:¬(N:Int)<0:=Zo;have x: [I (-1)].length=Nat.min 1 N:=(Ud h1).symm;have l:Q (w.alloc (.cells (madeCells #[I 0] N) 3)) w.heap.size (List.replicate N (I 0)).toArray 3:=by rw[zI rfl,yA]
 have k:∀(j:Nat) (v:Value),[I (-1)][j]? =some v->(w.alloc (.cells (madeCells #[I 0] N) 3)).cell? ((⟨s,o,none⟩:Addr).add j)=some v:=by
  intro j v g
  cases j with
  |zero=>simp at g;subst g;exact(Ok _ _ _ hs).trans hc
  |succ j=>simp at g
 have q:O w (w.alloc (.cells (madeCells #[I 0] N) 3)):=(Below.refl _ _).alloc (Je _) _;have t:(Try.prog.info? 3).map (·.size)=some 1:=by rw[a6];simp[a3]
 go_wp2_with (first|(go_at_call 93;refine u.mono ?_;rintro e w1 ⟨rfl,rfl⟩)|(with_reducible refine wpList_copy_splice rfl (.tmp 31) (.tmp 32) 25 25 rfl 3 Try.underlying25 t (some ⟨w1.heap.size,0,none⟩) (some ⟨s,o,none⟩) N N 1 a2 rfl rfl w1.heap.size 0 (List.replicate N (I 0)) 3 l [I (-1)] x (fun _=>⟨rfl,_,rfl,k⟩) Zt (by simp[Value.oneCell']) w1.heap.size w1 q (Je _) ?_;intro w2 c a8))
 have a1:Hid (Q w2 w1.heap.size (wN N 1 (I (-1))).toArray 3):=by
  have:=c.out;rw[show([I (-1)]:List Value)=List.replicate 1 (I (-1)) from rfl,qW _ h1] at this;exact Ja this
 clear u c q k l x a4
 go_loopw [8] (fun i wr=>∃m:Nat,i=I m/\1<=m/\(m:Int)<=N/\Hid (Q wr w1.heap.size (wN N m (I (-1))).toArray 3)/\O w1 wr) (fun i _=>N-(intOf i).toNat)
 case atStart=>exact⟨1,rfl,by omega,by omega,a1,a8⟩
 case round=>
  obtain⟨m,rfl,x,b2,c,y⟩:=hrel
  by_cases b3:(m:Int)<N
  ·have e1:(m:Int)<=N:=Zo;have e2:(0:Int)<=m:=Zo;go_wp2
   obtain⟨w3,b1,a0,d⟩:∃w3:World,(Sem.run Try.prog (Builtin.copy_ #[25,25] 3 #[.slice (some ⟨w1.heap.size,m,none⟩) (N-m) (N-m),.slice (some ⟨w1.heap.size,0,none⟩) m N]) wr.drew=.ok (I ((min m (N-m):Nat):Int)) w3.drew)/\Hid (Q w3 w1.heap.size (wN N (m+min m (N-m)) (I (-1))).toArray 3)/\O w1 w3:=by
    refine⟨wr.setRow w1.heap.size (splice (wN N m (I (-1))) m (List.replicate (min m (N-m)) (I (-1)))).toArray,?_,?_,below_setRow y (Je _) _⟩
    ·have:=run_copy_row (P:=Try.prog) wr.drew 25 25 3 3 w1.heap.size m (N-m) (N-m) ⟨w1.heap.size,0,none⟩ m N (wN N m (I (-1))).toArray 3 (List.replicate (min m (N-m)) (I (-1))) Try.underlying25 t c.out
      (by rw[Qr]) (fun j v g=>by
       have a5:j<min m (N-m):=by
        have:=(Jh.1 g).1;simpa using this
       rw[Nm,if_pos a5] at g;cases g;have ea:(⟨w1.heap.size,0,none⟩:Addr).add j=⟨w1.heap.size,j,none⟩:=by by_cases h:j=0<;>simp[Addr.add,h]
       rw[ea];refine zA (w:=wr.drew) (b:=w1.heap.size) (cs:=(wN N m (I (-1))).toArray) c.out ?_;simp only[List.getElem?_toArray]
       exact kK _ Zo) (by simp[wN];omega) (by intro v hv;rw[List.eq_of_mem_replicate hv];rfl)
     rw[Qr] at this;refine(this.trans ?_);unfold splice;simp only[Nv,Qr];rfl
    ·have:=setRow_heap wr w1.heap.size _ (splice (wN N m (I (-1))) m (List.replicate (min m (N-m)) (I (-1)))).toArray _ _ c.out;rw[sL _ Zo] at this ⊢;exact Ja this
   clear c y;go_wp2
   go_region
   go_wp2;go_roundw
   case rel=>exact⟨m+min m (N-m),by rw[Int.natCast_add],by omega,by omega,a0,⟨d.os,d.tape,d.output,d.size,d.block⟩⟩
   case measure=>simp[intOf];omega
  ·go_wp2;go_ret;have:m=N:=Zo;subst this;refine⟨rfl,?_,y⟩;have:=c.out;rw[mI] at this
   simpa using this
end Go.Proofs.Ytoahcpkibpomcaa
set_option maxRecDepth 8000
namespace Go.Proofs.Ytoahcpkibpomcaa
open Go.RowKit Go.Shelf
variable {P:Program}{W0 w w' w0 w1:World}{B0 C bm bp j k m nm x:Nat}{i:Int}{blocks:List IBlk}{d d':wO}{K:MK}{g preds:List (List Nat)}{c:List Nat}{o:Obj}{xs:List Int}
attribute [local go_sem] Oper.semAt_some
def aaT (Bv Bn n:Nat)(xs:List Nat)(bv bp op len cap:Nat)(ar:Option Addr)(capr:Nat)(W:World):Prop:=
 U W Bv 0 (L bv)/\U W Bn 0 (I n)/\U W bv 2 (.slice (some ⟨bp,op,none⟩) len cap)/\n<len/\
  U W bp (op+n) (.slice ar xs.length capr)/\∀(j:Nat) (x:Nat),xs[j]? =some x->∃b o,ar=some ⟨b,o,none⟩/\U W b (o+j) (I x)
theorem aH (m:Nat)(hm:1<=m)(l Bv Bn n:Nat)(xs:List Nat)(bv bp op len g:Nat)(ar:Option Addr)(c:Nat)(hx:xs.length<=4000004000000)(J Jx:List Nat->World->Prop)
 (hY:∀(pre:List Nat) (x:Nat) (W:World),J pre W->xs[pre.length]? =some x->YieldAt Fence.wide (m-1) Try.prog l #[I x] W fun e W'=>
   (e=.returned (.bool true)/\J (pre++ [x]) W'/\(aaT Bv Bn n xs bv bp op len g ar c W->aaT Bv Bn n xs bv bp op len g ar c W'))∨(e=.returned (.bool false)/\Jx (pre++ [x]) W'))
 (a0:∀pre W k,J pre W->J pre (W.drewN k)) (W:World) (hR:aaT Bv Bn n xs bv bp op len g ar c W) (h0:J [] W):
 CallsIn Fence.wide m Try.prog 94 #[.func (.yield l) #[] #[],L Bv,L Bn] W fun e W'=>(∃v,e=.returned v)/\
  ((∃ys,ys=xs/\J ys W')∨(∃pre,pre<+:xs/\Jx pre W')):=by
 have a2:=Ja hR;obtain⟨c1,c2,c3,hn,c4,hc⟩:=hR;have a5:(n:Int)<len:=Zo;refine callsIn_of_wp Try.func94 rfl trivial ?_ rfl;simp only[Try.ntmps94,List.size_toArray,Nq,Ow,Nat.reduceAdd,Nat.reduceSub,Array.replicate_succ,Array.replicate_zero,List.push_toArray,List.append_toArray,Op,List.cons_append]
 gi_wp2
 gi_region
 gi_wp2
 gi_loopw [14] (fun i wr=>∃k:Nat,k<=xs.length/\i=I k/\J (xs.take k) wr/\Hid (aaT Bv Bn n xs bv bp op len g ar c wr)) (fun i _=>xs.length-(intOf i).toNat)
 case atStart=>exact⟨0,Jt _,rfl,a0 _ _ 1 h0,a2⟩
 case round=>
  obtain⟨k,hk,rfl,j,HR⟩:=hrel
  by_cases u:k<xs.length
  ·obtain⟨x,d⟩:∃x,xs[k]? =some x:=⟨_,Jd u⟩
   obtain⟨b,o,y,a6⟩:=HR.out.2.2.2.2.2 k x d;obtain⟨fn,a3,assign,body,hy,hR⟩:=hY _ x wr j (by rw[Oc,Ud hk];exact d);have h:xs.take (k+1)=xs.take k++ [x]:=by rw[Nh,d];rfl
   have q:=Ja h;have a8:=Ja d;have a4:(k:Int)<xs.length:=Zo;subst y;clear d h c1 c2 c3 c4 hc hY
   gi_wp2
   refine hR.mono ?_;rintro e W3 (⟨rfl,a1,w⟩|⟨rfl,t⟩)
   ·gi_wp2
    go_roundw
    case rel=>exact⟨k+1,by omega,by go_num,by rw[q.out];exact a1,w HR⟩
    case measure=>simp[intOf];omega
   ·gi_wp2
    refine bodyPost_ret (results_none rfl _ _ _) rfl ?_;exact⟨⟨_,rfl⟩,.inr ⟨_,by rw[<-q.out];exact List.take_prefix _ _,t⟩⟩
  ·obtain rfl:k=xs.length:=by omega
   gi_wp2
   go_end0
   exact⟨⟨_,rfl⟩,.inl ⟨_,Nl,j⟩⟩
theorem lj (p:Option Addr)(n:Int)(w:World):
 T 88 #[.pointer p,I n] w fun e w'=>e=.returned (.func (.func 94) #[] #[L w.heap.size,L (w.heap.size+1)])/\
  w'=(w.alloc (A #[.pointer p] 122)).alloc (A #[I n] 3):=by
 go_enter Try.func88,Try.ntmps88;go_wp2;go_ret;exact⟨rfl,rfl⟩
theorem aaT.below{Bv Bn n bv op len g d:Nat}{xs:List Nat}{ar:Option Addr}{W W':World}(h:aaT Bv Bn n xs bv bp op len g ar d W)(hb:Below C W W')(l:W.heap.size<=C):aaT Bv Bn n xs bv bp op len g ar d W':=by
 obtain⟨c1,c2,c3,i,c4,k⟩:=h;have up:∀ {a:Addr} {v:Value},W.cell? a=some v->W'.cell? a=some v:=fun {a v} h=>(hb.cell (Jy (Jw W a h) l)).trans h
 refine⟨up c1,up c2,up c3,i,up c4,fun j x hj=>?_⟩;obtain⟨b,o,e,c⟩:=k j x hj;exact⟨b,o,e,up c⟩
theorem mC{xs:List Nat}(h:xs[k]? =some x):xs.attach.take (k+1)=xs.attach.take k++ [⟨x,Ji h⟩]:=by
 rw[Nh]
 congr 1
 obtain⟨c,rfl⟩:=Jh.1 h;rw[Jd (by simpa using c)];simp
theorem nH (m:Nat)(hm:1<=m)(Bv Bn n:Nat)(xs:List Nat)(bv bp op len d:Nat)(ar:Option Addr)(c:Nat)(g:xs.length<=4000004000000)(w:World)(i:aaT Bv Bn n xs bv bp op len d ar c w):
 SeqStopsK Fence.wide m Try.prog 94 #[L Bv,L Bn] (fun x: {p//p∈xs}=> #[I (x.1:Int)]) (fun W W'=>aaT Bv Bn n xs bv bp op len d ar c W->aaT Bv Bn n xs bv bp op len d ar c W')
  (fun ys=>ys.map (·.1)=xs) (fun _=>True) xs.length w:=fun l J Jx W hW hJ _ hY h0=>by
 refine(aH m hm l Bv Bn n xs bv bp op len d ar c g (fun pre W=>J (xs.attach.take pre.length) W) (fun pre W=>Jx (xs.attach.take pre.length) W) (fun pre x W1 h1 h2=>?_)
  (fun pre W1 k h=>hJ _ W1 (W1.drewN k) none h ⟨rfl,rfl,rfl,Je _,fun _ _ _=>rfl⟩ (fun _ e=>by cases e)) W (i.below hW (Je _)) (by simpa using h0)).mono ?_
 ·have j:pre.length<xs.length:=(Jh.1 h2).1;refine(hY _ ⟨x,Ji h2⟩ W1 h1 (by rw[Oc,List.length_attach];omega)).mono ?_;rw[Jk,Ju,mC h2];exact fun e w' h=>h
 ·rintro e w' ⟨hv,(⟨ys,rfl,h⟩|⟨pre,_,h⟩)⟩
  ·exact⟨hv,.inl ⟨_,by simp,h⟩⟩
  ·exact⟨hv,.inr ⟨_,trivial,h⟩⟩
end Go.Proofs.Ytoahcpkibpomcaa
