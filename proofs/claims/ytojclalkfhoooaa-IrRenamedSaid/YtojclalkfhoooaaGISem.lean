/- Part of a proof. -/
import Derived.Test.YtojclalkfhoooaaGMap
import Derived.BigRegion
import Derived.Carry
import Derived.Deep.MidRow
import Derived.Deep.OwnRows
import Derived.Defers
import Derived.Laws.BitsLemmas
import Derived.Laws.BytesArg
import Derived.Laws.CopyOwn
import Derived.Lib.BufferWrite
import Derived.Lib.EndianBits
import Derived.LoopIn
import Derived.LoopNIn
import Derived.OwnWalkIn
import Derived.RangeFuncBound
import Derived.RangeFuncCalls
import Derived.RangeFuncLeaves
import Derived.RangeFuncNested
import Derived.Recover
import Derived.RegionIn
import Derived.Shelf.Abstract
import Derived.Shelf.Bits.Mul64
import Derived.Shelf.RegionOpen
import Derived.StillTail
import Derived.TacticsInMore
import Derived.WideKeyEntry
set_option linter.all false
set_option maxHeartbeats 4000000
set_option maxRecDepth 100000
namespace Go.Proofs.Ytojclalkfhoooaa
open Go.RowKit
variable {P:Program}{w w':World}{b12 b13 bt i j k u:Nat}{c l post:List Nat}{g:List (List Nat)}{x:Int}{K:MK}{m:Mach}{xs:List Int}{seen:List Bool}{st:List (Nat×Nat)}
def yH (V:PV)(p:IProg):Value:=.agg #[V.fv,V.av,A p.entry,A p.handler,V.dv,V.bv]
def iz (o:IObj):Value:=.agg #[A o.bank,I (o.addr:Int),I (o.size:Int)]
def sW (nb:Nat)(o:IObj):Bool:=
 if o.bank=-1 then decide (0<o.size) && (decide (16384<=o.addr) && decide (o.addr+o.size<=24576))
 else decide (0<o.size) && (decide (0<=o.bank) && (decide (o.bank<nb) && decide (o.addr+o.size<=4096)))
def uK (a b:IObj):Bool:=decide (a.bank=b.bank) && (decide (a.addr<b.addr+b.size) && decide (b.addr<a.addr+a.size))
theorem zZ {P Q:Prop} [Decidable P] [Decidable Q] {b:Bool}(h:decide P=b)(e:P↔Q):decide Q=b:=by rw[<-h];exact decide_eq_decide.2 e.symm
theorem kL{V:PV}{p:IProg}(hp:ProgIn w w.heap.size V p)(o:IObj)(ho:I64 o.bank/\o.addr<65536/\o.size<65536):
 Y 95 #[yH V p,iz o] w fun e w'=>e=.returned (.bool (sW p.banks.length o))/\F w w':=by
 obtain⟨Vf,Va,Vd,Vb⟩:=V;obtain⟨f1,f2,e1,_,_⟩:=hp.funcs.form;obtain⟨a1,a2,e2,_,_⟩:=hp.args.form;obtain⟨d1,d2,e3,_,_⟩:=hp.data.form;obtain⟨b1,b2,e4,i,m⟩:=hp.banks.form;simp only at e1 e2 e3 e4;subst e1 e2 e3 e4;unfold yH iz;simp only;have r:p.banks.length<=9223372036854775807:=Zo;obtain⟨k,l,j⟩:=ho;clear hp i;obtain⟨q1,h1⟩:∃b,decide (0<o.size)=b:=⟨_,rfl⟩
 have d:∀M:Nat,∀b,decide (o.addr+o.size<=M)=b->decide ((o.addr:Int)+(o.size:Int)<=(M:Int))=b:=fun M b h=>zZ h Zo
 by_cases c:o.bank=-1
 ·have e:sW p.banks.length o=(decide (0<o.size) && (decide (16384<=o.addr) && decide (o.addr+o.size<=24576))):=if_pos c;obtain⟨q2,h2⟩:∃b,decide (16384<=o.addr)=b:=⟨_,rfl⟩
  obtain⟨q3,h3⟩:∃b,decide (o.addr+o.size<=24576)=b:=⟨_,rfl⟩
  have x:decide ((16384:Int)<=(o.addr:Int))=q2:=zZ h2 Zo;have u:decide ((o.addr:Int)+(o.size:Int)<=24576)=q3:=d 24576 _ h3;have t1:(o.bank==-1)=true:=by rw[beq_iff_eq];exact c
  rw[e,h1,h2,h3];have H3:=Ja h3;clear e d c h3;cases q1<;>cases q2<;>cases q3
  all_goals go_enter Try.func95,Try.ntmps95
  all_goals go_wp2
  all_goals go_ret
  all_goals exact⟨rfl,((Below.refl _ _).alloc (Je _) _).alloc Zs _⟩
 ·have e:sW p.banks.length o=(decide (0<o.size) && (decide (0<=o.bank) && (decide (o.bank<p.banks.length) && decide (o.addr+o.size<=4096)))):=if_neg c;obtain⟨q2,h2⟩:∃b,decide (0<=o.bank)=b:=⟨_,rfl⟩
  obtain⟨q3,h3⟩:∃b,decide (o.bank<(p.banks.length:Int))=b:=⟨_,rfl⟩
  obtain⟨q4,g⟩:∃b,decide (o.addr+o.size<=4096)=b:=⟨_,rfl⟩
  have t:decide ((o.addr:Int)+(o.size:Int)<=4096)=q4:=d 4096 _ g;have t1:(o.bank==-1)=false:=by rw[beq_eq_false_iff_ne];exact c
  rw[e,h1,h2,h3,g];have y:=Ja g;clear e d c g;cases q1<;>cases q2<;>cases q3<;>cases q4
  all_goals go_enter Try.func95,Try.ntmps95
  all_goals go_wp2
  all_goals go_ret
  all_goals exact⟨rfl,((Below.refl _ _).alloc (Je _) _).alloc Zs _⟩
theorem nT (w:World)(a b:IObj)(i:I64 a.bank/\a.addr<65536/\a.size<65536)(hb:I64 b.bank/\b.addr<65536/\b.size<65536):
 Y 96 #[iz a,iz b] w fun e w'=>e=.returned (.bool (uK a b))/\F w w':=by
 unfold iz;obtain⟨_,h,d⟩:=i;obtain⟨_,g,c⟩:=hb;obtain⟨q1,h1⟩:∃q,decide (a.bank=b.bank)=q:=⟨_,rfl⟩
 obtain⟨q2,h2⟩:∃q,decide (a.addr<b.addr+b.size)=q:=⟨_,rfl⟩
 obtain⟨q3,h3⟩:∃q,decide (b.addr<a.addr+a.size)=q:=⟨_,rfl⟩
 have t1:(a.bank==b.bank)=q1:=by rw[<-h1];rw[Bool.eq_iff_iff,beq_iff_eq,decide_eq_true_eq]
 have t2:decide ((a.addr:Int)<(b.addr:Int)+(b.size:Int))=q2:=zZ h2 Zo;have t3:decide ((b.addr:Int)<(a.addr:Int)+(a.size:Int))=q3:=zZ h3 Zo;have e:uK a b=(q1 && (q2 && q3)):=by unfold uK;rw[h1,h2,h3]
 rw[e];clear e h1 h2 h3;cases q1<;>cases q2<;>cases q3
 all_goals go_enter Try.func96,Try.ntmps96
 all_goals go_wp2
 all_goals go_ret
 all_goals exact⟨rfl,((Below.refl _ _).alloc (Je _) _).alloc Zs _⟩
def yw (p:IProg)(f:Int):Bool:=decide (0<=f) && (decide (f<p.funcs.length) && (p.args.getD f.toNat 0==0))
theorem kR{V:PV}{p:IProg}(hp:ProgIn w w.heap.size V p)(hl:p.args.length=p.funcs.length)(f:Int):
 Y 64 #[yH V p,A f] w fun e w'=>e=.returned (.bool (yw p f))/\F w w':=by
 obtain⟨Vf,Va,Vd,Vb⟩:=V;obtain⟨f1,f2,e1,h,m⟩:=hp.funcs.form;have c:=hp.args;obtain⟨a1,a2,e2,_,_⟩:=hp.args.form;obtain⟨d1,d2,e3,_,_⟩:=hp.data.form;obtain⟨b1,b2,e4,_,_⟩:=hp.banks.form;simp only at e1 e2 e3 e4 c;subst e1 e2 e3 e4;unfold yH;simp only;have r:p.funcs.length<=9223372036854775807:=Zo;clear hp h;have j:F w (w.alloc (U (R p f1 f2 a1 a2 d1 d2 b1 b2) 29)):=(Below.refl _ _).alloc (Je _) _
 by_cases d:0<=f
 ·obtain⟨k,rfl⟩:∃k:Nat,f=(k:Int):=⟨f.toNat,by omega⟩
  by_cases h1:k<p.funcs.length
  ·obtain⟨x,g⟩:∃x,p.args[k]? =some x:=⟨_,Jd Zo⟩
   obtain⟨b,o,rfl,hb,i,_⟩:=c.get g;rw[Nk] at i;have t:=zV j hb i;obtain⟨q,hq⟩:∃q,(x==0)=q:=⟨_,rfl⟩
   have e:yw p k=q:=by unfold yw;rw[decide_eq_true d,decide_eq_true (show(k:Int)<p.funcs.length by omega),Ni,Jj,g];exact hq
   rw[e];have t1:decide (k<p.funcs.length)=true:=decide_eq_true h1;have l:(k:Int)<p.args.length:=Zo;clear e d h1 g c;cases q
   all_goals go_enter Try.func64,Try.ntmps64
   all_goals go_wp2
   all_goals go_ret
   all_goals exact⟨rfl,(Below.refl _ _).alloc (Je _) _⟩
  ·have e:yw p k=false:=by unfold yw;rw[decide_eq_true d,decide_eq_false (show ¬(k:Int)<p.funcs.length by omega)];rfl
   rw[e];have t1:decide (k<p.funcs.length)=false:=decide_eq_false h1;clear e d h1 c;go_enter Try.func64,Try.ntmps64;go_wp2;go_ret;exact⟨rfl,(Below.refl _ _).alloc (Je _) _⟩
 ·have e:yw p f=false:=by unfold yw;rw[decide_eq_false d];rfl
  rw[e];have t1:decide (0<=f)=false:=decide_eq_false d;clear e d c;go_enter Try.func64,Try.ntmps64;go_wp2;go_ret;exact⟨rfl,(Below.refl _ _).alloc (Je _) _⟩
def mh (l:List ByteArray):Bool:=l.all fun s=>decide (s.size=4096)
def lF (o:IObj)(l:List IObj):Bool:=l.all fun x=>!uK o x
def lm (nb:Nat)(l:List IObj)(i:Nat):Bool:=match l[i]? with|some o=>sW nb o && lF o (l.take i)|none=>true
def ig (nb:Nat)(l:List IObj):Bool:=(List.range l.length).all (lm nb l)
def wB (p:IProg):Bool:=mh p.banks && ig p.banks.length p.data
theorem xX{α:Type}(f:α->Bool){l:List α}{x:α}(h:l[k]? =some x):(l.take (k+1)).all f=((l.take k).all f && f x):=by
 rw[Nh,h,List.all_append];simp
theorem aaN{α:Type}(f:α->Bool){l:List α}{x:α}(h:l[k]? =some x)(hf:f x=false):l.all f=false:=by
 rw[Um];exact⟨x,Ji h,by rw[hf];simp⟩
theorem mO{nb:Nat}{l:List IObj}(hi:i<l.length)(h:lm nb l i=false):ig nb l=false:=by
 unfold ig;rw[Um];exact⟨i,Ol.2 hi,by rw[h];simp⟩
def mQ (nb:Nat)(l:List IObj)(i:Nat):Bool:=(List.range i).all (lm nb l)
theorem nU (nb:Nat)(l:List IObj)(i:Nat):mQ nb l (i+1)=(mQ nb l i && lm nb l i):=by unfold mQ;rw[List.range_succ,List.all_append];simp
theorem kN{V:PV}{p:IProg}(hp:ProgIn w w.heap.size V p):
 Y 65 #[yH V p] w fun e w'=>e=.returned (.bool (wB p))/\F w w':=by
 obtain⟨Vf,Va,Vd,Vb⟩:=V;obtain⟨f1,f2,e1,_,_⟩:=hp.funcs.form;obtain⟨a1,a2,e2,_,_⟩:=hp.args.form;have c8:=hp.data;have c9:=hp.banks;obtain⟨d1,d2,e3,i2,k1⟩:=hp.data.form;obtain⟨b1,b2,e4,k6,k4⟩:=hp.banks.form;simp only at e1 e2 e3 e4 c8 c9;subst e1 e2 e3 e4;have HP:=Ja hp;have h5:=Ja c8;have j0:=Ja c9;unfold yH;simp only;have k2:p.data.length<=d2:=i2;have k5:p.banks.length<=9223372036854775807:=Zo;clear hp c8 c9;go_enter Try.func65,Try.ntmps65;go_upto_region 1 with fail;have g6:F w (w.alloc (U (R p f1 f2 a1 a2 d1 d2 b1 b2) 29)):=(Below.refl _ _).alloc (Je _) _;have b7:=zI (W:=w) (o:=U (R p f1 f2 a1 a2 d1 d2 b1 b2) 29) rfl;generalize i7:w.alloc (U (R p f1 f2 a1 a2 d1 d2 b1 b2) 29)=W0 at *;have r:=Ja g6;have c0:=Ja b7;have p5:=K5 b7;have p4:=K4 b7;clear i7 g6 b7;go_wp2
 go_loopw [12] (fun kv wx=>∃k:Nat,k<=p.banks.length/\kv=A k/\wx=W0/\Hid ((p.banks.take k).all (fun s=>decide (s.size=4096))=true)) (fun kv _=>p.banks.length-(intOf kv).toNat)
 case atStart=>exact⟨0,Jt _,rfl,rfl,by rfl⟩
 case round=>
  obtain⟨k,hk,rfl,rfl,HK⟩:=hrel;generalize i4:wr=W0 at *;clear i4
  by_cases d3:k<p.banks.length
  ·have h9:(k:Int)<p.banks.length:=Zo;have h7:=Ja d3;obtain⟨s,hs⟩:∃s,p.banks[k]? =some s:=⟨_,Jd d3⟩
   obtain⟨b,o,rfl,hb,hc,k0⟩:=j0.out.get hs;rw[Nk] at hc;have cs:=zV r.out hb hc;have a4:=xX (fun s:ByteArray=>decide (s.size=4096)) hs;have a5:=fun h=>aaN (fun s:ByteArray=>decide (s.size=4096)) hs h
   have HT:=Ja (Jb a4 a5);clear hs hc hb a4 a5 d3
   by_cases hq:s.size=4096
   ·have t1:((s.size:Int) !=4096)=false:=by rw[bne_eq_false_iff_eq];omega
    have HQ:=Ja hq;clear hq;go_wp2;go_roundw
    case rel=>exact⟨k+1,h7.out,by go_num,by trivial,Ja (by rw[HT.out.1,HK.out];simp[HQ.out])⟩
    case measure=>have:=h7.out;simp[intOf];omega
   ·have t1:((s.size:Int) !=4096)=true:=by rw[bne_iff_ne];omega
    have HQ:=Ja hq;clear hq;go_wp2;go_ret;refine⟨rH ?_,r.out⟩;have i1:mh p.banks=false:=HT.out.2 (by simp[HQ.out]);unfold wB;rw[i1];rfl
  ·obtain rfl:k=p.banks.length:=by omega
   have h9:¬(p.banks.length:Int)<p.banks.length:=Zo;have g4:mh p.banks=true:=by have:=HK.out;rw[Nl] at this;exact this
   have f8:wB p=ig p.banks.length p.data:=by unfold wB;rw[g4];rfl
   have d6:=Ja f8;clear g4 f8 HK;go_wp2
   go_loopw [23] (fun iv wx=>∃i:Nat,i<=p.data.length/\iv=A i/\Hid (F W0 wx/\mQ p.banks.length p.data i=true)) (fun iv _=>p.data.length-(intOf iv).toNat)
   case atStart=>exact⟨0,Jt _,rfl,Below.refl _ _,by rfl⟩
   case round=>
    obtain⟨i,hi,rfl,HI⟩:=hrel
    by_cases u:i<p.data.length
    ·skip
     have e7:(i:Int)<p.data.length:=Zo;have e5:=Ja u;obtain⟨o,ho⟩:∃o,p.data[i]? =some o:=⟨_,Jd u⟩
     obtain⟨b,oo,rfl,hb,b0,a7,a6,g1,g2,f9⟩:=h5.out.get ho;have c:F w wr:=r.out.trans (HI.out.1.mono r.out.size);have e0:=zV c hb b0;have e1:=zV c hb a7;have e2:=zV c hb a6;have x4:=zA (i:=4) (v:=.slice (some ⟨b,oo,none⟩) p.data.length d2) (zH HI.out.1 c0.out (lt_of_block c0.out)) Zs;have d4:=zH HI.out.1 c0.out (lt_of_block c0.out);have h6:=Ja (show I64 o.bank/\o.addr<65536/\o.size<65536 from⟨g1,g2,f9⟩);have k7:=Ja c;have HO:=Ja (Jb ho hb);have g0:lm p.banks.length p.data i=(sW p.banks.length o && lF o (p.data.take i)):=by unfold lm;rw[ho]
     have d8:=Ja g0;have g3:=fun h=>mO (nb:=p.banks.length) u h
     have h8:=Ja g3;clear ho hb b0 a7 a6 g1 g2 f9 u c g0 g3 p5 p4;go_upto_region 10 with fail;have a3:=zI (W:=wr) (o:=U #[A o.bank,I (o.addr:Int),I (o.size:Int)] 51) rfl;have g:=zB (o:=U #[A o.bank,I (o.addr:Int),I (o.size:Int)] 51) d4;have c3:=HI.out.1.alloc (HI.out.1.size) (U #[A o.bank,I (o.addr:Int),I (o.size:Int)] 51);have k3:W0.heap.size<=wr.heap.size:=HI.out.1.size;generalize i6:wr.alloc (U #[A o.bank,I (o.addr:Int),I (o.size:Int)] 51)=W1 at *;generalize wr.heap.size=b6 at *;have f0:=K0 a3;have e9:=K1 a3;have e8:=K2 a3;have y0:=K0 g;have y1:=K1 g;have y2:=K2 g;have y3:=K3 g;have y4:=K4 g;have y5:=K5 g;have m:=Ja (Jb c3 (r.out.trans (c3.mono r.out.size)));have HZ:=Ja (Jb a3 g);have a0:=kL ((HP.out.below m.out.2).mono m.out.2.size) o h6.out;unfold yH iz at a0;simp only at a0;have b4:=Ja a0;clear i6 a3 g c3 a0 d4 e0 e1 e2 x4;obtain⟨q1,c7⟩:∃q,sW p.banks.length o=q:=⟨_,rfl⟩
     rw[c7] at b4;have h4:=Ja c7;clear c7
     cases q1 with
     |false=>
      go_wp2_with (go_at_call 95;go_must (refine b4.out.mono ?_;rintro e w2 ⟨rfl,l⟩))
      go_ret;refine⟨rH ?_,m.out.2.trans (l.mono m.out.2.size)⟩;rw[d6.out]
      exact(h8.out (by rw[d8.out,h4.out];rfl)).symm
     |true=>
      go_upto_region 12 with(go_at_call 95;go_must (refine b4.out.mono ?_;rintro e w2 ⟨rfl,l⟩))
      have v4:=zA (i:=4) (v:=.slice (some ⟨b,oo,none⟩) p.data.length d2) (zH l HZ.out.2 (lt_of_block HZ.out.2)) Zs;have g9:=Ja (Jb (zH l HZ.out.1 (lt_of_block HZ.out.1)) l);have c4:=m.out.2.trans (l.mono m.out.2.size);have d:=Ja (Jb c4 (m.out.1.trans (l.mono m.out.1.size)));have j1:i<=d2:=Zo;clear f0 e9 e8 y0 y1 y2 y3 y4 y5 l c4;go_wp2
      go_loopw [37] (fun jv wx=>∃j:Nat,j<=i/\jv=A j/\Hid (F w2 wx/\lF o (p.data.take j)=true)) (fun jv _=>i-(intOf jv).toNat)
      case atStart=>exact⟨0,Jt _,rfl,Below.refl _ _,by rfl⟩
      case round=>
       obtain⟨j,hj,rfl,HJ⟩:=hrel
       by_cases b3:j<i
       ·have e6:(j:Int)<i:=Zo;have d9:=Ja b3;obtain⟨x,hx⟩:∃x,p.data[j]? =some x:=⟨_,Jd Zo⟩
        obtain⟨b',o',e',b9,b0,a7,a6,f5,f6,f4⟩:=h5.out.get hx;cases e';have c:=d.out.1.trans (HJ.out.1.mono d.out.1.size);have e0:=zV c b9 b0;have e1:=zV c b9 a7;have e2:=zV c b9 a6;have f3:=zH HJ.out.1 g9.out.1 (lt_of_block g9.out.1);have i0:=Ja (show I64 x.bank/\x.addr<65536/\x.size<65536 from⟨f5,f6,f4⟩);have a4:=xX (fun y=>!uK o y) hx;have f7:(p.data.take i)[j]? =some x:=by rw[Ug,if_pos b3];exact hx
        have a5:=fun h=>aaN (fun y=>!uK o y) f7 h
        have HT:=Ja (Jb a4 a5);have j2:=Ja c;clear hx b9 b0 a7 a6 f5 f6 f4 a4 a5 f7 b3 c;go_upto_region 15 with fail;have b5:=zI (W:=wr) (o:=U #[A x.bank,I (x.addr:Int),I (x.size:Int)] 51) rfl;have t:=zB (o:=U #[A x.bank,I (x.addr:Int),I (x.size:Int)] 51) f3;have g5:=HJ.out.1.alloc HJ.out.1.size (U #[A x.bank,I (x.addr:Int),I (x.size:Int)] 51);generalize i5:wr.alloc (U #[A x.bank,I (x.addr:Int),I (x.size:Int)] 51)=W8 at *;generalize wr.heap.size=b8 at *;have f0:=K0 t;have e9:=K1 t;have e8:=K2 t;have j5:=K0 b5;have j4:=K1 b5;have j3:=K2 b5;have d0:=nT W8 o x h6.out i0.out;unfold iz at d0;have d7:=Ja d0;have c2:=Ja g5;clear i5 b5 t f3 g5 d0 e0 e1 e2;obtain⟨q2,c5⟩:∃q,uK o x=q:=⟨_,rfl⟩
        rw[c5] at d7;have h0:=Ja c5;clear c5
        cases q2 with
        |true=>
         go_wp2_with (go_at_call 96;go_must (refine d7.out.mono ?_;rintro e w3 ⟨rfl,d5⟩))
         go_ret;have i3:=c2.out.trans (d5.mono c2.out.size);refine⟨rH ?_,d.out.1.trans (i3.mono d.out.1.size)⟩;rw[d6.out]
         exact(h8.out (by rw[d8.out];unfold lF;rw[HT.out.2 (by rw[h0.out];rfl),Uh])).symm
        |false=>
         go_wp2_with (go_at_call 96;go_must (refine d7.out.mono ?_;rintro e w3 ⟨rfl,d5⟩))
         go_roundw
         case rel=>exact⟨j+1,d9.out,by go_num,Ja ⟨c2.out.trans (d5.mono c2.out.size),by unfold lF;rw[HT.out.1];have:=HJ.out.2;unfold lF at this;rw[this,h0.out];rfl⟩⟩
         case measure=>have:=d9.out;simp[intOf];omega
       ·obtain rfl:j=i:=by omega
        have e6:¬(j:Int)<j:=Zo;go_wp2;go_roundw
        case rel=>
         refine⟨j+1,e5.out,by go_num,Ja ⟨d.out.2.trans (HJ.out.1.mono d.out.2.size),?_⟩⟩;rw[nU,HI.out.2,d8.out,h4.out,HJ.out.2];rfl
        case measure=>have:=e5.out;simp[intOf];omega
    ·obtain rfl:i=p.data.length:=by omega
     have e7:¬(p.data.length:Int)<p.data.length:=Zo;go_wp2;go_ret;refine⟨rH ?_,r.out.trans (HI.out.1.mono r.out.size)⟩;rw[d6.out];exact HI.out.2.symm
open Go.RowKit Go.Maps
theorem px (w:World):(zeroValue 3).run Try.prog w=.ok (A 0) w:=by kernel_rfl
def wA (w:World)(b n:Nat)(g:Int->Option Int):Prop:=
 ∃D:DataW Unit,w.ownsMap Try.prog 3 (plainElem Try.prog 3) b n D/\∀x,I64 x->D.atKey (.int .i64 x) (.lit (.int .i64 0))=.lit (.int .i64 ((g x).getD 0))/\Maps.has D (.int .i64 x)=(g x).isSome
theorem wA.made (w:World):wA (w.alloc (.map #[] 0)) w.heap.size 0 (fun _=>none):=⟨_,World.ownsMap_made _ _ _ _,fun _ _=>⟨rfl,rfl⟩⟩
theorem wA.blk{b n:Nat}{g:Int->Option Int}(h:wA w b n g):∃es clock,w.heap[b]? =some (.map es clock):=by
 obtain⟨D,⟨es,clock,h1,h2⟩,h3⟩:=h;exact⟨es,clock,h1⟩
theorem wA.same{b n:Nat}{g:Int->Option Int}(h:wA w b n g)(hb:w'.heap[b]? =w.heap[b]?):wA w' b n g:=by
 obtain⟨D,⟨es,c,h1,h2⟩,h3⟩:=h;exact⟨D,⟨es,c,hb.trans h1,h2⟩,h3⟩
theorem wA.look{b n:Nat}{g:Int->Option Int}(h:wA w b n g)(j:I64 x):
 (Instr.lookup 126 (.map (some b)) (.int .i64 x) false).run Try.prog w=.ok (.int .i64 ((g x).getD 0)) w:=by
 obtain⟨D,h,hf⟩:=h;obtain⟨c,i,d,k⟩:=h.lookup_int xH Try.underlying126 Try.underlying3 (px w) (vB j);rw[(hf x j).1] at d;simp only[DataW.lit.injEq,Lit.int.injEq,true_and] at d;subst d;exact i
theorem wA.lookOk{b n:Nat}{g:Int->Option Int}(h:wA w b n g)(i:I64 x):
 (Instr.lookup 126 (.map (some b)) (.int .i64 x) true).run Try.prog w=.ok (.tuple #[.int .i64 ((g x).getD 0),.bool (g x).isSome]) w:=by
 obtain⟨D,h,hf⟩:=h;obtain⟨v,ps,d,hv⟩:=h.look_ok xH Try.underlying126 (px w) (plainElem_int Try.underlying3 Zd) (vB i);rw[(hf x i).1] at hv;obtain⟨c,rfl,j,_⟩:=plainElem_int_inv Try.underlying3 hv;simp only[Prod.mk.injEq,DataW.lit.injEq,Lit.int.injEq,true_and] at j;rw[(hf x i).2,<-j.1] at d;exact d
def lS (g:Int->Option Int)(x v:Int):Int->Option Int:=fun y=>if y=x then some v else g y
theorem xY (n:Int):IntKind.u16.wrap n=n%65536:=by rw[IntKind.wrap_u16]
theorem mH (a:Nat)(h:a<65536):IntKind.i16.wrap (a:Int)=s16 a:=by
 unfold s16;show(if(true && decide ((a:Int)%2^16≥(2^15:Int))) then(a:Int)%2^16-2^16 else(a:Int)%2^16)=_;by_cases h2:a<32768
 ·rw[if_neg Zt,if_pos h2];omega
 ·rw[if_pos Zt,if_neg h2];omega
theorem aac (a:Nat)(h:a<65536):-32768<=s16 a/\s16 a<32768:=by unfold s16;split<;>omega
theorem ar5 (a b:Nat):IntKind.u16.wrap ((a:Int)+b)=((yW 5 a b:Nat):Int):=by rw[xY];show _=(((a+b)%65536:Nat):Int);omega
theorem ar6 (a b:Nat)(hb:b<65536):IntKind.u16.wrap ((a:Int)-b)=((yW 6 a b:Nat):Int):=by rw[xY];show _=(((a+(65536-b))%65536:Nat):Int);omega
theorem ar7 (a b:Nat):IntKind.u16.wrap ((a:Int)*b)=((yW 7 a b:Nat):Int):=by
 rw[xY];show _=((a*b%65536:Nat):Int);rw[Ou,Int.natCast_mul];rfl
theorem ar8 (a b:Nat)(c:a<65536):IntKind.u16.wrap ((a:Int)/b)=((yW 8 a b:Nat):Int):=by
 rw[xY];show _=((a/b:Nat):Int);rw[<-Int.natCast_ediv];have:=Nat.div_le_self a b;generalize a/b=x at *;omega
theorem ar9 (a b:Nat)(c:a<65536)(hb:b<65536):bits .and .u16 (a:Int) b=((yW 9 a b:Nat):Int):=(bits_nat .u16 16 Zd wraps_u16 a b c hb).1
theorem ar10 (a b:Nat)(c:a<65536)(hb:b<65536):bits .or .u16 (a:Int) b=((yW 10 a b:Nat):Int):=(bits_nat .u16 16 Zd wraps_u16 a b c hb).2
theorem ar11 (a b:Nat)(c:a<65536)(hb:b<65536):bits .xor .u16 (a:Int) b=((yW 11 a b:Nat):Int):=by
 show IntKind.u16.wrap (((BitVec.ofInt 16 (a:Int))^^^(BitVec.ofInt 16 (b:Int))).toNat:Int)=((a^^^b:Nat):Int)
 have e1:(BitVec.ofInt 16 (a:Int)).toNat=a:=by rw[BitVec.ofInt_natCast,BitVec.toNat_ofNat];exact Nat.mod_eq_of_lt c
 have e2:(BitVec.ofInt 16 (b:Int)).toNat=b:=by rw[BitVec.ofInt_natCast,BitVec.toNat_ofNat];exact Nat.mod_eq_of_lt hb
 rw[BitVec.toNat_xor,e1,e2,xY];have:a^^^b<65536:=Nat.xor_lt_two_pow (n:=16) c hb;generalize a^^^b=x at *;omega
theorem ar12 (a b:Nat):IntKind.u16.wrap ((a:Int)*2^(b%16))=((yW 12 a b:Nat):Int):=by
 rw[xY];show _=((a*2^(b%16)%65536:Nat):Int);rw[Ou,Int.natCast_mul,Int.natCast_pow];rfl
theorem ar13 (a b:Nat):(a:Int)/2^(b%16)=((yW 13 a b:Nat):Int):=by
 show _=((a/2^(b%16):Nat):Int);rw[Int.natCast_ediv,Int.natCast_pow];rfl
theorem ar14 (a b:Nat)(c:a<65536):IntKind.u16.wrap (IntKind.i16.wrap (a:Int)/2^(b%16))=((yW 14 a b:Nat):Int):=by
 rw[mH a c,xY];show _=((((s16 a/2^(b%16))%65536).toNat:Nat):Int);omega
theorem ar15 (a b:Nat):(iw ((a:Int)==(b:Int)):Nat)=yW 15 a b:=by
 show _=iw (decide (a=b));congr 1;rw[Bool.eq_iff_iff,beq_iff_eq,decide_eq_true_eq];omega
theorem ar17 (a b:Nat)(c:a<65536)(hb:b<65536):(iw (decide (IntKind.i16.wrap (a:Int)<IntKind.i16.wrap (b:Int))):Nat)=yW 17 a b:=by
 rw[mH a c,mH b hb];rfl
theorem jz (c:Int)(a b:Nat)(g:a<65536)(hb:b<65536):yW c a b<65536:=by
 have k:∀x,a/x<65536:=fun x=>Nat.lt_of_le_of_lt (Nat.div_le_self _ _) g
 have hm:∀x,x%65536<65536:=fun x=>Qj _ Zd
 have d:∀b,iw b<65536:=fun b=>by cases b<;>decide
 unfold yW
 by_cases c5:c=5;· rw[if_pos c5];exact hm _
 rw[if_neg c5];by_cases c6:c=6;· rw[if_pos c6];exact hm _
 rw[if_neg c6];by_cases c7:c=7;· rw[if_pos c7];exact hm _
 rw[if_neg c7];by_cases c8:c=8;· rw[if_pos c8];exact k _
 rw[if_neg c8];by_cases c9:c=9;· rw[if_pos c9];exact Nat.lt_of_le_of_lt Nat.and_le_left g
 rw[if_neg c9];by_cases c10:c=10;· rw[if_pos c10];exact Nat.or_lt_two_pow (n:=16) g hb
 rw[if_neg c10];by_cases c11:c=11;· rw[if_pos c11];exact Nat.xor_lt_two_pow (n:=16) g hb
 rw[if_neg c11];by_cases c12:c=12;· rw[if_pos c12];exact hm _
 rw[if_neg c12];by_cases c13:c=13;· rw[if_pos c13];exact k _
 rw[if_neg c13];by_cases j:c=14;· rw[if_pos j];omega
 rw[if_neg j];by_cases i:c=15;· rw[if_pos i];exact d _
 rw[if_neg i];by_cases h:c=16;· rw[if_pos h];exact d _
 rw[if_neg h];exact d _
theorem qD (b:Bool)(w:World):Y 123 #[.bool b] w fun e w'=>e=.returned (I (iw b:Nat))/\w=w':=by
 cases b<;>go_enter Try.func123,Try.ntmps123<;>go_wp2<;>go_ret<;>exact⟨rfl,rfl⟩
theorem arith_5 (a b:Nat)(c:a<65536)(hb:b<65536)(w:World):Y 111 #[A 5,I a,I b] w fun e w'=>e=.returned (I (yW 5 a b:Nat))/\w=w':=by
 go_enter Try.func111,Try.ntmps111;go_wp2
 all_goals go_ret
 all_goals refine⟨zh ?_,rfl⟩
 all_goals exact ar5 a b
theorem arith_6 (a b:Nat)(c:a<65536)(hb:b<65536)(w:World):Y 111 #[A 6,I a,I b] w fun e w'=>e=.returned (I (yW 6 a b:Nat))/\w=w':=by
 go_enter Try.func111,Try.ntmps111;go_wp2
 all_goals go_ret
 all_goals refine⟨zh ?_,rfl⟩
 all_goals exact ar6 a b hb
theorem arith_7 (a b:Nat)(c:a<65536)(hb:b<65536)(w:World):Y 111 #[A 7,I a,I b] w fun e w'=>e=.returned (I (yW 7 a b:Nat))/\w=w':=by
 go_enter Try.func111,Try.ntmps111;go_wp2
 all_goals go_ret
 all_goals refine⟨zh ?_,rfl⟩
 all_goals exact ar7 a b
theorem arith_8 (a b:Nat)(c:a<65536)(hb:b<65536)(d:b≠0)(w:World):Y 111 #[A 8,I a,I b] w fun e w'=>e=.returned (I (yW 8 a b:Nat))/\w=w':=by
 have h1:((b:Int)==0)=false:=Ze;have h2:¬(b:Int)=0:=Zo;clear d;go_enter Try.func111,Try.ntmps111;go_wp2
 all_goals go_ret
 all_goals refine⟨zh ?_,rfl⟩
 all_goals exact ar8 a b c
theorem arith_80 (a:Nat)(w:World):Y 111 #[A 8,I a,I ((0:Nat):Int)] w fun e w'=>e=.panicked [oE 4 0]/\w=w':=by
 go_enter Try.func111,Try.ntmps111;go_wp2_with (go_at_call 80;go_must (refine(wj 4 0 _).mono ?_;rintro e w' ⟨rfl,rfl⟩))
 exact⟨rfl,rfl,rfl⟩
theorem arith_9 (a b:Nat)(c:a<65536)(hb:b<65536)(w:World):Y 111 #[A 9,I a,I b] w fun e w'=>e=.returned (I (yW 9 a b:Nat))/\w=w':=by
 go_enter Try.func111,Try.ntmps111;go_wp2
 all_goals go_ret
 all_goals refine⟨zh ?_,rfl⟩
 all_goals exact ar9 a b c hb
theorem arith_10 (a b:Nat)(c:a<65536)(hb:b<65536)(w:World):Y 111 #[A 10,I a,I b] w fun e w'=>e=.returned (I (yW 10 a b:Nat))/\w=w':=by
 go_enter Try.func111,Try.ntmps111;go_wp2
 all_goals go_ret
 all_goals refine⟨zh ?_,rfl⟩
 all_goals exact ar10 a b c hb
theorem arith_11 (a b:Nat)(c:a<65536)(hb:b<65536)(w:World):Y 111 #[A 11,I a,I b] w fun e w'=>e=.returned (I (yW 11 a b:Nat))/\w=w':=by
 go_enter Try.func111,Try.ntmps111;go_wp2
 all_goals go_ret
 all_goals refine⟨zh ?_,rfl⟩
 all_goals exact ar11 a b c hb
theorem arith_12 (a b:Nat)(c:a<65536)(hb:b<65536)(w:World):Y 111 #[A 12,I a,I b] w fun e w'=>e=.returned (I (yW 12 a b:Nat))/\w=w':=by
 go_enter Try.func111,Try.ntmps111;go_wp2
 all_goals go_ret
 all_goals refine⟨zh ?_,rfl⟩
 all_goals exact ar12 a b
theorem arith_13 (a b:Nat)(c:a<65536)(hb:b<65536)(w:World):Y 111 #[A 13,I a,I b] w fun e w'=>e=.returned (I (yW 13 a b:Nat))/\w=w':=by
 go_enter Try.func111,Try.ntmps111;go_wp2
 all_goals go_ret
 all_goals refine⟨zh ?_,rfl⟩
 all_goals exact ar13 a b
theorem arith_14 (a b:Nat)(c:a<65536)(hb:b<65536)(w:World):Y 111 #[A 14,I a,I b] w fun e w'=>e=.returned (I (yW 14 a b:Nat))/\w=w':=by
 go_enter Try.func111,Try.ntmps111;go_wp2
 all_goals go_ret
 all_goals refine⟨zh ?_,rfl⟩
 all_goals exact ar14 a b c
theorem arith_15 (a b:Nat)(c:a<65536)(hb:b<65536)(w:World):Y 111 #[A 15,I a,I b] w fun e w'=>e=.returned (I (yW 15 a b:Nat))/\w=w':=by
 go_enter Try.func111,Try.ntmps111;go_wp2_with (go_at_call 123;go_must (refine(qD _ _).mono ?_;rintro e w' ⟨rfl,rfl⟩))
 all_goals go_ret
 all_goals refine⟨zh ?_,rfl⟩
 all_goals exact congrArg _ (ar15 a b)
theorem arith_16 (a b:Nat)(c:a<65536)(hb:b<65536)(w:World):Y 111 #[A 16,I a,I b] w fun e w'=>e=.returned (I (yW 16 a b:Nat))/\w=w':=by
 go_enter Try.func111,Try.ntmps111;go_wp2_with (go_at_call 123;go_must (refine(qD _ _).mono ?_;rintro e w' ⟨rfl,rfl⟩))
 all_goals go_ret
 all_goals refine⟨zh ?_,rfl⟩
 all_goals exact rfl
theorem arith_17 (a b:Nat)(c:a<65536)(hb:b<65536)(w:World):Y 111 #[A 17,I a,I b] w fun e w'=>e=.returned (I (yW 17 a b:Nat))/\w=w':=by
 go_enter Try.func111,Try.ntmps111;go_wp2_with (go_at_call 123;go_must (refine(qD _ _).mono ?_;rintro e w' ⟨rfl,rfl⟩))
 all_goals go_ret
 all_goals refine⟨zh ?_,rfl⟩
 all_goals exact congrArg _ (ar17 a b c hb)
def rq (c:Int)(a b:Nat)(w:World)(e:Ending)(w':World):Prop:=e=(if c=8/\b=0 then .panicked [oE 4 0] else .returned (I (yW c a b:Nat)))/\w=w'
theorem jD (c:Int)(i:5<=c/\c<=17)(a b:Nat)(d:a<65536)(hb:b<65536)(w:World):Y 111 #[A c,I a,I b] w (rq c a b w):=by
 unfold rq;have h:c=5∨c=6∨c=7∨c=8∨c=9∨c=10∨c=11∨c=12∨c=13∨c=14∨c=15∨c=16∨c=17:=Zo;rcases h with rfl|rfl|rfl|rfl|rfl|rfl|rfl|rfl|rfl|rfl|rfl|rfl|rfl
 ·rw[if_neg Zo];exact arith_5 a b d hb w
 ·rw[if_neg Zo];exact arith_6 a b d hb w
 ·rw[if_neg Zo];exact arith_7 a b d hb w
 ·by_cases g:b=0
  ·subst g;rw[if_pos ⟨rfl,rfl⟩];exact arith_80 a w
  ·rw[if_neg (fun h=>g h.2)];exact arith_8 a b d hb g w
 ·rw[if_neg Zo];exact arith_9 a b d hb w
 ·rw[if_neg Zo];exact arith_10 a b d hb w
 ·rw[if_neg Zo];exact arith_11 a b d hb w
 ·rw[if_neg Zo];exact arith_12 a b d hb w
 ·rw[if_neg Zo];exact arith_13 a b d hb w
 ·rw[if_neg Zo];exact arith_14 a b d hb w
 ·rw[if_neg Zo];exact arith_15 a b d hb w
 ·rw[if_neg Zo];exact arith_16 a b d hb w
 ·rw[if_neg Zo];exact arith_17 a b d hb w
def y9 (l:List Nat):ByteArray:=strOfNums (l.map fun(n:Nat)=>(n:Int))
def yV (x:Nat)(ov:Value)(k i:Nat)(s:ByteArray)(inp pol:Nat):Array Value:=#[I x,ov,A k,I i,.string s,A inp,A pol]
theorem mp{b:Nat}(h:L w b (l.map wz).toArray 5)(hl:l.length=8192):
 (convert 37 9 (N b 8192 8192)).run Try.prog w=.ok (.string (y9 l)) w:=by
 refine run_convert_bytes_arg w 37 5 Try.underlying37 Try.underlying5 b 0 8192 8192 (l.map fun(n:Nat)=>(n:Int)) (by simpa using hl) (fun i hi=>?_) 9 Try.underlying9;rw[Ng];have c:i<l.length:=Zo;refine zA h ?_;simp[Jj,Jd c,wz]
theorem zu{b:Nat}(h:w.grownBy w' (some b))(j:Nat)(v:Value):w.grownBy (w'.setCell ⟨b,j,none⟩ v) (some b):=
 ⟨h.os,h.tape,h.output,by have:=h.size;simpa[World.setCell] using this,fun q hq hn=>by rw[Below.heap_setCell _ _ _ _ (by simpa using hn)];exact h.block q hq hn⟩
structure FinS (K:MK) (m:Mach) (ov:Value) (b13 bt:Nat) (k i:Nat) (w':World):Prop where
 c13:w'.cell? ⟨b13,0,none⟩=some (.pointer (some ⟨K.pm,0,none⟩))
 c6:w'.cell? ⟨K.pm,6,none⟩=some (.slice (some ⟨K.rb,0,none⟩) 8192 8192)
 c10:w'.cell? ⟨K.pm,10,none⟩=some ov
 c11:w'.cell? ⟨K.pm,11,none⟩=some (.int .i64 (m.inputs:Int))
 c12:w'.cell? ⟨K.pm,12,none⟩=some (.int .i64 (m.polls:Int))
 t0:w'.cell? ⟨bt,0,none⟩=some (.int .i64 (k:Int))
 t1:w'.cell? ⟨bt,1,none⟩=some (.int .u16 (i:Int))
 ram:w'.heap[K.rb]? =some (.cells (m.ram.map wz).toArray 5 (0,0))
theorem FinS.set{ov:Value}(h:FinS K m ov b13 bt k i w')(n1:b12≠b13)(n2:b12≠K.pm)(n3:b12≠bt)(n4:b12≠K.rb)(j:Nat)(v:Value):FinS K m ov b13 bt k i (w'.setCell ⟨b12,j,none⟩ v):=by
 have c:∀ {b q:Nat} {x:Value},b12≠b->G w' b q x->G (w'.setCell ⟨b12,j,none⟩ v) b q x:=fun hn hc=>by
  rw[Oo (w:=w') (Below.heap_setCell _ _ _ _ (by simpa using Ne.symm hn))];exact hc
 exact⟨c n1 h.c13,c n2 h.c6,c n2 h.c10,c n2 h.c11,c n2 h.c12,c n3 h.t0,c n3 h.t1,zR h.ram (by simpa using Ne.symm n4)⟩
theorem FinS.drew{ov:Value}(h:FinS K m ov b13 bt k i w'):FinS K m ov b13 bt k i w'.drew:=⟨h.c13,h.c6,h.c10,h.c11,h.c12,h.t0,h.t1,h.ram⟩
theorem FinS.all{oa:Option Addr}{oc:Nat}(hrl:m.ram.length=8192)(h:FinS K m (.slice oa m.out.length oc) b13 bt k i w'):G w' b13 0 (Q K.pm)/\G w' K.pm 6 (N K.rb 8192 8192)/\G w' K.pm 10 (.slice oa m.out.length oc)/\G w' K.pm 11 (A (m.inputs:Int))/\G w' K.pm 12 (A (m.polls:Int))/\G w' bt 0 (A k)/\G w' bt 1 (I i)/\(convert 37 9 (N K.rb 8192 8192)).run Try.prog w'=.ok (.string (y9 m.ram)) w':=⟨h.c13,h.c6,h.c10,h.c11,h.c12,h.t0,h.t1,mp h.ram hrl⟩
theorem pE{ov:Value}(h:MachAt w K m ov)(a0:L w b13 #[Q K.pm] 102)(l:L w b12 #[I 0,O,A 0,I 0,.string {data:=#[]},A 0,A 0] 57)(k i x:Nat):
 Y 50 #[.agg #[A k,I i],I x,Q b13,Q b12] w fun e w'=>
  e=.returned (.tuple #[])/\L w' b12 (yV x ov k i (y9 m.ram) m.inputs m.polls) 57/\w.grownBy w' (some b12):=by
 obtain⟨oa,oc,rfl⟩:=zG h.out;have hrl:=h.rlen;have n1:b12≠b13:=by rintro rfl;rw[l] at a0;simp at a0
 have n2:b12≠K.pm:=by rintro rfl;rw[h.blk] at l;simp[r9] at l
 have n4:b12≠K.rb:=by
  rintro rfl;rw[h.ram] at l;have:=congrArg (fun o=>match o with|some (Obj.cells _ t _)=>t|_=>0) l;simp at this
 have n3:b12≠w.heap.size:=by have:=lt_of_block l;omega
 have b:=(Below.refl w.heap.size w).alloc (Je _) (U #[A k,I i] 55);have hM:=h.keep b
 have r:FinS K m (.slice oa m.out.length oc) b13 w.heap.size k i (w.alloc (U #[A k,I i] 55)):=
  ⟨zA (zB a0) Zs,hM.c6,hM.c10,hM.c11,hM.c12,zA (zI rfl) Zs,zA (zI rfl) Zs,hM.ram⟩
 have c:=zB (o:=U #[A k,I i] 55) l;have f7:w.grownBy (w.alloc (U #[A k,I i] 55)) (some b12):=Uo w _ _;have d0:G (w.alloc (U #[A k,I i] 55)) b12 0 (I 0):=zA c Zs;have f0:T (w.alloc (U #[A k,I i] 55)) b12 0:=zE c;have d1:G (w.alloc (U #[A k,I i] 55)) b12 1 (O):=zA c Zs;have f1:T (w.alloc (U #[A k,I i] 55)) b12 1:=zE c;have d2:G (w.alloc (U #[A k,I i] 55)) b12 2 (A 0):=zA c Zs;have f2:T (w.alloc (U #[A k,I i] 55)) b12 2:=zE c;have d3:G (w.alloc (U #[A k,I i] 55)) b12 3 (I 0):=zA c Zs;have f3:T (w.alloc (U #[A k,I i] 55)) b12 3:=zE c;have d4:G (w.alloc (U #[A k,I i] 55)) b12 4 (.string {data:=#[]}):=zA c Zs;have f4:T (w.alloc (U #[A k,I i] 55)) b12 4:=zE c;have d5:G (w.alloc (U #[A k,I i] 55)) b12 5 (A 0):=zA c Zs;have f5:T (w.alloc (U #[A k,I i] 55)) b12 5:=zE c;have d6:G (w.alloc (U #[A k,I i] 55)) b12 6 (A 0):=zA c Zs;have f6:T (w.alloc (U #[A k,I i] 55)) b12 6:=zE c;have HG:=Ja f7;have HB:=Ja c;clear h hM b a0 l f7 c;go_enter Try.func50,Try.ntmps50;go_upto_region 1 with fail;generalize hW:w.alloc (U #[A k,I i] 55)=W at *;generalize w.heap.size=bt at *;have y:∀w',FinS K m (.slice oa m.out.length oc) b13 bt k i w'->(convert 37 9 (N K.rb 8192 8192)).run Try.prog w'=.ok (.string (y9 m.ram)) w':=fun w' hs=>mp hs.ram hrl
 have c1:=r.c13;have c2:=r.c6;have c3:=r.c10;have c4:=r.c11;have c5:=r.c12;have c6:=r.t0;have c7:=r.t1;have cc:=y _ r;have a6:∀(w':World) (j:Nat) (v:Value),FinS K m (.slice oa m.out.length oc) b13 bt k i w'->FinS K m (.slice oa m.out.length oc) b13 bt k i (w'.setCell ⟨b12,j,none⟩ v):=fun w' j v hs=>hs.set n1 n2 n3 n4 j v
 have d:=Ja a6;have i1:=Ja y;have HS:=Ja r;clear a6 y r hW;refine wp_region_noPanic ?_;refine wp_region_held_drew (S:=(fun w'=>G w' b13 0 (Q K.pm)/\G w' K.pm 6 (N K.rb 8192 8192)/\G w' K.pm 10 (.slice oa m.out.length oc)/\G w' K.pm 11 (A (m.inputs:Int))/\G w' K.pm 12 (A (m.polls:Int))/\G w' bt 0 (A k)/\G w' bt 1 (I i)/\(convert 37 9 (N K.rb 8192 8192)).run Try.prog w'=.ok (.string (y9 m.ram)) w')) Zk (HS.out.drew.all hrl) (fun hHeld=>?_);have f8:=Ja HS.out.drew;have g:=Ja (show W.drew.heap[b12]? =_ from HB.out);have h7:=Ja (show w.grownBy W.drew (some b12) from⟨HG.out.os,HG.out.tape,HG.out.output,HG.out.size,HG.out.block⟩);clear c1 c2 c3 c4 c5 c6 c7 cc HS HB HG d0 f0 d1 f1 d2 f2 d3 f3 d4 f4 d5 f5 d6 f6;generalize W.drew=Wa at *;refine Th 0 ?_
 try simp only[Yp]
 refine Th 1 ?_
 try simp only[Yp]
 refine Th 2 ?_
 try simp only[Yp]
 refine Th 3 ?_
 try simp only[Yp]
 refine Th 4 ?_
 try simp only[Yp]
 refine Th 5 ?_
 try simp only[Yp]
 refine Th 6 ?_
 try simp only[Yp]
 refine Th 7 ?_
 try simp only[Yp]
 refine Th 8 ?_
 try simp only[Yp]
 refine Th 9 ?_
 try simp only[Yp]
 refine Th 10 ?_
 try simp only[Yp]
 refine Th 11 ?_
 try simp only[Yp]
 refine Th 12 ?_
 try simp only[Yp]
 refine Th 13 ?_
 try simp only[Yp]
 refine Th 14 ?_
 try simp only[Yp]
 refine Th 15 ?_
 try simp only[Yp]
 refine Th 16 ?_
 try simp only[Yp]
 refine Th 17 ?_
 try simp only[Yp]
 refine Th 18 ?_
 try simp only[Yp]
 have e0:=K0 g.out;have g0:T Wa b12 0:=zE g.out;have e1:=K1 g.out;have g1:T Wa b12 1:=zE g.out;have e2:=K2 g.out;have g2:T Wa b12 2:=zE g.out;have e3:=K3 g.out;have g3:T Wa b12 3:=zE g.out;have e4:=K4 g.out;have g4:T Wa b12 4:=zE g.out;have e5:=K5 g.out;have g5:T Wa b12 5:=zE g.out;have e6:=K6 g.out;have g6:T Wa b12 6:=zE g.out;refine wpAnyH_ready (rs:=[19]) Zk Zs ?_;refine AllReadyH.cons (o:=_) rfl (fun K hK=>?_) ?_
 ·skip
  go_simp;have e9:=Ja (d.out ((((((Wa.setCell ⟨b12,0,none⟩ (I 0)).setCell ⟨b12,1,none⟩ (O)).setCell ⟨b12,2,none⟩ (A 0)).setCell ⟨b12,3,none⟩ (I 0)).setCell ⟨b12,4,none⟩ (.string {data:=#[]})).setCell ⟨b12,5,none⟩ (A 0)) 6 (A 0) (d.out (((((Wa.setCell ⟨b12,0,none⟩ (I 0)).setCell ⟨b12,1,none⟩ (O)).setCell ⟨b12,2,none⟩ (A 0)).setCell ⟨b12,3,none⟩ (I 0)).setCell ⟨b12,4,none⟩ (.string {data:=#[]})) 5 (A 0) (d.out ((((Wa.setCell ⟨b12,0,none⟩ (I 0)).setCell ⟨b12,1,none⟩ (O)).setCell ⟨b12,2,none⟩ (A 0)).setCell ⟨b12,3,none⟩ (I 0)) 4 (.string {data:=#[]}) (d.out (((Wa.setCell ⟨b12,0,none⟩ (I 0)).setCell ⟨b12,1,none⟩ (O)).setCell ⟨b12,2,none⟩ (A 0)) 3 (I 0) (d.out ((Wa.setCell ⟨b12,0,none⟩ (I 0)).setCell ⟨b12,1,none⟩ (O)) 2 (A 0) (d.out (Wa.setCell ⟨b12,0,none⟩ (I 0)) 1 (O) (d.out Wa 0 (I 0) f8.out)))))));have c9:L (Wa.setCell ⟨b12,0,none⟩ (I 0)) b12 #[I 0,O,A 0,I 0,.string {data:=#[]},A 0,A 0] 57:=by rw[zD g.out];rfl
  have c8:L ((Wa.setCell ⟨b12,0,none⟩ (I 0)).setCell ⟨b12,1,none⟩ (O)) b12 #[I 0,O,A 0,I 0,.string {data:=#[]},A 0,A 0] 57:=by rw[zD c9];rfl
  have c0:L (((Wa.setCell ⟨b12,0,none⟩ (I 0)).setCell ⟨b12,1,none⟩ (O)).setCell ⟨b12,2,none⟩ (A 0)) b12 #[I 0,O,A 0,I 0,.string {data:=#[]},A 0,A 0] 57:=by rw[zD c8];rfl
  have b9:L ((((Wa.setCell ⟨b12,0,none⟩ (I 0)).setCell ⟨b12,1,none⟩ (O)).setCell ⟨b12,2,none⟩ (A 0)).setCell ⟨b12,3,none⟩ (I 0)) b12 #[I 0,O,A 0,I 0,.string {data:=#[]},A 0,A 0] 57:=by rw[zD c0];rfl
  have b8:L (((((Wa.setCell ⟨b12,0,none⟩ (I 0)).setCell ⟨b12,1,none⟩ (O)).setCell ⟨b12,2,none⟩ (A 0)).setCell ⟨b12,3,none⟩ (I 0)).setCell ⟨b12,4,none⟩ (.string {data:=#[]})) b12 #[I 0,O,A 0,I 0,.string {data:=#[]},A 0,A 0] 57:=by rw[zD b9];rfl
  have b7:L ((((((Wa.setCell ⟨b12,0,none⟩ (I 0)).setCell ⟨b12,1,none⟩ (O)).setCell ⟨b12,2,none⟩ (A 0)).setCell ⟨b12,3,none⟩ (I 0)).setCell ⟨b12,4,none⟩ (.string {data:=#[]})).setCell ⟨b12,5,none⟩ (A 0)) b12 #[I 0,O,A 0,I 0,.string {data:=#[]},A 0,A 0] 57:=by rw[zD b8];rfl
  have b6:L (((((((Wa.setCell ⟨b12,0,none⟩ (I 0)).setCell ⟨b12,1,none⟩ (O)).setCell ⟨b12,2,none⟩ (A 0)).setCell ⟨b12,3,none⟩ (I 0)).setCell ⟨b12,4,none⟩ (.string {data:=#[]})).setCell ⟨b12,5,none⟩ (A 0)).setCell ⟨b12,6,none⟩ (A 0)) b12 #[I 0,O,A 0,I 0,.string {data:=#[]},A 0,A 0] 57:=by rw[zD b7];rfl
  have a5:=Ja b6;have h6:=Ja (zu (zu (zu (zu (zu (zu (zu h7.out 0 (I 0)) 1 (O)) 2 (A 0)) 3 (I 0)) 4 (.string {data:=#[]})) 5 (A 0)) 6 (A 0));refine hK.out _ _ (FinS.all hrl e9.out) (fun hHeld=>?_);clear hK K e0 g0 e1 g1 e2 g2 e3 g3 e4 g4 e5 g5 e6 g6 c9 c8 c0 b9 b8 b7 b6 f8 g h7
  try simp only[Yp]
  generalize (((((((Wa.setCell ⟨b12,0,none⟩ (I 0)).setCell ⟨b12,1,none⟩ (O)).setCell ⟨b12,2,none⟩ (A 0)).setCell ⟨b12,3,none⟩ (I 0)).setCell ⟨b12,4,none⟩ (.string {data:=#[]})).setCell ⟨b12,5,none⟩ (A 0)).setCell ⟨b12,6,none⟩ (A 0))=Wb at *;refine Th 20 ?_
  try simp only[Yp]
  have e0:=K0 a5.out;have g0:T Wb b12 0:=zE a5.out;refine wpAnyH_ready (rs:=[21]) Zk Zs ?_;refine AllReadyH.cons (o:=_) rfl (fun K hK=>?_) ?_
  ·skip
   go_simp;have e8:=Ja (d.out Wb 0 (I x) e9.out);have b5:L (Wb.setCell ⟨b12,0,none⟩ (I x)) b12 #[I x,O,A 0,I 0,.string {data:=#[]},A 0,A 0] 57:=by rw[zD a5.out];rfl
   have a4:=Ja b5;have h5:=Ja (zu h6.out 0 (I x));refine hK.out _ _ (FinS.all hrl e8.out) (fun hHeld=>?_);clear hK K e0 g0 b5 e9 a5 h6
   try simp only[Yp]
   generalize (Wb.setCell ⟨b12,0,none⟩ (I x))=Wc at *;refine Th 22 ?_
   try simp only[Yp]
   have e1:=K1 a4.out;have g1:T Wc b12 1:=zE a4.out;refine wpAnyH_ready (rs:=[23]) Zk Zs ?_;refine AllReadyH.cons (o:=_) rfl (fun K hK=>?_) ?_
   ·skip
    go_simp;have e7:=Ja (d.out Wc 1 (.slice oa m.out.length oc) e8.out);have b4:L (Wc.setCell ⟨b12,1,none⟩ (.slice oa m.out.length oc)) b12 #[I x,.slice oa m.out.length oc,A 0,I 0,.string {data:=#[]},A 0,A 0] 57:=by rw[zD a4.out];rfl
    have u:=Ja b4;have h4:=Ja (zu h5.out 1 (.slice oa m.out.length oc));refine hK.out _ _ (FinS.all hrl e7.out) (fun hHeld=>?_);clear hK K e1 g1 b4 e8 a4 h5
    try simp only[Yp]
    generalize (Wc.setCell ⟨b12,1,none⟩ (.slice oa m.out.length oc))=Wd at *;refine Th 24 ?_
    try simp only[Yp]
    have e2:=K2 u.out;have g2:T Wd b12 2:=zE u.out;have e3:=K3 u.out;have g3:T Wd b12 3:=zE u.out;refine wpAnyH_ready (rs:=[25]) Zk Zs ?_;refine AllReadyH.cons (o:=_) rfl (fun K hK=>?_) ?_
    ·skip
     go_simp;have d9:=Ja (d.out (Wd.setCell ⟨b12,2,none⟩ (A k)) 3 (I i) (d.out Wd 2 (A k) e7.out));have b3:L (Wd.setCell ⟨b12,2,none⟩ (A k)) b12 #[I x,.slice oa m.out.length oc,A k,I 0,.string {data:=#[]},A 0,A 0] 57:=by rw[zD u.out];rfl
     have b2:L ((Wd.setCell ⟨b12,2,none⟩ (A k)).setCell ⟨b12,3,none⟩ (I i)) b12 #[I x,.slice oa m.out.length oc,A k,I i,.string {data:=#[]},A 0,A 0] 57:=by rw[zD b3];rfl
     have a3:=Ja b2;have h0:=Ja (zu (zu h4.out 2 (A k)) 3 (I i));refine hK.out _ _ (FinS.all hrl d9.out) (fun hHeld=>?_);clear hK K e2 g2 e3 g3 b3 b2 e7 u h4
     try simp only[Yp]
     generalize ((Wd.setCell ⟨b12,2,none⟩ (A k)).setCell ⟨b12,3,none⟩ (I i))=We at *;refine Th 26 ?_
     try simp only[Yp]
     have e4:=K4 a3.out;have g4:T We b12 4:=zE a3.out;refine wpAnyH_ready (rs:=[27]) Zk Zs ?_;refine AllReadyH.cons (o:=_) rfl (fun K hK=>?_) ?_
     ·skip
      go_simp;have d8:=Ja (d.out We 4 (.string (y9 m.ram)) d9.out);have b1:L (We.setCell ⟨b12,4,none⟩ (.string (y9 m.ram))) b12 #[I x,.slice oa m.out.length oc,A k,I i,.string (y9 m.ram),A 0,A 0] 57:=by rw[zD a3.out];rfl
      have a2:=Ja b1;have g9:=Ja (zu h0.out 4 (.string (y9 m.ram)));refine hK.out _ _ (FinS.all hrl d8.out) (fun hHeld=>?_);clear hK K e4 g4 b1 d9 a3 h0
      try simp only[Yp]
      generalize (We.setCell ⟨b12,4,none⟩ (.string (y9 m.ram)))=Wf at *;refine Th 28 ?_
      try simp only[Yp]
      have e5:=K5 a2.out;have g5:T Wf b12 5:=zE a2.out;refine wpAnyH_ready (rs:=[29]) Zk Zs ?_;refine AllReadyH.cons (o:=_) rfl (fun K hK=>?_) ?_
      ·skip
       go_simp;have d7:=Ja (d.out Wf 5 (A (m.inputs:Int)) d8.out);have b0:L (Wf.setCell ⟨b12,5,none⟩ (A (m.inputs:Int))) b12 #[I x,.slice oa m.out.length oc,A k,I i,.string (y9 m.ram),A (m.inputs:Int),A 0] 57:=by rw[zD a2.out];rfl
       have a1:=Ja b0;have f9:=Ja (zu g9.out 5 (A (m.inputs:Int)));refine hK.out _ _ (FinS.all hrl d7.out) (fun hHeld=>?_);clear hK K e5 g5 b0 d8 a2 g9
       try simp only[Yp]
       generalize (Wf.setCell ⟨b12,5,none⟩ (A (m.inputs:Int)))=Wg at *;refine Th 30 ?_
       try simp only[Yp]
       have e6:=K6 a1.out;have g6:T Wg b12 6:=zE a1.out;refine wpAnyH_ready (rs:=[31]) Zk Zs ?_;refine AllReadyH.cons (o:=_) rfl (fun K hK=>?_) ?_
       ·skip
        go_simp;have h8:=Ja (d.out Wg 6 (A (m.polls:Int)) d7.out);have a7:L (Wg.setCell ⟨b12,6,none⟩ (A (m.polls:Int))) b12 #[I x,.slice oa m.out.length oc,A k,I i,.string (y9 m.ram),A (m.inputs:Int),A (m.polls:Int)] 57:=by rw[zD a1.out];rfl
        have i0:=Ja a7;have h9:=Ja (zu f9.out 6 (A (m.polls:Int)));refine hK.out _ _ (FinS.all hrl h8.out) (fun hHeld=>?_);clear hK K e6 g6 a7 d7 a1 f9
        try simp only[Yp]
        generalize (Wg.setCell ⟨b12,6,none⟩ (A (m.polls:Int)))=Wh at *;refine wpAnyH_done Zk (NoPanic.normal ?_) _;go_wp2
        go_end0
        exact⟨rfl,i0.out,h9.out⟩
       ·exact AllReadyH.nil
      ·exact AllReadyH.nil
     ·exact AllReadyH.nil
    ·exact AllReadyH.nil
   ·exact AllReadyH.nil
  ·exact AllReadyH.nil
 ·exact AllReadyH.nil
open Go.RowKit Go.Maps Go.ChangeMaps
theorem wA.entry{b n:Nat}{g:Int->Option Int}(h:wA w b n g)(hn:n<9000000000000000000){kx vv:Int}(k:I64 kx)(a7:I64 vv)(b0:g kx=none):
 ∃(st:Nat) (w1 w2:World),(Instr.mapEntry 126 (.map (some b)) (.int .i64 kx)).run Try.prog w=.ok (.tuple #[.int .i64 0,goInt st]) w1/\w.grownBy w1 (some b)/\
  (Instr.entryStore 126 (.map (some b)) (goInt st) (.int .i64 vv)).run Try.prog w1=.ok () w2/\wA w2 b (n+1) (lS g kx vv)/\w.grownBy w2 (some b):=by
 have r:=h.lookOk k;rw[b0] at r
 have a3:∃w',(Instr.mapUpdate 126 (.map (some b)) (.int .i64 kx) (.int .i64 vv)).run Try.prog w=.ok () w'/\wA w' b (n+1) (lS g kx vv)/\w.grownBy w' (some b):=by
  obtain⟨D,h,hf⟩:=h;obtain⟨w',a2,a4,t⟩:=h.update xH Try.underlying126 (by unfold maxLen;omega) (vB k) (plainElem_int Try.underlying3 (wf64' a7));refine⟨w',a2,⟨_,a4,fun y hy=>?_⟩,t⟩;have a0:WideAt.IsKeyLit (.int .i64 kx):=xH.key (vB k)
  by_cases e:y=kx
  ·subst e;simp only[lS,if_true];exact⟨Maps.atKey_put_same h.isMap a0 _ _,Maps.has_put_same h.isMap a0 _⟩
  ·simp only[lS,if_neg e];rw[Maps.atKey_put_other (by simpa using e),Maps.has_put_other (by simpa using e)];exact hf y hy
 obtain⟨w3,m,hP,t⟩:=a3;obtain⟨D,h,hf⟩:=h;obtain⟨es,d,hb,F,hs,rfl⟩:=h;obtain⟨s1,s2,_⟩:=F.stamped;rcases xH.find w (vB k) es.toList F.keys with⟨h1,h2⟩|⟨j,e0,h1,h2,h3⟩
 ·have a6:(es.push ⟨.int .i64 kx,.int .i64 0,d⟩).findIdx? (fun e=>((e.born:Nat):Int)==((d:Nat):Int))=some es.size:=by
   rw[WideElems.findIdx_arr];refine WideElems.findIdx_born (l:=(es.push ⟨.int .i64 kx,.int .i64 0,d⟩).toList) (j:=es.size) (e0:=⟨.int .i64 kx,.int .i64 0,d⟩) ?_ Zs;simp only[Array.toList_push,Js,Ql,List.map_nil];refine Qq.2 ⟨s2,by simp,fun a ha c hc e1=>?_⟩;simp only[Jo] at hc;obtain⟨x,hx,rfl⟩:=Nu.1 ha;have:=s1 x hx;omega
  have a5:(es.push ⟨.int .i64 kx,.int .i64 0,d⟩).modify es.size (fun e=> {e with val:=.int .i64 vv })=es.push ⟨.int .i64 kx,.int .i64 vv,d⟩:=by
   apply Array.ext';rw[Array.toList_modify,Array.toList_push,Array.toList_push,<-Array.length_toList,WideElems.modify_last]
  have u:=heap_setBlock_same hb (.map (es.push ⟨.int .i64 kx,.int .i64 0,d⟩) (d+1))
  have e3:w3=setBlock w b (.map (es.push ⟨.int .i64 kx,.int .i64 vv,d⟩) (d+1)):=by
   simp[Instr.mapUpdate,run_underlying Try.underlying126,MapKept.run_getObj_map hb,xH.check w false (vB k),h1,MapKept.run_setObj_map _ hb,Result.andThen] at m;exact m.symm
  have a1:∀o,w.grownBy (setBlock w b o) (some b):=fun o=>⟨rfl,rfl,rfl,by simp[setBlock],fun i _ hi=>heap_setBlock_other hb _ (fun e=>hi (by rw[e]))⟩
  refine⟨d,setBlock w b (.map (es.push ⟨.int .i64 kx,.int .i64 0,d⟩) (d+1)),setBlock (setBlock w b (.map (es.push ⟨.int .i64 kx,.int .i64 0,d⟩) (d+1))) b (.map (es.push ⟨.int .i64 kx,.int .i64 vv,d⟩) (d+1)),?_,a1 _,?_,?_,?_⟩
  ·simp[Instr.mapEntry,run_underlying Try.underlying126,MapKept.run_getObj_map hb,xH.check w false (vB k),h1,px,MapKept.run_setObj_map _ hb,Result.andThen,setBlock]
  ·generalize setBlock w b (.map (es.push ⟨.int .i64 kx,.int .i64 0,d⟩) (d+1))=W1 at u ⊢;simp[Instr.entryStore,MapKept.run_getObj_map u,asInt,asIntOf,goInt,a6,a5,MapKept.run_setObj_map _ u,Result.andThen,setBlock]
  ·refine hP.same ?_;rw[heap_setBlock_same u,e3,heap_setBlock_same hb]
  ·have e4:setBlock (setBlock w b (.map (es.push ⟨.int .i64 kx,.int .i64 0,d⟩) (d+1))) b (.map (es.push ⟨.int .i64 kx,.int .i64 vv,d⟩) (d+1))=setBlock w b (.map (es.push ⟨.int .i64 kx,.int .i64 vv,d⟩) (d+1)):=by simp[setBlock]
   rw[e4];exact a1 _
 ·exfalso;simp[Instr.lookup,run_underlying Try.underlying126,MapKept.run_getObj_map hb,xH.check w es.isEmpty (vB k),h1,Result.andThen] at r
def okS (n:Nat)(s:Int):Bool:=decide (0<=s) && decide (s<(n:Int))
theorem tm {α:Type}(p:α->Bool)(l:List α)(k:Nat)(x:α)(h:l[k]? =some x)(hp:(l.take k).all p=true)(c:p x=true):(l.take (k+1)).all p=true:=by
 rw[Nh,h];simp[hp,c]
theorem vU {α:Type}(p:α->Bool)(l:List α)(k:Nat)(x:α)(h:l[k]? =some x)(c:p x=false):l.all p=false:=by
 rw[Um];exact⟨x,Ji h,by simp[c]⟩
theorem lR (w:World)(sv:Value)(g:List (List Int))(B:Nat)(hB:B<=w.heap.size)(h:aaB zN w B sv g)(hn:g.length<=2000000)(hr:∀row∈g,row.length<=2000000):
 Y 100 #[.agg #[sv]] w fun e w'=>e=.returned (.bool (decide (0<g.length) && pB g))/\F w w':=by
 obtain⟨a,cap,rfl,b1⟩:=h.form;have HR:=Ja hr;clear hr;have c:F w (w.alloc (U #[.slice a g.length cap] 93)):=(Below.refl _ _).alloc (Je _) _;go_enter Try.func100,Try.ntmps100;go_wp2
 go_loop [10] (fun i=>∃k:Nat,k<=g.length/\i=A k/\(g.take k).all (fun l=>l.all (okS g.length))=true) (fun i=>g.length-(intOf i).toNat)
 case atStart=>exact⟨0,Jt _,rfl,by simp⟩
 case round=>
  obtain⟨k,hk,rfl,y⟩:=hrel;have HA:=Ja y;clear y
  by_cases a5:k<g.length
  ·obtain⟨row,d⟩:∃row,g[k]? =some row:=⟨_,Jd a5⟩
   obtain⟨b,o,a2,a4,rfl,hb,hc,a6,hx⟩:=h.row d;have hrl:=HR.out row (Ji d);have b6:G (w.alloc (U #[.slice (some ⟨b,o,none⟩) g.length cap] 93)) b (o+k) (.slice a2 row.length a4):=(c.cell (p:=⟨b,o+k,none⟩) (show b<w.heap.size by omega)).trans hc;have m:=Ja d;clear d;have HX:=Ja hx;clear hx h hc;have b0:(k:Int)<g.length:=Zo;go_wp2
   go_loop [16] (fun i=>∃j:Nat,j<=row.length/\i=A j/\(row.take j).all (okS g.length)=true) (fun i=>row.length-(intOf i).toNat)
   case atStart=>exact⟨0,Jt _,rfl,by simp⟩
   case round=>
    obtain⟨j,hj,rfl,r⟩:=hrel;have a1:=Ja r;clear r
    by_cases a3:j<row.length
    ·obtain⟨x,t⟩:∃x,row[j]? =some x:=⟨_,Jd a3⟩
     obtain⟨b2,o2,rfl,b7,u⟩:=HX.out j x t;simp only[zN] at u;have b5:G (w.alloc (U #[.slice (some ⟨b,o,none⟩) g.length cap] 93)) b2 (o2+j) (A x):=(c.cell (p:=⟨b2,o2+j,none⟩) (show b2<w.heap.size by omega)).trans u;have a0:=Ja t;clear t u;have a7:(j:Int)<row.length:=Zo
     by_cases b4:x<0
     ·have hf:pB g=false:=vU _ g k row m.out (vU _ row j x a0.out (by simp[okS];omega));have HF:=Ja hf;clear hf;go_wp2;go_ret;exact⟨by rw[HF.out];simp,c⟩
     ·by_cases b3:x<g.length
      ·go_wp2
       go_round
       case rel=>exact⟨j+1,by omega,by go_num,tm _ row j x a0.out a1.out (by simp[okS];omega)⟩
       case measure=>simp[intOf];omega
      ·have hf:pB g=false:=vU _ g k row m.out (vU _ row j x a0.out (by simp[okS];omega));have HF:=Ja hf;clear hf;go_wp2;go_ret;exact⟨by rw[HF.out];simp,c⟩
    ·go_wp2
     go_round
     case rel=>exact⟨k+1,by omega,by go_num,tm _ g k row m.out HA.out (by have:=a1.out;rwa [Oy Zo] at this)⟩
     case measure=>simp[intOf];omega
  ·have hf:pB g=true:=by have:=HA.out;rwa [Oy Zo] at this
   have HF:=Ja hf;clear hf;go_wp2;go_ret;exact⟨by rw[HF.out];simp,c⟩
def qT (xs ys:List Nat)(k:Nat):Prop:=ys.length=xs.length/\∀m,m<xs.length->ys[m]? =if m<k∨xs.length<=m+k then xs[xs.length-1-m]? else xs[m]?
theorem qT.start (xs:List Nat):qT xs xs 0:=⟨rfl,fun m hm=>by rw[if_neg Zo]⟩
theorem qT.step {xs ys:List Nat}{k j x y:Nat}(h:qT xs ys k)(r:k+j+1=xs.length)(o:k<j)(l:ys[k]? =some x)(i:ys[j]? =some y):qT xs ((ys.set k y).set j x) (k+1):=by
 obtain⟨h1,h2⟩:=h;refine⟨by simp[h1],fun m hm=>?_⟩;have e1:=h2 k Zo;have e2:=h2 j Zo;rw[if_neg Zo] at e1 e2;rw[Ov]
 by_cases d:j=m
 ·subst d;rw[if_pos rfl,if_pos (by simp[h1];omega),if_pos Zo,show xs.length-1-j=k by omega,<-e1,l]
 ·rw[if_neg d,Ov]
  by_cases c:k=m
  ·subst c;rw[if_pos rfl,if_pos Zo,if_pos Zo,show xs.length-1-k=j by omega,<-e2,i]
  ·rw[if_neg c,h2 m hm]
   by_cases g:m<k∨xs.length<=m+k
   ·rw[if_pos g,if_pos Zo]
   ·rw[if_neg g,if_neg Zo]
theorem qT.done{xs ys:List Nat}(h:qT xs ys k)(hk:xs.length<=2*k+1):ys=xs.reverse:=by
 obtain⟨h1,h2⟩:=h;apply Oq;intro m
 by_cases hm:m<xs.length
 ·rw[h2 m hm,List.getElem?_reverse hm]
  by_cases c:m<k∨xs.length<=m+k
  ·rw[if_pos c]
  ·rw[if_neg c];congr 1;omega
 ·rw[Of Zo,Of Zt]
theorem mK (w:World)(base:Nat)(v:Value)(xs:List Nat)(c:w.ownsRow base 3 1 v xs.length (xs.map zj))(hn:xs.length<=4000000):
 Y 104 #[v] w fun e w'=>e=.returned (.tuple #[])/\w'.ownsRow base 3 1 v xs.length (xs.reverse.map zj)/\w.grownBy w' v.ownBlock:=by
 rcases c.2 with⟨rfl,h0⟩|⟨g,cap,cur,rfl,hg,u,_⟩
 ·have h:xs=[]:=Nz h0;subst h;go_enter Try.func104,Try.ntmps104;go_wp2;refine wp_loop_rounds 1 ?_;rw[rounds_succ];go_wp2
  go_end0
  exact⟨rfl,by simpa using c,⟨rfl,rfl,rfl,Je _,fun _ _ _=>rfl⟩⟩
 ·clear u hg;have HO:=Ja c;clear c;go_enter Try.func104,Try.ntmps104;go_wp2
  go_loopw [2,3] (fun i j wr=>∃(k:Nat) (jj:Int),i=A k/\j=A jj/\Hid ((k:Int)+jj+1=xs.length)/\(k:Int)<=xs.length/\-1<=jj+k/\jj<=xs.length/\∃ys,Hid (qT xs ys k/\wr.ownsRow base 3 1 (N g xs.length cap) xs.length (ys.map zj)/\w.grownBy wr (some g))) (fun i _ _=>xs.length-(intOf i).toNat)
  case atStart=>exact⟨0,(xs.length:Int)-1,rfl,rfl,by unfold Hid;omega,by omega,by omega,by omega,xs,qT.start xs,HO.out,⟨rfl,rfl,rfl,Je _,fun _ _ _=>rfl⟩⟩
  case round=>
   obtain⟨k,jj,rfl,rfl,o,hk,a3,a2,ys,d⟩:=hrel
   by_cases a1:(k:Int)<jj
   ·obtain⟨j,rfl⟩:∃j:Nat,jj=j:=⟨jj.toNat,by omega⟩
    have m:=d.out.1.1;have t:=o.out;obtain⟨x,h⟩:∃x,ys[k]? =some x:=⟨_,Jd Zo⟩
    obtain⟨y,l⟩:∃y,ys[j]? =some y:=⟨_,Jd Zo⟩
    have hr:=d.out.2.1;have g1:G wr g k (A x):=(hr.cellAt k Zo).trans (by simp[h,zj]);have g2:G wr g j (A y):=(hr.cellAt j Zo).trans (by simp[l,zj]);have f1:T wr g k:=hr.frozenAt k;have f2:T wr g j:=hr.frozenAt j;have a0:¬k=j:=Zo;have i1:(k:Int)<xs.length:=Zo;have i2:(j:Int)<xs.length:=Zo;have r:=Ja (Jb h l);clear m t h l hr;go_wp2
    go_region
    go_wp2;go_roundw
    case rel=>
     obtain⟨h,l⟩:=r.out;have m:=d.out.1.1;have s1:=d.out.2.1.stored k (zj y);have s2:=s1.1.stored j (zj x);refine⟨k+1,(j:Int)-1,by go_num,rfl,by have:=o.out;unfold Hid;omega,by omega,by omega,by omega,(ys.set k y).set j x,qT.step d.out.1 (by have:=o.out;omega) Zo h l,?_,?_⟩
     ·have:=s2.1;rw[<-Ox,<-Ox] at this;exact this
     ·exact nJ ((d.out.2.2.trans s1.2).trans s2.2)
    case measure=>simp[intOf];omega
   ·go_wp2
    go_end0
    have hd:=d.out.1.done (by have:=o.out;omega);subst hd;exact⟨rfl,by rw[<-List.map_reverse];exact d.out.2.1,d.out.2.2⟩
def fJ (w:World)(xs:List Nat)(e:Ending)(w':World):Prop:=∃v,e=.returned v/\w'.ownsRow w.heap.size 3 1 v xs.length (xs.map zj)/\F w w'
theorem k8(hv:zw g):(decide (0<(g.map (List.map Int.ofNat)).length) && pB (g.map (List.map Int.ofNat)))=true:=by
 obtain⟨d,h1⟩:=hv;simp only[Nr,Jm,decide_eq_true_eq,pB,Oe,Nu];refine⟨d,?_⟩;rintro _ ⟨l,hl,rfl⟩ s hs;simp only[Nu] at hs;obtain⟨x,c,rfl⟩:=hs;have:=h1 l hl x c;simp;omega
theorem rows_int{B:Nat}{v:Value}(h:aaB zj w B v g):aaB zN w B v (g.map (List.map Int.ofNat)):=(aaB.map (enc:=zN) (enc':=zj) Int.ofNat (fun _=>rfl)).2 h
theorem tK (w:World)(sv:Value)(g:List (List Nat))(B:Nat)(hB:B<=w.heap.size)(h:aaB zj w B sv g)(hv:zw g)(c:g.length<=2000000)(hr:∀row∈g,row.length<=2000000):
 Y 100 #[.agg #[sv]] w fun e w'=>e=.returned (.bool true)/\F w w':=by
 have:=lR w sv (g.map (List.map Int.ofNat)) B hB (rows_int h) (by simpa using c) (by intro row hm;simp only[Nu] at hm;obtain⟨l,hl,rfl⟩:=hm;simpa using hr l hl);rw[k8 hv] at this;exact this
theorem yA (z:Value)(n:Nat):madeCells #[z] n=(List.replicate n z).toArray:=by
 rw[<-toList_madeCells_one]
theorem iC (w1:World)(n:Nat):Dfs w1 (((w1.alloc (U (madeCells #[.bool false] n) 4)).alloc (U #[N w1.heap.size n n] 141)).alloc (U #[O] 163)) w1.heap.size n (w1.heap.size+1) w1.heap.size (w1.heap.size+1+1) (List.replicate n false) [] (.slice none 0 0) []:=by
 refine⟨zB (zI Zs),?_,by simp,⟨_,zI Zs,Jv _ _ _ _⟩,by omega,Jv _ _ _ _,?_⟩
 ·rw[zB (zB (zI rfl)),yA];simp[uo]
 ·exact(((Below.refl _ _).alloc (Je _) _).alloc Zs _).alloc Zt _
structure DInv (g:List (List Nat)) (seen:List Bool) (stk:List (Nat×Nat)) (post:List Nat):Prop where
 len:seen.length=g.length
 cnt:seen.count true=stk.length+post.length
 node:∀p∈stk,p.1<g.length
 fin:∀u∈post,u<g.length
theorem tI (l:List Bool)(u:Nat)(h:l[u]? =some false):(l.set u true).count true=l.count true+1:=by
 induction l generalizing u with
 |nil=>simp at h
 |cons b r ih=>
  cases u with
  |zero=>simp at h;subst h;simp
  |succ u=>
   simp only[List.getElem?_cons_succ] at h;simp only[Jg,Nf,ih u h];omega
theorem DInv.start(hv:zw g):DInv g ((List.replicate g.length false).set 0 true) ([]++ [(0,0)]) []:=by
 refine⟨by simp,?_,by simp;exact hv.1,by simp⟩;rw[tI _ _ (by simp[Nm,hv.1])];simp[List.count_replicate]
theorem DInv.le{d:List (Nat×Nat)}(h:DInv g seen d c):d.length+c.length<=g.length:=by
 rw[<-h.cnt,<-h.len];exact List.count_le_length
theorem DInv.pop{d:List Nat}(h:DInv g seen (st++ [(u,j)]) d):DInv g seen st (d++ [u]):=
 ⟨h.len,by have:=h.cnt;simp at this ⊢;omega,fun p hp=>h.node p (by simp[hp]),fun x c=>by
   rcases Jl.1 c with c|c
   ·exact h.fin x c
   ·have:=h.node (u,j) Zs;simp at c;subst c;exact this⟩
theorem DInv.skip(h:DInv g seen (st++ [(u,j)]) post):DInv g seen (st++ [(u,j+1)]) post:=
 ⟨h.len,by have:=h.cnt;simp at this ⊢;omega,fun p hp=>by
   rcases Jl.1 hp with hp|hp
   ·exact h.node p (by simp[hp])
   ·have:=h.node (u,j) Zs;simp at hp;subst hp;exact this,h.fin⟩
theorem DInv.enter{c:List (Nat×Nat)}{s:Nat}(h:DInv g seen c post)(hs:seen[s]? =some false):DInv g (seen.set s true) (c++ [(s,0)]) post:=by
 have d:s<g.length:=by rw[<-h.len];exact(Jh.1 hs).1
 refine⟨by simp[h.len],by rw[tI _ _ hs,h.cnt];simp;omega,fun p hp=>?_,h.fin⟩;rcases Jl.1 hp with hp|hp
 ·exact h.node p hp
 ·simp at hp;subst hp;exact d
theorem lJ (w:World)(sv:Value)(g:List (List Nat))(B:Nat)(hB:B<=w.heap.size)(h:aaB zj w B sv g)(hv:zw g)(hn:g.length<=2000000)(hr:∀row∈g,row.length<=2000000)
 (k0:Nat) (F:List Nat) (hF:kV g k0 ((List.replicate g.length false).set 0 true) [(0,0)] [] F):
 Y 68 #[.agg #[sv]] w (fJ w F.reverse):=by
 obtain⟨a,cap,rfl,f4⟩:=h.form;obtain⟨ii,d9,d0,c9,c8⟩:=info_parts Try.info_int;obtain⟨ib,f9,e9,e8,e7⟩:=info_parts Try.info_bool;have y:Below w.heap.size w (w.alloc (U #[.slice a g.length cap] 93)):=(Below.refl _ _).alloc (Je _) _;have HV:=Ja hv;have HR:=Ja hr;have HF:=Ja hF;clear hv hr hF;have d7:=run_make_row' (P:=Try.prog) 141 4 (.bool false) 1 Try.underlying141 Try.info_bool rfl .i64 .i64 g.length Zo Zo;go_enter Try.func68,Try.ntmps68;go_wp2_with (go_at_call 100;go_must (refine(tK _ _ g B Zt (h.below (y.mono hB)) HV.out hn HR.out).mono ?_;rintro e w1 ⟨rfl,a1⟩;obtain⟨c5,c2⟩:=bcell a1))
 have c4:Dfs w1 (((w1.alloc (U (madeCells #[.bool false] g.length) 4)).alloc (U #[N w1.heap.size g.length g.length] 141)).alloc (U #[O] 163)) w1.heap.size g.length (w1.heap.size+1) w1.heap.size (w1.heap.size+1+1) (List.replicate g.length false) [] (.slice none 0 0) []:=iC w1 g.length;refine(oF w1 _ w1.heap.size g.length (w1.heap.size+1) w1.heap.size (w1.heap.size+1+1) (List.replicate g.length false) [] (.slice none 0 0) [] 0 c4 HV.out.1 Zd).mono ?_;rintro e w2 ⟨rfl,hd⟩;have HD:=Ja hd;clear hd c4 d7;go_wp2_with fail
 go_loopg [4] k0 (fun k pv wr=>∃seen stk c,Hid (Dfs w1 wr w1.heap.size g.length (w1.heap.size+1) w1.heap.size (w1.heap.size+1+1) seen stk pv c/\kV g k seen stk c F/\DInv g seen stk c))
 case atStart=>exact⟨_,_,_,HD.out,HF.out,DInv.start HV.out⟩
 case round=>
  obtain⟨seen,stk,c,l⟩:=hrel
  cases gk with
  |zero=>
   obtain⟨rfl,rfl⟩:=l.out.2.1;obtain⟨sv,hk,d⟩:=l.out.1.hk;obtain⟨a0,c0,rfl⟩:=zG d;have ck:=cell_of_one hk;simp only[Ow] at ck;have t:Below w.heap.size w w1:=y.trans (a1.mono Zs);have d6:=t.size;have c7:=Ja (t.trans (l.out.1.hb.mono t.size));have b8:=l.out.2.2.le;clear hk d a1 c5 c2 y t h;go_wp2_with (go_at_call 104;go_must (refine(mK wr _ _ c l.out.1.hp Zo).mono ?_;rintro e w3 ⟨rfl,d2,e0⟩))
   go_ret;refine⟨_,rfl,?_,?_⟩
   ·have:=vY d2 (base':=w.heap.size) Zo
    simpa using this
   ·refine c7.out.grown e0 (by have:=c7.out.size;omega) (fun k hk=>?_);have:=l.out.1.hp.lt k hk
    omega
  |succ k=>
   obtain⟨st,u,j,rfl,b6⟩:=l.out.2.1;obtain⟨sv,hk,d⟩:=l.out.1.hk;simp only[Jk,Nq,Ow,Ng,vH] at d;obtain⟨gk,cp,rfl,g1,g0⟩:=d.form Zo;have g3:=(zm d).1;have f2:=(zm d).2;have f3:(st.length:Int)<=cp:=Zo;have d5:u<g.length:=l.out.2.2.node (u,j) Zs;obtain⟨row,a4⟩:∃row,g[u]? =some row:=⟨_,Jd d5⟩
   have t:Below w.heap.size w w1:=y.trans (a1.mono Zs);have d6:=t.size;have b5:=t.trans (l.out.1.hb.mono t.size);obtain⟨b,o,a2,f6,rfl,hb,hc,e6,hx⟩:=(h.below (b5.mono hB)).row a4;have hrl:=HR.out row (Ji a4);have b8:=l.out.2.2.le;simp only[Jk,Nq,Ow] at b8;have ck:=cell_of_one hk;have fk:=free_of_one hk;have cu:G wr gk (st.length*2) (A u):=(d.cellAt _ Zo).trans (by rw[Nc (by rw[yK];omega)];simp[yK,Nat.mul_comm,zj]);have cj:G wr gk (st.length*2+1) (A j):=(d.cellAt _ Zo).trans (by rw[Nc (by rw[yK];omega)];simp[yK,show st.length*2+1-2*st.length=1 by omega,zj]);have fj:T wr gk (st.length*2+1):=d.frozenAt _
   have g4:G wr w.heap.size 0 (.slice (some ⟨b,o,none⟩) g.length cap):=by
    have h1:(w.alloc (U #[.slice (some ⟨b,o,none⟩) g.length cap] 93)).heap[w.heap.size]? =_:=zI rfl;exact cell_of_one (zH l.out.1.hb (zH a1 h1 Zs) (by have:=a1.size;simp at this;omega))
   have f0:(u:Int)<g.length:=Zo;have a7:=Ja a4;have f7:=Ja d;have HK:=Ja hk;have HX:=Ja hx;have h0:=Ja b5;clear a4 d hk hx b5 t y a1 c5 c2 h;rcases b6 with⟨hj,r⟩|⟨s,hs,i,r⟩|⟨s,hs,i,r⟩
   ·have b9:row.length=j:=by rw[hj];simp[succ,Jj,a7.out]
    have b0:((j:Int)==(row.length:Int))=true:=by simp[b9]
    have a3:=Ja r;have hp:=l.out.1.hp;have f8:=lt_of_block HK.out;clear b9 hj r;go_wp2_with fail;go_quiet (fail);have own43:∀n,(wr.drewN n).ownsRow (w1.heap.size+1+1+1) 3 1 _ c.length (c.map zj):=fun n=>ji hp
    go_wp2_with (at_builtin;go_must (refine wpList_append_lies _ rfl (.tmp 43) (.tmp 48) 22 rfl (w1.heap.size+1+1+1) 3 ii (A 0) 1 8 Try.underlying22 d9 d0 c9 c8 rfl Zd _ c.length (c.map zj) rfl ((own43 _).alloc _) ⟨wr.heap.size,0,none⟩ 1 1 [A u] rfl rfl (Oi (cs:=#[A u]) (zI Zs)) (by simp[Value.oneCell']) Zd (by unfold maxLen;omega) Zo Zt (wr.heap.size+1) Zs ?_;intro g2 f5 w2 b1 a5 g5 f1;have m:=(l.out.1.drewN (k:=nq)).push a5 b1;have b3:=zL a5 (zB (kg HK.out)) (zC hp HK.out (.inl Zo));have g9:=cell_of_one b3;have g6:=free_of_one b3;have e4:=Ja b3;have a6:=Ja m;clear b3 m b1 a5 hp own43))
    go_roundg k
    case measure=>omega
    case rel=>exact⟨seen,st,c++ [u],a6.out.popStk e4.out,a3.out,l.out.2.2.pop⟩
   ·have x:row[j]? =some s:=by rw[<-hs];simp[succ,Jj,a7.out]
    have d8:j<row.length:=(Jh.1 x).1;have b0:((j:Int)==(row.length:Int))=false:=by simp;omega
    have d3:(j:Int)<row.length:=Zo;obtain⟨b2,o2,rfl,e1,cs⟩:=HX.out j s x;simp only[zj] at cs;have m:∀n,Dfs w1 ((wr.drewN n).setCell ⟨gk,st.length*2+1,none⟩ (A ((j:Int)+1))) _ _ _ _ _ _ _ _ _:=fun n=>(l.out.1.drewN (k:=n)).bump HK.out
    have e2:=fun n=>cell_of_one (m n).hv
    have e3:∀n,G ((wr.drewN n).setCell ⟨gk,st.length*2+1,none⟩ (A ((j:Int)+1))) w1.heap.size s (.bool true):=fun n=>zA (m n).hs (by simp[i,uo])
    have b7:s<g.length:=by rw[<-l.out.2.2.len];exact(Jh.1 i).1
    have d1:(s:Int)<g.length:=Zo;have a6:=Ja m;have a3:=Ja r;clear r hs i x m;go_wp2_with fail;go_quiet (fail);go_wp2_with fail
    go_roundg k
    case measure=>omega
    case rel=>exact⟨seen,st++ [(u,j+1)],c,a6.out _,a3.out,l.out.2.2.skip⟩
   ·have x:row[j]? =some s:=by rw[<-hs];simp[succ,Jj,a7.out]
    have d8:j<row.length:=(Jh.1 x).1;have b0:((j:Int)==(row.length:Int))=false:=by simp;omega
    have d3:(j:Int)<row.length:=Zo;obtain⟨b2,o2,rfl,e1,cs⟩:=HX.out j s x;simp only[zj] at cs;have m:∀n,Dfs w1 ((wr.drewN n).setCell ⟨gk,st.length*2+1,none⟩ (A ((j:Int)+1))) _ _ _ _ _ _ _ _ _:=fun n=>(l.out.1.drewN (k:=n)).bump HK.out
    have e2:=fun n=>cell_of_one (m n).hv
    have e3:∀n,G ((wr.drewN n).setCell ⟨gk,st.length*2+1,none⟩ (A ((j:Int)+1))) w1.heap.size s (.bool false):=fun n=>zA (m n).hs (by simp[i,uo])
    have b7:s<g.length:=by rw[<-l.out.2.2.len];exact(Jh.1 i).1
    have d1:(s:Int)<g.length:=Zo;have b4:=l.out.2.2.skip.enter i;have a6:=Ja m;have a3:=Ja r;have d4:=Ja b4;clear r hs i x m b4;go_wp2_with fail;go_quiet (fail);go_wp2_with (go_at_call 103;go_must (refine(oF w1 _ w1.heap.size g.length (w1.heap.size+1) w1.heap.size (w1.heap.size+1+1) seen (st++ [(u,j+1)]) _ c s (a6.out _) b7 Zt).mono ?_;rintro e w2 ⟨rfl,c3⟩;have e5:=Ja c3;clear c3))
    go_roundg k
    case measure=>omega
    case rel=>exact⟨seen.set s true,st++ [(u,j+1)]++ [(s,0)],c,e5.out,a3.out,d4.out⟩
theorem rG{F:List Nat}:∀(k:Nat) (seen:List Bool) (stk:List (Nat×Nat)) (post:List Nat),kV g k seen stk post F->DInv g seen stk post->F.length<=g.length/\∀u∈F,u<g.length
 |0,seen,stk,post,h,hi=>by
  obtain⟨rfl,rfl⟩:=h
  exact⟨by have:=hi.le;simpa using this,hi.fin⟩
 |k+1,seen,stk,post,h,hi=>by
  obtain⟨st,u,j,rfl,⟨_,h⟩|⟨s,_,_,h⟩|⟨s,_,hs,h⟩⟩:=h
  ·exact rG k _ _ _ h hi.pop
  ·exact rG k _ _ _ h hi.skip
  ·exact rG k _ _ _ h (hi.skip.enter hs)
theorem tV.nodes(h:tV g c)(hv:zw g):c.length<=g.length/\∀u∈c,u<g.length:=by
 obtain⟨k,h⟩:=h;have:=rG k _ _ _ h (DInv.start hv)
 simpa using this
theorem tp (w:World)(sv:Value)(g:List (List Nat))(B:Nat)(hB:B<=w.heap.size)(h:aaB zj w B sv g)(hv:zw g)(d:g.length<=2000000)(hr:∀row∈g,row.length<=2000000)(c:List Nat)(ho:tV g c):
 Y 68 #[.agg #[sv]] w (fJ w c):=by
 obtain⟨k0,ho⟩:=ho;have:=lJ w sv g B hB h hv d hr k0 _ ho
 rwa [List.reverse_reverse] at this
def yM (w:World)(size:Nat)(xv:Value)(m:Nat)(news:List Value):Prop:=
 ∃a c,xv=.slice a m c/\news.length=m*size/\(∀u∈news,u.oneCell'=true)/\((a=none/\m=0)∨∃ad,a=some ad/\∀j u,news[j]? =some u->w.cell? (ad.add j)=some u)
theorem tE(w:World)(base:Nat)(t ty e:TypeId)(i:TypeInfo)(z:Value)(size bytes:Nat)(r:P.underlying t=some (.slice e))(hi:P.info? e=some i)(hz:i.zero=some z)
 (k:i.size=size) (a1:i.bytes=bytes) (x:z.cells.size=size) (y:0<size) (v:Value) (n:Nat) (xs:List Value) (h:w.ownsRow base e size v n xs)
 (xv:Value) (m:Nat) (d:List Value) (u:yM w size xv m d) (a2:n+m<=maxLen) (j:(n+m)*bytes<=140737488355328) (o:base<=w.heap.size):
 ∃v' w',(Builtin.append_ #[t,t] ty #[v,xv]).run P w=.ok v' w'/\w'.ownsRow base e size v' (n+m) (xs++d)/\w.grownBy w' v.ownBlock/\(v'.ownBlock=v.ownBlock∨v'.ownBlock=some w.heap.size):=by
 obtain⟨a,c,rfl,hl,h1,⟨rfl,rfl⟩|⟨ad,rfl,l⟩⟩:=u
 ·have hn:d=[]:=Nz (by simpa using hl);subst hn;refine⟨v,w,?_,by simpa using h,⟨rfl,rfl,rfl,Je _,fun _ _ _=>rfl⟩,.inl rfl⟩;rcases h.2 with⟨rfl,rfl⟩|⟨g,cap,cur,rfl,a6,hg,a0,a5,a4,a3⟩
  ·simp[Builtin.append_,run_underlying r,sizeOf,typeInfo,hi,Builtin.lenOf,run_firstCells_none]
  ·simp[Builtin.append_,run_underlying r,sizeOf,typeInfo,hi,Builtin.lenOf,run_firstCells_none,a0,storeCells]
 ·obtain⟨v',w',h2,h3,h4,_,h5⟩:=run_append_own_at (P:=P) w base t ty e i z size bytes r hi hz k a1 x y v n xs h ad m c d hl l h1 a2 j o;exact⟨v',w',h2,h3,h4,h5⟩
theorem zK(w:World){ops:Array Oper}{rest:List Oper}{o:Oper}{a:Act}{Q:Exit->Act->World->Prop}(y:o.guard=none)(s x:Operand)(t:TypeId)
 (ho:o.op=.call {callee:=.builtin .append,args:=#[s,x],argTypes:=#[t,t]})
 (base:Nat) (e:TypeId) (i:TypeInfo) (z:Value) (size bytes:Nat) (ht:P.underlying t=some (.slice e)) (hi:P.info? e=some i) (hz:i.zero=some z)
 (g:i.size=size) (a0:i.bytes=bytes) (r:z.cells.size=size) (u:0<size)
 (v:Value) (n:Nat) (xs:List Value) (hs:a.eval s=v) (l:w.ownsRow base e size v n xs)
 (xv:Value) (m:Nat) (c:List Value) (hx:a.eval x=xv) (k:yM w size xv m c) (a1:n+m<=maxLen) (d:(n+m)*bytes<=140737488355328) (j:base<=w.heap.size)
 (h:∀v' w',w'.ownsRow base e size v' (n+m) (xs++c)->w.grownBy w' v.ownBlock->(v'.ownBlock=v.ownBlock∨v'.ownBlock=some w.heap.size)->wpList P ops Q rest (a.put o.dst v') w'):
 wpList P ops Q (o::rest) a w:=by
 refine wpList_plain y fun K hK=>?_
 obtain⟨v',w',hr,h2,h3,h5⟩:=tE (P:=P) w base t o.type e i z size bytes ht hi hz g a0 r u v n xs l xv m c k a1 d j;unfold Oper.wp execOp;simp only[ho,resolve,invoke,builtin,Sem.run_bind,Sem.run_pure,Result.andThen_ok,List.map_toArray,Ql,List.map_nil,hs,hx,hr];exact hK _ _ (h v' w' h2 h3 h5)
theorem yM.one{b:Nat}{x:Value}{e:TypeId}(h:L w b #[x] e)(c:x.oneCell'=true):yM w 1 (N b 1 1) 1 [x]:=
 ⟨_,_,rfl,rfl,by simpa using c,.inr ⟨_,rfl,Oi (cs:=#[x]) h⟩⟩
theorem zY.src{B:Nat}{v:Value}(h:zY w B v xs):yM w 1 v xs.length (xs.map zN):=by
 obtain⟨a,cap,rfl,h1,h2,h3⟩:=h;refine⟨a,cap,rfl,by simp,by simp[zN,Value.oneCell'],?_⟩
 cases xs with
 |nil=>
  cases a with
  |none=>exact .inl ⟨rfl,rfl⟩
  |some ad=>exact .inr ⟨ad,rfl,fun j u hu=>by simp at hu⟩
 |cons x xs=>
  obtain⟨b,o,rfl,_,_⟩:=h3 0 x rfl;refine .inr ⟨_,rfl,fun j u hu=>?_⟩;rw[Jr,Oz] at hu;obtain⟨y,d,rfl⟩:=hu;obtain⟨b',o',e,_,c,_⟩:=h3 j y d;cases e;rw[Nk] at c;unfold Addr.add
  split
  ·rename_i g;rw[g] at c;exact c
  ·exact c
theorem uA{S:Nat}{v:Value}{n:Nat}(h:w.ownsRow S 3 1 v n (xs.map zN))(j:xs.length=n)(i:∀x∈xs,I64 x):zY w w.heap.size v xs:=by
 subst j;obtain⟨a,c,rfl⟩:=zG h;have hl:=zm h;refine⟨a,c,rfl,hl.1,by omega,fun k x hk=>?_⟩;have l:=(Jh.1 hk).1;obtain⟨g,cap,e,hg,d⟩:=h.form Zo;cases e;refine⟨g,0,rfl,d,?_,i x (Ji hk)⟩;rw[Nk,Ng];exact(h.cellAt k Zo).trans (by rw[Jr,hk];rfl)
theorem zY.all{B:Nat}{v:Value}(h:zY w B v xs):∀x∈xs,I64 x:=by
 intro x c;obtain⟨k,hk⟩:=Ny c;obtain⟨_,_,_,_,_,h3⟩:=h;obtain⟨_,_,_,_,_,d⟩:=h3 k x hk;exact d
end Go.Proofs.Ytojclalkfhoooaa
namespace Go.Proofs
open Go.Shelf
def Try.lays212_ren:Go.Shelf.Ren:=⟨fun|212=>128|263=>131|264=>132|n=>n,fun|46=>82|51=>38|146=>201|53=>184|148=>203|n=>n,fun|n=>n⟩
theorem Try.lays212:Go.Proofs.Lays.n212 Try.prog Try.lays212_ren:= {
 mixed:=by kernel_rfl
 f212:=Try.func128.trans (congrArg some (by kernel_rfl))
 f263:=Try.func131.trans (congrArg some (by kernel_rfl))
 f264:=Try.func132.trans (congrArg some (by kernel_rfl))
 t46:=Try.underlying82
 a46:=Try.isAgg82
 z46:=Try.sizeOf82
 v46:=Try.zeroValue82
 t51:=Try.underlying38
 a51:=Try.isAgg38
 z51:=Try.sizeOf38
 v51:=Try.zeroValue38
 t53:=Try.underlying184
 a53:=Try.isAgg184
 z53:=Try.sizeOf184
 v53:=Try.zeroValue184
 t146:=Try.underlying201
 a146:=Try.isAgg201
 z146:=Try.sizeOf201
 v146:=Try.zeroValue201
 t148:=Try.underlying203
 a148:=Try.isAgg203
 z148:=Try.sizeOf203
 v148:=Try.zeroValue203 }
open Go.RowKit Go.Lib in
theorem Try.bits_Mul (x y:Nat)(d:x<18446744073709551616)(c:y<18446744073709551616)(w:World):
 Calls Try.prog 128 #[.int .u64 x,.int .u64 y] w fun e w'=>e=.returned (.tuple #[.int .u64 ((x*y/18446744073709551616:Nat):Int),.int .u64 ((x*y%18446744073709551616:Nat):Int)])/\w'=w:=Any.bits_Mul Try.lays212 x y d c w
end Go.Proofs
namespace Go.Proofs.Ytojclalkfhoooaa
open Go.RowKit
variable {P:Program}{w w':World}{b12 b13 bt i j k u:Nat}{c l post:List Nat}{g:List (List Nat)}{x:Int}{K:MK}{m:Mach}{xs:List Int}{seen:List Bool}{st:List (Nat×Nat)}
def wN (N m:Nat)(z:Value):List Value:=List.replicate m z++List.replicate (N-m) (A 0)
theorem nY (N:Nat)(z:Value):wN N 0 z=List.replicate N (A 0):=by simp[wN]
theorem mI (N:Nat)(z:Value):wN N N z=List.replicate N z:=by simp[wN]
theorem kK{N m:Nat}(z:Value)(h:j<m):(wN N m z)[j]? =some z:=by
 unfold wN;rw[Np (by simpa using h)];simp[h]
theorem sL{N m:Nat}(z:Value)(h:m+k<=N):splice (wN N m z) m (List.replicate k z)=wN N (m+k) z:=by
 unfold splice wN
 have e1:List.take m (List.replicate m z++List.replicate (N-m) (A 0))=List.replicate m z:=by
  rw[List.take_append_of_le_length Zs,Oy Zs]
 have e2:List.drop (m+(List.replicate k z).length) (List.replicate m z++List.replicate (N-m) (A 0))=List.replicate (N-(m+k)) (A 0):=by
  rw[List.drop_append,List.drop_eq_nil_of_le Zs,Op,List.drop_replicate]
  congr 1;simp;omega
 rw[e1,e2,<-Nv,List.replicate_append_replicate]
theorem qW{N:Nat}(z:Value)(h:k<=N):splice (List.replicate N (A 0)) 0 (List.replicate k z)=wN N k z:=by
 have:=sL (m:=0) z (by omega:0+k<=N);rw[nY] at this
 simpa using this
theorem lr (w:World)(s o cap N:Nat)(hc:G w s o (A (-1)))(h1:1<=N)(hN:N<=4000000):
 Y 120 #[.slice (some ⟨s,o,none⟩) 1 cap,A N] w fun e w'=>e=.returned (.slice (some ⟨w.heap.size,0,none⟩) N N)/\L w' w.heap.size (List.replicate N (A (-1))).toArray 3/\F w w':=by
 obtain⟨ii,a5,b0,a2,a7⟩:=info_parts Try.info_int;have a3:=run_make_row' (P:=Try.prog) 22 3 (A 0) 8 Try.underlying22 Try.info_int rfl .i64 .i64 N Zo Zo;go_enter Try.func120,Try.ntmps120
 have u:Y 128 #[.int .u64 1,.int .u64 (N:Int)] w fun e w'=>e=.returned (.tuple #[.int .u64 0,.int .u64 (N:Int)])/\w'=w:=by
  refine(Try.bits_Mul 1 N Zo Zo w).mono ?_;rintro e w1 ⟨rfl,rfl⟩;refine⟨?_,rfl⟩;rw[show 1*N/18446744073709551616=0 by omega,show 1*N%18446744073709551616=N by omega];rfl
 have hs:=jU hc;have b5:(N:Int)<=9223372036854775807:=Zo;have b4:¬(N:Int)<0:=Zo;have x: [A (-1)].length=Nat.min 1 N:=(Ud h1).symm;have l:L (w.alloc (.cells (madeCells #[A 0] N) 3)) w.heap.size (List.replicate N (A 0)).toArray 3:=by rw[zI rfl,yA]
 have k:∀(j:Nat) (v:Value),[A (-1)][j]? =some v->(w.alloc (.cells (madeCells #[A 0] N) 3)).cell? ((⟨s,o,none⟩:Addr).add j)=some v:=by
  intro j v g
  cases j with
  |zero=>simp at g;subst g;exact(Ok _ _ _ hs).trans hc
  |succ j=>simp at g
 have r:F w (w.alloc (.cells (madeCells #[A 0] N) 3)):=(Below.refl _ _).alloc (Je _) _;have t:(Try.prog.info? 3).map (·.size)=some 1:=by rw[a5];simp[a2]
 go_wp2_with (first|(go_at_call 128;refine u.mono ?_;rintro e w1 ⟨rfl,rfl⟩)|(with_reducible refine wpList_copy_splice rfl (.tmp 31) (.tmp 32) 22 22 rfl 3 Try.underlying22 t (some ⟨w1.heap.size,0,none⟩) (some ⟨s,o,none⟩) N N 1 cap rfl rfl w1.heap.size 0 (List.replicate N (A 0)) 3 l [A (-1)] x (fun _=>⟨rfl,_,rfl,k⟩) Zt (by simp[Value.oneCell']) w1.heap.size w1 r (Je _) ?_;intro w2 c a6))
 have a1:Hid (L w2 w1.heap.size (wN N 1 (A (-1))).toArray 3):=by
  have:=c.out;rw[show([A (-1)]:List Value)=List.replicate 1 (A (-1)) from rfl,qW _ h1] at this;exact Ja this
 clear u c r k l x a3
 go_loopw [8] (fun i wr=>∃m:Nat,i=A m/\1<=m/\(m:Int)<=N/\Hid (L wr w1.heap.size (wN N m (A (-1))).toArray 3)/\F w1 wr) (fun i _=>N-(intOf i).toNat)
 case atStart=>exact⟨1,rfl,by omega,by omega,a1,a6⟩
 case round=>
  obtain⟨m,rfl,x,b2,c,y⟩:=hrel
  by_cases b3:(m:Int)<N
  ·have e1:(m:Int)<=N:=Zo;have e2:(0:Int)<=m:=Zo;go_wp2
   obtain⟨w3,b1,a0,d⟩:∃w3:World,(Sem.run Try.prog (Builtin.copy_ #[22,22] 3 #[.slice (some ⟨w1.heap.size,m,none⟩) (N-m) (N-m),.slice (some ⟨w1.heap.size,0,none⟩) m N]) wr.drew=.ok (A ((min m (N-m):Nat):Int)) w3.drew)/\Hid (L w3 w1.heap.size (wN N (m+min m (N-m)) (A (-1))).toArray 3)/\F w1 w3:=by
    refine⟨wr.setRow w1.heap.size (splice (wN N m (A (-1))) m (List.replicate (min m (N-m)) (A (-1)))).toArray,?_,?_,below_setRow y (Je _) _⟩
    ·have:=run_copy_row (P:=Try.prog) wr.drew 22 22 3 3 w1.heap.size m (N-m) (N-m) ⟨w1.heap.size,0,none⟩ m N (wN N m (A (-1))).toArray 3 (List.replicate (min m (N-m)) (A (-1))) Try.underlying22 t c.out
      (by rw[Qr]) (fun j v g=>by
       have a4:j<min m (N-m):=by
        have:=(Jh.1 g).1;simpa using this
       rw[Nm,if_pos a4] at g;cases g;have ea:(⟨w1.heap.size,0,none⟩:Addr).add j=⟨w1.heap.size,j,none⟩:=by by_cases h:j=0<;>simp[Addr.add,h]
       rw[ea];refine zA (w:=wr.drew) (b:=w1.heap.size) (cs:=(wN N m (A (-1))).toArray) c.out ?_;simp only[List.getElem?_toArray]
       exact kK _ Zo) (by simp[wN];omega) (by intro v hv;rw[List.eq_of_mem_replicate hv];rfl)
     rw[Qr] at this;refine(this.trans ?_);unfold splice;simp only[Nv,Qr];rfl
    ·have:=setRow_heap wr w1.heap.size _ (splice (wN N m (A (-1))) m (List.replicate (min m (N-m)) (A (-1)))).toArray _ _ c.out;rw[sL _ Zo] at this ⊢;exact Ja this
   clear c y;go_wp2
   go_region
   go_wp2;go_roundw
   case rel=>exact⟨m+min m (N-m),by rw[Int.natCast_add],by omega,by omega,a0,⟨d.os,d.tape,d.output,d.size,d.block⟩⟩
   case measure=>simp[intOf];omega
  ·go_wp2;go_ret;have:m=N:=Zo;subst this;refine⟨rfl,?_,y⟩;have:=c.out;rw[mI] at this
   simpa using this
end Go.Proofs.Ytojclalkfhoooaa
set_option maxRecDepth 8000
namespace Go.Proofs.Ytojclalkfhoooaa
open Go.RowKit
variable {P:Program}{w w':World}{b12 b13 bt i j k u:Nat}{c l post:List Nat}{g:List (List Nat)}{x:Int}{K:MK}{m:Mach}{xs:List Int}{seen:List Bool}{st:List (Nat×Nat)}
theorem UpN.lt {c:List Int}{f:Int->Int}{t:Int}:∀ {k a a':Nat},UpN c f t k a a'->a<c.length->a'<c.length
 |0,_,_,h,ha=>by rw[h.2];exact ha
 |k+1,_,_,h,_=>by obtain⟨_,a1,h1,_,h2⟩:=h;exact UpN.lt h2 h1
theorem nj{b n:Nat}{f:Int->Int}(h:ud w b n f)(c:-9223372036854775808<=x/\x<=9223372036854775807)(k:Nat):
 (Instr.lookup 126 (.map (some b)) (A x) false).run Try.prog (w.drewN k)=.ok (A (f x)) (w.drewN k):=
 (ud.look (h.same (w':=w.drewN k) rfl) c).1
theorem meet_any (w:World)(Bv Bi bv bm nm bi:Nat)(f:Int->Int)(c:List Int)(hn:c.length<=2000000)
 (c1:G w Bv 0 (Q bv)) (c2:G w bv 1 (.map (some bm))) (hm:ud w bm nm f)
 (c3:G w Bi 0 (N bi c.length c.length)) (hi:L w bi (c.map (Value.int .i64)).toArray 3)
 (k0 a b r:Nat) (ha:a<c.length) (hb:b<c.length) (hM:qZ c f k0 a b r):
 Y 121 #[A a,A b,Q Bv,Q Bi] w fun e w'=>e=.returned (A r)/\∃n,w'=w.drewN n:=by
 have o:=Ja hM;have HI:=Ja hi;have l:=Ja hm;clear hM hi hm;go_enter Try.func121,Try.ntmps121;go_wp2
 go_loopg [0,1] k0 (fun k x y wr=>∃a b:Nat,a<c.length/\b<c.length/\x=A a/\y=A b/\Hid (qZ c f k a b r)/\∃n,wr=w.drewN n)
 case atStart=>exact⟨a,b,ha,hb,rfl,rfl,o,0,rfl⟩
 case round=>
  clear ha hb o a b;obtain⟨a,b,ha,hb,rfl,rfl,o,n,rfl⟩:=hrel
  cases gk with
  |zero=>
   obtain⟨rfl,rfl⟩:=o.out;have a3:((r:Int) !=(r:Int))=false:=by simp
   go_wp2;go_ret
   exact⟨rfl,n,rfl⟩
  |succ k=>
   obtain⟨a4,j,a',h,j',b',t,hM⟩:=o.out;have a3:((a:Int) !=(b:Int))=true:=by simp;omega
   have m:=Ja h;have g:=Ja t;have a5:=Ja hM;have a2:=UpN.lt h ha;have a0:=UpN.lt t hb;clear a4 h t hM o;go_wp2
   go_loopg [0] j (fun j x wr=>∃a:Nat,a<c.length/\x=A a/\Hid (UpN c f (f b) j a a')/\∃n,wr=w.drewN n)
   case atStart=>exact⟨a,ha,rfl,m,n,rfl⟩
   case round=>
    clear m;obtain⟨x,b1,rfl,m,n2,rfl⟩:=hrel;have la:=nj l.out (x:=(x:Int)) Zo;have lb:=nj l.out (x:=(b:Int)) Zo
    cases gk with
    |zero=>
     obtain⟨i,rfl⟩:=m.out;have d:decide (f b<f a')=false:=by simpa using i
     go_wp2;go_quiet (fail);go_wp2
     go_loopg [1] j' (fun j y wr=>∃y0:Nat,y0<c.length/\y=A y0/\Hid (UpN c f (f a') j y0 b')/\∃n,wr=w.drewN n)
     case atStart=>exact⟨b,hb,rfl,g,_,World.drewN_drewN _ _ _⟩
     case round=>
      clear g d;obtain⟨y,b0,rfl,g,n3,rfl⟩:=hrel;have lc:=nj l.out (x:=(y:Int)) Zo
      cases gk with
      |zero=>
       obtain⟨i,rfl⟩:=g.out;have d:decide (f a'<f b')=false:=by simpa using i
       go_wp2;go_quiet (fail);go_wp2
       go_roundg k
       case measure=>omega
       case rel=>exact⟨a',b',a2,a0,rfl,rfl,a5,_,World.drewN_drewN _ _ _⟩
      |succ j2=>
       obtain⟨i,y1,h1,hy,h⟩:=g.out;have d:decide (f a'<f y)=true:=by simpa using i
       have cy:G w bi y (A y1):=zA HI.out (by simp[hy]);have a6:(y:Int)<c.length:=Zo;have u:=Ja h;clear hy h g;go_wp2;go_quiet (fail);go_wp2
       go_roundg j2
       case measure=>omega
       case rel=>exact⟨y1,h1,rfl,u,_,rfl⟩
    |succ j2=>
     obtain⟨i,a1,h1,hx,h⟩:=m.out;have d:decide (f b<f x)=true:=by simpa using i
     have cx:G w bi x (A a1):=zA HI.out (by simp[hx]);have a7:(x:Int)<c.length:=Zo;have u:=Ja h;clear hx h m;go_wp2;go_quiet (fail);go_wp2
     go_roundg j2
     case measure=>omega
     case rel=>exact⟨a1,h1,rfl,u,_,rfl⟩
theorem Try.info_irblock:(Try.prog.info? 49).map (fun i=>(i.zero,i.size,i.bytes))=some (some (.agg #[.slice none 0 0,.slice none 0 0,A 0,A 0,.slice none 0 0]),5,88):=by kernel_rfl
theorem pN{b n:Nat}(h:L w b (l.map wz).toArray 5)(hl:l.length=n):
 (convert 37 9 (N b n n)).run Try.prog w=.ok (.string (y9 l)) w:=by
 refine run_convert_bytes_arg w 37 5 Try.underlying37 Try.underlying5 b 0 n n (l.map fun(n:Nat)=>(n:Int)) (by simpa using hl) (fun i hi=>?_) 9 Try.underlying9;rw[Ng];have c:i<l.length:=Zo;refine zA h ?_;simp[Jj,Jd c,wz]
theorem mG (l:List Nat):(y9 l).size=l.length:=by
 unfold y9 strOfNums
 show Array.size _=_
 simp
end Go.Proofs.Ytojclalkfhoooaa
