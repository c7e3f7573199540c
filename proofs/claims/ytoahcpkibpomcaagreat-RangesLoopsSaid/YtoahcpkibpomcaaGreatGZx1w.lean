/- Part of a proof. -/
import Derived.Test.YtoahcpkibpomcaaGreatGDomw
import Derived.Carry
import Derived.Defers
import Derived.Lib.BufferWrite
import Derived.Recover
import Derived.WideKeyEntry
set_option linter.all false
set_option maxHeartbeats 6400000
set_option maxRecDepth 100000
namespace Go.Proofs.YtoahcpkibpomcaaGreat
open Go.RowKit
variable {bh bp k vb vn:Nat}{w w':World}{c g:List (List Nat)}{x:Int}{o:IOp}{K:MK}{m:Mach}{xs:List Int}{ns:List Nat}{call:Int->List Nat->Mach->Res Nat}
structure Flds where
 is:Bool
 res:Bool
 a:Bool
 b:Bool
 n:Bool
def zi (c:Int):Flds:=
 if c=1∨c=2∨c=24 then⟨true,true,false,false,true⟩
 else if c=3∨c=4∨c=18∨c=19 then⟨true,true,true,false,false⟩
 else if 5<=c/\c<=17 then⟨true,true,true,true,false⟩
 else if c=20∨c=21 then⟨true,false,true,true,false⟩
 else if c=22∨c=23 then⟨true,true,true,false,true⟩
 else if c=25 then⟨true,false,true,false,true⟩
 else if c=26∨c=27 then⟨true,false,false,false,false⟩
 else⟨false,false,false,false,false⟩
theorem rJ (c:Int):
 ((c=1∨c=2∨c=24)/\zi c=⟨true,true,false,false,true⟩)∨((c=3∨c=4∨c=18∨c=19)/\zi c=⟨true,true,true,false,false⟩)∨((5<=c/\c<=17)/\zi c=⟨true,true,true,true,false⟩)∨((c=20∨c=21)/\zi c=⟨true,false,true,true,false⟩)∨
 ((c=22∨c=23)/\zi c=⟨true,true,true,false,true⟩)∨(c=25/\zi c=⟨true,false,true,false,true⟩)∨((c=26∨c=27)/\zi c=⟨true,false,false,false,false⟩)∨((c<1∨27<c)/\zi c=⟨false,false,false,false,false⟩):=by
 unfold zi
 by_cases h1:c=1∨c=2∨c=24
 ·exact .inl ⟨h1,if_pos h1⟩
 rw[if_neg h1]
 by_cases h2:c=3∨c=4∨c=18∨c=19
 ·exact .inr (.inl ⟨h2,if_pos h2⟩)
 rw[if_neg h2]
 by_cases h3:5<=c/\c<=17
 ·exact .inr (.inr (.inl ⟨h3,if_pos h3⟩))
 rw[if_neg h3]
 by_cases i:c=20∨c=21
 ·exact .inr (.inr (.inr (.inl ⟨i,if_pos i⟩)))
 rw[if_neg i]
 by_cases h:c=22∨c=23
 ·exact .inr (Zi (.inl ⟨h,if_pos h⟩))
 rw[if_neg h]
 by_cases g:c=25
 ·exact .inr (.inr (Zi (.inl ⟨g,if_pos g⟩)))
 rw[if_neg g]
 by_cases d:c=26∨c=27
 ·exact .inr (.inr (.inr (Zi (.inl ⟨d,if_pos d⟩))))
 rw[if_neg d];exact .inr (.inr (.inr (Zi (.inr ⟨by omega,rfl⟩))))
def nL (f:Flds):Value:=.tuple #[.agg #[.bool f.res,.bool f.a,.bool f.b,.bool f.n],.bool f.is]
def yX (w:World)(f:Flds)(e:Ending)(w':World):Prop:=e=.returned (nL f)/\N w w'
theorem flds_1 (w:World):G 142 #[U 1] w (yX w ⟨true,true,false,false,true⟩):=by
 go_enter Tryz.func142,Tryz.ntmps142;go_wp2;exact bodyPost_ret (v:=.tuple #[.agg #[.bool true,.bool false,.bool false,.bool true],.bool true]) (by simp[results,Tryz.results142,go_sem]) rfl ⟨rfl,Zr⟩
theorem flds_2 (w:World):G 142 #[U 2] w (yX w ⟨true,true,false,false,true⟩):=by
 go_enter Tryz.func142,Tryz.ntmps142;go_wp2;exact bodyPost_ret (v:=.tuple #[.agg #[.bool true,.bool false,.bool false,.bool true],.bool true]) (by simp[results,Tryz.results142,go_sem]) rfl ⟨rfl,Zr⟩
theorem flds_3 (w:World):G 142 #[U 3] w (yX w ⟨true,true,true,false,false⟩):=by
 go_enter Tryz.func142,Tryz.ntmps142;go_wp2;exact bodyPost_ret (v:=.tuple #[.agg #[.bool true,.bool true,.bool false,.bool false],.bool true]) (by simp[results,Tryz.results142,go_sem]) rfl ⟨rfl,Zr⟩
theorem flds_4 (w:World):G 142 #[U 4] w (yX w ⟨true,true,true,false,false⟩):=by
 go_enter Tryz.func142,Tryz.ntmps142;go_wp2;exact bodyPost_ret (v:=.tuple #[.agg #[.bool true,.bool true,.bool false,.bool false],.bool true]) (by simp[results,Tryz.results142,go_sem]) rfl ⟨rfl,Zr⟩
theorem flds_18 (w:World):G 142 #[U 18] w (yX w ⟨true,true,true,false,false⟩):=by
 go_enter Tryz.func142,Tryz.ntmps142;go_wp2;exact bodyPost_ret (v:=.tuple #[.agg #[.bool true,.bool true,.bool false,.bool false],.bool true]) (by simp[results,Tryz.results142,go_sem]) rfl ⟨rfl,Zr⟩
theorem flds_19 (w:World):G 142 #[U 19] w (yX w ⟨true,true,true,false,false⟩):=by
 go_enter Tryz.func142,Tryz.ntmps142;go_wp2;exact bodyPost_ret (v:=.tuple #[.agg #[.bool true,.bool true,.bool false,.bool false],.bool true]) (by simp[results,Tryz.results142,go_sem]) rfl ⟨rfl,Zr⟩
theorem flds_20 (w:World):G 142 #[U 20] w (yX w ⟨true,false,true,true,false⟩):=by
 go_enter Tryz.func142,Tryz.ntmps142;go_wp2;exact bodyPost_ret (v:=.tuple #[.agg #[.bool false,.bool true,.bool true,.bool false],.bool true]) (by simp[results,Tryz.results142,go_sem]) rfl ⟨rfl,Zr⟩
theorem flds_21 (w:World):G 142 #[U 21] w (yX w ⟨true,false,true,true,false⟩):=by
 go_enter Tryz.func142,Tryz.ntmps142;go_wp2;exact bodyPost_ret (v:=.tuple #[.agg #[.bool false,.bool true,.bool true,.bool false],.bool true]) (by simp[results,Tryz.results142,go_sem]) rfl ⟨rfl,Zr⟩
theorem flds_22 (w:World):G 142 #[U 22] w (yX w ⟨true,true,true,false,true⟩):=by
 go_enter Tryz.func142,Tryz.ntmps142;go_wp2;exact bodyPost_ret (v:=.tuple #[.agg #[.bool true,.bool true,.bool false,.bool true],.bool true]) (by simp[results,Tryz.results142,go_sem]) rfl ⟨rfl,Zr⟩
theorem flds_23 (w:World):G 142 #[U 23] w (yX w ⟨true,true,true,false,true⟩):=by
 go_enter Tryz.func142,Tryz.ntmps142;go_wp2;exact bodyPost_ret (v:=.tuple #[.agg #[.bool true,.bool true,.bool false,.bool true],.bool true]) (by simp[results,Tryz.results142,go_sem]) rfl ⟨rfl,Zr⟩
theorem flds_24 (w:World):G 142 #[U 24] w (yX w ⟨true,true,false,false,true⟩):=by
 go_enter Tryz.func142,Tryz.ntmps142;go_wp2;exact bodyPost_ret (v:=.tuple #[.agg #[.bool true,.bool false,.bool false,.bool true],.bool true]) (by simp[results,Tryz.results142,go_sem]) rfl ⟨rfl,Zr⟩
theorem flds_25 (w:World):G 142 #[U 25] w (yX w ⟨true,false,true,false,true⟩):=by
 go_enter Tryz.func142,Tryz.ntmps142;go_wp2;exact bodyPost_ret (v:=.tuple #[.agg #[.bool false,.bool true,.bool false,.bool true],.bool true]) (by simp[results,Tryz.results142,go_sem]) rfl ⟨rfl,Zr⟩
theorem flds_26 (w:World):G 142 #[U 26] w (yX w ⟨true,false,false,false,false⟩):=by
 go_enter Tryz.func142,Tryz.ntmps142;go_wp2;exact bodyPost_ret (v:=.tuple #[.agg #[.bool false,.bool false,.bool false,.bool false],.bool true]) (by simp[results,Tryz.results142,go_sem]) rfl ⟨rfl,Zr⟩
theorem flds_27 (w:World):G 142 #[U 27] w (yX w ⟨true,false,false,false,false⟩):=by
 go_enter Tryz.func142,Tryz.ntmps142;go_wp2;exact bodyPost_ret (v:=.tuple #[.agg #[.bool false,.bool false,.bool false,.bool false],.bool true]) (by simp[results,Tryz.results142,go_sem]) rfl ⟨rfl,Zr⟩
theorem flds_mid (c:Int)(h:5<=c/\c<=17)(w:World):G 142 #[U c] w (yX w ⟨true,true,true,true,false⟩):=by
 have t1:((c:Int)==1)=false:=Ze;have t2:((c:Int)==2)=false:=Ze;have t3:((c:Int)==3)=false:=Ze;have t4:((c:Int)==4)=false:=Ze;have g:((c:Int)==18)=false:=Ze;have d:((c:Int)==19)=false:=Ze;have d1:decide (5<=c)=true:=by rw[decide_eq_true_eq];omega
 have d2:decide (c<=17)=true:=by rw[decide_eq_true_eq];omega
 clear h;go_enter Tryz.func142,Tryz.ntmps142;go_wp2;exact bodyPost_ret (v:=.tuple #[.agg #[.bool true,.bool true,.bool true,.bool false],.bool true]) (by simp[results,Tryz.results142,go_sem]) rfl ⟨rfl,Zr⟩
theorem flds_low (c:Int)(h:c<1)(w:World):G 142 #[U c] w (yX w ⟨false,false,false,false,false⟩):=by
 have t1:((c:Int)==1)=false:=Ze;have t2:((c:Int)==2)=false:=Ze;have t3:((c:Int)==3)=false:=Ze;have t4:((c:Int)==4)=false:=Ze;have u:((c:Int)==18)=false:=Ze;have t:((c:Int)==19)=false:=Ze;have o:((c:Int)==20)=false:=Ze;have m:((c:Int)==21)=false:=Ze;have l:((c:Int)==22)=false:=Ze;have k:((c:Int)==23)=false:=Ze;have j:((c:Int)==24)=false:=Ze;have i:((c:Int)==25)=false:=Ze;have g:((c:Int)==26)=false:=Ze;have d:((c:Int)==27)=false:=Ze;have d1:decide (5<=c)=false:=by rw[decide_eq_false_iff_not];omega
 clear h;go_enter Tryz.func142,Tryz.ntmps142;go_wp2;exact bodyPost_ret (v:=.tuple #[.agg #[.bool false,.bool false,.bool false,.bool false],.bool false]) (by simp[results,Tryz.results142,go_sem]) rfl ⟨rfl,Zr⟩
theorem iU (c:Int)(h:27<c)(w:World):G 142 #[U c] w (yX w ⟨false,false,false,false,false⟩):=by
 have t1:((c:Int)==1)=false:=Ze;have t2:((c:Int)==2)=false:=Ze;have t3:((c:Int)==3)=false:=Ze;have t4:((c:Int)==4)=false:=Ze;have u:((c:Int)==18)=false:=Ze;have t:((c:Int)==19)=false:=Ze;have o:((c:Int)==20)=false:=Ze;have m:((c:Int)==21)=false:=Ze;have l:((c:Int)==22)=false:=Ze;have k:((c:Int)==23)=false:=Ze;have j:((c:Int)==24)=false:=Ze;have i:((c:Int)==25)=false:=Ze;have g:((c:Int)==26)=false:=Ze;have d:((c:Int)==27)=false:=Ze;have d1:decide (5<=c)=true:=by rw[decide_eq_true_eq];omega
 have d2:decide (c<=17)=false:=by rw[decide_eq_false_iff_not];omega
 clear h;go_enter Tryz.func142,Tryz.ntmps142;go_wp2;exact bodyPost_ret (v:=.tuple #[.agg #[.bool false,.bool false,.bool false,.bool false],.bool false]) (by simp[results,Tryz.results142,go_sem]) rfl ⟨rfl,Zr⟩
theorem yu (c:Int)(w:World):G 142 #[U c] w (yX w (zi c)):=by
 rcases rJ c with⟨h,e⟩|⟨h,e⟩|⟨h,e⟩|⟨h,e⟩|⟨h,e⟩|⟨h,e⟩|⟨h,e⟩|⟨h,e⟩<;>rw[e]
 ·rcases h with rfl|rfl|rfl
  ·exact flds_1 w
  ·exact flds_2 w
  ·exact flds_24 w
 ·rcases h with rfl|rfl|rfl|rfl
  ·exact flds_3 w
  ·exact flds_4 w
  ·exact flds_18 w
  ·exact flds_19 w
 ·exact flds_mid c h w
 ·rcases h with rfl|rfl
  ·exact flds_20 w
  ·exact flds_21 w
 ·rcases h with rfl|rfl
  ·exact flds_22 w
  ·exact flds_23 w
 ·subst h;exact flds_25 w
 ·rcases h with rfl|rfl
  ·exact flds_26 w
  ·exact flds_27 w
 ·rcases h with h|h
  ·exact flds_low c h w
  ·exact iU c h w
def mh (l:List ByteArray):Bool:=l.all fun s=>decide (s.size=4096)
def lF (o:IObj)(l:List IObj):Bool:=l.all fun x=>!uK o x
def lm (nb:Nat)(l:List IObj)(i:Nat):Bool:=match l[i]? with|some o=>sW nb o && lF o (l.take i)|none=>true
def ig (nb:Nat)(l:List IObj):Bool:=(List.range l.length).all (lm nb l)
def lf (p:IProg):Bool:=mh p.banks && ig p.banks.length p.data
theorem xX{α:Type}(f:α->Bool){l:List α}{x:α}(h:l[k]? =some x):(l.take (k+1)).all f=((l.take k).all f && f x):=by
 rw[Nh,h,List.all_append];simp
theorem aaN{α:Type}(f:α->Bool){l:List α}{x:α}(h:l[k]? =some x)(hf:f x=false):l.all f=false:=by
 rw[Um];exact⟨x,Ji h,by rw[hf];simp⟩
theorem mO {nb:Nat}{l:List IObj}{i:Nat}(hi:i<l.length)(h:lm nb l i=false):ig nb l=false:=by
 unfold ig;rw[Um];exact⟨i,Ol.2 hi,by rw[h];simp⟩
def mQ (nb:Nat)(l:List IObj)(i:Nat):Bool:=(List.range i).all (lm nb l)
theorem nU (nb:Nat)(l:List IObj)(i:Nat):mQ nb l (i+1)=(mQ nb l i && lm nb l i):=by unfold mQ;rw[List.range_succ,List.all_append];simp
theorem kN{V:PV}{p:IProg}(hp:ProgIn w w.heap.size V p):
 G 116 #[yH V p] w fun e w'=>e=.returned (.bool (lf p))/\N w w':=by
 obtain⟨Vf,Va,Vd,Vb⟩:=V;obtain⟨f1,f2,e1,_,_⟩:=hp.funcs.form;obtain⟨a1,a2,e2,_,_⟩:=hp.args.form;have c8:=hp.data;have c9:=hp.banks;obtain⟨d1,d2,e3,i2,k9⟩:=hp.data.form;obtain⟨b1,b2,e4,l4,l2⟩:=hp.banks.form;simp only at e1 e2 e3 e4 c8 c9;subst e1 e2 e3 e4;have HP:=Ja hp;have h5:=Ja c8;have k1:=Ja c9;unfold yH;simp only;have l0:p.data.length<=d2:=i2;have l3:p.banks.length<=9223372036854775807:=Zo;clear hp c8 c9;go_enter Tryz.func116,Tryz.ntmps116;go_upto_region 1 with fail;have g8:N w (w.alloc (I (P p f1 f2 a1 a2 d1 d2 b1 b2) 29)):=(Below.refl _ _).alloc (Je _) _;have b9:=zI (W:=w) (o:=I (P p f1 f2 a1 a2 d1 d2 b1 b2) 29) rfl;generalize k0:w.alloc (I (P p f1 f2 a1 a2 d1 d2 b1 b2) 29)=W0 at *;have t:=Ja g8;have c1:=Ja b9;have p5:=K5 b9;have p4:=K4 b9;clear k0 g8 b9;go_wp2
 go_loopw [12] (fun kv wx=>∃k:Nat,k<=p.banks.length/\kv=U k/\wx=W0/\Hid ((p.banks.take k).all (fun s=>decide (s.size=4096))=true)) (fun kv _=>p.banks.length-(intOf kv).toNat)
 case atStart=>exact⟨0,Jt _,rfl,rfl,by rfl⟩
 case round=>
  obtain⟨k,hk,rfl,rfl,HK⟩:=hrel;generalize j0:wr=W0 at *;clear j0
  by_cases d3:k<p.banks.length
  ·have h9:(k:Int)<p.banks.length:=Zo;have h7:=Ja d3;obtain⟨s,hs⟩:∃s,p.banks[k]? =some s:=⟨_,Jd d3⟩
   obtain⟨b,o,rfl,hb,hc,k7⟩:=k1.out.get hs;rw[Nk] at hc;have cs:=zV t.out hb hc;have a5:=xX (fun s:ByteArray=>decide (s.size=4096)) hs;have a6:=fun h=>aaN (fun s:ByteArray=>decide (s.size=4096)) hs h
   have HT:=Ja (Jb a5 a6);clear hs hc hb a5 a6 d3
   by_cases hq:s.size=4096
   ·have t1:((s.size:Int) !=4096)=false:=by rw[bne_eq_false_iff_eq];omega
    have HQ:=Ja hq;clear hq;go_wp2;go_roundw
    case rel=>exact⟨k+1,h7.out,by go_num,by trivial,Ja (by rw[HT.out.1,HK.out];simp[HQ.out])⟩
    case measure=>have:=h7.out;simp[intOf];omega
   ·have t1:((s.size:Int) !=4096)=true:=by rw[bne_iff_ne];omega
    have HQ:=Ja hq;clear hq;go_wp2;go_ret;refine⟨rH ?_,t.out⟩;have i1:mh p.banks=false:=HT.out.2 (by simp[HQ.out]);unfold lf;rw[i1];rfl
  ·obtain rfl:k=p.banks.length:=by omega
   have h9:¬(p.banks.length:Int)<p.banks.length:=Zo;have g5:mh p.banks=true:=by have:=HK.out;rw[Nl] at this;exact this
   have f9:lf p=ig p.banks.length p.data:=by unfold lf;rw[g5];rfl
   have d6:=Ja f9;clear g5 f9 HK;go_wp2
   go_loopw [23] (fun iv wx=>∃i:Nat,i<=p.data.length/\iv=U i/\Hid (N W0 wx/\mQ p.banks.length p.data i=true)) (fun iv _=>p.data.length-(intOf iv).toNat)
   case atStart=>exact⟨0,Jt _,rfl,Below.refl _ _,by rfl⟩
   case round=>
    obtain⟨i,hi,rfl,HI⟩:=hrel
    by_cases a0:i<p.data.length
    ·skip
     have e7:(i:Int)<p.data.length:=Zo;have e5:=Ja a0;obtain⟨o,ho⟩:∃o,p.data[i]? =some o:=⟨_,Jd a0⟩
     obtain⟨b,oo,rfl,hb,b3,b0,a8,g2,g3,g0⟩:=h5.out.get ho;have c:N w wr:=t.out.trans (HI.out.1.mono t.out.size);have e0:=zV c hb b3;have e1:=zV c hb b0;have e2:=zV c hb a8;have x4:=zA (i:=4) (v:=.slice (some ⟨b,oo,none⟩) p.data.length d2) (zH HI.out.1 c1.out (lt_of_block c1.out)) Zs;have d4:=zH HI.out.1 c1.out (lt_of_block c1.out);have h6:=Ja (show I64 o.bank/\o.addr<65536/\o.size<65536 from⟨g2,g3,g0⟩);have l5:=Ja c;have HO:=Ja (Jb ho hb);have g1:lm p.banks.length p.data i=(sW p.banks.length o && lF o (p.data.take i)):=by unfold lm;rw[ho]
     have d8:=Ja g1;have g4:=fun h=>mO (nb:=p.banks.length) a0 h
     have h8:=Ja g4;clear ho hb b3 b0 a8 g2 g3 g0 a0 c g1 g4 p5 p4;go_upto_region 10 with fail;have a4:=zI (W:=wr) (o:=I #[U o.bank,Y (o.addr:Int),Y (o.size:Int)] 89) rfl;have g:=zB (o:=I #[U o.bank,Y (o.addr:Int),Y (o.size:Int)] 89) d4;have c3:=HI.out.1.alloc (HI.out.1.size) (I #[U o.bank,Y (o.addr:Int),Y (o.size:Int)] 89);have l1:W0.heap.size<=wr.heap.size:=HI.out.1.size;generalize j2:wr.alloc (I #[U o.bank,Y (o.addr:Int),Y (o.size:Int)] 89)=W1 at *;generalize wr.heap.size=b6 at *;have f3:=K0 a4;have f0:=K1 a4;have e9:=K2 a4;have y0:=K0 g;have y1:=K1 g;have y2:=K2 g;have y3:=K3 g;have y4:=K4 g;have y5:=K5 g;have m:=Ja (Jb c3 (t.out.trans (c3.mono t.out.size)));have HZ:=Ja (Jb a4 g);have a3:=kL ((HP.out.below m.out.2).mono m.out.2.size) o h6.out;unfold yH iz at a3;simp only at a3;have b5:=Ja a3;clear j2 a4 g c3 a3 d4 e0 e1 e2 x4;obtain⟨q1,c7⟩:∃q,sW p.banks.length o=q:=⟨_,rfl⟩
     rw[c7] at b5;have h4:=Ja c7;clear c7
     cases q1 with
     |false=>
      go_wp2_with (go_at_call 135;go_must (refine b5.out.mono ?_;rintro e w2 ⟨rfl,l⟩))
      go_ret;refine⟨rH ?_,m.out.2.trans (l.mono m.out.2.size)⟩;rw[d6.out]
      exact(h8.out (by rw[d8.out,h4.out];rfl)).symm
     |true=>
      go_upto_region 12 with(go_at_call 135;go_must (refine b5.out.mono ?_;rintro e w2 ⟨rfl,l⟩))
      have v4:=zA (i:=4) (v:=.slice (some ⟨b,oo,none⟩) p.data.length d2) (zH l HZ.out.2 (lt_of_block HZ.out.2)) Zs;have g9:=Ja (Jb (zH l HZ.out.1 (lt_of_block HZ.out.1)) l);have c4:=m.out.2.trans (l.mono m.out.2.size);have d:=Ja (Jb c4 (m.out.1.trans (l.mono m.out.1.size)));have k2:i<=d2:=Zo;clear f3 f0 e9 y0 y1 y2 y3 y4 y5 l c4;go_wp2
      go_loopw [37] (fun jv wx=>∃j:Nat,j<=i/\jv=U j/\Hid (N w2 wx/\lF o (p.data.take j)=true)) (fun jv _=>i-(intOf jv).toNat)
      case atStart=>exact⟨0,Jt _,rfl,Below.refl _ _,by rfl⟩
      case round=>
       obtain⟨j,hj,rfl,HJ⟩:=hrel
       by_cases b4:j<i
       ·have e6:(j:Int)<i:=Zo;have d9:=Ja b4;obtain⟨x,hx⟩:∃x,p.data[j]? =some x:=⟨_,Jd Zo⟩
        obtain⟨b',o',e',c0,b3,b0,a8,f6,f7,f5⟩:=h5.out.get hx;cases e';have c:=d.out.1.trans (HJ.out.1.mono d.out.1.size);have e0:=zV c c0 b3;have e1:=zV c c0 b0;have e2:=zV c c0 a8;have f4:=zH HJ.out.1 g9.out.1 (lt_of_block g9.out.1);have i0:=Ja (show I64 x.bank/\x.addr<65536/\x.size<65536 from⟨f6,f7,f5⟩);have a5:=xX (fun y=>!uK o y) hx;have f8:(p.data.take i)[j]? =some x:=by rw[Ug,if_pos b4];exact hx
        have a6:=fun h=>aaN (fun y=>!uK o y) f8 h
        have HT:=Ja (Jb a5 a6);have k3:=Ja c;clear hx c0 b3 b0 a8 f6 f7 f5 a5 a6 f8 b4 c;go_upto_region 15 with fail;have b7:=zI (W:=wr) (o:=I #[U x.bank,Y (x.addr:Int),Y (x.size:Int)] 89) rfl;have u:=zB (o:=I #[U x.bank,Y (x.addr:Int),Y (x.size:Int)] 89) f4;have g6:=HJ.out.1.alloc HJ.out.1.size (I #[U x.bank,Y (x.addr:Int),Y (x.size:Int)] 89);generalize j1:wr.alloc (I #[U x.bank,Y (x.addr:Int),Y (x.size:Int)] 89)=W8 at *;generalize wr.heap.size=b8 at *;have f3:=K0 u;have f0:=K1 u;have e9:=K2 u;have k6:=K0 b7;have k5:=K1 b7;have k4:=K2 b7;have d0:=nT W8 o x h6.out i0.out;unfold iz at d0;have d7:=Ja d0;have c2:=Ja g6;clear j1 b7 u f4 g6 d0 e0 e1 e2;obtain⟨q2,c5⟩:∃q,uK o x=q:=⟨_,rfl⟩
        rw[c5] at d7;have h0:=Ja c5;clear c5
        cases q2 with
        |true=>
         go_wp2_with (go_at_call 136;go_must (refine d7.out.mono ?_;rintro e w3 ⟨rfl,d5⟩))
         go_ret;have i8:=c2.out.trans (d5.mono c2.out.size);refine⟨rH ?_,d.out.1.trans (i8.mono d.out.1.size)⟩;rw[d6.out]
         exact(h8.out (by rw[d8.out];unfold lF;rw[HT.out.2 (by rw[h0.out];rfl),Uh])).symm
        |false=>
         go_wp2_with (go_at_call 136;go_must (refine d7.out.mono ?_;rintro e w3 ⟨rfl,d5⟩))
         go_roundw
         case rel=>exact⟨j+1,d9.out,by go_num,Ja ⟨c2.out.trans (d5.mono c2.out.size),by unfold lF;rw[HT.out.1];have:=HJ.out.2;unfold lF at this;rw[this,h0.out];rfl⟩⟩
         case measure=>have:=d9.out;simp[intOf];omega
       ·obtain rfl:j=i:=by omega
        have e6:¬(j:Int)<j:=Zo;go_wp2;go_roundw
        case rel=>
         refine⟨j+1,e5.out,by go_num,Ja ⟨d.out.2.trans (HJ.out.1.mono d.out.2.size),?_⟩⟩;rw[nU,HI.out.2,d8.out,h4.out,HJ.out.2];rfl
        case measure=>have:=e5.out;simp[intOf];omega
    ·obtain rfl:i=p.data.length:=by omega
     have e7:¬(p.data.length:Int)<p.data.length:=Zo;go_wp2;go_ret;refine⟨rH ?_,t.out.trans (HI.out.1.mono t.out.size)⟩;rw[d6.out];exact HI.out.2.symm
open Go.RowKit Go.Maps
theorem px (w:World):(zeroValue 3).run Tryz.prog w=.ok (U 0) w:=by kernel_rfl
def i4 (w:World)(b n:Nat)(g:Int->Option Int):Prop:=
 ∃D:DataW Unit,w.ownsMap Tryz.prog 3 (plainElem Tryz.prog 3) b n D/\∀x,I64 x->D.atKey (.int .i64 x) (.lit (.int .i64 0))=.lit (.int .i64 ((g x).getD 0))/\Maps.has D (.int .i64 x)=(g x).isSome
theorem i4.made (w:World):i4 (w.alloc (.map #[] 0)) w.heap.size 0 (fun _=>none):=⟨_,World.ownsMap_made _ _ _ _,fun _ _=>⟨rfl,rfl⟩⟩
theorem i4.blk{b n:Nat}{g:Int->Option Int}(h:i4 w b n g):∃es clock,w.heap[b]? =some (.map es clock):=by
 obtain⟨D,⟨es,clock,h1,h2⟩,h3⟩:=h;exact⟨es,clock,h1⟩
theorem i4.same{b n:Nat}{g:Int->Option Int}(h:i4 w b n g)(hb:w'.heap[b]? =w.heap[b]?):i4 w' b n g:=by
 obtain⟨D,⟨es,c,h1,h2⟩,h3⟩:=h;exact⟨D,⟨es,c,hb.trans h1,h2⟩,h3⟩
theorem i4.look{b n:Nat}{g:Int->Option Int}(h:i4 w b n g)(j:I64 x):
 (Instr.lookup 171 (.map (some b)) (.int .i64 x) false).run Tryz.prog w=.ok (.int .i64 ((g x).getD 0)) w:=by
 obtain⟨D,h,hf⟩:=h;obtain⟨c,i,d,k⟩:=h.lookup_int xH Tryz.underlying171 Tryz.underlying3 (px w) (vB j);rw[(hf x j).1] at d;simp only[DataW.lit.injEq,Lit.int.injEq,true_and] at d;subst d;exact i
theorem i4.lookOk{b n:Nat}{g:Int->Option Int}(h:i4 w b n g)(i:I64 x):
 (Instr.lookup 171 (.map (some b)) (.int .i64 x) true).run Tryz.prog w=.ok (.tuple #[.int .i64 ((g x).getD 0),.bool (g x).isSome]) w:=by
 obtain⟨D,h,hf⟩:=h;obtain⟨v,ps,d,hv⟩:=h.look_ok xH Tryz.underlying171 (px w) (plainElem_int Tryz.underlying3 Zd) (vB i);rw[(hf x i).1] at hv;obtain⟨c,rfl,j,_⟩:=plainElem_int_inv Tryz.underlying3 hv;simp only[Prod.mk.injEq,DataW.lit.injEq,Lit.int.injEq,true_and] at j;rw[(hf x i).2,<-j.1] at d;exact d
def lS (g:Int->Option Int)(x v:Int):Int->Option Int:=fun y=>if y=x then some v else g y
def opF (p:IProg)(o:IOp):Bool:=
 (zi o.code).is &&
  (if o.code=26 then decide (0<=o.a) && decide (o.a<p.funcs.length) && decide ((o.args.length:Int)=p.args.getD o.a.toNat 0) && decide (-1<=o.res) && decide (o.b=0) && decide (o.n=0)
   else if o.code=2 then decide (0<=o.a) && decide (o.a<p.data.length) && decide (0<=o.res) && decide (o.b=0) && decide (o.args.length=0)
   else decide ((zi o.code).res=decide (0<=o.res)) && decide (-1<=o.res) && ((zi o.code).a||decide (o.a=0)) && ((zi o.code).b||decide (o.b=0)) && ((zi o.code).n||decide (o.n=0)) && decide (o.args.length=0) &&
    (decide (o.code≠24) && decide (o.code≠25)||decide (1<=o.n) && decide (o.n<=255)))
def uM (blocks:List IBlk)(e:IEdge):Bool:=decide (1<=e.block) && decide (e.block<blocks.length) && decide (e.args.length=(xz blocks e.block).params.length)
def mb (blocks:List IBlk)(t:ITerm):Bool:=
 t.to.all (uM blocks) &&
  (if t.kind=1 then decide (t.to.length=1) && decide (t.a=0)
   else if t.kind=2 then decide (t.to.length=2)
   else if t.kind=3 then decide (1<=t.to.length)
   else if t.kind=4 then decide (t.to.length=0)
   else if t.kind=5 then decide (t.to.length=0) && decide (t.a=0)
   else false)
abbrev wO:=(Int->Option Int)×(Int->Option Int)
def rB (d:wO)(v i k:Int):Option wO:=if(d.1 v).isSome∨v<0∨65535<v then none else some (lS d.1 v i,lS d.2 v k)
def vJ (i:Int):List Int->wO->Option wO
 | [],d=>some d
 |v::vs,d=>(rB d v i (-1)).bind (vJ i vs)
def sS (p:IProg)(i:Int):List IOp->Int->wO->Option wO
 | [],_,d=>some d
 |o::os,k,d=>if opF p o then(if 0<=o.res then(rB d o.res i k).bind (sS p i os (k+1)) else sS p i os (k+1) d) else none
def pS (p:IProg)(blocks:List IBlk)(i:Int)(b:IBlk)(d:wO):Option wO:=
 ((vJ i b.params d).bind (sS p i b.ops 0)).bind fun d'=>if mb blocks b.term then some d' else none
def uH (p:IProg)(blocks:List IBlk):List IBlk->Int->wO->Option wO
 | [],_,d=>some d
 |b::bs,i,d=>(pS p blocks i b d).bind (uH p blocks bs (i+1))
def wg (p:IProg)(blocks:List IBlk):Option wO:=uH p blocks blocks 0 (fun _=>none,fun _=>none)
theorem ahl{p:IProg}(h:opF p o=true):ajK p o:=by
 unfold opF at h;rw[Jm] at h;obtain⟨h1,h2⟩:=h;refine⟨?_,?_,?_⟩
 ·have:=rJ o.code;rcases this with⟨h,e⟩|⟨h,e⟩|⟨h,e⟩|⟨h,e⟩|⟨h,e⟩|⟨h,e⟩|⟨h,e⟩|⟨h,e⟩
  all_goals first|omega|(rw[e] at h1;exact absurd h1 Zd)
 ·intro h;rw[if_neg Zo,if_pos h] at h2;simp only[Jm,decide_eq_true_eq] at h2;omega
 ·intro h;rw[if_pos h] at h2;simp only[Jm,decide_eq_true_eq] at h2;omega
theorem acV {blocks:List IBlk}{t:ITerm}(h:mb blocks t=true):bS blocks t:=by
 unfold mb at h;rw[Jm,Oe] at h;obtain⟨h1,h2⟩:=h
 have hk:t.kind=1/\t.to.length=1∨t.kind=2/\t.to.length=2∨t.kind=3/\1<=t.to.length∨t.kind=4∨t.kind=5:=by
  by_cases k1:t.kind=1
  ·rw[if_pos k1] at h2;simp only[Jm,decide_eq_true_eq] at h2;exact .inl ⟨k1,h2.1⟩
  by_cases k2:t.kind=2
  ·rw[if_neg k1,if_pos k2] at h2;simp only[decide_eq_true_eq] at h2;exact .inr (.inl ⟨k2,h2⟩)
  by_cases k3:t.kind=3
  ·rw[if_neg k1,if_neg k2,if_pos k3] at h2;simp only[decide_eq_true_eq] at h2;exact .inr (.inr (.inl ⟨k3,h2⟩))
  by_cases k4:t.kind=4
  ·exact .inr (.inr (.inr (.inl k4)))
  by_cases k5:t.kind=5
  ·exact .inr (Zi k5)
  rw[if_neg k1,if_neg k2,if_neg k3,if_neg k4,if_neg k5] at h2;cases h2
 refine⟨by omega,by omega,by omega,by omega,fun e he=>?_⟩;have:=h1 e he;unfold uM at this;simp only[Jm,decide_eq_true_eq] at this;omega
theorem Tryz.info_event:(Tryz.prog.info? 117).map (fun i=>(i.zero,i.size,i.bytes))=some (some (.agg #[Y 0,Y 0]),2,4):=by kernel_rfl
theorem p9 (E:IEnv)(b a:Nat):tS E b a<256:=by unfold tS;exact UInt8.toNat_lt _
theorem xN{row:Option Nat}(h:w.drew.grownBy w' row):w.grownBy w' row:=⟨h.os,h.tape,h.output,h.size,h.block⟩
theorem step_ar{ov:Value}(h:MachAt w K m ov){oc g oa ob:Int}{on:Nat}(a3:I64 oa)(a2:I64 ob)(b7:on<65536)(ab:Option Addr)(an ac:Nat){v:Int->Nat}(hv:xO w vb vn v)(d:Int)(hc:5<=oc/\oc<=17):
 G 155 #[Q K.pm,.agg #[U oc,U g,U oa,U ob,Y on,.slice ab an ac],.map (some vb),U d] w (zQ K w (iy m oc (v oa) (v ob))):=by
 have a0:=fun(W:World) (hW:Frm K.B w W)=>(hv.kept hW).look a3
 have u:=fun(W:World) (hW:Frm K.B w W)=>(hv.kept hW).look a2
 have t:=hv.2 oa;have l:=hv.2 ob;have b8:=h.size;have a1:=Ja (h.keep ((Below.refl _ _).alloc (Je _) (I #[U oc,U g,U oa,U ob,Y on,.slice ab an ac] 76)));have j:=Ja ((Frm.refl K.B w).alloc Zo (I #[U oc,U g,U oa,U ob,Y on,.slice ab an ac] 76));have la:=fun n:Nat=>a0 _ (j.out.drewN (n:=n))
 have lb:=fun n:Nat=>u _ (j.out.drewN (n:=n))
 have i:=zI (W:=w) (o:=I #[U oc,U g,U oa,U ob,Y on,.slice ab an ac] 76) rfl;clear h hv a0 u;generalize v oa=xa at *;generalize v ob=xb at *;go_enter Tryz.func155,Tryz.ntmps155;go_upto_region 1 with fail;generalize a4:w.alloc (I #[U oc,U g,U oa,U ob,Y on,.slice ab an ac] 76)=W1 at *;clear a4;have p0:=K0 i;have p2:=K2 i;have p3:=K3 i;have p4:=K4 i
 go_cut [9,10] (fun x y wx=>x=Y xa/\y=Y xb/\∃n,wx=W1.drewN n)
 case first=>
  go_quiet (fail);go_wp2;go_meet;exact⟨rfl,rfl,_,rfl⟩
 case rest=>
  obtain⟨rfl,rfl,n,rfl⟩:=hcut;have HM:=Ja (a1.out.drewN n);have HF:=Ja (j.out.drewN (n:=n));have q0:(W1.drewN n).cell? ⟨w.heap.size,0,none⟩=_:=p0;have q2:(W1.drewN n).cell? ⟨w.heap.size,2,none⟩=_:=p2;have q4:(W1.drewN n).cell? ⟨w.heap.size,4,none⟩=_:=p4;clear la lb p0 p2 p3 p4 i a1 j;generalize W1.drewN n=W2 at *;have t1:((oc:Int)==1)=false:=Ze;have t2:((oc:Int)==2)=false:=Ze;have t3:((oc:Int)==3)=false:=Ze;have t4:((oc:Int)==4)=false:=Ze;have b6:((oc:Int)==18)=false:=Ze;have b5:((oc:Int)==19)=false:=Ze;have b4:((oc:Int)==20)=false:=Ze;have b3:((oc:Int)==21)=false:=Ze;have b2:((oc:Int)==22)=false:=Ze;have b1:((oc:Int)==23)=false:=Ze;have b0:((oc:Int)==24)=false:=Ze;have a8:((oc:Int)==25)=false:=Ze;have a6:((oc:Int)==26)=false:=Ze;have a5:((oc:Int)==27)=false:=Ze;have c:=jD oc hc xa xb t l;unfold rq at c
  by_cases k:oc=8/\xb=0
  ·have EE:=Ja (show iy m oc xa xb=.trap 4 0 m by unfold iy;rw[if_pos k]);simp only[if_pos k] at c;have HC:=Ja c;clear hc c k;go_wp2_with (go_at_call 163;go_must (refine(HC.out _).mono ?_;rintro e w' ⟨rfl,rfl⟩))
   exact⟨rfl,by rw[EE.out];exact zQ.trap HM.out HF.out⟩
  ·have EE:=Ja (show iy m oc xa xb=.ok (yW oc xa xb) m by unfold iy;rw[if_neg k]);simp only[if_neg k] at c;have HC:=Ja c;clear hc c k;go_wp2_with (go_at_call 163;go_must (refine(HC.out _).mono ?_;rintro e w' ⟨rfl,rfl⟩))
   go_ret;rw[EE.out];exact zQ.ok HM.out HF.out (jz _ _ _ t l)
theorem zM {fn:Func}{p:Tmp}{ty:TypeId}(h:fn.results=#[.cell p ty])(c:Array Value)(P:Program)(w:World):
 (results fn c).run P w=((asAddr (c.getD p undef)).run P w).andThen fun a w₁=>(loadVar ty a).run P w₁:=by
 simp only[results,h];simp[Sem.run_bind,Result.andThen]
structure GMem (V w:World) (bp bh n m:Nat) (R:List (List Int)):Prop where
 hg:w.heap[bh]? =some (.cells #[.slice (some ⟨bp,0,none⟩) n n] 105 (0,0))
 hr:OwnRows zN 3 22 w V.heap.size bp R
 hl:R.length=n
 hrl:∀row∈R,row.length<=m
 hb:Below V.heap.size V w
 gp:V.heap.size<=bp
 gh:V.heap.size<=bh
theorem GMem.start (V:World)(n m:Nat):GMem V ((V.alloc (I (madeCells #[L] n) 22)).alloc (I #[F V.heap.size n n] 105)) V.heap.size (V.heap.size+1) n m (List.replicate n []):=by
 refine⟨zI Zs,OwnRows.made n ?_,by simp,(by intro r hr;rw[(List.mem_replicate.1 hr).2];simp),((Below.refl _ V).alloc (Je _) _).alloc Zs _,Je _,by omega⟩;rw[zB (zI rfl),yA]
theorem GMem.start' (V:World)(b:Nat)(hb:V.heap.size=b)(n m:Nat):GMem V ((V.alloc (I (madeCells #[L] n) 22)).alloc (I #[F b n n] 105)) b (b+1) n m (List.replicate n []):=by
 subst hb;exact GMem.start V n m
theorem GMem.alloc{V:World}{n m:Nat}{R:List (List Int)}(h:GMem V w bp bh n m R)(o:Obj):GMem V (w.alloc o) bp bh n m R:=
 ⟨zB h.hg,h.hr.kept (row:=none) ⟨rfl,rfl,rfl,by simp,fun k hk _=>Below.heap_alloc w o k hk⟩ Zs Zs,h.hl,h.hrl,h.hb.alloc h.hb.size o,h.gp,h.gh⟩
theorem GMem.put{V w2:World}{n m s g c H d:Nat}{R:List (List Int)}{row row':List Int}{a:Option Addr}{o:Obj}(h:GMem V w bp bh n m R)(hs:R[s]? =some row)
 (hc:A w bp s (.slice a row.length d)) (hg:(w.alloc o).grownBy w2 (Value.slice a row.length d).ownBlock)
 (u:w2.ownsRow V.heap.size 3 1 (F g row'.length c) row'.length (row'.map zN)) (a0:(Value.slice a row.length d).ownBlock=some g∨g=H) (hH:w.heap.size<=H) (hm:row'.length<=m):
 GMem V (w2.setCell ⟨bp,s,none⟩ (F g row'.length c)) bp bh n m (R.set s row'):=by
 obtain⟨h1,h2,h3,a1,x,h5,h6⟩:=h;obtain⟨a',a2,l,i,_⟩:=h2.get hs;rw[hc] at l;cases l;have n1:=zC i h1 (.inr Zd);have t:=h2.put Zd hs hc hg (row':=row') u a0 hH;have l1:=lt_of_block h1;obtain⟨cc,j⟩:=h2.blk;have y:bh≠bp:=fun e=>by subst e;rw[h1] at j;simp at j
 exact⟨zR (zL hg (zB h1) n1) (by simpa using y),t,by simpa using h3,fun r hr=>by(rcases Qe hr with hr|rfl;exact a1 r hr;exact hm),((x.alloc (by have:=x.size;omega) o).grown hg (by have:=x.size;simp;omega) (fun k hk=>(i.lt k hk).1)).setCell h5 _,h5,h6⟩
section
variable {α:Type} {enc:α->Value} {e eS:TypeId} {w:World} {B bp:Nat} {rows:List (List α)}
theorem OwnRows.base (h:OwnRows enc e eS w B bp rows){B':Nat}(hB:B'<=B):OwnRows enc e eS w B' bp rows:=by
 obtain⟨vs,h1,h2,h3,c⟩:=h;exact⟨vs,h1,h2,fun k r v a b=>vY (h3 k r v a b) hB,c⟩
theorem OwnRows.below(h:OwnRows enc e eS w B bp rows)(hb:N w w'):OwnRows enc e eS w' B bp rows:=by
 obtain⟨vs,h1,h2,h3,c⟩:=h;exact⟨vs,zH hb h1 (lt_of_block h1),h2,fun k r v a b=>p7 (h3 k r v a b) hb (Je _),c⟩
theorem OwnRows.set (h:OwnRows enc e eS w B bp rows){a:Addr}(c:a.block≠bp)(d:a.block<B)(u:Value):OwnRows enc e eS (w.setCell a u) B bp rows:=
 h.kept (w':=w.setCell a u) (row:=some a.block) ⟨rfl,rfl,rfl,by simp[World.setCell],fun k _ hk=>Below.heap_setCell _ _ _ _ (fun e=>hk (by rw[e]))⟩ (fun e=>c (by cases e;rfl)) (fun k hk=>by cases hk;exact d)
end
def yM (w:World)(size:Nat)(xv:Value)(m:Nat)(news:List Value):Prop:=
 ∃a c,xv=.slice a m c/\news.length=m*size/\(∀u∈news,u.oneCell'=true)/\((a=none/\m=0)∨∃ad,a=some ad/\∀j u,news[j]? =some u->w.cell? (ad.add j)=some u)
theorem tE {P:Program}(w:World)(base:Nat)(t ty e:TypeId)(i:TypeInfo)(z:Value)(size bytes:Nat)(ht:P.underlying t=some (.slice e))(hi:P.info? e=some i)(hz:i.zero=some z)
 (k:i.size=size) (a1:i.bytes=bytes) (x:z.cells.size=size) (y:0<size) (v:Value) (n:Nat) (xs:List Value) (h:w.ownsRow base e size v n xs)
 (xv:Value) (m:Nat) (d:List Value) (u:yM w size xv m d) (a2:n+m<=maxLen) (j:(n+m)*bytes<=140737488355328) (o:base<=w.heap.size):
 ∃v' w',(Builtin.append_ #[t,t] ty #[v,xv]).run P w=.ok v' w'/\w'.ownsRow base e size v' (n+m) (xs++d)/\w.grownBy w' v.ownBlock/\(v'.ownBlock=v.ownBlock∨v'.ownBlock=some w.heap.size):=by
 obtain⟨a,c,rfl,hl,h1,⟨rfl,rfl⟩|⟨ad,rfl,l⟩⟩:=u
 ·have hn:d=[]:=Nz (by simpa using hl);subst hn;refine⟨v,w,?_,by simpa using h,⟨rfl,rfl,rfl,Je _,fun _ _ _=>rfl⟩,.inl rfl⟩;rcases h.2 with⟨rfl,rfl⟩|⟨g,a8,cur,rfl,a6,hg,a0,a5,a4,a3⟩
  ·simp[Builtin.append_,run_underlying ht,sizeOf,typeInfo,hi,Builtin.lenOf,run_firstCells_none]
  ·simp[Builtin.append_,run_underlying ht,sizeOf,typeInfo,hi,Builtin.lenOf,run_firstCells_none,a0,storeCells]
 ·obtain⟨v',w',h2,h3,h4,_,h5⟩:=run_append_own_at (P:=P) w base t ty e i z size bytes ht hi hz k a1 x y v n xs h ad m c d hl l h1 a2 j o;exact⟨v',w',h2,h3,h4,h5⟩
theorem zK {P:Program}(w:World){ops:Array Oper}{rest:List Oper}{o:Oper}{a:Act}{Q:Exit->Act->World->Prop}(a0:o.guard=none)(s x:Operand)(t:TypeId)
 (ho:o.op=.call {callee:=.builtin .append,args:=#[s,x],argTypes:=#[t,t]})
 (base:Nat) (e:TypeId) (i:TypeInfo) (z:Value) (size bytes:Nat) (ht:P.underlying t=some (.slice e)) (hi:P.info? e=some i) (hz:i.zero=some z)
 (g:i.size=size) (a1:i.bytes=bytes) (u:z.cells.size=size) (y:0<size)
 (v:Value) (n:Nat) (xs:List Value) (hs:a.eval s=v) (l:w.ownsRow base e size v n xs)
 (xv:Value) (m:Nat) (c:List Value) (hx:a.eval x=xv) (k:yM w size xv m c) (a2:n+m<=maxLen) (d:(n+m)*bytes<=140737488355328) (j:base<=w.heap.size)
 (h:∀v' w',w'.ownsRow base e size v' (n+m) (xs++c)->w.grownBy w' v.ownBlock->(v'.ownBlock=v.ownBlock∨v'.ownBlock=some w.heap.size)->wpList P ops Q rest (a.put o.dst v') w'):
 wpList P ops Q (o::rest) a w:=by
 refine wpList_plain a0 fun K hK=>?_
 obtain⟨v',w',hr,h2,h3,h5⟩:=tE (P:=P) w base t o.type e i z size bytes ht hi hz g a1 u y v n xs l xv m c k a2 d j;unfold Oper.wp execOp;simp only[ho,resolve,invoke,builtin,Sem.run_bind,Sem.run_pure,Result.andThen_ok,List.map_toArray,Ql,List.map_nil,hs,hx,hr];exact hK _ _ (h v' w' h2 h3 h5)
theorem yM.one{b:Nat}{x:Value}{e:TypeId}(h:O w b #[x] e)(c:x.oneCell'=true):yM w 1 (F b 1 1) 1 [x]:=
 ⟨_,_,rfl,rfl,by simpa using c,.inr ⟨_,rfl,Oi (cs:=#[x]) h⟩⟩
theorem zY.src{B:Nat}{v:Value}(h:zY w B v xs):yM w 1 v xs.length (xs.map zN):=by
 obtain⟨a,d,rfl,h1,h2,h3⟩:=h;refine⟨a,d,rfl,by simp,by simp[zN,Value.oneCell'],?_⟩
 cases xs with
 |nil=>
  cases a with
  |none=>exact .inl ⟨rfl,rfl⟩
  |some ad=>exact .inr ⟨ad,rfl,fun j u hu=>by simp at hu⟩
 |cons x xs=>
  obtain⟨b,o,rfl,_,_⟩:=h3 0 x rfl;refine .inr ⟨_,rfl,fun j u hu=>?_⟩;rw[Jr,Oz] at hu;obtain⟨y,g,rfl⟩:=hu;obtain⟨b',o',e,_,c,_⟩:=h3 j y g;cases e;rw[Nk] at c;unfold Addr.add
  split
  ·rename_i i;rw[i] at c;exact c
  ·exact c
theorem uA{S:Nat}{v:Value}{n:Nat}(h:w.ownsRow S 3 1 v n (xs.map zN))(j:xs.length=n)(i:∀x∈xs,I64 x):zY w w.heap.size v xs:=by
 subst j;obtain⟨a,c,rfl⟩:=zG h;have hl:=zm h;refine⟨a,c,rfl,hl.1,by omega,fun k x hk=>?_⟩;have l:=(Jh.1 hk).1;obtain⟨g,m,e,hg,d⟩:=h.form Zo;cases e;refine⟨g,0,rfl,d,?_,i x (Ji hk)⟩;rw[Nk,Ng];exact(h.cellAt k Zo).trans (by rw[Jr,hk];rfl)
theorem zY.all{B:Nat}{v:Value}(h:zY w B v xs):∀x∈xs,I64 x:=by
 intro x c;obtain⟨k,hk⟩:=Ny c;obtain⟨_,_,_,_,_,h3⟩:=h;obtain⟨_,_,_,_,_,d⟩:=h3 k x hk;exact d
theorem yG{P:Program}{ops:Array Oper}{o:Oper}{a:Act}{K:Act->World->Prop}{Q:Exit->Act->World->Prop}{E:Prop}(a0:o.guard=none)(s x:Operand)(t:TypeId)
 (ho:o.op=.call {callee:=.builtin .append,args:=#[s,x],argTypes:=#[t,t]})
 (base:Nat) (e:TypeId) (i:TypeInfo) (z:Value) (size bytes:Nat) (ht:P.underlying t=some (.slice e)) (hi:P.info? e=some i) (hz:i.zero=some z)
 (g:i.size=size) (a1:i.bytes=bytes) (u:z.cells.size=size) (y:0<size)
 (v:Value) (n:Nat) (xs:List Value) (hs:a.eval s=v) (l:w.ownsRow base e size v n xs)
 (xv:Value) (m:Nat) (c:List Value) (hx:a.eval x=xv) (k:yM w size xv m c) (a2:n+m<=maxLen) (d:(n+m)*bytes<=140737488355328) (j:base<=w.heap.size)
 (h:∀aa cap w',w'.ownsRow base e size (.slice aa (n+m) cap) (n+m) (xs++c)->w.grownBy w' v.ownBlock->((Value.slice aa (n+m) cap).ownBlock=v.ownBlock∨(Value.slice aa (n+m) cap).ownBlock=some w.heap.size)->K (a.put o.dst (.slice aa (n+m) cap)) w'):
 if Region.wanted o (yielded ops a.tmps)=true then Oper.wp P o a w K Q else E:=by
 have hw:Region.wanted o (yielded ops a.tmps)=true:=by simp[Region.wanted,a0]
 rw[if_pos hw];obtain⟨v',w',hr,h2,h3,h5⟩:=tE (P:=P) w base t o.type e i z size bytes ht hi hz g a1 u y v n xs l xv m c k a2 d j;obtain⟨aa,cap,rfl⟩:=zG h2;unfold Oper.wp execOp;simp only[ho,resolve,invoke,builtin,Sem.run_bind,Sem.run_pure,Result.andThen_ok,List.map_toArray,Ql,List.map_nil,hs,hx,hr];exact h aa cap w' h2 h3 h5
end Go.Proofs.YtoahcpkibpomcaaGreat
set_option maxRecDepth 8000
namespace Go.Proofs.YtoahcpkibpomcaaGreat
open Go.RowKit Go.Shelf
variable {bh bp k vb vn:Nat}{w w':World}{c g:List (List Nat)}{x:Int}{o:IOp}{K:MK}{m:Mach}{xs:List Int}{ns:List Nat}{call:Int->List Nat->Mach->Res Nat}
def j6 (w:World)(xs:List Int)(e:Ending)(w':World):Prop:=∃v,e=.returned v/\w'.ownsRow w.heap.size 3 1 v xs.length (xs.map zN)/\N w w'
theorem lI (g:List (List Nat))(c:List Nat):(un g c).length=g.length:=by
 have h1:∀(l:List Nat) (P:List (List Nat)) (n:Nat),(l.foldl (xS n) P).length=P.length:=by
  intro l
  induction l with
  |nil=>intros;rfl
  |cons a l ih=>intro P n;rw[Qk,ih];simp[xS]
 have h2:∀(l:List Nat) (P:List (List Nat)),(l.foldl (yh g) P).length=P.length:=by
  intro l
  induction l with
  |nil=>intros;rfl
  |cons a l ih=>intro P;rw[Qk,ih];unfold yh;rw[h1]
 unfold un;rw[h2];simp
theorem agR(hr:∀row∈g,row.length<=2000000){c:List Nat}(ho:c.length<=2000000):∀row∈un g c,row.length<=4000004000000:=by
 intro row d;have:=rj g 2000000 hr c (List.replicate g.length []) 0 (by intro r hr;rw[(List.mem_replicate.1 hr).2];simp) row d;have h2:c.length*2000000<=2000000*2000000:=Qw _ ho;omega
theorem pz{f:Int->Int}:∀ {ns:List Nat} {idom idom':List Int} {ch ch':Bool},ny c f ns idom ch idom' ch'->idom'.length=idom.length
 | [],_,_,_,_,h=>by rw[h.1]
 |n::ns,idom,idom',ch,ch',⟨pr,d,old,_,_,_,_,h⟩=>by
  rcases h with⟨_,h⟩|⟨_,h⟩
  ·exact pz h
  ·have:=pz h;simpa using this
theorem jF{f:Int->Int}:∀ {k:Nat} {idom idom':List Int},ip c f ns k idom idom'->idom'.length=idom.length
 |0,_,_,h=>h.elim
 |k+1,idom,idom',⟨i1,ch,h1,h2⟩=>by
  have e:=pz h1;rcases h2 with⟨_,rfl⟩|⟨_,h2⟩
  ·exact e
  ·rw[jF h2,e]
theorem eL.len{c:List Int}(h:eL g ns c)(hg:0<g.length):c.length=g.length:=by
 obtain⟨k,h⟩:=h;rw[jF h];simp;omega
theorem pe (w:World)(C bv:Nat)(g:List (List Nat))(hv:zw g)(d:g.length<=2000000)(hr:∀row∈g,row.length<=2000000)(ns:List Nat)(i:tV g (0::ns))(c:List Int)(hD:eL g ns c)
 (j:C<=w.heap.size) (h:oN w C bv (0::ns) (atF (0::ns) (0::ns).length) (un g (0::ns))):
 G 141 #[Q bv,U (g.length:Int)] w fun e w'=>∃b,e=.returned (F b g.length g.length)/\w.heap.size<=b/\O w' b (c.map (Value.int .i64)).toArray 3/\N w w':=by
 obtain⟨h1,h2⟩:=i.nodes hv;obtain⟨k,hD⟩:=hD;simp only[Nq] at h1;exact qQ w C bv g.length (0::ns) _ _ j h hv.1 d ns rfl (fun x hx=>h2 x (by simp[hx])) Zo (lI _ _) (agR hr Zt) k c hD
theorem tw (w:World)(sv:Value)(g:List (List Nat))(B:Nat)(hB:B<=w.heap.size)(h:aaB zj w B sv g)(hv:zw g)(hn:g.length<=2000000)(hr:∀row∈g,row.length<=2000000)(ns:List Nat)(hF:tV g (0::ns))(c:List Int)(hD:eL g ns c):
 G 118 #[.agg #[sv]] w (j6 w (c.set 0 (-1))):=by
 obtain⟨a,d,rfl,a5⟩:=h.form;have m:N w (w.alloc (I #[.slice a g.length d] 105)):=(Below.refl _ _).alloc (Je _) _;have HL:=Ja (hD.len hv.1);have HV:=Ja hv;have HR:=Ja hr;have HF:=Ja hF;have HD:=Ja hD;have cg:A (w.alloc (I #[.slice a g.length d] 105)) w.heap.size 0 (.slice a g.length d):=cell_of_one (zI rfl);have a8:=hv.1;clear hv hr hF hD;go_enter Tryz.func118,Tryz.ntmps118;go_wp2_with (go_at_call 93;go_must (refine(tK _ _ g B Zt (h.below (m.mono hB)) HV.out hn HR.out).mono ?_;rintro e w1 ⟨rfl,j⟩;obtain⟨l,y⟩:=bcell j))
 generalize a0:w.alloc (I #[.slice a g.length d] 105)=W0 at cg j l y ⊢;have u:=Ja a0;have lg:w.heap.size<W0.heap.size:=Jw W0 _ cg;have b2:=(l _ 0 lg).trans cg;have t:Below (w.heap.size+1) W0 w1:=j.mono Zo;clear a0 m l y cg j
 go_cut [3] (fun s wx=>∃b,s=F b g.length g.length/\Hid (O wx b (c.map (Value.int .i64)).toArray 3/\w.heap.size<=b/\N w wx))
 case first=>
  go_region_held3 (fun w'=>A w' w.heap.size 0 (.slice a g.length d)/\Below (w.heap.size+1) W0 w')
   (first
     |(go_split_ands;refine⟨?_,?_⟩<;>assumption)
     |(go_split_ands;refine⟨?_,uG ?_⟩<;>assumption)
     |(go_split_ands;exact oY ‹_› ‹_› Zz Zz))
   (first
     |(go_at_call 140;refine(view_any _ _ g B (o7 hB u (by repeat' (first|assumption|(with_reducible refine Below.drew ?_)))) (nP h hB u (by repeat' (first|assumption|(with_reducible refine Below.drew ?_)))) HV.out hn HR.out (0::ns) HF.out).mono ?_;rintro e w2 ⟨bv,rfl,b0,hV,o⟩)
     |(go_at_call 141;refine(pe _ _ bv g HV.out hn HR.out ns HF.out c HD.out (Je _) hV).mono ?_;rintro e w3 ⟨b,rfl,b1,a1,a3⟩))
  all_goals
   go_wp2_with fail;go_meet
   have a2:Below (w.heap.size+1) W0 w3:=by
    repeat' (first|assumption|(with_reducible refine Below.drew ?_)|(refine Below.trans ?_ (Below.mono a3 ?_))|(refine Below.trans ?_ (Below.mono o ?_))|omega)
    all_goals (have:=o.size;have:=t.size;simp at *;omega)
   have a6:=o.size;have a4:=t.size;exact⟨b,rfl,a1,by simp at *;omega,ww rfl u a2⟩
 case rest=>
  obtain⟨b,rfl,k⟩:=hcut;have hl:=HL.out
  have cb:∃x,A wc b 0 (U x):=by
   obtain⟨x,hx⟩:∃x,c[0]? =some x:=⟨_,Jd Zo⟩
   exact⟨x,zA k.out.1 (by simp[hx])⟩
  obtain⟨x,cb⟩:=cb;have fb:D wc b 0:=zE k.out.1;go_wp2_with fail;go_ret;refine⟨_,rfl,?_,k.out.2.2.setCell (by simpa using k.out.2.1) _⟩;have hs:=zD (i:=0) k.out.1 (U (-1));refine⟨by simp,.inr ⟨b,g.length,_,by simp[hl],k.out.2.1,hs,by simp[hl],by unfold maxLen;omega,by simp[hl],?_⟩⟩;simp only[Ox,Nd,hl,Nk,Jc,List.toList_toArray];rw[Oy (by simp[hl])];rfl
end Go.Proofs.YtoahcpkibpomcaaGreat
set_option maxRecDepth 8000
namespace Go.Proofs.YtoahcpkibpomcaaGreat
open Go.RowKit Go.Shelf
variable {bh bp k vb vn:Nat}{w w':World}{c g:List (List Nat)}{x:Int}{o:IOp}{K:MK}{m:Mach}{xs:List Int}{ns:List Nat}{call:Int->List Nat->Mach->Res Nat}
structure GraphIn (w:World) (sv:Value) (g:List (List Nat)):Prop where
 rows:aaB zj w w.heap.size sv g
 valid:zw g
 len:g.length<=2000000
 row:∀row∈g,row.length<=2000000
theorem GraphIn.below{sv:Value}(h:GraphIn w sv g)(hb:N w w'):GraphIn w' sv g:=
 ⟨(h.rows.below hb).mono hb.size,h.valid,h.len,h.row⟩
theorem iJ{sv:Value}(h:GraphIn w sv g):G 40 #[.agg #[sv]] w (fJ w (vD g)):=by
 obtain⟨ns,c⟩:=adR h.valid;rw[c.eq];exact tp w sv g w.heap.size (Je _) h.rows h.valid h.len h.row (0::ns) c.is
theorem qP{sv:Value}(h:GraphIn w sv g):G 118 #[.agg #[sv]] w (j6 w (wQ g)):=by
 obtain⟨ns,c⟩:=adR h.valid;obtain⟨D,d⟩:=c.dom;rw[<-idom_eq h.valid c d];exact tw w sv g w.heap.size (Je _) h.rows h.valid h.len h.row ns c.is D d.of
open Go.RowKit
theorem Tryz.info_irop:(Tryz.prog.info? 76).map (fun i=>(i.zero,i.size,i.bytes))=some (some (.agg #[U 0,U 0,U 0,U 0,Y 0,.slice none 0 0]),6,64):=by kernel_rfl
theorem Tryz.info_irfunc:(Tryz.prog.info? 39).map (fun i=>(i.zero,i.size,i.bytes))=some (some (.agg #[.slice none 0 0]),1,24):=by kernel_rfl
theorem yD{base:Nat}{e:TypeId}{size n:Nat}{v:Value}{xs:List Value}(h:w.ownsRow base e size v n xs)(hk:∀k,v.ownBlock=some k->w'.heap[k]? =w.heap[k]?):w'.ownsRow base e size v n xs:=by
 refine⟨h.1,?_⟩;rcases h.2 with h2|⟨g,c,cur,rfl,hg,d,r⟩
 ·exact .inl h2
 ·exact .inr ⟨g,c,cur,rfl,hg,(hk g rfl).trans d,r⟩
theorem yM.cells{b n:Nat}{xs:List Value}{e:TypeId}(h:O w b xs.toArray e)(d:xs.length=n)(c:∀u∈xs,u.oneCell'=true):yM w n (F b 1 1) 1 xs:=
 ⟨_,_,rfl,by omega,c,.inr ⟨_,rfl,Oi (cs:=xs.toArray) h⟩⟩
def agd (c:Int):Prop:=c=1∨c=3∨c=4∨(5<=c/\c<=17)
theorem ahR{E:IEnv}(h:5<=o.code/\o.code<=17)(v:Int->Nat)(m:Mach):oV E call o v m=iy m o.code (v o.a) (v o.b):=by
 unfold oV mU;rw[if_neg Zo,if_neg Zo,if_neg Zo,if_neg Zo,if_neg Zo,if_neg Zo,if_neg Zo,if_neg Zo,if_neg Zo,if_neg Zo,if_neg Zo,if_neg Zo,if_neg Zo,if_neg Zo]
theorem stepR_ex{E:IEnv}(hc:agd o.code)(v:Int->Nat)(m:Mach):(∃x,oV E call o v m=.ok x m)∨oV E call o v m=.trap 4 0 m:=by
 obtain⟨c,r,a,b,n,l⟩:=o;have hc:agd c:=hc;rcases hc with rfl|rfl|rfl|h
 ·exact .inl ⟨_,rfl⟩
 ·exact .inl ⟨_,rfl⟩
 ·exact .inl ⟨_,rfl⟩
 ·rw[ahR h];unfold iy
  split
  ·exact .inr rfl
  ·exact .inl ⟨_,rfl⟩
theorem step_ex{ov:Value}(h:MachAt w K m ov)(hc:agd o.code)(hb:I64 o.code/\I64 o.res/\I64 o.a/\I64 o.b/\o.n<65536)(ab:Option Addr)(an ac:Nat){v:Int->Nat}(hv:xO w vb vn v)(d:Int):
 G 155 #[Q K.pm,.agg #[U o.code,U o.res,U o.a,U o.b,Y (o.n:Int),.slice ab an ac],.map (some vb),U d] w (zQ K w (oV K.E call o v m)):=by
 obtain⟨c,r,a,b,n,l⟩:=o;obtain⟨_,t,i,g,j⟩:=hb;have hc:agd c:=hc;rcases hc with rfl|rfl|rfl|k
 ·exact step_1 h i g j _ _ _ hv _
 ·exact step_3 h i g j _ _ _ hv _
 ·exact step_4 h i g j _ _ _ hv _
 ·rw[ahR k];exact step_ar h i g j _ _ _ hv _ k
theorem call_ex(K:MK){bk:IBlk}(c2:K.E.p.funcs[0]? =some [bk])(d7:bk.params=[])(h6:bk.term.kind=4)(h9:bk.term.a=2)(d9:∀o∈bk.ops,agd o.code/\0<=o.res)(h4:bk.ops.length<=3){ov:Value}(h:MachAt w K m ov)(hfu:m.fuel=10):
 G 150 #[Q K.pm,U 0,L,U 1] w (zQ K w (xW K.E 100 0 [] m)):=by
 have c1:=h.prog.funcs;obtain⟨fa,fc,h8,_,_⟩:=c1.form;have c0:=h.c0;rw[h8] at c1 c0;obtain⟨fb,fo,rfl,_,bv,e3,e4⟩:=c1.get c2;obtain⟨ba,bc,rfl,_,l2⟩:=e4.form;have e3:A w fb fo (.slice ba 1 bc):=by rw[Nk,Uk] at e3;exact e3
 have l6:(0:Int)<K.E.p.funcs.length:=by have:=(Jh.1 c2).1;omega
 have c9:xW K.E 100 0 [] m=tJ K.E (xW K.E 99) [bk] 11 0 [] (fun _=>0) m:=by
  show(if(K.E.p.funcs.getD (0:Int).toNat []).isEmpty then _ else _)=_
  rw[show(0:Int).toNat=0 from rfl,Jj,c2,hfu];rfl
 rw[c9];obtain⟨RES,a6⟩:∃R,tJ K.E (xW K.E 99) [bk] 11 0 [] (fun _=>0) m=R:=⟨_,rfl⟩
 rw[a6];obtain⟨OR,e5⟩:∃R,iq K.E (xW K.E 99) bk.ops (fun _=>0) m=R:=⟨_,rfl⟩
 rw[ru,show xz [bk] 0=bk from rfl,show r7 bk.params [] (fun _=>0)=(fun _=>0) by rw[d7];rfl,e5] at a6;have f0:=Ja a6;have hB:=h.size;have k4:=Ja (show CSt K w (w.alloc (.map #[] 0)) m w.heap.size 0 (fun _=>0) from⟨⟨ov,h.keep ((Below.refl _ _).alloc (Je _) _)⟩,(Frm.refl _ _).alloc (Qd hB) _,xO.made w,Je _,hB⟩);have l0:=Ja e4;have HP:=Ja (Jb d7 (Jb d9 e5));have HF:=Ja (Jb hfu h4);have b2:=Ja (Jb h6 h9);clear h c1 h8 c2 e4 c9 d7 d9 h4 e5 a6 hfu h6 h9;have l5:=@run_makeMap Tryz.prog;go_enter Tryz.func150,Tryz.ntmps150;go_wp2
 go_loopw [2,11] (fun sv atv wx=>sv=L/\atv=U 0/\Hid (CSt K w wx m w.heap.size 0 (fun _=>0))) (fun _ _ _=>0)
 case atStart=>exact⟨rfl,rfl,k4⟩
 case round=>
  obtain⟨rfl,rfl,HS⟩:=hrel;have a5:=HS.out;obtain⟨bb,bo,rfl,a1,k2,k3,h5,pv,ov1,tv,kp,ko,kt,g8,d8,g6⟩:=l0.out.get (k:=0) (x:=bk) rfl;simp only[Nat.zero_mul,Uk] at k2 k3 kp ko kt;have k2:=zV a5.frm.below a1 k2;have k3:=zV a5.frm.below a1 k3;have kp:=zV a5.frm.below a1 kp;have ko:=zV a5.frm.below a1 ko;have kt:=zV a5.frm.below a1 kt;obtain⟨pa,pc,rfl,_,_⟩:=g8.form;obtain⟨oa,oc,rfl,_,_⟩:=d8.form;obtain⟨ta,tc,rfl,_,_⟩:=g6.form;have k5:=Ja (Jb d8 h5);clear a5 g8 d8 g6 h5;go_upto_region 9 with fail;have e2:=HS.out.alloc (I #[.slice pa bk.params.length pc,.slice oa bk.ops.length oc,U bk.term.kind,U bk.term.a,.slice ta bk.term.to.length tc] 84);have c:=zI (W:=wr) (o:=I #[.slice pa bk.params.length pc,.slice oa bk.ops.length oc,U bk.term.kind,U bk.term.a,.slice ta bk.term.to.length tc] 84) rfl;generalize k1:wr.alloc (I #[.slice pa bk.params.length pc,.slice oa bk.ops.length oc,U bk.term.kind,U bk.term.a,.slice ta bk.term.to.length tc] 84)=W1 at *;generalize wr.heap.size=b12 at *;have l3:=K0 c;have c5:=Ja (Jb e2 c);clear k1 e2 c k2 k3 kp ko kt;go_wp2
  go_loopw [47] (fun jv wx=>jv=U 0/\wx=W1) (fun _ _=>0)
  case atStart=>exact⟨rfl,rfl⟩
  case round=>
   obtain⟨rfl,f9⟩:=hrel;have b9:¬(0:Int)<bk.params.length:=by rw[HP.out.1];exact Int.lt_irrefl _
   rw[f9];clear f9;generalize b3:(#[.slice pa bk.params.length pc,.slice oa bk.ops.length oc,U bk.term.kind,U bk.term.a,.slice ta bk.term.to.length tc]:Array Value)=cs at *;have l4:A W1 b12 1 (.slice oa bk.ops.length oc):=by have:=c5.out.2;rw[<-b3] at this;exact zA this Zs
   have k9:=Ja b3;have d6:Hid (∃(v:Int->Nat) (m2:Mach),CSt K w W1 m2 w.heap.size 0 v/\O W1 b12 cs 84/\m2.fuel=10-((0:Nat):Int)/\iq K.E (xW K.E 99) (bk.ops.drop 0) v m2=OR):=⟨_,m,c5.out.1,c5.out.2,HF.out.1,HP.out.2.2⟩
   clear b3 c5;go_wp2
   go_loopw [62] (fun jv wx=>∃j:Nat,j<=bk.ops.length/\jv=U j/\Hid (∃(v:Int->Nat) (m2:Mach),CSt K w wx m2 w.heap.size j v/\O wx b12 cs 84/\m2.fuel=10-(j:Int)/\iq K.E (xW K.E 99) (bk.ops.drop j) v m2=OR)) (fun jv _=>bk.ops.length-(intOf jv).toNat)
   case atStart=>exact⟨0,Jt _,rfl,d6⟩
   case round=>
    obtain⟨j,hj,rfl,HJ⟩:=hrel;have l7:j<=3:=Jn hj HF.out.2;obtain⟨v2,m2,g,c,e1,i⟩:=HJ.out
    by_cases a0:j<bk.ops.length
    ·have b9:(j:Int)<bk.ops.length:=Zo;have f2:=Ja a0;obtain⟨o,ho⟩:∃o,bk.ops[j]? =some o:=⟨_,Jd a0⟩
     have c3:bk.ops.drop j=o::bk.ops.drop (j+1):=by rw[Qn a0];rw[Jd a0] at ho;rw[Nt ho]
     have hfu:0<m2.fuel:=Zo;rw[c3,j7,if_neg Zo] at i;obtain⟨b1,o1,rfl,a2,g0,g1,g2,g3,g4,e0,av3,g5,f7⟩:=k5.out.1.get ho;obtain⟨xa,xc,rfl,_,_⟩:=f7.form;have d0:=zV g.frm.below a2 g0;have d1:=zV g.frm.below a2 g1;have d2:=zV g.frm.below a2 g2;have d3:=zV g.frm.below a2 g3;have d4:=zV g.frm.below a2 g4;have d5:=zV g.frm.below a2 g5;have b7:=Ja g;have i2:=Ja c;have a4:=Ja (Jb e1 (Jb i (Jb hfu e0)));have f1:=Ja (HP.out.2.1 o (Ji ho));clear g c e1 i f7 e0 c3 g0 g1 g2 g3 g4 g5 a2 a0 ho hfu;go_upto_region 17 with fail;have l:=b7.out.alloc (I (C o xa xc) 76);have d:=zI (W:=wr) (o:=I (C o xa xc) 76) rfl;have c4:=zB (o:=I (C o xa xc) 76) i2.out;generalize k0:wr.alloc (I (C o xa xc) 76)=W2 at *;generalize wr.heap.size=b16 at *;obtain⟨ov2,a8⟩:=l.mach;have c7:=Ja a8;have b6:=Ja l;have f6:=Ja (Jb d c4);clear k0 l d c4 a8 d0 d1 d2 d3 d4 d5;go_upto_region 18 with(go_at_call 154;go_must (refine(iN c7.out a4.out.2.2.1).mono ?_;rintro e w3 ⟨rfl,a3,u⟩))
     have b5:=b6.out.step a3 u;have d:=u.kept _ _ f6.out.1 (by simp[sA]);have c:=u.kept _ _ f6.out.2 (by simp[sA]);have q0:=K0 d;have q1:=K1 d;have q2:=K2 d;have q3:=K3 d;have q4:=K4 d;have q5:=K5 d;have t:=step_ex a3 (call:=xW K.E 99) f1.out.1 a4.out.2.2.2 xa o.args.length xc b5.map 1;have f5:=Ja b5;have i0:=Ja (Jb d c);clear b5 d c a3 u;have i:=a4.out.2.1;rcases stepR_ex (E:=K.E) (call:=xW K.E 99) f1.out.1 v2 m2.pay with⟨x,y⟩|y
     ·rw[y] at i t;have HX:=Ja i;have e7:=Ja (show G 155 #[Q K.pm,.agg (C o xa xc),.map (some w.heap.size),U 1] w3 fun e w'=>e=.returned (Y x)/\(∃ov',MachAt w' K m2.pay ov')/\Frm K.B w3 w'/\x<65536 from t);clear i y t;go_upto_region 19 with(go_at_call 155;go_must (refine e7.out.mono ?_;rintro e w4 ⟨rfl,⟨ov4,e6⟩,b0,f8⟩))
      have b4:=f5.out.step e6 b0;have d:=b0.kept _ _ i0.out.1 (by simp[sA]);have c:=b0.kept _ _ i0.out.2 (by simp[sA]);have s1:=K1 d;have c8:=Ja c;have f4:=Ja b4;have i8:j<9000000000000000000:=Zo;have j2:=b4.map;have j0:=a4.out.2.2.2.2.1;have j1:=f1.out.2;have b8:=HX.out;unfold setV at b8;rw[if_pos j1] at b8;have k6:=Ja b8;clear b4 d c q0 q1 q2 q3 q4 q5 b8;go_wp2_with (at_mapUpdate;go_must (refine us rfl (.tmp 76) (.tmp 78) (.tmp 79) rfl j2 i8 o.res x rfl rfl rfl j0 f8 ?_;intro w5 h0 h7;have f3:=Ja (Jb h0 h7);clear h0 h7))
      go_roundw
      case rel=>
       refine⟨j+1,f2.out,by go_num,_,m2.pay,f4.out.store f3.out.1 f3.out.2,?_,by show m2.fuel-1=_;rw[a4.out.1];omega,k6.out⟩;refine zL f3.out.2 c8.out ?_;intro e;obtain⟨es,ec,g9⟩:=f4.out.map.blk;rw[Nt e,c8.out] at g9;cases g9
      case measure=>have:=f2.out;simp[intOf];omega
     ·rw[y] at i t;have e9:=Ja (show Res.trap 4 0 m2.pay=RES by rw[<-f0.out,<-i]);have e7:=Ja (show G 155 #[Q K.pm,.agg (C o xa xc),.map (some w.heap.size),U 1] w3 fun e w'=>e=.panicked [oE 4 0]/\(∃ov',MachAt w' K m2.pay ov')/\Frm K.B w3 w'/\True from t);clear i y t;go_wp2_with (go_at_call 155;go_must (refine e7.out.mono ?_;rintro e w4 ⟨rfl,⟨ov4,e6⟩,b0,f8⟩))
      exact⟨rfl,by rw[<-e9.out];exact zQ.trap e6 (f5.out.frm.trans b0)⟩
    ·obtain rfl:j=bk.ops.length:=by omega
     have b9:¬(bk.ops.length:Int)<bk.ops.length:=Zo;rw[List.drop_length] at i;have hfu:0<m2.fuel:=Zo;obtain⟨ov2,a8⟩:=g.mach
     have e9:=Ja (show Res.ok (v2 2) m2.pay=RES by
      rw[<-f0.out,<-i]
      show _=(if m2.fuel<=0 then _ else _)
      rw[if_neg Zo,if_pos b2.out.1,if_neg (by rw[b2.out.2];decide),b2.out.2])
     have c7:=Ja (Jb a8 hfu);have b7:=Ja g;have l1:=Ja c;clear i g c e1 HJ a8 d6 hfu;go_upto_region 23 with(go_at_call 154;go_must (refine(iN c7.out.1 c7.out.2).mono ?_;rintro e w3 ⟨rfl,a3,u⟩))
     have l:=b7.out.step a3 u;have c:=u.kept _ _ l1.out (by simp[sA]);rw[<-k9.out] at c;have q2:A w3 b12 2 (U 4):=by rw[<-b2.out.1];exact zA c Zs
     have q3:A w3 b12 3 (U 2):=by rw[<-b2.out.2];exact zA c Zs
     have lk:=l.map.look (x:=2) ⟨by decide,by decide⟩;have i1:=l.map.2 2;have b6:=Ja l;have k7:=Ja a3;clear l c a3 u;go_wp2;go_ret;rw[<-e9.out];exact zQ.ok k7.out b6.out.frm i1
end Go.Proofs.YtoahcpkibpomcaaGreat
