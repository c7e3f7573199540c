/- Part of a proof. -/
import Derived.Test.YtoahcpkibpomcaaGZlf
set_option linter.all false
set_option maxHeartbeats 4000000
set_option maxRecDepth 100000
namespace Go.Proofs.Ytoahcpkibpomcaa
open Go.RowKit
variable {W W' W0 w w' w0 w1:World}{K:MK}{m:Mach}{ov:Value}{g preds:List (List Nat)}{B0 Bi Bn Bv C D bi bm bp i nm x:Nat}{ns pr xs:List Nat}{c idom:List Int}{f:Int->Int}{t:Int}{o:Obj}{ds:List Deferred}{ar:Option Addr}
structure Flds where
 is:Bool
 res:Bool
 a:Bool
 b:Bool
 n:Bool
def zi (c:Int):Flds:=
 if c=1∨c=2∨c=24 then⟨true,true,false,false,true⟩
 else if c=3∨c=4∨c=18∨c=19 then⟨true,true,true,false,false⟩
 else if 5<=c/\c<=17 then⟨true,true,true,true,false⟩
 else if c=20∨c=21 then⟨true,false,true,true,false⟩
 else if c=22∨c=23 then⟨true,true,true,false,true⟩
 else if c=25 then⟨true,false,true,false,true⟩
 else if c=26∨c=27 then⟨true,false,false,false,false⟩
 else⟨false,false,false,false,false⟩
theorem rJ (c:Int):
 ((c=1∨c=2∨c=24)/\zi c=⟨true,true,false,false,true⟩)∨((c=3∨c=4∨c=18∨c=19)/\zi c=⟨true,true,true,false,false⟩)∨((5<=c/\c<=17)/\zi c=⟨true,true,true,true,false⟩)∨((c=20∨c=21)/\zi c=⟨true,false,true,true,false⟩)∨
 ((c=22∨c=23)/\zi c=⟨true,true,true,false,true⟩)∨(c=25/\zi c=⟨true,false,true,false,true⟩)∨((c=26∨c=27)/\zi c=⟨true,false,false,false,false⟩)∨((c<1∨27<c)/\zi c=⟨false,false,false,false,false⟩):=by
 unfold zi
 by_cases k:c=1∨c=2∨c=24
 ·exact .inl ⟨k,if_pos k⟩
 rw[if_neg k]
 by_cases j:c=3∨c=4∨c=18∨c=19
 ·exact .inr (.inl ⟨j,if_pos j⟩)
 rw[if_neg j]
 by_cases i:5<=c/\c<=17
 ·exact .inr (.inr (.inl ⟨i,if_pos i⟩))
 rw[if_neg i]
 by_cases h:c=20∨c=21
 ·exact .inr (.inr (.inr (.inl ⟨h,if_pos h⟩)))
 rw[if_neg h]
 by_cases g:c=22∨c=23
 ·exact .inr (Zi (.inl ⟨g,if_pos g⟩))
 rw[if_neg g]
 by_cases f:c=25
 ·exact .inr (.inr (Zi (.inl ⟨f,if_pos f⟩)))
 rw[if_neg f]
 by_cases d:c=26∨c=27
 ·exact .inr (.inr (.inr (Zi (.inl ⟨d,if_pos d⟩))))
 rw[if_neg d];exact .inr (.inr (.inr (Zi (.inr ⟨by omega,rfl⟩))))
def nL (f:Flds):Value:=.tuple #[.agg #[.bool f.res,.bool f.a,.bool f.b,.bool f.n],.bool f.is]
def yX (w:World)(f:Flds)(e:Ending)(w':World):Prop:=e=.returned (nL f)/\Q w w'
theorem flds_1 (w:World):A 81 #[I 1] w (yX w ⟨true,true,false,false,true⟩):=by
 go_enter Try.func81,Try.ntmps81;go_wp2;exact bodyPost_ret (v:=.tuple #[.agg #[.bool true,.bool false,.bool false,.bool true],.bool true]) (by simp[results,Try.results81,go_sem]) rfl ⟨rfl,Zr⟩
theorem flds_2 (w:World):A 81 #[I 2] w (yX w ⟨true,true,false,false,true⟩):=by
 go_enter Try.func81,Try.ntmps81;go_wp2;exact bodyPost_ret (v:=.tuple #[.agg #[.bool true,.bool false,.bool false,.bool true],.bool true]) (by simp[results,Try.results81,go_sem]) rfl ⟨rfl,Zr⟩
theorem flds_3 (w:World):A 81 #[I 3] w (yX w ⟨true,true,true,false,false⟩):=by
 go_enter Try.func81,Try.ntmps81;go_wp2;exact bodyPost_ret (v:=.tuple #[.agg #[.bool true,.bool true,.bool false,.bool false],.bool true]) (by simp[results,Try.results81,go_sem]) rfl ⟨rfl,Zr⟩
theorem flds_4 (w:World):A 81 #[I 4] w (yX w ⟨true,true,true,false,false⟩):=by
 go_enter Try.func81,Try.ntmps81;go_wp2;exact bodyPost_ret (v:=.tuple #[.agg #[.bool true,.bool true,.bool false,.bool false],.bool true]) (by simp[results,Try.results81,go_sem]) rfl ⟨rfl,Zr⟩
theorem flds_18 (w:World):A 81 #[I 18] w (yX w ⟨true,true,true,false,false⟩):=by
 go_enter Try.func81,Try.ntmps81;go_wp2;exact bodyPost_ret (v:=.tuple #[.agg #[.bool true,.bool true,.bool false,.bool false],.bool true]) (by simp[results,Try.results81,go_sem]) rfl ⟨rfl,Zr⟩
theorem flds_19 (w:World):A 81 #[I 19] w (yX w ⟨true,true,true,false,false⟩):=by
 go_enter Try.func81,Try.ntmps81;go_wp2;exact bodyPost_ret (v:=.tuple #[.agg #[.bool true,.bool true,.bool false,.bool false],.bool true]) (by simp[results,Try.results81,go_sem]) rfl ⟨rfl,Zr⟩
theorem flds_20 (w:World):A 81 #[I 20] w (yX w ⟨true,false,true,true,false⟩):=by
 go_enter Try.func81,Try.ntmps81;go_wp2;exact bodyPost_ret (v:=.tuple #[.agg #[.bool false,.bool true,.bool true,.bool false],.bool true]) (by simp[results,Try.results81,go_sem]) rfl ⟨rfl,Zr⟩
theorem flds_21 (w:World):A 81 #[I 21] w (yX w ⟨true,false,true,true,false⟩):=by
 go_enter Try.func81,Try.ntmps81;go_wp2;exact bodyPost_ret (v:=.tuple #[.agg #[.bool false,.bool true,.bool true,.bool false],.bool true]) (by simp[results,Try.results81,go_sem]) rfl ⟨rfl,Zr⟩
theorem flds_22 (w:World):A 81 #[I 22] w (yX w ⟨true,true,true,false,true⟩):=by
 go_enter Try.func81,Try.ntmps81;go_wp2;exact bodyPost_ret (v:=.tuple #[.agg #[.bool true,.bool true,.bool false,.bool true],.bool true]) (by simp[results,Try.results81,go_sem]) rfl ⟨rfl,Zr⟩
theorem flds_23 (w:World):A 81 #[I 23] w (yX w ⟨true,true,true,false,true⟩):=by
 go_enter Try.func81,Try.ntmps81;go_wp2;exact bodyPost_ret (v:=.tuple #[.agg #[.bool true,.bool true,.bool false,.bool true],.bool true]) (by simp[results,Try.results81,go_sem]) rfl ⟨rfl,Zr⟩
theorem flds_24 (w:World):A 81 #[I 24] w (yX w ⟨true,true,false,false,true⟩):=by
 go_enter Try.func81,Try.ntmps81;go_wp2;exact bodyPost_ret (v:=.tuple #[.agg #[.bool true,.bool false,.bool false,.bool true],.bool true]) (by simp[results,Try.results81,go_sem]) rfl ⟨rfl,Zr⟩
theorem flds_25 (w:World):A 81 #[I 25] w (yX w ⟨true,false,true,false,true⟩):=by
 go_enter Try.func81,Try.ntmps81;go_wp2;exact bodyPost_ret (v:=.tuple #[.agg #[.bool false,.bool true,.bool false,.bool true],.bool true]) (by simp[results,Try.results81,go_sem]) rfl ⟨rfl,Zr⟩
theorem flds_26 (w:World):A 81 #[I 26] w (yX w ⟨true,false,false,false,false⟩):=by
 go_enter Try.func81,Try.ntmps81;go_wp2;exact bodyPost_ret (v:=.tuple #[.agg #[.bool false,.bool false,.bool false,.bool false],.bool true]) (by simp[results,Try.results81,go_sem]) rfl ⟨rfl,Zr⟩
theorem flds_27 (w:World):A 81 #[I 27] w (yX w ⟨true,false,false,false,false⟩):=by
 go_enter Try.func81,Try.ntmps81;go_wp2;exact bodyPost_ret (v:=.tuple #[.agg #[.bool false,.bool false,.bool false,.bool false],.bool true]) (by simp[results,Try.results81,go_sem]) rfl ⟨rfl,Zr⟩
theorem flds_mid (c:Int)(h:5<=c/\c<=17)(w:World):A 81 #[I c] w (yX w ⟨true,true,true,true,false⟩):=by
 have t1:((c:Int)==1)=false:=Ze;have t2:((c:Int)==2)=false:=Ze;have t3:((c:Int)==3)=false:=Ze;have t4:((c:Int)==4)=false:=Ze;have f:((c:Int)==18)=false:=Ze;have d:((c:Int)==19)=false:=Ze;have d1:decide (5<=c)=true:=by rw[decide_eq_true_eq];omega
 have d2:decide (c<=17)=true:=by rw[decide_eq_true_eq];omega
 clear h;go_enter Try.func81,Try.ntmps81;go_wp2;exact bodyPost_ret (v:=.tuple #[.agg #[.bool true,.bool true,.bool true,.bool false],.bool true]) (by simp[results,Try.results81,go_sem]) rfl ⟨rfl,Zr⟩
theorem flds_low (c:Int)(h:c<1)(w:World):A 81 #[I c] w (yX w ⟨false,false,false,false,false⟩):=by
 have t1:((c:Int)==1)=false:=Ze;have t2:((c:Int)==2)=false:=Ze;have t3:((c:Int)==3)=false:=Ze;have t4:((c:Int)==4)=false:=Ze;have q:((c:Int)==18)=false:=Ze;have o:((c:Int)==19)=false:=Ze;have m:((c:Int)==20)=false:=Ze;have l:((c:Int)==21)=false:=Ze;have k:((c:Int)==22)=false:=Ze;have j:((c:Int)==23)=false:=Ze;have i:((c:Int)==24)=false:=Ze;have g:((c:Int)==25)=false:=Ze;have f:((c:Int)==26)=false:=Ze;have d:((c:Int)==27)=false:=Ze;have d1:decide (5<=c)=false:=by rw[decide_eq_false_iff_not];omega
 clear h;go_enter Try.func81,Try.ntmps81;go_wp2;exact bodyPost_ret (v:=.tuple #[.agg #[.bool false,.bool false,.bool false,.bool false],.bool false]) (by simp[results,Try.results81,go_sem]) rfl ⟨rfl,Zr⟩
theorem iU (c:Int)(h:27<c)(w:World):A 81 #[I c] w (yX w ⟨false,false,false,false,false⟩):=by
 have t1:((c:Int)==1)=false:=Ze;have t2:((c:Int)==2)=false:=Ze;have t3:((c:Int)==3)=false:=Ze;have t4:((c:Int)==4)=false:=Ze;have q:((c:Int)==18)=false:=Ze;have o:((c:Int)==19)=false:=Ze;have m:((c:Int)==20)=false:=Ze;have l:((c:Int)==21)=false:=Ze;have k:((c:Int)==22)=false:=Ze;have j:((c:Int)==23)=false:=Ze;have i:((c:Int)==24)=false:=Ze;have g:((c:Int)==25)=false:=Ze;have f:((c:Int)==26)=false:=Ze;have d:((c:Int)==27)=false:=Ze;have d1:decide (5<=c)=true:=by rw[decide_eq_true_eq];omega
 have d2:decide (c<=17)=false:=by rw[decide_eq_false_iff_not];omega
 clear h;go_enter Try.func81,Try.ntmps81;go_wp2;exact bodyPost_ret (v:=.tuple #[.agg #[.bool false,.bool false,.bool false,.bool false],.bool false]) (by simp[results,Try.results81,go_sem]) rfl ⟨rfl,Zr⟩
theorem yu (c:Int)(w:World):A 81 #[I c] w (yX w (zi c)):=by
 rcases rJ c with⟨h,e⟩|⟨h,e⟩|⟨h,e⟩|⟨h,e⟩|⟨h,e⟩|⟨h,e⟩|⟨h,e⟩|⟨h,e⟩<;>rw[e]
 ·rcases h with rfl|rfl|rfl
  ·exact flds_1 w
  ·exact flds_2 w
  ·exact flds_24 w
 ·rcases h with rfl|rfl|rfl|rfl
  ·exact flds_3 w
  ·exact flds_4 w
  ·exact flds_18 w
  ·exact flds_19 w
 ·exact flds_mid c h w
 ·rcases h with rfl|rfl
  ·exact flds_20 w
  ·exact flds_21 w
 ·rcases h with rfl|rfl
  ·exact flds_22 w
  ·exact flds_23 w
 ·subst h;exact flds_25 w
 ·rcases h with rfl|rfl
  ·exact flds_26 w
  ·exact flds_27 w
 ·rcases h with h|h
  ·exact flds_low c h w
  ·exact iU c h w
def yH (V:PV)(p:IProg):Value:=.agg #[V.fv,V.av,I p.entry,I p.handler,V.dv,V.bv]
def iz (o:IObj):Value:=.agg #[I o.bank,M (o.addr:Int),M (o.size:Int)]
def sW (nb:Nat)(o:IObj):Bool:=
 if o.bank=-1 then decide (0<o.size) && (decide (16384<=o.addr) && decide (o.addr+o.size<=24576))
 else decide (0<o.size) && (decide (0<=o.bank) && (decide (o.bank<nb) && decide (o.addr+o.size<=4096)))
def uK (a b:IObj):Bool:=decide (a.bank=b.bank) && (decide (a.addr<b.addr+b.size) && decide (b.addr<a.addr+a.size))
theorem zZ {P Q:Prop} [Decidable P] [Decidable Q] {b:Bool}(h:decide P=b)(e:P↔Q):decide Q=b:=by rw[<-h];exact decide_eq_decide.2 e.symm
theorem kL{V:PV}{p:IProg}(hp:ProgIn w w.heap.size V p)(o:IObj)(ho:I64 o.bank/\o.addr<65536/\o.size<65536):
 A 74 #[yH V p,iz o] w fun e w'=>e=.returned (.bool (sW p.banks.length o))/\Q w w':=by
 obtain⟨Vf,Va,Vd,Vb⟩:=V;obtain⟨f1,f2,e1,_,_⟩:=hp.funcs.form;obtain⟨a1,a2,e2,_,_⟩:=hp.args.form;obtain⟨d1,d2,e3,_,_⟩:=hp.data.form;obtain⟨b1,b2,e4,j,t⟩:=hp.banks.form;simp only at e1 e2 e3 e4;subst e1 e2 e3 e4;unfold yH iz;simp only;have u:p.banks.length<=9223372036854775807:=Zo;obtain⟨m,q,l⟩:=ho;clear hp j;obtain⟨q1,k⟩:∃b,decide (0<o.size)=b:=⟨_,rfl⟩
 have d:∀M:Nat,∀b,decide (o.addr+o.size<=M)=b->decide ((o.addr:Int)+(o.size:Int)<=(M:Int))=b:=fun M b h=>zZ h Zo
 by_cases c:o.bank=-1
 ·have e:sW p.banks.length o=(decide (0<o.size) && (decide (16384<=o.addr) && decide (o.addr+o.size<=24576))):=if_pos c;obtain⟨q2,i⟩:∃b,decide (16384<=o.addr)=b:=⟨_,rfl⟩
  obtain⟨q3,f⟩:∃b,decide (o.addr+o.size<=24576)=b:=⟨_,rfl⟩
  have a0:decide ((16384:Int)<=(o.addr:Int))=q2:=zZ i Zo;have y:decide ((o.addr:Int)+(o.size:Int)<=24576)=q3:=d 24576 _ f;have t1:(o.bank==-1)=true:=by rw[beq_iff_eq];exact c
  rw[e,k,i,f];have H3:=Ja f;clear e d c f;cases q1<;>cases q2<;>cases q3
  all_goals go_enter Try.func74,Try.ntmps74
  all_goals go_wp2
  all_goals go_ret
  all_goals exact⟨rfl,((Below.refl _ _).alloc (Je _) _).alloc Zs _⟩
 ·have e:sW p.banks.length o=(decide (0<o.size) && (decide (0<=o.bank) && (decide (o.bank<p.banks.length) && decide (o.addr+o.size<=4096)))):=if_neg c;obtain⟨q2,i⟩:∃b,decide (0<=o.bank)=b:=⟨_,rfl⟩
  obtain⟨q3,f⟩:∃b,decide (o.bank<(p.banks.length:Int))=b:=⟨_,rfl⟩
  obtain⟨q4,g⟩:∃b,decide (o.addr+o.size<=4096)=b:=⟨_,rfl⟩
  have x:decide ((o.addr:Int)+(o.size:Int)<=4096)=q4:=d 4096 _ g;have t1:(o.bank==-1)=false:=by rw[beq_eq_false_iff_ne];exact c
  rw[e,k,i,f,g];have H4:=Ja g;clear e d c g;cases q1<;>cases q2<;>cases q3<;>cases q4
  all_goals go_enter Try.func74,Try.ntmps74
  all_goals go_wp2
  all_goals go_ret
  all_goals exact⟨rfl,((Below.refl _ _).alloc (Je _) _).alloc Zs _⟩
theorem nT (w:World)(a b:IObj)(k:I64 a.bank/\a.addr<65536/\a.size<65536)(hb:I64 b.bank/\b.addr<65536/\b.size<65536):
 A 75 #[iz a,iz b] w fun e w'=>e=.returned (.bool (uK a b))/\Q w w':=by
 unfold iz;obtain⟨_,j,h⟩:=k;obtain⟨_,i,g⟩:=hb;obtain⟨q1,f⟩:∃q,decide (a.bank=b.bank)=q:=⟨_,rfl⟩
 obtain⟨q2,d⟩:∃q,decide (a.addr<b.addr+b.size)=q:=⟨_,rfl⟩
 obtain⟨q3,c⟩:∃q,decide (b.addr<a.addr+a.size)=q:=⟨_,rfl⟩
 have t1:(a.bank==b.bank)=q1:=by rw[<-f];rw[Bool.eq_iff_iff,beq_iff_eq,decide_eq_true_eq]
 have t2:decide ((a.addr:Int)<(b.addr:Int)+(b.size:Int))=q2:=zZ d Zo;have t3:decide ((b.addr:Int)<(a.addr:Int)+(a.size:Int))=q3:=zZ c Zo;have e:uK a b=(q1 && (q2 && q3)):=by unfold uK;rw[f,d,c]
 rw[e];clear e f d c;cases q1<;>cases q2<;>cases q3
 all_goals go_enter Try.func75,Try.ntmps75
 all_goals go_wp2
 all_goals go_ret
 all_goals exact⟨rfl,((Below.refl _ _).alloc (Je _) _).alloc Zs _⟩
def yw (p:IProg)(f:Int):Bool:=decide (0<=f) && (decide (f<p.funcs.length) && (p.args.getD f.toNat 0==0))
theorem kR{V:PV}{p:IProg}(hp:ProgIn w w.heap.size V p)(hl:p.args.length=p.funcs.length)(f:Int):
 A 60 #[yH V p,I f] w fun e w'=>e=.returned (.bool (yw p f))/\Q w w':=by
 obtain⟨Vf,Va,Vd,Vb⟩:=V;obtain⟨f1,f2,e1,i,u⟩:=hp.funcs.form;have c:=hp.args;obtain⟨a1,a2,e2,_,_⟩:=hp.args.form;obtain⟨d1,d2,e3,_,_⟩:=hp.data.form;obtain⟨b1,b2,e4,_,_⟩:=hp.banks.form;simp only at e1 e2 e3 e4 c;subst e1 e2 e3 e4;unfold yH;simp only;have y:p.funcs.length<=9223372036854775807:=Zo;clear hp i;have l:Q w (w.alloc (U (Z p f1 f2 a1 a2 d1 d2 b1 b2) 44)):=(Below.refl _ _).alloc (Je _) _
 by_cases d:0<=f
 ·obtain⟨k,rfl⟩:∃k:Nat,f=(k:Int):=⟨f.toNat,by omega⟩
  by_cases g:k<p.funcs.length
  ·obtain⟨x,h⟩:∃x,p.args[k]? =some x:=⟨_,Jd Zo⟩
   obtain⟨b,o,rfl,hb,j,_⟩:=c.get h;rw[Nk] at j;have a0:=zV l hb j;obtain⟨q,m⟩:∃q,(x==0)=q:=⟨_,rfl⟩
   have e:yw p k=q:=by unfold yw;rw[decide_eq_true d,decide_eq_true (show(k:Int)<p.funcs.length by omega),Ni,Jj,h];exact m
   rw[e];have t1:decide (k<p.funcs.length)=true:=decide_eq_true g;have t:(k:Int)<p.args.length:=Zo;clear e d g h c;cases q
   all_goals go_enter Try.func60,Try.ntmps60
   all_goals go_wp2
   all_goals go_ret
   all_goals exact⟨rfl,(Below.refl _ _).alloc (Je _) _⟩
  ·have e:yw p k=false:=by unfold yw;rw[decide_eq_true d,decide_eq_false (show ¬(k:Int)<p.funcs.length by omega)];rfl
   rw[e];have t1:decide (k<p.funcs.length)=false:=decide_eq_false g;clear e d g c;go_enter Try.func60,Try.ntmps60;go_wp2;go_ret;exact⟨rfl,(Below.refl _ _).alloc (Je _) _⟩
 ·have e:yw p f=false:=by unfold yw;rw[decide_eq_false d];rfl
  rw[e];have t1:decide (0<=f)=false:=decide_eq_false d;clear e d c;go_enter Try.func60,Try.ntmps60;go_wp2;go_ret;exact⟨rfl,(Below.refl _ _).alloc (Je _) _⟩
theorem xY (n:Int):IntKind.u16.wrap n=n%65536:=by rw[IntKind.wrap_u16]
theorem mH (a:Nat)(h:a<65536):IntKind.i16.wrap (a:Int)=s16 a:=by
 unfold s16;show(if(true && decide ((a:Int)%2^16≥(2^15:Int))) then(a:Int)%2^16-2^16 else(a:Int)%2^16)=_;by_cases c:a<32768
 ·rw[if_neg Zt,if_pos c];omega
 ·rw[if_pos Zt,if_neg c];omega
theorem ar5 (a b:Nat):IntKind.u16.wrap ((a:Int)+b)=((yW 5 a b:Nat):Int):=by rw[xY];show _=(((a+b)%65536:Nat):Int);omega
theorem ar6 (a b:Nat)(hb:b<65536):IntKind.u16.wrap ((a:Int)-b)=((yW 6 a b:Nat):Int):=by rw[xY];show _=(((a+(65536-b))%65536:Nat):Int);omega
theorem ar7 (a b:Nat):IntKind.u16.wrap ((a:Int)*b)=((yW 7 a b:Nat):Int):=by
 rw[xY];show _=((a*b%65536:Nat):Int);rw[Ou,Int.natCast_mul];rfl
theorem ar8 (a b:Nat)(c:a<65536):IntKind.u16.wrap ((a:Int)/b)=((yW 8 a b:Nat):Int):=by
 rw[xY];show _=((a/b:Nat):Int);rw[<-Int.natCast_ediv];have:=Nat.div_le_self a b;generalize a/b=x at *;omega
theorem ar9 (a b:Nat)(c:a<65536)(hb:b<65536):bits .and .u16 (a:Int) b=((yW 9 a b:Nat):Int):=(bits_nat .u16 16 Zd wraps_u16 a b c hb).1
theorem ar10 (a b:Nat)(c:a<65536)(hb:b<65536):bits .or .u16 (a:Int) b=((yW 10 a b:Nat):Int):=(bits_nat .u16 16 Zd wraps_u16 a b c hb).2
theorem ar11 (a b:Nat)(c:a<65536)(hb:b<65536):bits .xor .u16 (a:Int) b=((yW 11 a b:Nat):Int):=by
 show IntKind.u16.wrap (((BitVec.ofInt 16 (a:Int))^^^(BitVec.ofInt 16 (b:Int))).toNat:Int)=((a^^^b:Nat):Int)
 have e1:(BitVec.ofInt 16 (a:Int)).toNat=a:=by rw[BitVec.ofInt_natCast,BitVec.toNat_ofNat];exact Nat.mod_eq_of_lt c
 have e2:(BitVec.ofInt 16 (b:Int)).toNat=b:=by rw[BitVec.ofInt_natCast,BitVec.toNat_ofNat];exact Nat.mod_eq_of_lt hb
 rw[BitVec.toNat_xor,e1,e2,xY];have:a^^^b<65536:=Nat.xor_lt_two_pow (n:=16) c hb;generalize a^^^b=x at *;omega
theorem ar12 (a b:Nat):IntKind.u16.wrap ((a:Int)*2^(b%16))=((yW 12 a b:Nat):Int):=by
 rw[xY];show _=((a*2^(b%16)%65536:Nat):Int);rw[Ou,Int.natCast_mul,Int.natCast_pow];rfl
theorem ar13 (a b:Nat):(a:Int)/2^(b%16)=((yW 13 a b:Nat):Int):=by
 show _=((a/2^(b%16):Nat):Int);rw[Int.natCast_ediv,Int.natCast_pow];rfl
theorem ar14 (a b:Nat)(c:a<65536):IntKind.u16.wrap (IntKind.i16.wrap (a:Int)/2^(b%16))=((yW 14 a b:Nat):Int):=by
 rw[mH a c,xY];show _=((((s16 a/2^(b%16))%65536).toNat:Nat):Int);omega
theorem ar15 (a b:Nat):(iw ((a:Int)==(b:Int)):Nat)=yW 15 a b:=by
 show _=iw (decide (a=b));congr 1;rw[Bool.eq_iff_iff,beq_iff_eq,decide_eq_true_eq];omega
theorem ar17 (a b:Nat)(c:a<65536)(hb:b<65536):(iw (decide (IntKind.i16.wrap (a:Int)<IntKind.i16.wrap (b:Int))):Nat)=yW 17 a b:=by
 rw[mH a c,mH b hb];rfl
theorem jz (c:Int)(a b:Nat)(f:a<65536)(hb:b<65536):yW c a b<65536:=by
 have j:∀x,a/x<65536:=fun x=>Nat.lt_of_le_of_lt (Nat.div_le_self _ _) f
 have hm:∀x,x%65536<65536:=fun x=>Qj _ Zd
 have d:∀b,iw b<65536:=fun b=>by cases b<;>decide
 unfold yW
 by_cases c5:c=5;· rw[if_pos c5];exact hm _
 rw[if_neg c5];by_cases c6:c=6;· rw[if_pos c6];exact hm _
 rw[if_neg c6];by_cases c7:c=7;· rw[if_pos c7];exact hm _
 rw[if_neg c7];by_cases c8:c=8;· rw[if_pos c8];exact j _
 rw[if_neg c8];by_cases c9:c=9;· rw[if_pos c9];exact Nat.lt_of_le_of_lt Nat.and_le_left f
 rw[if_neg c9];by_cases c10:c=10;· rw[if_pos c10];exact Nat.or_lt_two_pow (n:=16) f hb
 rw[if_neg c10];by_cases c11:c=11;· rw[if_pos c11];exact Nat.xor_lt_two_pow (n:=16) f hb
 rw[if_neg c11];by_cases c12:c=12;· rw[if_pos c12];exact hm _
 rw[if_neg c12];by_cases c13:c=13;· rw[if_pos c13];exact j _
 rw[if_neg c13];by_cases i:c=14;· rw[if_pos i];omega
 rw[if_neg i];by_cases h:c=15;· rw[if_pos h];exact d _
 rw[if_neg h];by_cases g:c=16;· rw[if_pos g];exact d _
 rw[if_neg g];exact d _
theorem qD (b:Bool)(w:World):A 106 #[.bool b] w fun e w'=>e=.returned (M (iw b:Nat))/\w=w':=by
 cases b<;>go_enter Try.func106,Try.ntmps106<;>go_wp2<;>go_ret<;>exact⟨rfl,rfl⟩
theorem arith_5 (a b:Nat)(c:a<65536)(hb:b<65536)(w:World):A 105 #[I 5,M a,M b] w fun e w'=>e=.returned (M (yW 5 a b:Nat))/\w=w':=by
 go_enter Try.func105,Try.ntmps105;go_wp2
 all_goals go_ret
 all_goals refine⟨zh ?_,rfl⟩
 all_goals exact ar5 a b
theorem arith_6 (a b:Nat)(c:a<65536)(hb:b<65536)(w:World):A 105 #[I 6,M a,M b] w fun e w'=>e=.returned (M (yW 6 a b:Nat))/\w=w':=by
 go_enter Try.func105,Try.ntmps105;go_wp2
 all_goals go_ret
 all_goals refine⟨zh ?_,rfl⟩
 all_goals exact ar6 a b hb
theorem arith_7 (a b:Nat)(c:a<65536)(hb:b<65536)(w:World):A 105 #[I 7,M a,M b] w fun e w'=>e=.returned (M (yW 7 a b:Nat))/\w=w':=by
 go_enter Try.func105,Try.ntmps105;go_wp2
 all_goals go_ret
 all_goals refine⟨zh ?_,rfl⟩
 all_goals exact ar7 a b
theorem arith_8 (a b:Nat)(c:a<65536)(hb:b<65536)(d:b≠0)(w:World):A 105 #[I 8,M a,M b] w fun e w'=>e=.returned (M (yW 8 a b:Nat))/\w=w':=by
 have g:((b:Int)==0)=false:=Ze;have f:¬(b:Int)=0:=Zo;clear d;go_enter Try.func105,Try.ntmps105;go_wp2
 all_goals go_ret
 all_goals refine⟨zh ?_,rfl⟩
 all_goals exact ar8 a b c
theorem arith_80 (a:Nat)(w:World):A 105 #[I 8,M a,M ((0:Nat):Int)] w fun e w'=>e=.panicked [oE 4 0]/\w=w':=by
 go_enter Try.func105,Try.ntmps105;go_wp2_with (go_at_call 95;go_must (refine(wj 4 0 _).mono ?_;rintro e w' ⟨rfl,rfl⟩))
 exact⟨rfl,rfl,rfl⟩
theorem arith_9 (a b:Nat)(c:a<65536)(hb:b<65536)(w:World):A 105 #[I 9,M a,M b] w fun e w'=>e=.returned (M (yW 9 a b:Nat))/\w=w':=by
 go_enter Try.func105,Try.ntmps105;go_wp2
 all_goals go_ret
 all_goals refine⟨zh ?_,rfl⟩
 all_goals exact ar9 a b c hb
theorem arith_10 (a b:Nat)(c:a<65536)(hb:b<65536)(w:World):A 105 #[I 10,M a,M b] w fun e w'=>e=.returned (M (yW 10 a b:Nat))/\w=w':=by
 go_enter Try.func105,Try.ntmps105;go_wp2
 all_goals go_ret
 all_goals refine⟨zh ?_,rfl⟩
 all_goals exact ar10 a b c hb
theorem arith_11 (a b:Nat)(c:a<65536)(hb:b<65536)(w:World):A 105 #[I 11,M a,M b] w fun e w'=>e=.returned (M (yW 11 a b:Nat))/\w=w':=by
 go_enter Try.func105,Try.ntmps105;go_wp2
 all_goals go_ret
 all_goals refine⟨zh ?_,rfl⟩
 all_goals exact ar11 a b c hb
theorem arith_12 (a b:Nat)(c:a<65536)(hb:b<65536)(w:World):A 105 #[I 12,M a,M b] w fun e w'=>e=.returned (M (yW 12 a b:Nat))/\w=w':=by
 go_enter Try.func105,Try.ntmps105;go_wp2
 all_goals go_ret
 all_goals refine⟨zh ?_,rfl⟩
 all_goals exact ar12 a b
theorem arith_13 (a b:Nat)(c:a<65536)(hb:b<65536)(w:World):A 105 #[I 13,M a,M b] w fun e w'=>e=.returned (M (yW 13 a b:Nat))/\w=w':=by
 go_enter Try.func105,Try.ntmps105;go_wp2
 all_goals go_ret
 all_goals refine⟨zh ?_,rfl⟩
 all_goals exact ar13 a b
theorem arith_14 (a b:Nat)(c:a<65536)(hb:b<65536)(w:World):A 105 #[I 14,M a,M b] w fun e w'=>e=.returned (M (yW 14 a b:Nat))/\w=w':=by
 go_enter Try.func105,Try.ntmps105;go_wp2
 all_goals go_ret
 all_goals refine⟨zh ?_,rfl⟩
 all_goals exact ar14 a b c
theorem arith_15 (a b:Nat)(c:a<65536)(hb:b<65536)(w:World):A 105 #[I 15,M a,M b] w fun e w'=>e=.returned (M (yW 15 a b:Nat))/\w=w':=by
 go_enter Try.func105,Try.ntmps105;go_wp2_with (go_at_call 106;go_must (refine(qD _ _).mono ?_;rintro e w' ⟨rfl,rfl⟩))
 all_goals go_ret
 all_goals refine⟨zh ?_,rfl⟩
 all_goals exact congrArg _ (ar15 a b)
theorem arith_16 (a b:Nat)(c:a<65536)(hb:b<65536)(w:World):A 105 #[I 16,M a,M b] w fun e w'=>e=.returned (M (yW 16 a b:Nat))/\w=w':=by
 go_enter Try.func105,Try.ntmps105;go_wp2_with (go_at_call 106;go_must (refine(qD _ _).mono ?_;rintro e w' ⟨rfl,rfl⟩))
 all_goals go_ret
 all_goals refine⟨zh ?_,rfl⟩
 all_goals exact rfl
theorem arith_17 (a b:Nat)(c:a<65536)(hb:b<65536)(w:World):A 105 #[I 17,M a,M b] w fun e w'=>e=.returned (M (yW 17 a b:Nat))/\w=w':=by
 go_enter Try.func105,Try.ntmps105;go_wp2_with (go_at_call 106;go_must (refine(qD _ _).mono ?_;rintro e w' ⟨rfl,rfl⟩))
 all_goals go_ret
 all_goals refine⟨zh ?_,rfl⟩
 all_goals exact congrArg _ (ar17 a b c hb)
def rq (c:Int)(a b:Nat)(w:World)(e:Ending)(w':World):Prop:=e=(if c=8/\b=0 then .panicked [oE 4 0] else .returned (M (yW c a b:Nat)))/\w=w'
theorem jD (c:Int)(g:5<=c/\c<=17)(a b:Nat)(d:a<65536)(hb:b<65536)(w:World):A 105 #[I c,M a,M b] w (rq c a b w):=by
 unfold rq;have h:c=5∨c=6∨c=7∨c=8∨c=9∨c=10∨c=11∨c=12∨c=13∨c=14∨c=15∨c=16∨c=17:=Zo;rcases h with rfl|rfl|rfl|rfl|rfl|rfl|rfl|rfl|rfl|rfl|rfl|rfl|rfl
 ·rw[if_neg Zo];exact arith_5 a b d hb w
 ·rw[if_neg Zo];exact arith_6 a b d hb w
 ·rw[if_neg Zo];exact arith_7 a b d hb w
 ·by_cases f:b=0
  ·subst f;rw[if_pos ⟨rfl,rfl⟩];exact arith_80 a w
  ·rw[if_neg (fun h=>f h.2)];exact arith_8 a b d hb f w
 ·rw[if_neg Zo];exact arith_9 a b d hb w
 ·rw[if_neg Zo];exact arith_10 a b d hb w
 ·rw[if_neg Zo];exact arith_11 a b d hb w
 ·rw[if_neg Zo];exact arith_12 a b d hb w
 ·rw[if_neg Zo];exact arith_13 a b d hb w
 ·rw[if_neg Zo];exact arith_14 a b d hb w
 ·rw[if_neg Zo];exact arith_15 a b d hb w
 ·rw[if_neg Zo];exact arith_16 a b d hb w
 ·rw[if_neg Zo];exact arith_17 a b d hb w
theorem kh(h:MachAt w K m ov)(bank a:Nat)(hb:bank<65536)(o:a<65536)(hr:sJ K.E bank a=false):
 A 102 #[G K.pm,M bank,M a] w fun e w'=>e=.panicked [oE 2 a]/\w=w':=by
 have c5:=h.c5;obtain⟨ba,bc,d,k,j⟩:=h.prog.banks.form;rw[d] at c5
 have c:¬(bank<K.E.p.banks.length/\a<4096):=by
  intro f;unfold sJ at hr;rw[decide_eq_true f.1,decide_eq_true f.2] at hr;cases hr
 clear h d hr
 by_cases i:bank<K.E.p.banks.length
 ·have g:¬(K.E.p.banks.length:Int)<=bank:=Zo;have l:4096<=(a:Int):=Zo;clear c i;go_enter Try.func102,Try.ntmps102;go_wp2_with (go_at_call 95;go_must (refine(wj 2 a _).mono ?_;rintro e w' ⟨rfl,rfl⟩))
  exact⟨rfl,rfl,rfl⟩
 ·have g:(K.E.p.banks.length:Int)<=bank:=Zo;clear c i;go_enter Try.func102,Try.ntmps102;go_wp2_with (go_at_call 95;go_must (refine(wj 2 a _).mono ?_;rintro e w' ⟨rfl,rfl⟩))
  exact⟨rfl,rfl,rfl⟩
theorem iH (E:IEnv)(bank a:Nat):sJ E bank a=true↔bank<E.p.banks.length/\a<4096:=by unfold sJ;rw[Jm,decide_eq_true_eq,decide_eq_true_eq]
theorem p8(h:MachAt w K m ov)(i:∀s∈K.E.p.banks,s.size=4096)(bank a:Nat)(hb:bank<65536)(ha:a<65536)(hr:sJ K.E bank a=true):
 A 102 #[G K.pm,M bank,M a] w fun e w'=>e=.returned (M (tS K.E bank a:Nat))/\w=w':=by
 have c5:=h.c5;have c:=h.prog.banks;obtain⟨ba,bc,g,u,t⟩:=c.form;rw[g] at c5 c;obtain⟨k,q⟩:=(iH _ _ _).1 hr;obtain⟨s,hs⟩:∃s,K.E.p.banks[bank]? =some s:=⟨_,Jd k⟩
 obtain⟨b,o,rfl,_,d,_⟩:=c.get hs;rw[Nk] at d;have f:=i s (Ji hs);have j:tS K.E bank a=(s.data.getD a 0).toNat:=by unfold tS;rw[Jj,hs];rfl
 rw[j];have a1:¬(K.E.p.banks.length:Int)<=bank:=Zo;have a0:(bank:Int)<K.E.p.banks.length:=Zo;have y:¬4096<=(a:Int):=Zo;have x:a<s.size:=Zo;have l:(a:Int)<s.size:=Zo;have a2:=Ja f;clear h g hr hs j c k q i f;go_enter Try.func102,Try.ntmps102;go_wp2;go_ret;refine⟨zh ?_,rfl⟩;have:=s.data[a].toNat_lt;rw[xY]
 show((s.data[a].toNat:Nat):Int)%65536=((s.data[a].toNat:Nat):Int)
 omega
theorem jA(h:MachAt w K m ov):
 A 103 #[G K.pm] w fun e w'=>e=endOf (uq K.E m)/\MachAt w' K (uq K.E m).mach ov/\Frm K.B w w':=by
 have c7:=h.c7;have c11:=h.c11;have d:=h.inn;obtain⟨ia,ic,g,b0,a9⟩:=d.form;rw[g] at c7 d;have i:=Ja h;have u:=h.inp;have a1:=Ja g;clear h g
 by_cases c:m.inputs<K.E.inn.length
 ·obtain⟨x,q⟩:∃x,K.E.inn[m.inputs]? =some x:=⟨_,Jd c⟩
  obtain⟨b,o,rfl,k,f,a5⟩:=d.get q;have a2:=Ja k;clear k;rw[Nk] at f;have hI:¬(K.E.inn.length:Int)<=m.inputs:=Zo;have hJ:(m.inputs:Int)<K.E.inn.length:=Zo;have e:uq K.E m=.ok x {m with inputs:=m.inputs+1 }:=by unfold uq;rw[if_pos c,Jj,q];rfl
  rw[e];have l:=i.out.free 11;have a0:=Ja c;have a3:K.E.inn.length<=9223372036854775807:=Zo;clear e d c q u;go_enter Try.func103,Try.ntmps103;go_upto_region 1 with fail
  go_cut [13] (fun v wx=>v=.bool false/\∃n,wx=w.drewN n)
  case first=>
   go_quiet (fail);go_wp2;go_meet;exact⟨rfl,_,rfl⟩
  case rest=>
   obtain⟨rfl,n,rfl⟩:=hcut;have j:=(i.out.drewN n).setI a0.out i.out.ne;have t:Frm K.B w ((w.drewN n).setCell ⟨K.pm,11,none⟩ (I ((m.inputs:Int)+1))):=(Frm.refl _ _).drewN.trans ((i.out.drewN n).frm 11 _);have d7:(w.drewN n).cell? ⟨K.pm,7,none⟩=_:=c7;have b2:(w.drewN n).cell? ⟨K.pm,11,none⟩=_:=c11;have a4:Y (w.drewN n) K.pm 11:=l;have e7:=j.c7;rw[a1.out] at e7;have b1:=j.c11;have y:=(t.below.cell (p:=⟨b,o+m.inputs,none⟩) a2.out).trans f;have a6:IntKind.i64.wrap (((m.inputs+1:Nat):Int)-1)=(m.inputs:Int):=by rw[show(((m.inputs+1:Nat):Int)-1)=(m.inputs:Int) by omega];exact Om _ Zo
   have H1:=Ja j;have HF:=Ja t;clear j t c7 c11 l;go_upto_region 4 with fail;generalize (w.drewN n).setCell ⟨K.pm,11,none⟩ (I ((m.inputs:Int)+1))=W2 at *;go_quiet (fail);go_wp2;go_ret;exact⟨rfl,H1.out.drewN _,HF.out.drewN⟩
 ·have hI:(K.E.inn.length:Int)<=m.inputs:=Zo;have e:uq K.E m=.ok 0 m:=by unfold uq;rw[if_neg c]
  rw[e];clear e d c;go_enter Try.func103,Try.ntmps103;go_wp2;go_quiet (fail);go_wp2;go_ret;exact⟨rfl,i.out.drewN _,(Frm.refl _ _).drewN⟩
end Go.Proofs.Ytoahcpkibpomcaa
set_option maxRecDepth 8000
namespace Go.Proofs.Ytoahcpkibpomcaa
open Go.RowKit
variable {W W' W0 w w' w0 w1:World}{K:MK}{m:Mach}{ov:Value}{g preds:List (List Nat)}{B0 Bi Bn Bv C D bi bm bp i nm x:Nat}{ns pr xs:List Nat}{c idom:List Int}{f:Int->Int}{t:Int}{o:Obj}{ds:List Deferred}{ar:Option Addr}
theorem mD {P:List (List Nat)}{n s m:Nat}(h:∀r∈P,r.length<=m):∀r∈xS n P s,r.length<=m+1:=by
 intro r hr;rcases Qe hr with hr|rfl
 ·have:=h r hr;omega
 ·simp only[Jk,Nq,Ow]
  by_cases hs:s<P.length
  ·have:=h (P.getD s []) (by rw[Jj,Jd hs];exact Uf hs);omega
  ·rw[Jj,Of Zo];simp
theorem oB (n:Nat):∀(l:List Nat) (P:List (List Nat)) (m:Nat),(∀r∈P,r.length<=m)->∀r∈l.foldl (xS n) P,r.length<=m+l.length
 | [],_,_,h=>h
 |s::l,P,m,h=>fun r hr=>by
  have:=oB n l _ (m+1) (mD h) r hr;simp only[Nq];omega
theorem rj (g:List (List Nat))(D:Nat)(c:∀row∈g,row.length<=D):∀(l:List Nat) (P:List (List Nat)) (m:Nat),(∀r∈P,r.length<=m)->∀r∈l.foldl (yh g) P,r.length<=m+l.length*D
 | [],_,_,h=>by simpa using h
 |u::l,P,m,h=>fun r hr=>by
  have hd:(succ g u).length<=D:=by
   unfold succ;rw[Jj]
   cases e:g[u]? with
   |none=>simp
   |some row=>exact c row (Ji e)
  have:=rj g D c l _ (m+D) (fun r hr=>by have:=oB u (succ g u) P m h r hr;omega) r hr;simp only[Nq,Nat.add_mul,Nat.one_mul];omega
theorem pred_len(d:∀row∈g,row.length<=D)(c row:List Nat)(k j n N:Nat)(hk:k<=N){s:Nat}
 (h:((row.take j).foldl (xS n) ((c.take k).foldl (yh g) (List.replicate N [])))[s]? =some pr):pr.length<=k*D+j:=by
 have m:=oB n (row.take j) _ (0+(c.take k).length*D) (rj g D d (c.take k) (List.replicate N []) 0 (by intro r hr;rw[(List.mem_replicate.1 hr).2];simp)) pr (Ji h);have f:(c.take k).length<=k:=List.length_take_le _ _;have l:(row.take j).length<=j:=List.length_take_le _ _;have i:=Qw D f;omega
structure ViewMem (w0 w:World) (B0 B bv bm bp n:Nat) (ov:Value) (ord:List Nat) (nm:Nat) (f:Int->Int) (preds:List (List Nat)):Prop where
 hv:w.heap[bv]? =some (.cells #[ov,.map (some bm),.slice (some ⟨bp,0,none⟩) n n] 140 (0,0))
 ho:w.ownsRow B0 3 1 ov ord.length (ord.map zj)
 ho2:∀g,ov.ownBlock=some g->g<B
 hm:ud w bm nm f
 hp:OwnRows zj 3 25 w B bp preds
 hl:preds.length=n
 hb:Below B0 w0 w
 lt:B0<=bv/\B0<=bm/\B0<=bp/\bv<B/\bm<B/\bp<B/\B<=w.heap.size
def oN (w:World)(C bv:Nat)(ord:List Nat)(f:Int->Int)(preds:List (List Nat)):Prop:=
 ∃ov bm pv nm,O w bv 0 ov/\O w bv 1 (.map (some bm))/\O w bv 2 pv/\xp zj w C ov ord/\ud w bm nm f/\bm<C/\aaB zj w C pv preds/\bv<C
theorem oN.below{bv:Nat}{c:List Nat}(h:oN w C bv c f preds)(hb:Below C w w'):oN w' C bv c f preds:=by
 obtain⟨ov,bm,pv,nm,c0,c1,c2,ho,hm,d,hp,hl⟩:=h;exact⟨ov,bm,pv,nm,(hb.cell (p:=⟨bv,0,none⟩) hl).trans c0,(hb.cell (p:=⟨bv,1,none⟩) hl).trans c1,(hb.cell (p:=⟨bv,2,none⟩) hl).trans c2,ho.below hb,hm.same (hb.block bm d),d,hp.below hb,hl⟩
def RetView (w:World)(ord:List Nat)(f:Int->Int)(preds:List (List Nat))(e:Ending)(w':World):Prop:=
 ∃bv,e=.returned (G bv)/\w.heap.size<=bv/\oN w' w'.heap.size bv ord f preds/\Q w w'
theorem ViewMem.read{B bv n:Nat}{c:List Nat}(h:ViewMem w0 w B0 B bv bm bp n ov c nm f preds):oN w w.heap.size bv c f preds:=by
 refine⟨ov,bm,L bp n n,nm,zA h.hv Zs,zA h.hv Zs,zA h.hv Zs,rY h.ho (Je _),h.hm,h.hm.lt,?_,lt_of_block h.hv⟩;have:=h.hp.asRows (Je w.heap.size)
 rwa [h.hl] at this
theorem Try.info_ints:(Try.prog.info? 25).map (fun i=>(i.zero,i.size,i.bytes))=some (some (.slice none 0 0),1,24):=by kernel_rfl
theorem ViewMem.store{B bv n:Nat}{i:List Nat}{j:Nat}{f':Int->Int}(h:ViewMem w0 w B0 B bv bm bp n ov i nm f preds)
 (hg:w.grownBy w' (some bm)) (hm:ud w' bm j f'):ViewMem w0 w' B0 B bv bm bp n ov i j f' preds:=by
 obtain⟨hv,ho,ho2,d,hp,hl,hb,o⟩:=h;obtain⟨c,m⟩:=hp.blk;refine⟨zL hg hv (by simpa using d.ne hv),ho.kept hg ?_,ho2,hm,hp.kept hg (by simpa using d.ne m) (by intro k hk;cases hk;omega),hl,hb.grown hg (by have:=lt_of_block hv;have:=d.lt;omega) (by intro k hk;cases hk;omega),by have:=hg.size;omega⟩;right;intro e;rcases ho.2 with⟨rfl,_⟩|⟨g,u,t,rfl,q,l,_⟩
 ·simp[Value.ownBlock] at e
 ·simp only[Value.ownBlock,Option.some.injEq] at e;subst e;exact d.ne l rfl
theorem ViewMem.push{w2:World}{B bv n s g t H m:Nat}{u:List Nat}{d:List (List Nat)}{row:List Nat}{a:Option Addr}(h:ViewMem w0 w B0 B bv bm bp n ov u nm f d)
 (hs:d[s]? =some row) (hc:O w bp s (.slice a row.length m)) (hg:(w.alloc o).grownBy w2 (Value.slice a row.length m).ownBlock)
 (a2:w2.ownsRow B 3 1 (L g (row.length+1) t) (row.length+1) (row.map zj++ [zj x]))
 (a4:(Value.slice a row.length m).ownBlock=some g∨g=H) (hH:w.heap.size<=H):
 ViewMem w0 (w2.setCell ⟨bp,s,none⟩ (L g (row.length+1) t)) B0 B bv bm bp n ov u nm f (d.set s (row++ [x])):=by
 obtain⟨hv,ho,ho2,j,hp,hl,hb,a9⟩:=h;obtain⟨c,l⟩:=hp.blk;obtain⟨a',a5,a0,y,_⟩:=hp.get hs;rw[hc] at a0;cases a0;have a1:=zC y hv (.inl Zo);have i:∀k,(Value.slice a row.length m).ownBlock=some k->B<=k:=fun k hk=>(y.lt k hk).1
 have a3:bv≠bp:=by rintro rfl;rw[hv] at l;simp at l
 have q:=hp.put Zd hs hc hg (row':=row++ [x]) (by simpa using a2) a4 hH;simp only[Jk,Nq,Ow,Ng] at q;refine⟨zR (zL hg (zB hv) a1) (by simpa using a3),?_,ho2,?_,q,by simp[hl],?_,by have:=hg.size;simp[World.setCell] at this ⊢;omega⟩
 ·refine ownsRow_setCell_other ((ho.alloc o).kept hg ?_) ?_ _
  ·cases hk:ov.ownBlock with
   |none=>exact .inl rfl
   |some k=>
    right;intro e;have:=ho2 k hk;have:=i k e.symm;omega
  ·exact zC (b:=bp) ho l (.inr Zd)
 ·refine j.same ?_;rw[Below.heap_setCell _ _ _ _ (by simpa using j.ne l),hg.block bm (by have:=j.lt;simp;omega) (fun e=>by have:=i bm e.symm;omega),Below.heap_alloc _ _ _ j.lt]
 ·have a6:=lt_of_block hv;exact((hb.alloc Zo o).grown hg Zt (fun k hk=>by have:=i k hk;omega)).setCell (show B0<=bp by omega) _
theorem uj{row:Option Nat}(h:w.drew.grownBy w' row):w.grownBy w' row:=⟨h.os,h.tape,h.output,h.size,h.block⟩
theorem uG{B:Nat}(h:Below B w w'):Below B w w'.drew:=h.drew
theorem lq{n:Nat}{v:Value}(c:O w' n 0 v)(h:Below (n+1) W0 w')(hl:n<W0.heap.size)(o:Obj):O (w'.alloc o) n 0 v/\Below (n+1) W0 (w'.alloc o):=by
 have:=h.size;exact⟨by rw[Oo (w:=w') (Below.heap_alloc _ _ _ Zt)];exact c,h.alloc Zo o⟩
theorem oY{n:Nat}{v:Value}(c:O w' n 0 v)(h:Below (n+1) W0 w')(hl:n<W0.heap.size)(hb:Q w' w1):O w1 n 0 v/\Below (n+1) W0 w1:=by
 have:=h.size;exact⟨(hb.cell (p:=⟨n,0,none⟩) (show n<_ by omega)).trans c,h.trans (hb.mono Zo)⟩
theorem ww{n:Nat}(c:n=w.heap.size)(d:Hid (w.alloc o=W0))(h:Below (n+1) W0 w'):Below n w w':=by
 have e:=d.out;subst e;subst c;exact((Below.refl _ _).alloc (Je _) _).trans (h.mono Zo)
theorem o7{B:Nat}(d:B<=w.heap.size)(c:Hid (w.alloc o=W0))(h:Below (w.heap.size+1) W0 w'):B<=w'.heap.size:=by
 have:=(ww rfl c h).size;omega
theorem nP{B:Nat}{v:Value}(d:aaB zj w B v g)(f:B<=w.heap.size)(c:Hid (w.alloc o=W0))(h:Below (w.heap.size+1) W0 w'):aaB zj w' B v g:=
 d.below ((ww rfl c h).mono f)
theorem aJ{X wy:World}{F F':List Nat}{ao:Option Addr}{co bv n:Nat}(i:F.length=F'.length)(d:w1.ownsRow X.heap.size 3 1 (.slice ao F.length co) F.length (F.map zj))(lg:w.heap.size<W0.heap.size)
 (j:W0.heap.size<=X.heap.size) (hb:Below (w.heap.size+1) W0 wy) (hg:w1.grownBy wy none) (f:wy.heap.size=bv)
 (hm:wy.heap[bm]? =some (.map #[] 0)) (hp:T wy bp (madeCells #[.slice none 0 0] n) 25) (lt:w.heap.size<bm/\w.heap.size<bp):
 ∃bv' bm' bp' ov,Value.pointer (some ⟨bv,0,none⟩)=G bv'/\Hid (ViewMem W0 (wy.alloc (U #[.slice ao F'.length co,.map (some bm),L bp n n] 140)) (w.heap.size+1) (wy.alloc (U #[.slice ao F'.length co,.map (some bm),L bp n n] 140)).heap.size bv' bm' bp' n ov F 0 (fun _=>0) (List.replicate n [])):=by
 rw[<-i];have c:=hb.size;have h:=hg.size;have ho:=(d.kept hg (by cases ao<;>simp[Value.ownBlock])).alloc (U #[.slice ao F.length co,.map (some bm),L bp n n] 140);have l:=lt_of_block hm;have k:=lt_of_block hp;refine⟨bv,bm,bp,.slice ao F.length co,rfl,zI f,vY ho Zo,fun g hg=>(ho.lt g hg).2,?_,OwnRows.made _ (by rw[zB hp,yA]),by simp,hb.alloc Zo _,?_⟩
 ·exact⟨_,⟨#[],0,zB hm,(let⟨es,clock,c,h,_⟩:=(World.ownsMap_made (H:=Unit) w Try.prog 3 (plainElem Try.prog 3));by
   rw[zI rfl] at c;cases c;exact h),Je _,rfl⟩,fun _ _=>rfl⟩
 ·simp only[World.size_alloc];omega
theorem view_any (w:World)(sv:Value)(g:List (List Nat))(B:Nat)(hB:B<=w.heap.size)(h:aaB zj w B sv g)(hv:zw g)(hn:g.length<=2000000)(hr:∀row∈g,row.length<=2000000)
 (c:List Nat) (hF:tV g c):
 A 79 #[.agg #[sv]] w (RetView w c (atF c c.length) (un g c)):=by
 obtain⟨a,q,rfl,h0⟩:=h.form;obtain⟨ii,f0,d1,d0,c9⟩:=info_parts Try.info_int;have d4:Q w (w.alloc (U #[.slice a g.length q] 75)):=(Below.refl _ _).alloc (Je _) _;have e4:=@run_makeMap Try.prog;have e5:=run_make_row' (P:=Try.prog) 73 25 (.slice none 0 0) 24 Try.underlying73 Try.info_ints rfl .i64 .i64 g.length Zo Zo;have HV:=Ja hv;have HR:=Ja hr;have HF:=Ja hF;have cg:O (w.alloc (U #[.slice a g.length q] 75)) w.heap.size 0 (.slice a g.length q):=cell_of_one (zI rfl);clear hv hr hF;go_enter Try.func79,Try.ntmps79;go_upto_region 1 with fail;generalize c1:w.alloc (U #[.slice a g.length q] 75)=W0 at cg ⊢;have u:=Ja c1;have h4:=Below.refl (w.heap.size+1) W0;have lg:w.heap.size<W0.heap.size:=Jw W0 _ cg;clear c1 d4
 go_cut [3] (fun s3 wx=>∃bv bm bp ov,s3=G bv/\Hid (ViewMem W0 wx (w.heap.size+1) wx.heap.size bv bm bp g.length ov c 0 (fun _=>0) (List.replicate g.length [])))
 case first=>
  go_region_held3 (fun w'=>O w' w.heap.size 0 (.slice a g.length q)/\Below (w.heap.size+1) W0 w')
   (first
     |(go_split_ands;refine⟨?_,?_⟩<;>assumption)
     |(go_split_ands;refine⟨?_,uG ?_⟩<;>assumption)
     |(go_split_ands;exact lq ‹_› ‹_› Zz _)
     |(go_split_ands;exact oY ‹_› ‹_› Zz Zz))
   ((go_at_call 21;refine(tp _ _ g B (o7 hB u (by repeat' (first|assumption|(with_reducible refine Below.drew ?_)|(with_reducible refine Below.alloc ?_ ?_ _)|omega|(simp<;>omega)))) (nP h hB u (by repeat' (first|assumption|(with_reducible refine Below.drew ?_)|(with_reducible refine Below.alloc ?_ ?_ _)|omega|(simp<;>omega)))) HV.out hn HR.out c HF.out).mono ?_;rintro e w1 ⟨ov,rfl,b7,a5⟩;obtain⟨ao,co,rfl⟩:=zG b7))
  all_goals
   go_wp2_with fail;go_meet;have e1:=a5.size;simp at e1;refine aJ (w:=w) (w1:=w1) (F:=c) rfl b7 lg ?_ ?_ ?_ ?_ ?_ ?_ ?_
   ·simp<;>omega
   ·repeat' (first|assumption|(with_reducible refine Below.drew ?_)|(with_reducible refine Below.alloc ?_ ?_ _)|(refine Below.trans ?_ (Below.mono a5 ?_))|omega|(simp<;>omega))
   ·repeat' (first|(with_reducible exact oI _ _)|(with_reducible refine World.grownBy.trans ?_ (Uo _ _ _)))
   ·simp
   ·repeat' (first|(refine zI ?_;first|rfl|(simp;done))|(refine zB ?_)|(refine zH a5 ?_ ?_)|omega|(simp<;>omega))
   ·repeat' (first|(refine zI ?_;first|rfl|(simp;done))|(refine zB ?_)|(refine zH a5 ?_ ?_)|omega|(simp<;>omega))
   ·constructor<;>first|omega|(simp<;>omega)
 case rest=>
  obtain⟨bv,bm,bp,ov,rfl,a6⟩:=hcut;obtain⟨BB,c3⟩:∃BB,BB=wc.heap.size:=⟨_,rfl⟩
  rw[<-c3] at a6;clear c3 e4 e5;have ho:=a6.out.ho;obtain⟨ao,co,rfl⟩:=zG ho;have c0:=a6.out.hv;have f5:=K0 c0;clear ho c0;have e2:=(HF.out.nodes HV.out).1;go_wp2_with fail
  go_loopw [22] (fun i wr=>∃k:Nat,k<=c.length/\i=I k/\Hid (ViewMem W0 wr (w.heap.size+1) BB bv bm bp g.length (.slice ao c.length co) c k (atF c k) ((c.take k).foldl (yh g) (List.replicate g.length [])))) (fun i _=>c.length-(intOf i).toNat)
  case atStart=>exact⟨0,Jt _,rfl,by rw[show atF c 0=fun _=>0 from rfl];simpa using a6⟩
  case round=>
   obtain⟨k,hk,rfl,x⟩:=hrel
   by_cases e6:k<c.length
   ·obtain⟨n,a4⟩:∃n,c[k]? =some n:=⟨_,Jd e6⟩
    have e3:n<g.length:=(HF.out.nodes HV.out).2 n (Ji a4);have g5:(n:Int)<g.length:=Zo;have g8:(k:Int)<c.length:=Zo;have d8:=rY x.out.ho (Je _);obtain⟨ao',i1,f2,_,hx⟩:=d8;cases f2;obtain⟨bo,oo,rfl,_,c5⟩:=hx k n a4;simp only[zj] at c5;have f4:=K1 x.out.hv;obtain⟨row,m⟩:∃row,g[n]? =some row:=⟨_,Jd e3⟩
    have c8:=Ja a4;clear hx a4 f5;obtain⟨b,o,a2,h6,rfl,hb,hc,g2,hx⟩:=h.row m;have HX:=Ja hx;have HC:=Ja hc;clear hx hc;go_wp2_with (at_mapUpdate;go_must (refine rW rfl (.tmp 30) (.tmp 31) (.tmp 32) rfl x.out.hm Zo (n:Int) (k:Int) rfl rfl rfl Zo Zo ?_;intro w2 b8 b9;have l:=x.out.store b9 b8;have d3:=(l.hb.cell (p:=⟨w.heap.size,0,none⟩) (show w.heap.size<w.heap.size+1 by omega)).trans cg;have hc:=((ww rfl u l.hb).cell (p:=⟨b,o+n,none⟩) (show b<w.heap.size by omega)).trans HC.out;have d5:=Ja l;clear l b8 b9))
    have hrl:=HR.out row (Ji m);have b1:=Ja m;clear x c5 f4 m
    go_loopw [39] (fun i wx=>∃j:Nat,j<=row.length/\i=I j/\Hid (ViewMem W0 wx (w.heap.size+1) BB bv bm bp g.length (.slice (some ⟨bo,oo,none⟩) c.length co) c (k+1) (fun y=>if y=(n:Int) then(k:Int) else atF c k y) ((row.take j).foldl (xS n) ((c.take k).foldl (yh g) (List.replicate g.length []))))) (fun i _=>row.length-(intOf i).toNat)
    case atStart=>exact⟨0,Jt _,rfl,by simpa using d5⟩
    case round=>
     obtain⟨j,hj,rfl,d⟩:=hrel
     by_cases d2:j<row.length
     ·obtain⟨s,a0⟩:∃s,row[j]? =some s:=⟨_,Jd d2⟩
      have e0:s<g.length:=HV.out.2 row (Ji b1.out) s (Ji a0);obtain⟨b2,o2,rfl,h8,c4⟩:=HX.out j s a0;have cs:=((ww rfl u d.out.hb).cell (p:=⟨b2,o2+j,none⟩) (show b2<w.heap.size by omega)).trans c4;simp only[zj] at cs;have b6:=d.out.hl;obtain⟨pr,a1⟩:∃pr,((row.take j).foldl (xS n) ((c.take k).foldl (yh g) (List.replicate g.length [])))[s]? =some pr:=⟨_,Jd (by rw[b6];exact e0)⟩
      obtain⟨ap,b0,cp,a3,fp⟩:=d.out.hp.get a1;have c2:=K2 d.out.hv;have h7:=d.out.lt.2.2.2.2.2.2;have g4:pr.length<=4000004000000:=by have:=pred_len HR.out c row k j n _ (Jn hk e2) a1;omega
      have g3:(s:Int)<g.length:=Zo;have g7:(j:Int)<row.length:=Zo;have lb:=d.out.lt;have d7:=lt_of_block d.out.hv;have b5:=d.out.hp.bplt;have d6:=zC a3 d.out.hv (.inl Zo);obtain⟨cc,a9⟩:=d.out.hp.blk;have b4:=zC a3 a9 (.inr Zd);have c7:=Ja a1;have g0:=Ja a0;have i8:=Ja a9;have g1:=Ja a3;clear a1 a0 a9 a3 c4 b6 d3 hc;have f3:∀o,Y (wr.alloc o) bp s:=fun o=>(Qm (w:=wr) (Below.heap_alloc _ _ _ b5)).trans fp
      have f6:∀o,O (wr.alloc o) bp s (.slice ap pr.length b0):=fun o=>(Oo (w:=wr) (Below.heap_alloc _ _ _ b5)).trans cp
      have f9:∀o,O (wr.alloc o) bv 2 (L bp g.length g.length):=fun o=>(Oo (w:=wr) (Below.heap_alloc _ _ _ d7)).trans c2
      go_upto_block 3 with fail
      go_cut [7] (fun s7 wx=>Hid (ViewMem W0 wx (w.heap.size+1) BB bv bm bp g.length (.slice (some ⟨bo,oo,none⟩) c.length co) c (k+1) (fun y=>if y=(n:Int) then(k:Int) else atF c k y) (((row.take j).foldl (xS n) ((c.take k).foldl (yh g) (List.replicate g.length []))).set s (pr++ [n]))))
      case first=>
       go_upto_region 9 with fail
       go_region_law (first|(refine step_append_lies _ (by rfl) (.tmp 54) (.tmp 56) _ (by rfl) BB 3 ii (I 0) 1 8 Try.underlying25 f0 d1 d0 c9 rfl Zo (.slice ap pr.length b0) pr.length (pr.map zj) (by rfl) ((g1.out.alloc _).drew) ⟨wr.heap.size,0,none⟩ 1 1 [I n] (by rfl) (by rfl) (Oi (cs:=#[I n]) (t:=3) (fr:=(0,0)) (heap_alloc_new wr _)) (by simp[Value.oneCell']) Zo (by unfold maxLen;omega) Zo Zt (wr.heap.size+1) Zs ?_;intro gg h5 w3 b3 f f1 g6;have i2:=(f.cell_far ⟨bv,2,none⟩ Zt (Ne.symm d6)).trans (f9 _);have i0:=(f.cell_far ⟨bp,s,none⟩ Zt (Ne.symm b4)).trans (f6 _);have h9:=(f.frozen_far ⟨bp,s,none⟩ Zt (Ne.symm b4)).trans (f3 _)))
       all_goals (go_wp2_with fail;go_meet;exact Ja (d.out.push c7.out cp (uj f) b3 f1 Zo))
      case rest=>
       go_wp2_with fail;go_roundw
       case rel=>exact⟨j+1,by omega,by go_num,by rw[Nh,g0.out];simpa[xS,Jj,c7.out] using hcut⟩
       case measure=>simp[intOf];omega
     ·go_wp2_with fail;go_roundw
      case rel=>exact⟨k+1,by omega,by go_num,by
       have e8:j=row.length:=Zo;have h1:=d;rw[e8,Nl] at h1;rw[Nh,c8.out,List.foldl_append];have h2:succ g n=row:=by simp[succ,Jj,b1.out]
       have h3:atF c (k+1)=fun y=>if y=(n:Int) then(k:Int) else atF c k y:=by
        funext y;simp only[atF,Jj,c8.out,Ot]
       rw[h3]
       simpa[yh,h2] using h1⟩
      case measure=>simp[intOf];omega
   ·have e7:k=c.length:=Zo;subst e7;go_wp2_with fail;go_ret;refine⟨bv,rfl,?_,?_,ww rfl u x.out.hb⟩
    ·have:=x.out.lt;omega
    ·have:=x.out.read
     rwa [Nl] at this
end Go.Proofs.Ytoahcpkibpomcaa
set_option maxRecDepth 8000
namespace Go.Proofs.Ytoahcpkibpomcaa
open Go.RowKit
variable {W W' W0 w w' w0 w1:World}{K:MK}{m:Mach}{ov:Value}{g preds:List (List Nat)}{B0 Bi Bn Bv C D bi bm bp i nm x:Nat}{ns pr xs:List Nat}{c idom:List Int}{f:Int->Int}{t:Int}{o:Obj}{ds:List Deferred}{ar:Option Addr}
theorem UpN.lt:∀ {k a a':Nat},UpN c f t k a a'->a<c.length->a'<c.length
 |0,_,_,h,ha=>by rw[h.2];exact ha
 |k+1,_,_,h,_=>by obtain⟨_,a1,h1,_,h2⟩:=h;exact UpN.lt h2 h1
theorem nj{b n:Nat}(h:ud w b n f){x:Int}(c:-9223372036854775808<=x/\x<=9223372036854775807)(k:Nat):
 (Instr.lookup 105 (.map (some b)) (I x) false).run Try.prog (w.drewN k)=.ok (I (f x)) (w.drewN k):=
 (ud.look (h.same (w':=w.drewN k) rfl) c).1
theorem meet_any (w:World)(Bv Bi bv bm nm bi:Nat)(f:Int->Int)(c:List Int)(hn:c.length<=2000000)
 (c1:O w Bv 0 (G bv)) (c2:O w bv 1 (.map (some bm))) (hm:ud w bm nm f)
 (c3:O w Bi 0 (L bi c.length c.length)) (hi:T w bi (c.map (Value.int .i64)).toArray 3)
 (k0 a b r:Nat) (ha:a<c.length) (hb:b<c.length) (hM:qZ c f k0 a b r):
 A 87 #[I a,I b,G Bv,G Bi] w fun e w'=>e=.returned (I r)/\∃n,w'=w.drewN n:=by
 have m:=Ja hM;have HI:=Ja hi;have i:=Ja hm;clear hM hi hm;go_enter Try.func87,Try.ntmps87;go_wp2
 go_loopg [0,1] k0 (fun k x y wr=>∃a b:Nat,a<c.length/\b<c.length/\x=I a/\y=I b/\Hid (qZ c f k a b r)/\∃n,wr=w.drewN n)
 case atStart=>exact⟨a,b,ha,hb,rfl,rfl,m,0,rfl⟩
 case round=>
  clear ha hb m a b;obtain⟨a,b,ha,hb,rfl,rfl,m,n,rfl⟩:=hrel
  cases gk with
  |zero=>
   obtain⟨rfl,rfl⟩:=m.out;have a2:((r:Int) !=(r:Int))=false:=by simp
   go_wp2;go_ret
   exact⟨rfl,n,rfl⟩
  |succ k=>
   obtain⟨a3,j,a',h,j',b',o,hM⟩:=m.out;have a2:((a:Int) !=(b:Int))=true:=by simp;omega
   have l:=Ja h;have g:=Ja o;have a4:=Ja hM;have a0:=UpN.lt h ha;have u:=UpN.lt o hb;clear a3 h o hM m;go_wp2
   go_loopg [0] j (fun j x wr=>∃a:Nat,a<c.length/\x=I a/\Hid (UpN c f (f b) j a a')/\∃n,wr=w.drewN n)
   case atStart=>exact⟨a,ha,rfl,l,n,rfl⟩
   case round=>
    clear l;obtain⟨x,b0,rfl,l,n2,rfl⟩:=hrel;have la:=nj i.out (x:=(x:Int)) Zo;have lb:=nj i.out (x:=(b:Int)) Zo
    cases gk with
    |zero=>
     obtain⟨ht,rfl⟩:=l.out;have d:decide (f b<f a')=false:=by simpa using ht
     go_wp2;go_quiet (fail);go_wp2
     go_loopg [1] j' (fun j y wr=>∃y0:Nat,y0<c.length/\y=I y0/\Hid (UpN c f (f a') j y0 b')/\∃n,wr=w.drewN n)
     case atStart=>exact⟨b,hb,rfl,g,_,World.drewN_drewN _ _ _⟩
     case round=>
      clear g d;obtain⟨y,a9,rfl,g,n3,rfl⟩:=hrel;have lc:=nj i.out (x:=(y:Int)) Zo
      cases gk with
      |zero=>
       obtain⟨ht,rfl⟩:=g.out;have d:decide (f a'<f b')=false:=by simpa using ht
       go_wp2;go_quiet (fail);go_wp2
       go_roundg k
       case measure=>omega
       case rel=>exact⟨a',b',a0,u,rfl,rfl,a4,_,World.drewN_drewN _ _ _⟩
      |succ j2=>
       obtain⟨ht,y1,t,hy,h⟩:=g.out;have d:decide (f a'<f y)=true:=by simpa using ht
       have cy:O w bi y (I y1):=zA HI.out (by simp[hy]);have a5:(y:Int)<c.length:=Zo;have q:=Ja h;clear hy h g;go_wp2;go_quiet (fail);go_wp2
       go_roundg j2
       case measure=>omega
       case rel=>exact⟨y1,t,rfl,q,_,rfl⟩
    |succ j2=>
     obtain⟨ht,a1,t,hx,h⟩:=l.out;have d:decide (f b<f x)=true:=by simpa using ht
     have cx:O w bi x (I a1):=zA HI.out (by simp[hx]);have a6:(x:Int)<c.length:=Zo;have q:=Ja h;clear hx h l;go_wp2;go_quiet (fail);go_wp2
     go_roundg j2
     case measure=>omega
     case rel=>exact⟨a1,t,rfl,q,_,rfl⟩
end Go.Proofs.Ytoahcpkibpomcaa
set_option maxRecDepth 8000
namespace Go.Proofs.Ytoahcpkibpomcaa
open Go.RowKit Go.Shelf
variable {W W' W0 w w' w0 w1:World}{K:MK}{m:Mach}{ov:Value}{g preds:List (List Nat)}{B0 Bi Bn Bv C D bi bm bp i nm x:Nat}{ns pr xs:List Nat}{c idom:List Int}{f:Int->Int}{t:Int}{o:Obj}{ds:List Deferred}{ar:Option Addr}
attribute [local go_sem] Oper.semAt_some
theorem wi.snoc {idom:List Int}{f:Int->Int}{p:Nat}:∀ {ps:List Nat} {d d1 d2:Int},wi idom f ps d d1->mJ idom f p d1 d2->wi idom f (ps++ [p]) d d2
 | [],d,d1,d2,h,h2=>by cases h;exact⟨d2,h2,rfl⟩
 |q::ps,d,d1,d2,⟨d0,h0,h⟩,h2=>⟨d0,h0,wi.snoc h h2⟩
theorem UpN.unique:∀ {k k2 a r r2:Nat},UpN c f t k a r->UpN c f t k2 a r2->r=r2
 |0,0,_,_,_,h,h2=>h.2.trans h2.2.symm
 |0,_+1,_,_,_,h,h2=>absurd h2.1 h.1
 |_+1,0,_,_,_,h,h2=>absurd h.1 h2.1
 |k+1,k2+1,a,r,r2,⟨_,a1,_,h,h3⟩,⟨_,a2,_,h2,h4⟩=>by
  obtain rfl:a1=a2:=by rw[h] at h2;exact Int.ofNat_inj.1 (Nt h2)
  exact UpN.unique h3 h4
theorem qZ.unique:∀ {k k2 a b r r2:Nat},qZ c f k a b r->qZ c f k2 a b r2->r=r2
 |0,0,_,_,_,_,h,h2=>h.2.trans h2.2.symm
 |0,_+1,_,_,_,_,h,h2=>absurd h.1 h2.1
 |_+1,0,_,_,_,_,h,h2=>absurd h2.1 h.1
 |k+1,k2+1,a,b,r,r2,⟨_,j,a1,h1,j',b1,h2,h3⟩,⟨_,i,a2,g1,i',b2,g2,g3⟩=>by
  obtain rfl:=UpN.unique h1 g1;obtain rfl:=UpN.unique h2 g2;exact qZ.unique h3 g3
theorem mJ.unique{p:Nat}{d d1 d2:Int}(h:mJ c f p d d1)(h2:mJ c f p d d2):d1=d2:=by
 obtain⟨x,j,h⟩:=h;obtain⟨y,g,h2⟩:=h2;obtain rfl:x=y:=by rw[j] at g;simpa using g
 rcases h with⟨a,rfl⟩|⟨a,b,rfl⟩|⟨a,dn,rfl,_,k,r,hm,rfl⟩<;>rcases h2 with⟨a',e⟩|⟨a',b',e⟩|⟨a',dn',e0,_,k',r',i,e⟩
 ·exact e.symm
 ·exact absurd a a'
 ·exact absurd a a'
 ·exact absurd a' a
 ·exact e.symm
 ·omega
 ·exact absurd a' a
 ·omega
 ·obtain rfl:dn=dn':=by omega
  rw[e,qZ.unique hm i]
theorem wi.unique:∀ {ps:List Nat} {d d1 d2:Int},wi c f ps d d1->wi c f ps d d2->d1=d2
 | [],_,_,_,h,h2=>h.trans h2.symm
 |p::ps,d,d1,d2,⟨e,h,h'⟩,⟨e2,g,g'⟩=>by
  obtain rfl:=h.unique g;exact wi.unique h' g'
structure DomMem (w W:World) (bv Bi bi n:Nat) (idom:List Int):Prop where
 hv:W.heap[w.heap.size]? =some (.cells #[.pointer (some ⟨bv,0,none⟩)] 122 (0,0))
 hi:W.heap[Bi]? =some (.cells #[.slice (some ⟨bi,0,none⟩) n n] 25 (0,0))
 hm:W.heap[Bi+1]? =some (.cells #[.func (.func 87) #[] #[.pointer (some ⟨w.heap.size,0,none⟩),.pointer (some ⟨Bi,0,none⟩)]] 142 (0,0))
 hr:W.heap[bi]? =some (.cells (idom.map (Value.int .i64)).toArray 3 (0,0))
 hl:idom.length=n
 hb:Below w.heap.size w W
 lt:w.heap.size<bi/\bi<Bi
theorem DomMem.kept{bv n:Nat}{row:Option Nat}(h:DomMem w W bv Bi bi n idom)(hg:W.grownBy W' row)
 (c:∀r,row=some r->w.heap.size<r/\r≠bi/\r≠Bi/\r≠Bi+1):DomMem w W' bv Bi bi n idom:=by
 obtain⟨hv,hi,hm,hr,hl,hb,lt⟩:=h;refine⟨zL hg hv (fun e=>by have:=c _ e;omega),zL hg hi (fun e=>(c _ e).2.2.1 rfl),zL hg hm (fun e=>(c _ e).2.2.2 rfl),zL hg hr (fun e=>(c _ e).2.1 rfl),hl,hb.grown hg hb.size (fun k hk=>?_),lt⟩;have:=c _ hk;omega
theorem DomMem.own{bv n:Nat}{row:Option Nat}(h:DomMem w W bv Bi bi n idom)(hg:W.grownBy W' row)
 (c:∀r,row=some r->∃o:Obj,W.heap[r]? =some o/\o.isCells=false) (f:∀r,row=some r->w.heap.size<=r):DomMem w W' bv Bi bi n idom:=by
 refine h.kept hg (fun r e=>?_);obtain⟨o,ho,d⟩:=c r e
 have aux:∀ {b:Nat} {cs:Array Value} {t:TypeId},T W b cs t->r≠b:=by
  rintro b cs t hb rfl;rw[hb] at ho;cases ho;cases d
 exact⟨Nat.lt_of_le_of_ne (f r e) (Ne.symm (aux h.hv)),aux h.hr,aux h.hi,aux h.hm⟩
theorem DomMem.set{bv n:Nat}(h:DomMem w W bv Bi bi n c)(k:Nat)(d:Int):DomMem w (W.setCell ⟨bi,k,none⟩ (I d)) bv Bi bi n (c.set k d):=by
 obtain⟨hv,hi,hm,hr,hl,hb,lt⟩:=h;refine⟨zR hv Zt,zR hi Zt,zR hm Zt,?_,by simpa using hl,hb.setCell Zt _,lt⟩;rw[zD hr];simp
def oh (B:Nat)(W:World)(ds:List Deferred):Prop:=
 ∃Ds:List Nat,ds=Ds.map (fun D=> {target:=.collected D,args:=#[]})/\Ds.Nodup/\∀D∈Ds,B<=D/\W.heap[D]? =some (.deferred (some []))
theorem oh.keeps{B:Nat}(h:oh B W ds)(hk:KeepsFrom 0 W W'):oh B W' ds:=by
 obtain⟨Ds,rfl,d,c⟩:=h;exact⟨Ds,rfl,d,fun D hD=>⟨(c D hD).1,hk.same D _ (Jt _) (c D hD).2 rfl⟩⟩
theorem oh.push{B:Nat}(h:oh B W0 ds)(hk:KeepsFrom 0 W0 W)(j:W0.heap.size<=D)(g:B<=D)(f:W.heap[D]? =some (.deferred (some []))):
 oh B W ({target:=.collected D,args:=#[]}::ds):=by
 obtain⟨Ds,rfl,i,d⟩:=h;refine⟨D::Ds,rfl,Qt.2 ⟨fun hm=>?_,i⟩,fun E c=>?_⟩
 ·have:=(Array.getElem?_eq_some_iff.1 (d D hm).2).1;omega
 ·rcases Jq.1 c with rfl|c
  ·exact⟨g,f⟩
  ·exact⟨(d E c).1,hk.same E _ (Jt _) (d E c).2 rfl⟩
theorem sr {F:Fence}{m:Nat}{P:Program}{fn:Func}{c:Array Value}{R:Ending->World->Prop}(B:Nat)(G:World->Prop)
 (f:∀W D,B<=D->W.heap[D]? =some (.deferred (some []))->G W->G (W.putObj D (.deferred none))) (d:∀W,G W->LeavesIn F m P fn c R [] .returning W):
 ∀(Ds:List Nat) (W:World),Ds.Nodup->(∀D∈Ds,B<=D/\W.heap[D]? =some (.deferred (some [])))->G W->LeavesInM F m P fn c R (Ds.map (fun D=> {target:=.collected D,args:=#[]})) .returning W
 | [],W,_,_,h=>d W h
 |D::Ds,W,hn,hd,h=>by
  have hD:=hd D Zs;refine⟨by simp,.inl ⟨D,_,rfl,run_takeDeferred hD.2,?_⟩⟩;refine sr B G f d Ds _ (Qt.1 hn).2 (fun E hE=>⟨(hd E (by simp[hE])).1,?_⟩) (f W D hD.1 hD.2 h);rw[World.putObj_heap_other (by rintro rfl;exact(Qt.1 hn).1 hE)];exact(hd E (by simp[hE])).2
theorem _root_.Go.KeepsFrom.from0(h:KeepsFrom 0 W W')(B:Nat):KeepsFrom B W W':=⟨h.size,fun k o _ hk ho=>h.same k o (Jt _) hk ho⟩
theorem uh (W:World)(o:Obj):KeepsFrom 0 W (W.alloc o):=⟨by simp,fun k o' _ hk _=>(Below.heap_alloc _ _ _ (Array.getElem?_eq_some_iff.1 hk).1).trans hk⟩
theorem uu{b:Nat}{cs:Array Value}{t:TypeId}(h:T W b cs t)(v:Value):KeepsFrom 0 W (W.setCell ⟨b,i,none⟩ v):=
 ⟨by simp,fun k o _ hk hc=>(Below.heap_setCell _ _ _ k (fun e=>by subst e;rw[h] at hk;cases hk;cases hc)).trans hk⟩
theorem uW (W:World)(n:Nat):KeepsFrom 0 W (W.drewN n):=⟨Je _,fun _ _ _ h _=>h⟩
theorem oH{bv n:Nat}(h:T w1 (w.heap.size+2) (List.replicate n (I (-1))).toArray 3/\Q w w1/\T w1 w.heap.size #[G bv] 122)
 (d:w.heap.size+2<w1.heap.size) (f:1<=n):
 DomMem w (((w1.setCell ⟨w.heap.size+2,0,none⟩ (I 0)).alloc (U #[L (w.heap.size+2) n n] 25)).alloc (U #[.func (.func 87) #[] #[G w.heap.size,G w1.heap.size]] 142))
  bv w1.heap.size (w.heap.size+2) n ((0:Int)::List.replicate (n-1) (-1)):=by
 obtain⟨hr,hb,hv⟩:=h;have c:=zD (i:=0) hr (I 0);refine⟨zB (zB (zR hv Zs)),zB (zI Zs),zI Zs,?_,by simp;omega,?_,by omega,d⟩
 ·rw[zB (zB c)];obtain⟨m,rfl⟩:∃m,n=m+1:=⟨n-1,by omega⟩
  simp[Qz]
 ·exact((hb.setCell Zs _).alloc Zt _).alloc Zt _
theorem vA{b:Nat}{a:Addr}(h:a.block≠b)(u:Value):(W.setCell ⟨b,i,none⟩ u).cell? a=W.cell? a:=by
 have:(W.setCell ⟨b,i,none⟩ u).heap[a.block]? =W.heap[a.block]?:=Below.heap_setCell _ _ _ _ h;unfold World.cell?;rw[this]
theorem aaT.keptObj{n:Nat}{bv op len g:Nat}{f:Nat}{row:Option Nat}(h:aaT Bv Bn n xs bv bp op len g ar f W)(hg:W.grownBy W' row)
 (d:∀r,row=some r->∃o:Obj,W.heap[r]? =some o/\o.isCells=false):aaT Bv Bn n xs bv bp op len g ar f W':=by
 obtain⟨c1,c2,c3,i,c4,k⟩:=h;refine⟨cell_kept c1 hg d,cell_kept c2 hg d,cell_kept c3 hg d,i,cell_kept c4 hg d,fun j x hj=>?_⟩;obtain⟨b,o,e,c⟩:=k j x hj;exact⟨b,o,e,cell_kept c hg d⟩
theorem aaT.set{n:Nat}{bv op len f:Nat}{d:Nat}{Bd:Nat}(h:aaT Bv Bn n xs bv bp op len f ar d W)(u:Value)
 (t:Bv≠Bd) (q:Bn≠Bd) (m:bv≠Bd) (l:bp≠Bd) (k:∀(j x:Nat),xs[j]? =some x->∀a,ar=some a->a.block≠Bd):aaT Bv Bn n xs bv bp op len f ar d (W.setCell ⟨Bd,0,none⟩ u):=by
 obtain⟨c1,c2,c3,g,c4,i⟩:=h;refine⟨(vA t u).trans c1,(vA q u).trans c2,(vA m u).trans c3,g,(vA l u).trans c4,fun j x hj=>?_⟩;obtain⟨b,o,e,c⟩:=i j x hj;exact⟨b,o,e,(vA (a:=⟨b,o+j,none⟩) (k j x hj ⟨b,o,none⟩ e) u).trans c⟩
theorem jt{bv:Nat}{l:List Nat}{c:List (List Nat)}(t:oN w C bv l f c)(hb:Below C w W)(g:c[x]? =some pr)
 (c1:O W Bv 0 (G bv)) (c2:O W Bn 0 (I x)):
 ∃bp op len cap ar capr,aaT Bv Bn x pr bv bp op len cap ar capr W/\bp<C/\∀(j y:Nat),pr[j]? =some y->∀a,ar=some a->a.block<C:=by
 obtain⟨ov,bm,pv,nm,e0,e1,e2,ho,hm,u,hp,hl⟩:=t;obtain⟨a,cap,rfl,q⟩:=hp.form;obtain⟨b,o,a2,k,rfl,h,d,a0,m⟩:=hp.row g;refine⟨b,o,c.length,cap,a2,k,⟨c1,c2,(hb.cell (p:=⟨bv,2,none⟩) hl).trans e2,(Jh.1 g).1,(hb.cell (p:=⟨b,o+x,none⟩) h).trans d,fun j y hj=>?_⟩,h,fun j y hj a e=>?_⟩
 ·obtain⟨b2,o2,e,i,d⟩:=m j y hj;exact⟨b2,o2,e,(hb.cell (p:=⟨b2,o2+j,none⟩) i).trans d⟩
 ·obtain⟨b2,o2,e2,i,d⟩:=m j y hj;rw[e2] at e;cases e;exact i
theorem qQ (w:World)(C bv n:Nat)(l3:List Nat)(f:Int->Int)(t:List (List Nat))(hC:C<=w.heap.size)(hV:oN w C bv l3 f t)(h1:1<=n)(hn:n<=2000000)
 (ns:List Nat) (q1:l3=0::ns) (m3:∀x∈ns,x<n) (r5:ns.length<=2000000) (hpl:t.length=n) (m1:∀row∈t,row.length<=4000004000000) (k0:Nat) (idom':List Int) (hD:ip t f ns k0 ((0:Int)::List.replicate (n-1) (-1)) idom'):
 A 80 #[G bv,I n] w fun e w'=>∃g,e=.returned (L g n n)/\w.heap.size<=g/\T w' g (idom'.map (Value.int .i64)).toArray 3/\Q w w':=by
 have HV:=Ja hV;have HD:=Ja hD;have HN:=Ja m3;have r4:=Ja m1;clear hV hD m3 m1;refine(callsIn_wide (n:=100)).1 (callsIn_of_wp_marks Try.func80 rfl trivial ?_ rfl);simp only[Try.ntmps80,List.size_toArray,Nq,Ow,Nat.reduceAdd,Nat.reduceSub,Array.replicate_succ,Array.replicate_zero,List.push_toArray,List.append_toArray,Op,List.cons_append];refine wpIn_wide.2 ?_
 have i8:∀W:World,W=(w.alloc (U #[G bv] 122)).alloc (U #[I (-1)] 3)->A 86 #[L (w.heap.size+1) 1 1,I n] W fun e w1=>
  e=.returned (L (w.heap.size+2) n n)/\O w1 (w.heap.size+2) 0 (I (-1))/\w1.frozen? ⟨w.heap.size+2,0,none⟩=false/\w.heap.size+2<w1.heap.size/\Hid (T w1 (w.heap.size+2) (List.replicate n (I (-1))).toArray 3/\Q w w1/\T w1 w.heap.size #[G bv] 122):=by
  rintro W rfl;have p3:((w.alloc (U #[G bv] 122)).alloc (U #[I (-1)] 3)).heap.size=w.heap.size+2:=by simp
  have hb:Q w ((w.alloc (U #[G bv] 122)).alloc (U #[I (-1)] 3)):=((Below.refl _ _).alloc (Je _) _).alloc Zs _;refine(lr _ (w.heap.size+1) 0 1 n (zA (zI Zs) Zs) h1 Zo).mono ?_;rintro e w1 ⟨rfl,hr,k1⟩;rw[p3] at hr k1 ⊢;exact⟨rfl,zA hr (by rw[List.getElem?_toArray,Nm,if_pos Zo]),zE hr,lt_of_block hr,hr,hb.trans (k1.mono Zo),zH k1 (zB (zI rfl)) Zo⟩
 have c3:∀(w1:World) (a:Addr) (u:Value) (o:Obj),(((w1.setCell a u).alloc o).alloc (U #[.nilFunc] 142)).cell? ⟨w1.heap.size+1,0,none⟩=some .nilFunc:=fun w1 a u o=>zA (zI Zs) Zs
 have f3:∀(w1:World) (a:Addr) (u:Value) (o:Obj),(((w1.setCell a u).alloc o).alloc (U #[.nilFunc] 142)).frozen? ⟨w1.heap.size+1,0,none⟩=false:=fun w1 a u o=>zE (zI Zs)
 go_wp2_with (go_at_call 86;go_must (refine(i8 _ rfl).mono ?_;rintro e w1 ⟨rfl,c0,f0,o3,HW⟩))
 refine wp_loop_ghost (fun k a W=>∃(ch:Bool) (ds:List Deferred),∃u9 h4 h3 h0 g8 g7 g6 g5 l2 l0 k9 g4 g3 g2 g1 g0 f9 f6 f5 f4 f2 f1 e8 e7 e6 e5 e4 e3 d8 d7 d6 d5 d4 d3 d2 c9 c8 c7 c5 c4 c2 c1 b9 b8:Value,a= {tmps:=#[.pointer (some ⟨bv,0,none⟩),I n,.pointer (some ⟨w.heap.size,0,none⟩),undef,.slice none 0 0,.pointer (some ⟨w1.heap.size,0,none⟩),.pointer (some ⟨w1.heap.size+1,0,none⟩),.bool ch,undef,u9,h4,h3,.slice (some ⟨w.heap.size+1,0,none⟩) 1 1,I n,.slice (some ⟨w.heap.size+2,0,none⟩) n n,.slice (some ⟨w.heap.size+2,0,none⟩) n n,.pointer (some ⟨w.heap.size+2,0,none⟩),.func (.func 87) #[] #[.pointer (some ⟨w.heap.size,0,none⟩),.pointer (some ⟨w1.heap.size,0,none⟩)],h0,g8,g7,g6,g5,l2,l0,k9,g4,g3,g2,g1,g0,f9,f6,f5,f4,f2,f1,e8,e7,e6,e5,e4,e3,d8,d7,d6,d5,d4,d3,d2,c9,c8,c7,c5,c4,c2,c1,b9,b8],defers:=ds }/\oh w.heap.size W ds/\∃idom,DomMem w W bv w1.heap.size (w.heap.size+2) n idom/\((ch=true/\ip t f ns k idom idom')∨(ch=false/\idom=idom'))) k0 ?_ ?_
 ·refine⟨true,[],_,_,_,_,_,_,_,_,_,_,_,_,_,_,_,_,_,_,_,_,_,_,_,_,_,_,_,_,_,_,_,_,_,_,_,_,_,_,_,_,_,_,_,_,rfl,⟨[],rfl,List.nodup_nil,by simp⟩,_,oH HW.out o3 h1,.inl ⟨rfl,HD.out⟩⟩
 clear HD HW c0 f0 c3 f3 i8;rintro k a W ⟨ch,ds,u9,h4,h3,h0,g8,g7,g6,g5,l2,l0,k9,g4,g3,g2,g1,g0,f9,f6,f5,f4,f2,f1,e8,e7,e6,e5,e4,e3,d8,d7,d6,d5,d4,d3,d2,c9,c8,c7,c5,c4,c2,c1,b9,b8,rfl,hM,idom,h5,n2⟩;have HM:=Ja hM;have q:=Ja h5;have k4:=Ja n2;clear hM h5 n2;have cI:=cell_of_one q.out.hi;have cV:=cell_of_one q.out.hv
 cases ch with
 |false=>
  go_wp2;obtain⟨Ds,rfl,hnd,q3⟩:=HM.out;obtain rfl:idom=idom':=k4.out.elim (fun h=>Bool.noConfusion h.1) (fun h=>h.2);refine sr w.heap.size (fun W=>T W (w.heap.size+2) (idom.map (Value.int .i64)).toArray 3/\Q w W) ?_ ?_ Ds W hnd q3 ⟨q.out.hr,q.out.hb⟩
  ·rintro W D hB hd ⟨h1,h2⟩;exact⟨zL (grownBy_putObj' W D _) h1 (by rintro e;cases e;rw[h1] at hd;cases hd),h2.grown (grownBy_putObj' W D _) h2.size (by rintro k e;cases e;exact hB)⟩
  ·rintro W ⟨h1,h2⟩
   exact⟨_,results_tmp rfl _ _ _,_,rfl,by omega,h1,h2⟩
 |true=>
  have r2:=HV.out;obtain⟨ov,bm,pv,nm,e0,e1,e2,ho,hm,s6,hp,hl⟩:=r2;obtain⟨aO,capO,rfl,q5,i0⟩:=ho;subst q1;obtain⟨b,o,rfl,t4,q9⟩:=i0 0 0 rfl;simp only[Nq] at q5 e0;have HX:=Ja i0;clear e2 hm hp i0 q9 e1;have e0:=(q.out.hb.cell (p:=⟨bv,0,none⟩) (show bv<w.heap.size by omega)).trans e0;have l1:1<=capO:=Zo;go_upto_region 7 with fail
  go_cut [23,24,25] from 18 to 25 (fun s l i wx=>wx=W/\l=I (ns.length:Int)/\i=I 0/\∃o' c',s=.slice (some ⟨b,o',none⟩) ns.length c'/\Hid (0<ns.length->o'=o+1))
  case first=>
   go_wp2
   all_goals go_meet
   ·exact⟨rfl,rfl,rfl,_,_,rfl,by unfold Hid;intro h;omega⟩
   ·exact⟨rfl,rfl,rfl,_,_,rfl,fun _=>rfl⟩
  case rest=>
   obtain⟨rfl,rfl,rfl,o',c',rfl,HO⟩:=hcut
   obtain⟨k,i1,h6,a2,h8,rfl⟩:∃k2 i1 h6,ny t f ns idom false i1 h6/\((h6=false/\idom'=i1)∨(h6=true/\ip t f ns k2 i1 idom'))/\k=k2+1:=by
    rcases k4.out with⟨_,h⟩|⟨h,_⟩
    ·cases k with
     |zero=>exact h.elim
     |succ k=>obtain⟨i1,ch,h1,h2⟩:=h;exact⟨k,i1,ch,h1,h2,rfl⟩
    ·cases h
   have a4:=Ja a2;have k7:=Ja h8;clear a2 h8 k4 cI cV;go_wp2;refine wp_loop_ghost (fun k a W=>∃(i:Nat) (ch:Bool) (ds:List Deferred),∃u9 h4 h3 h0 g8 g7 g6 g5 g4 g3 g2 g1 g0 f9 f6 f5 f4 f2 f1 e8 e7 e6 e5 e4 e3 d8 d7 d6 d5 d4 d3 d2 c9 c8 c7 c5 c4 c2 c1 b9 b8:Value,a= {tmps:=#[.pointer (some ⟨bv,0,none⟩),I n,.pointer (some ⟨w.heap.size,0,none⟩),undef,.slice none 0 0,.pointer (some ⟨w1.heap.size,0,none⟩),.pointer (some ⟨w1.heap.size+1,0,none⟩),.bool ch,undef,u9,h4,h3,.slice (some ⟨w.heap.size+1,0,none⟩) 1 1,I n,.slice (some ⟨w.heap.size+2,0,none⟩) n n,.slice (some ⟨w.heap.size+2,0,none⟩) n n,.pointer (some ⟨w.heap.size+2,0,none⟩),.func (.func 87) #[] #[.pointer (some ⟨w.heap.size,0,none⟩),.pointer (some ⟨w1.heap.size,0,none⟩)],h0,g8,g7,g6,g5,(.slice (some ⟨b,o',none⟩) ns.length c'),(I (ns.length:Int)),(I i),g4,g3,g2,g1,g0,f9,f6,f5,f4,f2,f1,e8,e7,e6,e5,e4,e3,d8,d7,d6,d5,d4,d3,d2,c9,c8,c7,c5,c4,c2,c1,b9,b8],defers:=ds }/\k+i=ns.length/\oh w.heap.size W ds/\∃idom,DomMem w W bv w1.heap.size (w.heap.size+2) n idom/\ny t f (ns.drop i) idom ch i1 h6) ns.length ?_ ?_
   ·exact⟨0,false,ds,_,_,_,_,_,_,_,_,_,_,_,_,_,_,_,_,_,_,_,_,_,_,_,_,_,_,_,_,_,_,_,_,_,_,_,_,_,_,_,_,_,rfl,rfl,HM.out,idom,q.out,a4.out⟩
   clear a4 HM q ds idom;rintro j a W ⟨i,ch,ds,u9,h4,h3,h0,g8,g7,g6,g5,g4,g3,g2,g1,g0,f9,f6,f5,f4,f2,f1,e8,e7,e6,e5,e4,e3,d8,d7,d6,d5,d4,d3,d2,c9,c8,c7,c5,c4,c2,c1,b9,b8,rfl,s9,hM,idom,h5,a2⟩;have HM:=Ja hM;have q:=Ja h5;have a4:=Ja a2;clear hM h5 a2
   by_cases s7:(i:Int)<ns.length
   ·obtain⟨x,hx⟩:∃x,ns[i]? =some x:=⟨_,Jd Zo⟩
    have s3:=HN.out x (Ji hx);obtain⟨b1,o1,r0,_,h9⟩:=HX.out (i+1) x (by simpa using hx);obtain⟨rfl,rfl⟩:b=b1/\o=o1:=by simpa using r0
    have h9:O W b (o'+i) (I x):=by
     rw[HO.out Zo,Nat.add_assoc,Nat.add_comm 1 i];exact(q.out.hb.cell (p:=⟨b,o+(i+1),none⟩) (show b<w.heap.size by omega)).trans h9
    have cV:=cell_of_one q.out.hv;have t5:w.heap.size<W.heap.size:=lt_of_block q.out.hv;have s1:w1.heap.size+1<W.heap.size:=lt_of_block q.out.hm;go_wp2_with (go_at_call 88;refine(lj _ _ _).mono ?_;rintro e w2 ⟨rfl,rfl⟩)
    have b5:ns.drop i=x::ns.drop (i+1):=by
     rw[Qn Zo]
     congr 1
     have:=Jd (l:=ns) (i:=i) Zo;rw[hx] at this;exact(Nt this).symm
    have hp:=a4.out;rw[b5] at hp;obtain⟨pr,d0,old,l7,a5,a0,h7,b6⟩:=hp;have o2:(((W.alloc (U #[I (-1)] 3)).alloc (U #[G bv] 122)).alloc (U #[I x] 3)).heap.size=W.heap.size+3:=by simp
    have b0:DomMem w (((W.alloc (U #[I (-1)] 3)).alloc (U #[G bv] 122)).alloc (U #[I x] 3)) bv w1.heap.size (w.heap.size+2) n idom:=
     ((q.out.kept (Uo W _ none) (fun _ e=>by cases e)).kept (Uo _ _ none) (fun _ e=>by cases e)).kept (Uo _ _ none) (fun _ e=>by cases e)
    have b7:Boxed (((W.alloc (U #[I (-1)] 3)).alloc (U #[G bv] 122)).alloc (U #[I x] 3)) W.heap.size 3 (I (-1)):=((Boxed.new W _ _).alloc _).alloc _;have j2:KeepsFrom 0 W (((W.alloc (U #[I (-1)] 3)).alloc (U #[G bv] 122)).alloc (U #[I x] 3)):=((uh _ _).trans (uh _ _)).trans (uh _ _);obtain⟨bp,op,len,r3,ar,o6,b4,t3,n3⟩:=jt HV.out (b0.hb.mono hC) l7 (Bv:=W.heap.size+1) (Bn:=W.heap.size+1+1) (cell_of_one (zB (zI Zs))) (cell_of_one (zI Zs));generalize (((W.alloc (U #[I (-1)] 3)).alloc (U #[G bv] 122)).alloc (U #[I x] 3))=W4 at o2 b0 b7 j2 b4 ⊢;have o9:=Ja a5;have HC:=Ja b6;have t6:=Ja a0
    refine(wpIn_wide (n:=100)).1 (wpIn_rangeFunc_ownG rfl Zd (gf:=94) (lb:=#[G (W.heap.size+1),G (W.heap.size+1+1)]) rfl trivial (enters_of Try.func94 Zk rfl)
     (nH 99 Zd (W.heap.size+1) (W.heap.size+1+1) x pr bv bp op len r3 ar o6 (r4.out pr (Ji l7)) W4 b4) (fun h k x=>k (h x)) (fun V l o o' hl ho hc _ h=>h.keptObj (grownBy_putObj' V l o') (fun r e=>by cases e;exact⟨o,ho,hc⟩)) (Below.refl _ _) (fun _=>rfl)
     (fun a6 V=>DomMem w V bv w1.heap.size (w.heap.size+2) n idom/\KeepsFrom 0 W4 V/\∃d,Boxed V W.heap.size 3 (I d)/\OkD idom d/\wi idom f (a6.map (·.1)) (-1) d) (fun _ _ _=>False)
     ?own (fun _ _ _ _ _ hs _ _=>hs) ⟨b0,KeepsFrom.refl _ _,-1,b7,.inl rfl,rfl⟩ ?a1 ?assign ?body ?done ?stop)
    case own=>
     rintro s X Y row ⟨hd,hk,d,hb,ho,hp⟩ hg hr;exact⟨hd.own hg (fun r e=>(hr r e).2) (fun r e=>by have:=(hr r e).1;omega),ownFrom_keepsFrom (β:=Unit) (Je W4.heap.size) () X Y row hk hg hr,d,hb.kept hg (fun e=>by have:=(hr _ e.symm).1;omega),ho,hp⟩
    case assign=>
     intro l x W K hK
     gi_wp2
     exact hK
    case body=>
     clear h9 b4 b0 b7 a0 a5 b6 h7 hx b5 e0 cV;rintro l a6 ⟨p,hp⟩ V ⟨hd,hk,d,hb,ho,b2⟩ s0;have a9:(a6++ [(⟨p,hp⟩: {p//p∈pr})]).map (fun x=>x.1)=a6.map (fun x=>x.1)++ [p]:=by rw[Js];rfl
     have a9:=Ja a9;obtain⟨hpl,a5⟩:=o9.out p hp;obtain⟨d1,m2,k5⟩:=a5 d ho;obtain⟨x0,i2,l9⟩:=k5;have HD:=Ja hd;have HK:=Ja hk;have HB:=Ja hb;have b3:=Ja (Jb m2 (b2.snoc ⟨x0,i2,l9⟩));have cI:=cell_of_one hd.hi;have cM:=cell_of_one hd.hm;have cD:=hb.cell;have fD:=hb.frozen;have p5:p<n:=by rw[<-hd.hl];exact hpl
     have cr:O V (w.heap.size+2) p (I x0):=zA hd.hr (by simp[i2]);have s5:(p:Int)<n:=Zo;clear hd hk hb b2 ho m2 a5 i2 hpl;rcases l9 with⟨j1,rfl⟩|⟨j1,t2,rfl⟩|⟨j1,dn,rfl,q4,k2,r,k6,rfl⟩
     ·gi_wp2
      refine(show _/\_/\_ from⟨KeepsFrom.refl _ _,fun h=>h,HD.out,HK.out,_,HB.out,b3.out.1,?_⟩);rw[a9.out];exact b3.out.2
     ·gi_wp2
      refine(show _/\_/\_ from⟨(uu HB.out _).from0 _,fun h=>h.set _ Zo Zo Zo Zo (fun j y hj a e=>by have:=n3 j y hj a e;omega),HD.out.kept (grownBy_setCell' V _ _) (fun r e=>by cases e;have:=HD.out.lt;omega),HK.out.trans (uu HB.out _),_,HB.out.set _,b3.out.1,?_⟩)
      show wi idom f ((a6++ [(⟨p,hp⟩: {p//p∈pr})]).map (fun x=>x.1)) (-1) _
      rw[a9.out];exact b3.out.2
     ·have hnd:¬(dn:Int)<0:=Zo
      gi_wp2
      obtain⟨ov,bm',s2,p0,e0,e1,e2,q0,m4,r6,p4,s8⟩:=HV.out.below (HD.out.hb.mono hC);refine⟨trivial,CallsIn.inRound l (callsIn_wide.2 ((meet_any V w.heap.size w1.heap.size bv bm' p0 (w.heap.size+2) f idom (by rw[HD.out.hl];exact hn) (cell_of_one HD.out.hv) e1 m4 (by rw[HD.out.hl];exact cI) HD.out.hr k2 p dn r (by rw[HD.out.hl];exact p5) q4 k6).mono ?_))⟩;rintro e V2 ⟨rfl,m,rfl⟩;clear e0 e1 e2 q0 m4 p4
      gi_wp2
      have o0:Boxed (V.drewN m) W.heap.size 3 (I dn):=HB.out;have n1:V.grownBy (V.drewN m) none:=⟨rfl,rfl,rfl,Je _,fun _ _ _=>rfl⟩
      have m8:KeepsFrom 0 V ((V.drewN m).setCell ⟨W.heap.size,0,none⟩ (I r)):=(uW V m).trans (uu o0 _);refine(show _/\_/\_ from⟨m8.from0 _,fun h=>(h.keptObj n1 (fun r e=>by cases e)).set _ Zo Zo Zo Zo (fun j y hj a e=>by have:=n3 j y hj a e;omega),(HD.out.kept n1 (fun r e=>by cases e)).kept (grownBy_setCell' _ _ _) (fun r e=>by cases e;have:=HD.out.lt;omega),HK.out.trans m8,_,o0.set _,b3.out.1,?_⟩)
      show wi idom f ((a6++ [(⟨p,hp⟩: {p//p∈pr})]).map (fun x=>x.1)) (-1) _
      rw[a9.out];exact b3.out.2
    case done=>
     rintro D xs V hD p1 ⟨hd,hk,d,hb,ho,b2⟩ n4;rw[p1] at b2;obtain rfl:=wi.unique b2 a0;have cI:=cell_of_one hd.hi;have cD:=hb.cell;have cr:O V (w.heap.size+2) x (I old):=zA hd.hr (by simp[h7]);have fr:V.frozen? ⟨w.heap.size+2,x,none⟩=false:=zE hd.hr;have s4:(x:Int)<n:=Zo;have HD:=Ja hd;have n7:=Ja (HM.out.push (j2.trans hk) Zo (by have:=q.out.hb.size;omega) n4);clear hd hk hb ho b2 n4 h9 b4 b0 b7 a0 a5 b6 h7 hx b5 e0 cV;rcases HC.out with⟨rfl,a3⟩|⟨q2,a3⟩
     ·have k3:=Ja a3;clear a3;have r1:(old !=old)=false:=by simp
      go_wp2;go_quiet (fail);go_wp2;have j9:V.grownBy (V.drewN nq) none:=⟨rfl,rfl,rfl,Je _,fun _ _ _=>rfl⟩
      refine⟨j-1,by omega,i+1,ch,_,_,_,_,_,_,_,_,_,_,_,_,_,_,_,_,_,_,_,_,_,_,_,_,_,_,_,_,_,_,_,_,_,_,_,_,_,_,_,_,_,_,(by rw[Int.natCast_add];rfl),by omega,n7.out.keeps (uW V nq),idom,HD.out.kept j9 (fun r e=>by cases e),k3.out⟩
     ·have k3:=Ja a3;clear a3;have r1:(old !=d)=true:=by simpa using q2
      go_wp2;go_quiet (fail);go_wp2;have j9:V.grownBy (V.drewN nq) none:=⟨rfl,rfl,rfl,Je _,fun _ _ _=>rfl⟩
      refine⟨j-1,by omega,i+1,true,_,_,_,_,_,_,_,_,_,_,_,_,_,_,_,_,_,_,_,_,_,_,_,_,_,_,_,_,_,_,_,_,_,_,_,_,_,_,_,_,_,_,(by rw[Int.natCast_add];rfl),by omega,(n7.out.keeps (uW V nq)).keeps (uu (W:=V.drewN nq) HD.out.hr _),idom.set x d,(HD.out.kept j9 (fun r e=>by cases e)).set x d,k3.out⟩
    case stop=>
     rintro D c a6 V _ _ h _;exact h.elim
   ·go_wp2;obtain rfl:i=ns.length:=by omega
    have hp:=a4.out;rw[List.drop_length] at hp;obtain⟨rfl,rfl⟩:=hp;refine⟨k,by omega,?_⟩;rcases k7.out with⟨rfl,rfl⟩|⟨rfl,h⟩
    ·exact .inl ⟨_,⟨rfl,rfl⟩,HM.out,q.out⟩
    ·exact .inr ⟨_,⟨rfl,rfl⟩,HM.out,_,q.out,h⟩
end Go.Proofs.Ytoahcpkibpomcaa
set_option maxRecDepth 8000
namespace Go.Proofs.Ytoahcpkibpomcaa
open Go.RowKit Go.Shelf
variable {W W' W0 w w' w0 w1:World}{K:MK}{m:Mach}{ov:Value}{g preds:List (List Nat)}{B0 Bi Bn Bv C D bi bm bp i nm x:Nat}{ns pr xs:List Nat}{c idom:List Int}{f:Int->Int}{t:Int}{o:Obj}{ds:List Deferred}{ar:Option Addr}
def j6 (w:World)(xs:List Int)(e:Ending)(w':World):Prop:=∃v,e=.returned v/\w'.ownsRow w.heap.size 3 1 v xs.length (xs.map zN)/\Q w w'
theorem lI (g:List (List Nat))(c:List Nat):(un g c).length=g.length:=by
 have f:∀(l:List Nat) (P:List (List Nat)) (n:Nat),(l.foldl (xS n) P).length=P.length:=by
  intro l
  induction l with
  |nil=>intros;rfl
  |cons a l ih=>intro P n;rw[Qk,ih];simp[xS]
 have d:∀(l:List Nat) (P:List (List Nat)),(l.foldl (yh g) P).length=P.length:=by
  intro l
  induction l with
  |nil=>intros;rfl
  |cons a l ih=>intro P;rw[Qk,ih];unfold yh;rw[f]
 unfold un;rw[d];simp
theorem fu(hr:∀row∈g,row.length<=2000000){c:List Nat}(ho:c.length<=2000000):∀row∈un g c,row.length<=4000004000000:=by
 intro row d;have:=rj g 2000000 hr c (List.replicate g.length []) 0 (by intro r hr;rw[(List.mem_replicate.1 hr).2];simp) row d;have f:c.length*2000000<=2000000*2000000:=Qw _ ho;omega
theorem pz{c:List (List Nat)}:∀ {ns:List Nat} {idom idom':List Int} {ch ch':Bool},ny c f ns idom ch idom' ch'->idom'.length=idom.length
 | [],_,_,_,_,h=>by rw[h.1]
 |n::ns,idom,idom',ch,ch',⟨pr,d,old,_,_,_,_,h⟩=>by
  rcases h with⟨_,h⟩|⟨_,h⟩
  ·exact pz h
  ·have:=pz h;simpa using this
theorem jF{c:List (List Nat)}:∀ {k:Nat} {idom idom':List Int},ip c f ns k idom idom'->idom'.length=idom.length
 |0,_,_,h=>h.elim
 |k+1,idom,idom',⟨i1,ch,h1,h2⟩=>by
  have e:=pz h1;rcases h2 with⟨_,rfl⟩|⟨_,h2⟩
  ·exact e
  ·rw[jF h2,e]
theorem eL.len(h:eL g ns c)(hg:0<g.length):c.length=g.length:=by
 obtain⟨k,h⟩:=h;rw[jF h];simp;omega
theorem pe (w:World)(C bv:Nat)(g:List (List Nat))(hv:zw g)(d:g.length<=2000000)(hr:∀row∈g,row.length<=2000000)(ns:List Nat)(h:tV g (0::ns))(c:List Int)(hD:eL g ns c)
 (i:C<=w.heap.size) (f:oN w C bv (0::ns) (atF (0::ns) (0::ns).length) (un g (0::ns))):
 A 80 #[G bv,I (g.length:Int)] w fun e w'=>∃b,e=.returned (L b g.length g.length)/\w.heap.size<=b/\T w' b (c.map (Value.int .i64)).toArray 3/\Q w w':=by
 obtain⟨l,j⟩:=h.nodes hv;obtain⟨k,hD⟩:=hD;simp only[Nq] at l;exact qQ w C bv g.length (0::ns) _ _ i f hv.1 d ns rfl (fun x hx=>j x (by simp[hx])) Zo (lI _ _) (fu hr Zt) k c hD
theorem tw (w:World)(sv:Value)(g:List (List Nat))(B:Nat)(hB:B<=w.heap.size)(h:aaB zj w B sv g)(hv:zw g)(hn:g.length<=2000000)(hr:∀row∈g,row.length<=2000000)(ns:List Nat)(hF:tV g (0::ns))(c:List Int)(hD:eL g ns c):
 A 63 #[.agg #[sv]] w (j6 w (c.set 0 (-1))):=by
 obtain⟨a,d,rfl,a3⟩:=h.form;have l:Q w (w.alloc (U #[.slice a g.length d] 75)):=(Below.refl _ _).alloc (Je _) _;have HL:=Ja (hD.len hv.1);have HV:=Ja hv;have HR:=Ja hr;have HF:=Ja hF;have HD:=Ja hD;have cg:O (w.alloc (U #[.slice a g.length d] 75)) w.heap.size 0 (.slice a g.length d):=cell_of_one (zI rfl);have a5:=hv.1;clear hv hr hF hD;go_enter Try.func63,Try.ntmps63;go_wp2_with (go_at_call 51;go_must (refine(tK _ _ g B Zt (h.below (l.mono hB)) HV.out hn HR.out).mono ?_;rintro e w1 ⟨rfl,f⟩;obtain⟨k,t⟩:=bcell f))
 generalize u:w.alloc (U #[.slice a g.length d] 75)=W0 at cg f k t ⊢;have q:=Ja u;have lg:w.heap.size<W0.heap.size:=Jw W0 _ cg;have b0:=(k _ 0 lg).trans cg;have o:Below (w.heap.size+1) W0 w1:=f.mono Zo;clear u l k t cg f
 go_cut [3] (fun s wx=>∃b,s=L b g.length g.length/\Hid (T wx b (c.map (Value.int .i64)).toArray 3/\w.heap.size<=b/\Q w wx))
 case first=>
  go_region_held3 (fun w'=>O w' w.heap.size 0 (.slice a g.length d)/\Below (w.heap.size+1) W0 w')
   (first
     |(go_split_ands;refine⟨?_,?_⟩<;>assumption)
     |(go_split_ands;refine⟨?_,uG ?_⟩<;>assumption)
     |(go_split_ands;exact oY ‹_› ‹_› Zz Zz))
   (first
     |(go_at_call 79;refine(view_any _ _ g B (o7 hB q (by repeat' (first|assumption|(with_reducible refine Below.drew ?_)))) (nP h hB q (by repeat' (first|assumption|(with_reducible refine Below.drew ?_)))) HV.out hn HR.out (0::ns) HF.out).mono ?_;rintro e w2 ⟨bv,rfl,a6,hV,m⟩)
     |(go_at_call 80;refine(pe _ _ bv g HV.out hn HR.out ns HF.out c HD.out (Je _) hV).mono ?_;rintro e w3 ⟨b,rfl,a9,y,a1⟩))
  all_goals
   go_wp2_with fail;go_meet
   have a0:Below (w.heap.size+1) W0 w3:=by
    repeat' (first|assumption|(with_reducible refine Below.drew ?_)|(refine Below.trans ?_ (Below.mono a1 ?_))|(refine Below.trans ?_ (Below.mono m ?_))|omega)
    all_goals (have:=m.size;have:=o.size;simp at *;omega)
   have a4:=m.size;have a2:=o.size;exact⟨b,rfl,y,by simp at *;omega,ww rfl q a0⟩
 case rest=>
  obtain⟨b,rfl,j⟩:=hcut;have hl:=HL.out
  have cb:∃x,O wc b 0 (I x):=by
   obtain⟨x,hx⟩:∃x,c[0]? =some x:=⟨_,Jd Zo⟩
   exact⟨x,zA j.out.1 (by simp[hx])⟩
  obtain⟨x,cb⟩:=cb;have fb:Y wc b 0:=zE j.out.1;go_wp2_with fail;go_ret;refine⟨_,rfl,?_,j.out.2.2.setCell (by simpa using j.out.2.1) _⟩;have hs:=zD (i:=0) j.out.1 (I (-1));refine⟨by simp,.inr ⟨b,g.length,_,by simp[hl],j.out.2.1,hs,by simp[hl],by unfold maxLen;omega,by simp[hl],?_⟩⟩;simp only[Ox,Nd,hl,Nk,Jc,List.toList_toArray];rw[Oy (by simp[hl])];rfl
end Go.Proofs.Ytoahcpkibpomcaa
