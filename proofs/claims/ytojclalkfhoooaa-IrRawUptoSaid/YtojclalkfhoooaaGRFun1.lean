/- Part of a proof. -/
import Derived.Test.YtojclalkfhoooaaGREnds
import Derived.Test.YtojclalkfhoooaaRVal2
set_option linter.all false
set_option maxHeartbeats 8000000
set_option maxRecDepth 100000
namespace Go.Proofs.Ytojclalkfhoooaa
open Go.RowKit Go.Shelf
variable {W w w' w0 wx:World}{xs:List (Int×Int)}{g:List (List Nat)}{db k m:Nat}{d:wO}{o:IOp}{blocks:List IBlk}{i:Int}
theorem cF{base C:Nat}{e:TypeId}{size n:Nat}{v:Value}{xs:List Value}(h:w.ownsRow base e size v n xs)(hb:Below C w w')(d:w.heap.size<=C):w'.ownsRow base e size v n xs:=by
 refine⟨h.1,?_⟩;rcases h.2 with h2|⟨g,cap,cur,rfl,hg,c,r⟩
 ·exact .inl h2
 ·exact .inr ⟨g,cap,cur,rfl,hg,zH hb c (by have:=lt_of_block c;omega),r⟩
open Go.RowKit
theorem wC{α β:Type}{sz:Nat}{f:β->List Value}{g:β->α}{R:World->Nat->Nat->Nat->α->Prop}(r:0<sz)(hf:∀a,(f a).length=sz){S:Nat}{e:TypeId}{v:Value}{l:List β}(h:w.ownsRow S e sz v l.length (l.flatMap f))
 (m:∀q∈l,∀b o,(∀j u,(f q)[j]? =some u->G w b (o+j) u)->R w w.heap.size b o (g q)):yN sz R w w.heap.size v (l.map g):=by
 obtain⟨a,c,rfl⟩:=zG h;have hl:=zm h;refine⟨a,c,by rw[Nr],by rw[Nr];exact hl.1,by omega,fun k o hk=>?_⟩;rw[Jr,Oz] at hk;obtain⟨q,hq,rfl⟩:=hk;have d:=(Jh.1 hq).1;obtain⟨gg,cap,e,hg,hb⟩:=h.form Zo;cases e;refine⟨gg,0,rfl,hb,m q (Ji hq) _ _ fun j u hj=>?_⟩;have i:j<sz:=by rw[<-hf q];exact(Jh.1 hj).1
 rw[Ng]
 exact(h.cellAt (k*sz+j) (by
  have:(k+1)*sz<=l.length*sz:=Qw sz d;rw[Nat.add_mul] at this
  omega)).trans ((uB f sz hf l k q hq j i).trans hj)
def i8 (w:World)(B b q:Nat)(x:Int):Prop:=G w b q (A x)
abbrev pg:=yN 1 i8
def RowCR (w:World)(B b q:Nat)(x:List Int):Prop:=∃v,G w b q v/\pg w B v x
abbrev RowsC:=yN 1 RowCR
theorem mf{B:Nat}{v:Value}{xs:List Int}(h:w.ownsRow B 3 1 v xs.length (xs.map zN)):pg w w.heap.size v xs:=by
 have h2:w.ownsRow B 3 1 v xs.length (xs.flatMap fun x=> [zN x]):=by rw[<-Qh];exact h
 have:=wC (sz:=1) (f:=fun x:Int=> [zN x]) (R:=i8) (g:=fun x:Int=>x) Zd (fun _=>rfl) h2 (fun q hq b o hc=>hc 0 _ rfl);rw[List.map_id'] at this;exact this
theorem iW{B:Nat}{v:Value}{rows:List (List Int)}(h:pV w B v rows):RowsC w w.heap.size v rows:=by
 obtain⟨l,rfl,hr⟩:=h;have h1:w.ownsRow B 22 1 v l.length (l.flatMap fun q=> [q.2]):=by rw[<-Qh];exact hr.own _ (.head _)
 exact wC (sz:=1) (f:=fun q:GR=> [q.2]) (R:=RowCR) (g:=fun q:GR=>q.1) Zd (fun _=>rfl) h1 (fun q hq b o hc=>⟨q.2,hc 0 _ rfl,mf (hr.own (zP q.2 q.1) (.tail _ (show zP q.2 q.1∈sp l from Oj (f:=fun q:GR=>zP q.2 q.1) hq)))⟩)
abbrev aZ (p:IProg)(fa:Option Addr)(fc:Nat)(aa:Option Addr)(ac:Nat)(da:Option Addr)(dc:Nat)(ba:Option Addr)(bc:Nat):Array Value:=R p fa fc aa ac da dc ba bc
structure PBx (W:World) (b:Nat) (p:IProg) (fa:Option Addr) (fc:Nat) (aa:Option Addr) (ac:Nat) (da:Option Addr) (dc:Nat) (ba:Option Addr) (bc:Nat):Prop where
 blk:W.heap[b]? =some (.cells (aZ p fa fc aa ac da dc ba bc) 29 (0,0))
 prog:ProgIn W W.heap.size ⟨.slice fa p.funcs.length fc,.slice aa p.args.length ac,.slice da p.data.length dc,.slice ba p.banks.length bc⟩ p
section
variable {W W':World} {b:Nat} {p:IProg} {fa aa da ba:Option Addr} {fc ac dc bc:Nat}
theorem PBx.below (h:PBx W b p fa fc aa ac da dc ba bc)(hb:F W W'):PBx W' b p fa fc aa ac da dc ba bc:=
 ⟨zH hb h.blk (lt_of_block h.blk),(h.prog.below hb).mono hb.size⟩
theorem PBx.new (h:ProgIn W W.heap.size ⟨.slice fa p.funcs.length fc,.slice aa p.args.length ac,.slice da p.data.length dc,.slice ba p.banks.length bc⟩ p):PBx (W.alloc (U (aZ p fa fc aa ac da dc ba bc) 29)) W.heap.size p fa fc aa ac da dc ba bc:=
 ⟨zI rfl,(h.below ((Below.refl _ _).alloc (Je _) _)).mono Zs⟩
theorem PBx.c0 (h:PBx W b p fa fc aa ac da dc ba bc):G W b 0 (.slice fa p.funcs.length fc):=zA h.blk Zs
theorem PBx.c1 (h:PBx W b p fa fc aa ac da dc ba bc):G W b 1 (.slice aa p.args.length ac):=zA h.blk Zs
theorem PBx.c2 (h:PBx W b p fa fc aa ac da dc ba bc):G W b 2 (A p.entry):=zA h.blk Zs
theorem PBx.c3 (h:PBx W b p fa fc aa ac da dc ba bc):G W b 3 (A p.handler):=zA h.blk Zs
theorem PBx.c4 (h:PBx W b p fa fc aa ac da dc ba bc):G W b 4 (.slice da p.data.length dc):=zA h.blk Zs
theorem PBx.c5 (h:PBx W b p fa fc aa ac da dc ba bc):G W b 5 (.slice ba p.banks.length bc):=zA h.blk Zs
end
theorem bad_q{V:PV}{p:IProg}(hp:ProgIn w w.heap.size V p)(o:IObj)(ho:I64 o.bank/\o.addr<65536/\o.size<65536):
 Y 72 #[yH V p,iz o] w (ym w (!sW p.banks.length o)):=by
 obtain⟨Vf,Va,Vd,Vb⟩:=V;obtain⟨f1,f2,e1,_,_⟩:=hp.funcs.form;obtain⟨a1,a2,e2,_,_⟩:=hp.args.form;obtain⟨d1,d2,e3,_,_⟩:=hp.data.form;obtain⟨b1,b2,e4,u,m⟩:=hp.banks.form;simp only at e1 e2 e3 e4;subst e1 e2 e3 e4;unfold yH;simp only;unfold iz;have h:=((Below.refl w.heap.size w).alloc (Je _) (U (R p f1 f2 a1 a2 d1 d2 b1 b2) 29)).alloc Zs (U #[A o.bank,I (o.addr:Int),I (o.size:Int)] 51);have g:=Ja h;obtain⟨k,l,j⟩:=ho;have t:p.banks.length<=9223372036854775807:=Zo;obtain⟨res,c⟩:∃r,(!sW p.banks.length o)=r:=⟨_,rfl⟩
 rw[c];unfold sW at c;clear h hp;have d:o.size=0∨0<o.size:=Zo
 by_cases i:o.size=0
 ·have hr:res=true:=by rw[<-c];simp[i]
  subst hr;have z0:((o.size:Int)==0)=true:=by rw[beq_iff_eq];omega
  clear c d i;go_enter Try.func72,Try.ntmps72;go_wp2;go_ret;exact⟨rfl,g.out⟩
 by_cases hb:o.bank=-1
 ·rw[if_pos hb] at c
  by_cases h1:o.addr<16384
  ·have hr:res=true:=by rw[<-c];simp;omega
   subst hr;have z0:((o.size:Int)==0)=false:=Ze;have zb:(o.bank==-1)=true:=by rw[beq_iff_eq];exact hb
   have g3:(o.addr:Int)<16384:=Zo;clear c d hb;go_enter Try.func72,Try.ntmps72;go_wp2;go_ret;exact⟨rfl,g.out⟩
  by_cases h2:24576<o.addr+o.size
  ·have hr:res=true:=by rw[<-c];simp;omega
   subst hr;have z0:((o.size:Int)==0)=false:=Ze;have zb:(o.bank==-1)=true:=by rw[beq_iff_eq];exact hb
   have g3:¬(o.addr:Int)<16384:=Zo;have g4:(24575:Int)<(o.addr:Int)+(o.size:Int)-1:=Zo;clear c d hb;go_enter Try.func72,Try.ntmps72;go_wp2;go_ret;exact⟨rfl,g.out⟩
  ·have hr:res=false:=by rw[<-c];simp;omega
   subst hr;have z0:((o.size:Int)==0)=false:=Ze;have zb:(o.bank==-1)=true:=by rw[beq_iff_eq];exact hb
   have g3:¬(o.addr:Int)<16384:=Zo;have g4:¬(24575:Int)<(o.addr:Int)+(o.size:Int)-1:=Zo;clear c d hb;go_enter Try.func72,Try.ntmps72;go_wp2;go_ret;exact⟨rfl,g.out⟩
 ·rw[if_neg hb] at c
  by_cases h1:o.bank<0
  ·have hr:res=true:=by rw[<-c];simp;omega
   subst hr;have z0:((o.size:Int)==0)=false:=Ze;have zb:(o.bank==-1)=false:=Ze;clear c d;go_enter Try.func72,Try.ntmps72;go_wp2;go_ret;exact⟨rfl,g.out⟩
  by_cases h2:(p.banks.length:Int)<=o.bank
  ·have hr:res=true:=by rw[<-c];simp;omega
   subst hr;have z0:((o.size:Int)==0)=false:=Ze;have zb:(o.bank==-1)=false:=Ze;clear c d;go_enter Try.func72,Try.ntmps72;go_wp2;go_ret;exact⟨rfl,g.out⟩
  by_cases h3:4096<o.addr+o.size
  ·have hr:res=true:=by rw[<-c];simp;omega
   subst hr;have z0:((o.size:Int)==0)=false:=Ze;have zb:(o.bank==-1)=false:=Ze;have g4:(4095:Int)<(o.addr:Int)+(o.size:Int)-1:=Zo;clear c d;go_enter Try.func72,Try.ntmps72;go_wp2;go_ret;exact⟨rfl,g.out⟩
  ·have hr:res=false:=by rw[<-c];simp;omega
   subst hr;have z0:((o.size:Int)==0)=false:=Ze;have zb:(o.bank==-1)=false:=Ze;have g4:¬(4095:Int)<(o.addr:Int)+(o.size:Int)-1:=Zo;clear c d;go_enter Try.func72,Try.ntmps72;go_wp2;go_ret;exact⟨rfl,g.out⟩
theorem aag{V:PV}{p:IProg}(hp:ProgIn w w.heap.size V p){g oa ob:Int}{on:Nat}(ab:Option Addr)(an ac:Nat)(xs:List Int)(b5:xs.length=an)(c2:an<=9223372036854775807)(hl:p.args.length=p.funcs.length):
 Y 73 #[yH V p,.agg #[A (26),A g,A oa,A ob,I on,.slice ab an ac]] w (ym w (opF p ⟨26,g,oa,ob,on,xs⟩)):=by
 obtain⟨Vf,Va,Vd,Vb⟩:=V;obtain⟨f1,f2,e1,b6,_⟩:=hp.funcs.form;obtain⟨a1,a2,e2,_,_⟩:=hp.args.form;obtain⟨d1,d2,e3,b7,_⟩:=hp.data.form;obtain⟨b1,b2,e4,_,_⟩:=hp.banks.form;simp only at e1 e2 e3 e4;subst e1 e2 e3 e4;unfold yH;simp only;have b9:p.funcs.length<=9223372036854775807:=Zo;have c0:p.data.length<=9223372036854775807:=Zo;have b3:=((Below.refl w.heap.size w).alloc (Je _) (U (R p f1 f2 a1 a2 d1 d2 b1 b2) 29)).alloc Zs (U #[A (26),A g,A oa,A ob,I on,.slice ab an ac] 77);have a6:=zB (o:=U #[A (26),A g,A oa,A ob,I on,.slice ab an ac] 77) (zI (W:=w) (o:=U (R p f1 f2 a1 a2 d1 d2 b1 b2) 29) rfl);have a5:=zI (W:=w.alloc (U (R p f1 f2 a1 a2 d1 d2 b1 b2) 29)) (o:=U #[A (26),A g,A oa,A ob,I on,.slice ab an ac] 77) (B:=w.heap.size+1) Zs;have u:=Ja (Jb b3 (Jb a6 a5));obtain⟨res,c⟩:∃r,opF p ⟨26,g,oa,ob,on,xs⟩=r:=⟨_,rfl⟩
 rw[c];unfold opF at c;simp only[show zi 26=⟨true,false,false,false,false⟩ from rfl,b5] at c;have HL:=Ja hl;clear hl;have HP:=Ja hp;clear b3 a6 a5 hp b6 b7;go_enter Try.func73,Try.ntmps73;go_upto_region 2 with(go_at_call 54;go_must (refine(shp_26 _).mono ?_;rintro e w1 ⟨he,t⟩;obtain rfl:e=.returned (.agg #[.bool true,.bool false,.bool false,.bool false,.bool false]):=he))
 have b0:=(u.out.1.trans (t.mono u.out.1.size)).alloc (Jn u.out.1.size t.size) (U #[.bool true,.bool false,.bool false,.bool false,.bool false] 111);have l:=zB (o:=(U #[.bool true,.bool false,.bool false,.bool false,.bool false] 111)) (zH t u.out.2.1 (lt_of_block u.out.2.1));have i:=zB (o:=(U #[.bool true,.bool false,.bool false,.bool false,.bool false] 111)) (zH t u.out.2.2 (lt_of_block u.out.2.2));have j:=zI (W:=w1) (o:=(U #[.bool true,.bool false,.bool false,.bool false,.bool false] 111)) rfl;generalize w1.alloc (U #[.bool true,.bool false,.bool false,.bool false,.bool false] 111)=W2 at *;generalize w1.heap.size=bs at *;have p0:=K0 l;have p1:=K1 l;have p4:=K4 l;have o0:=K0 i;have o1:=K1 i;have o2:=K2 i;have o3:=K3 i;have o4:=K4 i;have o5:=K5 i;have s0:=K0 j;have s1:=K1 j;have s2:=K2 j;have s3:=K3 j;have s4:=K4 j;have l0:=lt_of_block l;have l1:=lt_of_block i;have l2:=lt_of_block j;have d:=Ja b0;clear b0 l i j t u
 by_cases h1:0<=oa
 rotate_left
 ·skip
  have hr:res=false:=by rw[<-c];simp;try omega
  subst hr;have j1:decide (0<=oa)=false:=decide_eq_false h1;clear c;go_upto_region 5 with fail;go_quiet (fail);go_wp2;go_ret
  first|exact⟨rfl,yC d.out⟩|exact⟨uz Zt,yC d.out⟩
 by_cases h2:oa<p.funcs.length
 rotate_left
 ·skip
  have hr:res=false:=by rw[<-c];simp;try omega
  subst hr;have j1:decide (0<=oa)=true:=decide_eq_true h1;have j2:decide (oa<(p.funcs.length:Int))=false:=decide_eq_false h2;clear c;go_upto_region 5 with fail;go_quiet (fail);go_wp2;go_ret
  first|exact⟨rfl,yC d.out⟩|exact⟨uz Zt,yC d.out⟩
 obtain⟨ka,rfl⟩:∃ka:Nat,oa=(ka:Int):=⟨oa.toNat,by omega⟩
 have a7:ka<p.args.length:=by rw[HL.out];omega
 have b8:(ka:Int)<(p.args.length:Int):=Zo;obtain⟨aa,a3⟩:∃x,p.args[ka]? =some x:=⟨_,Jd a7⟩
 obtain⟨ba,oo,rfl,m,k,_⟩:=HP.out.args.get a3;rw[Nk] at k;rw[show p.args.getD ((ka:Nat):Int).toNat 0=aa by rw[Ni,Jj,a3];rfl] at c;clear a3 a7
 by_cases h3:(an:Int)=aa
 rotate_left
 ·skip
  have hr:res=false:=by rw[<-c];simp;try omega
  subst hr;have i3:((an:Int)==aa)=false:=Ze;have a0:((an:Int) !=aa)=true:=by rw[bne_iff_ne];omega
  clear c h3;have h:=zV d.out m k;have y:ba<W2.heap.size:=Jw _ _ h;go_upto_region 5 with fail;go_quiet (fail);go_wp2;go_ret
  first|exact⟨rfl,yC d.out⟩|exact⟨uz Zt,yC d.out⟩
 by_cases h4:-1<=g
 rotate_left
 ·skip
  have hr:res=false:=by rw[<-c];simp;try omega
  subst hr;have j4:decide (-1<=g)=false:=decide_eq_false h4;have i3:((an:Int)==aa)=true:=by rw[beq_iff_eq];omega
  have a0:((an:Int) !=aa)=false:=by rw[bne_eq_false_iff_eq];omega
  clear c h3;have h:=zV d.out m k;have y:ba<W2.heap.size:=Jw _ _ h;go_upto_region 5 with fail;go_quiet (fail);go_wp2;go_ret
  first|exact⟨rfl,yC d.out⟩|exact⟨uz Zt,yC d.out⟩
 by_cases h5:ob=0
 rotate_left
 ·skip
  have hr:res=false:=by rw[<-c];simp;try omega
  subst hr;have i3:((an:Int)==aa)=true:=by rw[beq_iff_eq];omega
  have a0:((an:Int) !=aa)=false:=by rw[bne_eq_false_iff_eq];omega
  have i5:(ob==0)=false:=Ze;have a4:(ob !=0)=true:=by rw[bne_iff_ne];omega
  clear c h3 h5;have h:=zV d.out m k;have y:ba<W2.heap.size:=Jw _ _ h;go_upto_region 5 with fail;go_quiet (fail);go_wp2;go_ret
  first|exact⟨rfl,yC d.out⟩|exact⟨uz Zt,yC d.out⟩
 by_cases h6:on=0
 rotate_left
 ·skip
  have hr:res=false:=by rw[<-c];simp;try omega
  subst hr;have i3:((an:Int)==aa)=true:=by rw[beq_iff_eq];omega
  have a0:((an:Int) !=aa)=false:=by rw[bne_eq_false_iff_eq];omega
  have i5:(ob==0)=true:=by rw[beq_iff_eq];omega
  have a4:(ob !=0)=false:=by rw[bne_eq_false_iff_eq];omega
  have i6:((on:Int)==0)=false:=Ze;have b4:((on:Int) !=0)=true:=by rw[bne_iff_ne];omega
  clear c h3 h5 h6;have h:=zV d.out m k;have y:ba<W2.heap.size:=Jw _ _ h;go_upto_region 5 with fail;go_quiet (fail);go_wp2;go_ret
  first|exact⟨rfl,yC d.out⟩|exact⟨uz Zt,yC d.out⟩
 have hr:res=true:=by rw[<-c];simp;try omega
 subst hr;have i3:((an:Int)==aa)=true:=by rw[beq_iff_eq];omega
 have a0:((an:Int) !=aa)=false:=by rw[bne_eq_false_iff_eq];omega
 have i5:(ob==0)=true:=by rw[beq_iff_eq];omega
 have a4:(ob !=0)=false:=by rw[bne_eq_false_iff_eq];omega
 have i6:((on:Int)==0)=true:=by rw[beq_iff_eq];omega
 have b4:((on:Int) !=0)=false:=by rw[bne_eq_false_iff_eq];omega
 clear c h3 h5 h6;have h:=zV d.out m k;have y:ba<W2.heap.size:=Jw _ _ h;go_upto_region 5 with fail;go_quiet (fail);go_wp2;go_ret
 first|exact⟨rfl,yC d.out⟩|exact⟨uz Zt,yC d.out⟩
theorem formed_q{V:PV}{p:IProg}(hp:ProgIn w w.heap.size V p)(hl:p.args.length=p.funcs.length)(o:IOp){av:Value}(d:zY w w.heap.size av o.args):
 Y 73 #[yH V p,.agg #[A o.code,A o.res,A o.a,A o.b,I (o.n:Int),av]] w (ym w (opF p o)):=by
 obtain⟨code,res,oa,ob,on,xs⟩:=o;obtain⟨ab,ac,rfl,h1,h2⟩:=d.form;simp only at *;have c:xs.length<=9223372036854775807:=Zo;rcases rJ code with⟨h,e⟩|⟨h,e⟩|⟨h,e⟩|⟨h,e⟩|⟨h,e⟩|⟨h,e⟩|⟨h,e⟩|⟨h,e⟩
 ·rcases h with rfl|rfl|rfl
  ·exact formed_1 hp _ _ _ xs rfl c
  ·exact formed_2 hp _ _ _ xs rfl c
  ·exact aP hp _ _ _ xs rfl c
 ·exact aak hp _ _ _ xs rfl c e Zo
 ·exact aF hp _ _ _ xs rfl c e Zo
 ·exact aaa hp _ _ _ xs rfl c e Zo
 ·exact aG hp _ _ _ xs rfl c e Zo
 ·obtain rfl:=h;exact aR hp _ _ _ xs rfl c
 ·rcases h with rfl|rfl
  ·exact aag hp _ _ _ xs rfl c hl
  ·exact ah hp _ _ _ xs rfl c
 ·exact ay hp _ _ _ xs rfl c e Zo
def aL (p:IProg):Bool:=decide (p.args.length≠p.funcs.length)||(decide (p.entry<0)||(decide ((p.funcs.length:Int)<=p.entry)||(decide (p.handler< -1)||decide ((p.funcs.length:Int)<=p.handler))))
def er (p:IProg)(k:Nat)(x:Int):Bool:=decide (x<0)||(decide (8<x)||(decide (0<x) && (decide ((k:Int)=p.entry)||decide ((k:Int)=p.handler))))
theorem dh {p:IProg}(h:2000<p.funcs.length∨512<p.data.length∨64<p.banks.length):sR p=2:=if_pos h
theorem dH {p:IProg}(h:¬(2000<p.funcs.length∨512<p.data.length∨64<p.banks.length))(h2:aL p=true):sR p=1:=by
 unfold sR;rw[if_neg h]
 by_cases hl:p.args.length=p.funcs.length
 ·rw[if_neg (by simp[hl])]
  split
  ·rfl
  ·rw[if_pos];unfold aL at h2;simp only[Bool.or_eq_true,decide_eq_true_eq] at h2;unfold yw;simp only[Bool.and_eq_false_iff,decide_eq_false_iff_not]
   by_cases c:p.entry<0∨(p.funcs.length:Int)<=p.entry
   ·left;omega
   ·right;omega
 ·rw[if_pos hl]
theorem dI{p:IProg}(h:¬(2000<p.funcs.length∨512<p.data.length∨64<p.banks.length))(h2:aL p=false){x:Int}(hk:p.args[k]? =some x)(hb:er p k x=true):sR p=1:=by
 have j:=(Jh.1 hk).1;unfold aL at h2;simp only[Bool.or_eq_false_iff,decide_eq_false_iff_not,Decidable.not_not] at h2;unfold sR;rw[if_neg h,if_neg (by simp[h2.1])]
 split
 ·rfl
 ·rename_i c
  rw[if_pos]
  have g:tX x=true:=by
   rw[Bool.not_eq_false,Oe] at c;exact c x (Ji hk)
  unfold tX at g;unfold er at hb;simp only[Jm,Bool.or_eq_true,decide_eq_true_eq] at g hb;have i:p.args.getD k 0=x:=by rw[Jj,hk];rfl
  have d:∀f:Int,f=(k:Int)->yw p f=false:=fun f hf=>by
   unfold yw;subst hf;rw[Ni,i];simp only[Bool.and_eq_false_iff,beq_eq_false_iff_ne];right;right;omega
  rcases hb with hb|hb|⟨_,hb|hb⟩
  ·omega
  ·omega
  ·left;exact d _ hb.symm
  ·right;exact⟨by omega,d _ hb.symm⟩
theorem cU {p:IProg}(h:¬(2000<p.funcs.length∨512<p.data.length∨64<p.banks.length))(h2:aL p=false)(j:∀k x,p.args[k]? =some x->er p k x=false):sR p=if wB p=false then 37 else 0:=by
 unfold aL at h2;simp only[Bool.or_eq_false_iff,decide_eq_false_iff_not,Decidable.not_not] at h2;obtain⟨hl,h3,o,m,l⟩:=h2
 have d:∀f:Int,0<=f->f<p.funcs.length->(f=p.entry∨f=p.handler)->yw p f=true:=fun f h0 h1 hf=>by
  obtain⟨k,rfl⟩:∃k:Nat,f=(k:Int):=⟨f.toNat,by omega⟩
  obtain⟨x,c⟩:∃x,p.args[k]? =some x:=⟨_,Jd Zo⟩
  have hb:=j k x c;unfold er at hb;simp only[Bool.or_eq_false_iff,Bool.and_eq_false_iff,decide_eq_false_iff_not] at hb;have i:p.args.getD k 0=x:=by rw[Jj,c];rfl
  unfold yw;rw[Ni,i];simp only[Jm,decide_eq_true_eq,beq_iff_eq];omega
 unfold sR;rw[if_neg h,if_neg (by simp[hl]),if_neg,if_neg]
 ·rintro(e|⟨e1,e2⟩)
  ·rw[d p.entry Zo Zo (.inl rfl)] at e;cases e
  ·rw[d p.handler Zo Zo (.inr rfl)] at e2;cases e2
 ·intro e;rw[Um] at e;obtain⟨x,c,g⟩:=e;obtain⟨k,hk⟩:=Ny c;have hb:=j k x hk;unfold er at hb;unfold tX at g;simp only[Bool.or_eq_false_iff,decide_eq_false_iff_not,Jm,decide_eq_true_eq] at hb g;omega
end Go.Proofs.Ytojclalkfhoooaa
set_option maxRecDepth 8000
namespace Go.Proofs.Ytojclalkfhoooaa
open Go.RowKit
variable {W w w' w0 wx:World}{xs:List (Int×Int)}{g:List (List Nat)}{db k m:Nat}{d:wO}{o:IOp}{blocks:List IBlk}{i:Int}
theorem Try.info_bools:(Try.prog.info? 141).map (fun i=>(i.zero,i.size,i.bytes))=some (some (.slice none 0 0),1,24):=by kernel_rfl
theorem dZ(hv:zw g){fr:Nat}(c:fr<g.length)(out:Int){x:Nat}(d:x<g.length):(ie g fr out)[x]? =some (nc g fr out x):=by
 have hl:x<(ie g fr out).length:=by rw[de hv c];exact d
 unfold nc;rw[Jj,Jd hl];rfl
def aaP (g:List (List Nat))(d:Nat):List Bool:=(List.range g.length).map (wE g d)
def fe (g:List (List Nat)):List (List Bool):=(List.range g.length).map (aaP g)
def aar (w:World)(rows:List (List Bool))(e:Ending)(w':World):Prop:=∃v,e=.returned v/\aaB uo w' w'.heap.size v rows/\F w w'
structure DomsMem (W w:World) (g:List (List Nat)) (ov:Value) (d:Nat):Prop where
 ho:∃vs:List Value,vs.length=d/\w.ownsRow W.heap.size 141 1 ov d vs/\∀(k:Nat) (v:Value),vs[k]? =some v->∃b,v=.slice (some ⟨b,0,none⟩) g.length g.length/\W.heap.size<=b/\w.heap[b]? =some (.cells ((aaP g k).map uo).toArray 4 (0,0))
 hb:Below W.heap.size W w
theorem DomsMem.below{ov:Value}{d:Nat}(h:DomsMem W w g ov d)(hb:F w w'):DomsMem W w' g ov d:=by
 obtain⟨⟨vs,h1,h2,h3⟩,i⟩:=h;refine⟨⟨vs,h1,cF h2 hb (Je _),fun k v hk=>?_⟩,i.trans (hb.mono i.size)⟩;obtain⟨b,e,j,c⟩:=h3 k v hk;exact⟨b,e,j,zH hb c (lt_of_block c)⟩
theorem DomsMem.push{w2:World}{ov c:Value}{d b:Nat}(h:DomsMem W w g ov d)(hr:L w b ((aaP g d).map uo).toArray 4)(u:W.heap.size<=b)
 (o:Obj) (hg:(w.alloc o).grownBy w2 ov.ownBlock) (vs:List Value) (i:vs.length=d) (ho:w.ownsRow W.heap.size 141 1 ov d vs)
 (l:∀(k:Nat) (v:Value),vs[k]? =some v->∃b,v=N b g.length g.length/\W.heap.size<=b/\L w b ((aaP g k).map uo).toArray 4)
 (j:w2.ownsRow W.heap.size 141 1 c (d+1) (vs++ [.slice (some ⟨b,0,none⟩) g.length g.length])):DomsMem W w2 g c (d+1):=by
 have t:=h.hb.size;have keep:∀ {b:Nat} {cs:Array Value},L w b cs 4->L w2 b cs 4:=fun hb=>zL hg (zB hb) (zC ho hb (.inr Zd))
 refine⟨⟨vs++ [.slice (some ⟨b,0,none⟩) g.length g.length],by simp[i],j,fun k v hk=>?_⟩,(h.hb.alloc t o).grown hg Zt (fun k hk=>(ho.lt k hk).1)⟩
 by_cases r:k<vs.length
 ·rw[Np r] at hk;obtain⟨b',e,y,x⟩:=l k v hk;exact⟨b',e,y,keep x⟩
 ·rw[Nc Zo] at hk
  have m:k=vs.length:=by
   have:=(Jh.1 hk).1;simp at this;omega
  subst m;simp at hk;exact⟨b,hk.symm,u,by rw[i];exact keep hr⟩
theorem cO{sv:Value}(h:GraphIn w sv g)(out:Int):Y 106 #[.agg #[sv],A 0,A out] w (cE w (ie g 0 out)):=ans_from h 0 h.valid.1 out
def aaO (g:List (List Nat))(d j:Nat):List Bool:=(aaP g d).take j++List.replicate (g.length-j) false
theorem bF (g:List (List Nat))(d j:Nat)(hj:j<g.length):(aaO g d j).set j (wE g d j)=aaO g d (j+1):=by
 have hl:(aaP g d).length=g.length:=by simp[aaP]
 apply Oq;intro i;rw[Ov];have k:(aaO g d j).length=g.length:=by simp[aaO,hl];omega
 rw[k]
 have c:∀j,j<=g.length->(aaO g d j)[i]? =if i<j then(aaP g d)[i]? else if i<g.length then some false else none:=by
  intro j hj;unfold aaO
  by_cases h:i<j
  ·rw[Np (by simp[hl];omega),Ug,if_pos h,if_pos h]
  ·rw[Nc (by simp[hl];omega),Nm,if_neg h];simp only[Oc,hl]
   by_cases h2:i<g.length
   ·rw[if_pos h2,if_pos Zo]
   ·rw[if_neg h2,if_neg Zo]
 by_cases h:j=i
 ·subst h;rw[if_pos rfl,if_pos hj,c _ Zo,if_pos Zo];simp[aaP,hj]
 ·rw[if_neg h,c _ Zo,c _ Zo]
  by_cases h2:i<j
  ·simp only[if_pos h2,if_pos (show i<j+1 by omega)]
  ·simp only[if_neg h2,if_neg (show ¬i<j+1 by omega)]
theorem aA (g:List (List Nat))(d j:Nat)(c:j<g.length):(aaO g d j)[j]? =some false:=by
 have hl:(List.take j (aaP g d)).length=j:=by simp[aaP];omega
 unfold aaO;rw[Nc Zo,hl,Qy,Nm,if_pos Zo]
theorem cZ (g:List (List Nat))(d:Nat):aaO g d 0=List.replicate g.length false:=by simp[aaO]
theorem cQ (g:List (List Nat))(d:Nat):aaO g d g.length=aaP g d:=by
 unfold aaO;rw[Oy (by simp[aaP]),Qy];simp
theorem doms_any{sv:Value}(h:GraphIn w sv g):Y 76 #[.agg #[sv]] w (aar w (fe g)):=by
 obtain⟨a,cap,rfl,f7⟩:=h.rows.form;obtain⟨ii,e8,e0,d9,d8⟩:=info_parts Try.info_bools;have hn:=h.len;have hv:=h.valid;have g3:=run_make_row' (P:=Try.prog) 141 4 (.bool false) 1 Try.underlying141 Try.info_bool rfl .i64 .i64 g.length Zo Zo;have h1:=h.below ((Below.refl _ w).alloc (Je _) (U #[.slice a g.length cap] 93));have cg:G (w.alloc (U #[.slice a g.length cap] 93)) w.heap.size 0 (.slice a g.length cap):=cell_of_one (zI rfl);have H1:=Ja h1;have i:=Ja hv;clear h h1 hv;go_enter Try.func76,Try.ntmps76;go_wp2_with (go_at_call 106;go_must (refine(cO H1.out (-1)).mono ?_;rintro e w1 ⟨ab,rfl,g5,hA,a7⟩;rw[de i.out i.out.1];have c4:=(a7.cell (p:=⟨w.heap.size,0,none⟩) Zs).trans cg;have d0:=Ja (((Below.refl _ w).alloc (Je _) _).trans (a7.mono Zs));have f2:=Ja (H1.out.below a7);have HA:=Ja hA;clear cg a7 hA))
 have e6:w.heap.size<w1.heap.size:=Jw w1 _ c4
 go_loopw [4,5] (fun ov dv wr=>∃d:Nat,d<=g.length/\dv=A d/\Hid (DomsMem w1 wr g ov d)) (fun _ dv _=>g.length-(intOf dv).toNat)
 case atStart=>exact⟨0,Jt _,rfl,⟨[],rfl,Jv _ _ _ _,fun k v hk=>by simp at hk⟩,Below.refl _ _⟩
 case round=>
  obtain⟨d,hd,rfl,o⟩:=hrel;have d5:=(o.out.hb.cell (p:=⟨w.heap.size,0,none⟩) e6).trans c4;obtain⟨vs,b4,l,b2⟩:=o.out.ho;obtain⟨oa,oc,rfl⟩:=zG l
  by_cases e5:d<g.length
  ·have e2:(d:Int)<g.length:=Zo;have c5:=Ja e5;have HG:=Ja (f2.out.below o.out.hb);have f4:=o.out.hb.size;have g9:=Ja (Jb l b2);clear l b2 c4;go_wp2_with (go_at_call 106;go_must (refine(cO HG.out (d:Int)).mono ?_;rintro e w2 ⟨wb,rfl,g0,hW,u⟩;rw[de i.out i.out.1];have c3:=(u.cell (p:=⟨w.heap.size,0,none⟩) (show w.heap.size<wr.heap.size by omega)).trans d5;have e9:=Ja (o.out.below u);have HW:=Ja hW;have g2:=u.size;have f0:=Ja u;clear d5 u hW))
   have d4:=Ja (zH f0.out (zH o.out.hb HA.out (lt_of_block HA.out)) (by have:=lt_of_block HA.out;have:=o.out.hb.size;omega));have g4:w.heap.size<w2.heap.size:=Jw w2 _ c3
   go_loopw [8] (fun jv wx=>∃j:Nat,j<=g.length/\jv=A j/\Hid (L wx w2.heap.size ((aaO g d j).map uo).toArray 4/\F w2 wx)) (fun jv _=>g.length-(intOf jv).toNat)
   case atStart=>
    refine⟨0,Jt _,rfl,?_,(Below.refl _ _).alloc (Je _) _⟩;rw[zI rfl,yA,cZ];simp[uo]
   case round=>
    obtain⟨j,hj,rfl,r⟩:=hrel;have g6:=(r.out.2.cell (p:=⟨w.heap.size,0,none⟩) (show w.heap.size<w2.heap.size by omega)).trans c3
    by_cases y:j<g.length
    ·have c9:(j:Int)<g.length:=Zo;have c:=Ja y
     have b5:∀b:Bool,wE g d j=b->Hid (L (wr.setCell ⟨w2.heap.size,j,none⟩ (.bool b)) w2.heap.size ((aaO g d (j+1)).map uo).toArray 4/\F w2 (wr.setCell ⟨w2.heap.size,j,none⟩ (.bool b))):=by
      intro b hb;refine⟨?_,r.out.2.setCell (Je _) _⟩;rw[zD r.out.1,<-bF g d j y,hb];simp[uo,Ox]
     have m:=Ja b5;have cr:G wr w2.heap.size j (.bool false):=zA r.out.1 (by simp[aA g d j y,uo]);have fr:T wr w2.heap.size j:=zE r.out.1;have b9:=zH r.out.2 d4.out (lt_of_block d4.out);have d2:=zH r.out.2 HW.out (lt_of_block HW.out);obtain⟨a0,b8⟩:∃a0,nc g 0 (-1) d=a0:=⟨_,rfl⟩
     obtain⟨a1,b7⟩:∃a1,nc g 0 (-1) j=a1:=⟨_,rfl⟩
     obtain⟨a2,b6⟩:∃a2,nc g 0 (d:Int) j=a2:=⟨_,rfl⟩
     have c0:G wr ab d (.bool a0):=zA b9 (by have:=dZ i.out i.out.1 (-1) c5.out;rw[b8] at this;simp[this,uo]);have c1:G wr ab j (.bool a1):=zA b9 (by have:=dZ i.out i.out.1 (-1) c.out;rw[b7] at this;simp[this,uo]);have c2:G wr wb j (.bool a2):=zA d2 (by have:=dZ i.out i.out.1 (d:Int) c.out;rw[b6] at this;simp[this,uo]);have b0:Hid (wE g d j=(a0 && a1 && (decide (d=j)||!a2))):=by unfold wE;rw[b8,b7,b6];rfl
     clear b5 b9 d2 b8 b7 b6 c3
     cases a0 with
     |false=>
      go_wp2;go_roundw
      case rel=>exact⟨j+1,c.out,by go_num,m.out _ (by rw[b0.out];rfl)⟩
      case measure=>have:=c.out;simp[intOf];omega
     |true=>
      cases a1 with
      |false=>
       go_wp2;go_roundw
       case rel=>exact⟨j+1,c.out,by go_num,m.out _ (by rw[b0.out];rfl)⟩
       case measure=>have:=c.out;simp[intOf];omega
      |true=>
       by_cases a6:d=j
       ·have e1:((d:Int)==(j:Int))=true:=by rw[beq_iff_eq];omega
        have c7:=Ja a6;clear a6;go_wp2;go_roundw
        case rel=>exact⟨j+1,c.out,by go_num,m.out _ (by rw[b0.out,decide_eq_true c7.out];rfl)⟩
        case measure=>have:=c.out;simp[intOf];omega
       ·have e1:((d:Int)==(j:Int))=false:=Ze;have c7:=Ja a6;clear a6;go_wp2;go_roundw
        case rel=>exact⟨j+1,c.out,by go_num,m.out _ (by rw[b0.out,decide_eq_false c7.out];rfl)⟩
        case measure=>have:=c.out;simp[intOf];omega
    ·obtain rfl:j=g.length:=by omega
     have c9:¬(g.length:Int)<g.length:=Zo;have d3:=Ja (e9.out.below r.out.2);have a3:=r.out.1;rw[cQ] at a3;have f1:=Ja a3;obtain⟨vs2,b3,a5,b1⟩:=d3.out.ho;have d6:=Ja (Jb a5 (Jb b3 b1));have g1:=lt_of_block a3;have f5:=o.out.hb.size;have f3:vs2.length<=2000000:=Zo;clear b1 a3;go_wp2_with (at_builtin;go_must (refine wpList_append_lies _ rfl (.tmp 57) (.tmp 59) 139 rfl w1.heap.size 141 ii (O) 1 24 Try.underlying139 e8 e0 d9 d8 rfl Zd _ d vs2 rfl (a5.alloc _) ⟨wr.heap.size,0,none⟩ 1 1 [N w2.heap.size g.length g.length] rfl rfl (Oi (cs:=#[N w2.heap.size g.length g.length]) (zI Zs)) (by simp[Value.oneCell']) Zd (by unfold maxLen;omega) Zo Zt (wr.heap.size+1) Zs ?_;intro gq f9 w6 a4 t f8 f6;have d7:=Ja (Jb a4 t);clear a4 t))
     go_roundw
     case rel=>exact⟨d+1,c5.out,by go_num,d3.out.push f1.out Zo _ d7.out.2 vs2 b3 d6.out.1 d6.out.2.2 d7.out.1⟩
     case measure=>have:=c5.out;simp[intOf];omega
  ·obtain rfl:d=g.length:=by omega
   have e2:¬(g.length:Int)<g.length:=Zo;go_wp2;go_ret;have e3:=d0.out.size;have c8:wr.ownsRow w1.heap.size 141 1 (.slice oa g.length oc) vs.length (vs.map id):=by rw[List.map_id,b4];exact l
   refine⟨_,rfl,⟨vs,rY (enc:=id) c8 (Je _),by rw[b4];simp[fe],fun k rv row hk hrow=>?_⟩,d0.out.trans (o.out.hb.mono e3)⟩;obtain⟨b,rfl,hb,d1⟩:=b2 k rv hk
   have e4:row=aaP g k:=by
    unfold fe at hrow;have e7:k<g.length:=by rw[<-b4];exact(Jh.1 hk).1
    rw[Jr,Oh e7] at hrow;exact(Nt hrow).symm
   subst e4;have hl:(aaP g k).length=g.length:=by simp[aaP]
   exact⟨_,_,by rw[hl],by rw[hl];exact Je _,fun q x hq=>⟨b,0,rfl,lt_of_block d1,by rw[Ng];exact zA d1 (by simp[hq])⟩⟩
def aat (i:Int):List IOp->Int->wO->Option wO
 | [],_,d=>some d
 |o::os,k,d=>if o.res=-1 then aat i os (k+1) d else(rB d o.res i k).bind (aat i os (k+1))
def aax (i:Int)(b:IBlk)(d:wO):Option wO:=(vJ i b.params d).bind (aat i b.ops 0)
def dD:List IBlk->Int->wO->Option wO
 | [],_,d=>some d
 |b::bs,i,d=>(aax i b d).bind (dD bs (i+1))
theorem ct{p:IProg}(h:opF p o=true):-1<=o.res:=by
 unfold opF at h;rw[Jm] at h;have h2:=h.2
 split at h2
 ·simp only[Jm,decide_eq_true_eq] at h2;omega
 ·split at h2
  ·simp only[Jm,decide_eq_true_eq] at h2;omega
  ·simp only[Jm,decide_eq_true_eq] at h2;omega
theorem aah {p:IProg}{i:Int}:∀(os:List IOp) (k:Int) (d:wO),(∀o∈os,opF p o=true)->sS p i os k d=aat i os k d
 | [],k,d,h=>rfl
 |o::os,k,d,h=>by
  have h1:=h o (List.mem_cons_self ..);have h2:=ct h1;have ih:=fun d=>aah (i:=i) os (k+1) d (fun x hx=>h x (List.mem_cons_of_mem _ hx))
  unfold sS aat;rw[if_pos h1]
  by_cases hr:o.res=-1
  ·rw[if_pos hr,if_neg Zo];exact ih d
  ·rw[if_neg hr,if_pos Zo]
   cases rB d o.res i k with
   |none=>rfl
   |some d'=>exact ih d'
theorem bM{p:IProg}:∀(bs:List IBlk) (i:Int) (d:wO),(∀b∈bs,(∀o∈b.ops,opF p o=true)/\wn blocks b.term=true)->uH p blocks bs i d=dD bs i d
 | [],i,d,h=>rfl
 |b::bs,i,d,h=>by
  have h1:=h b (List.mem_cons_self ..);have ih:=fun d=>bM bs (i+1) d (fun x hx=>h x (List.mem_cons_of_mem _ hx))
  unfold uH dD
  have e:pS p blocks i b d=aax i b d:=by
   unfold pS aax
   cases vJ i b.params d with
   |none=>rfl
   |some d'=>
    simp only[Nw];rw[aah _ _ _ h1.1]
    cases aat i b.ops 0 d' with
    |none=>rfl
    |some d''=>simp[h1.2]
  rw[e]
  cases aax i b d with
  |none=>rfl
  |some d'=>exact ih d'
theorem aW (l:List Int):∀(n:Int),n<=qK n l/\∀v∈l,cG v<=qK n l:=by
 induction l with
 |nil=>intro n;exact⟨Og _,fun v hv=>by cases hv⟩
 |cons x l ih=>
  intro n;obtain⟨h1,h2⟩:=ih (max n (cG x));have e:qK n (x::l)=qK (max n (cG x)) l:=rfl;rw[e];refine⟨by omega,fun v hv=>?_⟩;rcases Jq.1 hv with rfl|hv
  ·omega
  ·exact h2 v hv
theorem adH (l:List IOp):∀(n:Int),n<=o8 n l/\∀o∈l,cG o.res<=o8 n l:=by
 induction l with
 |nil=>intro n;exact⟨Og _,fun v hv=>by cases hv⟩
 |cons x l ih=>
  intro n;obtain⟨h1,h2⟩:=ih (max n (cG x.res));have e:o8 n (x::l)=o8 (max n (cG x.res)) l:=rfl;rw[e];refine⟨by omega,fun v hv=>?_⟩;rcases Jq.1 hv with rfl|hv
  ·omega
  ·exact h2 v hv
theorem dr (l:List IBlk):∀(n:Int),n<=l.foldl iL n/\∀b∈l,(∀v∈b.params,cG v<=l.foldl iL n)/\∀o∈b.ops,cG o.res<=l.foldl iL n:=by
 induction l with
 |nil=>intro n;exact⟨Og _,fun v hv=>by cases hv⟩
 |cons x l ih=>
  intro n;obtain⟨h1,h2⟩:=ih (iL n x);have p1:=aW x.params n;have p2:=adH x.ops (qK n x.params);have e:iL n x=o8 (qK n x.params) x.ops:=rfl;rw[Qk];refine⟨by omega,fun b hb=>?_⟩;rcases Jq.1 hb with rfl|hb
  ·exact⟨fun v hv=>by have:=p1.2 v hv;omega,fun o ho=>by have:=p2.2 o ho;omega⟩
  ·exact h2 b hb
theorem bO (blocks:List IBlk):0<=aaG blocks:=(dr blocks 0).1
theorem wrap64_in {n:Int}(h1:-9223372036854775808<=n)(h2:n<=9223372036854775807):wrap64 n=n:=by first|exact Om _ Zo|(unfold wrap64;omega)
theorem aaY {v:Int}(h:-1<=v)(h2:v<=65535):cG v=v+1:=by unfold cG;rw[wrap64_in Zo Zo]
def eu (xs:List (Int×Int)):List Value:=xs.flatMap fun p=> [A p.1,A p.2]
theorem aas{p:Int×Int}(h:xs[k]? =some p):(eu xs)[k*2]? =some (A p.1)/\(eu xs)[k*2+1]? =some (A p.2):=by
 induction xs generalizing k with
 |nil=>simp at h
 |cons x xs ih=>
  cases k with
  |zero=>simp at h;subst h;exact⟨rfl,rfl⟩
  |succ k=>
   have:=ih (by simpa using h);rw[show(k+1)*2=k*2+2 by omega];exact this
theorem bu{p:Int×Int}(h:xs[k]? =some p)(b:Int):(eu xs).set (k*2) (A b)=eu (xs.set k (b,p.2)):=by
 induction xs generalizing k with
 |nil=>simp at h
 |cons x xs ih=>
  cases k with
  |zero=>simp at h;subst h;rfl
  |succ k=>
   have:=ih (by simpa using h);rw[show(k+1)*2=k*2+2 by omega];have e:eu (x::xs)=A x.1:: A x.2::eu xs:=rfl;rw[e]
   show _::_::(eu xs).set (k*2) (A b)=_
   rw[this];rfl
theorem aN{p:Int×Int}(h:xs[k]? =some p)(a:Int):(eu xs).set (k*2+1) (A a)=eu (xs.set k (p.1,a)):=by
 induction xs generalizing k with
 |nil=>simp at h
 |cons x xs ih=>
  cases k with
  |zero=>simp at h;subst h;rfl
  |succ k=>
   have:=ih (by simpa using h);rw[show(k+1)*2+1=k*2+1+2 by omega];have e:eu (x::xs)=A x.1:: A x.2::eu xs:=rfl;rw[e]
   show _::_::(eu xs).set (k*2+1) (A a)=_
   rw[this];rfl
theorem adv (n:Nat):eu (List.replicate n (0,0))=List.replicate (n*2) (A 0):=by
 induction n with
 |zero=>rfl
 |succ n ih=>
  rw[Qz]
  show A 0:: A 0::eu (List.replicate n (0,0))=_
  rw[ih,show(n+1)*2=n*2+1+1 by omega,Qz,Qz]
theorem aE (n:Nat):madeCells #[A 0,A 0] (n*2)=(eu (List.replicate n (0,0))).toArray:=by
 rw[adv];unfold madeCells;apply Array.ext
 ·simp
 ·intro i h1 h2;simp at h1;have h3:i%2=0∨i%2=1:=Zo;rcases h3 with h3|h3
  ·simp[h3]
  ·simp[h3]
def bw (w:World)(db:Nat)(xs:List (Int×Int)):Prop:=L w db (eu xs).toArray 175
theorem bw.cell {w:World}{db:Nat}{xs:List (Int×Int)}(h:bw w db xs){k:Nat}{p:Int×Int}(hk:xs[k]? =some p):G w db (k*2) (A p.1)/\G w db (k*2+1) (A p.2):=by
 have:=aas hk;exact⟨zA h (by simpa using this.1),zA h (by simpa using this.2)⟩
theorem bw.set1(h:bw w db xs){p:Int×Int}(hk:xs[k]? =some p)(b:Int):bw (w.setCell ⟨db,k*2,none⟩ (A b)) db (xs.set k (b,p.2)):=by
 unfold bw;rw[zD h,Jc,bu hk]
theorem bw.set2(h:bw w db xs){p:Int×Int}(hk:xs[k]? =some p)(b a:Int):bw ((w.setCell ⟨db,k*2,none⟩ (A b)).setCell ⟨db,k*2+1,none⟩ (A a)) db (xs.set k (b,a)):=by
 have h1:=h.set1 hk b;have c:=(Jh.1 hk).1;unfold bw at h1 ⊢;rw[zD h1,Jc,aN (p:=(b,p.2)) (by simp[c])];simp
theorem bw.elems(h:bw w db xs)(hl:xs.length<=65536):yN 2 DefR w w.heap.size (N db xs.length xs.length) xs:=
 ⟨some ⟨db,0,none⟩,xs.length,rfl,Je _,by omega,fun k x hk=>⟨db,0,rfl,lt_of_block h,by rw[Ng];exact h.cell hk⟩⟩
theorem dE.put(h:dE xs m d){v:Nat}(hv:v<xs.length){k:Int}(hi:0<=i/\i.toNat<m):dE (xs.set v (i,k)) m (lS d.1 v i,lS d.2 v k):=by
 refine⟨fun u b a hu=>?_,fun x hx=>?_⟩
 ·rw[Ov] at hu
  by_cases e:v=u
  ·subst e;rw[if_pos rfl,if_pos hv] at hu;cases hu;refine⟨fun hb=>by omega,fun _=>⟨?_,?_,hi.2⟩⟩
   ·show lS d.1 v i v=some i
    unfold lS;rw[if_pos rfl]
   ·show lS d.2 v k v=some k
    unfold lS;rw[if_pos rfl]
  ·rw[if_neg e] at hu;have c:¬(u:Int)=(v:Int):=Zo;obtain⟨g1,g2⟩:=h.1 u b a hu;refine⟨fun hb=>?_,fun hb=>?_⟩
   ·show lS d.1 v i u=none
    unfold lS;rw[if_neg c];exact g1 hb
   ·obtain⟨g3,g4,g5⟩:=g2 hb;refine⟨?_,?_,g5⟩
    ·show lS d.1 v i u=some b
     unfold lS;rw[if_neg c];exact g3
    ·show lS d.2 v k u=some a
     unfold lS;rw[if_neg c];exact g4
 ·rw[Nd] at hx
  show lS d.1 v i x=none
  unfold lS;rw[if_neg Zo];exact h.2 x hx
def aaZ:wO:=(fun _=>none,fun _=>none)
theorem dE.start (n m:Nat):dE (List.replicate n (-1,0)) m aaZ:=by
 refine⟨fun v b a hv=>?_,fun x _=>rfl⟩;have:=Ji hv;rw[List.mem_replicate] at this;obtain⟨_,e⟩:=this;cases e;exact⟨fun _=>rfl,fun h=>absurd h Zd⟩
def itD (i:Int)(b:IBlk)(t:Nat)(d:wO):Option wO:=
 if t<b.params.length then(vJ i (b.params.drop t) d).bind (aat i b.ops 0) else aat i (b.ops.drop (t-b.params.length)) ((t-b.params.length:Nat):Int) d
theorem itD_zero (i:Int)(b:IBlk)(d:wO):itD i b 0 d=aax i b d:=by
 unfold itD aax
 split
 ·rfl
 ·rename_i h
  have:b.params=[]:=Nz Zo;rw[this];rfl
theorem itD_par{b:IBlk}{t:Nat}{v:Int}(h:b.params[t]? =some v)(d:wO):itD i b t d=(rB d v i (-1)).bind (itD i b (t+1)):=by
 have hl:=(Jh.1 h).1;have e:b.params.drop t=v::b.params.drop (t+1):=by rw[Qn hl,(Jh.1 h).2]
 unfold itD;rw[if_pos hl,e]
 show((rB d v i (-1)).bind (vJ i (b.params.drop (t+1)))).bind (aat i b.ops 0)=_
 cases rB d v i (-1) with
 |none=>rfl
 |some d'=>
  simp only[Nw]
  by_cases h2:t+1<b.params.length
  ·rw[if_pos h2]
  ·rw[if_neg h2,List.drop_eq_nil_of_le Zo,show t+1-b.params.length=0 by omega];rfl
theorem itD_op{b:IBlk}{j:Nat}(h:b.ops[j]? =some o)(d:wO):itD i b (b.params.length+j) d=if o.res=-1 then itD i b (b.params.length+j+1) d else(rB d o.res i j).bind (itD i b (b.params.length+j+1)):=by
 have hl:=(Jh.1 h).1;have e:b.ops.drop j=o::b.ops.drop (j+1):=by rw[Qn hl,(Jh.1 h).2]
 have e1:∀d,itD i b (b.params.length+j+1) d=aat i (b.ops.drop (j+1)) ((j:Int)+1) d:=fun d=>by
  unfold itD;rw[if_neg Zo,show b.params.length+j+1-b.params.length=j+1 by omega];rfl
 have e2:itD i b (b.params.length+j) d=aat i (b.ops.drop j) (j:Int) d:=by
  unfold itD;rw[if_neg Zo,show b.params.length+j-b.params.length=j by omega]
 rw[e2,e]
 show(if o.res=-1 then _ else _)=_
 split
 ·rw[e1]
 ·cases rB d o.res i j with
  |none=>rfl
  |some d'=>exact(e1 d').symm
theorem itD_end{b:IBlk}:itD i b (b.params.length+b.ops.length) d=some d:=by
 unfold itD;rw[if_neg Zo,show b.params.length+b.ops.length-b.params.length=b.ops.length by omega,List.drop_length];rfl
theorem Try.info_def:(Try.prog.info? 175).map (fun i=>(i.zero,i.size,i.bytes))=some (some (.agg #[A 0,A 0]),2,16):=by kernel_rfl
theorem mk_defs (n:Nat)(j:n<=65536)(W:World):(Instr.makeSlice 136 (A n) (A n)).run Try.prog W=.ok (N W.heap.size n n) (W.alloc (U (eu (List.replicate n (0,0))).toArray 175)):=by
 obtain⟨i,hi,g,d,c⟩:=info_parts Try.info_def;have h:=run_make (P:=Try.prog) W 136 175 i (.agg #[A 0,A 0]) Try.underlying136 hi g .i64 .i64 n n Zo (Og _) (by rw[c];omega) Zo;rw[Ni,d] at h;rw[h];rw[show(Value.agg #[A 0,A 0]).cells=#[A 0,A 0] from rfl,aE]
def ab2 (n k:Nat):List (Int×Int):=List.replicate k (-1,0)++List.replicate (n-k) (0,0)
theorem cY{n:Nat}(h:k<n):(ab2 n k)[k]? =some (0,0):=by
 unfold ab2;rw[Nc Zs,Qr,Qy,Nm,if_pos Zo]
theorem aai{n:Nat}(h:k<n):(ab2 n k).set k (-1,0)=ab2 n (k+1):=by
 unfold ab2;rw[Uj _ _ Zs,Qr,Qy,show n-k=(n-(k+1))+1 by omega,Qz,Jf,show List.replicate (k+1) ((-1:Int),(0:Int))=List.replicate k (-1,0)++ [(-1,0)] from List.replicate_succ'];simp
theorem af{n:Nat}(h:k<=n):(ab2 n k).length=n:=by unfold ab2;simp;omega
def RetDefs (w:World)(blocks:List IBlk)(e:Ending)(w':World):Prop:=
 ∃(dv:Value) (ok:Bool) (xs:List (Int×Int)),e=.returned (.tuple #[dv,.bool ok])/\F w w'/\yN 2 DefR w' w'.heap.size dv xs/\((∃d,dD blocks 0 aaZ=some d/\ok=true/\dE xs blocks.length d)∨(dD blocks 0 aaZ=none/\ok=false))
structure DSt (w0 wx:World) (db n:Nat) (fb:Array Value) (xs:List (Int×Int)):Prop where
 row:bw wx db xs
 box:wx.heap[w0.heap.size]? =some (.cells fb 43 (0,0))
 bel:Below w0.heap.size w0 wx
 len:xs.length=n
 new:w0.heap.size<db
theorem DSt.alloc{n:Nat}{fb:Array Value}(h:DSt w0 wx db n fb xs)(o:Obj):DSt w0 (wx.alloc o) db n fb xs:=
 ⟨zB h.row,zB h.box,h.bel.alloc h.bel.size o,h.len,h.new⟩
theorem DSt.set2{n:Nat}{fb:Array Value}(h:DSt w0 wx db n fb xs){p:Int×Int}(hk:xs[k]? =some p)(b a:Int):DSt w0 ((wx.setCell ⟨db,k*2,none⟩ (A b)).setCell ⟨db,k*2+1,none⟩ (A a)) db n fb (xs.set k (b,a)):=by
 have c:w0.heap.size≠db:=by have:=h.new;omega
 exact⟨h.row.set2 hk b a,zR (zR h.box c) c,(h.bel.setCell (Qd h.new) _).setCell (Qd h.new) _,by rw[Nd];exact h.len,h.new⟩
theorem DSt.set1{n:Nat}{fb:Array Value}(h:DSt w0 wx db n fb xs){p:Int×Int}(hk:xs[k]? =some p)(b:Int):DSt w0 (wx.setCell ⟨db,k*2,none⟩ (A b)) db n fb (xs.set k (b,p.2)):=by
 have c:w0.heap.size≠db:=by have:=h.new;omega
 exact⟨h.row.set1 hk b,zR h.box c,h.bel.setCell (Qd h.new) _,by rw[Nd];exact h.len,h.new⟩
theorem dB(h:dE xs m d){v k:Int}(g:v<=65535->v<xs.length)(c:v<0∨(xs.length:Int)<=v∨∃b a,xs[v.toNat]? =some (b,a)/\0<=b/\0<=v):rB d v i k=none:=by
 unfold rB;rw[if_pos];rcases c with h1|h1|⟨b,a,h1,h2,h3⟩
 ·exact .inr (.inl h1)
 ·exact .inr (.inr Zo)
 ·left;have:=(h.1 v.toNat b a h1).2 h2;rw[show((v.toNat:Nat):Int)=v by omega] at this;rw[this.1];rfl
theorem cH(h:dE xs m d)(c:xs.length<=65536){v:Nat}{b a:Int}(hv:xs[v]? =some (b,a))(hb:b<0)(i k:Int):rB d v i k=some (lS d.1 v i,lS d.2 v k):=by
 have hl:=(Jh.1 hv).1;unfold rB;rw[if_neg];rintro(h1|h1|h1)
 ·rw[(h.1 v b a hv).1 hb] at h1;cases h1
 ·omega
 ·omega
theorem defs_q{f6:Value}(d2:wX w w.heap.size f6 blocks)(hs:vZ blocks)(d9:∀b∈blocks,∀o∈b.ops,-1<=o.res):
 Y 75 #[.agg #[f6]] w (RetDefs w blocks):=by
 obtain⟨fa,fc,rfl,h6,j0⟩:=d2.form;have j1:blocks.length<=2000000:=hs.1;obtain⟨N0,e4⟩:∃N0:Nat,aaG blocks=(N0:Int):=⟨(aaG blocks).toNat,by have:=bO blocks;omega⟩
 obtain⟨n,hn⟩:∃n,min N0 65536=n:=⟨_,rfl⟩
 have a2:n<=65536:=Zo
 have f9:∀(ts:Array TypeId) (t:TypeId) (W:World),(Builtin.min_ ts t #[A N0,A 65536]).run Try.prog W=.ok (A n) W:=fun ts t W=>by
  rw[run_min_int2];have:(n:Int)=if(65536:Int)<(N0:Int) then 65536 else(N0:Int):=by split<;>omega
  rw[this]
 have g3:=Ja (show ∀b∈blocks,(∀v∈b.params,v<=65535->0<=v->v<n)/\∀o∈b.ops,o.res<=65535->0<=o.res->o.res<n from fun b hb=>by
  have hg:=(dr blocks 0).2 b hb;have e:blocks.foldl iL 0=(N0:Int):=e4;rw[e] at hg
  exact⟨fun v hv h1 h2=>by have:=hg.1 v hv;rw[aaY Zo h1] at this;omega,fun o ho h1 h2=>by have:=hg.2 o ho;rw[aaY Zo h1] at this;omega⟩)
 have e8:=Ja (show ∀W,F w W->Y 41 #[.agg #[.slice fa blocks.length fc]] W (dq W (N0:Int)) from fun W hb=>by
  have:=jr (d2.below yT hb) hb.size hs;rw[e4] at this
  exact this)
 have g9:=mk_defs n a2;have d7:=Ja (Jb d2 (Jb hs d9));have f5:=(Below.refl w.heap.size w).alloc (Je _) (U #[.slice fa blocks.length fc] 43);have f1:=zI (W:=w) (o:=U #[.slice fa blocks.length fc] 43) rfl;have H0:=Ja (Jb f5 f1);obtain⟨D,hD⟩:∃D,dD blocks 0 aaZ=D:=⟨_,rfl⟩
 have HD:=Ja hD;clear d2 hs d9 h6 e4 hn f5 f1 hD;go_enter Try.func75,Try.ntmps75;go_upto_region 2 with(go_at_call 41;go_must (refine(e8.out _ H0.out.1).mono ?_;rintro e w1 ⟨rfl,c3⟩))
 have g6:Hid (DSt w (w1.alloc (U (eu (List.replicate n (0,0))).toArray 175)) w1.heap.size n #[.slice fa blocks.length fc] (ab2 n 0)):=by
  refine⟨zI rfl,zB (zH c3 H0.out.2 (lt_of_block H0.out.2)),(H0.out.1.trans (c3.mono H0.out.1.size)).alloc (Jn H0.out.1.size c3.size) _,af (Jt _),?_⟩;have:=lt_of_block H0.out.2;have:=c3.size;omega
 generalize w1.alloc (U (eu (List.replicate n (0,0))).toArray 175)=W2 at *;generalize w1.heap.size=db at *;clear c3 g9 f9 e8 H0;go_wp2
 go_loopw [5] (fun kv wx=>∃k:Nat,k<=n/\kv=A k/\Hid (DSt w wx db n #[.slice fa blocks.length fc] (ab2 n k))) (fun kv _=>n-(intOf kv).toNat)
 case atStart=>exact⟨0,Jt _,rfl,g6⟩
 case round=>
  obtain⟨k,hk,rfl,HK⟩:=hrel
  by_cases b4:k<n
  ·have c7:(k:Int)<n:=Zo;have f7:=Ja b4;have hc:=(HK.out.row.cell (cY b4)).1;have hf:=zE (i:=k*2) HK.out.row;have hl:=lt_of_block HK.out.row;have hz:=HK.out.set1 (cY b4) (-1);rw[aai b4] at hz;have HZ:=Ja hz;clear hz b4;go_wp2;go_roundw
   case rel=>exact⟨k+1,f7.out,by go_num,HZ⟩
   case measure=>have:=f7.out;simp[intOf];omega
  ·obtain rfl:k=n:=by omega
   have c7:¬(k:Int)<(k:Int):=Zo
   have f8:Hid (∃(xs:List (Int×Int)) (d:wO),DSt w wr db k #[.slice fa blocks.length fc] xs/\dE xs blocks.length d/\dD (blocks.drop 0) ((0:Nat):Int) d=D):=
    ⟨List.replicate k (-1,0),aaZ,by have:=HK.out;rwa [show ab2 k k=List.replicate k (-1,0) by unfold ab2;simp] at this,dE.start _ _,HD.out⟩
   clear b4 HK;go_wp2
   go_loopw [6] (fun iv wx=>∃i:Nat,i<=blocks.length/\iv=A i/\Hid (∃(xs:List (Int×Int)) (d:wO),DSt w wx db k #[.slice fa blocks.length fc] xs/\dE xs blocks.length d/\dD (blocks.drop i) (i:Int) d=D)) (fun iv _=>blocks.length-(intOf iv).toNat)
   case atStart=>exact⟨0,Jt _,rfl,f8⟩
   case round=>
    obtain⟨i,hi,rfl,HI⟩:=hrel;obtain⟨e9,d0,r,d1,b6⟩:=HI.out;have f0:=K0 r.box;have lf:=lt_of_block r.box
    by_cases c0:i<blocks.length
    ·have g2:(i:Int)<blocks.length:=Zo;have d6:=Ja c0;obtain⟨bk,d3⟩:∃b,blocks[i]? =some b:=⟨_,Jd c0⟩
     have c9:blocks.drop i=bk::blocks.drop (i+1):=by rw[Qn c0,(Jh.1 d3).2]
     rw[c9] at b6;have e3:(itD (i:Int) bk 0 d0).bind (dD (blocks.drop (i+1)) ((i:Int)+1))=D:=by rw[itD_zero];exact b6
     have b2:=Ji d3;obtain⟨bb,bo,rfl,b8,k2,k3,h4,pv,ov,tv,kp,ko,kt,e0,e1,f2⟩:=d7.out.1.get d3;have k2:=zV r.bel b8 k2;have k3:=zV r.bel b8 k3;have kp:=zV r.bel b8 kp;have ko:=zV r.bel b8 ko;have kt:=zV r.bel b8 kt;have g5:bb<wr.heap.size:=Jw _ _ k2;obtain⟨pa,pc,rfl,_,_⟩:=e0.form;obtain⟨oa,oc,rfl,_,_⟩:=e1.form;obtain⟨ta,tc,rfl,_,_⟩:=f2.form;have i4:bk.params.length<=2000000:=(d7.out.2.1.2 bk b2).1;have i5:bk.ops.length<=2000000:=(d7.out.2.1.2 bk b2).2.1;have c4:=Ja (Jb e0 (Jb e1 (Jb (g3.out bk b2) (d7.out.2.2 bk b2))));have c5:=Ja (Jb r (Jb d1 e3));clear b6 e3 c9 d3 b2 e0 e1 f2 h4 c0 r d1 HI b8;go_upto_region 10 with fail;have e2:=c5.out.1.alloc (U #[.slice pa bk.params.length pc,.slice oa bk.ops.length oc,A bk.term.kind,A bk.term.a,.slice ta bk.term.to.length tc] 49);have d4:=zI (W:=wr) (o:=U #[.slice pa bk.params.length pc,.slice oa bk.ops.length oc,A bk.term.kind,A bk.term.a,.slice ta bk.term.to.length tc] 49) rfl;have f3:wr.heap.size≠db:=by have:=lt_of_block c5.out.1.row;omega
     generalize wr.alloc (U #[.slice pa bk.params.length pc,.slice oa bk.ops.length oc,A bk.term.kind,A bk.term.a,.slice ta bk.term.to.length tc] 49)=W3 at *;generalize wr.heap.size=b7 at *;have d5:=Ja f3;have q0:=K0 d4;have ql:=lt_of_block d4;have a7:Hid (∃(xs:List (Int×Int)) (d:wO),DSt w W3 db k #[.slice (some ⟨bb,bo,none⟩) blocks.length fc] xs/\dE xs blocks.length d/\L W3 b7 #[.slice pa bk.params.length pc,.slice oa bk.ops.length oc,A bk.term.kind,A bk.term.a,.slice ta bk.term.to.length tc] 49/\(itD (i:Int) bk 0 d).bind (dD (blocks.drop (i+1)) ((i:Int)+1))=D):=⟨e9,d0,e2,c5.out.2.1,d4,c5.out.2.2⟩
     clear e2 d4 f3 k2 k3 kp ko kt g5 f0 lf c5;go_wp2;clear q0 ql
     go_loopw [8] (fun kv wx=>∃(t:Nat) (z:Int),t<=bk.params.length+bk.ops.length/\z=(t:Int)-(bk.params.length:Int)/\kv=A z/\Hid (∃(xs:List (Int×Int)) (d:wO),DSt w wx db k #[.slice (some ⟨bb,bo,none⟩) blocks.length fc] xs/\dE xs blocks.length d/\L wx b7 #[.slice pa bk.params.length pc,.slice oa bk.ops.length oc,A bk.term.kind,A bk.term.a,.slice ta bk.term.to.length tc] 49/\(itD (i:Int) bk t d).bind (dD (blocks.drop (i+1)) ((i:Int)+1))=D)) (fun kv _=>(bk.params.length+bk.ops.length)-(intOf kv+bk.params.length).toNat)
     case atStart=>exact⟨0,-(bk.params.length:Int),by omega,by omega,by go_num,a7⟩
     case round=>
      obtain⟨t,z,ht,hz,rfl,HT⟩:=hrel;obtain⟨xs,d,x1,x2,x3,x4⟩:=HT.out;have q0:=K0 x3;have q1:=K1 x3;have ql:=lt_of_block x3;have c:=Ja (Jb x1 (Jb x2 x3))
      by_cases g1:t<bk.params.length+bk.ops.length
      ·have c7:z<bk.ops.length:=Zo
       by_cases c8:t<bk.params.length
       ·obtain⟨v,hv⟩:∃v,bk.params[t]? =some v:=⟨_,Jd c8⟩
        have u:=x4;rw[itD_par hv] at u;have a1:=Ja (show(rB d v (i:Int) (-1)).bind (fun d'=>(itD (i:Int) bk (t+1) d').bind (dD (blocks.drop (i+1)) ((i:Int)+1)))=D by rw[<-u];cases rB d v (i:Int) (-1)<;>rfl)
        have b3:=Ja (show v<=65535->v<(k:Int) from fun h=>by
         by_cases h0:0<=v
         ·exact c4.out.2.2.1.1 v (Ji hv) h h0
         ·omega)
        obtain⟨eb,eo,rfl,b5,a6,_⟩:=c4.out.1.get hv;rw[Nk] at a6;have a6:=zV x1.bel b5 a6;have g4:eb<wr.heap.size:=Jw _ _ a6;have i0:z<0:=Zo;have h9:z+(bk.params.length:Int)=(t:Int):=Zo;have i2:(t:Int)<(bk.params.length:Int):=Zo
        have g0:∀(ts:Array TypeId) (ty:TypeId) (W:World),(Builtin.max_ ts ty #[A z,A (-1)]).run Try.prog W=.ok (A (-1)) W:=fun ts ty W=>by
         rw[run_max_int2];have:(if z< -1 then(-1:Int) else z)=-1:=by split<;>omega
         first|rw[this]|(split<;>(congr 2;omega))
        have a5:=Ja (Jb hz (Jb c8 ht));clear x1 x2 x3 x4 u hv b5 a7 hz;go_upto_region 19 with fail
        by_cases v1:v<0
        ·have g:D=none:=by rw[<-a1.out,dB c.out.2.1 (by rw[c.out.1.len];exact b3.out) (.inl v1)];rfl
         have y:=Ja g;clear g;go_wp2;refine bodyPost_ret (v:=.tuple #[N db k k,.bool false]) (by simp[results,Try.results75,go_sem]) rfl ⟨_,_,xs,rfl,c.out.1.bel,?_,.inr ⟨by rw[HD.out];exact y.out,rfl⟩⟩;have:=c.out.1.row.elems (by rw[c.out.1.len];exact a2)
         rwa [c.out.1.len] at this
        by_cases v2:(k:Int)<=v
        ·have g:D=none:=by rw[<-a1.out,dB c.out.2.1 (by rw[c.out.1.len];exact b3.out) (.inr (.inl (by rw[c.out.1.len];exact v2)))];rfl
         have y:=Ja g;clear g;go_wp2;refine bodyPost_ret (v:=.tuple #[N db k k,.bool false]) (by simp[results,Try.results75,go_sem]) rfl ⟨_,_,xs,rfl,c.out.1.bel,?_,.inr ⟨by rw[HD.out];exact y.out,rfl⟩⟩;have:=c.out.1.row.elems (by rw[c.out.1.len];exact a2)
         rwa [c.out.1.len] at this
        obtain⟨kv,m⟩:∃kv:Nat,v=(kv:Int):=⟨(v).toNat,by omega⟩
        have a3:kv<xs.length:=by rw[c.out.1.len];omega
        have h5:(kv:Int)<(k:Int):=Zo;obtain⟨⟨b0,a0⟩,l⟩:∃x,xs[kv]? =some x:=⟨_,Jd a3⟩
        have c1:=(c.out.1.row.cell l).1;have c2:=(c.out.1.row.cell l).2;have cf:=fun i=>zE (i:=i) c.out.1.row
        have cl:=lt_of_block c.out.1.row;simp only at c1 c2;have h8:=Ja l
        by_cases v3:0<=b0
        ·have g:D=none:=by rw[<-a1.out,dB c.out.2.1 (by rw[c.out.1.len];exact b3.out) (.inr (.inr ⟨b0,a0,by rw[m];exact l,v3,by omega⟩))];rfl
         clear l a3;rw[m] at *;have y:=Ja g;clear g;go_wp2;refine bodyPost_ret (v:=.tuple #[N db k k,.bool false]) (by simp[results,Try.results75,go_sem]) rfl ⟨_,_,xs,rfl,c.out.1.bel,?_,.inr ⟨by rw[HD.out];exact y.out,rfl⟩⟩;have:=c.out.1.row.elems (by rw[c.out.1.len];exact a2)
         rwa [c.out.1.len] at this
        have a4:=cH c.out.2.1 (by rw[c.out.1.len];exact a2) l Zo (i:Int) (-1);have b1:=a1.out;rw[m,a4] at b1;have e7:=Ja b1;have e5:=Ja (c.out.1.set2 l (i:Int) (-1));have e6:=Ja (c.out.2.1.put a3 (i:=(i:Int)) (k:=-1) ⟨by omega,by rw[Ni];exact d6.out⟩);rw[m] at *;clear l a3 a4 b1 m;go_wp2;go_roundw
        case rel=>exact⟨t+1,z+1,by have:=a5.out;omega,by have:=a5.out;omega,by go_num,Ja ⟨_,_,e5.out,e6.out,zR (zR c.out.2.2 d5.out) d5.out,e7.out⟩⟩
        case measure=>have:=a5.out;simp[intOf];omega
       ·obtain⟨j,rfl⟩:∃j,t=bk.params.length+j:=⟨t-bk.params.length,by omega⟩
        have d8:z=(j:Int):=Zo;subst d8;have f4:j<bk.ops.length:=Zo;obtain⟨o,ho⟩:∃o,bk.ops[j]? =some o:=⟨_,Jd f4⟩
        have u:=x4;rw[itD_op ho] at u;obtain⟨eb,eo,rfl,b5,_,a6,_,_,_,_,_⟩:=c4.out.2.1.get ho;have a6:=zV x1.bel b5 a6;have g4:eb<wr.heap.size:=Jw _ _ a6
        have g0:∀(ts:Array TypeId) (ty:TypeId) (W:World),(Builtin.max_ ts ty #[A j,A (-1)]).run Try.prog W=.ok (A j) W:=fun ts ty W=>by
         rw[run_max_int2];have:(if(j:Int)< -1 then(-1:Int) else(j:Int))=(j:Int):=by split<;>omega
         first|rw[this]|(split<;>(congr 2;omega))
        have i7:(0:Int)<=(j:Int):=Zo;have i6:¬(j:Int)<0:=Zo;have a5:=Ja (Jb f4 ht);have i3:-1<=o.res:=c4.out.2.2.2 o (Ji ho)
        have b3:=Ja (show o.res<=65535->o.res<(k:Int) from fun h=>by
         by_cases h0:0<=o.res
         ·exact c4.out.2.2.1.2 o (Ji ho) h h0
         ·omega)
        by_cases b9:o.res=-1
        ·rw[if_pos b9] at u;have i1:(o.res==-1)=true:=by rw[beq_iff_eq];exact b9
         have a1:=Ja u;clear x1 x2 x3 x4 u ho b5 a7 hz b9 c8;go_wp2;go_roundw
         case rel=>exact⟨bk.params.length+j+1,(j:Int)+1,by have:=a5.out;omega,by omega,by go_num,Ja ⟨xs,d,c.out.1,c.out.2.1,c.out.2.2,a1.out⟩⟩
         case measure=>have:=a5.out;simp[intOf];omega
        ·rw[if_neg b9] at u;have i1:(o.res==-1)=false:=by rw[beq_eq_false_iff_ne];exact b9
         have a1:=Ja (show(rB d o.res (i:Int) (j:Int)).bind (fun d'=>(itD (i:Int) bk (bk.params.length+j+1) d').bind (dD (blocks.drop (i+1)) ((i:Int)+1)))=D by rw[<-u];cases rB d o.res (i:Int) (j:Int)<;>rfl);clear x1 x2 x3 x4 u ho b5 a7 hz c8;go_upto_region 19 with fail
         by_cases v1:o.res<0
         ·have g:D=none:=by rw[<-a1.out,dB c.out.2.1 (by rw[c.out.1.len];exact b3.out) (.inl v1)];rfl
          have y:=Ja g;clear g;go_wp2;refine bodyPost_ret (v:=.tuple #[N db k k,.bool false]) (by simp[results,Try.results75,go_sem]) rfl ⟨_,_,xs,rfl,c.out.1.bel,?_,.inr ⟨by rw[HD.out];exact y.out,rfl⟩⟩;have:=c.out.1.row.elems (by rw[c.out.1.len];exact a2)
          rwa [c.out.1.len] at this
         by_cases v2:(k:Int)<=o.res
         ·have g:D=none:=by rw[<-a1.out,dB c.out.2.1 (by rw[c.out.1.len];exact b3.out) (.inr (.inl (by rw[c.out.1.len];exact v2)))];rfl
          have y:=Ja g;clear g;go_wp2;refine bodyPost_ret (v:=.tuple #[N db k k,.bool false]) (by simp[results,Try.results75,go_sem]) rfl ⟨_,_,xs,rfl,c.out.1.bel,?_,.inr ⟨by rw[HD.out];exact y.out,rfl⟩⟩;have:=c.out.1.row.elems (by rw[c.out.1.len];exact a2)
          rwa [c.out.1.len] at this
         obtain⟨kv,m⟩:∃kv:Nat,o.res=(kv:Int):=⟨(o.res).toNat,by omega⟩
         have a3:kv<xs.length:=by rw[c.out.1.len];omega
         have h5:(kv:Int)<(k:Int):=Zo;obtain⟨⟨b0,a0⟩,l⟩:∃x,xs[kv]? =some x:=⟨_,Jd a3⟩
         have c1:=(c.out.1.row.cell l).1;have c2:=(c.out.1.row.cell l).2;have cf:=fun i=>zE (i:=i) c.out.1.row
         have cl:=lt_of_block c.out.1.row;simp only at c1 c2;have h8:=Ja l
         by_cases v3:0<=b0
         ·have g:D=none:=by rw[<-a1.out,dB c.out.2.1 (by rw[c.out.1.len];exact b3.out) (.inr (.inr ⟨b0,a0,by rw[m];exact l,v3,by omega⟩))];rfl
          clear l a3;rw[m] at *;have y:=Ja g;clear g;go_wp2;refine bodyPost_ret (v:=.tuple #[N db k k,.bool false]) (by simp[results,Try.results75,go_sem]) rfl ⟨_,_,xs,rfl,c.out.1.bel,?_,.inr ⟨by rw[HD.out];exact y.out,rfl⟩⟩;have:=c.out.1.row.elems (by rw[c.out.1.len];exact a2)
          rwa [c.out.1.len] at this
         have a4:=cH c.out.2.1 (by rw[c.out.1.len];exact a2) l Zo (i:Int) ((j:Int));have b1:=a1.out;rw[m,a4] at b1;have e7:=Ja b1;have e5:=Ja (c.out.1.set2 l (i:Int) ((j:Int)));have e6:=Ja (c.out.2.1.put a3 (i:=(i:Int)) (k:=(j:Int)) ⟨by omega,by rw[Ni];exact d6.out⟩);rw[m] at *;clear l a3 a4 b1 m;go_wp2;go_roundw
         case rel=>exact⟨bk.params.length+j+1,(j:Int)+1,by have:=a5.out;omega,by have:=a5.out;omega,by go_num,Ja ⟨_,_,e5.out,e6.out,zR (zR c.out.2.2 d5.out) d5.out,e7.out⟩⟩
         case measure=>have:=a5.out;simp[intOf];omega
      ·obtain rfl:t=bk.params.length+bk.ops.length:=by omega
       have d8:z=(bk.ops.length:Int):=Zo;subst d8;have c7:¬(bk.ops.length:Int)<(bk.ops.length:Int):=Zo;rw[itD_end] at x4;have h7:=Ja (show dD (blocks.drop (i+1)) ((i:Int)+1) d=D from x4);clear x1 x2 x3 x4 a7 hz g1;go_wp2;go_roundw
       case rel=>exact⟨i+1,d6.out,by go_num,Ja ⟨xs,d,c.out.1,c.out.2.1,h7.out⟩⟩
       case measure=>have:=d6.out;simp[intOf];omega
    ·obtain rfl:i=blocks.length:=by omega
     have g2:¬(blocks.length:Int)<blocks.length:=Zo;rw[List.drop_length] at b6;have HQ:=Ja (Jb r (Jb d1 b6));clear c0 r d1 b6 HI;go_wp2;refine bodyPost_ret (v:=.tuple #[N db k k,.bool true]) (by simp[results,Try.results75,go_sem]) rfl ⟨_,_,e9,rfl,HQ.out.1.bel,?_,.inl ⟨d0,by rw[HD.out];exact HQ.out.2.2.symm,rfl,HQ.out.2.1⟩⟩;have:=HQ.out.1.row.elems (by rw[HQ.out.1.len];exact a2)
     rwa [HQ.out.1.len] at this
def allF (p:IProg)(blocks:List IBlk):Prop:=∀b∈blocks,(∀o∈b.ops,opF p o=true)/\wn blocks b.term=true
theorem bE{p:IProg}(h:allF p blocks):wg p blocks=dD blocks 0 aaZ:=bM blocks 0 _ h
theorem dg{p:IProg}(h:¬allF p blocks):wg p blocks=none:=by
 cases hs:wg p blocks with
 |none=>rfl
 |some d=>exact absurd (rV blocks 0 _ _ hs) h
theorem cJ{p:IProg}{n:Nat}(h:p.funcs[n]? =some blocks)(c:blocks≠ []):
 yi p n=(decide (((xz blocks 0).params.length:Int)=p.args.getD n 0) && ((wg p blocks).map (iM blocks)).getD false):=by
 unfold yi;rw[Jj,h,Ot]
 cases blocks with
 |nil=>exact absurd rfl c
 |cons b bs=>rfl
theorem dy {p:IProg}{n:Nat}(h:p.funcs[n]? =some []):yi p n=true:=by
 unfold yi;rw[Jj,h,Ot]
theorem dF:∀(os:List IOp) (k:Int),xF d g i os k=true↔∀(j:Nat) (o:IOp),os[j]? =some o->(rR o).all (yy d g i (k+j))=true
 | [],k=>by simp[xF]
 |o::os,k=>by
  show((rR o).all (yy d g i k) && xF d g i os (k+1))=true↔_
  rw[Jm,dF os (k+1)];constructor
  ·rintro⟨h1,h2⟩ j x hx
   cases j with
   |zero=>simp at hx;subst hx;simpa using h1
   |succ j=>
    have:=h2 j x (by simpa using hx);rw[show k+((j+1:Nat):Int)=k+1+(j:Int) by omega];exact this
  ·intro h;refine⟨by simpa using h 0 o rfl,fun j x hx=>?_⟩;have:=h (j+1) x (by simpa using hx);rw[show k+((j+1:Nat):Int)=k+1+(j:Int) by omega] at this;exact this
theorem cB:∀(bs:List IBlk) (i:Int),tO d g bs i=true↔∀(j:Nat) (b:IBlk),bs[j]? =some b->aaC d g b (i+j)=true
 | [],i=>by simp[tO]
 |b::bs,i=>by
  show(aaC d g b i && tO d g bs (i+1))=true↔_
  rw[Jm,cB bs (i+1)];constructor
  ·rintro⟨h1,h2⟩ j x hx
   cases j with
   |zero=>simp at hx;subst hx;simpa using h1
   |succ j=>
    have:=h2 j x (by simpa using hx);rw[show i+((j+1:Nat):Int)=i+1+(j:Int) by omega];exact this
  ·intro h;refine⟨by simpa using h 0 b rfl,fun j x hx=>?_⟩;have:=h (j+1) x (by simpa using hx);rw[show i+((j+1:Nat):Int)=i+1+(j:Int) by omega] at this;exact this
theorem aj(hv:zw g):(vD g).length=g.length↔∀x,x<g.length->wE g 0 x=true:=by
 constructor
 ·intro h x c;have hr:=jl hv h;have i:0<g.length:=Zo;exact(yO hv 0 x).2 ⟨hr 0 i,hr x c,dom_zero _ _⟩
 ·intro h;obtain⟨ns,d⟩:=adR hv;rw[d.eq];have h1:=dW (l:=0::ns) (m:=List.range g.length) d.nodup (fun x c=>Ol.2 (d.lt x c));have h2:=dW (l:=List.range g.length) (m:=0::ns) List.nodup_range (fun x c=>(d.mem x).2 ((yO hv 0 x).1 (h x (Ol.1 c))).2.1);rw[Un] at h1 h2;omega
def aau (d:wO)(g:List (List Nat))(b:IBlk)(i:Nat):Bool:=wE g 0 i && aaC d g b i
theorem bI(hv:zw (zy blocks)):iM blocks d=true↔∀(i:Nat) (b:IBlk),blocks[i]? =some b->aau d (zy blocks) b i=true:=by
 unfold iM aau;have hl:=xu blocks;rw[Jm,decide_eq_true_eq,cB];rw[show((vD (zy blocks)).length=blocks.length↔∀x,x<blocks.length->wE (zy blocks) 0 x=true) from by rw[<-hl];exact aj hv];constructor
 ·rintro⟨h1,h2⟩ i b hb;rw[Jm];refine⟨h1 i (Jh.1 hb).1,?_⟩;have:=h2 i b hb
  rwa [Ub] at this
 ·intro h;refine⟨fun x hx=>?_,fun j b hb=>?_⟩
  ·have:=h x _ (Jd hx);rw[Jm] at this;exact this.1
  ·have:=h j b hb;rw[Jm] at this;rw[Ub];exact this.2
theorem dz(hv:zw (zy blocks)){i:Nat}{b:IBlk}(hb:blocks[i]? =some b)(h:aau d (zy blocks) b i=false):iM blocks d=false:=by
 cases hr:iM blocks d with
 |false=>rfl
 |true=>rw[(bI hv).1 hr i b hb] at h;cases h
theorem dj:∀b,b<g.length->∃r,(fe g)[b]? =some r/\r.length=g.length/\∀j,j<g.length->r[j]? =some (wE g b j):=fun b hb=>
 ⟨aaP g b,by unfold fe;rw[Jr,Oh hb];rfl,by simp[aaP],fun j hj=>by unfold aaP;rw[Jr,Oh hj];rfl⟩
theorem cm{B:Nat}{v:Value}{xs:List Int}(h:pg w B v xs):xp zN w B v xs:=by
 obtain⟨a,cap,rfl,h1,_,h3⟩:=h;refine⟨a,cap,rfl,h1,fun k x hk=>?_⟩;obtain⟨b,o,g,d,c⟩:=h3 k x hk;rw[Nk] at c;exact⟨b,o,g,d,c⟩
theorem aB{B:Nat}{v:Value}{rows:List (List Int)}(h:RowsC w B v rows):aaB zN w B v rows:=by
 obtain⟨a,cap,rfl,h1,_,h3⟩:=h
 have r:∃f:Nat->Value,∀k row,rows[k]? =some row->∃b o,a=some ⟨b,o,none⟩/\b<B/\G w b (o+k) (f k)/\xp zN w B (f k) row:=by
  refine⟨fun k=>match a with|some p=>(w.cell? ⟨p.block,p.off+k,none⟩).getD (.bool false)|none=> .bool false,fun k row hk=>?_⟩;obtain⟨b,o,l,i,u,d,t⟩:=h3 k row hk;rw[Nk] at d;subst l;refine⟨b,o,rfl,i,?_,?_⟩
  ·show w.cell? ⟨b,o+k,none⟩=some ((w.cell? ⟨b,o+k,none⟩).getD (.bool false))
   rw[d];rfl
  ·show xp zN w B ((w.cell? ⟨b,o+k,none⟩).getD (.bool false)) row
   rw[d];exact cm t
 obtain⟨f,hf⟩:=r;refine⟨(List.range rows.length).map f,⟨a,cap,by simp,by simpa using h1,fun k x hk=>?_⟩,by simp,fun k rv row hk hr=>?_⟩
 ·rw[Jr,Oz] at hk;obtain⟨j,g,rfl⟩:=hk;have c:=(Jh.1 g).1;rw[Un] at c;rw[Oh c] at g;cases g;obtain⟨b,o,l,i,d,_⟩:=hf k _ (Jd c);exact⟨b,o,l,i,d⟩
 ·have m:=(Jh.1 hr).1;rw[Jr,Oh m] at hk;cases hk;exact(hf k row hr).choose_spec.choose_spec.2.2.2
theorem graph_q{B:Nat}{sv:Value}(hs:vZ blocks)(c:blocks≠ [])(h:∀b∈blocks,wn blocks b.term=true)(hr:pV w B sv (zk blocks)):GraphIn w sv (zy blocks):=
 bU hs c h (aB (iW hr))
end Go.Proofs.Ytojclalkfhoooaa
