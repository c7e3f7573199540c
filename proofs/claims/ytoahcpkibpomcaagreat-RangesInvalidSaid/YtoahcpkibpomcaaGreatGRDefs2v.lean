/- Part of a proof. -/
import Derived.Test.YtoahcpkibpomcaaGreatMkXv
set_option linter.all false
set_option maxHeartbeats 4000000
set_option maxRecDepth 100000
namespace Go.Proofs.YtoahcpkibpomcaaGreat
open Go.RowKit
variable {g:List (List Nat)}{c db k m:Nat}{w w0 wx:World}{d:wO}{q0 q1 q2:Int}{xs:List (Int×Int)}
theorem jV(hv:zw g)(hr:∀x,x<g.length->Reach (GE g) x)(j:c<g.length):
 (pP g c=-1/\∀d,d≠c->wE g d c=false)∨∃c':Nat,pP g c=(c':Int)/\c'<g.length/\(∀d,d≠c->wE g d c'=wE g d c)/\wh (vD g) c'<wh (vD g) c:=by
 rcases idomOf hv c with⟨h1,h2⟩|⟨c',h1,h2,h3,m⟩
 ·exact .inl ⟨h1,fun d hd=>by cases h:wE g d c with|false=>rfl|true=>exact(h2 d hd h).elim⟩
 ·have hb:=(yO hv c' c).1 h3;refine .inr ⟨c',h1,(cA hv h3).1,fun d hd=>?_,?_⟩
  ·rw[Bool.eq_iff_iff];constructor
   ·intro h;have k:=(yO hv d c').1 h;exact(yO hv d c).2 ⟨k.1,hr c j,oZ k.2.2 hb.2.2⟩
   ·intro h;exact(yO hv d c').2 ⟨((yO hv d c).1 h).1,hb.1,m d hd h⟩
  ·obtain⟨ns,i⟩:=adR hv;obtain⟨D,l⟩:=i.dom;rw[i.eq];have hm:=l.dom_mem ((i.mem c).2 (hr c j)) hb.2.2;rcases Nat.lt_or_eq_of_le hm.2 with h|h
   ·exact h
   ·exact absurd (ou i.nodup hm.1 ((i.mem c).2 (hr c j)) h) h2
theorem lC(hv:zw g)(hr:∀x,x<g.length->Reach (GE g) x)(d:c<g.length):wE g c c=true:=(yO hv c c).2 ⟨hr c d,hr c d,rF _ _⟩
def nS (g:List (List Nat))(db i:Nat)(x:Int):Prop:=(x=-1/\wE g db i=false)∨∃c:Nat,x=(c:Int)/\c<g.length/\wE g db c=wE g db i
def oQ (g:List (List Nat))(x:Int):Nat:=if x=-1 then 0 else wh (vD g) x.toNat+1
theorem lT(hv:zw g)(hr:∀x,x<g.length->Reach (GE g) x){i:Nat}(j:c<g.length)(h:wE g db c=wE g db i)(d:c≠db):
 ∃y,(wQ g)[c]? =some y/\nS g db i y/\oQ g y<oQ g c:=by
 refine⟨pP g c,by unfold wQ;rw[Jr,Oh j];rfl,?_⟩;rcases jV hv hr j with⟨h1,h2⟩|⟨c',h1,h2,h3,k⟩
 ·rw[h1];refine⟨.inl ⟨rfl,by rw[<-h];exact h2 db (Ne.symm d)⟩,?_⟩;unfold oQ;rw[if_pos rfl,if_neg Zo];omega
 ·rw[h1];refine⟨.inr ⟨c',rfl,h2,by rw[h3 db (Ne.symm d)];exact h⟩,?_⟩;unfold oQ;rw[if_neg Zo,if_neg Zo,Ni,Ni];omega
theorem j8 (g:List (List Nat)):(wQ g).length=g.length:=by simp[wQ]
theorem case_dfd:∀q1 q2:Bool,(q1=true/\q2=true)∨(q1=true/\q2=false)∨(q1=false)
 |true,true=> .inl ⟨rfl,rfl⟩
 |true,false=> .inr (.inl ⟨rfl,rfl⟩)
 |false,_=> .inr (.inr rfl)
theorem qI{C m1 m2 n:Nat}{pv:List Value}{e3 b6:Value}(hc:ChkAt w C m1 m2 pv e3 b6 n d)(hv:zw g)(hr:∀x,x<g.length->Reach (GE g) x)(e7:g.length<=2000000)
 (a5:zY w w.heap.size b6 (wQ g)) (hd:∀v b,d.1 v=some b->0<=b/\b.toNat<g.length) {l:List Int} {lv:Value} (hl:zY w w.heap.size lv l) (i:Nat) (hi:i<g.length) (k:Int) (hk:I64 k):
 G 119 #[Y C,lv,I i,I k] w (ym w (l.all (yy d g i k))):=by
 obtain⟨la,lc,rfl,d4,d3⟩:=hl.form;obtain⟨da,dc,rfl,c4,d5⟩:=a5.form;rw[j8] at a5 c4 hc;have e6:l.length<=9223372036854775807:=Zo;obtain⟨hb,d1,c3,c2,d2,b1⟩:=hc
 obtain⟨p0,p1,p2,p3,p4,p5,rfl⟩:∃a b c d e f,pv=[a,b,c,d,e,f]:=by
  match pv,d1 with
  | [a,b,c,d,e,f],_=>exact⟨a,b,c,d,e,f,rfl⟩
 have e9:A w C 7 (.map (some m1)):=zA hb rfl;have e8:A w C 8 (.map (some m2)):=zA hb rfl;have f0:A w C 9 (.slice da g.length dc):=zA hb rfl;have u:=Ja (show wA w m1 n d.1/\wA w m2 n d.2/\(∀x,(d.1 x).isSome=(d.2 x).isSome)/\zw g/\(∀x,x<g.length->Reach (GE g) x)/\(∀v b,d.1 v=some b->0<=b/\b.toNat<g.length)/\i<g.length from⟨c3,c2,b1,hv,hr,hd,hi⟩);have HL:=Ja (show zY w w.heap.size (.slice la l.length lc) l/\zY w w.heap.size (.slice da g.length dc) (wQ g) from⟨hl,a5⟩);obtain⟨res,a1⟩:∃x,l.all (yy d g i k)=x:=⟨_,rfl⟩
 rw[a1];have t:=Ja a1;clear a1 hb c3 c2 d2 b1 hv hr hd hi hl a5 d4 d3 c4 d5;go_enter Tryz.func119,Tryz.ntmps119;generalize e2:w=W0 at *;clear e2;go_wp2
 go_loopw [16] (fun jv wx=>∃j:Nat,j<=l.length/\jv=I j/\wx=W0/\Hid ((l.take j).all (yy d g i k)=true)) (fun jv _=>l.length-(intOf jv).toNat)
 case atStart=>exact⟨0,Jt _,rfl,rfl,by rfl⟩
 case round=>
  obtain⟨j,hj,rfl,rfl,HJ⟩:=hrel;generalize e1:wr=W0 at *;clear e1
  by_cases a4:j<l.length
  ·have c7:(j:Int)<l.length:=Zo;have c5:=Ja a4;obtain⟨v,a3⟩:∃v,l[j]? =some v:=⟨_,Jd a4⟩
   obtain⟨b,o,rfl,hb,b5,a7⟩:=HL.out.1.get a3;rw[Nk] at b5;have a8:=u.out.1.lookOk a7;have a9:=u.out.2.1.look a7;have HT:=Ja (show(l.take (j+1)).all (yy d g i k)=((l.take j).all (yy d g i k) && yy d g i k v)/\(yy d g i k v=false->l.all (yy d g i k)=false) from⟨xX _ a3,fun h=>aaN _ a3 h⟩);clear a3 hb a4
   cases h1:d.1 v with
   |none=>
    rw[h1] at a8;have HN:=Ja (show yy d g i k v=false by unfold yy;rw[h1]);clear h1 a9;go_wp2;go_ret
    exact⟨uz (t.out.symm.trans (HT.out.2 HN.out)),Below.refl _ _⟩
   |some bz=>
    obtain⟨az,h2⟩:∃a,d.2 v=some a:=by
     have:=u.out.2.2.1 v;rw[h1] at this
     cases h:d.2 v with
     |none=>rw[h] at this;cases this
     |some a=>exact⟨a,rfl⟩
    obtain⟨e0,b4⟩:=u.out.2.2.2.2.2.1 v bz h1;obtain⟨db,rfl⟩:∃m:Nat,bz=(m:Int):=⟨bz.toNat,by omega⟩
    rw[Ni] at b4;rw[h1] at a8;rw[h2] at a9;simp only[Ot,Option.isSome_some] at a8 a9;have b0:yy d g i k v=(!(decide ((db:Int)=(i:Int)) && decide (k<=az)) && wE g db i):=by unfold yy;rw[h1,h2];rfl
    obtain⟨q1,a0⟩:∃q,decide ((db:Int)=(i:Int))=q:=⟨_,rfl⟩
    obtain⟨q2,d0⟩:∃q,decide (k<=az)=q:=⟨_,rfl⟩
    rw[a0,d0] at b0;have t1:(db==i)=q1:=by rw[<-a0];simp only[Bool.beq_eq_decide_eq,Int.natCast_inj]
    have c9:((db:Int)==(i:Int))=q1:=z6 a0;have c8:decide (db=i)=q1:=zZ a0 Zo;have HK:=Ja (show yy d g i k v=(!(q1 && q2) && wE g db i)/\db<g.length from⟨b0,b4⟩);clear h1 h2 b0 e0 b4 a0;rcases case_dfd q1 q2 with⟨rfl,rfl⟩|⟨rfl,rfl⟩|rfl
    ·have HN:=Ja (show yy d g i k v=false from HK.out.1);go_wp2;go_ret;exact⟨uz (t.out.symm.trans (HT.out.2 HN.out)),Below.refl _ _⟩
    all_goals (
     have HN:=Ja (show yy d g i k v=wE g db i from by rw[HK.out.1];rfl);have e4:=Ja (show nS g db i (i:Int) from .inr ⟨i,rfl,u.out.2.2.2.2.2.2,rfl⟩);go_wp2
     go_loopw [13] (fun xv wx=>∃x:Int,xv=I x/\W0=wx/\Hid (nS g db i x)) (fun xv _=>oQ g (intOf xv))
     case atStart=>exact⟨_,rfl,rfl,e4⟩
     case round=>
      obtain⟨x,rfl,rfl,HX⟩:=hrel;rcases HX.out with⟨rfl,c0⟩|⟨c,rfl,b2,a6⟩
      ·have u1:((-1:Int) !=(db:Int))=true:=by rw[bne_iff_ne];omega
       have HF:=Ja (HN.out.trans c0);clear c0;go_wp2;go_ret;exact⟨uz (t.out.symm.trans (HT.out.2 HF.out)),Below.refl _ _⟩
      ·by_cases b3:c=db
       ·subst b3;have HY:=Ja (show yy d g i k v=true by rw[HN.out,<-a6];exact lC u.out.2.2.2.1 u.out.2.2.2.2.1 b2);have u1:((c:Int) !=(c:Int))=false:=by rw[bne_eq_false_iff_eq]
        clear a6 b2 t1 c9 c8;go_wp2;go_roundw
        case rel=>exact⟨j+1,c5.out,by go_num,by trivial,Ja (by rw[HT.out.1,HJ.out,HY.out];rfl)⟩
        case measure=>have:=c5.out;simp[intOf];omega
       ·have u1:((c:Int) !=(db:Int))=true:=by rw[bne_iff_ne];omega
        have u2:((c:Int) !=-1)=true:=by rw[bne_iff_ne];omega
        obtain⟨y,hy,b8,b7⟩:=lT u.out.2.2.2.1 u.out.2.2.2.2.1 b2 a6 b3;obtain⟨b9,o9,rfl,d7,d6,_⟩:=HL.out.2.get hy;rw[Nk] at d6;have HY:=Ja (Jb b8 b7);have e5:(c:Int)<g.length:=Zo;clear a6 b3 hy b8 b7 d7;go_wp2;go_roundw
        case rel=>exact⟨y,rfl,by trivial,Ja HY.out.1⟩
        case measure=>have:=HY.out.2;simpa[intOf] using this)
  ·obtain rfl:j=l.length:=by omega
   have c7:¬(l.length:Int)<l.length:=Zo;have a2:=HJ.out;rw[Nl] at a2;have HA:=Ja a2;clear a4 a2;go_wp2;go_ret;exact⟨uz (t.out.symm.trans HA.out),Below.refl _ _⟩
theorem gj (n m:Nat):∃k:Nat,(k:Int)=(if(m:Int)<(n:Int) then(m:Int) else(n:Int))/\k=min m n:=⟨min m n,by split<;>omega,rfl⟩
theorem lw{α:Type}{sz:Nat}{R:World->Nat->Nat->Nat->α->Prop}{B:Nat}{a:Option Addr}{xs:List α}(h:yN sz R w B (.slice a xs.length c) xs)(m:Nat):yN sz R w B (.slice a (min m xs.length) c) (xs.take m):=by
 obtain⟨a',d,e,h1,h2,h3⟩:=h;cases e;exact⟨a,c,by rw[Oc],by rw[Oc];omega,h2,fun k x hk=>h3 k x (by rw[Ug] at hk;split at hk;exact hk;cases hk)⟩
def oC (w:World)(p:IProg)(e:Ending)(w':World):Prop:=∃(fa:Option Addr) (fc:Nat) (aa:Option Addr) (ac:Nat) (da:Option Addr) (dc:Nat) (ba:Option Addr) (bc:Nat),e=.returned (.agg (R p fa fc aa ac da dc ba bc))/\
 ProgIn w' w'.heap.size ⟨.slice fa p.funcs.length fc,.slice aa p.args.length ac,.slice da p.data.length dc,.slice ba p.banks.length bc⟩ p/\O w w'
theorem nE{V:PV}{p:IProg}(h:ProgIn w w.heap.size V p)(hb:O w0 w):oC w0 p (.returned (yH V p)) w:=by
 obtain⟨fa,fc,h1,_,_⟩:=h.funcs.form;obtain⟨aa,ac,h2,_,_⟩:=h.args.form;obtain⟨da,dc,h3,_,_⟩:=h.data.form;obtain⟨ba,bc,c,_,_⟩:=h.banks.form;obtain⟨v1,v2,v3,v4⟩:=V;simp only at h1 h2 h3 c;subst h1 h2 h3 c;exact⟨fa,fc,aa,ac,da,dc,ba,bc,rfl,h,hb⟩
theorem qu (w:World)(r o:Nat)(vs:List Value):Below r w (w.setCells r o vs):=
 ⟨(ze r vs o w).1,(ze r vs o w).2.1,(ze r vs o w).2.2,Ul (y8 r vs o w).symm,fun k hk=>ye r k Zo vs o w⟩
theorem pJ{r o L:Nat}{vs:List Value}(h:r<L):StaysL L w (w.setCells r o vs):=
 ⟨Ul (y8 r vs o w).symm,⟨(ze r vs o w).1,(ze r vs o w).2.1,(ze r vs o w).2.2⟩,fun k hk _=>ye r k Zo vs o w⟩
theorem uJ{V:PV}{p:IProg}(hp:ProgIn w w.heap.size V p)(hs:SmallP p):
 G 18 #[yH V p] w (fun e w'=>∃(t:PT) (fa:Option Addr) (fc:Nat) (aa:Option Addr) (ac:Nat) (da:Option Addr) (dc:Nat) (ba:Option Addr) (bc:Nat),e=.returned (.agg (R p fa fc aa ac da dc ba bc))/\
  (t.fv=.slice fa p.funcs.length fc/\t.av=.slice aa p.args.length ac/\t.dv=.slice da p.data.length dc/\t.bv=.slice ba p.banks.length bc)/\t.prog=p/\Rows w' w.heap.size t.rows/\O w w'):=by
 refine(own_any hp hs).mono ?_;rintro e w' ⟨t,rfl,ht,hr,hb⟩;have e1:t.funcs.length=p.funcs.length:=by rw[<-ht];unfold PT.prog;simp
 have e2:t.args.length=p.args.length:=by rw[<-ht];rfl
 have e3:t.data.length=p.data.length:=by rw[<-ht];rfl
 have e4:t.banks.length=p.banks.length:=by rw[<-ht];rfl
 obtain⟨fa,fc,h1⟩:=zG (hr.own (wY t.fv t.funcs) (.head _));obtain⟨aa,ac,h2⟩:=zG (hr.own (zP t.av t.args) (.tail _ (.head _)));obtain⟨da,dc,h3⟩:=zG (hr.own (vK t.dv t.data) (.tail _ (.tail _ (.head _))));obtain⟨ba,bc,i⟩:=zG (hr.own (v8 t.bv t.banks) (.tail _ (.tail _ (.tail _ (.head _)))));have h:t.fv=.slice fa p.funcs.length fc:=by rw[<-e1];exact h1
 have g:t.av=.slice aa p.args.length ac:=by rw[<-e2];exact h2
 have d:t.dv=.slice da p.data.length dc:=by rw[<-e3];exact h3
 have c:t.bv=.slice ba p.banks.length bc:=by rw[<-e4];exact i
 refine⟨t,fa,fc,aa,ac,da,dc,ba,bc,?_,⟨h,g,d,c⟩,ht,hr,hb⟩;unfold yH PT.V;simp only;rw[h,g,d,c]
theorem turned_a{V:PV}{p:IProg}(hp:ProgIn w w.heap.size V p)(hs:SmallP p)(hq:I64 q0/\I64 q1/\I64 q2)(hw:l6 q0=13∨l6 q0=14∨l6 q0=15):
 G 13 #[yH V p,.agg #[I q0,I q1,I q2]] w (pd w (wR p q0 q1 q2)):=by
 obtain⟨fa,fc,b9,f7,f6⟩:=hp.funcs.form;obtain⟨aa,ac,c3,g4,g3⟩:=hp.args.form;obtain⟨da,dc,c0,g0,f9⟩:=hp.data.form;obtain⟨ba,bc,c2,g2,g1⟩:=hp.banks.form;obtain⟨p1,f3⟩:∃p1,w.heap.size=p1:=⟨_,rfl⟩
 have b7:∀W,O w W->G 18 #[.agg (R p fa fc aa ac da dc ba bc)] W _:=fun W hb=>by
  have h:=uJ ((hp.below hb).mono hb.size) hs;unfold yH at h;rw[b9,c3,c0,c2] at h;exact h
 unfold yH;rw[b9,c3,c0,c2];obtain⟨n,hn⟩:∃n,uS q2=n:=⟨_,rfl⟩
 have f4:q2%65536=(n:Int):=by rw[<-hn];unfold uS;omega
 have h4:n<65536:=Zo;obtain⟨what,e1⟩:∃k,l6 q0=k:=⟨_,rfl⟩
 have g8:-20<q0.tmod 20/\q0.tmod 20<20:=⟨by have:=Qu q0 (show(0:Int)<20 by decide);omega,Qv q0 Zd⟩
 have b3:(q0.tmod 20+20)%20=(what:Int):=by
  rw[<-e1];unfold l6;have h1:=Ob q0 (show(20:Int)≠0 by decide);rw[Oa h1];have h2:=Qs q0 20;omega
 have a65:=yt q2;rw[f4] at a65;have a65b:=yt q1;have h6:=hs.fn.1;have e6:O w (((w.alloc (T (R p fa fc aa ac da dc ba bc) 29)).alloc (T #[I q0,I q1,I q2] 23)).alloc (T #[L,L,I 0,I 0,L,L] 29)):=(((Below.refl _ _).alloc (Je _) _).alloc Zs _).alloc Zt _;have d7:=Ja b7;have e7:=Ja e6;have HP:=Ja (Jb hs (Jb hn e1));clear b7 e6 hp hs b9 c3 c0 c2 f7 f6 g4 g3 g0 f9 g2 g1 hn hq;obtain⟨wI,b6⟩:∃wI:Int,(what:Int)=wI:=⟨_,rfl⟩
 rw[b6] at b3;have a0:=Ja (Jb b6 hw);clear b6 hw;go_enter Tryz.func13,Tryz.ntmps13;go_upto_region 2 with(go_at_call 18;go_must (refine(d7.out _ e7.out).mono ?_;rintro e w2 ⟨t,l,j,aa2,ac2,o,m,ba2,bc2,rfl,hV,ht,hr,hb⟩;have HT:=Ja (Jb hV (Jb ht (Jb hr hb)));clear hV ht hr hb))
 have a3:t.entry=p.entry/\t.handler=p.handler:=by rw[<-HT.out.2.1];exact⟨rfl,rfl⟩
 have a1:(zW t).toArray=R p l j aa2 ac2 o m ba2 bc2:=by
  unfold zW;rw[HT.out.1.1,HT.out.1.2.1,HT.out.1.2.2.1,HT.out.1.2.2.2,a3.1,a3.2]
 obtain⟨o5,b8⟩:∃o5,w2.heap.size=o5:=⟨_,rfl⟩
 have hm:TuMid w p1 o5 q0 q1 q2 t (w2.alloc (T (zW t).toArray 29)):=TuMid.start f3 b8 HT.out.2.2.1 HT.out.2.2.2;rw[a1] at hm;generalize g5:w2.alloc (T (R p l j aa2 ac2 o m ba2 bc2) 29)=W3 at *;clear g5;rw[b8];clear b8;have ho:=hm.ho;rw[a1] at ho;have c8:=zA (i:=0) hm.hq rfl;have c7:=zA (i:=1) hm.hq rfl;have c5:=zA (i:=2) hm.hq rfl;have d6:=zA (i:=0) ho rfl;have d5:=zA (i:=1) ho rfl;have d2:=zA (i:=4) ho rfl;have c9:=zA (i:=5) ho rfl;have of:∀i,N W3 o5 i:=fun i=>zE ho
 have d4:=zA (i:=2) ho rfl;have d3:=zA (i:=3) ho rfl;have ol:=lt_of_block ho;have g:=Ja (Jb hm (Jb ho (Jb a1 a3)));have d:=Ja HT.out.1;have b5:=Ja HT.out.2.1;clear hm ho a1 a3 HT d7 e7;obtain⟨f,hf⟩:∃f,uk p q1=f:=⟨_,rfl⟩
 have HF:=Ja hf;clear hf
 go_upto_if 23 with fail
 go_cut [7,8] (fun s7 s8 wx=>s7=I wI/\s8=I f/\W3=wx)
 case first=>
  have hf:=HF.out;unfold uk at hf
  by_cases b4:0<p.funcs.length
  ·rw[if_pos b4] at hf;have f2:(0:Int)<(p.funcs.length:Int):=Zo
   have f8:(q1%65536)%(p.funcs.length:Int)=(f:Int):=by
    rw[<-hf,Ou,Oa (Ob _ Zd)]
   have h0:0<=q1%65536:=Ob _ Zd;clear hf b4;go_wp2;go_meet;exact⟨by first|rfl|rw[b3],by first|rfl|rw[f8],rfl⟩
  ·rw[if_neg b4] at hf;have f2:¬(0:Int)<(p.funcs.length:Int):=Zo;subst hf;clear b4;go_wp2;go_meet;exact⟨by first|rfl|rw[b3],rfl,rfl⟩
 case rest=>
 obtain⟨rfl,rfl,rfl⟩:=hcut;clear b3;rcases a0.out.2 with hw|hw|hw
 ·have a5:=HP.out.2.2.symm.trans hw;subst a5;obtain rfl:wI=13:=a0.out.1.symm;clear a0;have h5:=g.out.1.ge;have g6:=HP.out.1.ar;have b2:t.args=p.args:=by rw[<-b5.out];rfl
  have b1:W3.ownsRow (p1+1+1+1) 3 1 (.slice aa2 p.args.length ac2) (p.args.length) (p.args.map zN):=by
   have h1:=g.out.1.rows.own (zP t.av t.args) (row_args t).1;have e:=d.out.2.1;rw[e] at h1;have h2:W3.ownsRow (p1+1+1+1) 3 1 (.slice aa2 p.args.length ac2) (t.args.length) _:=h1;rw[b2] at h2;exact h2
  have e4:(Value.slice aa2 p.args.length ac2).ownBlock≠some o5:=zC b1 g.out.2.1 (.inr Zd);have HR:=Ja (Jb b1 (Jb e4 b2));obtain⟨ii,f5,f1,f0,e8⟩:=info_parts Tryz.info_int;clear b1 e4 b2;go_upto_region 24 with(at_builtin;go_must (refine zK _ rfl (.tmp 71) (.tmp 75) 22 (by rfl) (p1+1+1+1) 3 ii (I 0) 1 8 Tryz.underlying22 f5 f1 f0 e8 rfl Zo (.slice aa2 p.args.length ac2) (p.args.length) (p.args.map zN) (by rfl) (HR.out.1.alloc _) (F W3.heap.size 1 1) 1 [I ((n:Int)%10-1)] (by rfl) (yM.one (zI rfl) rfl) (by unfold maxLen;omega) Zo Zt ?_;intro v9 w9 a2 y c4;obtain⟨ra,rc,rfl⟩:=zG a2;have a7:=zL y (zB g.out.2.1) HR.out.2.1;have d0:=zA (i:=0) a7 rfl;have d1:=zA (i:=1) a7 rfl;have df:N w9 o5 1:=zE a7;have dl:=lt_of_block a7;have HG:=Ja (Jb a2 (Jb y c4));clear a2 y c4 a7))
  have c:=(by
   have e5:=HG.out.2.1;have e9:=d.out.2.1;rw[<-e9] at e5;refine g.out.1.grow (r:=zP t.av t.args) (r':=zP (.slice ra (p.args.length+1) rc) (t.args++ [((n:Int)%10-1)])) (rs:=tq t) (i:=1) (u:=.slice ra (p.args.length+1) rc) (t':= {t with args:=t.args++ [((n:Int)%10-1)],av:=.slice ra (p.args.length+1) rc }) (abG t).2 ((Below.refl W3.heap.size W3).alloc (Je _) (T #[I ((n:Int)%10-1)] 3)) e5 ?_ (fun x e=>?_) ?_ ?_
   ·show w9.ownsRow (p1+1+1+1) 3 1 _ (t.args++ [((n:Int)%10-1)]).length _
    rw[Jk,Ju,HR.out.2.2];have h9:=HG.out.1
    show w9.ownsRow _ _ _ _ _ ((p.args++ [((n:Int)%10-1)]).map zN)
    rw[Js];exact h9
   ·rcases HG.out.2.2 with e2|e2
    ·left;have e3:=e2.symm.trans e
     show t.av.ownBlock=some x
     rw[e9];exact e3
    ·right;have e3:=e2.symm.trans e;simp at e3;omega
   ·exact(qU t _ _).symm
   ·rfl)
  generalize b0:w9.setCell ⟨o5,1,none⟩ (.slice ra (p.args.length+1) rc)=WF at *;have ho2:=c.ho
  have e0:(zW ({t with args:=t.args++ [(n:Int)%10-1],av:=.slice ra (p.args.length+1) rc }:PT)).toArray=#[.slice l p.funcs.length j,.slice ra (p.args.length+1) rc,I p.entry,I p.handler,.slice o p.data.length m,.slice ba2 p.banks.length bc2]:=by
   unfold zW
   first|(simp only;done)|(simp only[d.out.1,d.out.2.1,d.out.2.2.1,d.out.2.2.2,g.out.2.2.2.1,g.out.2.2.2.2])
  rw[e0] at ho2;clear b0 c8 c7 c5 d6 d5 d4 d3 d2 c9 of ol;have x0:=zA (i:=0) ho2 rfl;have x1:=zA (i:=1) ho2 rfl;have x2:=zA (i:=2) ho2 rfl;have x3:=zA (i:=3) ho2 rfl;have x4:=zA (i:=4) ho2 rfl;have x5:=zA (i:=5) ho2 rfl;have xl:=lt_of_block ho2;have y0:=zA (i:=0) c.hr rfl;have y1:=zA (i:=1) c.hr rfl;have y2:=zA (i:=2) c.hr rfl;have y3:=zA (i:=3) c.hr rfl;have y4:=zA (i:=4) c.hr rfl;have y5:=zA (i:=5) c.hr rfl;have yf:∀i,N WF (p1+1+1) i:=fun i=>zE c.hr
  have yl:=lt_of_block c.hr;have q:=Ja (Jb c e0);clear c ho2 e0;go_wp2;refine bodyPost_ret (v:=.agg #[.slice l p.funcs.length j,.slice ra (p.args.length+1) rc,I p.entry,I p.handler,.slice o p.data.length m,.slice ba2 p.banks.length bc2]) ?_ rfl (q.out.1.ret q.out.2 ?_)
  ·rw[zM rfl];go_simp
  ·have a4:=HP.out.2.2;have a8:=HP.out.2.1;have a9:=HF.out;have a6:=b5.out;unfold wR rA;rw[a8,a9,show l6 q0=13 from a4];rw[<-a6];rfl
 ·have a5:=HP.out.2.2.symm.trans hw;subst a5;obtain rfl:wI=14:=a0.out.1.symm;clear a0;go_upto_region 24 with fail;have c:=g.out.1.set (t':= {t with entry:=(n:Int)%7-1 }) (i:=2) (u:=I ((n:Int)%7-1)) rfl rfl;generalize b0:W3.setCell ⟨o5,2,none⟩ (I ((n:Int)%7-1))=WF at *;have ho2:=c.ho
  have e0:(zW ({t with entry:=(n:Int)%7-1 }:PT)).toArray=#[.slice l p.funcs.length j,.slice aa2 p.args.length ac2,I ((n:Int)%7-1),I p.handler,.slice o p.data.length m,.slice ba2 p.banks.length bc2]:=by
   unfold zW
   first|(simp only;done)|(simp only[d.out.1,d.out.2.1,d.out.2.2.1,d.out.2.2.2,g.out.2.2.2.1,g.out.2.2.2.2])
  rw[e0] at ho2;clear b0 c8 c7 c5 d6 d5 d4 d3 d2 c9 of ol;have x0:=zA (i:=0) ho2 rfl;have x1:=zA (i:=1) ho2 rfl;have x2:=zA (i:=2) ho2 rfl;have x3:=zA (i:=3) ho2 rfl;have x4:=zA (i:=4) ho2 rfl;have x5:=zA (i:=5) ho2 rfl;have xl:=lt_of_block ho2;have y0:=zA (i:=0) c.hr rfl;have y1:=zA (i:=1) c.hr rfl;have y2:=zA (i:=2) c.hr rfl;have y3:=zA (i:=3) c.hr rfl;have y4:=zA (i:=4) c.hr rfl;have y5:=zA (i:=5) c.hr rfl;have yf:∀i,N WF (p1+1+1) i:=fun i=>zE c.hr
  have yl:=lt_of_block c.hr;have q:=Ja (Jb c e0);clear c ho2 e0;go_wp2;refine bodyPost_ret (v:=.agg #[.slice l p.funcs.length j,.slice aa2 p.args.length ac2,I ((n:Int)%7-1),I p.handler,.slice o p.data.length m,.slice ba2 p.banks.length bc2]) ?_ rfl (q.out.1.ret q.out.2 ?_)
  ·rw[zM rfl];go_simp
  ·have a4:=HP.out.2.2;have a8:=HP.out.2.1;have a9:=HF.out;have a6:=b5.out;unfold wR rA;rw[a8,a9,show l6 q0=14 from a4];rw[<-a6];rfl
 ·have a5:=HP.out.2.2.symm.trans hw;subst a5;obtain rfl:wI=15:=a0.out.1.symm;clear a0;go_upto_region 24 with fail;have c:=g.out.1.set (t':= {t with handler:=(n:Int)%7-2 }) (i:=3) (u:=I ((n:Int)%7-2)) rfl rfl;generalize b0:W3.setCell ⟨o5,3,none⟩ (I ((n:Int)%7-2))=WF at *;have ho2:=c.ho
  have e0:(zW ({t with handler:=(n:Int)%7-2 }:PT)).toArray=#[.slice l p.funcs.length j,.slice aa2 p.args.length ac2,I p.entry,I ((n:Int)%7-2),.slice o p.data.length m,.slice ba2 p.banks.length bc2]:=by
   unfold zW
   first|(simp only;done)|(simp only[d.out.1,d.out.2.1,d.out.2.2.1,d.out.2.2.2,g.out.2.2.2.1,g.out.2.2.2.2])
  rw[e0] at ho2;clear b0 c8 c7 c5 d6 d5 d4 d3 d2 c9 of ol;have x0:=zA (i:=0) ho2 rfl;have x1:=zA (i:=1) ho2 rfl;have x2:=zA (i:=2) ho2 rfl;have x3:=zA (i:=3) ho2 rfl;have x4:=zA (i:=4) ho2 rfl;have x5:=zA (i:=5) ho2 rfl;have xl:=lt_of_block ho2;have y0:=zA (i:=0) c.hr rfl;have y1:=zA (i:=1) c.hr rfl;have y2:=zA (i:=2) c.hr rfl;have y3:=zA (i:=3) c.hr rfl;have y4:=zA (i:=4) c.hr rfl;have y5:=zA (i:=5) c.hr rfl;have yf:∀i,N WF (p1+1+1) i:=fun i=>zE c.hr
  have yl:=lt_of_block c.hr;have q:=Ja (Jb c e0);clear c ho2 e0;go_wp2;refine bodyPost_ret (v:=.agg #[.slice l p.funcs.length j,.slice aa2 p.args.length ac2,I p.entry,I ((n:Int)%7-2),.slice o p.data.length m,.slice ba2 p.banks.length bc2]) ?_ rfl (q.out.1.ret q.out.2 ?_)
  ·rw[zM rfl];go_simp
  ·have a4:=HP.out.2.2;have a8:=HP.out.2.1;have a9:=HF.out;have a6:=b5.out;unfold wR rA;rw[a8,a9,show l6 q0=15 from a4];rw[<-a6];rfl
theorem turned_d{V:PV}{p:IProg}(hp:ProgIn w w.heap.size V p)(hs:SmallP p)(hq:I64 q0/\I64 q1/\I64 q2)(hw:l6 q0<=12∨l6 q0=19):
 G 13 #[yH V p,.agg #[I q0,I q1,I q2]] w (pd w (wR p q0 q1 q2)):=by
 obtain⟨fa,fc,d6,i4,i3⟩:=hp.funcs.form;obtain⟨aa,ac,e8,j2,j1⟩:=hp.args.form;obtain⟨da,dc,e4,i7,i6⟩:=hp.data.form;obtain⟨ba,bc,e6,j0,i9⟩:=hp.banks.form;obtain⟨p1,h8⟩:∃p1,w.heap.size=p1:=⟨_,rfl⟩
 have d1:∀W,O w W->G 18 #[.agg (R p fa fc aa ac da dc ba bc)] W _:=fun W hb=>by
  have h:=uJ ((hp.below hb).mono hb.size) hs;unfold yH at h;rw[d6,e8,e4,e6] at h;exact h
 unfold yH;rw[d6,e8,e4,e6];obtain⟨n,hn⟩:∃n,uS q2=n:=⟨_,rfl⟩
 have h9:q2%65536=(n:Int):=by rw[<-hn];unfold uS;omega
 have i0:n<65536:=Zo;obtain⟨what,f9⟩:∃k,l6 q0=k:=⟨_,rfl⟩
 have k4:-20<q0.tmod 20/\q0.tmod 20<20:=⟨by have:=Qu q0 (show(0:Int)<20 by decide);omega,Qv q0 Zd⟩
 have g0:(q0.tmod 20+20)%20=(what:Int):=by
  rw[<-f9];unfold l6;have h1:=Ob q0 (show(20:Int)≠0 by decide);rw[Oa h1];have h2:=Qs q0 20;omega
 have a65:=yt q2;rw[h9] at a65;have a65b:=yt q1;have k6:=hs.fn.1;have g6:O w (((w.alloc (T (R p fa fc aa ac da dc ba bc) 29)).alloc (T #[I q0,I q1,I q2] 23)).alloc (T #[L,L,I 0,I 0,L,L] 29)):=(((Below.refl _ _).alloc (Je _) _).alloc Zs _).alloc Zt _;have f8:=Ja d1;have g8:=Ja g6;have HP:=Ja (Jb hs (Jb hn f9));clear d1 g6 hp hs d6 e8 e4 e6 i4 i3 j2 j1 i7 i6 j0 i9 hn hq;have c5:=Ja hw;have h4:what<=12∨what=19:=by have e:=HP.out.2.2;rw[<-e];exact hw
 have b13:((what:Int)==13)=false:=Ze;have b14:((what:Int)==14)=false:=Ze;have b15:((what:Int)==15)=false:=Ze;have b16:((what:Int)==16)=false:=Ze;have b17:((what:Int)==17)=false:=Ze;have b18:((what:Int)==18)=false:=Ze;clear hw h4;go_enter Tryz.func13,Tryz.ntmps13;go_upto_region 2 with(go_at_call 18;go_must (refine(f8.out _ g8.out).mono ?_;rintro e w2 ⟨t,c4,o,aa2,ac2,u,q,ba2,bc2,rfl,hV,ht,hr,hb⟩;have HT:=Ja (Jb hV (Jb ht (Jb hr hb)));clear hV ht hr hb))
 have a8:t.entry=p.entry/\t.handler=p.handler:=by rw[<-HT.out.2.1];exact⟨rfl,rfl⟩
 have a1:(zW t).toArray=R p c4 o aa2 ac2 u q ba2 bc2:=by
  unfold zW;rw[HT.out.1.1,HT.out.1.2.1,HT.out.1.2.2.1,HT.out.1.2.2.2,a8.1,a8.2]
 obtain⟨o5,d2⟩:∃o5,w2.heap.size=o5:=⟨_,rfl⟩
 have hm:TuMid w p1 o5 q0 q1 q2 t (w2.alloc (T (zW t).toArray 29)):=TuMid.start h8 d2 HT.out.2.2.1 HT.out.2.2.2;rw[a1] at hm;generalize j3:w2.alloc (T (R p c4 o aa2 ac2 u q ba2 bc2) 29)=W3 at *;clear j3;rw[d2];clear d2;have ho:=hm.ho;rw[a1] at ho;have f1:=zA (i:=0) hm.hq rfl;have f0:=zA (i:=1) hm.hq rfl;have e9:=zA (i:=2) hm.hq rfl;have f7:=zA (i:=0) ho rfl;have f6:=zA (i:=1) ho rfl;have f3:=zA (i:=4) ho rfl;have f2:=zA (i:=5) ho rfl;have of:∀i,N W3 o5 i:=fun i=>zE ho
 have f5:=zA (i:=2) ho rfl;have f4:=zA (i:=3) ho rfl;have ol:=lt_of_block ho;have l:=Ja (Jb hm (Jb ho (Jb a1 a8)));have j:=Ja HT.out.1;have b4:=Ja HT.out.2.1;clear hm ho a1 a8 HT f8 g8;obtain⟨f,hf⟩:∃f,uk p q1=f:=⟨_,rfl⟩
 have HF:=Ja hf;clear hf
 go_upto_if 23 with fail
 go_cut [7,8] (fun s7 s8 wx=>s7=I what/\s8=I f/\W3=wx)
 case first=>
  have hf:=HF.out;unfold uk at hf
  by_cases b8:0<p.funcs.length
  ·rw[if_pos b8] at hf;have h5:(0:Int)<(p.funcs.length:Int):=Zo
   have g4:(q1%65536)%(p.funcs.length:Int)=(f:Int):=by
    rw[<-hf,Ou,Oa (Ob _ Zd)]
   have h0:0<=q1%65536:=Ob _ Zd;clear hf b8;go_wp2;go_meet;exact⟨by first|rfl|rw[g0],by first|rfl|rw[g4],rfl⟩
  ·rw[if_neg b8] at hf;have h5:¬(0:Int)<(p.funcs.length:Int):=Zo;subst hf;clear b8;go_wp2;go_meet;exact⟨by first|rfl|rw[g0],rfl,rfl⟩
 case rest=>
 obtain⟨rfl,rfl,rfl⟩:=hcut;have a2:t.funcs.length=p.funcs.length:=by rw[<-b4.out];unfold PT.prog;simp
 by_cases b9:0<p.funcs.length
 ·have k0:f<p.funcs.length:=by
   have h:=HF.out;unfold uk at h;rw[if_pos b9] at h;rw[<-h];exact Qj _ b9
  obtain⟨ft,b1⟩:∃ft,t.funcs[f]? =some ft:=⟨_,Jd Zo⟩
  have d0:p.funcs[f]? =some ft.fn:=by
   rw[<-b4.out]
   show(t.funcs.map FT.fn)[f]? =_
   rw[Jr,b1];rfl
  have d7:=kZ l.out.1.rows;rw[j.out.1,a2] at d7;obtain⟨fb,k9,i5,k2,k1⟩:=d7.form b9;cases i5;have e3:t.fv.ownBlock=some fb:=by rw[j.out.1];rfl
  obtain⟨cf,ff,l0⟩:=kj l.out.1.rows e3 b1;have d4:W3.ownsRow (p1+1+1+1) 84 5 ft.bv ft.blks.length (ft.blks.flatMap zz):=l.out.1.rows.own (zd ft.bv ft.blks) ((PT.rows_at b1).mem_iff.2 (.head _));obtain⟨ga,gc,d3⟩:=zG d4;rw[d3] at cf;have g4:(f:Int)<(p.funcs.length:Int):=Zo;have h6:(0:Int)<(p.funcs.length:Int):=Zo;have b6:=(HP.out.1.fn.2 ft.fn (Ji d0))
  have c2:ft.fn.length=ft.blks.length:=by unfold FT.fn;simp
  have k3:ft.blks.length<=2000000:=by have:=b6.1.1;omega
  have d:=Ja (Jb b1 (Jb d0 (Jb e3 (Jb d3 (Jb d4 (Jb b6 c2))))));clear b1 d0 e3 d3 d4 d7 b6 c2 a2
  by_cases c3:0<ft.blks.length
  ·have h7:(0:Int)<(ft.blks.length:Int):=Zo;obtain⟨i,hi⟩:∃i,turnK q1 n ft.blks.length=i:=⟨_,rfl⟩
   have i1:i<ft.blks.length:=by rw[<-hi];exact Qj _ c3
   obtain⟨bt,c0⟩:∃bt,ft.blks[i]? =some bt:=⟨_,Jd i1⟩
   obtain⟨x,hx⟩:∃x:Nat,q1/65536%65536=(x:Int):=⟨(q1/65536%65536).toNat,by omega⟩
   have b7:(x:Int)<65536:=Zo;have c8:=Ja (Jb hi (Jb hx b7));have k5:(i:Int)<(ft.blks.length:Int):=Zo;have d5:=d.out.2.2.2.2.1;rw[d.out.2.2.2.1] at d5;obtain⟨gb,k7,i2,j5,j4⟩:=d5.form c3;cases i2;have g3:ft.bv.ownBlock=some gb:=by rw[d.out.2.2.2.1];rfl
   have g5:=d.out.2.2.2.2.2.1;have b5:bt.blk∈ft.fn:=Oj (Ji c0)
   have g1:SzB bt:=by
    obtain⟨h1,h2⟩:=g5;have h3:=h1.2 _ b5;exact szB_of h3 h2 b5
   have g2:∀W,O W3 W->G 32 #[.pointer (some ⟨gb,i*5,none⟩),I what,I n] W (uE W (p1+1+1+1) gb i ft.bv bt ft.blks ((ft.blks.eraseIdx i).flatMap BT.rows++t.but f) what n):=fun W hW=>iF ((l.out.1.below hW).block d.out.1 c0 g3) i0 g1 (by have e:=HP.out.2.2;rw[<-e];exact c5.out)
   have c7:=Ja (Jb g2 (Jb c0 hi));have x0:A (W3.alloc (T #[F gb ft.blks.length gc] 39)) W3.heap.size 0 (F gb ft.blks.length gc):=zA (zI rfl) rfl;have x1:A (W3.alloc (T #[F gb ft.blks.length gc] 39)) (p1+1) 1 (I q1):=zA (zB l.out.1.hq) rfl;clear g2 c0 hi hx d5 g3 g5 b5 g1 c3 b7;go_upto_region 10 with fail;have b7:=c8.out.2.2;have a3:bits .and .i64 (q1/65536) 65535=(x:Int):=by rw[yt,c8.out.2.1]
   have a4:IntKind.i64.wrap ((n:Int)/64)=(n:Int)/64:=Om _ Zo;have a5:IntKind.i64.wrap ((x:Int)+(n:Int)/64)=(x:Int)+(n:Int)/64:=Om _ Zo
   have a6:((x:Int)+(n:Int)/64)%(ft.blks.length:Int)=(i:Int):=by
    rw[<-c8.out.1];unfold turnK;rw[c8.out.2.1,Ni];simp
   have a7:((x:Int)+(n:Int)/64).tmod (ft.blks.length:Int)=(i:Int):=by rw[Qc Zo];exact a6
   clear b7;refine zt 16 Zk Zk ?_;simp only[Qo,Uc,Qp,Ui]
   repeat (go_big_quiet_step (fail))
   refine wpQuiet_nil ?_;go_upto_region 24 with(go_at_call 32;go_must (refine(c7.out.1 _ (((Below.refl _ _).alloc (Je _) (T #[F gb ft.blks.length gc] 39)).drew)).mono ?_;rintro e w9 ⟨rfl,bt',c9,e7,e5⟩;have HG:=Ja (Jb c9 (Jb e7 e5));clear c9 e7 e5))
   have c:=((l.out.1.below (((Below.refl _ _).alloc (Je _) (T #[F gb ft.blks.length gc] 39)).drew)).unblock d.out.1 c7.out.2.1 HG.out.1 HG.out.2.2)
   generalize b3:w9=WF at *;have ho2:=c.ho
   have e0:(zW ({t with funcs:=t.funcs.set f {ft with blks:=ft.blks.set i bt' }}:PT)).toArray=R p (some ⟨fb,0,none⟩) o aa2 ac2 u q ba2 bc2:=by
    unfold zW
    first|(simp only;done)|(simp only[j.out.1,j.out.2.1,j.out.2.2.1,j.out.2.2.2,l.out.2.2.2.1,l.out.2.2.2.2])
   rw[e0] at ho2;clear b3 f1 f0 e9 f7 f6 f5 f4 f3 f2 of ol;have x0:=zA (i:=0) ho2 rfl;have x1:=zA (i:=1) ho2 rfl;have x2:=zA (i:=2) ho2 rfl;have x3:=zA (i:=3) ho2 rfl;have x4:=zA (i:=4) ho2 rfl;have x5:=zA (i:=5) ho2 rfl;have xl:=lt_of_block ho2;have y0:=zA (i:=0) c.hr rfl;have y1:=zA (i:=1) c.hr rfl;have y2:=zA (i:=2) c.hr rfl;have y3:=zA (i:=3) c.hr rfl;have y4:=zA (i:=4) c.hr rfl;have y5:=zA (i:=5) c.hr rfl;have yf:∀i,N WF (p1+1+1) i:=fun i=>zE c.hr
   have yl:=lt_of_block c.hr;have y:=Ja (Jb c e0);clear c ho2 e0;go_wp2;refine bodyPost_ret (v:=.agg (R p (some ⟨fb,0,none⟩) o aa2 ac2 u q ba2 bc2)) ?_ rfl (y.out.1.ret y.out.2 ?_)
   ·rw[zM rfl];go_simp
   ·have m:=HP.out.2.2;have b0:=HP.out.2.1;have b2:=HF.out;have a9:=b4.out;have a0:=c5.out;rw[m] at a0;unfold wR rA;rw[b0,b2,m,if_neg Zo,if_neg Zo,if_neg Zo,if_neg Zo,if_neg Zo,if_neg Zo]
    have e1:wD p.funcs f (lW what q1 n)=p.funcs.set f (wD ft.fn i (xh what n)):=by
     rw[xI d.out.2.1];unfold lW;rw[d.out.2.2.2.2.2.2,c7.out.2.2]
    rw[e1,<-a9];unfold PT.prog;simp only[Ox]
    have e2:wD ft.fn i (xh what n)=({ft with blks:=ft.blks.set i bt' }:FT).fn:=by
     unfold FT.fn;rw[xI (x:=bt.blk) (by rw[Jr,c7.out.2.1];rfl),Ox,HG.out.2.1]
    rw[e2]
  ·have h7:¬(0:Int)<(ft.blks.length:Int):=Zo
   have HN:=Ja (show ∀g,p.funcs[f]? =some g->g.length=0 from fun g hg=>by
    rw[d.out.2.1] at hg;cases hg;have:=d.out.2.2.2.2.2.2
    omega)
   clear c3;go_upto_region 24 with fail;have c:=l.out.1;generalize b3:W3=WF at *;have ho2:=c.ho
   have e0:(zW t).toArray=R p (some ⟨fb,0,none⟩) o aa2 ac2 u q ba2 bc2:=by
    unfold zW
    first|(simp only;done)|(simp only[j.out.1,j.out.2.1,j.out.2.2.1,j.out.2.2.2,l.out.2.2.2.1,l.out.2.2.2.2])
   rw[e0] at ho2;clear b3 f1 f0 e9 f7 f6 f5 f4 f3 f2 of ol;have x0:=zA (i:=0) ho2 rfl;have x1:=zA (i:=1) ho2 rfl;have x2:=zA (i:=2) ho2 rfl;have x3:=zA (i:=3) ho2 rfl;have x4:=zA (i:=4) ho2 rfl;have x5:=zA (i:=5) ho2 rfl;have xl:=lt_of_block ho2;have y0:=zA (i:=0) c.hr rfl;have y1:=zA (i:=1) c.hr rfl;have y2:=zA (i:=2) c.hr rfl;have y3:=zA (i:=3) c.hr rfl;have y4:=zA (i:=4) c.hr rfl;have y5:=zA (i:=5) c.hr rfl;have yf:∀i,N WF (p1+1+1) i:=fun i=>zE c.hr
   have yl:=lt_of_block c.hr;have y:=Ja (Jb c e0);clear c ho2 e0;go_wp2;refine bodyPost_ret (v:=.agg (R p (some ⟨fb,0,none⟩) o aa2 ac2 u q ba2 bc2)) ?_ rfl (y.out.1.ret y.out.2 ?_)
   ·rw[zM rfl];go_simp
   ·have m:=HP.out.2.2;have b0:=HP.out.2.1;have b2:=HF.out;have a9:=b4.out;have a0:=c5.out;rw[m] at a0;unfold wR;rw[b0,b2,m,uw (.inr a0) HN.out];exact a9
 ·have h6:¬(0:Int)<(p.funcs.length:Int):=Zo
  have HN:=Ja (show ∀g,p.funcs[f]? =some g->g.length=0 from fun g hg=>by
   have:=(Jh.1 hg).1
   omega)
  clear b9 a2;go_upto_region 24 with fail;have c:=l.out.1;generalize b3:W3=WF at *;have ho2:=c.ho
  have e0:(zW t).toArray=R p c4 o aa2 ac2 u q ba2 bc2:=by
   unfold zW
   first|(simp only;done)|(simp only[j.out.1,j.out.2.1,j.out.2.2.1,j.out.2.2.2,l.out.2.2.2.1,l.out.2.2.2.2])
  rw[e0] at ho2;clear b3 f1 f0 e9 f7 f6 f5 f4 f3 f2 of ol;have x0:=zA (i:=0) ho2 rfl;have x1:=zA (i:=1) ho2 rfl;have x2:=zA (i:=2) ho2 rfl;have x3:=zA (i:=3) ho2 rfl;have x4:=zA (i:=4) ho2 rfl;have x5:=zA (i:=5) ho2 rfl;have xl:=lt_of_block ho2;have y0:=zA (i:=0) c.hr rfl;have y1:=zA (i:=1) c.hr rfl;have y2:=zA (i:=2) c.hr rfl;have y3:=zA (i:=3) c.hr rfl;have y4:=zA (i:=4) c.hr rfl;have y5:=zA (i:=5) c.hr rfl;have yf:∀i,N WF (p1+1+1) i:=fun i=>zE c.hr
  have yl:=lt_of_block c.hr;have y:=Ja (Jb c e0);clear c ho2 e0;go_wp2;refine bodyPost_ret (v:=.agg (R p c4 o aa2 ac2 u q ba2 bc2)) ?_ rfl (y.out.1.ret y.out.2 ?_)
  ·rw[zM rfl];go_simp
  ·have m:=HP.out.2.2;have b0:=HP.out.2.1;have b2:=HF.out;have a9:=b4.out;have a0:=c5.out;rw[m] at a0;unfold wR;rw[b0,b2,m,uw (.inr a0) HN.out];exact a9
open Go.RowKit Go.Lib
theorem eval_ex{V:PV}{p:IProg}(hp:ProgIn w w.heap.size V p)(c4:p.args.length=p.funcs.length)(hV:∀W,O w W->G 35 #[sZ V p] W fun e W'=>e=.returned (I 0)/\O W W')
 (f:Int) (hf:0<=f/\f.toNat<p.funcs.length) {args:List Nat} {av:Value} (ha:wV w w.heap.size av args) (hl:(args.length:Int)=p.args.getD f.toNat 0) (s:ByteArray) (hs:s.size<=9223372036854775807)
 {inv irqv:Value} {inn irq:List Nat} (c7:wV w w.heap.size inv inn) (c5:dL w w.heap.size irqv irq) (fuel:Int) (f0:I64 fuel) (f3:fuel.toNat<=4000000)
 (hC:∀(K:MK) (W:World) (ov:Value),K.E=⟨p,inn,irq⟩->MachAt W K ⟨v7 s,fuel,[],0,0⟩ ov->G 150 #[Y K.pm,I f,av,I 1] W (zQ K W (xW K.E 100 f args ⟨v7 s,fuel,[],0,0⟩))):
 G 143 #[sZ V p,I f,av,.string s,.agg #[inv,irqv],I fuel] w (abr w (bQ ⟨p,inn,irq⟩ f args s fuel)):=by
 obtain⟨Vf,Va,Vd,Vb⟩:=V;have h4:=hp.funcs;have c3:=hp.args;have h7:=hp.data;have h8:=hp.banks;obtain⟨f1,f2,e1,_,_⟩:=hp.funcs.form;obtain⟨a1,a2,e2,_,_⟩:=hp.args.form;obtain⟨d1,d2,e3,_,_⟩:=hp.data.form;obtain⟨b1,b2,e4,_,_⟩:=hp.banks.form;obtain⟨v1,v2,rfl,_,_⟩:=ha.form;obtain⟨i1,i2,rfl,_,_⟩:=c7.form;obtain⟨q1,q2,rfl,_,_⟩:=c5.form;simp only at e1 e2 e3 e4;subst e1 e2 e3 e4;obtain⟨k,rfl⟩:∃k:Nat,f=(k:Int):=⟨f.toNat,by omega⟩
 have j3:(k:Int)<p.funcs.length:=Zo;unfold sZ at hV ⊢;simp only at hV c3 ⊢;have j5:decide ((k:Int)<0)=false:=by rw[decide_eq_false_iff_not];omega
 have j4:decide (p.funcs.length<=k)=false:=by rw[decide_eq_false_iff_not];omega
 have h9:=mk_ram;obtain⟨Z,hZ⟩:∃Z,madeCells #[Value.int .u8 0] 8192=Z:=⟨_,rfl⟩
 rw[hZ] at h9;have HZ:=Ja hZ;clear hZ;have HP:=Ja hp;have HV:=Ja hV;have i6:=Ja hC;have HA:=Ja (Jb ha hl);have g3:=Ja (Jb c7 c5);have g4:=Ja (Jb f0 f3);obtain⟨aa,d0⟩:∃x,p.args[k]? =some x:=⟨_,Jd (by rw[c4];omega)⟩
 have f7:(args.length:Int)=aa:=by rw[hl,Ni,Jj,d0];rfl
 have j0:((args.length:Int) !=aa)=false:=by rw[bne_eq_false_iff_eq];exact f7
 have i7:(k:Int)<p.args.length:=by rw[c4];omega
 obtain⟨ba,oa,rfl,i0,f5,_⟩:=c3.get d0;rw[Nk] at f5;clear hp hV c4 hC ha hl c7 c5 f0 f3 h4 c3 h7 h8 hf d0 f7
 go_enter_defers Tryz.func143,Tryz.ntmps143
 go_upto_region 1 with fail;have f6:O w (((w.alloc (T #[.slice f1 p.funcs.length f2,.slice (some ⟨ba,oa,none⟩) p.args.length a2,I p.entry,I p.handler,.slice d1 p.data.length d2,.slice b1 p.banks.length b2] 29)).alloc (T #[.slice i1 inn.length i2,.slice q1 irq.length q2] 62)).alloc (T #[U 0,L,I 0,U 0,.string {data:=#[]},I 0,I 0] 57)):=(((Below.refl _ _).alloc (Je _) _).alloc Zs _).alloc (by simp<;>omega) _;have l:Q (((w.alloc (T #[.slice f1 p.funcs.length f2,.slice (some ⟨ba,oa,none⟩) p.args.length a2,I p.entry,I p.handler,.slice d1 p.data.length d2,.slice b1 p.banks.length b2] 29)).alloc (T #[.slice i1 inn.length i2,.slice q1 irq.length q2] 62)).alloc (T #[U 0,L,I 0,U 0,.string {data:=#[]},I 0,I 0] 57)) w.heap.size #[.slice f1 p.funcs.length f2,.slice (some ⟨ba,oa,none⟩) p.args.length a2,I p.entry,I p.handler,.slice d1 p.data.length d2,.slice b1 p.banks.length b2] 29:=zB (zB (zI rfl));have e7:Q (((w.alloc (T #[.slice f1 p.funcs.length f2,.slice (some ⟨ba,oa,none⟩) p.args.length a2,I p.entry,I p.handler,.slice d1 p.data.length d2,.slice b1 p.banks.length b2] 29)).alloc (T #[.slice i1 inn.length i2,.slice q1 irq.length q2] 62)).alloc (T #[U 0,L,I 0,U 0,.string {data:=#[]},I 0,I 0] 57)) (w.heap.size+1) #[.slice i1 inn.length i2,.slice q1 irq.length q2] 62:=zB (zI Zs);have e6:Q (((w.alloc (T #[.slice f1 p.funcs.length f2,.slice (some ⟨ba,oa,none⟩) p.args.length a2,I p.entry,I p.handler,.slice d1 p.data.length d2,.slice b1 p.banks.length b2] 29)).alloc (T #[.slice i1 inn.length i2,.slice q1 irq.length q2] 62)).alloc (T #[U 0,L,I 0,U 0,.string {data:=#[]},I 0,I 0] 57)) (w.heap.size+2) #[U 0,L,I 0,U 0,.string {data:=#[]},I 0,I 0] 57:=zI Zs;generalize i5:((w.alloc (T #[.slice f1 p.funcs.length f2,.slice (some ⟨ba,oa,none⟩) p.args.length a2,I p.entry,I p.handler,.slice d1 p.data.length d2,.slice b1 p.banks.length b2] 29)).alloc (T #[.slice i1 inn.length i2,.slice q1 irq.length q2] 62)).alloc (T #[U 0,L,I 0,U 0,.string {data:=#[]},I 0,I 0] 57)=W0 at *;have a3:=Ja f6;have t:=Ja (Jb l (Jb e7 e6));have p0:=K0 l;have p1:=K1 l;have p2:=K2 l;have p3:=K3 l;have p4:=K4 l;have p5:=K5 l;clear l e7 e6 f6 i5;go_upto_region 3 with(go_at_call 35;go_must (refine(HV.out _ a3.out).mono ?_;rintro e W1 ⟨rfl,m⟩;have q0:=(m.cell (p:=⟨w.heap.size,0,none⟩) (Jw W0 _ p0)).trans p0;have h0:=(m.cell (p:=⟨w.heap.size,1,none⟩) (Jw W0 _ p1)).trans p1;have cx:=zV (a3.out.trans (m.mono a3.out.size)) i0 f5))
 have y0:=zH m t.out.1 (lt_of_block t.out.1);have y1:=zH m t.out.2.1 (lt_of_block t.out.2.1);have y2:=zH m t.out.2.2 (lt_of_block t.out.2.2);have j2:=lt_of_block y2;have a0:=Ja (a3.out.trans (m.mono a3.out.size));have HY:=Ja y2
 have c9:∀w',O W1 w'->(A w' w.heap.size 0 (.slice f1 p.funcs.length f2)/\A w' w.heap.size 1 (.slice (some ⟨ba,oa,none⟩) p.args.length a2)/\A w' w.heap.size 2 (I p.entry)/\A w' w.heap.size 3 (I p.handler)/\A w' w.heap.size 4 (.slice d1 p.data.length d2)/\A w' w.heap.size 5 (.slice b1 p.banks.length b2)/\A w' (w.heap.size+1) 0 (.slice i1 inn.length i2)/\A w' (w.heap.size+1) 1 (.slice q1 irq.length q2)):=fun w' hb=>by
  have z0:=zH hb y0 Zo;have z1:=zH hb y1 Zo;exact⟨zA z0 Zs,zA z0 Zs,zA z0 Zs,zA z0 Zs,zA z0 Zs,zA z0 Zs,zA z1 Zs,zA z1 Zs⟩
 have g8:=Ja c9;clear q0 h0 p0 p1 p2 p3 p4 p5 a3 t m y0 y1 y2 c9 cx
 go_cut [13] from 41 to 47 (fun v wx=>∃rb pm b13:Nat,v=Y b13/\Hid (Q wx b13 #[Y pm] 208/\Q wx rb Z 5/\Q wx pm #[.slice f1 p.funcs.length f2,.slice (some ⟨ba,oa,none⟩) p.args.length a2,I p.entry,I p.handler,.slice d1 p.data.length d2,.slice b1 p.banks.length b2,F rb 8192 8192,.slice i1 inn.length i2,.slice q1 irq.length q2,I fuel,L,I 0,I 0] 210/\O W1 wx/\W1.heap.size<=rb/\W1.heap.size<=pm/\W1.heap.size<=b13))
 case first=>
  go_region_held3 (fun w'=>A w' w.heap.size 0 (.slice f1 p.funcs.length f2)/\A w' w.heap.size 1 (.slice (some ⟨ba,oa,none⟩) p.args.length a2)/\A w' w.heap.size 2 (I p.entry)/\A w' w.heap.size 3 (I p.handler)/\A w' w.heap.size 4 (.slice d1 p.data.length d2)/\A w' w.heap.size 5 (.slice b1 p.banks.length b2)/\A w' (w.heap.size+1) 0 (.slice i1 inn.length i2)/\A w' (w.heap.size+1) 1 (.slice q1 irq.length q2))
   ((refine g8.out _ ?_;repeat' (first|exact Below.refl _ _|refine Below.drew ?_|refine Below.alloc ?_ (by simp<;>omega) _|refine Below.setCell ?_ (by simp<;>omega) _)))
   (fail)
  all_goals go_wp2_with fail
  all_goals go_meet
  ·exact⟨W1.heap.size,W1.heap.size+1,W1.heap.size+1+1,rfl,(sf _ _ _ _).2.2.1,(sf _ _ _ _).1,(sf _ _ _ _).2.1,(sf _ _ _ _).2.2.2,by omega,by omega,by omega⟩
  ·exact⟨W1.heap.size,W1.heap.size+1+1,W1.heap.size+1,rfl,(sf _ _ _ _).2.1,(sf _ _ _ _).1,(sf _ _ _ _).2.2.1,(sf _ _ _ _).2.2.2,by omega,by omega,by omega⟩
  ·exact⟨W1.heap.size+1,W1.heap.size+1+1,W1.heap.size,rfl,(sf _ _ _ _).1,(sf _ _ _ _).2.1,(sf _ _ _ _).2.2.1,(sf _ _ _ _).2.2.2,by omega,by omega,by omega⟩
 case rest=>
  obtain⟨rb,pm,b13,rfl,h⟩:=hcut;have k1:=K0 h.out.1;have k2:=K6 h.out.2.2.1;have b6:Z.toList=List.replicate 8192 (Value.int .u8 0):=by rw[<-HZ.out];exact toList_madeCells_one _ _
  have e0:8192<=Z.size:=by have:=congrArg List.length b6;rw[Qr] at this;simp at this;omega
  have f4:=fun ty:TypeId=>tQ (P:=Tryz.prog) wc 49 9 ty 5 rb 8192 8192 s Z 5 Tryz.underlying49 Zk h.out.2.1 e0
  obtain⟨n,hn⟩:∃n,goInt (Nat.min s.size 8192)=n:=⟨_,rfl⟩
  have c0:(byteCells (s.data.toList.take (Nat.min s.size 8192))++Z.toList.drop (Nat.min s.size 8192)).toArray=((v7 s).map wz).toArray:=by
   rw[<-ram_init s,b6]
  rw[hn,c0] at f4;clear b6 e0 c0 hn;have b4:O W1 (wc.setRow rb ((v7 s).map wz).toArray):=py h.out.2.2.2.1 h.out.2.2.2.2.1 _;have e8:Q (wc.setRow rb ((v7 s).map wz).toArray) rb ((v7 s).map wz).toArray 5:=nZ h.out.2.1;have e9:(wc.setRow rb ((v7 s).map wz).toArray).heap[pm]? =_:=ss h.out.2.2.1 (by rintro rfl;have h1:=h.out.2.1;rw[h.out.2.2.1] at h1;simp at h1);have g0:(wc.setRow rb ((v7 s).map wz).toArray).heap[b13]? =_:=ss h.out.1 (by rintro rfl;have h1:=h.out.2.1;rw[h.out.1] at h1;simp at h1);go_upto_region 5 with fail;generalize i4:wc.setRow rb ((v7 s).map wz).toArray=W2 at *;have j1:∀(fn:Fn) (first cap:Array Value) (W:World),(Instr.makeFunc fn first cap).run Tryz.prog W=.ok (.func fn first cap) W:=fun _ _ _ _=>rfl
  obtain⟨K,hK⟩:∃K:MK,K=⟨⟨p,inn,irq⟩,⟨.slice f1 p.funcs.length f2,.slice (some ⟨ba,oa,none⟩) p.args.length a2,.slice d1 p.data.length d2,.slice b1 p.banks.length b2⟩,.slice i1 inn.length i2,.slice q1 irq.length q2,pm,rb,W1.heap.size⟩:=⟨_,rfl⟩
  have q:O w W2:=a0.out.trans (b4.mono a0.out.size)
  have f9:MachAt W2 K ⟨v7 s,fuel,[],0,0⟩ (L):=by
   subst hK;exact⟨e9,e8,iG s,bY s,Jv _ _ _ _,fun p hp=>by simp at hp,by have:=g4.out.2;show 0+fuel.toNat<=4000000;omega,g4.out.1,Jt _,Jt _,h.out.2.2.2.2.2.1,h.out.2.2.2.2.1,(HP.out.below q).mono a0.out.size,(g3.out.1.below zr q).mono zr a0.out.size,(g3.out.2.below xQ q).mono xQ a0.out.size⟩
  have e5:W2.heap[w.heap.size+2]? =_:=zH b4 HY.out (lt_of_block HY.out);have g1:=Ja f9;have j:=Ja (Jb g0 (Jb e5 (Jb b4 q)));clear i4 f9 e5 g0 e8 e9 b4 q f4 k1 k2 h;go_upto_region 6 with fail;have b7:=zI (W:=W2) (o:=T #[.func (.func 148) #[] #[Y b13,Y (w.heap.size+1+1)]] 211) rfl;have y:=(Below.refl W2.heap.size W2).alloc (Je _) (T #[.func (.func 148) #[] #[Y b13,Y (w.heap.size+1+1)]] 211);have f8:=g1.out.keep y;have a7:=zH y j.out.1 (lt_of_block j.out.1);have b8:=zH y j.out.2.1 (lt_of_block j.out.2.1);have c8:O w _:=j.out.2.2.2.trans (y.mono j.out.2.2.2.size);have d3:O W1 _:=j.out.2.2.1.trans (y.mono j.out.2.2.1.size);generalize i3:W2.alloc (T #[.func (.func 148) #[] #[Y b13,Y (w.heap.size+1+1)]] 211)=W3 at *;generalize W2.heap.size=b14 at *;have a6:K.E=⟨p,inn,irq⟩/\K.pm=pm/\K.B=W1.heap.size:=by rw[hK];exact⟨rfl,rfl,rfl⟩
  have i:=i6.out K W3 _ a6.1 f8;obtain⟨RES,a8⟩:∃R,xW K.E 100 (k:Int) args ⟨v7 s,fuel,[],0,0⟩=R:=⟨_,rfl⟩
  have b9:bQ ⟨p,inn,irq⟩ (k:Int) args s fuel=adO RES:=by rw[<-a8,a6.1];rfl
  rw[a8,a6.2.1] at i;have k0:=K0 a7;have d5:=Ja b9;have g2:=Ja a6;have H3:=Ja (Jb a7 (Jb b8 (Jb b7 (Jb c8 d3))));clear i3 f8 a7 b8 b7 y c8 d3 hK b9 a8 j g1 a6
  have b0:∀(w4:World) (ov4:Value) (m4:Mach),MachAt w4 K m4 ov4->Frm K.B W3 w4->
   Q w4 b13 #[Y K.pm] 208/\Q w4 (w.heap.size+1+1) #[U 0,L,I 0,U 0,.string {data:=#[]},I 0,I 0] 57/\A w4 b14 0 (.func (.func 148) #[] #[Y b13,Y (w.heap.size+1+1)])/\O w w4:=fun w4 ov4 m4 d g=>by
   refine⟨by rw[g2.out.2.1];exact g.kept _ _ H3.out.1 (by simp[sA]),g.kept _ _ H3.out.2.1 (by simp[sA]),zA (g.kept _ _ H3.out.2.2.1 (by simp[sA])) Zs,H3.out.2.2.2.1.trans (g.below.mono ?_)⟩;rw[g2.out.2.2];exact a0.out.size
  have b5:=Ja b0;clear b0
  cases RES with
  |ok x m4=>
   have a5:G 150 #[Y pm,I k,.slice v1 args.length v2,I 1] W3 fun e w'=>e=.returned (U x)/\(∃ov',MachAt w' K m4 ov')/\Frm K.B W3 w'/\x<65536:=i
   have d6:=Ja a5;clear i a5;go_upto_region 8 with(go_at_call 150;go_must (refine d6.out.mono ?_;rintro e w4 ⟨rfl,⟨ov4,d⟩,g,i9⟩))
   obtain⟨a9,u,d7,zb⟩:=b5.out w4 ov4 m4 d g;obtain⟨oa4,oc4,rfl⟩:=zG d.out
   have a4:G 148 #[.agg #[I 6,U 0],U x,Y b13,Y (w.heap.size+1+1)] w4 fun e w'=>
    e=.returned (.tuple #[])/\Q w' (w.heap.size+1+1) (yV x (.slice oa4 m4.out.length oc4) 6 0 (y9 m4.ram) m4.inputs m4.polls) 57/\w4.grownBy w' (some (w.heap.size+1+1)):=pE d a9 u 6 0 x
   have b3:w4.heap[b14]? =_:=g.kept _ _ H3.out.2.2.1 (by simp[sA]);have g6:=Ja a4;have d4:=Ja (Jb d (Jb u (Jb zb b3)));clear a4 a9 u zb d g b3;go_upto_region 9 with(go_at_call 148;go_must (refine g6.out.mono ?_;rintro e w5 ⟨rfl,c,h6⟩))
   have r0:A w5 (w.heap.size+1+1) 0 (U x):=zA c (by simp[yV]);have s0:N w5 (w.heap.size+1+1) 0:=zE c;have r1:A w5 (w.heap.size+1+1) 1 (.slice oa4 m4.out.length oc4):=zA c (by simp[yV]);have s1:N w5 (w.heap.size+1+1) 1:=zE c;have r2:A w5 (w.heap.size+1+1) 2 (I 6):=zA c (by simp[yV]);have s2:N w5 (w.heap.size+1+1) 2:=zE c;have r3:A w5 (w.heap.size+1+1) 3 (U 0):=zA c (by simp[yV]);have s3:N w5 (w.heap.size+1+1) 3:=zE c;have r4:A w5 (w.heap.size+1+1) 4 (.string (y9 m4.ram)):=zA c (by simp[yV]);have s4:N w5 (w.heap.size+1+1) 4:=zE c;have r5:A w5 (w.heap.size+1+1) 5 (I (m4.inputs:Int)):=zA c (by simp[yV]);have s5:N w5 (w.heap.size+1+1) 5:=zE c;have r6:A w5 (w.heap.size+1+1) 6 (I (m4.polls:Int)):=zA c (by simp[yV]);have s6:N w5 (w.heap.size+1+1) 6:=zE c;have hE:=ku d4.out.1 d4.out.2.1 Zo d4.out.2.2.1 (zu (zu (zu (zu (zu (zu (zu h6 0 (U x)) 1 (.slice oa4 m4.out.length oc4)) 2 (I 6)) 3 (U 0)) 4 (.string (y9 m4.ram))) 5 (I (m4.inputs:Int))) 6 (I (m4.polls:Int)))
   have c2:abr w (bQ ⟨p,inn,irq⟩ (k:Int) args s fuel) (.returned (.agg #[U x,.slice oa4 m4.out.length oc4,I 6,U 0,.string (y9 m4.ram),I (m4.inputs:Int),I (m4.polls:Int)])) (((((((w5.setCell ⟨w.heap.size+1+1,0,none⟩ (U x)).setCell ⟨w.heap.size+1+1,1,none⟩ (.slice oa4 m4.out.length oc4)).setCell ⟨w.heap.size+1+1,2,none⟩ (I 6)).setCell ⟨w.heap.size+1+1,3,none⟩ (U 0)).setCell ⟨w.heap.size+1+1,4,none⟩ (.string (y9 m4.ram))).setCell ⟨w.heap.size+1+1,5,none⟩ (I (m4.inputs:Int))).setCell ⟨w.heap.size+1+1,6,none⟩ (I (m4.polls:Int))):=by
    rw[d5.out];exact⟨_,rfl,hE.1,hE.2⟩
   have g5:=Ja c2;clear c2 hE;go_wp2;refine leaves_cons (f:=149) (args:=#[Y b14]) Zs (by simp[go_sem]) ?_;refine(rec_idle _ _).mono ?_;rintro e u' w6 ⟨rfl,rfl,rfl⟩;simp[Leaves,settle,results,Tryz.results143,go_sem,r0,r1,r2,r3,r4,r5,r6]
   exact g5.out
  |trap k2 i2 m4=>
   have a5:G 150 #[Y pm,I k,.slice v1 args.length v2,I 1] W3 fun e w'=>e=.panicked [oE k2 i2]/\(∃ov',MachAt w' K m4 ov')/\Frm K.B W3 w'/\True:=i
   have d6:=Ja a5;clear i a5;go_wp2_with (go_at_call 150;go_must (refine d6.out.mono ?_;rintro e w4 ⟨rfl,⟨ov4,d⟩,g,_⟩))
   obtain⟨a9,u,d7,zb⟩:=b5.out w4 ov4 m4 d g;have hd:=pi d a9 u d7 k2 i2 [];obtain⟨oa4,oc4,rfl⟩:=zG d.out;refine leaves_cons (f:=149) (args:=#[Y b14]) Zs (by simp[go_sem]) ?_;refine hd.mono ?_;rintro e u' w5 ⟨rfl,rfl,c,h6⟩;have hE:=ku d u Zo zb h6;have r0:A w5 (w.heap.size+1+1) 0 (U ((0:Nat):Int)):=zA c (by simp[yV]);have r1:A w5 (w.heap.size+1+1) 1 (.slice oa4 m4.out.length oc4):=zA c (by simp[yV]);have r2:A w5 (w.heap.size+1+1) 2 (I k2):=zA c (by simp[yV]);have r3:A w5 (w.heap.size+1+1) 3 (U i2):=zA c (by simp[yV]);have r4:A w5 (w.heap.size+1+1) 4 (.string (y9 m4.ram)):=zA c (by simp[yV]);have r5:A w5 (w.heap.size+1+1) 5 (I (m4.inputs:Int)):=zA c (by simp[yV]);have r6:A w5 (w.heap.size+1+1) 6 (I (m4.polls:Int)):=zA c (by simp[yV])
   have a4:abr w (bQ ⟨p,inn,irq⟩ (k:Int) args s fuel) (.returned (.agg #[U ((0:Nat):Int),.slice oa4 m4.out.length oc4,I k2,U i2,.string (y9 m4.ram),I (m4.inputs:Int),I (m4.polls:Int)])) w5:=by
    rw[d5.out];exact⟨_,rfl,hE.1,hE.2⟩
   simp[Leaves,settle,results,Tryz.results143,go_sem,r0,r1,r2,r3,r4,r5,r6];exact a4
theorem Tryz.info_def:(Tryz.prog.info? 168).map (fun i=>(i.zero,i.size,i.bytes))=some (some (.agg #[I 0,I 0]),2,16):=by kernel_rfl
theorem mk_defs (n:Nat)(j:n<=65536)(W:World):(Instr.makeSlice 136 (I n) (I n)).run Tryz.prog W=.ok (F W.heap.size n n) (W.alloc (T (eu (List.replicate n (0,0))).toArray 168)):=by
 obtain⟨i,hi,g,d,c⟩:=info_parts Tryz.info_def;have h:=run_make (P:=Tryz.prog) W 136 168 i (.agg #[I 0,I 0]) Tryz.underlying136 hi g .i64 .i64 n n Zo (Og _) (by rw[c];omega) Zo;rw[Ni,d] at h;rw[h];rw[show(Value.agg #[I 0,I 0]).cells=#[I 0,I 0] from rfl,aE]
def ab2 (n k:Nat):List (Int×Int):=List.replicate k (-1,0)++List.replicate (n-k) (0,0)
theorem cY{n:Nat}(h:k<n):(ab2 n k)[k]? =some (0,0):=by
 unfold ab2;rw[Nc Zs,Qr,Qy,Nm,if_pos Zo]
theorem aai{n:Nat}(h:k<n):(ab2 n k).set k (-1,0)=ab2 n (k+1):=by
 unfold ab2;rw[Uj _ _ Zs,Qr,Qy,show n-k=(n-(k+1))+1 by omega,Qz,Jf,show List.replicate (k+1) ((-1:Int),(0:Int))=List.replicate k (-1,0)++ [(-1,0)] from List.replicate_succ'];simp
theorem af{n:Nat}(h:k<=n):(ab2 n k).length=n:=by unfold ab2;simp;omega
def RetDefs (w:World)(blocks:List IBlk)(e:Ending)(w':World):Prop:=
 ∃(dv:Value) (ok:Bool) (xs:List (Int×Int)),e=.returned (.tuple #[dv,.bool ok])/\O w w'/\yN 2 DefR w' w'.heap.size dv xs/\((∃d,dD blocks 0 aaZ=some d/\ok=true/\dE xs blocks.length d)∨(dD blocks 0 aaZ=none/\ok=false))
structure DSt (w0 wx:World) (db n:Nat) (fb:Array Value) (xs:List (Int×Int)):Prop where
 row:bw wx db xs
 box:wx.heap[w0.heap.size]? =some (.cells fb 39 (0,0))
 bel:Below w0.heap.size w0 wx
 len:xs.length=n
 new:w0.heap.size<db
theorem DSt.alloc{n:Nat}{fb:Array Value}(h:DSt w0 wx db n fb xs)(o:Obj):DSt w0 (wx.alloc o) db n fb xs:=
 ⟨zB h.row,zB h.box,h.bel.alloc h.bel.size o,h.len,h.new⟩
theorem DSt.set2{n:Nat}{fb:Array Value}(h:DSt w0 wx db n fb xs){p:Int×Int}(hk:xs[k]? =some p)(b a:Int):DSt w0 ((wx.setCell ⟨db,k*2,none⟩ (I b)).setCell ⟨db,k*2+1,none⟩ (I a)) db n fb (xs.set k (b,a)):=by
 have c:w0.heap.size≠db:=by have:=h.new;omega
 exact⟨h.row.set2 hk b a,zR (zR h.box c) c,(h.bel.setCell (Qd h.new) _).setCell (Qd h.new) _,by rw[Nd];exact h.len,h.new⟩
theorem DSt.set1{n:Nat}{fb:Array Value}(h:DSt w0 wx db n fb xs){p:Int×Int}(hk:xs[k]? =some p)(b:Int):DSt w0 (wx.setCell ⟨db,k*2,none⟩ (I b)) db n fb (xs.set k (b,p.2)):=by
 have c:w0.heap.size≠db:=by have:=h.new;omega
 exact⟨h.row.set1 hk b,zR h.box c,h.bel.setCell (Qd h.new) _,by rw[Nd];exact h.len,h.new⟩
theorem dB(h:dE xs m d){v i k:Int}(g:v<=65535->v<xs.length)(c:v<0∨(xs.length:Int)<=v∨∃b a,xs[v.toNat]? =some (b,a)/\0<=b/\0<=v):rB d v i k=none:=by
 unfold rB;rw[if_pos];rcases c with h1|h1|⟨b,a,h1,h2,h3⟩
 ·exact .inr (.inl h1)
 ·exact .inr (.inr Zo)
 ·left;have:=(h.1 v.toNat b a h1).2 h2;rw[show((v.toNat:Nat):Int)=v by omega] at this;rw[this.1];rfl
theorem cH(h:dE xs m d)(c:xs.length<=65536){v:Nat}{b a:Int}(hv:xs[v]? =some (b,a))(hb:b<0)(i k:Int):rB d v i k=some (lS d.1 v i,lS d.2 v k):=by
 have hl:=(Jh.1 hv).1;unfold rB;rw[if_neg];rintro(h1|h1|h1)
 ·rw[(h.1 v b a hv).1 hb] at h1;cases h1
 ·omega
 ·omega
end Go.Proofs.YtoahcpkibpomcaaGreat
