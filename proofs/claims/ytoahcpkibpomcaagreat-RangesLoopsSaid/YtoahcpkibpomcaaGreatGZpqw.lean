/-
  Part of a proof.
-/
import Derived.Test.YtoahcpkibpomcaaGreatQCallw
set_option linter.all false
set_option maxHeartbeats 8000000
set_option maxRecDepth 100000
namespace Go.Proofs.YtoahcpkibpomcaaGreat
open Go.RowKit
abbrev cR:Array Value:=#[Y 0,L,U 0,Y 0,.string ⟨#[]⟩,U 0,U 0]
theorem quick_q {w:World}{V:PV}{p:IProg}(hp:ProgIn w w.heap.size V p)(f4:OkProg p)(hu:UseProg p)(f:Int)(hf:0<=f/\f.toNat<p.funcs.length){args:List Nat}{av:Value}(ha:wV w w.heap.size av args)(hl:(args.length:Int)=p.args.getD f.toNat 0)
 (s:ByteArray) (hs:s.size<=9223372036854775807) {inv irqv:Value} {inn irq:List Nat} (d5:wV w w.heap.size inv inn) (d4:dL w w.heap.size irqv irq) (fuel:Int) (f5:0<=fuel/\fuel<=4000000):
 G 20 #[yH V p,U f,av,.string s,.agg #[inv,irqv],U fuel] w (abr w (bQ ⟨p,inn,irq⟩ f args s fuel)):=by
 obtain⟨Vf,Va,Vd,Vb⟩:=V;obtain⟨f1,f2,e1,_,_⟩:=hp.funcs.form;obtain⟨a1,a2,e2,_,_⟩:=hp.args.form;obtain⟨d1,d2,e3,_,_⟩:=hp.data.form;obtain⟨b1,b2,e4,_,_⟩:=hp.banks.form;obtain⟨v1,v2,rfl,_,_⟩:=ha.form;obtain⟨i1,i2,rfl,_,_⟩:=d5.form;obtain⟨q1,q2,rfl,_,_⟩:=d4.form;simp only at e1 e2 e3 e4;subst e1 e2 e3 e4;unfold yH;simp only;have HP:=Ja hp;have HA:=Ja (Jb ha hl);have e9:=Ja (Jb d5 d4);have c2:=Ja f5;have e7:=Ja (Jb f4 hu);have HF:=Ja hf;clear hp ha hl d5 d4 f5 f4 hu hf;have f7:N w (((w.alloc (I (P p f1 f2 a1 a2 d1 d2 b1 b2) 29)).alloc (I #[.slice i1 inn.length i2,.slice q1 irq.length q2] 62)).alloc (I cR 57)):=(((Below.refl _ _).alloc (Je _) _).alloc Zs _).alloc Zt _;have d0:=zB (o:=I cR 57) (zB (o:=I #[.slice i1 inn.length i2,.slice q1 irq.length q2] 62) (zI (W:=w) (o:=I (P p f1 f2 a1 a2 d1 d2 b1 b2) 29) rfl));have b9:=zB (o:=I cR 57) (zI (W:=w.alloc (I (P p f1 f2 a1 a2 d1 d2 b1 b2) 29)) (o:=I #[.slice i1 inn.length i2,.slice q1 irq.length q2] 62) rfl);have b8:=zI (W:=(w.alloc (I (P p f1 f2 a1 a2 d1 d2 b1 b2) 29)).alloc (I #[.slice i1 inn.length i2,.slice q1 irq.length q2] 62)) (o:=I cR 57) rfl;go_enter Tryz.func20,Tryz.ntmps20;go_upto_region 1 with fail;have d3:(w.alloc (I (P p f1 f2 a1 a2 d1 d2 b1 b2) 29)).heap.size=w.heap.size+1:=by simp
 have f0:((w.alloc (I (P p f1 f2 a1 a2 d1 d2 b1 b2) 29)).alloc (I #[.slice i1 inn.length i2,.slice q1 irq.length q2] 62)).heap.size=w.heap.size+1+1:=by simp
 rw[d3] at b9;rw[f0] at b8;generalize ((w.alloc (I (P p f1 f2 a1 a2 d1 d2 b1 b2) 29)).alloc (I #[.slice i1 inn.length i2,.slice q1 irq.length q2] 62)).alloc (I cR 57)=W1 at *
 have f8:=Ja (show ∀W:World,N W1 W->A W w.heap.size 0 (.slice f1 p.funcs.length f2)/\A W w.heap.size 1 (.slice a1 p.args.length a2)/\A W w.heap.size 2 (U p.entry)/\A W w.heap.size 3 (U p.handler)/\A W w.heap.size 4 (.slice d1 p.data.length d2)/\A W w.heap.size 5 (.slice b1 p.banks.length b2)/\A W (w.heap.size+1) 0 (.slice i1 inn.length i2)/\A W (w.heap.size+1) 1 (.slice q1 irq.length q2) from fun W hb=>by
  have h0:=zH hb d0 (lt_of_block d0);have h1:=zH hb b9 (lt_of_block b9)
  exact⟨zA h0 Zs,zA h0 Zs,zA h0 Zs,zA h0 Zs,zA h0 Zs,zA h0 Zs,zA h1 Zs,zA h1 Zs⟩)
 have e0:=Ja (Jb b8 (lt_of_block b8));have c4:=Ja f7;have g1:=lt_of_block b9;have g0:=Ja (fun W=>ram_q W s hs);clear d3 f0 d0 b9 b8 f7 hs
 go_cut [13] (fun pv wx=>∃pm rb:Nat,pv=Q pm/\Hid (O wx pm #[.slice f1 p.funcs.length f2,.slice a1 p.args.length a2,U p.entry,U p.handler,.slice d1 p.data.length d2,.slice b1 p.banks.length b2,F rb 8192 8192,.slice i1 inn.length i2,.slice q1 irq.length q2,U fuel,.bool false,U 0,Y 0,L,U 0,Y 0,.string ⟨#[]⟩,U 0,U 0] 114/\O wx rb ((v7 s).map ly).toArray 5/\N W1 wx/\W1.heap.size<=pm/\W1.heap.size<=rb))
 case first=>
  go_region_held3 (fun w'=>A w' w.heap.size 0 (.slice f1 p.funcs.length f2)/\A w' w.heap.size 1 (.slice a1 p.args.length a2)/\A w' w.heap.size 2 (U p.entry)/\A w' w.heap.size 3 (U p.handler)/\A w' w.heap.size 4 (.slice d1 p.data.length d2)/\A w' w.heap.size 5 (.slice b1 p.banks.length b2)/\A w' (w.heap.size+1) 0 (.slice i1 inn.length i2)/\A w' (w.heap.size+1) 1 (.slice q1 irq.length q2))
   ((refine f8.out _ ?_;repeat' (first|with_reducible exact Below.refl _ _|with_reducible assumption|with_reducible refine Below.drew ?_|with_reducible refine Below.alloc ?_ Zn _|with_reducible refine Below.setCell ?_ Zn _)))
   (first
     |(go_at_call 46
       refine(g0.out _).mono ?_;rintro e y1 ⟨rb,rfl,f3,g2,f6⟩;have c8:N W1 y1:=Below.trans (by repeat' (first|with_reducible exact Below.refl _ _|with_reducible assumption|with_reducible refine Below.drew ?_|with_reducible refine Below.alloc ?_ Zn _|with_reducible refine Below.setCell ?_ Zn _)) (f6.mono Zn);have d3:=c8.size;have f9:W1.heap.size<=rb:=by first|exact f3|(simp at f3;omega)
       clear f6))
  all_goals go_wp2_with fail
  all_goals go_meet
  all_goals exact⟨y1.heap.size,rb,rfl,Ja ⟨zI rfl,zB g2,c8.alloc c8.size _,c8.size,f9⟩⟩
 case rest=>
  obtain⟨pm,rb,rfl,HM⟩:=hcut;have b4:=c4.out.trans (HM.out.2.2.1.mono c4.out.size);obtain⟨K,hK⟩:∃K:MK,K=⟨⟨p,inn,irq⟩,⟨.slice f1 p.funcs.length f2,.slice a1 p.args.length a2,.slice d1 p.data.length d2,.slice b1 p.banks.length b2⟩,.slice i1 inn.length i2,.slice q1 irq.length q2,pm,rb,w.heap.size⟩:=⟨_,rfl⟩
  have hm:MachQ wc K ⟨v7 s,fuel,[],0,0⟩ none 0 (L):=by
   subst hK;have hB:=c4.out.size;exact⟨HM.out.1,HM.out.2.1,iG s,bY s,Jv _ _ _ _,(fun q hq=>by cases hq),by show 0+fuel.toNat<=4000000;have:=c2.out;omega,⟨by have:=c2.out;show -1<=fuel;omega,c2.out.2,fun _=>c2.out.1⟩,Jt _,Jt _,by have:=HM.out.2.2.2.1;show w.heap.size<=pm;omega,by have:=HM.out.2.2.2.2;show w.heap.size<=rb;omega,HP.out.below b4,e9.out.1.below zr b4,e9.out.2.below xQ b4⟩
  have b6:K.E=⟨p,inn,irq⟩:=by rw[hK]
  have c7:K.pm=pm:=by rw[hK]
  have a4:=cN K (by rw[b6];exact e7.out.1) (by rw[b6];exact e7.out.2) 100 (Je _) wc _ _ _ (.slice v1 args.length v2) f args hm HF.out.1 (by rw[b6];exact HF.out.2) ((HA.out.1.below zr b4).mono zr b4.size) (by rw[b6];exact HA.out.2) (fun b o n c e hn=>by
   cases e;obtain⟨x,xs,rfl⟩:∃x xs,args=x::xs:=by cases args with|nil=>exact absurd rfl hn|cons x xs=>exact⟨x,xs,rfl⟩
   obtain⟨b',o',e',h8,_⟩:=HA.out.1.get (k:=0) (x:=x) rfl;cases e';have:=HM.out.2.2.2.1;have:=c4.out.size;rw[c7]
   omega)
  rw[c7,show(101-((100:Nat):Int))=1 from rfl] at a4;have c5:bQ ⟨p,inn,irq⟩ f args s fuel=adO (xW K.E 100 f args ⟨v7 s,fuel,[],0,0⟩):=by rw[b6];rfl
  obtain⟨R,hR⟩:∃R,xW K.E 100 f args ⟨v7 s,fuel,[],0,0⟩=R:=⟨_,rfl⟩
  rw[hR] at a4 c5;have e5:=Ja c5;have c9:=zH HM.out.2.2.1 e0.out.1 e0.out.2;have HZ:=Ja (Jb c9 (Jb b4 hm));have d7:K.B=w.heap.size/\K.rb=rb:=by rw[hK];exact⟨rfl,rfl⟩
  have d:=Ja (Jb c7 (Jb d7.1 (Jb d7.2 (Jb HM.out.2.2.2.1 c4.out.size))));clear hm c5 c9 b4 d7 b6 HP HA e9 c2 e7 HF hR HM e0 f8 g1 hK
  cases R with
  |ok x m'=>
   have HC:=Ja a4;clear a4;go_upto_region 3 with(go_at_call 47;go_must (refine HC.out.mono ?_;rintro e w2 ⟨he,⟨h5,ov2,g⟩,b3,b8⟩;obtain rfl:e=.returned (Y x):=he))
   obtain⟨oa,oc,rfl⟩:=zG g.out;have c10:A w2 pm 10 (.bool false):=by rw[<-d.out.1];exact g.c10
   have c12:A w2 pm 12 (Y 0):=by rw[<-d.out.1];exact g.cell rfl
   have h7:A w2 pm 14 (U 0):=by rw[<-d.out.1];exact g.cell rfl
   have h6:A w2 pm 15 (Y 0):=by rw[<-d.out.1];exact g.cell rfl
   have cf:∀i,D w2 pm i:=fun i=>by rw[<-d.out.1];exact g.free i
   have cl:pm<w2.heap.size:=by rw[<-d.out.1];exact g.lt
   have t:=b3.kept _ _ HZ.out.1 (by simp[di]);have b5:=b3.below;rw[d.out.2.1] at b5;have a0:=g.blk;rw[d.out.1] at a0;have a5:=zC g.out g.blk (.inr Zd);have b0:=zC g.out t (.inr Zd);have y:w.heap.size+1+1≠pm:=by rintro rfl;rw[t] at a0;simp at a0
   have a3:=g.ne;have a6:=g.ram;rw[d.out.1] at a5 a3;rw[d.out.2.2.1] at a3 a6;have a8:=g.out;rw[d.out.2.1] at a8;have z1:=zD (i:=14) a0 (U 6);have z2:=zD (i:=15) z1 (Y 0);have z3:=zD (i:=12) z2 (Y x);have c3:=Ja (Jb z3 (Jb (zR (a:=⟨pm,12,none⟩) (u:=Y x) (zR (a:=⟨pm,15,none⟩) (u:=Y 0) (zR (a:=⟨pm,14,none⟩) (u:=U 6) a6 a3) a3) a3) (Jb g.rlen (Jb (ownsRow_setCell_other (a:=⟨pm,12,none⟩) (ownsRow_setCell_other (a:=⟨pm,15,none⟩) (ownsRow_setCell_other (a:=⟨pm,14,none⟩) a8 (fun e=>a5 (by simpa using e)) (U 6)) (fun e=>a5 (by simpa using e)) (Y 0)) (fun e=>a5 (by simpa using e)) (Y x)) (Jb (zR (a:=⟨pm,12,none⟩) (u:=Y x) (zR (a:=⟨pm,15,none⟩) (u:=Y 0) (zR (a:=⟨pm,14,none⟩) (u:=U 6) t y) y) y) (Jb y (Jb a5 (Jb (Jb b0 g.olt) ((((HZ.out.2.1.trans b5).setCell (p:=⟨pm,14,none⟩) (Jn d.out.2.2.2.2 d.out.2.2.2.1) (U 6)).setCell (p:=⟨pm,15,none⟩) (Jn d.out.2.2.2.2 d.out.2.2.2.1) (Y 0)).setCell (p:=⟨pm,12,none⟩) (Jn d.out.2.2.2.2 d.out.2.2.2.1) (Y x))))))))));clear g b3 t b5 a0 a5 b0 y a3 a6 a8 z1 z2 z3;go_upto_region 6 with fail;generalize d6:((w2.setCell ⟨pm,14,none⟩ (U 6)).setCell ⟨pm,15,none⟩ (Y 0)).setCell ⟨pm,12,none⟩ (Y x)=W6 at *;have l:=c3;clear c3 d6 c10 c12 h7 h6 cf cl;have e6:A W6 pm 6 (F rb 8192 8192):=zA l.out.1 (by simp[ep,d.out.2.2.1]);have d9:A W6 pm 16 (.string ⟨#[]⟩):=zA l.out.1 (by simp[ep,d.out.2.2.1]);have d8:∀i,D W6 pm i:=fun i=>zE l.out.1
   have l6:=lt_of_block l.out.1;have b7:=mp l.out.2.1 l.out.2.2.1;go_upto_region 7 with fail;have j:=zD (i:=16) l.out.1 (.string (y9 m'.ram));have h:=zR (a:=⟨pm,16,none⟩) (u:=.string (y9 m'.ram)) l.out.2.2.2.2.1 l.out.2.2.2.2.2.1;have c0:=ownsRow_setCell_other (a:=⟨pm,16,none⟩) l.out.2.2.2.1 (fun e=>l.out.2.2.2.2.2.2.1 (by simpa using e)) (.string (y9 m'.ram));have c1:=l.out.2.2.2.2.2.2.2.2.setCell (p:=⟨pm,16,none⟩) (Jn d.out.2.2.2.2 d.out.2.2.2.1) (.string (y9 m'.ram));generalize W6.setCell ⟨pm,16,none⟩ (.string (y9 m'.ram))=W7 at *;have h4:A W7 pm 12 (Y x):=zA j (by simp[ep,trK,trI]);have g9:A W7 pm 13 (.slice oa m'.out.length oc):=zA j (by simp[ep,trK,trI]);have g8:A W7 pm 14 (U (6)):=zA j (by simp[ep,trK,trI]);have g6:A W7 pm 15 (Y (0)):=zA j (by simp[ep,trK,trI]);have g5:A W7 pm 16 (.string (y9 m'.ram)):=zA j (by simp[ep,trK,trI]);have g4:A W7 pm 17 (U (m'.inputs:Int)):=zA j (by simp[ep,trK,trI]);have g3:A W7 pm 18 (U (m'.polls:Int)):=zA j (by simp[ep,trK,trI]);have gl:=lt_of_block j;have x0:=zA (i:=0) h rfl;have x1:=zA (i:=1) h rfl;have x2:=zA (i:=2) h rfl;have x3:=zA (i:=3) h rfl;have x4:=zA (i:=4) h rfl;have x5:=zA (i:=5) h rfl;have x6:=zA (i:=6) h rfl;have xf:∀i,D W7 (w.heap.size+1+1) i:=fun i=>zE h
   have xl:=lt_of_block h;have m:=Ja (Jb c0 (Jb c1 l.out.2.2.2.2.2.2.2.1));clear e6 d9 d8 l6 b7 j h c0 c1;go_wp2;refine bodyPost_ret (v:=.agg #[Y x,.slice oa m'.out.length oc,U (6),Y (0),.string (y9 m'.ram),U (m'.inputs:Int),U (m'.polls:Int)]) ?_ rfl ?_
   ·rw[zM rfl];go_simp
   ·rw[e5.out]
    exact⟨.slice oa m'.out.length oc,rfl,kP (ownsRow_setCell_other (a:=⟨w.heap.size+1+1,6,none⟩) (ownsRow_setCell_other (a:=⟨w.heap.size+1+1,5,none⟩) (ownsRow_setCell_other (a:=⟨w.heap.size+1+1,4,none⟩) (ownsRow_setCell_other (a:=⟨w.heap.size+1+1,3,none⟩) (ownsRow_setCell_other (a:=⟨w.heap.size+1+1,2,none⟩) (ownsRow_setCell_other (a:=⟨w.heap.size+1+1,1,none⟩) (ownsRow_setCell_other (a:=⟨w.heap.size+1+1,0,none⟩) m.out.1 (fun e=>m.out.2.2.1 (by simpa using e)) (Y x)) (fun e=>m.out.2.2.1 (by simpa using e)) (.slice oa m'.out.length oc)) (fun e=>m.out.2.2.1 (by simpa using e)) (U (6))) (fun e=>m.out.2.2.1 (by simpa using e)) (Y (0))) (fun e=>m.out.2.2.1 (by simpa using e)) (.string (y9 m'.ram))) (fun e=>m.out.2.2.1 (by simpa using e)) (U (m'.inputs:Int))) (fun e=>m.out.2.2.1 (by simpa using e)) (U (m'.polls:Int))) m.out.2.2.2,(((((((m.out.2.1.setCell (p:=⟨w.heap.size+1+1,0,none⟩) (show w.heap.size<=w.heap.size+1+1 by omega) (Y x)).setCell (p:=⟨w.heap.size+1+1,1,none⟩) (show w.heap.size<=w.heap.size+1+1 by omega) (.slice oa m'.out.length oc)).setCell (p:=⟨w.heap.size+1+1,2,none⟩) (show w.heap.size<=w.heap.size+1+1 by omega) (U (6))).setCell (p:=⟨w.heap.size+1+1,3,none⟩) (show w.heap.size<=w.heap.size+1+1 by omega) (Y (0))).setCell (p:=⟨w.heap.size+1+1,4,none⟩) (show w.heap.size<=w.heap.size+1+1 by omega) (.string (y9 m'.ram))).setCell (p:=⟨w.heap.size+1+1,5,none⟩) (show w.heap.size<=w.heap.size+1+1 by omega) (U (m'.inputs:Int))).setCell (p:=⟨w.heap.size+1+1,6,none⟩) (show w.heap.size<=w.heap.size+1+1 by omega) (U (m'.polls:Int)))⟩
  |trap k i m'=>
   have HC:=Ja a4;clear a4;go_upto_region 3 with(go_at_call 47;go_must (refine HC.out.mono ?_;rintro e w2 ⟨he,⟨h5,ov2,h9,g⟩,b3⟩;obtain rfl:e=.returned (Y 0):=he))
   obtain⟨oa,oc,rfl⟩:=zG g.out;have c10:A w2 pm 10 (.bool true):=by rw[<-d.out.1];exact g.c10
   have cl:pm<w2.heap.size:=by rw[<-d.out.1];exact g.lt
   have t:=b3.kept _ _ HZ.out.1 (by simp[di]);have b5:=b3.below;rw[d.out.2.1] at b5;have a0:=g.blk;rw[d.out.1] at a0;have a5:=zC g.out g.blk (.inr Zd);have b0:=zC g.out t (.inr Zd);have y:w.heap.size+1+1≠pm:=by rintro rfl;rw[t] at a0;simp at a0
   have a6:=g.ram;rw[d.out.1] at a5;rw[d.out.2.2.1] at a6;have a8:=g.out;rw[d.out.2.1] at a8;have c3:=Ja (Jb a0 (Jb a6 (Jb g.rlen (Jb a8 (Jb t (Jb y (Jb a5 (Jb (Jb b0 g.olt) (HZ.out.2.1.trans b5)))))))));clear g b3 t b5 a0 a5 b0 y a6 a8;go_upto_region 6 with fail;generalize d6:w2=W6 at *;have l:=c3;clear c3 d6 c10 cl;have e6:A W6 pm 6 (F rb 8192 8192):=zA l.out.1 (by simp[ep,d.out.2.2.1]);have d9:A W6 pm 16 (.string ⟨#[]⟩):=zA l.out.1 (by simp[ep,d.out.2.2.1]);have d8:∀i,D W6 pm i:=fun i=>zE l.out.1
   have l6:=lt_of_block l.out.1;have b7:=mp l.out.2.1 l.out.2.2.1;go_upto_region 7 with fail;have j:=zD (i:=16) l.out.1 (.string (y9 m'.ram));have h:=zR (a:=⟨pm,16,none⟩) (u:=.string (y9 m'.ram)) l.out.2.2.2.2.1 l.out.2.2.2.2.2.1;have c0:=ownsRow_setCell_other (a:=⟨pm,16,none⟩) l.out.2.2.2.1 (fun e=>l.out.2.2.2.2.2.2.1 (by simpa using e)) (.string (y9 m'.ram));have c1:=l.out.2.2.2.2.2.2.2.2.setCell (p:=⟨pm,16,none⟩) (Jn d.out.2.2.2.2 d.out.2.2.2.1) (.string (y9 m'.ram));generalize W6.setCell ⟨pm,16,none⟩ (.string (y9 m'.ram))=W7 at *;have h4:A W7 pm 12 (Y (0)):=zA j (by simp[ep,trK,trI]);have g9:A W7 pm 13 (.slice oa m'.out.length oc):=zA j (by simp[ep,trK,trI]);have g8:A W7 pm 14 (U k):=zA j (by simp[ep,trK,trI]);have g6:A W7 pm 15 (Y i):=zA j (by simp[ep,trK,trI]);have g5:A W7 pm 16 (.string (y9 m'.ram)):=zA j (by simp[ep,trK,trI]);have g4:A W7 pm 17 (U (m'.inputs:Int)):=zA j (by simp[ep,trK,trI]);have g3:A W7 pm 18 (U (m'.polls:Int)):=zA j (by simp[ep,trK,trI]);have gl:=lt_of_block j;have x0:=zA (i:=0) h rfl;have x1:=zA (i:=1) h rfl;have x2:=zA (i:=2) h rfl;have x3:=zA (i:=3) h rfl;have x4:=zA (i:=4) h rfl;have x5:=zA (i:=5) h rfl;have x6:=zA (i:=6) h rfl;have xf:∀i,D W7 (w.heap.size+1+1) i:=fun i=>zE h
   have xl:=lt_of_block h;have m:=Ja (Jb c0 (Jb c1 l.out.2.2.2.2.2.2.2.1));clear e6 d9 d8 l6 b7 j h c0 c1;go_wp2;refine bodyPost_ret (v:=.agg #[Y (0),.slice oa m'.out.length oc,U k,Y i,.string (y9 m'.ram),U (m'.inputs:Int),U (m'.polls:Int)]) ?_ rfl ?_
   ·rw[zM rfl];go_simp
   ·rw[e5.out];exact⟨.slice oa m'.out.length oc,rfl,kP (ownsRow_setCell_other (a:=⟨w.heap.size+1+1,6,none⟩) (ownsRow_setCell_other (a:=⟨w.heap.size+1+1,5,none⟩) (ownsRow_setCell_other (a:=⟨w.heap.size+1+1,4,none⟩) (ownsRow_setCell_other (a:=⟨w.heap.size+1+1,3,none⟩) (ownsRow_setCell_other (a:=⟨w.heap.size+1+1,2,none⟩) (ownsRow_setCell_other (a:=⟨w.heap.size+1+1,1,none⟩) (ownsRow_setCell_other (a:=⟨w.heap.size+1+1,0,none⟩) m.out.1 (fun e=>m.out.2.2.1 (by simpa using e)) (Y (0))) (fun e=>m.out.2.2.1 (by simpa using e)) (.slice oa m'.out.length oc)) (fun e=>m.out.2.2.1 (by simpa using e)) (U k)) (fun e=>m.out.2.2.1 (by simpa using e)) (Y i)) (fun e=>m.out.2.2.1 (by simpa using e)) (.string (y9 m'.ram))) (fun e=>m.out.2.2.1 (by simpa using e)) (U (m'.inputs:Int))) (fun e=>m.out.2.2.1 (by simpa using e)) (U (m'.polls:Int))) m.out.2.2.2,(((((((m.out.2.1.setCell (p:=⟨w.heap.size+1+1,0,none⟩) (show w.heap.size<=w.heap.size+1+1 by omega) (Y (0))).setCell (p:=⟨w.heap.size+1+1,1,none⟩) (show w.heap.size<=w.heap.size+1+1 by omega) (.slice oa m'.out.length oc)).setCell (p:=⟨w.heap.size+1+1,2,none⟩) (show w.heap.size<=w.heap.size+1+1 by omega) (U k)).setCell (p:=⟨w.heap.size+1+1,3,none⟩) (show w.heap.size<=w.heap.size+1+1 by omega) (Y i)).setCell (p:=⟨w.heap.size+1+1,4,none⟩) (show w.heap.size<=w.heap.size+1+1 by omega) (.string (y9 m'.ram))).setCell (p:=⟨w.heap.size+1+1,5,none⟩) (show w.heap.size<=w.heap.size+1+1 by omega) (U (m'.inputs:Int))).setCell (p:=⟨w.heap.size+1+1,6,none⟩) (show w.heap.size<=w.heap.size+1+1 by omega) (U (m'.polls:Int)))⟩
theorem lp_prog {W:World}{s m y:Nat}{c:Int}(hc:agi c)(hm:m<65536)(hy:y<65536)
 (b0:O W s ((([⟨1,0,0,0,m,[]⟩,⟨1,1,0,0,y,[]⟩,⟨1,2,0,0,1,[]⟩]:List IOp).map agQ).flatMap zU).toArray 76)
 (b1:O W (s+1) #[U 0,U 1] 3)
 (b2:O W (s+1+1) #[U 1,F (s+1) 2 2] 79)
 (b3:O W (s+1+1+1) #[U 3,U 4] 3)
 (b4:O W (s+1+1+1+1) #[U 2,L,U 3,L] 79)
 (b5:O W (s+1+1+1+1+1) ((([⟨6,5,3,2,0,[]⟩,⟨c,6,4,1,0,[]⟩]:List IOp).map agQ).flatMap zU).toArray 76)
 (b6:O W (s+1+1+1+1+1+1) #[U 5,U 6] 3)
 (b7:O W (s+1+1+1+1+1+1+1) #[U 1,F (s+1+1+1+1+1+1) 2 2] 79)
 (b8:O W (s+1+1+1+1+1+1+1+1) #[L,F s 3 3,U 1,U 0,F (s+1+1) 1 1,F (s+1+1+1) 2 2,L,U 2,U 3,F (s+1+1+1+1) 2 2,L,F (s+1+1+1+1+1) 2 2,U 1,U 0,F (s+1+1+1+1+1+1+1) 1 1,L,L,U 4,U 4,L] 84)
 {z:Nat} (t:O W z #[F (s+1+1+1+1+1+1+1+1) 4 4] 39)
 {z2:Nat} (j:O W z2 #[U 0] 3):
 ProgIn W W.heap.size ⟨F z 1 1,F z2 1 1,L,L⟩ (aeF m y c):=by
 have hz:=lt_of_block b8;have x:=lt_of_block t;have w:=lt_of_block j;have d:∀k:Int,-10<=k->k<=20->I64 k:=fun k h1 h2=>⟨by omega,by omega⟩
 have i:∀ {b:Nat} {u v:Int},b<W.heap.size->-10<=u->u<=20->-10<=v->v<=20->O W b #[U u,U v] 3->zY W W.heap.size (F b 2 2) [u,v]:=fun hb h1 h2 h3 h4 h=>yN.two hb ⟨zA h rfl,d _ h1 h2⟩ ⟨zA h rfl,d _ h3 h4⟩
 have g:∀(k r a b:Int) (n:Nat),(-10<=k/\k<=20)->(-10<=r/\r<=20)->(-10<=a/\a<=20)->(-10<=b/\b<=20)->n<65536->qN ⟨k,r,a,b,n,[]⟩/\(⟨k,r,a,b,n,[]⟩:IOp).args=[]:=fun k r a b n h1 h2 h3 h4 h5=>⟨⟨d k h1.1 h1.2,d r h2.1 h2.2,d a h3.1 h3.2,d b h4.1 h4.2,h5⟩,rfl⟩
 have a0:-10<=c/\c<=20:=by unfold agi at hc;omega
 refine⟨yN.one x ⟨_,zA t rfl,?_⟩,yN.one w ⟨zA j rfl,d 0 Zd Zd⟩,yN.nil,yN.nil,pZ,ajo⟩
 have hB:=blks_lit (l:=[⟨⟨[],[⟨1,0,0,0,m,[]⟩,⟨1,1,0,0,y,[]⟩,⟨1,2,0,0,1,[]⟩],⟨1,0,[⟨1,[0,1]⟩]⟩⟩,L,F s 3 3,F (s+1+1) 1 1⟩,
  ⟨⟨[3,4],[],⟨2,3,[⟨2,[]⟩,⟨3,[]⟩]⟩⟩,F (s+1+1+1) 2 2,L,F (s+1+1+1+1) 2 2⟩,
  ⟨⟨[],[⟨6,5,3,2,0,[]⟩,⟨c,6,4,1,0,[]⟩],⟨1,0,[⟨1,[5,6]⟩]⟩⟩,L,F (s+1+1+1+1+1) 2 2,F (s+1+1+1+1+1+1+1) 1 1⟩,
  ⟨⟨[],[],⟨4,4,[]⟩⟩,L,L,L⟩]) b8 hz (fun q hq=>?_) (by show 4<=1000000;decide)
 ·exact hB
 simp only[Jq,List.not_mem_nil,or_false] at hq;rcases hq with rfl|rfl|rfl|rfl
 ·refine⟨⟨d 1 Zd Zd,d 0 Zd Zd⟩,yN.nil,ahI b0 Zo (fun o ho=>?_) rfl (by show 3<=1000000;decide),af0 (l:=[(⟨1,[0,1]⟩,F (s+1) 2 2)]) b2 Zo (fun q hq=>?_) (by show 1<=1000000;decide)⟩
  ·simp only[Jq,List.not_mem_nil,or_false] at ho;rcases ho with rfl|rfl|rfl
   ·exact g _ _ _ _ _ Zd Zd Zd Zd hm
   ·exact g _ _ _ _ _ Zd Zd Zd Zd hy
   ·exact g _ _ _ _ _ Zd Zd Zd Zd Zd
  ·rw[Jo.1 hq];exact⟨d 1 Zd Zd,i Zo Zd Zd Zd Zd b1⟩
 ·refine⟨⟨d 2 Zd Zd,d 3 Zd Zd⟩,i Zo Zd Zd Zd Zd b3,yN.nil,af0 (l:=[(⟨2,[]⟩,L),(⟨3,[]⟩,L)]) b4 Zo (fun q hq=>?_) Zd⟩;simp only[Jq,List.not_mem_nil,or_false] at hq;rcases hq with rfl|rfl
  ·exact⟨d 2 Zd Zd,yN.nil⟩
  ·exact⟨d 3 Zd Zd,yN.nil⟩
 ·refine⟨⟨d 1 Zd Zd,d 0 Zd Zd⟩,yN.nil,ahI b5 Zo (fun o ho=>?_) rfl (by show 2<=1000000;decide),af0 (l:=[(⟨1,[5,6]⟩,F (s+1+1+1+1+1+1) 2 2)]) b7 Zo (fun q hq=>?_) (by show 1<=1000000;decide)⟩
  ·simp only[Jq,List.not_mem_nil,or_false] at ho;rcases ho with rfl|rfl
   ·exact g _ _ _ _ _ Zd Zd Zd Zd Zd
   ·exact g _ _ _ _ _ a0 Zd Zd Zd Zd
  ·rw[Jo.1 hq];exact⟨d 1 Zd Zd,i Zo Zd Zd Zd Zd b6⟩
 ·exact⟨⟨d 4 Zd Zd,d 4 Zd Zd⟩,yN.nil,yN.nil,yN.nil⟩
theorem rgs_rowq {w w':World}{ra:Option Addr}{R:List Rg}(h:R≠ []->∃b,ra=some ⟨b,0,none⟩/\O w' b (R.flatMap ro).toArray 45/\w.heap.size<=b):ajt w' ra R:=fun h0=>by
 obtain⟨b,e,h1,_⟩:=h h0;exact⟨b,e,h1⟩
theorem ajh (w:World)(n0 op y:Nat)(h0:n0<65536)(h1:op<256)(hy:y<65536):
 G 9 #[Y n0,.int .u8 (op:Int),Y y] w fun e w'=>e=.returned (.bool true)/\N w w':=by
 go_enter Tryz.func9,Tryz.ntmps9;go_upto_region 2 with(go_at_call 11;go_must (refine(ah7 _).mono ?_;rintro e w1 ⟨rfl,c7⟩))
 have H1:=Ja c7;clear c7;obtain⟨m,hm,c4⟩:∃m:Nat,(n0:Int)%300=(m:Int)/\m<300:=⟨n0%300,by omega,Qj _ Zd⟩
 obtain⟨r,hr,d4⟩:∃r:Nat,(op:Int)%13=(r:Int)/\r<13:=⟨op%13,by omega,Qj _ Zd⟩
 have HR:=Ja d4;obtain⟨t,ht⟩:∃t,((5:Int)+(r:Int)==8)=t:=⟨_,rfl⟩
 have HT:=Ja ht
 go_upto_if 19 with fail
 go_cut [8] (fun v wx=>∃c:Int,v=U c/\agi c/\Hid (N w wx))
 case first=>
  cases t
  ·go_wp2;go_meet;refine⟨5+(r:Int),rfl,?_,H1⟩;have h2:¬(5:Int)+(r:Int)=8:=by simpa using HT.out
   have h3:=HR.out;unfold agi;omega
  ·go_wp2;go_meet;exact⟨11,rfl,by unfold agi;omega,H1⟩
 case rest=>
  obtain⟨c,rfl,hc,HB⟩:=hcut
  rename World=>wc
  obtain⟨s,hs⟩:∃s,wc.heap.size=s:=⟨_,rfl⟩
  have HC:=Ja hc;have HM:=Ja (Jb c4 hy);clear hc hr ht HT HR H1;go_upto_region 7 with fail;generalize g:World.alloc _ _=W;have hb:Below s wc W:=by rw[<-g,<-hs];repeat' (first|exact Below.refl _ _|refine Below.alloc ?_ (by first|exact Je _|(simp;done)|(simp;omega)) _)
  have b0:W.heap[s]? =some (I ((([⟨1,0,0,0,m,[]⟩,⟨1,1,0,0,y,[]⟩,⟨1,2,0,0,1,[]⟩]:List IOp).map agQ).flatMap zU).toArray 76):=by rw[<-g];repeat' (first|exact zI (by first|exact hs|rfl|(simp;done)|(simp;omega))|refine zB ?_)
  have b1:W.heap[s+1]? =some (I #[U 0,U 1] 3):=by rw[<-g];repeat' (first|exact zI (by first|exact hs|rfl|(simp;done)|(simp;omega))|refine zB ?_)
  have b2:W.heap[s+1+1]? =some (I #[U 1,F (s+1) 2 2] 79):=by rw[<-g];repeat' (first|exact zI (by first|exact hs|rfl|(simp;done)|(simp;omega))|refine zB ?_)
  have b3:W.heap[s+1+1+1]? =some (I #[U 3,U 4] 3):=by rw[<-g];repeat' (first|exact zI (by first|exact hs|rfl|(simp;done)|(simp;omega))|refine zB ?_)
  have b4:W.heap[s+1+1+1+1]? =some (I #[U 2,L,U 3,L] 79):=by rw[<-g];repeat' (first|exact zI (by first|exact hs|rfl|(simp;done)|(simp;omega))|refine zB ?_)
  have b5:W.heap[s+1+1+1+1+1]? =some (I ((([⟨6,5,3,2,0,[]⟩,⟨c,6,4,1,0,[]⟩]:List IOp).map agQ).flatMap zU).toArray 76):=by rw[<-g];repeat' (first|exact zI (by first|exact hs|rfl|(simp;done)|(simp;omega))|refine zB ?_)
  have b6:W.heap[s+1+1+1+1+1+1]? =some (I #[U 5,U 6] 3):=by rw[<-g];repeat' (first|exact zI (by first|exact hs|rfl|(simp;done)|(simp;omega))|refine zB ?_)
  have b7:W.heap[s+1+1+1+1+1+1+1]? =some (I #[U 1,F (s+1+1+1+1+1+1) 2 2] 79):=by rw[<-g];repeat' (first|exact zI (by first|exact hs|rfl|(simp;done)|(simp;omega))|refine zB ?_)
  have b8:W.heap[s+1+1+1+1+1+1+1+1]? =some (I #[L,F s 3 3,U 1,U 0,F (s+1+1) 1 1,F (s+1+1+1) 2 2,L,U 2,U 3,F (s+1+1+1+1) 2 2,L,F (s+1+1+1+1+1) 2 2,U 1,U 0,F (s+1+1+1+1+1+1+1) 1 1,L,L,U 4,U 4,L] 84):=by rw[<-g];repeat' (first|exact zI (by first|exact hs|rfl|(simp;done)|(simp;omega))|refine zB ?_)
  have b10:W.heap[s+1+1+1+1+1+1+1+1+1+1]? =some (I #[F (s+1+1+1+1+1+1+1+1) 4 4] 39):=by rw[<-g];repeat' (first|exact zI (by first|exact hs|rfl|(simp;done)|(simp;omega))|refine zB ?_)
  have b11:W.heap[s+1+1+1+1+1+1+1+1+1+1+1]? =some (I #[U 0] 3):=by rw[<-g];repeat' (first|exact zI (by first|exact hs|rfl|(simp;done)|(simp;omega))|refine zB ?_)
  have b12:W.heap[s+1+1+1+1+1+1+1+1+1+1+1+1]? =some (I #[F (s+1+1+1+1+1+1+1+1+1+1) 1 1,F (s+1+1+1+1+1+1+1+1+1+1+1) 1 1,U 0,U (-1),L,L] 29):=by rw[<-g];repeat' (first|exact zI (by first|exact hs|rfl|(simp;done)|(simp;omega))|refine zB ?_)
  clear g;have hP:=lp_prog HC.out (by have:=HM.out.1;omega) HM.out.2 b0 b1 b2 b3 b4 b5 b6 b7 b8 b10 b11;have c9:=Ja (HB.out.trans (hb.mono (by rw[<-hs];exact HB.out.size)));have HX:=Ja b12;have x0:=zA (i:=0) b12 rfl;have x1:=zA (i:=1) b12 rfl;have x2:=zA (i:=2) b12 rfl;have x3:=zA (i:=3) b12 rfl;have x4:=zA (i:=4) b12 rfl;have x5:=zA (i:=5) b12 rfl;have d5:=lt_of_block b12;clear b0 b1 b2 b3 b4 b5 b6 b7 b8 b10 b11 b12 hb hs HB hm c4 hy;have j:=lp_trcd HC.out (by have:=HM.out.1;omega) HM.out.2 hP.p64;obtain⟨q,o⟩:∃q,vt (aeF m y c) 0=q:=⟨_,rfl⟩
  obtain⟨RN,a1⟩:∃RN,bQ ⟨q,[],[]⟩ 0 [] ⟨#[]⟩ 100000=RN:=⟨_,rfl⟩
  have c5:RN.kind=6:=by rw[<-a1,<-o];exact lp_run HC.out HM.out.1 _
  have e0:(RN.kind:Int)=6:=by rw[c5];rfl
  obtain⟨R,hR⟩:∃R,rgsP (aeF m y c) 0=R:=⟨_,rfl⟩
  have HF:=Ja (show aeC ⟨R,[],[],[]⟩ RN.out by rw[<-a1,<-o,<-hR];exact lp_fin HC.out j rfl rfl _ _)
  have c8:(R.length:Int)=7:=by
   have h1:=agC j.valid j.sized hP.p64 j.at_;rw[lp_count m y HC.out] at h1;rw[<-hR];exact h1
  have e1:((R.length:Int)==7)=true:=by rw[c8];rfl
  have d0:=Ja (show G 21 #[.agg #[F (s+1+1+1+1+1+1+1+1+1+1) 1 1,F (s+1+1+1+1+1+1+1+1+1+1+1) 1 1,U 0,U (-1),L,L],U 0] W (ahY W q) from by
   have h:=traced_q j hP;rw[o] at h
   exact h)
  have a6:=Ja (Jb (show OkProg q from o ▸ j.ok) (Jb (show UseProg q from o ▸ j.use) (show 0<q.funcs.length/\q.args.getD 0 0=0 from by rw[<-o,ae5];exact⟨by show 0<1;decide,rfl⟩)))
  have d2:=Ja (show ∀(W1:World) (a3:Option Addr) (a2:Nat) (aa1:Option Addr) (ac1:Nat) (a5:Option Addr) (a4:Nat) (ba1:Option Addr) (bc1:Nat),ProgIn W1 W1.heap.size ⟨.slice a3 q.funcs.length a2,.slice aa1 q.args.length ac1,.slice a5 q.data.length a4,.slice ba1 q.banks.length bc1⟩ q->
   G 20 #[.agg (P q a3 a2 aa1 ac1 a5 a4 ba1 bc1),U 0,L,.string ⟨#[]⟩,.agg #[L,L],U 100000] W1 (eM W1 RN) from fun W1 a3 a2 aa1 ac1 a5 a4 ba1 bc1 hp=>by
   rw[<-a1]
   exact(quick_q hp a6.out.1 a6.out.2.1 0 ⟨by decide,a6.out.2.2.1⟩ (args:=[]) (av:=L) yN.nil a6.out.2.2.2.symm ⟨#[]⟩ Zd (inv:=L) (irqv:=L) (inn:=[]) (irq:=[]) yN.nil yN.nil 100000 ⟨by decide,by decide⟩).mono fun e w' h=>h.open)
  have d3:=Ja hP
  have d7:=Ja (show ∀W1,N W W1->G 15 #[.agg #[F (s+1+1+1+1+1+1+1+1+1+1) 1 1,F (s+1+1+1+1+1+1+1+1+1+1+1) 1 1,U 0,U (-1),L,L],U 0] W1 (ahN W1 R) from fun W1 hb=>by
   have:=aft ((d3.out.below hb).mono hb.size) (Je _) j.sized 0;rw[hR] at this
   exact this)
  clear j o a1 c5 hR c8 hP
  go_upto_region 8 with(first
   |(go_at_call 21;go_must (refine d0.out.mono ?_;rintro e w2 ⟨a3,a2,aa1,ac1,a5,a4,ba1,bc1,rfl,c3,a0⟩))
   |(go_at_call 20;go_must (refine(d2.out _ _ _ _ _ _ _ _ _ c3).mono ?_;rintro e w3 ⟨oa,oc,rfl,he,c0⟩)))
  obtain⟨V,hV⟩:∃V,w3.alloc (I #[Y (RN.value:Int),.slice oa RN.out.length oc,U 6,Y (RN.info:Int),.string (y9 RN.ram),U (RN.inputs:Int),U (RN.polls:Int)] 57)=V:=⟨_,rfl⟩
  have x:N w3 V:=by rw[<-hV];exact(Below.refl _ _).alloc (Je _) _
  have b9:V.heap[w3.heap.size]? =some (I #[Y (RN.value:Int),.slice oa RN.out.length oc,U 6,Y (RN.info:Int),.string (y9 RN.ram),U (RN.inputs:Int),U (RN.polls:Int)] 57):=by rw[<-hV];exact zI rfl
  rw[hV];obtain⟨vb,c1⟩:∃vb,w3.heap.size=vb:=⟨_,rfl⟩
  have HE:=Ja ((he.below vo x).mono vo x.size);have a8:=Ja (show N W V from(a0.trans (c0.mono a0.size)).trans (x.mono (Jn a0.size c0.size)));rw[c1] at b9 ⊢;have d1:=Ja b9;clear hV x b9 c1 he a0 c0 c3 x0 x1 x2 x3 x4 x5 d0 d2;have d:=zH a8.out HX.out (lt_of_block HX.out);have x0:=zA (i:=0) d rfl;have x1:=zA (i:=1) d rfl;have x2:=zA (i:=2) d rfl;have x3:=zA (i:=3) d rfl;have x4:=zA (i:=4) d rfl;have x5:=zA (i:=5) d rfl;have xl:=lt_of_block d;clear d d5;go_upto_region 9 with(go_at_call 15;go_must (refine(d7.out _ a8.out).mono ?_;rintro e w4 ⟨ra,rfl,c2,k⟩))
  have l:=Ja (a8.out.trans (k.mono a8.out.size));have d9:=Ja ((HE.out.below vo k).mono vo k.size);have d8:=Ja (rgs_rowq c2);have u:=zH k d1.out (lt_of_block d1.out);clear x0 x1 x2 x3 x4 x5 xl c2 k;have d:=zH l.out HX.out (lt_of_block HX.out);have x0:=zA (i:=0) d rfl;have x1:=zA (i:=1) d rfl;have x2:=zA (i:=2) d rfl;have x3:=zA (i:=3) d rfl;have x4:=zA (i:=4) d rfl;have x5:=zA (i:=5) d rfl;have xl:=lt_of_block d;have y1:=zA (i:=1) u rfl;have y2:=zA (i:=2) u rfl;have yl:=lt_of_block u;clear d u;go_wp2_with (go_at_call 24;go_must (refine(ins_any ((d3.out.below l.out).mono l.out.size) d9.out d8.out (O:=[]) (S:=[]) (jv:=L) (sv:=L) yN.nil yN.nil (by show 0<=_;decide) (fun z hz=>by cases hz) HF.out).mono ?_;rintro e w5 ⟨rfl,d6⟩))
  go_ret;exact⟨rfl,c9.out.trans ((l.out.trans (d6.mono l.out.size)).mono c9.out.size)⟩
open Go.ChangeShapes Go.WideShapes Go.ChangeAt Go.RowKit
theorem af5:ownKnob Tryz.prog.godebug=none:=by kernel_rfl
theorem j4:laidOutB Tryz.prog=true:=by kernel_rfl
theorem afi (os:Os)(i:os.Started)(H:Type)(enc:TypeId×Value->H):
 ReturnsInHanded {} Tryz.checked os 9 .any (Rows.rangesLoopsSpec.pre6 enc Tryz.prog Tryz.f9 Rows.rangesLoopsRow.domain false) (Rows.rangesLoopsSpec.post enc Tryz.prog Tryz.f9 false true false false):=by
 refine returnsInHanded_of_change (C:=Tryz.checked) af5 i Zk Tryz.func9
  (ChangeSpec.witness6 (enc:=enc) (C:=Tryz.checked) false ⟨#[],#[.int .u16 0,.int .u8 0,.int .u16 0],[]⟩ 8 Zk Zk Zk Zk) ?_
 intro W base args ds gs before g hW a1 _;have c:∀(j:Nat) t v,Tryz.f9.params[j]? =some t->args[j]? =some v->Value.okWide Tryz.prog W .any base t v:=g;have d:=hW;obtain⟨p,q,k,hV,rfl,a2,hnd⟩:=hW;have hA:DataW.TrodAll enc Tryz.prog W 0 (fun _=>true) true Tryz.f9.params.toList args.toList ds p:=k;rw[Tryz.params9] at hA c;obtain⟨v0,vs0,d0,a5,p0,q0,a0,rfl,rfl,h0,r0⟩:=trodAll_cons hA;obtain⟨v1,vs1,d1,a4,p1,q1,rfl,rfl,rfl,h1,r1⟩:=trodAll_cons r0;obtain⟨v2,vs2,d2,a3,p2,q2,rfl,rfl,rfl,h2,r2⟩:=trodAll_cons r1;obtain⟨rfl,rfl,rfl⟩:=trodAll_nil r2;obtain rfl:args=#[v0,v1,v2]:=by cases args;simp_all
 obtain⟨rfl,rfl⟩:=trodVars_none hV;obtain⟨x0,rfl,y⟩:=ah2 (c 0 43 v0 rfl rfl) h0;obtain⟨x1,rfl,w⟩:=ajc (c 1 5 v1 rfl rfl) h1;obtain⟨x2,rfl,u⟩:=ah2 (c 2 43 v2 rfl rfl) h2;have o:∀x∈p0,x.block<W.heap.size:=fun x hx=>d.lt x (by simp[hx])
 have m:∀x∈p1,x.block<W.heap.size:=fun x hx=>d.lt x (by simp[hx])
 have l:∀x∈p2,x.block<W.heap.size:=fun x hx=>d.lt x (by simp[hx])
 clear k g;simp only[Ua] at d;refine(ajh W x0 x1 x2 y w u).mono fun e W' ⟨he,hb⟩=>?_
 subst he;exact⟨_,rfl,_,_,_,[],p0++(p1++p2),[],d,trodAll_mk1 (shut_bool Tryz.underlying4 _),trodAll_mk3 (Below.trod j4 Zk (of_decide_eq_true Zk) h0 hb o) (Below.trod j4 Zk (of_decide_eq_true Zk) h1 hb m) (Below.trod j4 Zk (of_decide_eq_true Zk) h2 hb l),rfl,hb.frame _,fun h=>by cases h⟩
theorem rangesLoops_holds:Rows.RangesLoopsSaid:=
 OpenClaim.holds_of_wide 9 Tryz.f9 rfl rfl rfl rfl rfl rfl rfl ⟨rfl,rfl,rfl,rfl,rfl⟩ rfl rfl rfl rfl rfl Zk Tryz.func9 Zk
  (of_decide_eq_true Zk) (by unfold Func.isWrapper;first|(rw[if_pos (by decide+kernel)];kernel_rfl)|(rw[if_neg (by decide+kernel)];exact⟨rfl,rfl⟩))
  (fun os started H enc _=>afi os started H enc)
end Go.Proofs.YtoahcpkibpomcaaGreat
