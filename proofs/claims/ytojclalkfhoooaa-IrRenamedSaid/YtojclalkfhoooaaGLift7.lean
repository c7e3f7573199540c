/- Part of a proof. -/
import Derived.Test.YtojclalkfhoooaaGLFue
import Derived.Test.YtojclalkfhoooaaGLw0v2
import Derived.Test.YtojclalkfhoooaaGLw2
import Derived.Test.YtojclalkfhoooaaGVnB
import Derived.Test.YtojclalkfhoooaaVnA
set_option linter.all false
set_option maxHeartbeats 16000000
set_option maxRecDepth 100000
namespace Go.Proofs.Ytojclalkfhoooaa
open Go.RowKit
variable {w0 w2:World}{oa:Option Addr}{oc:Nat}
def adV (R:IRun)(oa:Option Addr)(oc:Nat):Array Value:=#[I (R.value:Int),.slice oa R.out.length oc,A (R.kind:Int),I (R.info:Int),.string (y9 R.ram),A (R.inputs:Int),A (R.polls:Int)]
def fy (w0:World)(R:IRun)(v:Value)(wx:World):Prop:=∃(b:Nat) (oa:Option Addr) (oc:Nat),v=Q b/\Hid (w0.heap.size<=b/\L wx b (adV R oa oc) 57/\vM wx wx.heap.size (.slice oa R.out.length oc) R.out/\F w0 wx)
theorem gN{R:IRun}(c:F w0 w2)(d:vM w2 w2.heap.size (.slice oa R.out.length oc) R.out):fy w0 R (Q w2.heap.size) (w2.alloc (U (adV R oa oc) 57)):=
 ⟨_,oa,oc,rfl,Ja ⟨c.size,zI rfl,(d.below vo ((Below.refl _ _).alloc (Je _) _)).mono vo Zs,c.alloc c.size _⟩⟩
theorem sets7 {w:World}{b:Nat}{u0 u1 u2 u3 u4 u5 u6:Value}{t:TypeId}(v0 v1 v2 v3 v4 v5 v6:Value)(h:L w b #[u0,u1,u2,u3,u4,u5,u6] t):
 L (((((((w.setCell ⟨b,0,none⟩ v0).setCell ⟨b,1,none⟩ v1).setCell ⟨b,2,none⟩ v2).setCell ⟨b,3,none⟩ v3).setCell ⟨b,4,none⟩ v4).setCell ⟨b,5,none⟩ v5).setCell ⟨b,6,none⟩ v6) b #[v0,v1,v2,v3,v4,v5,v6] t:=by
 have j:=zD h v0 (i:=0);have h1:=zD j v1 (i:=1);have h2:=zD h1 v2 (i:=2);have h3:=zD h2 v3 (i:=3);have g:=zD h3 v4 (i:=4);have d:=zD g v5 (i:=5);have c:=zD d v6 (i:=6)
 simpa using c
theorem adc{W:World}{b:Nat}{R:IRun}(d:F w0 w2)(g:vM w2 w2.heap.size (.slice oa R.out.length oc) R.out)
 (h:L w2 b fN 57) (c:w0.heap.size<=b) (vs:List Value) (i:W=w2.setCells b 0 vs) (hs:L W b (adV R oa oc) 57):
 fy w0 R (Q b) W:=by
 subst i;exact⟨b,oa,oc,rfl,Ja ⟨c,hs,ado g h,d.trans ((qu w2 b 0 vs).mono c)⟩⟩
theorem gE{b:Nat}{R:IRun}(c:F w0 w2)(d:vM w2 w2.heap.size (.slice oa R.out.length oc) R.out)
 (h:L w2 b fN 57) (g:w0.heap.size<=b):
 fy w0 R (Q b) (((((((w2.setCell ⟨b,0,none⟩ (I (R.value:Int))).setCell ⟨b,1,none⟩ (.slice oa R.out.length oc)).setCell ⟨b,2,none⟩ (A (R.kind:Int))).setCell ⟨b,3,none⟩ (I (R.info:Int))).setCell ⟨b,4,none⟩ (.string (y9 R.ram))).setCell ⟨b,5,none⟩ (A (R.inputs:Int))).setCell ⟨b,6,none⟩ (A (R.polls:Int))):=
 adc c d h g [I (R.value:Int),.slice oa R.out.length oc,A (R.kind:Int),I (R.info:Int),.string (y9 R.ram),A (R.inputs:Int),A (R.polls:Int)] rfl (sets7 _ _ _ _ _ _ _ h)
theorem fd (s:List Int):((uR s).funcs.getD 0 []).isEmpty=false:=by
 have c:=sm s;rcases kz s (k:=0) Zo with⟨_,h2,h3⟩|h
 ·unfold qV at h2;simp only[Jm,decide_eq_true_eq] at h2;omega
 ·obtain⟨pl,h1,_⟩:=gJ (gi s 0) (zg s 0).2;rw[Jj,h,Ot]
  cases hf:(xR (xC s 0) (zg s 0).2).f with
  |nil=>exact absurd hf h1.ne
  |cons b bs=>rfl
theorem eB (s:List Int)(x:SetF)(F d:Int)(g:0<=d):
 ((i9 ⟨uR s,x.inn.take 20,x.irq.take 20⟩ 0 [] (aaX x) F).kind≠7->i9 ⟨uR s,x.inn.take 20,x.irq.take 20⟩ 0 [] (aaX x) (F+d)=i9 ⟨uR s,x.inn.take 20,x.irq.take 20⟩ 0 [] (aaX x) F)/\
 ((i9 ⟨uR s,x.inn.take 20,x.irq.take 20⟩ 0 [] (aaX x) F).kind=7->(i9 ⟨uR s,x.inn.take 20,x.irq.take 20⟩ 0 [] (aaX x) F).value=0/\(i9 ⟨uR s,x.inn.take 20,x.irq.take 20⟩ 0 [] (aaX x) F).out.length<=(i9 ⟨uR s,x.inn.take 20,x.irq.take 20⟩ 0 [] (aaX x) (F+d)).out.length/\
   (i9 ⟨uR s,x.inn.take 20,x.irq.take 20⟩ 0 [] (aaX x) F).inputs<=(i9 ⟨uR s,x.inn.take 20,x.irq.take 20⟩ 0 [] (aaX x) (F+d)).inputs/\(i9 ⟨uR s,x.inn.take 20,x.irq.take 20⟩ 0 [] (aaX x) F).polls<=(i9 ⟨uR s,x.inn.take 20,x.irq.take 20⟩ 0 [] (aaX x) (F+d)).polls):=by
 have c:∀F,i9 ⟨uR s,x.inn.take 20,x.irq.take 20⟩ 0 [] (aaX x) F=bQ ⟨uR s,x.inn.take 20,x.irq.take 20⟩ 0 [] (aaX x) F:=fun F=>if_pos (fZ s)
 rw[c,c];exact eW _ _ _ _ _ g
theorem eJ (s:List Int)(x:SetF)(F:Int)(c:F<=0):
 (i9 ⟨uR s,x.inn.take 20,x.irq.take 20⟩ 0 [] (aaX x) F).kind=7/\(i9 ⟨uR s,x.inn.take 20,x.irq.take 20⟩ 0 [] (aaX x) F).info=0/\(i9 ⟨uR s,x.inn.take 20,x.irq.take 20⟩ 0 [] (aaX x) F).out=[]:=by
 unfold i9;rw[if_pos (fZ s)];exact eZ _ _ _ _ _ c (fd s)
theorem law_fuel (w:World)(sv:Value)(s:List Int)(xv:Value)(x:SetF)(m:Nat)(hs:zY w w.heap.size sv s)(hx:SetIn w w.heap.size xv x)(hm:m<65536):
 Y 7 #[sv,xv,.int .u16 (m:Int)] w fun e w'=>e=.returned (.bool true)/\Below w.heap.size w w':=by
 obtain⟨sa,sc,rfl,h4,h0⟩:=hs.form;obtain⟨sa3,sc3,a1,a0,rfl,h8,h6⟩:=hx.form;have j0:=hx.fuel;have g0:=Ja (Jb hs hx);clear hs h4 h0 h8 h6;obtain⟨F1,f9⟩:∃F,x.fuel%3000=F:=⟨_,rfl⟩
 obtain⟨D,hD⟩:∃D,m%2000=D:=⟨_,rfl⟩
 have j5:F1<3000:=Zo;have i1:(m:Int)%2000=(D:Int):=Zo;have k0:D<2000:=Zo;clear hD;have i3:=Ja f9;have f6:Below w.heap.size w (w.alloc (U #[.slice sa3 x.inn.length sc3,.slice a1 x.irq.length a0,.int .u32 (x.ram:Int),.int .u16 (x.fuel:Int)] 41)):=(Below.refl _ _).alloc (Je _) _;have e5:=zI (W:=w) (o:=U #[.slice sa3 x.inn.length sc3,.slice a1 x.irq.length a0,.int .u32 (x.ram:Int),.int .u16 (x.fuel:Int)] 41) rfl;have H0:=Ja (Jb f6 e5);clear f6 e5 hx f9;go_enter Try.func7,Try.ntmps7;go_upto_region 2 with(go_at_call 17;go_must (refine(ln _).mono ?_;rintro e w0 ⟨rfl,g⟩))
 have d:=H0.out.1.trans (g.mono H0.out.1.size);have b4:=zH g H0.out.2 (lt_of_block H0.out.2);have H1:=Ja (Jb d b4);clear g d b4 H0;have HM:=Ja (abW ((g0.out.1.below zO H1.out.1).mono zO H1.out.1.size));have b3:=(acK (s.take 200)).sized Zd;have d1:=eB (s.take 200) x;have d0:=eJ (s.take 200) x;obtain⟨I,hI⟩:∃I,x.inn.take 20=I:=⟨_,rfl⟩
 obtain⟨Q,hQ⟩:∃Q,x.irq.take 20=Q:=⟨_,rfl⟩
 simp only[hI,hQ] at d1 d0
 have e0:=Ja (show ∀W,SetIn W W.heap.size (.agg #[.slice sa3 x.inn.length sc3,.slice a1 x.irq.length a0,.int .u32 (x.ram:Int),.int .u16 (x.fuel:Int)]) x->Y 25 #[.agg #[.slice sa3 x.inn.length sc3,.slice a1 x.irq.length a0,.int .u32 (x.ram:Int),.int .u16 (x.fuel:Int)]] W (fun e w'=>∃(ia:Option Addr) (ic:Nat) (qa:Option Addr) (qc:Nat),e=.returned (.agg #[.slice ia I.length ic,.slice qa Q.length qc])/\wV w' W.heap.size (.slice ia I.length ic) I/\dL w' W.heap.size (.slice qa Q.length qc) Q/\Below W.heap.size W w') from fun W h=>by
  have:=fi h;unfold fI at this;rw[hI,hQ] at this
  exact this)
 clear hI hQ;generalize uR (s.take 200)=p at *;go_upto_region 3 with(go_at_call 18;go_must (refine HM.out.mono ?_;rintro e w1 ⟨fa,fc,aa,ac,da,dc,ba,bc,rfl,hp,g⟩))
 have d:=H1.out.1.trans (g.mono H1.out.1.size);have b4:=zB (o:=U (R p fa fc aa ac da dc ba bc) 29) (zH g H1.out.2 (lt_of_block H1.out.2));have d6:=zI (W:=w1) (o:=U (R p fa fc aa ac da dc ba bc) 29) rfl;have d9:=(Below.refl w1.heap.size w1).alloc (Je _) (U (R p fa fc aa ac da dc ba bc) 29);have e9:=(hp.below d9).mono (show w1.heap.size<=(w1.alloc (U (R p fa fc aa ac da dc ba bc) 29)).heap.size by simp);have j:=d.trans (d9.mono d.size);clear d9 g d hp;generalize hX:w1.alloc (U (R p fa fc aa ac da dc ba bc) 29)=X3 at *;generalize w1.heap.size=b8 at *;clear hX HM
 have b6:=Ja (show ∀W,Below X3.heap.size X3 W->(G W b8 0 (.slice fa p.funcs.length fc)/\G W b8 1 (.slice aa p.args.length ac)/\G W b8 2 (A p.entry)/\G W b8 3 (A p.handler)/\G W b8 4 (.slice da p.data.length dc)/\G W b8 5 (.slice ba p.banks.length bc)/\G W w.heap.size 0 (.slice sa3 x.inn.length sc3)/\G W w.heap.size 1 (.slice a1 x.irq.length a0)/\G W w.heap.size 2 (.int .u32 (x.ram:Int))/\G W w.heap.size 3 (.int .u16 (x.fuel:Int)))/\ProgIn W W.heap.size ⟨.slice fa p.funcs.length fc,.slice aa p.args.length ac,.slice da p.data.length dc,.slice ba p.banks.length bc⟩ p/\SetIn W W.heap.size (.agg #[.slice sa3 x.inn.length sc3,.slice a1 x.irq.length a0,.int .u32 (x.ram:Int),.int .u16 (x.fuel:Int)]) x from fun W hb=>by
  have h1:=zH hb b4 (lt_of_block b4);have h2:=zH hb d6 (lt_of_block d6);have f4:=j.trans (hb.mono j.size)
  exact⟨⟨zA h2 Zs,zA h2 Zs,zA h2 Zs,zA h2 Zs,zA h2 Zs,zA h2 Zs,zA h1 Zs,zA h1 Zs,zA h1 Zs,zA h1 Zs⟩,(e9.below hb).mono hb.size,(g0.out.2.below f4).mono f4.size⟩)
 have g4:=Ja j
 have d4:=Ja (show ∀(W:World) (ia:Option Addr) (ic:Nat) (qa:Option Addr) (qc:Nat) (F:Int),I64 F/\F.toNat<=4000000->Below X3.heap.size X3 W->wV W W.heap.size (.slice ia I.length ic) I->dL W W.heap.size (.slice qa Q.length qc) Q->
  Y 23 #[.agg (R p fa fc aa ac da dc ba bc),A 0,O,.string (aaX x),.agg #[.slice ia I.length ic,.slice qa Q.length qc],A F] W (eM W (i9 ⟨p,I,Q⟩ 0 [] (aaX x) F)) from fun W ia ic qa qc F hF hb hi hq=>
  (mX (b6.out W hb).2.1 b3 0 pZ yN.nil (aaX x) (eU x) hi hq F hF.1 hF.2).mono fun e w' h=>h.open)
 have d1:=d1 (F1:Int) (D:Int) Zo;have d0:=d0 (-(m:Int)) Zo;clear j b4 d6 e9 b3;have g5:=Ja (fun W ia ic qa qc=>d4.out W ia ic qa qc (F1:Int) ⟨⟨by omega,by omega⟩,by omega⟩);have c7:=Ja (fun W ia ic qa qc=>d4.out W ia ic qa qc ((F1:Int)+(D:Int)) ⟨⟨by omega,by omega⟩,by omega⟩);have b7:=Ja (fun W ia ic qa qc=>d4.out W ia ic qa qc (-(m:Int)) ⟨⟨by omega,by omega⟩,by omega⟩);clear d4;generalize i9 ⟨p,I,Q⟩ 0 [] (aaX x) (F1:Int)=R3 at *;generalize i9 ⟨p,I,Q⟩ 0 [] (aaX x) ((F1:Int)+(D:Int))=R4 at *;generalize i9 ⟨p,I,Q⟩ 0 [] (aaX x) (-(m:Int))=R5 at *;have HR:=Ja (Jb d1 d0);clear d1 d0
 have g1:=Ja (show ∀W,SetIn W W.heap.size (.agg #[.slice sa3 x.inn.length sc3,.slice a1 x.irq.length a0,.int .u32 (x.ram:Int),.int .u16 (x.fuel:Int)]) x->Y 26 #[.agg #[.slice sa3 x.inn.length sc3,.slice a1 x.irq.length a0,.int .u32 (x.ram:Int),.int .u16 (x.fuel:Int)]] W (fun e w'=>e=.returned (A F1)/\Below W.heap.size W w') from fun W h=>by
  have:=fq h;rw[i3.out] at this
  exact this)
 go_cut [9] (fun v wx=>fy X3 R3 v wx)
 case first=>
  go_region_held3 (fun w'=>G w' b8 0 (.slice fa p.funcs.length fc)/\G w' b8 1 (.slice aa p.args.length ac)/\G w' b8 2 (A p.entry)/\G w' b8 3 (A p.handler)/\G w' b8 4 (.slice da p.data.length dc)/\G w' b8 5 (.slice ba p.banks.length bc)/\G w' w.heap.size 0 (.slice sa3 x.inn.length sc3)/\G w' w.heap.size 1 (.slice a1 x.irq.length a0)/\G w' w.heap.size 2 (.int .u32 (x.ram:Int))/\G w' w.heap.size 3 (.int .u16 (x.fuel:Int)))
   ((refine(b6.out _ ?_).1;repeat' (first|with_reducible exact Below.refl _ _|with_reducible assumption|with_reducible refine Below.drew ?_|with_reducible refine Below.alloc ?_ Zn _|with_reducible refine Below.setCell ?_ Zn _)))
   (first
     |(go_at_call 24
       refine(gC (b6.out _ Zb).2.2).mono ?_;rintro e y1 ⟨rfl,g⟩;have c9:Below X3.heap.size X3 y1:=Below.trans Zb (g.mono Zn);have e8:=c9.size
       first|(have a4:L y1 X3.heap.size #[.int .u16 0,O,A 0,.int .u16 0,.string ⟨#[]⟩,A 0,A 0] 57:=zH g (show(World.alloc X3 _).heap[X3.heap.size]? =_ from zI rfl) Zs)|skip
       clear g)
     |(go_at_call 25
       refine(e0.out _ (b6.out _ Zb).2.2).mono ?_;rintro e y2 ⟨ia,ic,qa,qc,rfl,a5,a3,d⟩;have a5:=a5.mono zr d.size;have a3:=a3.mono xQ d.size;have c8:Below X3.heap.size X3 y2:=Below.trans Zb (d.mono Zn);have e7:=c8.size
       first|(have t:=zH d a4 (by first|exact lt_of_block a4|(have:=lt_of_block a4;simp;omega)))|(have t:L y2 y1.heap.size #[.int .u16 0,O,A 0,.int .u16 0,.string ⟨#[]⟩,A 0,A 0] 57:=zH d (by with_reducible exact zI rfl) Zs)|skip
       clear d)
     |(go_at_call 26
       refine(g1.out _ (b6.out _ Zb).2.2).mono ?_;rintro e y3 ⟨rfl,j⟩;have l:Below y2.heap.size y2 y3:=Below.trans (by repeat' (first|with_reducible exact Below.refl _ _|with_reducible refine Below.drew ?_|with_reducible refine Below.alloc ?_ Zn _)) (j.mono Zn);have d8:=(a5.below zr l).mono zr l.size;have d7:=(a3.below xQ l).mono xQ l.size;clear l;have d5:Below X3.heap.size X3 y3:=Below.trans Zb (j.mono Zn);have h5:=d5.size
       first|(have a7:=zH j t (by first|exact lt_of_block t|(have:=lt_of_block t;simp;omega)))|(have a7:L y3 y2.heap.size #[.int .u16 0,O,A 0,.int .u16 0,.string ⟨#[]⟩,A 0,A 0] 57:=zH j (by with_reducible exact zI rfl) Zs)|skip
       clear j)
     |(go_at_call 23
       refine(g5.out _ _ _ _ _ Zb (yN.mono zr (B:=y3.heap.size) (yN.below zr d8 (by repeat' (first|with_reducible exact Below.refl _ _|with_reducible refine Below.drew ?_|with_reducible refine Below.alloc ?_ Zn _))) Zn) (yN.mono xQ (B:=y3.heap.size) (yN.below xQ d7 (by repeat' (first|with_reducible exact Below.refl _ _|with_reducible refine Below.drew ?_|with_reducible refine Below.alloc ?_ Zn _))) Zn)).mono ?_;rintro e y4 ⟨oa,oc,rfl,b1,a6⟩;have a2:Below X3.heap.size X3 y4:=Below.trans Zb (a6.mono Zn);have e6:=a2.size
       first|(have c:=zH a6 a7 (by first|exact lt_of_block a7|(have:=lt_of_block a7;simp;omega)))|(have c:L y4 y3.heap.size #[.int .u16 0,O,A 0,.int .u16 0,.string ⟨#[]⟩,A 0,A 0] 57:=zH a6 (by with_reducible exact zI rfl) Zs)|skip
       first
        |(have y:y4.heap[X3.heap.size]? =some (.cells #[.int .u16 0,.slice none 0 0,.int .i64 0,.int .u16 0,.string ⟨#[]⟩,.int .i64 0,.int .i64 0] 57 (0,0)):=c;have c0:=zA (i:=0) c rfl;have c1:=zA (i:=1) c rfl;have c2:=zA (i:=2) c rfl;have c3:=zA (i:=3) c rfl;have c4:=zA (i:=4) c rfl;have c5:=zA (i:=5) c rfl;have c6:=zA (i:=6) c rfl;have cf:∀i,y4.frozen? ⟨X3.heap.size,i,none⟩=false:=fun i=>zE c;have cl:=lt_of_block c)
        |(have y:y4.heap[y1.heap.size]? =some (.cells #[.int .u16 0,.slice none 0 0,.int .i64 0,.int .u16 0,.string ⟨#[]⟩,.int .i64 0,.int .i64 0] 57 (0,0)):=c;have c0:=zA (i:=0) c rfl;have c1:=zA (i:=1) c rfl;have c2:=zA (i:=2) c rfl;have c3:=zA (i:=3) c rfl;have c4:=zA (i:=4) c rfl;have c5:=zA (i:=5) c rfl;have c6:=zA (i:=6) c rfl;have cf:∀i,y4.frozen? ⟨y1.heap.size,i,none⟩=false:=fun i=>zE c;have cl:=lt_of_block c)
        |(have y:y4.heap[y2.heap.size]? =some (.cells #[.int .u16 0,.slice none 0 0,.int .i64 0,.int .u16 0,.string ⟨#[]⟩,.int .i64 0,.int .i64 0] 57 (0,0)):=c;have c0:=zA (i:=0) c rfl;have c1:=zA (i:=1) c rfl;have c2:=zA (i:=2) c rfl;have c3:=zA (i:=3) c rfl;have c4:=zA (i:=4) c rfl;have c5:=zA (i:=5) c rfl;have c6:=zA (i:=6) c rfl;have cf:∀i,y4.frozen? ⟨y2.heap.size,i,none⟩=false:=fun i=>zE c;have cl:=lt_of_block c)
        |(have y:y4.heap[y3.heap.size]? =some (.cells #[.int .u16 0,.slice none 0 0,.int .i64 0,.int .u16 0,.string ⟨#[]⟩,.int .i64 0,.int .i64 0] 57 (0,0)):=c;have c0:=zA (i:=0) c rfl;have c1:=zA (i:=1) c rfl;have c2:=zA (i:=2) c rfl;have c3:=zA (i:=3) c rfl;have c4:=zA (i:=4) c rfl;have c5:=zA (i:=5) c rfl;have c6:=zA (i:=6) c rfl;have cf:∀i,y4.frozen? ⟨y3.heap.size,i,none⟩=false:=fun i=>zE c;have cl:=lt_of_block c)
        |skip))
  all_goals go_wp2_with fail
  all_goals go_meet
  all_goals first|with_reducible exact gE a2 b1 c Zn|exact gN a2 b1
 case rest=>
  obtain⟨b9,oa3,oc3,rfl,u⟩:=hcut;have b5:=Ja (fun W (hb:Below wc.heap.size wc W)=>b6.out W (u.out.2.2.2.trans (hb.mono u.out.2.2.2.size)));have c7:=Ja (fun W ia ic qa qc (hb:Below wc.heap.size wc W)=>c7.out W ia ic qa qc (u.out.2.2.2.trans (hb.mono u.out.2.2.2.size)));obtain⟨X4,f8⟩:∃X4,wc=X4:=⟨_,rfl⟩
  rw[f8] at b5 c7 u ⊢;clear f8;go_upto_region 4 with fail;have i0:(m:Int).tmod 2000=(D:Int):=by rw[Qc Zo];exact i1
  have g9:IntKind.i64.wrap (D:Int)=(D:Int):=Om _ Zo;have g6:IntKind.i64.wrap ((F1:Int)+(D:Int))=(F1:Int)+(D:Int):=Om _ Zo
  go_cut [10] (fun v wx=>fy X4 R4 v wx)
  case first=>
   go_region_held3 (fun w'=>G w' b8 0 (.slice fa p.funcs.length fc)/\G w' b8 1 (.slice aa p.args.length ac)/\G w' b8 2 (A p.entry)/\G w' b8 3 (A p.handler)/\G w' b8 4 (.slice da p.data.length dc)/\G w' b8 5 (.slice ba p.banks.length bc)/\G w' w.heap.size 0 (.slice sa3 x.inn.length sc3)/\G w' w.heap.size 1 (.slice a1 x.irq.length a0)/\G w' w.heap.size 2 (.int .u32 (x.ram:Int))/\G w' w.heap.size 3 (.int .u16 (x.fuel:Int)))
    ((refine(b5.out _ ?_).1;repeat' (first|with_reducible exact Below.refl _ _|with_reducible assumption|with_reducible refine Below.drew ?_|with_reducible refine Below.alloc ?_ Zn _|with_reducible refine Below.setCell ?_ Zn _)))
    (first
      |(go_at_call 24
        refine(gC (b5.out _ Zb).2.2).mono ?_;rintro e y1 ⟨rfl,g⟩;have c9:Below X4.heap.size X4 y1:=Below.trans Zb (g.mono Zn);have e8:=c9.size
        first|(have a4:L y1 X4.heap.size #[.int .u16 0,O,A 0,.int .u16 0,.string ⟨#[]⟩,A 0,A 0] 57:=zH g (show(World.alloc X4 _).heap[X4.heap.size]? =_ from zI rfl) Zs)|skip
        clear g)
      |(go_at_call 25
        refine(e0.out _ (b5.out _ Zb).2.2).mono ?_;rintro e y2 ⟨ia,ic,qa,qc,rfl,a5,a3,d⟩;have a5:=a5.mono zr d.size;have a3:=a3.mono xQ d.size;have c8:Below X4.heap.size X4 y2:=Below.trans Zb (d.mono Zn);have e7:=c8.size
        first|(have t:=zH d a4 (by first|exact lt_of_block a4|(have:=lt_of_block a4;simp;omega)))|(have t:L y2 y1.heap.size #[.int .u16 0,O,A 0,.int .u16 0,.string ⟨#[]⟩,A 0,A 0] 57:=zH d (by with_reducible exact zI rfl) Zs)|skip
        clear d)
      |(go_at_call 26
        refine(g1.out _ (b5.out _ Zb).2.2).mono ?_;rintro e y3 ⟨rfl,j⟩;have l:Below y2.heap.size y2 y3:=Below.trans (by repeat' (first|with_reducible exact Below.refl _ _|with_reducible refine Below.drew ?_|with_reducible refine Below.alloc ?_ Zn _)) (j.mono Zn);have d8:=(a5.below zr l).mono zr l.size;have d7:=(a3.below xQ l).mono xQ l.size;clear l;have d5:Below X4.heap.size X4 y3:=Below.trans Zb (j.mono Zn);have h5:=d5.size
        first|(have a7:=zH j t (by first|exact lt_of_block t|(have:=lt_of_block t;simp;omega)))|(have a7:L y3 y2.heap.size #[.int .u16 0,O,A 0,.int .u16 0,.string ⟨#[]⟩,A 0,A 0] 57:=zH j (by with_reducible exact zI rfl) Zs)|skip
        clear j)
      |(go_at_call 23
        refine(c7.out _ _ _ _ _ Zb (yN.mono zr (B:=y3.heap.size) (yN.below zr d8 (by repeat' (first|with_reducible exact Below.refl _ _|with_reducible refine Below.drew ?_|with_reducible refine Below.alloc ?_ Zn _))) Zn) (yN.mono xQ (B:=y3.heap.size) (yN.below xQ d7 (by repeat' (first|with_reducible exact Below.refl _ _|with_reducible refine Below.drew ?_|with_reducible refine Below.alloc ?_ Zn _))) Zn)).mono ?_;rintro e y4 ⟨oa,oc,rfl,b1,a6⟩;have a2:Below X4.heap.size X4 y4:=Below.trans Zb (a6.mono Zn);have e6:=a2.size
        first|(have c:=zH a6 a7 (by first|exact lt_of_block a7|(have:=lt_of_block a7;simp;omega)))|(have c:L y4 y3.heap.size #[.int .u16 0,O,A 0,.int .u16 0,.string ⟨#[]⟩,A 0,A 0] 57:=zH a6 (by with_reducible exact zI rfl) Zs)|skip
        first
         |(have y:y4.heap[X4.heap.size]? =some (.cells #[.int .u16 0,.slice none 0 0,.int .i64 0,.int .u16 0,.string ⟨#[]⟩,.int .i64 0,.int .i64 0] 57 (0,0)):=c;have c0:=zA (i:=0) c rfl;have c1:=zA (i:=1) c rfl;have c2:=zA (i:=2) c rfl;have c3:=zA (i:=3) c rfl;have c4:=zA (i:=4) c rfl;have c5:=zA (i:=5) c rfl;have c6:=zA (i:=6) c rfl;have cf:∀i,y4.frozen? ⟨X4.heap.size,i,none⟩=false:=fun i=>zE c;have cl:=lt_of_block c)
         |(have y:y4.heap[y1.heap.size]? =some (.cells #[.int .u16 0,.slice none 0 0,.int .i64 0,.int .u16 0,.string ⟨#[]⟩,.int .i64 0,.int .i64 0] 57 (0,0)):=c;have c0:=zA (i:=0) c rfl;have c1:=zA (i:=1) c rfl;have c2:=zA (i:=2) c rfl;have c3:=zA (i:=3) c rfl;have c4:=zA (i:=4) c rfl;have c5:=zA (i:=5) c rfl;have c6:=zA (i:=6) c rfl;have cf:∀i,y4.frozen? ⟨y1.heap.size,i,none⟩=false:=fun i=>zE c;have cl:=lt_of_block c)
         |(have y:y4.heap[y2.heap.size]? =some (.cells #[.int .u16 0,.slice none 0 0,.int .i64 0,.int .u16 0,.string ⟨#[]⟩,.int .i64 0,.int .i64 0] 57 (0,0)):=c;have c0:=zA (i:=0) c rfl;have c1:=zA (i:=1) c rfl;have c2:=zA (i:=2) c rfl;have c3:=zA (i:=3) c rfl;have c4:=zA (i:=4) c rfl;have c5:=zA (i:=5) c rfl;have c6:=zA (i:=6) c rfl;have cf:∀i,y4.frozen? ⟨y2.heap.size,i,none⟩=false:=fun i=>zE c;have cl:=lt_of_block c)
         |(have y:y4.heap[y3.heap.size]? =some (.cells #[.int .u16 0,.slice none 0 0,.int .i64 0,.int .u16 0,.string ⟨#[]⟩,.int .i64 0,.int .i64 0] 57 (0,0)):=c;have c0:=zA (i:=0) c rfl;have c1:=zA (i:=1) c rfl;have c2:=zA (i:=2) c rfl;have c3:=zA (i:=3) c rfl;have c4:=zA (i:=4) c rfl;have c5:=zA (i:=5) c rfl;have c6:=zA (i:=6) c rfl;have cf:∀i,y4.frozen? ⟨y3.heap.size,i,none⟩=false:=fun i=>zE c;have cl:=lt_of_block c)
         |skip))
   all_goals go_wp2_with fail
   all_goals go_meet
   all_goals first|with_reducible exact gE a2 b1 c Zn|exact gN a2 b1
  case rest=>
   obtain⟨b10,oa4,oc4,rfl,r⟩:=hcut;have d3:=Ja (fun W (hb:Below wc.heap.size wc W)=>b5.out W (r.out.2.2.2.trans (hb.mono r.out.2.2.2.size)));have b7:=Ja (fun W ia ic qa qc (hb:Below wc.heap.size wc W)=>b7.out W ia ic qa qc (u.out.2.2.2.trans ((r.out.2.2.2.trans (hb.mono r.out.2.2.2.size)).mono u.out.2.2.2.size)));obtain⟨X5,f7⟩:∃X5,wc=X5:=⟨_,rfl⟩
   rw[f7] at d3 b7 r ⊢;clear f7;clear i0 g9 g6;go_upto_region 5 with fail;have j2:IntKind.i64.wrap (m:Int)=(m:Int):=Om _ Zo;have j1:IntKind.i64.wrap (-(m:Int))=-(m:Int):=Om _ Zo
   go_cut [11] (fun v wx=>fy X5 R5 v wx)
   case first=>
    go_region_held3 (fun w'=>G w' b8 0 (.slice fa p.funcs.length fc)/\G w' b8 1 (.slice aa p.args.length ac)/\G w' b8 2 (A p.entry)/\G w' b8 3 (A p.handler)/\G w' b8 4 (.slice da p.data.length dc)/\G w' b8 5 (.slice ba p.banks.length bc)/\G w' w.heap.size 0 (.slice sa3 x.inn.length sc3)/\G w' w.heap.size 1 (.slice a1 x.irq.length a0)/\G w' w.heap.size 2 (.int .u32 (x.ram:Int))/\G w' w.heap.size 3 (.int .u16 (x.fuel:Int)))
     ((refine(d3.out _ ?_).1;repeat' (first|with_reducible exact Below.refl _ _|with_reducible assumption|with_reducible refine Below.drew ?_|with_reducible refine Below.alloc ?_ Zn _|with_reducible refine Below.setCell ?_ Zn _)))
     (first
       |(go_at_call 24
         refine(gC (d3.out _ Zb).2.2).mono ?_;rintro e y1 ⟨rfl,g⟩;have c9:Below X5.heap.size X5 y1:=Below.trans Zb (g.mono Zn);have e8:=c9.size
         first|(have a4:L y1 X5.heap.size #[.int .u16 0,O,A 0,.int .u16 0,.string ⟨#[]⟩,A 0,A 0] 57:=zH g (show(World.alloc X5 _).heap[X5.heap.size]? =_ from zI rfl) Zs)|skip
         clear g)
       |(go_at_call 25
         refine(e0.out _ (d3.out _ Zb).2.2).mono ?_;rintro e y2 ⟨ia,ic,qa,qc,rfl,a5,a3,d⟩;have a5:=a5.mono zr d.size;have a3:=a3.mono xQ d.size;have c8:Below X5.heap.size X5 y2:=Below.trans Zb (d.mono Zn);have e7:=c8.size
         first|(have t:=zH d a4 (by first|exact lt_of_block a4|(have:=lt_of_block a4;simp;omega)))|(have t:L y2 y1.heap.size #[.int .u16 0,O,A 0,.int .u16 0,.string ⟨#[]⟩,A 0,A 0] 57:=zH d (by with_reducible exact zI rfl) Zs)|skip
         clear d)
       |(go_at_call 23
         refine(b7.out _ _ _ _ _ Zb (yN.mono zr (B:=y2.heap.size) (yN.below zr a5 (by repeat' (first|with_reducible exact Below.refl _ _|with_reducible refine Below.drew ?_|with_reducible refine Below.alloc ?_ Zn _))) Zn) (yN.mono xQ (B:=y2.heap.size) (yN.below xQ a3 (by repeat' (first|with_reducible exact Below.refl _ _|with_reducible refine Below.drew ?_|with_reducible refine Below.alloc ?_ Zn _))) Zn)).mono ?_;rintro e y4 ⟨oa,oc,rfl,b1,a6⟩;have a2:Below X5.heap.size X5 y4:=Below.trans Zb (a6.mono Zn);have e6:=a2.size
         first|(have c:=zH a6 t (by first|exact lt_of_block t|(have:=lt_of_block t;simp;omega)))|(have c:L y4 y2.heap.size #[.int .u16 0,O,A 0,.int .u16 0,.string ⟨#[]⟩,A 0,A 0] 57:=zH a6 (by with_reducible exact zI rfl) Zs)|skip
         first
          |(have y:y4.heap[X5.heap.size]? =some (.cells #[.int .u16 0,.slice none 0 0,.int .i64 0,.int .u16 0,.string ⟨#[]⟩,.int .i64 0,.int .i64 0] 57 (0,0)):=c;have c0:=zA (i:=0) c rfl;have c1:=zA (i:=1) c rfl;have c2:=zA (i:=2) c rfl;have c3:=zA (i:=3) c rfl;have c4:=zA (i:=4) c rfl;have c5:=zA (i:=5) c rfl;have c6:=zA (i:=6) c rfl;have cf:∀i,y4.frozen? ⟨X5.heap.size,i,none⟩=false:=fun i=>zE c;have cl:=lt_of_block c)
          |(have y:y4.heap[y1.heap.size]? =some (.cells #[.int .u16 0,.slice none 0 0,.int .i64 0,.int .u16 0,.string ⟨#[]⟩,.int .i64 0,.int .i64 0] 57 (0,0)):=c;have c0:=zA (i:=0) c rfl;have c1:=zA (i:=1) c rfl;have c2:=zA (i:=2) c rfl;have c3:=zA (i:=3) c rfl;have c4:=zA (i:=4) c rfl;have c5:=zA (i:=5) c rfl;have c6:=zA (i:=6) c rfl;have cf:∀i,y4.frozen? ⟨y1.heap.size,i,none⟩=false:=fun i=>zE c;have cl:=lt_of_block c)
          |(have y:y4.heap[y2.heap.size]? =some (.cells #[.int .u16 0,.slice none 0 0,.int .i64 0,.int .u16 0,.string ⟨#[]⟩,.int .i64 0,.int .i64 0] 57 (0,0)):=c;have c0:=zA (i:=0) c rfl;have c1:=zA (i:=1) c rfl;have c2:=zA (i:=2) c rfl;have c3:=zA (i:=3) c rfl;have c4:=zA (i:=4) c rfl;have c5:=zA (i:=5) c rfl;have c6:=zA (i:=6) c rfl;have cf:∀i,y4.frozen? ⟨y2.heap.size,i,none⟩=false:=fun i=>zE c;have cl:=lt_of_block c)
          |skip))
    all_goals go_wp2_with fail
    all_goals go_meet
    all_goals first|with_reducible exact gE a2 b1 c Zn|exact gN a2 b1
   case rest=>
    obtain⟨b11,oa5,oc5,rfl,b2⟩:=hcut;obtain⟨b3,f2,f3,f0⟩:=HR.out;have b0:=zH b2.out.2.2.2 r.out.2.1 (lt_of_block r.out.2.1);have h9:=zH b2.out.2.2.2 (zH r.out.2.2.2 u.out.2.1 (lt_of_block u.out.2.1)) (lt_of_block (zH r.out.2.2.2 u.out.2.1 (lt_of_block u.out.2.1)));have d2:=b2.out.2.1;have l9:=lt_of_block h9;have i7:=lt_of_block b0;have i6:=lt_of_block d2;have e1:G wc b11 1 (.slice oa5 0 oc5):=by have:=zA (i:=1) d2 rfl;rw[this];simp[adV,f0]
    have e2:G wc b11 2 (A 7):=by have:=zA (i:=2) d2 rfl;rw[this];simp[adV,f2]
    have e3:G wc b11 3 (.int .u16 0):=by have:=zA (i:=3) d2 rfl;rw[this];simp[adV,f3]
    have p0:G wc b9 0 (.int .u16 (R3.value:Int)):=zA h9 rfl;have p1:G wc b9 1 (.slice oa3 R3.out.length oc3):=zA h9 rfl;have p2:G wc b9 2 (A (R3.kind:Int)):=zA h9 rfl;have p3:G wc b9 3 (.int .u16 (R3.info:Int)):=zA h9 rfl;have p4:G wc b9 4 (.string (y9 R3.ram)):=zA h9 rfl;have p5:G wc b9 5 (A (R3.inputs:Int)):=zA h9 rfl;have p6:G wc b9 6 (A (R3.polls:Int)):=zA h9 rfl;have q0:G wc b10 0 (.int .u16 (R4.value:Int)):=zA b0 rfl;have q1:G wc b10 1 (.slice oa4 R4.out.length oc4):=zA b0 rfl;have q2:G wc b10 2 (A (R4.kind:Int)):=zA b0 rfl;have q3:G wc b10 3 (.int .u16 (R4.info:Int)):=zA b0 rfl;have q4:G wc b10 4 (.string (y9 R4.ram)):=zA b0 rfl;have q5:G wc b10 5 (A (R4.inputs:Int)):=zA b0 rfl;have q6:G wc b10 6 (A (R4.polls:Int)):=zA b0 rfl;have e4:=Ja (g4.out.trans ((u.out.2.2.2.trans ((r.out.2.2.2.trans (b2.out.2.2.2.mono r.out.2.2.2.size)).mono u.out.2.2.2.size)).mono g4.out.size));have g3:=Ja ((u.out.2.2.1.below vo (r.out.2.2.2.trans (b2.out.2.2.2.mono r.out.2.2.2.size))).mono vo (Jn r.out.2.2.2.size b2.out.2.2.2.size));have g2:=Ja ((r.out.2.2.1.below vo b2.out.2.2.2).mono vo b2.out.2.2.2.size);clear h9 b0 d2 f2 f3 f0
    by_cases h7:R3.kind=7
    ·obtain⟨v1,v2,v3,v4⟩:=b3.2 h7;rw[v1] at p0;rw[h7] at p2;have v2I:(R3.out.length:Int)<=(R4.out.length:Int):=Zo;have v3I:(R3.inputs:Int)<=(R4.inputs:Int):=Zo;have v4I:(R3.polls:Int)<=(R4.polls:Int):=Zo;clear b3 h7 v1;go_wp2;go_ret;exact⟨rfl,e4.out⟩
    ·have f1:=b3.1 h7;rw[f1] at q0 q1 q2 q3 q4 q5 q6 g2;have t7:((R3.kind:Int)==7)=false:=Ze;have i5:¬(R3.kind:Int)=7:=Zo;obtain⟨_,_,ef,j3,j4⟩:=g3.out.form;have i2:=Ja (acn (x:=(R3.value:Int)) (k:=(R3.kind:Int)) (i:=(R3.info:Int)) (p:=(R3.inputs:Int)) (q:=(R3.polls:Int)) (S:=y9 R3.ram) rfl Zo g3.out g2.out);clear b3 f1 h7 ef;go_wp2_with (go_at_call 22;go_must (refine i2.out.mono ?_;rintro e w7 ⟨rfl,f5⟩;have i4:=Ja f5;clear f5))
     go_ret;exact⟨rfl,e4.out.trans (i4.out.mono e4.out.size)⟩
end Go.Proofs.Ytojclalkfhoooaa
set_option maxRecDepth 100000
namespace Go.Proofs.Ytojclalkfhoooaa
open Go.ChangeShapes Go.WideShapes Go.ChangeAt Go.RowKit
variable {w0 w2:World}{oa:Option Addr}{oc:Nat}
section
variable {H:Type} {enc:TypeId×Value->H} {W:World} {v:Value} {d:DataW H} {p:List MemPlace} {r:Go.Reach} {base:Nat}
theorem u16_open (hv:Value.okWide Try.prog W r base 39 v)(g:DataW.Trod enc Try.prog W 0 (fun _=>true) true 39 v d p):∃x:Nat,v=.int .u16 (x:Int)/\x<65536:=by
 obtain⟨n,rfl,_,_,c⟩:=open_int Try.underlying39 hv g;have h:0<=n/\n<=65535:=by simpa[Lit.wf,IntKind.min,IntKind.max,IntKind.signed,IntKind.bits] using c
 exact⟨n.toNat,by rw[Oa h.1],by omega⟩
end
end Go.Proofs.Ytojclalkfhoooaa
