/- Part of a proof. -/
import Derived.Test.YtoahcpkibpomcaaGDom2
set_option linter.all false
set_option maxHeartbeats 3200000
set_option maxRecDepth 100000
namespace Go.Proofs.Ytoahcpkibpomcaa
open Go.RowKit
variable {w w':World}{C b12 b13 bh bp bt i k m1 m2:Nat}{m:Mach}{R:List (List Int)}{g:Int->Option Int}{c f ov sv:Value}{o:Obj}{x:Int}{blocks:List IBlk}{K:MK}{pv:List Value}
theorem zM {fn:Func}{p:Tmp}{ty:TypeId}(h:fn.results=#[.cell p ty])(c:Array Value)(P:Program)(w:World):
 (results fn c).run P w=((asAddr (c.getD p undef)).run P w).andThen fun a w₁=>(loadVar ty a).run P w₁:=by
 simp only[results,h];simp[Sem.run_bind,Result.andThen]
structure GMem (V w:World) (bp bh n m:Nat) (R:List (List Int)):Prop where
 hg:w.heap[bh]? =some (.cells #[.slice (some ⟨bp,0,none⟩) n n] 75 (0,0))
 hr:OwnRows zN 3 25 w V.heap.size bp R
 hl:R.length=n
 hrl:∀row∈R,row.length<=m
 hb:Below V.heap.size V w
 gp:V.heap.size<=bp
 gh:V.heap.size<=bh
theorem GMem.start (V:World)(n m:Nat):GMem V ((V.alloc (U (madeCells #[F] n) 25)).alloc (U #[L V.heap.size n n] 75)) V.heap.size (V.heap.size+1) n m (List.replicate n []):=by
 refine⟨zI Zs,OwnRows.made n ?_,by simp,(by intro r hr;rw[(List.mem_replicate.1 hr).2];simp),((Below.refl _ V).alloc (Je _) _).alloc Zs _,Je _,by omega⟩;rw[zB (zI rfl),yA]
theorem GMem.start' (V:World)(b:Nat)(hb:V.heap.size=b)(n m:Nat):GMem V ((V.alloc (U (madeCells #[F] n) 25)).alloc (U #[L b n n] 75)) b (b+1) n m (List.replicate n []):=by
 subst hb;exact GMem.start V n m
theorem GMem.alloc{V:World}{n m:Nat}(h:GMem V w bp bh n m R)(o:Obj):GMem V (w.alloc o) bp bh n m R:=
 ⟨zB h.hg,h.hr.kept (row:=none) ⟨rfl,rfl,rfl,by simp,fun k hk _=>Below.heap_alloc w o k hk⟩ Zs Zs,h.hl,h.hrl,h.hb.alloc h.hb.size o,h.gp,h.gh⟩
theorem GMem.put{V w2:World}{n m s g c H d:Nat}{row row':List Int}{a:Option Addr}(h:GMem V w bp bh n m R)(hs:R[s]? =some row)
 (hc:O w bp s (.slice a row.length d)) (hg:(w.alloc o).grownBy w2 (Value.slice a row.length d).ownBlock)
 (t:w2.ownsRow V.heap.size 3 1 (L g row'.length c) row'.length (row'.map zN)) (a0:(Value.slice a row.length d).ownBlock=some g∨g=H) (hH:w.heap.size<=H) (hm:row'.length<=m):
 GMem V (w2.setCell ⟨bp,s,none⟩ (L g row'.length c)) bp bh n m (R.set s row'):=by
 obtain⟨f,x,h3,a1,u,h5,h6⟩:=h;obtain⟨a',a2,l,i,_⟩:=x.get hs;rw[hc] at l;cases l;have n1:=zC i f (.inr Zd);have q:=x.put Zd hs hc hg (row':=row') t a0 hH;have l1:=lt_of_block f;obtain⟨cc,j⟩:=x.blk;have y:bh≠bp:=fun e=>by subst e;rw[f] at j;simp at j
 exact⟨zR (zL hg (zB f) n1) (by simpa using y),q,by simpa using h3,fun r hr=>by(rcases Qe hr with hr|rfl;exact a1 r hr;exact hm),((u.alloc (by have:=u.size;omega) o).grown hg (by have:=u.size;simp;omega) (fun k hk=>(i.lt k hk).1)).setCell h5 _,h5,h6⟩
section
variable {α:Type} {enc:α->Value} {e eS:TypeId} {w:World} {B bp:Nat} {rows:List (List α)}
theorem OwnRows.base (h:OwnRows enc e eS w B bp rows){B':Nat}(c:B'<=B):OwnRows enc e eS w B' bp rows:=by
 obtain⟨vs,i,g,f,d⟩:=h;exact⟨vs,i,g,fun k r v a b=>vY (f k r v a b) c,d⟩
theorem OwnRows.below(h:OwnRows enc e eS w B bp rows)(hb:Q w w'):OwnRows enc e eS w' B bp rows:=by
 obtain⟨vs,c,g,f,d⟩:=h;exact⟨vs,zH hb c (lt_of_block c),g,fun k r v a b=>p7 (f k r v a b) hb (Je _),d⟩
theorem OwnRows.set (h:OwnRows enc e eS w B bp rows){a:Addr}(c:a.block≠bp)(d:a.block<B)(u:Value):OwnRows enc e eS (w.setCell a u) B bp rows:=
 h.kept (w':=w.setCell a u) (row:=some a.block) ⟨rfl,rfl,rfl,by simp[World.setCell],fun k _ hk=>Below.heap_setCell _ _ _ _ (fun e=>hk (by rw[e]))⟩ (fun e=>c (by cases e;rfl)) (fun k hk=>by cases hk;exact d)
end
def mh (l:List ByteArray):Bool:=l.all fun s=>decide (s.size=4096)
def lF (o:IObj)(l:List IObj):Bool:=l.all fun x=>!uK o x
def lm (nb:Nat)(l:List IObj)(i:Nat):Bool:=match l[i]? with|some o=>sW nb o && lF o (l.take i)|none=>true
def ig (nb:Nat)(l:List IObj):Bool:=(List.range l.length).all (lm nb l)
def wB (p:IProg):Bool:=mh p.banks && ig p.banks.length p.data
theorem xX{α:Type}(f:α->Bool){l:List α}{x:α}(h:l[k]? =some x):(l.take (k+1)).all f=((l.take k).all f && f x):=by
 rw[Nh,h,List.all_append];simp
theorem aaN{α:Type}(f:α->Bool){l:List α}{x:α}(h:l[k]? =some x)(hf:f x=false):l.all f=false:=by
 rw[Um];exact⟨x,Ji h,by rw[hf];simp⟩
theorem mO{nb:Nat}{l:List IObj}(hi:i<l.length)(h:lm nb l i=false):ig nb l=false:=by
 unfold ig;rw[Um];exact⟨i,Ol.2 hi,by rw[h];simp⟩
def mQ (nb:Nat)(l:List IObj)(i:Nat):Bool:=(List.range i).all (lm nb l)
theorem nU (nb:Nat)(l:List IObj)(i:Nat):mQ nb l (i+1)=(mQ nb l i && lm nb l i):=by unfold mQ;rw[List.range_succ,List.all_append];simp
theorem kN{V:PV}{p:IProg}(hp:ProgIn w w.heap.size V p):
 A 61 #[yH V p] w fun e w'=>e=.returned (.bool (wB p))/\Q w w':=by
 obtain⟨Vf,Va,Vd,Vb⟩:=V;obtain⟨f1,f2,e1,_,_⟩:=hp.funcs.form;obtain⟨a1,a2,e2,_,_⟩:=hp.args.form;have c7:=hp.data;have c8:=hp.banks;obtain⟨d1,d2,e3,i1,k7⟩:=hp.data.form;obtain⟨b1,b2,e4,l3,l1⟩:=hp.banks.form;simp only at e1 e2 e3 e4 c7 c8;subst e1 e2 e3 e4;have HP:=Ja hp;have h4:=Ja c7;have k0:=Ja c8;unfold yH;simp only;have k9:p.data.length<=d2:=i1;have l2:p.banks.length<=9223372036854775807:=Zo;clear hp c7 c8;go_enter Try.func61,Try.ntmps61;go_upto_region 1 with fail;have h0:Q w (w.alloc (U (Z p f1 f2 a1 a2 d1 d2 b1 b2) 44)):=(Below.refl _ _).alloc (Je _) _;have b7:=zI (W:=w) (o:=U (Z p f1 f2 a1 a2 d1 d2 b1 b2) 44) rfl;generalize j9:w.alloc (U (Z p f1 f2 a1 a2 d1 d2 b1 b2) 44)=W0 at *;have m:=Ja h0;have c0:=Ja b7;have p5:=K5 b7;have p4:=K4 b7;clear j9 h0 b7;go_wp2
 go_loopw [12] (fun kv wx=>∃k:Nat,k<=p.banks.length/\kv=I k/\wx=W0/\Hid ((p.banks.take k).all (fun s=>decide (s.size=4096))=true)) (fun kv _=>p.banks.length-(intOf kv).toNat)
 case atStart=>exact⟨0,Jt _,rfl,rfl,by rfl⟩
 case round=>
  obtain⟨k,hk,rfl,rfl,HK⟩:=hrel;generalize i8:wr=W0 at *;clear i8
  by_cases d0:k<p.banks.length
  ·have h8:(k:Int)<p.banks.length:=Zo;have h6:=Ja d0;obtain⟨s,hs⟩:∃s,p.banks[k]? =some s:=⟨_,Jd d0⟩
   obtain⟨b,o,rfl,hb,hc,k6⟩:=k0.out.get hs;rw[Nk] at hc;have cs:=zV m.out hb hc;have a4:=xX (fun s:ByteArray=>decide (s.size=4096)) hs;have a5:=fun h=>aaN (fun s:ByteArray=>decide (s.size=4096)) hs h
   have HT:=Ja (Jb a4 a5);clear hs hc hb a4 a5 d0
   by_cases hq:s.size=4096
   ·have t1:((s.size:Int) !=4096)=false:=by rw[bne_eq_false_iff_eq];omega
    have HQ:=Ja hq;clear hq;go_wp2;go_roundw
    case rel=>exact⟨k+1,h6.out,by go_num,by trivial,Ja (by rw[HT.out.1,HK.out];simp[HQ.out])⟩
    case measure=>have:=h6.out;simp[intOf];omega
   ·have t1:((s.size:Int) !=4096)=true:=by rw[bne_iff_ne];omega
    have HQ:=Ja hq;clear hq;go_wp2;go_ret;refine⟨rH ?_,m.out⟩;have i0:mh p.banks=false:=HT.out.2 (by simp[HQ.out]);unfold wB;rw[i0];rfl
  ·obtain rfl:k=p.banks.length:=by omega
   have h8:¬(p.banks.length:Int)<p.banks.length:=Zo;have g7:mh p.banks=true:=by have:=HK.out;rw[Nl] at this;exact this
   have g1:wB p=ig p.banks.length p.data:=by unfold wB;rw[g7];rfl
   have d5:=Ja g1;clear g7 g1 HK;go_wp2
   go_loopw [23] (fun iv wx=>∃i:Nat,i<=p.data.length/\iv=I i/\Hid (Q W0 wx/\mQ p.banks.length p.data i=true)) (fun iv _=>p.data.length-(intOf iv).toNat)
   case atStart=>exact⟨0,Jt _,rfl,Below.refl _ _,by rfl⟩
   case round=>
    obtain⟨i,hi,rfl,HI⟩:=hrel
    by_cases u:i<p.data.length
    ·skip
     have e7:(i:Int)<p.data.length:=Zo;have e5:=Ja u;obtain⟨o,ho⟩:∃o,p.data[i]? =some o:=⟨_,Jd u⟩
     obtain⟨b,oo,rfl,hb,b0,a9,a6,g4,g5,g2⟩:=h4.out.get ho;have c:Q w wr:=m.out.trans (HI.out.1.mono m.out.size);have e0:=zV c hb b0;have e1:=zV c hb a9;have e2:=zV c hb a6;have x4:=zA (i:=4) (v:=.slice (some ⟨b,oo,none⟩) p.data.length d2) (zH HI.out.1 c0.out (lt_of_block c0.out)) Zs;have d3:=zH HI.out.1 c0.out (lt_of_block c0.out);have h5:=Ja (show I64 o.bank/\o.addr<65536/\o.size<65536 from⟨g4,g5,g2⟩);have l7:=Ja c;have HO:=Ja (Jb ho hb);have g3:lm p.banks.length p.data i=(sW p.banks.length o && lF o (p.data.take i)):=by unfold lm;rw[ho]
     have d7:=Ja g3;have g6:=fun h=>mO (nb:=p.banks.length) u h
     have h7:=Ja g6;clear ho hb b0 a9 a6 g4 g5 g2 u c g3 g6 p5 p4;go_upto_region 10 with fail;have a3:=zI (W:=wr) (o:=U #[I o.bank,M (o.addr:Int),M (o.size:Int)] 55) rfl;have f:=zB (o:=U #[I o.bank,M (o.addr:Int),M (o.size:Int)] 55) d3;have c2:=HI.out.1.alloc (HI.out.1.size) (U #[I o.bank,M (o.addr:Int),M (o.size:Int)] 55);have l0:W0.heap.size<=wr.heap.size:=HI.out.1.size;generalize j2:wr.alloc (U #[I o.bank,M (o.addr:Int),M (o.size:Int)] 55)=W1 at *;generalize wr.heap.size=b6 at *;have f3:=K0 a3;have f0:=K1 a3;have e8:=K2 a3;have y0:=K0 f;have y1:=K1 f;have y2:=K2 f;have y3:=K3 f;have y4:=K4 f;have y5:=K5 f;have l:=Ja (Jb c2 (m.out.trans (c2.mono m.out.size)));have HZ:=Ja (Jb a3 f);have a0:=kL ((HP.out.below l.out.2).mono l.out.2.size) o h5.out;unfold yH iz at a0;simp only at a0;have b4:=Ja a0;clear j2 a3 f c2 a0 d3 e0 e1 e2 x4;obtain⟨q1,c5⟩:∃q,sW p.banks.length o=q:=⟨_,rfl⟩
     rw[c5] at b4;have h3:=Ja c5;clear c5
     cases q1 with
     |false=>
      go_wp2_with (go_at_call 74;go_must (refine b4.out.mono ?_;rintro e w2 ⟨rfl,g⟩))
      go_ret;refine⟨rH ?_,l.out.2.trans (g.mono l.out.2.size)⟩;rw[d5.out]
      exact(h7.out (by rw[d7.out,h3.out];rfl)).symm
     |true=>
      go_upto_region 12 with(go_at_call 74;go_must (refine b4.out.mono ?_;rintro e w2 ⟨rfl,g⟩))
      have v4:=zA (i:=4) (v:=.slice (some ⟨b,oo,none⟩) p.data.length d2) (zH g HZ.out.2 (lt_of_block HZ.out.2)) Zs;have h1:=Ja (Jb (zH g HZ.out.1 (lt_of_block HZ.out.1)) g);have c3:=l.out.2.trans (g.mono l.out.2.size);have d:=Ja (Jb c3 (l.out.1.trans (g.mono l.out.1.size)));have k1:i<=d2:=Zo;clear f3 f0 e8 y0 y1 y2 y3 y4 y5 g c3;go_wp2
      go_loopw [37] (fun jv wx=>∃j:Nat,j<=i/\jv=I j/\Hid (Q w2 wx/\lF o (p.data.take j)=true)) (fun jv _=>i-(intOf jv).toNat)
      case atStart=>exact⟨0,Jt _,rfl,Below.refl _ _,by rfl⟩
      case round=>
       obtain⟨j,hj,rfl,HJ⟩:=hrel
       by_cases b3:j<i
       ·have e6:(j:Int)<i:=Zo;have d8:=Ja b3;obtain⟨x,hx⟩:∃x,p.data[j]? =some x:=⟨_,Jd Zo⟩
        obtain⟨b',o',e',b9,b0,a9,a6,f6,f9,f5⟩:=h4.out.get hx;cases e';have c:=d.out.1.trans (HJ.out.1.mono d.out.1.size);have e0:=zV c b9 b0;have e1:=zV c b9 a9;have e2:=zV c b9 a6;have f4:=zH HJ.out.1 h1.out.1 (lt_of_block h1.out.1);have h9:=Ja (show I64 x.bank/\x.addr<65536/\x.size<65536 from⟨f6,f9,f5⟩);have a4:=xX (fun y=>!uK o y) hx;have g0:(p.data.take i)[j]? =some x:=by rw[Ug,if_pos b3];exact hx
        have a5:=fun h=>aaN (fun y=>!uK o y) g0 h
        have HT:=Ja (Jb a4 a5);have k2:=Ja c;clear hx b9 b0 a9 a6 f6 f9 f5 a4 a5 g0 b3 c;go_upto_region 15 with fail;have b5:=zI (W:=wr) (o:=U #[I x.bank,M (x.addr:Int),M (x.size:Int)] 55) rfl;have t:=zB (o:=U #[I x.bank,M (x.addr:Int),M (x.size:Int)] 55) f4;have g8:=HJ.out.1.alloc HJ.out.1.size (U #[I x.bank,M (x.addr:Int),M (x.size:Int)] 55);generalize j1:wr.alloc (U #[I x.bank,M (x.addr:Int),M (x.size:Int)] 55)=W8 at *;generalize wr.heap.size=b8 at *;have f3:=K0 t;have f0:=K1 t;have e8:=K2 t;have k5:=K0 b5;have k4:=K1 b5;have k3:=K2 b5;have c9:=nT W8 o x h5.out h9.out;unfold iz at c9;have d6:=Ja c9;have c1:=Ja g8;clear j1 b5 t f4 g8 c9 e0 e1 e2;obtain⟨q2,c4⟩:∃q,uK o x=q:=⟨_,rfl⟩
        rw[c4] at d6;have h2:=Ja c4;clear c4
        cases q2 with
        |true=>
         go_wp2_with (go_at_call 75;go_must (refine d6.out.mono ?_;rintro e w3 ⟨rfl,d4⟩))
         go_ret;have i2:=c1.out.trans (d4.mono c1.out.size);refine⟨rH ?_,d.out.1.trans (i2.mono d.out.1.size)⟩;rw[d5.out]
         exact(h7.out (by rw[d7.out];unfold lF;rw[HT.out.2 (by rw[h2.out];rfl),Uh])).symm
        |false=>
         go_wp2_with (go_at_call 75;go_must (refine d6.out.mono ?_;rintro e w3 ⟨rfl,d4⟩))
         go_roundw
         case rel=>exact⟨j+1,d8.out,by go_num,Ja ⟨c1.out.trans (d4.mono c1.out.size),by unfold lF;rw[HT.out.1];have:=HJ.out.2;unfold lF at this;rw[this,h2.out];rfl⟩⟩
         case measure=>have:=d8.out;simp[intOf];omega
       ·obtain rfl:j=i:=by omega
        have e6:¬(j:Int)<j:=Zo;go_wp2;go_roundw
        case rel=>
         refine⟨j+1,e5.out,by go_num,Ja ⟨d.out.2.trans (HJ.out.1.mono d.out.2.size),?_⟩⟩;rw[nU,HI.out.2,d7.out,h3.out,HJ.out.2];rfl
        case measure=>have:=e5.out;simp[intOf];omega
    ·obtain rfl:i=p.data.length:=by omega
     have e7:¬(p.data.length:Int)<p.data.length:=Zo;go_wp2;go_ret;refine⟨rH ?_,m.out.trans (HI.out.1.mono m.out.size)⟩;rw[d5.out];exact HI.out.2.symm
def tX (n:Int):Bool:=decide (0<=n) && decide (n<=8)
def sR (p:IProg):Int:=
 if 2000<p.funcs.length∨512<p.data.length∨64<p.banks.length then 2
 else if p.args.length≠p.funcs.length then 1
 else if p.args.all tX=false then 1
 else if yw p p.entry=false∨(p.handler≠-1/\yw p p.handler=false) then 1
 else if wB p=false then 37
 else 0
def m9 (w:World)(x:Int)(e:Ending)(w':World):Prop:=e=.returned (I x)/\Q w w'
theorem kB{V:PV}{p:IProg}(hp:ProgIn w w.heap.size V p):A 26 #[yH V p] w (m9 w (sR p)):=by
 have i:∀(W:World),Q w W->p.args.length=p.funcs.length->∀f,A 60 #[yH V p,I f] W fun e w'=>e=.returned (.bool (yw p f))/\Q W w':=fun W hb hl f=>kR ((hp.below hb).mono hb.size) hl f
 have j:∀(W:World),Q w W->A 61 #[yH V p] W fun e w'=>e=.returned (.bool (wB p))/\Q W w':=fun W hb=>kN ((hp.below hb).mono hb.size)
 obtain⟨Vf,Va,Vd,Vb⟩:=V;obtain⟨f1,f2,e1,_,_⟩:=hp.funcs.form;have c0:=hp.args;obtain⟨a1,a2,e2,_,_⟩:=hp.args.form;obtain⟨d1,d2,e3,_,_⟩:=hp.data.form;obtain⟨b1,b2,e4,_,_⟩:=hp.banks.form;simp only at e1 e2 e3 e4 c0;subst e1 e2 e3 e4;unfold yH at i j ⊢;simp only at i j ⊢;have f0:p.args.length<=9223372036854775807:=Zo;have e7:=Ja c0;have d3:=Ja i;have d6:=Ja j;have b3:Q w (w.alloc (U (Z p f1 f2 a1 a2 d1 d2 b1 b2) 44)):=(Below.refl _ _).alloc (Je _) _;have l:=zI (W:=w) (o:=U (Z p f1 f2 a1 a2 d1 d2 b1 b2) 44) rfl;obtain⟨q1,h1⟩:∃q,decide (2000<p.funcs.length)=q:=⟨_,rfl⟩
 obtain⟨q2,h2⟩:∃q,decide (512<p.data.length)=q:=⟨_,rfl⟩
 obtain⟨q3,h3⟩:∃q,decide (64<p.banks.length)=q:=⟨_,rfl⟩
 have f5:decide ((2000:Int)<(p.funcs.length:Int))=q1:=zZ h1 Zo;have f4:decide ((512:Int)<(p.data.length:Int))=q2:=zZ h2 Zo;have f3:decide ((64:Int)<(p.banks.length:Int))=q3:=zZ h3 Zo;have HQ:=Ja (Jb h1 (Jb h2 h3));clear hp c0 i j
 by_cases u:q1=true∨q2=true∨q3=true
 ·have hh:sR p=2:=by
   unfold sR;rw[if_pos];rcases u with e|e|e
   ·exact .inl (of_decide_eq_true (HQ.out.1.trans e))
   ·exact .inr (.inl (of_decide_eq_true (HQ.out.2.1.trans e)))
   ·exact .inr (.inr (of_decide_eq_true (HQ.out.2.2.trans e)))
  rw[hh];have HB:=Ja u;clear hh u l;cases q1<;>cases q2<;>cases q3
  all_goals first
   |(exfalso;have:=HB.out;simp at this;done)
   |(go_enter Try.func26,Try.ntmps26
     go_wp2;go_ret
     exact⟨rfl,b3⟩)
 ·obtain⟨e1,e2,e3⟩:q1=false/\q2=false/\q3=false:=by
   cases q1<;>cases q2<;>cases q3<;>simp at u ⊢
  subst e1 e2 e3
  have c8:sR p=if p.args.length≠p.funcs.length then 1 else if p.args.all tX=false then 1 else if yw p p.entry=false∨(p.handler≠-1/\yw p p.handler=false) then 1 else if wB p=false then 37 else 0:=by
   unfold sR;rw[if_neg];rintro(e|e|e)
   ·exact absurd e (of_decide_eq_false HQ.out.1)
   ·exact absurd e (of_decide_eq_false HQ.out.2.1)
   ·exact absurd e (of_decide_eq_false HQ.out.2.2)
  rw[c8];clear c8 u
  by_cases hl:p.args.length=p.funcs.length
  ·rw[if_neg (fun h=>h hl)];generalize b6:(if p.args.all tX=false then(1:Int) else if yw p p.entry=false∨(p.handler≠-1/\yw p p.handler=false) then 1 else if wB p=false then 37 else 0)=res;have c3:=Ja b6;clear b6;have t1:((p.args.length:Int) !=(p.funcs.length:Int))=false:=by rw[bne_eq_false_iff_eq];omega
   have HL:=Ja hl;clear hl;go_enter Try.func26,Try.ntmps26;go_upto_region 5 with fail;generalize e6:w.alloc (U (Z p f1 f2 a1 a2 d1 d2 b1 b2) 44)=W0 at *;have g:=Ja b3;have a0:=Ja l;have y0:=K0 l;have y1:=K1 l;have y2:=K2 l;have y3:=K3 l;have y4:=K4 l;have y5:=K5 l;clear e6 b3 l;go_wp2
   go_loopw [31] (fun kv wx=>∃k:Nat,k<=p.args.length/\kv=I k/\wx=W0/\Hid ((p.args.take k).all tX=true)) (fun kv _=>p.args.length-(intOf kv).toNat)
   case atStart=>exact⟨0,Jt _,rfl,rfl,by rfl⟩
   case round=>
    obtain⟨k,hk,rfl,rfl,HK⟩:=hrel;generalize e5:wr=W0 at *;clear e5
    by_cases c1:k<p.args.length
    ·have d8:(k:Int)<p.args.length:=Zo;have d7:=Ja c1;obtain⟨n,hn⟩:∃n,p.args[k]? =some n:=⟨_,Jd c1⟩
     obtain⟨b,o,rfl,hb,hc,e8⟩:=e7.out.get hn;rw[Nk] at hc;have cn:=zV g.out hb hc;have HT:=Ja (Jb (xX tX hn) (fun h=>aaN tX hn h));obtain⟨q1,g1⟩:∃q,decide (0<=n)=q:=⟨_,rfl⟩
     obtain⟨q2,g2⟩:∃q,decide (n<=8)=q:=⟨_,rfl⟩
     have d0:decide (n<0)=!q1:=by rw[<-g1];by_cases h:0<=n<;>simp[h]<;>omega
     have c9:decide (8<n)=!q2:=by rw[<-g2];by_cases h:n<=8<;>simp[h]<;>omega
     have HA:=Ja (show tX n=(q1 && q2) by unfold tX;rw[g1,g2]);clear hn hc hb c1 g1 g2;cases q1<;>cases q2
     case true.true=>
      simp only[Bool.not_true] at d0 c9;go_wp2;go_roundw
      case rel=>exact⟨k+1,d7.out,by go_num,by trivial,Ja (by rw[HT.out.1,HK.out,HA.out];rfl)⟩
      case measure=>have:=d7.out;simp[intOf];omega
     all_goals simp only[Bool.not_true,Bool.not_false] at d0 c9
     all_goals go_wp2
     all_goals go_ret
     all_goals refine⟨zh ?_,g.out⟩
     all_goals rw[<-c3.out,if_pos (HT.out.2 (by rw[HA.out];rfl))]
    ·obtain rfl:k=p.args.length:=by omega
     have d8:¬(p.args.length:Int)<p.args.length:=Zo;have c2:p.args.all tX=true:=by have:=HK.out;rw[Nl] at this;exact this
     have b7:=c3.out;rw[if_neg (by rw[c2];simp)] at b7;have b5:=Ja b7;clear b7 c2 HK;go_upto_region 11 with fail;obtain⟨qe,b9⟩:∃q,yw p p.entry=q:=⟨_,rfl⟩
     have c7:A 60 #[.agg (Z p f1 f2 a1 a2 d1 d2 b1 b2),I p.entry] W0 fun e w'=>e=.returned (.bool qe)/\Q W0 w':=by rw[<-b9];exact d3.out _ g.out HL.out _
     have b4:=Ja c7;have c4:=Ja b9;clear c7 b9
     cases qe with
     |false=>
      go_wp2_with (go_at_call 60;go_must (refine b4.out.mono ?_;rintro e w2 ⟨rfl,m⟩))
      go_ret;refine⟨zh ?_,g.out.trans (m.mono g.out.size)⟩
      rw[<-b5.out,if_pos (.inl c4.out)]
     |true=>
      by_cases hh:p.handler=-1
      ·have t2:(p.handler !=-1)=false:=by rw[bne_eq_false_iff_eq];exact hh
       have a5:Hid ((if wB p=false then(37:Int) else 0)=res):=by
        have h:=b5.out;rw[if_neg (by rintro(e|e);(rw[c4.out] at e;cases e);exact e.1 hh)] at h;exact h
       clear hh;go_upto_region 13 with(go_at_call 60;go_must (refine b4.out.mono ?_;rintro e w2 ⟨rfl,m⟩;have c:=zH m a0.out (lt_of_block a0.out);have u0:=K0 c;have u1:=K1 c;have u2:=K2 c;have u3:=K3 c;have u4:=K4 c;have u5:=K5 c))
       have d:=g.out.trans (m.mono g.out.size);obtain⟨qp,t⟩:∃q,wB p=q:=⟨_,rfl⟩
       have a3:A 61 #[.agg (Z p f1 f2 a1 a2 d1 d2 b1 b2)] w2 fun e w'=>e=.returned (.bool qp)/\Q w2 w':=by rw[<-t];exact d6.out _ d
       have a9:=Ja a3;have a6:=Ja t;clear a3 t
       cases qp with
       |false=>
        go_wp2_with (go_at_call 61;go_must (refine a9.out.mono ?_;rintro e w5 ⟨rfl,x⟩))
        go_ret;refine⟨zh ?_,(d).trans (x.mono (d).size)⟩
        rw[<-a5.out,if_pos a6.out]
       |true=>
        go_wp2_with (go_at_call 61;go_must (refine a9.out.mono ?_;rintro e w5 ⟨rfl,x⟩))
        go_ret;refine⟨zh ?_,(d).trans (x.mono (d).size)⟩;rw[<-a5.out,if_neg (by rw[a6.out];simp)]
      ·have t2:(p.handler !=-1)=true:=by rw[bne_iff_ne];exact hh
       obtain⟨qh,b8⟩:∃q,yw p p.handler=q:=⟨_,rfl⟩
       have d5:=Ja b8;have c5:∀W,Q w W->A 60 #[.agg (Z p f1 f2 a1 a2 d1 d2 b1 b2),I p.handler] W fun e w'=>e=.returned (.bool qh)/\Q W w':=fun W hb=>by rw[<-b8];exact d3.out _ hb HL.out _
       have d4:=Ja c5;have HH:=Ja hh;have g1:True:=trivial;clear hh b8 c5
       cases qh with
       |false=>
        go_wp2_with (first|(go_at_call 60;have e0:=g1;clear g1;go_must (refine b4.out.mono ?_;rintro e w2 ⟨rfl,m⟩;have c:=zH m a0.out (lt_of_block a0.out);have u0:=K0 c;have u1:=K1 c;have u2:=K2 c;have u3:=K3 c;have u4:=K4 c;have u5:=K5 c;have d:=g.out.trans (m.mono g.out.size)))|(go_at_call 60;go_must (refine(d4.out _ d).mono ?_;rintro e w4 ⟨rfl,b0⟩)))
        go_ret;refine⟨zh ?_,d.trans (b0.mono d.size)⟩
        rw[<-b5.out,if_pos (.inr ⟨HH.out,d5.out⟩)]
       |true=>
        have a5:Hid ((if wB p=false then(37:Int) else 0)=res):=by
         have h:=b5.out;rw[if_neg (by rintro(e|e);(rw[c4.out] at e;cases e);(rw[d5.out] at e;cases e.2))] at h;exact h
        go_upto_region 13 with(first|(go_at_call 60;have e0:=g1;clear g1;go_must (refine b4.out.mono ?_;rintro e w2 ⟨rfl,m⟩;have c:=zH m a0.out (lt_of_block a0.out);have u0:=K0 c;have u1:=K1 c;have u2:=K2 c;have u3:=K3 c;have u4:=K4 c;have u5:=K5 c;have d:=g.out.trans (m.mono g.out.size)))|(go_at_call 60;go_must (refine(d4.out _ d).mono ?_;rintro e w4 ⟨rfl,b0⟩;have y:=zH b0 c (lt_of_block c);have v0:=K0 y;have v1:=K1 y;have v2:=K2 y;have v3:=K3 y;have v4:=K4 y;have v5:=K5 y)))
        have a4:=d.trans (b0.mono d.size);obtain⟨qp,t⟩:∃q,wB p=q:=⟨_,rfl⟩
        have a3:A 61 #[.agg (Z p f1 f2 a1 a2 d1 d2 b1 b2)] w4 fun e w'=>e=.returned (.bool qp)/\Q w4 w':=by rw[<-t];exact d6.out _ a4
        have a9:=Ja a3;have a6:=Ja t;clear a3 t
        cases qp with
        |false=>
         go_wp2_with (go_at_call 61;go_must (refine a9.out.mono ?_;rintro e w5 ⟨rfl,x⟩))
         go_ret;refine⟨zh ?_,(a4).trans (x.mono (a4).size)⟩
         rw[<-a5.out,if_pos a6.out]
        |true=>
         go_wp2_with (go_at_call 61;go_must (refine a9.out.mono ?_;rintro e w5 ⟨rfl,x⟩))
         go_ret;refine⟨zh ?_,(a4).trans (x.mono (a4).size)⟩;rw[<-a5.out,if_neg (by rw[a6.out];simp)]
  ·rw[if_pos hl];have t1:((p.args.length:Int) !=(p.funcs.length:Int))=true:=by rw[bne_iff_ne];omega
   clear hl l;go_enter Try.func26,Try.ntmps26;go_wp2;go_ret;exact⟨rfl,b3⟩
open Go.RowKit Go.Maps
theorem px (w:World):(zeroValue 3).run Try.prog w=.ok (I 0) w:=by kernel_rfl
def wA (w:World)(b n:Nat)(g:Int->Option Int):Prop:=
 ∃D:DataW Unit,w.ownsMap Try.prog 3 (plainElem Try.prog 3) b n D/\∀x,I64 x->D.atKey (.int .i64 x) (.lit (.int .i64 0))=.lit (.int .i64 ((g x).getD 0))/\Maps.has D (.int .i64 x)=(g x).isSome
theorem wA.made (w:World):wA (w.alloc (.map #[] 0)) w.heap.size 0 (fun _=>none):=⟨_,World.ownsMap_made _ _ _ _,fun _ _=>⟨rfl,rfl⟩⟩
theorem wA.blk{b n:Nat}(h:wA w b n g):∃es clock,w.heap[b]? =some (.map es clock):=by
 obtain⟨D,⟨es,clock,c,f⟩,d⟩:=h;exact⟨es,clock,c⟩
theorem wA.same{b n:Nat}(h:wA w b n g)(hb:w'.heap[b]? =w.heap[b]?):wA w' b n g:=by
 obtain⟨D,⟨es,c,i,f⟩,d⟩:=h;exact⟨D,⟨es,c,hb.trans i,f⟩,d⟩
theorem wA.look{b n:Nat}(h:wA w b n g)(i:I64 x):
 (Instr.lookup 105 (.map (some b)) (.int .i64 x) false).run Try.prog w=.ok (.int .i64 ((g x).getD 0)) w:=by
 obtain⟨D,h,hf⟩:=h;obtain⟨c,f,d,j⟩:=h.lookup_int xH Try.underlying105 Try.underlying3 (px w) (vB i);rw[(hf x i).1] at d;simp only[DataW.lit.injEq,Lit.int.injEq,true_and] at d;subst d;exact f
theorem wA.lookOk{b n:Nat}(h:wA w b n g)(f:I64 x):
 (Instr.lookup 105 (.map (some b)) (.int .i64 x) true).run Try.prog w=.ok (.tuple #[.int .i64 ((g x).getD 0),.bool (g x).isSome]) w:=by
 obtain⟨D,h,hf⟩:=h;obtain⟨v,ps,d,hv⟩:=h.look_ok xH Try.underlying105 (px w) (plainElem_int Try.underlying3 Zd) (vB f);rw[(hf x f).1] at hv;obtain⟨c,rfl,i,_⟩:=plainElem_int_inv Try.underlying3 hv;simp only[Prod.mk.injEq,DataW.lit.injEq,Lit.int.injEq,true_and] at i;rw[(hf x f).2,<-i.1] at d;exact d
def lS (g:Int->Option Int)(x v:Int):Int->Option Int:=fun y=>if y=x then some v else g y
def opF (p:IProg)(o:IOp):Bool:=
 (zi o.code).is &&
  (if o.code=26 then decide (0<=o.a) && decide (o.a<p.funcs.length) && decide ((o.args.length:Int)=p.args.getD o.a.toNat 0) && decide (-1<=o.res) && decide (o.b=0) && decide (o.n=0)
   else if o.code=2 then decide (0<=o.a) && decide (o.a<p.data.length) && decide (0<=o.res) && decide (o.b=0) && decide (o.args.length=0)
   else decide ((zi o.code).res=decide (0<=o.res)) && decide (-1<=o.res) && ((zi o.code).a||decide (o.a=0)) && ((zi o.code).b||decide (o.b=0)) && ((zi o.code).n||decide (o.n=0)) && decide (o.args.length=0) &&
    (decide (o.code≠24) && decide (o.code≠25)||decide (1<=o.n) && decide (o.n<=255)))
def uM (blocks:List IBlk)(e:IEdge):Bool:=decide (1<=e.block) && decide (e.block<blocks.length) && decide (e.args.length=(xz blocks e.block).params.length)
def wn (blocks:List IBlk)(t:ITerm):Bool:=
 t.to.all (uM blocks) &&
  (if t.kind=1 then decide (t.to.length=1) && decide (t.a=0)
   else if t.kind=2 then decide (t.to.length=2)
   else if t.kind=3 then decide (1<=t.to.length)
   else if t.kind=4 then decide (t.to.length=0)
   else if t.kind=5 then decide (t.to.length=0) && decide (t.a=0)
   else false)
abbrev wO:=(Int->Option Int)×(Int->Option Int)
variable {d d':wO}
def rB (d:wO)(v i k:Int):Option wO:=if(d.1 v).isSome∨v<0∨65535<v then none else some (lS d.1 v i,lS d.2 v k)
def vJ (i:Int):List Int->wO->Option wO
 | [],d=>some d
 |v::vs,d=>(rB d v i (-1)).bind (vJ i vs)
def sS (p:IProg)(i:Int):List IOp->Int->wO->Option wO
 | [],_,d=>some d
 |o::os,k,d=>if opF p o then(if 0<=o.res then(rB d o.res i k).bind (sS p i os (k+1)) else sS p i os (k+1) d) else none
def pS (p:IProg)(blocks:List IBlk)(i:Int)(b:IBlk)(d:wO):Option wO:=
 ((vJ i b.params d).bind (sS p i b.ops 0)).bind fun d'=>if wn blocks b.term then some d' else none
def uH (p:IProg)(blocks:List IBlk):List IBlk->Int->wO->Option wO
 | [],_,d=>some d
 |b::bs,i,d=>(pS p blocks i b d).bind (uH p blocks bs (i+1))
def wg (p:IProg)(blocks:List IBlk):Option wO:=uH p blocks blocks 0 (fun _=>none,fun _=>none)
theorem aeP {p:IProg}{o:IOp}(h:opF p o=true):OkOp p o:=by
 unfold opF at h;rw[Jm] at h;obtain⟨d,c⟩:=h;refine⟨?_,?_,?_⟩
 ·have:=rJ o.code;rcases this with⟨h,e⟩|⟨h,e⟩|⟨h,e⟩|⟨h,e⟩|⟨h,e⟩|⟨h,e⟩|⟨h,e⟩|⟨h,e⟩
  all_goals first|omega|(rw[e] at d;exact absurd d Zd)
 ·intro h;rw[if_neg Zo,if_pos h] at c;simp only[Jm,decide_eq_true_eq] at c;omega
 ·intro h;rw[if_pos h] at c;simp only[Jm,decide_eq_true_eq] at c;omega
theorem acV{t:ITerm}(h:wn blocks t=true):bS blocks t:=by
 unfold wn at h;rw[Jm,Oe] at h;obtain⟨d,c⟩:=h
 have hk:t.kind=1/\t.to.length=1∨t.kind=2/\t.to.length=2∨t.kind=3/\1<=t.to.length∨t.kind=4∨t.kind=5:=by
  by_cases k1:t.kind=1
  ·rw[if_pos k1] at c;simp only[Jm,decide_eq_true_eq] at c;exact .inl ⟨k1,c.1⟩
  by_cases k2:t.kind=2
  ·rw[if_neg k1,if_pos k2] at c;simp only[decide_eq_true_eq] at c;exact .inr (.inl ⟨k2,c⟩)
  by_cases k3:t.kind=3
  ·rw[if_neg k1,if_neg k2,if_pos k3] at c;simp only[decide_eq_true_eq] at c;exact .inr (.inr (.inl ⟨k3,c⟩))
  by_cases k4:t.kind=4
  ·exact .inr (.inr (.inr (.inl k4)))
  by_cases k5:t.kind=5
  ·exact .inr (Zi k5)
  rw[if_neg k1,if_neg k2,if_neg k3,if_neg k4,if_neg k5] at c;cases c
 refine⟨by omega,by omega,by omega,by omega,fun e he=>?_⟩;have:=d e he;unfold uM at this;simp only[Jm,decide_eq_true_eq] at this;omega
def rR (o:IOp):List Int:=(if(zi o.code).a then [o.a] else [])++(if(zi o.code).b then [o.b] else [])++o.args
def ut (t:ITerm):Bool:=decide (t.kind=2)||(decide (t.kind=3)||decide (t.kind=4) && decide (t.a≠-1))
def mE (t:ITerm):List Int:=(if ut t then [t.a] else [])++(t.to.map (·.args)).flatten
def zy (blocks:List IBlk):List (List Nat):=blocks.map fun b=>b.term.to.map fun e=>e.block.toNat
def yy (d:wO)(g:List (List Nat))(i k:Int)(v:Int):Bool:=
 match d.1 v,d.2 v with
 |some b,some a=>!(decide (b=i) && decide (k<=a)) && wE g b.toNat i.toNat
 |_,_=>false
def xF (d:wO)(g:List (List Nat))(i:Int):List IOp->Int->Bool
 | [],_=>true
 |o::os,k=>(rR o).all (yy d g i k) && xF d g i os (k+1)
def aaC (d:wO)(g:List (List Nat))(b:IBlk)(i:Int):Bool:=xF d g i b.ops 0 && (mE b.term).all (yy d g i b.ops.length)
def tO (d:wO)(g:List (List Nat)):List IBlk->Int->Bool
 | [],_=>true
 |b::bs,i=>aaC d g b i && tO d g bs (i+1)
def iM (blocks:List IBlk)(d:wO):Bool:=decide ((vD (zy blocks)).length=blocks.length) && tO d (zy blocks) blocks 0
def yi (p:IProg)(n:Nat):Bool:=
 match p.funcs.getD n [] with
 | []=>true
 |b::bs=>decide ((b.params.length:Int)=p.args.getD n 0) && ((wg p (b::bs)).map (iM (b::bs))).getD false
def vC (p:IProg):Int:=if sR p≠0 then sR p else if(List.range p.funcs.length).all (yi p) then 0 else 51
theorem uX {i:Int}:∀(l m:List Int) (d:wO),vJ i (l++m) d=(vJ i l d).bind (vJ i m)
 | [],m,d=>rfl
 |v::l,m,d=>by
  show(rB d v i (-1)).bind (vJ i (l++m))=((rB d v i (-1)).bind (vJ i l)).bind (vJ i m)
  cases rB d v i (-1) with
  |none=>rfl
  |some d'=>exact uX l m d'
theorem nF{p:IProg}{i:Int}{b:IBlk}(h:pS p blocks i b d=some d'):wn blocks b.term=true/\∃d1,vJ i b.params d=some d1/\sS p i b.ops 0 d1=some d':=by
 unfold pS at h
 cases f:vJ i b.params d with
 |none=>rw[f] at h;cases h
 |some d1=>
  rw[f,Nw] at h
  cases c:sS p i b.ops 0 d1 with
  |none=>rw[c] at h;cases h
  |some d2=>
   rw[c,Nw] at h
   split at h
   ·cases h;exact⟨‹_›,d1,rfl,c⟩
   ·cases h
theorem nk {p:IProg}{i:Int}:∀(os:List IOp) (k:Int) (d d':wO),sS p i os k d=some d'->∀o∈os,opF p o=true
 | [],_,_,_,_,o,ho=>by cases ho
 |x::os,k,d,d',h,o,ho=>by
  unfold sS at h
  split at h
  ·rename_i hx
   rcases Jq.1 ho with rfl|ho
   ·exact hx
   ·split at h
    ·cases h1:rB d x.res i k with
     |none=>rw[h1] at h;cases h
     |some d1=>rw[h1,Nw] at h;exact nk os _ _ _ h o ho
    ·exact nk os _ _ _ h o ho
  ·cases h
theorem rV{p:IProg}:∀(bs:List IBlk) (i:Int) (d d':wO),uH p blocks bs i d=some d'->∀b∈bs,(∀o∈b.ops,opF p o=true)/\wn blocks b.term=true
 | [],_,_,_,_,b,hb=>by cases hb
 |x::bs,i,d,d',h,b,hb=>by
  unfold uH at h
  cases h1:pS p blocks i x d with
  |none=>rw[h1] at h;cases h
  |some d1=>
   rw[h1,Nw] at h;rcases Jq.1 hb with rfl|hb
   ·obtain⟨h2,d2,_,h3⟩:=nF h1;exact⟨nk _ _ _ _ h3,h2⟩
   ·exact rV bs _ _ _ h b hb
theorem tF {p:IProg}{n:Nat}{b:IBlk}{bs:List IBlk}(hf:p.funcs[n]? =some (b::bs))(h:yi p n=true):
 (b.params.length:Int)=p.args.getD n 0/\∃d,wg p (b::bs)=some d/\iM (b::bs) d=true:=by
 unfold yi at h;rw[Jj,hf,Ot] at h;simp only[Jm,decide_eq_true_eq] at h;obtain⟨g,c⟩:=h;refine⟨g,?_⟩
 cases f:wg p (b::bs) with
 |none=>rw[f] at c;cases c
 |some d=>rw[f] at c;exact⟨d,rfl,c⟩
theorem se {p:IProg}(h:sR p=0):(p.funcs.length<=2000/\p.data.length<=512/\p.banks.length<=64)/\p.args.length=p.funcs.length/\p.args.all tX=true/\yw p p.entry=true/\(p.handler≠-1->yw p p.handler=true)/\wB p=true:=by
 unfold sR at h
 split at h
 ·omega
 split at h
 ·omega
 split at h
 ·omega
 split at h
 ·omega
 split at h
 ·omega
 rename_i j i g c f
 refine⟨by omega,by simpa using i,by simpa using g,?_,?_,by simpa using f⟩
 ·simpa using fun e=>c (.inl e)
 ·intro d
  simpa using fun e=>c (.inr ⟨d,e⟩)
theorem rz {p:IProg}(h:vC p=0):sR p=0/\∀n,n<p.funcs.length->yi p n=true:=by
 unfold vC at h
 split at h
 ·rename_i c;exact absurd h c
 ·rename_i c
  refine⟨by omega,?_⟩
  split at h
  ·rename_i f
   intro n d;exact Oe.1 f n (Ol.2 d)
  ·omega
theorem jM {p:IProg}(h:vC p=0)(l:∀blocks∈p.funcs,∀b∈blocks,b.params.length<=65536):OkProg p:=by
 obtain⟨h0,k⟩:=rz h;obtain⟨_,t,j,_,w,g⟩:=se h0
 have m:∀i,0<=p.args.getD i 0/\p.args.getD i 0<=8:=by
  intro i;rw[Jj]
  cases u:p.args[i]? with
  |none=>simp
  |some x=>
   have:=Oe.1 j x (Ji u);unfold tX at this;simp only[Jm,decide_eq_true_eq] at this;exact this
 refine⟨fun blocks hb b hbb=>?_,fun i b bs hi=>?_,fun f=>?_,?_,fun i=>?_,t⟩
 ·obtain⟨n,f⟩:=Ny hb;have q:=(Jh.1 f).1;have y:=k n q
  match blocks,hbb,f with
  |b0::bs,hbb,f=>
   obtain⟨_,d,hs,_⟩:=tF f y;obtain⟨k1,k2⟩:=rV _ _ _ _ hs b hbb;exact⟨fun o ho=>aeP (k1 o ho),acV k2,l _ hb b hbb⟩
 ·exact(tF hi (k i (Jh.1 hi).1)).1
 ·have:=w f;unfold yw at this;simp only[Jm,decide_eq_true_eq,beq_iff_eq] at this;obtain⟨a,b,c⟩:=this;exact⟨a,by omega,c⟩
 ·intro s hs;unfold wB at g;rw[Jm] at g;have:=g.1;unfold mh at this
  simpa using Oe.1 this s hs
 ·have:=m i;omega
end Go.Proofs.Ytoahcpkibpomcaa
set_option maxRecDepth 8000
namespace Go.Proofs.Ytoahcpkibpomcaa
open Go.RowKit Go.Shelf
variable {w w':World}{C b12 b13 bh bp bt i k m1 m2:Nat}{m:Mach}{R:List (List Int)}{g:Int->Option Int}{c f ov sv:Value}{o:Obj}{x:Int}{blocks:List IBlk}{K:MK}{pv:List Value}{d d':wO}
structure GraphIn (w:World) (sv:Value) (g:List (List Nat)):Prop where
 rows:aaB zj w w.heap.size sv g
 valid:zw g
 len:g.length<=2000000
 row:∀row∈g,row.length<=2000000
theorem GraphIn.below{g:List (List Nat)}(h:GraphIn w sv g)(hb:Q w w'):GraphIn w' sv g:=
 ⟨(h.rows.below hb).mono hb.size,h.valid,h.len,h.row⟩
theorem iJ{g:List (List Nat)}(h:GraphIn w sv g):A 21 #[.agg #[sv]] w (fJ w (vD g)):=by
 obtain⟨ns,c⟩:=adR h.valid;rw[c.eq];exact tp w sv g w.heap.size (Je _) h.rows h.valid h.len h.row (0::ns) c.is
theorem qP{g:List (List Nat)}(h:GraphIn w sv g):A 63 #[.agg #[sv]] w (j6 w (wQ g)):=by
 obtain⟨ns,c⟩:=adR h.valid;obtain⟨D,d⟩:=c.dom;rw[<-idom_eq h.valid c d];exact tw w sv g w.heap.size (Je _) h.rows h.valid h.len h.row ns c.is D d.of
open Go.RowKit
def y9 (l:List Nat):ByteArray:=strOfNums (l.map fun(n:Nat)=>(n:Int))
def yV (x:Nat)(ov:Value)(k i:Nat)(s:ByteArray)(inp pol:Nat):Array Value:=#[M x,ov,I k,M i,.string s,I inp,I pol]
theorem mp{b:Nat}{l:List Nat}(h:T w b (l.map wz).toArray 5)(hl:l.length=8192):
 (convert 95 9 (L b 8192 8192)).run Try.prog w=.ok (.string (y9 l)) w:=by
 refine run_convert_bytes_arg w 95 5 Try.underlying95 Try.underlying5 b 0 8192 8192 (l.map fun(n:Nat)=>(n:Int)) (by simpa using hl) (fun i hi=>?_) 9 Try.underlying9;rw[Ng];have c:i<l.length:=Zo;refine zA h ?_;simp[Jj,Jd c,wz]
theorem zu{b:Nat}(h:w.grownBy w' (some b))(j:Nat)(v:Value):w.grownBy (w'.setCell ⟨b,j,none⟩ v) (some b):=
 ⟨h.os,h.tape,h.output,by have:=h.size;simpa[World.setCell] using this,fun q hq hn=>by rw[Below.heap_setCell _ _ _ _ (by simpa using hn)];exact h.block q hq hn⟩
structure FinS (K:MK) (m:Mach) (ov:Value) (b13 bt:Nat) (k i:Nat) (w':World):Prop where
 c13:w'.cell? ⟨b13,0,none⟩=some (.pointer (some ⟨K.pm,0,none⟩))
 c6:w'.cell? ⟨K.pm,6,none⟩=some (.slice (some ⟨K.rb,0,none⟩) 8192 8192)
 c10:w'.cell? ⟨K.pm,10,none⟩=some ov
 c11:w'.cell? ⟨K.pm,11,none⟩=some (.int .i64 (m.inputs:Int))
 c12:w'.cell? ⟨K.pm,12,none⟩=some (.int .i64 (m.polls:Int))
 t0:w'.cell? ⟨bt,0,none⟩=some (.int .i64 (k:Int))
 t1:w'.cell? ⟨bt,1,none⟩=some (.int .u16 (i:Int))
 ram:w'.heap[K.rb]? =some (.cells (m.ram.map wz).toArray 5 (0,0))
theorem FinS.set(h:FinS K m ov b13 bt k i w')(n1:b12≠b13)(n2:b12≠K.pm)(n3:b12≠bt)(n4:b12≠K.rb)(j:Nat)(v:Value):FinS K m ov b13 bt k i (w'.setCell ⟨b12,j,none⟩ v):=by
 have c:∀ {b q:Nat} {x:Value},b12≠b->O w' b q x->O (w'.setCell ⟨b12,j,none⟩ v) b q x:=fun hn hc=>by
  rw[Oo (w:=w') (Below.heap_setCell _ _ _ _ (by simpa using Ne.symm hn))];exact hc
 exact⟨c n1 h.c13,c n2 h.c6,c n2 h.c10,c n2 h.c11,c n2 h.c12,c n3 h.t0,c n3 h.t1,zR h.ram (by simpa using Ne.symm n4)⟩
theorem FinS.drew(h:FinS K m ov b13 bt k i w'):FinS K m ov b13 bt k i w'.drew:=⟨h.c13,h.c6,h.c10,h.c11,h.c12,h.t0,h.t1,h.ram⟩
theorem FinS.all{oa:Option Addr}{oc:Nat}(hrl:m.ram.length=8192)(h:FinS K m (.slice oa m.out.length oc) b13 bt k i w'):O w' b13 0 (G K.pm)/\O w' K.pm 6 (L K.rb 8192 8192)/\O w' K.pm 10 (.slice oa m.out.length oc)/\O w' K.pm 11 (I (m.inputs:Int))/\O w' K.pm 12 (I (m.polls:Int))/\O w' bt 0 (I k)/\O w' bt 1 (M i)/\(convert 95 9 (L K.rb 8192 8192)).run Try.prog w'=.ok (.string (y9 m.ram)) w':=⟨h.c13,h.c6,h.c10,h.c11,h.c12,h.t0,h.t1,mp h.ram hrl⟩
theorem pE(h:MachAt w K m ov)(y:T w b13 #[G K.pm] 146)(g:T w b12 #[M 0,F,I 0,M 0,.string {data:=#[]},I 0,I 0] 134)(k i x:Nat):
 A 89 #[.agg #[I k,M i],M x,G b13,G b12] w fun e w'=>
  e=.returned (.tuple #[])/\T w' b12 (yV x ov k i (y9 m.ram) m.inputs m.polls) 134/\w.grownBy w' (some b12):=by
 obtain⟨oa,oc,rfl⟩:=zG h.out;have hrl:=h.rlen;have n1:b12≠b13:=by rintro rfl;rw[g] at y;simp at y
 have n2:b12≠K.pm:=by rintro rfl;rw[h.blk] at g;simp[r9] at g
 have n4:b12≠K.rb:=by
  rintro rfl;rw[h.ram] at g;have:=congrArg (fun o=>match o with|some (Obj.cells _ t _)=>t|_=>0) g;simp at this
 have n3:b12≠w.heap.size:=by have:=lt_of_block g;omega
 have b:=(Below.refl w.heap.size w).alloc (Je _) (U #[I k,M i] 132);have hM:=h.keep b
 have l:FinS K m (.slice oa m.out.length oc) b13 w.heap.size k i (w.alloc (U #[I k,M i] 132)):=
  ⟨zA (zB y) Zs,hM.c6,hM.c10,hM.c11,hM.c12,zA (zI rfl) Zs,zA (zI rfl) Zs,hM.ram⟩
 have c:=zB (o:=U #[I k,M i] 132) g;have g7:w.grownBy (w.alloc (U #[I k,M i] 132)) (some b12):=Uo w _ _;have d0:O (w.alloc (U #[I k,M i] 132)) b12 0 (M 0):=zA c Zs;have f0:Y (w.alloc (U #[I k,M i] 132)) b12 0:=zE c;have d1:O (w.alloc (U #[I k,M i] 132)) b12 1 (F):=zA c Zs;have f1:Y (w.alloc (U #[I k,M i] 132)) b12 1:=zE c;have d2:O (w.alloc (U #[I k,M i] 132)) b12 2 (I 0):=zA c Zs;have f2:Y (w.alloc (U #[I k,M i] 132)) b12 2:=zE c;have d3:O (w.alloc (U #[I k,M i] 132)) b12 3 (M 0):=zA c Zs;have f3:Y (w.alloc (U #[I k,M i] 132)) b12 3:=zE c;have d4:O (w.alloc (U #[I k,M i] 132)) b12 4 (.string {data:=#[]}):=zA c Zs;have f4:Y (w.alloc (U #[I k,M i] 132)) b12 4:=zE c;have d5:O (w.alloc (U #[I k,M i] 132)) b12 5 (I 0):=zA c Zs;have f5:Y (w.alloc (U #[I k,M i] 132)) b12 5:=zE c;have d6:O (w.alloc (U #[I k,M i] 132)) b12 6 (I 0):=zA c Zs;have f6:Y (w.alloc (U #[I k,M i] 132)) b12 6:=zE c;have HG:=Ja g7;have HB:=Ja c;clear h hM b y g g7 c;go_enter Try.func89,Try.ntmps89;go_upto_region 1 with fail;generalize hW:w.alloc (U #[I k,M i] 132)=W at *;generalize w.heap.size=bt at *;have u:∀w',FinS K m (.slice oa m.out.length oc) b13 bt k i w'->(convert 95 9 (L K.rb 8192 8192)).run Try.prog w'=.ok (.string (y9 m.ram)) w':=fun w' hs=>mp hs.ram hrl
 have c1:=l.c13;have c2:=l.c6;have c3:=l.c10;have c4:=l.c11;have c5:=l.c12;have c6:=l.t0;have c7:=l.t1;have cc:=u _ l;have a5:∀(w':World) (j:Nat) (v:Value),FinS K m (.slice oa m.out.length oc) b13 bt k i w'->FinS K m (.slice oa m.out.length oc) b13 bt k i (w'.setCell ⟨b12,j,none⟩ v):=fun w' j v hs=>hs.set n1 n2 n3 n4 j v
 have d:=Ja a5;have i0:=Ja u;have HS:=Ja l;clear a5 u l hW;refine wp_region_noPanic ?_;refine wp_region_held_drew (S:=(fun w'=>O w' b13 0 (G K.pm)/\O w' K.pm 6 (L K.rb 8192 8192)/\O w' K.pm 10 (.slice oa m.out.length oc)/\O w' K.pm 11 (I (m.inputs:Int))/\O w' K.pm 12 (I (m.polls:Int))/\O w' bt 0 (I k)/\O w' bt 1 (M i)/\(convert 95 9 (L K.rb 8192 8192)).run Try.prog w'=.ok (.string (y9 m.ram)) w')) Zk (HS.out.drew.all hrl) (fun hHeld=>?_);have g8:=Ja HS.out.drew;have f:=Ja (show W.drew.heap[b12]? =_ from HB.out);have h6:=Ja (show w.grownBy W.drew (some b12) from⟨HG.out.os,HG.out.tape,HG.out.output,HG.out.size,HG.out.block⟩);clear c1 c2 c3 c4 c5 c6 c7 cc HS HB HG d0 f0 d1 f1 d2 f2 d3 f3 d4 f4 d5 f5 d6 f6;generalize W.drew=Wa at *;refine Th 0 ?_
 try simp only[Yp]
 refine Th 1 ?_
 try simp only[Yp]
 refine Th 2 ?_
 try simp only[Yp]
 refine Th 3 ?_
 try simp only[Yp]
 refine Th 4 ?_
 try simp only[Yp]
 refine Th 5 ?_
 try simp only[Yp]
 refine Th 6 ?_
 try simp only[Yp]
 refine Th 7 ?_
 try simp only[Yp]
 refine Th 8 ?_
 try simp only[Yp]
 refine Th 9 ?_
 try simp only[Yp]
 refine Th 10 ?_
 try simp only[Yp]
 refine Th 11 ?_
 try simp only[Yp]
 refine Th 12 ?_
 try simp only[Yp]
 refine Th 13 ?_
 try simp only[Yp]
 refine Th 14 ?_
 try simp only[Yp]
 refine Th 15 ?_
 try simp only[Yp]
 refine Th 16 ?_
 try simp only[Yp]
 refine Th 17 ?_
 try simp only[Yp]
 refine Th 18 ?_
 try simp only[Yp]
 have e0:=K0 f.out;have g0:Y Wa b12 0:=zE f.out;have e1:=K1 f.out;have g1:Y Wa b12 1:=zE f.out;have e2:=K2 f.out;have g2:Y Wa b12 2:=zE f.out;have e3:=K3 f.out;have g3:Y Wa b12 3:=zE f.out;have e4:=K4 f.out;have g4:Y Wa b12 4:=zE f.out;have e5:=K5 f.out;have g5:Y Wa b12 5:=zE f.out;have e6:=K6 f.out;have g6:Y Wa b12 6:=zE f.out;refine wpAnyH_ready (rs:=[19]) Zk Zs ?_;refine AllReadyH.cons (o:=_) rfl (fun K hK=>?_) ?_
 ·skip
  go_simp;have f9:=Ja (d.out ((((((Wa.setCell ⟨b12,0,none⟩ (M 0)).setCell ⟨b12,1,none⟩ (F)).setCell ⟨b12,2,none⟩ (I 0)).setCell ⟨b12,3,none⟩ (M 0)).setCell ⟨b12,4,none⟩ (.string {data:=#[]})).setCell ⟨b12,5,none⟩ (I 0)) 6 (I 0) (d.out (((((Wa.setCell ⟨b12,0,none⟩ (M 0)).setCell ⟨b12,1,none⟩ (F)).setCell ⟨b12,2,none⟩ (I 0)).setCell ⟨b12,3,none⟩ (M 0)).setCell ⟨b12,4,none⟩ (.string {data:=#[]})) 5 (I 0) (d.out ((((Wa.setCell ⟨b12,0,none⟩ (M 0)).setCell ⟨b12,1,none⟩ (F)).setCell ⟨b12,2,none⟩ (I 0)).setCell ⟨b12,3,none⟩ (M 0)) 4 (.string {data:=#[]}) (d.out (((Wa.setCell ⟨b12,0,none⟩ (M 0)).setCell ⟨b12,1,none⟩ (F)).setCell ⟨b12,2,none⟩ (I 0)) 3 (M 0) (d.out ((Wa.setCell ⟨b12,0,none⟩ (M 0)).setCell ⟨b12,1,none⟩ (F)) 2 (I 0) (d.out (Wa.setCell ⟨b12,0,none⟩ (M 0)) 1 (F) (d.out Wa 0 (M 0) g8.out)))))));have c8:T (Wa.setCell ⟨b12,0,none⟩ (M 0)) b12 #[M 0,F,I 0,M 0,.string {data:=#[]},I 0,I 0] 134:=by rw[zD f.out];rfl
  have c0:T ((Wa.setCell ⟨b12,0,none⟩ (M 0)).setCell ⟨b12,1,none⟩ (F)) b12 #[M 0,F,I 0,M 0,.string {data:=#[]},I 0,I 0] 134:=by rw[zD c8];rfl
  have b9:T (((Wa.setCell ⟨b12,0,none⟩ (M 0)).setCell ⟨b12,1,none⟩ (F)).setCell ⟨b12,2,none⟩ (I 0)) b12 #[M 0,F,I 0,M 0,.string {data:=#[]},I 0,I 0] 134:=by rw[zD c0];rfl
  have b8:T ((((Wa.setCell ⟨b12,0,none⟩ (M 0)).setCell ⟨b12,1,none⟩ (F)).setCell ⟨b12,2,none⟩ (I 0)).setCell ⟨b12,3,none⟩ (M 0)) b12 #[M 0,F,I 0,M 0,.string {data:=#[]},I 0,I 0] 134:=by rw[zD b9];rfl
  have b7:T (((((Wa.setCell ⟨b12,0,none⟩ (M 0)).setCell ⟨b12,1,none⟩ (F)).setCell ⟨b12,2,none⟩ (I 0)).setCell ⟨b12,3,none⟩ (M 0)).setCell ⟨b12,4,none⟩ (.string {data:=#[]})) b12 #[M 0,F,I 0,M 0,.string {data:=#[]},I 0,I 0] 134:=by rw[zD b8];rfl
  have b6:T ((((((Wa.setCell ⟨b12,0,none⟩ (M 0)).setCell ⟨b12,1,none⟩ (F)).setCell ⟨b12,2,none⟩ (I 0)).setCell ⟨b12,3,none⟩ (M 0)).setCell ⟨b12,4,none⟩ (.string {data:=#[]})).setCell ⟨b12,5,none⟩ (I 0)) b12 #[M 0,F,I 0,M 0,.string {data:=#[]},I 0,I 0] 134:=by rw[zD b7];rfl
  have b5:T (((((((Wa.setCell ⟨b12,0,none⟩ (M 0)).setCell ⟨b12,1,none⟩ (F)).setCell ⟨b12,2,none⟩ (I 0)).setCell ⟨b12,3,none⟩ (M 0)).setCell ⟨b12,4,none⟩ (.string {data:=#[]})).setCell ⟨b12,5,none⟩ (I 0)).setCell ⟨b12,6,none⟩ (I 0)) b12 #[M 0,F,I 0,M 0,.string {data:=#[]},I 0,I 0] 134:=by rw[zD b6];rfl
  have a4:=Ja b5;have h5:=Ja (zu (zu (zu (zu (zu (zu (zu h6.out 0 (M 0)) 1 (F)) 2 (I 0)) 3 (M 0)) 4 (.string {data:=#[]})) 5 (I 0)) 6 (I 0));refine hK.out _ _ (FinS.all hrl f9.out) (fun hHeld=>?_);clear hK K e0 g0 e1 g1 e2 g2 e3 g3 e4 g4 e5 g5 e6 g6 c8 c0 b9 b8 b7 b6 b5 g8 f h6
  try simp only[Yp]
  generalize (((((((Wa.setCell ⟨b12,0,none⟩ (M 0)).setCell ⟨b12,1,none⟩ (F)).setCell ⟨b12,2,none⟩ (I 0)).setCell ⟨b12,3,none⟩ (M 0)).setCell ⟨b12,4,none⟩ (.string {data:=#[]})).setCell ⟨b12,5,none⟩ (I 0)).setCell ⟨b12,6,none⟩ (I 0))=Wb at *;refine Th 20 ?_
  try simp only[Yp]
  have e0:=K0 a4.out;have g0:Y Wb b12 0:=zE a4.out;refine wpAnyH_ready (rs:=[21]) Zk Zs ?_;refine AllReadyH.cons (o:=_) rfl (fun K hK=>?_) ?_
  ·skip
   go_simp;have e8:=Ja (d.out Wb 0 (M x) f9.out);have b4:T (Wb.setCell ⟨b12,0,none⟩ (M x)) b12 #[M x,F,I 0,M 0,.string {data:=#[]},I 0,I 0] 134:=by rw[zD a4.out];rfl
   have a3:=Ja b4;have h4:=Ja (zu h5.out 0 (M x));refine hK.out _ _ (FinS.all hrl e8.out) (fun hHeld=>?_);clear hK K e0 g0 b4 f9 a4 h5
   try simp only[Yp]
   generalize (Wb.setCell ⟨b12,0,none⟩ (M x))=Wc at *;refine Th 22 ?_
   try simp only[Yp]
   have e1:=K1 a3.out;have g1:Y Wc b12 1:=zE a3.out;refine wpAnyH_ready (rs:=[23]) Zk Zs ?_;refine AllReadyH.cons (o:=_) rfl (fun K hK=>?_) ?_
   ·skip
    go_simp;have e7:=Ja (d.out Wc 1 (.slice oa m.out.length oc) e8.out);have b3:T (Wc.setCell ⟨b12,1,none⟩ (.slice oa m.out.length oc)) b12 #[M x,.slice oa m.out.length oc,I 0,M 0,.string {data:=#[]},I 0,I 0] 134:=by rw[zD a3.out];rfl
    have q:=Ja b3;have h3:=Ja (zu h4.out 1 (.slice oa m.out.length oc));refine hK.out _ _ (FinS.all hrl e7.out) (fun hHeld=>?_);clear hK K e1 g1 b3 e8 a3 h4
    try simp only[Yp]
    generalize (Wc.setCell ⟨b12,1,none⟩ (.slice oa m.out.length oc))=Wd at *;refine Th 24 ?_
    try simp only[Yp]
    have e2:=K2 q.out;have g2:Y Wd b12 2:=zE q.out;have e3:=K3 q.out;have g3:Y Wd b12 3:=zE q.out;refine wpAnyH_ready (rs:=[25]) Zk Zs ?_;refine AllReadyH.cons (o:=_) rfl (fun K hK=>?_) ?_
    ·skip
     go_simp;have d8:=Ja (d.out (Wd.setCell ⟨b12,2,none⟩ (I k)) 3 (M i) (d.out Wd 2 (I k) e7.out));have b2:T (Wd.setCell ⟨b12,2,none⟩ (I k)) b12 #[M x,.slice oa m.out.length oc,I k,M 0,.string {data:=#[]},I 0,I 0] 134:=by rw[zD q.out];rfl
     have b1:T ((Wd.setCell ⟨b12,2,none⟩ (I k)).setCell ⟨b12,3,none⟩ (M i)) b12 #[M x,.slice oa m.out.length oc,I k,M i,.string {data:=#[]},I 0,I 0] 134:=by rw[zD b2];rfl
     have a2:=Ja b1;have h2:=Ja (zu (zu h3.out 2 (I k)) 3 (M i));refine hK.out _ _ (FinS.all hrl d8.out) (fun hHeld=>?_);clear hK K e2 g2 e3 g3 b2 b1 e7 q h3
     try simp only[Yp]
     generalize ((Wd.setCell ⟨b12,2,none⟩ (I k)).setCell ⟨b12,3,none⟩ (M i))=We at *;refine Th 26 ?_
     try simp only[Yp]
     have e4:=K4 a2.out;have g4:Y We b12 4:=zE a2.out;refine wpAnyH_ready (rs:=[27]) Zk Zs ?_;refine AllReadyH.cons (o:=_) rfl (fun K hK=>?_) ?_
     ·skip
      go_simp;have d7:=Ja (d.out We 4 (.string (y9 m.ram)) d8.out);have b0:T (We.setCell ⟨b12,4,none⟩ (.string (y9 m.ram))) b12 #[M x,.slice oa m.out.length oc,I k,M i,.string (y9 m.ram),I 0,I 0] 134:=by rw[zD a2.out];rfl
      have a1:=Ja b0;have h1:=Ja (zu h2.out 4 (.string (y9 m.ram)));refine hK.out _ _ (FinS.all hrl d7.out) (fun hHeld=>?_);clear hK K e4 g4 b0 d8 a2 h2
      try simp only[Yp]
      generalize (We.setCell ⟨b12,4,none⟩ (.string (y9 m.ram)))=Wf at *;refine Th 28 ?_
      try simp only[Yp]
      have e5:=K5 a1.out;have g5:Y Wf b12 5:=zE a1.out;refine wpAnyH_ready (rs:=[29]) Zk Zs ?_;refine AllReadyH.cons (o:=_) rfl (fun K hK=>?_) ?_
      ·skip
       go_simp;have c9:=Ja (d.out Wf 5 (I (m.inputs:Int)) d7.out);have a9:T (Wf.setCell ⟨b12,5,none⟩ (I (m.inputs:Int))) b12 #[M x,.slice oa m.out.length oc,I k,M i,.string (y9 m.ram),I (m.inputs:Int),I 0] 134:=by rw[zD a1.out];rfl
       have a0:=Ja a9;have h0:=Ja (zu h1.out 5 (I (m.inputs:Int)));refine hK.out _ _ (FinS.all hrl c9.out) (fun hHeld=>?_);clear hK K e5 g5 a9 d7 a1 h1
       try simp only[Yp]
       generalize (Wf.setCell ⟨b12,5,none⟩ (I (m.inputs:Int)))=Wg at *;refine Th 30 ?_
       try simp only[Yp]
       have e6:=K6 a0.out;have g6:Y Wg b12 6:=zE a0.out;refine wpAnyH_ready (rs:=[31]) Zk Zs ?_;refine AllReadyH.cons (o:=_) rfl (fun K hK=>?_) ?_
       ·skip
        go_simp;have h7:=Ja (d.out Wg 6 (I (m.polls:Int)) c9.out);have a6:T (Wg.setCell ⟨b12,6,none⟩ (I (m.polls:Int))) b12 #[M x,.slice oa m.out.length oc,I k,M i,.string (y9 m.ram),I (m.inputs:Int),I (m.polls:Int)] 134:=by rw[zD a0.out];rfl
        have h9:=Ja a6;have h8:=Ja (zu h0.out 6 (I (m.polls:Int)));refine hK.out _ _ (FinS.all hrl h7.out) (fun hHeld=>?_);clear hK K e6 g6 a6 c9 a0 h0
        try simp only[Yp]
        generalize (Wg.setCell ⟨b12,6,none⟩ (I (m.polls:Int)))=Wh at *;refine wpAnyH_done Zk (NoPanic.normal ?_) _;go_wp2
        go_end0
        exact⟨rfl,h9.out,h8.out⟩
       ·exact AllReadyH.nil
      ·exact AllReadyH.nil
     ·exact AllReadyH.nil
    ·exact AllReadyH.nil
   ·exact AllReadyH.nil
  ·exact AllReadyH.nil
 ·exact AllReadyH.nil
open Go.RowKit Go.Maps Go.ChangeMaps
theorem wA.entry{b n:Nat}(h:wA w b n g)(hn:n<9000000000000000000){kx vv:Int}(f:I64 kx)(a9:I64 vv)(b0:g kx=none):
 ∃(st:Nat) (w1 w2:World),(Instr.mapEntry 105 (.map (some b)) (.int .i64 kx)).run Try.prog w=.ok (.tuple #[.int .i64 0,goInt st]) w1/\w.grownBy w1 (some b)/\
  (Instr.entryStore 105 (.map (some b)) (goInt st) (.int .i64 vv)).run Try.prog w1=.ok () w2/\wA w2 b (n+1) (lS g kx vv)/\w.grownBy w2 (some b):=by
 have m:=h.lookOk f;rw[b0] at m
 have a3:∃w',(Instr.mapUpdate 105 (.map (some b)) (.int .i64 kx) (.int .i64 vv)).run Try.prog w=.ok () w'/\wA w' b (n+1) (lS g kx vv)/\w.grownBy w' (some b):=by
  obtain⟨D,h,hf⟩:=h;obtain⟨w',a2,a4,q⟩:=h.update xH Try.underlying105 (by unfold maxLen;omega) (vB f) (plainElem_int Try.underlying3 (wf64' a9));refine⟨w',a2,⟨_,a4,fun y hy=>?_⟩,q⟩;have a0:WideAt.IsKeyLit (.int .i64 kx):=xH.key (vB f)
  by_cases e:y=kx
  ·subst e;simp only[lS,if_true];exact⟨Maps.atKey_put_same h.isMap a0 _ _,Maps.has_put_same h.isMap a0 _⟩
  ·simp only[lS,if_neg e];rw[Maps.atKey_put_other (by simpa using e),Maps.has_put_other (by simpa using e)];exact hf y hy
 obtain⟨w3,k,hP,q⟩:=a3;obtain⟨D,h,hf⟩:=h;obtain⟨es,d,hb,F,hs,rfl⟩:=h;obtain⟨s1,s2,_⟩:=F.stamped;rcases xH.find w (vB f) es.toList F.keys with⟨u,h2⟩|⟨j,e0,u,h2,h3⟩
 ·have a6:(es.push ⟨.int .i64 kx,.int .i64 0,d⟩).findIdx? (fun e=>((e.born:Nat):Int)==((d:Nat):Int))=some es.size:=by
   rw[WideElems.findIdx_arr];refine WideElems.findIdx_born (l:=(es.push ⟨.int .i64 kx,.int .i64 0,d⟩).toList) (j:=es.size) (e0:=⟨.int .i64 kx,.int .i64 0,d⟩) ?_ Zs;simp only[Array.toList_push,Js,Ql,List.map_nil];refine Qq.2 ⟨s2,by simp,fun a ha c hc e1=>?_⟩;simp only[Jo] at hc;obtain⟨x,hx,rfl⟩:=Nu.1 ha;have:=s1 x hx;omega
  have a5:(es.push ⟨.int .i64 kx,.int .i64 0,d⟩).modify es.size (fun e=> {e with val:=.int .i64 vv })=es.push ⟨.int .i64 kx,.int .i64 vv,d⟩:=by
   apply Array.ext';rw[Array.toList_modify,Array.toList_push,Array.toList_push,<-Array.length_toList,WideElems.modify_last]
  have t:=heap_setBlock_same hb (.map (es.push ⟨.int .i64 kx,.int .i64 0,d⟩) (d+1))
  have e3:w3=setBlock w b (.map (es.push ⟨.int .i64 kx,.int .i64 vv,d⟩) (d+1)):=by
   simp[Instr.mapUpdate,run_underlying Try.underlying105,MapKept.run_getObj_map hb,xH.check w false (vB f),u,MapKept.run_setObj_map _ hb,Result.andThen] at k;exact k.symm
  have a1:∀o,w.grownBy (setBlock w b o) (some b):=fun o=>⟨rfl,rfl,rfl,by simp[setBlock],fun i _ hi=>heap_setBlock_other hb _ (fun e=>hi (by rw[e]))⟩
  refine⟨d,setBlock w b (.map (es.push ⟨.int .i64 kx,.int .i64 0,d⟩) (d+1)),setBlock (setBlock w b (.map (es.push ⟨.int .i64 kx,.int .i64 0,d⟩) (d+1))) b (.map (es.push ⟨.int .i64 kx,.int .i64 vv,d⟩) (d+1)),?_,a1 _,?_,?_,?_⟩
  ·simp[Instr.mapEntry,run_underlying Try.underlying105,MapKept.run_getObj_map hb,xH.check w false (vB f),u,px,MapKept.run_setObj_map _ hb,Result.andThen,setBlock]
  ·generalize setBlock w b (.map (es.push ⟨.int .i64 kx,.int .i64 0,d⟩) (d+1))=W1 at t ⊢;simp[Instr.entryStore,MapKept.run_getObj_map t,asInt,asIntOf,goInt,a6,a5,MapKept.run_setObj_map _ t,Result.andThen,setBlock]
  ·refine hP.same ?_;rw[heap_setBlock_same t,e3,heap_setBlock_same hb]
  ·have e4:setBlock (setBlock w b (.map (es.push ⟨.int .i64 kx,.int .i64 0,d⟩) (d+1))) b (.map (es.push ⟨.int .i64 kx,.int .i64 vv,d⟩) (d+1))=setBlock w b (.map (es.push ⟨.int .i64 kx,.int .i64 vv,d⟩) (d+1)):=by simp[setBlock]
   rw[e4];exact a1 _
 ·exfalso;simp[Instr.lookup,run_underlying Try.underlying105,MapKept.run_getObj_map hb,xH.check w es.isEmpty (vB f),u,Result.andThen] at m
structure ChkAt (w:World) (C m1 m2:Nat) (pv:List Value) (blv idv:Value) (n:Nat) (d:wO):Prop where
 blk:w.heap[C]? =some (.cells (pv++ [blv,.map (some m1),.map (some m2),idv]).toArray 107 (0,0))
 plen:pv.length=6
 map1:wA w m1 n d.1
 map2:wA w m2 n d.2
 ne:m1≠m2
 dom:∀x,(d.1 x).isSome=(d.2 x).isSome
structure Kept (m1 m2:Nat) (w w':World):Prop where
 os:w'.os=w.os
 tape:w'.tape=w.tape
 output:w'.output=w.output
 size:w.heap.size<=w'.heap.size
 block:∀k,k<w.heap.size->k≠m1->k≠m2->w'.heap[k]? =w.heap[k]?
theorem Kept.refl (m1 m2:Nat)(w:World):Kept m1 m2 w w:=⟨rfl,rfl,rfl,Je _,fun _ _ _ _=>rfl⟩
theorem Kept.trans{a b c:World}(h:Kept m1 m2 a b)(k:Kept m1 m2 b c):Kept m1 m2 a c:=
 ⟨k.os.trans h.os,k.tape.trans h.tape,k.output.trans h.output,Jn h.size k.size,fun i hi x1 x2=>(k.block i (Jy hi h.size) x1 x2).trans (h.block i hi x1 x2)⟩
theorem Kept.of(h:Q w w'):Kept m1 m2 w w':=⟨h.os,h.tape,h.output,h.size,fun i hi _ _=>h.block i hi⟩
theorem Kept.below{B:Nat}(h:Kept m1 m2 w w')(f:B<=m1)(d:B<=m2)(c:B<=w.heap.size):Below B w w':=
 ⟨h.os,h.tape,h.output,h.size,fun i hi=>h.block i Zo Zo Zo⟩
theorem Kept.blk{b:Nat}(h:Kept m1 m2 w w')(hb:w.heap[b]? =some o)(d:b≠m1)(c:b≠m2):w'.heap[b]? =some o:=(h.block b (lt_of_block hb) d c).trans hb
theorem wA.lt{b n:Nat}(h:wA w b n g):b<w.heap.size:=by
 obtain⟨es,ck,hb⟩:=h.blk;exact lt_of_block hb
theorem ChkAt.below{n:Nat}(h:ChkAt w C m1 m2 pv f c n d)(hb:Q w w'):ChkAt w' C m1 m2 pv f c n d:=
 ⟨zH hb h.blk (lt_of_block h.blk),h.plen,h.map1.same (hb.block m1 h.map1.lt),h.map2.same (hb.block m2 h.map2.lt),h.ne,h.dom⟩
theorem ChkAt.ne1{n:Nat}(h:ChkAt w C m1 m2 pv f c n d):C≠m1/\C≠m2:=by
 obtain⟨k,m,i⟩:=h.map1.blk;obtain⟨j,l,g⟩:=h.map2.blk;have:=h.blk;exact⟨fun e=>(by rw[e,i] at this;cases this),fun e=>(by rw[e,g] at this;cases this)⟩
theorem oK{n:Nat}{t l:Value}(h:ChkAt w C m1 m2 pv t l n d)(v i k:Int)(hv:I64 v)(hi:I64 i)(hk:I64 k)(g:rB d v i k=none):
 A 76 #[G C,I v,I i,I k] w fun e w'=>e=.returned (.bool false)/\w'=w:=by
 obtain⟨hb,hl,m,a1,a0,hd⟩:=h
 obtain⟨p0,p1,p2,p3,p4,p5,rfl⟩:∃a b c d e f,pv=[a,b,c,d,e,f]:=by
  match pv,hl with
  | [a,b,c,d,e,f],_=>exact⟨a,b,c,d,e,f,rfl⟩
 have o:=m.lookOk hv;have a2:O w C 7 (.map (some m1)):=zA hb rfl;obtain⟨q0,q⟩:∃b,(d.1 v).isSome=b:=⟨_,rfl⟩
 obtain⟨q1,y⟩:∃b,decide (v<0)=b:=⟨_,rfl⟩
 obtain⟨q2,x⟩:∃b,decide (65535<v)=b:=⟨_,rfl⟩
 rw[q] at o
 have u:(q0||q1||q2)=true:=by
  unfold rB at g;rw[q] at g
  split at g
  ·rename_i j
   rcases j with j|j|j
   ·rw[j];rfl
   ·rw[<-y,decide_eq_true j];simp
   ·rw[<-x,decide_eq_true j];simp
  ·cases g
 clear g hb;cases q0<;>cases q1<;>cases q2
 all_goals first|(cases u;done)|skip
 all_goals go_enter Try.func76,Try.ntmps76
 all_goals go_wp2
 all_goals go_ret
 all_goals exact⟨rfl,rfl⟩
theorem qk{n:Nat}{a2 q:Value}(h:ChkAt w C m1 m2 pv a2 q n d)(hn:n<9000000000000000000)(v i k:Int)(hv:I64 v)(hi:I64 i)(hk:I64 k)(g:rB d v i k=some d'):
 A 76 #[G C,I v,I i,I k] w fun e w'=>e=.returned (.bool true)/\ChkAt w' C m1 m2 pv a2 q (n+1) d'/\Kept m1 m2 w w':=by
 obtain⟨hb,hl,o,a0,m,hd⟩:=h
 obtain⟨p0,p1,p2,p3,p4,p5,rfl⟩:∃a b c d e f,pv=[a,b,c,d,e,f]:=by
  match pv,hl with
  | [a,b,c,d,e,f],_=>exact⟨a,b,c,d,e,f,rfl⟩
 have a9:=o.lookOk hv;have b7:O w C 7 (.map (some m1)):=zA hb rfl;have b6:O w C 8 (.map (some m2)):=zA hb rfl;have j:¬((d.1 v).isSome∨v<0∨65535<v):=fun hc=>by rw[rB,if_pos hc] at g;cases g
 have b1:d'=(lS d.1 v i,lS d.2 v k):=by rw[rB,if_neg j] at g;cases g;rfl
 have h0:(d.1 v).isSome=false:=by cases l:(d.1 v).isSome with|false=>rfl|true=>exact absurd (.inl l) j
 have t:d.1 v=none:=by cases l:d.1 v with|none=>rfl|some y=>rw[l] at h0;cases h0
 have a4:d.2 v=none:=by cases l:d.2 v with|none=>rfl|some y=>have:=hd v;rw[l,t] at this;cases this
 have h1:decide (v<0)=false:=decide_eq_false Zo;have h2:decide (65535<v)=false:=decide_eq_false Zo;rw[h0] at a9;obtain⟨s1,w1,w2,e1,g1,e2,k1,g2⟩:=(wA.same (w':=w.drew) o rfl).entry hn hv hi t;obtain⟨es,ck,u⟩:=a0.blk;have a3:wA w2 m2 n d.2:=(wA.same (w':=w.drew) a0 rfl).same (g2.block m2 (lt_of_block u) (fun e=>m (by cases e;rfl)));obtain⟨s2,w3,w4,e3,g3,e4,k2,g4⟩:=a3.entry hn hv hk a4;subst b1;clear g j;simp only[goInt] at e1 e2 e3 e4;have H:=Ja (Jb g2 g4);go_enter Try.func76,Try.ntmps76;go_wp2
 go_region
 go_wp2;go_ret;obtain⟨g2,g4⟩:=H.out;obtain⟨b5,b9,a6⟩:=o.blk;have b3:C≠m1:=fun e=>by rw[e,a6] at hb;cases hb
 have b2:C≠m2:=fun e=>by rw[e,u] at hb;cases hb
 have a5:w.heap.size<=w2.heap.size:=g2.size;have a1:∀b,b≠m1->b≠m2->b<w.heap.size->w4.heap[b]? =w.heap[b]?:=fun b x1 x2 hbs=>(g4.block b Zo (fun e=>x2 (by cases e;rfl))).trans (g2.block b hbs (fun e=>x1 (by cases e;rfl)))
 obtain⟨b4,b8,b0⟩:=k1.blk;refine⟨rfl,⟨(a1 C b3 b2 (lt_of_block hb)).trans hb,rfl,k1.same (g4.block m1 (lt_of_block b0) (fun e=>m (by cases e;rfl))),k2,m,fun x=>?_⟩,⟨g4.os.trans g2.os,g4.tape.trans g2.tape,g4.output.trans g2.output,Jn a5 g4.size,fun b hbs x1 x2=>a1 b x1 x2 hbs⟩⟩
 show(lS d.1 v i x).isSome=(lS d.2 v k x).isSome
 unfold lS
 split
 ·rfl
 ·exact hd x
def wb (w:World)(a:Rg)(e:Ending)(w':World):Prop:=e=.returned (.agg #[M (a.lo:Int),M (a.hi:Int)])/\Q w w'
theorem af0 (x y:Nat):∀(ts:Array TypeId) (t:TypeId) (W:World),(Builtin.max_ ts t #[M x,M y]).run Try.prog W=.ok (M ((max x y:Nat):Int)) W:=fun ts t W=>by
 rw[run_max_int2,show(if(y:Int)>x then(y:Int) else x)=((max x y:Nat):Int) by split<;>omega]
theorem min16 (x y:Nat):∀(ts:Array TypeId) (t:TypeId) (W:World),(Builtin.min_ ts t #[M x,M y]).run Try.prog W=.ok (M ((min x y:Nat):Int)) W:=fun ts t W=>by
 rw[run_min_int2,show(if(y:Int)<x then(y:Int) else x)=((min x y:Nat):Int) by split<;>omega]
theorem full_any (w:World):A 20 #[] w (wb w zf):=by
 go_enter Try.func20,Try.ntmps20;go_wp2;refine bodyPost_ret (v:=.agg #[M 0,M 65535]) ?_ rfl ?_
 ·rw[zM rfl];go_simp
 ·exact⟨rfl,by repeat' (first|exact Below.refl _ _|assumption|(refine Below.alloc ?_ (by first|(simp;done)|(simp;omega)) _)|(refine Below.setCell ?_ (by first|(simp;done)|(simp;omega)) _))⟩
theorem vt (w:World):A 20 #[] w (fun e w'=>e=.returned (.agg #[M 0,M 65535])/\Q w w'):=full_any w
theorem ag (w:World)(n:Nat):A 67 #[M n] w (wb w (qm n)):=by
 go_enter Try.func67,Try.ntmps67;go_wp2;refine bodyPost_ret (v:=.agg #[M n,M n]) ?_ rfl ?_
 ·rw[zM rfl];go_simp
 ·exact⟨rfl,by repeat' (first|exact Below.refl _ _|assumption|(refine Below.alloc ?_ (by first|(simp;done)|(simp;omega)) _)|(refine Below.setCell ?_ (by first|(simp;done)|(simp;omega)) _))⟩
theorem q6 (w:World)(a:Rg):A 41 #[.agg #[M (a.lo:Int),M (a.hi:Int)]] w (fun e w'=>e=.returned (.bool (zx a))/\Q w w'):=by
 obtain⟨q,c⟩:∃q,zx a=q:=⟨_,rfl⟩
 have hb:((a.lo:Int)==(a.hi:Int))=q:=by rw[<-c];unfold zx;rw[Bool.eq_iff_iff,beq_iff_eq,decide_eq_true_eq];omega
 rw[c];clear c;go_enter Try.func41,Try.ntmps41;go_wp2;go_ret;exact⟨rfl,by repeat' (first|exact Below.refl _ _|assumption|(refine Below.alloc ?_ (by first|(simp;done)|(simp;omega)) _)|(refine Below.setCell ?_ (by first|(simp;done)|(simp;omega)) _))⟩
theorem hull_any (w:World)(a b:Rg):A 50 #[.agg #[M (a.lo:Int),M (a.hi:Int)],.agg #[M (b.lo:Int),M (b.hi:Int)]] w (wb w (xr a b)):=by
 obtain⟨x,d⟩:∃x,min a.lo b.lo=x:=⟨_,rfl⟩
 obtain⟨y,c⟩:∃y,max a.hi b.hi=y:=⟨_,rfl⟩
 have g:=min16 a.lo b.lo;have f:=af0 a.hi b.hi;rw[d] at g;rw[c] at f;have hr:xr a b=⟨x,y⟩:=by unfold xr;rw[d,c]
 rw[hr];clear d c hr;go_enter Try.func50,Try.ntmps50;go_wp2;refine bodyPost_ret (v:=.agg #[M x,M y]) ?_ rfl ?_
 ·rw[zM rfl];go_simp
 ·exact⟨rfl,by repeat' (first|exact Below.refl _ _|assumption|(refine Below.alloc ?_ (by first|(simp;done)|(simp;omega)) _)|(refine Below.setCell ?_ (by first|(simp;done)|(simp;omega)) _))⟩
theorem n9 (w:World){lo hi:Int}(hl:-70000000<=lo/\lo<=70000000)(k:-70000000<=hi/\hi<=70000000):A 29 #[I lo,I hi] w (wb w (y7 lo hi)):=by
 obtain⟨x,f⟩:∃x,(lo%65536).toNat=x:=⟨_,rfl⟩
 obtain⟨y,d⟩:∃y,(hi%65536).toNat=y:=⟨_,rfl⟩
 have e1:IntKind.u16.wrap lo=(x:Int):=by rw[xY];omega
 have e2:IntKind.u16.wrap hi=(y:Int):=by rw[xY];omega
 by_cases h:lo/65536=hi/65536
 ·have hr:y7 lo hi=⟨x,y⟩:=by unfold y7;rw[if_pos h,f,d]
  have hb:(lo/65536 !=hi/65536)=false:=by simp[h]
  rw[hr];clear hr f d h;go_enter Try.func29,Try.ntmps29;go_wp2;refine bodyPost_ret (v:=.agg #[M x,M y]) ?_ rfl ⟨rfl,by repeat' (first|exact Below.refl _ _|assumption|(refine Below.alloc ?_ (by first|(simp;done)|(simp;omega)) _)|(refine Below.setCell ?_ (by first|(simp;done)|(simp;omega)) _))⟩;rw[zM rfl];go_simp
 ·have hr:y7 lo hi=⟨0,65535⟩:=by unfold y7;rw[if_neg h];rfl
  have hb:(lo/65536 !=hi/65536)=true:=by simp[h]
  rw[hr];clear hr f d h;go_enter Try.func29,Try.ntmps29;go_wp2_with (go_at_call 20;go_must (refine(vt _).mono ?_;rintro e w1 ⟨rfl,c⟩;have hk:T w1 w.heap.size #[M 0,M 0] 48:=zH c (zI Zs) Zs;have f0:=zA (i:=0) hk rfl;have f1:=zA (i:=1) hk rfl;have g0:=zE (i:=0) hk;have g1:=zE (i:=1) hk;have g:=lt_of_block hk;have j:=Below.trans (show Q w _ from by repeat' (first|exact Below.refl _ _|(refine Below.alloc ?_ (by first|(simp;done)|(simp;omega)) _))) (c.mono (by first|(simp;done)|(simp;omega)));clear c hk))
  refine bodyPost_ret (v:=.agg #[M 0,M 65535]) ?_ rfl ⟨rfl,by repeat' (first|exact Below.refl _ _|assumption|(refine Below.alloc ?_ (by first|(simp;done)|(simp;omega)) _)|(refine Below.setCell ?_ (by first|(simp;done)|(simp;omega)) _))⟩;rw[zM rfl];go_simp
theorem kI (w:World){lo hi:Nat}(hl:lo<=hi)(g:hi<9223372036854775807):A 34 #[I lo,I hi] w (wb w (yf lo hi)):=by
 by_cases h:hi<=65535
 ·have hr:yf lo hi=⟨lo,hi⟩:=by unfold yf;rw[if_pos h]
  have e1:IntKind.u16.wrap (lo:Int)=(lo:Int):=by rw[xY];omega
  have e2:IntKind.u16.wrap (hi:Int)=(hi:Int):=by rw[xY];omega
  have hb:¬(65535:Int)<(hi:Int):=Zo;rw[hr];clear hr h;go_enter Try.func34,Try.ntmps34;go_wp2;refine bodyPost_ret (v:=.agg #[M lo,M hi]) ?_ rfl ⟨rfl,by repeat' (first|exact Below.refl _ _|assumption|(refine Below.alloc ?_ (by first|(simp;done)|(simp;omega)) _)|(refine Below.setCell ?_ (by first|(simp;done)|(simp;omega)) _))⟩;rw[zM rfl];go_simp
 ·have hr:yf lo hi=⟨0,65535⟩:=by unfold yf;rw[if_neg h];rfl
  have hb:(65535:Int)<(hi:Int):=Zo;rw[hr];clear hr h;go_enter Try.func34,Try.ntmps34;go_wp2_with (go_at_call 20;go_must (refine(vt _).mono ?_;rintro e w1 ⟨rfl,c⟩;have hk:T w1 w.heap.size #[M 0,M 0] 48:=zH c (zI Zs) Zs;have f0:=zA (i:=0) hk rfl;have f1:=zA (i:=1) hk rfl;have g0:=zE (i:=0) hk;have g1:=zE (i:=1) hk;have d:=lt_of_block hk;have f:=Below.trans (show Q w _ from by repeat' (first|exact Below.refl _ _|(refine Below.alloc ?_ (by first|(simp;done)|(simp;omega)) _))) (c.mono (by first|(simp;done)|(simp;omega)));clear c hk))
  refine bodyPost_ret (v:=.agg #[M 0,M 65535]) ?_ rfl ⟨rfl,by repeat' (first|exact Below.refl _ _|assumption|(refine Below.alloc ?_ (by first|(simp;done)|(simp;omega)) _)|(refine Below.setCell ?_ (by first|(simp;done)|(simp;omega)) _))⟩;rw[zM rfl];go_simp
theorem f8 (w:World){a b:Rg}(i:a.lo<65536/\a.hi<65536)(hb:b.lo<65536):A 42 #[.agg #[M (a.lo:Int),M (a.hi:Int)],.agg #[M (b.lo:Int),M (b.hi:Int)]] w (wb w (ux a b)):=by
 by_cases h:b.lo=b.hi
 ·obtain⟨x,d⟩:∃x,a.lo/2^(b.lo%16)=x:=⟨_,rfl⟩
  obtain⟨y,c⟩:∃y,a.hi/2^(b.lo%16)=y:=⟨_,rfl⟩
  have hr:ux a b=⟨x,y⟩:=by unfold ux zx;rw[if_pos (by simpa using h),d,c]
  have g:((b.lo:Int)==(b.hi:Int))=true:=by rw[beq_iff_eq];omega
  rw[hr];have f:=Ja (Jb d c);clear hr h d c;go_enter Try.func42,Try.ntmps42;go_wp2_with go_in;refine bodyPost_ret (v:=.agg #[M ((a.lo:Int)/2^(b.lo%16)),M ((a.hi:Int)/2^(b.lo%16))]) ?_ rfl ⟨by rw[<-f.out.1,<-f.out.2];simp,by repeat' (first|exact Below.refl _ _|assumption|(refine Below.alloc ?_ (by first|(simp;done)|(simp;omega)) _)|(refine Below.setCell ?_ (by first|(simp;done)|(simp;omega)) _))⟩;rw[zM rfl];go_simp
 ·have hr:ux a b=⟨0,a.hi⟩:=by unfold ux zx;rw[if_neg (by simpa using h)]
  have g:((b.lo:Int)==(b.hi:Int))=false:=Ze;rw[hr];clear hr h;go_enter Try.func42,Try.ntmps42;go_wp2_with go_in;refine bodyPost_ret (v:=.agg #[M 0,M (a.hi:Int)]) ?_ rfl ⟨rfl,by repeat' (first|exact Below.refl _ _|assumption|(refine Below.alloc ?_ (by first|(simp;done)|(simp;omega)) _)|(refine Below.setCell ?_ (by first|(simp;done)|(simp;omega)) _))⟩;rw[zM rfl];go_simp
theorem j0 (w:World)(p q:Bool):A 45 #[.bool p,.bool q] w (wb w (if p=true then⟨1,1⟩ else if q=true then⟨0,0⟩ else⟨0,1⟩)):=by
 cases p
 ·cases q
  ·show A 45 #[.bool false,.bool false] w (wb w ⟨0,1⟩)
   go_enter Try.func45,Try.ntmps45;go_wp2;refine bodyPost_ret (v:=.agg #[M 0,M 1]) ?_ rfl ⟨rfl,by repeat' (first|exact Below.refl _ _|assumption|(refine Below.alloc ?_ (by first|(simp;done)|(simp;omega)) _)|(refine Below.setCell ?_ (by first|(simp;done)|(simp;omega)) _))⟩;rw[zM rfl];go_simp
  ·show A 45 #[.bool false,.bool true] w (wb w ⟨0,0⟩)
   go_enter Try.func45,Try.ntmps45;go_wp2_with (go_at_call 67;go_must (refine(show A 67 #[M 0] _ (fun e w'=>e=.returned (.agg #[M 0,M 0])/\Below _ _ w') from ag _ 0).mono ?_;rintro e w1 ⟨rfl,c⟩;have hk:T w1 w.heap.size #[M 0,M 0] 48:=zH c (zI Zs) Zs;have f0:=zA (i:=0) hk rfl;have f1:=zA (i:=1) hk rfl;have g0:=zE (i:=0) hk;have g1:=zE (i:=1) hk;have d:=lt_of_block hk;have f:=Below.trans (show Q w _ from by repeat' (first|exact Below.refl _ _|(refine Below.alloc ?_ (by first|(simp;done)|(simp;omega)) _))) (c.mono (by first|(simp;done)|(simp;omega)));clear c hk))
   refine bodyPost_ret (v:=.agg #[M 0,M 0]) ?_ rfl ⟨rfl,by repeat' (first|exact Below.refl _ _|assumption|(refine Below.alloc ?_ (by first|(simp;done)|(simp;omega)) _)|(refine Below.setCell ?_ (by first|(simp;done)|(simp;omega)) _))⟩;rw[zM rfl];go_simp
 ·show A 45 #[.bool true,.bool q] w (wb w ⟨1,1⟩)
  go_enter Try.func45,Try.ntmps45;go_wp2_with (go_at_call 67;go_must (refine(show A 67 #[M 1] _ (fun e w'=>e=.returned (.agg #[M 1,M 1])/\Below _ _ w') from ag _ 1).mono ?_;rintro e w1 ⟨rfl,c⟩;have hk:T w1 w.heap.size #[M 0,M 0] 48:=zH c (zI Zs) Zs;have f0:=zA (i:=0) hk rfl;have f1:=zA (i:=1) hk rfl;have g0:=zE (i:=0) hk;have g1:=zE (i:=1) hk;have d:=lt_of_block hk;have f:=Below.trans (show Q w _ from by repeat' (first|exact Below.refl _ _|(refine Below.alloc ?_ (by first|(simp;done)|(simp;omega)) _))) (c.mono (by first|(simp;done)|(simp;omega)));clear c hk))
  refine bodyPost_ret (v:=.agg #[M 1,M 1]) ?_ rfl ⟨rfl,by repeat' (first|exact Below.refl _ _|assumption|(refine Below.alloc ?_ (by first|(simp;done)|(simp;omega)) _)|(refine Below.setCell ?_ (by first|(simp;done)|(simp;omega)) _))⟩;rw[zM rfl];go_simp
theorem aeU (w:World){x y:Nat}(t:x<65536)(q:y<65536):A 38 #[M x,M y] w (fun e w'=>e=.returned (M ((xm (max x y):Nat):Int))/\w=w'):=by
 obtain⟨z,l⟩:∃z,max x y=z:=⟨_,rfl⟩
 have h1:=af0 x y;rw[l] at h1 ⊢;have i:z<65536:=Zo;have c:=ax i;have h:=Ja (Jb (afw z) (Jb c (ma z)));clear l t q c;go_enter Try.func38,Try.ntmps38;go_wp2
 go_loop [5] (fun mv=>∃m k:Nat,mv=I m/\m+1=2^k/\m<=xm z) (fun mv=>(65536-intOf mv).toNat)
 case atStart=>exact⟨0,0,rfl,rfl,Jt _⟩
 case round=>
  obtain⟨m,k,rfl,hk,hm⟩:=hrel;have d:=h.out.2.1;have HK:=Ja (Jb hk hm);have a2:m<65536:=Zo
  by_cases f:m<z
  ·have g:(m:Int)<(z:Int):=Zo
   have o:2*m+1<=xm z:=by
    obtain⟨j,h3,h4,_⟩:=h.out.2.2;have h5:=h.out.1;have h6:k<j:=(Nat.pow_lt_pow_iff_right (a:=2) Zd).1 Zo;have u:=Nat.pow_le_pow_right (show 0<2 by decide) (show k+1<=j by omega);rw[Nat.pow_succ] at u;omega
   have HN:=Ja o;clear hk hm d o f;go_wp2
   go_round
   case rel=>exact⟨2*m+1,k+1,by go_num,by have:=HK.out.1;rw[Nat.pow_succ];omega,HN.out⟩
   case measure=>simp[intOf];omega
  ·have g:¬(m:Int)<(z:Int):=Zo
   have a1:xm z=m:=by
    have:=mask_min z m k hk Zo;omega
   have a0:IntKind.u16.wrap (m:Int)=(m:Int):=by rw[xY];omega
   clear f hk hm d;go_wp2;go_ret;exact⟨rfl,rfl⟩
end Go.Proofs.Ytoahcpkibpomcaa
set_option maxRecDepth 100000
namespace Go.Proofs.Ytoahcpkibpomcaa
open Go.ChangeShapes Go.WideShapes Go.ChangeAt Go.RowKit
variable {w w':World}{C b12 b13 bh bp bt i k m1 m2:Nat}{m:Mach}{R:List (List Int)}{g:Int->Option Int}{c f ov sv:Value}{o:Obj}{x:Int}{blocks:List IBlk}{K:MK}{pv:List Value}{d d':wO}
section
variable {H:Type} {enc:TypeId×Value->H} {W:World} {v:Value} {d:DataW H} {p:List MemPlace} {r:Go.Reach} {base:Nat}
theorem u16_open (hv:Value.okWide Try.prog W r base 22 v)(f:DataW.Trod enc Try.prog W 0 (fun _=>true) true 22 v d p):∃x:Nat,v=.int .u16 (x:Int)/\x<65536:=by
 obtain⟨n,rfl,_,_,c⟩:=open_int Try.underlying22 hv f;have h:0<=n/\n<=65535:=by simpa[Lit.wf,IntKind.min,IntKind.max,IntKind.signed,IntKind.bits] using c
 exact⟨n.toNat,by rw[Oa h.1],by omega⟩
theorem u8_open (hv:Value.okWide Try.prog W r base 5 v)(f:DataW.Trod enc Try.prog W 0 (fun _=>true) true 5 v d p):∃x:Nat,v=.int .u8 (x:Int)/\x<256:=by
 obtain⟨n,rfl,_,_,c⟩:=open_int Try.underlying5 hv f;have h:0<=n/\n<=255:=by simpa[Lit.wf,IntKind.min,IntKind.max,IntKind.signed,IntKind.bits] using c
 exact⟨n.toNat,by rw[Oa h.1],by omega⟩
end
end Go.Proofs.Ytoahcpkibpomcaa
