/- Part of a proof. -/
import Derived.Test.YtoahcpkibpomcaaGreatIGraphv
import Derived.Test.YtoahcpkibpomcaaGreatTur3v
set_option linter.all false
set_option maxHeartbeats 8000000
set_option maxRecDepth 100000
namespace Go.Proofs.YtoahcpkibpomcaaGreat
open Go.RowKit
variable {bl blocks l:List IBlk}{t:ITerm}{C M g2 g3 k m m1 m2 what:Nat}{w w9 wx:World}{d d':wO}{g:List (List Nat)}{c xs:List Int}{ns:List Nat}{o:IOp}{i q0 q1 q2:Int}{Df:Int->Int->Int->Prop}{gv lv:Value}
theorem edge_bad{e:IEdge}(c:t.to[k]? =some e)(h:uM blocks e=false):wn blocks t=false:=by
 unfold wn
 have:t.to.all (uM blocks)=false:=by
  rw[Bool.eq_false_iff];intro h2;rw[Oe.1 h2 e (Ji c)] at h;cases h
 rw[this];rfl
theorem term_any{B:Nat}{cs:Array Value}{d1:Value}(b9:wX w B d1 blocks)(hB:B<=w.heap.size)(hC:Q w C cs 173)(h6:cs[6]? =some d1)(t:ITerm)(ht:I64 t.kind/\I64 t.a){tv:Value}(b0:wH w B tv t.to):
 G 139 #[Y C,.agg #[I t.kind,I t.a,tv]] w (ym w (wn blocks t)):=by
 obtain⟨fa,fc,rfl,e7,e6⟩:=b9.form;obtain⟨ta,tc,rfl,e3,e2⟩:=b0.form;have g3:blocks.length<=9223372036854775807:=Zo;have f9:t.to.length<=9223372036854775807:=Zo;obtain⟨tk,b1⟩:∃x,t.kind=x:=⟨_,rfl⟩
 obtain⟨tA,b2⟩:∃x,t.a=x:=⟨_,rfl⟩
 have f5:=Ja b9;have f3:=Ja b0;obtain⟨res,a0⟩:∃x,wn blocks t=x:=⟨_,rfl⟩
 rw[a0,b1,b2];have u:=Ja (show wn blocks t=res/\t.kind=tk/\t.a=tA from⟨a0,b1,b2⟩);have c9:O w (w.alloc (T #[I tk,I tA,.slice ta t.to.length tc] 82)):=(Below.refl _ _).alloc (Je _) _;have a9:=zI (W:=w) (o:=T #[I tk,I tA,.slice ta t.to.length tc] 82) rfl;have i:=zB (o:=T #[I tk,I tA,.slice ta t.to.length tc] 82) hC;clear b9 b0 a0 b1 b2 hC e7 e6 e3 e2;go_enter Tryz.func139,Tryz.ntmps139;go_upto_region 1 with fail;generalize f2:w.alloc (T #[I tk,I tA,.slice ta t.to.length tc] 82)=W0 at *;have y2:=K2 a9;have c:=Ja c9;have d2:=Ja a9;have d4:=Ja i;clear f2 c9 a9 i;go_wp2
 go_loopw [10] (fun kv wx=>∃k:Nat,k<=t.to.length/\kv=I k/\Hid (O W0 wx/\(t.to.take k).all (uM blocks)=true)) (fun kv _=>t.to.length-(intOf kv).toNat)
 case atStart=>exact⟨0,Jt _,rfl,Ja ⟨Below.refl _ _,by rfl⟩⟩
 case round=>
  obtain⟨k,hk,rfl,HK⟩:=hrel
  by_cases a6:k<t.to.length
  ·have d5:(k:Int)<t.to.length:=Zo;have d3:=Ja a6;obtain⟨e,he⟩:∃e,t.to[k]? =some e:=⟨_,Jd a6⟩
   obtain⟨b,oo,rfl,hb,i,b4,av,c8,d0⟩:=f3.out.get he;obtain⟨aa,ac,rfl,f0,e9⟩:=d0.form;have g6:e.args.length<=9223372036854775807:=Zo;have b8:O w wr:=c.out.trans (HK.out.1.mono c.out.size);obtain⟨eb,a7⟩:∃x,e.block=x:=⟨_,rfl⟩
   rw[a7] at i;have e0:=zV b8 (Jy hb hB) i;have e1:=zV b8 (Jy hb hB) c8;have d:=zH HK.out.1 d4.out (lt_of_block d4.out);have HT:=Ja (show(t.to.take (k+1)).all (uM blocks)=((t.to.take k).all (uM blocks) && uM blocks e)/\(uM blocks e=false->wn blocks t=false) from⟨xX (uM blocks) he,fun h=>edge_bad he h⟩);have HE:=Ja a7;have c2:I64 eb:=a7 ▸ b4;obtain⟨g5,g4⟩:=c2;have c4:=zB (o:=T #[I eb,.slice aa e.args.length ac] 79) d;have a8:=zI (W:=wr) (o:=T #[I eb,.slice aa e.args.length ac] 79) rfl;have c3:=HK.out.1.alloc (HK.out.1.size) (T #[I eb,.slice aa e.args.length ac] 79);clear i c8 d0 he d a6 f0 e9 b4 a7 y2;go_upto_region 4 with fail;generalize f1:wr.alloc (T #[I eb,.slice aa e.args.length ac] 79)=W1 at *;generalize wr.heap.size=b6 at *;have f7:=K0 a8;have f6:=K1 a8;have zc:A W1 C 6 (.slice fa blocks.length fc):=zA c4 h6;have y:=Ja c3;clear f1 a8 c4 c3 b8 e0 e1
   by_cases g1:1<=eb
   ·have t1:decide (eb<1)=false:=decide_eq_false Zo;obtain⟨j,rfl⟩:∃j:Nat,eb=(j:Int):=⟨eb.toNat,by omega⟩
    by_cases g2:j<blocks.length
    ·have t2:decide ((blocks.length:Int)<=(j:Int))=false:=decide_eq_false Zo;have d6:decide (blocks.length<=j)=false:=decide_eq_false Zo;have d7:(j:Int)<(blocks.length:Int):=Zo;obtain⟨bx,b5⟩:∃bx,blocks[j]? =some bx:=⟨_,Jd g2⟩
     obtain⟨fb,fo,rfl,e8,_,_,_,pv,ov,f8,c7,_,_,c5,_⟩:=f5.out.get b5;obtain⟨pa,pc,rfl,e5,e4⟩:=c5.form;have g0:bx.params.length<=9223372036854775807:=Zo;have b7:O w W1:=c.out.trans (y.out.mono c.out.size);have p0:=zV b7 (Jy e8 hB) c7;obtain⟨q3,b3⟩:∃q,decide (e.args.length=bx.params.length)=q:=⟨_,rfl⟩
     have t3:((e.args.length:Int) !=(bx.params.length:Int))=!q3:=by
      rw[bne,z6 (q:=q3) (zZ b3 Zo)]
     have g:uM blocks e=q3:=by
      unfold uM xz;rw[HE.out,decide_eq_true g1,decide_eq_true d7,Ni,Jj,b5,Ot,b3];rfl
     have l:=Ja g;clear b5 c7 c5 e5 e4 b7 g b3 g2
     cases q3 with
     |true=>
      go_quiet (fail);go_wp2;go_roundw
      case rel=>exact⟨k+1,d3.out,by go_num,Ja ⟨yC y.out,by rw[HT.out.1,HK.out.2,l.out];rfl⟩⟩
      case measure=>have:=d3.out;simp[intOf];omega
     |false=>
      go_quiet (fail);go_wp2;go_ret;exact⟨uz (u.out.1.symm.trans (HT.out.2 l.out)),yC (c.out.trans (y.out.mono c.out.size))⟩
    ·have t2:decide ((blocks.length:Int)<=(j:Int))=true:=decide_eq_true Zo;have d6:decide (blocks.length<=j)=true:=decide_eq_true Zo
     have g:uM blocks e=false:=by
      unfold uM;rw[HE.out,decide_eq_false (show ¬(j:Int)<(blocks.length:Int) by omega),Uh];rfl
     have l:=Ja g;clear g g2;go_quiet (fail);go_wp2;go_ret;exact⟨uz (u.out.1.symm.trans (HT.out.2 l.out)),yC (c.out.trans (y.out.mono c.out.size))⟩
   ·have t1:decide (eb<1)=true:=decide_eq_true Zo
    have g:uM blocks e=false:=by
     unfold uM;rw[HE.out,decide_eq_false g1];rfl
    have l:=Ja g;clear g g1;go_quiet (fail);go_wp2;go_ret;exact⟨uz (u.out.1.symm.trans (HT.out.2 l.out)),yC (c.out.trans (y.out.mono c.out.size))⟩
  ·obtain rfl:k=t.to.length:=by omega
   have d5:¬(t.to.length:Int)<t.to.length:=Zo;have d:=zH HK.out.1 d2.out (lt_of_block d2.out);have z0:=K0 d;have z1:=K1 d;have z2:=K2 d;have c0:t.to.all (uM blocks)=true:=by have:=HK.out.2;rwa [Nl] at this
   have HR:Hid ((if tk=1 then decide (t.to.length=1) && decide (tA=0)
    else if tk=2 then decide (t.to.length=2)
    else if tk=3 then decide (1<=t.to.length)
    else if tk=4 then decide (t.to.length=0)
    else if tk=5 then decide (t.to.length=0) && decide (tA=0)
    else false)=res):=by
    have h:=u.out;unfold wn at h;rw[c0,Bool.true_and,h.2.1,h.2.2] at h;exact h.1
   have m:=Ja (show O w wr from c.out.trans (HK.out.1.mono c.out.size));obtain⟨a1,h1⟩:∃q,decide (t.to.length=1)=q:=⟨_,rfl⟩
   obtain⟨a2,h2⟩:∃q,decide (t.to.length=2)=q:=⟨_,rfl⟩
   obtain⟨a3,h3⟩:∃q,decide (1<=t.to.length)=q:=⟨_,rfl⟩
   obtain⟨a4,h4⟩:∃q,decide (t.to.length=0)=q:=⟨_,rfl⟩
   obtain⟨a5,h5⟩:∃q,decide (tA=0)=q:=⟨_,rfl⟩
   rw[h1,h2,h3,h4,h5] at HR;have t1:((t.to.length:Int)==1)=a1:=z6 (zZ h1 Zo);have t2:((t.to.length:Int)==2)=a2:=z6 (zZ h2 Zo);have t3:decide ((1:Int)<=(t.to.length:Int))=a3:=zZ h3 Zo;have t4:((t.to.length:Int)==0)=a4:=z6 (zZ h4 Zo);have t5:=z6 h5;clear c0 d h1 h2 h4 h5 y2 a6
   by_cases k1:tk=1
   ·subst k1;cases a1<;>cases a5
    all_goals go_wp2
    all_goals go_ret
    all_goals exact⟨uz (HR.out.symm.trans rfl),m.out⟩
   by_cases k2:tk=2
   ·subst k2;go_wp2;go_ret;exact⟨uz (HR.out.symm.trans rfl),m.out⟩
   by_cases k3:tk=3
   ·subst k3;go_wp2;go_ret;exact⟨uz (HR.out.symm.trans rfl),m.out⟩
   by_cases k4:tk=4
   ·subst k4;go_wp2;go_ret;exact⟨uz (HR.out.symm.trans rfl),m.out⟩
   by_cases k5:tk=5
   ·subst k5;cases a4<;>cases a5
    all_goals go_wp2
    all_goals go_ret
    all_goals exact⟨uz (HR.out.symm.trans rfl),m.out⟩
   have f4:Hid (false=res):=by
    have:=HR.out;rw[if_neg k1,if_neg k2,if_neg k3,if_neg k4,if_neg k5] at this;exact this
   have u1:(tk==1)=false:=by rw[beq_eq_false_iff_ne];exact k1
   have u2:(tk==2)=false:=by rw[beq_eq_false_iff_ne];exact k2
   have u3:(tk==3)=false:=by rw[beq_eq_false_iff_ne];exact k3
   have u4:(tk==4)=false:=by rw[beq_eq_false_iff_ne];exact k4
   have u5:(tk==5)=false:=by rw[beq_eq_false_iff_ne];exact k5
   clear k1 k2 k3 k4 k5 HR;go_wp2;go_ret;exact⟨uz f4.out.symm,m.out⟩
theorem qk{n:Nat}{pv:List Value}{a2 q:Value}(h:ChkAt w C m1 m2 pv a2 q n d)(hn:n<9000000000000000000)(v i k:Int)(hv:I64 v)(hi:I64 i)(hk:I64 k)(g:rB d v i k=some d'):
 G 137 #[Y C,I v,I i,I k] w fun e w'=>e=.returned (.bool true)/\ChkAt w' C m1 m2 pv a2 q (n+1) d'/\Kept m1 m2 w w':=by
 obtain⟨hb,hl,o,a0,m,hd⟩:=h
 obtain⟨p0,p1,p2,p3,p4,p5,rfl⟩:∃a b c d e f,pv=[a,b,c,d,e,f]:=by
  match pv,hl with
  | [a,b,c,d,e,f],_=>exact⟨a,b,c,d,e,f,rfl⟩
 have a7:=o.lookOk hv;have b5:A w C 7 (.map (some m1)):=zA hb rfl;have b4:A w C 8 (.map (some m2)):=zA hb rfl;have j:¬((d.1 v).isSome∨v<0∨65535<v):=fun hc=>by rw[rB,if_pos hc] at g;cases g
 have a9:d'=(lS d.1 v i,lS d.2 v k):=by rw[rB,if_neg j] at g;cases g;rfl
 have h0:(d.1 v).isSome=false:=by cases l:(d.1 v).isSome with|false=>rfl|true=>exact absurd (.inl l) j
 have t:d.1 v=none:=by cases l:d.1 v with|none=>rfl|some y=>rw[l] at h0;cases h0
 have a4:d.2 v=none:=by cases l:d.2 v with|none=>rfl|some y=>have:=hd v;rw[l,t] at this;cases this
 have h1:decide (v<0)=false:=decide_eq_false Zo;have h2:decide (65535<v)=false:=decide_eq_false Zo;rw[h0] at a7;obtain⟨s1,w1,w2,e1,g1,e2,k1,g2⟩:=(wA.same (w':=w.drew) o rfl).entry hn hv hi t;obtain⟨es,ck,u⟩:=a0.blk;have a3:wA w2 m2 n d.2:=(wA.same (w':=w.drew) a0 rfl).same (g2.block m2 (lt_of_block u) (fun e=>m (by cases e;rfl)));obtain⟨s2,w3,w4,e3,g3,e4,k2,g4⟩:=a3.entry hn hv hk a4;subst a9;clear g j;simp only[goInt] at e1 e2 e3 e4;have H:=Ja (Jb g2 g4);go_enter Tryz.func137,Tryz.ntmps137;go_wp2
 go_region
 go_wp2;go_ret;obtain⟨g2,g4⟩:=H.out;obtain⟨b3,b7,a6⟩:=o.blk;have b1:C≠m1:=fun e=>by rw[e,a6] at hb;cases hb
 have b0:C≠m2:=fun e=>by rw[e,u] at hb;cases hb
 have a5:w.heap.size<=w2.heap.size:=g2.size;have a1:∀b,b≠m1->b≠m2->b<w.heap.size->w4.heap[b]? =w.heap[b]?:=fun b x1 x2 hbs=>(g4.block b Zo (fun e=>x2 (by cases e;rfl))).trans (g2.block b hbs (fun e=>x1 (by cases e;rfl)))
 obtain⟨b2,b6,a8⟩:=k1.blk;refine⟨rfl,⟨(a1 C b1 b0 (lt_of_block hb)).trans hb,rfl,k1.same (g4.block m1 (lt_of_block a8) (fun e=>m (by cases e;rfl))),k2,m,fun x=>?_⟩,⟨g4.os.trans g2.os,g4.tape.trans g2.tape,g4.output.trans g2.output,Jn a5 g4.size,fun b hbs x1 x2=>a1 b x1 x2 hbs⟩⟩
 show(lS d.1 v i x).isSome=(lS d.2 v k x).isSome
 unfold lS
 split
 ·rfl
 ·exact hd x
end Go.Proofs.YtoahcpkibpomcaaGreat
set_option maxRecDepth 8000
namespace Go.Proofs.YtoahcpkibpomcaaGreat
open Go.RowKit Go.Shelf
variable {bl blocks l:List IBlk}{t:ITerm}{C M g2 g3 k m m1 m2 what:Nat}{w w9 wx:World}{d d':wO}{g:List (List Nat)}{c xs:List Int}{ns:List Nat}{o:IOp}{i q0 q1 q2:Int}{Df:Int->Int->Int->Prop}{gv lv:Value}
def j6 (w:World)(xs:List Int)(e:Ending)(w':World):Prop:=∃v,e=.returned v/\w'.ownsRow w.heap.size 3 1 v xs.length (xs.map zN)/\O w w'
theorem lI (g:List (List Nat))(c:List Nat):(un g c).length=g.length:=by
 have h1:∀(l:List Nat) (P:List (List Nat)) (n:Nat),(l.foldl (xS n) P).length=P.length:=by
  intro l
  induction l with
  |nil=>intros;rfl
  |cons a l ih=>intro P n;rw[Qk,ih];simp[xS]
 have h2:∀(l:List Nat) (P:List (List Nat)),(l.foldl (yh g) P).length=P.length:=by
  intro l
  induction l with
  |nil=>intros;rfl
  |cons a l ih=>intro P;rw[Qk,ih];unfold yh;rw[h1]
 unfold un;rw[h2];simp
theorem afK(hr:∀row∈g,row.length<=2000000){c:List Nat}(ho:c.length<=2000000):∀row∈un g c,row.length<=4000004000000:=by
 intro row d;have:=rj g 2000000 hr c (List.replicate g.length []) 0 (by intro r hr;rw[(List.mem_replicate.1 hr).2];simp) row d;have h2:c.length*2000000<=2000000*2000000:=Qw _ ho;omega
theorem pz {c:List (List Nat)}{f:Int->Int}:∀ {ns:List Nat} {idom idom':List Int} {ch ch':Bool},ny c f ns idom ch idom' ch'->idom'.length=idom.length
 | [],_,_,_,_,h=>by rw[h.1]
 |n::ns,idom,idom',ch,ch',⟨pr,d,old,_,_,_,_,h⟩=>by
  rcases h with⟨_,h⟩|⟨_,h⟩
  ·exact pz h
  ·have:=pz h;simpa using this
theorem jF{c:List (List Nat)}{f:Int->Int}:∀ {k:Nat} {idom idom':List Int},ip c f ns k idom idom'->idom'.length=idom.length
 |0,_,_,h=>h.elim
 |k+1,idom,idom',⟨i1,ch,h1,h2⟩=>by
  have e:=pz h1;rcases h2 with⟨_,rfl⟩|⟨_,h2⟩
  ·exact e
  ·rw[jF h2,e]
theorem eL.len(h:eL g ns c)(hg:0<g.length):c.length=g.length:=by
 obtain⟨k,h⟩:=h;rw[jF h];simp;omega
theorem pe (w:World)(C bv:Nat)(g:List (List Nat))(hv:zw g)(d:g.length<=2000000)(hr:∀row∈g,row.length<=2000000)(ns:List Nat)(i:tV g (0::ns))(c:List Int)(hD:eL g ns c)
 (j:C<=w.heap.size) (h:oN w C bv (0::ns) (atF (0::ns) (0::ns).length) (un g (0::ns))):
 G 141 #[Y bv,I (g.length:Int)] w fun e w'=>∃b,e=.returned (F b g.length g.length)/\w.heap.size<=b/\Q w' b (c.map (Value.int .i64)).toArray 3/\O w w':=by
 obtain⟨h1,h2⟩:=i.nodes hv;obtain⟨k,hD⟩:=hD;simp only[Nq] at h1;exact qQ w C bv g.length (0::ns) _ _ j h hv.1 d ns rfl (fun x hx=>h2 x (by simp[hx])) Zo (lI _ _) (afK hr Zt) k c hD
theorem tw (w:World)(sv:Value)(g:List (List Nat))(B:Nat)(hB:B<=w.heap.size)(h:aaB zj w B sv g)(hv:zw g)(hn:g.length<=2000000)(hr:∀row∈g,row.length<=2000000)(ns:List Nat)(hF:tV g (0::ns))(c:List Int)(hD:eL g ns c):
 G 118 #[.agg #[sv]] w (j6 w (c.set 0 (-1))):=by
 obtain⟨a,d,rfl,a4⟩:=h.form;have m:O w (w.alloc (T #[.slice a g.length d] 105)):=(Below.refl _ _).alloc (Je _) _;have HL:=Ja (hD.len hv.1);have HV:=Ja hv;have HR:=Ja hr;have HF:=Ja hF;have HD:=Ja hD;have cg:A (w.alloc (T #[.slice a g.length d] 105)) w.heap.size 0 (.slice a g.length d):=cell_of_one (zI rfl);have a6:=hv.1;clear hv hr hF hD;go_enter Tryz.func118,Tryz.ntmps118;go_wp2_with (go_at_call 93;go_must (refine(tK _ _ g B Zt (h.below (m.mono hB)) HV.out hn HR.out).mono ?_;rintro e w1 ⟨rfl,j⟩;obtain⟨l,u⟩:=bcell j))
 generalize y:w.alloc (T #[.slice a g.length d] 105)=W0 at cg j l u ⊢;have t:=Ja y;have lg:w.heap.size<W0.heap.size:=Jw W0 _ cg;have a9:=(l _ 0 lg).trans cg;have q:Below (w.heap.size+1) W0 w1:=j.mono Zo;clear y m l u cg j
 go_cut [3] (fun s wx=>∃b,s=F b g.length g.length/\Hid (Q wx b (c.map (Value.int .i64)).toArray 3/\w.heap.size<=b/\O w wx))
 case first=>
  go_region_held3 (fun w'=>A w' w.heap.size 0 (.slice a g.length d)/\Below (w.heap.size+1) W0 w')
   (first
     |(go_split_ands;refine⟨?_,?_⟩<;>assumption)
     |(go_split_ands;refine⟨?_,uG ?_⟩<;>assumption)
     |(go_split_ands;exact oY ‹_› ‹_› Zz Zz))
   (first
     |(go_at_call 140;refine(view_any _ _ g B (o7 hB t (by repeat' (first|assumption|(with_reducible refine Below.drew ?_)))) (nP h hB t (by repeat' (first|assumption|(with_reducible refine Below.drew ?_)))) HV.out hn HR.out (0::ns) HF.out).mono ?_;rintro e w2 ⟨bv,rfl,a7,hV,o⟩)
     |(go_at_call 141;refine(pe _ _ bv g HV.out hn HR.out ns HF.out c HD.out (Je _) hV).mono ?_;rintro e w3 ⟨b,rfl,a8,a0,a2⟩))
  all_goals
   go_wp2_with fail;go_meet
   have a1:Below (w.heap.size+1) W0 w3:=by
    repeat' (first|assumption|(with_reducible refine Below.drew ?_)|(refine Below.trans ?_ (Below.mono a2 ?_))|(refine Below.trans ?_ (Below.mono o ?_))|omega)
    all_goals (have:=o.size;have:=q.size;simp at *;omega)
   have a5:=o.size;have a3:=q.size;exact⟨b,rfl,a0,by simp at *;omega,ww rfl t a1⟩
 case rest=>
  obtain⟨b,rfl,k⟩:=hcut;have hl:=HL.out
  have cb:∃x,A wc b 0 (I x):=by
   obtain⟨x,hx⟩:∃x,c[0]? =some x:=⟨_,Jd Zo⟩
   exact⟨x,zA k.out.1 (by simp[hx])⟩
  obtain⟨x,cb⟩:=cb;have fb:N wc b 0:=zE k.out.1;go_wp2_with fail;go_ret;refine⟨_,rfl,?_,k.out.2.2.setCell (by simpa using k.out.2.1) _⟩;have hs:=zD (i:=0) k.out.1 (I (-1));refine⟨by simp,.inr ⟨b,g.length,_,by simp[hl],k.out.2.1,hs,by simp[hl],by unfold maxLen;omega,by simp[hl],?_⟩⟩;simp only[Ox,Nd,hl,Nk,Jc,List.toList_toArray];rw[Oy (by simp[hl])];rfl
end Go.Proofs.YtoahcpkibpomcaaGreat
set_option maxRecDepth 8000
namespace Go.Proofs.YtoahcpkibpomcaaGreat
open Go.RowKit Go.Shelf
variable {bl blocks l:List IBlk}{t:ITerm}{C M g2 g3 k m m1 m2 what:Nat}{w w9 wx:World}{d d':wO}{g:List (List Nat)}{c xs:List Int}{ns:List Nat}{o:IOp}{i q0 q1 q2:Int}{Df:Int->Int->Int->Prop}{gv lv:Value}
structure GraphIn (w:World) (sv:Value) (g:List (List Nat)):Prop where
 rows:aaB zj w w.heap.size sv g
 valid:zw g
 len:g.length<=2000000
 row:∀row∈g,row.length<=2000000
theorem GraphIn.below{w':World}{sv:Value}(h:GraphIn w sv g)(hb:O w w'):GraphIn w' sv g:=
 ⟨(h.rows.below hb).mono hb.size,h.valid,h.len,h.row⟩
theorem iJ{sv:Value}(h:GraphIn w sv g):G 40 #[.agg #[sv]] w (fJ w (vD g)):=by
 obtain⟨ns,c⟩:=adR h.valid;rw[c.eq];exact tp w sv g w.heap.size (Je _) h.rows h.valid h.len h.row (0::ns) c.is
theorem qP{sv:Value}(h:GraphIn w sv g):G 118 #[.agg #[sv]] w (j6 w (wQ g)):=by
 obtain⟨ns,c⟩:=adR h.valid;obtain⟨D,d⟩:=c.dom;rw[<-idom_eq h.valid c d];exact tw w sv g w.heap.size (Je _) h.rows h.valid h.len h.row ns c.is D d.of
theorem ans_from{sv:Value}(h:GraphIn w sv g)(fr:Nat)(c:fr<g.length)(out:Int):G 49 #[.agg #[sv],I fr,I out] w (cE w (ie g fr out)):=
 from_any w sv g w.heap.size (Je _) h.rows h.valid h.len h.row fr c out _ (du h.valid fr c out)
open Go.RowKit
theorem aU{p:IProg}(g:p.args.all tX=true)(h:opF p o=true):o.args.length<=1000000000000:=by
 unfold opF at h;rw[Jm] at h
 have c:∀i,p.args.getD i 0<=8:=by
  intro i;rw[Jj]
  cases d:p.args[i]? with
  |none=>simp
  |some x=>
   have:=Oe.1 g x (Ji d);unfold tX at this;simp only[Jm,decide_eq_true_eq] at this;exact this.2
 have h2:=h.2
 split at h2
 ·simp only[Jm,decide_eq_true_eq] at h2;have:=c o.a.toNat;omega
 ·split at h2
  ·simp only[Jm,decide_eq_true_eq] at h2;omega
  ·simp only[Jm,decide_eq_true_eq] at h2;omega
theorem qM{e:IEdge}(h:uM blocks e=true):xz blocks e.block∈blocks/\e.args.length=(xz blocks e.block).params.length/\1<=e.block/\e.block.toNat<blocks.length:=by
 unfold uM at h;simp only[Jm,decide_eq_true_eq] at h;refine⟨?_,h.2,h.1.1,by omega⟩;unfold xz;rw[Jj,Jd Zo,Ot];exact Uf _
theorem lD(hs:vZ blocks)(h:wn blocks t=true):∀e∈t.to,e.args.length<=2000000:=by
 intro e c;unfold wn at h;rw[Jm] at h;obtain⟨h1,h2,_⟩:=qM (Oe.1 h.1 e c);rw[h2];exact(hs.2 _ h1).1
theorem nO(c:blocks≠ [])(h:∀b∈blocks,wn blocks b.term=true):zw (zy blocks):=by
 refine⟨by unfold zy;rw[Nr];exact List.length_pos_iff.2 c,fun l hl s hs=>?_⟩;unfold zy at hl;obtain⟨b,hb,rfl⟩:=Nu.1 hl;obtain⟨e,d,rfl⟩:=Nu.1 hs;have ht:=h b hb;unfold wn at ht;rw[Jm] at ht;have:=(qM (Oe.1 ht.1 e d)).2.2.2;unfold zy;rw[Nr];exact this
theorem graphI_F(h:∀b∈blocks,wn blocks b.term=true):zk blocks=(zy blocks).map (List.map (fun n:Nat=>(n:Int))):=by
 unfold zk zy tW;rw[List.map_map];refine Up fun b hb=>?_
 show b.term.to.map (·.block)=(b.term.to.map fun e=>e.block.toNat).map (fun n:Nat=>(n:Int))
 rw[List.map_map];refine Up fun e he=>?_
 have ht:=h b hb;unfold wn at ht;rw[Jm] at ht;have:=(qM (Oe.1 ht.1 e he)).2.2.1
 show e.block=((e.block.toNat:Nat):Int)
 omega
theorem bU{sv:Value}(hs:vZ blocks)(c:blocks≠ [])(h:∀b∈blocks,wn blocks b.term=true)(hr:aaB zN w w.heap.size sv (zk blocks)):GraphIn w sv (zy blocks):=by
 rw[graphI_F h] at hr;refine⟨(aaB.map (fun n:Nat=>(n:Int)) (fun x=>rfl)).1 hr,nO c h,by unfold zy;rw[Nr];exact hs.1,fun row hrow=>?_⟩;unfold zy at hrow;obtain⟨b,hb,rfl⟩:=Nu.1 hrow;rw[Nr];exact(hs.2 b hb).2.2
theorem xu (blocks:List IBlk):(zy blocks).length=blocks.length:=by simp[zy]
theorem dW:∀ {l m:List Nat},l.Nodup->(∀x∈l,x∈m)->l.length<=m.length
 | [],m,_,_=>Jt _
 |a::l,m,hl,h=>by
  obtain⟨ha,hl⟩:=Qt.1 hl;have hm:=h a (List.mem_cons_self ..);have h2:=dW (m:=m.erase a) hl (fun x hx=>(List.mem_erase_of_ne (fun e=>ha (by rw[<-e];exact hx))).2 (h x (List.mem_cons_of_mem _ hx)));rw[List.length_erase_of_mem hm] at h2;have:=List.length_pos_of_mem hm;rw[Nq];omega
theorem jl(hv:zw g)(h:(vD g).length=g.length):∀x,x<g.length->Reach (GE g) x:=by
 obtain⟨ns,c⟩:=adR hv;rw[c.eq] at h;intro x j;refine(c.mem x).1 ?_;apply Classical.byContradiction;intro k
 have i:=dW (l:=x::0::ns) (m:=List.range g.length) (Qt.2 ⟨k,c.nodup⟩) (fun y d=>by
  rcases Jq.1 d with rfl|d
  ·exact Ol.2 j
  ·exact Ol.2 (c.lt y d))
 rw[Nq,h,Un] at i;omega
theorem mu{v k:Int}(h:rB d v i k=some d')(hi:0<=i/\i.toNat<m)(c:∀x b,d.1 x=some b->0<=b/\b.toNat<m):∀x b,d'.1 x=some b->0<=b/\b.toNat<m:=by
 unfold rB at h
 split at h
 ·cases h
 ·cases h;intro x b hb
  change lS d.1 v i x=some b at hb
  unfold lS at hb
  split at hb
  ·cases hb;exact hi
  ·exact c x b hb
theorem oU(hi:0<=i/\i.toNat<m):∀(l:List Int) (d d':wO),vJ i l d=some d'->(∀x b,d.1 x=some b->0<=b/\b.toNat<m)->∀x b,d'.1 x=some b->0<=b/\b.toNat<m
 | [],d,d',h,hd=>by cases h;exact hd
 |v::l,d,d',h,hd=>by
  unfold vJ at h
  cases h1:rB d v i (-1) with
  |none=>rw[h1] at h;cases h
  |some d1=>rw[h1,Nw] at h;exact oU hi l d1 d' h (mu h1 hi hd)
theorem bP{p:IProg}(hi:0<=i/\i.toNat<m):∀(l:List IOp) (k:Int) (d d':wO),sS p i l k d=some d'->(∀x b,d.1 x=some b->0<=b/\b.toNat<m)->∀x b,d'.1 x=some b->0<=b/\b.toNat<m
 | [],k,d,d',h,hd=>by cases h;exact hd
 |o::l,k,d,d',h,hd=>by
  rw[dG] at h
  cases h1:ug p i k o d with
  |none=>rw[h1] at h;cases h
  |some d1=>
   rw[h1,Nw] at h;refine bP hi l _ d1 d' h ?_;unfold ug at h1
   split at h1
   ·split at h1
    ·exact mu h1 hi hd
    ·cases h1;exact hd
   ·cases h1
theorem oX{p:IProg}:∀(l:List IBlk) (i:Nat) (d d':wO),i+l.length<=m->uH p bl l i d=some d'->(∀x b,d.1 x=some b->0<=b/\b.toNat<m)->∀x b,d'.1 x=some b->0<=b/\b.toNat<m
 | [],i,d,d',_,h,hd=>by cases h;exact hd
 |b::l,i,d,d',hm,h,hd=>by
  simp only[Nq] at hm;unfold uH at h
  cases h1:pS p bl i b d with
  |none=>rw[h1] at h;cases h
  |some d1=>
   rw[h1,Nw] at h;obtain⟨_,d2,h2,h3⟩:=nF h1;have hi:0<=(i:Int)/\((i:Int)).toNat<m:=Zo;exact oX l (i+1) d1 d' Zo (by simpa using h) (bP hi _ _ _ _ h3 (oU hi _ _ _ h2 hd))
theorem rN{p:IProg}(h:wg p bl=some d):∀x b,d.1 x=some b->0<=b/\b.toNat<bl.length:=
 oX bl 0 ae1 d Zo h (fun x b hb=>by cases hb)
theorem vE (d:wO)(g:List (List Nat))(i:Int):∀(l m:List IOp) (k:Int),xF d g i (l++m) k=(xF d g i l k && xF d g i m (k+l.length))
 | [],m,k=>by simp[xF]
 |o::l,m,k=>by
  have e:k+1+(l.length:Int)=k+((o::l).length:Int):=by simp;omega
  show((rR o).all (yy d g i k) && xF d g i (l++m) (k+1))=(((rR o).all (yy d g i k) && xF d g i l (k+1)) && _)
  rw[vE d g i l m,e,Bool.and_assoc]
theorem aeD (d:wO)(g:List (List Nat)):∀(l m:List IBlk) (i:Int),tO d g (l++m) i=(tO d g l i && tO d g m (i+l.length))
 | [],m,i=>by simp[tO]
 |b::l,m,i=>by
  have e:i+1+(l.length:Int)=i+((b::l).length:Int):=by simp;omega
  show(aaC d g b i && tO d g (l++m) (i+1))=((aaC d g b i && tO d g l (i+1)) && _)
  rw[aeD d g l m,e,Bool.and_assoc]
theorem gZ{l:List IOp}(h:l[k]? =some o):xF d g i (l.take (k+1)) 0=(xF d g i (l.take k) 0 && (rR o).all (yy d g i k)):=by
 rw[Nh,h,Option.toList,vE,vS h,Ub];simp[xF]
theorem aeQ{l:List IOp}(h:l[k]? =some o)(hf:(rR o).all (yy d g i k)=false):xF d g i l 0=false:=by
 rw[sD h,vE,vS h,Ub]
 show(_ && ((rR o).all (yy d g i k) && _))=false
 rw[hf,Bool.false_and,Uh]
theorem mz{b:IBlk}(h:l[k]? =some b):tO d g (l.take (k+1)) 0=(tO d g (l.take k) 0 && aaC d g b k):=by
 rw[Nh,h,Option.toList,aeD,vS h,Ub];simp[tO]
theorem pH{b:IBlk}(h:l[k]? =some b)(hf:aaC d g b k=false):tO d g l 0=false:=by
 rw[sD h,aeD,vS h,Ub]
 show(_ && (aaC d g b k && _))=false
 rw[hf,Bool.false_and,Uh]
theorem ChkAt.made{pv:List Value}{d c:Value}(j:Q w C (pv++ [d,.map (some m1),.map (some m2),c]).toArray 173)(hl:pv.length=6)(h1:w.heap[m1]? =some (.map #[] 0))(h2:w.heap[m2]? =some (.map #[] 0))(g:m1≠m2):
 ChkAt w C m1 m2 pv d c 0 ae1:=by
 have hm:∀m,w.heap[m]? =some (.map #[] 0)->wA w m 0 (fun _=>none):=fun m h=>by
  have k:=wA.made ({w with heap:=w.heap.extract 0 m });have l:m<w.heap.size:=lt_of_block h;have hs:(w.heap.extract 0 m).size=m:=by simp;omega
  obtain⟨D,⟨es,i,k1,k2⟩,k3⟩:=k;have e1:(World.alloc {w with heap:=w.heap.extract 0 m } (.map #[] 0)).heap[(w.heap.extract 0 m).size]? =some (.map #[] 0):=zI rfl;rw[e1] at k1;cases k1;exact⟨D,⟨_,_,h,k2⟩,k3⟩
 exact⟨j,hl,hm m1 h1,hm m2 h2,g,fun _=>rfl⟩
theorem ChkAt.idom{n:Nat}{pv:List Value}{g i:Value}(h:ChkAt w C m1 m2 pv g i n d)(iv:Value):ChkAt (w.setCell ⟨C,9,none⟩ iv) C m1 m2 pv g iv n d:=by
 obtain⟨k1,k2⟩:=h.ne1;refine⟨?_,h.plen,h.map1.same (Below.heap_setCell _ _ _ _ (Ne.symm k1)),h.map2.same (Below.heap_setCell _ _ _ _ (Ne.symm k2)),h.ne,h.dom⟩;rw[zD h.blk];have hl:=h.plen
 obtain⟨p0,p1,p2,p3,p4,p5,rfl⟩:∃a b c d e f,pv=[a,b,c,d,e,f]:=by
  match pv,hl with
  | [a,b,c,d,e,f],_=>exact⟨a,b,c,d,e,f,rfl⟩
 rfl
structure DOk (d:wO) (done:List Int) (Df:Int->Int->Int->Prop):Prop where
 dom:∀v,(d.1 v).isSome=true↔v∈done
 val:∀v i k,Df v i k->d.1 v=some i/\d.2 v=some k
theorem DOk.def(h:DOk d c Df){v k:Int}(l:v ∉ c)(hr:0<=v/\v<=65535):
 ∃d',rB d v i k=some d'/\DOk d' (c++ [v]) (fun v' i' k'=>Df v' i' k'∨(v'=v/\i'=i/\k'=k)):=by
 have m:¬((d.1 v).isSome=true∨v<0∨65535<v):=by
  rintro(e|e|e)
  ·exact l ((h.dom v).1 e)
  ·omega
  ·omega
 refine⟨(lS d.1 v i,lS d.2 v k),?_,fun w=>?_,fun w i' k' g=>?_⟩
 ·unfold rB;rw[if_neg m]
 ·unfold lS;simp only[Jl,Jo]
  by_cases e:w=v
  ·rw[if_pos e];simp[e]
  ·rw[if_neg e,h.dom w];simp[e]
 ·unfold lS;rcases g with g|⟨rfl,rfl,rfl⟩
  ·have h1:=h.val w i' k' g;have j:w≠v:=fun e=>l (by rw[<-e];exact(h.dom w).1 (by rw[h1.1];rfl))
   simp only[if_neg j];exact h1
  ·simp
theorem DOk.weak{Dg:Int->Int->Int->Prop}(h:DOk d c Df)(hg:∀v i k,Dg v i k->Df v i k):DOk d c Dg:=⟨h.dom,fun v i k e=>h.val v i k (hg v i k e)⟩
theorem DOk.pars:∀(vs:List Int) (d:wO) (done:List Int) (Df:Int->Int->Int->Prop),DOk d done Df->(done++vs).Nodup->(∀v∈vs,0<=v/\v<=65535)->
 ∃d',vJ i vs d=some d'/\DOk d' (done++vs) (fun v' i' k'=>Df v' i' k'∨(v'∈vs/\i'=i/\k'=-1))
 | [],d,done,Df,h,_,_=>⟨d,rfl,by rw[Ua];exact h.weak (fun v i k e=>e.elim (fun e=>e) (fun e=>by cases e.1))⟩
 |v::vs,d,done,Df,h,hn,hr=>by
  have hv:v ∉ done:=fun e=>(Qq.1 hn).2.2 v e v (.head _) rfl
  obtain⟨d1,h1,h2⟩:=h.def (i:=i) (k:=-1) hv (hr v (.head _));have c:((done++ [v])++vs).Nodup:=by rw[Nv];exact hn
  obtain⟨d2,h3,g⟩:=DOk.pars vs d1 _ _ h2 c (fun w hw=>hr w (.tail _ hw));refine⟨d2,by unfold vJ;rw[h1];exact h3,?_⟩;rw[Nv] at g;refine g.weak (fun w i' k' e=>?_);rcases e with e|⟨e1,e2,e3⟩
  ·exact .inl (.inl e)
  ·rcases Jq.1 e1 with rfl|e1
   ·exact .inl (.inr ⟨rfl,e2,e3⟩)
   ·exact .inr ⟨e1,e2,e3⟩
theorem gY{os:List IOp}(h:0<=o.res):abo (o::os)=o.res::abo os:=by unfold abo;rw[List.filter_cons_of_pos (by simpa using h)];rfl
theorem abm{os:List IOp}(h:¬0<=o.res):abo (o::os)=abo os:=by unfold abo;rw[List.filter_cons_of_neg (by simpa using h)]
theorem DOk.ops{p:IProg}:∀(os:List IOp) (k:Int) (d:wO) (done:List Int) (Df:Int->Int->Int->Prop),DOk d done Df->(done++abo os).Nodup->(∀v∈abo os,0<=v/\v<=65535)->(∀o∈os,opF p o=true)->
 ∃d',sS p i os k d=some d'/\DOk d' (done++abo os) (fun v' i' k'=>Df v' i' k'∨(i'=i/\∃(j:Nat) (o:IOp),os[j]? =some o/\o.res=v'/\0<=v'/\k'=k+(j:Int)))
 | [],k,d,done,Df,h,_,_,_=>⟨d,rfl,by
  rw[show abo []=[] from rfl,Ua]
  exact h.weak (fun v i k e=>e.elim (fun e=>e) (fun e=>by obtain⟨_,j,o,h1,_⟩:=e;simp at h1))⟩
 |o::os,k,d,done,Df,h,hn,hr,ho=>by
  by_cases h0:0<=o.res
  ·rw[gY h0] at hn hr ⊢;have hv:o.res ∉ done:=fun e=>(Qq.1 hn).2.2 _ e _ (.head _) rfl
   obtain⟨d1,h1,h2⟩:=h.def (i:=i) (k:=k) hv (hr _ (.head _));have g:((done++ [o.res])++abo os).Nodup:=by rw[Nv];exact hn
   obtain⟨d2,h3,c⟩:=DOk.ops os (k+1) d1 _ _ h2 g (fun w hw=>hr w (.tail _ hw)) (fun x hx=>ho x (.tail _ hx));refine⟨d2,by unfold sS;rw[if_pos (ho o (.head _)),if_pos h0,h1];exact h3,?_⟩;rw[Nv] at c;refine c.weak (fun w i' k' e=>?_);rcases e with e|⟨e1,j,x,e2,e3,e4,e5⟩
   ·exact .inl (.inl e)
   ·cases j with
    |zero=>
     cases e2
     exact .inl (.inr ⟨e3.symm,e1,by omega⟩)
    |succ j=>exact .inr ⟨e1,j,x,e2,e3,e4,by omega⟩
  ·rw[abm h0] at hn hr ⊢;obtain⟨d2,h3,c⟩:=DOk.ops os (k+1) d done Df h hn hr (fun x hx=>ho x (.tail _ hx));refine⟨d2,by unfold sS;rw[if_pos (ho o (.head _)),if_neg h0];exact h3,c.weak (fun w i' k' e=>?_)⟩;rcases e with e|⟨e1,j,x,e2,e3,e4,e5⟩
   ·exact .inl e
   ·cases j with
    |zero=>cases e2;omega
    |succ j=>exact .inr ⟨e1,j,x,e2,e3,e4,by omega⟩
theorem DOk.blks{p:IProg}:∀(bs:List IBlk) (i:Nat) (d:wO) (done:List Int) (Df:Int->Int->Int->Prop),DOk d done Df->(done++aaI bs).Nodup->(∀v∈aaI bs,0<=v/\v<=65535)->(∀b∈bs,(∀o∈b.ops,opF p o=true)/\wn blocks b.term=true)->
 ∃d',uH p blocks bs i d=some d'/\DOk d' (done++aaI bs) (fun v' i' k'=>Df v' i' k'∨∃q:Nat,i'=((i+q:Nat):Int)/\fB bs v' q k')
 | [],i,d,done,Df,h,_,_,_=>⟨d,rfl,by
  rw[show aaI []=[] from rfl,Ua]
  exact h.weak (fun v i k e=>e.elim (fun e=>e) (fun e=>by obtain⟨q,_,b,hb,_⟩:=e;simp at hb))⟩
 |b::bs,i,d,done,Df,h,hn,hr,ho=>by
  have hd:aaI (b::bs)=b.params++(abo b.ops++aaI bs):=by
   show abu b++aaI bs=_
   unfold abu;rw[Nv]
  rw[hd] at hn hr ⊢;have n1:(done++b.params).Nodup:=by rw[<-Nv] at hn;exact(Qq.1 hn).1
  obtain⟨d1,a1,a2⟩:=DOk.pars (i:=i) b.params d done Df h n1 (fun v hv=>hr v (Jz _ hv));have n2:((done++b.params)++abo b.ops).Nodup:=by rw[<-Nv,<-Nv] at hn;exact(Qq.1 hn).1
  obtain⟨d2,b1,b2⟩:=DOk.ops (p:=p) (i:=i) b.ops 0 d1 _ _ a2 n2 (fun v hv=>hr v (Qf _ (Jz _ hv))) (ho b (.head _)).1;have n3:(((done++b.params)++abo b.ops)++aaI bs).Nodup:=by rw[Nv,Nv];exact hn
  obtain⟨d3,c1,c2⟩:=DOk.blks bs (i+1) d2 _ _ b2 n3 (fun v hv=>hr v (Qf _ (Qf _ hv))) (fun x hx=>ho x (.tail _ hx));refine⟨d3,?_,?_⟩
  ·unfold uH pS;rw[a1,Nw,b1,Nw,if_pos (ho b (.head _)).2,Nw];exact c1
  ·rw[Nv,Nv] at c2;refine c2.weak (fun w i' k' e=>?_);rcases e with e|⟨q,e1,x,e2,e3⟩
   ·exact .inl (.inl (.inl e))
   ·cases q with
    |zero=>
     cases e2;rcases e3 with⟨e3,e4⟩|⟨j,o,e3,e4,e5,e6⟩
     ·exact .inl (.inl (.inr ⟨e4,by rw[e1];rfl,e3⟩))
     ·exact .inl (.inr ⟨by rw[e1];rfl,j,o,e4,e5,e6,by omega⟩)
    |succ q=>exact .inr ⟨q,by rw[e1];omega,x,e2,e3⟩
abbrev ack (p:IProg)(f:List IBlk)(next:Nat)(pl:List Nat):Prop:=∃cur vals,MInv p f cur next vals (fun _=>False) (fun _=>False) pl
section
variable {p:IProg} {f:List IBlk} {next:Nat} {pl:List Nat} (h:ack p f next pl)
include h
theorem ack.term:∀b∈f,wn f b.term=true:=by
 obtain⟨cur,vals,h⟩:=h;intro b hb;obtain⟨i,hi⟩:=Ny hb;obtain⟨h1,h2,_⟩:=h.term i b hi (fun e=>e);unfold wn;rw[Jm,Oe];refine⟨fun e he=>?_,h1⟩;obtain⟨s,u,bs,e1,e2,e3,e4,_⟩:=h2 e he;have hs:=(Jh.1 e3).1
 have hb:xz f e.block=bs:=by
  unfold xz;rw[e1,Ni,Jj,e3];rfl
 unfold uM;simp only[Jm,decide_eq_true_eq];exact⟨⟨by omega,by omega⟩,by rw[hb];exact e4⟩
theorem ack.ne:f≠ []:=by
 obtain⟨cur,vals,h⟩:=h;intro e;have:=h.curl;rw[e] at this;simp at this
theorem ack.valid:zw (zy f):=nO h.ne h.term
theorem ack.ops:∀b∈f,∀o∈b.ops,opF p o=true:=by
 obtain⟨cur,vals,h⟩:=h;intro b hb o ho;obtain⟨i,hi⟩:=Ny hb;obtain⟨j,c⟩:=Ny ho;exact(h.ops i b hi j o c).1
end
theorem gK {f:List IBlk}{u:Nat}{b:IBlk}(hb:f[u]? =some b):succ (zy f) u=b.term.to.map fun e=>e.block.toNat:=by
 unfold succ zy;rw[Jj,Jr,hb];rfl
section
variable {p:IProg} {f:List IBlk} {next:Nat} {pl:List Nat} (h:ack p f next pl)
include h
theorem ack.reach {i:Nat}(hi:i<f.length):Reach (GE (zy f)) i:=by
 obtain⟨cur,vals,h⟩:=h;have hr:=h.rch i hi (fun e=>e);clear hi
 induction hr with
 |zero=>exact .refl trivial
 |step _ h2 h3 h4 ih=>
  refine .snoc ih ?_ trivial
  show _∈succ _ _
  rw[gK h2];exact Nu.2 ⟨_,h3,by rw[h4];rfl⟩
theorem ack.dom {b i:Nat}(o:Abv pl b i):Dom (GE (zy f)) b i:=by
 obtain⟨cur,vals,h⟩:=h;intro q
 induction q with
 |refl hne=>
  cases o with
  |refl=>exact hne rfl
  |up _ h0 _=>omega
 |@snoc u s _ he hne ih=>
  cases o with
  |refl=>exact hne rfl
  |up h0 h1 h2=>
   have c:s∈succ (zy f) u:=he
   have j:u<f.length:=by
    rcases Nat.lt_or_ge u f.length with k|l
    ·exact k
    ·unfold succ at c;rw[Jj,Of (by rw[xu];exact l)] at c;cases c
   obtain⟨x,g⟩:∃x,f[u]? =some x:=⟨_,Jd j⟩
   rw[gK g] at c;obtain⟨e,m,d⟩:=Nu.1 c;obtain⟨_,t2,_⟩:=h.term u x g (fun e=>e);obtain⟨s',u',bs,e1,_,_,_,e5,e6⟩:=t2 e m;rw[e1,Ni] at d;subst d;rw[h0] at e5;cases e5;exact ih (h2.trans e6)
theorem ack.doms {b i:Nat}(c:Abv pl b i)(hi:i<f.length):wE (zy f) b i=true:=by
 have hp:∀i u,pl[i]? =some u->0<i->u<i:=by obtain⟨cur,vals,h⟩:=h;exact h.par
 have hb:b<f.length:=by have:=c.le hp;omega
 exact(yO h.valid b i).2 ⟨h.reach hb,h.reach hi,h.dom c⟩
theorem ack.shapes (g:next<=65536):∃d,wg p f=some d/\∀v i k,fB f v i k->d.1 v=some (i:Int)/\d.2 v=some k:=by
 have ht:=h.term;have ho:=h.ops;obtain⟨cur,vals,h⟩:=h;have c:DOk ((fun _=>none,fun _=>none):wO) [] (fun _ _ _=>False):=⟨fun v=>by simp,fun v i k e=>e.elim⟩
 obtain⟨d,h1,h2⟩:=DOk.blks (p:=p) (blocks:=f) f 0 _ _ _ c (by rw[Op];exact h.nd) (fun v hv=>by have:=h.rng v hv;omega) (fun b hb=>⟨ho b hb,ht b hb⟩);refine⟨d,h1,fun v i k hd=>h2.val v i k (.inr ⟨i,by rw[Ng],hd⟩)⟩
theorem ack.known(c:∀v i k,fB f v i k->d.1 v=some (i:Int)/\d.2 v=some k){v:Int}{i:Nat}{k:Int}(hi:i<f.length)(hk:Kn f pl v i k):yy d (zy f) i k v=true:=by
 obtain⟨b,a,h1,h2,h3⟩:=hk;obtain⟨e1,e2⟩:=c v b a h1;unfold yy;rw[e1,e2];simp only[Jm,Bool.not_eq_true',Ni];refine⟨?_,h.doms h2 hi⟩;rw[Bool.and_eq_false_iff]
 by_cases e:b=i
 ·right;have:=h3 e;simp;omega
 ·left;simp;omega
end
theorem gM:∀(os:List IOp) (k:Nat),(∀(j:Nat) (o:IOp),os[j]? =some o->(rR o).all (yy d g i ((k+j:Nat):Int))=true)->xF d g i os k=true
 | [],k,h=>rfl
 |o::os,k,h=>by
  unfold xF;rw[Jm];refine⟨h 0 o rfl,?_⟩
  have:=gM os (k+1) (fun j x hx=>by
   have:=h (j+1) x hx;rw[show k+1+j=k+(j+1) by omega]
   exact this)
  rw[show((k+1:Nat):Int)=(k:Int)+1 by omega] at this;exact this
theorem fR:∀(bs:List IBlk) (i:Nat),(∀(q:Nat) (b:IBlk),bs[q]? =some b->aaC d g b ((i+q:Nat):Int)=true)->tO d g bs i=true
 | [],i,h=>rfl
 |b::bs,i,h=>by
  unfold tO;rw[Jm];refine⟨h 0 b rfl,?_⟩
  have:=fR bs (i+1) (fun q x hx=>by
   have:=h (q+1) x hx;rw[show i+1+q=i+(q+1) by omega]
   exact this)
  rw[show((i+1:Nat):Int)=(i:Int)+1 by omega] at this;exact this
theorem acd(hv:zw g)(hr:∀i,i<g.length->Reach (GE g) i):(vD g).length=g.length:=by
 obtain⟨ns,c⟩:=adR hv;rw[c.eq]
 have:=fg c.nodup (List.nodup_range (n:=g.length)) (fun x=>by
  rw[Ol]
  exact⟨fun hx=>c.lt x hx,fun hx=>(c.mem x).2 (hr x hx)⟩)
 rw[this,Un]
theorem ack.rest{p:IProg}{f:List IBlk}{next:Nat}{pl:List Nat}(h:ack p f next pl)(c:∀v i k,fB f v i k->d.1 v=some (i:Int)/\d.2 v=some k):iM f d=true:=by
 unfold iM;rw[Jm,decide_eq_true_eq];refine⟨?_,?_⟩
 ·rw[acd h.valid (fun i hi=>h.reach (by rw[xu] at hi;exact hi)),xu]
 ·refine fR f 0 (fun q b hb=>?_);rw[Ng];have hq:=(Jh.1 hb).1;unfold aaC;rw[Jm];have l:=h;obtain⟨cur,vals,g⟩:=l;refine⟨gM b.ops 0 (fun j o ho=>?_),?_⟩
  ·rw[Oe];intro v hv;rw[Ng];exact h.known c hq ((g.ops q b hb j o ho).2 v hv)
  ·rw[Oe];intro v hv;exact h.known c hq ((g.term q b hb (fun e=>e)).2.2 v hv)
theorem ack.function {p:IProg}{f:List IBlk}{next:Nat}{pl:List Nat}(h:ack p f next pl)(i:next<=65536){n:Nat}(hf:p.funcs[n]? =some f){b0:IBlk}(c:f[0]? =some b0)(g:(b0.params.length:Int)=p.args.getD n 0):yi p n=true:=by
 obtain⟨d,h1,h2⟩:=h.shapes i;have h3:=h.rest h2;unfold yi;rw[Jj,hf,Ot]
 match f,h1,h3,c with
 | [],_,_,c=>simp at c
 |b::bs,h1,h3,c=>
  cases c;simp only[Jm,decide_eq_true_eq];refine⟨g,?_⟩;rw[h1];exact h3
abbrev GR:=List Int×Value
def pU (v:Value)(l:List GR):Row:=⟨v,22,1,l.length,l.map (·.2)⟩
def sp (l:List GR):List Row:=l.map fun q=>zP q.2 q.1
def pV (w:World)(B:Nat)(v:Value)(rows:List (List Int)):Prop:=∃l:List GR,l.map (·.1)=rows/\Rows w B (pU v l::sp l)
def RetGraph (w:World)(rows:List (List Int))(e:Ending)(w':World):Prop:=∃a n c,e=.returned (.agg #[.slice a n c])/\pV w' w.heap.size (.slice a n c) rows/\O w w'
theorem ne_type7{a b:Nat}{ca cb:Array Value}{ta tb:TypeId}(d:Q w a ca ta)(hb:Q w b cb tb)(c:ta≠tb):a≠b:=fun e=>by
 subst e;rw[d] at hb
 injection hb with h3
 injection h3 with _ h4
 exact c h4
theorem rowI_get{b:IBlk}{e:IEdge}(h:b.term.to[k]? =some e):(tW b).take (k+1)=(tW b).take k++ [e.block]:=by
 unfold tW;rw[Nh,Jr,h];rfl
theorem lZ{b:IBlk}(h:l[k]? =some b):(zk l).take (k+1)=(zk l).take k++ [tW b]:=by
 unfold zk;rw[Nh,Jr,h];rfl
structure GrMid (w:World) (fb g2 g3:Nat) (fv gv lv:Value) (l:List GR) (xs:List Int) (wx:World):Prop where
 h1:wx.heap[fb]? =some (.cells #[fv] 39 (0,0))
 h2:wx.heap[g2]? =some (.cells #[.slice none 0 0] 105 (0,0))
 h3:wx.heap[g3]? =some (.cells #[gv] 105 (0,0))
 bel:Below fb w wx
 rows:Rows wx fb (zP lv xs::pU gv l::sp l)
 ges:fb<=g2/\fb<=g3/\g2≠g3/\fb≠g3
 sz:fb<=wx.heap.size
theorem GrMid.next{fb:Nat}{fv c:Value}{l:List GR}(h:GrMid w fb g2 g3 fv gv lv l xs wx){o:Obj}{x:Int}(hg:(wx.alloc o).grownBy w9 lv.ownBlock)
 (i:w9.ownsRow fb 3 1 c (xs.length+1) (xs.map zN++ [zN x])) (j:c.ownBlock=lv.ownBlock∨c.ownBlock=some (wx.alloc o).heap.size):GrMid w fb g2 g3 fv gv c l (xs++ [x]) w9:=by
 have ho:=h.rows.own _ (.head _);have hb:∀ {b:Nat} {cs:Array Value} {t:TypeId},Q wx b cs t->3≠t->Q w9 b cs t:=fun hb hne=>zL hg (zB hb) (zC ho hb (.inr hne))
 have g:O wx (wx.alloc o):=(Below.refl _ _).alloc (Je _) _;have d:wx.heap.size<=w9.heap.size:=by have:=hg.size;simp at this;omega
 refine⟨hb h.h1 Zd,hb h.h2 Zd,hb h.h3 Zd,?_,?_,h.ges,Jn h.sz d⟩
 ·exact h.bel.trans ⟨hg.os,hg.tape,hg.output,d,fun k hk=>(hg.block k (by simp;have:=h.sz;omega) (fun e=>by have:=(ho.lt k e.symm).1;omega)).trans (g.block k (by have:=h.sz;omega))⟩
 ·refine h.rows.grow (r':=zP c (xs++ [x])) g hg ?_ (fun k e=>?_)
  ·show w9.ownsRow fb 3 1 c (xs++ [x]).length ((xs++ [x]).map zN)
   rw[Jk,Ju,Js];exact i
  ·rcases j with e2|e2
   ·exact .inl (e2.symm.trans e)
   ·right;have e3:=e2.symm.trans e;simp at e3;omega
theorem GrMid.close{fb:Nat}{fv c:Value}{l:List GR}(h:GrMid w fb g2 g3 fv gv lv l xs wx){o:Obj}(hg:(wx.alloc o).grownBy w9 gv.ownBlock)
 (i:w9.ownsRow fb 22 1 c (l.length+1) (l.map (·.2)++ [lv])) (y:c.ownBlock=gv.ownBlock∨c.ownBlock=some (wx.alloc o).heap.size) (u:Value):
 Q (w9.setCell ⟨g3,0,none⟩ u) fb #[fv] 39/\Q (w9.setCell ⟨g3,0,none⟩ u) g2 #[L] 105/\Q (w9.setCell ⟨g3,0,none⟩ u) g3 #[u] 105/\Below fb w (w9.setCell ⟨g3,0,none⟩ u)/\
  Rows (w9.setCell ⟨g3,0,none⟩ u) fb (pU c (l++ [(xs,lv)])::sp (l++ [(xs,lv)])):=by
 have ho:=h.rows.own (pU gv l) (.tail _ (.head _));have hb:∀ {b:Nat} {cs:Array Value} {t:TypeId},Q wx b cs t->22≠t->Q w9 b cs t:=fun hb hne=>zL hg (zB hb) (zC ho hb (.inr hne))
 have d:O wx (wx.alloc o):=(Below.refl _ _).alloc (Je _) _;have j:wx.heap.size<=w9.heap.size:=by have:=hg.size;simp at this;omega
 have g:=hb h.h3 Zd;refine⟨zR (hb h.h1 Zd) h.ges.2.2.2,zR (hb h.h2 Zd) h.ges.2.2.1,by rw[zD g];rfl,?_,?_⟩
 ·exact(h.bel.trans ⟨hg.os,hg.tape,hg.output,j,fun k hk=>(hg.block k (by simp;have:=h.sz;omega) (fun e=>by have:=(ho.lt k e.symm).1;omega)).trans (d.block k (by have:=h.sz;omega))⟩).setCell h.ges.2.1 _
 ·have h1:=(h.rows.perm (List.Perm.swap _ _ _)).grow (r':=pU c (l++ [(xs,lv)])) d hg (by
   show w9.ownsRow fb 22 1 c (l++ [(xs,lv)]).length ((l++ [(xs,lv)]).map (·.2))
   rw[Jk,Ju,Js]
   exact i) (fun k e=>by
   rcases y with e2|e2
   ·exact .inl (e2.symm.trans e)
   ·right;have e3:=e2.symm.trans e;simp at e3
    omega)
  have h2:Rows w9 fb (pU c (l++ [(xs,lv)])::sp (l++ [(xs,lv)])):=h1.perm (List.Perm.cons _ (by
   unfold sp;rw[Js]
   exact(List.perm_append_singleton _ _).symm))
  refine h2.keep fun k hk=>Below.heap_setCell _ _ _ _ (fun e=>?_)
  obtain⟨r,hr,x⟩:=Nj.1 hk;have e':k=g3:=e;subst e'
  have m:105≠r.e:=by
   rcases Jq.1 hr with rfl|hr
   ·show 105≠22;decide
   ·unfold sp at hr;obtain⟨q,_,rfl⟩:=Nu.1 hr
    show 105≠3;decide
  exact zC (h2.own r hr) g (.inr (fun e=>m e.symm)) x
theorem agD{B:Nat}{e1:Value}(c3:wX w B e1 blocks)(hB:B<=w.heap.size)(hs:vZ blocks):
 G 48 #[.agg #[e1]] w (RetGraph w (zk blocks)):=by
 obtain⟨fa,fc,rfl,j3,j2⟩:=c3.form;have j0:=hs.1;have b3:=Ja (Jb c3 (Jb hB hs));obtain⟨fb,c2⟩:∃fb,w.heap.size=fb:=⟨_,rfl⟩
 have d5:O w (((w.alloc (T #[.slice fa blocks.length fc] 39)).alloc (T #[L] 105)).alloc (T #[L] 105)):=(((Below.refl _ _).alloc (Je _) _).alloc Zs _).alloc Zt _;have b4:=zB (o:=T #[L] 105) (zB (o:=T #[L] 105) (zI (W:=w) (o:=T #[.slice fa blocks.length fc] 39) rfl));have b0:=zB (o:=T #[L] 105) (zI (W:=w.alloc (T #[.slice fa blocks.length fc] 39)) (o:=T #[L] 105) rfl);have a9:=zI (W:=(w.alloc (T #[.slice fa blocks.length fc] 39)).alloc (T #[L] 105)) (o:=T #[L] 105) rfl;have c9:(w.alloc (T #[.slice fa blocks.length fc] 39)).heap.size=w.heap.size+1:=by simp
 have c8:((w.alloc (T #[.slice fa blocks.length fc] 39)).alloc (T #[L] 105)).heap.size=w.heap.size+1+1:=by simp
 rw[c9] at b0;rw[c8] at a9;clear c3 hB hs c9 c8;go_enter Tryz.func48,Tryz.ntmps48;go_upto_region 2 with fail;generalize h0:((w.alloc (T #[.slice fa blocks.length fc] 39)).alloc (T #[L] 105)).alloc (T #[L] 105)=W1 at *;rw[c2] at b4 b0 a9;generalize f8:fb+1+1=g3 at *;generalize f9:fb+1=g2 at *;have d1:g2≠g3/\fb<=g2/\fb<=g3:=Zo;have H1:=Ja (Jb d5 (Jb b4 (Jb b0 (Jb a9 (Jb c2 d1)))));clear d5 b4 b0 a9 h0 c2 f9 f8 d1;go_wp2
 go_loopw [4] (fun kv wx=>∃(k:Nat) (a:Option Addr) (n c:Nat),k<=blocks.length/\kv=I k/\Hid (Q wx fb #[.slice fa blocks.length fc] 39/\Q wx g2 #[L] 105/\Q wx g3 #[.slice a n c] 105/\Below fb w wx/\pV wx fb (.slice a n c) ((zk blocks).take k))) (fun kv _=>blocks.length-(intOf kv).toNat)
 case atStart=>exact⟨0,none,0,0,Jt _,rfl,Ja ⟨H1.out.2.1,H1.out.2.2.1,H1.out.2.2.2.1,by rw[<-H1.out.2.2.2.2.1];exact H1.out.1,[],rfl,Rows.nil.cons (Jv _ _ _ _) (fun g e=>by simp[Row.blk,pU,Value.ownBlock] at e)⟩⟩
 case round=>
  obtain⟨k,a,n,c,hk,rfl,t⟩:=hrel;have c0:=zA (i:=0) t.out.1 rfl;have b9:=lt_of_block t.out.1
  by_cases d2:k<blocks.length
  ·have e8:(k:Int)<(blocks.length:Int):=Zo;obtain⟨b,hb⟩:∃b,blocks[k]? =some b:=⟨_,Jd d2⟩
   obtain⟨l,hl,b1⟩:=t.out.2.2.2.2;have a4:fb=w.heap.size:=H1.out.2.2.2.2.1.symm;have x:GrMid w fb g2 g3 (.slice fa blocks.length fc) (.slice a n c) (L) l [] wr:=⟨t.out.1,t.out.2.1,t.out.2.2.1,t.out.2.2.2.1,b1.cons (Jv _ _ _ _) (fun g e=>by simp[Row.blk,zP,Value.ownBlock] at e),⟨H1.out.2.2.2.2.2.2.1,H1.out.2.2.2.2.2.2.2,H1.out.2.2.2.2.2.1,fun e=>ne_type7 t.out.1 t.out.2.2.1 Zd e⟩,Qd b9⟩
   have h5:=Ja x;have HL:=Ja (Jb hl hb);have d4:=b3.out.2.2.2 b (Ji hb);have i5:=d4.2.2;have h4:=Ja (show ∀wx,Below fb w wx->wX wx B (.slice fa blocks.length fc) blocks/\B<=wx.heap.size from fun wx hbx=>⟨b3.out.1.below yT (hbx.mono (by rw[a4];exact b3.out.2.1)),Jn b3.out.2.1 hbx.size⟩);clear hl b1 x hb d4 a4;go_wp2;clear c0 b9
   go_loopw [5,6] (fun lv jv wx=>∃(j:Nat) (la:Option Addr) (lc:Nat),j<=b.term.to.length/\lv=.slice la j lc/\jv=I j/\Hid (GrMid w fb g2 g3 (.slice fa blocks.length fc) (.slice a n c) (.slice la j lc) l ((tW b).take j) wx)) (fun _ jv _=>b.term.to.length-(intOf jv).toNat)
   case atStart=>exact⟨0,none,0,Jt _,rfl,rfl,h5⟩
   case round=>
    obtain⟨j,la,lc,hj,rfl,rfl,HM⟩:=hrel;have c0:=zA (i:=0) HM.out.h1 rfl;have b9:=lt_of_block HM.out.h1;obtain⟨b8,k1⟩:=h4.out _ HM.out.bel;obtain⟨bb,bo,g6,k0,d7,d6,h64,pv,ov,tv,g0,g1,g4,b5,b7,a1⟩:=b8.get HL.out.2;obtain⟨ta,tc,rfl,i6,i4⟩:=a1.form;subst g6;have i0:bb<wr.heap.size:=Zo
    by_cases d3:j<b.term.to.length
    ·have f4:(j:Int)<(b.term.to.length:Int):=Zo;obtain⟨e,he⟩:∃e,b.term.to[j]? =some e:=⟨_,Jd d3⟩
     obtain⟨eb,eo,f0,j5,j4,e9,_⟩:=a1.get he;subst f0;have h9:eb<wr.heap.size:=Zo;have b6:=HM.out.rows.own _ (.head _);have a6:((tW b).take j).length=j:=te hj
     have u:wr.ownsRow fb 3 1 (.slice la j lc) j (((tW b).take j).map zN):=by
      have h:=b6
      show wr.ownsRow fb 3 1 (.slice la j lc) j _
      unfold zP at h;simp only at h;rw[a6] at h;exact h
     have HO:=Ja (Jb u (Jb a6 he));have g5:fb<=wr.heap.size:=Zo;obtain⟨ij,f6,e7,e6,e5⟩:=info_parts Tryz.info_int;clear b6 a6 u he b5 b7 a1 b8 e9 g0 g1 d7 d6 h64;go_wp2_with (at_builtin;go_must (refine zK _ rfl (.tmp 26) (.tmp 38) 22 rfl fb 3 ij (I 0) 1 8 Tryz.underlying22 f6 e7 e6 e5 rfl Zd (.slice la j lc) j (((tW b).take j).map zN) rfl (HO.out.1.alloc _) _ 1 [zN e.block] rfl (yM.one (zI rfl) rfl) (by unfold maxLen;omega) Zo Zt ?_;intro v9 w9 m d y;obtain⟨a8,a7,rfl⟩:=zG m;have a0:=Ja (Jb m (Jb d y));clear m d y))
     go_roundw
     case rel=>
      refine⟨j+1,a8,a7,d3,rfl,by go_num,Ja ?_⟩;rw[rowI_get HO.out.2.2];exact HM.out.next a0.out.2.1 (by rw[HO.out.2.1];exact a0.out.1) a0.out.2.2
     case measure=>simp[intOf];omega
    ·obtain rfl:j=b.term.to.length:=by omega
     have f4:¬(b.term.to.length:Int)<(b.term.to.length:Int):=Zo;have c5:(tW b).take b.term.to.length=tW b:=Oy (by unfold tW;simp);have x:=HM.out;rw[c5] at x;have i9:=zA (i:=0) x.h3 rfl;have h7:=lt_of_block x.h3;have a2:=x.rows.own (pU (.slice a n c) l) (.tail _ (.head _));obtain⟨a',c',c4⟩:=zG a2
     have f3:n=l.length:=by
      simp only[pU] at c4;cases c4;rfl
     subst f3;have u:wr.ownsRow fb 22 1 (.slice a l.length c) l.length (l.map (·.2)):=a2
     have i7:l.length<=2000000:=by
      have h1:=congrArg List.length HL.out.1;rw[Nr,Oc] at h1;omega
     have HO:=Ja (Jb x u);have g5:fb<=wr.heap.size:=Zo;obtain⟨ik,f5,e4,e3,e2⟩:=info_parts Tryz.info_ints;clear c5 x a2 c4 u b5 b7 a1 b8 g0 g1 d7 d6 h64;go_wp2_with (at_builtin;go_must (refine zK _ rfl (.tmp 41) (.tmp 43) 103 rfl fb 22 ik (L) 1 24 Tryz.underlying103 f5 e4 e3 e2 rfl Zd (.slice a l.length c) l.length (l.map (·.2)) rfl (HO.out.2.alloc _) _ 1 [.slice la b.term.to.length lc] rfl (yM.one (zI rfl) rfl) (by unfold maxLen;omega) Zo Zt ?_;intro v9 w9 m d y;obtain⟨a8,a7,rfl⟩:=zG m;have b2:=zL d (zB HO.out.1.h3) (zC HO.out.2 HO.out.1.h3 (.inr Zd));have i2:=zA (i:=0) b2 rfl;have i1:N w9 g3 0:=zE b2;have h6:=lt_of_block b2;have a0:=Ja (Jb m (Jb d y));clear m d y b2))
     go_roundw
     case rel=>
      have a5:=HO.out.1.close a0.out.2.1 a0.out.1 a0.out.2.2 (.slice a8 (l.length+1) a7);refine⟨k+1,a8,l.length+1,a7,d2,by go_num,Ja ⟨a5.1,a5.2.1,a5.2.2.1,a5.2.2.2.1,l++ [(tW b,.slice la b.term.to.length lc)],?_,a5.2.2.2.2⟩⟩;rw[lZ HL.out.2,Js,HL.out.1];rfl
     case measure=>simp[intOf];omega
  ·obtain rfl:k=blocks.length:=by omega
   have e8:¬(blocks.length:Int)<(blocks.length:Int):=Zo;have d0:=zA (i:=0) t.out.2.2.1 rfl;have j1:=lt_of_block t.out.2.2.1;have e0:=zA (i:=0) t.out.2.1 rfl;have h8:=lt_of_block t.out.2.1;have ef:N wr g2 0:=zE t.out.2.1;go_wp2;have g8:=t.out.2.2.2.1;have f7:=t.out.2.2.2.2;have a4:=H1.out.2.2.2.2.1;have c7:=zD (i:=0) t.out.2.1 (.slice a n c);have x0:=zA (i:=0) c7 rfl;have i3:=lt_of_block c7;refine bodyPost_ret (v:=.agg #[.slice a n c]) ?_ rfl ?_
   ·rw[zM rfl];go_simp
   ·refine⟨a,n,c,rfl,?_,?_⟩
    ·obtain⟨l,hl,hr⟩:=f7;refine⟨l,by rw[hl,Oy (by unfold zk;simp)],?_⟩;rw[a4];refine hr.keep fun q hq=>Below.heap_setCell _ _ _ _ (fun e=>?_)
     obtain⟨r,a3,f2⟩:=Nj.1 hq;have e':q=g2:=e;subst e'
     have f1:r.e≠105:=by
      rcases Jq.1 a3 with rfl|a3
      ·show 22≠105;decide
      ·unfold sp at a3;obtain⟨p,_,rfl⟩:=Nu.1 a3
       show 3≠105;decide
     exact zC (hr.own r a3) t.out.2.1 (.inr f1) f2
    ·rw[a4];exact g8.setCell H1.out.2.2.2.2.2.2.1 _
theorem eE {p:IProg}{E:ME}(hp:EnvOk p E)(pos:Nat):aaz p (xD E pos) (fun i=>i=0) (fun _=>False) [0]:=by
 have g:=eP hp.alt E.me
 show MInv p [wJ (tkV E ⟨pos,[],0,0,[],6⟩ 3*10) (E.args.getD E.me 0).toNat] 0 (tkV E ⟨pos,[],0,0,[],6⟩ 3*10+(E.args.getD E.me 0).toNat) (wJ (tkV E ⟨pos,[],0,0,[],6⟩ 3*10) (E.args.getD E.me 0).toNat).params _ _ _
 generalize tkV E ⟨pos,[],0,0,[],6⟩ 3*10=nx;generalize (E.args.getD E.me 0).toNat=n at *
 have c:∀(i:Nat) (b:IBlk),[wJ nx n][i]? =some b->i=0/\b=wJ nx n:=fun i b h=>by
  cases i with
  |zero=>cases h;exact⟨rfl,rfl⟩
  |succ i=>simp at h
 have d:aaI [wJ nx n]=(List.range n).map fun k=>((nx+k:Nat):Int):=by
  unfold aaI abu wJ;simp[abo]
 refine⟨rfl,by show 0<1;decide,?_,?_,?_,?_,?_,?_,?_,?_,?_,?_⟩
 ·intro i u hi m;have:=(Jh.1 hi).1;simp at this;omega
 ·intro i b hb j o ho;obtain⟨rfl,rfl⟩:=c i b hb;simp[wJ] at ho
 ·intro i b hb l;exact absurd (c i b hb).1 l
 ·intro i b hb _;obtain⟨rfl,rfl⟩:=c i b hb;rfl
 ·intro i hi;rw[hi]
  show 0<1
  decide
 ·intro v hv b hb;obtain⟨_,rfl⟩:=c 0 b hb;exact⟨0,-1,⟨_,rfl,.inl ⟨rfl,hv⟩⟩,.refl _,fun _=>by show(-1:Int)<0;decide⟩
 ·rw[d];refine List.pairwise_map.2 (List.nodup_range.imp fun hab e=>hab ?_);omega
 ·intro v hv;rw[d] at hv;obtain⟨k,hk,rfl⟩:=Nu.1 hv;have:=Ol.1 hk;omega
 ·intro i hi _;have:i=0:=by simp at hi;exact hi
  subst this;exact .zero
 ·intro i b hb;obtain⟨rfl,rfl⟩:=c i b hb;exact⟨by rw[sd];exact g,by show 0<=4;decide⟩
theorem gJ {p:IProg}{E:ME}(hp:EnvOk p E)(pos:Nat):∃pl,ack p (xR E pos).f (xR E pos).next pl/\∃b0,(xR E pos).f[0]? =some b0/\b0.params.length=(E.args.getD E.me 0).toNat:=by
 have l:=eE hp pos;obtain⟨d,h1⟩:=abq hp 2 (xD E pos) _ _ [0] l rfl (fun e=>e) (fun i e=>e.elim);obtain⟨pl2,h2⟩:=abq hp 1 (zp E 2 (xD E pos)) _ _ d h1.inv (.inr rfl) h1.np (fun i e=>e.elim);have h3:=h1.trans h2 (ja h1.ext) l.lt;have hb:(xD E pos).f[0]? =some (wJ (tkV E ⟨pos,[],0,0,[],6⟩ 3*10) (E.args.getD E.me 0).toNat):=rfl;have c:=h3.ext;have hi:aaz p (zp E 1 (zp E 2 (xD E pos))) (fun i=>i=(zp E 1 (zp E 2 (xD E pos))).cur) (fun _=>False) pl2:=h3.inv.weak (fun i=>⟨fun e=>e.elim (fun e=>absurd e.1 e.2) (fun e=>e),.inr⟩) (fun i e=>e);unfold xR;simp only;generalize zp E 1 (zp E 2 (xD E pos))=M1 at *
 have fin:∀(M:MS) (t:ITerm),aaz p M (fun i=>i=M1.cur) (fun _=>False) pl2->M.cur=M1.cur->ky (xD E pos).f M.f->gR t=true->t.to=[]->(∀v∈mE t,v∈M.vals)->
  ∃pl,ack p (M.endB t).f (M.endB t).next pl/\∃b0,(M.endB t).f[0]? =some b0/\b0.params.length=(E.args.getD E.me 0).toNat:=fun M t hM hc hxx hk ht hv=>by
  have k:(fun i=>i=M1.cur) M.cur:=hc;have o:=hM.endB (t:=t) k hk (by rw[ht];show 0<=4;decide) (fun e he=>by rw[ht] at he;cases he) (fun v h=>hM.at (hv v h)) (P':=fun _=>False) (fun e=>e) (fun i e=> .inl e);have m:=hxx.trans (xd hM k t);obtain⟨b',j,g,_⟩:=m _ _ hb;refine⟨pl2,⟨_,_,o.weak (fun i=>⟨fun e=>e.2 (by rw[hc];exact e.1),fun e=>e.elim⟩) (fun i e=>e)⟩,b',j,by rw[g,sd]⟩
 split
 ·exact fin M1.tick ⟨5,0,[]⟩ hi rfl c rfl rfl (fun v hv=>by cases hv)
 split
 ·exact fin M1.tick ⟨4,-1,[]⟩ hi rfl c rfl rfl (fun v hv=>by cases hv)
 ·obtain⟨a1,a2⟩:=MInv.any (M:=M1.tick) E hi rfl
  exact fin (zJ E M1.tick).2 ⟨4,(zJ E M1.tick).1,[]⟩ a1 (yU E M1.tick).cur (c.trans (aaW E M1.tick)) rfl rfl (fun v hv=>by
   rcases gL hv with rfl|hv
   ·exact a2
   ·cases hv)
theorem jm {E:ME}(c:∀x∈E.args,0<=x/\x<4)(pos:Nat):(xR E pos).sz<=pos+2869:=by
 have h1:=(rx c pos).sz;have h2:=sQ c pos;omega
theorem qJ (s:List Int):∀(n k:Nat),k<n->(zg s n).1[k]? =some (xR (xC s k) (zg s k).2).f
 |n+1,k,h=>by
  show((zg s n).1++ [_])[k]? =_
  by_cases hk:k<n
  ·rw[Np (by rw[yx];exact hk)];exact qJ s n k hk
  ·have e:k=n:=Zo;subst e;rw[Nc (by rw[yx];exact Je _),yx,Qy];rfl
theorem qA (s:List Int):(uR s).funcs.length=mdN s:=by
 unfold uR;simp only
 split
 ·rw[Nd,yx]
 ·exact yx s _
theorem kz(s:List Int)(hk:k<mdN s):(uR s).funcs[k]? =some []/\qV s=true/\k=mdN s-1∨(uR s).funcs[k]? =some (xR (xC s k) (zg s k).2).f:=by
 have h:=qJ s (mdN s) k hk;unfold uR;simp only
 split
 ·rename_i c
  by_cases e:k=mdN s-1
  ·left;subst e;exact⟨Nn (by rw[yx];exact hk),c,rfl⟩
  ·right;rw[Ns (fun e2=>e e2.symm)];exact h
 ·exact .inr h
theorem gi (s:List Int)(k:Nat):EnvOk (uR s) (xC s k):=⟨qA s,rfl,rfl,xy s _⟩
theorem gP (s:List Int)(k:Nat):0<=(yS s (mdN s)).getD k 0/\(yS s (mdN s)).getD k 0<4:=by
 rw[Jj]
 cases c:(yS s (mdN s))[k]? with
 |none=>simp
 |some x=>exact xy s _ x (Ji c)
theorem lz (s:List Int)(k:Nat)(hk:k<mdN s):(xR (xC s k) (zg s k).2).sz<=15000:=by
 have h1:=tU s k;have h2:=jm (E:=xC s k) (xy s _) (zg s k).2;have:=sm s;omega
theorem no (s:List Int):∀n,0<n->(yS s n).getD 0 0=0
 |1,_=>rfl
 |n+2,_=>by
  have h:=no s (n+1) Zo;rw[Jj] at h ⊢
  show((yS s (n+1)++ [_])[0]?).getD 0=0
  rw[Np (by rw[yY];omega)];exact h
theorem eH (s:List Int):sR (uR s)=0:=by
 have m:=sm s;have hl:=qA s;have l:=no s (mdN s) Zo
 have k:wB (uR s)=true:=by
  have hb:sG.size=4096:=by
   unfold sG ByteArray.size;simp only[List.size_toArray,Nr,Un]
  unfold wB;rw[Jm];refine⟨?_,by show ig 1 am=true;decide⟩
  show [sG].all _=true
  simp[hb]
 have g:∀f:Nat,f<mdN s->(yS s (mdN s)).getD f 0=0->yw (uR s) (f:Int)=true:=fun f hf h=>by
  unfold yw;rw[Jm,Jm,decide_eq_true_eq,decide_eq_true_eq,beq_iff_eq,hl,Ni];exact⟨by omega,by omega,h⟩
 unfold sR;rw[if_neg (by rw[hl];show ¬(2000<mdN s∨512<3∨64<1);omega),if_neg (by rw[hl];show ¬((yS s (mdN s)).length≠mdN s);rw[yY];simp),if_neg,if_neg,if_neg (by rw[k];decide)]
 ·rintro(e|⟨e1,e2⟩)
  ·have:=g 0 Zo l;have e':yw (uR s) ((0:Nat):Int)=false:=e;rw[this] at e';cases e'
  ·have d:vw s≠-1:=e1;have c:yw (uR s) (vw s)=false:=e2;unfold vw at d c
   split at c
   ·rename_i i
    have j:=i.1;unfold oJ at j;simp only[Jm,decide_eq_true_eq] at j;rw[g _ Zo j.2] at c;cases c
   ·rename_i i
    rw[if_neg i] at d;exact d rfl
 ·have:∀x∈yS s (mdN s),tX x=true:=fun x hx=>by
   have:=xy s _ x hx;unfold tX;rw[Jm,decide_eq_true_eq,decide_eq_true_eq];omega
  intro e;have e':(yS s (mdN s)).all tX=false:=e;rw[Oe.2 this] at e';cases e'
theorem fm (s:List Int):vC (uR s)=0:=by
 unfold vC;rw[if_neg (by rw[eH];simp),if_pos];rw[Oe];intro k hk;rw[Ol,qA] at hk;rcases kz s hk with⟨h,_⟩|h
 ·unfold yi;rw[Jj,h];rfl
 ·obtain⟨pl,h1,b0,h2,h3⟩:=gJ (gi s k) (zg s k).2;have c:=lz s k hk;refine h1.function (by unfold MS.sz at c;omega) h h2 ?_;rw[h3]
  show(((yS s (mdN s)).getD k 0).toNat:Int)=(yS s (mdN s)).getD k 0
  exact Oa (gP s k).1
structure SmB (N:Nat) (b:IBlk):Prop where
 par:b.params.length<=N
 ops:b.ops.length<=N
 tos:b.term.to.length<=N
 oarg:∀o∈b.ops,o.args.length<=N
 earg:∀e∈b.term.to,e.args.length<=N
structure SmP (N:Nat) (p:IProg):Prop where
 fn:p.funcs.length<=N
 fs:∀f∈p.funcs,f.length<=N/\∀b∈f,SmB N b
 ar:p.args.length<=N
 da:p.data.length<=N
 ba:p.banks.length<=N
theorem SmB.mono{N:Nat}(c:N<=M){b:IBlk}(h:SmB N b):SmB M b:=⟨by have:=h.par;omega,by have:=h.ops;omega,by have:=h.tos;omega,fun o ho=>by have:=h.oarg o ho;omega,fun o ho=>by have:=h.earg o ho;omega⟩
theorem SmP.mono{N:Nat}(c:N<=M){p:IProg}(h:SmP N p):SmP M p:=
 ⟨by have:=h.fn;omega,fun f hf=>⟨by have:=(h.fs f hf).1;omega,fun b hb=>((h.fs f hf).2 b hb).mono c⟩,by have:=h.ar;omega,by have:=h.da;omega,by have:=h.ba;omega⟩
theorem SmP.small {N:Nat}{p:IProg}(h:SmP N p)(c:N<=2000000):SmallP p:=by
 have h:=h.mono c;exact⟨⟨h.fn,fun f hf=>⟨⟨(h.fs f hf).1,fun b hb=>⟨((h.fs f hf).2 b hb).par,((h.fs f hf).2 b hb).ops,((h.fs f hf).2 b hb).tos⟩⟩,fun b hb=>⟨((h.fs f hf).2 b hb).oarg,((h.fs f hf).2 b hb).earg⟩⟩⟩,h.ar,h.da,h.ba⟩
theorem SmP.sized {N:Nat}{p:IProg}(h:SmP N p)(c:N<=65536):mW p:=fun f hf=>
 ⟨(((h.mono (show N<=2000000 by omega)).small (Je _)).fn.2 f hf).1,fun b hb=>by have:=((h.fs f hf).2 b hb).par;omega⟩
theorem acZ {f:List IBlk}{b:IBlk}(h:b∈f):b.ops.length<=opsN f:=by
 unfold opsN
 induction f with
 |nil=>cases h
 |cons x f ih=>
  rw[Ql,List.sum_cons];rcases Jq.1 h with rfl|h
  ·omega
  ·have:=ih h;omega
theorem opF_args{p:IProg}(c:∀i,p.args.getD i 0<=8)(h:opF p o=true):o.args.length<=8:=by
 unfold opF at h;rw[Jm] at h;have h2:=h.2
 split at h2
 ·simp only[Jm,decide_eq_true_eq] at h2;have:=c o.a.toNat;omega
 ·split at h2
  ·simp only[Jm,decide_eq_true_eq] at h2;omega
  ·simp only[Jm,decide_eq_true_eq] at h2;omega
theorem acK (s:List Int):SmP 15000 (uR s):=by
 have j:=sm s;refine⟨by rw[qA];omega,fun f hf=>?_,by show(yS s (mdN s)).length<=_;rw[yY];omega,by show 3<=15000;decide,by show 1<=15000;decide⟩;obtain⟨k,hk⟩:=Ny hf;have c:=(Jh.1 hk).1;rw[qA] at c;rcases kz s c with⟨h,_⟩|h
 ·rw[hk] at h;cases h;exact⟨by simp,fun b hb=>by cases hb⟩
 ·rw[hk] at h;cases h;obtain⟨pl,h1,_⟩:=gJ (gi s k) (zg s k).2;have g:=lz s k c;have ho:=h1.ops;obtain⟨cur,vals,d⟩:=h1;generalize xR (xC s k) (zg s k).2=M at *;unfold MS.sz at g;refine⟨by omega,fun b hb=>?_⟩;obtain⟨i,hi⟩:=Ny hb;have h3:=d.sml i b hi;have l:=acZ hb;refine⟨by omega,by omega,by omega,fun o hoo=>?_,fun e he=>?_⟩
  ·have:=opF_args (fun i=>by have:=gP s i;show(yS s (mdN s)).getD i 0<=8;omega) (ho b hb o hoo);omega
  ·obtain⟨s',u,bs,_,_,e3,e4,_⟩:=(d.term i b hi (fun e=>e)).2.1 e he;have:=(d.sml s' bs e3).1;omega
theorem rf {α:Type}{P:α->Prop}{l:List α}{i:Nat}{g:α->α}(h:∀x∈l,P x)(hg:∀x∈l,P (g x)):∀x∈wD l i g,P x:=by
 unfold wD
 split
 ·rename_i y d
  intro x c;rcases Qe c with c|rfl
  ·exact h x c
  ·exact hg y (Ji d)
 ·exact h
theorem tD (x:Int)(h1:-1000000<=x)(h2:x<=1000000):I64 x:=⟨by omega,by omega⟩
theorem spO_sm{N n:Nat}(h:o.args.length<=N):(spO what n o).args.length<=N+1:=by
 unfold spO
 split<;>first|(show o.args.length<=_;omega)|(show(o.args++ [_]).length<=_;rw[Jk];show _+1<=_;omega)
theorem spoil_sm{N n:Nat}{b:IBlk}(h:SmB N b):SmB (N+1) (xh what n b):=by
 have hm:=h.mono (Nat.le_succ N);unfold xh
 split
 ·split
  ·exact hm
  split
  ·split
   ·rename_i x y d c
    refine⟨hm.par,by show((b.ops.set _ _).set _ _).length<=_;rw[Nd,Nd];exact hm.ops,hm.tos,fun o ho=>?_,hm.earg⟩;rcases Qe ho with ho|rfl
    ·rcases Qe ho with ho|rfl
     ·exact hm.oarg o ho
     ·exact hm.oarg _ (Ji c)
    ·exact hm.oarg _ (Ji d)
   ·exact hm
  split
  ·exact⟨hm.par,by show(b.ops.take _).length<=_;rw[Oc];have:=hm.ops;omega,hm.tos,fun o ho=>hm.oarg o (List.mem_of_mem_take ho),hm.earg⟩
  ·exact⟨hm.par,by show(wD b.ops _ _).length<=_;rw[xZ];exact hm.ops,hm.tos,rf hm.oarg (fun o ho=>spO_sm (h.oarg o ho)),hm.earg⟩
 split
 ·exact⟨by show(b.params++ [_]).length<=_;rw[Jk];have:=h.par;show _+1<=_;omega,hm.ops,hm.tos,hm.oarg,hm.earg⟩
 split
 ·exact⟨hm.par,hm.ops,hm.tos,hm.oarg,hm.earg⟩
 split
 ·exact⟨hm.par,hm.ops,hm.tos,hm.oarg,hm.earg⟩
 split
 ·exact⟨hm.par,hm.ops,by show(wD b.term.to _ _).length<=_;rw[xZ];exact hm.tos,hm.oarg,rf (P:=fun e:IEdge=>e.args.length<=N+1) hm.earg (fun e he=>hm.earg e he)⟩
 split
 ·exact⟨hm.par,hm.ops,by show(wD b.term.to _ _).length<=_;rw[xZ];exact hm.tos,hm.oarg,rf (P:=fun e:IEdge=>e.args.length<=N+1) hm.earg (fun e he=>by
   show(e.args++ [_]).length<=_
   rw[Jk];have:=h.earg e he
   show _+1<=_
   omega)⟩
 ·exact hm
theorem acA {N:Nat}{p:IProg}(h:SmP N p)(q0 q1 q2:Int):SmP (N+1) (wR p q0 q1 q2):=by
 have hm:=h.mono (Nat.le_succ N);unfold wR rA
 split
 ·exact⟨hm.fn,hm.fs,by show(p.args++ [_]).length<=_;rw[Jk];have:=h.ar;show _+1<=_;omega,hm.da,hm.ba⟩
 split
 ·exact⟨hm.fn,hm.fs,hm.ar,hm.da,hm.ba⟩
 split
 ·exact⟨hm.fn,hm.fs,hm.ar,hm.da,hm.ba⟩
 split
 ·exact⟨hm.fn,hm.fs,hm.ar,by show(p.data++ [_]).length<=_;rw[Jk];have:=h.da;show _+1<=_;omega,hm.ba⟩
 split
 ·exact⟨hm.fn,hm.fs,hm.ar,hm.da,by show(p.banks++ [_]).length<=_;rw[Jk];have:=h.ba;show _+1<=_;omega⟩
 split
 ·refine⟨by show(wD p.funcs _ _).length<=_;rw[xZ];exact hm.fn,rf hm.fs (fun f hf=>?_),hm.ar,hm.da,hm.ba⟩
  split
  ·exact hm.fs f hf
  ·refine⟨by rw[Jk];have:=(h.fs f hf).1;show _+1<=_;omega,fun b hb=>?_⟩;rcases Jl.1 hb with hb|hb
   ·exact(hm.fs f hf).2 b hb
   ·rw[Jo] at hb;subst hb;exact⟨Jt _,Jt _,Jt _,(fun o ho=>by cases ho),(fun e he=>by cases he)⟩
 ·refine⟨by show(wD p.funcs _ _).length<=_;rw[xZ];exact hm.fn,rf hm.fs (fun f hf=>?_),hm.ar,hm.da,hm.ba⟩;unfold lW;exact⟨by rw[xZ];exact(hm.fs f hf).1,rf (hm.fs f hf).2 (fun b hb=>spoil_sm ((h.fs f hf).2 b hb))⟩
theorem spO_64{n:Nat}(j:n<65536)(h:qN o/\∀x∈o.args,I64 x):qN (spO what n o)/\∀x∈(spO what n o).args,I64 x:=by
 obtain⟨⟨h1,h2,h3,i,g⟩,c⟩:=h;unfold spO
 split
 ·exact⟨⟨(show I64 ((n:Int)/7%30) from tD _ Zo Zo),h2,h3,i,g⟩,c⟩
 ·exact⟨⟨h1,(show I64 ((n:Int)/7%40-2) from tD _ Zo Zo),h3,i,g⟩,c⟩
 ·exact⟨⟨h1,h2,(show I64 ((n:Int)/7%40-2) from tD _ Zo Zo),i,g⟩,c⟩
 ·exact⟨⟨h1,h2,h3,(show I64 ((n:Int)/7%40) from tD _ Zo Zo),g⟩,c⟩
 ·exact⟨⟨h1,h2,h3,i,by show n/7%300<65536;omega⟩,c⟩
 ·refine⟨⟨h1,h2,h3,i,g⟩,fun x d=>?_⟩;rcases Jl.1 d with d|d
  ·exact c x d
  ·rw[Jo] at d;subst d;exact tD _ Zo Zo
 ·exact⟨⟨h1,h2,h3,i,g⟩,c⟩
theorem spoil_64{n:Nat}(g:n<65536){b:IBlk}(h:B64 b):B64 (xh what n b):=by
 unfold xh
 split
 ·split
  ·exact h
  split
  ·split
   ·rename_i x y c d
    refine⟨h.par,fun o ho=>?_,h.term,h.tos⟩;rcases Qe ho with ho|rfl
    ·rcases Qe ho with ho|rfl
     ·exact h.ops o ho
     ·exact h.ops _ (Ji d)
    ·exact h.ops _ (Ji c)
   ·exact h
  split
  ·exact⟨h.par,fun o ho=>h.ops o (List.mem_of_mem_take ho),h.term,h.tos⟩
  ·exact⟨h.par,rf h.ops (fun o ho=>spO_64 g (h.ops o ho)),h.term,h.tos⟩
 split
 ·refine⟨fun x c=>?_,h.ops,h.term,h.tos⟩;rcases Jl.1 c with c|c
  ·exact h.par x c
  ·rw[Jo] at c;subst c;exact tD _ Zo Zo
 split
 ·exact⟨h.par,h.ops,⟨tD _ (by show -1000000<=(n:Int)%7;omega) (by show(n:Int)%7<=1000000;omega),h.term.2⟩,h.tos⟩
 split
 ·exact⟨h.par,h.ops,⟨h.term.1,tD _ (by show -1000000<=(n:Int)%40-2;omega) (by show(n:Int)%40-2<=1000000;omega)⟩,h.tos⟩
 split
 ·exact⟨h.par,h.ops,h.term,rf (P:=fun e:IEdge=>I64 e.block/\∀x∈e.args,I64 x) h.tos (fun e he=>⟨tD _ (by show -1000000<=(n:Int)%9-1;omega) (by show(n:Int)%9-1<=1000000;omega),(h.tos e he).2⟩)⟩
 split
 ·exact⟨h.par,h.ops,h.term,rf (P:=fun e:IEdge=>I64 e.block/\∀x∈e.args,I64 x) h.tos (fun e he=>⟨(h.tos e he).1,fun x c=>by
   rcases Jl.1 c with c|c
   ·exact(h.tos e he).2 x c
   ·rw[Jo] at c;subst c;exact tD _ Zo Zo⟩)⟩
 ·exact h
theorem turn_64 {p:IProg}(h:P64 p)(q0 q1 q2:Int):P64 (wR p q0 q1 q2):=by
 have d:=turnN_lt q2;unfold wR rA;generalize uS q2=n at *
 split
 ·refine⟨h.funcs,fun x c=>?_,h.data,h.banks,h.ent,h.hnd⟩;rcases Jl.1 c with c|c
  ·exact h.args x c
  ·rw[Jo] at c;subst c;exact tD _ Zo Zo
 split
 ·exact⟨h.funcs,h.args,h.data,h.banks,tD _ (by show -1000000<=(n:Int)%7-1;omega) (by show(n:Int)%7-1<=1000000;omega),h.hnd⟩
 split
 ·exact⟨h.funcs,h.args,h.data,h.banks,h.ent,tD _ (by show -1000000<=(n:Int)%7-2;omega) (by show(n:Int)%7-2<=1000000;omega)⟩
 split
 ·refine⟨h.funcs,h.args,fun x c=>?_,h.banks,h.ent,h.hnd⟩;rcases Jl.1 c with c|c
  ·exact h.data x c
  ·rw[Jo] at c;subst c;refine⟨tD _ (by show -1000000<=(n:Int)%4-2;omega) (by show(n:Int)%4-2<=1000000;omega),?_,by show n/16%4<65536;omega⟩
   show lY _<65536
   unfold lY
   split<;>(try split)<;>(try split)<;>omega
 split
 ·refine⟨h.funcs,h.args,h.data,fun x c=>?_,h.ent,h.hnd⟩;rcases Jl.1 c with c|c
  ·exact h.banks x c
  ·rw[Jo] at c;subst c
   have:(xV (4096-n%3/2)).size<=4096:=by
    unfold xV y9;rw[strOfNums_size];simp<;>omega
   omega
 split
 ·refine⟨rf h.funcs (fun f hf=>?_),h.args,h.data,h.banks,h.ent,h.hnd⟩
  split
  ·exact h.funcs f hf
  ·intro b hb;rcases Jl.1 hb with hb|hb
   ·exact h.funcs f hf b hb
   ·rw[Jo] at hb;subst hb;exact⟨(fun x c=>by cases c),(fun o ho=>by cases ho),⟨tD _ Zd Zd,tD _ Zd Zd⟩,(fun e he=>by cases he)⟩
 ·refine⟨rf h.funcs (fun f hf=>?_),h.args,h.data,h.banks,h.ent,h.hnd⟩;unfold lW;exact rf (h.funcs f hf) (fun b hb=>spoil_64 d (h.funcs f hf b hb))
theorem iE{V:PV}{p:IProg}(hp:ProgIn w w.heap.size V p)(hs:SmallP p)(hq:I64 q0/\I64 q1/\I64 q2)(hw:l6 q0=18):
 G 13 #[yH V p,.agg #[I q0,I q1,I q2]] w (pd w (wR p q0 q1 q2)):=by
 obtain⟨fa,fc,c8,h9,h8⟩:=hp.funcs.form;obtain⟨aa,ac,d5,i6,i5⟩:=hp.args.form;obtain⟨da,dc,d3,i2,i1⟩:=hp.data.form;obtain⟨ba,bc,d4,i4,i3⟩:=hp.banks.form;obtain⟨p1,h5⟩:∃p1,w.heap.size=p1:=⟨_,rfl⟩
 have c2:∀W,O w W->G 18 #[.agg (R p fa fc aa ac da dc ba bc)] W _:=fun W hb=>by
  have h:=uJ ((hp.below hb).mono hb.size) hs;unfold yH at h;rw[c8,d5,d3,d4] at h;exact h
 unfold yH;rw[c8,d5,d3,d4];obtain⟨n,hn⟩:∃n,uS q2=n:=⟨_,rfl⟩
 have h6:q2%65536=(n:Int):=by rw[<-hn];unfold uS;omega
 have j4:n<65536:=Zo;obtain⟨what,f3⟩:∃k,l6 q0=k:=⟨_,rfl⟩
 have j3:-20<q0.tmod 20/\q0.tmod 20<20:=⟨by have:=Qu q0 (show(0:Int)<20 by decide);omega,Qv q0 Zd⟩
 have f4:(q0.tmod 20+20)%20=(what:Int):=by
  rw[<-f3];unfold l6;have h1:=Ob q0 (show(20:Int)≠0 by decide);rw[Oa h1];have h2:=Qs q0 20;omega
 have a65:=yt q2;rw[h6] at a65;have a65b:=yt q1;have k0:=hs.fn.1;have f9:O w (((w.alloc (T (R p fa fc aa ac da dc ba bc) 29)).alloc (T #[I q0,I q1,I q2] 23)).alloc (T #[L,L,I 0,I 0,L,L] 29)):=(((Below.refl _ _).alloc (Je _) _).alloc Zs _).alloc Zt _;have f2:=Ja c2;have g1:=Ja f9;have HP:=Ja (Jb hs (Jb hn f3));clear c2 f9 hp hs c8 d5 d3 d4 h9 h8 i6 i5 i2 i1 i4 i3 hn hq;have h4:=HP.out.2.2.symm.trans hw;subst h4;have b9:(q0.tmod 20+20)%20=18:=f4;clear f4;go_enter Tryz.func13,Tryz.ntmps13;go_upto_region 2 with(go_at_call 18;go_must (refine(f2.out _ g1.out).mono ?_;rintro e w2 ⟨t,b7,q,aa2,ac2,y,u,ba2,bc2,rfl,hV,ht,hr,hb⟩;have HT:=Ja (Jb hV (Jb ht (Jb hr hb)));clear hV ht hr hb))
 have a3:t.entry=p.entry/\t.handler=p.handler:=by rw[<-HT.out.2.1];exact⟨rfl,rfl⟩
 have a1:(zW t).toArray=R p b7 q aa2 ac2 y u ba2 bc2:=by
  unfold zW;rw[HT.out.1.1,HT.out.1.2.1,HT.out.1.2.2.1,HT.out.1.2.2.2,a3.1,a3.2]
 obtain⟨o5,c3⟩:∃o5,w2.heap.size=o5:=⟨_,rfl⟩
 have hm:TuMid w p1 o5 q0 q1 q2 t (w2.alloc (T (zW t).toArray 29)):=TuMid.start h5 c3 HT.out.2.2.1 HT.out.2.2.2;rw[a1] at hm;generalize i7:w2.alloc (T (R p b7 q aa2 ac2 y u ba2 bc2) 29)=W3 at *;clear i7;rw[c3];clear c3;have ho:=hm.ho;rw[a1] at ho;have e5:=zA (i:=0) hm.hq rfl;have e4:=zA (i:=1) hm.hq rfl;have d7:=zA (i:=2) hm.hq rfl;have b8:=zA (i:=0) ho rfl;have f1:=zA (i:=1) ho rfl;have e7:=zA (i:=4) ho rfl;have e6:=zA (i:=5) ho rfl;have of:∀i,N W3 o5 i:=fun i=>zE ho
 have f0:=zA (i:=2) ho rfl;have e8:=zA (i:=3) ho rfl;have ol:=lt_of_block ho;have l:=Ja (Jb hm (Jb ho (Jb a1 a3)));have HV:=Ja HT.out.1;have b0:=Ja HT.out.2.1;clear hm ho a1 a3 HT f2 g1;obtain⟨f,hf⟩:∃f,uk p q1=f:=⟨_,rfl⟩
 have HF:=Ja hf;clear hf
 go_upto_if 23 with fail
 go_cut [7,8] (fun s7 s8 wx=>s7=I 18/\s8=I f/\W3=wx)
 case first=>
  have hf:=HF.out;unfold uk at hf
  by_cases b4:0<p.funcs.length
  ·rw[if_pos b4] at hf;have g5:(0:Int)<(p.funcs.length:Int):=Zo
   have f7:(q1%65536)%(p.funcs.length:Int)=(f:Int):=by
    rw[<-hf,Ou,Oa (Ob _ Zd)]
   have h0:0<=q1%65536:=Ob _ Zd;clear hf b4;go_wp2;go_meet;exact⟨by first|rfl|rw[b9],by first|rfl|rw[f7],rfl⟩
  ·rw[if_neg b4] at hf;have g5:¬(0:Int)<(p.funcs.length:Int):=Zo;subst hf;clear b4;go_wp2;go_meet;exact⟨by first|rfl|rw[b9],rfl,rfl⟩
 case rest=>
 obtain⟨rfl,rfl,rfl⟩:=hcut;have a2:t.funcs.length=p.funcs.length:=by rw[<-b0.out];unfold PT.prog;simp
 by_cases b5:0<p.funcs.length
 ·have i9:f<p.funcs.length:=by
   have h:=HF.out;unfold uk at h;rw[if_pos b5] at h;rw[<-h];exact Qj _ b5
  obtain⟨ft,a7⟩:∃ft,t.funcs[f]? =some ft:=⟨_,Jd Zo⟩
  have c0:p.funcs[f]? =some ft.fn:=by
   rw[<-b0.out]
   show(t.funcs.map FT.fn)[f]? =_
   rw[Jr,a7];rfl
  have c9:=kZ l.out.1.rows;rw[HV.out.1,a2] at c9;obtain⟨fb,k2,i0,j1,j0⟩:=c9.form b5;cases i0;have d0:t.fv.ownBlock=some fb:=by rw[HV.out.1];rfl
  obtain⟨cf,ff,g0⟩:=kj l.out.1.rows d0 a7;have c7:W3.ownsRow (p1+1+1+1) 84 5 ft.bv ft.blks.length (ft.blks.flatMap zz):=l.out.1.rows.own (zd ft.bv ft.blks) ((PT.rows_at a7).mem_iff.2 (.head _));obtain⟨ga,gc,c5⟩:=zG c7;rw[c5] at cf;have f7:(f:Int)<(p.funcs.length:Int):=Zo;have g6:(0:Int)<(p.funcs.length:Int):=Zo;have b2:=(HP.out.1.fn.2 ft.fn (Ji c0))
  have b6:ft.fn.length=ft.blks.length:=by unfold FT.fn;simp
  have j2:ft.blks.length<=2000000:=by have:=b2.1.1;omega
  have d:=Ja (Jb a7 (Jb c0 (Jb d0 (Jb c5 (Jb c7 (Jb b2 b6))))));clear a7 c0 d0 c5 c7 c9 b2 b6 a2
  by_cases f8:0<ft.blks.length
  ·have g8:(0:Int)<(ft.blks.length:Int):=Zo;obtain⟨ii,h7,g4,g3,g2⟩:=info_parts Tryz.info_irblock;have c4:ft.bv.ownBlock≠some o5:=zC d.out.2.2.2.2.1 l.out.2.1 (.inr Zd);have b1:ft.bv.ownBlock≠some fb:=fun e=>l.out.1.farF d.out.1 e d.out.2.2.1
   have j5:=l.out.1.ge
   have m:=Ja (show((W3.alloc (T #[L,L,I 5,I 0,L] 84)).drew).ownsRow (p1+1+1+1) 84 5 (.slice ga ft.blks.length gc) ft.blks.length (ft.blks.flatMap zz)/\yM ((W3.alloc (T #[L,L,I 5,I 0,L] 84)).drew) 5 (F W3.heap.size 1 1) 1 [L,L,I 5,I 0,L]/\Q ((W3.alloc (T #[L,L,I 5,I 0,L] 84)).drew) o5 (R p (some ⟨fb,0,none⟩) q aa2 ac2 y u ba2 bc2) 29/\A ((W3.alloc (T #[L,L,I 5,I 0,L] 84)).drew) fb f (.slice ga ft.blks.length gc)/\N ((W3.alloc (T #[L,L,I 5,I 0,L] 84)).drew) fb f/\some fb≠(Value.slice ga ft.blks.length gc).ownBlock/\(Value.slice ga ft.blks.length gc).ownBlock≠some o5 from by
    have h1:=d.out.2.2.2.2.1;rw[d.out.2.2.2.1] at h1 c4 b1
    exact⟨h1.alloc _,yM.cells (w:=(W3.alloc (T #[L,L,I 5,I 0,L] 84)).drew) (zI (W:=W3) rfl) rfl (by simp[Value.oneCell']),zB l.out.2.1,(Ok W3 _ _ g0).trans cf,(Below.frozen ((Below.refl W3.heap.size W3).alloc (Je _) _) (p:=⟨fb,f,none⟩) g0).trans ff,fun e=>b1 e.symm,c4⟩)
   clear c4 b1 f8;go_upto_region 23 with fail;refine wp_region_noPanic ?_;refine yQ (S:=(fun w'=>A w' o5 0 (F fb p.funcs.length q)/\A w' fb f (.slice ga ft.blks.length gc))) 15 Zk ⟨b8,cf⟩ (fun hHeld=>?_);refine Tl 0 ?_
   try simp only[Yp]
   refine Tl 1 ?_
   try simp only[Yp]
   refine Tl 2 ?_
   try simp only[Yp]
   refine Tl 3 ?_
   try simp only[Yp]
   refine Tl 4 ?_
   try simp only[Yp]
   refine Tl 5 ?_
   try simp only[Yp]
   refine Tl 6 ?_
   try simp only[Yp]
   refine Tl 7 ?_
   try simp only[Yp]
   refine Tl 8 ?_
   try simp only[Yp]
   refine Tl 9 ?_
   try simp only[Yp]
   refine Tl 10 ?_
   try simp only[Yp]
   refine z8 (rs:=[11]) Zk Zs ?_;refine zS.cons (o:=_) rfl (fun K hK=>?_) ?_
   ·skip
    go_simp;refine hK.out _ _ ⟨zA (i:=0) m.out.2.2.1 rfl,m.out.2.2.2.1⟩ (fun hHeld=>?_);clear hK K
    try simp only[Yp]
    refine z8 (rs:=[12]) Zk Zs ?_;refine zS.cons (o:=_) rfl (fun K hK=>?_) ?_
    ·skip
     (refine yG (by rfl) (.tmp 148) (.tmp 151) _ (by rfl) (p1+1+1+1) 84 ii (.agg #[L,L,I 0,I 0,L]) 5 88 Tryz.underlying37 h7 g4 g3 g2 rfl Zo (.slice ga ft.blks.length gc) (ft.blks.length) (ft.blks.flatMap zz) (by rfl) m.out.1 (F W3.heap.size 1 1) 1 [L,L,I 5,I 0,L] (by rfl) m.out.2.1 (by unfold maxLen;omega) Zo Zt ?_;intro ra rc w9 b3 j d6;have f5:=zL j m.out.2.2.1 m.out.2.2.2.2.2.2;have d1:=zA (i:=0) f5 rfl;have d2:=(j.cell_far ⟨fb,f,none⟩ Zt m.out.2.2.2.2.2.1).trans m.out.2.2.2.1;have df:=(j.frozen_far ⟨fb,f,none⟩ Zt m.out.2.2.2.2.2.1).trans m.out.2.2.2.2.1;have dl:=lt_of_block f5;have HG:=Ja (Jb b3 (Jb j d6));clear b3 j d6;(try dsimp only))
     refine hK.out _ _ ⟨d1,d2⟩ (fun hHeld=>?_);clear hK K
     try simp only[Yp]
     refine z8 (rs:=[13]) Zk Zs ?_;refine zS.cons (o:=_) rfl (fun K hK=>?_) ?_
     ·skip
      go_simp;refine hK.out _ _ Zz (fun hHeld=>?_);clear hK K
      try simp only[Yp]
      refine Tl 14 ?_
      try simp only[Yp]
      refine z8 (rs:=[15]) Zk Zs ?_;refine zS.last (o:=_) rfl (fun K hK=>?_);go_simp;refine hK.out _ _ ?_;clear hK K
      try simp only[Yp]
      refine xj Zk (NoPanic.normal ?_) _;go_upto_region 24 with fail
      have c:=(by
       have f6:=HG.out.2.1;have e9:=d.out.2.2.2.1;rw[<-e9] at f6;refine l.out.1.addB (v':=.slice ra (ft.blks.length+1) rc) d.out.1 d.out.2.2.1 (((Below.refl W3.heap.size W3).alloc (Je _) (T #[L,L,I 5,I 0,L] 84)).drew) f6 HG.out.1 (fun x e=>?_);rcases HG.out.2.2 with e2|e2
       ·left;have e3:=e2.symm.trans e;rw[e9];exact e3
       ·right;have e3:=e2.symm.trans e;simp at e3
        omega)
      generalize a9:w9.setCell ⟨fb,f,none⟩ (.slice ra (ft.blks.length+1) rc)=WF at *;have ho2:=c.ho
      have e0:(zW ({t with funcs:=t.funcs.set f ⟨ft.blks++ [btH],.slice ra (ft.blks.length+1) rc⟩}:PT)).toArray=R p (some ⟨fb,0,none⟩) q aa2 ac2 y u ba2 bc2:=by
       unfold zW
       first|(simp only;done)|(simp only[HV.out.1,HV.out.2.1,HV.out.2.2.1,HV.out.2.2.2,l.out.2.2.2.1,l.out.2.2.2.2])
      rw[e0] at ho2;clear a9 e5 e4 d7 b8 f1 f0 e8 e7 e6 of ol;have x0:=zA (i:=0) ho2 rfl;have x1:=zA (i:=1) ho2 rfl;have x2:=zA (i:=2) ho2 rfl;have x3:=zA (i:=3) ho2 rfl;have x4:=zA (i:=4) ho2 rfl;have x5:=zA (i:=5) ho2 rfl;have xl:=lt_of_block ho2;have y0:=zA (i:=0) c.hr rfl;have y1:=zA (i:=1) c.hr rfl;have y2:=zA (i:=2) c.hr rfl;have y3:=zA (i:=3) c.hr rfl;have y4:=zA (i:=4) c.hr rfl;have y5:=zA (i:=5) c.hr rfl;have yf:∀i,N WF (p1+1+1) i:=fun i=>zE c.hr
      have yl:=lt_of_block c.hr;have a0:=Ja (Jb c e0);clear c ho2 e0;go_wp2;refine bodyPost_ret (v:=.agg (R p (some ⟨fb,0,none⟩) q aa2 ac2 y u ba2 bc2)) ?_ rfl (a0.out.1.ret a0.out.2 ?_)
      ·rw[zM rfl];go_simp
      ·have a4:=HP.out.2.2;have a6:=HP.out.2.1;have a8:=HF.out;have a5:=b0.out;have k1:=d.out.2.2.2.2.2.2;unfold wR rA;rw[a6,a8,show l6 q0=18 from a4]
       have e1:wD p.funcs f (fun g=>if g.length=0 then g else g++ [hltB])=p.funcs.set f (ft.fn++ [hltB]):=by
        rw[xI d.out.2.1,if_neg Zo]
       rw[e1,<-a5];unfold PT.prog;simp only[Ox];unfold FT.fn;rw[Js];rfl
     exact zS.nil
    exact zS.nil
   exact zS.nil
  ·have g8:¬(0:Int)<(ft.blks.length:Int):=Zo
   have HN:=Ja (show ∀g,p.funcs[f]? =some g->g.length=0 from fun g hg=>by
    rw[d.out.2.1] at hg;cases hg;have:=d.out.2.2.2.2.2.2
    omega)
   clear f8;go_upto_region 24 with fail;have c:=l.out.1;generalize a9:W3=WF at *;have ho2:=c.ho
   have e0:(zW t).toArray=R p (some ⟨fb,0,none⟩) q aa2 ac2 y u ba2 bc2:=by
    unfold zW
    first|(simp only;done)|(simp only[HV.out.1,HV.out.2.1,HV.out.2.2.1,HV.out.2.2.2,l.out.2.2.2.1,l.out.2.2.2.2])
   rw[e0] at ho2;clear a9 e5 e4 d7 b8 f1 f0 e8 e7 e6 of ol;have x0:=zA (i:=0) ho2 rfl;have x1:=zA (i:=1) ho2 rfl;have x2:=zA (i:=2) ho2 rfl;have x3:=zA (i:=3) ho2 rfl;have x4:=zA (i:=4) ho2 rfl;have x5:=zA (i:=5) ho2 rfl;have xl:=lt_of_block ho2;have y0:=zA (i:=0) c.hr rfl;have y1:=zA (i:=1) c.hr rfl;have y2:=zA (i:=2) c.hr rfl;have y3:=zA (i:=3) c.hr rfl;have y4:=zA (i:=4) c.hr rfl;have y5:=zA (i:=5) c.hr rfl;have yf:∀i,N WF (p1+1+1) i:=fun i=>zE c.hr
   have yl:=lt_of_block c.hr;have a0:=Ja (Jb c e0);clear c ho2 e0;go_wp2;refine bodyPost_ret (v:=.agg (R p (some ⟨fb,0,none⟩) q aa2 ac2 y u ba2 bc2)) ?_ rfl (a0.out.1.ret a0.out.2 ?_)
   ·rw[zM rfl];go_simp
   ·have a4:=HP.out.2.2;have a6:=HP.out.2.1;have a8:=HF.out;have a5:=b0.out;unfold wR;rw[a6,a8,show l6 q0=18 from a4,uw (.inl rfl) HN.out];exact a5
 ·have g6:¬(0:Int)<(p.funcs.length:Int):=Zo
  have HN:=Ja (show ∀g,p.funcs[f]? =some g->g.length=0 from fun g hg=>by
   have:=(Jh.1 hg).1
   omega)
  clear b5 a2;go_upto_region 24 with fail;have c:=l.out.1;generalize a9:W3=WF at *;have ho2:=c.ho
  have e0:(zW t).toArray=R p b7 q aa2 ac2 y u ba2 bc2:=by
   unfold zW
   first|(simp only;done)|(simp only[HV.out.1,HV.out.2.1,HV.out.2.2.1,HV.out.2.2.2,l.out.2.2.2.1,l.out.2.2.2.2])
  rw[e0] at ho2;clear a9 e5 e4 d7 b8 f1 f0 e8 e7 e6 of ol;have x0:=zA (i:=0) ho2 rfl;have x1:=zA (i:=1) ho2 rfl;have x2:=zA (i:=2) ho2 rfl;have x3:=zA (i:=3) ho2 rfl;have x4:=zA (i:=4) ho2 rfl;have x5:=zA (i:=5) ho2 rfl;have xl:=lt_of_block ho2;have y0:=zA (i:=0) c.hr rfl;have y1:=zA (i:=1) c.hr rfl;have y2:=zA (i:=2) c.hr rfl;have y3:=zA (i:=3) c.hr rfl;have y4:=zA (i:=4) c.hr rfl;have y5:=zA (i:=5) c.hr rfl;have yf:∀i,N WF (p1+1+1) i:=fun i=>zE c.hr
  have yl:=lt_of_block c.hr;have a0:=Ja (Jb c e0);clear c ho2 e0;go_wp2;refine bodyPost_ret (v:=.agg (R p b7 q aa2 ac2 y u ba2 bc2)) ?_ rfl (a0.out.1.ret a0.out.2 ?_)
  ·rw[zM rfl];go_simp
  ·have a4:=HP.out.2.2;have a6:=HP.out.2.1;have a8:=HF.out;have a5:=b0.out;unfold wR;rw[a6,a8,show l6 q0=18 from a4,uw (.inl rfl) HN.out];exact a5
theorem lO{V:PV}{p:IProg}(hp:ProgIn w w.heap.size V p)(hs:SmallP p)(hq:I64 q0/\I64 q1/\I64 q2):
 G 13 #[yH V p,.agg #[I q0,I q1,I q2]] w (pd w (wR p q0 q1 q2)):=by
 have h:=turnW_lt q0
 by_cases h1:l6 q0<=12∨l6 q0=19
 ·exact turned_d hp hs hq h1
 by_cases h2:l6 q0=13∨l6 q0=14∨l6 q0=15
 ·exact turned_a hp hs hq h2
 by_cases c:l6 q0=16∨l6 q0=17
 ·exact turned_b hp hs hq c
 ·exact iE hp hs hq Zo
def i8 (w:World)(B b q:Nat)(x:Int):Prop:=A w b q (I x)
abbrev pg:=yN 1 i8
def RowCR (w:World)(B b q:Nat)(x:List Int):Prop:=∃v,A w b q v/\pg w B v x
abbrev RowsC:=yN 1 RowCR
theorem mf{B:Nat}{v:Value}(h:w.ownsRow B 3 1 v xs.length (xs.map zN)):pg w w.heap.size v xs:=by
 have h2:w.ownsRow B 3 1 v xs.length (xs.flatMap fun x=> [zN x]):=by rw[<-Qh];exact h
 have:=wC (sz:=1) (f:=fun x:Int=> [zN x]) (R:=i8) (g:=fun x:Int=>x) Zd (fun _=>rfl) h2 (fun q hq b o hc=>hc 0 _ rfl);rw[List.map_id'] at this;exact this
theorem iW{B:Nat}{v:Value}{rows:List (List Int)}(h:pV w B v rows):RowsC w w.heap.size v rows:=by
 obtain⟨l,rfl,hr⟩:=h;have h1:w.ownsRow B 22 1 v l.length (l.flatMap fun q=> [q.2]):=by rw[<-Qh];exact hr.own _ (.head _)
 exact wC (sz:=1) (f:=fun q:GR=> [q.2]) (R:=RowCR) (g:=fun q:GR=>q.1) Zd (fun _=>rfl) h1 (fun q hq b o hc=>⟨q.2,hc 0 _ rfl,mf (hr.own (zP q.2 q.1) (.tail _ (show zP q.2 q.1∈sp l from Oj (f:=fun q:GR=>zP q.2 q.1) hq)))⟩)
def TuRet2 (w:World)(p:IProg)(e:Ending)(w':World):Prop:=∃(fa:Option Addr) (fc:Nat) (aa:Option Addr) (ac:Nat) (da:Option Addr) (dc:Nat) (ba:Option Addr) (bc:Nat),e=.returned (.agg (R p fa fc aa ac da dc ba bc))/\
 (∀U,StaysL w.heap.size w' U->ProgIn U U.heap.size ⟨.slice fa p.funcs.length fc,.slice aa p.args.length ac,.slice da p.data.length dc,.slice ba p.banks.length bc⟩ p)/\O w w'
theorem kU{V:PV}{p:IProg}(hp:ProgIn w w.heap.size V p)(hs:SmallP p)(hq:I64 q0/\I64 q1/\I64 q2):
 G 13 #[yH V p,.agg #[I q0,I q1,I q2]] w (TuRet2 w (wR p q0 q1 q2)):=by
 have h64:=turn_64 hp.p64 q0 q1 q2;refine(lO hp hs hq).mono ?_;generalize wR p q0 q1 q2=p' at *;rintro e w' ⟨t,rfl,ht,hr,hb⟩;subst ht;obtain⟨fa,fc,h1,_,_⟩:=(PT.in hr h64).funcs.form;obtain⟨aa,ac,h2,_,_⟩:=(PT.in hr h64).args.form;obtain⟨da,dc,h3,_,_⟩:=(PT.in hr h64).data.form;obtain⟨ba,bc,c,_,_⟩:=(PT.in hr h64).banks.form;refine⟨fa,fc,aa,ac,da,dc,ba,bc,?_,fun U hU=>?_,hb⟩
 ·unfold yH;rw[h1,h2,h3,c]
 ·have:=PT.in (hr.keep (w':=U) fun k hk=>hU.kept k (hr.lt hk).1 (hr.lt hk).2) h64;rw[<-h1,<-h2,<-h3,<-c];exact this
theorem StaysL.alloc{L:Nat}{W:World}(h:StaysL L w W)(o:Obj):StaysL L w (W.alloc o):=
 ⟨by simp;exact Nat.le_succ_of_le h.size,h.rest,fun k h1 h2=>(Below.heap_alloc _ _ k (Jy h2 h.size)).trans (h.kept k h1 h2)⟩
abbrev aZ (p:IProg)(fa:Option Addr)(fc:Nat)(aa:Option Addr)(ac:Nat)(da:Option Addr)(dc:Nat)(ba:Option Addr)(bc:Nat):Array Value:=R p fa fc aa ac da dc ba bc
structure PBx (W:World) (b:Nat) (p:IProg) (fa:Option Addr) (fc:Nat) (aa:Option Addr) (ac:Nat) (da:Option Addr) (dc:Nat) (ba:Option Addr) (bc:Nat):Prop where
 blk:W.heap[b]? =some (.cells (aZ p fa fc aa ac da dc ba bc) 29 (0,0))
 prog:ProgIn W W.heap.size ⟨.slice fa p.funcs.length fc,.slice aa p.args.length ac,.slice da p.data.length dc,.slice ba p.banks.length bc⟩ p
section
variable {W W':World} {b:Nat} {p:IProg} {fa aa da ba:Option Addr} {fc ac dc bc:Nat}
theorem PBx.below (h:PBx W b p fa fc aa ac da dc ba bc)(hb:O W W'):PBx W' b p fa fc aa ac da dc ba bc:=
 ⟨zH hb h.blk (lt_of_block h.blk),(h.prog.below hb).mono hb.size⟩
theorem PBx.new (h:ProgIn W W.heap.size ⟨.slice fa p.funcs.length fc,.slice aa p.args.length ac,.slice da p.data.length dc,.slice ba p.banks.length bc⟩ p):PBx (W.alloc (T (aZ p fa fc aa ac da dc ba bc) 29)) W.heap.size p fa fc aa ac da dc ba bc:=
 ⟨zI rfl,(h.below ((Below.refl _ _).alloc (Je _) _)).mono Zs⟩
theorem PBx.new2 {L:Nat}(h:∀U,StaysL L W U->ProgIn U U.heap.size ⟨.slice fa p.funcs.length fc,.slice aa p.args.length ac,.slice da p.data.length dc,.slice ba p.banks.length bc⟩ p):PBx (W.alloc (T (aZ p fa fc aa ac da dc ba bc) 29)) W.heap.size p fa fc aa ac da dc ba bc:=
 ⟨zI rfl,h _ ((StaysL.refl _ _).alloc _)⟩
theorem PBx.lt (h:PBx W b p fa fc aa ac da dc ba bc):b<W.heap.size:=lt_of_block h.blk
theorem PBx.c0 (h:PBx W b p fa fc aa ac da dc ba bc):A W b 0 (.slice fa p.funcs.length fc):=zA h.blk Zs
theorem PBx.c1 (h:PBx W b p fa fc aa ac da dc ba bc):A W b 1 (.slice aa p.args.length ac):=zA h.blk Zs
theorem PBx.c2 (h:PBx W b p fa fc aa ac da dc ba bc):A W b 2 (I p.entry):=zA h.blk Zs
theorem PBx.c3 (h:PBx W b p fa fc aa ac da dc ba bc):A W b 3 (I p.handler):=zA h.blk Zs
theorem PBx.c4 (h:PBx W b p fa fc aa ac da dc ba bc):A W b 4 (.slice da p.data.length dc):=zA h.blk Zs
theorem PBx.c5 (h:PBx W b p fa fc aa ac da dc ba bc):A W b 5 (.slice ba p.banks.length bc):=zA h.blk Zs
end
structure QBx (W:World) (b:Nat) (q0 q1 q2:Int):Prop where
 blk:W.heap[b]? =some (.cells #[.int .i64 q0,.int .i64 q1,.int .i64 q2] 23 (0,0))
section
variable {W W':World} {b:Nat} {q0 q1 q2:Int}
theorem QBx.below (h:QBx W b q0 q1 q2)(hb:O W W'):QBx W' b q0 q1 q2:=⟨zH hb h.blk (lt_of_block h.blk)⟩
theorem QBx.c0 (h:QBx W b q0 q1 q2):A W b 0 (I q0):=zA h.blk Zs
theorem QBx.c1 (h:QBx W b q0 q1 q2):A W b 1 (I q1):=zA h.blk Zs
theorem QBx.c2 (h:QBx W b q0 q1 q2):A W b 2 (I q2):=zA h.blk Zs
end
theorem hdr_q{V:PV}{p:IProg}(hp:ProgIn w w.heap.size V p):G 33 #[yH V p] w (m9 w (sR p)):=by
 obtain⟨Vf,Va,Vd,Vb⟩:=V;obtain⟨f1,f2,e1,_,_⟩:=hp.funcs.form;obtain⟨a1,a2,e2,_,_⟩:=hp.args.form;obtain⟨d1,d2,e3,_,_⟩:=hp.data.form;obtain⟨b1,b2,e4,_,_⟩:=hp.banks.form;simp only at e1 e2 e3 e4;subst e1 e2 e3 e4;unfold yH;simp only;have j2:p.funcs.length<=9223372036854775807:=Zo;have k1:p.args.length<=9223372036854775807:=Zo;have j3:p.data.length<=9223372036854775807:=Zo;have k0:p.banks.length<=9223372036854775807:=Zo;obtain⟨res,b7⟩:∃r,sR p=r:=⟨_,rfl⟩
 rw[b7];have c:=Ja b7;have f6:=Ja (show ∀W,O w W->∀o:IObj,(I64 o.bank/\o.addr<65536/\o.size<65536)->G 60 #[.agg (R p f1 f2 a1 a2 d1 d2 b1 b2),.agg #[I o.bank,U (o.addr:Int),U (o.size:Int)]] W (ym W (!sW p.banks.length o)) from fun W hb o ho=>bad_q ((hp.below hb).mono hb.size) o ho);have HP:=Ja hp;have e5:=(Below.refl w.heap.size w).alloc (Je _) (T (R p f1 f2 a1 a2 d1 d2 b1 b2) 29);have c7:=zI (W:=w) (o:=T (R p f1 f2 a1 a2 d1 d2 b1 b2) 29) rfl;clear hp b7;go_enter Tryz.func33,Tryz.ntmps33;go_upto_region 1 with fail;generalize w.alloc (T (R p f1 f2 a1 a2 d1 d2 b1 b2) 29)=W0 at *
 have HC:=Ja (show ∀W,O W0 W->(A W w.heap.size 0 (.slice f1 p.funcs.length f2)/\A W w.heap.size 1 (.slice a1 p.args.length a2)/\A W w.heap.size 2 (I p.entry)/\A W w.heap.size 3 (I p.handler)/\A W w.heap.size 4 (.slice d1 p.data.length d2)/\A W w.heap.size 5 (.slice b1 p.banks.length b2))/\w.heap.size<W.heap.size from fun W hb=>by
  have h:=zH hb c7 (lt_of_block c7)
  exact⟨⟨zA h Zs,zA h Zs,zA h Zs,zA h Zs,zA h Zs,zA h Zs⟩,lt_of_block h⟩)
 obtain⟨⟨y0,y1,y2,y3,y4,y5⟩,yl⟩:=HC.out W0 (Below.refl _ _);have q:=Ja e5;clear e5 c7
 by_cases c1:2000<p.funcs.length
 ·skip
  have hr:=c.out.symm.trans (dh (.inl c1));subst hr;have i1:(2000:Int)<(p.funcs.length:Int):=Zo;go_wp2;go_ret;exact⟨rfl,q.out⟩
 have i1:¬(2000:Int)<(p.funcs.length:Int):=Zo
 by_cases c2:512<p.data.length
 ·skip
  have hr:=c.out.symm.trans (dh (.inr (.inl c2)));subst hr;have i2:(512:Int)<(p.data.length:Int):=Zo;go_wp2;go_ret;exact⟨rfl,q.out⟩
 have i2:¬(512:Int)<(p.data.length:Int):=Zo
 by_cases c3:64<p.banks.length
 ·skip
  have hr:=c.out.symm.trans (dh (.inr (.inr c3)));subst hr;have i3:(64:Int)<(p.banks.length:Int):=Zo;go_wp2;go_ret;exact⟨rfl,q.out⟩
 have i3:¬(64:Int)<(p.banks.length:Int):=Zo;have H1:=Ja (show ¬(2000<p.funcs.length∨512<p.data.length∨64<p.banks.length) by omega);go_upto_region 3 with fail
 by_cases g1:p.args.length=p.funcs.length
 rotate_left
 ·skip
  have hr:=c.out.symm.trans (dH H1.out (by unfold aL;simp;omega));subst hr;have j1:((p.args.length:Int)==(p.funcs.length:Int))=false:=Ze;have b8:((p.args.length:Int) !=(p.funcs.length:Int))=true:=by rw[bne_iff_ne];omega
  go_wp2;go_ret;exact⟨rfl,q.out⟩
 have j1:((p.args.length:Int)==(p.funcs.length:Int))=true:=by rw[beq_iff_eq];omega
 have b8:((p.args.length:Int) !=(p.funcs.length:Int))=false:=by rw[bne_eq_false_iff_eq];omega
 have a7:=Ja g1;clear g1
 by_cases g2:p.entry<0
 ·skip
  have hr:=c.out.symm.trans (dH H1.out (by have:=a7.out;unfold aL;simp;omega));subst hr;go_wp2;go_ret;exact⟨rfl,q.out⟩
 by_cases g3:(p.funcs.length:Int)<=p.entry
 ·skip
  have hr:=c.out.symm.trans (dH H1.out (by have:=a7.out;unfold aL;simp;omega));subst hr;go_wp2;go_ret;exact⟨rfl,q.out⟩
 by_cases g4:p.handler< -1
 ·skip
  have hr:=c.out.symm.trans (dH H1.out (by have:=a7.out;unfold aL;simp;omega));subst hr;go_wp2;go_ret;exact⟨rfl,q.out⟩
 by_cases g5:(p.funcs.length:Int)<=p.handler
 ·skip
  have hr:=c.out.symm.trans (dH H1.out (by have:=a7.out;unfold aL;simp;omega));subst hr;go_wp2;go_ret;exact⟨rfl,q.out⟩
 have H2:=Ja (show aL p=false by have:=a7.out;unfold aL;simp;omega);go_wp2;clear y0 y1 y2 y3 y4 y5 yl c1 c2 c3 i1 i2 i3 j1 b8 g2 g3 g4 g5 a7
 go_loopw [3] (fun kv wx=>∃k:Nat,k<=p.args.length/\kv=I k/\Hid (O W0 wx/\∀j x,j<k->p.args[j]? =some x->er p j x=false)) (fun kv _=>p.args.length-(intOf kv).toNat)
 case atStart=>exact⟨0,Jt _,rfl,Ja ⟨Below.refl _ _,fun j x hj=>absurd hj (Nat.not_lt_zero _)⟩⟩
 case round=>
  obtain⟨k,hk,rfl,l⟩:=hrel;obtain⟨⟨y0,y1,y2,y3,y4,y5⟩,yl⟩:=HC.out _ l.out.1;have m:=Ja (q.out.trans (l.out.1.mono q.out.size))
  by_cases d:k<p.args.length
  ·skip
   have a8:(k:Int)<p.args.length:=Zo;have u:=Ja d;obtain⟨x,hx⟩:∃x,p.args[k]? =some x:=⟨_,Jd d⟩
   have HX:=Ja hx;obtain⟨bb,bo,rfl,g,hc,_⟩:=HP.out.args.get hx;rw[Nk] at hc;have hc:=zV m.out g hc;have b0:bb<wr.heap.size:=Jw _ _ hc;clear hx d g y0 y4 y5
   by_cases x1:x<0
   ·skip
    have hr:=c.out.symm.trans (dI H1.out H2.out HX.out (by unfold er;simp;omega));subst hr;go_wp2;go_ret;exact⟨rfl,m.out⟩
   by_cases x2:8<x
   ·skip
    have hr:=c.out.symm.trans (dI H1.out H2.out HX.out (by unfold er;simp;omega));subst hr;go_wp2;go_ret;exact⟨rfl,m.out⟩
   by_cases x3:0<x
   rotate_left
   ·skip
    have HA:=Ja (show er p k x=false by unfold er;simp;omega);go_wp2;go_roundw
    case rel=>exact⟨k+1,u.out,by go_num,Ja ⟨l.out.1,fun j y hj hy=>by
     by_cases e:j=k
     ·subst e;rw[HX.out] at hy;cases hy;exact HA.out
     ·exact l.out.2 j y Zo hy⟩⟩
    case measure=>have:=u.out;simp[intOf];omega
   by_cases x4:(k:Int)=p.entry
   ·skip
    have hr:=c.out.symm.trans (dI H1.out H2.out HX.out (by unfold er;simp;omega));subst hr;have j4:((k:Int)==p.entry)=true:=by rw[beq_iff_eq];omega
    have d5:((k:Int) !=p.entry)=false:=by rw[bne_eq_false_iff_eq];omega
    clear x4;go_wp2;go_ret;exact⟨rfl,m.out⟩
   by_cases x5:(k:Int)=p.handler
   ·skip
    have hr:=c.out.symm.trans (dI H1.out H2.out HX.out (by unfold er;simp;omega));subst hr;have j4:((k:Int)==p.entry)=false:=Ze;have d5:((k:Int) !=p.entry)=true:=by rw[bne_iff_ne];omega
    have j5:((k:Int)==p.handler)=true:=by rw[beq_iff_eq];omega
    have f7:((k:Int) !=p.handler)=false:=by rw[bne_eq_false_iff_eq];omega
    clear x5;go_wp2;go_ret;exact⟨rfl,m.out⟩
   have HA:=Ja (show er p k x=false by unfold er;simp;omega);have j4:((k:Int)==p.entry)=false:=Ze;have d5:((k:Int) !=p.entry)=true:=by rw[bne_iff_ne];omega
   have j5:((k:Int)==p.handler)=false:=Ze;have f7:((k:Int) !=p.handler)=true:=by rw[bne_iff_ne];omega
   go_wp2;go_roundw
   case rel=>exact⟨k+1,u.out,by go_num,Ja ⟨l.out.1,fun j y hj hy=>by
    by_cases e:j=k
    ·subst e;rw[HX.out] at hy;cases hy;exact HA.out
    ·exact l.out.2 j y Zo hy⟩⟩
   case measure=>have:=u.out;simp[intOf];omega
  ·skip
   obtain rfl:k=p.args.length:=by omega
   have a8:¬(p.args.length:Int)<p.args.length:=Zo;have H3:=Ja (cU H1.out H2.out (fun k x hx=>l.out.2 k x (Jh.1 hx).1 hx));have HD:=Ja l.out.1;clear d;go_wp2;clear y0 y1 y2 y3 y4 y5 yl
   go_loopw [4] (fun kv wx=>∃k:Nat,k<=p.banks.length/\kv=I k/\Hid (O W0 wx/\(p.banks.take k).all (fun s=>decide (s.size=4096))=true)) (fun kv _=>p.banks.length-(intOf kv).toNat)
   case atStart=>exact⟨0,Jt _,rfl,Ja ⟨HD.out,by simp⟩⟩
   case round=>
    obtain⟨k,hk,rfl,l⟩:=hrel;obtain⟨⟨y0,y1,y2,y3,y4,y5⟩,yl⟩:=HC.out _ l.out.1;have m:=Ja (q.out.trans (l.out.1.mono q.out.size))
    by_cases d:k<p.banks.length
    ·skip
     have a8:(k:Int)<p.banks.length:=Zo;have u:=Ja d;obtain⟨s,hs⟩:∃s,p.banks[k]? =some s:=⟨_,Jd d⟩
     have HS:=Ja hs;obtain⟨bb,bo,rfl,g,hc,j0⟩:=HP.out.banks.get hs;rw[Nk] at hc;have hc:=zV m.out g hc;have b0:bb<wr.heap.size:=Jw _ _ hc;clear hs d g y0 y1 y2 y3 y4
     by_cases x1:s.size=4096
     ·have j1:((s.size:Int)==4096)=true:=by rw[beq_iff_eq];omega
      have b8:((s.size:Int) !=4096)=false:=by rw[bne_eq_false_iff_eq];omega
      have h4:=Ja x1;clear x1;go_wp2;go_roundw
      case rel=>exact⟨k+1,u.out,by go_num,Ja ⟨l.out.1,by rw[aaL HS.out,l.out.2,Bool.true_and];exact decide_eq_true h4.out⟩⟩
      case measure=>have:=u.out;simp[intOf];omega
     ·have j1:((s.size:Int)==4096)=false:=Ze;have b8:((s.size:Int) !=4096)=true:=by rw[bne_iff_ne];omega
      have hr:=c.out.symm.trans (H3.out.trans (if_pos (by unfold wB mh;rw[aaN _ HS.out (decide_eq_false x1)];rfl)));subst hr;go_wp2;go_ret;exact⟨rfl,m.out⟩
    ·skip
     obtain rfl:k=p.banks.length:=by omega
     have i0:¬(p.banks.length:Int)<p.banks.length:=Zo;have H4:=Ja (show mh p.banks=true by unfold mh;have:=l.out.2;rwa [Nl] at this);have h7:=Ja l.out.1;clear d;go_wp2;clear y0 y1 y2 y3 y4 y5 yl
     go_loopw [5] (fun kv wx=>∃k:Nat,k<=p.data.length/\kv=I k/\Hid (O W0 wx/\∀j,j<k->lm p.banks.length p.data j=true)) (fun kv _=>p.data.length-(intOf kv).toNat)
     case atStart=>exact⟨0,Jt _,rfl,Ja ⟨h7.out,fun j hj=>absurd hj (Nat.not_lt_zero _)⟩⟩
     case round=>
      obtain⟨k,hk,rfl,l⟩:=hrel;obtain⟨⟨y0,y1,y2,y3,y4,y5⟩,yl⟩:=HC.out _ l.out.1;have m:=Ja (q.out.trans (l.out.1.mono q.out.size))
      by_cases d:k<p.data.length
      ·skip
       have a8:(k:Int)<p.data.length:=Zo;have u:=Ja d;obtain⟨o,ho⟩:∃o,p.data[k]? =some o:=⟨_,Jd d⟩
       have HO:=Ja ho;obtain⟨bb,bo,rfl,g,c0,c1,c2,f4,g6,f9⟩:=HP.out.data.get ho;have c0:=zV m.out g c0;have c1:=zV m.out g c1;have c2:=zV m.out g c2;have b0:bb<wr.heap.size:=Jw _ _ c0;have c8:wB p=false->res=37:=fun h=>c.out.symm.trans (H3.out.trans (if_pos h))
       have k2:=Ja c8;have d6:lm p.banks.length p.data k=(sW p.banks.length o && lF o (p.data.take k)):=by unfold lm;rw[ho]
       have d0:=Ja d6;have f3:=Ja (show lm p.banks.length p.data k=false->res=37 from fun h=>c8 (by unfold wB;rw[mO d h,Uh]));clear ho d g c8 d6 y1 y2 y3 y5;go_upto_region 19 with fail;have t:=zI (W:=wr) (o:=T #[I o.bank,U (o.addr:Int),U (o.size:Int)] 89) rfl;have a0:=(Below.refl wr.heap.size wr).alloc (Je _) (T #[I o.bank,U (o.addr:Int),U (o.size:Int)] 89);have a5:=Ja (l.out.1.trans (a0.mono l.out.1.size));generalize wr.alloc (T #[I o.bank,U (o.addr:Int),U (o.size:Int)] 89)=W2 at *;generalize g8:wr.heap.size=bx at *;obtain⟨⟨z0,z1,z2,z3,z4,z5⟩,zl⟩:=HC.out _ a5.out;have e0:=K0 t;have e1:=K1 t;have e2:=K2 t;have a4:=lt_of_block t;have e6:=Ja t;have a9:=f6.out W2 (q.out.trans (a5.out.mono q.out.size)) o ⟨f4,g6,f9⟩;obtain⟨ib,c9⟩:∃b,sW p.banks.length o=b:=⟨_,rfl⟩
       rw[c9] at a9;have e9:=Ja c9;have f0:=Ja a9;clear a9 c9 a0 t y0 y4 yl c0 c1 c2 b0 g8
       cases ib with
       |false=>
        have hr:=f3.out (by rw[d0.out,e9.out];rfl);subst hr;go_wp2_with (go_at_call 60;go_must (refine f0.out.mono ?_;rintro e w3 ⟨he,b4⟩;obtain rfl:e=.returned (.bool true):=he))
        go_ret
        exact⟨rfl,q.out.trans ((a5.out.trans (b4.mono a5.out.size)).mono q.out.size)⟩
       |true=>
        go_upto_region 22 with(go_at_call 60;go_must (refine f0.out.mono ?_;rintro e w3 ⟨he,b4⟩;obtain rfl:e=.returned (.bool false):=he))
        have e8:=Ja (a5.out.trans (b4.mono a5.out.size));have c5:=zH b4 e6.out (lt_of_block e6.out);have e7:=Ja (Jb c5 (lt_of_block c5));clear b4 c5 e0 e1 e2 z0 z1 z2 z3 z4 z5 zl a4;go_wp2
        go_loopw [8] (fun jv wx=>∃j:Nat,j<=k/\jv=I j/\Hid (O w3 wx/\lF o (p.data.take j)=true)) (fun jv _=>k-(intOf jv).toNat)
        case atStart=>exact⟨0,Jt _,rfl,Ja ⟨Below.refl _ _,by simp[lF]⟩⟩
        case round=>
         obtain⟨j,hj,rfl,HJ⟩:=hrel;have c4:=e8.out.trans (HJ.out.1.mono e8.out.size);obtain⟨⟨z0,z1,z2,z3,z4,z5⟩,zl⟩:=HC.out _ c4;have b6:=Ja (q.out.trans (c4.mono q.out.size));have b3:=zH HJ.out.1 e7.out.1 e7.out.2;have e0:=K0 b3;have e1:=K1 b3;have e2:=K2 b3;have a4:=lt_of_block b3;have h9:=Ja c4;clear c4 b3
         by_cases b9:j<k
         ·skip
          have f5:(j:Int)<(k:Int):=Zo;have a6:=Ja b9;have d7:j<p.data.length:=by have:=u.out;omega
          have i5:(j:Int)<(p.data.length:Int):=Zo;obtain⟨x,hx⟩:∃x,p.data[j]? =some x:=⟨_,Jd d7⟩
          have HX:=Ja (show(p.data.take k)[j]? =some x by rw[Ug,if_pos b9];exact hx);have h0:=Ja hx;obtain⟨b',o',eb,g,c0,c1,c2,i4,i9,i7⟩:=HP.out.data.get hx;cases eb;have c0:=zV b6.out g c0;have c1:=zV b6.out g c1;have c2:=zV b6.out g c2;have b0:bb<wr.heap.size:=Jw _ _ c0;have h6:=Ja (show uK o x=true->res=37 from fun h=>f3.out (by rw[d0.out,show lF o (p.data.take k)=false from by unfold lF;exact aaN _ HX.out (by rw[h];rfl),Uh]))
          have d3:=Ja (show uK o x=false->lF o (p.data.take (j+1))=true from fun h=>by
           have h2:=HJ.out.2;unfold lF at h2 ⊢;rw[aaL h0.out,h2,h]
           rfl)
          clear hx b9 d7 g z0 z1 z2 z3 z5;go_upto_region 26 with fail;have t:=zI (W:=wr) (o:=T #[I x.bank,U (x.addr:Int),U (x.size:Int)] 89) rfl;have a0:=(Below.refl wr.heap.size wr).alloc (Je _) (T #[I x.bank,U (x.addr:Int),U (x.size:Int)] 89);have d4:=Ja (HJ.out.1.trans (a0.mono HJ.out.1.size));have h8:=Ja (b6.out.trans (a0.mono b6.out.size));have e0:=zV a0 a4 e0;have e1:=zV a0 a4 e1;have e2:=zV a0 a4 e2;generalize wr.alloc (T #[I x.bank,U (x.addr:Int),U (x.size:Int)] 89)=W4 at *;generalize wr.heap.size=by_ at *;have g0:=K0 t;have g1:=K1 t;have g2:=K2 t;have i6:=lt_of_block t;have a4:bx<W4.heap.size:=Jw _ _ e0;clear t a0 c0 c1 c2 b0 z4 zl
          by_cases u1:o.bank=x.bank
          ·have i1:(o.bank==x.bank)=true:=by rw[beq_iff_eq];exact u1
           have f8:(o.bank !=x.bank)=false:=by rw[bne_eq_false_iff_eq];exact u1
           by_cases u2:o.addr+o.size<=x.addr
           ·have a3:=d3.out (by unfold uK;simp;omega);have b5:=Ja a3;have i2:(o.addr:Int)+(o.size:Int)<=(x.addr:Int):=Zo;clear a3 u1;go_wp2;go_roundw
            case rel=>exact⟨j+1,a6.out,by go_num,Ja ⟨d4.out,b5.out⟩⟩
            case measure=>have:=a6.out;simp[intOf];omega
           ·have i2:¬(o.addr:Int)+(o.size:Int)<=(x.addr:Int):=Zo
            by_cases u3:x.addr+x.size<=o.addr
            ·have a3:=d3.out (by unfold uK;simp;omega);have b5:=Ja a3;have i3:(x.addr:Int)+(x.size:Int)<=(o.addr:Int):=Zo;clear a3 u1;go_wp2;go_roundw
             case rel=>exact⟨j+1,a6.out,by go_num,Ja ⟨d4.out,b5.out⟩⟩
             case measure=>have:=a6.out;simp[intOf];omega
            ·have i3:¬(x.addr:Int)+(x.size:Int)<=(o.addr:Int):=Zo;have hr:=h6.out (by unfold uK;simp;omega);subst hr;clear u1;go_wp2;go_ret;exact⟨rfl,h8.out⟩
          ·have i1:(o.bank==x.bank)=false:=by rw[beq_eq_false_iff_ne];exact u1
           have f8:(o.bank !=x.bank)=true:=by rw[bne_iff_ne];exact u1
           have a3:=d3.out (by unfold uK;simp[u1]);have b5:=Ja a3;clear a3;go_wp2;go_roundw
           case rel=>exact⟨j+1,a6.out,by go_num,Ja ⟨d4.out,b5.out⟩⟩
           case measure=>have:=a6.out;simp[intOf];omega
         ·skip
          obtain rfl:j=k:=by omega
          have f5:¬(j:Int)<(j:Int):=Zo;have h5:=Ja (show lm p.banks.length p.data j=true by rw[d0.out,e9.out,HJ.out.2];rfl);clear b9;go_wp2;go_roundw
          case rel=>exact⟨j+1,u.out,by go_num,Ja ⟨h9.out,fun i hi=>by
           by_cases e:i=j
           ·subst e;exact h5.out
           ·exact l.out.2 i Zo⟩⟩
          case measure=>have:=u.out;simp[intOf];omega
      ·skip
       obtain rfl:k=p.data.length:=by omega
       have a8:¬(p.data.length:Int)<p.data.length:=Zo;have hr:=c.out.symm.trans (H3.out.trans (if_neg (by unfold wB;rw[H4.out,Bool.true_and,Bool.not_eq_false];unfold ig;exact Oe.2 fun j hj=>l.out.2 j (Ol.1 hj))));subst hr;clear d;go_wp2;go_ret;exact⟨rfl,m.out⟩
theorem ends_q(t:ITerm)(ht:I64 t.kind/\I64 t.a){tv:Value}{B:Nat}(hB:B<=w.heap.size)(a3:wH w B tv t.to)(b1:t.to.length<=2000000/\∀e∈t.to,e.args.length<=2000000):
 G 67 #[.agg #[I t.kind,I t.a,tv]] w (wG w (mE t)):=by
 obtain⟨ta,tc,rfl,d5,d4⟩:=a3.form;obtain⟨ii,c2,a8,a7,a6⟩:=info_parts Tryz.info_int;have e5:t.to.length<=9223372036854775807:=Zo;obtain⟨hd,hh⟩:∃q,ut t=q:=⟨_,rfl⟩
 obtain⟨LH,i⟩:∃LH,(if hd then [t.a] else([]:List Int))=LH:=⟨_,rfl⟩
 have hu:mE t=LH++(t.to.map (·.args)).flatten:=by rw[<-i,<-hh];rfl
 rw[hu]
 have e4:=Ja (show ∀x∈LH++(t.to.map (·.args)).flatten,I64 x by
  intro x hx;rcases Jl.1 hx with hx|hx
  ·rw[<-i] at hx;cases hd<;>simp at hx
   rw[hx];exact ht.2
  ·obtain⟨l,hl,d3⟩:=List.mem_flatten.1 hx;obtain⟨e,he,rfl⟩:=Nu.1 hl;obtain⟨k,hk⟩:=Ny he;obtain⟨b,o,_,_,_,_,av,_,a0⟩:=a3.get hk
   exact zY.all a0 x d3)
 have HL:=Ja (show LH.length<=1 by rw[<-i];cases hd<;>simp);unfold ut at hh;obtain⟨tk,c0⟩:∃x,t.kind=x:=⟨_,rfl⟩
 obtain⟨tA,a9⟩:∃x,t.a=x:=⟨_,rfl⟩
 rw[c0,a9] at hh ht ⊢;rw[a9] at i;obtain⟨b2,g2⟩:∃q,decide (tk=2)=q:=⟨_,rfl⟩
 obtain⟨b3,g3⟩:∃q,decide (tk=3)=q:=⟨_,rfl⟩
 obtain⟨b4,g4⟩:∃q,decide (tk=4)=q:=⟨_,rfl⟩
 obtain⟨b5,g5⟩:∃q,decide (tA≠-1)=q:=⟨_,rfl⟩
 rw[g2,g3,g4,g5] at hh;have t2:(tk==2)=b2:=z6 g2;have t3:(tk==3)=b3:=z6 g3;have t4:(tk==4)=b4:=z6 g4;have t5:(tA !=-1)=b5:=by rw[<-g5,bne];by_cases h:tA=-1<;>simp[h]
 have j:=Ja (show wH w B (.slice ta t.to.length tc) t.to/\B<=w.heap.size/\t.to.length<=2000000/\∀e∈t.to,e.args.length<=2000000 from⟨a3,hB,b1⟩);have HA:=Ja i;have HH:=Ja hh;have u:=zI (W:=w) (o:=T #[I tk,I tA,.slice ta t.to.length tc] 82) rfl;have c8:O w (w.alloc (T #[I tk,I tA,.slice ta t.to.length tc] 82)):=(Below.refl _ _).alloc (Je _) _;clear a3 hB b1 ht d5 d4 g2 g3 g4 g5 c0 a9 i hh hu;go_enter Tryz.func67,Tryz.ntmps67;go_upto_region 2 with fail;generalize e2:w.alloc (T #[I tk,I tA,.slice ta t.to.length tc] 82)=W0 at *;have y0:=K0 u;have y1:=K1 u;have y2:=K2 u;have m:=Ja (show O w W0/\Q W0 w.heap.size #[I tk,I tA,.slice ta t.to.length tc] 82 from⟨c8,u⟩);clear e2 u c8
 go_cut [22] (fun s wx=>s=.bool hd/\wx=W0)
 case first=>
  cases b2<;>cases b3<;>cases b4<;>cases b5
  all_goals (
   go_wp2;go_meet
   exact⟨by rw[<-HH.out];rfl,rfl⟩)
 case rest=>
  obtain⟨rfl,b9⟩:=hcut;rw[b9];clear b9 t2 t3 t4 t5
  go_upto_if 22 with fail
  go_cut [3] (fun v wx=>Hid (EndsMem w wx LH v/\Q wx w.heap.size #[I tk,I tA,.slice ta t.to.length tc] 82))
  case first=>
   have g:=Ja (show W0.ownsRow w.heap.size 3 1 (L) 0 [] from Jv W0 _ _ _);cases hd
   ·go_wp2;go_meet;exact Ja ⟨⟨m.out.1,by rw[<-HA.out];exact g.out⟩,m.out.2⟩
   ·go_wp2_with (at_builtin;go_must (refine zK _ rfl (.tmp 23) (.tmp 26) 22 rfl w.heap.size 3 ii (I 0) 1 8 Tryz.underlying22 c2 a8 a7 a6 rfl Zd (L) 0 [] rfl (g.out.alloc _) _ 1 [I tA] rfl (yM.one (zI Zs) (by simp[Value.oneCell'])) Zd Zd (by have:=m.out.1.size;simp;omega) ?_;intro v0 W1 d c c9))
    go_meet;exact Ja ⟨⟨yP (m.out.1.alloc m.out.1.size _) c (by have:=m.out.1.size;simp;omega) (wF g.out),by rw[<-HA.out];exact d⟩,zL c (zB m.out.2) (zC g.out m.out.2 (.inr Zd))⟩
  case rest=>
  clear y0 y1 y2 m
  rename World=>W1
  have z2:=K2 hcut.out.2;have HS:=Ja (show EndsMem w W1 (LH++xT t 0) u3/\_ from⟨(Ua LH).symm ▸ hcut.out.1,hcut.out.2⟩);clear hcut;go_wp2
  go_loopw [3,4] (fun lv kv wx=>∃k:Nat,k<=t.to.length/\kv=I k/\Hid (EndsMem w wx (LH++xT t k) lv/\Q wx w.heap.size #[I tk,I tA,.slice ta t.to.length tc] 82)) (fun _ kv _=>t.to.length-(intOf kv).toNat)
  case atStart=>exact⟨0,Jt _,rfl,HS⟩
  case round=>
   obtain⟨k,hk,rfl,HK⟩:=hrel;have z2:=K2 HK.out.2
   by_cases a5:k<t.to.length
   ·have d1:(k:Int)<t.to.length:=Zo;have d0:=Ja a5;obtain⟨e,he⟩:∃e,t.to[k]? =some e:=⟨_,Jd a5⟩
    obtain⟨eb,eo,rfl,c3,c5,d2,av,c4,a0⟩:=j.out.1.get he;obtain⟨aa,ac,rfl,d7,d6⟩:=a0.form;have b6:=HK.out.1.below.mono j.out.2.1;have e0:=zV b6 c3 c5;have e1:=zV b6 c3 c4;have HE:=Ja (show t.to[k]? =some e/\zY w B (.slice aa e.args.length ac) e.args from⟨he,a0⟩);clear he c5 c4 d2 a0 d7 d6 b6 a5;have a2:=HK.out.1.below;have a4:=HK.out.1.own;have b0:=zY.src (HE.out.2.below zO (a2.mono j.out.2.1))
    have y:(LH++xT t k).length+e.args.length<=6000000000000:=by
     have h1:=tP j.out.2.2.2 k hk;have h2:=j.out.2.2.1;have h3:=j.out.2.2.2 e (Ji HE.out.1);rw[Jk];have h4:=HL.out;omega
    have a1:=Ja (show _/\_ from⟨y,a2⟩);have b7:=Ja a4;have e3:=Ja b0;clear y a4 b0 a2 e0;go_wp2_with (at_builtin;go_must (refine zK _ rfl (.tmp 35) (.tmp 41) 22 rfl w.heap.size 3 ii (I 0) 1 8 Tryz.underlying22 c2 a8 a7 a6 rfl Zd _ (LH++xT t k).length ((LH++xT t k).map zN) rfl b7.out _ e.args.length (e.args.map zN) rfl e3.out (by have:=a1.out.1;unfold maxLen;omega) (by have:=a1.out.1;omega) a1.out.2.size ?_;intro v9 w9 d c c9))
    have b8:=zL c HK.out.2 (zC b7.out HK.out.2 (.inr Zd));have c7:=yP a1.out.2 c a1.out.2.size (wF b7.out);have HN:=Ja (Jb (Jb c7 b8) d);clear d c c9 c7 b8;go_roundw
    case rel=>
     refine⟨k+1,d0.out,by go_num,Ja ⟨⟨HN.out.1.1,?_⟩,HN.out.1.2⟩⟩;rw[jZ9 HE.out.1,<-Nv,Jk (bs:=e.args),Js (l₂:=e.args)];exact HN.out.2
    case measure=>have:=d0.out;simp[intOf];omega
   ·obtain rfl:k=t.to.length:=by omega
    have d1:¬(t.to.length:Int)<t.to.length:=Zo;clear a5;go_wp2;go_ret;have d:=HK.out.1.own;rw[si] at d;exact⟨_,rfl,uA d rfl e4.out,HK.out.1.below⟩
end Go.Proofs.YtoahcpkibpomcaaGreat
set_option maxRecDepth 100000
namespace Go.Proofs.YtoahcpkibpomcaaGreat
open Go.ChangeShapes Go.WideShapes Go.ChangeAt Go.RowKit
variable {bl blocks l:List IBlk}{t:ITerm}{C M g2 g3 k m m1 m2 what:Nat}{w w9 wx:World}{d d':wO}{g:List (List Nat)}{c xs:List Int}{ns:List Nat}{o:IOp}{i q0 q1 q2:Int}{Df:Int->Int->Int->Prop}{gv lv:Value}
section
variable {H:Type} {enc:TypeId×Value->H} {W:World} {v:Value} {d:DataW H} {p:List MemPlace} {r:Go.Reach} {base:Nat}
theorem int_open (hv:Value.okWide Tryz.prog W r base 3 v)(g:DataW.Trod enc Tryz.prog W 0 (fun _=>true) true 3 v d p):∃x:Int,v=.int .i64 x/\I64 x:=by
 obtain⟨n,rfl,_,_,c⟩:=open_int Tryz.underlying3 hv g;refine⟨n,rfl,?_⟩;unfold I64
 simpa[Lit.wf,IntKind.min,IntKind.max,IntKind.signed,IntKind.bits] using c
end
end Go.Proofs.YtoahcpkibpomcaaGreat
