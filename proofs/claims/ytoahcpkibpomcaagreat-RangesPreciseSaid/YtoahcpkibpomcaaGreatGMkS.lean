/- Part of a proof. -/
import Derived.Test.YtoahcpkibpomcaaGreatIOper
set_option linter.all false
set_option maxHeartbeats 4000000
set_option maxRecDepth 100000
namespace Go.Proofs.YtoahcpkibpomcaaGreat
open Go.RowKit
variable {w w':World}{l:List IBlk}{K:MK}{m:Mach}{C b12 b13 bt d i k m1 m2:Nat}{c g:Value}{o:Obj}{tl:List Value}
def tX (n:Int):Bool:=decide (0<=n) && decide (n<=8)
def sR (p:IProg):Int:=
 if 2000<p.funcs.length∨512<p.data.length∨64<p.banks.length then 2
 else if p.args.length≠p.funcs.length then 1
 else if p.args.all tX=false then 1
 else if yw p p.entry=false∨(p.handler≠-1/\yw p p.handler=false) then 1
 else if wB p=false then 37
 else 0
def m9 (w:World)(x:Int)(e:Ending)(w':World):Prop:=e=.returned (I x)/\O w w'
theorem kB{V:PV}{p:IProg}(hp:ProgIn w w.heap.size V p):A 68 #[yH V p] w (m9 w (sR p)):=by
 have i:∀(W:World),O w W->p.args.length=p.funcs.length->∀f,A 115 #[yH V p,I f] W fun e w'=>e=.returned (.bool (yw p f))/\O W w':=fun W hb hl f=>kR ((hp.below hb).mono hb.size) hl f
 have j:∀(W:World),O w W->A 116 #[yH V p] W fun e w'=>e=.returned (.bool (wB p))/\O W w':=fun W hb=>kN ((hp.below hb).mono hb.size)
 obtain⟨Vf,Va,Vd,Vb⟩:=V;obtain⟨f1,f2,e1,_,_⟩:=hp.funcs.form;have b8:=hp.args;obtain⟨a1,a2,e2,_,_⟩:=hp.args.form;obtain⟨d1,d2,e3,_,_⟩:=hp.data.form;obtain⟨b1,b2,e4,_,_⟩:=hp.banks.form;simp only at e1 e2 e3 e4 b8;subst e1 e2 e3 e4;unfold yH at i j ⊢;simp only at i j ⊢;have e8:p.args.length<=9223372036854775807:=Zo;have e6:=Ja b8;have c9:=Ja i;have d4:=Ja j;have a9:O w (w.alloc (G (R p f1 f2 a1 a2 d1 d2 b1 b2) 29)):=(Below.refl _ _).alloc (Je _) _;have l:=zI (W:=w) (o:=G (R p f1 f2 a1 a2 d1 d2 b1 b2) 29) rfl;obtain⟨q1,h1⟩:∃q,decide (2000<p.funcs.length)=q:=⟨_,rfl⟩
 obtain⟨q2,h2⟩:∃q,decide (512<p.data.length)=q:=⟨_,rfl⟩
 obtain⟨q3,h3⟩:∃q,decide (64<p.banks.length)=q:=⟨_,rfl⟩
 have f4:decide ((2000:Int)<(p.funcs.length:Int))=q1:=zZ h1 Zo;have f3:decide ((512:Int)<(p.data.length:Int))=q2:=zZ h2 Zo;have f0:decide ((64:Int)<(p.banks.length:Int))=q3:=zZ h3 Zo;have HQ:=Ja (Jb h1 (Jb h2 h3));clear hp b8 i j
 by_cases u:q1=true∨q2=true∨q3=true
 ·have hh:sR p=2:=by
   unfold sR;rw[if_pos];rcases u with e|e|e
   ·exact .inl (of_decide_eq_true (HQ.out.1.trans e))
   ·exact .inr (.inl (of_decide_eq_true (HQ.out.2.1.trans e)))
   ·exact .inr (.inr (of_decide_eq_true (HQ.out.2.2.trans e)))
  rw[hh];have HB:=Ja u;clear hh u l;cases q1<;>cases q2<;>cases q3
  all_goals first
   |(exfalso;have:=HB.out;simp at this;done)
   |(go_enter Tryz.func68,Tryz.ntmps68
     go_wp2;go_ret
     exact⟨rfl,a9⟩)
 ·obtain⟨e1,e2,e3⟩:q1=false/\q2=false/\q3=false:=by
   cases q1<;>cases q2<;>cases q3<;>simp at u ⊢
  subst e1 e2 e3
  have c5:sR p=if p.args.length≠p.funcs.length then 1 else if p.args.all tX=false then 1 else if yw p p.entry=false∨(p.handler≠-1/\yw p p.handler=false) then 1 else if wB p=false then 37 else 0:=by
   unfold sR;rw[if_neg];rintro(e|e|e)
   ·exact absurd e (of_decide_eq_false HQ.out.1)
   ·exact absurd e (of_decide_eq_false HQ.out.2.1)
   ·exact absurd e (of_decide_eq_false HQ.out.2.2)
  rw[c5];clear c5 u
  by_cases hl:p.args.length=p.funcs.length
  ·rw[if_neg (fun h=>h hl)];generalize b4:(if p.args.all tX=false then(1:Int) else if yw p p.entry=false∨(p.handler≠-1/\yw p p.handler=false) then 1 else if wB p=false then 37 else 0)=res;have c1:=Ja b4;clear b4;have t1:((p.args.length:Int) !=(p.funcs.length:Int))=false:=by rw[bne_eq_false_iff_eq];omega
   have HL:=Ja hl;clear hl;go_enter Tryz.func68,Tryz.ntmps68;go_upto_region 5 with fail;generalize e5:w.alloc (G (R p f1 f2 a1 a2 d1 d2 b1 b2) 29)=W0 at *;have g:=Ja a9;have a0:=Ja l;have y0:=K0 l;have y1:=K1 l;have y2:=K2 l;have y3:=K3 l;have y4:=K4 l;have y5:=K5 l;clear e5 a9 l;go_wp2
   go_loopw [31] (fun kv wx=>∃k:Nat,k<=p.args.length/\kv=I k/\wx=W0/\Hid ((p.args.take k).all tX=true)) (fun kv _=>p.args.length-(intOf kv).toNat)
   case atStart=>exact⟨0,Jt _,rfl,rfl,by rfl⟩
   case round=>
    obtain⟨k,hk,rfl,rfl,HK⟩:=hrel;generalize e0:wr=W0 at *;clear e0
    by_cases b9:k<p.args.length
    ·have d6:(k:Int)<p.args.length:=Zo;have d5:=Ja b9;obtain⟨n,hn⟩:∃n,p.args[k]? =some n:=⟨_,Jd b9⟩
     obtain⟨b,o,rfl,hb,hc,e7⟩:=e6.out.get hn;rw[Nk] at hc;have cn:=zV g.out hb hc;have HT:=Ja (Jb (xX tX hn) (fun h=>aaN tX hn h));obtain⟨q1,g1⟩:∃q,decide (0<=n)=q:=⟨_,rfl⟩
     obtain⟨q2,g2⟩:∃q,decide (n<=8)=q:=⟨_,rfl⟩
     have c8:decide (n<0)=!q1:=by rw[<-g1];by_cases h:0<=n<;>simp[h]<;>omega
     have c7:decide (8<n)=!q2:=by rw[<-g2];by_cases h:n<=8<;>simp[h]<;>omega
     have HA:=Ja (show tX n=(q1 && q2) by unfold tX;rw[g1,g2]);clear hn hc hb b9 g1 g2;cases q1<;>cases q2
     case true.true=>
      simp only[Bool.not_true] at c8 c7;go_wp2;go_roundw
      case rel=>exact⟨k+1,d5.out,by go_num,by trivial,Ja (by rw[HT.out.1,HK.out,HA.out];rfl)⟩
      case measure=>have:=d5.out;simp[intOf];omega
     all_goals simp only[Bool.not_true,Bool.not_false] at c8 c7
     all_goals go_wp2
     all_goals go_ret
     all_goals refine⟨zh ?_,g.out⟩
     all_goals rw[<-c1.out,if_pos (HT.out.2 (by rw[HA.out];rfl))]
    ·obtain rfl:k=p.args.length:=by omega
     have d6:¬(p.args.length:Int)<p.args.length:=Zo;have c0:p.args.all tX=true:=by have:=HK.out;rw[Nl] at this;exact this
     have b5:=c1.out;rw[if_neg (by rw[c0];simp)] at b5;have b3:=Ja b5;clear b5 c0 HK;go_upto_region 11 with fail;obtain⟨qe,b7⟩:∃q,yw p p.entry=q:=⟨_,rfl⟩
     have c4:A 115 #[.agg (R p f1 f2 a1 a2 d1 d2 b1 b2),I p.entry] W0 fun e w'=>e=.returned (.bool qe)/\O W0 w':=by rw[<-b7];exact c9.out _ g.out HL.out _
     have b0:=Ja c4;have c2:=Ja b7;clear c4 b7
     cases qe with
     |false=>
      go_wp2_with (go_at_call 115;go_must (refine b0.out.mono ?_;rintro e w2 ⟨rfl,m⟩))
      go_ret;refine⟨zh ?_,g.out.trans (m.mono g.out.size)⟩
      rw[<-b3.out,if_pos (.inl c2.out)]
     |true=>
      by_cases hh:p.handler=-1
      ·have t2:(p.handler !=-1)=false:=by rw[bne_eq_false_iff_eq];exact hh
       have a5:Hid ((if wB p=false then(37:Int) else 0)=res):=by
        have h:=b3.out;rw[if_neg (by rintro(e|e);(rw[c2.out] at e;cases e);exact e.1 hh)] at h;exact h
       clear hh;go_upto_region 13 with(go_at_call 115;go_must (refine b0.out.mono ?_;rintro e w2 ⟨rfl,m⟩;have c:=zH m a0.out (lt_of_block a0.out);have u0:=K0 c;have u1:=K1 c;have u2:=K2 c;have u3:=K3 c;have u4:=K4 c;have u5:=K5 c))
       have d:=g.out.trans (m.mono g.out.size);obtain⟨qp,t⟩:∃q,wB p=q:=⟨_,rfl⟩
       have a3:A 116 #[.agg (R p f1 f2 a1 a2 d1 d2 b1 b2)] w2 fun e w'=>e=.returned (.bool qp)/\O w2 w':=by rw[<-t];exact d4.out _ d
       have a7:=Ja a3;have a6:=Ja t;clear a3 t
       cases qp with
       |false=>
        go_wp2_with (go_at_call 116;go_must (refine a7.out.mono ?_;rintro e w5 ⟨rfl,x⟩))
        go_ret;refine⟨zh ?_,(d).trans (x.mono (d).size)⟩
        rw[<-a5.out,if_pos a6.out]
       |true=>
        go_wp2_with (go_at_call 116;go_must (refine a7.out.mono ?_;rintro e w5 ⟨rfl,x⟩))
        go_ret;refine⟨zh ?_,(d).trans (x.mono (d).size)⟩;rw[<-a5.out,if_neg (by rw[a6.out];simp)]
      ·have t2:(p.handler !=-1)=true:=by rw[bne_iff_ne];exact hh
       obtain⟨qh,b6⟩:∃q,yw p p.handler=q:=⟨_,rfl⟩
       have d3:=Ja b6;have c3:∀W,O w W->A 115 #[.agg (R p f1 f2 a1 a2 d1 d2 b1 b2),I p.handler] W fun e w'=>e=.returned (.bool qh)/\O W w':=fun W hb=>by rw[<-b6];exact c9.out _ hb HL.out _
       have d0:=Ja c3;have HH:=Ja hh;have g1:True:=trivial;clear hh b6 c3
       cases qh with
       |false=>
        go_wp2_with (first|(go_at_call 115;have d7:=g1;clear g1;go_must (refine b0.out.mono ?_;rintro e w2 ⟨rfl,m⟩;have c:=zH m a0.out (lt_of_block a0.out);have u0:=K0 c;have u1:=K1 c;have u2:=K2 c;have u3:=K3 c;have u4:=K4 c;have u5:=K5 c;have d:=g.out.trans (m.mono g.out.size)))|(go_at_call 115;go_must (refine(d0.out _ d).mono ?_;rintro e w4 ⟨rfl,a8⟩)))
        go_ret;refine⟨zh ?_,d.trans (a8.mono d.size)⟩
        rw[<-b3.out,if_pos (.inr ⟨HH.out,d3.out⟩)]
       |true=>
        have a5:Hid ((if wB p=false then(37:Int) else 0)=res):=by
         have h:=b3.out;rw[if_neg (by rintro(e|e);(rw[c2.out] at e;cases e);(rw[d3.out] at e;cases e.2))] at h;exact h
        go_upto_region 13 with(first|(go_at_call 115;have d7:=g1;clear g1;go_must (refine b0.out.mono ?_;rintro e w2 ⟨rfl,m⟩;have c:=zH m a0.out (lt_of_block a0.out);have u0:=K0 c;have u1:=K1 c;have u2:=K2 c;have u3:=K3 c;have u4:=K4 c;have u5:=K5 c;have d:=g.out.trans (m.mono g.out.size)))|(go_at_call 115;go_must (refine(d0.out _ d).mono ?_;rintro e w4 ⟨rfl,a8⟩;have y:=zH a8 c (lt_of_block c);have v0:=K0 y;have v1:=K1 y;have v2:=K2 y;have v3:=K3 y;have v4:=K4 y;have v5:=K5 y)))
        have a4:=d.trans (a8.mono d.size);obtain⟨qp,t⟩:∃q,wB p=q:=⟨_,rfl⟩
        have a3:A 116 #[.agg (R p f1 f2 a1 a2 d1 d2 b1 b2)] w4 fun e w'=>e=.returned (.bool qp)/\O w4 w':=by rw[<-t];exact d4.out _ a4
        have a7:=Ja a3;have a6:=Ja t;clear a3 t
        cases qp with
        |false=>
         go_wp2_with (go_at_call 116;go_must (refine a7.out.mono ?_;rintro e w5 ⟨rfl,x⟩))
         go_ret;refine⟨zh ?_,(a4).trans (x.mono (a4).size)⟩
         rw[<-a5.out,if_pos a6.out]
        |true=>
         go_wp2_with (go_at_call 116;go_must (refine a7.out.mono ?_;rintro e w5 ⟨rfl,x⟩))
         go_ret;refine⟨zh ?_,(a4).trans (x.mono (a4).size)⟩;rw[<-a5.out,if_neg (by rw[a6.out];simp)]
  ·rw[if_pos hl];have t1:((p.args.length:Int) !=(p.funcs.length:Int))=true:=by rw[bne_iff_ne];omega
   clear hl l;go_enter Tryz.func68,Tryz.ntmps68;go_wp2;go_ret;exact⟨rfl,a9⟩
def y9 (l:List Nat):ByteArray:=strOfNums (l.map fun(n:Nat)=>(n:Int))
def yV (x:Nat)(ov:Value)(k i:Nat)(s:ByteArray)(inp pol:Nat):Array Value:=#[U x,ov,I k,U i,.string s,I inp,I pol]
theorem mp{b:Nat}{l:List Nat}(h:L w b (l.map wz).toArray 5)(hl:l.length=8192):
 (convert 49 9 (Y b 8192 8192)).run Tryz.prog w=.ok (.string (y9 l)) w:=by
 refine run_convert_bytes_arg w 49 5 Tryz.underlying49 Tryz.underlying5 b 0 8192 8192 (l.map fun(n:Nat)=>(n:Int)) (by simpa using hl) (fun i hi=>?_) 9 Tryz.underlying9;rw[Ng];have c:i<l.length:=Zo;refine zA h ?_;simp[Jj,Jd c,wz]
theorem zu{b:Nat}(h:w.grownBy w' (some b))(j:Nat)(v:Value):w.grownBy (w'.setCell ⟨b,j,none⟩ v) (some b):=
 ⟨h.os,h.tape,h.output,by have:=h.size;simpa[World.setCell] using this,fun q hq hn=>by rw[Below.heap_setCell _ _ _ _ (by simpa using hn)];exact h.block q hq hn⟩
structure FinS (K:MK) (m:Mach) (ov:Value) (b13 bt:Nat) (k i:Nat) (w':World):Prop where
 c13:w'.cell? ⟨b13,0,none⟩=some (.pointer (some ⟨K.pm,0,none⟩))
 c6:w'.cell? ⟨K.pm,6,none⟩=some (.slice (some ⟨K.rb,0,none⟩) 8192 8192)
 c10:w'.cell? ⟨K.pm,10,none⟩=some ov
 c11:w'.cell? ⟨K.pm,11,none⟩=some (.int .i64 (m.inputs:Int))
 c12:w'.cell? ⟨K.pm,12,none⟩=some (.int .i64 (m.polls:Int))
 t0:w'.cell? ⟨bt,0,none⟩=some (.int .i64 (k:Int))
 t1:w'.cell? ⟨bt,1,none⟩=some (.int .u16 (i:Int))
 ram:w'.heap[K.rb]? =some (.cells (m.ram.map wz).toArray 5 (0,0))
theorem FinS.set{ov:Value}(h:FinS K m ov b13 bt k i w')(n1:b12≠b13)(n2:b12≠K.pm)(n3:b12≠bt)(n4:b12≠K.rb)(j:Nat)(v:Value):FinS K m ov b13 bt k i (w'.setCell ⟨b12,j,none⟩ v):=by
 have c:∀ {b q:Nat} {x:Value},b12≠b->T w' b q x->T (w'.setCell ⟨b12,j,none⟩ v) b q x:=fun hn hc=>by
  rw[Oo (w:=w') (Below.heap_setCell _ _ _ _ (by simpa using Ne.symm hn))];exact hc
 exact⟨c n1 h.c13,c n2 h.c6,c n2 h.c10,c n2 h.c11,c n2 h.c12,c n3 h.t0,c n3 h.t1,zR h.ram (by simpa using Ne.symm n4)⟩
theorem FinS.drew{ov:Value}(h:FinS K m ov b13 bt k i w'):FinS K m ov b13 bt k i w'.drew:=⟨h.c13,h.c6,h.c10,h.c11,h.c12,h.t0,h.t1,h.ram⟩
theorem FinS.all{oa:Option Addr}{oc:Nat}(hrl:m.ram.length=8192)(h:FinS K m (.slice oa m.out.length oc) b13 bt k i w'):T w' b13 0 (Q K.pm)/\T w' K.pm 6 (Y K.rb 8192 8192)/\T w' K.pm 10 (.slice oa m.out.length oc)/\T w' K.pm 11 (I (m.inputs:Int))/\T w' K.pm 12 (I (m.polls:Int))/\T w' bt 0 (I k)/\T w' bt 1 (U i)/\(convert 49 9 (Y K.rb 8192 8192)).run Tryz.prog w'=.ok (.string (y9 m.ram)) w':=⟨h.c13,h.c6,h.c10,h.c11,h.c12,h.t0,h.t1,mp h.ram hrl⟩
theorem pE{ov:Value}(h:MachAt w K m ov)(a0:L w b13 #[Q K.pm] 208)(l:L w b12 #[U 0,F,I 0,U 0,.string {data:=#[]},I 0,I 0] 57)(k i x:Nat):
 A 148 #[.agg #[I k,U i],U x,Q b13,Q b12] w fun e w'=>
  e=.returned (.tuple #[])/\L w' b12 (yV x ov k i (y9 m.ram) m.inputs m.polls) 57/\w.grownBy w' (some b12):=by
 obtain⟨oa,oc,rfl⟩:=zG h.out;have hrl:=h.rlen;have n1:b12≠b13:=by rintro rfl;rw[l] at a0;simp at a0
 have n2:b12≠K.pm:=by rintro rfl;rw[h.blk] at l;simp[r9] at l
 have n4:b12≠K.rb:=by
  rintro rfl;rw[h.ram] at l;have:=congrArg (fun o=>match o with|some (Obj.cells _ t _)=>t|_=>0) l;simp at this
 have n3:b12≠w.heap.size:=by have:=lt_of_block l;omega
 have b:=(Below.refl w.heap.size w).alloc (Je _) (G #[I k,U i] 55);have hM:=h.keep b
 have q:FinS K m (.slice oa m.out.length oc) b13 w.heap.size k i (w.alloc (G #[I k,U i] 55)):=
  ⟨zA (zB a0) Zs,hM.c6,hM.c10,hM.c11,hM.c12,zA (zI rfl) Zs,zA (zI rfl) Zs,hM.ram⟩
 have c:=zB (o:=G #[I k,U i] 55) l;have f8:w.grownBy (w.alloc (G #[I k,U i] 55)) (some b12):=Uo w _ _;have d0:T (w.alloc (G #[I k,U i] 55)) b12 0 (U 0):=zA c Zs;have f0:N (w.alloc (G #[I k,U i] 55)) b12 0:=zE c;have d1:T (w.alloc (G #[I k,U i] 55)) b12 1 (F):=zA c Zs;have f1:N (w.alloc (G #[I k,U i] 55)) b12 1:=zE c;have d2:T (w.alloc (G #[I k,U i] 55)) b12 2 (I 0):=zA c Zs;have f2:N (w.alloc (G #[I k,U i] 55)) b12 2:=zE c;have d3:T (w.alloc (G #[I k,U i] 55)) b12 3 (U 0):=zA c Zs;have f3:N (w.alloc (G #[I k,U i] 55)) b12 3:=zE c;have d4:T (w.alloc (G #[I k,U i] 55)) b12 4 (.string {data:=#[]}):=zA c Zs;have f4:N (w.alloc (G #[I k,U i] 55)) b12 4:=zE c;have d5:T (w.alloc (G #[I k,U i] 55)) b12 5 (I 0):=zA c Zs;have f5:N (w.alloc (G #[I k,U i] 55)) b12 5:=zE c;have d6:T (w.alloc (G #[I k,U i] 55)) b12 6 (I 0):=zA c Zs;have f6:N (w.alloc (G #[I k,U i] 55)) b12 6:=zE c;have HG:=Ja f8;have HB:=Ja c;clear h hM b a0 l f8 c;go_enter Tryz.func148,Tryz.ntmps148;go_upto_region 1 with fail;generalize hW:w.alloc (G #[I k,U i] 55)=W at *;generalize w.heap.size=bt at *;have y:∀w',FinS K m (.slice oa m.out.length oc) b13 bt k i w'->(convert 49 9 (Y K.rb 8192 8192)).run Tryz.prog w'=.ok (.string (y9 m.ram)) w':=fun w' hs=>mp hs.ram hrl
 have c1:=q.c13;have c2:=q.c6;have c3:=q.c10;have c4:=q.c11;have c5:=q.c12;have c6:=q.t0;have c7:=q.t1;have cc:=y _ q;have a6:∀(w':World) (j:Nat) (v:Value),FinS K m (.slice oa m.out.length oc) b13 bt k i w'->FinS K m (.slice oa m.out.length oc) b13 bt k i (w'.setCell ⟨b12,j,none⟩ v):=fun w' j v hs=>hs.set n1 n2 n3 n4 j v
 have d:=Ja a6;have i9:=Ja y;have HS:=Ja q;clear a6 y q hW;refine wp_region_noPanic ?_;refine wp_region_held_drew (S:=(fun w'=>T w' b13 0 (Q K.pm)/\T w' K.pm 6 (Y K.rb 8192 8192)/\T w' K.pm 10 (.slice oa m.out.length oc)/\T w' K.pm 11 (I (m.inputs:Int))/\T w' K.pm 12 (I (m.polls:Int))/\T w' bt 0 (I k)/\T w' bt 1 (U i)/\(convert 49 9 (Y K.rb 8192 8192)).run Tryz.prog w'=.ok (.string (y9 m.ram)) w')) Zk (HS.out.drew.all hrl) (fun hHeld=>?_);have f9:=Ja HS.out.drew;have g:=Ja (show W.drew.heap[b12]? =_ from HB.out);have h9:=Ja (show w.grownBy W.drew (some b12) from⟨HG.out.os,HG.out.tape,HG.out.output,HG.out.size,HG.out.block⟩);clear c1 c2 c3 c4 c5 c6 c7 cc HS HB HG d0 f0 d1 f1 d2 f2 d3 f3 d4 f4 d5 f5 d6 f6;generalize W.drew=Wa at *;refine Th 0 ?_
 try simp only[Yp]
 refine Th 1 ?_
 try simp only[Yp]
 refine Th 2 ?_
 try simp only[Yp]
 refine Th 3 ?_
 try simp only[Yp]
 refine Th 4 ?_
 try simp only[Yp]
 refine Th 5 ?_
 try simp only[Yp]
 refine Th 6 ?_
 try simp only[Yp]
 refine Th 7 ?_
 try simp only[Yp]
 refine Th 8 ?_
 try simp only[Yp]
 refine Th 9 ?_
 try simp only[Yp]
 refine Th 10 ?_
 try simp only[Yp]
 refine Th 11 ?_
 try simp only[Yp]
 refine Th 12 ?_
 try simp only[Yp]
 refine Th 13 ?_
 try simp only[Yp]
 refine Th 14 ?_
 try simp only[Yp]
 refine Th 15 ?_
 try simp only[Yp]
 refine Th 16 ?_
 try simp only[Yp]
 refine Th 17 ?_
 try simp only[Yp]
 refine Th 18 ?_
 try simp only[Yp]
 have e0:=K0 g.out;have g0:N Wa b12 0:=zE g.out;have e1:=K1 g.out;have g1:N Wa b12 1:=zE g.out;have e2:=K2 g.out;have g2:N Wa b12 2:=zE g.out;have e3:=K3 g.out;have g3:N Wa b12 3:=zE g.out;have e4:=K4 g.out;have g4:N Wa b12 4:=zE g.out;have e5:=K5 g.out;have g5:N Wa b12 5:=zE g.out;have e6:=K6 g.out;have g6:N Wa b12 6:=zE g.out;refine wpAnyH_ready (rs:=[19]) Zk Zs ?_;refine AllReadyH.cons (o:=_) rfl (fun K hK=>?_) ?_
 ·skip
  go_simp;have f7:=Ja (d.out ((((((Wa.setCell ⟨b12,0,none⟩ (U 0)).setCell ⟨b12,1,none⟩ (F)).setCell ⟨b12,2,none⟩ (I 0)).setCell ⟨b12,3,none⟩ (U 0)).setCell ⟨b12,4,none⟩ (.string {data:=#[]})).setCell ⟨b12,5,none⟩ (I 0)) 6 (I 0) (d.out (((((Wa.setCell ⟨b12,0,none⟩ (U 0)).setCell ⟨b12,1,none⟩ (F)).setCell ⟨b12,2,none⟩ (I 0)).setCell ⟨b12,3,none⟩ (U 0)).setCell ⟨b12,4,none⟩ (.string {data:=#[]})) 5 (I 0) (d.out ((((Wa.setCell ⟨b12,0,none⟩ (U 0)).setCell ⟨b12,1,none⟩ (F)).setCell ⟨b12,2,none⟩ (I 0)).setCell ⟨b12,3,none⟩ (U 0)) 4 (.string {data:=#[]}) (d.out (((Wa.setCell ⟨b12,0,none⟩ (U 0)).setCell ⟨b12,1,none⟩ (F)).setCell ⟨b12,2,none⟩ (I 0)) 3 (U 0) (d.out ((Wa.setCell ⟨b12,0,none⟩ (U 0)).setCell ⟨b12,1,none⟩ (F)) 2 (I 0) (d.out (Wa.setCell ⟨b12,0,none⟩ (U 0)) 1 (F) (d.out Wa 0 (U 0) f9.out)))))));have c0:L (Wa.setCell ⟨b12,0,none⟩ (U 0)) b12 #[U 0,F,I 0,U 0,.string {data:=#[]},I 0,I 0] 57:=by rw[zD g.out];rfl
  have b9:L ((Wa.setCell ⟨b12,0,none⟩ (U 0)).setCell ⟨b12,1,none⟩ (F)) b12 #[U 0,F,I 0,U 0,.string {data:=#[]},I 0,I 0] 57:=by rw[zD c0];rfl
  have b8:L (((Wa.setCell ⟨b12,0,none⟩ (U 0)).setCell ⟨b12,1,none⟩ (F)).setCell ⟨b12,2,none⟩ (I 0)) b12 #[U 0,F,I 0,U 0,.string {data:=#[]},I 0,I 0] 57:=by rw[zD b9];rfl
  have b7:L ((((Wa.setCell ⟨b12,0,none⟩ (U 0)).setCell ⟨b12,1,none⟩ (F)).setCell ⟨b12,2,none⟩ (I 0)).setCell ⟨b12,3,none⟩ (U 0)) b12 #[U 0,F,I 0,U 0,.string {data:=#[]},I 0,I 0] 57:=by rw[zD b8];rfl
  have b6:L (((((Wa.setCell ⟨b12,0,none⟩ (U 0)).setCell ⟨b12,1,none⟩ (F)).setCell ⟨b12,2,none⟩ (I 0)).setCell ⟨b12,3,none⟩ (U 0)).setCell ⟨b12,4,none⟩ (.string {data:=#[]})) b12 #[U 0,F,I 0,U 0,.string {data:=#[]},I 0,I 0] 57:=by rw[zD b7];rfl
  have b5:L ((((((Wa.setCell ⟨b12,0,none⟩ (U 0)).setCell ⟨b12,1,none⟩ (F)).setCell ⟨b12,2,none⟩ (I 0)).setCell ⟨b12,3,none⟩ (U 0)).setCell ⟨b12,4,none⟩ (.string {data:=#[]})).setCell ⟨b12,5,none⟩ (I 0)) b12 #[U 0,F,I 0,U 0,.string {data:=#[]},I 0,I 0] 57:=by rw[zD b6];rfl
  have b4:L (((((((Wa.setCell ⟨b12,0,none⟩ (U 0)).setCell ⟨b12,1,none⟩ (F)).setCell ⟨b12,2,none⟩ (I 0)).setCell ⟨b12,3,none⟩ (U 0)).setCell ⟨b12,4,none⟩ (.string {data:=#[]})).setCell ⟨b12,5,none⟩ (I 0)).setCell ⟨b12,6,none⟩ (I 0)) b12 #[U 0,F,I 0,U 0,.string {data:=#[]},I 0,I 0] 57:=by rw[zD b5];rfl
  have a5:=Ja b4;have h8:=Ja (zu (zu (zu (zu (zu (zu (zu h9.out 0 (U 0)) 1 (F)) 2 (I 0)) 3 (U 0)) 4 (.string {data:=#[]})) 5 (I 0)) 6 (I 0));refine hK.out _ _ (FinS.all hrl f7.out) (fun hHeld=>?_);clear hK K e0 g0 e1 g1 e2 g2 e3 g3 e4 g4 e5 g5 e6 g6 c0 b9 b8 b7 b6 b5 b4 f9 g h9
  try simp only[Yp]
  generalize (((((((Wa.setCell ⟨b12,0,none⟩ (U 0)).setCell ⟨b12,1,none⟩ (F)).setCell ⟨b12,2,none⟩ (I 0)).setCell ⟨b12,3,none⟩ (U 0)).setCell ⟨b12,4,none⟩ (.string {data:=#[]})).setCell ⟨b12,5,none⟩ (I 0)).setCell ⟨b12,6,none⟩ (I 0))=Wb at *;refine Th 20 ?_
  try simp only[Yp]
  have e0:=K0 a5.out;have g0:N Wb b12 0:=zE a5.out;refine wpAnyH_ready (rs:=[21]) Zk Zs ?_;refine AllReadyH.cons (o:=_) rfl (fun K hK=>?_) ?_
  ·skip
   go_simp;have e8:=Ja (d.out Wb 0 (U x) f7.out);have b3:L (Wb.setCell ⟨b12,0,none⟩ (U x)) b12 #[U x,F,I 0,U 0,.string {data:=#[]},I 0,I 0] 57:=by rw[zD a5.out];rfl
   have a4:=Ja b3;have h7:=Ja (zu h8.out 0 (U x));refine hK.out _ _ (FinS.all hrl e8.out) (fun hHeld=>?_);clear hK K e0 g0 b3 f7 a5 h8
   try simp only[Yp]
   generalize (Wb.setCell ⟨b12,0,none⟩ (U x))=Wc at *;refine Th 22 ?_
   try simp only[Yp]
   have e1:=K1 a4.out;have g1:N Wc b12 1:=zE a4.out;refine wpAnyH_ready (rs:=[23]) Zk Zs ?_;refine AllReadyH.cons (o:=_) rfl (fun K hK=>?_) ?_
   ·skip
    go_simp;have e7:=Ja (d.out Wc 1 (.slice oa m.out.length oc) e8.out);have b2:L (Wc.setCell ⟨b12,1,none⟩ (.slice oa m.out.length oc)) b12 #[U x,.slice oa m.out.length oc,I 0,U 0,.string {data:=#[]},I 0,I 0] 57:=by rw[zD a4.out];rfl
    have u:=Ja b2;have h6:=Ja (zu h7.out 1 (.slice oa m.out.length oc));refine hK.out _ _ (FinS.all hrl e7.out) (fun hHeld=>?_);clear hK K e1 g1 b2 e8 a4 h7
    try simp only[Yp]
    generalize (Wc.setCell ⟨b12,1,none⟩ (.slice oa m.out.length oc))=Wd at *;refine Th 24 ?_
    try simp only[Yp]
    have e2:=K2 u.out;have g2:N Wd b12 2:=zE u.out;have e3:=K3 u.out;have g3:N Wd b12 3:=zE u.out;refine wpAnyH_ready (rs:=[25]) Zk Zs ?_;refine AllReadyH.cons (o:=_) rfl (fun K hK=>?_) ?_
    ·skip
     go_simp;have d7:=Ja (d.out (Wd.setCell ⟨b12,2,none⟩ (I k)) 3 (U i) (d.out Wd 2 (I k) e7.out));have b1:L (Wd.setCell ⟨b12,2,none⟩ (I k)) b12 #[U x,.slice oa m.out.length oc,I k,U 0,.string {data:=#[]},I 0,I 0] 57:=by rw[zD u.out];rfl
     have b0:L ((Wd.setCell ⟨b12,2,none⟩ (I k)).setCell ⟨b12,3,none⟩ (U i)) b12 #[U x,.slice oa m.out.length oc,I k,U i,.string {data:=#[]},I 0,I 0] 57:=by rw[zD b1];rfl
     have a3:=Ja b0;have h5:=Ja (zu (zu h6.out 2 (I k)) 3 (U i));refine hK.out _ _ (FinS.all hrl d7.out) (fun hHeld=>?_);clear hK K e2 g2 e3 g3 b1 b0 e7 u h6
     try simp only[Yp]
     generalize ((Wd.setCell ⟨b12,2,none⟩ (I k)).setCell ⟨b12,3,none⟩ (U i))=We at *;refine Th 26 ?_
     try simp only[Yp]
     have e4:=K4 a3.out;have g4:N We b12 4:=zE a3.out;refine wpAnyH_ready (rs:=[27]) Zk Zs ?_;refine AllReadyH.cons (o:=_) rfl (fun K hK=>?_) ?_
     ·skip
      go_simp;have c9:=Ja (d.out We 4 (.string (y9 m.ram)) d7.out);have a9:L (We.setCell ⟨b12,4,none⟩ (.string (y9 m.ram))) b12 #[U x,.slice oa m.out.length oc,I k,U i,.string (y9 m.ram),I 0,I 0] 57:=by rw[zD a3.out];rfl
      have a2:=Ja a9;have h4:=Ja (zu h5.out 4 (.string (y9 m.ram)));refine hK.out _ _ (FinS.all hrl c9.out) (fun hHeld=>?_);clear hK K e4 g4 a9 d7 a3 h5
      try simp only[Yp]
      generalize (We.setCell ⟨b12,4,none⟩ (.string (y9 m.ram)))=Wf at *;refine Th 28 ?_
      try simp only[Yp]
      have e5:=K5 a2.out;have g5:N Wf b12 5:=zE a2.out;refine wpAnyH_ready (rs:=[29]) Zk Zs ?_;refine AllReadyH.cons (o:=_) rfl (fun K hK=>?_) ?_
      ·skip
       go_simp;have c8:=Ja (d.out Wf 5 (I (m.inputs:Int)) c9.out);have a8:L (Wf.setCell ⟨b12,5,none⟩ (I (m.inputs:Int))) b12 #[U x,.slice oa m.out.length oc,I k,U i,.string (y9 m.ram),I (m.inputs:Int),I 0] 57:=by rw[zD a2.out];rfl
       have a1:=Ja a8;have g8:=Ja (zu h4.out 5 (I (m.inputs:Int)));refine hK.out _ _ (FinS.all hrl c8.out) (fun hHeld=>?_);clear hK K e5 g5 a8 c9 a2 h4
       try simp only[Yp]
       generalize (Wf.setCell ⟨b12,5,none⟩ (I (m.inputs:Int)))=Wg at *;refine Th 30 ?_
       try simp only[Yp]
       have e6:=K6 a1.out;have g6:N Wg b12 6:=zE a1.out;refine wpAnyH_ready (rs:=[31]) Zk Zs ?_;refine AllReadyH.cons (o:=_) rfl (fun K hK=>?_) ?_
       ·skip
        go_simp;have i0:=Ja (d.out Wg 6 (I (m.polls:Int)) c8.out);have a7:L (Wg.setCell ⟨b12,6,none⟩ (I (m.polls:Int))) b12 #[U x,.slice oa m.out.length oc,I k,U i,.string (y9 m.ram),I (m.inputs:Int),I (m.polls:Int)] 57:=by rw[zD a1.out];rfl
        have i2:=Ja a7;have i1:=Ja (zu g8.out 6 (I (m.polls:Int)));refine hK.out _ _ (FinS.all hrl i0.out) (fun hHeld=>?_);clear hK K e6 g6 a7 c8 a1 g8
        try simp only[Yp]
        generalize (Wg.setCell ⟨b12,6,none⟩ (I (m.polls:Int)))=Wh at *;refine wpAnyH_done Zk (NoPanic.normal ?_) _;go_wp2
        go_end0
        exact⟨rfl,i2.out,i1.out⟩
       ·exact AllReadyH.nil
      ·exact AllReadyH.nil
     ·exact AllReadyH.nil
    ·exact AllReadyH.nil
   ·exact AllReadyH.nil
  ·exact AllReadyH.nil
 ·exact AllReadyH.nil
theorem rec_idle (p:Addr)(w:World):
 CallsD Tryz.prog 149 #[.pointer (some p)] .returning w fun e u' w'=>e=.returned (.tuple #[])/\u'=.returning/\w=w':=by
 refine callsD_of_wpS Tryz.func149 rfl fun c₀ cs hu=>?_
 apply wpS_seq;apply wpS_region;simp[wpOpsS,go_sem,recoverD,hu,Tryz.ntmps149,Exit.thenS];apply wpS_seq;apply wpS_seq;apply wpS_region;simp[wpOpsS,go_sem,recoverD,hu,Tryz.ntmps149,Exit.thenS];refine wpS_cond (t:=true) (by simp[Act.eval,Array.replicate]) ?_;simp only[if_true];refine wpS_of_wp (wp_ret ?_);cases c₀
 simp_all [Exit.thenS,bodyPostS,results,Tryz.results149]
theorem kA (v:Value)(w:World):(Instr.typeAssert (.iface 213 v) 20 213 true).run Tryz.prog w=.ok (.tuple #[v,.bool true]) w:=by kernel_rfl
theorem pi{ov:Value}(h:MachAt w K m ov)(u:L w b13 #[Q K.pm] 208)(x:L w b12 #[U 0,F,I 0,U 0,.string {data:=#[]},I 0,I 0] 57)
 (o:T w d 0 (.func (.func 148) #[] #[Q b13,Q b12])) (k i:Nat) (j:List PanicEntry):
 CallsD Tryz.prog 149 #[Q d] (.panicking (oE k i::j)) w fun e u' w'=>
  e=.returned (.tuple #[])/\u'=.panicking ({oE k i with recovered:=true }::j)/\L w' b12 (yV 0 ov k i (y9 m.ram) m.inputs m.polls) 57/\w.grownBy w' (some b12):=by
 refine callsD_of_wpS Tryz.func149 rfl fun c₀ cs g=>?_
 unfold oE at g ⊢;apply wpS_seq;apply wpS_region;simp[wpOpsS,go_sem,recoverD,g,Tryz.ntmps149,Exit.thenS];apply wpS_seq;apply wpS_seq;apply wpS_region;simp[wpOpsS,go_sem,recoverD,g,Tryz.ntmps149,Exit.thenS];refine wpS_cond (t:=false) (by simp[Act.eval,Array.replicate]) ?_;simp only[Bool.false_eq_true,if_false];refine wpS_of_wp (wp_skip ?_);simp only[Exit.thenS];refine wpS_of_wp ?_;have a1:=kA (.agg #[I k,U i]);have HH:=Ja h;have HU:=Ja g;have H2:=Ja (Jb u x);clear h g u x
 have e:(#[Value.pointer (some ⟨d,0,none⟩)]++(((((Array.replicate 18 undef).setIfInBounds 3 (Value.iface 213 (.agg #[I k,U i]))).setIfInBounds 0 (Value.iface 213 (.agg #[I k,U i]))).setIfInBounds 4 (Value.iface 213 (.agg #[I k,U i]))).setIfInBounds 5 (Value.bool false)):Array Value)=#[.pointer (some ⟨d,0,none⟩),.iface 213 (.agg #[I k,U i]),undef,undef,.iface 213 (.agg #[I k,U i]),.iface 213 (.agg #[I k,U i]),.bool false,undef,undef,undef,undef,undef,undef,undef,undef,undef,undef,undef,undef]:=by
  simp[Array.replicate,List.replicate]
 rw[e];clear e;have y:=Jw w _ o;have a0:(w.alloc (G #[I k,U i] 213)).cell? ⟨d,0,none⟩=_:=(Oo (w:=w) (Below.heap_alloc _ _ _ y)).trans o;have hM:=HH.out.keep ((Below.refl _ _).alloc (Je _) (G #[I k,U i] 213));have hF:=Ja (pE hM (b12:=b12) (b13:=b13) (zB H2.out.1) (zB H2.out.2) k i 0);clear hM;go_wp2_with (go_at_call 148;go_must (refine hF.out.mono ?_;rintro e w4 ⟨rfl,h5,l⟩))
 have hg:w.grownBy w4 (some b12):=⟨l.os,l.tape,l.output,Jn Zs l.size,fun q hq hn=>(l.block q Zt hn).trans (Below.heap_alloc _ _ _ hq)⟩
 have g:=HU.out;cases c₀;simp only at g;simp[bodyPostS,results,Tryz.results149,h5,hg]
open Go.RowKit Go.Lib
theorem Tryz.info_u8:(Tryz.prog.info? 5).map (fun i=>(i.zero,i.size,i.bytes))=some (some (.int .u8 0),1,1):=by kernel_rfl
theorem tQ {P:Program}(w:World)(dT sT ty c:TypeId)(g dLen k:Nat)(s:ByteArray)(cur:Array Value)(t:TypeId)
 (o:P.underlying dT=some (.slice c)) (hs:(P.info? c).map (·.size)=some 1) (hg:L w g cur t) (q:dLen<=cur.size):
 (Builtin.copy_ #[dT,sT] ty #[.slice (some ⟨g,0,none⟩) dLen k,.string s]).run P w=
  .ok (goInt (Nat.min s.size dLen)) (w.setRow g (byteCells (s.data.toList.take (Nat.min s.size dLen))++cur.toList.drop (Nat.min s.size dLen)).toArray):=by
 obtain⟨n,j⟩:∃n,Nat.min s.size dLen=n:=⟨_,rfl⟩
 have u:n<=s.size:=by rw[<-j];exact Nat.min_le_left _ _
 have hnd:n<=dLen:=by rw[<-j];exact Nat.min_le_right _ _
 have h:(byteCells (s.data.toList.take n)).length=n:=by rw[byteCells_length,Oc,<-size_eq];omega
 have d:=run_storeCells_at P g 0 t (byteCells (s.data.toList.take n)) 0 cur w hg (by rw[h];omega) (byteCells_one _)
 have l:List.take n (List.map (fun b:UInt8=>Value.int IntKind.u8 (b.toNat:Int)) s.data.toList)=byteCells (s.data.toList.take n):=by
  rw[<-List.map_take];rfl
 rw[h] at d;simp only[Uk] at d;rw[j]
 cases m:P.info? c with
 |none=>simp[m] at hs
 |some i=>
  simp[Builtin.copy_,run_underlying o,Builtin.lenOf,Builtin.firstCells,sizeOf,typeInfo,m,j];rw[l,d];simp[Result.andThen]
theorem ram_init (s:ByteArray):byteCells (s.data.toList.take (Nat.min s.size 8192))++(List.replicate 8192 (Value.int .u8 0)).drop (Nat.min s.size 8192)=(v7 s).map wz:=by
 apply Oq;intro k;have i:s.data.toList.length=s.size:=(size_eq s).symm;have hl:(byteCells (s.data.toList.take (Nat.min s.size 8192))).length=Nat.min s.size 8192:=by rw[byteCells_length,Oc,i];exact Ud (Nat.min_le_left _ _)
 unfold v7;rw[List.map_map,Jr];obtain⟨n,c⟩:∃n,Nat.min s.size 8192=n:=⟨_,rfl⟩
 have o:n<=s.size:=by rw[<-c];exact Nat.min_le_left _ _
 have m:n<=8192:=by rw[<-c];exact Nat.min_le_right _ _
 have l:n=s.size∨n=8192:=by rcases Nat.le_total s.size 8192 with h|h;exact .inl (by rw[<-c];exact Ud h);exact .inr (by rw[<-c];exact Nat.min_eq_right h)
 rw[c] at hl ⊢
 by_cases h1:k<n
 ·rw[Np Zo,Oh Zo];unfold byteCells;rw[Jr,Ug,if_pos h1];have d:k<s.data.toList.length:=Zo;rw[Jd d];have g:k<s.data.size:=by simpa using d
  simp[wz,Array.getD_eq_getD_getElem?,Array.getElem?_eq_getElem g]
 ·rw[Nc Zo,hl,List.getElem?_drop,show n+(k-n)=k by omega,Nm]
  by_cases h2:k<8192
  ·rw[if_pos h2,Oh h2];have j:¬k<s.data.size:=by have:s.data.size=s.size:=rfl;omega
   simp[wz,Array.getD_eq_getD_getElem?,Array.getElem?_eq_none (Nat.le_of_not_lt j)]
  ·rw[if_neg h2,Of (by simpa using h2)];rfl
def EvR (w:World)(B b q:Nat)(x:Nat×Nat):Prop:=T w b q (U (x.1:Int))/\T w b (q+1) (U (x.2:Int))/\x.1<65536/\x.2<65536
abbrev vM:=yN 2 EvR
def runVal (R:IRun)(ov:Value):Value:=.agg (yV R.value ov R.kind R.info (y9 R.ram) R.inputs R.polls)
def abr (w:World)(R:IRun)(e:Ending)(w':World):Prop:=∃ov,e=.returned (runVal R ov)/\vM w' w'.heap.size ov R.out/\O w w'
def sZ (V:PV)(p:IProg):Value:=.agg #[V.fv,V.av,I p.entry,I p.handler,V.dv,V.bv]
theorem iG (s:ByteArray):(v7 s).length=8192:=by simp[v7]
theorem bY (s:ByteArray):∀x∈v7 s,x<256:=by
 intro x c;unfold v7 at c;obtain⟨k,_,rfl⟩:=Nu.1 c;exact UInt8.toNat_lt _
theorem tM (w:World)(b k:Nat)(cs:Array Value)(h:k≠b):(w.setRow b cs).heap[k]? =w.heap[k]?:=by
 unfold World.setRow;simp only[Array.getElem?_modify];rw[if_neg (fun e=>h e.symm)]
theorem py{B:Nat}(h:Below B w w'){b:Nat}(hb:B<=b)(cs:Array Value):Below B w (w'.setRow b cs):=
 h.trans ⟨rfl,rfl,rfl,by unfold World.setRow;simp,fun k hk=>tM _ _ _ _ Zo⟩
theorem nZ{b:Nat}{cs c:Array Value}{t:TypeId}(h:L w b cs t):L (w.setRow b c) b c t:=setRow_heap w b cs c t (0,0) h
theorem ss{b b':Nat}{d:Array Value}(h:w.heap[b']? =some o)(c:b'≠b):(w.setRow b d).heap[b']? =some o:=(tM _ _ _ _ c).trans h
theorem sf (W:World)(A B C:Obj):(((W.alloc A).alloc B).alloc C).drew.heap[W.heap.size]? =some A/\(((W.alloc A).alloc B).alloc C).drew.heap[W.heap.size+1]? =some B/\(((W.alloc A).alloc B).alloc C).drew.heap[W.heap.size+1+1]? =some C/\O W (((W.alloc A).alloc B).alloc C).drew:=
 ⟨zB (zB (zI rfl)),zB (zI Zs),zI Zs,((((Below.refl _ _).alloc (Je _) _).alloc Zs _).alloc (by simp<;>omega) _).drew⟩
theorem oG:∀ {l:List (Nat×Nat)} {k:Nat} {p:Nat×Nat},l[k]? =some p->(qO l)[k*2]? =some (vL p.1)/\(qO l)[k*2+1]? =some (vL p.2)
 | [],k,p,h=>by simp at h
 |a::l,0,p,h=>by simp at h;subst h;exact⟨rfl,rfl⟩
 |a::l,k+1,p,h=>by
  have:=oG (l:=l) (k:=k) (by simpa using h);rw[show(k+1)*2=k*2+1+1 by omega];exact this
theorem kP{S:Nat}{ov:Value}{l:List (Nat×Nat)}(h:w.ownsRow S 117 2 ov l.length (qO l))(i:∀p∈l,p.1<65536/\p.2<65536):vM w w.heap.size ov l:=by
 obtain⟨a,c,rfl⟩:=zG h;have hl:=zm h;refine⟨a,c,rfl,hl.1,by omega,fun k x hk=>?_⟩;have j:=(Jh.1 hk).1;obtain⟨g,m,e,hg,hb⟩:=h.form Zo;cases e;obtain⟨h1,h2⟩:=oG hk;have d:=i x (Ji hk);refine⟨g,0,rfl,hb,?_,?_,d.1,d.2⟩
 ·rw[Ng];exact(h.cellAt (k*2) Zo).trans h1
 ·rw[Ng];exact(h.cellAt (k*2+1) Zo).trans h2
theorem ku{w4 w5:World}{ov:Value}{b:Nat}{r0:Array Value}(c:MachAt w4 K m ov)(d:L w4 b r0 57)(hb:w.heap.size<=b)(zb:O w w4)(hg:w4.grownBy w5 (some b)):vM w5 w5.heap.size ov m.out/\O w w5:=by
 have g:=zC c.out d (.inr Zd);exact⟨kP (c.out.kept hg (.inr g)) c.olt,zb.grown hg zb.size (fun k hk=>by simp at hk;omega)⟩
theorem mk_ram (W:World):(Instr.makeSlice 49 (I 8192) (I 8192)).run Tryz.prog W=.ok (Y W.heap.size 8192 8192) (W.alloc (G (madeCells #[.int .u8 0] 8192) 5)):=
 run_make_row' (P:=Tryz.prog) 49 5 (.int .u8 0) 1 Tryz.underlying49 Tryz.info_u8 rfl .i64 .i64 8192 Zd Zd W
theorem lP:∀x2 x4 x5 x7:Bool,(x7=false)∨(x2=false/\x7=true)∨(x2=true/\x4=false/\x7=true)∨(x2=true/\x4=true/\x5=false/\x7=true)∨(x2=true/\x4=true/\x5=true/\x7=true)
 |_,_,_,false=>(.inl rfl)
 |false,_,_,true=>(.inr (.inl ⟨rfl,rfl⟩))
 |true,false,_,true=>(.inr (.inr (.inl ⟨rfl,rfl,rfl⟩)))
 |true,true,false,true=>(Zi (.inl ⟨rfl,rfl,rfl,rfl⟩))
 |true,true,true,true=>(Zi (.inr ⟨rfl,rfl,rfl,rfl⟩))
theorem jZ:∀x1 x4 x6:Bool,(x1=false)∨(x1=true/\x4=false)∨(x1=true/\x4=true/\x6=false)∨(x1=true/\x4=true/\x6=true)
 |false,_,_=>(.inl rfl)
 |true,false,_=>(.inr (.inl ⟨rfl,rfl⟩))
 |true,true,false=>(.inr (.inr (.inl ⟨rfl,rfl,rfl⟩)))
 |true,true,true=>(.inr (.inr (.inr ⟨rfl,rfl,rfl⟩)))
theorem kM{B:Nat}{V:PV}{p:IProg}(hp:ProgIn w B V p)(hB:B<=w.heap.size)(hC:L w C (rC V p++tl).toArray 173)(hl:p.args.length=p.funcs.length)(o:IOp)(ho:qN o)(ar:Option Addr)(i:Nat)(b5:o.args.length<=i/\i<=9223372036854775807)(j:o.code=26):
 A 138 #[Q C,opV o (.slice ar o.args.length i)] w (ym w (opF p o)):=by
 unfold opV;obtain⟨_,b2,b7,b6,b3⟩:=ho;have b4:o.args.length<=9223372036854775807:=Zo;obtain⟨Vf,Va,Vd,Vb⟩:=V;obtain⟨f1,f2,e1,a6,a5⟩:=hp.funcs.form;have m:=hp.args;obtain⟨a1,a2,e2,b1,b0⟩:=hp.args.form;obtain⟨d1,d2,e3,a8,a7⟩:=hp.data.form;simp only at e1 e2 e3 m;subst e1 e2 e3;have b9:p.funcs.length<=9223372036854775807:=Zo;have c0:p.data.length<=9223372036854775807:=Zo;clear hp a6 a5 b1 b0 a8 a7;have c1:=lt_of_block hC;have hf:∀W,A 142 #[I 26] W fun e w'=>e=.returned (.tuple #[.agg #[.bool false,.bool false,.bool false,.bool false],.bool true])/\O W w':=fun W=>yu 26 W
 obtain⟨x0,h0⟩:∃q,decide (0<=o.a)=q:=⟨_,rfl⟩
 obtain⟨x1,h1⟩:∃q,decide (0<=o.res)=q:=⟨_,rfl⟩
 obtain⟨x2,h2⟩:∃q,decide (-1<=o.res)=q:=⟨_,rfl⟩
 obtain⟨x3,h3⟩:∃q,decide (o.a<(p.funcs.length:Int))=q:=⟨_,rfl⟩
 obtain⟨x4,h4⟩:∃q,decide (o.b=0)=q:=⟨_,rfl⟩
 obtain⟨x5,h5⟩:∃q,decide (o.n=0)=q:=⟨_,rfl⟩
 obtain⟨x6,h6⟩:∃q,decide (o.args.length=0)=q:=⟨_,rfl⟩
 obtain⟨x7,l⟩:∃q,decide ((o.args.length:Int)=p.args.getD o.a.toNat 0)=q:=⟨_,rfl⟩
 have e:opF p o=(x0 && x3 && x7 && x2 && x4 && x5):=by
  unfold opF;rw[j];rw[h0,h3,l,h2,h4,h5];rfl
 rw[j];obtain⟨R,hR⟩:∃R,opF p o=R:=⟨_,rfl⟩
 rw[hR];rw[e] at hR;have HR:=Ja hR;have HF:=Ja hf;have HC:=Ja hC;have t4:=x9 h4;have t5:((o.n:Int)==0)=x5:=x9 (zZ h5 Zo);have t6:((o.args.length:Int)==0)=x6:=x9 (zZ h6 Zo);clear e hR hf h4 h5 h6 hC
 cases x0 with
 |false=>
  skip
  all_goals go_enter Tryz.func138,Tryz.ntmps138
  all_goals go_wp2_with (first|(go_at_call 142;go_must (refine(HF.out _).mono ?_;rintro e w1 ⟨rfl,d⟩;have c:=zH d (zI rfl) Zs;have u0:∀ob,T (w1.alloc ob) w.heap.size 0 (I 26):=fun ob=>zA (zB c) Zs;have u1:∀ob,T (w1.alloc ob) w.heap.size 1 (I o.res):=fun ob=>zA (zB c) Zs;have u2:∀ob,T (w1.alloc ob) w.heap.size 2 (I o.a):=fun ob=>zA (zB c) Zs;have u3:∀ob,T (w1.alloc ob) w.heap.size 3 (I o.b):=fun ob=>zA (zB c) Zs;have u4:∀ob,T (w1.alloc ob) w.heap.size 4 (U (o.n:Int)):=fun ob=>zA (zB c) Zs;have u5:∀ob,T (w1.alloc ob) w.heap.size 5 (.slice ar o.args.length i):=fun ob=>zA (zB c) Zs;have g:=zH d (zB HC.out) Zt;have v0:∀ob,T (w1.alloc ob) C 0 (.slice f1 p.funcs.length f2):=fun ob=>zA (zB g) rfl;have v1:∀ob,T (w1.alloc ob) C 1 (.slice a1 p.args.length a2):=fun ob=>zA (zB g) rfl;have v4:∀ob,T (w1.alloc ob) C 4 (.slice d1 p.data.length d2):=fun ob=>zA (zB g) rfl;clear c g;have h:=Ja d;clear d))|go_in)
  all_goals go_quiet (fail)
  all_goals go_wp2
  all_goals go_ret
  all_goals exact⟨uz (HR.out.symm.trans rfl),yC ((((Below.refl _ _).alloc (Je _) _).trans (h.out.mono Zs)).alloc (by have y:=h.out.size;simp at y;omega) _)⟩
 |true=>
  obtain⟨k,hk⟩:∃k:Nat,o.a=(k:Int):=⟨o.a.toNat,by have:=of_decide_eq_true h0;omega⟩
  rw[hk] at h3 l ⊢;have t0:decide ((0:Int)<=(k:Int))=true:=decide_eq_true Zo;have t3:decide (k<p.funcs.length)=x3:=zZ h3 Zo
  cases x3 with
  |false=>
   clear l
   all_goals go_enter Tryz.func138,Tryz.ntmps138
   all_goals go_wp2_with (first|(go_at_call 142;go_must (refine(HF.out _).mono ?_;rintro e w1 ⟨rfl,d⟩;have c:=zH d (zI rfl) Zs;have u0:∀ob,T (w1.alloc ob) w.heap.size 0 (I 26):=fun ob=>zA (zB c) Zs;have u1:∀ob,T (w1.alloc ob) w.heap.size 1 (I o.res):=fun ob=>zA (zB c) Zs;have u2:∀ob,T (w1.alloc ob) w.heap.size 2 (I k):=fun ob=>zA (zB c) Zs;have u3:∀ob,T (w1.alloc ob) w.heap.size 3 (I o.b):=fun ob=>zA (zB c) Zs;have u4:∀ob,T (w1.alloc ob) w.heap.size 4 (U (o.n:Int)):=fun ob=>zA (zB c) Zs;have u5:∀ob,T (w1.alloc ob) w.heap.size 5 (.slice ar o.args.length i):=fun ob=>zA (zB c) Zs;have g:=zH d (zB HC.out) Zt;have v0:∀ob,T (w1.alloc ob) C 0 (.slice f1 p.funcs.length f2):=fun ob=>zA (zB g) rfl;have v1:∀ob,T (w1.alloc ob) C 1 (.slice a1 p.args.length a2):=fun ob=>zA (zB g) rfl;have v4:∀ob,T (w1.alloc ob) C 4 (.slice d1 p.data.length d2):=fun ob=>zA (zB g) rfl;clear c g;have h:=Ja d;clear d))|go_in)
   all_goals go_quiet (fail)
   all_goals go_wp2
   all_goals go_ret
   all_goals exact⟨uz (HR.out.symm.trans rfl),yC ((((Below.refl _ _).alloc (Je _) _).trans (h.out.mono Zs)).alloc (by have y:=h.out.size;simp at y;omega) _)⟩
  |true=>
   have a4:k<p.funcs.length:=of_decide_eq_true t3;obtain⟨x,hx⟩:∃x,p.args[k]? =some x:=⟨_,Jd Zo⟩
   obtain⟨ba,oa,rfl,a0,u,_⟩:=m.get hx;rw[Nk] at u;rw[Ni,Jj,hx,Ot] at l;have t7:=x9 l;have b8:(k:Int)<p.args.length:=Zo;have a3:=Ja (Jb (Jy a0 hB) u);clear l hx u a0 m a4;have a9:=lP x2 x4 x5 x7;rcases a9 with rfl|⟨rfl,rfl⟩|⟨rfl,rfl,rfl⟩|⟨rfl,rfl,rfl,rfl⟩|⟨rfl,rfl,rfl,rfl⟩
   all_goals go_enter Tryz.func138,Tryz.ntmps138
   all_goals go_wp2_with (first|(go_at_call 142;go_must (refine(HF.out _).mono ?_;rintro e w1 ⟨rfl,d⟩;have c:=zH d (zI rfl) Zs;have u0:∀ob,T (w1.alloc ob) w.heap.size 0 (I 26):=fun ob=>zA (zB c) Zs;have u1:∀ob,T (w1.alloc ob) w.heap.size 1 (I o.res):=fun ob=>zA (zB c) Zs;have u2:∀ob,T (w1.alloc ob) w.heap.size 2 (I k):=fun ob=>zA (zB c) Zs;have u3:∀ob,T (w1.alloc ob) w.heap.size 3 (I o.b):=fun ob=>zA (zB c) Zs;have u4:∀ob,T (w1.alloc ob) w.heap.size 4 (U (o.n:Int)):=fun ob=>zA (zB c) Zs;have u5:∀ob,T (w1.alloc ob) w.heap.size 5 (.slice ar o.args.length i):=fun ob=>zA (zB c) Zs;have g:=zH d (zB HC.out) Zt;have v0:∀ob,T (w1.alloc ob) C 0 (.slice f1 p.funcs.length f2):=fun ob=>zA (zB g) rfl;have v1:∀ob,T (w1.alloc ob) C 1 (.slice (some ⟨ba,oa,none⟩) p.args.length a2):=fun ob=>zA (zB g) rfl;have v4:∀ob,T (w1.alloc ob) C 4 (.slice d1 p.data.length d2):=fun ob=>zA (zB g) rfl;have t:=((Below.refl w.heap.size w).alloc (Je _) _).trans (d.mono Zs);have v9:∀ob,T (w1.alloc ob) ba (oa+k) (I x):=fun ob=>zV (t.alloc t.size ob) a3.out.1 a3.out.2;clear t;clear c g;have h:=Ja d;clear d))|go_in)
   all_goals go_quiet (fail)
   all_goals go_wp2
   all_goals go_ret
   all_goals exact⟨uz (HR.out.symm.trans rfl),yC ((((Below.refl _ _).alloc (Je _) _).trans (h.out.mono Zs)).alloc (by have y:=h.out.size;simp at y;omega) _)⟩
theorem jo{B:Nat}{V:PV}{p:IProg}(hp:ProgIn w B V p)(hB:B<=w.heap.size)(u:L w C (rC V p++tl).toArray 173)(hl:p.args.length=p.funcs.length)(o:IOp)(ho:qN o)(ar:Option Addr)(i:Nat)(b3:o.args.length<=i/\i<=9223372036854775807)(j:o.code=2):
 A 138 #[Q C,opV o (.slice ar o.args.length i)] w (ym w (opF p o)):=by
 unfold opV;obtain⟨_,b0,b5,b4,b1⟩:=ho;have b2:o.args.length<=9223372036854775807:=Zo;obtain⟨Vf,Va,Vd,Vb⟩:=V;obtain⟨f1,f2,e1,a4,a3⟩:=hp.funcs.form;have t:=hp.args;obtain⟨a1,a2,e2,a9,a8⟩:=hp.args.form;obtain⟨d1,d2,e3,a6,a5⟩:=hp.data.form;simp only at e1 e2 e3 t;subst e1 e2 e3;have b6:p.funcs.length<=9223372036854775807:=Zo;have b7:p.data.length<=9223372036854775807:=Zo;clear hp a4 a3 a9 a8 a6 a5;have b8:=lt_of_block u;have hf:∀W,A 142 #[I 2] W fun e w'=>e=.returned (.tuple #[.agg #[.bool true,.bool false,.bool false,.bool true],.bool true])/\O W w':=fun W=>yu 2 W
 obtain⟨x0,h0⟩:∃q,decide (0<=o.a)=q:=⟨_,rfl⟩
 obtain⟨x1,h1⟩:∃q,decide (0<=o.res)=q:=⟨_,rfl⟩
 obtain⟨x2,h2⟩:∃q,decide (-1<=o.res)=q:=⟨_,rfl⟩
 obtain⟨x3,h3⟩:∃q,decide (o.a<(p.data.length:Int))=q:=⟨_,rfl⟩
 obtain⟨x4,h4⟩:∃q,decide (o.b=0)=q:=⟨_,rfl⟩
 obtain⟨x5,h5⟩:∃q,decide (o.n=0)=q:=⟨_,rfl⟩
 obtain⟨x6,y⟩:∃q,decide (o.args.length=0)=q:=⟨_,rfl⟩
 obtain⟨x7,x⟩:∃q,decide ((o.args.length:Int)=p.args.getD o.a.toNat 0)=q:=⟨_,rfl⟩
 have e:opF p o=(x0 && x3 && x1 && x4 && x6):=by
  unfold opF;rw[j];rw[h0,h3,h1,h4,y];rfl
 rw[j];obtain⟨R,m⟩:∃R,opF p o=R:=⟨_,rfl⟩
 rw[m];rw[e] at m;have HR:=Ja m;have HF:=Ja hf;have HC:=Ja u;have t4:=x9 h4;have t5:((o.n:Int)==0)=x5:=x9 (zZ h5 Zo);have t6:((o.args.length:Int)==0)=x6:=x9 (zZ y Zo);clear e m hf h4 h5 y u
 cases x0 with
 |false=>
  skip
  all_goals go_enter Tryz.func138,Tryz.ntmps138
  all_goals go_wp2_with (first|(go_at_call 142;go_must (refine(HF.out _).mono ?_;rintro e w1 ⟨rfl,g⟩;have c:=zH g (zI rfl) Zs;have u0:∀ob,T (w1.alloc ob) w.heap.size 0 (I 2):=fun ob=>zA (zB c) Zs;have u1:∀ob,T (w1.alloc ob) w.heap.size 1 (I o.res):=fun ob=>zA (zB c) Zs;have u2:∀ob,T (w1.alloc ob) w.heap.size 2 (I o.a):=fun ob=>zA (zB c) Zs;have u3:∀ob,T (w1.alloc ob) w.heap.size 3 (I o.b):=fun ob=>zA (zB c) Zs;have u4:∀ob,T (w1.alloc ob) w.heap.size 4 (U (o.n:Int)):=fun ob=>zA (zB c) Zs;have u5:∀ob,T (w1.alloc ob) w.heap.size 5 (.slice ar o.args.length i):=fun ob=>zA (zB c) Zs;have d:=zH g (zB HC.out) Zt;have v0:∀ob,T (w1.alloc ob) C 0 (.slice f1 p.funcs.length f2):=fun ob=>zA (zB d) rfl;have v1:∀ob,T (w1.alloc ob) C 1 (.slice a1 p.args.length a2):=fun ob=>zA (zB d) rfl;have v4:∀ob,T (w1.alloc ob) C 4 (.slice d1 p.data.length d2):=fun ob=>zA (zB d) rfl;clear c d;have h:=Ja g;clear g))|go_in)
  all_goals go_quiet (fail)
  all_goals go_wp2
  all_goals go_ret
  all_goals exact⟨uz (HR.out.symm.trans rfl),yC ((((Below.refl _ _).alloc (Je _) _).trans (h.out.mono Zs)).alloc (by have l:=h.out.size;simp at l;omega) _)⟩
 |true=>
  obtain⟨k,hk⟩:∃k:Nat,o.a=(k:Int):=⟨o.a.toNat,by have:=of_decide_eq_true h0;omega⟩
  rw[hk] at h3 x ⊢;have t0:decide ((0:Int)<=(k:Int))=true:=decide_eq_true Zo;have t3:decide (k<p.data.length)=x3:=zZ h3 Zo
  cases x3 with
  |false=>
   clear x
   all_goals go_enter Tryz.func138,Tryz.ntmps138
   all_goals go_wp2_with (first|(go_at_call 142;go_must (refine(HF.out _).mono ?_;rintro e w1 ⟨rfl,g⟩;have c:=zH g (zI rfl) Zs;have u0:∀ob,T (w1.alloc ob) w.heap.size 0 (I 2):=fun ob=>zA (zB c) Zs;have u1:∀ob,T (w1.alloc ob) w.heap.size 1 (I o.res):=fun ob=>zA (zB c) Zs;have u2:∀ob,T (w1.alloc ob) w.heap.size 2 (I k):=fun ob=>zA (zB c) Zs;have u3:∀ob,T (w1.alloc ob) w.heap.size 3 (I o.b):=fun ob=>zA (zB c) Zs;have u4:∀ob,T (w1.alloc ob) w.heap.size 4 (U (o.n:Int)):=fun ob=>zA (zB c) Zs;have u5:∀ob,T (w1.alloc ob) w.heap.size 5 (.slice ar o.args.length i):=fun ob=>zA (zB c) Zs;have d:=zH g (zB HC.out) Zt;have v0:∀ob,T (w1.alloc ob) C 0 (.slice f1 p.funcs.length f2):=fun ob=>zA (zB d) rfl;have v1:∀ob,T (w1.alloc ob) C 1 (.slice a1 p.args.length a2):=fun ob=>zA (zB d) rfl;have v4:∀ob,T (w1.alloc ob) C 4 (.slice d1 p.data.length d2):=fun ob=>zA (zB d) rfl;clear c d;have h:=Ja g;clear g))|go_in)
   all_goals go_quiet (fail)
   all_goals go_wp2
   all_goals go_ret
   all_goals exact⟨uz (HR.out.symm.trans rfl),yC ((((Below.refl _ _).alloc (Je _) _).trans (h.out.mono Zs)).alloc (by have l:=h.out.size;simp at l;omega) _)⟩
  |true=>
   have a0:k<p.data.length:=of_decide_eq_true t3;clear x a0 t;have a7:=jZ x1 x4 x6;rcases a7 with rfl|⟨rfl,rfl⟩|⟨rfl,rfl,rfl⟩|⟨rfl,rfl,rfl⟩
   all_goals go_enter Tryz.func138,Tryz.ntmps138
   all_goals go_wp2_with (first|(go_at_call 142;go_must (refine(HF.out _).mono ?_;rintro e w1 ⟨rfl,g⟩;have c:=zH g (zI rfl) Zs;have u0:∀ob,T (w1.alloc ob) w.heap.size 0 (I 2):=fun ob=>zA (zB c) Zs;have u1:∀ob,T (w1.alloc ob) w.heap.size 1 (I o.res):=fun ob=>zA (zB c) Zs;have u2:∀ob,T (w1.alloc ob) w.heap.size 2 (I k):=fun ob=>zA (zB c) Zs;have u3:∀ob,T (w1.alloc ob) w.heap.size 3 (I o.b):=fun ob=>zA (zB c) Zs;have u4:∀ob,T (w1.alloc ob) w.heap.size 4 (U (o.n:Int)):=fun ob=>zA (zB c) Zs;have u5:∀ob,T (w1.alloc ob) w.heap.size 5 (.slice ar o.args.length i):=fun ob=>zA (zB c) Zs;have d:=zH g (zB HC.out) Zt;have v0:∀ob,T (w1.alloc ob) C 0 (.slice f1 p.funcs.length f2):=fun ob=>zA (zB d) rfl;have v1:∀ob,T (w1.alloc ob) C 1 (.slice a1 p.args.length a2):=fun ob=>zA (zB d) rfl;have v4:∀ob,T (w1.alloc ob) C 4 (.slice d1 p.data.length d2):=fun ob=>zA (zB d) rfl;clear c d;have h:=Ja g;clear g))|go_in)
   all_goals go_quiet (fail)
   all_goals go_wp2
   all_goals go_ret
   all_goals exact⟨uz (HR.out.symm.trans rfl),yC ((((Below.refl _ _).alloc (Je _) _).trans (h.out.mono Zs)).alloc (by have l:=h.out.size;simp at l;omega) _)⟩
structure ChkAt (w:World) (C m1 m2:Nat) (pv:List Value) (blv idv:Value) (n:Nat) (d:wO):Prop where
 blk:w.heap[C]? =some (.cells (pv++ [blv,.map (some m1),.map (some m2),idv]).toArray 173 (0,0))
 plen:pv.length=6
 map1:wA w m1 n d.1
 map2:wA w m2 n d.2
 ne:m1≠m2
 dom:∀x,(d.1 x).isSome=(d.2 x).isSome
structure Kept (m1 m2:Nat) (w w':World):Prop where
 os:w'.os=w.os
 tape:w'.tape=w.tape
 output:w'.output=w.output
 size:w.heap.size<=w'.heap.size
 block:∀k,k<w.heap.size->k≠m1->k≠m2->w'.heap[k]? =w.heap[k]?
theorem Kept.refl (m1 m2:Nat)(w:World):Kept m1 m2 w w:=⟨rfl,rfl,rfl,Je _,fun _ _ _ _=>rfl⟩
theorem Kept.trans{a b c:World}(h:Kept m1 m2 a b)(k:Kept m1 m2 b c):Kept m1 m2 a c:=
 ⟨k.os.trans h.os,k.tape.trans h.tape,k.output.trans h.output,Jn h.size k.size,fun i hi x1 x2=>(k.block i (Jy hi h.size) x1 x2).trans (h.block i hi x1 x2)⟩
theorem Kept.of(h:O w w'):Kept m1 m2 w w':=⟨h.os,h.tape,h.output,h.size,fun i hi _ _=>h.block i hi⟩
theorem Kept.below{B:Nat}(h:Kept m1 m2 w w')(h1:B<=m1)(h2:B<=m2)(hB:B<=w.heap.size):Below B w w':=
 ⟨h.os,h.tape,h.output,h.size,fun i hi=>h.block i Zo Zo Zo⟩
theorem Kept.blk{b:Nat}(h:Kept m1 m2 w w')(hb:w.heap[b]? =some o)(h1:b≠m1)(h2:b≠m2):w'.heap[b]? =some o:=(h.block b (lt_of_block hb) h1 h2).trans hb
theorem wA.lt{b n:Nat}{g:Int->Option Int}(h:wA w b n g):b<w.heap.size:=by
 obtain⟨es,ck,hb⟩:=h.blk;exact lt_of_block hb
theorem ChkAt.below{pv:List Value}{n:Nat}{d:wO}(h:ChkAt w C m1 m2 pv g c n d)(hb:O w w'):ChkAt w' C m1 m2 pv g c n d:=
 ⟨zH hb h.blk (lt_of_block h.blk),h.plen,h.map1.same (hb.block m1 h.map1.lt),h.map2.same (hb.block m2 h.map2.lt),h.ne,h.dom⟩
theorem ChkAt.ne1{pv:List Value}{n:Nat}{d:wO}(h:ChkAt w C m1 m2 pv g c n d):C≠m1/\C≠m2:=by
 obtain⟨j,l,h1⟩:=h.map1.blk;obtain⟨i,k,h2⟩:=h.map2.blk;have:=h.blk;exact⟨fun e=>(by rw[e,h1] at this;cases this),fun e=>(by rw[e,h2] at this;cases this)⟩
theorem oK{n:Nat}{pv:List Value}{q l:Value}{d:wO}(h:ChkAt w C m1 m2 pv q l n d)(v i k:Int)(hv:I64 v)(hi:I64 i)(hk:I64 k)(g:rB d v i k=none):
 A 137 #[Q C,I v,I i,I k] w fun e w'=>e=.returned (.bool false)/\w'=w:=by
 obtain⟨hb,hl,m,x,u,hd⟩:=h
 obtain⟨p0,p1,p2,p3,p4,p5,rfl⟩:∃a b c d e f,pv=[a,b,c,d,e,f]:=by
  match pv,hl with
  | [a,b,c,d,e,f],_=>exact⟨a,b,c,d,e,f,rfl⟩
 have o:=m.lookOk hv;have y:T w C 7 (.map (some m1)):=zA hb rfl;obtain⟨q0,h0⟩:∃b,(d.1 v).isSome=b:=⟨_,rfl⟩
 obtain⟨q1,h1⟩:∃b,decide (v<0)=b:=⟨_,rfl⟩
 obtain⟨q2,h2⟩:∃b,decide (65535<v)=b:=⟨_,rfl⟩
 rw[h0] at o
 have t:(q0||q1||q2)=true:=by
  unfold rB at g;rw[h0] at g
  split at g
  ·rename_i j
   rcases j with j|j|j
   ·rw[j];rfl
   ·rw[<-h1,decide_eq_true j];simp
   ·rw[<-h2,decide_eq_true j];simp
  ·cases g
 clear g hb;cases q0<;>cases q1<;>cases q2
 all_goals first|(cases t;done)|skip
 all_goals go_enter Tryz.func137,Tryz.ntmps137
 all_goals go_wp2
 all_goals go_ret
 all_goals exact⟨rfl,rfl⟩
structure ME where
 s:List Int
 args:List Int
 handler:Int
 me:Nat
 nf:Nat
structure MS where
 pos:Nat
 f:List IBlk
 cur:Nat
 next:Nat
 vals:List Int
 left:Int
def tkV (E:ME)(M:MS)(n:Nat):Nat:=(E.s.getD M.pos 0%(n:Int)).toNat
def MS.tick (M:MS):MS:= {M with pos:=M.pos+1 }
def wJ (next params:Nat):IBlk:=⟨(List.range params).map fun k=>((next+k:Nat):Int),[],⟨0,0,[]⟩⟩
def MS.block (M:MS)(params:Nat):MS:= {M with f:=M.f++ [wJ M.next params],next:=M.next+params }
def uc (c:Int):Bool:=(zi c).res||decide (c=26)
def wD {α:Type}(l:List α)(i:Nat)(g:α->α):List α:=match l[i]? with|some x=>l.set i (g x)|none=>l
def eg (M:MS)(o:IOp):IOp:= {o with res:=if uc o.code then(M.next:Int) else -1 }
def MS.emit (M:MS)(o:IOp):MS:=
 {M with f:=wD M.f M.cur fun b=> {b with ops:=b.ops++ [eg M o]},next:=if uc o.code then M.next+1 else M.next,vals:=if uc o.code then M.vals++ [(M.next:Int)] else M.vals }
def MS.endB (M:MS)(t:ITerm):MS:= {M with f:=wD M.f M.cur fun b=> {b with term:=t }}
def conOp (n:Nat):IOp:=⟨1,0,0,0,n,[]⟩
def MS.num (M:MS)(n:Nat):MS:=M.emit (conOp n)
def zJ (E:ME)(M:MS):Int×MS:=
 if M.vals.length=0 then((M.next:Int),M.tick.num (tkV E M 9))
 else if 0<tkV E M.tick 3 then(M.vals.getD (M.vals.length-1-tkV E M.tick.tick (min 4 M.vals.length)) 0,M.tick.tick.tick)
 else(M.vals.getD (tkV E M M.vals.length) 0,M.tick.tick)
def sE (k:Nat):Nat:=if k=0 then 15 else 6
def yJ (E:ME)(M:MS):Int×MS:=
 if tkV E M 24=23 then zJ E M.tick
 else((M.next:Int),M.tick.tick.tick.emit ⟨2,0,(tkV E M.tick 2:Nat),0,tkV E M.tick.tick (sE (tkV E M.tick 2)),[]⟩)
def yI (E:ME):Nat->MS->List Int×MS
 |0,M=>([],M)
 |n+1,M=>((yI E n M).1++ [(zJ E (yI E n M).2).1],(zJ E (yI E n M).2).2)
def vN (E:ME)(M:MS):MS:=
 if E.nf<=E.me+1 then M
 else
  let f:=E.me+1+tkV E M (E.nf-E.me-1)
  if(f:Int)=E.handler then M.tick
  else(yI E (E.args.getD f 0).toNat M.tick).2.emit ⟨26,0,(f:Nat),0,0,(yI E (E.args.getD f 0).toNat M.tick).1⟩
def yR (E:ME)(M:MS):MS:=
 let a:=zJ E M
 let b:=zJ E a.2
 let c:Nat:=5+tkV E b.2 13
 let M3:=b.2.tick
 if c=8 then
  (if 0<tkV E M3 8 then
    ((M3.tick.num 1).emit ⟨10,0,b.1,(M3.next:Nat),0,[]⟩).emit ⟨8,0,a.1,((M3.next+1:Nat):Int),0,[]⟩
  else M3.tick.emit ⟨8,0,a.1,b.1,0,[]⟩)
 else M3.emit ⟨(c:Nat),0,a.1,b.1,0,[]⟩
def xK (E:ME)(M0:MS):MS:=
 let k:=tkV E M0 14
 let M:=M0.tick
 if k=0 then M.tick.num (tkV E M 65536)
 else if k=1 then(zJ E M.tick).2.emit ⟨3+tkV E M 2,0,(zJ E M.tick).1,0,0,[]⟩
 else if k=2∨k=3 then(yJ E M).2.tick.emit ⟨18+tkV E (yJ E M).2 2,0,(yJ E M).1,0,0,[]⟩
 else if k=4∨k=5 then
  let b:=zJ E (yJ E M).2
  b.2.tick.emit ⟨20+tkV E b.2 2,0,(yJ E M).1,b.1,0,[]⟩
 else if k=6 then M.tick.emit ⟨24,0,0,0,1+tkV E M 3,[]⟩
 else if k=7 then(zJ E M).2.tick.emit ⟨25,0,(zJ E M).1,0,1+tkV E (zJ E M).2 3,[]⟩
 else if k=8 then(M.tick.num (tkV E M 4096)).tick.emit ⟨22+tkV E (M.tick.num (tkV E M 4096)) 2,0,(M.next:Nat),0,0,[]⟩
 else if k=9 then vN E M
 else if k=10 then(if tkV E M 3=0 then M.tick.emit ⟨27,0,0,0,0,[]⟩ else M.tick)
 else yR E M
def qY (E:ME):Nat->MS->MS
 |0,M=>M
 |n+1,M=>qY E n (xK E M)
def xE:Nat->MS->MS
 |0,M=>M
 |n+1,M=>(xE n M).block 0
def uV (E:ME)(part:MS->MS)(tg:Nat)(join keep:Nat):Nat->Nat->MS->MS
 |0,_,M=>M
 |n+1,k,M0=>
  let M1:=part {M0 with cur:=tg+k }
  let v:=zJ E M1.tick
  let M3:=if tkV E M1 12=11/\0<k then v.2.endB ⟨4,v.1,[]⟩ else v.2.endB ⟨1,0,[⟨(join:Nat),[v.1]⟩]⟩
  uV E part tg join keep n (k+1) {M3 with vals:=M3.vals.take keep }
def xk (tg n:Nat):List IEdge:=(List.range n).map fun k=>⟨((tg+k:Nat):Int),[]⟩
def xi (E:ME)(part:MS->MS)(n:Nat)(M:MS):MS:=
 let c:=zJ E M
 let tg:=c.2.f.length
 let M2:=(xE n c.2).block 1
 let join:=tg+n
 let M3:=M2.endB ⟨if 2<n then 3 else 2,c.1,xk tg n⟩
 let M4:=uV E part tg join M3.vals.length n 0 M3
 {M4 with cur:=join,vals:=M4.vals++ [(((M4.f.getD join ⟨[],[],⟨0,0,[]⟩⟩).params).getD 0 0)]}
def tH (E:ME)(part:MS->MS)(M:MS):MS:=
 let n:=(M.next:Int)
 let x:=zJ E (M.tick.num (tkV E M 5))
 let head:=x.2.f.length
 let i:Int:=(x.2.next:Nat)
 let j:Int:=((x.2.next+1:Nat):Int)
 let M2:=(((x.2.block 2).block 0).block 0).endB ⟨1,0,[⟨(head:Nat),[n,x.1]⟩]⟩
 let M3:=({M2 with cur:=head,vals:=M2.vals++ [j]}:MS).endB ⟨2,i,[⟨((head+1:Nat):Int),[]⟩,⟨((head+2:Nat):Int),[]⟩]⟩
 let M4:=part {M3 with cur:=head+1 }
 let M5:=(M4.num 1).emit ⟨6,0,i,(M4.next:Nat),0,[]⟩
 let y:=zJ E M5
 let M6:=y.2.endB ⟨1,0,[⟨(head:Nat),[((M4.next+1:Nat):Int),y.1]⟩]⟩
 {M6 with vals:=M6.vals.take M3.vals.length,cur:=head+2 }
def tR (E:ME)(M:MS):MS:=
 let M1:=qY E (tkV E M 5+1) M.tick
 {M1 with left:=M1.left-1 }
def zp (E:ME):Nat->MS->MS
 |0,M=>tR E M
 |d+1,M=>
  let M2:=tR E M
  if M2.left<1 then M2
  else
   let k:=tkV E M2 5
   if k=1∨k=2 then xi E (zp E d) 2 M2.tick
   else if k=3 then tH E (zp E d) M2.tick
   else if k=4 then xi E (zp E d) (2+tkV E M2.tick 3) M2.tick.tick
   else M2.tick
def xD (E:ME)(pos:Nat):MS:=
 let M0:MS:=⟨pos,[],0,0,[],6⟩
 let M1:MS:=({M0.tick with next:=tkV E M0 3*10 }:MS).block (E.args.getD E.me 0).toNat
 {M1 with vals:=(wJ (tkV E M0 3*10) (E.args.getD E.me 0).toNat).params }
def xR (E:ME)(pos:Nat):MS:=
 let M1:=zp E 1 (zp E 2 (xD E pos))
 let k:=tkV E M1 10
 if k=0 then M1.tick.endB ⟨5,0,[]⟩
 else if k=1 then M1.tick.endB ⟨4,-1,[]⟩
 else(zJ E M1.tick).2.endB ⟨4,(zJ E M1.tick).1,[]⟩
def tk0 (s:List Int)(pos n:Nat):Nat:=(s.getD pos 0%(n:Int)).toNat
def mdN (s:List Int):Nat:=1+tk0 s 0 4
def yS (s:List Int):Nat->List Int
 |0=> []
 |n+1=>yS s n++ [if n=0 then 0 else((tk0 s n 4:Nat):Int)]
def oJ (s:List Int):Bool:=decide (1<mdN s) && decide ((yS s (mdN s)).getD (mdN s-1) 0=0)
def vw (s:List Int):Int:=if oJ s=true/\tk0 s (mdN s) 2=0 then((mdN s-1:Nat):Int) else -1
def sP (s:List Int):Nat:=if oJ s then mdN s+1 else mdN s
def xC (s:List Int)(k:Nat):ME:=⟨s,yS s (mdN s),vw s,k,mdN s⟩
def zg (s:List Int):Nat->List (List IBlk)×Nat
 |0=>([],sP s)
 |n+1=>((zg s n).1++ [(xR (xC s n) (zg s n).2).f],(xR (xC s n) (zg s n).2).pos)
def qV (s:List Int):Bool:=decide (2<mdN s) && (decide (vw s<0) && decide (tk0 s (zg s (mdN s)).2 12=11))
def sG:ByteArray:=⟨((List.range 4096).map fun k=>UInt8.ofNat (k*k+k/256)).toArray⟩
def am:List IObj:=[⟨-1,16384,16⟩,⟨-1,16640,7⟩,⟨0,128,32⟩]
def uR (s:List Int):IProg:=
 ⟨if qV s then(zg s (mdN s)).1.set (mdN s-1) [] else(zg s (mdN s)).1,yS s (mdN s),0,vw s,am,[sG]⟩
def opsN (l:List IBlk):Nat:=(l.map fun b=>b.ops.length).sum
def MS.sz (M:MS):Nat:=M.pos+M.next+M.f.length+M.vals.length+opsN M.f
variable {M M1:MS}
theorem xZ {α:Type}(l:List α)(i:Nat)(g:α->α):(wD l i g).length=l.length:=by unfold wD;split<;>simp
theorem xI{α:Type}{l:List α}{x:α}(h:l[i]? =some x)(g:α->α):wD l i g=l.set i (g x):=by unfold wD;rw[h]
def xU (l m:List IBlk):Prop:=∀(i:Nat) (b:IBlk),l[i]? =some b->∃b',m[i]? =some b'/\b'.params=b.params
theorem xU.refl (l:List IBlk):xU l l:=fun _ b h=>⟨b,h,rfl⟩
theorem xU.trans{m n:List IBlk}(h:xU l m)(k:xU m n):xU l n:=fun i b hb=>by
 obtain⟨b1,h1,h2⟩:=h i b hb;obtain⟨b2,h3,c⟩:=k i b1 h1;exact⟨b2,h3,c.trans h2⟩
theorem qB (l:List IBlk)(c:Nat)(g:IBlk->IBlk)(hg:∀b,(g b).params=b.params):xU l (wD l c g):=fun i b hb=>by
 cases h:l[c]? with
 |none=>unfold wD;rw[h];exact⟨b,hb,rfl⟩
 |some x=>
  rw[xI h,Ov]
  by_cases e:c=i
  ·subst e;rw[h] at hb;cases hb;rw[if_pos rfl,if_pos (Jh.1 h).1];exact⟨_,rfl,hg b⟩
  ·rw[if_neg e];exact⟨b,hb,rfl⟩
theorem qX (l m:List IBlk):xU l (l++m):=fun i b hb=>⟨b,by rw[Np (Jh.1 hb).1];exact hb,rfl⟩
theorem ry (l m:List IBlk):opsN (l++m)=opsN l+opsN m:=by unfold opsN;rw[Js,List.sum_append]
theorem sN:∀(l:List IBlk) (i:Nat) (b c:IBlk),l[i]? =some b->opsN (l.set i c)+b.ops.length=opsN l+c.ops.length
 | [],i,b,c,h=>by simp at h
 |x::l,0,b,c,h=>by
  cases h
  show((c::l).map _).sum+_=((x::l).map _).sum+_
  rw[Ql,Ql,List.sum_cons,List.sum_cons]
  omega
 |x::l,i+1,b,c,h=>by
  have:=sN l i b c (by simpa using h)
  show((x::l.set i c).map _).sum+_=((x::l).map _).sum+_
  unfold opsN at this;rw[Ql,Ql,List.sum_cons,List.sum_cons];omega
theorem opsN_le{b:IBlk}(h:l[i]? =some b):b.ops.length<=opsN l:=by
 have:=sN l i b ⟨[],[],⟨0,0,[]⟩⟩ h;simp at this;omega
theorem pG (l:List IBlk)(i:Nat)(g:IBlk->IBlk)(c:Nat)(hg:∀b,(g b).ops.length<=b.ops.length+c):opsN (wD l i g)<=opsN l+c:=by
 cases h:l[i]? with
 |none=>unfold wD;rw[h];exact Nat.le_add_right _ _
 |some b=>
  rw[xI h];have:=sN l i b (g b) h;have:=hg b;omega
structure Grow (c:Nat) (M M':MS):Prop where
 left:M'.left=M.left
 pos:M.pos<=M'.pos
 sz:M'.sz<=M.sz+c
 cur:M'.cur=M.cur
 len:M'.f.length=M.f.length
 nxt:M.next<=M'.next
 pre:M.vals<+:M'.vals
 par:xU M.f M'.f
theorem Grow.refl (M:MS):Grow 0 M M:=⟨rfl,Je _,Je _,rfl,rfl,Je _,Od,xU.refl _⟩
theorem Grow.trans{c:Nat}{M2:MS}(h:Grow c M M1)(k:Grow d M1 M2):Grow (c+d) M M2:=⟨k.left.trans h.left,Jn h.pos k.pos,by have:=h.sz;have:=k.sz;omega,k.cur.trans h.cur,k.len.trans h.len,Jn h.nxt k.nxt,h.pre.trans k.pre,h.par.trans k.par⟩
theorem Grow.mono{c:Nat}(h:Grow c M M1)(g:c<=d):Grow d M M1:=⟨h.left,h.pos,by have:=h.sz;omega,h.cur,h.len,h.nxt,h.pre,h.par⟩
theorem zT (M:MS):Grow 1 M M.tick:=⟨rfl,Nat.le_succ _,by unfold MS.sz MS.tick;simp only;omega,rfl,rfl,Je _,Od,xU.refl _⟩
theorem yB (M:MS)(o:IOp):Grow 3 M (M.emit o):=by
 have h:=pG M.f M.cur (fun b=> {b with ops:=b.ops++ [eg M o]}) 1 (fun b=>by simp);refine⟨rfl,Je _,?_,rfl,xZ _ _ _,?_,?_,qB _ _ _ (fun _=>rfl)⟩
 ·unfold MS.sz MS.emit;simp only[xZ]
  split
  ·simp only[Jk,Ju];omega
  ·omega
 ·unfold MS.emit;simp only;split<;>omega
 ·unfold MS.emit;simp only;split
  ·exact Qb _ _
  ·exact Od
theorem wT (M:MS)(n:Nat):Grow 3 M (M.num n):=yB _ _
theorem zv (M:MS)(t:ITerm):Grow 0 M (M.endB t):=by
 have h:=pG M.f M.cur (fun b=> {b with term:=t }) 0 (fun b=>Je _);refine⟨rfl,Je _,?_,rfl,xZ _ _ _,Je _,Od,qB _ _ _ (fun _=>rfl)⟩;unfold MS.sz MS.endB;simp only[xZ];omega
theorem yU (E:ME)(M:MS):Grow 4 M (zJ E M).2:=by
 unfold zJ
 split
 ·exact(zT M).trans (wT _ _)
 split
 ·exact(((zT M).trans (zT _)).trans (zT _)).mono Zo
 ·exact((zT M).trans (zT _)).mono Zo
theorem ue (E:ME)(M:MS):Grow 6 M (yJ E M).2:=by
 unfold yJ
 split
 ·exact((zT M).trans (yU E _)).mono Zo
 ·exact(((zT M).trans (zT _)).trans (zT _)).trans (yB _ _)
theorem tj (E:ME):∀(n:Nat) (M:MS),Grow (4*n) M (yI E n M).2
 |0,M=>Grow.refl M
 |n+1,M=>((tj E n M).trans (yU E _)).mono Zo
theorem sI (E:ME)(d:∀x∈E.args,0<=x/\x<4)(M:MS):Grow 16 M (vN E M):=by
 unfold vN
 split
 ·exact(Grow.refl M).mono Zo
 simp only
 split
 ·exact(zT M).mono Zo
 ·have h:∀f,(E.args.getD f 0).toNat<=3:=fun f=>by
   rw[Jj]
   cases c:E.args[f]? with
   |none=>simp
   |some x=>have:=d x (Ji c);simp only[Ot];omega
  have:=h (E.me+1+tkV E M (E.nf-E.me-1));exact(((zT M).trans (tj E _ _)).trans (yB _ _)).mono Zo
theorem kJ (E:ME)(M:MS):Grow 19 M (yR E M):=by
 unfold yR;simp only;have h:=((yU E M).trans (yU E _)).trans (zT _)
 split
 ·split
  ·exact((((h.trans (zT _)).trans (wT _ _)).trans (yB _ _)).trans (yB _ _)).mono Zo
  ·exact((h.trans (zT _)).trans (yB _ _)).mono Zo
 ·exact(h.trans (yB _ _)).mono Zo
theorem pX (E:ME)(c:∀x∈E.args,0<=x/\x<4)(M:MS):Grow 20 M (xK E M):=by
 unfold xK;simp only;have h:=zT M
 split
 ·exact((h.trans (zT _)).trans (wT _ _)).mono Zo
 split
 ·exact(((h.trans (zT _)).trans (yU E _)).trans (yB _ _)).mono Zo
 split
 ·exact(((h.trans (ue E _)).trans (zT _)).trans (yB _ _)).mono Zo
 split
 ·exact((((h.trans (ue E _)).trans (yU E _)).trans (zT _)).trans (yB _ _)).mono Zo
 split
 ·exact((h.trans (zT _)).trans (yB _ _)).mono Zo
 split
 ·exact(((h.trans (yU E _)).trans (zT _)).trans (yB _ _)).mono Zo
 split
 ·exact((((h.trans (zT _)).trans (wT _ _)).trans (zT _)).trans (yB _ _)).mono Zo
 split
 ·exact(h.trans (sI E c _)).mono Zo
 split
 ·split
  ·exact((h.trans (zT _)).trans (yB _ _)).mono Zo
  ·exact(h.trans (zT _)).mono Zo
 ·exact(h.trans (kJ E _)).mono Zo
theorem pw (E:ME)(hE:∀x∈E.args,0<=x/\x<4):∀(n:Nat) (M:MS),Grow (20*n) M (qY E n M)
 |0,M=>Grow.refl M
 |n+1,M=>((pX E hE M).trans (pw E hE n _)).mono Zo
theorem aaE (E:ME)(M:MS){n:Nat}(c:0<n):tkV E M n<n:=by
 unfold tkV;have h1:=Ob (E.s.getD M.pos 0) (show(n:Int)≠0 by omega);have h2:=Int.emod_lt_of_pos (E.s.getD M.pos 0) (show(0:Int)<n by omega);omega
theorem bT (n p:Nat):opsN [wJ n p]=0:=rfl
theorem sz_block (M:MS)(p:Nat):(M.block p).sz=M.sz+1+p:=by
 unfold MS.sz MS.block;simp only[Jk,Ju,ry,bT];omega
end Go.Proofs.YtoahcpkibpomcaaGreat
