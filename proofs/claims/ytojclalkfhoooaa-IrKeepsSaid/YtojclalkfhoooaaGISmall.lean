/- Part of a proof. -/
import Derived.Test.YtojclalkfhoooaaIGraph
import Derived.Test.YtojclalkfhoooaaIOper2
set_option linter.all false
set_option maxHeartbeats 8000000
set_option maxRecDepth 100000
namespace Go.Proofs.Ytojclalkfhoooaa
open Go.RowKit
variable {w:World}{C j k m m1 m2 n':Nat}{l:List IOp}{i:Int}{g:List (List Nat)}{c:Value}{d d1:wO}{bl blocks:List IBlk}{o:IOp}
theorem ju{p:IProg}(o:IOp)(ho:qN o)(ar:Option Addr)(g:Nat)(hs:zi o.code=⟨false,false,false,false,false⟩):
 G 98 #[I C,opV o (.slice ar o.args.length g)] w (ym w (opF p o)):=by
 unfold opV;obtain⟨j,h,l,k,i⟩:=ho;have e:opF p o=false:=by unfold opF;rw[hs];rfl
 rw[e];have hf:∀W,G 105 #[O o.code] W fun e w'=>e=.returned (.tuple #[.agg #[.bool false,.bool false,.bool false,.bool false],.bool false])/\L W w':=fun W=>by have:=yu o.code W;rw[hs] at this;exact this
 have q:=Ja hf;clear hf hs e;go_enter Try.func98,Try.ntmps98;go_wp2_with (first|(go_at_call 105;go_must (refine(q.out _).mono ?_;rintro e w1 ⟨rfl,c⟩;have d:=Ja c;clear c))|go_in)
 go_ret;exact⟨rfl,(((Below.refl _ _).alloc (Je _) _).trans (d.out.mono Zs)).alloc (by have m:=d.out.size;simp at m;omega) _⟩
theorem oper_any{B:Nat}{V:PV}{tl:List Value}{p:IProg}(hp:ProgIn w B V p)(hB:B<=w.heap.size)(k:Y w C (rC V p++tl).toArray 128)(hl:p.args.length=p.funcs.length)(o:IOp)(ho:qN o)(ar:Option Addr)(c:Nat)(d:o.args.length<=c/\c<=9223372036854775807):
 G 98 #[I C,opV o (.slice ar o.args.length c)] w (ym w (opF p o)):=by
 by_cases i:o.code=26
 ·exact kM hp hB k hl o ho ar c d i
 by_cases h2:o.code=2
 ·exact jo hp hB k hl o ho ar c d h2
 by_cases j:o.code=24
 ·exact oper_in (pvs:=[]) o ho ar c d j
 by_cases g:o.code=25
 ·exact oper_out (pvs:=[]) o ho ar c d g
 rcases rJ o.code with⟨h,e⟩|⟨h,e⟩|⟨h,e⟩|⟨h,e⟩|⟨h,e⟩|⟨h,e⟩|⟨h,e⟩|⟨h,e⟩
 ·exact kG (pvs:=[]) o ho ar c d e i h2 j g
 ·exact oper_una (pvs:=[]) o ho ar c d e i h2 j g
 ·exact oper_bin (pvs:=[]) o ho ar c d e i h2 j g
 ·exact oper_sto (pvs:=[]) o ho ar c d e i h2 j g
 ·exact oper_rom (pvs:=[]) o ho ar c d e i h2 j g
 ·exact absurd h g
 ·exact kY (pvs:=[]) o ho ar c d e i h2 j g
 ·exact ju o ho ar c e
theorem vd{P:Program}{ops:Array Oper}{Q:Act->Prop}:∀ {rest:List Oper} {a:Act},wpQuiet P ops (fun w'=>w'=w) Q rest a->wpStill P ops w Q rest a
 | [],a,h=>h
 |o::rest,a,h=>by
  unfold wpQuiet at h;unfold wpStill
  split at h
  ·rename_i hw
   rw[if_pos hw];obtain⟨v,h1,h2⟩:=h;have h3:=h1 w rfl;have c:=vd h2;unfold Oper.quietAt at h3;unfold Oper.still;generalize (execOp a.eval o).run P w=r at *
   cases r with
   |ok n w'=>
    cases n<;>simp only[Oper.quietUpon] at h3<;>simp only[Oper.stillUpon]
    case value u=>obtain⟨e1,rfl⟩:=h3;exact⟨e1,c⟩
    case skip=>obtain⟨e1,rfl⟩:=h3;exact⟨e1,c⟩
    case enter f args=>exact⟨h3.1,v,h3.2,c⟩
   |halt x w'=>simp only[Oper.quietUpon] at h3
  ·rename_i hw
   rw[if_neg hw];exact vd h
theorem zt{P:Program}{id:Nat}{Q:Exit->Act->World->Prop}{a:Act}{l:List Oper}(n:Nat)(hm:P.follows .mixedOrders=true)(hB:Region.lexTailB .any l.toArray n=true)
 (h:wpQuiet P l.toArray (fun w'=>w'=w.drew) (fun a'=>wpList P l.toArray Q (l.drop n) a' w.drew) (l.take n) a):(Code.region id l.toArray true).wp P Q a w:=
 wp_region_still_tail n hm hB (vd h)
theorem cnt_lt{i:Nat}(hi:i<=2000000)(c:j<=2000000):i*4000000+j<9000000000000000000:=by omega
theorem cnt_lt2{i:Nat}(hi:i<=2000000)(c:j<=2000000):i*4000000+2000000+j<9000000000000000000:=by omega
theorem cnt_0 (i:Nat):i*4000000<=i*4000000+0:=by omega
theorem cnt_1 (i j:Nat):i*4000000+j+1<=i*4000000+(j+1):=by omega
theorem cnt_2{i:Nat}(h:j<=2000000):i*4000000+j<=i*4000000+2000000+0:=by omega
theorem cnt_3 (i j:Nat):i*4000000+2000000+j+1<=i*4000000+2000000+(j+1):=by omega
theorem cnt_3' (i j:Nat):i*4000000+2000000+j<=i*4000000+2000000+(j+1):=by omega
theorem cnt_4{i:Nat}(h:j<=2000000):i*4000000+2000000+j<=(i+1)*4000000:=by omega
theorem wA.le{b n:Nat}{g:Int->Option Int}(h:wA w b n g)(d:n<=n'):wA w b n' g:=by
 obtain⟨D,⟨es,c,k1,k2,k3,k4⟩,k5⟩:=h;exact⟨D,⟨es,c,k1,k2,Jn k3 d,k4⟩,k5⟩
theorem ChkAt.le{pv:List Value}{g:Value}{n:Nat}(h:ChkAt w C m1 m2 pv g c n d)(i:n<=n'):ChkAt w C m1 m2 pv g c n' d:=
 ⟨h.blk,h.plen,h.map1.le i,h.map2.le i,h.ne,h.dom⟩
theorem qL {n:Nat}(h:n<=9000000):I64 (n:Int):=⟨by omega,by omega⟩
theorem blkF_eq{p:IProg}{b:IBlk}{d2:wO}(h1:vJ i b.params d=some d1)(h2:sS p i b.ops 0 d1=some d2):pS p bl i b d=if wn bl b.term then some d2 else none:=by
 unfold pS;rw[h1,Nw,h2,Nw]
theorem mS{p:IProg}{b:IBlk}(h1:vJ i b.params d=none):pS p bl i b d=none:=by
 unfold pS;rw[h1];rfl
theorem mm{p:IProg}{b:IBlk}(h1:vJ i b.params d=some d1)(h2:sS p i b.ops 0 d1=none):pS p bl i b d=none:=by
 unfold pS;rw[h1,Nw,h2];rfl
theorem lM{B:Nat}{V:PV}{p:IProg}{g1 d3:Value}(hp:ProgIn w B V p)(g0:wX w B g1 blocks)(hB:B<=w.heap.size)(h1:B<=m1)(h2:B<=m2)(hl:p.args.length=p.funcs.length)(hs:vZ blocks)
 (hc:ChkAt w C m1 m2 (rC V p) g1 d3 0 sy):
 G 66 #[I C] w (ShpPost w C m1 m2 (rC V p) g1 d3 (wg p blocks)):=by
 obtain⟨fa,fc,rfl,l4,l3⟩:=g0.form;have n5:blocks.length<=9223372036854775807:=Zo;have k2:=Ja g0;have m:=Ja (show ProgIn w B V p/\B<=w.heap.size/\B<=m1/\B<=m2/\p.args.length=p.funcs.length/\vZ blocks from⟨hp,hB,h1,h2,hl,hs⟩);have n6:=Ja hc.ne1;have n7:=Ja (Jb hc.map1.lt hc.map2.lt);have m4:=Ja hc;obtain⟨res,e5⟩:∃x,wg p blocks=x:=⟨_,rfl⟩
 rw[e5];have t:=Ja e5;have y6:T w C 6 (.slice fa blocks.length fc):=zA hc.blk rfl;clear hp g0 hB h1 h2 hl hs hc e5 l4 l3;go_enter Try.func66,Try.ntmps66;go_wp2
 go_loopw [15] (fun kv wx=>∃i:Nat,i<=blocks.length/\kv=O i/\Hid (Kept m1 m2 w wx/\∃d,ChkAt wx C m1 m2 (rC V p) (.slice fa blocks.length fc) d3 (i*4000000) d/\uH p blocks (blocks.take i) 0 sy=some d)) (fun kv _=>blocks.length-(intOf kv).toNat)
 case atStart=>exact⟨0,Jt _,rfl,Ja ⟨Kept.refl _ _ _,sy,m4.out,rfl⟩⟩
 case round=>
  obtain⟨i,hi,rfl,HI⟩:=hrel
  by_cases e8:i<blocks.length
  ·have k4:(i:Int)<blocks.length:=Zo;have k1:=Ja e8;obtain⟨bx,b2⟩:∃bx,blocks[i]? =some bx:=⟨_,Jd e8⟩
   obtain⟨fb,fo,rfl,d4,j0,a6,f8,pv,ov,tv,i2,i1,i0,f4,f6,f3⟩:=k2.out.get b2;obtain⟨pa,pc,rfl,l0,k9⟩:=f4.form;obtain⟨oa,oc,rfl,l2,l1⟩:=f6.form;obtain⟨ta,tc,rfl,k7,k6⟩:=f3.form;have n3:bx.params.length<=9223372036854775807:=Zo;have n4:bx.ops.length<=9223372036854775807:=Zo;have g:Below B w wr:=HI.out.1.below m.out.2.2.1 m.out.2.2.2.1 m.out.2.1;have e0:=zV g d4 i2;have e1:=zV g d4 i1;have e2:=zV g d4 j0;have e3:=zV g d4 a6;have e4:=zV g d4 i0;have u:=Ja (show blocks[i]? =some bx/\zY w B (.slice pa bx.params.length pc) bx.params/\mN w B (.slice oa bx.ops.length oc) bx.ops/\wH w B (.slice ta bx.term.to.length tc) bx.term.to/\(I64 bx.term.kind/\I64 bx.term.a) from⟨b2,f4,f6,f3,f8⟩);obtain⟨d,h,c⟩:=HI.out.2;have j1:=h.below ((Below.refl wr.heap.size wr).alloc (Je _) (A #[.slice pa bx.params.length pc,.slice oa bx.ops.length oc,O bx.term.kind,O bx.term.a,.slice ta bx.term.to.length tc] 49));have k0:=Ja (Jb h.map1.lt h.map2.lt);have a1:=Ja c;have f2:=zI (W:=wr) (o:=A #[.slice pa bx.params.length pc,.slice oa bx.ops.length oc,O bx.term.kind,O bx.term.a,.slice ta bx.term.to.length tc] 49) rfl;have i8:=HI.out.1.trans (Kept.of ((Below.refl wr.heap.size wr).alloc (Je _) (A #[.slice pa bx.params.length pc,.slice oa bx.ops.length oc,O bx.term.kind,O bx.term.a,.slice ta bx.term.to.length tc] 49)));clear b2 j0 a6 f8 i2 i1 i0 f4 f6 f3 l0 k9 l2 l1 k7 k6 g h c e8 y6;go_upto_region 4 with fail;generalize l8:wr.alloc (A #[.slice pa bx.params.length pc,.slice oa bx.ops.length oc,O bx.term.kind,O bx.term.a,.slice ta bx.term.to.length tc] 49)=W1 at *;generalize l:wr.heap.size=b4 at *;have z0:=K0 f2;have d5:=Ja (show Y W1 b4 #[.slice pa bx.params.length pc,.slice oa bx.ops.length oc,O bx.term.kind,O bx.term.a,.slice ta bx.term.to.length tc] 49/\b4≠m1/\b4≠m2 from⟨f2,by have:=k0.out.1;omega,by have:=k0.out.2;omega⟩);have g5:=Ja i8;have m3:=Ja j1;have d6:=Ja (m.out.2.2.2.2.2.2 bx (Ji u.out.1));have f0:=Ja (show i<=2000000 from Jn hi m.out.2.2.2.2.2.1);clear l8 l f2 j1 i8 e0 e1 e2 e3 e4;go_wp2
   go_loopw [23] (fun jv wx=>∃j:Nat,j<=bx.params.length/\jv=O j/\Hid (Kept m1 m2 W1 wx/\∃d',ChkAt wx C m1 m2 (rC V p) (.slice (some ⟨fb,fo,none⟩) blocks.length fc) d3 (i*4000000+j) d'/\vJ i (bx.params.take j) d=some d')) (fun jv _=>bx.params.length-(intOf jv).toNat)
   case atStart=>exact⟨0,Jt _,rfl,Ja ⟨Kept.refl _ _ _,d,m3.out.le (cnt_0 i),rfl⟩⟩
   case round=>
    obtain⟨j,hj,rfl,HJ⟩:=hrel
    by_cases b0:j<bx.params.length
    ·have h0:(j:Int)<bx.params.length:=Zo;have g4:=Ja b0;obtain⟨v,hv⟩:∃v,bx.params[j]? =some v:=⟨_,Jd b0⟩
     obtain⟨qb,qo,rfl,y,e7,b6⟩:=u.out.2.1.get hv;rw[Nk] at e7;have g:Below B w wr:=(g5.out.trans HJ.out.1).below m.out.2.2.1 m.out.2.2.2.1 m.out.2.1;have cv:=zV g y e7;obtain⟨d',h,c⟩:=HJ.out.2;have HV:=Ja (show bx.params[j]? =some v/\vJ i (bx.params.take j) d=some d' from⟨hv,c⟩);have c8:I64 (i:Int):=qL (by have:=f0.out;omega);have c7:I64 (-1):=⟨by omega,by omega⟩
     cases a0:rB d' v i (-1) with
     |none=>
      have HD:=Ja a0;have d0:=Ja (oK h v i (-1) b6 c8 c7 a0);clear hv e7 y g h c a0 c8 c7 b0 b6 z0;go_wp2_with (go_at_call 97;go_must (refine d0.out.mono ?_;intro e w1 hh;obtain⟨rfl,hw⟩:=hh;rw[hw];clear hw))
      go_ret;refine⟨?_,g5.out.trans HJ.out.1,fun d2 hd2=>?_⟩
      ·rw[<-t.out,wS,abe u.out.1 a1.out (mS (qr HV.out.1 HV.out.2 HD.out))];rfl
      ·rw[<-t.out,wS,abe u.out.1 a1.out (mS (qr HV.out.1 HV.out.2 HD.out))] at hd2;cases hd2
     |some d2=>
      have HD:=Ja a0;have d0:=Ja (qk h (cnt_lt f0.out (Jn hj d6.out.1)) v i (-1) b6 c8 c7 a0);clear hv e7 y g h c a0 c8 c7 b0 b6 z0;go_wp2_with (go_at_call 97;go_must (refine d0.out.mono ?_;rintro e w1 ⟨rfl,b1,a6⟩))
      have d8:=Ja (Jb b1 a6);clear b1 a6;go_roundw
      case rel=>exact⟨j+1,g4.out,by go_num,Ja ⟨HJ.out.1.trans d8.out.2,d2,d8.out.1.le (cnt_1 i j),(aC HV.out.1 HV.out.2).trans HD.out⟩⟩
      case measure=>have:=g4.out;simp[intOf];omega
    ·obtain rfl:j=bx.params.length:=by omega
     have h0:¬(bx.params.length:Int)<bx.params.length:=Zo;obtain⟨d1,h,c⟩:=HJ.out.2;rw[Nl] at c;have g6:=Ja c;have f1:=Ja h;have a2:=HJ.out.1.blk d5.out.1 d5.out.2.1 d5.out.2.2;have z1:=K1 a2;have l9:=Ja a2;have b5:=Ja (g5.out.trans HJ.out.1);clear h c b0 a2 z0;generalize wr=W2 at *;go_wp2
     go_loopw [36] (fun kv wx=>∃k:Nat,k<=bx.ops.length/\kv=O k/\Hid (Kept m1 m2 W2 wx/\∃d',ChkAt wx C m1 m2 (rC V p) (.slice (some ⟨fb,fo,none⟩) blocks.length fc) d3 (i*4000000+2000000+k) d'/\sS p i (bx.ops.take k) 0 d1=some d')) (fun kv _=>bx.ops.length-(intOf kv).toNat)
     case atStart=>exact⟨0,Jt _,rfl,Ja ⟨Kept.refl _ _ _,d1,f1.out.le (cnt_2 d6.out.1),rfl⟩⟩
     case round=>
      obtain⟨k,hk,rfl,HK⟩:=hrel
      by_cases b9:k<bx.ops.length
      ·have g9:(k:Int)<bx.ops.length:=Zo;have c9:=Ja b9;obtain⟨o,ho⟩:∃o,bx.ops[k]? =some o:=⟨_,Jd b9⟩
       obtain⟨qb,qo,rfl,y,h9,h8,h7,h6,h5,f7,av,h4,j3⟩:=u.out.2.2.1.get ho;obtain⟨aa,ac,rfl,j4,j2⟩:=j3.form;have g:Below B w wr:=(b5.out.trans HK.out.1).below m.out.2.2.1 m.out.2.2.2.1 m.out.2.1;have c0:=zV g y h9;have c1:=zV g y h8;have c2:=zV g y h7;have c3:=zV g y h6;have c4:=zV g y h5;have c5:=zV g y h4;obtain⟨d',h,c⟩:=HK.out.2;have HV:=Ja (show bx.ops[k]? =some o/\sS p i (bx.ops.take k) 0 d1=some d' from⟨ho,c⟩);have g2:=Ja (show(I64 o.code/\I64 o.res/\I64 o.a/\I64 o.b/\o.n<65536)/\o.args.length<=ac/\ac<=9223372036854775807 from⟨f7,j4,j2⟩);have e6:=(Below.refl wr.heap.size wr).alloc (Je _) (A (D o aa ac) 77);have a3:=zI (W:=wr) (o:=A (D o aa ac) 77) rfl;have i3:=HK.out.1.trans (Kept.of e6);have f9:=h.below e6;have b2:Below B w (wr.alloc (A (D o aa ac) 77)):=g.alloc (Jn m.out.2.1 g.size) _;have g3:=Ja (Jb h.map1.lt h.map2.lt);clear ho h9 h8 h7 h6 h5 h4 f7 j3 j4 j2 g h c b9 z1;go_upto_region 13 with fail;generalize l7:wr.alloc (A (D o aa ac) 77)=W3 at *;generalize l5:wr.heap.size=b8 at *;have n2:=K0 a3;have n1:=K1 a3;have n0:=K2 a3;have m7:=K3 a3;have m6:=K4 a3;have m5:=K5 a3;have f5:=oper_any (m.out.1.below b2) (Jn m.out.2.1 b2.size) f9.blk m.out.2.2.2.2.1 o g2.out.1 aa ac g2.out.2;unfold opV at f5;have d7:=Ja f5;have e9:=Ja i3;have g7:=Ja f9;have b3:=Ja a3;have n8:=Ja (show b8≠m1/\b8≠m2 from⟨by have:=g3.out.1;omega,by have:=g3.out.2;omega⟩);clear f5 i3 f9 a3 l7 l5 b2 e6 c0 c1 c2 c3 c4 c5;obtain⟨q,hq⟩:∃q,opF p o=q:=⟨_,rfl⟩
       rw[hq] at d7;have HQ:=Ja hq;clear hq
       cases q with
       |false=>
        go_wp2_with (first|(go_at_call 98;go_must (refine d7.out.mono ?_;rintro e w4 ⟨rfl,l⟩))|go_in)
        go_ret
        have a5:wg p blocks=none:=by
         rw[wS];exact abe u.out.1 a1.out (mm g6.out (oR HV.out.1 HV.out.2 (by unfold ug;rw[HQ.out];rfl)))
        refine⟨?_,(b5.out.trans e9.out).trans (Kept.of l),fun d2 hd2=>?_⟩
        ·rw[<-t.out,a5];rfl
        ·rw[<-t.out,a5] at hd2;cases hd2
       |true=>
        by_cases hr:0<=o.res
        ·have t1:decide (0<=o.res)=true:=decide_eq_true hr;have HR:=Ja hr;obtain⟨r,a0⟩:∃r,rB d' o.res i k=r:=⟨_,rfl⟩
         have HD:=Ja a0;have h64:=Ja (show I64 o.res/\I64 (i:Int)/\I64 (k:Int) from⟨g2.out.1.2.1,qL (Jn f0.out Zd),qL (Jn (Jn hk d6.out.2.1) Zd)⟩);clear hr a0
         cases r with
         |none=>
          go_wp2_with (first|(go_at_call 98;go_must (refine d7.out.mono ?_;rintro e w4 ⟨rfl,l⟩;have a7:=g7.out.below l;have a4:=zH l b3.out (lt_of_block b3.out);have u1:=K1 a4;have a9:=Ja (Jb a7 l);clear a7 l a4))|(go_at_call 97;go_must (refine(oK a9.out.1 o.res i k h64.out.1 h64.out.2.1 h64.out.2.2 HD.out).mono ?_;intro e w5 hh;obtain⟨rfl,hw⟩:=hh;rw[hw];clear hw))|go_in)
          go_ret
          have a5:wg p blocks=none:=by
           rw[wS];exact abe u.out.1 a1.out (mm g6.out (oR HV.out.1 HV.out.2 (by unfold ug;rw[HQ.out,if_pos rfl,if_pos HR.out,HD.out])))
          refine⟨?_,(b5.out.trans e9.out).trans (Kept.of a9.out.2),fun d2 hd2=>?_⟩
          ·rw[<-t.out,a5];rfl
          ·rw[<-t.out,a5] at hd2;cases hd2
         |some d2=>
          go_wp2_with (first|(go_at_call 98;go_must (refine d7.out.mono ?_;rintro e w4 ⟨rfl,l⟩;have a7:=g7.out.below l;have a4:=zH l b3.out (lt_of_block b3.out);have u1:=K1 a4;have a9:=Ja (Jb a7 l);clear a7 l a4))|(go_at_call 97;go_must (refine(qk a9.out.1 (cnt_lt2 f0.out (Jn hk d6.out.2.1)) o.res i k h64.out.1 h64.out.2.1 h64.out.2.2 HD.out).mono ?_;rintro e w5 ⟨rfl,b1,a6⟩;have d8:=Ja (Jb b1 a6);clear b1 a6))|go_in)
          go_roundw
          case rel=>exact⟨k+1,c9.out,by go_num,Ja ⟨(e9.out.trans (Kept.of a9.out.2)).trans d8.out.2,d2,d8.out.1.le (cnt_3 i k),(cK HV.out.1 HV.out.2).trans (by unfold ug;rw[HQ.out,if_pos rfl,if_pos HR.out,HD.out])⟩⟩
          case measure=>have:=c9.out;simp[intOf];omega
        ·have t1:decide (0<=o.res)=false:=decide_eq_false hr;have HR:=Ja hr;clear hr;go_wp2_with (first|(go_at_call 98;go_must (refine d7.out.mono ?_;rintro e w4 ⟨rfl,l⟩;have a7:=g7.out.below l;have a4:=zH l b3.out (lt_of_block b3.out);have u1:=K1 a4;have a9:=Ja (Jb a7 l);clear a7 l a4))|go_in)
         go_roundw
         case rel=>exact⟨k+1,c9.out,by go_num,Ja ⟨e9.out.trans (Kept.of a9.out.2),d',a9.out.1.le (cnt_3' i k),(cK HV.out.1 HV.out.2).trans (by unfold ug;rw[HQ.out,if_pos rfl,if_neg (by have:=HR.out;omega)])⟩⟩
         case measure=>have:=c9.out;simp[intOf];omega
      ·obtain rfl:k=bx.ops.length:=by omega
       have g9:¬(bx.ops.length:Int)<bx.ops.length:=Zo;obtain⟨d2,h,c⟩:=HK.out.2;rw[Nl] at c;have a2:=HK.out.1.blk l9.out d5.out.2.1 d5.out.2.2;have z2:=K2 a2;have z3:=K3 a2;have z4:=K4 a2;have g:Below B w wr:=(b5.out.trans HK.out.1).below m.out.2.2.1 m.out.2.2.2.1 m.out.2.1;have b7:=term_any (k2.out.below yT g) (Jn m.out.2.1 g.size) h.blk rfl bx.term u.out.2.2.2.2 (u.out.2.2.2.1.below xL g);have g8:=Ja (blkF_eq (p:=p) (bl:=blocks) g6.out c);obtain⟨q,hq⟩:∃q,wn blocks bx.term=q:=⟨_,rfl⟩
       rw[hq] at b7 g8;have j5:=Ja b7;have k5:=Ja h;clear h c a2 g b7 hq b9 z1
       cases q with
       |false=>
        go_wp2_with (first|(go_at_call 99;go_must (refine j5.out.mono ?_;rintro e w4 ⟨rfl,l⟩))|go_in)
        go_ret
        have a5:wg p blocks=none:=by
         rw[wS];exact abe u.out.1 a1.out (by rw[g8.out];rfl)
        refine⟨?_,(b5.out.trans HK.out.1).trans (Kept.of l),fun d2 hd2=>?_⟩
        ·rw[<-t.out,a5];rfl
        ·rw[<-t.out,a5] at hd2;cases hd2
       |true=>
        go_wp2_with (first|(go_at_call 99;go_must (refine j5.out.mono ?_;rintro e w4 ⟨rfl,l⟩))|go_in)
        have k3:=Ja l;clear l;go_roundw
        case rel=>exact⟨i+1,k1.out,by go_num,Ja ⟨(b5.out.trans HK.out.1).trans (Kept.of k3.out),d2,(k5.out.below k3.out).le (cnt_4 d6.out.2.1),(lQ u.out.1 a1.out).trans (by rw[g8.out];rfl)⟩⟩
        case measure=>have:=k1.out;simp[intOf];omega
  ·obtain rfl:i=blocks.length:=by omega
   have k4:¬(blocks.length:Int)<blocks.length:=Zo;obtain⟨d,h,c⟩:=HI.out.2;rw[Nl] at c;have f1:=Ja (Jb h c);clear h c e8;go_wp2;go_ret;have hr:res=some d:=by rw[<-t.out,wS,f1.out.2]
   rw[hr];refine⟨rfl,HI.out.1,fun d2 hd2=>?_⟩;cases hd2;exact⟨_,cnt_lt m.out.2.2.2.2.2.1 (Jt _),f1.out.1.le (cnt_0 _)⟩
end Go.Proofs.Ytojclalkfhoooaa
set_option maxRecDepth 8000
namespace Go.Proofs.Ytojclalkfhoooaa
open Go.RowKit Go.Shelf
variable {w:World}{C j k m m1 m2 n':Nat}{l:List IOp}{i:Int}{g:List (List Nat)}{c:Value}{d d1:wO}{bl blocks:List IBlk}{o:IOp}
structure GraphIn (w:World) (sv:Value) (g:List (List Nat)):Prop where
 rows:aaB zj w w.heap.size sv g
 valid:zw g
 len:g.length<=2000000
 row:∀row∈g,row.length<=2000000
theorem GraphIn.below{w':World}{sv:Value}(h:GraphIn w sv g)(hb:L w w'):GraphIn w' sv g:=
 ⟨(h.rows.below hb).mono hb.size,h.valid,h.len,h.row⟩
theorem iJ{sv:Value}(h:GraphIn w sv g):G 68 #[.agg #[sv]] w (fJ w (vD g)):=by
 obtain⟨ns,c⟩:=adR h.valid;rw[c.eq];exact tp w sv g w.heap.size (Je _) h.rows h.valid h.len h.row (0::ns) c.is
theorem qP{sv:Value}(h:GraphIn w sv g):G 67 #[.agg #[sv]] w (j6 w (wQ g)):=by
 obtain⟨ns,c⟩:=adR h.valid;obtain⟨D,d⟩:=c.dom;rw[<-idom_eq h.valid c d];exact tw w sv g w.heap.size (Je _) h.rows h.valid h.len h.row ns c.is D d.of
open Go.RowKit
theorem aU{p:IProg}(g:p.args.all tX=true)(h:opF p o=true):o.args.length<=1000000000000:=by
 unfold opF at h;rw[Jm] at h
 have c:∀i,p.args.getD i 0<=8:=by
  intro i;rw[Jj]
  cases d:p.args[i]? with
  |none=>simp
  |some x=>
   have:=Oe.1 g x (Ji d);unfold tX at this;simp only[Jm,decide_eq_true_eq] at this;exact this.2
 have h2:=h.2
 split at h2
 ·simp only[Jm,decide_eq_true_eq] at h2;have:=c o.a.toNat;omega
 ·split at h2
  ·simp only[Jm,decide_eq_true_eq] at h2;omega
  ·simp only[Jm,decide_eq_true_eq] at h2;omega
theorem qM{e:IEdge}(h:uM blocks e=true):xz blocks e.block∈blocks/\e.args.length=(xz blocks e.block).params.length/\1<=e.block/\e.block.toNat<blocks.length:=by
 unfold uM at h;simp only[Jm,decide_eq_true_eq] at h;refine⟨?_,h.2,h.1.1,by omega⟩;unfold xz;rw[Jj,Jd Zo,Ot];exact Uf _
theorem lD(hs:vZ blocks){t:ITerm}(h:wn blocks t=true):∀e∈t.to,e.args.length<=2000000:=by
 intro e c;unfold wn at h;rw[Jm] at h;obtain⟨h1,h2,_⟩:=qM (Oe.1 h.1 e c);rw[h2];exact(hs.2 _ h1).1
theorem nO(d:blocks≠ [])(h:∀b∈blocks,wn blocks b.term=true):zw (zy blocks):=by
 refine⟨by unfold zy;rw[Nr];exact List.length_pos_iff.2 d,fun l hl s hs=>?_⟩;unfold zy at hl;obtain⟨b,hb,rfl⟩:=Nu.1 hl;obtain⟨e,g,rfl⟩:=Nu.1 hs;have c:=h b hb;unfold wn at c;rw[Jm] at c;have:=(qM (Oe.1 c.1 e g)).2.2.2;unfold zy;rw[Nr];exact this
theorem graphI_F(h:∀b∈blocks,wn blocks b.term=true):zk blocks=(zy blocks).map (List.map (fun n:Nat=>(n:Int))):=by
 unfold zk zy tW;rw[List.map_map];refine Up fun b hb=>?_
 show b.term.to.map (·.block)=(b.term.to.map fun e=>e.block.toNat).map (fun n:Nat=>(n:Int))
 rw[List.map_map];refine Up fun e he=>?_
 have c:=h b hb;unfold wn at c;rw[Jm] at c;have:=(qM (Oe.1 c.1 e he)).2.2.1
 show e.block=((e.block.toNat:Nat):Int)
 omega
theorem bU{sv:Value}(hs:vZ blocks)(c:blocks≠ [])(h:∀b∈blocks,wn blocks b.term=true)(hr:aaB zN w w.heap.size sv (zk blocks)):GraphIn w sv (zy blocks):=by
 rw[graphI_F h] at hr;refine⟨(aaB.map (fun n:Nat=>(n:Int)) (fun x=>rfl)).1 hr,nO c h,by unfold zy;rw[Nr];exact hs.1,fun row hrow=>?_⟩;unfold zy at hrow;obtain⟨b,hb,rfl⟩:=Nu.1 hrow;rw[Nr];exact(hs.2 b hb).2.2
theorem xu (blocks:List IBlk):(zy blocks).length=blocks.length:=by simp[zy]
theorem dW:∀ {l m:List Nat},l.Nodup->(∀x∈l,x∈m)->l.length<=m.length
 | [],m,_,_=>Jt _
 |a::l,m,hl,h=>by
  obtain⟨ha,hl⟩:=Qt.1 hl;have hm:=h a (List.mem_cons_self ..);have h2:=dW (m:=m.erase a) hl (fun x hx=>(List.mem_erase_of_ne (fun e=>ha (by rw[<-e];exact hx))).2 (h x (List.mem_cons_of_mem _ hx)));rw[List.length_erase_of_mem hm] at h2;have:=List.length_pos_of_mem hm;rw[Nq];omega
theorem jl(hv:zw g)(h:(vD g).length=g.length):∀x,x<g.length->Reach (GE g) x:=by
 obtain⟨ns,c⟩:=adR hv;rw[c.eq] at h;intro x j;refine(c.mem x).1 ?_;apply Classical.byContradiction;intro k
 have i:=dW (l:=x::0::ns) (m:=List.range g.length) (Qt.2 ⟨k,c.nodup⟩) (fun y d=>by
  rcases Jq.1 d with rfl|d
  ·exact Ol.2 j
  ·exact Ol.2 (c.lt y d))
 rw[Nq,h,Un] at i;omega
theorem mu{d':wO}{v k:Int}(h:rB d v i k=some d')(hi:0<=i/\i.toNat<m)(c:∀x b,d.1 x=some b->0<=b/\b.toNat<m):∀x b,d'.1 x=some b->0<=b/\b.toNat<m:=by
 unfold rB at h
 split at h
 ·cases h
 ·cases h;intro x b hb
  change lS d.1 v i x=some b at hb
  unfold lS at hb
  split at hb
  ·cases hb;exact hi
  ·exact c x b hb
theorem oU(hi:0<=i/\i.toNat<m):∀(l:List Int) (d d':wO),vJ i l d=some d'->(∀x b,d.1 x=some b->0<=b/\b.toNat<m)->∀x b,d'.1 x=some b->0<=b/\b.toNat<m
 | [],d,d',h,hd=>by cases h;exact hd
 |v::l,d,d',h,hd=>by
  unfold vJ at h
  cases h1:rB d v i (-1) with
  |none=>rw[h1] at h;cases h
  |some d1=>rw[h1,Nw] at h;exact oU hi l d1 d' h (mu h1 hi hd)
theorem bP{p:IProg}(hi:0<=i/\i.toNat<m):∀(l:List IOp) (k:Int) (d d':wO),sS p i l k d=some d'->(∀x b,d.1 x=some b->0<=b/\b.toNat<m)->∀x b,d'.1 x=some b->0<=b/\b.toNat<m
 | [],k,d,d',h,hd=>by cases h;exact hd
 |o::l,k,d,d',h,hd=>by
  rw[dG] at h
  cases h1:ug p i k o d with
  |none=>rw[h1] at h;cases h
  |some d1=>
   rw[h1,Nw] at h;refine bP hi l _ d1 d' h ?_;unfold ug at h1
   split at h1
   ·split at h1
    ·exact mu h1 hi hd
    ·cases h1;exact hd
   ·cases h1
theorem oX{p:IProg}:∀(l:List IBlk) (i:Nat) (d d':wO),i+l.length<=m->uH p bl l i d=some d'->(∀x b,d.1 x=some b->0<=b/\b.toNat<m)->∀x b,d'.1 x=some b->0<=b/\b.toNat<m
 | [],i,d,d',_,h,hd=>by cases h;exact hd
 |b::l,i,d,d',hm,h,hd=>by
  simp only[Nq] at hm;unfold uH at h
  cases h1:pS p bl i b d with
  |none=>rw[h1] at h;cases h
  |some d1=>
   rw[h1,Nw] at h;obtain⟨_,d2,h2,h3⟩:=nF h1;have hi:0<=(i:Int)/\((i:Int)).toNat<m:=Zo;exact oX l (i+1) d1 d' Zo (by simpa using h) (bP hi _ _ _ _ h3 (oU hi _ _ _ h2 hd))
theorem rN{p:IProg}(h:wg p bl=some d):∀x b,d.1 x=some b->0<=b/\b.toNat<bl.length:=
 oX bl 0 sy d Zo h (fun x b hb=>by cases hb)
theorem vE (d:wO)(g:List (List Nat))(i:Int):∀(l m:List IOp) (k:Int),xF d g i (l++m) k=(xF d g i l k && xF d g i m (k+l.length))
 | [],m,k=>by simp[xF]
 |o::l,m,k=>by
  have e:k+1+(l.length:Int)=k+((o::l).length:Int):=by simp;omega
  show((rR o).all (yy d g i k) && xF d g i (l++m) (k+1))=(((rR o).all (yy d g i k) && xF d g i l (k+1)) && _)
  rw[vE d g i l m,e,Bool.and_assoc]
theorem ub (d:wO)(g:List (List Nat)):∀(l m:List IBlk) (i:Int),tO d g (l++m) i=(tO d g l i && tO d g m (i+l.length))
 | [],m,i=>by simp[tO]
 |b::l,m,i=>by
  have e:i+1+(l.length:Int)=i+((b::l).length:Int):=by simp;omega
  show(aaC d g b i && tO d g (l++m) (i+1))=((aaC d g b i && tO d g l (i+1)) && _)
  rw[ub d g l m,e,Bool.and_assoc]
theorem gZ(h:l[k]? =some o):xF d g i (l.take (k+1)) 0=(xF d g i (l.take k) 0 && (rR o).all (yy d g i k)):=by
 rw[Nh,h,Option.toList,vE,vS h,Ub];simp[xF]
theorem oA(h:l[k]? =some o)(hf:(rR o).all (yy d g i k)=false):xF d g i l 0=false:=by
 rw[sD h,vE,vS h,Ub]
 show(_ && ((rR o).all (yy d g i k) && _))=false
 rw[hf,Bool.false_and,Uh]
theorem mz{l:List IBlk}{b:IBlk}(h:l[k]? =some b):tO d g (l.take (k+1)) 0=(tO d g (l.take k) 0 && aaC d g b k):=by
 rw[Nh,h,Option.toList,ub,vS h,Ub];simp[tO]
theorem pH{l:List IBlk}{b:IBlk}(h:l[k]? =some b)(hf:aaC d g b k=false):tO d g l 0=false:=by
 rw[sD h,ub,vS h,Ub]
 show(_ && (aaC d g b k && _))=false
 rw[hf,Bool.false_and,Uh]
theorem ChkAt.made{pv:List Value}{d:Value}(j:Y w C (pv++ [d,.map (some m1),.map (some m2),c]).toArray 128)(hl:pv.length=6)(h1:w.heap[m1]? =some (.map #[] 0))(h2:w.heap[m2]? =some (.map #[] 0))(g:m1≠m2):
 ChkAt w C m1 m2 pv d c 0 sy:=by
 have hm:∀m,w.heap[m]? =some (.map #[] 0)->wA w m 0 (fun _=>none):=fun m h=>by
  have k:=wA.made ({w with heap:=w.heap.extract 0 m });have l:m<w.heap.size:=lt_of_block h;have hs:(w.heap.extract 0 m).size=m:=by simp;omega
  obtain⟨D,⟨es,i,k1,k2⟩,k3⟩:=k;have e1:(World.alloc {w with heap:=w.heap.extract 0 m } (.map #[] 0)).heap[(w.heap.extract 0 m).size]? =some (.map #[] 0):=zI rfl;rw[e1] at k1;cases k1;exact⟨D,⟨_,_,h,k2⟩,k3⟩
 exact⟨j,hl,hm m1 h1,hm m2 h2,g,fun _=>rfl⟩
theorem ChkAt.idom{n:Nat}{pv:List Value}{g i:Value}(h:ChkAt w C m1 m2 pv g i n d)(iv:Value):ChkAt (w.setCell ⟨C,9,none⟩ iv) C m1 m2 pv g iv n d:=by
 obtain⟨k1,k2⟩:=h.ne1;refine⟨?_,h.plen,h.map1.same (Below.heap_setCell _ _ _ _ (Ne.symm k1)),h.map2.same (Below.heap_setCell _ _ _ _ (Ne.symm k2)),h.ne,h.dom⟩;rw[zD h.blk];have hl:=h.plen
 obtain⟨p0,p1,p2,p3,p4,p5,rfl⟩:∃a b c d e f,pv=[a,b,c,d,e,f]:=by
  match pv,hl with
  | [a,b,c,d,e,f],_=>exact⟨a,b,c,d,e,f,rfl⟩
 rfl
theorem jT(hv:zw g)(h:g.length<=9000000):∀x∈wQ g,I64 x:=by
 intro x d;unfold wQ at d;obtain⟨c,i,rfl⟩:=Nu.1 d;rcases idomOf hv c with⟨h1,_⟩|⟨c',h1,_,h3,_⟩
 ·rw[h1];exact⟨by omega,by omega⟩
 ·have:=(cA hv h3).1;rw[h1];exact⟨by omega,by omega⟩
theorem lp {α:Type}:∀l:List α,l=[]∨∃a m,l=a::m
 | []=> .inl rfl
 |a::m=> .inr ⟨a,m,rfl⟩
theorem nA{B:Nat}{V:PV}{p:IProg}(hp:ProgIn w B V p)(hB:B<=w.heap.size)(hl:p.args.length=p.funcs.length)(ha:p.args.all tX=true)(hs:∀f∈p.funcs,vZ f){n:Nat}(hn:n<p.funcs.length):
 G 47 #[yH V p,O n] w (ym w (yi p n)):=by
 have m:=Ja (show ProgIn w B V p/\B<=w.heap.size/\p.args.length=p.funcs.length/\p.args.all tX=true/\∀f∈p.funcs,vZ f from⟨hp,hB,hl,ha,hs⟩);have B3:=@run_makeMap Try.prog;obtain⟨Vf,Va,Vd,Vb⟩:=V;obtain⟨f1,f2,e1,v2,v1⟩:=hp.funcs.form;have k1:=hp.funcs;have k3:=hp.args;obtain⟨a1,a2,e2,n4,n2⟩:=hp.args.form;obtain⟨d1,d2,e3,v5,v4⟩:=hp.data.form;obtain⟨b1,b2,e4,w0,v6⟩:=hp.banks.form;simp only at e1 e2 e3 e4 k1 k3;subst e1 e2 e3 e4;have B4:p.funcs.length<=9223372036854775807:=Zo;have B5:p.args.length<=9223372036854775807:=Zo;obtain⟨blocks,h7⟩:∃bl,p.funcs[n]? =some bl:=⟨_,Jd hn⟩
 obtain⟨x,hx⟩:∃x,p.args[n]? =some x:=⟨_,Jd Zo⟩
 obtain⟨fb,fo,rfl,b4,bv,f7,n0⟩:=k1.get h7;obtain⟨ab,ao,rfl,s1,f9,x7⟩:=k3.get hx;rw[Nk] at f7 f9;obtain⟨ba,bc,rfl,t8,t7⟩:=n0.form;have y3:blocks.length<=9223372036854775807:=Zo;unfold yH;simp only;obtain⟨res,f5⟩:∃x,yi p n=x:=⟨_,rfl⟩
 rw[f5];have n6:=Ja f5;have j:=Ja (show p.funcs[n]? =some blocks/\wX w B (.slice ba blocks.length bc) blocks/\vZ blocks/\p.args[n]? =some x from⟨h7,n0,hs _ (Ji h7),hx⟩);have n1:L w (w.alloc (A (P p (some ⟨fb,fo,none⟩) f2 (some ⟨ab,ao,none⟩) a2 d1 d2 b1 b2) 29)):=(Below.refl _ _).alloc (Je _) _;have cf:=zV n1 (Jy b4 hB) f7;have B1:(n:Int)<p.funcs.length:=Zo;have B2:(n:Int)<p.args.length:=Zo;have t2:=Ja (show ab<B/\T w ab (ao+n) (O x) from⟨s1,f9⟩);have i3:=zI (W:=w) (o:=A (P p (some ⟨fb,fo,none⟩) f2 (some ⟨ab,ao,none⟩) a2 d1 d2 b1 b2) 29) rfl;have j2:(w.alloc (A (P p (some ⟨fb,fo,none⟩) f2 (some ⟨ab,ao,none⟩) a2 d1 d2 b1 b2) 29)).heap.size=w.heap.size+1:=by simp
 clear hp k1 k3 hB hl ha hs hn v2 v1 n4 n2 v5 v4 w0 v6 h7 hx f5 n0 t8 t7 f7 f9 b4 s1;go_enter Try.func47,Try.ntmps47;go_upto_region 1 with fail;generalize w7:w.alloc (A (P p (some ⟨fb,fo,none⟩) f2 (some ⟨ab,ao,none⟩) a2 d1 d2 b1 b2) 29)=WP at *;have p0:=K0 i3;have r6:L w (WP.alloc (A #[.slice ba blocks.length bc] 43)):=n1.alloc Zo _;have y:=zB (o:=A #[.slice ba blocks.length bc] 43) i3;have i8:Y (WP.alloc (A #[.slice ba blocks.length bc] 43)) (w.heap.size+1) #[.slice ba blocks.length bc] 43:=zI j2;have e5:(WP.alloc (A #[.slice ba blocks.length bc] 43)).heap.size=w.heap.size+2:=by simp[j2]
 clear w7 n1 i3;go_upto_region 2 with fail;generalize w8:WP.alloc (A #[.slice ba blocks.length bc] 43)=WF at *;have q0:=K0 i8;clear w8 j2 p0 cf;have s6:=Ja (show L w WF from r6);clear r6;rcases lp blocks with a4|⟨b0,bs,a4⟩
 ·have hr:res=true:=by rw[<-n6.out];unfold yi;rw[Jj,j.out.1,a4];rfl
  have t0:((blocks.length:Int)==0)=true:=by rw[a4];rfl
  clear a4;go_wp2;go_ret;exact⟨uz hr,s6.out⟩
 ·have t0:((blocks.length:Int)==0)=false:=by rw[beq_eq_false_iff_ne,a4,Nq];omega
  have s7:=Ja a4;have x8:(0:Int)<blocks.length:=by rw[a4,Nq];omega
  have h0:blocks[0]? =some b0:=by rw[a4];rfl
  obtain⟨kb,ko,rfl,q7,_,_,_,pv,ov,tv,e7,_,_,e6,_,_⟩:=j.out.2.1.get h0;obtain⟨pa,pc,rfl,k2,k0⟩:=e6.form;have x9:b0.params.length<=9223372036854775807:=Zo;have s4:=Ja (Jb q7 e7);clear a4 h0 q7 e7 e6 k2 k0;have p0:=K0 y;have p1:=K1 y;have p2:=K2 y;have p3:=K3 y;have p4:=K4 y;have p5:=K5 y;go_upto_region 5 with fail;have s2:Y (((WF.alloc (.map #[] 0)).alloc (.map #[] 0)).alloc (A #[.slice (some ⟨fb,fo,none⟩) p.funcs.length f2,.slice (some ⟨ab,ao,none⟩) p.args.length a2,O p.entry,O p.handler,.slice d1 p.data.length d2,.slice b1 p.banks.length b2,.slice (some ⟨kb,ko,none⟩) blocks.length bc,.map (some (w.heap.size+2)),.map (some (w.heap.size+2+1)),F] 128)) (w.heap.size+2+1+1) #[.slice (some ⟨fb,fo,none⟩) p.funcs.length f2,.slice (some ⟨ab,ao,none⟩) p.args.length a2,O p.entry,O p.handler,.slice d1 p.data.length d2,.slice b1 p.banks.length b2,.slice (some ⟨kb,ko,none⟩) blocks.length bc,.map (some (w.heap.size+2)),.map (some (w.heap.size+2+1)),F] 128:=zI (by simp[e5]);have q6:(((WF.alloc (.map #[] 0)).alloc (.map #[] 0)).alloc (A #[.slice (some ⟨fb,fo,none⟩) p.funcs.length f2,.slice (some ⟨ab,ao,none⟩) p.args.length a2,O p.entry,O p.handler,.slice d1 p.data.length d2,.slice b1 p.banks.length b2,.slice (some ⟨kb,ko,none⟩) blocks.length bc,.map (some (w.heap.size+2)),.map (some (w.heap.size+2+1)),F] 128)).heap[w.heap.size+2]? =some (.map #[] 0):=zB (zB (zI e5));have q5:(((WF.alloc (.map #[] 0)).alloc (.map #[] 0)).alloc (A #[.slice (some ⟨fb,fo,none⟩) p.funcs.length f2,.slice (some ⟨ab,ao,none⟩) p.args.length a2,O p.entry,O p.handler,.slice d1 p.data.length d2,.slice b1 p.banks.length b2,.slice (some ⟨kb,ko,none⟩) blocks.length bc,.map (some (w.heap.size+2)),.map (some (w.heap.size+2+1)),F] 128)).heap[w.heap.size+2+1]? =some (.map #[] 0):=zB (zI (by simp[e5]));have b5:L w (((WF.alloc (.map #[] 0)).alloc (.map #[] 0)).alloc (A #[.slice (some ⟨fb,fo,none⟩) p.funcs.length f2,.slice (some ⟨ab,ao,none⟩) p.args.length a2,O p.entry,O p.handler,.slice d1 p.data.length d2,.slice b1 p.banks.length b2,.slice (some ⟨kb,ko,none⟩) blocks.length bc,.map (some (w.heap.size+2)),.map (some (w.heap.size+2+1)),F] 128)):=((s6.out.alloc Zo _).alloc Zt _).alloc Zt _;have o1:Y (((WF.alloc (.map #[] 0)).alloc (.map #[] 0)).alloc (A #[.slice (some ⟨fb,fo,none⟩) p.funcs.length f2,.slice (some ⟨ab,ao,none⟩) p.args.length a2,O p.entry,O p.handler,.slice d1 p.data.length d2,.slice b1 p.banks.length b2,.slice (some ⟨kb,ko,none⟩) blocks.length bc,.map (some (w.heap.size+2)),.map (some (w.heap.size+2+1)),F] 128)) w.heap.size (P p (some ⟨fb,fo,none⟩) f2 (some ⟨ab,ao,none⟩) a2 d1 d2 b1 b2) 29:=zB (zB (zB y));have m7:Y (((WF.alloc (.map #[] 0)).alloc (.map #[] 0)).alloc (A #[.slice (some ⟨fb,fo,none⟩) p.funcs.length f2,.slice (some ⟨ab,ao,none⟩) p.args.length a2,O p.entry,O p.handler,.slice d1 p.data.length d2,.slice b1 p.banks.length b2,.slice (some ⟨kb,ko,none⟩) blocks.length bc,.map (some (w.heap.size+2)),.map (some (w.heap.size+2+1)),F] 128)) (w.heap.size+1) #[.slice (some ⟨kb,ko,none⟩) blocks.length bc] 43:=zB (zB (zB i8));have o4:(((WF.alloc (.map #[] 0)).alloc (.map #[] 0)).alloc (A #[.slice (some ⟨fb,fo,none⟩) p.funcs.length f2,.slice (some ⟨ab,ao,none⟩) p.args.length a2,O p.entry,O p.handler,.slice d1 p.data.length d2,.slice b1 p.banks.length b2,.slice (some ⟨kb,ko,none⟩) blocks.length bc,.map (some (w.heap.size+2)),.map (some (w.heap.size+2+1)),F] 128)).heap.size=w.heap.size+2+1+1+1:=by simp[e5]
  generalize x3:((WF.alloc (.map #[] 0)).alloc (.map #[] 0)).alloc (A #[.slice (some ⟨fb,fo,none⟩) p.funcs.length f2,.slice (some ⟨ab,ao,none⟩) p.args.length a2,O p.entry,O p.handler,.slice d1 p.data.length d2,.slice b1 p.banks.length b2,.slice (some ⟨kb,ko,none⟩) blocks.length bc,.map (some (w.heap.size+2)),.map (some (w.heap.size+2+1)),F] 128)=W2 at *;generalize x4:w.heap.size+2+1+1=C at *;generalize t3:w.heap.size+2+1=m2 at *;generalize t4:w.heap.size+2=m1 at *;have a7:ChkAt W2 C m1 m2 (rC ⟨.slice (some ⟨fb,fo,none⟩) p.funcs.length f2,.slice (some ⟨ab,ao,none⟩) p.args.length a2,.slice d1 p.data.length d2,.slice b1 p.banks.length b2⟩ p) (.slice (some ⟨kb,ko,none⟩) blocks.length bc) (F) 0 sy:=ChkAt.made s2 rfl q6 q5 Zo;have u2:=Ja a7;have H2:=Ja (show L w W2/\Y W2 (w.heap.size+1) #[.slice (some ⟨kb,ko,none⟩) blocks.length bc] 43/\W2.heap.size=C+1/\w.heap.size+2=m1/\m1+1=m2/\m2+1=C from⟨b5,m7,o4,by omega,by omega,by omega⟩);have c0:=K0 m7;have c1:=K1 o1;have c2:T W2 kb ko (.slice pa b0.params.length pc):=by have:=zV (b5.mono m.out.2.1) s4.out.1 s4.out.2;simpa using this
  have c3:T W2 ab (ao+n) (O x):=zV (b5.mono m.out.2.1) t2.out.1 t2.out.2;obtain⟨qe,j5⟩:∃q,decide ((b0.params.length:Int)=x)=q:=⟨_,rfl⟩
  have t1:((b0.params.length:Int) !=x)=!qe:=by rw[bne,vg j5]
  have g9:p.args.getD n 0=x:=by rw[Jj,j.out.2.2.2];rfl
  have m5:yi p n=(qe && ((wg p blocks).map (iM blocks)).getD false):=by
   unfold yi;rw[Jj,j.out.1,Ot,s7.out];simp only;rw[g9,j5]
  rw[n6.out] at m5;have f4:=Ja m5;clear x3 x4 t3 t4 a7 b5 s2 q6 q5 o1 m7 o4 y i8 e5 q0 p0 p1 p2 p3 p4 p5 j5 g9 m5
  cases qe with
  |false=>
   go_quiet (fail);go_wp2;go_ret
   exact⟨uz f4.out,yC H2.out.1⟩
  |true=>
   have a5:L w W2.drew:=H2.out.1.drew;have a6:=a5.mono m.out.2.1;have o3:=lM (m.out.1.below a6) (j.out.2.1.below yT a6) (Jn m.out.2.1 a5.size) (by have:=m.out.2.1;have:=H2.out.2.2.2;omega) (by have:=m.out.2.1;have:=H2.out.2.2.2;omega) m.out.2.2.1 j.out.2.2.1 (u2.out.below ((Below.refl W2.heap.size W2).drew));have n5:=Ja o3;have i0:=Ja a5;clear o3 a5 a6;obtain⟨r,hr⟩:∃r,wg p blocks=r:=⟨_,rfl⟩
   rw[hr] at n5 f4;have HR:=Ja hr;clear hr
   cases r with
   |none=>
    refine zt 14 Zk Zk ?_;simp only[Qo,Uc,Qp,Ui]
    repeat (go_big_quiet_step (fail))
    refine wpQuiet_nil ?_;go_wp2_with (first|(go_at_call 66;go_must (refine n5.out.mono ?_;rintro e w3 ⟨rfl,e9,_⟩))|go_in)
    go_ret
    exact⟨uz f4.out,i0.out.trans (e9.below (by have:=H2.out.2.2.2;omega) (by have:=H2.out.2.2.2;omega) i0.out.size)⟩
   |some d=>
    refine zt 14 Zk Zk ?_;simp only[Qo,Uc,Qp,Ui]
    repeat (go_big_quiet_step (fail))
    refine wpQuiet_nil ?_;go_upto_region 7 with(first|(go_at_call 66;go_must (refine n5.out.mono ?_;rintro e w3 ⟨rfl,e9,r4⟩))|go_in)
    obtain⟨N,hN,a7⟩:=r4 d rfl;have t:=i0.out.trans (e9.below (by have:=H2.out.2.2.2;omega) (by have:=H2.out.2.2.2;omega) i0.out.size);have m6:=e9.blk (b:=w.heap.size+1) H2.out.2.1 (by have:=H2.out.2.2.2;omega) (by have:=H2.out.2.2.2;omega);have g5:∀b∈blocks,(∀o∈b.ops,opF p o=true)/\wn blocks b.term=true:=rV blocks 0 sy d (by rw[<-wS];exact HR.out);have j1:C<w3.heap.size:=lt_of_block a7.blk;have r0:=ox (j.out.2.1.below yT (t.mono m.out.2.1)) (Jn m.out.2.1 t.size) ⟨j.out.2.2.1.1,fun b hb=>(j.out.2.2.1.2 b hb).2.2⟩;have HG:=Ja r0;have H3:=Ja (show L w w3/\Y w3 (w.heap.size+1) #[.slice (some ⟨kb,ko,none⟩) blocks.length bc] 43/\ChkAt w3 C m1 m2 (rC ⟨.slice (some ⟨fb,fo,none⟩) p.funcs.length f2,.slice (some ⟨ab,ao,none⟩) p.args.length a2,.slice d1 p.data.length d2,.slice b1 p.banks.length b2⟩ p) (.slice (some ⟨kb,ko,none⟩) blocks.length bc) (F) N d/\(∀b∈blocks,(∀o∈b.ops,opF p o=true)/\wn blocks b.term=true)/\C<w3.heap.size/\blocks≠ [] from⟨t,m6,a7,g5,j1,by rw[s7.out];simp⟩);have u0:=K0 m6;clear e9 r4 hN a7 t m6 g5 j1 r0 c0 c1 c2 c3 t1;have t6:(zk blocks).length=blocks.length:=by unfold zk;simp
    clear t6;go_upto_region 8 with(first|(go_at_call 38;go_must (refine HG.out.mono ?_;rintro e w4 ⟨gb,rfl,g6,r1,d3⟩))|go_in)
    have u9:(zk blocks).length=blocks.length:=by unfold zk;simp
    have f8:=(Below.refl w4.heap.size w4).alloc (Je _) (A #[Q gb (zk blocks).length (zk blocks).length] 93);have j3:=g6.below f8;have d8:=d3.trans (f8.mono d3.size);have b8:L w (w4.alloc (A #[Q gb (zk blocks).length (zk blocks).length] 93)):=H3.out.1.trans (d8.mono H3.out.1.size);have r2:=zH d8 H3.out.2.1 (lt_of_block H3.out.2.1);have h6:=H3.out.2.2.1.below d8;have m4:=zI (W:=w4) (o:=A #[Q gb (zk blocks).length (zk blocks).length] 93) rfl;have l2:C<w4.heap.size:=Jy H3.out.2.2.2.2.1 d3.size;have l3:=H3.out.2.2.2.2.1;generalize x2:w4.alloc (A #[Q gb (zk blocks).length (zk blocks).length] 93)=W5 at *;generalize v0:w4.heap.size=g4 at *;generalize l7:(zk blocks).length=gl at *
    have b7:∀W:World,OwnRows zN 3 22 W w3.heap.size gb (zk blocks)->GraphIn W (Q gb gl gl) (zy blocks):=fun W hW=>by
     have:=hW.asRows (Je _);rw[l7] at this;exact bU j.out.2.2.1 H3.out.2.2.2.2.2 (fun b hb=>(H3.out.2.2.2.1 b hb).2) this
    have n9:=Ja (show(∀W:World,OwnRows zN 3 22 W w3.heap.size gb (zk blocks)->GraphIn W (Q gb gl gl) (zy blocks))/\OwnRows zN 3 22 W5 w3.heap.size gb (zk blocks)/\w3.heap.size<=gb from⟨b7,j3,r1⟩);have s5:=Ja (b7 _ j3);have H5:=Ja (show L w W5/\Y W5 (w.heap.size+1) #[.slice (some ⟨kb,ko,none⟩) blocks.length bc] 43/\ChkAt W5 C m1 m2 (rC ⟨.slice (some ⟨fb,fo,none⟩) p.funcs.length f2,.slice (some ⟨ab,ao,none⟩) p.args.length a2,.slice d1 p.data.length d2,.slice b1 p.banks.length b2⟩ p) (.slice (some ⟨kb,ko,none⟩) blocks.length bc) (F) N d/\Y W5 g4 #[Q gb gl gl] 93/\C<g4/\C<w3.heap.size from⟨b8,r2,h6,m4,l2,l3⟩);have u5:=K0 m4;clear f8 j3 d8 b8 r2 h6 m4 l2 l3 x2 v0 g6 d3 u0 r1 b7 l7 u9;go_upto_region 9 with(first|(go_at_call 67;go_must (refine(qP s5.out).mono ?_;rintro e w6 ⟨iv,rfl,d5,d0⟩;obtain⟨ia,ic,rfl⟩:=zG d5;have e8:=H5.out.2.2.1.below d0;have v9:T w6 C 9 (F):=zA e8.blk rfl;have vf:w6.frozen? ⟨C,9,none⟩=false:=zE e8.blk))|go_in)
    have hv:=s5.out.valid;have nC:=zC d5 e8.blk (.inr Zd);have g7:=ownsRow_setCell_other (a:=⟨C,9,none⟩) d5 nC (.slice ia (wQ (zy blocks)).length ic);have l5:zY (w6.setCell ⟨C,9,none⟩ (.slice ia (wQ (zy blocks)).length ic)) (w6.setCell ⟨C,9,none⟩ (.slice ia (wQ (zy blocks)).length ic)).heap.size (.slice ia (wQ (zy blocks)).length ic) (wQ (zy blocks)):=uA g7 rfl (jT hv (by rw[xu];have:=j.out.2.2.1.1;omega));have h5:=e8.idom (.slice ia (wQ (zy blocks)).length ic);have a3:L w (w6.setCell ⟨C,9,none⟩ (.slice ia (wQ (zy blocks)).length ic)):=(H5.out.1.trans (d0.mono H5.out.1.size)).setCell (by have:=H2.out.2.2.2;simp;omega) _;have h4:=zR (a:=⟨C,9,none⟩) (u:=.slice ia (wQ (zy blocks)).length ic) (zH d0 H5.out.2.1 (lt_of_block H5.out.2.1)) (by have:=H2.out.2.2.2;simp;omega);have m3:=zR (a:=⟨C,9,none⟩) (u:=.slice ia (wQ (zy blocks)).length ic) (zH d0 H5.out.2.2.2.1 (lt_of_block H5.out.2.2.2.1)) (by have:=H5.out.2.2.2.2;simp;omega);have l8:=n9.out.1 _ ((n9.out.2.1.below d0).set (a:=⟨C,9,none⟩) (by have:=n9.out.2.2;have:=H5.out.2.2.2.2.2;simp;omega) (by have:=H5.out.2.2.2.2.2;simp;omega) (.slice ia (wQ (zy blocks)).length ic));generalize x1:w6.setCell ⟨C,9,none⟩ (.slice ia (wQ (zy blocks)).length ic)=W7 at *;have h:=Ja (show L w W7/\ChkAt W7 C m1 m2 (rC ⟨.slice (some ⟨fb,fo,none⟩) p.funcs.length f2,.slice (some ⟨ab,ao,none⟩) p.args.length a2,.slice d1 p.data.length d2,.slice b1 p.banks.length b2⟩ p) (.slice (some ⟨kb,ko,none⟩) blocks.length bc) (.slice ia (wQ (zy blocks)).length ic) N d/\zY W7 W7.heap.size (.slice ia (wQ (zy blocks)).length ic) (wQ (zy blocks))/\Y W7 (w.heap.size+1) #[.slice (some ⟨kb,ko,none⟩) blocks.length bc] 43/\zw (zy blocks) from⟨a3,h5,l5,h4,hv⟩)
    have k4:∀W,L W7 W->G 68 #[.agg #[Q gb gl gl]] W fun e w'=>∃a c,e=.returned (.slice a (vD (zy blocks)).length c)/\L W w':=fun W hb=>by
     refine(iJ (l8.below hb)).mono ?_;rintro e w' ⟨ov,rfl,ho,hb⟩;obtain⟨a,c,rfl⟩:=zG ho;exact⟨a,c,rfl,hb⟩
    have u1:=Ja k4;have y0:=K0 h4;have y1:=K0 m3;have l0:=lt_of_block h4;have l1:=lt_of_block m3;have k7:=Below.refl W7.heap.size W7;clear d5 d0 e8 v9 vf g7 nC l5 h5 a3 h4 m3 l8 k4 u5 hv x1;obtain⟨qo,j4⟩:∃q,decide ((vD (zy blocks)).length=blocks.length)=q:=⟨_,rfl⟩
    have t1:(((vD (zy blocks)).length:Int) !=(blocks.length:Int))=!qo:=by rw[bne,vg (q:=qo) (zZ j4 Zo)]
    have n7:=Ja j4;clear j4;generalize d6:(vD (zy blocks)).length=ol at *
    go_cut [57] (fun s wx=>s=.bool (!qo)/\Hid (L W7 wx))
    case first=>
     go_region_held3 (fun w'=>T w' (w.heap.size+1) 0 (.slice (some ⟨kb,ko,none⟩) blocks.length bc)/\T w' g4 0 (Q gb gl gl)/\L W7 w')
      (first
        |(go_split_ands;refine⟨?_,?_,?_⟩<;>assumption)
        |(go_split_ands;refine⟨?_,?_,uG ?_⟩<;>assumption))
      (first|(go_at_call 68;go_must (refine(u1.out _ (by repeat' (first|assumption|(with_reducible refine Below.drew ?_)))).mono ?_;rintro e w2 ⟨qa,qc,rfl,b5⟩;have t:L W7 w2:=Below.trans (by repeat' (first|assumption|(with_reducible refine Below.drew ?_))) (b5.mono (Below.size (B:=W7.heap.size) (w:=W7) (by repeat' (first|assumption|(with_reducible refine Below.drew ?_)))));have A7:T w2 (w.heap.size+1) 0 (.slice (some ⟨kb,ko,none⟩) blocks.length bc):=zV t l0 y0;have A6:T w2 g4 0 (Q gb gl gl):=zV t l1 y1)))
     all_goals
      go_wp2_with fail;go_meet;exact⟨rfl,Ja (by repeat' (first|assumption|(with_reducible refine Below.drew ?_)))⟩
    case rest=>
     obtain⟨rfl,HB⟩:=hcut
     cases qo with
     |false=>
      have hr:res=false:=by
       rw[f4.out,Option.map_some,Ot];unfold iM;rw[d6,n7.out];rfl
      go_wp2;go_ret
      exact⟨uz hr,h.out.1.trans (HB.out.mono h.out.1.size)⟩
     |true=>
      have hr:res=tO d (zy blocks) blocks 0:=by
       rw[f4.out,Option.map_some,Ot];unfold iM;rw[d6,n7.out];rfl
      have a9:=jl h.out.2.2.2.2 (by rw[d6,xu];exact of_decide_eq_true n7.out);have f3:=Ja (Jb hr a9);have y2:T wc (w.heap.size+1) 0 (.slice (some ⟨kb,ko,none⟩) blocks.length bc):=zV HB.out l0 y0;clear hr a9 y0 y1 k7 t1 d6;go_wp2
      go_loopw [61] (fun iv wx=>∃i:Nat,i<=blocks.length/\iv=O i/\Hid (L W7 wx/\tO d (zy blocks) (blocks.take i) 0=true)) (fun iv _=>blocks.length-(intOf iv).toNat)
      case atStart=>exact⟨0,Jt _,rfl,Ja ⟨HB.out,rfl⟩⟩
      case round=>
       obtain⟨i,hi,rfl,HI⟩:=hrel
       by_cases g8:i<blocks.length
       ·have t5:(i:Int)<blocks.length:=Zo;have h8:=Ja g8;obtain⟨bx,c9⟩:∃bx,blocks[i]? =some bx:=⟨_,Jd g8⟩
        obtain⟨b',o',e',b4,q9,q8,l4,A9,ov2,A8,e7,q4,q3,e6,k5,j0⟩:=j.out.2.1.get c9;cases e';obtain⟨g2,g1,rfl,k2,k0⟩:=e6.form;obtain⟨oa,oc,rfl,u8,u6⟩:=k5.form;obtain⟨ta,tc,rfl,u4,u3⟩:=j0.form;have B0:bx.ops.length<=9223372036854775807:=Zo;have l:Below B w wr:=(h.out.1.mono m.out.2.1).trans (HI.out.1.mono (Jn m.out.2.1 h.out.1.size));have e0:=zV l b4 e7;have e1:=zV l b4 q4;have e2:=zV l b4 q9;have e3:=zV l b4 q8;have e4:=zV l b4 q3;have a0:=Ja (show blocks[i]? =some bx/\mN w B (.slice oa bx.ops.length oc) bx.ops/\wH w B (.slice ta bx.term.to.length tc) bx.term.to/\(I64 bx.term.kind/\I64 bx.term.a)/\(bx.params.length<=2000000/\bx.ops.length<=2000000/\bx.term.to.length<=2000000)/\(∀o∈bx.ops,opF p o=true)/\wn blocks bx.term=true from⟨c9,k5,j0,l4,j.out.2.2.1.2 bx (Ji c9),(H3.out.2.2.2.1 bx (Ji c9)).1,(H3.out.2.2.2.1 bx (Ji c9)).2⟩);have i2:=zI (W:=wr) (o:=A #[.slice g2 bx.params.length g1,.slice oa bx.ops.length oc,O bx.term.kind,O bx.term.a,.slice ta bx.term.to.length tc] 49) rfl;have s0:=HI.out.1.alloc HI.out.1.size (A #[.slice g2 bx.params.length g1,.slice oa bx.ops.length oc,O bx.term.kind,O bx.term.a,.slice ta bx.term.to.length tc] 49);clear c9 q9 q8 l4 e7 q4 q3 e6 k5 j0 k2 k0 u8 u6 u4 u3 l g8 y2;go_upto_region 14 with fail;generalize x0:wr.alloc (A #[.slice g2 bx.params.length g1,.slice oa bx.ops.length oc,O bx.term.kind,O bx.term.a,.slice ta bx.term.to.length tc] 49)=W9 at *;generalize w5:wr.heap.size=b9 at *;have z1:=K1 i2;have H9:=Ja (show L W7 W9/\Y W9 b9 #[.slice g2 bx.params.length g1,.slice oa bx.ops.length oc,O bx.term.kind,O bx.term.a,.slice ta bx.term.to.length tc] 49 from⟨s0,i2⟩);clear x0 w5 i2 s0 e0 e1 e2 e3 e4;go_wp2
        go_loopw [69] (fun kv wx=>∃k:Nat,k<=bx.ops.length/\kv=O k/\Hid (L W9 wx/\xF d (zy blocks) i (bx.ops.take k) 0=true)) (fun kv _=>bx.ops.length-(intOf kv).toNat)
        case atStart=>exact⟨0,Jt _,rfl,Ja ⟨Below.refl _ _,rfl⟩⟩
        case round=>
         obtain⟨k,hk,rfl,HK⟩:=hrel
         by_cases d7:k<bx.ops.length
         ·have o0:(k:Int)<bx.ops.length:=Zo;have n8:=Ja d7;obtain⟨o,ho⟩:∃o,bx.ops[k]? =some o:=⟨_,Jd d7⟩
          obtain⟨qb,qo,rfl,c8,q2,q1,o9,o8,o6,k6,av,o5,n3⟩:=a0.out.2.1.get ho;obtain⟨aa,ac,rfl,n4,n2⟩:=n3.form;have g:L W7 wr:=H9.out.1.trans (HK.out.1.mono H9.out.1.size);have l:Below B w wr:=(h.out.1.mono m.out.2.1).trans (g.mono (Jn m.out.2.1 h.out.1.size));have c0:=zV l c8 q2;have c1:=zV l c8 q1;have c2:=zV l c8 o9;have c3:=zV l c8 o8;have c4:=zV l c8 o6;have c5:=zV l c8 o5;have b6:=zI (W:=wr) (o:=A (D o aa ac) 77) rfl;have r5:=HK.out.1.alloc HK.out.1.size (A (D o aa ac) 77);have a6:=l.alloc (Jn m.out.2.1 (Jn h.out.1.size g.size)) (A (D o aa ac) 77);have o2:=uses_any o k6 (Jn (Jn m.out.2.1 (Jn h.out.1.size g.size)) Zs) (n3.below zO a6) (aU m.out.2.2.2.1 (a0.out.2.2.2.2.2.1 o (Ji ho)));have HO:=Ja ho;clear ho q2 q1 o9 o8 o6 o5 k6 n3 n4 n2 l g d7 a6 z1;go_upto_region 17 with fail;generalize w9:wr.alloc (A (D o aa ac) 77)=WA at *;generalize w1:wr.heap.size=bA at *;have z7:=K0 b6;have z6:=K1 b6;have z0:=K2 b6;have y6:=K3 b6;have y5:=K4 b6;have y4:=K5 b6;have s3:=Ja o2;have d4:=Ja r5;clear o2 r5 b6 w9 w1 c0 c1 c2 c3 c4 c5;obtain⟨q,hq⟩:∃q,(rR o).all (yy d (zy blocks) i k)=q:=⟨_,rfl⟩
          have HQ:=Ja hq;clear hq
          have f0:∀W lv,L WA W->zY W W.heap.size lv (rR o)->G 69 #[I C,lv,O i,O k] W (ym W q):=fun W lv hb hin=>by
           have a3:L W7 W:=H9.out.1.trans ((d4.out.trans (hb.mono d4.out.size)).mono H9.out.1.size);rw[<-HQ.out];exact qI (h.out.2.1.below a3) h.out.2.2.2.2 f3.out.2 (by rw[xu];exact j.out.2.2.1.1) ((h.out.2.2.1.below zO a3).mono zO a3.size) (fun v b hv=>by rw[xu];exact rN HR.out v b hv) hin i (by rw[xu];exact h8.out) k (qL (Jn hk (Jn a0.out.2.2.2.2.1.2.1 Zd)))
          have h9:=Ja f0;clear f0
          cases q with
          |false=>
           go_wp2_with (first|(go_at_call 70;go_must (refine s3.out.mono ?_;rintro e wu ⟨uv,rfl,g3,b3⟩))|(go_at_call 69;go_must (refine(h9.out _ _ b3 g3).mono ?_;rintro e wd ⟨rfl,a5⟩))|go_in)
           go_ret
           have hr:res=false:=by
            rw[f3.out.1];refine pH a0.out.1 ?_;unfold aaC;rw[oA HO.out HQ.out];rfl
           have x5:L W7 wd:=H9.out.1.trans ((d4.out.trans ((b3.trans (a5.mono b3.size)).mono d4.out.size)).mono H9.out.1.size)
           exact⟨uz hr,h.out.1.trans (x5.mono h.out.1.size)⟩
          |true=>
           go_wp2_with (first|(go_at_call 70;go_must (refine s3.out.mono ?_;rintro e wu ⟨uv,rfl,g3,b3⟩))|(go_at_call 69;go_must (refine(h9.out _ _ b3 g3).mono ?_;rintro e wd ⟨rfl,a5⟩))|go_in)
           have HN:=Ja (d4.out.trans ((b3.trans (a5.mono b3.size)).mono d4.out.size));clear b3 a5 g3;go_roundw
           case rel=>
            have g0:=Ja (show L W9 wd/\xF d (zy blocks) i (bx.ops.take (k+1)) 0=true from⟨HN.out,by rw[gZ HO.out,HK.out.2,HQ.out];rfl⟩)
            (repeat apply Exists.intro);exact⟨⟨k+1,n8.out,by go_num,g0⟩,rfl⟩
           case measure=>have:=n8.out;simp[intOf];omega
         ·obtain rfl:k=bx.ops.length:=by omega
          have o0:¬(bx.ops.length:Int)<bx.ops.length:=Zo;have g:L W7 wr:=H9.out.1.trans (HK.out.1.mono H9.out.1.size);have a6:Below B w wr:=(h.out.1.mono m.out.2.1).trans (g.mono (Jn m.out.2.1 h.out.1.size));have c7:=zH HK.out.1 H9.out.2 (lt_of_block H9.out.2);have f6:=HK.out.2;rw[Nl] at f6;have z2:=K1 c7;have z3:=K2 c7;have z4:=K3 c7;have z5:=K4 c7;have l9:=lt_of_block c7;have k9:=Below.refl wr.heap.size wr;obtain⟨q,hq⟩:∃q,(mE bx.term).all (yy d (zy blocks) i bx.ops.length)=q:=⟨_,rfl⟩
          have r3:∀W,L wr W->G 71 #[.agg #[O bx.term.kind,O bx.term.a,.slice ta bx.term.to.length tc]] W (wG W (mE bx.term)):=fun W hb=>
           ends_any bx.term a0.out.2.2.2.1 (Jn (Jn m.out.2.1 (Jn h.out.1.size g.size)) hb.size) (a0.out.2.2.1.below xL (a6.trans (hb.mono (Jn m.out.2.1 (Jn h.out.1.size g.size))))) ⟨a0.out.2.2.2.2.1.2.2,lD j.out.2.2.1 a0.out.2.2.2.2.2.2⟩
          have f0:∀W lv,L wr W->zY W W.heap.size lv (mE bx.term)->G 69 #[I C,lv,O i,O (bx.ops.length:Int)] W (ym W q):=fun W lv hb hin=>by
           have a3:L W7 W:=g.trans (hb.mono g.size);rw[<-hq];exact qI (h.out.2.1.below a3) h.out.2.2.2.2 f3.out.2 (by rw[xu];exact j.out.2.2.1.1) ((h.out.2.2.1.below zO a3).mono zO a3.size) (fun v b hv=>by rw[xu];exact rN HR.out v b hv) hin i (by rw[xu];exact h8.out) _ (qL (Jn a0.out.2.2.2.2.1.2.1 Zd))
          have x6:=Ja r3;have h9:=Ja f0;have HQ:=Ja (show aaC d (zy blocks) bx i=q from by unfold aaC;rw[f6,hq];rfl);have i1:=Ja g;clear hq r3 f0 f6 c7 a6 g d7 z1;go_wp2_with fail
          go_cut [91] (fun s wx=>s=.bool (!q)/\Hid (L wr wx))
          case first=>
           go_region_held3 (fun w'=>T w' b9 1 (.slice oa bx.ops.length oc)/\T w' b9 2 (O bx.term.kind)/\T w' b9 3 (O bx.term.a)/\T w' b9 4 (.slice ta bx.term.to.length tc)/\L wr w')
            (first
              |(go_split_ands;refine⟨?_,?_,?_,?_,?_⟩<;>assumption)
              |(go_split_ands;refine⟨?_,?_,?_,?_,uG ?_⟩<;>assumption))
            (first
              |(go_at_call 71;go_must (refine(x6.out _ (by repeat' (first|assumption|(with_reducible refine Below.drew ?_)))).mono ?_;rintro e w2 ⟨ev,rfl,v3,b5⟩;have t:Below wr.heap.size wr w2:=Below.trans (by repeat' (first|assumption|(with_reducible refine Below.drew ?_))) (b5.mono (Below.size (B:=wr.heap.size) (w:=wr) (by repeat' (first|assumption|(with_reducible refine Below.drew ?_)))));have A1:=zV t l9 z2;have A0:=zV t l9 z3;have z9:=zV t l9 z4;have z8:=zV t l9 z5))
              |(go_at_call 69;go_must (refine(h9.out _ _ (by repeat' (first|assumption|(with_reducible refine Below.drew ?_))) v3).mono ?_;rintro e w4 ⟨rfl,d3⟩;have b8:Below wr.heap.size wr w4:=Below.trans (by repeat' (first|assumption|(with_reducible refine Below.drew ?_))) (d3.mono (Below.size (B:=wr.heap.size) (w:=wr) (by repeat' (first|assumption|(with_reducible refine Below.drew ?_)))));have A5:=zV b8 l9 z2;have A4:=zV b8 l9 z3;have A3:=zV b8 l9 z4;have A2:=zV b8 l9 z5)))
           all_goals
            go_wp2_with fail;go_meet;exact⟨rfl,Ja (by repeat' (first|assumption|(with_reducible refine Below.drew ?_)))⟩
          case rest=>
           obtain⟨rfl,s8⟩:=hcut
           cases q with
           |false=>
            have hr:=Ja (show res=false by rw[f3.out.1];exact pH a0.out.1 HQ.out);go_wp2;go_ret
            exact⟨uz hr.out,h.out.1.trans ((i1.out.trans (s8.out.mono i1.out.size)).mono h.out.1.size)⟩
           |true=>
            go_wp2;go_roundw
            case rel=>
             have g0:=Ja (show L W7 wc/\tO d (zy blocks) (blocks.take (i+1)) 0=true from⟨i1.out.trans (s8.out.mono i1.out.size),by rw[mz a0.out.1,HI.out.2,HQ.out];rfl⟩)
             (repeat apply Exists.intro);exact⟨⟨i+1,h8.out,by go_num,g0⟩,rfl⟩
            case measure=>have:=h8.out;simp[intOf];omega
       ·obtain rfl:i=blocks.length:=by omega
        have t5:¬(blocks.length:Int)<blocks.length:=Zo;have a9:=HI.out.2;rw[Nl] at a9;have hr:=Ja (f3.out.1.trans a9);clear a9 g8 y2;go_wp2;go_ret;exact⟨uz hr.out,h.out.1.trans (HI.out.1.mono h.out.1.size)⟩
theorem pZ:I64 0:=⟨by omega,by omega⟩
theorem i64_neg:I64 (-1):=⟨by omega,by omega⟩
def rd (t:ITerm)(ops:List IOp):IProg:=⟨[[⟨[],ops,t⟩]],[0],0,-1,[],[]⟩
def mL (w:World)(p:IProg)(e:Ending)(w':World):Prop:=∃V,e=.returned (yH V p)/\ProgIn w' w'.heap.size V p/\L w w'
theorem yN.nil{α:Type}{sz:Nat}{R:World->Nat->Nat->Nat->α->Prop}{B:Nat}:yN sz R w B (F) []:=
 ⟨none,0,rfl,Je _,by omega,fun k x hk=>by simp at hk⟩
theorem yN.one{α:Type}{sz:Nat}{R:World->Nat->Nat->Nat->α->Prop}{B b:Nat}{x:α}(hb:b<B)(h:R w B b 0 x):yN sz R w B (Q b 1 1) [x]:=
 ⟨_,1,rfl,Je _,by omega,fun k y hk=>by
   have c:k=0:=by have:=(Jh.1 hk).1;simp at this;omega
   subst c;cases hk
   exact⟨b,0,rfl,hb,by simpa using h⟩⟩
theorem kW{tk ta:Int}(i:I64 tk/\I64 ta){c:List IEdge}{tv:Value}(d:wH w w.heap.size tv c){ops:List IOp}{ov:Value}(g:mN w w.heap.size ov ops):
 G 32 #[.agg #[O tk,O ta,tv],ov] w (mL w (rd ⟨tk,ta,c⟩ ops)):=by
 obtain⟨ea,ec,rfl,_,_⟩:=d.form;obtain⟨oa,oc,rfl,_,_⟩:=g.form;have h:=Ja (Jb i (Jb d g));clear d g i;go_enter Try.func32,Try.ntmps32;go_wp2;have hb:L w (((((w.alloc (A #[O tk,O ta,.slice ea c.length ec] 47)).alloc (A #[Q (w.heap.size+1+1+1) 1 1,Q (w.heap.size+1+1+1+1) 1 1,O 0,O (-1),F,F] 29)).alloc (A #[F,.slice oa ops.length oc,O tk,O ta,.slice ea c.length ec] 49)).alloc (A #[Q (w.heap.size+1+1) 1 1] 43)).alloc (A #[O 0] 3)):=(((((Below.refl _ _).alloc (Je _) _).alloc Zs _).alloc Zt _).alloc Zt _).alloc Zt _;have h1:Y (((((w.alloc (A #[O tk,O ta,.slice ea c.length ec] 47)).alloc (A #[Q (w.heap.size+1+1+1) 1 1,Q (w.heap.size+1+1+1+1) 1 1,O 0,O (-1),F,F] 29)).alloc (A #[F,.slice oa ops.length oc,O tk,O ta,.slice ea c.length ec] 49)).alloc (A #[Q (w.heap.size+1+1) 1 1] 43)).alloc (A #[O 0] 3)) (w.heap.size+1+1) #[F,.slice oa ops.length oc,O tk,O ta,.slice ea c.length ec] 49:=zB (zB (zI Zs));have h2:Y (((((w.alloc (A #[O tk,O ta,.slice ea c.length ec] 47)).alloc (A #[Q (w.heap.size+1+1+1) 1 1,Q (w.heap.size+1+1+1+1) 1 1,O 0,O (-1),F,F] 29)).alloc (A #[F,.slice oa ops.length oc,O tk,O ta,.slice ea c.length ec] 49)).alloc (A #[Q (w.heap.size+1+1) 1 1] 43)).alloc (A #[O 0] 3)) (w.heap.size+1+1+1) #[Q (w.heap.size+1+1) 1 1] 43:=zB (zI Zs);have h3:Y (((((w.alloc (A #[O tk,O ta,.slice ea c.length ec] 47)).alloc (A #[Q (w.heap.size+1+1+1) 1 1,Q (w.heap.size+1+1+1+1) 1 1,O 0,O (-1),F,F] 29)).alloc (A #[F,.slice oa ops.length oc,O tk,O ta,.slice ea c.length ec] 49)).alloc (A #[Q (w.heap.size+1+1) 1 1] 43)).alloc (A #[O 0] 3)) (w.heap.size+1+1+1+1) #[O 0] 3:=zI Zs;refine bodyPost_ret (v:=.agg #[Q (w.heap.size+1+1+1) 1 1,Q (w.heap.size+1+1+1+1) 1 1,O 0,O (-1),F,F]) ?_ rfl ?_
 ·rw[zM rfl];go_simp
 ·generalize m:((((w.alloc (A #[O tk,O ta,.slice ea c.length ec] 47)).alloc (A #[Q (w.heap.size+1+1+1) 1 1,Q (w.heap.size+1+1+1+1) 1 1,O 0,O (-1),F,F] 29)).alloc (A #[F,.slice oa ops.length oc,O tk,O ta,.slice ea c.length ec] 49)).alloc (A #[Q (w.heap.size+1+1) 1 1] 43)).alloc (A #[O 0] 3)=W at *;have l:=lt_of_block h3;have k:=(h.out.2.1.below xL hb).mono xL hb.size;have j:=(h.out.2.2.below xA hb).mono xA hb.size;refine⟨⟨Q (w.heap.size+1+1+1) 1 1,Q (w.heap.size+1+1+1+1) 1 1,F,F⟩,rfl,⟨?_,?_,yN.nil,yN.nil,pZ,i64_neg⟩,hb⟩
  ·refine yN.one Zo ⟨Q (w.heap.size+1+1) 1 1,zA h2 Zs,yN.one Zo ?_⟩;exact⟨zA h1 Zs,zA h1 Zs,h.out.1,F,.slice oa ops.length oc,.slice ea c.length ec,zA h1 Zs,zA h1 Zs,zA h1 Zs,yN.nil,j,k⟩
  ·exact yN.one Zo ⟨zA h3 Zs,⟨by decide,by decide⟩⟩
end Go.Proofs.Ytojclalkfhoooaa
