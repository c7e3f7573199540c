/- Part of a proof. -/
import Derived.Test.YtoahcpkibpomcaaGreatGLift7v
import Derived.Test.YtoahcpkibpomcaaGreatIOper2v
set_option linter.all false
set_option maxHeartbeats 8000000
set_option maxRecDepth 100000
namespace Go.Proofs.YtoahcpkibpomcaaGreat
open Go.RowKit
variable {W w:World}{C i j m1 m2 n':Nat}{g:List (List Nat)}{c:Value}{d d1:wO}{bl blocks:List IBlk}
theorem ju{p:IProg}(o:IOp)(ho:qN o)(ar:Option Addr)(g:Nat)(hs:zi o.code=⟨false,false,false,false,false⟩):
 G 138 #[Y C,opV o (.slice ar o.args.length g)] w (ym w (opF p o)):=by
 unfold opV;obtain⟨j,h,l,k,i⟩:=ho;have e:opF p o=false:=by unfold opF;rw[hs];rfl
 rw[e];have hf:∀W,G 142 #[I o.code] W fun e w'=>e=.returned (.tuple #[.agg #[.bool false,.bool false,.bool false,.bool false],.bool false])/\O W w':=fun W=>by have:=yu o.code W;rw[hs] at this;exact this
 have q:=Ja hf;clear hf hs e;go_enter Tryz.func138,Tryz.ntmps138;go_wp2_with (first|(go_at_call 142;go_must (refine(q.out _).mono ?_;rintro e w1 ⟨rfl,c⟩;have d:=Ja c;clear c))|go_in)
 go_ret;exact⟨rfl,(((Below.refl _ _).alloc (Je _) _).trans (d.out.mono Zs)).alloc (by have m:=d.out.size;simp at m;omega) _⟩
theorem oper_any{B:Nat}{V:PV}{tl:List Value}{p:IProg}(hp:ProgIn w B V p)(hB:B<=w.heap.size)(k:Q w C (rC V p++tl).toArray 173)(hl:p.args.length=p.funcs.length)(o:IOp)(ho:qN o)(ar:Option Addr)(c:Nat)(d:o.args.length<=c/\c<=9223372036854775807):
 G 138 #[Y C,opV o (.slice ar o.args.length c)] w (ym w (opF p o)):=by
 by_cases i:o.code=26
 ·exact kM hp hB k hl o ho ar c d i
 by_cases h2:o.code=2
 ·exact jo hp hB k hl o ho ar c d h2
 by_cases j:o.code=24
 ·exact oper_in (pvs:=[]) o ho ar c d j
 by_cases g:o.code=25
 ·exact oper_out (pvs:=[]) o ho ar c d g
 rcases rJ o.code with⟨h,e⟩|⟨h,e⟩|⟨h,e⟩|⟨h,e⟩|⟨h,e⟩|⟨h,e⟩|⟨h,e⟩|⟨h,e⟩
 ·exact kG (pvs:=[]) o ho ar c d e i h2 j g
 ·exact oper_una (pvs:=[]) o ho ar c d e i h2 j g
 ·exact oper_bin (pvs:=[]) o ho ar c d e i h2 j g
 ·exact oper_sto (pvs:=[]) o ho ar c d e i h2 j g
 ·exact oper_rom (pvs:=[]) o ho ar c d e i h2 j g
 ·exact absurd h g
 ·exact kY (pvs:=[]) o ho ar c d e i h2 j g
 ·exact ju o ho ar c e
theorem cnt_lt(hi:i<=2000000)(c:j<=2000000):i*4000000+j<9000000000000000000:=by omega
theorem cnt_lt2(hi:i<=2000000)(c:j<=2000000):i*4000000+2000000+j<9000000000000000000:=by omega
theorem cnt_0 (i:Nat):i*4000000<=i*4000000+0:=by omega
theorem cnt_1 (i j:Nat):i*4000000+j+1<=i*4000000+(j+1):=by omega
theorem cnt_2(h:j<=2000000):i*4000000+j<=i*4000000+2000000+0:=by omega
theorem cnt_3 (i j:Nat):i*4000000+2000000+j+1<=i*4000000+2000000+(j+1):=by omega
theorem cnt_3' (i j:Nat):i*4000000+2000000+j<=i*4000000+2000000+(j+1):=by omega
theorem cnt_4(h:j<=2000000):i*4000000+2000000+j<=(i+1)*4000000:=by omega
theorem wA.le{b n:Nat}{g:Int->Option Int}(h:wA w b n g)(d:n<=n'):wA w b n' g:=by
 obtain⟨D,⟨es,c,k1,k2,k3,k4⟩,k5⟩:=h;exact⟨D,⟨es,c,k1,k2,Jn k3 d,k4⟩,k5⟩
theorem ChkAt.le{pv:List Value}{g:Value}{n:Nat}(h:ChkAt w C m1 m2 pv g c n d)(i:n<=n'):ChkAt w C m1 m2 pv g c n' d:=
 ⟨h.blk,h.plen,h.map1.le i,h.map2.le i,h.ne,h.dom⟩
theorem qL {n:Nat}(h:n<=9000000):I64 (n:Int):=⟨by omega,by omega⟩
theorem blkF_eq{p:IProg}{i:Int}{b:IBlk}{d2:wO}(h1:vJ i b.params d=some d1)(h2:sS p i b.ops 0 d1=some d2):pS p bl i b d=if wn bl b.term then some d2 else none:=by
 unfold pS;rw[h1,Nw,h2,Nw]
theorem mS{p:IProg}{i:Int}{b:IBlk}(h1:vJ i b.params d=none):pS p bl i b d=none:=by
 unfold pS;rw[h1];rfl
theorem mm{p:IProg}{i:Int}{b:IBlk}(h1:vJ i b.params d=some d1)(h2:sS p i b.ops 0 d1=none):pS p bl i b d=none:=by
 unfold pS;rw[h1,Nw,h2];rfl
theorem lM{B:Nat}{V:PV}{p:IProg}{g1 d0:Value}(hp:ProgIn w B V p)(g0:wX w B g1 blocks)(hB:B<=w.heap.size)(h1:B<=m1)(h2:B<=m2)(hl:p.args.length=p.funcs.length)(hs:vZ blocks)
 (hc:ChkAt w C m1 m2 (rC V p) g1 d0 0 ae1):
 G 117 #[Y C] w (ShpPost w C m1 m2 (rC V p) g1 d0 (wg p blocks)):=by
 obtain⟨fa,fc,rfl,l2,l1⟩:=g0.form;have n2:blocks.length<=9223372036854775807:=Zo;have k0:=Ja g0;have m:=Ja (show ProgIn w B V p/\B<=w.heap.size/\B<=m1/\B<=m2/\p.args.length=p.funcs.length/\vZ blocks from⟨hp,hB,h1,h2,hl,hs⟩);have n3:=Ja hc.ne1;have n4:=Ja (Jb hc.map1.lt hc.map2.lt);have l9:=Ja hc;obtain⟨res,e5⟩:∃x,wg p blocks=x:=⟨_,rfl⟩
 rw[e5];have t:=Ja e5;have y6:A w C 6 (.slice fa blocks.length fc):=zA hc.blk rfl;clear hp g0 hB h1 h2 hl hs hc e5 l2 l1;go_enter Tryz.func117,Tryz.ntmps117;go_wp2
 go_loopw [15] (fun kv wx=>∃i:Nat,i<=blocks.length/\kv=I i/\Hid (Kept m1 m2 w wx/\∃d,ChkAt wx C m1 m2 (rC V p) (.slice fa blocks.length fc) d0 (i*4000000) d/\uH p blocks (blocks.take i) 0 ae1=some d)) (fun kv _=>blocks.length-(intOf kv).toNat)
 case atStart=>exact⟨0,Jt _,rfl,Ja ⟨Kept.refl _ _ _,ae1,l9.out,rfl⟩⟩
 case round=>
  obtain⟨i,hi,rfl,HI⟩:=hrel
  by_cases e8:i<blocks.length
  ·have k2:(i:Int)<blocks.length:=Zo;have j5:=Ja e8;obtain⟨bx,b1⟩:∃bx,blocks[i]? =some bx:=⟨_,Jd e8⟩
   obtain⟨fb,fo,rfl,d3,i7,a6,f8,pv,ov,tv,i4,i3,i2,f4,f6,f3⟩:=k0.out.get b1;obtain⟨pa,pc,rfl,k7,k6⟩:=f4.form;obtain⟨oa,oc,rfl,l0,k9⟩:=f6.form;obtain⟨ta,tc,rfl,k5,k4⟩:=f3.form;have n0:bx.params.length<=9223372036854775807:=Zo;have n1:bx.ops.length<=9223372036854775807:=Zo;have g:Below B w wr:=HI.out.1.below m.out.2.2.1 m.out.2.2.2.1 m.out.2.1;have e0:=zV g d3 i4;have e1:=zV g d3 i3;have e2:=zV g d3 i7;have e3:=zV g d3 a6;have e4:=zV g d3 i2;have u:=Ja (show blocks[i]? =some bx/\zY w B (.slice pa bx.params.length pc) bx.params/\mN w B (.slice oa bx.ops.length oc) bx.ops/\wH w B (.slice ta bx.term.to.length tc) bx.term.to/\(I64 bx.term.kind/\I64 bx.term.a) from⟨b1,f4,f6,f3,f8⟩);obtain⟨d,h,c⟩:=HI.out.2;have i9:=h.below ((Below.refl wr.heap.size wr).alloc (Je _) (T #[.slice pa bx.params.length pc,.slice oa bx.ops.length oc,I bx.term.kind,I bx.term.a,.slice ta bx.term.to.length tc] 84));have j4:=Ja (Jb h.map1.lt h.map2.lt);have a1:=Ja c;have f2:=zI (W:=wr) (o:=T #[.slice pa bx.params.length pc,.slice oa bx.ops.length oc,I bx.term.kind,I bx.term.a,.slice ta bx.term.to.length tc] 84) rfl;have i6:=HI.out.1.trans (Kept.of ((Below.refl wr.heap.size wr).alloc (Je _) (T #[.slice pa bx.params.length pc,.slice oa bx.ops.length oc,I bx.term.kind,I bx.term.a,.slice ta bx.term.to.length tc] 84)));clear b1 i7 a6 f8 i4 i3 i2 f4 f6 f3 k7 k6 l0 k9 k5 k4 g h c e8 y6;go_upto_region 4 with fail;generalize l5:wr.alloc (T #[.slice pa bx.params.length pc,.slice oa bx.ops.length oc,I bx.term.kind,I bx.term.a,.slice ta bx.term.to.length tc] 84)=W1 at *;generalize l:wr.heap.size=b4 at *;have z0:=K0 f2;have d4:=Ja (show Q W1 b4 #[.slice pa bx.params.length pc,.slice oa bx.ops.length oc,I bx.term.kind,I bx.term.a,.slice ta bx.term.to.length tc] 84/\b4≠m1/\b4≠m2 from⟨f2,by have:=j4.out.1;omega,by have:=j4.out.2;omega⟩);have g5:=Ja i6;have l8:=Ja i9;have d5:=Ja (m.out.2.2.2.2.2.2 bx (Ji u.out.1));have f0:=Ja (show i<=2000000 from Jn hi m.out.2.2.2.2.2.1);clear l5 l f2 i9 i6 e0 e1 e2 e3 e4;go_wp2
   go_loopw [23] (fun jv wx=>∃j:Nat,j<=bx.params.length/\jv=I j/\Hid (Kept m1 m2 W1 wx/\∃d',ChkAt wx C m1 m2 (rC V p) (.slice (some ⟨fb,fo,none⟩) blocks.length fc) d0 (i*4000000+j) d'/\vJ i (bx.params.take j) d=some d')) (fun jv _=>bx.params.length-(intOf jv).toNat)
   case atStart=>exact⟨0,Jt _,rfl,Ja ⟨Kept.refl _ _ _,d,l8.out.le (cnt_0 i),rfl⟩⟩
   case round=>
    obtain⟨j,hj,rfl,HJ⟩:=hrel
    by_cases a9:j<bx.params.length
    ·have h5:(j:Int)<bx.params.length:=Zo;have g4:=Ja a9;obtain⟨v,hv⟩:∃v,bx.params[j]? =some v:=⟨_,Jd a9⟩
     obtain⟨qb,qo,rfl,y,e7,b5⟩:=u.out.2.1.get hv;rw[Nk] at e7;have g:Below B w wr:=(g5.out.trans HJ.out.1).below m.out.2.2.1 m.out.2.2.2.1 m.out.2.1;have cv:=zV g y e7;obtain⟨d',h,c⟩:=HJ.out.2;have HV:=Ja (show bx.params[j]? =some v/\vJ i (bx.params.take j) d=some d' from⟨hv,c⟩);have c7:I64 (i:Int):=qL (by have:=f0.out;omega);have b9:I64 (-1):=⟨by omega,by omega⟩
     cases a0:rB d' v i (-1) with
     |none=>
      have HD:=Ja a0;have c9:=Ja (oK h v i (-1) b5 c7 b9 a0);clear hv e7 y g h c a0 c7 b9 a9 b5 z0;go_wp2_with (go_at_call 137;go_must (refine c9.out.mono ?_;intro e w1 hh;obtain⟨rfl,hw⟩:=hh;rw[hw];clear hw))
      go_ret;refine⟨?_,g5.out.trans HJ.out.1,fun d2 hd2=>?_⟩
      ·rw[<-t.out,wS,abe u.out.1 a1.out (mS (qr HV.out.1 HV.out.2 HD.out))];rfl
      ·rw[<-t.out,wS,abe u.out.1 a1.out (mS (qr HV.out.1 HV.out.2 HD.out))] at hd2;cases hd2
     |some d2=>
      have HD:=Ja a0;have c9:=Ja (qk h (cnt_lt f0.out (Jn hj d5.out.1)) v i (-1) b5 c7 b9 a0);clear hv e7 y g h c a0 c7 b9 a9 b5 z0;go_wp2_with (go_at_call 137;go_must (refine c9.out.mono ?_;rintro e w1 ⟨rfl,b0,a6⟩))
      have d7:=Ja (Jb b0 a6);clear b0 a6;go_roundw
      case rel=>exact⟨j+1,g4.out,by go_num,Ja ⟨HJ.out.1.trans d7.out.2,d2,d7.out.1.le (cnt_1 i j),(aC HV.out.1 HV.out.2).trans HD.out⟩⟩
      case measure=>have:=g4.out;simp[intOf];omega
    ·obtain rfl:j=bx.params.length:=by omega
     have h5:¬(bx.params.length:Int)<bx.params.length:=Zo;obtain⟨d1,h,c⟩:=HJ.out.2;rw[Nl] at c;have g6:=Ja c;have f1:=Ja h;have a2:=HJ.out.1.blk d4.out.1 d4.out.2.1 d4.out.2.2;have z1:=K1 a2;have l7:=Ja a2;have b3:=Ja (g5.out.trans HJ.out.1);clear h c a9 a2 z0;generalize wr=W2 at *;go_wp2
     go_loopw [36] (fun kv wx=>∃k:Nat,k<=bx.ops.length/\kv=I k/\Hid (Kept m1 m2 W2 wx/\∃d',ChkAt wx C m1 m2 (rC V p) (.slice (some ⟨fb,fo,none⟩) blocks.length fc) d0 (i*4000000+2000000+k) d'/\sS p i (bx.ops.take k) 0 d1=some d')) (fun kv _=>bx.ops.length-(intOf kv).toNat)
     case atStart=>exact⟨0,Jt _,rfl,Ja ⟨Kept.refl _ _ _,d1,f1.out.le (cnt_2 d5.out.1),rfl⟩⟩
     case round=>
      obtain⟨k,hk,rfl,HK⟩:=hrel
      by_cases b7:k<bx.ops.length
      ·have h4:(k:Int)<bx.ops.length:=Zo;have c8:=Ja b7;obtain⟨o,ho⟩:∃o,bx.ops[k]? =some o:=⟨_,Jd b7⟩
       obtain⟨qb,qo,rfl,y,i1,i0,h9,h8,h7,f7,av,h6,j1⟩:=u.out.2.2.1.get ho;obtain⟨aa,ac,rfl,j2,j0⟩:=j1.form;have g:Below B w wr:=(b3.out.trans HK.out.1).below m.out.2.2.1 m.out.2.2.2.1 m.out.2.1;have c0:=zV g y i1;have c1:=zV g y i0;have c2:=zV g y h9;have c3:=zV g y h8;have c4:=zV g y h7;have c5:=zV g y h6;obtain⟨d',h,c⟩:=HK.out.2;have HV:=Ja (show bx.ops[k]? =some o/\sS p i (bx.ops.take k) 0 d1=some d' from⟨ho,c⟩);have g2:=Ja (show(I64 o.code/\I64 o.res/\I64 o.a/\I64 o.b/\o.n<65536)/\o.args.length<=ac/\ac<=9223372036854775807 from⟨f7,j2,j0⟩);have e6:=(Below.refl wr.heap.size wr).alloc (Je _) (T (D o aa ac) 76);have a3:=zI (W:=wr) (o:=T (D o aa ac) 76) rfl;have i5:=HK.out.1.trans (Kept.of e6);have f9:=h.below e6;have b1:Below B w (wr.alloc (T (D o aa ac) 76)):=g.alloc (Jn m.out.2.1 g.size) _;have g3:=Ja (Jb h.map1.lt h.map2.lt);clear ho i1 i0 h9 h8 h7 h6 f7 j1 j2 j0 g h c b7 z1;go_upto_region 13 with fail;generalize l4:wr.alloc (T (D o aa ac) 76)=W3 at *;generalize l3:wr.heap.size=b8 at *;have m7:=K0 a3;have m6:=K1 a3;have m5:=K2 a3;have m4:=K3 a3;have m3:=K4 a3;have m0:=K5 a3;have f5:=oper_any (m.out.1.below b1) (Jn m.out.2.1 b1.size) f9.blk m.out.2.2.2.2.1 o g2.out.1 aa ac g2.out.2;unfold opV at f5;have d6:=Ja f5;have e9:=Ja i5;have g8:=Ja f9;have b2:=Ja a3;have n5:=Ja (show b8≠m1/\b8≠m2 from⟨by have:=g3.out.1;omega,by have:=g3.out.2;omega⟩);clear f5 i5 f9 a3 l4 l3 b1 e6 c0 c1 c2 c3 c4 c5;obtain⟨q,hq⟩:∃q,opF p o=q:=⟨_,rfl⟩
       rw[hq] at d6;have HQ:=Ja hq;clear hq
       cases q with
       |false=>
        go_wp2_with (first|(go_at_call 138;go_must (refine d6.out.mono ?_;rintro e w4 ⟨rfl,l⟩))|go_in)
        go_ret
        have a5:wg p blocks=none:=by
         rw[wS];exact abe u.out.1 a1.out (mm g6.out (oR HV.out.1 HV.out.2 (by unfold ug;rw[HQ.out];rfl)))
        refine⟨?_,(b3.out.trans e9.out).trans (Kept.of l),fun d2 hd2=>?_⟩
        ·rw[<-t.out,a5];rfl
        ·rw[<-t.out,a5] at hd2;cases hd2
       |true=>
        by_cases hr:0<=o.res
        ·have t1:decide (0<=o.res)=true:=decide_eq_true hr;have HR:=Ja hr;obtain⟨r,a0⟩:∃r,rB d' o.res i k=r:=⟨_,rfl⟩
         have HD:=Ja a0;have h64:=Ja (show I64 o.res/\I64 (i:Int)/\I64 (k:Int) from⟨g2.out.1.2.1,qL (Jn f0.out Zd),qL (Jn (Jn hk d5.out.2.1) Zd)⟩);clear hr a0
         cases r with
         |none=>
          go_wp2_with (first|(go_at_call 138;go_must (refine d6.out.mono ?_;rintro e w4 ⟨rfl,l⟩;have a7:=g8.out.below l;have a4:=zH l b2.out (lt_of_block b2.out);have u1:=K1 a4;have a8:=Ja (Jb a7 l);clear a7 l a4))|(go_at_call 137;go_must (refine(oK a8.out.1 o.res i k h64.out.1 h64.out.2.1 h64.out.2.2 HD.out).mono ?_;intro e w5 hh;obtain⟨rfl,hw⟩:=hh;rw[hw];clear hw))|go_in)
          go_ret
          have a5:wg p blocks=none:=by
           rw[wS];exact abe u.out.1 a1.out (mm g6.out (oR HV.out.1 HV.out.2 (by unfold ug;rw[HQ.out,if_pos rfl,if_pos HR.out,HD.out])))
          refine⟨?_,(b3.out.trans e9.out).trans (Kept.of a8.out.2),fun d2 hd2=>?_⟩
          ·rw[<-t.out,a5];rfl
          ·rw[<-t.out,a5] at hd2;cases hd2
         |some d2=>
          go_wp2_with (first|(go_at_call 138;go_must (refine d6.out.mono ?_;rintro e w4 ⟨rfl,l⟩;have a7:=g8.out.below l;have a4:=zH l b2.out (lt_of_block b2.out);have u1:=K1 a4;have a8:=Ja (Jb a7 l);clear a7 l a4))|(go_at_call 137;go_must (refine(qk a8.out.1 (cnt_lt2 f0.out (Jn hk d5.out.2.1)) o.res i k h64.out.1 h64.out.2.1 h64.out.2.2 HD.out).mono ?_;rintro e w5 ⟨rfl,b0,a6⟩;have d7:=Ja (Jb b0 a6);clear b0 a6))|go_in)
          go_roundw
          case rel=>exact⟨k+1,c8.out,by go_num,Ja ⟨(e9.out.trans (Kept.of a8.out.2)).trans d7.out.2,d2,d7.out.1.le (cnt_3 i k),(cK HV.out.1 HV.out.2).trans (by unfold ug;rw[HQ.out,if_pos rfl,if_pos HR.out,HD.out])⟩⟩
          case measure=>have:=c8.out;simp[intOf];omega
        ·have t1:decide (0<=o.res)=false:=decide_eq_false hr;have HR:=Ja hr;clear hr;go_wp2_with (first|(go_at_call 138;go_must (refine d6.out.mono ?_;rintro e w4 ⟨rfl,l⟩;have a7:=g8.out.below l;have a4:=zH l b2.out (lt_of_block b2.out);have u1:=K1 a4;have a8:=Ja (Jb a7 l);clear a7 l a4))|go_in)
         go_roundw
         case rel=>exact⟨k+1,c8.out,by go_num,Ja ⟨e9.out.trans (Kept.of a8.out.2),d',a8.out.1.le (cnt_3' i k),(cK HV.out.1 HV.out.2).trans (by unfold ug;rw[HQ.out,if_pos rfl,if_neg (by have:=HR.out;omega)])⟩⟩
         case measure=>have:=c8.out;simp[intOf];omega
      ·obtain rfl:k=bx.ops.length:=by omega
       have h4:¬(bx.ops.length:Int)<bx.ops.length:=Zo;obtain⟨d2,h,c⟩:=HK.out.2;rw[Nl] at c;have a2:=HK.out.1.blk l7.out d4.out.2.1 d4.out.2.2;have z2:=K2 a2;have z3:=K3 a2;have z4:=K4 a2;have g:Below B w wr:=(b3.out.trans HK.out.1).below m.out.2.2.1 m.out.2.2.2.1 m.out.2.1;have b6:=term_any (k0.out.below yT g) (Jn m.out.2.1 g.size) h.blk rfl bx.term u.out.2.2.2.2 (u.out.2.2.2.1.below xL g);have h0:=Ja (blkF_eq (p:=p) (bl:=blocks) g6.out c);obtain⟨q,hq⟩:∃q,wn blocks bx.term=q:=⟨_,rfl⟩
       rw[hq] at b6 h0;have j3:=Ja b6;have k3:=Ja h;clear h c a2 g b6 hq b7 z1
       cases q with
       |false=>
        go_wp2_with (first|(go_at_call 139;go_must (refine j3.out.mono ?_;rintro e w4 ⟨rfl,l⟩))|go_in)
        go_ret
        have a5:wg p blocks=none:=by
         rw[wS];exact abe u.out.1 a1.out (by rw[h0.out];rfl)
        refine⟨?_,(b3.out.trans HK.out.1).trans (Kept.of l),fun d2 hd2=>?_⟩
        ·rw[<-t.out,a5];rfl
        ·rw[<-t.out,a5] at hd2;cases hd2
       |true=>
        go_wp2_with (first|(go_at_call 139;go_must (refine j3.out.mono ?_;rintro e w4 ⟨rfl,l⟩))|go_in)
        have k1:=Ja l;clear l;go_roundw
        case rel=>exact⟨i+1,j5.out,by go_num,Ja ⟨(b3.out.trans HK.out.1).trans (Kept.of k1.out),d2,(k3.out.below k1.out).le (cnt_4 d5.out.2.1),(lQ u.out.1 a1.out).trans (by rw[h0.out];rfl)⟩⟩
        case measure=>have:=j5.out;simp[intOf];omega
  ·obtain rfl:i=blocks.length:=by omega
   have k2:¬(blocks.length:Int)<blocks.length:=Zo;obtain⟨d,h,c⟩:=HI.out.2;rw[Nl] at c;have f1:=Ja (Jb h c);clear h c e8;go_wp2;go_ret;have hr:res=some d:=by rw[<-t.out,wS,f1.out.2]
   rw[hr];refine⟨rfl,HI.out.1,fun d2 hd2=>?_⟩;cases hd2;exact⟨_,cnt_lt m.out.2.2.2.2.2.1 (Jt _),f1.out.1.le (cnt_0 _)⟩
theorem jT(hv:zw g)(h:g.length<=9000000):∀x∈wQ g,I64 x:=by
 intro x d;unfold wQ at d;obtain⟨c,i,rfl⟩:=Nu.1 d;rcases idomOf hv c with⟨h1,_⟩|⟨c',h1,_,h3,_⟩
 ·rw[h1];exact⟨by omega,by omega⟩
 ·have:=(cA hv h3).1;rw[h1];exact⟨by omega,by omega⟩
theorem lp {α:Type}:∀l:List α,l=[]∨∃a m,l=a::m
 | []=> .inl rfl
 |a::m=> .inr ⟨a,m,rfl⟩
theorem nA{B:Nat}{V:PV}{p:IProg}(hp:ProgIn w B V p)(hB:B<=w.heap.size)(hl:p.args.length=p.funcs.length)(ha:p.args.all tX=true)(hs:∀f∈p.funcs,vZ f){n:Nat}(hn:n<p.funcs.length):
 G 69 #[yH V p,I n] w (ym w (yi p n)):=by
 have m:=Ja (show ProgIn w B V p/\B<=w.heap.size/\p.args.length=p.funcs.length/\p.args.all tX=true/\∀f∈p.funcs,vZ f from⟨hp,hB,hl,ha,hs⟩);have B1:=@run_makeMap Tryz.prog;obtain⟨Vf,Va,Vd,Vb⟩:=V;obtain⟨f1,f2,e1,u6,u4⟩:=hp.funcs.form;have j5:=hp.funcs;have k1:=hp.args;obtain⟨a1,a2,e2,n1,m7⟩:=hp.args.form;obtain⟨d1,d2,e3,u9,u8⟩:=hp.data.form;obtain⟨b1,b2,e4,v1,v0⟩:=hp.banks.form;simp only at e1 e2 e3 e4 j5 k1;subst e1 e2 e3 e4;have B2:p.funcs.length<=9223372036854775807:=Zo;have B3:p.args.length<=9223372036854775807:=Zo;obtain⟨blocks,h9⟩:∃bl,p.funcs[n]? =some bl:=⟨_,Jd hn⟩
 obtain⟨x,hx⟩:∃x,p.args[n]? =some x:=⟨_,Jd Zo⟩
 obtain⟨fb,fo,rfl,b3,bv,f7,m5⟩:=j5.get h9;obtain⟨ab,ao,rfl,r5,f9,x1⟩:=k1.get hx;rw[Nk] at f7 f9;obtain⟨ba,bc,rfl,t3,t2⟩:=m5.form;have x4:blocks.length<=9223372036854775807:=Zo;unfold yH;simp only;obtain⟨res,f5⟩:∃x,yi p n=x:=⟨_,rfl⟩
 rw[f5];have n3:=Ja f5;have j:=Ja (show p.funcs[n]? =some blocks/\wX w B (.slice ba blocks.length bc) blocks/\vZ blocks/\p.args[n]? =some x from⟨h9,m5,hs _ (Ji h9),hx⟩);have m6:O w (w.alloc (T (R p (some ⟨fb,fo,none⟩) f2 (some ⟨ab,ao,none⟩) a2 d1 d2 b1 b2) 29)):=(Below.refl _ _).alloc (Je _) _;have cf:=zV m6 (Jy b3 hB) f7;have A9:(n:Int)<p.funcs.length:=Zo;have B0:(n:Int)<p.args.length:=Zo;have s5:=Ja (show ab<B/\A w ab (ao+n) (I x) from⟨r5,f9⟩);have i5:=zI (W:=w) (o:=T (R p (some ⟨fb,fo,none⟩) f2 (some ⟨ab,ao,none⟩) a2 d1 d2 b1 b2) 29) rfl;have j0:(w.alloc (T (R p (some ⟨fb,fo,none⟩) f2 (some ⟨ab,ao,none⟩) a2 d1 d2 b1 b2) 29)).heap.size=w.heap.size+1:=by simp
 clear hp j5 k1 hB hl ha hs hn u6 u4 n1 m7 u9 u8 v1 v0 h9 hx f5 m5 t3 t2 f7 f9 b3 r5;go_enter Tryz.func69,Tryz.ntmps69;go_upto_region 1 with fail;generalize v4:w.alloc (T (R p (some ⟨fb,fo,none⟩) f2 (some ⟨ab,ao,none⟩) a2 d1 d2 b1 b2) 29)=WP at *;have p0:=K0 i5;have r3:O w (WP.alloc (T #[.slice ba blocks.length bc] 39)):=m6.alloc Zo _;have y:=zB (o:=T #[.slice ba blocks.length bc] 39) i5;have i6:Q (WP.alloc (T #[.slice ba blocks.length bc] 39)) (w.heap.size+1) #[.slice ba blocks.length bc] 39:=zI j0;have e5:(WP.alloc (T #[.slice ba blocks.length bc] 39)).heap.size=w.heap.size+2:=by simp[j0]
 clear v4 m6 i5;go_upto_region 2 with fail;generalize v5:WP.alloc (T #[.slice ba blocks.length bc] 39)=WF at *;have q0:=K0 i6;clear v5 j0 p0 cf;have s2:=Ja (show O w WF from r3);clear r3;rcases lp blocks with a4|⟨b0,bs,a4⟩
 ·have hr:res=true:=by rw[<-n3.out];unfold yi;rw[Jj,j.out.1,a4];rfl
  have t0:((blocks.length:Int)==0)=true:=by rw[a4];rfl
  clear a4;go_wp2;go_ret;exact⟨uz hr,s2.out⟩
 ·have t0:((blocks.length:Int)==0)=false:=by rw[beq_eq_false_iff_ne,a4,Nq];omega
  have s3:=Ja a4;have x2:(0:Int)<blocks.length:=by rw[a4,Nq];omega
  have h0:blocks[0]? =some b0:=by rw[a4];rfl
  obtain⟨kb,ko,rfl,q4,_,_,_,pv,ov,tv,e7,_,_,e6,_,_⟩:=j.out.2.1.get h0;obtain⟨pa,pc,rfl,k0,j4⟩:=e6.form;have x3:b0.params.length<=9223372036854775807:=Zo;have s0:=Ja (Jb q4 e7);clear a4 h0 q4 e7 e6 k0 j4;have p0:=K0 y;have p1:=K1 y;have p2:=K2 y;have p3:=K3 y;have p4:=K4 y;have p5:=K5 y;go_upto_region 5 with fail;have r6:Q (((WF.alloc (.map #[] 0)).alloc (.map #[] 0)).alloc (T #[.slice (some ⟨fb,fo,none⟩) p.funcs.length f2,.slice (some ⟨ab,ao,none⟩) p.args.length a2,I p.entry,I p.handler,.slice d1 p.data.length d2,.slice b1 p.banks.length b2,.slice (some ⟨kb,ko,none⟩) blocks.length bc,.map (some (w.heap.size+2)),.map (some (w.heap.size+2+1)),L] 173)) (w.heap.size+2+1+1) #[.slice (some ⟨fb,fo,none⟩) p.funcs.length f2,.slice (some ⟨ab,ao,none⟩) p.args.length a2,I p.entry,I p.handler,.slice d1 p.data.length d2,.slice b1 p.banks.length b2,.slice (some ⟨kb,ko,none⟩) blocks.length bc,.map (some (w.heap.size+2)),.map (some (w.heap.size+2+1)),L] 173:=zI (by simp[e5]);have q3:(((WF.alloc (.map #[] 0)).alloc (.map #[] 0)).alloc (T #[.slice (some ⟨fb,fo,none⟩) p.funcs.length f2,.slice (some ⟨ab,ao,none⟩) p.args.length a2,I p.entry,I p.handler,.slice d1 p.data.length d2,.slice b1 p.banks.length b2,.slice (some ⟨kb,ko,none⟩) blocks.length bc,.map (some (w.heap.size+2)),.map (some (w.heap.size+2+1)),L] 173)).heap[w.heap.size+2]? =some (.map #[] 0):=zB (zB (zI e5));have q2:(((WF.alloc (.map #[] 0)).alloc (.map #[] 0)).alloc (T #[.slice (some ⟨fb,fo,none⟩) p.funcs.length f2,.slice (some ⟨ab,ao,none⟩) p.args.length a2,I p.entry,I p.handler,.slice d1 p.data.length d2,.slice b1 p.banks.length b2,.slice (some ⟨kb,ko,none⟩) blocks.length bc,.map (some (w.heap.size+2)),.map (some (w.heap.size+2+1)),L] 173)).heap[w.heap.size+2+1]? =some (.map #[] 0):=zB (zI (by simp[e5]));have b4:O w (((WF.alloc (.map #[] 0)).alloc (.map #[] 0)).alloc (T #[.slice (some ⟨fb,fo,none⟩) p.funcs.length f2,.slice (some ⟨ab,ao,none⟩) p.args.length a2,I p.entry,I p.handler,.slice d1 p.data.length d2,.slice b1 p.banks.length b2,.slice (some ⟨kb,ko,none⟩) blocks.length bc,.map (some (w.heap.size+2)),.map (some (w.heap.size+2+1)),L] 173)):=((s2.out.alloc Zo _).alloc Zt _).alloc Zt _;have n8:Q (((WF.alloc (.map #[] 0)).alloc (.map #[] 0)).alloc (T #[.slice (some ⟨fb,fo,none⟩) p.funcs.length f2,.slice (some ⟨ab,ao,none⟩) p.args.length a2,I p.entry,I p.handler,.slice d1 p.data.length d2,.slice b1 p.banks.length b2,.slice (some ⟨kb,ko,none⟩) blocks.length bc,.map (some (w.heap.size+2)),.map (some (w.heap.size+2+1)),L] 173)) w.heap.size (R p (some ⟨fb,fo,none⟩) f2 (some ⟨ab,ao,none⟩) a2 d1 d2 b1 b2) 29:=zB (zB (zB y));have m4:Q (((WF.alloc (.map #[] 0)).alloc (.map #[] 0)).alloc (T #[.slice (some ⟨fb,fo,none⟩) p.funcs.length f2,.slice (some ⟨ab,ao,none⟩) p.args.length a2,I p.entry,I p.handler,.slice d1 p.data.length d2,.slice b1 p.banks.length b2,.slice (some ⟨kb,ko,none⟩) blocks.length bc,.map (some (w.heap.size+2)),.map (some (w.heap.size+2+1)),L] 173)) (w.heap.size+1) #[.slice (some ⟨kb,ko,none⟩) blocks.length bc] 39:=zB (zB (zB i6));have o1:(((WF.alloc (.map #[] 0)).alloc (.map #[] 0)).alloc (T #[.slice (some ⟨fb,fo,none⟩) p.funcs.length f2,.slice (some ⟨ab,ao,none⟩) p.args.length a2,I p.entry,I p.handler,.slice d1 p.data.length d2,.slice b1 p.banks.length b2,.slice (some ⟨kb,ko,none⟩) blocks.length bc,.map (some (w.heap.size+2)),.map (some (w.heap.size+2+1)),L] 173)).heap.size=w.heap.size+2+1+1+1:=by simp[e5]
  generalize w7:((WF.alloc (.map #[] 0)).alloc (.map #[] 0)).alloc (T #[.slice (some ⟨fb,fo,none⟩) p.funcs.length f2,.slice (some ⟨ab,ao,none⟩) p.args.length a2,I p.entry,I p.handler,.slice d1 p.data.length d2,.slice b1 p.banks.length b2,.slice (some ⟨kb,ko,none⟩) blocks.length bc,.map (some (w.heap.size+2)),.map (some (w.heap.size+2+1)),L] 173)=W2 at *;generalize w8:w.heap.size+2+1+1=C at *;generalize s6:w.heap.size+2+1=m2 at *;generalize s7:w.heap.size+2=m1 at *;have a7:ChkAt W2 C m1 m2 (rC ⟨.slice (some ⟨fb,fo,none⟩) p.funcs.length f2,.slice (some ⟨ab,ao,none⟩) p.args.length a2,.slice d1 p.data.length d2,.slice b1 p.banks.length b2⟩ p) (.slice (some ⟨kb,ko,none⟩) blocks.length bc) (L) 0 ae1:=ChkAt.made r6 rfl q3 q2 Zo;have t5:=Ja a7;have H2:=Ja (show O w W2/\Q W2 (w.heap.size+1) #[.slice (some ⟨kb,ko,none⟩) blocks.length bc] 39/\W2.heap.size=C+1/\w.heap.size+2=m1/\m1+1=m2/\m2+1=C from⟨b4,m4,o1,by omega,by omega,by omega⟩);have c0:=K0 m4;have c1:=K1 n8;have c2:A W2 kb ko (.slice pa b0.params.length pc):=by have:=zV (b4.mono m.out.2.1) s0.out.1 s0.out.2;simpa using this
  have c3:A W2 ab (ao+n) (I x):=zV (b4.mono m.out.2.1) s5.out.1 s5.out.2;obtain⟨qe,j3⟩:∃q,decide ((b0.params.length:Int)=x)=q:=⟨_,rfl⟩
  have t1:((b0.params.length:Int) !=x)=!qe:=by rw[bne,z6 j3]
  have h5:p.args.getD n 0=x:=by rw[Jj,j.out.2.2.2];rfl
  have m0:yi p n=(qe && ((wg p blocks).map (iM blocks)).getD false):=by
   unfold yi;rw[Jj,j.out.1,Ot,s3.out];simp only;rw[h5,j3]
  rw[n3.out] at m0;have f4:=Ja m0;clear w7 w8 s6 s7 a7 b4 r6 q3 q2 n8 m4 o1 y i6 e5 q0 p0 p1 p2 p3 p4 p5 j3 h5 m0
  cases qe with
  |false=>
   go_quiet (fail);go_wp2;go_ret
   exact⟨uz f4.out,yC H2.out.1⟩
  |true=>
   have a5:O w W2.drew:=H2.out.1.drew;have a6:=a5.mono m.out.2.1;have o0:=lM (m.out.1.below a6) (j.out.2.1.below yT a6) (Jn m.out.2.1 a5.size) (by have:=m.out.2.1;have:=H2.out.2.2.2;omega) (by have:=m.out.2.1;have:=H2.out.2.2.2;omega) m.out.2.2.1 j.out.2.2.1 (t5.out.below ((Below.refl W2.heap.size W2).drew));have n2:=Ja o0;have i2:=Ja a5;clear o0 a5 a6;obtain⟨r,hr⟩:∃r,wg p blocks=r:=⟨_,rfl⟩
   rw[hr] at n2 f4;have HR:=Ja hr;clear hr
   cases r with
   |none=>
    refine zt 14 Zk Zk ?_;simp only[Qo,Uc,Qp,Ui]
    repeat (go_big_quiet_step (fail))
    refine wpQuiet_nil ?_;go_wp2_with (first|(go_at_call 117;go_must (refine n2.out.mono ?_;rintro e w3 ⟨rfl,e9,_⟩))|go_in)
    go_ret
    exact⟨uz f4.out,i2.out.trans (e9.below (by have:=H2.out.2.2.2;omega) (by have:=H2.out.2.2.2;omega) i2.out.size)⟩
   |some d=>
    refine zt 14 Zk Zk ?_;simp only[Qo,Uc,Qp,Ui]
    repeat (go_big_quiet_step (fail))
    refine wpQuiet_nil ?_;go_upto_region 7 with(first|(go_at_call 117;go_must (refine n2.out.mono ?_;rintro e w3 ⟨rfl,e9,r1⟩))|go_in)
    obtain⟨N,hN,a7⟩:=r1 d rfl;have t:=i2.out.trans (e9.below (by have:=H2.out.2.2.2;omega) (by have:=H2.out.2.2.2;omega) i2.out.size);have m3:=e9.blk (b:=w.heap.size+1) H2.out.2.1 (by have:=H2.out.2.2.2;omega) (by have:=H2.out.2.2.2;omega);have g5:∀b∈blocks,(∀o∈b.ops,opF p o=true)/\wn blocks b.term=true:=rV blocks 0 ae1 d (by rw[<-wS];exact HR.out);have i9:C<w3.heap.size:=lt_of_block a7.blk;have q7:=ox (j.out.2.1.below yT (t.mono m.out.2.1)) (Jn m.out.2.1 t.size) ⟨j.out.2.2.1.1,fun b hb=>(j.out.2.2.1.2 b hb).2.2⟩;have HG:=Ja q7;have H3:=Ja (show O w w3/\Q w3 (w.heap.size+1) #[.slice (some ⟨kb,ko,none⟩) blocks.length bc] 39/\ChkAt w3 C m1 m2 (rC ⟨.slice (some ⟨fb,fo,none⟩) p.funcs.length f2,.slice (some ⟨ab,ao,none⟩) p.args.length a2,.slice d1 p.data.length d2,.slice b1 p.banks.length b2⟩ p) (.slice (some ⟨kb,ko,none⟩) blocks.length bc) (L) N d/\(∀b∈blocks,(∀o∈b.ops,opF p o=true)/\wn blocks b.term=true)/\C<w3.heap.size/\blocks≠ [] from⟨t,m3,a7,g5,i9,by rw[s3.out];simp⟩);have u0:=K0 m3;clear e9 r1 hN a7 t m3 g5 i9 q7 c0 c1 c2 c3 t1;have s9:(zk blocks).length=blocks.length:=by unfold zk;simp
    clear s9;go_upto_region 8 with(first|(go_at_call 41;go_must (refine HG.out.mono ?_;rintro e w4 ⟨gb,rfl,g6,q8,d0⟩))|go_in)
    have u2:(zk blocks).length=blocks.length:=by unfold zk;simp
    have f8:=(Below.refl w4.heap.size w4).alloc (Je _) (T #[F gb (zk blocks).length (zk blocks).length] 105);have j1:=g6.below f8;have d7:=d0.trans (f8.mono d0.size);have b7:O w (w4.alloc (T #[F gb (zk blocks).length (zk blocks).length] 105)):=H3.out.1.trans (d7.mono H3.out.1.size);have q9:=zH d7 H3.out.2.1 (lt_of_block H3.out.2.1);have h8:=H3.out.2.2.1.below d7;have l8:=zI (W:=w4) (o:=T #[F gb (zk blocks).length (zk blocks).length] 105) rfl;have k5:C<w4.heap.size:=Jy H3.out.2.2.2.2.1 d0.size;have k6:=H3.out.2.2.2.2.1;generalize w5:w4.alloc (T #[F gb (zk blocks).length (zk blocks).length] 105)=W5 at *;generalize u3:w4.heap.size=g4 at *;generalize l4:(zk blocks).length=gl at *
    have b6:∀W:World,OwnRows zN 3 22 W w3.heap.size gb (zk blocks)->GraphIn W (F gb gl gl) (zy blocks):=fun W hW=>by
     have:=hW.asRows (Je _);rw[l4] at this;exact bU j.out.2.2.1 H3.out.2.2.2.2.2 (fun b hb=>(H3.out.2.2.2.1 b hb).2) this
    have n6:=Ja (show(∀W:World,OwnRows zN 3 22 W w3.heap.size gb (zk blocks)->GraphIn W (F gb gl gl) (zy blocks))/\OwnRows zN 3 22 W5 w3.heap.size gb (zk blocks)/\w3.heap.size<=gb from⟨b6,j1,q8⟩);have s1:=Ja (b6 _ j1);have H5:=Ja (show O w W5/\Q W5 (w.heap.size+1) #[.slice (some ⟨kb,ko,none⟩) blocks.length bc] 39/\ChkAt W5 C m1 m2 (rC ⟨.slice (some ⟨fb,fo,none⟩) p.funcs.length f2,.slice (some ⟨ab,ao,none⟩) p.args.length a2,.slice d1 p.data.length d2,.slice b1 p.banks.length b2⟩ p) (.slice (some ⟨kb,ko,none⟩) blocks.length bc) (L) N d/\Q W5 g4 #[F gb gl gl] 105/\C<g4/\C<w3.heap.size from⟨b7,q9,h8,l8,k5,k6⟩);have u5:=K0 l8;clear f8 j1 d7 b7 q9 h8 l8 k5 k6 w5 u3 g6 d0 u0 q8 b6 l4 u2;go_upto_region 9 with(first|(go_at_call 118;go_must (refine(qP s1.out).mono ?_;rintro e w6 ⟨iv,rfl,d4,c9⟩;obtain⟨ia,ic,rfl⟩:=zG d4;have e8:=H5.out.2.2.1.below c9;have v9:A w6 C 9 (L):=zA e8.blk rfl;have vf:w6.frozen? ⟨C,9,none⟩=false:=zE e8.blk))|go_in)
    have hv:=s1.out.valid;have nC:=zC d4 e8.blk (.inr Zd);have g8:=ownsRow_setCell_other (a:=⟨C,9,none⟩) d4 nC (.slice ia (wQ (zy blocks)).length ic);have l3:zY (w6.setCell ⟨C,9,none⟩ (.slice ia (wQ (zy blocks)).length ic)) (w6.setCell ⟨C,9,none⟩ (.slice ia (wQ (zy blocks)).length ic)).heap.size (.slice ia (wQ (zy blocks)).length ic) (wQ (zy blocks)):=uA g8 rfl (jT hv (by rw[xu];have:=j.out.2.2.1.1;omega));have h7:=e8.idom (.slice ia (wQ (zy blocks)).length ic);have a3:O w (w6.setCell ⟨C,9,none⟩ (.slice ia (wQ (zy blocks)).length ic)):=(H5.out.1.trans (c9.mono H5.out.1.size)).setCell (by have:=H2.out.2.2.2;simp;omega) _;have h6:=zR (a:=⟨C,9,none⟩) (u:=.slice ia (wQ (zy blocks)).length ic) (zH c9 H5.out.2.1 (lt_of_block H5.out.2.1)) (by have:=H2.out.2.2.2;simp;omega);have l7:=zR (a:=⟨C,9,none⟩) (u:=.slice ia (wQ (zy blocks)).length ic) (zH c9 H5.out.2.2.2.1 (lt_of_block H5.out.2.2.2.1)) (by have:=H5.out.2.2.2.2;simp;omega);have l5:=n6.out.1 _ ((n6.out.2.1.below c9).set (a:=⟨C,9,none⟩) (by have:=n6.out.2.2;have:=H5.out.2.2.2.2.2;simp;omega) (by have:=H5.out.2.2.2.2.2;simp;omega) (.slice ia (wQ (zy blocks)).length ic));generalize w1:w6.setCell ⟨C,9,none⟩ (.slice ia (wQ (zy blocks)).length ic)=W7 at *;have h:=Ja (show O w W7/\ChkAt W7 C m1 m2 (rC ⟨.slice (some ⟨fb,fo,none⟩) p.funcs.length f2,.slice (some ⟨ab,ao,none⟩) p.args.length a2,.slice d1 p.data.length d2,.slice b1 p.banks.length b2⟩ p) (.slice (some ⟨kb,ko,none⟩) blocks.length bc) (.slice ia (wQ (zy blocks)).length ic) N d/\zY W7 W7.heap.size (.slice ia (wQ (zy blocks)).length ic) (wQ (zy blocks))/\Q W7 (w.heap.size+1) #[.slice (some ⟨kb,ko,none⟩) blocks.length bc] 39/\zw (zy blocks) from⟨a3,h7,l3,h6,hv⟩)
    have k2:∀W,O W7 W->G 40 #[.agg #[F gb gl gl]] W fun e w'=>∃a c,e=.returned (.slice a (vD (zy blocks)).length c)/\O W w':=fun W hb=>by
     refine(iJ (l5.below hb)).mono ?_;rintro e w' ⟨ov,rfl,ho,hb⟩;obtain⟨a,c,rfl⟩:=zG ho;exact⟨a,c,rfl,hb⟩
    have t4:=Ja k2;have y0:=K0 h6;have y1:=K0 l7;have l0:=lt_of_block h6;have l1:=lt_of_block l7;have k7:=Below.refl W7.heap.size W7;clear d4 c9 e8 v9 vf g8 nC l3 h7 a3 h6 l7 l5 k2 u5 hv w1;obtain⟨qo,j2⟩:∃q,decide ((vD (zy blocks)).length=blocks.length)=q:=⟨_,rfl⟩
    have t1:(((vD (zy blocks)).length:Int) !=(blocks.length:Int))=!qo:=by rw[bne,z6 (q:=qo) (zZ j2 Zo)]
    have n4:=Ja j2;clear j2;generalize d5:(vD (zy blocks)).length=ol at *
    go_cut [57] (fun s wx=>s=.bool (!qo)/\Hid (O W7 wx))
    case first=>
     go_region_held3 (fun w'=>A w' (w.heap.size+1) 0 (.slice (some ⟨kb,ko,none⟩) blocks.length bc)/\A w' g4 0 (F gb gl gl)/\O W7 w')
      (first
        |(go_split_ands;refine⟨?_,?_,?_⟩<;>assumption)
        |(go_split_ands;refine⟨?_,?_,uG ?_⟩<;>assumption))
      (first|(go_at_call 40;go_must (refine(t4.out _ (by repeat' (first|assumption|(with_reducible refine Below.drew ?_)))).mono ?_;rintro e w2 ⟨qa,qc,rfl,b4⟩;have t:O W7 w2:=Below.trans (by repeat' (first|assumption|(with_reducible refine Below.drew ?_))) (b4.mono (Below.size (B:=W7.heap.size) (w:=W7) (by repeat' (first|assumption|(with_reducible refine Below.drew ?_)))));have A5:A w2 (w.heap.size+1) 0 (.slice (some ⟨kb,ko,none⟩) blocks.length bc):=zV t l0 y0;have A4:A w2 g4 0 (F gb gl gl):=zV t l1 y1)))
     all_goals
      go_wp2_with fail;go_meet;exact⟨rfl,Ja (by repeat' (first|assumption|(with_reducible refine Below.drew ?_)))⟩
    case rest=>
     obtain⟨rfl,HB⟩:=hcut
     cases qo with
     |false=>
      have hr:res=false:=by
       rw[f4.out,Option.map_some,Ot];unfold iM;rw[d5,n4.out];rfl
      go_wp2;go_ret
      exact⟨uz hr,h.out.1.trans (HB.out.mono h.out.1.size)⟩
     |true=>
      have hr:res=tO d (zy blocks) blocks 0:=by
       rw[f4.out,Option.map_some,Ot];unfold iM;rw[d5,n4.out];rfl
      have a8:=jl h.out.2.2.2.2 (by rw[d5,xu];exact of_decide_eq_true n4.out);have f3:=Ja (Jb hr a8);have y2:A wc (w.heap.size+1) 0 (.slice (some ⟨kb,ko,none⟩) blocks.length bc):=zV HB.out l0 y0;clear hr a8 y0 y1 k7 t1 d5;go_wp2
      go_loopw [61] (fun iv wx=>∃i:Nat,i<=blocks.length/\iv=I i/\Hid (O W7 wx/\tO d (zy blocks) (blocks.take i) 0=true)) (fun iv _=>blocks.length-(intOf iv).toNat)
      case atStart=>exact⟨0,Jt _,rfl,Ja ⟨HB.out,rfl⟩⟩
      case round=>
       obtain⟨i,hi,rfl,HI⟩:=hrel
       by_cases h4:i<blocks.length
       ·have s8:(i:Int)<blocks.length:=Zo;have i0:=Ja h4;obtain⟨bx,c8⟩:∃bx,blocks[i]? =some bx:=⟨_,Jd h4⟩
        obtain⟨b',o',e',b3,q6,q5,l2,A7,ov2,A6,e7,q1,p9,e6,k3,i7⟩:=j.out.2.1.get c8;cases e';obtain⟨g2,g1,rfl,k0,j4⟩:=e6.form;obtain⟨oa,oc,rfl,u1,t8⟩:=k3.form;obtain⟨ta,tc,rfl,t7,t6⟩:=i7.form;have A8:bx.ops.length<=9223372036854775807:=Zo;have l:Below B w wr:=(h.out.1.mono m.out.2.1).trans (HI.out.1.mono (Jn m.out.2.1 h.out.1.size));have e0:=zV l b3 e7;have e1:=zV l b3 q1;have e2:=zV l b3 q6;have e3:=zV l b3 q5;have e4:=zV l b3 p9;have a0:=Ja (show blocks[i]? =some bx/\mN w B (.slice oa bx.ops.length oc) bx.ops/\wH w B (.slice ta bx.term.to.length tc) bx.term.to/\(I64 bx.term.kind/\I64 bx.term.a)/\(bx.params.length<=2000000/\bx.ops.length<=2000000/\bx.term.to.length<=2000000)/\(∀o∈bx.ops,opF p o=true)/\wn blocks bx.term=true from⟨c8,k3,i7,l2,j.out.2.2.1.2 bx (Ji c8),(H3.out.2.2.2.1 bx (Ji c8)).1,(H3.out.2.2.2.1 bx (Ji c8)).2⟩);have i4:=zI (W:=wr) (o:=T #[.slice g2 bx.params.length g1,.slice oa bx.ops.length oc,I bx.term.kind,I bx.term.a,.slice ta bx.term.to.length tc] 84) rfl;have r4:=HI.out.1.alloc HI.out.1.size (T #[.slice g2 bx.params.length g1,.slice oa bx.ops.length oc,I bx.term.kind,I bx.term.a,.slice ta bx.term.to.length tc] 84);clear c8 q6 q5 l2 e7 q1 p9 e6 k3 i7 k0 j4 u1 t8 t7 t6 l h4 y2;go_upto_region 14 with fail;generalize w0:wr.alloc (T #[.slice g2 bx.params.length g1,.slice oa bx.ops.length oc,I bx.term.kind,I bx.term.a,.slice ta bx.term.to.length tc] 84)=W9 at *;generalize v3:wr.heap.size=b9 at *;have z1:=K1 i4;have H9:=Ja (show O W7 W9/\Q W9 b9 #[.slice g2 bx.params.length g1,.slice oa bx.ops.length oc,I bx.term.kind,I bx.term.a,.slice ta bx.term.to.length tc] 84 from⟨r4,i4⟩);clear w0 v3 i4 r4 e0 e1 e2 e3 e4;go_wp2
        go_loopw [69] (fun kv wx=>∃k:Nat,k<=bx.ops.length/\kv=I k/\Hid (O W9 wx/\xF d (zy blocks) i (bx.ops.take k) 0=true)) (fun kv _=>bx.ops.length-(intOf kv).toNat)
        case atStart=>exact⟨0,Jt _,rfl,Ja ⟨Below.refl _ _,rfl⟩⟩
        case round=>
         obtain⟨k,hk,rfl,HK⟩:=hrel
         by_cases d6:k<bx.ops.length
         ·have n7:(k:Int)<bx.ops.length:=Zo;have n5:=Ja d6;obtain⟨o,ho⟩:∃o,bx.ops[k]? =some o:=⟨_,Jd d6⟩
          obtain⟨qb,qo,rfl,c7,p8,o9,o5,o4,o3,k4,av,o2,n0⟩:=a0.out.2.1.get ho;obtain⟨aa,ac,rfl,n1,m7⟩:=n0.form;have g:O W7 wr:=H9.out.1.trans (HK.out.1.mono H9.out.1.size);have l:Below B w wr:=(h.out.1.mono m.out.2.1).trans (g.mono (Jn m.out.2.1 h.out.1.size));have c0:=zV l c7 p8;have c1:=zV l c7 o9;have c2:=zV l c7 o5;have c3:=zV l c7 o4;have c4:=zV l c7 o3;have c5:=zV l c7 o2;have b5:=zI (W:=wr) (o:=T (D o aa ac) 76) rfl;have r2:=HK.out.1.alloc HK.out.1.size (T (D o aa ac) 76);have a6:=l.alloc (Jn m.out.2.1 (Jn h.out.1.size g.size)) (T (D o aa ac) 76);have n9:=uses_any o k4 (Jn (Jn m.out.2.1 (Jn h.out.1.size g.size)) Zs) (n0.below zO a6) (aU m.out.2.2.2.1 (a0.out.2.2.2.2.2.1 o (Ji ho)));have HO:=Ja ho;clear ho p8 o9 o5 o4 o3 o2 k4 n0 n1 m7 l g d6 a6 z1;go_upto_region 17 with fail;generalize v6:wr.alloc (T (D o aa ac) 76)=WA at *;generalize v2:wr.heap.size=bA at *;have y3:=K0 b5;have x9:=K1 b5;have x8:=K2 b5;have x7:=K3 b5;have x6:=K4 b5;have x5:=K5 b5;have r8:=Ja n9;have d3:=Ja r2;clear n9 r2 b5 v6 v2 c0 c1 c2 c3 c4 c5;obtain⟨q,hq⟩:∃q,(rR o).all (yy d (zy blocks) i k)=q:=⟨_,rfl⟩
          have HQ:=Ja hq;clear hq
          have f0:∀W lv,O WA W->zY W W.heap.size lv (rR o)->G 119 #[Y C,lv,I i,I k] W (ym W q):=fun W lv hb hin=>by
           have a3:O W7 W:=H9.out.1.trans ((d3.out.trans (hb.mono d3.out.size)).mono H9.out.1.size);rw[<-HQ.out];exact qI (h.out.2.1.below a3) h.out.2.2.2.2 f3.out.2 (by rw[xu];exact j.out.2.2.1.1) ((h.out.2.2.1.below zO a3).mono zO a3.size) (fun v b hv=>by rw[xu];exact rN HR.out v b hv) hin i (by rw[xu];exact i0.out) k (qL (Jn hk (Jn a0.out.2.2.2.2.1.2.1 Zd)))
          have i1:=Ja f0;clear f0
          cases q with
          |false=>
           go_wp2_with (first|(go_at_call 120;go_must (refine r8.out.mono ?_;rintro e wu ⟨uv,rfl,g3,a9⟩))|(go_at_call 119;go_must (refine(i1.out _ _ a9 g3).mono ?_;rintro e wd ⟨rfl,a5⟩))|go_in)
           go_ret
           have hr:res=false:=by
            rw[f3.out.1];refine pH a0.out.1 ?_;unfold aaC;rw[aeQ HO.out HQ.out];rfl
           have w9:O W7 wd:=H9.out.1.trans ((d3.out.trans ((a9.trans (a5.mono a9.size)).mono d3.out.size)).mono H9.out.1.size)
           exact⟨uz hr,h.out.1.trans (w9.mono h.out.1.size)⟩
          |true=>
           go_wp2_with (first|(go_at_call 120;go_must (refine r8.out.mono ?_;rintro e wu ⟨uv,rfl,g3,a9⟩))|(go_at_call 119;go_must (refine(i1.out _ _ a9 g3).mono ?_;rintro e wd ⟨rfl,a5⟩))|go_in)
           have HN:=Ja (d3.out.trans ((a9.trans (a5.mono a9.size)).mono d3.out.size));clear a9 a5 g3;go_roundw
           case rel=>
            have g0:=Ja (show O W9 wd/\xF d (zy blocks) i (bx.ops.take (k+1)) 0=true from⟨HN.out,by rw[gZ HO.out,HK.out.2,HQ.out];rfl⟩)
            (repeat apply Exists.intro);exact⟨⟨k+1,n5.out,by go_num,g0⟩,rfl⟩
           case measure=>have:=n5.out;simp[intOf];omega
         ·obtain rfl:k=bx.ops.length:=by omega
          have n7:¬(bx.ops.length:Int)<bx.ops.length:=Zo;have g:O W7 wr:=H9.out.1.trans (HK.out.1.mono H9.out.1.size);have a6:Below B w wr:=(h.out.1.mono m.out.2.1).trans (g.mono (Jn m.out.2.1 h.out.1.size));have b8:=zH HK.out.1 H9.out.2 (lt_of_block H9.out.2);have f6:=HK.out.2;rw[Nl] at f6;have z2:=K1 b8;have z3:=K2 b8;have z4:=K3 b8;have z5:=K4 b8;have l9:=lt_of_block b8;have k9:=Below.refl wr.heap.size wr;obtain⟨q,hq⟩:∃q,(mE bx.term).all (yy d (zy blocks) i bx.ops.length)=q:=⟨_,rfl⟩
          have r0:∀W,O wr W->G 121 #[.agg #[I bx.term.kind,I bx.term.a,.slice ta bx.term.to.length tc]] W (wG W (mE bx.term)):=fun W hb=>
           ends_any bx.term a0.out.2.2.2.1 (Jn (Jn m.out.2.1 (Jn h.out.1.size g.size)) hb.size) (a0.out.2.2.1.below xL (a6.trans (hb.mono (Jn m.out.2.1 (Jn h.out.1.size g.size))))) ⟨a0.out.2.2.2.2.1.2.2,lD j.out.2.2.1 a0.out.2.2.2.2.2.2⟩
          have f0:∀W lv,O wr W->zY W W.heap.size lv (mE bx.term)->G 119 #[Y C,lv,I i,I (bx.ops.length:Int)] W (ym W q):=fun W lv hb hin=>by
           have a3:O W7 W:=g.trans (hb.mono g.size);rw[<-hq];exact qI (h.out.2.1.below a3) h.out.2.2.2.2 f3.out.2 (by rw[xu];exact j.out.2.2.1.1) ((h.out.2.2.1.below zO a3).mono zO a3.size) (fun v b hv=>by rw[xu];exact rN HR.out v b hv) hin i (by rw[xu];exact i0.out) _ (qL (Jn a0.out.2.2.2.2.1.2.1 Zd))
          have x0:=Ja r0;have i1:=Ja f0;have HQ:=Ja (show aaC d (zy blocks) bx i=q from by unfold aaC;rw[f6,hq];rfl);have i3:=Ja g;clear hq r0 f0 f6 b8 a6 g d6 z1;go_wp2_with fail
          go_cut [91] (fun s wx=>s=.bool (!q)/\Hid (O wr wx))
          case first=>
           go_region_held3 (fun w'=>A w' b9 1 (.slice oa bx.ops.length oc)/\A w' b9 2 (I bx.term.kind)/\A w' b9 3 (I bx.term.a)/\A w' b9 4 (.slice ta bx.term.to.length tc)/\O wr w')
            (first
              |(go_split_ands;refine⟨?_,?_,?_,?_,?_⟩<;>assumption)
              |(go_split_ands;refine⟨?_,?_,?_,?_,uG ?_⟩<;>assumption))
            (first
              |(go_at_call 121;go_must (refine(x0.out _ (by repeat' (first|assumption|(with_reducible refine Below.drew ?_)))).mono ?_;rintro e w2 ⟨ev,rfl,u7,b4⟩;have t:Below wr.heap.size wr w2:=Below.trans (by repeat' (first|assumption|(with_reducible refine Below.drew ?_))) (b4.mono (Below.size (B:=wr.heap.size) (w:=wr) (by repeat' (first|assumption|(with_reducible refine Below.drew ?_)))));have z0:=zV t l9 z2;have y6:=zV t l9 z3;have y5:=zV t l9 z4;have y4:=zV t l9 z5))
              |(go_at_call 119;go_must (refine(i1.out _ _ (by repeat' (first|assumption|(with_reducible refine Below.drew ?_))) u7).mono ?_;rintro e w4 ⟨rfl,d0⟩;have b7:Below wr.heap.size wr w4:=Below.trans (by repeat' (first|assumption|(with_reducible refine Below.drew ?_))) (d0.mono (Below.size (B:=wr.heap.size) (w:=wr) (by repeat' (first|assumption|(with_reducible refine Below.drew ?_)))));have A3:=zV b7 l9 z2;have A2:=zV b7 l9 z3;have A1:=zV b7 l9 z4;have A0:=zV b7 l9 z5)))
           all_goals
            go_wp2_with fail;go_meet;exact⟨rfl,Ja (by repeat' (first|assumption|(with_reducible refine Below.drew ?_)))⟩
          case rest=>
           obtain⟨rfl,s4⟩:=hcut
           cases q with
           |false=>
            have hr:=Ja (show res=false by rw[f3.out.1];exact pH a0.out.1 HQ.out);go_wp2;go_ret
            exact⟨uz hr.out,h.out.1.trans ((i3.out.trans (s4.out.mono i3.out.size)).mono h.out.1.size)⟩
           |true=>
            go_wp2;go_roundw
            case rel=>
             have g0:=Ja (show O W7 wc/\tO d (zy blocks) (blocks.take (i+1)) 0=true from⟨i3.out.trans (s4.out.mono i3.out.size),by rw[mz a0.out.1,HI.out.2,HQ.out];rfl⟩)
             (repeat apply Exists.intro);exact⟨⟨i+1,i0.out,by go_num,g0⟩,rfl⟩
            case measure=>have:=i0.out;simp[intOf];omega
       ·obtain rfl:i=blocks.length:=by omega
        have s8:¬(blocks.length:Int)<blocks.length:=Zo;have a8:=HI.out.2;rw[Nl] at a8;have hr:=Ja (f3.out.1.trans a8);clear a8 h4 y2;go_wp2;go_ret;exact⟨uz hr.out,h.out.1.trans (HI.out.1.mono h.out.1.size)⟩
end Go.Proofs.YtoahcpkibpomcaaGreat
set_option maxRecDepth 8000
namespace Go.Proofs.YtoahcpkibpomcaaGreat
open Go.RowKit
variable {W w:World}{C i j m1 m2 n':Nat}{g:List (List Nat)}{c:Value}{d d1:wO}{bl blocks:List IBlk}
theorem Tryz.info_bools:(Tryz.prog.info? 97).map (fun i=>(i.zero,i.size,i.bytes))=some (some (.slice none 0 0),1,24):=by kernel_rfl
theorem dZ(hv:zw g){fr:Nat}(c:fr<g.length)(out:Int){x:Nat}(d:x<g.length):(ie g fr out)[x]? =some (nc g fr out x):=by
 have hl:x<(ie g fr out).length:=by rw[de hv c];exact d
 unfold nc;rw[Jj,Jd hl];rfl
def aaP (g:List (List Nat))(d:Nat):List Bool:=(List.range g.length).map (wE g d)
def fe (g:List (List Nat)):List (List Bool):=(List.range g.length).map (aaP g)
def aar (w:World)(rows:List (List Bool))(e:Ending)(w':World):Prop:=∃v,e=.returned v/\aaB zf w' w'.heap.size v rows/\O w w'
structure DomsMem (W w:World) (g:List (List Nat)) (ov:Value) (d:Nat):Prop where
 ho:∃vs:List Value,vs.length=d/\w.ownsRow W.heap.size 97 1 ov d vs/\∀(k:Nat) (v:Value),vs[k]? =some v->∃b,v=.slice (some ⟨b,0,none⟩) g.length g.length/\W.heap.size<=b/\w.heap[b]? =some (.cells ((aaP g k).map zf).toArray 4 (0,0))
 hb:Below W.heap.size W w
theorem DomsMem.below{w':World}{ov:Value}{d:Nat}(h:DomsMem W w g ov d)(hb:O w w'):DomsMem W w' g ov d:=by
 obtain⟨⟨vs,h1,h2,h3⟩,i⟩:=h;refine⟨⟨vs,h1,cF h2 hb (Je _),fun k v hk=>?_⟩,i.trans (hb.mono i.size)⟩;obtain⟨b,e,j,c⟩:=h3 k v hk;exact⟨b,e,j,zH hb c (lt_of_block c)⟩
theorem DomsMem.push{w2:World}{ov:Value}{d b:Nat}(h:DomsMem W w g ov d)(hr:Q w b ((aaP g d).map zf).toArray 4)(u:W.heap.size<=b)
 (o:Obj) (hg:(w.alloc o).grownBy w2 ov.ownBlock) (vs:List Value) (i:vs.length=d) (ho:w.ownsRow W.heap.size 97 1 ov d vs)
 (l:∀(k:Nat) (v:Value),vs[k]? =some v->∃b,v=F b g.length g.length/\W.heap.size<=b/\Q w b ((aaP g k).map zf).toArray 4)
 (j:w2.ownsRow W.heap.size 97 1 c (d+1) (vs++ [.slice (some ⟨b,0,none⟩) g.length g.length])):DomsMem W w2 g c (d+1):=by
 have t:=h.hb.size;have keep:∀ {b:Nat} {cs:Array Value},Q w b cs 4->Q w2 b cs 4:=fun hb=>zL hg (zB hb) (zC ho hb (.inr Zd))
 refine⟨⟨vs++ [.slice (some ⟨b,0,none⟩) g.length g.length],by simp[i],j,fun k v hk=>?_⟩,(h.hb.alloc t o).grown hg Zt (fun k hk=>(ho.lt k hk).1)⟩
 by_cases q:k<vs.length
 ·rw[Np q] at hk;obtain⟨b',e,y,x⟩:=l k v hk;exact⟨b',e,y,keep x⟩
 ·rw[Nc Zo] at hk
  have m:k=vs.length:=by
   have:=(Jh.1 hk).1;simp at this;omega
  subst m;simp at hk;exact⟨b,hk.symm,u,by rw[i];exact keep hr⟩
theorem cO{sv:Value}(h:GraphIn w sv g)(out:Int):G 49 #[.agg #[sv],I 0,I out] w (cE w (ie g 0 out)):=ans_from h 0 h.valid.1 out
def aaO (g:List (List Nat))(d j:Nat):List Bool:=(aaP g d).take j++List.replicate (g.length-j) false
theorem bF (g:List (List Nat))(d j:Nat)(hj:j<g.length):(aaO g d j).set j (wE g d j)=aaO g d (j+1):=by
 have hl:(aaP g d).length=g.length:=by simp[aaP]
 apply Oq;intro i;rw[Ov];have k:(aaO g d j).length=g.length:=by simp[aaO,hl];omega
 rw[k]
 have c:∀j,j<=g.length->(aaO g d j)[i]? =if i<j then(aaP g d)[i]? else if i<g.length then some false else none:=by
  intro j hj;unfold aaO
  by_cases h:i<j
  ·rw[Np (by simp[hl];omega),Ug,if_pos h,if_pos h]
  ·rw[Nc (by simp[hl];omega),Nm,if_neg h];simp only[Oc,hl]
   by_cases h2:i<g.length
   ·rw[if_pos h2,if_pos Zo]
   ·rw[if_neg h2,if_neg Zo]
 by_cases h:j=i
 ·subst h;rw[if_pos rfl,if_pos hj,c _ Zo,if_pos Zo];simp[aaP,hj]
 ·rw[if_neg h,c _ Zo,c _ Zo]
  by_cases h2:i<j
  ·simp only[if_pos h2,if_pos (show i<j+1 by omega)]
  ·simp only[if_neg h2,if_neg (show ¬i<j+1 by omega)]
theorem aA (g:List (List Nat))(d j:Nat)(c:j<g.length):(aaO g d j)[j]? =some false:=by
 have hl:(List.take j (aaP g d)).length=j:=by simp[aaP];omega
 unfold aaO;rw[Nc Zo,hl,Qy,Nm,if_pos Zo]
theorem cZ (g:List (List Nat))(d:Nat):aaO g d 0=List.replicate g.length false:=by simp[aaO]
theorem cQ (g:List (List Nat))(d:Nat):aaO g d g.length=aaP g d:=by
 unfold aaO;rw[Oy (by simp[aaP]),Qy];simp
theorem doms_any{sv:Value}(h:GraphIn w sv g):G 64 #[.agg #[sv]] w (aar w (fe g)):=by
 obtain⟨a,c4,rfl,f9⟩:=h.rows.form;obtain⟨ii,f0,e2,e1,e0⟩:=info_parts Tryz.info_bools;have hn:=h.len;have hv:=h.valid;have g5:=run_make_row' (P:=Tryz.prog) 97 4 (.bool false) 1 Tryz.underlying97 Tryz.info_bool rfl .i64 .i64 g.length Zo Zo;have h1:=h.below ((Below.refl _ w).alloc (Je _) (T #[.slice a g.length c4] 105));have cg:A (w.alloc (T #[.slice a g.length c4] 105)) w.heap.size 0 (.slice a g.length c4):=cell_of_one (zI rfl);have H1:=Ja h1;have i:=Ja hv;clear h h1 hv;go_enter Tryz.func64,Tryz.ntmps64;go_wp2_with (go_at_call 49;go_must (refine(cO H1.out (-1)).mono ?_;rintro e w1 ⟨ab,rfl,g8,hA,a8⟩;rw[de i.out i.out.1];have c3:=(a8.cell (p:=⟨w.heap.size,0,none⟩) Zs).trans cg;have d0:=Ja (((Below.refl _ w).alloc (Je _) _).trans (a8.mono Zs));have f4:=Ja (H1.out.below a8);have HA:=Ja hA;clear cg a8 hA))
 have e8:w.heap.size<w1.heap.size:=Jw w1 _ c3
 go_loopw [4,5] (fun ov dv wr=>∃d:Nat,d<=g.length/\dv=I d/\Hid (DomsMem w1 wr g ov d)) (fun _ dv _=>g.length-(intOf dv).toNat)
 case atStart=>exact⟨0,Jt _,rfl,⟨[],rfl,Jv _ _ _ _,fun k v hk=>by simp at hk⟩,Below.refl _ _⟩
 case round=>
  obtain⟨d,hd,rfl,o⟩:=hrel;have d5:=(o.out.hb.cell (p:=⟨w.heap.size,0,none⟩) e8).trans c3;obtain⟨vs,b3,l,b1⟩:=o.out.ho;obtain⟨oa,oc,rfl⟩:=zG l
  by_cases e7:d<g.length
  ·have e4:(d:Int)<g.length:=Zo;have c5:=Ja e7;have HG:=Ja (f4.out.below o.out.hb);have f6:=o.out.hb.size;have h4:=Ja (Jb l b1);clear l b1 c3;go_wp2_with (go_at_call 49;go_must (refine(cO HG.out (d:Int)).mono ?_;rintro e w2 ⟨wb,rfl,g2,hW,y⟩;rw[de i.out i.out.1];have b9:=(y.cell (p:=⟨w.heap.size,0,none⟩) (show w.heap.size<wr.heap.size by omega)).trans d5;have f1:=Ja (o.out.below y);have HW:=Ja hW;have g4:=y.size;have f2:=Ja y;clear d5 y hW))
   have d4:=Ja (zH f2.out (zH o.out.hb HA.out (lt_of_block HA.out)) (by have:=lt_of_block HA.out;have:=o.out.hb.size;omega));have g6:w.heap.size<w2.heap.size:=Jw w2 _ b9
   go_loopw [8] (fun jv wx=>∃j:Nat,j<=g.length/\jv=I j/\Hid (Q wx w2.heap.size ((aaO g d j).map zf).toArray 4/\O w2 wx)) (fun jv _=>g.length-(intOf jv).toNat)
   case atStart=>
    refine⟨0,Jt _,rfl,?_,(Below.refl _ _).alloc (Je _) _⟩;rw[zI rfl,yA,cZ];simp[zf]
   case round=>
    obtain⟨j,hj,rfl,t⟩:=hrel;have h0:=(t.out.2.cell (p:=⟨w.heap.size,0,none⟩) (show w.heap.size<w2.heap.size by omega)).trans b9
    by_cases a3:j<g.length
    ·have c9:(j:Int)<g.length:=Zo;have c:=Ja a3
     have b4:∀b:Bool,wE g d j=b->Hid (Q (wr.setCell ⟨w2.heap.size,j,none⟩ (.bool b)) w2.heap.size ((aaO g d (j+1)).map zf).toArray 4/\O w2 (wr.setCell ⟨w2.heap.size,j,none⟩ (.bool b))):=by
      intro b hb;refine⟨?_,t.out.2.setCell (Je _) _⟩;rw[zD t.out.1,<-bF g d j a3,hb];simp[zf,Ox]
     have m:=Ja b4;have cr:A wr w2.heap.size j (.bool false):=zA t.out.1 (by simp[aA g d j a3,zf]);have fr:N wr w2.heap.size j:=zE t.out.1;have b8:=zH t.out.2 d4.out (lt_of_block d4.out);have d2:=zH t.out.2 HW.out (lt_of_block HW.out);obtain⟨a0,b7⟩:∃a0,nc g 0 (-1) d=a0:=⟨_,rfl⟩
     obtain⟨a1,b6⟩:∃a1,nc g 0 (-1) j=a1:=⟨_,rfl⟩
     obtain⟨a2,b5⟩:∃a2,nc g 0 (d:Int) j=a2:=⟨_,rfl⟩
     have c0:A wr ab d (.bool a0):=zA b8 (by have:=dZ i.out i.out.1 (-1) c5.out;rw[b7] at this;simp[this,zf]);have c1:A wr ab j (.bool a1):=zA b8 (by have:=dZ i.out i.out.1 (-1) c.out;rw[b6] at this;simp[this,zf]);have c2:A wr wb j (.bool a2):=zA d2 (by have:=dZ i.out i.out.1 (d:Int) c.out;rw[b5] at this;simp[this,zf]);have a9:Hid (wE g d j=(a0 && a1 && (decide (d=j)||!a2))):=by unfold wE;rw[b7,b6,b5];rfl
     clear b4 b8 d2 b7 b6 b5 b9
     cases a0 with
     |false=>
      go_wp2;go_roundw
      case rel=>exact⟨j+1,c.out,by go_num,m.out _ (by rw[a9.out];rfl)⟩
      case measure=>have:=c.out;simp[intOf];omega
     |true=>
      cases a1 with
      |false=>
       go_wp2;go_roundw
       case rel=>exact⟨j+1,c.out,by go_num,m.out _ (by rw[a9.out];rfl)⟩
       case measure=>have:=c.out;simp[intOf];omega
      |true=>
       by_cases a7:d=j
       ·have e3:((d:Int)==(j:Int))=true:=by rw[beq_iff_eq];omega
        have c7:=Ja a7;clear a7;go_wp2;go_roundw
        case rel=>exact⟨j+1,c.out,by go_num,m.out _ (by rw[a9.out,decide_eq_true c7.out];rfl)⟩
        case measure=>have:=c.out;simp[intOf];omega
       ·have e3:((d:Int)==(j:Int))=false:=Ze;have c7:=Ja a7;clear a7;go_wp2;go_roundw
        case rel=>exact⟨j+1,c.out,by go_num,m.out _ (by rw[a9.out,decide_eq_false c7.out];rfl)⟩
        case measure=>have:=c.out;simp[intOf];omega
    ·obtain rfl:j=g.length:=by omega
     have c9:¬(g.length:Int)<g.length:=Zo;have d3:=Ja (f1.out.below t.out.2);have a4:=t.out.1;rw[cQ] at a4;have f3:=Ja a4;obtain⟨vs2,b2,a6,b0⟩:=d3.out.ho;have d6:=Ja (Jb a6 (Jb b2 b0));have g3:=lt_of_block a4;have f7:=o.out.hb.size;have f5:vs2.length<=2000000:=Zo;clear b0 a4;go_wp2_with (at_builtin;go_must (refine wpList_append_lies _ rfl (.tmp 57) (.tmp 59) 139 rfl w1.heap.size 97 ii (L) 1 24 Tryz.underlying139 f0 e2 e1 e0 rfl Zd _ d vs2 rfl (a6.alloc _) ⟨wr.heap.size,0,none⟩ 1 1 [F w2.heap.size g.length g.length] rfl rfl (Oi (cs:=#[F w2.heap.size g.length g.length]) (zI Zs)) (by simp[Value.oneCell']) Zd (by unfold maxLen;omega) Zo Zt (wr.heap.size+1) Zs ?_;intro gq g1 w6 a5 u g0 f8;have d7:=Ja (Jb a5 u);clear a5 u))
     go_roundw
     case rel=>exact⟨d+1,c5.out,by go_num,d3.out.push f3.out Zo _ d7.out.2 vs2 b2 d6.out.1 d6.out.2.2 d7.out.1⟩
     case measure=>have:=c5.out;simp[intOf];omega
  ·obtain rfl:d=g.length:=by omega
   have e4:¬(g.length:Int)<g.length:=Zo;go_wp2;go_ret;have e5:=d0.out.size;have c8:wr.ownsRow w1.heap.size 97 1 (.slice oa g.length oc) vs.length (vs.map id):=by rw[List.map_id,b3];exact l
   refine⟨_,rfl,⟨vs,rY (enc:=id) c8 (Je _),by rw[b3];simp[fe],fun k rv row hk hrow=>?_⟩,d0.out.trans (o.out.hb.mono e5)⟩;obtain⟨b,rfl,hb,d1⟩:=b1 k rv hk
   have e6:row=aaP g k:=by
    unfold fe at hrow;have e9:k<g.length:=by rw[<-b3];exact(Jh.1 hk).1
    rw[Jr,Oh e9] at hrow;exact(Nt hrow).symm
   subst e6;have hl:(aaP g k).length=g.length:=by simp[aaP]
   exact⟨_,_,by rw[hl],by rw[hl];exact Je _,fun q x hq=>⟨b,0,rfl,lt_of_block d1,by rw[Ng];exact zA d1 (by simp[hq])⟩⟩
def allF (p:IProg)(blocks:List IBlk):Prop:=∀b∈blocks,(∀o∈b.ops,opF p o=true)/\wn blocks b.term=true
theorem bE{p:IProg}(h:allF p blocks):wg p blocks=dD blocks 0 aaZ:=bM blocks 0 _ h
theorem dg{p:IProg}(h:¬allF p blocks):wg p blocks=none:=by
 cases hs:wg p blocks with
 |none=>rfl
 |some d=>exact absurd (rV blocks 0 _ _ hs) h
theorem cJ{p:IProg}{n:Nat}(h:p.funcs[n]? =some blocks)(c:blocks≠ []):
 yi p n=(decide (((xz blocks 0).params.length:Int)=p.args.getD n 0) && ((wg p blocks).map (iM blocks)).getD false):=by
 unfold yi;rw[Jj,h,Ot]
 cases blocks with
 |nil=>exact absurd rfl c
 |cons b bs=>rfl
theorem dy {p:IProg}{n:Nat}(h:p.funcs[n]? =some []):yi p n=true:=by
 unfold yi;rw[Jj,h,Ot]
theorem dF{i:Int}:∀(os:List IOp) (k:Int),xF d g i os k=true↔∀(j:Nat) (o:IOp),os[j]? =some o->(rR o).all (yy d g i (k+j))=true
 | [],k=>by simp[xF]
 |o::os,k=>by
  show((rR o).all (yy d g i k) && xF d g i os (k+1))=true↔_
  rw[Jm,dF os (k+1)];constructor
  ·rintro⟨h1,h2⟩ j x hx
   cases j with
   |zero=>simp at hx;subst hx;simpa using h1
   |succ j=>
    have:=h2 j x (by simpa using hx);rw[show k+((j+1:Nat):Int)=k+1+(j:Int) by omega];exact this
  ·intro h;refine⟨by simpa using h 0 o rfl,fun j x hx=>?_⟩;have:=h (j+1) x (by simpa using hx);rw[show k+((j+1:Nat):Int)=k+1+(j:Int) by omega] at this;exact this
theorem cB:∀(bs:List IBlk) (i:Int),tO d g bs i=true↔∀(j:Nat) (b:IBlk),bs[j]? =some b->aaC d g b (i+j)=true
 | [],i=>by simp[tO]
 |b::bs,i=>by
  show(aaC d g b i && tO d g bs (i+1))=true↔_
  rw[Jm,cB bs (i+1)];constructor
  ·rintro⟨h1,h2⟩ j x hx
   cases j with
   |zero=>simp at hx;subst hx;simpa using h1
   |succ j=>
    have:=h2 j x (by simpa using hx);rw[show i+((j+1:Nat):Int)=i+1+(j:Int) by omega];exact this
  ·intro h;refine⟨by simpa using h 0 b rfl,fun j x hx=>?_⟩;have:=h (j+1) x (by simpa using hx);rw[show i+((j+1:Nat):Int)=i+1+(j:Int) by omega] at this;exact this
theorem aj(hv:zw g):(vD g).length=g.length↔∀x,x<g.length->wE g 0 x=true:=by
 constructor
 ·intro h x c;have hr:=jl hv h;have i:0<g.length:=Zo;exact(yO hv 0 x).2 ⟨hr 0 i,hr x c,dom_zero _ _⟩
 ·intro h;obtain⟨ns,d⟩:=adR hv;rw[d.eq];have h1:=dW (l:=0::ns) (m:=List.range g.length) d.nodup (fun x c=>Ol.2 (d.lt x c));have h2:=dW (l:=List.range g.length) (m:=0::ns) List.nodup_range (fun x c=>(d.mem x).2 ((yO hv 0 x).1 (h x (Ol.1 c))).2.1);rw[Un] at h1 h2;omega
def aau (d:wO)(g:List (List Nat))(b:IBlk)(i:Nat):Bool:=wE g 0 i && aaC d g b i
theorem bI(hv:zw (zy blocks)):iM blocks d=true↔∀(i:Nat) (b:IBlk),blocks[i]? =some b->aau d (zy blocks) b i=true:=by
 unfold iM aau;have hl:=xu blocks;rw[Jm,decide_eq_true_eq,cB];rw[show((vD (zy blocks)).length=blocks.length↔∀x,x<blocks.length->wE (zy blocks) 0 x=true) from by rw[<-hl];exact aj hv];constructor
 ·rintro⟨h1,h2⟩ i b hb;rw[Jm];refine⟨h1 i (Jh.1 hb).1,?_⟩;have:=h2 i b hb
  rwa [Ub] at this
 ·intro h;refine⟨fun x hx=>?_,fun j b hb=>?_⟩
  ·have:=h x _ (Jd hx);rw[Jm] at this;exact this.1
  ·have:=h j b hb;rw[Jm] at this;rw[Ub];exact this.2
theorem dz(hv:zw (zy blocks)){b:IBlk}(hb:blocks[i]? =some b)(h:aau d (zy blocks) b i=false):iM blocks d=false:=by
 cases hr:iM blocks d with
 |false=>rfl
 |true=>rw[(bI hv).1 hr i b hb] at h;cases h
theorem dj:∀b,b<g.length->∃r,(fe g)[b]? =some r/\r.length=g.length/\∀j,j<g.length->r[j]? =some (wE g b j):=fun b hb=>
 ⟨aaP g b,by unfold fe;rw[Jr,Oh hb];rfl,by simp[aaP],fun j hj=>by unfold aaP;rw[Jr,Oh hj];rfl⟩
theorem cm{B:Nat}{v:Value}{xs:List Int}(h:pg w B v xs):xp zN w B v xs:=by
 obtain⟨a,d,rfl,h1,_,h3⟩:=h;refine⟨a,d,rfl,h1,fun k x hk=>?_⟩;obtain⟨b,o,i,g,c⟩:=h3 k x hk;rw[Nk] at c;exact⟨b,o,i,g,c⟩
theorem aB{B:Nat}{v:Value}{rows:List (List Int)}(h:RowsC w B v rows):aaB zN w B v rows:=by
 obtain⟨a,q,rfl,h1,_,h3⟩:=h
 have t:∃f:Nat->Value,∀k row,rows[k]? =some row->∃b o,a=some ⟨b,o,none⟩/\b<B/\A w b (o+k) (f k)/\xp zN w B (f k) row:=by
  refine⟨fun k=>match a with|some p=>(w.cell? ⟨p.block,p.off+k,none⟩).getD (.bool false)|none=> .bool false,fun k row hk=>?_⟩;obtain⟨b,o,l,i,u,d,y⟩:=h3 k row hk;rw[Nk] at d;subst l;refine⟨b,o,rfl,i,?_,?_⟩
  ·show w.cell? ⟨b,o+k,none⟩=some ((w.cell? ⟨b,o+k,none⟩).getD (.bool false))
   rw[d];rfl
  ·show xp zN w B ((w.cell? ⟨b,o+k,none⟩).getD (.bool false)) row
   rw[d];exact cm y
 obtain⟨f,hf⟩:=t;refine⟨(List.range rows.length).map f,⟨a,q,by simp,by simpa using h1,fun k x hk=>?_⟩,by simp,fun k rv row hk hr=>?_⟩
 ·rw[Jr,Oz] at hk;obtain⟨j,g,rfl⟩:=hk;have c:=(Jh.1 g).1;rw[Un] at c;rw[Oh c] at g;cases g;obtain⟨b,o,l,i,d,_⟩:=hf k _ (Jd c);exact⟨b,o,l,i,d⟩
 ·have m:=(Jh.1 hr).1;rw[Jr,Oh m] at hk;cases hk;exact(hf k row hr).choose_spec.choose_spec.2.2.2
theorem graph_q{B:Nat}{sv:Value}(hs:vZ blocks)(c:blocks≠ [])(h:∀b∈blocks,wn blocks b.term=true)(hr:pV w B sv (zk blocks)):GraphIn w sv (zy blocks):=
 bU hs c h (aB (iW hr))
end Go.Proofs.YtoahcpkibpomcaaGreat
