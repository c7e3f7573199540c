/- Part of a proof. -/
import Derived.Test.YtoahcpkibpomcaaGreatGLift8v2
set_option linter.all false
set_option maxHeartbeats 8000000
set_option maxRecDepth 100000
namespace Go.Proofs.YtoahcpkibpomcaaGreat
open Go.RowKit
variable {C i j k m1 m2 n':Nat}{w:World}{bl c:List IBlk}{d d1:wO}{t:ITerm}{o:IOp}
theorem cnt_lt(hi:i<=2000000)(c:j<=2000000):i*4000000+j<9000000000000000000:=by omega
theorem cnt_lt2(hi:i<=2000000)(c:j<=2000000):i*4000000+2000000+j<9000000000000000000:=by omega
theorem cnt_0 (i:Nat):i*4000000<=i*4000000+0:=by omega
theorem cnt_1 (i j:Nat):i*4000000+j+1<=i*4000000+(j+1):=by omega
theorem cnt_2(h:j<=2000000):i*4000000+j<=i*4000000+2000000+0:=by omega
theorem cnt_3 (i j:Nat):i*4000000+2000000+j+1<=i*4000000+2000000+(j+1):=by omega
theorem cnt_3' (i j:Nat):i*4000000+2000000+j<=i*4000000+2000000+(j+1):=by omega
theorem cnt_4(h:j<=2000000):i*4000000+2000000+j<=(i+1)*4000000:=by omega
theorem wA.le{b n:Nat}{g:Int->Option Int}(h:wA w b n g)(d:n<=n'):wA w b n' g:=by
 obtain⟨D,⟨es,c,k1,k2,k3,k4⟩,k5⟩:=h;exact⟨D,⟨es,c,k1,k2,Jn k3 d,k4⟩,k5⟩
theorem ChkAt.le{pv:List Value}{g c:Value}{n:Nat}(h:ChkAt w C m1 m2 pv g c n d)(i:n<=n'):ChkAt w C m1 m2 pv g c n' d:=
 ⟨h.blk,h.plen,h.map1.le i,h.map2.le i,h.ne,h.dom⟩
theorem qL {n:Nat}(h:n<=9000000):I64 (n:Int):=⟨by omega,by omega⟩
theorem blkF_eq{p:IProg}{i:Int}{b:IBlk}{d2:wO}(h1:vJ i b.params d=some d1)(h2:sS p i b.ops 0 d1=some d2):pS p bl i b d=if aw bl b.term then some d2 else none:=by
 unfold pS;rw[h1,Nw,h2,Nw]
theorem mS{p:IProg}{i:Int}{b:IBlk}(h1:vJ i b.params d=none):pS p bl i b d=none:=by
 unfold pS;rw[h1];rfl
theorem mm{p:IProg}{i:Int}{b:IBlk}(h1:vJ i b.params d=some d1)(h2:sS p i b.ops 0 d1=none):pS p bl i b d=none:=by
 unfold pS;rw[h1,Nw,h2];rfl
theorem lM{B:Nat}{V:PV}{p:IProg}{g1 d4:Value}{blocks:List IBlk}(hp:ProgIn w B V p)(g0:wX w B g1 blocks)(hB:B<=w.heap.size)(h1:B<=m1)(h2:B<=m2)(hl:p.args.length=p.funcs.length)(hs:vZ blocks)
 (hc:ChkAt w C m1 m2 (rC V p) g1 d4 0 ags):
 I 117 #[F C] w (ShpPost w C m1 m2 (rC V p) g1 d4 (wg p blocks)):=by
 obtain⟨fa,fc,rfl,l6,l5⟩:=g0.form;have n5:blocks.length<=9223372036854775807:=Zo;have k4:=Ja g0;have m:=Ja (show ProgIn w B V p/\B<=w.heap.size/\B<=m1/\B<=m2/\p.args.length=p.funcs.length/\vZ blocks from⟨hp,hB,h1,h2,hl,hs⟩);have n6:=Ja hc.ne1;have n7:=Ja (Jb hc.map1.lt hc.map2.lt);have m4:=Ja hc;obtain⟨res,e5⟩:∃x,wg p blocks=x:=⟨_,rfl⟩
 rw[e5];have t:=Ja e5;have y6:A w C 6 (.slice fa blocks.length fc):=zA hc.blk rfl;clear hp g0 hB h1 h2 hl hs hc e5 l6 l5;go_enter Tryz.func117,Tryz.ntmps117;go_wp2
 go_loopw [15] (fun kv wx=>∃i:Nat,i<=blocks.length/\kv=U i/\Hid (Kept m1 m2 w wx/\∃d,ChkAt wx C m1 m2 (rC V p) (.slice fa blocks.length fc) d4 (i*4000000) d/\uH p blocks (blocks.take i) 0 ags=some d)) (fun kv _=>blocks.length-(intOf kv).toNat)
 case atStart=>exact⟨0,Jt _,rfl,Ja ⟨Kept.refl _ _ _,ags,m4.out,rfl⟩⟩
 case round=>
  obtain⟨i,hi,rfl,HI⟩:=hrel
  by_cases e8:i<blocks.length
  ·have k6:(i:Int)<blocks.length:=Zo;have k3:=Ja e8;obtain⟨bx,b3⟩:∃bx,blocks[i]? =some bx:=⟨_,Jd e8⟩
   obtain⟨fb,fo,rfl,d5,j2,a6,f8,pv,ov,tv,i9,i8,i2,f4,f6,f3⟩:=k4.out.get b3;obtain⟨pa,pc,rfl,l2,l1⟩:=f4.form;obtain⟨oa,oc,rfl,l4,l3⟩:=f6.form;obtain⟨ta,tc,rfl,l0,k9⟩:=f3.form;have n3:bx.params.length<=9223372036854775807:=Zo;have n4:bx.ops.length<=9223372036854775807:=Zo;have g:Below B w wr:=HI.out.1.below m.out.2.2.1 m.out.2.2.2.1 m.out.2.1;have e0:=zV g d5 i9;have e1:=zV g d5 i8;have e2:=zV g d5 j2;have e3:=zV g d5 a6;have e4:=zV g d5 i2;have u:=Ja (show blocks[i]? =some bx/\zY w B (.slice pa bx.params.length pc) bx.params/\mN w B (.slice oa bx.ops.length oc) bx.ops/\wH w B (.slice ta bx.term.to.length tc) bx.term.to/\(I64 bx.term.kind/\I64 bx.term.a) from⟨b3,f4,f6,f3,f8⟩);obtain⟨d,h,c⟩:=HI.out.2;have j3:=h.below ((Below.refl wr.heap.size wr).alloc (Je _) (G #[.slice pa bx.params.length pc,.slice oa bx.ops.length oc,U bx.term.kind,U bx.term.a,.slice ta bx.term.to.length tc] 84));have k2:=Ja (Jb h.map1.lt h.map2.lt);have a1:=Ja c;have f2:=zI (W:=wr) (o:=G #[.slice pa bx.params.length pc,.slice oa bx.ops.length oc,U bx.term.kind,U bx.term.a,.slice ta bx.term.to.length tc] 84) rfl;have j1:=HI.out.1.trans (Kept.of ((Below.refl wr.heap.size wr).alloc (Je _) (G #[.slice pa bx.params.length pc,.slice oa bx.ops.length oc,U bx.term.kind,U bx.term.a,.slice ta bx.term.to.length tc] 84)));clear b3 j2 a6 f8 i9 i8 i2 f4 f6 f3 l2 l1 l4 l3 l0 k9 g h c e8 y6;go_upto_region 4 with fail;generalize l9:wr.alloc (G #[.slice pa bx.params.length pc,.slice oa bx.ops.length oc,U bx.term.kind,U bx.term.a,.slice ta bx.term.to.length tc] 84)=W1 at *;generalize l:wr.heap.size=b4 at *;have z0:=K0 f2;have d6:=Ja (show Q W1 b4 #[.slice pa bx.params.length pc,.slice oa bx.ops.length oc,U bx.term.kind,U bx.term.a,.slice ta bx.term.to.length tc] 84/\b4≠m1/\b4≠m2 from⟨f2,by have:=k2.out.1;omega,by have:=k2.out.2;omega⟩);have g5:=Ja j1;have m3:=Ja j3;have d7:=Ja (m.out.2.2.2.2.2.2 bx (Ji u.out.1));have f0:=Ja (show i<=2000000 from Jn hi m.out.2.2.2.2.2.1);clear l9 l f2 j3 j1 e0 e1 e2 e3 e4;go_wp2
   go_loopw [23] (fun jv wx=>∃j:Nat,j<=bx.params.length/\jv=U j/\Hid (Kept m1 m2 W1 wx/\∃d',ChkAt wx C m1 m2 (rC V p) (.slice (some ⟨fb,fo,none⟩) blocks.length fc) d4 (i*4000000+j) d'/\vJ i (bx.params.take j) d=some d')) (fun jv _=>bx.params.length-(intOf jv).toNat)
   case atStart=>exact⟨0,Jt _,rfl,Ja ⟨Kept.refl _ _ _,d,m3.out.le (cnt_0 i),rfl⟩⟩
   case round=>
    obtain⟨j,hj,rfl,HJ⟩:=hrel
    by_cases b1:j<bx.params.length
    ·have h5:(j:Int)<bx.params.length:=Zo;have g4:=Ja b1;obtain⟨v,hv⟩:∃v,bx.params[j]? =some v:=⟨_,Jd b1⟩
     obtain⟨qb,qo,rfl,y,e7,b7⟩:=u.out.2.1.get hv;rw[Nk] at e7;have g:Below B w wr:=(g5.out.trans HJ.out.1).below m.out.2.2.1 m.out.2.2.2.1 m.out.2.1;have cv:=zV g y e7;obtain⟨d',h,c⟩:=HJ.out.2;have HV:=Ja (show bx.params[j]? =some v/\vJ i (bx.params.take j) d=some d' from⟨hv,c⟩);have c9:I64 (i:Int):=qL (by have:=f0.out;omega);have c8:I64 (-1):=⟨by omega,by omega⟩
     cases a0:rB d' v i (-1) with
     |none=>
      have HD:=Ja a0;have d3:=Ja (oK h v i (-1) b7 c9 c8 a0);clear hv e7 y g h c a0 c9 c8 b1 b7 z0;go_wp2_with (go_at_call 137;go_must (refine d3.out.mono ?_;intro e w1 hh;obtain⟨rfl,hw⟩:=hh;rw[hw];clear hw))
      go_ret;refine⟨?_,g5.out.trans HJ.out.1,fun d2 hd2=>?_⟩
      ·rw[<-t.out,wS,abe u.out.1 a1.out (mS (qr HV.out.1 HV.out.2 HD.out))];rfl
      ·rw[<-t.out,wS,abe u.out.1 a1.out (mS (qr HV.out.1 HV.out.2 HD.out))] at hd2;cases hd2
     |some d2=>
      have HD:=Ja a0;have d3:=Ja (qk h (cnt_lt f0.out (Jn hj d7.out.1)) v i (-1) b7 c9 c8 a0);clear hv e7 y g h c a0 c9 c8 b1 b7 z0;go_wp2_with (go_at_call 137;go_must (refine d3.out.mono ?_;rintro e w1 ⟨rfl,b2,a6⟩))
      have d9:=Ja (Jb b2 a6);clear b2 a6;go_roundw
      case rel=>exact⟨j+1,g4.out,by go_num,Ja ⟨HJ.out.1.trans d9.out.2,d2,d9.out.1.le (cnt_1 i j),(aC HV.out.1 HV.out.2).trans HD.out⟩⟩
      case measure=>have:=g4.out;simp[intOf];omega
    ·obtain rfl:j=bx.params.length:=by omega
     have h5:¬(bx.params.length:Int)<bx.params.length:=Zo;obtain⟨d1,h,c⟩:=HJ.out.2;rw[Nl] at c;have g6:=Ja c;have f1:=Ja h;have a2:=HJ.out.1.blk d6.out.1 d6.out.2.1 d6.out.2.2;have z1:=K1 a2;have m0:=Ja a2;have b6:=Ja (g5.out.trans HJ.out.1);clear h c b1 a2 z0;generalize wr=W2 at *;go_wp2
     go_loopw [36] (fun kv wx=>∃k:Nat,k<=bx.ops.length/\kv=U k/\Hid (Kept m1 m2 W2 wx/\∃d',ChkAt wx C m1 m2 (rC V p) (.slice (some ⟨fb,fo,none⟩) blocks.length fc) d4 (i*4000000+2000000+k) d'/\sS p i (bx.ops.take k) 0 d1=some d')) (fun kv _=>bx.ops.length-(intOf kv).toNat)
     case atStart=>exact⟨0,Jt _,rfl,Ja ⟨Kept.refl _ _ _,d1,f1.out.le (cnt_2 d7.out.1),rfl⟩⟩
     case round=>
      obtain⟨k,hk,rfl,HK⟩:=hrel
      by_cases c7:k<bx.ops.length
      ·have h4:(k:Int)<bx.ops.length:=Zo;have d0:=Ja c7;obtain⟨o,ho⟩:∃o,bx.ops[k]? =some o:=⟨_,Jd c7⟩
       obtain⟨qb,qo,rfl,y,i1,i0,h9,h8,h7,f7,av,h6,j5⟩:=u.out.2.2.1.get ho;obtain⟨aa,ac,rfl,k0,j4⟩:=j5.form;have g:Below B w wr:=(b6.out.trans HK.out.1).below m.out.2.2.1 m.out.2.2.2.1 m.out.2.1;have c0:=zV g y i1;have c1:=zV g y i0;have c2:=zV g y h9;have c3:=zV g y h8;have c4:=zV g y h7;have c5:=zV g y h6;obtain⟨d',h,c⟩:=HK.out.2;have HV:=Ja (show bx.ops[k]? =some o/\sS p i (bx.ops.take k) 0 d1=some d' from⟨ho,c⟩);have g2:=Ja (show(I64 o.code/\I64 o.res/\I64 o.a/\I64 o.b/\o.n<65536)/\o.args.length<=ac/\ac<=9223372036854775807 from⟨f7,k0,j4⟩);have e6:=(Below.refl wr.heap.size wr).alloc (Je _) (G (P o aa ac) 76);have a3:=zI (W:=wr) (o:=G (P o aa ac) 76) rfl;have j0:=HK.out.1.trans (Kept.of e6);have f9:=h.below e6;have b3:Below B w (wr.alloc (G (P o aa ac) 76)):=g.alloc (Jn m.out.2.1 g.size) _;have g3:=Ja (Jb h.map1.lt h.map2.lt);clear ho i1 i0 h9 h8 h7 h6 f7 j5 k0 j4 g h c c7 z1;go_upto_region 13 with fail;generalize l8:wr.alloc (G (P o aa ac) 76)=W3 at *;generalize l7:wr.heap.size=b8 at *;have n2:=K0 a3;have n1:=K1 a3;have n0:=K2 a3;have m7:=K3 a3;have m6:=K4 a3;have m5:=K5 a3;have f5:=oper_any (m.out.1.below b3) (Jn m.out.2.1 b3.size) f9.blk m.out.2.2.2.2.1 o g2.out.1 aa ac g2.out.2;unfold opV at f5;have d8:=Ja f5;have e9:=Ja j0;have g9:=Ja f9;have b5:=Ja a3;have n8:=Ja (show b8≠m1/\b8≠m2 from⟨by have:=g3.out.1;omega,by have:=g3.out.2;omega⟩);clear f5 j0 f9 a3 l8 l7 b3 e6 c0 c1 c2 c3 c4 c5;obtain⟨q,hq⟩:∃q,opF p o=q:=⟨_,rfl⟩
       rw[hq] at d8;have HQ:=Ja hq;clear hq
       cases q with
       |false=>
        go_wp2_with (first|(go_at_call 138;go_must (refine d8.out.mono ?_;rintro e w4 ⟨rfl,l⟩))|go_in)
        go_ret
        have a5:wg p blocks=none:=by
         rw[wS];exact abe u.out.1 a1.out (mm g6.out (oR HV.out.1 HV.out.2 (by unfold ug;rw[HQ.out];rfl)))
        refine⟨?_,(b6.out.trans e9.out).trans (Kept.of l),fun d2 hd2=>?_⟩
        ·rw[<-t.out,a5];rfl
        ·rw[<-t.out,a5] at hd2;cases hd2
       |true=>
        by_cases hr:0<=o.res
        ·have t1:decide (0<=o.res)=true:=decide_eq_true hr;have HR:=Ja hr;obtain⟨r,a0⟩:∃r,rB d' o.res i k=r:=⟨_,rfl⟩
         have HD:=Ja a0;have h64:=Ja (show I64 o.res/\I64 (i:Int)/\I64 (k:Int) from⟨g2.out.1.2.1,qL (Jn f0.out Zd),qL (Jn (Jn hk d7.out.2.1) Zd)⟩);clear hr a0
         cases r with
         |none=>
          go_wp2_with (first|(go_at_call 138;go_must (refine d8.out.mono ?_;rintro e w4 ⟨rfl,l⟩;have a7:=g9.out.below l;have a4:=zH l b5.out (lt_of_block b5.out);have u1:=K1 a4;have b0:=Ja (Jb a7 l);clear a7 l a4))|(go_at_call 137;go_must (refine(oK b0.out.1 o.res i k h64.out.1 h64.out.2.1 h64.out.2.2 HD.out).mono ?_;intro e w5 hh;obtain⟨rfl,hw⟩:=hh;rw[hw];clear hw))|go_in)
          go_ret
          have a5:wg p blocks=none:=by
           rw[wS];exact abe u.out.1 a1.out (mm g6.out (oR HV.out.1 HV.out.2 (by unfold ug;rw[HQ.out,if_pos rfl,if_pos HR.out,HD.out])))
          refine⟨?_,(b6.out.trans e9.out).trans (Kept.of b0.out.2),fun d2 hd2=>?_⟩
          ·rw[<-t.out,a5];rfl
          ·rw[<-t.out,a5] at hd2;cases hd2
         |some d2=>
          go_wp2_with (first|(go_at_call 138;go_must (refine d8.out.mono ?_;rintro e w4 ⟨rfl,l⟩;have a7:=g9.out.below l;have a4:=zH l b5.out (lt_of_block b5.out);have u1:=K1 a4;have b0:=Ja (Jb a7 l);clear a7 l a4))|(go_at_call 137;go_must (refine(qk b0.out.1 (cnt_lt2 f0.out (Jn hk d7.out.2.1)) o.res i k h64.out.1 h64.out.2.1 h64.out.2.2 HD.out).mono ?_;rintro e w5 ⟨rfl,b2,a6⟩;have d9:=Ja (Jb b2 a6);clear b2 a6))|go_in)
          go_roundw
          case rel=>exact⟨k+1,d0.out,by go_num,Ja ⟨(e9.out.trans (Kept.of b0.out.2)).trans d9.out.2,d2,d9.out.1.le (cnt_3 i k),(cK HV.out.1 HV.out.2).trans (by unfold ug;rw[HQ.out,if_pos rfl,if_pos HR.out,HD.out])⟩⟩
          case measure=>have:=d0.out;simp[intOf];omega
        ·have t1:decide (0<=o.res)=false:=decide_eq_false hr;have HR:=Ja hr;clear hr;go_wp2_with (first|(go_at_call 138;go_must (refine d8.out.mono ?_;rintro e w4 ⟨rfl,l⟩;have a7:=g9.out.below l;have a4:=zH l b5.out (lt_of_block b5.out);have u1:=K1 a4;have b0:=Ja (Jb a7 l);clear a7 l a4))|go_in)
         go_roundw
         case rel=>exact⟨k+1,d0.out,by go_num,Ja ⟨e9.out.trans (Kept.of b0.out.2),d',b0.out.1.le (cnt_3' i k),(cK HV.out.1 HV.out.2).trans (by unfold ug;rw[HQ.out,if_pos rfl,if_neg (by have:=HR.out;omega)])⟩⟩
         case measure=>have:=d0.out;simp[intOf];omega
      ·obtain rfl:k=bx.ops.length:=by omega
       have h4:¬(bx.ops.length:Int)<bx.ops.length:=Zo;obtain⟨d2,h,c⟩:=HK.out.2;rw[Nl] at c;have a2:=HK.out.1.blk m0.out d6.out.2.1 d6.out.2.2;have z2:=K2 a2;have z3:=K3 a2;have z4:=K4 a2;have g:Below B w wr:=(b6.out.trans HK.out.1).below m.out.2.2.1 m.out.2.2.2.1 m.out.2.1;have b9:=term_any (k4.out.below yT g) (Jn m.out.2.1 g.size) h.blk rfl bx.term u.out.2.2.2.2 (u.out.2.2.2.1.below xL g);have h0:=Ja (blkF_eq (p:=p) (bl:=blocks) g6.out c);obtain⟨q,hq⟩:∃q,aw blocks bx.term=q:=⟨_,rfl⟩
       rw[hq] at b9 h0;have k1:=Ja b9;have k7:=Ja h;clear h c a2 g b9 hq c7 z1
       cases q with
       |false=>
        go_wp2_with (first|(go_at_call 139;go_must (refine k1.out.mono ?_;rintro e w4 ⟨rfl,l⟩))|go_in)
        go_ret
        have a5:wg p blocks=none:=by
         rw[wS];exact abe u.out.1 a1.out (by rw[h0.out];rfl)
        refine⟨?_,(b6.out.trans HK.out.1).trans (Kept.of l),fun d2 hd2=>?_⟩
        ·rw[<-t.out,a5];rfl
        ·rw[<-t.out,a5] at hd2;cases hd2
       |true=>
        go_wp2_with (first|(go_at_call 139;go_must (refine k1.out.mono ?_;rintro e w4 ⟨rfl,l⟩))|go_in)
        have k5:=Ja l;clear l;go_roundw
        case rel=>exact⟨i+1,k3.out,by go_num,Ja ⟨(b6.out.trans HK.out.1).trans (Kept.of k5.out),d2,(k7.out.below k5.out).le (cnt_4 d7.out.2.1),(lQ u.out.1 a1.out).trans (by rw[h0.out];rfl)⟩⟩
        case measure=>have:=k3.out;simp[intOf];omega
  ·obtain rfl:i=blocks.length:=by omega
   have k6:¬(blocks.length:Int)<blocks.length:=Zo;obtain⟨d,h,c⟩:=HI.out.2;rw[Nl] at c;have f1:=Ja (Jb h c);clear h c e8;go_wp2;go_ret;have hr:res=some d:=by rw[<-t.out,wS,f1.out.2]
   rw[hr];refine⟨rfl,HI.out.1,fun d2 hd2=>?_⟩;cases hd2;exact⟨_,cnt_lt m.out.2.2.2.2.2.1 (Jt _),f1.out.1.le (cnt_0 _)⟩
def xT (t:ITerm)(k:Nat):List Int:=((t.to.take k).map (·.args)).flatten
theorem jZ9{e:IEdge}(h:t.to[k]? =some e):xT t (k+1)=xT t k++e.args:=by
 unfold xT;rw[Nh,h,Js,List.flatten_append];simp
theorem tP(h:∀e∈t.to,e.args.length<=2000000):∀k,k<=t.to.length->(xT t k).length<=k*2000000
 |0,_=>Jt _
 |k+1,hk=>by
  obtain⟨e,he⟩:∃e,t.to[k]? =some e:=⟨_,Jd Zo⟩
  rw[jZ9 he,Jk];have:=tP h k Zo;have:=h e (Ji he);omega
theorem si (t:ITerm):xT t t.to.length=(t.to.map (·.args)).flatten:=by unfold xT;rw[Nl]
structure EndsMem (w wx:World) (xs:List Int) (v:Value):Prop where
 below:Below w.heap.size w wx
 own:wx.ownsRow w.heap.size 3 1 v xs.length (xs.map zN)
theorem ends_any(t:ITerm)(ht:I64 t.kind/\I64 t.a){tv:Value}{B:Nat}(hB:B<=w.heap.size)(a3:wH w B tv t.to)(b7:t.to.length<=2000000/\∀e∈t.to,e.args.length<=2000000):
 I 121 #[.agg #[U t.kind,U t.a,tv]] w (wG w (mE t)):=by
 obtain⟨ta,tc,rfl,d7,d6⟩:=a3.form;obtain⟨ii,c3,b0,a7,a6⟩:=info_parts Tryz.info_int;have e6:t.to.length<=9223372036854775807:=Zo;obtain⟨hd,hh⟩:∃q,ut t=q:=⟨_,rfl⟩
 obtain⟨LH,i⟩:∃LH,(if hd then [t.a] else([]:List Int))=LH:=⟨_,rfl⟩
 have hu:mE t=LH++(t.to.map (·.args)).flatten:=by rw[<-i,<-hh];rfl
 rw[hu]
 have e5:=Ja (show ∀x∈LH++(t.to.map (·.args)).flatten,I64 x by
  intro x hx;rcases Jl.1 hx with hx|hx
  ·rw[<-i] at hx;cases hd<;>simp at hx
   rw[hx];exact ht.2
  ·obtain⟨l,hl,d5⟩:=List.mem_flatten.1 hx;obtain⟨e,he,rfl⟩:=Nu.1 hl;obtain⟨k,hk⟩:=Ny he;obtain⟨b,o,_,_,_,_,av,_,a0⟩:=a3.get hk
   exact zY.all a0 x d5)
 have HL:=Ja (show LH.length<=1 by rw[<-i];cases hd<;>simp);unfold ut at hh;obtain⟨tk,c2⟩:∃x,t.kind=x:=⟨_,rfl⟩
 obtain⟨tA,b1⟩:∃x,t.a=x:=⟨_,rfl⟩
 rw[c2,b1] at hh ht ⊢;rw[b1] at i;obtain⟨b2,g2⟩:∃q,decide (tk=2)=q:=⟨_,rfl⟩
 obtain⟨b3,g3⟩:∃q,decide (tk=3)=q:=⟨_,rfl⟩
 obtain⟨b4,g4⟩:∃q,decide (tk=4)=q:=⟨_,rfl⟩
 obtain⟨b5,g5⟩:∃q,decide (tA≠-1)=q:=⟨_,rfl⟩
 rw[g2,g3,g4,g5] at hh;have t2:(tk==2)=b2:=vu g2;have t3:(tk==3)=b3:=vu g3;have t4:(tk==4)=b4:=vu g4;have t5:(tA !=-1)=b5:=by rw[<-g5,bne];by_cases h:tA=-1<;>simp[h]
 have j:=Ja (show wH w B (.slice ta t.to.length tc) t.to/\B<=w.heap.size/\t.to.length<=2000000/\∀e∈t.to,e.args.length<=2000000 from⟨a3,hB,b7⟩);have HA:=Ja i;have HH:=Ja hh;have u:=zI (W:=w) (o:=G #[U tk,U tA,.slice ta t.to.length tc] 82) rfl;have c9:Y w (w.alloc (G #[U tk,U tA,.slice ta t.to.length tc] 82)):=(Below.refl _ _).alloc (Je _) _;clear a3 hB b7 ht d7 d6 g2 g3 g4 g5 c2 b1 i hh hu;go_enter Tryz.func121,Tryz.ntmps121;go_upto_region 2 with fail;generalize e3:w.alloc (G #[U tk,U tA,.slice ta t.to.length tc] 82)=W0 at *;have y0:=K0 u;have y1:=K1 u;have y2:=K2 u;have m:=Ja (show Y w W0/\Q W0 w.heap.size #[U tk,U tA,.slice ta t.to.length tc] 82 from⟨c9,u⟩);clear e3 u c9
 go_cut [23] (fun s wx=>s=.bool hd/\wx=W0)
 case first=>
  cases b2<;>cases b3<;>cases b4<;>cases b5
  all_goals (
   go_wp2;go_meet
   exact⟨by rw[<-HH.out];rfl,rfl⟩)
 case rest=>
  obtain⟨rfl,c0⟩:=hcut;rw[c0];clear c0 t2 t3 t4 t5
  go_upto_if 23 with fail
  go_cut [3] (fun v wx=>Hid (EndsMem w wx LH v/\Q wx w.heap.size #[U tk,U tA,.slice ta t.to.length tc] 82))
  case first=>
   have g:=Ja (show W0.ownsRow w.heap.size 3 1 (L) 0 [] from Jv W0 _ _ _);cases hd
   ·go_wp2;go_meet;exact Ja ⟨⟨m.out.1,by rw[<-HA.out];exact g.out⟩,m.out.2⟩
   ·go_wp2_with (at_builtin;go_must (refine zK _ rfl (.tmp 24) (.tmp 27) 22 rfl w.heap.size 3 ii (U 0) 1 8 Tryz.underlying22 c3 b0 a7 a6 rfl Zd (L) 0 [] rfl (g.out.alloc _) _ 1 [U tA] rfl (yM.one (zI Zs) (by simp[Value.oneCell'])) Zd Zd (by have:=m.out.1.size;simp;omega) ?_;intro v0 W1 c d d0))
    go_meet;exact Ja ⟨⟨yP (m.out.1.alloc m.out.1.size _) d (by have:=m.out.1.size;simp;omega) (wF g.out),by rw[<-HA.out];exact c⟩,zL d (zB m.out.2) (zC g.out m.out.2 (.inr Zd))⟩
  case rest=>
  clear y0 y1 y2 m
  rename World=>W1
  have z2:=K2 hcut.out.2;have e7:=Ja hcut.out.2;have HS:=Ja (show EndsMem w W1 (LH++xT t 0) u3 from(Ua LH).symm ▸ hcut.out.1);clear hcut;go_wp2
  go_loopw [3,32] (fun lv kv wx=>∃k:Nat,k<=t.to.length/\kv=U k/\Hid (EndsMem w wx (LH++xT t k) lv)) (fun _ kv _=>t.to.length-(intOf kv).toNat)
  case atStart=>exact⟨0,Jt _,rfl,HS⟩
  case round=>
   obtain⟨k,hk,rfl,HK⟩:=hrel
   by_cases a5:k<t.to.length
   ·have d3:(k:Int)<t.to.length:=Zo;have d2:=Ja a5;obtain⟨e,he⟩:∃e,t.to[k]? =some e:=⟨_,Jd a5⟩
    obtain⟨eb,eo,rfl,c4,c7,d4,av,c5,a0⟩:=j.out.1.get he;obtain⟨aa,ac,rfl,d9,d8⟩:=a0.form;have b8:=HK.out.below.mono j.out.2.1;have e0:=zV b8 c4 c7;have e1:=zV b8 c4 c5;have HE:=Ja (show t.to[k]? =some e/\zY w B (.slice aa e.args.length ac) e.args from⟨he,a0⟩);clear he c7 c5 d4 a0 d9 d8 b8 a5 z2;have b9:=zI (W:=wr) (o:=G #[U e.block,.slice aa e.args.length ac] 79) rfl;have a2:=HK.out.below.alloc HK.out.below.size (G #[U e.block,.slice aa e.args.length ac] 79);have a4:=HK.out.own.alloc (G #[U e.block,.slice aa e.args.length ac] 79);have b6:=zY.src (HE.out.2.below zO (a2.mono j.out.2.1));go_upto_region 7 with fail;generalize e2:wr.alloc (G #[U e.block,.slice aa e.args.length ac] 79)=W2 at *;generalize wr.heap.size=b5 at *;have z51:=K1 b9
    have y:(LH++xT t k).length+e.args.length<=6000000000000:=by
     have h1:=tP j.out.2.2.2 k hk;have h2:=j.out.2.2.1;have h3:=j.out.2.2.2 e (Ji HE.out.1);rw[Jk];have h4:=HL.out;omega
    have a1:=Ja (show _/\_ from⟨y,a2⟩);have d1:=Ja a4;have e4:=Ja b6;clear y a4 b6 a2 b9 e2 e0 e1;go_wp2_with (at_builtin;go_must (refine zK _ rfl (.tmp 36) (.tmp 38) 22 rfl w.heap.size 3 ii (U 0) 1 8 Tryz.underlying22 c3 b0 a7 a6 rfl Zd _ (LH++xT t k).length ((LH++xT t k).map zN) rfl d1.out _ e.args.length (e.args.map zN) rfl e4.out (by have:=a1.out.1;unfold maxLen;omega) (by have:=a1.out.1;omega) a1.out.2.size ?_;intro v9 w9 c d d0))
    have c8:=yP a1.out.2 d a1.out.2.size (wF d1.out);have HN:=Ja (Jb c8 c);clear c d d0 c8;go_roundw
    case rel=>
     refine⟨k+1,d2.out,by go_num,Ja ⟨HN.out.1,?_⟩⟩;rw[jZ9 HE.out.1,<-Nv,Jk (bs:=e.args),Js (l₂:=e.args)];exact HN.out.2
    case measure=>have:=d2.out;simp[intOf];omega
   ·obtain rfl:k=t.to.length:=by omega
    have d3:¬(t.to.length:Int)<t.to.length:=Zo;clear a5 z2;go_wp2;go_ret;have c:=HK.out.own;rw[si] at c;exact⟨_,rfl,uA c rfl e5.out,HK.out.below⟩
theorem jT {g:List (List Nat)}(hv:zw g)(h:g.length<=9000000):∀x∈wQ g,I64 x:=by
 intro x d;unfold wQ at d;obtain⟨c,i,rfl⟩:=Nu.1 d;rcases idomOf hv c with⟨h1,_⟩|⟨c',h1,_,h3,_⟩
 ·rw[h1];exact⟨by omega,by omega⟩
 ·have:=(cA hv h3).1;rw[h1];exact⟨by omega,by omega⟩
theorem lp {α:Type}:∀l:List α,l=[]∨∃a m,l=a::m
 | []=> .inl rfl
 |a::m=> .inr ⟨a,m,rfl⟩
theorem nA{B:Nat}{V:PV}{p:IProg}(hp:ProgIn w B V p)(hB:B<=w.heap.size)(hl:p.args.length=p.funcs.length)(ha:p.args.all tX=true)(hs:∀f∈p.funcs,vZ f){n:Nat}(hn:n<p.funcs.length):
 I 69 #[yH V p,U n] w (ym w (yi p n)):=by
 have m:=Ja (show ProgIn w B V p/\B<=w.heap.size/\p.args.length=p.funcs.length/\p.args.all tX=true/\∀f∈p.funcs,vZ f from⟨hp,hB,hl,ha,hs⟩);have B2:=@run_makeMap Tryz.prog;obtain⟨Vf,Va,Vd,Vb⟩:=V;obtain⟨f1,f2,e1,v1,v0⟩:=hp.funcs.form;have k3:=hp.funcs;have k5:=hp.args;obtain⟨a1,a2,e2,n4,n2⟩:=hp.args.form;obtain⟨d1,d2,e3,v4,v3⟩:=hp.data.form;obtain⟨b1,b2,e4,v6,v5⟩:=hp.banks.form;simp only at e1 e2 e3 e4 k3 k5;subst e1 e2 e3 e4;have B3:p.funcs.length<=9223372036854775807:=Zo;have B4:p.args.length<=9223372036854775807:=Zo;obtain⟨blocks,h9⟩:∃bl,p.funcs[n]? =some bl:=⟨_,Jd hn⟩
 obtain⟨x,hx⟩:∃x,p.args[n]? =some x:=⟨_,Jd Zo⟩
 obtain⟨fb,fo,rfl,b5,bv,f7,n0⟩:=k3.get h9;obtain⟨ab,ao,rfl,s1,f9,x6⟩:=k5.get hx;rw[Nk] at f7 f9;obtain⟨ba,bc,rfl,t7,t6⟩:=n0.form;have x9:blocks.length<=9223372036854775807:=Zo;unfold yH;simp only;obtain⟨res,f5⟩:∃x,yi p n=x:=⟨_,rfl⟩
 rw[f5];have n6:=Ja f5;have j:=Ja (show p.funcs[n]? =some blocks/\wX w B (.slice ba blocks.length bc) blocks/\vZ blocks/\p.args[n]? =some x from⟨h9,n0,hs _ (Ji h9),hx⟩);have n1:Y w (w.alloc (G (D p (some ⟨fb,fo,none⟩) f2 (some ⟨ab,ao,none⟩) a2 d1 d2 b1 b2) 29)):=(Below.refl _ _).alloc (Je _) _;have cf:=zV n1 (Jy b5 hB) f7;have B0:(n:Int)<p.funcs.length:=Zo;have B1:(n:Int)<p.args.length:=Zo;have s9:=Ja (show ab<B/\A w ab (ao+n) (U x) from⟨s1,f9⟩);have j0:=zI (W:=w) (o:=G (D p (some ⟨fb,fo,none⟩) f2 (some ⟨ab,ao,none⟩) a2 d1 d2 b1 b2) 29) rfl;have j4:(w.alloc (G (D p (some ⟨fb,fo,none⟩) f2 (some ⟨ab,ao,none⟩) a2 d1 d2 b1 b2) 29)).heap.size=w.heap.size+1:=by simp
 clear hp k3 k5 hB hl ha hs hn v1 v0 n4 n2 v4 v3 v6 v5 h9 hx f5 n0 t7 t6 f7 f9 b5 s1;go_enter Tryz.func69,Tryz.ntmps69;go_upto_region 1 with fail;generalize w5:w.alloc (G (D p (some ⟨fb,fo,none⟩) f2 (some ⟨ab,ao,none⟩) a2 d1 d2 b1 b2) 29)=WP at *;have p0:=K0 j0;have r6:Y w (WP.alloc (G #[.slice ba blocks.length bc] 39)):=n1.alloc Zo _;have y:=zB (o:=G #[.slice ba blocks.length bc] 39) j0;have j1:Q (WP.alloc (G #[.slice ba blocks.length bc] 39)) (w.heap.size+1) #[.slice ba blocks.length bc] 39:=zI j4;have e5:(WP.alloc (G #[.slice ba blocks.length bc] 39)).heap.size=w.heap.size+2:=by simp[j4]
 clear w5 n1 j0;go_upto_region 2 with fail;generalize w7:WP.alloc (G #[.slice ba blocks.length bc] 39)=WF at *;have q0:=K0 j1;clear w7 j4 p0 cf;have s6:=Ja (show Y w WF from r6);clear r6;rcases lp blocks with a4|⟨b0,bs,a4⟩
 ·have hr:res=true:=by rw[<-n6.out];unfold yi;rw[Jj,j.out.1,a4];rfl
  have t0:((blocks.length:Int)==0)=true:=by rw[a4];rfl
  clear a4;go_wp2;go_ret;exact⟨uz hr,s6.out⟩
 ·have t0:((blocks.length:Int)==0)=false:=by rw[beq_eq_false_iff_ne,a4,Nq];omega
  have s7:=Ja a4;have x7:(0:Int)<blocks.length:=by rw[a4,Nq];omega
  have h0:blocks[0]? =some b0:=by rw[a4];rfl
  obtain⟨kb,ko,rfl,q7,_,_,_,pv,ov,tv,e7,_,_,e6,_,_⟩:=j.out.2.1.get h0;obtain⟨pa,pc,rfl,k4,k2⟩:=e6.form;have x8:b0.params.length<=9223372036854775807:=Zo;have s4:=Ja (Jb q7 e7);clear a4 h0 q7 e7 e6 k4 k2;have p0:=K0 y;have p1:=K1 y;have p2:=K2 y;have p3:=K3 y;have p4:=K4 y;have p5:=K5 y;go_upto_region 5 with fail;have s2:Q (((WF.alloc (.map #[] 0)).alloc (.map #[] 0)).alloc (G #[.slice (some ⟨fb,fo,none⟩) p.funcs.length f2,.slice (some ⟨ab,ao,none⟩) p.args.length a2,U p.entry,U p.handler,.slice d1 p.data.length d2,.slice b1 p.banks.length b2,.slice (some ⟨kb,ko,none⟩) blocks.length bc,.map (some (w.heap.size+2)),.map (some (w.heap.size+2+1)),L] 173)) (w.heap.size+2+1+1) #[.slice (some ⟨fb,fo,none⟩) p.funcs.length f2,.slice (some ⟨ab,ao,none⟩) p.args.length a2,U p.entry,U p.handler,.slice d1 p.data.length d2,.slice b1 p.banks.length b2,.slice (some ⟨kb,ko,none⟩) blocks.length bc,.map (some (w.heap.size+2)),.map (some (w.heap.size+2+1)),L] 173:=zI (by simp[e5]);have q6:(((WF.alloc (.map #[] 0)).alloc (.map #[] 0)).alloc (G #[.slice (some ⟨fb,fo,none⟩) p.funcs.length f2,.slice (some ⟨ab,ao,none⟩) p.args.length a2,U p.entry,U p.handler,.slice d1 p.data.length d2,.slice b1 p.banks.length b2,.slice (some ⟨kb,ko,none⟩) blocks.length bc,.map (some (w.heap.size+2)),.map (some (w.heap.size+2+1)),L] 173)).heap[w.heap.size+2]? =some (.map #[] 0):=zB (zB (zI e5));have q5:(((WF.alloc (.map #[] 0)).alloc (.map #[] 0)).alloc (G #[.slice (some ⟨fb,fo,none⟩) p.funcs.length f2,.slice (some ⟨ab,ao,none⟩) p.args.length a2,U p.entry,U p.handler,.slice d1 p.data.length d2,.slice b1 p.banks.length b2,.slice (some ⟨kb,ko,none⟩) blocks.length bc,.map (some (w.heap.size+2)),.map (some (w.heap.size+2+1)),L] 173)).heap[w.heap.size+2+1]? =some (.map #[] 0):=zB (zI (by simp[e5]));have b6:Y w (((WF.alloc (.map #[] 0)).alloc (.map #[] 0)).alloc (G #[.slice (some ⟨fb,fo,none⟩) p.funcs.length f2,.slice (some ⟨ab,ao,none⟩) p.args.length a2,U p.entry,U p.handler,.slice d1 p.data.length d2,.slice b1 p.banks.length b2,.slice (some ⟨kb,ko,none⟩) blocks.length bc,.map (some (w.heap.size+2)),.map (some (w.heap.size+2+1)),L] 173)):=((s6.out.alloc Zo _).alloc Zt _).alloc Zt _;have o1:Q (((WF.alloc (.map #[] 0)).alloc (.map #[] 0)).alloc (G #[.slice (some ⟨fb,fo,none⟩) p.funcs.length f2,.slice (some ⟨ab,ao,none⟩) p.args.length a2,U p.entry,U p.handler,.slice d1 p.data.length d2,.slice b1 p.banks.length b2,.slice (some ⟨kb,ko,none⟩) blocks.length bc,.map (some (w.heap.size+2)),.map (some (w.heap.size+2+1)),L] 173)) w.heap.size (D p (some ⟨fb,fo,none⟩) f2 (some ⟨ab,ao,none⟩) a2 d1 d2 b1 b2) 29:=zB (zB (zB y));have m7:Q (((WF.alloc (.map #[] 0)).alloc (.map #[] 0)).alloc (G #[.slice (some ⟨fb,fo,none⟩) p.funcs.length f2,.slice (some ⟨ab,ao,none⟩) p.args.length a2,U p.entry,U p.handler,.slice d1 p.data.length d2,.slice b1 p.banks.length b2,.slice (some ⟨kb,ko,none⟩) blocks.length bc,.map (some (w.heap.size+2)),.map (some (w.heap.size+2+1)),L] 173)) (w.heap.size+1) #[.slice (some ⟨kb,ko,none⟩) blocks.length bc] 39:=zB (zB (zB j1));have o4:(((WF.alloc (.map #[] 0)).alloc (.map #[] 0)).alloc (G #[.slice (some ⟨fb,fo,none⟩) p.funcs.length f2,.slice (some ⟨ab,ao,none⟩) p.args.length a2,U p.entry,U p.handler,.slice d1 p.data.length d2,.slice b1 p.banks.length b2,.slice (some ⟨kb,ko,none⟩) blocks.length bc,.map (some (w.heap.size+2)),.map (some (w.heap.size+2+1)),L] 173)).heap.size=w.heap.size+2+1+1+1:=by simp[e5]
  generalize x2:((WF.alloc (.map #[] 0)).alloc (.map #[] 0)).alloc (G #[.slice (some ⟨fb,fo,none⟩) p.funcs.length f2,.slice (some ⟨ab,ao,none⟩) p.args.length a2,U p.entry,U p.handler,.slice d1 p.data.length d2,.slice b1 p.banks.length b2,.slice (some ⟨kb,ko,none⟩) blocks.length bc,.map (some (w.heap.size+2)),.map (some (w.heap.size+2+1)),L] 173)=W2 at *;generalize x3:w.heap.size+2+1+1=C at *;generalize t2:w.heap.size+2+1=m2 at *;generalize t3:w.heap.size+2=m1 at *;have a7:ChkAt W2 C m1 m2 (rC ⟨.slice (some ⟨fb,fo,none⟩) p.funcs.length f2,.slice (some ⟨ab,ao,none⟩) p.args.length a2,.slice d1 p.data.length d2,.slice b1 p.banks.length b2⟩ p) (.slice (some ⟨kb,ko,none⟩) blocks.length bc) (L) 0 ags:=ChkAt.made s2 rfl q6 q5 Zo;have u1:=Ja a7;have H2:=Ja (show Y w W2/\Q W2 (w.heap.size+1) #[.slice (some ⟨kb,ko,none⟩) blocks.length bc] 39/\W2.heap.size=C+1/\w.heap.size+2=m1/\m1+1=m2/\m2+1=C from⟨b6,m7,o4,by omega,by omega,by omega⟩);have c0:=K0 m7;have c1:=K1 o1;have c2:A W2 kb ko (.slice pa b0.params.length pc):=by have:=zV (b6.mono m.out.2.1) s4.out.1 s4.out.2;simpa using this
  have c3:A W2 ab (ao+n) (U x):=zV (b6.mono m.out.2.1) s9.out.1 s9.out.2;obtain⟨qe,k1⟩:∃q,decide ((b0.params.length:Int)=x)=q:=⟨_,rfl⟩
  have t1:((b0.params.length:Int) !=x)=!qe:=by rw[bne,vu k1]
  have h5:p.args.getD n 0=x:=by rw[Jj,j.out.2.2.2];rfl
  have m5:yi p n=(qe && ((wg p blocks).map (iM blocks)).getD false):=by
   unfold yi;rw[Jj,j.out.1,Ot,s7.out];simp only;rw[h5,k1]
  rw[n6.out] at m5;have f4:=Ja m5;clear x2 x3 t2 t3 a7 b6 s2 q6 q5 o1 m7 o4 y j1 e5 q0 p0 p1 p2 p3 p4 p5 k1 h5 m5
  cases qe with
  |false=>
   go_quiet (fail);go_wp2;go_ret
   exact⟨uz f4.out,yC H2.out.1⟩
  |true=>
   have a5:Y w W2.drew:=H2.out.1.drew;have a6:=a5.mono m.out.2.1;have o3:=lM (m.out.1.below a6) (j.out.2.1.below yT a6) (Jn m.out.2.1 a5.size) (by have:=m.out.2.1;have:=H2.out.2.2.2;omega) (by have:=m.out.2.1;have:=H2.out.2.2.2;omega) m.out.2.2.1 j.out.2.2.1 (u1.out.below ((Below.refl W2.heap.size W2).drew));have n5:=Ja o3;have i2:=Ja a5;clear o3 a5 a6;obtain⟨r,hr⟩:∃r,wg p blocks=r:=⟨_,rfl⟩
   rw[hr] at n5 f4;have HR:=Ja hr;clear hr
   cases r with
   |none=>
    refine zt 14 Zk Zk ?_;simp only[Qo,Uc,Qp,Ui]
    repeat (go_big_quiet_step (fail))
    refine wpQuiet_nil ?_;go_wp2_with (first|(go_at_call 117;go_must (refine n5.out.mono ?_;rintro e w3 ⟨rfl,e9,_⟩))|go_in)
    go_ret
    exact⟨uz f4.out,i2.out.trans (e9.below (by have:=H2.out.2.2.2;omega) (by have:=H2.out.2.2.2;omega) i2.out.size)⟩
   |some d=>
    refine zt 14 Zk Zk ?_;simp only[Qo,Uc,Qp,Ui]
    repeat (go_big_quiet_step (fail))
    refine wpQuiet_nil ?_;go_upto_region 7 with(first|(go_at_call 117;go_must (refine n5.out.mono ?_;rintro e w3 ⟨rfl,e9,r4⟩))|go_in)
    obtain⟨N,hN,a7⟩:=r4 d rfl;have t:=i2.out.trans (e9.below (by have:=H2.out.2.2.2;omega) (by have:=H2.out.2.2.2;omega) i2.out.size);have m6:=e9.blk (b:=w.heap.size+1) H2.out.2.1 (by have:=H2.out.2.2.2;omega) (by have:=H2.out.2.2.2;omega);have g5:∀b∈blocks,(∀o∈b.ops,opF p o=true)/\aw blocks b.term=true:=rV blocks 0 ags d (by rw[<-wS];exact HR.out);have j3:C<w3.heap.size:=lt_of_block a7.blk;have r0:=ox (j.out.2.1.below yT (t.mono m.out.2.1)) (Jn m.out.2.1 t.size) ⟨j.out.2.2.1.1,fun b hb=>(j.out.2.2.1.2 b hb).2.2⟩;have HG:=Ja r0;have H3:=Ja (show Y w w3/\Q w3 (w.heap.size+1) #[.slice (some ⟨kb,ko,none⟩) blocks.length bc] 39/\ChkAt w3 C m1 m2 (rC ⟨.slice (some ⟨fb,fo,none⟩) p.funcs.length f2,.slice (some ⟨ab,ao,none⟩) p.args.length a2,.slice d1 p.data.length d2,.slice b1 p.banks.length b2⟩ p) (.slice (some ⟨kb,ko,none⟩) blocks.length bc) (L) N d/\(∀b∈blocks,(∀o∈b.ops,opF p o=true)/\aw blocks b.term=true)/\C<w3.heap.size/\blocks≠ [] from⟨t,m6,a7,g5,j3,by rw[s7.out];simp⟩);have u0:=K0 m6;clear e9 r4 hN a7 t m6 g5 j3 r0 c0 c1 c2 c3 t1;have t5:(zk blocks).length=blocks.length:=by unfold zk;simp
    clear t5;go_upto_region 8 with(first|(go_at_call 41;go_must (refine HG.out.mono ?_;rintro e w4 ⟨gb,rfl,g6,r1,d4⟩))|go_in)
    have u8:(zk blocks).length=blocks.length:=by unfold zk;simp
    have f8:=(Below.refl w4.heap.size w4).alloc (Je _) (G #[T gb (zk blocks).length (zk blocks).length] 105);have j5:=g6.below f8;have d9:=d4.trans (f8.mono d4.size);have c7:Y w (w4.alloc (G #[T gb (zk blocks).length (zk blocks).length] 105)):=H3.out.1.trans (d9.mono H3.out.1.size);have r2:=zH d9 H3.out.2.1 (lt_of_block H3.out.2.1);have h8:=H3.out.2.2.1.below d9;have m4:=zI (W:=w4) (o:=G #[T gb (zk blocks).length (zk blocks).length] 105) rfl;have l4:C<w4.heap.size:=Jy H3.out.2.2.2.2.1 d4.size;have l5:=H3.out.2.2.2.2.1;generalize x1:w4.alloc (G #[T gb (zk blocks).length (zk blocks).length] 105)=W5 at *;generalize u9:w4.heap.size=g4 at *;generalize l8:(zk blocks).length=gl at *
    have b8:∀W:World,OwnRows zN 3 22 W w3.heap.size gb (zk blocks)->GraphIn W (T gb gl gl) (zy blocks):=fun W hW=>by
     have:=hW.asRows (Je _);rw[l8] at this;exact bU j.out.2.2.1 H3.out.2.2.2.2.2 (fun b hb=>(H3.out.2.2.2.1 b hb).2) this
    have n9:=Ja (show(∀W:World,OwnRows zN 3 22 W w3.heap.size gb (zk blocks)->GraphIn W (T gb gl gl) (zy blocks))/\OwnRows zN 3 22 W5 w3.heap.size gb (zk blocks)/\w3.heap.size<=gb from⟨b8,j5,r1⟩);have s5:=Ja (b8 _ j5);have H5:=Ja (show Y w W5/\Q W5 (w.heap.size+1) #[.slice (some ⟨kb,ko,none⟩) blocks.length bc] 39/\ChkAt W5 C m1 m2 (rC ⟨.slice (some ⟨fb,fo,none⟩) p.funcs.length f2,.slice (some ⟨ab,ao,none⟩) p.args.length a2,.slice d1 p.data.length d2,.slice b1 p.banks.length b2⟩ p) (.slice (some ⟨kb,ko,none⟩) blocks.length bc) (L) N d/\Q W5 g4 #[T gb gl gl] 105/\C<g4/\C<w3.heap.size from⟨c7,r2,h8,m4,l4,l5⟩);have u5:=K0 m4;clear f8 j5 d9 c7 r2 h8 m4 l4 l5 x1 u9 g6 d4 u0 r1 b8 l8 u8;go_upto_region 9 with(first|(go_at_call 118;go_must (refine(qP s5.out).mono ?_;rintro e w6 ⟨iv,rfl,d6,d3⟩;obtain⟨ia,ic,rfl⟩:=zG d6;have e8:=H5.out.2.2.1.below d3;have v9:A w6 C 9 (L):=zA e8.blk rfl;have vf:w6.frozen? ⟨C,9,none⟩=false:=zE e8.blk))|go_in)
    have hv:=s5.out.valid;have nC:=zC d6 e8.blk (.inr Zd);have g9:=ownsRow_setCell_other (a:=⟨C,9,none⟩) d6 nC (.slice ia (wQ (zy blocks)).length ic);have l7:zY (w6.setCell ⟨C,9,none⟩ (.slice ia (wQ (zy blocks)).length ic)) (w6.setCell ⟨C,9,none⟩ (.slice ia (wQ (zy blocks)).length ic)).heap.size (.slice ia (wQ (zy blocks)).length ic) (wQ (zy blocks)):=uA g9 rfl (jT hv (by rw[xu];have:=j.out.2.2.1.1;omega));have h7:=e8.idom (.slice ia (wQ (zy blocks)).length ic);have a3:Y w (w6.setCell ⟨C,9,none⟩ (.slice ia (wQ (zy blocks)).length ic)):=(H5.out.1.trans (d3.mono H5.out.1.size)).setCell (by have:=H2.out.2.2.2;simp;omega) _;have h6:=zR (a:=⟨C,9,none⟩) (u:=.slice ia (wQ (zy blocks)).length ic) (zH d3 H5.out.2.1 (lt_of_block H5.out.2.1)) (by have:=H2.out.2.2.2;simp;omega);have m3:=zR (a:=⟨C,9,none⟩) (u:=.slice ia (wQ (zy blocks)).length ic) (zH d3 H5.out.2.2.2.1 (lt_of_block H5.out.2.2.2.1)) (by have:=H5.out.2.2.2.2;simp;omega);have m0:=n9.out.1 _ ((n9.out.2.1.below d3).set (a:=⟨C,9,none⟩) (by have:=n9.out.2.2;have:=H5.out.2.2.2.2.2;simp;omega) (by have:=H5.out.2.2.2.2.2;simp;omega) (.slice ia (wQ (zy blocks)).length ic));generalize x0:w6.setCell ⟨C,9,none⟩ (.slice ia (wQ (zy blocks)).length ic)=W7 at *;have h:=Ja (show Y w W7/\ChkAt W7 C m1 m2 (rC ⟨.slice (some ⟨fb,fo,none⟩) p.funcs.length f2,.slice (some ⟨ab,ao,none⟩) p.args.length a2,.slice d1 p.data.length d2,.slice b1 p.banks.length b2⟩ p) (.slice (some ⟨kb,ko,none⟩) blocks.length bc) (.slice ia (wQ (zy blocks)).length ic) N d/\zY W7 W7.heap.size (.slice ia (wQ (zy blocks)).length ic) (wQ (zy blocks))/\Q W7 (w.heap.size+1) #[.slice (some ⟨kb,ko,none⟩) blocks.length bc] 39/\zw (zy blocks) from⟨a3,h7,l7,h6,hv⟩)
    have k6:∀W,Y W7 W->I 40 #[.agg #[T gb gl gl]] W fun e w'=>∃a c,e=.returned (.slice a (vD (zy blocks)).length c)/\Y W w':=fun W hb=>by
     refine(iJ (m0.below hb)).mono ?_;rintro e w' ⟨ov,rfl,ho,hb⟩;obtain⟨a,c,rfl⟩:=zG ho;exact⟨a,c,rfl,hb⟩
    have t8:=Ja k6;have y0:=K0 h6;have y1:=K0 m3;have l0:=lt_of_block h6;have l1:=lt_of_block m3;have k7:=Below.refl W7.heap.size W7;clear d6 d3 e8 v9 vf g9 nC l7 h7 a3 h6 m3 m0 k6 u5 hv x0;obtain⟨qo,k0⟩:∃q,decide ((vD (zy blocks)).length=blocks.length)=q:=⟨_,rfl⟩
    have t1:(((vD (zy blocks)).length:Int) !=(blocks.length:Int))=!qo:=by rw[bne,vu (q:=qo) (zZ k0 Zo)]
    have n7:=Ja k0;clear k0;generalize d7:(vD (zy blocks)).length=ol at *
    go_cut [57] (fun s wx=>s=.bool (!qo)/\Hid (Y W7 wx))
    case first=>
     go_region_held3 (fun w'=>A w' (w.heap.size+1) 0 (.slice (some ⟨kb,ko,none⟩) blocks.length bc)/\A w' g4 0 (T gb gl gl)/\Y W7 w')
      (first
        |(go_split_ands;refine⟨?_,?_,?_⟩<;>assumption)
        |(go_split_ands;refine⟨?_,?_,uG ?_⟩<;>assumption))
      (first|(go_at_call 40;go_must (refine(t8.out _ (by repeat' (first|assumption|(with_reducible refine Below.drew ?_)))).mono ?_;rintro e w2 ⟨qa,qc,rfl,b6⟩;have t:Y W7 w2:=Below.trans (by repeat' (first|assumption|(with_reducible refine Below.drew ?_))) (b6.mono (Below.size (B:=W7.heap.size) (w:=W7) (by repeat' (first|assumption|(with_reducible refine Below.drew ?_)))));have A6:A w2 (w.heap.size+1) 0 (.slice (some ⟨kb,ko,none⟩) blocks.length bc):=zV t l0 y0;have A5:A w2 g4 0 (T gb gl gl):=zV t l1 y1)))
     all_goals
      go_wp2_with fail;go_meet;exact⟨rfl,Ja (by repeat' (first|assumption|(with_reducible refine Below.drew ?_)))⟩
    case rest=>
     obtain⟨rfl,HB⟩:=hcut
     cases qo with
     |false=>
      have hr:res=false:=by
       rw[f4.out,Option.map_some,Ot];unfold iM;rw[d7,n7.out];rfl
      go_wp2;go_ret
      exact⟨uz hr,h.out.1.trans (HB.out.mono h.out.1.size)⟩
     |true=>
      have hr:res=tO d (zy blocks) blocks 0:=by
       rw[f4.out,Option.map_some,Ot];unfold iM;rw[d7,n7.out];rfl
      have b3:=jl h.out.2.2.2.2 (by rw[d7,xu];exact of_decide_eq_true n7.out);have f3:=Ja (Jb hr b3);have y2:A wc (w.heap.size+1) 0 (.slice (some ⟨kb,ko,none⟩) blocks.length bc):=zV HB.out l0 y0;clear hr b3 y0 y1 k7 t1 d7;go_wp2
      go_loopw [61] (fun iv wx=>∃i:Nat,i<=blocks.length/\iv=U i/\Hid (Y W7 wx/\tO d (zy blocks) (blocks.take i) 0=true)) (fun iv _=>blocks.length-(intOf iv).toNat)
      case atStart=>exact⟨0,Jt _,rfl,Ja ⟨HB.out,rfl⟩⟩
      case round=>
       obtain⟨i,hi,rfl,HI⟩:=hrel
       by_cases h4:i<blocks.length
       ·have t4:(i:Int)<blocks.length:=Zo;have i0:=Ja h4;obtain⟨bx,d0⟩:∃bx,blocks[i]? =some bx:=⟨_,Jd h4⟩
        obtain⟨b',o',e',b5,q9,q8,l6,A8,ov2,A7,e7,q4,q3,e6,l2,j2⟩:=j.out.2.1.get d0;cases e';obtain⟨g2,g1,rfl,k4,k2⟩:=e6.form;obtain⟨oa,oc,rfl,u6,u4⟩:=l2.form;obtain⟨ta,tc,rfl,u3,u2⟩:=j2.form;have A9:bx.ops.length<=9223372036854775807:=Zo;have l:Below B w wr:=(h.out.1.mono m.out.2.1).trans (HI.out.1.mono (Jn m.out.2.1 h.out.1.size));have e0:=zV l b5 e7;have e1:=zV l b5 q4;have e2:=zV l b5 q9;have e3:=zV l b5 q8;have e4:=zV l b5 q3;have a0:=Ja (show blocks[i]? =some bx/\mN w B (.slice oa bx.ops.length oc) bx.ops/\wH w B (.slice ta bx.term.to.length tc) bx.term.to/\(I64 bx.term.kind/\I64 bx.term.a)/\(bx.params.length<=2000000/\bx.ops.length<=2000000/\bx.term.to.length<=2000000)/\(∀o∈bx.ops,opF p o=true)/\aw blocks bx.term=true from⟨d0,l2,j2,l6,j.out.2.2.1.2 bx (Ji d0),(H3.out.2.2.2.1 bx (Ji d0)).1,(H3.out.2.2.2.1 bx (Ji d0)).2⟩);have i9:=zI (W:=wr) (o:=G #[.slice g2 bx.params.length g1,.slice oa bx.ops.length oc,U bx.term.kind,U bx.term.a,.slice ta bx.term.to.length tc] 84) rfl;have s0:=HI.out.1.alloc HI.out.1.size (G #[.slice g2 bx.params.length g1,.slice oa bx.ops.length oc,U bx.term.kind,U bx.term.a,.slice ta bx.term.to.length tc] 84);clear d0 q9 q8 l6 e7 q4 q3 e6 l2 j2 k4 k2 u6 u4 u3 u2 l h4 y2;go_upto_region 14 with fail;generalize w9:wr.alloc (G #[.slice g2 bx.params.length g1,.slice oa bx.ops.length oc,U bx.term.kind,U bx.term.a,.slice ta bx.term.to.length tc] 84)=W9 at *;generalize w1:wr.heap.size=b9 at *;have z1:=K1 i9;have H9:=Ja (show Y W7 W9/\Q W9 b9 #[.slice g2 bx.params.length g1,.slice oa bx.ops.length oc,U bx.term.kind,U bx.term.a,.slice ta bx.term.to.length tc] 84 from⟨s0,i9⟩);clear w9 w1 i9 s0 e0 e1 e2 e3 e4;go_wp2
        go_loopw [69] (fun kv wx=>∃k:Nat,k<=bx.ops.length/\kv=U k/\Hid (Y W9 wx/\xF d (zy blocks) i (bx.ops.take k) 0=true)) (fun kv _=>bx.ops.length-(intOf kv).toNat)
        case atStart=>exact⟨0,Jt _,rfl,Ja ⟨Below.refl _ _,rfl⟩⟩
        case round=>
         obtain⟨k,hk,rfl,HK⟩:=hrel
         by_cases d8:k<bx.ops.length
         ·have o0:(k:Int)<bx.ops.length:=Zo;have n8:=Ja d8;obtain⟨o,ho⟩:∃o,bx.ops[k]? =some o:=⟨_,Jd d8⟩
          obtain⟨qb,qo,rfl,c9,q2,q1,p8,o9,o6,l3,av,o5,n3⟩:=a0.out.2.1.get ho;obtain⟨aa,ac,rfl,n4,n2⟩:=n3.form;have g:Y W7 wr:=H9.out.1.trans (HK.out.1.mono H9.out.1.size);have l:Below B w wr:=(h.out.1.mono m.out.2.1).trans (g.mono (Jn m.out.2.1 h.out.1.size));have c0:=zV l c9 q2;have c1:=zV l c9 q1;have c2:=zV l c9 p8;have c3:=zV l c9 o9;have c4:=zV l c9 o6;have c5:=zV l c9 o5;have b7:=zI (W:=wr) (o:=G (P o aa ac) 76) rfl;have r5:=HK.out.1.alloc HK.out.1.size (G (P o aa ac) 76);have a6:=l.alloc (Jn m.out.2.1 (Jn h.out.1.size g.size)) (G (P o aa ac) 76);have o2:=uses_any o l3 (Jn (Jn m.out.2.1 (Jn h.out.1.size g.size)) Zs) (n3.below zO a6) (aU m.out.2.2.2.1 (a0.out.2.2.2.2.2.1 o (Ji ho)));have HO:=Ja ho;clear ho q2 q1 p8 o9 o6 o5 l3 n3 n4 n2 l g d8 a6 z1;go_upto_region 17 with fail;generalize w8:wr.alloc (G (P o aa ac) 76)=WA at *;generalize w0:wr.heap.size=bA at *;have z6:=K0 b7;have z0:=K1 b7;have y6:=K2 b7;have y5:=K3 b7;have y4:=K4 b7;have y3:=K5 b7;have s3:=Ja o2;have d5:=Ja r5;clear o2 r5 b7 w8 w0 c0 c1 c2 c3 c4 c5;obtain⟨q,hq⟩:∃q,(rR o).all (yy d (zy blocks) i k)=q:=⟨_,rfl⟩
          have HQ:=Ja hq;clear hq
          have f0:∀W lv,Y WA W->zY W W.heap.size lv (rR o)->I 119 #[F C,lv,U i,U k] W (ym W q):=fun W lv hb hin=>by
           have a3:Y W7 W:=H9.out.1.trans ((d5.out.trans (hb.mono d5.out.size)).mono H9.out.1.size);rw[<-HQ.out];exact qI (h.out.2.1.below a3) h.out.2.2.2.2 f3.out.2 (by rw[xu];exact j.out.2.2.1.1) ((h.out.2.2.1.below zO a3).mono zO a3.size) (fun v b hv=>by rw[xu];exact rN HR.out v b hv) hin i (by rw[xu];exact i0.out) k (qL (Jn hk (Jn a0.out.2.2.2.2.1.2.1 Zd)))
          have i1:=Ja f0;clear f0
          cases q with
          |false=>
           go_wp2_with (first|(go_at_call 120;go_must (refine s3.out.mono ?_;rintro e wu ⟨uv,rfl,g3,b4⟩))|(go_at_call 119;go_must (refine(i1.out _ _ b4 g3).mono ?_;rintro e wd ⟨rfl,a5⟩))|go_in)
           go_ret
           have hr:res=false:=by
            rw[f3.out.1];refine pH a0.out.1 ?_;unfold aaC;rw[ahA HO.out HQ.out];rfl
           have x4:Y W7 wd:=H9.out.1.trans ((d5.out.trans ((b4.trans (a5.mono b4.size)).mono d5.out.size)).mono H9.out.1.size)
           exact⟨uz hr,h.out.1.trans (x4.mono h.out.1.size)⟩
          |true=>
           go_wp2_with (first|(go_at_call 120;go_must (refine s3.out.mono ?_;rintro e wu ⟨uv,rfl,g3,b4⟩))|(go_at_call 119;go_must (refine(i1.out _ _ b4 g3).mono ?_;rintro e wd ⟨rfl,a5⟩))|go_in)
           have HN:=Ja (d5.out.trans ((b4.trans (a5.mono b4.size)).mono d5.out.size));clear b4 a5 g3;go_roundw
           case rel=>
            have g0:=Ja (show Y W9 wd/\xF d (zy blocks) i (bx.ops.take (k+1)) 0=true from⟨HN.out,by rw[gZ HO.out,HK.out.2,HQ.out];rfl⟩)
            (repeat apply Exists.intro);exact⟨⟨k+1,n8.out,by go_num,g0⟩,rfl⟩
           case measure=>have:=n8.out;simp[intOf];omega
         ·obtain rfl:k=bx.ops.length:=by omega
          have o0:¬(bx.ops.length:Int)<bx.ops.length:=Zo;have g:Y W7 wr:=H9.out.1.trans (HK.out.1.mono H9.out.1.size);have a6:Below B w wr:=(h.out.1.mono m.out.2.1).trans (g.mono (Jn m.out.2.1 h.out.1.size));have c8:=zH HK.out.1 H9.out.2 (lt_of_block H9.out.2);have f6:=HK.out.2;rw[Nl] at f6;have z2:=K1 c8;have z3:=K2 c8;have z4:=K3 c8;have z5:=K4 c8;have l9:=lt_of_block c8;have k9:=Below.refl wr.heap.size wr;obtain⟨q,hq⟩:∃q,(mE bx.term).all (yy d (zy blocks) i bx.ops.length)=q:=⟨_,rfl⟩
          have r3:∀W,Y wr W->I 121 #[.agg #[U bx.term.kind,U bx.term.a,.slice ta bx.term.to.length tc]] W (wG W (mE bx.term)):=fun W hb=>
           ends_any bx.term a0.out.2.2.2.1 (Jn (Jn m.out.2.1 (Jn h.out.1.size g.size)) hb.size) (a0.out.2.2.1.below xL (a6.trans (hb.mono (Jn m.out.2.1 (Jn h.out.1.size g.size))))) ⟨a0.out.2.2.2.2.1.2.2,lD j.out.2.2.1 a0.out.2.2.2.2.2.2⟩
          have f0:∀W lv,Y wr W->zY W W.heap.size lv (mE bx.term)->I 119 #[F C,lv,U i,U (bx.ops.length:Int)] W (ym W q):=fun W lv hb hin=>by
           have a3:Y W7 W:=g.trans (hb.mono g.size);rw[<-hq];exact qI (h.out.2.1.below a3) h.out.2.2.2.2 f3.out.2 (by rw[xu];exact j.out.2.2.1.1) ((h.out.2.2.1.below zO a3).mono zO a3.size) (fun v b hv=>by rw[xu];exact rN HR.out v b hv) hin i (by rw[xu];exact i0.out) _ (qL (Jn a0.out.2.2.2.2.1.2.1 Zd))
          have x5:=Ja r3;have i1:=Ja f0;have HQ:=Ja (show aaC d (zy blocks) bx i=q from by unfold aaC;rw[f6,hq];rfl);have i8:=Ja g;clear hq r3 f0 f6 c8 a6 g d8 z1;go_wp2_with fail
          go_cut [91] (fun s wx=>s=.bool (!q)/\Hid (Y wr wx))
          case first=>
           go_region_held3 (fun w'=>A w' b9 1 (.slice oa bx.ops.length oc)/\A w' b9 2 (U bx.term.kind)/\A w' b9 3 (U bx.term.a)/\A w' b9 4 (.slice ta bx.term.to.length tc)/\Y wr w')
            (first
              |(go_split_ands;refine⟨?_,?_,?_,?_,?_⟩<;>assumption)
              |(go_split_ands;refine⟨?_,?_,?_,?_,uG ?_⟩<;>assumption))
            (first
              |(go_at_call 121;go_must (refine(x5.out _ (by repeat' (first|assumption|(with_reducible refine Below.drew ?_)))).mono ?_;rintro e w2 ⟨ev,rfl,v2,b6⟩;have t:Below wr.heap.size wr w2:=Below.trans (by repeat' (first|assumption|(with_reducible refine Below.drew ?_))) (b6.mono (Below.size (B:=wr.heap.size) (w:=wr) (by repeat' (first|assumption|(with_reducible refine Below.drew ?_)))));have A0:=zV t l9 z2;have z9:=zV t l9 z3;have z8:=zV t l9 z4;have z7:=zV t l9 z5))
              |(go_at_call 119;go_must (refine(i1.out _ _ (by repeat' (first|assumption|(with_reducible refine Below.drew ?_))) v2).mono ?_;rintro e w4 ⟨rfl,d4⟩;have c7:Below wr.heap.size wr w4:=Below.trans (by repeat' (first|assumption|(with_reducible refine Below.drew ?_))) (d4.mono (Below.size (B:=wr.heap.size) (w:=wr) (by repeat' (first|assumption|(with_reducible refine Below.drew ?_)))));have A4:=zV c7 l9 z2;have A3:=zV c7 l9 z3;have A2:=zV c7 l9 z4;have A1:=zV c7 l9 z5)))
           all_goals
            go_wp2_with fail;go_meet;exact⟨rfl,Ja (by repeat' (first|assumption|(with_reducible refine Below.drew ?_)))⟩
          case rest=>
           obtain⟨rfl,s8⟩:=hcut
           cases q with
           |false=>
            have hr:=Ja (show res=false by rw[f3.out.1];exact pH a0.out.1 HQ.out);go_wp2;go_ret
            exact⟨uz hr.out,h.out.1.trans ((i8.out.trans (s8.out.mono i8.out.size)).mono h.out.1.size)⟩
           |true=>
            go_wp2;go_roundw
            case rel=>
             have g0:=Ja (show Y W7 wc/\tO d (zy blocks) (blocks.take (i+1)) 0=true from⟨i8.out.trans (s8.out.mono i8.out.size),by rw[mz a0.out.1,HI.out.2,HQ.out];rfl⟩)
             (repeat apply Exists.intro);exact⟨⟨i+1,i0.out,by go_num,g0⟩,rfl⟩
            case measure=>have:=i0.out;simp[intOf];omega
       ·obtain rfl:i=blocks.length:=by omega
        have t4:¬(blocks.length:Int)<blocks.length:=Zo;have b3:=HI.out.2;rw[Nl] at b3;have hr:=Ja (f3.out.1.trans b3);clear b3 h4 y2;go_wp2;go_ret;exact⟨uz hr.out,h.out.1.trans (HI.out.1.mono h.out.1.size)⟩
structure SK where
 sb:Nat
 rb:Nat
 kb:Nat
 rm:Nat
 n:Nat
 B:Nat
 V:PV
 fv:Value
variable {K:SK}
def slCells (K:SK)(p:IProg)(k:Nat):Array Value:=#[K.V.fv,K.V.av,U p.entry,U p.handler,K.V.dv,K.V.bv,K.fv,.map (some K.rm),T K.rb K.n K.n,T K.kb K.n K.n,U k]
def pn (a:Rg):List Value:=[O (a.lo:Int),O (a.hi:Int)]
structure SlvAt (w:World) (K:SK) (p:IProg) (bls:List IBlk) (k:Nat) (s:Slv):Prop where
 prog:ProgIn w K.B K.V p
 blks:wX w K.B K.fv bls
 map:ae3 w K.rm 17 ruG
 cell:w.heap[K.sb]? =some (.cells (slCells K p k) 99 (0,0))
 row:w.heap[K.rb]? =some (.cells (s.r.flatMap pn).toArray 45 (0,0))
 kn:w.heap[K.kb]? =some (.cells (s.kn.map Value.bool).toArray 4 (0,0))
 oks:OkS K.n s
 n64:K.n<=1000000
 lt:K.B<=K.sb/\K.B<=K.rb/\K.B<=K.kb/\K.B<=K.rm
 ne:K.sb≠K.rb/\K.sb≠K.kb/\K.sb≠K.rm/\K.rb≠K.kb/\K.rb≠K.rm/\K.kb≠K.rm
theorem SlvAt.below{w':World}{p:IProg}{s:Slv}(h:SlvAt w K p c k s)(hb:Y w w'):SlvAt w' K p c k s:=by
 have h1:=lt_of_block h.cell;have hB:K.B<=w.heap.size:=Qd (Nat.lt_of_le_of_lt h.lt.1 h1);exact⟨h.prog.below (hb.mono hB),h.blks.below yT (hb.mono hB),h.map.below hb,(hb.block _ h1).trans h.cell,(hb.block _ (lt_of_block h.row)).trans h.row,(hb.block _ (lt_of_block h.kn)).trans h.kn,h.oks,h.n64,h.lt,h.ne⟩
theorem SlvAt.rcell{p:IProg}{s:Slv}(h:SlvAt w K p c k s){v:Int}(d:0<=v/\v<K.n):
 A w K.rb (v.toNat*2) (O ((s.get v).lo:Int))/\A w K.rb (v.toNat*2+1) (O ((s.get v).hi:Int)):=by
 have hl:v.toNat<s.r.length:=by rw[h.oks.rl];omega
 have hg:s.r[v.toNat]? =some (s.get v):=by
  unfold Slv.get;rw[Jj,Jd hl];rfl
 exact⟨by have:=oW (f:=pn) (n:=2) (fun _=>rfl) h.row hg (j:=0) rfl;rw[Ng,Uk] at this;exact this,by have:=oW (f:=pn) (n:=2) (fun _=>rfl) h.row hg (j:=1) rfl;rw[Ng] at this;exact this⟩
theorem agN (w:World)(n:Nat):I 122 #[O n] w (fun e w'=>e=.returned (.agg #[O n,O n])/\Y w w'):=aiy w n
theorem aiw(sv:Value)(av:Value)(h1:o.code=1)(p:IProg)(s:Slv):
 I 96 #[sv,aam o av] w (be w (ag2 p s o)):=by
 rw[show ag2 p s o=ahH o.n from if_pos h1];obtain⟨c,d,a,b,x,al⟩:=o;subst h1;unfold aam;have h:=Ja (fun W=>agN W x);go_enter Tryz.func96,Tryz.ntmps96;go_wp2_with (go_at_call 122;go_must (refine(h.out _).mono ?_;rintro e w1 ⟨rfl,g⟩;have hk:Q w1 (w.heap.size+1) #[O 0,O 0] 45:=zH g (zI Zs) Zs;have f0:=zA (i:=0) hk rfl;have f1:=zA (i:=1) hk rfl;have g0:=zE (i:=0) hk;have g1:=zE (i:=1) hk;have j:=lt_of_block hk;have k:=Below.trans (show Y w _ from Zv) (g.mono Zy);clear g hk))
 refine bodyPost_ret (v:=.agg #[O x,O x]) ?_ rfl ⟨rfl,Zj⟩;rw[zM rfl];go_simp
theorem SlvAt.cells{p:IProg}{s:Slv}(h:SlvAt w K p c k s):
 A w K.sb 4 K.V.dv/\A w K.sb 7 (.map (some K.rm))/\A w K.sb 8 (T K.rb K.n K.n)/\A w K.sb 9 (T K.kb K.n K.n)/\A w K.sb 10 (U k)/\A w K.sb 6 K.fv:=
 ⟨zA h.cell rfl,zA h.cell rfl,zA h.cell rfl,zA h.cell rfl,zA h.cell rfl,zA h.cell rfl⟩
theorem ajp{p:IProg}{a6:List IBlk}{s:Slv}(h:SlvAt w K p a6 k s)(av:Value)(h2:o.code=2)(ha:0<=o.a/\o.a<p.data.length)(hn:o.n<65536):
 I 96 #[F K.sb,aam o av] w (be w (ag2 p s o)):=by
 obtain⟨c,d,a,b,n,al⟩:=o;have ha:0<=a/\a<p.data.length:=ha;have hn:n<65536:=hn;obtain⟨j,rfl⟩:∃j:Nat,a=j:=⟨a.toNat,by omega⟩
 have h2:c=2:=h2;subst h2;rw[show ag2 p s ⟨2,d,j,b,n,al⟩=ahH (((p.data.getD j ⟨0,0,0⟩).addr+n)%65536) from rfl];unfold aam;obtain⟨x,hx⟩:∃x,p.data[j]? =some x:=⟨_,Jd Zo⟩
 obtain⟨da,dc,t,a2,a3⟩:=h.prog.data.form;have m:=h.prog.data;rw[t] at m;obtain⟨db,dq,rfl,a4,l⟩:=m.get hx;obtain⟨y,hy⟩:∃y,(x.addr+n)%65536=y:=⟨_,rfl⟩
 rw[show(p.data.getD j ⟨0,0,0⟩)=x by rw[Jj,hx];rfl,hy];have a7:IntKind.u16.wrap ((x.addr:Int)+n)=(y:Int):=by rw[xY];omega
 have a5:K.B<=w.heap.size:=Qd (Nat.lt_of_le_of_lt h.lt.1 (lt_of_block h.cell));have b0:=lt_of_block h.cell;have hj:j<p.data.length:=Zo;have HC:=Ja (show ∀W,Y w W->A W K.sb 4 (.slice (some ⟨db,dq,none⟩) p.data.length dc)/\A W db (dq+j*3+1) (O (x.addr:Int)) from fun W hb=>⟨by rw[<-t];exact(h.below hb).cells.1,(hb.cell (p:=⟨db,dq+j*3+1,none⟩) (Jy a4 a5)).trans l.2.1⟩);have HO:=Ja (fun W=>agN W y);obtain⟨c0,c1⟩:=HC.out w (Below.refl _ _);clear h l m t hx hy ha hn a3 a2;go_enter Tryz.func96,Tryz.ntmps96;go_upto_region 5 with(go_at_call 999999;skip)
 obtain⟨X,hX⟩:∃X,(w.alloc (G #[U 2,U d,U j,U b,O n,av] 76)).alloc (G #[O 0,O 0] 45)=X:=⟨_,rfl⟩
 have g:=Ja (show Y w X/\Q X w.heap.size #[U 2,U d,U j,U b,O n,av] 76/\Q X (w.heap.size+1) #[O 0,O 0] 45 from by
  rw[<-hX];exact⟨Zv,zB (zI rfl),zI Zs⟩)
 rw[hX];clear hX c0 c1;have a1:=Ja (show ∀W,Below (w.heap.size+1) X W->(A W K.sb 4 (.slice (some ⟨db,dq,none⟩) p.data.length dc)/\A W db (dq+j*3+1) (O (x.addr:Int)))/\A W w.heap.size 2 (U j)/\A W w.heap.size 4 (O n) from fun W hb=>⟨HC.out W (g.out.1.trans (hb.mono (Nat.le_succ _))),zA ((hb.block _ (Nat.lt_succ_self _)).trans g.out.2.1) rfl,zA ((hb.block _ (Nat.lt_succ_self _)).trans g.out.2.1) rfl⟩);obtain⟨⟨c0,c1⟩,c2,c3⟩:=a1.out X (Below.refl _ _)
 go_region_held3 (fun w'=>(A w' K.sb 4 (.slice (some ⟨db,dq,none⟩) p.data.length dc)/\A w' db (dq+j*3+1) (O (x.addr:Int)))/\A w' w.heap.size 2 (U j)/\A w' w.heap.size 4 (O n))
  ((refine a1.out _ ?_;repeat' (first|with_reducible exact Below.refl _ _|with_reducible assumption|with_reducible refine Below.drew ?_|refine Below.setCell ?_ (by first|exact Je _|(show w.heap.size+1<=w.heap.size+1;omega)) _)))
  ((go_at_call 122;(refine(HO.out _).mono ?_;rintro e w1 ⟨rfl,a0⟩;have u:Y X w1:=Below.trans (show Y X _ from Zf) (a0.mono (Je _));clear a0;have b3:Below (w.heap.size+1) X w1:=u.mono (Qd (lt_of_block g.out.2.2));have hk:=zH u g.out.2.2 (lt_of_block g.out.2.2);have f0:=zA (i:=0) hk rfl;have f1:=zA (i:=1) hk rfl;have g0:=zE (i:=0) hk;have g1:=zE (i:=1) hk;have b1:=lt_of_block hk;have b2:=g.out.1.trans (u.mono g.out.1.size))))
 all_goals go_wp2
 all_goals (refine bodyPost_ret (v:=.agg #[O y,O y]) ?_ rfl ⟨rfl,Zj⟩;rw[zM rfl];go_simp)
end Go.Proofs.YtoahcpkibpomcaaGreat
