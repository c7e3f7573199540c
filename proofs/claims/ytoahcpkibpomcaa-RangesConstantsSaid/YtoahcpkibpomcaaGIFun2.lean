/- Part of a proof. -/
import Derived.Test.YtoahcpkibpomcaaGZw4
set_option linter.all false
set_option maxHeartbeats 8000000
set_option maxRecDepth 100000
namespace Go.Proofs.Ytoahcpkibpomcaa
open Go.RowKit
variable {C i j m1 m2 n':Nat}{w:World}{d d1:wO}{bl:List IBlk}{t:ITerm}{tv:Value}
theorem cnt_lt(hi:i<=2000000)(c:j<=2000000):i*4000000+j<9000000000000000000:=by omega
theorem cnt_lt2(hi:i<=2000000)(c:j<=2000000):i*4000000+2000000+j<9000000000000000000:=by omega
theorem cnt_0 (i:Nat):i*4000000<=i*4000000+0:=by omega
theorem cnt_1 (i j:Nat):i*4000000+j+1<=i*4000000+(j+1):=by omega
theorem cnt_2(h:j<=2000000):i*4000000+j<=i*4000000+2000000+0:=by omega
theorem cnt_3 (i j:Nat):i*4000000+2000000+j+1<=i*4000000+2000000+(j+1):=by omega
theorem cnt_3' (i j:Nat):i*4000000+2000000+j<=i*4000000+2000000+(j+1):=by omega
theorem cnt_4(h:j<=2000000):i*4000000+2000000+j<=(i+1)*4000000:=by omega
theorem wA.le{b n:Nat}{g:Int->Option Int}(h:wA w b n g)(d:n<=n'):wA w b n' g:=by
 obtain⟨D,⟨es,c,k1,k2,k3,k4⟩,k5⟩:=h;exact⟨D,⟨es,c,k1,k2,Jn k3 d,k4⟩,k5⟩
theorem ChkAt.le{pv:List Value}{f c:Value}{n:Nat}(h:ChkAt w C m1 m2 pv f c n d)(g:n<=n'):ChkAt w C m1 m2 pv f c n' d:=
 ⟨h.blk,h.plen,h.map1.le g,h.map2.le g,h.ne,h.dom⟩
theorem qL {n:Nat}(h:n<=9000000):I64 (n:Int):=⟨by omega,by omega⟩
theorem blkF_eq{p:IProg}{i:Int}{b:IBlk}{d2:wO}(f:vJ i b.params d=some d1)(c:sS p i b.ops 0 d1=some d2):pS p bl i b d=if wn bl b.term then some d2 else none:=by
 unfold pS;rw[f,Nw,c,Nw]
theorem mS{p:IProg}{i:Int}{b:IBlk}(c:vJ i b.params d=none):pS p bl i b d=none:=by
 unfold pS;rw[c];rfl
theorem mm{p:IProg}{i:Int}{b:IBlk}(f:vJ i b.params d=some d1)(c:sS p i b.ops 0 d1=none):pS p bl i b d=none:=by
 unfold pS;rw[f,Nw,c];rfl
theorem lM{B:Nat}{V:PV}{p:IProg}{g6 d5:Value}{blocks:List IBlk}(hp:ProgIn w B V p)(g5:wX w B g6 blocks)(hB:B<=w.heap.size)(h1:B<=m1)(h2:B<=m2)(hl:p.args.length=p.funcs.length)(hs:vZ blocks)
 (hc:ChkAt w C m1 m2 (rC V p) g6 d5 0 na):
 A 62 #[G C] w (ShpPost w C m1 m2 (rC V p) g6 d5 (wg p blocks)):=by
 obtain⟨fa,fc,rfl,n7,n4⟩:=g5.form;have q3:blocks.length<=9223372036854775807:=Zo;have l2:=Ja g5;have l:=Ja (show ProgIn w B V p/\B<=w.heap.size/\B<=m1/\B<=m2/\p.args.length=p.funcs.length/\vZ blocks from⟨hp,hB,h1,h2,hl,hs⟩);have q4:=Ja hc.ne1;have q5:=Ja (Jb hc.map1.lt hc.map2.lt);have o9:=Ja hc;obtain⟨res,e7⟩:∃x,wg p blocks=x:=⟨_,rfl⟩
 rw[e7];have m:=Ja e7;have y6:O w C 6 (.slice fa blocks.length fc):=zA hc.blk rfl;clear hp g5 hB h1 h2 hl hs hc e7 n7 n4;go_enter Try.func62,Try.ntmps62;go_wp2
 go_loopw [15] (fun kv wx=>∃i:Nat,i<=blocks.length/\kv=I i/\Hid (Kept m1 m2 w wx/\∃d,ChkAt wx C m1 m2 (rC V p) (.slice fa blocks.length fc) d5 (i*4000000) d/\uH p blocks (blocks.take i) 0 na=some d)) (fun kv _=>blocks.length-(intOf kv).toNat)
 case atStart=>exact⟨0,Jt _,rfl,Ja ⟨Kept.refl _ _ _,na,o9.out,rfl⟩⟩
 case round=>
  obtain⟨i,hi,rfl,HI⟩:=hrel
  by_cases f1:i<blocks.length
  ·have l7:(i:Int)<blocks.length:=Zo;have l1:=Ja f1;obtain⟨bx,b3⟩:∃bx,blocks[i]? =some bx:=⟨_,Jd f1⟩
   obtain⟨fb,fo,rfl,d6,k3,a6,g3,pv,ov,tv,k0,j9,j2,f9,g1,f6⟩:=l2.out.get b3;obtain⟨pa,pc,rfl,n1,m8⟩:=f9.form;obtain⟨oa,oc,rfl,n3,n2⟩:=g1.form;obtain⟨ta,tc,rfl,m4,m3⟩:=f6.form;have q1:bx.params.length<=9223372036854775807:=Zo;have q2:bx.ops.length<=9223372036854775807:=Zo;have f:Below B w wr:=HI.out.1.below l.out.2.2.1 l.out.2.2.2.1 l.out.2.1;have e0:=zV f d6 k0;have e1:=zV f d6 j9;have e2:=zV f d6 k3;have e3:=zV f d6 a6;have e4:=zV f d6 j2;have t:=Ja (show blocks[i]? =some bx/\zY w B (.slice pa bx.params.length pc) bx.params/\mN w B (.slice oa bx.ops.length oc) bx.ops/\wH w B (.slice ta bx.term.to.length tc) bx.term.to/\(I64 bx.term.kind/\I64 bx.term.a) from⟨b3,f9,g1,f6,g3⟩);obtain⟨d,g,c⟩:=HI.out.2;have k4:=g.below ((Below.refl wr.heap.size wr).alloc (Je _) (U #[.slice pa bx.params.length pc,.slice oa bx.ops.length oc,I bx.term.kind,I bx.term.a,.slice ta bx.term.to.length tc] 36));have l0:=Ja (Jb g.map1.lt g.map2.lt);have a1:=Ja c;have f5:=zI (W:=wr) (o:=U #[.slice pa bx.params.length pc,.slice oa bx.ops.length oc,I bx.term.kind,I bx.term.a,.slice ta bx.term.to.length tc] 36) rfl;have k2:=HI.out.1.trans (Kept.of ((Below.refl wr.heap.size wr).alloc (Je _) (U #[.slice pa bx.params.length pc,.slice oa bx.ops.length oc,I bx.term.kind,I bx.term.a,.slice ta bx.term.to.length tc] 36)));clear b3 k3 a6 g3 k0 j9 j2 f9 g1 f6 n1 m8 n3 n2 m4 m3 f g c f1 y6;go_upto_region 4 with fail;generalize o2:wr.alloc (U #[.slice pa bx.params.length pc,.slice oa bx.ops.length oc,I bx.term.kind,I bx.term.a,.slice ta bx.term.to.length tc] 36)=W1 at *;generalize h:wr.heap.size=b4 at *;have z0:=K0 f5;have d7:=Ja (show T W1 b4 #[.slice pa bx.params.length pc,.slice oa bx.ops.length oc,I bx.term.kind,I bx.term.a,.slice ta bx.term.to.length tc] 36/\b4≠m1/\b4≠m2 from⟨f5,by have:=l0.out.1;omega,by have:=l0.out.2;omega⟩);have h3:=Ja k2;have o6:=Ja k4;have d8:=Ja (l.out.2.2.2.2.2.2 bx (Ji t.out.1));have f3:=Ja (show i<=2000000 from Jn hi l.out.2.2.2.2.2.1);clear o2 h f5 k4 k2 e0 e1 e2 e3 e4;go_wp2
   go_loopw [23] (fun jv wx=>∃j:Nat,j<=bx.params.length/\jv=I j/\Hid (Kept m1 m2 W1 wx/\∃d',ChkAt wx C m1 m2 (rC V p) (.slice (some ⟨fb,fo,none⟩) blocks.length fc) d5 (i*4000000+j) d'/\vJ i (bx.params.take j) d=some d')) (fun jv _=>bx.params.length-(intOf jv).toNat)
   case atStart=>exact⟨0,Jt _,rfl,Ja ⟨Kept.refl _ _ _,d,o6.out.le (cnt_0 i),rfl⟩⟩
   case round=>
    obtain⟨j,hj,rfl,HJ⟩:=hrel
    by_cases b1:j<bx.params.length
    ·have h8:(j:Int)<bx.params.length:=Zo;have h0:=Ja b1;obtain⟨v,hv⟩:∃v,bx.params[j]? =some v:=⟨_,Jd b1⟩
     obtain⟨qb,qo,rfl,u,f0,b9⟩:=t.out.2.1.get hv;rw[Nk] at f0;have f:Below B w wr:=(h3.out.trans HJ.out.1).below l.out.2.2.1 l.out.2.2.2.1 l.out.2.1;have cv:=zV f u f0;obtain⟨d',g,c⟩:=HJ.out.2;have y:=Ja (show bx.params[j]? =some v/\vJ i (bx.params.take j) d=some d' from⟨hv,c⟩);have d0:I64 (i:Int):=qL (by have:=f3.out;omega);have c9:I64 (-1):=⟨by omega,by omega⟩
     cases a0:rB d' v i (-1) with
     |none=>
      have HD:=Ja a0;have d4:=Ja (oK g v i (-1) b9 d0 c9 a0);clear hv f0 u f g c a0 d0 c9 b1 b9 z0;go_wp2_with (go_at_call 76;go_must (refine d4.out.mono ?_;intro e w1 hh;obtain⟨rfl,hw⟩:=hh;rw[hw];clear hw))
      go_ret;refine⟨?_,h3.out.trans HJ.out.1,fun d2 hd2=>?_⟩
      ·rw[<-m.out,wS,abe t.out.1 a1.out (mS (qr y.out.1 y.out.2 HD.out))];rfl
      ·rw[<-m.out,wS,abe t.out.1 a1.out (mS (qr y.out.1 y.out.2 HD.out))] at hd2;cases hd2
     |some d2=>
      have HD:=Ja a0;have d4:=Ja (qk g (cnt_lt f3.out (Jn hj d8.out.1)) v i (-1) b9 d0 c9 a0);clear hv f0 u f g c a0 d0 c9 b1 b9 z0;go_wp2_with (go_at_call 76;go_must (refine d4.out.mono ?_;rintro e w1 ⟨rfl,b2,a6⟩))
      have e6:=Ja (Jb b2 a6);clear b2 a6;go_roundw
      case rel=>exact⟨j+1,h0.out,by go_num,Ja ⟨HJ.out.1.trans e6.out.2,d2,e6.out.1.le (cnt_1 i j),(aC y.out.1 y.out.2).trans HD.out⟩⟩
      case measure=>have:=h0.out;simp[intOf];omega
    ·obtain rfl:j=bx.params.length:=by omega
     have h8:¬(bx.params.length:Int)<bx.params.length:=Zo;obtain⟨d1,g,c⟩:=HJ.out.2;rw[Nl] at c;have h4:=Ja c;have f4:=Ja g;have a2:=HJ.out.1.blk d7.out.1 d7.out.2.1 d7.out.2.2;have z1:=K1 a2;have o3:=Ja a2;have b7:=Ja (h3.out.trans HJ.out.1);clear g c b1 a2 z0;generalize wr=W2 at *;go_wp2
     go_loopw [36] (fun kv wx=>∃k:Nat,k<=bx.ops.length/\kv=I k/\Hid (Kept m1 m2 W2 wx/\∃d',ChkAt wx C m1 m2 (rC V p) (.slice (some ⟨fb,fo,none⟩) blocks.length fc) d5 (i*4000000+2000000+k) d'/\sS p i (bx.ops.take k) 0 d1=some d')) (fun kv _=>bx.ops.length-(intOf kv).toNat)
     case atStart=>exact⟨0,Jt _,rfl,Ja ⟨Kept.refl _ _ _,d1,f4.out.le (cnt_2 d8.out.1),rfl⟩⟩
     case round=>
      obtain⟨k,hk,rfl,HK⟩:=hrel
      by_cases c8:k<bx.ops.length
      ·have h7:(k:Int)<bx.ops.length:=Zo;have d3:=Ja c8;obtain⟨o,ho⟩:∃o,bx.ops[k]? =some o:=⟨_,Jd c8⟩
       obtain⟨qb,qo,rfl,u,j1,i8,i2,i1,i0,g2,av,h9,k6⟩:=t.out.2.2.1.get ho;obtain⟨aa,ac,rfl,k7,k5⟩:=k6.form;have f:Below B w wr:=(b7.out.trans HK.out.1).below l.out.2.2.1 l.out.2.2.2.1 l.out.2.1;have c0:=zV f u j1;have c1:=zV f u i8;have c2:=zV f u i2;have c3:=zV f u i1;have c4:=zV f u i0;have c5:=zV f u h9;obtain⟨d',g,c⟩:=HK.out.2;have y:=Ja (show bx.ops[k]? =some o/\sS p i (bx.ops.take k) 0 d1=some d' from⟨ho,c⟩);have g7:=Ja (show(I64 o.code/\I64 o.res/\I64 o.a/\I64 o.b/\o.n<65536)/\o.args.length<=ac/\ac<=9223372036854775807 from⟨g2,k7,k5⟩);have e8:=(Below.refl wr.heap.size wr).alloc (Je _) (U (N o aa ac) 27);have a3:=zI (W:=wr) (o:=U (N o aa ac) 27) rfl;have k1:=HK.out.1.trans (Kept.of e8);have g4:=g.below e8;have b3:Below B w (wr.alloc (U (N o aa ac) 27)):=f.alloc (Jn l.out.2.1 f.size) _;have g8:=Ja (Jb g.map1.lt g.map2.lt);clear ho j1 i8 i2 i1 i0 h9 g2 k6 k7 k5 f g c c8 z1;go_upto_region 13 with fail;generalize o1:wr.alloc (U (N o aa ac) 27)=W3 at *;generalize o0:wr.heap.size=b8 at *;have q0:=K0 a3;have p5:=K1 a3;have p4:=K2 a3;have p3:=K3 a3;have p1:=K4 a3;have p0:=K5 a3;have g0:=oper_any (l.out.1.below b3) (Jn l.out.2.1 b3.size) g4.blk l.out.2.2.2.2.1 o g7.out.1 aa ac g7.out.2;unfold opV at g0;have e5:=Ja g0;have f2:=Ja k1;have h5:=Ja g4;have b6:=Ja a3;have q9:=Ja (show b8≠m1/\b8≠m2 from⟨by have:=g8.out.1;omega,by have:=g8.out.2;omega⟩);clear g0 k1 g4 a3 o1 o0 b3 e8 c0 c1 c2 c3 c4 c5;obtain⟨q,hq⟩:∃q,opF p o=q:=⟨_,rfl⟩
       rw[hq] at e5;have HQ:=Ja hq;clear hq
       cases q with
       |false=>
        go_wp2_with (first|(go_at_call 77;go_must (refine e5.out.mono ?_;rintro e w4 ⟨rfl,h⟩))|go_in)
        go_ret
        have a5:wg p blocks=none:=by
         rw[wS];exact abe t.out.1 a1.out (mm h4.out (oR y.out.1 y.out.2 (by unfold ug;rw[HQ.out];rfl)))
        refine⟨?_,(b7.out.trans f2.out).trans (Kept.of h),fun d2 hd2=>?_⟩
        ·rw[<-m.out,a5];rfl
        ·rw[<-m.out,a5] at hd2;cases hd2
       |true=>
        by_cases hr:0<=o.res
        ·have t1:decide (0<=o.res)=true:=decide_eq_true hr;have HR:=Ja hr;obtain⟨r,a0⟩:∃r,rB d' o.res i k=r:=⟨_,rfl⟩
         have HD:=Ja a0;have b5:=Ja (show I64 o.res/\I64 (i:Int)/\I64 (k:Int) from⟨g7.out.1.2.1,qL (Jn f3.out Zd),qL (Jn (Jn hk d8.out.2.1) Zd)⟩);clear hr a0
         cases r with
         |none=>
          go_wp2_with (first|(go_at_call 77;go_must (refine e5.out.mono ?_;rintro e w4 ⟨rfl,h⟩;have a9:=h5.out.below h;have a4:=zH h b6.out (lt_of_block b6.out);have u1:=K1 a4;have b0:=Ja (Jb a9 h);clear a9 h a4))|(go_at_call 76;go_must (refine(oK b0.out.1 o.res i k b5.out.1 b5.out.2.1 b5.out.2.2 HD.out).mono ?_;intro e w5 hh;obtain⟨rfl,hw⟩:=hh;rw[hw];clear hw))|go_in)
          go_ret
          have a5:wg p blocks=none:=by
           rw[wS];exact abe t.out.1 a1.out (mm h4.out (oR y.out.1 y.out.2 (by unfold ug;rw[HQ.out,if_pos rfl,if_pos HR.out,HD.out])))
          refine⟨?_,(b7.out.trans f2.out).trans (Kept.of b0.out.2),fun d2 hd2=>?_⟩
          ·rw[<-m.out,a5];rfl
          ·rw[<-m.out,a5] at hd2;cases hd2
         |some d2=>
          go_wp2_with (first|(go_at_call 77;go_must (refine e5.out.mono ?_;rintro e w4 ⟨rfl,h⟩;have a9:=h5.out.below h;have a4:=zH h b6.out (lt_of_block b6.out);have u1:=K1 a4;have b0:=Ja (Jb a9 h);clear a9 h a4))|(go_at_call 76;go_must (refine(qk b0.out.1 (cnt_lt2 f3.out (Jn hk d8.out.2.1)) o.res i k b5.out.1 b5.out.2.1 b5.out.2.2 HD.out).mono ?_;rintro e w5 ⟨rfl,b2,a6⟩;have e6:=Ja (Jb b2 a6);clear b2 a6))|go_in)
          go_roundw
          case rel=>exact⟨k+1,d3.out,by go_num,Ja ⟨(f2.out.trans (Kept.of b0.out.2)).trans e6.out.2,d2,e6.out.1.le (cnt_3 i k),(cK y.out.1 y.out.2).trans (by unfold ug;rw[HQ.out,if_pos rfl,if_pos HR.out,HD.out])⟩⟩
          case measure=>have:=d3.out;simp[intOf];omega
        ·have t1:decide (0<=o.res)=false:=decide_eq_false hr;have HR:=Ja hr;clear hr;go_wp2_with (first|(go_at_call 77;go_must (refine e5.out.mono ?_;rintro e w4 ⟨rfl,h⟩;have a9:=h5.out.below h;have a4:=zH h b6.out (lt_of_block b6.out);have u1:=K1 a4;have b0:=Ja (Jb a9 h);clear a9 h a4))|go_in)
         go_roundw
         case rel=>exact⟨k+1,d3.out,by go_num,Ja ⟨f2.out.trans (Kept.of b0.out.2),d',b0.out.1.le (cnt_3' i k),(cK y.out.1 y.out.2).trans (by unfold ug;rw[HQ.out,if_pos rfl,if_neg (by have:=HR.out;omega)])⟩⟩
         case measure=>have:=d3.out;simp[intOf];omega
      ·obtain rfl:k=bx.ops.length:=by omega
       have h7:¬(bx.ops.length:Int)<bx.ops.length:=Zo;obtain⟨d2,g,c⟩:=HK.out.2;rw[Nl] at c;have a2:=HK.out.1.blk o3.out d7.out.2.1 d7.out.2.2;have z2:=K2 a2;have z3:=K3 a2;have z4:=K4 a2;have f:Below B w wr:=(b7.out.trans HK.out.1).below l.out.2.2.1 l.out.2.2.2.1 l.out.2.1;have c7:=term_any (l2.out.below yT f) (Jn l.out.2.1 f.size) g.blk rfl bx.term t.out.2.2.2.2 (t.out.2.2.2.1.below xL f);have h6:=Ja (blkF_eq (p:=p) (bl:=blocks) h4.out c);obtain⟨q,hq⟩:∃q,wn blocks bx.term=q:=⟨_,rfl⟩
       rw[hq] at c7 h6;have k9:=Ja c7;have l9:=Ja g;clear g c a2 f c7 hq c8 z1
       cases q with
       |false=>
        go_wp2_with (first|(go_at_call 78;go_must (refine k9.out.mono ?_;rintro e w4 ⟨rfl,h⟩))|go_in)
        go_ret
        have a5:wg p blocks=none:=by
         rw[wS];exact abe t.out.1 a1.out (by rw[h6.out];rfl)
        refine⟨?_,(b7.out.trans HK.out.1).trans (Kept.of h),fun d2 hd2=>?_⟩
        ·rw[<-m.out,a5];rfl
        ·rw[<-m.out,a5] at hd2;cases hd2
       |true=>
        go_wp2_with (first|(go_at_call 78;go_must (refine k9.out.mono ?_;rintro e w4 ⟨rfl,h⟩))|go_in)
        have l3:=Ja h;clear h;go_roundw
        case rel=>exact⟨i+1,l1.out,by go_num,Ja ⟨(b7.out.trans HK.out.1).trans (Kept.of l3.out),d2,(l9.out.below l3.out).le (cnt_4 d8.out.2.1),(lQ t.out.1 a1.out).trans (by rw[h6.out];rfl)⟩⟩
        case measure=>have:=l1.out;simp[intOf];omega
  ·obtain rfl:i=blocks.length:=by omega
   have l7:¬(blocks.length:Int)<blocks.length:=Zo;obtain⟨d,g,c⟩:=HI.out.2;rw[Nl] at c;have f4:=Ja (Jb g c);clear g c f1;go_wp2;go_ret;have hr:res=some d:=by rw[<-m.out,wS,f4.out.2]
   rw[hr];refine⟨rfl,HI.out.1,fun d2 hd2=>?_⟩;cases hd2;exact⟨_,cnt_lt l.out.2.2.2.2.2.1 (Jt _),f4.out.1.le (cnt_0 _)⟩
def xT (t:ITerm)(k:Nat):List Int:=((t.to.take k).map (·.args)).flatten
theorem u7{k:Nat}{e:IEdge}(h:t.to[k]? =some e):xT t (k+1)=xT t k++e.args:=by
 unfold xT;rw[Nh,h,Js,List.flatten_append];simp
theorem tP(h:∀e∈t.to,e.args.length<=2000000):∀k,k<=t.to.length->(xT t k).length<=k*2000000
 |0,_=>Jt _
 |k+1,hk=>by
  obtain⟨e,he⟩:∃e,t.to[k]? =some e:=⟨_,Jd Zo⟩
  rw[u7 he,Jk];have:=tP h k Zo;have:=h e (Ji he);omega
theorem si (t:ITerm):xT t t.to.length=(t.to.map (·.args)).flatten:=by unfold xT;rw[Nl]
theorem my:∀b2 b3 b4 b5:Bool,(b2||(b3||b4 && b5))=true->(b2=true)∨(b2=false/\b3=true)∨(b2=false/\b3=false/\b4=true/\b5=true)
 |true,_,_,_,_=> .inl rfl
 |false,true,_,_,_=> .inr (.inl ⟨rfl,rfl⟩)
 |false,false,true,true,_=> .inr (.inr ⟨rfl,rfl,rfl,rfl⟩)
theorem lB:∀b2 b3 b4 b5:Bool,(b2||(b3||b4 && b5))=false->(b2=false/\b3=false/\b4=false)∨(b2=false/\b3=false/\b4=true/\b5=false)
 |false,false,false,_,_=> .inl ⟨rfl,rfl,rfl⟩
 |false,false,true,false,_=> .inr ⟨rfl,rfl,rfl,rfl⟩
structure EndsMem (w wx:World) (xs:List Int) (v:Value):Prop where
 below:Below w.heap.size w wx
 own:wx.ownsRow w.heap.size 3 1 v xs.length (xs.map zN)
theorem ends_1(t:ITerm)(ht:I64 t.kind/\I64 t.a){B:Nat}(hB:B<=w.heap.size)(a0:wH w B tv t.to)(b1:t.to.length<=2000000/\∀e∈t.to,e.args.length<=2000000)(hh:ut t=true):
 A 66 #[.agg #[I t.kind,I t.a,tv]] w (wG w ([t.a]++(t.to.map (·.args)).flatten)):=by
 obtain⟨ta,tc,rfl,d6,d5⟩:=a0.form;obtain⟨ii,c0,a5,a4,a3⟩:=info_parts Try.info_int;have e6:t.to.length<=9223372036854775807:=Zo
 have c8:∀x∈ [t.a]++(t.to.map (·.args)).flatten,I64 x:=by
  intro x hx;rcases Jl.1 hx with hx|hx
  ·simp at hx;rw[hx];exact ht.2
  ·obtain⟨l,hl,d4⟩:=List.mem_flatten.1 hx;obtain⟨e,he,rfl⟩:=Nu.1 hl;obtain⟨k,hk⟩:=Ny he;obtain⟨b,o,_,_,_,_,av,_,m⟩:=a0.get hk;exact zY.all m x d4
 have d1:=Ja c8;unfold ut at hh;obtain⟨tk,b9⟩:∃x,t.kind=x:=⟨_,rfl⟩
 obtain⟨tA,a9⟩:∃x,t.a=x:=⟨_,rfl⟩
 rw[b9,a9] at hh ht ⊢
 try rw[a9] at d1
 obtain⟨b2,g2⟩:∃q,decide (tk=2)=q:=⟨_,rfl⟩
 obtain⟨b3,g3⟩:∃q,decide (tk=3)=q:=⟨_,rfl⟩
 obtain⟨b4,g4⟩:∃q,decide (tk=4)=q:=⟨_,rfl⟩
 obtain⟨b5,g5⟩:∃q,decide (tA≠-1)=q:=⟨_,rfl⟩
 rw[g2,g3,g4,g5] at hh;have t2:(tk==2)=b2:=zl g2;have t3:(tk==3)=b3:=zl g3;have t4:(tk==4)=b4:=zl g4;have t5:(tA !=-1)=b5:=by rw[<-g5,bne];by_cases h:tA=-1<;>simp[h]
 have f:=Ja (show wH w B (.slice ta t.to.length tc) t.to/\B<=w.heap.size/\t.to.length<=2000000/\∀e∈t.to,e.args.length<=2000000 from⟨a0,hB,b1⟩);have HT:=Ja ht;have i:=zI (W:=w) (o:=U #[I tk,I tA,.slice ta t.to.length tc] 34) rfl;have c7:Q w (w.alloc (U #[I tk,I tA,.slice ta t.to.length tc] 34)):=(Below.refl _ _).alloc (Je _) _;clear a0 hB b1 ht d6 d5 g2 g3 g4 g5 b9 a9 c8;have d7:=my b2 b3 b4 b5 hh;clear hh;rcases d7 with rfl|⟨rfl,rfl⟩|⟨rfl,rfl,rfl,rfl⟩
 all_goals (
  go_enter Try.func66,Try.ntmps66;go_upto_region 2 with fail;generalize e4:w.alloc (U #[I tk,I tA,.slice ta t.to.length tc] 34)=W0 at *;have y0:=K0 i;have y1:=K1 i;have y2:=K2 i;have H0:=Ja (show Q w W0/\T W0 w.heap.size #[I tk,I tA,.slice ta t.to.length tc] 34 from⟨c7,i⟩);clear e4 i c7;have own0:W0.ownsRow w.heap.size 3 1 (F) 0 []:=Jv W0 _ _ _;have g:=Ja own0;clear own0;go_upto_region 4 with(at_builtin;go_must (refine zK _ rfl (.tmp 24) (.tmp 27) 25 rfl w.heap.size 3 ii (I 0) 1 8 Try.underlying25 c0 a5 a4 a3 rfl Zd (F) 0 [] rfl (g.out.alloc _) _ 1 [I tA] rfl (yM.one (zI Zs) (by simp[Value.oneCell'])) Zd Zd (by have:=H0.out.1.size;simp;omega) ?_;intro v0 W1 c d b7))
  have c4:Q w W1:=yP (H0.out.1.alloc H0.out.1.size _) d (by have:=H0.out.1.size;simp;omega) (wF g.out);have a6:=zL d (zB H0.out.2) (zC g.out H0.out.2 (.inr Zd));have z2:=K2 a6;have HS:=Ja (show EndsMem w W1 ([tA]++xT t 0) v0 from⟨c4,c⟩);have e7:=Ja a6;clear c4 a6 c d b7 y0 y1 y2;go_wp2
  go_loopw [3,32] (fun lv kv wx=>∃k:Nat,k<=t.to.length/\kv=I k/\Hid (EndsMem w wx ([tA]++xT t k) lv)) (fun _ kv _=>t.to.length-(intOf kv).toNat)
  case atStart=>exact⟨0,Jt _,rfl,HS⟩
  case round=>
   obtain⟨k,hk,rfl,HK⟩:=hrel
   by_cases a2:k<t.to.length
   ·have d2:(k:Int)<t.to.length:=Zo;have d0:=Ja a2;obtain⟨e,he⟩:∃e,t.to[k]? =some e:=⟨_,Jd a2⟩
    obtain⟨eb,eo,rfl,c1,c3,d3,av,c2,m⟩:=f.out.1.get he;obtain⟨aa,ac,rfl,e2,d8⟩:=m.form;have b6:=HK.out.below.mono f.out.2.1;have e0:=zV b6 c1 c3;have e1:=zV b6 c1 c2;have HE:=Ja (show t.to[k]? =some e/\zY w B (.slice aa e.args.length ac) e.args from⟨he,m⟩);clear he c3 c2 d3 m e2 d8 b6 a2 z2;have b8:=zI (W:=wr) (o:=U #[I e.block,.slice aa e.args.length ac] 93) rfl;have y:=HK.out.below.alloc HK.out.below.size (U #[I e.block,.slice aa e.args.length ac] 93);have a1:=HK.out.own.alloc (U #[I e.block,.slice aa e.args.length ac] 93);have b0:=zY.src (HE.out.2.below zO (y.mono f.out.2.1));go_upto_region 7 with fail;generalize e3:wr.alloc (U #[I e.block,.slice aa e.args.length ac] 93)=W2 at *;generalize wr.heap.size=b5 at *;have z51:=K1 b8
    have j:([tA]++xT t k).length+e.args.length<=6000000000000:=by
     have h1:=tP f.out.2.2.2 k hk;have h2:=f.out.2.2.1;have h3:=f.out.2.2.2 e (Ji HE.out.1);rw[Jk];simp only[Nq,Ow];omega
    have u:=Ja (show _/\_ from⟨j,y⟩);have c9:=Ja a1;have e5:=Ja b0;clear j a1 b0 y b8 e3 e0 e1;go_wp2_with (at_builtin;go_must (refine zK _ rfl (.tmp 36) (.tmp 38) 25 rfl w.heap.size 3 ii (I 0) 1 8 Try.underlying25 c0 a5 a4 a3 rfl Zd _ ([tA]++xT t k).length (([tA]++xT t k).map zN) rfl c9.out _ e.args.length (e.args.map zN) rfl e5.out (by have:=u.out.1;unfold maxLen;omega) (by have:=u.out.1;omega) u.out.2.size ?_;intro v9 w9 c d b7))
    have c5:=yP u.out.2 d u.out.2.size (wF c9.out);have HN:=Ja (Jb c5 c);clear c d b7 c5;go_roundw
    case rel=>
     refine⟨k+1,d0.out,by go_num,Ja ⟨HN.out.1,?_⟩⟩;rw[u7 HE.out.1,<-Nv,Jk (bs:=e.args),Js (l₂:=e.args)];exact HN.out.2
    case measure=>have:=d0.out;simp[intOf];omega
   ·obtain rfl:k=t.to.length:=by omega
    have d2:¬(t.to.length:Int)<t.to.length:=Zo;clear a2 z2;go_wp2;go_ret;have c:=HK.out.own;rw[si] at c
    exact⟨_,rfl,uA c rfl d1.out,HK.out.below⟩)
theorem ends_0(t:ITerm)(ht:I64 t.kind/\I64 t.a){B:Nat}(hB:B<=w.heap.size)(u:wH w B tv t.to)(a4:t.to.length<=2000000/\∀e∈t.to,e.args.length<=2000000)(hh:ut t=false):
 A 66 #[.agg #[I t.kind,I t.a,tv]] w (wG w (([]:List Int)++(t.to.map (·.args)).flatten)):=by
 obtain⟨ta,tc,rfl,d1,d0⟩:=u.form;obtain⟨ii,d2,c5,c4,c3⟩:=info_parts Try.info_int;have e3:t.to.length<=9223372036854775807:=Zo
 have b9:∀x∈([]:List Int)++(t.to.map (·.args)).flatten,I64 x:=by
  intro x hx;rcases Jl.1 hx with hx|hx
  ·simp at hx
  ·obtain⟨l,hl,c9⟩:=List.mem_flatten.1 hx;obtain⟨e,he,rfl⟩:=Nu.1 hl;obtain⟨k,hk⟩:=Ny he;obtain⟨b,o,_,_,_,_,av,_,i⟩:=u.get hk;exact zY.all i x c9
 have c2:=Ja b9;unfold ut at hh;obtain⟨tk,a9⟩:∃x,t.kind=x:=⟨_,rfl⟩
 obtain⟨tA,a2⟩:∃x,t.a=x:=⟨_,rfl⟩
 rw[a9,a2] at hh ht ⊢
 try rw[a2] at c2
 obtain⟨b2,g2⟩:∃q,decide (tk=2)=q:=⟨_,rfl⟩
 obtain⟨b3,g3⟩:∃q,decide (tk=3)=q:=⟨_,rfl⟩
 obtain⟨b4,g4⟩:∃q,decide (tk=4)=q:=⟨_,rfl⟩
 obtain⟨b5,g5⟩:∃q,decide (tA≠-1)=q:=⟨_,rfl⟩
 rw[g2,g3,g4,g5] at hh;have t2:(tk==2)=b2:=zl g2;have t3:(tk==3)=b3:=zl g3;have t4:(tk==4)=b4:=zl g4;have t5:(tA !=-1)=b5:=by rw[<-g5,bne];by_cases h:tA=-1<;>simp[h]
 have d:=Ja (show wH w B (.slice ta t.to.length tc) t.to/\B<=w.heap.size/\t.to.length<=2000000/\∀e∈t.to,e.args.length<=2000000 from⟨u,hB,a4⟩);have HT:=Ja ht;have f:=zI (W:=w) (o:=U #[I tk,I tA,.slice ta t.to.length tc] 34) rfl;have b8:Q w (w.alloc (U #[I tk,I tA,.slice ta t.to.length tc] 34)):=(Below.refl _ _).alloc (Je _) _;clear u hB a4 ht d1 d0 g2 g3 g4 g5 a9 a2 b9;have d3:=lB b2 b3 b4 b5 hh;clear hh;rcases d3 with⟨rfl,rfl,rfl⟩|⟨rfl,rfl,rfl,rfl⟩
 all_goals (
  go_enter Try.func66,Try.ntmps66;go_upto_region 2 with fail;generalize d8:w.alloc (U #[I tk,I tA,.slice ta t.to.length tc] 34)=W0 at *;have y0:=K0 f;have y1:=K1 f;have y2:=K2 f;have H0:=Ja (show Q w W0/\T W0 w.heap.size #[I tk,I tA,.slice ta t.to.length tc] 34 from⟨b8,f⟩);clear d8 f b8;go_upto_region 4 with fail;have z2:=y2;have HS:=Ja (show EndsMem w W0 (([]:List Int)++xT t 0) (F) from⟨H0.out.1,Jv W0 _ _ _⟩);have e4:=Ja H0.out.2;generalize W0=W1 at *;clear y0 y1 y2;go_wp2
  go_loopw [3,32] (fun lv kv wx=>∃k:Nat,k<=t.to.length/\kv=I k/\Hid (EndsMem w wx (([]:List Int)++xT t k) lv)) (fun _ kv _=>t.to.length-(intOf kv).toNat)
  case atStart=>exact⟨0,Jt _,rfl,HS⟩
  case round=>
   obtain⟨k,hk,rfl,HK⟩:=hrel
   by_cases a0:k<t.to.length
   ·have c7:(k:Int)<t.to.length:=Zo;have c1:=Ja a0;obtain⟨e,he⟩:∃e,t.to[k]? =some e:=⟨_,Jd a0⟩
    obtain⟨eb,eo,rfl,b0,b6,c8,av,b1,i⟩:=d.out.1.get he;obtain⟨aa,ac,rfl,d6,d5⟩:=i.form;have a5:=HK.out.below.mono d.out.2.1;have e0:=zV a5 b0 b6;have e1:=zV a5 b0 b1;have HE:=Ja (show t.to[k]? =some e/\zY w B (.slice aa e.args.length ac) e.args from⟨he,i⟩);clear he b6 b1 c8 i d6 d5 a5 a0 z2;have a6:=zI (W:=wr) (o:=U #[I e.block,.slice aa e.args.length ac] 93) rfl;have m:=HK.out.below.alloc HK.out.below.size (U #[I e.block,.slice aa e.args.length ac] 93);have y:=HK.out.own.alloc (U #[I e.block,.slice aa e.args.length ac] 93);have a3:=zY.src (HE.out.2.below zO (m.mono d.out.2.1));go_upto_region 7 with fail;generalize d7:wr.alloc (U #[I e.block,.slice aa e.args.length ac] 93)=W2 at *;generalize wr.heap.size=b5 at *;have z51:=K1 a6
    have g:(([]:List Int)++xT t k).length+e.args.length<=6000000000000:=by
     have h1:=tP d.out.2.2.2 k hk;have h2:=d.out.2.2.1;have h3:=d.out.2.2.2 e (Ji HE.out.1);rw[Jk];simp only[Nq,Ow];omega
    have j:=Ja (show _/\_ from⟨g,m⟩);have c0:=Ja y;have e2:=Ja a3;clear g y a3 m a6 d7 e0 e1;go_wp2_with (at_builtin;go_must (refine zK _ rfl (.tmp 36) (.tmp 38) 25 rfl w.heap.size 3 ii (I 0) 1 8 Try.underlying25 d2 c5 c4 c3 rfl Zd _ (([]:List Int)++xT t k).length ((([]:List Int)++xT t k).map zN) rfl c0.out _ e.args.length (e.args.map zN) rfl e2.out (by have:=j.out.1;unfold maxLen;omega) (by have:=j.out.1;omega) j.out.2.size ?_;intro v9 w9 c a1 d4))
    have b7:=yP j.out.2 a1 j.out.2.size (wF c0.out);have HN:=Ja (Jb b7 c);clear c a1 d4 b7;go_roundw
    case rel=>
     refine⟨k+1,c1.out,by go_num,Ja ⟨HN.out.1,?_⟩⟩;rw[u7 HE.out.1,<-Nv,Jk (bs:=e.args),Js (l₂:=e.args)];exact HN.out.2
    case measure=>have:=c1.out;simp[intOf];omega
   ·obtain rfl:k=t.to.length:=by omega
    have c7:¬(t.to.length:Int)<t.to.length:=Zo;clear a0 z2;go_wp2;go_ret;have c:=HK.out.own;rw[si] at c
    exact⟨_,rfl,uA c rfl c2.out,HK.out.below⟩)
theorem ends_any(t:ITerm)(ht:I64 t.kind/\I64 t.a){B:Nat}(g:B<=w.heap.size)(d:wH w B tv t.to)(c:t.to.length<=2000000/\∀e∈t.to,e.args.length<=2000000):
 A 66 #[.agg #[I t.kind,I t.a,tv]] w (wG w (mE t)):=by
 unfold mE;cases f:ut t
 ·exact ends_0 t ht g d c f
 ·exact ends_1 t ht g d c f
theorem jT {g:List (List Nat)}(hv:zw g)(h:g.length<=9000000):∀x∈wQ g,I64 x:=by
 intro x f;unfold wQ at f;obtain⟨c,j,rfl⟩:=Nu.1 f;rcases idomOf hv c with⟨d,_⟩|⟨c',d,_,i,_⟩
 ·rw[d];exact⟨by omega,by omega⟩
 ·have:=(cA hv i).1;rw[d];exact⟨by omega,by omega⟩
theorem lp {α:Type}:∀l:List α,l=[]∨∃a m,l=a::m
 | []=> .inl rfl
 |a::m=> .inr ⟨a,m,rfl⟩
theorem nA{B:Nat}{V:PV}{p:IProg}(hp:ProgIn w B V p)(hB:B<=w.heap.size)(hl:p.args.length=p.funcs.length)(ha:p.args.all tX=true)(hs:∀f∈p.funcs,vZ f){n:Nat}(hn:n<p.funcs.length):
 A 27 #[yH V p,I n] w (ym w (yi p n)):=by
 have m:=Ja (show ProgIn w B V p/\B<=w.heap.size/\p.args.length=p.funcs.length/\p.args.all tX=true/\∀f∈p.funcs,vZ f from⟨hp,hB,hl,ha,hs⟩);have D5:=@run_makeMap Try.prog;obtain⟨Vf,Va,Vd,Vb⟩:=V;obtain⟨f1,f2,e1,y3,x8⟩:=hp.funcs.form;have l2:=hp.funcs;have l7:=hp.args;obtain⟨a1,a2,e2,q5,q3⟩:=hp.args.form;obtain⟨d1,d2,e3,y6,y5⟩:=hp.data.form;obtain⟨b1,b2,e4,z0,y8⟩:=hp.banks.form;simp only at e1 e2 e3 e4 l2 l7;subst e1 e2 e3 e4;have D6:p.funcs.length<=9223372036854775807:=Zo;have D7:p.args.length<=9223372036854775807:=Zo;obtain⟨blocks,h9⟩:∃bl,p.funcs[n]? =some bl:=⟨_,Jd hn⟩
 obtain⟨x,hx⟩:∃x,p.args[n]? =some x:=⟨_,Jd Zo⟩
 obtain⟨fb,fo,rfl,b5,bv,g1,q1⟩:=l2.get h9;obtain⟨ab,ao,rfl,u9,g3,B0⟩:=l7.get hx;rw[Nk] at g1 g3;obtain⟨ba,bc,rfl,w9,w8⟩:=q1.form;have B3:blocks.length<=9223372036854775807:=Zo;unfold yH;simp only;obtain⟨res,f9⟩:∃x,yi p n=x:=⟨_,rfl⟩
 rw[f9];have r0:=Ja f9;have j:=Ja (show p.funcs[n]? =some blocks/\wX w B (.slice ba blocks.length bc) blocks/\vZ blocks/\p.args[n]? =some x from⟨h9,q1,hs _ (Ji h9),hx⟩);have q2:Q w (w.alloc (U (Z p (some ⟨fb,fo,none⟩) f2 (some ⟨ab,ao,none⟩) a2 d1 d2 b1 b2) 44)):=(Below.refl _ _).alloc (Je _) _;have cf:=zV q2 (Jy b5 hB) g1;have D3:(n:Int)<p.funcs.length:=Zo;have D4:(n:Int)<p.args.length:=Zo;have v8:=Ja (show ab<B/\O w ab (ao+n) (I x) from⟨u9,g3⟩);have j2:=zI (W:=w) (o:=U (Z p (some ⟨fb,fo,none⟩) f2 (some ⟨ab,ao,none⟩) a2 d1 d2 b1 b2) 44) rfl;have k2:(w.alloc (U (Z p (some ⟨fb,fo,none⟩) f2 (some ⟨ab,ao,none⟩) a2 d1 d2 b1 b2) 44)).heap.size=w.heap.size+1:=by simp
 clear hp l2 l7 hB hl ha hs hn y3 x8 q5 q3 y6 y5 z0 y8 h9 hx f9 q1 w9 w8 g1 g3 b5 u9;go_enter Try.func27,Try.ntmps27;go_upto_region 1 with fail;generalize A0:w.alloc (U (Z p (some ⟨fb,fo,none⟩) f2 (some ⟨ab,ao,none⟩) a2 d1 d2 b1 b2) 44)=WP at *;have p0:=K0 j2;have u6:Q w (WP.alloc (U #[.slice ba blocks.length bc] 39)):=q2.alloc Zo _;have y:=zB (o:=U #[.slice ba blocks.length bc] 39) j2;have j9:T (WP.alloc (U #[.slice ba blocks.length bc] 39)) (w.heap.size+1) #[.slice ba blocks.length bc] 39:=zI k2;have e6:(WP.alloc (U #[.slice ba blocks.length bc] 39)).heap.size=w.heap.size+2:=by simp[k2]
 clear A0 q2 j2;go_upto_region 2 with fail;generalize A1:WP.alloc (U #[.slice ba blocks.length bc] 39)=WF at *;have q0:=K0 j9;clear A1 k2 p0 cf;have v4:=Ja (show Q w WF from u6);clear u6;rcases lp blocks with a4|⟨b0,bs,a4⟩
 ·have hr:res=true:=by rw[<-r0.out];unfold yi;rw[Jj,j.out.1,a4];rfl
  have t0:((blocks.length:Int)==0)=true:=by rw[a4];rfl
  clear a4;go_wp2;go_ret;exact⟨uz hr,v4.out⟩
 ·have t0:((blocks.length:Int)==0)=false:=by rw[beq_eq_false_iff_ne,a4,Nq];omega
  have v5:=Ja a4;have B1:(0:Int)<blocks.length:=by rw[a4,Nq];omega
  have h0:blocks[0]? =some b0:=by rw[a4];rfl
  obtain⟨kb,ko,rfl,t4,_,_,_,pv,ov,tv,e8,_,_,e7,_,_⟩:=j.out.2.1.get h0;obtain⟨pa,pc,rfl,l3,k6⟩:=e7.form;have B2:b0.params.length<=9223372036854775807:=Zo;have v2:=Ja (Jb t4 e8);clear a4 h0 t4 e8 e7 l3 k6;have p0:=K0 y;have p1:=K1 y;have p2:=K2 y;have p3:=K3 y;have p4:=K4 y;have p5:=K5 y;go_upto_region 5 with fail;have v0:T (((WF.alloc (.map #[] 0)).alloc (.map #[] 0)).alloc (U #[.slice (some ⟨fb,fo,none⟩) p.funcs.length f2,.slice (some ⟨ab,ao,none⟩) p.args.length a2,I p.entry,I p.handler,.slice d1 p.data.length d2,.slice b1 p.banks.length b2,.slice (some ⟨kb,ko,none⟩) blocks.length bc,.map (some (w.heap.size+2)),.map (some (w.heap.size+2+1)),F] 107)) (w.heap.size+2+1+1) #[.slice (some ⟨fb,fo,none⟩) p.funcs.length f2,.slice (some ⟨ab,ao,none⟩) p.args.length a2,I p.entry,I p.handler,.slice d1 p.data.length d2,.slice b1 p.banks.length b2,.slice (some ⟨kb,ko,none⟩) blocks.length bc,.map (some (w.heap.size+2)),.map (some (w.heap.size+2+1)),F] 107:=zI (by simp[e6]);have t3:(((WF.alloc (.map #[] 0)).alloc (.map #[] 0)).alloc (U #[.slice (some ⟨fb,fo,none⟩) p.funcs.length f2,.slice (some ⟨ab,ao,none⟩) p.args.length a2,I p.entry,I p.handler,.slice d1 p.data.length d2,.slice b1 p.banks.length b2,.slice (some ⟨kb,ko,none⟩) blocks.length bc,.map (some (w.heap.size+2)),.map (some (w.heap.size+2+1)),F] 107)).heap[w.heap.size+2]? =some (.map #[] 0):=zB (zB (zI e6));have t2:(((WF.alloc (.map #[] 0)).alloc (.map #[] 0)).alloc (U #[.slice (some ⟨fb,fo,none⟩) p.funcs.length f2,.slice (some ⟨ab,ao,none⟩) p.args.length a2,I p.entry,I p.handler,.slice d1 p.data.length d2,.slice b1 p.banks.length b2,.slice (some ⟨kb,ko,none⟩) blocks.length bc,.map (some (w.heap.size+2)),.map (some (w.heap.size+2+1)),F] 107)).heap[w.heap.size+2+1]? =some (.map #[] 0):=zB (zI (by simp[e6]));have b6:Q w (((WF.alloc (.map #[] 0)).alloc (.map #[] 0)).alloc (U #[.slice (some ⟨fb,fo,none⟩) p.funcs.length f2,.slice (some ⟨ab,ao,none⟩) p.args.length a2,I p.entry,I p.handler,.slice d1 p.data.length d2,.slice b1 p.banks.length b2,.slice (some ⟨kb,ko,none⟩) blocks.length bc,.map (some (w.heap.size+2)),.map (some (w.heap.size+2+1)),F] 107)):=((v4.out.alloc Zo _).alloc Zt _).alloc Zt _;have r5:T (((WF.alloc (.map #[] 0)).alloc (.map #[] 0)).alloc (U #[.slice (some ⟨fb,fo,none⟩) p.funcs.length f2,.slice (some ⟨ab,ao,none⟩) p.args.length a2,I p.entry,I p.handler,.slice d1 p.data.length d2,.slice b1 p.banks.length b2,.slice (some ⟨kb,ko,none⟩) blocks.length bc,.map (some (w.heap.size+2)),.map (some (w.heap.size+2+1)),F] 107)) w.heap.size (Z p (some ⟨fb,fo,none⟩) f2 (some ⟨ab,ao,none⟩) a2 d1 d2 b1 b2) 44:=zB (zB (zB y));have o9:T (((WF.alloc (.map #[] 0)).alloc (.map #[] 0)).alloc (U #[.slice (some ⟨fb,fo,none⟩) p.funcs.length f2,.slice (some ⟨ab,ao,none⟩) p.args.length a2,I p.entry,I p.handler,.slice d1 p.data.length d2,.slice b1 p.banks.length b2,.slice (some ⟨kb,ko,none⟩) blocks.length bc,.map (some (w.heap.size+2)),.map (some (w.heap.size+2+1)),F] 107)) (w.heap.size+1) #[.slice (some ⟨kb,ko,none⟩) blocks.length bc] 39:=zB (zB (zB j9));have s1:(((WF.alloc (.map #[] 0)).alloc (.map #[] 0)).alloc (U #[.slice (some ⟨fb,fo,none⟩) p.funcs.length f2,.slice (some ⟨ab,ao,none⟩) p.args.length a2,I p.entry,I p.handler,.slice d1 p.data.length d2,.slice b1 p.banks.length b2,.slice (some ⟨kb,ko,none⟩) blocks.length bc,.map (some (w.heap.size+2)),.map (some (w.heap.size+2+1)),F] 107)).heap.size=w.heap.size+2+1+1+1:=by simp[e6]
  generalize A6:((WF.alloc (.map #[] 0)).alloc (.map #[] 0)).alloc (U #[.slice (some ⟨fb,fo,none⟩) p.funcs.length f2,.slice (some ⟨ab,ao,none⟩) p.args.length a2,I p.entry,I p.handler,.slice d1 p.data.length d2,.slice b1 p.banks.length b2,.slice (some ⟨kb,ko,none⟩) blocks.length bc,.map (some (w.heap.size+2)),.map (some (w.heap.size+2+1)),F] 107)=W2 at *;generalize A7:w.heap.size+2+1+1=C at *;generalize w0:w.heap.size+2+1=m2 at *;generalize w1:w.heap.size+2=m1 at *;have a9:ChkAt W2 C m1 m2 (rC ⟨.slice (some ⟨fb,fo,none⟩) p.funcs.length f2,.slice (some ⟨ab,ao,none⟩) p.args.length a2,.slice d1 p.data.length d2,.slice b1 p.banks.length b2⟩ p) (.slice (some ⟨kb,ko,none⟩) blocks.length bc) (F) 0 na:=ChkAt.made v0 rfl t3 t2 Zo;have x1:=Ja a9;have H2:=Ja (show Q w W2/\T W2 (w.heap.size+1) #[.slice (some ⟨kb,ko,none⟩) blocks.length bc] 39/\W2.heap.size=C+1/\w.heap.size+2=m1/\m1+1=m2/\m2+1=C from⟨b6,o9,s1,by omega,by omega,by omega⟩);have c0:=K0 o9;have c1:=K1 r5;have c2:O W2 kb ko (.slice pa b0.params.length pc):=by have:=zV (b6.mono m.out.2.1) v2.out.1 v2.out.2;simpa using this
  have c3:O W2 ab (ao+n) (I x):=zV (b6.mono m.out.2.1) v8.out.1 v8.out.2;obtain⟨qe,k5⟩:∃q,decide ((b0.params.length:Int)=x)=q:=⟨_,rfl⟩
  have t1:((b0.params.length:Int) !=x)=!qe:=by rw[bne,zl k5]
  have h5:p.args.getD n 0=x:=by rw[Jj,j.out.2.2.2];rfl
  have o3:yi p n=(qe && ((wg p blocks).map (iM blocks)).getD false):=by
   unfold yi;rw[Jj,j.out.1,Ot,v5.out];simp only;rw[h5,k5]
  rw[r0.out] at o3;have f6:=Ja o3;clear A6 A7 w0 w1 a9 b6 v0 t3 t2 r5 o9 s1 y j9 e6 q0 p0 p1 p2 p3 p4 p5 k5 h5 o3
  cases qe with
  |false=>
   go_quiet (fail);go_wp2;go_ret
   exact⟨uz f6.out,yC H2.out.1⟩
  |true=>
   have a5:Q w W2.drew:=H2.out.1.drew;have a6:=a5.mono m.out.2.1;have s0:=lM (m.out.1.below a6) (j.out.2.1.below yT a6) (Jn m.out.2.1 a5.size) (by have:=m.out.2.1;have:=H2.out.2.2.2;omega) (by have:=m.out.2.1;have:=H2.out.2.2.2;omega) m.out.2.2.1 j.out.2.2.1 (x1.out.below ((Below.refl W2.heap.size W2).drew));have q9:=Ja s0;have i2:=Ja a5;clear s0 a5 a6;obtain⟨r,hr⟩:∃r,wg p blocks=r:=⟨_,rfl⟩
   rw[hr] at q9 f6;have HR:=Ja hr;clear hr
   cases r with
   |none=>
    refine zt 14 Zk Zk ?_;simp only[Qo,Uc,Qp,Ui]
    repeat (go_big_quiet_step (fail))
    refine wpQuiet_nil ?_;go_wp2_with (first|(go_at_call 62;go_must (refine q9.out.mono ?_;rintro e w3 ⟨rfl,f3,_⟩))|go_in)
    go_ret
    exact⟨uz f6.out,i2.out.trans (f3.below (by have:=H2.out.2.2.2;omega) (by have:=H2.out.2.2.2;omega) i2.out.size)⟩
   |some d=>
    refine zt 14 Zk Zk ?_;simp only[Qo,Uc,Qp,Ui]
    repeat (go_big_quiet_step (fail))
    refine wpQuiet_nil ?_;go_upto_region 7 with(first|(go_at_call 62;go_must (refine q9.out.mono ?_;rintro e w3 ⟨rfl,f3,u3⟩))|go_in)
    obtain⟨N,hN,a9⟩:=u3 d rfl;have t:=i2.out.trans (f3.below (by have:=H2.out.2.2.2;omega) (by have:=H2.out.2.2.2;omega) i2.out.size);have o6:=f3.blk (b:=w.heap.size+1) H2.out.2.1 (by have:=H2.out.2.2.2;omega) (by have:=H2.out.2.2.2;omega);have h1:∀b∈blocks,(∀o∈b.ops,opF p o=true)/\wn blocks b.term=true:=rV blocks 0 na d (by rw[<-wS];exact HR.out);have k1:C<w3.heap.size:=lt_of_block a9.blk;have t7:=ox (j.out.2.1.below yT (t.mono m.out.2.1)) (Jn m.out.2.1 t.size) ⟨j.out.2.2.1.1,fun b hb=>(j.out.2.2.1.2 b hb).2.2⟩;have HG:=Ja t7;have H3:=Ja (show Q w w3/\T w3 (w.heap.size+1) #[.slice (some ⟨kb,ko,none⟩) blocks.length bc] 39/\ChkAt w3 C m1 m2 (rC ⟨.slice (some ⟨fb,fo,none⟩) p.funcs.length f2,.slice (some ⟨ab,ao,none⟩) p.args.length a2,.slice d1 p.data.length d2,.slice b1 p.banks.length b2⟩ p) (.slice (some ⟨kb,ko,none⟩) blocks.length bc) (F) N d/\(∀b∈blocks,(∀o∈b.ops,opF p o=true)/\wn blocks b.term=true)/\C<w3.heap.size/\blocks≠ [] from⟨t,o6,a9,h1,k1,by rw[v5.out];simp⟩);have u0:=K0 o6;clear f3 u3 hN a9 t o6 h1 k1 t7 c0 c1 c2 c3 t1;have w7:(zk blocks).length=blocks.length:=by unfold zk;simp
    clear w7;go_upto_region 8 with(first|(go_at_call 22;go_must (refine HG.out.mono ?_;rintro e w4 ⟨gb,rfl,h2,t8,d4⟩))|go_in)
    have x6:(zk blocks).length=blocks.length:=by unfold zk;simp
    have g2:=(Below.refl w4.heap.size w4).alloc (Je _) (U #[L gb (zk blocks).length (zk blocks).length] 75);have k3:=h2.below g2;have e5:=d4.trans (g2.mono d4.size);have c7:Q w (w4.alloc (U #[L gb (zk blocks).length (zk blocks).length] 75)):=H3.out.1.trans (e5.mono H3.out.1.size);have u1:=zH e5 H3.out.2.1 (lt_of_block H3.out.2.1);have h8:=H3.out.2.2.1.below e5;have o2:=zI (W:=w4) (o:=U #[L gb (zk blocks).length (zk blocks).length] 75) rfl;have n1:C<w4.heap.size:=Jy H3.out.2.2.2.2.1 d4.size;have n2:=H3.out.2.2.2.2.1;generalize A5:w4.alloc (U #[L gb (zk blocks).length (zk blocks).length] 75)=W5 at *;generalize x7:w4.heap.size=g4 at *;generalize n7:(zk blocks).length=gl at *
    have b8:∀W:World,OwnRows zN 3 25 W w3.heap.size gb (zk blocks)->GraphIn W (L gb gl gl) (zy blocks):=fun W hW=>by
     have:=hW.asRows (Je _);rw[n7] at this;exact bU j.out.2.2.1 H3.out.2.2.2.2.2 (fun b hb=>(H3.out.2.2.2.1 b hb).2) this
    have r3:=Ja (show(∀W:World,OwnRows zN 3 25 W w3.heap.size gb (zk blocks)->GraphIn W (L gb gl gl) (zy blocks))/\OwnRows zN 3 25 W5 w3.heap.size gb (zk blocks)/\w3.heap.size<=gb from⟨b8,k3,t8⟩);have v3:=Ja (b8 _ k3);have H5:=Ja (show Q w W5/\T W5 (w.heap.size+1) #[.slice (some ⟨kb,ko,none⟩) blocks.length bc] 39/\ChkAt W5 C m1 m2 (rC ⟨.slice (some ⟨fb,fo,none⟩) p.funcs.length f2,.slice (some ⟨ab,ao,none⟩) p.args.length a2,.slice d1 p.data.length d2,.slice b1 p.banks.length b2⟩ p) (.slice (some ⟨kb,ko,none⟩) blocks.length bc) (F) N d/\T W5 g4 #[L gb gl gl] 75/\C<g4/\C<w3.heap.size from⟨c7,u1,h8,o2,n1,n2⟩);have u5:=K0 o2;clear g2 k3 e5 c7 u1 h8 o2 n1 n2 A5 x7 h2 d4 u0 t8 b8 n7 x6;go_upto_region 9 with(first|(go_at_call 63;go_must (refine(qP v3.out).mono ?_;rintro e w6 ⟨iv,rfl,d6,d3⟩;obtain⟨ia,ic,rfl⟩:=zG d6;have f0:=H5.out.2.2.1.below d3;have v9:O w6 C 9 (F):=zA f0.blk rfl;have vf:Y w6 C 9:=zE f0.blk))|go_in)
    have hv:=v3.out.valid;have nC:=zC d6 f0.blk (.inr Zd);have h3:=ownsRow_setCell_other (a:=⟨C,9,none⟩) d6 nC (.slice ia (wQ (zy blocks)).length ic);have n4:zY (w6.setCell ⟨C,9,none⟩ (.slice ia (wQ (zy blocks)).length ic)) (w6.setCell ⟨C,9,none⟩ (.slice ia (wQ (zy blocks)).length ic)).heap.size (.slice ia (wQ (zy blocks)).length ic) (wQ (zy blocks)):=uA h3 rfl (jT hv (by rw[xu];have:=j.out.2.2.1.1;omega));have h7:=f0.idom (.slice ia (wQ (zy blocks)).length ic);have a3:Q w (w6.setCell ⟨C,9,none⟩ (.slice ia (wQ (zy blocks)).length ic)):=(H5.out.1.trans (d3.mono H5.out.1.size)).setCell (by have:=H2.out.2.2.2;simp;omega) _;have h6:=zR (a:=⟨C,9,none⟩) (u:=.slice ia (wQ (zy blocks)).length ic) (zH d3 H5.out.2.1 (lt_of_block H5.out.2.1)) (by have:=H2.out.2.2.2;simp;omega);have o1:=zR (a:=⟨C,9,none⟩) (u:=.slice ia (wQ (zy blocks)).length ic) (zH d3 H5.out.2.2.2.1 (lt_of_block H5.out.2.2.2.1)) (by have:=H5.out.2.2.2.2;simp;omega);have o0:=r3.out.1 _ ((r3.out.2.1.below d3).set (a:=⟨C,9,none⟩) (by have:=r3.out.2.2;have:=H5.out.2.2.2.2.2;simp;omega) (by have:=H5.out.2.2.2.2.2;simp;omega) (.slice ia (wQ (zy blocks)).length ic));generalize A4:w6.setCell ⟨C,9,none⟩ (.slice ia (wQ (zy blocks)).length ic)=W7 at *;have h:=Ja (show Q w W7/\ChkAt W7 C m1 m2 (rC ⟨.slice (some ⟨fb,fo,none⟩) p.funcs.length f2,.slice (some ⟨ab,ao,none⟩) p.args.length a2,.slice d1 p.data.length d2,.slice b1 p.banks.length b2⟩ p) (.slice (some ⟨kb,ko,none⟩) blocks.length bc) (.slice ia (wQ (zy blocks)).length ic) N d/\zY W7 W7.heap.size (.slice ia (wQ (zy blocks)).length ic) (wQ (zy blocks))/\T W7 (w.heap.size+1) #[.slice (some ⟨kb,ko,none⟩) blocks.length bc] 39/\zw (zy blocks) from⟨a3,h7,n4,h6,hv⟩)
    have m3:∀W,Q W7 W->A 21 #[.agg #[L gb gl gl]] W fun e w'=>∃a c,e=.returned (.slice a (vD (zy blocks)).length c)/\Q W w':=fun W hb=>by
     refine(iJ (o0.below hb)).mono ?_;rintro e w' ⟨ov,rfl,ho,hb⟩;obtain⟨a,c,rfl⟩:=zG ho;exact⟨a,c,rfl,hb⟩
    have x0:=Ja m3;have y0:=K0 h6;have y1:=K0 o1;have l0:=lt_of_block h6;have l1:=lt_of_block o1;have k7:=Below.refl W7.heap.size W7;clear d6 d3 f0 v9 vf h3 nC n4 h7 a3 h6 o1 o0 m3 u5 hv A4;obtain⟨qo,k4⟩:∃q,decide ((vD (zy blocks)).length=blocks.length)=q:=⟨_,rfl⟩
    have t1:(((vD (zy blocks)).length:Int) !=(blocks.length:Int))=!qo:=by rw[bne,zl (q:=qo) (zZ k4 Zo)]
    have r1:=Ja k4;clear k4;generalize d7:(vD (zy blocks)).length=ol at *
    go_cut [57] (fun s wx=>s=.bool (!qo)/\Hid (Q W7 wx))
    case first=>
     go_region_held3 (fun w'=>O w' (w.heap.size+1) 0 (.slice (some ⟨kb,ko,none⟩) blocks.length bc)/\O w' g4 0 (L gb gl gl)/\Q W7 w')
      (first
        |(go_split_ands;refine⟨?_,?_,?_⟩<;>assumption)
        |(go_split_ands;refine⟨?_,?_,uG ?_⟩<;>assumption))
      (first|(go_at_call 21;go_must (refine(x0.out _ (by repeat' (first|assumption|(with_reducible refine Below.drew ?_)))).mono ?_;rintro e w2 ⟨qa,qc,rfl,b6⟩;have t:Q W7 w2:=Below.trans (by repeat' (first|assumption|(with_reducible refine Below.drew ?_))) (b6.mono (Below.size (B:=W7.heap.size) (w:=W7) (by repeat' (first|assumption|(with_reducible refine Below.drew ?_)))));have C9:O w2 (w.heap.size+1) 0 (.slice (some ⟨kb,ko,none⟩) blocks.length bc):=zV t l0 y0;have C8:O w2 g4 0 (L gb gl gl):=zV t l1 y1)))
     all_goals
      go_wp2_with fail;go_meet;exact⟨rfl,Ja (by repeat' (first|assumption|(with_reducible refine Below.drew ?_)))⟩
    case rest=>
     obtain⟨rfl,HB⟩:=hcut
     cases qo with
     |false=>
      have hr:res=false:=by
       rw[f6.out,Option.map_some,Ot];unfold iM;rw[d7,r1.out];rfl
      go_wp2;go_ret
      exact⟨uz hr,h.out.1.trans (HB.out.mono h.out.1.size)⟩
     |true=>
      have hr:res=tO d (zy blocks) blocks 0:=by
       rw[f6.out,Option.map_some,Ot];unfold iM;rw[d7,r1.out];rfl
      have b3:=jl h.out.2.2.2.2 (by rw[d7,xu];exact of_decide_eq_true r1.out);have f5:=Ja (Jb hr b3);have y2:O wc (w.heap.size+1) 0 (.slice (some ⟨kb,ko,none⟩) blocks.length bc):=zV HB.out l0 y0;clear hr b3 y0 y1 k7 t1 d7;go_wp2
      go_loopw [61] (fun iv wx=>∃i:Nat,i<=blocks.length/\iv=I i/\Hid (Q W7 wx/\tO d (zy blocks) (blocks.take i) 0=true)) (fun iv _=>blocks.length-(intOf iv).toNat)
      case atStart=>exact⟨0,Jt _,rfl,Ja ⟨HB.out,rfl⟩⟩
      case round=>
       obtain⟨i,hi,rfl,HI⟩:=hrel
       by_cases h4:i<blocks.length
       ·have w5:(i:Int)<blocks.length:=Zo;have i0:=Ja h4;obtain⟨bx,d0⟩:∃bx,blocks[i]? =some bx:=⟨_,Jd h4⟩
        obtain⟨b',o',e',b5,t6,t5,n3,D1,ov2,D0,e8,s9,s8,e7,m4,k0⟩:=j.out.2.1.get d0;cases e';obtain⟨g7,g6,rfl,l3,k6⟩:=e7.form;obtain⟨oa,oc,rfl,x5,x4⟩:=m4.form;obtain⟨ta,tc,rfl,x3,x2⟩:=k0.form;have D2:bx.ops.length<=9223372036854775807:=Zo;have l:Below B w wr:=(h.out.1.mono m.out.2.1).trans (HI.out.1.mono (Jn m.out.2.1 h.out.1.size));have e0:=zV l b5 e8;have e1:=zV l b5 s9;have e2:=zV l b5 t6;have e3:=zV l b5 t5;have e4:=zV l b5 s8;have a0:=Ja (show blocks[i]? =some bx/\mN w B (.slice oa bx.ops.length oc) bx.ops/\wH w B (.slice ta bx.term.to.length tc) bx.term.to/\(I64 bx.term.kind/\I64 bx.term.a)/\(bx.params.length<=2000000/\bx.ops.length<=2000000/\bx.term.to.length<=2000000)/\(∀o∈bx.ops,opF p o=true)/\wn blocks bx.term=true from⟨d0,m4,k0,n3,j.out.2.2.1.2 bx (Ji d0),(H3.out.2.2.2.1 bx (Ji d0)).1,(H3.out.2.2.2.1 bx (Ji d0)).2⟩);have j1:=zI (W:=wr) (o:=U #[.slice g7 bx.params.length g6,.slice oa bx.ops.length oc,I bx.term.kind,I bx.term.a,.slice ta bx.term.to.length tc] 36) rfl;have u8:=HI.out.1.alloc HI.out.1.size (U #[.slice g7 bx.params.length g6,.slice oa bx.ops.length oc,I bx.term.kind,I bx.term.a,.slice ta bx.term.to.length tc] 36);clear d0 t6 t5 n3 e8 s9 s8 e7 m4 k0 l3 k6 x5 x4 x3 x2 l h4 y2;go_upto_region 14 with fail;generalize A3:wr.alloc (U #[.slice g7 bx.params.length g6,.slice oa bx.ops.length oc,I bx.term.kind,I bx.term.a,.slice ta bx.term.to.length tc] 36)=W9 at *;generalize z9:wr.heap.size=b9 at *;have z1:=K1 j1;have H9:=Ja (show Q W7 W9/\T W9 b9 #[.slice g7 bx.params.length g6,.slice oa bx.ops.length oc,I bx.term.kind,I bx.term.a,.slice ta bx.term.to.length tc] 36 from⟨u8,j1⟩);clear A3 z9 j1 u8 e0 e1 e2 e3 e4;go_wp2
        go_loopw [69] (fun kv wx=>∃k:Nat,k<=bx.ops.length/\kv=I k/\Hid (Q W9 wx/\xF d (zy blocks) i (bx.ops.take k) 0=true)) (fun kv _=>bx.ops.length-(intOf kv).toNat)
        case atStart=>exact⟨0,Jt _,rfl,Ja ⟨Below.refl _ _,rfl⟩⟩
        case round=>
         obtain⟨k,hk,rfl,HK⟩:=hrel
         by_cases d8:k<bx.ops.length
         ·have r4:(k:Int)<bx.ops.length:=Zo;have r2:=Ja d8;obtain⟨o,ho⟩:∃o,bx.ops[k]? =some o:=⟨_,Jd d8⟩
          obtain⟨qb,qo,rfl,c9,s7,s6,s5,s4,s3,m8,av,s2,q4⟩:=a0.out.2.1.get ho;obtain⟨aa,ac,rfl,q5,q3⟩:=q4.form;have g:Q W7 wr:=H9.out.1.trans (HK.out.1.mono H9.out.1.size);have l:Below B w wr:=(h.out.1.mono m.out.2.1).trans (g.mono (Jn m.out.2.1 h.out.1.size));have c0:=zV l c9 s7;have c1:=zV l c9 s6;have c2:=zV l c9 s5;have c3:=zV l c9 s4;have c4:=zV l c9 s3;have c5:=zV l c9 s2;have b7:=zI (W:=wr) (o:=U #[I o.code,I o.res,I o.a,I o.b,M (o.n:Int),.slice aa o.args.length ac] 27) rfl;have u4:=HK.out.1.alloc HK.out.1.size (U #[I o.code,I o.res,I o.a,I o.b,M (o.n:Int),.slice aa o.args.length ac] 27);have a6:=l.alloc (Jn m.out.2.1 (Jn h.out.1.size g.size)) (U #[I o.code,I o.res,I o.a,I o.b,M (o.n:Int),.slice aa o.args.length ac] 27);have r6:=uses_any o m8 (Jn (Jn m.out.2.1 (Jn h.out.1.size g.size)) Zs) (q4.below zO a6) (aU m.out.2.2.2.1 (a0.out.2.2.2.2.2.1 o (Ji ho)));have HO:=Ja ho;clear ho s7 s6 s5 s4 s3 s2 m8 q4 q5 q3 l g d8 a6 z1;go_upto_region 17 with fail;generalize A2:wr.alloc (U #[I o.code,I o.res,I o.a,I o.b,M (o.n:Int),.slice aa o.args.length ac] 27)=WA at *;generalize z7:wr.heap.size=bA at *;have B9:=K0 b7;have B8:=K1 b7;have B7:=K2 b7;have B6:=K3 b7;have B5:=K4 b7;have B4:=K5 b7;have v1:=Ja r6;have d5:=Ja u4;clear r6 u4 b7 A2 z7 c0 c1 c2 c3 c4 c5;obtain⟨q,hq⟩:∃q,(rR o).all (yy d (zy blocks) i k)=q:=⟨_,rfl⟩
          have HQ:=Ja hq;clear hq
          have f4:∀W lv,Q WA W->zY W W.heap.size lv (rR o)->A 64 #[G C,lv,I i,I k] W (ym W q):=fun W lv hb hin=>by
           have a3:Q W7 W:=H9.out.1.trans ((d5.out.trans (hb.mono d5.out.size)).mono H9.out.1.size);rw[<-HQ.out];exact qI (h.out.2.1.below a3) h.out.2.2.2.2 f5.out.2 (by rw[xu];exact j.out.2.2.1.1) ((h.out.2.2.1.below zO a3).mono zO a3.size) (fun v b hv=>by rw[xu];exact rN HR.out v b hv) hin i (by rw[xu];exact i0.out) k (qL (Jn hk (Jn a0.out.2.2.2.2.1.2.1 Zd)))
          have i1:=Ja f4;clear f4
          cases q with
          |false=>
           go_wp2_with (first|(go_at_call 65;go_must (refine v1.out.mono ?_;rintro e wu ⟨uv,rfl,g8,b4⟩))|(go_at_call 64;go_must (refine(i1.out _ _ b4 g8).mono ?_;rintro e wd ⟨rfl,a5⟩))|go_in)
           go_ret
           have hr:res=false:=by
            rw[f5.out.1];refine pH a0.out.1 ?_;unfold aaC;rw[ik HO.out HQ.out];rfl
           have A8:Q W7 wd:=H9.out.1.trans ((d5.out.trans ((b4.trans (a5.mono b4.size)).mono d5.out.size)).mono H9.out.1.size)
           exact⟨uz hr,h.out.1.trans (A8.mono h.out.1.size)⟩
          |true=>
           go_wp2_with (first|(go_at_call 65;go_must (refine v1.out.mono ?_;rintro e wu ⟨uv,rfl,g8,b4⟩))|(go_at_call 64;go_must (refine(i1.out _ _ b4 g8).mono ?_;rintro e wd ⟨rfl,a5⟩))|go_in)
           have HN:=Ja (d5.out.trans ((b4.trans (a5.mono b4.size)).mono d5.out.size));clear b4 a5 g8;go_roundw
           case rel=>
            have g5:=Ja (show Q W9 wd/\xF d (zy blocks) i (bx.ops.take (k+1)) 0=true from⟨HN.out,by rw[gZ HO.out,HK.out.2,HQ.out];rfl⟩)
            (repeat apply Exists.intro);exact⟨⟨k+1,r2.out,by go_num,g5⟩,rfl⟩
           case measure=>have:=r2.out;simp[intOf];omega
         ·obtain rfl:k=bx.ops.length:=by omega
          have r4:¬(bx.ops.length:Int)<bx.ops.length:=Zo;have g:Q W7 wr:=H9.out.1.trans (HK.out.1.mono H9.out.1.size);have a6:Below B w wr:=(h.out.1.mono m.out.2.1).trans (g.mono (Jn m.out.2.1 h.out.1.size));have c8:=zH HK.out.1 H9.out.2 (lt_of_block H9.out.2);have g0:=HK.out.2;rw[Nl] at g0;have z2:=K1 c8;have z3:=K2 c8;have z4:=K3 c8;have z5:=K4 c8;have l9:=lt_of_block c8;have k9:=Below.refl wr.heap.size wr;obtain⟨q,hq⟩:∃q,(mE bx.term).all (yy d (zy blocks) i bx.ops.length)=q:=⟨_,rfl⟩
          have u2:∀W,Q wr W->A 66 #[.agg #[I bx.term.kind,I bx.term.a,.slice ta bx.term.to.length tc]] W (wG W (mE bx.term)):=fun W hb=>
           ends_any bx.term a0.out.2.2.2.1 (Jn (Jn m.out.2.1 (Jn h.out.1.size g.size)) hb.size) (a0.out.2.2.1.below xL (a6.trans (hb.mono (Jn m.out.2.1 (Jn h.out.1.size g.size))))) ⟨a0.out.2.2.2.2.1.2.2,lD j.out.2.2.1 a0.out.2.2.2.2.2.2⟩
          have f4:∀W lv,Q wr W->zY W W.heap.size lv (mE bx.term)->A 64 #[G C,lv,I i,I (bx.ops.length:Int)] W (ym W q):=fun W lv hb hin=>by
           have a3:Q W7 W:=g.trans (hb.mono g.size);rw[<-hq];exact qI (h.out.2.1.below a3) h.out.2.2.2.2 f5.out.2 (by rw[xu];exact j.out.2.2.1.1) ((h.out.2.2.1.below zO a3).mono zO a3.size) (fun v b hv=>by rw[xu];exact rN HR.out v b hv) hin i (by rw[xu];exact i0.out) _ (qL (Jn a0.out.2.2.2.2.1.2.1 Zd))
          have A9:=Ja u2;have i1:=Ja f4;have HQ:=Ja (show aaC d (zy blocks) bx i=q from by unfold aaC;rw[g0,hq];rfl);have i8:=Ja g;clear hq u2 f4 g0 c8 a6 g d8 z1;go_wp2_with fail
          go_cut [91] (fun s wx=>s=.bool (!q)/\Hid (Q wr wx))
          case first=>
           go_region_held3 (fun w'=>O w' b9 1 (.slice oa bx.ops.length oc)/\O w' b9 2 (I bx.term.kind)/\O w' b9 3 (I bx.term.a)/\O w' b9 4 (.slice ta bx.term.to.length tc)/\Q wr w')
            (first
              |(go_split_ands;refine⟨?_,?_,?_,?_,?_⟩<;>assumption)
              |(go_split_ands;refine⟨?_,?_,?_,?_,uG ?_⟩<;>assumption))
            (first
              |(go_at_call 66;go_must (refine(A9.out _ (by repeat' (first|assumption|(with_reducible refine Below.drew ?_)))).mono ?_;rintro e w2 ⟨ev,rfl,y4,b6⟩;have t:Below wr.heap.size wr w2:=Below.trans (by repeat' (first|assumption|(with_reducible refine Below.drew ?_))) (b6.mono (Below.size (B:=wr.heap.size) (w:=wr) (by repeat' (first|assumption|(with_reducible refine Below.drew ?_)))));have C3:=zV t l9 z2;have C2:=zV t l9 z3;have C1:=zV t l9 z4;have C0:=zV t l9 z5))
              |(go_at_call 64;go_must (refine(i1.out _ _ (by repeat' (first|assumption|(with_reducible refine Below.drew ?_))) y4).mono ?_;rintro e w4 ⟨rfl,d4⟩;have c7:Below wr.heap.size wr w4:=Below.trans (by repeat' (first|assumption|(with_reducible refine Below.drew ?_))) (d4.mono (Below.size (B:=wr.heap.size) (w:=wr) (by repeat' (first|assumption|(with_reducible refine Below.drew ?_)))));have C7:=zV c7 l9 z2;have C6:=zV c7 l9 z3;have C5:=zV c7 l9 z4;have C4:=zV c7 l9 z5)))
           all_goals
            go_wp2_with fail;go_meet;exact⟨rfl,Ja (by repeat' (first|assumption|(with_reducible refine Below.drew ?_)))⟩
          case rest=>
           obtain⟨rfl,v6⟩:=hcut
           cases q with
           |false=>
            have hr:=Ja (show res=false by rw[f5.out.1];exact pH a0.out.1 HQ.out);go_wp2;go_ret
            exact⟨uz hr.out,h.out.1.trans ((i8.out.trans (v6.out.mono i8.out.size)).mono h.out.1.size)⟩
           |true=>
            go_wp2;go_roundw
            case rel=>
             have g5:=Ja (show Q W7 wc/\tO d (zy blocks) (blocks.take (i+1)) 0=true from⟨i8.out.trans (v6.out.mono i8.out.size),by rw[mz a0.out.1,HI.out.2,HQ.out];rfl⟩)
             (repeat apply Exists.intro);exact⟨⟨i+1,i0.out,by go_num,g5⟩,rfl⟩
            case measure=>have:=i0.out;simp[intOf];omega
       ·obtain rfl:i=blocks.length:=by omega
        have w5:¬(blocks.length:Int)<blocks.length:=Zo;have b3:=HI.out.2;rw[Nl] at b3;have hr:=Ja (f5.out.1.trans b3);clear b3 h4 y2;go_wp2;go_ret;exact⟨uz hr.out,h.out.1.trans (HI.out.1.mono h.out.1.size)⟩
end Go.Proofs.Ytoahcpkibpomcaa
