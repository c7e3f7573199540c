/- Part of a proof. -/
import Derived.Test.YtoahcpkibpomcaaGreatGZw6
import Derived.Test.YtoahcpkibpomcaaGreatIOper2
set_option linter.all false
set_option maxHeartbeats 8000000
set_option maxRecDepth 100000
namespace Go.Proofs.YtoahcpkibpomcaaGreat
open Go.RowKit
variable {w:World}{C j k m m1 m2 n':Nat}{i:Int}{g:List (List Nat)}{c:Value}{d d1:wO}{bl blocks:List IBlk}{o:IOp}{l:List IOp}
theorem ju{p:IProg}(o:IOp)(ho:qN o)(ar:Option Addr)(g:Nat)(hs:zi o.code=⟨false,false,false,false,false⟩):
 A 138 #[Q C,opV o (.slice ar o.args.length g)] w (ym w (opF p o)):=by
 unfold opV;obtain⟨j,h,l,k,i⟩:=ho;have e:opF p o=false:=by unfold opF;rw[hs];rfl
 rw[e];have hf:∀W,A 142 #[I o.code] W fun e w'=>e=.returned (.tuple #[.agg #[.bool false,.bool false,.bool false,.bool false],.bool false])/\O W w':=fun W=>by have:=yu o.code W;rw[hs] at this;exact this
 have q:=Ja hf;clear hf hs e;go_enter Tryz.func138,Tryz.ntmps138;go_wp2_with (first|(go_at_call 142;go_must (refine(q.out _).mono ?_;rintro e w1 ⟨rfl,c⟩;have d:=Ja c;clear c))|go_in)
 go_ret;exact⟨rfl,(((Below.refl _ _).alloc (Je _) _).trans (d.out.mono Zs)).alloc (by have m:=d.out.size;simp at m;omega) _⟩
theorem oper_any{B:Nat}{V:PV}{tl:List Value}{p:IProg}(hp:ProgIn w B V p)(hB:B<=w.heap.size)(k:L w C (rC V p++tl).toArray 173)(hl:p.args.length=p.funcs.length)(o:IOp)(ho:qN o)(ar:Option Addr)(c:Nat)(d:o.args.length<=c/\c<=9223372036854775807):
 A 138 #[Q C,opV o (.slice ar o.args.length c)] w (ym w (opF p o)):=by
 by_cases i:o.code=26
 ·exact kM hp hB k hl o ho ar c d i
 by_cases h2:o.code=2
 ·exact jo hp hB k hl o ho ar c d h2
 by_cases j:o.code=24
 ·exact oper_in (pvs:=[]) o ho ar c d j
 by_cases g:o.code=25
 ·exact oper_out (pvs:=[]) o ho ar c d g
 rcases rJ o.code with⟨h,e⟩|⟨h,e⟩|⟨h,e⟩|⟨h,e⟩|⟨h,e⟩|⟨h,e⟩|⟨h,e⟩|⟨h,e⟩
 ·exact kG (pvs:=[]) o ho ar c d e i h2 j g
 ·exact oper_una (pvs:=[]) o ho ar c d e i h2 j g
 ·exact oper_bin (pvs:=[]) o ho ar c d e i h2 j g
 ·exact oper_sto (pvs:=[]) o ho ar c d e i h2 j g
 ·exact oper_rom (pvs:=[]) o ho ar c d e i h2 j g
 ·exact absurd h g
 ·exact kY (pvs:=[]) o ho ar c d e i h2 j g
 ·exact ju o ho ar c e
theorem cnt_lt{i:Nat}(hi:i<=2000000)(c:j<=2000000):i*4000000+j<9000000000000000000:=by omega
theorem cnt_lt2{i:Nat}(hi:i<=2000000)(c:j<=2000000):i*4000000+2000000+j<9000000000000000000:=by omega
theorem cnt_0 (i:Nat):i*4000000<=i*4000000+0:=by omega
theorem cnt_1 (i j:Nat):i*4000000+j+1<=i*4000000+(j+1):=by omega
theorem cnt_2{i:Nat}(h:j<=2000000):i*4000000+j<=i*4000000+2000000+0:=by omega
theorem cnt_3 (i j:Nat):i*4000000+2000000+j+1<=i*4000000+2000000+(j+1):=by omega
theorem cnt_3' (i j:Nat):i*4000000+2000000+j<=i*4000000+2000000+(j+1):=by omega
theorem cnt_4{i:Nat}(h:j<=2000000):i*4000000+2000000+j<=(i+1)*4000000:=by omega
theorem wA.le{b n:Nat}{g:Int->Option Int}(h:wA w b n g)(d:n<=n'):wA w b n' g:=by
 obtain⟨D,⟨es,c,k1,k2,k3,k4⟩,k5⟩:=h;exact⟨D,⟨es,c,k1,k2,Jn k3 d,k4⟩,k5⟩
theorem ChkAt.le{pv:List Value}{g:Value}{n:Nat}(h:ChkAt w C m1 m2 pv g c n d)(i:n<=n'):ChkAt w C m1 m2 pv g c n' d:=
 ⟨h.blk,h.plen,h.map1.le i,h.map2.le i,h.ne,h.dom⟩
theorem qL {n:Nat}(h:n<=9000000):I64 (n:Int):=⟨by omega,by omega⟩
theorem blkF_eq{p:IProg}{b:IBlk}{d2:wO}(h1:vJ i b.params d=some d1)(h2:sS p i b.ops 0 d1=some d2):pS p bl i b d=if ro bl b.term then some d2 else none:=by
 unfold pS;rw[h1,Nw,h2,Nw]
theorem mS{p:IProg}{b:IBlk}(h1:vJ i b.params d=none):pS p bl i b d=none:=by
 unfold pS;rw[h1];rfl
theorem mm{p:IProg}{b:IBlk}(h1:vJ i b.params d=some d1)(h2:sS p i b.ops 0 d1=none):pS p bl i b d=none:=by
 unfold pS;rw[h1,Nw,h2];rfl
theorem lM{B:Nat}{V:PV}{p:IProg}{g2 d0:Value}(hp:ProgIn w B V p)(g1:wX w B g2 blocks)(hB:B<=w.heap.size)(h1:B<=m1)(h2:B<=m2)(hl:p.args.length=p.funcs.length)(hs:vZ blocks)
 (hc:ChkAt w C m1 m2 (rC V p) g2 d0 0 aeG):
 A 117 #[Q C] w (ShpPost w C m1 m2 (rC V p) g2 d0 (wg p blocks)):=by
 obtain⟨fa,fc,rfl,n1,n0⟩:=g1.form;have o9:blocks.length<=9223372036854775807:=Zo;have l2:=Ja g1;have m:=Ja (show ProgIn w B V p/\B<=w.heap.size/\B<=m1/\B<=m2/\p.args.length=p.funcs.length/\vZ blocks from⟨hp,hB,h1,h2,hl,hs⟩);have p0:=Ja hc.ne1;have p1:=Ja (Jb hc.map1.lt hc.map2.lt);have n7:=Ja hc;obtain⟨res,e5⟩:∃x,wg p blocks=x:=⟨_,rfl⟩
 rw[e5];have t:=Ja e5;have y6:T w C 6 (.slice fa blocks.length fc):=zA hc.blk rfl;clear hp g1 hB h1 h2 hl hs hc e5 n1 n0;go_enter Tryz.func117,Tryz.ntmps117;go_wp2
 go_loopw [15] (fun kv wx=>∃i:Nat,i<=blocks.length/\kv=I i/\Hid (Kept m1 m2 w wx/\∃d,ChkAt wx C m1 m2 (rC V p) (.slice fa blocks.length fc) d0 (i*4000000) d/\uH p blocks (blocks.take i) 0 aeG=some d)) (fun kv _=>blocks.length-(intOf kv).toNat)
 case atStart=>exact⟨0,Jt _,rfl,Ja ⟨Kept.refl _ _ _,aeG,n7.out,rfl⟩⟩
 case round=>
  obtain⟨i,hi,rfl,HI⟩:=hrel
  by_cases e8:i<blocks.length
  ·have l4:(i:Int)<blocks.length:=Zo;have l1:=Ja e8;obtain⟨bx,b1⟩:∃bx,blocks[i]? =some bx:=⟨_,Jd e8⟩
   obtain⟨fb,fo,rfl,d3,k3,a6,f9,pv,ov,tv,k0,j2,j1,f5,f7,f4⟩:=l2.out.get b1;obtain⟨pa,pc,rfl,m3,l9⟩:=f5.form;obtain⟨oa,oc,rfl,m5,m4⟩:=f7.form;obtain⟨ta,tc,rfl,l8,l7⟩:=f4.form;have o4:bx.params.length<=9223372036854775807:=Zo;have o5:bx.ops.length<=9223372036854775807:=Zo;have g:Below B w wr:=HI.out.1.below m.out.2.2.1 m.out.2.2.2.1 m.out.2.1;have e0:=zV g d3 k0;have e1:=zV g d3 j2;have e2:=zV g d3 k3;have e3:=zV g d3 a6;have e4:=zV g d3 j1;have u:=Ja (show blocks[i]? =some bx/\zY w B (.slice pa bx.params.length pc) bx.params/\mN w B (.slice oa bx.ops.length oc) bx.ops/\wH w B (.slice ta bx.term.to.length tc) bx.term.to/\(I64 bx.term.kind/\I64 bx.term.a) from⟨b1,f5,f7,f4,f9⟩);obtain⟨d,h,c⟩:=HI.out.2;have k4:=h.below ((Below.refl wr.heap.size wr).alloc (Je _) (G #[.slice pa bx.params.length pc,.slice oa bx.ops.length oc,I bx.term.kind,I bx.term.a,.slice ta bx.term.to.length tc] 84));have l0:=Ja (Jb h.map1.lt h.map2.lt);have a1:=Ja c;have f3:=zI (W:=wr) (o:=G #[.slice pa bx.params.length pc,.slice oa bx.ops.length oc,I bx.term.kind,I bx.term.a,.slice ta bx.term.to.length tc] 84) rfl;have k2:=HI.out.1.trans (Kept.of ((Below.refl wr.heap.size wr).alloc (Je _) (G #[.slice pa bx.params.length pc,.slice oa bx.ops.length oc,I bx.term.kind,I bx.term.a,.slice ta bx.term.to.length tc] 84)));clear b1 k3 a6 f9 k0 j2 j1 f5 f7 f4 m3 l9 m5 m4 l8 l7 g h c e8 y6;go_upto_region 4 with fail;generalize n4:wr.alloc (G #[.slice pa bx.params.length pc,.slice oa bx.ops.length oc,I bx.term.kind,I bx.term.a,.slice ta bx.term.to.length tc] 84)=W1 at *;generalize l:wr.heap.size=b4 at *;have z0:=K0 f3;have d4:=Ja (show L W1 b4 #[.slice pa bx.params.length pc,.slice oa bx.ops.length oc,I bx.term.kind,I bx.term.a,.slice ta bx.term.to.length tc] 84/\b4≠m1/\b4≠m2 from⟨f3,by have:=l0.out.1;omega,by have:=l0.out.2;omega⟩);have g6:=Ja k2;have n6:=Ja k4;have d5:=Ja (m.out.2.2.2.2.2.2 bx (Ji u.out.1));have f1:=Ja (show i<=2000000 from Jn hi m.out.2.2.2.2.2.1);clear n4 l f3 k4 k2 e0 e1 e2 e3 e4;go_wp2
   go_loopw [23] (fun jv wx=>∃j:Nat,j<=bx.params.length/\jv=I j/\Hid (Kept m1 m2 W1 wx/\∃d',ChkAt wx C m1 m2 (rC V p) (.slice (some ⟨fb,fo,none⟩) blocks.length fc) d0 (i*4000000+j) d'/\vJ i (bx.params.take j) d=some d')) (fun jv _=>bx.params.length-(intOf jv).toNat)
   case atStart=>exact⟨0,Jt _,rfl,Ja ⟨Kept.refl _ _ _,d,n6.out.le (cnt_0 i),rfl⟩⟩
   case round=>
    obtain⟨j,hj,rfl,HJ⟩:=hrel
    by_cases a9:j<bx.params.length
    ·have h7:(j:Int)<bx.params.length:=Zo;have g5:=Ja a9;obtain⟨v,hv⟩:∃v,bx.params[j]? =some v:=⟨_,Jd a9⟩
     obtain⟨qb,qo,rfl,y,e7,b5⟩:=u.out.2.1.get hv;rw[Nk] at e7;have g:Below B w wr:=(g6.out.trans HJ.out.1).below m.out.2.2.1 m.out.2.2.2.1 m.out.2.1;have cv:=zV g y e7;obtain⟨d',h,c⟩:=HJ.out.2;have HV:=Ja (show bx.params[j]? =some v/\vJ i (bx.params.take j) d=some d' from⟨hv,c⟩);have c7:I64 (i:Int):=qL (by have:=f1.out;omega);have b9:I64 (-1):=⟨by omega,by omega⟩
     cases a0:rB d' v i (-1) with
     |none=>
      have HD:=Ja a0;have c9:=Ja (oK h v i (-1) b5 c7 b9 a0);clear hv e7 y g h c a0 c7 b9 a9 b5 z0;go_wp2_with (go_at_call 137;go_must (refine c9.out.mono ?_;intro e w1 hh;obtain⟨rfl,hw⟩:=hh;rw[hw];clear hw))
      go_ret;refine⟨?_,g6.out.trans HJ.out.1,fun d2 hd2=>?_⟩
      ·rw[<-t.out,wS,abe u.out.1 a1.out (mS (qr HV.out.1 HV.out.2 HD.out))];rfl
      ·rw[<-t.out,wS,abe u.out.1 a1.out (mS (qr HV.out.1 HV.out.2 HD.out))] at hd2;cases hd2
     |some d2=>
      have HD:=Ja a0;have c9:=Ja (qk h (cnt_lt f1.out (Jn hj d5.out.1)) v i (-1) b5 c7 b9 a0);clear hv e7 y g h c a0 c7 b9 a9 b5 z0;go_wp2_with (go_at_call 137;go_must (refine c9.out.mono ?_;rintro e w1 ⟨rfl,b0,a6⟩))
      have d7:=Ja (Jb b0 a6);clear b0 a6;go_roundw
      case rel=>exact⟨j+1,g5.out,by go_num,Ja ⟨HJ.out.1.trans d7.out.2,d2,d7.out.1.le (cnt_1 i j),(aC HV.out.1 HV.out.2).trans HD.out⟩⟩
      case measure=>have:=g5.out;simp[intOf];omega
    ·obtain rfl:j=bx.params.length:=by omega
     have h7:¬(bx.params.length:Int)<bx.params.length:=Zo;obtain⟨d1,h,c⟩:=HJ.out.2;rw[Nl] at c;have g8:=Ja c;have f2:=Ja h;have a2:=HJ.out.1.blk d4.out.1 d4.out.2.1 d4.out.2.2;have z1:=K1 a2;have n5:=Ja a2;have b3:=Ja (g6.out.trans HJ.out.1);clear h c a9 a2 z0;generalize wr=W2 at *;go_wp2
     go_loopw [36] (fun kv wx=>∃k:Nat,k<=bx.ops.length/\kv=I k/\Hid (Kept m1 m2 W2 wx/\∃d',ChkAt wx C m1 m2 (rC V p) (.slice (some ⟨fb,fo,none⟩) blocks.length fc) d0 (i*4000000+2000000+k) d'/\sS p i (bx.ops.take k) 0 d1=some d')) (fun kv _=>bx.ops.length-(intOf kv).toNat)
     case atStart=>exact⟨0,Jt _,rfl,Ja ⟨Kept.refl _ _ _,d1,f2.out.le (cnt_2 d5.out.1),rfl⟩⟩
     case round=>
      obtain⟨k,hk,rfl,HK⟩:=hrel
      by_cases b7:k<bx.ops.length
      ·have h6:(k:Int)<bx.ops.length:=Zo;have c8:=Ja b7;obtain⟨o,ho⟩:∃o,bx.ops[k]? =some o:=⟨_,Jd b7⟩
       obtain⟨qb,qo,rfl,y,i9,i2,i1,i0,h9,f8,av,h8,k6⟩:=u.out.2.2.1.get ho;obtain⟨aa,ac,rfl,k7,k5⟩:=k6.form;have g:Below B w wr:=(b3.out.trans HK.out.1).below m.out.2.2.1 m.out.2.2.2.1 m.out.2.1;have c0:=zV g y i9;have c1:=zV g y i2;have c2:=zV g y i1;have c3:=zV g y i0;have c4:=zV g y h9;have c5:=zV g y h8;obtain⟨d',h,c⟩:=HK.out.2;have HV:=Ja (show bx.ops[k]? =some o/\sS p i (bx.ops.take k) 0 d1=some d' from⟨ho,c⟩);have g3:=Ja (show(I64 o.code/\I64 o.res/\I64 o.a/\I64 o.b/\o.n<65536)/\o.args.length<=ac/\ac<=9223372036854775807 from⟨f8,k7,k5⟩);have e6:=(Below.refl wr.heap.size wr).alloc (Je _) (G (D o aa ac) 76);have a3:=zI (W:=wr) (o:=G (D o aa ac) 76) rfl;have k1:=HK.out.1.trans (Kept.of e6);have g0:=h.below e6;have b1:Below B w (wr.alloc (G (D o aa ac) 76)):=g.alloc (Jn m.out.2.1 g.size) _;have g4:=Ja (Jb h.map1.lt h.map2.lt);clear ho i9 i2 i1 i0 h9 h8 f8 k6 k7 k5 g h c b7 z1;go_upto_region 13 with fail;generalize n3:wr.alloc (G (D o aa ac) 76)=W3 at *;generalize n2:wr.heap.size=b8 at *;have o3:=K0 a3;have o2:=K1 a3;have o1:=K2 a3;have o0:=K3 a3;have n9:=K4 a3;have n8:=K5 a3;have f6:=oper_any (m.out.1.below b1) (Jn m.out.2.1 b1.size) g0.blk m.out.2.2.2.2.1 o g3.out.1 aa ac g3.out.2;unfold opV at f6;have d6:=Ja f6;have f0:=Ja k1;have h4:=Ja g0;have b2:=Ja a3;have p3:=Ja (show b8≠m1/\b8≠m2 from⟨by have:=g4.out.1;omega,by have:=g4.out.2;omega⟩);clear f6 k1 g0 a3 n3 n2 b1 e6 c0 c1 c2 c3 c4 c5;obtain⟨q,hq⟩:∃q,opF p o=q:=⟨_,rfl⟩
       rw[hq] at d6;have HQ:=Ja hq;clear hq
       cases q with
       |false=>
        go_wp2_with (first|(go_at_call 138;go_must (refine d6.out.mono ?_;rintro e w4 ⟨rfl,l⟩))|go_in)
        go_ret
        have a5:wg p blocks=none:=by
         rw[wS];exact abe u.out.1 a1.out (mm g8.out (oR HV.out.1 HV.out.2 (by unfold ug;rw[HQ.out];rfl)))
        refine⟨?_,(b3.out.trans f0.out).trans (Kept.of l),fun d2 hd2=>?_⟩
        ·rw[<-t.out,a5];rfl
        ·rw[<-t.out,a5] at hd2;cases hd2
       |true=>
        by_cases hr:0<=o.res
        ·have t1:decide (0<=o.res)=true:=decide_eq_true hr;have HR:=Ja hr;obtain⟨r,a0⟩:∃r,rB d' o.res i k=r:=⟨_,rfl⟩
         have HD:=Ja a0;have h64:=Ja (show I64 o.res/\I64 (i:Int)/\I64 (k:Int) from⟨g3.out.1.2.1,qL (Jn f1.out Zd),qL (Jn (Jn hk d5.out.2.1) Zd)⟩);clear hr a0
         cases r with
         |none=>
          go_wp2_with (first|(go_at_call 138;go_must (refine d6.out.mono ?_;rintro e w4 ⟨rfl,l⟩;have a7:=h4.out.below l;have a4:=zH l b2.out (lt_of_block b2.out);have u1:=K1 a4;have a8:=Ja (Jb a7 l);clear a7 l a4))|(go_at_call 137;go_must (refine(oK a8.out.1 o.res i k h64.out.1 h64.out.2.1 h64.out.2.2 HD.out).mono ?_;intro e w5 hh;obtain⟨rfl,hw⟩:=hh;rw[hw];clear hw))|go_in)
          go_ret
          have a5:wg p blocks=none:=by
           rw[wS];exact abe u.out.1 a1.out (mm g8.out (oR HV.out.1 HV.out.2 (by unfold ug;rw[HQ.out,if_pos rfl,if_pos HR.out,HD.out])))
          refine⟨?_,(b3.out.trans f0.out).trans (Kept.of a8.out.2),fun d2 hd2=>?_⟩
          ·rw[<-t.out,a5];rfl
          ·rw[<-t.out,a5] at hd2;cases hd2
         |some d2=>
          go_wp2_with (first|(go_at_call 138;go_must (refine d6.out.mono ?_;rintro e w4 ⟨rfl,l⟩;have a7:=h4.out.below l;have a4:=zH l b2.out (lt_of_block b2.out);have u1:=K1 a4;have a8:=Ja (Jb a7 l);clear a7 l a4))|(go_at_call 137;go_must (refine(qk a8.out.1 (cnt_lt2 f1.out (Jn hk d5.out.2.1)) o.res i k h64.out.1 h64.out.2.1 h64.out.2.2 HD.out).mono ?_;rintro e w5 ⟨rfl,b0,a6⟩;have d7:=Ja (Jb b0 a6);clear b0 a6))|go_in)
          go_roundw
          case rel=>exact⟨k+1,c8.out,by go_num,Ja ⟨(f0.out.trans (Kept.of a8.out.2)).trans d7.out.2,d2,d7.out.1.le (cnt_3 i k),(cK HV.out.1 HV.out.2).trans (by unfold ug;rw[HQ.out,if_pos rfl,if_pos HR.out,HD.out])⟩⟩
          case measure=>have:=c8.out;simp[intOf];omega
        ·have t1:decide (0<=o.res)=false:=decide_eq_false hr;have HR:=Ja hr;clear hr;go_wp2_with (first|(go_at_call 138;go_must (refine d6.out.mono ?_;rintro e w4 ⟨rfl,l⟩;have a7:=h4.out.below l;have a4:=zH l b2.out (lt_of_block b2.out);have u1:=K1 a4;have a8:=Ja (Jb a7 l);clear a7 l a4))|go_in)
         go_roundw
         case rel=>exact⟨k+1,c8.out,by go_num,Ja ⟨f0.out.trans (Kept.of a8.out.2),d',a8.out.1.le (cnt_3' i k),(cK HV.out.1 HV.out.2).trans (by unfold ug;rw[HQ.out,if_pos rfl,if_neg (by have:=HR.out;omega)])⟩⟩
         case measure=>have:=c8.out;simp[intOf];omega
      ·obtain rfl:k=bx.ops.length:=by omega
       have h6:¬(bx.ops.length:Int)<bx.ops.length:=Zo;obtain⟨d2,h,c⟩:=HK.out.2;rw[Nl] at c;have a2:=HK.out.1.blk n5.out d4.out.2.1 d4.out.2.2;have z2:=K2 a2;have z3:=K3 a2;have z4:=K4 a2;have g:Below B w wr:=(b3.out.trans HK.out.1).below m.out.2.2.1 m.out.2.2.2.1 m.out.2.1;have b6:=term_any (l2.out.below yT g) (Jn m.out.2.1 g.size) h.blk rfl bx.term u.out.2.2.2.2 (u.out.2.2.2.1.below xL g);have h5:=Ja (blkF_eq (p:=p) (bl:=blocks) g8.out c);obtain⟨q,hq⟩:∃q,ro blocks bx.term=q:=⟨_,rfl⟩
       rw[hq] at b6 h5;have k9:=Ja b6;have l5:=Ja h;clear h c a2 g b6 hq b7 z1
       cases q with
       |false=>
        go_wp2_with (first|(go_at_call 139;go_must (refine k9.out.mono ?_;rintro e w4 ⟨rfl,l⟩))|go_in)
        go_ret
        have a5:wg p blocks=none:=by
         rw[wS];exact abe u.out.1 a1.out (by rw[h5.out];rfl)
        refine⟨?_,(b3.out.trans HK.out.1).trans (Kept.of l),fun d2 hd2=>?_⟩
        ·rw[<-t.out,a5];rfl
        ·rw[<-t.out,a5] at hd2;cases hd2
       |true=>
        go_wp2_with (first|(go_at_call 139;go_must (refine k9.out.mono ?_;rintro e w4 ⟨rfl,l⟩))|go_in)
        have l3:=Ja l;clear l;go_roundw
        case rel=>exact⟨i+1,l1.out,by go_num,Ja ⟨(b3.out.trans HK.out.1).trans (Kept.of l3.out),d2,(l5.out.below l3.out).le (cnt_4 d5.out.2.1),(lQ u.out.1 a1.out).trans (by rw[h5.out];rfl)⟩⟩
        case measure=>have:=l1.out;simp[intOf];omega
  ·obtain rfl:i=blocks.length:=by omega
   have l4:¬(blocks.length:Int)<blocks.length:=Zo;obtain⟨d,h,c⟩:=HI.out.2;rw[Nl] at c;have f2:=Ja (Jb h c);clear h c e8;go_wp2;go_ret;have hr:res=some d:=by rw[<-t.out,wS,f2.out.2]
   rw[hr];refine⟨rfl,HI.out.1,fun d2 hd2=>?_⟩;cases hd2;exact⟨_,cnt_lt m.out.2.2.2.2.2.1 (Jt _),f2.out.1.le (cnt_0 _)⟩
theorem aU{p:IProg}(g:p.args.all tX=true)(h:opF p o=true):o.args.length<=1000000000000:=by
 unfold opF at h;rw[Jm] at h
 have c:∀i,p.args.getD i 0<=8:=by
  intro i;rw[Jj]
  cases d:p.args[i]? with
  |none=>simp
  |some x=>
   have:=Oe.1 g x (Ji d);unfold tX at this;simp only[Jm,decide_eq_true_eq] at this;exact this.2
 have h2:=h.2
 split at h2
 ·simp only[Jm,decide_eq_true_eq] at h2;have:=c o.a.toNat;omega
 ·split at h2
  ·simp only[Jm,decide_eq_true_eq] at h2;omega
  ·simp only[Jm,decide_eq_true_eq] at h2;omega
theorem qM{e:IEdge}(h:uM blocks e=true):xz blocks e.block∈blocks/\e.args.length=(xz blocks e.block).params.length/\1<=e.block/\e.block.toNat<blocks.length:=by
 unfold uM at h;simp only[Jm,decide_eq_true_eq] at h;refine⟨?_,h.2,h.1.1,by omega⟩;unfold xz;rw[Jj,Jd Zo,Ot];exact Uf _
theorem lD(hs:vZ blocks){t:ITerm}(h:ro blocks t=true):∀e∈t.to,e.args.length<=2000000:=by
 intro e c;unfold ro at h;rw[Jm] at h;obtain⟨h1,h2,_⟩:=qM (Oe.1 h.1 e c);rw[h2];exact(hs.2 _ h1).1
theorem nO(c:blocks≠ [])(h:∀b∈blocks,ro blocks b.term=true):zw (zy blocks):=by
 refine⟨by unfold zy;rw[Nr];exact List.length_pos_iff.2 c,fun l hl s hs=>?_⟩;unfold zy at hl;obtain⟨b,hb,rfl⟩:=Nu.1 hl;obtain⟨e,d,rfl⟩:=Nu.1 hs;have ht:=h b hb;unfold ro at ht;rw[Jm] at ht;have:=(qM (Oe.1 ht.1 e d)).2.2.2;unfold zy;rw[Nr];exact this
theorem graphI_F(h:∀b∈blocks,ro blocks b.term=true):zk blocks=(zy blocks).map (List.map (fun n:Nat=>(n:Int))):=by
 unfold zk zy tW;rw[List.map_map];refine Up fun b hb=>?_
 show b.term.to.map (·.block)=(b.term.to.map fun e=>e.block.toNat).map (fun n:Nat=>(n:Int))
 rw[List.map_map];refine Up fun e he=>?_
 have ht:=h b hb;unfold ro at ht;rw[Jm] at ht;have:=(qM (Oe.1 ht.1 e he)).2.2.1
 show e.block=((e.block.toNat:Nat):Int)
 omega
theorem bU{sv:Value}(hs:vZ blocks)(c:blocks≠ [])(h:∀b∈blocks,ro blocks b.term=true)(hr:aaB zN w w.heap.size sv (zk blocks)):GraphIn w sv (zy blocks):=by
 rw[graphI_F h] at hr;refine⟨(aaB.map (fun n:Nat=>(n:Int)) (fun x=>rfl)).1 hr,nO c h,by unfold zy;rw[Nr];exact hs.1,fun row hrow=>?_⟩;unfold zy at hrow;obtain⟨b,hb,rfl⟩:=Nu.1 hrow;rw[Nr];exact(hs.2 b hb).2.2
theorem xu (blocks:List IBlk):(zy blocks).length=blocks.length:=by simp[zy]
theorem dW:∀ {l m:List Nat},l.Nodup->(∀x∈l,x∈m)->l.length<=m.length
 | [],m,_,_=>Jt _
 |a::l,m,hl,h=>by
  obtain⟨ha,hl⟩:=Qt.1 hl;have hm:=h a (List.mem_cons_self ..);have h2:=dW (m:=m.erase a) hl (fun x hx=>(List.mem_erase_of_ne (fun e=>ha (by rw[<-e];exact hx))).2 (h x (List.mem_cons_of_mem _ hx)));rw[List.length_erase_of_mem hm] at h2;have:=List.length_pos_of_mem hm;rw[Nq];omega
theorem jl(hv:zw g)(h:(vD g).length=g.length):∀x,x<g.length->Reach (GE g) x:=by
 obtain⟨ns,c⟩:=adR hv;rw[c.eq] at h;intro x j;refine(c.mem x).1 ?_;apply Classical.byContradiction;intro k
 have i:=dW (l:=x::0::ns) (m:=List.range g.length) (Qt.2 ⟨k,c.nodup⟩) (fun y d=>by
  rcases Jq.1 d with rfl|d
  ·exact Ol.2 j
  ·exact Ol.2 (c.lt y d))
 rw[Nq,h,Un] at i;omega
theorem mu{d':wO}{v k:Int}(h:rB d v i k=some d')(hi:0<=i/\i.toNat<m)(c:∀x b,d.1 x=some b->0<=b/\b.toNat<m):∀x b,d'.1 x=some b->0<=b/\b.toNat<m:=by
 unfold rB at h
 split at h
 ·cases h
 ·cases h;intro x b hb
  change lS d.1 v i x=some b at hb
  unfold lS at hb
  split at hb
  ·cases hb;exact hi
  ·exact c x b hb
theorem oU(hi:0<=i/\i.toNat<m):∀(l:List Int) (d d':wO),vJ i l d=some d'->(∀x b,d.1 x=some b->0<=b/\b.toNat<m)->∀x b,d'.1 x=some b->0<=b/\b.toNat<m
 | [],d,d',h,hd=>by cases h;exact hd
 |v::l,d,d',h,hd=>by
  unfold vJ at h
  cases h1:rB d v i (-1) with
  |none=>rw[h1] at h;cases h
  |some d1=>rw[h1,Nw] at h;exact oU hi l d1 d' h (mu h1 hi hd)
theorem bP{p:IProg}(hi:0<=i/\i.toNat<m):∀(l:List IOp) (k:Int) (d d':wO),sS p i l k d=some d'->(∀x b,d.1 x=some b->0<=b/\b.toNat<m)->∀x b,d'.1 x=some b->0<=b/\b.toNat<m
 | [],k,d,d',h,hd=>by cases h;exact hd
 |o::l,k,d,d',h,hd=>by
  rw[dG] at h
  cases h1:ug p i k o d with
  |none=>rw[h1] at h;cases h
  |some d1=>
   rw[h1,Nw] at h;refine bP hi l _ d1 d' h ?_;unfold ug at h1
   split at h1
   ·split at h1
    ·exact mu h1 hi hd
    ·cases h1;exact hd
   ·cases h1
theorem oX{p:IProg}:∀(l:List IBlk) (i:Nat) (d d':wO),i+l.length<=m->uH p bl l i d=some d'->(∀x b,d.1 x=some b->0<=b/\b.toNat<m)->∀x b,d'.1 x=some b->0<=b/\b.toNat<m
 | [],i,d,d',_,h,hd=>by cases h;exact hd
 |b::l,i,d,d',hm,h,hd=>by
  simp only[Nq] at hm;unfold uH at h
  cases h1:pS p bl i b d with
  |none=>rw[h1] at h;cases h
  |some d1=>
   rw[h1,Nw] at h;obtain⟨_,d2,h2,h3⟩:=nF h1;have hi:0<=(i:Int)/\((i:Int)).toNat<m:=Zo;exact oX l (i+1) d1 d' Zo (by simpa using h) (bP hi _ _ _ _ h3 (oU hi _ _ _ h2 hd))
theorem rN{p:IProg}(h:wg p bl=some d):∀x b,d.1 x=some b->0<=b/\b.toNat<bl.length:=
 oX bl 0 aeG d Zo h (fun x b hb=>by cases hb)
theorem vE (d:wO)(g:List (List Nat))(i:Int):∀(l m:List IOp) (k:Int),xF d g i (l++m) k=(xF d g i l k && xF d g i m (k+l.length))
 | [],m,k=>by simp[xF]
 |o::l,m,k=>by
  have e:k+1+(l.length:Int)=k+((o::l).length:Int):=by simp;omega
  show((rR o).all (yy d g i k) && xF d g i (l++m) (k+1))=(((rR o).all (yy d g i k) && xF d g i l (k+1)) && _)
  rw[vE d g i l m,e,Bool.and_assoc]
theorem i3 (d:wO)(g:List (List Nat)):∀(l m:List IBlk) (i:Int),tO d g (l++m) i=(tO d g l i && tO d g m (i+l.length))
 | [],m,i=>by simp[tO]
 |b::l,m,i=>by
  have e:i+1+(l.length:Int)=i+((b::l).length:Int):=by simp;omega
  show(aaC d g b i && tO d g (l++m) (i+1))=((aaC d g b i && tO d g l (i+1)) && _)
  rw[i3 d g l m,e,Bool.and_assoc]
theorem gZ(h:l[k]? =some o):xF d g i (l.take (k+1)) 0=(xF d g i (l.take k) 0 && (rR o).all (yy d g i k)):=by
 rw[Nh,h,Option.toList,vE,vS h,Ub];simp[xF]
theorem afi(h:l[k]? =some o)(hf:(rR o).all (yy d g i k)=false):xF d g i l 0=false:=by
 rw[sD h,vE,vS h,Ub]
 show(_ && ((rR o).all (yy d g i k) && _))=false
 rw[hf,Bool.false_and,Uh]
theorem mz{l:List IBlk}{b:IBlk}(h:l[k]? =some b):tO d g (l.take (k+1)) 0=(tO d g (l.take k) 0 && aaC d g b k):=by
 rw[Nh,h,Option.toList,i3,vS h,Ub];simp[tO]
theorem pH{l:List IBlk}{b:IBlk}(h:l[k]? =some b)(hf:aaC d g b k=false):tO d g l 0=false:=by
 rw[sD h,i3,vS h,Ub]
 show(_ && (aaC d g b k && _))=false
 rw[hf,Bool.false_and,Uh]
theorem ChkAt.made{pv:List Value}{d:Value}(j:L w C (pv++ [d,.map (some m1),.map (some m2),c]).toArray 173)(hl:pv.length=6)(h1:w.heap[m1]? =some (.map #[] 0))(h2:w.heap[m2]? =some (.map #[] 0))(g:m1≠m2):
 ChkAt w C m1 m2 pv d c 0 aeG:=by
 have hm:∀m,w.heap[m]? =some (.map #[] 0)->wA w m 0 (fun _=>none):=fun m h=>by
  have h0:=wA.made ({w with heap:=w.heap.extract 0 m });have k:m<w.heap.size:=lt_of_block h;have hs:(w.heap.extract 0 m).size=m:=by simp;omega
  obtain⟨D,⟨es,i,k1,k2⟩,k3⟩:=h0;have e1:(World.alloc {w with heap:=w.heap.extract 0 m } (.map #[] 0)).heap[(w.heap.extract 0 m).size]? =some (.map #[] 0):=zI rfl;rw[e1] at k1;cases k1;exact⟨D,⟨_,_,h,k2⟩,k3⟩
 exact⟨j,hl,hm m1 h1,hm m2 h2,g,fun _=>rfl⟩
theorem ChkAt.idom{n:Nat}{pv:List Value}{g i:Value}(h:ChkAt w C m1 m2 pv g i n d)(iv:Value):ChkAt (w.setCell ⟨C,9,none⟩ iv) C m1 m2 pv g iv n d:=by
 obtain⟨k1,k2⟩:=h.ne1;refine⟨?_,h.plen,h.map1.same (Below.heap_setCell _ _ _ _ (Ne.symm k1)),h.map2.same (Below.heap_setCell _ _ _ _ (Ne.symm k2)),h.ne,h.dom⟩;rw[zD h.blk];have hl:=h.plen
 obtain⟨p0,p1,p2,p3,p4,p5,rfl⟩:∃a b c d e f,pv=[a,b,c,d,e,f]:=by
  match pv,hl with
  | [a,b,c,d,e,f],_=>exact⟨a,b,c,d,e,f,rfl⟩
 rfl
theorem jT(hv:zw g)(h:g.length<=9000000):∀x∈wQ g,I64 x:=by
 intro x d;unfold wQ at d;obtain⟨c,i,rfl⟩:=Nu.1 d;rcases idomOf hv c with⟨h1,_⟩|⟨c',h1,_,h3,_⟩
 ·rw[h1];exact⟨by omega,by omega⟩
 ·have:=(cA hv h3).1;rw[h1];exact⟨by omega,by omega⟩
theorem lp {α:Type}:∀l:List α,l=[]∨∃a m,l=a::m
 | []=> .inl rfl
 |a::m=> .inr ⟨a,m,rfl⟩
theorem nA{B:Nat}{V:PV}{p:IProg}(hp:ProgIn w B V p)(hB:B<=w.heap.size)(hl:p.args.length=p.funcs.length)(ha:p.args.all tX=true)(hs:∀f∈p.funcs,vZ f){n:Nat}(hn:n<p.funcs.length):
 A 69 #[yH V p,I n] w (ym w (yi p n)):=by
 have m:=Ja (show ProgIn w B V p/\B<=w.heap.size/\p.args.length=p.funcs.length/\p.args.all tX=true/\∀f∈p.funcs,vZ f from⟨hp,hB,hl,ha,hs⟩);have C4:=@run_makeMap Tryz.prog;obtain⟨Vf,Va,Vd,Vb⟩:=V;obtain⟨f1,f2,e1,w7,w5⟩:=hp.funcs.form;have l4:=hp.funcs;have l7:=hp.args;obtain⟨a1,a2,e2,o4,o2⟩:=hp.args.form;obtain⟨d1,d2,e3,x0,w9⟩:=hp.data.form;obtain⟨b1,b2,e4,x2,x1⟩:=hp.banks.form;simp only at e1 e2 e3 e4 l4 l7;subst e1 e2 e3 e4;have C5:p.funcs.length<=9223372036854775807:=Zo;have C6:p.args.length<=9223372036854775807:=Zo;obtain⟨blocks,i0⟩:∃bl,p.funcs[n]? =some bl:=⟨_,Jd hn⟩
 obtain⟨x,hx⟩:∃x,p.args[n]? =some x:=⟨_,Jd Zo⟩
 obtain⟨fb,fo,rfl,b3,bv,f8,o0⟩:=l4.get i0;obtain⟨ab,ao,rfl,t3,g0,z7⟩:=l7.get hx;rw[Nk] at f8 g0;obtain⟨ba,bc,rfl,v1,v0⟩:=o0.form;have A2:blocks.length<=9223372036854775807:=Zo;unfold yH;simp only;obtain⟨res,f6⟩:∃x,yi p n=x:=⟨_,rfl⟩
 rw[f6];have o9:=Ja f6;have j:=Ja (show p.funcs[n]? =some blocks/\wX w B (.slice ba blocks.length bc) blocks/\vZ blocks/\p.args[n]? =some x from⟨i0,o0,hs _ (Ji i0),hx⟩);have o1:O w (w.alloc (G (R p (some ⟨fb,fo,none⟩) f2 (some ⟨ab,ao,none⟩) a2 d1 d2 b1 b2) 29)):=(Below.refl _ _).alloc (Je _) _;have cf:=zV o1 (Jy b3 hB) f8;have C2:(n:Int)<p.funcs.length:=Zo;have C3:(n:Int)<p.args.length:=Zo;have u3:=Ja (show ab<B/\T w ab (ao+n) (I x) from⟨t3,g0⟩);have k0:=zI (W:=w) (o:=G (R p (some ⟨fb,fo,none⟩) f2 (some ⟨ab,ao,none⟩) a2 d1 d2 b1 b2) 29) rfl;have k4:(w.alloc (G (R p (some ⟨fb,fo,none⟩) f2 (some ⟨ab,ao,none⟩) a2 d1 d2 b1 b2) 29)).heap.size=w.heap.size+1:=by simp
 clear hp l4 l7 hB hl ha hs hn w7 w5 o4 o2 x0 w9 x2 x1 i0 hx f6 o0 v1 v0 f8 g0 b3 t3;go_enter Tryz.func69,Tryz.ntmps69;go_upto_region 1 with fail;generalize x5:w.alloc (G (R p (some ⟨fb,fo,none⟩) f2 (some ⟨ab,ao,none⟩) a2 d1 d2 b1 b2) 29)=WP at *;have p0:=K0 k0;have s9:O w (WP.alloc (G #[.slice ba blocks.length bc] 39)):=o1.alloc Zo _;have y:=zB (o:=G #[.slice ba blocks.length bc] 39) k0;have k1:L (WP.alloc (G #[.slice ba blocks.length bc] 39)) (w.heap.size+1) #[.slice ba blocks.length bc] 39:=zI k4;have e5:(WP.alloc (G #[.slice ba blocks.length bc] 39)).heap.size=w.heap.size+2:=by simp[k4]
 clear x5 o1 k0;go_upto_region 2 with fail;generalize x6:WP.alloc (G #[.slice ba blocks.length bc] 39)=WF at *;have q0:=K0 k1;clear x6 k4 p0 cf;have t8:=Ja (show O w WF from s9);clear s9;rcases lp blocks with a4|⟨b0,bs,a4⟩
 ·have hr:res=true:=by rw[<-o9.out];unfold yi;rw[Jj,j.out.1,a4];rfl
  have t0:((blocks.length:Int)==0)=true:=by rw[a4];rfl
  clear a4;go_wp2;go_ret;exact⟨uz hr,t8.out⟩
 ·have t0:((blocks.length:Int)==0)=false:=by rw[beq_eq_false_iff_ne,a4,Nq];omega
  have u1:=Ja a4;have A0:(0:Int)<blocks.length:=by rw[a4,Nq];omega
  have h0:blocks[0]? =some b0:=by rw[a4];rfl
  obtain⟨kb,ko,rfl,s0,_,_,_,pv,ov,tv,e7,_,_,e6,_,_⟩:=j.out.2.1.get h0;obtain⟨pa,pc,rfl,l5,l3⟩:=e6.form;have A1:b0.params.length<=9223372036854775807:=Zo;have t6:=Ja (Jb s0 e7);clear a4 h0 s0 e7 e6 l5 l3;have p0:=K0 y;have p1:=K1 y;have p2:=K2 y;have p3:=K3 y;have p4:=K4 y;have p5:=K5 y;go_upto_region 5 with fail;have t4:L (((WF.alloc (.map #[] 0)).alloc (.map #[] 0)).alloc (G #[.slice (some ⟨fb,fo,none⟩) p.funcs.length f2,.slice (some ⟨ab,ao,none⟩) p.args.length a2,I p.entry,I p.handler,.slice d1 p.data.length d2,.slice b1 p.banks.length b2,.slice (some ⟨kb,ko,none⟩) blocks.length bc,.map (some (w.heap.size+2)),.map (some (w.heap.size+2+1)),F] 173)) (w.heap.size+2+1+1) #[.slice (some ⟨fb,fo,none⟩) p.funcs.length f2,.slice (some ⟨ab,ao,none⟩) p.args.length a2,I p.entry,I p.handler,.slice d1 p.data.length d2,.slice b1 p.banks.length b2,.slice (some ⟨kb,ko,none⟩) blocks.length bc,.map (some (w.heap.size+2)),.map (some (w.heap.size+2+1)),F] 173:=zI (by simp[e5]);have r8:(((WF.alloc (.map #[] 0)).alloc (.map #[] 0)).alloc (G #[.slice (some ⟨fb,fo,none⟩) p.funcs.length f2,.slice (some ⟨ab,ao,none⟩) p.args.length a2,I p.entry,I p.handler,.slice d1 p.data.length d2,.slice b1 p.banks.length b2,.slice (some ⟨kb,ko,none⟩) blocks.length bc,.map (some (w.heap.size+2)),.map (some (w.heap.size+2+1)),F] 173)).heap[w.heap.size+2]? =some (.map #[] 0):=zB (zB (zI e5));have r6:(((WF.alloc (.map #[] 0)).alloc (.map #[] 0)).alloc (G #[.slice (some ⟨fb,fo,none⟩) p.funcs.length f2,.slice (some ⟨ab,ao,none⟩) p.args.length a2,I p.entry,I p.handler,.slice d1 p.data.length d2,.slice b1 p.banks.length b2,.slice (some ⟨kb,ko,none⟩) blocks.length bc,.map (some (w.heap.size+2)),.map (some (w.heap.size+2+1)),F] 173)).heap[w.heap.size+2+1]? =some (.map #[] 0):=zB (zI (by simp[e5]));have b4:O w (((WF.alloc (.map #[] 0)).alloc (.map #[] 0)).alloc (G #[.slice (some ⟨fb,fo,none⟩) p.funcs.length f2,.slice (some ⟨ab,ao,none⟩) p.args.length a2,I p.entry,I p.handler,.slice d1 p.data.length d2,.slice b1 p.banks.length b2,.slice (some ⟨kb,ko,none⟩) blocks.length bc,.map (some (w.heap.size+2)),.map (some (w.heap.size+2+1)),F] 173)):=((t8.out.alloc Zo _).alloc Zt _).alloc Zt _;have q3:L (((WF.alloc (.map #[] 0)).alloc (.map #[] 0)).alloc (G #[.slice (some ⟨fb,fo,none⟩) p.funcs.length f2,.slice (some ⟨ab,ao,none⟩) p.args.length a2,I p.entry,I p.handler,.slice d1 p.data.length d2,.slice b1 p.banks.length b2,.slice (some ⟨kb,ko,none⟩) blocks.length bc,.map (some (w.heap.size+2)),.map (some (w.heap.size+2+1)),F] 173)) w.heap.size (R p (some ⟨fb,fo,none⟩) f2 (some ⟨ab,ao,none⟩) a2 d1 d2 b1 b2) 29:=zB (zB (zB y));have n9:L (((WF.alloc (.map #[] 0)).alloc (.map #[] 0)).alloc (G #[.slice (some ⟨fb,fo,none⟩) p.funcs.length f2,.slice (some ⟨ab,ao,none⟩) p.args.length a2,I p.entry,I p.handler,.slice d1 p.data.length d2,.slice b1 p.banks.length b2,.slice (some ⟨kb,ko,none⟩) blocks.length bc,.map (some (w.heap.size+2)),.map (some (w.heap.size+2+1)),F] 173)) (w.heap.size+1) #[.slice (some ⟨kb,ko,none⟩) blocks.length bc] 39:=zB (zB (zB k1));have q6:(((WF.alloc (.map #[] 0)).alloc (.map #[] 0)).alloc (G #[.slice (some ⟨fb,fo,none⟩) p.funcs.length f2,.slice (some ⟨ab,ao,none⟩) p.args.length a2,I p.entry,I p.handler,.slice d1 p.data.length d2,.slice b1 p.banks.length b2,.slice (some ⟨kb,ko,none⟩) blocks.length bc,.map (some (w.heap.size+2)),.map (some (w.heap.size+2+1)),F] 173)).heap.size=w.heap.size+2+1+1+1:=by simp[e5]
  generalize y5:((WF.alloc (.map #[] 0)).alloc (.map #[] 0)).alloc (G #[.slice (some ⟨fb,fo,none⟩) p.funcs.length f2,.slice (some ⟨ab,ao,none⟩) p.args.length a2,I p.entry,I p.handler,.slice d1 p.data.length d2,.slice b1 p.banks.length b2,.slice (some ⟨kb,ko,none⟩) blocks.length bc,.map (some (w.heap.size+2)),.map (some (w.heap.size+2+1)),F] 173)=W2 at *;generalize y6:w.heap.size+2+1+1=C at *;generalize u4:w.heap.size+2+1=m2 at *;generalize u6:w.heap.size+2=m1 at *;have a7:ChkAt W2 C m1 m2 (rC ⟨.slice (some ⟨fb,fo,none⟩) p.funcs.length f2,.slice (some ⟨ab,ao,none⟩) p.args.length a2,.slice d1 p.data.length d2,.slice b1 p.banks.length b2⟩ p) (.slice (some ⟨kb,ko,none⟩) blocks.length bc) (F) 0 aeG:=ChkAt.made t4 rfl r8 r6 Zo;have v3:=Ja a7;have H2:=Ja (show O w W2/\L W2 (w.heap.size+1) #[.slice (some ⟨kb,ko,none⟩) blocks.length bc] 39/\W2.heap.size=C+1/\w.heap.size+2=m1/\m1+1=m2/\m2+1=C from⟨b4,n9,q6,by omega,by omega,by omega⟩);have c0:=K0 n9;have c1:=K1 q3;have c2:T W2 kb ko (.slice pa b0.params.length pc):=by have:=zV (b4.mono m.out.2.1) t6.out.1 t6.out.2;simpa using this
  have c3:T W2 ab (ao+n) (I x):=zV (b4.mono m.out.2.1) u3.out.1 u3.out.2;obtain⟨qe,l2⟩:∃q,decide ((b0.params.length:Int)=x)=q:=⟨_,rfl⟩
  have t1:((b0.params.length:Int) !=x)=!qe:=by rw[bne,x9 l2]
  have h6:p.args.getD n 0=x:=by rw[Jj,j.out.2.2.2];rfl
  have n7:yi p n=(qe && ((wg p blocks).map (iM blocks)).getD false):=by
   unfold yi;rw[Jj,j.out.1,Ot,u1.out];simp only;rw[h6,l2]
  rw[o9.out] at n7;have f5:=Ja n7;clear y5 y6 u4 u6 a7 b4 t4 r8 r6 q3 n9 q6 y k1 e5 q0 p0 p1 p2 p3 p4 p5 l2 h6 n7
  cases qe with
  |false=>
   go_quiet (fail);go_wp2;go_ret
   exact⟨uz f5.out,yC H2.out.1⟩
  |true=>
   have a5:O w W2.drew:=H2.out.1.drew;have a6:=a5.mono m.out.2.1;have q5:=lM (m.out.1.below a6) (j.out.2.1.below yT a6) (Jn m.out.2.1 a5.size) (by have:=m.out.2.1;have:=H2.out.2.2.2;omega) (by have:=m.out.2.1;have:=H2.out.2.2.2;omega) m.out.2.2.1 j.out.2.2.1 (v3.out.below ((Below.refl W2.heap.size W2).drew));have o5:=Ja q5;have i9:=Ja a5;clear q5 a5 a6;obtain⟨r,hr⟩:∃r,wg p blocks=r:=⟨_,rfl⟩
   rw[hr] at o5 f5;have HR:=Ja hr;clear hr
   cases r with
   |none=>
    refine zt 14 Zk Zk ?_;simp only[Qo,Uc,Qp,Ui]
    repeat (go_big_quiet_step (fail))
    refine wpQuiet_nil ?_;go_wp2_with (first|(go_at_call 117;go_must (refine o5.out.mono ?_;rintro e w3 ⟨rfl,f0,_⟩))|go_in)
    go_ret
    exact⟨uz f5.out,i9.out.trans (f0.below (by have:=H2.out.2.2.2;omega) (by have:=H2.out.2.2.2;omega) i9.out.size)⟩
   |some d=>
    refine zt 14 Zk Zk ?_;simp only[Qo,Uc,Qp,Ui]
    repeat (go_big_quiet_step (fail))
    refine wpQuiet_nil ?_;go_upto_region 7 with(first|(go_at_call 117;go_must (refine o5.out.mono ?_;rintro e w3 ⟨rfl,f0,s7⟩))|go_in)
    obtain⟨N,hN,a7⟩:=s7 d rfl;have t:=i9.out.trans (f0.below (by have:=H2.out.2.2.2;omega) (by have:=H2.out.2.2.2;omega) i9.out.size);have n8:=f0.blk (b:=w.heap.size+1) H2.out.2.1 (by have:=H2.out.2.2.2;omega) (by have:=H2.out.2.2.2;omega);have g6:∀b∈blocks,(∀o∈b.ops,opF p o=true)/\ro blocks b.term=true:=rV blocks 0 aeG d (by rw[<-wS];exact HR.out);have k3:C<w3.heap.size:=lt_of_block a7.blk;have s3:=ox (j.out.2.1.below yT (t.mono m.out.2.1)) (Jn m.out.2.1 t.size) ⟨j.out.2.2.1.1,fun b hb=>(j.out.2.2.1.2 b hb).2.2⟩;have HG:=Ja s3;have H3:=Ja (show O w w3/\L w3 (w.heap.size+1) #[.slice (some ⟨kb,ko,none⟩) blocks.length bc] 39/\ChkAt w3 C m1 m2 (rC ⟨.slice (some ⟨fb,fo,none⟩) p.funcs.length f2,.slice (some ⟨ab,ao,none⟩) p.args.length a2,.slice d1 p.data.length d2,.slice b1 p.banks.length b2⟩ p) (.slice (some ⟨kb,ko,none⟩) blocks.length bc) (F) N d/\(∀b∈blocks,(∀o∈b.ops,opF p o=true)/\ro blocks b.term=true)/\C<w3.heap.size/\blocks≠ [] from⟨t,n8,a7,g6,k3,by rw[u1.out];simp⟩);have u0:=K0 n8;clear f0 s7 hN a7 t n8 g6 k3 s3 c0 c1 c2 c3 t1;have u9:(zk blocks).length=blocks.length:=by unfold zk;simp
    clear u9;go_upto_region 8 with(first|(go_at_call 41;go_must (refine HG.out.mono ?_;rintro e w4 ⟨gb,rfl,g8,s4,d0⟩))|go_in)
    have w0:(zk blocks).length=blocks.length:=by unfold zk;simp
    have f9:=(Below.refl w4.heap.size w4).alloc (Je _) (G #[Y gb (zk blocks).length (zk blocks).length] 105);have k5:=g8.below f9;have d7:=d0.trans (f9.mono d0.size);have b7:O w (w4.alloc (G #[Y gb (zk blocks).length (zk blocks).length] 105)):=H3.out.1.trans (d7.mono H3.out.1.size);have s5:=zH d7 H3.out.2.1 (lt_of_block H3.out.2.1);have h9:=H3.out.2.2.1.below d7;have n6:=zI (W:=w4) (o:=G #[Y gb (zk blocks).length (zk blocks).length] 105) rfl;have m5:C<w4.heap.size:=Jy H3.out.2.2.2.2.1 d0.size;have n0:=H3.out.2.2.2.2.1;generalize y4:w4.alloc (G #[Y gb (zk blocks).length (zk blocks).length] 105)=W5 at *;generalize w1:w4.heap.size=g4 at *;generalize n3:(zk blocks).length=gl at *
    have b6:∀W:World,OwnRows zN 3 22 W w3.heap.size gb (zk blocks)->GraphIn W (Y gb gl gl) (zy blocks):=fun W hW=>by
     have:=hW.asRows (Je _);rw[n3] at this;exact bU j.out.2.2.1 H3.out.2.2.2.2.2 (fun b hb=>(H3.out.2.2.2.1 b hb).2) this
    have q1:=Ja (show(∀W:World,OwnRows zN 3 22 W w3.heap.size gb (zk blocks)->GraphIn W (Y gb gl gl) (zy blocks))/\OwnRows zN 3 22 W5 w3.heap.size gb (zk blocks)/\w3.heap.size<=gb from⟨b6,k5,s4⟩);have t7:=Ja (b6 _ k5);have H5:=Ja (show O w W5/\L W5 (w.heap.size+1) #[.slice (some ⟨kb,ko,none⟩) blocks.length bc] 39/\ChkAt W5 C m1 m2 (rC ⟨.slice (some ⟨fb,fo,none⟩) p.funcs.length f2,.slice (some ⟨ab,ao,none⟩) p.args.length a2,.slice d1 p.data.length d2,.slice b1 p.banks.length b2⟩ p) (.slice (some ⟨kb,ko,none⟩) blocks.length bc) (F) N d/\L W5 g4 #[Y gb gl gl] 105/\C<g4/\C<w3.heap.size from⟨b7,s5,h9,n6,m5,n0⟩);have u5:=K0 n6;clear f9 k5 d7 b7 s5 h9 n6 m5 n0 y4 w1 g8 d0 u0 s4 b6 n3 w0;go_upto_region 9 with(first|(go_at_call 118;go_must (refine(qP t7.out).mono ?_;rintro e w6 ⟨iv,rfl,d4,c9⟩;obtain⟨ia,ic,rfl⟩:=zG d4;have e8:=H5.out.2.2.1.below c9;have v9:T w6 C 9 (F):=zA e8.blk rfl;have vf:w6.frozen? ⟨C,9,none⟩=false:=zE e8.blk))|go_in)
    have hv:=t7.out.valid;have nC:=zC d4 e8.blk (.inr Zd);have h4:=ownsRow_setCell_other (a:=⟨C,9,none⟩) d4 nC (.slice ia (wQ (zy blocks)).length ic);have n2:zY (w6.setCell ⟨C,9,none⟩ (.slice ia (wQ (zy blocks)).length ic)) (w6.setCell ⟨C,9,none⟩ (.slice ia (wQ (zy blocks)).length ic)).heap.size (.slice ia (wQ (zy blocks)).length ic) (wQ (zy blocks)):=uA h4 rfl (jT hv (by rw[xu];have:=j.out.2.2.1.1;omega));have h8:=e8.idom (.slice ia (wQ (zy blocks)).length ic);have a3:O w (w6.setCell ⟨C,9,none⟩ (.slice ia (wQ (zy blocks)).length ic)):=(H5.out.1.trans (c9.mono H5.out.1.size)).setCell (by have:=H2.out.2.2.2;simp;omega) _;have h7:=zR (a:=⟨C,9,none⟩) (u:=.slice ia (wQ (zy blocks)).length ic) (zH c9 H5.out.2.1 (lt_of_block H5.out.2.1)) (by have:=H2.out.2.2.2;simp;omega);have n5:=zR (a:=⟨C,9,none⟩) (u:=.slice ia (wQ (zy blocks)).length ic) (zH c9 H5.out.2.2.2.1 (lt_of_block H5.out.2.2.2.1)) (by have:=H5.out.2.2.2.2;simp;omega);have n4:=q1.out.1 _ ((q1.out.2.1.below c9).set (a:=⟨C,9,none⟩) (by have:=q1.out.2.2;have:=H5.out.2.2.2.2.2;simp;omega) (by have:=H5.out.2.2.2.2.2;simp;omega) (.slice ia (wQ (zy blocks)).length ic));generalize y3:w6.setCell ⟨C,9,none⟩ (.slice ia (wQ (zy blocks)).length ic)=W7 at *;have h:=Ja (show O w W7/\ChkAt W7 C m1 m2 (rC ⟨.slice (some ⟨fb,fo,none⟩) p.funcs.length f2,.slice (some ⟨ab,ao,none⟩) p.args.length a2,.slice d1 p.data.length d2,.slice b1 p.banks.length b2⟩ p) (.slice (some ⟨kb,ko,none⟩) blocks.length bc) (.slice ia (wQ (zy blocks)).length ic) N d/\zY W7 W7.heap.size (.slice ia (wQ (zy blocks)).length ic) (wQ (zy blocks))/\L W7 (w.heap.size+1) #[.slice (some ⟨kb,ko,none⟩) blocks.length bc] 39/\zw (zy blocks) from⟨a3,h8,n2,h7,hv⟩)
    have l8:∀W,O W7 W->A 40 #[.agg #[Y gb gl gl]] W fun e w'=>∃a c,e=.returned (.slice a (vD (zy blocks)).length c)/\O W w':=fun W hb=>by
     refine(iJ (n4.below hb)).mono ?_;rintro e w' ⟨ov,rfl,ho,hb⟩;obtain⟨a,c,rfl⟩:=zG ho;exact⟨a,c,rfl,hb⟩
    have v2:=Ja l8;have y0:=K0 h7;have y1:=K0 n5;have l0:=lt_of_block h7;have l1:=lt_of_block n5;have k7:=Below.refl W7.heap.size W7;clear d4 c9 e8 v9 vf h4 nC n2 h8 a3 h7 n5 n4 l8 u5 hv y3;obtain⟨qo,k6⟩:∃q,decide ((vD (zy blocks)).length=blocks.length)=q:=⟨_,rfl⟩
    have t1:(((vD (zy blocks)).length:Int) !=(blocks.length:Int))=!qo:=by rw[bne,x9 (q:=qo) (zZ k6 Zo)]
    have p8:=Ja k6;clear k6;generalize d5:(vD (zy blocks)).length=ol at *
    go_cut [57] (fun s wx=>s=.bool (!qo)/\Hid (O W7 wx))
    case first=>
     go_region_held3 (fun w'=>T w' (w.heap.size+1) 0 (.slice (some ⟨kb,ko,none⟩) blocks.length bc)/\T w' g4 0 (Y gb gl gl)/\O W7 w')
      (first
        |(go_split_ands;refine⟨?_,?_,?_⟩<;>assumption)
        |(go_split_ands;refine⟨?_,?_,uG ?_⟩<;>assumption))
      (first|(go_at_call 40;go_must (refine(v2.out _ (by repeat' (first|assumption|(with_reducible refine Below.drew ?_)))).mono ?_;rintro e w2 ⟨qa,qc,rfl,b4⟩;have t:O W7 w2:=Below.trans (by repeat' (first|assumption|(with_reducible refine Below.drew ?_))) (b4.mono (Below.size (B:=W7.heap.size) (w:=W7) (by repeat' (first|assumption|(with_reducible refine Below.drew ?_)))));have B8:T w2 (w.heap.size+1) 0 (.slice (some ⟨kb,ko,none⟩) blocks.length bc):=zV t l0 y0;have B7:T w2 g4 0 (Y gb gl gl):=zV t l1 y1)))
     all_goals
      go_wp2_with fail;go_meet;exact⟨rfl,Ja (by repeat' (first|assumption|(with_reducible refine Below.drew ?_)))⟩
    case rest=>
     obtain⟨rfl,HB⟩:=hcut
     cases qo with
     |false=>
      have hr:res=false:=by
       rw[f5.out,Option.map_some,Ot];unfold iM;rw[d5,p8.out];rfl
      go_wp2;go_ret
      exact⟨uz hr,h.out.1.trans (HB.out.mono h.out.1.size)⟩
     |true=>
      have hr:res=tO d (zy blocks) blocks 0:=by
       rw[f5.out,Option.map_some,Ot];unfold iM;rw[d5,p8.out];rfl
      have a8:=jl h.out.2.2.2.2 (by rw[d5,xu];exact of_decide_eq_true p8.out);have f4:=Ja (Jb hr a8);have y2:T wc (w.heap.size+1) 0 (.slice (some ⟨kb,ko,none⟩) blocks.length bc):=zV HB.out l0 y0;clear hr a8 y0 y1 k7 t1 d5;go_wp2
      go_loopw [61] (fun iv wx=>∃i:Nat,i<=blocks.length/\iv=I i/\Hid (O W7 wx/\tO d (zy blocks) (blocks.take i) 0=true)) (fun iv _=>blocks.length-(intOf iv).toNat)
      case atStart=>exact⟨0,Jt _,rfl,Ja ⟨HB.out,rfl⟩⟩
      case round=>
       obtain⟨i,hi,rfl,HI⟩:=hrel
       by_cases h5:i<blocks.length
       ·have u8:(i:Int)<blocks.length:=Zo;have i1:=Ja h5;obtain⟨bx,c8⟩:∃bx,blocks[i]? =some bx:=⟨_,Jd h5⟩
        obtain⟨b',o',e',b3,s2,s1,n1,C0,ov2,B9,e7,r5,r4,e6,m3,k2⟩:=j.out.2.1.get c8;cases e';obtain⟨g3,g2,rfl,l5,l3⟩:=e6.form;obtain⟨oa,oc,rfl,v8,v6⟩:=m3.form;obtain⟨ta,tc,rfl,v5,v4⟩:=k2.form;have C1:bx.ops.length<=9223372036854775807:=Zo;have l:Below B w wr:=(h.out.1.mono m.out.2.1).trans (HI.out.1.mono (Jn m.out.2.1 h.out.1.size));have e0:=zV l b3 e7;have e1:=zV l b3 r5;have e2:=zV l b3 s2;have e3:=zV l b3 s1;have e4:=zV l b3 r4;have a0:=Ja (show blocks[i]? =some bx/\mN w B (.slice oa bx.ops.length oc) bx.ops/\wH w B (.slice ta bx.term.to.length tc) bx.term.to/\(I64 bx.term.kind/\I64 bx.term.a)/\(bx.params.length<=2000000/\bx.ops.length<=2000000/\bx.term.to.length<=2000000)/\(∀o∈bx.ops,opF p o=true)/\ro blocks bx.term=true from⟨c8,m3,k2,n1,j.out.2.2.1.2 bx (Ji c8),(H3.out.2.2.2.1 bx (Ji c8)).1,(H3.out.2.2.2.1 bx (Ji c8)).2⟩);have j2:=zI (W:=wr) (o:=G #[.slice g3 bx.params.length g2,.slice oa bx.ops.length oc,I bx.term.kind,I bx.term.a,.slice ta bx.term.to.length tc] 84) rfl;have t2:=HI.out.1.alloc HI.out.1.size (G #[.slice g3 bx.params.length g2,.slice oa bx.ops.length oc,I bx.term.kind,I bx.term.a,.slice ta bx.term.to.length tc] 84);clear c8 s2 s1 n1 e7 r5 r4 e6 m3 k2 l5 l3 v8 v6 v5 v4 l h5 y2;go_upto_region 14 with fail;generalize x8:wr.alloc (G #[.slice g3 bx.params.length g2,.slice oa bx.ops.length oc,I bx.term.kind,I bx.term.a,.slice ta bx.term.to.length tc] 84)=W9 at *;generalize x4:wr.heap.size=b9 at *;have z1:=K1 j2;have H9:=Ja (show O W7 W9/\L W9 b9 #[.slice g3 bx.params.length g2,.slice oa bx.ops.length oc,I bx.term.kind,I bx.term.a,.slice ta bx.term.to.length tc] 84 from⟨t2,j2⟩);clear x8 x4 j2 t2 e0 e1 e2 e3 e4;go_wp2
        go_loopw [69] (fun kv wx=>∃k:Nat,k<=bx.ops.length/\kv=I k/\Hid (O W9 wx/\xF d (zy blocks) i (bx.ops.take k) 0=true)) (fun kv _=>bx.ops.length-(intOf kv).toNat)
        case atStart=>exact⟨0,Jt _,rfl,Ja ⟨Below.refl _ _,rfl⟩⟩
        case round=>
         obtain⟨k,hk,rfl,HK⟩:=hrel
         by_cases d6:k<bx.ops.length
         ·have q2:(k:Int)<bx.ops.length:=Zo;have p9:=Ja d6;obtain⟨o,ho⟩:∃o,bx.ops[k]? =some o:=⟨_,Jd d6⟩
          obtain⟨qb,qo,rfl,c7,r3,r2,r1,r0,q9,m4,av,q7,o3⟩:=a0.out.2.1.get ho;obtain⟨aa,ac,rfl,o4,o2⟩:=o3.form;have g:O W7 wr:=H9.out.1.trans (HK.out.1.mono H9.out.1.size);have l:Below B w wr:=(h.out.1.mono m.out.2.1).trans (g.mono (Jn m.out.2.1 h.out.1.size));have c0:=zV l c7 r3;have c1:=zV l c7 r2;have c2:=zV l c7 r1;have c3:=zV l c7 r0;have c4:=zV l c7 q9;have c5:=zV l c7 q7;have b5:=zI (W:=wr) (o:=G (D o aa ac) 76) rfl;have s8:=HK.out.1.alloc HK.out.1.size (G (D o aa ac) 76);have a6:=l.alloc (Jn m.out.2.1 (Jn h.out.1.size g.size)) (G (D o aa ac) 76);have q4:=uses_any o m4 (Jn (Jn m.out.2.1 (Jn h.out.1.size g.size)) Zs) (o3.below zO a6) (aU m.out.2.2.2.1 (a0.out.2.2.2.2.2.1 o (Ji ho)));have HO:=Ja ho;clear ho r3 r2 r1 r0 q9 q7 m4 o3 o4 o2 l g d6 a6 z1;go_upto_region 17 with fail;generalize x7:wr.alloc (G (D o aa ac) 76)=WA at *;generalize x3:wr.heap.size=bA at *;have A8:=K0 b5;have A7:=K1 b5;have A6:=K2 b5;have A5:=K3 b5;have A4:=K4 b5;have A3:=K5 b5;have t5:=Ja q4;have d3:=Ja s8;clear q4 s8 b5 x7 x3 c0 c1 c2 c3 c4 c5;obtain⟨q,hq⟩:∃q,(rR o).all (yy d (zy blocks) i k)=q:=⟨_,rfl⟩
          have HQ:=Ja hq;clear hq
          have f3:∀W lv,O WA W->zY W W.heap.size lv (rR o)->A 119 #[Q C,lv,I i,I k] W (ym W q):=fun W lv hb hin=>by
           have a3:O W7 W:=H9.out.1.trans ((d3.out.trans (hb.mono d3.out.size)).mono H9.out.1.size);rw[<-HQ.out];exact qI (h.out.2.1.below a3) h.out.2.2.2.2 f4.out.2 (by rw[xu];exact j.out.2.2.1.1) ((h.out.2.2.1.below zO a3).mono zO a3.size) (fun v b hv=>by rw[xu];exact rN HR.out v b hv) hin i (by rw[xu];exact i1.out) k (qL (Jn hk (Jn a0.out.2.2.2.2.1.2.1 Zd)))
          have i2:=Ja f3;clear f3
          cases q with
          |false=>
           go_wp2_with (first|(go_at_call 120;go_must (refine t5.out.mono ?_;rintro e wu ⟨uv,rfl,g5,a9⟩))|(go_at_call 119;go_must (refine(i2.out _ _ a9 g5).mono ?_;rintro e wd ⟨rfl,a5⟩))|go_in)
           go_ret
           have hr:res=false:=by
            rw[f4.out.1];refine pH a0.out.1 ?_;unfold aaC;rw[afi HO.out HQ.out];rfl
           have z0:O W7 wd:=H9.out.1.trans ((d3.out.trans ((a9.trans (a5.mono a9.size)).mono d3.out.size)).mono H9.out.1.size)
           exact⟨uz hr,h.out.1.trans (z0.mono h.out.1.size)⟩
          |true=>
           go_wp2_with (first|(go_at_call 120;go_must (refine t5.out.mono ?_;rintro e wu ⟨uv,rfl,g5,a9⟩))|(go_at_call 119;go_must (refine(i2.out _ _ a9 g5).mono ?_;rintro e wd ⟨rfl,a5⟩))|go_in)
           have HN:=Ja (d3.out.trans ((a9.trans (a5.mono a9.size)).mono d3.out.size));clear a9 a5 g5;go_roundw
           case rel=>
            have g1:=Ja (show O W9 wd/\xF d (zy blocks) i (bx.ops.take (k+1)) 0=true from⟨HN.out,by rw[gZ HO.out,HK.out.2,HQ.out];rfl⟩)
            (repeat apply Exists.intro);exact⟨⟨k+1,p9.out,by go_num,g1⟩,rfl⟩
           case measure=>have:=p9.out;simp[intOf];omega
         ·obtain rfl:k=bx.ops.length:=by omega
          have q2:¬(bx.ops.length:Int)<bx.ops.length:=Zo;have g:O W7 wr:=H9.out.1.trans (HK.out.1.mono H9.out.1.size);have a6:Below B w wr:=(h.out.1.mono m.out.2.1).trans (g.mono (Jn m.out.2.1 h.out.1.size));have b8:=zH HK.out.1 H9.out.2 (lt_of_block H9.out.2);have f7:=HK.out.2;rw[Nl] at f7;have z2:=K1 b8;have z3:=K2 b8;have z4:=K3 b8;have z5:=K4 b8;have l9:=lt_of_block b8;have k9:=Below.refl wr.heap.size wr;obtain⟨q,hq⟩:∃q,(mE bx.term).all (yy d (zy blocks) i bx.ops.length)=q:=⟨_,rfl⟩
          have s6:∀W,O wr W->A 121 #[.agg #[I bx.term.kind,I bx.term.a,.slice ta bx.term.to.length tc]] W (wG W (mE bx.term)):=fun W hb=>
           ends_any bx.term a0.out.2.2.2.1 (Jn (Jn m.out.2.1 (Jn h.out.1.size g.size)) hb.size) (a0.out.2.2.1.below xL (a6.trans (hb.mono (Jn m.out.2.1 (Jn h.out.1.size g.size))))) ⟨a0.out.2.2.2.2.1.2.2,lD j.out.2.2.1 a0.out.2.2.2.2.2.2⟩
          have f3:∀W lv,O wr W->zY W W.heap.size lv (mE bx.term)->A 119 #[Q C,lv,I i,I (bx.ops.length:Int)] W (ym W q):=fun W lv hb hin=>by
           have a3:O W7 W:=g.trans (hb.mono g.size);rw[<-hq];exact qI (h.out.2.1.below a3) h.out.2.2.2.2 f4.out.2 (by rw[xu];exact j.out.2.2.1.1) ((h.out.2.2.1.below zO a3).mono zO a3.size) (fun v b hv=>by rw[xu];exact rN HR.out v b hv) hin i (by rw[xu];exact i1.out) _ (qL (Jn a0.out.2.2.2.2.1.2.1 Zd))
          have z6:=Ja s6;have i2:=Ja f3;have HQ:=Ja (show aaC d (zy blocks) bx i=q from by unfold aaC;rw[f7,hq];rfl);have j1:=Ja g;clear hq s6 f3 f7 b8 a6 g d6 z1;go_wp2_with fail
          go_cut [91] (fun s wx=>s=.bool (!q)/\Hid (O wr wx))
          case first=>
           go_region_held3 (fun w'=>T w' b9 1 (.slice oa bx.ops.length oc)/\T w' b9 2 (I bx.term.kind)/\T w' b9 3 (I bx.term.a)/\T w' b9 4 (.slice ta bx.term.to.length tc)/\O wr w')
            (first
              |(go_split_ands;refine⟨?_,?_,?_,?_,?_⟩<;>assumption)
              |(go_split_ands;refine⟨?_,?_,?_,?_,uG ?_⟩<;>assumption))
            (first
              |(go_at_call 121;go_must (refine(z6.out _ (by repeat' (first|assumption|(with_reducible refine Below.drew ?_)))).mono ?_;rintro e w2 ⟨ev,rfl,w8,b4⟩;have t:Below wr.heap.size wr w2:=Below.trans (by repeat' (first|assumption|(with_reducible refine Below.drew ?_))) (b4.mono (Below.size (B:=wr.heap.size) (w:=wr) (by repeat' (first|assumption|(with_reducible refine Below.drew ?_)))));have B2:=zV t l9 z2;have B1:=zV t l9 z3;have B0:=zV t l9 z4;have A9:=zV t l9 z5))
              |(go_at_call 119;go_must (refine(i2.out _ _ (by repeat' (first|assumption|(with_reducible refine Below.drew ?_))) w8).mono ?_;rintro e w4 ⟨rfl,d0⟩;have b7:Below wr.heap.size wr w4:=Below.trans (by repeat' (first|assumption|(with_reducible refine Below.drew ?_))) (d0.mono (Below.size (B:=wr.heap.size) (w:=wr) (by repeat' (first|assumption|(with_reducible refine Below.drew ?_)))));have B6:=zV b7 l9 z2;have B5:=zV b7 l9 z3;have B4:=zV b7 l9 z4;have B3:=zV b7 l9 z5)))
           all_goals
            go_wp2_with fail;go_meet;exact⟨rfl,Ja (by repeat' (first|assumption|(with_reducible refine Below.drew ?_)))⟩
          case rest=>
           obtain⟨rfl,u2⟩:=hcut
           cases q with
           |false=>
            have hr:=Ja (show res=false by rw[f4.out.1];exact pH a0.out.1 HQ.out);go_wp2;go_ret
            exact⟨uz hr.out,h.out.1.trans ((j1.out.trans (u2.out.mono j1.out.size)).mono h.out.1.size)⟩
           |true=>
            go_wp2;go_roundw
            case rel=>
             have g1:=Ja (show O W7 wc/\tO d (zy blocks) (blocks.take (i+1)) 0=true from⟨j1.out.trans (u2.out.mono j1.out.size),by rw[mz a0.out.1,HI.out.2,HQ.out];rfl⟩)
             (repeat apply Exists.intro);exact⟨⟨i+1,i1.out,by go_num,g1⟩,rfl⟩
            case measure=>have:=i1.out;simp[intOf];omega
       ·obtain rfl:i=blocks.length:=by omega
        have u8:¬(blocks.length:Int)<blocks.length:=Zo;have a8:=HI.out.2;rw[Nl] at a8;have hr:=Ja (f4.out.1.trans a8);clear a8 h5 y2;go_wp2;go_ret;exact⟨uz hr.out,h.out.1.trans (HI.out.1.mono h.out.1.size)⟩
def aav {α:Type}:List α->Nat->List α->List α
 |xs,_,[]=>xs
 |xs,o,v::vs=>aav (xs.set o v) (o+1) vs
theorem mV {α:Type}:∀(vs:List α) (xs:List α) (o:Nat),(aav xs o vs).length=xs.length
 | [],xs,o=>rfl
 |v::vs,xs,o=>(mV vs _ _).trans Zs
theorem afG {α:Type}(m:Nat):∀(vs:List α) (xs:List α) (o:Nat),(aav xs o vs).take m=aav (xs.take m) o vs
 | [],xs,o=>rfl
 |v::vs,xs,o=>(afG m vs _ _).trans (by rw[List.take_set];rfl)
theorem fV {α:Type}:∀(vs p q r:List α),q.length=vs.length->aav (p++(q++r)) p.length vs=p++(vs++r)
 | [],p,[],r,_=>rfl
 |v::vs,p,x::q,r,h=>by
  have e:(p++(x::q++r)).set p.length v=(p++ [v])++(q++r):=by
   rw[Uj _ _ (Je _)];simp
  show aav ((p++(x::q++r)).set p.length v) (p.length+1) vs=_
  rw[e];have:=fV vs (p++ [v]) q r (by simpa using h);rw[Jk,Ju] at this;rw[this]
  simp
 | [],p,x::q,r,h=>by simp at h
 |v::vs,p,[],r,h=>by simp at h
theorem aft {α:Type}(f:α->List Value)(n:Nat)(hf:∀a,(f a).length=n):∀l:List α,(l.flatMap f).length=l.length*n
 | []=>by simp
 |a::l=>by rw[Qa,Jk,hf,aft f n hf l,Nq,Nat.add_mul];omega
theorem js {α:Type}(f:α->List Value)(n:Nat)(hf:∀a,(f a).length=n)(l:List α)(k:Nat)(b a:α)(hk:l[k]? =some b):aav (l.flatMap f) (k*n) (f a)=(l.set k a).flatMap f:=by
 have c:=(Jh.1 hk).1;have hb:l[k]=b:=(Jh.1 hk).2
 have e1:l=l.take k++b::l.drop (k+1):=by
  rw[<-hb,Ue,Qi]
 have hl:(l.take k).length=k:=by simp;omega
 have e2:l.set k a=l.take k++a::l.drop (k+1):=by
  rw[List.set_eq_take_append_cons_drop,if_pos c]
 rw[e2]
 have e3:l.flatMap f=(l.take k).flatMap f++(f b++(l.drop (k+1)).flatMap f):=by
  conv=>lhs;rw[e1]
  rw[Nx,Qa]
 have d:((l.take k).flatMap f).length=k*n:=by rw[aft f n hf,hl]
 rw[e3,Nx,Qa,<-d];exact fV _ _ _ _ (by rw[hf,hf])
theorem th (b:Nat)(t:TypeId):∀(vs:List Value) (o:Nat) (w:World) (cur:Array Value),L w b cur t->L (w.setCells b o vs) b (aav cur.toList o vs).toArray t
 | [],o,w,cur,h=>by simpa[aav,World.setCells] using h
 |v::vs,o,w,cur,h=>by
  have:=th b t vs (o+1) (w.setCell ⟨b,o,none⟩ v) _ (zD h v);rw[Array.toList_setIfInBounds] at this;exact this
theorem ye (b k:Nat)(hne:k≠b):∀(vs:List Value) (o:Nat) (w:World),(w.setCells b o vs).heap[k]? =w.heap[k]?
 | [],o,w=>rfl
 |v::vs,o,w=>(ye b k hne vs (o+1) _).trans (Below.heap_setCell _ _ _ _ (by simpa using hne))
theorem y8 (b:Nat):∀(vs:List Value) (o:Nat) (w:World),(w.setCells b o vs).heap.size=w.heap.size
 | [],_,_=>rfl
 |v::vs,o,w=>(y8 b vs (o+1) _).trans Zs
theorem ze (b:Nat):∀(vs:List Value) (o:Nat) (w:World),(w.setCells b o vs).os=w.os/\(w.setCells b o vs).tape=w.tape/\(w.setCells b o vs).output=w.output
 | [],_,_=>⟨rfl,rfl,rfl⟩
 |v::vs,o,w=>ze b vs (o+1) _
section
variable {α:Type} {f:α->List Value} {n:Nat} {w:World} {base g:Nat} {e:TypeId} {v:Value} {l:List α} {k:Nat} {b:α}
theorem z9 (hf:∀a,(f a).length=n)(h:w.ownsRow base e n v l.length (l.flatMap f))(hg:v.ownBlock=some g)(hk:l[k]? =some b):w.rangeAt g (k*n) (f b):=fun j u hj=>by
 have c:j<n:=by rw[<-hf b];exact(Jh.1 hj).1
 have h1:=h.cells hg (k*n+j) u ((uB f n hf l k b hk j c).trans hj);rw[Addr.add_mid,Ng] at h1;exact h1
theorem zq (m:0<n)(hf:∀a,(f a).length=n)(h:w.ownsRow base e n v l.length (l.flatMap f))(hg:v.ownBlock=some g)(hk:l[k]? =some b):w.there g (k*n) n:=fun j hj=>by
 refine⟨?_,?_⟩
 ·obtain⟨u,c⟩:∃u,(f b)[j]? =some u:=⟨_,Jd (by rw[hf];exact hj)⟩
  rw[z9 hf h hg hk j u c];rfl
 ·rcases h.2 with⟨rfl,_⟩|⟨g',i,cur,rfl,_,d,_⟩
  ·simp[Value.ownBlock] at hg
  ·simp[Value.ownBlock] at hg;subst hg;exact zE d
theorem uZ (hf:∀a,(f a).length=n)(h:w.ownsRow base e n v l.length (l.flatMap f))(hg:v.ownBlock=some g)(hk:l[k]? =some b)(a:α):(w.setCells g (k*n) (f a)).ownsRow base e n v l.length ((l.set k a).flatMap f):=by
 refine⟨by rw[aft f n hf,Nd],?_⟩;rcases h.2 with⟨rfl,_⟩|⟨g',c,cur,rfl,h1,h2,h3,j,i,d⟩
 ·simp[Value.ownBlock] at hg
 ·simp[Value.ownBlock] at hg;subst hg;refine .inr ⟨g',c,_,rfl,h1,th _ _ _ _ _ _ h2,h3,j,?_,?_⟩
  ·rw[List.size_toArray,mV];simpa using i
  ·rw[afG,d];exact js f n hf l k b a hk
end
theorem dF:∀(os:List IOp) (k:Int),xF d g i os k=true↔∀(j:Nat) (o:IOp),os[j]? =some o->(rR o).all (yy d g i (k+j))=true
 | [],k=>by simp[xF]
 |o::os,k=>by
  show((rR o).all (yy d g i k) && xF d g i os (k+1))=true↔_
  rw[Jm,dF os (k+1)];constructor
  ·rintro⟨h1,h2⟩ j x hx
   cases j with
   |zero=>simp at hx;subst hx;simpa using h1
   |succ j=>
    have:=h2 j x (by simpa using hx);rw[show k+((j+1:Nat):Int)=k+1+(j:Int) by omega];exact this
  ·intro h;refine⟨by simpa using h 0 o rfl,fun j x hx=>?_⟩;have:=h (j+1) x (by simpa using hx);rw[show k+((j+1:Nat):Int)=k+1+(j:Int) by omega] at this;exact this
theorem cB:∀(bs:List IBlk) (i:Int),tO d g bs i=true↔∀(j:Nat) (b:IBlk),bs[j]? =some b->aaC d g b (i+j)=true
 | [],i=>by simp[tO]
 |b::bs,i=>by
  show(aaC d g b i && tO d g bs (i+1))=true↔_
  rw[Jm,cB bs (i+1)];constructor
  ·rintro⟨h1,h2⟩ j x hx
   cases j with
   |zero=>simp at hx;subst hx;simpa using h1
   |succ j=>
    have:=h2 j x (by simpa using hx);rw[show i+((j+1:Nat):Int)=i+1+(j:Int) by omega];exact this
  ·intro h;refine⟨by simpa using h 0 b rfl,fun j x hx=>?_⟩;have:=h (j+1) x (by simpa using hx);rw[show i+((j+1:Nat):Int)=i+1+(j:Int) by omega] at this;exact this
theorem aj(hv:zw g):(vD g).length=g.length↔∀x,x<g.length->wE g 0 x=true:=by
 constructor
 ·intro h x c;have hr:=jl hv h;have h0:0<g.length:=Zo;exact(yO hv 0 x).2 ⟨hr 0 h0,hr x c,dom_zero _ _⟩
 ·intro h;obtain⟨ns,d⟩:=adR hv;rw[d.eq];have h1:=dW (l:=0::ns) (m:=List.range g.length) d.nodup (fun x c=>Ol.2 (d.lt x c));have h2:=dW (l:=List.range g.length) (m:=0::ns) List.nodup_range (fun x c=>(d.mem x).2 ((yO hv 0 x).1 (h x (Ol.1 c))).2.1);rw[Un] at h1 h2;omega
end Go.Proofs.YtoahcpkibpomcaaGreat
