/- Part of a proof. -/
import Derived.Test.YtoahcpkibpomcaaGLift8
set_option linter.all false
set_option maxHeartbeats 8000000
set_option maxRecDepth 100000
namespace Go.Proofs.Ytoahcpkibpomcaa
open Go.RowKit
variable {bl blocks:List IBlk}{w:World}{C c i j m1 m2 n':Nat}{d d1:wO}{M M1:MS}
theorem edge_bad{t:ITerm}{k:Nat}{e:IEdge}(c:t.to[k]? =some e)(h:uM blocks e=false):wn blocks t=false:=by
 unfold wn
 have:t.to.all (uM blocks)=false:=by
  rw[Bool.eq_false_iff];intro d;rw[Oe.1 d e (Ji c)] at h;cases h
 rw[this];rfl
theorem term_any{B:Nat}{cs:Array Value}{d1:Value}(c0:wX w B d1 blocks)(hB:B<=w.heap.size)(hC:Q w C cs 107)(h6:cs[6]? =some d1)(t:ITerm)(ht:I64 t.kind/\I64 t.a){tv:Value}(b1:wH w B tv t.to):
 T 78 #[L C,.agg #[I t.kind,I t.a,tv]] w (ym w (wn blocks t)):=by
 obtain⟨fa,fc,rfl,e6,e5⟩:=c0.form;obtain⟨ta,tc,rfl,e2,d8⟩:=b1.form;have g3:blocks.length<=9223372036854775807:=Zo;have f9:t.to.length<=9223372036854775807:=Zo;obtain⟨tk,b2⟩:∃x,t.kind=x:=⟨_,rfl⟩
 obtain⟨tA,b3⟩:∃x,t.a=x:=⟨_,rfl⟩
 have f5:=Ja c0;have f3:=Ja b1;obtain⟨res,a0⟩:∃x,wn blocks t=x:=⟨_,rfl⟩
 rw[a0,b2,b3];have u:=Ja (show wn blocks t=res/\t.kind=tk/\t.a=tA from⟨a0,b2,b3⟩);have c9:O w (w.alloc (A #[I tk,I tA,.slice ta t.to.length tc] 34)):=(Below.refl _ _).alloc (Je _) _;have b0:=zI (W:=w) (o:=A #[I tk,I tA,.slice ta t.to.length tc] 34) rfl;have i:=zB (o:=A #[I tk,I tA,.slice ta t.to.length tc] 34) hC;clear c0 b1 a0 b2 b3 hC e6 e5 e2 d8;go_enter Try.func78,Try.ntmps78;go_upto_region 1 with fail;generalize f2:w.alloc (A #[I tk,I tA,.slice ta t.to.length tc] 34)=W0 at *;have y2:=K2 b0;have c:=Ja c9;have d2:=Ja b0;have d4:=Ja i;clear f2 c9 b0 i;go_wp2
 go_loopw [10] (fun kv wx=>∃k:Nat,k<=t.to.length/\kv=I k/\Hid (O W0 wx/\(t.to.take k).all (uM blocks)=true)) (fun kv _=>t.to.length-(intOf kv).toNat)
 case atStart=>exact⟨0,Jt _,rfl,Ja ⟨Below.refl _ _,by rfl⟩⟩
 case round=>
  obtain⟨k,hk,rfl,HK⟩:=hrel
  by_cases a6:k<t.to.length
  ·have d5:(k:Int)<t.to.length:=Zo;have d3:=Ja a6;obtain⟨e,he⟩:∃e,t.to[k]? =some e:=⟨_,Jd a6⟩
   obtain⟨b,oo,rfl,hb,i,b5,av,c8,d0⟩:=f3.out.get he;obtain⟨aa,ac,rfl,f0,e8⟩:=d0.form;have g6:e.args.length<=9223372036854775807:=Zo;have b9:O w wr:=c.out.trans (HK.out.1.mono c.out.size);obtain⟨eb,a8⟩:∃x,e.block=x:=⟨_,rfl⟩
   rw[a8] at i;have e0:=zV b9 (Jy hb hB) i;have e1:=zV b9 (Jy hb hB) c8;have d:=zH HK.out.1 d4.out (lt_of_block d4.out);have HT:=Ja (show(t.to.take (k+1)).all (uM blocks)=((t.to.take k).all (uM blocks) && uM blocks e)/\(uM blocks e=false->wn blocks t=false) from⟨xX (uM blocks) he,fun h=>edge_bad he h⟩);have HE:=Ja a8;have c2:I64 eb:=a8 ▸ b5;obtain⟨g5,g4⟩:=c2;have c4:=zB (o:=A #[I eb,.slice aa e.args.length ac] 93) d;have a9:=zI (W:=wr) (o:=A #[I eb,.slice aa e.args.length ac] 93) rfl;have c3:=HK.out.1.alloc (HK.out.1.size) (A #[I eb,.slice aa e.args.length ac] 93);clear i c8 d0 he d a6 f0 e8 b5 a8 y2;go_upto_region 4 with fail;generalize f1:wr.alloc (A #[I eb,.slice aa e.args.length ac] 93)=W1 at *;generalize wr.heap.size=b6 at *;have f7:=K0 a9;have f6:=K1 a9;have zc:U W1 C 6 (.slice fa blocks.length fc):=zA c4 h6;have y:=Ja c3;clear f1 a9 c4 c3 b9 e0 e1
   by_cases g1:1<=eb
   ·have t1:decide (eb<1)=false:=decide_eq_false Zo;obtain⟨j,rfl⟩:∃j:Nat,eb=(j:Int):=⟨eb.toNat,by omega⟩
    by_cases g2:j<blocks.length
    ·have t2:decide ((blocks.length:Int)<=(j:Int))=false:=decide_eq_false Zo;have d6:decide (blocks.length<=j)=false:=decide_eq_false Zo;have d7:(j:Int)<(blocks.length:Int):=Zo;obtain⟨bx,b7⟩:∃bx,blocks[j]? =some bx:=⟨_,Jd g2⟩
     obtain⟨fb,fo,rfl,e7,_,_,_,pv,ov,f8,c7,_,_,c5,_⟩:=f5.out.get b7;obtain⟨pa,pc,rfl,e4,e3⟩:=c5.form;have g0:bx.params.length<=9223372036854775807:=Zo;have b8:O w W1:=c.out.trans (y.out.mono c.out.size);have p0:=zV b8 (Jy e7 hB) c7;obtain⟨q3,b4⟩:∃q,decide (e.args.length=bx.params.length)=q:=⟨_,rfl⟩
     have t3:((e.args.length:Int) !=(bx.params.length:Int))=!q3:=by
      rw[bne,z6 (q:=q3) (zZ b4 Zo)]
     have g:uM blocks e=q3:=by
      unfold uM xz;rw[HE.out,decide_eq_true g1,decide_eq_true d7,Ni,Jj,b7,Ot,b4];rfl
     have l:=Ja g;clear b7 c7 c5 e4 e3 b8 g b4 g2
     cases q3 with
     |true=>
      go_quiet (fail);go_wp2;go_roundw
      case rel=>exact⟨k+1,d3.out,by go_num,Ja ⟨yC y.out,by rw[HT.out.1,HK.out.2,l.out];rfl⟩⟩
      case measure=>have:=d3.out;simp[intOf];omega
     |false=>
      go_quiet (fail);go_wp2;go_ret;exact⟨uz (u.out.1.symm.trans (HT.out.2 l.out)),yC (c.out.trans (y.out.mono c.out.size))⟩
    ·have t2:decide ((blocks.length:Int)<=(j:Int))=true:=decide_eq_true Zo;have d6:decide (blocks.length<=j)=true:=decide_eq_true Zo
     have g:uM blocks e=false:=by
      unfold uM;rw[HE.out,decide_eq_false (show ¬(j:Int)<(blocks.length:Int) by omega),Uh];rfl
     have l:=Ja g;clear g g2;go_quiet (fail);go_wp2;go_ret;exact⟨uz (u.out.1.symm.trans (HT.out.2 l.out)),yC (c.out.trans (y.out.mono c.out.size))⟩
   ·have t1:decide (eb<1)=true:=decide_eq_true Zo
    have g:uM blocks e=false:=by
     unfold uM;rw[HE.out,decide_eq_false g1];rfl
    have l:=Ja g;clear g g1;go_quiet (fail);go_wp2;go_ret;exact⟨uz (u.out.1.symm.trans (HT.out.2 l.out)),yC (c.out.trans (y.out.mono c.out.size))⟩
  ·obtain rfl:k=t.to.length:=by omega
   have d5:¬(t.to.length:Int)<t.to.length:=Zo;have d:=zH HK.out.1 d2.out (lt_of_block d2.out);have z0:=K0 d;have z1:=K1 d;have z2:=K2 d;have c1:t.to.all (uM blocks)=true:=by have:=HK.out.2;rwa [Nl] at this
   have HR:Hid ((if tk=1 then decide (t.to.length=1) && decide (tA=0)
    else if tk=2 then decide (t.to.length=2)
    else if tk=3 then decide (1<=t.to.length)
    else if tk=4 then decide (t.to.length=0)
    else if tk=5 then decide (t.to.length=0) && decide (tA=0)
    else false)=res):=by
    have h:=u.out;unfold wn at h;rw[c1,Bool.true_and,h.2.1,h.2.2] at h;exact h.1
   have m:=Ja (show O w wr from c.out.trans (HK.out.1.mono c.out.size));obtain⟨a1,h1⟩:∃q,decide (t.to.length=1)=q:=⟨_,rfl⟩
   obtain⟨a2,h2⟩:∃q,decide (t.to.length=2)=q:=⟨_,rfl⟩
   obtain⟨a3,h3⟩:∃q,decide (1<=t.to.length)=q:=⟨_,rfl⟩
   obtain⟨a4,h4⟩:∃q,decide (t.to.length=0)=q:=⟨_,rfl⟩
   obtain⟨a5,h5⟩:∃q,decide (tA=0)=q:=⟨_,rfl⟩
   rw[h1,h2,h3,h4,h5] at HR;have t1:((t.to.length:Int)==1)=a1:=z6 (zZ h1 Zo);have t2:((t.to.length:Int)==2)=a2:=z6 (zZ h2 Zo);have t3:decide ((1:Int)<=(t.to.length:Int))=a3:=zZ h3 Zo;have t4:((t.to.length:Int)==0)=a4:=z6 (zZ h4 Zo);have t5:=z6 h5;clear c1 d h1 h2 h4 h5 y2 a6
   by_cases k1:tk=1
   ·subst k1;cases a1<;>cases a5
    all_goals go_wp2
    all_goals go_ret
    all_goals exact⟨uz (HR.out.symm.trans rfl),m.out⟩
   by_cases k2:tk=2
   ·subst k2;go_wp2;go_ret;exact⟨uz (HR.out.symm.trans rfl),m.out⟩
   by_cases k3:tk=3
   ·subst k3;go_wp2;go_ret;exact⟨uz (HR.out.symm.trans rfl),m.out⟩
   by_cases k4:tk=4
   ·subst k4;go_wp2;go_ret;exact⟨uz (HR.out.symm.trans rfl),m.out⟩
   by_cases k5:tk=5
   ·subst k5;cases a4<;>cases a5
    all_goals go_wp2
    all_goals go_ret
    all_goals exact⟨uz (HR.out.symm.trans rfl),m.out⟩
   have f4:Hid (false=res):=by
    have:=HR.out;rw[if_neg k1,if_neg k2,if_neg k3,if_neg k4,if_neg k5] at this;exact this
   have u1:(tk==1)=false:=by rw[beq_eq_false_iff_ne];exact k1
   have u2:(tk==2)=false:=by rw[beq_eq_false_iff_ne];exact k2
   have u3:(tk==3)=false:=by rw[beq_eq_false_iff_ne];exact k3
   have u4:(tk==4)=false:=by rw[beq_eq_false_iff_ne];exact k4
   have u5:(tk==5)=false:=by rw[beq_eq_false_iff_ne];exact k5
   clear k1 k2 k3 k4 k5 HR;go_wp2;go_ret;exact⟨uz f4.out.symm,m.out⟩
theorem cnt_lt(hi:i<=2000000)(c:j<=2000000):i*4000000+j<9000000000000000000:=by omega
theorem cnt_lt2(hi:i<=2000000)(c:j<=2000000):i*4000000+2000000+j<9000000000000000000:=by omega
theorem cnt_0 (i:Nat):i*4000000<=i*4000000+0:=by omega
theorem cnt_1 (i j:Nat):i*4000000+j+1<=i*4000000+(j+1):=by omega
theorem cnt_2(h:j<=2000000):i*4000000+j<=i*4000000+2000000+0:=by omega
theorem cnt_3 (i j:Nat):i*4000000+2000000+j+1<=i*4000000+2000000+(j+1):=by omega
theorem cnt_3' (i j:Nat):i*4000000+2000000+j<=i*4000000+2000000+(j+1):=by omega
theorem cnt_4(h:j<=2000000):i*4000000+2000000+j<=(i+1)*4000000:=by omega
theorem wA.le{b n:Nat}{g:Int->Option Int}(h:wA w b n g)(d:n<=n'):wA w b n' g:=by
 obtain⟨D,⟨es,c,k1,k2,k3,k4⟩,k5⟩:=h;exact⟨D,⟨es,c,k1,k2,Jn k3 d,k4⟩,k5⟩
theorem ChkAt.le{pv:List Value}{g c:Value}{n:Nat}(h:ChkAt w C m1 m2 pv g c n d)(i:n<=n'):ChkAt w C m1 m2 pv g c n' d:=
 ⟨h.blk,h.plen,h.map1.le i,h.map2.le i,h.ne,h.dom⟩
theorem qL {n:Nat}(h:n<=9000000):I64 (n:Int):=⟨by omega,by omega⟩
theorem blkF_eq{p:IProg}{i:Int}{b:IBlk}{d2:wO}(g:vJ i b.params d=some d1)(c:sS p i b.ops 0 d1=some d2):pS p bl i b d=if wn bl b.term then some d2 else none:=by
 unfold pS;rw[g,Nw,c,Nw]
theorem mS{p:IProg}{i:Int}{b:IBlk}(c:vJ i b.params d=none):pS p bl i b d=none:=by
 unfold pS;rw[c];rfl
theorem mm{p:IProg}{i:Int}{b:IBlk}(g:vJ i b.params d=some d1)(c:sS p i b.ops 0 d1=none):pS p bl i b d=none:=by
 unfold pS;rw[g,Nw,c];rfl
theorem lM{B:Nat}{V:PV}{p:IProg}{g2 d3:Value}(hp:ProgIn w B V p)(g1:wX w B g2 blocks)(hB:B<=w.heap.size)(h1:B<=m1)(h2:B<=m2)(hl:p.args.length=p.funcs.length)(hs:vZ blocks)
 (hc:ChkAt w C m1 m2 (rC V p) g2 d3 0 df):
 T 62 #[L C] w (ShpPost w C m1 m2 (rC V p) g2 d3 (wg p blocks)):=by
 obtain⟨fa,fc,rfl,m5,m4⟩:=g1.form;have o4:blocks.length<=9223372036854775807:=Zo;have l0:=Ja g1;have m:=Ja (show ProgIn w B V p/\B<=w.heap.size/\B<=m1/\B<=m2/\p.args.length=p.funcs.length/\vZ blocks from⟨hp,hB,h1,h2,hl,hs⟩);have o5:=Ja hc.ne1;have o6:=Ja (Jb hc.map1.lt hc.map2.lt);have n5:=Ja hc;obtain⟨res,e5⟩:∃x,wg p blocks=x:=⟨_,rfl⟩
 rw[e5];have t:=Ja e5;have y6:U w C 6 (.slice fa blocks.length fc):=zA hc.blk rfl;clear hp g1 hB h1 h2 hl hs hc e5 m5 m4;go_enter Try.func62,Try.ntmps62;go_wp2
 go_loopw [15] (fun kv wx=>∃i:Nat,i<=blocks.length/\kv=I i/\Hid (Kept m1 m2 w wx/\∃d,ChkAt wx C m1 m2 (rC V p) (.slice fa blocks.length fc) d3 (i*4000000) d/\uH p blocks (blocks.take i) 0 df=some d)) (fun kv _=>blocks.length-(intOf kv).toNat)
 case atStart=>exact⟨0,Jt _,rfl,Ja ⟨Kept.refl _ _ _,df,n5.out,rfl⟩⟩
 case round=>
  obtain⟨i,hi,rfl,HI⟩:=hrel
  by_cases e8:i<blocks.length
  ·have l2:(i:Int)<blocks.length:=Zo;have k9:=Ja e8;obtain⟨bx,b2⟩:∃bx,blocks[i]? =some bx:=⟨_,Jd e8⟩
   obtain⟨fb,fo,rfl,d4,k1,a6,f9,pv,ov,tv,j1,i8,i2,f5,f7,f4⟩:=l0.out.get b2;obtain⟨pa,pc,rfl,l8,l7⟩:=f5.form;obtain⟨oa,oc,rfl,m3,l9⟩:=f7.form;obtain⟨ta,tc,rfl,l5,l4⟩:=f4.form;have o2:bx.params.length<=9223372036854775807:=Zo;have o3:bx.ops.length<=9223372036854775807:=Zo;have g:Below B w wr:=HI.out.1.below m.out.2.2.1 m.out.2.2.2.1 m.out.2.1;have e0:=zV g d4 j1;have e1:=zV g d4 i8;have e2:=zV g d4 k1;have e3:=zV g d4 a6;have e4:=zV g d4 i2;have u:=Ja (show blocks[i]? =some bx/\zY w B (.slice pa bx.params.length pc) bx.params/\mN w B (.slice oa bx.ops.length oc) bx.ops/\wH w B (.slice ta bx.term.to.length tc) bx.term.to/\(I64 bx.term.kind/\I64 bx.term.a) from⟨b2,f5,f7,f4,f9⟩);obtain⟨d,h,c⟩:=HI.out.2;have k2:=h.below ((Below.refl wr.heap.size wr).alloc (Je _) (A #[.slice pa bx.params.length pc,.slice oa bx.ops.length oc,I bx.term.kind,I bx.term.a,.slice ta bx.term.to.length tc] 36));have k7:=Ja (Jb h.map1.lt h.map2.lt);have a1:=Ja c;have f3:=zI (W:=wr) (o:=A #[.slice pa bx.params.length pc,.slice oa bx.ops.length oc,I bx.term.kind,I bx.term.a,.slice ta bx.term.to.length tc] 36) rfl;have k0:=HI.out.1.trans (Kept.of ((Below.refl wr.heap.size wr).alloc (Je _) (A #[.slice pa bx.params.length pc,.slice oa bx.ops.length oc,I bx.term.kind,I bx.term.a,.slice ta bx.term.to.length tc] 36)));clear b2 k1 a6 f9 j1 i8 i2 f5 f7 f4 l8 l7 m3 l9 l5 l4 g h c e8 y6;go_upto_region 4 with fail;generalize n2:wr.alloc (A #[.slice pa bx.params.length pc,.slice oa bx.ops.length oc,I bx.term.kind,I bx.term.a,.slice ta bx.term.to.length tc] 36)=W1 at *;generalize l:wr.heap.size=b4 at *;have z0:=K0 f3;have d5:=Ja (show Q W1 b4 #[.slice pa bx.params.length pc,.slice oa bx.ops.length oc,I bx.term.kind,I bx.term.a,.slice ta bx.term.to.length tc] 36/\b4≠m1/\b4≠m2 from⟨f3,by have:=k7.out.1;omega,by have:=k7.out.2;omega⟩);have g6:=Ja k0;have n4:=Ja k2;have d6:=Ja (m.out.2.2.2.2.2.2 bx (Ji u.out.1));have f1:=Ja (show i<=2000000 from Jn hi m.out.2.2.2.2.2.1);clear n2 l f3 k2 k0 e0 e1 e2 e3 e4;go_wp2
   go_loopw [23] (fun jv wx=>∃j:Nat,j<=bx.params.length/\jv=I j/\Hid (Kept m1 m2 W1 wx/\∃d',ChkAt wx C m1 m2 (rC V p) (.slice (some ⟨fb,fo,none⟩) blocks.length fc) d3 (i*4000000+j) d'/\vJ i (bx.params.take j) d=some d')) (fun jv _=>bx.params.length-(intOf jv).toNat)
   case atStart=>exact⟨0,Jt _,rfl,Ja ⟨Kept.refl _ _ _,d,n4.out.le (cnt_0 i),rfl⟩⟩
   case round=>
    obtain⟨j,hj,rfl,HJ⟩:=hrel
    by_cases b0:j<bx.params.length
    ·have h5:(j:Int)<bx.params.length:=Zo;have g5:=Ja b0;obtain⟨v,hv⟩:∃v,bx.params[j]? =some v:=⟨_,Jd b0⟩
     obtain⟨qb,qo,rfl,y,e7,b6⟩:=u.out.2.1.get hv;rw[Nk] at e7;have g:Below B w wr:=(g6.out.trans HJ.out.1).below m.out.2.2.1 m.out.2.2.2.1 m.out.2.1;have cv:=zV g y e7;obtain⟨d',h,c⟩:=HJ.out.2;have HV:=Ja (show bx.params[j]? =some v/\vJ i (bx.params.take j) d=some d' from⟨hv,c⟩);have c8:I64 (i:Int):=qL (by have:=f1.out;omega);have c7:I64 (-1):=⟨by omega,by omega⟩
     cases a0:rB d' v i (-1) with
     |none=>
      have HD:=Ja a0;have d0:=Ja (oK h v i (-1) b6 c8 c7 a0);clear hv e7 y g h c a0 c8 c7 b0 b6 z0;go_wp2_with (go_at_call 76;go_must (refine d0.out.mono ?_;intro e w1 hh;obtain⟨rfl,hw⟩:=hh;rw[hw];clear hw))
      go_ret;refine⟨?_,g6.out.trans HJ.out.1,fun d2 hd2=>?_⟩
      ·rw[<-t.out,wS,abe u.out.1 a1.out (mS (qr HV.out.1 HV.out.2 HD.out))];rfl
      ·rw[<-t.out,wS,abe u.out.1 a1.out (mS (qr HV.out.1 HV.out.2 HD.out))] at hd2;cases hd2
     |some d2=>
      have HD:=Ja a0;have d0:=Ja (qk h (cnt_lt f1.out (Jn hj d6.out.1)) v i (-1) b6 c8 c7 a0);clear hv e7 y g h c a0 c8 c7 b0 b6 z0;go_wp2_with (go_at_call 76;go_must (refine d0.out.mono ?_;rintro e w1 ⟨rfl,b1,a6⟩))
      have d8:=Ja (Jb b1 a6);clear b1 a6;go_roundw
      case rel=>exact⟨j+1,g5.out,by go_num,Ja ⟨HJ.out.1.trans d8.out.2,d2,d8.out.1.le (cnt_1 i j),(aC HV.out.1 HV.out.2).trans HD.out⟩⟩
      case measure=>have:=g5.out;simp[intOf];omega
    ·obtain rfl:j=bx.params.length:=by omega
     have h5:¬(bx.params.length:Int)<bx.params.length:=Zo;obtain⟨d1,h,c⟩:=HJ.out.2;rw[Nl] at c;have g8:=Ja c;have f2:=Ja h;have a2:=HJ.out.1.blk d5.out.1 d5.out.2.1 d5.out.2.2;have z1:=K1 a2;have n3:=Ja a2;have b5:=Ja (g6.out.trans HJ.out.1);clear h c b0 a2 z0;generalize wr=W2 at *;go_wp2
     go_loopw [36] (fun kv wx=>∃k:Nat,k<=bx.ops.length/\kv=I k/\Hid (Kept m1 m2 W2 wx/\∃d',ChkAt wx C m1 m2 (rC V p) (.slice (some ⟨fb,fo,none⟩) blocks.length fc) d3 (i*4000000+2000000+k) d'/\sS p i (bx.ops.take k) 0 d1=some d')) (fun kv _=>bx.ops.length-(intOf kv).toNat)
     case atStart=>exact⟨0,Jt _,rfl,Ja ⟨Kept.refl _ _ _,d1,f2.out.le (cnt_2 d6.out.1),rfl⟩⟩
     case round=>
      obtain⟨k,hk,rfl,HK⟩:=hrel
      by_cases b9:k<bx.ops.length
      ·have h4:(k:Int)<bx.ops.length:=Zo;have c9:=Ja b9;obtain⟨o,ho⟩:∃o,bx.ops[k]? =some o:=⟨_,Jd b9⟩
       obtain⟨qb,qo,rfl,y,i1,i0,h9,h8,h7,f8,av,h6,k4⟩:=u.out.2.2.1.get ho;obtain⟨aa,ac,rfl,k5,k3⟩:=k4.form;have g:Below B w wr:=(b5.out.trans HK.out.1).below m.out.2.2.1 m.out.2.2.2.1 m.out.2.1;have c0:=zV g y i1;have c1:=zV g y i0;have c2:=zV g y h9;have c3:=zV g y h8;have c4:=zV g y h7;have c5:=zV g y h6;obtain⟨d',h,c⟩:=HK.out.2;have HV:=Ja (show bx.ops[k]? =some o/\sS p i (bx.ops.take k) 0 d1=some d' from⟨ho,c⟩);have g3:=Ja (show(I64 o.code/\I64 o.res/\I64 o.a/\I64 o.b/\o.n<65536)/\o.args.length<=ac/\ac<=9223372036854775807 from⟨f8,k5,k3⟩);have e6:=(Below.refl wr.heap.size wr).alloc (Je _) (A (D o aa ac) 27);have a3:=zI (W:=wr) (o:=A (D o aa ac) 27) rfl;have j2:=HK.out.1.trans (Kept.of e6);have g0:=h.below e6;have b2:Below B w (wr.alloc (A (D o aa ac) 27)):=g.alloc (Jn m.out.2.1 g.size) _;have g4:=Ja (Jb h.map1.lt h.map2.lt);clear ho i1 i0 h9 h8 h7 h6 f8 k4 k5 k3 g h c b9 z1;go_upto_region 13 with fail;generalize n1:wr.alloc (A (D o aa ac) 27)=W3 at *;generalize n0:wr.heap.size=b8 at *;have o1:=K0 a3;have o0:=K1 a3;have n9:=K2 a3;have n8:=K3 a3;have n7:=K4 a3;have n6:=K5 a3;have f6:=oper_any (m.out.1.below b2) (Jn m.out.2.1 b2.size) g0.blk m.out.2.2.2.2.1 o g3.out.1 aa ac g3.out.2;unfold opV at f6;have d7:=Ja f6;have f0:=Ja j2;have h0:=Ja g0;have b3:=Ja a3;have o9:=Ja (show b8≠m1/\b8≠m2 from⟨by have:=g4.out.1;omega,by have:=g4.out.2;omega⟩);clear f6 j2 g0 a3 n1 n0 b2 e6 c0 c1 c2 c3 c4 c5;obtain⟨q,hq⟩:∃q,opF p o=q:=⟨_,rfl⟩
       rw[hq] at d7;have HQ:=Ja hq;clear hq
       cases q with
       |false=>
        go_wp2_with (first|(go_at_call 77;go_must (refine d7.out.mono ?_;rintro e w4 ⟨rfl,l⟩))|go_in)
        go_ret
        have a5:wg p blocks=none:=by
         rw[wS];exact abe u.out.1 a1.out (mm g8.out (oR HV.out.1 HV.out.2 (by unfold ug;rw[HQ.out];rfl)))
        refine⟨?_,(b5.out.trans f0.out).trans (Kept.of l),fun d2 hd2=>?_⟩
        ·rw[<-t.out,a5];rfl
        ·rw[<-t.out,a5] at hd2;cases hd2
       |true=>
        by_cases hr:0<=o.res
        ·have t1:decide (0<=o.res)=true:=decide_eq_true hr;have HR:=Ja hr;obtain⟨r,a0⟩:∃r,rB d' o.res i k=r:=⟨_,rfl⟩
         have HD:=Ja a0;have h64:=Ja (show I64 o.res/\I64 (i:Int)/\I64 (k:Int) from⟨g3.out.1.2.1,qL (Jn f1.out Zd),qL (Jn (Jn hk d6.out.2.1) Zd)⟩);clear hr a0
         cases r with
         |none=>
          go_wp2_with (first|(go_at_call 77;go_must (refine d7.out.mono ?_;rintro e w4 ⟨rfl,l⟩;have a8:=h0.out.below l;have a4:=zH l b3.out (lt_of_block b3.out);have u1:=K1 a4;have a9:=Ja (Jb a8 l);clear a8 l a4))|(go_at_call 76;go_must (refine(oK a9.out.1 o.res i k h64.out.1 h64.out.2.1 h64.out.2.2 HD.out).mono ?_;intro e w5 hh;obtain⟨rfl,hw⟩:=hh;rw[hw];clear hw))|go_in)
          go_ret
          have a5:wg p blocks=none:=by
           rw[wS];exact abe u.out.1 a1.out (mm g8.out (oR HV.out.1 HV.out.2 (by unfold ug;rw[HQ.out,if_pos rfl,if_pos HR.out,HD.out])))
          refine⟨?_,(b5.out.trans f0.out).trans (Kept.of a9.out.2),fun d2 hd2=>?_⟩
          ·rw[<-t.out,a5];rfl
          ·rw[<-t.out,a5] at hd2;cases hd2
         |some d2=>
          go_wp2_with (first|(go_at_call 77;go_must (refine d7.out.mono ?_;rintro e w4 ⟨rfl,l⟩;have a8:=h0.out.below l;have a4:=zH l b3.out (lt_of_block b3.out);have u1:=K1 a4;have a9:=Ja (Jb a8 l);clear a8 l a4))|(go_at_call 76;go_must (refine(qk a9.out.1 (cnt_lt2 f1.out (Jn hk d6.out.2.1)) o.res i k h64.out.1 h64.out.2.1 h64.out.2.2 HD.out).mono ?_;rintro e w5 ⟨rfl,b1,a6⟩;have d8:=Ja (Jb b1 a6);clear b1 a6))|go_in)
          go_roundw
          case rel=>exact⟨k+1,c9.out,by go_num,Ja ⟨(f0.out.trans (Kept.of a9.out.2)).trans d8.out.2,d2,d8.out.1.le (cnt_3 i k),(cK HV.out.1 HV.out.2).trans (by unfold ug;rw[HQ.out,if_pos rfl,if_pos HR.out,HD.out])⟩⟩
          case measure=>have:=c9.out;simp[intOf];omega
        ·have t1:decide (0<=o.res)=false:=decide_eq_false hr;have HR:=Ja hr;clear hr;go_wp2_with (first|(go_at_call 77;go_must (refine d7.out.mono ?_;rintro e w4 ⟨rfl,l⟩;have a8:=h0.out.below l;have a4:=zH l b3.out (lt_of_block b3.out);have u1:=K1 a4;have a9:=Ja (Jb a8 l);clear a8 l a4))|go_in)
         go_roundw
         case rel=>exact⟨k+1,c9.out,by go_num,Ja ⟨f0.out.trans (Kept.of a9.out.2),d',a9.out.1.le (cnt_3' i k),(cK HV.out.1 HV.out.2).trans (by unfold ug;rw[HQ.out,if_pos rfl,if_neg (by have:=HR.out;omega)])⟩⟩
         case measure=>have:=c9.out;simp[intOf];omega
      ·obtain rfl:k=bx.ops.length:=by omega
       have h4:¬(bx.ops.length:Int)<bx.ops.length:=Zo;obtain⟨d2,h,c⟩:=HK.out.2;rw[Nl] at c;have a2:=HK.out.1.blk n3.out d5.out.2.1 d5.out.2.2;have z2:=K2 a2;have z3:=K3 a2;have z4:=K4 a2;have g:Below B w wr:=(b5.out.trans HK.out.1).below m.out.2.2.1 m.out.2.2.2.1 m.out.2.1;have b7:=term_any (l0.out.below yT g) (Jn m.out.2.1 g.size) h.blk rfl bx.term u.out.2.2.2.2 (u.out.2.2.2.1.below xL g);have h3:=Ja (blkF_eq (p:=p) (bl:=blocks) g8.out c);obtain⟨q,hq⟩:∃q,wn blocks bx.term=q:=⟨_,rfl⟩
       rw[hq] at b7 h3;have k6:=Ja b7;have l3:=Ja h;clear h c a2 g b7 hq b9 z1
       cases q with
       |false=>
        go_wp2_with (first|(go_at_call 78;go_must (refine k6.out.mono ?_;rintro e w4 ⟨rfl,l⟩))|go_in)
        go_ret
        have a5:wg p blocks=none:=by
         rw[wS];exact abe u.out.1 a1.out (by rw[h3.out];rfl)
        refine⟨?_,(b5.out.trans HK.out.1).trans (Kept.of l),fun d2 hd2=>?_⟩
        ·rw[<-t.out,a5];rfl
        ·rw[<-t.out,a5] at hd2;cases hd2
       |true=>
        go_wp2_with (first|(go_at_call 78;go_must (refine k6.out.mono ?_;rintro e w4 ⟨rfl,l⟩))|go_in)
        have l1:=Ja l;clear l;go_roundw
        case rel=>exact⟨i+1,k9.out,by go_num,Ja ⟨(b5.out.trans HK.out.1).trans (Kept.of l1.out),d2,(l3.out.below l1.out).le (cnt_4 d6.out.2.1),(lQ u.out.1 a1.out).trans (by rw[h3.out];rfl)⟩⟩
        case measure=>have:=k9.out;simp[intOf];omega
  ·obtain rfl:i=blocks.length:=by omega
   have l2:¬(blocks.length:Int)<blocks.length:=Zo;obtain⟨d,h,c⟩:=HI.out.2;rw[Nl] at c;have f2:=Ja (Jb h c);clear h c e8;go_wp2;go_ret;have hr:res=some d:=by rw[<-t.out,wS,f2.out.2]
   rw[hr];refine⟨rfl,HI.out.1,fun d2 hd2=>?_⟩;cases hd2;exact⟨_,cnt_lt m.out.2.2.2.2.2.1 (Jt _),f2.out.1.le (cnt_0 _)⟩
theorem jT {g:List (List Nat)}(hv:zw g)(h:g.length<=9000000):∀x∈wQ g,I64 x:=by
 intro x i;unfold wQ at i;obtain⟨c,k,rfl⟩:=Nu.1 i;rcases idomOf hv c with⟨d,_⟩|⟨c',d,_,j,_⟩
 ·rw[d];exact⟨by omega,by omega⟩
 ·have:=(cA hv j).1;rw[d];exact⟨by omega,by omega⟩
theorem lp {α:Type}:∀l:List α,l=[]∨∃a m,l=a::m
 | []=> .inl rfl
 |a::m=> .inr ⟨a,m,rfl⟩
theorem nA{B:Nat}{V:PV}{p:IProg}(hp:ProgIn w B V p)(hB:B<=w.heap.size)(hl:p.args.length=p.funcs.length)(ha:p.args.all tX=true)(hs:∀f∈p.funcs,vZ f){n:Nat}(hn:n<p.funcs.length):
 T 27 #[yH V p,I n] w (ym w (yi p n)):=by
 have m:=Ja (show ProgIn w B V p/\B<=w.heap.size/\p.args.length=p.funcs.length/\p.args.all tX=true/\∀f∈p.funcs,vZ f from⟨hp,hB,hl,ha,hs⟩);have C4:=@run_makeMap Try.prog;obtain⟨Vf,Va,Vd,Vb⟩:=V;obtain⟨f1,f2,e1,w5,w1⟩:=hp.funcs.form;have k6:=hp.funcs;have l3:=hp.args;obtain⟨a1,a2,e2,o1,n9⟩:=hp.args.form;obtain⟨d1,d2,e3,w9,w8⟩:=hp.data.form;obtain⟨b1,b2,e4,x1,x0⟩:=hp.banks.form;simp only at e1 e2 e3 e4 k6 l3;subst e1 e2 e3 e4;have C5:p.funcs.length<=9223372036854775807:=Zo;have C6:p.args.length<=9223372036854775807:=Zo;obtain⟨blocks,h7⟩:∃bl,p.funcs[n]? =some bl:=⟨_,Jd hn⟩
 obtain⟨x,hx⟩:∃x,p.args[n]? =some x:=⟨_,Jd Zo⟩
 obtain⟨fb,fo,rfl,b4,bv,f8,n7⟩:=k6.get h7;obtain⟨ab,ao,rfl,t2,g0,z7⟩:=l3.get hx;rw[Nk] at f8 g0;obtain⟨ba,bc,rfl,v0,u9⟩:=n7.form;have A2:blocks.length<=9223372036854775807:=Zo;unfold yH;simp only;obtain⟨res,f6⟩:∃x,yi p n=x:=⟨_,rfl⟩
 rw[f6];have o3:=Ja f6;have j:=Ja (show p.funcs[n]? =some blocks/\wX w B (.slice ba blocks.length bc) blocks/\vZ blocks/\p.args[n]? =some x from⟨h7,n7,hs _ (Ji h7),hx⟩);have n8:O w (w.alloc (A (R p (some ⟨fb,fo,none⟩) f2 (some ⟨ab,ao,none⟩) a2 d1 d2 b1 b2) 44)):=(Below.refl _ _).alloc (Je _) _;have cf:=zV n8 (Jy b4 hB) f8;have C2:(n:Int)<p.funcs.length:=Zo;have C3:(n:Int)<p.args.length:=Zo;have u2:=Ja (show ab<B/\U w ab (ao+n) (I x) from⟨t2,g0⟩);have i8:=zI (W:=w) (o:=A (R p (some ⟨fb,fo,none⟩) f2 (some ⟨ab,ao,none⟩) a2 d1 d2 b1 b2) 44) rfl;have k1:(w.alloc (A (R p (some ⟨fb,fo,none⟩) f2 (some ⟨ab,ao,none⟩) a2 d1 d2 b1 b2) 44)).heap.size=w.heap.size+1:=by simp
 clear hp k6 l3 hB hl ha hs hn w5 w1 o1 n9 w9 w8 x1 x0 h7 hx f6 n7 v0 u9 f8 g0 b4 t2;go_enter Try.func27,Try.ntmps27;go_upto_region 1 with fail;generalize x4:w.alloc (A (R p (some ⟨fb,fo,none⟩) f2 (some ⟨ab,ao,none⟩) a2 d1 d2 b1 b2) 44)=WP at *;have p0:=K0 i8;have s8:O w (WP.alloc (A #[.slice ba blocks.length bc] 39)):=n8.alloc Zo _;have y:=zB (o:=A #[.slice ba blocks.length bc] 39) i8;have j1:Q (WP.alloc (A #[.slice ba blocks.length bc] 39)) (w.heap.size+1) #[.slice ba blocks.length bc] 39:=zI k1;have e5:(WP.alloc (A #[.slice ba blocks.length bc] 39)).heap.size=w.heap.size+2:=by simp[k1]
 clear x4 n8 i8;go_upto_region 2 with fail;generalize x5:WP.alloc (A #[.slice ba blocks.length bc] 39)=WF at *;have q0:=K0 j1;clear x5 k1 p0 cf;have t7:=Ja (show O w WF from s8);clear s8;rcases lp blocks with a4|⟨b0,bs,a4⟩
 ·have hr:res=true:=by rw[<-o3.out];unfold yi;rw[Jj,j.out.1,a4];rfl
  have t0:((blocks.length:Int)==0)=true:=by rw[a4];rfl
  clear a4;go_wp2;go_ret;exact⟨uz hr,t7.out⟩
 ·have t0:((blocks.length:Int)==0)=false:=by rw[beq_eq_false_iff_ne,a4,Nq];omega
  have t8:=Ja a4;have A0:(0:Int)<blocks.length:=by rw[a4,Nq];omega
  have h0:blocks[0]? =some b0:=by rw[a4];rfl
  obtain⟨kb,ko,rfl,r6,_,_,_,pv,ov,tv,e7,_,_,e6,_,_⟩:=j.out.2.1.get h0;obtain⟨pa,pc,rfl,l2,k5⟩:=e6.form;have A1:b0.params.length<=9223372036854775807:=Zo;have t5:=Ja (Jb r6 e7);clear a4 h0 r6 e7 e6 l2 k5;have p0:=K0 y;have p1:=K1 y;have p2:=K2 y;have p3:=K3 y;have p4:=K4 y;have p5:=K5 y;go_upto_region 5 with fail;have t3:Q (((WF.alloc (.map #[] 0)).alloc (.map #[] 0)).alloc (A #[.slice (some ⟨fb,fo,none⟩) p.funcs.length f2,.slice (some ⟨ab,ao,none⟩) p.args.length a2,I p.entry,I p.handler,.slice d1 p.data.length d2,.slice b1 p.banks.length b2,.slice (some ⟨kb,ko,none⟩) blocks.length bc,.map (some (w.heap.size+2)),.map (some (w.heap.size+2+1)),F] 107)) (w.heap.size+2+1+1) #[.slice (some ⟨fb,fo,none⟩) p.funcs.length f2,.slice (some ⟨ab,ao,none⟩) p.args.length a2,I p.entry,I p.handler,.slice d1 p.data.length d2,.slice b1 p.banks.length b2,.slice (some ⟨kb,ko,none⟩) blocks.length bc,.map (some (w.heap.size+2)),.map (some (w.heap.size+2+1)),F] 107:=zI (by simp[e5]);have r5:(((WF.alloc (.map #[] 0)).alloc (.map #[] 0)).alloc (A #[.slice (some ⟨fb,fo,none⟩) p.funcs.length f2,.slice (some ⟨ab,ao,none⟩) p.args.length a2,I p.entry,I p.handler,.slice d1 p.data.length d2,.slice b1 p.banks.length b2,.slice (some ⟨kb,ko,none⟩) blocks.length bc,.map (some (w.heap.size+2)),.map (some (w.heap.size+2+1)),F] 107)).heap[w.heap.size+2]? =some (.map #[] 0):=zB (zB (zI e5));have r4:(((WF.alloc (.map #[] 0)).alloc (.map #[] 0)).alloc (A #[.slice (some ⟨fb,fo,none⟩) p.funcs.length f2,.slice (some ⟨ab,ao,none⟩) p.args.length a2,I p.entry,I p.handler,.slice d1 p.data.length d2,.slice b1 p.banks.length b2,.slice (some ⟨kb,ko,none⟩) blocks.length bc,.map (some (w.heap.size+2)),.map (some (w.heap.size+2+1)),F] 107)).heap[w.heap.size+2+1]? =some (.map #[] 0):=zB (zI (by simp[e5]));have b5:O w (((WF.alloc (.map #[] 0)).alloc (.map #[] 0)).alloc (A #[.slice (some ⟨fb,fo,none⟩) p.funcs.length f2,.slice (some ⟨ab,ao,none⟩) p.args.length a2,I p.entry,I p.handler,.slice d1 p.data.length d2,.slice b1 p.banks.length b2,.slice (some ⟨kb,ko,none⟩) blocks.length bc,.map (some (w.heap.size+2)),.map (some (w.heap.size+2+1)),F] 107)):=((t7.out.alloc Zo _).alloc Zt _).alloc Zt _;have q1:Q (((WF.alloc (.map #[] 0)).alloc (.map #[] 0)).alloc (A #[.slice (some ⟨fb,fo,none⟩) p.funcs.length f2,.slice (some ⟨ab,ao,none⟩) p.args.length a2,I p.entry,I p.handler,.slice d1 p.data.length d2,.slice b1 p.banks.length b2,.slice (some ⟨kb,ko,none⟩) blocks.length bc,.map (some (w.heap.size+2)),.map (some (w.heap.size+2+1)),F] 107)) w.heap.size (R p (some ⟨fb,fo,none⟩) f2 (some ⟨ab,ao,none⟩) a2 d1 d2 b1 b2) 44:=zB (zB (zB y));have n6:Q (((WF.alloc (.map #[] 0)).alloc (.map #[] 0)).alloc (A #[.slice (some ⟨fb,fo,none⟩) p.funcs.length f2,.slice (some ⟨ab,ao,none⟩) p.args.length a2,I p.entry,I p.handler,.slice d1 p.data.length d2,.slice b1 p.banks.length b2,.slice (some ⟨kb,ko,none⟩) blocks.length bc,.map (some (w.heap.size+2)),.map (some (w.heap.size+2+1)),F] 107)) (w.heap.size+1) #[.slice (some ⟨kb,ko,none⟩) blocks.length bc] 39:=zB (zB (zB j1));have q4:(((WF.alloc (.map #[] 0)).alloc (.map #[] 0)).alloc (A #[.slice (some ⟨fb,fo,none⟩) p.funcs.length f2,.slice (some ⟨ab,ao,none⟩) p.args.length a2,I p.entry,I p.handler,.slice d1 p.data.length d2,.slice b1 p.banks.length b2,.slice (some ⟨kb,ko,none⟩) blocks.length bc,.map (some (w.heap.size+2)),.map (some (w.heap.size+2+1)),F] 107)).heap.size=w.heap.size+2+1+1+1:=by simp[e5]
  generalize y4:((WF.alloc (.map #[] 0)).alloc (.map #[] 0)).alloc (A #[.slice (some ⟨fb,fo,none⟩) p.funcs.length f2,.slice (some ⟨ab,ao,none⟩) p.args.length a2,I p.entry,I p.handler,.slice d1 p.data.length d2,.slice b1 p.banks.length b2,.slice (some ⟨kb,ko,none⟩) blocks.length bc,.map (some (w.heap.size+2)),.map (some (w.heap.size+2+1)),F] 107)=W2 at *;generalize y5:w.heap.size+2+1+1=C at *;generalize u3:w.heap.size+2+1=m2 at *;generalize u4:w.heap.size+2=m1 at *;have a8:ChkAt W2 C m1 m2 (rC ⟨.slice (some ⟨fb,fo,none⟩) p.funcs.length f2,.slice (some ⟨ab,ao,none⟩) p.args.length a2,.slice d1 p.data.length d2,.slice b1 p.banks.length b2⟩ p) (.slice (some ⟨kb,ko,none⟩) blocks.length bc) (F) 0 df:=ChkAt.made t3 rfl r5 r4 Zo;have v2:=Ja a8;have H2:=Ja (show O w W2/\Q W2 (w.heap.size+1) #[.slice (some ⟨kb,ko,none⟩) blocks.length bc] 39/\W2.heap.size=C+1/\w.heap.size+2=m1/\m1+1=m2/\m2+1=C from⟨b5,n6,q4,by omega,by omega,by omega⟩);have c0:=K0 n6;have c1:=K1 q1;have c2:U W2 kb ko (.slice pa b0.params.length pc):=by have:=zV (b5.mono m.out.2.1) t5.out.1 t5.out.2;simpa using this
  have c3:U W2 ab (ao+n) (I x):=zV (b5.mono m.out.2.1) u2.out.1 u2.out.2;obtain⟨qe,k4⟩:∃q,decide ((b0.params.length:Int)=x)=q:=⟨_,rfl⟩
  have t1:((b0.params.length:Int) !=x)=!qe:=by rw[bne,z6 k4]
  have h3:p.args.getD n 0=x:=by rw[Jj,j.out.2.2.2];rfl
  have n4:yi p n=(qe && ((wg p blocks).map (iM blocks)).getD false):=by
   unfold yi;rw[Jj,j.out.1,Ot,t8.out];simp only;rw[h3,k4]
  rw[o3.out] at n4;have f5:=Ja n4;clear y4 y5 u3 u4 a8 b5 t3 r5 r4 q1 n6 q4 y j1 e5 q0 p0 p1 p2 p3 p4 p5 k4 h3 n4
  cases qe with
  |false=>
   go_quiet (fail);go_wp2;go_ret
   exact⟨uz f5.out,yC H2.out.1⟩
  |true=>
   have a5:O w W2.drew:=H2.out.1.drew;have a6:=a5.mono m.out.2.1;have q3:=lM (m.out.1.below a6) (j.out.2.1.below yT a6) (Jn m.out.2.1 a5.size) (by have:=m.out.2.1;have:=H2.out.2.2.2;omega) (by have:=m.out.2.1;have:=H2.out.2.2.2;omega) m.out.2.2.1 j.out.2.2.1 (v2.out.below ((Below.refl W2.heap.size W2).drew));have o2:=Ja q3;have i0:=Ja a5;clear q3 a5 a6;obtain⟨r,hr⟩:∃r,wg p blocks=r:=⟨_,rfl⟩
   rw[hr] at o2 f5;have HR:=Ja hr;clear hr
   cases r with
   |none=>
    refine zt 14 Zk Zk ?_;simp only[Qo,Uc,Qp,Ui]
    repeat (go_big_quiet_step (fail))
    refine wpQuiet_nil ?_;go_wp2_with (first|(go_at_call 62;go_must (refine o2.out.mono ?_;rintro e w3 ⟨rfl,f0,_⟩))|go_in)
    go_ret
    exact⟨uz f5.out,i0.out.trans (f0.below (by have:=H2.out.2.2.2;omega) (by have:=H2.out.2.2.2;omega) i0.out.size)⟩
   |some d=>
    refine zt 14 Zk Zk ?_;simp only[Qo,Uc,Qp,Ui]
    repeat (go_big_quiet_step (fail))
    refine wpQuiet_nil ?_;go_upto_region 7 with(first|(go_at_call 62;go_must (refine o2.out.mono ?_;rintro e w3 ⟨rfl,f0,s6⟩))|go_in)
    obtain⟨N,hN,a8⟩:=s6 d rfl;have t:=i0.out.trans (f0.below (by have:=H2.out.2.2.2;omega) (by have:=H2.out.2.2.2;omega) i0.out.size);have n5:=f0.blk (b:=w.heap.size+1) H2.out.2.1 (by have:=H2.out.2.2.2;omega) (by have:=H2.out.2.2.2;omega);have g6:∀b∈blocks,(∀o∈b.ops,opF p o=true)/\wn blocks b.term=true:=rV blocks 0 df d (by rw[<-wS];exact HR.out);have k0:C<w3.heap.size:=lt_of_block a8.blk;have s2:=ox (j.out.2.1.below yT (t.mono m.out.2.1)) (Jn m.out.2.1 t.size) ⟨j.out.2.2.1.1,fun b hb=>(j.out.2.2.1.2 b hb).2.2⟩;have HG:=Ja s2;have H3:=Ja (show O w w3/\Q w3 (w.heap.size+1) #[.slice (some ⟨kb,ko,none⟩) blocks.length bc] 39/\ChkAt w3 C m1 m2 (rC ⟨.slice (some ⟨fb,fo,none⟩) p.funcs.length f2,.slice (some ⟨ab,ao,none⟩) p.args.length a2,.slice d1 p.data.length d2,.slice b1 p.banks.length b2⟩ p) (.slice (some ⟨kb,ko,none⟩) blocks.length bc) (F) N d/\(∀b∈blocks,(∀o∈b.ops,opF p o=true)/\wn blocks b.term=true)/\C<w3.heap.size/\blocks≠ [] from⟨t,n5,a8,g6,k0,by rw[t8.out];simp⟩);have u0:=K0 n5;clear f0 s6 hN a8 t n5 g6 k0 s2 c0 c1 c2 c3 t1;have u8:(zk blocks).length=blocks.length:=by unfold zk;simp
    clear u8;go_upto_region 8 with(first|(go_at_call 22;go_must (refine HG.out.mono ?_;rintro e w4 ⟨gb,rfl,g8,s3,d3⟩))|go_in)
    have v8:(zk blocks).length=blocks.length:=by unfold zk;simp
    have f9:=(Below.refl w4.heap.size w4).alloc (Je _) (A #[.slice (some ⟨gb,0,none⟩) (zk blocks).length (zk blocks).length] 75);have k2:=g8.below f9;have d8:=d3.trans (f9.mono d3.size);have b8:O w (w4.alloc (A #[.slice (some ⟨gb,0,none⟩) (zk blocks).length (zk blocks).length] 75)):=H3.out.1.trans (d8.mono H3.out.1.size);have s4:=zH d8 H3.out.2.1 (lt_of_block H3.out.2.1);have h6:=H3.out.2.2.1.below d8;have n3:=zI (W:=w4) (o:=A #[.slice (some ⟨gb,0,none⟩) (zk blocks).length (zk blocks).length] 75) rfl;have l8:C<w4.heap.size:=Jy H3.out.2.2.2.2.1 d3.size;have m3:=H3.out.2.2.2.2.1;generalize y3:w4.alloc (A #[.slice (some ⟨gb,0,none⟩) (zk blocks).length (zk blocks).length] 75)=W5 at *;generalize w0:w4.heap.size=g4 at *;generalize n0:(zk blocks).length=gl at *
    have b7:∀W:World,OwnRows zN 3 25 W w3.heap.size gb (zk blocks)->GraphIn W (.slice (some ⟨gb,0,none⟩) gl gl) (zy blocks):=fun W hW=>by
     have:=hW.asRows (Je _);rw[n0] at this;exact bU j.out.2.2.1 H3.out.2.2.2.2.2 (fun b hb=>(H3.out.2.2.2.1 b hb).2) this
    have o6:=Ja (show(∀W:World,OwnRows zN 3 25 W w3.heap.size gb (zk blocks)->GraphIn W (.slice (some ⟨gb,0,none⟩) gl gl) (zy blocks))/\OwnRows zN 3 25 W5 w3.heap.size gb (zk blocks)/\w3.heap.size<=gb from⟨b7,k2,s3⟩);have t6:=Ja (b7 _ k2);have H5:=Ja (show O w W5/\Q W5 (w.heap.size+1) #[.slice (some ⟨kb,ko,none⟩) blocks.length bc] 39/\ChkAt W5 C m1 m2 (rC ⟨.slice (some ⟨fb,fo,none⟩) p.funcs.length f2,.slice (some ⟨ab,ao,none⟩) p.args.length a2,.slice d1 p.data.length d2,.slice b1 p.banks.length b2⟩ p) (.slice (some ⟨kb,ko,none⟩) blocks.length bc) (F) N d/\Q W5 g4 #[.slice (some ⟨gb,0,none⟩) gl gl] 75/\C<g4/\C<w3.heap.size from⟨b8,s4,h6,n3,l8,m3⟩);have u5:=K0 n3;clear f9 k2 d8 b8 s4 h6 n3 l8 m3 y3 w0 g8 d3 u0 s3 b7 n0 v8;go_upto_region 9 with(first|(go_at_call 63;go_must (refine(qP t6.out).mono ?_;rintro e w6 ⟨iv,rfl,d5,d0⟩;obtain⟨ia,ic,rfl⟩:=zG d5;have e8:=H5.out.2.2.1.below d0;have v9:U w6 C 9 (F):=zA e8.blk rfl;have vf:Y w6 C 9:=zE e8.blk))|go_in)
    have hv:=t6.out.valid;have nC:=zC d5 e8.blk (.inr Zd);have h1:=ownsRow_setCell_other (a:=⟨C,9,none⟩) d5 nC (.slice ia (wQ (zy blocks)).length ic);have m5:zY (w6.setCell ⟨C,9,none⟩ (.slice ia (wQ (zy blocks)).length ic)) (w6.setCell ⟨C,9,none⟩ (.slice ia (wQ (zy blocks)).length ic)).heap.size (.slice ia (wQ (zy blocks)).length ic) (wQ (zy blocks)):=uA h1 rfl (jT hv (by rw[xu];have:=j.out.2.2.1.1;omega));have h5:=e8.idom (.slice ia (wQ (zy blocks)).length ic);have a3:O w (w6.setCell ⟨C,9,none⟩ (.slice ia (wQ (zy blocks)).length ic)):=(H5.out.1.trans (d0.mono H5.out.1.size)).setCell (by have:=H2.out.2.2.2;simp;omega) _;have h4:=zR (a:=⟨C,9,none⟩) (u:=.slice ia (wQ (zy blocks)).length ic) (zH d0 H5.out.2.1 (lt_of_block H5.out.2.1)) (by have:=H2.out.2.2.2;simp;omega);have n2:=zR (a:=⟨C,9,none⟩) (u:=.slice ia (wQ (zy blocks)).length ic) (zH d0 H5.out.2.2.2.1 (lt_of_block H5.out.2.2.2.1)) (by have:=H5.out.2.2.2.2;simp;omega);have n1:=o6.out.1 _ ((o6.out.2.1.below d0).set (a:=⟨C,9,none⟩) (by have:=o6.out.2.2;have:=H5.out.2.2.2.2.2;simp;omega) (by have:=H5.out.2.2.2.2.2;simp;omega) (.slice ia (wQ (zy blocks)).length ic));generalize x8:w6.setCell ⟨C,9,none⟩ (.slice ia (wQ (zy blocks)).length ic)=W7 at *;have h:=Ja (show O w W7/\ChkAt W7 C m1 m2 (rC ⟨.slice (some ⟨fb,fo,none⟩) p.funcs.length f2,.slice (some ⟨ab,ao,none⟩) p.args.length a2,.slice d1 p.data.length d2,.slice b1 p.banks.length b2⟩ p) (.slice (some ⟨kb,ko,none⟩) blocks.length bc) (.slice ia (wQ (zy blocks)).length ic) N d/\zY W7 W7.heap.size (.slice ia (wQ (zy blocks)).length ic) (wQ (zy blocks))/\Q W7 (w.heap.size+1) #[.slice (some ⟨kb,ko,none⟩) blocks.length bc] 39/\zw (zy blocks) from⟨a3,h5,m5,h4,hv⟩)
    have l4:∀W,O W7 W->T 21 #[.agg #[.slice (some ⟨gb,0,none⟩) gl gl]] W fun e w'=>∃a c,e=.returned (.slice a (vD (zy blocks)).length c)/\O W w':=fun W hb=>by
     refine(iJ (n1.below hb)).mono ?_;rintro e w' ⟨ov,rfl,ho,hb⟩;obtain⟨a,c,rfl⟩:=zG ho;exact⟨a,c,rfl,hb⟩
    have v1:=Ja l4;have y0:=K0 h4;have y1:=K0 n2;have l0:=lt_of_block h4;have l1:=lt_of_block n2;have k7:=Below.refl W7.heap.size W7;clear d5 d0 e8 v9 vf h1 nC m5 h5 a3 h4 n2 n1 l4 u5 hv x8;obtain⟨qo,k3⟩:∃q,decide ((vD (zy blocks)).length=blocks.length)=q:=⟨_,rfl⟩
    have t1:(((vD (zy blocks)).length:Int) !=(blocks.length:Int))=!qo:=by rw[bne,z6 (q:=qo) (zZ k3 Zo)]
    have o4:=Ja k3;clear k3;generalize d6:(vD (zy blocks)).length=ol at *
    go_cut [57] (fun s wx=>s=.bool (!qo)/\Hid (O W7 wx))
    case first=>
     go_region_held3 (fun w'=>U w' (w.heap.size+1) 0 (.slice (some ⟨kb,ko,none⟩) blocks.length bc)/\U w' g4 0 (.slice (some ⟨gb,0,none⟩) gl gl)/\O W7 w')
      (first
        |(go_split_ands;refine⟨?_,?_,?_⟩<;>assumption)
        |(go_split_ands;refine⟨?_,?_,uG ?_⟩<;>assumption))
      (first|(go_at_call 21;go_must (refine(v1.out _ (by repeat' (first|assumption|(with_reducible refine Below.drew ?_)))).mono ?_;rintro e w2 ⟨qa,qc,rfl,b5⟩;have t:O W7 w2:=Below.trans (by repeat' (first|assumption|(with_reducible refine Below.drew ?_))) (b5.mono (Below.size (B:=W7.heap.size) (w:=W7) (by repeat' (first|assumption|(with_reducible refine Below.drew ?_)))));have B8:U w2 (w.heap.size+1) 0 (.slice (some ⟨kb,ko,none⟩) blocks.length bc):=zV t l0 y0;have B7:U w2 g4 0 (.slice (some ⟨gb,0,none⟩) gl gl):=zV t l1 y1)))
     all_goals
      go_wp2_with fail;go_meet;exact⟨rfl,Ja (by repeat' (first|assumption|(with_reducible refine Below.drew ?_)))⟩
    case rest=>
     obtain⟨rfl,HB⟩:=hcut
     cases qo with
     |false=>
      have hr:res=false:=by
       rw[f5.out,Option.map_some,Ot];unfold iM;rw[d6,o4.out];rfl
      go_wp2;go_ret
      exact⟨uz hr,h.out.1.trans (HB.out.mono h.out.1.size)⟩
     |true=>
      have hr:res=tO d (zy blocks) blocks 0:=by
       rw[f5.out,Option.map_some,Ot];unfold iM;rw[d6,o4.out];rfl
      have a9:=jl h.out.2.2.2.2 (by rw[d6,xu];exact of_decide_eq_true o4.out);have f4:=Ja (Jb hr a9);have y2:U wc (w.heap.size+1) 0 (.slice (some ⟨kb,ko,none⟩) blocks.length bc):=zV HB.out l0 y0;clear hr a9 y0 y1 k7 t1 d6;go_wp2
      go_loopw [61] (fun iv wx=>∃i:Nat,i<=blocks.length/\iv=I i/\Hid (O W7 wx/\tO d (zy blocks) (blocks.take i) 0=true)) (fun iv _=>blocks.length-(intOf iv).toNat)
      case atStart=>exact⟨0,Jt _,rfl,Ja ⟨HB.out,rfl⟩⟩
      case round=>
       obtain⟨i,hi,rfl,HI⟩:=hrel
       by_cases h2:i<blocks.length
       ·have u6:(i:Int)<blocks.length:=Zo;have h8:=Ja h2;obtain⟨bx,c9⟩:∃bx,blocks[i]? =some bx:=⟨_,Jd h2⟩
        obtain⟨b',o',e',b4,s1,s0,m4,C0,ov2,B9,e7,r3,r2,e6,l5,j2⟩:=j.out.2.1.get c9;cases e';obtain⟨g3,g2,rfl,l2,k5⟩:=e6.form;obtain⟨oa,oc,rfl,v6,v5⟩:=l5.form;obtain⟨ta,tc,rfl,v4,v3⟩:=j2.form;have C1:bx.ops.length<=9223372036854775807:=Zo;have l:Below B w wr:=(h.out.1.mono m.out.2.1).trans (HI.out.1.mono (Jn m.out.2.1 h.out.1.size));have e0:=zV l b4 e7;have e1:=zV l b4 r3;have e2:=zV l b4 s1;have e3:=zV l b4 s0;have e4:=zV l b4 r2;have a0:=Ja (show blocks[i]? =some bx/\mN w B (.slice oa bx.ops.length oc) bx.ops/\wH w B (.slice ta bx.term.to.length tc) bx.term.to/\(I64 bx.term.kind/\I64 bx.term.a)/\(bx.params.length<=2000000/\bx.ops.length<=2000000/\bx.term.to.length<=2000000)/\(∀o∈bx.ops,opF p o=true)/\wn blocks bx.term=true from⟨c9,l5,j2,m4,j.out.2.2.1.2 bx (Ji c9),(H3.out.2.2.2.1 bx (Ji c9)).1,(H3.out.2.2.2.1 bx (Ji c9)).2⟩);have i2:=zI (W:=wr) (o:=A #[.slice g3 bx.params.length g2,.slice oa bx.ops.length oc,I bx.term.kind,I bx.term.a,.slice ta bx.term.to.length tc] 36) rfl;have s9:=HI.out.1.alloc HI.out.1.size (A #[.slice g3 bx.params.length g2,.slice oa bx.ops.length oc,I bx.term.kind,I bx.term.a,.slice ta bx.term.to.length tc] 36);clear c9 s1 s0 m4 e7 r3 r2 e6 l5 j2 l2 k5 v6 v5 v4 v3 l h2 y2;go_upto_region 14 with fail;generalize x7:wr.alloc (A #[.slice g3 bx.params.length g2,.slice oa bx.ops.length oc,I bx.term.kind,I bx.term.a,.slice ta bx.term.to.length tc] 36)=W9 at *;generalize x3:wr.heap.size=b9 at *;have z1:=K1 i2;have H9:=Ja (show O W7 W9/\Q W9 b9 #[.slice g3 bx.params.length g2,.slice oa bx.ops.length oc,I bx.term.kind,I bx.term.a,.slice ta bx.term.to.length tc] 36 from⟨s9,i2⟩);clear x7 x3 i2 s9 e0 e1 e2 e3 e4;go_wp2
        go_loopw [69] (fun kv wx=>∃k:Nat,k<=bx.ops.length/\kv=I k/\Hid (O W9 wx/\xF d (zy blocks) i (bx.ops.take k) 0=true)) (fun kv _=>bx.ops.length-(intOf kv).toNat)
        case atStart=>exact⟨0,Jt _,rfl,Ja ⟨Below.refl _ _,rfl⟩⟩
        case round=>
         obtain⟨k,hk,rfl,HK⟩:=hrel
         by_cases d7:k<bx.ops.length
         ·have o9:(k:Int)<bx.ops.length:=Zo;have o5:=Ja d7;obtain⟨o,ho⟩:∃o,bx.ops[k]? =some o:=⟨_,Jd d7⟩
          obtain⟨qb,qo,rfl,c8,r1,r0,q9,q7,q6,l7,av,q5,o0⟩:=a0.out.2.1.get ho;obtain⟨aa,ac,rfl,o1,n9⟩:=o0.form;have g:O W7 wr:=H9.out.1.trans (HK.out.1.mono H9.out.1.size);have l:Below B w wr:=(h.out.1.mono m.out.2.1).trans (g.mono (Jn m.out.2.1 h.out.1.size));have c0:=zV l c8 r1;have c1:=zV l c8 r0;have c2:=zV l c8 q9;have c3:=zV l c8 q7;have c4:=zV l c8 q6;have c5:=zV l c8 q5;have b6:=zI (W:=wr) (o:=A (D o aa ac) 27) rfl;have s7:=HK.out.1.alloc HK.out.1.size (A (D o aa ac) 27);have a6:=l.alloc (Jn m.out.2.1 (Jn h.out.1.size g.size)) (A (D o aa ac) 27);have q2:=uses_any o l7 (Jn (Jn m.out.2.1 (Jn h.out.1.size g.size)) Zs) (o0.below zO a6) (aU m.out.2.2.2.1 (a0.out.2.2.2.2.2.1 o (Ji ho)));have HO:=Ja ho;clear ho r1 r0 q9 q7 q6 q5 l7 o0 o1 n9 l g d7 a6 z1;go_upto_region 17 with fail;generalize x6:wr.alloc (A (D o aa ac) 27)=WA at *;generalize x2:wr.heap.size=bA at *;have A8:=K0 b6;have A7:=K1 b6;have A6:=K2 b6;have A5:=K3 b6;have A4:=K4 b6;have A3:=K5 b6;have t4:=Ja q2;have d4:=Ja s7;clear q2 s7 b6 x6 x2 c0 c1 c2 c3 c4 c5;obtain⟨q,hq⟩:∃q,(rR o).all (yy d (zy blocks) i k)=q:=⟨_,rfl⟩
          have HQ:=Ja hq;clear hq
          have f3:∀W lv,O WA W->zY W W.heap.size lv (rR o)->T 64 #[L C,lv,I i,I k] W (ym W q):=fun W lv hb hin=>by
           have a3:O W7 W:=H9.out.1.trans ((d4.out.trans (hb.mono d4.out.size)).mono H9.out.1.size);rw[<-HQ.out];exact qI (h.out.2.1.below a3) h.out.2.2.2.2 f4.out.2 (by rw[xu];exact j.out.2.2.1.1) ((h.out.2.2.1.below zO a3).mono zO a3.size) (fun v b hv=>by rw[xu];exact rN HR.out v b hv) hin i (by rw[xu];exact h8.out) k (qL (Jn hk (Jn a0.out.2.2.2.2.1.2.1 Zd)))
          have h9:=Ja f3;clear f3
          cases q with
          |false=>
           go_wp2_with (first|(go_at_call 65;go_must (refine t4.out.mono ?_;rintro e wu ⟨uv,rfl,g5,b3⟩))|(go_at_call 64;go_must (refine(h9.out _ _ b3 g5).mono ?_;rintro e wd ⟨rfl,a5⟩))|go_in)
           go_ret
           have hr:res=false:=by
            rw[f4.out.1];refine pH a0.out.1 ?_;unfold aaC;rw[aeO HO.out HQ.out];rfl
           have y6:O W7 wd:=H9.out.1.trans ((d4.out.trans ((b3.trans (a5.mono b3.size)).mono d4.out.size)).mono H9.out.1.size)
           exact⟨uz hr,h.out.1.trans (y6.mono h.out.1.size)⟩
          |true=>
           go_wp2_with (first|(go_at_call 65;go_must (refine t4.out.mono ?_;rintro e wu ⟨uv,rfl,g5,b3⟩))|(go_at_call 64;go_must (refine(h9.out _ _ b3 g5).mono ?_;rintro e wd ⟨rfl,a5⟩))|go_in)
           have HN:=Ja (d4.out.trans ((b3.trans (a5.mono b3.size)).mono d4.out.size));clear b3 a5 g5;go_roundw
           case rel=>
            have g1:=Ja (show O W9 wd/\xF d (zy blocks) i (bx.ops.take (k+1)) 0=true from⟨HN.out,by rw[gZ HO.out,HK.out.2,HQ.out];rfl⟩)
            (repeat apply Exists.intro);exact⟨⟨k+1,o5.out,by go_num,g1⟩,rfl⟩
           case measure=>have:=o5.out;simp[intOf];omega
         ·obtain rfl:k=bx.ops.length:=by omega
          have o9:¬(bx.ops.length:Int)<bx.ops.length:=Zo;have g:O W7 wr:=H9.out.1.trans (HK.out.1.mono H9.out.1.size);have a6:Below B w wr:=(h.out.1.mono m.out.2.1).trans (g.mono (Jn m.out.2.1 h.out.1.size));have c7:=zH HK.out.1 H9.out.2 (lt_of_block H9.out.2);have f7:=HK.out.2;rw[Nl] at f7;have z2:=K1 c7;have z3:=K2 c7;have z4:=K3 c7;have z5:=K4 c7;have l9:=lt_of_block c7;have k9:=Below.refl wr.heap.size wr;obtain⟨q,hq⟩:∃q,(mE bx.term).all (yy d (zy blocks) i bx.ops.length)=q:=⟨_,rfl⟩
          have s5:∀W,O wr W->T 66 #[.agg #[I bx.term.kind,I bx.term.a,.slice ta bx.term.to.length tc]] W (wG W (mE bx.term)):=fun W hb=>
           ends_any bx.term a0.out.2.2.2.1 (Jn (Jn m.out.2.1 (Jn h.out.1.size g.size)) hb.size) (a0.out.2.2.1.below xL (a6.trans (hb.mono (Jn m.out.2.1 (Jn h.out.1.size g.size))))) ⟨a0.out.2.2.2.2.1.2.2,lD j.out.2.2.1 a0.out.2.2.2.2.2.2⟩
          have f3:∀W lv,O wr W->zY W W.heap.size lv (mE bx.term)->T 64 #[L C,lv,I i,I (bx.ops.length:Int)] W (ym W q):=fun W lv hb hin=>by
           have a3:O W7 W:=g.trans (hb.mono g.size);rw[<-hq];exact qI (h.out.2.1.below a3) h.out.2.2.2.2 f4.out.2 (by rw[xu];exact j.out.2.2.1.1) ((h.out.2.2.1.below zO a3).mono zO a3.size) (fun v b hv=>by rw[xu];exact rN HR.out v b hv) hin i (by rw[xu];exact h8.out) _ (qL (Jn a0.out.2.2.2.2.1.2.1 Zd))
          have z0:=Ja s5;have h9:=Ja f3;have HQ:=Ja (show aaC d (zy blocks) bx i=q from by unfold aaC;rw[f7,hq];rfl);have i1:=Ja g;clear hq s5 f3 f7 c7 a6 g d7 z1;go_wp2_with fail
          go_cut [91] (fun s wx=>s=.bool (!q)/\Hid (O wr wx))
          case first=>
           go_region_held3 (fun w'=>U w' b9 1 (.slice oa bx.ops.length oc)/\U w' b9 2 (I bx.term.kind)/\U w' b9 3 (I bx.term.a)/\U w' b9 4 (.slice ta bx.term.to.length tc)/\O wr w')
            (first
              |(go_split_ands;refine⟨?_,?_,?_,?_,?_⟩<;>assumption)
              |(go_split_ands;refine⟨?_,?_,?_,?_,uG ?_⟩<;>assumption))
            (first
              |(go_at_call 66;go_must (refine(z0.out _ (by repeat' (first|assumption|(with_reducible refine Below.drew ?_)))).mono ?_;rintro e w2 ⟨ev,rfl,w7,b5⟩;have t:Below wr.heap.size wr w2:=Below.trans (by repeat' (first|assumption|(with_reducible refine Below.drew ?_))) (b5.mono (Below.size (B:=wr.heap.size) (w:=wr) (by repeat' (first|assumption|(with_reducible refine Below.drew ?_)))));have B2:=zV t l9 z2;have B1:=zV t l9 z3;have B0:=zV t l9 z4;have A9:=zV t l9 z5))
              |(go_at_call 64;go_must (refine(h9.out _ _ (by repeat' (first|assumption|(with_reducible refine Below.drew ?_))) w7).mono ?_;rintro e w4 ⟨rfl,d3⟩;have b8:Below wr.heap.size wr w4:=Below.trans (by repeat' (first|assumption|(with_reducible refine Below.drew ?_))) (d3.mono (Below.size (B:=wr.heap.size) (w:=wr) (by repeat' (first|assumption|(with_reducible refine Below.drew ?_)))));have B6:=zV b8 l9 z2;have B5:=zV b8 l9 z3;have B4:=zV b8 l9 z4;have B3:=zV b8 l9 z5)))
           all_goals
            go_wp2_with fail;go_meet;exact⟨rfl,Ja (by repeat' (first|assumption|(with_reducible refine Below.drew ?_)))⟩
          case rest=>
           obtain⟨rfl,u1⟩:=hcut
           cases q with
           |false=>
            have hr:=Ja (show res=false by rw[f4.out.1];exact pH a0.out.1 HQ.out);go_wp2;go_ret
            exact⟨uz hr.out,h.out.1.trans ((i1.out.trans (u1.out.mono i1.out.size)).mono h.out.1.size)⟩
           |true=>
            go_wp2;go_roundw
            case rel=>
             have g1:=Ja (show O W7 wc/\tO d (zy blocks) (blocks.take (i+1)) 0=true from⟨i1.out.trans (u1.out.mono i1.out.size),by rw[mz a0.out.1,HI.out.2,HQ.out];rfl⟩)
             (repeat apply Exists.intro);exact⟨⟨i+1,h8.out,by go_num,g1⟩,rfl⟩
            case measure=>have:=h8.out;simp[intOf];omega
       ·obtain rfl:i=blocks.length:=by omega
        have u6:¬(blocks.length:Int)<blocks.length:=Zo;have a9:=HI.out.2;rw[Nl] at a9;have hr:=Ja (f4.out.1.trans a9);clear a9 h2 y2;go_wp2;go_ret;exact⟨uz hr.out,h.out.1.trans (HI.out.1.mono h.out.1.size)⟩
structure GrowP (c:Nat) (M M':MS):Prop where
 pos:M.pos<=M'.pos
 sz:M'.sz<=M.sz+c
 len:M.f.length<=M'.f.length
 nxt:M.next<=M'.next
 pre:M.vals<+:M'.vals
 cur:M.cur<M.f.length->M'.cur<M'.f.length
 left:M'.left<=M.left
 lft:6<=M.left+M.pos->6<=M'.left+M'.pos
 par:xU M.f M'.f
theorem GrowP.refl (M:MS):GrowP 0 M M:=⟨Je _,Je _,Je _,Je _,Od,fun h=>h,Og _,fun h=>h,xU.refl _⟩
theorem GrowP.trans{d:Nat}{M2:MS}(h:GrowP c M M1)(k:GrowP d M1 M2):GrowP (c+d) M M2:=
 ⟨Jn h.pos k.pos,by have:=h.sz;have:=k.sz;omega,Jn h.len k.len,Jn h.nxt k.nxt,h.pre.trans k.pre,fun e=>k.cur (h.cur e),Int.le_trans k.left h.left,fun e=>k.lft (h.lft e),h.par.trans k.par⟩
theorem GrowP.mono{d:Nat}(h:GrowP c M M1)(g:c<=d):GrowP d M M1:= {h with sz:=by have:=h.sz;omega }
theorem Grow.p{M':MS}(h:Grow c M M'):GrowP c M M':=⟨h.pos,h.sz,Ul h.len.symm,h.nxt,h.pre,fun e=>by rw[h.cur,h.len];exact e,Int.le_of_eq h.left,fun e=>by have:=h.left;have:=h.pos;omega,h.par⟩
theorem xM (M:MS)(p:Nat):GrowP (1+p) M (M.block p):=
 ⟨Je _,by rw[sz_block];omega,by unfold MS.block;simp,by unfold MS.block;simp,Od,fun e=>by unfold MS.block;simp;omega,Og _,fun e=>e,qX _ _⟩
theorem vW:∀(n:Nat) (M:MS),GrowP n M (xE n M)
 |0,M=>GrowP.refl M
 |n+1,M=>(vW n M).trans ((xM _ 0).mono Zo)
theorem tB:∀(n:Nat) (M:MS),(xE n M).f.length=M.f.length+n
 |0,M=>rfl
 |n+1,M=>by show((xE n M).f++ [_]).length=_;rw[Jk,tB n M];rfl
theorem yz (M:MS)(p:Nat):(M.block p).f.length=M.f.length+1:=by unfold MS.block;simp
theorem vk (M:MS)(c:Nat)(h:c<M.f.length):GrowP 0 M {M with cur:=c }:=⟨Je _,Je _,Je _,Je _,Od,fun _=>h,Og _,fun e=>e,xU.refl _⟩
theorem dO {α:Type}{l m:List α}(h:l<+:m):l.length<=m.length:=by obtain⟨t,rfl⟩:=h;simp
theorem uF {α:Type}{l m:List α}(h:l<+:m):m.take l.length=l:=by obtain⟨t,rfl⟩:=h;simp
theorem sY(h:GrowP c M M1):GrowP c M {M1 with vals:=M1.vals.take M.vals.length }:=by
 refine⟨h.pos,?_,h.len,h.nxt,by rw[uF h.pre];exact Od,h.cur,h.left,h.lft,h.par⟩;have d:=h.sz;have g:=dO h.pre;unfold MS.sz at d ⊢;simp only[uF h.pre];omega
def wM (E:ME)(join k:Nat)(M1:MS):MS:=
 if tkV E M1 12=11/\0<k then(zJ E M1.tick).2.endB ⟨4,(zJ E M1.tick).1,[]⟩ else(zJ E M1.tick).2.endB ⟨1,0,[⟨(join:Nat),[(zJ E M1.tick).1]⟩]⟩
theorem su (E:ME)(c k:Nat)(M1:MS):GrowP 5 M1 (wM E c k M1):=by
 have h:=((zT M1).trans (yU E _)).p;unfold wM
 split
 ·exact h.trans (yf _ _).p
 ·exact h.trans (yf _ _).p
theorem rg (E:ME)(c:MS->MS)(tg d keep n k:Nat)(M:MS):uV E c tg d keep (n+1) k M=uV E c tg d keep n (k+1) {wM E d k (c {M with cur:=tg+k }) with vals:=(wM E d k (c {M with cur:=tg+k })).vals.take keep }:=rfl
theorem pF (E:ME)(c:MS->MS)(P:Nat)(i:∀M,GrowP P M (c M))(tg d:Nat):∀(n k:Nat) (M:MS),tg+k+n<=M.f.length->GrowP (n*(P+5)) M (uV E c tg d M.vals.length n k M)/\(uV E c tg d M.vals.length n k M).vals=M.vals
 |0,k,M,h=>⟨(GrowP.refl M).mono Zo,rfl⟩
 |n+1,k,M,h=>by
  rw[rg];have h1:=((vk M (tg+k) Zo).trans ((i _).trans (su E d k (c {M with cur:=tg+k })))).mono (show 0+(P+5)<=P+5 by omega);have j:=sY h1;have l:({wM E d k (c {M with cur:=tg+k }) with vals:=(wM E d k (c {M with cur:=tg+k })).vals.take M.vals.length }:MS).vals=M.vals:=uF h1.pre;have g:=pF E c P i tg d n (k+1) {wM E d k (c {M with cur:=tg+k }) with vals:=(wM E d k (c {M with cur:=tg+k })).vals.take M.vals.length } (by have:=j.len;simp only at this ⊢;omega);rw[l] at g;refine⟨(j.trans g.1).mono ?_,g.2⟩;rw[Nat.succ_mul];omega
theorem uU (E:ME)(d:MS->MS)(P:Nat)(j:∀M,GrowP P M (d M))(n:Nat)(i:n<=4)(M:MS):GrowP (31+4*P) M (xi E d n M):=by
 unfold xi;simp only;have m:=(yU E M).p;generalize zJ E M=c at *;have l:=(m.trans (vW n c.2)).trans (xM _ 1);have l2:((xE n c.2).block 1).f.length=c.2.f.length+n+1:=by rw[yz,tB]
 have k:=l.trans (yf ((xE n c.2).block 1) ⟨if 2<n then 3 else 2,c.1,xk c.2.f.length n⟩).p;have l3:(((xE n c.2).block 1).endB ⟨if 2<n then 3 else 2,c.1,xk c.2.f.length n⟩).f.length=c.2.f.length+n+1:=(yf _ _).len.trans l2;generalize ((xE n c.2).block 1).endB ⟨if 2<n then 3 else 2,c.1,xk c.2.f.length n⟩=M3 at *;obtain⟨h,o⟩:=pF E d P j c.2.f.length (c.2.f.length+n) n 0 M3 Zo;generalize uV E d c.2.f.length (c.2.f.length+n) M3.vals.length n 0 M3=M4 at *;have g:=k.trans h;have hm:n*(P+5)<=4*(P+5):=Qw _ i;refine⟨g.pos,?_,g.len,g.nxt,g.pre.trans (Qb _ _),fun e=>?_,g.left,g.lft,g.par⟩
 ·have:=g.sz;unfold MS.sz at this ⊢;simp only[Jk,Ju];omega
 ·have:=h.len
  show c.2.f.length+n<M4.f.length
  omega
theorem qg (E:ME)(c:MS->MS)(P:Nat)(h:∀M,GrowP P M (c M))(M:MS):GrowP (24+P) M (tH E c M):=by
 unfold tH;simp only;have t:=(((zT M).trans (wT M.tick (tkV E M 5))).trans (yU E _)).p;generalize zJ E (M.tick.num (tkV E M 5))=x at *;have l2:(((x.2.block 2).block 0).block 0).f.length=x.2.f.length+3:=by rw[yz,yz,yz]
 have q:=((t.trans (xM _ 2)).trans (xM _ 0)).trans (xM _ 0);have o:=q.trans (yf (((x.2.block 2).block 0).block 0) ⟨1,0,[⟨(x.2.f.length:Nat),[(M.next:Int),x.1]⟩]⟩).p;have l3:=(yf (((x.2.block 2).block 0).block 0) ⟨1,0,[⟨(x.2.f.length:Nat),[(M.next:Int),x.1]⟩]⟩).len.trans l2;generalize (((x.2.block 2).block 0).block 0).endB ⟨1,0,[⟨(x.2.f.length:Nat),[(M.next:Int),x.1]⟩]⟩=M2 at *
 have m:GrowP 1 M2 {M2 with cur:=x.2.f.length,vals:=M2.vals++ [((x.2.next+1:Nat):Int)]}:=by
  refine⟨Je _,?_,Je _,Je _,Qb _ _,fun _=>by show x.2.f.length<M2.f.length;omega,Og _,fun e=>e,xU.refl _⟩;unfold MS.sz;simp only[Jk,Ju];omega
 have l:=(o.trans m).trans (yf {M2 with cur:=x.2.f.length,vals:=M2.vals++ [((x.2.next+1:Nat):Int)]} ⟨2,(x.2.next:Nat),[⟨((x.2.f.length+1:Nat):Int),[]⟩,⟨((x.2.f.length+2:Nat):Int),[]⟩]⟩).p;have l5:=(yf {M2 with cur:=x.2.f.length,vals:=M2.vals++ [((x.2.next+1:Nat):Int)]} ⟨2,(x.2.next:Nat),[⟨((x.2.f.length+1:Nat):Int),[]⟩,⟨((x.2.f.length+2:Nat):Int),[]⟩]⟩).len;have u:(MS.endB {M2 with cur:=x.2.f.length,vals:=M2.vals++ [((x.2.next+1:Nat):Int)]} ⟨2,(x.2.next:Nat),[⟨((x.2.f.length+1:Nat):Int),[]⟩,⟨((x.2.f.length+2:Nat):Int),[]⟩]⟩).f.length=x.2.f.length+3:=l5.trans l3;generalize MS.endB {M2 with cur:=x.2.f.length,vals:=M2.vals++ [((x.2.next+1:Nat):Int)]} ⟨2,(x.2.next:Nat),[⟨((x.2.f.length+1:Nat):Int),[]⟩,⟨((x.2.f.length+2:Nat):Int),[]⟩]⟩=M3 at *;have k:=(vk M3 (x.2.f.length+1) Zo).trans (h _);have j:=k.trans (wT (c {M3 with cur:=x.2.f.length+1 }) 1).p;generalize c {M3 with cur:=x.2.f.length+1 }=M4 at *;have i:=(j.trans (yB (M4.num 1) ⟨6,0,(x.2.next:Nat),(M4.next:Nat),0,[]⟩).p).trans (yU E _).p;generalize zJ E ((M4.num 1).emit ⟨6,0,(x.2.next:Nat),(M4.next:Nat),0,[]⟩)=y at *;have g:=sY (i.trans (yf y.2 ⟨1,0,[⟨(x.2.f.length:Nat),[((M4.next+1:Nat):Int),y.1]⟩]⟩).p);generalize w:y.2.endB ⟨1,0,[⟨(x.2.f.length:Nat),[((M4.next+1:Nat):Int),y.1]⟩]⟩=M6 at *;have d:=g.len;simp only at d;exact((l.trans g).trans (vk {M6 with vals:=M6.vals.take M3.vals.length } (x.2.f.length+2) (by show x.2.f.length+2<M6.f.length;omega))).mono Zo
theorem oL (E:ME)(d:∀x∈E.args,0<=x/\x<4)(M:MS):GrowP 101 M (tR E M):=by
 unfold tR;simp only;have hk:=aaE E M (n:=5) Zo;have g:=(zT M).trans (pw E d (tkV E M 5+1) M.tick);have h:=(pw E d (tkV E M 5+1) M.tick)
 have c:=g.p;refine⟨c.pos,?_,c.len,c.nxt,c.pre,c.cur,by have:=c.left;show _-1<=M.left;omega,fun e=>?_,c.par⟩
 ·have:=c.sz;unfold MS.sz at this ⊢;simp only;omega
 ·have e1:=g.left;have e2:=h.pos;have e3:M.tick.pos=M.pos+1:=rfl
  show 6<=(qY E (tkV E M 5+1) M.tick).left-1+(((qY E (tkV E M 5+1) M.tick).pos:Nat):Int)
  omega
def pC:Nat->Nat
 |0=>101
 |d+1=>134+4*pC d
theorem xw (E:ME)(g:∀x∈E.args,0<=x/\x<4):∀(d:Nat) (M:MS),GrowP (pC d) M (zp E d M)
 |0,M=>oL E g M
 |d+1,M=>by
  unfold zp;simp only;have h1:=oL E g M;generalize tR E M=M2 at *;have c:=xw E g d;have i:pC (d+1)=134+4*pC d:=rfl;have ht:=(zT M2).p;have h:=(zT M2.tick).p
  split
  ·exact h1.mono Zo
  split
  ·exact((h1.trans ht).trans (uU E _ _ c 2 Zo _)).mono Zo
  split
  ·exact((h1.trans ht).trans (qg E _ _ c _)).mono Zo
  split
  ·have:=aaE E M2.tick (n:=3) Zo;exact(((h1.trans ht).trans h).trans (uU E _ _ c (2+tkV E M2.tick 3) Zo _)).mono Zo
  ·exact(h1.trans ht).mono Zo
end Go.Proofs.Ytoahcpkibpomcaa
