/- Part of a proof. -/
import Derived.Test.YtoahcpkibpomcaaGreatGZw4w
import Derived.Test.YtoahcpkibpomcaaGreatIOper2w
set_option linter.all false
set_option maxHeartbeats 8000000
set_option maxRecDepth 100000
namespace Go.Proofs.YtoahcpkibpomcaaGreat
open Go.RowKit
variable {w w':World}{i j k m1 m2 n':Nat}{t:ITerm}{d d1:wO}{c:Array Bool}{bl:List IBlk}{rs:List Nat}{o oi:Oper}
theorem ju{C:Nat}{p:IProg}(o:IOp)(ho:qN o)(ar:Option Addr)(g:Nat)(hs:zi o.code=⟨false,false,false,false,false⟩):
 G 138 #[Q C,opV o (.slice ar o.args.length g)] w (ym w (opF p o)):=by
 unfold opV;obtain⟨j,h,l,k,i⟩:=ho;have e:opF p o=false:=by unfold opF;rw[hs];rfl
 rw[e];have hf:∀W,G 142 #[U o.code] W fun e w'=>e=.returned (.tuple #[.agg #[.bool false,.bool false,.bool false,.bool false],.bool false])/\N W w':=fun W=>by have:=yu o.code W;rw[hs] at this;exact this
 have t:=Ja hf;clear hf hs e;go_enter Tryz.func138,Tryz.ntmps138;go_wp2_with (first|(go_at_call 142;go_must (refine(t.out _).mono ?_;rintro e w1 ⟨rfl,c⟩;have d:=Ja c;clear c))|go_in)
 go_ret;exact⟨rfl,(((Below.refl _ _).alloc (Je _) _).trans (d.out.mono Zs)).alloc (by have m:=d.out.size;simp at m;omega) _⟩
theorem oper_any{B C:Nat}{V:PV}{tl:List Value}{p:IProg}(hp:ProgIn w B V p)(hB:B<=w.heap.size)(k:O w C (rC V p++tl).toArray 173)(hl:p.args.length=p.funcs.length)(o:IOp)(ho:qN o)(ar:Option Addr)(c:Nat)(d:o.args.length<=c/\c<=9223372036854775807):
 G 138 #[Q C,opV o (.slice ar o.args.length c)] w (ym w (opF p o)):=by
 by_cases i:o.code=26
 ·exact kM hp hB k hl o ho ar c d i
 by_cases h2:o.code=2
 ·exact ai6 hp hB k hl o ho ar c d h2
 by_cases j:o.code=24
 ·exact oper_in (pvs:=[]) o ho ar c d j
 by_cases g:o.code=25
 ·exact oper_out (pvs:=[]) o ho ar c d g
 rcases rJ o.code with⟨h,e⟩|⟨h,e⟩|⟨h,e⟩|⟨h,e⟩|⟨h,e⟩|⟨h,e⟩|⟨h,e⟩|⟨h,e⟩
 ·exact kG (pvs:=[]) o ho ar c d e i h2 j g
 ·exact oper_una (pvs:=[]) o ho ar c d e i h2 j g
 ·exact oper_bin (pvs:=[]) o ho ar c d e i h2 j g
 ·exact oper_sto (pvs:=[]) o ho ar c d e i h2 j g
 ·exact oper_rom (pvs:=[]) o ho ar c d e i h2 j g
 ·exact absurd h g
 ·exact kY (pvs:=[]) o ho ar c d e i h2 j g
 ·exact ju o ho ar c e
theorem qk{C n:Nat}{pv:List Value}{a3 t:Value}{d':wO}(h:ChkAt w C m1 m2 pv a3 t n d)(hn:n<9000000000000000000)(v i k:Int)(hv:I64 v)(hi:I64 i)(hk:I64 k)(g:rB d v i k=some d'):
 G 137 #[Q C,U v,U i,U k] w fun e w'=>e=.returned (.bool true)/\ChkAt w' C m1 m2 pv a3 t (n+1) d'/\Kept m1 m2 w w':=by
 obtain⟨hb,hl,o,a1,m,hd⟩:=h
 obtain⟨p0,p1,p2,p3,p4,p5,rfl⟩:∃a b c d e f,pv=[a,b,c,d,e,f]:=by
  match pv,hl with
  | [a,b,c,d,e,f],_=>exact⟨a,b,c,d,e,f,rfl⟩
 have b0:=o.lookOk hv;have b8:A w C 7 (.map (some m1)):=zA hb rfl;have b7:A w C 8 (.map (some m2)):=zA hb rfl;have j:¬((d.1 v).isSome∨v<0∨65535<v):=fun hc=>by rw[rB,if_pos hc] at g;cases g
 have b2:d'=(lS d.1 v i,lS d.2 v k):=by rw[rB,if_neg j] at g;cases g;rfl
 have h0:(d.1 v).isSome=false:=by cases l:(d.1 v).isSome with|false=>rfl|true=>exact absurd (.inl l) j
 have u:d.1 v=none:=by cases l:d.1 v with|none=>rfl|some y=>rw[l] at h0;cases h0
 have a5:d.2 v=none:=by cases l:d.2 v with|none=>rfl|some y=>have:=hd v;rw[l,u] at this;cases this
 have h1:decide (v<0)=false:=decide_eq_false Zo;have h2:decide (65535<v)=false:=decide_eq_false Zo;rw[h0] at b0;obtain⟨s1,w1,w2,e1,g1,e2,k1,g2⟩:=(i4.same (w':=w.drew) o rfl).entry hn hv hi u;obtain⟨es,ck,a0⟩:=a1.blk;have a4:i4 w2 m2 n d.2:=(i4.same (w':=w.drew) a1 rfl).same (g2.block m2 (lt_of_block a0) (fun e=>m (by cases e;rfl)));obtain⟨s2,w3,w4,e3,g3,e4,k2,g4⟩:=a4.entry hn hv hk a5;subst b2;clear g j;simp only[goInt] at e1 e2 e3 e4;have H:=Ja (Jb g2 g4);go_enter Tryz.func137,Tryz.ntmps137;go_wp2
 go_region
 go_wp2;go_ret;obtain⟨g2,g4⟩:=H.out;obtain⟨b6,c0,a8⟩:=o.blk;have b4:C≠m1:=fun e=>by rw[e,a8] at hb;cases hb
 have b3:C≠m2:=fun e=>by rw[e,a0] at hb;cases hb
 have a6:w.heap.size<=w2.heap.size:=g2.size;have a2:∀b,b≠m1->b≠m2->b<w.heap.size->w4.heap[b]? =w.heap[b]?:=fun b x1 x2 hbs=>(g4.block b Zo (fun e=>x2 (by cases e;rfl))).trans (g2.block b hbs (fun e=>x1 (by cases e;rfl)))
 obtain⟨b5,b9,b1⟩:=k1.blk;refine⟨rfl,⟨(a2 C b4 b3 (lt_of_block hb)).trans hb,rfl,k1.same (g4.block m1 (lt_of_block b1) (fun e=>m (by cases e;rfl))),k2,m,fun x=>?_⟩,⟨g4.os.trans g2.os,g4.tape.trans g2.tape,g4.output.trans g2.output,Jn a6 g4.size,fun b hbs x1 x2=>a2 b x1 x2 hbs⟩⟩
 show(lS d.1 v i x).isSome=(lS d.2 v k x).isSome
 unfold lS
 split
 ·rfl
 ·exact hd x
theorem cnt_lt(hi:i<=2000000)(c:j<=2000000):i*4000000+j<9000000000000000000:=by omega
theorem cnt_lt2(hi:i<=2000000)(c:j<=2000000):i*4000000+2000000+j<9000000000000000000:=by omega
theorem cnt_0 (i:Nat):i*4000000<=i*4000000+0:=by omega
theorem cnt_1 (i j:Nat):i*4000000+j+1<=i*4000000+(j+1):=by omega
theorem cnt_2(h:j<=2000000):i*4000000+j<=i*4000000+2000000+0:=by omega
theorem cnt_3 (i j:Nat):i*4000000+2000000+j+1<=i*4000000+2000000+(j+1):=by omega
theorem cnt_3' (i j:Nat):i*4000000+2000000+j<=i*4000000+2000000+(j+1):=by omega
theorem cnt_4(h:j<=2000000):i*4000000+2000000+j<=(i+1)*4000000:=by omega
theorem i4.le{b n:Nat}{g:Int->Option Int}(h:i4 w b n g)(d:n<=n'):i4 w b n' g:=by
 obtain⟨D,⟨es,c,k1,k2,k3,k4⟩,k5⟩:=h;exact⟨D,⟨es,c,k1,k2,Jn k3 d,k4⟩,k5⟩
theorem ChkAt.le{C:Nat}{pv:List Value}{g c:Value}{n:Nat}(h:ChkAt w C m1 m2 pv g c n d)(i:n<=n'):ChkAt w C m1 m2 pv g c n' d:=
 ⟨h.blk,h.plen,h.map1.le i,h.map2.le i,h.ne,h.dom⟩
theorem qL {n:Nat}(h:n<=9000000):I64 (n:Int):=⟨by omega,by omega⟩
theorem blkF_eq{p:IProg}{i:Int}{b:IBlk}{d2:wO}(h1:vJ i b.params d=some d1)(h2:sS p i b.ops 0 d1=some d2):pS p bl i b d=if mb bl b.term then some d2 else none:=by
 unfold pS;rw[h1,Nw,h2,Nw]
theorem mS{p:IProg}{i:Int}{b:IBlk}(h1:vJ i b.params d=none):pS p bl i b d=none:=by
 unfold pS;rw[h1];rfl
theorem mm{p:IProg}{i:Int}{b:IBlk}(h1:vJ i b.params d=some d1)(h2:sS p i b.ops 0 d1=none):pS p bl i b d=none:=by
 unfold pS;rw[h1,Nw,h2];rfl
theorem lM{B C:Nat}{V:PV}{p:IProg}{g2 d4:Value}{blocks:List IBlk}(hp:ProgIn w B V p)(g1:wX w B g2 blocks)(hB:B<=w.heap.size)(h1:B<=m1)(h2:B<=m2)(hl:p.args.length=p.funcs.length)(hs:vZ blocks)
 (hc:ChkAt w C m1 m2 (rC V p) g2 d4 0 afB):
 G 117 #[Q C] w (ShpPost w C m1 m2 (rC V p) g2 d4 (wg p blocks)):=by
 obtain⟨fa,fc,rfl,m0,l9⟩:=g1.form;have o1:blocks.length<=9223372036854775807:=Zo;have k9:=Ja g1;have m:=Ja (show ProgIn w B V p/\B<=w.heap.size/\B<=m1/\B<=m2/\p.args.length=p.funcs.length/\vZ blocks from⟨hp,hB,h1,h2,hl,hs⟩);have o2:=Ja hc.ne1;have o3:=Ja (Jb hc.map1.lt hc.map2.lt);have n2:=Ja hc;obtain⟨res,e5⟩:∃x,wg p blocks=x:=⟨_,rfl⟩
 rw[e5];have t:=Ja e5;have y6:A w C 6 (.slice fa blocks.length fc):=zA hc.blk rfl;clear hp g1 hB h1 h2 hl hs hc e5 m0 l9;go_enter Tryz.func117,Tryz.ntmps117;go_wp2
 go_loopw [15] (fun kv wx=>∃i:Nat,i<=blocks.length/\kv=U i/\Hid (Kept m1 m2 w wx/\∃d,ChkAt wx C m1 m2 (rC V p) (.slice fa blocks.length fc) d4 (i*4000000) d/\uH p blocks (blocks.take i) 0 afB=some d)) (fun kv _=>blocks.length-(intOf kv).toNat)
 case atStart=>exact⟨0,Jt _,rfl,Ja ⟨Kept.refl _ _ _,afB,n2.out,rfl⟩⟩
 case round=>
  obtain⟨i,hi,rfl,HI⟩:=hrel
  by_cases e9:i<blocks.length
  ·have l1:(i:Int)<blocks.length:=Zo;have k7:=Ja e9;obtain⟨bx,b3⟩:∃bx,blocks[i]? =some bx:=⟨_,Jd e9⟩
   obtain⟨fb,fo,rfl,d5,k0,a6,f9,pv,ov,tv,j0,i8,i2,f5,f7,f4⟩:=k9.out.get b3;obtain⟨pa,pc,rfl,l6,l5⟩:=f5.form;obtain⟨oa,oc,rfl,l8,l7⟩:=f7.form;obtain⟨ta,tc,rfl,l4,l3⟩:=f4.form;have n9:bx.params.length<=9223372036854775807:=Zo;have o0:bx.ops.length<=9223372036854775807:=Zo;have g:Below B w wr:=HI.out.1.below m.out.2.2.1 m.out.2.2.2.1 m.out.2.1;have e0:=zV g d5 j0;have e1:=zV g d5 i8;have e2:=zV g d5 k0;have e3:=zV g d5 a6;have e4:=zV g d5 i2;have u:=Ja (show blocks[i]? =some bx/\zY w B (.slice pa bx.params.length pc) bx.params/\mN w B (.slice oa bx.ops.length oc) bx.ops/\wH w B (.slice ta bx.term.to.length tc) bx.term.to/\(I64 bx.term.kind/\I64 bx.term.a) from⟨b3,f5,f7,f4,f9⟩);obtain⟨d,h,c⟩:=HI.out.2;have k1:=h.below ((Below.refl wr.heap.size wr).alloc (Je _) (I #[.slice pa bx.params.length pc,.slice oa bx.ops.length oc,U bx.term.kind,U bx.term.a,.slice ta bx.term.to.length tc] 84));have k6:=Ja (Jb h.map1.lt h.map2.lt);have a1:=Ja c;have f3:=zI (W:=wr) (o:=I #[.slice pa bx.params.length pc,.slice oa bx.ops.length oc,U bx.term.kind,U bx.term.a,.slice ta bx.term.to.length tc] 84) rfl;have j2:=HI.out.1.trans (Kept.of ((Below.refl wr.heap.size wr).alloc (Je _) (I #[.slice pa bx.params.length pc,.slice oa bx.ops.length oc,U bx.term.kind,U bx.term.a,.slice ta bx.term.to.length tc] 84)));clear b3 k0 a6 f9 j0 i8 i2 f5 f7 f4 l6 l5 l8 l7 l4 l3 g h c e9 y6;go_upto_region 4 with fail;generalize m5:wr.alloc (I #[.slice pa bx.params.length pc,.slice oa bx.ops.length oc,U bx.term.kind,U bx.term.a,.slice ta bx.term.to.length tc] 84)=W1 at *;generalize l:wr.heap.size=b4 at *;have z0:=K0 f3;have d6:=Ja (show O W1 b4 #[.slice pa bx.params.length pc,.slice oa bx.ops.length oc,U bx.term.kind,U bx.term.a,.slice ta bx.term.to.length tc] 84/\b4≠m1/\b4≠m2 from⟨f3,by have:=k6.out.1;omega,by have:=k6.out.2;omega⟩);have g6:=Ja j2;have n1:=Ja k1;have d7:=Ja (m.out.2.2.2.2.2.2 bx (Ji u.out.1));have f1:=Ja (show i<=2000000 from Jn hi m.out.2.2.2.2.2.1);clear m5 l f3 k1 j2 e0 e1 e2 e3 e4;go_wp2
   go_loopw [23] (fun jv wx=>∃j:Nat,j<=bx.params.length/\jv=U j/\Hid (Kept m1 m2 W1 wx/\∃d',ChkAt wx C m1 m2 (rC V p) (.slice (some ⟨fb,fo,none⟩) blocks.length fc) d4 (i*4000000+j) d'/\vJ i (bx.params.take j) d=some d')) (fun jv _=>bx.params.length-(intOf jv).toNat)
   case atStart=>exact⟨0,Jt _,rfl,Ja ⟨Kept.refl _ _ _,d,n1.out.le (cnt_0 i),rfl⟩⟩
   case round=>
    obtain⟨j,hj,rfl,HJ⟩:=hrel
    by_cases b1:j<bx.params.length
    ·have h5:(j:Int)<bx.params.length:=Zo;have g5:=Ja b1;obtain⟨v,hv⟩:∃v,bx.params[j]? =some v:=⟨_,Jd b1⟩
     obtain⟨qb,qo,rfl,y,e7,b7⟩:=u.out.2.1.get hv;rw[Nk] at e7;have g:Below B w wr:=(g6.out.trans HJ.out.1).below m.out.2.2.1 m.out.2.2.2.1 m.out.2.1;have cv:=zV g y e7;obtain⟨d',h,c⟩:=HJ.out.2;have HV:=Ja (show bx.params[j]? =some v/\vJ i (bx.params.take j) d=some d' from⟨hv,c⟩);have c9:I64 (i:Int):=qL (by have:=f1.out;omega);have c8:I64 (-1):=⟨by omega,by omega⟩
     cases a0:rB d' v i (-1) with
     |none=>
      have HD:=Ja a0;have d3:=Ja (oK h v i (-1) b7 c9 c8 a0);clear hv e7 y g h c a0 c9 c8 b1 b7 z0;go_wp2_with (go_at_call 137;go_must (refine d3.out.mono ?_;intro e w1 hh;obtain⟨rfl,hw⟩:=hh;rw[hw];clear hw))
      go_ret;refine⟨?_,g6.out.trans HJ.out.1,fun d2 hd2=>?_⟩
      ·rw[<-t.out,wS,abe u.out.1 a1.out (mS (qr HV.out.1 HV.out.2 HD.out))];rfl
      ·rw[<-t.out,wS,abe u.out.1 a1.out (mS (qr HV.out.1 HV.out.2 HD.out))] at hd2;cases hd2
     |some d2=>
      have HD:=Ja a0;have d3:=Ja (qk h (cnt_lt f1.out (Jn hj d7.out.1)) v i (-1) b7 c9 c8 a0);clear hv e7 y g h c a0 c9 c8 b1 b7 z0;go_wp2_with (go_at_call 137;go_must (refine d3.out.mono ?_;rintro e w1 ⟨rfl,b2,a6⟩))
      have d9:=Ja (Jb b2 a6);clear b2 a6;go_roundw
      case rel=>exact⟨j+1,g5.out,by go_num,Ja ⟨HJ.out.1.trans d9.out.2,d2,d9.out.1.le (cnt_1 i j),(aC HV.out.1 HV.out.2).trans HD.out⟩⟩
      case measure=>have:=g5.out;simp[intOf];omega
    ·obtain rfl:j=bx.params.length:=by omega
     have h5:¬(bx.params.length:Int)<bx.params.length:=Zo;obtain⟨d1,h,c⟩:=HJ.out.2;rw[Nl] at c;have g8:=Ja c;have f2:=Ja h;have a2:=HJ.out.1.blk d6.out.1 d6.out.2.1 d6.out.2.2;have z1:=K1 a2;have n0:=Ja a2;have b6:=Ja (g6.out.trans HJ.out.1);clear h c b1 a2 z0;generalize wr=W2 at *;go_wp2
     go_loopw [36] (fun kv wx=>∃k:Nat,k<=bx.ops.length/\kv=U k/\Hid (Kept m1 m2 W2 wx/\∃d',ChkAt wx C m1 m2 (rC V p) (.slice (some ⟨fb,fo,none⟩) blocks.length fc) d4 (i*4000000+2000000+k) d'/\sS p i (bx.ops.take k) 0 d1=some d')) (fun kv _=>bx.ops.length-(intOf kv).toNat)
     case atStart=>exact⟨0,Jt _,rfl,Ja ⟨Kept.refl _ _ _,d1,f2.out.le (cnt_2 d7.out.1),rfl⟩⟩
     case round=>
      obtain⟨k,hk,rfl,HK⟩:=hrel
      by_cases c7:k<bx.ops.length
      ·have h4:(k:Int)<bx.ops.length:=Zo;have d0:=Ja c7;obtain⟨o,ho⟩:∃o,bx.ops[k]? =some o:=⟨_,Jd c7⟩
       obtain⟨qb,qo,rfl,y,i1,i0,h9,h8,h7,f8,av,h6,k3⟩:=u.out.2.2.1.get ho;obtain⟨aa,ac,rfl,k4,k2⟩:=k3.form;have g:Below B w wr:=(b6.out.trans HK.out.1).below m.out.2.2.1 m.out.2.2.2.1 m.out.2.1;have c0:=zV g y i1;have c1:=zV g y i0;have c2:=zV g y h9;have c3:=zV g y h8;have c4:=zV g y h7;have c5:=zV g y h6;obtain⟨d',h,c⟩:=HK.out.2;have HV:=Ja (show bx.ops[k]? =some o/\sS p i (bx.ops.take k) 0 d1=some d' from⟨ho,c⟩);have g3:=Ja (show(I64 o.code/\I64 o.res/\I64 o.a/\I64 o.b/\o.n<65536)/\o.args.length<=ac/\ac<=9223372036854775807 from⟨f8,k4,k2⟩);have e6:=(Below.refl wr.heap.size wr).alloc (Je _) (I #[U o.code,U o.res,U o.a,U o.b,Y (o.n:Int),.slice aa o.args.length ac] 76);have a3:=zI (W:=wr) (o:=I #[U o.code,U o.res,U o.a,U o.b,Y (o.n:Int),.slice aa o.args.length ac] 76) rfl;have j1:=HK.out.1.trans (Kept.of e6);have g0:=h.below e6;have b3:Below B w (wr.alloc (I #[U o.code,U o.res,U o.a,U o.b,Y (o.n:Int),.slice aa o.args.length ac] 76)):=g.alloc (Jn m.out.2.1 g.size) _;have g4:=Ja (Jb h.map1.lt h.map2.lt);clear ho i1 i0 h9 h8 h7 h6 f8 k3 k4 k2 g h c c7 z1;go_upto_region 13 with fail;generalize m4:wr.alloc (I #[U o.code,U o.res,U o.a,U o.b,Y (o.n:Int),.slice aa o.args.length ac] 76)=W3 at *;generalize m3:wr.heap.size=b8 at *;have n8:=K0 a3;have n7:=K1 a3;have n6:=K2 a3;have n5:=K3 a3;have n4:=K4 a3;have n3:=K5 a3;have f6:=oper_any (m.out.1.below b3) (Jn m.out.2.1 b3.size) g0.blk m.out.2.2.2.2.1 o g3.out.1 aa ac g3.out.2;unfold opV at f6;have d8:=Ja f6;have f0:=Ja j1;have g9:=Ja g0;have b5:=Ja a3;have o4:=Ja (show b8≠m1/\b8≠m2 from⟨by have:=g4.out.1;omega,by have:=g4.out.2;omega⟩);clear f6 j1 g0 a3 m4 m3 b3 e6 c0 c1 c2 c3 c4 c5;obtain⟨q,hq⟩:∃q,opF p o=q:=⟨_,rfl⟩
       rw[hq] at d8;have HQ:=Ja hq;clear hq
       cases q with
       |false=>
        go_wp2_with (first|(go_at_call 138;go_must (refine d8.out.mono ?_;rintro e w4 ⟨rfl,l⟩))|go_in)
        go_ret
        have a5:wg p blocks=none:=by
         rw[wS];exact abe u.out.1 a1.out (mm g8.out (oR HV.out.1 HV.out.2 (by unfold ug;rw[HQ.out];rfl)))
        refine⟨?_,(b6.out.trans f0.out).trans (Kept.of l),fun d2 hd2=>?_⟩
        ·rw[<-t.out,a5];rfl
        ·rw[<-t.out,a5] at hd2;cases hd2
       |true=>
        by_cases hr:0<=o.res
        ·have t1:decide (0<=o.res)=true:=decide_eq_true hr;have HR:=Ja hr;obtain⟨r,a0⟩:∃r,rB d' o.res i k=r:=⟨_,rfl⟩
         have HD:=Ja a0;have h64:=Ja (show I64 o.res/\I64 (i:Int)/\I64 (k:Int) from⟨g3.out.1.2.1,qL (Jn f1.out Zd),qL (Jn (Jn hk d7.out.2.1) Zd)⟩);clear hr a0
         cases r with
         |none=>
          go_wp2_with (first|(go_at_call 138;go_must (refine d8.out.mono ?_;rintro e w4 ⟨rfl,l⟩;have a8:=g9.out.below l;have a4:=zH l b5.out (lt_of_block b5.out);have u1:=K1 a4;have b0:=Ja (Jb a8 l);clear a8 l a4))|(go_at_call 137;go_must (refine(oK b0.out.1 o.res i k h64.out.1 h64.out.2.1 h64.out.2.2 HD.out).mono ?_;intro e w5 hh;obtain⟨rfl,hw⟩:=hh;rw[hw];clear hw))|go_in)
          go_ret
          have a5:wg p blocks=none:=by
           rw[wS];exact abe u.out.1 a1.out (mm g8.out (oR HV.out.1 HV.out.2 (by unfold ug;rw[HQ.out,if_pos rfl,if_pos HR.out,HD.out])))
          refine⟨?_,(b6.out.trans f0.out).trans (Kept.of b0.out.2),fun d2 hd2=>?_⟩
          ·rw[<-t.out,a5];rfl
          ·rw[<-t.out,a5] at hd2;cases hd2
         |some d2=>
          go_wp2_with (first|(go_at_call 138;go_must (refine d8.out.mono ?_;rintro e w4 ⟨rfl,l⟩;have a8:=g9.out.below l;have a4:=zH l b5.out (lt_of_block b5.out);have u1:=K1 a4;have b0:=Ja (Jb a8 l);clear a8 l a4))|(go_at_call 137;go_must (refine(qk b0.out.1 (cnt_lt2 f1.out (Jn hk d7.out.2.1)) o.res i k h64.out.1 h64.out.2.1 h64.out.2.2 HD.out).mono ?_;rintro e w5 ⟨rfl,b2,a6⟩;have d9:=Ja (Jb b2 a6);clear b2 a6))|go_in)
          go_roundw
          case rel=>exact⟨k+1,d0.out,by go_num,Ja ⟨(f0.out.trans (Kept.of b0.out.2)).trans d9.out.2,d2,d9.out.1.le (cnt_3 i k),(cK HV.out.1 HV.out.2).trans (by unfold ug;rw[HQ.out,if_pos rfl,if_pos HR.out,HD.out])⟩⟩
          case measure=>have:=d0.out;simp[intOf];omega
        ·have t1:decide (0<=o.res)=false:=decide_eq_false hr;have HR:=Ja hr;clear hr;go_wp2_with (first|(go_at_call 138;go_must (refine d8.out.mono ?_;rintro e w4 ⟨rfl,l⟩;have a8:=g9.out.below l;have a4:=zH l b5.out (lt_of_block b5.out);have u1:=K1 a4;have b0:=Ja (Jb a8 l);clear a8 l a4))|go_in)
         go_roundw
         case rel=>exact⟨k+1,d0.out,by go_num,Ja ⟨f0.out.trans (Kept.of b0.out.2),d',b0.out.1.le (cnt_3' i k),(cK HV.out.1 HV.out.2).trans (by unfold ug;rw[HQ.out,if_pos rfl,if_neg (by have:=HR.out;omega)])⟩⟩
         case measure=>have:=d0.out;simp[intOf];omega
      ·obtain rfl:k=bx.ops.length:=by omega
       have h4:¬(bx.ops.length:Int)<bx.ops.length:=Zo;obtain⟨d2,h,c⟩:=HK.out.2;rw[Nl] at c;have a2:=HK.out.1.blk n0.out d6.out.2.1 d6.out.2.2;have z2:=K2 a2;have z3:=K3 a2;have z4:=K4 a2;have g:Below B w wr:=(b6.out.trans HK.out.1).below m.out.2.2.1 m.out.2.2.2.1 m.out.2.1;have b9:=term_any (k9.out.below yT g) (Jn m.out.2.1 g.size) h.blk rfl bx.term u.out.2.2.2.2 (u.out.2.2.2.1.below xL g);have h0:=Ja (blkF_eq (p:=p) (bl:=blocks) g8.out c);obtain⟨q,hq⟩:∃q,mb blocks bx.term=q:=⟨_,rfl⟩
       rw[hq] at b9 h0;have k5:=Ja b9;have l2:=Ja h;clear h c a2 g b9 hq c7 z1
       cases q with
       |false=>
        go_wp2_with (first|(go_at_call 139;go_must (refine k5.out.mono ?_;rintro e w4 ⟨rfl,l⟩))|go_in)
        go_ret
        have a5:wg p blocks=none:=by
         rw[wS];exact abe u.out.1 a1.out (by rw[h0.out];rfl)
        refine⟨?_,(b6.out.trans HK.out.1).trans (Kept.of l),fun d2 hd2=>?_⟩
        ·rw[<-t.out,a5];rfl
        ·rw[<-t.out,a5] at hd2;cases hd2
       |true=>
        go_wp2_with (first|(go_at_call 139;go_must (refine k5.out.mono ?_;rintro e w4 ⟨rfl,l⟩))|go_in)
        have l0:=Ja l;clear l;go_roundw
        case rel=>exact⟨i+1,k7.out,by go_num,Ja ⟨(b6.out.trans HK.out.1).trans (Kept.of l0.out),d2,(l2.out.below l0.out).le (cnt_4 d7.out.2.1),(lQ u.out.1 a1.out).trans (by rw[h0.out];rfl)⟩⟩
        case measure=>have:=k7.out;simp[intOf];omega
  ·obtain rfl:i=blocks.length:=by omega
   have l1:¬(blocks.length:Int)<blocks.length:=Zo;obtain⟨d,h,c⟩:=HI.out.2;rw[Nl] at c;have f2:=Ja (Jb h c);clear h c e9;go_wp2;go_ret;have hr:res=some d:=by rw[<-t.out,wS,f2.out.2]
   rw[hr];refine⟨rfl,HI.out.1,fun d2 hd2=>?_⟩;cases hd2;exact⟨_,cnt_lt m.out.2.2.2.2.2.1 (Jt _),f2.out.1.le (cnt_0 _)⟩
def xT (t:ITerm)(k:Nat):List Int:=((t.to.take k).map (·.args)).flatten
theorem jZ9{e:IEdge}(h:t.to[k]? =some e):xT t (k+1)=xT t k++e.args:=by
 unfold xT;rw[Nh,h,Js,List.flatten_append];simp
theorem tP(h:∀e∈t.to,e.args.length<=2000000):∀k,k<=t.to.length->(xT t k).length<=k*2000000
 |0,_=>Jt _
 |k+1,hk=>by
  obtain⟨e,he⟩:∃e,t.to[k]? =some e:=⟨_,Jd Zo⟩
  rw[jZ9 he,Jk];have:=tP h k Zo;have:=h e (Ji he);omega
theorem si (t:ITerm):xT t t.to.length=(t.to.map (·.args)).flatten:=by unfold xT;rw[Nl]
structure EndsMem (w wx:World) (xs:List Int) (v:Value):Prop where
 below:Below w.heap.size w wx
 own:wx.ownsRow w.heap.size 3 1 v xs.length (xs.map zN)
theorem ends_any(t:ITerm)(ht:I64 t.kind/\I64 t.a){tv:Value}{B:Nat}(hB:B<=w.heap.size)(a3:wH w B tv t.to)(b7:t.to.length<=2000000/\∀e∈t.to,e.args.length<=2000000):
 G 121 #[.agg #[U t.kind,U t.a,tv]] w (wG w (mE t)):=by
 obtain⟨ta,tc,rfl,d6,d5⟩:=a3.form;obtain⟨ii,c2,b0,a8,a6⟩:=info_parts Tryz.info_int;have e5:t.to.length<=9223372036854775807:=Zo;obtain⟨hd,hh⟩:∃q,ut t=q:=⟨_,rfl⟩
 obtain⟨LH,i⟩:∃LH,(if hd then [t.a] else([]:List Int))=LH:=⟨_,rfl⟩
 have hu:mE t=LH++(t.to.map (·.args)).flatten:=by rw[<-i,<-hh];rfl
 rw[hu]
 have e4:=Ja (show ∀x∈LH++(t.to.map (·.args)).flatten,I64 x by
  intro x hx;rcases Jl.1 hx with hx|hx
  ·rw[<-i] at hx;cases hd<;>simp at hx
   rw[hx];exact ht.2
  ·obtain⟨l,hl,d4⟩:=List.mem_flatten.1 hx;obtain⟨e,he,rfl⟩:=Nu.1 hl;obtain⟨k,hk⟩:=Ny he;obtain⟨b,o,_,_,_,_,av,_,a0⟩:=a3.get hk
   exact zY.all a0 x d4)
 have HL:=Ja (show LH.length<=1 by rw[<-i];cases hd<;>simp);unfold ut at hh;obtain⟨tk,c1⟩:∃x,t.kind=x:=⟨_,rfl⟩
 obtain⟨tA,b1⟩:∃x,t.a=x:=⟨_,rfl⟩
 rw[c1,b1] at hh ht ⊢;rw[b1] at i;obtain⟨b2,g2⟩:∃q,decide (tk=2)=q:=⟨_,rfl⟩
 obtain⟨b3,g3⟩:∃q,decide (tk=3)=q:=⟨_,rfl⟩
 obtain⟨b4,g4⟩:∃q,decide (tk=4)=q:=⟨_,rfl⟩
 obtain⟨b5,g5⟩:∃q,decide (tA≠-1)=q:=⟨_,rfl⟩
 rw[g2,g3,g4,g5] at hh;have t2:(tk==2)=b2:=y7 g2;have t3:(tk==3)=b3:=y7 g3;have t4:(tk==4)=b4:=y7 g4;have t5:(tA !=-1)=b5:=by rw[<-g5,bne];by_cases h:tA=-1<;>simp[h]
 have j:=Ja (show wH w B (.slice ta t.to.length tc) t.to/\B<=w.heap.size/\t.to.length<=2000000/\∀e∈t.to,e.args.length<=2000000 from⟨a3,hB,b7⟩);have HA:=Ja i;have HH:=Ja hh;have u:=zI (W:=w) (o:=I #[U tk,U tA,.slice ta t.to.length tc] 82) rfl;have c8:N w (w.alloc (I #[U tk,U tA,.slice ta t.to.length tc] 82)):=(Below.refl _ _).alloc (Je _) _;clear a3 hB b7 ht d6 d5 g2 g3 g4 g5 c1 b1 i hh hu;go_enter Tryz.func121,Tryz.ntmps121;go_upto_region 2 with fail;generalize e2:w.alloc (I #[U tk,U tA,.slice ta t.to.length tc] 82)=W0 at *;have y0:=K0 u;have y1:=K1 u;have y2:=K2 u;have m:=Ja (show N w W0/\O W0 w.heap.size #[U tk,U tA,.slice ta t.to.length tc] 82 from⟨c8,u⟩);clear e2 u c8
 go_cut [23] (fun s wx=>s=.bool hd/\wx=W0)
 case first=>
  cases b2<;>cases b3<;>cases b4<;>cases b5
  all_goals (
   go_wp2;go_meet
   exact⟨by rw[<-HH.out];rfl,rfl⟩)
 case rest=>
  obtain⟨rfl,c0⟩:=hcut;rw[c0];clear c0 t2 t3 t4 t5
  go_upto_if 23 with fail
  go_cut [3] (fun v wx=>Hid (EndsMem w wx LH v/\O wx w.heap.size #[U tk,U tA,.slice ta t.to.length tc] 82))
  case first=>
   have g:=Ja (show W0.ownsRow w.heap.size 3 1 (L) 0 [] from Jv W0 _ _ _);cases hd
   ·go_wp2;go_meet;exact Ja ⟨⟨m.out.1,by rw[<-HA.out];exact g.out⟩,m.out.2⟩
   ·go_wp2_with (at_builtin;go_must (refine zK _ rfl (.tmp 24) (.tmp 27) 22 rfl w.heap.size 3 ii (U 0) 1 8 Tryz.underlying22 c2 b0 a8 a6 rfl Zd (L) 0 [] rfl (g.out.alloc _) _ 1 [U tA] rfl (yM.one (zI Zs) (by simp[Value.oneCell'])) Zd Zd (by have:=m.out.1.size;simp;omega) ?_;intro v0 W1 c d c9))
    go_meet;exact Ja ⟨⟨yP (m.out.1.alloc m.out.1.size _) d (by have:=m.out.1.size;simp;omega) (wF g.out),by rw[<-HA.out];exact c⟩,zL d (zB m.out.2) (zC g.out m.out.2 (.inr Zd))⟩
  case rest=>
  clear y0 y1 y2 m
  rename World=>W1
  have z2:=K2 hcut.out.2;have e6:=Ja hcut.out.2;have HS:=Ja (show EndsMem w W1 (LH++xT t 0) u3 from(Ua LH).symm ▸ hcut.out.1);clear hcut;go_wp2
  go_loopw [3,32] (fun lv kv wx=>∃k:Nat,k<=t.to.length/\kv=U k/\Hid (EndsMem w wx (LH++xT t k) lv)) (fun _ kv _=>t.to.length-(intOf kv).toNat)
  case atStart=>exact⟨0,Jt _,rfl,HS⟩
  case round=>
   obtain⟨k,hk,rfl,HK⟩:=hrel
   by_cases a5:k<t.to.length
   ·have d2:(k:Int)<t.to.length:=Zo;have d1:=Ja a5;obtain⟨e,he⟩:∃e,t.to[k]? =some e:=⟨_,Jd a5⟩
    obtain⟨eb,eo,rfl,c3,c5,d3,av,c4,a0⟩:=j.out.1.get he;obtain⟨aa,ac,rfl,d8,d7⟩:=a0.form;have b8:=HK.out.below.mono j.out.2.1;have e0:=zV b8 c3 c5;have e1:=zV b8 c3 c4;have HE:=Ja (show t.to[k]? =some e/\zY w B (.slice aa e.args.length ac) e.args from⟨he,a0⟩);clear he c5 c4 d3 a0 d8 d7 b8 a5 z2;have b9:=zI (W:=wr) (o:=I #[U e.block,.slice aa e.args.length ac] 79) rfl;have a2:=HK.out.below.alloc HK.out.below.size (I #[U e.block,.slice aa e.args.length ac] 79);have a4:=HK.out.own.alloc (I #[U e.block,.slice aa e.args.length ac] 79);have b6:=zY.src (HE.out.2.below zO (a2.mono j.out.2.1));go_upto_region 7 with fail;generalize d9:wr.alloc (I #[U e.block,.slice aa e.args.length ac] 79)=W2 at *;generalize wr.heap.size=b5 at *;have z51:=K1 b9
    have y:(LH++xT t k).length+e.args.length<=6000000000000:=by
     have h1:=tP j.out.2.2.2 k hk;have h2:=j.out.2.2.1;have h3:=j.out.2.2.2 e (Ji HE.out.1);rw[Jk];have h4:=HL.out;omega
    have a1:=Ja (show _/\_ from⟨y,a2⟩);have d0:=Ja a4;have e3:=Ja b6;clear y a4 b6 a2 b9 d9 e0 e1;go_wp2_with (at_builtin;go_must (refine zK _ rfl (.tmp 36) (.tmp 38) 22 rfl w.heap.size 3 ii (U 0) 1 8 Tryz.underlying22 c2 b0 a8 a6 rfl Zd _ (LH++xT t k).length ((LH++xT t k).map zN) rfl d0.out _ e.args.length (e.args.map zN) rfl e3.out (by have:=a1.out.1;unfold maxLen;omega) (by have:=a1.out.1;omega) a1.out.2.size ?_;intro v9 w9 c d c9))
    have c7:=yP a1.out.2 d a1.out.2.size (wF d0.out);have HN:=Ja (Jb c7 c);clear c d c9 c7;go_roundw
    case rel=>
     refine⟨k+1,d1.out,by go_num,Ja ⟨HN.out.1,?_⟩⟩;rw[jZ9 HE.out.1,<-Nv,Jk (bs:=e.args),Js (l₂:=e.args)];exact HN.out.2
    case measure=>have:=d1.out;simp[intOf];omega
   ·obtain rfl:k=t.to.length:=by omega
    have d2:¬(t.to.length:Int)<t.to.length:=Zo;clear a5 z2;go_wp2;go_ret;have c:=HK.out.own;rw[si] at c;exact⟨_,rfl,uA c rfl e4.out,HK.out.below⟩
theorem Tryz.info_irblock:(Tryz.prog.info? 84).map (fun i=>(i.zero,i.size,i.bytes))=some (some (.agg #[.slice none 0 0,.slice none 0 0,U 0,U 0,.slice none 0 0]),5,88):=by kernel_rfl
theorem Tryz.info_edge:(Tryz.prog.info? 79).map (fun i=>(i.zero,i.size,i.bytes))=some (some (.agg #[U 0,.slice none 0 0]),2,32):=by kernel_rfl
def zW (t:PT):List Value:=[t.fv,t.av,U t.entry,U t.handler,t.dv,t.bv]
theorem vr {t:PT}:∀x∈t.rows,x.e≠29:=fun x c=>by
 unfold PT.rows at c;rcases Jq.1 c with rfl|c
 ·show 39≠29;decide
 rcases Jq.1 c with rfl|c
 ·show 3≠29;decide
 rcases Jq.1 c with rfl|c
 ·show 89≠29;decide
 rcases Jq.1 c with rfl|c
 ·show 9≠29;decide
 obtain⟨f,_,c⟩:=Qx.1 c;unfold FT.rows at c;rcases Jq.1 c with rfl|c
 ·show 84≠29;decide
 obtain⟨b,_,c⟩:=Qx.1 c;unfold BT.rows at c;rcases Jq.1 c with rfl|c
 ·show 3≠29;decide
 rcases Jq.1 c with rfl|c
 ·show 76≠29;decide
 rcases Jq.1 c with rfl|c
 ·show 79≠29;decide
 rcases Jl.1 c with c|c
 ·obtain⟨q,_,rfl⟩:=Nu.1 c
  show 3≠29;decide
 ·obtain⟨q,_,rfl⟩:=Nu.1 c
  show 3≠29;decide
structure OwMid (w:World) (p1 r2 q3:Nat) (V:PV) (p:IProg) (t:PT) (wx:World):Prop where
 h1:wx.heap[p1]? =some (.cells #[V.fv,V.av,.int .i64 p.entry,.int .i64 p.handler,V.dv,V.bv] 29 (0,0))
 h2:wx.heap[r2]? =some (.cells #[.slice none 0 0,.slice none 0 0,.int .i64 0,.int .i64 0,.slice none 0 0,.slice none 0 0] 29 (0,0))
 h3:wx.heap[q3]? =some (.cells (zW t).toArray 29 (0,0))
 bel:Below p1 w wx
 rows:Rows wx p1 t.rows
 ges:p1<r2/\r2<q3
section
variable {w:World} {p1 r2 q3:Nat} {V:PV} {p:IProg} {t:PT} {wx:World} (h:OwMid w p1 r2 q3 V p t wx)
include h
theorem OwMid.sz:p1<=wx.heap.size:=Qd (lt_of_block h.h1)
theorem OwMid.grow{w1:World}{r r':Row}{rs ns:List Row}{t':PT}{u:Value}(hp:t.rows.Perm (r::rs))(c:N wx w1)(a1:Rows w1 wx.heap.size ns)(hg:w1.grownBy w' r.blk)
 (g:w'.ownsRow p1 r'.e r'.sz r'.v r'.n r'.cs) (a2:∀k,r'.blk=some k->r.blk=some k∨w1.heap.size<=k) (hq:(r'::(ns++rs)).Perm t'.rows) (hc:((zW t).toArray).setIfInBounds i u=(zW t').toArray):OwMid w p1 r2 q3 V p t' (w'.setCell ⟨q3,i,none⟩ u):=by
 have hr:=h.rows.perm hp;have ho:=hr.own r (.head _);have a0:r.e≠29:=vr r (hp.mem_iff.2 (.head _));have keep:∀ {b:Nat} {cs:Array Value},O wx b cs 29->O w' b cs 29:=fun hb=>zL hg (zH c hb (lt_of_block hb)) (zC ho hb (.inr a0))
 have y:wx.heap.size<=w'.heap.size:=Jn c.size hg.size;have l:Below p1 w w':=h.bel.trans ⟨hg.os.trans c.os,hg.tape.trans c.tape,hg.output.trans c.output,y,fun k hk=>(hg.block k (by have:=h.sz;have:=c.size;omega) (fun e=>by have:=(ho.lt k e.symm).1;omega)).trans (c.block k (by have:=h.sz;omega))⟩;have h1:Rows w1 p1 (r::(ns++rs)):=(hr.append a1 c h.sz).perm List.perm_middle;have j:Rows w' p1 (r'::(ns++rs)):=h1.grow (Below.refl _ _) hg g a2;have h3:=keep h.h3;have a3:=h.ges;refine⟨zR (keep h.h1) (by show p1≠q3;omega),zR (keep h.h2) (by show r2≠q3;omega),by rw[zD h3,hc],l.setCell (by show p1<=q3;omega) _,?_,h.ges⟩;have d:=j.perm hq;refine d.keep fun k hk=>Below.heap_setCell _ _ _ _ (fun e=>?_)
 obtain⟨x,o,m⟩:=Nj.1 hk;have e':k=q3:=e;subst e';exact zC (d.own x o) h3 (.inr (vr x o)) m
end
section
variable {P:Program} {ops:Array Oper} {Q:Exit->Act->World->Prop} {md:Region.Mode} {S:World->Prop} {L:Nat}
def uO (P:Program)(md:Region.Mode)(ops:Array Oper)(Q:Exit->Act->World->Prop)(S:World->Prop)(L:Nat):Nat->Array Bool->Act->World->Prop
 |0,listed,a,w=>Region.ready md ops listed=[]/\Q .normal a w
 |fuel+1,listed,a,w=>
  (Region.ready md ops listed=[]->Q .normal a w)/\
  ∀i∈Region.ready md ops listed,wpOp P ops Q i (fun a' w'=>(i≠L->S w')/\uO P md ops Q S L fuel (listed.setIfInBounds i true) a' w') a w
theorem pL:∀(fuel:Nat) (listed:Array Bool) (a:Act) (w:World),uO P md ops Q S L fuel listed a w->wpAny P md ops Q fuel listed a w
 |0,_,_,_,h=>h
 |fuel+1,_,_,_,h=>⟨h.1,fun i hi=>wpOp_mono (fun a' w' h'=>pL fuel _ a' w' h'.2) (h.2 i hi)⟩
def mw (md:Region.Mode)(ops:Array Oper)(L i:Nat):Bool:=((ops[L]?).map fun o=>o.after.any fun e=>Region.binds md e && e.on==i).getD false
theorem waits_ne(d:mw md ops L i=true)(hi:c.getD i true=false)(l:j∈Region.ready md ops c):j≠L:=by
 rintro rfl;obtain⟨_,oj,k,g⟩:=mem_ready.1 l;unfold mw at d;rw[k] at d;obtain⟨e,m,hb⟩:=Array.any_eq_true'.1 d;simp only[Jm,beq_iff_eq] at hb;have h1:=g e m hb.1;rw[hb.2] at h1;rcases Nat.lt_or_ge i c.size with h|h
 ·simp[h] at hi h1;rw[hi] at h1;cases h1
 ·simp[Array.getElem?_eq_none h] at h1
theorem nD{v:Value}(hi:ops[i]? =some oi)(a3:mw md ops L i=true)(l:∀(j:Nat) (o:Oper) cs b,ops[j]? =some o->o.op≠ .select cs b)
 (hQ:∀c a w,Q (.panic c) (a.put oi.dst v) w->Q (.panic c) a w):
 ∀(fuel:Nat) (listed:Array Bool) (a:Act) (w:World),
  (∀j oj,ops[j]? =some oj->j≠i->listed.getD j true=false->(∀e∈oj.after,Region.binds md e=true->e.on≠i)->oi.apart ops oj=true)->
  i∈Region.ready md ops listed->YieldsIf P ops S oi v a->S w->
  uO P md ops Q S L fuel (listed.setIfInBounds i true) (a.put oi.dst v) w->uO P md ops Q S L (fuel+1) listed a w:=by
 intro fuel
 induction fuel with
 |zero=>
  intro listed a w _ hr y x H;refine⟨fun h=>(by rw[h] at hr;cases hr),fun j hj=>?_⟩
  by_cases d:j=i
  ·subst d;exact y.wpOp hi x ⟨fun _=>x,H⟩
  ·have:=ready_mono hj d;rw[H.1] at this
   cases this
 |succ fuel ih=>
  intro listed a w g hr y x H;refine⟨fun h=>(by rw[h] at hr;cases hr),fun j hj=>?_⟩
  by_cases d:j=i
  ·subst d;exact y.wpOp hi x ⟨fun _=>x,H⟩
  ·have h1:=H.2 j (ready_mono hj d);have a4:j≠L:=waits_ne a3 (mem_ready.1 hr).1 hj;obtain⟨t,oj,m,a2⟩:=mem_ready.1 hj
   have a1:∀e∈oj.after,Region.binds md e=true->e.on≠i:=fun e he hb heq=>by
    have h1:=a2 e he hb;have h0:=(mem_ready.1 hr).1;rw[heq] at h1;rcases Nat.lt_or_ge i listed.size with h'|h'
    ·simp[h'] at h0 h1;rw[h0] at h1;cases h1
    ·simp[Array.getElem?_eq_none h'] at h1
   have h2:=wpOp_putIf m (g j oj m d t a1) (fun cs b=>l i oi cs b hi) (fun cs b=>l j oj cs b m) hQ y h1
   have u:∀k ok,ops[k]? =some ok->k≠i->(listed.setIfInBounds j true).getD k true=false->
    (∀e∈ok.after,Region.binds md e=true->e.on≠i)->oi.apart ops ok=true:=fun k ok hk hki hun hno=>by
    refine g k ok hk hki ?_ hno
    by_cases a0:j=k
    ·subst a0;exact t
    ·rw[getD_set_ne true a0] at hun;exact hun
   refine wpOp_mono (fun a' w' h3=>⟨h3.2.1,ih (listed.setIfInBounds j true) a' w' u (ready_mono hr (Ne.symm d)) h3.1 (h3.2.1 a4) ?_⟩) h2;rw[Array.setIfInBounds_comm _ _ d];exact h3.2.2
theorem zF{v:Value}{fuel:Nat}{d:Array Bool}{a:Act}(hi:ops[i]? =some oi)(g:mw md ops L i=true)
 (hs:Region.noSelect ops=true) (hf:Region.free md ops d i=true) (hr:(Region.ready md ops d).contains i=true)
 (l:∀c a w,Q (.panic c) (a.put oi.dst v) w->Q (.panic c) a w) (j:YieldsIf P ops S oi v a) (k:S w)
 (h:uO P md ops Q S L fuel (d.setIfInBounds i true) (a.put oi.dst v) w):uO P md ops Q S L (fuel+1) d a w:=
 nD hi g (Region.noSelect_spec hs) l fuel d a w (Region.free_spec hi hf) (by simpa using hr) j k h
theorem Tl(i:Nat){v:Value}{fuel:Nat}{d:Array Bool}{a:Act}(h:uO P md ops Q S L fuel (d.setIfInBounds i true) (a.put oi.dst v) w)(hi:ops[i]? =some oi:=by rfl)(g:mw md ops L i=true:=by kernel_rfl)
 (hs:Region.noSelect ops=true:=by kernel_rfl) (hf:Region.free md ops d i=true:=by kernel_rfl) (hr:(Region.ready md ops d).contains i=true:=by kernel_rfl)
 (l:∀c a w,Q (.panic c) (a.put oi.dst v) w->Q (.panic c) a w:=by exact fun _ _ _ h=>h) (j:YieldsIf P ops S oi v a:=by exact Or.inl ⟨by rfl,by intro w hSw;(try dsimp only at hSw);go_simp;try with_reducible rfl⟩) (k:S w:=by assumption):uO P md ops Q S L (fuel+1) d a w:=
 zF hi g hs hf hr l j k h
def zS (P:Program)(md:Region.Mode)(ops:Array Oper)(Q:Exit->Act->World->Prop)(S:World->Prop)(L:Nat)(fuel:Nat)(listed:Array Bool)(a:Act)(w:World)(rs:List Nat):Prop:=
 ∀i∈rs,wpOp P ops Q i (fun a' w'=>(i≠L->S w')/\uO P md ops Q S L fuel (listed.setIfInBounds i true) a' w') a w
theorem zS.nil{fuel:Nat}{a:Act}:zS P md ops Q S L fuel c a w []:=fun _ h=>by cases h
theorem zS.cons{fuel:Nat}{a:Act}(ho:ops[i]? =some o)
 (h:∀K':Act->World->Prop,Shut (∀a w,S w->(S w->uO P md ops Q S L fuel (c.setIfInBounds i true) a w)->K' a w)->if Region.wanted o (yielded ops a.tmps)=true then Oper.wp P o a w K' Q else K' (a.put o.dst undef) w)
 (hs:zS P md ops Q S L fuel c a w rs):zS P md ops Q S L fuel c a w (i::rs):=fun j d=>by
 rcases Jq.1 d with rfl|d
 ·exact wpOp_step ho (fun K' hK=>h K' (fun a w hS hW=>hK a w ⟨fun _=>hS,hW hS⟩))
 ·exact hs j d
theorem zS.last{fuel:Nat}{a:Act}(ho:ops[L]? =some o)
 (h:∀K':Act->World->Prop,Shut (∀a w,uO P md ops Q S L fuel (c.setIfInBounds L true) a w->K' a w)->if Region.wanted o (yielded ops a.tmps)=true then Oper.wp P o a w K' Q else K' (a.put o.dst undef) w):
 zS P md ops Q S L fuel c a w [L]:=fun j d=>by
 rcases Jq.1 d with rfl|d
 ·exact wpOp_step ho (fun K' hK=>h K' (fun a w hW=>hK a w ⟨fun e=>absurd rfl e,hW⟩))
 ·cases d
theorem z8{fuel:Nat}{a:Act}(hr:Region.ready md ops c=rs)(d:rs≠ [])
 (h:zS P md ops Q S L fuel c a w rs):uO P md ops Q S L (fuel+1) c a w:=⟨fun h0=>absurd (hr ▸ h0) d,hr ▸ h⟩
theorem xj{listed:Array Bool}{a:Act}(hr:Region.ready md ops listed=[])(h:Q .normal a w):∀fuel,uO P md ops Q S L fuel listed a w
 |0=>⟨hr,h⟩
 |_+1=>⟨fun _=>h,by rw[hr];simp⟩
theorem yQ{id:Nat}{a:Act}(L:Nat)(hm:P.follows .mixedOrders=true)(c:S w.drew)
 (h:S w.drew->uO P .any ops Q S L ops.size (Array.replicate ops.size false) a w.drew):(Code.region id ops true).wp P Q a w:=
 wp_region_any hm (pL _ _ _ _ (h c))
end
def ajB (w:World)(p:IProg)(e:Ending)(w':World):Prop:=∃t:PT,e=.returned (yH t.V t.prog)/\t.prog=p/\Rows w' w.heap.size t.rows/\N w w'
open Go.RowKit Go.Lib
theorem eval_ex{V:PV}{p:IProg}(hp:ProgIn w w.heap.size V p)(c7:p.args.length=p.funcs.length)(hV:∀W,N w W->G 35 #[sZ V p] W fun e W'=>e=.returned (U 0)/\N W W')
 (f:Int) (hf:0<=f/\f.toNat<p.funcs.length) {args:List Nat} {av:Value} (ha:wV w w.heap.size av args) (hl:(args.length:Int)=p.args.getD f.toNat 0) (s:ByteArray) (hs:s.size<=9223372036854775807)
 {inv irqv:Value} {inn irq:List Nat} (c9:wV w w.heap.size inv inn) (c8:dL w w.heap.size irqv irq) (fuel:Int) (f3:I64 fuel) (f4:fuel.toNat<=4000000)
 (hC:∀(K:MK) (W:World) (ov:Value),K.E=⟨p,inn,irq⟩->MachAt W K ⟨v7 s,fuel,[],0,0⟩ ov->G 150 #[Q K.pm,U f,av,U 1] W (zQ K W (xW K.E 100 f args ⟨v7 s,fuel,[],0,0⟩))):
 G 143 #[sZ V p,U f,av,.string s,.agg #[inv,irqv],U fuel] w (abr w (bQ ⟨p,inn,irq⟩ f args s fuel)):=by
 obtain⟨Vf,Va,Vd,Vb⟩:=V;have h4:=hp.funcs;have c5:=hp.args;have h7:=hp.data;have h8:=hp.banks;obtain⟨f1,f2,e1,_,_⟩:=hp.funcs.form;obtain⟨a1,a2,e2,_,_⟩:=hp.args.form;obtain⟨d1,d2,e3,_,_⟩:=hp.data.form;obtain⟨b1,b2,e4,_,_⟩:=hp.banks.form;obtain⟨v1,v2,rfl,_,_⟩:=ha.form;obtain⟨i1,i2,rfl,_,_⟩:=c9.form;obtain⟨q1,q2,rfl,_,_⟩:=c8.form;simp only at e1 e2 e3 e4;subst e1 e2 e3 e4;obtain⟨k,rfl⟩:∃k:Nat,f=(k:Int):=⟨f.toNat,by omega⟩
 have k7:(k:Int)<p.funcs.length:=Zo;unfold sZ at hV ⊢;simp only at hV c5 ⊢;have l0:decide ((k:Int)<0)=false:=by rw[decide_eq_false_iff_not];omega
 have k9:decide (p.funcs.length<=k)=false:=by rw[decide_eq_false_iff_not];omega
 have h9:=mk_ram;obtain⟨Z,hZ⟩:∃Z,madeCells #[Value.int .u8 0] 8192=Z:=⟨_,rfl⟩
 rw[hZ] at h9;have HZ:=Ja hZ;clear hZ;have HP:=Ja hp;have HV:=Ja hV;have j2:=Ja hC;have HA:=Ja (Jb ha hl);have g4:=Ja (Jb c9 c8);have g5:=Ja (Jb f3 f4);obtain⟨aa,d4⟩:∃x,p.args[k]? =some x:=⟨_,Jd (by rw[c7];omega)⟩
 have f8:(args.length:Int)=aa:=by rw[hl,Ni,Jj,d4];rfl
 have k4:((args.length:Int) !=aa)=false:=by rw[bne_eq_false_iff_eq];exact f8
 have k0:(k:Int)<p.args.length:=by rw[c7];omega
 obtain⟨ba,oa,rfl,i0,f6,_⟩:=c5.get d4;rw[Nk] at f6;clear hp hV c7 hC ha hl c9 c8 f3 f4 h4 c5 h7 h8 hf d4 f8
 go_enter_defers Tryz.func143,Tryz.ntmps143
 go_upto_region 1 with fail;have f7:N w (((w.alloc (I #[.slice f1 p.funcs.length f2,.slice (some ⟨ba,oa,none⟩) p.args.length a2,U p.entry,U p.handler,.slice d1 p.data.length d2,.slice b1 p.banks.length b2] 29)).alloc (I #[.slice i1 inn.length i2,.slice q1 irq.length q2] 62)).alloc (I #[Y 0,L,U 0,Y 0,.string {data:=#[]},U 0,U 0] 57)):=(((Below.refl _ _).alloc (Je _) _).alloc Zs _).alloc (by simp<;>omega) _;have l:O (((w.alloc (I #[.slice f1 p.funcs.length f2,.slice (some ⟨ba,oa,none⟩) p.args.length a2,U p.entry,U p.handler,.slice d1 p.data.length d2,.slice b1 p.banks.length b2] 29)).alloc (I #[.slice i1 inn.length i2,.slice q1 irq.length q2] 62)).alloc (I #[Y 0,L,U 0,Y 0,.string {data:=#[]},U 0,U 0] 57)) w.heap.size #[.slice f1 p.funcs.length f2,.slice (some ⟨ba,oa,none⟩) p.args.length a2,U p.entry,U p.handler,.slice d1 p.data.length d2,.slice b1 p.banks.length b2] 29:=zB (zB (zI rfl));have e7:O (((w.alloc (I #[.slice f1 p.funcs.length f2,.slice (some ⟨ba,oa,none⟩) p.args.length a2,U p.entry,U p.handler,.slice d1 p.data.length d2,.slice b1 p.banks.length b2] 29)).alloc (I #[.slice i1 inn.length i2,.slice q1 irq.length q2] 62)).alloc (I #[Y 0,L,U 0,Y 0,.string {data:=#[]},U 0,U 0] 57)) (w.heap.size+1) #[.slice i1 inn.length i2,.slice q1 irq.length q2] 62:=zB (zI Zs);have e6:O (((w.alloc (I #[.slice f1 p.funcs.length f2,.slice (some ⟨ba,oa,none⟩) p.args.length a2,U p.entry,U p.handler,.slice d1 p.data.length d2,.slice b1 p.banks.length b2] 29)).alloc (I #[.slice i1 inn.length i2,.slice q1 irq.length q2] 62)).alloc (I #[Y 0,L,U 0,Y 0,.string {data:=#[]},U 0,U 0] 57)) (w.heap.size+2) #[Y 0,L,U 0,Y 0,.string {data:=#[]},U 0,U 0] 57:=zI Zs;generalize j1:((w.alloc (I #[.slice f1 p.funcs.length f2,.slice (some ⟨ba,oa,none⟩) p.args.length a2,U p.entry,U p.handler,.slice d1 p.data.length d2,.slice b1 p.banks.length b2] 29)).alloc (I #[.slice i1 inn.length i2,.slice q1 irq.length q2] 62)).alloc (I #[Y 0,L,U 0,Y 0,.string {data:=#[]},U 0,U 0] 57)=W0 at *;have a4:=Ja f7;have u:=Ja (Jb l (Jb e7 e6));have p0:=K0 l;have p1:=K1 l;have p2:=K2 l;have p3:=K3 l;have p4:=K4 l;have p5:=K5 l;clear l e7 e6 f7 j1;go_upto_region 3 with(go_at_call 35;go_must (refine(HV.out _ a4.out).mono ?_;rintro e W1 ⟨rfl,m⟩;have q0:=(m.cell (p:=⟨w.heap.size,0,none⟩) (Jw W0 _ p0)).trans p0;have h0:=(m.cell (p:=⟨w.heap.size,1,none⟩) (Jw W0 _ p1)).trans p1;have cx:=zV (a4.out.trans (m.mono a4.out.size)) i0 f6))
 have y0:=zH m u.out.1 (lt_of_block u.out.1);have y1:=zH m u.out.2.1 (lt_of_block u.out.2.1);have y2:=zH m u.out.2.2 (lt_of_block u.out.2.2);have k6:=lt_of_block y2;have a3:=Ja (a4.out.trans (m.mono a4.out.size));have HY:=Ja y2
 have d3:∀w',N W1 w'->(A w' w.heap.size 0 (.slice f1 p.funcs.length f2)/\A w' w.heap.size 1 (.slice (some ⟨ba,oa,none⟩) p.args.length a2)/\A w' w.heap.size 2 (U p.entry)/\A w' w.heap.size 3 (U p.handler)/\A w' w.heap.size 4 (.slice d1 p.data.length d2)/\A w' w.heap.size 5 (.slice b1 p.banks.length b2)/\A w' (w.heap.size+1) 0 (.slice i1 inn.length i2)/\A w' (w.heap.size+1) 1 (.slice q1 irq.length q2)):=fun w' hb=>by
  have z0:=zH hb y0 Zo;have z1:=zH hb y1 Zo;exact⟨zA z0 Zs,zA z0 Zs,zA z0 Zs,zA z0 Zs,zA z0 Zs,zA z0 Zs,zA z1 Zs,zA z1 Zs⟩
 have g9:=Ja d3;clear q0 h0 p0 p1 p2 p3 p4 p5 a4 u m y0 y1 y2 d3 cx
 go_cut [13] from 41 to 47 (fun v wx=>∃rb pm b13:Nat,v=Q b13/\Hid (O wx b13 #[Q pm] 208/\O wx rb Z 5/\O wx pm #[.slice f1 p.funcs.length f2,.slice (some ⟨ba,oa,none⟩) p.args.length a2,U p.entry,U p.handler,.slice d1 p.data.length d2,.slice b1 p.banks.length b2,F rb 8192 8192,.slice i1 inn.length i2,.slice q1 irq.length q2,U fuel,L,U 0,U 0] 210/\N W1 wx/\W1.heap.size<=rb/\W1.heap.size<=pm/\W1.heap.size<=b13))
 case first=>
  go_region_held3 (fun w'=>A w' w.heap.size 0 (.slice f1 p.funcs.length f2)/\A w' w.heap.size 1 (.slice (some ⟨ba,oa,none⟩) p.args.length a2)/\A w' w.heap.size 2 (U p.entry)/\A w' w.heap.size 3 (U p.handler)/\A w' w.heap.size 4 (.slice d1 p.data.length d2)/\A w' w.heap.size 5 (.slice b1 p.banks.length b2)/\A w' (w.heap.size+1) 0 (.slice i1 inn.length i2)/\A w' (w.heap.size+1) 1 (.slice q1 irq.length q2))
   ((refine g9.out _ ?_;repeat' (first|exact Below.refl _ _|refine Below.drew ?_|refine Below.alloc ?_ (by simp<;>omega) _|refine Below.setCell ?_ (by simp<;>omega) _)))
   (fail)
  all_goals go_wp2_with fail
  all_goals go_meet
  ·exact⟨W1.heap.size,W1.heap.size+1,W1.heap.size+1+1,rfl,(three _ _ _ _).2.2.1,(three _ _ _ _).1,(three _ _ _ _).2.1,(three _ _ _ _).2.2.2,by omega,by omega,by omega⟩
  ·exact⟨W1.heap.size,W1.heap.size+1+1,W1.heap.size+1,rfl,(three _ _ _ _).2.1,(three _ _ _ _).1,(three _ _ _ _).2.2.1,(three _ _ _ _).2.2.2,by omega,by omega,by omega⟩
  ·exact⟨W1.heap.size+1,W1.heap.size+1+1,W1.heap.size,rfl,(three _ _ _ _).1,(three _ _ _ _).2.1,(three _ _ _ _).2.2.1,(three _ _ _ _).2.2.2,by omega,by omega,by omega⟩
 case rest=>
  obtain⟨rb,pm,b13,rfl,h⟩:=hcut;have k1:=K0 h.out.1;have k2:=K6 h.out.2.2.1;have b9:Z.toList=List.replicate 8192 (Value.int .u8 0):=by rw[<-HZ.out];exact toList_madeCells_one _ _
  have e0:8192<=Z.size:=by have:=congrArg List.length b9;rw[Qr] at this;simp at this;omega
  have f5:=fun ty:TypeId=>tQ (P:=Tryz.prog) wc 49 9 ty 5 rb 8192 8192 s Z 5 Tryz.underlying49 Zk h.out.2.1 e0
  obtain⟨n,hn⟩:∃n,goInt (Nat.min s.size 8192)=n:=⟨_,rfl⟩
  have c3:(byteCells (s.data.toList.take (Nat.min s.size 8192))++Z.toList.drop (Nat.min s.size 8192)).toArray=((v7 s).map ly).toArray:=by
   rw[<-ram_init s,b9]
  rw[hn,c3] at f5;clear b9 e0 c3 hn;have b7:N W1 (wc.setRow rb ((v7 s).map ly).toArray):=below_setRow h.out.2.2.2.1 h.out.2.2.2.2.1 _;have e9:O (wc.setRow rb ((v7 s).map ly).toArray) rb ((v7 s).map ly).toArray 5:=nZ h.out.2.1;have f0:(wc.setRow rb ((v7 s).map ly).toArray).heap[pm]? =_:=ss h.out.2.2.1 (by rintro rfl;have h1:=h.out.2.1;rw[h.out.2.2.1] at h1;simp at h1);have g1:(wc.setRow rb ((v7 s).map ly).toArray).heap[b13]? =_:=ss h.out.1 (by rintro rfl;have h1:=h.out.2.1;rw[h.out.1] at h1;simp at h1);go_upto_region 5 with fail;generalize j0:wc.setRow rb ((v7 s).map ly).toArray=W2 at *;have k5:∀(fn:Fn) (first cap:Array Value) (W:World),(Instr.makeFunc fn first cap).run Tryz.prog W=.ok (.func fn first cap) W:=fun _ _ _ _=>rfl
  obtain⟨K,hK⟩:∃K:MK,K=⟨⟨p,inn,irq⟩,⟨.slice f1 p.funcs.length f2,.slice (some ⟨ba,oa,none⟩) p.args.length a2,.slice d1 p.data.length d2,.slice b1 p.banks.length b2⟩,.slice i1 inn.length i2,.slice q1 irq.length q2,pm,rb,W1.heap.size⟩:=⟨_,rfl⟩
  have t:N w W2:=a3.out.trans (b7.mono a3.out.size)
  have g0:MachAt W2 K ⟨v7 s,fuel,[],0,0⟩ (L):=by
   subst hK;exact⟨f0,e9,iG s,bY s,Jv _ _ _ _,fun p hp=>by simp at hp,by have:=g5.out.2;show 0+fuel.toNat<=4000000;omega,g5.out.1,Jt _,Jt _,h.out.2.2.2.2.2.1,h.out.2.2.2.2.1,(HP.out.below t).mono a3.out.size,(g4.out.1.below zr t).mono zr a3.out.size,(g4.out.2.below xQ t).mono xQ a3.out.size⟩
  have e5:W2.heap[w.heap.size+2]? =_:=zH b7 HY.out (lt_of_block HY.out);have g2:=Ja g0;have j:=Ja (Jb g1 (Jb e5 (Jb b7 t)));clear j0 g0 e5 g1 e9 f0 b7 t f5 k1 k2 h;go_upto_region 6 with fail;have c0:=zI (W:=W2) (o:=I #[.func (.func 148) #[] #[Q b13,Q (w.heap.size+1+1)]] 211) rfl;have a0:=(Below.refl W2.heap.size W2).alloc (Je _) (I #[.func (.func 148) #[] #[Q b13,Q (w.heap.size+1+1)]] 211);have f9:=g2.out.keep a0;have b0:=zH a0 j.out.1 (lt_of_block j.out.1);have c1:=zH a0 j.out.2.1 (lt_of_block j.out.2.1);have d0:N w _:=j.out.2.2.2.trans (a0.mono j.out.2.2.2.size);have d5:N W1 _:=j.out.2.2.1.trans (a0.mono j.out.2.2.1.size);generalize i8:W2.alloc (I #[.func (.func 148) #[] #[Q b13,Q (w.heap.size+1+1)]] 211)=W3 at *;generalize W2.heap.size=b14 at *;have a8:K.E=⟨p,inn,irq⟩/\K.pm=pm/\K.B=W1.heap.size:=by rw[hK];exact⟨rfl,rfl,rfl⟩
  have i:=j2.out K W3 _ a8.1 f9;obtain⟨RES,b3⟩:∃R,xW K.E 100 (k:Int) args ⟨v7 s,fuel,[],0,0⟩=R:=⟨_,rfl⟩
  have c2:bQ ⟨p,inn,irq⟩ (k:Int) args s fuel=adO RES:=by rw[<-b3,a8.1];rfl
  rw[b3,a8.2.1] at i;have l1:=K0 b0;have d7:=Ja c2;have g3:=Ja a8;have H3:=Ja (Jb b0 (Jb c1 (Jb c0 (Jb d0 d5))));clear i8 f9 b0 c1 c0 a0 d0 d5 hK c2 b3 j g2 a8
  have b5:∀(w4:World) (ov4:Value) (m4:Mach),MachAt w4 K m4 ov4->Frm K.B W3 w4->
   O w4 b13 #[Q K.pm] 208/\O w4 (w.heap.size+1+1) #[Y 0,L,U 0,Y 0,.string {data:=#[]},U 0,U 0] 57/\A w4 b14 0 (.func (.func 148) #[] #[Q b13,Q (w.heap.size+1+1)])/\N w w4:=fun w4 ov4 m4 d g=>by
   refine⟨by rw[g3.out.2.1];exact g.kept _ _ H3.out.1 (by simp[sA]),g.kept _ _ H3.out.2.1 (by simp[sA]),zA (g.kept _ _ H3.out.2.2.1 (by simp[sA])) Zs,H3.out.2.2.2.1.trans (g.below.mono ?_)⟩;rw[g3.out.2.2];exact a3.out.size
  have b8:=Ja b5;clear b5
  cases RES with
  |ok x m4=>
   have a6:G 150 #[Q pm,U k,.slice v1 args.length v2,U 1] W3 fun e w'=>e=.returned (Y x)/\(∃ov',MachAt w' K m4 ov')/\Frm K.B W3 w'/\x<65536:=i
   have d8:=Ja a6;clear i a6;go_upto_region 8 with(go_at_call 150;go_must (refine d8.out.mono ?_;rintro e w4 ⟨rfl,⟨ov4,d⟩,g,k3⟩))
   obtain⟨b4,y,d9,zb⟩:=b8.out w4 ov4 m4 d g;obtain⟨oa4,oc4,rfl⟩:=zG d.out
   have a5:G 148 #[.agg #[U 6,Y 0],Y x,Q b13,Q (w.heap.size+1+1)] w4 fun e w'=>
    e=.returned (.tuple #[])/\O w' (w.heap.size+1+1) (yV x (.slice oa4 m4.out.length oc4) 6 0 (y9 m4.ram) m4.inputs m4.polls) 57/\w4.grownBy w' (some (w.heap.size+1+1)):=pE d b4 y 6 0 x
   have b6:w4.heap[b14]? =_:=g.kept _ _ H3.out.2.2.1 (by simp[sA]);have g8:=Ja a5;have d6:=Ja (Jb d (Jb y (Jb zb b6)));clear a5 b4 y zb d g b6;go_upto_region 9 with(go_at_call 148;go_must (refine g8.out.mono ?_;rintro e w5 ⟨rfl,c,h6⟩))
   have r0:A w5 (w.heap.size+1+1) 0 (Y x):=zA c (by simp[yV]);have s0:D w5 (w.heap.size+1+1) 0:=zE c;have r1:A w5 (w.heap.size+1+1) 1 (.slice oa4 m4.out.length oc4):=zA c (by simp[yV]);have s1:D w5 (w.heap.size+1+1) 1:=zE c;have r2:A w5 (w.heap.size+1+1) 2 (U 6):=zA c (by simp[yV]);have s2:D w5 (w.heap.size+1+1) 2:=zE c;have r3:A w5 (w.heap.size+1+1) 3 (Y 0):=zA c (by simp[yV]);have s3:D w5 (w.heap.size+1+1) 3:=zE c;have r4:A w5 (w.heap.size+1+1) 4 (.string (y9 m4.ram)):=zA c (by simp[yV]);have s4:D w5 (w.heap.size+1+1) 4:=zE c;have r5:A w5 (w.heap.size+1+1) 5 (U (m4.inputs:Int)):=zA c (by simp[yV]);have s5:D w5 (w.heap.size+1+1) 5:=zE c;have r6:A w5 (w.heap.size+1+1) 6 (U (m4.polls:Int)):=zA c (by simp[yV]);have s6:D w5 (w.heap.size+1+1) 6:=zE c;have hE:=ku d6.out.1 d6.out.2.1 Zo d6.out.2.2.1 (zu (zu (zu (zu (zu (zu (zu h6 0 (Y x)) 1 (.slice oa4 m4.out.length oc4)) 2 (U 6)) 3 (Y 0)) 4 (.string (y9 m4.ram))) 5 (U (m4.inputs:Int))) 6 (U (m4.polls:Int)))
   have c4:abr w (bQ ⟨p,inn,irq⟩ (k:Int) args s fuel) (.returned (.agg #[Y x,.slice oa4 m4.out.length oc4,U 6,Y 0,.string (y9 m4.ram),U (m4.inputs:Int),U (m4.polls:Int)])) (((((((w5.setCell ⟨w.heap.size+1+1,0,none⟩ (Y x)).setCell ⟨w.heap.size+1+1,1,none⟩ (.slice oa4 m4.out.length oc4)).setCell ⟨w.heap.size+1+1,2,none⟩ (U 6)).setCell ⟨w.heap.size+1+1,3,none⟩ (Y 0)).setCell ⟨w.heap.size+1+1,4,none⟩ (.string (y9 m4.ram))).setCell ⟨w.heap.size+1+1,5,none⟩ (U (m4.inputs:Int))).setCell ⟨w.heap.size+1+1,6,none⟩ (U (m4.polls:Int))):=by
    rw[d7.out];exact⟨_,rfl,hE.1,hE.2⟩
   have g6:=Ja c4;clear c4 hE;go_wp2;refine leaves_cons (f:=149) (args:=#[Q b14]) Zs (by simp[go_sem]) ?_;refine(rec_idle _ _).mono ?_;rintro e u' w6 ⟨rfl,rfl,rfl⟩;simp[Leaves,settle,results,Tryz.results143,go_sem,r0,r1,r2,r3,r4,r5,r6]
   exact g6.out
  |trap k2 i2 m4=>
   have a6:G 150 #[Q pm,U k,.slice v1 args.length v2,U 1] W3 fun e w'=>e=.panicked [oE k2 i2]/\(∃ov',MachAt w' K m4 ov')/\Frm K.B W3 w'/\True:=i
   have d8:=Ja a6;clear i a6;go_wp2_with (go_at_call 150;go_must (refine d8.out.mono ?_;rintro e w4 ⟨rfl,⟨ov4,d⟩,g,_⟩))
   obtain⟨b4,y,d9,zb⟩:=b8.out w4 ov4 m4 d g;have hd:=pi d b4 y d9 k2 i2 [];obtain⟨oa4,oc4,rfl⟩:=zG d.out;refine leaves_cons (f:=149) (args:=#[Q b14]) Zs (by simp[go_sem]) ?_;refine hd.mono ?_;rintro e u' w5 ⟨rfl,rfl,c,h6⟩;have hE:=ku d y Zo zb h6;have r0:A w5 (w.heap.size+1+1) 0 (Y ((0:Nat):Int)):=zA c (by simp[yV]);have r1:A w5 (w.heap.size+1+1) 1 (.slice oa4 m4.out.length oc4):=zA c (by simp[yV]);have r2:A w5 (w.heap.size+1+1) 2 (U k2):=zA c (by simp[yV]);have r3:A w5 (w.heap.size+1+1) 3 (Y i2):=zA c (by simp[yV]);have r4:A w5 (w.heap.size+1+1) 4 (.string (y9 m4.ram)):=zA c (by simp[yV]);have r5:A w5 (w.heap.size+1+1) 5 (U (m4.inputs:Int)):=zA c (by simp[yV]);have r6:A w5 (w.heap.size+1+1) 6 (U (m4.polls:Int)):=zA c (by simp[yV])
   have a5:abr w (bQ ⟨p,inn,irq⟩ (k:Int) args s fuel) (.returned (.agg #[Y ((0:Nat):Int),.slice oa4 m4.out.length oc4,U k2,Y i2,.string (y9 m4.ram),U (m4.inputs:Int),U (m4.polls:Int)])) w5:=by
    rw[d7.out];exact⟨_,rfl,hE.1,hE.2⟩
   simp[Leaves,settle,results,Tryz.results143,go_sem,r0,r1,r2,r3,r4,r5,r6];exact a5
structure SK where
 sb:Nat
 rb:Nat
 kb:Nat
 rm:Nat
 n:Nat
 B:Nat
 V:PV
 fv:Value
variable {K:SK}
def slCells (K:SK)(p:IProg)(k:Nat):Array Value:=#[K.V.fv,K.V.av,U p.entry,U p.handler,K.V.dv,K.V.bv,K.fv,.map (some K.rm),F K.rb K.n K.n,F K.kb K.n K.n,U k]
def ro (a:Rg):List Value:=[Y (a.lo:Int),Y (a.hi:Int)]
structure SlvAt (w:World) (K:SK) (p:IProg) (bls:List IBlk) (k:Nat) (s:Slv):Prop where
 prog:ProgIn w K.B K.V p
 blks:wX w K.B K.fv bls
 map:aeE w K.rm 17 ruG
 cell:w.heap[K.sb]? =some (.cells (slCells K p k) 99 (0,0))
 row:w.heap[K.rb]? =some (.cells (s.r.flatMap ro).toArray 45 (0,0))
 kn:w.heap[K.kb]? =some (.cells (s.kn.map Value.bool).toArray 4 (0,0))
 oks:OkS K.n s
 n64:K.n<=1000000
 lt:K.B<=K.sb/\K.B<=K.rb/\K.B<=K.kb/\K.B<=K.rm
 ne:K.sb≠K.rb/\K.sb≠K.kb/\K.sb≠K.rm/\K.rb≠K.kb/\K.rb≠K.rm/\K.kb≠K.rm
theorem SlvAt.below{p:IProg}{c:List IBlk}{s:Slv}(h:SlvAt w K p c k s)(hb:N w w'):SlvAt w' K p c k s:=by
 have h1:=lt_of_block h.cell;have hB:K.B<=w.heap.size:=Qd (Nat.lt_of_le_of_lt h.lt.1 h1);exact⟨h.prog.below (hb.mono hB),h.blks.below yT (hb.mono hB),h.map.below hb,(hb.block _ h1).trans h.cell,(hb.block _ (lt_of_block h.row)).trans h.row,(hb.block _ (lt_of_block h.kn)).trans h.kn,h.oks,h.n64,h.lt,h.ne⟩
theorem SlvAt.rcell{p:IProg}{c:List IBlk}{s:Slv}(h:SlvAt w K p c k s){v:Int}(d:0<=v/\v<K.n):
 A w K.rb (v.toNat*2) (Y ((s.get v).lo:Int))/\A w K.rb (v.toNat*2+1) (Y ((s.get v).hi:Int)):=by
 have hl:v.toNat<s.r.length:=by rw[h.oks.rl];omega
 have hg:s.r[v.toNat]? =some (s.get v):=by
  unfold Slv.get;rw[Jj,Jd hl];rfl
 exact⟨by have:=oW (f:=ro) (n:=2) (fun _=>rfl) h.row hg (j:=0) rfl;rw[Ng,Uk] at this;exact this,by have:=oW (f:=ro) (n:=2) (fun _=>rfl) h.row hg (j:=1) rfl;rw[Ng] at this;exact this⟩
theorem af7 (w:World)(n:Nat):G 122 #[Y n] w (fun e w'=>e=.returned (.agg #[Y n,Y n])/\N w w'):=ahB w n
theorem ahE(sv:Value){o:IOp}(av:Value)(h1:o.code=1)(p:IProg)(s:Slv):
 G 96 #[sv,aam o av] w (mo w (afO p s o)):=by
 rw[show afO p s o=agu o.n from if_pos h1];obtain⟨c,d,a,b,x,al⟩:=o;subst h1;unfold aam;have h:=Ja (fun W=>af7 W x);go_enter Tryz.func96,Tryz.ntmps96;go_wp2_with (go_at_call 122;go_must (refine(h.out _).mono ?_;rintro e w1 ⟨rfl,g⟩;have hk:O w1 (w.heap.size+1) #[Y 0,Y 0] 45:=zH g (zI Zs) Zs;have f0:=zA (i:=0) hk rfl;have f1:=zA (i:=1) hk rfl;have g0:=zE (i:=0) hk;have g1:=zE (i:=1) hk;have j:=lt_of_block hk;have k:=Below.trans (show N w _ from Zv) (g.mono Zy);clear g hk))
 refine bodyPost_ret (v:=.agg #[Y x,Y x]) ?_ rfl ⟨rfl,Zj⟩;rw[zM rfl];go_simp
theorem SlvAt.cells{p:IProg}{c:List IBlk}{s:Slv}(h:SlvAt w K p c k s):
 A w K.sb 4 K.V.dv/\A w K.sb 7 (.map (some K.rm))/\A w K.sb 8 (F K.rb K.n K.n)/\A w K.sb 9 (F K.kb K.n K.n)/\A w K.sb 10 (U k)/\A w K.sb 6 K.fv:=
 ⟨zA h.cell rfl,zA h.cell rfl,zA h.cell rfl,zA h.cell rfl,zA h.cell rfl,zA h.cell rfl⟩
theorem aiu{p:IProg}{a6:List IBlk}{s:Slv}(h:SlvAt w K p a6 k s){o:IOp}(av:Value)(h2:o.code=2)(ha:0<=o.a/\o.a<p.data.length)(hn:o.n<65536):
 G 96 #[Q K.sb,aam o av] w (mo w (afO p s o)):=by
 obtain⟨c,d,a,b,n,al⟩:=o;have ha:0<=a/\a<p.data.length:=ha;have hn:n<65536:=hn;obtain⟨j,rfl⟩:∃j:Nat,a=j:=⟨a.toNat,by omega⟩
 have h2:c=2:=h2;subst h2;rw[show afO p s ⟨2,d,j,b,n,al⟩=agu (((p.data.getD j ⟨0,0,0⟩).addr+n)%65536) from rfl];unfold aam;obtain⟨x,hx⟩:∃x,p.data[j]? =some x:=⟨_,Jd Zo⟩
 obtain⟨da,dc,t,a2,a3⟩:=h.prog.data.form;have m:=h.prog.data;rw[t] at m;obtain⟨db,dq,rfl,a4,l⟩:=m.get hx;obtain⟨y,hy⟩:∃y,(x.addr+n)%65536=y:=⟨_,rfl⟩
 rw[show(p.data.getD j ⟨0,0,0⟩)=x by rw[Jj,hx];rfl,hy];have a8:IntKind.u16.wrap ((x.addr:Int)+n)=(y:Int):=by rw[xY];omega
 have a5:K.B<=w.heap.size:=Qd (Nat.lt_of_le_of_lt h.lt.1 (lt_of_block h.cell));have b0:=lt_of_block h.cell;have hj:j<p.data.length:=Zo;have HC:=Ja (show ∀W,N w W->A W K.sb 4 (.slice (some ⟨db,dq,none⟩) p.data.length dc)/\A W db (dq+j*3+1) (Y (x.addr:Int)) from fun W hb=>⟨by rw[<-t];exact(h.below hb).cells.1,(hb.cell (p:=⟨db,dq+j*3+1,none⟩) (Jy a4 a5)).trans l.2.1⟩);have HO:=Ja (fun W=>af7 W y);obtain⟨c0,c1⟩:=HC.out w (Below.refl _ _);clear h l m t hx hy ha hn a3 a2;go_enter Tryz.func96,Tryz.ntmps96;go_upto_region 5 with(go_at_call 999999;skip)
 obtain⟨X,hX⟩:∃X,(w.alloc (I #[U 2,U d,U j,U b,Y n,av] 76)).alloc (I #[Y 0,Y 0] 45)=X:=⟨_,rfl⟩
 have g:=Ja (show N w X/\O X w.heap.size #[U 2,U d,U j,U b,Y n,av] 76/\O X (w.heap.size+1) #[Y 0,Y 0] 45 from by
  rw[<-hX];exact⟨Zv,zB (zI rfl),zI Zs⟩)
 rw[hX];clear hX c0 c1;have a1:=Ja (show ∀W,Below (w.heap.size+1) X W->(A W K.sb 4 (.slice (some ⟨db,dq,none⟩) p.data.length dc)/\A W db (dq+j*3+1) (Y (x.addr:Int)))/\A W w.heap.size 2 (U j)/\A W w.heap.size 4 (Y n) from fun W hb=>⟨HC.out W (g.out.1.trans (hb.mono (Nat.le_succ _))),zA ((hb.block _ (Nat.lt_succ_self _)).trans g.out.2.1) rfl,zA ((hb.block _ (Nat.lt_succ_self _)).trans g.out.2.1) rfl⟩);obtain⟨⟨c0,c1⟩,c2,c3⟩:=a1.out X (Below.refl _ _)
 go_region_held3 (fun w'=>(A w' K.sb 4 (.slice (some ⟨db,dq,none⟩) p.data.length dc)/\A w' db (dq+j*3+1) (Y (x.addr:Int)))/\A w' w.heap.size 2 (U j)/\A w' w.heap.size 4 (Y n))
  ((refine a1.out _ ?_;repeat' (first|with_reducible exact Below.refl _ _|with_reducible assumption|with_reducible refine Below.drew ?_|refine Below.setCell ?_ (by first|exact Je _|(show w.heap.size+1<=w.heap.size+1;omega)) _)))
  ((go_at_call 122;(refine(HO.out _).mono ?_;rintro e w1 ⟨rfl,a0⟩;have u:N X w1:=Below.trans (show N X _ from Zf) (a0.mono (Je _));clear a0;have b3:Below (w.heap.size+1) X w1:=u.mono (Qd (lt_of_block g.out.2.2));have hk:=zH u g.out.2.2 (lt_of_block g.out.2.2);have f0:=zA (i:=0) hk rfl;have f1:=zA (i:=1) hk rfl;have g0:=zE (i:=0) hk;have g1:=zE (i:=1) hk;have b1:=lt_of_block hk;have b2:=g.out.1.trans (u.mono g.out.1.size))))
 all_goals go_wp2
 all_goals (refine bodyPost_ret (v:=.agg #[Y y,Y y]) ?_ rfl ⟨rfl,Zj⟩;rw[zM rfl];go_simp)
def aiG (a:Int):List IOp:=[⟨1,1,0,0,15,[]⟩,⟨9,2,0,1,0,[]⟩,⟨2,3,0,0,0,[]⟩,⟨5,4,2,3,0,[]⟩,⟨a,5,4,0,0,[]⟩]
def mainL:List IBlk:=[⟨[],[],⟨5,0,[]⟩⟩]
def ajn (a:Int):List IBlk:=[⟨[0],aiG a,⟨4,5,[]⟩⟩]
def ahn (a:Int):IProg:=⟨[mainL,ajn a],[0,1],0,-1,[⟨-1,16384,16⟩],[]⟩
theorem yN.two{α:Type}{sz:Nat}{R:World->Nat->Nat->Nat->α->Prop}{B b:Nat}{x y:α}(hb:b<B)(c:R w B b 0 x)(h1:R w B b sz y):yN sz R w B (F b 2 2) [x,y]:=by
 refine⟨_,2,rfl,Je _,by omega,fun k z hk=>⟨b,0,rfl,hb,?_⟩⟩
 match k,hk with
 |0,hk=>cases hk;rw[Ng,Nat.zero_mul];exact c
 |1,hk=>cases hk;rw[Ng,Nat.one_mul];exact h1
def agQ (o:IOp):IOp×Value:=(o,L)
theorem ahI{B b n:Nat}{l:List IOp}{e:TypeId}(h:O w b ((l.map agQ).flatMap zU).toArray e)(hb:b<B)(h64:∀o∈l,qN o/\o.args=[])(c:n=l.length)(hl:l.length<=1000000):
 mN w B (F b n n) l:=by
 have:=aiL (l:=l.map agQ) h hb (fun q hq=>by
  obtain⟨o,ho,rfl⟩:=Nu.1 hq;obtain⟨h1,h2⟩:=h64 o ho;refine⟨h1,?_⟩
  show zY w B (L) o.args
  rw[h2]
  exact yN.nil) (by rw[Nr];exact hl)
 rw[Nr,List.map_map,show((fun q:IOp×Value=>q.1) ∘ agQ)=id from rfl,List.map_id] at this;rw[c];exact this
theorem aht (w:World)(a:Int)(j:I64 a):G 30 #[U a] w (mL w (ahn a)):=by
 have t:=Ja j;clear j;obtain⟨s,hs⟩:∃s,w.heap.size=s:=⟨_,rfl⟩
 go_enter Tryz.func30,Tryz.ntmps30;go_wp2;generalize c:World.alloc _ _=W;have hb:Below s w W:=by rw[<-c,<-hs];repeat' (first|exact Below.refl _ _|refine Below.alloc ?_ (by first|exact Je _|(simp;done)|(simp;omega)) _)
 have d:O W s #[F (s+1+1+1+1+1+1+1) 2 2,F (s+1+1+1+1+1+1+1+1) 2 2,U 0,U (-1),F (s+1+1+1+1+1+1+1+1+1) 1 1,L] 29:=by rw[<-c];repeat' (first|exact zI (by first|exact hs|rfl|(simp;done)|(simp;omega))|refine zB ?_)
 have h1:O W (s+1) (((aiG a).map agQ).flatMap zU).toArray 76:=by rw[<-c];repeat' (first|exact zI (by first|exact hs|rfl|(simp;done)|(simp;omega))|refine zB ?_)
 have h2:O W (s+1+1) #[L,L,U 5,U 0,L] 84:=by rw[<-c];repeat' (first|exact zI (by first|exact hs|rfl|(simp;done)|(simp;omega))|refine zB ?_)
 have m:O W (s+1+1+1+1) #[U 0] 3:=by rw[<-c];repeat' (first|exact zI (by first|exact hs|rfl|(simp;done)|(simp;omega))|refine zB ?_)
 have g:O W (s+1+1+1+1+1) #[F (s+1+1+1+1) 1 1,F (s+1) 5 5,U 4,U 5,L] 84:=by rw[<-c];repeat' (first|exact zI (by first|exact hs|rfl|(simp;done)|(simp;omega))|refine zB ?_)
 have l:O W (s+1+1+1+1+1+1+1) #[F (s+1+1) 1 1,F (s+1+1+1+1+1) 1 1] 39:=by rw[<-c];repeat' (first|exact zI (by first|exact hs|rfl|(simp;done)|(simp;omega))|refine zB ?_)
 have k:O W (s+1+1+1+1+1+1+1+1) #[U 0,U 1] 3:=by rw[<-c];repeat' (first|exact zI (by first|exact hs|rfl|(simp;done)|(simp;omega))|refine zB ?_)
 have h:O W (s+1+1+1+1+1+1+1+1+1) #[U (-1),Y 16384,Y 16] 89:=by rw[<-c];repeat' (first|exact zI (by first|exact hs|rfl|(simp;done)|(simp;omega))|refine zB ?_)
 clear c;have x:=lt_of_block h;refine bodyPost_ret (v:=.agg #[F (s+1+1+1+1+1+1+1) 2 2,F (s+1+1+1+1+1+1+1+1) 2 2,U 0,U (-1),F (s+1+1+1+1+1+1+1+1+1) 1 1,L]) ?_ rfl ?_
 ·have x0:=zA (i:=0) d rfl;have x1:=zA (i:=1) d rfl;have x2:=zA (i:=2) d rfl;have x3:=zA (i:=3) d rfl;have x4:=zA (i:=4) d rfl;have x5:=zA (i:=5) d rfl;have u:=lt_of_block d;rw[zM rfl];go_simp
 ·refine⟨⟨_,_,_,_⟩,rfl,⟨?_,?_,?_,yN.nil,pZ,ajo⟩,by rw[hs];exact hb⟩
  ·refine yN.two Zo ⟨_,zA l rfl,yN.one Zo ?_⟩ ⟨_,zA l rfl,yN.one Zo ?_⟩
   ·exact⟨zA h2 rfl,zA h2 rfl,⟨⟨by decide,by decide⟩,⟨by decide,by decide⟩⟩,_,_,_,zA h2 rfl,zA h2 rfl,zA h2 rfl,yN.nil,yN.nil,yN.nil⟩
   ·refine⟨zA g rfl,zA g rfl,⟨(show I64 (4) from⟨by decide,by decide⟩),(show I64 (5) from⟨by decide,by decide⟩)⟩,_,_,_,zA g rfl,zA g rfl,zA g rfl,yN.one Zo ⟨zA m rfl,⟨by decide,by decide⟩⟩,ahI h1 Zo (fun o ho=>?_) rfl (by show(5:Nat)<=_;omega),yN.nil⟩;simp only[aiG,Jq,List.not_mem_nil,or_false] at ho;rcases ho with rfl|rfl|rfl|rfl|rfl
    ·exact⟨⟨⟨by decide,by decide⟩,⟨by decide,by decide⟩,⟨by decide,by decide⟩,⟨by decide,by decide⟩,by decide⟩,rfl⟩
    ·exact⟨⟨⟨by decide,by decide⟩,⟨by decide,by decide⟩,⟨by decide,by decide⟩,⟨by decide,by decide⟩,by decide⟩,rfl⟩
    ·exact⟨⟨⟨by decide,by decide⟩,⟨by decide,by decide⟩,⟨by decide,by decide⟩,⟨by decide,by decide⟩,by decide⟩,rfl⟩
    ·exact⟨⟨⟨by decide,by decide⟩,⟨by decide,by decide⟩,⟨by decide,by decide⟩,⟨by decide,by decide⟩,by decide⟩,rfl⟩
    ·exact⟨⟨t.out,(show I64 (5) from⟨by decide,by decide⟩),(show I64 (4) from⟨by decide,by decide⟩),(show I64 (0) from⟨by decide,by decide⟩),(show(0:Nat)<65536 by decide)⟩,rfl⟩
  ·exact yN.two Zo ⟨zA k rfl,⟨by decide,by decide⟩⟩ ⟨zA k rfl,⟨by decide,by decide⟩⟩
  ·exact yN.one Zo ⟨zA h rfl,zA h rfl,zA h rfl,⟨by decide,by decide⟩,by decide,by decide⟩
def ahY (w:World)(p:IProg)(e:Ending)(w':World):Prop:=∃(fa:Option Addr) (fc:Nat) (aa:Option Addr) (ac:Nat) (da:Option Addr) (dc:Nat) (ba:Option Addr) (bc:Nat),e=.returned (.agg (P p fa fc aa ac da dc ba bc))/\
 ProgIn w' w'.heap.size ⟨.slice fa p.funcs.length fc,.slice aa p.args.length ac,.slice da p.data.length dc,.slice ba p.banks.length bc⟩ p/\N w w'
theorem ai1{p:IProg}(h64:P64 p){e:Ending}(h:ajB w p e w'):ahY w p e w':=by
 obtain⟨t,rfl,ht,hr,hb⟩:=h;subst ht;obtain⟨fa,fc,h1,_,_⟩:=(PT.in hr h64).funcs.form;obtain⟨aa,ac,h2,_,_⟩:=(PT.in hr h64).args.form;obtain⟨da,dc,h3,_,_⟩:=(PT.in hr h64).data.form;obtain⟨ba,bc,c,_,_⟩:=(PT.in hr h64).banks.form;refine⟨fa,fc,aa,ac,da,dc,ba,bc,?_,?_,hb⟩
 ·unfold yH;rw[h1,h2,h3,c]
 ·rw[<-h1,<-h2,<-h3,<-c];exact PT.in hr h64
def ajt (w:World)(ra:Option Addr)(R:List Rg):Prop:=R≠ []->∃b,ra=some ⟨b,0,none⟩/\O w b (R.flatMap ro).toArray 45
end Go.Proofs.YtoahcpkibpomcaaGreat
