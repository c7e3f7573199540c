/- Part of a proof. -/
import Derived.Test.YtoahcpkibpomcaaIOper
import Derived.Deep.MidRow
set_option linter.all false
set_option maxHeartbeats 4000000
set_option maxRecDepth 100000
namespace Go.Proofs.Ytoahcpkibpomcaa
open Go.RowKit
variable {bl blocks:List IBlk}{t:ITerm}{C k on vb vn:Nat}{w w':World}{ov tv:Value}{K:MK}{m m':Mach}{c i oa ob:Int}{d d':wO}{g:List (List Nat)}{tl:List Value}{l:List Int}{o:IOp}
theorem edge_bad{e:IEdge}(c:t.to[k]? =some e)(h:uM blocks e=false):wn blocks t=false:=by
 unfold wn
 have:t.to.all (uM blocks)=false:=by
  rw[Bool.eq_false_iff];intro d;rw[Oe.1 d e (Ji c)] at h;cases h
 rw[this];rfl
theorem term_any{B:Nat}{cs:Array Value}{d2:Value}(c1:wX w B d2 blocks)(hB:B<=w.heap.size)(hC:T w C cs 107)(h6:cs[6]? =some d2)(t:ITerm)(ht:I64 t.kind/\I64 t.a)(b2:wH w B tv t.to):
 A 78 #[G C,.agg #[I t.kind,I t.a,tv]] w (ym w (wn blocks t)):=by
 obtain⟨fa,fc,rfl,e7,e6⟩:=c1.form;obtain⟨ta,tc,rfl,e3,e2⟩:=b2.form;have g6:blocks.length<=9223372036854775807:=Zo;have g4:t.to.length<=9223372036854775807:=Zo;obtain⟨tk,b3⟩:∃x,t.kind=x:=⟨_,rfl⟩
 obtain⟨tA,b4⟩:∃x,t.a=x:=⟨_,rfl⟩
 have f6:=Ja c1;have f4:=Ja b2;obtain⟨res,a0⟩:∃x,wn blocks t=x:=⟨_,rfl⟩
 rw[a0,b3,b4];have m:=Ja (show wn blocks t=res/\t.kind=tk/\t.a=tA from⟨a0,b3,b4⟩);have d0:Q w (w.alloc (U #[I tk,I tA,.slice ta t.to.length tc] 34)):=(Below.refl _ _).alloc (Je _) _;have b1:=zI (W:=w) (o:=U #[I tk,I tA,.slice ta t.to.length tc] 34) rfl;have g:=zB (o:=U #[I tk,I tA,.slice ta t.to.length tc] 34) hC;clear c1 b2 a0 b3 b4 hC e7 e6 e3 e2;go_enter Try.func78,Try.ntmps78;go_upto_region 1 with fail;generalize f3:w.alloc (U #[I tk,I tA,.slice ta t.to.length tc] 34)=W0 at *;have y2:=K2 b1;have c:=Ja d0;have d3:=Ja b1;have d5:=Ja g;clear f3 d0 b1 g;go_wp2
 go_loopw [10] (fun kv wx=>∃k:Nat,k<=t.to.length/\kv=I k/\Hid (Q W0 wx/\(t.to.take k).all (uM blocks)=true)) (fun kv _=>t.to.length-(intOf kv).toNat)
 case atStart=>exact⟨0,Jt _,rfl,Ja ⟨Below.refl _ _,by rfl⟩⟩
 case round=>
  obtain⟨k,hk,rfl,HK⟩:=hrel
  by_cases a6:k<t.to.length
  ·have d6:(k:Int)<t.to.length:=Zo;have d4:=Ja a6;obtain⟨e,he⟩:∃e,t.to[k]? =some e:=⟨_,Jd a6⟩
   obtain⟨b,oo,rfl,hb,g,b7,av,c9,d1⟩:=f4.out.get he;obtain⟨aa,ac,rfl,f1,f0⟩:=d1.form;have h0:e.args.length<=9223372036854775807:=Zo;have c0:Q w wr:=c.out.trans (HK.out.1.mono c.out.size);obtain⟨eb,a9⟩:∃x,e.block=x:=⟨_,rfl⟩
   rw[a9] at g;have e0:=zV c0 (Jy hb hB) g;have e1:=zV c0 (Jy hb hB) c9;have d:=zH HK.out.1 d5.out (lt_of_block d5.out);have HT:=Ja (show(t.to.take (k+1)).all (uM blocks)=((t.to.take k).all (uM blocks) && uM blocks e)/\(uM blocks e=false->wn blocks t=false) from⟨xX (uM blocks) he,fun h=>edge_bad he h⟩);have HE:=Ja a9;have c3:I64 eb:=a9 ▸ b7;obtain⟨g8,g7⟩:=c3;have c5:=zB (o:=U #[I eb,.slice aa e.args.length ac] 93) d;have b0:=zI (W:=wr) (o:=U #[I eb,.slice aa e.args.length ac] 93) rfl;have c4:=HK.out.1.alloc (HK.out.1.size) (U #[I eb,.slice aa e.args.length ac] 93);clear g c9 d1 he d a6 f1 f0 b7 a9 y2;go_upto_region 4 with fail;generalize f2:wr.alloc (U #[I eb,.slice aa e.args.length ac] 93)=W1 at *;generalize wr.heap.size=b6 at *;have g0:=K0 b0;have f9:=K1 b0;have zc:O W1 C 6 (.slice fa blocks.length fc):=zA c5 h6;have u:=Ja c4;clear f2 b0 c5 c4 c0 e0 e1
   by_cases g1:1<=eb
   ·have t1:decide (eb<1)=false:=decide_eq_false Zo;obtain⟨j,rfl⟩:∃j:Nat,eb=(j:Int):=⟨eb.toNat,by omega⟩
    by_cases g2:j<blocks.length
    ·have t2:decide ((blocks.length:Int)<=(j:Int))=false:=decide_eq_false Zo;have d7:decide (blocks.length<=j)=false:=decide_eq_false Zo;have d8:(j:Int)<(blocks.length:Int):=Zo;obtain⟨bx,b8⟩:∃bx,blocks[j]? =some bx:=⟨_,Jd g2⟩
     obtain⟨fb,fo,rfl,e8,_,_,_,pv,ov,g3,c8,_,_,c7,_⟩:=f6.out.get b8;obtain⟨pa,pc,rfl,e5,e4⟩:=c7.form;have g5:bx.params.length<=9223372036854775807:=Zo;have b9:Q w W1:=c.out.trans (u.out.mono c.out.size);have p0:=zV b9 (Jy e8 hB) c8;obtain⟨q3,b5⟩:∃q,decide (e.args.length=bx.params.length)=q:=⟨_,rfl⟩
     have t3:((e.args.length:Int) !=(bx.params.length:Int))=!q3:=by
      rw[bne,zl (q:=q3) (zZ b5 Zo)]
     have f:uM blocks e=q3:=by
      unfold uM xz;rw[HE.out,decide_eq_true g1,decide_eq_true d8,Ni,Jj,b8,Ot,b5];rfl
     have i:=Ja f;clear b8 c8 c7 e5 e4 b9 f b5 g2
     cases q3 with
     |true=>
      go_quiet (fail);go_wp2;go_roundw
      case rel=>exact⟨k+1,d4.out,by go_num,Ja ⟨yC u.out,by rw[HT.out.1,HK.out.2,i.out];rfl⟩⟩
      case measure=>have:=d4.out;simp[intOf];omega
     |false=>
      go_quiet (fail);go_wp2;go_ret;exact⟨uz (m.out.1.symm.trans (HT.out.2 i.out)),yC (c.out.trans (u.out.mono c.out.size))⟩
    ·have t2:decide ((blocks.length:Int)<=(j:Int))=true:=decide_eq_true Zo;have d7:decide (blocks.length<=j)=true:=decide_eq_true Zo
     have f:uM blocks e=false:=by
      unfold uM;rw[HE.out,decide_eq_false (show ¬(j:Int)<(blocks.length:Int) by omega),Uh];rfl
     have i:=Ja f;clear f g2;go_quiet (fail);go_wp2;go_ret;exact⟨uz (m.out.1.symm.trans (HT.out.2 i.out)),yC (c.out.trans (u.out.mono c.out.size))⟩
   ·have t1:decide (eb<1)=true:=decide_eq_true Zo
    have f:uM blocks e=false:=by
     unfold uM;rw[HE.out,decide_eq_false g1];rfl
    have i:=Ja f;clear f g1;go_quiet (fail);go_wp2;go_ret;exact⟨uz (m.out.1.symm.trans (HT.out.2 i.out)),yC (c.out.trans (u.out.mono c.out.size))⟩
  ·obtain rfl:k=t.to.length:=by omega
   have d6:¬(t.to.length:Int)<t.to.length:=Zo;have d:=zH HK.out.1 d3.out (lt_of_block d3.out);have z0:=K0 d;have z1:=K1 d;have z2:=K2 d;have c2:t.to.all (uM blocks)=true:=by have:=HK.out.2;rwa [Nl] at this
   have y:Hid ((if tk=1 then decide (t.to.length=1) && decide (tA=0)
    else if tk=2 then decide (t.to.length=2)
    else if tk=3 then decide (1<=t.to.length)
    else if tk=4 then decide (t.to.length=0)
    else if tk=5 then decide (t.to.length=0) && decide (tA=0)
    else false)=res):=by
    have h:=m.out;unfold wn at h;rw[c2,Bool.true_and,h.2.1,h.2.2] at h;exact h.1
   have l:=Ja (show Q w wr from c.out.trans (HK.out.1.mono c.out.size));obtain⟨a1,h1⟩:∃q,decide (t.to.length=1)=q:=⟨_,rfl⟩
   obtain⟨a2,h2⟩:∃q,decide (t.to.length=2)=q:=⟨_,rfl⟩
   obtain⟨a3,h3⟩:∃q,decide (1<=t.to.length)=q:=⟨_,rfl⟩
   obtain⟨a4,h4⟩:∃q,decide (t.to.length=0)=q:=⟨_,rfl⟩
   obtain⟨a5,h5⟩:∃q,decide (tA=0)=q:=⟨_,rfl⟩
   rw[h1,h2,h3,h4,h5] at y;have t1:((t.to.length:Int)==1)=a1:=zl (zZ h1 Zo);have t2:((t.to.length:Int)==2)=a2:=zl (zZ h2 Zo);have t3:decide ((1:Int)<=(t.to.length:Int))=a3:=zZ h3 Zo;have t4:((t.to.length:Int)==0)=a4:=zl (zZ h4 Zo);have t5:=zl h5;clear c2 d h1 h2 h4 h5 y2 a6
   by_cases k1:tk=1
   ·subst k1;cases a1<;>cases a5
    all_goals go_wp2
    all_goals go_ret
    all_goals exact⟨uz (y.out.symm.trans rfl),l.out⟩
   by_cases k2:tk=2
   ·subst k2;go_wp2;go_ret;exact⟨uz (y.out.symm.trans rfl),l.out⟩
   by_cases k3:tk=3
   ·subst k3;go_wp2;go_ret;exact⟨uz (y.out.symm.trans rfl),l.out⟩
   by_cases k4:tk=4
   ·subst k4;go_wp2;go_ret;exact⟨uz (y.out.symm.trans rfl),l.out⟩
   by_cases k5:tk=5
   ·subst k5;cases a4<;>cases a5
    all_goals go_wp2
    all_goals go_ret
    all_goals exact⟨uz (y.out.symm.trans rfl),l.out⟩
   have f5:Hid (false=res):=by
    have:=y.out;rw[if_neg k1,if_neg k2,if_neg k3,if_neg k4,if_neg k5] at this;exact this
   have u1:(tk==1)=false:=by rw[beq_eq_false_iff_ne];exact k1
   have u2:(tk==2)=false:=by rw[beq_eq_false_iff_ne];exact k2
   have u3:(tk==3)=false:=by rw[beq_eq_false_iff_ne];exact k3
   have u4:(tk==4)=false:=by rw[beq_eq_false_iff_ne];exact k4
   have u5:(tk==5)=false:=by rw[beq_eq_false_iff_ne];exact k5
   clear k1 k2 k3 k4 k5 y;go_wp2;go_ret;exact⟨uz f5.out.symm,l.out⟩
theorem inRam_no (a:Nat):wo a=false↔a<16384∨24576<=a:=by
 rw[<-Bool.not_eq_true,qG];omega
theorem sX(h:MachAt w K m ov)(a:Nat)(f:a<65536)(hr:wo a=false):A 101 #[G K.pm,M a] w fun e w'=>e=.panicked [oE 2 a]/\w=w':=by
 clear h;rcases(inRam_no a).1 hr with hlt|hge
 ·have c:(a:Int)<16384:=Zo;clear hr hlt;go_enter Try.func101,Try.ntmps101;go_wp2_with (go_at_call 95;go_must (refine(wj 2 a _).mono ?_;rintro e w' ⟨rfl,rfl⟩))
  exact⟨rfl,rfl,rfl⟩
 ·have c:24576<=(a:Int):=Zo;have d:¬(a:Int)<16384:=Zo;clear hr hge;go_enter Try.func101,Try.ntmps101;go_wp2_with (go_at_call 95;go_must (refine(wj 2 a _).mono ?_;rintro e w' ⟨rfl,rfl⟩))
  exact⟨rfl,rfl,rfl⟩
theorem vX(h:MachAt w K m ov)(a:Nat)(f:a<65536)(hr:wo a=true):A 101 #[G K.pm,M a] w fun e w'=>e=.returned (.pointer (some ⟨K.rb,a-16384,none⟩))/\w=w':=by
 have c6:=h.c6;clear h;have c:=(qG a).1 hr;have k:¬(a:Int)<16384:=Zo;have j:¬24576<=(a:Int):=Zo;have i:0<=(a:Int)-16384:=Zo;have g:(a:Int)-16384<8192:=Zo;have d:((a:Int)-16384).toNat=a-16384:=Zo;have l:=Ja d;clear hr c d;go_enter Try.func101,Try.ntmps101;go_wp2;go_ret;exact⟨rfl,rfl⟩
def jk (w:World)(B:Nat)(x:IEdge)(e:Ending)(w':World):Prop:=∃av,e=.returned (.agg #[I x.block,av])/\zY w B av x.args/\I64 x.block/\Q w w'
theorem edge_any{B:Nat}(ht:wH w B tv t.to)(hk:I64 t.kind)(hB:B<=w.heap.size)(ho:bS blocks t)(h4:t.kind≠4)(h5:t.kind≠5)(a:Nat)(ha:a<65536):
 A 98 #[.agg #[I t.kind,I t.a,tv],M a] w (jk w B (wK t a)):=by
 obtain⟨ta,tc,rfl,b1,a9⟩:=ht.form;obtain⟨q,g,f,d,_⟩:=ho
 have get:∀k,k<t.to.length->∃b o ab ac,ta=some ⟨b,o,none⟩/\b<B/\O w b (o+k*2) (I (t.to.getD k ⟨0,[]⟩).block)/\O w b (o+k*2+1) (.slice ab (t.to.getD k ⟨0,[]⟩).args.length ac)/\zY w B (.slice ab (t.to.getD k ⟨0,[]⟩).args.length ac) (t.to.getD k ⟨0,[]⟩).args/\I64 (t.to.getD k ⟨0,[]⟩).block:=fun k hk=>by
  have e:t.to.getD k ⟨0,[]⟩=t.to[k]:=by rw[Jj,Jd hk];rfl
  obtain⟨b,o,a5,a4,a3,a2,av,a1,y⟩:=ht.get (Jd hk);obtain⟨ab,ac,rfl,_,_⟩:=y.form;rw[e];exact⟨b,o,ab,ac,a5,a4,a3,a1,y,a2⟩
 have GET:=Ja get;clear get ht;have j:∀(x:IEdge) (av:Value) (w':World),zY w B av x.args->I64 x.block->Q w w'->jk w B x (.returned (.agg #[I x.block,av])) w':=fun x av w' g f d=>⟨av,rfl,g,f,d⟩
 have c:=Ja j;clear j
 by_cases c2:t.kind=2
 ·have l2:=f c2
  by_cases c0:a=0
  ·have e:wK t a=t.to.getD 1 ⟨0,[]⟩:=by unfold wK;rw[if_pos ⟨c2,c0⟩]
   rw[e];obtain⟨b,o,ab,ac,rfl,m,k1,k2,k3,k4⟩:=GET.out 1 Zo;generalize t.to.getD 1 ⟨0,[]⟩=x at *;have q1:(w.cell? ⟨b,o+2,none⟩)=_:=k1;have q2:(w.cell? ⟨b,o+2+1,none⟩)=_:=k2;have l:b<w.heap.size:=Zo;have K3:=Ja (Jb k3 k4);have hI:(1:Int)<t.to.length:=Zo;subst c0;rw[c2]
   try simp only[Nat.zero_mul,Uk] at q1 q2
   clear q g f d k1 k2 k3 k4 e;go_enter Try.func98,Try.ntmps98;go_wp2;refine bodyPost_ret (v:=.agg #[I x.block,.slice ab x.args.length ac]) (by simp[results,Try.results98,go_sem]) rfl ?_;exact c.out _ _ _ K3.out.1 K3.out.2 (by repeat' (first|exact Below.refl _ _|(refine Below.alloc ?_ (by simp<;>omega) _)|(refine Below.setCell ?_ Zs _)))
  ·have e:wK t a=t.to.getD 0 ⟨0,[]⟩:=by unfold wK;rw[if_neg (fun h=>c0 h.2),if_neg Zo]
   rw[e];obtain⟨b,o,ab,ac,rfl,m,k1,k2,k3,k4⟩:=GET.out 0 Zo;generalize t.to.getD 0 ⟨0,[]⟩=x at *;have q1:(w.cell? ⟨b,o+0*2,none⟩)=_:=k1;have q2:(w.cell? ⟨b,o+0*2+1,none⟩)=_:=k2;have l:b<w.heap.size:=Zo;have K3:=Ja (Jb k3 k4);have hI:(0:Int)<t.to.length:=Zo;have b2:((a:Int)==0)=false:=Ze;rw[c2]
   try simp only[Nat.zero_mul,Uk] at q1 q2
   clear q g f d k1 k2 k3 k4 e;go_enter Try.func98,Try.ntmps98;go_wp2;refine bodyPost_ret (v:=.agg #[I x.block,.slice ab x.args.length ac]) (by simp[results,Try.results98,go_sem]) rfl ?_;exact c.out _ _ _ K3.out.1 K3.out.2 (by repeat' (first|exact Below.refl _ _|(refine Below.alloc ?_ (by simp<;>omega) _)|(refine Below.setCell ?_ Zs _)))
 ·by_cases c3:t.kind=3
  ·have e:wK t a=t.to.getD (min a (t.to.length-1)) ⟨0,[]⟩:=by unfold wK;rw[if_neg (fun h=>c2 h.1),if_pos c3]
   have l3:=d c3;rw[e];obtain⟨i,hi⟩:∃i,min a (t.to.length-1)=i:=⟨_,rfl⟩
   rw[hi];have a0:i<t.to.length:=Zo;have u:(i:Int)=if(t.to.length:Int)-1<(a:Int) then(t.to.length:Int)-1 else(a:Int):=by split<;>omega
   have a6:∀(ts:Array TypeId) (t2:TypeId) (W:World),(Builtin.min_ ts t2 #[I a,I ((t.to.length:Int)-1)]).run Try.prog W=.ok (I i) W:=fun ts t2 W=>by rw[u];exact run_min_int2 ..
   have b0:0<=(t.to.length:Int)-1:=Zo;clear u;obtain⟨b,o,ab,ac,rfl,m,k1,k2,k3,k4⟩:=GET.out i a0;generalize t.to.getD i ⟨0,[]⟩=x at *;have q1:(w.cell? ⟨b,o+i*2,none⟩)=_:=k1;have q2:(w.cell? ⟨b,o+i*2+1,none⟩)=_:=k2;have l:b<w.heap.size:=Zo;have K3:=Ja (Jb k3 k4);have hI:(i:Int)<t.to.length:=Zo;rw[c3]
   try simp only[Nat.zero_mul,Uk] at q1 q2
   clear q g f d k1 k2 k3 k4 e;go_enter Try.func98,Try.ntmps98;go_wp2;refine bodyPost_ret (v:=.agg #[I x.block,.slice ab x.args.length ac]) (by simp[results,Try.results98,go_sem]) rfl ?_;exact c.out _ _ _ K3.out.1 K3.out.2 (by repeat' (first|exact Below.refl _ _|(refine Below.alloc ?_ (by simp<;>omega) _)|(refine Below.setCell ?_ Zs _)))
  ·have e:wK t a=t.to.getD 0 ⟨0,[]⟩:=by unfold wK;rw[if_neg (fun h=>c2 h.1),if_neg c3]
   have c1:t.kind=1:=Zo;have l1:=g c1;rw[e];obtain⟨b,o,ab,ac,rfl,m,k1,k2,k3,k4⟩:=GET.out 0 Zo;generalize t.to.getD 0 ⟨0,[]⟩=x at *;have q1:(w.cell? ⟨b,o+0*2,none⟩)=_:=k1;have q2:(w.cell? ⟨b,o+0*2+1,none⟩)=_:=k2;have l:b<w.heap.size:=Zo;have K3:=Ja (Jb k3 k4);have hI:(0:Int)<t.to.length:=Zo;rw[c1]
   try simp only[Nat.zero_mul,Uk] at q1 q2
   clear q g f d k1 k2 k3 k4 e;go_enter Try.func98,Try.ntmps98;go_wp2;refine bodyPost_ret (v:=.agg #[I x.block,.slice ab x.args.length ac]) (by simp[results,Try.results98,go_sem]) rfl ?_;exact c.out _ _ _ K3.out.1 K3.out.2 (by repeat' (first|exact Below.refl _ _|(refine Below.alloc ?_ (by simp<;>omega) _)|(refine Below.setCell ?_ Zs _)))
def Res.lt:Res Nat->Prop
 |.ok x _=>x<65536
 |.trap _ _ _=>True
def zQ (K:MK)(w:World)(r:Res Nat)(e:Ending)(w':World):Prop:=e=endOf r/\(∃ov',MachAt w' K r.mach ov')/\Frm K.B w w'/\r.lt
theorem zQ.ok{x:Nat}{c:Value}(h:MachAt w' K m' c)(f:Frm K.B w w')(d:x<65536):zQ K w (.ok x m') (.returned (M x)) w':=⟨rfl,⟨c,h⟩,f,d⟩
theorem zQ.trap{i:Nat}{c:Value}(h:MachAt w' K m' c)(d:Frm K.B w w'):zQ K w (.trap k i m') (.panicked [oE k i]) w':=⟨rfl,⟨c,h⟩,d,trivial⟩
theorem not16 (a:Nat)(h:a<65536):bits .xor .u16 IntKind.u16.max (a:Int)=((65535-a:Nat):Int):=by
 show IntKind.u16.wrap (((BitVec.ofInt 16 65535)^^^(BitVec.ofInt 16 (a:Int))).toNat:Int)=_
 have e1:BitVec.ofInt 16 65535=BitVec.allOnes 16:=by decide
 have e2:(BitVec.ofInt 16 (a:Int)).toNat=a:=by rw[BitVec.ofInt_natCast,BitVec.toNat_ofNat];exact Nat.mod_eq_of_lt h
 rw[e1,BitVec.xor_comm,BitVec.xor_allOnes,BitVec.toNat_not,e2,xY];omega
theorem or_low (x y:Nat)(d:x<256)(c:y<256):bits .or .u16 (IntKind.u16.wrap (x:Int)) (IntKind.u16.wrap (IntKind.u16.wrap (y:Int)*256))=((x+256*y:Nat):Int):=by
 have e1:IntKind.u16.wrap (x:Int)=(x:Int):=by rw[xY];omega
 have e2:IntKind.u16.wrap (IntKind.u16.wrap (y:Int)*256)=((y*256:Nat):Int):=by rw[xY,xY];omega
 rw[e1,e2,(bits_nat .u16 16 Zd wraps_u16 x (y*256) Zo Zo).2];have:=Nat.two_pow_add_eq_or_of_lt (i:=8) (b:=x) Zo y;rw[Nat.or_comm,show y*256=2^8*y by omega,<-this];omega
theorem step_1(h:MachAt w K m ov)(q:I64 oa)(l:I64 ob)(t:on<65536)(ab:Option Addr)(an ac:Nat){v:Int->Nat}(hv:xO w vb vn v)(d:Int):
 A 97 #[G K.pm,.agg #[I 1,I c,I oa,I ob,M on,.slice ab an ac],.map (some vb),I d] w (zQ K w (.ok on m)):=by
 have j:=fun(W:World) (hW:Frm K.B w W)=>(hv.kept hW).look q
 have i:=fun(W:World) (hW:Frm K.B w W)=>(hv.kept hW).look l
 have a1:=hv.2 oa;have a0:=hv.2 ob;have a2:=h.size;have k:=Ja (h.keep ((Below.refl _ _).alloc (Je _) (U #[I 1,I c,I oa,I ob,M on,.slice ab an ac] 27)));have g:=Ja ((Frm.refl K.B w).alloc Zo (U #[I 1,I c,I oa,I ob,M on,.slice ab an ac] 27));have la:=fun n:Nat=>j _ (g.out.drewN (n:=n))
 have lb:=fun n:Nat=>i _ (g.out.drewN (n:=n))
 have f:=zI (W:=w) (o:=U #[I 1,I c,I oa,I ob,M on,.slice ab an ac] 27) rfl;clear h hv j i;generalize v oa=xa at *;generalize v ob=xb at *;go_enter Try.func97,Try.ntmps97;go_upto_region 1 with fail;generalize u:w.alloc (U #[I 1,I c,I oa,I ob,M on,.slice ab an ac] 27)=W1 at *;clear u;have p0:=K0 f;have p2:=K2 f;have p3:=K3 f;have p4:=K4 f
 go_cut [9,10] (fun x y wx=>x=M xa/\y=M xb/\∃n,wx=W1.drewN n)
 case first=>
  go_quiet (fail);go_wp2;go_meet;exact⟨rfl,rfl,_,rfl⟩
 case rest=>
  obtain⟨rfl,rfl,n,rfl⟩:=hcut;have HM:=Ja (k.out.drewN n);have HF:=Ja (g.out.drewN (n:=n));have q0:(W1.drewN n).cell? ⟨w.heap.size,0,none⟩=_:=p0;have q2:(W1.drewN n).cell? ⟨w.heap.size,2,none⟩=_:=p2;have q4:(W1.drewN n).cell? ⟨w.heap.size,4,none⟩=_:=p4;clear la lb p0 p2 p3 p4 f k g;generalize W1.drewN n=W2 at *;go_wp2;go_ret;exact zQ.ok HM.out HF.out t
theorem step_3(h:MachAt w K m ov)(q:I64 oa)(l:I64 ob)(a2:on<65536)(ab:Option Addr)(an ac:Nat){v:Int->Nat}(hv:xO w vb vn v)(d:Int):
 A 97 #[G K.pm,.agg #[I 3,I c,I oa,I ob,M on,.slice ab an ac],.map (some vb),I d] w (zQ K w (.ok ((65536-v oa)%65536) m)):=by
 have j:=fun(W:World) (hW:Frm K.B w W)=>(hv.kept hW).look q
 have i:=fun(W:World) (hW:Frm K.B w W)=>(hv.kept hW).look l
 have a1:=hv.2 oa;have a0:=hv.2 ob;have a3:=h.size;have k:=Ja (h.keep ((Below.refl _ _).alloc (Je _) (U #[I 3,I c,I oa,I ob,M on,.slice ab an ac] 27)));have g:=Ja ((Frm.refl K.B w).alloc Zo (U #[I 3,I c,I oa,I ob,M on,.slice ab an ac] 27));have la:=fun n:Nat=>j _ (g.out.drewN (n:=n))
 have lb:=fun n:Nat=>i _ (g.out.drewN (n:=n))
 have f:=zI (W:=w) (o:=U #[I 3,I c,I oa,I ob,M on,.slice ab an ac] 27) rfl;clear h hv j i;generalize v oa=xa at *;generalize v ob=xb at *;go_enter Try.func97,Try.ntmps97;go_upto_region 1 with fail;generalize t:w.alloc (U #[I 3,I c,I oa,I ob,M on,.slice ab an ac] 27)=W1 at *;clear t;have p0:=K0 f;have p2:=K2 f;have p3:=K3 f;have p4:=K4 f
 go_cut [9,10] (fun x y wx=>x=M xa/\y=M xb/\∃n,wx=W1.drewN n)
 case first=>
  go_quiet (fail);go_wp2;go_meet;exact⟨rfl,rfl,_,rfl⟩
 case rest=>
  obtain⟨rfl,rfl,n,rfl⟩:=hcut;have u:=Ja (k.out.drewN n);have HF:=Ja (g.out.drewN (n:=n));have q0:(W1.drewN n).cell? ⟨w.heap.size,0,none⟩=_:=p0;have q2:(W1.drewN n).cell? ⟨w.heap.size,2,none⟩=_:=p2;have q4:(W1.drewN n).cell? ⟨w.heap.size,4,none⟩=_:=p4;clear la lb p0 p2 p3 p4 f k g;generalize W1.drewN n=W2 at *;go_wp2;go_ret;have e:Ending.returned (M (IntKind.u16.wrap (-(xa:Int))))=.returned (M (((65536-xa)%65536:Nat):Int)):=zh (by rw[xY];omega);exact e ▸ zQ.ok u.out HF.out Zo
theorem step_4(h:MachAt w K m ov)(t:I64 oa)(q:I64 ob)(a1:on<65536)(ab:Option Addr)(an ac:Nat){v:Int->Nat}(hv:xO w vb vn v)(d:Int):
 A 97 #[G K.pm,.agg #[I 4,I c,I oa,I ob,M on,.slice ab an ac],.map (some vb),I d] w (zQ K w (.ok (65535-v oa) m)):=by
 have j:=fun(W:World) (hW:Frm K.B w W)=>(hv.kept hW).look t
 have i:=fun(W:World) (hW:Frm K.B w W)=>(hv.kept hW).look q
 have l:=hv.2 oa;have a0:=hv.2 ob;have a2:=h.size;have k:=Ja (h.keep ((Below.refl _ _).alloc (Je _) (U #[I 4,I c,I oa,I ob,M on,.slice ab an ac] 27)));have g:=Ja ((Frm.refl K.B w).alloc Zo (U #[I 4,I c,I oa,I ob,M on,.slice ab an ac] 27));have la:=fun n:Nat=>j _ (g.out.drewN (n:=n))
 have lb:=fun n:Nat=>i _ (g.out.drewN (n:=n))
 have f:=zI (W:=w) (o:=U #[I 4,I c,I oa,I ob,M on,.slice ab an ac] 27) rfl;clear h hv j i;generalize v oa=xa at *;generalize v ob=xb at *;go_enter Try.func97,Try.ntmps97;go_upto_region 1 with fail;generalize u:w.alloc (U #[I 4,I c,I oa,I ob,M on,.slice ab an ac] 27)=W1 at *;clear u;have p0:=K0 f;have p2:=K2 f;have p3:=K3 f;have p4:=K4 f
 go_cut [9,10] (fun x y wx=>x=M xa/\y=M xb/\∃n,wx=W1.drewN n)
 case first=>
  go_quiet (fail);go_wp2;go_meet;exact⟨rfl,rfl,_,rfl⟩
 case rest=>
  obtain⟨rfl,rfl,n,rfl⟩:=hcut;have HM:=Ja (k.out.drewN n);have HF:=Ja (g.out.drewN (n:=n));have q0:(W1.drewN n).cell? ⟨w.heap.size,0,none⟩=_:=p0;have q2:(W1.drewN n).cell? ⟨w.heap.size,2,none⟩=_:=p2;have q4:(W1.drewN n).cell? ⟨w.heap.size,4,none⟩=_:=p4;clear la lb p0 p2 p3 p4 f k g;generalize W1.drewN n=W2 at *;go_wp2;go_ret;have e:Ending.returned (M (bits .xor .u16 IntKind.u16.max (xa:Int)))=.returned (M ((65535-xa:Nat):Int)):=zh (not16 xa l);exact e ▸ zQ.ok HM.out HF.out Zo
theorem step_18(h:MachAt w K m ov)(a5:I64 oa)(a4:I64 ob)(b1:on<65536)(ab:Option Addr)(an ac:Nat){v:Int->Nat}(hv:xO w vb vn v)(d:Int):
 A 97 #[G K.pm,.agg #[I 18,I c,I oa,I ob,M on,.slice ab an ac],.map (some vb),I d] w (zQ K w (pR m (v oa))):=by
 have u:=fun(W:World) (hW:Frm K.B w W)=>(hv.kept hW).look a5
 have t:=fun(W:World) (hW:Frm K.B w W)=>(hv.kept hW).look a4
 have l:=hv.2 oa;have b0:=hv.2 ob;have b2:=h.size;have a2:=Ja (h.keep ((Below.refl _ _).alloc (Je _) (U #[I 18,I c,I oa,I ob,M on,.slice ab an ac] 27)));have k:=Ja ((Frm.refl K.B w).alloc Zo (U #[I 18,I c,I oa,I ob,M on,.slice ab an ac] 27));have la:=fun n:Nat=>u _ (k.out.drewN (n:=n))
 have lb:=fun n:Nat=>t _ (k.out.drewN (n:=n))
 have f:=zI (W:=w) (o:=U #[I 18,I c,I oa,I ob,M on,.slice ab an ac] 27) rfl;clear h hv u t;generalize v oa=xa at *;generalize v ob=xb at *;go_enter Try.func97,Try.ntmps97;go_upto_region 1 with fail;generalize a6:w.alloc (U #[I 18,I c,I oa,I ob,M on,.slice ab an ac] 27)=W1 at *;clear a6;have p0:=K0 f;have p2:=K2 f;have p3:=K3 f;have p4:=K4 f
 go_cut [9,10] (fun x y wx=>x=M xa/\y=M xb/\∃n,wx=W1.drewN n)
 case first=>
  go_quiet (fail);go_wp2;go_meet;exact⟨rfl,rfl,_,rfl⟩
 case rest=>
  obtain⟨rfl,rfl,n,rfl⟩:=hcut;have i:=Ja (a2.out.drewN n);have HF:=Ja (k.out.drewN (n:=n));have q0:(W1.drewN n).cell? ⟨w.heap.size,0,none⟩=_:=p0;have q2:(W1.drewN n).cell? ⟨w.heap.size,2,none⟩=_:=p2;have q4:(W1.drewN n).cell? ⟨w.heap.size,4,none⟩=_:=p4;clear la lb p0 p2 p3 p4 f a2 k;generalize W1.drewN n=W2 at *;have q:x9 xa<65536:=Qj _ Zd;have a9:IntKind.u16.wrap ((xa:Int)+1)=((x9 xa:Nat):Int):=by rw[xY];unfold x9;omega
  by_cases g:wo xa=true
  ·by_cases j:wo (x9 xa)=true
   ·have EE:=Ja (show pR m xa=.ok (tC m xa+256*tC m (x9 xa)) m by unfold pR;rw[if_pos g,if_pos j]);obtain⟨r1,r2,_⟩:=i.out.ramCell g;obtain⟨r3,r4,_⟩:=i.out.ramCell j;have C1:=Ja g;have C2:=Ja j;have R2:=Ja (Jb r2 r4);have t1:True:=trivial;clear g j r2 r4;go_wp2_with (first|(go_at_call 101;have a3:=t1;clear t1;go_must (refine(vX i.out xa l C1.out).mono ?_;rintro e w' ⟨rfl,rfl⟩))|(go_at_call 101;go_must (refine(vX i.out (x9 xa) q C2.out).mono ?_;rintro e w' ⟨rfl,rfl⟩)))
    go_ret;rw[EE.out];have e:Ending.returned (M (bits .or .u16 (IntKind.u16.wrap (tC m xa:Int)) (IntKind.u16.wrap (IntKind.u16.wrap (tC m (x9 xa):Int)*256))))=.returned (M ((tC m xa+256*tC m (x9 xa):Nat):Int)):=zh (or_low _ _ R2.out.1 R2.out.2);exact e ▸ zQ.ok i.out HF.out (by have:=R2.out;omega)
   ·have a0:wo (x9 xa)=false:=by simpa using j
    have EE:=Ja (show pR m xa=.trap 2 (x9 xa) m by unfold pR;rw[if_pos g,if_neg j]);obtain⟨r1,r2,_⟩:=i.out.ramCell g;have C1:=Ja g;have C2:=Ja a0;have t1:True:=trivial;clear g j a0 r2;go_wp2_with (first|(go_at_call 101;have a3:=t1;clear t1;go_must (refine(vX i.out xa l C1.out).mono ?_;rintro e w' ⟨rfl,rfl⟩))|(go_at_call 101;go_must (refine(sX i.out (x9 xa) q C2.out).mono ?_;rintro e w' ⟨rfl,rfl⟩)))
    exact⟨rfl,by rw[EE.out];exact zQ.trap i.out HF.out⟩
  ·have a1:wo xa=false:=by simpa using g
   have EE:=Ja (show pR m xa=.trap 2 xa m by unfold pR;rw[if_neg g]);have C1:=Ja a1;clear g a1;go_wp2_with (go_at_call 101;go_must (refine(sX i.out xa l C1.out).mono ?_;rintro e w' ⟨rfl,rfl⟩))
   exact⟨rfl,by rw[EE.out];exact zQ.trap i.out HF.out⟩
theorem step_19(h:MachAt w K m ov)(a1:I64 oa)(a0:I64 ob)(a4:on<65536)(ab:Option Addr)(an ac:Nat){v:Int->Nat}(hv:xO w vb vn v)(d:Int):
 A 97 #[G K.pm,.agg #[I 19,I c,I oa,I ob,M on,.slice ab an ac],.map (some vb),I d] w (zQ K w (abh m (v oa))):=by
 have q:=fun(W:World) (hW:Frm K.B w W)=>(hv.kept hW).look a1
 have l:=fun(W:World) (hW:Frm K.B w W)=>(hv.kept hW).look a0
 have k:=hv.2 oa;have a3:=hv.2 ob;have a5:=h.size;have u:=Ja (h.keep ((Below.refl _ _).alloc (Je _) (U #[I 19,I c,I oa,I ob,M on,.slice ab an ac] 27)));have i:=Ja ((Frm.refl K.B w).alloc Zo (U #[I 19,I c,I oa,I ob,M on,.slice ab an ac] 27));have la:=fun n:Nat=>q _ (i.out.drewN (n:=n))
 have lb:=fun n:Nat=>l _ (i.out.drewN (n:=n))
 have f:=zI (W:=w) (o:=U #[I 19,I c,I oa,I ob,M on,.slice ab an ac] 27) rfl;clear h hv q l;generalize v oa=xa at *;generalize v ob=xb at *;go_enter Try.func97,Try.ntmps97;go_upto_region 1 with fail;generalize a2:w.alloc (U #[I 19,I c,I oa,I ob,M on,.slice ab an ac] 27)=W1 at *;clear a2;have p0:=K0 f;have p2:=K2 f;have p3:=K3 f;have p4:=K4 f
 go_cut [9,10] (fun x y wx=>x=M xa/\y=M xb/\∃n,wx=W1.drewN n)
 case first=>
  go_quiet (fail);go_wp2;go_meet;exact⟨rfl,rfl,_,rfl⟩
 case rest=>
  obtain⟨rfl,rfl,n,rfl⟩:=hcut;have j:=Ja (u.out.drewN n);have HF:=Ja (i.out.drewN (n:=n));have q0:(W1.drewN n).cell? ⟨w.heap.size,0,none⟩=_:=p0;have q2:(W1.drewN n).cell? ⟨w.heap.size,2,none⟩=_:=p2;have q4:(W1.drewN n).cell? ⟨w.heap.size,4,none⟩=_:=p4;clear la lb p0 p2 p3 p4 f u i;generalize W1.drewN n=W2 at *
  by_cases g:wo xa=true
  ·have EE:=Ja (show abh m xa=.ok (tC m xa) m by unfold abh;rw[if_pos g]);obtain⟨r1,r2,_⟩:=j.out.ramCell g;have C1:=Ja g;have R2:=Ja r2;clear g r2;go_wp2_with (go_at_call 101;go_must (refine(vX j.out xa k C1.out).mono ?_;rintro e w' ⟨rfl,rfl⟩))
   go_ret;rw[EE.out];have e:Ending.returned (M (IntKind.u16.wrap (tC m xa:Int)))=.returned (M ((tC m xa:Nat):Int)):=zh (by rw[xY];have:=R2.out;omega);exact e ▸ zQ.ok j.out HF.out (by have:=R2.out;omega)
  ·have t:wo xa=false:=by simpa using g
   have EE:=Ja (show abh m xa=.trap 2 xa m by unfold abh;rw[if_neg g]);have C1:=Ja t;clear g t;go_wp2_with (go_at_call 101;go_must (refine(sX j.out xa k C1.out).mono ?_;rintro e w' ⟨rfl,rfl⟩))
   exact⟨rfl,by rw[EE.out];exact zQ.trap j.out HF.out⟩
theorem step_20(h:MachAt w K m ov)(b0:I64 oa)(a9:I64 ob)(b4:on<65536)(ab:Option Addr)(an ac:Nat){v:Int->Nat}(hv:xO w vb vn v)(d:Int):
 A 97 #[G K.pm,.agg #[I 20,I c,I oa,I ob,M on,.slice ab an ac],.map (some vb),I d] w (zQ K w (sK m (v oa) (v ob))):=by
 have a1:=fun(W:World) (hW:Frm K.B w W)=>(hv.kept hW).look b0
 have a0:=fun(W:World) (hW:Frm K.B w W)=>(hv.kept hW).look a9
 have t:=hv.2 oa;have b3:=hv.2 ob;have b5:=h.size;have a4:=Ja (h.keep ((Below.refl _ _).alloc (Je _) (U #[I 20,I c,I oa,I ob,M on,.slice ab an ac] 27)));have q:=Ja ((Frm.refl K.B w).alloc Zo (U #[I 20,I c,I oa,I ob,M on,.slice ab an ac] 27));have la:=fun n:Nat=>a1 _ (q.out.drewN (n:=n))
 have lb:=fun n:Nat=>a0 _ (q.out.drewN (n:=n))
 have f:=zI (W:=w) (o:=U #[I 20,I c,I oa,I ob,M on,.slice ab an ac] 27) rfl;clear h hv a1 a0;generalize v oa=xa at *;generalize v ob=xb at *;go_enter Try.func97,Try.ntmps97;go_upto_region 1 with fail;generalize b1:w.alloc (U #[I 20,I c,I oa,I ob,M on,.slice ab an ac] 27)=W1 at *;clear b1;have p0:=K0 f;have p2:=K2 f;have p3:=K3 f;have p4:=K4 f
 go_cut [9,10] (fun x y wx=>x=M xa/\y=M xb/\∃n,wx=W1.drewN n)
 case first=>
  go_quiet (fail);go_wp2;go_meet;exact⟨rfl,rfl,_,rfl⟩
 case rest=>
  obtain⟨rfl,rfl,n,rfl⟩:=hcut;have i:=Ja (a4.out.drewN n);have HF:=Ja (q.out.drewN (n:=n));have q0:(W1.drewN n).cell? ⟨w.heap.size,0,none⟩=_:=p0;have q2:(W1.drewN n).cell? ⟨w.heap.size,2,none⟩=_:=p2;have q4:(W1.drewN n).cell? ⟨w.heap.size,4,none⟩=_:=p4;clear la lb p0 p2 p3 p4 f a4 q;generalize W1.drewN n=W2 at *;have u:x9 xa<65536:=Qj _ Zd;have b2:IntKind.u16.wrap ((xa:Int)+1)=((x9 xa:Nat):Int):=by rw[xY];unfold x9;omega
  by_cases g:wo xa=true
  ·by_cases l:wo (x9 xa)=true
   ·have EE:=Ja (show sK m xa xb=.ok 0 ((m.put xa (xb%256)).put (x9 xa) (xb/256)) by unfold sK;rw[if_pos g,if_pos l]);obtain⟨r0,_,r1⟩:=i.out.ramCell g;have k:=i.out.setR xa (xb%256) Zo;have j:=k.1.setR (x9 xa) (xb/256) Zo;obtain⟨r2,_,r3⟩:=k.1.ramCell l;rw[show((xb%256:Nat):Int)=(xb:Int)%256 by omega] at r2 r3 k j;rw[show((xb/256:Nat):Int)=(xb:Int)/256 by omega] at j;have C1:=Ja g;have C2:=Ja l;have a5:=Ja (Jb j.1 ((HF.out.trans k.2).trans j.2));have t1:True:=trivial;clear g l k j;go_wp2_with (first|(go_at_call 101;have a6:=t1;clear t1;go_must (refine(vX i.out xa t C1.out).mono ?_;rintro e w' ⟨rfl,rfl⟩))|(go_at_call 101;go_must (refine(vX i.out (x9 xa) u C2.out).mono ?_;rintro e w' ⟨rfl,rfl⟩)))
    go_ret;rw[EE.out];exact zQ.ok (x:=0) a5.out.1 a5.out.2 Zd
   ·have a2:wo (x9 xa)=false:=by simpa using l
    have EE:=Ja (show sK m xa xb=.trap 2 (x9 xa) m by unfold sK;rw[if_pos g,if_neg l]);obtain⟨r1,r2,_⟩:=i.out.ramCell g;have C1:=Ja g;have C2:=Ja a2;have t1:True:=trivial;clear g l a2 r2;go_wp2_with (first|(go_at_call 101;have a6:=t1;clear t1;go_must (refine(vX i.out xa t C1.out).mono ?_;rintro e w' ⟨rfl,rfl⟩))|(go_at_call 101;go_must (refine(sX i.out (x9 xa) u C2.out).mono ?_;rintro e w' ⟨rfl,rfl⟩)))
    exact⟨rfl,by rw[EE.out];exact zQ.trap i.out HF.out⟩
  ·have a3:wo xa=false:=by simpa using g
   have EE:=Ja (show sK m xa xb=.trap 2 xa m by unfold sK;rw[if_neg g]);have C1:=Ja a3;clear g a3;go_wp2_with (go_at_call 101;go_must (refine(sX i.out xa t C1.out).mono ?_;rintro e w' ⟨rfl,rfl⟩))
   exact⟨rfl,by rw[EE.out];exact zQ.trap i.out HF.out⟩
theorem step_21(h:MachAt w K m ov)(a3:I64 oa)(a2:I64 ob)(a6:on<65536)(ab:Option Addr)(an ac:Nat){v:Int->Nat}(hv:xO w vb vn v)(d:Int):
 A 97 #[G K.pm,.agg #[I 21,I c,I oa,I ob,M on,.slice ab an ac],.map (some vb),I d] w (zQ K w (td m (v oa) (v ob))):=by
 have t:=fun(W:World) (hW:Frm K.B w W)=>(hv.kept hW).look a3
 have q:=fun(W:World) (hW:Frm K.B w W)=>(hv.kept hW).look a2
 have l:=hv.2 oa;have a5:=hv.2 ob;have a9:=h.size;have a0:=Ja (h.keep ((Below.refl _ _).alloc (Je _) (U #[I 21,I c,I oa,I ob,M on,.slice ab an ac] 27)));have j:=Ja ((Frm.refl K.B w).alloc Zo (U #[I 21,I c,I oa,I ob,M on,.slice ab an ac] 27));have la:=fun n:Nat=>t _ (j.out.drewN (n:=n))
 have lb:=fun n:Nat=>q _ (j.out.drewN (n:=n))
 have f:=zI (W:=w) (o:=U #[I 21,I c,I oa,I ob,M on,.slice ab an ac] 27) rfl;clear h hv t q;generalize v oa=xa at *;generalize v ob=xb at *;go_enter Try.func97,Try.ntmps97;go_upto_region 1 with fail;generalize a4:w.alloc (U #[I 21,I c,I oa,I ob,M on,.slice ab an ac] 27)=W1 at *;clear a4;have p0:=K0 f;have p2:=K2 f;have p3:=K3 f;have p4:=K4 f
 go_cut [9,10] (fun x y wx=>x=M xa/\y=M xb/\∃n,wx=W1.drewN n)
 case first=>
  go_quiet (fail);go_wp2;go_meet;exact⟨rfl,rfl,_,rfl⟩
 case rest=>
  obtain⟨rfl,rfl,n,rfl⟩:=hcut;have k:=Ja (a0.out.drewN n);have HF:=Ja (j.out.drewN (n:=n));have q0:(W1.drewN n).cell? ⟨w.heap.size,0,none⟩=_:=p0;have q2:(W1.drewN n).cell? ⟨w.heap.size,2,none⟩=_:=p2;have q4:(W1.drewN n).cell? ⟨w.heap.size,4,none⟩=_:=p4;clear la lb p0 p2 p3 p4 f a0 j;generalize W1.drewN n=W2 at *
  by_cases g:wo xa=true
  ·have EE:=Ja (show td m xa xb=.ok 0 (m.put xa (xb%256)) by unfold td;rw[if_pos g]);obtain⟨r0,_,r1⟩:=k.out.ramCell g;have i:=k.out.setR xa (xb%256) Zo;rw[show((xb%256:Nat):Int)=(xb:Int)%256 by omega] at i;have C1:=Ja g;have a1:=Ja (Jb i.1 (HF.out.trans i.2));clear g i;go_wp2_with (go_at_call 101;go_must (refine(vX k.out xa l C1.out).mono ?_;rintro e w' ⟨rfl,rfl⟩))
   go_ret;rw[EE.out];exact zQ.ok (x:=0) a1.out.1 a1.out.2 Zd
  ·have u:wo xa=false:=by simpa using g
   have EE:=Ja (show td m xa xb=.trap 2 xa m by unfold td;rw[if_neg g]);have C1:=Ja u;clear g u;go_wp2_with (go_at_call 101;go_must (refine(sX k.out xa l C1.out).mono ?_;rintro e w' ⟨rfl,rfl⟩))
   exact⟨rfl,by rw[EE.out];exact zQ.trap k.out HF.out⟩
theorem Try.info_event:(Try.prog.info? 173).map (fun i=>(i.zero,i.size,i.bytes))=some (some (.agg #[M 0,M 0]),2,4):=by kernel_rfl
theorem p9 (E:IEnv)(b a:Nat):tS E b a<256:=by unfold tS;exact UInt8.toNat_lt _
theorem or_rom (x y:Nat)(d:x<256)(c:y<256):bits .or .u16 (x:Int) (IntKind.u16.wrap ((y:Int)*256))=((x+256*y:Nat):Int):=by
 have:=or_low x y d c;have e1:IntKind.u16.wrap (x:Int)=(x:Int):=by rw[xY];omega
 have e2:IntKind.u16.wrap (y:Int)=(y:Int):=by rw[xY];omega
 rw[e1,e2] at this;exact this
theorem xN{row:Option Nat}(h:w.drew.grownBy w' row):w.grownBy w' row:=⟨h.os,h.tape,h.output,h.size,h.block⟩
theorem ke (E:IEnv)(m:Mach)(c:∀x∈E.inn,x<65536):∃x m',uq E m=.ok x m'/\x<65536:=by
 unfold uq
 by_cases h:m.inputs<E.inn.length
 ·rw[if_pos h];exact⟨_,_,rfl,by rw[Jj,Jd h];exact c _ (Uf h)⟩
 ·rw[if_neg h];exact⟨_,_,rfl,by decide⟩
theorem step_2(h:MachAt w K m ov)(a1:I64 oa)(a0:I64 ob)(a6:on<65536)(ab:Option Addr)(an ac:Nat){v:Int->Nat}(hv:xO w vb vn v)(d:Int)(hk:0<=oa/\oa.toNat<K.E.p.data.length):
 A 97 #[G K.pm,.agg #[I 2,I c,I oa,I ob,M on,.slice ab an ac],.map (some vb),I d] w (zQ K w (.ok (((K.E.p.data.getD oa.toNat ⟨0,0,0⟩).addr+on)%65536) m)):=by
 have q:=fun(W:World) (hW:Frm K.B w W)=>(hv.kept hW).look a1
 have l:=fun(W:World) (hW:Frm K.B w W)=>(hv.kept hW).look a0
 have a5:=hv.2 oa;have a4:=hv.2 ob;have b1:=h.size;have u:=Ja (h.keep ((Below.refl _ _).alloc (Je _) (U #[I 2,I c,I oa,I ob,M on,.slice ab an ac] 27)));have i:=Ja ((Frm.refl K.B w).alloc Zo (U #[I 2,I c,I oa,I ob,M on,.slice ab an ac] 27));have la:=fun n:Nat=>q _ (i.out.drewN (n:=n))
 have lb:=fun n:Nat=>l _ (i.out.drewN (n:=n))
 have f:=zI (W:=w) (o:=U #[I 2,I c,I oa,I ob,M on,.slice ab an ac] 27) rfl;clear h hv q l;generalize v oa=xa at *;generalize v ob=xb at *;go_enter Try.func97,Try.ntmps97;go_upto_region 1 with fail;generalize a2:w.alloc (U #[I 2,I c,I oa,I ob,M on,.slice ab an ac] 27)=W1 at *;clear a2;have p0:=K0 f;have p2:=K2 f;have p3:=K3 f;have p4:=K4 f
 go_cut [9,10] (fun x y wx=>x=M xa/\y=M xb/\∃n,wx=W1.drewN n)
 case first=>
  go_quiet (fail);go_wp2;go_meet;exact⟨rfl,rfl,_,rfl⟩
 case rest=>
  obtain⟨rfl,rfl,n,rfl⟩:=hcut;have HM:=Ja (u.out.drewN n);have HF:=Ja (i.out.drewN (n:=n));have q0:(W1.drewN n).cell? ⟨w.heap.size,0,none⟩=_:=p0;have q2:(W1.drewN n).cell? ⟨w.heap.size,2,none⟩=_:=p2;have q4:(W1.drewN n).cell? ⟨w.heap.size,4,none⟩=_:=p4;clear la lb p0 p2 p3 p4 f u i;generalize W1.drewN n=W2 at *;obtain⟨k,rfl⟩:∃k:Nat,oa=(k:Int):=⟨oa.toNat,by omega⟩
  have t:k<K.E.p.data.length:=Zo;have a9:(k:Int)<K.E.p.data.length:=Zo;have g:=HM.out.prog.data;obtain⟨da,dc,j,_,_⟩:=g.form;rw[j] at g;obtain⟨x,hx⟩:∃x,K.E.p.data[k]? =some x:=⟨_,Jd t⟩
  obtain⟨b,oo,rfl,_,_,b0,_,_,a3,_⟩:=g.get hx;have c4:=HM.out.c4;rw[j] at c4;have EE:=Ja (show(K.E.p.data.getD ((k:Nat):Int).toNat ⟨0,0,0⟩).addr=x.addr by rw[Ni,Jj,hx];rfl);clear hk t g j hx;go_upto_region 7 with fail;go_quiet (fail);go_wp2;go_ret;rw[EE.out];have e:Ending.returned (M (IntKind.u16.wrap ((x.addr:Int)+(on:Int))))=.returned (M (((x.addr+on)%65536:Nat):Int)):=zh (by rw[xY];omega);exact e ▸ zQ.ok (HM.out.drewN _) HF.out.drewN Zo
theorem step_22(h:MachAt w K m ov)(a9:I64 oa)(a6:I64 ob)(i:on<65536)(ab:Option Addr)(an ac:Nat){v:Int->Nat}(hv:xO w vb vn v)(d:Int)(t:Hid (∀s∈K.E.p.banks,s.size=4096)):
 A 97 #[.pointer (some ⟨K.pm,0,none⟩),.agg #[I 22,I c,I oa,I ob,M on,.slice ab an ac],.map (some vb),I d] w (zQ K w (im K.E m on (v oa))):=by
 have a1:=fun(W:World) (hW:Frm K.B w W)=>(hv.kept hW).look a9
 have a0:=fun(W:World) (hW:Frm K.B w W)=>(hv.kept hW).look a6
 have q:=hv.2 oa;have b2:=hv.2 ob;have b3:=h.size;have a4:=Ja (h.keep ((Below.refl _ _).alloc (Je _) (U #[I 22,I c,I oa,I ob,M on,.slice ab an ac] 27)));have k:=Ja ((Frm.refl K.B w).alloc Zo (U #[I 22,I c,I oa,I ob,M on,.slice ab an ac] 27));have la:=fun n:Nat=>a1 _ (k.out.drewN (n:=n))
 have lb:=fun n:Nat=>a0 _ (k.out.drewN (n:=n))
 have f:=zI (W:=w) (o:=U #[I 22,I c,I oa,I ob,M on,.slice ab an ac] 27) rfl;clear h hv a1 a0;generalize v oa=xa at *;generalize v ob=xb at *;go_enter Try.func97,Try.ntmps97;go_upto_region 1 with fail;generalize b0:w.alloc (U #[I 22,I c,I oa,I ob,M on,.slice ab an ac] 27)=W1 at *;clear b0;have p0:=K0 f;have p2:=K2 f;have p3:=K3 f;have p4:=K4 f
 go_cut [9,10] (fun x y wx=>x=M xa/\y=M xb/\∃n,wx=W1.drewN n)
 case first=>
  go_quiet (fail);go_wp2;go_meet;exact⟨rfl,rfl,_,rfl⟩
 case rest=>
  obtain⟨rfl,rfl,n,rfl⟩:=hcut;have j:=Ja (a4.out.drewN n);have HF:=Ja (k.out.drewN (n:=n));have q0:(W1.drewN n).cell? ⟨w.heap.size,0,none⟩=_:=p0;have q2:(W1.drewN n).cell? ⟨w.heap.size,2,none⟩=_:=p2;have q4:(W1.drewN n).cell? ⟨w.heap.size,4,none⟩=_:=p4;clear la lb p0 p2 p3 p4 f a4 k;generalize W1.drewN n=W2 at *;have u:x9 xa<65536:=Qj _ Zd;have b1:IntKind.u16.wrap ((xa:Int)+1)=((x9 xa:Nat):Int):=by rw[xY];unfold x9;omega
  by_cases g:sJ K.E on xa=true
  ·by_cases l:sJ K.E on (x9 xa)=true
   ·have EE:=Ja (show im K.E m on xa=.ok (tS K.E on xa+256*tS K.E on (x9 xa)) m by unfold im;rw[if_pos g,if_pos l]);have C1:=Ja g;have C2:=Ja l;have t1:True:=trivial;have g1:=p9 K.E on xa;have g2:=p9 K.E on (x9 xa);have G:=Ja (Jb g1 g2);clear g l g1 g2;go_wp2_with (first|(go_at_call 102;have a5:=t1;clear t1;go_must (refine(p8 j.out t.out on xa i q C1.out).mono ?_;rintro e w' ⟨rfl,rfl⟩))|(go_at_call 102;go_must (refine(p8 j.out t.out on (x9 xa) i u C2.out).mono ?_;rintro e w' ⟨rfl,rfl⟩)))
    go_ret;rw[EE.out];have e:Ending.returned (M (bits .or .u16 (tS K.E on xa:Int) (IntKind.u16.wrap ((tS K.E on (x9 xa):Int)*256))))=.returned (M ((tS K.E on xa+256*tS K.E on (x9 xa):Nat):Int)):=zh (or_rom _ _ G.out.1 G.out.2);exact e ▸ zQ.ok j.out HF.out (by have:=G.out;omega)
   ·have a2:sJ K.E on (x9 xa)=false:=by simpa using l
    have EE:=Ja (show im K.E m on xa=.trap 2 (x9 xa) m by unfold im;rw[if_pos g,if_neg l]);have C1:=Ja g;have C2:=Ja a2;have t1:True:=trivial;clear g l a2;go_wp2_with (first|(go_at_call 102;have a5:=t1;clear t1;go_must (refine(p8 j.out t.out on xa i q C1.out).mono ?_;rintro e w' ⟨rfl,rfl⟩))|(go_at_call 102;go_must (refine(kh j.out on (x9 xa) i u C2.out).mono ?_;rintro e w' ⟨rfl,rfl⟩)))
    exact⟨rfl,by rw[EE.out];exact zQ.trap j.out HF.out⟩
  ·have a3:sJ K.E on xa=false:=by simpa using g
   have EE:=Ja (show im K.E m on xa=.trap 2 xa m by unfold im;rw[if_neg g]);have C1:=Ja a3;clear g a3;go_wp2_with (go_at_call 102;go_must (refine(kh j.out on xa i q C1.out).mono ?_;rintro e w' ⟨rfl,rfl⟩))
   exact⟨rfl,by rw[EE.out];exact zQ.trap j.out HF.out⟩
theorem step_23(h:MachAt w K m ov)(a2:I64 oa)(a1:I64 ob)(l:on<65536)(ab:Option Addr)(an ac:Nat){v:Int->Nat}(hv:xO w vb vn v)(d:Int)(a3:Hid (∀s∈K.E.p.banks,s.size=4096)):
 A 97 #[G K.pm,.agg #[I 23,I c,I oa,I ob,M on,.slice ab an ac],.map (some vb),I d] w (zQ K w (nX K.E m on (v oa))):=by
 have t:=fun(W:World) (hW:Frm K.B w W)=>(hv.kept hW).look a2
 have q:=fun(W:World) (hW:Frm K.B w W)=>(hv.kept hW).look a1
 have k:=hv.2 oa;have a5:=hv.2 ob;have a6:=h.size;have a0:=Ja (h.keep ((Below.refl _ _).alloc (Je _) (U #[I 23,I c,I oa,I ob,M on,.slice ab an ac] 27)));have g:=Ja ((Frm.refl K.B w).alloc Zo (U #[I 23,I c,I oa,I ob,M on,.slice ab an ac] 27));have la:=fun n:Nat=>t _ (g.out.drewN (n:=n))
 have lb:=fun n:Nat=>q _ (g.out.drewN (n:=n))
 have f:=zI (W:=w) (o:=U #[I 23,I c,I oa,I ob,M on,.slice ab an ac] 27) rfl;clear h hv t q;generalize v oa=xa at *;generalize v ob=xb at *;go_enter Try.func97,Try.ntmps97;go_upto_region 1 with fail;generalize a4:w.alloc (U #[I 23,I c,I oa,I ob,M on,.slice ab an ac] 27)=W1 at *;clear a4;have p0:=K0 f;have p2:=K2 f;have p3:=K3 f;have p4:=K4 f
 go_cut [9,10] (fun x y wx=>x=M xa/\y=M xb/\∃n,wx=W1.drewN n)
 case first=>
  go_quiet (fail);go_wp2;go_meet;exact⟨rfl,rfl,_,rfl⟩
 case rest=>
  obtain⟨rfl,rfl,n,rfl⟩:=hcut;have j:=Ja (a0.out.drewN n);have HF:=Ja (g.out.drewN (n:=n));have q0:(W1.drewN n).cell? ⟨w.heap.size,0,none⟩=_:=p0;have q2:(W1.drewN n).cell? ⟨w.heap.size,2,none⟩=_:=p2;have q4:(W1.drewN n).cell? ⟨w.heap.size,4,none⟩=_:=p4;clear la lb p0 p2 p3 p4 f a0 g;generalize W1.drewN n=W2 at *
  by_cases i:sJ K.E on xa=true
  ·have EE:=Ja (show nX K.E m on xa=.ok (tS K.E on xa) m by unfold nX;rw[if_pos i]);have C1:=Ja i;clear i;go_wp2_with (go_at_call 102;go_must (refine(p8 j.out a3.out on xa l k C1.out).mono ?_;rintro e w' ⟨rfl,rfl⟩))
   go_ret;rw[EE.out];exact zQ.ok j.out HF.out (by have:=p9 K.E on xa;omega)
  ·have u:sJ K.E on xa=false:=by simpa using i
   have EE:=Ja (show nX K.E m on xa=.trap 2 xa m by unfold nX;rw[if_neg i]);have C1:=Ja u;clear i u;go_wp2_with (go_at_call 102;go_must (refine(kh j.out on xa l k C1.out).mono ?_;rintro e w' ⟨rfl,rfl⟩))
   exact⟨rfl,by rw[EE.out];exact zQ.trap j.out HF.out⟩
theorem step_24(h:MachAt w K m ov)(a0:I64 oa)(u:I64 ob)(a9:on<65536)(ab:Option Addr)(an ac:Nat){v:Int->Nat}(hv:xO w vb vn v)(d:Int)(a2:Hid (∀x∈K.E.inn,x<65536)):
 A 97 #[G K.pm,.agg #[I 24,I c,I oa,I ob,M on,.slice ab an ac],.map (some vb),I d] w (zQ K w (uq K.E m)):=by
 have k:=fun(W:World) (hW:Frm K.B w W)=>(hv.kept hW).look a0
 have j:=fun(W:World) (hW:Frm K.B w W)=>(hv.kept hW).look u
 have a6:=hv.2 oa;have a5:=hv.2 ob;have b0:=h.size;have l:=Ja (h.keep ((Below.refl _ _).alloc (Je _) (U #[I 24,I c,I oa,I ob,M on,.slice ab an ac] 27)));have i:=Ja ((Frm.refl K.B w).alloc Zo (U #[I 24,I c,I oa,I ob,M on,.slice ab an ac] 27));have la:=fun n:Nat=>k _ (i.out.drewN (n:=n))
 have lb:=fun n:Nat=>j _ (i.out.drewN (n:=n))
 have f:=zI (W:=w) (o:=U #[I 24,I c,I oa,I ob,M on,.slice ab an ac] 27) rfl;clear h hv k j;generalize v oa=xa at *;generalize v ob=xb at *;go_enter Try.func97,Try.ntmps97;go_upto_region 1 with fail;generalize a4:w.alloc (U #[I 24,I c,I oa,I ob,M on,.slice ab an ac] 27)=W1 at *;clear a4;have p0:=K0 f;have p2:=K2 f;have p3:=K3 f;have p4:=K4 f
 go_cut [9,10] (fun x y wx=>x=M xa/\y=M xb/\∃n,wx=W1.drewN n)
 case first=>
  go_quiet (fail);go_wp2;go_meet;exact⟨rfl,rfl,_,rfl⟩
 case rest=>
  obtain⟨rfl,rfl,n,rfl⟩:=hcut;have HM:=Ja (l.out.drewN n);have HF:=Ja (i.out.drewN (n:=n));have q0:(W1.drewN n).cell? ⟨w.heap.size,0,none⟩=_:=p0;have q2:(W1.drewN n).cell? ⟨w.heap.size,2,none⟩=_:=p2;have q4:(W1.drewN n).cell? ⟨w.heap.size,4,none⟩=_:=p4;clear la lb p0 p2 p3 p4 f l i;generalize W1.drewN n=W2 at *;obtain⟨x,m',q,t⟩:=ke K.E m a2.out;have g:A 103 #[G K.pm] W2 fun e w'=>e=.returned (M x)/\MachAt w' K m' ov/\Frm K.B W2 w':=by have:=jA HM.out;rw[q] at this;exact this
  have EE:=Ja q;have HC:=Ja g;clear q g;go_wp2_with (go_at_call 103;go_must (refine HC.out.mono ?_;rintro e w' ⟨rfl,a1,a3⟩))
  go_ret;rw[EE.out];exact zQ.ok a1 (HF.out.trans a3) t
theorem step_25(h:MachAt w K m ov)(b2:I64 oa)(b1:I64 ob)(b3:on<65536)(ab:Option Addr)(an ac:Nat){v:Int->Nat}(hv:xO w vb vn v)(d:Int)(b4:m.out.length+1+m.fuel.toNat<=4000000):
 A 97 #[G K.pm,.agg #[I 25,I c,I oa,I ob,M on,.slice ab an ac],.map (some vb),I d] w (zQ K w (adS m on (v oa))):=by
 have a0:=fun(W:World) (hW:Frm K.B w W)=>(hv.kept hW).look b2
 have u:=fun(W:World) (hW:Frm K.B w W)=>(hv.kept hW).look b1
 have b0:=hv.2 oa;have c0:=hv.2 ob;have c2:=h.size;have a1:=Ja (h.keep ((Below.refl _ _).alloc (Je _) (U #[I 25,I c,I oa,I ob,M on,.slice ab an ac] 27)));have k:=Ja ((Frm.refl K.B w).alloc Zo (U #[I 25,I c,I oa,I ob,M on,.slice ab an ac] 27));have la:=fun n:Nat=>a0 _ (k.out.drewN (n:=n))
 have lb:=fun n:Nat=>u _ (k.out.drewN (n:=n))
 have f:=zI (W:=w) (o:=U #[I 25,I c,I oa,I ob,M on,.slice ab an ac] 27) rfl;clear h hv a0 u;generalize v oa=xa at *;generalize v ob=xb at *;go_enter Try.func97,Try.ntmps97;go_upto_region 1 with fail;generalize b6:w.alloc (U #[I 25,I c,I oa,I ob,M on,.slice ab an ac] 27)=W1 at *;clear b6;have p0:=K0 f;have p2:=K2 f;have p3:=K3 f;have p4:=K4 f
 go_cut [9,10] (fun x y wx=>x=M xa/\y=M xb/\∃n,wx=W1.drewN n)
 case first=>
  go_quiet (fail);go_wp2;go_meet;exact⟨rfl,rfl,_,rfl⟩
 case rest=>
  obtain⟨rfl,rfl,n,rfl⟩:=hcut;have j:=Ja (a1.out.drewN n);have HF:=Ja (k.out.drewN (n:=n));have q0:(W1.drewN n).cell? ⟨w.heap.size,0,none⟩=_:=p0;have q2:(W1.drewN n).cell? ⟨w.heap.size,2,none⟩=_:=p2;have q4:(W1.drewN n).cell? ⟨w.heap.size,4,none⟩=_:=p4;clear la lb p0 p2 p3 p4 f a1 k;generalize W1.drewN n=W2 at *;obtain⟨ii,b5,a4,a3,a2⟩:=info_parts Try.info_event;have c10:=j.out.c10;have b7:=j.out.free 10;have g:=j.out.out;have q:=lt_of_block j.out.blk;have nb:=zC g j.out.blk (.inr Zd);obtain⟨oa',oc',rfl⟩:=zG g;have a9:=Ja g;have c1:m.out.length<=4000000:=Zo;have a6:∀o,O (W2.alloc o) K.pm 10 (.slice oa' m.out.length oc'):=fun o=>(Oo (w:=W2) (Below.heap_alloc _ _ _ q)).trans c10
  have a5:∀o,Y (W2.alloc o) K.pm 10:=fun o=>(Qm (w:=W2) (Below.heap_alloc _ _ _ q)).trans b7
  have c4:K.B<W2.heap.size:=j.out.size;clear g;go_upto_region 30 with fail
  go_region_law (first|(refine step_append_lies _ (by rfl) (.tmp 145) (.tmp 150) _ (by rfl) K.B 173 ii (.agg #[M 0,M 0]) 2 4 Try.underlying130 b5 a4 a3 a2 rfl Zo (.slice oa' m.out.length oc') m.out.length (qO m.out) (by rfl) ((a9.out.alloc _).drew) ⟨W2.heap.size,0,none⟩ 1 1 [M on,M xa] (by rfl) (by rfl) (Oi (cs:=#[M on,M xa]) (t:=173) (fr:=(0,0)) (heap_alloc_new W2 _)) (by simp[Value.oneCell']) Zo (by unfold maxLen;omega) Zo Zt (W2.heap.size+1) Zs ?_;intro gg b9 w3 l i c3 b8;have c7:=(i.cell_far ⟨K.pm,10,none⟩ Zt (Ne.symm nb)).trans (a6 _);have c5:=(i.frozen_far ⟨K.pm,10,none⟩ Zt (Ne.symm nb)).trans (a5 _)))
  all_goals go_wp2_with fail
  all_goals go_ret
  all_goals (
   have hO:=j.out.setO (p:=on) (x:=xa) (xN i) (by simpa[vL] using l) b3 b0 b4
   exact zQ.ok (x:=0) hO.1 (HF.out.trans hO.2) Zd)
theorem step_ar(h:MachAt w K m ov){oc f:Int}(a1:I64 oa)(a0:I64 ob)(b5:on<65536)(ab:Option Addr)(an ac:Nat){v:Int->Nat}(hv:xO w vb vn v)(d:Int)(hc:5<=oc/\oc<=17):
 A 97 #[G K.pm,.agg #[I oc,I f,I oa,I ob,M on,.slice ab an ac],.map (some vb),I d] w (zQ K w (iy m oc (v oa) (v ob))):=by
 have t:=fun(W:World) (hW:Frm K.B w W)=>(hv.kept hW).look a1
 have q:=fun(W:World) (hW:Frm K.B w W)=>(hv.kept hW).look a0
 have l:=hv.2 oa;have k:=hv.2 ob;have b6:=h.size;have u:=Ja (h.keep ((Below.refl _ _).alloc (Je _) (U #[I oc,I f,I oa,I ob,M on,.slice ab an ac] 27)));have i:=Ja ((Frm.refl K.B w).alloc Zo (U #[I oc,I f,I oa,I ob,M on,.slice ab an ac] 27));have la:=fun n:Nat=>t _ (i.out.drewN (n:=n))
 have lb:=fun n:Nat=>q _ (i.out.drewN (n:=n))
 have g:=zI (W:=w) (o:=U #[I oc,I f,I oa,I ob,M on,.slice ab an ac] 27) rfl;clear h hv t q;generalize v oa=xa at *;generalize v ob=xb at *;go_enter Try.func97,Try.ntmps97;go_upto_region 1 with fail;generalize a2:w.alloc (U #[I oc,I f,I oa,I ob,M on,.slice ab an ac] 27)=W1 at *;clear a2;have p0:=K0 g;have p2:=K2 g;have p3:=K3 g;have p4:=K4 g
 go_cut [9,10] (fun x y wx=>x=M xa/\y=M xb/\∃n,wx=W1.drewN n)
 case first=>
  go_quiet (fail);go_wp2;go_meet;exact⟨rfl,rfl,_,rfl⟩
 case rest=>
  obtain⟨rfl,rfl,n,rfl⟩:=hcut;have HM:=Ja (u.out.drewN n);have HF:=Ja (i.out.drewN (n:=n));have q0:(W1.drewN n).cell? ⟨w.heap.size,0,none⟩=_:=p0;have q2:(W1.drewN n).cell? ⟨w.heap.size,2,none⟩=_:=p2;have q4:(W1.drewN n).cell? ⟨w.heap.size,4,none⟩=_:=p4;clear la lb p0 p2 p3 p4 g u i;generalize W1.drewN n=W2 at *;have t1:((oc:Int)==1)=false:=Ze;have t2:((oc:Int)==2)=false:=Ze;have t3:((oc:Int)==3)=false:=Ze;have t4:((oc:Int)==4)=false:=Ze;have b4:((oc:Int)==18)=false:=Ze;have b3:((oc:Int)==19)=false:=Ze;have b2:((oc:Int)==20)=false:=Ze;have b1:((oc:Int)==21)=false:=Ze;have b0:((oc:Int)==22)=false:=Ze;have a9:((oc:Int)==23)=false:=Ze;have a6:((oc:Int)==24)=false:=Ze;have a5:((oc:Int)==25)=false:=Ze;have a4:((oc:Int)==26)=false:=Ze;have a3:((oc:Int)==27)=false:=Ze;have c:=jD oc hc xa xb l k;unfold rq at c
  by_cases j:oc=8/\xb=0
  ·have EE:=Ja (show iy m oc xa xb=.trap 4 0 m by unfold iy;rw[if_pos j]);simp only[if_pos j] at c;have HC:=Ja c;clear hc c j;go_wp2_with (go_at_call 105;go_must (refine(HC.out _).mono ?_;rintro e w' ⟨rfl,rfl⟩))
   exact⟨rfl,by rw[EE.out];exact zQ.trap HM.out HF.out⟩
  ·have EE:=Ja (show iy m oc xa xb=.ok (yW oc xa xb) m by unfold iy;rw[if_neg j]);simp only[if_neg j] at c;have HC:=Ja c;clear hc c j;go_wp2_with (go_at_call 105;go_must (refine(HC.out _).mono ?_;rintro e w' ⟨rfl,rfl⟩))
   go_ret;rw[EE.out];exact zQ.ok HM.out HF.out (jz _ _ _ l k)
theorem dC{k v:Int}(h:d.1 v=none):yy d g i k v=false:=by unfold yy;rw[h]
theorem rec_idle (p:Addr)(w:World):
 CallsD Try.prog 90 #[.pointer (some p)] .returning w fun e u' w'=>e=.returned (.tuple #[])/\u'=.returning/\w=w':=by
 refine callsD_of_wpS Try.func90 rfl fun c₀ cs hu=>?_
 apply wpS_seq;apply wpS_region;simp[wpOpsS,go_sem,recoverD,hu,Try.ntmps90,Exit.thenS];apply wpS_seq;apply wpS_seq;apply wpS_region;simp[wpOpsS,go_sem,recoverD,hu,Try.ntmps90,Exit.thenS];refine wpS_cond (t:=true) (by simp[Act.eval,Array.replicate]) ?_;simp only[if_true];refine wpS_of_wp (wp_ret ?_);cases c₀
 simp_all [Exit.thenS,bodyPostS,results,Try.results90]
theorem kA (v:Value)(w:World):(Instr.typeAssert (.iface 151 v) 20 151 true).run Try.prog w=.ok (.tuple #[v,.bool true]) w:=by kernel_rfl
theorem pi(h:MachAt w K m ov){b12 b13 d:Nat}(o:T w b13 #[G K.pm] 146)(u:T w b12 #[M 0,F,I 0,M 0,.string {data:=#[]},I 0,I 0] 134)
 (l:O w d 0 (.func (.func 89) #[] #[G b13,G b12])) (k i:Nat) (g:List PanicEntry):
 CallsD Try.prog 90 #[G d] (.panicking (oE k i::g)) w fun e u' w'=>
  e=.returned (.tuple #[])/\u'=.panicking ({oE k i with recovered:=true }::g)/\T w' b12 (yV 0 ov k i (y9 m.ram) m.inputs m.polls) 134/\w.grownBy w' (some b12):=by
 refine callsD_of_wpS Try.func90 rfl fun c₀ cs f=>?_
 unfold oE at f ⊢;apply wpS_seq;apply wpS_region;simp[wpOpsS,go_sem,recoverD,f,Try.ntmps90,Exit.thenS];apply wpS_seq;apply wpS_seq;apply wpS_region;simp[wpOpsS,go_sem,recoverD,f,Try.ntmps90,Exit.thenS];refine wpS_cond (t:=false) (by simp[Act.eval,Array.replicate]) ?_;simp only[Bool.false_eq_true,if_false];refine wpS_of_wp (wp_skip ?_);simp only[Exit.thenS];refine wpS_of_wp ?_;have a1:=kA (.agg #[I k,M i]);have HH:=Ja h;have HU:=Ja f;have H2:=Ja (Jb o u);clear h f o u
 have e:(#[Value.pointer (some ⟨d,0,none⟩)]++(((((Array.replicate 18 undef).setIfInBounds 3 (Value.iface 151 (.agg #[I k,M i]))).setIfInBounds 0 (Value.iface 151 (.agg #[I k,M i]))).setIfInBounds 4 (Value.iface 151 (.agg #[I k,M i]))).setIfInBounds 5 (Value.bool false)):Array Value)=#[.pointer (some ⟨d,0,none⟩),.iface 151 (.agg #[I k,M i]),undef,undef,.iface 151 (.agg #[I k,M i]),.iface 151 (.agg #[I k,M i]),.bool false,undef,undef,undef,undef,undef,undef,undef,undef,undef,undef,undef,undef]:=by
  simp[Array.replicate,List.replicate]
 rw[e];clear e;have x:=Jw w _ l;have a0:(w.alloc (U #[I k,M i] 151)).cell? ⟨d,0,none⟩=_:=(Oo (w:=w) (Below.heap_alloc _ _ _ x)).trans l;have y:=HH.out.keep ((Below.refl _ _).alloc (Je _) (U #[I k,M i] 151));have hF:=Ja (pE y (b12:=b12) (b13:=b13) (zB H2.out.1) (zB H2.out.2) k i 0);clear y;go_wp2_with (go_at_call 89;go_must (refine hF.out.mono ?_;rintro e w4 ⟨rfl,h5,j⟩))
 have hg:w.grownBy w4 (some b12):=⟨j.os,j.tape,j.output,Jn Zs j.size,fun q hq hn=>(j.block q Zt hn).trans (Below.heap_alloc _ _ _ hq)⟩
 have f:=HU.out;cases c₀;simp only at f;simp[bodyPostS,results,Try.results90,h5,hg]
theorem lP:∀x2 x4 x5 x7:Bool,(x7=false)∨(x2=false/\x7=true)∨(x2=true/\x4=false/\x7=true)∨(x2=true/\x4=true/\x5=false/\x7=true)∨(x2=true/\x4=true/\x5=true/\x7=true)
 |_,_,_,false=>(.inl rfl)
 |false,_,_,true=>(.inr (.inl ⟨rfl,rfl⟩))
 |true,false,_,true=>(.inr (.inr (.inl ⟨rfl,rfl,rfl⟩)))
 |true,true,false,true=>(Zi (.inl ⟨rfl,rfl,rfl,rfl⟩))
 |true,true,true,true=>(Zi (.inr ⟨rfl,rfl,rfl,rfl⟩))
theorem jZ:∀x1 x4 x6:Bool,(x1=false)∨(x1=true/\x4=false)∨(x1=true/\x4=true/\x6=false)∨(x1=true/\x4=true/\x6=true)
 |false,_,_=>(.inl rfl)
 |true,false,_=>(.inr (.inl ⟨rfl,rfl⟩))
 |true,true,false=>(.inr (.inr (.inl ⟨rfl,rfl,rfl⟩)))
 |true,true,true=>(.inr (.inr (.inr ⟨rfl,rfl,rfl⟩)))
theorem kM{B:Nat}{V:PV}{p:IProg}(hp:ProgIn w B V p)(hB:B<=w.heap.size)(hC:T w C (rC V p++tl).toArray 107)(hl:p.args.length=p.funcs.length)(o:IOp)(ho:qN o)(ar:Option Addr)(h:Nat)(b7:o.args.length<=h/\h<=9223372036854775807)(i:o.code=26):
 A 77 #[G C,opV o (.slice ar o.args.length h)] w (ym w (opF p o)):=by
 unfold opV;obtain⟨_,b4,b9,b8,b5⟩:=ho;have b6:o.args.length<=9223372036854775807:=Zo;obtain⟨Vf,Va,Vd,Vb⟩:=V;obtain⟨f1,f2,e1,a6,a5⟩:=hp.funcs.form;have l:=hp.args;obtain⟨a1,a2,e2,b3,b2⟩:=hp.args.form;obtain⟨d1,d2,e3,b0,a9⟩:=hp.data.form;simp only at e1 e2 e3 l;subst e1 e2 e3;have c1:p.funcs.length<=9223372036854775807:=Zo;have c2:p.data.length<=9223372036854775807:=Zo;clear hp a6 a5 b3 b2 b0 a9;have c3:=lt_of_block hC;have hf:∀W,A 81 #[I 26] W fun e w'=>e=.returned (.tuple #[.agg #[.bool false,.bool false,.bool false,.bool false],.bool true])/\Q W w':=fun W=>yu 26 W
 obtain⟨x0,h0⟩:∃q,decide (0<=o.a)=q:=⟨_,rfl⟩
 obtain⟨x1,h1⟩:∃q,decide (0<=o.res)=q:=⟨_,rfl⟩
 obtain⟨x2,h2⟩:∃q,decide (-1<=o.res)=q:=⟨_,rfl⟩
 obtain⟨x3,h3⟩:∃q,decide (o.a<(p.funcs.length:Int))=q:=⟨_,rfl⟩
 obtain⟨x4,h4⟩:∃q,decide (o.b=0)=q:=⟨_,rfl⟩
 obtain⟨x5,h5⟩:∃q,decide (o.n=0)=q:=⟨_,rfl⟩
 obtain⟨x6,h6⟩:∃q,decide (o.args.length=0)=q:=⟨_,rfl⟩
 obtain⟨x7,j⟩:∃q,decide ((o.args.length:Int)=p.args.getD o.a.toNat 0)=q:=⟨_,rfl⟩
 have e:opF p o=(x0 && x3 && x7 && x2 && x4 && x5):=by
  unfold opF;rw[i];rw[h0,h3,j,h2,h4,h5];rfl
 rw[i];obtain⟨R,y⟩:∃R,opF p o=R:=⟨_,rfl⟩
 rw[y];rw[e] at y;have HR:=Ja y;have HF:=Ja hf;have HC:=Ja hC;have t4:=zl h4;have t5:((o.n:Int)==0)=x5:=zl (zZ h5 Zo);have t6:((o.args.length:Int)==0)=x6:=zl (zZ h6 Zo);clear e y hf h4 h5 h6 hC
 cases x0 with
 |false=>
  skip
  all_goals go_enter Try.func77,Try.ntmps77
  all_goals go_wp2_with (first|(go_at_call 81;go_must (refine(HF.out _).mono ?_;rintro e w1 ⟨rfl,d⟩;have c:=zH d (zI rfl) Zs;have u0:∀ob,O (w1.alloc ob) w.heap.size 0 (I 26):=fun ob=>zA (zB c) Zs;have u1:∀ob,O (w1.alloc ob) w.heap.size 1 (I o.res):=fun ob=>zA (zB c) Zs;have u2:∀ob,O (w1.alloc ob) w.heap.size 2 (I o.a):=fun ob=>zA (zB c) Zs;have u3:∀ob,O (w1.alloc ob) w.heap.size 3 (I o.b):=fun ob=>zA (zB c) Zs;have u4:∀ob,O (w1.alloc ob) w.heap.size 4 (M (o.n:Int)):=fun ob=>zA (zB c) Zs;have u5:∀ob,O (w1.alloc ob) w.heap.size 5 (.slice ar o.args.length h):=fun ob=>zA (zB c) Zs;have f:=zH d (zB HC.out) Zt;have v0:∀ob,O (w1.alloc ob) C 0 (.slice f1 p.funcs.length f2):=fun ob=>zA (zB f) rfl;have v1:∀ob,O (w1.alloc ob) C 1 (.slice a1 p.args.length a2):=fun ob=>zA (zB f) rfl;have v4:∀ob,O (w1.alloc ob) C 4 (.slice d1 p.data.length d2):=fun ob=>zA (zB f) rfl;clear c f;have g:=Ja d;clear d))|go_in)
  all_goals go_quiet (fail)
  all_goals go_wp2
  all_goals go_ret
  all_goals exact⟨uz (HR.out.symm.trans rfl),yC ((((Below.refl _ _).alloc (Je _) _).trans (g.out.mono Zs)).alloc (by have u:=g.out.size;simp at u;omega) _)⟩
 |true=>
  obtain⟨k,hk⟩:∃k:Nat,o.a=(k:Int):=⟨o.a.toNat,by have:=of_decide_eq_true h0;omega⟩
  rw[hk] at h3 j ⊢;have t0:decide ((0:Int)<=(k:Int))=true:=decide_eq_true Zo;have t3:decide (k<p.funcs.length)=x3:=zZ h3 Zo
  cases x3 with
  |false=>
   clear j
   all_goals go_enter Try.func77,Try.ntmps77
   all_goals go_wp2_with (first|(go_at_call 81;go_must (refine(HF.out _).mono ?_;rintro e w1 ⟨rfl,d⟩;have c:=zH d (zI rfl) Zs;have u0:∀ob,O (w1.alloc ob) w.heap.size 0 (I 26):=fun ob=>zA (zB c) Zs;have u1:∀ob,O (w1.alloc ob) w.heap.size 1 (I o.res):=fun ob=>zA (zB c) Zs;have u2:∀ob,O (w1.alloc ob) w.heap.size 2 (I k):=fun ob=>zA (zB c) Zs;have u3:∀ob,O (w1.alloc ob) w.heap.size 3 (I o.b):=fun ob=>zA (zB c) Zs;have u4:∀ob,O (w1.alloc ob) w.heap.size 4 (M (o.n:Int)):=fun ob=>zA (zB c) Zs;have u5:∀ob,O (w1.alloc ob) w.heap.size 5 (.slice ar o.args.length h):=fun ob=>zA (zB c) Zs;have f:=zH d (zB HC.out) Zt;have v0:∀ob,O (w1.alloc ob) C 0 (.slice f1 p.funcs.length f2):=fun ob=>zA (zB f) rfl;have v1:∀ob,O (w1.alloc ob) C 1 (.slice a1 p.args.length a2):=fun ob=>zA (zB f) rfl;have v4:∀ob,O (w1.alloc ob) C 4 (.slice d1 p.data.length d2):=fun ob=>zA (zB f) rfl;clear c f;have g:=Ja d;clear d))|go_in)
   all_goals go_quiet (fail)
   all_goals go_wp2
   all_goals go_ret
   all_goals exact⟨uz (HR.out.symm.trans rfl),yC ((((Below.refl _ _).alloc (Je _) _).trans (g.out.mono Zs)).alloc (by have u:=g.out.size;simp at u;omega) _)⟩
  |true=>
   have a4:k<p.funcs.length:=of_decide_eq_true t3;obtain⟨x,hx⟩:∃x,p.args[k]? =some x:=⟨_,Jd Zo⟩
   obtain⟨ba,oa,rfl,a0,t,_⟩:=l.get hx;rw[Nk] at t;rw[Ni,Jj,hx,Ot] at j;have t7:=zl j;have c0:(k:Int)<p.args.length:=Zo;have a3:=Ja (Jb (Jy a0 hB) t);clear j hx t a0 l a4;have b1:=lP x2 x4 x5 x7;rcases b1 with rfl|⟨rfl,rfl⟩|⟨rfl,rfl,rfl⟩|⟨rfl,rfl,rfl,rfl⟩|⟨rfl,rfl,rfl,rfl⟩
   all_goals go_enter Try.func77,Try.ntmps77
   all_goals go_wp2_with (first|(go_at_call 81;go_must (refine(HF.out _).mono ?_;rintro e w1 ⟨rfl,d⟩;have c:=zH d (zI rfl) Zs;have u0:∀ob,O (w1.alloc ob) w.heap.size 0 (I 26):=fun ob=>zA (zB c) Zs;have u1:∀ob,O (w1.alloc ob) w.heap.size 1 (I o.res):=fun ob=>zA (zB c) Zs;have u2:∀ob,O (w1.alloc ob) w.heap.size 2 (I k):=fun ob=>zA (zB c) Zs;have u3:∀ob,O (w1.alloc ob) w.heap.size 3 (I o.b):=fun ob=>zA (zB c) Zs;have u4:∀ob,O (w1.alloc ob) w.heap.size 4 (M (o.n:Int)):=fun ob=>zA (zB c) Zs;have u5:∀ob,O (w1.alloc ob) w.heap.size 5 (.slice ar o.args.length h):=fun ob=>zA (zB c) Zs;have f:=zH d (zB HC.out) Zt;have v0:∀ob,O (w1.alloc ob) C 0 (.slice f1 p.funcs.length f2):=fun ob=>zA (zB f) rfl;have v1:∀ob,O (w1.alloc ob) C 1 (.slice (some ⟨ba,oa,none⟩) p.args.length a2):=fun ob=>zA (zB f) rfl;have v4:∀ob,O (w1.alloc ob) C 4 (.slice d1 p.data.length d2):=fun ob=>zA (zB f) rfl;have m:=((Below.refl w.heap.size w).alloc (Je _) _).trans (d.mono Zs);have v9:∀ob,O (w1.alloc ob) ba (oa+k) (I x):=fun ob=>zV (m.alloc m.size ob) a3.out.1 a3.out.2;clear m;clear c f;have g:=Ja d;clear d))|go_in)
   all_goals go_quiet (fail)
   all_goals go_wp2
   all_goals go_ret
   all_goals exact⟨uz (HR.out.symm.trans rfl),yC ((((Below.refl _ _).alloc (Je _) _).trans (g.out.mono Zs)).alloc (by have u:=g.out.size;simp at u;omega) _)⟩
theorem jo{B:Nat}{V:PV}{p:IProg}(hp:ProgIn w B V p)(hB:B<=w.heap.size)(t:T w C (rC V p++tl).toArray 107)(hl:p.args.length=p.funcs.length)(o:IOp)(ho:qN o)(ar:Option Addr)(h:Nat)(b5:o.args.length<=h/\h<=9223372036854775807)(i:o.code=2):
 A 77 #[G C,opV o (.slice ar o.args.length h)] w (ym w (opF p o)):=by
 unfold opV;obtain⟨_,b2,b7,b6,b3⟩:=ho;have b4:o.args.length<=9223372036854775807:=Zo;obtain⟨Vf,Va,Vd,Vb⟩:=V;obtain⟨f1,f2,e1,a4,a3⟩:=hp.funcs.form;have m:=hp.args;obtain⟨a1,a2,e2,b1,b0⟩:=hp.args.form;obtain⟨d1,d2,e3,a6,a5⟩:=hp.data.form;simp only at e1 e2 e3 m;subst e1 e2 e3;have b8:p.funcs.length<=9223372036854775807:=Zo;have b9:p.data.length<=9223372036854775807:=Zo;clear hp a4 a3 b1 b0 a6 a5;have c0:=lt_of_block t;have hf:∀W,A 81 #[I 2] W fun e w'=>e=.returned (.tuple #[.agg #[.bool true,.bool false,.bool false,.bool true],.bool true])/\Q W w':=fun W=>yu 2 W
 obtain⟨x0,h0⟩:∃q,decide (0<=o.a)=q:=⟨_,rfl⟩
 obtain⟨x1,h1⟩:∃q,decide (0<=o.res)=q:=⟨_,rfl⟩
 obtain⟨x2,h2⟩:∃q,decide (-1<=o.res)=q:=⟨_,rfl⟩
 obtain⟨x3,h3⟩:∃q,decide (o.a<(p.data.length:Int))=q:=⟨_,rfl⟩
 obtain⟨x4,y⟩:∃q,decide (o.b=0)=q:=⟨_,rfl⟩
 obtain⟨x5,h5⟩:∃q,decide (o.n=0)=q:=⟨_,rfl⟩
 obtain⟨x6,x⟩:∃q,decide (o.args.length=0)=q:=⟨_,rfl⟩
 obtain⟨x7,u⟩:∃q,decide ((o.args.length:Int)=p.args.getD o.a.toNat 0)=q:=⟨_,rfl⟩
 have e:opF p o=(x0 && x3 && x1 && x4 && x6):=by
  unfold opF;rw[i];rw[h0,h3,h1,y,x];rfl
 rw[i];obtain⟨R,l⟩:∃R,opF p o=R:=⟨_,rfl⟩
 rw[l];rw[e] at l;have HR:=Ja l;have HF:=Ja hf;have HC:=Ja t;have t4:=zl y;have t5:((o.n:Int)==0)=x5:=zl (zZ h5 Zo);have t6:((o.args.length:Int)==0)=x6:=zl (zZ x Zo);clear e l hf y h5 x t
 cases x0 with
 |false=>
  skip
  all_goals go_enter Try.func77,Try.ntmps77
  all_goals go_wp2_with (first|(go_at_call 81;go_must (refine(HF.out _).mono ?_;rintro e w1 ⟨rfl,f⟩;have c:=zH f (zI rfl) Zs;have u0:∀ob,O (w1.alloc ob) w.heap.size 0 (I 2):=fun ob=>zA (zB c) Zs;have u1:∀ob,O (w1.alloc ob) w.heap.size 1 (I o.res):=fun ob=>zA (zB c) Zs;have u2:∀ob,O (w1.alloc ob) w.heap.size 2 (I o.a):=fun ob=>zA (zB c) Zs;have u3:∀ob,O (w1.alloc ob) w.heap.size 3 (I o.b):=fun ob=>zA (zB c) Zs;have u4:∀ob,O (w1.alloc ob) w.heap.size 4 (M (o.n:Int)):=fun ob=>zA (zB c) Zs;have u5:∀ob,O (w1.alloc ob) w.heap.size 5 (.slice ar o.args.length h):=fun ob=>zA (zB c) Zs;have d:=zH f (zB HC.out) Zt;have v0:∀ob,O (w1.alloc ob) C 0 (.slice f1 p.funcs.length f2):=fun ob=>zA (zB d) rfl;have v1:∀ob,O (w1.alloc ob) C 1 (.slice a1 p.args.length a2):=fun ob=>zA (zB d) rfl;have v4:∀ob,O (w1.alloc ob) C 4 (.slice d1 p.data.length d2):=fun ob=>zA (zB d) rfl;clear c d;have g:=Ja f;clear f))|go_in)
  all_goals go_quiet (fail)
  all_goals go_wp2
  all_goals go_ret
  all_goals exact⟨uz (HR.out.symm.trans rfl),yC ((((Below.refl _ _).alloc (Je _) _).trans (g.out.mono Zs)).alloc (by have j:=g.out.size;simp at j;omega) _)⟩
 |true=>
  obtain⟨k,hk⟩:∃k:Nat,o.a=(k:Int):=⟨o.a.toNat,by have:=of_decide_eq_true h0;omega⟩
  rw[hk] at h3 u ⊢;have t0:decide ((0:Int)<=(k:Int))=true:=decide_eq_true Zo;have t3:decide (k<p.data.length)=x3:=zZ h3 Zo
  cases x3 with
  |false=>
   clear u
   all_goals go_enter Try.func77,Try.ntmps77
   all_goals go_wp2_with (first|(go_at_call 81;go_must (refine(HF.out _).mono ?_;rintro e w1 ⟨rfl,f⟩;have c:=zH f (zI rfl) Zs;have u0:∀ob,O (w1.alloc ob) w.heap.size 0 (I 2):=fun ob=>zA (zB c) Zs;have u1:∀ob,O (w1.alloc ob) w.heap.size 1 (I o.res):=fun ob=>zA (zB c) Zs;have u2:∀ob,O (w1.alloc ob) w.heap.size 2 (I k):=fun ob=>zA (zB c) Zs;have u3:∀ob,O (w1.alloc ob) w.heap.size 3 (I o.b):=fun ob=>zA (zB c) Zs;have u4:∀ob,O (w1.alloc ob) w.heap.size 4 (M (o.n:Int)):=fun ob=>zA (zB c) Zs;have u5:∀ob,O (w1.alloc ob) w.heap.size 5 (.slice ar o.args.length h):=fun ob=>zA (zB c) Zs;have d:=zH f (zB HC.out) Zt;have v0:∀ob,O (w1.alloc ob) C 0 (.slice f1 p.funcs.length f2):=fun ob=>zA (zB d) rfl;have v1:∀ob,O (w1.alloc ob) C 1 (.slice a1 p.args.length a2):=fun ob=>zA (zB d) rfl;have v4:∀ob,O (w1.alloc ob) C 4 (.slice d1 p.data.length d2):=fun ob=>zA (zB d) rfl;clear c d;have g:=Ja f;clear f))|go_in)
   all_goals go_quiet (fail)
   all_goals go_wp2
   all_goals go_ret
   all_goals exact⟨uz (HR.out.symm.trans rfl),yC ((((Below.refl _ _).alloc (Je _) _).trans (g.out.mono Zs)).alloc (by have j:=g.out.size;simp at j;omega) _)⟩
  |true=>
   have a0:k<p.data.length:=of_decide_eq_true t3;clear u a0 m;have a9:=jZ x1 x4 x6;rcases a9 with rfl|⟨rfl,rfl⟩|⟨rfl,rfl,rfl⟩|⟨rfl,rfl,rfl⟩
   all_goals go_enter Try.func77,Try.ntmps77
   all_goals go_wp2_with (first|(go_at_call 81;go_must (refine(HF.out _).mono ?_;rintro e w1 ⟨rfl,f⟩;have c:=zH f (zI rfl) Zs;have u0:∀ob,O (w1.alloc ob) w.heap.size 0 (I 2):=fun ob=>zA (zB c) Zs;have u1:∀ob,O (w1.alloc ob) w.heap.size 1 (I o.res):=fun ob=>zA (zB c) Zs;have u2:∀ob,O (w1.alloc ob) w.heap.size 2 (I k):=fun ob=>zA (zB c) Zs;have u3:∀ob,O (w1.alloc ob) w.heap.size 3 (I o.b):=fun ob=>zA (zB c) Zs;have u4:∀ob,O (w1.alloc ob) w.heap.size 4 (M (o.n:Int)):=fun ob=>zA (zB c) Zs;have u5:∀ob,O (w1.alloc ob) w.heap.size 5 (.slice ar o.args.length h):=fun ob=>zA (zB c) Zs;have d:=zH f (zB HC.out) Zt;have v0:∀ob,O (w1.alloc ob) C 0 (.slice f1 p.funcs.length f2):=fun ob=>zA (zB d) rfl;have v1:∀ob,O (w1.alloc ob) C 1 (.slice a1 p.args.length a2):=fun ob=>zA (zB d) rfl;have v4:∀ob,O (w1.alloc ob) C 4 (.slice d1 p.data.length d2):=fun ob=>zA (zB d) rfl;clear c d;have g:=Ja f;clear f))|go_in)
   all_goals go_quiet (fail)
   all_goals go_wp2
   all_goals go_ret
   all_goals exact⟨uz (HR.out.symm.trans rfl),yC ((((Below.refl _ _).alloc (Je _) _).trans (g.out.mono Zs)).alloc (by have j:=g.out.size;simp at j;omega) _)⟩
theorem uI{p:IProg}:∀(l m:List IOp) (k:Int) (d:wO),sS p i (l++m) k d=(sS p i l k d).bind (sS p i m (k+l.length))
 | [],m,k,d=>by simp[sS]
 |o::l,m,k,d=>by
  have e:k+1+(l.length:Int)=k+((o::l).length:Int):=by simp;omega
  show(if opF p o then(if 0<=o.res then(rB d o.res i k).bind (sS p i (l++m) (k+1)) else sS p i (l++m) (k+1) d) else none)=(if opF p o then(if 0<=o.res then(rB d o.res i k).bind (sS p i l (k+1)) else sS p i l (k+1) d) else none).bind _
  by_cases h:opF p o=true
  ·rw[if_pos h,if_pos h]
   by_cases c:0<=o.res
   ·rw[if_pos c,if_pos c]
    cases rB d o.res i k with
    |none=>rfl
    |some d'=>rw[Nw,Nw,uI l m,e]
   ·rw[if_neg c,if_neg c,uI l m,e]
  ·rw[if_neg h,if_neg h];rfl
theorem ui{p:IProg}:∀(l m:List IBlk) (i:Int) (d:wO),uH p bl (l++m) i d=(uH p bl l i d).bind (uH p bl m (i+l.length))
 | [],m,i,d=>by simp[uH]
 |b::l,m,i,d=>by
  have e:i+1+(l.length:Int)=i+((b::l).length:Int):=by simp;omega
  show(pS p bl i b d).bind (uH p bl (l++m) (i+1))=((pS p bl i b d).bind (uH p bl l (i+1))).bind _
  cases pS p bl i b d with
  |none=>rfl
  |some d'=>rw[Nw,Nw,ui l m,e]
theorem sD{α:Type}{l:List α}{x:α}(h:l[k]? =some x):l=l.take k++x::l.drop (k+1):=by
 rw[Jh] at h;obtain⟨hk,rfl⟩:=h
 conv=>lhs;rw[<-Qi k l,Qn hk]
theorem vS{α:Type}{l:List α}{x:α}(h:l[k]? =some x):((l.take k).length:Int)=k:=by
 have:=(Jh.1 h).1;rw[Oc,Ud Zo]
theorem aC{v:Int}(h:l[k]? =some v)(c:vJ i (l.take k) d=some d'):vJ i (l.take (k+1)) d=rB d' v i (-1):=by
 rw[Nh,h,Option.toList,uX,c,Nw]
 show(rB d' v i (-1)).bind (vJ i [])=_
 cases rB d' v i (-1)<;>rfl
theorem qr{v:Int}(h:l[k]? =some v)(f:vJ i (l.take k) d=some d')(c:rB d' v i (-1)=none):vJ i l d=none:=by
 rw[sD h,uX,f,Nw]
 show(rB d' v i (-1)).bind _=none
 rw[c];rfl
def ug (p:IProg)(i k:Int)(o:IOp)(d:wO):Option wO:=if opF p o then(if 0<=o.res then rB d o.res i k else some d) else none
theorem dG (p:IProg)(i k:Int)(o:IOp)(os:List IOp)(d:wO):sS p i (o::os) k d=(ug p i k o d).bind (sS p i os (k+1)):=by
 unfold sS ug
 by_cases h:opF p o=true
 ·rw[if_pos h,if_pos h]
  by_cases c:0<=o.res
  ·rw[if_pos c,if_pos c]
  ·rw[if_neg c,if_neg c];rfl
 ·rw[if_neg h,if_neg h];rfl
theorem cK{p:IProg}{l:List IOp}(h:l[k]? =some o)(c:sS p i (l.take k) 0 d=some d'):sS p i (l.take (k+1)) 0 d=ug p i k o d':=by
 rw[Nh,h,Option.toList,uI,c,Nw,dG,vS h,Ub];cases ug p i k o d'<;>rfl
theorem oR{p:IProg}{l:List IOp}(h:l[k]? =some o)(f:sS p i (l.take k) 0 d=some d')(c:ug p i k o d'=none):sS p i l 0 d=none:=by
 rw[sD h,uI,f,Nw,dG,vS h,Ub,c];rfl
theorem lQ{p:IProg}{l:List IBlk}{b:IBlk}(h:l[k]? =some b)(c:uH p bl (l.take k) 0 d=some d'):uH p bl (l.take (k+1)) 0 d=pS p bl k b d':=by
 rw[Nh,h,Option.toList,ui,c,Nw,vS h,Ub]
 show(pS p bl k b d').bind (uH p bl [] _)=_
 cases pS p bl k b d'<;>rfl
theorem abe{p:IProg}{l:List IBlk}{b:IBlk}(h:l[k]? =some b)(f:uH p bl (l.take k) 0 d=some d')(c:pS p bl k b d'=none):uH p bl l 0 d=none:=by
 rw[sD h,ui,f,Nw,vS h,Ub]
 show(pS p bl k b d').bind _=none
 rw[c];rfl
def na:wO:=(fun _=>none,fun _=>none)
theorem wS (p:IProg)(bl:List IBlk):wg p bl=uH p bl bl 0 na:=rfl
def ShpPost (w:World)(C m1 m2:Nat)(pv:List Value)(blv idv:Value)(r:Option wO)(e:Ending)(w':World):Prop:=
 e=.returned (.bool r.isSome)/\Kept m1 m2 w w'/\∀d,r=some d->∃n,n<9000000000000000000/\ChkAt w' C m1 m2 pv blv idv n d
def vZ (blocks:List IBlk):Prop:=blocks.length<=2000000/\∀b∈blocks,b.params.length<=2000000/\b.ops.length<=2000000/\b.term.to.length<=2000000
theorem jV(hv:zw g)(hr:∀x,x<g.length->Reach (GE g) x){c:Nat}(i:c<g.length):
 (pP g c=-1/\∀d,d≠c->wE g d c=false)∨∃c':Nat,pP g c=(c':Int)/\c'<g.length/\(∀d,d≠c->wE g d c'=wE g d c)/\wh (vD g) c'<wh (vD g) c:=by
 rcases idomOf hv c with⟨k,j⟩|⟨c',k,j,m,q⟩
 ·exact .inl ⟨k,fun d hd=>by cases h:wE g d c with|false=>rfl|true=>exact(j d hd h).elim⟩
 ·have hb:=(yO hv c' c).1 m;refine .inr ⟨c',k,(cA hv m).1,fun d hd=>?_,?_⟩
  ·rw[Bool.eq_iff_iff];constructor
   ·intro h;have l:=(yO hv d c').1 h;exact(yO hv d c).2 ⟨l.1,hr c i,oZ l.2.2 hb.2.2⟩
   ·intro h;exact(yO hv d c').2 ⟨((yO hv d c).1 h).1,hb.1,q d hd h⟩
  ·obtain⟨ns,f⟩:=adR hv;obtain⟨D,o⟩:=f.dom;rw[f.eq];have hm:=o.dom_mem ((f.mem c).2 (hr c i)) hb.2.2;rcases Nat.lt_or_eq_of_le hm.2 with h|h
   ·exact h
   ·exact absurd (ou f.nodup hm.1 ((f.mem c).2 (hr c i)) h) j
theorem lC(hv:zw g)(hr:∀x,x<g.length->Reach (GE g) x){c:Nat}(d:c<g.length):wE g c c=true:=(yO hv c c).2 ⟨hr c d,hr c d,rF _ _⟩
def nS (g:List (List Nat))(db i:Nat)(x:Int):Prop:=(x=-1/\wE g db i=false)∨∃c:Nat,x=(c:Int)/\c<g.length/\wE g db c=wE g db i
def oQ (g:List (List Nat))(x:Int):Nat:=if x=-1 then 0 else wh (vD g) x.toNat+1
theorem lT(hv:zw g)(hr:∀x,x<g.length->Reach (GE g) x){db i c:Nat}(k:c<g.length)(h:wE g db c=wE g db i)(d:c≠db):
 ∃y,(wQ g)[c]? =some y/\nS g db i y/\oQ g y<oQ g c:=by
 refine⟨pP g c,by unfold wQ;rw[Jr,Oh k];rfl,?_⟩;rcases jV hv hr k with⟨j,f⟩|⟨c',j,f,l,m⟩
 ·rw[j];refine⟨.inl ⟨rfl,by rw[<-h];exact f db (Ne.symm d)⟩,?_⟩;unfold oQ;rw[if_pos rfl,if_neg Zo];omega
 ·rw[j];refine⟨.inr ⟨c',rfl,f,by rw[l db (Ne.symm d)];exact h⟩,?_⟩;unfold oQ;rw[if_neg Zo,if_neg Zo,Ni,Ni];omega
theorem j8 (g:List (List Nat)):(wQ g).length=g.length:=by simp[wQ]
theorem case_dfd:∀q1 q2:Bool,(q1=true/\q2=true)∨(q1=true/\q2=false)∨(q1=false)
 |true,true=> .inl ⟨rfl,rfl⟩
 |true,false=> .inr (.inl ⟨rfl,rfl⟩)
 |false,_=> .inr (.inr rfl)
theorem qI{m1 m2 n:Nat}{pv:List Value}{e3 b8:Value}(hc:ChkAt w C m1 m2 pv e3 b8 n d)(hv:zw g)(hr:∀x,x<g.length->Reach (GE g) x)(e7:g.length<=2000000)
 (a5:zY w w.heap.size b8 (wQ g)) (hd:∀v b,d.1 v=some b->0<=b/\b.toNat<g.length)  {lv:Value} (hl:zY w w.heap.size lv l) (i:Nat) (hi:i<g.length) (k:Int) (hk:I64 k):
 A 64 #[G C,lv,I i,I k] w (ym w (l.all (yy d g i k))):=by
 obtain⟨la,lc,rfl,d5,d4⟩:=hl.form;obtain⟨da,dc,rfl,c5,d6⟩:=a5.form;rw[j8] at a5 c5 hc;have e6:l.length<=9223372036854775807:=Zo;obtain⟨hb,d2,c4,c3,d3,b3⟩:=hc
 obtain⟨p0,p1,p2,p3,p4,p5,rfl⟩:∃a b c d e f,pv=[a,b,c,d,e,f]:=by
  match pv,d2 with
  | [a,b,c,d,e,f],_=>exact⟨a,b,c,d,e,f,rfl⟩
 have f0:O w C 7 (.map (some m1)):=zA hb rfl;have e8:O w C 8 (.map (some m2)):=zA hb rfl;have f1:O w C 9 (.slice da g.length dc):=zA hb rfl;have u:=Ja (show wA w m1 n d.1/\wA w m2 n d.2/\(∀x,(d.1 x).isSome=(d.2 x).isSome)/\zw g/\(∀x,x<g.length->Reach (GE g) x)/\(∀v b,d.1 v=some b->0<=b/\b.toNat<g.length)/\i<g.length from⟨c4,c3,b3,hv,hr,hd,hi⟩);have HL:=Ja (show zY w w.heap.size (.slice la l.length lc) l/\zY w w.heap.size (.slice da g.length dc) (wQ g) from⟨hl,a5⟩);obtain⟨res,a1⟩:∃x,l.all (yy d g i k)=x:=⟨_,rfl⟩
 rw[a1];have t:=Ja a1;clear a1 hb c4 c3 d3 b3 hv hr hd hi hl a5 d5 d4 c5 d6;go_enter Try.func64,Try.ntmps64;generalize e2:w=W0 at *;clear e2;go_wp2
 go_loopw [16] (fun jv wx=>∃j:Nat,j<=l.length/\jv=I j/\wx=W0/\Hid ((l.take j).all (yy d g i k)=true)) (fun jv _=>l.length-(intOf jv).toNat)
 case atStart=>exact⟨0,Jt _,rfl,rfl,by rfl⟩
 case round=>
  obtain⟨j,hj,rfl,rfl,HJ⟩:=hrel;generalize e1:wr=W0 at *;clear e1
  by_cases a4:j<l.length
  ·have c8:(j:Int)<l.length:=Zo;have c7:=Ja a4;obtain⟨v,a3⟩:∃v,l[j]? =some v:=⟨_,Jd a4⟩
   obtain⟨b,o,rfl,hb,b7,a9⟩:=HL.out.1.get a3;rw[Nk] at b7;have b0:=u.out.1.lookOk a9;have b1:=u.out.2.1.look a9;have HT:=Ja (show(l.take (j+1)).all (yy d g i k)=((l.take j).all (yy d g i k) && yy d g i k v)/\(yy d g i k v=false->l.all (yy d g i k)=false) from⟨xX _ a3,fun h=>aaN _ a3 h⟩);clear a3 hb a4
   cases h1:d.1 v with
   |none=>
    rw[h1] at b0;have HN:=Ja (show yy d g i k v=false by unfold yy;rw[h1]);clear h1 b1;go_wp2;go_ret
    exact⟨uz (t.out.symm.trans (HT.out.2 HN.out)),Below.refl _ _⟩
   |some bz=>
    obtain⟨az,h2⟩:∃a,d.2 v=some a:=by
     have:=u.out.2.2.1 v;rw[h1] at this
     cases h:d.2 v with
     |none=>rw[h] at this;cases this
     |some a=>exact⟨a,rfl⟩
    obtain⟨e0,b6⟩:=u.out.2.2.2.2.2.1 v bz h1;obtain⟨db,rfl⟩:∃m:Nat,bz=(m:Int):=⟨bz.toNat,by omega⟩
    rw[Ni] at b6;rw[h1] at b0;rw[h2] at b1;simp only[Ot,Option.isSome_some] at b0 b1;have b2:yy d g i k v=(!(decide ((db:Int)=(i:Int)) && decide (k<=az)) && wE g db i):=by unfold yy;rw[h1,h2];rfl
    obtain⟨q1,a0⟩:∃q,decide ((db:Int)=(i:Int))=q:=⟨_,rfl⟩
    obtain⟨q2,d1⟩:∃q,decide (k<=az)=q:=⟨_,rfl⟩
    rw[a0,d1] at b2;have t1:(db==i)=q1:=by rw[<-a0];simp only[Bool.beq_eq_decide_eq,Int.natCast_inj]
    have d0:((db:Int)==(i:Int))=q1:=zl a0;have c9:decide (db=i)=q1:=zZ a0 Zo;have HK:=Ja (show yy d g i k v=(!(q1 && q2) && wE g db i)/\db<g.length from⟨b2,b6⟩);clear h1 h2 b2 e0 b6 a0;rcases case_dfd q1 q2 with⟨rfl,rfl⟩|⟨rfl,rfl⟩|rfl
    ·have HN:=Ja (show yy d g i k v=false from HK.out.1);go_wp2;go_ret;exact⟨uz (t.out.symm.trans (HT.out.2 HN.out)),Below.refl _ _⟩
    all_goals (
     have HN:=Ja (show yy d g i k v=wE g db i from by rw[HK.out.1];rfl);have e4:=Ja (show nS g db i (i:Int) from .inr ⟨i,rfl,u.out.2.2.2.2.2.2,rfl⟩);go_wp2
     go_loopw [13] (fun xv wx=>∃x:Int,xv=I x/\W0=wx/\Hid (nS g db i x)) (fun xv _=>oQ g (intOf xv))
     case atStart=>exact⟨_,rfl,rfl,e4⟩
     case round=>
      obtain⟨x,rfl,rfl,HX⟩:=hrel;rcases HX.out with⟨rfl,c2⟩|⟨c,rfl,b4,a6⟩
      ·have u1:((-1:Int) !=(db:Int))=true:=by rw[bne_iff_ne];omega
       have HF:=Ja (HN.out.trans c2);clear c2;go_wp2;go_ret;exact⟨uz (t.out.symm.trans (HT.out.2 HF.out)),Below.refl _ _⟩
      ·by_cases b5:c=db
       ·subst b5;have HY:=Ja (show yy d g i k v=true by rw[HN.out,<-a6];exact lC u.out.2.2.2.1 u.out.2.2.2.2.1 b4);have u1:((c:Int) !=(c:Int))=false:=by rw[bne_eq_false_iff_eq]
        clear a6 b4 t1 d0 c9;go_wp2;go_roundw
        case rel=>exact⟨j+1,c7.out,by go_num,by trivial,Ja (by rw[HT.out.1,HJ.out,HY.out];rfl)⟩
        case measure=>have:=c7.out;simp[intOf];omega
       ·have u1:((c:Int) !=(db:Int))=true:=by rw[bne_iff_ne];omega
        have u2:((c:Int) !=-1)=true:=by rw[bne_iff_ne];omega
        obtain⟨y,hy,c1,c0⟩:=lT u.out.2.2.2.1 u.out.2.2.2.2.1 b4 a6 b5;obtain⟨b9,o9,rfl,d8,d7,_⟩:=HL.out.2.get hy;rw[Nk] at d7;have HY:=Ja (Jb c1 c0);have e5:(c:Int)<g.length:=Zo;clear a6 b5 hy c1 c0 d8;go_wp2;go_roundw
        case rel=>exact⟨y,rfl,by trivial,Ja HY.out.1⟩
        case measure=>have:=HY.out.2;simpa[intOf] using this)
  ·obtain rfl:j=l.length:=by omega
   have c8:¬(l.length:Int)<l.length:=Zo;have a2:=HJ.out;rw[Nl] at a2;have HA:=Ja a2;clear a4 a2;go_wp2;go_ret;exact⟨uz (t.out.symm.trans HA.out),Below.refl _ _⟩
theorem pZ:I64 0:=⟨by omega,by omega⟩
theorem afi:I64 (-1):=⟨by omega,by omega⟩
def rd (t:ITerm)(ops:List IOp):IProg:=⟨[[⟨[],ops,t⟩]],[0],0,-1,[],[]⟩
def mL (w:World)(p:IProg)(e:Ending)(w':World):Prop:=∃V,e=.returned (yH V p)/\ProgIn w' w'.heap.size V p/\Q w w'
theorem yN.nil{α:Type}{sz:Nat}{R:World->Nat->Nat->Nat->α->Prop}{B:Nat}:yN sz R w B (F) []:=
 ⟨none,0,rfl,Je _,by omega,fun k x hk=>by simp at hk⟩
theorem yN.one{α:Type}{sz:Nat}{R:World->Nat->Nat->Nat->α->Prop}{B b:Nat}{x:α}(hb:b<B)(h:R w B b 0 x):yN sz R w B (L b 1 1) [x]:=
 ⟨_,1,rfl,Je _,by omega,fun k y hk=>by
   have c:k=0:=by have:=(Jh.1 hk).1;simp at this;omega
   subst c;cases hk
   exact⟨b,0,rfl,hb,by simpa using h⟩⟩
def oz (l:List (IOp×Value)):Prop:=∀q∈l,qN q.1/\q.1.args=[]/\q.2=F
theorem eV {l:List (IOp×Value)}(h:oz l)(w:World)(B:Nat):∀q∈l,qN q.1/\zY w B q.2 q.1.args:=fun q hq=>by
 obtain⟨f,d,c⟩:=h q hq;rw[d,c];exact⟨f,yN.nil⟩
def ky (o:IOp):Bool:=decide (18<=o.code) && decide (o.code<=21)
end Go.Proofs.Ytoahcpkibpomcaa
