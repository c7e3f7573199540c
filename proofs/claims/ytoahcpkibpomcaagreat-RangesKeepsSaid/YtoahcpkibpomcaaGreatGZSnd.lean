/- Part of a proof. -/
import Derived.Test.YtoahcpkibpomcaaGreatGRFun0
set_option linter.all false
set_option maxHeartbeats 4000000
set_option maxRecDepth 100000
namespace Go.Proofs.YtoahcpkibpomcaaGreat
open Go.RowKit
variable {w w' w1 w3:World}{m:Mach}{C c g i k:Nat}{xs:List Int}{bl blocks:List IBlk}{t:ITerm}{d d':wO}{X X':Nat->Prop}{o:Obj}{M M':MS}{vv:Value}{W:Int->Int->Int->Prop}
theorem Tryz.info_event:(Tryz.prog.info? 117).map (fun i=>(i.zero,i.size,i.bytes))=some (some (.agg #[O 0,O 0]),2,4):=by kernel_rfl
theorem p9 (E:IEnv)(b a:Nat):tS E b a<256:=by unfold tS;exact UInt8.toNat_lt _
theorem xN{row:Option Nat}(h:w.drew.grownBy w' row):w.grownBy w' row:=⟨h.os,h.tape,h.output,h.size,h.block⟩
theorem step_ar{K:MK}{ov:Value}(h:MachAt w K m ov){oc g oa ob:Int}{on:Nat}(a3:I64 oa)(a2:I64 ob)(b7:on<65536)(ab:Option Addr)(an ac:Nat){vb vn:Nat}{v:Int->Nat}(hv:xO w vb vn v)(d:Int)(hc:5<=oc/\oc<=17):
 I 155 #[F K.pm,.agg #[U oc,U g,U oa,U ob,O on,.slice ab an ac],.map (some vb),U d] w (zQ K w (iy m oc (v oa) (v ob))):=by
 have a0:=fun(W:World) (hW:Frm K.B w W)=>(hv.kept hW).look a3
 have u:=fun(W:World) (hW:Frm K.B w W)=>(hv.kept hW).look a2
 have t:=hv.2 oa;have l:=hv.2 ob;have b8:=h.size;have a1:=Ja (h.keep ((Below.refl _ _).alloc (Je _) (G #[U oc,U g,U oa,U ob,O on,.slice ab an ac] 76)));have j:=Ja ((Frm.refl K.B w).alloc Zo (G #[U oc,U g,U oa,U ob,O on,.slice ab an ac] 76));have la:=fun n:Nat=>a0 _ (j.out.drewN (n:=n))
 have lb:=fun n:Nat=>u _ (j.out.drewN (n:=n))
 have i:=zI (W:=w) (o:=G #[U oc,U g,U oa,U ob,O on,.slice ab an ac] 76) rfl;clear h hv a0 u;generalize v oa=xa at *;generalize v ob=xb at *;go_enter Tryz.func155,Tryz.ntmps155;go_upto_region 1 with fail;generalize a4:w.alloc (G #[U oc,U g,U oa,U ob,O on,.slice ab an ac] 76)=W1 at *;clear a4;have p0:=K0 i;have p2:=K2 i;have p3:=K3 i;have p4:=K4 i
 go_cut [9,10] (fun x y wx=>x=O xa/\y=O xb/\∃n,wx=W1.drewN n)
 case first=>
  go_quiet (fail);go_wp2;go_meet;exact⟨rfl,rfl,_,rfl⟩
 case rest=>
  obtain⟨rfl,rfl,n,rfl⟩:=hcut;have HM:=Ja (a1.out.drewN n);have HF:=Ja (j.out.drewN (n:=n));have q0:(W1.drewN n).cell? ⟨w.heap.size,0,none⟩=_:=p0;have q2:(W1.drewN n).cell? ⟨w.heap.size,2,none⟩=_:=p2;have q4:(W1.drewN n).cell? ⟨w.heap.size,4,none⟩=_:=p4;clear la lb p0 p2 p3 p4 i a1 j;generalize W1.drewN n=W2 at *;have t1:((oc:Int)==1)=false:=Ze;have t2:((oc:Int)==2)=false:=Ze;have t3:((oc:Int)==3)=false:=Ze;have t4:((oc:Int)==4)=false:=Ze;have b6:((oc:Int)==18)=false:=Ze;have b5:((oc:Int)==19)=false:=Ze;have b4:((oc:Int)==20)=false:=Ze;have b3:((oc:Int)==21)=false:=Ze;have b2:((oc:Int)==22)=false:=Ze;have b1:((oc:Int)==23)=false:=Ze;have b0:((oc:Int)==24)=false:=Ze;have a7:((oc:Int)==25)=false:=Ze;have a6:((oc:Int)==26)=false:=Ze;have a5:((oc:Int)==27)=false:=Ze;have c:=jD oc hc xa xb t l;unfold rq at c
  by_cases k:oc=8/\xb=0
  ·have EE:=Ja (show iy m oc xa xb=.trap 4 0 m by unfold iy;rw[if_pos k]);simp only[if_pos k] at c;have HC:=Ja c;clear hc c k;go_wp2_with (go_at_call 163;go_must (refine(HC.out _).mono ?_;rintro e w' ⟨rfl,rfl⟩))
   exact⟨rfl,by rw[EE.out];exact zQ.trap HM.out HF.out⟩
  ·have EE:=Ja (show iy m oc xa xb=.ok (yW oc xa xb) m by unfold iy;rw[if_neg k]);simp only[if_neg k] at c;have HC:=Ja c;clear hc c k;go_wp2_with (go_at_call 163;go_must (refine(HC.out _).mono ?_;rintro e w' ⟨rfl,rfl⟩))
   go_ret;rw[EE.out];exact zQ.ok HM.out HF.out (jz _ _ _ t l)
theorem lU{E:IEnv}{call:Int->List Nat->Mach->Res Nat}{m':Mach}{x:Nat}(h:tY E call m=.ok x m'):x=0:=by
 unfold tY at h
 split at h
 ·split at h
  ·split at h
   ·cases h;rfl
   ·cases h
  ·cases h;rfl
 ·cases h;rfl
theorem akt{B:Nat}{v:Value}{xs:List Nat}(h:wV w B v xs):∀x∈xs,x<65536:=by
 intro x c;obtain⟨k,hk⟩:=Ny c;obtain⟨a,d,rfl,_,_,_⟩:=id h;obtain⟨b,o,_,_,h3⟩:=h.get hk;exact h3.2
def aam (o:IOp)(av:Value):Value:=.agg #[U o.code,U o.res,U o.a,U o.b,O (o.n:Int),av]
theorem edge_bad{e:IEdge}(c:t.to[k]? =some e)(h:uM blocks e=false):aw blocks t=false:=by
 unfold aw
 have:t.to.all (uM blocks)=false:=by
  rw[Bool.eq_false_iff];intro h2;rw[Oe.1 h2 e (Ji c)] at h;cases h
 rw[this];rfl
theorem term_any{B:Nat}{cs:Array Value}{d3:Value}(c2:wX w B d3 blocks)(hB:B<=w.heap.size)(hC:Q w C cs 173)(h6:cs[6]? =some d3)(t:ITerm)(ht:I64 t.kind/\I64 t.a){tv:Value}(b2:wH w B tv t.to):
 I 139 #[F C,.agg #[U t.kind,U t.a,tv]] w (ym w (aw blocks t)):=by
 obtain⟨fa,fc,rfl,e7,e6⟩:=c2.form;obtain⟨ta,tc,rfl,e3,e2⟩:=b2.form;have g3:blocks.length<=9223372036854775807:=Zo;have f9:t.to.length<=9223372036854775807:=Zo;obtain⟨tk,b3⟩:∃x,t.kind=x:=⟨_,rfl⟩
 obtain⟨tA,b4⟩:∃x,t.a=x:=⟨_,rfl⟩
 have f5:=Ja c2;have f3:=Ja b2;obtain⟨res,a0⟩:∃x,aw blocks t=x:=⟨_,rfl⟩
 rw[a0,b3,b4];have u:=Ja (show aw blocks t=res/\t.kind=tk/\t.a=tA from⟨a0,b3,b4⟩);have d1:Y w (w.alloc (G #[U tk,U tA,.slice ta t.to.length tc] 82)):=(Below.refl _ _).alloc (Je _) _;have b1:=zI (W:=w) (o:=G #[U tk,U tA,.slice ta t.to.length tc] 82) rfl;have i:=zB (o:=G #[U tk,U tA,.slice ta t.to.length tc] 82) hC;clear c2 b2 a0 b3 b4 hC e7 e6 e3 e2;go_enter Tryz.func139,Tryz.ntmps139;go_upto_region 1 with fail;generalize f2:w.alloc (G #[U tk,U tA,.slice ta t.to.length tc] 82)=W0 at *;have y2:=K2 b1;have c:=Ja d1;have d4:=Ja b1;have d6:=Ja i;clear f2 d1 b1 i;go_wp2
 go_loopw [10] (fun kv wx=>∃k:Nat,k<=t.to.length/\kv=U k/\Hid (Y W0 wx/\(t.to.take k).all (uM blocks)=true)) (fun kv _=>t.to.length-(intOf kv).toNat)
 case atStart=>exact⟨0,Jt _,rfl,Ja ⟨Below.refl _ _,by rfl⟩⟩
 case round=>
  obtain⟨k,hk,rfl,HK⟩:=hrel
  by_cases a6:k<t.to.length
  ·have d7:(k:Int)<t.to.length:=Zo;have d5:=Ja a6;obtain⟨e,he⟩:∃e,t.to[k]? =some e:=⟨_,Jd a6⟩
   obtain⟨b,oo,rfl,hb,i,b7,av,d0,d2⟩:=f3.out.get he;obtain⟨aa,ac,rfl,f0,e9⟩:=d2.form;have g6:e.args.length<=9223372036854775807:=Zo;have c0:Y w wr:=c.out.trans (HK.out.1.mono c.out.size);obtain⟨eb,a7⟩:∃x,e.block=x:=⟨_,rfl⟩
   rw[a7] at i;have e0:=zV c0 (Jy hb hB) i;have e1:=zV c0 (Jy hb hB) d0;have d:=zH HK.out.1 d6.out (lt_of_block d6.out);have HT:=Ja (show(t.to.take (k+1)).all (uM blocks)=((t.to.take k).all (uM blocks) && uM blocks e)/\(uM blocks e=false->aw blocks t=false) from⟨xX (uM blocks) he,fun h=>edge_bad he h⟩);have HE:=Ja a7;have c4:I64 eb:=a7 ▸ b7;obtain⟨g5,g4⟩:=c4;have c7:=zB (o:=G #[U eb,.slice aa e.args.length ac] 79) d;have b0:=zI (W:=wr) (o:=G #[U eb,.slice aa e.args.length ac] 79) rfl;have c5:=HK.out.1.alloc (HK.out.1.size) (G #[U eb,.slice aa e.args.length ac] 79);clear i d0 d2 he d a6 f0 e9 b7 a7 y2;go_upto_region 4 with fail;generalize f1:wr.alloc (G #[U eb,.slice aa e.args.length ac] 79)=W1 at *;generalize wr.heap.size=b6 at *;have f7:=K0 b0;have f6:=K1 b0;have zc:A W1 C 6 (.slice fa blocks.length fc):=zA c7 h6;have y:=Ja c5;clear f1 b0 c7 c5 c0 e0 e1
   by_cases g1:1<=eb
   ·have t1:decide (eb<1)=false:=decide_eq_false Zo;obtain⟨j,rfl⟩:∃j:Nat,eb=(j:Int):=⟨eb.toNat,by omega⟩
    by_cases g2:j<blocks.length
    ·have t2:decide ((blocks.length:Int)<=(j:Int))=false:=decide_eq_false Zo;have d8:decide (blocks.length<=j)=false:=decide_eq_false Zo;have d9:(j:Int)<(blocks.length:Int):=Zo;obtain⟨bx,b8⟩:∃bx,blocks[j]? =some bx:=⟨_,Jd g2⟩
     obtain⟨fb,fo,rfl,e8,_,_,_,pv,ov,f8,c9,_,_,c8,_⟩:=f5.out.get b8;obtain⟨pa,pc,rfl,e5,e4⟩:=c8.form;have g0:bx.params.length<=9223372036854775807:=Zo;have b9:Y w W1:=c.out.trans (y.out.mono c.out.size);have p0:=zV b9 (Jy e8 hB) c9;obtain⟨q3,b5⟩:∃q,decide (e.args.length=bx.params.length)=q:=⟨_,rfl⟩
     have t3:((e.args.length:Int) !=(bx.params.length:Int))=!q3:=by
      rw[bne,vu (q:=q3) (zZ b5 Zo)]
     have g:uM blocks e=q3:=by
      unfold uM xz;rw[HE.out,decide_eq_true g1,decide_eq_true d9,Ni,Jj,b8,Ot,b5];rfl
     have l:=Ja g;clear b8 c9 c8 e5 e4 b9 g b5 g2
     cases q3 with
     |true=>
      go_quiet (fail);go_wp2;go_roundw
      case rel=>exact⟨k+1,d5.out,by go_num,Ja ⟨yC y.out,by rw[HT.out.1,HK.out.2,l.out];rfl⟩⟩
      case measure=>have:=d5.out;simp[intOf];omega
     |false=>
      go_quiet (fail);go_wp2;go_ret;exact⟨uz (u.out.1.symm.trans (HT.out.2 l.out)),yC (c.out.trans (y.out.mono c.out.size))⟩
    ·have t2:decide ((blocks.length:Int)<=(j:Int))=true:=decide_eq_true Zo;have d8:decide (blocks.length<=j)=true:=decide_eq_true Zo
     have g:uM blocks e=false:=by
      unfold uM;rw[HE.out,decide_eq_false (show ¬(j:Int)<(blocks.length:Int) by omega),Uh];rfl
     have l:=Ja g;clear g g2;go_quiet (fail);go_wp2;go_ret;exact⟨uz (u.out.1.symm.trans (HT.out.2 l.out)),yC (c.out.trans (y.out.mono c.out.size))⟩
   ·have t1:decide (eb<1)=true:=decide_eq_true Zo
    have g:uM blocks e=false:=by
     unfold uM;rw[HE.out,decide_eq_false g1];rfl
    have l:=Ja g;clear g g1;go_quiet (fail);go_wp2;go_ret;exact⟨uz (u.out.1.symm.trans (HT.out.2 l.out)),yC (c.out.trans (y.out.mono c.out.size))⟩
  ·obtain rfl:k=t.to.length:=by omega
   have d7:¬(t.to.length:Int)<t.to.length:=Zo;have d:=zH HK.out.1 d4.out (lt_of_block d4.out);have z0:=K0 d;have z1:=K1 d;have z2:=K2 d;have c3:t.to.all (uM blocks)=true:=by have:=HK.out.2;rwa [Nl] at this
   have HR:Hid ((if tk=1 then decide (t.to.length=1) && decide (tA=0)
    else if tk=2 then decide (t.to.length=2)
    else if tk=3 then decide (1<=t.to.length)
    else if tk=4 then decide (t.to.length=0)
    else if tk=5 then decide (t.to.length=0) && decide (tA=0)
    else false)=res):=by
    have h:=u.out;unfold aw at h;rw[c3,Bool.true_and,h.2.1,h.2.2] at h;exact h.1
   have m:=Ja (show Y w wr from c.out.trans (HK.out.1.mono c.out.size));obtain⟨a1,h1⟩:∃q,decide (t.to.length=1)=q:=⟨_,rfl⟩
   obtain⟨a2,h2⟩:∃q,decide (t.to.length=2)=q:=⟨_,rfl⟩
   obtain⟨a3,h3⟩:∃q,decide (1<=t.to.length)=q:=⟨_,rfl⟩
   obtain⟨a4,h4⟩:∃q,decide (t.to.length=0)=q:=⟨_,rfl⟩
   obtain⟨a5,h5⟩:∃q,decide (tA=0)=q:=⟨_,rfl⟩
   rw[h1,h2,h3,h4,h5] at HR;have t1:((t.to.length:Int)==1)=a1:=vu (zZ h1 Zo);have t2:((t.to.length:Int)==2)=a2:=vu (zZ h2 Zo);have t3:decide ((1:Int)<=(t.to.length:Int))=a3:=zZ h3 Zo;have t4:((t.to.length:Int)==0)=a4:=vu (zZ h4 Zo);have t5:=vu h5;clear c3 d h1 h2 h4 h5 y2 a6
   by_cases k1:tk=1
   ·subst k1;cases a1<;>cases a5
    all_goals go_wp2
    all_goals go_ret
    all_goals exact⟨uz (HR.out.symm.trans rfl),m.out⟩
   by_cases k2:tk=2
   ·subst k2;go_wp2;go_ret;exact⟨uz (HR.out.symm.trans rfl),m.out⟩
   by_cases k3:tk=3
   ·subst k3;go_wp2;go_ret;exact⟨uz (HR.out.symm.trans rfl),m.out⟩
   by_cases k4:tk=4
   ·subst k4;go_wp2;go_ret;exact⟨uz (HR.out.symm.trans rfl),m.out⟩
   by_cases k5:tk=5
   ·subst k5;cases a4<;>cases a5
    all_goals go_wp2
    all_goals go_ret
    all_goals exact⟨uz (HR.out.symm.trans rfl),m.out⟩
   have f4:Hid (false=res):=by
    have:=HR.out;rw[if_neg k1,if_neg k2,if_neg k3,if_neg k4,if_neg k5] at this;exact this
   have u1:(tk==1)=false:=by rw[beq_eq_false_iff_ne];exact k1
   have u2:(tk==2)=false:=by rw[beq_eq_false_iff_ne];exact k2
   have u3:(tk==3)=false:=by rw[beq_eq_false_iff_ne];exact k3
   have u4:(tk==4)=false:=by rw[beq_eq_false_iff_ne];exact k4
   have u5:(tk==5)=false:=by rw[beq_eq_false_iff_ne];exact k5
   clear k1 k2 k3 k4 k5 HR;go_wp2;go_ret;exact⟨uz f4.out.symm,m.out⟩
theorem qk{m1 m2 n:Nat}{pv:List Value}{a3 t:Value}(h:ChkAt w C m1 m2 pv a3 t n d)(hn:n<9000000000000000000)(v i k:Int)(hv:I64 v)(hi:I64 i)(hk:I64 k)(g:rB d v i k=some d'):
 I 137 #[F C,U v,U i,U k] w fun e w'=>e=.returned (.bool true)/\ChkAt w' C m1 m2 pv a3 t (n+1) d'/\Kept m1 m2 w w':=by
 obtain⟨hb,hl,o,a1,m,hd⟩:=h
 obtain⟨p0,p1,p2,p3,p4,p5,rfl⟩:∃a b c d e f,pv=[a,b,c,d,e,f]:=by
  match pv,hl with
  | [a,b,c,d,e,f],_=>exact⟨a,b,c,d,e,f,rfl⟩
 have b0:=o.lookOk hv;have b8:A w C 7 (.map (some m1)):=zA hb rfl;have b7:A w C 8 (.map (some m2)):=zA hb rfl;have j:¬((d.1 v).isSome∨v<0∨65535<v):=fun hc=>by rw[rB,if_pos hc] at g;cases g
 have b2:d'=(lS d.1 v i,lS d.2 v k):=by rw[rB,if_neg j] at g;cases g;rfl
 have h0:(d.1 v).isSome=false:=by cases l:(d.1 v).isSome with|false=>rfl|true=>exact absurd (.inl l) j
 have u:d.1 v=none:=by cases l:d.1 v with|none=>rfl|some y=>rw[l] at h0;cases h0
 have a5:d.2 v=none:=by cases l:d.2 v with|none=>rfl|some y=>have:=hd v;rw[l,u] at this;cases this
 have h1:decide (v<0)=false:=decide_eq_false Zo;have h2:decide (65535<v)=false:=decide_eq_false Zo;rw[h0] at b0;obtain⟨s1,w1,w2,e1,g1,e2,k1,g2⟩:=(wA.same (w':=w.drew) o rfl).entry hn hv hi u;obtain⟨es,ck,a0⟩:=a1.blk;have a4:wA w2 m2 n d.2:=(wA.same (w':=w.drew) a1 rfl).same (g2.block m2 (lt_of_block a0) (fun e=>m (by cases e;rfl)));obtain⟨s2,w3,w4,e3,g3,e4,k2,g4⟩:=a4.entry hn hv hk a5;subst b2;clear g j;simp only[goInt] at e1 e2 e3 e4;have H:=Ja (Jb g2 g4);go_enter Tryz.func137,Tryz.ntmps137;go_wp2
 go_region
 go_wp2;go_ret;obtain⟨g2,g4⟩:=H.out;obtain⟨b6,c0,a7⟩:=o.blk;have b4:C≠m1:=fun e=>by rw[e,a7] at hb;cases hb
 have b3:C≠m2:=fun e=>by rw[e,a0] at hb;cases hb
 have a6:w.heap.size<=w2.heap.size:=g2.size;have a2:∀b,b≠m1->b≠m2->b<w.heap.size->w4.heap[b]? =w.heap[b]?:=fun b x1 x2 hbs=>(g4.block b Zo (fun e=>x2 (by cases e;rfl))).trans (g2.block b hbs (fun e=>x1 (by cases e;rfl)))
 obtain⟨b5,b9,b1⟩:=k1.blk;refine⟨rfl,⟨(a2 C b4 b3 (lt_of_block hb)).trans hb,rfl,k1.same (g4.block m1 (lt_of_block b1) (fun e=>m (by cases e;rfl))),k2,m,fun x=>?_⟩,⟨g4.os.trans g2.os,g4.tape.trans g2.tape,g4.output.trans g2.output,Jn a6 g4.size,fun b hbs x1 x2=>a2 b x1 x2 hbs⟩⟩
 show(lS d.1 v i x).isSome=(lS d.2 v k x).isSome
 unfold lS
 split
 ·rfl
 ·exact hd x
def mW (p:IProg):Prop:=∀f∈p.funcs,vZ f/\∀b∈f,b.params.length<=65536
theorem pZ:I64 0:=⟨by omega,by omega⟩
theorem i64_neg:I64 (-1):=⟨by omega,by omega⟩
def rd (t:ITerm)(ops:List IOp):IProg:=⟨[[⟨[],ops,t⟩]],[0],0,-1,[],[]⟩
def mL (w:World)(p:IProg)(e:Ending)(w':World):Prop:=∃V,e=.returned (yH V p)/\ProgIn w' w'.heap.size V p/\Y w w'
theorem yN.nil{α:Type}{sz:Nat}{R:World->Nat->Nat->Nat->α->Prop}{B:Nat}:yN sz R w B (L) []:=
 ⟨none,0,rfl,Je _,by omega,fun k x hk=>by simp at hk⟩
theorem yN.one{α:Type}{sz:Nat}{R:World->Nat->Nat->Nat->α->Prop}{B b:Nat}{x:α}(hb:b<B)(h:R w B b 0 x):yN sz R w B (T b 1 1) [x]:=
 ⟨_,1,rfl,Je _,by omega,fun k y hk=>by
   have c:k=0:=by have:=(Jh.1 hk).1;simp at this;omega
   subst c;cases hk
   exact⟨b,0,rfl,hb,by simpa using h⟩⟩
theorem uB {α:Type}(f:α->List Value)(n:Nat)(hf:∀a,(f a).length=n):∀(l:List α) (k:Nat) (a:α),l[k]? =some a->∀j,j<n->(l.flatMap f)[k*n+j]? =(f a)[j]?
 | [],k,a,hk,_,_=>by simp at hk
 |x::l,0,a,hk,j,hj=>by
  cases hk
  rw[Qa,Nat.zero_mul,Ng,Np (by rw[hf];exact hj)]
 |x::l,k+1,a,hk,j,hj=>by
  rw[Qa,Nc (by rw[hf,Nat.add_mul];omega),hf];have e:(k+1)*n+j-n=k*n+j:=by rw[Nat.add_mul];omega
  rw[e];exact uB f n hf l k a (by simpa using hk) j hj
theorem oW{α:Type}{f:α->List Value}{n:Nat}(hf:∀a,(f a).length=n){b:Nat}{l:List α}{e:TypeId}(h:Q w b (l.flatMap f).toArray e){a:α}(hk:l[k]? =some a){j:Nat}{v:Value}(d:(f a)[j]? =some v):
 A w b (0+k*n+j) v:=by
 refine zA h ?_;have c:j<n:=by rw[<-hf a];exact(Jh.1 d).1
 rw[Ng,List.getElem?_toArray,uB f n hf l k a hk j c];exact d
def zU (q:IOp×Value):List Value:=[U q.1.code,U q.1.res,U q.1.a,U q.1.b,O (q.1.n:Int),q.2]
theorem aki{B b:Nat}{l:List (IOp×Value)}{e:TypeId}(h:Q w b (l.flatMap zU).toArray e)(hb:b<B)(h64:∀q∈l,qN q.1/\zY w B q.2 q.1.args)(hl:l.length<=1000000):
 mN w B (T b l.length l.length) (l.map (·.1)):=by
 refine⟨_,l.length,by rw[Nr],by rw[Nr];exact Je _,by omega,fun k o hk=>?_⟩;rw[Jr,Oz] at hk;obtain⟨q,hq,rfl⟩:=hk;have c:=fun j v (hj:(zU q)[j]? =some v)=>oW (f:=zU) (n:=6) (fun _=>rfl) h hq hj
 obtain⟨h1,h2⟩:=h64 q (Ji hq);exact⟨b,0,rfl,hb,c 0 _ rfl,c 1 _ rfl,c 2 _ rfl,c 3 _ rfl,c 4 _ rfl,h1,q.2,c 5 _ rfl,h2⟩
def za (q:IEdge×Value):List Value:=[U q.1.block,q.2]
def RetProgO (w:World)(p:IProg)(e:Ending)(w':World):Prop:=
 ∃f1 f2 a1 a2 d1 d2 b1 b2,e=.returned (.agg (D p f1 f2 a1 a2 d1 d2 b1 b2))/\
  ProgIn w' w'.heap.size ⟨.slice f1 p.funcs.length f2,.slice a1 p.args.length a2,.slice d1 p.data.length d2,.slice b1 p.banks.length b2⟩ p/\Y w w'
theorem mL.open{p:IProg}{e:Ending}(h:mL w p e w'):RetProgO w p e w':=by
 obtain⟨⟨Vf,Va,Vd,Vb⟩,rfl,hp,hb⟩:=h;obtain⟨f1,f2,e1,_,_⟩:=hp.funcs.form;obtain⟨a1,a2,e2,_,_⟩:=hp.args.form;obtain⟨d1,d2,e3,_,_⟩:=hp.data.form;obtain⟨b1,b2,e4,_,_⟩:=hp.banks.form;simp only at e1 e2 e3 e4;subst e1 e2 e3 e4;exact⟨f1,f2,a1,a2,d1,d2,b1,b2,rfl,hp,hb⟩
def eM (w:World)(R:IRun)(e:Ending)(w':World):Prop:=
 ∃oa oc,e=.returned (.agg #[O (R.value:Int),.slice oa R.out.length oc,U (R.kind:Int),O (R.info:Int),.string (y9 R.ram),U (R.inputs:Int),U (R.polls:Int)])/\vM w' w'.heap.size (.slice oa R.out.length oc) R.out/\Y w w'
theorem abr.open{R:IRun}{e:Ending}(h:abr w R e w'):eM w R e w':=by
 obtain⟨ov,rfl,ho,hb⟩:=h;obtain⟨oa,oc,rfl,_,_⟩:=ho.form;exact⟨oa,oc,rfl,ho,hb⟩
theorem uL{ops:List IOp}(h1:ops.length<=2000000)(h2:t.to.length<=2000000):mW (rd t ops):=by
 intro f hf;simp only[rd,Jo] at hf;subst hf;refine⟨⟨by simp,fun b hb=>?_⟩,fun b hb=>?_⟩
 ·rw[Jo] at hb;subst hb;exact⟨by simp,h1,h2⟩
 ·rw[Jo] at hb;subst hb;simp
def oz (l:List (IOp×Value)):Prop:=∀q∈l,qN q.1/\q.1.args=[]/\q.2=L
theorem eV {l:List (IOp×Value)}(h:oz l)(w:World)(B:Nat):∀q∈l,qN q.1/\zY w B q.2 q.1.args:=fun q hq=>by
 obtain⟨h1,h2,h3⟩:=h q hq;rw[h2,h3];exact⟨h1,yN.nil⟩
theorem Tryz.info_irop:(Tryz.prog.info? 76).map (fun i=>(i.zero,i.size,i.bytes))=some (some (.agg #[U 0,U 0,U 0,U 0,O 0,.slice none 0 0]),6,64):=by kernel_rfl
theorem Tryz.info_irfunc:(Tryz.prog.info? 39).map (fun i=>(i.zero,i.size,i.bytes))=some (some (.agg #[.slice none 0 0]),1,24):=by kernel_rfl
theorem yD{base:Nat}{e:TypeId}{size n:Nat}{v:Value}{xs:List Value}(h:w.ownsRow base e size v n xs)(hk:∀k,v.ownBlock=some k->w'.heap[k]? =w.heap[k]?):w'.ownsRow base e size v n xs:=by
 refine⟨h.1,?_⟩;rcases h.2 with h2|⟨g,c,cur,rfl,hg,d,r⟩
 ·exact .inl h2
 ·exact .inr ⟨g,c,cur,rfl,hg,(hk g rfl).trans d,r⟩
theorem yM.cells{b n:Nat}{xs:List Value}{e:TypeId}(h:Q w b xs.toArray e)(d:xs.length=n)(c:∀u∈xs,u.oneCell'=true):yM w n (T b 1 1) 1 xs:=
 ⟨_,_,rfl,by omega,c,.inr ⟨_,rfl,Oi (cs:=xs.toArray) h⟩⟩
structure Stp (X:Nat->Prop) (w:World) (X':Nat->Prop) (w':World):Prop where
 os:w'.os=w.os
 tape:w'.tape=w.tape
 output:w'.output=w.output
 size:w.heap.size<=w'.heap.size
 new:∀k,X' k->X k∨w.heap.size<=k
 kept:∀k,k<w.heap.size->¬X k->w'.heap[k]? =w.heap[k]?
theorem Stp.refl (X:Nat->Prop)(w:World):Stp X w X w:=⟨rfl,rfl,rfl,Je _,fun _ h=> .inl h,fun _ _ _=>rfl⟩
theorem Stp.trans{X1 X2:Nat->Prop}{w2:World}(h:Stp X w X1 w1)(k:Stp X1 w1 X2 w2):Stp X w X2 w2:=
 ⟨k.os.trans h.os,k.tape.trans h.tape,k.output.trans h.output,Jn h.size k.size,
  fun i hi=>(k.new i hi).elim (h.new i) (fun e=> .inr (Jn h.size e)),
  fun i hi hx=>(k.kept i (Jy hi h.size) (fun e=>(h.new i e).elim hx Zo)).trans (h.kept i hi hx)⟩
theorem Stp.of_below(h:Y w w'):Stp X w X w':=
 ⟨h.os,h.tape,h.output,h.size,fun _ h=> .inl h,fun k hk _=>h.block k hk⟩
theorem Stp.below{B:Nat}(h:Stp X w X' w')(c:∀k,X k->B<=k)(hB:B<=w.heap.size):Below B w w':=
 ⟨h.os,h.tape,h.output,h.size,fun k hk=>h.kept k Zo (fun e=>by have:=c k e;omega)⟩
theorem Stp.blk(h:Stp X w X' w')(hk:w.heap[k]? =some o)(c:¬X k):w'.heap[k]? =some o:=(h.kept k (lt_of_block hk) c).trans hk
theorem Stp.cell {X X':Nat->Prop}{w w':World}(h:Stp X w X' w'){k i:Nat}{v:Value}(hk:A w k i v)(c:¬X k):A w' k i v:=
 (Oo (h.kept k (jU hk) c)).trans hk
theorem Stp.not(h:Stp X w X' w')(hk:k<w.heap.size)(c:¬X k):¬X' k:=fun e=>(h.new k e).elim c Zo
def yE {α:Type}(sz:Nat)(R:World->(Nat->Prop)->Nat->Nat->α->Prop)(w:World)(X:Nat->Prop)(v:Value)(xs:List α):Prop:=
 ∃(a:Option Addr) (cap:Nat),v=.slice a xs.length cap/\xs.length<=cap/\cap<=9223372036854775807/\∀(k:Nat) (x:α),xs[k]? =some x->∃b o,a=some ⟨b,o,none⟩/\b<w.heap.size/\¬X b/\R w X b (o+k*sz) x
def rP {α:Type}(R:World->(Nat->Prop)->Nat->Nat->α->Prop):Prop:=∀X w X' w' b q x,b<w.heap.size->¬X b->Stp X w X' w'->R w X b q x->R w' X' b q x
theorem yE.step {α:Type}{sz:Nat}{R:World->(Nat->Prop)->Nat->Nat->α->Prop}(i:rP R){X X':Nat->Prop}{w w':World}{v:Value}{xs:List α}(h:yE sz R w X v xs)(hs:Stp X w X' w'):yE sz R w' X' v xs:=by
 obtain⟨a,g,rfl,h1,h2,h3⟩:=h;refine⟨a,g,rfl,h1,h2,fun k x hk=>?_⟩;obtain⟨b,o,l,c,d,j⟩:=h3 k x hk;exact⟨b,o,l,Jy c hs.size,hs.not c d,i _ _ _ _ _ _ _ c d hs j⟩
theorem yE.nil{α:Type}{sz:Nat}{R:World->(Nat->Prop)->Nat->Nat->α->Prop}:yE sz R w X (L) []:=
 ⟨none,0,rfl,Je _,by omega,fun k x hk=>by simp at hk⟩
theorem yE.form{α:Type}{sz:Nat}{R:World->(Nat->Prop)->Nat->Nat->α->Prop}{v:Value}{xs:List α}(h:yE sz R w X v xs):∃a cap,v=.slice a xs.length cap/\xs.length<=cap/\cap<=9223372036854775807:=
 let⟨a,cap,e,h1,h2,_⟩:=h;⟨a,cap,e,h1,h2⟩
theorem yE.to{α:Type}{sz:Nat}{R:World->(Nat->Prop)->Nat->Nat->α->Prop}{S:World->Nat->Nat->Nat->α->Prop}{v:Value}{xs:List α}(h:yE sz R w X v xs)(c:∀b q x,R w X b q x->S w w.heap.size b q x):yN sz S w w.heap.size v xs:=by
 obtain⟨a,d,rfl,h1,h2,h3⟩:=h;refine⟨a,d,rfl,h1,h2,fun k x hk=>?_⟩;obtain⟨b,o,j,i,_,g⟩:=h3 k x hk;exact⟨b,o,j,i,c _ _ _ g⟩
def IntG (w:World)(X:Nat->Prop)(b q:Nat)(x:Int):Prop:=A w b q (U x)/\I64 x
theorem ro:rP IntG:=fun X w X' w' b q x _ hx hs h=>⟨hs.cell h.1 hx,h.2⟩
abbrev wm:=yE 1 IntG
def EdgeG (w:World)(X:Nat->Prop)(b q:Nat)(x:IEdge):Prop:=A w b q (U x.block)/\I64 x.block/\∃av,A w b (q+1) av/\wm w X av x.args
theorem yq:rP EdgeG:=fun X w X' w' b q x _ hx hs h=>by
 obtain⟨h1,h2,av,h3,c⟩:=h;exact⟨hs.cell h1 hx,h2,av,hs.cell h3 hx,c.step ro hs⟩
abbrev vT:=yE 2 EdgeG
theorem wm.to{v:Value}(h:wm w X v xs):zY w w.heap.size v xs:=yE.to h fun _ _ _ h=>h
theorem vT.to{v:Value}{xs:List IEdge}(h:vT w X v xs):wH w w.heap.size v xs:=yE.to h fun _ _ _ h=>by
 obtain⟨h1,h2,av,h3,c⟩:=h;exact⟨h1,h2,av,h3,wm.to c⟩
theorem rO{S:Nat}{v:Value}{n:Nat}(h:w.ownsRow S 3 1 v n (xs.map zN))(j:xs.length=n)(i:∀x∈xs,I64 x)(l:∀k,v.ownBlock=some k->¬X k):wm w X v xs:=by
 subst j;obtain⟨a,c,rfl⟩:=zG h;have hl:=zm h;refine⟨a,c,rfl,hl.1,by omega,fun k x hk=>?_⟩;have m:=(Jh.1 hk).1;obtain⟨g,o,e,hg,d⟩:=h.form Zo;cases e;refine⟨g,0,rfl,d,l g rfl,?_,i x (Ji hk)⟩;rw[Nk,Ng];exact(h.cellAt k Zo).trans (by rw[Jr,hk];rfl)
theorem ki{b:Nat}{e:TypeId}(h:Q w b (xs.map fun x=>U x).toArray e)(c:¬X b)(h64:∀x∈xs,I64 x)(hl:xs.length<=1000000):wm w X (T b xs.length xs.length) xs:=by
 refine⟨_,xs.length,rfl,Je _,by omega,fun k x hk=>⟨b,0,rfl,lt_of_block h,c,?_,h64 x (Ji hk)⟩⟩;rw[Ng,Nk];exact zA h (by simp[hk])
theorem ld{S:Nat}{v:Value}{l:List (IEdge×Value)}(h:w.ownsRow S 79 2 v l.length (l.flatMap za))(h64:∀q∈l,I64 q.1.block/\wm w X q.2 q.1.args)(m:∀k,v.ownBlock=some k->¬X k):vT w X v (l.map (·.1)):=by
 obtain⟨a,c,rfl⟩:=zG h;have hl:=zm h;refine⟨a,c,by rw[Nr],by rw[Nr];exact hl.1,by omega,fun k o hk=>?_⟩;rw[Jr,Oz] at hk;obtain⟨q,hq,rfl⟩:=hk;have t:=(Jh.1 hq).1;obtain⟨g,u,e,hg,hb⟩:=h.form Zo;cases e
 have i:∀j v,(za q)[j]? =some v->A w g (0+k*2+j) v:=fun j v hj=>by
  have d:j<2:=(Jh.1 hj).1;rw[Ng];exact(h.cellAt (k*2+j) Zo).trans ((uB za 2 (fun _=>rfl) l k q hq j d).trans hj)
 obtain⟨h1,h2⟩:=h64 q (Ji hq);exact⟨g,0,rfl,hb,m g rfl,i 0 _ rfl,h1,q.2,i 1 _ rfl,h2⟩
theorem qt{b:Nat}{l:List (IEdge×Value)}{e:TypeId}(h:Q w b (l.flatMap za).toArray e)(d:¬X b)(h64:∀q∈l,I64 q.1.block/\wm w X q.2 q.1.args)(hl:l.length<=1000000):
 vT w X (T b l.length l.length) (l.map (·.1)):=by
 refine⟨_,l.length,by rw[Nr],by rw[Nr];exact Je _,by omega,fun k o hk=>?_⟩;rw[Jr,Oz] at hk;obtain⟨q,hq,rfl⟩:=hk;have c:=fun j v (hj:(za q)[j]? =some v)=>oW (f:=za) (n:=2) (fun _=>rfl) h hq hj
 obtain⟨h1,h2⟩:=h64 q (Ji hq);exact⟨b,0,rfl,lt_of_block h,d,c 0 _ rfl,h1,q.2,c 1 _ rfl,h2⟩
structure MKC where
 E:ME
 sv:Value
 fpv:Value
 apv:Value
 dv:Value
 bv:Value
 pm:Nat
 pp:Nat
 B:Nat
 Z:Nat->Prop
def MKC.av (K:MKC)(X:Nat->Prop):Nat->Prop:=fun k=>X k∨K.Z k
variable {K:MKC}
theorem Stp.av(h:Stp X w X' w')(K:MKC):Stp (K.av X) w (K.av X') w':=
 ⟨h.os,h.tape,h.output,h.size,fun k hk=>hk.elim (fun e=>(h.new k e).elim (fun e=> .inl (.inl e)) .inr) (fun e=> .inl (.inr e)),fun k hk hx=>h.kept k hk (fun e=>hx (.inl e))⟩
structure BM where
 b:IBlk
 pv:Value
 ov:Value
 tv:Value
 ol:List (IOp×Value)
variable {l:List BM}
def xG (q:BM):List Value:=[q.pv,q.ov,U q.b.term.kind,U q.b.term.a,q.tv]
structure BMOk (w:World) (K:MKC) (X:Nat->Prop) (q:BM):Prop where
 k64:I64 q.b.term.kind/\I64 q.b.term.a
 par:wm w (K.av X) q.pv q.b.params
 ops:q.b.ops=q.ol.map (·.1)
 own:w.ownsRow K.B 76 6 q.ov q.ol.length (q.ol.flatMap zU)
 arg:∀o∈q.ol,qN o.1/\wm w (K.av X) o.2 o.1.args
 tos:vT w (K.av X) q.tv q.b.term.to
 inX:∀k,q.ov.ownBlock=some k->X k
theorem BMOk.step {w w':World}{K:MKC}{X X':Nat->Prop}{q:BM}(h:BMOk w K X q)(hs:Stp X w X' w')(hk:∀k,q.ov.ownBlock=some k->w'.heap[k]? =w.heap[k]?)(c:∀k,X k->X' k):BMOk w' K X' q:=
 ⟨h.k64,h.par.step ro (hs.av K),h.ops,yD h.own hk,fun o ho=>⟨(h.arg o ho).1,(h.arg o ho).2.step ro (hs.av K)⟩,h.tos.step yq (hs.av K),fun k hk=>c k (h.inX k hk)⟩
def uC (K:MKC)(M:MS)(fv vv:Value):Array Value:=
 #[K.sv,U (M.pos:Int),F K.pp,U (K.E.me:Int),fv,U (M.cur:Int),U (M.next:Int),vv,U M.left]
structure MkEnv (w:World) (K:MKC) (X:Nat->Prop):Prop where
 s:zY w K.B K.sv K.E.s
 fpv:∃a c,K.fpv=.slice a K.E.nf c
 prog:w.heap[K.pp]? =some (.cells #[K.fpv,K.apv,.int .i64 0,.int .i64 K.E.handler,K.dv,K.bv] 29 (0,0))
 args:wm w (K.av X) K.apv K.E.args
 data:∃b,K.dv=.slice (some ⟨b,0,none⟩) 3 3/\¬K.av X b/\w.heap[b]? =some (.cells #[.int .i64 (-1),.int .u16 16384,.int .u16 16,.int .i64 (-1),.int .u16 16640,.int .u16 7,.int .i64 0,.int .u16 128,.int .u16 32] 89 (0,0))
 ppX:¬K.av X K.pp
 h64:I64 K.E.handler
 len:K.E.args.length=K.E.nf
 nf:K.E.nf<=4/\K.E.me<K.E.nf
 alt:∀x∈K.E.args,0<=x/\x<4
 zx:∀k,X k->¬K.Z k
 zl:∀k,K.Z k->k<w.heap.size
theorem MkEnv.step {w w':World}{K:MKC}{X X':Nat->Prop}(h:MkEnv w K X)(hs:Stp X w X' w')(hb:Below K.B w w'):MkEnv w' K X':=by
 obtain⟨b,e1,e2,e3⟩:=h.data;have c:=hs.av K;exact⟨h.s.below zO hb,h.fpv,c.blk h.prog h.ppX,h.args.step ro c,⟨b,e1,c.not (lt_of_block e3) e2,c.blk e3 e2⟩,c.not (lt_of_block h.prog) h.ppX,h.h64,h.len,h.nf,h.alt,fun k e=>(hs.new k e).elim (h.zx k) (fun e2 e3=>by have:=h.zl k e3;omega),fun k e=>Jy (h.zl k e) hs.size⟩
structure MkIn (w:World) (K:MKC) (X:Nat->Prop) (M:MS) (fv vv:Value) (l:List BM):Prop where
 blk:w.heap[K.pm]? =some (.cells (uC K M fv vv) 128 (0,0))
 own:w.ownsRow K.B 84 5 fv l.length (l.flatMap xG)
 fl:M.f=l.map (·.b)
 bok:∀q∈l,BMOk w K X q
 apart:∀(i j:Nat) (qi qj:BM) (k:Nat),l[i]? =some qi->l[j]? =some qj->qi.ov.ownBlock=some k->qj.ov.ownBlock=some k->i=j
 vown:w.ownsRow K.B 3 1 vv M.vals.length (M.vals.map zN)
 v64:∀x∈M.vals,I64 x
 xm:X K.pm
 xf:∀k,fv.ownBlock=some k->X k
 xv:∀k,vv.ownBlock=some k->X k
 xB:∀k,X k->K.B<=k
 xl:∀k,X k->k<w.heap.size
 env:MkEnv w K X
 bnd:M.sz<=1000000
 lft:6<=M.left+M.pos/\M.left<=6
def wW (w:World)(K:MKC)(X:Nat->Prop)(M:MS):Prop:=∃fv vv l,MkIn w K X M fv vv l
section
variable {w:World} {K:MKC} {X:Nat->Prop} {M:MS} {fv vv:Value} {l:List BM} (h:MkIn w K X M fv vv l)
include h
theorem MkIn.c0:A w K.pm 0 K.sv:=zA h.blk rfl
theorem MkIn.c1:A w K.pm 1 (U (M.pos:Int)):=zA h.blk rfl
theorem MkIn.c2:A w K.pm 2 (F K.pp):=zA h.blk rfl
theorem MkIn.c3:A w K.pm 3 (U (K.E.me:Int)):=zA h.blk rfl
theorem MkIn.c4:A w K.pm 4 fv:=zA h.blk rfl
theorem MkIn.c5:A w K.pm 5 (U (M.cur:Int)):=zA h.blk rfl
theorem MkIn.c6:A w K.pm 6 (U (M.next:Int)):=zA h.blk rfl
theorem MkIn.c7:A w K.pm 7 vv:=zA h.blk rfl
theorem MkIn.c8:A w K.pm 8 (U M.left):=zA h.blk rfl
theorem MkIn.free (i:Nat):N w K.pm i:=zE h.blk
theorem MkIn.size:K.B<=w.heap.size:=Jn (h.xB _ h.xm) (Qd (h.xl _ h.xm))
theorem MkIn.keep(hb:Y w w'):MkIn w' K X M fv vv l:=
 have hs:Stp X w X w':=Stp.of_below hb;have hk:∀ {v:Value} {e:TypeId} {sz n:Nat} {xs:List Value},w.ownsRow K.B e sz v n xs->∀k,v.ownBlock=some k->w'.heap[k]? =w.heap[k]?:=fun ho k hk=>hb.block k (ho.lt k hk).2
 ⟨zH hb h.blk (lt_of_block h.blk),yD h.own (hk h.own),h.fl,fun q hq=>(h.bok q hq).step hs (hk (h.bok q hq).own) (fun _ e=>e),h.apart,yD h.vown (hk h.vown),h.v64,h.xm,h.xf,h.xv,h.xB,fun k e=>Jy (h.xl k e) hb.size,
  h.env.step hs (hb.mono h.size),h.bnd,h.lft⟩
theorem MkIn.setC (i:Nat)(u:Value)(M':MS)(vv':Value)(j:(uC K M fv vv).setIfInBounds i u=uC K M' fv vv')(hf:M'.f=M.f)(hv:w.ownsRow K.B 3 1 vv' M'.vals.length (M'.vals.map zN))(h64:∀x∈M'.vals,I64 x)(g:∀k,vv'.ownBlock=some k->X k)
 (d:M'.sz<=1000000) (hl:6<=M'.left+M'.pos/\M'.left<=6):MkIn (w.setCell ⟨K.pm,i,none⟩ u) K X M' fv vv' l/\Stp X w X (w.setCell ⟨K.pm,i,none⟩ u):=by
 have hs:Stp X w X (w.setCell ⟨K.pm,i,none⟩ u):=⟨rfl,rfl,rfl,by simp,fun _ h=> .inl h,fun k hk hx=>Below.heap_setCell _ _ _ _ (fun e=>hx (by rw[e];exact h.xm))⟩
 have c:∀ {v:Value} {e:TypeId} {sz n:Nat} {xs:List Value},w.ownsRow K.B e sz v n xs->e≠128->∀k,v.ownBlock=some k->(w.setCell ⟨K.pm,i,none⟩ u).heap[k]? =w.heap[k]?:=fun ho he k hk=>
  Below.heap_setCell _ _ _ _ (fun e=>zC ho h.blk (.inr he) (by rw[hk];exact congrArg some e))
 refine⟨⟨?_,yD h.own (c h.own Zd),hf.trans h.fl,fun q hq=>(h.bok q hq).step hs (c (h.bok q hq).own Zd) (fun _ e=>e),h.apart,yD hv (c hv Zd),h64,h.xm,h.xf,g,h.xB,fun k e=>by simpa using h.xl k e,
  h.env.step hs ((Below.refl _ _).setCell (h.xB _ h.xm) _),d,hl⟩,hs⟩
 rw[zD h.blk,j]
end
def aav {α:Type}:List α->Nat->List α->List α
 |xs,_,[]=>xs
 |xs,o,v::vs=>aav (xs.set o v) (o+1) vs
theorem mV {α:Type}:∀(vs:List α) (xs:List α) (o:Nat),(aav xs o vs).length=xs.length
 | [],xs,o=>rfl
 |v::vs,xs,o=>(mV vs _ _).trans Zs
theorem ahN {α:Type}(m:Nat):∀(vs:List α) (xs:List α) (o:Nat),(aav xs o vs).take m=aav (xs.take m) o vs
 | [],xs,o=>rfl
 |v::vs,xs,o=>(ahN m vs _ _).trans (by rw[List.take_set];rfl)
theorem fV {α:Type}:∀(vs p q r:List α),q.length=vs.length->aav (p++(q++r)) p.length vs=p++(vs++r)
 | [],p,[],r,_=>rfl
 |v::vs,p,x::q,r,h=>by
  have e:(p++(x::q++r)).set p.length v=(p++ [v])++(q++r):=by
   rw[Uj _ _ (Je _)];simp
  show aav ((p++(x::q++r)).set p.length v) (p.length+1) vs=_
  rw[e];have:=fV vs (p++ [v]) q r (by simpa using h);rw[Jk,Ju] at this;rw[this]
  simp
 | [],p,x::q,r,h=>by simp at h
 |v::vs,p,[],r,h=>by simp at h
theorem aeS {α:Type}(f:α->List Value)(n:Nat)(hf:∀a,(f a).length=n):∀l:List α,(l.flatMap f).length=l.length*n
 | []=>by simp
 |a::l=>by rw[Qa,Jk,hf,aeS f n hf l,Nq,Nat.add_mul];omega
theorem js {α:Type}(f:α->List Value)(n:Nat)(hf:∀a,(f a).length=n)(l:List α)(k:Nat)(b a:α)(hk:l[k]? =some b):aav (l.flatMap f) (k*n) (f a)=(l.set k a).flatMap f:=by
 have c:=(Jh.1 hk).1;have hb:l[k]=b:=(Jh.1 hk).2
 have e1:l=l.take k++b::l.drop (k+1):=by
  rw[<-hb,Ue,Qi]
 have hl:(l.take k).length=k:=by simp;omega
 have e2:l.set k a=l.take k++a::l.drop (k+1):=by
  rw[List.set_eq_take_append_cons_drop,if_pos c]
 rw[e2]
 have e3:l.flatMap f=(l.take k).flatMap f++(f b++(l.drop (k+1)).flatMap f):=by
  conv=>lhs;rw[e1]
  rw[Nx,Qa]
 have d:((l.take k).flatMap f).length=k*n:=by rw[aeS f n hf,hl]
 rw[e3,Nx,Qa,<-d];exact fV _ _ _ _ (by rw[hf,hf])
theorem th (b:Nat)(t:TypeId):∀(vs:List Value) (o:Nat) (w:World) (cur:Array Value),Q w b cur t->Q (w.setCells b o vs) b (aav cur.toList o vs).toArray t
 | [],o,w,cur,h=>by simpa[aav,World.setCells] using h
 |v::vs,o,w,cur,h=>by
  have:=th b t vs (o+1) (w.setCell ⟨b,o,none⟩ v) _ (zD h v);rw[Array.toList_setIfInBounds] at this;exact this
theorem ye (b k:Nat)(hne:k≠b):∀(vs:List Value) (o:Nat) (w:World),(w.setCells b o vs).heap[k]? =w.heap[k]?
 | [],o,w=>rfl
 |v::vs,o,w=>(ye b k hne vs (o+1) _).trans (Below.heap_setCell _ _ _ _ (by simpa using hne))
theorem y8 (b:Nat):∀(vs:List Value) (o:Nat) (w:World),(w.setCells b o vs).heap.size=w.heap.size
 | [],_,_=>rfl
 |v::vs,o,w=>(y8 b vs (o+1) _).trans Zs
theorem ze (b:Nat):∀(vs:List Value) (o:Nat) (w:World),(w.setCells b o vs).os=w.os/\(w.setCells b o vs).tape=w.tape/\(w.setCells b o vs).output=w.output
 | [],_,_=>⟨rfl,rfl,rfl⟩
 |v::vs,o,w=>ze b vs (o+1) _
section
variable {α:Type} {f:α->List Value} {n:Nat} {w:World} {base g:Nat} {e:TypeId} {v:Value} {l:List α} {k:Nat} {b:α}
theorem wb (hf:∀a,(f a).length=n)(h:w.ownsRow base e n v l.length (l.flatMap f))(hg:v.ownBlock=some g)(hk:l[k]? =some b):w.rangeAt g (k*n) (f b):=fun j u hj=>by
 have c:j<n:=by rw[<-hf b];exact(Jh.1 hj).1
 have h1:=h.cells hg (k*n+j) u ((uB f n hf l k b hk j c).trans hj);rw[Addr.add_mid,Ng] at h1;exact h1
theorem zq (m:0<n)(hf:∀a,(f a).length=n)(h:w.ownsRow base e n v l.length (l.flatMap f))(hg:v.ownBlock=some g)(hk:l[k]? =some b):w.there g (k*n) n:=fun j hj=>by
 refine⟨?_,?_⟩
 ·obtain⟨u,c⟩:∃u,(f b)[j]? =some u:=⟨_,Jd (by rw[hf];exact hj)⟩
  rw[wb hf h hg hk j u c];rfl
 ·rcases h.2 with⟨rfl,_⟩|⟨g',i,cur,rfl,_,d,_⟩
  ·simp[Value.ownBlock] at hg
  ·simp[Value.ownBlock] at hg;subst hg;exact zE d
theorem uZ (hf:∀a,(f a).length=n)(h:w.ownsRow base e n v l.length (l.flatMap f))(hg:v.ownBlock=some g)(hk:l[k]? =some b)(a:α):(w.setCells g (k*n) (f a)).ownsRow base e n v l.length ((l.set k a).flatMap f):=by
 refine⟨by rw[aeS f n hf,Nd],?_⟩;rcases h.2 with⟨rfl,_⟩|⟨g',c,cur,rfl,h1,h2,h3,j,i,d⟩
 ·simp[Value.ownBlock] at hg
 ·simp[Value.ownBlock] at hg;subst hg;refine .inr ⟨g',c,_,rfl,h1,th _ _ _ _ _ _ h2,h3,j,?_,?_⟩
  ·rw[List.size_toArray,mV];simpa using i
  ·rw[ahN,d];exact js f n hf l k b a hk
end
structure Row where
 v:Value
 e:TypeId
 sz:Nat
 n:Nat
 cs:List Value
def Row.blk (r:Row):Option Nat:=r.v.ownBlock
variable {rs rs':List Row}{r':Row}
structure Rows (w:World) (B:Nat) (rs:List Row):Prop where
 own:∀r∈rs,w.ownsRow B r.e r.sz r.v r.n r.cs
 nd:(rs.filterMap Row.blk).Nodup
theorem Rows.perm{B:Nat}(h:Rows w B rs)(hp:rs.Perm rs'):Rows w B rs':=
 ⟨fun r hr=>h.own r (hp.mem_iff.2 hr),(hp.filterMap Row.blk).nodup_iff.1 h.nd⟩
theorem Rows.lt{B:Nat}(h:Rows w B rs)(hk:k∈rs.filterMap Row.blk):B<=k/\k<w.heap.size:=by
 obtain⟨r,hr,e⟩:=Nj.1 hk;exact(h.own r hr).lt k e
theorem Rows.keep{B:Nat}(h:Rows w B rs)(hk:∀k∈rs.filterMap Row.blk,w'.heap[k]? =w.heap[k]?):Rows w' B rs:=
 ⟨fun r hr=>yD (h.own r hr) (fun k e=>hk k (Nj.2 ⟨r,hr,e⟩)),h.nd⟩
theorem Rows.below{B:Nat}(h:Rows w B rs)(hb:Y w w'):Rows w' B rs:=h.keep fun k hk=>hb.block k (h.lt hk).2
theorem Rows.base{B B':Nat}(h:Rows w B rs)(hB:B'<=B):Rows w B' rs:=⟨fun r hr=>vY (h.own r hr) hB,h.nd⟩
theorem Rows.tail{B:Nat}{r:Row}(h:Rows w B (r::rs)):Rows w B rs:=by
 refine⟨fun x hx=>h.own x (List.mem_cons_of_mem _ hx),?_⟩;have:=h.nd;rw[List.filterMap_cons] at this
 split at this
 ·exact this
 ·exact(Qt.1 this).2
theorem Rows.right{B:Nat}(h:Rows w B (rs++rs')):Rows w B rs':=by
 induction rs with
 |nil=>exact h
 |cons r rs ih=>exact ih h.tail
theorem Rows.left{B:Nat}(h:Rows w B (rs++rs')):Rows w B rs:=(h.perm List.perm_append_comm).right
theorem Rows.apart{B:Nat}{r:Row}(h:Rows w B (r::rs))(hg:r.blk=some g):g ∉ rs.filterMap Row.blk:=by
 have:=h.nd;rw[List.filterMap_cons,hg] at this;exact(Qt.1 this).1
theorem Rows.cons{B:Nat}{r:Row}(h:Rows w B rs)(hr:w.ownsRow B r.e r.sz r.v r.n r.cs)(d:∀g,r.blk=some g->g ∉ rs.filterMap Row.blk):Rows w B (r::rs):=by
 refine⟨fun x c=>?_,?_⟩
 ·rcases Jq.1 c with rfl|c
  ·exact hr
  ·exact h.own x c
 ·rw[List.filterMap_cons]
  split
  ·exact h.nd
  ·rename_i g hg
   exact Qt.2 ⟨d g hg,h.nd⟩
theorem Rows.nil{B:Nat}:Rows w B []:=⟨fun r hr=>by simp at hr,by simp⟩
theorem Rows.append{B:Nat}(h:Rows w B rs)(c:Rows w' w.heap.size rs')(hb:Y w w')(hB:B<=w.heap.size):Rows w' B (rs'++rs):=by
 have h1:=h.below hb;have h2:=c.base hB;refine⟨fun r hr=>(Jl.1 hr).elim (h2.own r) (h1.own r),?_⟩;rw[List.filterMap_append];refine Qq.2 ⟨c.nd,h.nd,fun a ha b hb' e=>?_⟩;have e1:=(c.lt ha).1;have e2:=(h.lt hb').2;omega
theorem Rows.grow{B:Nat}{r:Row}(h:Rows w B (r::rs))(hb:Y w w1)(hg:w1.grownBy w' r.blk)(c:w'.ownsRow B r'.e r'.sz r'.v r'.n r'.cs)(d:∀k,r'.blk=some k->r.blk=some k∨w.heap.size<=k):Rows w' B (r'::rs):=by
 have ht:Rows w' B rs:=h.tail.keep fun k hk=>(hg.block k (Jy (h.tail.lt hk).2 hb.size) (fun e=>h.apart e.symm hk)).trans (hb.block k (h.tail.lt hk).2)
 refine ht.cons c fun g e hg2=>?_
 rcases d g e with e2|e2
 ·exact h.apart e2 hg2
 ·have:=(h.tail.lt hg2).2;omega
theorem Rows.put{B:Nat}{r:Row}(h:Rows w B (r::rs))(hg:r.blk=some g)(hk:∀k,k≠g->w'.heap[k]? =w.heap[k]?)(c:w'.ownsRow B r'.e r'.sz r'.v r'.n r'.cs)(hv:r'.v=r.v):Rows w' B (r'::rs):=by
 have ht:Rows w' B rs:=h.tail.keep fun k hk2=>hk k (fun e=>h.apart hg (by rw[<-e];exact hk2))
 refine ht.cons c fun g2 e hg2=>?_
 refine h.apart (g:=g2) ?_ hg2;unfold Row.blk at e ⊢;rw[<-hv];exact e
structure BT where
 params:List Int
 pv:Value
 ops:List (IOp×Value)
 ov:Value
 kind:Int
 a:Int
 tos:List (IEdge×Value)
 tv:Value
structure FT where
 blks:List BT
 bv:Value
structure PT where
 funcs:List FT
 fv:Value
 args:List Int
 av:Value
 data:List IObj
 dv:Value
 banks:List ByteArray
 bv:Value
 entry:Int
 handler:Int
def BT.blk (b:BT):IBlk:=⟨b.params,b.ops.map (·.1),⟨b.kind,b.a,b.tos.map (·.1)⟩⟩
def zz (b:BT):List Value:=[b.pv,b.ov,U b.kind,U b.a,b.tv]
def FT.fn (f:FT):List IBlk:=f.blks.map BT.blk
def PT.prog (t:PT):IProg:=⟨t.funcs.map FT.fn,t.args,t.entry,t.handler,t.data,t.banks⟩
def PT.V (t:PT):PV:=⟨t.fv,t.av,t.dv,t.bv⟩
def zP (v:Value)(xs:List Int):Row:=⟨v,3,1,xs.length,xs.map zN⟩
def ma (v:Value)(l:List (IOp×Value)):Row:=⟨v,76,6,l.length,l.flatMap zU⟩
def xg (v:Value)(l:List (IEdge×Value)):Row:=⟨v,79,2,l.length,l.flatMap za⟩
def zd (v:Value)(l:List BT):Row:=⟨v,84,5,l.length,l.flatMap zz⟩
def xP (o:IObj):List Value:=[U o.bank,O (o.addr:Int),O (o.size:Int)]
def wY (v:Value)(l:List FT):Row:=⟨v,39,1,l.length,l.map (·.bv)⟩
def vK (v:Value)(l:List IObj):Row:=⟨v,89,3,l.length,l.flatMap xP⟩
def v8 (v:Value)(l:List ByteArray):Row:=⟨v,9,1,l.length,l.map .string⟩
def wI (l:List (IOp×Value)):List Row:=l.map fun o=>zP o.2 o.1.args
def ve (l:List (IEdge×Value)):List Row:=l.map fun o=>zP o.2 o.1.args
def BT.rows (b:BT):List Row:=zP b.pv b.params::ma b.ov b.ops::xg b.tv b.tos::(wI b.ops++ve b.tos)
def FT.rows (f:FT):List Row:=zd f.bv f.blks::f.blks.flatMap BT.rows
def PT.rows (t:PT):List Row:=wY t.fv t.funcs::zP t.av t.args::vK t.dv t.data::v8 t.bv t.banks::t.funcs.flatMap FT.rows
structure B64 (b:IBlk):Prop where
 par:∀x∈b.params,I64 x
 ops:∀o∈b.ops,qN o/\∀x∈o.args,I64 x
 term:I64 b.term.kind/\I64 b.term.a
 tos:∀e∈b.term.to,I64 e.block/\∀x∈e.args,I64 x
structure P64 (p:IProg):Prop where
 funcs:∀f∈p.funcs,∀b∈f,B64 b
 args:∀x∈p.args,I64 x
 data:∀o∈p.data,I64 o.bank/\o.addr<65536/\o.size<65536
 banks:∀s∈p.banks,s.size<=9223372036854775807
 ent:I64 p.entry
 hnd:I64 p.handler
theorem wC{α β:Type}{sz:Nat}{f:β->List Value}{g:β->α}{R:World->Nat->Nat->Nat->α->Prop}(t:0<sz)(hf:∀a,(f a).length=sz){S:Nat}{e:TypeId}{v:Value}{l:List β}(h:w.ownsRow S e sz v l.length (l.flatMap f))
 (m:∀q∈l,∀b o,(∀j u,(f q)[j]? =some u->A w b (o+j) u)->R w w.heap.size b o (g q)):yN sz R w w.heap.size v (l.map g):=by
 obtain⟨a,c,rfl⟩:=zG h;have hl:=zm h;refine⟨a,c,by rw[Nr],by rw[Nr];exact hl.1,by omega,fun k o hk=>?_⟩;rw[Jr,Oz] at hk;obtain⟨q,hq,rfl⟩:=hk;have d:=(Jh.1 hq).1;obtain⟨gg,x,e,hg,hb⟩:=h.form Zo;cases e;refine⟨gg,0,rfl,hb,m q (Ji hq) _ _ fun j u hj=>?_⟩;have i:j<sz:=by rw[<-hf q];exact(Jh.1 hj).1
 rw[Ng]
 exact(h.cellAt (k*sz+j) (by
  have:(k+1)*sz<=l.length*sz:=Qw sz d;rw[Nat.add_mul] at this
  omega)).trans ((uB f sz hf l k q hq j i).trans hj)
theorem pT{B:Nat}{v:Value}(h:w.ownsRow B 3 1 v xs.length (xs.map zN))(h64:∀x∈xs,I64 x):zY w w.heap.size v xs:=by
 have h2:w.ownsRow B 3 1 v xs.length (xs.flatMap fun x=> [zN x]):=by rw[<-Qh];exact h
 have:=wC (sz:=1) (f:=fun x:Int=> [zN x]) (R:=IntR) (g:=fun x:Int=>x) Zd (fun _=>rfl) h2 (fun q hq b o hc=>⟨hc 0 _ rfl,h64 q hq⟩);rw[List.map_id'] at this;exact this
theorem vp (q:IOp×Value):(zU q).length=6:=rfl
theorem yd (q:IEdge×Value):(za q).length=2:=rfl
theorem zX (q:BT):(zz q).length=5:=rfl
theorem sk (q:IObj):(xP q).length=3:=rfl
theorem BT.in{B:Nat}{b:BT}(h:∀r∈b.rows,w.ownsRow B r.e r.sz r.v r.n r.cs)(h64:B64 b.blk):zY w w.heap.size b.pv b.params/\mN w w.heap.size b.ov (b.ops.map (·.1))/\wH w w.heap.size b.tv (b.tos.map (·.1)):=by
 unfold BT.rows at h;refine⟨pT (h _ (.head _)) h64.par,?_,?_⟩
 ·refine wC Zd vp (h _ (.tail _ (.head _))) fun q hq b2 o hc=>?_
  have h1:=h64.ops q.1 (Oj hq);exact⟨hc 0 _ rfl,hc 1 _ rfl,hc 2 _ rfl,hc 3 _ rfl,hc 4 _ rfl,h1.1,q.2,hc 5 _ rfl,pT (h (zP q.2 q.1.args) (.tail _ (.tail _ (.tail _ (Jz _ (Oj hq)))))) h1.2⟩
 ·refine wC Zd yd (h _ (.tail _ (.tail _ (.head _)))) fun q hq b2 o hc=>?_
  have h1:=h64.tos q.1 (Oj hq);exact⟨hc 0 _ rfl,h1.1,q.2,hc 1 _ rfl,pT (h (zP q.2 q.1.args) (.tail _ (.tail _ (.tail _ (Qf _ (Oj hq)))))) h1.2⟩
theorem FT.in{B:Nat}{f:FT}(h:∀r∈f.rows,w.ownsRow B r.e r.sz r.v r.n r.cs)(h64:∀b∈f.fn,B64 b):wX w w.heap.size f.bv f.fn:=by
 unfold FT.rows at h;refine wC Zd zX (h _ (.head _)) fun q hq b2 o hc=>?_
 have hb:=h64 q.blk (Oj hq);have h1:=BT.in (w:=w) (B:=B) (b:=q) (fun r hr=>h r (.tail _ (Qx.2 ⟨q,hq,hr⟩))) hb;exact⟨hc 2 _ rfl,hc 3 _ rfl,hb.term,q.pv,q.ov,q.tv,hc 0 _ rfl,hc 1 _ rfl,hc 4 _ rfl,h1.1,h1.2.1,h1.2.2⟩
theorem PT.in{B:Nat}{t:PT}(h:Rows w B t.rows)(h64:P64 t.prog):ProgIn w w.heap.size t.V t.prog:=by
 have h:=h.own;unfold PT.rows at h;refine⟨?_,pT (h _ (.tail _ (.head _))) h64.args,?_,?_,h64.ent,h64.hnd⟩
 ·have h1:w.ownsRow B 39 1 t.fv t.funcs.length (t.funcs.flatMap fun f=> [f.bv]):=by rw[<-Qh];exact h _ (.head _)
  refine wC (sz:=1) (f:=fun f:FT=> [f.bv]) (g:=FT.fn) Zd (fun _=>rfl) h1 fun q hq b2 o hc=>?_
  exact⟨q.bv,hc 0 _ rfl,FT.in (B:=B) (fun r hr=>h r (.tail _ (.tail _ (.tail _ (.tail _ (Qx.2 ⟨q,hq,hr⟩)))))) (h64.funcs q.fn (Oj hq))⟩
 ·have:=wC (sz:=3) (f:=xP) (R:=ObjR) (g:=fun x:IObj=>x) Zd sk (h (vK t.dv t.data) (.tail _ (.tail _ (.head _)))) (fun q hq b o hc=>?_)
  ·rw[List.map_id'] at this;exact this
  ·have h1:=h64.data q hq;exact⟨hc 0 _ rfl,hc 1 _ rfl,hc 2 _ rfl,h1.1,h1.2.1,h1.2.2⟩
 ·have h1:w.ownsRow B 9 1 t.bv t.banks.length (t.banks.flatMap fun s=> [.string s]):=by rw[<-Qh];exact h _ (.tail _ (.tail _ (.tail _ (.head _))))
  have:=wC (sz:=1) (f:=fun s:ByteArray=> [.string s]) (R:=StrR) (g:=fun x:ByteArray=>x) Zd (fun _=>rfl) h1 (fun q hq b o hc=>⟨hc 0 _ rfl,h64.banks q hq⟩);rw[List.map_id'] at this;exact this
theorem vF{α:Type}{sz:Nat}{R:World->Nat->Nat->Nat->α->Prop}{B:Nat}{v:Value}{xs:List α}(h:yN sz R w B v xs){x:α}(c:x∈xs):∃b o,R w B b o x:=by
 obtain⟨k,hk⟩:=Ny c;obtain⟨a,d,rfl,_,_,h3⟩:=h;obtain⟨b,o,_,_,hr⟩:=h3 k x hk;exact⟨b,_,hr⟩
theorem rI{B:Nat}{v:Value}(h:zY w B v xs):∀x∈xs,I64 x:=fun x hx=>by
 obtain⟨b,o,hr⟩:=vF h hx;exact hr.2
theorem ProgIn.p64{B:Nat}{V:PV}{p:IProg}(h:ProgIn w B V p):P64 p:=by
 refine⟨fun f hf b hb=>?_,rI h.args,fun o ho=>?_,fun s hs=>?_,h.ent,h.hnd⟩
 ·obtain⟨x,y,bv,_,d⟩:=vF h.funcs hf;obtain⟨x,y,_,_,h3,pv,ov,tv,_,_,_,j,i,g⟩:=vF d hb;refine⟨rI j,fun o ho=>?_,h3,fun e he=>?_⟩
  ·obtain⟨x,y,_,_,_,_,_,k,av,_,c⟩:=vF i ho;exact⟨k,rI c⟩
  ·obtain⟨x,y,_,h2,av,_,c⟩:=vF g he;exact⟨h2,rI c⟩
 ·obtain⟨x,y,_,_,_,l⟩:=vF h.data ho;exact l
 ·obtain⟨x,y,h1,h2⟩:=vF h.banks hs;exact h2
def yk (K:MKC)(X:Nat->Prop)(w:World)(M':MS)(r:Value)(e:Ending)(w':World):Prop:=e=.returned r/\∃X',wW w' K X' M'/\Stp X w X' w'
theorem MkIn.at{fv:Value}(h:MkIn w K X M fv vv l):wW w K X M:=⟨fv,vv,l,h⟩
theorem MkIn.ticked{fv:Value}(h:MkIn w K X M fv vv l)(c:M.sz+1<=1000000):MkIn (w.setCell ⟨K.pm,1,none⟩ (U ((M.pos:Int)+1))) K X M.tick fv vv l/\Stp X w X (w.setCell ⟨K.pm,1,none⟩ (U ((M.pos:Int)+1))):=
 h.setC 1 _ M.tick vv rfl rfl h.vown h.v64 h.xv (by have:=(zT M).sz;omega) (by have:=h.lft;show 6<=M.left+((M.pos+1:Nat):Int)/\M.left<=6;omega)
theorem rK (x:Int)(n:Nat)(d:0<n)(c:n<=1000000):Int.tmod (wrap64 (Int.tmod x n+n)) n=((x%(n:Int)).toNat:Int):=by
 have h1:=Qv x (show(0:Int)<n by omega)
 have h2:-(n:Int)<Int.tmod x n:=by
  have:=Qu x (show(0:Int)<n by omega);omega
 have e:wrap64 (Int.tmod x n+n)=Int.tmod x n+n:=IntWalk.wrap64_in _ Zo;rw[e];have h3:=Ob x (show(n:Int)≠0 by omega);have g:=Int.emod_lt_of_pos x (show(0:Int)<n by omega)
 have e2:Int.tmod (Int.tmod x n+n) n=x%(n:Int):=by
  rw[Qc Zo,Int.add_emod_right]
  conv=>rhs;rw[<-Int.tmod_add_mul_tdiv x n]
  rw[Int.add_mul_emod_self_left]
 rw[e2];omega
theorem uD{fv:Value}(h:MkIn w K X M fv vv l){n:Nat}(k:0<n)(d:n<=1000000)(i:M.sz+1<=1000000):
 I 55 #[F K.pm,U n] w fun e w'=>e=.returned (U (tkV K.E M n:Nat))/\MkIn w' K X M.tick fv vv l/\Stp X w X w':=by
 have hs:=h.env.s;have c0:=h.c0;have c1:=h.c1;obtain⟨sa,sc,j,a1,a0⟩:=hs.form;rw[j] at c0 hs;have f1:=h.free 1;have c:=Ja (show ∀n,MkIn ((w.drewN n).setCell ⟨K.pm,1,none⟩ (U ((M.pos:Int)+1))) K X M.tick fv vv l/\Stp X w X ((w.drewN n).setCell ⟨K.pm,1,none⟩ (U ((M.pos:Int)+1))) from fun n=>⟨((h.keep (yL _ w n)).ticked i).1,(Stp.of_below (yL _ w n)).trans ((h.keep (yL _ w n)).ticked i).2⟩)
 have u:(M.pos:Int)+1<=1000000:=by
  have:M.pos<=M.sz:=by unfold MS.sz;omega
  omega
 clear h
 by_cases m:M.pos<K.E.s.length
 ·obtain⟨x,g⟩:∃x,K.E.s[M.pos]? =some x:=⟨_,Jd m⟩
  obtain⟨b,o,rfl,hb,y,h64⟩:=hs.get g;rw[Nk] at y;have hI:(M.pos:Int)<(K.E.s.length:Int):=Zo;have hv:tkV K.E M n=(x%(n:Int)).toNat:=by unfold tkV;rw[Jj,g];rfl
  have e1:=rK x n k d;rw[hv];have t:=Ja e1;clear hs g hb e1 hv;go_enter Tryz.func55,Tryz.ntmps55;go_wp2;go_quiet (fail);go_wp2;go_quiet (fail);go_wp2;go_ret;exact⟨zh t.out,(c.out _).1,(c.out _).2⟩
 ·have hI:¬(M.pos:Int)<(K.E.s.length:Int):=Zo;have hv:tkV K.E M n=((0:Int)%(n:Int)).toNat:=by unfold tkV;rw[Jj,Of Zo];rfl
  have e1:=rK 0 n k d;rw[hv];have t:=Ja e1;clear hs hv e1;go_enter Tryz.func55,Tryz.ntmps55;go_wp2;go_quiet (fail);go_wp2;go_ret;exact⟨zh Zs,(c.out _).1,(c.out _).2⟩
theorem m8(h:wW w K X M){n:Nat}(g:0<n)(c:n<=1000000)(d:M.sz+1<=1000000):
 I 55 #[F K.pm,U n] w (yk K X w M.tick (U (tkV K.E M n:Nat))):=by
 obtain⟨fv,vv,l,h⟩:=h;refine(uD h g c d).mono ?_;rintro e w' ⟨rfl,h1,h2⟩;exact⟨rfl,X,h1.at,h2⟩
theorem ahJ{fv:Value}(h:MkIn w K X M fv vv l)(d:M.sz+1<=1000000):
 I 110 #[F K.pm] w fun e w'=>e=.returned (U (M.next:Int))/\w'=w.setCell ⟨K.pm,6,none⟩ (U ((M.next+1:Nat):Int)):=by
 have c6:=h.c6;have f6:=h.free 6
 have g:(M.next:Int)+1<=1000000:=by
  have:M.next<=M.sz:=by unfold MS.sz;omega
  omega
 have hb:=h.blk;have c:A (w.setCell ⟨K.pm,6,none⟩ (U ((M.next:Int)+1))) K.pm 6 (U ((M.next:Int)+1)):=World.cell?_setCell_same _ _ _ c6;clear h hb;go_enter Tryz.func110,Tryz.ntmps110;go_wp2;go_ret;refine⟨zh Zo,?_⟩;rfl
theorem yr (q:BM):(xG q).length=5:=rfl
section
variable {w:World} {K:MKC} {X:Nat->Prop} {M:MS} {fv vv:Value} {l:List BM} (h:MkIn w K X M fv vv l)
include h
theorem MkIn.getB{b:IBlk}(hb:M.f[i]? =some b):∃q,l[i]? =some q/\q.b=b/\BMOk w K X q:=by
 rw[h.fl,Jr,Oz] at hb;obtain⟨q,hq,rfl⟩:=hb;exact⟨q,hq,rfl,h.bok q (Ji hq)⟩
theorem MkIn.len:l.length=M.f.length:=by rw[h.fl,Nr]
theorem MkIn.flen:M.f.length<=1000000:=by have:=h.bnd;unfold MS.sz at this;omega
theorem MkIn.fblk{q:BM}(hq:l[i]? =some q):∃g c,fv=T g l.length c/\X g/\g<w.heap.size/\g≠K.pm:=by
 have j:=(Jh.1 hq).1;obtain⟨a,c,e⟩:=zG h.own;rw[e];have ho:=h.own;rw[e] at ho;obtain⟨g,k,e2,hg,d⟩:=ho.form Zo;cases e2;exact⟨g,_,rfl,h.xf g (by rw[e];rfl),d,fun e3=>zC ho h.blk (.inr Zd) (by rw[<-e3];rfl)⟩
end
theorem MkIn.only{W:World}{fv:Value}(h:MkIn w K X M fv vv l)(d:w.heap.size<=W.heap.size)(ho:W.os=w.os/\W.tape=w.tape/\W.output=w.output)
 (hk:∀k,k<w.heap.size->k≠K.pm->W.heap[k]? =w.heap[k]?) (i:Q W K.pm (uC K M' fv vv) 128) (hf:M'.f=M.f) (hv:M'.vals=M.vals) (g:M'.sz<=1000000) (hl:6<=M'.left+M'.pos/\M'.left<=6):
 MkIn W K X M' fv vv l/\Stp X w X W:=by
 have hs:Stp X w X W:=⟨ho.1,ho.2.1,ho.2.2,d,fun _ h=> .inl h,fun k hk' hx=>hk k hk' (fun e=>hx (by rw[e];exact h.xm))⟩
 have c:∀ {v:Value} {e:TypeId} {sz n:Nat} {xs:List Value},w.ownsRow K.B e sz v n xs->e≠128->∀k,v.ownBlock=some k->W.heap[k]? =w.heap[k]?:=fun ho he k hk'=>
  hk k (ho.lt k hk').2 (fun e=>zC ho h.blk (.inr he) (by rw[hk',e]))
 exact⟨⟨i,yD h.own (c h.own Zd),hf.trans h.fl,fun q hq=>(h.bok q hq).step hs (c (h.bok q hq).own Zd) (fun _ e=>e),h.apart,by rw[hv];exact yD h.vown (c h.vown Zd),by rw[hv];exact h.v64,h.xm,h.xf,h.xv,h.xB,fun k e=>Jy (h.xl k e) d,
  h.env.step hs (hs.below h.xB h.size),g,hl⟩,hs⟩
theorem MkIn.turn{W:World}{fv:Value}(h:MkIn w K X M fv vv l){q q':BM}(hq:l[c]? =some q)(hg:fv.ownBlock=some g)
 (hs:Stp X w X' W) (m:∀k,X k->X' k) (a4:∀k,X' k->k<W.heap.size) (a5:∀k,X' k->K.B<=k)
 (hk:∀k,k<w.heap.size->X k->k≠g->q.ov.ownBlock≠some k->W.heap[k]? =w.heap[k]?)
 (a0:q.ov.ownBlock≠some K.pm) (u:W.ownsRow K.B 84 5 fv l.length ((l.set c q').flatMap xG)) (y:BMOk W K X' q')
 (t:∀(j:Nat) (qj:BM) (k:Nat),l[j]? =some qj->q'.ov.ownBlock=some k->qj.ov.ownBlock=some k->j=c) (hf:M'.f=M.f.set c q'.b) (hM:M'.pos=M.pos/\M'.cur=M.cur/\M'.next=M.next/\M'.vals=M.vals/\M'.left=M.left) (hz:M'.sz<=1000000):
 MkIn W K X' M' fv vv (l.set c q'):=by
 have x:=(Jh.1 hq).1;have a1:K.pm≠g:=fun e=>zC h.own h.blk (.inr Zd) (by rw[hg,e])
 obtain⟨m1,m2,m3,m4,m5⟩:=hM;have o:uC K M' fv vv=uC K M fv vv:=by unfold uC;rw[m1,m2,m3,m5]
 have a2:∀k,vv.ownBlock=some k->k≠g/\q.ov.ownBlock≠some k:=fun k hk=>by
  obtain⟨_,_,hx⟩:=zG h.vown;refine⟨fun e=>?_,fun e=>?_⟩
  ·rcases zo h.vown h.own Zd with h1|h1
   ·rw[h1] at hk;cases hk
   ·exact h1 (by rw[hk,hg,e])
  ·rcases zo h.vown (h.bok q (Ji hq)).own Zd with h1|h1
   ·rw[h1] at hk;cases hk
   ·exact h1 (by rw[hk,e])
 have a3:∀j qj,l[j]? =some qj->j≠c->∀k,qj.ov.ownBlock=some k->k≠g/\q.ov.ownBlock≠some k:=fun j qj d hne k hk=>by
  refine⟨fun e=>?_,fun e=>hne (h.apart j c qj q k d hq hk e)⟩;rcases zo (h.bok qj (Ji d)).own h.own Zd with h1|h1
  ·rw[h1] at hk;cases hk
  ·exact h1 (by rw[hk,hg,e])
 refine⟨?_,by rw[Nd];exact u,by rw[hf,h.fl,Ox],fun p hp=>?_,fun i j qi qj k hi d hqi hqj=>?_,?_,by rw[m4];exact h.v64,m _ h.xm,fun k hk=>m _ (h.xf k hk),fun k hk=>m _ (h.xv k hk),a5,a4,h.env.step hs (hs.below h.xB h.size),hz,by rw[m5,m1];exact h.lft⟩
 ·rw[o,hk K.pm (lt_of_block h.blk) h.xm a1 a0];exact h.blk
 ·obtain⟨j,d⟩:=Ny hp;rw[Ov] at d
  by_cases e:c=j
  ·subst e;rw[if_pos rfl,if_pos x] at d;cases d;exact y
  ·rw[if_neg e] at d;refine(h.bok p (Ji d)).step hs (fun k hk'=>?_) m;obtain⟨h1,h2⟩:=a3 j p d (Ne.symm e) k hk';exact hk k (((h.bok p (Ji d)).own.lt k hk').2) ((h.bok p (Ji d)).inX k hk') h1 h2
 ·rw[Ov] at hi d
  by_cases ei:c=i
  ·rw[if_pos ei,if_pos x] at hi;cases hi
   by_cases ej:c=j
   ·omega
   ·rw[if_neg ej] at d;have:=t j qj k d hqi hqj;omega
  ·rw[if_neg ei] at hi
   by_cases ej:c=j
   ·rw[if_pos ej,if_pos x] at d;cases d;have:=t i qi k hi hqj hqi;omega
   ·rw[if_neg ej] at d;exact h.apart i j qi qj k hi d hqi hqj
 ·rw[m4];refine yD h.vown (fun k hk'=>?_);obtain⟨h1,h2⟩:=a2 k hk';exact hk k ((h.vown.lt k hk').2) (h.xv k hk') h1 h2
theorem MkIn.putV{fv vv':Value}(h:MkIn w K X M fv vv l)(hg:(w.alloc o).grownBy w3 vv.ownBlock){x:Int}
 (c:w3.ownsRow K.B 3 1 vv' (M.vals.length+1) (M.vals.map zN++ [zN x])) (t:∀k,vv'.ownBlock=some k->vv.ownBlock=some k∨w.heap.size<=k) (u:I64 x) (hz:M.sz+1<=1000000):
 MkIn (w3.setCell ⟨K.pm,7,none⟩ vv') K (fun k=>X k∨vv'.ownBlock=some k) {M with vals:=M.vals++ [x]} fv vv' l/\Stp X w (fun k=>X k∨vv'.ownBlock=some k) (w3.setCell ⟨K.pm,7,none⟩ vv'):=by
 have n1:=zC h.vown h.blk (.inr Zd);have i:=zL hg (zB h.blk) n1;have m:w.heap.size<=w3.heap.size:=by have:=hg.size;simp at this;omega
 have hk:∀k,k<w.heap.size->k≠K.pm->vv.ownBlock≠some k->(w3.setCell ⟨K.pm,7,none⟩ vv').heap[k]? =w.heap[k]?:=fun k hk hne hv=>
  (Below.heap_setCell w3 ⟨K.pm,7,none⟩ vv' k hne).trans ((hg.block k Zt (fun e=>hv e.symm)).trans (Below.heap_alloc w o k hk))
 have hs:Stp X w (fun k=>X k∨vv'.ownBlock=some k) (w3.setCell ⟨K.pm,7,none⟩ vv'):=
  ⟨hg.os,hg.tape,hg.output,by simpa using m,fun k hx'=>hx'.elim .inl (fun e=>(t k e).elim (fun e2=> .inl (h.xv k e2)) .inr),fun k hk' hxk=>hk k hk' (fun e=>hxk (by rw[e];exact h.xm)) (fun e=>hxk (h.xv k e))⟩
 have g:∀ {v:Value} {e:TypeId} {sz n:Nat} {xs:List Value},w.ownsRow K.B e sz v n xs->e≠3->e≠128->∀k,v.ownBlock=some k->(w3.setCell ⟨K.pm,7,none⟩ vv').heap[k]? =w.heap[k]?:=fun {v e sz n xs} ho h1 h2 k hk'=>by
  refine hk k (ho.lt k hk').2 (fun e3=>zC ho h.blk (.inr h2) (by rw[hk',e3])) (fun e3=>?_);rcases zo ho h.vown h1 with j|j
  ·rw[j] at hk';cases hk'
  ·exact j (by rw[hk',e3])
 refine⟨⟨?_,yD h.own (g h.own Zd Zd),h.fl,fun q hq=>(h.bok q hq).step hs (g (h.bok q hq).own Zd Zd) (fun _ e=> .inl e),h.apart,?_,?_,.inl h.xm,fun k e=> .inl (h.xf k e),fun k e=> .inr e,fun k e=>e.elim (h.xB k) (fun e2=>(c.lt k e2).1),fun k e=>?_,h.env.step hs (hs.below h.xB h.size),?_,h.lft⟩,hs⟩
 ·rw[zD i];rfl
 ·show(w3.setCell ⟨K.pm,7,none⟩ vv').ownsRow K.B 3 1 vv' (M.vals++ [x]).length ((M.vals++ [x]).map zN)
  rw[Jk,Ju,Js];exact ownsRow_setCell_other c (fun e=>zC c i (.inr Zd) (by simpa using e)) _
 ·intro y d;rcases Jl.1 d with d|d
  ·exact h.v64 y d
  ·rw[Jo] at d;subst d;exact u
 ·rcases e with e|e
  ·have:=h.xl k e;simp;omega
  ·have:=(c.lt k e).2;simpa using this
 ·unfold MS.sz at *;simp only[Jk,Ju];omega
theorem MkIn.putO{w6 W:World}{fv i:Value}(h:MkIn w K X M fv vv l){q:BM}{lb:Nat}(hq:l[c]? =some q)(hg:fv.ownBlock=some g)
 {W3:World} (m:Y w W3) (t:W3.grownBy w6 q.ov.ownBlock) {o:IOp} {av:Value} (x:w6.ownsRow K.B 76 6 i (q.ol.length+1) (q.ol.flatMap zU++zU (o,av)))
 (y:∀k,i.ownBlock=some k->q.ov.ownBlock=some k∨w.heap.size<=k) (a6:w.heap.size<=lb) {cs:Array Value} (a2:Q w6 lb cs 84)
 (hW:∃u,W=((w6.setCell ⟨lb,1,none⟩ u).drew.setCells g (c*5) (xG ⟨{q.b with ops:=q.b.ops++ [o]},q.pv,i,q.tv,q.ol++ [(o,av)]⟩)))
 (ho:qN o/\wm w (K.av X) av o.args) (hf:M'.f=M.f.set c {q.b with ops:=q.b.ops++ [o]}) (hM:M'.pos=M.pos/\M'.cur=M.cur/\M'.next=M.next/\M'.vals=M.vals/\M'.left=M.left) (hz:M'.sz<=1000000):
 ∃X',MkIn W K X' M' fv vv (l.set c ⟨{q.b with ops:=q.b.ops++ [o]},q.pv,i,q.tv,q.ol++ [(o,av)]⟩)/\Stp X w X' W:=by
 obtain⟨u,rfl⟩:=hW;have d:=h.bok q (Ji hq);have a0:=h.xf g hg;have a4:=h.xl g a0
 have hk:∀k,k<w.heap.size->k≠g->q.ov.ownBlock≠some k->((w6.setCell ⟨lb,1,none⟩ u).drew.setCells g (c*5) (xG ⟨{q.b with ops:=q.b.ops++ [o]},q.pv,i,q.tv,q.ol++ [(o,av)]⟩)).heap[k]? =w.heap[k]?:=fun k hk hne hv=>
  (ye g k hne _ _ _).trans ((Below.heap_setCell w6 ⟨lb,1,none⟩ u k (by show k≠lb;omega)).trans ((t.block k (by have:=m.size;omega) (fun e=>hv e.symm)).trans (m.block k hk)))
 have hs:Stp X w (fun k=>X k∨i.ownBlock=some k) ((w6.setCell ⟨lb,1,none⟩ u).drew.setCells g (c*5) (xG ⟨{q.b with ops:=q.b.ops++ [o]},q.pv,i,q.tv,q.ol++ [(o,av)]⟩)):=
  ⟨(ze g _ _ _).1.trans (t.os.trans m.os),(ze g _ _ _).2.1.trans (t.tape.trans m.tape),(ze g _ _ _).2.2.trans (t.output.trans m.output),by rw[y8];have:=m.size;have:=t.size;simp;omega,
   fun k hx'=>hx'.elim .inl (fun e=>(y k e).elim (fun e2=> .inl (d.inX k e2)) .inr),fun k hk' hxk=>hk k hk' (fun e=>hxk (by rw[e];exact a0)) (fun e=>hxk (d.inX k e))⟩
 have a1:∀k,i.ownBlock=some k->k≠lb/\k≠g:=fun k e=>⟨fun e2=>zC x a2 (.inr Zd) (by rw[e,e2]),fun e2=>by
  rcases y k e with e3|e3
  ·rcases zo d.own h.own Zd with h1|h1
   ·rw[h1] at e3;cases e3
   ·exact h1 (by rw[e3,hg,e2])
  ·omega⟩
 have a3:q.ov.ownBlock≠some g:=fun e=>by
  rcases zo d.own h.own Zd with h1|h1
  ·rw[h1] at e;cases e
  ·exact h1 (by rw[e,hg])
 have a5:(w6.setCell ⟨lb,1,none⟩ u).drew.ownsRow K.B 84 5 fv l.length (l.flatMap xG):=yD h.own (fun k e=>by
  have e2:k=g:=by rw[hg] at e;cases e;rfl
  subst e2
  exact(Below.heap_setCell w6 ⟨lb,1,none⟩ u k (by show k≠lb;omega)).trans ((t.block k (by have:=m.size;omega) (fun e3=>a3 e3.symm)).trans (m.block k a4)))
 refine⟨_,h.turn (M':=M') hq hg hs (fun k e=> .inl e) (fun k e=>?_) (fun k e=>e.elim (h.xB k) (fun e2=>(x.lt k e2).1)) (fun k hk' _ hne hv=>hk k hk' hne hv) (fun e=>zC d.own h.blk (.inr Zd) e) (uZ yr a5 hg hq _) ?_ (fun j qj k hj h1 h2=>?_) hf hM hz,hs⟩
 ·rcases e with e|e
  ·exact Jy (h.xl k e) hs.size
  ·rw[y8];have:=(x.lt k e).2;simpa using this
 ·refine⟨d.k64,d.par.step ro (hs.av K),by rw[Js,<-d.ops];rfl,?_,fun p hp=>?_,d.tos.step yq (hs.av K),fun k e=> .inr e⟩
  ·rw[Jk,Ju,Nx];refine yD (show w6.ownsRow K.B 76 6 i (q.ol.length+1) (q.ol.flatMap zU++ [(o,av)].flatMap zU) from x) (fun k e=>?_);obtain⟨e1,e2⟩:=a1 k e;exact(ye g k e2 _ _ _).trans (Below.heap_setCell w6 ⟨lb,1,none⟩ u k e1)
  ·rcases Jl.1 hp with hp|hp
   ·exact⟨(d.arg p hp).1,(d.arg p hp).2.step ro (hs.av K)⟩
   ·rw[Jo] at hp;subst hp;exact⟨ho.1,ho.2.step ro (hs.av K)⟩
 ·rcases y k h1 with e|e
  ·exact h.apart j c qj q k hj hq h2 e
  ·have:=((h.bok qj (Ji hj)).own.lt k h2).2;omega
theorem MkIn.putB{fv fv':Value}(h:MkIn w K X M fv vv l)(hg:(w.alloc o).grownBy w3 fv.ownBlock){b:IBlk}{pv:Value}(hb:b.ops=[]/\b.term=⟨0,0,[]⟩)
 (c:w3.ownsRow K.B 84 5 fv' (l.length+1) (l.flatMap xG++xG ⟨b,pv,L,L,[]⟩)) (a0:∀k,fv'.ownBlock=some k->fv.ownBlock=some k∨w.heap.size<=k) (u:wm w (K.av X) pv b.params) (hz:M.sz+1<=1000000):
 MkIn (w3.setCell ⟨K.pm,4,none⟩ fv') K (fun k=>X k∨fv'.ownBlock=some k) {M with f:=M.f++ [b]} fv' vv (l++ [⟨b,pv,.slice none 0 0,.slice none 0 0,[]⟩])/\Stp X w (fun k=>X k∨fv'.ownBlock=some k) (w3.setCell ⟨K.pm,4,none⟩ fv'):=by
 have n1:=zC h.own h.blk (.inr Zd);have t:=zL hg (zB h.blk) n1;have y:w.heap.size<=w3.heap.size:=by have:=hg.size;simp at this;omega
 have hk:∀k,k<w.heap.size->k≠K.pm->fv.ownBlock≠some k->(w3.setCell ⟨K.pm,4,none⟩ fv').heap[k]? =w.heap[k]?:=fun k hk hne hv=>
  (Below.heap_setCell w3 ⟨K.pm,4,none⟩ fv' k hne).trans ((hg.block k Zt (fun e=>hv e.symm)).trans (Below.heap_alloc w o k hk))
 have hs:Stp X w (fun k=>X k∨fv'.ownBlock=some k) (w3.setCell ⟨K.pm,4,none⟩ fv'):=
  ⟨hg.os,hg.tape,hg.output,by simpa using y,fun k hx'=>hx'.elim .inl (fun e=>(a0 k e).elim (fun e2=> .inl (h.xf k e2)) .inr),fun k hk' hxk=>hk k hk' (fun e=>hxk (by rw[e];exact h.xm)) (fun e=>hxk (h.xf k e))⟩
 have d:∀ {v:Value} {e:TypeId} {sz n:Nat} {xs:List Value},w.ownsRow K.B e sz v n xs->e≠84->e≠128->∀k,v.ownBlock=some k->(w3.setCell ⟨K.pm,4,none⟩ fv').heap[k]? =w.heap[k]?:=fun {v e sz n xs} ho h1 h2 k hk'=>by
  refine hk k (ho.lt k hk').2 (fun e3=>zC ho h.blk (.inr h2) (by rw[hk',e3])) (fun e3=>?_);rcases zo ho h.own h1 with x|x
  ·rw[x] at hk';cases hk'
  ·exact x (by rw[hk',e3])
 refine⟨⟨?_,?_,?_,fun q hq=>?_,fun i j qi qj k hi hj hqi hqj=>?_,yD h.vown (d h.vown Zd Zd),h.v64,.inl h.xm,fun k e=> .inr e,fun k e=> .inl (h.xv k e),fun k e=>e.elim (h.xB k) (fun e2=>(c.lt k e2).1),fun k e=>?_,h.env.step hs (hs.below h.xB h.size),?_,h.lft⟩,hs⟩
 ·rw[zD t];rfl
 ·rw[Jk,Ju,Nx];exact ownsRow_setCell_other (show w3.ownsRow K.B 84 5 fv' (l.length+1) (l.flatMap xG++ [(⟨b,pv,.slice none 0 0,.slice none 0 0,[]⟩:BM)].flatMap xG) from c) (fun e=>zC c t (.inr Zd) (by simpa using e)) _
 ·rw[Js,<-h.fl];rfl
 ·rcases Jl.1 hq with hq|hq
  ·exact(h.bok q hq).step hs (d (h.bok q hq).own Zd Zd) (fun _ e=> .inl e)
  ·rw[Jo] at hq;subst hq;refine⟨?_,u.step ro (hs.av K),hb.1,Jv _ _ _ _,(fun o ho=>by cases ho),?_,(fun k e=>by simp[Value.ownBlock] at e)⟩
   ·rw[hb.2];exact⟨⟨by decide,by decide⟩,⟨by decide,by decide⟩⟩
   ·rw[hb.2];exact yE.nil
 ·have g:∀(m:Nat) (qm:BM),(l++ [(⟨b,pv,.slice none 0 0,.slice none 0 0,[]⟩:BM)])[m]? =some qm->qm.ov.ownBlock=some k->l[m]? =some qm:=fun m qm hm hqm=>by
   by_cases e:m<l.length
   ·rwa [Np e] at hm
   ·rw[Nc Zo] at hm;have:m-l.length=0:=by have:=(Jh.1 hm).1;simp at this;omega
    rw[this] at hm;cases hm;simp[Value.ownBlock] at hqm
  exact h.apart i j qi qj k (g i qi hi hqi) (g j qj hj hqj) hqi hqj
 ·rcases e with e|e
  ·have:=h.xl k e;simp;omega
  ·have:=(c.lt k e).2;simpa using this
 ·have e:opsN [b]=0:=by unfold opsN;simp[hb.1]
  unfold MS.sz at *;simp only[Jk,Ju,ry,e];omega
theorem pN{b n:Nat}{l:List Nat}(h:Q w b (l.map bd).toArray 5)(hl:l.length=n):
 (convert 49 9 (T b n n)).run Tryz.prog w=.ok (.string (y9 l)) w:=by
 refine run_convert_bytes_arg w 49 5 Tryz.underlying49 Tryz.underlying5 b 0 n n (l.map fun(n:Nat)=>(n:Int)) (by simpa using hl) (fun i hi=>?_) 9 Tryz.underlying9;rw[Ng];have c:i<l.length:=Zo;refine zA h ?_;simp[Jj,Jd c,bd]
def aap (w:World)(s:ByteArray)(e:Ending)(w':World):Prop:=e=.returned (.string s)/\Y w w'
theorem aj3{v i k:Int}(h:rB d v i k=some d')(c:∀x b a,d.1 x=some b->d.2 x=some a->W x b a)(hv:W v i k):∀x b a,d'.1 x=some b->d'.2 x=some a->W x b a:=by
 unfold rB at h
 split at h
 ·cases h
 ·cases h;intro x b a h1 h2
  change lS d.1 v i x=some b at h1
  change lS d.2 v k x=some a at h2
  unfold lS at h1 h2
  by_cases e:x=v
  ·rw[if_pos e] at h1 h2;cases h1;cases h2;rw[e];exact hv
  ·rw[if_neg e] at h1 h2;exact c x b a h1 h2
theorem aiQ{i:Int}:∀(l:List Int) (d d':wO),vJ i l d=some d'->(∀x b a,d.1 x=some b->d.2 x=some a->W x b a)->(∀v∈l,W v i (-1))->∀x b a,d'.1 x=some b->d'.2 x=some a->W x b a
 | [],d,d',h,hW,_=>by cases h;exact hW
 |v::l,d,d',h,hW,hl=>by
  unfold vJ at h
  cases h1:rB d v i (-1) with
  |none=>rw[h1] at h;cases h
  |some d1=>
   rw[h1,Nw] at h;exact aiQ l d1 d' h (aj3 h1 hW (hl v (.head _))) fun u hu=>hl u (.tail _ hu)
theorem aiE{p:IProg}{i:Int}:∀(l:List IOp) (k:Int) (d d':wO),sS p i l k d=some d'->(∀x b a,d.1 x=some b->d.2 x=some a->W x b a)->(∀(j:Nat) o,l[j]? =some o->0<=o.res->W o.res i (k+j))->∀x b a,d'.1 x=some b->d'.2 x=some a->W x b a
 | [],k,d,d',h,hW,_=>by cases h;exact hW
 |o::l,k,d,d',h,hW,hl=>by
  unfold sS at h
  split at h
  ·split at h
   ·rename_i h0
    cases h1:rB d o.res i k with
    |none=>rw[h1] at h;cases h
    |some d1=>
     rw[h1,Nw] at h;refine aiE l (k+1) d1 d' h (aj3 h1 hW ?_) fun j x hx h2=>?_
     ·have:=hl 0 o rfl h0
      simpa using this
     ·have:=hl (j+1) x hx h2
      rwa [show k+((j+1:Nat):Int)=k+1+(j:Int) by omega] at this
   ·refine aiE l (k+1) d d' h hW fun j x hx h2=>?_
    have:=hl (j+1) x hx h2
    rwa [show k+((j+1:Nat):Int)=k+1+(j:Int) by omega] at this
  ·cases h
theorem ajd{p:IProg}:∀(l:List IBlk) (i:Int) (d d':wO),uH p bl l i d=some d'->(∀x b a,d.1 x=some b->d.2 x=some a->W x b a)->
 (∀(j:Nat) b,l[j]? =some b->(∀v∈b.params,W v (i+j) (-1))/\∀(k:Nat) o,b.ops[k]? =some o->0<=o.res->W o.res (i+j) k)->∀x b a,d'.1 x=some b->d'.2 x=some a->W x b a
 | [],i,d,d',h,hW,_=>by cases h;exact hW
 |b::l,i,d,d',h,hW,hl=>by
  unfold uH at h
  cases h1:pS p bl i b d with
  |none=>rw[h1] at h;cases h
  |some d1=>
   rw[h1,Nw] at h;have h0:=hl 0 b rfl;rw[show i+((0:Nat):Int)=i by omega] at h0;refine ajd l (i+1) d1 d' h ?_ fun j x hx=>?_
   ·unfold pS at h1
    cases h2:vJ i b.params d with
    |none=>rw[h2] at h1;cases h1
    |some d2=>
     rw[h2,Nw] at h1
     cases h3:sS p i b.ops 0 d2 with
     |none=>rw[h3] at h1;cases h1
     |some d3=>
      rw[h3,Nw] at h1
      split at h1
      ·cases h1
       exact aiE b.ops 0 d2 _ h3 (aiQ b.params d d2 h2 hW h0.1) fun j o ho h4=>by
        rw[Ub];exact h0.2 j o ho h4
      ·cases h1
   ·have:=hl (j+1) x hx
    rwa [show i+((j+1:Nat):Int)=i+1+(j:Int) by omega] at this
def DefIn (b:IBlk)(v:Int):Prop:=v∈b.params∨∃o∈b.ops,o.res=v/\0<=v
def akW (bl:List IBlk)(i k:Nat)(v:Int):Prop:=
 ((xz bl i).params.contains v=true∨∃j o,j<k/\(xz bl i).ops[j]? =some o/\o.res=v/\0<=v)∨∃c:Nat,c≠i/\c<bl.length/\Dom (GE (zy bl)) c i/\DefIn (xz bl c) v
theorem vt{b:IBlk}(h:bl[i]? =some b):xz bl (i:Int)=b:=by
 unfold xz;rw[Ni,Jj,h];rfl
structure StF (p:IProg) (bl:List IBlk):Prop where
 vg:zw (zy bl)
 all:∀i,i<bl.length->Reach (GE (zy bl)) i
 use:∀(i k:Nat) o,i<bl.length->(xz bl i).ops[k]? =some o->∀v∈rR o,akW bl i k v
 ends:∀i:Nat,i<bl.length->∀v∈mE (xz bl i).term,akW bl i (xz bl i).ops.length v
 opok:∀i:Nat,i<bl.length->∀o∈(xz bl i).ops,opF p o=true
 trm:∀i:Nat,i<bl.length->aw bl (xz bl i).term=true
theorem ai3{p:IProg}(hv:zw (zy bl))(hd:wg p bl=some d)(hi:i<bl.length){v:Int}(h:yy d (zy bl) i k v=true):akW bl i k v:=by
 have a1:=ajd (W:=fun v b a=>∃blk,bl[b.toNat]? =some blk/\0<=b/\((a=-1/\v∈blk.params)∨(0<=a/\∃o,blk.ops[a.toNat]? =some o/\o.res=v/\0<=v))) bl 0 _ d hd (fun x b a h1 _=>by cases h1) fun j b hb=>by
  refine⟨fun u hu=>⟨b,?_,by omega,.inl ⟨rfl,hu⟩⟩,fun m o ho h0=>⟨b,?_,by omega,.inr ⟨by omega,o,?_,rfl,h0⟩⟩⟩
  ·rw[show(0+(j:Int)).toNat=j by omega];exact hb
  ·rw[show(0+(j:Int)).toNat=j by omega];exact hb
  ·rw[Ni];exact ho
 unfold yy at h
 split at h
 ·rename_i b a h1 h2
  simp only[Jm,Bool.not_eq_true',Bool.and_eq_false_iff,decide_eq_false_iff_not] at h;obtain⟨h3,h4⟩:=h;obtain⟨blk,hb,h0,c⟩:=a1 v b a h1 h2;have a0:=(Jh.1 hb).1
  by_cases e:b=(i:Int)
  ·subst e;rw[Ni] at hb;have hk:a<(k:Int):=Zo;refine .inl ?_;rw[vt hb];rcases c with⟨_,g⟩|⟨g,o,w,t,l⟩
   ·exact .inl (by simpa using g)
   ·exact .inr ⟨a.toNat,o,by omega,w,t,l⟩
  ·have y:=(yO hv b.toNat i).1 (by simpa using h4);refine .inr ⟨b.toNat,by omega,a0,y.2.2,?_⟩;rw[vt hb];rcases c with⟨_,g⟩|⟨g,o,w,t,l⟩
   ·exact .inl g
   ·exact .inr ⟨o,Ji w,t,l⟩
 ·cases h
theorem stF_of{p:IProg}{n:Nat}(hn:p.funcs[n]? =some bl)(y:bl≠ [])(h:yi p n=true):StF p bl:=by
 cases bl with
 |nil=>exact absurd rfl y
 |cons b0 bs=>
  obtain⟨_,d,m,hr⟩:=tF hn h;have g:=rV (b0::bs) 0 _ d (show uH p (b0::bs) (b0::bs) 0 _=some d from m);have hv:zw (zy (b0::bs)):=nO y fun b hb=>(g b hb).2
  unfold iM at hr;simp only[Jm,decide_eq_true_eq] at hr;obtain⟨w,u⟩:=hr;have t:=(aj hv).1 (by rw[w,xu])
  have c:∀i:Nat,i<(b0::bs).length->(b0::bs)[i]? =some (xz (b0::bs) i)/\xz (b0::bs) i∈(b0::bs):=fun i hi=>by
   obtain⟨x,l⟩:∃x,(b0::bs)[i]? =some x:=⟨_,Jd hi⟩
   rw[vt l];exact⟨l,Ji l⟩
  have j:∀i:Nat,i<(b0::bs).length->aaC d (zy (b0::bs)) (xz (b0::bs) i) i=true:=fun i hi=>by
   have:=(cB (b0::bs) 0).1 u i _ (c i hi).1
   rwa [Ub] at this
  refine⟨hv,fun i hi=>?_,fun i k o hi ho v hvu=>?_,fun i hi v hve=>?_,fun i hi o ho=>?_,fun i hi=>(g _ (c i hi).2).2⟩
  ·exact((yO hv 0 i).1 (t i (by rw[xu];exact hi))).2.1
  ·have h1:=j i hi;unfold aaC at h1;rw[Jm] at h1;have h2:=(dF _ 0).1 h1.1 k o ho;rw[Ub] at h2;exact ai3 hv m hi (Oe.1 h2 v hvu)
  ·have h1:=j i hi;unfold aaC at h1;rw[Jm] at h1;exact ai3 hv m hi (Oe.1 h1.2 v hve)
  ·exact(g _ (c i hi).2).1 o ho
def gw (o:IOp):Bool:=decide (18<=o.code) && decide (o.code<=21)
theorem ajE {o:IOp}(h:gw o=true):(zi o.code).a=true:=by
 unfold gw at h;simp only[Jm,decide_eq_true_eq] at h;have:o.code=18∨o.code=19∨o.code=20∨o.code=21:=Zo;rcases this with e|e|e|e<;>rw[e]<;>rfl
theorem aiT(hi:i<bl.length):succ (zy bl) i=(xz bl i).term.to.map fun e=>e.block.toNat:=by
 obtain⟨b,hb⟩:∃b,bl[i]? =some b:=⟨_,Jd hi⟩
 rw[vt hb];unfold succ zy;rw[Jj,Jr,hb];rfl
end Go.Proofs.YtoahcpkibpomcaaGreat
