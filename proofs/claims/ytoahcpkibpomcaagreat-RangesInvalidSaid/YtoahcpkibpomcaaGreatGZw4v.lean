/- Part of a proof. -/
import Derived.Test.YtoahcpkibpomcaaGreatGZl0v
set_option linter.all false
set_option maxHeartbeats 4000000
set_option maxRecDepth 100000
namespace Go.Proofs.YtoahcpkibpomcaaGreat
open Go.RowKit
variable {K:MKC}{w w' w0:World}{m m':Mach}{c oa ob:Int}{C i j k on vb vn:Nat}{g:Int->Option Nat}{tl:List Value}{X:Nat->Prop}{M:MS}{u vv:Value}{l:List BM}{o:IOp}
def Res.lt:Res Nat->Prop
 |.ok x _=>x<65536
 |.trap _ _ _=>True
def zQ (K:MK)(w:World)(r:Res Nat)(e:Ending)(w':World):Prop:=e=endOf r/\(∃ov',MachAt w' K r.mach ov')/\Frm K.B w w'/\r.lt
theorem zQ.ok{K:MK}{x:Nat}{c:Value}(h:MachAt w' K m' c)(g:Frm K.B w w')(d:x<65536):zQ K w (.ok x m') (.returned (U x)) w':=⟨rfl,⟨c,h⟩,g,d⟩
theorem zQ.trap{K:MK}{c:Value}(h:MachAt w' K m' c)(d:Frm K.B w w'):zQ K w (.trap k i m') (.panicked [oE k i]) w':=⟨rfl,⟨c,h⟩,d,trivial⟩
theorem not16 (a:Nat)(h:a<65536):bits .xor .u16 IntKind.u16.max (a:Int)=((65535-a:Nat):Int):=by
 show IntKind.u16.wrap (((BitVec.ofInt 16 65535)^^^(BitVec.ofInt 16 (a:Int))).toNat:Int)=_
 have e1:BitVec.ofInt 16 65535=BitVec.allOnes 16:=by decide
 have e2:(BitVec.ofInt 16 (a:Int)).toNat=a:=by rw[BitVec.ofInt_natCast,BitVec.toNat_ofNat];exact Nat.mod_eq_of_lt h
 rw[e1,BitVec.xor_comm,BitVec.xor_allOnes,BitVec.toNat_not,e2,xY];omega
theorem step_1{K:MK}{ov:Value}(h:MachAt w K m ov)(t:I64 oa)(q:I64 ob)(u:on<65536)(ab:Option Addr)(an ac:Nat){v:Int->Nat}(hv:xO w vb vn v)(d:Int):
 G 155 #[Y K.pm,.agg #[I 1,I c,I oa,I ob,U on,.slice ab an ac],.map (some vb),I d] w (zQ K w (.ok on m)):=by
 have k:=fun(W:World) (hW:Frm K.B w W)=>(hv.kept hW).look t
 have j:=fun(W:World) (hW:Frm K.B w W)=>(hv.kept hW).look q
 have a2:=hv.2 oa;have a1:=hv.2 ob;have a3:=h.size;have l:=Ja (h.keep ((Below.refl _ _).alloc (Je _) (T #[I 1,I c,I oa,I ob,U on,.slice ab an ac] 76)));have i:=Ja ((Frm.refl K.B w).alloc Zo (T #[I 1,I c,I oa,I ob,U on,.slice ab an ac] 76));have la:=fun n:Nat=>k _ (i.out.drewN (n:=n))
 have lb:=fun n:Nat=>j _ (i.out.drewN (n:=n))
 have g:=zI (W:=w) (o:=T #[I 1,I c,I oa,I ob,U on,.slice ab an ac] 76) rfl;clear h hv k j;generalize v oa=xa at *;generalize v ob=xb at *;go_enter Tryz.func155,Tryz.ntmps155;go_upto_region 1 with fail;generalize a0:w.alloc (T #[I 1,I c,I oa,I ob,U on,.slice ab an ac] 76)=W1 at *;clear a0;have p0:=K0 g;have p2:=K2 g;have p3:=K3 g;have p4:=K4 g
 go_cut [9,10] (fun x y wx=>x=U xa/\y=U xb/\∃n,wx=W1.drewN n)
 case first=>
  go_quiet (fail);go_wp2;go_meet;exact⟨rfl,rfl,_,rfl⟩
 case rest=>
  obtain⟨rfl,rfl,n,rfl⟩:=hcut;have HM:=Ja (l.out.drewN n);have HF:=Ja (i.out.drewN (n:=n));have q0:(W1.drewN n).cell? ⟨w.heap.size,0,none⟩=_:=p0;have q2:(W1.drewN n).cell? ⟨w.heap.size,2,none⟩=_:=p2;have q4:(W1.drewN n).cell? ⟨w.heap.size,4,none⟩=_:=p4;clear la lb p0 p2 p3 p4 g l i;generalize W1.drewN n=W2 at *;go_wp2;go_ret;exact zQ.ok HM.out HF.out u
theorem step_3{K:MK}{ov:Value}(h:MachAt w K m ov)(t:I64 oa)(q:I64 ob)(a2:on<65536)(ab:Option Addr)(an ac:Nat){v:Int->Nat}(hv:xO w vb vn v)(d:Int):
 G 155 #[Y K.pm,.agg #[I 3,I c,I oa,I ob,U on,.slice ab an ac],.map (some vb),I d] w (zQ K w (.ok ((65536-v oa)%65536) m)):=by
 have k:=fun(W:World) (hW:Frm K.B w W)=>(hv.kept hW).look t
 have j:=fun(W:World) (hW:Frm K.B w W)=>(hv.kept hW).look q
 have a1:=hv.2 oa;have a0:=hv.2 ob;have a3:=h.size;have l:=Ja (h.keep ((Below.refl _ _).alloc (Je _) (T #[I 3,I c,I oa,I ob,U on,.slice ab an ac] 76)));have i:=Ja ((Frm.refl K.B w).alloc Zo (T #[I 3,I c,I oa,I ob,U on,.slice ab an ac] 76));have la:=fun n:Nat=>k _ (i.out.drewN (n:=n))
 have lb:=fun n:Nat=>j _ (i.out.drewN (n:=n))
 have g:=zI (W:=w) (o:=T #[I 3,I c,I oa,I ob,U on,.slice ab an ac] 76) rfl;clear h hv k j;generalize v oa=xa at *;generalize v ob=xb at *;go_enter Tryz.func155,Tryz.ntmps155;go_upto_region 1 with fail;generalize u:w.alloc (T #[I 3,I c,I oa,I ob,U on,.slice ab an ac] 76)=W1 at *;clear u;have p0:=K0 g;have p2:=K2 g;have p3:=K3 g;have p4:=K4 g
 go_cut [9,10] (fun x y wx=>x=U xa/\y=U xb/\∃n,wx=W1.drewN n)
 case first=>
  go_quiet (fail);go_wp2;go_meet;exact⟨rfl,rfl,_,rfl⟩
 case rest=>
  obtain⟨rfl,rfl,n,rfl⟩:=hcut;have HM:=Ja (l.out.drewN n);have HF:=Ja (i.out.drewN (n:=n));have q0:(W1.drewN n).cell? ⟨w.heap.size,0,none⟩=_:=p0;have q2:(W1.drewN n).cell? ⟨w.heap.size,2,none⟩=_:=p2;have q4:(W1.drewN n).cell? ⟨w.heap.size,4,none⟩=_:=p4;clear la lb p0 p2 p3 p4 g l i;generalize W1.drewN n=W2 at *;go_wp2;go_ret;have e:Ending.returned (U (IntKind.u16.wrap (-(xa:Int))))=.returned (U (((65536-xa)%65536:Nat):Int)):=zh (by rw[xY];omega);exact e ▸ zQ.ok HM.out HF.out Zo
theorem step_4{K:MK}{ov:Value}(h:MachAt w K m ov)(u:I64 oa)(t:I64 ob)(a2:on<65536)(ab:Option Addr)(an ac:Nat){v:Int->Nat}(hv:xO w vb vn v)(d:Int):
 G 155 #[Y K.pm,.agg #[I 4,I c,I oa,I ob,U on,.slice ab an ac],.map (some vb),I d] w (zQ K w (.ok (65535-v oa) m)):=by
 have k:=fun(W:World) (hW:Frm K.B w W)=>(hv.kept hW).look u
 have j:=fun(W:World) (hW:Frm K.B w W)=>(hv.kept hW).look t
 have q:=hv.2 oa;have a1:=hv.2 ob;have a3:=h.size;have l:=Ja (h.keep ((Below.refl _ _).alloc (Je _) (T #[I 4,I c,I oa,I ob,U on,.slice ab an ac] 76)));have i:=Ja ((Frm.refl K.B w).alloc Zo (T #[I 4,I c,I oa,I ob,U on,.slice ab an ac] 76));have la:=fun n:Nat=>k _ (i.out.drewN (n:=n))
 have lb:=fun n:Nat=>j _ (i.out.drewN (n:=n))
 have g:=zI (W:=w) (o:=T #[I 4,I c,I oa,I ob,U on,.slice ab an ac] 76) rfl;clear h hv k j;generalize v oa=xa at *;generalize v ob=xb at *;go_enter Tryz.func155,Tryz.ntmps155;go_upto_region 1 with fail;generalize a0:w.alloc (T #[I 4,I c,I oa,I ob,U on,.slice ab an ac] 76)=W1 at *;clear a0;have p0:=K0 g;have p2:=K2 g;have p3:=K3 g;have p4:=K4 g
 go_cut [9,10] (fun x y wx=>x=U xa/\y=U xb/\∃n,wx=W1.drewN n)
 case first=>
  go_quiet (fail);go_wp2;go_meet;exact⟨rfl,rfl,_,rfl⟩
 case rest=>
  obtain⟨rfl,rfl,n,rfl⟩:=hcut;have HM:=Ja (l.out.drewN n);have HF:=Ja (i.out.drewN (n:=n));have q0:(W1.drewN n).cell? ⟨w.heap.size,0,none⟩=_:=p0;have q2:(W1.drewN n).cell? ⟨w.heap.size,2,none⟩=_:=p2;have q4:(W1.drewN n).cell? ⟨w.heap.size,4,none⟩=_:=p4;clear la lb p0 p2 p3 p4 g l i;generalize W1.drewN n=W2 at *;go_wp2;go_ret;have e:Ending.returned (U (bits .xor .u16 IntKind.u16.max (xa:Int)))=.returned (U ((65535-xa:Nat):Int)):=zh (not16 xa q);exact e ▸ zQ.ok HM.out HF.out Zo
theorem xN{row:Option Nat}(h:w.drew.grownBy w' row):w.grownBy w' row:=⟨h.os,h.tape,h.output,h.size,h.block⟩
theorem step_ar{K:MK}{ov:Value}(h:MachAt w K m ov){oc g:Int}(a2:I64 oa)(a1:I64 ob)(b4:on<65536)(ab:Option Addr)(an ac:Nat){v:Int->Nat}(hv:xO w vb vn v)(d:Int)(hc:5<=oc/\oc<=17):
 G 155 #[Y K.pm,.agg #[I oc,I g,I oa,I ob,U on,.slice ab an ac],.map (some vb),I d] w (zQ K w (iy m oc (v oa) (v ob))):=by
 have u:=fun(W:World) (hW:Frm K.B w W)=>(hv.kept hW).look a2
 have t:=fun(W:World) (hW:Frm K.B w W)=>(hv.kept hW).look a1
 have q:=hv.2 oa;have l:=hv.2 ob;have b5:=h.size;have a0:=Ja (h.keep ((Below.refl _ _).alloc (Je _) (T #[I oc,I g,I oa,I ob,U on,.slice ab an ac] 76)));have j:=Ja ((Frm.refl K.B w).alloc Zo (T #[I oc,I g,I oa,I ob,U on,.slice ab an ac] 76));have la:=fun n:Nat=>u _ (j.out.drewN (n:=n))
 have lb:=fun n:Nat=>t _ (j.out.drewN (n:=n))
 have i:=zI (W:=w) (o:=T #[I oc,I g,I oa,I ob,U on,.slice ab an ac] 76) rfl;clear h hv u t;generalize v oa=xa at *;generalize v ob=xb at *;go_enter Tryz.func155,Tryz.ntmps155;go_upto_region 1 with fail;generalize a3:w.alloc (T #[I oc,I g,I oa,I ob,U on,.slice ab an ac] 76)=W1 at *;clear a3;have p0:=K0 i;have p2:=K2 i;have p3:=K3 i;have p4:=K4 i
 go_cut [9,10] (fun x y wx=>x=U xa/\y=U xb/\∃n,wx=W1.drewN n)
 case first=>
  go_quiet (fail);go_wp2;go_meet;exact⟨rfl,rfl,_,rfl⟩
 case rest=>
  obtain⟨rfl,rfl,n,rfl⟩:=hcut;have HM:=Ja (a0.out.drewN n);have HF:=Ja (j.out.drewN (n:=n));have q0:(W1.drewN n).cell? ⟨w.heap.size,0,none⟩=_:=p0;have q2:(W1.drewN n).cell? ⟨w.heap.size,2,none⟩=_:=p2;have q4:(W1.drewN n).cell? ⟨w.heap.size,4,none⟩=_:=p4;clear la lb p0 p2 p3 p4 i a0 j;generalize W1.drewN n=W2 at *;have t1:((oc:Int)==1)=false:=Ze;have t2:((oc:Int)==2)=false:=Ze;have t3:((oc:Int)==3)=false:=Ze;have t4:((oc:Int)==4)=false:=Ze;have b3:((oc:Int)==18)=false:=Ze;have b2:((oc:Int)==19)=false:=Ze;have b1:((oc:Int)==20)=false:=Ze;have b0:((oc:Int)==21)=false:=Ze;have a9:((oc:Int)==22)=false:=Ze;have a8:((oc:Int)==23)=false:=Ze;have a7:((oc:Int)==24)=false:=Ze;have a6:((oc:Int)==25)=false:=Ze;have a5:((oc:Int)==26)=false:=Ze;have a4:((oc:Int)==27)=false:=Ze;have c:=jD oc hc xa xb q l;unfold rq at c
  by_cases k:oc=8/\xb=0
  ·have EE:=Ja (show iy m oc xa xb=.trap 4 0 m by unfold iy;rw[if_pos k]);simp only[if_pos k] at c;have HC:=Ja c;clear hc c k;go_wp2_with (go_at_call 163;go_must (refine(HC.out _).mono ?_;rintro e w' ⟨rfl,rfl⟩))
   exact⟨rfl,by rw[EE.out];exact zQ.trap HM.out HF.out⟩
  ·have EE:=Ja (show iy m oc xa xb=.ok (yW oc xa xb) m by unfold iy;rw[if_neg k]);simp only[if_neg k] at c;have HC:=Ja c;clear hc c k;go_wp2_with (go_at_call 163;go_must (refine(HC.out _).mono ?_;rintro e w' ⟨rfl,rfl⟩))
   go_ret;rw[EE.out];exact zQ.ok HM.out HF.out (jz _ _ _ q l)
theorem lP:∀x2 x4 x5 x7:Bool,(x7=false)∨(x2=false/\x7=true)∨(x2=true/\x4=false/\x7=true)∨(x2=true/\x4=true/\x5=false/\x7=true)∨(x2=true/\x4=true/\x5=true/\x7=true)
 |_,_,_,false=>(.inl rfl)
 |false,_,_,true=>(.inr (.inl ⟨rfl,rfl⟩))
 |true,false,_,true=>(.inr (.inr (.inl ⟨rfl,rfl,rfl⟩)))
 |true,true,false,true=>(Zi (.inl ⟨rfl,rfl,rfl,rfl⟩))
 |true,true,true,true=>(Zi (.inr ⟨rfl,rfl,rfl,rfl⟩))
theorem jZ:∀x1 x4 x6:Bool,(x1=false)∨(x1=true/\x4=false)∨(x1=true/\x4=true/\x6=false)∨(x1=true/\x4=true/\x6=true)
 |false,_,_=>(.inl rfl)
 |true,false,_=>(.inr (.inl ⟨rfl,rfl⟩))
 |true,true,false=>(.inr (.inr (.inl ⟨rfl,rfl,rfl⟩)))
 |true,true,true=>(.inr (.inr (.inr ⟨rfl,rfl,rfl⟩)))
theorem kM{B:Nat}{V:PV}{p:IProg}(hp:ProgIn w B V p)(hB:B<=w.heap.size)(hC:Q w C (rC V p++tl).toArray 173)(hl:p.args.length=p.funcs.length)(o:IOp)(ho:qN o)(ar:Option Addr)(i:Nat)(b5:o.args.length<=i/\i<=9223372036854775807)(j:o.code=26):
 G 138 #[Y C,opV o (.slice ar o.args.length i)] w (ym w (opF p o)):=by
 unfold opV;obtain⟨_,b2,b7,b6,b3⟩:=ho;have b4:o.args.length<=9223372036854775807:=Zo;obtain⟨Vf,Va,Vd,Vb⟩:=V;obtain⟨f1,f2,e1,a6,a5⟩:=hp.funcs.form;have m:=hp.args;obtain⟨a1,a2,e2,b1,b0⟩:=hp.args.form;obtain⟨d1,d2,e3,a8,a7⟩:=hp.data.form;simp only at e1 e2 e3 m;subst e1 e2 e3;have b9:p.funcs.length<=9223372036854775807:=Zo;have c0:p.data.length<=9223372036854775807:=Zo;clear hp a6 a5 b1 b0 a8 a7;have c2:=lt_of_block hC;have hf:∀W,G 142 #[I 26] W fun e w'=>e=.returned (.tuple #[.agg #[.bool false,.bool false,.bool false,.bool false],.bool true])/\O W w':=fun W=>yu 26 W
 obtain⟨x0,h0⟩:∃q,decide (0<=o.a)=q:=⟨_,rfl⟩
 obtain⟨x1,h1⟩:∃q,decide (0<=o.res)=q:=⟨_,rfl⟩
 obtain⟨x2,h2⟩:∃q,decide (-1<=o.res)=q:=⟨_,rfl⟩
 obtain⟨x3,h3⟩:∃q,decide (o.a<(p.funcs.length:Int))=q:=⟨_,rfl⟩
 obtain⟨x4,h4⟩:∃q,decide (o.b=0)=q:=⟨_,rfl⟩
 obtain⟨x5,h5⟩:∃q,decide (o.n=0)=q:=⟨_,rfl⟩
 obtain⟨x6,h6⟩:∃q,decide (o.args.length=0)=q:=⟨_,rfl⟩
 obtain⟨x7,l⟩:∃q,decide ((o.args.length:Int)=p.args.getD o.a.toNat 0)=q:=⟨_,rfl⟩
 have e:opF p o=(x0 && x3 && x7 && x2 && x4 && x5):=by
  unfold opF;rw[j];rw[h0,h3,l,h2,h4,h5];rfl
 rw[j];obtain⟨R,hR⟩:∃R,opF p o=R:=⟨_,rfl⟩
 rw[hR];rw[e] at hR;have HR:=Ja hR;have HF:=Ja hf;have HC:=Ja hC;have t4:=z6 h4;have t5:((o.n:Int)==0)=x5:=z6 (zZ h5 Zo);have t6:((o.args.length:Int)==0)=x6:=z6 (zZ h6 Zo);clear e hR hf h4 h5 h6 hC
 cases x0 with
 |false=>
  skip
  all_goals go_enter Tryz.func138,Tryz.ntmps138
  all_goals go_wp2_with (first|(go_at_call 142;go_must (refine(HF.out _).mono ?_;rintro e w1 ⟨rfl,d⟩;have c:=zH d (zI rfl) Zs;have u0:∀ob,A (w1.alloc ob) w.heap.size 0 (I 26):=fun ob=>zA (zB c) Zs;have u1:∀ob,A (w1.alloc ob) w.heap.size 1 (I o.res):=fun ob=>zA (zB c) Zs;have u2:∀ob,A (w1.alloc ob) w.heap.size 2 (I o.a):=fun ob=>zA (zB c) Zs;have u3:∀ob,A (w1.alloc ob) w.heap.size 3 (I o.b):=fun ob=>zA (zB c) Zs;have u4:∀ob,A (w1.alloc ob) w.heap.size 4 (U (o.n:Int)):=fun ob=>zA (zB c) Zs;have u5:∀ob,A (w1.alloc ob) w.heap.size 5 (.slice ar o.args.length i):=fun ob=>zA (zB c) Zs;have g:=zH d (zB HC.out) Zt;have v0:∀ob,A (w1.alloc ob) C 0 (.slice f1 p.funcs.length f2):=fun ob=>zA (zB g) rfl;have v1:∀ob,A (w1.alloc ob) C 1 (.slice a1 p.args.length a2):=fun ob=>zA (zB g) rfl;have v4:∀ob,A (w1.alloc ob) C 4 (.slice d1 p.data.length d2):=fun ob=>zA (zB g) rfl;clear c g;have h:=Ja d;clear d))|go_in)
  all_goals go_quiet (fail)
  all_goals go_wp2
  all_goals go_ret
  all_goals exact⟨uz (HR.out.symm.trans rfl),yC ((((Below.refl _ _).alloc (Je _) _).trans (h.out.mono Zs)).alloc (by have y:=h.out.size;simp at y;omega) _)⟩
 |true=>
  obtain⟨k,hk⟩:∃k:Nat,o.a=(k:Int):=⟨o.a.toNat,by have:=of_decide_eq_true h0;omega⟩
  rw[hk] at h3 l ⊢;have t0:decide ((0:Int)<=(k:Int))=true:=decide_eq_true Zo;have t3:decide (k<p.funcs.length)=x3:=zZ h3 Zo
  cases x3 with
  |false=>
   clear l
   all_goals go_enter Tryz.func138,Tryz.ntmps138
   all_goals go_wp2_with (first|(go_at_call 142;go_must (refine(HF.out _).mono ?_;rintro e w1 ⟨rfl,d⟩;have c:=zH d (zI rfl) Zs;have u0:∀ob,A (w1.alloc ob) w.heap.size 0 (I 26):=fun ob=>zA (zB c) Zs;have u1:∀ob,A (w1.alloc ob) w.heap.size 1 (I o.res):=fun ob=>zA (zB c) Zs;have u2:∀ob,A (w1.alloc ob) w.heap.size 2 (I k):=fun ob=>zA (zB c) Zs;have u3:∀ob,A (w1.alloc ob) w.heap.size 3 (I o.b):=fun ob=>zA (zB c) Zs;have u4:∀ob,A (w1.alloc ob) w.heap.size 4 (U (o.n:Int)):=fun ob=>zA (zB c) Zs;have u5:∀ob,A (w1.alloc ob) w.heap.size 5 (.slice ar o.args.length i):=fun ob=>zA (zB c) Zs;have g:=zH d (zB HC.out) Zt;have v0:∀ob,A (w1.alloc ob) C 0 (.slice f1 p.funcs.length f2):=fun ob=>zA (zB g) rfl;have v1:∀ob,A (w1.alloc ob) C 1 (.slice a1 p.args.length a2):=fun ob=>zA (zB g) rfl;have v4:∀ob,A (w1.alloc ob) C 4 (.slice d1 p.data.length d2):=fun ob=>zA (zB g) rfl;clear c g;have h:=Ja d;clear d))|go_in)
   all_goals go_quiet (fail)
   all_goals go_wp2
   all_goals go_ret
   all_goals exact⟨uz (HR.out.symm.trans rfl),yC ((((Below.refl _ _).alloc (Je _) _).trans (h.out.mono Zs)).alloc (by have y:=h.out.size;simp at y;omega) _)⟩
  |true=>
   have a4:k<p.funcs.length:=of_decide_eq_true t3;obtain⟨x,hx⟩:∃x,p.args[k]? =some x:=⟨_,Jd Zo⟩
   obtain⟨ba,oa,rfl,a0,u,_⟩:=m.get hx;rw[Nk] at u;rw[Ni,Jj,hx,Ot] at l;have t7:=z6 l;have b8:(k:Int)<p.args.length:=Zo;have a3:=Ja (Jb (Jy a0 hB) u);clear l hx u a0 m a4;have a9:=lP x2 x4 x5 x7;rcases a9 with rfl|⟨rfl,rfl⟩|⟨rfl,rfl,rfl⟩|⟨rfl,rfl,rfl,rfl⟩|⟨rfl,rfl,rfl,rfl⟩
   all_goals go_enter Tryz.func138,Tryz.ntmps138
   all_goals go_wp2_with (first|(go_at_call 142;go_must (refine(HF.out _).mono ?_;rintro e w1 ⟨rfl,d⟩;have c:=zH d (zI rfl) Zs;have u0:∀ob,A (w1.alloc ob) w.heap.size 0 (I 26):=fun ob=>zA (zB c) Zs;have u1:∀ob,A (w1.alloc ob) w.heap.size 1 (I o.res):=fun ob=>zA (zB c) Zs;have u2:∀ob,A (w1.alloc ob) w.heap.size 2 (I k):=fun ob=>zA (zB c) Zs;have u3:∀ob,A (w1.alloc ob) w.heap.size 3 (I o.b):=fun ob=>zA (zB c) Zs;have u4:∀ob,A (w1.alloc ob) w.heap.size 4 (U (o.n:Int)):=fun ob=>zA (zB c) Zs;have u5:∀ob,A (w1.alloc ob) w.heap.size 5 (.slice ar o.args.length i):=fun ob=>zA (zB c) Zs;have g:=zH d (zB HC.out) Zt;have v0:∀ob,A (w1.alloc ob) C 0 (.slice f1 p.funcs.length f2):=fun ob=>zA (zB g) rfl;have v1:∀ob,A (w1.alloc ob) C 1 (.slice (some ⟨ba,oa,none⟩) p.args.length a2):=fun ob=>zA (zB g) rfl;have v4:∀ob,A (w1.alloc ob) C 4 (.slice d1 p.data.length d2):=fun ob=>zA (zB g) rfl;have t:=((Below.refl w.heap.size w).alloc (Je _) _).trans (d.mono Zs);have v9:∀ob,A (w1.alloc ob) ba (oa+k) (I x):=fun ob=>zV (t.alloc t.size ob) a3.out.1 a3.out.2;clear t;clear c g;have h:=Ja d;clear d))|go_in)
   all_goals go_quiet (fail)
   all_goals go_wp2
   all_goals go_ret
   all_goals exact⟨uz (HR.out.symm.trans rfl),yC ((((Below.refl _ _).alloc (Je _) _).trans (h.out.mono Zs)).alloc (by have y:=h.out.size;simp at y;omega) _)⟩
theorem jo{B:Nat}{V:PV}{p:IProg}(hp:ProgIn w B V p)(hB:B<=w.heap.size)(u:Q w C (rC V p++tl).toArray 173)(hl:p.args.length=p.funcs.length)(o:IOp)(ho:qN o)(ar:Option Addr)(i:Nat)(b3:o.args.length<=i/\i<=9223372036854775807)(j:o.code=2):
 G 138 #[Y C,opV o (.slice ar o.args.length i)] w (ym w (opF p o)):=by
 unfold opV;obtain⟨_,b0,b5,b4,b1⟩:=ho;have b2:o.args.length<=9223372036854775807:=Zo;obtain⟨Vf,Va,Vd,Vb⟩:=V;obtain⟨f1,f2,e1,a4,a3⟩:=hp.funcs.form;have t:=hp.args;obtain⟨a1,a2,e2,a9,a8⟩:=hp.args.form;obtain⟨d1,d2,e3,a6,a5⟩:=hp.data.form;simp only at e1 e2 e3 t;subst e1 e2 e3;have b6:p.funcs.length<=9223372036854775807:=Zo;have b7:p.data.length<=9223372036854775807:=Zo;clear hp a4 a3 a9 a8 a6 a5;have b8:=lt_of_block u;have hf:∀W,G 142 #[I 2] W fun e w'=>e=.returned (.tuple #[.agg #[.bool true,.bool false,.bool false,.bool true],.bool true])/\O W w':=fun W=>yu 2 W
 obtain⟨x0,h0⟩:∃q,decide (0<=o.a)=q:=⟨_,rfl⟩
 obtain⟨x1,h1⟩:∃q,decide (0<=o.res)=q:=⟨_,rfl⟩
 obtain⟨x2,h2⟩:∃q,decide (-1<=o.res)=q:=⟨_,rfl⟩
 obtain⟨x3,h3⟩:∃q,decide (o.a<(p.data.length:Int))=q:=⟨_,rfl⟩
 obtain⟨x4,h4⟩:∃q,decide (o.b=0)=q:=⟨_,rfl⟩
 obtain⟨x5,h5⟩:∃q,decide (o.n=0)=q:=⟨_,rfl⟩
 obtain⟨x6,y⟩:∃q,decide (o.args.length=0)=q:=⟨_,rfl⟩
 obtain⟨x7,x⟩:∃q,decide ((o.args.length:Int)=p.args.getD o.a.toNat 0)=q:=⟨_,rfl⟩
 have e:opF p o=(x0 && x3 && x1 && x4 && x6):=by
  unfold opF;rw[j];rw[h0,h3,h1,h4,y];rfl
 rw[j];obtain⟨R,m⟩:∃R,opF p o=R:=⟨_,rfl⟩
 rw[m];rw[e] at m;have HR:=Ja m;have HF:=Ja hf;have HC:=Ja u;have t4:=z6 h4;have t5:((o.n:Int)==0)=x5:=z6 (zZ h5 Zo);have t6:((o.args.length:Int)==0)=x6:=z6 (zZ y Zo);clear e m hf h4 h5 y u
 cases x0 with
 |false=>
  skip
  all_goals go_enter Tryz.func138,Tryz.ntmps138
  all_goals go_wp2_with (first|(go_at_call 142;go_must (refine(HF.out _).mono ?_;rintro e w1 ⟨rfl,g⟩;have c:=zH g (zI rfl) Zs;have u0:∀ob,A (w1.alloc ob) w.heap.size 0 (I 2):=fun ob=>zA (zB c) Zs;have u1:∀ob,A (w1.alloc ob) w.heap.size 1 (I o.res):=fun ob=>zA (zB c) Zs;have u2:∀ob,A (w1.alloc ob) w.heap.size 2 (I o.a):=fun ob=>zA (zB c) Zs;have u3:∀ob,A (w1.alloc ob) w.heap.size 3 (I o.b):=fun ob=>zA (zB c) Zs;have u4:∀ob,A (w1.alloc ob) w.heap.size 4 (U (o.n:Int)):=fun ob=>zA (zB c) Zs;have u5:∀ob,A (w1.alloc ob) w.heap.size 5 (.slice ar o.args.length i):=fun ob=>zA (zB c) Zs;have d:=zH g (zB HC.out) Zt;have v0:∀ob,A (w1.alloc ob) C 0 (.slice f1 p.funcs.length f2):=fun ob=>zA (zB d) rfl;have v1:∀ob,A (w1.alloc ob) C 1 (.slice a1 p.args.length a2):=fun ob=>zA (zB d) rfl;have v4:∀ob,A (w1.alloc ob) C 4 (.slice d1 p.data.length d2):=fun ob=>zA (zB d) rfl;clear c d;have h:=Ja g;clear g))|go_in)
  all_goals go_quiet (fail)
  all_goals go_wp2
  all_goals go_ret
  all_goals exact⟨uz (HR.out.symm.trans rfl),yC ((((Below.refl _ _).alloc (Je _) _).trans (h.out.mono Zs)).alloc (by have l:=h.out.size;simp at l;omega) _)⟩
 |true=>
  obtain⟨k,hk⟩:∃k:Nat,o.a=(k:Int):=⟨o.a.toNat,by have:=of_decide_eq_true h0;omega⟩
  rw[hk] at h3 x ⊢;have t0:decide ((0:Int)<=(k:Int))=true:=decide_eq_true Zo;have t3:decide (k<p.data.length)=x3:=zZ h3 Zo
  cases x3 with
  |false=>
   clear x
   all_goals go_enter Tryz.func138,Tryz.ntmps138
   all_goals go_wp2_with (first|(go_at_call 142;go_must (refine(HF.out _).mono ?_;rintro e w1 ⟨rfl,g⟩;have c:=zH g (zI rfl) Zs;have u0:∀ob,A (w1.alloc ob) w.heap.size 0 (I 2):=fun ob=>zA (zB c) Zs;have u1:∀ob,A (w1.alloc ob) w.heap.size 1 (I o.res):=fun ob=>zA (zB c) Zs;have u2:∀ob,A (w1.alloc ob) w.heap.size 2 (I k):=fun ob=>zA (zB c) Zs;have u3:∀ob,A (w1.alloc ob) w.heap.size 3 (I o.b):=fun ob=>zA (zB c) Zs;have u4:∀ob,A (w1.alloc ob) w.heap.size 4 (U (o.n:Int)):=fun ob=>zA (zB c) Zs;have u5:∀ob,A (w1.alloc ob) w.heap.size 5 (.slice ar o.args.length i):=fun ob=>zA (zB c) Zs;have d:=zH g (zB HC.out) Zt;have v0:∀ob,A (w1.alloc ob) C 0 (.slice f1 p.funcs.length f2):=fun ob=>zA (zB d) rfl;have v1:∀ob,A (w1.alloc ob) C 1 (.slice a1 p.args.length a2):=fun ob=>zA (zB d) rfl;have v4:∀ob,A (w1.alloc ob) C 4 (.slice d1 p.data.length d2):=fun ob=>zA (zB d) rfl;clear c d;have h:=Ja g;clear g))|go_in)
   all_goals go_quiet (fail)
   all_goals go_wp2
   all_goals go_ret
   all_goals exact⟨uz (HR.out.symm.trans rfl),yC ((((Below.refl _ _).alloc (Je _) _).trans (h.out.mono Zs)).alloc (by have l:=h.out.size;simp at l;omega) _)⟩
  |true=>
   have a0:k<p.data.length:=of_decide_eq_true t3;clear x a0 t;have a7:=jZ x1 x4 x6;rcases a7 with rfl|⟨rfl,rfl⟩|⟨rfl,rfl,rfl⟩|⟨rfl,rfl,rfl⟩
   all_goals go_enter Tryz.func138,Tryz.ntmps138
   all_goals go_wp2_with (first|(go_at_call 142;go_must (refine(HF.out _).mono ?_;rintro e w1 ⟨rfl,g⟩;have c:=zH g (zI rfl) Zs;have u0:∀ob,A (w1.alloc ob) w.heap.size 0 (I 2):=fun ob=>zA (zB c) Zs;have u1:∀ob,A (w1.alloc ob) w.heap.size 1 (I o.res):=fun ob=>zA (zB c) Zs;have u2:∀ob,A (w1.alloc ob) w.heap.size 2 (I k):=fun ob=>zA (zB c) Zs;have u3:∀ob,A (w1.alloc ob) w.heap.size 3 (I o.b):=fun ob=>zA (zB c) Zs;have u4:∀ob,A (w1.alloc ob) w.heap.size 4 (U (o.n:Int)):=fun ob=>zA (zB c) Zs;have u5:∀ob,A (w1.alloc ob) w.heap.size 5 (.slice ar o.args.length i):=fun ob=>zA (zB c) Zs;have d:=zH g (zB HC.out) Zt;have v0:∀ob,A (w1.alloc ob) C 0 (.slice f1 p.funcs.length f2):=fun ob=>zA (zB d) rfl;have v1:∀ob,A (w1.alloc ob) C 1 (.slice a1 p.args.length a2):=fun ob=>zA (zB d) rfl;have v4:∀ob,A (w1.alloc ob) C 4 (.slice d1 p.data.length d2):=fun ob=>zA (zB d) rfl;clear c d;have h:=Ja g;clear g))|go_in)
   all_goals go_quiet (fail)
   all_goals go_wp2
   all_goals go_ret
   all_goals exact⟨uz (HR.out.symm.trans rfl),yC ((((Below.refl _ _).alloc (Je _) _).trans (h.out.mono Zs)).alloc (by have l:=h.out.size;simp at l;omega) _)⟩
def yk (K:MKC)(X:Nat->Prop)(w:World)(M':MS)(r:Value)(e:Ending)(w':World):Prop:=e=.returned r/\∃X',wW w' K X' M'/\Stp X w X' w'
theorem MkIn.at{fv:Value}(h:MkIn w K X M fv vv l):wW w K X M:=⟨fv,vv,l,h⟩
theorem MkIn.ticked{fv:Value}(h:MkIn w K X M fv vv l)(c:M.sz+1<=1000000):MkIn (w.setCell ⟨K.pm,1,none⟩ (I ((M.pos:Int)+1))) K X M.tick fv vv l/\Stp X w X (w.setCell ⟨K.pm,1,none⟩ (I ((M.pos:Int)+1))):=
 h.setC 1 _ M.tick vv rfl rfl h.vown h.v64 h.xv (by have:=(zT M).sz;omega) (by have:=h.lft;show 6<=M.left+((M.pos+1:Nat):Int)/\M.left<=6;omega)
theorem rK (x:Int)(n:Nat)(d:0<n)(c:n<=1000000):Int.tmod (wrap64 (Int.tmod x n+n)) n=((x%(n:Int)).toNat:Int):=by
 have h1:=Qv x (show(0:Int)<n by omega)
 have h2:-(n:Int)<Int.tmod x n:=by
  have:=Qu x (show(0:Int)<n by omega);omega
 have e:wrap64 (Int.tmod x n+n)=Int.tmod x n+n:=IntWalk.wrap64_in _ Zo;rw[e];have h3:=Ob x (show(n:Int)≠0 by omega);have g:=Int.emod_lt_of_pos x (show(0:Int)<n by omega)
 have e2:Int.tmod (Int.tmod x n+n) n=x%(n:Int):=by
  rw[Qc Zo,Int.add_emod_right]
  conv=>rhs;rw[<-Int.tmod_add_mul_tdiv x n]
  rw[Int.add_mul_emod_self_left]
 rw[e2];omega
theorem uD{fv:Value}(h:MkIn w K X M fv vv l){n:Nat}(k:0<n)(d:n<=1000000)(i:M.sz+1<=1000000):
 G 55 #[Y K.pm,I n] w fun e w'=>e=.returned (I (tkV K.E M n:Nat))/\MkIn w' K X M.tick fv vv l/\Stp X w X w':=by
 have hs:=h.env.s;have c0:=h.c0;have c1:=h.c1;obtain⟨sa,sc,j,a1,a0⟩:=hs.form;rw[j] at c0 hs;have f1:=h.free 1;have c:=Ja (show ∀n,MkIn ((w.drewN n).setCell ⟨K.pm,1,none⟩ (I ((M.pos:Int)+1))) K X M.tick fv vv l/\Stp X w X ((w.drewN n).setCell ⟨K.pm,1,none⟩ (I ((M.pos:Int)+1))) from fun n=>⟨((h.keep (yL _ w n)).ticked i).1,(Stp.of_below (yL _ w n)).trans ((h.keep (yL _ w n)).ticked i).2⟩)
 have t:(M.pos:Int)+1<=1000000:=by
  have:M.pos<=M.sz:=by unfold MS.sz;omega
  omega
 clear h
 by_cases m:M.pos<K.E.s.length
 ·obtain⟨x,g⟩:∃x,K.E.s[M.pos]? =some x:=⟨_,Jd m⟩
  obtain⟨b,o,rfl,hb,u,h64⟩:=hs.get g;rw[Nk] at u;have y:(M.pos:Int)<(K.E.s.length:Int):=Zo;have hv:tkV K.E M n=(x%(n:Int)).toNat:=by unfold tkV;rw[Jj,g];rfl
  have e1:=rK x n k d;rw[hv];have q:=Ja e1;clear hs g hb e1 hv;go_enter Tryz.func55,Tryz.ntmps55;go_wp2;go_quiet (fail);go_wp2;go_quiet (fail);go_wp2;go_ret;exact⟨zh q.out,(c.out _).1,(c.out _).2⟩
 ·have y:¬(M.pos:Int)<(K.E.s.length:Int):=Zo;have hv:tkV K.E M n=((0:Int)%(n:Int)).toNat:=by unfold tkV;rw[Jj,Of Zo];rfl
  have e1:=rK 0 n k d;rw[hv];have q:=Ja e1;clear hs hv e1;go_enter Tryz.func55,Tryz.ntmps55;go_wp2;go_quiet (fail);go_wp2;go_ret;exact⟨zh Zs,(c.out _).1,(c.out _).2⟩
theorem m8(h:wW w K X M){n:Nat}(g:0<n)(c:n<=1000000)(d:M.sz+1<=1000000):
 G 55 #[Y K.pm,I n] w (yk K X w M.tick (I (tkV K.E M n:Nat))):=by
 obtain⟨fv,vv,l,h⟩:=h;refine(uD h g c d).mono ?_;rintro e w' ⟨rfl,h1,h2⟩;exact⟨rfl,X,h1.at,h2⟩
theorem ot{fv:Value}(h:MkIn w K X M fv vv l)(d:M.sz+1<=1000000):
 G 110 #[Y K.pm] w fun e w'=>e=.returned (I (M.next:Int))/\w'=w.setCell ⟨K.pm,6,none⟩ (I ((M.next+1:Nat):Int)):=by
 have c6:=h.c6;have f6:=h.free 6
 have g:(M.next:Int)+1<=1000000:=by
  have:M.next<=M.sz:=by unfold MS.sz;omega
  omega
 have hb:=h.blk;have c:A (w.setCell ⟨K.pm,6,none⟩ (I ((M.next:Int)+1))) K.pm 6 (I ((M.next:Int)+1)):=World.cell?_setCell_same _ _ _ c6;clear h hb;go_enter Tryz.func110,Tryz.ntmps110;go_wp2;go_ret;refine⟨zh Zo,?_⟩;rfl
theorem nW (c:Int):((zi c).res=true/\uc c=true)∨((zi c).res=false/\c=26/\uc c=true)∨((zi c).res=false/\c≠26/\uc c=false):=by
 unfold uc
 by_cases h:(zi c).res=true
 ·exact .inl ⟨h,by rw[h];rfl⟩
 ·have d:(zi c).res=false:=by simpa using h
  by_cases e:c=26
  ·exact .inr (.inl ⟨d,e,by rw[decide_eq_true e,Bool.or_true]⟩)
  ·exact .inr (.inr ⟨d,e,by rw[d,decide_eq_false e];rfl⟩)
def uN (M:MS)(c:Int):Nat:=if uc c then M.next+1 else M.next
def sB (M:MS)(c:Int):Int:=if uc c then(M.next:Int) else -1
def EmMid (w:World)(K:MKC)(X:Nat->Prop)(M:MS)(fv vv:Value)(l:List BM)(o:IOp)(av:Value)(wx:World):Prop:=
 Q wx w.heap.size #[I o.code,I (sB M o.code),I o.a,I o.b,U (o.n:Int),av] 76/\MkIn wx K X {M with next:=uN M o.code } fv vv l/\Stp X w X wx
theorem rD(h:wW w K X M)(ho:qN o){av:Value}(f1:wm w (K.av X) av o.args)(hcur:M.cur<M.f.length)(hz:M.sz+3<=1000000):
 G 132 #[Y K.pm,.agg #[I o.code,I o.res,I o.a,I o.b,U (o.n:Int),av]] w (yk K X w (M.emit o) (I (sB M o.code))):=by
 obtain⟨fv,vv,l,h⟩:=h;obtain⟨aa,ac,f0,_,_⟩:=f1.form;have b6:=lt_of_block h.blk;have H:=Ja (Jb h (Jb ho (Jb f1 (Jb f0 (Jb hcur hz)))));clear h ho f1 hcur hz;subst f0;go_enter Tryz.func132,Tryz.ntmps132;go_upto_region 3 with(go_at_call 52;go_must (refine(aaK o.code _).mono ?_;rintro e w1 ⟨rfl,e9⟩;unfold acg;have bx:Q w1 w.heap.size (D o aa ac) 76:=zH e9 (zI rfl) Zs;have y0:=zA (i:=0) bx rfl;have y1:=zA (i:=1) bx rfl;have k0:N w1 w.heap.size 1:=zE bx;have l5:=lt_of_block bx))
 have d1:O w w1:=(((Below.refl w.heap.size w).alloc (Je _) _).trans (e9.mono Zs))
 have a2:O w ((w1.setCell ⟨w.heap.size,1,none⟩ (I (-1))).alloc (T #[.bool (zi o.code).is,.bool (zi o.code).res,.bool (zi o.code).a,.bool (zi o.code).b,.bool (zi o.code).n] 120)):=(d1.setCell (Je _) _).alloc (by have:=d1.size;simp;omega) _;have d0:Q ((w1.setCell ⟨w.heap.size,1,none⟩ (I (-1))).alloc (T #[.bool (zi o.code).is,.bool (zi o.code).res,.bool (zi o.code).a,.bool (zi o.code).b,.bool (zi o.code).n] 120)) w.heap.size #[I o.code,I (-1),I o.a,I o.b,U (o.n:Int),.slice aa o.args.length ac] 76:=zB (zD bx _);have e8:Q ((w1.setCell ⟨w.heap.size,1,none⟩ (I (-1))).alloc (T #[.bool (zi o.code).is,.bool (zi o.code).res,.bool (zi o.code).a,.bool (zi o.code).b,.bool (zi o.code).n] 120)) w1.heap.size #[.bool (zi o.code).is,.bool (zi o.code).res,.bool (zi o.code).a,.bool (zi o.code).b,.bool (zi o.code).n] 120:=zI Zs;generalize j3:(w1.setCell ⟨w.heap.size,1,none⟩ (I (-1))).alloc (T #[.bool (zi o.code).is,.bool (zi o.code).res,.bool (zi o.code).a,.bool (zi o.code).b,.bool (zi o.code).n] 120)=W2 at *;generalize l9:w1.heap.size=c2 at *;have z0:=zA (i:=0) d0 rfl;have z1:=zA (i:=1) e8 rfl;have H2:=Ja (Jb a2 (Jb d0 e8));clear e9 bx y0 y1 k0 d1 a2 d0 e8 j3
 go_cut [17] (fun v wx=>v=.bool (uc o.code)/\wx=W2)
 case first=>
  rcases nW o.code with⟨e1,e2⟩|⟨e1,e3,e2⟩|⟨e1,e3,e2⟩
  all_goals rw[e1] at z1
  all_goals have E2:=Ja e2
  ·clear e1 e2;go_wp2;go_meet;exact⟨by rw[E2.out],rfl⟩
  ·have i2:(o.code==26)=true:=by rw[e3];rfl
   clear e1 e2 e3;go_wp2;go_meet;exact⟨by rw[E2.out],rfl⟩
  ·have i2:(o.code==26)=false:=by rw[beq_eq_false_iff_ne];exact e3
   clear e1 e2 e3;go_wp2;go_meet;exact⟨by rw[E2.out],rfl⟩
 case rest=>
  obtain⟨rfl,k6⟩:=hcut;subst wc;have a3:=H.out.1.keep H2.out.1;have g3:=ot a3 (by have:=H.out.2.2.2.2.2;omega)
  have b9:uc o.code=false->EmMid w K X M fv vv l o (.slice aa o.args.length ac) W2:=fun e=>by
   have e1:sB M o.code=-1:=by unfold sB;rw[e];rfl
   have e2:uN M o.code=M.next:=by unfold uN;rw[e];rfl
   exact⟨by rw[e1];exact H2.out.2.1,by rw[e2];exact a3,Stp.of_below H2.out.1⟩
  have b8:uc o.code=true->EmMid w K X M fv vv l o (.slice aa o.args.length ac) ((W2.setCell ⟨K.pm,6,none⟩ (I ((M.next+1:Nat):Int))).setCell ⟨w.heap.size,1,none⟩ (I (M.next:Int))):=fun e=>by
   have e1:sB M o.code=(M.next:Int):=by unfold sB;rw[e];rfl
   have e2:uN M o.code=M.next+1:=by unfold uN;rw[e];rfl
   have k9:=lt_of_block H.out.1.blk;have i5:=(a3.blk)
   have g0:=H.out.1.only (W:=((W2.setCell ⟨K.pm,6,none⟩ (I ((M.next+1:Nat):Int))).setCell ⟨w.heap.size,1,none⟩ (I (M.next:Int)))) (M':= {M with next:=M.next+1 }) (by simpa using H2.out.1.size) ⟨H2.out.1.os,H2.out.1.tape,H2.out.1.output⟩ (fun k hk hne=>(Below.heap_setCell _ ⟨w.heap.size,1,none⟩ _ k (by show k≠w.heap.size;omega)).trans ((Below.heap_setCell _ ⟨K.pm,6,none⟩ _ k hne).trans (H2.out.1.block k hk)))
    (zR (zD i5 _) (by show K.pm≠w.heap.size;omega)) rfl rfl (by have:=H.out.2.2.2.2.2;unfold MS.sz at *;simp only at *;omega) H.out.1.lft
   refine⟨?_,by rw[e2];exact g0.1,g0.2⟩;rw[e1];exact zD (zR H2.out.2.1 (by show w.heap.size≠K.pm;omega)) _
  have h9:∀(u:Value),N (W2.setCell ⟨K.pm,6,none⟩ u) w.heap.size 1:=fun u=>(World.frozen?_setCell ..).trans (zE H2.out.2.1)
  have i0:∀(u:Value),A (W2.setCell ⟨K.pm,6,none⟩ u) w.heap.size 1 (I (-1)):=fun u=>zA (i:=1) (zR (a:=⟨K.pm,6,none⟩) (u:=u) H2.out.2.1 (by show w.heap.size≠K.pm;omega)) rfl
  have y:=Ja (Jb g3 (Jb b9 b8));clear g3 b9 b8 a3
  go_upto_if 17 with fail
  go_cut [] (fun wx=>Hid (EmMid w K X M fv vv l o (.slice aa o.args.length ac) wx))
  case first=>
   obtain⟨r,hr⟩:∃r,uc o.code=r:=⟨_,rfl⟩
   have HR:=Ja hr;rw[hr];clear hr;cases r
   ·go_wp2;go_meet;exact Ja (y.out.2.1 HR.out)
   ·go_wp2_with (go_at_call 110;go_must (refine y.out.1.mono ?_;rintro e w3 ⟨rfl,rfl⟩))
    go_meet;exact Ja (y.out.2.2 HR.out)
  case rest=>
   obtain⟨a9,h,hs⟩:=hcut.out;have hcur:=H.out.2.2.2.2.1;obtain⟨b,hb⟩:∃b,M.f[M.cur]? =some b:=⟨_,Jd hcur⟩
   obtain⟨q,hq,rfl,a6⟩:=h.getB (i:=M.cur) hb;obtain⟨g,c,rfl,m1,a8,l7⟩:=h.fblk hq;obtain⟨pa,pc,b5,_,_⟩:=a6.par.form;obtain⟨oa,oc,b1⟩:=zG a6.own;obtain⟨ea,ec,b4,_,_⟩:=a6.tos.form;have c4:=h.c4;have c5:A wc K.pm 5 (I (M.cur:Int)):=h.c5;have a5:=z9 yr h.own rfl hq;have e0:A wc g (M.cur*5) q.pv:=a5 0 _ rfl;have e1:=a5 1 _ rfl;have e2:=a5 2 _ rfl;have e3:=a5 3 _ rfl;have e4:=a5 4 _ rfl;have b6:=lt_of_block h.blk;have i6:l.length=M.f.length:=h.len;have l8:(M.cur:Int)<(l.length:Int):=Zo;have m0:(0:Int)<=(M.cur:Int):=Zo;have j1:=lt_of_block a9;rw[b5] at e0;rw[b1] at e1;rw[b4] at e4;have f2:∀w',O wc w'->A w' K.pm 4 (F g l.length c)/\A w' K.pm 5 (I (M.cur:Int))/\A w' g (M.cur*5) (.slice pa q.b.params.length pc)/\A w' g (M.cur*5+1) (.slice oa q.ol.length oc)/\A w' g (M.cur*5+2) (I q.b.term.kind)/\A w' g (M.cur*5+3) (I q.b.term.a)/\A w' g (M.cur*5+4) (.slice ea q.b.term.to.length ec):=fun w' hb=>⟨zV hb b6 c4,zV hb b6 c5,zV hb a8 e0,zV hb a8 e1,zV hb a8 e2,zV hb a8 e3,zV hb a8 e4⟩
   have f5:=Ja f2;have HC:=Ja (Jb h (Jb hq (Jb a6 (Jb hb (Jb b5 (Jb b1 (Jb b4 (Jb a9 hs))))))));obtain⟨R,hR⟩:∃R,sB M o.code=R:=⟨_,rfl⟩
   rw[hR] at a9;have HR:=Ja hR;clear f2 c4 c5 e0 e1 e2 e3 e4 h hs hq a6 hb a5 b5 b1 b4 i6 hcut y h9 i0 z0 z1 hR;go_upto_region 5 with fail
   go_region_held3 (fun w'=>A w' K.pm 4 (F g l.length c)/\A w' K.pm 5 (I (M.cur:Int))/\A w' g (M.cur*5) (.slice pa q.b.params.length pc)/\A w' g (M.cur*5+1) (.slice oa q.ol.length oc)/\A w' g (M.cur*5+2) (I q.b.term.kind)/\A w' g (M.cur*5+3) (I q.b.term.a)/\A w' g (M.cur*5+4) (.slice ea q.b.term.to.length ec))
    ((refine f5.out _ ?_;repeat' (first|exact Below.refl _ _|refine Below.drew ?_|refine Below.alloc ?_ (by simp<;>omega) _|refine Below.setCell ?_ (by simp<;>omega) _)))
    (fail)
   go_upto_region 6 with fail;have a2:O wc ((wc.alloc (T #[.slice pa q.b.params.length pc,.slice oa q.ol.length oc,I q.b.term.kind,I q.b.term.a,.slice ea q.b.term.to.length ec] 84)).drew):=((Below.refl _ _).alloc (Je _) _).drew;have c0:Q ((wc.alloc (T #[.slice pa q.b.params.length pc,.slice oa q.ol.length oc,I q.b.term.kind,I q.b.term.a,.slice ea q.b.term.to.length ec] 84)).drew) wc.heap.size #[.slice pa q.b.params.length pc,.slice oa q.ol.length oc,I q.b.term.kind,I q.b.term.a,.slice ea q.b.term.to.length ec] 84:=zI rfl;generalize j4:(wc.alloc (T #[.slice pa q.b.params.length pc,.slice oa q.ol.length oc,I q.b.term.kind,I q.b.term.a,.slice ea q.b.term.to.length ec] 84)).drew=V2 at *;have a3:=HC.out.1.keep a2;have e6:=HC.out.2.2.1.step (Stp.of_below a2) (fun k hk=>a2.block k (HC.out.2.2.1.own.lt k hk).2) (fun _ e=>e);have a0:=zH a2 a9 j1;have l1:=zA (i:=1) c0 rfl;have x0:=zA (i:=0) a0 rfl;have x1:=zA (i:=1) a0 rfl;have x2:=zA (i:=2) a0 rfl;have x3:=zA (i:=3) a0 rfl;have x4:=zA (i:=4) a0 rfl;have x5:=zA (i:=5) a0 rfl;have i7:=lt_of_block c0;have b0:=e6.own;rw[HC.out.2.2.2.2.2.1] at b0;have d6:yM (V2.alloc (T #[I o.code,I R,I o.a,I o.b,U (o.n:Int),.slice aa o.args.length ac] 76)) 6 (F V2.heap.size 1 1) 1 (zU ({o with res:=R },.slice aa o.args.length ac)):=yM.cells (zI rfl) rfl (by simp[zU,Value.oneCell'])
   have hn:q.ol.length<=1000000:=by
    have h1:=opsN_le HC.out.2.2.2.1;rw[HC.out.2.2.1.ops,Nr] at h1;have h2:=HC.out.1.bnd;unfold MS.sz at h2;simp only at h2;omega
   have HV:=Ja (Jb a2 (Jb c0 (Jb a3 (Jb e6 (Jb a0 (Jb b0 (Jb d6 hn)))))));have j5:K.B<=V2.heap.size:=a3.size;obtain⟨ii,j0,h6,h5,h4⟩:=info_parts Tryz.info_irop;clear a2 c0 a3 e6 a0 b0 d6 j4 a9 f5 hn;go_upto_region 7 with(at_builtin;go_must (refine zK _ rfl (.tmp 33) (.tmp 35) 77 rfl K.B 76 ii (.agg #[I 0,I 0,I 0,I 0,U 0,L]) 6 64 Tryz.underlying77 j0 h6 h5 h4 rfl Zd (.slice oa q.ol.length oc) q.ol.length (q.ol.flatMap zU) rfl (HV.out.2.2.2.2.2.1.alloc _) _ 1 (zU ({o with res:=R },.slice aa o.args.length ac)) rfl HV.out.2.2.2.2.2.2.1 (by have:=HV.out.2.2.2.2.2.2.2;unfold maxLen;omega) (by have:=HV.out.2.2.2.2.2.2.2;omega) Zt ?_;intro v9 w9 j d a4;obtain⟨oa9,oc9,rfl⟩:=zG j;have hz:=zL d (zB HV.out.2.1) (by have:=zC HV.out.2.2.2.2.2.1 HV.out.2.1 (.inr Zd);exact this);have c9:=zA (i:=1) hz rfl;have i4:N w9 wc.heap.size 1:=zE hz))
   have f9:q.ov.ownBlock≠some g:=fun e=>by
    rcases zo HC.out.2.2.1.own HC.out.1.own Zd with h1|h1
    ·rw[h1] at e;cases e
    ·exact h1 (by rw[e];rfl)
   have d7:(Value.slice oa q.ol.length oc).ownBlock=q.ov.ownBlock:=by rw[HC.out.2.2.2.2.2.1]
   rw[d7] at d a4
   have c3:(w9.setCell ⟨wc.heap.size,1,none⟩ (.slice oa9 (q.ol.length+1) oc9)).ownsRow K.B 84 5 (F g l.length c) l.length (l.flatMap xG):=yD HC.out.1.own (fun k e=>by
    have e2:k=g:=by simp[Value.ownBlock] at e;exact e.symm
    subst e2
    exact(Below.heap_setCell w9 ⟨wc.heap.size,1,none⟩ _ k (by show k≠wc.heap.size;omega)).trans ((d.block k (by have:=HV.out.1.size;simp;omega) (fun e3=>f9 e3.symm)).trans ((Below.heap_alloc V2 _ k (by have:=HV.out.1.size;omega)).trans (HV.out.1.block k a8))))
   have e7:q.ov.ownBlock≠some K.pm:=fun e=>zC HC.out.2.2.1.own HC.out.1.blk (.inr Zd) e
   have b7:=zR (a:=⟨wc.heap.size,1,none⟩) (u:=.slice oa9 (q.ol.length+1) oc9) (zL d (zB HV.out.2.2.1.blk) e7) (by show K.pm≠wc.heap.size;omega);have a7:=zD hz (i:=1) (.slice oa9 (q.ol.length+1) oc9);have c4:A (w9.setCell ⟨wc.heap.size,1,none⟩ (.slice oa9 (q.ol.length+1) oc9)) K.pm 4 (F g l.length c):=zA (i:=4) b7 rfl;have c5:A (w9.setCell ⟨wc.heap.size,1,none⟩ (.slice oa9 (q.ol.length+1) oc9)) K.pm 5 (I (M.cur:Int)):=zA (i:=5) b7 rfl;have l0:=zA (i:=0) a7 rfl;have l1:=zA (i:=1) a7 rfl;have l2:=zA (i:=2) a7 rfl;have l3:=zA (i:=3) a7 rfl;have l4:=zA (i:=4) a7 rfl;have HG:=Ja (Jb j (Jb d (Jb a4 (Jb hz c3))));have d3:=zq Zd yr c3 rfl HC.out.2.1;generalize f3:w9.setCell ⟨wc.heap.size,1,none⟩ (.slice oa9 (q.ol.length+1) oc9)=W10 at c4 c5 l0 l1 l2 l3 l4 d3 ⊢;have f4:=Ja f3;have g4:=Ja d3;clear j d a4 hz c9 i4 b7 a7 f9 d7 c3 e7 d3 f3 x0 x1 x2 x3 x4 x5 j5;refine zt 11 Zk Zk ?_;simp only[Qo,Uc,Qp,Ui]
   repeat (go_big_quiet_step (fail))
   refine wpQuiet_nil ?_;refine wpList_store_mid rfl 84 (.tmp 48) (.tmp 47) rfl g (M.cur*5) #[.slice pa q.b.params.length pc,.slice oa9 (q.ol.length+1) oc9,I q.b.term.kind,I q.b.term.a,.slice ea q.b.term.to.length ec] rfl rfl g4.out Zk (by simp[Value.oneCell']) ?_;go_upto_region 8 with fail
   have h7:∃X',MkIn (W10.drew.setCells g (M.cur*5) [.slice pa q.b.params.length pc,.slice oa9 (q.ol.length+1) oc9,I q.b.term.kind,I q.b.term.a,.slice ea q.b.term.to.length ec]) K X' {M with next:=uN M o.code,f:=M.f.set M.cur {q.b with ops:=q.b.ops++ [{o with res:=R }]}} (F g l.length c) vv (l.set M.cur ⟨{q.b with ops:=q.b.ops++ [{o with res:=R }]},q.pv,.slice oa9 (q.ol.length+1) oc9,q.tv,q.ol++ [({o with res:=R },.slice aa o.args.length ac)]⟩)
    /\Stp X wc X' (W10.drew.setCells g (M.cur*5) [.slice pa q.b.params.length pc,.slice oa9 (q.ol.length+1) oc9,I q.b.term.kind,I q.b.term.a,.slice ea q.b.term.to.length ec]):=by
    obtain⟨h,hq,a6,hb,b5,b1,b4,a9,hs⟩:=HC.out;obtain⟨j,d,a4,hz,c3⟩:=HG.out;refine h.putO (M':= {M with next:=uN M o.code,f:=M.f.set M.cur {q.b with ops:=q.b.ops++ [{o with res:=R }]}}) hq rfl (HV.out.1.alloc HV.out.1.size _) d j (fun k e=>?_) (Je _) hz ⟨.slice oa9 (q.ol.length+1) oc9,?_⟩ ⟨?_,H.out.2.2.1.step zn (hs.av K)⟩ rfl ⟨rfl,rfl,rfl,rfl,rfl⟩ ?_
    ·rcases a4 with e2|e2
     ·exact .inl (by rw[<-e2];exact e)
     ·right;have e3:=e2.symm.trans e;have:=HV.out.1.size;simp at e3;omega
    ·rw[<-f4.out];unfold xG;rw[b5,b4]
    ·obtain⟨o1,o2,o3,o4,o5⟩:=H.out.2.1;refine⟨o1,?_,o3,o4,o5⟩;rw[<-HR.out];unfold sB;have:M.next<=M.sz:=by unfold MS.sz;omega
     have:=H.out.2.2.2.2.2
     show I64 (if uc o.code then(M.next:Int) else -1)
     split<;>exact⟨by omega,by omega⟩
    ·have h1:=sN M.f M.cur q.b {q.b with ops:=q.b.ops++ [{o with res:=R }]} hb;simp at h1;have h2:=H.out.2.2.2.2.2;unfold MS.sz at h2 ⊢;unfold uN;simp only[Nd]
     split<;>omega
   obtain⟨X',hm,d5⟩:=h7;have d4:=HC.out.2.2.2.2.2.2.2.2.trans d5;have b2:=d5.blk HC.out.2.2.2.2.2.2.2.1 (fun e=>by have:=H.out.1.xl _ e;omega);generalize j2:W10.drew.setCells g (M.cur*5) [.slice pa q.b.params.length pc,.slice oa9 (q.ol.length+1) oc9,I q.b.term.kind,I q.b.term.a,.slice ea q.b.term.to.length ec]=WF at *;generalize l.set M.cur ⟨{q.b with ops:=q.b.ops++ [{o with res:=R }]},q.pv,.slice oa9 (q.ol.length+1) oc9,q.tv,q.ol++ [({o with res:=R },.slice aa o.args.length ac)]⟩=lst at *;rw[HR.out] at b2;have x1:=zA (i:=1) b2 rfl;have y:=Ja (Jb hm (Jb d4 b2))
   have g1: {M with next:=uN M o.code,f:=M.f.set M.cur {q.b with ops:=q.b.ops++ [{o with res:=R }]}}= {M.emit o with vals:=M.vals }:=by
    unfold MS.emit;rw[xI HC.out.2.2.2.1,<-HR.out];rfl
   have g5:=Ja g1;clear hm d5 d4 b2 j2 g1 c4 c5 l0 l1 l2 l3 l4 HG g4 f4 HV i7;obtain⟨r,hr⟩:∃r,uc o.code=r:=⟨_,rfl⟩
   have c8:=Ja hr;clear hr;cases r
   ·obtain rfl:R=-1:=by rw[<-HR.out];unfold sB;rw[c8.out];rfl
    go_wp2;go_ret;have a1:=y.out.1;rw[g5.out] at a1;have e: {M.emit o with vals:=M.vals }=M.emit o:=by unfold MS.emit;rw[c8.out];rfl
    rw[e] at a1;exact⟨zh HR.out.symm,X',⟨_,_,_,a1⟩,y.out.2.1⟩
   ·obtain rfl:R=(M.next:Int):=by rw[<-HR.out];unfold sB;rw[c8.out];rfl
    obtain⟨va,vc,d2⟩:=zG y.out.1.vown;have j:=y.out.1.vown;have c7:=y.out.1.c7;have f7:=y.out.1.free 7;have f8:=lt_of_block y.out.1.blk;have nb:=zC j y.out.1.blk (.inr Zd);rw[d2] at j c7 nb;have h8:=Ja j;have k3:=Ja d2
    have k7:M.vals.length<=1000000:=by
     have h2:=H.out.2.2.2.2.2;unfold MS.sz at h2;omega
    have k2:∀o,A (WF.alloc o) K.pm 7 (.slice va M.vals.length vc):=fun o=>(Oo (w:=WF) (Below.heap_alloc _ _ _ f8)).trans c7
    have k1:∀o,N (WF.alloc o) K.pm 7:=fun o=>(Qm (w:=WF) (Below.heap_alloc _ _ _ f8)).trans f7
    have i1:∀o,A (WF.alloc o) w.heap.size 1 (I (M.next:Int)):=fun o=>(Oo (w:=WF) (Below.heap_alloc _ _ _ (lt_of_block y.out.2.2))).trans x1
    have i3:=zC j y.out.2.2 (.inr Zd);have m2:K.B<=WF.heap.size:=y.out.1.size;have k5:=lt_of_block y.out.2.2;obtain⟨ij,i9,h0,g8,g6⟩:=info_parts Tryz.info_int;clear j d2;go_upto_region 9 with fail
    go_region_law (first|(refine step_append_lies _ (by rfl) (.tmp 56) (.tmp 59) _ (by rfl) K.B 3 ij (I 0) 1 8 Tryz.underlying22 i9 h0 g8 g6 rfl Zo (.slice va M.vals.length vc) M.vals.length (M.vals.map zN) (by rfl) ((h8.out.alloc _).drew) ⟨WF.heap.size,0,none⟩ 1 1 [I (M.next:Int)] (by rfl) (by rfl) (Oi (cs:=#[I (M.next:Int)]) (t:=3) (fr:=(0,0)) (heap_alloc_new WF _)) (by simp[Value.oneCell']) Zo (by unfold maxLen;omega) Zo Zt (WF.heap.size+1) Zs ?_;intro gg b3 w3 f6 d a4 k4;have m4:=(d.cell_far ⟨K.pm,7,none⟩ Zt (Ne.symm nb)).trans (k2 _);have m3:=(d.frozen_far ⟨K.pm,7,none⟩ Zt (Ne.symm nb)).trans (k1 _);have bp3:=(d.cell_far ⟨w.heap.size,1,none⟩ Zt (Ne.symm i3)).trans (i1 _)))
    all_goals go_wp2_with fail
    all_goals go_ret
    all_goals (
     have c9:(show MS from {M with next:=uN M o.code,f:=M.f.set M.cur {q.b with ops:=q.b.ops++ [{o with res:=(M.next:Int)}]}}).sz+1<=1000000:=by
      have h1:=sN M.f M.cur q.b {q.b with ops:=q.b.ops++ [{o with res:=(M.next:Int)}]} HC.out.2.2.2.1;simp at h1;have h2:=H.out.2.2.2.2.2;unfold MS.sz at h2 ⊢;unfold uN;simp only[Nd]
      split<;>omega
     have g2:=xN d;rw[<-k3.out] at g2 a4
     have hP:=y.out.1.putV (vv':=F gg (M.vals.length+1) b3) (x:=(M.next:Int)) g2 f6 (fun k e=>by
      have e2:gg=k:=by simpa[Value.ownBlock] using e
      subst e2;rcases a4 with e3|e3
      ·exact .inl e3
      ·right;omega) (by have:=H.out.2.2.2.2.2;have:M.next<=M.sz:=by(unfold MS.sz;omega)
                        exact⟨by omega,by omega⟩) c9
     have a1:=hP.1
     have e:(show MS from {(show MS from {M with next:=uN M o.code,f:=M.f.set M.cur {q.b with ops:=q.b.ops++ [{o with res:=(M.next:Int)}]}}) with vals:=M.vals++ [(M.next:Int)]})=M.emit o:=by
      have:=g5.out;have h3:(M.emit o).vals=M.vals++ [(M.next:Int)]:=by unfold MS.emit;rw[c8.out];rfl
      rw[<-h3];exact congrArg (fun m:MS=> {m with vals:=(M.emit o).vals }) this
     have e5:=congrArg (fun m=>MkIn (w3.setCell ⟨K.pm,7,none⟩ (F gg (M.vals.length+1) b3)) K (fun k=>X' k∨(Value.slice (some ⟨gg,0,none⟩) (M.vals.length+1) b3).ownBlock=some k) m (F g l.length c) (F gg (M.vals.length+1) b3) lst) e
     exact⟨zh HR.out.symm,_,⟨_,_,_,cast e5 a1⟩,y.out.2.1.trans hP.2⟩)
theorem emRes_of(h:uc c=true):sB M c=(M.next:Int):=by unfold sB;rw[h];rfl
theorem vG (x:Int)(h1:-1000000<=x)(h2:x<=1000000):I64 x:=⟨by omega,by omega⟩
theorem yF (x:Int)(h:(decide (-1000000<=x) && decide (x<=1000000))=true):I64 x:=by
 simp only[Jm,decide_eq_true_eq] at h;exact vG x h.1 h.2
theorem conOp_ok {n:Nat}(c:n<65536):qN (conOp n):=⟨yF _ rfl,yF _ rfl,yF _ rfl,yF _ rfl,c⟩
theorem ks(h:wW w K X M){n:Nat}(j:n<65536)(d:M.cur<M.f.length)(g:M.sz+3<=1000000):
 G 114 #[Y K.pm,U n] w (yk K X w (M.num n) (I (M.next:Int))):=by
 have c:=rD h (conOp_ok j) yE.nil d g;rw[emRes_of (show uc (conOp n).code=true from rfl)] at c;have i:=Ja (show G 132 #[Y K.pm,.agg #[I 1,I 0,I 0,I 0,U n,L]] w (yk K X w (M.num n) (I (M.next:Int))) from c);clear h c d g;go_enter Tryz.func114,Tryz.ntmps114;go_wp2_with (go_at_call 132;go_must (refine i.out.mono ?_;rintro e w1 ⟨rfl,hm⟩))
 go_ret;exact⟨rfl,hm⟩
theorem MkIn.valAt{fv:Value}{g n c:Nat}(h:MkIn w K X M fv (F g n c) l)(hi:i<M.vals.length):A w g i (I (M.vals.getD i 0)):=by
 have:=h.vown.cells rfl i (I (M.vals.getD i 0)) (by rw[Jr,Jd hi,Jj,Jd hi];rfl);rw[Addr.add_mid,Ng] at this;exact this
theorem pu(h:wW w K X M)(a6:M.cur<M.f.length)(hz:M.sz+4<=1000000):
 G 58 #[Y K.pm] w (yk K X w (zJ K.E M).2 (I (zJ K.E M).1)):=by
 obtain⟨fv,vv,l,h⟩:=h;have c7:=h.c7;have u:=h.vown;obtain⟨va,vc,rfl⟩:=zG u;have b6:M.vals.length<=1000000:=by unfold MS.sz at hz;omega
 have H:=Ja (Jb h (Jb a6 hz));clear h a6 hz
 by_cases h0:M.vals.length=0
 ·have d:zJ K.E M=((M.next:Int),M.tick.num (tkV K.E M 9)):=by unfold zJ;rw[if_pos h0]
  have c0:=Ja d;have t0:((M.vals.length:Int)==0)=true:=by rw[beq_iff_eq];omega
  have b4:(M.vals.length==0)=true:=by rw[beq_iff_eq];omega
  have a9:=uD H.out.1 (n:=9) Zd Zd (by have:=H.out.2.2;omega);have a4:=aaE K.E M (n:=9) Zd;have HT:=Ja a9;clear d u h0 a9;go_enter Tryz.func58,Tryz.ntmps58;go_wp2_with (first|(go_at_call 55;go_must (refine HT.out.mono ?_;rintro e w1 ⟨rfl,y,q⟩))|(go_at_call 114;go_must (refine(ks y.at (n:=tkV K.E M 9) Zo H.out.2.1 (by have:=(zT M).sz;have:=H.out.2.2;omega)).mono ?_;rintro e w2 ⟨rfl,X2,c,j⟩)))
  go_ret;rw[c0.out];exact⟨rfl,X2,c,q.trans j⟩
 ·have hp:0<M.vals.length:=Zo;obtain⟨g,c8,e,c5,c4⟩:=u.form hp;cases e;have t0:((M.vals.length:Int)==0)=false:=Ze;have b4:(M.vals.length==0)=false:=by rw[beq_eq_false_iff_ne];omega
  have b9:=Ja (uD H.out.1 (n:=M.vals.length) hp b6 (by have:=H.out.2.2;omega));have a4:=aaE K.E M hp;clear h0 u;go_enter Tryz.func58,Tryz.ntmps58;go_upto_region 4 with(go_at_call 55;go_must (refine b9.out.mono ?_;rintro e w1 ⟨rfl,y,q⟩))
  have a8:=Ja (uD y (n:=3) Zd Zd (by have:=(zT M).sz;have:=H.out.2.2;omega));obtain⟨z3,k⟩:∃z,tkV K.E M.tick 3=z:=⟨_,rfl⟩
  rw[k] at a8;obtain⟨z0,o⟩:∃z,tkV K.E M M.vals.length=z:=⟨_,rfl⟩
  rw[o] at a4
  try rw[o]
  by_cases h3:0<z3
  ·have b7:(0:Int)<(z3:Int):=Zo;have d:zJ K.E M=(M.vals.getD (M.vals.length-1-tkV K.E M.tick.tick (min 4 M.vals.length)) 0,M.tick.tick.tick):=by unfold zJ;rw[if_neg Zo,if_pos (by rw[k];exact h3)]
   have hZ:=Ja (Jb d (Jb k o));clear d k o;go_upto_region 5 with(go_at_call 55;go_must (refine a8.out.mono ?_;rintro e w2 ⟨rfl,c,j⟩))
   have x:0<min 4 M.vals.length:=Zo;have b3:∀(ts:Array TypeId) (t:TypeId) (W:World),(Builtin.min_ ts t #[I 4,I (M.vals.length:Int)]).run Tryz.prog W=.ok (I ((min 4 M.vals.length:Nat):Int)) W:=fun ts t W=>by rw[show((min 4 M.vals.length:Nat):Int)=if(M.vals.length:Int)<(4:Int) then(M.vals.length:Int) else 4 by split<;>omega];exact run_min_int2 ..
   have a7:=Ja (uD (c.keep (Below.refl _ _).drew) (n:=min 4 M.vals.length) x Zo (by have:=(zT M).sz;have:=(zT M.tick).sz;have:=H.out.2.2;omega));have a3:=aaE K.E M.tick.tick x;obtain⟨z4,a0⟩:∃z,tkV K.E M.tick.tick (min 4 M.vals.length)=z:=⟨_,rfl⟩
   rw[a0] at a7 a3;obtain⟨mn,a1⟩:∃m,min 4 M.vals.length=m:=⟨_,rfl⟩
   rw[a1] at a7 b3 a3;have c3:mn<=M.vals.length:=Zo;have b8:=Ja (Jb a0 a1);have d7:=c.c7;have c2:=Ja (Jb c (q.trans j));clear a0 a1 y q c j c7 x
   go_region_held3 (fun w'=>A w' K.pm 7 (F g M.vals.length vc)) (first|exact d7|assumption|(exact MkIn.c7 Zz))
    ((go_at_call 55;refine a7.out.mono ?_;rintro e w3 ⟨rfl,a2,b1⟩))
   have hv:=a2.valAt (i:=M.vals.length-1-z4) (show M.vals.length-1-z4<M.vals.length by omega);obtain⟨ix,a5⟩:∃ix:Nat,M.vals.length-1-z4=ix:=⟨_,rfl⟩
   have b2:IntKind.i64.wrap (IntKind.i64.wrap ((M.vals.length:Int)-1)-(z4:Int))=(ix:Int):=by
    rw[Om ((M.vals.length:Int)-1) Zo,Om _ Zo];omega
   rw[b2];rw[a5] at hv;have b5:(ix:Int)<(M.vals.length:Int):=Zo;have b0:=c2.out.2.trans ((Stp.of_below (Below.refl _ _).drew).trans b1);have HR:=Ja (Jb a2 (Jb b0 a5));clear a2 b0 b1 a5 b2 d7;go_wp2;go_ret;rw[hZ.out.1];exact⟨zh (by rw[b8.out.1,HR.out.2.2,Jj];rfl),X,HR.out.1.at,HR.out.2.1⟩
  ·have b7:¬(0:Int)<(z3:Int):=Zo;have d:zJ K.E M=(M.vals.getD z0 0,M.tick.tick):=by unfold zJ;rw[if_neg Zo,if_neg (by rw[k];exact h3),o]
   have hZ:=Ja d;clear d k o;go_upto_region 6 with(go_at_call 55;go_must (refine a8.out.mono ?_;rintro e w2 ⟨rfl,c,j⟩))
   have hv:=c.valAt (i:=z0) a4;have d7:=c.c7;have b5:(z0:Int)<(M.vals.length:Int):=Zo;have HR:=Ja (Jb c (q.trans j));clear c q j y;go_wp2;go_ret;rw[hZ.out];exact⟨rfl,X,HR.out.1.at,HR.out.2⟩
structure Row where
 v:Value
 e:TypeId
 sz:Nat
 n:Nat
 cs:List Value
def Row.blk (r:Row):Option Nat:=r.v.ownBlock
variable {rs rs':List Row}{r':Row}
structure Rows (w:World) (B:Nat) (rs:List Row):Prop where
 own:∀r∈rs,w.ownsRow B r.e r.sz r.v r.n r.cs
 nd:(rs.filterMap Row.blk).Nodup
theorem Rows.perm{B:Nat}(h:Rows w B rs)(hp:rs.Perm rs'):Rows w B rs':=
 ⟨fun r hr=>h.own r (hp.mem_iff.2 hr),(hp.filterMap Row.blk).nodup_iff.1 h.nd⟩
theorem Rows.lt{B:Nat}(h:Rows w B rs)(hk:k∈rs.filterMap Row.blk):B<=k/\k<w.heap.size:=by
 obtain⟨r,hr,e⟩:=Nj.1 hk;exact(h.own r hr).lt k e
theorem Rows.keep{B:Nat}(h:Rows w B rs)(hk:∀k∈rs.filterMap Row.blk,w'.heap[k]? =w.heap[k]?):Rows w' B rs:=
 ⟨fun r hr=>yD (h.own r hr) (fun k e=>hk k (Nj.2 ⟨r,hr,e⟩)),h.nd⟩
theorem Rows.below{B:Nat}(h:Rows w B rs)(hb:O w w'):Rows w' B rs:=h.keep fun k hk=>hb.block k (h.lt hk).2
theorem Rows.base{B B':Nat}(h:Rows w B rs)(hB:B'<=B):Rows w B' rs:=⟨fun r hr=>vY (h.own r hr) hB,h.nd⟩
theorem Rows.tail{B:Nat}{r:Row}(h:Rows w B (r::rs)):Rows w B rs:=by
 refine⟨fun x hx=>h.own x (List.mem_cons_of_mem _ hx),?_⟩;have:=h.nd;rw[List.filterMap_cons] at this
 split at this
 ·exact this
 ·exact(Qt.1 this).2
theorem Rows.right{B:Nat}(h:Rows w B (rs++rs')):Rows w B rs':=by
 induction rs with
 |nil=>exact h
 |cons r rs ih=>exact ih h.tail
theorem Rows.apart{B:Nat}{r:Row}(h:Rows w B (r::rs)){g:Nat}(hg:r.blk=some g):g ∉ rs.filterMap Row.blk:=by
 have:=h.nd;rw[List.filterMap_cons,hg] at this;exact(Qt.1 this).1
theorem Rows.cons{B:Nat}{r:Row}(h:Rows w B rs)(hr:w.ownsRow B r.e r.sz r.v r.n r.cs)(d:∀g,r.blk=some g->g ∉ rs.filterMap Row.blk):Rows w B (r::rs):=by
 refine⟨fun x c=>?_,?_⟩
 ·rcases Jq.1 c with rfl|c
  ·exact hr
  ·exact h.own x c
 ·rw[List.filterMap_cons]
  split
  ·exact h.nd
  ·rename_i g hg
   exact Qt.2 ⟨d g hg,h.nd⟩
theorem Rows.nil{B:Nat}:Rows w B []:=⟨fun r hr=>by simp at hr,by simp⟩
theorem Rows.append{B:Nat}(h:Rows w B rs)(c:Rows w' w.heap.size rs')(hb:O w w')(hB:B<=w.heap.size):Rows w' B (rs'++rs):=by
 have h1:=h.below hb;have h2:=c.base hB;refine⟨fun r hr=>(Jl.1 hr).elim (h2.own r) (h1.own r),?_⟩;rw[List.filterMap_append];refine Qq.2 ⟨c.nd,h.nd,fun a ha b hb' e=>?_⟩;have e1:=(c.lt ha).1;have e2:=(h.lt hb').2;omega
theorem Rows.grow{w1:World}{B:Nat}{r:Row}(h:Rows w B (r::rs))(hb:O w w1)(hg:w1.grownBy w' r.blk)(c:w'.ownsRow B r'.e r'.sz r'.v r'.n r'.cs)(d:∀k,r'.blk=some k->r.blk=some k∨w.heap.size<=k):Rows w' B (r'::rs):=by
 have ht:Rows w' B rs:=h.tail.keep fun k hk=>(hg.block k (Jy (h.tail.lt hk).2 hb.size) (fun e=>h.apart e.symm hk)).trans (hb.block k (h.tail.lt hk).2)
 refine ht.cons c fun g e hg2=>?_
 rcases d g e with e2|e2
 ·exact h.apart e2 hg2
 ·have:=(h.tail.lt hg2).2;omega
theorem Rows.put{B:Nat}{r:Row}(h:Rows w B (r::rs)){g:Nat}(hg:r.blk=some g)(hk:∀k,k≠g->w'.heap[k]? =w.heap[k]?)(c:w'.ownsRow B r'.e r'.sz r'.v r'.n r'.cs)(hv:r'.v=r.v):Rows w' B (r'::rs):=by
 have ht:Rows w' B rs:=h.tail.keep fun k hk2=>hk k (fun e=>h.apart hg (by rw[<-e];exact hk2))
 refine ht.cons c fun g2 e hg2=>?_
 refine h.apart (g:=g2) ?_ hg2;unfold Row.blk at e ⊢;rw[<-hv];exact e
structure BT where
 params:List Int
 pv:Value
 ops:List (IOp×Value)
 ov:Value
 kind:Int
 a:Int
 tos:List (IEdge×Value)
 tv:Value
structure FT where
 blks:List BT
 bv:Value
structure PT where
 funcs:List FT
 fv:Value
 args:List Int
 av:Value
 data:List IObj
 dv:Value
 banks:List ByteArray
 bv:Value
 entry:Int
 handler:Int
def BT.blk (b:BT):IBlk:=⟨b.params,b.ops.map (·.1),⟨b.kind,b.a,b.tos.map (·.1)⟩⟩
def zz (b:BT):List Value:=[b.pv,b.ov,I b.kind,I b.a,b.tv]
def FT.fn (f:FT):List IBlk:=f.blks.map BT.blk
def PT.prog (t:PT):IProg:=⟨t.funcs.map FT.fn,t.args,t.entry,t.handler,t.data,t.banks⟩
def PT.V (t:PT):PV:=⟨t.fv,t.av,t.dv,t.bv⟩
def zP (v:Value)(xs:List Int):Row:=⟨v,3,1,xs.length,xs.map zN⟩
def re (v:Value)(l:List (IOp×Value)):Row:=⟨v,76,6,l.length,l.flatMap zU⟩
def xg (v:Value)(l:List (IEdge×Value)):Row:=⟨v,79,2,l.length,l.flatMap za⟩
def zd (v:Value)(l:List BT):Row:=⟨v,84,5,l.length,l.flatMap zz⟩
def xP (o:IObj):List Value:=[I o.bank,U (o.addr:Int),U (o.size:Int)]
def wY (v:Value)(l:List FT):Row:=⟨v,39,1,l.length,l.map (·.bv)⟩
def vK (v:Value)(l:List IObj):Row:=⟨v,89,3,l.length,l.flatMap xP⟩
def v8 (v:Value)(l:List ByteArray):Row:=⟨v,9,1,l.length,l.map .string⟩
def g9 (l:List (IOp×Value)):List Row:=l.map fun o=>zP o.2 o.1.args
def ve (l:List (IEdge×Value)):List Row:=l.map fun o=>zP o.2 o.1.args
def BT.rows (b:BT):List Row:=zP b.pv b.params::re b.ov b.ops::xg b.tv b.tos::(g9 b.ops++ve b.tos)
variable {bt':BT}
def FT.rows (f:FT):List Row:=zd f.bv f.blks::f.blks.flatMap BT.rows
def PT.rows (t:PT):List Row:=wY t.fv t.funcs::zP t.av t.args::vK t.dv t.data::v8 t.bv t.banks::t.funcs.flatMap FT.rows
structure B64 (b:IBlk):Prop where
 par:∀x∈b.params,I64 x
 ops:∀o∈b.ops,qN o/\∀x∈o.args,I64 x
 term:I64 b.term.kind/\I64 b.term.a
 tos:∀e∈b.term.to,I64 e.block/\∀x∈e.args,I64 x
structure P64 (p:IProg):Prop where
 funcs:∀f∈p.funcs,∀b∈f,B64 b
 args:∀x∈p.args,I64 x
 data:∀o∈p.data,I64 o.bank/\o.addr<65536/\o.size<65536
 banks:∀s∈p.banks,s.size<=9223372036854775807
 ent:I64 p.entry
 hnd:I64 p.handler
theorem wC{α β:Type}{sz:Nat}{f:β->List Value}{g:β->α}{R:World->Nat->Nat->Nat->α->Prop}(t:0<sz)(hf:∀a,(f a).length=sz){S:Nat}{e:TypeId}{v:Value}{l:List β}(h:w.ownsRow S e sz v l.length (l.flatMap f))
 (m:∀q∈l,∀b o,(∀j u,(f q)[j]? =some u->A w b (o+j) u)->R w w.heap.size b o (g q)):yN sz R w w.heap.size v (l.map g):=by
 obtain⟨a,c,rfl⟩:=zG h;have hl:=zm h;refine⟨a,c,by rw[Nr],by rw[Nr];exact hl.1,by omega,fun k o hk=>?_⟩;rw[Jr,Oz] at hk;obtain⟨q,hq,rfl⟩:=hk;have d:=(Jh.1 hq).1;obtain⟨gg,x,e,hg,hb⟩:=h.form Zo;cases e;refine⟨gg,0,rfl,hb,m q (Ji hq) _ _ fun j u hj=>?_⟩;have i:j<sz:=by rw[<-hf q];exact(Jh.1 hj).1
 rw[Ng]
 exact(h.cellAt (k*sz+j) (by
  have:(k+1)*sz<=l.length*sz:=Qw sz d;rw[Nat.add_mul] at this
  omega)).trans ((uB f sz hf l k q hq j i).trans hj)
theorem pT{B:Nat}{v:Value}{xs:List Int}(h:w.ownsRow B 3 1 v xs.length (xs.map zN))(h64:∀x∈xs,I64 x):zY w w.heap.size v xs:=by
 have h2:w.ownsRow B 3 1 v xs.length (xs.flatMap fun x=> [zN x]):=by rw[<-Qh];exact h
 have:=wC (sz:=1) (f:=fun x:Int=> [zN x]) (R:=IntR) (g:=fun x:Int=>x) Zd (fun _=>rfl) h2 (fun q hq b o hc=>⟨hc 0 _ rfl,h64 q hq⟩);rw[List.map_id'] at this;exact this
theorem z7 (q:IOp×Value):(zU q).length=6:=rfl
theorem yd (q:IEdge×Value):(za q).length=2:=rfl
theorem zX (q:BT):(zz q).length=5:=rfl
theorem sk (q:IObj):(xP q).length=3:=rfl
theorem BT.in{B:Nat}{b:BT}(h:∀r∈b.rows,w.ownsRow B r.e r.sz r.v r.n r.cs)(h64:B64 b.blk):zY w w.heap.size b.pv b.params/\mN w w.heap.size b.ov (b.ops.map (·.1))/\wH w w.heap.size b.tv (b.tos.map (·.1)):=by
 unfold BT.rows at h;refine⟨pT (h _ (.head _)) h64.par,?_,?_⟩
 ·refine wC Zd z7 (h _ (.tail _ (.head _))) fun q hq b2 o hc=>?_
  have h1:=h64.ops q.1 (Oj hq);exact⟨hc 0 _ rfl,hc 1 _ rfl,hc 2 _ rfl,hc 3 _ rfl,hc 4 _ rfl,h1.1,q.2,hc 5 _ rfl,pT (h (zP q.2 q.1.args) (.tail _ (.tail _ (.tail _ (Jz _ (Oj hq)))))) h1.2⟩
 ·refine wC Zd yd (h _ (.tail _ (.tail _ (.head _)))) fun q hq b2 o hc=>?_
  have h1:=h64.tos q.1 (Oj hq);exact⟨hc 0 _ rfl,h1.1,q.2,hc 1 _ rfl,pT (h (zP q.2 q.1.args) (.tail _ (.tail _ (.tail _ (Qf _ (Oj hq)))))) h1.2⟩
theorem FT.in{B:Nat}{f:FT}(h:∀r∈f.rows,w.ownsRow B r.e r.sz r.v r.n r.cs)(h64:∀b∈f.fn,B64 b):wX w w.heap.size f.bv f.fn:=by
 unfold FT.rows at h;refine wC Zd zX (h _ (.head _)) fun q hq b2 o hc=>?_
 have hb:=h64 q.blk (Oj hq);have h1:=BT.in (w:=w) (B:=B) (b:=q) (fun r hr=>h r (.tail _ (Qx.2 ⟨q,hq,hr⟩))) hb;exact⟨hc 2 _ rfl,hc 3 _ rfl,hb.term,q.pv,q.ov,q.tv,hc 0 _ rfl,hc 1 _ rfl,hc 4 _ rfl,h1.1,h1.2.1,h1.2.2⟩
theorem PT.in{B:Nat}{t:PT}(h:Rows w B t.rows)(h64:P64 t.prog):ProgIn w w.heap.size t.V t.prog:=by
 have h:=h.own;unfold PT.rows at h;refine⟨?_,pT (h _ (.tail _ (.head _))) h64.args,?_,?_,h64.ent,h64.hnd⟩
 ·have h1:w.ownsRow B 39 1 t.fv t.funcs.length (t.funcs.flatMap fun f=> [f.bv]):=by rw[<-Qh];exact h _ (.head _)
  refine wC (sz:=1) (f:=fun f:FT=> [f.bv]) (g:=FT.fn) Zd (fun _=>rfl) h1 fun q hq b2 o hc=>?_
  exact⟨q.bv,hc 0 _ rfl,FT.in (B:=B) (fun r hr=>h r (.tail _ (.tail _ (.tail _ (.tail _ (Qx.2 ⟨q,hq,hr⟩)))))) (h64.funcs q.fn (Oj hq))⟩
 ·have:=wC (sz:=3) (f:=xP) (R:=ObjR) (g:=fun x:IObj=>x) Zd sk (h (vK t.dv t.data) (.tail _ (.tail _ (.head _)))) (fun q hq b o hc=>?_)
  ·rw[List.map_id'] at this;exact this
  ·have h1:=h64.data q hq;exact⟨hc 0 _ rfl,hc 1 _ rfl,hc 2 _ rfl,h1.1,h1.2.1,h1.2.2⟩
 ·have h1:w.ownsRow B 9 1 t.bv t.banks.length (t.banks.flatMap fun s=> [.string s]):=by rw[<-Qh];exact h _ (.tail _ (.tail _ (.tail _ (.head _))))
  have:=wC (sz:=1) (f:=fun s:ByteArray=> [.string s]) (R:=StrR) (g:=fun x:ByteArray=>x) Zd (fun _=>rfl) h1 (fun q hq b o hc=>⟨hc 0 _ rfl,h64.banks q hq⟩);rw[List.map_id'] at this;exact this
theorem iI{α:Type}{f:α->List Value}{n:Nat}(hf:∀a,(f a).length=n){l:List α}{b a:α}(hk:l[k]? =some b)(d:j<n)(g:(f b).set j u=f a):(l.flatMap f).set (k*n+j) u=(l.set k a).flatMap f:=by
 have c:=(Jh.1 hk).1;have hb:l[k]=b:=(Jh.1 hk).2
 have e1:l=l.take k++b::l.drop (k+1):=by
  rw[<-hb,Ue,Qi]
 have hl:(l.take k).length=k:=by simp;omega
 have e2:l.set k a=l.take k++a::l.drop (k+1):=by
  rw[List.set_eq_take_append_cons_drop,if_pos c]
 have e3:l.flatMap f=(l.take k).flatMap f++(f b++(l.drop (k+1)).flatMap f):=by
  conv=>lhs;rw[e1]
  rw[Nx,Qa]
 have h:((l.take k).flatMap f).length=k*n:=by rw[wq f n hf,hl]
 rw[e2,e3,Nx,Qa,Uj _ _ Zo,h,Nat.add_sub_cancel_left,List.set_append_left _ _ (by rw[hf];exact d),g]
theorem yp{α:Type}{f:α->List Value}{n:Nat}{base g:Nat}{e:TypeId}{v:Value}{l:List α}{b a:α}(hf:∀a,(f a).length=n)(h:w.ownsRow base e n v l.length (l.flatMap f))(hg:v.ownBlock=some g)(hk:l[k]? =some b)(d:j<n)(i:(f b).set j u=f a):
 (w.setCell ⟨g,k*n+j,none⟩ u).ownsRow base e n v l.length ((l.set k a).flatMap f):=by
 refine⟨by rw[wq f n hf,Nd],?_⟩;rcases h.2 with⟨rfl,_⟩|⟨g',c,cur,rfl,h1,h2,h3,q,o,m⟩
 ·simp[Value.ownBlock] at hg
 ·simp[Value.ownBlock] at hg;subst hg;refine .inr ⟨g',c,_,rfl,h1,zD h2 u,h3,q,by simpa using o,?_⟩;rw[Array.toList_setIfInBounds,List.take_set,m];exact iI hf hk d i
structure Chg (w:World) (rs:List Row) (w':World):Prop where
 os:w'.os=w.os
 tape:w'.tape=w.tape
 output:w'.output=w.output
 size:w.heap.size<=w'.heap.size
 kept:∀k,k<w.heap.size->k ∉ rs.filterMap Row.blk->w'.heap[k]? =w.heap[k]?
structure SpSt (w:World) (B g i:Nat) (v:Value) (bt:BT) (l:List BT) (rs:List Row):Prop where
 rows:Rows w B (zd v l::(bt.rows++rs))
 at':l[i]? =some bt
 gb:v.ownBlock=some g
theorem Chg.of(h:Chg w rs w')(hs:∀k,k∈rs.filterMap Row.blk->k∈rs'.filterMap Row.blk):Chg w rs' w':=⟨h.os,h.tape,h.output,h.size,fun k hk hn=>h.kept k hk (fun e=>hn (hs k e))⟩
theorem xJ{a:Addr}{r:Row}(h:r.blk=some a.block):Chg w [r] (w.setCell a u):=
 ⟨rfl,rfl,rfl,by simp,fun k hk hn=>Below.heap_setCell _ _ _ _ (fun e=>hn (by rw[Nj];exact⟨r,.head _,by rw[h,e]⟩))⟩
theorem vQ{α β:Type}{f:α->β}{l:List α}{b a:α}(hk:l[k]? =some b)(h:f a=f b):(l.set k a).map f=l.map f:=by
 rw[Ox,h];apply Oq;intro j;rw[Ov]
 split
 ·rename_i e
  subst e;rw[Jr,hk];have:=(Jh.1 hk).1;simp[this]
 ·rfl
theorem pY{α:Type}{f:α->List Value}{l:List α}{b a:α}(hk:l[k]? =some b)(h:f a=f b):(l.set k a).flatMap f=l.flatMap f:=by
 rw[List.flatMap_def,List.flatMap_def,vQ hk h]
section
variable {w:World} {B g i:Nat} {v:Value} {bt:BT} {l:List BT} {rs:List Row} (h:SpSt w B g i v bt l rs)
include h
theorem SpSt.il:i<l.length:=(Jh.1 h.at').1
theorem SpSt.set_at (bt':BT):(l.set i bt')[i]? =some bt':=by rw[Nn h.il]
theorem SpSt.setB(c:j<5)(d:(zz bt).set j u=zz bt')(hr:bt'.rows=bt.rows):SpSt (w.setCell ⟨g,i*5+j,none⟩ u) B g i v bt' (l.set i bt') rs:=by
 refine⟨?_,h.set_at bt',h.gb⟩;rw[hr];refine h.rows.put (r':=zd v (l.set i bt')) h.gb (fun k hk=>Below.heap_setCell _ _ _ _ hk) ?_ rfl
 show(w.setCell ⟨g,i*5+j,none⟩ u).ownsRow B 84 5 v (l.set i bt').length ((l.set i bt').flatMap zz)
 rw[Nd];exact yp zX (h.rows.own _ (.head _)) h.gb h.at' c d
theorem SpSt.sub(c:zz bt'=zz bt)(hr:Rows w' B (zd v l::(bt'.rows++rs))):SpSt w' B g i v bt' (l.set i bt') rs:=by
 refine⟨?_,h.set_at bt',h.gb⟩
 have e:zd v (l.set i bt')=zd v l:=by
  unfold zd;rw[Nd,pY h.at' c]
 rw[e];exact hr
theorem SpSt.setO{ob:Nat}{av:Value}{o':IOp}(hg:bt.ov.ownBlock=some ob)(hk:bt.ops[k]? =some (o,av))(c:j<6)(d:(zU (o,av)).set j u=zU (o',av))(m:o'.args=o.args):
 SpSt (w.setCell ⟨ob,k*6+j,none⟩ u) B g i v {bt with ops:=bt.ops.set k (o',av)} (l.set i {bt with ops:=bt.ops.set k (o',av)}) rs:=by
 have e1:g9 (bt.ops.set k (o',av))=g9 bt.ops:=vQ hk (by simp only;rw[m]);refine h.sub rfl ?_
 have hp:(zd v l::(bt.rows++rs)).Perm (re bt.ov bt.ops::(zd v l::zP bt.pv bt.params::xg bt.tv bt.tos::(g9 bt.ops++ve bt.tos)++rs)):=by
  classical
  unfold BT.rows;refine Jp.2 fun r=>?_
  simp only[Nb,Nf];omega
 have hq:(re bt.ov (bt.ops.set k (o',av))::(zd v l::zP bt.pv bt.params::xg bt.tv bt.tos::(g9 bt.ops++ve bt.tos)++rs)).Perm (zd v l::(({bt with ops:=bt.ops.set k (o',av)}:BT).rows++rs)):=by
  classical
  unfold BT.rows;simp only;rw[e1];refine Jp.2 fun r=>?_
  simp only[Nb,Nf];omega
 refine((h.rows.perm hp).put (r':=re bt.ov (bt.ops.set k (o',av))) hg (fun k hk=>Below.heap_setCell _ _ _ _ hk) ?_ rfl).perm hq
 show(w.setCell ⟨ob,k*6+j,none⟩ u).ownsRow B 76 6 bt.ov (bt.ops.set k (o',av)).length _
 rw[Nd];exact yp z7 ((h.rows.perm hp).own _ (.head _)) hg hk c d
theorem SpSt.setE{ob:Nat}{av:Value}{o o':IEdge}(hg:bt.tv.ownBlock=some ob)(hk:bt.tos[k]? =some (o,av))(c:j<2)(d:(za (o,av)).set j u=za (o',av))(m:o'.args=o.args):
 SpSt (w.setCell ⟨ob,k*2+j,none⟩ u) B g i v {bt with tos:=bt.tos.set k (o',av)} (l.set i {bt with tos:=bt.tos.set k (o',av)}) rs:=by
 have e1:ve (bt.tos.set k (o',av))=ve bt.tos:=vQ hk (by simp only;rw[m]);refine h.sub rfl ?_
 have hp:(zd v l::(bt.rows++rs)).Perm (xg bt.tv bt.tos::(zd v l::zP bt.pv bt.params::re bt.ov bt.ops::(g9 bt.ops++ve bt.tos)++rs)):=by
  classical
  unfold BT.rows;refine Jp.2 fun r=>?_
  simp only[Nb,Nf];omega
 have hq:(xg bt.tv (bt.tos.set k (o',av))::(zd v l::zP bt.pv bt.params::re bt.ov bt.ops::(g9 bt.ops++ve bt.tos)++rs)).Perm (zd v l::(({bt with tos:=bt.tos.set k (o',av)}:BT).rows++rs)):=by
  classical
  unfold BT.rows;simp only;rw[e1];refine Jp.2 fun r=>?_
  simp only[Nb,Nf];omega
 refine((h.rows.perm hp).put (r':=xg bt.tv (bt.tos.set k (o',av))) hg (fun k hk=>Below.heap_setCell _ _ _ _ hk) ?_ rfl).perm hq
 show(w.setCell ⟨ob,k*2+j,none⟩ u).ownsRow B 79 2 bt.tv (bt.tos.set k (o',av)).length _
 rw[Nd];exact yp yd ((h.rows.perm hp).own _ (.head _)) hg hk c d
end
theorem neg_any (w:World){a b:Rg}(d:a.ok)(hb:b.ok):G 70 #[.agg #[U (a.lo:Int),U (a.hi:Int)],.agg #[U (b.lo:Int),U (b.hi:Int)]] w (lx w (vy (-(a.hi:Int)) (-(a.lo:Int)))):=by
 have o:=d.1;have m:=d.2;have c:=hb.1;have l:=hb.2;obtain⟨⟨x,y⟩,hr⟩:∃r,vy (-(a.hi:Int)) (-(a.lo:Int))=r:=⟨_,rfl⟩
 rw[hr]
 have g:∀W,G 71 #[I (-(a.hi:Int)),I (-(a.lo:Int))] W (fun e w'=>e=.returned (.agg #[U x,U y])/\O W w'):=fun W=>by
  have:=aeZ W (lo:=-(a.hi:Int)) (hi:=-(a.lo:Int)) Zo Zo;rw[hr] at this;exact this
 have h:=Ja g;clear g hr d hb;go_enter Tryz.func70,Tryz.ntmps70;go_wp2_with (go_at_call 71;go_must (refine(h.out _).mono ?_;rintro e w1 ⟨rfl,c⟩;have hk:Q w1 (w.heap.size+1+1) #[U 0,U 0] 45:=zH c (zI Zs) Zs;have f0:=zA (i:=0) hk rfl;have f1:=zA (i:=1) hk rfl;have g0:=zE (i:=0) hk;have g1:=zE (i:=1) hk;have j:=lt_of_block hk;have k:=Below.trans (show O w _ from Zv) (c.mono Zy);clear c hk))
 refine bodyPost_ret (v:=.agg #[U x,U y]) ?_ rfl ⟨rfl,Zx⟩;rw[zM rfl];go_simp
theorem add_any (w:World){a b:Rg}(d:a.ok)(hb:b.ok):G 73 #[.agg #[U (a.lo:Int),U (a.hi:Int)],.agg #[U (b.lo:Int),U (b.hi:Int)]] w (lx w (vy ((a.lo:Int)+b.lo) ((a.hi:Int)+b.hi))):=by
 have o:=d.1;have m:=d.2;have c:=hb.1;have l:=hb.2;obtain⟨⟨x,y⟩,hr⟩:∃r,vy ((a.lo:Int)+b.lo) ((a.hi:Int)+b.hi)=r:=⟨_,rfl⟩
 rw[hr]
 have g:∀W,G 71 #[I ((a.lo:Int)+(b.lo:Int)),I ((a.hi:Int)+(b.hi:Int))] W (fun e w'=>e=.returned (.agg #[U x,U y])/\O W w'):=fun W=>by
  have:=aeZ W (lo:=(a.lo:Int)+b.lo) (hi:=(a.hi:Int)+b.hi) Zo Zo;rw[hr] at this;exact this
 have h:=Ja g;clear g hr d hb;go_enter Tryz.func73,Tryz.ntmps73;go_wp2_with (go_at_call 71;go_must (refine(h.out _).mono ?_;rintro e w1 ⟨rfl,c⟩;have hk:Q w1 (w.heap.size+1+1) #[U 0,U 0] 45:=zH c (zI Zs) Zs;have f0:=zA (i:=0) hk rfl;have f1:=zA (i:=1) hk rfl;have g0:=zE (i:=0) hk;have g1:=zE (i:=1) hk;have j:=lt_of_block hk;have k:=Below.trans (show O w _ from Zv) (c.mono Zy);clear c hk))
 refine bodyPost_ret (v:=.agg #[U x,U y]) ?_ rfl ⟨rfl,Zx⟩;rw[zM rfl];go_simp
theorem sub_any (w:World){a b:Rg}(d:a.ok)(hb:b.ok):G 74 #[.agg #[U (a.lo:Int),U (a.hi:Int)],.agg #[U (b.lo:Int),U (b.hi:Int)]] w (lx w (vy ((a.lo:Int)-b.hi) ((a.hi:Int)-b.lo))):=by
 have o:=d.1;have m:=d.2;have c:=hb.1;have l:=hb.2;obtain⟨⟨x,y⟩,hr⟩:∃r,vy ((a.lo:Int)-b.hi) ((a.hi:Int)-b.lo)=r:=⟨_,rfl⟩
 rw[hr]
 have g:∀W,G 71 #[I ((a.lo:Int)-(b.hi:Int)),I ((a.hi:Int)-(b.lo:Int))] W (fun e w'=>e=.returned (.agg #[U x,U y])/\O W w'):=fun W=>by
  have:=aeZ W (lo:=(a.lo:Int)-b.hi) (hi:=(a.hi:Int)-b.lo) Zo Zo;rw[hr] at this;exact this
 have h:=Ja g;clear g hr d hb;go_enter Tryz.func74,Tryz.ntmps74;go_wp2_with (go_at_call 71;go_must (refine(h.out _).mono ?_;rintro e w1 ⟨rfl,c⟩;have hk:Q w1 (w.heap.size+1+1) #[U 0,U 0] 45:=zH c (zI Zs) Zs;have f0:=zA (i:=0) hk rfl;have f1:=zA (i:=1) hk rfl;have g0:=zE (i:=0) hk;have g1:=zE (i:=1) hk;have j:=lt_of_block hk;have k:=Below.trans (show O w _ from Zv) (c.mono Zy);clear c hk))
 refine bodyPost_ret (v:=.agg #[U x,U y]) ?_ rfl ⟨rfl,Zx⟩;rw[zM rfl];go_simp
theorem mul_any (w:World){a b:Rg}(h:a.ok)(hb:b.ok):G 75 #[.agg #[U (a.lo:Int),U (a.hi:Int)],.agg #[U (b.lo:Int),U (b.hi:Int)]] w (lx w (vx (a.lo*b.lo) (a.hi*b.hi))):=by
 have k:=h.1;have g:=h.2;have c:=hb.1;have d:=hb.2;obtain⟨⟨x,y⟩,hr⟩:∃r,vx (a.lo*b.lo) (a.hi*b.hi)=r:=⟨_,rfl⟩
 rw[hr];have t:a.lo*b.lo<=65535*65535:=Nat.mul_le_mul Zo Zo;have q:a.hi*b.hi<=65535*65535:=Nat.mul_le_mul g d;have o:IntKind.i64.wrap ((a.lo:Int)*(b.lo:Int))=(a.lo:Int)*(b.lo:Int):=by rw[<-Int.natCast_mul];exact Om _ ⟨by omega,by omega⟩
 have m:IntKind.i64.wrap ((a.hi:Int)*(b.hi:Int))=(a.hi:Int)*(b.hi:Int):=by rw[<-Int.natCast_mul];exact Om _ ⟨by omega,by omega⟩
 have j:∀W,G 76 #[I ((a.lo:Int)*(b.lo:Int)),I ((a.hi:Int)*(b.hi:Int))] W (fun e w'=>e=.returned (.agg #[U x,U y])/\O W w'):=fun W=>by
  have:=afg W (lo:=a.lo*b.lo) (hi:=a.hi*b.hi) (Nat.mul_le_mul k c) (by have:=Nat.mul_le_mul g d;omega);rw[hr,Int.natCast_mul,Int.natCast_mul] at this;exact this
 have l:=Ja j;clear j hr h hb;go_enter Tryz.func75,Tryz.ntmps75;go_wp2_with (go_at_call 76;go_must (refine(l.out _).mono ?_;rintro e w1 ⟨rfl,c⟩;have hk:Q w1 (w.heap.size+1+1) #[U 0,U 0] 45:=zH c (zI Zs) Zs;have f0:=zA (i:=0) hk rfl;have f1:=zA (i:=1) hk rfl;have g0:=zE (i:=0) hk;have g1:=zE (i:=1) hk;have u:=lt_of_block hk;have a0:=Below.trans (show O w _ from Zv) (c.mono Zy);clear c hk))
 refine bodyPost_ret (v:=.agg #[U x,U y]) ?_ rfl ⟨rfl,Zx⟩;rw[zM rfl];go_simp
theorem and_any (w:World){a b:Rg}(c:a.ok)(hb:b.ok):G 78 #[.agg #[U (a.lo:Int),U (a.hi:Int)],.agg #[U (b.lo:Int),U (b.hi:Int)]] w (lx w (⟨0,min a.hi b.hi⟩)):=by
 have i:=c.1;have h:=c.2;have g:=hb.1;have d:=hb.2;have h1:=min16 a.hi b.hi;obtain⟨m,hm⟩:∃m,min a.hi b.hi=m:=⟨_,rfl⟩
 rw[hm] at h1 ⊢;clear hm c hb;go_enter Tryz.func78,Tryz.ntmps78;go_wp2;refine bodyPost_ret (v:=.agg #[U 0,U m]) ?_ rfl ⟨rfl,Zx⟩;rw[zM rfl];go_simp
theorem lts_any (w:World){a b:Rg}(c:a.ok)(hb:b.ok):G 89 #[.agg #[U (a.lo:Int),U (a.hi:Int)],.agg #[U (b.lo:Int),U (b.hi:Int)]] w (lx w (⟨0,1⟩)):=by
 have i:=c.1;have h:=c.2;have g:=hb.1;have d:=hb.2;go_enter Tryz.func89,Tryz.ntmps89;go_wp2;refine bodyPost_ret (v:=.agg #[U 0,U 1]) ?_ rfl ⟨rfl,Zx⟩;rw[zM rfl];go_simp
theorem af6 (w:World){a b:Rg}(c:a.ok)(hb:b.ok):G 90 #[.agg #[U (a.lo:Int),U (a.hi:Int)],.agg #[U (b.lo:Int),U (b.hi:Int)]] w (lx w (⟨0,255⟩)):=by
 have i:=c.1;have h:=c.2;have g:=hb.1;have d:=hb.2;go_enter Tryz.func90,Tryz.ntmps90;go_wp2;refine bodyPost_ret (v:=.agg #[U 0,U 255]) ?_ rfl ⟨rfl,Zx⟩;rw[zM rfl];go_simp
theorem agq (w:World){a b:Rg}(c:a.ok)(hb:b.ok):G 91 #[.agg #[U (a.lo:Int),U (a.hi:Int)],.agg #[U (b.lo:Int),U (b.hi:Int)]] w (lx w (⟨0,255⟩)):=by
 have i:=c.1;have h:=c.2;have g:=hb.1;have d:=hb.2;go_enter Tryz.func91,Tryz.ntmps91;go_wp2;refine bodyPost_ret (v:=.agg #[U 0,U 255]) ?_ rfl ⟨rfl,Zx⟩;rw[zM rfl];go_simp
theorem not_any (w:World){a b:Rg}(g:a.ok)(hb:b.ok):G 72 #[.agg #[U (a.lo:Int),U (a.hi:Int)],.agg #[U (b.lo:Int),U (b.hi:Int)]] w (lx w ⟨65535-a.hi,65535-a.lo⟩):=by
 have j:=g.1;have i:=g.2;have e1:=not16 a.hi Zo;have e2:=not16 a.lo Zo;obtain⟨x,d⟩:∃x,65535-a.hi=x:=⟨_,rfl⟩
 obtain⟨y,c⟩:∃y,65535-a.lo=y:=⟨_,rfl⟩
 rw[d,c];rw[d] at e1;rw[c] at e2;have q:=Ja (Jb e1 e2);clear g hb d c e1 e2;go_enter Tryz.func72,Tryz.ntmps72;go_wp2;refine bodyPost_ret (v:=.agg #[U (bits .xor .u16 IntKind.u16.max (a.hi:Int)),U (bits .xor .u16 IntKind.u16.max (a.lo:Int))]) ?_ rfl ⟨by rw[q.out.1,q.out.2],Zx⟩;rw[zM rfl];go_simp
theorem or_any (w:World){a b:Rg}(d:a.ok)(hb:b.ok):G 79 #[.agg #[U (a.lo:Int),U (a.hi:Int)],.agg #[U (b.lo:Int),U (b.hi:Int)]] w (lx w ⟨max a.lo b.lo,fu (max a.hi b.hi)⟩):=by
 have u:=d.1;have t:=d.2;have q:=hb.1;have o:=hb.2;have h1:=ahg a.lo b.lo;have j:=Ja (fun W=>agd W (x:=a.hi) (y:=b.hi) Zo Zo);obtain⟨x,h⟩:∃x,max a.lo b.lo=x:=⟨_,rfl⟩
 obtain⟨y,g⟩:∃y,fu (max a.hi b.hi)=y:=⟨_,rfl⟩
 rw[g] at j ⊢;rw[h] at h1 ⊢;clear h g d hb;go_enter Tryz.func79,Tryz.ntmps79;go_upto_region 1 with fail;have c:=Ja (show O w (((w.alloc (T #[U (a.lo:Int),U (a.hi:Int)] 45)).alloc (T #[U (b.lo:Int),U (b.hi:Int)] 45)).alloc (T #[U 0,U 0] 45))/\Q (((w.alloc (T #[U (a.lo:Int),U (a.hi:Int)] 45)).alloc (T #[U (b.lo:Int),U (b.hi:Int)] 45)).alloc (T #[U 0,U 0] 45)) w.heap.size #[U (a.lo:Int),U (a.hi:Int)] 45/\Q (((w.alloc (T #[U (a.lo:Int),U (a.hi:Int)] 45)).alloc (T #[U (b.lo:Int),U (b.hi:Int)] 45)).alloc (T #[U 0,U 0] 45)) (w.heap.size+1) #[U (b.lo:Int),U (b.hi:Int)] 45/\Q (((w.alloc (T #[U (a.lo:Int),U (a.hi:Int)] 45)).alloc (T #[U (b.lo:Int),U (b.hi:Int)] 45)).alloc (T #[U 0,U 0] 45)) (w.heap.size+1+1) #[U 0,U 0] 45 from⟨Zx,zB (zB (zI rfl)),zB (zI Zs),zI Zs⟩);generalize ((w.alloc (T #[U (a.lo:Int),U (a.hi:Int)] 45)).alloc (T #[U (b.lo:Int),U (b.hi:Int)] 45)).alloc (T #[U 0,U 0] 45)=X at *;have k:=Ja (show ∀W,O X W->A W w.heap.size 0 (U (a.lo:Int))/\A W w.heap.size 1 (U (a.hi:Int))/\A W (w.heap.size+1) 0 (U (b.lo:Int))/\A W (w.heap.size+1) 1 (U (b.hi:Int)) from fun W hb=>⟨zA (zH hb c.out.2.1 (lt_of_block c.out.2.1)) rfl,zA (zH hb c.out.2.1 (lt_of_block c.out.2.1)) rfl,zA (zH hb c.out.2.2.1 (lt_of_block c.out.2.2.1)) rfl,zA (zH hb c.out.2.2.1 (lt_of_block c.out.2.2.1)) rfl⟩);obtain⟨c0,c1,c2,c3⟩:=k.out X (Below.refl _ _);have hk:=c.out.2.2.2;have f0:=zA (i:=0) hk rfl;have f1:=zA (i:=1) hk rfl;have g0:∀i,N X (w.heap.size+1+1) i:=fun i=>zE (i:=i) hk;have m:=lt_of_block hk;have l:=Ja c.out.1;clear hk
 go_region_held3 (fun w'=>A w' w.heap.size 0 (U (a.lo:Int))/\A w' w.heap.size 1 (U (a.hi:Int))/\A w' (w.heap.size+1) 0 (U (b.lo:Int))/\A w' (w.heap.size+1) 1 (U (b.hi:Int))) ((first|exact⟨c0,c1,c2,c3⟩|(go_simp;done)|(refine⟨?_,?_,?_,?_⟩<;>go_simp)))
  ((go_at_call 80;refine(j.out _).mono ?_;rintro e w1 ⟨rfl,rfl⟩))
 all_goals go_wp2_with fail
 all_goals (refine bodyPost_ret (v:=.agg #[U x,U y]) ?_ rfl ⟨rfl,by repeat' (first|exact l.out|(refine Below.drew ?_)|(refine Below.setCell ?_ (by first|(simp;done)|omega|(simp;omega)) _))⟩;rw[zM rfl];go_simp)
theorem xor_any (w:World){a b:Rg}(c:a.ok)(hb:b.ok):G 81 #[.agg #[U (a.lo:Int),U (a.hi:Int)],.agg #[U (b.lo:Int),U (b.hi:Int)]] w (lx w (⟨0,fu (max a.hi b.hi)⟩)):=by
 have k:=c.1;have j:=c.2;have i:=hb.1;have h:=hb.2;have g:=Ja (fun W=>agd W (x:=a.hi) (y:=b.hi) Zo Zo);obtain⟨y,d⟩:∃y,fu (max a.hi b.hi)=y:=⟨_,rfl⟩
 rw[d] at g ⊢;clear d c hb;go_enter Tryz.func81,Tryz.ntmps81;go_wp2_with (go_at_call 80;go_must (refine(g.out _).mono ?_;rintro e w1 ⟨rfl,rfl⟩))
 refine bodyPost_ret (v:=.agg #[U 0,U y]) ?_ rfl ⟨rfl,Zx⟩;rw[zM rfl];go_simp
theorem agw (w:World){a b:Rg}(g:a.ok)(hb:b.ok):G 77 #[.agg #[U (a.lo:Int),U (a.hi:Int)],.agg #[U (b.lo:Int),U (b.hi:Int)]] w (lx w (bf a b)):=by
 have a7:=g.1;have a6:=g.2;have d:=hb.1;have a5:=hb.2
 by_cases h:b.hi=0
 ·have hr:bf a b=vu:=by unfold bf;rw[if_pos h]
  rw[hr];have hq:((b.hi:Int)==0)=true:=by rw[beq_iff_eq];omega
  clear hr h g hb;go_enter Tryz.func77,Tryz.ntmps77;go_wp2_with (go_at_call 39;go_must (refine(d8 _).mono ?_;rintro e w1 ⟨rfl,d⟩;have hk:Q w1 (w.heap.size+1+1) #[U 0,U 0] 45:=zH d (zI Zs) Zs;have f0:=zA (i:=0) hk rfl;have f1:=zA (i:=1) hk rfl;have g0:=zE (i:=0) hk;have g1:=zE (i:=1) hk;have a2:=lt_of_block hk;have a3:=Below.trans (show O w _ from Zv) (d.mono Zy);clear d hk))
  refine bodyPost_ret (v:=.agg #[U 0,U 65535]) ?_ rfl ⟨rfl,Zx⟩;rw[zM rfl];go_simp
 ·have hq:((b.hi:Int)==0)=false:=Ze;obtain⟨m,hm⟩:∃m,max b.lo 1=m:=⟨_,rfl⟩
  have h1:=ahg b.lo 1;rw[hm] at h1;have a0:((m:Int)==0)=false:=Ze;have y:0<(m:Int):=Zo;have a4:0<(b.hi:Int):=Zo;have x:¬b.hi=0:=Zo;have u:¬m=0:=Zo;have q:¬(b.hi:Int)=0:=Zo;have o:¬(m:Int)=0:=Zo;have hr:bf a b=⟨a.lo/b.hi,a.hi/m⟩:=by unfold bf;rw[if_neg h,hm]
  rw[hr];have a8:∀(ts:Array TypeId) (t:TypeId) (W:World),(Builtin.max_ ts t #[U (b.lo:Int),U 1]).run Tryz.prog W=.ok (U m) W:=h1;have e1:=ar8 a.lo b.hi Zo;have e2:=ar8 a.hi m Zo;have j:=Ja (Jb e1 e2);clear hr h g hb hm h1 e1 e2;go_enter Tryz.func77,Tryz.ntmps77;go_upto_region 1 with fail;have c:=Ja (show O w (((w.alloc (T #[U (a.lo:Int),U (a.hi:Int)] 45)).alloc (T #[U (b.lo:Int),U (b.hi:Int)] 45)).alloc (T #[U 0,U 0] 45))/\Q (((w.alloc (T #[U (a.lo:Int),U (a.hi:Int)] 45)).alloc (T #[U (b.lo:Int),U (b.hi:Int)] 45)).alloc (T #[U 0,U 0] 45)) w.heap.size #[U (a.lo:Int),U (a.hi:Int)] 45/\Q (((w.alloc (T #[U (a.lo:Int),U (a.hi:Int)] 45)).alloc (T #[U (b.lo:Int),U (b.hi:Int)] 45)).alloc (T #[U 0,U 0] 45)) (w.heap.size+1) #[U (b.lo:Int),U (b.hi:Int)] 45/\Q (((w.alloc (T #[U (a.lo:Int),U (a.hi:Int)] 45)).alloc (T #[U (b.lo:Int),U (b.hi:Int)] 45)).alloc (T #[U 0,U 0] 45)) (w.heap.size+1+1) #[U 0,U 0] 45 from⟨Zx,zB (zB (zI rfl)),zB (zI Zs),zI Zs⟩);generalize ((w.alloc (T #[U (a.lo:Int),U (a.hi:Int)] 45)).alloc (T #[U (b.lo:Int),U (b.hi:Int)] 45)).alloc (T #[U 0,U 0] 45)=X at *;have k:=Ja (show ∀W,O X W->A W w.heap.size 0 (U (a.lo:Int))/\A W w.heap.size 1 (U (a.hi:Int))/\A W (w.heap.size+1) 0 (U (b.lo:Int))/\A W (w.heap.size+1) 1 (U (b.hi:Int)) from fun W hb=>⟨zA (zH hb c.out.2.1 (lt_of_block c.out.2.1)) rfl,zA (zH hb c.out.2.1 (lt_of_block c.out.2.1)) rfl,zA (zH hb c.out.2.2.1 (lt_of_block c.out.2.2.1)) rfl,zA (zH hb c.out.2.2.1 (lt_of_block c.out.2.2.1)) rfl⟩);obtain⟨c0,c1,c2,c3⟩:=k.out X (Below.refl _ _);have hk:=c.out.2.2.2;have f0:=zA (i:=0) hk rfl;have f1:=zA (i:=1) hk rfl;have g0:∀i,N X (w.heap.size+1+1) i:=fun i=>zE (i:=i) hk;have a1:=lt_of_block hk;have l:=Ja c.out.1;clear hk
  go_upto_region 3 with fail
  go_region_held3 (fun w'=>A w' w.heap.size 0 (U (a.lo:Int))/\A w' w.heap.size 1 (U (a.hi:Int))/\A w' (w.heap.size+1) 0 (U (b.lo:Int))/\A w' (w.heap.size+1) 1 (U (b.hi:Int))) ((first|exact⟨c0,c1,c2,c3⟩|(go_simp;done)|(refine⟨?_,?_,?_,?_⟩<;>go_simp))) (fail)
  all_goals go_wp2_with fail
  all_goals (refine bodyPost_ret (v:=.agg #[U (IntKind.u16.wrap ((a.lo:Int)/(b.hi:Int))),U (IntKind.u16.wrap ((a.hi:Int)/(m:Int)))]) ?_ rfl ⟨by rw[j.out.1,j.out.2];rfl,by repeat' (first|exact l.out|(refine Below.drew ?_)|(refine Below.setCell ?_ (by first|(simp;done)|omega|(simp;omega)) _))⟩;rw[zM rfl];go_simp)
theorem sar_any (w:World){a b:Rg}(d:a.ok)(hb:b.ok):G 85 #[.agg #[U (a.lo:Int),U (a.hi:Int)],.agg #[U (b.lo:Int),U (b.hi:Int)]] w (lx w (if 32768<=a.hi then vu else dp a b)):=by
 have q:=d.1;have o:=d.2;have c:=hb.1;have m:=hb.2
 by_cases g:32768<=a.hi
 ·rw[if_pos g];have hq:(32768:Int)<=(a.hi:Int):=Zo;clear d hb;go_enter Tryz.func85,Tryz.ntmps85;go_wp2_with (go_at_call 39;go_must (refine(d8 _).mono ?_;rintro e w1 ⟨rfl,c⟩;have hk:Q w1 (w.heap.size+1+1) #[U 0,U 0] 45:=zH c (zI Zs) Zs;have f0:=zA (i:=0) hk rfl;have f1:=zA (i:=1) hk rfl;have g0:=zE (i:=0) hk;have g1:=zE (i:=1) hk;have h:=lt_of_block hk;have k:=Below.trans (show O w _ from Zv) (c.mono Zy);clear c hk))
  refine bodyPost_ret (v:=.agg #[U 0,U 65535]) ?_ rfl ⟨rfl,Zx⟩;rw[zM rfl];go_simp
 ·rw[if_neg g];have hq:¬(32768:Int)<=(a.hi:Int):=Zo;obtain⟨⟨x,y⟩,hr⟩:∃r,dp a b=r:=⟨_,rfl⟩
  have j:∀W,G 84 #[.agg #[U (a.lo:Int),U (a.hi:Int)],.agg #[U (b.lo:Int),U (b.hi:Int)]] W (fun e w'=>e=.returned (.agg #[U x,U y])/\O W w'):=fun W=>by
   have:=afF W (a:=a) (b:=b) Zo Zo;rw[hr] at this;exact this
  have l:=Ja j;rw[hr];clear d hb hr j g;go_enter Tryz.func85,Tryz.ntmps85;go_wp2_with (go_at_call 84;go_must (refine(l.out _).mono ?_;rintro e w1 ⟨rfl,c⟩;have hk:Q w1 (w.heap.size+1+1) #[U 0,U 0] 45:=zH c (zI Zs) Zs;have f0:=zA (i:=0) hk rfl;have f1:=zA (i:=1) hk rfl;have g0:=zE (i:=0) hk;have g1:=zE (i:=1) hk;have h:=lt_of_block hk;have k:=Below.trans (show O w _ from Zv) (c.mono Zy);clear c hk))
  refine bodyPost_ret (v:=.agg #[U x,U y]) ?_ rfl ⟨rfl,Zx⟩;rw[zM rfl];go_simp
theorem eq_any (w:World){a b:Rg}(g:a.ok)(hb:b.ok):G 86 #[.agg #[U (a.lo:Int),U (a.hi:Int)],.agg #[U (b.lo:Int),U (b.hi:Int)]] w (lx w (if a.hi<b.lo∨b.hi<a.lo then⟨0,0⟩ else⟨0,1⟩)):=by
 have u:=g.1;have t:=g.2;have c:=hb.1;have o:=hb.2;obtain⟨q,hq⟩:∃q,decide (a.hi<b.lo∨b.hi<a.lo)=q:=⟨_,rfl⟩
 have hr:(if a.hi<b.lo∨b.hi<a.lo then(⟨0,0⟩:Rg) else⟨0,1⟩)=if false=true then⟨1,1⟩ else if q=true then⟨0,0⟩ else⟨0,1⟩:=by rw[<-hq];simp
 rw[hr];obtain⟨⟨x,y⟩,d⟩:∃r:Rg,(if false=true then(⟨1,1⟩:Rg) else if q=true then⟨0,0⟩ else⟨0,1⟩)=r:=⟨_,rfl⟩
 have k:∀W,G 87 #[.bool false,.bool q] W (fun e w'=>e=.returned (.agg #[U x,U y])/\O W w'):=fun W=>by
  have:=aff W false q;rw[d] at this;exact this
 have m:=Ja k;rw[d];clear g hb hr k d
 by_cases h1:a.hi<b.lo
 ·obtain rfl:q=true:=by rw[<-hq];simp[h1]
  have d1:decide (a.hi<b.lo)=true:=decide_eq_true h1;clear hq h1;go_enter Tryz.func86,Tryz.ntmps86;go_wp2_with (go_at_call 87;go_must (refine(m.out _).mono ?_;rintro e w1 ⟨rfl,c⟩;have hk:Q w1 (w.heap.size+1+1) #[U 0,U 0] 45:=zH c (zI Zs) Zs;have f0:=zA (i:=0) hk rfl;have f1:=zA (i:=1) hk rfl;have g0:=zE (i:=0) hk;have g1:=zE (i:=1) hk;have j:=lt_of_block hk;have l:=Below.trans (show O w _ from Zv) (c.mono Zy);clear c hk))
  refine bodyPost_ret (v:=.agg #[U x,U y]) ?_ rfl ⟨rfl,Zx⟩;rw[zM rfl];go_simp
 ·have d1:decide (a.hi<b.lo)=false:=decide_eq_false h1;obtain⟨q2,h⟩:∃q2,decide (b.hi<a.lo)=q2:=⟨_,rfl⟩
  obtain rfl:q=q2:=by rw[<-hq,<-h];simp[h1]
  clear hq h1;go_enter Tryz.func86,Tryz.ntmps86;go_wp2_with (go_at_call 87;go_must (refine(m.out _).mono ?_;rintro e w1 ⟨rfl,c⟩;have hk:Q w1 (w.heap.size+1+1) #[U 0,U 0] 45:=zH c (zI Zs) Zs;have f0:=zA (i:=0) hk rfl;have f1:=zA (i:=1) hk rfl;have g0:=zE (i:=0) hk;have g1:=zE (i:=1) hk;have j:=lt_of_block hk;have l:=Below.trans (show O w _ from Zv) (c.mono Zy);clear c hk))
  refine bodyPost_ret (v:=.agg #[U x,U y]) ?_ rfl ⟨rfl,Zx⟩;rw[zM rfl];go_simp
theorem ltu_any (w:World){a b:Rg}(g:a.ok)(hb:b.ok):G 88 #[.agg #[U (a.lo:Int),U (a.hi:Int)],.agg #[U (b.lo:Int),U (b.hi:Int)]] w (lx w (if a.hi<b.lo then⟨1,1⟩ else if b.hi<=a.lo then⟨0,0⟩ else⟨0,1⟩)):=by
 have t:=g.1;have o:=g.2;have c:=hb.1;have m:=hb.2;obtain⟨q,hq⟩:∃q,decide (a.hi<b.lo)=q:=⟨_,rfl⟩
 obtain⟨p,hp⟩:∃p,decide (b.hi<=a.lo)=p:=⟨_,rfl⟩
 have hr:(if a.hi<b.lo then(⟨1,1⟩:Rg) else if b.hi<=a.lo then⟨0,0⟩ else⟨0,1⟩)=if q=true then⟨1,1⟩ else if p=true then⟨0,0⟩ else⟨0,1⟩:=by rw[<-hq,<-hp];simp
 rw[hr];obtain⟨⟨x,y⟩,d⟩:∃r:Rg,(if q=true then(⟨1,1⟩:Rg) else if p=true then⟨0,0⟩ else⟨0,1⟩)=r:=⟨_,rfl⟩
 have h:∀W,G 87 #[.bool q,.bool p] W (fun e w'=>e=.returned (.agg #[U x,U y])/\O W w'):=fun W=>by
  have:=aff W q p;rw[d] at this;exact this
 have j:=Ja h;rw[d];clear g hb hr h d;go_enter Tryz.func88,Tryz.ntmps88;go_wp2_with (go_at_call 87;go_must (refine(j.out _).mono ?_;rintro e w1 ⟨rfl,c⟩;have hk:Q w1 (w.heap.size+1+1) #[U 0,U 0] 45:=zH c (zI Zs) Zs;have f0:=zA (i:=0) hk rfl;have f1:=zA (i:=1) hk rfl;have g0:=zE (i:=0) hk;have g1:=zE (i:=1) hk;have k:=lt_of_block hk;have l:=Below.trans (show O w _ from Zv) (c.mono Zy);clear c hk))
 refine bodyPost_ret (v:=.agg #[U x,U y]) ?_ rfl ⟨rfl,Zx⟩;rw[zM rfl];go_simp
theorem shl_any (w:World){a b:Rg}(l:a.ok)(hb:b.ok):G 82 #[.agg #[U (a.lo:Int),U (a.hi:Int)],.agg #[U (b.lo:Int),U (b.hi:Int)]] w (lx w (if sq b=true then vx (a.lo*2^(b.lo%16)) (a.hi*2^(b.lo%16)) else vu)):=by
 have a3:=l.1;have a2:=l.2;have g:=hb.1;have d:=hb.2
 by_cases j:b.lo=b.hi
 ·rw[if_pos (by unfold sq;simpa using j)];have hq:((b.lo:Int)==(b.hi:Int))=true:=by rw[beq_iff_eq];omega
  have hp:2^(b.lo%16)<=32768:=Nat.pow_le_pow_right (show 0<2 by decide) (show b.lo%16<=15 by omega);have t:a.lo*2^(b.lo%16)<=65535*32768:=Nat.mul_le_mul Zo hp;have q:a.hi*2^(b.lo%16)<=65535*32768:=Nat.mul_le_mul a2 hp;obtain⟨u,h⟩:∃u,a.lo*2^(b.lo%16)=u:=⟨_,rfl⟩
  obtain⟨v,hv⟩:∃v,a.hi*2^(b.lo%16)=v:=⟨_,rfl⟩
  have o:u<=v:=by rw[<-h,<-hv];exact Qw _ a3
  have m:v<=2147450880:=by rw[<-hv];exact q
  have a6:u<=2147450880:=Jn o m;clear t q hp;obtain⟨⟨x,y⟩,hr⟩:∃r,vx u v=r:=⟨_,rfl⟩
  have a5:wrap64 ((a.lo:Int)*2^(b.lo%16))=(u:Int):=by rw[show(a.lo:Int)*2^(b.lo%16)=((a.lo*2^(b.lo%16):Nat):Int) by simp,h];clear h hv;exact IntWalk.wrap64_in _ ⟨by omega,by omega⟩
  have a4:wrap64 ((a.hi:Int)*2^(b.lo%16))=(v:Int):=by rw[show(a.hi:Int)*2^(b.lo%16)=((a.hi*2^(b.lo%16):Nat):Int) by simp,hv];clear h hv;exact IntWalk.wrap64_in _ ⟨by omega,by omega⟩
  have hc:∀W,G 76 #[I u,I v] W (fun e w'=>e=.returned (.agg #[U x,U y])/\O W w'):=fun W=>by
   have:=afg W o (Nat.lt_of_le_of_lt m Zd);rw[hr] at this;exact this
  have HC:=Ja hc;rw[h,hv,hr]
  have k:=Ja (show ∀W,G 83 #[.agg #[U (b.lo:Int),U (b.hi:Int)]] W (fun e w'=>e=.returned (.bool true)/\O W w') from fun W=>by
   have:=aeI W b;rw[show sq b=true from decide_eq_true j] at this
   exact this)
  clear l hb hr hc j h hv hq;go_enter Tryz.func82,Tryz.ntmps82;go_upto_region 3 with(go_at_call 83;go_must (refine(k.out _).mono ?_;rintro e w2 ⟨rfl,d⟩;have c:=Ja (show O w w2/\Q w2 w.heap.size #[U (a.lo:Int),U (a.hi:Int)] 45/\Q w2 (w.heap.size+1) #[U (b.lo:Int),U (b.hi:Int)] 45/\Q w2 (w.heap.size+1+1) #[U 0,U 0] 45 from⟨Below.trans (show O w _ from Zv) (d.mono Zy),zH d (zB (zB (zI rfl))) Zy,zH d (zB (zI Zs)) Zy,zH d (zI Zs) Zs⟩);clear d))
  have c0:=zA (i:=0) c.out.2.1 rfl;have c1:=zA (i:=1) c.out.2.1 rfl;have c2:=zA (i:=0) c.out.2.2.1 rfl;have c3:=zA (i:=1) c.out.2.2.1 rfl;have l1:=lt_of_block c.out.2.1;have l2:=lt_of_block c.out.2.2.1;have l3:=lt_of_block c.out.2.2.2;go_wp2_with (go_at_call 76;go_must (refine(HC.out _).mono ?_;rintro e w1 ⟨rfl,g⟩;have hk:=zH g c.out.2.2.2 (lt_of_block c.out.2.2.2);have f0:=zA (i:=0) hk rfl;have f1:=zA (i:=1) hk rfl;have g0:=zE (i:=0) hk;have g1:=zE (i:=1) hk;have a0:=lt_of_block hk;have a1:=c.out.1.trans (g.mono c.out.1.size);clear g hk))
  refine bodyPost_ret (v:=.agg #[U x,U y]) ?_ rfl ⟨rfl,Zx⟩;rw[zM rfl];go_simp
 ·rw[if_neg (by unfold sq;simpa using j)]
  have k:=Ja (show ∀W,G 83 #[.agg #[U (b.lo:Int),U (b.hi:Int)]] W (fun e w'=>e=.returned (.bool false)/\O W w') from fun W=>by
   have:=aeI W b;rw[show sq b=false from decide_eq_false j] at this
   exact this)
  clear l hb j;go_enter Tryz.func82,Tryz.ntmps82;go_upto_region 2 with(go_at_call 83;go_must (refine(k.out _).mono ?_;rintro e w2 ⟨rfl,d⟩;have c:=Ja (show O w w2/\Q w2 w.heap.size #[U (a.lo:Int),U (a.hi:Int)] 45/\Q w2 (w.heap.size+1) #[U (b.lo:Int),U (b.hi:Int)] 45/\Q w2 (w.heap.size+1+1) #[U 0,U 0] 45 from⟨Below.trans (show O w _ from Zv) (d.mono Zy),zH d (zB (zB (zI rfl))) Zy,zH d (zB (zI Zs)) Zy,zH d (zI Zs) Zs⟩);clear d))
  have c0:=zA (i:=0) c.out.2.1 rfl;have c1:=zA (i:=1) c.out.2.1 rfl;have c2:=zA (i:=0) c.out.2.2.1 rfl;have c3:=zA (i:=1) c.out.2.2.1 rfl;have l1:=lt_of_block c.out.2.1;have l2:=lt_of_block c.out.2.2.1;have l3:=lt_of_block c.out.2.2.2;go_wp2_with (go_at_call 39;go_must (refine(d8 _).mono ?_;rintro e w1 ⟨rfl,g⟩;have hk:=zH g c.out.2.2.2 (lt_of_block c.out.2.2.2);have f0:=zA (i:=0) hk rfl;have f1:=zA (i:=1) hk rfl;have g0:=zE (i:=0) hk;have g1:=zE (i:=1) hk;have a0:=lt_of_block hk;have a1:=c.out.1.trans (g.mono c.out.1.size);clear g hk))
  refine bodyPost_ret (v:=.agg #[U 0,U 65535]) ?_ rfl ⟨rfl,Zx⟩;rw[zM rfl];go_simp
open Go.RowKit Go.Maps
def aga (v:Value):Option (DataW Unit×List MemPlace):=
 match v with
 |.func (.func k) fs cs=>if fs.size=0/\cs.size=0 then some (.lit (.int .i64 (k:Int)),[]) else none
 |.nilFunc=>some (.lit (.int .i64 (-1)),[])
 |_=>none
def ruV:Option Nat->Value
 |some k=> .func (.func k) #[] #[]
 |none=> .nilFunc
def ruD:Option Nat->DataW Unit
 |some k=> .lit (.int .i64 (k:Int))
 |none=> .lit (.int .i64 (-1))
theorem afC (o:Option Nat):aga (ruV o)=some (ruD o,[]):=by cases o<;>rfl
theorem agp {v:Value}{o:Option Nat}{ps:List MemPlace}(h:aga v=some (ruD o,ps)):v=ruV o:=by
 unfold aga at h
 split at h
 ·rename_i k fs cs
  split at h
  ·rename_i hs
   have e1:fs=#[]:=Array.eq_empty_of_size_eq_zero hs.1;have e2:cs=#[]:=Array.eq_empty_of_size_eq_zero hs.2;subst e1 e2
   cases o with
   |none=>simp only[ruD,Option.some.injEq,Prod.mk.injEq,DataW.lit.injEq,Lit.int.injEq,true_and] at h;have:=h.1;omega
   |some j=>simp only[ruD,Option.some.injEq,Prod.mk.injEq,DataW.lit.injEq,Lit.int.injEq,true_and] at h;have:k=j:=Int.ofNat.inj h.1
            subst this;rfl
  ·cases h
 ·cases o with
  |none=>rfl
  |some j=>simp[ruD] at h
 ·cases h
theorem zeroRu (w:World):(zeroValue 176).run Tryz.prog w=.ok .nilFunc w:=by kernel_rfl
def bd (w:World)(b n:Nat)(g:Int->Option Nat):Prop:=
 ∃D:DataW Unit,w.ownsMap Tryz.prog 3 aga b n D/\∀x,I64 x->D.atKey (.int .i64 x) (ruD none)=ruD (g x)/\Maps.has D (.int .i64 x)=(g x).isSome
theorem bd.made (w:World):bd (w.alloc (.map #[] 0)) w.heap.size 0 (fun _=>none):=⟨_,World.ownsMap_made _ _ _ _,fun _ _=>⟨rfl,rfl⟩⟩
theorem bd.blk{b n:Nat}(h:bd w b n g):∃es clock,w.heap[b]? =some (.map es clock):=by
 obtain⟨D,⟨es,clock,h1,h2⟩,h3⟩:=h;exact⟨es,clock,h1⟩
theorem bd.same{b n:Nat}(h:bd w b n g)(hb:w'.heap[b]? =w.heap[b]?):bd w' b n g:=by
 obtain⟨D,⟨es,c,h1,h2⟩,h3⟩:=h;exact⟨D,⟨es,c,hb.trans h1,h2⟩,h3⟩
theorem bd.below{b n:Nat}(h:bd w b n g)(hb:O w w'):bd w' b n g:=by
 obtain⟨es,c,d⟩:=h.blk;exact h.same (hb.block b (lt_of_block d))
theorem bd.lookOk{b n:Nat}(h:bd w b n g){x:Int}(d:I64 x):
 (Instr.lookup 95 (.map (some b)) (I x) true).run Tryz.prog w=.ok (.tuple #[ruV (g x),.bool (g x).isSome]) w:=by
 obtain⟨D,h,hf⟩:=h;obtain⟨v,ps,c,hv⟩:=h.look_ok xH Tryz.underlying95 (zeroRu w) (afC none) (vB d);rw[(hf x d).1] at hv;rw[(hf x d).2,agp hv] at c;exact c
def putR (g:Int->Option Nat)(x:Int)(k:Nat):Int->Option Nat:=fun y=>if y=x then some k else g y
theorem afU{n b:Nat}(h:Below n w0 w)(hg:w.grownBy w' (some b))(hb:n<=b)(hs:n<=w.heap.size):Below n w0 w':=
 ⟨hg.os.trans h.os,hg.tape.trans h.tape,hg.output.trans h.output,Jn h.size hg.size,fun k hk=>(hg.block k Zo (by intro e;cases e;omega)).trans (h.block k hk)⟩
theorem agN{b n:Nat}(h:bd w b n g)(m:n<9000000000000000000)(kx:Int)(k:Nat)(d:I64 kx):
 ∃w',(Instr.mapUpdate 95 (.map (some b)) (.int .i64 kx) (.func (.func k) #[] #[])).run Tryz.prog w=.ok () w'/\bd w' b (n+1) (putR g kx k)/\w.grownBy w' (some b):=by
 obtain⟨D,h,hf⟩:=h;obtain⟨w1,j,l,c⟩:=h.update xH Tryz.underlying95 (by unfold maxLen;omega) (vB d) (afC (some k));refine⟨w1,j,⟨_,l,fun y hy=>?_⟩,c⟩;have i:WideAt.IsKeyLit (.int .i64 kx):=xH.key (vB d)
 by_cases e:y=kx
 ·subst e;simp only[putR,if_true];exact⟨Maps.atKey_put_same h.isMap i _ _,Maps.has_put_same h.isMap i _⟩
 ·simp only[putR,if_neg e];rw[Maps.atKey_put_other (by simpa using e),Maps.has_put_other (by simpa using e)];exact hf y hy
theorem y7{b n:Nat}(h:bd w b n g)(hb:Below b w0 w/\b<w.heap.size)(d:n<9000000000000000000)(kx:Int)(k:Nat)(c:I64 kx):
 ∃w',(Instr.mapUpdate 95 (.map (some b)) (I kx) (.func (.func k) #[] #[])).run Tryz.prog w=.ok () w'/\bd w' b (n+1) (putR g kx k)/\(Below b w0 w'/\b<w'.heap.size):=by
 obtain⟨w',h1,h2,h3⟩:=agN h d kx k c;exact⟨w',h1,h2,⟨afU hb.1 h3 (Je _) (Qd hb.2),Jy hb.2 h3.size⟩⟩
def ruG:Int->Option Nat:=(putR (putR (putR (putR (putR (putR (putR (putR (putR (putR (putR (putR (putR (putR (putR (putR (putR (fun _=>none) 3 70) 4 72) 5 73) 6 74) 7 75) 8 77) 9 78) 10 79) 11 81) 12 82) 13 84) 14 85) 15 86) 16 88) 17 89) 19 90) 23 91)
theorem agM (w:World):Calls Tryz.prog 37 #[] w (fun e w'=>e=.returned (.map (some w.heap.size))/\bd w' w.heap.size 17 ruG/\O w w'/\w.heap.size<w'.heap.size):=by
 obtain⟨G,hG⟩:∃G,ruG=G:=⟨_,rfl⟩
 rw[hG];go_enter Tryz.func37,Tryz.ntmps37;have b0:=bd.made w;have c0:O w (w.alloc (.map #[] 0))/\w.heap.size<(w.alloc (.map #[] 0)).heap.size:=⟨Below.alloc (Below.refl _ _) (Je _) _,by simp⟩
 obtain⟨w1,e1,a9,b9⟩:=y7 b0 c0 Zd 3 70 (by unfold I64;omega);clear b0 c0;obtain⟨w2,e0,a8,b8⟩:=y7 a9 b9 Zd 4 72 (by unfold I64;omega);clear a9 b9;obtain⟨w3,d7,a7,b7⟩:=y7 a8 b8 Zd 5 73 (by unfold I64;omega);clear a8 b8;obtain⟨w4,d6,a6,b6⟩:=y7 a7 b7 Zd 6 74 (by unfold I64;omega);clear a7 b7;obtain⟨w5,d5,a5,b5⟩:=y7 a6 b6 Zd 7 75 (by unfold I64;omega);clear a6 b6;obtain⟨w6,d4,a4,b4⟩:=y7 a5 b5 Zd 8 77 (by unfold I64;omega);clear a5 b5;obtain⟨w7,d3,a3,b3⟩:=y7 a4 b4 Zd 9 78 (by unfold I64;omega);clear a4 b4;obtain⟨w8,d2,a2,b2⟩:=y7 a3 b3 Zd 10 79 (by unfold I64;omega);clear a3 b3;obtain⟨w9,d1,a1,b1⟩:=y7 a2 b2 Zd 11 81 (by unfold I64;omega);clear a2 b2;obtain⟨w10,d0,l,a0⟩:=y7 a1 b1 Zd 12 82 (by unfold I64;omega);clear a1 b1;obtain⟨w11,c9,k,y⟩:=y7 l a0 Zd 13 84 (by unfold I64;omega);clear l a0;obtain⟨w12,c8,j,x⟩:=y7 k y Zd 14 85 (by unfold I64;omega);clear k y;obtain⟨w13,c7,i,u⟩:=y7 j x Zd 15 86 (by unfold I64;omega);clear j x;obtain⟨w14,c5,h,t⟩:=y7 i u Zd 16 88 (by unfold I64;omega);clear i u;obtain⟨w15,c4,g,q⟩:=y7 h t Zd 17 89 (by unfold I64;omega);clear h t;obtain⟨w16,c3,d,o⟩:=y7 g q Zd 19 90 (by unfold I64;omega);clear g q;obtain⟨w17,c2,c,m⟩:=y7 d o Zd 23 91 (by unfold I64;omega);clear d o;have HM:=Ja c;have HB:=Ja m;clear c m;have e2:=@run_makeMap Tryz.prog;go_wp2;go_ret;subst hG;exact⟨rfl,HM.out,HB.out.1,HB.out.2⟩
theorem ruG_none(h:ruG c=none)(a b:Rg):afj c a b=none:=by
 simp only[ruG,putR] at h
 by_cases d:c=23
 ·rw[if_pos d] at h;cases h
 rw[if_neg d] at h
 by_cases g:c=19
 ·rw[if_pos g] at h;cases h
 rw[if_neg g] at h
 by_cases i:c=17
 ·rw[if_pos i] at h;cases h
 rw[if_neg i] at h
 by_cases j:c=16
 ·rw[if_pos j] at h;cases h
 rw[if_neg j] at h
 by_cases k:c=15
 ·rw[if_pos k] at h;cases h
 rw[if_neg k] at h
 by_cases l:c=14
 ·rw[if_pos l] at h;cases h
 rw[if_neg l] at h
 by_cases m:c=13
 ·rw[if_pos m] at h;cases h
 rw[if_neg m] at h
 by_cases o:c=12
 ·rw[if_pos o] at h;cases h
 rw[if_neg o] at h
 by_cases q:c=11
 ·rw[if_pos q] at h;cases h
 rw[if_neg q] at h
 by_cases t:c=10
 ·rw[if_pos t] at h;cases h
 rw[if_neg t] at h
 by_cases u:c=9
 ·rw[if_pos u] at h;cases h
 rw[if_neg u] at h
 by_cases w:c=8
 ·rw[if_pos w] at h;cases h
 rw[if_neg w] at h
 by_cases x:c=7
 ·rw[if_pos x] at h;cases h
 rw[if_neg x] at h
 by_cases y:c=6
 ·rw[if_pos y] at h;cases h
 rw[if_neg y] at h
 by_cases h5:c=5
 ·rw[if_pos h5] at h;cases h
 rw[if_neg h5] at h
 by_cases h4:c=4
 ·rw[if_pos h4] at h;cases h
 rw[if_neg h4] at h
 by_cases h3:c=3
 ·rw[if_pos h3] at h;cases h
 rw[if_neg h3] at h;unfold afj;simp only[if_neg h3,if_neg h4,if_neg h5,if_neg y,if_neg x,if_neg w,if_neg u,if_neg t,if_neg q,if_neg o,if_neg m,if_neg l,if_neg k,if_neg j,if_neg i,if_neg g,if_neg d]
theorem af9(h:ruG c=some k){a b:Rg}(d:a.ok)(hb:b.ok)(w:World):∃r,afj c a b=some r/\G k #[.agg #[U (a.lo:Int),U (a.hi:Int)],.agg #[U (b.lo:Int),U (b.hi:Int)]] w (lx w r):=by
 simp only[ruG,putR] at h
 by_cases g:c=23
 ·rw[if_pos g] at h;cases h;subst g;exact⟨_,rfl,agq w d hb⟩
 rw[if_neg g] at h
 by_cases i:c=19
 ·rw[if_pos i] at h;cases h;subst i;exact⟨_,rfl,af6 w d hb⟩
 rw[if_neg i] at h
 by_cases j:c=17
 ·rw[if_pos j] at h;cases h;subst j;exact⟨_,rfl,lts_any w d hb⟩
 rw[if_neg j] at h
 by_cases l:c=16
 ·rw[if_pos l] at h;cases h;subst l;exact⟨_,rfl,ltu_any w d hb⟩
 rw[if_neg l] at h
 by_cases m:c=15
 ·rw[if_pos m] at h;cases h;subst m;exact⟨_,rfl,eq_any w d hb⟩
 rw[if_neg m] at h
 by_cases o:c=14
 ·rw[if_pos o] at h;cases h;subst o;exact⟨_,rfl,sar_any w d hb⟩
 rw[if_neg o] at h
 by_cases q:c=13
 ·rw[if_pos q] at h;cases h;subst q;exact⟨_,rfl,afF w ⟨by have:=d.1;have:=d.2;omega,by have:=d.2;omega⟩ (by have:=hb.1;have:=hb.2;omega)⟩
 rw[if_neg q] at h
 by_cases t:c=12
 ·rw[if_pos t] at h;cases h;subst t;exact⟨_,rfl,shl_any w d hb⟩
 rw[if_neg t] at h
 by_cases u:c=11
 ·rw[if_pos u] at h;cases h;subst u;exact⟨_,rfl,xor_any w d hb⟩
 rw[if_neg u] at h
 by_cases x:c=10
 ·rw[if_pos x] at h;cases h;subst x;exact⟨_,rfl,or_any w d hb⟩
 rw[if_neg x] at h
 by_cases y:c=9
 ·rw[if_pos y] at h;cases h;subst y;exact⟨_,rfl,and_any w d hb⟩
 rw[if_neg y] at h
 by_cases h8:c=8
 ·rw[if_pos h8] at h;cases h;subst h8;exact⟨_,rfl,agw w d hb⟩
 rw[if_neg h8] at h
 by_cases h7:c=7
 ·rw[if_pos h7] at h;cases h;subst h7;exact⟨_,rfl,mul_any w d hb⟩
 rw[if_neg h7] at h
 by_cases h6:c=6
 ·rw[if_pos h6] at h;cases h;subst h6;exact⟨_,rfl,sub_any w d hb⟩
 rw[if_neg h6] at h
 by_cases h5:c=5
 ·rw[if_pos h5] at h;cases h;subst h5;exact⟨_,rfl,add_any w d hb⟩
 rw[if_neg h5] at h
 by_cases h4:c=4
 ·rw[if_pos h4] at h;cases h;subst h4;exact⟨_,rfl,not_any w d hb⟩
 rw[if_neg h4] at h
 by_cases h3:c=3
 ·rw[if_pos h3] at h;cases h;subst h3;exact⟨_,rfl,neg_any w d hb⟩
 rw[if_neg h3] at h;cases h
end Go.Proofs.YtoahcpkibpomcaaGreat
