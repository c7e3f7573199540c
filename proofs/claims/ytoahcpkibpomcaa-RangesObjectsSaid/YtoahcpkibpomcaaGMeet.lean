/- Part of a proof. -/
import Derived.Test.YtoahcpkibpomcaaIOper
set_option linter.all false
set_option maxHeartbeats 4000000
set_option maxRecDepth 100000
namespace Go.Proofs.Ytoahcpkibpomcaa
open Go.RowKit
variable {K:MK}{w w':World}{c i oa ob x:Int}{m m':Mach}{C k on vb vn:Nat}{l xs:List Int}{d d':wO}{tl:List Value}{bl:List IBlk}{o:IOp}
def Res.lt:Res Nat->Prop
 |.ok x _=>x<65536
 |.trap _ _ _=>True
def zQ (K:MK)(w:World)(r:Res Nat)(e:Ending)(w':World):Prop:=e=endOf r/\(∃ov',MachAt w' K r.mach ov')/\Frm K.B w w'/\r.lt
theorem zQ.ok{x:Nat}{c:Value}(h:MachAt w' K m' c)(g:Frm K.B w w')(d:x<65536):zQ K w (.ok x m') (.returned (G x)) w':=⟨rfl,⟨c,h⟩,g,d⟩
theorem zQ.trap{i:Nat}{c:Value}(h:MachAt w' K m' c)(d:Frm K.B w w'):zQ K w (.trap k i m') (.panicked [oE k i]) w':=⟨rfl,⟨c,h⟩,d,trivial⟩
theorem not16 (a:Nat)(h:a<65536):bits .xor .u16 IntKind.u16.max (a:Int)=((65535-a:Nat):Int):=by
 show IntKind.u16.wrap (((BitVec.ofInt 16 65535)^^^(BitVec.ofInt 16 (a:Int))).toNat:Int)=_
 have e1:BitVec.ofInt 16 65535=BitVec.allOnes 16:=by decide
 have e2:(BitVec.ofInt 16 (a:Int)).toNat=a:=by rw[BitVec.ofInt_natCast,BitVec.toNat_ofNat];exact Nat.mod_eq_of_lt h
 rw[e1,BitVec.xor_comm,BitVec.xor_allOnes,BitVec.toNat_not,e2,xY];omega
theorem or_low (x y:Nat)(d:x<256)(c:y<256):bits .or .u16 (IntKind.u16.wrap (x:Int)) (IntKind.u16.wrap (IntKind.u16.wrap (y:Int)*256))=((x+256*y:Nat):Int):=by
 have e1:IntKind.u16.wrap (x:Int)=(x:Int):=by rw[xY];omega
 have e2:IntKind.u16.wrap (IntKind.u16.wrap (y:Int)*256)=((y*256:Nat):Int):=by rw[xY,xY];omega
 rw[e1,e2,(bits_nat .u16 16 Zd wraps_u16 x (y*256) Zo Zo).2];have:=Nat.two_pow_add_eq_or_of_lt (i:=8) (b:=x) Zo y;rw[Nat.or_comm,show y*256=2^8*y by omega,<-this];omega
theorem step_1{ov:Value}(h:MachAt w K m ov)(t:I64 oa)(q:I64 ob)(u:on<65536)(ab:Option Addr)(an ac:Nat){v:Int->Nat}(hv:xO w vb vn v)(d:Int):
 T 97 #[L K.pm,.agg #[I 1,I c,I oa,I ob,G on,.slice ab an ac],.map (some vb),I d] w (zQ K w (.ok on m)):=by
 have k:=fun(W:World) (hW:Frm K.B w W)=>(hv.kept hW).look t
 have j:=fun(W:World) (hW:Frm K.B w W)=>(hv.kept hW).look q
 have a2:=hv.2 oa;have a1:=hv.2 ob;have a3:=h.size;have l:=Ja (h.keep ((Below.refl _ _).alloc (Je _) (A #[I 1,I c,I oa,I ob,G on,.slice ab an ac] 27)));have i:=Ja ((Frm.refl K.B w).alloc Zo (A #[I 1,I c,I oa,I ob,G on,.slice ab an ac] 27));have la:=fun n:Nat=>k _ (i.out.drewN (n:=n))
 have lb:=fun n:Nat=>j _ (i.out.drewN (n:=n))
 have g:=zI (W:=w) (o:=A #[I 1,I c,I oa,I ob,G on,.slice ab an ac] 27) rfl;clear h hv k j;generalize v oa=xa at *;generalize v ob=xb at *;go_enter Try.func97,Try.ntmps97;go_upto_region 1 with fail;generalize a0:w.alloc (A #[I 1,I c,I oa,I ob,G on,.slice ab an ac] 27)=W1 at *;clear a0;have p0:=K0 g;have p2:=K2 g;have p3:=K3 g;have p4:=K4 g
 go_cut [9,10] (fun x y wx=>x=G xa/\y=G xb/\∃n,wx=W1.drewN n)
 case first=>
  go_quiet (fail);go_wp2;go_meet;exact⟨rfl,rfl,_,rfl⟩
 case rest=>
  obtain⟨rfl,rfl,n,rfl⟩:=hcut;have HM:=Ja (l.out.drewN n);have HF:=Ja (i.out.drewN (n:=n));have q0:(W1.drewN n).cell? ⟨w.heap.size,0,none⟩=_:=p0;have q2:(W1.drewN n).cell? ⟨w.heap.size,2,none⟩=_:=p2;have q4:(W1.drewN n).cell? ⟨w.heap.size,4,none⟩=_:=p4;clear la lb p0 p2 p3 p4 g l i;generalize W1.drewN n=W2 at *;go_wp2;go_ret;exact zQ.ok HM.out HF.out u
theorem step_3{ov:Value}(h:MachAt w K m ov)(t:I64 oa)(q:I64 ob)(a2:on<65536)(ab:Option Addr)(an ac:Nat){v:Int->Nat}(hv:xO w vb vn v)(d:Int):
 T 97 #[L K.pm,.agg #[I 3,I c,I oa,I ob,G on,.slice ab an ac],.map (some vb),I d] w (zQ K w (.ok ((65536-v oa)%65536) m)):=by
 have k:=fun(W:World) (hW:Frm K.B w W)=>(hv.kept hW).look t
 have j:=fun(W:World) (hW:Frm K.B w W)=>(hv.kept hW).look q
 have a1:=hv.2 oa;have a0:=hv.2 ob;have a3:=h.size;have l:=Ja (h.keep ((Below.refl _ _).alloc (Je _) (A #[I 3,I c,I oa,I ob,G on,.slice ab an ac] 27)));have i:=Ja ((Frm.refl K.B w).alloc Zo (A #[I 3,I c,I oa,I ob,G on,.slice ab an ac] 27));have la:=fun n:Nat=>k _ (i.out.drewN (n:=n))
 have lb:=fun n:Nat=>j _ (i.out.drewN (n:=n))
 have g:=zI (W:=w) (o:=A #[I 3,I c,I oa,I ob,G on,.slice ab an ac] 27) rfl;clear h hv k j;generalize v oa=xa at *;generalize v ob=xb at *;go_enter Try.func97,Try.ntmps97;go_upto_region 1 with fail;generalize u:w.alloc (A #[I 3,I c,I oa,I ob,G on,.slice ab an ac] 27)=W1 at *;clear u;have p0:=K0 g;have p2:=K2 g;have p3:=K3 g;have p4:=K4 g
 go_cut [9,10] (fun x y wx=>x=G xa/\y=G xb/\∃n,wx=W1.drewN n)
 case first=>
  go_quiet (fail);go_wp2;go_meet;exact⟨rfl,rfl,_,rfl⟩
 case rest=>
  obtain⟨rfl,rfl,n,rfl⟩:=hcut;have HM:=Ja (l.out.drewN n);have HF:=Ja (i.out.drewN (n:=n));have q0:(W1.drewN n).cell? ⟨w.heap.size,0,none⟩=_:=p0;have q2:(W1.drewN n).cell? ⟨w.heap.size,2,none⟩=_:=p2;have q4:(W1.drewN n).cell? ⟨w.heap.size,4,none⟩=_:=p4;clear la lb p0 p2 p3 p4 g l i;generalize W1.drewN n=W2 at *;go_wp2;go_ret;have e:Ending.returned (G (IntKind.u16.wrap (-(xa:Int))))=.returned (G (((65536-xa)%65536:Nat):Int)):=zh (by rw[xY];omega);exact e ▸ zQ.ok HM.out HF.out Zo
theorem step_4{ov:Value}(h:MachAt w K m ov)(u:I64 oa)(t:I64 ob)(a2:on<65536)(ab:Option Addr)(an ac:Nat){v:Int->Nat}(hv:xO w vb vn v)(d:Int):
 T 97 #[L K.pm,.agg #[I 4,I c,I oa,I ob,G on,.slice ab an ac],.map (some vb),I d] w (zQ K w (.ok (65535-v oa) m)):=by
 have k:=fun(W:World) (hW:Frm K.B w W)=>(hv.kept hW).look u
 have j:=fun(W:World) (hW:Frm K.B w W)=>(hv.kept hW).look t
 have q:=hv.2 oa;have a1:=hv.2 ob;have a3:=h.size;have l:=Ja (h.keep ((Below.refl _ _).alloc (Je _) (A #[I 4,I c,I oa,I ob,G on,.slice ab an ac] 27)));have i:=Ja ((Frm.refl K.B w).alloc Zo (A #[I 4,I c,I oa,I ob,G on,.slice ab an ac] 27));have la:=fun n:Nat=>k _ (i.out.drewN (n:=n))
 have lb:=fun n:Nat=>j _ (i.out.drewN (n:=n))
 have g:=zI (W:=w) (o:=A #[I 4,I c,I oa,I ob,G on,.slice ab an ac] 27) rfl;clear h hv k j;generalize v oa=xa at *;generalize v ob=xb at *;go_enter Try.func97,Try.ntmps97;go_upto_region 1 with fail;generalize a0:w.alloc (A #[I 4,I c,I oa,I ob,G on,.slice ab an ac] 27)=W1 at *;clear a0;have p0:=K0 g;have p2:=K2 g;have p3:=K3 g;have p4:=K4 g
 go_cut [9,10] (fun x y wx=>x=G xa/\y=G xb/\∃n,wx=W1.drewN n)
 case first=>
  go_quiet (fail);go_wp2;go_meet;exact⟨rfl,rfl,_,rfl⟩
 case rest=>
  obtain⟨rfl,rfl,n,rfl⟩:=hcut;have HM:=Ja (l.out.drewN n);have HF:=Ja (i.out.drewN (n:=n));have q0:(W1.drewN n).cell? ⟨w.heap.size,0,none⟩=_:=p0;have q2:(W1.drewN n).cell? ⟨w.heap.size,2,none⟩=_:=p2;have q4:(W1.drewN n).cell? ⟨w.heap.size,4,none⟩=_:=p4;clear la lb p0 p2 p3 p4 g l i;generalize W1.drewN n=W2 at *;go_wp2;go_ret;have e:Ending.returned (G (bits .xor .u16 IntKind.u16.max (xa:Int)))=.returned (G ((65535-xa:Nat):Int)):=zh (not16 xa q);exact e ▸ zQ.ok HM.out HF.out Zo
theorem step_18{ov:Value}(h:MachAt w K m ov)(a6:I64 oa)(a5:I64 ob)(b1:on<65536)(ab:Option Addr)(an ac:Nat){v:Int->Nat}(hv:xO w vb vn v)(d:Int):
 T 97 #[L K.pm,.agg #[I 18,I c,I oa,I ob,G on,.slice ab an ac],.map (some vb),I d] w (zQ K w (pR m (v oa))):=by
 have a0:=fun(W:World) (hW:Frm K.B w W)=>(hv.kept hW).look a6
 have u:=fun(W:World) (hW:Frm K.B w W)=>(hv.kept hW).look a5
 have q:=hv.2 oa;have b0:=hv.2 ob;have b2:=h.size;have a3:=Ja (h.keep ((Below.refl _ _).alloc (Je _) (A #[I 18,I c,I oa,I ob,G on,.slice ab an ac] 27)));have l:=Ja ((Frm.refl K.B w).alloc Zo (A #[I 18,I c,I oa,I ob,G on,.slice ab an ac] 27));have la:=fun n:Nat=>a0 _ (l.out.drewN (n:=n))
 have lb:=fun n:Nat=>u _ (l.out.drewN (n:=n))
 have g:=zI (W:=w) (o:=A #[I 18,I c,I oa,I ob,G on,.slice ab an ac] 27) rfl;clear h hv a0 u;generalize v oa=xa at *;generalize v ob=xb at *;go_enter Try.func97,Try.ntmps97;go_upto_region 1 with fail;generalize a8:w.alloc (A #[I 18,I c,I oa,I ob,G on,.slice ab an ac] 27)=W1 at *;clear a8;have p0:=K0 g;have p2:=K2 g;have p3:=K3 g;have p4:=K4 g
 go_cut [9,10] (fun x y wx=>x=G xa/\y=G xb/\∃n,wx=W1.drewN n)
 case first=>
  go_quiet (fail);go_wp2;go_meet;exact⟨rfl,rfl,_,rfl⟩
 case rest=>
  obtain⟨rfl,rfl,n,rfl⟩:=hcut;have j:=Ja (a3.out.drewN n);have HF:=Ja (l.out.drewN (n:=n));have q0:(W1.drewN n).cell? ⟨w.heap.size,0,none⟩=_:=p0;have q2:(W1.drewN n).cell? ⟨w.heap.size,2,none⟩=_:=p2;have q4:(W1.drewN n).cell? ⟨w.heap.size,4,none⟩=_:=p4;clear la lb p0 p2 p3 p4 g a3 l;generalize W1.drewN n=W2 at *;have t:vt xa<65536:=Qj _ Zd;have a9:IntKind.u16.wrap ((xa:Int)+1)=((vt xa:Nat):Int):=by rw[xY];unfold vt;omega
  by_cases i:wo xa=true
  ·by_cases k:wo (vt xa)=true
   ·have EE:=Ja (show pR m xa=.ok (tC m xa+256*tC m (vt xa)) m by unfold pR;rw[if_pos i,if_pos k]);obtain⟨r1,r2,_⟩:=j.out.ramCell i;obtain⟨r3,r4,_⟩:=j.out.ramCell k;have C1:=Ja i;have C2:=Ja k;have R2:=Ja (Jb r2 r4);have t1:True:=trivial;clear i k r2 r4;go_wp2_with (first|(go_at_call 101;have a4:=t1;clear t1;go_must (refine(vX j.out xa q C1.out).mono ?_;rintro e w' ⟨rfl,rfl⟩))|(go_at_call 101;go_must (refine(vX j.out (vt xa) t C2.out).mono ?_;rintro e w' ⟨rfl,rfl⟩)))
    go_ret;rw[EE.out];have e:Ending.returned (G (bits .or .u16 (IntKind.u16.wrap (tC m xa:Int)) (IntKind.u16.wrap (IntKind.u16.wrap (tC m (vt xa):Int)*256))))=.returned (G ((tC m xa+256*tC m (vt xa):Nat):Int)):=zh (or_low _ _ R2.out.1 R2.out.2);exact e ▸ zQ.ok j.out HF.out (by have:=R2.out;omega)
   ·have a1:wo (vt xa)=false:=by simpa using k
    have EE:=Ja (show pR m xa=.trap 2 (vt xa) m by unfold pR;rw[if_pos i,if_neg k]);obtain⟨r1,r2,_⟩:=j.out.ramCell i;have C1:=Ja i;have C2:=Ja a1;have t1:True:=trivial;clear i k a1 r2;go_wp2_with (first|(go_at_call 101;have a4:=t1;clear t1;go_must (refine(vX j.out xa q C1.out).mono ?_;rintro e w' ⟨rfl,rfl⟩))|(go_at_call 101;go_must (refine(sX j.out (vt xa) t C2.out).mono ?_;rintro e w' ⟨rfl,rfl⟩)))
    exact⟨rfl,by rw[EE.out];exact zQ.trap j.out HF.out⟩
  ·have a2:wo xa=false:=by simpa using i
   have EE:=Ja (show pR m xa=.trap 2 xa m by unfold pR;rw[if_neg i]);have C1:=Ja a2;clear i a2;go_wp2_with (go_at_call 101;go_must (refine(sX j.out xa q C1.out).mono ?_;rintro e w' ⟨rfl,rfl⟩))
   exact⟨rfl,by rw[EE.out];exact zQ.trap j.out HF.out⟩
theorem step_19{ov:Value}(h:MachAt w K m ov)(a2:I64 oa)(a1:I64 ob)(a5:on<65536)(ab:Option Addr)(an ac:Nat){v:Int->Nat}(hv:xO w vb vn v)(d:Int):
 T 97 #[L K.pm,.agg #[I 19,I c,I oa,I ob,G on,.slice ab an ac],.map (some vb),I d] w (zQ K w (abh m (v oa))):=by
 have t:=fun(W:World) (hW:Frm K.B w W)=>(hv.kept hW).look a2
 have q:=fun(W:World) (hW:Frm K.B w W)=>(hv.kept hW).look a1
 have l:=hv.2 oa;have a4:=hv.2 ob;have a6:=h.size;have a0:=Ja (h.keep ((Below.refl _ _).alloc (Je _) (A #[I 19,I c,I oa,I ob,G on,.slice ab an ac] 27)));have j:=Ja ((Frm.refl K.B w).alloc Zo (A #[I 19,I c,I oa,I ob,G on,.slice ab an ac] 27));have la:=fun n:Nat=>t _ (j.out.drewN (n:=n))
 have lb:=fun n:Nat=>q _ (j.out.drewN (n:=n))
 have g:=zI (W:=w) (o:=A #[I 19,I c,I oa,I ob,G on,.slice ab an ac] 27) rfl;clear h hv t q;generalize v oa=xa at *;generalize v ob=xb at *;go_enter Try.func97,Try.ntmps97;go_upto_region 1 with fail;generalize a3:w.alloc (A #[I 19,I c,I oa,I ob,G on,.slice ab an ac] 27)=W1 at *;clear a3;have p0:=K0 g;have p2:=K2 g;have p3:=K3 g;have p4:=K4 g
 go_cut [9,10] (fun x y wx=>x=G xa/\y=G xb/\∃n,wx=W1.drewN n)
 case first=>
  go_quiet (fail);go_wp2;go_meet;exact⟨rfl,rfl,_,rfl⟩
 case rest=>
  obtain⟨rfl,rfl,n,rfl⟩:=hcut;have k:=Ja (a0.out.drewN n);have HF:=Ja (j.out.drewN (n:=n));have q0:(W1.drewN n).cell? ⟨w.heap.size,0,none⟩=_:=p0;have q2:(W1.drewN n).cell? ⟨w.heap.size,2,none⟩=_:=p2;have q4:(W1.drewN n).cell? ⟨w.heap.size,4,none⟩=_:=p4;clear la lb p0 p2 p3 p4 g a0 j;generalize W1.drewN n=W2 at *
  by_cases i:wo xa=true
  ·have EE:=Ja (show abh m xa=.ok (tC m xa) m by unfold abh;rw[if_pos i]);obtain⟨r1,r2,_⟩:=k.out.ramCell i;have C1:=Ja i;have R2:=Ja r2;clear i r2;go_wp2_with (go_at_call 101;go_must (refine(vX k.out xa l C1.out).mono ?_;rintro e w' ⟨rfl,rfl⟩))
   go_ret;rw[EE.out];have e:Ending.returned (G (IntKind.u16.wrap (tC m xa:Int)))=.returned (G ((tC m xa:Nat):Int)):=zh (by rw[xY];have:=R2.out;omega);exact e ▸ zQ.ok k.out HF.out (by have:=R2.out;omega)
  ·have u:wo xa=false:=by simpa using i
   have EE:=Ja (show abh m xa=.trap 2 xa m by unfold abh;rw[if_neg i]);have C1:=Ja u;clear i u;go_wp2_with (go_at_call 101;go_must (refine(sX k.out xa l C1.out).mono ?_;rintro e w' ⟨rfl,rfl⟩))
   exact⟨rfl,by rw[EE.out];exact zQ.trap k.out HF.out⟩
theorem step_20{ov:Value}(h:MachAt w K m ov)(b0:I64 oa)(a9:I64 ob)(b4:on<65536)(ab:Option Addr)(an ac:Nat){v:Int->Nat}(hv:xO w vb vn v)(d:Int):
 T 97 #[L K.pm,.agg #[I 20,I c,I oa,I ob,G on,.slice ab an ac],.map (some vb),I d] w (zQ K w (sK m (v oa) (v ob))):=by
 have a2:=fun(W:World) (hW:Frm K.B w W)=>(hv.kept hW).look b0
 have a1:=fun(W:World) (hW:Frm K.B w W)=>(hv.kept hW).look a9
 have u:=hv.2 oa;have b3:=hv.2 ob;have b5:=h.size;have a5:=Ja (h.keep ((Below.refl _ _).alloc (Je _) (A #[I 20,I c,I oa,I ob,G on,.slice ab an ac] 27)));have t:=Ja ((Frm.refl K.B w).alloc Zo (A #[I 20,I c,I oa,I ob,G on,.slice ab an ac] 27));have la:=fun n:Nat=>a2 _ (t.out.drewN (n:=n))
 have lb:=fun n:Nat=>a1 _ (t.out.drewN (n:=n))
 have g:=zI (W:=w) (o:=A #[I 20,I c,I oa,I ob,G on,.slice ab an ac] 27) rfl;clear h hv a2 a1;generalize v oa=xa at *;generalize v ob=xb at *;go_enter Try.func97,Try.ntmps97;go_upto_region 1 with fail;generalize b1:w.alloc (A #[I 20,I c,I oa,I ob,G on,.slice ab an ac] 27)=W1 at *;clear b1;have p0:=K0 g;have p2:=K2 g;have p3:=K3 g;have p4:=K4 g
 go_cut [9,10] (fun x y wx=>x=G xa/\y=G xb/\∃n,wx=W1.drewN n)
 case first=>
  go_quiet (fail);go_wp2;go_meet;exact⟨rfl,rfl,_,rfl⟩
 case rest=>
  obtain⟨rfl,rfl,n,rfl⟩:=hcut;have j:=Ja (a5.out.drewN n);have HF:=Ja (t.out.drewN (n:=n));have q0:(W1.drewN n).cell? ⟨w.heap.size,0,none⟩=_:=p0;have q2:(W1.drewN n).cell? ⟨w.heap.size,2,none⟩=_:=p2;have q4:(W1.drewN n).cell? ⟨w.heap.size,4,none⟩=_:=p4;clear la lb p0 p2 p3 p4 g a5 t;generalize W1.drewN n=W2 at *;have a0:vt xa<65536:=Qj _ Zd;have b2:IntKind.u16.wrap ((xa:Int)+1)=((vt xa:Nat):Int):=by rw[xY];unfold vt;omega
  by_cases i:wo xa=true
  ·by_cases q:wo (vt xa)=true
   ·have EE:=Ja (show sK m xa xb=.ok 0 ((m.put xa (xb%256)).put (vt xa) (xb/256)) by unfold sK;rw[if_pos i,if_pos q]);obtain⟨r0,_,r1⟩:=j.out.ramCell i;have l:=j.out.setR xa (xb%256) Zo;have k:=l.1.setR (vt xa) (xb/256) Zo;obtain⟨r2,_,r3⟩:=l.1.ramCell q;rw[show((xb%256:Nat):Int)=(xb:Int)%256 by omega] at r2 r3 l k;rw[show((xb/256:Nat):Int)=(xb:Int)/256 by omega] at k;have C1:=Ja i;have C2:=Ja q;have a6:=Ja (Jb k.1 ((HF.out.trans l.2).trans k.2));have t1:True:=trivial;clear i q l k;go_wp2_with (first|(go_at_call 101;have a8:=t1;clear t1;go_must (refine(vX j.out xa u C1.out).mono ?_;rintro e w' ⟨rfl,rfl⟩))|(go_at_call 101;go_must (refine(vX j.out (vt xa) a0 C2.out).mono ?_;rintro e w' ⟨rfl,rfl⟩)))
    go_ret;rw[EE.out];exact zQ.ok (x:=0) a6.out.1 a6.out.2 Zd
   ·have a3:wo (vt xa)=false:=by simpa using q
    have EE:=Ja (show sK m xa xb=.trap 2 (vt xa) m by unfold sK;rw[if_pos i,if_neg q]);obtain⟨r1,r2,_⟩:=j.out.ramCell i;have C1:=Ja i;have C2:=Ja a3;have t1:True:=trivial;clear i q a3 r2;go_wp2_with (first|(go_at_call 101;have a8:=t1;clear t1;go_must (refine(vX j.out xa u C1.out).mono ?_;rintro e w' ⟨rfl,rfl⟩))|(go_at_call 101;go_must (refine(sX j.out (vt xa) a0 C2.out).mono ?_;rintro e w' ⟨rfl,rfl⟩)))
    exact⟨rfl,by rw[EE.out];exact zQ.trap j.out HF.out⟩
  ·have a4:wo xa=false:=by simpa using i
   have EE:=Ja (show sK m xa xb=.trap 2 xa m by unfold sK;rw[if_neg i]);have C1:=Ja a4;clear i a4;go_wp2_with (go_at_call 101;go_must (refine(sX j.out xa u C1.out).mono ?_;rintro e w' ⟨rfl,rfl⟩))
   exact⟨rfl,by rw[EE.out];exact zQ.trap j.out HF.out⟩
theorem step_21{ov:Value}(h:MachAt w K m ov)(a4:I64 oa)(a3:I64 ob)(a8:on<65536)(ab:Option Addr)(an ac:Nat){v:Int->Nat}(hv:xO w vb vn v)(d:Int):
 T 97 #[L K.pm,.agg #[I 21,I c,I oa,I ob,G on,.slice ab an ac],.map (some vb),I d] w (zQ K w (td m (v oa) (v ob))):=by
 have u:=fun(W:World) (hW:Frm K.B w W)=>(hv.kept hW).look a4
 have t:=fun(W:World) (hW:Frm K.B w W)=>(hv.kept hW).look a3
 have q:=hv.2 oa;have a6:=hv.2 ob;have a9:=h.size;have a1:=Ja (h.keep ((Below.refl _ _).alloc (Je _) (A #[I 21,I c,I oa,I ob,G on,.slice ab an ac] 27)));have k:=Ja ((Frm.refl K.B w).alloc Zo (A #[I 21,I c,I oa,I ob,G on,.slice ab an ac] 27));have la:=fun n:Nat=>u _ (k.out.drewN (n:=n))
 have lb:=fun n:Nat=>t _ (k.out.drewN (n:=n))
 have g:=zI (W:=w) (o:=A #[I 21,I c,I oa,I ob,G on,.slice ab an ac] 27) rfl;clear h hv u t;generalize v oa=xa at *;generalize v ob=xb at *;go_enter Try.func97,Try.ntmps97;go_upto_region 1 with fail;generalize a5:w.alloc (A #[I 21,I c,I oa,I ob,G on,.slice ab an ac] 27)=W1 at *;clear a5;have p0:=K0 g;have p2:=K2 g;have p3:=K3 g;have p4:=K4 g
 go_cut [9,10] (fun x y wx=>x=G xa/\y=G xb/\∃n,wx=W1.drewN n)
 case first=>
  go_quiet (fail);go_wp2;go_meet;exact⟨rfl,rfl,_,rfl⟩
 case rest=>
  obtain⟨rfl,rfl,n,rfl⟩:=hcut;have l:=Ja (a1.out.drewN n);have HF:=Ja (k.out.drewN (n:=n));have q0:(W1.drewN n).cell? ⟨w.heap.size,0,none⟩=_:=p0;have q2:(W1.drewN n).cell? ⟨w.heap.size,2,none⟩=_:=p2;have q4:(W1.drewN n).cell? ⟨w.heap.size,4,none⟩=_:=p4;clear la lb p0 p2 p3 p4 g a1 k;generalize W1.drewN n=W2 at *
  by_cases i:wo xa=true
  ·have EE:=Ja (show td m xa xb=.ok 0 (m.put xa (xb%256)) by unfold td;rw[if_pos i]);obtain⟨r0,_,r1⟩:=l.out.ramCell i;have j:=l.out.setR xa (xb%256) Zo;rw[show((xb%256:Nat):Int)=(xb:Int)%256 by omega] at j;have C1:=Ja i;have a2:=Ja (Jb j.1 (HF.out.trans j.2));clear i j;go_wp2_with (go_at_call 101;go_must (refine(vX l.out xa q C1.out).mono ?_;rintro e w' ⟨rfl,rfl⟩))
   go_ret;rw[EE.out];exact zQ.ok (x:=0) a2.out.1 a2.out.2 Zd
  ·have a0:wo xa=false:=by simpa using i
   have EE:=Ja (show td m xa xb=.trap 2 xa m by unfold td;rw[if_neg i]);have C1:=Ja a0;clear i a0;go_wp2_with (go_at_call 101;go_must (refine(sX l.out xa q C1.out).mono ?_;rintro e w' ⟨rfl,rfl⟩))
   exact⟨rfl,by rw[EE.out];exact zQ.trap l.out HF.out⟩
def pq (K:MK)(r:Nat):Prop:=
 ∀(w:World) (m:Mach) (ov av:Value) (f:Int) (args:List Nat),MachAt w K m ov->0<=f->f.toNat<K.E.p.funcs.length->wV w w.heap.size av args->(args.length:Int)=K.E.p.args.getD f.toNat 0->
  T 91 #[L K.pm,I f,av,I (101-(r:Int))] w (zQ K w (xW K.E r f args m))
theorem Try.info_u16:(Try.prog.info? 22).map (fun i=>(i.zero,i.size,i.bytes))=some (some (G 0),1,2):=by kernel_rfl
theorem ms{S:Nat}{av:Value}{n:Nat}{xs:List Nat}(h:w.ownsRow S 22 1 av n (xs.map vL))(j:xs.length=n)(i:∀x∈xs,x<65536):wV w w.heap.size av xs:=by
 subst j;obtain⟨a,c,rfl⟩:=zG h;have hl:=zm h;refine⟨a,c,rfl,hl.1,by omega,fun k x hk=>?_⟩;have l:=(Jh.1 hk).1;obtain⟨g,m,e,hg,d⟩:=h.form Zo;cases e;refine⟨g,0,rfl,d,?_,i x (Ji hk)⟩;rw[Nk,Ng];exact(h.cellAt k Zo).trans (by rw[Jr,hk];rfl)
def uT (v:Int->Nat)(xs:List Int)(k:Nat):List Nat:=(xs.take k).map v
theorem qH{v:Int->Nat}(h:xs[k]? =some x):uT v xs (k+1)=uT v xs k++ [v x]:=by unfold uT;rw[Nh,h,Js];rfl
theorem pA{v:Int->Nat}(h:k<=xs.length):(uT v xs k).length=k:=by unfold uT;rw[Nr,Oc];omega
theorem r8{v:Int->Nat}:uT v xs xs.length=xs.map v:=by unfold uT;rw[Nl]
theorem step_26{ov:Value}(h:MachAt w K m ov){d:Int}(d3:I64 oa)(d2:I64 ob)(e8:on<65536){av:Value}(a4:zY w w.heap.size av xs)(e6:xs.length<=65536)
  {v:Int->Nat} (hv:xO w vb vn v) {r:Nat} (hr:r<=100) (hC:pq K r) (hf:0<=oa/\oa.toNat<K.E.p.funcs.length/\(xs.length:Int)=K.E.p.args.getD oa.toNat 0):
 T 97 #[L K.pm,.agg #[I 26,I d,I oa,I ob,G on,av],.map (some vb),I (100-(r:Int))] w (zQ K w (xW K.E r oa (xs.map v) m)):=by
 obtain⟨ab,ac,rfl,f2,e4⟩:=a4.form;have c0:=fun(W:World) (hW:Frm K.B w W)=>(hv.kept hW).look d3
 have b9:=fun(W:World) (hW:Frm K.B w W)=>(hv.kept hW).look d2
 have f0:=h.size;have c2:=Ja (h.keep ((Below.refl _ _).alloc (Je _) (A #[I 26,I d,I oa,I ob,G on,.slice ab xs.length ac] 27)));have a1:=Ja ((Frm.refl K.B w).alloc Zo (A #[I 26,I d,I oa,I ob,G on,.slice ab xs.length ac] 27));have c1:=Ja (a4.below zO ((Below.refl w.heap.size w).alloc (Je _) (A #[I 26,I d,I oa,I ob,G on,.slice ab xs.length ac] 27)));have la:=fun n:Nat=>c0 _ (a1.out.drewN (n:=n))
 have lb:=fun n:Nat=>b9 _ (a1.out.drewN (n:=n))
 have j:=zI (W:=w) (o:=A #[I 26,I d,I oa,I ob,G on,.slice ab xs.length ac] 27) rfl;have b8:=Ja (hv.kept a1.out);have HC:=Ja hC;have b3:=Ja hf;have a5:w.heap.size<(w.alloc (A #[I 26,I d,I oa,I ob,G on,.slice ab xs.length ac] 27)).heap.size:=by simp
 clear h hv c0 b9 a4 hC hf;obtain⟨xa,b6⟩:∃xa,v oa=xa:=⟨_,rfl⟩
 obtain⟨xb,b5⟩:∃xb,v ob=xb:=⟨_,rfl⟩
 rw[b6] at la;rw[b5] at lb;clear b6 b5;go_enter Try.func97,Try.ntmps97;go_upto_region 1 with fail;generalize d6:w.alloc (A #[I 26,I d,I oa,I ob,G on,.slice ab xs.length ac] 27)=W1 at *;clear d6;have p0:=K0 j;have p2:=K2 j;have p3:=K3 j;have p5:=K5 j
 go_cut [9,10] (fun x y wx=>x=G xa/\y=G xb/\∃n,wx=W1.drewN n)
 case first=>
  go_quiet (fail);go_wp2;go_meet;exact⟨rfl,rfl,_,rfl⟩
 case rest=>
  obtain⟨rfl,rfl,n,rfl⟩:=hcut;have HM:=Ja (c2.out.drewN n);have HF:=Ja (a1.out.drewN (n:=n));have b2:=Ja ((b8.out.kept (Frm.refl K.B W1).drewN:xO (W1.drewN n) vb vn v));have d8:=Ja (c1.out.below zO (yL w.heap.size W1 n));have q0:(W1.drewN n).cell? ⟨w.heap.size,0,none⟩=_:=p0;have q2:(W1.drewN n).cell? ⟨w.heap.size,2,none⟩=_:=p2;have q5:(W1.drewN n).cell? ⟨w.heap.size,5,none⟩=_:=p5;have d1:w.heap.size<(W1.drewN n).heap.size:=a5;clear la lb p0 p2 p3 p5 j c2 a1 b8 c1 a5;generalize W1.drewN n=W2 at *;go_wp2
  go_loopw [15,159] (fun rv kv wx=>∃k:Nat,k<=xs.length/\kv=I k/\Hid (wx.ownsRow W2.heap.size 22 1 rv k ((uT v xs k).map vL)/\O W2 wx)) (fun _ kv _=>xs.length-(intOf kv).toNat)
  case atStart=>exact⟨0,Jt _,rfl,Jv _ _ _ _,Below.refl _ _⟩
  case round=>
   obtain⟨k,hk,rfl,q⟩:=hrel;obtain⟨ra,rc,rfl⟩:=zG q.out.1;have a3:Frm K.B W2 wr:=⟨q.out.2.mono (by have:=HM.out.size;omega),fun i o hi _=>zH q.out.2 hi (lt_of_block hi)⟩
   by_cases a8:k<xs.length
   ·have l:(k:Int)<xs.length:=Zo;have c4:=Ja a8;obtain⟨x,hx⟩:∃x,xs[k]? =some x:=⟨_,Jd a8⟩
    obtain⟨b,o,rfl,hb,b0,d0⟩:=d8.out.get hx;rw[Nk] at b0;have cx:=(q.out.2.cell (p:=⟨b,o+k,none⟩) (by show b<W2.heap.size;omega)).trans b0;have lx:=(b2.out.kept a3).look d0;have e7:=b2.out.2 x;have d7:=Ja (qH (v:=v) hx);have f1:=pA (v:=v) (show k<=xs.length by omega);obtain⟨ii,d4,c9,c8,c7⟩:=info_parts Try.info_u16;have e1:=q.out.2.size;clear hx b0 a8;generalize v x=vx at *;go_wp2_with (at_builtin;go_must (refine wpList_append_lies _ rfl (.tmp 163) (.tmp 167) 29 rfl W2.heap.size 22 ii (G 0) 1 2 Try.underlying29 d4 c9 c8 c7 rfl Zd _ k ((uT v xs k).map vL) rfl (q.out.1.alloc _) ⟨wr.heap.size,0,none⟩ 1 1 [G vx] rfl rfl (Oi (cs:=#[G vx]) (zI Zs)) (by simp[Value.oneCell']) Zd (by unfold maxLen;omega) Zo Zt (wr.heap.size+1) Zs ?_;intro gq e5 w6 a2 u e3 e2;have c3:=Ja (Jb a2 u);clear a2 u))
    go_roundw
    case rel=>
     refine⟨k+1,c4.out,by go_num,?_,(q.out.2.alloc Zo _).grown c3.out.2 Zt (fun k hk=>(q.out.1.lt k hk).1)⟩;rw[d7.out,Js];exact c3.out.1
    case measure=>have:=c4.out;simp[intOf];omega
   ·obtain rfl:k=xs.length:=by omega
    have l:¬(xs.length:Int)<xs.length:=Zo;have t:=q.out.1;rw[r8] at t;have e0:wr.cell? ⟨w.heap.size,2,none⟩=_:=(q.out.2.cell (p:=⟨w.heap.size,2,none⟩) d1).trans q2;have b1:=HM.out.keep q.out.2;have c:=HC.out wr m ov (.slice ra xs.length rc) oa (xs.map v) b1 b3.out.1 b3.out.2.1 (ms t Zs (fun y hy=>by obtain⟨z,_,rfl⟩:=Nu.1 hy;exact b2.out.2 z)) (by simpa using b3.out.2.2);have c5:=Ja (HF.out.trans a3)
    cases g:xW K.E r oa (xs.map v) m with
    |ok x m'=>
     have a0:T 91 #[L K.pm,I oa,.slice ra xs.length rc,I (101-(r:Int))] wr fun e w'=>e=.returned (G x)/\(∃ov',MachAt w' K m' ov')/\Frm K.B wr w'/\x<65536:=by rw[g] at c;exact c
     have b4:=Ja a0;have HR:=Ja g;clear c a0 g t b1 a3 l;have l:¬(xs.length:Int)<xs.length:=Zo;have d5:(100-(r:Int))+1=101-(r:Int):=Zo;go_wp2_with (go_at_call 91;go_must (refine b4.out.mono ?_;rintro e w' ⟨rfl,⟨ov',a6⟩,a9,b7⟩))
     go_ret;rw[HR.out]
     exact zQ.ok a6 (c5.out.trans a9) b7
    |trap k i m'=>
     have a0:T 91 #[L K.pm,I oa,.slice ra xs.length rc,I (101-(r:Int))] wr fun e w'=>e=.panicked [oE k i]/\(∃ov',MachAt w' K m' ov')/\Frm K.B wr w'/\True:=by rw[g] at c;exact c
     have b4:=Ja a0;have HR:=Ja g;clear c a0 g t b1 a3 l;have l:¬(xs.length:Int)<xs.length:=Zo;have d5:(100-(r:Int))+1=101-(r:Int):=Zo;go_wp2_with (go_at_call 91;go_must (refine b4.out.mono ?_;rintro e w' ⟨rfl,⟨ov',a6⟩,a9,b7⟩))
     exact⟨rfl,by rw[HR.out];exact zQ.trap a6 (c5.out.trans a9)⟩
theorem lP:∀x2 x4 x5 x7:Bool,(x7=false)∨(x2=false/\x7=true)∨(x2=true/\x4=false/\x7=true)∨(x2=true/\x4=true/\x5=false/\x7=true)∨(x2=true/\x4=true/\x5=true/\x7=true)
 |_,_,_,false=>(.inl rfl)
 |false,_,_,true=>(.inr (.inl ⟨rfl,rfl⟩))
 |true,false,_,true=>(.inr (.inr (.inl ⟨rfl,rfl,rfl⟩)))
 |true,true,false,true=>(Zi (.inl ⟨rfl,rfl,rfl,rfl⟩))
 |true,true,true,true=>(Zi (.inr ⟨rfl,rfl,rfl,rfl⟩))
theorem jZ:∀x1 x4 x6:Bool,(x1=false)∨(x1=true/\x4=false)∨(x1=true/\x4=true/\x6=false)∨(x1=true/\x4=true/\x6=true)
 |false,_,_=>(.inl rfl)
 |true,false,_=>(.inr (.inl ⟨rfl,rfl⟩))
 |true,true,false=>(.inr (.inr (.inl ⟨rfl,rfl,rfl⟩)))
 |true,true,true=>(.inr (.inr (.inr ⟨rfl,rfl,rfl⟩)))
theorem kM{B:Nat}{V:PV}{p:IProg}(hp:ProgIn w B V p)(hB:B<=w.heap.size)(hC:Q w C (rC V p++tl).toArray 107)(hl:p.args.length=p.funcs.length)(o:IOp)(ho:qN o)(ar:Option Addr)(i:Nat)(b6:o.args.length<=i/\i<=9223372036854775807)(j:o.code=26):
 T 77 #[L C,opV o (.slice ar o.args.length i)] w (ym w (opF p o)):=by
 unfold opV;obtain⟨_,b3,b8,b7,b4⟩:=ho;have b5:o.args.length<=9223372036854775807:=Zo;obtain⟨Vf,Va,Vd,Vb⟩:=V;obtain⟨f1,f2,e1,a6,a5⟩:=hp.funcs.form;have m:=hp.args;obtain⟨a1,a2,e2,b2,b1⟩:=hp.args.form;obtain⟨d1,d2,e3,a9,a8⟩:=hp.data.form;simp only at e1 e2 e3 m;subst e1 e2 e3;have c0:p.funcs.length<=9223372036854775807:=Zo;have c1:p.data.length<=9223372036854775807:=Zo;clear hp a6 a5 b2 b1 a9 a8;have c2:=lt_of_block hC;have hf:∀W,T 81 #[I 26] W fun e w'=>e=.returned (.tuple #[.agg #[.bool false,.bool false,.bool false,.bool false],.bool true])/\O W w':=fun W=>yu 26 W
 obtain⟨x0,h0⟩:∃q,decide (0<=o.a)=q:=⟨_,rfl⟩
 obtain⟨x1,h1⟩:∃q,decide (0<=o.res)=q:=⟨_,rfl⟩
 obtain⟨x2,h2⟩:∃q,decide (-1<=o.res)=q:=⟨_,rfl⟩
 obtain⟨x3,h3⟩:∃q,decide (o.a<(p.funcs.length:Int))=q:=⟨_,rfl⟩
 obtain⟨x4,h4⟩:∃q,decide (o.b=0)=q:=⟨_,rfl⟩
 obtain⟨x5,h5⟩:∃q,decide (o.n=0)=q:=⟨_,rfl⟩
 obtain⟨x6,h6⟩:∃q,decide (o.args.length=0)=q:=⟨_,rfl⟩
 obtain⟨x7,l⟩:∃q,decide ((o.args.length:Int)=p.args.getD o.a.toNat 0)=q:=⟨_,rfl⟩
 have e:opF p o=(x0 && x3 && x7 && x2 && x4 && x5):=by
  unfold opF;rw[j];rw[h0,h3,l,h2,h4,h5];rfl
 rw[j];obtain⟨R,hR⟩:∃R,opF p o=R:=⟨_,rfl⟩
 rw[hR];rw[e] at hR;have HR:=Ja hR;have HF:=Ja hf;have HC:=Ja hC;have t4:=z6 h4;have t5:((o.n:Int)==0)=x5:=z6 (zZ h5 Zo);have t6:((o.args.length:Int)==0)=x6:=z6 (zZ h6 Zo);clear e hR hf h4 h5 h6 hC
 cases x0 with
 |false=>
  skip
  all_goals go_enter Try.func77,Try.ntmps77
  all_goals go_wp2_with (first|(go_at_call 81;go_must (refine(HF.out _).mono ?_;rintro e w1 ⟨rfl,d⟩;have c:=zH d (zI rfl) Zs;have u0:∀ob,U (w1.alloc ob) w.heap.size 0 (I 26):=fun ob=>zA (zB c) Zs;have u1:∀ob,U (w1.alloc ob) w.heap.size 1 (I o.res):=fun ob=>zA (zB c) Zs;have u2:∀ob,U (w1.alloc ob) w.heap.size 2 (I o.a):=fun ob=>zA (zB c) Zs;have u3:∀ob,U (w1.alloc ob) w.heap.size 3 (I o.b):=fun ob=>zA (zB c) Zs;have u4:∀ob,U (w1.alloc ob) w.heap.size 4 (G (o.n:Int)):=fun ob=>zA (zB c) Zs;have u5:∀ob,U (w1.alloc ob) w.heap.size 5 (.slice ar o.args.length i):=fun ob=>zA (zB c) Zs;have g:=zH d (zB HC.out) Zt;have v0:∀ob,U (w1.alloc ob) C 0 (.slice f1 p.funcs.length f2):=fun ob=>zA (zB g) rfl;have v1:∀ob,U (w1.alloc ob) C 1 (.slice a1 p.args.length a2):=fun ob=>zA (zB g) rfl;have v4:∀ob,U (w1.alloc ob) C 4 (.slice d1 p.data.length d2):=fun ob=>zA (zB g) rfl;clear c g;have h:=Ja d;clear d))|go_in)
  all_goals go_quiet (fail)
  all_goals go_wp2
  all_goals go_ret
  all_goals exact⟨uz (HR.out.symm.trans rfl),yC ((((Below.refl _ _).alloc (Je _) _).trans (h.out.mono Zs)).alloc (by have y:=h.out.size;simp at y;omega) _)⟩
 |true=>
  obtain⟨k,hk⟩:∃k:Nat,o.a=(k:Int):=⟨o.a.toNat,by have:=of_decide_eq_true h0;omega⟩
  rw[hk] at h3 l ⊢;have t0:decide ((0:Int)<=(k:Int))=true:=decide_eq_true Zo;have t3:decide (k<p.funcs.length)=x3:=zZ h3 Zo
  cases x3 with
  |false=>
   clear l
   all_goals go_enter Try.func77,Try.ntmps77
   all_goals go_wp2_with (first|(go_at_call 81;go_must (refine(HF.out _).mono ?_;rintro e w1 ⟨rfl,d⟩;have c:=zH d (zI rfl) Zs;have u0:∀ob,U (w1.alloc ob) w.heap.size 0 (I 26):=fun ob=>zA (zB c) Zs;have u1:∀ob,U (w1.alloc ob) w.heap.size 1 (I o.res):=fun ob=>zA (zB c) Zs;have u2:∀ob,U (w1.alloc ob) w.heap.size 2 (I k):=fun ob=>zA (zB c) Zs;have u3:∀ob,U (w1.alloc ob) w.heap.size 3 (I o.b):=fun ob=>zA (zB c) Zs;have u4:∀ob,U (w1.alloc ob) w.heap.size 4 (G (o.n:Int)):=fun ob=>zA (zB c) Zs;have u5:∀ob,U (w1.alloc ob) w.heap.size 5 (.slice ar o.args.length i):=fun ob=>zA (zB c) Zs;have g:=zH d (zB HC.out) Zt;have v0:∀ob,U (w1.alloc ob) C 0 (.slice f1 p.funcs.length f2):=fun ob=>zA (zB g) rfl;have v1:∀ob,U (w1.alloc ob) C 1 (.slice a1 p.args.length a2):=fun ob=>zA (zB g) rfl;have v4:∀ob,U (w1.alloc ob) C 4 (.slice d1 p.data.length d2):=fun ob=>zA (zB g) rfl;clear c g;have h:=Ja d;clear d))|go_in)
   all_goals go_quiet (fail)
   all_goals go_wp2
   all_goals go_ret
   all_goals exact⟨uz (HR.out.symm.trans rfl),yC ((((Below.refl _ _).alloc (Je _) _).trans (h.out.mono Zs)).alloc (by have y:=h.out.size;simp at y;omega) _)⟩
  |true=>
   have a4:k<p.funcs.length:=of_decide_eq_true t3;obtain⟨x,hx⟩:∃x,p.args[k]? =some x:=⟨_,Jd Zo⟩
   obtain⟨ba,oa,rfl,a0,u,_⟩:=m.get hx;rw[Nk] at u;rw[Ni,Jj,hx,Ot] at l;have t7:=z6 l;have b9:(k:Int)<p.args.length:=Zo;have a3:=Ja (Jb (Jy a0 hB) u);clear l hx u a0 m a4;have b0:=lP x2 x4 x5 x7;rcases b0 with rfl|⟨rfl,rfl⟩|⟨rfl,rfl,rfl⟩|⟨rfl,rfl,rfl,rfl⟩|⟨rfl,rfl,rfl,rfl⟩
   all_goals go_enter Try.func77,Try.ntmps77
   all_goals go_wp2_with (first|(go_at_call 81;go_must (refine(HF.out _).mono ?_;rintro e w1 ⟨rfl,d⟩;have c:=zH d (zI rfl) Zs;have u0:∀ob,U (w1.alloc ob) w.heap.size 0 (I 26):=fun ob=>zA (zB c) Zs;have u1:∀ob,U (w1.alloc ob) w.heap.size 1 (I o.res):=fun ob=>zA (zB c) Zs;have u2:∀ob,U (w1.alloc ob) w.heap.size 2 (I k):=fun ob=>zA (zB c) Zs;have u3:∀ob,U (w1.alloc ob) w.heap.size 3 (I o.b):=fun ob=>zA (zB c) Zs;have u4:∀ob,U (w1.alloc ob) w.heap.size 4 (G (o.n:Int)):=fun ob=>zA (zB c) Zs;have u5:∀ob,U (w1.alloc ob) w.heap.size 5 (.slice ar o.args.length i):=fun ob=>zA (zB c) Zs;have g:=zH d (zB HC.out) Zt;have v0:∀ob,U (w1.alloc ob) C 0 (.slice f1 p.funcs.length f2):=fun ob=>zA (zB g) rfl;have v1:∀ob,U (w1.alloc ob) C 1 (.slice (some ⟨ba,oa,none⟩) p.args.length a2):=fun ob=>zA (zB g) rfl;have v4:∀ob,U (w1.alloc ob) C 4 (.slice d1 p.data.length d2):=fun ob=>zA (zB g) rfl;have t:=((Below.refl w.heap.size w).alloc (Je _) _).trans (d.mono Zs);have v9:∀ob,U (w1.alloc ob) ba (oa+k) (I x):=fun ob=>zV (t.alloc t.size ob) a3.out.1 a3.out.2;clear t;clear c g;have h:=Ja d;clear d))|go_in)
   all_goals go_quiet (fail)
   all_goals go_wp2
   all_goals go_ret
   all_goals exact⟨uz (HR.out.symm.trans rfl),yC ((((Below.refl _ _).alloc (Je _) _).trans (h.out.mono Zs)).alloc (by have y:=h.out.size;simp at y;omega) _)⟩
theorem jo{B:Nat}{V:PV}{p:IProg}(hp:ProgIn w B V p)(hB:B<=w.heap.size)(u:Q w C (rC V p++tl).toArray 107)(hl:p.args.length=p.funcs.length)(o:IOp)(ho:qN o)(ar:Option Addr)(i:Nat)(b4:o.args.length<=i/\i<=9223372036854775807)(j:o.code=2):
 T 77 #[L C,opV o (.slice ar o.args.length i)] w (ym w (opF p o)):=by
 unfold opV;obtain⟨_,b1,b6,b5,b2⟩:=ho;have b3:o.args.length<=9223372036854775807:=Zo;obtain⟨Vf,Va,Vd,Vb⟩:=V;obtain⟨f1,f2,e1,a4,a3⟩:=hp.funcs.form;have t:=hp.args;obtain⟨a1,a2,e2,b0,a9⟩:=hp.args.form;obtain⟨d1,d2,e3,a6,a5⟩:=hp.data.form;simp only at e1 e2 e3 t;subst e1 e2 e3;have b7:p.funcs.length<=9223372036854775807:=Zo;have b8:p.data.length<=9223372036854775807:=Zo;clear hp a4 a3 b0 a9 a6 a5;have b9:=lt_of_block u;have hf:∀W,T 81 #[I 2] W fun e w'=>e=.returned (.tuple #[.agg #[.bool true,.bool false,.bool false,.bool true],.bool true])/\O W w':=fun W=>yu 2 W
 obtain⟨x0,h0⟩:∃q,decide (0<=o.a)=q:=⟨_,rfl⟩
 obtain⟨x1,h1⟩:∃q,decide (0<=o.res)=q:=⟨_,rfl⟩
 obtain⟨x2,h2⟩:∃q,decide (-1<=o.res)=q:=⟨_,rfl⟩
 obtain⟨x3,h3⟩:∃q,decide (o.a<(p.data.length:Int))=q:=⟨_,rfl⟩
 obtain⟨x4,h4⟩:∃q,decide (o.b=0)=q:=⟨_,rfl⟩
 obtain⟨x5,h5⟩:∃q,decide (o.n=0)=q:=⟨_,rfl⟩
 obtain⟨x6,y⟩:∃q,decide (o.args.length=0)=q:=⟨_,rfl⟩
 obtain⟨x7,x⟩:∃q,decide ((o.args.length:Int)=p.args.getD o.a.toNat 0)=q:=⟨_,rfl⟩
 have e:opF p o=(x0 && x3 && x1 && x4 && x6):=by
  unfold opF;rw[j];rw[h0,h3,h1,h4,y];rfl
 rw[j];obtain⟨R,m⟩:∃R,opF p o=R:=⟨_,rfl⟩
 rw[m];rw[e] at m;have HR:=Ja m;have HF:=Ja hf;have HC:=Ja u;have t4:=z6 h4;have t5:((o.n:Int)==0)=x5:=z6 (zZ h5 Zo);have t6:((o.args.length:Int)==0)=x6:=z6 (zZ y Zo);clear e m hf h4 h5 y u
 cases x0 with
 |false=>
  skip
  all_goals go_enter Try.func77,Try.ntmps77
  all_goals go_wp2_with (first|(go_at_call 81;go_must (refine(HF.out _).mono ?_;rintro e w1 ⟨rfl,g⟩;have c:=zH g (zI rfl) Zs;have u0:∀ob,U (w1.alloc ob) w.heap.size 0 (I 2):=fun ob=>zA (zB c) Zs;have u1:∀ob,U (w1.alloc ob) w.heap.size 1 (I o.res):=fun ob=>zA (zB c) Zs;have u2:∀ob,U (w1.alloc ob) w.heap.size 2 (I o.a):=fun ob=>zA (zB c) Zs;have u3:∀ob,U (w1.alloc ob) w.heap.size 3 (I o.b):=fun ob=>zA (zB c) Zs;have u4:∀ob,U (w1.alloc ob) w.heap.size 4 (G (o.n:Int)):=fun ob=>zA (zB c) Zs;have u5:∀ob,U (w1.alloc ob) w.heap.size 5 (.slice ar o.args.length i):=fun ob=>zA (zB c) Zs;have d:=zH g (zB HC.out) Zt;have v0:∀ob,U (w1.alloc ob) C 0 (.slice f1 p.funcs.length f2):=fun ob=>zA (zB d) rfl;have v1:∀ob,U (w1.alloc ob) C 1 (.slice a1 p.args.length a2):=fun ob=>zA (zB d) rfl;have v4:∀ob,U (w1.alloc ob) C 4 (.slice d1 p.data.length d2):=fun ob=>zA (zB d) rfl;clear c d;have h:=Ja g;clear g))|go_in)
  all_goals go_quiet (fail)
  all_goals go_wp2
  all_goals go_ret
  all_goals exact⟨uz (HR.out.symm.trans rfl),yC ((((Below.refl _ _).alloc (Je _) _).trans (h.out.mono Zs)).alloc (by have l:=h.out.size;simp at l;omega) _)⟩
 |true=>
  obtain⟨k,hk⟩:∃k:Nat,o.a=(k:Int):=⟨o.a.toNat,by have:=of_decide_eq_true h0;omega⟩
  rw[hk] at h3 x ⊢;have t0:decide ((0:Int)<=(k:Int))=true:=decide_eq_true Zo;have t3:decide (k<p.data.length)=x3:=zZ h3 Zo
  cases x3 with
  |false=>
   clear x
   all_goals go_enter Try.func77,Try.ntmps77
   all_goals go_wp2_with (first|(go_at_call 81;go_must (refine(HF.out _).mono ?_;rintro e w1 ⟨rfl,g⟩;have c:=zH g (zI rfl) Zs;have u0:∀ob,U (w1.alloc ob) w.heap.size 0 (I 2):=fun ob=>zA (zB c) Zs;have u1:∀ob,U (w1.alloc ob) w.heap.size 1 (I o.res):=fun ob=>zA (zB c) Zs;have u2:∀ob,U (w1.alloc ob) w.heap.size 2 (I k):=fun ob=>zA (zB c) Zs;have u3:∀ob,U (w1.alloc ob) w.heap.size 3 (I o.b):=fun ob=>zA (zB c) Zs;have u4:∀ob,U (w1.alloc ob) w.heap.size 4 (G (o.n:Int)):=fun ob=>zA (zB c) Zs;have u5:∀ob,U (w1.alloc ob) w.heap.size 5 (.slice ar o.args.length i):=fun ob=>zA (zB c) Zs;have d:=zH g (zB HC.out) Zt;have v0:∀ob,U (w1.alloc ob) C 0 (.slice f1 p.funcs.length f2):=fun ob=>zA (zB d) rfl;have v1:∀ob,U (w1.alloc ob) C 1 (.slice a1 p.args.length a2):=fun ob=>zA (zB d) rfl;have v4:∀ob,U (w1.alloc ob) C 4 (.slice d1 p.data.length d2):=fun ob=>zA (zB d) rfl;clear c d;have h:=Ja g;clear g))|go_in)
   all_goals go_quiet (fail)
   all_goals go_wp2
   all_goals go_ret
   all_goals exact⟨uz (HR.out.symm.trans rfl),yC ((((Below.refl _ _).alloc (Je _) _).trans (h.out.mono Zs)).alloc (by have l:=h.out.size;simp at l;omega) _)⟩
  |true=>
   have a0:k<p.data.length:=of_decide_eq_true t3;clear x a0 t;have a8:=jZ x1 x4 x6;rcases a8 with rfl|⟨rfl,rfl⟩|⟨rfl,rfl,rfl⟩|⟨rfl,rfl,rfl⟩
   all_goals go_enter Try.func77,Try.ntmps77
   all_goals go_wp2_with (first|(go_at_call 81;go_must (refine(HF.out _).mono ?_;rintro e w1 ⟨rfl,g⟩;have c:=zH g (zI rfl) Zs;have u0:∀ob,U (w1.alloc ob) w.heap.size 0 (I 2):=fun ob=>zA (zB c) Zs;have u1:∀ob,U (w1.alloc ob) w.heap.size 1 (I o.res):=fun ob=>zA (zB c) Zs;have u2:∀ob,U (w1.alloc ob) w.heap.size 2 (I k):=fun ob=>zA (zB c) Zs;have u3:∀ob,U (w1.alloc ob) w.heap.size 3 (I o.b):=fun ob=>zA (zB c) Zs;have u4:∀ob,U (w1.alloc ob) w.heap.size 4 (G (o.n:Int)):=fun ob=>zA (zB c) Zs;have u5:∀ob,U (w1.alloc ob) w.heap.size 5 (.slice ar o.args.length i):=fun ob=>zA (zB c) Zs;have d:=zH g (zB HC.out) Zt;have v0:∀ob,U (w1.alloc ob) C 0 (.slice f1 p.funcs.length f2):=fun ob=>zA (zB d) rfl;have v1:∀ob,U (w1.alloc ob) C 1 (.slice a1 p.args.length a2):=fun ob=>zA (zB d) rfl;have v4:∀ob,U (w1.alloc ob) C 4 (.slice d1 p.data.length d2):=fun ob=>zA (zB d) rfl;clear c d;have h:=Ja g;clear g))|go_in)
   all_goals go_quiet (fail)
   all_goals go_wp2
   all_goals go_ret
   all_goals exact⟨uz (HR.out.symm.trans rfl),yC ((((Below.refl _ _).alloc (Je _) _).trans (h.out.mono Zs)).alloc (by have l:=h.out.size;simp at l;omega) _)⟩
theorem uI{p:IProg}:∀(l m:List IOp) (k:Int) (d:wO),sS p i (l++m) k d=(sS p i l k d).bind (sS p i m (k+l.length))
 | [],m,k,d=>by simp[sS]
 |o::l,m,k,d=>by
  have e:k+1+(l.length:Int)=k+((o::l).length:Int):=by simp;omega
  show(if opF p o then(if 0<=o.res then(rB d o.res i k).bind (sS p i (l++m) (k+1)) else sS p i (l++m) (k+1) d) else none)=(if opF p o then(if 0<=o.res then(rB d o.res i k).bind (sS p i l (k+1)) else sS p i l (k+1) d) else none).bind _
  by_cases h:opF p o=true
  ·rw[if_pos h,if_pos h]
   by_cases c:0<=o.res
   ·rw[if_pos c,if_pos c]
    cases rB d o.res i k with
    |none=>rfl
    |some d'=>rw[Nw,Nw,uI l m,e]
   ·rw[if_neg c,if_neg c,uI l m,e]
  ·rw[if_neg h,if_neg h];rfl
theorem ui{p:IProg}:∀(l m:List IBlk) (i:Int) (d:wO),uH p bl (l++m) i d=(uH p bl l i d).bind (uH p bl m (i+l.length))
 | [],m,i,d=>by simp[uH]
 |b::l,m,i,d=>by
  have e:i+1+(l.length:Int)=i+((b::l).length:Int):=by simp;omega
  show(pS p bl i b d).bind (uH p bl (l++m) (i+1))=((pS p bl i b d).bind (uH p bl l (i+1))).bind _
  cases pS p bl i b d with
  |none=>rfl
  |some d'=>rw[Nw,Nw,ui l m,e]
theorem sD{α:Type}{l:List α}{x:α}(h:l[k]? =some x):l=l.take k++x::l.drop (k+1):=by
 rw[Jh] at h;obtain⟨hk,rfl⟩:=h
 conv=>lhs;rw[<-Qi k l,Qn hk]
theorem vS{α:Type}{l:List α}{x:α}(h:l[k]? =some x):((l.take k).length:Int)=k:=by
 have:=(Jh.1 h).1;rw[Oc,Ud Zo]
theorem aC{v:Int}(h:l[k]? =some v)(c:vJ i (l.take k) d=some d'):vJ i (l.take (k+1)) d=rB d' v i (-1):=by
 rw[Nh,h,Option.toList,uX,c,Nw]
 show(rB d' v i (-1)).bind (vJ i [])=_
 cases rB d' v i (-1)<;>rfl
theorem qr{v:Int}(h:l[k]? =some v)(g:vJ i (l.take k) d=some d')(c:rB d' v i (-1)=none):vJ i l d=none:=by
 rw[sD h,uX,g,Nw]
 show(rB d' v i (-1)).bind _=none
 rw[c];rfl
def ug (p:IProg)(i k:Int)(o:IOp)(d:wO):Option wO:=if opF p o then(if 0<=o.res then rB d o.res i k else some d) else none
theorem dG (p:IProg)(i k:Int)(o:IOp)(os:List IOp)(d:wO):sS p i (o::os) k d=(ug p i k o d).bind (sS p i os (k+1)):=by
 unfold sS ug
 by_cases h:opF p o=true
 ·rw[if_pos h,if_pos h]
  by_cases c:0<=o.res
  ·rw[if_pos c,if_pos c]
  ·rw[if_neg c,if_neg c];rfl
 ·rw[if_neg h,if_neg h];rfl
theorem cK{p:IProg}{l:List IOp}(h:l[k]? =some o)(c:sS p i (l.take k) 0 d=some d'):sS p i (l.take (k+1)) 0 d=ug p i k o d':=by
 rw[Nh,h,Option.toList,uI,c,Nw,dG,vS h,Ub];cases ug p i k o d'<;>rfl
theorem oR{p:IProg}{l:List IOp}(h:l[k]? =some o)(g:sS p i (l.take k) 0 d=some d')(c:ug p i k o d'=none):sS p i l 0 d=none:=by
 rw[sD h,uI,g,Nw,dG,vS h,Ub,c];rfl
theorem lQ{p:IProg}{l:List IBlk}{b:IBlk}(h:l[k]? =some b)(c:uH p bl (l.take k) 0 d=some d'):uH p bl (l.take (k+1)) 0 d=pS p bl k b d':=by
 rw[Nh,h,Option.toList,ui,c,Nw,vS h,Ub]
 show(pS p bl k b d').bind (uH p bl [] _)=_
 cases pS p bl k b d'<;>rfl
theorem abe{p:IProg}{l:List IBlk}{b:IBlk}(h:l[k]? =some b)(g:uH p bl (l.take k) 0 d=some d')(c:pS p bl k b d'=none):uH p bl l 0 d=none:=by
 rw[sD h,ui,g,Nw,vS h,Ub]
 show(pS p bl k b d').bind _=none
 rw[c];rfl
def df:wO:=(fun _=>none,fun _=>none)
theorem wS (p:IProg)(bl:List IBlk):wg p bl=uH p bl bl 0 df:=rfl
def ShpPost (w:World)(C m1 m2:Nat)(pv:List Value)(blv idv:Value)(r:Option wO)(e:Ending)(w':World):Prop:=
 e=.returned (.bool r.isSome)/\Kept m1 m2 w w'/\∀d,r=some d->∃n,n<9000000000000000000/\ChkAt w' C m1 m2 pv blv idv n d
def vZ (blocks:List IBlk):Prop:=blocks.length<=2000000/\∀b∈blocks,b.params.length<=2000000/\b.ops.length<=2000000/\b.term.to.length<=2000000
def wG (w:World)(xs:List Int)(e:Ending)(w':World):Prop:=∃v,e=.returned v/\zY w' w'.heap.size v xs/\O w w'
theorem yP{B:Nat}{W:World}{v:Value}(h:Below B w W)(hg:W.grownBy w' v.ownBlock)(hB:B<=W.heap.size)(hv:∀k,v.ownBlock=some k->B<=k):Below B w w':=
 h.trans ⟨hg.os,hg.tape,hg.output,hg.size,fun k hk=>hg.block k Zo (fun e=>by have:=hv k e.symm;omega)⟩
theorem wF{c:Nat}{e:TypeId}{size n:Nat}{v:Value}{xs:List Value}(h:w.ownsRow c e size v n xs):∀k,v.ownBlock=some k->c<=k:=fun k hk=>(h.lt k hk).1
theorem uses_00(o:IOp)(ho:I64 o.code/\I64 o.res/\I64 o.a/\I64 o.b/\o.n<65536){av:Value}{B:Nat}(hB:B<=w.heap.size)(g:zY w B av o.args)(q:o.args.length<=1000000000000)(a2:(zi o.code).a=false)(a1:(zi o.code).b=false):
 T 65 #[.agg #[I o.code,I o.res,I o.a,I o.b,G (o.n:Int),av]] w (wG w ([]++o.args)):=by
 obtain⟨aa,ac,rfl,b2,b1⟩:=g.form;obtain⟨ii,a9,a6,a5,a4⟩:=info_parts Try.info_int
 obtain⟨q1,q2,q3,hf⟩:∃q1 q2 q3,∀W,T 81 #[I o.code] W fun e w'=>e=.returned (.tuple #[.agg #[.bool q1,.bool false,.bool false,.bool q2],.bool q3])/\O W w':=
  ⟨(zi o.code).res,(zi o.code).n,(zi o.code).is,fun W=>by have:=yu o.code W;unfold yX nL at this;rw[a2,a1] at this;exact this⟩
 have HF:=Ja hf;have i:=Ja (show zY w B (.slice aa o.args.length ac) o.args/\B<=w.heap.size/\o.args.length<=1000000000000 from⟨g,hB,q⟩);have HO:=Ja ho
 have m:∀x∈ []++o.args,I64 x:=by
  intro x j;rcases Jl.1 j with j|j
  ·simp at j
  ·exact zY.all g x j
 have b4:=Ja m;have a0:=zI (W:=w) (o:=A (D o aa ac) 27) rfl;have a3:O w (w.alloc (A (D o aa ac) 27)):=(Below.refl _ _).alloc (Je _) _;have d:=Ja (Jb a0 a3);clear hf g hB q ho m a0 a3 b2 b1 a2 a1;go_enter Try.func65,Try.ntmps65;go_upto_region 2 with(first|(go_at_call 81;go_must (refine(HF.out _).mono ?_;rintro e w1 ⟨rfl,h⟩))|go_in)
 have hb:=(d.out.2.trans (h.mono d.out.2.size)).alloc (by have:=d.out.2.size;have:=h.size;omega) (A #[.bool q1,.bool false,.bool false,.bool q2] 127);have y:=zB (o:=A #[.bool q1,.bool false,.bool false,.bool q2] 127) (zH h d.out.1 (lt_of_block d.out.1));have u:=zI (W:=w1) (o:=A #[.bool q1,.bool false,.bool false,.bool q2] 127) rfl;generalize b3:w1.alloc (A #[.bool q1,.bool false,.bool false,.bool q2] 127)=W1 at *;generalize b0:w1.heap.size=c1 at *;have own0:W1.ownsRow w.heap.size 3 1 (F) 0 []:=Jv W1 _ _ _;have c:=Ja (show O w W1/\Q W1 w.heap.size (D o aa ac) 27/\Q W1 c1 #[.bool q1,.bool false,.bool false,.bool q2] 127/\W1.ownsRow w.heap.size 3 1 (F) 0 [] from⟨hb,y,u,own0⟩);clear b3 b0 h hb y u own0;have x2:=K2 c.out.2.1;have x3:=K3 c.out.2.1;have x5:=K5 c.out.2.1;have f1:=K1 c.out.2.2.1;have f2:=K2 c.out.2.2.1;go_upto_region 5 with fail;clear x2 x3 x5 f1 f2;have x2:=K2 c.out.2.1;have x3:=K3 c.out.2.1;have x5:=K5 c.out.2.1;have f1:=K1 c.out.2.2.1;have f2:=K2 c.out.2.2.1;go_upto_region 7 with fail;clear x2 x3 x5 f1 f2;have x2:=K2 c.out.2.1;have x3:=K3 c.out.2.1;have x5:=K5 c.out.2.1;have f1:=K1 c.out.2.2.1;have f2:=K2 c.out.2.2.1;have k:=zY.src (i.out.1.below zO (c.out.1.mono i.out.2.1));have a8:=Ja k;clear k;go_wp2_with (at_builtin;go_must (refine zK _ rfl (.tmp 26) (.tmp 28) 25 rfl w.heap.size 3 ii (I 0) 1 8 Try.underlying25 a9 a6 a5 a4 rfl Zd (F) 0 (([]:List Int).map zN) rfl c.out.2.2.2 _ o.args.length (o.args.map zN) rfl a8.out (by have:=i.out.2.2;unfold maxLen;omega) (by have:=i.out.2.2;omega) c.out.1.size ?_;intro v9 w9 l t b5))
 go_ret;refine⟨v9,rfl,?_,yP c.out.1 t c.out.1.size (wF c.out.2.2.2)⟩;rw[<-Js] at l;exact uA l (by simp<;>omega) b4.out
theorem uses_01(o:IOp)(ho:I64 o.code/\I64 o.res/\I64 o.a/\I64 o.b/\o.n<65536){av:Value}{B:Nat}(hB:B<=w.heap.size)(j:zY w B av o.args)(a1:o.args.length<=1000000000000)(b0:(zi o.code).a=false)(a9:(zi o.code).b=true):
 T 65 #[.agg #[I o.code,I o.res,I o.a,I o.b,G (o.n:Int),av]] w (wG w ([o.b]++o.args)):=by
 obtain⟨aa,ac,rfl,b7,b6⟩:=j.form;obtain⟨ii,a8,u,t,q⟩:=info_parts Try.info_int
 obtain⟨q1,q2,q3,hf⟩:∃q1 q2 q3,∀W,T 81 #[I o.code] W fun e w'=>e=.returned (.tuple #[.agg #[.bool q1,.bool false,.bool true,.bool q2],.bool q3])/\O W w':=
  ⟨(zi o.code).res,(zi o.code).n,(zi o.code).is,fun W=>by have:=yu o.code W;unfold yX nL at this;rw[b0,a9] at this;exact this⟩
 have HF:=Ja hf;have l:=Ja (show zY w B (.slice aa o.args.length ac) o.args/\B<=w.heap.size/\o.args.length<=1000000000000 from⟨j,hB,a1⟩);have HO:=Ja ho
 have a0:∀x∈ [o.b]++o.args,I64 x:=by
  intro x m;rcases Jl.1 m with m|m
  ·simp at m;rw[m];exact ho.2.2.2.1
  ·exact zY.all j x m
 have b9:=Ja a0;have a6:=zI (W:=w) (o:=A (D o aa ac) 27) rfl;have b2:O w (w.alloc (A (D o aa ac) 27)):=(Below.refl _ _).alloc (Je _) _;have i:=Ja (Jb a6 b2);clear hf j hB a1 ho a0 a6 b2 b7 b6 b0 a9;go_enter Try.func65,Try.ntmps65;go_upto_region 2 with(first|(go_at_call 81;go_must (refine(HF.out _).mono ?_;rintro e w1 ⟨rfl,k⟩))|go_in)
 have hb:=(i.out.2.trans (k.mono i.out.2.size)).alloc (by have:=i.out.2.size;have:=k.size;omega) (A #[.bool q1,.bool false,.bool true,.bool q2] 127);have a5:=zB (o:=A #[.bool q1,.bool false,.bool true,.bool q2] 127) (zH k i.out.1 (lt_of_block i.out.1));have a3:=zI (W:=w1) (o:=A #[.bool q1,.bool false,.bool true,.bool q2] 127) rfl;generalize b8:w1.alloc (A #[.bool q1,.bool false,.bool true,.bool q2] 127)=W1 at *;generalize b5:w1.heap.size=c1 at *;have own0:W1.ownsRow w.heap.size 3 1 (F) 0 []:=Jv W1 _ _ _;have c:=Ja (show O w W1/\Q W1 w.heap.size (D o aa ac) 27/\Q W1 c1 #[.bool q1,.bool false,.bool true,.bool q2] 127/\W1.ownsRow w.heap.size 3 1 (F) 0 [] from⟨hb,a5,a3,own0⟩);clear b8 b5 k hb a5 a3 own0;have x2:=K2 c.out.2.1;have x3:=K3 c.out.2.1;have x5:=K5 c.out.2.1;have f1:=K1 c.out.2.2.1;have f2:=K2 c.out.2.2.1;go_upto_region 5 with fail;clear x2 x3 x5 f1 f2;have x2:=K2 c.out.2.1;have x3:=K3 c.out.2.1;have x5:=K5 c.out.2.1;have f1:=K1 c.out.2.2.1;have f2:=K2 c.out.2.2.1;go_upto_region 7 with(at_builtin;go_must (refine zK _ rfl (.tmp 21) (.tmp 24) 25 rfl w.heap.size 3 ii (I 0) 1 8 Try.underlying25 a8 u t q rfl Zd (F) 0 (([]:List Int).map zN) rfl (c.out.2.2.2.alloc _) _ 1 [I o.b] rfl (yM.one (zI Zs) (by simp[Value.oneCell'])) Zd Zd (by have:=c.out.1.size;simp;omega) ?_;intro v2 W2 g d b3))
 have b1:O w W2:=yP (c.out.1.alloc c.out.1.size _) d (by have:=c.out.1.size;simp;omega) (wF c.out.2.2.2);have a4:=zL d (zB c.out.2.1) (zC c.out.2.2.2 c.out.2.1 (.inr Zd));have a2:=zL d (zB c.out.2.2.1) (zC c.out.2.2.2 c.out.2.2.1 (.inr Zd));have h:=Ja (show O w W2/\Q W2 w.heap.size (D o aa ac) 27/\Q W2 c1 #[.bool q1,.bool false,.bool true,.bool q2] 127/\W2.ownsRow w.heap.size 3 1 v2 1 (([o.b]:List Int).map zN) from⟨b1,a4,a2,g⟩);clear x2 x3 x5 f1 f2 b1 a4 a2 g d b3;have x2:=K2 h.out.2.1;have x3:=K3 h.out.2.1;have x5:=K5 h.out.2.1;have f1:=K1 h.out.2.2.1;have f2:=K2 h.out.2.2.1;have y:=zY.src (l.out.1.below zO (h.out.1.mono l.out.2.1));have b4:=Ja y;clear y;go_wp2_with (at_builtin;go_must (refine zK _ rfl (.tmp 26) (.tmp 28) 25 rfl w.heap.size 3 ii (I 0) 1 8 Try.underlying25 a8 u t q rfl Zd v2 1 (([o.b]:List Int).map zN) rfl h.out.2.2.2 _ o.args.length (o.args.map zN) rfl b4.out (by have:=l.out.2.2;unfold maxLen;omega) (by have:=l.out.2.2;omega) h.out.1.size ?_;intro v9 w9 g d b3))
 go_ret;refine⟨v9,rfl,?_,yP h.out.1 d h.out.1.size (wF h.out.2.2.2)⟩;rw[<-Js] at g;exact uA g (by simp<;>omega) b9.out
theorem uses_10(o:IOp)(ho:I64 o.code/\I64 o.res/\I64 o.a/\I64 o.b/\o.n<65536){av:Value}{B:Nat}(hB:B<=w.heap.size)(j:zY w B av o.args)(a1:o.args.length<=1000000000000)(b0:(zi o.code).a=true)(a9:(zi o.code).b=false):
 T 65 #[.agg #[I o.code,I o.res,I o.a,I o.b,G (o.n:Int),av]] w (wG w ([o.a]++o.args)):=by
 obtain⟨aa,ac,rfl,b7,b6⟩:=j.form;obtain⟨ii,a8,u,t,q⟩:=info_parts Try.info_int
 obtain⟨q1,q2,q3,hf⟩:∃q1 q2 q3,∀W,T 81 #[I o.code] W fun e w'=>e=.returned (.tuple #[.agg #[.bool q1,.bool true,.bool false,.bool q2],.bool q3])/\O W w':=
  ⟨(zi o.code).res,(zi o.code).n,(zi o.code).is,fun W=>by have:=yu o.code W;unfold yX nL at this;rw[b0,a9] at this;exact this⟩
 have HF:=Ja hf;have l:=Ja (show zY w B (.slice aa o.args.length ac) o.args/\B<=w.heap.size/\o.args.length<=1000000000000 from⟨j,hB,a1⟩);have HO:=Ja ho
 have a0:∀x∈ [o.a]++o.args,I64 x:=by
  intro x m;rcases Jl.1 m with m|m
  ·simp at m;rw[m];exact ho.2.2.1
  ·exact zY.all j x m
 have b9:=Ja a0;have a6:=zI (W:=w) (o:=A (D o aa ac) 27) rfl;have b2:O w (w.alloc (A (D o aa ac) 27)):=(Below.refl _ _).alloc (Je _) _;have i:=Ja (Jb a6 b2);clear hf j hB a1 ho a0 a6 b2 b7 b6 b0 a9;go_enter Try.func65,Try.ntmps65;go_upto_region 2 with(first|(go_at_call 81;go_must (refine(HF.out _).mono ?_;rintro e w1 ⟨rfl,k⟩))|go_in)
 have hb:=(i.out.2.trans (k.mono i.out.2.size)).alloc (by have:=i.out.2.size;have:=k.size;omega) (A #[.bool q1,.bool true,.bool false,.bool q2] 127);have a5:=zB (o:=A #[.bool q1,.bool true,.bool false,.bool q2] 127) (zH k i.out.1 (lt_of_block i.out.1));have a3:=zI (W:=w1) (o:=A #[.bool q1,.bool true,.bool false,.bool q2] 127) rfl;generalize b8:w1.alloc (A #[.bool q1,.bool true,.bool false,.bool q2] 127)=W1 at *;generalize b5:w1.heap.size=c1 at *;have own0:W1.ownsRow w.heap.size 3 1 (F) 0 []:=Jv W1 _ _ _;have c:=Ja (show O w W1/\Q W1 w.heap.size (D o aa ac) 27/\Q W1 c1 #[.bool q1,.bool true,.bool false,.bool q2] 127/\W1.ownsRow w.heap.size 3 1 (F) 0 [] from⟨hb,a5,a3,own0⟩);clear b8 b5 k hb a5 a3 own0;have x2:=K2 c.out.2.1;have x3:=K3 c.out.2.1;have x5:=K5 c.out.2.1;have f1:=K1 c.out.2.2.1;have f2:=K2 c.out.2.2.1;go_upto_region 5 with(at_builtin;go_must (refine zK _ rfl (.tmp 14) (.tmp 17) 25 rfl w.heap.size 3 ii (I 0) 1 8 Try.underlying25 a8 u t q rfl Zd (F) 0 (([]:List Int).map zN) rfl (c.out.2.2.2.alloc _) _ 1 [I o.a] rfl (yM.one (zI Zs) (by simp[Value.oneCell'])) Zd Zd (by have:=c.out.1.size;simp;omega) ?_;intro v2 W2 h d b3))
 have b1:O w W2:=yP (c.out.1.alloc c.out.1.size _) d (by have:=c.out.1.size;simp;omega) (wF c.out.2.2.2);have a4:=zL d (zB c.out.2.1) (zC c.out.2.2.2 c.out.2.1 (.inr Zd));have a2:=zL d (zB c.out.2.2.1) (zC c.out.2.2.2 c.out.2.2.1 (.inr Zd));have g:=Ja (show O w W2/\Q W2 w.heap.size (D o aa ac) 27/\Q W2 c1 #[.bool q1,.bool true,.bool false,.bool q2] 127/\W2.ownsRow w.heap.size 3 1 v2 1 (([o.a]:List Int).map zN) from⟨b1,a4,a2,h⟩);clear x2 x3 x5 f1 f2 b1 a4 a2 h d b3;have x2:=K2 g.out.2.1;have x3:=K3 g.out.2.1;have x5:=K5 g.out.2.1;have f1:=K1 g.out.2.2.1;have f2:=K2 g.out.2.2.1;go_upto_region 7 with fail;clear x2 x3 x5 f1 f2;have x2:=K2 g.out.2.1;have x3:=K3 g.out.2.1;have x5:=K5 g.out.2.1;have f1:=K1 g.out.2.2.1;have f2:=K2 g.out.2.2.1;have y:=zY.src (l.out.1.below zO (g.out.1.mono l.out.2.1));have b4:=Ja y;clear y;go_wp2_with (at_builtin;go_must (refine zK _ rfl (.tmp 26) (.tmp 28) 25 rfl w.heap.size 3 ii (I 0) 1 8 Try.underlying25 a8 u t q rfl Zd v2 1 (([o.a]:List Int).map zN) rfl g.out.2.2.2 _ o.args.length (o.args.map zN) rfl b4.out (by have:=l.out.2.2;unfold maxLen;omega) (by have:=l.out.2.2;omega) g.out.1.size ?_;intro v9 w9 h d b3))
 go_ret;refine⟨v9,rfl,?_,yP g.out.1 d g.out.1.size (wF g.out.2.2.2)⟩;rw[<-Js] at h;exact uA h (by simp<;>omega) b9.out
theorem uses_11(o:IOp)(ho:I64 o.code/\I64 o.res/\I64 o.a/\I64 o.b/\o.n<65536){av:Value}{B:Nat}(hB:B<=w.heap.size)(y:zY w B av o.args)(a5:o.args.length<=1000000000000)(b2:(zi o.code).a=true)(b1:(zi o.code).b=true):
 T 65 #[.agg #[I o.code,I o.res,I o.a,I o.b,G (o.n:Int),av]] w (wG w ([o.a,o.b]++o.args)):=by
 obtain⟨aa,ac,rfl,b7,b6⟩:=y.form;obtain⟨ii,a6,u,t,q⟩:=info_parts Try.info_int
 obtain⟨q1,q2,q3,hf⟩:∃q1 q2 q3,∀W,T 81 #[I o.code] W fun e w'=>e=.returned (.tuple #[.agg #[.bool q1,.bool true,.bool true,.bool q2],.bool q3])/\O W w':=
  ⟨(zi o.code).res,(zi o.code).n,(zi o.code).is,fun W=>by have:=yu o.code W;unfold yX nL at this;rw[b2,b1] at this;exact this⟩
 have HF:=Ja hf;have a2:=Ja (show zY w B (.slice aa o.args.length ac) o.args/\B<=w.heap.size/\o.args.length<=1000000000000 from⟨y,hB,a5⟩);have HO:=Ja ho
 have a4:∀x∈ [o.a,o.b]++o.args,I64 x:=by
  intro x hx;rcases Jl.1 hx with hx|hx
  ·simp at hx;rcases hx with rfl|rfl;exact ho.2.2.1;exact ho.2.2.2.1
  ·exact zY.all y x hx
 have b9:=Ja a4;have b0:=zI (W:=w) (o:=A (D o aa ac) 27) rfl;have b3:O w (w.alloc (A (D o aa ac) 27)):=(Below.refl _ _).alloc (Je _) _;have m:=Ja (Jb b0 b3);clear hf y hB a5 ho a4 b0 b3 b7 b6 b2 b1;go_enter Try.func65,Try.ntmps65;go_upto_region 2 with(first|(go_at_call 81;go_must (refine(HF.out _).mono ?_;rintro e w1 ⟨rfl,a0⟩))|go_in)
 have hb:=(m.out.2.trans (a0.mono m.out.2.size)).alloc (by have:=m.out.2.size;have:=a0.size;omega) (A #[.bool q1,.bool true,.bool true,.bool q2] 127);have a9:=zB (o:=A #[.bool q1,.bool true,.bool true,.bool q2] 127) (zH a0 m.out.1 (lt_of_block m.out.1));have a8:=zI (W:=w1) (o:=A #[.bool q1,.bool true,.bool true,.bool q2] 127) rfl;generalize b8:w1.alloc (A #[.bool q1,.bool true,.bool true,.bool q2] 127)=W1 at *;generalize b5:w1.heap.size=c1 at *;have own0:W1.ownsRow w.heap.size 3 1 (F) 0 []:=Jv W1 _ _ _;have h:=Ja (show O w W1/\Q W1 w.heap.size (D o aa ac) 27/\Q W1 c1 #[.bool q1,.bool true,.bool true,.bool q2] 127/\W1.ownsRow w.heap.size 3 1 (F) 0 [] from⟨hb,a9,a8,own0⟩);clear b8 b5 a0 hb a9 a8 own0;have x2:=K2 h.out.2.1;have x3:=K3 h.out.2.1;have x5:=K5 h.out.2.1;have f1:=K1 h.out.2.2.1;have f2:=K2 h.out.2.2.1;go_upto_region 5 with(at_builtin;go_must (refine zK _ rfl (.tmp 14) (.tmp 17) 25 rfl w.heap.size 3 ii (I 0) 1 8 Try.underlying25 a6 u t q rfl Zd (F) 0 (([]:List Int).map zN) rfl (h.out.2.2.2.alloc _) _ 1 [I o.a] rfl (yM.one (zI Zs) (by simp[Value.oneCell'])) Zd Zd (by have:=h.out.1.size;simp;omega) ?_;intro v2 W2 d c a1))
 have l:O w W2:=yP (h.out.1.alloc h.out.1.size _) c (by have:=h.out.1.size;simp;omega) (wF h.out.2.2.2);have k:=zL c (zB h.out.2.1) (zC h.out.2.2.2 h.out.2.1 (.inr Zd));have j:=zL c (zB h.out.2.2.1) (zC h.out.2.2.2 h.out.2.2.1 (.inr Zd));have g:=Ja (show O w W2/\Q W2 w.heap.size (D o aa ac) 27/\Q W2 c1 #[.bool q1,.bool true,.bool true,.bool q2] 127/\W2.ownsRow w.heap.size 3 1 v2 1 (([o.a]:List Int).map zN) from⟨l,k,j,d⟩);clear x2 x3 x5 f1 f2 l k j d c a1;have x2:=K2 g.out.2.1;have x3:=K3 g.out.2.1;have x5:=K5 g.out.2.1;have f1:=K1 g.out.2.2.1;have f2:=K2 g.out.2.2.1;go_upto_region 7 with(at_builtin;go_must (refine zK _ rfl (.tmp 21) (.tmp 24) 25 rfl w.heap.size 3 ii (I 0) 1 8 Try.underlying25 a6 u t q rfl Zd v2 1 (([o.a]:List Int).map zN) rfl (g.out.2.2.2.alloc _) _ 1 [I o.b] rfl (yM.one (zI Zs) (by simp[Value.oneCell'])) Zd Zd (by have:=g.out.1.size;simp;omega) ?_;intro v3 W3 d c a1))
 have l:O w W3:=yP (g.out.1.alloc g.out.1.size _) c (by have:=g.out.1.size;simp;omega) (wF g.out.2.2.2);have k:=zL c (zB g.out.2.1) (zC g.out.2.2.2 g.out.2.1 (.inr Zd));have j:=zL c (zB g.out.2.2.1) (zC g.out.2.2.2 g.out.2.2.1 (.inr Zd));have i:=Ja (show O w W3/\Q W3 w.heap.size (D o aa ac) 27/\Q W3 c1 #[.bool q1,.bool true,.bool true,.bool q2] 127/\W3.ownsRow w.heap.size 3 1 v3 2 (([o.a,o.b]:List Int).map zN) from⟨l,k,j,d⟩);clear x2 x3 x5 f1 f2 l k j d c a1;have x2:=K2 i.out.2.1;have x3:=K3 i.out.2.1;have x5:=K5 i.out.2.1;have f1:=K1 i.out.2.2.1;have f2:=K2 i.out.2.2.1;have a3:=zY.src (a2.out.1.below zO (i.out.1.mono a2.out.2.1));have b4:=Ja a3;clear a3;go_wp2_with (at_builtin;go_must (refine zK _ rfl (.tmp 26) (.tmp 28) 25 rfl w.heap.size 3 ii (I 0) 1 8 Try.underlying25 a6 u t q rfl Zd v3 2 (([o.a,o.b]:List Int).map zN) rfl i.out.2.2.2 _ o.args.length (o.args.map zN) rfl b4.out (by have:=a2.out.2.2;unfold maxLen;omega) (by have:=a2.out.2.2;omega) i.out.1.size ?_;intro v9 w9 d c a1))
 go_ret;refine⟨v9,rfl,?_,yP i.out.1 c i.out.1.size (wF i.out.2.2.2)⟩;rw[<-Js] at d;exact uA d (by simp<;>omega) b9.out
theorem uses_any(o:IOp)(ho:I64 o.code/\I64 o.res/\I64 o.a/\I64 o.b/\o.n<65536){av:Value}{B:Nat}(hB:B<=w.heap.size)(d:zY w B av o.args)(c:o.args.length<=1000000000000):
 T 65 #[.agg #[I o.code,I o.res,I o.a,I o.b,G (o.n:Int),av]] w (wG w (rR o)):=by
 unfold rR;cases h:(zi o.code).a<;>cases g:(zi o.code).b
 ·exact uses_00 o ho hB d c h g
 ·exact uses_01 o ho hB d c h g
 ·exact uses_10 o ho hB d c h g
 ·exact uses_11 o ho hB d c h g
end Go.Proofs.Ytoahcpkibpomcaa
set_option maxRecDepth 8000
namespace Go.Proofs.Ytoahcpkibpomcaa
open Go.RowKit
variable {K:MK}{w w':World}{c i oa ob x:Int}{m m':Mach}{C k on vb vn:Nat}{l xs:List Int}{d d':wO}{tl:List Value}{bl:List IBlk}{o:IOp}
theorem UpN.lt {c:List Int}{f:Int->Int}{t:Int}:∀ {k a a':Nat},UpN c f t k a a'->a<c.length->a'<c.length
 |0,_,_,h,ha=>by rw[h.2];exact ha
 |k+1,_,_,h,_=>by obtain⟨_,a1,h1,_,h2⟩:=h;exact UpN.lt h2 h1
theorem nj{b n:Nat}{f:Int->Int}(h:ud w b n f)(c:-9223372036854775808<=x/\x<=9223372036854775807)(k:Nat):
 (Instr.lookup 105 (.map (some b)) (I x) false).run Try.prog (w.drewN k)=.ok (I (f x)) (w.drewN k):=
 (ud.look (h.same (w':=w.drewN k) rfl) c).1
theorem meet_any (w:World)(Bv Bi bv bm nm bi:Nat)(f:Int->Int)(c:List Int)(hn:c.length<=2000000)
 (c1:U w Bv 0 (L bv)) (c2:U w bv 1 (.map (some bm))) (hm:ud w bm nm f)
 (c3:U w Bi 0 (N bi c.length c.length)) (hi:Q w bi (c.map (Value.int .i64)).toArray 3)
 (k0 a b r:Nat) (ha:a<c.length) (hb:b<c.length) (hM:qZ c f k0 a b r):
 T 87 #[I a,I b,L Bv,L Bi] w fun e w'=>e=.returned (I r)/\∃n,w'=w.drewN n:=by
 have m:=Ja hM;have HI:=Ja hi;have i:=Ja hm;clear hM hi hm;go_enter Try.func87,Try.ntmps87;go_wp2
 go_loopg [0,1] k0 (fun k x y wr=>∃a b:Nat,a<c.length/\b<c.length/\x=I a/\y=I b/\Hid (qZ c f k a b r)/\∃n,wr=w.drewN n)
 case atStart=>exact⟨a,b,ha,hb,rfl,rfl,m,0,rfl⟩
 case round=>
  clear ha hb m a b;obtain⟨a,b,ha,hb,rfl,rfl,m,n,rfl⟩:=hrel
  cases gk with
  |zero=>
   obtain⟨rfl,rfl⟩:=m.out;have a2:((r:Int) !=(r:Int))=false:=by simp
   go_wp2;go_ret
   exact⟨rfl,n,rfl⟩
  |succ k=>
   obtain⟨a3,j,a',h,j',b',o,hM⟩:=m.out;have a2:((a:Int) !=(b:Int))=true:=by simp;omega
   have l:=Ja h;have g:=Ja o;have a4:=Ja hM;have a0:=UpN.lt h ha;have u:=UpN.lt o hb;clear a3 h o hM m;go_wp2
   go_loopg [0] j (fun j x wr=>∃a:Nat,a<c.length/\x=I a/\Hid (UpN c f (f b) j a a')/\∃n,wr=w.drewN n)
   case atStart=>exact⟨a,ha,rfl,l,n,rfl⟩
   case round=>
    clear l;obtain⟨x,a9,rfl,l,n2,rfl⟩:=hrel;have la:=nj i.out (x:=(x:Int)) Zo;have lb:=nj i.out (x:=(b:Int)) Zo
    cases gk with
    |zero=>
     obtain⟨ht,rfl⟩:=l.out;have d:decide (f b<f a')=false:=by simpa using ht
     go_wp2;go_quiet (fail);go_wp2
     go_loopg [1] j' (fun j y wr=>∃y0:Nat,y0<c.length/\y=I y0/\Hid (UpN c f (f a') j y0 b')/\∃n,wr=w.drewN n)
     case atStart=>exact⟨b,hb,rfl,g,_,World.drewN_drewN _ _ _⟩
     case round=>
      clear g d;obtain⟨y,a8,rfl,g,n3,rfl⟩:=hrel;have lc:=nj i.out (x:=(y:Int)) Zo
      cases gk with
      |zero=>
       obtain⟨ht,rfl⟩:=g.out;have d:decide (f a'<f b')=false:=by simpa using ht
       go_wp2;go_quiet (fail);go_wp2
       go_roundg k
       case measure=>omega
       case rel=>exact⟨a',b',a0,u,rfl,rfl,a4,_,World.drewN_drewN _ _ _⟩
      |succ j2=>
       obtain⟨ht,y1,t,hy,h⟩:=g.out;have d:decide (f a'<f y)=true:=by simpa using ht
       have cy:U w bi y (I y1):=zA HI.out (by simp[hy]);have a5:(y:Int)<c.length:=Zo;have q:=Ja h;clear hy h g;go_wp2;go_quiet (fail);go_wp2
       go_roundg j2
       case measure=>omega
       case rel=>exact⟨y1,t,rfl,q,_,rfl⟩
    |succ j2=>
     obtain⟨ht,a1,t,hx,h⟩:=l.out;have d:decide (f b<f x)=true:=by simpa using ht
     have cx:U w bi x (I a1):=zA HI.out (by simp[hx]);have a6:(x:Int)<c.length:=Zo;have q:=Ja h;clear hx h l;go_wp2;go_quiet (fail);go_wp2
     go_roundg j2
     case measure=>omega
     case rel=>exact⟨a1,t,rfl,q,_,rfl⟩
end Go.Proofs.Ytoahcpkibpomcaa
