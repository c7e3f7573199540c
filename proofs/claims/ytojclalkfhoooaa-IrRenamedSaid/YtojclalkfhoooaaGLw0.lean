/- Part of a proof. -/
import Derived.Test.YtojclalkfhoooaaIOper
set_option linter.all false
set_option maxHeartbeats 4000000
set_option maxRecDepth 100000
namespace Go.Proofs.Ytojclalkfhoooaa
open Go.RowKit
variable {K:MK}{W W' w w':World}{Bi Bn Bv C bh bi bp cap i k on op r vb vn x:Nat}{m m':Mach}{c d oa ob:Int}{idom xs:List Int}{tl:List Value}{g:List (List Nat)}{ds:List Deferred}
def Res.lt:Res Nat->Prop
 |.ok x _=>x<65536
 |.trap _ _ _=>True
def zQ (K:MK)(w:World)(r:Res Nat)(e:Ending)(w':World):Prop:=e=endOf r/\(∃ov',MachAt w' K r.mach ov')/\Frm K.B w w'/\r.lt
theorem zQ.ok{c:Value}(h:MachAt w' K m' c)(g:Frm K.B w w')(d:x<65536):zQ K w (.ok x m') (.returned (I x)) w':=⟨rfl,⟨c,h⟩,g,d⟩
theorem zQ.trap{c:Value}(h:MachAt w' K m' c)(d:Frm K.B w w'):zQ K w (.trap k i m') (.panicked [oE k i]) w':=⟨rfl,⟨c,h⟩,d,trivial⟩
theorem not16 (a:Nat)(h:a<65536):bits .xor .u16 IntKind.u16.max (a:Int)=((65535-a:Nat):Int):=by
 show IntKind.u16.wrap (((BitVec.ofInt 16 65535)^^^(BitVec.ofInt 16 (a:Int))).toNat:Int)=_
 have e1:BitVec.ofInt 16 65535=BitVec.allOnes 16:=by decide
 have e2:(BitVec.ofInt 16 (a:Int)).toNat=a:=by rw[BitVec.ofInt_natCast,BitVec.toNat_ofNat];exact Nat.mod_eq_of_lt h
 rw[e1,BitVec.xor_comm,BitVec.xor_allOnes,BitVec.toNat_not,e2,xY];omega
theorem or_low (x y:Nat)(d:x<256)(c:y<256):bits .or .u16 (IntKind.u16.wrap (x:Int)) (IntKind.u16.wrap (IntKind.u16.wrap (y:Int)*256))=((x+256*y:Nat):Int):=by
 have e1:IntKind.u16.wrap (x:Int)=(x:Int):=by rw[xY];omega
 have e2:IntKind.u16.wrap (IntKind.u16.wrap (y:Int)*256)=((y*256:Nat):Int):=by rw[xY,xY];omega
 rw[e1,e2,(bits_nat .u16 16 Zd wraps_u16 x (y*256) Zo Zo).2];have:=Nat.two_pow_add_eq_or_of_lt (i:=8) (b:=x) Zo y;rw[Nat.or_comm,show y*256=2^8*y by omega,<-this];omega
theorem step_1{ov:Value}(h:MachAt w K m ov)(t:I64 oa)(r:I64 ob)(u:on<65536)(ab:Option Addr)(an ac:Nat){v:Int->Nat}(hv:xO w vb vn v)(d:Int):
 Y 82 #[Q K.pm,.agg #[A 1,A c,A oa,A ob,I on,.slice ab an ac],.map (some vb),A d] w (zQ K w (.ok on m)):=by
 have k:=fun(W:World) (hW:Frm K.B w W)=>(hv.kept hW).look t
 have j:=fun(W:World) (hW:Frm K.B w W)=>(hv.kept hW).look r
 have a2:=hv.2 oa;have a1:=hv.2 ob;have a3:=h.size;have l:=Ja (h.keep ((Below.refl _ _).alloc (Je _) (U #[A 1,A c,A oa,A ob,I on,.slice ab an ac] 77)));have i:=Ja ((Frm.refl K.B w).alloc Zo (U #[A 1,A c,A oa,A ob,I on,.slice ab an ac] 77));have la:=fun n:Nat=>k _ (i.out.drewN (n:=n))
 have lb:=fun n:Nat=>j _ (i.out.drewN (n:=n))
 have g:=zI (W:=w) (o:=U #[A 1,A c,A oa,A ob,I on,.slice ab an ac] 77) rfl;clear h hv k j;generalize v oa=xa at *;generalize v ob=xb at *;go_enter Try.func82,Try.ntmps82;go_upto_region 1 with fail;generalize a0:w.alloc (U #[A 1,A c,A oa,A ob,I on,.slice ab an ac] 77)=W1 at *;clear a0;have p0:=K0 g;have p2:=K2 g;have p3:=K3 g;have p4:=K4 g
 go_cut [9,10] (fun x y wx=>x=I xa/\y=I xb/\∃n,wx=W1.drewN n)
 case first=>
  go_quiet (fail);go_wp2;go_meet;exact⟨rfl,rfl,_,rfl⟩
 case rest=>
  obtain⟨rfl,rfl,n,rfl⟩:=hcut;have HM:=Ja (l.out.drewN n);have HF:=Ja (i.out.drewN (n:=n));have q0:(W1.drewN n).cell? ⟨w.heap.size,0,none⟩=_:=p0;have q2:(W1.drewN n).cell? ⟨w.heap.size,2,none⟩=_:=p2;have q4:(W1.drewN n).cell? ⟨w.heap.size,4,none⟩=_:=p4;clear la lb p0 p2 p3 p4 g l i;generalize W1.drewN n=W2 at *;go_wp2;go_ret;exact zQ.ok HM.out HF.out u
theorem step_3{ov:Value}(h:MachAt w K m ov)(t:I64 oa)(r:I64 ob)(a2:on<65536)(ab:Option Addr)(an ac:Nat){v:Int->Nat}(hv:xO w vb vn v)(d:Int):
 Y 82 #[Q K.pm,.agg #[A 3,A c,A oa,A ob,I on,.slice ab an ac],.map (some vb),A d] w (zQ K w (.ok ((65536-v oa)%65536) m)):=by
 have k:=fun(W:World) (hW:Frm K.B w W)=>(hv.kept hW).look t
 have j:=fun(W:World) (hW:Frm K.B w W)=>(hv.kept hW).look r
 have a1:=hv.2 oa;have a0:=hv.2 ob;have a3:=h.size;have l:=Ja (h.keep ((Below.refl _ _).alloc (Je _) (U #[A 3,A c,A oa,A ob,I on,.slice ab an ac] 77)));have i:=Ja ((Frm.refl K.B w).alloc Zo (U #[A 3,A c,A oa,A ob,I on,.slice ab an ac] 77));have la:=fun n:Nat=>k _ (i.out.drewN (n:=n))
 have lb:=fun n:Nat=>j _ (i.out.drewN (n:=n))
 have g:=zI (W:=w) (o:=U #[A 3,A c,A oa,A ob,I on,.slice ab an ac] 77) rfl;clear h hv k j;generalize v oa=xa at *;generalize v ob=xb at *;go_enter Try.func82,Try.ntmps82;go_upto_region 1 with fail;generalize u:w.alloc (U #[A 3,A c,A oa,A ob,I on,.slice ab an ac] 77)=W1 at *;clear u;have p0:=K0 g;have p2:=K2 g;have p3:=K3 g;have p4:=K4 g
 go_cut [9,10] (fun x y wx=>x=I xa/\y=I xb/\∃n,wx=W1.drewN n)
 case first=>
  go_quiet (fail);go_wp2;go_meet;exact⟨rfl,rfl,_,rfl⟩
 case rest=>
  obtain⟨rfl,rfl,n,rfl⟩:=hcut;have HM:=Ja (l.out.drewN n);have HF:=Ja (i.out.drewN (n:=n));have q0:(W1.drewN n).cell? ⟨w.heap.size,0,none⟩=_:=p0;have q2:(W1.drewN n).cell? ⟨w.heap.size,2,none⟩=_:=p2;have q4:(W1.drewN n).cell? ⟨w.heap.size,4,none⟩=_:=p4;clear la lb p0 p2 p3 p4 g l i;generalize W1.drewN n=W2 at *;go_wp2;go_ret;have e:Ending.returned (I (IntKind.u16.wrap (-(xa:Int))))=.returned (I (((65536-xa)%65536:Nat):Int)):=zh (by rw[xY];omega);exact e ▸ zQ.ok HM.out HF.out Zo
theorem step_4{ov:Value}(h:MachAt w K m ov)(u:I64 oa)(t:I64 ob)(a2:on<65536)(ab:Option Addr)(an ac:Nat){v:Int->Nat}(hv:xO w vb vn v)(d:Int):
 Y 82 #[Q K.pm,.agg #[A 4,A c,A oa,A ob,I on,.slice ab an ac],.map (some vb),A d] w (zQ K w (.ok (65535-v oa) m)):=by
 have k:=fun(W:World) (hW:Frm K.B w W)=>(hv.kept hW).look u
 have j:=fun(W:World) (hW:Frm K.B w W)=>(hv.kept hW).look t
 have r:=hv.2 oa;have a1:=hv.2 ob;have a3:=h.size;have l:=Ja (h.keep ((Below.refl _ _).alloc (Je _) (U #[A 4,A c,A oa,A ob,I on,.slice ab an ac] 77)));have i:=Ja ((Frm.refl K.B w).alloc Zo (U #[A 4,A c,A oa,A ob,I on,.slice ab an ac] 77));have la:=fun n:Nat=>k _ (i.out.drewN (n:=n))
 have lb:=fun n:Nat=>j _ (i.out.drewN (n:=n))
 have g:=zI (W:=w) (o:=U #[A 4,A c,A oa,A ob,I on,.slice ab an ac] 77) rfl;clear h hv k j;generalize v oa=xa at *;generalize v ob=xb at *;go_enter Try.func82,Try.ntmps82;go_upto_region 1 with fail;generalize a0:w.alloc (U #[A 4,A c,A oa,A ob,I on,.slice ab an ac] 77)=W1 at *;clear a0;have p0:=K0 g;have p2:=K2 g;have p3:=K3 g;have p4:=K4 g
 go_cut [9,10] (fun x y wx=>x=I xa/\y=I xb/\∃n,wx=W1.drewN n)
 case first=>
  go_quiet (fail);go_wp2;go_meet;exact⟨rfl,rfl,_,rfl⟩
 case rest=>
  obtain⟨rfl,rfl,n,rfl⟩:=hcut;have HM:=Ja (l.out.drewN n);have HF:=Ja (i.out.drewN (n:=n));have q0:(W1.drewN n).cell? ⟨w.heap.size,0,none⟩=_:=p0;have q2:(W1.drewN n).cell? ⟨w.heap.size,2,none⟩=_:=p2;have q4:(W1.drewN n).cell? ⟨w.heap.size,4,none⟩=_:=p4;clear la lb p0 p2 p3 p4 g l i;generalize W1.drewN n=W2 at *;go_wp2;go_ret;have e:Ending.returned (I (bits .xor .u16 IntKind.u16.max (xa:Int)))=.returned (I ((65535-xa:Nat):Int)):=zh (not16 xa r);exact e ▸ zQ.ok HM.out HF.out Zo
theorem step_18{ov:Value}(h:MachAt w K m ov)(a4:I64 oa)(a3:I64 ob)(b0:on<65536)(ab:Option Addr)(an ac:Nat){v:Int->Nat}(hv:xO w vb vn v)(d:Int):
 Y 82 #[Q K.pm,.agg #[A 18,A c,A oa,A ob,I on,.slice ab an ac],.map (some vb),A d] w (zQ K w (pR m (v oa))):=by
 have t:=fun(W:World) (hW:Frm K.B w W)=>(hv.kept hW).look a4
 have r:=fun(W:World) (hW:Frm K.B w W)=>(hv.kept hW).look a3
 have k:=hv.2 oa;have a7:=hv.2 ob;have b1:=h.size;have a1:=Ja (h.keep ((Below.refl _ _).alloc (Je _) (U #[A 18,A c,A oa,A ob,I on,.slice ab an ac] 77)));have j:=Ja ((Frm.refl K.B w).alloc Zo (U #[A 18,A c,A oa,A ob,I on,.slice ab an ac] 77));have la:=fun n:Nat=>t _ (j.out.drewN (n:=n))
 have lb:=fun n:Nat=>r _ (j.out.drewN (n:=n))
 have g:=zI (W:=w) (o:=U #[A 18,A c,A oa,A ob,I on,.slice ab an ac] 77) rfl;clear h hv t r;generalize v oa=xa at *;generalize v ob=xb at *;go_enter Try.func82,Try.ntmps82;go_upto_region 1 with fail;generalize a5:w.alloc (U #[A 18,A c,A oa,A ob,I on,.slice ab an ac] 77)=W1 at *;clear a5;have p0:=K0 g;have p2:=K2 g;have p3:=K3 g;have p4:=K4 g
 go_cut [9,10] (fun x y wx=>x=I xa/\y=I xb/\∃n,wx=W1.drewN n)
 case first=>
  go_quiet (fail);go_wp2;go_meet;exact⟨rfl,rfl,_,rfl⟩
 case rest=>
  obtain⟨rfl,rfl,n,rfl⟩:=hcut;have i:=Ja (a1.out.drewN n);have HF:=Ja (j.out.drewN (n:=n));have q0:(W1.drewN n).cell? ⟨w.heap.size,0,none⟩=_:=p0;have q2:(W1.drewN n).cell? ⟨w.heap.size,2,none⟩=_:=p2;have q4:(W1.drewN n).cell? ⟨w.heap.size,4,none⟩=_:=p4;clear la lb p0 p2 p3 p4 g a1 j;generalize W1.drewN n=W2 at *;have l:yg xa<65536:=Qj _ Zd;have a6:IntKind.u16.wrap ((xa:Int)+1)=((yg xa:Nat):Int):=by rw[xY];unfold yg;omega
  by_cases h1:wo xa=true
  ·by_cases h2:wo (yg xa)=true
   ·have EE:=Ja (show pR m xa=.ok (tC m xa+256*tC m (yg xa)) m by unfold pR;rw[if_pos h1,if_pos h2]);obtain⟨r1,r2,_⟩:=i.out.ramCell h1;obtain⟨r3,r4,_⟩:=i.out.ramCell h2;have C1:=Ja h1;have C2:=Ja h2;have R2:=Ja (Jb r2 r4);have t1:True:=trivial;clear h1 h2 r2 r4;go_wp2_with (first|(go_at_call 107;have a2:=t1;clear t1;go_must (refine(vX i.out xa k C1.out).mono ?_;rintro e w' ⟨rfl,rfl⟩))|(go_at_call 107;go_must (refine(vX i.out (yg xa) l C2.out).mono ?_;rintro e w' ⟨rfl,rfl⟩)))
    go_ret;rw[EE.out];have e:Ending.returned (I (bits .or .u16 (IntKind.u16.wrap (tC m xa:Int)) (IntKind.u16.wrap (IntKind.u16.wrap (tC m (yg xa):Int)*256))))=.returned (I ((tC m xa+256*tC m (yg xa):Nat):Int)):=zh (or_low _ _ R2.out.1 R2.out.2);exact e ▸ zQ.ok i.out HF.out (by have:=R2.out;omega)
   ·have u:wo (yg xa)=false:=by simpa using h2
    have EE:=Ja (show pR m xa=.trap 2 (yg xa) m by unfold pR;rw[if_pos h1,if_neg h2]);obtain⟨r1,r2,_⟩:=i.out.ramCell h1;have C1:=Ja h1;have C2:=Ja u;have t1:True:=trivial;clear h1 h2 u r2;go_wp2_with (first|(go_at_call 107;have a2:=t1;clear t1;go_must (refine(vX i.out xa k C1.out).mono ?_;rintro e w' ⟨rfl,rfl⟩))|(go_at_call 107;go_must (refine(sX i.out (yg xa) l C2.out).mono ?_;rintro e w' ⟨rfl,rfl⟩)))
    exact⟨rfl,by rw[EE.out];exact zQ.trap i.out HF.out⟩
  ·have a0:wo xa=false:=by simpa using h1
   have EE:=Ja (show pR m xa=.trap 2 xa m by unfold pR;rw[if_neg h1]);have C1:=Ja a0;clear h1 a0;go_wp2_with (go_at_call 107;go_must (refine(sX i.out xa k C1.out).mono ?_;rintro e w' ⟨rfl,rfl⟩))
   exact⟨rfl,by rw[EE.out];exact zQ.trap i.out HF.out⟩
theorem step_19{ov:Value}(h:MachAt w K m ov)(a1:I64 oa)(a0:I64 ob)(a4:on<65536)(ab:Option Addr)(an ac:Nat){v:Int->Nat}(hv:xO w vb vn v)(d:Int):
 Y 82 #[Q K.pm,.agg #[A 19,A c,A oa,A ob,I on,.slice ab an ac],.map (some vb),A d] w (zQ K w (abh m (v oa))):=by
 have r:=fun(W:World) (hW:Frm K.B w W)=>(hv.kept hW).look a1
 have l:=fun(W:World) (hW:Frm K.B w W)=>(hv.kept hW).look a0
 have k:=hv.2 oa;have a3:=hv.2 ob;have a5:=h.size;have u:=Ja (h.keep ((Below.refl _ _).alloc (Je _) (U #[A 19,A c,A oa,A ob,I on,.slice ab an ac] 77)));have i:=Ja ((Frm.refl K.B w).alloc Zo (U #[A 19,A c,A oa,A ob,I on,.slice ab an ac] 77));have la:=fun n:Nat=>r _ (i.out.drewN (n:=n))
 have lb:=fun n:Nat=>l _ (i.out.drewN (n:=n))
 have g:=zI (W:=w) (o:=U #[A 19,A c,A oa,A ob,I on,.slice ab an ac] 77) rfl;clear h hv r l;generalize v oa=xa at *;generalize v ob=xb at *;go_enter Try.func82,Try.ntmps82;go_upto_region 1 with fail;generalize a2:w.alloc (U #[A 19,A c,A oa,A ob,I on,.slice ab an ac] 77)=W1 at *;clear a2;have p0:=K0 g;have p2:=K2 g;have p3:=K3 g;have p4:=K4 g
 go_cut [9,10] (fun x y wx=>x=I xa/\y=I xb/\∃n,wx=W1.drewN n)
 case first=>
  go_quiet (fail);go_wp2;go_meet;exact⟨rfl,rfl,_,rfl⟩
 case rest=>
  obtain⟨rfl,rfl,n,rfl⟩:=hcut;have j:=Ja (u.out.drewN n);have HF:=Ja (i.out.drewN (n:=n));have q0:(W1.drewN n).cell? ⟨w.heap.size,0,none⟩=_:=p0;have q2:(W1.drewN n).cell? ⟨w.heap.size,2,none⟩=_:=p2;have q4:(W1.drewN n).cell? ⟨w.heap.size,4,none⟩=_:=p4;clear la lb p0 p2 p3 p4 g u i;generalize W1.drewN n=W2 at *
  by_cases h1:wo xa=true
  ·have EE:=Ja (show abh m xa=.ok (tC m xa) m by unfold abh;rw[if_pos h1]);obtain⟨r1,r2,_⟩:=j.out.ramCell h1;have C1:=Ja h1;have R2:=Ja r2;clear h1 r2;go_wp2_with (go_at_call 107;go_must (refine(vX j.out xa k C1.out).mono ?_;rintro e w' ⟨rfl,rfl⟩))
   go_ret;rw[EE.out];have e:Ending.returned (I (IntKind.u16.wrap (tC m xa:Int)))=.returned (I ((tC m xa:Nat):Int)):=zh (by rw[xY];have:=R2.out;omega);exact e ▸ zQ.ok j.out HF.out (by have:=R2.out;omega)
  ·have t:wo xa=false:=by simpa using h1
   have EE:=Ja (show abh m xa=.trap 2 xa m by unfold abh;rw[if_neg h1]);have C1:=Ja t;clear h1 t;go_wp2_with (go_at_call 107;go_must (refine(sX j.out xa k C1.out).mono ?_;rintro e w' ⟨rfl,rfl⟩))
   exact⟨rfl,by rw[EE.out];exact zQ.trap j.out HF.out⟩
theorem step_20{ov:Value}(h:MachAt w K m ov)(a7:I64 oa)(a6:I64 ob)(b3:on<65536)(ab:Option Addr)(an ac:Nat){v:Int->Nat}(hv:xO w vb vn v)(d:Int):
 Y 82 #[Q K.pm,.agg #[A 20,A c,A oa,A ob,I on,.slice ab an ac],.map (some vb),A d] w (zQ K w (sK m (v oa) (v ob))):=by
 have a0:=fun(W:World) (hW:Frm K.B w W)=>(hv.kept hW).look a7
 have u:=fun(W:World) (hW:Frm K.B w W)=>(hv.kept hW).look a6
 have r:=hv.2 oa;have b2:=hv.2 ob;have b4:=h.size;have a3:=Ja (h.keep ((Below.refl _ _).alloc (Je _) (U #[A 20,A c,A oa,A ob,I on,.slice ab an ac] 77)));have l:=Ja ((Frm.refl K.B w).alloc Zo (U #[A 20,A c,A oa,A ob,I on,.slice ab an ac] 77));have la:=fun n:Nat=>a0 _ (l.out.drewN (n:=n))
 have lb:=fun n:Nat=>u _ (l.out.drewN (n:=n))
 have g:=zI (W:=w) (o:=U #[A 20,A c,A oa,A ob,I on,.slice ab an ac] 77) rfl;clear h hv a0 u;generalize v oa=xa at *;generalize v ob=xb at *;go_enter Try.func82,Try.ntmps82;go_upto_region 1 with fail;generalize b0:w.alloc (U #[A 20,A c,A oa,A ob,I on,.slice ab an ac] 77)=W1 at *;clear b0;have p0:=K0 g;have p2:=K2 g;have p3:=K3 g;have p4:=K4 g
 go_cut [9,10] (fun x y wx=>x=I xa/\y=I xb/\∃n,wx=W1.drewN n)
 case first=>
  go_quiet (fail);go_wp2;go_meet;exact⟨rfl,rfl,_,rfl⟩
 case rest=>
  obtain⟨rfl,rfl,n,rfl⟩:=hcut;have i:=Ja (a3.out.drewN n);have HF:=Ja (l.out.drewN (n:=n));have q0:(W1.drewN n).cell? ⟨w.heap.size,0,none⟩=_:=p0;have q2:(W1.drewN n).cell? ⟨w.heap.size,2,none⟩=_:=p2;have q4:(W1.drewN n).cell? ⟨w.heap.size,4,none⟩=_:=p4;clear la lb p0 p2 p3 p4 g a3 l;generalize W1.drewN n=W2 at *;have t:yg xa<65536:=Qj _ Zd;have b1:IntKind.u16.wrap ((xa:Int)+1)=((yg xa:Nat):Int):=by rw[xY];unfold yg;omega
  by_cases h1:wo xa=true
  ·by_cases h2:wo (yg xa)=true
   ·have EE:=Ja (show sK m xa xb=.ok 0 ((m.put xa (xb%256)).put (yg xa) (xb/256)) by unfold sK;rw[if_pos h1,if_pos h2]);obtain⟨r0,_,r1⟩:=i.out.ramCell h1;have k:=i.out.setR xa (xb%256) Zo;have j:=k.1.setR (yg xa) (xb/256) Zo;obtain⟨r2,_,r3⟩:=k.1.ramCell h2;rw[show((xb%256:Nat):Int)=(xb:Int)%256 by omega] at r2 r3 k j;rw[show((xb/256:Nat):Int)=(xb:Int)/256 by omega] at j;have C1:=Ja h1;have C2:=Ja h2;have a4:=Ja (Jb j.1 ((HF.out.trans k.2).trans j.2));have t1:True:=trivial;clear h1 h2 k j;go_wp2_with (first|(go_at_call 107;have a5:=t1;clear t1;go_must (refine(vX i.out xa r C1.out).mono ?_;rintro e w' ⟨rfl,rfl⟩))|(go_at_call 107;go_must (refine(vX i.out (yg xa) t C2.out).mono ?_;rintro e w' ⟨rfl,rfl⟩)))
    go_ret;rw[EE.out];exact zQ.ok (x:=0) a4.out.1 a4.out.2 Zd
   ·have a1:wo (yg xa)=false:=by simpa using h2
    have EE:=Ja (show sK m xa xb=.trap 2 (yg xa) m by unfold sK;rw[if_pos h1,if_neg h2]);obtain⟨r1,r2,_⟩:=i.out.ramCell h1;have C1:=Ja h1;have C2:=Ja a1;have t1:True:=trivial;clear h1 h2 a1 r2;go_wp2_with (first|(go_at_call 107;have a5:=t1;clear t1;go_must (refine(vX i.out xa r C1.out).mono ?_;rintro e w' ⟨rfl,rfl⟩))|(go_at_call 107;go_must (refine(sX i.out (yg xa) t C2.out).mono ?_;rintro e w' ⟨rfl,rfl⟩)))
    exact⟨rfl,by rw[EE.out];exact zQ.trap i.out HF.out⟩
  ·have a2:wo xa=false:=by simpa using h1
   have EE:=Ja (show sK m xa xb=.trap 2 xa m by unfold sK;rw[if_neg h1]);have C1:=Ja a2;clear h1 a2;go_wp2_with (go_at_call 107;go_must (refine(sX i.out xa r C1.out).mono ?_;rintro e w' ⟨rfl,rfl⟩))
   exact⟨rfl,by rw[EE.out];exact zQ.trap i.out HF.out⟩
theorem step_21{ov:Value}(h:MachAt w K m ov)(a3:I64 oa)(a2:I64 ob)(a6:on<65536)(ab:Option Addr)(an ac:Nat){v:Int->Nat}(hv:xO w vb vn v)(d:Int):
 Y 82 #[Q K.pm,.agg #[A 21,A c,A oa,A ob,I on,.slice ab an ac],.map (some vb),A d] w (zQ K w (td m (v oa) (v ob))):=by
 have t:=fun(W:World) (hW:Frm K.B w W)=>(hv.kept hW).look a3
 have r:=fun(W:World) (hW:Frm K.B w W)=>(hv.kept hW).look a2
 have l:=hv.2 oa;have a5:=hv.2 ob;have a7:=h.size;have a0:=Ja (h.keep ((Below.refl _ _).alloc (Je _) (U #[A 21,A c,A oa,A ob,I on,.slice ab an ac] 77)));have j:=Ja ((Frm.refl K.B w).alloc Zo (U #[A 21,A c,A oa,A ob,I on,.slice ab an ac] 77));have la:=fun n:Nat=>t _ (j.out.drewN (n:=n))
 have lb:=fun n:Nat=>r _ (j.out.drewN (n:=n))
 have g:=zI (W:=w) (o:=U #[A 21,A c,A oa,A ob,I on,.slice ab an ac] 77) rfl;clear h hv t r;generalize v oa=xa at *;generalize v ob=xb at *;go_enter Try.func82,Try.ntmps82;go_upto_region 1 with fail;generalize a4:w.alloc (U #[A 21,A c,A oa,A ob,I on,.slice ab an ac] 77)=W1 at *;clear a4;have p0:=K0 g;have p2:=K2 g;have p3:=K3 g;have p4:=K4 g
 go_cut [9,10] (fun x y wx=>x=I xa/\y=I xb/\∃n,wx=W1.drewN n)
 case first=>
  go_quiet (fail);go_wp2;go_meet;exact⟨rfl,rfl,_,rfl⟩
 case rest=>
  obtain⟨rfl,rfl,n,rfl⟩:=hcut;have k:=Ja (a0.out.drewN n);have HF:=Ja (j.out.drewN (n:=n));have q0:(W1.drewN n).cell? ⟨w.heap.size,0,none⟩=_:=p0;have q2:(W1.drewN n).cell? ⟨w.heap.size,2,none⟩=_:=p2;have q4:(W1.drewN n).cell? ⟨w.heap.size,4,none⟩=_:=p4;clear la lb p0 p2 p3 p4 g a0 j;generalize W1.drewN n=W2 at *
  by_cases h1:wo xa=true
  ·have EE:=Ja (show td m xa xb=.ok 0 (m.put xa (xb%256)) by unfold td;rw[if_pos h1]);obtain⟨r0,_,r1⟩:=k.out.ramCell h1;have i:=k.out.setR xa (xb%256) Zo;rw[show((xb%256:Nat):Int)=(xb:Int)%256 by omega] at i;have C1:=Ja h1;have a1:=Ja (Jb i.1 (HF.out.trans i.2));clear h1 i;go_wp2_with (go_at_call 107;go_must (refine(vX k.out xa l C1.out).mono ?_;rintro e w' ⟨rfl,rfl⟩))
   go_ret;rw[EE.out];exact zQ.ok (x:=0) a1.out.1 a1.out.2 Zd
  ·have u:wo xa=false:=by simpa using h1
   have EE:=Ja (show td m xa xb=.trap 2 xa m by unfold td;rw[if_neg h1]);have C1:=Ja u;clear h1 u;go_wp2_with (go_at_call 107;go_must (refine(sX k.out xa l C1.out).mono ?_;rintro e w' ⟨rfl,rfl⟩))
   exact⟨rfl,by rw[EE.out];exact zQ.trap k.out HF.out⟩
def pq (K:MK)(r:Nat):Prop:=
 ∀(w:World) (m:Mach) (ov av:Value) (f:Int) (args:List Nat),MachAt w K m ov->0<=f->f.toNat<K.E.p.funcs.length->wV w w.heap.size av args->(args.length:Int)=K.E.p.args.getD f.toNat 0->
  Y 52 #[Q K.pm,A f,av,A (101-(r:Int))] w (zQ K w (xW K.E r f args m))
theorem Try.info_u16:(Try.prog.info? 39).map (fun i=>(i.zero,i.size,i.bytes))=some (some (I 0),1,2):=by kernel_rfl
theorem ms{S:Nat}{av:Value}{n:Nat}{xs:List Nat}(h:w.ownsRow S 39 1 av n (xs.map vL))(j:xs.length=n)(i:∀x∈xs,x<65536):wV w w.heap.size av xs:=by
 subst j;obtain⟨a,c,rfl⟩:=zG h;have hl:=zm h;refine⟨a,c,rfl,hl.1,by omega,fun k x hk=>?_⟩;have l:=(Jh.1 hk).1;obtain⟨g,cap,e,hg,d⟩:=h.form Zo;cases e;refine⟨g,0,rfl,d,?_,i x (Ji hk)⟩;rw[Nk,Ng];exact(h.cellAt k Zo).trans (by rw[Jr,hk];rfl)
def uT (v:Int->Nat)(xs:List Int)(k:Nat):List Nat:=(xs.take k).map v
theorem qH{v:Int->Nat}{x:Int}(h:xs[k]? =some x):uT v xs (k+1)=uT v xs k++ [v x]:=by unfold uT;rw[Nh,h,Js];rfl
theorem pA{v:Int->Nat}(h:k<=xs.length):(uT v xs k).length=k:=by unfold uT;rw[Nr,Oc];omega
theorem r8{v:Int->Nat}:uT v xs xs.length=xs.map v:=by unfold uT;rw[Nl]
theorem step_26{ov:Value}(h:MachAt w K m ov)(d6:I64 oa)(d5:I64 ob)(f0:on<65536){av:Value}(a5:zY w w.heap.size av xs)(e8:xs.length<=65536)
  {v:Int->Nat} (hv:xO w vb vn v)  (hr:r<=100) (hC:pq K r) (hf:0<=oa/\oa.toNat<K.E.p.funcs.length/\(xs.length:Int)=K.E.p.args.getD oa.toNat 0):
 Y 82 #[Q K.pm,.agg #[A 26,A d,A oa,A ob,I on,av],.map (some vb),A (100-(r:Int))] w (zQ K w (xW K.E r oa (xs.map v) m)):=by
 obtain⟨ab,ac,rfl,f3,e6⟩:=a5.form;have c3:=fun(W:World) (hW:Frm K.B w W)=>(hv.kept hW).look d6
 have c2:=fun(W:World) (hW:Frm K.B w W)=>(hv.kept hW).look d5
 have f1:=h.size;have c5:=Ja (h.keep ((Below.refl _ _).alloc (Je _) (U #[A 26,A d,A oa,A ob,I on,.slice ab xs.length ac] 77)));have a2:=Ja ((Frm.refl K.B w).alloc Zo (U #[A 26,A d,A oa,A ob,I on,.slice ab xs.length ac] 77));have c4:=Ja (a5.below zO ((Below.refl w.heap.size w).alloc (Je _) (U #[A 26,A d,A oa,A ob,I on,.slice ab xs.length ac] 77)));have la:=fun n:Nat=>c3 _ (a2.out.drewN (n:=n))
 have lb:=fun n:Nat=>c2 _ (a2.out.drewN (n:=n))
 have j:=zI (W:=w) (o:=U #[A 26,A d,A oa,A ob,I on,.slice ab xs.length ac] 77) rfl;have c0:=Ja (hv.kept a2.out);have HC:=Ja hC;have b5:=Ja hf;have a6:w.heap.size<(w.alloc (U #[A 26,A d,A oa,A ob,I on,.slice ab xs.length ac] 77)).heap.size:=by simp
 clear h hv c3 c2 a5 hC hf;obtain⟨xa,b8⟩:∃xa,v oa=xa:=⟨_,rfl⟩
 obtain⟨xb,b7⟩:∃xb,v ob=xb:=⟨_,rfl⟩
 rw[b8] at la;rw[b7] at lb;clear b8 b7;go_enter Try.func82,Try.ntmps82;go_upto_region 1 with fail;generalize d9:w.alloc (U #[A 26,A d,A oa,A ob,I on,.slice ab xs.length ac] 77)=W1 at *;clear d9;have p0:=K0 j;have p2:=K2 j;have p3:=K3 j;have p5:=K5 j
 go_cut [9,10] (fun x y wx=>x=I xa/\y=I xb/\∃n,wx=W1.drewN n)
 case first=>
  go_quiet (fail);go_wp2;go_meet;exact⟨rfl,rfl,_,rfl⟩
 case rest=>
  obtain⟨rfl,rfl,n,rfl⟩:=hcut;have HM:=Ja (c5.out.drewN n);have HF:=Ja (a2.out.drewN (n:=n));have b4:=Ja ((c0.out.kept (Frm.refl K.B W1).drewN:xO (W1.drewN n) vb vn v));have e1:=Ja (c4.out.below zO (yL w.heap.size W1 n));have q0:(W1.drewN n).cell? ⟨w.heap.size,0,none⟩=_:=p0;have q2:(W1.drewN n).cell? ⟨w.heap.size,2,none⟩=_:=p2;have q5:(W1.drewN n).cell? ⟨w.heap.size,5,none⟩=_:=p5;have d4:w.heap.size<(W1.drewN n).heap.size:=a6;clear la lb p0 p2 p3 p5 j c5 a2 c0 c4 a6;generalize W1.drewN n=W2 at *;go_wp2
  go_loopw [15,159] (fun rv kv wx=>∃k:Nat,k<=xs.length/\kv=A k/\Hid (wx.ownsRow W2.heap.size 39 1 rv k ((uT v xs k).map vL)/\F W2 wx)) (fun _ kv _=>xs.length-(intOf kv).toNat)
  case atStart=>exact⟨0,Jt _,rfl,Jv _ _ _ _,Below.refl _ _⟩
  case round=>
   obtain⟨k,hk,rfl,t⟩:=hrel;obtain⟨ra,rc,rfl⟩:=zG t.out.1;have a4:Frm K.B W2 wr:=⟨t.out.2.mono (by have:=HM.out.size;omega),fun i o hi _=>zH t.out.2 hi (lt_of_block hi)⟩
   by_cases b0:k<xs.length
   ·have l:(k:Int)<xs.length:=Zo;have c8:=Ja b0;obtain⟨x,hx⟩:∃x,xs[k]? =some x:=⟨_,Jd b0⟩
    obtain⟨b,o,rfl,hb,b2,d3⟩:=e1.out.get hx;rw[Nk] at b2;have cx:=(t.out.2.cell (p:=⟨b,o+k,none⟩) (by show b<W2.heap.size;omega)).trans b2;have lx:=(b4.out.kept a4).look d3;have e9:=b4.out.2 x;have e0:=Ja (qH (v:=v) hx);have f2:=pA (v:=v) (show k<=xs.length by omega);obtain⟨ii,d7,d2,d1,d0⟩:=info_parts Try.info_u16;have e3:=t.out.2.size;clear hx b2 b0;generalize v x=vx at *;go_wp2_with (at_builtin;go_must (refine wpList_append_lies _ rfl (.tmp 163) (.tmp 167) 36 rfl W2.heap.size 39 ii (I 0) 1 2 Try.underlying36 d7 d2 d1 d0 rfl Zd _ k ((uT v xs k).map vL) rfl (t.out.1.alloc _) ⟨wr.heap.size,0,none⟩ 1 1 [I vx] rfl rfl (Oi (cs:=#[I vx]) (zI Zs)) (by simp[Value.oneCell']) Zd (by unfold maxLen;omega) Zo Zt (wr.heap.size+1) Zs ?_;intro gq e7 w6 a3 a0 e5 e4;have c7:=Ja (Jb a3 a0);clear a3 a0))
    go_roundw
    case rel=>
     refine⟨k+1,c8.out,by go_num,?_,(t.out.2.alloc Zo _).grown c7.out.2 Zt (fun k hk=>(t.out.1.lt k hk).1)⟩;rw[e0.out,Js];exact c7.out.1
    case measure=>have:=c8.out;simp[intOf];omega
   ·obtain rfl:k=xs.length:=by omega
    have l:¬(xs.length:Int)<xs.length:=Zo;have u:=t.out.1;rw[r8] at u;have e2:wr.cell? ⟨w.heap.size,2,none⟩=_:=(t.out.2.cell (p:=⟨w.heap.size,2,none⟩) d4).trans q2;have b3:=HM.out.keep t.out.2;have c:=HC.out wr m ov (.slice ra xs.length rc) oa (xs.map v) b3 b5.out.1 b5.out.2.1 (ms u Zs (fun y hy=>by obtain⟨z,_,rfl⟩:=Nu.1 hy;exact b4.out.2 z)) (by simpa using b5.out.2.2);have c9:=Ja (HF.out.trans a4)
    cases g:xW K.E r oa (xs.map v) m with
    |ok x m'=>
     have a1:Y 52 #[Q K.pm,A oa,.slice ra xs.length rc,A (101-(r:Int))] wr fun e w'=>e=.returned (I x)/\(∃ov',MachAt w' K m' ov')/\Frm K.B wr w'/\x<65536:=by rw[g] at c;exact c
     have b6:=Ja a1;have HR:=Ja g;clear c a1 g u b3 a4 l;have l:¬(xs.length:Int)<xs.length:=Zo;have d8:(100-(r:Int))+1=101-(r:Int):=Zo;go_wp2_with (go_at_call 52;go_must (refine b6.out.mono ?_;rintro e w' ⟨rfl,⟨ov',a7⟩,b1,b9⟩))
     go_ret;rw[HR.out]
     exact zQ.ok a7 (c9.out.trans b1) b9
    |trap k i m'=>
     have a1:Y 52 #[Q K.pm,A oa,.slice ra xs.length rc,A (101-(r:Int))] wr fun e w'=>e=.panicked [oE k i]/\(∃ov',MachAt w' K m' ov')/\Frm K.B wr w'/\True:=by rw[g] at c;exact c
     have b6:=Ja a1;have HR:=Ja g;clear c a1 g u b3 a4 l;have l:¬(xs.length:Int)<xs.length:=Zo;have d8:(100-(r:Int))+1=101-(r:Int):=Zo;go_wp2_with (go_at_call 52;go_must (refine b6.out.mono ?_;rintro e w' ⟨rfl,⟨ov',a7⟩,b1,b9⟩))
     exact⟨rfl,by rw[HR.out];exact zQ.trap a7 (c9.out.trans b1)⟩
def endP0:Res Nat->Ending
 |.ok _ _=> .returned (.tuple #[])
 |.trap k i _=> .panicked [oE k i]
def wU (K:MK)(w:World)(r:Res Nat)(e:Ending)(w':World):Prop:=e=endP0 r/\(∃ov',MachAt w' K r.mach ov')/\Frm K.B w w'
theorem wU.ok{c:Value}(h:MachAt w' K m' c)(d:Frm K.B w w'):wU K w (.ok x m') (.returned (.tuple #[])) w':=⟨rfl,⟨c,h⟩,d⟩
theorem wU.trap{c:Value}(h:MachAt w' K m' c)(d:Frm K.B w w'):wU K w (.trap k i m') (.panicked [oE k i]) w':=⟨rfl,⟨c,h⟩,d⟩
theorem u16s_nil (w:World)(B:Nat):wV w B (O) []:=⟨none,0,rfl,Je _,by decide,fun k x hk=>by simp at hk⟩
theorem poll_any{ov:Value}(h:MachAt w K m ov)(a7:OkProg K.E.p)(hr:r<=100)(hC:pq K r):
 Y 110 #[Q K.pm,A (100-(r:Int))] w (wU K w (tY K.E (xW K.E r) m)):=by
 have c8:=h.c8;have c12:=h.c12;have j:=h.irq;obtain⟨ia,ic,a2,d1,d0⟩:=j.form;rw[a2] at c8 j;have HH:=Ja h;have b5:=h.pol;have c0:=Ja a2;have b8:=Ja a7;have HC:=Ja hC;clear h a2 a7 hC
 by_cases d:m.polls<K.E.irq.length
 ·obtain⟨x,hx⟩:∃x,K.E.irq[m.polls]? =some x:=⟨_,Jd d⟩
  obtain⟨b,o,rfl,b0,u,c7⟩:=j.get hx;have c2:=Ja b0;rw[Nk] at u;have hI:¬(K.E.irq.length:Int)<=m.polls:=Zo;have hJ:(m.polls:Int)<K.E.irq.length:=Zo
  have a6:tY K.E (xW K.E r) m=if x≠0/\K.E.p.handler≠-1 then(match xW K.E r K.E.p.handler [] {m with polls:=m.polls+1 } with|.ok _ m'=> .ok 0 m'|.trap k i m'=> .trap k i m') else .ok 0 {m with polls:=m.polls+1 }:=by
   unfold tY;rw[if_pos d,Jj,hx];rfl
  have a4:=Ja a6;have b1:=HH.out.free 12;have b9:=Ja d;have c4:K.E.irq.length<=9223372036854775807:=Zo;clear j d hx b5 b0 a6;go_enter Try.func110,Try.ntmps110;go_upto_region 0 with fail
  go_cut [14] (fun v wx=>v=.bool false/\∃n,wx=w.drewN n)
  case first=>
   go_quiet (fail);go_wp2;go_meet;exact⟨rfl,_,rfl⟩
  case rest=>
   obtain⟨rfl,n,rfl⟩:=hcut;have h1:=(HH.out.drewN n).setP b9.out HH.out.ne;have hF:Frm K.B w ((w.drewN n).setCell ⟨K.pm,12,none⟩ (A ((m.polls:Int)+1))):=(Frm.refl _ _).drewN.trans ((HH.out.drewN n).frm 12 _);have d8:(w.drewN n).cell? ⟨K.pm,8,none⟩=_:=c8;have d3:(w.drewN n).cell? ⟨K.pm,12,none⟩=_:=c12;have c5:T (w.drewN n) K.pm 12:=b1;have e8:=h1.c8;rw[c0.out] at e8;have d2:=h1.c12;have e3:=h1.c3;have b7:=(hF.below.cell (p:=⟨b,o+m.polls,none⟩) c2.out).trans u;have c9:IntKind.i64.wrap (((m.polls+1:Nat):Int)-1)=(m.polls:Int):=by rw[show(((m.polls+1:Nat):Int)-1)=(m.polls:Int) by omega];exact Om _ Zo
   have H1:=Ja h1;have HF:=Ja hF;clear h1 hF c8 c12 b1;go_upto_region 2 with fail;generalize (w.drewN n).setCell ⟨K.pm,12,none⟩ (A ((m.polls:Int)+1))=W2 at *
   by_cases g:x=0
   ·have t1:((x:Int) !=0)=false:=by rw[bne_eq_false_iff_eq];omega
    have EE:=Ja (show tY K.E (xW K.E r) m=.ok 0 {m with polls:=m.polls+1 } by rw[a4.out,if_neg (fun h=>h.1 g)]);clear g;go_quiet (fail);go_wp2
    go_end0
    rw[EE.out];exact wU.ok (H1.out.drewN _) HF.out.drewN
   ·have t1:((x:Int) !=0)=true:=by rw[bne_iff_ne];omega
    by_cases t:K.E.p.handler=-1
    ·have t2:(K.E.p.handler !=-1)=false:=by rw[bne_eq_false_iff_eq];exact t
     have EE:=Ja (show tY K.E (xW K.E r) m=.ok 0 {m with polls:=m.polls+1 } by rw[a4.out,if_neg (fun h=>h.2 t)]);clear g t;go_quiet (fail);go_wp2
     go_end0
     rw[EE.out];exact wU.ok (H1.out.drewN _) HF.out.drewN
    ·have t2:(K.E.p.handler !=-1)=true:=by rw[bne_iff_ne];exact t
     have a0:=a4.out;rw[if_pos ⟨g,t⟩] at a0
     have y:∀q,pq K r->Y 52 #[Q K.pm,A K.E.p.handler,O,A (101-(r:Int))] (W2.drewN q) (zQ K (W2.drewN q) (xW K.E r K.E.p.handler [] {m with polls:=m.polls+1 })):=fun q hC=>by
      obtain⟨h1,h2,h3⟩:=b8.out.hnd t;exact hC (W2.drewN q) _ ov _ _ [] (H1.out.drewN q) h1 h2 (u16s_nil _ _) (by rw[h3];rfl)
     have b3:=Ja (fun q=>y q HC.out);have b2:=Ja a0;clear g t y a0
     go_cut [42] (fun v wx=>v=.bool true/\∃q,wx=W2.drewN q)
     case first=>
      go_quiet (fail);go_wp2;go_meet;exact⟨rfl,_,rfl⟩
     case rest=>
      obtain⟨rfl,q,rfl⟩:=hcut;have g3:(W2.drewN q).cell? ⟨K.pm,3,none⟩=_:=e3
      cases c:xW K.E r K.E.p.handler [] {m with polls:=m.polls+1 } with
      |ok x m'=>
       have l:Y 52 #[Q K.pm,A K.E.p.handler,O,A (101-(r:Int))] (W2.drewN q) fun e w'=>e=.returned (I x)/\(∃ov',MachAt w' K m' ov')/\Frm K.B (W2.drewN q) w'/\x<65536:=by have:=b3.out q;rw[c] at this;exact this
       have a5:=Ja l;have EE:=Ja (show tY K.E (xW K.E r) m=.ok 0 m' by rw[b2.out,c]);clear l c;have b6:(100-(r:Int))+1=101-(r:Int):=Zo;go_wp2_with (go_at_call 52;go_must (refine a5.out.mono ?_;rintro e w' ⟨rfl,⟨ov',a1⟩,a3,b4⟩))
       go_end0
       rw[EE.out]
       exact wU.ok a1 (HF.out.drewN.trans a3)
      |trap k i m'=>
       have l:Y 52 #[Q K.pm,A K.E.p.handler,O,A (101-(r:Int))] (W2.drewN q) fun e w'=>e=.panicked [oE k i]/\(∃ov',MachAt w' K m' ov')/\Frm K.B (W2.drewN q) w'/\True:=by have:=b3.out q;rw[c] at this;exact this
       have a5:=Ja l;have EE:=Ja (show tY K.E (xW K.E r) m=.trap k i m' by rw[b2.out,c]);clear l c;have b6:(100-(r:Int))+1=101-(r:Int):=Zo;go_wp2_with (go_at_call 52;go_must (refine a5.out.mono ?_;rintro e w' ⟨rfl,⟨ov',a1⟩,a3,b4⟩))
       exact⟨rfl,by rw[EE.out];exact wU.trap a1 (HF.out.drewN.trans a3)⟩
 ·have hI:(K.E.irq.length:Int)<=m.polls:=Zo;have e:tY K.E (xW K.E r) m=.ok 0 m:=by unfold tY;rw[if_neg d]
  have EE:=Ja e;clear e j d;go_enter Try.func110,Try.ntmps110;go_wp2;go_quiet (fail);go_wp2
  first|go_end0|refine bodyPost_ret (results_none rfl _ _ _) rfl ?_
  rw[EE.out];exact wU.ok (HH.out.drewN _) (Frm.refl _ _).drewN
theorem lP:∀x2 x4 x5 x7:Bool,(x7=false)∨(x2=false/\x7=true)∨(x2=true/\x4=false/\x7=true)∨(x2=true/\x4=true/\x5=false/\x7=true)∨(x2=true/\x4=true/\x5=true/\x7=true)
 |_,_,_,false=>(.inl rfl)
 |false,_,_,true=>(.inr (.inl ⟨rfl,rfl⟩))
 |true,false,_,true=>(.inr (.inr (.inl ⟨rfl,rfl,rfl⟩)))
 |true,true,false,true=>(Zi (.inl ⟨rfl,rfl,rfl,rfl⟩))
 |true,true,true,true=>(Zi (.inr ⟨rfl,rfl,rfl,rfl⟩))
theorem jZ:∀x1 x4 x6:Bool,(x1=false)∨(x1=true/\x4=false)∨(x1=true/\x4=true/\x6=false)∨(x1=true/\x4=true/\x6=true)
 |false,_,_=>(.inl rfl)
 |true,false,_=>(.inr (.inl ⟨rfl,rfl⟩))
 |true,true,false=>(.inr (.inr (.inl ⟨rfl,rfl,rfl⟩)))
 |true,true,true=>(.inr (.inr (.inr ⟨rfl,rfl,rfl⟩)))
theorem kM{B:Nat}{V:PV}{p:IProg}(hp:ProgIn w B V p)(hB:B<=w.heap.size)(hC:L w C (rC V p++tl).toArray 128)(hl:p.args.length=p.funcs.length)(o:IOp)(ho:qN o)(ar:Option Addr)(cap:Nat)(b6:o.args.length<=cap/\cap<=9223372036854775807)(i:o.code=26):
 Y 98 #[Q C,opV o (.slice ar o.args.length cap)] w (ym w (opF p o)):=by
 unfold opV;obtain⟨_,b3,b8,b7,b4⟩:=ho;have b5:o.args.length<=9223372036854775807:=Zo;obtain⟨Vf,Va,Vd,Vb⟩:=V;obtain⟨f1,f2,e1,a5,a4⟩:=hp.funcs.form;have l:=hp.args;obtain⟨a1,a2,e2,b2,b1⟩:=hp.args.form;obtain⟨d1,d2,e3,a7,a6⟩:=hp.data.form;simp only at e1 e2 e3 l;subst e1 e2 e3;have c0:p.funcs.length<=9223372036854775807:=Zo;have c2:p.data.length<=9223372036854775807:=Zo;clear hp a5 a4 b2 b1 a7 a6;have c3:=lt_of_block hC;have hf:∀W,Y 105 #[A 26] W fun e w'=>e=.returned (.tuple #[.agg #[.bool false,.bool false,.bool false,.bool false],.bool true])/\F W w':=fun W=>yu 26 W
 obtain⟨x0,h0⟩:∃q,decide (0<=o.a)=q:=⟨_,rfl⟩
 obtain⟨x1,h1⟩:∃q,decide (0<=o.res)=q:=⟨_,rfl⟩
 obtain⟨x2,h2⟩:∃q,decide (-1<=o.res)=q:=⟨_,rfl⟩
 obtain⟨x3,h3⟩:∃q,decide (o.a<(p.funcs.length:Int))=q:=⟨_,rfl⟩
 obtain⟨x4,h4⟩:∃q,decide (o.b=0)=q:=⟨_,rfl⟩
 obtain⟨x5,h5⟩:∃q,decide (o.n=0)=q:=⟨_,rfl⟩
 obtain⟨x6,h6⟩:∃q,decide (o.args.length=0)=q:=⟨_,rfl⟩
 obtain⟨x7,j⟩:∃q,decide ((o.args.length:Int)=p.args.getD o.a.toNat 0)=q:=⟨_,rfl⟩
 have e:opF p o=(x0 && x3 && x7 && x2 && x4 && x5):=by
  unfold opF;rw[i];rw[h0,h3,j,h2,h4,h5];rfl
 rw[i];obtain⟨R,u⟩:∃R,opF p o=R:=⟨_,rfl⟩
 rw[u];rw[e] at u;have HR:=Ja u;have HF:=Ja hf;have HC:=Ja hC;have t4:=vg h4;have t5:((o.n:Int)==0)=x5:=vg (zZ h5 Zo);have t6:((o.args.length:Int)==0)=x6:=vg (zZ h6 Zo);clear e u hf h4 h5 h6 hC
 cases x0 with
 |false=>
  skip
  all_goals go_enter Try.func98,Try.ntmps98
  all_goals go_wp2_with (first|(go_at_call 105;go_must (refine(HF.out _).mono ?_;rintro e w1 ⟨rfl,d⟩;have c:=zH d (zI rfl) Zs;have u0:∀ob,G (w1.alloc ob) w.heap.size 0 (A 26):=fun ob=>zA (zB c) Zs;have u1:∀ob,G (w1.alloc ob) w.heap.size 1 (A o.res):=fun ob=>zA (zB c) Zs;have u2:∀ob,G (w1.alloc ob) w.heap.size 2 (A o.a):=fun ob=>zA (zB c) Zs;have u3:∀ob,G (w1.alloc ob) w.heap.size 3 (A o.b):=fun ob=>zA (zB c) Zs;have u4:∀ob,G (w1.alloc ob) w.heap.size 4 (I (o.n:Int)):=fun ob=>zA (zB c) Zs;have u5:∀ob,G (w1.alloc ob) w.heap.size 5 (.slice ar o.args.length cap):=fun ob=>zA (zB c) Zs;have g:=zH d (zB HC.out) Zt;have v0:∀ob,G (w1.alloc ob) C 0 (.slice f1 p.funcs.length f2):=fun ob=>zA (zB g) rfl;have v1:∀ob,G (w1.alloc ob) C 1 (.slice a1 p.args.length a2):=fun ob=>zA (zB g) rfl;have v4:∀ob,G (w1.alloc ob) C 4 (.slice d1 p.data.length d2):=fun ob=>zA (zB g) rfl;clear c g;have h:=Ja d;clear d))|go_in)
  all_goals go_quiet (fail)
  all_goals go_wp2
  all_goals go_ret
  all_goals exact⟨uz (HR.out.symm.trans rfl),yC ((((Below.refl _ _).alloc (Je _) _).trans (h.out.mono Zs)).alloc (by have t:=h.out.size;simp at t;omega) _)⟩
 |true=>
  obtain⟨k,hk⟩:∃k:Nat,o.a=(k:Int):=⟨o.a.toNat,by have:=of_decide_eq_true h0;omega⟩
  rw[hk] at h3 j ⊢;have t0:decide ((0:Int)<=(k:Int))=true:=decide_eq_true Zo;have t3:decide (k<p.funcs.length)=x3:=zZ h3 Zo
  cases x3 with
  |false=>
   clear j
   all_goals go_enter Try.func98,Try.ntmps98
   all_goals go_wp2_with (first|(go_at_call 105;go_must (refine(HF.out _).mono ?_;rintro e w1 ⟨rfl,d⟩;have c:=zH d (zI rfl) Zs;have u0:∀ob,G (w1.alloc ob) w.heap.size 0 (A 26):=fun ob=>zA (zB c) Zs;have u1:∀ob,G (w1.alloc ob) w.heap.size 1 (A o.res):=fun ob=>zA (zB c) Zs;have u2:∀ob,G (w1.alloc ob) w.heap.size 2 (A k):=fun ob=>zA (zB c) Zs;have u3:∀ob,G (w1.alloc ob) w.heap.size 3 (A o.b):=fun ob=>zA (zB c) Zs;have u4:∀ob,G (w1.alloc ob) w.heap.size 4 (I (o.n:Int)):=fun ob=>zA (zB c) Zs;have u5:∀ob,G (w1.alloc ob) w.heap.size 5 (.slice ar o.args.length cap):=fun ob=>zA (zB c) Zs;have g:=zH d (zB HC.out) Zt;have v0:∀ob,G (w1.alloc ob) C 0 (.slice f1 p.funcs.length f2):=fun ob=>zA (zB g) rfl;have v1:∀ob,G (w1.alloc ob) C 1 (.slice a1 p.args.length a2):=fun ob=>zA (zB g) rfl;have v4:∀ob,G (w1.alloc ob) C 4 (.slice d1 p.data.length d2):=fun ob=>zA (zB g) rfl;clear c g;have h:=Ja d;clear d))|go_in)
   all_goals go_quiet (fail)
   all_goals go_wp2
   all_goals go_ret
   all_goals exact⟨uz (HR.out.symm.trans rfl),yC ((((Below.refl _ _).alloc (Je _) _).trans (h.out.mono Zs)).alloc (by have t:=h.out.size;simp at t;omega) _)⟩
  |true=>
   have a3:k<p.funcs.length:=of_decide_eq_true t3;obtain⟨x,hx⟩:∃x,p.args[k]? =some x:=⟨_,Jd Zo⟩
   obtain⟨ba,oa,rfl,y,r,_⟩:=l.get hx;rw[Nk] at r;rw[Ni,Jj,hx,Ot] at j;have t7:=vg j;have b9:(k:Int)<p.args.length:=Zo;have a0:=Ja (Jb (Jy y hB) r);clear j hx r y l a3;have b0:=lP x2 x4 x5 x7;rcases b0 with rfl|⟨rfl,rfl⟩|⟨rfl,rfl,rfl⟩|⟨rfl,rfl,rfl,rfl⟩|⟨rfl,rfl,rfl,rfl⟩
   all_goals go_enter Try.func98,Try.ntmps98
   all_goals go_wp2_with (first|(go_at_call 105;go_must (refine(HF.out _).mono ?_;rintro e w1 ⟨rfl,d⟩;have c:=zH d (zI rfl) Zs;have u0:∀ob,G (w1.alloc ob) w.heap.size 0 (A 26):=fun ob=>zA (zB c) Zs;have u1:∀ob,G (w1.alloc ob) w.heap.size 1 (A o.res):=fun ob=>zA (zB c) Zs;have u2:∀ob,G (w1.alloc ob) w.heap.size 2 (A k):=fun ob=>zA (zB c) Zs;have u3:∀ob,G (w1.alloc ob) w.heap.size 3 (A o.b):=fun ob=>zA (zB c) Zs;have u4:∀ob,G (w1.alloc ob) w.heap.size 4 (I (o.n:Int)):=fun ob=>zA (zB c) Zs;have u5:∀ob,G (w1.alloc ob) w.heap.size 5 (.slice ar o.args.length cap):=fun ob=>zA (zB c) Zs;have g:=zH d (zB HC.out) Zt;have v0:∀ob,G (w1.alloc ob) C 0 (.slice f1 p.funcs.length f2):=fun ob=>zA (zB g) rfl;have v1:∀ob,G (w1.alloc ob) C 1 (.slice (some ⟨ba,oa,none⟩) p.args.length a2):=fun ob=>zA (zB g) rfl;have v4:∀ob,G (w1.alloc ob) C 4 (.slice d1 p.data.length d2):=fun ob=>zA (zB g) rfl;have m:=((Below.refl w.heap.size w).alloc (Je _) _).trans (d.mono Zs);have v9:∀ob,G (w1.alloc ob) ba (oa+k) (A x):=fun ob=>zV (m.alloc m.size ob) a0.out.1 a0.out.2;clear m;clear c g;have h:=Ja d;clear d))|go_in)
   all_goals go_quiet (fail)
   all_goals go_wp2
   all_goals go_ret
   all_goals exact⟨uz (HR.out.symm.trans rfl),yC ((((Below.refl _ _).alloc (Je _) _).trans (h.out.mono Zs)).alloc (by have t:=h.out.size;simp at t;omega) _)⟩
theorem jo{B:Nat}{V:PV}{p:IProg}(hp:ProgIn w B V p)(hB:B<=w.heap.size)(r:L w C (rC V p++tl).toArray 128)(hl:p.args.length=p.funcs.length)(o:IOp)(ho:qN o)(ar:Option Addr)(cap:Nat)(b5:o.args.length<=cap/\cap<=9223372036854775807)(i:o.code=2):
 Y 98 #[Q C,opV o (.slice ar o.args.length cap)] w (ym w (opF p o)):=by
 unfold opV;obtain⟨_,b2,b7,b6,b3⟩:=ho;have b4:o.args.length<=9223372036854775807:=Zo;obtain⟨Vf,Va,Vd,Vb⟩:=V;obtain⟨f1,f2,e1,a4,a3⟩:=hp.funcs.form;have m:=hp.args;obtain⟨a1,a2,e2,b1,b0⟩:=hp.args.form;obtain⟨d1,d2,e3,a6,a5⟩:=hp.data.form;simp only at e1 e2 e3 m;subst e1 e2 e3;have b8:p.funcs.length<=9223372036854775807:=Zo;have b9:p.data.length<=9223372036854775807:=Zo;clear hp a4 a3 b1 b0 a6 a5;have c0:=lt_of_block r;have hf:∀W,Y 105 #[A 2] W fun e w'=>e=.returned (.tuple #[.agg #[.bool true,.bool false,.bool false,.bool true],.bool true])/\F W w':=fun W=>yu 2 W
 obtain⟨x0,h0⟩:∃q,decide (0<=o.a)=q:=⟨_,rfl⟩
 obtain⟨x1,h1⟩:∃q,decide (0<=o.res)=q:=⟨_,rfl⟩
 obtain⟨x2,h2⟩:∃q,decide (-1<=o.res)=q:=⟨_,rfl⟩
 obtain⟨x3,h3⟩:∃q,decide (o.a<(p.data.length:Int))=q:=⟨_,rfl⟩
 obtain⟨x4,x⟩:∃q,decide (o.b=0)=q:=⟨_,rfl⟩
 obtain⟨x5,h5⟩:∃q,decide (o.n=0)=q:=⟨_,rfl⟩
 obtain⟨x6,u⟩:∃q,decide (o.args.length=0)=q:=⟨_,rfl⟩
 obtain⟨x7,t⟩:∃q,decide ((o.args.length:Int)=p.args.getD o.a.toNat 0)=q:=⟨_,rfl⟩
 have e:opF p o=(x0 && x3 && x1 && x4 && x6):=by
  unfold opF;rw[i];rw[h0,h3,h1,x,u];rfl
 rw[i];obtain⟨R,l⟩:∃R,opF p o=R:=⟨_,rfl⟩
 rw[l];rw[e] at l;have y:=Ja l;have HF:=Ja hf;have HC:=Ja r;have t4:=vg x;have t5:((o.n:Int)==0)=x5:=vg (zZ h5 Zo);have t6:((o.args.length:Int)==0)=x6:=vg (zZ u Zo);clear e l hf x h5 u r
 cases x0 with
 |false=>
  skip
  all_goals go_enter Try.func98,Try.ntmps98
  all_goals go_wp2_with (first|(go_at_call 105;go_must (refine(HF.out _).mono ?_;rintro e w1 ⟨rfl,g⟩;have c:=zH g (zI rfl) Zs;have u0:∀ob,G (w1.alloc ob) w.heap.size 0 (A 2):=fun ob=>zA (zB c) Zs;have u1:∀ob,G (w1.alloc ob) w.heap.size 1 (A o.res):=fun ob=>zA (zB c) Zs;have u2:∀ob,G (w1.alloc ob) w.heap.size 2 (A o.a):=fun ob=>zA (zB c) Zs;have u3:∀ob,G (w1.alloc ob) w.heap.size 3 (A o.b):=fun ob=>zA (zB c) Zs;have u4:∀ob,G (w1.alloc ob) w.heap.size 4 (I (o.n:Int)):=fun ob=>zA (zB c) Zs;have u5:∀ob,G (w1.alloc ob) w.heap.size 5 (.slice ar o.args.length cap):=fun ob=>zA (zB c) Zs;have d:=zH g (zB HC.out) Zt;have v0:∀ob,G (w1.alloc ob) C 0 (.slice f1 p.funcs.length f2):=fun ob=>zA (zB d) rfl;have v1:∀ob,G (w1.alloc ob) C 1 (.slice a1 p.args.length a2):=fun ob=>zA (zB d) rfl;have v4:∀ob,G (w1.alloc ob) C 4 (.slice d1 p.data.length d2):=fun ob=>zA (zB d) rfl;clear c d;have h:=Ja g;clear g))|go_in)
  all_goals go_quiet (fail)
  all_goals go_wp2
  all_goals go_ret
  all_goals exact⟨uz (y.out.symm.trans rfl),yC ((((Below.refl _ _).alloc (Je _) _).trans (h.out.mono Zs)).alloc (by have j:=h.out.size;simp at j;omega) _)⟩
 |true=>
  obtain⟨k,hk⟩:∃k:Nat,o.a=(k:Int):=⟨o.a.toNat,by have:=of_decide_eq_true h0;omega⟩
  rw[hk] at h3 t ⊢;have t0:decide ((0:Int)<=(k:Int))=true:=decide_eq_true Zo;have t3:decide (k<p.data.length)=x3:=zZ h3 Zo
  cases x3 with
  |false=>
   clear t
   all_goals go_enter Try.func98,Try.ntmps98
   all_goals go_wp2_with (first|(go_at_call 105;go_must (refine(HF.out _).mono ?_;rintro e w1 ⟨rfl,g⟩;have c:=zH g (zI rfl) Zs;have u0:∀ob,G (w1.alloc ob) w.heap.size 0 (A 2):=fun ob=>zA (zB c) Zs;have u1:∀ob,G (w1.alloc ob) w.heap.size 1 (A o.res):=fun ob=>zA (zB c) Zs;have u2:∀ob,G (w1.alloc ob) w.heap.size 2 (A k):=fun ob=>zA (zB c) Zs;have u3:∀ob,G (w1.alloc ob) w.heap.size 3 (A o.b):=fun ob=>zA (zB c) Zs;have u4:∀ob,G (w1.alloc ob) w.heap.size 4 (I (o.n:Int)):=fun ob=>zA (zB c) Zs;have u5:∀ob,G (w1.alloc ob) w.heap.size 5 (.slice ar o.args.length cap):=fun ob=>zA (zB c) Zs;have d:=zH g (zB HC.out) Zt;have v0:∀ob,G (w1.alloc ob) C 0 (.slice f1 p.funcs.length f2):=fun ob=>zA (zB d) rfl;have v1:∀ob,G (w1.alloc ob) C 1 (.slice a1 p.args.length a2):=fun ob=>zA (zB d) rfl;have v4:∀ob,G (w1.alloc ob) C 4 (.slice d1 p.data.length d2):=fun ob=>zA (zB d) rfl;clear c d;have h:=Ja g;clear g))|go_in)
   all_goals go_quiet (fail)
   all_goals go_wp2
   all_goals go_ret
   all_goals exact⟨uz (y.out.symm.trans rfl),yC ((((Below.refl _ _).alloc (Je _) _).trans (h.out.mono Zs)).alloc (by have j:=h.out.size;simp at j;omega) _)⟩
  |true=>
   have a0:k<p.data.length:=of_decide_eq_true t3;clear t a0 m;have a7:=jZ x1 x4 x6;rcases a7 with rfl|⟨rfl,rfl⟩|⟨rfl,rfl,rfl⟩|⟨rfl,rfl,rfl⟩
   all_goals go_enter Try.func98,Try.ntmps98
   all_goals go_wp2_with (first|(go_at_call 105;go_must (refine(HF.out _).mono ?_;rintro e w1 ⟨rfl,g⟩;have c:=zH g (zI rfl) Zs;have u0:∀ob,G (w1.alloc ob) w.heap.size 0 (A 2):=fun ob=>zA (zB c) Zs;have u1:∀ob,G (w1.alloc ob) w.heap.size 1 (A o.res):=fun ob=>zA (zB c) Zs;have u2:∀ob,G (w1.alloc ob) w.heap.size 2 (A k):=fun ob=>zA (zB c) Zs;have u3:∀ob,G (w1.alloc ob) w.heap.size 3 (A o.b):=fun ob=>zA (zB c) Zs;have u4:∀ob,G (w1.alloc ob) w.heap.size 4 (I (o.n:Int)):=fun ob=>zA (zB c) Zs;have u5:∀ob,G (w1.alloc ob) w.heap.size 5 (.slice ar o.args.length cap):=fun ob=>zA (zB c) Zs;have d:=zH g (zB HC.out) Zt;have v0:∀ob,G (w1.alloc ob) C 0 (.slice f1 p.funcs.length f2):=fun ob=>zA (zB d) rfl;have v1:∀ob,G (w1.alloc ob) C 1 (.slice a1 p.args.length a2):=fun ob=>zA (zB d) rfl;have v4:∀ob,G (w1.alloc ob) C 4 (.slice d1 p.data.length d2):=fun ob=>zA (zB d) rfl;clear c d;have h:=Ja g;clear g))|go_in)
   all_goals go_quiet (fail)
   all_goals go_wp2
   all_goals go_ret
   all_goals exact⟨uz (y.out.symm.trans rfl),yC ((((Below.refl _ _).alloc (Je _) _).trans (h.out.mono Zs)).alloc (by have j:=h.out.size;simp at j;omega) _)⟩
theorem zM {fn:Func}{p:Tmp}{ty:TypeId}(h:fn.results=#[.cell p ty])(c:Array Value)(P:Program)(w:World):
 (results fn c).run P w=((asAddr (c.getD p undef)).run P w).andThen fun a w₁=>(loadVar ty a).run P w₁:=by
 simp only[results,h];simp[Sem.run_bind,Result.andThen]
structure GMem (V w:World) (bp bh n m:Nat) (R:List (List Int)):Prop where
 hg:w.heap[bh]? =some (.cells #[.slice (some ⟨bp,0,none⟩) n n] 93 (0,0))
 hr:OwnRows zN 3 22 w V.heap.size bp R
 hl:R.length=n
 hrl:∀row∈R,row.length<=m
 hb:Below V.heap.size V w
 gp:V.heap.size<=bp
 gh:V.heap.size<=bh
theorem GMem.start (V:World)(n m:Nat):GMem V ((V.alloc (U (madeCells #[O] n) 22)).alloc (U #[N V.heap.size n n] 93)) V.heap.size (V.heap.size+1) n m (List.replicate n []):=by
 refine⟨zI Zs,OwnRows.made n ?_,by simp,(by intro r hr;rw[(List.mem_replicate.1 hr).2];simp),((Below.refl _ V).alloc (Je _) _).alloc Zs _,Je _,by omega⟩;rw[zB (zI rfl),yA]
theorem GMem.start' (V:World)(b:Nat)(hb:V.heap.size=b)(n m:Nat):GMem V ((V.alloc (U (madeCells #[O] n) 22)).alloc (U #[N b n n] 93)) b (b+1) n m (List.replicate n []):=by
 subst hb;exact GMem.start V n m
theorem GMem.alloc{V:World}{n m:Nat}{R:List (List Int)}(h:GMem V w bp bh n m R)(o:Obj):GMem V (w.alloc o) bp bh n m R:=
 ⟨zB h.hg,h.hr.kept (row:=none) ⟨rfl,rfl,rfl,by simp,fun k hk _=>Below.heap_alloc w o k hk⟩ Zs Zs,h.hl,h.hrl,h.hb.alloc h.hb.size o,h.gp,h.gh⟩
theorem GMem.put{V w2:World}{n m s g c H:Nat}{R:List (List Int)}{row row':List Int}{a:Option Addr}{o:Obj}(h:GMem V w bp bh n m R)(hs:R[s]? =some row)
 (y:G w bp s (.slice a row.length cap)) (hg:(w.alloc o).grownBy w2 (Value.slice a row.length cap).ownBlock)
 (t:w2.ownsRow V.heap.size 3 1 (N g row'.length c) row'.length (row'.map zN)) (a0:(Value.slice a row.length cap).ownBlock=some g∨g=H) (hH:w.heap.size<=H) (hm:row'.length<=m):
 GMem V (w2.setCell ⟨bp,s,none⟩ (N g row'.length c)) bp bh n m (R.set s row'):=by
 obtain⟨h1,h2,h3,a1,u,h5,h6⟩:=h;obtain⟨a',a2,j,d,_⟩:=h2.get hs;rw[y] at j;cases j;have n1:=zC d h1 (.inr Zd);have l:=h2.put Zd hs y hg (row':=row') t a0 hH;have l1:=lt_of_block h1;obtain⟨cc,i⟩:=h2.blk;have x:bh≠bp:=fun e=>by subst e;rw[h1] at i;simp at i
 exact⟨zR (zL hg (zB h1) n1) (by simpa using x),l,by simpa using h3,fun r hr=>by(rcases Qe hr with hr|rfl;exact a1 r hr;exact hm),((u.alloc (by have:=u.size;omega) o).grown hg (by have:=u.size;simp;omega) (fun k hk=>(d.lt k hk).1)).setCell h5 _,h5,h6⟩
section
variable {α:Type} {enc:α->Value} {e eS:TypeId} {w:World} {B bp:Nat} {rows:List (List α)}
theorem OwnRows.base (h:OwnRows enc e eS w B bp rows){B':Nat}(hB:B'<=B):OwnRows enc e eS w B' bp rows:=by
 obtain⟨vs,h1,h2,h3,c⟩:=h;exact⟨vs,h1,h2,fun k r v a b=>vY (h3 k r v a b) hB,c⟩
theorem OwnRows.below(h:OwnRows enc e eS w B bp rows)(hb:F w w'):OwnRows enc e eS w' B bp rows:=by
 obtain⟨vs,h1,h2,h3,c⟩:=h;exact⟨vs,zH hb h1 (lt_of_block h1),h2,fun k r v a b=>p7 (h3 k r v a b) hb (Je _),c⟩
theorem OwnRows.set (h:OwnRows enc e eS w B bp rows){a:Addr}(c:a.block≠bp)(d:a.block<B)(u:Value):OwnRows enc e eS (w.setCell a u) B bp rows:=
 h.kept (w':=w.setCell a u) (row:=some a.block) ⟨rfl,rfl,rfl,by simp[World.setCell],fun k _ hk=>Below.heap_setCell _ _ _ _ (fun e=>hk (by rw[e]))⟩ (fun e=>c (by cases e;rfl)) (fun k hk=>by cases hk;exact d)
end
theorem jV(hv:zw g)(hr:∀x,x<g.length->Reach (GE g) x){c:Nat}(j:c<g.length):
 (pP g c=-1/\∀d,d≠c->wE g d c=false)∨∃c':Nat,pP g c=(c':Int)/\c'<g.length/\(∀d,d≠c->wE g d c'=wE g d c)/\wh (vD g) c'<wh (vD g) c:=by
 rcases idomOf hv c with⟨h1,h2⟩|⟨c',h1,h2,h3,m⟩
 ·exact .inl ⟨h1,fun d hd=>by cases h:wE g d c with|false=>rfl|true=>exact(h2 d hd h).elim⟩
 ·have hb:=(yO hv c' c).1 h3;refine .inr ⟨c',h1,(cA hv h3).1,fun d hd=>?_,?_⟩
  ·rw[Bool.eq_iff_iff];constructor
   ·intro h;have k:=(yO hv d c').1 h;exact(yO hv d c).2 ⟨k.1,hr c j,oZ k.2.2 hb.2.2⟩
   ·intro h;exact(yO hv d c').2 ⟨((yO hv d c).1 h).1,hb.1,m d hd h⟩
  ·obtain⟨ns,i⟩:=adR hv;obtain⟨D,l⟩:=i.dom;rw[i.eq];have hm:=l.dom_mem ((i.mem c).2 (hr c j)) hb.2.2;rcases Nat.lt_or_eq_of_le hm.2 with h|h
   ·exact h
   ·exact absurd (ou i.nodup hm.1 ((i.mem c).2 (hr c j)) h) h2
theorem lC(hv:zw g)(hr:∀x,x<g.length->Reach (GE g) x){c:Nat}(d:c<g.length):wE g c c=true:=(yO hv c c).2 ⟨hr c d,hr c d,rF _ _⟩
def nS (g:List (List Nat))(db i:Nat)(x:Int):Prop:=(x=-1/\wE g db i=false)∨∃c:Nat,x=(c:Int)/\c<g.length/\wE g db c=wE g db i
def oQ (g:List (List Nat))(x:Int):Nat:=if x=-1 then 0 else wh (vD g) x.toNat+1
theorem lT(hv:zw g)(hr:∀x,x<g.length->Reach (GE g) x){db c:Nat}(j:c<g.length)(h:wE g db c=wE g db i)(d:c≠db):
 ∃y,(wQ g)[c]? =some y/\nS g db i y/\oQ g y<oQ g c:=by
 refine⟨pP g c,by unfold wQ;rw[Jr,Oh j];rfl,?_⟩;rcases jV hv hr j with⟨h1,h2⟩|⟨c',h1,h2,h3,k⟩
 ·rw[h1];refine⟨.inl ⟨rfl,by rw[<-h];exact h2 db (Ne.symm d)⟩,?_⟩;unfold oQ;rw[if_pos rfl,if_neg Zo];omega
 ·rw[h1];refine⟨.inr ⟨c',rfl,h2,by rw[h3 db (Ne.symm d)];exact h⟩,?_⟩;unfold oQ;rw[if_neg Zo,if_neg Zo,Ni,Ni];omega
theorem j8 (g:List (List Nat)):(wQ g).length=g.length:=by simp[wQ]
theorem case_dfd:∀q1 q2:Bool,(q1=true/\q2=true)∨(q1=true/\q2=false)∨(q1=false)
 |true,true=> .inl ⟨rfl,rfl⟩
 |true,false=> .inr (.inl ⟨rfl,rfl⟩)
 |false,_=> .inr (.inr rfl)
theorem qI{m1 m2 n:Nat}{pv:List Value}{e2 b7:Value}{d:wO}(hc:ChkAt w C m1 m2 pv e2 b7 n d)(hv:zw g)(hr:∀x,x<g.length->Reach (GE g) x)(e6:g.length<=2000000)
 (a4:zY w w.heap.size b7 (wQ g)) (hd:∀v b,d.1 v=some b->0<=b/\b.toNat<g.length) {l:List Int} {lv:Value} (hl:zY w w.heap.size lv l) (i:Nat) (hi:i<g.length) (k:Int) (hk:I64 k):
 Y 69 #[Q C,lv,A i,A k] w (ym w (l.all (yy d g i k))):=by
 obtain⟨la,lc,rfl,d5,d4⟩:=hl.form;obtain⟨da,dc,rfl,c5,d6⟩:=a4.form;rw[j8] at a4 c5 hc;have e5:l.length<=9223372036854775807:=Zo;obtain⟨hb,d2,c4,c3,d3,b2⟩:=hc
 obtain⟨p0,p1,p2,p3,p4,p5,rfl⟩:∃a b c d e f,pv=[a,b,c,d,e,f]:=by
  match pv,d2 with
  | [a,b,c,d,e,f],_=>exact⟨a,b,c,d,e,f,rfl⟩
 have e8:G w C 7 (.map (some m1)):=zA hb rfl;have e7:G w C 8 (.map (some m2)):=zA hb rfl;have e9:G w C 9 (.slice da g.length dc):=zA hb rfl;have t:=Ja (show wA w m1 n d.1/\wA w m2 n d.2/\(∀x,(d.1 x).isSome=(d.2 x).isSome)/\zw g/\(∀x,x<g.length->Reach (GE g) x)/\(∀v b,d.1 v=some b->0<=b/\b.toNat<g.length)/\i<g.length from⟨c4,c3,b2,hv,hr,hd,hi⟩);have HL:=Ja (show zY w w.heap.size (.slice la l.length lc) l/\zY w w.heap.size (.slice da g.length dc) (wQ g) from⟨hl,a4⟩);obtain⟨res,a0⟩:∃x,l.all (yy d g i k)=x:=⟨_,rfl⟩
 rw[a0];have r:=Ja a0;clear a0 hb c4 c3 d3 b2 hv hr hd hi hl a4 d5 d4 c5 d6;go_enter Try.func69,Try.ntmps69;generalize e1:w=W0 at *;clear e1;go_wp2
 go_loopw [16] (fun jv wx=>∃j:Nat,j<=l.length/\jv=A j/\wx=W0/\Hid ((l.take j).all (yy d g i k)=true)) (fun jv _=>l.length-(intOf jv).toNat)
 case atStart=>exact⟨0,Jt _,rfl,rfl,by rfl⟩
 case round=>
  obtain⟨j,hj,rfl,rfl,HJ⟩:=hrel;generalize e0:wr=W0 at *;clear e0
  by_cases a3:j<l.length
  ·have c8:(j:Int)<l.length:=Zo;have c7:=Ja a3;obtain⟨v,a2⟩:∃v,l[j]? =some v:=⟨_,Jd a3⟩
   obtain⟨b,o,rfl,hb,b6,a6⟩:=HL.out.1.get a2;rw[Nk] at b6;have a7:=t.out.1.lookOk a6;have b0:=t.out.2.1.look a6;have HT:=Ja (show(l.take (j+1)).all (yy d g i k)=((l.take j).all (yy d g i k) && yy d g i k v)/\(yy d g i k v=false->l.all (yy d g i k)=false) from⟨xX _ a2,fun h=>aaN _ a2 h⟩);clear a2 hb a3
   cases h1:d.1 v with
   |none=>
    rw[h1] at a7;have HN:=Ja (show yy d g i k v=false by unfold yy;rw[h1]);clear h1 b0;go_wp2;go_ret
    exact⟨uz (r.out.symm.trans (HT.out.2 HN.out)),Below.refl _ _⟩
   |some bz=>
    obtain⟨az,h2⟩:∃a,d.2 v=some a:=by
     have:=t.out.2.2.1 v;rw[h1] at this
     cases h:d.2 v with
     |none=>rw[h] at this;cases this
     |some a=>exact⟨a,rfl⟩
    obtain⟨d9,b5⟩:=t.out.2.2.2.2.2.1 v bz h1;obtain⟨db,rfl⟩:∃m:Nat,bz=(m:Int):=⟨bz.toNat,by omega⟩
    rw[Ni] at b5;rw[h1] at a7;rw[h2] at b0;simp only[Ot,Option.isSome_some] at a7 b0;have b1:yy d g i k v=(!(decide ((db:Int)=(i:Int)) && decide (k<=az)) && wE g db i):=by unfold yy;rw[h1,h2];rfl
    obtain⟨q1,u⟩:∃q,decide ((db:Int)=(i:Int))=q:=⟨_,rfl⟩
    obtain⟨q2,d1⟩:∃q,decide (k<=az)=q:=⟨_,rfl⟩
    rw[u,d1] at b1;have t1:(db==i)=q1:=by rw[<-u];simp only[Bool.beq_eq_decide_eq,Int.natCast_inj]
    have d0:((db:Int)==(i:Int))=q1:=vg u;have c9:decide (db=i)=q1:=zZ u Zo;have HK:=Ja (show yy d g i k v=(!(q1 && q2) && wE g db i)/\db<g.length from⟨b1,b5⟩);clear h1 h2 b1 d9 b5 u;rcases case_dfd q1 q2 with⟨rfl,rfl⟩|⟨rfl,rfl⟩|rfl
    ·have HN:=Ja (show yy d g i k v=false from HK.out.1);go_wp2;go_ret;exact⟨uz (r.out.symm.trans (HT.out.2 HN.out)),Below.refl _ _⟩
    all_goals (
     have HN:=Ja (show yy d g i k v=wE g db i from by rw[HK.out.1];rfl);have e3:=Ja (show nS g db i (i:Int) from .inr ⟨i,rfl,t.out.2.2.2.2.2.2,rfl⟩);go_wp2
     go_loopw [13] (fun xv wx=>∃x:Int,xv=A x/\W0=wx/\Hid (nS g db i x)) (fun xv _=>oQ g (intOf xv))
     case atStart=>exact⟨_,rfl,rfl,e3⟩
     case round=>
      obtain⟨x,rfl,rfl,HX⟩:=hrel;rcases HX.out with⟨rfl,c2⟩|⟨c,rfl,b3,a5⟩
      ·have u1:((-1:Int) !=(db:Int))=true:=by rw[bne_iff_ne];omega
       have HF:=Ja (HN.out.trans c2);clear c2;go_wp2;go_ret;exact⟨uz (r.out.symm.trans (HT.out.2 HF.out)),Below.refl _ _⟩
      ·by_cases b4:c=db
       ·subst b4;have HY:=Ja (show yy d g i k v=true by rw[HN.out,<-a5];exact lC t.out.2.2.2.1 t.out.2.2.2.2.1 b3);have u1:((c:Int) !=(c:Int))=false:=by rw[bne_eq_false_iff_eq]
        clear a5 b3 t1 d0 c9;go_wp2;go_roundw
        case rel=>exact⟨j+1,c7.out,by go_num,by trivial,Ja (by rw[HT.out.1,HJ.out,HY.out];rfl)⟩
        case measure=>have:=c7.out;simp[intOf];omega
       ·have u1:((c:Int) !=(db:Int))=true:=by rw[bne_iff_ne];omega
        have u2:((c:Int) !=-1)=true:=by rw[bne_iff_ne];omega
        obtain⟨y,hy,c0,b8⟩:=lT t.out.2.2.2.1 t.out.2.2.2.2.1 b3 a5 b4;obtain⟨b9,o9,rfl,d8,d7,_⟩:=HL.out.2.get hy;rw[Nk] at d7;have HY:=Ja (Jb c0 b8);have e4:(c:Int)<g.length:=Zo;clear a5 b4 hy c0 b8 d8;go_wp2;go_roundw
        case rel=>exact⟨y,rfl,by trivial,Ja HY.out.1⟩
        case measure=>have:=HY.out.2;simpa[intOf] using this)
  ·obtain rfl:j=l.length:=by omega
   have c8:¬(l.length:Int)<l.length:=Zo;have a1:=HJ.out;rw[Nl] at a1;have HA:=Ja a1;clear a3 a1;go_wp2;go_ret;exact⟨uz (r.out.symm.trans HA.out),Below.refl _ _⟩
end Go.Proofs.Ytojclalkfhoooaa
set_option maxRecDepth 8000
namespace Go.Proofs.Ytojclalkfhoooaa
open Go.RowKit
variable {K:MK}{W W' w w':World}{Bi Bn Bv C bh bi bp cap i k on op r vb vn x:Nat}{m m':Mach}{c d oa ob:Int}{idom xs:List Int}{tl:List Value}{g:List (List Nat)}{ds:List Deferred}
theorem dN:∀ {seen:List Bool} {n:Nat},seen[n]? =some false->ey (seen.set n true)+1=ey seen
 | [],n,h=>by simp at h
 |b::l,0,h=>by simp at h;subst h;simp[ey]
 |b::l,n+1,h=>by
  have:=dN (seen:=l) (n:=n) (by simpa using h);unfold ey at this ⊢;cases b<;>simp at this ⊢<;>omega
end Go.Proofs.Ytojclalkfhoooaa
set_option maxRecDepth 8000
namespace Go.Proofs.Ytojclalkfhoooaa
variable {K:MK}{W W' w w':World}{Bi Bn Bv C bh bi bp cap i k on op r vb vn x:Nat}{m m':Mach}{c d oa ob:Int}{idom xs:List Int}{tl:List Value}{g:List (List Nat)}{ds:List Deferred}
theorem bB (out:Int)(st:List Bool×List Nat)(s:Nat):(ua out st s).1.length=st.1.length/\(ua out st s).2.length+ey (ua out st s).1=st.2.length+ey st.1:=by
 unfold ua
 by_cases h:(s:Int)≠out/\st.1[s]? =some false
 ·rw[if_pos h];have:=dN h.2;refine⟨by simp,?_⟩;simp only[Jk,Ju];omega
 ·rw[if_neg h];exact⟨rfl,rfl⟩
theorem dS (out:Int):∀(l:List Nat) (st:List Bool×List Nat),(l.foldl (ua out) st).1.length=st.1.length/\(l.foldl (ua out) st).2.length+ey (l.foldl (ua out) st).1=st.2.length+ey st.1
 | [],_=>⟨rfl,rfl⟩
 |s::l,st=>by
  have h1:=bB out st s;have h2:=dS out l (ua out st s);rw[Qk];omega
end Go.Proofs.Ytojclalkfhoooaa
set_option maxRecDepth 8000
namespace Go.Proofs.Ytojclalkfhoooaa
open Go.RowKit Go.Shelf
variable {K:MK}{W W' w w':World}{Bi Bn Bv C bh bi bp cap i k on op r vb vn x:Nat}{m m':Mach}{c d oa ob:Int}{idom xs:List Int}{tl:List Value}{g:List (List Nat)}{ds:List Deferred}
attribute [local go_sem] Oper.semAt_some
theorem wi.snoc {idom:List Int}{f:Int->Int}{p:Nat}:∀ {ps:List Nat} {d d1 d2:Int},wi idom f ps d d1->mJ idom f p d1 d2->wi idom f (ps++ [p]) d d2
 | [],d,d1,d2,h,h2=>by cases h;exact⟨d2,h2,rfl⟩
 |q::ps,d,d1,d2,⟨d0,h0,h⟩,h2=>⟨d0,h0,wi.snoc h h2⟩
theorem UpN.unique {c:List Int}{f:Int->Int}{t:Int}:∀ {k k2 a r r2:Nat},UpN c f t k a r->UpN c f t k2 a r2->r=r2
 |0,0,_,_,_,h,h2=>h.2.trans h2.2.symm
 |0,_+1,_,_,_,h,h2=>absurd h2.1 h.1
 |_+1,0,_,_,_,h,h2=>absurd h.1 h2.1
 |k+1,k2+1,a,r,r2,⟨_,a1,_,h,h3⟩,⟨_,a2,_,h2,h4⟩=>by
  obtain rfl:a1=a2:=by rw[h] at h2;exact Int.ofNat_inj.1 (Nt h2)
  exact UpN.unique h3 h4
theorem qZ.unique {c:List Int}{f:Int->Int}:∀ {k k2 a b r r2:Nat},qZ c f k a b r->qZ c f k2 a b r2->r=r2
 |0,0,_,_,_,_,h,h2=>h.2.trans h2.2.symm
 |0,_+1,_,_,_,_,h,h2=>absurd h.1 h2.1
 |_+1,0,_,_,_,_,h,h2=>absurd h2.1 h.1
 |k+1,k2+1,a,b,r,r2,⟨_,j,a1,h1,j',b1,h2,h3⟩,⟨_,i,a2,g1,i',b2,g2,g3⟩=>by
  obtain rfl:=UpN.unique h1 g1;obtain rfl:=UpN.unique h2 g2;exact qZ.unique h3 g3
theorem mJ.unique{c:List Int}{f:Int->Int}{p:Nat}{d1 d2:Int}(h:mJ c f p d d1)(h2:mJ c f p d d2):d1=d2:=by
 obtain⟨x,j,h⟩:=h;obtain⟨y,g,h2⟩:=h2;obtain rfl:x=y:=by rw[j] at g;simpa using g
 rcases h with⟨a,rfl⟩|⟨a,b,rfl⟩|⟨a,dn,rfl,_,k,r,hm,rfl⟩<;>rcases h2 with⟨a',e⟩|⟨a',b',e⟩|⟨a',dn',e0,_,k',r',i,e⟩
 ·exact e.symm
 ·exact absurd a a'
 ·exact absurd a a'
 ·exact absurd a' a
 ·exact e.symm
 ·omega
 ·exact absurd a' a
 ·omega
 ·obtain rfl:dn=dn':=by omega
  rw[e,qZ.unique hm i]
theorem wi.unique {c:List Int}{f:Int->Int}:∀ {ps:List Nat} {d d1 d2:Int},wi c f ps d d1->wi c f ps d d2->d1=d2
 | [],_,_,_,h,h2=>h.trans h2.symm
 |p::ps,d,d1,d2,⟨e,h,h'⟩,⟨e2,g,g'⟩=>by
  obtain rfl:=h.unique g;exact wi.unique h' g'
structure DomMem (w W:World) (bv Bi bi n:Nat) (idom:List Int):Prop where
 hv:W.heap[w.heap.size]? =some (.cells #[.pointer (some ⟨bv,0,none⟩)] 160 (0,0))
 hi:W.heap[Bi]? =some (.cells #[.slice (some ⟨bi,0,none⟩) n n] 22 (0,0))
 hm:W.heap[Bi+1]? =some (.cells #[.func (.func 121) #[] #[.pointer (some ⟨w.heap.size,0,none⟩),.pointer (some ⟨Bi,0,none⟩)]] 190 (0,0))
 hr:W.heap[bi]? =some (.cells (idom.map (Value.int .i64)).toArray 3 (0,0))
 hl:idom.length=n
 hb:Below w.heap.size w W
 lt:w.heap.size<bi/\bi<Bi
theorem DomMem.kept{bv n:Nat}{row:Option Nat}(h:DomMem w W bv Bi bi n idom)(hg:W.grownBy W' row)
 (c:∀r,row=some r->w.heap.size<r/\r≠bi/\r≠Bi/\r≠Bi+1):DomMem w W' bv Bi bi n idom:=by
 obtain⟨hv,hi,hm,hr,hl,hb,lt⟩:=h;refine⟨zL hg hv (fun e=>by have:=c _ e;omega),zL hg hi (fun e=>(c _ e).2.2.1 rfl),zL hg hm (fun e=>(c _ e).2.2.2 rfl),zL hg hr (fun e=>(c _ e).2.1 rfl),hl,hb.grown hg hb.size (fun k hk=>?_),lt⟩;have:=c _ hk;omega
theorem DomMem.own{bv n:Nat}{row:Option Nat}(h:DomMem w W bv Bi bi n idom)(hg:W.grownBy W' row)
 (c:∀r,row=some r->∃o:Obj,W.heap[r]? =some o/\o.isCells=false) (hB:∀r,row=some r->w.heap.size<=r):DomMem w W' bv Bi bi n idom:=by
 refine h.kept hg (fun r e=>?_);obtain⟨o,ho,d⟩:=c r e
 have aux:∀ {b:Nat} {cs:Array Value} {t:TypeId},L W b cs t->r≠b:=by
  rintro b cs t hb rfl;rw[hb] at ho;cases ho;cases d
 exact⟨Nat.lt_of_le_of_ne (hB r e) (Ne.symm (aux h.hv)),aux h.hr,aux h.hi,aux h.hm⟩
theorem DomMem.set{bv n:Nat}{c:List Int}(h:DomMem w W bv Bi bi n c)(k:Nat)(d:Int):DomMem w (W.setCell ⟨bi,k,none⟩ (A d)) bv Bi bi n (c.set k d):=by
 obtain⟨hv,hi,hm,hr,hl,hb,lt⟩:=h;refine⟨zR hv Zt,zR hi Zt,zR hm Zt,?_,by simpa using hl,hb.setCell Zt _,lt⟩;rw[zD hr];simp
def oh (B:Nat)(W:World)(ds:List Deferred):Prop:=
 ∃Ds:List Nat,ds=Ds.map (fun D=> {target:=.collected D,args:=#[]})/\Ds.Nodup/\∀D∈Ds,B<=D/\W.heap[D]? =some (.deferred (some []))
theorem oh.keeps{B:Nat}(h:oh B W ds)(hk:KeepsFrom 0 W W'):oh B W' ds:=by
 obtain⟨Ds,rfl,h1,h2⟩:=h;exact⟨Ds,rfl,h1,fun D hD=>⟨(h2 D hD).1,hk.same D _ (Jt _) (h2 D hD).2 rfl⟩⟩
theorem oh.push{B:Nat}{W0:World}{D:Nat}(h:oh B W0 ds)(hk:KeepsFrom 0 W0 W)(g:W0.heap.size<=D)(hB:B<=D)(d:W.heap[D]? =some (.deferred (some []))):
 oh B W ({target:=.collected D,args:=#[]}::ds):=by
 obtain⟨Ds,rfl,h1,h2⟩:=h;refine⟨D::Ds,rfl,Qt.2 ⟨fun hm=>?_,h1⟩,fun E c=>?_⟩
 ·have:=(Array.getElem?_eq_some_iff.1 (h2 D hm).2).1;omega
 ·rcases Jq.1 c with rfl|c
  ·exact⟨hB,d⟩
  ·exact⟨(h2 E c).1,hk.same E _ (Jt _) (h2 E c).2 rfl⟩
theorem sr {F:Fence}{m:Nat}{P:Program}{fn:Func}{c:Array Value}{R:Ending->World->Prop}(B:Nat)(G:World->Prop)
 (g:∀W D,B<=D->W.heap[D]? =some (.deferred (some []))->G W->G (W.putObj D (.deferred none))) (d:∀W,G W->LeavesIn F m P fn c R [] .returning W):
 ∀(Ds:List Nat) (W:World),Ds.Nodup->(∀D∈Ds,B<=D/\W.heap[D]? =some (.deferred (some [])))->G W->LeavesInM F m P fn c R (Ds.map (fun D=> {target:=.collected D,args:=#[]})) .returning W
 | [],W,_,_,h=>d W h
 |D::Ds,W,hn,hd,h=>by
  have hD:=hd D Zs;refine⟨by simp,.inl ⟨D,_,rfl,run_takeDeferred hD.2,?_⟩⟩;refine sr B G g d Ds _ (Qt.1 hn).2 (fun E hE=>⟨(hd E (by simp[hE])).1,?_⟩) (g W D hD.1 hD.2 h);rw[World.putObj_heap_other (by rintro rfl;exact(Qt.1 hn).1 hE)];exact(hd E (by simp[hE])).2
theorem _root_.Go.KeepsFrom.from0(h:KeepsFrom 0 W W')(B:Nat):KeepsFrom B W W':=⟨h.size,fun k o _ hk ho=>h.same k o (Jt _) hk ho⟩
theorem uh (W:World)(o:Obj):KeepsFrom 0 W (W.alloc o):=⟨by simp,fun k o' _ hk _=>(Below.heap_alloc _ _ _ (Array.getElem?_eq_some_iff.1 hk).1).trans hk⟩
theorem uu{b:Nat}{cs:Array Value}{t:TypeId}(h:L W b cs t)(v:Value):KeepsFrom 0 W (W.setCell ⟨b,i,none⟩ v):=
 ⟨by simp,fun k o _ hk hc=>(Below.heap_setCell _ _ _ k (fun e=>by subst e;rw[h] at hk;cases hk;cases hc)).trans hk⟩
theorem uW (W:World)(n:Nat):KeepsFrom 0 W (W.drewN n):=⟨Je _,fun _ _ _ h _=>h⟩
theorem oH{w1:World}{bv n:Nat}(h:L w1 (w.heap.size+2) (List.replicate n (A (-1))).toArray 3/\F w w1/\L w1 w.heap.size #[Q bv] 160)
 (d:w.heap.size+2<w1.heap.size) (h1:1<=n):
 DomMem w (((w1.setCell ⟨w.heap.size+2,0,none⟩ (A 0)).alloc (U #[N (w.heap.size+2) n n] 22)).alloc (U #[.func (.func 121) #[] #[Q w.heap.size,Q w1.heap.size]] 190))
  bv w1.heap.size (w.heap.size+2) n ((0:Int)::List.replicate (n-1) (-1)):=by
 obtain⟨hr,hb,hv⟩:=h;have c:=zD (i:=0) hr (A 0);refine⟨zB (zB (zR hv Zs)),zB (zI Zs),zI Zs,?_,by simp;omega,?_,by omega,d⟩
 ·rw[zB (zB c)];obtain⟨m,rfl⟩:∃m,n=m+1:=⟨n-1,by omega⟩
  simp[Qz]
 ·exact((hb.setCell Zs _).alloc Zt _).alloc Zt _
theorem vA{b:Nat}{a:Addr}(h:a.block≠b)(u:Value):(W.setCell ⟨b,i,none⟩ u).cell? a=W.cell? a:=by
 have:(W.setCell ⟨b,i,none⟩ u).heap[a.block]? =W.heap[a.block]?:=Below.heap_setCell _ _ _ _ h;unfold World.cell?;rw[this]
theorem aaT.keptObj{n:Nat}{xs:List Nat}{bv len:Nat}{ar:Option Addr}{g:Nat}{row:Option Nat}(h:aaT Bv Bn n xs bv bp op len cap ar g W)(hg:W.grownBy W' row)
 (d:∀r,row=some r->∃o:Obj,W.heap[r]? =some o/\o.isCells=false):aaT Bv Bn n xs bv bp op len cap ar g W':=by
 obtain⟨c1,c2,c3,i,c4,k⟩:=h;refine⟨cell_kept c1 hg d,cell_kept c2 hg d,cell_kept c3 hg d,i,cell_kept c4 hg d,fun j x hj=>?_⟩;obtain⟨b,o,e,c⟩:=k j x hj;exact⟨b,o,e,cell_kept c hg d⟩
theorem aaT.set{n:Nat}{xs:List Nat}{bv len:Nat}{ar:Option Addr}{d:Nat}{Bd:Nat}(h:aaT Bv Bn n xs bv bp op len cap ar d W)(u:Value)
 (h1:Bv≠Bd) (h2:Bn≠Bd) (h3:bv≠Bd) (l:bp≠Bd) (k:∀(j x:Nat),xs[j]? =some x->∀a,ar=some a->a.block≠Bd):aaT Bv Bn n xs bv bp op len cap ar d (W.setCell ⟨Bd,0,none⟩ u):=by
 obtain⟨c1,c2,c3,g,c4,i⟩:=h;refine⟨(vA h1 u).trans c1,(vA h2 u).trans c2,(vA h3 u).trans c3,g,(vA l u).trans c4,fun j x hj=>?_⟩;obtain⟨b,o,e,c⟩:=i j x hj;exact⟨b,o,e,(vA (a:=⟨b,o+j,none⟩) (k j x hj ⟨b,o,none⟩ e) u).trans c⟩
theorem jt{bv:Nat}{k:List Nat}{f:Int->Int}{c:List (List Nat)}(r:oN w C bv k f c)(hb:Below C w W){pr:List Nat}(g:c[x]? =some pr)
 (c1:G W Bv 0 (Q bv)) (c2:G W Bn 0 (A x)):
 ∃bp op len cap ar capr,aaT Bv Bn x pr bv bp op len cap ar capr W/\bp<C/\∀(j y:Nat),pr[j]? =some y->∀a,ar=some a->a.block<C:=by
 obtain⟨ov,bm,pv,nm,e0,e1,e2,ho,hm,t,hp,hl⟩:=r;obtain⟨a,cap,rfl,m⟩:=hp.form;obtain⟨b,o,a2,i,rfl,h,d,u,l⟩:=hp.row g;refine⟨b,o,c.length,cap,a2,i,⟨c1,c2,(hb.cell (p:=⟨bv,2,none⟩) hl).trans e2,(Jh.1 g).1,(hb.cell (p:=⟨b,o+x,none⟩) h).trans d,fun j y hj=>?_⟩,h,fun j y hj a e=>?_⟩
 ·obtain⟨b2,o2,e,hB,d⟩:=l j y hj;exact⟨b2,o2,e,(hb.cell (p:=⟨b2,o2+j,none⟩) hB).trans d⟩
 ·obtain⟨b2,o2,e2,hB,d⟩:=l j y hj;rw[e2] at e;cases e;exact hB
theorem qQ (w:World)(C bv n:Nat)(k3:List Nat)(f:Int->Int)(a0:List (List Nat))(hC:C<=w.heap.size)(hV:oN w C bv k3 f a0)(h1:1<=n)(hn:n<=2000000)
 (ns:List Nat) (n1:k3=0::ns) (k9:∀x∈ns,x<n) (o2:ns.length<=2000000) (hpl:a0.length=n) (k6:∀row∈a0,row.length<=4000004000000) (k0:Nat) (idom':List Int) (hD:ip a0 f ns k0 ((0:Int)::List.replicate (n-1) (-1)) idom'):
 Calls Try.prog 102 #[Q bv,A n] w fun e w'=>∃g,e=.returned (N g n n)/\w.heap.size<=g/\L w' g (idom'.map (Value.int .i64)).toArray 3/\F w w':=by
 have HV:=Ja hV;have HD:=Ja hD;have HN:=Ja k9;have o0:=Ja k6;clear hV hD k9 k6;refine(callsIn_wide (n:=100)).1 (callsIn_of_wp_marks Try.func102 rfl trivial ?_ rfl);simp only[Try.ntmps102,List.size_toArray,Nq,Ow,Nat.reduceAdd,Nat.reduceSub,Array.replicate_succ,Array.replicate_zero,List.push_toArray,List.append_toArray,Op,List.cons_append];refine wpIn_wide.2 ?_
 have i2:∀W:World,W=(w.alloc (U #[Q bv] 160)).alloc (U #[A (-1)] 3)->Calls Try.prog 120 #[N (w.heap.size+1) 1 1,A n] W fun e w1=>
  e=.returned (N (w.heap.size+2) n n)/\G w1 (w.heap.size+2) 0 (A (-1))/\T w1 (w.heap.size+2) 0/\w.heap.size+2<w1.heap.size/\Hid (L w1 (w.heap.size+2) (List.replicate n (A (-1))).toArray 3/\F w w1/\L w1 w.heap.size #[Q bv] 160):=by
  rintro W rfl;have m5:((w.alloc (U #[Q bv] 160)).alloc (U #[A (-1)] 3)).heap.size=w.heap.size+2:=by simp
  have hb:F w ((w.alloc (U #[Q bv] 160)).alloc (U #[A (-1)] 3)):=((Below.refl _ _).alloc (Je _) _).alloc Zs _;refine(lr _ (w.heap.size+1) 0 1 n (zA (zI Zs) Zs) h1 Zo).mono ?_;rintro e w1 ⟨rfl,hr,i6⟩;rw[m5] at hr i6 ⊢;exact⟨rfl,zA hr (by rw[List.getElem?_toArray,Nm,if_pos Zo]),zE hr,lt_of_block hr,hr,hb.trans (i6.mono Zo),zH i6 (zB (zI rfl)) Zo⟩
 have c3:∀(w1:World) (a:Addr) (u:Value) (o:Obj),(((w1.setCell a u).alloc o).alloc (U #[.nilFunc] 190)).cell? ⟨w1.heap.size+1,0,none⟩=some .nilFunc:=fun w1 a u o=>zA (zI Zs) Zs
 have f3:∀(w1:World) (a:Addr) (u:Value) (o:Obj),T (((w1.setCell a u).alloc o).alloc (U #[.nilFunc] 190)) (w1.heap.size+1) 0:=fun w1 a u o=>zE (zI Zs)
 go_wp2_with (go_at_call 120;go_must (refine(i2 _ rfl).mono ?_;rintro e w1 ⟨rfl,c0,f0,m0,HW⟩))
 refine wp_loop_ghost (fun k a W=>∃(ch:Bool) (ds:List Deferred),∃u9 h0 g9 g6 g5 g4 g3 g2 k1 j5 j4 g1 g0 f9 f8 f7 f6 f5 f4 f2 f1 e9 e8 e7 e6 e5 e4 e3 d9 d8 d7 d6 d5 d4 d3 d2 c9 c8 c7 c5 c4 c2 b9 b8:Value,a= {tmps:=#[.pointer (some ⟨bv,0,none⟩),A n,.pointer (some ⟨w.heap.size,0,none⟩),undef,.slice none 0 0,.pointer (some ⟨w1.heap.size,0,none⟩),.pointer (some ⟨w1.heap.size+1,0,none⟩),.bool ch,undef,u9,h0,g9,.slice (some ⟨w.heap.size+1,0,none⟩) 1 1,A n,.slice (some ⟨w.heap.size+2,0,none⟩) n n,.slice (some ⟨w.heap.size+2,0,none⟩) n n,.pointer (some ⟨w.heap.size+2,0,none⟩),.func (.func 121) #[] #[.pointer (some ⟨w.heap.size,0,none⟩),.pointer (some ⟨w1.heap.size,0,none⟩)],g6,g5,g4,g3,g2,k1,j5,j4,g1,g0,f9,f8,f7,f6,f5,f4,f2,f1,e9,e8,e7,e6,e5,e4,e3,d9,d8,d7,d6,d5,d4,d3,d2,c9,c8,c7,c5,c4,c2,b9,b8],defers:=ds }/\oh w.heap.size W ds/\∃idom,DomMem w W bv w1.heap.size (w.heap.size+2) n idom/\((ch=true/\ip a0 f ns k idom idom')∨(ch=false/\idom=idom'))) k0 ?_ ?_
 ·refine⟨true,[],_,_,_,_,_,_,_,_,_,_,_,_,_,_,_,_,_,_,_,_,_,_,_,_,_,_,_,_,_,_,_,_,_,_,_,_,_,_,_,_,_,_,_,_,rfl,⟨[],rfl,List.nodup_nil,by simp⟩,_,oH HW.out m0 h1,.inl ⟨rfl,HD.out⟩⟩
 clear HD HW c0 f0 c3 f3 i2;rintro k a W ⟨ch,ds,u9,h0,g9,g6,g5,g4,g3,g2,k1,j5,j4,g1,g0,f9,f8,f7,f6,f5,f4,f2,f1,e9,e8,e7,e6,e5,e4,e3,d9,d8,d7,d6,d5,d4,d3,d2,c9,c8,c7,c5,c4,c2,b9,b8,rfl,hM,idom,h4,l4⟩;have HM:=Ja hM;have t:=Ja h4;have j0:=Ja l4;clear hM h4 l4;have cI:=cell_of_one t.out.hi;have cV:=cell_of_one t.out.hv
 cases ch with
 |false=>
  go_wp2;obtain⟨Ds,rfl,hnd,n3⟩:=HM.out;obtain rfl:idom=idom':=j0.out.elim (fun h=>Bool.noConfusion h.1) (fun h=>h.2);refine sr w.heap.size (fun W=>L W (w.heap.size+2) (idom.map (Value.int .i64)).toArray 3/\F w W) ?_ ?_ Ds W hnd n3 ⟨t.out.hr,t.out.hb⟩
  ·rintro W D hB hd ⟨h1,h2⟩;exact⟨zL (grownBy_putObj' W D _) h1 (by rintro e;cases e;rw[h1] at hd;cases hd),h2.grown (grownBy_putObj' W D _) h2.size (by rintro k e;cases e;exact hB)⟩
  ·rintro W ⟨h1,h2⟩
   exact⟨_,results_tmp rfl _ _ _,_,rfl,by omega,h1,h2⟩
 |true=>
  have n9:=HV.out;obtain⟨ov,bm,pv,nm,e0,e1,e2,ho,hm,p2,hp,hl⟩:=n9;obtain⟨aO,capO,rfl,n5,h9⟩:=ho;subst n1;obtain⟨b,o,rfl,q1,n6⟩:=h9 0 0 rfl;simp only[Nq] at n5 e0;have HX:=Ja h9;clear e2 hm hp h9 n6 e1;have e0:=(t.out.hb.cell (p:=⟨bv,0,none⟩) (show bv<w.heap.size by omega)).trans e0;have l1:1<=capO:=Zo;go_upto_region 7 with fail
  go_cut [23,24,25] from 18 to 25 (fun s l i wx=>wx=W/\l=A (ns.length:Int)/\i=A 0/\∃o' c',s=.slice (some ⟨b,o',none⟩) ns.length c'/\Hid (0<ns.length->o'=o+1))
  case first=>
   go_wp2
   all_goals go_meet
   ·exact⟨rfl,rfl,rfl,_,_,rfl,by unfold Hid;intro h;omega⟩
   ·exact⟨rfl,rfl,rfl,_,_,rfl,fun _=>rfl⟩
  case rest=>
   obtain⟨rfl,rfl,rfl,o',c',rfl,HO⟩:=hcut
   obtain⟨k,i1,h5,a3,h7,rfl⟩:∃k2 i1 h5,ny a0 f ns idom false i1 h5/\((h5=false/\idom'=i1)∨(h5=true/\ip a0 f ns k2 i1 idom'))/\k=k2+1:=by
    rcases j0.out with⟨_,h⟩|⟨h,_⟩
    ·cases k with
     |zero=>exact h.elim
     |succ k=>obtain⟨i1,ch,h1,h2⟩:=h;exact⟨k,i1,ch,h1,h2,rfl⟩
    ·cases h
   have a5:=Ja a3;have j3:=Ja h7;clear a3 h7 j0 cI cV;go_wp2;refine wp_loop_ghost (fun k a W=>∃(i:Nat) (ch:Bool) (ds:List Deferred),∃u9 h0 g9 g6 g5 g4 g3 g2 g1 g0 f9 f8 f7 f6 f5 f4 f2 f1 e9 e8 e7 e6 e5 e4 e3 d9 d8 d7 d6 d5 d4 d3 d2 c9 c8 c7 c5 c4 c2 b9 b8:Value,a= {tmps:=#[.pointer (some ⟨bv,0,none⟩),A n,.pointer (some ⟨w.heap.size,0,none⟩),undef,.slice none 0 0,.pointer (some ⟨w1.heap.size,0,none⟩),.pointer (some ⟨w1.heap.size+1,0,none⟩),.bool ch,undef,u9,h0,g9,.slice (some ⟨w.heap.size+1,0,none⟩) 1 1,A n,.slice (some ⟨w.heap.size+2,0,none⟩) n n,.slice (some ⟨w.heap.size+2,0,none⟩) n n,.pointer (some ⟨w.heap.size+2,0,none⟩),.func (.func 121) #[] #[.pointer (some ⟨w.heap.size,0,none⟩),.pointer (some ⟨w1.heap.size,0,none⟩)],g6,g5,g4,g3,g2,(.slice (some ⟨b,o',none⟩) ns.length c'),(A (ns.length:Int)),(A i),g1,g0,f9,f8,f7,f6,f5,f4,f2,f1,e9,e8,e7,e6,e5,e4,e3,d9,d8,d7,d6,d5,d4,d3,d2,c9,c8,c7,c5,c4,c2,b9,b8],defers:=ds }/\k+i=ns.length/\oh w.heap.size W ds/\∃idom,DomMem w W bv w1.heap.size (w.heap.size+2) n idom/\ny a0 f (ns.drop i) idom ch i1 h5) ns.length ?_ ?_
   ·exact⟨0,false,ds,_,_,_,_,_,_,_,_,_,_,_,_,_,_,_,_,_,_,_,_,_,_,_,_,_,_,_,_,_,_,_,_,_,_,_,_,_,_,_,_,_,rfl,rfl,HM.out,idom,t.out,a5.out⟩
   clear a5 HM t ds idom;rintro j a W ⟨i,ch,ds,u9,h0,g9,g6,g5,g4,g3,g2,g1,g0,f9,f8,f7,f6,f5,f4,f2,f1,e9,e8,e7,e6,e5,e4,e3,d9,d8,d7,d6,d5,d4,d3,d2,c9,c8,c7,c5,c4,c2,b9,b8,rfl,p5,hM,idom,h4,a3⟩;have HM:=Ja hM;have t:=Ja h4;have a5:=Ja a3;clear hM h4 a3
   by_cases p3:(i:Int)<ns.length
   ·obtain⟨x,hx⟩:∃x,ns[i]? =some x:=⟨_,Jd Zo⟩
    have o9:=HN.out x (Ji hx);obtain⟨b1,o1,n7,_,h8⟩:=HX.out (i+1) x (by simpa using hx);obtain⟨rfl,rfl⟩:b=b1/\o=o1:=by simpa using n7
    have h8:G W b (o'+i) (A x):=by
     rw[HO.out Zo,Nat.add_assoc,Nat.add_comm 1 i];exact(t.out.hb.cell (p:=⟨b,o+(i+1),none⟩) (show b<w.heap.size by omega)).trans h8
    have cV:=cell_of_one t.out.hv;have q2:w.heap.size<W.heap.size:=lt_of_block t.out.hv;have o5:w1.heap.size+1<W.heap.size:=lt_of_block t.out.hm;go_wp2_with (go_at_call 122;refine(lj _ _ _).mono ?_;rintro e w2 ⟨rfl,rfl⟩)
    have b5:ns.drop i=x::ns.drop (i+1):=by
     rw[Qn Zo]
     congr 1
     have:=Jd (l:=ns) (i:=i) Zo;rw[hx] at this;exact(Nt this).symm
    have hp:=a5.out;rw[b5] at hp;obtain⟨pr,d0,old,k4,a6,a2,h6,b6⟩:=hp;have l9:(((W.alloc (U #[A (-1)] 3)).alloc (U #[Q bv] 160)).alloc (U #[A x] 3)).heap.size=W.heap.size+3:=by simp
    have b0:DomMem w (((W.alloc (U #[A (-1)] 3)).alloc (U #[Q bv] 160)).alloc (U #[A x] 3)) bv w1.heap.size (w.heap.size+2) n idom:=
     ((t.out.kept (Uo W _ none) (fun _ e=>by cases e)).kept (Uo _ _ none) (fun _ e=>by cases e)).kept (Uo _ _ none) (fun _ e=>by cases e)
    have b7:Boxed (((W.alloc (U #[A (-1)] 3)).alloc (U #[Q bv] 160)).alloc (U #[A x] 3)) W.heap.size 3 (A (-1)):=((Boxed.new W _ _).alloc _).alloc _;have i4:KeepsFrom 0 W (((W.alloc (U #[A (-1)] 3)).alloc (U #[Q bv] 160)).alloc (U #[A x] 3)):=((uh _ _).trans (uh _ _)).trans (uh _ _);obtain⟨bp,op,len,cap,ar,m1,b4,q0,l5⟩:=jt HV.out (b0.hb.mono hC) k4 (Bv:=W.heap.size+1) (Bn:=W.heap.size+1+1) (cell_of_one (zB (zI Zs))) (cell_of_one (zI Zs));generalize (((W.alloc (U #[A (-1)] 3)).alloc (U #[Q bv] 160)).alloc (U #[A x] 3))=W4 at l9 b0 b7 i4 b4 ⊢;have m2:=Ja a6;have HC:=Ja b6;have q3:=Ja a2
    refine(wpIn_wide (n:=100)).1 (wpIn_rangeFunc_ownG rfl Zd (gf:=129) (lb:=#[Q (W.heap.size+1),Q (W.heap.size+1+1)]) rfl trivial (enters_of Try.func129 Zk rfl)
     (nH 99 Zd (W.heap.size+1) (W.heap.size+1+1) x pr bv bp op len cap ar m1 (o0.out pr (Ji k4)) W4 b4) (fun h k x=>k (h x)) (fun V l o o' hl ho hc _ h=>h.keptObj (grownBy_putObj' V l o') (fun r e=>by cases e;exact⟨o,ho,hc⟩)) (Below.refl _ _) (fun _=>rfl)
     (fun pre V=>DomMem w V bv w1.heap.size (w.heap.size+2) n idom/\KeepsFrom 0 W4 V/\∃d,Boxed V W.heap.size 3 (A d)/\OkD idom d/\wi idom f (pre.map (·.1)) (-1) d) (fun _ _ _=>False)
     ?own (fun _ _ _ _ _ hs _ _=>hs) ⟨b0,KeepsFrom.refl _ _,-1,b7,.inl rfl,rfl⟩ ?a1 ?assign ?body ?done ?stop)
    case own=>
     rintro s X Y row ⟨hd,hk,d,hb,ho,hp⟩ hg hr;exact⟨hd.own hg (fun r e=>(hr r e).2) (fun r e=>by have:=(hr r e).1;omega),ownFrom_keepsFrom (β:=Unit) (Je W4.heap.size) () X Y row hk hg hr,d,hb.kept hg (fun e=>by have:=(hr _ e.symm).1;omega),ho,hp⟩
    case assign=>
     intro l x W K hK
     gi_wp2
     exact hK
    case body=>
     clear h8 b4 b0 b7 a2 a6 b6 h6 hx b5 e0 cV;rintro l pre ⟨p,hp⟩ V ⟨hd,hk,d,hb,ho,b2⟩ o4;have a7:(pre++ [(⟨p,hp⟩: {p//p∈pr})]).map (fun x=>x.1)=pre.map (fun x=>x.1)++ [p]:=by rw[Js];rfl
     have a7:=Ja a7;obtain⟨hpl,a6⟩:=m2.out p hp;obtain⟨d1,k7,j1⟩:=a6 d ho;obtain⟨x0,i0,k5⟩:=j1;have HD:=Ja hd;have HK:=Ja hk;have HB:=Ja hb;have b3:=Ja (Jb k7 (b2.snoc ⟨x0,i0,k5⟩));have cI:=cell_of_one hd.hi;have cM:=cell_of_one hd.hm;have cD:=hb.cell;have fD:=hb.frozen;have m7:p<n:=by rw[<-hd.hl];exact hpl
     have cr:G V (w.heap.size+2) p (A x0):=zA hd.hr (by simp[i0]);have p1:(p:Int)<n:=Zo;clear hd hk hb b2 ho k7 a6 i0 hpl;rcases k5 with⟨i3,rfl⟩|⟨i3,p6,rfl⟩|⟨i3,dn,rfl,n4,k2,r,j2,rfl⟩
     ·gi_wp2
      refine(show _/\_/\_ from⟨KeepsFrom.refl _ _,fun h=>h,HD.out,HK.out,_,HB.out,b3.out.1,?_⟩);rw[a7.out];exact b3.out.2
     ·gi_wp2
      refine(show _/\_/\_ from⟨(uu HB.out _).from0 _,fun h=>h.set _ Zo Zo Zo Zo (fun j y hj a e=>by have:=l5 j y hj a e;omega),HD.out.kept (grownBy_setCell' V _ _) (fun r e=>by cases e;have:=HD.out.lt;omega),HK.out.trans (uu HB.out _),_,HB.out.set _,b3.out.1,?_⟩)
      show wi idom f ((pre++ [(⟨p,hp⟩: {p//p∈pr})]).map (fun x=>x.1)) (-1) _
      rw[a7.out];exact b3.out.2
     ·have hnd:¬(dn:Int)<0:=Zo
      gi_wp2
      obtain⟨ov,bm',o6,m3,e0,e1,e2,n0,l0,o3,m6,p4⟩:=HV.out.below (HD.out.hb.mono hC);refine⟨trivial,CallsIn.inRound l (callsIn_wide.2 ((meet_any V w.heap.size w1.heap.size bv bm' m3 (w.heap.size+2) f idom (by rw[HD.out.hl];exact hn) (cell_of_one HD.out.hv) e1 l0 (by rw[HD.out.hl];exact cI) HD.out.hr k2 p dn r (by rw[HD.out.hl];exact m7) n4 j2).mono ?_))⟩;rintro e V2 ⟨rfl,m,rfl⟩;clear e0 e1 e2 n0 l0 m6
      gi_wp2
      have l8:Boxed (V.drewN m) W.heap.size 3 (A dn):=HB.out;have l3:V.grownBy (V.drewN m) none:=⟨rfl,rfl,rfl,Je _,fun _ _ _=>rfl⟩
      have l2:KeepsFrom 0 V ((V.drewN m).setCell ⟨W.heap.size,0,none⟩ (A r)):=(uW V m).trans (uu l8 _);refine(show _/\_/\_ from⟨l2.from0 _,fun h=>(h.keptObj l3 (fun r e=>by cases e)).set _ Zo Zo Zo Zo (fun j y hj a e=>by have:=l5 j y hj a e;omega),(HD.out.kept l3 (fun r e=>by cases e)).kept (grownBy_setCell' _ _ _) (fun r e=>by cases e;have:=HD.out.lt;omega),HK.out.trans l2,_,l8.set _,b3.out.1,?_⟩)
      show wi idom f ((pre++ [(⟨p,hp⟩: {p//p∈pr})]).map (fun x=>x.1)) (-1) _
      rw[a7.out];exact b3.out.2
    case done=>
     rintro D xs V hD m4 ⟨hd,hk,d,hb,ho,b2⟩ l6;rw[m4] at b2;obtain rfl:=wi.unique b2 a2;have cI:=cell_of_one hd.hi;have cD:=hb.cell;have cr:G V (w.heap.size+2) x (A old):=zA hd.hr (by simp[h6]);have fr:T V (w.heap.size+2) x:=zE hd.hr;have p0:(x:Int)<n:=Zo;have HD:=Ja hd;have l7:=Ja (HM.out.push (i4.trans hk) Zo (by have:=t.out.hb.size;omega) l6);clear hd hk hb ho b2 l6 h8 b4 b0 b7 a2 a6 b6 h6 hx b5 e0 cV;rcases HC.out with⟨rfl,a4⟩|⟨n2,a4⟩
     ·have i7:=Ja a4;clear a4;have n8:(old !=old)=false:=by simp
      go_wp2;go_quiet (fail);go_wp2;have i5:V.grownBy (V.drewN nq) none:=⟨rfl,rfl,rfl,Je _,fun _ _ _=>rfl⟩
      refine⟨j-1,by omega,i+1,ch,_,_,_,_,_,_,_,_,_,_,_,_,_,_,_,_,_,_,_,_,_,_,_,_,_,_,_,_,_,_,_,_,_,_,_,_,_,_,_,_,_,_,(by rw[Int.natCast_add];rfl),by omega,l7.out.keeps (uW V nq),idom,HD.out.kept i5 (fun r e=>by cases e),i7.out⟩
     ·have i7:=Ja a4;clear a4;have n8:(old !=d)=true:=by simpa using n2
      go_wp2;go_quiet (fail);go_wp2;have i5:V.grownBy (V.drewN nq) none:=⟨rfl,rfl,rfl,Je _,fun _ _ _=>rfl⟩
      refine⟨j-1,by omega,i+1,true,_,_,_,_,_,_,_,_,_,_,_,_,_,_,_,_,_,_,_,_,_,_,_,_,_,_,_,_,_,_,_,_,_,_,_,_,_,_,_,_,_,_,(by rw[Int.natCast_add];rfl),by omega,(l7.out.keeps (uW V nq)).keeps (uu (W:=V.drewN nq) HD.out.hr _),idom.set x d,(HD.out.kept i5 (fun r e=>by cases e)).set x d,i7.out⟩
    case stop=>
     rintro D c pre V _ _ h _;exact h.elim
   ·go_wp2;obtain rfl:i=ns.length:=by omega
    have hp:=a5.out;rw[List.drop_length] at hp;obtain⟨rfl,rfl⟩:=hp;refine⟨k,by omega,?_⟩;rcases j3.out with⟨rfl,rfl⟩|⟨rfl,h⟩
    ·exact .inl ⟨_,⟨rfl,rfl⟩,HM.out,t.out⟩
    ·exact .inr ⟨_,⟨rfl,rfl⟩,HM.out,_,t.out,h⟩
open Go.RowKit
theorem Try.info_irop:(Try.prog.info? 77).map (fun i=>(i.zero,i.size,i.bytes))=some (some (.agg #[A 0,A 0,A 0,A 0,I 0,.slice none 0 0]),6,64):=by kernel_rfl
theorem Try.info_irfunc:(Try.prog.info? 43).map (fun i=>(i.zero,i.size,i.bytes))=some (some (.agg #[.slice none 0 0]),1,24):=by kernel_rfl
theorem yD{base:Nat}{e:TypeId}{size n:Nat}{v:Value}{xs:List Value}(h:w.ownsRow base e size v n xs)(hk:∀k,v.ownBlock=some k->w'.heap[k]? =w.heap[k]?):w'.ownsRow base e size v n xs:=by
 refine⟨h.1,?_⟩;rcases h.2 with h2|⟨g,cap,cur,rfl,hg,c,r⟩
 ·exact .inl h2
 ·exact .inr ⟨g,cap,cur,rfl,hg,(hk g rfl).trans c,r⟩
theorem yM.cells{b n:Nat}{xs:List Value}{e:TypeId}(h:L w b xs.toArray e)(d:xs.length=n)(c:∀u∈xs,u.oneCell'=true):yM w n (N b 1 1) 1 xs:=
 ⟨_,_,rfl,by omega,c,.inr ⟨_,rfl,Oi (cs:=xs.toArray) h⟩⟩
structure Row where
 v:Value
 e:TypeId
 sz:Nat
 n:Nat
 cs:List Value
def Row.blk (r:Row):Option Nat:=r.v.ownBlock
structure Rows (w:World) (B:Nat) (rs:List Row):Prop where
 own:∀r∈rs,w.ownsRow B r.e r.sz r.v r.n r.cs
 nd:(rs.filterMap Row.blk).Nodup
theorem gj (n m:Nat):∃k:Nat,(k:Int)=(if(m:Int)<(n:Int) then(m:Int) else(n:Int))/\k=min m n:=⟨min m n,by split<;>omega,rfl⟩
theorem lw{α:Type}{sz:Nat}{R:World->Nat->Nat->Nat->α->Prop}{B:Nat}{a:Option Addr}{xs:List α}(h:yN sz R w B (.slice a xs.length cap) xs)(m:Nat):yN sz R w B (.slice a (min m xs.length) cap) (xs.take m):=by
 obtain⟨a',c,e,h1,h2,h3⟩:=h;cases e;exact⟨a,cap,by rw[Oc],by rw[Oc];omega,h2,fun k x hk=>h3 k x (by rw[Ug] at hk;split at hk;exact hk;cases hk)⟩
theorem qu (w:World)(r o:Nat)(vs:List Value):Below r w (w.setCells r o vs):=
 ⟨(ze r vs o w).1,(ze r vs o w).2.1,(ze r vs o w).2.2,Ul (y8 r vs o w).symm,fun k hk=>ye r k Zo vs o w⟩
end Go.Proofs.Ytojclalkfhoooaa
