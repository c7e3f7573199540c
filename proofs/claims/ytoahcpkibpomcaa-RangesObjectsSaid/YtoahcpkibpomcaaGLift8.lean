/- Part of a proof. -/
import Derived.Test.YtoahcpkibpomcaaGZStF
import Derived.StillTailTactics
set_option linter.all false
set_option maxHeartbeats 4000000
set_option maxRecDepth 100000
namespace Go.Proofs.Ytoahcpkibpomcaa
open Go.RowKit
variable {w w':World}{K:MK}{m:Mach}{c k oa ob:Int}{i id on vb vn:Nat}{g:List (List Nat)}{P:Program}{d:wO}{xs:List Value}{Df:Int->Int->Int->Prop}{o:IOp}{oi:Oper}{rs:List Nat}
theorem kh{ov:Value}(h:MachAt w K m ov)(bank a:Nat)(hb:bank<65536)(q:a<65536)(hr:sJ K.E bank a=false):
 T 102 #[L K.pm,G bank,G a] w fun e w'=>e=.panicked [oE 2 a]/\w=w':=by
 have c5:=h.c5;obtain⟨ba,bc,d,l,k⟩:=h.prog.banks.form;rw[d] at c5
 have c:¬(bank<K.E.p.banks.length/\a<4096):=by
  intro g;unfold sJ at hr;rw[decide_eq_true g.1,decide_eq_true g.2] at hr;cases hr
 clear h d hr
 by_cases j:bank<K.E.p.banks.length
 ·have i:¬(K.E.p.banks.length:Int)<=bank:=Zo;have o:4096<=(a:Int):=Zo;clear c j;go_enter Try.func102,Try.ntmps102;go_wp2_with (go_at_call 95;go_must (refine(wj 2 a _).mono ?_;rintro e w' ⟨rfl,rfl⟩))
  exact⟨rfl,rfl,rfl⟩
 ·have i:(K.E.p.banks.length:Int)<=bank:=Zo;clear c j;go_enter Try.func102,Try.ntmps102;go_wp2_with (go_at_call 95;go_must (refine(wj 2 a _).mono ?_;rintro e w' ⟨rfl,rfl⟩))
  exact⟨rfl,rfl,rfl⟩
theorem iH (E:IEnv)(bank a:Nat):sJ E bank a=true↔bank<E.p.banks.length/\a<4096:=by unfold sJ;rw[Jm,decide_eq_true_eq,decide_eq_true_eq]
theorem p8{ov:Value}(h:MachAt w K m ov)(j:∀s∈K.E.p.banks,s.size=4096)(bank a:Nat)(hb:bank<65536)(ha:a<65536)(hr:sJ K.E bank a=true):
 T 102 #[L K.pm,G bank,G a] w fun e w'=>e=.returned (G (tS K.E bank a:Nat))/\w=w':=by
 have c5:=h.c5;have c:=h.prog.banks;obtain⟨ba,bc,i,x,u⟩:=c.form;rw[i] at c5 c;obtain⟨l,t⟩:=(iH _ _ _).1 hr;obtain⟨s,hs⟩:∃s,K.E.p.banks[bank]? =some s:=⟨_,Jd l⟩
 obtain⟨b,o,rfl,_,d,_⟩:=c.get hs;rw[Nk] at d;have g:=j s (Ji hs);have k:tS K.E bank a=(s.data.getD a 0).toNat:=by unfold tS;rw[Jj,hs];rfl
 rw[k];have a2:¬(K.E.p.banks.length:Int)<=bank:=Zo;have a1:(bank:Int)<K.E.p.banks.length:=Zo;have a0:¬4096<=(a:Int):=Zo;have y:a<s.size:=Zo;have q:(a:Int)<s.size:=Zo;have a3:=Ja g;clear h i hr hs k c l t j g;go_enter Try.func102,Try.ntmps102;go_wp2;go_ret;refine⟨zh ?_,rfl⟩;have:=s.data[a].toNat_lt;rw[xY]
 show((s.data[a].toNat:Nat):Int)%65536=((s.data[a].toNat:Nat):Int)
 omega
theorem jA{ov:Value}(h:MachAt w K m ov):
 T 103 #[L K.pm] w fun e w'=>e=endOf (uq K.E m)/\MachAt w' K (uq K.E m).mach ov/\Frm K.B w w':=by
 have c7:=h.c7;have c11:=h.c11;have d:=h.inn;obtain⟨ia,ic,i,b0,a9⟩:=d.form;rw[i] at c7 d;have j:=Ja h;have y:=h.inp;have a2:=Ja i;clear h i
 by_cases c:m.inputs<K.E.inn.length
 ·obtain⟨x,t⟩:∃x,K.E.inn[m.inputs]? =some x:=⟨_,Jd c⟩
  obtain⟨b,o,rfl,l,g,a6⟩:=d.get t;have a3:=Ja l;clear l;rw[Nk] at g;have hI:¬(K.E.inn.length:Int)<=m.inputs:=Zo;have hJ:(m.inputs:Int)<K.E.inn.length:=Zo;have e:uq K.E m=.ok x {m with inputs:=m.inputs+1 }:=by unfold uq;rw[if_pos c,Jj,t];rfl
  rw[e];have q:=j.out.free 11;have a1:=Ja c;have a4:K.E.inn.length<=9223372036854775807:=Zo;clear e d c t y;go_enter Try.func103,Try.ntmps103;go_upto_region 1 with fail
  go_cut [13] (fun v wx=>v=.bool false/\∃n,wx=w.drewN n)
  case first=>
   go_quiet (fail);go_wp2;go_meet;exact⟨rfl,_,rfl⟩
  case rest=>
   obtain⟨rfl,n,rfl⟩:=hcut;have k:=(j.out.drewN n).setI a1.out j.out.ne;have u:Frm K.B w ((w.drewN n).setCell ⟨K.pm,11,none⟩ (I ((m.inputs:Int)+1))):=(Frm.refl _ _).drewN.trans ((j.out.drewN n).frm 11 _);have d7:(w.drewN n).cell? ⟨K.pm,7,none⟩=_:=c7;have b2:(w.drewN n).cell? ⟨K.pm,11,none⟩=_:=c11;have a5:Y (w.drewN n) K.pm 11:=q;have e7:=k.c7;rw[a2.out] at e7;have b1:=k.c11;have a0:=(u.below.cell (p:=⟨b,o+m.inputs,none⟩) a3.out).trans g;have a8:IntKind.i64.wrap (((m.inputs+1:Nat):Int)-1)=(m.inputs:Int):=by rw[show(((m.inputs+1:Nat):Int)-1)=(m.inputs:Int) by omega];exact Om _ Zo
   have H1:=Ja k;have HF:=Ja u;clear k u c7 c11 q;go_upto_region 4 with fail;generalize (w.drewN n).setCell ⟨K.pm,11,none⟩ (I ((m.inputs:Int)+1))=W2 at *;go_quiet (fail);go_wp2;go_ret;exact⟨rfl,H1.out.drewN _,HF.out.drewN⟩
 ·have hI:(K.E.inn.length:Int)<=m.inputs:=Zo;have e:uq K.E m=.ok 0 m:=by unfold uq;rw[if_neg c]
  rw[e];clear e d c;go_enter Try.func103,Try.ntmps103;go_wp2;go_quiet (fail);go_wp2;go_ret;exact⟨rfl,j.out.drewN _,(Frm.refl _ _).drewN⟩
theorem Try.info_event:(Try.prog.info? 173).map (fun i=>(i.zero,i.size,i.bytes))=some (some (.agg #[G 0,G 0]),2,4):=by kernel_rfl
theorem p9 (E:IEnv)(b a:Nat):tS E b a<256:=by unfold tS;exact UInt8.toNat_lt _
theorem or_rom (x y:Nat)(d:x<256)(c:y<256):bits .or .u16 (x:Int) (IntKind.u16.wrap ((y:Int)*256))=((x+256*y:Nat):Int):=by
 have:=or_low x y d c;have e1:IntKind.u16.wrap (x:Int)=(x:Int):=by rw[xY];omega
 have e2:IntKind.u16.wrap (y:Int)=(y:Int):=by rw[xY];omega
 rw[e1,e2] at this;exact this
theorem xN{row:Option Nat}(h:w.drew.grownBy w' row):w.grownBy w' row:=⟨h.os,h.tape,h.output,h.size,h.block⟩
theorem ke (E:IEnv)(m:Mach)(c:∀x∈E.inn,x<65536):∃x m',uq E m=.ok x m'/\x<65536:=by
 unfold uq
 by_cases h:m.inputs<E.inn.length
 ·rw[if_pos h];exact⟨_,_,rfl,by rw[Jj,Jd h];exact c _ (Uf h)⟩
 ·rw[if_neg h];exact⟨_,_,rfl,by decide⟩
theorem step_2{ov:Value}(h:MachAt w K m ov)(a2:I64 oa)(a1:I64 ob)(a8:on<65536)(ab:Option Addr)(an ac:Nat){v:Int->Nat}(hv:xO w vb vn v)(d:Int)(hk:0<=oa/\oa.toNat<K.E.p.data.length):
 T 97 #[L K.pm,.agg #[I 2,I c,I oa,I ob,G on,.slice ab an ac],.map (some vb),I d] w (zQ K w (.ok (((K.E.p.data.getD oa.toNat ⟨0,0,0⟩).addr+on)%65536) m)):=by
 have t:=fun(W:World) (hW:Frm K.B w W)=>(hv.kept hW).look a2
 have q:=fun(W:World) (hW:Frm K.B w W)=>(hv.kept hW).look a1
 have a6:=hv.2 oa;have a5:=hv.2 ob;have b1:=h.size;have a0:=Ja (h.keep ((Below.refl _ _).alloc (Je _) (A #[I 2,I c,I oa,I ob,G on,.slice ab an ac] 27)));have j:=Ja ((Frm.refl K.B w).alloc Zo (A #[I 2,I c,I oa,I ob,G on,.slice ab an ac] 27));have la:=fun n:Nat=>t _ (j.out.drewN (n:=n))
 have lb:=fun n:Nat=>q _ (j.out.drewN (n:=n))
 have g:=zI (W:=w) (o:=A #[I 2,I c,I oa,I ob,G on,.slice ab an ac] 27) rfl;clear h hv t q;generalize v oa=xa at *;generalize v ob=xb at *;go_enter Try.func97,Try.ntmps97;go_upto_region 1 with fail;generalize a3:w.alloc (A #[I 2,I c,I oa,I ob,G on,.slice ab an ac] 27)=W1 at *;clear a3;have p0:=K0 g;have p2:=K2 g;have p3:=K3 g;have p4:=K4 g
 go_cut [9,10] (fun x y wx=>x=G xa/\y=G xb/\∃n,wx=W1.drewN n)
 case first=>
  go_quiet (fail);go_wp2;go_meet;exact⟨rfl,rfl,_,rfl⟩
 case rest=>
  obtain⟨rfl,rfl,n,rfl⟩:=hcut;have HM:=Ja (a0.out.drewN n);have HF:=Ja (j.out.drewN (n:=n));have q0:(W1.drewN n).cell? ⟨w.heap.size,0,none⟩=_:=p0;have q2:(W1.drewN n).cell? ⟨w.heap.size,2,none⟩=_:=p2;have q4:(W1.drewN n).cell? ⟨w.heap.size,4,none⟩=_:=p4;clear la lb p0 p2 p3 p4 g a0 j;generalize W1.drewN n=W2 at *;obtain⟨k,rfl⟩:∃k:Nat,oa=(k:Int):=⟨oa.toNat,by omega⟩
  have u:k<K.E.p.data.length:=Zo;have a9:(k:Int)<K.E.p.data.length:=Zo;have i:=HM.out.prog.data;obtain⟨da,dc,l,_,_⟩:=i.form;rw[l] at i;obtain⟨x,hx⟩:∃x,K.E.p.data[k]? =some x:=⟨_,Jd u⟩
  obtain⟨b,oo,rfl,_,_,b0,_,_,a4,_⟩:=i.get hx;have c4:=HM.out.c4;rw[l] at c4;have EE:=Ja (show(K.E.p.data.getD ((k:Nat):Int).toNat ⟨0,0,0⟩).addr=x.addr by rw[Ni,Jj,hx];rfl);clear hk u i l hx;go_upto_region 7 with fail;go_quiet (fail);go_wp2;go_ret;rw[EE.out];have e:Ending.returned (G (IntKind.u16.wrap ((x.addr:Int)+(on:Int))))=.returned (G (((x.addr+on)%65536:Nat):Int)):=zh (by rw[xY];omega);exact e ▸ zQ.ok (HM.out.drewN _) HF.out.drewN Zo
theorem step_22{ov:Value}(h:MachAt w K m ov)(a9:I64 oa)(a8:I64 ob)(j:on<65536)(ab:Option Addr)(an ac:Nat){v:Int->Nat}(hv:xO w vb vn v)(d:Int)(u:Hid (∀s∈K.E.p.banks,s.size=4096)):
 T 97 #[L K.pm,.agg #[I 22,I c,I oa,I ob,.int .u16 (on:Int),.slice ab an ac],.map (some vb),I d] w (zQ K w (im K.E m on (v oa))):=by
 have a2:=fun(W:World) (hW:Frm K.B w W)=>(hv.kept hW).look a9
 have a1:=fun(W:World) (hW:Frm K.B w W)=>(hv.kept hW).look a8
 have t:=hv.2 oa;have b2:=hv.2 ob;have b3:=h.size;have a5:=Ja (h.keep ((Below.refl _ _).alloc (Je _) (A #[I 22,I c,I oa,I ob,.int .u16 (on:Int),.slice ab an ac] 27)));have l:=Ja ((Frm.refl K.B w).alloc Zo (A #[I 22,I c,I oa,I ob,.int .u16 (on:Int),.slice ab an ac] 27));have la:=fun n:Nat=>a2 _ (l.out.drewN (n:=n))
 have lb:=fun n:Nat=>a1 _ (l.out.drewN (n:=n))
 have g:=zI (W:=w) (o:=A #[I 22,I c,I oa,I ob,.int .u16 (on:Int),.slice ab an ac] 27) rfl;clear h hv a2 a1;generalize v oa=xa at *;generalize v ob=xb at *;go_enter Try.func97,Try.ntmps97;go_upto_region 1 with fail;generalize b0:w.alloc (A #[I 22,I c,I oa,I ob,.int .u16 (on:Int),.slice ab an ac] 27)=W1 at *;clear b0;have p0:=K0 g;have p2:=K2 g;have p3:=K3 g;have p4:=K4 g
 go_cut [9,10] (fun x y wx=>x=.int .u16 (xa:Int)/\y=.int .u16 (xb:Int)/\∃n,wx=W1.drewN n)
 case first=>
  go_quiet (fail);go_wp2;go_meet;exact⟨rfl,rfl,_,rfl⟩
 case rest=>
  obtain⟨rfl,rfl,n,rfl⟩:=hcut;have k:=Ja (a5.out.drewN n);have HF:=Ja (l.out.drewN (n:=n));have q0:(W1.drewN n).cell? ⟨w.heap.size,0,none⟩=_:=p0;have q2:(W1.drewN n).cell? ⟨w.heap.size,2,none⟩=_:=p2;have q4:(W1.drewN n).cell? ⟨w.heap.size,4,none⟩=_:=p4;clear la lb p0 p2 p3 p4 g a5 l;generalize W1.drewN n=W2 at *;have a0:vt xa<65536:=Qj _ Zd;have b1:IntKind.u16.wrap ((xa:Int)+1)=((vt xa:Nat):Int):=by rw[xY];unfold vt;omega
  by_cases i:sJ K.E on xa=true
  ·by_cases q:sJ K.E on (vt xa)=true
   ·have EE:=Ja (show im K.E m on xa=.ok (tS K.E on xa+256*tS K.E on (vt xa)) m by unfold im;rw[if_pos i,if_pos q]);have C1:=Ja i;have C2:=Ja q;have t1:True:=trivial;have g1:=p9 K.E on xa;have g2:=p9 K.E on (vt xa);have G:=Ja (Jb g1 g2);clear i q g1 g2;go_wp2_with (first|(go_at_call 102;have a6:=t1;clear t1;go_must (refine(p8 k.out u.out on xa j t C1.out).mono ?_;rintro e w' ⟨rfl,rfl⟩))|(go_at_call 102;go_must (refine(p8 k.out u.out on (vt xa) j a0 C2.out).mono ?_;rintro e w' ⟨rfl,rfl⟩)))
    go_ret;rw[EE.out];have e:Ending.returned (.int .u16 (bits .or .u16 (tS K.E on xa:Int) (IntKind.u16.wrap ((tS K.E on (vt xa):Int)*256))))=.returned (.int .u16 ((tS K.E on xa+256*tS K.E on (vt xa):Nat):Int)):=zh (or_rom _ _ G.out.1 G.out.2);exact e ▸ zQ.ok k.out HF.out (by have:=G.out;omega)
   ·have a3:sJ K.E on (vt xa)=false:=by simpa using q
    have EE:=Ja (show im K.E m on xa=.trap 2 (vt xa) m by unfold im;rw[if_pos i,if_neg q]);have C1:=Ja i;have C2:=Ja a3;have t1:True:=trivial;clear i q a3;go_wp2_with (first|(go_at_call 102;have a6:=t1;clear t1;go_must (refine(p8 k.out u.out on xa j t C1.out).mono ?_;rintro e w' ⟨rfl,rfl⟩))|(go_at_call 102;go_must (refine(kh k.out on (vt xa) j a0 C2.out).mono ?_;rintro e w' ⟨rfl,rfl⟩)))
    exact⟨rfl,by rw[EE.out];exact zQ.trap k.out HF.out⟩
  ·have a4:sJ K.E on xa=false:=by simpa using i
   have EE:=Ja (show im K.E m on xa=.trap 2 xa m by unfold im;rw[if_neg i]);have C1:=Ja a4;clear i a4;go_wp2_with (go_at_call 102;go_must (refine(kh k.out on xa j t C1.out).mono ?_;rintro e w' ⟨rfl,rfl⟩))
   exact⟨rfl,by rw[EE.out];exact zQ.trap k.out HF.out⟩
theorem step_23{ov:Value}(h:MachAt w K m ov)(a3:I64 oa)(a2:I64 ob)(q:on<65536)(ab:Option Addr)(an ac:Nat){v:Int->Nat}(hv:xO w vb vn v)(d:Int)(a4:Hid (∀s∈K.E.p.banks,s.size=4096)):
 T 97 #[L K.pm,.agg #[I 23,I c,I oa,I ob,G on,.slice ab an ac],.map (some vb),I d] w (zQ K w (nX K.E m on (v oa))):=by
 have u:=fun(W:World) (hW:Frm K.B w W)=>(hv.kept hW).look a3
 have t:=fun(W:World) (hW:Frm K.B w W)=>(hv.kept hW).look a2
 have l:=hv.2 oa;have a6:=hv.2 ob;have a8:=h.size;have a1:=Ja (h.keep ((Below.refl _ _).alloc (Je _) (A #[I 23,I c,I oa,I ob,G on,.slice ab an ac] 27)));have i:=Ja ((Frm.refl K.B w).alloc Zo (A #[I 23,I c,I oa,I ob,G on,.slice ab an ac] 27));have la:=fun n:Nat=>u _ (i.out.drewN (n:=n))
 have lb:=fun n:Nat=>t _ (i.out.drewN (n:=n))
 have g:=zI (W:=w) (o:=A #[I 23,I c,I oa,I ob,G on,.slice ab an ac] 27) rfl;clear h hv u t;generalize v oa=xa at *;generalize v ob=xb at *;go_enter Try.func97,Try.ntmps97;go_upto_region 1 with fail;generalize a5:w.alloc (A #[I 23,I c,I oa,I ob,G on,.slice ab an ac] 27)=W1 at *;clear a5;have p0:=K0 g;have p2:=K2 g;have p3:=K3 g;have p4:=K4 g
 go_cut [9,10] (fun x y wx=>x=G xa/\y=G xb/\∃n,wx=W1.drewN n)
 case first=>
  go_quiet (fail);go_wp2;go_meet;exact⟨rfl,rfl,_,rfl⟩
 case rest=>
  obtain⟨rfl,rfl,n,rfl⟩:=hcut;have k:=Ja (a1.out.drewN n);have HF:=Ja (i.out.drewN (n:=n));have q0:(W1.drewN n).cell? ⟨w.heap.size,0,none⟩=_:=p0;have q2:(W1.drewN n).cell? ⟨w.heap.size,2,none⟩=_:=p2;have q4:(W1.drewN n).cell? ⟨w.heap.size,4,none⟩=_:=p4;clear la lb p0 p2 p3 p4 g a1 i;generalize W1.drewN n=W2 at *
  by_cases j:sJ K.E on xa=true
  ·have EE:=Ja (show nX K.E m on xa=.ok (tS K.E on xa) m by unfold nX;rw[if_pos j]);have C1:=Ja j;clear j;go_wp2_with (go_at_call 102;go_must (refine(p8 k.out a4.out on xa q l C1.out).mono ?_;rintro e w' ⟨rfl,rfl⟩))
   go_ret;rw[EE.out];exact zQ.ok k.out HF.out (by have:=p9 K.E on xa;omega)
  ·have a0:sJ K.E on xa=false:=by simpa using j
   have EE:=Ja (show nX K.E m on xa=.trap 2 xa m by unfold nX;rw[if_neg j]);have C1:=Ja a0;clear j a0;go_wp2_with (go_at_call 102;go_must (refine(kh k.out on xa q l C1.out).mono ?_;rintro e w' ⟨rfl,rfl⟩))
   exact⟨rfl,by rw[EE.out];exact zQ.trap k.out HF.out⟩
theorem step_24{ov:Value}(h:MachAt w K m ov)(a1:I64 oa)(a0:I64 ob)(a9:on<65536)(ab:Option Addr)(an ac:Nat){v:Int->Nat}(hv:xO w vb vn v)(d:Int)(a3:Hid (∀x∈K.E.inn,x<65536)):
 T 97 #[L K.pm,.agg #[I 24,I c,I oa,I ob,G on,.slice ab an ac],.map (some vb),I d] w (zQ K w (uq K.E m)):=by
 have l:=fun(W:World) (hW:Frm K.B w W)=>(hv.kept hW).look a1
 have k:=fun(W:World) (hW:Frm K.B w W)=>(hv.kept hW).look a0
 have a8:=hv.2 oa;have a6:=hv.2 ob;have b0:=h.size;have q:=Ja (h.keep ((Below.refl _ _).alloc (Je _) (A #[I 24,I c,I oa,I ob,G on,.slice ab an ac] 27)));have j:=Ja ((Frm.refl K.B w).alloc Zo (A #[I 24,I c,I oa,I ob,G on,.slice ab an ac] 27));have la:=fun n:Nat=>l _ (j.out.drewN (n:=n))
 have lb:=fun n:Nat=>k _ (j.out.drewN (n:=n))
 have g:=zI (W:=w) (o:=A #[I 24,I c,I oa,I ob,G on,.slice ab an ac] 27) rfl;clear h hv l k;generalize v oa=xa at *;generalize v ob=xb at *;go_enter Try.func97,Try.ntmps97;go_upto_region 1 with fail;generalize a5:w.alloc (A #[I 24,I c,I oa,I ob,G on,.slice ab an ac] 27)=W1 at *;clear a5;have p0:=K0 g;have p2:=K2 g;have p3:=K3 g;have p4:=K4 g
 go_cut [9,10] (fun x y wx=>x=G xa/\y=G xb/\∃n,wx=W1.drewN n)
 case first=>
  go_quiet (fail);go_wp2;go_meet;exact⟨rfl,rfl,_,rfl⟩
 case rest=>
  obtain⟨rfl,rfl,n,rfl⟩:=hcut;have HM:=Ja (q.out.drewN n);have HF:=Ja (j.out.drewN (n:=n));have q0:(W1.drewN n).cell? ⟨w.heap.size,0,none⟩=_:=p0;have q2:(W1.drewN n).cell? ⟨w.heap.size,2,none⟩=_:=p2;have q4:(W1.drewN n).cell? ⟨w.heap.size,4,none⟩=_:=p4;clear la lb p0 p2 p3 p4 g q j;generalize W1.drewN n=W2 at *;obtain⟨x,m',t,u⟩:=ke K.E m a3.out;have i:T 103 #[L K.pm] W2 fun e w'=>e=.returned (G x)/\MachAt w' K m' ov/\Frm K.B W2 w':=by have:=jA HM.out;rw[t] at this;exact this
  have EE:=Ja t;have HC:=Ja i;clear t i;go_wp2_with (go_at_call 103;go_must (refine HC.out.mono ?_;rintro e w' ⟨rfl,a2,a4⟩))
  go_ret;rw[EE.out];exact zQ.ok a2 (HF.out.trans a4) u
theorem step_25{ov:Value}(h:MachAt w K m ov)(b2:I64 oa)(b1:I64 ob)(b3:on<65536)(ab:Option Addr)(an ac:Nat){v:Int->Nat}(hv:xO w vb vn v)(d:Int)(b4:m.out.length+1+m.fuel.toNat<=4000000):
 T 97 #[L K.pm,.agg #[I 25,I c,I oa,I ob,G on,.slice ab an ac],.map (some vb),I d] w (zQ K w (adS m on (v oa))):=by
 have a1:=fun(W:World) (hW:Frm K.B w W)=>(hv.kept hW).look b2
 have a0:=fun(W:World) (hW:Frm K.B w W)=>(hv.kept hW).look b1
 have b0:=hv.2 oa;have c0:=hv.2 ob;have c2:=h.size;have a2:=Ja (h.keep ((Below.refl _ _).alloc (Je _) (A #[I 25,I c,I oa,I ob,G on,.slice ab an ac] 27)));have l:=Ja ((Frm.refl K.B w).alloc Zo (A #[I 25,I c,I oa,I ob,G on,.slice ab an ac] 27));have la:=fun n:Nat=>a1 _ (l.out.drewN (n:=n))
 have lb:=fun n:Nat=>a0 _ (l.out.drewN (n:=n))
 have g:=zI (W:=w) (o:=A #[I 25,I c,I oa,I ob,G on,.slice ab an ac] 27) rfl;clear h hv a1 a0;generalize v oa=xa at *;generalize v ob=xb at *;go_enter Try.func97,Try.ntmps97;go_upto_region 1 with fail;generalize b6:w.alloc (A #[I 25,I c,I oa,I ob,G on,.slice ab an ac] 27)=W1 at *;clear b6;have p0:=K0 g;have p2:=K2 g;have p3:=K3 g;have p4:=K4 g
 go_cut [9,10] (fun x y wx=>x=G xa/\y=G xb/\∃n,wx=W1.drewN n)
 case first=>
  go_quiet (fail);go_wp2;go_meet;exact⟨rfl,rfl,_,rfl⟩
 case rest=>
  obtain⟨rfl,rfl,n,rfl⟩:=hcut;have k:=Ja (a2.out.drewN n);have HF:=Ja (l.out.drewN (n:=n));have q0:(W1.drewN n).cell? ⟨w.heap.size,0,none⟩=_:=p0;have q2:(W1.drewN n).cell? ⟨w.heap.size,2,none⟩=_:=p2;have q4:(W1.drewN n).cell? ⟨w.heap.size,4,none⟩=_:=p4;clear la lb p0 p2 p3 p4 g a2 l;generalize W1.drewN n=W2 at *;obtain⟨ii,b5,a5,a4,a3⟩:=info_parts Try.info_event;have c10:=k.out.c10;have b7:=k.out.free 10;have i:=k.out.out;have u:=lt_of_block k.out.blk;have nb:=zC i k.out.blk (.inr Zd);obtain⟨oa',oc',rfl⟩:=zG i;have a9:=Ja i;have c1:m.out.length<=4000000:=Zo;have a8:∀o,U (W2.alloc o) K.pm 10 (.slice oa' m.out.length oc'):=fun o=>(Oo (w:=W2) (Below.heap_alloc _ _ _ u)).trans c10
  have a6:∀o,Y (W2.alloc o) K.pm 10:=fun o=>(Qm (w:=W2) (Below.heap_alloc _ _ _ u)).trans b7
  have c4:K.B<W2.heap.size:=k.out.size;clear i;go_upto_region 30 with fail
  go_region_law (first|(refine step_append_lies _ (by rfl) (.tmp 145) (.tmp 150) _ (by rfl) K.B 173 ii (.agg #[G 0,G 0]) 2 4 Try.underlying130 b5 a5 a4 a3 rfl Zo (.slice oa' m.out.length oc') m.out.length (qO m.out) (by rfl) ((a9.out.alloc _).drew) ⟨W2.heap.size,0,none⟩ 1 1 [G on,G xa] (by rfl) (by rfl) (Oi (cs:=#[G on,G xa]) (t:=173) (fr:=(0,0)) (heap_alloc_new W2 _)) (by simp[Value.oneCell']) Zo (by unfold maxLen;omega) Zo Zt (W2.heap.size+1) Zs ?_;intro gg b9 w3 q j c3 b8;have c7:=(j.cell_far ⟨K.pm,10,none⟩ Zt (Ne.symm nb)).trans (a8 _);have c5:=(j.frozen_far ⟨K.pm,10,none⟩ Zt (Ne.symm nb)).trans (a6 _)))
  all_goals go_wp2_with fail
  all_goals go_ret
  all_goals (
   have hO:=k.out.setO (p:=on) (x:=xa) (xN j) (by simpa[vL] using q) b3 b0 b4
   exact zQ.ok (x:=0) hO.1 (HF.out.trans hO.2) Zd)
theorem step_ar{ov:Value}(h:MachAt w K m ov){oc g:Int}(a2:I64 oa)(a1:I64 ob)(b5:on<65536)(ab:Option Addr)(an ac:Nat){v:Int->Nat}(hv:xO w vb vn v)(d:Int)(hc:5<=oc/\oc<=17):
 T 97 #[L K.pm,.agg #[I oc,I g,I oa,I ob,G on,.slice ab an ac],.map (some vb),I d] w (zQ K w (iy m oc (v oa) (v ob))):=by
 have u:=fun(W:World) (hW:Frm K.B w W)=>(hv.kept hW).look a2
 have t:=fun(W:World) (hW:Frm K.B w W)=>(hv.kept hW).look a1
 have q:=hv.2 oa;have l:=hv.2 ob;have b6:=h.size;have a0:=Ja (h.keep ((Below.refl _ _).alloc (Je _) (A #[I oc,I g,I oa,I ob,G on,.slice ab an ac] 27)));have j:=Ja ((Frm.refl K.B w).alloc Zo (A #[I oc,I g,I oa,I ob,G on,.slice ab an ac] 27));have la:=fun n:Nat=>u _ (j.out.drewN (n:=n))
 have lb:=fun n:Nat=>t _ (j.out.drewN (n:=n))
 have i:=zI (W:=w) (o:=A #[I oc,I g,I oa,I ob,G on,.slice ab an ac] 27) rfl;clear h hv u t;generalize v oa=xa at *;generalize v ob=xb at *;go_enter Try.func97,Try.ntmps97;go_upto_region 1 with fail;generalize a3:w.alloc (A #[I oc,I g,I oa,I ob,G on,.slice ab an ac] 27)=W1 at *;clear a3;have p0:=K0 i;have p2:=K2 i;have p3:=K3 i;have p4:=K4 i
 go_cut [9,10] (fun x y wx=>x=G xa/\y=G xb/\∃n,wx=W1.drewN n)
 case first=>
  go_quiet (fail);go_wp2;go_meet;exact⟨rfl,rfl,_,rfl⟩
 case rest=>
  obtain⟨rfl,rfl,n,rfl⟩:=hcut;have HM:=Ja (a0.out.drewN n);have HF:=Ja (j.out.drewN (n:=n));have q0:(W1.drewN n).cell? ⟨w.heap.size,0,none⟩=_:=p0;have q2:(W1.drewN n).cell? ⟨w.heap.size,2,none⟩=_:=p2;have q4:(W1.drewN n).cell? ⟨w.heap.size,4,none⟩=_:=p4;clear la lb p0 p2 p3 p4 i a0 j;generalize W1.drewN n=W2 at *;have t1:((oc:Int)==1)=false:=Ze;have t2:((oc:Int)==2)=false:=Ze;have t3:((oc:Int)==3)=false:=Ze;have t4:((oc:Int)==4)=false:=Ze;have b4:((oc:Int)==18)=false:=Ze;have b3:((oc:Int)==19)=false:=Ze;have b2:((oc:Int)==20)=false:=Ze;have b1:((oc:Int)==21)=false:=Ze;have b0:((oc:Int)==22)=false:=Ze;have a9:((oc:Int)==23)=false:=Ze;have a8:((oc:Int)==24)=false:=Ze;have a6:((oc:Int)==25)=false:=Ze;have a5:((oc:Int)==26)=false:=Ze;have a4:((oc:Int)==27)=false:=Ze;have c:=jD oc hc xa xb q l;unfold rq at c
  by_cases k:oc=8/\xb=0
  ·have EE:=Ja (show iy m oc xa xb=.trap 4 0 m by unfold iy;rw[if_pos k]);simp only[if_pos k] at c;have HC:=Ja c;clear hc c k;go_wp2_with (go_at_call 105;go_must (refine(HC.out _).mono ?_;rintro e w' ⟨rfl,rfl⟩))
   exact⟨rfl,by rw[EE.out];exact zQ.trap HM.out HF.out⟩
  ·have EE:=Ja (show iy m oc xa xb=.ok (yW oc xa xb) m by unfold iy;rw[if_neg k]);simp only[if_neg k] at c;have HC:=Ja c;clear hc c k;go_wp2_with (go_at_call 105;go_must (refine(HC.out _).mono ?_;rintro e w' ⟨rfl,rfl⟩))
   go_ret;rw[EE.out];exact zQ.ok HM.out HF.out (jz _ _ _ q l)
theorem vd{ops:Array Oper}{Q:Act->Prop}:∀ {rest:List Oper} {a:Act},wpQuiet P ops (fun w'=>w'=w) Q rest a->wpStill P ops w Q rest a
 | [],a,h=>h
 |o::rest,a,h=>by
  unfold wpQuiet at h;unfold wpStill
  split at h
  ·rename_i hw
   rw[if_pos hw];obtain⟨v,h1,h2⟩:=h;have c:=h1 w rfl;have d:=vd h2;unfold Oper.quietAt at c;unfold Oper.still;generalize (execOp a.eval o).run P w=r at *
   cases r with
   |ok n w'=>
    cases n<;>simp only[Oper.quietUpon] at c<;>simp only[Oper.stillUpon]
    case value u=>obtain⟨e1,rfl⟩:=c;exact⟨e1,d⟩
    case skip=>obtain⟨e1,rfl⟩:=c;exact⟨e1,d⟩
    case enter f args=>exact⟨c.1,v,c.2,d⟩
   |halt x w'=>simp only[Oper.quietUpon] at c
  ·rename_i hw
   rw[if_neg hw];exact vd h
theorem zt{Q:Exit->Act->World->Prop}{a:Act}{l:List Oper}(n:Nat)(hm:P.follows .mixedOrders=true)(hB:Region.lexTailB .any l.toArray n=true)
 (h:wpQuiet P l.toArray (fun w'=>w'=w.drew) (fun a'=>wpList P l.toArray Q (l.drop n) a' w.drew) (l.take n) a):(Code.region id l.toArray true).wp P Q a w:=
 wp_region_still_tail n hm hB (vd h)
theorem jV(hv:zw g)(hr:∀x,x<g.length->Reach (GE g) x){c:Nat}(j:c<g.length):
 (pP g c=-1/\∀d,d≠c->wE g d c=false)∨∃c':Nat,pP g c=(c':Int)/\c'<g.length/\(∀d,d≠c->wE g d c'=wE g d c)/\wh (vD g) c'<wh (vD g) c:=by
 rcases idomOf hv c with⟨l,k⟩|⟨c',l,k,o,t⟩
 ·exact .inl ⟨l,fun d hd=>by cases h:wE g d c with|false=>rfl|true=>exact(k d hd h).elim⟩
 ·have hb:=(yO hv c' c).1 o;refine .inr ⟨c',l,(cA hv o).1,fun d hd=>?_,?_⟩
  ·rw[Bool.eq_iff_iff];constructor
   ·intro h;have m:=(yO hv d c').1 h;exact(yO hv d c).2 ⟨m.1,hr c j,oZ m.2.2 hb.2.2⟩
   ·intro h;exact(yO hv d c').2 ⟨((yO hv d c).1 h).1,hb.1,t d hd h⟩
  ·obtain⟨ns,i⟩:=adR hv;obtain⟨D,q⟩:=i.dom;rw[i.eq];have hm:=q.dom_mem ((i.mem c).2 (hr c j)) hb.2.2;rcases Nat.lt_or_eq_of_le hm.2 with h|h
   ·exact h
   ·exact absurd (ou i.nodup hm.1 ((i.mem c).2 (hr c j)) h) k
theorem lC(hv:zw g)(hr:∀x,x<g.length->Reach (GE g) x){c:Nat}(d:c<g.length):wE g c c=true:=(yO hv c c).2 ⟨hr c d,hr c d,rF _ _⟩
def nS (g:List (List Nat))(db i:Nat)(x:Int):Prop:=(x=-1/\wE g db i=false)∨∃c:Nat,x=(c:Int)/\c<g.length/\wE g db c=wE g db i
def oQ (g:List (List Nat))(x:Int):Nat:=if x=-1 then 0 else wh (vD g) x.toNat+1
theorem lT(hv:zw g)(hr:∀x,x<g.length->Reach (GE g) x){db c:Nat}(l:c<g.length)(h:wE g db c=wE g db i)(d:c≠db):
 ∃y,(wQ g)[c]? =some y/\nS g db i y/\oQ g y<oQ g c:=by
 refine⟨pP g c,by unfold wQ;rw[Jr,Oh l];rfl,?_⟩;rcases jV hv hr l with⟨k,j⟩|⟨c',k,j,m,o⟩
 ·rw[k];refine⟨.inl ⟨rfl,by rw[<-h];exact j db (Ne.symm d)⟩,?_⟩;unfold oQ;rw[if_pos rfl,if_neg Zo];omega
 ·rw[k];refine⟨.inr ⟨c',rfl,j,by rw[m db (Ne.symm d)];exact h⟩,?_⟩;unfold oQ;rw[if_neg Zo,if_neg Zo,Ni,Ni];omega
theorem j8 (g:List (List Nat)):(wQ g).length=g.length:=by simp[wQ]
theorem case_dfd:∀q1 q2:Bool,(q1=true/\q2=true)∨(q1=true/\q2=false)∨(q1=false)
 |true,true=> .inl ⟨rfl,rfl⟩
 |true,false=> .inr (.inl ⟨rfl,rfl⟩)
 |false,_=> .inr (.inr rfl)
theorem qI{C m1 m2 n:Nat}{pv:List Value}{e2 b7:Value}(hc:ChkAt w C m1 m2 pv e2 b7 n d)(hv:zw g)(hr:∀x,x<g.length->Reach (GE g) x)(e6:g.length<=2000000)
 (a5:zY w w.heap.size b7 (wQ g)) (hd:∀v b,d.1 v=some b->0<=b/\b.toNat<g.length) {l:List Int} {lv:Value} (hl:zY w w.heap.size lv l) (i:Nat) (hi:i<g.length) (k:Int) (hk:I64 k):
 T 64 #[L C,lv,I i,I k] w (ym w (l.all (yy d g i k))):=by
 obtain⟨la,lc,rfl,d4,d3⟩:=hl.form;obtain⟨da,dc,rfl,c4,d5⟩:=a5.form;rw[j8] at a5 c4 hc;have e5:l.length<=9223372036854775807:=Zo;obtain⟨hb,d1,c3,c2,d2,b2⟩:=hc
 obtain⟨p0,p1,p2,p3,p4,p5,rfl⟩:∃a b c d e f,pv=[a,b,c,d,e,f]:=by
  match pv,d1 with
  | [a,b,c,d,e,f],_=>exact⟨a,b,c,d,e,f,rfl⟩
 have e8:U w C 7 (.map (some m1)):=zA hb rfl;have e7:U w C 8 (.map (some m2)):=zA hb rfl;have f0:U w C 9 (.slice da g.length dc):=zA hb rfl;have u:=Ja (show wA w m1 n d.1/\wA w m2 n d.2/\(∀x,(d.1 x).isSome=(d.2 x).isSome)/\zw g/\(∀x,x<g.length->Reach (GE g) x)/\(∀v b,d.1 v=some b->0<=b/\b.toNat<g.length)/\i<g.length from⟨c3,c2,b2,hv,hr,hd,hi⟩);have HL:=Ja (show zY w w.heap.size (.slice la l.length lc) l/\zY w w.heap.size (.slice da g.length dc) (wQ g) from⟨hl,a5⟩);obtain⟨res,a1⟩:∃x,l.all (yy d g i k)=x:=⟨_,rfl⟩
 rw[a1];have t:=Ja a1;clear a1 hb c3 c2 d2 b2 hv hr hd hi hl a5 d4 d3 c4 d5;go_enter Try.func64,Try.ntmps64;generalize e1:w=W0 at *;clear e1;go_wp2
 go_loopw [16] (fun jv wx=>∃j:Nat,j<=l.length/\jv=I j/\wx=W0/\Hid ((l.take j).all (yy d g i k)=true)) (fun jv _=>l.length-(intOf jv).toNat)
 case atStart=>exact⟨0,Jt _,rfl,rfl,by rfl⟩
 case round=>
  obtain⟨j,hj,rfl,rfl,HJ⟩:=hrel;generalize e0:wr=W0 at *;clear e0
  by_cases a4:j<l.length
  ·have c7:(j:Int)<l.length:=Zo;have c5:=Ja a4;obtain⟨v,a3⟩:∃v,l[j]? =some v:=⟨_,Jd a4⟩
   obtain⟨b,o,rfl,hb,b6,a8⟩:=HL.out.1.get a3;rw[Nk] at b6;have a9:=u.out.1.lookOk a8;have b0:=u.out.2.1.look a8;have HT:=Ja (show(l.take (j+1)).all (yy d g i k)=((l.take j).all (yy d g i k) && yy d g i k v)/\(yy d g i k v=false->l.all (yy d g i k)=false) from⟨xX _ a3,fun h=>aaN _ a3 h⟩);clear a3 hb a4
   cases h1:d.1 v with
   |none=>
    rw[h1] at a9;have HN:=Ja (show yy d g i k v=false by unfold yy;rw[h1]);clear h1 b0;go_wp2;go_ret
    exact⟨uz (t.out.symm.trans (HT.out.2 HN.out)),Below.refl _ _⟩
   |some bz=>
    obtain⟨az,h2⟩:∃a,d.2 v=some a:=by
     have:=u.out.2.2.1 v;rw[h1] at this
     cases h:d.2 v with
     |none=>rw[h] at this;cases this
     |some a=>exact⟨a,rfl⟩
    obtain⟨d8,b5⟩:=u.out.2.2.2.2.2.1 v bz h1;obtain⟨db,rfl⟩:∃m:Nat,bz=(m:Int):=⟨bz.toNat,by omega⟩
    rw[Ni] at b5;rw[h1] at a9;rw[h2] at b0;simp only[Ot,Option.isSome_some] at a9 b0;have b1:yy d g i k v=(!(decide ((db:Int)=(i:Int)) && decide (k<=az)) && wE g db i):=by unfold yy;rw[h1,h2];rfl
    obtain⟨q1,a0⟩:∃q,decide ((db:Int)=(i:Int))=q:=⟨_,rfl⟩
    obtain⟨q2,d0⟩:∃q,decide (k<=az)=q:=⟨_,rfl⟩
    rw[a0,d0] at b1;have t1:(db==i)=q1:=by rw[<-a0];simp only[Bool.beq_eq_decide_eq,Int.natCast_inj]
    have c9:((db:Int)==(i:Int))=q1:=z6 a0;have c8:decide (db=i)=q1:=zZ a0 Zo;have HK:=Ja (show yy d g i k v=(!(q1 && q2) && wE g db i)/\db<g.length from⟨b1,b5⟩);clear h1 h2 b1 d8 b5 a0;rcases case_dfd q1 q2 with⟨rfl,rfl⟩|⟨rfl,rfl⟩|rfl
    ·have HN:=Ja (show yy d g i k v=false from HK.out.1);go_wp2;go_ret;exact⟨uz (t.out.symm.trans (HT.out.2 HN.out)),Below.refl _ _⟩
    all_goals (
     have HN:=Ja (show yy d g i k v=wE g db i from by rw[HK.out.1];rfl);have e3:=Ja (show nS g db i (i:Int) from .inr ⟨i,rfl,u.out.2.2.2.2.2.2,rfl⟩);go_wp2
     go_loopw [13] (fun xv wx=>∃x:Int,xv=I x/\W0=wx/\Hid (nS g db i x)) (fun xv _=>oQ g (intOf xv))
     case atStart=>exact⟨_,rfl,rfl,e3⟩
     case round=>
      obtain⟨x,rfl,rfl,HX⟩:=hrel;rcases HX.out with⟨rfl,c1⟩|⟨c,rfl,b3,a6⟩
      ·have u1:((-1:Int) !=(db:Int))=true:=by rw[bne_iff_ne];omega
       have HF:=Ja (HN.out.trans c1);clear c1;go_wp2;go_ret;exact⟨uz (t.out.symm.trans (HT.out.2 HF.out)),Below.refl _ _⟩
      ·by_cases b4:c=db
       ·subst b4;have HY:=Ja (show yy d g i k v=true by rw[HN.out,<-a6];exact lC u.out.2.2.2.1 u.out.2.2.2.2.1 b3);have u1:((c:Int) !=(c:Int))=false:=by rw[bne_eq_false_iff_eq]
        clear a6 b3 t1 c9 c8;go_wp2;go_roundw
        case rel=>exact⟨j+1,c5.out,by go_num,by trivial,Ja (by rw[HT.out.1,HJ.out,HY.out];rfl)⟩
        case measure=>have:=c5.out;simp[intOf];omega
       ·have u1:((c:Int) !=(db:Int))=true:=by rw[bne_iff_ne];omega
        have u2:((c:Int) !=-1)=true:=by rw[bne_iff_ne];omega
        obtain⟨y,hy,c0,b8⟩:=lT u.out.2.2.2.1 u.out.2.2.2.2.1 b3 a6 b4;obtain⟨b9,o9,rfl,d7,d6,_⟩:=HL.out.2.get hy;rw[Nk] at d6;have HY:=Ja (Jb c0 b8);have e4:(c:Int)<g.length:=Zo;clear a6 b4 hy c0 b8 d7;go_wp2;go_roundw
        case rel=>exact⟨y,rfl,by trivial,Ja HY.out.1⟩
        case measure=>have:=HY.out.2;simpa[intOf] using this)
  ·obtain rfl:j=l.length:=by omega
   have c7:¬(l.length:Int)<l.length:=Zo;have a2:=HJ.out;rw[Nl] at a2;have HA:=Ja a2;clear a4 a2;go_wp2;go_ret;exact⟨uz (t.out.symm.trans HA.out),Below.refl _ _⟩
theorem pZ:I64 0:=⟨by omega,by omega⟩
theorem i64_neg:I64 (-1):=⟨by omega,by omega⟩
def rd (t:ITerm)(ops:List IOp):IProg:=⟨[[⟨[],ops,t⟩]],[0],0,-1,[],[]⟩
def mL (w:World)(p:IProg)(e:Ending)(w':World):Prop:=∃V,e=.returned (yH V p)/\ProgIn w' w'.heap.size V p/\O w w'
theorem yN.nil{α:Type}{sz:Nat}{R:World->Nat->Nat->Nat->α->Prop}{B:Nat}:yN sz R w B (F) []:=
 ⟨none,0,rfl,Je _,by omega,fun k x hk=>by simp at hk⟩
theorem yN.one{α:Type}{sz:Nat}{R:World->Nat->Nat->Nat->α->Prop}{B b:Nat}{x:α}(hb:b<B)(h:R w B b 0 x):yN sz R w B (N b 1 1) [x]:=
 ⟨_,1,rfl,Je _,by omega,fun k y hk=>by
   have c:k=0:=by have:=(Jh.1 hk).1;simp at this;omega
   subst c;cases hk
   exact⟨b,0,rfl,hb,by simpa using h⟩⟩
def oz (l:List (IOp×Value)):Prop:=∀q∈l,qN q.1/\q.1.args=[]/\q.2=F
theorem eV {l:List (IOp×Value)}(h:oz l)(w:World)(B:Nat):∀q∈l,qN q.1/\zY w B q.2 q.1.args:=fun q hq=>by
 obtain⟨g,d,c⟩:=h q hq;rw[d,c];exact⟨g,yN.nil⟩
theorem Try.info_irop:(Try.prog.info? 27).map (fun i=>(i.zero,i.size,i.bytes))=some (some (.agg #[I 0,I 0,I 0,I 0,G 0,.slice none 0 0]),6,64):=by kernel_rfl
theorem Try.info_irfunc:(Try.prog.info? 39).map (fun i=>(i.zero,i.size,i.bytes))=some (some (.agg #[.slice none 0 0]),1,24):=by kernel_rfl
theorem yD{c:Nat}{e:TypeId}{size n:Nat}{v:Value}(h:w.ownsRow c e size v n xs)(hk:∀k,v.ownBlock=some k->w'.heap[k]? =w.heap[k]?):w'.ownsRow c e size v n xs:=by
 refine⟨h.1,?_⟩;rcases h.2 with j|⟨g,d,cur,rfl,hg,i,r⟩
 ·exact .inl j
 ·exact .inr ⟨g,d,cur,rfl,hg,(hk g rfl).trans i,r⟩
theorem yM.cells{b n:Nat}{e:TypeId}(h:Q w b xs.toArray e)(d:xs.length=n)(c:∀u∈xs,u.oneCell'=true):yM w n (N b 1 1) 1 xs:=
 ⟨_,_,rfl,by omega,c,.inr ⟨_,rfl,Oi (cs:=xs.toArray) h⟩⟩
theorem mG (l:List Nat):(y9 l).size=l.length:=by
 unfold y9 strOfNums
 show Array.size _=_
 simp
structure DOk (d:wO) (done:List Int) (Df:Int->Int->Int->Prop):Prop where
 dom:∀v,(d.1 v).isSome=true↔v∈done
 val:∀v i k,Df v i k->d.1 v=some i/\d.2 v=some k
theorem DOk.def{c:List Int}(h:DOk d c Df){v i:Int}(l:v ∉ c)(hr:0<=v/\v<=65535):
 ∃d',rB d v i k=some d'/\DOk d' (c++ [v]) (fun v' i' k'=>Df v' i' k'∨(v'=v/\i'=i/\k'=k)):=by
 have o:¬((d.1 v).isSome=true∨v<0∨65535<v):=by
  rintro(e|e|e)
  ·exact l ((h.dom v).1 e)
  ·omega
  ·omega
 refine⟨(lS d.1 v i,lS d.2 v k),?_,fun w=>?_,fun w i' k' g=>?_⟩
 ·unfold rB;rw[if_neg o]
 ·unfold lS;simp only[Jl,Jo]
  by_cases e:w=v
  ·rw[if_pos e];simp[e]
  ·rw[if_neg e,h.dom w];simp[e]
 ·unfold lS;rcases g with g|⟨rfl,rfl,rfl⟩
  ·have m:=h.val w i' k' g;have j:w≠v:=fun e=>l (by rw[<-e];exact(h.dom w).1 (by rw[m.1];rfl))
   simp only[if_neg j];exact m
  ·simp
theorem DOk.weak{c:List Int}{Dg:Int->Int->Int->Prop}(h:DOk d c Df)(hg:∀v i k,Dg v i k->Df v i k):DOk d c Dg:=⟨h.dom,fun v i k e=>h.val v i k (hg v i k e)⟩
theorem DOk.pars {i:Int}:∀(vs:List Int) (d:wO) (done:List Int) (Df:Int->Int->Int->Prop),DOk d done Df->(done++vs).Nodup->(∀v∈vs,0<=v/\v<=65535)->
 ∃d',vJ i vs d=some d'/\DOk d' (done++vs) (fun v' i' k'=>Df v' i' k'∨(v'∈vs/\i'=i/\k'=-1))
 | [],d,done,Df,h,_,_=>⟨d,rfl,by rw[Ua];exact h.weak (fun v i k e=>e.elim (fun e=>e) (fun e=>by cases e.1))⟩
 |v::vs,d,done,Df,h,hn,hr=>by
  have hv:v ∉ done:=fun e=>(Qq.1 hn).2.2 v e v (.head _) rfl
  obtain⟨d1,m,l⟩:=h.def (i:=i) (k:=-1) hv (hr v (.head _));have c:((done++ [v])++vs).Nodup:=by rw[Nv];exact hn
  obtain⟨d2,j,g⟩:=DOk.pars vs d1 _ _ l c (fun w hw=>hr w (.tail _ hw));refine⟨d2,by unfold vJ;rw[m];exact j,?_⟩;rw[Nv] at g;refine g.weak (fun w i' k' e=>?_);rcases e with e|⟨e1,e2,e3⟩
  ·exact .inl (.inl e)
  ·rcases Jq.1 e1 with rfl|e1
   ·exact .inl (.inr ⟨rfl,e2,e3⟩)
   ·exact .inr ⟨e1,e2,e3⟩
theorem gY{os:List IOp}(h:0<=o.res):abo (o::os)=o.res::abo os:=by unfold abo;rw[List.filter_cons_of_pos (by simpa using h)];rfl
theorem abm{os:List IOp}(h:¬0<=o.res):abo (o::os)=abo os:=by unfold abo;rw[List.filter_cons_of_neg (by simpa using h)]
theorem DOk.ops {p:IProg}{i:Int}:∀(os:List IOp) (k:Int) (d:wO) (done:List Int) (Df:Int->Int->Int->Prop),DOk d done Df->(done++abo os).Nodup->(∀v∈abo os,0<=v/\v<=65535)->(∀o∈os,opF p o=true)->
 ∃d',sS p i os k d=some d'/\DOk d' (done++abo os) (fun v' i' k'=>Df v' i' k'∨(i'=i/\∃(j:Nat) (o:IOp),os[j]? =some o/\o.res=v'/\0<=v'/\k'=k+(j:Int)))
 | [],k,d,done,Df,h,_,_,_=>⟨d,rfl,by
  rw[show abo []=[] from rfl,Ua]
  exact h.weak (fun v i k e=>e.elim (fun e=>e) (fun e=>by obtain⟨_,j,o,h1,_⟩:=e;simp at h1))⟩
 |o::os,k,d,done,Df,h,hn,hr,ho=>by
  by_cases h0:0<=o.res
  ·rw[gY h0] at hn hr ⊢;have hv:o.res ∉ done:=fun e=>(Qq.1 hn).2.2 _ e _ (.head _) rfl
   obtain⟨d1,h1,m⟩:=h.def (i:=i) (k:=k) hv (hr _ (.head _));have l:((done++ [o.res])++abo os).Nodup:=by rw[Nv];exact hn
   obtain⟨d2,g,c⟩:=DOk.ops os (k+1) d1 _ _ m l (fun w hw=>hr w (.tail _ hw)) (fun x hx=>ho x (.tail _ hx));refine⟨d2,by unfold sS;rw[if_pos (ho o (.head _)),if_pos h0,h1];exact g,?_⟩;rw[Nv] at c;refine c.weak (fun w i' k' e=>?_);rcases e with e|⟨e1,j,x,e2,e3,e4,e5⟩
   ·exact .inl (.inl e)
   ·cases j with
    |zero=>
     cases e2
     exact .inl (.inr ⟨e3.symm,e1,by omega⟩)
    |succ j=>exact .inr ⟨e1,j,x,e2,e3,e4,by omega⟩
  ·rw[abm h0] at hn hr ⊢;obtain⟨d2,g,c⟩:=DOk.ops os (k+1) d done Df h hn hr (fun x hx=>ho x (.tail _ hx));refine⟨d2,by unfold sS;rw[if_pos (ho o (.head _)),if_neg h0];exact g,c.weak (fun w i' k' e=>?_)⟩;rcases e with e|⟨e1,j,x,e2,e3,e4,e5⟩
   ·exact .inl e
   ·cases j with
    |zero=>cases e2;omega
    |succ j=>exact .inr ⟨e1,j,x,e2,e3,e4,by omega⟩
theorem DOk.blks {p:IProg}{blocks:List IBlk}:∀(bs:List IBlk) (i:Nat) (d:wO) (done:List Int) (Df:Int->Int->Int->Prop),DOk d done Df->(done++aaI bs).Nodup->(∀v∈aaI bs,0<=v/\v<=65535)->(∀b∈bs,(∀o∈b.ops,opF p o=true)/\wn blocks b.term=true)->
 ∃d',uH p blocks bs i d=some d'/\DOk d' (done++aaI bs) (fun v' i' k'=>Df v' i' k'∨∃q:Nat,i'=((i+q:Nat):Int)/\fB bs v' q k')
 | [],i,d,done,Df,h,_,_,_=>⟨d,rfl,by
  rw[show aaI []=[] from rfl,Ua]
  exact h.weak (fun v i k e=>e.elim (fun e=>e) (fun e=>by obtain⟨q,_,b,hb,_⟩:=e;simp at hb))⟩
 |b::bs,i,d,done,Df,h,hn,hr,ho=>by
  have hd:aaI (b::bs)=b.params++(abo b.ops++aaI bs):=by
   show abu b++aaI bs=_
   unfold abu;rw[Nv]
  rw[hd] at hn hr ⊢;have n1:(done++b.params).Nodup:=by rw[<-Nv] at hn;exact(Qq.1 hn).1
  obtain⟨d1,a1,a2⟩:=DOk.pars (i:=i) b.params d done Df h n1 (fun v hv=>hr v (Jz _ hv));have n2:((done++b.params)++abo b.ops).Nodup:=by rw[<-Nv,<-Nv] at hn;exact(Qq.1 hn).1
  obtain⟨d2,b1,b2⟩:=DOk.ops (p:=p) (i:=i) b.ops 0 d1 _ _ a2 n2 (fun v hv=>hr v (Qf _ (Jz _ hv))) (ho b (.head _)).1;have n3:(((done++b.params)++abo b.ops)++aaI bs).Nodup:=by rw[Nv,Nv];exact hn
  obtain⟨d3,c1,c2⟩:=DOk.blks bs (i+1) d2 _ _ b2 n3 (fun v hv=>hr v (Qf _ (Qf _ hv))) (fun x hx=>ho x (.tail _ hx));refine⟨d3,?_,?_⟩
  ·unfold uH pS;rw[a1,Nw,b1,Nw,if_pos (ho b (.head _)).2,Nw];exact c1
  ·rw[Nv,Nv] at c2;refine c2.weak (fun w i' k' e=>?_);rcases e with e|⟨q,e1,x,e2,e3⟩
   ·exact .inl (.inl (.inl e))
   ·cases q with
    |zero=>
     cases e2;rcases e3 with⟨e3,e4⟩|⟨j,o,e3,e4,e5,e6⟩
     ·exact .inl (.inl (.inr ⟨e4,by rw[e1];rfl,e3⟩))
     ·exact .inl (.inr ⟨by rw[e1];rfl,j,o,e4,e5,e6,by omega⟩)
    |succ q=>exact .inr ⟨q,by rw[e1];omega,x,e2,e3⟩
abbrev ack (p:IProg)(f:List IBlk)(next:Nat)(pl:List Nat):Prop:=∃cur vals,MInv p f cur next vals (fun _=>False) (fun _=>False) pl
section
variable {p:IProg} {f:List IBlk} {next:Nat} {pl:List Nat} (h:ack p f next pl)
include h
theorem ack.term:∀b∈f,wn f b.term=true:=by
 obtain⟨cur,vals,h⟩:=h;intro b hb;obtain⟨i,hi⟩:=Ny hb;obtain⟨d,c,_⟩:=h.term i b hi (fun e=>e);unfold wn;rw[Jm,Oe];refine⟨fun e he=>?_,d⟩;obtain⟨s,u,bs,e1,e2,e3,e4,_⟩:=c e he;have hs:=(Jh.1 e3).1
 have hb:xz f e.block=bs:=by
  unfold xz;rw[e1,Ni,Jj,e3];rfl
 unfold uM;simp only[Jm,decide_eq_true_eq];exact⟨⟨by omega,by omega⟩,by rw[hb];exact e4⟩
theorem ack.ne:f≠ []:=by
 obtain⟨cur,vals,h⟩:=h;intro e;have:=h.curl;rw[e] at this;simp at this
theorem ack.valid:zw (zy f):=nO h.ne h.term
theorem ack.ops:∀b∈f,∀o∈b.ops,opF p o=true:=by
 obtain⟨cur,vals,h⟩:=h;intro b hb o ho;obtain⟨i,hi⟩:=Ny hb;obtain⟨j,c⟩:=Ny ho;exact(h.ops i b hi j o c).1
end
theorem gK {f:List IBlk}{u:Nat}{b:IBlk}(hb:f[u]? =some b):succ (zy f) u=b.term.to.map fun e=>e.block.toNat:=by
 unfold succ zy;rw[Jj,Jr,hb];rfl
section
variable {p:IProg} {f:List IBlk} {next:Nat} {pl:List Nat} (h:ack p f next pl)
include h
theorem ack.reach(hi:i<f.length):Reach (GE (zy f)) i:=by
 obtain⟨cur,vals,h⟩:=h;have hr:=h.rch i hi (fun e=>e);clear hi
 induction hr with
 |zero=>exact .refl trivial
 |step _ h2 h3 h4 ih=>
  refine .snoc ih ?_ trivial
  show _∈succ _ _
  rw[gK h2];exact Nu.2 ⟨_,h3,by rw[h4];rfl⟩
theorem ack.dom{b:Nat}(o:Abv pl b i):Dom (GE (zy f)) b i:=by
 obtain⟨cur,vals,h⟩:=h;intro q
 induction q with
 |refl hne=>
  cases o with
  |refl=>exact hne rfl
  |up _ h0 _=>omega
 |@snoc u s _ he hne ih=>
  cases o with
  |refl=>exact hne rfl
  |up h0 h1 h2=>
   have c:s∈succ (zy f) u:=he
   have j:u<f.length:=by
    rcases Nat.lt_or_ge u f.length with k|l
    ·exact k
    ·unfold succ at c;rw[Jj,Of (by rw[xu];exact l)] at c;cases c
   obtain⟨x,g⟩:∃x,f[u]? =some x:=⟨_,Jd j⟩
   rw[gK g] at c;obtain⟨e,m,d⟩:=Nu.1 c;obtain⟨_,t2,_⟩:=h.term u x g (fun e=>e);obtain⟨s',u',bs,e1,_,_,_,e5,e6⟩:=t2 e m;rw[e1,Ni] at d;subst d;rw[h0] at e5;cases e5;exact ih (h2.trans e6)
theorem ack.doms{b:Nat}(c:Abv pl b i)(hi:i<f.length):wE (zy f) b i=true:=by
 have hp:∀i u,pl[i]? =some u->0<i->u<i:=by obtain⟨cur,vals,h⟩:=h;exact h.par
 have hb:b<f.length:=by have:=c.le hp;omega
 exact(yO h.valid b i).2 ⟨h.reach hb,h.reach hi,h.dom c⟩
theorem ack.shapes (l:next<=65536):∃d,wg p f=some d/\∀v i k,fB f v i k->d.1 v=some (i:Int)/\d.2 v=some k:=by
 have ht:=h.term;have ho:=h.ops;obtain⟨cur,vals,h⟩:=h;have j:DOk ((fun _=>none,fun _=>none):wO) [] (fun _ _ _=>False):=⟨fun v=>by simp,fun v i k e=>e.elim⟩
 obtain⟨d,g,c⟩:=DOk.blks (p:=p) (blocks:=f) f 0 _ _ _ j (by rw[Op];exact h.nd) (fun v hv=>by have:=h.rng v hv;omega) (fun b hb=>⟨ho b hb,ht b hb⟩);refine⟨d,g,fun v i k hd=>c.val v i k (.inr ⟨i,by rw[Ng],hd⟩)⟩
theorem ack.known(c:∀v i k,fB f v i k->d.1 v=some (i:Int)/\d.2 v=some k){v:Int}(hi:i<f.length)(hk:Kn f pl v i k):yy d (zy f) i k v=true:=by
 obtain⟨b,a,l,j,g⟩:=hk;obtain⟨e1,e2⟩:=c v b a l;unfold yy;rw[e1,e2];simp only[Jm,Bool.not_eq_true',Ni];refine⟨?_,h.doms j hi⟩;rw[Bool.and_eq_false_iff]
 by_cases e:b=i
 ·right;have:=g e;simp;omega
 ·left;simp;omega
end
theorem gM{i:Int}:∀(os:List IOp) (k:Nat),(∀(j:Nat) (o:IOp),os[j]? =some o->(rR o).all (yy d g i ((k+j:Nat):Int))=true)->xF d g i os k=true
 | [],k,h=>rfl
 |o::os,k,h=>by
  unfold xF;rw[Jm];refine⟨h 0 o rfl,?_⟩
  have:=gM os (k+1) (fun j x hx=>by
   have:=h (j+1) x hx;rw[show k+1+j=k+(j+1) by omega]
   exact this)
  rw[show((k+1:Nat):Int)=(k:Int)+1 by omega] at this;exact this
theorem fR:∀(bs:List IBlk) (i:Nat),(∀(q:Nat) (b:IBlk),bs[q]? =some b->aaC d g b ((i+q:Nat):Int)=true)->tO d g bs i=true
 | [],i,h=>rfl
 |b::bs,i,h=>by
  unfold tO;rw[Jm];refine⟨h 0 b rfl,?_⟩
  have:=fR bs (i+1) (fun q x hx=>by
   have:=h (q+1) x hx;rw[show i+1+q=i+(q+1) by omega]
   exact this)
  rw[show((i+1:Nat):Int)=(i:Int)+1 by omega] at this;exact this
theorem acd(hv:zw g)(hr:∀i,i<g.length->Reach (GE g) i):(vD g).length=g.length:=by
 obtain⟨ns,c⟩:=adR hv;rw[c.eq]
 have:=fg c.nodup (List.nodup_range (n:=g.length)) (fun x=>by
  rw[Ol]
  exact⟨fun hx=>c.lt x hx,fun hx=>(c.mem x).2 (hr x hx)⟩)
 rw[this,Un]
theorem ack.rest{p:IProg}{f:List IBlk}{next:Nat}{pl:List Nat}(h:ack p f next pl)(g:∀v i k,fB f v i k->d.1 v=some (i:Int)/\d.2 v=some k):iM f d=true:=by
 unfold iM;rw[Jm,decide_eq_true_eq];refine⟨?_,?_⟩
 ·rw[acd h.valid (fun i hi=>h.reach (by rw[xu] at hi;exact hi)),xu]
 ·refine fR f 0 (fun q b hb=>?_);rw[Ng];have c:=(Jh.1 hb).1;unfold aaC;rw[Jm];have m:=h;obtain⟨cur,vals,l⟩:=m;refine⟨gM b.ops 0 (fun j o ho=>?_),?_⟩
  ·rw[Oe];intro v hv;rw[Ng];exact h.known g c ((l.ops q b hb j o ho).2 v hv)
  ·rw[Oe];intro v hv;exact h.known g c ((l.term q b hb (fun e=>e)).2.2 v hv)
theorem ack.function {p:IProg}{f:List IBlk}{next:Nat}{pl:List Nat}(h:ack p f next pl)(k:next<=65536){n:Nat}(hf:p.funcs[n]? =some f){b0:IBlk}(c:f[0]? =some b0)(j:(b0.params.length:Int)=p.args.getD n 0):yi p n=true:=by
 obtain⟨d,i,l⟩:=h.shapes k;have g:=h.rest l;unfold yi;rw[Jj,hf,Ot]
 match f,i,g,c with
 | [],_,_,c=>simp at c
 |b::bs,i,g,c=>
  cases c;simp only[Jm,decide_eq_true_eq];refine⟨j,?_⟩;rw[i];exact g
def jx (blocks:List IBlk):Prop:=∀b∈blocks,(∀o∈b.ops,o.args.length<=2000000)/\∀e∈b.term.to,e.args.length<=2000000
section
variable {P:Program} {ops:Array Oper} {Q:Exit->Act->World->Prop} {md:Region.Mode} {S:World->Prop} {L:Nat}
def uO (P:Program)(md:Region.Mode)(ops:Array Oper)(Q:Exit->Act->World->Prop)(S:World->Prop)(L:Nat):Nat->Array Bool->Act->World->Prop
 |0,listed,a,w=>Region.ready md ops listed=[]/\Q .normal a w
 |fuel+1,listed,a,w=>
  (Region.ready md ops listed=[]->Q .normal a w)/\
  ∀i∈Region.ready md ops listed,wpOp P ops Q i (fun a' w'=>(i≠L->S w')/\uO P md ops Q S L fuel (listed.setIfInBounds i true) a' w') a w
theorem pL:∀(fuel:Nat) (listed:Array Bool) (a:Act) (w:World),uO P md ops Q S L fuel listed a w->wpAny P md ops Q fuel listed a w
 |0,_,_,_,h=>h
 |fuel+1,_,_,_,h=>⟨h.1,fun i hi=>wpOp_mono (fun a' w' h'=>pL fuel _ a' w' h'.2) (h.2 i hi)⟩
def mw (md:Region.Mode)(ops:Array Oper)(L i:Nat):Bool:=((ops[L]?).map fun o=>o.after.any fun e=>Region.binds md e && e.on==i).getD false
theorem waits_ne{j:Nat}{c:Array Bool}(g:mw md ops L i=true)(hi:c.getD i true=false)(m:j∈Region.ready md ops c):j≠L:=by
 rintro rfl;obtain⟨_,oj,l,h⟩:=mem_ready.1 m;unfold mw at g;rw[l] at g;obtain⟨e,o,hb⟩:=Array.any_eq_true'.1 g;simp only[Jm,beq_iff_eq] at hb;have d:=h e o hb.1;rw[hb.2] at d;rcases Nat.lt_or_ge i c.size with k|k
 ·simp[k] at hi d;rw[hi] at d;cases d
 ·simp[Array.getElem?_eq_none k] at d
theorem nD{v:Value}(hi:ops[i]? =some oi)(a3:mw md ops L i=true)(m:∀(j:Nat) (o:Oper) cs b,ops[j]? =some o->o.op≠ .select cs b)
 (hQ:∀c a w,Q (.panic c) (a.put oi.dst v) w->Q (.panic c) a w):
 ∀(fuel:Nat) (listed:Array Bool) (a:Act) (w:World),
  (∀j oj,ops[j]? =some oj->j≠i->listed.getD j true=false->(∀e∈oj.after,Region.binds md e=true->e.on≠i)->oi.apart ops oj=true)->
  i∈Region.ready md ops listed->YieldsIf P ops S oi v a->S w->
  uO P md ops Q S L fuel (listed.setIfInBounds i true) (a.put oi.dst v) w->uO P md ops Q S L (fuel+1) listed a w:=by
 intro fuel
 induction fuel with
 |zero=>
  intro listed a w _ hr y x H;refine⟨fun h=>(by rw[h] at hr;cases hr),fun j hj=>?_⟩
  by_cases d:j=i
  ·subst d;exact y.wpOp hi x ⟨fun _=>x,H⟩
  ·have:=ready_mono hj d;rw[H.1] at this
   cases this
 |succ fuel ih=>
  intro listed a w l hr y x H;refine⟨fun h=>(by rw[h] at hr;cases hr),fun j hj=>?_⟩
  by_cases d:j=i
  ·subst d;exact y.wpOp hi x ⟨fun _=>x,H⟩
  ·have g:=H.2 j (ready_mono hj d);have a4:j≠L:=waits_ne a3 (mem_ready.1 hr).1 hj;obtain⟨t,oj,q,a2⟩:=mem_ready.1 hj
   have a1:∀e∈oj.after,Region.binds md e=true->e.on≠i:=fun e he hb heq=>by
    have g:=a2 e he hb;have h0:=(mem_ready.1 hr).1;rw[heq] at g;rcases Nat.lt_or_ge i listed.size with h'|h'
    ·simp[h'] at h0 g;rw[h0] at g;cases g
    ·simp[Array.getElem?_eq_none h'] at g
   have h2:=wpOp_putIf q (l j oj q d t a1) (fun cs b=>m i oi cs b hi) (fun cs b=>m j oj cs b q) hQ y g
   have u:∀k ok,ops[k]? =some ok->k≠i->(listed.setIfInBounds j true).getD k true=false->
    (∀e∈ok.after,Region.binds md e=true->e.on≠i)->oi.apart ops ok=true:=fun k ok hk hki hun hno=>by
    refine l k ok hk hki ?_ hno
    by_cases a0:j=k
    ·subst a0;exact t
    ·rw[getD_set_ne true a0] at hun;exact hun
   refine wpOp_mono (fun a' w' h3=>⟨h3.2.1,ih (listed.setIfInBounds j true) a' w' u (ready_mono hr (Ne.symm d)) h3.1 (h3.2.1 a4) ?_⟩) h2;rw[Array.setIfInBounds_comm _ _ d];exact h3.2.2
theorem zF{v:Value}{fuel:Nat}{d:Array Bool}{a:Act}(hi:ops[i]? =some oi)(g:mw md ops L i=true)
 (hs:Region.noSelect ops=true) (hf:Region.free md ops d i=true) (hr:(Region.ready md ops d).contains i=true)
 (l:∀c a w,Q (.panic c) (a.put oi.dst v) w->Q (.panic c) a w) (j:YieldsIf P ops S oi v a) (k:S w)
 (h:uO P md ops Q S L fuel (d.setIfInBounds i true) (a.put oi.dst v) w):uO P md ops Q S L (fuel+1) d a w:=
 nD hi g (Region.noSelect_spec hs) l fuel d a w (Region.free_spec hi hf) (by simpa using hr) j k h
theorem Tl(i:Nat){v:Value}{fuel:Nat}{d:Array Bool}{a:Act}(h:uO P md ops Q S L fuel (d.setIfInBounds i true) (a.put oi.dst v) w)(hi:ops[i]? =some oi:=by rfl)(g:mw md ops L i=true:=by kernel_rfl)
 (hs:Region.noSelect ops=true:=by kernel_rfl) (hf:Region.free md ops d i=true:=by kernel_rfl) (hr:(Region.ready md ops d).contains i=true:=by kernel_rfl)
 (l:∀c a w,Q (.panic c) (a.put oi.dst v) w->Q (.panic c) a w:=by exact fun _ _ _ h=>h) (j:YieldsIf P ops S oi v a:=by exact Or.inl ⟨by rfl,by intro w hSw;(try dsimp only at hSw);go_simp;try with_reducible rfl⟩) (k:S w:=by assumption):uO P md ops Q S L (fuel+1) d a w:=
 zF hi g hs hf hr l j k h
def zS (P:Program)(md:Region.Mode)(ops:Array Oper)(Q:Exit->Act->World->Prop)(S:World->Prop)(L:Nat)(fuel:Nat)(listed:Array Bool)(a:Act)(w:World)(rs:List Nat):Prop:=
 ∀i∈rs,wpOp P ops Q i (fun a' w'=>(i≠L->S w')/\uO P md ops Q S L fuel (listed.setIfInBounds i true) a' w') a w
theorem zS.nil{fuel:Nat}{c:Array Bool}{a:Act}:zS P md ops Q S L fuel c a w []:=fun _ h=>by cases h
theorem zS.cons{fuel:Nat}{c:Array Bool}{a:Act}{o:Oper}(ho:ops[i]? =some o)
 (h:∀K':Act->World->Prop,Shut (∀a w,S w->(S w->uO P md ops Q S L fuel (c.setIfInBounds i true) a w)->K' a w)->if Region.wanted o (yielded ops a.tmps)=true then Oper.wp P o a w K' Q else K' (a.put o.dst undef) w)
 (hs:zS P md ops Q S L fuel c a w rs):zS P md ops Q S L fuel c a w (i::rs):=fun j d=>by
 rcases Jq.1 d with rfl|d
 ·exact wpOp_step ho (fun K' hK=>h K' (fun a w hS hW=>hK a w ⟨fun _=>hS,hW hS⟩))
 ·exact hs j d
theorem zS.last{fuel:Nat}{c:Array Bool}{a:Act}{o:Oper}(ho:ops[L]? =some o)
 (h:∀K':Act->World->Prop,Shut (∀a w,uO P md ops Q S L fuel (c.setIfInBounds L true) a w->K' a w)->if Region.wanted o (yielded ops a.tmps)=true then Oper.wp P o a w K' Q else K' (a.put o.dst undef) w):
 zS P md ops Q S L fuel c a w [L]:=fun j d=>by
 rcases Jq.1 d with rfl|d
 ·exact wpOp_step ho (fun K' hK=>h K' (fun a w hW=>hK a w ⟨fun e=>absurd rfl e,hW⟩))
 ·cases d
theorem z8{fuel:Nat}{c:Array Bool}{a:Act}(hr:Region.ready md ops c=rs)(d:rs≠ [])
 (h:zS P md ops Q S L fuel c a w rs):uO P md ops Q S L (fuel+1) c a w:=⟨fun h0=>absurd (hr ▸ h0) d,hr ▸ h⟩
theorem xj{listed:Array Bool}{a:Act}(hr:Region.ready md ops listed=[])(h:Q .normal a w):∀fuel,uO P md ops Q S L fuel listed a w
 |0=>⟨hr,h⟩
 |_+1=>⟨fun _=>h,by rw[hr];simp⟩
theorem yQ{a:Act}(L:Nat)(hm:P.follows .mixedOrders=true)(c:S w.drew)
 (h:S w.drew->uO P .any ops Q S L ops.size (Array.replicate ops.size false) a w.drew):(Code.region id ops true).wp P Q a w:=
 wp_region_any hm (pL _ _ _ _ (h c))
end
theorem afT (w:World){a b:Rg}(g:a.ok)(hb:b.ok):T 35 #[.agg #[G (a.lo:Int),G (a.hi:Int)],.agg #[G (b.lo:Int),G (b.hi:Int)]] w (tr w (mb a b)):=by
 have b0:=g.1;have a9:=g.2;have d:=hb.1;have a8:=hb.2
 by_cases h:b.hi=0
 ·have hr:mb a b=xr:=by unfold mb;rw[if_pos h]
  rw[hr];have l:((b.hi:Int)==0)=true:=by rw[beq_iff_eq];omega
  clear hr h g hb;go_enter Try.func35,Try.ntmps35;go_wp2_with (go_at_call 20;go_must (refine(re _).mono ?_;rintro e w1 ⟨rfl,d⟩;have hk:Q w1 (w.heap.size+1+1) #[G 0,G 0] 48:=zH d (zI Zs) Zs;have f0:=zA (i:=0) hk rfl;have f1:=zA (i:=1) hk rfl;have g0:=zE (i:=0) hk;have g1:=zE (i:=1) hk;have a4:=lt_of_block hk;have a5:=Below.trans (show O w _ from by repeat' (first|exact Below.refl _ _|(refine Below.alloc ?_ (by first|(simp;done)|(simp;omega)) _))) (d.mono (by first|(simp;done)|(simp;omega)));clear d hk))
  refine bodyPost_ret (v:=.agg #[G 0,G 65535]) ?_ rfl ⟨rfl,by repeat' (first|exact Below.refl _ _|assumption|(refine Below.alloc ?_ (by first|(simp;done)|(simp;omega)) _)|(refine Below.setCell ?_ (by first|(simp;done)|(simp;omega)) _))⟩;rw[zM rfl];go_simp
 ·have l:((b.hi:Int)==0)=false:=Ze;obtain⟨m,hm⟩:∃m,max b.lo 1=m:=⟨_,rfl⟩
  have j:=agJ b.lo 1;rw[hm] at j;have a2:((m:Int)==0)=false:=Ze;have a1:0<(m:Int):=Zo;have a6:0<(b.hi:Int):=Zo;have a0:¬b.hi=0:=Zo;have y:¬m=0:=Zo;have x:¬(b.hi:Int)=0:=Zo;have u:¬(m:Int)=0:=Zo;have hr:mb a b=⟨a.lo/b.hi,a.hi/m⟩:=by unfold mb;rw[if_neg h,hm]
  rw[hr];have b1:∀(ts:Array TypeId) (t:TypeId) (W:World),(Builtin.max_ ts t #[G (b.lo:Int),G 1]).run Try.prog W=.ok (G m) W:=j;have e1:=ar8 a.lo b.hi Zo;have e2:=ar8 a.hi m Zo;have k:=Ja (Jb e1 e2);clear hr h g hb hm j e1 e2;go_enter Try.func35,Try.ntmps35;go_upto_region 1 with fail;have c:=Ja (show O w (((w.alloc (A #[G (a.lo:Int),G (a.hi:Int)] 48)).alloc (A #[G (b.lo:Int),G (b.hi:Int)] 48)).alloc (A #[G 0,G 0] 48))/\Q (((w.alloc (A #[G (a.lo:Int),G (a.hi:Int)] 48)).alloc (A #[G (b.lo:Int),G (b.hi:Int)] 48)).alloc (A #[G 0,G 0] 48)) w.heap.size #[G (a.lo:Int),G (a.hi:Int)] 48/\Q (((w.alloc (A #[G (a.lo:Int),G (a.hi:Int)] 48)).alloc (A #[G (b.lo:Int),G (b.hi:Int)] 48)).alloc (A #[G 0,G 0] 48)) (w.heap.size+1) #[G (b.lo:Int),G (b.hi:Int)] 48/\Q (((w.alloc (A #[G (a.lo:Int),G (a.hi:Int)] 48)).alloc (A #[G (b.lo:Int),G (b.hi:Int)] 48)).alloc (A #[G 0,G 0] 48)) (w.heap.size+1+1) #[G 0,G 0] 48 from⟨by repeat' (first|exact Below.refl _ _|assumption|(refine Below.alloc ?_ (by first|(simp;done)|(simp;omega)) _)|(refine Below.setCell ?_ (by first|(simp;done)|(simp;omega)) _)),zB (zB (zI rfl)),zB (zI Zs),zI Zs⟩);generalize ((w.alloc (A #[G (a.lo:Int),G (a.hi:Int)] 48)).alloc (A #[G (b.lo:Int),G (b.hi:Int)] 48)).alloc (A #[G 0,G 0] 48)=X at *;have o:=Ja (show ∀W,O X W->U W w.heap.size 0 (G (a.lo:Int))/\U W w.heap.size 1 (G (a.hi:Int))/\U W (w.heap.size+1) 0 (G (b.lo:Int))/\U W (w.heap.size+1) 1 (G (b.hi:Int)) from fun W hb=>⟨zA (zH hb c.out.2.1 (lt_of_block c.out.2.1)) rfl,zA (zH hb c.out.2.1 (lt_of_block c.out.2.1)) rfl,zA (zH hb c.out.2.2.1 (lt_of_block c.out.2.2.1)) rfl,zA (zH hb c.out.2.2.1 (lt_of_block c.out.2.2.1)) rfl⟩);obtain⟨c0,c1,c2,c3⟩:=o.out X (Below.refl _ _);have hk:=c.out.2.2.2;have f0:=zA (i:=0) hk rfl;have f1:=zA (i:=1) hk rfl;have g0:∀i,Y X (w.heap.size+1+1) i:=fun i=>zE (i:=i) hk;have a3:=lt_of_block hk;have q:=Ja c.out.1;clear hk
  go_upto_region 3 with fail
  go_region_held3 (fun w'=>U w' w.heap.size 0 (G (a.lo:Int))/\U w' w.heap.size 1 (G (a.hi:Int))/\U w' (w.heap.size+1) 0 (G (b.lo:Int))/\U w' (w.heap.size+1) 1 (G (b.hi:Int))) ((first|exact⟨c0,c1,c2,c3⟩|(go_simp;done)|(refine⟨?_,?_,?_,?_⟩<;>go_simp))) (fail)
  all_goals go_wp2_with fail
  all_goals (refine bodyPost_ret (v:=.agg #[G (IntKind.u16.wrap ((a.lo:Int)/(b.hi:Int))),G (IntKind.u16.wrap ((a.hi:Int)/(m:Int)))]) ?_ rfl ⟨by rw[k.out.1,k.out.2];rfl,by repeat' (first|exact q.out|(refine Below.drew ?_)|(refine Below.setCell ?_ (by first|(simp;done)|omega|(simp;omega)) _))⟩;rw[zM rfl];go_simp)
theorem sar_any (w:World){a b:Rg}(d:a.ok)(hb:b.ok):T 43 #[.agg #[G (a.lo:Int),G (a.hi:Int)],.agg #[G (b.lo:Int),G (b.hi:Int)]] w (tr w (if 32768<=a.hi then xr else m0 a b)):=by
 have t:=d.1;have q:=d.2;have c:=hb.1;have o:=hb.2
 by_cases g:32768<=a.hi
 ·rw[if_pos g];have l:(32768:Int)<=(a.hi:Int):=Zo;clear d hb;go_enter Try.func43,Try.ntmps43;go_wp2_with (go_at_call 20;go_must (refine(re _).mono ?_;rintro e w1 ⟨rfl,c⟩;have hk:Q w1 (w.heap.size+1+1) #[G 0,G 0] 48:=zH c (zI Zs) Zs;have f0:=zA (i:=0) hk rfl;have f1:=zA (i:=1) hk rfl;have g0:=zE (i:=0) hk;have g1:=zE (i:=1) hk;have h:=lt_of_block hk;have k:=Below.trans (show O w _ from by repeat' (first|exact Below.refl _ _|(refine Below.alloc ?_ (by first|(simp;done)|(simp;omega)) _))) (c.mono (by first|(simp;done)|(simp;omega)));clear c hk))
  refine bodyPost_ret (v:=.agg #[G 0,G 65535]) ?_ rfl ⟨rfl,by repeat' (first|exact Below.refl _ _|assumption|(refine Below.alloc ?_ (by first|(simp;done)|(simp;omega)) _)|(refine Below.setCell ?_ (by first|(simp;done)|(simp;omega)) _))⟩;rw[zM rfl];go_simp
 ·rw[if_neg g];have l:¬(32768:Int)<=(a.hi:Int):=Zo;obtain⟨⟨x,y⟩,hr⟩:∃r,m0 a b=r:=⟨_,rfl⟩
  have j:∀W,T 42 #[.agg #[G (a.lo:Int),G (a.hi:Int)],.agg #[G (b.lo:Int),G (b.hi:Int)]] W (fun e w'=>e=.returned (.agg #[G x,G y])/\O W w'):=fun W=>by
   have:=ae9 W (a:=a) (b:=b) Zo Zo;rw[hr] at this;exact this
  have m:=Ja j;rw[hr];clear d hb hr j g;go_enter Try.func43,Try.ntmps43;go_wp2_with (go_at_call 42;go_must (refine(m.out _).mono ?_;rintro e w1 ⟨rfl,c⟩;have hk:Q w1 (w.heap.size+1+1) #[G 0,G 0] 48:=zH c (zI Zs) Zs;have f0:=zA (i:=0) hk rfl;have f1:=zA (i:=1) hk rfl;have g0:=zE (i:=0) hk;have g1:=zE (i:=1) hk;have h:=lt_of_block hk;have k:=Below.trans (show O w _ from by repeat' (first|exact Below.refl _ _|(refine Below.alloc ?_ (by first|(simp;done)|(simp;omega)) _))) (c.mono (by first|(simp;done)|(simp;omega)));clear c hk))
  refine bodyPost_ret (v:=.agg #[G x,G y]) ?_ rfl ⟨rfl,by repeat' (first|exact Below.refl _ _|assumption|(refine Below.alloc ?_ (by first|(simp;done)|(simp;omega)) _)|(refine Below.setCell ?_ (by first|(simp;done)|(simp;omega)) _))⟩;rw[zM rfl];go_simp
theorem eq_any (w:World){a b:Rg}(j:a.ok)(hb:b.ok):T 44 #[.agg #[G (a.lo:Int),G (a.hi:Int)],.agg #[G (b.lo:Int),G (b.hi:Int)]] w (tr w (if a.hi<b.lo∨b.hi<a.lo then⟨0,0⟩ else⟨0,1⟩)):=by
 have a1:=j.1;have a0:=j.2;have c:=hb.1;have u:=hb.2;obtain⟨q,h⟩:∃q,decide (a.hi<b.lo∨b.hi<a.lo)=q:=⟨_,rfl⟩
 have hr:(if a.hi<b.lo∨b.hi<a.lo then(⟨0,0⟩:Rg) else⟨0,1⟩)=if false=true then⟨1,1⟩ else if q=true then⟨0,0⟩ else⟨0,1⟩:=by rw[<-h];simp
 rw[hr];obtain⟨⟨x,y⟩,g⟩:∃r:Rg,(if false=true then(⟨1,1⟩:Rg) else if q=true then⟨0,0⟩ else⟨0,1⟩)=r:=⟨_,rfl⟩
 have m:∀W,T 45 #[.bool false,.bool q] W (fun e w'=>e=.returned (.agg #[G x,G y])/\O W w'):=fun W=>by
  have:=bg W false q;rw[g] at this;exact this
 have t:=Ja m;rw[g];clear j hb hr m g
 by_cases d:a.hi<b.lo
 ·obtain rfl:q=true:=by rw[<-h];simp[d]
  have d1:decide (a.hi<b.lo)=true:=decide_eq_true d;clear h d;go_enter Try.func44,Try.ntmps44;go_wp2_with (go_at_call 45;go_must (refine(t.out _).mono ?_;rintro e w1 ⟨rfl,c⟩;have hk:Q w1 (w.heap.size+1+1) #[G 0,G 0] 48:=zH c (zI Zs) Zs;have f0:=zA (i:=0) hk rfl;have f1:=zA (i:=1) hk rfl;have g0:=zE (i:=0) hk;have g1:=zE (i:=1) hk;have l:=lt_of_block hk;have o:=Below.trans (show O w _ from by repeat' (first|exact Below.refl _ _|(refine Below.alloc ?_ (by first|(simp;done)|(simp;omega)) _))) (c.mono (by first|(simp;done)|(simp;omega)));clear c hk))
  refine bodyPost_ret (v:=.agg #[G x,G y]) ?_ rfl ⟨rfl,by repeat' (first|exact Below.refl _ _|assumption|(refine Below.alloc ?_ (by first|(simp;done)|(simp;omega)) _)|(refine Below.setCell ?_ (by first|(simp;done)|(simp;omega)) _))⟩;rw[zM rfl];go_simp
 ·have d1:decide (a.hi<b.lo)=false:=decide_eq_false d;obtain⟨q2,k⟩:∃q2,decide (b.hi<a.lo)=q2:=⟨_,rfl⟩
  obtain rfl:q=q2:=by rw[<-h,<-k];simp[d]
  clear h d;go_enter Try.func44,Try.ntmps44;go_wp2_with (go_at_call 45;go_must (refine(t.out _).mono ?_;rintro e w1 ⟨rfl,c⟩;have hk:Q w1 (w.heap.size+1+1) #[G 0,G 0] 48:=zH c (zI Zs) Zs;have f0:=zA (i:=0) hk rfl;have f1:=zA (i:=1) hk rfl;have g0:=zE (i:=0) hk;have g1:=zE (i:=1) hk;have l:=lt_of_block hk;have o:=Below.trans (show O w _ from by repeat' (first|exact Below.refl _ _|(refine Below.alloc ?_ (by first|(simp;done)|(simp;omega)) _))) (c.mono (by first|(simp;done)|(simp;omega)));clear c hk))
  refine bodyPost_ret (v:=.agg #[G x,G y]) ?_ rfl ⟨rfl,by repeat' (first|exact Below.refl _ _|assumption|(refine Below.alloc ?_ (by first|(simp;done)|(simp;omega)) _)|(refine Below.setCell ?_ (by first|(simp;done)|(simp;omega)) _))⟩;rw[zM rfl];go_simp
theorem ltu_any (w:World){a b:Rg}(g:a.ok)(hb:b.ok):T 46 #[.agg #[G (a.lo:Int),G (a.hi:Int)],.agg #[G (b.lo:Int),G (b.hi:Int)]] w (tr w (if a.hi<b.lo then⟨1,1⟩ else if b.hi<=a.lo then⟨0,0⟩ else⟨0,1⟩)):=by
 have u:=g.1;have t:=g.2;have c:=hb.1;have o:=hb.2;obtain⟨q,j⟩:∃q,decide (a.hi<b.lo)=q:=⟨_,rfl⟩
 obtain⟨p,hp⟩:∃p,decide (b.hi<=a.lo)=p:=⟨_,rfl⟩
 have hr:(if a.hi<b.lo then(⟨1,1⟩:Rg) else if b.hi<=a.lo then⟨0,0⟩ else⟨0,1⟩)=if q=true then⟨1,1⟩ else if p=true then⟨0,0⟩ else⟨0,1⟩:=by rw[<-j,<-hp];simp
 rw[hr];obtain⟨⟨x,y⟩,d⟩:∃r:Rg,(if q=true then(⟨1,1⟩:Rg) else if p=true then⟨0,0⟩ else⟨0,1⟩)=r:=⟨_,rfl⟩
 have h:∀W,T 45 #[.bool q,.bool p] W (fun e w'=>e=.returned (.agg #[G x,G y])/\O W w'):=fun W=>by
  have:=bg W q p;rw[d] at this;exact this
 have k:=Ja h;rw[d];clear g hb hr h d;go_enter Try.func46,Try.ntmps46;go_wp2_with (go_at_call 45;go_must (refine(k.out _).mono ?_;rintro e w1 ⟨rfl,c⟩;have hk:Q w1 (w.heap.size+1+1) #[G 0,G 0] 48:=zH c (zI Zs) Zs;have f0:=zA (i:=0) hk rfl;have f1:=zA (i:=1) hk rfl;have g0:=zE (i:=0) hk;have g1:=zE (i:=1) hk;have l:=lt_of_block hk;have m:=Below.trans (show O w _ from by repeat' (first|exact Below.refl _ _|(refine Below.alloc ?_ (by first|(simp;done)|(simp;omega)) _))) (c.mono (by first|(simp;done)|(simp;omega)));clear c hk))
 refine bodyPost_ret (v:=.agg #[G x,G y]) ?_ rfl ⟨rfl,by repeat' (first|exact Below.refl _ _|assumption|(refine Below.alloc ?_ (by first|(simp;done)|(simp;omega)) _)|(refine Below.setCell ?_ (by first|(simp;done)|(simp;omega)) _))⟩;rw[zM rfl];go_simp
theorem shl_any (w:World){a b:Rg}(l:a.ok)(hb:b.ok):T 40 #[.agg #[G (a.lo:Int),G (a.hi:Int)],.agg #[G (b.lo:Int),G (b.hi:Int)]] w (tr w (if vu b=true then wl (a.lo*2^(b.lo%16)) (a.hi*2^(b.lo%16)) else xr)):=by
 have a3:=l.1;have a2:=l.2;have g:=hb.1;have d:=hb.2
 by_cases j:b.lo=b.hi
 ·rw[if_pos (by unfold vu;simpa using j)];have hq:((b.lo:Int)==(b.hi:Int))=true:=by rw[beq_iff_eq];omega
  have hp:2^(b.lo%16)<=32768:=Nat.pow_le_pow_right (show 0<2 by decide) (show b.lo%16<=15 by omega);have t:a.lo*2^(b.lo%16)<=65535*32768:=Nat.mul_le_mul Zo hp;have q:a.hi*2^(b.lo%16)<=65535*32768:=Nat.mul_le_mul a2 hp;obtain⟨u,h⟩:∃u,a.lo*2^(b.lo%16)=u:=⟨_,rfl⟩
  obtain⟨v,hv⟩:∃v,a.hi*2^(b.lo%16)=v:=⟨_,rfl⟩
  have o:u<=v:=by rw[<-h,<-hv];exact Qw _ a3
  have m:v<=2147450880:=by rw[<-hv];exact q
  have a6:u<=2147450880:=Jn o m;clear t q hp;obtain⟨⟨x,y⟩,hr⟩:∃r,wl u v=r:=⟨_,rfl⟩
  have a5:wrap64 ((a.lo:Int)*2^(b.lo%16))=(u:Int):=by rw[show(a.lo:Int)*2^(b.lo%16)=((a.lo*2^(b.lo%16):Nat):Int) by simp,h];clear h hv;exact IntWalk.wrap64_in _ ⟨by omega,by omega⟩
  have a4:wrap64 ((a.hi:Int)*2^(b.lo%16))=(v:Int):=by rw[show(a.hi:Int)*2^(b.lo%16)=((a.hi*2^(b.lo%16):Nat):Int) by simp,hv];clear h hv;exact IntWalk.wrap64_in _ ⟨by omega,by omega⟩
  have hc:∀W,T 34 #[I u,I v] W (fun e w'=>e=.returned (.agg #[G x,G y])/\O W w'):=fun W=>by
   have:=ac2 W o (Nat.lt_of_le_of_lt m Zd);rw[hr] at this;exact this
  have HC:=Ja hc;rw[h,hv,hr]
  have k:=Ja (show ∀W,T 41 #[.agg #[G (b.lo:Int),G (b.hi:Int)]] W (fun e w'=>e=.returned (.bool true)/\O W w') from fun W=>by
   have:=i6 W b;rw[show vu b=true from decide_eq_true j] at this
   exact this)
  clear l hb hr hc j h hv hq;go_enter Try.func40,Try.ntmps40;go_upto_region 3 with(go_at_call 41;go_must (refine(k.out _).mono ?_;rintro e w2 ⟨rfl,d⟩;have c:=Ja (show O w w2/\Q w2 w.heap.size #[G (a.lo:Int),G (a.hi:Int)] 48/\Q w2 (w.heap.size+1) #[G (b.lo:Int),G (b.hi:Int)] 48/\Q w2 (w.heap.size+1+1) #[G 0,G 0] 48 from⟨Below.trans (show O w _ from by repeat' (first|exact Below.refl _ _|(refine Below.alloc ?_ (by first|(simp;done)|(simp;omega)) _))) (d.mono (by first|(simp;done)|(simp;omega))),zH d (zB (zB (zI rfl))) (by first|(simp;done)|(simp;omega)),zH d (zB (zI Zs)) (by first|(simp;done)|(simp;omega)),zH d (zI Zs) Zs⟩);clear d))
  have c0:=zA (i:=0) c.out.2.1 rfl;have c1:=zA (i:=1) c.out.2.1 rfl;have c2:=zA (i:=0) c.out.2.2.1 rfl;have c3:=zA (i:=1) c.out.2.2.1 rfl;have l1:=lt_of_block c.out.2.1;have l2:=lt_of_block c.out.2.2.1;have l3:=lt_of_block c.out.2.2.2;go_wp2_with (go_at_call 34;go_must (refine(HC.out _).mono ?_;rintro e w1 ⟨rfl,g⟩;have hk:=zH g c.out.2.2.2 (lt_of_block c.out.2.2.2);have f0:=zA (i:=0) hk rfl;have f1:=zA (i:=1) hk rfl;have g0:=zE (i:=0) hk;have g1:=zE (i:=1) hk;have a0:=lt_of_block hk;have a1:=c.out.1.trans (g.mono c.out.1.size);clear g hk))
  refine bodyPost_ret (v:=.agg #[G x,G y]) ?_ rfl ⟨rfl,by repeat' (first|exact Below.refl _ _|assumption|(refine Below.alloc ?_ (by first|(simp;done)|(simp;omega)) _)|(refine Below.setCell ?_ (by first|(simp;done)|(simp;omega)) _))⟩;rw[zM rfl];go_simp
 ·rw[if_neg (by unfold vu;simpa using j)]
  have k:=Ja (show ∀W,T 41 #[.agg #[G (b.lo:Int),G (b.hi:Int)]] W (fun e w'=>e=.returned (.bool false)/\O W w') from fun W=>by
   have:=i6 W b;rw[show vu b=false from decide_eq_false j] at this
   exact this)
  clear l hb j;go_enter Try.func40,Try.ntmps40;go_upto_region 2 with(go_at_call 41;go_must (refine(k.out _).mono ?_;rintro e w2 ⟨rfl,d⟩;have c:=Ja (show O w w2/\Q w2 w.heap.size #[G (a.lo:Int),G (a.hi:Int)] 48/\Q w2 (w.heap.size+1) #[G (b.lo:Int),G (b.hi:Int)] 48/\Q w2 (w.heap.size+1+1) #[G 0,G 0] 48 from⟨Below.trans (show O w _ from by repeat' (first|exact Below.refl _ _|(refine Below.alloc ?_ (by first|(simp;done)|(simp;omega)) _))) (d.mono (by first|(simp;done)|(simp;omega))),zH d (zB (zB (zI rfl))) (by first|(simp;done)|(simp;omega)),zH d (zB (zI Zs)) (by first|(simp;done)|(simp;omega)),zH d (zI Zs) Zs⟩);clear d))
  have c0:=zA (i:=0) c.out.2.1 rfl;have c1:=zA (i:=1) c.out.2.1 rfl;have c2:=zA (i:=0) c.out.2.2.1 rfl;have c3:=zA (i:=1) c.out.2.2.1 rfl;have l1:=lt_of_block c.out.2.1;have l2:=lt_of_block c.out.2.2.1;have l3:=lt_of_block c.out.2.2.2;go_wp2_with (go_at_call 20;go_must (refine(re _).mono ?_;rintro e w1 ⟨rfl,g⟩;have hk:=zH g c.out.2.2.2 (lt_of_block c.out.2.2.2);have f0:=zA (i:=0) hk rfl;have f1:=zA (i:=1) hk rfl;have g0:=zE (i:=0) hk;have g1:=zE (i:=1) hk;have a0:=lt_of_block hk;have a1:=c.out.1.trans (g.mono c.out.1.size);clear g hk))
  refine bodyPost_ret (v:=.agg #[G 0,G 65535]) ?_ rfl ⟨rfl,by repeat' (first|exact Below.refl _ _|assumption|(refine Below.alloc ?_ (by first|(simp;done)|(simp;omega)) _)|(refine Below.setCell ?_ (by first|(simp;done)|(simp;omega)) _))⟩;rw[zM rfl];go_simp
theorem dC{i v:Int}(h:d.1 v=none):yy d g i k v=false:=by unfold yy;rw[h]
def cS (n:Nat)(o:IOp):Prop:=∀x∈rR o,0<=x/\x.toNat<n
theorem cS.a{n:Nat}(h:cS n o)(hs:(zi o.code).a=true):0<=o.a/\o.a.toNat<n:=h _ (by unfold rR;rw[hs];simp)
theorem cS.b{n:Nat}(h:cS n o)(hs:(zi o.code).b=true):0<=o.b/\o.b.toNat<n:=h _ (by unfold rR;rw[hs];simp)
def aq (N:Nat)(b:IBlk):Prop:=(∀x∈b.params,0<=x/\x.toNat<N)/\(∀o∈b.ops,cS N o/\(0<=o.res->o.res.toNat<N))/\∀x∈mE b.term,0<=x/\x.toNat<N
def p6 (o:IOp):Bool:=decide (18<=o.code) && decide (o.code<=21)
theorem succ_grF{bl:List IBlk}(hi:i<bl.length):succ (zy bl) i=(xz bl i).term.to.map fun e=>e.block.toNat:=by
 obtain⟨b,hb⟩:∃b,bl[i]? =some b:=⟨_,Jd hi⟩
 rw[y7 hb];unfold succ zy;rw[Jj,Jr,hb];rfl
inductive Evn where
 |op (o:IOp)
 |arg (v x:Int)
def evB (bl:List IBlk)(b:IBlk):List Evn:=b.ops.map .op++b.term.to.flatMap fun e=>((xz bl e.block).params.zip e.args).map fun x=> .arg x.1 x.2
end Go.Proofs.Ytoahcpkibpomcaa
set_option maxRecDepth 100000
namespace Go.Proofs.Ytoahcpkibpomcaa
open Go.ChangeShapes Go.WideShapes Go.ChangeAt Go.RowKit
variable {w w':World}{K:MK}{m:Mach}{c k oa ob:Int}{i id on vb vn:Nat}{g:List (List Nat)}{P:Program}{d:wO}{xs:List Value}{Df:Int->Int->Int->Prop}{o:IOp}{oi:Oper}{rs:List Nat}
theorem jd{a:Addr}{v:Value}(h:w.cell? a=some v):a.spot=none:=by
 unfold World.cell? at h
 split at h
 ·split at h
  ·simp at h
  ·rename_i c;simpa using c
 ·simp at h
theorem agp (b o k:Nat):(⟨b,o,none⟩:Addr).add k=⟨b,o+k,none⟩:=by
 unfold Addr.add;split
 ·rename_i h;subst h;rfl
 ·rfl
theorem fP{α:Type}{H:Type}{enc:TypeId×Value->H}{W:World}{fuel:Nat}{u:Value}{x:DataW H×List MemPlace}{t e:TypeId}{q:IntKind}(ht:P.underlying t=some (.slice e))(he:P.underlying e=some (.int q))(c1:P.cellsOf e=1)
 (R:World->Nat->Nat->Nat->α->Prop) (i:Int->α) (hR:∀b o z,(Lit.int q z).wf=true->U W b o (.int q z)->R W W.heap.size b o (i z))
 (hf:DataW.trod enc P W 0 (fun _=>true) true fuel t [u]=some x):∃row:List α,yN 1 R W W.heap.size u row:=by
 rcases open_ints ht he c1 hf with⟨d,_⟩|⟨a,len,a0,zs,d,hb,hl,hm,g,_,c,j⟩
 ·simp at d;subst d;exact⟨[],yN.nil⟩
 ·simp at d;subst d;simp only[if_true] at g;refine⟨(zs.take len).map i,some a,a0,by simp[g,Ud hl],by simp[g];omega,by unfold maxLen at hm;omega,fun k y hk=>?_⟩;have m:=(Jh.1 hk).1;simp[g] at m;rw[Jr,Ug,if_pos Zo,Jd Zo] at hk;have l:=Nt hk;have h:=c k Zo;have hs:=jd (c 0 Zo)
  have w:a=⟨a.block,a.off,none⟩:=by
   cases a;simp[Addr.add] at hs;simp[hs]
  rw[w,agp] at h;rw[Jj,Jd Zo,Ot] at h;refine⟨a.block,a.off,by rw[<-w],jU h,?_⟩;rw[<-l,Nk];exact hR _ _ _ (j _ (Uf Zo)) h
section
variable {H:Type} {enc:TypeId×Value->H} {W:World} {fuel:Nat} {u:Value} {x:DataW H×List MemPlace}
theorem iR (hf:DataW.trod enc Try.prog W 0 (fun _=>true) true fuel 25 [u]=some x):∃row:List Int,zY W W.heap.size u row:=
 fP Try.underlying25 Try.underlying3 Zk IntR id (fun b o z hz hc=>⟨hc,by unfold I64;simpa[Lit.wf,IntKind.min,IntKind.max,IntKind.signed,IntKind.bits] using hz⟩) hf
end
section
variable {H:Type} {enc:TypeId×Value->H} {W:World} {v:Value} {d:DataW H} {p:List MemPlace} {r:Go.Reach} {base:Nat}
theorem iX (hv:Value.okWide Try.prog W r base 25 v)(g:DataW.Trod enc Try.prog W 0 (fun _=>true) true 25 v d p):∃row:List Int,zY W W.heap.size v row:=by
 obtain⟨a0,c,h,rfl⟩:=okWide_slice Try.underlying25 hv;obtain⟨fuel,hf⟩:=g;exact iR hf
end
end Go.Proofs.Ytoahcpkibpomcaa
