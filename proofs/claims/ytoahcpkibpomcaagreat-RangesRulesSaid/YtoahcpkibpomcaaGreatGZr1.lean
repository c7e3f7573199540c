/- Part of a proof. -/
import Derived.Test.YtoahcpkibpomcaaGreatGZwi
set_option linter.all false
set_option maxHeartbeats 6400000
set_option maxRecDepth 100000
namespace Go.Proofs.YtoahcpkibpomcaaGreat
open Go.RowKit
variable {X w w' w0:World}{K:MK}{m m':Mach}{ov:Value}{dp oa ob:Int}{i k on vb vn x y:Nat}{xs:List Nat}{es:Array _}{tr:Tr}{W:Int->Int->Int->Prop}{d:wO}{bl:List IBlk}
theorem Tryz.info_event:(Tryz.prog.info? 117).map (fun i=>(i.zero,i.size,i.bytes))=some (some (.agg #[M 0,M 0]),2,4):=by kernel_rfl
theorem p9 (E:IEnv)(b a:Nat):tS E b a<256:=by unfold tS;exact UInt8.toNat_lt _
theorem or_rom (x y:Nat)(d:x<256)(c:y<256):bits .or .u16 (x:Int) (IntKind.u16.wrap ((y:Int)*256))=((x+256*y:Nat):Int):=by
 have:=or_low x y d c;have e1:IntKind.u16.wrap (x:Int)=(x:Int):=by rw[xY];omega
 have e2:IntKind.u16.wrap (y:Int)=(y:Int):=by rw[xY];omega
 rw[e1,e2] at this;exact this
theorem xN{row:Option Nat}(h:w.drew.grownBy w' row):w.grownBy w' row:=⟨h.os,h.tape,h.output,h.size,h.block⟩
theorem ke (E:IEnv)(m:Mach)(c:∀x∈E.inn,x<65536):∃x m',uq E m=.ok x m'/\x<65536:=by
 unfold uq
 by_cases h:m.inputs<E.inn.length
 ·rw[if_pos h];exact⟨_,_,rfl,by rw[Jj,Jd h];exact c _ (Uf h)⟩
 ·rw[if_neg h];exact⟨_,_,rfl,by decide⟩
theorem step_2(h:MachAt w K m ov){c:Int}(a1:I64 oa)(a0:I64 ob)(a6:on<65536)(ab:Option Addr)(an ac:Nat){v:Int->Nat}(hv:xO w vb vn v)(d:Int)(hk:0<=oa/\oa.toNat<K.E.p.data.length):
 O 155 #[F K.pm,.agg #[I 2,I c,I oa,I ob,M on,.slice ab an ac],.map (some vb),I d] w (zQ K w (.ok (((K.E.p.data.getD oa.toNat ⟨0,0,0⟩).addr+on)%65536) m)):=by
 have q:=fun(W:World) (hW:Frm K.B w W)=>(hv.kept hW).look a1
 have l:=fun(W:World) (hW:Frm K.B w W)=>(hv.kept hW).look a0
 have a5:=hv.2 oa;have a4:=hv.2 ob;have b1:=h.size;have u:=Ja (h.keep ((Below.refl _ _).alloc (Je _) (G #[I 2,I c,I oa,I ob,M on,.slice ab an ac] 76)));have i:=Ja ((Frm.refl K.B w).alloc Zo (G #[I 2,I c,I oa,I ob,M on,.slice ab an ac] 76));have la:=fun n:Nat=>q _ (i.out.drewN (n:=n))
 have lb:=fun n:Nat=>l _ (i.out.drewN (n:=n))
 have f:=zI (W:=w) (o:=G #[I 2,I c,I oa,I ob,M on,.slice ab an ac] 76) rfl;clear h hv q l;generalize v oa=xa at *;generalize v ob=xb at *;go_enter Tryz.func155,Tryz.ntmps155;go_upto_region 1 with fail;generalize a2:w.alloc (G #[I 2,I c,I oa,I ob,M on,.slice ab an ac] 76)=W1 at *;clear a2;have p0:=K0 f;have p2:=K2 f;have p3:=K3 f;have p4:=K4 f
 go_cut [9,10] (fun x y wx=>x=M xa/\y=M xb/\∃n,wx=W1.drewN n)
 case first=>
  go_quiet (fail);go_wp2;go_meet;exact⟨rfl,rfl,_,rfl⟩
 case rest=>
  obtain⟨rfl,rfl,n,rfl⟩:=hcut;have HM:=Ja (u.out.drewN n);have HF:=Ja (i.out.drewN (n:=n));have q0:(W1.drewN n).cell? ⟨w.heap.size,0,none⟩=_:=p0;have q2:(W1.drewN n).cell? ⟨w.heap.size,2,none⟩=_:=p2;have q4:(W1.drewN n).cell? ⟨w.heap.size,4,none⟩=_:=p4;clear la lb p0 p2 p3 p4 f u i;generalize W1.drewN n=W2 at *;obtain⟨k,rfl⟩:∃k:Nat,oa=(k:Int):=⟨oa.toNat,by omega⟩
  have t:k<K.E.p.data.length:=Zo;have a7:(k:Int)<K.E.p.data.length:=Zo;have g:=HM.out.prog.data;obtain⟨da,dc,j,_,_⟩:=g.form;rw[j] at g;obtain⟨x,hx⟩:∃x,K.E.p.data[k]? =some x:=⟨_,Jd t⟩
  obtain⟨b,oo,rfl,_,_,b0,_,_,a3,_⟩:=g.get hx;have c4:=HM.out.c4;rw[j] at c4;have EE:=Ja (show(K.E.p.data.getD ((k:Nat):Int).toNat ⟨0,0,0⟩).addr=x.addr by rw[Ni,Jj,hx];rfl);clear hk t g j hx;go_upto_region 7 with fail;go_quiet (fail);go_wp2;go_ret;rw[EE.out];have e:Ending.returned (M (IntKind.u16.wrap ((x.addr:Int)+(on:Int))))=.returned (M (((x.addr+on)%65536:Nat):Int)):=zh (by rw[xY];omega);exact e ▸ zQ.ok (HM.out.drewN _) HF.out.drewN Zo
theorem step_22(h:MachAt w K m ov){c:Int}(a5:I64 oa)(a4:I64 ob)(g:on<65536)(ab:Option Addr)(an ac:Nat){v:Int->Nat}(hv:xO w vb vn v)(d:Int)(l:Hid (∀s∈K.E.p.banks,s.size=4096)):
 O 155 #[F K.pm,.agg #[I 22,I c,I oa,I ob,M on,.slice ab an ac],.map (some vb),I d] w (zQ K w (im K.E m on (v oa))):=by
 have u:=fun(W:World) (hW:Frm K.B w W)=>(hv.kept hW).look a5
 have t:=fun(W:World) (hW:Frm K.B w W)=>(hv.kept hW).look a4
 have k:=hv.2 oa;have b0:=hv.2 ob;have b1:=h.size;have a2:=Ja (h.keep ((Below.refl _ _).alloc (Je _) (.cells #[I 22,I c,I oa,I ob,M on,.slice ab an ac] 76)));have j:=Ja ((Frm.refl K.B w).alloc Zo (.cells #[I 22,I c,I oa,I ob,M on,.slice ab an ac] 76));have la:=fun n:Nat=>u _ (j.out.drewN (n:=n))
 have lb:=fun n:Nat=>t _ (j.out.drewN (n:=n))
 have f:=zI (W:=w) (o:=.cells #[I 22,I c,I oa,I ob,M on,.slice ab an ac] 76) rfl;clear h hv u t;generalize v oa=xa at *;generalize v ob=xb at *;go_enter Tryz.func155,Tryz.ntmps155;go_upto_region 1 with fail;generalize a6:w.alloc (.cells #[I 22,I c,I oa,I ob,M on,.slice ab an ac] 76)=W1 at *;clear a6;have p0:=K0 f;have p2:=K2 f;have p3:=K3 f;have p4:=K4 f
 go_cut [9,10] (fun x y wx=>x=M xa/\y=M xb/\∃n,wx=W1.drewN n)
 case first=>
  go_quiet (fail);go_wp2;go_meet;exact⟨rfl,rfl,_,rfl⟩
 case rest=>
  obtain⟨rfl,rfl,n,rfl⟩:=hcut;have i:=Ja (a2.out.drewN n);have HF:=Ja (j.out.drewN (n:=n));have q0:(W1.drewN n).cell? ⟨w.heap.size,0,none⟩=_:=p0;have q2:(W1.drewN n).cell? ⟨w.heap.size,2,none⟩=_:=p2;have q4:(W1.drewN n).cell? ⟨w.heap.size,4,none⟩=_:=p4;clear la lb p0 p2 p3 p4 f a2 j;generalize W1.drewN n=W2 at *;have q:xe xa<65536:=Qj _ Zd;have a7:IntKind.u16.wrap ((xa:Int)+1)=((xe xa:Nat):Int):=by rw[xY];unfold xe;omega
  by_cases h1:sJ K.E on xa=true
  ·by_cases h2:sJ K.E on (xe xa)=true
   ·have EE:=Ja (show im K.E m on xa=.ok (tS K.E on xa+256*tS K.E on (xe xa)) m by unfold im;rw[if_pos h1,if_pos h2]);have C1:=Ja h1;have C2:=Ja h2;have t1:True:=trivial;have g1:=p9 K.E on xa;have g2:=p9 K.E on (xe xa);have G:=Ja (Jb g1 g2);clear h1 h2 g1 g2;go_wp2_with (first|(go_at_call 160;have a3:=t1;clear t1;go_must (refine(p8 i.out l.out on xa g k C1.out).mono ?_;rintro e w' ⟨rfl,rfl⟩))|(go_at_call 160;go_must (refine(p8 i.out l.out on (xe xa) g q C2.out).mono ?_;rintro e w' ⟨rfl,rfl⟩)))
    go_ret;rw[EE.out];have e:Ending.returned (M (bits .or .u16 (tS K.E on xa:Int) (IntKind.u16.wrap ((tS K.E on (xe xa):Int)*256))))=.returned (M ((tS K.E on xa+256*tS K.E on (xe xa):Nat):Int)):=zh (or_rom _ _ G.out.1 G.out.2);exact e ▸ zQ.ok i.out HF.out (by have:=G.out;omega)
   ·have a0:sJ K.E on (xe xa)=false:=by simpa using h2
    have EE:=Ja (show im K.E m on xa=.trap 2 (xe xa) m by unfold im;rw[if_pos h1,if_neg h2]);have C1:=Ja h1;have C2:=Ja a0;have t1:True:=trivial;clear h1 h2 a0;go_wp2_with (first|(go_at_call 160;have a3:=t1;clear t1;go_must (refine(p8 i.out l.out on xa g k C1.out).mono ?_;rintro e w' ⟨rfl,rfl⟩))|(go_at_call 160;go_must (refine(kh i.out on (xe xa) g q C2.out).mono ?_;rintro e w' ⟨rfl,rfl⟩)))
    exact⟨rfl,by rw[EE.out];exact zQ.trap i.out HF.out⟩
  ·have a1:sJ K.E on xa=false:=by simpa using h1
   have EE:=Ja (show im K.E m on xa=.trap 2 xa m by unfold im;rw[if_neg h1]);have C1:=Ja a1;clear h1 a1;go_wp2_with (go_at_call 160;go_must (refine(kh i.out on xa g k C1.out).mono ?_;rintro e w' ⟨rfl,rfl⟩))
   exact⟨rfl,by rw[EE.out];exact zQ.trap i.out HF.out⟩
theorem step_23(h:MachAt w K m ov){c:Int}(a1:I64 oa)(a0:I64 ob)(k:on<65536)(ab:Option Addr)(an ac:Nat){v:Int->Nat}(hv:xO w vb vn v)(d:Int)(a2:Hid (∀s∈K.E.p.banks,s.size=4096)):
 O 155 #[F K.pm,.agg #[I 23,I c,I oa,I ob,M on,.slice ab an ac],.map (some vb),I d] w (zQ K w (nX K.E m on (v oa))):=by
 have q:=fun(W:World) (hW:Frm K.B w W)=>(hv.kept hW).look a1
 have l:=fun(W:World) (hW:Frm K.B w W)=>(hv.kept hW).look a0
 have j:=hv.2 oa;have a4:=hv.2 ob;have a5:=h.size;have u:=Ja (h.keep ((Below.refl _ _).alloc (Je _) (G #[I 23,I c,I oa,I ob,M on,.slice ab an ac] 76)));have g:=Ja ((Frm.refl K.B w).alloc Zo (G #[I 23,I c,I oa,I ob,M on,.slice ab an ac] 76));have la:=fun n:Nat=>q _ (g.out.drewN (n:=n))
 have lb:=fun n:Nat=>l _ (g.out.drewN (n:=n))
 have f:=zI (W:=w) (o:=G #[I 23,I c,I oa,I ob,M on,.slice ab an ac] 76) rfl;clear h hv q l;generalize v oa=xa at *;generalize v ob=xb at *;go_enter Tryz.func155,Tryz.ntmps155;go_upto_region 1 with fail;generalize a3:w.alloc (G #[I 23,I c,I oa,I ob,M on,.slice ab an ac] 76)=W1 at *;clear a3;have p0:=K0 f;have p2:=K2 f;have p3:=K3 f;have p4:=K4 f
 go_cut [9,10] (fun x y wx=>x=M xa/\y=M xb/\∃n,wx=W1.drewN n)
 case first=>
  go_quiet (fail);go_wp2;go_meet;exact⟨rfl,rfl,_,rfl⟩
 case rest=>
  obtain⟨rfl,rfl,n,rfl⟩:=hcut;have i:=Ja (u.out.drewN n);have HF:=Ja (g.out.drewN (n:=n));have q0:(W1.drewN n).cell? ⟨w.heap.size,0,none⟩=_:=p0;have q2:(W1.drewN n).cell? ⟨w.heap.size,2,none⟩=_:=p2;have q4:(W1.drewN n).cell? ⟨w.heap.size,4,none⟩=_:=p4;clear la lb p0 p2 p3 p4 f u g;generalize W1.drewN n=W2 at *
  by_cases h1:sJ K.E on xa=true
  ·have EE:=Ja (show nX K.E m on xa=.ok (tS K.E on xa) m by unfold nX;rw[if_pos h1]);have C1:=Ja h1;clear h1;go_wp2_with (go_at_call 160;go_must (refine(p8 i.out a2.out on xa k j C1.out).mono ?_;rintro e w' ⟨rfl,rfl⟩))
   go_ret;rw[EE.out];exact zQ.ok i.out HF.out (by have:=p9 K.E on xa;omega)
  ·have t:sJ K.E on xa=false:=by simpa using h1
   have EE:=Ja (show nX K.E m on xa=.trap 2 xa m by unfold nX;rw[if_neg h1]);have C1:=Ja t;clear h1 t;go_wp2_with (go_at_call 160;go_must (refine(kh i.out on xa k j C1.out).mono ?_;rintro e w' ⟨rfl,rfl⟩))
   exact⟨rfl,by rw[EE.out];exact zQ.trap i.out HF.out⟩
theorem step_24(h:MachAt w K m ov){c:Int}(a0:I64 oa)(u:I64 ob)(a7:on<65536)(ab:Option Addr)(an ac:Nat){v:Int->Nat}(hv:xO w vb vn v)(d:Int)(a2:Hid (∀x∈K.E.inn,x<65536)):
 O 155 #[F K.pm,.agg #[I 24,I c,I oa,I ob,M on,.slice ab an ac],.map (some vb),I d] w (zQ K w (uq K.E m)):=by
 have k:=fun(W:World) (hW:Frm K.B w W)=>(hv.kept hW).look a0
 have j:=fun(W:World) (hW:Frm K.B w W)=>(hv.kept hW).look u
 have a6:=hv.2 oa;have a5:=hv.2 ob;have b0:=h.size;have l:=Ja (h.keep ((Below.refl _ _).alloc (Je _) (G #[I 24,I c,I oa,I ob,M on,.slice ab an ac] 76)));have i:=Ja ((Frm.refl K.B w).alloc Zo (G #[I 24,I c,I oa,I ob,M on,.slice ab an ac] 76));have la:=fun n:Nat=>k _ (i.out.drewN (n:=n))
 have lb:=fun n:Nat=>j _ (i.out.drewN (n:=n))
 have f:=zI (W:=w) (o:=G #[I 24,I c,I oa,I ob,M on,.slice ab an ac] 76) rfl;clear h hv k j;generalize v oa=xa at *;generalize v ob=xb at *;go_enter Tryz.func155,Tryz.ntmps155;go_upto_region 1 with fail;generalize a4:w.alloc (G #[I 24,I c,I oa,I ob,M on,.slice ab an ac] 76)=W1 at *;clear a4;have p0:=K0 f;have p2:=K2 f;have p3:=K3 f;have p4:=K4 f
 go_cut [9,10] (fun x y wx=>x=M xa/\y=M xb/\∃n,wx=W1.drewN n)
 case first=>
  go_quiet (fail);go_wp2;go_meet;exact⟨rfl,rfl,_,rfl⟩
 case rest=>
  obtain⟨rfl,rfl,n,rfl⟩:=hcut;have HM:=Ja (l.out.drewN n);have HF:=Ja (i.out.drewN (n:=n));have q0:(W1.drewN n).cell? ⟨w.heap.size,0,none⟩=_:=p0;have q2:(W1.drewN n).cell? ⟨w.heap.size,2,none⟩=_:=p2;have q4:(W1.drewN n).cell? ⟨w.heap.size,4,none⟩=_:=p4;clear la lb p0 p2 p3 p4 f l i;generalize W1.drewN n=W2 at *;obtain⟨x,m',q,t⟩:=ke K.E m a2.out;have g:O 161 #[F K.pm] W2 fun e w'=>e=.returned (M x)/\MachAt w' K m' ov/\Frm K.B W2 w':=by have:=jA HM.out;rw[q] at this;exact this
  have EE:=Ja q;have HC:=Ja g;clear q g;go_wp2_with (go_at_call 161;go_must (refine HC.out.mono ?_;rintro e w' ⟨rfl,a1,a3⟩))
  go_ret;rw[EE.out];exact zQ.ok a1 (HF.out.trans a3) t
theorem step_25(h:MachAt w K m ov){c:Int}(b2:I64 oa)(b1:I64 ob)(b3:on<65536)(ab:Option Addr)(an ac:Nat){v:Int->Nat}(hv:xO w vb vn v)(d:Int)(b4:m.out.length+1+m.fuel.toNat<=4000000):
 O 155 #[F K.pm,.agg #[I 25,I c,I oa,I ob,M on,.slice ab an ac],.map (some vb),I d] w (zQ K w (adS m on (v oa))):=by
 have a0:=fun(W:World) (hW:Frm K.B w W)=>(hv.kept hW).look b2
 have u:=fun(W:World) (hW:Frm K.B w W)=>(hv.kept hW).look b1
 have b0:=hv.2 oa;have c0:=hv.2 ob;have c2:=h.size;have a1:=Ja (h.keep ((Below.refl _ _).alloc (Je _) (G #[I 25,I c,I oa,I ob,M on,.slice ab an ac] 76)));have k:=Ja ((Frm.refl K.B w).alloc Zo (G #[I 25,I c,I oa,I ob,M on,.slice ab an ac] 76));have la:=fun n:Nat=>a0 _ (k.out.drewN (n:=n))
 have lb:=fun n:Nat=>u _ (k.out.drewN (n:=n))
 have f:=zI (W:=w) (o:=G #[I 25,I c,I oa,I ob,M on,.slice ab an ac] 76) rfl;clear h hv a0 u;generalize v oa=xa at *;generalize v ob=xb at *;go_enter Tryz.func155,Tryz.ntmps155;go_upto_region 1 with fail;generalize b6:w.alloc (G #[I 25,I c,I oa,I ob,M on,.slice ab an ac] 76)=W1 at *;clear b6;have p0:=K0 f;have p2:=K2 f;have p3:=K3 f;have p4:=K4 f
 go_cut [9,10] (fun x y wx=>x=M xa/\y=M xb/\∃n,wx=W1.drewN n)
 case first=>
  go_quiet (fail);go_wp2;go_meet;exact⟨rfl,rfl,_,rfl⟩
 case rest=>
  obtain⟨rfl,rfl,n,rfl⟩:=hcut;have j:=Ja (a1.out.drewN n);have HF:=Ja (k.out.drewN (n:=n));have q0:(W1.drewN n).cell? ⟨w.heap.size,0,none⟩=_:=p0;have q2:(W1.drewN n).cell? ⟨w.heap.size,2,none⟩=_:=p2;have q4:(W1.drewN n).cell? ⟨w.heap.size,4,none⟩=_:=p4;clear la lb p0 p2 p3 p4 f a1 k;generalize W1.drewN n=W2 at *;obtain⟨ii,b5,a4,a3,a2⟩:=info_parts Tryz.info_event;have c10:=j.out.c10;have b7:=j.out.free 10;have g:=j.out.out;have q:=lt_of_block j.out.blk;have nb:=zC g j.out.blk (.inr Zd);obtain⟨oa',oc',rfl⟩:=zG g;have a7:=Ja g;have c1:m.out.length<=4000000:=Zo;have a6:∀o,T (W2.alloc o) K.pm 10 (.slice oa' m.out.length oc'):=fun o=>(Oo (w:=W2) (Below.heap_alloc _ _ _ q)).trans c10
  have a5:∀o,Y (W2.alloc o) K.pm 10:=fun o=>(Qm (w:=W2) (Below.heap_alloc _ _ _ q)).trans b7
  have c4:K.B<W2.heap.size:=j.out.size;clear g;go_upto_region 30 with fail
  go_region_law (first|(refine step_append_lies _ (by rfl) (.tmp 145) (.tmp 150) _ (by rfl) K.B 117 ii (.agg #[M 0,M 0]) 2 4 Tryz.underlying53 b5 a4 a3 a2 rfl Zo (.slice oa' m.out.length oc') m.out.length (qO m.out) (by rfl) ((a7.out.alloc _).drew) ⟨W2.heap.size,0,none⟩ 1 1 [M on,M xa] (by rfl) (by rfl) (Oi (cs:=#[M on,M xa]) (t:=117) (fr:=(0,0)) (heap_alloc_new W2 _)) (by simp[Value.oneCell']) Zo (by unfold maxLen;omega) Zo Zt (W2.heap.size+1) Zs ?_;intro gg b9 w3 l i c3 b8;have c7:=(i.cell_far ⟨K.pm,10,none⟩ Zt (Ne.symm nb)).trans (a6 _);have c5:=(i.frozen_far ⟨K.pm,10,none⟩ Zt (Ne.symm nb)).trans (a5 _)))
  all_goals go_wp2_with fail
  all_goals go_ret
  all_goals (
   have hO:=j.out.setO (p:=on) (x:=xa) (xN i) (by simpa[vL] using l) b3 b0 b4
   exact zQ.ok (x:=0) hO.1 (HF.out.trans hO.2) Zd)
theorem step_ar(h:MachAt w K m ov){oc f:Int}(a1:I64 oa)(a0:I64 ob)(b5:on<65536)(ab:Option Addr)(an ac:Nat){v:Int->Nat}(hv:xO w vb vn v)(d:Int)(hc:5<=oc/\oc<=17):
 O 155 #[F K.pm,.agg #[I oc,I f,I oa,I ob,M on,.slice ab an ac],.map (some vb),I d] w (zQ K w (iy m oc (v oa) (v ob))):=by
 have t:=fun(W:World) (hW:Frm K.B w W)=>(hv.kept hW).look a1
 have q:=fun(W:World) (hW:Frm K.B w W)=>(hv.kept hW).look a0
 have l:=hv.2 oa;have k:=hv.2 ob;have b6:=h.size;have u:=Ja (h.keep ((Below.refl _ _).alloc (Je _) (G #[I oc,I f,I oa,I ob,M on,.slice ab an ac] 76)));have i:=Ja ((Frm.refl K.B w).alloc Zo (G #[I oc,I f,I oa,I ob,M on,.slice ab an ac] 76));have la:=fun n:Nat=>t _ (i.out.drewN (n:=n))
 have lb:=fun n:Nat=>q _ (i.out.drewN (n:=n))
 have g:=zI (W:=w) (o:=G #[I oc,I f,I oa,I ob,M on,.slice ab an ac] 76) rfl;clear h hv t q;generalize v oa=xa at *;generalize v ob=xb at *;go_enter Tryz.func155,Tryz.ntmps155;go_upto_region 1 with fail;generalize a2:w.alloc (G #[I oc,I f,I oa,I ob,M on,.slice ab an ac] 76)=W1 at *;clear a2;have p0:=K0 g;have p2:=K2 g;have p3:=K3 g;have p4:=K4 g
 go_cut [9,10] (fun x y wx=>x=M xa/\y=M xb/\∃n,wx=W1.drewN n)
 case first=>
  go_quiet (fail);go_wp2;go_meet;exact⟨rfl,rfl,_,rfl⟩
 case rest=>
  obtain⟨rfl,rfl,n,rfl⟩:=hcut;have HM:=Ja (u.out.drewN n);have HF:=Ja (i.out.drewN (n:=n));have q0:(W1.drewN n).cell? ⟨w.heap.size,0,none⟩=_:=p0;have q2:(W1.drewN n).cell? ⟨w.heap.size,2,none⟩=_:=p2;have q4:(W1.drewN n).cell? ⟨w.heap.size,4,none⟩=_:=p4;clear la lb p0 p2 p3 p4 g u i;generalize W1.drewN n=W2 at *;have t1:((oc:Int)==1)=false:=Ze;have t2:((oc:Int)==2)=false:=Ze;have t3:((oc:Int)==3)=false:=Ze;have t4:((oc:Int)==4)=false:=Ze;have b4:((oc:Int)==18)=false:=Ze;have b3:((oc:Int)==19)=false:=Ze;have b2:((oc:Int)==20)=false:=Ze;have b1:((oc:Int)==21)=false:=Ze;have b0:((oc:Int)==22)=false:=Ze;have a7:((oc:Int)==23)=false:=Ze;have a6:((oc:Int)==24)=false:=Ze;have a5:((oc:Int)==25)=false:=Ze;have a4:((oc:Int)==26)=false:=Ze;have a3:((oc:Int)==27)=false:=Ze;have c:=jD oc hc xa xb l k;unfold rq at c
  by_cases j:oc=8/\xb=0
  ·have EE:=Ja (show iy m oc xa xb=.trap 4 0 m by unfold iy;rw[if_pos j]);simp only[if_pos j] at c;have HC:=Ja c;clear hc c j;go_wp2_with (go_at_call 163;go_must (refine(HC.out _).mono ?_;rintro e w' ⟨rfl,rfl⟩))
   exact⟨rfl,by rw[EE.out];exact zQ.trap HM.out HF.out⟩
  ·have EE:=Ja (show iy m oc xa xb=.ok (yW oc xa xb) m by unfold iy;rw[if_neg j]);simp only[if_neg j] at c;have HC:=Ja c;clear hc c j;go_wp2_with (go_at_call 163;go_must (refine(HC.out _).mono ?_;rintro e w' ⟨rfl,rfl⟩))
   go_ret;rw[EE.out];exact zQ.ok HM.out HF.out (jz _ _ _ l k)
theorem lU{E:IEnv}{call:Int->List Nat->Mach->Res Nat}(h:tY E call m=.ok x m'):x=0:=by
 unfold tY at h
 split at h
 ·split at h
  ·split at h
   ·cases h;rfl
   ·cases h
  ·cases h;rfl
 ·cases h;rfl
theorem step_27(h:MachAt w K m ov){f:Int}(a5:I64 oa)(a4:I64 ob)(b2:on<65536)(ab:Option Addr)(an ac:Nat){v:Int->Nat}(hv:xO w vb vn v)(a6:Hid (OkProg K.E.p)){r:Nat}(hr:r<=100)(hC:Hid (pq K r)):
 O 155 #[F K.pm,.agg #[I 27,I f,I oa,I ob,M on,.slice ab an ac],.map (some vb),I (100-(r:Int))] w (zQ K w (tY K.E (xW K.E r) m)):=by
 have a1:=fun(W:World) (hW:Frm K.B w W)=>(hv.kept hW).look a5
 have a0:=fun(W:World) (hW:Frm K.B w W)=>(hv.kept hW).look a4
 have b1:=hv.2 oa;have b0:=hv.2 ob;have b3:=h.size;have a2:=Ja (h.keep ((Below.refl _ _).alloc (Je _) (G #[I 27,I f,I oa,I ob,M on,.slice ab an ac] 76)));have l:=Ja ((Frm.refl K.B w).alloc Zo (G #[I 27,I f,I oa,I ob,M on,.slice ab an ac] 76));have la:=fun n:Nat=>a1 _ (l.out.drewN (n:=n))
 have lb:=fun n:Nat=>a0 _ (l.out.drewN (n:=n))
 have g:=zI (W:=w) (o:=G #[I 27,I f,I oa,I ob,M on,.slice ab an ac] 76) rfl;clear h hv a1 a0;generalize v oa=xa at *;generalize v ob=xb at *;go_enter Tryz.func155,Tryz.ntmps155;go_upto_region 1 with fail;generalize a7:w.alloc (G #[I 27,I f,I oa,I ob,M on,.slice ab an ac] 76)=W1 at *;clear a7;have p0:=K0 g;have p2:=K2 g;have p3:=K3 g;have p4:=K4 g
 go_cut [9,10] (fun x y wx=>x=M xa/\y=M xb/\∃n,wx=W1.drewN n)
 case first=>
  go_quiet (fail);go_wp2;go_meet;exact⟨rfl,rfl,_,rfl⟩
 case rest=>
  obtain⟨rfl,rfl,n,rfl⟩:=hcut;have HM:=Ja (a2.out.drewN n);have HF:=Ja (l.out.drewN (n:=n));have q0:(W1.drewN n).cell? ⟨w.heap.size,0,none⟩=_:=p0;have q2:(W1.drewN n).cell? ⟨w.heap.size,2,none⟩=_:=p2;have q4:(W1.drewN n).cell? ⟨w.heap.size,4,none⟩=_:=p4;clear la lb p0 p2 p3 p4 g a2 l;generalize W1.drewN n=W2 at *;have c:=poll_any HM.out a6.out hr hC.out
  cases d:tY K.E (xW K.E r) m with
  |ok x m'=>
   have a3:=lU d;subst a3;have j:O 162 #[F K.pm,I (100-(r:Int))] W2 fun e w'=>e=.returned (.tuple #[])/\(∃ov',MachAt w' K m' ov')/\Frm K.B W2 w':=by rw[d] at c;exact c
   have u:=Ja j;have EE:=Ja d;clear c j d;go_wp2_with (go_at_call 162;go_must (refine u.out.mono ?_;rintro e w' ⟨rfl,⟨ov',q⟩,t⟩))
   go_ret;rw[EE.out]
   exact zQ.ok (x:=0) q (HF.out.trans t) Zd
  |trap k i m'=>
   have j:O 162 #[F K.pm,I (100-(r:Int))] W2 fun e w'=>e=.panicked [oE k i]/\(∃ov',MachAt w' K m' ov')/\Frm K.B W2 w':=by rw[d] at c;exact c
   have u:=Ja j;have EE:=Ja d;clear c j d;go_wp2_with (go_at_call 162;go_must (refine u.out.mono ?_;rintro e w' ⟨rfl,⟨ov',q⟩,t⟩))
   exact⟨rfl,by rw[EE.out];exact zQ.trap q (HF.out.trans t)⟩
theorem u16s_lt{B:Nat}{v:Value}(h:wV w B v xs):∀x∈xs,x<65536:=by
 intro x c;obtain⟨k,hk⟩:=Ny c;obtain⟨a,d,rfl,_,_,_⟩:=id h;obtain⟨b,o,_,_,h3⟩:=h.get hk;exact h3.2
def aam (o:IOp)(av:Value):Value:=.agg #[I o.code,I o.res,I o.a,I o.b,M (o.n:Int),av]
theorem step_any(h:MachAt w K m ov)(i:OkProg K.E.p){o:IOp}(ho:OkOp K.E.p o)(hb:I64 o.code/\I64 o.res/\I64 o.a/\I64 o.b/\o.n<65536){av:Value}(j:zY w w.heap.size av o.args)
  {v:Int->Nat} (hv:xO w vb vn v) {r:Nat} (hr:r<=100) (u:pq K r) (l:m.out.length+1+m.fuel.toNat<=4000000):
 O 155 #[F K.pm,aam o av,.map (some vb),I (100-(r:Int))] w (zQ K w (oV K.E (xW K.E r) o v m)):=by
 obtain⟨code,res,oa,ob,on,xs⟩:=o;obtain⟨⟨a1,a0⟩,h2,k⟩:=ho;obtain⟨_,a2,d,c,f⟩:=hb;obtain⟨aa,ac,g,_,_⟩:=j.form;simp only at *;unfold aam;have t:code=1∨code=2∨code=3∨code=4∨(5<=code/\code<=17)∨code=18∨code=19∨code=20∨code=21∨code=22∨code=23∨code=24∨code=25∨code=26∨code=27:=Zo;have q:∀x∈K.E.inn,x<65536:=u16s_lt h.inn;rcases t with rfl|rfl|rfl|rfl|y|rfl|rfl|rfl|rfl|rfl|rfl|rfl|rfl|rfl|rfl
 ·subst g;exact step_1 h d c f _ _ _ hv _
 ·subst g;exact step_2 h d c f _ _ _ hv _ (h2 rfl)
 ·subst g;exact step_3 h d c f _ _ _ hv _
 ·subst g;exact step_4 h d c f _ _ _ hv _
 ·subst g
  have e:oV K.E (xW K.E r) ⟨code,res,oa,ob,on,xs⟩ v m=iy m code (v oa) (v ob):=by
   unfold oV mU;simp only;rw[if_neg Zo,if_neg Zo,if_neg Zo,if_neg Zo,if_neg Zo,if_neg Zo,if_neg Zo,if_neg Zo,if_neg Zo,if_neg Zo,if_neg Zo,if_neg Zo,if_neg Zo,if_neg Zo]
  rw[e];exact step_ar h d c f _ _ _ hv _ y
 ·subst g;exact step_18 h d c f _ _ _ hv _
 ·subst g;exact step_19 h d c f _ _ _ hv _
 ·subst g;exact step_20 h d c f _ _ _ hv _
 ·subst g;exact step_21 h d c f _ _ _ hv _
 ·subst g;exact step_22 h d c f _ _ _ hv _ (Ja i.bank)
 ·subst g;exact step_23 h d c f _ _ _ hv _ (Ja i.bank)
 ·subst g;exact step_24 h d c f _ _ _ hv _ (Ja q)
 ·subst g;exact step_25 h d c f _ _ _ hv _ l
 ·exact step_26 h d c f j (by have:=i.argle oa.toNat;have:=(k rfl).2.2;omega) hv hr u (k rfl)
 ·subst g;exact step_27 h d c f _ _ _ hv (Ja i) hr (Ja u)
theorem nQ{b q:Nat}{v:Value}{c:Nat}(d:T w b q v)(hm:w.heap[vb]? =some (.map es c)):b≠vb:=by
 rintro rfl;simp[World.cell?,hm] at d
theorem MachAt.grownMap(h:MachAt w K m ov){c:Nat}(hm:w.heap[vb]? =some (.map es c))(j:K.B<=vb)(hg:w.grownBy w' (some vb)):MachAt w' K m ov:=by
 have n1:vb≠K.pm:=by rintro rfl;rw[h.blk] at hm;cases hm
 have n2:vb≠K.rb:=by rintro rfl;rw[h.ram] at hm;cases hm
 have hb:Below K.B w w':=(Below.refl _ _).grown hg (Qd h.size) (fun k hk=>by simp at hk;omega);refine⟨zL hg h.blk (by simpa using n1),zL hg h.ram (by simpa using n2),h.rlen,h.rlt,h.out.kept hg ?_,h.olt,h.obd,h.fuel,h.inp,h.pol,h.gpm,h.grb,h.prog.below hb,h.inn.below zr hb,h.irq.below xQ hb⟩;rcases h.out.2 with⟨hv,_⟩|⟨g,i,f,hv,_,d,_⟩
 ·left;rw[hv];rfl
 ·right;rw[hv];intro e;simp only[Value.ownBlock,Option.some.injEq] at e;subst e;rw[d] at hm;cases hm
theorem Frm.grownMap{B:Nat}(h:Frm B w0 w)(d:w0.heap.size<=vb)(c:B<=w0.heap.size)(hg:w.grownBy w' (some vb)):Frm B w0 w':=
 ⟨h.below.grown hg (Jn c h.below.size) (fun k hk=>by simp at hk;omega),fun k o hk hs=>zL hg (h.kept k o hk hs) (by have:=lt_of_block hk;simp;omega)⟩
theorem U16s.grownMap{B:Nat}{v:Value}(h:wV w B v xs){c:Nat}(hm:w.heap[vb]? =some (.map es c))(hg:w.grownBy w' (some vb)):wV w' B v xs:=by
 obtain⟨a,f,rfl,h1,h2,h3⟩:=h;refine⟨a,f,rfl,h1,h2,fun k x hk=>?_⟩;obtain⟨b,o,j,i,d,g⟩:=h3 k x hk;exact⟨b,o,j,i,hg.cell d (by simpa using nQ d hm),g⟩
structure CSt (K:MK) (w0 w:World) (m:Mach) (vb vn:Nat) (v:Int->Nat):Prop where
 mach:∃ov,MachAt w K m ov
 frm:Frm K.B w0 w
 map:xO w vb vn v
 new:w0.heap.size<=vb
 gb:K.B<w0.heap.size
theorem CSt.alloc{v:Int->Nat}(h:CSt K w0 w m vb vn v)(o:Obj):CSt K w0 (w.alloc o) m vb vn v:=by
 obtain⟨ov,hm⟩:=h.mach;exact⟨⟨ov,hm.keep ((Below.refl _ _).alloc (Je _) o)⟩,h.frm.trans ((Frm.refl _ _).alloc (by have:=hm.size;omega) o),h.map.kept ((Frm.refl K.B w).alloc (by have:=hm.size;omega) o),h.new,h.gb⟩
theorem CSt.store{n':Nat}{v v':Int->Nat}(h:CSt K w0 w m vb vn v)(hm:xO w' vb n' v')(hg:w.grownBy w' (some vb)):CSt K w0 w' m vb n' v':=by
 obtain⟨ov,d⟩:=h.mach;obtain⟨es,c,hb⟩:=h.map.blk;exact⟨⟨ov,d.grownMap hb (by have:=h.new;have:=h.gb;omega) hg⟩,h.frm.grownMap h.new (Qd h.gb) hg,hm,h.new,h.gb⟩
theorem CSt.step {K:MK}{w0 w w':World}{m m':Mach}{vb vn:Nat}{v:Int->Nat}{c:Value}(h:CSt K w0 w m vb vn v)(f:MachAt w' K m' c)(d:Frm K.B w w'):CSt K w0 w' m' vb vn v:=
 ⟨⟨c,f⟩,h.frm.trans d,h.map.kept d,h.new,h.gb⟩
theorem CSt.keep{v:Int->Nat}(h:CSt K w0 w m vb vn v)(hb:Q w w'):CSt K w0 w' m vb vn v:=by
 obtain⟨ov,hm⟩:=h.mach;exact h.step (hm.keep hb) ⟨hb.mono (Qd hm.size),fun i o hi _=>zH hb hi (lt_of_block hi)⟩
theorem iA (K:MK):pq K 0:=by
 intro w m ov av f args h d c g hl;obtain⟨aa,ac,rfl,_,_⟩:=g.form;have j:(100:Int)<101:=Zo;have i:=Ja h;clear h g hl d c;go_enter Tryz.func150,Tryz.ntmps150;go_wp2_with (go_at_call 153;go_must (refine(wj 5 0 _).mono ?_;rintro e w' ⟨rfl,rfl⟩))
 exact⟨rfl,zQ.trap i.out (Frm.refl _ _)⟩
def jw (K:MK)(w0 wx:World)(r n:Nat)(blocks:List IBlk)(vb:Nat)(at':Nat)(av:Value)(R:Res Nat):Prop:=
 ∃(args:List Nat) (v:Int->Nat) (m:Mach) (vn:Nat),CSt K w0 wx m vb vn v/\wV wx wx.heap.size av args/\args.length=(xz blocks at').params.length/\at'<blocks.length/\m.fuel.toNat<n/\vn+m.fuel.toNat*70000<=300000000000/\tJ K.E (xW K.E r) blocks n at' args v m=R
theorem rh {blocks:List IBlk}{a:Nat}(h:a<blocks.length):blocks[a]? =some (xz blocks a):=by
 unfold xz;rw[Ni,Jj,Jd h];rfl
theorem ru (E:IEnv)(call:Int->List Nat->Mach->Res Nat)(blocks:List IBlk)(n:Nat)(a:Int)(args:List Nat)(v:Int->Nat)(m:Mach):tJ E call blocks (n+1) a args v m=
 match iq E call (xz blocks a).ops (r7 (xz blocks a).params args v) m with
 |.trap k i m'=> .trap k i m'
 |.ok v2 m2=>
  if m2.fuel<=0 then .trap 7 0 m2
  else if(xz blocks a).term.kind=4 then .ok (if(xz blocks a).term.a=-1 then 0 else v2 (xz blocks a).term.a) m2.pay
  else if(xz blocks a).term.kind=5 then .trap 1 0 m2.pay
  else tJ E call blocks n (wK (xz blocks a).term (v2 (xz blocks a).term.a)).block ((wK (xz blocks a).term (v2 (xz blocks a).term.a)).args.map v2) v2 m2.pay:=rfl
theorem j7 (E:IEnv)(call:Int->List Nat->Mach->Res Nat)(o:IOp)(os:List IOp)(v:Int->Nat)(m:Mach):iq E call (o::os) v m=
 if m.fuel<=0 then .trap 7 0 m
 else match oV E call o v m.pay with
  |.ok r m'=>iq E call os (setV v o.res r) m'
  |.trap k i m'=> .trap k i m':=rfl
theorem bd_next{p1 p2:Nat}(h1:vn+p2*70000<=300000065536)(c:p1+1=p2):vn+p1*70000<=300000000000:=by
 subst c;rw[Nat.add_mul,<-Nat.add_assoc] at h1;exact Jn (Nat.le_of_add_le_add_right (b:=70000) (show vn+p1*70000+70000<=299999995536+70000 from h1)) Zd
def OpsSt (K:MK)(w0 wx:World)(r:Nat)(vb b12:Nat)(cs:Array Value)(m1:Mach)(os:List IOp)(R:Res (Int->Nat)):Prop:=
 ∃(v:Int->Nat) (m:Mach) (vn:Nat),CSt K w0 wx m vb vn v/\A wx b12 cs 84/\vn+m.fuel.toNat*70000<=300000065536/\m.fuel<=m1.fuel/\iq K.E (xW K.E r) os v m=R
theorem jC (K:MK)(t8:OkProg K.E.p)(r:Nat)(hr:r+1<=100)(hC:pq K r):pq K (r+1):=by
 intro w m ov av f args h y1 d6 ha hl;obtain⟨aa,ac,rfl,_,_⟩:=ha.form;obtain⟨k,rfl⟩:∃k:Nat,f=(k:Int):=⟨f.toNat,by omega⟩
 have j9:=h.prog.funcs;obtain⟨fa,fc,u4,_,_⟩:=j9.form;have c0:=h.c0;rw[u4] at j9 c0;have u0:k<K.E.p.funcs.length:=Zo;obtain⟨blocks,k1⟩:∃bl,K.E.p.funcs[k]? =some bl:=⟨_,Jd u0⟩
 obtain⟨fb,fo,rfl,_,bv,y3,p1⟩:=j9.get k1;rw[Nk] at y3;obtain⟨ba,bc,rfl,_,A3⟩:=p1.form;have u3:K.E.p.funcs.getD (k:Int).toNat []=blocks:=by rw[Ni,Jj,k1];rfl
 have B5:(k:Int)<K.E.p.funcs.length:=Zo;have n4:(101-((r+1:Nat):Int))=100-(r:Int):=Zo;have B7:¬(100:Int)<100-(r:Int):=Zo
 have l2:xW K.E (r+1) k args m=if blocks.isEmpty then .trap 8 ((k:Int)%65536).toNat m else tJ K.E (xW K.E r) blocks (m.fuel.toNat+1) 0 args (fun _=>0) m:=by
  show(if(K.E.p.funcs.getD (k:Int).toNat []).isEmpty then _ else _)=_
  rw[u3]
 have HM:=Ja h;have z9:=Ja p1;have HC:=Ja hC;have r6:=Ja t8;have v8:=Ja k1;have HA:=Ja (Jb ha hl);have hB:=h.size;rw[n4];have r2:=Ja l2;clear h j9 u4 u0 y1 d6 u3 p1 hC t8 k1 ha hl n4 l2
 by_cases f9:blocks.length=0
 ·have t1:((blocks.length:Int)==0)=true:=by rw[beq_iff_eq];omega
  have EE:=Ja (show xW K.E (r+1) k args m=.trap 8 ((k:Int)%65536).toNat m by rw[r2.out,if_pos (by rw[List.isEmpty_iff];exact Nz f9)]);obtain⟨q,hq⟩:∃q:Nat,((k:Int)%65536).toNat=q:=⟨_,rfl⟩
  have B1:IntKind.u16.wrap (k:Int)=(q:Int):=by rw[xY];omega
  rw[hq] at EE;clear f9 hq;go_enter Tryz.func150,Tryz.ntmps150;go_wp2_with (go_at_call 153;go_must (refine(wj 8 q _).mono ?_;rintro e w' ⟨rfl,rfl⟩))
  exact⟨rfl,by rw[EE.out];exact zQ.trap HM.out (Frm.refl _ _)⟩
 ·have t1:((blocks.length:Int)==0)=false:=Ze;have EE:=Ja (show xW K.E (r+1) k args m=tJ K.E (xW K.E r) blocks (m.fuel.toNat+1) 0 args (fun _=>0) m by rw[r2.out,if_neg (by rw[List.isEmpty_iff];intro e;exact f9 (by rw[e];rfl))]);obtain⟨RES,h9⟩:∃R,xW K.E (r+1) k args m=R:=⟨_,rfl⟩
  have l7:Hid (jw K w (w.alloc (.map #[] 0)) r (m.fuel.toNat+1) blocks w.heap.size 0 (.slice aa args.length ac) RES):=by
   refine⟨args,fun _=>0,m,0,⟨⟨ov,HM.out.keep ((Below.refl _ _).alloc (Je _) _)⟩,(Frm.refl _ _).alloc (Qd hB) _,xO.made w,Je _,hB⟩,?_,?_,by omega,by omega,?_,?_⟩
   ·exact(HA.out.1.below zr ((Below.refl _ _).alloc (Je _) _)).mono zr Zs
   ·obtain⟨b,bs,rfl⟩:∃b bs,blocks=b::bs:=by
     cases blocks with
     |nil=>exact absurd rfl f9
     |cons b bs=>exact⟨b,bs,rfl⟩
    have h1:=r6.out.par k b bs v8.out;have h2:=HA.out.2;rw[Ni] at h2
    show args.length=b.params.length
    omega
   ·have:=HM.out.obd;omega
   ·rw[<-h9,EE.out];rfl
  rw[h9];have v6:=Ja (show ∀b∈blocks,OkBlk K.E.p blocks b from r6.out.blk blocks (Ji v8.out));have t9:0<blocks.length:=Zo;have C0:=Ja t9;clear f9 h9 EE r2 t9 HA;generalize x2:m.fuel.toNat+1=gas at l7;clear x2;have B4:=@run_makeMap Tryz.prog;go_enter Tryz.func150,Tryz.ntmps150;go_wp2
  go_loopg [2,11] gas (fun n sv atv wx=>∃(at':Nat) (sa:Option Addr) (sn sc:Nat),sv=.slice sa sn sc/\atv=I at'/\Hid (jw K w wx r n blocks w.heap.size at' (.slice sa sn sc) RES))
  case atStart=>exact⟨0,aa,args.length,ac,rfl,rfl,l7⟩
  case round=>
   obtain⟨at',sa,sn,sc,rfl,rfl,HS⟩:=hrel
   cases gk with
   |zero=>obtain⟨_,_,m1,_,_,_,_,_,x8,_⟩:=HS.out;exact absurd x8 (Nat.not_lt_zero _)
   |succ n=>
    obtain⟨args1,v1,m1,vn1,d7,f0,u9,p5,u5,u8,c⟩:=HS.out;obtain⟨sa',sc',e1,_,_⟩:=f0.form;cases e1;have x3:=z9.out.get (rh p5);have m8:=v6.out _ (Ji (rh p5));generalize p3:xz blocks at'=bk at *;have i1:=Ja p3;obtain⟨bb,bo,rfl,d9,k2,k3,u1,pv,ov1,tv,kp,ko,kt,m0,m3,l4⟩:=x3;have k2:=zV d7.frm.below d9 k2;have k3:=zV d7.frm.below d9 k3;have kp:=zV d7.frm.below d9 kp;have ko:=zV d7.frm.below d9 ko;have kt:=zV d7.frm.below d9 kt;obtain⟨pa,pc,rfl,_,_⟩:=m0.form;obtain⟨oa,oc,rfl,_,_⟩:=m3.form;obtain⟨ta,tc,rfl,_,_⟩:=l4.form;have A4:(at':Int)<blocks.length:=Zo;have z6:=Ja d7;have b9:=Ja (Jb f0 u9);have e4:=Ja (Jb c (Jb u5 u8));have c3:=Ja m8;have g9:=Ja (Jb m0 (Jb m3 (Jb l4 u1)));clear l7 HS d7 f0 u9 u5 u8 c m8 p3 m0 m3 l4 u1 p5;go_upto_region 9 with fail;have o3:=z6.out.alloc (G #[.slice pa bk.params.length pc,.slice oa bk.ops.length oc,I bk.term.kind,I bk.term.a,.slice ta bk.term.to.length tc] 84);have d:=zI (W:=wr) (o:=G #[.slice pa bk.params.length pc,.slice oa bk.ops.length oc,I bk.term.kind,I bk.term.a,.slice ta bk.term.to.length tc] 84) rfl;have g6:=(b9.out.1.below zr ((Below.refl _ _).alloc (Je _) (G #[.slice pa bk.params.length pc,.slice oa bk.ops.length oc,I bk.term.kind,I bk.term.a,.slice ta bk.term.to.length tc] 84))).mono zr (B':=(wr.alloc (G #[.slice pa bk.params.length pc,.slice oa bk.ops.length oc,I bk.term.kind,I bk.term.a,.slice ta bk.term.to.length tc] 84)).heap.size) Zs;generalize z0:wr.alloc (G #[.slice pa bk.params.length pc,.slice oa bk.ops.length oc,I bk.term.kind,I bk.term.a,.slice ta bk.term.to.length tc] 84)=W1 at *;generalize wr.heap.size=b12 at *;have A9:=K0 d;have v0:=Ja (show CSt K w W1 m1 w.heap.size vn1 v1/\wV W1 W1.heap.size (.slice sa args1.length sc) args1/\A W1 b12 #[.slice pa bk.params.length pc,.slice oa bk.ops.length oc,I bk.term.kind,I bk.term.a,.slice ta bk.term.to.length tc] 84 from⟨o3,g6,d⟩);have B3:=c3.out.2.2;clear z0 o3 g6 d k2 k3 kp ko kt;go_wp2
    go_loopw [47] (fun jv wx=>∃j:Nat,j<=bk.params.length/\jv=I j/\Hid (CSt K w wx m1 w.heap.size (vn1+j) (r7 (bk.params.take j) (args1.take j) v1)/\wV wx wx.heap.size (.slice sa args1.length sc) args1/\A wx b12 #[.slice pa bk.params.length pc,.slice oa bk.ops.length oc,I bk.term.kind,I bk.term.a,.slice ta bk.term.to.length tc] 84)) (fun jv _=>bk.params.length-(intOf jv).toNat)
    case atStart=>exact⟨0,Jt _,rfl,v0.out⟩
    case round=>
     obtain⟨j,hj,rfl,HJ⟩:=hrel
     by_cases a0:j<bk.params.length
     ·skip
      have e5:(j:Int)<bk.params.length:=Zo;have b4:=Ja a0;obtain⟨x,hx⟩:∃x,bk.params[j]? =some x:=⟨_,Jd a0⟩
      obtain⟨y,hy⟩:∃y,args1[j]? =some y:=⟨_,Jd (by rw[b9.out.2];exact a0)⟩
      obtain⟨b1,o1,rfl,a7,o9,x0⟩:=g9.out.1.get hx;rw[Nk] at o9;have cp:=zV HJ.out.1.frm.below a7 o9;obtain⟨b2,o2,rfl,y5,y2,w9⟩:=HJ.out.2.1.get hy;rw[Nk] at y2;have B0:(j:Int)<args1.length:=by have:=b9.out.2;omega
      have l9:=qq (bk.params.take j) (args1.take j) v1 x y (by have:=b9.out.2;rw[Oc,Oc];omega);have e1:bk.params.take (j+1)=bk.params.take j++ [x]:=by rw[Nh,hx];rfl
      have e2:args1.take (j+1)=args1.take j++ [y]:=by rw[Nh,hy];rfl
      rw[<-e1,<-e2] at l9;have z3:=Ja l9;have l0:vn1+j<9000000000000000000:=by have:=e4.out.2.2;omega
      obtain⟨es,ec,c5⟩:=HJ.out.1.map.blk;have v4:=Ja c5;clear hx hy o9 l9 e1 e2 a7 y5 a0 c5;go_wp2_with (at_mapUpdate;go_must (refine us rfl (.tmp 52) (.tmp 53) (.tmp 57) rfl HJ.out.1.map l0 x y rfl rfl rfl x0 w9 ?_;intro w5 f5 f8;have b8:=Ja (Jb f5 f8);clear f5 f8))
      go_roundw
      case rel=>
       refine⟨j+1,b4.out,by go_num,?_,?_,?_⟩
       ·rw[z3.out];exact HJ.out.1.store b8.out.1 b8.out.2
       ·exact(U16s.grownMap HJ.out.2.1 v4.out b8.out.2).mono zr b8.out.2.size
       ·refine zL b8.out.2 HJ.out.2.2 ?_;intro e;have c5:=v4.out;rw[Nt e,HJ.out.2.2] at c5;cases c5
      case measure=>have:=b4.out;simp[intOf];omega
     ·skip
      obtain rfl:j=bk.params.length:=by omega
      have e5:¬(bk.params.length:Int)<bk.params.length:=Zo;have j2:r7 (bk.params.take bk.params.length) (args1.take bk.params.length) v1=r7 bk.params args1 v1:=by rw[Nl,<-b9.out.2,Nl]
      have HQ:=HJ.out;rw[j2] at HQ;have z2:=Ja HQ;have A8:=K1 HQ.2.2;obtain⟨OR,q9⟩:∃R,iq K.E (xW K.E r) bk.ops (r7 bk.params args1 v1) m1=R:=⟨_,rfl⟩
      have r5:=Ja q9;generalize o0:(#[.slice pa bk.params.length pc,.slice oa bk.ops.length oc,I bk.term.kind,I bk.term.a,.slice ta bk.term.to.length tc]:Array Value)=cs at *;have z7:=Ja o0;have l6:Hid (OpsSt K w wr r w.heap.size b12 cs m1 (bk.ops.drop 0) OR):=⟨_,m1,_,HQ.1,HQ.2.2,by have:=e4.out.2.2;have:=c3.out.2.2;omega,Og _,q9⟩
      clear HQ j2 HJ q9 z2 o0 v0;go_wp2
      go_loopw [62] (fun jv wx=>∃j:Nat,j<=bk.ops.length/\jv=I j/\Hid (OpsSt K w wx r w.heap.size b12 cs m1 (bk.ops.drop j) OR)) (fun jv _=>bk.ops.length-(intOf jv).toNat)
      case atStart=>exact⟨0,Jt _,rfl,l6⟩
      case round=>
       obtain⟨j,hj,rfl,HJ⟩:=hrel
       by_cases a0:j<bk.ops.length
       ·skip
        have e5:(j:Int)<bk.ops.length:=Zo;have b4:=Ja a0;obtain⟨o,ho⟩:∃o,bk.ops[j]? =some o:=⟨_,Jd a0⟩
        have k0:bk.ops.drop j=o::bk.ops.drop (j+1):=by rw[Qn a0];rw[Jd a0] at ho;rw[Nt ho]
        obtain⟨v2,m2,vn2,i,d,d8,d6,b3⟩:=HJ.out;rw[k0,j7] at b3;obtain⟨b1,o1,rfl,a7,g0,g1,g2,g3,g4,n1,av3,g5,k9⟩:=g9.out.2.1.get ho;obtain⟨xa,xc,rfl,_,_⟩:=k9.form;have d0:=zV i.frm.below a7 g0;have d1:=zV i.frm.below a7 g1;have d2:=zV i.frm.below a7 g2;have d3:=zV i.frm.below a7 g3;have d4:=zV i.frm.below a7 g4;have d5:=zV i.frm.below a7 g5;have f1:=Ja i;have x5:=Ja d;have f2:=Ja (Jb d8 (Jb d6 b3));have r1:=Ja (Jb k9 n1);have z4:=Ja (c3.out.1 o (Ji ho));clear i d d8 d6 b3 k9 n1 k0 g0 g1 g2 g3 g4 g5 a7 a0 ho;go_upto_region 17 with fail;have a2:=f1.out.alloc (G (C o xa xc) 76);have g:=zI (W:=wr) (o:=G (C o xa xc) 76) rfl;have k5:=zB (o:=G (C o xa xc) 76) x5.out;generalize y8:wr.alloc (G (C o xa xc) 76)=W2 at *;generalize wr.heap.size=b16 at *;obtain⟨ov2,g7⟩:=a2.mach;have c9:=Ja g7;have a4:=Ja a2;have s6:=Ja (Jb g k5);clear y8 a2 g k5 g7 d0 d1 d2 d3 d4 d5
        by_cases a1:m2.fuel<=0
        ·skip
         have l:=f2.out.2.2;rw[if_pos a1] at l;have c:=e4.out.1;rw[ru,i1.out,r5.out,<-l] at c;have u:=Ja c;have a3:=Ja a1;clear l c a1;go_wp2_with (go_at_call 154;go_must (refine(pay_no c9.out a3.out).mono ?_;rintro e w3 ⟨rfl,rfl⟩))
         exact⟨rfl,by rw[<-u.out];exact zQ.trap c9.out a4.out.frm⟩
        ·skip
         have l:=f2.out.2.2;rw[if_neg a1] at l;have r4:=Ja l;have a3:=Ja (show 0<m2.fuel by omega);clear l a1;go_upto_region 18 with(go_at_call 154;go_must (refine(iN c9.out a3.out).mono ?_;rintro e w3 ⟨rfl,c7,c8⟩))
         have e7:=a4.out.step c7 c8;have g:=c8.kept _ _ s6.out.1 (by simp[sA]);have d:=c8.kept _ _ s6.out.2 (by simp[sA]);have q0:=K0 g;have q1:=K1 g;have q2:=K2 g;have q3:=K3 g;have q4:=K4 g;have q5:=K5 g;have a5:=step_any c7 r6.out z4.out r1.out.2 ((r1.out.1.below zO e7.frm.below).mono zO (Qd c7.size)) e7.map (show r<=100 by omega) HC.out (by have:=c9.out.obd;have:=a3.out;simp only[Mach.pay];omega);have s3:=Ja e7;have v9:=Ja (Jb g d);clear e7 g d c7 c8
         cases b0:oV K.E (xW K.E r) o v2 m2.pay with
         |ok x m4=>
          have f4:O 155 #[F K.pm,.agg (C o xa xc),.map (some w.heap.size),I (100-(r:Int))] w3 fun e w'=>e=.returned (M x)/\(∃ov',MachAt w' K m4 ov')/\Frm K.B w3 w'/\x<65536:=by rw[b0] at a5;exact a5
          have r3:=Ja f4;have l:=r4.out;rw[b0] at l;have n3:=pI (pO K.E r) b0;have HX:=Ja (Jb l n3);clear f4 l n3 b0 a5;go_upto_region 19 with(go_at_call 155;go_must (refine r3.out.mono ?_;rintro e w4 ⟨rfl,⟨ov4,r0⟩,g8,t6⟩))
          have c2:=s3.out.step r0 g8;have g:=g8.kept _ _ v9.out.1 (by simp[sA]);have d:=g8.kept _ _ v9.out.2 (by simp[sA]);have s1:=K1 g;have f3:=Ja d
          have p4:vn2+1+m4.fuel.toNat*70000<=300000065536:=by
           have h1:=f2.out.1;have h2:=HX.out.2;have h3:=a3.out;simp only[Mach.pay] at h2;have h4:m4.fuel.toNat+1<=m2.fuel.toNat:=Zo;omega
          have u6:m4.fuel<=m1.fuel:=by have h1:=f2.out.2.1;have h2:=HX.out.2;simp only[Mach.pay] at h2;omega
          have c4:=Ja c2;have k7:=Ja (Jb p4 u6);have l0:vn2<9000000000000000000:=Zo;have x7:=c2.map;have x6:=r1.out.2.2.1;clear c2 g d p4 u6 q0 q1 q2 q3 q4 q5
          by_cases t7:0<=o.res
          ·have b5:=HX.out.1;unfold setV at b5;rw[if_pos t7] at b5;have s0:=Ja b5;clear b5;go_wp2_with (at_mapUpdate;go_must (refine us rfl (.tmp 76) (.tmp 78) (.tmp 79) rfl x7 l0 o.res x rfl rfl rfl x6 t6 ?_;intro w5 f5 f8;have b8:=Ja (Jb f5 f8);clear f5 f8))
           go_roundw
           case rel=>
            refine⟨j+1,b4.out,by go_num,_,m4,vn2+1,c4.out.store b8.out.1 b8.out.2,?_,k7.out.1,k7.out.2,s0.out⟩;refine zL b8.out.2 f3.out ?_;intro e;obtain⟨es,ec,c5⟩:=c4.out.map.blk;rw[Nt e,f3.out] at c5;cases c5
           case measure=>have:=b4.out;simp[intOf];omega
          ·have b5:=HX.out.1;unfold setV at b5;rw[if_neg t7] at b5;have s0:=Ja b5;clear b5;go_wp2;go_roundw
           case rel=>exact⟨j+1,b4.out,by go_num,_,m4,vn2,c4.out,f3.out,by have:=k7.out.1;omega,k7.out.2,s0.out⟩
           case measure=>have:=b4.out;simp[intOf];omega
         |trap k2 i2 m4=>
          have f4:O 155 #[F K.pm,.agg (C o xa xc),.map (some w.heap.size),I (100-(r:Int))] w3 fun e w'=>e=.panicked [oE k2 i2]/\(∃ov',MachAt w' K m4 ov')/\Frm K.B w3 w'/\True:=by rw[b0] at a5;exact a5
          have r3:=Ja f4;have l:=r4.out;rw[b0] at l;have c:=e4.out.1;rw[ru,i1.out,r5.out,<-l] at c;have u:=Ja c;clear f4 l c b0 a5;go_wp2_with (go_at_call 155;go_must (refine r3.out.mono ?_;rintro e w4 ⟨rfl,⟨ov4,r0⟩,g8,t6⟩))
          exact⟨rfl,by rw[<-u.out];exact zQ.trap r0 (s3.out.frm.trans g8)⟩
       ·skip
        obtain rfl:j=bk.ops.length:=by omega
        have e5:¬(bk.ops.length:Int)<bk.ops.length:=Zo;obtain⟨v2,m2,vn2,i,d,d8,d6,b3⟩:=HJ.out;rw[List.drop_length] at b3;have c:=e4.out.1;rw[ru,i1.out,r5.out,<-b3] at c;have p0:(if m2.fuel<=0 then .trap 7 0 m2 else if bk.term.kind=4 then .ok (if bk.term.a=-1 then 0 else v2 bk.term.a) m2.pay else if bk.term.kind=5 then .trap 1 0 m2.pay else tJ K.E (xW K.E r) blocks n (wK bk.term (v2 bk.term.a)).block ((wK bk.term (v2 bk.term.a)).args.map v2) v2 m2.pay)=RES:=c;obtain⟨ov2,g7⟩:=i.mach;have c9:=Ja g7;have f1:=Ja i;have s5:=Ja (Jb d (Jb d8 d6));have s4:=Ja p0;clear b3 c p0 i d d8 d6 HJ g7 l6
        by_cases a1:m2.fuel<=0
        ·skip
         have c:=s4.out;rw[if_pos a1] at c;have u:=Ja c;have a3:=Ja a1;clear c a1;go_wp2_with (go_at_call 154;go_must (refine(pay_no c9.out a3.out).mono ?_;rintro e w3 ⟨rfl,rfl⟩))
         exact⟨rfl,by rw[<-u.out];exact zQ.trap c9.out f1.out.frm⟩
        ·have c:=s4.out;rw[if_neg a1] at c;have i0:=Ja c;have a3:=Ja (show 0<m2.fuel by omega);clear c a1;go_upto_region 23 with(go_at_call 154;go_must (refine(iN c9.out a3.out).mono ?_;rintro e w3 ⟨rfl,c7,c8⟩))
         have a2:=f1.out.step c7 c8;have d:=c8.kept _ _ s5.out.1 (by simp[sA]);rw[<-z7.out] at d;have q2:=K2 d;have q3:=K3 d;have q4:=K4 d;have lk:=a2.map.look (x:=bk.term.a) g9.out.2.2.2.2;have l1:=a2.map.2 bk.term.a;have a4:=Ja a2;have e3:=Ja c7;clear a2 d c7 c8
         by_cases h4:bk.term.kind=4
         ·skip
          have c:=i0.out;rw[if_pos h4] at c;rw[h4] at q2
          by_cases e0:bk.term.a=-1
          ·rw[if_pos e0] at c;have t2:(bk.term.a==-1)=true:=by rw[beq_iff_eq];exact e0
           have u:=Ja c;clear c h4 e0;go_wp2;go_ret;rw[<-u.out];exact zQ.ok (x:=0) e3.out a4.out.frm Zd
          ·rw[if_neg e0] at c;have t2:(bk.term.a==-1)=false:=by rw[beq_eq_false_iff_ne];exact e0
           have u:=Ja c;clear c h4 e0;go_wp2;go_ret;rw[<-u.out];exact zQ.ok e3.out a4.out.frm l1
         ·by_cases h5:bk.term.kind=5
          ·skip
           have c:=i0.out;rw[if_neg h4,if_pos h5] at c;rw[h5] at q2;have u:=Ja c;clear c h4 h5;go_wp2_with (go_at_call 153;go_must (refine(wj 1 0 _).mono ?_;rintro e w' ⟨rfl,rfl⟩))
           exact⟨rfl,by rw[<-u.out];exact zQ.trap e3.out a4.out.frm⟩
          ·skip
           have c:=i0.out;rw[if_neg h4,if_neg h5] at c;have t4:(bk.term.kind==4)=false:=by rw[beq_eq_false_iff_ne];exact h4
           have t5:(bk.term.kind==5)=false:=by rw[beq_eq_false_iff_ne];exact h5
           have h7:=lL c3.out.2.1 h4 h5 (v2 bk.term.a);have a6:=c3.out.2.1.2.2.2.2 _ h7;have e8:=edge_any (w:=w3) (B:=K.B) (t:=bk.term) (blocks:=blocks) (tv:=.slice ta bk.term.to.length tc) (g9.out.2.2.1.below xL a4.out.frm.below) g9.out.2.2.2.1 (Qd e3.out.size) c3.out.2.1 h4 h5 (v2 bk.term.a) l1;obtain⟨x,t3⟩:∃x,wK bk.term (v2 bk.term.a)=x:=⟨_,rfl⟩
           rw[t3] at c h7 a6 e8;have v5:=Ja e8;have u:=Ja (Jb c a6)
           have A2:x.args.length<=65536:=by
            rw[a6.2.2];have h1:=a6.1;have hq:x.block=((x.block.toNat:Nat):Int):=Zo;rw[hq];exact(v6.out _ (Ji (rh a6.2.1))).2.2
           clear c h4 h5 h7 a6 e8 t3;generalize v2 bk.term.a=va at *;go_upto_region 31 with(go_at_call 156;go_must (refine v5.out.mono ?_;rintro e w4 ⟨av4,rfl,n2,B9,k4⟩;obtain⟨ea,ec,rfl,_,_⟩:=n2.form))
           have c2:=(a4.out.keep k4).alloc (G #[I x.block,.slice ea x.args.length ec] 79);have h8:=zI (W:=w4) (o:=G #[I x.block,.slice ea x.args.length ec] 79) rfl;have u2:zY (w4.alloc (G #[I x.block,.slice ea x.args.length ec] 79)) K.B (.slice ea x.args.length ec) x.args:=n2.below zO ((k4.mono (Qd e3.out.size)).alloc (by have:=e3.out.size;have:=k4.size;omega) _);have x1:w4.heap.size<(w4.alloc (G #[I x.block,.slice ea x.args.length ec] 79)).heap.size:=by simp
           generalize y6:w4.alloc (G #[I x.block,.slice ea x.args.length ec] 79)=W5 at *;generalize w4.heap.size=b18 at *;have w0:=K0 h8;have A0:=K1 h8;have c4:=Ja c2;have z5:=Ja u2;clear y6 c2 u2 h8 k4 n2 q2 q3 q4 lk t4 t5 v5;go_wp2
           go_loopw [2,111] (fun rv kv wx=>∃k:Nat,k<=x.args.length/\kv=I k/\Hid (wx.ownsRow W5.heap.size 43 1 rv k ((uT v2 x.args k).map vL)/\Q W5 wx)) (fun _ kv _=>x.args.length-(intOf kv).toNat)
           case atStart=>exact⟨0,Jt _,rfl,Jv _ _ _ _,Below.refl _ _⟩
           case round=>
            obtain⟨k6,B6,rfl,b7⟩:=hrel;obtain⟨ra,rc,rfl⟩:=zG b7.out.1;have c1:=c4.out.keep b7.out.2
            by_cases e6:k6<x.args.length
            ·skip
             have s9:(k6:Int)<x.args.length:=Zo;have s2:=Ja e6;obtain⟨y,hy⟩:∃y,x.args[k6]? =some y:=⟨_,Jd e6⟩
             obtain⟨b6,o6,rfl,y4,n7,w8⟩:=z5.out.get hy;rw[Nk] at n7;have B8:K.B<W5.heap.size:=by obtain⟨ov5,z1⟩:=c4.out.mach;exact z1.size
             have cy:=(b7.out.2.cell (p:=⟨b6,o6+k6,none⟩) (by show b6<W5.heap.size;omega)).trans n7;have ly:=c1.map.look w8;have B2:=c1.map.2 y;have x4:=Ja (qH (v:=v2) hy);have A6:=pA (v:=v2) (show k6<=x.args.length by omega);obtain⟨ii,y0,w7,w2,w1⟩:=info_parts Tryz.info_u16;have A1:=b7.out.2.size;clear hy n7 e6 c1 y4;generalize v2 y=vy at *;go_wp2_with (at_builtin;go_must (refine wpList_append_lies _ rfl (.tmp 115) (.tmp 119) 48 rfl W5.heap.size 43 ii (M 0) 1 2 Tryz.underlying48 y0 w7 w2 w1 rfl Zd _ k6 ((uT v2 x.args k6).map vL) rfl (b7.out.1.alloc _) ⟨wr.heap.size,0,none⟩ 1 1 [M vy] rfl rfl (Oi (cs:=#[M vy]) (zI Zs)) (by simp[Value.oneCell']) Zd (by unfold maxLen;omega) Zo Zt (wr.heap.size+1) Zs ?_;intro gq A7 w6 j1 f6 A5 e6;have v3:=Ja (Jb j1 f6);clear j1 f6))
             go_roundw
             case rel=>
              refine⟨k6+1,s2.out,by go_num,?_,(b7.out.2.alloc Zo _).grown v3.out.2 Zt (fun k hk=>(b7.out.1.lt k hk).1)⟩;rw[x4.out,Js];exact v3.out.1
             case measure=>have:=s2.out;simp[intOf];omega
            ·skip
             obtain rfl:k6=x.args.length:=by omega
             have s9:¬(x.args.length:Int)<x.args.length:=Zo;have h6:=b7.out.1;rw[r8] at h6;have s7:=(b7.out.2.cell (p:=⟨b18,0,none⟩) x1).trans w0;have l3:=ms h6 Zs (fun y hy=>by obtain⟨z,_,rfl⟩:=Nu.1 hy;exact c1.map.2 z);obtain⟨q,hq⟩:∃q:Nat,x.block=(q:Int):=⟨x.block.toNat,by have:=u.out.2.1;omega⟩
             rw[hq] at s7;have HH:=u.out;rw[hq] at HH
             have s8:Hid (jw K w wr r n blocks w.heap.size q (.slice ra x.args.length rc) RES):=by
              refine⟨x.args.map v2,v2,m2.pay,vn2,c1,l3,?_,?_,?_,?_,HH.1⟩
              ·rw[Nr];exact HH.2.2.2
              ·have:=HH.2.2.1;rw[Ni] at this;exact this
              ·have h1:=e4.out.2.1;have h2:=s5.out.2.2;have h3:=a3.out;simp only[Mach.pay];omega
              ·exact bd_next s5.out.2.1 (by have:=a3.out;show(m2.fuel-1).toNat+1=m2.fuel.toNat;omega)
             clear h6 l3 c1 HH hq;go_wp2
             go_roundg n
             case measure=>omega
             case rel=>exact⟨q,ra,x.args.length,rc,rfl,rfl,s8⟩
theorem mi (K:MK)(hok:OkProg K.E.p):∀r,r<=100->pq K r
 |0,_=>iA K
 |r+1,h=>jC K hok r h (mi K hok r Zo)
def PostQ (K:MK)(w:World)(R:Res Nat)(w':World):Prop:=
 match R with
 |.ok x m'=>(∃dp ov,MachQ w' K m' none dp ov)/\FrmQ K.B w w'/\x<65536
 |.trap k i m'=>(∃(dp:Int) (ov:Value) (fu:Int),MachQ w' K {m' with fuel:=fu } (some (k,i)) dp ov)/\FrmQ K.B w w'
def valQ:Res Nat->Value
 |.ok x _=> M x
 |.trap _ _ _=> M 0
def vh (K:MK)(w:World)(R:Res Nat)(e:Ending)(w':World):Prop:=e=.returned (valQ R)/\PostQ K w R w'
def et (K:MK)(w:World)(R:Res Nat)(e:Ending)(w':World):Prop:=e=.returned (.tuple #[])/\PostQ K w R w'
theorem vh.ok(h:MachQ w' K m' none dp ov)(hf:FrmQ K.B w w')(c:x<65536):vh K w (.ok x m') (.returned (M x)) w':=⟨rfl,⟨dp,ov,h⟩,hf,c⟩
theorem vh.trap(h:MachQ w' K m' (some (k,i)) dp ov)(hf:FrmQ K.B w w'):vh K w (.trap k i m') (.returned (M 0)) w':=⟨rfl,⟨dp,ov,m'.fuel,h⟩,hf⟩
theorem et.ok(h:MachQ w' K m' none dp ov)(hf:FrmQ K.B w w')(c:x<65536):et K w (.ok x m') (.returned (.tuple #[])) w':=⟨rfl,⟨dp,ov,h⟩,hf,c⟩
theorem et.trap(h:MachQ w' K m' (some (k,i)) dp ov)(hf:FrmQ K.B w w'):et K w (.trap k i m') (.returned (.tuple #[])) w':=⟨rfl,⟨dp,ov,m'.fuel,h⟩,hf⟩
theorem MachQ.ramCell(h:MachQ w K m tr dp ov){a:Nat}(d:wo a=true):T w K.rb (a-16384) (.int .u8 (tC m a:Nat))/\tC m a<256/\Y w K.rb (a-16384):=by
 have h1:=(qG a).1 d;obtain⟨x,c⟩:∃x,m.ram[a-16384]? =some x:=⟨_,Jd (by rw[h.rlen];omega)⟩
 have e:tC m a=x:=by unfold tC;rw[Jj,c];rfl
 rw[e];exact⟨zA h.ram (by simp[c,q8]),h.rlt x (Ji c),zE h.ram⟩
theorem MachQ.setR(h:MachQ w K m tr dp ov)(a x:Nat)(f:x<256):MachQ (w.setCell ⟨K.rb,a-16384,none⟩ (.int .u8 (x:Int))) K (m.put a x) tr dp ov/\FrmQ K.B w (w.setCell ⟨K.rb,a-16384,none⟩ (.int .u8 (x:Int))):=by
 have c:FrmQ K.B w (w.setCell ⟨K.rb,a-16384,none⟩ (.int .u8 (x:Int))):=(FrmQ.refl _ _).set h.ram h.grb (by simp[di]) _;refine⟨⟨zR h.blk (by simpa using Ne.symm h.ne),?_,by simp[Mach.put,h.rlen],?_,ownsRow_setCell_other h.out ?_ _,h.olt,h.obd,h.fuel,h.inp,h.pol,h.gpm,h.grb,h.prog.below c.below,h.inn.below zr c.below,h.irq.below xQ c.below⟩,c⟩
 ·rw[zD h.ram];simp[Mach.put,q8,Ox]
 ·intro y d;rcases Qe d with d|rfl
  ·exact h.rlt y d
  ·exact f
 ·intro e;exact zC h.out h.ram (.inr Zd) (by simpa using e)
theorem cC{a:Nat}(c:wo a=true):O 144 #[F K.pm,M a] w fun e w'=>e=.returned (.bool true)/\w=w':=by
 have h1:=(qG a).1 c;have t1:¬(a:Int)<16384:=Zo;have t2:¬(24575:Int)<(a:Int):=Zo;clear c;go_enter Tryz.func144,Tryz.ntmps144;go_wp2;go_ret;exact⟨rfl,rfl⟩
theorem bW(h:MachQ w K m none dp ov){a:Nat}(f:¬wo a=true):O 144 #[F K.pm,M a] w fun e w'=>e=.returned (.bool false)/\MachQ w' K m (some (2,a)) dp ov/\FrmQ K.B w w':=by
 have H:=Ja h;clear h
 by_cases h1:(a:Int)<16384
 ·clear f;go_enter Tryz.func144,Tryz.ntmps144;go_wp2_with (go_at_call 101;go_must (refine(ew H.out 2 a).mono ?_;rintro e w1 ⟨rfl,c,d⟩))
  go_ret;exact⟨rfl,c,d⟩
 ·have h2:(24575:Int)<(a:Int):=by rw[qG] at f;omega
  clear f;go_enter Tryz.func144,Tryz.ntmps144;go_wp2_with (go_at_call 101;go_must (refine(ew H.out 2 a).mono ?_;rintro e w1 ⟨rfl,c,d⟩))
  go_ret;exact⟨rfl,c,d⟩
def dQ (m:Mach)(a n:Nat):Res Nat:=if n=1 then abh m a else pR m a
def agC (m:Mach)(a:Nat):Nat->Nat
 |0=>0
 |1=>tC m a
 |_=>tC m a+256*tC m (xe a)
theorem dV {a:Nat}(h:wo a=true):IntKind.u16.wrap ((a:Int)-16384)=((a-16384:Nat):Int):=by
 have:=(qG a).1 h;rw[xY];omega
theorem load_q(h:MachQ w K m none dp ov){a n:Nat}(b4:a<65536)(hn:n=1∨n=2):O 125 #[F K.pm,M a,I n] w (vh K w (dQ m a n)):=by
 have c6:=h.c6;have hl:=h.lt;have H:=Ja h;have y:=Ja hn;clear h hn;go_enter Tryz.func125,Tryz.ntmps125;go_wp2
 go_loopw [7,8] (fun xv kv wx=>∃k:Nat,k<=n/\xv=M (agC m a k:Nat)/\kv=I k/\wx=w/\Hid ((1<=k->wo a=true)/\(2<=k->wo (xe a)=true))) (fun _ kv _=>n-(intOf kv).toNat)
 case atStart=>exact⟨0,Jt _,rfl,rfl,rfl,Ja ⟨fun h=>by omega,fun h=>by omega⟩⟩
 case round=>
  obtain⟨k,hk,rfl,rfl,hw,g⟩:=hrel;subst hw
  by_cases i:k<n
  ·have a2:(k:Int)<n:=Zo;have a6:k=0∨k=1:=by have:=y.out;omega
   have a0:=Ja i;rcases a6 with rfl|rfl
   ·have a3:IntKind.u16.wrap (a:Int)=(a:Int):=by rw[xY];omega
    have x:agC m a 0=0:=rfl;rw[x] at *;clear x i
    by_cases c:wo a=true
    ·obtain⟨cr,hr,a4⟩:=H.out.ramCell c;have a1:=dV c;have l:=(qG a).1 c;have a7:((a-16384:Nat):Int)<8192:=Zo;have d:=Ja c;have HR:=Ja hr;clear c l;go_wp2_with (go_at_call 144;go_must (refine(cC d.out).mono ?_;rintro e w1 ⟨rfl,rfl⟩))
     go_roundw
     case rel=>exact⟨1,a0.out,rfl,rfl,trivial,Ja ⟨fun _=>d.out,fun h=>by omega⟩⟩
     case measure=>have:=a0.out;simp[intOf];omega
    ·have d:=Ja c;clear c;go_wp2_with (go_at_call 144;go_must (refine(bW H.out d.out).mono ?_;rintro e w1 ⟨rfl,t,u⟩))
     go_ret
     have f:dQ m a n=.trap 2 a m:=by
      unfold dQ abh pR;rw[if_neg d.out,if_neg d.out,ite_self]
     rw[f];exact vh.trap t u
   ·obtain⟨p,hp⟩:∃p,xe a=p:=⟨_,rfl⟩
    have o:p<65536:=by rw[<-hp];unfold xe;omega
    have a3:IntKind.u16.wrap ((a:Int)+1)=(p:Int):=by rw[xY,<-hp];unfold xe;omega
    have q:=Ja (show n=2 from by have:=y.out;omega);have x:agC m a 1=tC m a:=rfl;rw[x] at *;have j:=g.out.1 Zd;have a5:=(H.out.ramCell j).2.1;clear x i;have HP:=Ja hp
    by_cases c:wo p=true
    ·obtain⟨cr,hr,a4⟩:=H.out.ramCell c;have a1:=dV c;have l:=(qG p).1 c;have a7:((p-16384:Nat):Int)<8192:=Zo;have d:=Ja c;have b3:IntKind.u16.wrap ((tC m p:Int)*256)=((tC m p:Nat):Int)*256:=by rw[xY];omega
     have b2:IntKind.u16.wrap ((tC m a:Int)+(tC m p:Int)*256)=((tC m a+256*tC m p:Nat):Int):=by rw[xY];omega
     clear c l j hp;go_wp2_with (go_at_call 144;go_must (refine(cC d.out).mono ?_;rintro e w1 ⟨rfl,rfl⟩))
     go_roundw
     case rel=>exact⟨2,by rw[q.out];exact Je _,by rw[show agC m a 2=tC m a+256*tC m (xe a) from rfl,HP.out];go_num,rfl,trivial,Ja ⟨fun _=>g.out.1 Zd,fun _=>by rw[HP.out];exact d.out⟩⟩
     case measure=>have:=q.out;simp[intOf];omega
    ·have d:=Ja c;have b1:=Ja j;clear c j hp a5;go_wp2_with (go_at_call 144;go_must (refine(bW H.out d.out).mono ?_;rintro e w1 ⟨rfl,t,u⟩))
     go_ret
     have f:dQ m a n=.trap 2 p m:=by
      unfold dQ pR;rw[if_neg (by rw[q.out];decide),if_pos b1.out,HP.out,if_neg d.out]
     rw[f];exact vh.trap t u
  ·obtain rfl:k=n:=by omega
   have a2:¬(k:Int)<(k:Int):=Zo
   have f:dQ m a k=.ok (agC m a k) m:=by
    unfold dQ abh pR;rcases y.out with rfl|rfl
    ·rw[if_pos rfl,if_pos (g.out.1 Zd)];rfl
    ·rw[if_neg Zd,if_pos (g.out.1 Zd),if_pos (g.out.2 Zd)];rfl
   have o:agC m a k<65536:=by
    rcases y.out with rfl|rfl
    ·have:=(H.out.ramCell (g.out.1 Zd)).2.1;show tC m a<_;omega
    ·have h1:=(H.out.ramCell (g.out.1 Zd)).2.1;have h2:=(H.out.ramCell (g.out.2 Zd)).2.1;show tC m a+256*tC m (xe a)<_;omega
   have EE:=Ja f;have b0:=Ja o;clear o i f;go_wp2;go_ret;rw[EE.out];exact vh.ok H.out (FrmQ.refl _ _) b0.out
theorem dR (a:Nat)(c:a<65536)(w:World):O 129 #[M a] w fun e w'=>e=.returned (I (s16 a))/\w=w':=by
 by_cases h:a<32768
 ·have t1:decide ((32768:Int)<=(a:Int))=false:=decide_eq_false Zo;have t2:decide (32768<=a)=false:=decide_eq_false Zo;have e:s16 a=(a:Int):=by unfold s16;rw[if_pos h]
  rw[e];clear h e;go_enter Tryz.func129,Tryz.ntmps129;go_wp2;go_ret;refine⟨zh ?_,rfl⟩;omega
 ·have t1:decide ((32768:Int)<=(a:Int))=true:=decide_eq_true Zo;have t2:decide (32768<=a)=true:=decide_eq_true Zo;have e:s16 a=(a:Int)-65536:=by unfold s16;rw[if_neg h]
  rw[e];clear h e;go_enter Tryz.func129,Tryz.ntmps129;go_wp2;go_ret;refine⟨zh ?_,rfl⟩;omega
theorem bG (b:Bool)(w:World):O 130 #[.bool b] w fun e w'=>e=.returned (M (iw b:Nat))/\w=w':=by
 cases b<;>go_enter Tryz.func130,Tryz.ntmps130<;>go_wp2<;>go_ret<;>exact⟨rfl,rfl⟩
theorem and15 (b:Nat)(hb:b<65536):bits .and .u16 (b:Int) 15=((b%16:Nat):Int):=by
 have h:=(bits_nat .u16 16 Zd wraps_u16 b 15 hb Zd).1;rw[show((15:Nat):Int)=15 from rfl] at h;rw[h]
 congr 1
 have:=Nat.and_two_pow_sub_one_eq_mod b 4
 simpa using this
theorem rarith_5 (a b:Nat)(c:a<65536)(hb:b<65536)(w:World):O 107 #[I 5,M a,M b] w fun e w'=>e=.returned (M (yW 5 a b:Nat))/\w=w':=by
 go_enter Tryz.func107,Tryz.ntmps107;go_wp2
 all_goals go_ret
 all_goals refine⟨zh ?_,rfl⟩
 all_goals exact ar5 a b
theorem rarith_6 (a b:Nat)(c:a<65536)(hb:b<65536)(w:World):O 107 #[I 6,M a,M b] w fun e w'=>e=.returned (M (yW 6 a b:Nat))/\w=w':=by
 go_enter Tryz.func107,Tryz.ntmps107;go_wp2
 all_goals go_ret
 all_goals refine⟨zh ?_,rfl⟩
 all_goals exact ar6 a b hb
theorem rarith_7 (a b:Nat)(c:a<65536)(hb:b<65536)(w:World):O 107 #[I 7,M a,M b] w fun e w'=>e=.returned (M (yW 7 a b:Nat))/\w=w':=by
 go_enter Tryz.func107,Tryz.ntmps107;go_wp2
 all_goals go_ret
 all_goals refine⟨zh ?_,rfl⟩
 all_goals exact ar7 a b
theorem rarith_8 (a b:Nat)(c:a<65536)(hb:b<65536)(h0:b≠0)(w:World):O 107 #[I 8,M a,M b] w fun e w'=>e=.returned (M (yW 8 a b:Nat))/\w=w':=by
 have h1:((b:Int)==0)=false:=Ze;have h2:¬(b:Int)=0:=Zo;clear h0;go_enter Tryz.func107,Tryz.ntmps107;go_wp2
 all_goals go_ret
 all_goals refine⟨zh ?_,rfl⟩
 all_goals exact ar8 a b c
theorem rarith_9 (a b:Nat)(c:a<65536)(hb:b<65536)(w:World):O 107 #[I 9,M a,M b] w fun e w'=>e=.returned (M (yW 9 a b:Nat))/\w=w':=by
 go_enter Tryz.func107,Tryz.ntmps107;go_wp2
 all_goals go_ret
 all_goals refine⟨zh ?_,rfl⟩
 all_goals exact ar9 a b c hb
theorem au (a b:Nat)(c:a<65536)(hb:b<65536)(w:World):O 107 #[I 10,M a,M b] w fun e w'=>e=.returned (M (yW 10 a b:Nat))/\w=w':=by
 go_enter Tryz.func107,Tryz.ntmps107;go_wp2
 all_goals go_ret
 all_goals refine⟨zh ?_,rfl⟩
 all_goals exact ar10 a b c hb
theorem aaq (a b:Nat)(c:a<65536)(hb:b<65536)(w:World):O 107 #[I 11,M a,M b] w fun e w'=>e=.returned (M (yW 11 a b:Nat))/\w=w':=by
 go_enter Tryz.func107,Tryz.ntmps107;go_wp2
 all_goals go_ret
 all_goals refine⟨zh ?_,rfl⟩
 all_goals exact ar11 a b c hb
theorem ae (a b:Nat)(d:a<65536)(hb:b<65536)(w:World):O 107 #[I 12,M a,M b] w fun e w'=>e=.returned (M (yW 12 a b:Nat))/\w=w':=by
 have c:=and15 b hb;go_enter Tryz.func107,Tryz.ntmps107;go_wp2
 all_goals go_ret
 all_goals refine⟨zh ?_,rfl⟩
 all_goals exact ar12 a b
theorem aae (a b:Nat)(d:a<65536)(hb:b<65536)(w:World):O 107 #[I 13,M a,M b] w fun e w'=>e=.returned (M (yW 13 a b:Nat))/\w=w':=by
 have c:=and15 b hb;go_enter Tryz.func107,Tryz.ntmps107;go_wp2
 all_goals go_ret
 all_goals refine⟨zh ?_,rfl⟩
 all_goals exact ar13 a b
theorem aan (a b:Nat)(c:a<65536)(hb:b<65536)(w:World):O 107 #[I 15,M a,M b] w fun e w'=>e=.returned (M (yW 15 a b:Nat))/\w=w':=by
 go_enter Tryz.func107,Tryz.ntmps107;go_wp2_with (go_at_call 130;go_must (refine(bG _ _).mono ?_;rintro e w' ⟨rfl,rfl⟩))
 all_goals go_ret
 all_goals refine⟨zh ?_,rfl⟩
 all_goals exact congrArg _ (ar15 a b)
theorem aV (a b:Nat)(c:a<65536)(hb:b<65536)(w:World):O 107 #[I 16,M a,M b] w fun e w'=>e=.returned (M (yW 16 a b:Nat))/\w=w':=by
 go_enter Tryz.func107,Tryz.ntmps107;go_wp2_with (go_at_call 130;go_must (refine(bG _ _).mono ?_;rintro e w' ⟨rfl,rfl⟩))
 all_goals go_ret
 all_goals refine⟨zh ?_,rfl⟩
 all_goals exact rfl
theorem aT (a b:Nat)(c:a<65536)(hb:b<65536)(w:World):O 107 #[I 17,M a,M b] w fun e w'=>e=.returned (M (yW 17 a b:Nat))/\w=w':=by
 have m1:True:=trivial;go_enter Tryz.func107,Tryz.ntmps107;go_wp2_with (first|(go_at_call 130;go_must (refine(bG _ _).mono ?_;rintro e w' ⟨rfl,rfl⟩))|(go_at_call 129;have d:=m1;clear m1;go_must (refine(dR a c _).mono ?_;rintro e w' ⟨rfl,rfl⟩))|(go_at_call 129;go_must (refine(dR b hb _).mono ?_;rintro e w' ⟨rfl,rfl⟩)))
 all_goals go_ret
 all_goals refine⟨zh ?_,rfl⟩
 all_goals exact rfl
theorem adC (x:Int)(h:x<0):(x-1).tdiv 2=x/2:=by
 rw[Int.tdiv_eq_ediv]
 split
 ·omega
 ·have:Int.sign 2=1:=rfl;omega
theorem ai (x:Int)(h:0<=x):x.tdiv 2=x/2:=Int.tdiv_eq_ediv_of_nonneg h
theorem aS (x:Int)(k:Nat):x/2^(k+1)=(x/2^k)/2:=by
 rw[Int.pow_succ,Int.ediv_ediv_of_nonneg (Int.pow_nonneg Zd)]
theorem dU {x:Int}(h:-32768<=x/\x<32768):∀k:Nat,-32768<=x/2^k/\x/2^k<32768
 |0=>by simpa using h
 |k+1=>by have:=dU h k;rw[aS];omega
theorem aX (a b:Nat)(l:a<65536)(hb:b<65536)(w:World):O 107 #[I 14,M a,M b] w fun e w'=>e=.returned (M (yW 14 a b:Nat))/\w=w':=by
 have m:=and15 b hb;have hr:=aac a l;have q:=Ja hr;have hm:b%16<16:=Qj _ Zd;obtain⟨n,c⟩:∃n,b%16=n:=⟨_,rfl⟩
 rw[c] at m hm;have g:=Ja c;clear hr c;generalize o:w=W0;clear o;go_enter Tryz.func107,Tryz.ntmps107;go_wp2_with (first|(go_at_call 129;go_must (refine(dR a l _).mono ?_;rintro e w' ⟨rfl,rfl⟩)))
 have h0:s16 a=s16 a/2^0:=by simp
 have t:=Ja h0;clear h0
 go_loopw [7,8] (fun xv kv wx=>∃(k:Nat) (x:Int),k<=n/\xv=I x/\kv=I k/\W0=wx/\Hid (x=s16 a/2^k)) (fun _ kv _=>n-(intOf kv).toNat)
 case atStart=>exact⟨0,s16 a,Jt _,rfl,rfl,rfl,t⟩
 case round=>
  obtain⟨k,x,hk,rfl,rfl,rfl,h⟩:=hrel;have j:-32768<=x/\x<32768:=by rw[h.out];exact dU q.out k
  obtain⟨y,u⟩:=j
  by_cases d:k<n
  ·have i:(k:Int)<n:=Zo;have f:=Ja d
   by_cases c:x<0
   ·have t1:decide (x<0)=true:=decide_eq_true c;have g:=Ja c;clear d c;go_wp2;go_roundw
    case rel=>
     refine⟨k+1,x/2,f.out,?_,by go_num,by trivial,Ja (by rw[aS,<-h.out])⟩;have e:=adC x g.out
     first|(rw[e];congr 1;omega)|(rw[show x-1=x-1 from rfl,e])|(congr 1<;>simp[e])
    case measure=>have:=f.out;simp[intOf];omega
   ·have t1:decide (x<0)=false:=decide_eq_false c;have g:=Ja (show 0<=x by omega);clear d c;go_wp2;go_roundw
    case rel=>
     refine⟨k+1,x/2,f.out,?_,by go_num,by trivial,Ja (by rw[aS,<-h.out])⟩;have e:=ai x g.out
     first|(rw[e];congr 1;omega)|(congr 1<;>simp[e])
    case measure=>have:=f.out;simp[intOf];omega
  ·obtain rfl:k=n:=by omega
   have i:¬(k:Int)<k:=Zo;clear d;go_wp2;go_ret;refine⟨zh ?_,rfl⟩;rw[h.out,xY]
   show _=((((s16 a/2^(b%16))%65536).toNat:Nat):Int)
   rw[g.out];omega
theorem aeN (c:Int)(f:5<=c/\c<=17)(a b:Nat)(d:a<65536)(hb:b<65536)(h0:c=8->b≠0)(w:World):O 107 #[I c,M a,M b] w fun e w'=>e=.returned (M (yW c a b:Nat))/\w=w':=by
 have h:c=5∨c=6∨c=7∨c=8∨c=9∨c=10∨c=11∨c=12∨c=13∨c=14∨c=15∨c=16∨c=17:=Zo;rcases h with rfl|rfl|rfl|rfl|rfl|rfl|rfl|rfl|rfl|rfl|rfl|rfl|rfl
 ·exact rarith_5 a b d hb w
 ·exact rarith_6 a b d hb w
 ·exact rarith_7 a b d hb w
 ·exact rarith_8 a b d hb (h0 rfl) w
 ·exact rarith_9 a b d hb w
 ·exact au a b d hb w
 ·exact aaq a b d hb w
 ·exact ae a b d hb w
 ·exact aae a b d hb w
 ·exact aX a b d hb w
 ·exact aan a b d hb w
 ·exact aV a b d hb w
 ·exact aT a b d hb w
theorem agI{d':wO}{v i k:Int}(h:rB d v i k=some d')(c:∀x b a,d.1 x=some b->d.2 x=some a->W x b a)(hv:W v i k):∀x b a,d'.1 x=some b->d'.2 x=some a->W x b a:=by
 unfold rB at h
 split at h
 ·cases h
 ·cases h;intro x b a h1 h2
  change lS d.1 v i x=some b at h1
  change lS d.2 v k x=some a at h2
  unfold lS at h1 h2
  by_cases e:x=v
  ·rw[if_pos e] at h1 h2;cases h1;cases h2;rw[e];exact hv
  ·rw[if_neg e] at h1 h2;exact c x b a h1 h2
theorem afZ{i:Int}:∀(l:List Int) (d d':wO),vJ i l d=some d'->(∀x b a,d.1 x=some b->d.2 x=some a->W x b a)->(∀v∈l,W v i (-1))->∀x b a,d'.1 x=some b->d'.2 x=some a->W x b a
 | [],d,d',h,hW,_=>by cases h;exact hW
 |v::l,d,d',h,hW,hl=>by
  unfold vJ at h
  cases h1:rB d v i (-1) with
  |none=>rw[h1] at h;cases h
  |some d1=>
   rw[h1,Nw] at h;exact afZ l d1 d' h (agI h1 hW (hl v (.head _))) fun u hu=>hl u (.tail _ hu)
theorem afL{p:IProg}{i:Int}:∀(l:List IOp) (k:Int) (d d':wO),sS p i l k d=some d'->(∀x b a,d.1 x=some b->d.2 x=some a->W x b a)->(∀(j:Nat) o,l[j]? =some o->0<=o.res->W o.res i (k+j))->∀x b a,d'.1 x=some b->d'.2 x=some a->W x b a
 | [],k,d,d',h,hW,_=>by cases h;exact hW
 |o::l,k,d,d',h,hW,hl=>by
  unfold sS at h
  split at h
  ·split at h
   ·rename_i h0
    cases h1:rB d o.res i k with
    |none=>rw[h1] at h;cases h
    |some d1=>
     rw[h1,Nw] at h;refine afL l (k+1) d1 d' h (agI h1 hW ?_) fun j x hx h2=>?_
     ·have:=hl 0 o rfl h0
      simpa using this
     ·have:=hl (j+1) x hx h2
      rwa [show k+((j+1:Nat):Int)=k+1+(j:Int) by omega] at this
   ·refine afL l (k+1) d d' h hW fun j x hx h2=>?_
    have:=hl (j+1) x hx h2
    rwa [show k+((j+1:Nat):Int)=k+1+(j:Int) by omega] at this
  ·cases h
theorem af9{p:IProg}:∀(l:List IBlk) (i:Int) (d d':wO),uH p bl l i d=some d'->(∀x b a,d.1 x=some b->d.2 x=some a->W x b a)->
 (∀(j:Nat) b,l[j]? =some b->(∀v∈b.params,W v (i+j) (-1))/\∀(k:Nat) o,b.ops[k]? =some o->0<=o.res->W o.res (i+j) k)->∀x b a,d'.1 x=some b->d'.2 x=some a->W x b a
 | [],i,d,d',h,hW,_=>by cases h;exact hW
 |b::l,i,d,d',h,hW,hl=>by
  unfold uH at h
  cases h1:pS p bl i b d with
  |none=>rw[h1] at h;cases h
  |some d1=>
   rw[h1,Nw] at h;have h0:=hl 0 b rfl;rw[show i+((0:Nat):Int)=i by omega] at h0;refine af9 l (i+1) d1 d' h ?_ fun j x hx=>?_
   ·unfold pS at h1
    cases h2:vJ i b.params d with
    |none=>rw[h2] at h1;cases h1
    |some d2=>
     rw[h2,Nw] at h1
     cases h3:sS p i b.ops 0 d2 with
     |none=>rw[h3] at h1;cases h1
     |some d3=>
      rw[h3,Nw] at h1
      split at h1
      ·cases h1
       exact afL b.ops 0 d2 _ h3 (afZ b.params d d2 h2 hW h0.1) fun j o ho h4=>by
        rw[Ub];exact h0.2 j o ho h4
      ·cases h1
   ·have:=hl (j+1) x hx
    rwa [show i+((j+1:Nat):Int)=i+1+(j:Int) by omega] at this
def DefIn (b:IBlk)(v:Int):Prop:=v∈b.params∨∃o∈b.ops,o.res=v/\0<=v
def ahe (bl:List IBlk)(i k:Nat)(v:Int):Prop:=
 ((xz bl i).params.contains v=true∨∃j o,j<k/\(xz bl i).ops[j]? =some o/\o.res=v/\0<=v)∨∃c:Nat,c≠i/\c<bl.length/\Dom (GE (zy bl)) c i/\DefIn (xz bl c) v
theorem y7{b:IBlk}(h:bl[i]? =some b):xz bl (i:Int)=b:=by
 unfold xz;rw[Ni,Jj,h];rfl
structure StF (p:IProg) (bl:List IBlk):Prop where
 vg:zw (zy bl)
 all:∀i,i<bl.length->Reach (GE (zy bl)) i
 use:∀(i k:Nat) o,i<bl.length->(xz bl i).ops[k]? =some o->∀v∈rR o,ahe bl i k v
 ends:∀i:Nat,i<bl.length->∀v∈mE (xz bl i).term,ahe bl i (xz bl i).ops.length v
 opok:∀i:Nat,i<bl.length->∀o∈(xz bl i).ops,opF p o=true
 trm:∀i:Nat,i<bl.length->tz bl (xz bl i).term=true
theorem agc{p:IProg}(hv:zw (zy bl))(hd:wg p bl=some d)(hi:i<bl.length){v:Int}(h:yy d (zy bl) i k v=true):ahe bl i k v:=by
 have y:=af9 (W:=fun v b a=>∃blk,bl[b.toNat]? =some blk/\0<=b/\((a=-1/\v∈blk.params)∨(0<=a/\∃o,blk.ops[a.toNat]? =some o/\o.res=v/\0<=v))) bl 0 _ d hd (fun x b a h1 _=>by cases h1) fun j b hb=>by
  refine⟨fun u hu=>⟨b,?_,by omega,.inl ⟨rfl,hu⟩⟩,fun m o ho h0=>⟨b,?_,by omega,.inr ⟨by omega,o,?_,rfl,h0⟩⟩⟩
  ·rw[show(0+(j:Int)).toNat=j by omega];exact hb
  ·rw[show(0+(j:Int)).toNat=j by omega];exact hb
  ·rw[Ni];exact ho
 unfold yy at h
 split at h
 ·rename_i b a h1 h2
  simp only[Jm,Bool.not_eq_true',Bool.and_eq_false_iff,decide_eq_false_iff_not] at h;obtain⟨h3,h4⟩:=h;obtain⟨blk,hb,h0,c⟩:=y v b a h1 h2;have w:=(Jh.1 hb).1
  by_cases e:b=(i:Int)
  ·subst e;rw[Ni] at hb;have hk:a<(k:Int):=Zo;refine .inl ?_;rw[y7 hb];rcases c with⟨_,f⟩|⟨f,o,q,l,g⟩
   ·exact .inl (by simpa using f)
   ·exact .inr ⟨a.toNat,o,by omega,q,l,g⟩
  ·have t:=(yO hv b.toNat i).1 (by simpa using h4);refine .inr ⟨b.toNat,by omega,w,t.2.2,?_⟩;rw[y7 hb];rcases c with⟨_,f⟩|⟨f,o,q,l,g⟩
   ·exact .inl f
   ·exact .inr ⟨o,Ji q,l,g⟩
 ·cases h
theorem stF_of{p:IProg}{n:Nat}(u:p.funcs[n]? =some bl)(h0:bl≠ [])(h:yi p n=true):StF p bl:=by
 cases bl with
 |nil=>exact absurd rfl h0
 |cons b0 bs=>
  obtain⟨_,d,l,hr⟩:=tF u h;have f:=rV (b0::bs) 0 _ d (show uH p (b0::bs) (b0::bs) 0 _=some d from l);have hv:zw (zy (b0::bs)):=nO h0 fun b hb=>(f b hb).2
  unfold iM at hr;simp only[Jm,decide_eq_true_eq] at hr;obtain⟨t,q⟩:=hr;have m:=(aj hv).1 (by rw[t,xu])
  have c:∀i:Nat,i<(b0::bs).length->(b0::bs)[i]? =some (xz (b0::bs) i)/\xz (b0::bs) i∈(b0::bs):=fun i hi=>by
   obtain⟨x,j⟩:∃x,(b0::bs)[i]? =some x:=⟨_,Jd hi⟩
   rw[y7 j];exact⟨j,Ji j⟩
  have g:∀i:Nat,i<(b0::bs).length->aaC d (zy (b0::bs)) (xz (b0::bs) i) i=true:=fun i hi=>by
   have:=(cB (b0::bs) 0).1 q i _ (c i hi).1
   rwa [Ub] at this
  refine⟨hv,fun i hi=>?_,fun i k o hi ho v hvu=>?_,fun i hi v hve=>?_,fun i hi o ho=>?_,fun i hi=>(f _ (c i hi).2).2⟩
  ·exact((yO hv 0 i).1 (m i (by rw[xu];exact hi))).2.1
  ·have h1:=g i hi;unfold aaC at h1;rw[Jm] at h1;have h2:=(dF _ 0).1 h1.1 k o ho;rw[Ub] at h2;exact agc hv l hi (Oe.1 h2 v hvu)
  ·have h1:=g i hi;unfold aaC at h1;rw[Jm] at h1;exact agc hv l hi (Oe.1 h1.2 v hve)
  ·exact(f _ (c i hi).2).1 o ho
theorem afs (w:World):O 50 #[] w (tg w zx):=by
 go_enter Tryz.func50,Tryz.ntmps50;go_wp2;refine bodyPost_ret (v:=.agg #[M 0,M 65535]) ?_ rfl ⟨rfl,by repeat' (first|exact Below.refl _ _|assumption|(refine Below.alloc ?_ (by first|(simp;done)|(simp;omega)) _)|(refine Below.setCell ?_ (by first|(simp;done)|(simp;omega)) _))⟩;rw[zM rfl];go_simp
theorem vu(w:World)(h:zx=⟨x,y⟩):O 50 #[] w (fun e w'=>e=.returned (.agg #[M x,M y])/\Q w w'):=by
 have:=afs w;rw[h] at this;exact this
theorem xm (w:World){x y:Int}{a b:Nat}(d:x%65536=(a:Int))(c:y%65536=(b:Int)):O 53 #[I x,I y] w (fun e w'=>e=.returned (.agg #[M a,M b])/\Q w w'):=by
 have e1:IntKind.u16.wrap x=(a:Int):=by rw[xY];exact d
 have e2:IntKind.u16.wrap y=(b:Int):=by rw[xY];exact c
 clear d c;go_enter Tryz.func53,Tryz.ntmps53;go_wp2;refine bodyPost_ret (v:=.agg #[M a,M b]) ?_ rfl ⟨rfl,by repeat' (first|exact Below.refl _ _|assumption|(refine Below.alloc ?_ (by first|(simp;done)|(simp;omega)) _)|(refine Below.setCell ?_ (by first|(simp;done)|(simp;omega)) _))⟩;rw[zM rfl];go_simp
theorem ahl (w:World){n:Nat}(l:n<16):O 131 #[I n] w (fun e w'=>e=.returned (I ((2^n:Nat):Int))/\Q w w'):=by
 obtain⟨s,hs⟩:∃s,2^n=s:=⟨_,rfl⟩
 rw[hs];go_enter Tryz.func131,Tryz.ntmps131;go_wp2
 go_loopw [3,4] (fun xv kv wx=>∃k x:Nat,k<=n/\xv=I x/\kv=I k/\Hid (2^k=x/\Q w wx)) (fun _ kv _=>n-(intOf kv).toNat)
 case atStart=>exact⟨0,1,Jt _,rfl,rfl,Ja ⟨rfl,Below.refl _ _⟩⟩
 case round=>
  obtain⟨k,x,hk,rfl,rfl,c⟩:=hrel
  by_cases d:k<n
  ·have g:(k:Int)<(n:Int):=Zo;have i:x<=32768:=by rw[<-c.out.1];exact Nat.pow_le_pow_right (n:=2) Zd (show k<=15 by omega)
   have j:IntKind.i64.wrap (2*(x:Int))=((2*x:Nat):Int):=by rw[Om _ Zo];omega
   have f:2^(k+1)=2*x:=by rw[Nat.pow_succ,c.out.1,Nat.mul_comm]
   have h:=Ja f;clear f hs;generalize 2*x=y at *;go_wp2;go_roundw
   case rel=>exact⟨k+1,y,d,by go_num,by go_num,Ja ⟨h.out,c.out.2⟩⟩
   case measure=>simp[intOf];omega
  ·obtain rfl:k=n:=by omega
   obtain rfl:x=s:=by rw[<-hs,<-c.out.1]
   have g:¬(k:Int)<(k:Int):=Zo;clear hs d;go_wp2;go_ret;exact⟨rfl,c.out.2⟩
structure RgX (w X:World) (a b:Rg):Prop where
 bel:Below w.heap.size w X
 h0:X.heap[w.heap.size]? =some (.cells #[.int .u16 (a.lo:Int),.int .u16 (a.hi:Int)] 45 (0,0))
 h1:X.heap[w.heap.size+1]? =some (.cells #[.int .u16 (b.lo:Int),.int .u16 (b.hi:Int)] 45 (0,0))
 h2:X.heap[w.heap.size+1+1]? =some (.cells #[.int .u16 0,.int .u16 0] 45 (0,0))
theorem RgX.new (w:World)(a b:Rg):RgX w (((w.alloc (G #[M (a.lo:Int),M (a.hi:Int)] 45)).alloc (G #[M (b.lo:Int),M (b.hi:Int)] 45)).alloc (G #[M 0,M 0] 45)) a b:=
 ⟨((((Below.refl _ _).alloc (Je _) _).alloc Zs _).alloc Zt _),zB (zB (zI rfl)),zB (zI Zs),zI Zs⟩
theorem RgX.below{W:World}{a b:Rg}(h:RgX w X a b)(hb:Q X W):RgX w W a b:=
 ⟨h.bel.trans (hb.mono h.bel.size),zH hb h.h0 (lt_of_block h.h0),zH hb h.h1 (lt_of_block h.h1),zH hb h.h2 (lt_of_block h.h2)⟩
theorem RgX.c{a b:Rg}(h:RgX w X a b):T X w.heap.size 0 (M (a.lo:Int))/\T X w.heap.size 1 (M (a.hi:Int))/\T X (w.heap.size+1) 0 (M (b.lo:Int))/\T X (w.heap.size+1) 1 (M (b.hi:Int)):=
 ⟨zA h.h0 rfl,zA h.h0 rfl,zA h.h1 rfl,zA h.h1 rfl⟩
theorem RgX.f{a b:Rg}(h:RgX w X a b):(T X (w.heap.size+1+1) 0 (M 0)/\T X (w.heap.size+1+1) 1 (M 0))/\(Y X (w.heap.size+1+1) 0/\Y X (w.heap.size+1+1) 1)/\w.heap.size+1+1<X.heap.size:=
 ⟨⟨zA h.h2 rfl,zA h.h2 rfl⟩,⟨zE h.h2,zE h.h2⟩,lt_of_block h.h2⟩
theorem f7 (w:World){c:Int}(hc:c=12∨c=13∨c=14){a b:Rg}(ha:a.ok)(hb:b.ok):O 109 #[I c,.agg #[M (a.lo:Int),M (a.hi:Int)],.agg #[M (b.lo:Int),M (b.hi:Int)]] w (tg w (mc c a b)):=by
 have b4:=ha.1;have c7:=ha.2;have d:=hb.1;have c5:=hb.2;obtain⟨n,hn⟩:∃n,b.lo%16=n:=⟨_,rfl⟩
 have a7:n<16:=Zo;have b6:(b.lo:Int).tmod 16=(n:Int):=by rw[Qc Zo];omega
 obtain⟨s,hs⟩:∃s,2^n=s:=⟨_,rfl⟩
 have b8:1<=s:=by rw[<-hs];exact Nat.pow_pos Zd
 have a4:s<=32768:=by rw[<-hs];exact Nat.pow_le_pow_right (n:=2) Zd (show n<=15 by omega)
 obtain⟨q,hq⟩:∃q,yf b=q:=⟨_,rfl⟩
 have c4:((b.lo:Int)==(b.hi:Int))=q:=by rw[<-hq];unfold yf;rw[Bool.eq_iff_iff,beq_iff_eq,decide_eq_true_eq];omega
 have hP:=fun W=>ahl W a7
 rw[hs] at hP;have HP:=Ja hP;obtain⟨⟨x,y⟩,hR⟩:∃r,mc c a b=r:=⟨_,rfl⟩
 have a2:=hR;unfold mc at a2;rw[hn,hs,hq] at a2;rw[hR];have u:=Ja a2;clear hR a2 hs hn hP ha hb hq;have a0:∀k:Nat,k<=65535->k/s<=65535:=fun k hk=>Jn (Nat.div_le_self _ _) hk
 have b2:=a0 a.lo Zo;have b3:=a0 a.hi Zo;have b0:a.lo*s<=65535*32768:=Nat.mul_le_mul Zo a4;have b1:a.hi*s<=65535*32768:=Nat.mul_le_mul Zo a4;have a5:a.lo*s<=a.hi*s:=Qw _ b4;have e1:IntKind.i64.wrap ((a.lo:Int)*(s:Int))=((a.lo*s:Nat):Int):=by rw[<-Int.natCast_mul];exact Om _ Zo
 have e2:IntKind.i64.wrap ((a.hi:Int)*(s:Int))=((a.hi*s:Nat):Int):=by rw[<-Int.natCast_mul];exact Om _ Zo
 have e3:(a.lo:Int).tdiv (s:Int)=((a.lo/s:Nat):Int):=by rw[Int.tdiv_eq_ediv_of_nonneg Zo];omega
 have e4:(a.hi:Int).tdiv (s:Int)=((a.hi/s:Nat):Int):=by rw[Int.tdiv_eq_ediv_of_nonneg Zo];omega
 have HD:=Ja (show wl (a.lo*s) (a.hi*s)=⟨(a.lo*s)%65536,(a.hi*s)%65536⟩/\wl (a.lo/s) (a.hi/s)=⟨(a.lo/s)%65536,(a.hi/s)%65536⟩/\wl 0 a.hi=⟨0%65536,a.hi%65536⟩ from⟨rfl,rfl,rfl⟩);obtain⟨ml,l⟩:∃z,a.lo*s=z:=⟨_,rfl⟩
 obtain⟨mh,m⟩:∃z,a.hi*s=z:=⟨_,rfl⟩
 obtain⟨dl,o⟩:∃z,a.lo/s=z:=⟨_,rfl⟩
 obtain⟨dh,t⟩:∃z,a.hi/s=z:=⟨_,rfl⟩
 rw[l,m,o,t] at HD;rw[m,o,t,l] at u;rw[l] at e1 b0 a5;rw[m] at e2 b1 a5;rw[o] at e3 b2;rw[t] at e4 b3;have e5:IntKind.i64.wrap (dl:Int)=(dl:Int):=Om _ Zo;have e6:IntKind.i64.wrap (dh:Int)=(dh:Int):=Om _ Zo;have b7:0<(s:Int):=Zo;have b9:¬s=0:=Zo;have b5:¬(s:Int)=0:=Zo;clear l m o t a0;go_enter Tryz.func109,Tryz.ntmps109;go_upto_region 1 with fail;obtain⟨X,hX⟩:∃X,((w.alloc (G #[M (a.lo:Int),M (a.hi:Int)] 45)).alloc (G #[M (b.lo:Int),M (b.hi:Int)] 45)).alloc (G #[M 0,M 0] 45)=X:=⟨_,rfl⟩;have j:=Ja (RgX.new w a b);rw[hX] at j ⊢;clear hX;obtain⟨c0,c1,c2,c3⟩:=j.out.c;have cl:=j.out.f.2.2;go_upto_region 3 with(go_at_call 131;go_must (refine(HP.out _).mono ?_;rintro e w0 ⟨rfl,a6⟩;have H0:=Ja (j.out.below a6);clear c0 c1 c2 c3 cl a6;obtain⟨c0,c1,c2,c3⟩:=H0.out.c;have cl:=H0.out.f.2.2))
 go_upto_region 5 with fail;clear j;have j:=Ja H0.out;clear H0;rcases hc with rfl|rfl|rfl
 ·by_cases h1:mh<65536
  ·cases q
   ·have g:zx=⟨x,y⟩:=by have:=u.out;rw[if_pos rfl,if_neg (fun h=>by cases h.2)] at this;exact this
    go_wp2_with (go_at_call 50;go_must (refine(vu _ g).mono ?_;rintro e w1 ⟨rfl,d⟩;have i:=Ja (j.out.below d);obtain⟨⟨f0,f1⟩,⟨g0,g1⟩,fl⟩:=i.out.f;clear d))
    refine bodyPost_ret (v:=.agg #[M x,M y]) ?_ rfl ⟨rfl,by repeat' (first|exact i.out.bel|(refine Below.setCell ?_ (by first|(simp;done)|(simp;omega)) _))⟩;rw[zM rfl];go_simp
   ·have g:wl ml mh=⟨x,y⟩:=by have:=u.out;rw[if_pos rfl,if_pos ⟨h1,rfl⟩] at this;exact this
    rw[HD.out.1] at g
    injection g with q1 q2
    have a3:decide ((mh:Int)<65536)=true:=decide_eq_true Zo;have a1:decide (mh<65536)=true:=decide_eq_true h1;go_wp2_with (go_at_call 53;go_must (refine(xm _ (a:=x) (b:=y) Zo Zo).mono ?_;rintro e w1 ⟨rfl,d⟩;have i:=Ja (j.out.below d);obtain⟨⟨f0,f1⟩,⟨g0,g1⟩,fl⟩:=i.out.f;clear d))
    refine bodyPost_ret (v:=.agg #[M x,M y]) ?_ rfl ⟨rfl,by repeat' (first|exact i.out.bel|(refine Below.setCell ?_ (by first|(simp;done)|(simp;omega)) _))⟩;rw[zM rfl];go_simp
  ·have g:zx=⟨x,y⟩:=by have:=u.out;rw[if_pos rfl,if_neg (fun h=>h1 h.1)] at this;exact this
   have a3:decide ((mh:Int)<65536)=false:=decide_eq_false Zo;have a1:decide (mh<65536)=false:=decide_eq_false h1;cases q<;>(go_wp2_with (go_at_call 50;go_must (refine(vu _ g).mono ?_;rintro e w1 ⟨rfl,d⟩;have i:=Ja (j.out.below d);obtain⟨⟨f0,f1⟩,⟨g0,g1⟩,fl⟩:=i.out.f;clear d));refine bodyPost_ret (v:=.agg #[M x,M y]) ?_ rfl ⟨rfl,by repeat' (first|exact i.out.bel|(refine Below.setCell ?_ (by first|(simp;done)|(simp;omega)) _))⟩;rw[zM rfl];go_simp)
 ·cases q
  ·have g:wl 0 a.hi=⟨x,y⟩:=by have:=u.out;rw[if_neg Zd,if_neg Zo,if_neg Zd] at this;exact this
   rw[HD.out.2.2] at g
   injection g with q1 q2
   go_wp2_with (go_at_call 53;go_must (refine(xm _ (a:=x) (b:=y) Zo Zo).mono ?_;rintro e w1 ⟨rfl,d⟩;have i:=Ja (j.out.below d);obtain⟨⟨f0,f1⟩,⟨g0,g1⟩,fl⟩:=i.out.f;clear d))
   refine bodyPost_ret (v:=.agg #[M x,M y]) ?_ rfl ⟨rfl,by repeat' (first|exact i.out.bel|(refine Below.setCell ?_ (by first|(simp;done)|(simp;omega)) _))⟩;rw[zM rfl];go_simp
  ·have g:wl dl dh=⟨x,y⟩:=by have:=u.out;rw[if_neg Zd,if_neg Zo,if_pos rfl] at this;exact this
   rw[HD.out.2.1] at g
   injection g with q1 q2
   go_upto_region 12 with fail;(go_region_held3 (fun w'=>True) (trivial) ((go_at_call 53;refine(xm _ (a:=x) (b:=y) Zo Zo).mono ?_;rintro e w1 ⟨rfl,d⟩;have i:=Ja (j.out.below (Below.trans (show Q w0 _ from by repeat' (first|with_reducible exact Below.refl _ _|with_reducible refine Below.drew ?_)) (d.mono (Je _))));clear d;obtain⟨⟨f0,f1⟩,⟨g0,g1⟩,fl⟩:=i.out.f)));all_goals (go_wp2_with fail);all_goals (refine bodyPost_ret (v:=.agg #[M x,M y]) ?_ rfl ⟨rfl,by repeat' (first|exact i.out.bel|(refine Below.drew ?_)|(refine Below.setCell ?_ (by first|(simp;done)|(simp;omega)) _))⟩;rw[zM rfl];go_simp)
 ·by_cases h1:32768<=a.hi
  ·have g:zx=⟨x,y⟩:=by have:=u.out;rw[if_neg Zd,if_pos ⟨rfl,h1⟩] at this;exact this
   have a3:decide ((32768:Int)<=(a.hi:Int))=true:=decide_eq_true Zo;have a1:decide (32768<=a.hi)=true:=decide_eq_true h1;go_wp2_with (go_at_call 50;go_must (refine(vu _ g).mono ?_;rintro e w1 ⟨rfl,d⟩;have i:=Ja (j.out.below d);obtain⟨⟨f0,f1⟩,⟨g0,g1⟩,fl⟩:=i.out.f;clear d))
   refine bodyPost_ret (v:=.agg #[M x,M y]) ?_ rfl ⟨rfl,by repeat' (first|exact i.out.bel|(refine Below.setCell ?_ (by first|(simp;done)|(simp;omega)) _))⟩;rw[zM rfl];go_simp
  ·have a3:decide ((32768:Int)<=(a.hi:Int))=false:=decide_eq_false Zo;have a1:decide (32768<=a.hi)=false:=decide_eq_false h1;cases q
   ·have g:wl 0 a.hi=⟨x,y⟩:=by have:=u.out;rw[if_neg Zd,if_neg Zo,if_neg Zd] at this;exact this
    rw[HD.out.2.2] at g
    injection g with q1 q2
    go_wp2_with (go_at_call 53;go_must (refine(xm _ (a:=x) (b:=y) Zo Zo).mono ?_;rintro e w1 ⟨rfl,d⟩;have i:=Ja (j.out.below d);obtain⟨⟨f0,f1⟩,⟨g0,g1⟩,fl⟩:=i.out.f;clear d))
    refine bodyPost_ret (v:=.agg #[M x,M y]) ?_ rfl ⟨rfl,by repeat' (first|exact i.out.bel|(refine Below.setCell ?_ (by first|(simp;done)|(simp;omega)) _))⟩;rw[zM rfl];go_simp
   ·have g:wl dl dh=⟨x,y⟩:=by have:=u.out;rw[if_neg Zd,if_neg Zo,if_pos rfl] at this;exact this
    rw[HD.out.2.1] at g
    injection g with q1 q2
    go_upto_region 12 with fail;(go_region_held3 (fun w'=>True) (trivial) ((go_at_call 53;refine(xm _ (a:=x) (b:=y) Zo Zo).mono ?_;rintro e w1 ⟨rfl,d⟩;have i:=Ja (j.out.below (Below.trans (show Q w0 _ from by repeat' (first|with_reducible exact Below.refl _ _|with_reducible refine Below.drew ?_)) (d.mono (Je _))));clear d;obtain⟨⟨f0,f1⟩,⟨g0,g1⟩,fl⟩:=i.out.f)));all_goals (go_wp2_with fail);all_goals (refine bodyPost_ret (v:=.agg #[M x,M y]) ?_ rfl ⟨rfl,by repeat' (first|exact i.out.bel|(refine Below.drew ?_)|(refine Below.setCell ?_ (by first|(simp;done)|(simp;omega)) _))⟩;rw[zM rfl];go_simp)
theorem wrapQ_eq{lo hi:Nat}(h:eD lo hi=⟨x,y⟩):if(lo<65536/\hi<65536)∨(65536<=lo/\65536<=hi) then lo%65536=x/\hi%65536=y else zx=⟨x,y⟩:=by
 unfold eD at h
 split
 ·rename_i c
  rw[if_pos c] at h
  injection h with h1 h2
  exact⟨by omega,by omega⟩
 ·rename_i c
  rw[if_neg c] at h;exact h
theorem e9(w:World){c:Int}(hc:c=5∨c=6∨c=7∨c=8){a b:Rg}(ha:a.ok)(hb:b.ok)(l:ago c a b=⟨x,y⟩):
 O 108 #[I c,.agg #[M (a.lo:Int),M (a.hi:Int)],.agg #[M (b.lo:Int),M (b.hi:Int)]] w (fun e w'=>e=.returned (.agg #[M x,M y])/\Q w w'):=by
 have b0:=ha.1;have b5:=ha.2;have d:=hb.1;have b4:=hb.2
 by_cases h8:c=8
 ·subst h8;clear hc
  by_cases h0:b.hi=0
  ·have j:zx=⟨x,y⟩:=by rw[<-l];show zx=(if b.hi=0 then zx else _);rw[if_pos h0]
   clear l ha hb;have HQ:Hid (((b.hi:Int)==0)=true):=Ja (by rw[beq_iff_eq];omega);clear h0;go_enter Tryz.func108,Tryz.ntmps108;go_upto_region 1 with fail;obtain⟨X,k⟩:∃X,((w.alloc (G #[M (a.lo:Int),M (a.hi:Int)] 45)).alloc (G #[M (b.lo:Int),M (b.hi:Int)] 45)).alloc (G #[M 0,M 0] 45)=X:=⟨_,rfl⟩;have g:=Ja (RgX.new w a b);rw[k] at g ⊢;clear k;obtain⟨c0,c1,c2,c3⟩:=g.out.c;have cl:=g.out.f.2.2;have hq:=HQ.out;go_wp2_with (go_at_call 50;go_must (refine(vu _ j).mono ?_;rintro e w1 ⟨rfl,d⟩;have i:=Ja (g.out.below d);obtain⟨⟨f0,f1⟩,⟨g0,g1⟩,fl⟩:=i.out.f;clear d))
   refine bodyPost_ret (v:=.agg #[M x,M y]) ?_ rfl ⟨rfl,by repeat' (first|exact i.out.bel|(refine Below.setCell ?_ (by first|(simp;done)|(simp;omega)) _))⟩;rw[zM rfl];go_simp
  ·have hq:((b.hi:Int)==0)=false:=Ze;obtain⟨m,hm⟩:∃m,max b.lo 1=m:=⟨_,rfl⟩
   have j:wl (a.lo/b.hi) (a.hi/m)=⟨x,y⟩:=by rw[<-l,<-hm];show _=(if b.hi=0 then zx else _);rw[if_neg h0]
   injection j with q1 q2
   have b8:∀(ts:Array TypeId) (t:TypeId) (W:World),(Builtin.max_ ts t #[I (b.lo:Int),I 1]).run Tryz.prog W=.ok (I m) W:=fun ts t W=>by
    rw[run_max_int2,show(if(1:Int)>(b.lo:Int) then(1:Int) else(b.lo:Int))=(m:Int) by rw[<-hm];split<;>omega]
   have b9:1<=m:=Zo;have e3:(a.lo:Int).tdiv (b.hi:Int)=((a.lo/b.hi:Nat):Int):=by rw[Int.tdiv_eq_ediv_of_nonneg Zo];omega
   have e4:(a.hi:Int).tdiv (m:Int)=((a.hi/m:Nat):Int):=by rw[Int.tdiv_eq_ediv_of_nonneg Zo];omega
   have l3:a.lo/b.hi<=65535:=Jn (Nat.div_le_self _ _) Zo;have l4:a.hi/m<=65535:=Jn (Nat.div_le_self _ _) Zo;generalize a.lo/b.hi=dl at *;generalize a.hi/m=dh at *;have z1:¬b.hi=0:=h0;have z2:¬m=0:=Zo;have z3:¬(b.hi:Int)=0:=Zo;have z4:¬(m:Int)=0:=Zo;have z5:0<(b.hi:Int):=Zo;have z6:0<(m:Int):=Zo;clear l ha hb hm h0;go_enter Tryz.func108,Tryz.ntmps108;go_upto_region 1 with fail;obtain⟨X,k⟩:∃X,((w.alloc (G #[M (a.lo:Int),M (a.hi:Int)] 45)).alloc (G #[M (b.lo:Int),M (b.hi:Int)] 45)).alloc (G #[M 0,M 0] 45)=X:=⟨_,rfl⟩;have g:=Ja (RgX.new w a b);rw[k] at g ⊢;clear k;obtain⟨c0,c1,c2,c3⟩:=g.out.c;have cl:=g.out.f.2.2;go_upto_region 15 with fail;clear hq;have e5:IntKind.i64.wrap (dl:Int)=(dl:Int):=Om _ Zo;have e6:IntKind.i64.wrap (dh:Int)=(dh:Int):=Om _ Zo;have HC:=Ja (show ∀W:World,Q X W->(T W w.heap.size 0 (M (a.lo:Int))/\T W w.heap.size 1 (M (a.hi:Int))/\T W (w.heap.size+1) 0 (M (b.lo:Int))/\T W (w.heap.size+1) 1 (M (b.hi:Int))) from fun W hb=>(g.out.below hb).c);refine zt 15 Zk Zk ?_;simp only[Qo,Uc,Qp,Ui]
   repeat (go_big_quiet_step (fail))
   refine wpQuiet_nil ?_;go_wp2_with (go_at_call 53;go_must (refine(xm _ (a:=x) (b:=y) Zo Zo).mono ?_;rintro e w1 ⟨rfl,d⟩;have i:=Ja (g.out.below (Below.trans (Below.refl X.heap.size X).drew (d.mono (Je _))));clear d;obtain⟨⟨f0,f1⟩,⟨g0,g1⟩,fl⟩:=i.out.f))
   all_goals go_wp2_with fail
   all_goals (refine bodyPost_ret (v:=.agg #[M x,M y]) ?_ rfl ⟨rfl,by repeat' (first|exact i.out.bel|(refine Below.drew ?_)|(refine Below.setCell ?_ (by first|(simp;done)|(simp;omega)) _))⟩;rw[zM rfl];go_simp)
 ·have b2:a.hi*b.hi<=65535*65535:=Nat.mul_le_mul Zo Zo;have b3:a.lo*b.lo<=a.hi*b.hi:=Nat.mul_le_mul b0 d;have e1:IntKind.i64.wrap ((a.lo:Int)*(b.lo:Int))=((a.lo*b.lo:Nat):Int):=by rw[<-Int.natCast_mul];exact Om _ Zo
  have e2:IntKind.i64.wrap ((a.hi:Int)*(b.hi:Int))=((a.hi*b.hi:Nat):Int):=by rw[<-Int.natCast_mul];exact Om _ Zo
  by_cases q:c=7/\65536<=a.hi*b.hi
  ·obtain⟨rfl,q⟩:=q;have j:zx=⟨x,y⟩:=by rw[<-l];show zx=(if 65536<=a.hi*b.hi then zx else _);rw[if_pos q]
   generalize a.hi*b.hi=mh at *;generalize a.lo*b.lo=ml at *;have d1:decide ((65536:Int)<=(mh:Int))=true:=decide_eq_true Zo;have d2:decide (65536<=mh)=true:=decide_eq_true q;clear l hc h8 ha hb;go_enter Tryz.func108,Tryz.ntmps108;go_upto_region 1 with fail;obtain⟨X,k⟩:∃X,((w.alloc (G #[M (a.lo:Int),M (a.hi:Int)] 45)).alloc (G #[M (b.lo:Int),M (b.hi:Int)] 45)).alloc (G #[M 0,M 0] 45)=X:=⟨_,rfl⟩;have g:=Ja (RgX.new w a b);rw[k] at g ⊢;clear k;obtain⟨c0,c1,c2,c3⟩:=g.out.c;have cl:=g.out.f.2.2;go_wp2_with (go_at_call 50;go_must (refine(vu _ j).mono ?_;rintro e w1 ⟨rfl,d⟩;have i:=Ja (g.out.below d);obtain⟨⟨f0,f1⟩,⟨g0,g1⟩,fl⟩:=i.out.f;clear d))
   refine bodyPost_ret (v:=.agg #[M x,M y]) ?_ rfl ⟨rfl,by repeat' (first|exact i.out.bel|(refine Below.setCell ?_ (by first|(simp;done)|(simp;omega)) _))⟩;rw[zM rfl];go_simp
  ·obtain⟨lo,hi,a3,a7,hW⟩:∃lo hi:Nat,((c=5->lo=a.lo+b.lo/\hi=a.hi+b.hi)/\(c=6->lo=a.lo+65536-b.hi/\hi=a.hi+65536-b.lo)/\(c=7->lo=a.lo*b.lo/\hi=a.hi*b.hi))/\(lo<=131071/\hi<=131071/\(c=7->hi<65536))/\eD lo hi=⟨x,y⟩:=by
    rcases hc with rfl|rfl|rfl|rfl
    ·exact⟨a.lo+b.lo,a.hi+b.hi,⟨fun _=>⟨rfl,rfl⟩,(fun h=>by cases h),(fun h=>by cases h)⟩,⟨by omega,by omega,(fun h=>by cases h)⟩,l⟩
    ·exact⟨a.lo+65536-b.hi,a.hi+65536-b.lo,⟨(fun h=>by cases h),fun _=>⟨rfl,rfl⟩,(fun h=>by cases h)⟩,⟨by omega,by omega,(fun h=>by cases h)⟩,l⟩
    ·have b6:¬65536<=a.hi*b.hi:=fun h=>q ⟨rfl,h⟩
     exact⟨a.lo*b.lo,a.hi*b.hi,⟨(fun h=>by cases h),(fun h=>by cases h),fun _=>⟨rfl,rfl⟩⟩,⟨by omega,by omega,fun _=>by omega⟩,by rw[<-l];show _=(if 65536<=a.hi*b.hi then zx else _);rw[if_neg b6]⟩
    ·exact absurd rfl h8
   have HL:=Ja a3;have HW:=Ja (wrapQ_eq hW);clear hW l a3;go_enter Tryz.func108,Tryz.ntmps108;go_upto_region 1 with fail;obtain⟨X,k⟩:∃X,((w.alloc (G #[M (a.lo:Int),M (a.hi:Int)] 45)).alloc (G #[M (b.lo:Int),M (b.hi:Int)] 45)).alloc (G #[M 0,M 0] 45)=X:=⟨_,rfl⟩;have g:=Ja (RgX.new w a b);rw[k] at g ⊢;clear k;obtain⟨c0,c1,c2,c3⟩:=g.out.c;have cl:=g.out.f.2.2;have HA:=Ja (Jb b0 (Jb b5 (Jb d b4)));go_upto_region 2 with fail;have b7:IntKind.i64.wrap ((a.lo:Int)+(b.lo:Int))=(a.lo:Int)+(b.lo:Int):=Om _ Zo
   go_cut [8] (fun hv wx=>hv=I ((a.hi:Int)+(b.hi:Int))/\wx=X)
   case first=>
    go_wp2;go_meet;exact⟨rfl,rfl⟩
   case rest=>
   obtain⟨rfl,a0⟩:=hcut;have u:=a0.symm;subst u;refine ‹∀(a:Act) (w:World),Code.wp _ _ _ a w->_› _ _ ?_;refine wp_seq_k fun K1 hK1=>?_
   go_cut [7,8] (fun lv hv wx=>lv=I lo/\hv=I hi/\wx=X)
   case first=>
    obtain⟨a6,a5,a4⟩:=HL.out;rcases hc with rfl|rfl|rfl|rfl
    ·obtain⟨rfl,rfl⟩:=a6 rfl;go_wp2;go_meet;exact⟨by first|go_num|(congr 1;omega),by first|go_num|(congr 1;omega),rfl⟩
    ·obtain⟨hl,hh⟩:=a5 rfl;go_wp2;go_meet;exact⟨by congr 1;omega,by congr 1;omega,rfl⟩
    ·obtain⟨q1,q2⟩:=a4 rfl;rw[<-q1] at e1;rw[<-q2] at e2;have q3:=a7.2.2 rfl;have d1:decide ((65536:Int)<=(hi:Int))=false:=decide_eq_false Zo;have d2:decide (65536<=hi)=false:=decide_eq_false Zo;clear q1 q2 a6 a5 a4 b2 b3 q a7;go_wp2;go_meet;exact⟨rfl,rfl,rfl⟩
    ·exact absurd rfl h8
   case rest=>
    obtain⟨rfl,rfl,a0⟩:=hcut;have u:=a0.symm;subst u;have hw:=HW.out
    by_cases o:(lo<65536/\hi<65536)∨(65536<=lo/\65536<=hi)
    ·rw[if_pos o] at hw;obtain⟨q1,q2⟩:=hw;have r1:(lo:Int).tmod 65536=(x:Int):=by rw[Qc Zo];omega
     have r2:(hi:Int).tmod 65536=(y:Int):=by rw[Qc Zo];omega
     by_cases l1:lo<65536
     ·have d1:decide ((lo:Int)<65536)=true:=decide_eq_true Zo;have a2:decide (lo<65536)=true:=decide_eq_true l1;have d2:decide ((hi:Int)<65536)=true:=decide_eq_true Zo;have a1:decide (hi<65536)=true:=decide_eq_true Zo;clear o;go_wp2_with (go_at_call 53;go_must (refine(xm _ (a:=x) (b:=y) Zo Zo).mono ?_;rintro e w1 ⟨rfl,d⟩;have i:=Ja (g.out.below d);obtain⟨⟨f0,f1⟩,⟨g0,g1⟩,fl⟩:=i.out.f;clear d))
      refine bodyPost_ret (v:=.agg #[M x,M y]) ?_ rfl ⟨rfl,by repeat' (first|exact i.out.bel|(refine Below.setCell ?_ (by first|(simp;done)|(simp;omega)) _))⟩;rw[zM rfl];go_simp
     ·have d1:decide ((lo:Int)<65536)=false:=decide_eq_false Zo;have a2:decide (lo<65536)=false:=decide_eq_false l1;have d2:decide ((65536:Int)<=(lo:Int))=true:=decide_eq_true Zo;have a1:decide (65536<=lo)=true:=decide_eq_true Zo;have d3:decide ((65536:Int)<=(hi:Int))=true:=decide_eq_true Zo;have b1:decide (65536<=hi)=true:=decide_eq_true Zo;clear o;go_wp2_with (go_at_call 53;go_must (refine(xm _ (a:=x) (b:=y) Zo Zo).mono ?_;rintro e w1 ⟨rfl,d⟩;have i:=Ja (g.out.below d);obtain⟨⟨f0,f1⟩,⟨g0,g1⟩,fl⟩:=i.out.f;clear d))
      refine bodyPost_ret (v:=.agg #[M x,M y]) ?_ rfl ⟨rfl,by repeat' (first|exact i.out.bel|(refine Below.setCell ?_ (by first|(simp;done)|(simp;omega)) _))⟩;rw[zM rfl];go_simp
    ·rw[if_neg o] at hw;have j:=hw;clear hw
     by_cases l1:lo<65536
     ·have d1:decide ((lo:Int)<65536)=true:=decide_eq_true Zo;have a2:decide (lo<65536)=true:=decide_eq_true l1;have d2:decide ((hi:Int)<65536)=false:=decide_eq_false Zo;have a1:decide (hi<65536)=false:=decide_eq_false Zo;have d3:decide ((65536:Int)<=(lo:Int))=false:=decide_eq_false Zo;have b1:decide (65536<=lo)=false:=decide_eq_false Zo;clear o;go_wp2_with (go_at_call 50;go_must (refine(vu _ j).mono ?_;rintro e w1 ⟨rfl,d⟩;have i:=Ja (g.out.below d);obtain⟨⟨f0,f1⟩,⟨g0,g1⟩,fl⟩:=i.out.f;clear d))
      refine bodyPost_ret (v:=.agg #[M x,M y]) ?_ rfl ⟨rfl,by repeat' (first|exact i.out.bel|(refine Below.setCell ?_ (by first|(simp;done)|(simp;omega)) _))⟩;rw[zM rfl];go_simp
     ·have d1:decide ((lo:Int)<65536)=false:=decide_eq_false Zo;have a2:decide (lo<65536)=false:=decide_eq_false l1;have d2:decide ((65536:Int)<=(lo:Int))=true:=decide_eq_true Zo;have a1:decide (65536<=lo)=true:=decide_eq_true Zo;have d3:decide ((65536:Int)<=(hi:Int))=false:=decide_eq_false Zo;have b1:decide (65536<=hi)=false:=decide_eq_false Zo;clear o;go_wp2_with (go_at_call 50;go_must (refine(vu _ j).mono ?_;rintro e w1 ⟨rfl,d⟩;have i:=Ja (g.out.below d);obtain⟨⟨f0,f1⟩,⟨g0,g1⟩,fl⟩:=i.out.f;clear d))
      refine bodyPost_ret (v:=.agg #[M x,M y]) ?_ rfl ⟨rfl,by repeat' (first|exact i.out.bel|(refine Below.setCell ?_ (by first|(simp;done)|(simp;omega)) _))⟩;rw[zM rfl];go_simp
end Go.Proofs.YtoahcpkibpomcaaGreat
