/- Part of a proof. -/
import Derived.Test.YtojclalkfhoooaaIGraph
import Derived.Test.YtojclalkfhoooaaIOper2
import Derived.Deep.Slices
import Derived.OpenShut
import Derived.ProofKit
set_option linter.all false
set_option maxHeartbeats 8000000
set_option maxRecDepth 100000
namespace Go.Proofs.Ytojclalkfhoooaa
open Go.RowKit
variable {w w' w0:World}{K:MK}{m:Mach}{t:ITerm}{bl blocks:List IBlk}{c i oa ob:Int}{C bs j k m1 m2 n' on r vb vn x:Nat}{g:List (List Nat)}{o:IOp}{P:Program}{l:List IOp}{d d' d1:wO}{ns:List Nat}{seen:List Bool}{wv:Value}
theorem kh{ov:Value}(h:MachAt w K m ov)(bank a:Nat)(hb:bank<65536)(o:a<65536)(hr:sJ K.E bank a=false):
 Y 108 #[Q K.pm,I bank,I a] w fun e w'=>e=.panicked [oE 2 a]/\w=w':=by
 have c5:=h.c5;obtain⟨ba,bc,d,k,j⟩:=h.prog.banks.form;rw[d] at c5
 have c:¬(bank<K.E.p.banks.length/\a<4096):=by
  intro g;unfold sJ at hr;rw[decide_eq_true g.1,decide_eq_true g.2] at hr;cases hr
 clear h d hr
 by_cases h1:bank<K.E.p.banks.length
 ·have i:¬(K.E.p.banks.length:Int)<=bank:=Zo;have l:4096<=(a:Int):=Zo;clear c h1;go_enter Try.func108,Try.ntmps108;go_wp2_with (go_at_call 80;go_must (refine(wj 2 a _).mono ?_;rintro e w' ⟨rfl,rfl⟩))
  exact⟨rfl,rfl,rfl⟩
 ·have i:(K.E.p.banks.length:Int)<=bank:=Zo;clear c h1;go_enter Try.func108,Try.ntmps108;go_wp2_with (go_at_call 80;go_must (refine(wj 2 a _).mono ?_;rintro e w' ⟨rfl,rfl⟩))
  exact⟨rfl,rfl,rfl⟩
theorem iH (E:IEnv)(bank a:Nat):sJ E bank a=true↔bank<E.p.banks.length/\a<4096:=by unfold sJ;rw[Jm,decide_eq_true_eq,decide_eq_true_eq]
theorem p8{ov:Value}(h:MachAt w K m ov)(j:∀s∈K.E.p.banks,s.size=4096)(bank a:Nat)(hb:bank<65536)(ha:a<65536)(hr:sJ K.E bank a=true):
 Y 108 #[Q K.pm,I bank,I a] w fun e w'=>e=.returned (I (tS K.E bank a:Nat))/\w=w':=by
 have c5:=h.c5;have c:=h.prog.banks;obtain⟨ba,bc,i,t,r⟩:=c.form;rw[i] at c5 c;obtain⟨h1,h2⟩:=(iH _ _ _).1 hr;obtain⟨s,hs⟩:∃s,K.E.p.banks[bank]? =some s:=⟨_,Jd h1⟩
 obtain⟨b,o,rfl,_,d,_⟩:=c.get hs;rw[Nk] at d;have g:=j s (Ji hs);have k:tS K.E bank a=(s.data.getD a 0).toNat:=by unfold tS;rw[Jj,hs];rfl
 rw[k];have a0:¬(K.E.p.banks.length:Int)<=bank:=Zo;have y:(bank:Int)<K.E.p.banks.length:=Zo;have x:¬4096<=(a:Int):=Zo;have u:a<s.size:=Zo;have l:(a:Int)<s.size:=Zo;have a1:=Ja g;clear h i hr hs k c h1 h2 j g;go_enter Try.func108,Try.ntmps108;go_wp2;go_ret;refine⟨zh ?_,rfl⟩;have:=s.data[a].toNat_lt;rw[xY]
 show((s.data[a].toNat:Nat):Int)%65536=((s.data[a].toNat:Nat):Int)
 omega
theorem jA{ov:Value}(h:MachAt w K m ov):
 Y 109 #[Q K.pm] w fun e w'=>e=endOf (uq K.E m)/\MachAt w' K (uq K.E m).mach ov/\Frm K.B w w':=by
 have c7:=h.c7;have c11:=h.c11;have d:=h.inn;obtain⟨ia,ic,i,b0,a7⟩:=d.form;rw[i] at c7 d;have j:=Ja h;have u:=h.inp;have a1:=Ja i;clear h i
 by_cases c:m.inputs<K.E.inn.length
 ·obtain⟨x,r⟩:∃x,K.E.inn[m.inputs]? =some x:=⟨_,Jd c⟩
  obtain⟨b,o,rfl,k,g,a5⟩:=d.get r;have a2:=Ja k;clear k;rw[Nk] at g;have hI:¬(K.E.inn.length:Int)<=m.inputs:=Zo;have hJ:(m.inputs:Int)<K.E.inn.length:=Zo;have e:uq K.E m=.ok x {m with inputs:=m.inputs+1 }:=by unfold uq;rw[if_pos c,Jj,r];rfl
  rw[e];have l:=j.out.free 11;have a0:=Ja c;have a3:K.E.inn.length<=9223372036854775807:=Zo;clear e d c r u;go_enter Try.func109,Try.ntmps109;go_upto_region 1 with fail
  go_cut [13] (fun v wx=>v=.bool false/\∃n,wx=w.drewN n)
  case first=>
   go_quiet (fail);go_wp2;go_meet;exact⟨rfl,_,rfl⟩
  case rest=>
   obtain⟨rfl,n,rfl⟩:=hcut;have h1:=(j.out.drewN n).setI a0.out j.out.ne;have t:Frm K.B w ((w.drewN n).setCell ⟨K.pm,11,none⟩ (A ((m.inputs:Int)+1))):=(Frm.refl _ _).drewN.trans ((j.out.drewN n).frm 11 _);have d7:(w.drewN n).cell? ⟨K.pm,7,none⟩=_:=c7;have b2:(w.drewN n).cell? ⟨K.pm,11,none⟩=_:=c11;have a4:T (w.drewN n) K.pm 11:=l;have e7:=h1.c7;rw[a1.out] at e7;have b1:=h1.c11;have y:=(t.below.cell (p:=⟨b,o+m.inputs,none⟩) a2.out).trans g;have a6:IntKind.i64.wrap (((m.inputs+1:Nat):Int)-1)=(m.inputs:Int):=by rw[show(((m.inputs+1:Nat):Int)-1)=(m.inputs:Int) by omega];exact Om _ Zo
   have H1:=Ja h1;have HF:=Ja t;clear h1 t c7 c11 l;go_upto_region 4 with fail;generalize (w.drewN n).setCell ⟨K.pm,11,none⟩ (A ((m.inputs:Int)+1))=W2 at *;go_quiet (fail);go_wp2;go_ret;exact⟨rfl,H1.out.drewN _,HF.out.drewN⟩
 ·have hI:(K.E.inn.length:Int)<=m.inputs:=Zo;have e:uq K.E m=.ok 0 m:=by unfold uq;rw[if_neg c]
  rw[e];clear e d c;go_enter Try.func109,Try.ntmps109;go_wp2;go_quiet (fail);go_wp2;go_ret;exact⟨rfl,j.out.drewN _,(Frm.refl _ _).drewN⟩
def jk (w:World)(B:Nat)(x:IEdge)(e:Ending)(w':World):Prop:=∃av,e=.returned (.agg #[A x.block,av])/\zY w B av x.args/\I64 x.block/\F w w'
theorem edge_any{B:Nat}{tv:Value}(u:wH w B tv t.to)(hk:I64 t.kind)(hB:B<=w.heap.size)(ho:bS blocks t)(h4:t.kind≠4)(h5:t.kind≠5)(a:Nat)(ha:a<65536):
 Y 83 #[.agg #[A t.kind,A t.a,tv],I a] w (jk w B (wK t a)):=by
 obtain⟨ta,tc,rfl,b1,a7⟩:=u.form;obtain⟨l,h1,h2,h3,_⟩:=ho
 have get:∀k,k<t.to.length->∃b o ab ac,ta=some ⟨b,o,none⟩/\b<B/\G w b (o+k*2) (A (t.to.getD k ⟨0,[]⟩).block)/\G w b (o+k*2+1) (.slice ab (t.to.getD k ⟨0,[]⟩).args.length ac)/\zY w B (.slice ab (t.to.getD k ⟨0,[]⟩).args.length ac) (t.to.getD k ⟨0,[]⟩).args/\I64 (t.to.getD k ⟨0,[]⟩).block:=fun k hk=>by
  have e:t.to.getD k ⟨0,[]⟩=t.to[k]:=by rw[Jj,Jd hk];rfl
  obtain⟨b,o,a5,a4,a3,a2,av,a1,r⟩:=u.get (Jd hk);obtain⟨ab,ac,rfl,_,_⟩:=r.form;rw[e];exact⟨b,o,ab,ac,a5,a4,a3,a1,r,a2⟩
 have GET:=Ja get;clear get u;have d:∀(x:IEdge) (av:Value) (w':World),zY w B av x.args->I64 x.block->F w w'->jk w B x (.returned (.agg #[A x.block,av])) w':=fun x av w' h1 h2 h3=>⟨av,rfl,h1,h2,h3⟩
 have c:=Ja d;clear d
 by_cases c2:t.kind=2
 ·have l2:=h2 c2
  by_cases c0:a=0
  ·have e:wK t a=t.to.getD 1 ⟨0,[]⟩:=by unfold wK;rw[if_pos ⟨c2,c0⟩]
   rw[e];obtain⟨b,o,ab,ac,rfl,j,k1,k2,k3,k4⟩:=GET.out 1 Zo;generalize t.to.getD 1 ⟨0,[]⟩=x at *;have q1:(w.cell? ⟨b,o+2,none⟩)=_:=k1;have q2:(w.cell? ⟨b,o+2+1,none⟩)=_:=k2;have g:b<w.heap.size:=Zo;have K3:=Ja (Jb k3 k4);have y:(1:Int)<t.to.length:=Zo;subst c0;rw[c2]
   try simp only[Nat.zero_mul,Uk] at q1 q2
   clear l h1 h2 h3 k1 k2 k3 k4 e;go_enter Try.func83,Try.ntmps83;go_wp2;refine bodyPost_ret (v:=.agg #[A x.block,.slice ab x.args.length ac]) (by simp[results,Try.results83,go_sem]) rfl ?_;exact c.out _ _ _ K3.out.1 K3.out.2 (by repeat' (first|exact Below.refl _ _|(refine Below.alloc ?_ (by simp<;>omega) _)|(refine Below.setCell ?_ Zs _)))
  ·have e:wK t a=t.to.getD 0 ⟨0,[]⟩:=by unfold wK;rw[if_neg (fun h=>c0 h.2),if_neg Zo]
   rw[e];obtain⟨b,o,ab,ac,rfl,j,k1,k2,k3,k4⟩:=GET.out 0 Zo;generalize t.to.getD 0 ⟨0,[]⟩=x at *;have q1:(w.cell? ⟨b,o+0*2,none⟩)=_:=k1;have q2:(w.cell? ⟨b,o+0*2+1,none⟩)=_:=k2;have g:b<w.heap.size:=Zo;have K3:=Ja (Jb k3 k4);have y:(0:Int)<t.to.length:=Zo;have b2:((a:Int)==0)=false:=Ze;rw[c2]
   try simp only[Nat.zero_mul,Uk] at q1 q2
   clear l h1 h2 h3 k1 k2 k3 k4 e;go_enter Try.func83,Try.ntmps83;go_wp2;refine bodyPost_ret (v:=.agg #[A x.block,.slice ab x.args.length ac]) (by simp[results,Try.results83,go_sem]) rfl ?_;exact c.out _ _ _ K3.out.1 K3.out.2 (by repeat' (first|exact Below.refl _ _|(refine Below.alloc ?_ (by simp<;>omega) _)|(refine Below.setCell ?_ Zs _)))
 ·by_cases c3:t.kind=3
  ·have e:wK t a=t.to.getD (min a (t.to.length-1)) ⟨0,[]⟩:=by unfold wK;rw[if_neg (fun h=>c2 h.1),if_pos c3]
   have l3:=h3 c3;rw[e];obtain⟨i,hi⟩:∃i,min a (t.to.length-1)=i:=⟨_,rfl⟩
   rw[hi];have a0:i<t.to.length:=Zo;have m:(i:Int)=if(t.to.length:Int)-1<(a:Int) then(t.to.length:Int)-1 else(a:Int):=by split<;>omega
   have a6:∀(ts:Array TypeId) (t2:TypeId) (W:World),(Builtin.min_ ts t2 #[A a,A ((t.to.length:Int)-1)]).run Try.prog W=.ok (A i) W:=fun ts t2 W=>by rw[m];exact run_min_int2 ..
   have b0:0<=(t.to.length:Int)-1:=Zo;clear m;obtain⟨b,o,ab,ac,rfl,j,k1,k2,k3,k4⟩:=GET.out i a0;generalize t.to.getD i ⟨0,[]⟩=x at *;have q1:(w.cell? ⟨b,o+i*2,none⟩)=_:=k1;have q2:(w.cell? ⟨b,o+i*2+1,none⟩)=_:=k2;have g:b<w.heap.size:=Zo;have K3:=Ja (Jb k3 k4);have y:(i:Int)<t.to.length:=Zo;rw[c3]
   try simp only[Nat.zero_mul,Uk] at q1 q2
   clear l h1 h2 h3 k1 k2 k3 k4 e;go_enter Try.func83,Try.ntmps83;go_wp2;refine bodyPost_ret (v:=.agg #[A x.block,.slice ab x.args.length ac]) (by simp[results,Try.results83,go_sem]) rfl ?_;exact c.out _ _ _ K3.out.1 K3.out.2 (by repeat' (first|exact Below.refl _ _|(refine Below.alloc ?_ (by simp<;>omega) _)|(refine Below.setCell ?_ Zs _)))
  ·have e:wK t a=t.to.getD 0 ⟨0,[]⟩:=by unfold wK;rw[if_neg (fun h=>c2 h.1),if_neg c3]
   have c1:t.kind=1:=Zo;have l1:=h1 c1;rw[e];obtain⟨b,o,ab,ac,rfl,j,k1,k2,k3,k4⟩:=GET.out 0 Zo;generalize t.to.getD 0 ⟨0,[]⟩=x at *;have q1:(w.cell? ⟨b,o+0*2,none⟩)=_:=k1;have q2:(w.cell? ⟨b,o+0*2+1,none⟩)=_:=k2;have g:b<w.heap.size:=Zo;have K3:=Ja (Jb k3 k4);have y:(0:Int)<t.to.length:=Zo;rw[c1]
   try simp only[Nat.zero_mul,Uk] at q1 q2
   clear l h1 h2 h3 k1 k2 k3 k4 e;go_enter Try.func83,Try.ntmps83;go_wp2;refine bodyPost_ret (v:=.agg #[A x.block,.slice ab x.args.length ac]) (by simp[results,Try.results83,go_sem]) rfl ?_;exact c.out _ _ _ K3.out.1 K3.out.2 (by repeat' (first|exact Below.refl _ _|(refine Below.alloc ?_ (by simp<;>omega) _)|(refine Below.setCell ?_ Zs _)))
theorem Try.info_event:(Try.prog.info? 87).map (fun i=>(i.zero,i.size,i.bytes))=some (some (.agg #[I 0,I 0]),2,4):=by kernel_rfl
theorem p9 (E:IEnv)(b a:Nat):tS E b a<256:=by unfold tS;exact UInt8.toNat_lt _
theorem or_rom (x y:Nat)(d:x<256)(c:y<256):bits .or .u16 (x:Int) (IntKind.u16.wrap ((y:Int)*256))=((x+256*y:Nat):Int):=by
 have:=or_low x y d c;have e1:IntKind.u16.wrap (x:Int)=(x:Int):=by rw[xY];omega
 have e2:IntKind.u16.wrap (y:Int)=(y:Int):=by rw[xY];omega
 rw[e1,e2] at this;exact this
theorem xN{row:Option Nat}(h:w.drew.grownBy w' row):w.grownBy w' row:=⟨h.os,h.tape,h.output,h.size,h.block⟩
theorem ke (E:IEnv)(m:Mach)(c:∀x∈E.inn,x<65536):∃x m',uq E m=.ok x m'/\x<65536:=by
 unfold uq
 by_cases h:m.inputs<E.inn.length
 ·rw[if_pos h];exact⟨_,_,rfl,by rw[Jj,Jd h];exact c _ (Uf h)⟩
 ·rw[if_neg h];exact⟨_,_,rfl,by decide⟩
theorem step_2{ov:Value}(h:MachAt w K m ov)(a2:I64 oa)(a1:I64 ob)(a7:on<65536)(ab:Option Addr)(an ac:Nat){v:Int->Nat}(hv:xO w vb vn v)(d:Int)(hk:0<=oa/\oa.toNat<K.E.p.data.length):
 Y 82 #[Q K.pm,.agg #[A 2,A c,A oa,A ob,I on,.slice ab an ac],.map (some vb),A d] w (zQ K w (.ok (((K.E.p.data.getD oa.toNat ⟨0,0,0⟩).addr+on)%65536) m)):=by
 have t:=fun(W:World) (hW:Frm K.B w W)=>(hv.kept hW).look a2
 have r:=fun(W:World) (hW:Frm K.B w W)=>(hv.kept hW).look a1
 have a6:=hv.2 oa;have a5:=hv.2 ob;have b2:=h.size;have a0:=Ja (h.keep ((Below.refl _ _).alloc (Je _) (U #[A 2,A c,A oa,A ob,I on,.slice ab an ac] 77)));have j:=Ja ((Frm.refl K.B w).alloc Zo (U #[A 2,A c,A oa,A ob,I on,.slice ab an ac] 77));have la:=fun n:Nat=>t _ (j.out.drewN (n:=n))
 have lb:=fun n:Nat=>r _ (j.out.drewN (n:=n))
 have g:=zI (W:=w) (o:=U #[A 2,A c,A oa,A ob,I on,.slice ab an ac] 77) rfl;clear h hv t r;generalize v oa=xa at *;generalize v ob=xb at *;go_enter Try.func82,Try.ntmps82;go_upto_region 1 with fail;generalize a3:w.alloc (U #[A 2,A c,A oa,A ob,I on,.slice ab an ac] 77)=W1 at *;clear a3;have p0:=K0 g;have p2:=K2 g;have p3:=K3 g;have p4:=K4 g
 go_cut [9,10] (fun x y wx=>x=I xa/\y=I xb/\∃n,wx=W1.drewN n)
 case first=>
  go_quiet (fail);go_wp2;go_meet;exact⟨rfl,rfl,_,rfl⟩
 case rest=>
  obtain⟨rfl,rfl,n,rfl⟩:=hcut;have HM:=Ja (a0.out.drewN n);have HF:=Ja (j.out.drewN (n:=n));have q0:(W1.drewN n).cell? ⟨w.heap.size,0,none⟩=_:=p0;have q2:(W1.drewN n).cell? ⟨w.heap.size,2,none⟩=_:=p2;have q4:(W1.drewN n).cell? ⟨w.heap.size,4,none⟩=_:=p4;clear la lb p0 p2 p3 p4 g a0 j;generalize W1.drewN n=W2 at *;obtain⟨k,rfl⟩:∃k:Nat,oa=(k:Int):=⟨oa.toNat,by omega⟩
  have u:k<K.E.p.data.length:=Zo;have b0:(k:Int)<K.E.p.data.length:=Zo;have i:=HM.out.prog.data;obtain⟨da,dc,l,_,_⟩:=i.form;rw[l] at i;obtain⟨x,hx⟩:∃x,K.E.p.data[k]? =some x:=⟨_,Jd u⟩
  obtain⟨b,oo,rfl,_,_,b1,_,_,a4,_⟩:=i.get hx;have c4:=HM.out.c4;rw[l] at c4;have EE:=Ja (show(K.E.p.data.getD ((k:Nat):Int).toNat ⟨0,0,0⟩).addr=x.addr by rw[Ni,Jj,hx];rfl);clear hk u i l hx;go_upto_region 7 with fail;go_quiet (fail);go_wp2;go_ret;rw[EE.out];have e:Ending.returned (I (IntKind.u16.wrap ((x.addr:Int)+(on:Int))))=.returned (I (((x.addr+on)%65536:Nat):Int)):=zh (by rw[xY];omega);exact e ▸ zQ.ok (HM.out.drewN _) HF.out.drewN Zo
theorem step_22{ov:Value}(h:MachAt w K m ov)(a6:I64 oa)(a5:I64 ob)(i:on<65536)(ab:Option Addr)(an ac:Nat){v:Int->Nat}(hv:xO w vb vn v)(d:Int)(r:Hid (∀s∈K.E.p.banks,s.size=4096)):
 Y 82 #[Q K.pm,.agg #[A 22,A c,A oa,A ob,I on,.slice ab an ac],.map (some vb),A d] w (zQ K w (im K.E m on (v oa))):=by
 have a0:=fun(W:World) (hW:Frm K.B w W)=>(hv.kept hW).look a6
 have u:=fun(W:World) (hW:Frm K.B w W)=>(hv.kept hW).look a5
 have l:=hv.2 oa;have b1:=hv.2 ob;have b2:=h.size;have a3:=Ja (h.keep ((Below.refl _ _).alloc (Je _) (U #[A 22,A c,A oa,A ob,I on,.slice ab an ac] 77)));have k:=Ja ((Frm.refl K.B w).alloc Zo (U #[A 22,A c,A oa,A ob,I on,.slice ab an ac] 77));have la:=fun n:Nat=>a0 _ (k.out.drewN (n:=n))
 have lb:=fun n:Nat=>u _ (k.out.drewN (n:=n))
 have g:=zI (W:=w) (o:=U #[A 22,A c,A oa,A ob,I on,.slice ab an ac] 77) rfl;clear h hv a0 u;generalize v oa=xa at *;generalize v ob=xb at *;go_enter Try.func82,Try.ntmps82;go_upto_region 1 with fail;generalize a7:w.alloc (U #[A 22,A c,A oa,A ob,I on,.slice ab an ac] 77)=W1 at *;clear a7;have p0:=K0 g;have p2:=K2 g;have p3:=K3 g;have p4:=K4 g
 go_cut [9,10] (fun x y wx=>x=I xa/\y=I xb/\∃n,wx=W1.drewN n)
 case first=>
  go_quiet (fail);go_wp2;go_meet;exact⟨rfl,rfl,_,rfl⟩
 case rest=>
  obtain⟨rfl,rfl,n,rfl⟩:=hcut;have j:=Ja (a3.out.drewN n);have HF:=Ja (k.out.drewN (n:=n));have q0:(W1.drewN n).cell? ⟨w.heap.size,0,none⟩=_:=p0;have q2:(W1.drewN n).cell? ⟨w.heap.size,2,none⟩=_:=p2;have q4:(W1.drewN n).cell? ⟨w.heap.size,4,none⟩=_:=p4;clear la lb p0 p2 p3 p4 g a3 k;generalize W1.drewN n=W2 at *;have t:yg xa<65536:=Qj _ Zd;have b0:IntKind.u16.wrap ((xa:Int)+1)=((yg xa:Nat):Int):=by rw[xY];unfold yg;omega
  by_cases h1:sJ K.E on xa=true
  ·by_cases h2:sJ K.E on (yg xa)=true
   ·have EE:=Ja (show im K.E m on xa=.ok (tS K.E on xa+256*tS K.E on (yg xa)) m by unfold im;rw[if_pos h1,if_pos h2]);have C1:=Ja h1;have C2:=Ja h2;have t1:True:=trivial;have g1:=p9 K.E on xa;have g2:=p9 K.E on (yg xa);have G:=Ja (Jb g1 g2);clear h1 h2 g1 g2;go_wp2_with (first|(go_at_call 108;have a4:=t1;clear t1;go_must (refine(p8 j.out r.out on xa i l C1.out).mono ?_;rintro e w' ⟨rfl,rfl⟩))|(go_at_call 108;go_must (refine(p8 j.out r.out on (yg xa) i t C2.out).mono ?_;rintro e w' ⟨rfl,rfl⟩)))
    go_ret;rw[EE.out];have e:Ending.returned (I (bits .or .u16 (tS K.E on xa:Int) (IntKind.u16.wrap ((tS K.E on (yg xa):Int)*256))))=.returned (I ((tS K.E on xa+256*tS K.E on (yg xa):Nat):Int)):=zh (or_rom _ _ G.out.1 G.out.2);exact e ▸ zQ.ok j.out HF.out (by have:=G.out;omega)
   ·have a1:sJ K.E on (yg xa)=false:=by simpa using h2
    have EE:=Ja (show im K.E m on xa=.trap 2 (yg xa) m by unfold im;rw[if_pos h1,if_neg h2]);have C1:=Ja h1;have C2:=Ja a1;have t1:True:=trivial;clear h1 h2 a1;go_wp2_with (first|(go_at_call 108;have a4:=t1;clear t1;go_must (refine(p8 j.out r.out on xa i l C1.out).mono ?_;rintro e w' ⟨rfl,rfl⟩))|(go_at_call 108;go_must (refine(kh j.out on (yg xa) i t C2.out).mono ?_;rintro e w' ⟨rfl,rfl⟩)))
    exact⟨rfl,by rw[EE.out];exact zQ.trap j.out HF.out⟩
  ·have a2:sJ K.E on xa=false:=by simpa using h1
   have EE:=Ja (show im K.E m on xa=.trap 2 xa m by unfold im;rw[if_neg h1]);have C1:=Ja a2;clear h1 a2;go_wp2_with (go_at_call 108;go_must (refine(kh j.out on xa i l C1.out).mono ?_;rintro e w' ⟨rfl,rfl⟩))
   exact⟨rfl,by rw[EE.out];exact zQ.trap j.out HF.out⟩
theorem step_23{ov:Value}(h:MachAt w K m ov)(a2:I64 oa)(a1:I64 ob)(l:on<65536)(ab:Option Addr)(an ac:Nat){v:Int->Nat}(hv:xO w vb vn v)(d:Int)(a3:Hid (∀s∈K.E.p.banks,s.size=4096)):
 Y 82 #[Q K.pm,.agg #[A 23,A c,A oa,A ob,I on,.slice ab an ac],.map (some vb),A d] w (zQ K w (nX K.E m on (v oa))):=by
 have t:=fun(W:World) (hW:Frm K.B w W)=>(hv.kept hW).look a2
 have r:=fun(W:World) (hW:Frm K.B w W)=>(hv.kept hW).look a1
 have k:=hv.2 oa;have a5:=hv.2 ob;have a6:=h.size;have a0:=Ja (h.keep ((Below.refl _ _).alloc (Je _) (U #[A 23,A c,A oa,A ob,I on,.slice ab an ac] 77)));have i:=Ja ((Frm.refl K.B w).alloc Zo (U #[A 23,A c,A oa,A ob,I on,.slice ab an ac] 77));have la:=fun n:Nat=>t _ (i.out.drewN (n:=n))
 have lb:=fun n:Nat=>r _ (i.out.drewN (n:=n))
 have g:=zI (W:=w) (o:=U #[A 23,A c,A oa,A ob,I on,.slice ab an ac] 77) rfl;clear h hv t r;generalize v oa=xa at *;generalize v ob=xb at *;go_enter Try.func82,Try.ntmps82;go_upto_region 1 with fail;generalize a4:w.alloc (U #[A 23,A c,A oa,A ob,I on,.slice ab an ac] 77)=W1 at *;clear a4;have p0:=K0 g;have p2:=K2 g;have p3:=K3 g;have p4:=K4 g
 go_cut [9,10] (fun x y wx=>x=I xa/\y=I xb/\∃n,wx=W1.drewN n)
 case first=>
  go_quiet (fail);go_wp2;go_meet;exact⟨rfl,rfl,_,rfl⟩
 case rest=>
  obtain⟨rfl,rfl,n,rfl⟩:=hcut;have j:=Ja (a0.out.drewN n);have HF:=Ja (i.out.drewN (n:=n));have q0:(W1.drewN n).cell? ⟨w.heap.size,0,none⟩=_:=p0;have q2:(W1.drewN n).cell? ⟨w.heap.size,2,none⟩=_:=p2;have q4:(W1.drewN n).cell? ⟨w.heap.size,4,none⟩=_:=p4;clear la lb p0 p2 p3 p4 g a0 i;generalize W1.drewN n=W2 at *
  by_cases h1:sJ K.E on xa=true
  ·have EE:=Ja (show nX K.E m on xa=.ok (tS K.E on xa) m by unfold nX;rw[if_pos h1]);have C1:=Ja h1;clear h1;go_wp2_with (go_at_call 108;go_must (refine(p8 j.out a3.out on xa l k C1.out).mono ?_;rintro e w' ⟨rfl,rfl⟩))
   go_ret;rw[EE.out];exact zQ.ok j.out HF.out (by have:=p9 K.E on xa;omega)
  ·have u:sJ K.E on xa=false:=by simpa using h1
   have EE:=Ja (show nX K.E m on xa=.trap 2 xa m by unfold nX;rw[if_neg h1]);have C1:=Ja u;clear h1 u;go_wp2_with (go_at_call 108;go_must (refine(kh j.out on xa l k C1.out).mono ?_;rintro e w' ⟨rfl,rfl⟩))
   exact⟨rfl,by rw[EE.out];exact zQ.trap j.out HF.out⟩
theorem step_24{ov:Value}(h:MachAt w K m ov)(a1:I64 oa)(a0:I64 ob)(b0:on<65536)(ab:Option Addr)(an ac:Nat){v:Int->Nat}(hv:xO w vb vn v)(d:Int)(a3:Hid (∀x∈K.E.inn,x<65536)):
 Y 82 #[Q K.pm,.agg #[A 24,A c,A oa,A ob,I on,.slice ab an ac],.map (some vb),A d] w (zQ K w (uq K.E m)):=by
 have l:=fun(W:World) (hW:Frm K.B w W)=>(hv.kept hW).look a1
 have k:=fun(W:World) (hW:Frm K.B w W)=>(hv.kept hW).look a0
 have a7:=hv.2 oa;have a6:=hv.2 ob;have b1:=h.size;have r:=Ja (h.keep ((Below.refl _ _).alloc (Je _) (U #[A 24,A c,A oa,A ob,I on,.slice ab an ac] 77)));have j:=Ja ((Frm.refl K.B w).alloc Zo (U #[A 24,A c,A oa,A ob,I on,.slice ab an ac] 77));have la:=fun n:Nat=>l _ (j.out.drewN (n:=n))
 have lb:=fun n:Nat=>k _ (j.out.drewN (n:=n))
 have g:=zI (W:=w) (o:=U #[A 24,A c,A oa,A ob,I on,.slice ab an ac] 77) rfl;clear h hv l k;generalize v oa=xa at *;generalize v ob=xb at *;go_enter Try.func82,Try.ntmps82;go_upto_region 1 with fail;generalize a5:w.alloc (U #[A 24,A c,A oa,A ob,I on,.slice ab an ac] 77)=W1 at *;clear a5;have p0:=K0 g;have p2:=K2 g;have p3:=K3 g;have p4:=K4 g
 go_cut [9,10] (fun x y wx=>x=I xa/\y=I xb/\∃n,wx=W1.drewN n)
 case first=>
  go_quiet (fail);go_wp2;go_meet;exact⟨rfl,rfl,_,rfl⟩
 case rest=>
  obtain⟨rfl,rfl,n,rfl⟩:=hcut;have HM:=Ja (r.out.drewN n);have HF:=Ja (j.out.drewN (n:=n));have q0:(W1.drewN n).cell? ⟨w.heap.size,0,none⟩=_:=p0;have q2:(W1.drewN n).cell? ⟨w.heap.size,2,none⟩=_:=p2;have q4:(W1.drewN n).cell? ⟨w.heap.size,4,none⟩=_:=p4;clear la lb p0 p2 p3 p4 g r j;generalize W1.drewN n=W2 at *;obtain⟨x,m',t,u⟩:=ke K.E m a3.out;have i:Y 109 #[Q K.pm] W2 fun e w'=>e=.returned (I x)/\MachAt w' K m' ov/\Frm K.B W2 w':=by have:=jA HM.out;rw[t] at this;exact this
  have EE:=Ja t;have HC:=Ja i;clear t i;go_wp2_with (go_at_call 109;go_must (refine HC.out.mono ?_;rintro e w' ⟨rfl,a2,a4⟩))
  go_ret;rw[EE.out];exact zQ.ok a2 (HF.out.trans a4) u
theorem step_25{ov:Value}(h:MachAt w K m ov)(b3:I64 oa)(b2:I64 ob)(b4:on<65536)(ab:Option Addr)(an ac:Nat){v:Int->Nat}(hv:xO w vb vn v)(d:Int)(b5:m.out.length+1+m.fuel.toNat<=4000000):
 Y 82 #[Q K.pm,.agg #[A 25,A c,A oa,A ob,I on,.slice ab an ac],.map (some vb),A d] w (zQ K w (adS m on (v oa))):=by
 have a1:=fun(W:World) (hW:Frm K.B w W)=>(hv.kept hW).look b3
 have a0:=fun(W:World) (hW:Frm K.B w W)=>(hv.kept hW).look b2
 have b1:=hv.2 oa;have c2:=hv.2 ob;have c4:=h.size;have a2:=Ja (h.keep ((Below.refl _ _).alloc (Je _) (U #[A 25,A c,A oa,A ob,I on,.slice ab an ac] 77)));have l:=Ja ((Frm.refl K.B w).alloc Zo (U #[A 25,A c,A oa,A ob,I on,.slice ab an ac] 77));have la:=fun n:Nat=>a1 _ (l.out.drewN (n:=n))
 have lb:=fun n:Nat=>a0 _ (l.out.drewN (n:=n))
 have g:=zI (W:=w) (o:=U #[A 25,A c,A oa,A ob,I on,.slice ab an ac] 77) rfl;clear h hv a1 a0;generalize v oa=xa at *;generalize v ob=xb at *;go_enter Try.func82,Try.ntmps82;go_upto_region 1 with fail;generalize b7:w.alloc (U #[A 25,A c,A oa,A ob,I on,.slice ab an ac] 77)=W1 at *;clear b7;have p0:=K0 g;have p2:=K2 g;have p3:=K3 g;have p4:=K4 g
 go_cut [9,10] (fun x y wx=>x=I xa/\y=I xb/\∃n,wx=W1.drewN n)
 case first=>
  go_quiet (fail);go_wp2;go_meet;exact⟨rfl,rfl,_,rfl⟩
 case rest=>
  obtain⟨rfl,rfl,n,rfl⟩:=hcut;have k:=Ja (a2.out.drewN n);have HF:=Ja (l.out.drewN (n:=n));have q0:(W1.drewN n).cell? ⟨w.heap.size,0,none⟩=_:=p0;have q2:(W1.drewN n).cell? ⟨w.heap.size,2,none⟩=_:=p2;have q4:(W1.drewN n).cell? ⟨w.heap.size,4,none⟩=_:=p4;clear la lb p0 p2 p3 p4 g a2 l;generalize W1.drewN n=W2 at *;obtain⟨ii,b6,a5,a4,a3⟩:=info_parts Try.info_event;have c10:=k.out.c10;have b8:=k.out.free 10;have i:=k.out.out;have u:=lt_of_block k.out.blk;have nb:=zC i k.out.blk (.inr Zd);obtain⟨oa',oc',rfl⟩:=zG i;have b0:=Ja i;have c3:m.out.length<=4000000:=Zo;have a7:∀o,G (W2.alloc o) K.pm 10 (.slice oa' m.out.length oc'):=fun o=>(Oo (w:=W2) (Below.heap_alloc _ _ _ u)).trans c10
  have a6:∀o,T (W2.alloc o) K.pm 10:=fun o=>(Qm (w:=W2) (Below.heap_alloc _ _ _ u)).trans b8
  have c7:K.B<W2.heap.size:=k.out.size;clear i;go_upto_region 30 with fail
  go_region_law (first|(refine step_append_lies _ (by rfl) (.tmp 145) (.tmp 150) _ (by rfl) K.B 87 ii (.agg #[I 0,I 0]) 2 4 Try.underlying53 b6 a5 a4 a3 rfl Zo (.slice oa' m.out.length oc') m.out.length (qO m.out) (by rfl) ((b0.out.alloc _).drew) ⟨W2.heap.size,0,none⟩ 1 1 [I on,I xa] (by rfl) (by rfl) (Oi (cs:=#[I on,I xa]) (t:=87) (fr:=(0,0)) (heap_alloc_new W2 _)) (by simp[Value.oneCell']) Zo (by unfold maxLen;omega) Zo Zt (W2.heap.size+1) Zs ?_;intro gg c0 w3 r j c5 b9;have c9:=(j.cell_far ⟨K.pm,10,none⟩ Zt (Ne.symm nb)).trans (a7 _);have c8:=(j.frozen_far ⟨K.pm,10,none⟩ Zt (Ne.symm nb)).trans (a6 _)))
  all_goals go_wp2_with fail
  all_goals go_ret
  all_goals (
   have hO:=k.out.setO (p:=on) (x:=xa) (xN j) (by simpa[vL] using r) b4 b1 b5
   exact zQ.ok (x:=0) hO.1 (HF.out.trans hO.2) Zd)
theorem step_ar{ov:Value}(h:MachAt w K m ov){oc g:Int}(a2:I64 oa)(a1:I64 ob)(b6:on<65536)(ab:Option Addr)(an ac:Nat){v:Int->Nat}(hv:xO w vb vn v)(d:Int)(hc:5<=oc/\oc<=17):
 Y 82 #[Q K.pm,.agg #[A oc,A g,A oa,A ob,I on,.slice ab an ac],.map (some vb),A d] w (zQ K w (iy m oc (v oa) (v ob))):=by
 have u:=fun(W:World) (hW:Frm K.B w W)=>(hv.kept hW).look a2
 have t:=fun(W:World) (hW:Frm K.B w W)=>(hv.kept hW).look a1
 have r:=hv.2 oa;have l:=hv.2 ob;have b7:=h.size;have a0:=Ja (h.keep ((Below.refl _ _).alloc (Je _) (U #[A oc,A g,A oa,A ob,I on,.slice ab an ac] 77)));have j:=Ja ((Frm.refl K.B w).alloc Zo (U #[A oc,A g,A oa,A ob,I on,.slice ab an ac] 77));have la:=fun n:Nat=>u _ (j.out.drewN (n:=n))
 have lb:=fun n:Nat=>t _ (j.out.drewN (n:=n))
 have i:=zI (W:=w) (o:=U #[A oc,A g,A oa,A ob,I on,.slice ab an ac] 77) rfl;clear h hv u t;generalize v oa=xa at *;generalize v ob=xb at *;go_enter Try.func82,Try.ntmps82;go_upto_region 1 with fail;generalize a3:w.alloc (U #[A oc,A g,A oa,A ob,I on,.slice ab an ac] 77)=W1 at *;clear a3;have p0:=K0 i;have p2:=K2 i;have p3:=K3 i;have p4:=K4 i
 go_cut [9,10] (fun x y wx=>x=I xa/\y=I xb/\∃n,wx=W1.drewN n)
 case first=>
  go_quiet (fail);go_wp2;go_meet;exact⟨rfl,rfl,_,rfl⟩
 case rest=>
  obtain⟨rfl,rfl,n,rfl⟩:=hcut;have HM:=Ja (a0.out.drewN n);have HF:=Ja (j.out.drewN (n:=n));have q0:(W1.drewN n).cell? ⟨w.heap.size,0,none⟩=_:=p0;have q2:(W1.drewN n).cell? ⟨w.heap.size,2,none⟩=_:=p2;have q4:(W1.drewN n).cell? ⟨w.heap.size,4,none⟩=_:=p4;clear la lb p0 p2 p3 p4 i a0 j;generalize W1.drewN n=W2 at *;have t1:((oc:Int)==1)=false:=Ze;have t2:((oc:Int)==2)=false:=Ze;have t3:((oc:Int)==3)=false:=Ze;have t4:((oc:Int)==4)=false:=Ze;have b5:((oc:Int)==18)=false:=Ze;have b4:((oc:Int)==19)=false:=Ze;have b3:((oc:Int)==20)=false:=Ze;have b2:((oc:Int)==21)=false:=Ze;have b1:((oc:Int)==22)=false:=Ze;have b0:((oc:Int)==23)=false:=Ze;have a7:((oc:Int)==24)=false:=Ze;have a6:((oc:Int)==25)=false:=Ze;have a5:((oc:Int)==26)=false:=Ze;have a4:((oc:Int)==27)=false:=Ze;have c:=jD oc hc xa xb r l;unfold rq at c
  by_cases k:oc=8/\xb=0
  ·have EE:=Ja (show iy m oc xa xb=.trap 4 0 m by unfold iy;rw[if_pos k]);simp only[if_pos k] at c;have HC:=Ja c;clear hc c k;go_wp2_with (go_at_call 111;go_must (refine(HC.out _).mono ?_;rintro e w' ⟨rfl,rfl⟩))
   exact⟨rfl,by rw[EE.out];exact zQ.trap HM.out HF.out⟩
  ·have EE:=Ja (show iy m oc xa xb=.ok (yW oc xa xb) m by unfold iy;rw[if_neg k]);simp only[if_neg k] at c;have HC:=Ja c;clear hc c k;go_wp2_with (go_at_call 111;go_must (refine(HC.out _).mono ?_;rintro e w' ⟨rfl,rfl⟩))
   go_ret;rw[EE.out];exact zQ.ok HM.out HF.out (jz _ _ _ r l)
theorem lU{E:IEnv}{call:Int->List Nat->Mach->Res Nat}{m':Mach}(h:tY E call m=.ok x m'):x=0:=by
 unfold tY at h
 split at h
 ·split at h
  ·split at h
   ·cases h;rfl
   ·cases h
  ·cases h;rfl
 ·cases h;rfl
theorem step_27{ov:Value}(h:MachAt w K m ov){g:Int}(a7:I64 oa)(a6:I64 ob)(b4:on<65536)(ab:Option Addr)(an ac:Nat){v:Int->Nat}(hv:xO w vb vn v)(b0:Hid (OkProg K.E.p))(hr:r<=100)(hC:Hid (pq K r)):
 Y 82 #[Q K.pm,.agg #[A 27,A g,A oa,A ob,I on,.slice ab an ac],.map (some vb),A (100-(r:Int))] w (zQ K w (tY K.E (xW K.E r) m)):=by
 have a3:=fun(W:World) (hW:Frm K.B w W)=>(hv.kept hW).look a7
 have a2:=fun(W:World) (hW:Frm K.B w W)=>(hv.kept hW).look a6
 have b3:=hv.2 oa;have b2:=hv.2 ob;have b5:=h.size;have a4:=Ja (h.keep ((Below.refl _ _).alloc (Je _) (U #[A 27,A g,A oa,A ob,I on,.slice ab an ac] 77)));have t:=Ja ((Frm.refl K.B w).alloc Zo (U #[A 27,A g,A oa,A ob,I on,.slice ab an ac] 77));have la:=fun n:Nat=>a3 _ (t.out.drewN (n:=n))
 have lb:=fun n:Nat=>a2 _ (t.out.drewN (n:=n))
 have j:=zI (W:=w) (o:=U #[A 27,A g,A oa,A ob,I on,.slice ab an ac] 77) rfl;clear h hv a3 a2;generalize v oa=xa at *;generalize v ob=xb at *;go_enter Try.func82,Try.ntmps82;go_upto_region 1 with fail;generalize b1:w.alloc (U #[A 27,A g,A oa,A ob,I on,.slice ab an ac] 77)=W1 at *;clear b1;have p0:=K0 j;have p2:=K2 j;have p3:=K3 j;have p4:=K4 j
 go_cut [9,10] (fun x y wx=>x=I xa/\y=I xb/\∃n,wx=W1.drewN n)
 case first=>
  go_quiet (fail);go_wp2;go_meet;exact⟨rfl,rfl,_,rfl⟩
 case rest=>
  obtain⟨rfl,rfl,n,rfl⟩:=hcut;have HM:=Ja (a4.out.drewN n);have HF:=Ja (t.out.drewN (n:=n));have q0:(W1.drewN n).cell? ⟨w.heap.size,0,none⟩=_:=p0;have q2:(W1.drewN n).cell? ⟨w.heap.size,2,none⟩=_:=p2;have q4:(W1.drewN n).cell? ⟨w.heap.size,4,none⟩=_:=p4;clear la lb p0 p2 p3 p4 j a4 t;generalize W1.drewN n=W2 at *;have c:=poll_any HM.out b0.out hr hC.out
  cases d:tY K.E (xW K.E r) m with
  |ok x m'=>
   have a5:=lU d;subst a5;have l:Y 110 #[Q K.pm,A (100-(r:Int))] W2 fun e w'=>e=.returned (.tuple #[])/\(∃ov',MachAt w' K m' ov')/\Frm K.B W2 w':=by rw[d] at c;exact c
   have a1:=Ja l;have EE:=Ja d;clear c l d;go_wp2_with (go_at_call 110;go_must (refine a1.out.mono ?_;rintro e w' ⟨rfl,⟨ov',u⟩,a0⟩))
   go_ret;rw[EE.out]
   exact zQ.ok (x:=0) u (HF.out.trans a0) Zd
  |trap k i m'=>
   have l:Y 110 #[Q K.pm,A (100-(r:Int))] W2 fun e w'=>e=.panicked [oE k i]/\(∃ov',MachAt w' K m' ov')/\Frm K.B W2 w':=by rw[d] at c;exact c
   have a1:=Ja l;have EE:=Ja d;clear c l d;go_wp2_with (go_at_call 110;go_must (refine a1.out.mono ?_;rintro e w' ⟨rfl,⟨ov',u⟩,a0⟩))
   exact⟨rfl,by rw[EE.out];exact zQ.trap u (HF.out.trans a0)⟩
theorem u16s_lt{B:Nat}{v:Value}{xs:List Nat}(h:wV w B v xs):∀x∈xs,x<65536:=by
 intro x c;obtain⟨k,hk⟩:=Ny c;obtain⟨a,cap,rfl,_,_,_⟩:=id h;obtain⟨b,o,_,_,h3⟩:=h.get hk;exact h3.2
def aam (o:IOp)(av:Value):Value:=.agg #[A o.code,A o.res,A o.a,A o.b,I (o.n:Int),av]
theorem step_any{ov:Value}(h:MachAt w K m ov)(j:OkProg K.E.p)(ho:OkOp K.E.p o)(hb:I64 o.code/\I64 o.res/\I64 o.a/\I64 o.b/\o.n<65536){av:Value}(k:zY w w.heap.size av o.args)
  {v:Int->Nat} (hv:xO w vb vn v)  (hr:r<=100) (hC:pq K r) (t:m.out.length+1+m.fuel.toNat<=4000000):
 Y 82 #[Q K.pm,aam o av,.map (some vb),A (100-(r:Int))] w (zQ K w (oV K.E (xW K.E r) o v m)):=by
 obtain⟨code,res,oa,ob,on,xs⟩:=o;obtain⟨⟨a1,a0⟩,h2,l⟩:=ho;obtain⟨_,a2,d,c,g⟩:=hb;obtain⟨aa,ac,i,_,_⟩:=k.form;simp only at *;unfold aam;have y:code=1∨code=2∨code=3∨code=4∨(5<=code/\code<=17)∨code=18∨code=19∨code=20∨code=21∨code=22∨code=23∨code=24∨code=25∨code=26∨code=27:=Zo;have u:∀x∈K.E.inn,x<65536:=u16s_lt h.inn;rcases y with rfl|rfl|rfl|rfl|hc|rfl|rfl|rfl|rfl|rfl|rfl|rfl|rfl|rfl|rfl
 ·subst i;exact step_1 h d c g _ _ _ hv _
 ·subst i;exact step_2 h d c g _ _ _ hv _ (h2 rfl)
 ·subst i;exact step_3 h d c g _ _ _ hv _
 ·subst i;exact step_4 h d c g _ _ _ hv _
 ·subst i
  have e:oV K.E (xW K.E r) ⟨code,res,oa,ob,on,xs⟩ v m=iy m code (v oa) (v ob):=by
   unfold oV mU;simp only;rw[if_neg Zo,if_neg Zo,if_neg Zo,if_neg Zo,if_neg Zo,if_neg Zo,if_neg Zo,if_neg Zo,if_neg Zo,if_neg Zo,if_neg Zo,if_neg Zo,if_neg Zo,if_neg Zo]
  rw[e];exact step_ar h d c g _ _ _ hv _ hc
 ·subst i;exact step_18 h d c g _ _ _ hv _
 ·subst i;exact step_19 h d c g _ _ _ hv _
 ·subst i;exact step_20 h d c g _ _ _ hv _
 ·subst i;exact step_21 h d c g _ _ _ hv _
 ·subst i;exact step_22 h d c g _ _ _ hv _ (Ja j.bank)
 ·subst i;exact step_23 h d c g _ _ _ hv _ (Ja j.bank)
 ·subst i;exact step_24 h d c g _ _ _ hv _ (Ja u)
 ·subst i;exact step_25 h d c g _ _ _ hv _ t
 ·exact step_26 h d c g k (by have:=j.argle oa.toNat;have:=(l rfl).2.2;omega) hv hr hC (l rfl)
 ·subst i;exact step_27 h d c g _ _ _ hv (Ja j) hr (Ja hC)
theorem ju{p:IProg}(o:IOp)(ho:qN o)(ar:Option Addr)(cap:Nat)(hs:zi o.code=⟨false,false,false,false,false⟩):
 Y 98 #[Q C,opV o (.slice ar o.args.length cap)] w (ym w (opF p o)):=by
 unfold opV;obtain⟨i,g,k,j,h⟩:=ho;have e:opF p o=false:=by unfold opF;rw[hs];rfl
 rw[e];have hf:∀W,Y 105 #[A o.code] W fun e w'=>e=.returned (.tuple #[.agg #[.bool false,.bool false,.bool false,.bool false],.bool false])/\F W w':=fun W=>by have:=yu o.code W;rw[hs] at this;exact this
 have m:=Ja hf;clear hf hs e;go_enter Try.func98,Try.ntmps98;go_wp2_with (first|(go_at_call 105;go_must (refine(m.out _).mono ?_;rintro e w1 ⟨rfl,c⟩;have d:=Ja c;clear c))|go_in)
 go_ret;exact⟨rfl,(((Below.refl _ _).alloc (Je _) _).trans (d.out.mono Zs)).alloc (by have l:=d.out.size;simp at l;omega) _⟩
theorem oper_any{B:Nat}{V:PV}{tl:List Value}{p:IProg}(hp:ProgIn w B V p)(hB:B<=w.heap.size)(j:L w C (rC V p++tl).toArray 128)(hl:p.args.length=p.funcs.length)(o:IOp)(ho:qN o)(ar:Option Addr)(cap:Nat)(c:o.args.length<=cap/\cap<=9223372036854775807):
 Y 98 #[Q C,opV o (.slice ar o.args.length cap)] w (ym w (opF p o)):=by
 by_cases g:o.code=26
 ·exact kM hp hB j hl o ho ar cap c g
 by_cases h2:o.code=2
 ·exact jo hp hB j hl o ho ar cap c h2
 by_cases i:o.code=24
 ·exact oper_in (pvs:=[]) o ho ar cap c i
 by_cases d:o.code=25
 ·exact oper_out (pvs:=[]) o ho ar cap c d
 rcases rJ o.code with⟨h,e⟩|⟨h,e⟩|⟨h,e⟩|⟨h,e⟩|⟨h,e⟩|⟨h,e⟩|⟨h,e⟩|⟨h,e⟩
 ·exact kG (pvs:=[]) o ho ar cap c e g h2 i d
 ·exact oper_una (pvs:=[]) o ho ar cap c e g h2 i d
 ·exact oper_bin (pvs:=[]) o ho ar cap c e g h2 i d
 ·exact oper_sto (pvs:=[]) o ho ar cap c e g h2 i d
 ·exact oper_rom (pvs:=[]) o ho ar cap c e g h2 i d
 ·exact absurd h d
 ·exact kY (pvs:=[]) o ho ar cap c e g h2 i d
 ·exact ju o ho ar cap e
theorem edge_bad{e:IEdge}(c:t.to[k]? =some e)(h:uM blocks e=false):wn blocks t=false:=by
 unfold wn
 have:t.to.all (uM blocks)=false:=by
  rw[Bool.eq_false_iff];intro h2;rw[Oe.1 h2 e (Ji c)] at h;cases h
 rw[this];rfl
theorem term_any{B:Nat}{cs:Array Value}{d3:Value}(c2:wX w B d3 blocks)(hB:B<=w.heap.size)(hC:L w C cs 128)(h6:cs[6]? =some d3)(t:ITerm)(ht:I64 t.kind/\I64 t.a){tv:Value}(b2:wH w B tv t.to):
 Y 99 #[Q C,.agg #[A t.kind,A t.a,tv]] w (ym w (wn blocks t)):=by
 obtain⟨fa,fc,rfl,e7,e6⟩:=c2.form;obtain⟨ta,tc,rfl,e3,e2⟩:=b2.form;have g3:blocks.length<=9223372036854775807:=Zo;have f9:t.to.length<=9223372036854775807:=Zo;obtain⟨tk,b3⟩:∃x,t.kind=x:=⟨_,rfl⟩
 obtain⟨tA,b4⟩:∃x,t.a=x:=⟨_,rfl⟩
 have f5:=Ja c2;have f3:=Ja b2;obtain⟨res,a0⟩:∃x,wn blocks t=x:=⟨_,rfl⟩
 rw[a0,b3,b4];have r:=Ja (show wn blocks t=res/\t.kind=tk/\t.a=tA from⟨a0,b3,b4⟩);have d1:F w (w.alloc (U #[A tk,A tA,.slice ta t.to.length tc] 47)):=(Below.refl _ _).alloc (Je _) _;have b1:=zI (W:=w) (o:=U #[A tk,A tA,.slice ta t.to.length tc] 47) rfl;have i:=zB (o:=U #[A tk,A tA,.slice ta t.to.length tc] 47) hC;clear c2 b2 a0 b3 b4 hC e7 e6 e3 e2;go_enter Try.func99,Try.ntmps99;go_upto_region 1 with fail;generalize f2:w.alloc (U #[A tk,A tA,.slice ta t.to.length tc] 47)=W0 at *;have y2:=K2 b1;have c:=Ja d1;have d4:=Ja b1;have d6:=Ja i;clear f2 d1 b1 i;go_wp2
 go_loopw [10] (fun kv wx=>∃k:Nat,k<=t.to.length/\kv=A k/\Hid (F W0 wx/\(t.to.take k).all (uM blocks)=true)) (fun kv _=>t.to.length-(intOf kv).toNat)
 case atStart=>exact⟨0,Jt _,rfl,Ja ⟨Below.refl _ _,by rfl⟩⟩
 case round=>
  obtain⟨k,hk,rfl,HK⟩:=hrel
  by_cases a6:k<t.to.length
  ·have d7:(k:Int)<t.to.length:=Zo;have d5:=Ja a6;obtain⟨e,he⟩:∃e,t.to[k]? =some e:=⟨_,Jd a6⟩
   obtain⟨b,oo,rfl,hb,i,b7,av,d0,d2⟩:=f3.out.get he;obtain⟨aa,ac,rfl,f0,e9⟩:=d2.form;have g6:e.args.length<=9223372036854775807:=Zo;have c0:F w wr:=c.out.trans (HK.out.1.mono c.out.size);obtain⟨eb,a7⟩:∃x,e.block=x:=⟨_,rfl⟩
   rw[a7] at i;have e0:=zV c0 (Jy hb hB) i;have e1:=zV c0 (Jy hb hB) d0;have d:=zH HK.out.1 d6.out (lt_of_block d6.out);have HT:=Ja (show(t.to.take (k+1)).all (uM blocks)=((t.to.take k).all (uM blocks) && uM blocks e)/\(uM blocks e=false->wn blocks t=false) from⟨xX (uM blocks) he,fun h=>edge_bad he h⟩);have HE:=Ja a7;have c4:I64 eb:=a7 ▸ b7;obtain⟨g5,g4⟩:=c4;have c7:=zB (o:=U #[A eb,.slice aa e.args.length ac] 75) d;have b0:=zI (W:=wr) (o:=U #[A eb,.slice aa e.args.length ac] 75) rfl;have c5:=HK.out.1.alloc (HK.out.1.size) (U #[A eb,.slice aa e.args.length ac] 75);clear i d0 d2 he d a6 f0 e9 b7 a7 y2;go_upto_region 4 with fail;generalize f1:wr.alloc (U #[A eb,.slice aa e.args.length ac] 75)=W1 at *;generalize wr.heap.size=b6 at *;have f7:=K0 b0;have f6:=K1 b0;have zc:G W1 C 6 (.slice fa blocks.length fc):=zA c7 h6;have u:=Ja c5;clear f1 b0 c7 c5 c0 e0 e1
   by_cases g1:1<=eb
   ·have t1:decide (eb<1)=false:=decide_eq_false Zo;obtain⟨j,rfl⟩:∃j:Nat,eb=(j:Int):=⟨eb.toNat,by omega⟩
    by_cases g2:j<blocks.length
    ·have t2:decide ((blocks.length:Int)<=(j:Int))=false:=decide_eq_false Zo;have d8:decide (blocks.length<=j)=false:=decide_eq_false Zo;have d9:(j:Int)<(blocks.length:Int):=Zo;obtain⟨bx,b8⟩:∃bx,blocks[j]? =some bx:=⟨_,Jd g2⟩
     obtain⟨fb,fo,rfl,e8,_,_,_,pv,ov,f8,c9,_,_,c8,_⟩:=f5.out.get b8;obtain⟨pa,pc,rfl,e5,e4⟩:=c8.form;have g0:bx.params.length<=9223372036854775807:=Zo;have b9:F w W1:=c.out.trans (u.out.mono c.out.size);have p0:=zV b9 (Jy e8 hB) c9;obtain⟨q3,b5⟩:∃q,decide (e.args.length=bx.params.length)=q:=⟨_,rfl⟩
     have t3:((e.args.length:Int) !=(bx.params.length:Int))=!q3:=by
      rw[bne,vg (q:=q3) (zZ b5 Zo)]
     have g:uM blocks e=q3:=by
      unfold uM xz;rw[HE.out,decide_eq_true g1,decide_eq_true d9,Ni,Jj,b8,Ot,b5];rfl
     have l:=Ja g;clear b8 c9 c8 e5 e4 b9 g b5 g2
     cases q3 with
     |true=>
      go_quiet (fail);go_wp2;go_roundw
      case rel=>exact⟨k+1,d5.out,by go_num,Ja ⟨yC u.out,by rw[HT.out.1,HK.out.2,l.out];rfl⟩⟩
      case measure=>have:=d5.out;simp[intOf];omega
     |false=>
      go_quiet (fail);go_wp2;go_ret;exact⟨uz (r.out.1.symm.trans (HT.out.2 l.out)),yC (c.out.trans (u.out.mono c.out.size))⟩
    ·have t2:decide ((blocks.length:Int)<=(j:Int))=true:=decide_eq_true Zo;have d8:decide (blocks.length<=j)=true:=decide_eq_true Zo
     have g:uM blocks e=false:=by
      unfold uM;rw[HE.out,decide_eq_false (show ¬(j:Int)<(blocks.length:Int) by omega),Uh];rfl
     have l:=Ja g;clear g g2;go_quiet (fail);go_wp2;go_ret;exact⟨uz (r.out.1.symm.trans (HT.out.2 l.out)),yC (c.out.trans (u.out.mono c.out.size))⟩
   ·have t1:decide (eb<1)=true:=decide_eq_true Zo
    have g:uM blocks e=false:=by
     unfold uM;rw[HE.out,decide_eq_false g1];rfl
    have l:=Ja g;clear g g1;go_quiet (fail);go_wp2;go_ret;exact⟨uz (r.out.1.symm.trans (HT.out.2 l.out)),yC (c.out.trans (u.out.mono c.out.size))⟩
  ·obtain rfl:k=t.to.length:=by omega
   have d7:¬(t.to.length:Int)<t.to.length:=Zo;have d:=zH HK.out.1 d4.out (lt_of_block d4.out);have z0:=K0 d;have z1:=K1 d;have z2:=K2 d;have c3:t.to.all (uM blocks)=true:=by have:=HK.out.2;rwa [Nl] at this
   have y:Hid ((if tk=1 then decide (t.to.length=1) && decide (tA=0)
    else if tk=2 then decide (t.to.length=2)
    else if tk=3 then decide (1<=t.to.length)
    else if tk=4 then decide (t.to.length=0)
    else if tk=5 then decide (t.to.length=0) && decide (tA=0)
    else false)=res):=by
    have h:=r.out;unfold wn at h;rw[c3,Bool.true_and,h.2.1,h.2.2] at h;exact h.1
   have m:=Ja (show F w wr from c.out.trans (HK.out.1.mono c.out.size));obtain⟨a1,h1⟩:∃q,decide (t.to.length=1)=q:=⟨_,rfl⟩
   obtain⟨a2,h2⟩:∃q,decide (t.to.length=2)=q:=⟨_,rfl⟩
   obtain⟨a3,h3⟩:∃q,decide (1<=t.to.length)=q:=⟨_,rfl⟩
   obtain⟨a4,h4⟩:∃q,decide (t.to.length=0)=q:=⟨_,rfl⟩
   obtain⟨a5,h5⟩:∃q,decide (tA=0)=q:=⟨_,rfl⟩
   rw[h1,h2,h3,h4,h5] at y;have t1:((t.to.length:Int)==1)=a1:=vg (zZ h1 Zo);have t2:((t.to.length:Int)==2)=a2:=vg (zZ h2 Zo);have t3:decide ((1:Int)<=(t.to.length:Int))=a3:=zZ h3 Zo;have t4:((t.to.length:Int)==0)=a4:=vg (zZ h4 Zo);have t5:=vg h5;clear c3 d h1 h2 h4 h5 y2 a6
   by_cases k1:tk=1
   ·subst k1;cases a1<;>cases a5
    all_goals go_wp2
    all_goals go_ret
    all_goals exact⟨uz (y.out.symm.trans rfl),m.out⟩
   by_cases k2:tk=2
   ·subst k2;go_wp2;go_ret;exact⟨uz (y.out.symm.trans rfl),m.out⟩
   by_cases k3:tk=3
   ·subst k3;go_wp2;go_ret;exact⟨uz (y.out.symm.trans rfl),m.out⟩
   by_cases k4:tk=4
   ·subst k4;go_wp2;go_ret;exact⟨uz (y.out.symm.trans rfl),m.out⟩
   by_cases k5:tk=5
   ·subst k5;cases a4<;>cases a5
    all_goals go_wp2
    all_goals go_ret
    all_goals exact⟨uz (y.out.symm.trans rfl),m.out⟩
   have f4:Hid (false=res):=by
    have:=y.out;rw[if_neg k1,if_neg k2,if_neg k3,if_neg k4,if_neg k5] at this;exact this
   have u1:(tk==1)=false:=by rw[beq_eq_false_iff_ne];exact k1
   have u2:(tk==2)=false:=by rw[beq_eq_false_iff_ne];exact k2
   have u3:(tk==3)=false:=by rw[beq_eq_false_iff_ne];exact k3
   have u4:(tk==4)=false:=by rw[beq_eq_false_iff_ne];exact k4
   have u5:(tk==5)=false:=by rw[beq_eq_false_iff_ne];exact k5
   clear k1 k2 k3 k4 k5 y;go_wp2;go_ret;exact⟨uz f4.out.symm,m.out⟩
theorem vd{ops:Array Oper}{Q:Act->Prop}:∀ {rest:List Oper} {a:Act},wpQuiet P ops (fun w'=>w'=w) Q rest a->wpStill P ops w Q rest a
 | [],a,h=>h
 |o::rest,a,h=>by
  unfold wpQuiet at h;unfold wpStill
  split at h
  ·rename_i hw
   rw[if_pos hw];obtain⟨v,h1,h2⟩:=h;have h3:=h1 w rfl;have c:=vd h2;unfold Oper.quietAt at h3;unfold Oper.still;generalize (execOp a.eval o).run P w=r at *
   cases r with
   |ok n w'=>
    cases n<;>simp only[Oper.quietUpon] at h3<;>simp only[Oper.stillUpon]
    case value u=>obtain⟨e1,rfl⟩:=h3;exact⟨e1,c⟩
    case skip=>obtain⟨e1,rfl⟩:=h3;exact⟨e1,c⟩
    case enter f args=>exact⟨h3.1,v,h3.2,c⟩
   |halt x w'=>simp only[Oper.quietUpon] at h3
  ·rename_i hw
   rw[if_neg hw];exact vd h
theorem zt{id:Nat}{Q:Exit->Act->World->Prop}{a:Act}{l:List Oper}(n:Nat)(hm:P.follows .mixedOrders=true)(hB:Region.lexTailB .any l.toArray n=true)
 (h:wpQuiet P l.toArray (fun w'=>w'=w.drew) (fun a'=>wpList P l.toArray Q (l.drop n) a' w.drew) (l.take n) a):(Code.region id l.toArray true).wp P Q a w:=
 wp_region_still_tail n hm hB (vd h)
theorem qk{n:Nat}{pv:List Value}{a2 r:Value}(h:ChkAt w C m1 m2 pv a2 r n d)(hn:n<9000000000000000000)(v i k:Int)(hv:I64 v)(hi:I64 i)(hk:I64 k)(g:rB d v i k=some d'):
 Y 97 #[Q C,A v,A i,A k] w fun e w'=>e=.returned (.bool true)/\ChkAt w' C m1 m2 pv a2 r (n+1) d'/\Kept m1 m2 w w':=by
 obtain⟨hb,hl,o,a0,m,hd⟩:=h
 obtain⟨p0,p1,p2,p3,p4,p5,rfl⟩:∃a b c d e f,pv=[a,b,c,d,e,f]:=by
  match pv,hl with
  | [a,b,c,d,e,f],_=>exact⟨a,b,c,d,e,f,rfl⟩
 have a7:=o.lookOk hv;have b7:G w C 7 (.map (some m1)):=zA hb rfl;have b6:G w C 8 (.map (some m2)):=zA hb rfl;have j:¬((d.1 v).isSome∨v<0∨65535<v):=fun hc=>by rw[rB,if_pos hc] at g;cases g
 have b1:d'=(lS d.1 v i,lS d.2 v k):=by rw[rB,if_neg j] at g;cases g;rfl
 have h0:(d.1 v).isSome=false:=by cases l:(d.1 v).isSome with|false=>rfl|true=>exact absurd (.inl l) j
 have t:d.1 v=none:=by cases l:d.1 v with|none=>rfl|some y=>rw[l] at h0;cases h0
 have a4:d.2 v=none:=by cases l:d.2 v with|none=>rfl|some y=>have:=hd v;rw[l,t] at this;cases this
 have h1:decide (v<0)=false:=decide_eq_false Zo;have h2:decide (65535<v)=false:=decide_eq_false Zo;rw[h0] at a7;obtain⟨s1,w1,w2,e1,g1,e2,k1,g2⟩:=(wA.same (w':=w.drew) o rfl).entry hn hv hi t;obtain⟨es,ck,u⟩:=a0.blk;have a3:wA w2 m2 n d.2:=(wA.same (w':=w.drew) a0 rfl).same (g2.block m2 (lt_of_block u) (fun e=>m (by cases e;rfl)));obtain⟨s2,w3,w4,e3,g3,e4,k2,g4⟩:=a3.entry hn hv hk a4;subst b1;clear g j;simp only[goInt] at e1 e2 e3 e4;have H:=Ja (Jb g2 g4);go_enter Try.func97,Try.ntmps97;go_wp2
 go_region
 go_wp2;go_ret;obtain⟨g2,g4⟩:=H.out;obtain⟨b5,b9,a6⟩:=o.blk;have b3:C≠m1:=fun e=>by rw[e,a6] at hb;cases hb
 have b2:C≠m2:=fun e=>by rw[e,u] at hb;cases hb
 have a5:w.heap.size<=w2.heap.size:=g2.size;have a1:∀b,b≠m1->b≠m2->b<w.heap.size->w4.heap[b]? =w.heap[b]?:=fun b x1 x2 hbs=>(g4.block b Zo (fun e=>x2 (by cases e;rfl))).trans (g2.block b hbs (fun e=>x1 (by cases e;rfl)))
 obtain⟨b4,b8,b0⟩:=k1.blk;refine⟨rfl,⟨(a1 C b3 b2 (lt_of_block hb)).trans hb,rfl,k1.same (g4.block m1 (lt_of_block b0) (fun e=>m (by cases e;rfl))),k2,m,fun x=>?_⟩,⟨g4.os.trans g2.os,g4.tape.trans g2.tape,g4.output.trans g2.output,Jn a5 g4.size,fun b hbs x1 x2=>a1 b x1 x2 hbs⟩⟩
 show(lS d.1 v i x).isSome=(lS d.2 v k x).isSome
 unfold lS
 split
 ·rfl
 ·exact hd x
theorem uI{p:IProg}:∀(l m:List IOp) (k:Int) (d:wO),sS p i (l++m) k d=(sS p i l k d).bind (sS p i m (k+l.length))
 | [],m,k,d=>by simp[sS]
 |o::l,m,k,d=>by
  have e:k+1+(l.length:Int)=k+((o::l).length:Int):=by simp;omega
  show(if opF p o then(if 0<=o.res then(rB d o.res i k).bind (sS p i (l++m) (k+1)) else sS p i (l++m) (k+1) d) else none)=(if opF p o then(if 0<=o.res then(rB d o.res i k).bind (sS p i l (k+1)) else sS p i l (k+1) d) else none).bind _
  by_cases h:opF p o=true
  ·rw[if_pos h,if_pos h]
   by_cases h2:0<=o.res
   ·rw[if_pos h2,if_pos h2]
    cases rB d o.res i k with
    |none=>rfl
    |some d'=>rw[Nw,Nw,uI l m,e]
   ·rw[if_neg h2,if_neg h2,uI l m,e]
  ·rw[if_neg h,if_neg h];rfl
theorem ui{p:IProg}:∀(l m:List IBlk) (i:Int) (d:wO),uH p bl (l++m) i d=(uH p bl l i d).bind (uH p bl m (i+l.length))
 | [],m,i,d=>by simp[uH]
 |b::l,m,i,d=>by
  have e:i+1+(l.length:Int)=i+((b::l).length:Int):=by simp;omega
  show(pS p bl i b d).bind (uH p bl (l++m) (i+1))=((pS p bl i b d).bind (uH p bl l (i+1))).bind _
  cases pS p bl i b d with
  |none=>rfl
  |some d'=>rw[Nw,Nw,ui l m,e]
theorem sD{α:Type}{l:List α}{x:α}(h:l[k]? =some x):l=l.take k++x::l.drop (k+1):=by
 rw[Jh] at h;obtain⟨hk,rfl⟩:=h
 conv=>lhs;rw[<-Qi k l,Qn hk]
theorem vS{α:Type}{l:List α}{x:α}(h:l[k]? =some x):((l.take k).length:Int)=k:=by
 have:=(Jh.1 h).1;rw[Oc,Ud Zo]
theorem aC{l:List Int}{v:Int}(h:l[k]? =some v)(c:vJ i (l.take k) d=some d'):vJ i (l.take (k+1)) d=rB d' v i (-1):=by
 rw[Nh,h,Option.toList,uX,c,Nw]
 show(rB d' v i (-1)).bind (vJ i [])=_
 cases rB d' v i (-1)<;>rfl
theorem qr{l:List Int}{v:Int}(h:l[k]? =some v)(g:vJ i (l.take k) d=some d')(c:rB d' v i (-1)=none):vJ i l d=none:=by
 rw[sD h,uX,g,Nw]
 show(rB d' v i (-1)).bind _=none
 rw[c];rfl
def ug (p:IProg)(i k:Int)(o:IOp)(d:wO):Option wO:=if opF p o then(if 0<=o.res then rB d o.res i k else some d) else none
theorem dG (p:IProg)(i k:Int)(o:IOp)(os:List IOp)(d:wO):sS p i (o::os) k d=(ug p i k o d).bind (sS p i os (k+1)):=by
 unfold sS ug
 by_cases h:opF p o=true
 ·rw[if_pos h,if_pos h]
  by_cases h2:0<=o.res
  ·rw[if_pos h2,if_pos h2]
  ·rw[if_neg h2,if_neg h2];rfl
 ·rw[if_neg h,if_neg h];rfl
theorem cK{p:IProg}(h:l[k]? =some o)(c:sS p i (l.take k) 0 d=some d'):sS p i (l.take (k+1)) 0 d=ug p i k o d':=by
 rw[Nh,h,Option.toList,uI,c,Nw,dG,vS h,Ub];cases ug p i k o d'<;>rfl
theorem oR{p:IProg}(h:l[k]? =some o)(g:sS p i (l.take k) 0 d=some d')(c:ug p i k o d'=none):sS p i l 0 d=none:=by
 rw[sD h,uI,g,Nw,dG,vS h,Ub,c];rfl
theorem lQ{p:IProg}{l:List IBlk}{b:IBlk}(h:l[k]? =some b)(c:uH p bl (l.take k) 0 d=some d'):uH p bl (l.take (k+1)) 0 d=pS p bl k b d':=by
 rw[Nh,h,Option.toList,ui,c,Nw,vS h,Ub]
 show(pS p bl k b d').bind (uH p bl [] _)=_
 cases pS p bl k b d'<;>rfl
theorem abe{p:IProg}{l:List IBlk}{b:IBlk}(h:l[k]? =some b)(g:uH p bl (l.take k) 0 d=some d')(c:pS p bl k b d'=none):uH p bl l 0 d=none:=by
 rw[sD h,ui,g,Nw,vS h,Ub]
 show(pS p bl k b d').bind _=none
 rw[c];rfl
def sy:wO:=(fun _=>none,fun _=>none)
theorem wS (p:IProg)(bl:List IBlk):wg p bl=uH p bl bl 0 sy:=rfl
def ShpPost (w:World)(C m1 m2:Nat)(pv:List Value)(blv idv:Value)(r:Option wO)(e:Ending)(w':World):Prop:=
 e=.returned (.bool r.isSome)/\Kept m1 m2 w w'/\∀d,r=some d->∃n,n<9000000000000000000/\ChkAt w' C m1 m2 pv blv idv n d
def vZ (blocks:List IBlk):Prop:=blocks.length<=2000000/\∀b∈blocks,b.params.length<=2000000/\b.ops.length<=2000000/\b.term.to.length<=2000000
theorem cnt_lt{i:Nat}(hi:i<=2000000)(c:j<=2000000):i*4000000+j<9000000000000000000:=by omega
theorem cnt_lt2{i:Nat}(hi:i<=2000000)(c:j<=2000000):i*4000000+2000000+j<9000000000000000000:=by omega
theorem cnt_0 (i:Nat):i*4000000<=i*4000000+0:=by omega
theorem cnt_1 (i j:Nat):i*4000000+j+1<=i*4000000+(j+1):=by omega
theorem cnt_2{i:Nat}(h:j<=2000000):i*4000000+j<=i*4000000+2000000+0:=by omega
theorem cnt_3 (i j:Nat):i*4000000+2000000+j+1<=i*4000000+2000000+(j+1):=by omega
theorem cnt_3' (i j:Nat):i*4000000+2000000+j<=i*4000000+2000000+(j+1):=by omega
theorem cnt_4{i:Nat}(h:j<=2000000):i*4000000+2000000+j<=(i+1)*4000000:=by omega
theorem wA.le{b n:Nat}{g:Int->Option Int}(h:wA w b n g)(d:n<=n'):wA w b n' g:=by
 obtain⟨D,⟨es,c,k1,k2,k3,k4⟩,k5⟩:=h;exact⟨D,⟨es,c,k1,k2,Jn k3 d,k4⟩,k5⟩
theorem ChkAt.le{pv:List Value}{g c:Value}{n:Nat}(h:ChkAt w C m1 m2 pv g c n d)(i:n<=n'):ChkAt w C m1 m2 pv g c n' d:=
 ⟨h.blk,h.plen,h.map1.le i,h.map2.le i,h.ne,h.dom⟩
theorem qL {n:Nat}(h:n<=9000000):I64 (n:Int):=⟨by omega,by omega⟩
theorem blkF_eq{p:IProg}{b:IBlk}{d2:wO}(h1:vJ i b.params d=some d1)(h2:sS p i b.ops 0 d1=some d2):pS p bl i b d=if wn bl b.term then some d2 else none:=by
 unfold pS;rw[h1,Nw,h2,Nw]
theorem mS{p:IProg}{b:IBlk}(h1:vJ i b.params d=none):pS p bl i b d=none:=by
 unfold pS;rw[h1];rfl
theorem mm{p:IProg}{b:IBlk}(h1:vJ i b.params d=some d1)(h2:sS p i b.ops 0 d1=none):pS p bl i b d=none:=by
 unfold pS;rw[h1,Nw,h2];rfl
theorem lM{B:Nat}{V:PV}{p:IProg}{g1 d4:Value}(hp:ProgIn w B V p)(g0:wX w B g1 blocks)(hB:B<=w.heap.size)(h1:B<=m1)(h2:B<=m2)(hl:p.args.length=p.funcs.length)(hs:vZ blocks)
 (hc:ChkAt w C m1 m2 (rC V p) g1 d4 0 sy):
 Y 66 #[Q C] w (ShpPost w C m1 m2 (rC V p) g1 d4 (wg p blocks)):=by
 obtain⟨fa,fc,rfl,l3,l2⟩:=g0.form;have n2:blocks.length<=9223372036854775807:=Zo;have k1:=Ja g0;have m:=Ja (show ProgIn w B V p/\B<=w.heap.size/\B<=m1/\B<=m2/\p.args.length=p.funcs.length/\vZ blocks from⟨hp,hB,h1,h2,hl,hs⟩);have n3:=Ja hc.ne1;have n4:=Ja (Jb hc.map1.lt hc.map2.lt);have l9:=Ja hc;obtain⟨res,e5⟩:∃x,wg p blocks=x:=⟨_,rfl⟩
 rw[e5];have t:=Ja e5;have y6:G w C 6 (.slice fa blocks.length fc):=zA hc.blk rfl;clear hp g0 hB h1 h2 hl hs hc e5 l3 l2;go_enter Try.func66,Try.ntmps66;go_wp2
 go_loopw [15] (fun kv wx=>∃i:Nat,i<=blocks.length/\kv=A i/\Hid (Kept m1 m2 w wx/\∃d,ChkAt wx C m1 m2 (rC V p) (.slice fa blocks.length fc) d4 (i*4000000) d/\uH p blocks (blocks.take i) 0 sy=some d)) (fun kv _=>blocks.length-(intOf kv).toNat)
 case atStart=>exact⟨0,Jt _,rfl,Ja ⟨Kept.refl _ _ _,sy,l9.out,rfl⟩⟩
 case round=>
  obtain⟨i,hi,rfl,HI⟩:=hrel
  by_cases e8:i<blocks.length
  ·have k3:(i:Int)<blocks.length:=Zo;have k0:=Ja e8;obtain⟨bx,b3⟩:∃bx,blocks[i]? =some bx:=⟨_,Jd e8⟩
   obtain⟨fb,fo,rfl,d5,i7,a6,f8,pv,ov,tv,i4,i3,i2,f4,f6,f3⟩:=k1.out.get b3;obtain⟨pa,pc,rfl,k9,k7⟩:=f4.form;obtain⟨oa,oc,rfl,l1,l0⟩:=f6.form;obtain⟨ta,tc,rfl,k6,k5⟩:=f3.form;have n0:bx.params.length<=9223372036854775807:=Zo;have n1:bx.ops.length<=9223372036854775807:=Zo;have g:Below B w wr:=HI.out.1.below m.out.2.2.1 m.out.2.2.2.1 m.out.2.1;have e0:=zV g d5 i4;have e1:=zV g d5 i3;have e2:=zV g d5 i7;have e3:=zV g d5 a6;have e4:=zV g d5 i2;have u:=Ja (show blocks[i]? =some bx/\zY w B (.slice pa bx.params.length pc) bx.params/\mN w B (.slice oa bx.ops.length oc) bx.ops/\wH w B (.slice ta bx.term.to.length tc) bx.term.to/\(I64 bx.term.kind/\I64 bx.term.a) from⟨b3,f4,f6,f3,f8⟩);obtain⟨d,h,c⟩:=HI.out.2;have j0:=h.below ((Below.refl wr.heap.size wr).alloc (Je _) (U #[.slice pa bx.params.length pc,.slice oa bx.ops.length oc,A bx.term.kind,A bx.term.a,.slice ta bx.term.to.length tc] 49));have j5:=Ja (Jb h.map1.lt h.map2.lt);have a1:=Ja c;have f2:=zI (W:=wr) (o:=U #[.slice pa bx.params.length pc,.slice oa bx.ops.length oc,A bx.term.kind,A bx.term.a,.slice ta bx.term.to.length tc] 49) rfl;have i6:=HI.out.1.trans (Kept.of ((Below.refl wr.heap.size wr).alloc (Je _) (U #[.slice pa bx.params.length pc,.slice oa bx.ops.length oc,A bx.term.kind,A bx.term.a,.slice ta bx.term.to.length tc] 49)));clear b3 i7 a6 f8 i4 i3 i2 f4 f6 f3 k9 k7 l1 l0 k6 k5 g h c e8 y6;go_upto_region 4 with fail;generalize l6:wr.alloc (U #[.slice pa bx.params.length pc,.slice oa bx.ops.length oc,A bx.term.kind,A bx.term.a,.slice ta bx.term.to.length tc] 49)=W1 at *;generalize l:wr.heap.size=b4 at *;have z0:=K0 f2;have d6:=Ja (show L W1 b4 #[.slice pa bx.params.length pc,.slice oa bx.ops.length oc,A bx.term.kind,A bx.term.a,.slice ta bx.term.to.length tc] 49/\b4≠m1/\b4≠m2 from⟨f2,by have:=j5.out.1;omega,by have:=j5.out.2;omega⟩);have g5:=Ja i6;have l8:=Ja j0;have d7:=Ja (m.out.2.2.2.2.2.2 bx (Ji u.out.1));have f0:=Ja (show i<=2000000 from Jn hi m.out.2.2.2.2.2.1);clear l6 l f2 j0 i6 e0 e1 e2 e3 e4;go_wp2
   go_loopw [23] (fun jv wx=>∃j:Nat,j<=bx.params.length/\jv=A j/\Hid (Kept m1 m2 W1 wx/\∃d',ChkAt wx C m1 m2 (rC V p) (.slice (some ⟨fb,fo,none⟩) blocks.length fc) d4 (i*4000000+j) d'/\vJ i (bx.params.take j) d=some d')) (fun jv _=>bx.params.length-(intOf jv).toNat)
   case atStart=>exact⟨0,Jt _,rfl,Ja ⟨Kept.refl _ _ _,d,l8.out.le (cnt_0 i),rfl⟩⟩
   case round=>
    obtain⟨j,hj,rfl,HJ⟩:=hrel
    by_cases b1:j<bx.params.length
    ·have h5:(j:Int)<bx.params.length:=Zo;have g4:=Ja b1;obtain⟨v,hv⟩:∃v,bx.params[j]? =some v:=⟨_,Jd b1⟩
     obtain⟨qb,qo,rfl,y,e7,b7⟩:=u.out.2.1.get hv;rw[Nk] at e7;have g:Below B w wr:=(g5.out.trans HJ.out.1).below m.out.2.2.1 m.out.2.2.2.1 m.out.2.1;have cv:=zV g y e7;obtain⟨d',h,c⟩:=HJ.out.2;have HV:=Ja (show bx.params[j]? =some v/\vJ i (bx.params.take j) d=some d' from⟨hv,c⟩);have c9:I64 (i:Int):=qL (by have:=f0.out;omega);have c8:I64 (-1):=⟨by omega,by omega⟩
     cases a0:rB d' v i (-1) with
     |none=>
      have HD:=Ja a0;have d3:=Ja (oK h v i (-1) b7 c9 c8 a0);clear hv e7 y g h c a0 c9 c8 b1 b7 z0;go_wp2_with (go_at_call 97;go_must (refine d3.out.mono ?_;intro e w1 hh;obtain⟨rfl,hw⟩:=hh;rw[hw];clear hw))
      go_ret;refine⟨?_,g5.out.trans HJ.out.1,fun d2 hd2=>?_⟩
      ·rw[<-t.out,wS,abe u.out.1 a1.out (mS (qr HV.out.1 HV.out.2 HD.out))];rfl
      ·rw[<-t.out,wS,abe u.out.1 a1.out (mS (qr HV.out.1 HV.out.2 HD.out))] at hd2;cases hd2
     |some d2=>
      have HD:=Ja a0;have d3:=Ja (qk h (cnt_lt f0.out (Jn hj d7.out.1)) v i (-1) b7 c9 c8 a0);clear hv e7 y g h c a0 c9 c8 b1 b7 z0;go_wp2_with (go_at_call 97;go_must (refine d3.out.mono ?_;rintro e w1 ⟨rfl,b2,a6⟩))
      have d9:=Ja (Jb b2 a6);clear b2 a6;go_roundw
      case rel=>exact⟨j+1,g4.out,by go_num,Ja ⟨HJ.out.1.trans d9.out.2,d2,d9.out.1.le (cnt_1 i j),(aC HV.out.1 HV.out.2).trans HD.out⟩⟩
      case measure=>have:=g4.out;simp[intOf];omega
    ·obtain rfl:j=bx.params.length:=by omega
     have h5:¬(bx.params.length:Int)<bx.params.length:=Zo;obtain⟨d1,h,c⟩:=HJ.out.2;rw[Nl] at c;have g6:=Ja c;have f1:=Ja h;have a2:=HJ.out.1.blk d6.out.1 d6.out.2.1 d6.out.2.2;have z1:=K1 a2;have l7:=Ja a2;have b6:=Ja (g5.out.trans HJ.out.1);clear h c b1 a2 z0;generalize wr=W2 at *;go_wp2
     go_loopw [36] (fun kv wx=>∃k:Nat,k<=bx.ops.length/\kv=A k/\Hid (Kept m1 m2 W2 wx/\∃d',ChkAt wx C m1 m2 (rC V p) (.slice (some ⟨fb,fo,none⟩) blocks.length fc) d4 (i*4000000+2000000+k) d'/\sS p i (bx.ops.take k) 0 d1=some d')) (fun kv _=>bx.ops.length-(intOf kv).toNat)
     case atStart=>exact⟨0,Jt _,rfl,Ja ⟨Kept.refl _ _ _,d1,f1.out.le (cnt_2 d7.out.1),rfl⟩⟩
     case round=>
      obtain⟨k,hk,rfl,HK⟩:=hrel
      by_cases c7:k<bx.ops.length
      ·have h4:(k:Int)<bx.ops.length:=Zo;have d0:=Ja c7;obtain⟨o,ho⟩:∃o,bx.ops[k]? =some o:=⟨_,Jd c7⟩
       obtain⟨qb,qo,rfl,y,i1,i0,h9,h8,h7,f7,av,h6,j2⟩:=u.out.2.2.1.get ho;obtain⟨aa,ac,rfl,j3,j1⟩:=j2.form;have g:Below B w wr:=(b6.out.trans HK.out.1).below m.out.2.2.1 m.out.2.2.2.1 m.out.2.1;have c0:=zV g y i1;have c1:=zV g y i0;have c2:=zV g y h9;have c3:=zV g y h8;have c4:=zV g y h7;have c5:=zV g y h6;obtain⟨d',h,c⟩:=HK.out.2;have HV:=Ja (show bx.ops[k]? =some o/\sS p i (bx.ops.take k) 0 d1=some d' from⟨ho,c⟩);have g2:=Ja (show(I64 o.code/\I64 o.res/\I64 o.a/\I64 o.b/\o.n<65536)/\o.args.length<=ac/\ac<=9223372036854775807 from⟨f7,j3,j1⟩);have e6:=(Below.refl wr.heap.size wr).alloc (Je _) (U (D o aa ac) 77);have a3:=zI (W:=wr) (o:=U (D o aa ac) 77) rfl;have i5:=HK.out.1.trans (Kept.of e6);have f9:=h.below e6;have b3:Below B w (wr.alloc (U (D o aa ac) 77)):=g.alloc (Jn m.out.2.1 g.size) _;have g3:=Ja (Jb h.map1.lt h.map2.lt);clear ho i1 i0 h9 h8 h7 h6 f7 j2 j3 j1 g h c c7 z1;go_upto_region 13 with fail;generalize l5:wr.alloc (U (D o aa ac) 77)=W3 at *;generalize l4:wr.heap.size=b8 at *;have m7:=K0 a3;have m6:=K1 a3;have m5:=K2 a3;have m4:=K3 a3;have m3:=K4 a3;have m0:=K5 a3;have f5:=oper_any (m.out.1.below b3) (Jn m.out.2.1 b3.size) f9.blk m.out.2.2.2.2.1 o g2.out.1 aa ac g2.out.2;unfold opV at f5;have d8:=Ja f5;have e9:=Ja i5;have g9:=Ja f9;have b5:=Ja a3;have n5:=Ja (show b8≠m1/\b8≠m2 from⟨by have:=g3.out.1;omega,by have:=g3.out.2;omega⟩);clear f5 i5 f9 a3 l5 l4 b3 e6 c0 c1 c2 c3 c4 c5;obtain⟨q,hq⟩:∃q,opF p o=q:=⟨_,rfl⟩
       rw[hq] at d8;have HQ:=Ja hq;clear hq
       cases q with
       |false=>
        go_wp2_with (first|(go_at_call 98;go_must (refine d8.out.mono ?_;rintro e w4 ⟨rfl,l⟩))|go_in)
        go_ret
        have a5:wg p blocks=none:=by
         rw[wS];exact abe u.out.1 a1.out (mm g6.out (oR HV.out.1 HV.out.2 (by unfold ug;rw[HQ.out];rfl)))
        refine⟨?_,(b6.out.trans e9.out).trans (Kept.of l),fun d2 hd2=>?_⟩
        ·rw[<-t.out,a5];rfl
        ·rw[<-t.out,a5] at hd2;cases hd2
       |true=>
        by_cases hr:0<=o.res
        ·have t1:decide (0<=o.res)=true:=decide_eq_true hr;have HR:=Ja hr;obtain⟨r,a0⟩:∃r,rB d' o.res i k=r:=⟨_,rfl⟩
         have HD:=Ja a0;have h64:=Ja (show I64 o.res/\I64 (i:Int)/\I64 (k:Int) from⟨g2.out.1.2.1,qL (Jn f0.out Zd),qL (Jn (Jn hk d7.out.2.1) Zd)⟩);clear hr a0
         cases r with
         |none=>
          go_wp2_with (first|(go_at_call 98;go_must (refine d8.out.mono ?_;rintro e w4 ⟨rfl,l⟩;have a7:=g9.out.below l;have a4:=zH l b5.out (lt_of_block b5.out);have u1:=K1 a4;have b0:=Ja (Jb a7 l);clear a7 l a4))|(go_at_call 97;go_must (refine(oK b0.out.1 o.res i k h64.out.1 h64.out.2.1 h64.out.2.2 HD.out).mono ?_;intro e w5 hh;obtain⟨rfl,hw⟩:=hh;rw[hw];clear hw))|go_in)
          go_ret
          have a5:wg p blocks=none:=by
           rw[wS];exact abe u.out.1 a1.out (mm g6.out (oR HV.out.1 HV.out.2 (by unfold ug;rw[HQ.out,if_pos rfl,if_pos HR.out,HD.out])))
          refine⟨?_,(b6.out.trans e9.out).trans (Kept.of b0.out.2),fun d2 hd2=>?_⟩
          ·rw[<-t.out,a5];rfl
          ·rw[<-t.out,a5] at hd2;cases hd2
         |some d2=>
          go_wp2_with (first|(go_at_call 98;go_must (refine d8.out.mono ?_;rintro e w4 ⟨rfl,l⟩;have a7:=g9.out.below l;have a4:=zH l b5.out (lt_of_block b5.out);have u1:=K1 a4;have b0:=Ja (Jb a7 l);clear a7 l a4))|(go_at_call 97;go_must (refine(qk b0.out.1 (cnt_lt2 f0.out (Jn hk d7.out.2.1)) o.res i k h64.out.1 h64.out.2.1 h64.out.2.2 HD.out).mono ?_;rintro e w5 ⟨rfl,b2,a6⟩;have d9:=Ja (Jb b2 a6);clear b2 a6))|go_in)
          go_roundw
          case rel=>exact⟨k+1,d0.out,by go_num,Ja ⟨(e9.out.trans (Kept.of b0.out.2)).trans d9.out.2,d2,d9.out.1.le (cnt_3 i k),(cK HV.out.1 HV.out.2).trans (by unfold ug;rw[HQ.out,if_pos rfl,if_pos HR.out,HD.out])⟩⟩
          case measure=>have:=d0.out;simp[intOf];omega
        ·have t1:decide (0<=o.res)=false:=decide_eq_false hr;have HR:=Ja hr;clear hr;go_wp2_with (first|(go_at_call 98;go_must (refine d8.out.mono ?_;rintro e w4 ⟨rfl,l⟩;have a7:=g9.out.below l;have a4:=zH l b5.out (lt_of_block b5.out);have u1:=K1 a4;have b0:=Ja (Jb a7 l);clear a7 l a4))|go_in)
         go_roundw
         case rel=>exact⟨k+1,d0.out,by go_num,Ja ⟨e9.out.trans (Kept.of b0.out.2),d',b0.out.1.le (cnt_3' i k),(cK HV.out.1 HV.out.2).trans (by unfold ug;rw[HQ.out,if_pos rfl,if_neg (by have:=HR.out;omega)])⟩⟩
         case measure=>have:=d0.out;simp[intOf];omega
      ·obtain rfl:k=bx.ops.length:=by omega
       have h4:¬(bx.ops.length:Int)<bx.ops.length:=Zo;obtain⟨d2,h,c⟩:=HK.out.2;rw[Nl] at c;have a2:=HK.out.1.blk l7.out d6.out.2.1 d6.out.2.2;have z2:=K2 a2;have z3:=K3 a2;have z4:=K4 a2;have g:Below B w wr:=(b6.out.trans HK.out.1).below m.out.2.2.1 m.out.2.2.2.1 m.out.2.1;have b9:=term_any (k1.out.below yT g) (Jn m.out.2.1 g.size) h.blk rfl bx.term u.out.2.2.2.2 (u.out.2.2.2.1.below xL g);have h0:=Ja (blkF_eq (p:=p) (bl:=blocks) g6.out c);obtain⟨q,hq⟩:∃q,wn blocks bx.term=q:=⟨_,rfl⟩
       rw[hq] at b9 h0;have j4:=Ja b9;have k4:=Ja h;clear h c a2 g b9 hq c7 z1
       cases q with
       |false=>
        go_wp2_with (first|(go_at_call 99;go_must (refine j4.out.mono ?_;rintro e w4 ⟨rfl,l⟩))|go_in)
        go_ret
        have a5:wg p blocks=none:=by
         rw[wS];exact abe u.out.1 a1.out (by rw[h0.out];rfl)
        refine⟨?_,(b6.out.trans HK.out.1).trans (Kept.of l),fun d2 hd2=>?_⟩
        ·rw[<-t.out,a5];rfl
        ·rw[<-t.out,a5] at hd2;cases hd2
       |true=>
        go_wp2_with (first|(go_at_call 99;go_must (refine j4.out.mono ?_;rintro e w4 ⟨rfl,l⟩))|go_in)
        have k2:=Ja l;clear l;go_roundw
        case rel=>exact⟨i+1,k0.out,by go_num,Ja ⟨(b6.out.trans HK.out.1).trans (Kept.of k2.out),d2,(k4.out.below k2.out).le (cnt_4 d7.out.2.1),(lQ u.out.1 a1.out).trans (by rw[h0.out];rfl)⟩⟩
        case measure=>have:=k0.out;simp[intOf];omega
  ·obtain rfl:i=blocks.length:=by omega
   have k3:¬(blocks.length:Int)<blocks.length:=Zo;obtain⟨d,h,c⟩:=HI.out.2;rw[Nl] at c;have f1:=Ja (Jb h c);clear h c e8;go_wp2;go_ret;have hr:res=some d:=by rw[<-t.out,wS,f1.out.2]
   rw[hr];refine⟨rfl,HI.out.1,fun d2 hd2=>?_⟩;cases hd2;exact⟨_,cnt_lt m.out.2.2.2.2.2.1 (Jt _),f1.out.1.le (cnt_0 _)⟩
def xT (t:ITerm)(k:Nat):List Int:=((t.to.take k).map (·.args)).flatten
theorem u7{e:IEdge}(h:t.to[k]? =some e):xT t (k+1)=xT t k++e.args:=by
 unfold xT;rw[Nh,h,Js,List.flatten_append];simp
theorem tP(h:∀e∈t.to,e.args.length<=2000000):∀k,k<=t.to.length->(xT t k).length<=k*2000000
 |0,_=>Jt _
 |k+1,hk=>by
  obtain⟨e,he⟩:∃e,t.to[k]? =some e:=⟨_,Jd Zo⟩
  rw[u7 he,Jk];have:=tP h k Zo;have:=h e (Ji he);omega
theorem si (t:ITerm):xT t t.to.length=(t.to.map (·.args)).flatten:=by unfold xT;rw[Nl]
theorem my:∀b2 b3 b4 b5:Bool,(b2||(b3||b4 && b5))=true->(b2=true)∨(b2=false/\b3=true)∨(b2=false/\b3=false/\b4=true/\b5=true)
 |true,_,_,_,_=> .inl rfl
 |false,true,_,_,_=> .inr (.inl ⟨rfl,rfl⟩)
 |false,false,true,true,_=> .inr (.inr ⟨rfl,rfl,rfl,rfl⟩)
theorem lB:∀b2 b3 b4 b5:Bool,(b2||(b3||b4 && b5))=false->(b2=false/\b3=false/\b4=false)∨(b2=false/\b3=false/\b4=true/\b5=false)
 |false,false,false,_,_=> .inl ⟨rfl,rfl,rfl⟩
 |false,false,true,false,_=> .inr ⟨rfl,rfl,rfl,rfl⟩
structure EndsMem (w wx:World) (xs:List Int) (v:Value):Prop where
 below:Below w.heap.size w wx
 own:wx.ownsRow w.heap.size 3 1 v xs.length (xs.map zN)
theorem ends_1(t:ITerm)(ht:I64 t.kind/\I64 t.a){tv:Value}{B:Nat}(hB:B<=w.heap.size)(a0:wH w B tv t.to)(b1:t.to.length<=2000000/\∀e∈t.to,e.args.length<=2000000)(hh:ut t=true):
 Y 71 #[.agg #[A t.kind,A t.a,tv]] w (wG w ([t.a]++(t.to.map (·.args)).flatten)):=by
 obtain⟨ta,tc,rfl,d6,d5⟩:=a0.form;obtain⟨ii,c0,a5,a4,a3⟩:=info_parts Try.info_int;have e5:t.to.length<=9223372036854775807:=Zo
 have h64:∀x∈ [t.a]++(t.to.map (·.args)).flatten,I64 x:=by
  intro x hx;rcases Jl.1 hx with hx|hx
  ·simp at hx;rw[hx];exact ht.2
  ·obtain⟨l,hl,d4⟩:=List.mem_flatten.1 hx;obtain⟨e,he,rfl⟩:=Nu.1 hl;obtain⟨k,hk⟩:=Ny he;obtain⟨b,o,_,_,_,_,av,_,r⟩:=a0.get hk;exact zY.all r x d4
 have d1:=Ja h64;unfold ut at hh;obtain⟨tk,b9⟩:∃x,t.kind=x:=⟨_,rfl⟩
 obtain⟨tA,a7⟩:∃x,t.a=x:=⟨_,rfl⟩
 rw[b9,a7] at hh ht ⊢
 try rw[a7] at d1
 obtain⟨b2,g2⟩:∃q,decide (tk=2)=q:=⟨_,rfl⟩
 obtain⟨b3,g3⟩:∃q,decide (tk=3)=q:=⟨_,rfl⟩
 obtain⟨b4,g4⟩:∃q,decide (tk=4)=q:=⟨_,rfl⟩
 obtain⟨b5,g5⟩:∃q,decide (tA≠-1)=q:=⟨_,rfl⟩
 rw[g2,g3,g4,g5] at hh;have t2:(tk==2)=b2:=vg g2;have t3:(tk==3)=b3:=vg g3;have t4:(tk==4)=b4:=vg g4;have t5:(tA !=-1)=b5:=by rw[<-g5,bne];by_cases h:tA=-1<;>simp[h]
 have g:=Ja (show wH w B (.slice ta t.to.length tc) t.to/\B<=w.heap.size/\t.to.length<=2000000/\∀e∈t.to,e.args.length<=2000000 from⟨a0,hB,b1⟩);have HT:=Ja ht;have j:=zI (W:=w) (o:=U #[A tk,A tA,.slice ta t.to.length tc] 47) rfl;have c8:F w (w.alloc (U #[A tk,A tA,.slice ta t.to.length tc] 47)):=(Below.refl _ _).alloc (Je _) _;clear a0 hB b1 ht d6 d5 g2 g3 g4 g5 b9 a7 h64;have d7:=my b2 b3 b4 b5 hh;clear hh;rcases d7 with rfl|⟨rfl,rfl⟩|⟨rfl,rfl,rfl,rfl⟩
 all_goals (
  go_enter Try.func71,Try.ntmps71;go_upto_region 2 with fail;generalize e3:w.alloc (U #[A tk,A tA,.slice ta t.to.length tc] 47)=W0 at *;have y0:=K0 j;have y1:=K1 j;have y2:=K2 j;have H0:=Ja (show F w W0/\L W0 w.heap.size #[A tk,A tA,.slice ta t.to.length tc] 47 from⟨c8,j⟩);clear e3 j c8;have own0:W0.ownsRow w.heap.size 3 1 (O) 0 []:=Jv W0 _ _ _;have i:=Ja own0;clear own0;go_upto_region 4 with(at_builtin;go_must (refine zK _ rfl (.tmp 24) (.tmp 27) 22 rfl w.heap.size 3 ii (A 0) 1 8 Try.underlying22 c0 a5 a4 a3 rfl Zd (O) 0 [] rfl (i.out.alloc _) _ 1 [A tA] rfl (yM.one (zI Zs) (by simp[Value.oneCell'])) Zd Zd (by have:=H0.out.1.size;simp;omega) ?_;intro v0 W1 c d b7))
  have c5:F w W1:=yP (H0.out.1.alloc H0.out.1.size _) d (by have:=H0.out.1.size;simp;omega) (wF i.out);have a6:=zL d (zB H0.out.2) (zC i.out H0.out.2 (.inr Zd));have z2:=K2 a6;have HS:=Ja (show EndsMem w W1 ([tA]++xT t 0) v0 from⟨c5,c⟩);have e6:=Ja a6;clear c5 a6 c d b7 y0 y1 y2;go_wp2
  go_loopw [3,32] (fun lv kv wx=>∃k:Nat,k<=t.to.length/\kv=A k/\Hid (EndsMem w wx ([tA]++xT t k) lv)) (fun _ kv _=>t.to.length-(intOf kv).toNat)
  case atStart=>exact⟨0,Jt _,rfl,HS⟩
  case round=>
   obtain⟨k,hk,rfl,HK⟩:=hrel
   by_cases a2:k<t.to.length
   ·have d2:(k:Int)<t.to.length:=Zo;have d0:=Ja a2;obtain⟨e,he⟩:∃e,t.to[k]? =some e:=⟨_,Jd a2⟩
    obtain⟨eb,eo,rfl,c2,c4,d3,av,c3,r⟩:=g.out.1.get he;obtain⟨aa,ac,rfl,d9,d8⟩:=r.form;have b6:=HK.out.below.mono g.out.2.1;have e0:=zV b6 c2 c4;have e1:=zV b6 c2 c3;have HE:=Ja (show t.to[k]? =some e/\zY w B (.slice aa e.args.length ac) e.args from⟨he,r⟩);clear he c4 c3 d3 r d9 d8 b6 a2 z2;have b8:=zI (W:=wr) (o:=U #[A e.block,.slice aa e.args.length ac] 75) rfl;have y:=HK.out.below.alloc HK.out.below.size (U #[A e.block,.slice aa e.args.length ac] 75);have a1:=HK.out.own.alloc (U #[A e.block,.slice aa e.args.length ac] 75);have b0:=zY.src (HE.out.2.below zO (y.mono g.out.2.1));go_upto_region 7 with fail;generalize e2:wr.alloc (U #[A e.block,.slice aa e.args.length ac] 75)=W2 at *;generalize wr.heap.size=b5 at *;have z51:=K1 b8
    have m:([tA]++xT t k).length+e.args.length<=6000000000000:=by
     have h1:=tP g.out.2.2.2 k hk;have h2:=g.out.2.2.1;have h3:=g.out.2.2.2 e (Ji HE.out.1);rw[Jk];simp only[Nq,Ow];omega
    have u:=Ja (show _/\_ from⟨m,y⟩);have c9:=Ja a1;have e4:=Ja b0;clear m a1 b0 y b8 e2 e0 e1;go_wp2_with (at_builtin;go_must (refine zK _ rfl (.tmp 36) (.tmp 38) 22 rfl w.heap.size 3 ii (A 0) 1 8 Try.underlying22 c0 a5 a4 a3 rfl Zd _ ([tA]++xT t k).length (([tA]++xT t k).map zN) rfl c9.out _ e.args.length (e.args.map zN) rfl e4.out (by have:=u.out.1;unfold maxLen;omega) (by have:=u.out.1;omega) u.out.2.size ?_;intro v9 w9 c d b7))
    have c7:=yP u.out.2 d u.out.2.size (wF c9.out);have HN:=Ja (Jb c7 c);clear c d b7 c7;go_roundw
    case rel=>
     refine⟨k+1,d0.out,by go_num,Ja ⟨HN.out.1,?_⟩⟩;rw[u7 HE.out.1,<-Nv,Jk (bs:=e.args),Js (l₂:=e.args)];exact HN.out.2
    case measure=>have:=d0.out;simp[intOf];omega
   ·obtain rfl:k=t.to.length:=by omega
    have d2:¬(t.to.length:Int)<t.to.length:=Zo;clear a2 z2;go_wp2;go_ret;have c:=HK.out.own;rw[si] at c
    exact⟨_,rfl,uA c rfl d1.out,HK.out.below⟩)
theorem ends_0(t:ITerm)(ht:I64 t.kind/\I64 t.a){tv:Value}{B:Nat}(hB:B<=w.heap.size)(u:wH w B tv t.to)(a4:t.to.length<=2000000/\∀e∈t.to,e.args.length<=2000000)(hh:ut t=false):
 Y 71 #[.agg #[A t.kind,A t.a,tv]] w (wG w (([]:List Int)++(t.to.map (·.args)).flatten)):=by
 obtain⟨ta,tc,rfl,d1,d0⟩:=u.form;obtain⟨ii,d2,c5,c4,c3⟩:=info_parts Try.info_int;have e2:t.to.length<=9223372036854775807:=Zo
 have h64:∀x∈([]:List Int)++(t.to.map (·.args)).flatten,I64 x:=by
  intro x hx;rcases Jl.1 hx with hx|hx
  ·simp at hx
  ·obtain⟨l,hl,c9⟩:=List.mem_flatten.1 hx;obtain⟨e,he,rfl⟩:=Nu.1 hl;obtain⟨k,hk⟩:=Ny he;obtain⟨b,o,_,_,_,_,av,_,j⟩:=u.get hk;exact zY.all j x c9
 have c2:=Ja h64;unfold ut at hh;obtain⟨tk,a7⟩:∃x,t.kind=x:=⟨_,rfl⟩
 obtain⟨tA,a2⟩:∃x,t.a=x:=⟨_,rfl⟩
 rw[a7,a2] at hh ht ⊢
 try rw[a2] at c2
 obtain⟨b2,g2⟩:∃q,decide (tk=2)=q:=⟨_,rfl⟩
 obtain⟨b3,g3⟩:∃q,decide (tk=3)=q:=⟨_,rfl⟩
 obtain⟨b4,g4⟩:∃q,decide (tk=4)=q:=⟨_,rfl⟩
 obtain⟨b5,g5⟩:∃q,decide (tA≠-1)=q:=⟨_,rfl⟩
 rw[g2,g3,g4,g5] at hh;have t2:(tk==2)=b2:=vg g2;have t3:(tk==3)=b3:=vg g3;have t4:(tk==4)=b4:=vg g4;have t5:(tA !=-1)=b5:=by rw[<-g5,bne];by_cases h:tA=-1<;>simp[h]
 have d:=Ja (show wH w B (.slice ta t.to.length tc) t.to/\B<=w.heap.size/\t.to.length<=2000000/\∀e∈t.to,e.args.length<=2000000 from⟨u,hB,a4⟩);have HT:=Ja ht;have g:=zI (W:=w) (o:=U #[A tk,A tA,.slice ta t.to.length tc] 47) rfl;have b8:F w (w.alloc (U #[A tk,A tA,.slice ta t.to.length tc] 47)):=(Below.refl _ _).alloc (Je _) _;clear u hB a4 ht d1 d0 g2 g3 g4 g5 a7 a2 h64;have d3:=lB b2 b3 b4 b5 hh;clear hh;rcases d3 with⟨rfl,rfl,rfl⟩|⟨rfl,rfl,rfl,rfl⟩
 all_goals (
  go_enter Try.func71,Try.ntmps71;go_upto_region 2 with fail;generalize d8:w.alloc (U #[A tk,A tA,.slice ta t.to.length tc] 47)=W0 at *;have y0:=K0 g;have y1:=K1 g;have y2:=K2 g;have H0:=Ja (show F w W0/\L W0 w.heap.size #[A tk,A tA,.slice ta t.to.length tc] 47 from⟨b8,g⟩);clear d8 g b8;go_upto_region 4 with fail;have z2:=y2;have HS:=Ja (show EndsMem w W0 (([]:List Int)++xT t 0) (O) from⟨H0.out.1,Jv W0 _ _ _⟩);have e3:=Ja H0.out.2;generalize W0=W1 at *;clear y0 y1 y2;go_wp2
  go_loopw [3,32] (fun lv kv wx=>∃k:Nat,k<=t.to.length/\kv=A k/\Hid (EndsMem w wx (([]:List Int)++xT t k) lv)) (fun _ kv _=>t.to.length-(intOf kv).toNat)
  case atStart=>exact⟨0,Jt _,rfl,HS⟩
  case round=>
   obtain⟨k,hk,rfl,HK⟩:=hrel
   by_cases a0:k<t.to.length
   ·have c7:(k:Int)<t.to.length:=Zo;have c0:=Ja a0;obtain⟨e,he⟩:∃e,t.to[k]? =some e:=⟨_,Jd a0⟩
    obtain⟨eb,eo,rfl,b0,b6,c8,av,b1,j⟩:=d.out.1.get he;obtain⟨aa,ac,rfl,d6,d5⟩:=j.form;have a5:=HK.out.below.mono d.out.2.1;have e0:=zV a5 b0 b6;have e1:=zV a5 b0 b1;have HE:=Ja (show t.to[k]? =some e/\zY w B (.slice aa e.args.length ac) e.args from⟨he,j⟩);clear he b6 b1 c8 j d6 d5 a5 a0 z2;have a6:=zI (W:=wr) (o:=U #[A e.block,.slice aa e.args.length ac] 75) rfl;have r:=HK.out.below.alloc HK.out.below.size (U #[A e.block,.slice aa e.args.length ac] 75);have y:=HK.out.own.alloc (U #[A e.block,.slice aa e.args.length ac] 75);have a3:=zY.src (HE.out.2.below zO (r.mono d.out.2.1));go_upto_region 7 with fail;generalize d7:wr.alloc (U #[A e.block,.slice aa e.args.length ac] 75)=W2 at *;generalize wr.heap.size=b5 at *;have z51:=K1 a6
    have i:(([]:List Int)++xT t k).length+e.args.length<=6000000000000:=by
     have h1:=tP d.out.2.2.2 k hk;have h2:=d.out.2.2.1;have h3:=d.out.2.2.2 e (Ji HE.out.1);rw[Jk];simp only[Nq,Ow];omega
    have m:=Ja (show _/\_ from⟨i,r⟩);have b9:=Ja y;have d9:=Ja a3;clear i y a3 r a6 d7 e0 e1;go_wp2_with (at_builtin;go_must (refine zK _ rfl (.tmp 36) (.tmp 38) 22 rfl w.heap.size 3 ii (A 0) 1 8 Try.underlying22 d2 c5 c4 c3 rfl Zd _ (([]:List Int)++xT t k).length ((([]:List Int)++xT t k).map zN) rfl b9.out _ e.args.length (e.args.map zN) rfl d9.out (by have:=m.out.1;unfold maxLen;omega) (by have:=m.out.1;omega) m.out.2.size ?_;intro v9 w9 c a1 d4))
    have b7:=yP m.out.2 a1 m.out.2.size (wF b9.out);have HN:=Ja (Jb b7 c);clear c a1 d4 b7;go_roundw
    case rel=>
     refine⟨k+1,c0.out,by go_num,Ja ⟨HN.out.1,?_⟩⟩;rw[u7 HE.out.1,<-Nv,Jk (bs:=e.args),Js (l₂:=e.args)];exact HN.out.2
    case measure=>have:=c0.out;simp[intOf];omega
   ·obtain rfl:k=t.to.length:=by omega
    have c7:¬(t.to.length:Int)<t.to.length:=Zo;clear a0 z2;go_wp2;go_ret;have c:=HK.out.own;rw[si] at c
    exact⟨_,rfl,uA c rfl c2.out,HK.out.below⟩)
theorem ends_any(t:ITerm)(g:I64 t.kind/\I64 t.a){tv:Value}{B:Nat}(hB:B<=w.heap.size)(d:wH w B tv t.to)(c:t.to.length<=2000000/\∀e∈t.to,e.args.length<=2000000):
 Y 71 #[.agg #[A t.kind,A t.a,tv]] w (wG w (mE t)):=by
 unfold mE;cases h:ut t
 ·exact ends_0 t g hB d c h
 ·exact ends_1 t g hB d c h
end Go.Proofs.Ytojclalkfhoooaa
set_option maxRecDepth 8000
namespace Go.Proofs.Ytojclalkfhoooaa
open Go.RowKit Go.Shelf
variable {w w' w0:World}{K:MK}{m:Mach}{t:ITerm}{bl blocks:List IBlk}{c i oa ob:Int}{C bs j k m1 m2 n' on r vb vn x:Nat}{g:List (List Nat)}{o:IOp}{P:Program}{l:List IOp}{d d' d1:wO}{ns:List Nat}{seen:List Bool}{wv:Value}
def j6 (w:World)(xs:List Int)(e:Ending)(w':World):Prop:=∃v,e=.returned v/\w'.ownsRow w.heap.size 3 1 v xs.length (xs.map zN)/\F w w'
theorem lI (g:List (List Nat))(c:List Nat):(un g c).length=g.length:=by
 have h1:∀(l:List Nat) (P:List (List Nat)) (n:Nat),(l.foldl (xS n) P).length=P.length:=by
  intro l
  induction l with
  |nil=>intros;rfl
  |cons a l ih=>intro P n;rw[Qk,ih];simp[xS]
 have h2:∀(l:List Nat) (P:List (List Nat)),(l.foldl (yh g) P).length=P.length:=by
  intro l
  induction l with
  |nil=>intros;rfl
  |cons a l ih=>intro P;rw[Qk,ih];unfold yh;rw[h1]
 unfold un;rw[h2];simp
theorem oS(hr:∀row∈g,row.length<=2000000){c:List Nat}(ho:c.length<=2000000):∀row∈un g c,row.length<=4000004000000:=by
 intro row d;have:=rj g 2000000 hr c (List.replicate g.length []) 0 (by intro r hr;rw[(List.mem_replicate.1 hr).2];simp) row d;have h2:c.length*2000000<=2000000*2000000:=Qw _ ho;omega
theorem pz {c:List (List Nat)}{f:Int->Int}:∀ {ns:List Nat} {idom idom':List Int} {ch ch':Bool},ny c f ns idom ch idom' ch'->idom'.length=idom.length
 | [],_,_,_,_,h=>by rw[h.1]
 |n::ns,idom,idom',ch,ch',⟨pr,d,old,_,_,_,_,h⟩=>by
  rcases h with⟨_,h⟩|⟨_,h⟩
  ·exact pz h
  ·have:=pz h;simpa using this
theorem jF{c:List (List Nat)}{f:Int->Int}:∀ {k:Nat} {idom idom':List Int},ip c f ns k idom idom'->idom'.length=idom.length
 |0,_,_,h=>h.elim
 |k+1,idom,idom',⟨i1,ch,h1,h2⟩=>by
  have e:=pz h1;rcases h2 with⟨_,rfl⟩|⟨_,h2⟩
  ·exact e
  ·rw[jF h2,e]
theorem eL.len{c:List Int}(h:eL g ns c)(hg:0<g.length):c.length=g.length:=by
 obtain⟨k,h⟩:=h;rw[jF h];simp;omega
theorem pe (w:World)(C bv:Nat)(g:List (List Nat))(hv:zw g)(d:g.length<=2000000)(hr:∀row∈g,row.length<=2000000)(ns:List Nat)(i:tV g (0::ns))(c:List Int)(hD:eL g ns c)
 (j:C<=w.heap.size) (h:oN w C bv (0::ns) (atF (0::ns) (0::ns).length) (un g (0::ns))):
 Y 102 #[Q bv,A (g.length:Int)] w fun e w'=>∃b,e=.returned (N b g.length g.length)/\w.heap.size<=b/\L w' b (c.map (Value.int .i64)).toArray 3/\F w w':=by
 obtain⟨h1,h2⟩:=i.nodes hv;obtain⟨k,hD⟩:=hD;simp only[Nq] at h1;exact qQ w C bv g.length (0::ns) _ _ j h hv.1 d ns rfl (fun x hx=>h2 x (by simp[hx])) Zo (lI _ _) (oS hr Zt) k c hD
theorem tw (w:World)(sv:Value)(g:List (List Nat))(B:Nat)(hB:B<=w.heap.size)(h:aaB zj w B sv g)(hv:zw g)(hn:g.length<=2000000)(hr:∀row∈g,row.length<=2000000)(ns:List Nat)(hF:tV g (0::ns))(c:List Int)(hD:eL g ns c):
 Y 67 #[.agg #[sv]] w (j6 w (c.set 0 (-1))):=by
 obtain⟨a,cap,rfl,a3⟩:=h.form;have l:F w (w.alloc (U #[.slice a g.length cap] 93)):=(Below.refl _ _).alloc (Je _) _;have HL:=Ja (hD.len hv.1);have HV:=Ja hv;have HR:=Ja hr;have HF:=Ja hF;have HD:=Ja hD;have cg:G (w.alloc (U #[.slice a g.length cap] 93)) w.heap.size 0 (.slice a g.length cap):=cell_of_one (zI rfl);have a5:=hv.1;clear hv hr hF hD;go_enter Try.func67,Try.ntmps67;go_wp2_with (go_at_call 100;go_must (refine(tK _ _ g B Zt (h.below (l.mono hB)) HV.out hn HR.out).mono ?_;rintro e w1 ⟨rfl,d⟩;obtain⟨k,t⟩:=bcell d))
 generalize u:w.alloc (U #[.slice a g.length cap] 93)=W0 at cg d k t ⊢;have r:=Ja u;have lg:w.heap.size<W0.heap.size:=Jw W0 _ cg;have b0:=(k _ 0 lg).trans cg;have o:Below (w.heap.size+1) W0 w1:=d.mono Zo;clear u l k t cg d
 go_cut [3] (fun s wx=>∃b,s=N b g.length g.length/\Hid (L wx b (c.map (Value.int .i64)).toArray 3/\w.heap.size<=b/\F w wx))
 case first=>
  go_region_held3 (fun w'=>G w' w.heap.size 0 (.slice a g.length cap)/\Below (w.heap.size+1) W0 w')
   (first
     |(go_split_ands;refine⟨?_,?_⟩<;>assumption)
     |(go_split_ands;refine⟨?_,uG ?_⟩<;>assumption)
     |(go_split_ands;exact oY ‹_› ‹_› Zz Zz))
   (first
     |(go_at_call 101;refine(view_any _ _ g B (o7 hB r (by repeat' (first|assumption|(with_reducible refine Below.drew ?_)))) (nP h hB r (by repeat' (first|assumption|(with_reducible refine Below.drew ?_)))) HV.out hn HR.out (0::ns) HF.out).mono ?_;rintro e w2 ⟨bv,rfl,a6,hV,m⟩)
     |(go_at_call 102;refine(pe _ _ bv g HV.out hn HR.out ns HF.out c HD.out (Je _) hV).mono ?_;rintro e w3 ⟨b,rfl,a7,y,a1⟩))
  all_goals
   go_wp2_with fail;go_meet
   have a0:Below (w.heap.size+1) W0 w3:=by
    repeat' (first|assumption|(with_reducible refine Below.drew ?_)|(refine Below.trans ?_ (Below.mono a1 ?_))|(refine Below.trans ?_ (Below.mono m ?_))|omega)
    all_goals (have:=m.size;have:=o.size;simp at *;omega)
   have a4:=m.size;have a2:=o.size;exact⟨b,rfl,y,by simp at *;omega,ww rfl r a0⟩
 case rest=>
  obtain⟨b,rfl,j⟩:=hcut;have hl:=HL.out
  have cb:∃x,G wc b 0 (A x):=by
   obtain⟨x,hx⟩:∃x,c[0]? =some x:=⟨_,Jd Zo⟩
   exact⟨x,zA j.out.1 (by simp[hx])⟩
  obtain⟨x,cb⟩:=cb;have fb:T wc b 0:=zE j.out.1;go_wp2_with fail;go_ret;refine⟨_,rfl,?_,j.out.2.2.setCell (by simpa using j.out.2.1) _⟩;have hs:=zD (i:=0) j.out.1 (A (-1));refine⟨by simp,.inr ⟨b,g.length,_,by simp[hl],j.out.2.1,hs,by simp[hl],by unfold maxLen;omega,by simp[hl],?_⟩⟩;simp only[Ox,Nd,hl,Nk,Jc,List.toList_toArray];rw[Oy (by simp[hl])];rfl
end Go.Proofs.Ytojclalkfhoooaa
set_option maxRecDepth 8000
namespace Go.Proofs.Ytojclalkfhoooaa
open Go.RowKit
variable {w w' w0:World}{K:MK}{m:Mach}{t:ITerm}{bl blocks:List IBlk}{c i oa ob:Int}{C bs j k m1 m2 n' on r vb vn x:Nat}{g:List (List Nat)}{o:IOp}{P:Program}{l:List IOp}{d d' d1:wO}{ns:List Nat}{seen:List Bool}{wv:Value}
structure FMem (w0 w:World) (bs:Nat) (seen:List Bool) (wv:Value) (work:List Nat):Prop where
 hs:w.heap[bs]? =some (.cells (seen.map uo).toArray 4 (0,0))
 hp:w.ownsRow (bs+1) 3 1 wv work.length (work.map zj)
 hb:Below bs w0 w
theorem FMem.mark{n:Nat}{work:List Nat}(h:FMem w0 w bs seen wv work):FMem w0 (w.setCell ⟨bs,n,none⟩ (.bool true)) bs (seen.set n true) wv work:=by
 obtain⟨hs,hp,hb⟩:=h;refine⟨?_,ownsRow_setCell_other hp (zC (b:=bs) hp hs (.inr Zd)) _,hb.setCell (show bs<=bs from Je _) _⟩;rw[zD hs];simp[uo,Ox]
theorem FMem.push{w2:World}{c:Value}{d work':List Nat}(h:FMem w0 w bs seen wv d)(o:Obj)(hg:(w.alloc o).grownBy w2 wv.ownBlock)(ho:w2.ownsRow (bs+1) 3 1 c work'.length (work'.map zj)):FMem w0 w2 bs seen c work':=by
 obtain⟨hs,hp,hb⟩:=h;have hl:=lt_of_block hs;exact⟨zL hg (zB hs) (zC (b:=bs) hp hs (.inr Zd)),ho,(hb.alloc Zo o).grown hg Zt (fun k e=>by have:=(hp.lt k e).1;omega)⟩
theorem FMem.pop{g cap:Nat}{st:List Nat}(h:FMem w0 w bs seen (N g (st.length+1) cap) (st++ [x])):FMem w0 w bs seen (N g st.length cap) st:=by
 obtain⟨hs,hp,hb⟩:=h;simp only[Jk,Ju,Js,Ql,List.map_nil] at hp;exact⟨hs,bH hp,hb⟩
theorem dP (n:Nat):ey (List.replicate n false)=n:=by simp[ey]
def cE (w:World)(F:List Bool)(e:Ending)(w':World):Prop:=∃bs,e=.returned (N bs F.length F.length)/\w.heap.size<=bs/\L w' bs (F.map uo).toArray 4/\Below w.heap.size w w'
theorem from_any (w:World)(sv:Value)(g:List (List Nat))(B:Nat)(hB:B<=w.heap.size)(h:aaB zj w B sv g)(hv:zw g)(hn:g.length<=2000000)(hr:∀row∈g,row.length<=2000000)(fr:Nat)(b8:fr<g.length)(out:Int)(F:List Bool)(hF:iK g fr out F):
 Y 106 #[.agg #[sv],A fr,A out] w (cE w F):=by
 obtain⟨a,cap,rfl,f4⟩:=h.form;obtain⟨ii,d8,d3,d2,d1⟩:=info_parts Try.info_int;have cg:G (w.alloc (U #[.slice a g.length cap] 93)) w.heap.size 0 (.slice a g.length cap):=cell_of_one (zI rfl);have HV:=Ja hv;have HR:=Ja hr;have HF:=Ja hF;clear hv hr hF;have g3:=run_make_row' (P:=Try.prog) 141 4 (.bool false) 1 Try.underlying141 Try.info_bool rfl .i64 .i64 g.length Zo Zo;rcases HF.out with⟨a4,c7⟩|⟨a4,k0,c5⟩
 ·have y:((fr:Int)==out)=true:=by simpa using a4
  have e6:=Ja c7;clear a4 c7;go_enter Try.func106,Try.ntmps106;go_wp2;go_ret
  have hs:L ((w.alloc (U #[.slice a g.length cap] 93)).alloc (U (madeCells #[.bool false] g.length) 4)) (w.heap.size+1) ((List.replicate g.length false).map uo).toArray 4:=by
   rw[zI Zs,yA];simp[uo]
  rw[e6.out];exact⟨w.heap.size+1,by rw[Qr];rfl,by omega,hs,((Below.refl _ w).alloc (Je _) _).alloc Zs _⟩
 ·have y:((fr:Int)==out)=false:=by simpa using a4
  have e5:=Ja c5
  have b9:FMem (w.alloc (U #[.slice a g.length cap] 93)) (((w.alloc (U #[.slice a g.length cap] 93)).alloc (U (madeCells #[.bool false] g.length) 4)).alloc (U #[A fr] 3)) (w.heap.size+1) (List.replicate g.length false) (N (w.heap.size+2) 1 1) [fr]:=by
   refine⟨?_,⟨by simp,.inr ⟨w.heap.size+2,1,_,by simp,by omega,zI Zs,by simp,by decide,by simp,by simp[zj]⟩⟩,?_⟩
   ·rw[zB (zI Zs),yA];simp[uo]
   ·exact((Below.refl _ _).alloc Zs _).alloc Zs _
  have i3:=zA (i:=fr) (v:=.bool false) b9.hs (by simp[uo,Nm,b8]);have i1:=zE (i:=fr) b9.hs;have h0:(fr:Int)<g.length:=Zo
  have e4:Hid (FMem (w.alloc (U #[.slice a g.length cap] 93)) (((w.alloc (U #[.slice a g.length cap] 93)).alloc (U ((madeCells #[.bool false] g.length).setIfInBounds fr (.bool true)) 4)).alloc (U #[A fr] 3)) (w.heap.size+1) ((List.replicate g.length false).set fr true) (N (w.heap.size+1+1) 1 1) [fr]):=by
   refine⟨?_,⟨by simp,.inr ⟨w.heap.size+2,1,_,by simp,by omega,zI Zs,by simp,by decide,by simp,by simp[zj]⟩⟩,?_⟩
   ·rw[zB (zI Zs),yA];simp only[uo,Ox,List.map_replicate,Jc]
   ·exact((Below.refl _ _).alloc Zs _).alloc Zs _
  clear a4 c5 b9;go_enter Try.func106,Try.ntmps106;go_wp2
  go_loopg [8] k0 (fun k v wr=>∃seen work,Hid (FMem (w.alloc (U #[.slice a g.length cap] 93)) wr (w.heap.size+1) seen v work/\aaj g out k seen work F/\seen.length=g.length/\work.length+ey seen<=2000001/\∀x∈work,x<g.length))
  case atStart=>exact⟨_,_,e4.out,e5.out,by simp,by have:=dN (seen:=List.replicate g.length false) (n:=fr) (by rw[Nm,if_pos b8]);rw[dP] at this;simp;omega,by simpa using b8⟩
  case round=>
   obtain⟨seen,work,l⟩:=hrel
   cases gk with
   |zero=>
    obtain⟨rfl,rfl⟩:=l.out.2.1;obtain⟨a0,c0,rfl⟩:=zG l.out.1.hp;simp only[Ow];go_wp2;go_ret;have hl:=l.out.2.2.1;refine⟨w.heap.size+1,by rw[hl];rfl,by omega,l.out.1.hs,?_⟩
    exact((Below.refl _ w).alloc (Je _) _).trans (l.out.1.hb.mono Zo)
   |succ k=>
    obtain⟨st,n,rfl,b7⟩:=l.out.2.1;have a5:=l.out.1;have ho:=a5.hp;simp only[Jk,Nq,Ow,Ng] at ho;obtain⟨gw,i4,rfl,g6,g9⟩:=ho.form Zo;have h4:=(zm ho).1;have f2:=(zm ho).2;have ce:G wr gw st.length (A n):=(ho.cellAt st.length Zo).trans (by simp[zj]);have d7:n<g.length:=l.out.2.2.2.2 n Zs;have g2:(n:Int)<g.length:=Zo;obtain⟨row,o⟩:∃row,g[n]? =some row:=⟨_,Jd d7⟩
    have b1:succ g n=row:=by unfold succ;rw[Jj,o];rfl
    have c4:Below w.heap.size w wr:=((Below.refl _ w).alloc (Je _) _).trans (a5.hb.mono Zo);obtain⟨bg,og,a2,f9,rfl,h8,hc,e7,hx⟩:=(h.below (c4.mono hB)).row o;have h6:G wr w.heap.size 0 (.slice (some ⟨bg,og,none⟩) g.length cap):=(a5.hb.cell (p:=⟨w.heap.size,0,none⟩) (show w.heap.size<w.heap.size+1 by omega)).trans cg;have d5:=Ja a5.pop;have d4:=Ja b7;have r:=Ja (Jb o b1);have f5:=c4;have hrl:=HR.out row (Ji o);have HW:=Ja (Jb l.out.2.2.1 l.out.2.2.2);have g5:st.length+1<=2000001:=by have:=l.out.2.2.2.1;simp only[Jk,Ju] at this;omega
    clear a5 ho b7 o b1 l;go_wp2
    go_loopw [8,10] (fun v jv wx=>∃j:Nat,j<=row.length/\jv=A j/\Hid (FMem (w.alloc (U #[.slice (some ⟨bg,og,none⟩) g.length cap] 93)) wx (w.heap.size+1) ((row.take j).foldl (ua out) (seen,st)).1 v ((row.take j).foldl (ua out) (seen,st)).2)) (fun _ jv _=>row.length-(intOf jv).toNat)
    case atStart=>exact⟨0,Jt _,rfl,d5.out⟩
    case round=>
     obtain⟨j,hj,rfl,d⟩:=hrel;generalize m:(row.take j).foldl (ua out) (seen,st)=s2 at d;have u:=dS out (row.take j) (seen,st);rw[m] at u;obtain⟨sn,wk⟩:=s2
     dsimp only at d u
     have c8:=Ja (Jb m u);obtain⟨aw,cw,rfl⟩:=zG d.out.hp;have e0:Below w.heap.size w wr:=((Below.refl _ w).alloc (Je _) _).trans (d.out.hb.mono Zo);have f3:G wr w.heap.size 0 (.slice (some ⟨bg,og,none⟩) g.length cap):=(d.out.hb.cell (p:=⟨w.heap.size,0,none⟩) (show w.heap.size<w.heap.size+1 by omega)).trans cg;obtain⟨bg',og',a2',e8,e',f6,d9,_,c3⟩:=(h.below (e0.mono hB)).row r.out.1;cases e';have h7:=d9
     by_cases g4:(j:Int)<row.length
     ·obtain⟨s,b4⟩:∃s,row[j]? =some s:=⟨_,Jd Zo⟩
      have g1:s<g.length:=HV.out.2 row (Ji r.out.1) s (Ji b4);have e9:(s:Int)<g.length:=Zo;obtain⟨b2,o2,rfl,h9,e1⟩:=c3 j s b4;simp only[zj] at e1;have hl:=HW.out.1;obtain⟨b0,a7⟩:∃b0,sn[s]? =some b0:=⟨_,Jd Zo⟩
      have i2:G wr (w.heap.size+1) s (.bool b0):=zA d.out.hs (by simp[a7,uo]);have i0:T wr (w.heap.size+1) s:=zE d.out.hs
      have b3:(row.take (j+1)).foldl (ua out) (seen,st)=ua out (sn,wk) s:=by
       rw[Nh,b4,List.foldl_append,c8.out.1];rfl
      have c:=Ja (Jb b3 a7);clear b3 b4 a7 c3 u m
      by_cases t:(s:Int)=out
      ·have y:((s:Int) !=out)=false:=by simpa using t
       have c2:=Ja t;clear t;go_wp2;go_roundw
       case rel=>
        refine⟨j+1,by omega,by simp,?_⟩;rw[c.out.1];unfold ua;rw[if_neg (fun h=>h.1 c2.out)];exact d.out
       case measure=>simp[intOf]<;>omega
      ·have y:((s:Int) !=out)=true:=by simpa using t
       have c2:=Ja t;clear t
       cases b0 with
       |true=>
        go_wp2;go_roundw
        case rel=>
         refine⟨j+1,by omega,by simp,?_⟩;rw[c.out.1];unfold ua;rw[if_neg (fun h=>by have:=h.2;rw[c.out.2] at this;simp at this)];exact d.out
        case measure=>simp[intOf]<;>omega
       |false=>
        have d6:wk.length<=4000004:=by
         have h1:=c8.out.2.2;have h2:=HW.out.2.1;simp only[Jk,Ju] at h1 h2;omega
        have i5:=Ja d6;have f1:=(zm d.out.hp)
        have HM:=Ja (d.out.mark (n:=s));have g0:=lt_of_block d.out.hs;go_wp2_with (at_builtin;go_must (refine wpList_append_lies _ rfl (.tmp 70) (.tmp 72) 22 rfl (w.heap.size+1+1) 3 ii (A 0) 1 8 Try.underlying22 d8 d3 d2 d1 rfl Zd _ wk.length (wk.map zj) rfl (HM.out.hp.alloc _) ⟨wr.heap.size,0,none⟩ 1 1 [A s] rfl rfl (Oi (cs:=#[A s]) (zI Zs)) (by simp[Value.oneCell']) Zd (by unfold maxLen;omega) Zo Zt (wr.heap.size+1) Zs ?_;intro gq f8 w6 b5 a3 f7 f0;have d0:=Ja (Jb b5 a3);clear b5 a3))
        go_roundw
        case rel=>
         refine⟨j+1,by omega,by simp,?_⟩;rw[c.out.1];unfold ua;rw[if_pos ⟨c2.out,c.out.2⟩];refine HM.out.push _ d0.out.2 ?_
         simpa[zj] using d0.out.1
        case measure=>simp[intOf]<;>omega
     ·obtain rfl:j=row.length:=by omega
      rw[Nl] at m;have b6:(succ g n).foldl (ua out) (seen,st)=(sn,wk):=by rw[r.out.2];exact m
      have a1:=d4.out;rw[b6] at a1;have e2:=Ja a1;have a6:=rL out row (seen,st) (fun s hs=>by rw[HW.out.1];exact HV.out.2 row (Ji r.out.1) s hs);rw[m] at a6;have e3:=Ja a6;have c9:=Ja u;clear a1 u m b6 a6;go_wp2
      go_roundg k
      refine⟨sn,wk,d.out,e2.out,?_,?_,?_⟩
      ·rw[c9.out.1];exact HW.out.1
      ·have h1:=c9.out.2;have h2:=HW.out.2.1;simp only[Jk,Ju] at h2;omega
      ·intro x hx;rcases(e3.out.2.2.1 x).1 hx with h5|⟨h5,_⟩
       ·exact HW.out.2.2 x (by simp[h5])
       ·exact HV.out.2 row (Ji r.out.1) x h5
      exact Nat.lt_succ_self k
end Go.Proofs.Ytojclalkfhoooaa
set_option maxRecDepth 8000
namespace Go.Proofs.Ytojclalkfhoooaa
open Go.RowKit Go.Shelf
variable {w w' w0:World}{K:MK}{m:Mach}{t:ITerm}{bl blocks:List IBlk}{c i oa ob:Int}{C bs j k m1 m2 n' on r vb vn x:Nat}{g:List (List Nat)}{o:IOp}{P:Program}{l:List IOp}{d d' d1:wO}{ns:List Nat}{seen:List Bool}{wv:Value}
structure GraphIn (w:World) (sv:Value) (g:List (List Nat)):Prop where
 rows:aaB zj w w.heap.size sv g
 valid:zw g
 len:g.length<=2000000
 row:∀row∈g,row.length<=2000000
theorem GraphIn.below{sv:Value}(h:GraphIn w sv g)(hb:F w w'):GraphIn w' sv g:=
 ⟨(h.rows.below hb).mono hb.size,h.valid,h.len,h.row⟩
theorem iJ{sv:Value}(h:GraphIn w sv g):Y 68 #[.agg #[sv]] w (fJ w (vD g)):=by
 obtain⟨ns,c⟩:=adR h.valid;rw[c.eq];exact tp w sv g w.heap.size (Je _) h.rows h.valid h.len h.row (0::ns) c.is
theorem qP{sv:Value}(h:GraphIn w sv g):Y 67 #[.agg #[sv]] w (j6 w (wQ g)):=by
 obtain⟨ns,c⟩:=adR h.valid;obtain⟨D,d⟩:=c.dom;rw[<-idom_eq h.valid c d];exact tw w sv g w.heap.size (Je _) h.rows h.valid h.len h.row ns c.is D d.of
theorem ans_from{sv:Value}(h:GraphIn w sv g)(fr:Nat)(c:fr<g.length)(out:Int):Y 106 #[.agg #[sv],A fr,A out] w (cE w (ie g fr out)):=
 from_any w sv g w.heap.size (Je _) h.rows h.valid h.len h.row fr c out _ (du h.valid fr c out)
open Go.RowKit
theorem aU{p:IProg}(g:p.args.all tX=true)(h:opF p o=true):o.args.length<=1000000000000:=by
 unfold opF at h;rw[Jm] at h
 have c:∀i,p.args.getD i 0<=8:=by
  intro i;rw[Jj]
  cases d:p.args[i]? with
  |none=>simp
  |some x=>
   have:=Oe.1 g x (Ji d);unfold tX at this;simp only[Jm,decide_eq_true_eq] at this;exact this.2
 have h2:=h.2
 split at h2
 ·simp only[Jm,decide_eq_true_eq] at h2;have:=c o.a.toNat;omega
 ·split at h2
  ·simp only[Jm,decide_eq_true_eq] at h2;omega
  ·simp only[Jm,decide_eq_true_eq] at h2;omega
theorem qM{e:IEdge}(h:uM blocks e=true):xz blocks e.block∈blocks/\e.args.length=(xz blocks e.block).params.length/\1<=e.block/\e.block.toNat<blocks.length:=by
 unfold uM at h;simp only[Jm,decide_eq_true_eq] at h;refine⟨?_,h.2,h.1.1,by omega⟩;unfold xz;rw[Jj,Jd Zo,Ot];exact Uf _
theorem lD(hs:vZ blocks)(h:wn blocks t=true):∀e∈t.to,e.args.length<=2000000:=by
 intro e c;unfold wn at h;rw[Jm] at h;obtain⟨h1,h2,_⟩:=qM (Oe.1 h.1 e c);rw[h2];exact(hs.2 _ h1).1
theorem nO(d:blocks≠ [])(h:∀b∈blocks,wn blocks b.term=true):zw (zy blocks):=by
 refine⟨by unfold zy;rw[Nr];exact List.length_pos_iff.2 d,fun l hl s hs=>?_⟩;unfold zy at hl;obtain⟨b,hb,rfl⟩:=Nu.1 hl;obtain⟨e,g,rfl⟩:=Nu.1 hs;have c:=h b hb;unfold wn at c;rw[Jm] at c;have:=(qM (Oe.1 c.1 e g)).2.2.2;unfold zy;rw[Nr];exact this
theorem graphI_F(h:∀b∈blocks,wn blocks b.term=true):zk blocks=(zy blocks).map (List.map (fun n:Nat=>(n:Int))):=by
 unfold zk zy tW;rw[List.map_map];refine Up fun b hb=>?_
 show b.term.to.map (·.block)=(b.term.to.map fun e=>e.block.toNat).map (fun n:Nat=>(n:Int))
 rw[List.map_map];refine Up fun e he=>?_
 have c:=h b hb;unfold wn at c;rw[Jm] at c;have:=(qM (Oe.1 c.1 e he)).2.2.1
 show e.block=((e.block.toNat:Nat):Int)
 omega
theorem bU{sv:Value}(hs:vZ blocks)(c:blocks≠ [])(h:∀b∈blocks,wn blocks b.term=true)(hr:aaB zN w w.heap.size sv (zk blocks)):GraphIn w sv (zy blocks):=by
 rw[graphI_F h] at hr;refine⟨(aaB.map (fun n:Nat=>(n:Int)) (fun x=>rfl)).1 hr,nO c h,by unfold zy;rw[Nr];exact hs.1,fun row hrow=>?_⟩;unfold zy at hrow;obtain⟨b,hb,rfl⟩:=Nu.1 hrow;rw[Nr];exact(hs.2 b hb).2.2
theorem xu (blocks:List IBlk):(zy blocks).length=blocks.length:=by simp[zy]
theorem dW:∀ {l m:List Nat},l.Nodup->(∀x∈l,x∈m)->l.length<=m.length
 | [],m,_,_=>Jt _
 |a::l,m,hl,h=>by
  obtain⟨ha,hl⟩:=Qt.1 hl;have hm:=h a (List.mem_cons_self ..);have h2:=dW (m:=m.erase a) hl (fun x hx=>(List.mem_erase_of_ne (fun e=>ha (by rw[<-e];exact hx))).2 (h x (List.mem_cons_of_mem _ hx)));rw[List.length_erase_of_mem hm] at h2;have:=List.length_pos_of_mem hm;rw[Nq];omega
theorem jl(hv:zw g)(h:(vD g).length=g.length):∀x,x<g.length->Reach (GE g) x:=by
 obtain⟨ns,c⟩:=adR hv;rw[c.eq] at h;intro x j;refine(c.mem x).1 ?_;apply Classical.byContradiction;intro k
 have i:=dW (l:=x::0::ns) (m:=List.range g.length) (Qt.2 ⟨k,c.nodup⟩) (fun y d=>by
  rcases Jq.1 d with rfl|d
  ·exact Ol.2 j
  ·exact Ol.2 (c.lt y d))
 rw[Nq,h,Un] at i;omega
theorem mu{v k:Int}(h:rB d v i k=some d'){m:Nat}(hi:0<=i/\i.toNat<m)(c:∀x b,d.1 x=some b->0<=b/\b.toNat<m):∀x b,d'.1 x=some b->0<=b/\b.toNat<m:=by
 unfold rB at h
 split at h
 ·cases h
 ·cases h;intro x b hb
  change lS d.1 v i x=some b at hb
  unfold lS at hb
  split at hb
  ·cases hb;exact hi
  ·exact c x b hb
theorem oU{m:Nat}(hi:0<=i/\i.toNat<m):∀(l:List Int) (d d':wO),vJ i l d=some d'->(∀x b,d.1 x=some b->0<=b/\b.toNat<m)->∀x b,d'.1 x=some b->0<=b/\b.toNat<m
 | [],d,d',h,hd=>by cases h;exact hd
 |v::l,d,d',h,hd=>by
  unfold vJ at h
  cases h1:rB d v i (-1) with
  |none=>rw[h1] at h;cases h
  |some d1=>rw[h1,Nw] at h;exact oU hi l d1 d' h (mu h1 hi hd)
theorem bP{p:IProg}{m:Nat}(hi:0<=i/\i.toNat<m):∀(l:List IOp) (k:Int) (d d':wO),sS p i l k d=some d'->(∀x b,d.1 x=some b->0<=b/\b.toNat<m)->∀x b,d'.1 x=some b->0<=b/\b.toNat<m
 | [],k,d,d',h,hd=>by cases h;exact hd
 |o::l,k,d,d',h,hd=>by
  rw[dG] at h
  cases h1:ug p i k o d with
  |none=>rw[h1] at h;cases h
  |some d1=>
   rw[h1,Nw] at h;refine bP hi l _ d1 d' h ?_;unfold ug at h1
   split at h1
   ·split at h1
    ·exact mu h1 hi hd
    ·cases h1;exact hd
   ·cases h1
theorem oX{p:IProg}{m:Nat}:∀(l:List IBlk) (i:Nat) (d d':wO),i+l.length<=m->uH p bl l i d=some d'->(∀x b,d.1 x=some b->0<=b/\b.toNat<m)->∀x b,d'.1 x=some b->0<=b/\b.toNat<m
 | [],i,d,d',_,h,hd=>by cases h;exact hd
 |b::l,i,d,d',hm,h,hd=>by
  simp only[Nq] at hm;unfold uH at h
  cases h1:pS p bl i b d with
  |none=>rw[h1] at h;cases h
  |some d1=>
   rw[h1,Nw] at h;obtain⟨_,d2,h2,h3⟩:=nF h1;have hi:0<=(i:Int)/\((i:Int)).toNat<m:=Zo;exact oX l (i+1) d1 d' Zo (by simpa using h) (bP hi _ _ _ _ h3 (oU hi _ _ _ h2 hd))
theorem rN{p:IProg}(h:wg p bl=some d):∀x b,d.1 x=some b->0<=b/\b.toNat<bl.length:=
 oX bl 0 sy d Zo h (fun x b hb=>by cases hb)
theorem vE (d:wO)(g:List (List Nat))(i:Int):∀(l m:List IOp) (k:Int),xF d g i (l++m) k=(xF d g i l k && xF d g i m (k+l.length))
 | [],m,k=>by simp[xF]
 |o::l,m,k=>by
  have e:k+1+(l.length:Int)=k+((o::l).length:Int):=by simp;omega
  show((rR o).all (yy d g i k) && xF d g i (l++m) (k+1))=(((rR o).all (yy d g i k) && xF d g i l (k+1)) && _)
  rw[vE d g i l m,e,Bool.and_assoc]
theorem ub (d:wO)(g:List (List Nat)):∀(l m:List IBlk) (i:Int),tO d g (l++m) i=(tO d g l i && tO d g m (i+l.length))
 | [],m,i=>by simp[tO]
 |b::l,m,i=>by
  have e:i+1+(l.length:Int)=i+((b::l).length:Int):=by simp;omega
  show(aaC d g b i && tO d g (l++m) (i+1))=((aaC d g b i && tO d g l (i+1)) && _)
  rw[ub d g l m,e,Bool.and_assoc]
theorem gZ(h:l[k]? =some o):xF d g i (l.take (k+1)) 0=(xF d g i (l.take k) 0 && (rR o).all (yy d g i k)):=by
 rw[Nh,h,Option.toList,vE,vS h,Ub];simp[xF]
theorem oA(h:l[k]? =some o)(hf:(rR o).all (yy d g i k)=false):xF d g i l 0=false:=by
 rw[sD h,vE,vS h,Ub]
 show(_ && ((rR o).all (yy d g i k) && _))=false
 rw[hf,Bool.false_and,Uh]
theorem mz{l:List IBlk}{b:IBlk}(h:l[k]? =some b):tO d g (l.take (k+1)) 0=(tO d g (l.take k) 0 && aaC d g b k):=by
 rw[Nh,h,Option.toList,ub,vS h,Ub];simp[tO]
theorem pH{l:List IBlk}{b:IBlk}(h:l[k]? =some b)(hf:aaC d g b k=false):tO d g l 0=false:=by
 rw[sD h,ub,vS h,Ub]
 show(_ && (aaC d g b k && _))=false
 rw[hf,Bool.false_and,Uh]
theorem ChkAt.made{pv:List Value}{d c:Value}(j:L w C (pv++ [d,.map (some m1),.map (some m2),c]).toArray 128)(hl:pv.length=6)(h1:w.heap[m1]? =some (.map #[] 0))(h2:w.heap[m2]? =some (.map #[] 0))(g:m1≠m2):
 ChkAt w C m1 m2 pv d c 0 sy:=by
 have hm:∀m,w.heap[m]? =some (.map #[] 0)->wA w m 0 (fun _=>none):=fun m h=>by
  have k:=wA.made ({w with heap:=w.heap.extract 0 m });have l:m<w.heap.size:=lt_of_block h;have hs:(w.heap.extract 0 m).size=m:=by simp;omega
  obtain⟨D,⟨es,i,k1,k2⟩,k3⟩:=k;have e1:(World.alloc {w with heap:=w.heap.extract 0 m } (.map #[] 0)).heap[(w.heap.extract 0 m).size]? =some (.map #[] 0):=zI rfl;rw[e1] at k1;cases k1;exact⟨D,⟨_,_,h,k2⟩,k3⟩
 exact⟨j,hl,hm m1 h1,hm m2 h2,g,fun _=>rfl⟩
theorem ChkAt.idom{n:Nat}{pv:List Value}{g i:Value}(h:ChkAt w C m1 m2 pv g i n d)(iv:Value):ChkAt (w.setCell ⟨C,9,none⟩ iv) C m1 m2 pv g iv n d:=by
 obtain⟨k1,k2⟩:=h.ne1;refine⟨?_,h.plen,h.map1.same (Below.heap_setCell _ _ _ _ (Ne.symm k1)),h.map2.same (Below.heap_setCell _ _ _ _ (Ne.symm k2)),h.ne,h.dom⟩;rw[zD h.blk];have hl:=h.plen
 obtain⟨p0,p1,p2,p3,p4,p5,rfl⟩:∃a b c d e f,pv=[a,b,c,d,e,f]:=by
  match pv,hl with
  | [a,b,c,d,e,f],_=>exact⟨a,b,c,d,e,f,rfl⟩
 rfl
theorem pZ:I64 0:=⟨by omega,by omega⟩
theorem i64_neg:I64 (-1):=⟨by omega,by omega⟩
def rd (t:ITerm)(ops:List IOp):IProg:=⟨[[⟨[],ops,t⟩]],[0],0,-1,[],[]⟩
def mL (w:World)(p:IProg)(e:Ending)(w':World):Prop:=∃V,e=.returned (yH V p)/\ProgIn w' w'.heap.size V p/\F w w'
theorem yN.nil{α:Type}{sz:Nat}{R:World->Nat->Nat->Nat->α->Prop}{B:Nat}:yN sz R w B (O) []:=
 ⟨none,0,rfl,Je _,by omega,fun k x hk=>by simp at hk⟩
theorem yN.one{α:Type}{sz:Nat}{R:World->Nat->Nat->Nat->α->Prop}{B b:Nat}{x:α}(hb:b<B)(h:R w B b 0 x):yN sz R w B (N b 1 1) [x]:=
 ⟨_,1,rfl,Je _,by omega,fun k y hk=>by
   have c:k=0:=by have:=(Jh.1 hk).1;simp at this;omega
   subst c;cases hk
   exact⟨b,0,rfl,hb,by simpa using h⟩⟩
theorem kW{tk ta:Int}(i:I64 tk/\I64 ta){c:List IEdge}{tv:Value}(d:wH w w.heap.size tv c){ops:List IOp}{ov:Value}(g:mN w w.heap.size ov ops):
 Y 32 #[.agg #[A tk,A ta,tv],ov] w (mL w (rd ⟨tk,ta,c⟩ ops)):=by
 obtain⟨ea,ec,rfl,_,_⟩:=d.form;obtain⟨oa,oc,rfl,_,_⟩:=g.form;have h:=Ja (Jb i (Jb d g));clear d g i;go_enter Try.func32,Try.ntmps32;go_wp2;have hb:F w (((((w.alloc (U #[A tk,A ta,.slice ea c.length ec] 47)).alloc (U #[N (w.heap.size+1+1+1) 1 1,N (w.heap.size+1+1+1+1) 1 1,A 0,A (-1),O,O] 29)).alloc (U #[O,.slice oa ops.length oc,A tk,A ta,.slice ea c.length ec] 49)).alloc (U #[N (w.heap.size+1+1) 1 1] 43)).alloc (U #[A 0] 3)):=(((((Below.refl _ _).alloc (Je _) _).alloc Zs _).alloc Zt _).alloc Zt _).alloc Zt _;have h1:L (((((w.alloc (U #[A tk,A ta,.slice ea c.length ec] 47)).alloc (U #[N (w.heap.size+1+1+1) 1 1,N (w.heap.size+1+1+1+1) 1 1,A 0,A (-1),O,O] 29)).alloc (U #[O,.slice oa ops.length oc,A tk,A ta,.slice ea c.length ec] 49)).alloc (U #[N (w.heap.size+1+1) 1 1] 43)).alloc (U #[A 0] 3)) (w.heap.size+1+1) #[O,.slice oa ops.length oc,A tk,A ta,.slice ea c.length ec] 49:=zB (zB (zI Zs));have h2:L (((((w.alloc (U #[A tk,A ta,.slice ea c.length ec] 47)).alloc (U #[N (w.heap.size+1+1+1) 1 1,N (w.heap.size+1+1+1+1) 1 1,A 0,A (-1),O,O] 29)).alloc (U #[O,.slice oa ops.length oc,A tk,A ta,.slice ea c.length ec] 49)).alloc (U #[N (w.heap.size+1+1) 1 1] 43)).alloc (U #[A 0] 3)) (w.heap.size+1+1+1) #[N (w.heap.size+1+1) 1 1] 43:=zB (zI Zs);have h3:L (((((w.alloc (U #[A tk,A ta,.slice ea c.length ec] 47)).alloc (U #[N (w.heap.size+1+1+1) 1 1,N (w.heap.size+1+1+1+1) 1 1,A 0,A (-1),O,O] 29)).alloc (U #[O,.slice oa ops.length oc,A tk,A ta,.slice ea c.length ec] 49)).alloc (U #[N (w.heap.size+1+1) 1 1] 43)).alloc (U #[A 0] 3)) (w.heap.size+1+1+1+1) #[A 0] 3:=zI Zs;refine bodyPost_ret (v:=.agg #[N (w.heap.size+1+1+1) 1 1,N (w.heap.size+1+1+1+1) 1 1,A 0,A (-1),O,O]) ?_ rfl ?_
 ·rw[zM rfl];go_simp
 ·generalize m:((((w.alloc (U #[A tk,A ta,.slice ea c.length ec] 47)).alloc (U #[N (w.heap.size+1+1+1) 1 1,N (w.heap.size+1+1+1+1) 1 1,A 0,A (-1),O,O] 29)).alloc (U #[O,.slice oa ops.length oc,A tk,A ta,.slice ea c.length ec] 49)).alloc (U #[N (w.heap.size+1+1) 1 1] 43)).alloc (U #[A 0] 3)=W at *;have l:=lt_of_block h3;have k:=(h.out.2.1.below xL hb).mono xL hb.size;have j:=(h.out.2.2.below xA hb).mono xA hb.size;refine⟨⟨N (w.heap.size+1+1+1) 1 1,N (w.heap.size+1+1+1+1) 1 1,O,O⟩,rfl,⟨?_,?_,yN.nil,yN.nil,pZ,i64_neg⟩,hb⟩
  ·refine yN.one Zo ⟨N (w.heap.size+1+1) 1 1,zA h2 Zs,yN.one Zo ?_⟩;exact⟨zA h1 Zs,zA h1 Zs,h.out.1,O,.slice oa ops.length oc,.slice ea c.length ec,zA h1 Zs,zA h1 Zs,zA h1 Zs,yN.nil,j,k⟩
  ·exact yN.one Zo ⟨zA h3 Zs,⟨by decide,by decide⟩⟩
end Go.Proofs.Ytojclalkfhoooaa
set_option maxRecDepth 100000
namespace Go.Proofs.Ytojclalkfhoooaa
open Go.ChangeShapes Go.WideShapes Go.ChangeAt Go.RowKit
variable {w w' w0:World}{K:MK}{m:Mach}{t:ITerm}{bl blocks:List IBlk}{c i oa ob:Int}{C bs j k m1 m2 n' on r vb vn x:Nat}{g:List (List Nat)}{o:IOp}{P:Program}{l:List IOp}{d d' d1:wO}{ns:List Nat}{seen:List Bool}{wv:Value}
theorem jd{a:Addr}{v:Value}(h:w.cell? a=some v):a.spot=none:=by
 unfold World.cell? at h
 split at h
 ·split at h
  ·simp at h
  ·rename_i h2;simpa using h2
 ·simp at h
theorem kc (b o k:Nat):(⟨b,o,none⟩:Addr).add k=⟨b,o+k,none⟩:=by
 unfold Addr.add;split
 ·rename_i h;subst h;rfl
 ·rfl
theorem fP{α:Type}{H:Type}{enc:TypeId×Value->H}{W:World}{fuel:Nat}{u:Value}{x:DataW H×List MemPlace}{t e:TypeId}{q:IntKind}(r:P.underlying t=some (.slice e))(w:P.underlying e=some (.int q))(c1:P.cellsOf e=1)
 (R:World->Nat->Nat->Nat->α->Prop) (h:Int->α) (hR:∀b o z,(Lit.int q z).wf=true->G W b o (.int q z)->R W W.heap.size b o (h z))
 (hf:DataW.trod enc P W 0 (fun _=>true) true fuel t [u]=some x):∃row:List α,yN 1 R W W.heap.size u row:=by
 rcases open_ints r w c1 hf with⟨h1,_⟩|⟨a,len,cap,zs,h1,hb,hl,hm,d,_,c,i⟩
 ·simp at h1;subst h1;exact⟨[],yN.nil⟩
 ·simp at h1;subst h1;simp only[if_true] at d;refine⟨(zs.take len).map h,some a,cap,by simp[d,Ud hl],by simp[d];omega,by unfold maxLen at hm;omega,fun k y hk=>?_⟩;have l:=(Jh.1 hk).1;simp[d] at l;rw[Jr,Ug,if_pos Zo,Jd Zo] at hk;have j:=Nt hk;have g:=c k Zo;have hs:=jd (c 0 Zo)
  have m:a=⟨a.block,a.off,none⟩:=by
   cases a;simp[Addr.add] at hs;simp[hs]
  rw[m,kc] at g;rw[Jj,Jd Zo,Ot] at g;refine⟨a.block,a.off,by rw[<-m],jU g,?_⟩;rw[<-j,Nk];exact hR _ _ _ (i _ (Uf Zo)) g
section
variable {H:Type} {enc:TypeId×Value->H} {W:World} {fuel:Nat} {u:Value} {x:DataW H×List MemPlace}
theorem iR (hf:DataW.trod enc Try.prog W 0 (fun _=>true) true fuel 22 [u]=some x):∃row:List Int,zY W W.heap.size u row:=
 fP Try.underlying22 Try.underlying3 Zk IntR id (fun b o z hz hc=>⟨hc,by unfold I64;simpa[Lit.wf,IntKind.min,IntKind.max,IntKind.signed,IntKind.bits] using hz⟩) hf
end
section
variable {H:Type} {enc:TypeId×Value->H} {W:World} {v:Value} {d:DataW H} {p:List MemPlace} {r:Go.Reach} {base:Nat}
theorem iX (hv:Value.okWide Try.prog W r base 22 v)(g:DataW.Trod enc Try.prog W 0 (fun _=>true) true 22 v d p):∃row:List Int,zY W W.heap.size v row:=by
 obtain⟨a0,c,h,rfl⟩:=okWide_slice Try.underlying22 hv;obtain⟨fuel,hf⟩:=g;exact iR hf
end
end Go.Proofs.Ytojclalkfhoooaa
