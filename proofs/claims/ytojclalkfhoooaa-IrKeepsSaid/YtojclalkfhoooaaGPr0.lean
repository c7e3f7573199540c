/- Part of a proof. -/
import Derived.Test.YtojclalkfhoooaaGRev
import Derived.Carry
import Derived.Deep.OwnRows
import Derived.Defers
import Derived.Laws.CopyOwn
import Derived.Lib.BufferWrite
import Derived.LoopIn
import Derived.LoopNIn
import Derived.OwnWalkIn
import Derived.RangeFuncBound
import Derived.RangeFuncCalls
import Derived.RangeFuncLeaves
import Derived.RangeFuncNested
import Derived.Recover
import Derived.RegionIn
import Derived.Shelf.Abstract
import Derived.Shelf.Bits.Mul64
import Derived.Shelf.RegionOpen
import Derived.StillTail
import Derived.TacticsInMore
import Derived.WideKeyEntry
set_option linter.all false
set_option maxHeartbeats 2000000
set_option maxRecDepth 100000
namespace Go.Proofs.Ytojclalkfhoooaa
open Go.RowKit
variable {w w' w0:World}{K:MK}{m m':Mach}{c oa ob x:Int}{o:Oper}{B0 Bk Bs Bv cp d gk j k on u vb vn:Nat}{g:List (List Nat)}{xs:List Int}{seen:List Bool}{post:List Nat}{st:List (Nat×Nat)}
theorem inRam_no (a:Nat):wo a=false↔a<16384∨24576<=a:=by
 rw[<-Bool.not_eq_true,qG];omega
theorem sX{ov:Value}(h:MachAt w K m ov)(a:Nat)(g:a<65536)(hr:wo a=false):G 107 #[I K.pm,U a] w fun e w'=>e=.panicked [oE 2 a]/\w=w':=by
 clear h;rcases(inRam_no a).1 hr with hlt|hge
 ·have c:(a:Int)<16384:=Zo;clear hr hlt;go_enter Try.func107,Try.ntmps107;go_wp2_with (go_at_call 80;go_must (refine(wj 2 a _).mono ?_;rintro e w' ⟨rfl,rfl⟩))
  exact⟨rfl,rfl,rfl⟩
 ·have c:24576<=(a:Int):=Zo;have d:¬(a:Int)<16384:=Zo;clear hr hge;go_enter Try.func107,Try.ntmps107;go_wp2_with (go_at_call 80;go_must (refine(wj 2 a _).mono ?_;rintro e w' ⟨rfl,rfl⟩))
  exact⟨rfl,rfl,rfl⟩
theorem vX{ov:Value}(h:MachAt w K m ov)(a:Nat)(g:a<65536)(hr:wo a=true):G 107 #[I K.pm,U a] w fun e w'=>e=.returned (.pointer (some ⟨K.rb,a-16384,none⟩))/\w=w':=by
 have c6:=h.c6;clear h;have c:=(qG a).1 hr;have h1:¬(a:Int)<16384:=Zo;have h2:¬24576<=(a:Int):=Zo;have h3:0<=(a:Int)-16384:=Zo;have i:(a:Int)-16384<8192:=Zo;have d:((a:Int)-16384).toNat=a-16384:=Zo;have j:=Ja d;clear hr c d;go_enter Try.func107,Try.ntmps107;go_wp2;go_ret;exact⟨rfl,rfl⟩
theorem kh{ov:Value}(h:MachAt w K m ov)(bank a:Nat)(hb:bank<65536)(o:a<65536)(hr:pn K.E bank a=false):
 G 108 #[I K.pm,U bank,U a] w fun e w'=>e=.panicked [oE 2 a]/\w=w':=by
 have c5:=h.c5;obtain⟨ba,bc,d,k,j⟩:=h.prog.banks.form;rw[d] at c5
 have c:¬(bank<K.E.p.banks.length/\a<4096):=by
  intro g;unfold pn at hr;rw[decide_eq_true g.1,decide_eq_true g.2] at hr;cases hr
 clear h d hr
 by_cases h1:bank<K.E.p.banks.length
 ·have i:¬(K.E.p.banks.length:Int)<=bank:=Zo;have l:4096<=(a:Int):=Zo;clear c h1;go_enter Try.func108,Try.ntmps108;go_wp2_with (go_at_call 80;go_must (refine(wj 2 a _).mono ?_;rintro e w' ⟨rfl,rfl⟩))
  exact⟨rfl,rfl,rfl⟩
 ·have i:(K.E.p.banks.length:Int)<=bank:=Zo;clear c h1;go_enter Try.func108,Try.ntmps108;go_wp2_with (go_at_call 80;go_must (refine(wj 2 a _).mono ?_;rintro e w' ⟨rfl,rfl⟩))
  exact⟨rfl,rfl,rfl⟩
theorem iH (E:IEnv)(bank a:Nat):pn E bank a=true↔bank<E.p.banks.length/\a<4096:=by unfold pn;rw[Jm,decide_eq_true_eq,decide_eq_true_eq]
theorem p8{ov:Value}(h:MachAt w K m ov)(j:∀s∈K.E.p.banks,s.size=4096)(bank a:Nat)(hb:bank<65536)(ha:a<65536)(hr:pn K.E bank a=true):
 G 108 #[I K.pm,U bank,U a] w fun e w'=>e=.returned (U (tS K.E bank a:Nat))/\w=w':=by
 have c5:=h.c5;have c:=h.prog.banks;obtain⟨ba,bc,i,r,q⟩:=c.form;rw[i] at c5 c;obtain⟨h1,h2⟩:=(iH _ _ _).1 hr;obtain⟨s,hs⟩:∃s,K.E.p.banks[bank]? =some s:=⟨_,Jd h1⟩
 obtain⟨b,o,rfl,_,d,_⟩:=c.get hs;rw[Nk] at d;have g:=j s (Ji hs);have k:tS K.E bank a=(s.data.getD a 0).toNat:=by unfold tS;rw[Jj,hs];rfl
 rw[k];have y:¬(K.E.p.banks.length:Int)<=bank:=Zo;have x:(bank:Int)<K.E.p.banks.length:=Zo;have u:¬4096<=(a:Int):=Zo;have t:a<s.size:=Zo;have l:(a:Int)<s.size:=Zo;have a0:=Ja g;clear h i hr hs k c h1 h2 j g;go_enter Try.func108,Try.ntmps108;go_wp2;go_ret;refine⟨zh ?_,rfl⟩;have:=s.data[a].toNat_lt;rw[xY]
 show((s.data[a].toNat:Nat):Int)%65536=((s.data[a].toNat:Nat):Int)
 omega
theorem jA{ov:Value}(h:MachAt w K m ov):
 G 109 #[I K.pm] w fun e w'=>e=endOf (uq K.E m)/\MachAt w' K (uq K.E m).mach ov/\Frm K.B w w':=by
 have c7:=h.c7;have c11:=h.c11;have d:=h.inn;obtain⟨ia,ic,i,a7,a6⟩:=d.form;rw[i] at c7 d;have j:=Ja h;have t:=h.inp;have a0:=Ja i;clear h i
 by_cases c:m.inputs<K.E.inn.length
 ·obtain⟨x,q⟩:∃x,K.E.inn[m.inputs]? =some x:=⟨_,Jd c⟩
  obtain⟨b,o,rfl,k,g,a4⟩:=d.get q;have a1:=Ja k;clear k;rw[Nk] at g;have hI:¬(K.E.inn.length:Int)<=m.inputs:=Zo;have hJ:(m.inputs:Int)<K.E.inn.length:=Zo;have e:uq K.E m=.ok x {m with inputs:=m.inputs+1 }:=by unfold uq;rw[if_pos c,Jj,q];rfl
  rw[e];have l:=j.out.free 11;have y:=Ja c;have a2:K.E.inn.length<=9223372036854775807:=Zo;clear e d c q t;go_enter Try.func109,Try.ntmps109;go_upto_region 1 with fail
  go_cut [13] (fun v wx=>v=.bool false/\∃n,wx=w.drewN n)
  case first=>
   go_quiet (fail);go_wp2;go_meet;exact⟨rfl,_,rfl⟩
  case rest=>
   obtain⟨rfl,n,rfl⟩:=hcut;have h1:=(j.out.drewN n).setI y.out j.out.ne;have r:Frm K.B w ((w.drewN n).setCell ⟨K.pm,11,none⟩ (O ((m.inputs:Int)+1))):=(Frm.refl _ _).drewN.trans ((j.out.drewN n).frm 11 _);have d7:(w.drewN n).cell? ⟨K.pm,7,none⟩=_:=c7;have b0:(w.drewN n).cell? ⟨K.pm,11,none⟩=_:=c11;have a3:N (w.drewN n) K.pm 11:=l;have e7:=h1.c7;rw[a0.out] at e7;have a9:=h1.c11;have u:=(r.below.cell (p:=⟨b,o+m.inputs,none⟩) a1.out).trans g;have a5:IntKind.i64.wrap (((m.inputs+1:Nat):Int)-1)=(m.inputs:Int):=by rw[show(((m.inputs+1:Nat):Int)-1)=(m.inputs:Int) by omega];exact Om _ Zo
   have H1:=Ja h1;have HF:=Ja r;clear h1 r c7 c11 l;go_upto_region 4 with fail;generalize (w.drewN n).setCell ⟨K.pm,11,none⟩ (O ((m.inputs:Int)+1))=W2 at *;go_quiet (fail);go_wp2;go_ret;exact⟨rfl,H1.out.drewN _,HF.out.drewN⟩
 ·have hI:(K.E.inn.length:Int)<=m.inputs:=Zo;have e:uq K.E m=.ok 0 m:=by unfold uq;rw[if_neg c]
  rw[e];clear e d c;go_enter Try.func109,Try.ntmps109;go_wp2;go_quiet (fail);go_wp2;go_ret;exact⟨rfl,j.out.drewN _,(Frm.refl _ _).drewN⟩
open Go.RowKit Go.Maps
theorem xH:Keyed Try.prog 3:=int_keyed Try.underlying3
theorem wf64'(h:I64 x):(Lit.int .i64 x).wf=true:=by unfold I64 at h;simp[Lit.wf,IntKind.min,IntKind.max,IntKind.signed,IntKind.bits];omega
theorem wfU16 {x:Nat}(h:x<65536):(Lit.int .u16 (x:Int)).wf=true:=by simp[Lit.wf,IntKind.min,IntKind.max,IntKind.signed,IntKind.bits];omega
theorem vB(h:I64 x):keyOf Try.prog 3 (.int .i64 x)=some (.int .i64 x):=keyOf_int_mk Try.underlying3 (wf64' h)
theorem zeroU16 (w:World):(zeroValue 39).run Try.prog w=.ok (U 0) w:=by kernel_rfl
def xO (w:World)(b n:Nat)(f:Int->Nat):Prop:=
 (∃D:DataW Unit,w.ownsMap Try.prog 3 (plainElem Try.prog 39) b n D/\∀x,(Lit.int .i64 x).wf=true->D.atKey (.int .i64 x) (.lit (.int .u16 0))=.lit (.int .u16 (f x:Int)))/\∀x,f x<65536
theorem xO.made (w:World):xO (w.alloc (.map #[] 0)) w.heap.size 0 (fun _=>0):=⟨⟨_,World.ownsMap_made _ _ _ _,fun _ _=>rfl⟩,fun _=>by show 0<65536;decide⟩
theorem xO.blk{b n:Nat}{f:Int->Nat}(h:xO w b n f):∃es clock,w.heap[b]? =some (.map es clock):=by
 obtain⟨⟨D,⟨es,clock,h1,h2⟩,h3⟩,c⟩:=h;exact⟨es,clock,h1⟩
theorem xO.same{b n:Nat}{f:Int->Nat}(h:xO w b n f)(hb:w'.heap[b]? =w.heap[b]?):xO w' b n f:=by
 obtain⟨⟨D,⟨es,c,h1,h2⟩,h3⟩,d⟩:=h;exact⟨⟨D,⟨es,c,hb.trans h1,h2⟩,h3⟩,d⟩
theorem xO.kept{B:Nat}{b n:Nat}{f:Int->Nat}(h:xO w b n f)(g:Frm B w w'):xO w' b n f:=by
 obtain⟨es,d,c⟩:=h.blk;exact h.same ((g.kept _ _ c trivial).trans c.symm)
theorem xO.look{b n:Nat}{f:Int->Nat}(h:xO w b n f)(i:I64 x):
 (Instr.lookup 144 (.map (some b)) (.int .i64 x) false).run Try.prog w=.ok (.int .u16 (f x:Nat)) w:=by
 obtain⟨⟨D,h,hf⟩,_⟩:=h;obtain⟨c,g,d,j⟩:=h.lookup_int xH Try.underlying144 Try.underlying39 (zeroU16 w) (vB i);rw[hf x (wf64' i)] at d;simp only[DataW.lit.injEq,Lit.int.injEq,true_and] at d;subst d;exact g
theorem us{ops:Array Oper}{rest:List Oper}{a:Act}{Q:Exit->Act->World->Prop}(hg:o.guard=none)(m x v:Operand)
 (j:o.op=.mapUpdate 144 m x v) {b n:Nat} {f:Int->Nat} (h:xO w b n f) (t:n<9000000000000000000) (kx:Int) (vv:Nat) (hm:a.eval m=.map (some b)) (q:a.eval x=.int .i64 kx) (hv:a.eval v=.int .u16 (vv:Int))
 (g:I64 kx) (d:vv<65536)
 (r:∀w',xO w' b (n+1) (iY f kx vv)->w.grownBy w' (some b)->wpList Try.prog ops Q rest (a.put o.dst undef) w'):wpList Try.prog ops Q (o::rest) a w:=by
 obtain⟨⟨D,h,hf⟩,k⟩:=h;refine wpList_mapUpdate_own (H:=Unit) w hg m x v 144 j 3 39 xH Try.underlying144 _ b n D hm h (by unfold maxLen;omega) _ _ _ q hv (vB g) _ [] (plainElem_int Try.underlying39 (wfU16 d)) ?_;intro w1 i c;refine r w1 ⟨⟨_,i,fun y hy=>?_⟩,fun y=>?_⟩ c
 ·have l:WideAt.IsKeyLit (.int .i64 kx):=xH.key (vB g)
  by_cases e:y=kx
  ·subst e;simp only[iY,if_true];exact Maps.atKey_put_same h.isMap l _ _
  ·simp only[iY,if_neg e];rw[Maps.atKey_put_other (by simpa using e)];exact hf y hy
 ·unfold iY;split
  ·exact d
  ·exact k y
def jk (w:World)(B:Nat)(x:IEdge)(e:Ending)(w':World):Prop:=∃av,e=.returned (.agg #[O x.block,av])/\zY w B av x.args/\I64 x.block/\L w w'
theorem edge_any{B:Nat}{t:ITerm}{blocks:List IBlk}{tv:Value}(r:wH w B tv t.to)(hk:I64 t.kind)(hB:B<=w.heap.size)(ho:bS blocks t)(h4:t.kind≠4)(h5:t.kind≠5)(a:Nat)(ha:a<65536):
 G 83 #[.agg #[O t.kind,O t.a,tv],U a] w (jk w B (wK t a)):=by
 obtain⟨ta,tc,rfl,a9,a6⟩:=r.form;obtain⟨l,h1,h2,h3,_⟩:=ho
 have get:∀k,k<t.to.length->∃b o ab ac,ta=some ⟨b,o,none⟩/\b<B/\T w b (o+k*2) (O (t.to.getD k ⟨0,[]⟩).block)/\T w b (o+k*2+1) (.slice ab (t.to.getD k ⟨0,[]⟩).args.length ac)/\zY w B (.slice ab (t.to.getD k ⟨0,[]⟩).args.length ac) (t.to.getD k ⟨0,[]⟩).args/\I64 (t.to.getD k ⟨0,[]⟩).block:=fun k hk=>by
  have e:t.to.getD k ⟨0,[]⟩=t.to[k]:=by rw[Jj,Jd hk];rfl
  obtain⟨b,o,a4,a3,a2,a1,av,a0,q⟩:=r.get (Jd hk);obtain⟨ab,ac,rfl,_,_⟩:=q.form;rw[e];exact⟨b,o,ab,ac,a4,a3,a2,a0,q,a1⟩
 have GET:=Ja get;clear get r;have d:∀(x:IEdge) (av:Value) (w':World),zY w B av x.args->I64 x.block->L w w'->jk w B x (.returned (.agg #[O x.block,av])) w':=fun x av w' h1 h2 h3=>⟨av,rfl,h1,h2,h3⟩
 have c:=Ja d;clear d
 by_cases c2:t.kind=2
 ·have l2:=h2 c2
  by_cases c0:a=0
  ·have e:wK t a=t.to.getD 1 ⟨0,[]⟩:=by unfold wK;rw[if_pos ⟨c2,c0⟩]
   rw[e];obtain⟨b,o,ab,ac,rfl,j,k1,k2,k3,k4⟩:=GET.out 1 Zo;generalize t.to.getD 1 ⟨0,[]⟩=x at *;have q1:(w.cell? ⟨b,o+2,none⟩)=_:=k1;have q2:(w.cell? ⟨b,o+2+1,none⟩)=_:=k2;have g:b<w.heap.size:=Zo;have K3:=Ja (Jb k3 k4);have u:(1:Int)<t.to.length:=Zo;subst c0;rw[c2]
   try simp only[Nat.zero_mul,Uk] at q1 q2
   clear l h1 h2 h3 k1 k2 k3 k4 e;go_enter Try.func83,Try.ntmps83;go_wp2;refine bodyPost_ret (v:=.agg #[O x.block,.slice ab x.args.length ac]) (by simp[results,Try.results83,go_sem]) rfl ?_;exact c.out _ _ _ K3.out.1 K3.out.2 (by repeat' (first|exact Below.refl _ _|(refine Below.alloc ?_ (by simp<;>omega) _)|(refine Below.setCell ?_ Zs _)))
  ·have e:wK t a=t.to.getD 0 ⟨0,[]⟩:=by unfold wK;rw[if_neg (fun h=>c0 h.2),if_neg Zo]
   rw[e];obtain⟨b,o,ab,ac,rfl,j,k1,k2,k3,k4⟩:=GET.out 0 Zo;generalize t.to.getD 0 ⟨0,[]⟩=x at *;have q1:(w.cell? ⟨b,o+0*2,none⟩)=_:=k1;have q2:(w.cell? ⟨b,o+0*2+1,none⟩)=_:=k2;have g:b<w.heap.size:=Zo;have K3:=Ja (Jb k3 k4);have u:(0:Int)<t.to.length:=Zo;have b0:((a:Int)==0)=false:=Ze;rw[c2]
   try simp only[Nat.zero_mul,Uk] at q1 q2
   clear l h1 h2 h3 k1 k2 k3 k4 e;go_enter Try.func83,Try.ntmps83;go_wp2;refine bodyPost_ret (v:=.agg #[O x.block,.slice ab x.args.length ac]) (by simp[results,Try.results83,go_sem]) rfl ?_;exact c.out _ _ _ K3.out.1 K3.out.2 (by repeat' (first|exact Below.refl _ _|(refine Below.alloc ?_ (by simp<;>omega) _)|(refine Below.setCell ?_ Zs _)))
 ·by_cases c3:t.kind=3
  ·have e:wK t a=t.to.getD (min a (t.to.length-1)) ⟨0,[]⟩:=by unfold wK;rw[if_neg (fun h=>c2 h.1),if_pos c3]
   have l3:=h3 c3;rw[e];obtain⟨i,hi⟩:∃i,min a (t.to.length-1)=i:=⟨_,rfl⟩
   rw[hi];have y:i<t.to.length:=Zo;have m:(i:Int)=if(t.to.length:Int)-1<(a:Int) then(t.to.length:Int)-1 else(a:Int):=by split<;>omega
   have a5:∀(ts:Array TypeId) (t2:TypeId) (W:World),(Builtin.min_ ts t2 #[O a,O ((t.to.length:Int)-1)]).run Try.prog W=.ok (O i) W:=fun ts t2 W=>by rw[m];exact run_min_int2 ..
   have a7:0<=(t.to.length:Int)-1:=Zo;clear m;obtain⟨b,o,ab,ac,rfl,j,k1,k2,k3,k4⟩:=GET.out i y;generalize t.to.getD i ⟨0,[]⟩=x at *;have q1:(w.cell? ⟨b,o+i*2,none⟩)=_:=k1;have q2:(w.cell? ⟨b,o+i*2+1,none⟩)=_:=k2;have g:b<w.heap.size:=Zo;have K3:=Ja (Jb k3 k4);have u:(i:Int)<t.to.length:=Zo;rw[c3]
   try simp only[Nat.zero_mul,Uk] at q1 q2
   clear l h1 h2 h3 k1 k2 k3 k4 e;go_enter Try.func83,Try.ntmps83;go_wp2;refine bodyPost_ret (v:=.agg #[O x.block,.slice ab x.args.length ac]) (by simp[results,Try.results83,go_sem]) rfl ?_;exact c.out _ _ _ K3.out.1 K3.out.2 (by repeat' (first|exact Below.refl _ _|(refine Below.alloc ?_ (by simp<;>omega) _)|(refine Below.setCell ?_ Zs _)))
  ·have e:wK t a=t.to.getD 0 ⟨0,[]⟩:=by unfold wK;rw[if_neg (fun h=>c2 h.1),if_neg c3]
   have c1:t.kind=1:=Zo;have l1:=h1 c1;rw[e];obtain⟨b,o,ab,ac,rfl,j,k1,k2,k3,k4⟩:=GET.out 0 Zo;generalize t.to.getD 0 ⟨0,[]⟩=x at *;have q1:(w.cell? ⟨b,o+0*2,none⟩)=_:=k1;have q2:(w.cell? ⟨b,o+0*2+1,none⟩)=_:=k2;have g:b<w.heap.size:=Zo;have K3:=Ja (Jb k3 k4);have u:(0:Int)<t.to.length:=Zo;rw[c1]
   try simp only[Nat.zero_mul,Uk] at q1 q2
   clear l h1 h2 h3 k1 k2 k3 k4 e;go_enter Try.func83,Try.ntmps83;go_wp2;refine bodyPost_ret (v:=.agg #[O x.block,.slice ab x.args.length ac]) (by simp[results,Try.results83,go_sem]) rfl ?_;exact c.out _ _ _ K3.out.1 K3.out.2 (by repeat' (first|exact Below.refl _ _|(refine Below.alloc ?_ (by simp<;>omega) _)|(refine Below.setCell ?_ Zs _)))
def Res.lt:Res Nat->Prop
 |.ok x _=>x<65536
 |.trap _ _ _=>True
def zQ (K:MK)(w:World)(r:Res Nat)(e:Ending)(w':World):Prop:=e=endOf r/\(∃ov',MachAt w' K r.mach ov')/\Frm K.B w w'/\r.lt
theorem zQ.ok{x:Nat}{c:Value}(h:MachAt w' K m' c)(g:Frm K.B w w')(d:x<65536):zQ K w (.ok x m') (.returned (U x)) w':=⟨rfl,⟨c,h⟩,g,d⟩
theorem zQ.trap{i:Nat}{c:Value}(h:MachAt w' K m' c)(d:Frm K.B w w'):zQ K w (.trap k i m') (.panicked [oE k i]) w':=⟨rfl,⟨c,h⟩,d,trivial⟩
theorem not16 (a:Nat)(h:a<65536):bits .xor .u16 IntKind.u16.max (a:Int)=((65535-a:Nat):Int):=by
 show IntKind.u16.wrap (((BitVec.ofInt 16 65535)^^^(BitVec.ofInt 16 (a:Int))).toNat:Int)=_
 have e1:BitVec.ofInt 16 65535=BitVec.allOnes 16:=by decide
 have e2:(BitVec.ofInt 16 (a:Int)).toNat=a:=by rw[BitVec.ofInt_natCast,BitVec.toNat_ofNat];exact Nat.mod_eq_of_lt h
 rw[e1,BitVec.xor_comm,BitVec.xor_allOnes,BitVec.toNat_not,e2,xY];omega
theorem or_low (x y:Nat)(d:x<256)(c:y<256):bits .or .u16 (IntKind.u16.wrap (x:Int)) (IntKind.u16.wrap (IntKind.u16.wrap (y:Int)*256))=((x+256*y:Nat):Int):=by
 have e1:IntKind.u16.wrap (x:Int)=(x:Int):=by rw[xY];omega
 have e2:IntKind.u16.wrap (IntKind.u16.wrap (y:Int)*256)=((y*256:Nat):Int):=by rw[xY,xY];omega
 rw[e1,e2,(bits_nat .u16 16 Zd wraps_u16 x (y*256) Zo Zo).2];have:=Nat.two_pow_add_eq_or_of_lt (i:=8) (b:=x) Zo y;rw[Nat.or_comm,show y*256=2^8*y by omega,<-this];omega
theorem step_1{ov:Value}(h:MachAt w K m ov)(r:I64 oa)(q:I64 ob)(t:on<65536)(ab:Option Addr)(an ac:Nat){v:Int->Nat}(hv:xO w vb vn v)(d:Int):
 G 82 #[I K.pm,.agg #[O 1,O c,O oa,O ob,U on,.slice ab an ac],.map (some vb),O d] w (zQ K w (.ok on m)):=by
 have k:=fun(W:World) (hW:Frm K.B w W)=>(hv.kept hW).look r
 have j:=fun(W:World) (hW:Frm K.B w W)=>(hv.kept hW).look q
 have a1:=hv.2 oa;have a0:=hv.2 ob;have a2:=h.size;have l:=Ja (h.keep ((Below.refl _ _).alloc (Je _) (A #[O 1,O c,O oa,O ob,U on,.slice ab an ac] 77)));have i:=Ja ((Frm.refl K.B w).alloc Zo (A #[O 1,O c,O oa,O ob,U on,.slice ab an ac] 77));have la:=fun n:Nat=>k _ (i.out.drewN (n:=n))
 have lb:=fun n:Nat=>j _ (i.out.drewN (n:=n))
 have g:=zI (W:=w) (o:=A #[O 1,O c,O oa,O ob,U on,.slice ab an ac] 77) rfl;clear h hv k j;generalize v oa=xa at *;generalize v ob=xb at *;go_enter Try.func82,Try.ntmps82;go_upto_region 1 with fail;generalize u:w.alloc (A #[O 1,O c,O oa,O ob,U on,.slice ab an ac] 77)=W1 at *;clear u;have p0:=K0 g;have p2:=K2 g;have p3:=K3 g;have p4:=K4 g
 go_cut [9,10] (fun x y wx=>x=U xa/\y=U xb/\∃n,wx=W1.drewN n)
 case first=>
  go_quiet (fail);go_wp2;go_meet;exact⟨rfl,rfl,_,rfl⟩
 case rest=>
  obtain⟨rfl,rfl,n,rfl⟩:=hcut;have HM:=Ja (l.out.drewN n);have HF:=Ja (i.out.drewN (n:=n));have q0:(W1.drewN n).cell? ⟨w.heap.size,0,none⟩=_:=p0;have q2:(W1.drewN n).cell? ⟨w.heap.size,2,none⟩=_:=p2;have q4:(W1.drewN n).cell? ⟨w.heap.size,4,none⟩=_:=p4;clear la lb p0 p2 p3 p4 g l i;generalize W1.drewN n=W2 at *;go_wp2;go_ret;exact zQ.ok HM.out HF.out t
theorem step_3{ov:Value}(h:MachAt w K m ov)(r:I64 oa)(q:I64 ob)(a2:on<65536)(ab:Option Addr)(an ac:Nat){v:Int->Nat}(hv:xO w vb vn v)(d:Int):
 G 82 #[I K.pm,.agg #[O 3,O c,O oa,O ob,U on,.slice ab an ac],.map (some vb),O d] w (zQ K w (.ok ((65536-v oa)%65536) m)):=by
 have k:=fun(W:World) (hW:Frm K.B w W)=>(hv.kept hW).look r
 have j:=fun(W:World) (hW:Frm K.B w W)=>(hv.kept hW).look q
 have a1:=hv.2 oa;have a0:=hv.2 ob;have a3:=h.size;have l:=Ja (h.keep ((Below.refl _ _).alloc (Je _) (A #[O 3,O c,O oa,O ob,U on,.slice ab an ac] 77)));have i:=Ja ((Frm.refl K.B w).alloc Zo (A #[O 3,O c,O oa,O ob,U on,.slice ab an ac] 77));have la:=fun n:Nat=>k _ (i.out.drewN (n:=n))
 have lb:=fun n:Nat=>j _ (i.out.drewN (n:=n))
 have g:=zI (W:=w) (o:=A #[O 3,O c,O oa,O ob,U on,.slice ab an ac] 77) rfl;clear h hv k j;generalize v oa=xa at *;generalize v ob=xb at *;go_enter Try.func82,Try.ntmps82;go_upto_region 1 with fail;generalize t:w.alloc (A #[O 3,O c,O oa,O ob,U on,.slice ab an ac] 77)=W1 at *;clear t;have p0:=K0 g;have p2:=K2 g;have p3:=K3 g;have p4:=K4 g
 go_cut [9,10] (fun x y wx=>x=U xa/\y=U xb/\∃n,wx=W1.drewN n)
 case first=>
  go_quiet (fail);go_wp2;go_meet;exact⟨rfl,rfl,_,rfl⟩
 case rest=>
  obtain⟨rfl,rfl,n,rfl⟩:=hcut;have u:=Ja (l.out.drewN n);have HF:=Ja (i.out.drewN (n:=n));have q0:(W1.drewN n).cell? ⟨w.heap.size,0,none⟩=_:=p0;have q2:(W1.drewN n).cell? ⟨w.heap.size,2,none⟩=_:=p2;have q4:(W1.drewN n).cell? ⟨w.heap.size,4,none⟩=_:=p4;clear la lb p0 p2 p3 p4 g l i;generalize W1.drewN n=W2 at *;go_wp2;go_ret;have e:Ending.returned (U (IntKind.u16.wrap (-(xa:Int))))=.returned (U (((65536-xa)%65536:Nat):Int)):=zh (by rw[xY];omega);exact e ▸ zQ.ok u.out HF.out Zo
theorem step_4{ov:Value}(h:MachAt w K m ov)(t:I64 oa)(r:I64 ob)(a1:on<65536)(ab:Option Addr)(an ac:Nat){v:Int->Nat}(hv:xO w vb vn v)(d:Int):
 G 82 #[I K.pm,.agg #[O 4,O c,O oa,O ob,U on,.slice ab an ac],.map (some vb),O d] w (zQ K w (.ok (65535-v oa) m)):=by
 have k:=fun(W:World) (hW:Frm K.B w W)=>(hv.kept hW).look t
 have j:=fun(W:World) (hW:Frm K.B w W)=>(hv.kept hW).look r
 have q:=hv.2 oa;have a0:=hv.2 ob;have a2:=h.size;have l:=Ja (h.keep ((Below.refl _ _).alloc (Je _) (A #[O 4,O c,O oa,O ob,U on,.slice ab an ac] 77)));have i:=Ja ((Frm.refl K.B w).alloc Zo (A #[O 4,O c,O oa,O ob,U on,.slice ab an ac] 77));have la:=fun n:Nat=>k _ (i.out.drewN (n:=n))
 have lb:=fun n:Nat=>j _ (i.out.drewN (n:=n))
 have g:=zI (W:=w) (o:=A #[O 4,O c,O oa,O ob,U on,.slice ab an ac] 77) rfl;clear h hv k j;generalize v oa=xa at *;generalize v ob=xb at *;go_enter Try.func82,Try.ntmps82;go_upto_region 1 with fail;generalize u:w.alloc (A #[O 4,O c,O oa,O ob,U on,.slice ab an ac] 77)=W1 at *;clear u;have p0:=K0 g;have p2:=K2 g;have p3:=K3 g;have p4:=K4 g
 go_cut [9,10] (fun x y wx=>x=U xa/\y=U xb/\∃n,wx=W1.drewN n)
 case first=>
  go_quiet (fail);go_wp2;go_meet;exact⟨rfl,rfl,_,rfl⟩
 case rest=>
  obtain⟨rfl,rfl,n,rfl⟩:=hcut;have HM:=Ja (l.out.drewN n);have HF:=Ja (i.out.drewN (n:=n));have q0:(W1.drewN n).cell? ⟨w.heap.size,0,none⟩=_:=p0;have q2:(W1.drewN n).cell? ⟨w.heap.size,2,none⟩=_:=p2;have q4:(W1.drewN n).cell? ⟨w.heap.size,4,none⟩=_:=p4;clear la lb p0 p2 p3 p4 g l i;generalize W1.drewN n=W2 at *;go_wp2;go_ret;have e:Ending.returned (U (bits .xor .u16 IntKind.u16.max (xa:Int)))=.returned (U ((65535-xa:Nat):Int)):=zh (not16 xa q);exact e ▸ zQ.ok HM.out HF.out Zo
theorem step_18{ov:Value}(h:MachAt w K m ov)(a3:I64 oa)(a2:I64 ob)(a7:on<65536)(ab:Option Addr)(an ac:Nat){v:Int->Nat}(hv:xO w vb vn v)(d:Int):
 G 82 #[I K.pm,.agg #[O 18,O c,O oa,O ob,U on,.slice ab an ac],.map (some vb),O d] w (zQ K w (pR m (v oa))):=by
 have r:=fun(W:World) (hW:Frm K.B w W)=>(hv.kept hW).look a3
 have q:=fun(W:World) (hW:Frm K.B w W)=>(hv.kept hW).look a2
 have k:=hv.2 oa;have a6:=hv.2 ob;have a9:=h.size;have a0:=Ja (h.keep ((Below.refl _ _).alloc (Je _) (A #[O 18,O c,O oa,O ob,U on,.slice ab an ac] 77)));have j:=Ja ((Frm.refl K.B w).alloc Zo (A #[O 18,O c,O oa,O ob,U on,.slice ab an ac] 77));have la:=fun n:Nat=>r _ (j.out.drewN (n:=n))
 have lb:=fun n:Nat=>q _ (j.out.drewN (n:=n))
 have g:=zI (W:=w) (o:=A #[O 18,O c,O oa,O ob,U on,.slice ab an ac] 77) rfl;clear h hv r q;generalize v oa=xa at *;generalize v ob=xb at *;go_enter Try.func82,Try.ntmps82;go_upto_region 1 with fail;generalize a4:w.alloc (A #[O 18,O c,O oa,O ob,U on,.slice ab an ac] 77)=W1 at *;clear a4;have p0:=K0 g;have p2:=K2 g;have p3:=K3 g;have p4:=K4 g
 go_cut [9,10] (fun x y wx=>x=U xa/\y=U xb/\∃n,wx=W1.drewN n)
 case first=>
  go_quiet (fail);go_wp2;go_meet;exact⟨rfl,rfl,_,rfl⟩
 case rest=>
  obtain⟨rfl,rfl,n,rfl⟩:=hcut;have i:=Ja (a0.out.drewN n);have HF:=Ja (j.out.drewN (n:=n));have q0:(W1.drewN n).cell? ⟨w.heap.size,0,none⟩=_:=p0;have q2:(W1.drewN n).cell? ⟨w.heap.size,2,none⟩=_:=p2;have q4:(W1.drewN n).cell? ⟨w.heap.size,4,none⟩=_:=p4;clear la lb p0 p2 p3 p4 g a0 j;generalize W1.drewN n=W2 at *;have l:yg xa<65536:=Qj _ Zd;have a5:IntKind.u16.wrap ((xa:Int)+1)=((yg xa:Nat):Int):=by rw[xY];unfold yg;omega
  by_cases h1:wo xa=true
  ·by_cases h2:wo (yg xa)=true
   ·have EE:=Ja (show pR m xa=.ok (tC m xa+256*tC m (yg xa)) m by unfold pR;rw[if_pos h1,if_pos h2]);obtain⟨r1,r2,_⟩:=i.out.ramCell h1;obtain⟨r3,r4,_⟩:=i.out.ramCell h2;have C1:=Ja h1;have C2:=Ja h2;have R2:=Ja (Jb r2 r4);have t1:True:=trivial;clear h1 h2 r2 r4;go_wp2_with (first|(go_at_call 107;have a1:=t1;clear t1;go_must (refine(vX i.out xa k C1.out).mono ?_;rintro e w' ⟨rfl,rfl⟩))|(go_at_call 107;go_must (refine(vX i.out (yg xa) l C2.out).mono ?_;rintro e w' ⟨rfl,rfl⟩)))
    go_ret;rw[EE.out];have e:Ending.returned (U (bits .or .u16 (IntKind.u16.wrap (tC m xa:Int)) (IntKind.u16.wrap (IntKind.u16.wrap (tC m (yg xa):Int)*256))))=.returned (U ((tC m xa+256*tC m (yg xa):Nat):Int)):=zh (or_low _ _ R2.out.1 R2.out.2);exact e ▸ zQ.ok i.out HF.out (by have:=R2.out;omega)
   ·have t:wo (yg xa)=false:=by simpa using h2
    have EE:=Ja (show pR m xa=.trap 2 (yg xa) m by unfold pR;rw[if_pos h1,if_neg h2]);obtain⟨r1,r2,_⟩:=i.out.ramCell h1;have C1:=Ja h1;have C2:=Ja t;have t1:True:=trivial;clear h1 h2 t r2;go_wp2_with (first|(go_at_call 107;have a1:=t1;clear t1;go_must (refine(vX i.out xa k C1.out).mono ?_;rintro e w' ⟨rfl,rfl⟩))|(go_at_call 107;go_must (refine(sX i.out (yg xa) l C2.out).mono ?_;rintro e w' ⟨rfl,rfl⟩)))
    exact⟨rfl,by rw[EE.out];exact zQ.trap i.out HF.out⟩
  ·have u:wo xa=false:=by simpa using h1
   have EE:=Ja (show pR m xa=.trap 2 xa m by unfold pR;rw[if_neg h1]);have C1:=Ja u;clear h1 u;go_wp2_with (go_at_call 107;go_must (refine(sX i.out xa k C1.out).mono ?_;rintro e w' ⟨rfl,rfl⟩))
   exact⟨rfl,by rw[EE.out];exact zQ.trap i.out HF.out⟩
theorem step_19{ov:Value}(h:MachAt w K m ov)(a0:I64 oa)(u:I64 ob)(a3:on<65536)(ab:Option Addr)(an ac:Nat){v:Int->Nat}(hv:xO w vb vn v)(d:Int):
 G 82 #[I K.pm,.agg #[O 19,O c,O oa,O ob,U on,.slice ab an ac],.map (some vb),O d] w (zQ K w (abh m (v oa))):=by
 have q:=fun(W:World) (hW:Frm K.B w W)=>(hv.kept hW).look a0
 have l:=fun(W:World) (hW:Frm K.B w W)=>(hv.kept hW).look u
 have k:=hv.2 oa;have a2:=hv.2 ob;have a4:=h.size;have t:=Ja (h.keep ((Below.refl _ _).alloc (Je _) (A #[O 19,O c,O oa,O ob,U on,.slice ab an ac] 77)));have i:=Ja ((Frm.refl K.B w).alloc Zo (A #[O 19,O c,O oa,O ob,U on,.slice ab an ac] 77));have la:=fun n:Nat=>q _ (i.out.drewN (n:=n))
 have lb:=fun n:Nat=>l _ (i.out.drewN (n:=n))
 have g:=zI (W:=w) (o:=A #[O 19,O c,O oa,O ob,U on,.slice ab an ac] 77) rfl;clear h hv q l;generalize v oa=xa at *;generalize v ob=xb at *;go_enter Try.func82,Try.ntmps82;go_upto_region 1 with fail;generalize a1:w.alloc (A #[O 19,O c,O oa,O ob,U on,.slice ab an ac] 77)=W1 at *;clear a1;have p0:=K0 g;have p2:=K2 g;have p3:=K3 g;have p4:=K4 g
 go_cut [9,10] (fun x y wx=>x=U xa/\y=U xb/\∃n,wx=W1.drewN n)
 case first=>
  go_quiet (fail);go_wp2;go_meet;exact⟨rfl,rfl,_,rfl⟩
 case rest=>
  obtain⟨rfl,rfl,n,rfl⟩:=hcut;have j:=Ja (t.out.drewN n);have HF:=Ja (i.out.drewN (n:=n));have q0:(W1.drewN n).cell? ⟨w.heap.size,0,none⟩=_:=p0;have q2:(W1.drewN n).cell? ⟨w.heap.size,2,none⟩=_:=p2;have q4:(W1.drewN n).cell? ⟨w.heap.size,4,none⟩=_:=p4;clear la lb p0 p2 p3 p4 g t i;generalize W1.drewN n=W2 at *
  by_cases h1:wo xa=true
  ·have EE:=Ja (show abh m xa=.ok (tC m xa) m by unfold abh;rw[if_pos h1]);obtain⟨r1,r2,_⟩:=j.out.ramCell h1;have C1:=Ja h1;have R2:=Ja r2;clear h1 r2;go_wp2_with (go_at_call 107;go_must (refine(vX j.out xa k C1.out).mono ?_;rintro e w' ⟨rfl,rfl⟩))
   go_ret;rw[EE.out];have e:Ending.returned (U (IntKind.u16.wrap (tC m xa:Int)))=.returned (U ((tC m xa:Nat):Int)):=zh (by rw[xY];have:=R2.out;omega);exact e ▸ zQ.ok j.out HF.out (by have:=R2.out;omega)
  ·have r:wo xa=false:=by simpa using h1
   have EE:=Ja (show abh m xa=.trap 2 xa m by unfold abh;rw[if_neg h1]);have C1:=Ja r;clear h1 r;go_wp2_with (go_at_call 107;go_must (refine(sX j.out xa k C1.out).mono ?_;rintro e w' ⟨rfl,rfl⟩))
   exact⟨rfl,by rw[EE.out];exact zQ.trap j.out HF.out⟩
theorem step_20{ov:Value}(h:MachAt w K m ov)(a6:I64 oa)(a5:I64 ob)(b1:on<65536)(ab:Option Addr)(an ac:Nat){v:Int->Nat}(hv:xO w vb vn v)(d:Int):
 G 82 #[I K.pm,.agg #[O 20,O c,O oa,O ob,U on,.slice ab an ac],.map (some vb),O d] w (zQ K w (od m (v oa) (v ob))):=by
 have u:=fun(W:World) (hW:Frm K.B w W)=>(hv.kept hW).look a6
 have t:=fun(W:World) (hW:Frm K.B w W)=>(hv.kept hW).look a5
 have q:=hv.2 oa;have b0:=hv.2 ob;have b2:=h.size;have a2:=Ja (h.keep ((Below.refl _ _).alloc (Je _) (A #[O 20,O c,O oa,O ob,U on,.slice ab an ac] 77)));have l:=Ja ((Frm.refl K.B w).alloc Zo (A #[O 20,O c,O oa,O ob,U on,.slice ab an ac] 77));have la:=fun n:Nat=>u _ (l.out.drewN (n:=n))
 have lb:=fun n:Nat=>t _ (l.out.drewN (n:=n))
 have g:=zI (W:=w) (o:=A #[O 20,O c,O oa,O ob,U on,.slice ab an ac] 77) rfl;clear h hv u t;generalize v oa=xa at *;generalize v ob=xb at *;go_enter Try.func82,Try.ntmps82;go_upto_region 1 with fail;generalize a7:w.alloc (A #[O 20,O c,O oa,O ob,U on,.slice ab an ac] 77)=W1 at *;clear a7;have p0:=K0 g;have p2:=K2 g;have p3:=K3 g;have p4:=K4 g
 go_cut [9,10] (fun x y wx=>x=U xa/\y=U xb/\∃n,wx=W1.drewN n)
 case first=>
  go_quiet (fail);go_wp2;go_meet;exact⟨rfl,rfl,_,rfl⟩
 case rest=>
  obtain⟨rfl,rfl,n,rfl⟩:=hcut;have i:=Ja (a2.out.drewN n);have HF:=Ja (l.out.drewN (n:=n));have q0:(W1.drewN n).cell? ⟨w.heap.size,0,none⟩=_:=p0;have q2:(W1.drewN n).cell? ⟨w.heap.size,2,none⟩=_:=p2;have q4:(W1.drewN n).cell? ⟨w.heap.size,4,none⟩=_:=p4;clear la lb p0 p2 p3 p4 g a2 l;generalize W1.drewN n=W2 at *;have r:yg xa<65536:=Qj _ Zd;have a9:IntKind.u16.wrap ((xa:Int)+1)=((yg xa:Nat):Int):=by rw[xY];unfold yg;omega
  by_cases h1:wo xa=true
  ·by_cases h2:wo (yg xa)=true
   ·have EE:=Ja (show od m xa xb=.ok 0 ((m.put xa (xb%256)).put (yg xa) (xb/256)) by unfold od;rw[if_pos h1,if_pos h2]);obtain⟨r0,_,r1⟩:=i.out.ramCell h1;have k:=i.out.setR xa (xb%256) Zo;have j:=k.1.setR (yg xa) (xb/256) Zo;obtain⟨r2,_,r3⟩:=k.1.ramCell h2;rw[show((xb%256:Nat):Int)=(xb:Int)%256 by omega] at r2 r3 k j;rw[show((xb/256:Nat):Int)=(xb:Int)/256 by omega] at j;have C1:=Ja h1;have C2:=Ja h2;have a3:=Ja (Jb j.1 ((HF.out.trans k.2).trans j.2));have t1:True:=trivial;clear h1 h2 k j;go_wp2_with (first|(go_at_call 107;have a4:=t1;clear t1;go_must (refine(vX i.out xa q C1.out).mono ?_;rintro e w' ⟨rfl,rfl⟩))|(go_at_call 107;go_must (refine(vX i.out (yg xa) r C2.out).mono ?_;rintro e w' ⟨rfl,rfl⟩)))
    go_ret;rw[EE.out];exact zQ.ok (x:=0) a3.out.1 a3.out.2 Zd
   ·have a0:wo (yg xa)=false:=by simpa using h2
    have EE:=Ja (show od m xa xb=.trap 2 (yg xa) m by unfold od;rw[if_pos h1,if_neg h2]);obtain⟨r1,r2,_⟩:=i.out.ramCell h1;have C1:=Ja h1;have C2:=Ja a0;have t1:True:=trivial;clear h1 h2 a0 r2;go_wp2_with (first|(go_at_call 107;have a4:=t1;clear t1;go_must (refine(vX i.out xa q C1.out).mono ?_;rintro e w' ⟨rfl,rfl⟩))|(go_at_call 107;go_must (refine(sX i.out (yg xa) r C2.out).mono ?_;rintro e w' ⟨rfl,rfl⟩)))
    exact⟨rfl,by rw[EE.out];exact zQ.trap i.out HF.out⟩
  ·have a1:wo xa=false:=by simpa using h1
   have EE:=Ja (show od m xa xb=.trap 2 xa m by unfold od;rw[if_neg h1]);have C1:=Ja a1;clear h1 a1;go_wp2_with (go_at_call 107;go_must (refine(sX i.out xa q C1.out).mono ?_;rintro e w' ⟨rfl,rfl⟩))
   exact⟨rfl,by rw[EE.out];exact zQ.trap i.out HF.out⟩
theorem step_21{ov:Value}(h:MachAt w K m ov)(a2:I64 oa)(a1:I64 ob)(a5:on<65536)(ab:Option Addr)(an ac:Nat){v:Int->Nat}(hv:xO w vb vn v)(d:Int):
 G 82 #[I K.pm,.agg #[O 21,O c,O oa,O ob,U on,.slice ab an ac],.map (some vb),O d] w (zQ K w (td m (v oa) (v ob))):=by
 have r:=fun(W:World) (hW:Frm K.B w W)=>(hv.kept hW).look a2
 have q:=fun(W:World) (hW:Frm K.B w W)=>(hv.kept hW).look a1
 have l:=hv.2 oa;have a4:=hv.2 ob;have a6:=h.size;have u:=Ja (h.keep ((Below.refl _ _).alloc (Je _) (A #[O 21,O c,O oa,O ob,U on,.slice ab an ac] 77)));have j:=Ja ((Frm.refl K.B w).alloc Zo (A #[O 21,O c,O oa,O ob,U on,.slice ab an ac] 77));have la:=fun n:Nat=>r _ (j.out.drewN (n:=n))
 have lb:=fun n:Nat=>q _ (j.out.drewN (n:=n))
 have g:=zI (W:=w) (o:=A #[O 21,O c,O oa,O ob,U on,.slice ab an ac] 77) rfl;clear h hv r q;generalize v oa=xa at *;generalize v ob=xb at *;go_enter Try.func82,Try.ntmps82;go_upto_region 1 with fail;generalize a3:w.alloc (A #[O 21,O c,O oa,O ob,U on,.slice ab an ac] 77)=W1 at *;clear a3;have p0:=K0 g;have p2:=K2 g;have p3:=K3 g;have p4:=K4 g
 go_cut [9,10] (fun x y wx=>x=U xa/\y=U xb/\∃n,wx=W1.drewN n)
 case first=>
  go_quiet (fail);go_wp2;go_meet;exact⟨rfl,rfl,_,rfl⟩
 case rest=>
  obtain⟨rfl,rfl,n,rfl⟩:=hcut;have k:=Ja (u.out.drewN n);have HF:=Ja (j.out.drewN (n:=n));have q0:(W1.drewN n).cell? ⟨w.heap.size,0,none⟩=_:=p0;have q2:(W1.drewN n).cell? ⟨w.heap.size,2,none⟩=_:=p2;have q4:(W1.drewN n).cell? ⟨w.heap.size,4,none⟩=_:=p4;clear la lb p0 p2 p3 p4 g u j;generalize W1.drewN n=W2 at *
  by_cases h1:wo xa=true
  ·have EE:=Ja (show td m xa xb=.ok 0 (m.put xa (xb%256)) by unfold td;rw[if_pos h1]);obtain⟨r0,_,r1⟩:=k.out.ramCell h1;have i:=k.out.setR xa (xb%256) Zo;rw[show((xb%256:Nat):Int)=(xb:Int)%256 by omega] at i;have C1:=Ja h1;have a0:=Ja (Jb i.1 (HF.out.trans i.2));clear h1 i;go_wp2_with (go_at_call 107;go_must (refine(vX k.out xa l C1.out).mono ?_;rintro e w' ⟨rfl,rfl⟩))
   go_ret;rw[EE.out];exact zQ.ok (x:=0) a0.out.1 a0.out.2 Zd
  ·have t:wo xa=false:=by simpa using h1
   have EE:=Ja (show td m xa xb=.trap 2 xa m by unfold td;rw[if_neg h1]);have C1:=Ja t;clear h1 t;go_wp2_with (go_at_call 107;go_must (refine(sX k.out xa l C1.out).mono ?_;rintro e w' ⟨rfl,rfl⟩))
   exact⟨rfl,by rw[EE.out];exact zQ.trap k.out HF.out⟩
theorem Try.info_event:(Try.prog.info? 87).map (fun i=>(i.zero,i.size,i.bytes))=some (some (.agg #[U 0,U 0]),2,4):=by kernel_rfl
theorem p9 (E:IEnv)(b a:Nat):tS E b a<256:=by unfold tS;exact UInt8.toNat_lt _
theorem or_rom (x y:Nat)(d:x<256)(c:y<256):bits .or .u16 (x:Int) (IntKind.u16.wrap ((y:Int)*256))=((x+256*y:Nat):Int):=by
 have:=or_low x y d c;have e1:IntKind.u16.wrap (x:Int)=(x:Int):=by rw[xY];omega
 have e2:IntKind.u16.wrap (y:Int)=(y:Int):=by rw[xY];omega
 rw[e1,e2] at this;exact this
theorem xN{row:Option Nat}(h:w.drew.grownBy w' row):w.grownBy w' row:=⟨h.os,h.tape,h.output,h.size,h.block⟩
theorem ke (E:IEnv)(m:Mach)(c:∀x∈E.inn,x<65536):∃x m',uq E m=.ok x m'/\x<65536:=by
 unfold uq
 by_cases h:m.inputs<E.inn.length
 ·rw[if_pos h];exact⟨_,_,rfl,by rw[Jj,Jd h];exact c _ (Uf h)⟩
 ·rw[if_neg h];exact⟨_,_,rfl,by decide⟩
theorem step_2{ov:Value}(h:MachAt w K m ov)(a1:I64 oa)(a0:I64 ob)(a6:on<65536)(ab:Option Addr)(an ac:Nat){v:Int->Nat}(hv:xO w vb vn v)(d:Int)(hk:0<=oa/\oa.toNat<K.E.p.data.length):
 G 82 #[I K.pm,.agg #[O 2,O c,O oa,O ob,U on,.slice ab an ac],.map (some vb),O d] w (zQ K w (.ok (((K.E.p.data.getD oa.toNat ⟨0,0,0⟩).addr+on)%65536) m)):=by
 have r:=fun(W:World) (hW:Frm K.B w W)=>(hv.kept hW).look a1
 have q:=fun(W:World) (hW:Frm K.B w W)=>(hv.kept hW).look a0
 have a5:=hv.2 oa;have a4:=hv.2 ob;have b0:=h.size;have u:=Ja (h.keep ((Below.refl _ _).alloc (Je _) (A #[O 2,O c,O oa,O ob,U on,.slice ab an ac] 77)));have j:=Ja ((Frm.refl K.B w).alloc Zo (A #[O 2,O c,O oa,O ob,U on,.slice ab an ac] 77));have la:=fun n:Nat=>r _ (j.out.drewN (n:=n))
 have lb:=fun n:Nat=>q _ (j.out.drewN (n:=n))
 have g:=zI (W:=w) (o:=A #[O 2,O c,O oa,O ob,U on,.slice ab an ac] 77) rfl;clear h hv r q;generalize v oa=xa at *;generalize v ob=xb at *;go_enter Try.func82,Try.ntmps82;go_upto_region 1 with fail;generalize a2:w.alloc (A #[O 2,O c,O oa,O ob,U on,.slice ab an ac] 77)=W1 at *;clear a2;have p0:=K0 g;have p2:=K2 g;have p3:=K3 g;have p4:=K4 g
 go_cut [9,10] (fun x y wx=>x=U xa/\y=U xb/\∃n,wx=W1.drewN n)
 case first=>
  go_quiet (fail);go_wp2;go_meet;exact⟨rfl,rfl,_,rfl⟩
 case rest=>
  obtain⟨rfl,rfl,n,rfl⟩:=hcut;have HM:=Ja (u.out.drewN n);have HF:=Ja (j.out.drewN (n:=n));have q0:(W1.drewN n).cell? ⟨w.heap.size,0,none⟩=_:=p0;have q2:(W1.drewN n).cell? ⟨w.heap.size,2,none⟩=_:=p2;have q4:(W1.drewN n).cell? ⟨w.heap.size,4,none⟩=_:=p4;clear la lb p0 p2 p3 p4 g u j;generalize W1.drewN n=W2 at *;obtain⟨k,rfl⟩:∃k:Nat,oa=(k:Int):=⟨oa.toNat,by omega⟩
  have t:k<K.E.p.data.length:=Zo;have a7:(k:Int)<K.E.p.data.length:=Zo;have i:=HM.out.prog.data;obtain⟨da,dc,l,_,_⟩:=i.form;rw[l] at i;obtain⟨x,hx⟩:∃x,K.E.p.data[k]? =some x:=⟨_,Jd t⟩
  obtain⟨b,oo,rfl,_,_,a9,_,_,a3,_⟩:=i.get hx;have c4:=HM.out.c4;rw[l] at c4;have EE:=Ja (show(K.E.p.data.getD ((k:Nat):Int).toNat ⟨0,0,0⟩).addr=x.addr by rw[Ni,Jj,hx];rfl);clear hk t i l hx;go_upto_region 7 with fail;go_quiet (fail);go_wp2;go_ret;rw[EE.out];have e:Ending.returned (U (IntKind.u16.wrap ((x.addr:Int)+(on:Int))))=.returned (U (((x.addr+on)%65536:Nat):Int)):=zh (by rw[xY];omega);exact e ▸ zQ.ok (HM.out.drewN _) HF.out.drewN Zo
theorem step_22{ov:Value}(h:MachAt w K m ov)(a5:I64 oa)(a4:I64 ob)(i:on<65536)(ab:Option Addr)(an ac:Nat){v:Int->Nat}(hv:xO w vb vn v)(d:Int)(q:Hid (∀s∈K.E.p.banks,s.size=4096)):
 Calls Try.prog 82 #[I K.pm,.agg #[O 22,O c,O oa,O ob,U on,.slice ab an ac],.map (some vb),O d] w (zQ K w (im K.E m on (v oa))):=by
 have u:=fun(W:World) (hW:Frm K.B w W)=>(hv.kept hW).look a5
 have t:=fun(W:World) (hW:Frm K.B w W)=>(hv.kept hW).look a4
 have l:=hv.2 oa;have a9:=hv.2 ob;have b0:=h.size;have a2:=Ja (h.keep ((Below.refl _ _).alloc (Je _) (A #[O 22,O c,O oa,O ob,U on,.slice ab an ac] 77)));have k:=Ja ((Frm.refl K.B w).alloc Zo (A #[O 22,O c,O oa,O ob,U on,.slice ab an ac] 77));have la:=fun n:Nat=>u _ (k.out.drewN (n:=n))
 have lb:=fun n:Nat=>t _ (k.out.drewN (n:=n))
 have g:=zI (W:=w) (o:=A #[O 22,O c,O oa,O ob,U on,.slice ab an ac] 77) rfl;clear h hv u t;generalize v oa=xa at *;generalize v ob=xb at *;go_enter Try.func82,Try.ntmps82;go_upto_region 1 with fail;generalize a6:w.alloc (A #[O 22,O c,O oa,O ob,U on,.slice ab an ac] 77)=W1 at *;clear a6;have p0:=K0 g;have p2:=K2 g;have p3:=K3 g;have p4:=K4 g
 go_cut [9,10] (fun x y wx=>x=U xa/\y=U xb/\∃n,wx=W1.drewN n)
 case first=>
  go_quiet (fail);go_wp2;go_meet;exact⟨rfl,rfl,_,rfl⟩
 case rest=>
  obtain⟨rfl,rfl,n,rfl⟩:=hcut;have j:=Ja (a2.out.drewN n);have HF:=Ja (k.out.drewN (n:=n));have q0:(W1.drewN n).cell? ⟨w.heap.size,0,none⟩=_:=p0;have q2:(W1.drewN n).cell? ⟨w.heap.size,2,none⟩=_:=p2;have q4:(W1.drewN n).cell? ⟨w.heap.size,4,none⟩=_:=p4;clear la lb p0 p2 p3 p4 g a2 k;generalize W1.drewN n=W2 at *;have r:yg xa<65536:=Qj _ Zd;have a7:IntKind.u16.wrap ((xa:Int)+1)=((yg xa:Nat):Int):=by rw[xY];unfold yg;omega
  by_cases h1:pn K.E on xa=true
  ·by_cases h2:pn K.E on (yg xa)=true
   ·have EE:=Ja (show im K.E m on xa=.ok (tS K.E on xa+256*tS K.E on (yg xa)) m by unfold im;rw[if_pos h1,if_pos h2]);have C1:=Ja h1;have C2:=Ja h2;have t1:True:=trivial;have g1:=p9 K.E on xa;have g2:=p9 K.E on (yg xa);have G:=Ja (Jb g1 g2);clear h1 h2 g1 g2;go_wp2_with (first|(go_at_call 108;have a3:=t1;clear t1;go_must (refine(p8 j.out q.out on xa i l C1.out).mono ?_;rintro e w' ⟨rfl,rfl⟩))|(go_at_call 108;go_must (refine(p8 j.out q.out on (yg xa) i r C2.out).mono ?_;rintro e w' ⟨rfl,rfl⟩)))
    go_ret;rw[EE.out];have e:Ending.returned (U (bits .or .u16 (tS K.E on xa:Int) (IntKind.u16.wrap ((tS K.E on (yg xa):Int)*256))))=.returned (U ((tS K.E on xa+256*tS K.E on (yg xa):Nat):Int)):=zh (or_rom _ _ G.out.1 G.out.2);exact e ▸ zQ.ok j.out HF.out (by have:=G.out;omega)
   ·have a0:pn K.E on (yg xa)=false:=by simpa using h2
    have EE:=Ja (show im K.E m on xa=.trap 2 (yg xa) m by unfold im;rw[if_pos h1,if_neg h2]);have C1:=Ja h1;have C2:=Ja a0;have t1:True:=trivial;clear h1 h2 a0;go_wp2_with (first|(go_at_call 108;have a3:=t1;clear t1;go_must (refine(p8 j.out q.out on xa i l C1.out).mono ?_;rintro e w' ⟨rfl,rfl⟩))|(go_at_call 108;go_must (refine(kh j.out on (yg xa) i r C2.out).mono ?_;rintro e w' ⟨rfl,rfl⟩)))
    exact⟨rfl,by rw[EE.out];exact zQ.trap j.out HF.out⟩
  ·have a1:pn K.E on xa=false:=by simpa using h1
   have EE:=Ja (show im K.E m on xa=.trap 2 xa m by unfold im;rw[if_neg h1]);have C1:=Ja a1;clear h1 a1;go_wp2_with (go_at_call 108;go_must (refine(kh j.out on xa i l C1.out).mono ?_;rintro e w' ⟨rfl,rfl⟩))
   exact⟨rfl,by rw[EE.out];exact zQ.trap j.out HF.out⟩
theorem step_23{ov:Value}(h:MachAt w K m ov)(a1:I64 oa)(a0:I64 ob)(l:on<65536)(ab:Option Addr)(an ac:Nat){v:Int->Nat}(hv:xO w vb vn v)(d:Int)(a2:Hid (∀s∈K.E.p.banks,s.size=4096)):
 G 82 #[I K.pm,.agg #[O 23,O c,O oa,O ob,U on,.slice ab an ac],.map (some vb),O d] w (zQ K w (nX K.E m on (v oa))):=by
 have r:=fun(W:World) (hW:Frm K.B w W)=>(hv.kept hW).look a1
 have q:=fun(W:World) (hW:Frm K.B w W)=>(hv.kept hW).look a0
 have k:=hv.2 oa;have a4:=hv.2 ob;have a5:=h.size;have u:=Ja (h.keep ((Below.refl _ _).alloc (Je _) (A #[O 23,O c,O oa,O ob,U on,.slice ab an ac] 77)));have i:=Ja ((Frm.refl K.B w).alloc Zo (A #[O 23,O c,O oa,O ob,U on,.slice ab an ac] 77));have la:=fun n:Nat=>r _ (i.out.drewN (n:=n))
 have lb:=fun n:Nat=>q _ (i.out.drewN (n:=n))
 have g:=zI (W:=w) (o:=A #[O 23,O c,O oa,O ob,U on,.slice ab an ac] 77) rfl;clear h hv r q;generalize v oa=xa at *;generalize v ob=xb at *;go_enter Try.func82,Try.ntmps82;go_upto_region 1 with fail;generalize a3:w.alloc (A #[O 23,O c,O oa,O ob,U on,.slice ab an ac] 77)=W1 at *;clear a3;have p0:=K0 g;have p2:=K2 g;have p3:=K3 g;have p4:=K4 g
 go_cut [9,10] (fun x y wx=>x=U xa/\y=U xb/\∃n,wx=W1.drewN n)
 case first=>
  go_quiet (fail);go_wp2;go_meet;exact⟨rfl,rfl,_,rfl⟩
 case rest=>
  obtain⟨rfl,rfl,n,rfl⟩:=hcut;have j:=Ja (u.out.drewN n);have HF:=Ja (i.out.drewN (n:=n));have q0:(W1.drewN n).cell? ⟨w.heap.size,0,none⟩=_:=p0;have q2:(W1.drewN n).cell? ⟨w.heap.size,2,none⟩=_:=p2;have q4:(W1.drewN n).cell? ⟨w.heap.size,4,none⟩=_:=p4;clear la lb p0 p2 p3 p4 g u i;generalize W1.drewN n=W2 at *
  by_cases h1:pn K.E on xa=true
  ·have EE:=Ja (show nX K.E m on xa=.ok (tS K.E on xa) m by unfold nX;rw[if_pos h1]);have C1:=Ja h1;clear h1;go_wp2_with (go_at_call 108;go_must (refine(p8 j.out a2.out on xa l k C1.out).mono ?_;rintro e w' ⟨rfl,rfl⟩))
   go_ret;rw[EE.out];exact zQ.ok j.out HF.out (by have:=p9 K.E on xa;omega)
  ·have t:pn K.E on xa=false:=by simpa using h1
   have EE:=Ja (show nX K.E m on xa=.trap 2 xa m by unfold nX;rw[if_neg h1]);have C1:=Ja t;clear h1 t;go_wp2_with (go_at_call 108;go_must (refine(kh j.out on xa l k C1.out).mono ?_;rintro e w' ⟨rfl,rfl⟩))
   exact⟨rfl,by rw[EE.out];exact zQ.trap j.out HF.out⟩
theorem step_24{ov:Value}(h:MachAt w K m ov)(a0:I64 oa)(u:I64 ob)(a7:on<65536)(ab:Option Addr)(an ac:Nat){v:Int->Nat}(hv:xO w vb vn v)(d:Int)(a2:Hid (∀x∈K.E.inn,x<65536)):
 G 82 #[I K.pm,.agg #[O 24,O c,O oa,O ob,U on,.slice ab an ac],.map (some vb),O d] w (zQ K w (uq K.E m)):=by
 have l:=fun(W:World) (hW:Frm K.B w W)=>(hv.kept hW).look a0
 have k:=fun(W:World) (hW:Frm K.B w W)=>(hv.kept hW).look u
 have a6:=hv.2 oa;have a5:=hv.2 ob;have a9:=h.size;have q:=Ja (h.keep ((Below.refl _ _).alloc (Je _) (A #[O 24,O c,O oa,O ob,U on,.slice ab an ac] 77)));have j:=Ja ((Frm.refl K.B w).alloc Zo (A #[O 24,O c,O oa,O ob,U on,.slice ab an ac] 77));have la:=fun n:Nat=>l _ (j.out.drewN (n:=n))
 have lb:=fun n:Nat=>k _ (j.out.drewN (n:=n))
 have g:=zI (W:=w) (o:=A #[O 24,O c,O oa,O ob,U on,.slice ab an ac] 77) rfl;clear h hv l k;generalize v oa=xa at *;generalize v ob=xb at *;go_enter Try.func82,Try.ntmps82;go_upto_region 1 with fail;generalize a4:w.alloc (A #[O 24,O c,O oa,O ob,U on,.slice ab an ac] 77)=W1 at *;clear a4;have p0:=K0 g;have p2:=K2 g;have p3:=K3 g;have p4:=K4 g
 go_cut [9,10] (fun x y wx=>x=U xa/\y=U xb/\∃n,wx=W1.drewN n)
 case first=>
  go_quiet (fail);go_wp2;go_meet;exact⟨rfl,rfl,_,rfl⟩
 case rest=>
  obtain⟨rfl,rfl,n,rfl⟩:=hcut;have HM:=Ja (q.out.drewN n);have HF:=Ja (j.out.drewN (n:=n));have q0:(W1.drewN n).cell? ⟨w.heap.size,0,none⟩=_:=p0;have q2:(W1.drewN n).cell? ⟨w.heap.size,2,none⟩=_:=p2;have q4:(W1.drewN n).cell? ⟨w.heap.size,4,none⟩=_:=p4;clear la lb p0 p2 p3 p4 g q j;generalize W1.drewN n=W2 at *;obtain⟨x,m',r,t⟩:=ke K.E m a2.out;have i:G 109 #[I K.pm] W2 fun e w'=>e=.returned (U x)/\MachAt w' K m' ov/\Frm K.B W2 w':=by have:=jA HM.out;rw[r] at this;exact this
  have EE:=Ja r;have HC:=Ja i;clear r i;go_wp2_with (go_at_call 109;go_must (refine HC.out.mono ?_;rintro e w' ⟨rfl,a1,a3⟩))
  go_ret;rw[EE.out];exact zQ.ok a1 (HF.out.trans a3) t
theorem step_25{ov:Value}(h:MachAt w K m ov)(b1:I64 oa)(b0:I64 ob)(b2:on<65536)(ab:Option Addr)(an ac:Nat){v:Int->Nat}(hv:xO w vb vn v)(d:Int)(b3:m.out.length+1+m.fuel.toNat<=4000000):
 G 82 #[I K.pm,.agg #[O 25,O c,O oa,O ob,U on,.slice ab an ac],.map (some vb),O d] w (zQ K w (adS m on (v oa))):=by
 have a0:=fun(W:World) (hW:Frm K.B w W)=>(hv.kept hW).look b1
 have u:=fun(W:World) (hW:Frm K.B w W)=>(hv.kept hW).look b0
 have a9:=hv.2 oa;have b9:=hv.2 ob;have c2:=h.size;have a1:=Ja (h.keep ((Below.refl _ _).alloc (Je _) (A #[O 25,O c,O oa,O ob,U on,.slice ab an ac] 77)));have l:=Ja ((Frm.refl K.B w).alloc Zo (A #[O 25,O c,O oa,O ob,U on,.slice ab an ac] 77));have la:=fun n:Nat=>a0 _ (l.out.drewN (n:=n))
 have lb:=fun n:Nat=>u _ (l.out.drewN (n:=n))
 have g:=zI (W:=w) (o:=A #[O 25,O c,O oa,O ob,U on,.slice ab an ac] 77) rfl;clear h hv a0 u;generalize v oa=xa at *;generalize v ob=xb at *;go_enter Try.func82,Try.ntmps82;go_upto_region 1 with fail;generalize b5:w.alloc (A #[O 25,O c,O oa,O ob,U on,.slice ab an ac] 77)=W1 at *;clear b5;have p0:=K0 g;have p2:=K2 g;have p3:=K3 g;have p4:=K4 g
 go_cut [9,10] (fun x y wx=>x=U xa/\y=U xb/\∃n,wx=W1.drewN n)
 case first=>
  go_quiet (fail);go_wp2;go_meet;exact⟨rfl,rfl,_,rfl⟩
 case rest=>
  obtain⟨rfl,rfl,n,rfl⟩:=hcut;have k:=Ja (a1.out.drewN n);have HF:=Ja (l.out.drewN (n:=n));have q0:(W1.drewN n).cell? ⟨w.heap.size,0,none⟩=_:=p0;have q2:(W1.drewN n).cell? ⟨w.heap.size,2,none⟩=_:=p2;have q4:(W1.drewN n).cell? ⟨w.heap.size,4,none⟩=_:=p4;clear la lb p0 p2 p3 p4 g a1 l;generalize W1.drewN n=W2 at *;obtain⟨ii,b4,a4,a3,a2⟩:=info_parts Try.info_event;have c10:=k.out.c10;have b6:=k.out.free 10;have i:=k.out.out;have r:=lt_of_block k.out.blk;have nb:=zC i k.out.blk (.inr Zd);obtain⟨oa',oc',rfl⟩:=zG i;have a7:=Ja i;have c0:m.out.length<=4000000:=Zo;have a6:∀o,T (W2.alloc o) K.pm 10 (.slice oa' m.out.length oc'):=fun o=>(Oo (w:=W2) (Below.heap_alloc _ _ _ r)).trans c10
  have a5:∀o,N (W2.alloc o) K.pm 10:=fun o=>(Qm (w:=W2) (Below.heap_alloc _ _ _ r)).trans b6
  have c4:K.B<W2.heap.size:=k.out.size;clear i;go_upto_region 30 with fail
  go_region_law (first|(refine step_append_lies _ (by rfl) (.tmp 145) (.tmp 150) _ (by rfl) K.B 87 ii (.agg #[U 0,U 0]) 2 4 Try.underlying53 b4 a4 a3 a2 rfl Zo (.slice oa' m.out.length oc') m.out.length (qO m.out) (by rfl) ((a7.out.alloc _).drew) ⟨W2.heap.size,0,none⟩ 1 1 [U on,U xa] (by rfl) (by rfl) (Oi (cs:=#[U on,U xa]) (t:=87) (fr:=(0,0)) (heap_alloc_new W2 _)) (by simp[Value.oneCell']) Zo (by unfold maxLen;omega) Zo Zt (W2.heap.size+1) Zs ?_;intro gg b8 w3 q j c3 b7;have c7:=(j.cell_far ⟨K.pm,10,none⟩ Zt (Ne.symm nb)).trans (a6 _);have c5:=(j.frozen_far ⟨K.pm,10,none⟩ Zt (Ne.symm nb)).trans (a5 _)))
  all_goals go_wp2_with fail
  all_goals go_ret
  all_goals (
   have hO:=k.out.setO (p:=on) (x:=xa) (xN j) (by simpa[vL] using q) b2 a9 b3
   exact zQ.ok (x:=0) hO.1 (HF.out.trans hO.2) Zd)
theorem step_ar{ov:Value}(h:MachAt w K m ov){oc g:Int}(a1:I64 oa)(a0:I64 ob)(b4:on<65536)(ab:Option Addr)(an ac:Nat){v:Int->Nat}(hv:xO w vb vn v)(d:Int)(hc:5<=oc/\oc<=17):
 G 82 #[I K.pm,.agg #[O oc,O g,O oa,O ob,U on,.slice ab an ac],.map (some vb),O d] w (zQ K w (iy m oc (v oa) (v ob))):=by
 have t:=fun(W:World) (hW:Frm K.B w W)=>(hv.kept hW).look a1
 have r:=fun(W:World) (hW:Frm K.B w W)=>(hv.kept hW).look a0
 have q:=hv.2 oa;have l:=hv.2 ob;have b5:=h.size;have u:=Ja (h.keep ((Below.refl _ _).alloc (Je _) (A #[O oc,O g,O oa,O ob,U on,.slice ab an ac] 77)));have j:=Ja ((Frm.refl K.B w).alloc Zo (A #[O oc,O g,O oa,O ob,U on,.slice ab an ac] 77));have la:=fun n:Nat=>t _ (j.out.drewN (n:=n))
 have lb:=fun n:Nat=>r _ (j.out.drewN (n:=n))
 have i:=zI (W:=w) (o:=A #[O oc,O g,O oa,O ob,U on,.slice ab an ac] 77) rfl;clear h hv t r;generalize v oa=xa at *;generalize v ob=xb at *;go_enter Try.func82,Try.ntmps82;go_upto_region 1 with fail;generalize a2:w.alloc (A #[O oc,O g,O oa,O ob,U on,.slice ab an ac] 77)=W1 at *;clear a2;have p0:=K0 i;have p2:=K2 i;have p3:=K3 i;have p4:=K4 i
 go_cut [9,10] (fun x y wx=>x=U xa/\y=U xb/\∃n,wx=W1.drewN n)
 case first=>
  go_quiet (fail);go_wp2;go_meet;exact⟨rfl,rfl,_,rfl⟩
 case rest=>
  obtain⟨rfl,rfl,n,rfl⟩:=hcut;have HM:=Ja (u.out.drewN n);have HF:=Ja (j.out.drewN (n:=n));have q0:(W1.drewN n).cell? ⟨w.heap.size,0,none⟩=_:=p0;have q2:(W1.drewN n).cell? ⟨w.heap.size,2,none⟩=_:=p2;have q4:(W1.drewN n).cell? ⟨w.heap.size,4,none⟩=_:=p4;clear la lb p0 p2 p3 p4 i u j;generalize W1.drewN n=W2 at *;have t1:((oc:Int)==1)=false:=Ze;have t2:((oc:Int)==2)=false:=Ze;have t3:((oc:Int)==3)=false:=Ze;have t4:((oc:Int)==4)=false:=Ze;have b3:((oc:Int)==18)=false:=Ze;have b2:((oc:Int)==19)=false:=Ze;have b1:((oc:Int)==20)=false:=Ze;have b0:((oc:Int)==21)=false:=Ze;have a9:((oc:Int)==22)=false:=Ze;have a7:((oc:Int)==23)=false:=Ze;have a6:((oc:Int)==24)=false:=Ze;have a5:((oc:Int)==25)=false:=Ze;have a4:((oc:Int)==26)=false:=Ze;have a3:((oc:Int)==27)=false:=Ze;have c:=jD oc hc xa xb q l;unfold rq at c
  by_cases k:oc=8/\xb=0
  ·have EE:=Ja (show iy m oc xa xb=.trap 4 0 m by unfold iy;rw[if_pos k]);simp only[if_pos k] at c;have HC:=Ja c;clear hc c k;go_wp2_with (go_at_call 111;go_must (refine(HC.out _).mono ?_;rintro e w' ⟨rfl,rfl⟩))
   exact⟨rfl,by rw[EE.out];exact zQ.trap HM.out HF.out⟩
  ·have EE:=Ja (show iy m oc xa xb=.ok (yW oc xa xb) m by unfold iy;rw[if_neg k]);simp only[if_neg k] at c;have HC:=Ja c;clear hc c k;go_wp2_with (go_at_call 111;go_must (refine(HC.out _).mono ?_;rintro e w' ⟨rfl,rfl⟩))
   go_ret;rw[EE.out];exact zQ.ok HM.out HF.out (jz _ _ _ q l)
def pq (K:MK)(r:Nat):Prop:=
 ∀(w:World) (m:Mach) (ov av:Value) (f:Int) (args:List Nat),MachAt w K m ov->0<=f->f.toNat<K.E.p.funcs.length->wV w w.heap.size av args->(args.length:Int)=K.E.p.args.getD f.toNat 0->
  G 52 #[I K.pm,O f,av,O (101-(r:Int))] w (zQ K w (xW K.E r f args m))
theorem Try.info_u16:(Try.prog.info? 39).map (fun i=>(i.zero,i.size,i.bytes))=some (some (U 0),1,2):=by kernel_rfl
theorem ms{S:Nat}{av:Value}{n:Nat}{xs:List Nat}(h:w.ownsRow S 39 1 av n (xs.map vL))(j:xs.length=n)(i:∀x∈xs,x<65536):wV w w.heap.size av xs:=by
 subst j;obtain⟨a,c,rfl⟩:=zG h;have hl:=zm h;refine⟨a,c,rfl,hl.1,by omega,fun k x hk=>?_⟩;have l:=(Jh.1 hk).1;obtain⟨g,m,e,hg,d⟩:=h.form Zo;cases e;refine⟨g,0,rfl,d,?_,i x (Ji hk)⟩;rw[Nk,Ng];exact(h.cellAt k Zo).trans (by rw[Jr,hk];rfl)
def uT (v:Int->Nat)(xs:List Int)(k:Nat):List Nat:=(xs.take k).map v
theorem qH{v:Int->Nat}(h:xs[k]? =some x):uT v xs (k+1)=uT v xs k++ [v x]:=by unfold uT;rw[Nh,h,Js];rfl
theorem pA{v:Int->Nat}(h:k<=xs.length):(uT v xs k).length=k:=by unfold uT;rw[Nr,Oc];omega
theorem r8{v:Int->Nat}:uT v xs xs.length=xs.map v:=by unfold uT;rw[Nl]
theorem step_26{ov:Value}(h:MachAt w K m ov){d:Int}(d4:I64 oa)(d3:I64 ob)(e9:on<65536){av:Value}(a4:zY w w.heap.size av xs)(e7:xs.length<=65536)
  {v:Int->Nat} (hv:xO w vb vn v) {r:Nat} (hr:r<=100) (hC:pq K r) (hf:0<=oa/\oa.toNat<K.E.p.funcs.length/\(xs.length:Int)=K.E.p.args.getD oa.toNat 0):
 G 82 #[I K.pm,.agg #[O 26,O d,O oa,O ob,U on,av],.map (some vb),O (100-(r:Int))] w (zQ K w (xW K.E r oa (xs.map v) m)):=by
 obtain⟨ab,ac,rfl,f2,e5⟩:=a4.form;have c0:=fun(W:World) (hW:Frm K.B w W)=>(hv.kept hW).look d4
 have b9:=fun(W:World) (hW:Frm K.B w W)=>(hv.kept hW).look d3
 have f0:=h.size;have c3:=Ja (h.keep ((Below.refl _ _).alloc (Je _) (A #[O 26,O d,O oa,O ob,U on,.slice ab xs.length ac] 77)));have a1:=Ja ((Frm.refl K.B w).alloc Zo (A #[O 26,O d,O oa,O ob,U on,.slice ab xs.length ac] 77));have c2:=Ja (a4.below zO ((Below.refl w.heap.size w).alloc (Je _) (A #[O 26,O d,O oa,O ob,U on,.slice ab xs.length ac] 77)));have la:=fun n:Nat=>c0 _ (a1.out.drewN (n:=n))
 have lb:=fun n:Nat=>b9 _ (a1.out.drewN (n:=n))
 have j:=zI (W:=w) (o:=A #[O 26,O d,O oa,O ob,U on,.slice ab xs.length ac] 77) rfl;have b8:=Ja (hv.kept a1.out);have HC:=Ja hC;have b3:=Ja hf;have a5:w.heap.size<(w.alloc (A #[O 26,O d,O oa,O ob,U on,.slice ab xs.length ac] 77)).heap.size:=by simp
 clear h hv c0 b9 a4 hC hf;obtain⟨xa,b6⟩:∃xa,v oa=xa:=⟨_,rfl⟩
 obtain⟨xb,b5⟩:∃xb,v ob=xb:=⟨_,rfl⟩
 rw[b6] at la;rw[b5] at lb;clear b6 b5;go_enter Try.func82,Try.ntmps82;go_upto_region 1 with fail;generalize d7:w.alloc (A #[O 26,O d,O oa,O ob,U on,.slice ab xs.length ac] 77)=W1 at *;clear d7;have p0:=K0 j;have p2:=K2 j;have p3:=K3 j;have p5:=K5 j
 go_cut [9,10] (fun x y wx=>x=U xa/\y=U xb/\∃n,wx=W1.drewN n)
 case first=>
  go_quiet (fail);go_wp2;go_meet;exact⟨rfl,rfl,_,rfl⟩
 case rest=>
  obtain⟨rfl,rfl,n,rfl⟩:=hcut;have HM:=Ja (c3.out.drewN n);have HF:=Ja (a1.out.drewN (n:=n));have b2:=Ja ((b8.out.kept (Frm.refl K.B W1).drewN:xO (W1.drewN n) vb vn v));have e0:=Ja (c2.out.below zO (yL w.heap.size W1 n));have q0:(W1.drewN n).cell? ⟨w.heap.size,0,none⟩=_:=p0;have q2:(W1.drewN n).cell? ⟨w.heap.size,2,none⟩=_:=p2;have q5:(W1.drewN n).cell? ⟨w.heap.size,5,none⟩=_:=p5;have d2:w.heap.size<(W1.drewN n).heap.size:=a5;clear la lb p0 p2 p3 p5 j c3 a1 b8 c2 a5;generalize W1.drewN n=W2 at *;go_wp2
  go_loopw [15,159] (fun rv kv wx=>∃k:Nat,k<=xs.length/\kv=O k/\Hid (wx.ownsRow W2.heap.size 39 1 rv k ((uT v xs k).map vL)/\L W2 wx)) (fun _ kv _=>xs.length-(intOf kv).toNat)
  case atStart=>exact⟨0,Jt _,rfl,Jv _ _ _ _,Below.refl _ _⟩
  case round=>
   obtain⟨k,hk,rfl,q⟩:=hrel;obtain⟨ra,rc,rfl⟩:=zG q.out.1;have a3:Frm K.B W2 wr:=⟨q.out.2.mono (by have:=HM.out.size;omega),fun i o hi _=>zH q.out.2 hi (lt_of_block hi)⟩
   by_cases a7:k<xs.length
   ·have l:(k:Int)<xs.length:=Zo;have c5:=Ja a7;obtain⟨x,hx⟩:∃x,xs[k]? =some x:=⟨_,Jd a7⟩
    obtain⟨b,o,rfl,hb,b0,d1⟩:=e0.out.get hx;rw[Nk] at b0;have cx:=(q.out.2.cell (p:=⟨b,o+k,none⟩) (by show b<W2.heap.size;omega)).trans b0;have lx:=(b2.out.kept a3).look d1;have e8:=b2.out.2 x;have d8:=Ja (qH (v:=v) hx);have f1:=pA (v:=v) (show k<=xs.length by omega);obtain⟨ii,d5,d0,c9,c8⟩:=info_parts Try.info_u16;have e2:=q.out.2.size;clear hx b0 a7;generalize v x=vx at *;go_wp2_with (at_builtin;go_must (refine wpList_append_lies _ rfl (.tmp 163) (.tmp 167) 36 rfl W2.heap.size 39 ii (U 0) 1 2 Try.underlying36 d5 d0 c9 c8 rfl Zd _ k ((uT v xs k).map vL) rfl (q.out.1.alloc _) ⟨wr.heap.size,0,none⟩ 1 1 [U vx] rfl rfl (Oi (cs:=#[U vx]) (zI Zs)) (by simp[Value.oneCell']) Zd (by unfold maxLen;omega) Zo Zt (wr.heap.size+1) Zs ?_;intro gq e6 w6 a2 u e4 e3;have c4:=Ja (Jb a2 u);clear a2 u))
    go_roundw
    case rel=>
     refine⟨k+1,c5.out,by go_num,?_,(q.out.2.alloc Zo _).grown c4.out.2 Zt (fun k hk=>(q.out.1.lt k hk).1)⟩;rw[d8.out,Js];exact c4.out.1
    case measure=>have:=c5.out;simp[intOf];omega
   ·obtain rfl:k=xs.length:=by omega
    have l:¬(xs.length:Int)<xs.length:=Zo;have t:=q.out.1;rw[r8] at t;have e1:wr.cell? ⟨w.heap.size,2,none⟩=_:=(q.out.2.cell (p:=⟨w.heap.size,2,none⟩) d2).trans q2;have b1:=HM.out.keep q.out.2;have c:=HC.out wr m ov (.slice ra xs.length rc) oa (xs.map v) b1 b3.out.1 b3.out.2.1 (ms t Zs (fun y hy=>by obtain⟨z,_,rfl⟩:=Nu.1 hy;exact b2.out.2 z)) (by simpa using b3.out.2.2);have c7:=Ja (HF.out.trans a3)
    cases g:xW K.E r oa (xs.map v) m with
    |ok x m'=>
     have a0:G 52 #[I K.pm,O oa,.slice ra xs.length rc,O (101-(r:Int))] wr fun e w'=>e=.returned (U x)/\(∃ov',MachAt w' K m' ov')/\Frm K.B wr w'/\x<65536:=by rw[g] at c;exact c
     have b4:=Ja a0;have HR:=Ja g;clear c a0 g t b1 a3 l;have l:¬(xs.length:Int)<xs.length:=Zo;have d6:(100-(r:Int))+1=101-(r:Int):=Zo;go_wp2_with (go_at_call 52;go_must (refine b4.out.mono ?_;rintro e w' ⟨rfl,⟨ov',a6⟩,a9,b7⟩))
     go_ret;rw[HR.out]
     exact zQ.ok a6 (c7.out.trans a9) b7
    |trap k i m'=>
     have a0:G 52 #[I K.pm,O oa,.slice ra xs.length rc,O (101-(r:Int))] wr fun e w'=>e=.panicked [oE k i]/\(∃ov',MachAt w' K m' ov')/\Frm K.B wr w'/\True:=by rw[g] at c;exact c
     have b4:=Ja a0;have HR:=Ja g;clear c a0 g t b1 a3 l;have l:¬(xs.length:Int)<xs.length:=Zo;have d6:(100-(r:Int))+1=101-(r:Int):=Zo;go_wp2_with (go_at_call 52;go_must (refine b4.out.mono ?_;rintro e w' ⟨rfl,⟨ov',a6⟩,a9,b7⟩))
     exact⟨rfl,by rw[HR.out];exact zQ.trap a6 (c7.out.trans a9)⟩
theorem aeA (p:Addr)(w:World):
 CallsD Try.prog 51 #[.pointer (some p)] .returning w fun e u' w'=>e=.returned (.tuple #[])/\u'=.returning/\w=w':=by
 refine callsD_of_wpS Try.func51 rfl fun c₀ cs hu=>?_
 apply wpS_seq;apply wpS_region;simp[wpOpsS,go_sem,recoverD,hu,Try.ntmps51,Exit.thenS];apply wpS_seq;apply wpS_seq;apply wpS_region;simp[wpOpsS,go_sem,recoverD,hu,Try.ntmps51,Exit.thenS];refine wpS_cond (t:=true) (by simp[Act.eval,Array.replicate]) ?_;simp only[if_true];refine wpS_of_wp (wp_ret ?_);cases c₀
 simp_all [Exit.thenS,bodyPostS,results,Try.results51]
theorem kA (v:Value)(w:World):(Instr.typeAssert (.iface 107 v) 20 107 true).run Try.prog w=.ok (.tuple #[v,.bool true]) w:=by kernel_rfl
theorem pi{ov:Value}(h:MachAt w K m ov){b12 b13:Nat}(r:Y w b13 #[I K.pm] 102)(u:Y w b12 #[U 0,F,O 0,U 0,.string {data:=#[]},O 0,O 0] 57)
 (o:T w d 0 (.func (.func 50) #[] #[I b13,I b12])) (k i:Nat) (j:List PanicEntry):
 CallsD Try.prog 51 #[I d] (.panicking (oE k i::j)) w fun e u' w'=>
  e=.returned (.tuple #[])/\u'=.panicking ({oE k i with recovered:=true }::j)/\Y w' b12 (yV 0 ov k i (y9 m.ram) m.inputs m.polls) 57/\w.grownBy w' (some b12):=by
 refine callsD_of_wpS Try.func51 rfl fun c₀ cs g=>?_
 unfold oE at g ⊢;apply wpS_seq;apply wpS_region;simp[wpOpsS,go_sem,recoverD,g,Try.ntmps51,Exit.thenS];apply wpS_seq;apply wpS_seq;apply wpS_region;simp[wpOpsS,go_sem,recoverD,g,Try.ntmps51,Exit.thenS];refine wpS_cond (t:=false) (by simp[Act.eval,Array.replicate]) ?_;simp only[Bool.false_eq_true,if_false];refine wpS_of_wp (wp_skip ?_);simp only[Exit.thenS];refine wpS_of_wp ?_;have a1:=kA (.agg #[O k,U i]);have HH:=Ja h;have HU:=Ja g;have H2:=Ja (Jb r u);clear h g r u
 have e:(#[Value.pointer (some ⟨d,0,none⟩)]++(((((Array.replicate 18 undef).setIfInBounds 3 (Value.iface 107 (.agg #[O k,U i]))).setIfInBounds 0 (Value.iface 107 (.agg #[O k,U i]))).setIfInBounds 4 (Value.iface 107 (.agg #[O k,U i]))).setIfInBounds 5 (Value.bool false)):Array Value)=#[.pointer (some ⟨d,0,none⟩),.iface 107 (.agg #[O k,U i]),undef,undef,.iface 107 (.agg #[O k,U i]),.iface 107 (.agg #[O k,U i]),.bool false,undef,undef,undef,undef,undef,undef,undef,undef,undef,undef,undef,undef]:=by
  simp[Array.replicate,List.replicate]
 rw[e];clear e;have x:=Jw w _ o;have a0:(w.alloc (A #[O k,U i] 107)).cell? ⟨d,0,none⟩=_:=(Oo (w:=w) (Below.heap_alloc _ _ _ x)).trans o;have y:=HH.out.keep ((Below.refl _ _).alloc (Je _) (A #[O k,U i] 107));have hF:=Ja (pE y (b12:=b12) (b13:=b13) (zB H2.out.1) (zB H2.out.2) k i 0);clear y;go_wp2_with (go_at_call 50;go_must (refine hF.out.mono ?_;rintro e w4 ⟨rfl,h5,l⟩))
 have hg:w.grownBy w4 (some b12):=⟨l.os,l.tape,l.output,Jn Zs l.size,fun q hq hn=>(l.block q Zt hn).trans (Below.heap_alloc _ _ _ hq)⟩
 have g:=HU.out;cases c₀;simp only at g;simp[bodyPostS,results,Try.results51,h5,hg]
def um (stk:List (Nat×Nat)):List Value:=stk.flatMap fun p=> [zj p.1,zj p.2]
theorem vH (c:List (Nat×Nat))(u j:Nat):um (c++ [(u,j)])=um c++ [zj u,zj j]:=by simp[um]
theorem yK (c:List (Nat×Nat)):(um c).length=2*c.length:=by
 induction c with
 |nil=>rfl
 |cons p r ih=>simp only[um,Qa,Jk,Nq,Ow] at ih ⊢;omega
structure Dfs (w0 w:World) (B0 n Bv Bs Bk:Nat) (seen:List Bool) (stk:List (Nat×Nat)) (pv:Value) (post:List Nat):Prop where
 hv:w.heap[Bv]? =some (.cells #[.slice (some ⟨Bs,0,none⟩) n n] 141 (0,0))
 hs:w.heap[Bs]? =some (.cells (seen.map uo).toArray 4 (0,0))
 hl:seen.length=n
 hk:∃sv,w.heap[Bk]? =some (.cells #[sv] 163 (0,0))/\w.ownsRow (Bk+1) 165 2 sv stk.length (um stk)
 lt:B0<=Bs/\Bs<Bv/\Bv<Bk
 hp:w.ownsRow (Bk+1) 3 1 pv post.length (post.map zj)
 hb:Below B0 w0 w
theorem Dfs.drewN{n:Nat}{c:List (Nat×Nat)}{pv:Value}(h:Dfs w0 w B0 n Bv Bs Bk seen c pv post):Dfs w0 (w.drewN k) B0 n Bv Bs Bk seen c pv post:=
 ⟨h.hv,h.hs,h.hl,h.hk,h.lt,h.hp,yC h.hb⟩
theorem Dfs.push{w2:World}{n:Nat}{d:List (Nat×Nat)}{pv g:Value}{c:List Nat}{o:Obj}(h:Dfs w0 w B0 n Bv Bs Bk seen d pv c)
 (hg:(w.alloc o).grownBy w2 pv.ownBlock) (j:w2.ownsRow (Bk+1) 3 1 g (c.length+1) (c.map zj++ [zj u])):Dfs w0 w2 B0 n Bv Bs Bk seen d g (c++ [u]):=by
 obtain⟨hv,hs,hl,⟨sv,hk,i⟩,l,hp,hb⟩:=h;have hB:=lt_of_block hk
 refine⟨zL hg (zB hv) (zC hp hv (.inl Zo)),zL hg (zB hs) (zC hp hs (.inl Zo)),hl,
  ⟨sv,zL hg (zB hk) (zC hp hk (.inl Zo)),(i.alloc o).kept hg (zo i hp Zd)⟩,l,?_,?_⟩
 ·simpa using j
 ·exact Below.grown (hb.alloc Zo o) hg Zt (fun k hk'=>by have:=hp.lt k hk';omega)
theorem Dfs.popStk{n:Nat}{pv:Value}(h:Dfs w0 w B0 n Bv Bs Bk seen (st++ [(u,j)]) pv post)
 (y:Y w Bk #[Q gk (st.length+1) cp] 163):Dfs w0 (w.setCell ⟨Bk,0,none⟩ (Q gk st.length cp)) B0 n Bv Bs Bk seen st pv post:=by
 obtain⟨hv,hs,hl,⟨sv,hk,c⟩,i,hp,hb⟩:=h;obtain rfl:=mg hk y;simp only[Jk,Nq,Ow,Ng,vH] at c;refine⟨zR hv (show Bv≠Bk by omega),zR hs (show Bs≠Bk by omega),hl,⟨_,one_setCell hk,?_⟩,i,ownsRow_setCell_other hp (zC (b:=Bk) hp hk (.inl Zo)) _,hb.setCell (show B0<=Bk by omega) _⟩;have h1:=ownsRow_setCell_other c (a:=⟨Bk,0,none⟩) (zC (b:=Bk) c hk (.inl Zo)) (Q gk st.length cp);obtain⟨t,x⟩:=h1;refine⟨by rw[yK];omega,.inr ?_⟩;rcases x with⟨r,_⟩|⟨g',a0,cur,g,m,k,a1,q,o,d⟩
 ·cases r
 ·cases g;refine⟨gk,cp,cur,rfl,m,k,by omega,q,o,?_⟩;have:=congrArg (List.take (st.length*2)) d;rw[List.take_take,Ud Zo,List.take_append_of_le_length (by rw[yK];omega),Oy (l:=um st) (by rw[yK];omega)] at this;exact this
theorem Dfs.bump{n:Nat}{pv:Value}(h:Dfs w0 w B0 n Bv Bs Bk seen (st++ [(u,j)]) pv post)
 (k:Y w Bk #[Q gk (st.length+1) cp] 163):Dfs w0 (w.setCell ⟨gk,st.length*2+1,none⟩ (zj (j+1))) B0 n Bv Bs Bk seen (st++ [(u,j+1)]) pv post:=by
 obtain⟨hv,hs,hl,⟨sv,hk,c⟩,i,hp,hb⟩:=h;obtain rfl:=mg hk k;simp only[Jk,Nq,Ow,Ng,vH] at c;have l:=c.lt gk rfl;have g:=zo hp c Zd;refine⟨zR hv (show Bv≠gk by omega),zR hs (show Bs≠gk by omega),hl,⟨_,zR hk (show Bk≠gk by omega),?_⟩,i,ownsRow_setCell_other hp ?_ _,hb.setCell (show B0<=gk by omega) _⟩
 ·have:=(c.stored (st.length*2+1) (zj (j+1))).1;simp only[Jk,Nq,Ow,Ng,vH] at this ⊢
  have e:(um st++ [zj u,zj j]).set (st.length*2+1) (zj (j+1))=um st++ [zj u,zj (j+1)]:=by
   rw[Uj _ _ (by rw[yK];omega),yK,show st.length*2+1-2*st.length=1 by omega];rfl
  rw[e] at this;exact this
 ·rcases g with d|d
  ·rw[d];simp
  ·exact d
theorem Try.info_frame:(Try.prog.info? 165).map (fun i=>(i.zero,i.size,i.bytes))=some (some (.agg #[O 0,O 0]),2,16):=by kernel_rfl
theorem Try.info_int:(Try.prog.info? 3).map (fun i=>(i.zero,i.size,i.bytes))=some (some (O 0),1,8):=by kernel_rfl
theorem Try.info_bool:(Try.prog.info? 4).map (fun i=>(i.zero,i.size,i.bytes))=some (some (.bool false),1,1):=by kernel_rfl
theorem oF (w0 w:World)(B0 n Bv Bs Bk:Nat)(seen:List Bool)(d:List (Nat×Nat))(pv:Value)(post:List Nat)(u:Nat)(h:Dfs w0 w B0 n Bv Bs Bk seen d pv post)(hu:u<n)(hm:d.length<=2000000):
 G 103 #[O u,I Bv,I Bk] w fun e w'=>e=.returned (.tuple #[])/\Dfs w0 w' B0 n Bv Bs Bk (seen.set u true) (d++ [(u,0)]) pv post:=by
 obtain⟨i0,hi,a3,a2,a1⟩:=info_parts Try.info_frame;obtain⟨hv,hs,hl,⟨sv,hk,m⟩,a5,hp,o⟩:=h;have cv:=cell_of_one hv;obtain⟨b0,y⟩:∃b0,seen[u]? =some b0:=⟨_,Jd Zo⟩
 have cs:T w Bs u (.bool b0):=zA hs (by simp[y,uo]);have fs:N w Bs u:=zE hs;have HV:Hid ((w.setCell ⟨Bs,u,none⟩ (.bool true)).heap[Bv]? =_):=zR hv (show Bv≠Bs by omega);have l:(w.setCell ⟨Bs,u,none⟩ (.bool true)).heap[Bk]? =_:=zR hk (show Bk≠Bs by omega);have HS:Hid ((w.setCell ⟨Bs,u,none⟩ (.bool true)).heap[Bs]? =_):=zD hs (.bool true);have b6:=cell_of_one l;have own1:(w.setCell ⟨Bs,u,none⟩ (.bool true)).ownsRow (Bk+1) 165 2 sv d.length (um d):=ownsRow_setCell_other m (zC (b:=Bs) m hs (.inl Zo)) _;have t:(w.setCell ⟨Bs,u,none⟩ (.bool true)).ownsRow (Bk+1) 3 1 pv post.length (post.map zj):=ownsRow_setCell_other hp (zC (b:=Bs) hp hs (.inl Zo)) _;have HB:Hid (Bk+1<=(w.setCell ⟨Bs,u,none⟩ (.bool true)).heap.size):=lt_of_block l;have a0:=Ja (o.setCell (p:=⟨Bs,u,none⟩) (show B0<=Bs by omega) (.bool true));have HK:=Ja l;have HP:=Ja t;clear hs hv y hk l hp t o;go_enter Try.func103,Try.ntmps103;go_wp2_with (at_builtin;go_must (refine wpList_append_lies _ rfl (.tmp 7) (.tmp 10) 163 rfl (Bk+1) 165 i0 _ 2 16 Try.underlying163 hi a3 a2 a1 rfl Zd sv d.length (um d) rfl (own1.alloc _) ⟨w.heap.size,0,none⟩ 1 1 [O u,O 0] rfl rfl (Oi (cs:=#[O u,O 0]) (zI Zs)) (by simp[Value.oneCell']) Zd (by unfold maxLen;omega) Zo (by have:=HB.out;simp at this ⊢;omega) _ rfl ?_;intro g a7 w1 i c b3 b2;have j:=zL c (zB HK.out) (zC own1 HK.out (.inl Zo));have b5:=cell_of_one j;have b4:=free_of_one j;have q:=Ja j;have a9:=Ja (zL c (zB HV.out) (zC own1 HV.out (.inl Zo)));have b1:=Ja (zL c (zB HS.out) (zC own1 HS.out (.inl Zo)));clear j))
 go_end0
 have a4:=zo HP.out own1 Zd;have r:=(HP.out.alloc (A #[O u,O 0] 165)).kept c a4;have a6:=HB.out;refine⟨rfl,⟨?_,?_,by simp[hl],⟨_,one_setCell q.out,?_⟩,a5,?_,?_⟩⟩
 ·exact zR a9.out (show Bv≠Bk by omega)
 ·rw[zR b1.out (show Bs≠Bk by omega)];refine congrArg some (congrArg (fun x=>Obj.cells x _ _) ?_);simp[Ox,uo]
 ·have:=ownsRow_setCell_other i (a:=⟨Bk,0,none⟩) (zC (b:=Bk) i q.out (.inl Zo)) (Q g (d.length+1) a7);rw[vH,Jk];exact this
 ·exact ownsRow_setCell_other r (zC (b:=Bk) r q.out (.inl Zo)) _
 ·refine Below.setCell (Below.grown (a0.out.alloc Zo _) c (by simp at a6 ⊢;omega) ?_) (show B0<=Bk by omega) _;intro k hk;have:=own1.lt k hk;omega
def fJ (w:World)(xs:List Nat)(e:Ending)(w':World):Prop:=∃v,e=.returned v/\w'.ownsRow w.heap.size 3 1 v xs.length (xs.map zj)/\L w w'
theorem k8(hv:zw g):(decide (0<(g.map (List.map Int.ofNat)).length) && pB (g.map (List.map Int.ofNat)))=true:=by
 obtain⟨d,h1⟩:=hv;simp only[Nr,Jm,decide_eq_true_eq,pB,Oe,Nu];refine⟨d,?_⟩;rintro _ ⟨l,hl,rfl⟩ s hs;simp only[Nu] at hs;obtain⟨x,c,rfl⟩:=hs;have:=h1 l hl x c;simp;omega
theorem rows_int{B:Nat}{v:Value}(h:aaB zj w B v g):aaB zN w B v (g.map (List.map Int.ofNat)):=(aaB.map (enc:=zN) (enc':=zj) Int.ofNat (fun _=>rfl)).2 h
theorem tK (w:World)(sv:Value)(g:List (List Nat))(B:Nat)(hB:B<=w.heap.size)(h:aaB zj w B sv g)(hv:zw g)(c:g.length<=2000000)(hr:∀row∈g,row.length<=2000000):
 G 100 #[.agg #[sv]] w fun e w'=>e=.returned (.bool true)/\L w w':=by
 have:=lR w sv (g.map (List.map Int.ofNat)) B hB (rows_int h) (by simpa using c) (by intro row hm;simp only[Nu] at hm;obtain⟨l,hl,rfl⟩:=hm;simpa using hr l hl);rw[k8 hv] at this;exact this
theorem yA (z:Value)(n:Nat):madeCells #[z] n=(List.replicate n z).toArray:=by
 rw[<-toList_madeCells_one]
theorem iC (w1:World)(n:Nat):Dfs w1 (((w1.alloc (A (madeCells #[.bool false] n) 4)).alloc (A #[Q w1.heap.size n n] 141)).alloc (A #[F] 163)) w1.heap.size n (w1.heap.size+1) w1.heap.size (w1.heap.size+1+1) (List.replicate n false) [] (.slice none 0 0) []:=by
 refine⟨zB (zI Zs),?_,by simp,⟨_,zI Zs,Jv _ _ _ _⟩,by omega,Jv _ _ _ _,?_⟩
 ·rw[zB (zB (zI rfl)),yA];simp[uo]
 ·exact(((Below.refl _ _).alloc (Je _) _).alloc Zs _).alloc Zt _
structure DInv (g:List (List Nat)) (seen:List Bool) (stk:List (Nat×Nat)) (post:List Nat):Prop where
 len:seen.length=g.length
 cnt:seen.count true=stk.length+post.length
 node:∀p∈stk,p.1<g.length
 fin:∀u∈post,u<g.length
theorem tI (l:List Bool)(u:Nat)(h:l[u]? =some false):(l.set u true).count true=l.count true+1:=by
 induction l generalizing u with
 |nil=>simp at h
 |cons b r ih=>
  cases u with
  |zero=>simp at h;subst h;simp
  |succ u=>
   simp only[List.getElem?_cons_succ] at h;simp only[Jg,Nf,ih u h];omega
theorem DInv.start(hv:zw g):DInv g ((List.replicate g.length false).set 0 true) ([]++ [(0,0)]) []:=by
 refine⟨by simp,?_,by simp;exact hv.1,by simp⟩;rw[tI _ _ (by simp[Nm,hv.1])];simp[List.count_replicate]
theorem DInv.le{d:List (Nat×Nat)}{c:List Nat}(h:DInv g seen d c):d.length+c.length<=g.length:=by
 rw[<-h.cnt,<-h.len];exact List.count_le_length
theorem DInv.pop{d:List Nat}(h:DInv g seen (st++ [(u,j)]) d):DInv g seen st (d++ [u]):=
 ⟨h.len,by have:=h.cnt;simp at this ⊢;omega,fun p hp=>h.node p (by simp[hp]),fun x c=>by
   rcases Jl.1 c with c|c
   ·exact h.fin x c
   ·have:=h.node (u,j) Zs;simp at c;subst c;exact this⟩
theorem DInv.skip(h:DInv g seen (st++ [(u,j)]) post):DInv g seen (st++ [(u,j+1)]) post:=
 ⟨h.len,by have:=h.cnt;simp at this ⊢;omega,fun p hp=>by
   rcases Jl.1 hp with hp|hp
   ·exact h.node p (by simp[hp])
   ·have:=h.node (u,j) Zs;simp at hp;subst hp;exact this,h.fin⟩
theorem DInv.enter{c:List (Nat×Nat)}{s:Nat}(h:DInv g seen c post)(hs:seen[s]? =some false):DInv g (seen.set s true) (c++ [(s,0)]) post:=by
 have d:s<g.length:=by rw[<-h.len];exact(Jh.1 hs).1
 refine⟨by simp[h.len],by rw[tI _ _ hs,h.cnt];simp;omega,fun p hp=>?_,h.fin⟩;rcases Jl.1 hp with hp|hp
 ·exact h.node p hp
 ·simp at hp;subst hp;exact d
theorem lJ (w:World)(sv:Value)(g:List (List Nat))(B:Nat)(hB:B<=w.heap.size)(h:aaB zj w B sv g)(hv:zw g)(hn:g.length<=2000000)(hr:∀row∈g,row.length<=2000000)
 (k0:Nat) (F:List Nat) (hF:kV g k0 ((List.replicate g.length false).set 0 true) [(0,0)] [] F):
 G 68 #[.agg #[sv]] w (fJ w F.reverse):=by
 obtain⟨a,b4,rfl,f4⟩:=h.form;obtain⟨ii,d8,c9,c8,c7⟩:=info_parts Try.info_int;obtain⟨ib,f9,e9,e8,e7⟩:=info_parts Try.info_bool;have x:L w (w.alloc (A #[.slice a g.length b4] 93)):=(Below.refl _ _).alloc (Je _) _;have HV:=Ja hv;have HR:=Ja hr;have HF:=Ja hF;clear hv hr hF;have d6:=run_make_row' (P:=Try.prog) 141 4 (.bool false) 1 Try.underlying141 Try.info_bool rfl .i64 .i64 g.length Zo Zo;go_enter Try.func68,Try.ntmps68;go_wp2_with (go_at_call 100;go_must (refine(tK _ _ g B Zt (h.below (x.mono hB)) HV.out hn HR.out).mono ?_;rintro e w1 ⟨rfl,y⟩;obtain⟨c4,b9⟩:=bcell y))
 have c3:Dfs w1 (((w1.alloc (A (madeCells #[.bool false] g.length) 4)).alloc (A #[Q w1.heap.size g.length g.length] 141)).alloc (A #[.slice none 0 0] 163)) w1.heap.size g.length (w1.heap.size+1) w1.heap.size (w1.heap.size+1+1) (List.replicate g.length false) [] (.slice none 0 0) []:=iC w1 g.length;refine(oF w1 _ w1.heap.size g.length (w1.heap.size+1) w1.heap.size (w1.heap.size+1+1) (List.replicate g.length false) [] (.slice none 0 0) [] 0 c3 HV.out.1 Zd).mono ?_;rintro e w2 ⟨rfl,hd⟩;have HD:=Ja hd;clear hd c3 d6;go_wp2_with fail
 go_loopg [4] k0 (fun k pv wr=>∃seen stk c,Hid (Dfs w1 wr w1.heap.size g.length (w1.heap.size+1) w1.heap.size (w1.heap.size+1+1) seen stk pv c/\kV g k seen stk c F/\DInv g seen stk c))
 case atStart=>exact⟨_,_,_,HD.out,HF.out,DInv.start HV.out⟩
 case round=>
  obtain⟨seen,stk,c,l⟩:=hrel
  cases gk with
  |zero=>
   obtain⟨rfl,rfl⟩:=l.out.2.1;obtain⟨sv,hk,d⟩:=l.out.1.hk;obtain⟨a0,c0,rfl⟩:=zG d;have ck:=cell_of_one hk;simp only[Ow] at ck;have r:L w w1:=x.trans (y.mono Zs);have d5:=r.size;have c5:=Ja (r.trans (l.out.1.hb.mono r.size));have b7:=l.out.2.2.le;clear hk d y c4 b9 x r h;go_wp2_with (go_at_call 104;go_must (refine(mK wr _ _ c l.out.1.hp Zo).mono ?_;rintro e w3 ⟨rfl,d1,e0⟩))
   go_ret;refine⟨_,rfl,?_,?_⟩
   ·have:=vY d1 (base':=w.heap.size) Zo
    simpa using this
   ·refine c5.out.grown e0 (by have:=c5.out.size;omega) (fun k hk=>?_);have:=l.out.1.hp.lt k hk
    omega
  |succ k=>
   obtain⟨st,u,j,rfl,b5⟩:=l.out.2.1;obtain⟨sv,hk,d⟩:=l.out.1.hk;simp only[Jk,Nq,Ow,Ng,vH] at d;obtain⟨gk,cp,rfl,g1,g0⟩:=d.form Zo;have g3:=(zm d).1;have f2:=(zm d).2;have f3:(st.length:Int)<=cp:=Zo;have d4:u<g.length:=l.out.2.2.node (u,j) Zs;obtain⟨row,a3⟩:∃row,g[u]? =some row:=⟨_,Jd d4⟩
   have r:L w w1:=x.trans (y.mono Zs);have d5:=r.size;have b3:=r.trans (l.out.1.hb.mono r.size);obtain⟨b,o,a2,f6,rfl,hb,hc,e6,hx⟩:=(h.below (b3.mono hB)).row a3;have hrl:=HR.out row (Ji a3);have b7:=l.out.2.2.le;simp only[Jk,Nq,Ow] at b7;have ck:=cell_of_one hk;have fk:=free_of_one hk;have cu:T wr gk (st.length*2) (O u):=(d.cellAt _ Zo).trans (by rw[Nc (by rw[yK];omega)];simp[yK,Nat.mul_comm,zj]);have cj:T wr gk (st.length*2+1) (O j):=(d.cellAt _ Zo).trans (by rw[Nc (by rw[yK];omega)];simp[yK,show st.length*2+1-2*st.length=1 by omega,zj]);have fj:N wr gk (st.length*2+1):=d.frozenAt _
   have g4:T wr w.heap.size 0 (.slice (some ⟨b,o,none⟩) g.length b4):=by
    have h1:(w.alloc (A #[.slice (some ⟨b,o,none⟩) g.length b4] 93)).heap[w.heap.size]? =_:=zI rfl;exact cell_of_one (zH l.out.1.hb (zH y h1 Zs) (by have:=y.size;simp at this;omega))
   have f0:(u:Int)<g.length:=Zo;have a6:=Ja a3;have f7:=Ja d;have HK:=Ja hk;have HX:=Ja hx;have g8:=Ja b3;clear a3 d hk hx b3 r x y c4 b9 h;rcases b5 with⟨hj,q⟩|⟨s,hs,i,q⟩|⟨s,hs,i,q⟩
   ·have b8:row.length=j:=by rw[hj];simp[succ,Jj,a6.out]
    have a7:((j:Int)==(row.length:Int))=true:=by simp[b8]
    have a1:=Ja q;have hp:=l.out.1.hp;have f8:=lt_of_block HK.out;clear b8 hj q;go_wp2_with fail;go_quiet (fail);have own43:∀n,(wr.drewN n).ownsRow (w1.heap.size+1+1+1) 3 1 _ c.length (c.map zj):=fun n=>ji hp
    go_wp2_with (at_builtin;go_must (refine wpList_append_lies _ rfl (.tmp 43) (.tmp 48) 22 rfl (w1.heap.size+1+1+1) 3 ii (O 0) 1 8 Try.underlying22 d8 c9 c8 c7 rfl Zd _ c.length (c.map zj) rfl ((own43 _).alloc _) ⟨wr.heap.size,0,none⟩ 1 1 [O u] rfl rfl (Oi (cs:=#[O u]) (zI Zs)) (by simp[Value.oneCell']) Zd (by unfold maxLen;omega) Zo Zt (wr.heap.size+1) Zs ?_;intro g2 f5 w2 a9 a4 g5 f1;have m:=(l.out.1.drewN (k:=nq)).push a4 a9;have b0:=zL a4 (zB (kg HK.out)) (zC hp HK.out (.inl Zo));have g7:=cell_of_one b0;have g6:=free_of_one b0;have e4:=Ja b0;have a5:=Ja m;clear b0 m a9 a4 hp own43))
    go_roundg k
    case measure=>omega
    case rel=>exact⟨seen,st,c++ [u],a5.out.popStk e4.out,a1.out,l.out.2.2.pop⟩
   ·have t:row[j]? =some s:=by rw[<-hs];simp[succ,Jj,a6.out]
    have d7:j<row.length:=(Jh.1 t).1;have a7:((j:Int)==(row.length:Int))=false:=by simp;omega
    have d2:(j:Int)<row.length:=Zo;obtain⟨b2,o2,rfl,e1,cs⟩:=HX.out j s t;simp only[zj] at cs;have m:∀n,Dfs w1 ((wr.drewN n).setCell ⟨gk,st.length*2+1,none⟩ (O ((j:Int)+1))) _ _ _ _ _ _ _ _ _:=fun n=>(l.out.1.drewN (k:=n)).bump HK.out
    have e2:=fun n=>cell_of_one (m n).hv
    have e3:∀n,T ((wr.drewN n).setCell ⟨gk,st.length*2+1,none⟩ (O ((j:Int)+1))) w1.heap.size s (.bool true):=fun n=>zA (m n).hs (by simp[i,uo])
    have b6:s<g.length:=by rw[<-l.out.2.2.len];exact(Jh.1 i).1
    have d0:(s:Int)<g.length:=Zo;have a5:=Ja m;have a1:=Ja q;clear q hs i t m;go_wp2_with fail;go_quiet (fail);go_wp2_with fail
    go_roundg k
    case measure=>omega
    case rel=>exact⟨seen,st++ [(u,j+1)],c,a5.out _,a1.out,l.out.2.2.skip⟩
   ·have t:row[j]? =some s:=by rw[<-hs];simp[succ,Jj,a6.out]
    have d7:j<row.length:=(Jh.1 t).1;have a7:((j:Int)==(row.length:Int))=false:=by simp;omega
    have d2:(j:Int)<row.length:=Zo;obtain⟨b2,o2,rfl,e1,cs⟩:=HX.out j s t;simp only[zj] at cs;have m:∀n,Dfs w1 ((wr.drewN n).setCell ⟨gk,st.length*2+1,none⟩ (O ((j:Int)+1))) _ _ _ _ _ _ _ _ _:=fun n=>(l.out.1.drewN (k:=n)).bump HK.out
    have e2:=fun n=>cell_of_one (m n).hv
    have e3:∀n,T ((wr.drewN n).setCell ⟨gk,st.length*2+1,none⟩ (O ((j:Int)+1))) w1.heap.size s (.bool false):=fun n=>zA (m n).hs (by simp[i,uo])
    have b6:s<g.length:=by rw[<-l.out.2.2.len];exact(Jh.1 i).1
    have d0:(s:Int)<g.length:=Zo;have b1:=l.out.2.2.skip.enter i;have a5:=Ja m;have a1:=Ja q;have d3:=Ja b1;clear q hs i t m b1;go_wp2_with fail;go_quiet (fail);go_wp2_with (go_at_call 103;go_must (refine(oF w1 _ w1.heap.size g.length (w1.heap.size+1) w1.heap.size (w1.heap.size+1+1) seen (st++ [(u,j+1)]) _ c s (a5.out _) b6 Zt).mono ?_;rintro e w2 ⟨rfl,c2⟩;have e5:=Ja c2;clear c2))
    go_roundg k
    case measure=>omega
    case rel=>exact⟨seen.set s true,st++ [(u,j+1)]++ [(s,0)],c,e5.out,a1.out,d3.out⟩
theorem rG{F:List Nat}:∀(k:Nat) (seen:List Bool) (stk:List (Nat×Nat)) (post:List Nat),kV g k seen stk post F->DInv g seen stk post->F.length<=g.length/\∀u∈F,u<g.length
 |0,seen,stk,post,h,hi=>by
  obtain⟨rfl,rfl⟩:=h
  exact⟨by have:=hi.le;simpa using this,hi.fin⟩
 |k+1,seen,stk,post,h,hi=>by
  obtain⟨st,u,j,rfl,⟨_,h⟩|⟨s,_,_,h⟩|⟨s,_,hs,h⟩⟩:=h
  ·exact rG k _ _ _ h hi.pop
  ·exact rG k _ _ _ h hi.skip
  ·exact rG k _ _ _ h (hi.skip.enter hs)
theorem tV.nodes{c:List Nat}(h:tV g c)(hv:zw g):c.length<=g.length/\∀u∈c,u<g.length:=by
 obtain⟨k,h⟩:=h;have:=rG k _ _ _ h (DInv.start hv)
 simpa using this
theorem tp (w:World)(sv:Value)(g:List (List Nat))(B:Nat)(hB:B<=w.heap.size)(h:aaB zj w B sv g)(hv:zw g)(d:g.length<=2000000)(hr:∀row∈g,row.length<=2000000)(c:List Nat)(ho:tV g c):
 G 68 #[.agg #[sv]] w (fJ w c):=by
 obtain⟨k0,ho⟩:=ho;have:=lJ w sv g B hB h hv d hr k0 _ ho
 rwa [List.reverse_reverse] at this
def yM (w:World)(size:Nat)(xv:Value)(m:Nat)(news:List Value):Prop:=
 ∃a c,xv=.slice a m c/\news.length=m*size/\(∀u∈news,u.oneCell'=true)/\((a=none/\m=0)∨∃ad,a=some ad/\∀j u,news[j]? =some u->w.cell? (ad.add j)=some u)
theorem tE {P:Program}(w:World)(base:Nat)(t ty e:TypeId)(i:TypeInfo)(z:Value)(size bytes:Nat)(q:P.underlying t=some (.slice e))(hi:P.info? e=some i)(hz:i.zero=some z)
 (k:i.size=size) (a0:i.bytes=bytes) (u:z.cells.size=size) (x:0<size) (v:Value) (n:Nat) (xs:List Value) (h:w.ownsRow base e size v n xs)
 (xv:Value) (m:Nat) (d:List Value) (r:yM w size xv m d) (a1:n+m<=maxLen) (j:(n+m)*bytes<=140737488355328) (o:base<=w.heap.size):
 ∃v' w',(Builtin.append_ #[t,t] ty #[v,xv]).run P w=.ok v' w'/\w'.ownsRow base e size v' (n+m) (xs++d)/\w.grownBy w' v.ownBlock/\(v'.ownBlock=v.ownBlock∨v'.ownBlock=some w.heap.size):=by
 obtain⟨a,c,rfl,hl,h1,⟨rfl,rfl⟩|⟨ad,rfl,l⟩⟩:=r
 ·have hn:d=[]:=Nz (by simpa using hl);subst hn;refine⟨v,w,?_,by simpa using h,⟨rfl,rfl,rfl,Je _,fun _ _ _=>rfl⟩,.inl rfl⟩;rcases h.2 with⟨rfl,rfl⟩|⟨g,a6,cur,rfl,a5,hg,y,a4,a3,a2⟩
  ·simp[Builtin.append_,run_underlying q,sizeOf,typeInfo,hi,Builtin.lenOf,run_firstCells_none]
  ·simp[Builtin.append_,run_underlying q,sizeOf,typeInfo,hi,Builtin.lenOf,run_firstCells_none,y,storeCells]
 ·obtain⟨v',w',h2,h3,h4,_,h5⟩:=run_append_own_at (P:=P) w base t ty e i z size bytes q hi hz k a0 u x v n xs h ad m c d hl l h1 a1 j o;exact⟨v',w',h2,h3,h4,h5⟩
theorem zK{P:Program}(w:World){ops:Array Oper}{rest:List Oper}{a:Act}{Q:Exit->Act->World->Prop}(u:o.guard=none)(s x:Operand)(t:TypeId)
 (ho:o.op=.call {callee:=.builtin .append,args:=#[s,x],argTypes:=#[t,t]})
 (base:Nat) (e:TypeId) (i:TypeInfo) (z:Value) (size bytes:Nat) (ht:P.underlying t=some (.slice e)) (hi:P.info? e=some i) (hz:i.zero=some z)
 (g:i.size=size) (y:i.bytes=bytes) (q:z.cells.size=size) (r:0<size)
 (v:Value) (n:Nat) (xs:List Value) (hs:a.eval s=v) (l:w.ownsRow base e size v n xs)
 (xv:Value) (m:Nat) (c:List Value) (hx:a.eval x=xv) (k:yM w size xv m c) (a0:n+m<=maxLen) (d:(n+m)*bytes<=140737488355328) (j:base<=w.heap.size)
 (h:∀v' w',w'.ownsRow base e size v' (n+m) (xs++c)->w.grownBy w' v.ownBlock->(v'.ownBlock=v.ownBlock∨v'.ownBlock=some w.heap.size)->wpList P ops Q rest (a.put o.dst v') w'):
 wpList P ops Q (o::rest) a w:=by
 refine wpList_plain u fun K hK=>?_
 obtain⟨v',w',hr,h2,h3,h5⟩:=tE (P:=P) w base t o.type e i z size bytes ht hi hz g y q r v n xs l xv m c k a0 d j;unfold Oper.wp execOp;simp only[ho,resolve,invoke,builtin,Sem.run_bind,Sem.run_pure,Result.andThen_ok,List.map_toArray,Ql,List.map_nil,hs,hx,hr];exact hK _ _ (h v' w' h2 h3 h5)
theorem yM.one{b:Nat}{x:Value}{e:TypeId}(h:Y w b #[x] e)(c:x.oneCell'=true):yM w 1 (Q b 1 1) 1 [x]:=
 ⟨_,_,rfl,rfl,by simpa using c,.inr ⟨_,rfl,Oi (cs:=#[x]) h⟩⟩
theorem zY.src{B:Nat}{v:Value}(h:zY w B v xs):yM w 1 v xs.length (xs.map zN):=by
 obtain⟨a,d,rfl,h1,h2,h3⟩:=h;refine⟨a,d,rfl,by simp,by simp[zN,Value.oneCell'],?_⟩
 cases xs with
 |nil=>
  cases a with
  |none=>exact .inl ⟨rfl,rfl⟩
  |some ad=>exact .inr ⟨ad,rfl,fun j u hu=>by simp at hu⟩
 |cons x xs=>
  obtain⟨b,o,rfl,_,_⟩:=h3 0 x rfl;refine .inr ⟨_,rfl,fun j u hu=>?_⟩;rw[Jr,Oz] at hu;obtain⟨y,g,rfl⟩:=hu;obtain⟨b',o',e,_,c,_⟩:=h3 j y g;cases e;rw[Nk] at c;unfold Addr.add
  split
  ·rename_i i;rw[i] at c;exact c
  ·exact c
theorem uA{S:Nat}{v:Value}{n:Nat}(h:w.ownsRow S 3 1 v n (xs.map zN))(j:xs.length=n)(i:∀x∈xs,I64 x):zY w w.heap.size v xs:=by
 subst j;obtain⟨a,c,rfl⟩:=zG h;have hl:=zm h;refine⟨a,c,rfl,hl.1,by omega,fun k x hk=>?_⟩;have l:=(Jh.1 hk).1;obtain⟨g,m,e,hg,d⟩:=h.form Zo;cases e;refine⟨g,0,rfl,d,?_,i x (Ji hk)⟩;rw[Nk,Ng];exact(h.cellAt k Zo).trans (by rw[Jr,hk];rfl)
theorem zY.all{B:Nat}{v:Value}(h:zY w B v xs):∀x∈xs,I64 x:=by
 intro x c;obtain⟨k,hk⟩:=Ny c;obtain⟨_,_,_,_,_,h3⟩:=h;obtain⟨_,_,_,_,_,d⟩:=h3 k x hk;exact d
end Go.Proofs.Ytojclalkfhoooaa
namespace Go.Proofs
open Go.Shelf
def Try.lays212_ren:Go.Shelf.Ren:=⟨fun|212=>128|263=>131|264=>132|n=>n,fun|46=>82|51=>38|146=>201|53=>184|148=>203|n=>n,fun|n=>n⟩
theorem Try.lays212:Go.Proofs.Lays.n212 Try.prog Try.lays212_ren:= {
 mixed:=by kernel_rfl
 f212:=Try.func128.trans (congrArg some (by kernel_rfl))
 f263:=Try.func131.trans (congrArg some (by kernel_rfl))
 f264:=Try.func132.trans (congrArg some (by kernel_rfl))
 t46:=Try.underlying82
 a46:=Try.isAgg82
 z46:=Try.sizeOf82
 v46:=Try.zeroValue82
 t51:=Try.underlying38
 a51:=Try.isAgg38
 z51:=Try.sizeOf38
 v51:=Try.zeroValue38
 t53:=Try.underlying184
 a53:=Try.isAgg184
 z53:=Try.sizeOf184
 v53:=Try.zeroValue184
 t146:=Try.underlying201
 a146:=Try.isAgg201
 z146:=Try.sizeOf201
 v146:=Try.zeroValue201
 t148:=Try.underlying203
 a148:=Try.isAgg203
 z148:=Try.sizeOf203
 v148:=Try.zeroValue203 }
open Go.RowKit Go.Lib in
theorem Try.bits_Mul (x y:Nat)(d:x<18446744073709551616)(c:y<18446744073709551616)(w:World):
 Calls Try.prog 128 #[.int .u64 x,.int .u64 y] w fun e w'=>e=.returned (.tuple #[.int .u64 ((x*y/18446744073709551616:Nat):Int),.int .u64 ((x*y%18446744073709551616:Nat):Int)])/\w'=w:=Any.bits_Mul Try.lays212 x y d c w
end Go.Proofs
namespace Go.Proofs.Ytojclalkfhoooaa
open Go.RowKit
variable {w w' w0:World}{K:MK}{m m':Mach}{c oa ob x:Int}{o:Oper}{B0 Bk Bs Bv cp d gk j k on u vb vn:Nat}{g:List (List Nat)}{xs:List Int}{seen:List Bool}{post:List Nat}{st:List (Nat×Nat)}
def aeO (d:Nat):ByteArray:=strOfNums [48+(d:Int)]
def cw (n:Nat)(s:ByteArray):ByteArray:=if n<10 then s else cw (n/10) (aeO (n/10%10)++s)
termination_by n
decreasing_by omega
def fu (n:Nat):ByteArray:=cw n (aeO (n%10))
theorem rm (d:Nat):(aeO d).size=1:=rfl
theorem abv{W:World}(c:d<10):
 (convert 37 9 (Q W.heap.size 1 1)).run Try.prog (W.alloc (A #[.int .u8 (48+(d:Int))] 5))=.ok (.string (aeO d)) (W.alloc (A #[.int .u8 (48+(d:Int))] 5)):=by
 refine run_convert_bytes_arg _ 37 5 Try.underlying37 Try.underlying5 W.heap.size 0 1 1 [48+(d:Int)] rfl (fun i hi=>?_) 9 Try.underlying9;obtain rfl:i=0:=by omega
 exact zA (zI rfl) rfl
theorem ac1 (w:World)(n:Nat)(hn:n<18446744073709551616):
 G 116 #[.int .u64 (n:Int)] w (fun e w'=>e=.returned (.string (fu n))/\L w w'):=by
 obtain⟨d,hd⟩:∃d,n%10=d:=⟨_,rfl⟩
 have y:d<10:=Zo;have t:(n:Int).tmod 10=(d:Int):=by rw[Qc Zo];omega
 have o:IntKind.u64.wrap (48+(d:Int))=48+(d:Int):=IntWalk.u64_in _ ⟨by omega,by omega⟩;have l:IntKind.u8.wrap (48+(d:Int))=48+(d:Int):=IntWalk.u8_in _ ⟨by omega,by omega⟩;have u:=abv (W:=w) y;go_enter Try.func116,Try.ntmps116;go_wp2
 go_loopw [0,3] (fun mv xv wx=>∃(m k:Nat) (s:ByteArray),mv=.int .u64 (m:Int)/\xv=.string s/\n/10^k=m/\s.size=k+1/\cw m s=fu n/\L w wx) (fun mv _ _=>(intOf mv).toNat)
 case atStart=>exact⟨n,0,aeO d,rfl,rfl,by simp,rfl,by rw[<-hd];rfl,(Below.refl _ _).alloc (Je _) _⟩
 case round=>
  obtain⟨m,k,s,rfl,rfl,i,g,j,hb⟩:=hrel;clear u t o l
  by_cases r:m<10
  ·have a2:¬(10:Int)<=(m:Int):=Zo;have a1:(m:Int)<10:=Zo;have a0:=Ja (Jb j hb);have hs:s=fu n:=by rw[<-j,cw,if_pos r]
   clear j hb;go_wp2;go_ret;exact⟨rfl,a0.out.2⟩
  ·have a9:(10:Int)<=(m:Int):=Zo;have a7:m<=n:=by rw[<-i];exact Nat.div_le_self _ _
   have a3:k<=19:=by
    rcases Nat.lt_or_ge k 20 with h|h
    ·omega
    ·have h1:n/10^k<=n/10^20:=Nat.div_le_div_left (Nat.pow_le_pow_right Zd h) Zd;have h2:n/10^20=0:=Nat.div_eq_of_lt Zo;omega
   obtain⟨q,hq⟩:∃q,m/10=q:=⟨_,rfl⟩
   obtain⟨e,he⟩:∃e,q%10=e:=⟨_,rfl⟩
   have x:e<10:=Zo;have a6:(m:Int).tdiv 10=(q:Int):=by rw[<-hq];rfl
   have a4:IntKind.u64.wrap (q:Int)=(q:Int):=IntWalk.u64_in _ ⟨by omega,by omega⟩;have t:(q:Int).tmod 10=(e:Int):=by rw[Qc Zo];omega
   have o:IntKind.u64.wrap (48+(e:Int))=48+(e:Int):=IntWalk.u64_in _ ⟨by omega,by omega⟩;have l:IntKind.u8.wrap (48+(e:Int))=48+(e:Int):=IntWalk.u8_in _ ⟨by omega,by omega⟩;have u:=abv (W:=wr) x;have a5:¬IntKind.i64.max<(((aeO e).size+s.size:Nat):Int):=by rw[rm,g];show ¬(9223372036854775807:Int)<_;omega
   have c:=Ja (Jb j (Jb hb (Jb i g)));clear j hb i g;go_wp2
   ·exfalso;have h1:=rm e;have h2:=c.out.2.2.2;omega
   refine⟨⟨q,k+1,aeO e++s,rfl,rfl,?_,?_,?_,?_⟩,?_⟩
   ·rw[Nat.pow_succ,<-Nat.div_div_eq_div_mul,c.out.2.2.1,hq]
   ·rw[ByteArray.size_append,rm,c.out.2.2.2];omega
   ·have h:=c.out.1;rw[cw,if_neg r,hq,he] at h;exact h
   ·exact c.out.2.1.alloc c.out.2.1.size _
   ·show(Int.toNat (q:Int))<(Int.toNat (m:Int))
    omega
end Go.Proofs.Ytojclalkfhoooaa
