/- Part of a proof. -/
import Derived.Test.YtoahcpkibpomcaaGMeet
import Derived.Test.YtoahcpkibpomcaaIGraph
import Derived.Test.YtoahcpkibpomcaaIOper2
import Derived.Deep.Slices
import Derived.OpenShut
import Derived.ProofKit
set_option linter.all false
set_option maxHeartbeats 4000000
set_option maxRecDepth 100000
namespace Go.Proofs.Ytoahcpkibpomcaa
variable {W W' w w':World}{t:ITerm}{bl blocks:List IBlk}{K:MK}{Bi Bn Bv C bi bp k m m1 m2 x:Nat}{m':Mach}{c:List Int}{i:Int}{d:wO}{ds:List Deferred}{ns xs:List Nat}{g:List (List Nat)}{o:IOp}{l:List IOp}
structure ME where
 s:List Int
 args:List Int
 handler:Int
 me:Nat
 nf:Nat
structure MS where
 pos:Nat
 f:List IBlk
 cur:Nat
 next:Nat
 vals:List Int
 left:Int
def tkV (E:ME)(M:MS)(n:Nat):Nat:=(E.s.getD M.pos 0%(n:Int)).toNat
def MS.tick (M:MS):MS:= {M with pos:=M.pos+1 }
def wJ (next params:Nat):IBlk:=⟨(List.range params).map fun k=>((next+k:Nat):Int),[],⟨0,0,[]⟩⟩
def MS.block (M:MS)(params:Nat):MS:= {M with f:=M.f++ [wJ M.next params],next:=M.next+params }
def uc (c:Int):Bool:=(zi c).res||decide (c=26)
def wD {α:Type}(l:List α)(i:Nat)(g:α->α):List α:=match l[i]? with|some x=>l.set i (g x)|none=>l
def eg (M:MS)(o:IOp):IOp:= {o with res:=if uc o.code then(M.next:Int) else -1 }
def MS.emit (M:MS)(o:IOp):MS:=
 {M with f:=wD M.f M.cur fun b=> {b with ops:=b.ops++ [eg M o]},next:=if uc o.code then M.next+1 else M.next,vals:=if uc o.code then M.vals++ [(M.next:Int)] else M.vals }
def MS.endB (M:MS)(t:ITerm):MS:= {M with f:=wD M.f M.cur fun b=> {b with term:=t }}
def conOp (n:Nat):IOp:=⟨1,0,0,0,n,[]⟩
def MS.num (M:MS)(n:Nat):MS:=M.emit (conOp n)
def zJ (E:ME)(M:MS):Int×MS:=
 if M.vals.length=0 then((M.next:Int),M.tick.num (tkV E M 9))
 else if 0<tkV E M.tick 3 then(M.vals.getD (M.vals.length-1-tkV E M.tick.tick (min 4 M.vals.length)) 0,M.tick.tick.tick)
 else(M.vals.getD (tkV E M M.vals.length) 0,M.tick.tick)
def sE (k:Nat):Nat:=if k=0 then 15 else 6
def yJ (E:ME)(M:MS):Int×MS:=
 if tkV E M 24=23 then zJ E M.tick
 else((M.next:Int),M.tick.tick.tick.emit ⟨2,0,(tkV E M.tick 2:Nat),0,tkV E M.tick.tick (sE (tkV E M.tick 2)),[]⟩)
def yI (E:ME):Nat->MS->List Int×MS
 |0,M=>([],M)
 |n+1,M=>((yI E n M).1++ [(zJ E (yI E n M).2).1],(zJ E (yI E n M).2).2)
def vN (E:ME)(M:MS):MS:=
 if E.nf<=E.me+1 then M
 else
  let f:=E.me+1+tkV E M (E.nf-E.me-1)
  if(f:Int)=E.handler then M.tick
  else(yI E (E.args.getD f 0).toNat M.tick).2.emit ⟨26,0,(f:Nat),0,0,(yI E (E.args.getD f 0).toNat M.tick).1⟩
def yR (E:ME)(M:MS):MS:=
 let a:=zJ E M
 let b:=zJ E a.2
 let c:Nat:=5+tkV E b.2 13
 let M3:=b.2.tick
 if c=8 then
  (if 0<tkV E M3 8 then
    ((M3.tick.num 1).emit ⟨10,0,b.1,(M3.next:Nat),0,[]⟩).emit ⟨8,0,a.1,((M3.next+1:Nat):Int),0,[]⟩
  else M3.tick.emit ⟨8,0,a.1,b.1,0,[]⟩)
 else M3.emit ⟨(c:Nat),0,a.1,b.1,0,[]⟩
def xK (E:ME)(M0:MS):MS:=
 let k:=tkV E M0 14
 let M:=M0.tick
 if k=0 then M.tick.num (tkV E M 65536)
 else if k=1 then(zJ E M.tick).2.emit ⟨3+tkV E M 2,0,(zJ E M.tick).1,0,0,[]⟩
 else if k=2∨k=3 then(yJ E M).2.tick.emit ⟨18+tkV E (yJ E M).2 2,0,(yJ E M).1,0,0,[]⟩
 else if k=4∨k=5 then
  let b:=zJ E (yJ E M).2
  b.2.tick.emit ⟨20+tkV E b.2 2,0,(yJ E M).1,b.1,0,[]⟩
 else if k=6 then M.tick.emit ⟨24,0,0,0,1+tkV E M 3,[]⟩
 else if k=7 then(zJ E M).2.tick.emit ⟨25,0,(zJ E M).1,0,1+tkV E (zJ E M).2 3,[]⟩
 else if k=8 then(M.tick.num (tkV E M 4096)).tick.emit ⟨22+tkV E (M.tick.num (tkV E M 4096)) 2,0,(M.next:Nat),0,0,[]⟩
 else if k=9 then vN E M
 else if k=10 then(if tkV E M 3=0 then M.tick.emit ⟨27,0,0,0,0,[]⟩ else M.tick)
 else yR E M
def qY (E:ME):Nat->MS->MS
 |0,M=>M
 |n+1,M=>qY E n (xK E M)
def xE:Nat->MS->MS
 |0,M=>M
 |n+1,M=>(xE n M).block 0
def uV (E:ME)(part:MS->MS)(tg:Nat)(join keep:Nat):Nat->Nat->MS->MS
 |0,_,M=>M
 |n+1,k,M0=>
  let M1:=part {M0 with cur:=tg+k }
  let v:=zJ E M1.tick
  let M3:=if tkV E M1 12=11/\0<k then v.2.endB ⟨4,v.1,[]⟩ else v.2.endB ⟨1,0,[⟨(join:Nat),[v.1]⟩]⟩
  uV E part tg join keep n (k+1) {M3 with vals:=M3.vals.take keep }
def xk (tg n:Nat):List IEdge:=(List.range n).map fun k=>⟨((tg+k:Nat):Int),[]⟩
def xi (E:ME)(part:MS->MS)(n:Nat)(M:MS):MS:=
 let c:=zJ E M
 let tg:=c.2.f.length
 let M2:=(xE n c.2).block 1
 let join:=tg+n
 let M3:=M2.endB ⟨if 2<n then 3 else 2,c.1,xk tg n⟩
 let M4:=uV E part tg join M3.vals.length n 0 M3
 {M4 with cur:=join,vals:=M4.vals++ [(((M4.f.getD join ⟨[],[],⟨0,0,[]⟩⟩).params).getD 0 0)]}
def tH (E:ME)(part:MS->MS)(M:MS):MS:=
 let n:=(M.next:Int)
 let x:=zJ E (M.tick.num (tkV E M 5))
 let head:=x.2.f.length
 let i:Int:=(x.2.next:Nat)
 let j:Int:=((x.2.next+1:Nat):Int)
 let M2:=(((x.2.block 2).block 0).block 0).endB ⟨1,0,[⟨(head:Nat),[n,x.1]⟩]⟩
 let M3:=({M2 with cur:=head,vals:=M2.vals++ [j]}:MS).endB ⟨2,i,[⟨((head+1:Nat):Int),[]⟩,⟨((head+2:Nat):Int),[]⟩]⟩
 let M4:=part {M3 with cur:=head+1 }
 let M5:=(M4.num 1).emit ⟨6,0,i,(M4.next:Nat),0,[]⟩
 let y:=zJ E M5
 let M6:=y.2.endB ⟨1,0,[⟨(head:Nat),[((M4.next+1:Nat):Int),y.1]⟩]⟩
 {M6 with vals:=M6.vals.take M3.vals.length,cur:=head+2 }
def tR (E:ME)(M:MS):MS:=
 let M1:=qY E (tkV E M 5+1) M.tick
 {M1 with left:=M1.left-1 }
def zp (E:ME):Nat->MS->MS
 |0,M=>tR E M
 |d+1,M=>
  let M2:=tR E M
  if M2.left<1 then M2
  else
   let k:=tkV E M2 5
   if k=1∨k=2 then xi E (zp E d) 2 M2.tick
   else if k=3 then tH E (zp E d) M2.tick
   else if k=4 then xi E (zp E d) (2+tkV E M2.tick 3) M2.tick.tick
   else M2.tick
def xD (E:ME)(pos:Nat):MS:=
 let M0:MS:=⟨pos,[],0,0,[],6⟩
 let M1:MS:=({M0.tick with next:=tkV E M0 3*10 }:MS).block (E.args.getD E.me 0).toNat
 {M1 with vals:=(wJ (tkV E M0 3*10) (E.args.getD E.me 0).toNat).params }
def xR (E:ME)(pos:Nat):MS:=
 let M1:=zp E 1 (zp E 2 (xD E pos))
 let k:=tkV E M1 10
 if k=0 then M1.tick.endB ⟨5,0,[]⟩
 else if k=1 then M1.tick.endB ⟨4,-1,[]⟩
 else(zJ E M1.tick).2.endB ⟨4,(zJ E M1.tick).1,[]⟩
def tk0 (s:List Int)(pos n:Nat):Nat:=(s.getD pos 0%(n:Int)).toNat
def mdN (s:List Int):Nat:=1+tk0 s 0 4
def yS (s:List Int):Nat->List Int
 |0=> []
 |n+1=>yS s n++ [if n=0 then 0 else((tk0 s n 4:Nat):Int)]
def oJ (s:List Int):Bool:=decide (1<mdN s) && decide ((yS s (mdN s)).getD (mdN s-1) 0=0)
def vw (s:List Int):Int:=if oJ s=true/\tk0 s (mdN s) 2=0 then((mdN s-1:Nat):Int) else -1
def sP (s:List Int):Nat:=if oJ s then mdN s+1 else mdN s
def xC (s:List Int)(k:Nat):ME:=⟨s,yS s (mdN s),vw s,k,mdN s⟩
def zf (s:List Int):Nat->List (List IBlk)×Nat
 |0=>([],sP s)
 |n+1=>((zf s n).1++ [(xR (xC s n) (zf s n).2).f],(xR (xC s n) (zf s n).2).pos)
def qV (s:List Int):Bool:=decide (2<mdN s) && (decide (vw s<0) && decide (tk0 s (zf s (mdN s)).2 12=11))
def sG:ByteArray:=⟨((List.range 4096).map fun k=>UInt8.ofNat (k*k+k/256)).toArray⟩
def am:List IObj:=[⟨-1,16384,16⟩,⟨-1,16640,7⟩,⟨0,128,32⟩]
def uR (s:List Int):IProg:=
 ⟨if qV s then(zf s (mdN s)).1.set (mdN s-1) [] else(zf s (mdN s)).1,yS s (mdN s),0,vw s,am,[sG]⟩
open Go.RowKit
def jk (w:World)(B:Nat)(x:IEdge)(e:Ending)(w':World):Prop:=∃av,e=.returned (.agg #[I x.block,av])/\zY w B av x.args/\I64 x.block/\O w w'
theorem edge_any{B:Nat}{tv:Value}(ht:wH w B tv t.to)(hk:I64 t.kind)(hB:B<=w.heap.size)(ho:bS blocks t)(h4:t.kind≠4)(h5:t.kind≠5)(a:Nat)(ha:a<65536):
 T 98 #[.agg #[I t.kind,I t.a,tv],G a] w (jk w B (wK t a)):=by
 obtain⟨ta,tc,rfl,b1,a9⟩:=ht.form;obtain⟨u,j,g,d,_⟩:=ho
 have get:∀k,k<t.to.length->∃b o ab ac,ta=some ⟨b,o,none⟩/\b<B/\U w b (o+k*2) (I (t.to.getD k ⟨0,[]⟩).block)/\U w b (o+k*2+1) (.slice ab (t.to.getD k ⟨0,[]⟩).args.length ac)/\zY w B (.slice ab (t.to.getD k ⟨0,[]⟩).args.length ac) (t.to.getD k ⟨0,[]⟩).args/\I64 (t.to.getD k ⟨0,[]⟩).block:=fun k hk=>by
  have e:t.to.getD k ⟨0,[]⟩=t.to[k]:=by rw[Jj,Jd hk];rfl
  obtain⟨b,o,a6,a5,a4,a3,av,a2,a0⟩:=ht.get (Jd hk);obtain⟨ab,ac,rfl,_,_⟩:=a0.form;rw[e];exact⟨b,o,ab,ac,a6,a5,a4,a2,a0,a3⟩
 have GET:=Ja get;clear get ht;have l:∀(x:IEdge) (av:Value) (w':World),zY w B av x.args->I64 x.block->O w w'->jk w B x (.returned (.agg #[I x.block,av])) w':=fun x av w' j g d=>⟨av,rfl,j,g,d⟩
 have c:=Ja l;clear l
 by_cases c2:t.kind=2
 ·have l2:=g c2
  by_cases c0:a=0
  ·have e:wK t a=t.to.getD 1 ⟨0,[]⟩:=by unfold wK;rw[if_pos ⟨c2,c0⟩]
   rw[e];obtain⟨b,o,ab,ac,rfl,q,k1,k2,k3,k4⟩:=GET.out 1 Zo;generalize t.to.getD 1 ⟨0,[]⟩=x at *;have q1:(w.cell? ⟨b,o+2,none⟩)=_:=k1;have q2:(w.cell? ⟨b,o+2+1,none⟩)=_:=k2;have m:b<w.heap.size:=Zo;have K3:=Ja (Jb k3 k4);have hI:(1:Int)<t.to.length:=Zo;subst c0;rw[c2]
   try simp only[Nat.zero_mul,Uk] at q1 q2
   clear u j g d k1 k2 k3 k4 e;go_enter Try.func98,Try.ntmps98;go_wp2;refine bodyPost_ret (v:=.agg #[I x.block,.slice ab x.args.length ac]) (by simp[results,Try.results98,go_sem]) rfl ?_;exact c.out _ _ _ K3.out.1 K3.out.2 (by repeat' (first|exact Below.refl _ _|(refine Below.alloc ?_ (by simp<;>omega) _)|(refine Below.setCell ?_ Zs _)))
  ·have e:wK t a=t.to.getD 0 ⟨0,[]⟩:=by unfold wK;rw[if_neg (fun h=>c0 h.2),if_neg Zo]
   rw[e];obtain⟨b,o,ab,ac,rfl,q,k1,k2,k3,k4⟩:=GET.out 0 Zo;generalize t.to.getD 0 ⟨0,[]⟩=x at *;have q1:(w.cell? ⟨b,o+0*2,none⟩)=_:=k1;have q2:(w.cell? ⟨b,o+0*2+1,none⟩)=_:=k2;have m:b<w.heap.size:=Zo;have K3:=Ja (Jb k3 k4);have hI:(0:Int)<t.to.length:=Zo;have b2:((a:Int)==0)=false:=Ze;rw[c2]
   try simp only[Nat.zero_mul,Uk] at q1 q2
   clear u j g d k1 k2 k3 k4 e;go_enter Try.func98,Try.ntmps98;go_wp2;refine bodyPost_ret (v:=.agg #[I x.block,.slice ab x.args.length ac]) (by simp[results,Try.results98,go_sem]) rfl ?_;exact c.out _ _ _ K3.out.1 K3.out.2 (by repeat' (first|exact Below.refl _ _|(refine Below.alloc ?_ (by simp<;>omega) _)|(refine Below.setCell ?_ Zs _)))
 ·by_cases c3:t.kind=3
  ·have e:wK t a=t.to.getD (min a (t.to.length-1)) ⟨0,[]⟩:=by unfold wK;rw[if_neg (fun h=>c2 h.1),if_pos c3]
   have l3:=d c3;rw[e];obtain⟨i,hi⟩:∃i,min a (t.to.length-1)=i:=⟨_,rfl⟩
   rw[hi];have a1:i<t.to.length:=Zo;have y:(i:Int)=if(t.to.length:Int)-1<(a:Int) then(t.to.length:Int)-1 else(a:Int):=by split<;>omega
   have a8:∀(ts:Array TypeId) (t2:TypeId) (W:World),(Builtin.min_ ts t2 #[I a,I ((t.to.length:Int)-1)]).run Try.prog W=.ok (I i) W:=fun ts t2 W=>by rw[y];exact run_min_int2 ..
   have b0:0<=(t.to.length:Int)-1:=Zo;clear y;obtain⟨b,o,ab,ac,rfl,q,k1,k2,k3,k4⟩:=GET.out i a1;generalize t.to.getD i ⟨0,[]⟩=x at *;have q1:(w.cell? ⟨b,o+i*2,none⟩)=_:=k1;have q2:(w.cell? ⟨b,o+i*2+1,none⟩)=_:=k2;have m:b<w.heap.size:=Zo;have K3:=Ja (Jb k3 k4);have hI:(i:Int)<t.to.length:=Zo;rw[c3]
   try simp only[Nat.zero_mul,Uk] at q1 q2
   clear u j g d k1 k2 k3 k4 e;go_enter Try.func98,Try.ntmps98;go_wp2;refine bodyPost_ret (v:=.agg #[I x.block,.slice ab x.args.length ac]) (by simp[results,Try.results98,go_sem]) rfl ?_;exact c.out _ _ _ K3.out.1 K3.out.2 (by repeat' (first|exact Below.refl _ _|(refine Below.alloc ?_ (by simp<;>omega) _)|(refine Below.setCell ?_ Zs _)))
  ·have e:wK t a=t.to.getD 0 ⟨0,[]⟩:=by unfold wK;rw[if_neg (fun h=>c2 h.1),if_neg c3]
   have c1:t.kind=1:=Zo;have l1:=j c1;rw[e];obtain⟨b,o,ab,ac,rfl,q,k1,k2,k3,k4⟩:=GET.out 0 Zo;generalize t.to.getD 0 ⟨0,[]⟩=x at *;have q1:(w.cell? ⟨b,o+0*2,none⟩)=_:=k1;have q2:(w.cell? ⟨b,o+0*2+1,none⟩)=_:=k2;have m:b<w.heap.size:=Zo;have K3:=Ja (Jb k3 k4);have hI:(0:Int)<t.to.length:=Zo;rw[c1]
   try simp only[Nat.zero_mul,Uk] at q1 q2
   clear u j g d k1 k2 k3 k4 e;go_enter Try.func98,Try.ntmps98;go_wp2;refine bodyPost_ret (v:=.agg #[I x.block,.slice ab x.args.length ac]) (by simp[results,Try.results98,go_sem]) rfl ?_;exact c.out _ _ _ K3.out.1 K3.out.2 (by repeat' (first|exact Below.refl _ _|(refine Below.alloc ?_ (by simp<;>omega) _)|(refine Below.setCell ?_ Zs _)))
def endP0:Res Nat->Ending
 |.ok _ _=> .returned (.tuple #[])
 |.trap k i _=> .panicked [oE k i]
def wU (K:MK)(w:World)(r:Res Nat)(e:Ending)(w':World):Prop:=e=endP0 r/\(∃ov',MachAt w' K r.mach ov')/\Frm K.B w w'
theorem wU.ok{c:Value}(h:MachAt w' K m' c)(d:Frm K.B w w'):wU K w (.ok x m') (.returned (.tuple #[])) w':=⟨rfl,⟨c,h⟩,d⟩
theorem wU.trap{i:Nat}{c:Value}(h:MachAt w' K m' c)(d:Frm K.B w w'):wU K w (.trap k i m') (.panicked [oE k i]) w':=⟨rfl,⟨c,h⟩,d⟩
theorem u16s_nil (w:World)(B:Nat):wV w B (F) []:=⟨none,0,rfl,Je _,by decide,fun k x hk=>by simp at hk⟩
theorem poll_any{m:Mach}{ov:Value}(h:MachAt w K m ov)(a9:OkProg K.E.p){r:Nat}(hr:r<=100)(hC:pq K r):
 T 104 #[L K.pm,I (100-(r:Int))] w (wU K w (tY K.E (xW K.E r) m)):=by
 have c8:=h.c8;have c12:=h.c12;have j:=h.irq;obtain⟨ia,ic,a3,d0,c9⟩:=j.form;rw[a3] at c8 j;have HH:=Ja h;have b5:=h.pol;have c0:=Ja a3;have b8:=Ja a9;have HC:=Ja hC;clear h a3 a9 hC
 by_cases d:m.polls<K.E.irq.length
 ·obtain⟨x,hx⟩:∃x,K.E.irq[m.polls]? =some x:=⟨_,Jd d⟩
  obtain⟨b,o,rfl,b0,y,c5⟩:=j.get hx;have c1:=Ja b0;rw[Nk] at y;have hI:¬(K.E.irq.length:Int)<=m.polls:=Zo;have hJ:(m.polls:Int)<K.E.irq.length:=Zo
  have a8:tY K.E (xW K.E r) m=if x≠0/\K.E.p.handler≠-1 then(match xW K.E r K.E.p.handler [] {m with polls:=m.polls+1 } with|.ok _ m'=> .ok 0 m'|.trap k i m'=> .trap k i m') else .ok 0 {m with polls:=m.polls+1 }:=by
   unfold tY;rw[if_pos d,Jj,hx];rfl
  have a5:=Ja a8;have b1:=HH.out.free 12;have b9:=Ja d;have c2:K.E.irq.length<=9223372036854775807:=Zo;clear j d hx b5 b0 a8;go_enter Try.func104,Try.ntmps104;go_upto_region 0 with fail
  go_cut [14] (fun v wx=>v=.bool false/\∃n,wx=w.drewN n)
  case first=>
   go_quiet (fail);go_wp2;go_meet;exact⟨rfl,_,rfl⟩
  case rest=>
   obtain⟨rfl,n,rfl⟩:=hcut;have u:=(HH.out.drewN n).setP b9.out HH.out.ne;have hF:Frm K.B w ((w.drewN n).setCell ⟨K.pm,12,none⟩ (I ((m.polls:Int)+1))):=(Frm.refl _ _).drewN.trans ((HH.out.drewN n).frm 12 _);have d8:(w.drewN n).cell? ⟨K.pm,8,none⟩=_:=c8;have d2:(w.drewN n).cell? ⟨K.pm,12,none⟩=_:=c12;have c4:Y (w.drewN n) K.pm 12:=b1;have e8:=u.c8;rw[c0.out] at e8;have d1:=u.c12;have e3:=u.c3;have b7:=(hF.below.cell (p:=⟨b,o+m.polls,none⟩) c1.out).trans y;have c7:IntKind.i64.wrap (((m.polls+1:Nat):Int)-1)=(m.polls:Int):=by rw[show(((m.polls+1:Nat):Int)-1)=(m.polls:Int) by omega];exact Om _ Zo
   have H1:=Ja u;have HF:=Ja hF;clear u hF c8 c12 b1;go_upto_region 2 with fail;generalize (w.drewN n).setCell ⟨K.pm,12,none⟩ (I ((m.polls:Int)+1))=W2 at *
   by_cases g:x=0
   ·have t1:((x:Int) !=0)=false:=by rw[bne_eq_false_iff_eq];omega
    have EE:=Ja (show tY K.E (xW K.E r) m=.ok 0 {m with polls:=m.polls+1 } by rw[a5.out,if_neg (fun h=>h.1 g)]);clear g;go_quiet (fail);go_wp2
    go_end0
    rw[EE.out];exact wU.ok (H1.out.drewN _) HF.out.drewN
   ·have t1:((x:Int) !=0)=true:=by rw[bne_iff_ne];omega
    by_cases t:K.E.p.handler=-1
    ·have t2:(K.E.p.handler !=-1)=false:=by rw[bne_eq_false_iff_eq];exact t
     have EE:=Ja (show tY K.E (xW K.E r) m=.ok 0 {m with polls:=m.polls+1 } by rw[a5.out,if_neg (fun h=>h.2 t)]);clear g t;go_quiet (fail);go_wp2
     go_end0
     rw[EE.out];exact wU.ok (H1.out.drewN _) HF.out.drewN
    ·have t2:(K.E.p.handler !=-1)=true:=by rw[bne_iff_ne];exact t
     have a1:=a5.out;rw[if_pos ⟨g,t⟩] at a1
     have a0:∀q,pq K r->T 91 #[L K.pm,I K.E.p.handler,F,I (101-(r:Int))] (W2.drewN q) (zQ K (W2.drewN q) (xW K.E r K.E.p.handler [] {m with polls:=m.polls+1 })):=fun q hC=>by
      obtain⟨u,h2,h3⟩:=b8.out.hnd t;exact hC (W2.drewN q) _ ov _ _ [] (H1.out.drewN q) u h2 (u16s_nil _ _) (by rw[h3];rfl)
     have b3:=Ja (fun q=>a0 q HC.out);have b2:=Ja a1;clear g t a0 a1
     go_cut [42] (fun v wx=>v=.bool true/\∃q,wx=W2.drewN q)
     case first=>
      go_quiet (fail);go_wp2;go_meet;exact⟨rfl,_,rfl⟩
     case rest=>
      obtain⟨rfl,q,rfl⟩:=hcut;have g3:(W2.drewN q).cell? ⟨K.pm,3,none⟩=_:=e3
      cases c:xW K.E r K.E.p.handler [] {m with polls:=m.polls+1 } with
      |ok x m'=>
       have l:T 91 #[L K.pm,I K.E.p.handler,F,I (101-(r:Int))] (W2.drewN q) fun e w'=>e=.returned (G x)/\(∃ov',MachAt w' K m' ov')/\Frm K.B (W2.drewN q) w'/\x<65536:=by have:=b3.out q;rw[c] at this;exact this
       have a6:=Ja l;have EE:=Ja (show tY K.E (xW K.E r) m=.ok 0 m' by rw[b2.out,c]);clear l c;have b6:(100-(r:Int))+1=101-(r:Int):=Zo;go_wp2_with (go_at_call 91;go_must (refine a6.out.mono ?_;rintro e w' ⟨rfl,⟨ov',a2⟩,a4,b4⟩))
       go_end0
       rw[EE.out]
       exact wU.ok a2 (HF.out.drewN.trans a4)
      |trap k i m'=>
       have l:T 91 #[L K.pm,I K.E.p.handler,F,I (101-(r:Int))] (W2.drewN q) fun e w'=>e=.panicked [oE k i]/\(∃ov',MachAt w' K m' ov')/\Frm K.B (W2.drewN q) w'/\True:=by have:=b3.out q;rw[c] at this;exact this
       have a6:=Ja l;have EE:=Ja (show tY K.E (xW K.E r) m=.trap k i m' by rw[b2.out,c]);clear l c;have b6:(100-(r:Int))+1=101-(r:Int):=Zo;go_wp2_with (go_at_call 91;go_must (refine a6.out.mono ?_;rintro e w' ⟨rfl,⟨ov',a2⟩,a4,b4⟩))
       exact⟨rfl,by rw[EE.out];exact wU.trap a2 (HF.out.drewN.trans a4)⟩
 ·have hI:(K.E.irq.length:Int)<=m.polls:=Zo;have e:tY K.E (xW K.E r) m=.ok 0 m:=by unfold tY;rw[if_neg d]
  have EE:=Ja e;clear e j d;go_enter Try.func104,Try.ntmps104;go_wp2;go_quiet (fail);go_wp2
  first|go_end0|refine bodyPost_ret (results_none rfl _ _ _) rfl ?_
  rw[EE.out];exact wU.ok (HH.out.drewN _) (Frm.refl _ _).drewN
theorem ju{p:IProg}(o:IOp)(ho:qN o)(ar:Option Addr)(g:Nat)(hs:zi o.code=⟨false,false,false,false,false⟩):
 T 77 #[L C,opV o (.slice ar o.args.length g)] w (ym w (opF p o)):=by
 unfold opV;obtain⟨j,h,l,k,i⟩:=ho;have e:opF p o=false:=by unfold opF;rw[hs];rfl
 rw[e];have hf:∀W,T 81 #[I o.code] W fun e w'=>e=.returned (.tuple #[.agg #[.bool false,.bool false,.bool false,.bool false],.bool false])/\O W w':=fun W=>by have:=yu o.code W;rw[hs] at this;exact this
 have q:=Ja hf;clear hf hs e;go_enter Try.func77,Try.ntmps77;go_wp2_with (first|(go_at_call 81;go_must (refine(q.out _).mono ?_;rintro e w1 ⟨rfl,c⟩;have d:=Ja c;clear c))|go_in)
 go_ret;exact⟨rfl,(((Below.refl _ _).alloc (Je _) _).trans (d.out.mono Zs)).alloc (by have m:=d.out.size;simp at m;omega) _⟩
theorem oper_any{B:Nat}{V:PV}{tl:List Value}{p:IProg}(hp:ProgIn w B V p)(hB:B<=w.heap.size)(l:Q w C (rC V p++tl).toArray 107)(hl:p.args.length=p.funcs.length)(o:IOp)(ho:qN o)(ar:Option Addr)(c:Nat)(d:o.args.length<=c/\c<=9223372036854775807):
 T 77 #[L C,opV o (.slice ar o.args.length c)] w (ym w (opF p o)):=by
 by_cases i:o.code=26
 ·exact kM hp hB l hl o ho ar c d i
 by_cases k:o.code=2
 ·exact jo hp hB l hl o ho ar c d k
 by_cases j:o.code=24
 ·exact oper_in (pvs:=[]) o ho ar c d j
 by_cases g:o.code=25
 ·exact oper_out (pvs:=[]) o ho ar c d g
 rcases rJ o.code with⟨h,e⟩|⟨h,e⟩|⟨h,e⟩|⟨h,e⟩|⟨h,e⟩|⟨h,e⟩|⟨h,e⟩|⟨h,e⟩
 ·exact kG (pvs:=[]) o ho ar c d e i k j g
 ·exact oper_una (pvs:=[]) o ho ar c d e i k j g
 ·exact oper_bin (pvs:=[]) o ho ar c d e i k j g
 ·exact oper_sto (pvs:=[]) o ho ar c d e i k j g
 ·exact oper_rom (pvs:=[]) o ho ar c d e i k j g
 ·exact absurd h g
 ·exact kY (pvs:=[]) o ho ar c d e i k j g
 ·exact ju o ho ar c e
end Go.Proofs.Ytoahcpkibpomcaa
set_option maxRecDepth 8000
namespace Go.Proofs.Ytoahcpkibpomcaa
open Go.RowKit Go.Shelf
variable {W W' w w':World}{t:ITerm}{bl blocks:List IBlk}{K:MK}{Bi Bn Bv C bi bp k m m1 m2 x:Nat}{m':Mach}{c:List Int}{i:Int}{d:wO}{ds:List Deferred}{ns xs:List Nat}{g:List (List Nat)}{o:IOp}{l:List IOp}
attribute [local go_sem] Oper.semAt_some
theorem wi.snoc {idom:List Int}{f:Int->Int}{p:Nat}:∀ {ps:List Nat} {d d1 d2:Int},wi idom f ps d d1->mJ idom f p d1 d2->wi idom f (ps++ [p]) d d2
 | [],d,d1,d2,h,h2=>by cases h;exact⟨d2,h2,rfl⟩
 |q::ps,d,d1,d2,⟨d0,h0,h⟩,h2=>⟨d0,h0,wi.snoc h h2⟩
theorem UpN.unique{f:Int->Int}{t:Int}:∀ {k k2 a r r2:Nat},UpN c f t k a r->UpN c f t k2 a r2->r=r2
 |0,0,_,_,_,h,h2=>h.2.trans h2.2.symm
 |0,_+1,_,_,_,h,h2=>absurd h2.1 h.1
 |_+1,0,_,_,_,h,h2=>absurd h.1 h2.1
 |k+1,k2+1,a,r,r2,⟨_,a1,_,h,h3⟩,⟨_,a2,_,h2,h4⟩=>by
  obtain rfl:a1=a2:=by rw[h] at h2;exact Int.ofNat_inj.1 (Nt h2)
  exact UpN.unique h3 h4
theorem qZ.unique{f:Int->Int}:∀ {k k2 a b r r2:Nat},qZ c f k a b r->qZ c f k2 a b r2->r=r2
 |0,0,_,_,_,_,h,h2=>h.2.trans h2.2.symm
 |0,_+1,_,_,_,_,h,h2=>absurd h.1 h2.1
 |_+1,0,_,_,_,_,h,h2=>absurd h2.1 h.1
 |k+1,k2+1,a,b,r,r2,⟨_,j,a1,h1,j',b1,h2,h3⟩,⟨_,i,a2,g1,i',b2,g2,g3⟩=>by
  obtain rfl:=UpN.unique h1 g1;obtain rfl:=UpN.unique h2 g2;exact qZ.unique h3 g3
theorem mJ.unique{f:Int->Int}{p:Nat}{d d1 d2:Int}(h:mJ c f p d d1)(h2:mJ c f p d d2):d1=d2:=by
 obtain⟨x,j,h⟩:=h;obtain⟨y,g,h2⟩:=h2;obtain rfl:x=y:=by rw[j] at g;simpa using g
 rcases h with⟨a,rfl⟩|⟨a,b,rfl⟩|⟨a,dn,rfl,_,k,r,hm,rfl⟩<;>rcases h2 with⟨a',e⟩|⟨a',b',e⟩|⟨a',dn',e0,_,k',r',i,e⟩
 ·exact e.symm
 ·exact absurd a a'
 ·exact absurd a a'
 ·exact absurd a' a
 ·exact e.symm
 ·omega
 ·exact absurd a' a
 ·omega
 ·obtain rfl:dn=dn':=by omega
  rw[e,qZ.unique hm i]
theorem wi.unique{f:Int->Int}:∀ {ps:List Nat} {d d1 d2:Int},wi c f ps d d1->wi c f ps d d2->d1=d2
 | [],_,_,_,h,h2=>h.trans h2.symm
 |p::ps,d,d1,d2,⟨e,h,h'⟩,⟨e2,g,g'⟩=>by
  obtain rfl:=h.unique g;exact wi.unique h' g'
structure DomMem (w W:World) (bv Bi bi n:Nat) (idom:List Int):Prop where
 hv:W.heap[w.heap.size]? =some (.cells #[.pointer (some ⟨bv,0,none⟩)] 122 (0,0))
 hi:W.heap[Bi]? =some (.cells #[.slice (some ⟨bi,0,none⟩) n n] 25 (0,0))
 hm:W.heap[Bi+1]? =some (.cells #[.func (.func 87) #[] #[.pointer (some ⟨w.heap.size,0,none⟩),.pointer (some ⟨Bi,0,none⟩)]] 142 (0,0))
 hr:W.heap[bi]? =some (.cells (idom.map (Value.int .i64)).toArray 3 (0,0))
 hl:idom.length=n
 hb:Below w.heap.size w W
 lt:w.heap.size<bi/\bi<Bi
theorem DomMem.kept{bv n:Nat}{idom:List Int}{row:Option Nat}(h:DomMem w W bv Bi bi n idom)(hg:W.grownBy W' row)
 (c:∀r,row=some r->w.heap.size<r/\r≠bi/\r≠Bi/\r≠Bi+1):DomMem w W' bv Bi bi n idom:=by
 obtain⟨hv,hi,hm,hr,hl,hb,lt⟩:=h;refine⟨zL hg hv (fun e=>by have:=c _ e;omega),zL hg hi (fun e=>(c _ e).2.2.1 rfl),zL hg hm (fun e=>(c _ e).2.2.2 rfl),zL hg hr (fun e=>(c _ e).2.1 rfl),hl,hb.grown hg hb.size (fun k hk=>?_),lt⟩;have:=c _ hk;omega
theorem DomMem.own{bv n:Nat}{idom:List Int}{row:Option Nat}(h:DomMem w W bv Bi bi n idom)(hg:W.grownBy W' row)
 (c:∀r,row=some r->∃o:Obj,W.heap[r]? =some o/\o.isCells=false) (hB:∀r,row=some r->w.heap.size<=r):DomMem w W' bv Bi bi n idom:=by
 refine h.kept hg (fun r e=>?_);obtain⟨o,ho,d⟩:=c r e
 have aux:∀ {b:Nat} {cs:Array Value} {t:TypeId},Q W b cs t->r≠b:=by
  rintro b cs t hb rfl;rw[hb] at ho;cases ho;cases d
 exact⟨Nat.lt_of_le_of_ne (hB r e) (Ne.symm (aux h.hv)),aux h.hr,aux h.hi,aux h.hm⟩
theorem DomMem.set{bv n:Nat}(h:DomMem w W bv Bi bi n c)(k:Nat)(d:Int):DomMem w (W.setCell ⟨bi,k,none⟩ (I d)) bv Bi bi n (c.set k d):=by
 obtain⟨hv,hi,hm,hr,hl,hb,lt⟩:=h;refine⟨zR hv Zt,zR hi Zt,zR hm Zt,?_,by simpa using hl,hb.setCell Zt _,lt⟩;rw[zD hr];simp
def oh (B:Nat)(W:World)(ds:List Deferred):Prop:=
 ∃Ds:List Nat,ds=Ds.map (fun D=> {target:=.collected D,args:=#[]})/\Ds.Nodup/\∀D∈Ds,B<=D/\W.heap[D]? =some (.deferred (some []))
theorem oh.keeps{B:Nat}(h:oh B W ds)(hk:KeepsFrom 0 W W'):oh B W' ds:=by
 obtain⟨Ds,rfl,d,c⟩:=h;exact⟨Ds,rfl,d,fun D hD=>⟨(c D hD).1,hk.same D _ (Jt _) (c D hD).2 rfl⟩⟩
theorem oh.push{B:Nat}{W0:World}{D:Nat}(h:oh B W0 ds)(hk:KeepsFrom 0 W0 W)(j:W0.heap.size<=D)(hB:B<=D)(g:W.heap[D]? =some (.deferred (some []))):
 oh B W ({target:=.collected D,args:=#[]}::ds):=by
 obtain⟨Ds,rfl,i,d⟩:=h;refine⟨D::Ds,rfl,Qt.2 ⟨fun hm=>?_,i⟩,fun E c=>?_⟩
 ·have:=(Array.getElem?_eq_some_iff.1 (d D hm).2).1;omega
 ·rcases Jq.1 c with rfl|c
  ·exact⟨hB,g⟩
  ·exact⟨(d E c).1,hk.same E _ (Jt _) (d E c).2 rfl⟩
theorem sr{F:Fence}{P:Program}{fn:Func}{c:Array Value}{R:Ending->World->Prop}(B:Nat)(G:World->Prop)
 (g:∀W D,B<=D->W.heap[D]? =some (.deferred (some []))->G W->G (W.putObj D (.deferred none))) (d:∀W,G W->LeavesIn F m P fn c R [] .returning W):
 ∀(Ds:List Nat) (W:World),Ds.Nodup->(∀D∈Ds,B<=D/\W.heap[D]? =some (.deferred (some [])))->G W->LeavesInM F m P fn c R (Ds.map (fun D=> {target:=.collected D,args:=#[]})) .returning W
 | [],W,_,_,h=>d W h
 |D::Ds,W,hn,hd,h=>by
  have hD:=hd D Zs;refine⟨by simp,.inl ⟨D,_,rfl,run_takeDeferred hD.2,?_⟩⟩;refine sr B G g d Ds _ (Qt.1 hn).2 (fun E hE=>⟨(hd E (by simp[hE])).1,?_⟩) (g W D hD.1 hD.2 h);rw[World.putObj_heap_other (by rintro rfl;exact(Qt.1 hn).1 hE)];exact(hd E (by simp[hE])).2
theorem _root_.Go.KeepsFrom.from0(h:KeepsFrom 0 W W')(B:Nat):KeepsFrom B W W':=⟨h.size,fun k o _ hk ho=>h.same k o (Jt _) hk ho⟩
theorem uh (W:World)(o:Obj):KeepsFrom 0 W (W.alloc o):=⟨by simp,fun k o' _ hk _=>(Below.heap_alloc _ _ _ (Array.getElem?_eq_some_iff.1 hk).1).trans hk⟩
theorem uu{b i:Nat}{cs:Array Value}{t:TypeId}(h:Q W b cs t)(v:Value):KeepsFrom 0 W (W.setCell ⟨b,i,none⟩ v):=
 ⟨by simp,fun k o _ hk hc=>(Below.heap_setCell _ _ _ k (fun e=>by subst e;rw[h] at hk;cases hk;cases hc)).trans hk⟩
theorem uW (W:World)(n:Nat):KeepsFrom 0 W (W.drewN n):=⟨Je _,fun _ _ _ h _=>h⟩
theorem oH{w1:World}{bv n:Nat}(h:Q w1 (w.heap.size+2) (List.replicate n (I (-1))).toArray 3/\O w w1/\Q w1 w.heap.size #[L bv] 122)
 (d:w.heap.size+2<w1.heap.size) (g:1<=n):
 DomMem w (((w1.setCell ⟨w.heap.size+2,0,none⟩ (I 0)).alloc (A #[N (w.heap.size+2) n n] 25)).alloc (A #[.func (.func 87) #[] #[L w.heap.size,L w1.heap.size]] 142))
  bv w1.heap.size (w.heap.size+2) n ((0:Int)::List.replicate (n-1) (-1)):=by
 obtain⟨hr,hb,hv⟩:=h;have c:=zD (i:=0) hr (I 0);refine⟨zB (zB (zR hv Zs)),zB (zI Zs),zI Zs,?_,by simp;omega,?_,by omega,d⟩
 ·rw[zB (zB c)];obtain⟨m,rfl⟩:∃m,n=m+1:=⟨n-1,by omega⟩
  simp[Qz]
 ·exact((hb.setCell Zs _).alloc Zt _).alloc Zt _
theorem vA{b i:Nat}{a:Addr}(h:a.block≠b)(u:Value):(W.setCell ⟨b,i,none⟩ u).cell? a=W.cell? a:=by
 have:(W.setCell ⟨b,i,none⟩ u).heap[a.block]? =W.heap[a.block]?:=Below.heap_setCell _ _ _ _ h;unfold World.cell?;rw[this]
theorem aaT.keptObj{n:Nat}{bv op len i:Nat}{ar:Option Addr}{g:Nat}{row:Option Nat}(h:aaT Bv Bn n xs bv bp op len i ar g W)(hg:W.grownBy W' row)
 (d:∀r,row=some r->∃o:Obj,W.heap[r]? =some o/\o.isCells=false):aaT Bv Bn n xs bv bp op len i ar g W':=by
 obtain⟨c1,c2,c3,k,c4,l⟩:=h;refine⟨cell_kept c1 hg d,cell_kept c2 hg d,cell_kept c3 hg d,k,cell_kept c4 hg d,fun j x hj=>?_⟩;obtain⟨b,o,e,c⟩:=l j x hj;exact⟨b,o,e,cell_kept c hg d⟩
theorem aaT.set{n:Nat}{bv op len g:Nat}{ar:Option Addr}{d:Nat}{Bd:Nat}(h:aaT Bv Bn n xs bv bp op len g ar d W)(u:Value)
 (w:Bv≠Bd) (t:Bn≠Bd) (q:bv≠Bd) (m:bp≠Bd) (l:∀(j x:Nat),xs[j]? =some x->∀a,ar=some a->a.block≠Bd):aaT Bv Bn n xs bv bp op len g ar d (W.setCell ⟨Bd,0,none⟩ u):=by
 obtain⟨c1,c2,c3,i,c4,k⟩:=h;refine⟨(vA w u).trans c1,(vA t u).trans c2,(vA q u).trans c3,i,(vA m u).trans c4,fun j x hj=>?_⟩;obtain⟨b,o,e,c⟩:=k j x hj;exact⟨b,o,e,(vA (a:=⟨b,o+j,none⟩) (l j x hj ⟨b,o,none⟩ e) u).trans c⟩
theorem jt{bv:Nat}{k:List Nat}{f:Int->Int}{c:List (List Nat)}(q:oN w C bv k f c)(hb:Below C w W){pr:List Nat}(g:c[x]? =some pr)
 (c1:U W Bv 0 (L bv)) (c2:U W Bn 0 (I x)):
 ∃bp op len cap ar capr,aaT Bv Bn x pr bv bp op len cap ar capr W/\bp<C/\∀(j y:Nat),pr[j]? =some y->∀a,ar=some a->a.block<C:=by
 obtain⟨ov,bm,pv,nm,e0,e1,e2,ho,hm,t,hp,hl⟩:=q;obtain⟨a,cap,rfl,m⟩:=hp.form;obtain⟨b,o,a2,i,rfl,h,d,u,l⟩:=hp.row g;refine⟨b,o,c.length,cap,a2,i,⟨c1,c2,(hb.cell (p:=⟨bv,2,none⟩) hl).trans e2,(Jh.1 g).1,(hb.cell (p:=⟨b,o+x,none⟩) h).trans d,fun j y hj=>?_⟩,h,fun j y hj a e=>?_⟩
 ·obtain⟨b2,o2,e,hB,d⟩:=l j y hj;exact⟨b2,o2,e,(hb.cell (p:=⟨b2,o2+j,none⟩) hB).trans d⟩
 ·obtain⟨b2,o2,e2,hB,d⟩:=l j y hj;rw[e2] at e;cases e;exact hB
theorem qQ (w:World)(C bv n:Nat)(l0:List Nat)(f:Int->Int)(t:List (List Nat))(hC:C<=w.heap.size)(hV:oN w C bv l0 f t)(h1:1<=n)(hn:n<=2000000)
 (ns:List Nat) (o2:l0=0::ns) (l7:∀x∈ns,x<n) (q0:ns.length<=2000000) (hpl:t.length=n) (l4:∀row∈t,row.length<=4000004000000) (k0:Nat) (idom':List Int) (hD:ip t f ns k0 ((0:Int)::List.replicate (n-1) (-1)) idom'):
 T 80 #[L bv,I n] w fun e w'=>∃g,e=.returned (N g n n)/\w.heap.size<=g/\Q w' g (idom'.map (Value.int .i64)).toArray 3/\O w w':=by
 have HV:=Ja hV;have HD:=Ja hD;have HN:=Ja l7;have p5:=Ja l4;clear hV hD l7 l4;refine(callsIn_wide (n:=100)).1 (callsIn_of_wp_marks Try.func80 rfl trivial ?_ rfl);simp only[Try.ntmps80,List.size_toArray,Nq,Ow,Nat.reduceAdd,Nat.reduceSub,Array.replicate_succ,Array.replicate_zero,List.push_toArray,List.append_toArray,Op,List.cons_append];refine wpIn_wide.2 ?_
 have h9:∀W:World,W=(w.alloc (A #[L bv] 122)).alloc (A #[I (-1)] 3)->T 86 #[N (w.heap.size+1) 1 1,I n] W fun e w1=>
  e=.returned (N (w.heap.size+2) n n)/\U w1 (w.heap.size+2) 0 (I (-1))/\w1.frozen? ⟨w.heap.size+2,0,none⟩=false/\w.heap.size+2<w1.heap.size/\Hid (Q w1 (w.heap.size+2) (List.replicate n (I (-1))).toArray 3/\O w w1/\Q w1 w.heap.size #[L bv] 122):=by
  rintro W rfl;have n7:((w.alloc (A #[L bv] 122)).alloc (A #[I (-1)] 3)).heap.size=w.heap.size+2:=by simp
  have hb:O w ((w.alloc (A #[L bv] 122)).alloc (A #[I (-1)] 3)):=((Below.refl _ _).alloc (Je _) _).alloc Zs _;refine(lr _ (w.heap.size+1) 0 1 n (zA (zI Zs) Zs) h1 Zo).mono ?_;rintro e w1 ⟨rfl,hr,j1⟩;rw[n7] at hr j1 ⊢;exact⟨rfl,zA hr (by rw[List.getElem?_toArray,Nm,if_pos Zo]),zE hr,lt_of_block hr,hr,hb.trans (j1.mono Zo),zH j1 (zB (zI rfl)) Zo⟩
 have c3:∀(w1:World) (a:Addr) (u:Value) (o:Obj),(((w1.setCell a u).alloc o).alloc (A #[.nilFunc] 142)).cell? ⟨w1.heap.size+1,0,none⟩=some .nilFunc:=fun w1 a u o=>zA (zI Zs) Zs
 have f3:∀(w1:World) (a:Addr) (u:Value) (o:Obj),(((w1.setCell a u).alloc o).alloc (A #[.nilFunc] 142)).frozen? ⟨w1.heap.size+1,0,none⟩=false:=fun w1 a u o=>zE (zI Zs)
 go_wp2_with (go_at_call 86;go_must (refine(h9 _ rfl).mono ?_;rintro e w1 ⟨rfl,c0,f0,n2,HW⟩))
 refine wp_loop_ghost (fun k a W=>∃(ch:Bool) (ds:List Deferred),∃u9 g8 g6 g5 g4 g3 g2 g1 k9 k7 k6 g0 f9 f8 f7 f6 f5 f4 f2 f1 e8 e7 e6 e5 e4 e3 d8 d7 d6 d5 d4 d3 d2 c9 c8 c7 c5 c4 c2 c1 b9 b8 b7 b6:Value,a= {tmps:=#[.pointer (some ⟨bv,0,none⟩),I n,.pointer (some ⟨w.heap.size,0,none⟩),undef,.slice none 0 0,.pointer (some ⟨w1.heap.size,0,none⟩),.pointer (some ⟨w1.heap.size+1,0,none⟩),.bool ch,undef,u9,g8,g6,.slice (some ⟨w.heap.size+1,0,none⟩) 1 1,I n,.slice (some ⟨w.heap.size+2,0,none⟩) n n,.slice (some ⟨w.heap.size+2,0,none⟩) n n,.pointer (some ⟨w.heap.size+2,0,none⟩),.func (.func 87) #[] #[.pointer (some ⟨w.heap.size,0,none⟩),.pointer (some ⟨w1.heap.size,0,none⟩)],g5,g4,g3,g2,g1,k9,k7,k6,g0,f9,f8,f7,f6,f5,f4,f2,f1,e8,e7,e6,e5,e4,e3,d8,d7,d6,d5,d4,d3,d2,c9,c8,c7,c5,c4,c2,c1,b9,b8,b7,b6],defers:=ds }/\oh w.heap.size W ds/\∃idom,DomMem w W bv w1.heap.size (w.heap.size+2) n idom/\((ch=true/\ip t f ns k idom idom')∨(ch=false/\idom=idom'))) k0 ?_ ?_
 ·refine⟨true,[],_,_,_,_,_,_,_,_,_,_,_,_,_,_,_,_,_,_,_,_,_,_,_,_,_,_,_,_,_,_,_,_,_,_,_,_,_,_,_,_,_,_,_,_,rfl,⟨[],rfl,List.nodup_nil,by simp⟩,_,oH HW.out n2 h1,.inl ⟨rfl,HD.out⟩⟩
 clear HD HW c0 f0 c3 f3 h9;rintro k a W ⟨ch,ds,u9,g8,g6,g5,g4,g3,g2,g1,k9,k7,k6,g0,f9,f8,f7,f6,f5,f4,f2,f1,e8,e7,e6,e5,e4,e3,d8,d7,d6,d5,d4,d3,d2,c9,c8,c7,c5,c4,c2,c1,b9,b8,b7,b6,rfl,hM,idom,h0,m2⟩;have HM:=Ja hM;have q:=Ja h0;have k1:=Ja m2;clear hM h0 m2;have cI:=cell_of_one q.out.hi;have cV:=cell_of_one q.out.hv
 cases ch with
 |false=>
  go_wp2;obtain⟨Ds,rfl,hnd,o4⟩:=HM.out;obtain rfl:idom=idom':=k1.out.elim (fun h=>Bool.noConfusion h.1) (fun h=>h.2);refine sr w.heap.size (fun W=>Q W (w.heap.size+2) (idom.map (Value.int .i64)).toArray 3/\O w W) ?_ ?_ Ds W hnd o4 ⟨q.out.hr,q.out.hb⟩
  ·rintro W D hB hd ⟨h1,h2⟩;exact⟨zL (grownBy_putObj' W D _) h1 (by rintro e;cases e;rw[h1] at hd;cases hd),h2.grown (grownBy_putObj' W D _) h2.size (by rintro k e;cases e;exact hB)⟩
  ·rintro W ⟨h1,h2⟩
   exact⟨_,results_tmp rfl _ _ _,_,rfl,by omega,h1,h2⟩
 |true=>
  have p3:=HV.out;obtain⟨ov,bm,pv,nm,e0,e1,e2,ho,hm,q9,hp,hl⟩:=p3;obtain⟨aO,capO,rfl,o6,h7⟩:=ho;subst o2;obtain⟨b,o,rfl,r5,o9⟩:=h7 0 0 rfl;simp only[Nq] at o6 e0;have HX:=Ja h7;clear e2 hm hp h7 o9 e1;have e0:=(q.out.hb.cell (p:=⟨bv,0,none⟩) (show bv<w.heap.size by omega)).trans e0;have l1:1<=capO:=Zo;go_upto_region 7 with fail
  go_cut [23,24,25] from 18 to 25 (fun s l i wx=>wx=W/\l=I (ns.length:Int)/\i=I 0/\∃o' c',s=.slice (some ⟨b,o',none⟩) ns.length c'/\Hid (0<ns.length->o'=o+1))
  case first=>
   go_wp2
   all_goals go_meet
   ·exact⟨rfl,rfl,rfl,_,_,rfl,by unfold Hid;intro h;omega⟩
   ·exact⟨rfl,rfl,rfl,_,_,rfl,fun _=>rfl⟩
  case rest=>
   obtain⟨rfl,rfl,rfl,o',c',rfl,HO⟩:=hcut
   obtain⟨k,i1,h3,a2,h5,rfl⟩:∃k2 i1 h3,ny t f ns idom false i1 h3/\((h3=false/\idom'=i1)∨(h3=true/\ip t f ns k2 i1 idom'))/\k=k2+1:=by
    rcases k1.out with⟨_,h⟩|⟨h,_⟩
    ·cases k with
     |zero=>exact h.elim
     |succ k=>obtain⟨i1,ch,h1,h2⟩:=h;exact⟨k,i1,ch,h1,h2,rfl⟩
    ·cases h
   have a4:=Ja a2;have k5:=Ja h5;clear a2 h5 k1 cI cV;go_wp2;refine wp_loop_ghost (fun k a W=>∃(i:Nat) (ch:Bool) (ds:List Deferred),∃u9 g8 g6 g5 g4 g3 g2 g1 g0 f9 f8 f7 f6 f5 f4 f2 f1 e8 e7 e6 e5 e4 e3 d8 d7 d6 d5 d4 d3 d2 c9 c8 c7 c5 c4 c2 c1 b9 b8 b7 b6:Value,a= {tmps:=#[.pointer (some ⟨bv,0,none⟩),I n,.pointer (some ⟨w.heap.size,0,none⟩),undef,.slice none 0 0,.pointer (some ⟨w1.heap.size,0,none⟩),.pointer (some ⟨w1.heap.size+1,0,none⟩),.bool ch,undef,u9,g8,g6,.slice (some ⟨w.heap.size+1,0,none⟩) 1 1,I n,.slice (some ⟨w.heap.size+2,0,none⟩) n n,.slice (some ⟨w.heap.size+2,0,none⟩) n n,.pointer (some ⟨w.heap.size+2,0,none⟩),.func (.func 87) #[] #[.pointer (some ⟨w.heap.size,0,none⟩),.pointer (some ⟨w1.heap.size,0,none⟩)],g5,g4,g3,g2,g1,(.slice (some ⟨b,o',none⟩) ns.length c'),(I (ns.length:Int)),(I i),g0,f9,f8,f7,f6,f5,f4,f2,f1,e8,e7,e6,e5,e4,e3,d8,d7,d6,d5,d4,d3,d2,c9,c8,c7,c5,c4,c2,c1,b9,b8,b7,b6],defers:=ds }/\k+i=ns.length/\oh w.heap.size W ds/\∃idom,DomMem w W bv w1.heap.size (w.heap.size+2) n idom/\ny t f (ns.drop i) idom ch i1 h3) ns.length ?_ ?_
   ·exact⟨0,false,ds,_,_,_,_,_,_,_,_,_,_,_,_,_,_,_,_,_,_,_,_,_,_,_,_,_,_,_,_,_,_,_,_,_,_,_,_,_,_,_,_,_,rfl,rfl,HM.out,idom,q.out,a4.out⟩
   clear a4 HM q ds idom;rintro j a W ⟨i,ch,ds,u9,g8,g6,g5,g4,g3,g2,g1,g0,f9,f8,f7,f6,f5,f4,f2,f1,e8,e7,e6,e5,e4,e3,d8,d7,d6,d5,d4,d3,d2,c9,c8,c7,c5,c4,c2,c1,b9,b8,b7,b6,rfl,r2,hM,idom,h0,a2⟩;have HM:=Ja hM;have q:=Ja h0;have a4:=Ja a2;clear hM h0 a2
   by_cases r0:(i:Int)<ns.length
   ·obtain⟨x,hx⟩:∃x,ns[i]? =some x:=⟨_,Jd Zo⟩
    have q5:=HN.out x (Ji hx);obtain⟨b1,o1,p0,_,h6⟩:=HX.out (i+1) x (by simpa using hx);obtain⟨rfl,rfl⟩:b=b1/\o=o1:=by simpa using p0
    have h6:U W b (o'+i) (I x):=by
     rw[HO.out Zo,Nat.add_assoc,Nat.add_comm 1 i];exact(q.out.hb.cell (p:=⟨b,o+(i+1),none⟩) (show b<w.heap.size by omega)).trans h6
    have cV:=cell_of_one q.out.hv;have r6:w.heap.size<W.heap.size:=lt_of_block q.out.hv;have q3:w1.heap.size+1<W.heap.size:=lt_of_block q.out.hm;go_wp2_with (go_at_call 88;refine(lj _ _ _).mono ?_;rintro e w2 ⟨rfl,rfl⟩)
    have b3:ns.drop i=x::ns.drop (i+1):=by
     rw[Qn Zo]
     congr 1
     have:=Jd (l:=ns) (i:=i) Zo;rw[hx] at this;exact(Nt this).symm
    have hp:=a4.out;rw[b3] at hp;obtain⟨pr,d0,old,l2,a5,a0,h4,b4⟩:=hp;have n1:(((W.alloc (A #[I (-1)] 3)).alloc (A #[L bv] 122)).alloc (A #[I x] 3)).heap.size=W.heap.size+3:=by simp
    have a8:DomMem w (((W.alloc (A #[I (-1)] 3)).alloc (A #[L bv] 122)).alloc (A #[I x] 3)) bv w1.heap.size (w.heap.size+2) n idom:=
     ((q.out.kept (Uo W _ none) (fun _ e=>by cases e)).kept (Uo _ _ none) (fun _ e=>by cases e)).kept (Uo _ _ none) (fun _ e=>by cases e)
    have b5:Boxed (((W.alloc (A #[I (-1)] 3)).alloc (A #[L bv] 122)).alloc (A #[I x] 3)) W.heap.size 3 (I (-1)):=((Boxed.new W _ _).alloc _).alloc _;have i2:KeepsFrom 0 W (((W.alloc (A #[I (-1)] 3)).alloc (A #[L bv] 122)).alloc (A #[I x] 3)):=((uh _ _).trans (uh _ _)).trans (uh _ _);obtain⟨bp,op,len,p4,ar,n3,b2,r4,m3⟩:=jt HV.out (a8.hb.mono hC) l2 (Bv:=W.heap.size+1) (Bn:=W.heap.size+1+1) (cell_of_one (zB (zI Zs))) (cell_of_one (zI Zs));generalize (((W.alloc (A #[I (-1)] 3)).alloc (A #[L bv] 122)).alloc (A #[I x] 3))=W4 at n1 a8 b5 i2 b2 ⊢;have n4:=Ja a5;have HC:=Ja b4;have s0:=Ja a0
    refine(wpIn_wide (n:=100)).1 (wpIn_rangeFunc_ownG rfl Zd (gf:=94) (lb:=#[L (W.heap.size+1),L (W.heap.size+1+1)]) rfl trivial (enters_of Try.func94 Zk rfl)
     (nH 99 Zd (W.heap.size+1) (W.heap.size+1+1) x pr bv bp op len p4 ar n3 (p5.out pr (Ji l2)) W4 b2) (fun h k x=>k (h x)) (fun V l o o' hl ho hc _ h=>h.keptObj (grownBy_putObj' V l o') (fun r e=>by cases e;exact⟨o,ho,hc⟩)) (Below.refl _ _) (fun _=>rfl)
     (fun pre V=>DomMem w V bv w1.heap.size (w.heap.size+2) n idom/\KeepsFrom 0 W4 V/\∃d,Boxed V W.heap.size 3 (I d)/\OkD idom d/\wi idom f (pre.map (·.1)) (-1) d) (fun _ _ _=>False)
     ?own (fun _ _ _ _ _ hs _ _=>hs) ⟨a8,KeepsFrom.refl _ _,-1,b5,.inl rfl,rfl⟩ ?a1 ?assign ?body ?done ?stop)
    case own=>
     rintro s X Y row ⟨hd,hk,d,hb,ho,hp⟩ hg hr;exact⟨hd.own hg (fun r e=>(hr r e).2) (fun r e=>by have:=(hr r e).1;omega),ownFrom_keepsFrom (β:=Unit) (Je W4.heap.size) () X Y row hk hg hr,d,hb.kept hg (fun e=>by have:=(hr _ e.symm).1;omega),ho,hp⟩
    case assign=>
     intro l x W K hK
     gi_wp2
     exact hK
    case body=>
     clear h6 b2 a8 b5 a0 a5 b4 h4 hx b3 e0 cV;rintro l pre ⟨p,hp⟩ V ⟨hd,hk,d,hb,ho,a9⟩ q2;have a6:(pre++ [(⟨p,hp⟩: {p//p∈pr})]).map (fun x=>x.1)=pre.map (fun x=>x.1)++ [p]:=by rw[Js];rfl
     have a6:=Ja a6;obtain⟨hpl,a5⟩:=n4.out p hp;obtain⟨d1,l5,k3⟩:=a5 d ho;obtain⟨x0,h8,l3⟩:=k3;have HD:=Ja hd;have HK:=Ja hk;have HB:=Ja hb;have b0:=Ja (Jb l5 (a9.snoc ⟨x0,h8,l3⟩));have cI:=cell_of_one hd.hi;have cM:=cell_of_one hd.hm;have cD:=hb.cell;have fD:=hb.frozen;have n9:p<n:=by rw[<-hd.hl];exact hpl
     have cr:U V (w.heap.size+2) p (I x0):=zA hd.hr (by simp[h8]);have q7:(p:Int)<n:=Zo;clear hd hk hb a9 ho l5 a5 h8 hpl;rcases l3 with⟨i0,rfl⟩|⟨i0,r3,rfl⟩|⟨i0,dn,rfl,o5,k2,r,k4,rfl⟩
     ·gi_wp2
      refine(show _/\_/\_ from⟨KeepsFrom.refl _ _,fun h=>h,HD.out,HK.out,_,HB.out,b0.out.1,?_⟩);rw[a6.out];exact b0.out.2
     ·gi_wp2
      refine(show _/\_/\_ from⟨(uu HB.out _).from0 _,fun h=>h.set _ Zo Zo Zo Zo (fun j y hj a e=>by have:=m3 j y hj a e;omega),HD.out.kept (grownBy_setCell' V _ _) (fun r e=>by cases e;have:=HD.out.lt;omega),HK.out.trans (uu HB.out _),_,HB.out.set _,b0.out.1,?_⟩)
      show wi idom f ((pre++ [(⟨p,hp⟩: {p//p∈pr})]).map (fun x=>x.1)) (-1) _
      rw[a6.out];exact b0.out.2
     ·have hnd:¬(dn:Int)<0:=Zo
      gi_wp2
      obtain⟨ov,bm',q4,n5,e0,e1,e2,o0,l8,q1,n8,r1⟩:=HV.out.below (HD.out.hb.mono hC);refine⟨trivial,CallsIn.inRound l (callsIn_wide.2 ((meet_any V w.heap.size w1.heap.size bv bm' n5 (w.heap.size+2) f idom (by rw[HD.out.hl];exact hn) (cell_of_one HD.out.hv) e1 l8 (by rw[HD.out.hl];exact cI) HD.out.hr k2 p dn r (by rw[HD.out.hl];exact n9) o5 k4).mono ?_))⟩;rintro e V2 ⟨rfl,m,rfl⟩;clear e0 e1 e2 o0 l8 n8
      gi_wp2
      have n0:Boxed (V.drewN m) W.heap.size 3 (I dn):=HB.out;have m1:V.grownBy (V.drewN m) none:=⟨rfl,rfl,rfl,Je _,fun _ _ _=>rfl⟩
      have l9:KeepsFrom 0 V ((V.drewN m).setCell ⟨W.heap.size,0,none⟩ (I r)):=(uW V m).trans (uu n0 _);refine(show _/\_/\_ from⟨l9.from0 _,fun h=>(h.keptObj m1 (fun r e=>by cases e)).set _ Zo Zo Zo Zo (fun j y hj a e=>by have:=m3 j y hj a e;omega),(HD.out.kept m1 (fun r e=>by cases e)).kept (grownBy_setCell' _ _ _) (fun r e=>by cases e;have:=HD.out.lt;omega),HK.out.trans l9,_,n0.set _,b0.out.1,?_⟩)
      show wi idom f ((pre++ [(⟨p,hp⟩: {p//p∈pr})]).map (fun x=>x.1)) (-1) _
      rw[a6.out];exact b0.out.2
    case done=>
     rintro D xs V hD n6 ⟨hd,hk,d,hb,ho,a9⟩ m4;rw[n6] at a9;obtain rfl:=wi.unique a9 a0;have cI:=cell_of_one hd.hi;have cD:=hb.cell;have cr:U V (w.heap.size+2) x (I old):=zA hd.hr (by simp[h4]);have fr:V.frozen? ⟨w.heap.size+2,x,none⟩=false:=zE hd.hr;have q6:(x:Int)<n:=Zo;have HD:=Ja hd;have m5:=Ja (HM.out.push (i2.trans hk) Zo (by have:=q.out.hb.size;omega) m4);clear hd hk hb ho a9 m4 h6 b2 a8 b5 a0 a5 b4 h4 hx b3 e0 cV;rcases HC.out with⟨rfl,a3⟩|⟨o3,a3⟩
     ·have j2:=Ja a3;clear a3;have p1:(old !=old)=false:=by simp
      go_wp2;go_quiet (fail);go_wp2;have i8:V.grownBy (V.drewN nq) none:=⟨rfl,rfl,rfl,Je _,fun _ _ _=>rfl⟩
      refine⟨j-1,by omega,i+1,ch,_,_,_,_,_,_,_,_,_,_,_,_,_,_,_,_,_,_,_,_,_,_,_,_,_,_,_,_,_,_,_,_,_,_,_,_,_,_,_,_,_,_,(by rw[Int.natCast_add];rfl),by omega,m5.out.keeps (uW V nq),idom,HD.out.kept i8 (fun r e=>by cases e),j2.out⟩
     ·have j2:=Ja a3;clear a3;have p1:(old !=d)=true:=by simpa using o3
      go_wp2;go_quiet (fail);go_wp2;have i8:V.grownBy (V.drewN nq) none:=⟨rfl,rfl,rfl,Je _,fun _ _ _=>rfl⟩
      refine⟨j-1,by omega,i+1,true,_,_,_,_,_,_,_,_,_,_,_,_,_,_,_,_,_,_,_,_,_,_,_,_,_,_,_,_,_,_,_,_,_,_,_,_,_,_,_,_,_,_,(by rw[Int.natCast_add];rfl),by omega,(m5.out.keeps (uW V nq)).keeps (uu (W:=V.drewN nq) HD.out.hr _),idom.set x d,(HD.out.kept i8 (fun r e=>by cases e)).set x d,j2.out⟩
    case stop=>
     rintro D c pre V _ _ h _;exact h.elim
   ·go_wp2;obtain rfl:i=ns.length:=by omega
    have hp:=a4.out;rw[List.drop_length] at hp;obtain⟨rfl,rfl⟩:=hp;refine⟨k,by omega,?_⟩;rcases k5.out with⟨rfl,rfl⟩|⟨rfl,h⟩
    ·exact .inl ⟨_,⟨rfl,rfl⟩,HM.out,q.out⟩
    ·exact .inr ⟨_,⟨rfl,rfl⟩,HM.out,_,q.out,h⟩
end Go.Proofs.Ytoahcpkibpomcaa
set_option maxRecDepth 8000
namespace Go.Proofs.Ytoahcpkibpomcaa
open Go.RowKit Go.Shelf
variable {W W' w w':World}{t:ITerm}{bl blocks:List IBlk}{K:MK}{Bi Bn Bv C bi bp k m m1 m2 x:Nat}{m':Mach}{c:List Int}{i:Int}{d:wO}{ds:List Deferred}{ns xs:List Nat}{g:List (List Nat)}{o:IOp}{l:List IOp}
def j6 (w:World)(xs:List Int)(e:Ending)(w':World):Prop:=∃v,e=.returned v/\w'.ownsRow w.heap.size 3 1 v xs.length (xs.map zN)/\O w w'
theorem lI (g:List (List Nat))(c:List Nat):(un g c).length=g.length:=by
 have h:∀(l:List Nat) (P:List (List Nat)) (n:Nat),(l.foldl (xS n) P).length=P.length:=by
  intro l
  induction l with
  |nil=>intros;rfl
  |cons a l ih=>intro P n;rw[Qk,ih];simp[xS]
 have d:∀(l:List Nat) (P:List (List Nat)),(l.foldl (yh g) P).length=P.length:=by
  intro l
  induction l with
  |nil=>intros;rfl
  |cons a l ih=>intro P;rw[Qk,ih];unfold yh;rw[h]
 unfold un;rw[d];simp
theorem aeW(hr:∀row∈g,row.length<=2000000){c:List Nat}(ho:c.length<=2000000):∀row∈un g c,row.length<=4000004000000:=by
 intro row d;have:=rj g 2000000 hr c (List.replicate g.length []) 0 (by intro r hr;rw[(List.mem_replicate.1 hr).2];simp) row d;have h:c.length*2000000<=2000000*2000000:=Qw _ ho;omega
theorem pz {c:List (List Nat)}{f:Int->Int}:∀ {ns:List Nat} {idom idom':List Int} {ch ch':Bool},ny c f ns idom ch idom' ch'->idom'.length=idom.length
 | [],_,_,_,_,h=>by rw[h.1]
 |n::ns,idom,idom',ch,ch',⟨pr,d,old,_,_,_,_,h⟩=>by
  rcases h with⟨_,h⟩|⟨_,h⟩
  ·exact pz h
  ·have:=pz h;simpa using this
theorem jF{c:List (List Nat)}{f:Int->Int}:∀ {k:Nat} {idom idom':List Int},ip c f ns k idom idom'->idom'.length=idom.length
 |0,_,_,h=>h.elim
 |k+1,idom,idom',⟨i1,ch,h1,h2⟩=>by
  have e:=pz h1;rcases h2 with⟨_,rfl⟩|⟨_,h2⟩
  ·exact e
  ·rw[jF h2,e]
theorem eL.len(h:eL g ns c)(hg:0<g.length):c.length=g.length:=by
 obtain⟨k,h⟩:=h;rw[jF h];simp;omega
theorem pe (w:World)(C bv:Nat)(g:List (List Nat))(hv:zw g)(d:g.length<=2000000)(hr:∀row∈g,row.length<=2000000)(ns:List Nat)(i:tV g (0::ns))(c:List Int)(hD:eL g ns c)
 (j:C<=w.heap.size) (h:oN w C bv (0::ns) (atF (0::ns) (0::ns).length) (un g (0::ns))):
 T 80 #[L bv,I (g.length:Int)] w fun e w'=>∃b,e=.returned (N b g.length g.length)/\w.heap.size<=b/\Q w' b (c.map (Value.int .i64)).toArray 3/\O w w':=by
 obtain⟨m,l⟩:=i.nodes hv;obtain⟨k,hD⟩:=hD;simp only[Nq] at m;exact qQ w C bv g.length (0::ns) _ _ j h hv.1 d ns rfl (fun x hx=>l x (by simp[hx])) Zo (lI _ _) (aeW hr Zt) k c hD
theorem tw (w:World)(sv:Value)(g:List (List Nat))(B:Nat)(hB:B<=w.heap.size)(h:aaB zj w B sv g)(hv:zw g)(hn:g.length<=2000000)(hr:∀row∈g,row.length<=2000000)(ns:List Nat)(hF:tV g (0::ns))(c:List Int)(hD:eL g ns c):
 T 63 #[.agg #[sv]] w (j6 w (c.set 0 (-1))):=by
 obtain⟨a,d,rfl,a4⟩:=h.form;have m:O w (w.alloc (A #[.slice a g.length d] 75)):=(Below.refl _ _).alloc (Je _) _;have HL:=Ja (hD.len hv.1);have HV:=Ja hv;have HR:=Ja hr;have HF:=Ja hF;have HD:=Ja hD;have cg:U (w.alloc (A #[.slice a g.length d] 75)) w.heap.size 0 (.slice a g.length d):=cell_of_one (zI rfl);have a6:=hv.1;clear hv hr hF hD;go_enter Try.func63,Try.ntmps63;go_wp2_with (go_at_call 51;go_must (refine(tK _ _ g B Zt (h.below (m.mono hB)) HV.out hn HR.out).mono ?_;rintro e w1 ⟨rfl,j⟩;obtain⟨l,u⟩:=bcell j))
 generalize y:w.alloc (A #[.slice a g.length d] 75)=W0 at cg j l u ⊢;have t:=Ja y;have lg:w.heap.size<W0.heap.size:=Jw W0 _ cg;have b0:=(l _ 0 lg).trans cg;have q:Below (w.heap.size+1) W0 w1:=j.mono Zo;clear y m l u cg j
 go_cut [3] (fun s wx=>∃b,s=N b g.length g.length/\Hid (Q wx b (c.map (Value.int .i64)).toArray 3/\w.heap.size<=b/\O w wx))
 case first=>
  go_region_held3 (fun w'=>U w' w.heap.size 0 (.slice a g.length d)/\Below (w.heap.size+1) W0 w')
   (first
     |(go_split_ands;refine⟨?_,?_⟩<;>assumption)
     |(go_split_ands;refine⟨?_,uG ?_⟩<;>assumption)
     |(go_split_ands;exact oY ‹_› ‹_› Zz Zz))
   (first
     |(go_at_call 79;refine(view_any _ _ g B (o7 hB t (by repeat' (first|assumption|(with_reducible refine Below.drew ?_)))) (nP h hB t (by repeat' (first|assumption|(with_reducible refine Below.drew ?_)))) HV.out hn HR.out (0::ns) HF.out).mono ?_;rintro e w2 ⟨bv,rfl,a8,hV,o⟩)
     |(go_at_call 80;refine(pe _ _ bv g HV.out hn HR.out ns HF.out c HD.out (Je _) hV).mono ?_;rintro e w3 ⟨b,rfl,a9,a0,a2⟩))
  all_goals
   go_wp2_with fail;go_meet
   have a1:Below (w.heap.size+1) W0 w3:=by
    repeat' (first|assumption|(with_reducible refine Below.drew ?_)|(refine Below.trans ?_ (Below.mono a2 ?_))|(refine Below.trans ?_ (Below.mono o ?_))|omega)
    all_goals (have:=o.size;have:=q.size;simp at *;omega)
   have a5:=o.size;have a3:=q.size;exact⟨b,rfl,a0,by simp at *;omega,ww rfl t a1⟩
 case rest=>
  obtain⟨b,rfl,k⟩:=hcut;have hl:=HL.out
  have cb:∃x,U wc b 0 (I x):=by
   obtain⟨x,hx⟩:∃x,c[0]? =some x:=⟨_,Jd Zo⟩
   exact⟨x,zA k.out.1 (by simp[hx])⟩
  obtain⟨x,cb⟩:=cb;have fb:Y wc b 0:=zE k.out.1;go_wp2_with fail;go_ret;refine⟨_,rfl,?_,k.out.2.2.setCell (by simpa using k.out.2.1) _⟩;have hs:=zD (i:=0) k.out.1 (I (-1));refine⟨by simp,.inr ⟨b,g.length,_,by simp[hl],k.out.2.1,hs,by simp[hl],by unfold maxLen;omega,by simp[hl],?_⟩⟩;simp only[Ox,Nd,hl,Nk,Jc,List.toList_toArray];rw[Oy (by simp[hl])];rfl
end Go.Proofs.Ytoahcpkibpomcaa
set_option maxRecDepth 8000
namespace Go.Proofs.Ytoahcpkibpomcaa
open Go.RowKit Go.Shelf
variable {W W' w w':World}{t:ITerm}{bl blocks:List IBlk}{K:MK}{Bi Bn Bv C bi bp k m m1 m2 x:Nat}{m':Mach}{c:List Int}{i:Int}{d:wO}{ds:List Deferred}{ns xs:List Nat}{g:List (List Nat)}{o:IOp}{l:List IOp}
structure GraphIn (w:World) (sv:Value) (g:List (List Nat)):Prop where
 rows:aaB zj w w.heap.size sv g
 valid:zw g
 len:g.length<=2000000
 row:∀row∈g,row.length<=2000000
theorem GraphIn.below{sv:Value}(h:GraphIn w sv g)(hb:O w w'):GraphIn w' sv g:=
 ⟨(h.rows.below hb).mono hb.size,h.valid,h.len,h.row⟩
theorem iJ{sv:Value}(h:GraphIn w sv g):T 21 #[.agg #[sv]] w (fJ w (vD g)):=by
 obtain⟨ns,c⟩:=adR h.valid;rw[c.eq];exact tp w sv g w.heap.size (Je _) h.rows h.valid h.len h.row (0::ns) c.is
theorem qP{sv:Value}(h:GraphIn w sv g):T 63 #[.agg #[sv]] w (j6 w (wQ g)):=by
 obtain⟨ns,c⟩:=adR h.valid;obtain⟨D,d⟩:=c.dom;rw[<-idom_eq h.valid c d];exact tw w sv g w.heap.size (Je _) h.rows h.valid h.len h.row ns c.is D d.of
open Go.RowKit
theorem aU{p:IProg}(j:p.args.all tX=true)(h:opF p o=true):o.args.length<=1000000000000:=by
 unfold opF at h;rw[Jm] at h
 have d:∀i,p.args.getD i 0<=8:=by
  intro i;rw[Jj]
  cases g:p.args[i]? with
  |none=>simp
  |some x=>
   have:=Oe.1 j x (Ji g);unfold tX at this;simp only[Jm,decide_eq_true_eq] at this;exact this.2
 have c:=h.2
 split at c
 ·simp only[Jm,decide_eq_true_eq] at c;have:=d o.a.toNat;omega
 ·split at c
  ·simp only[Jm,decide_eq_true_eq] at c;omega
  ·simp only[Jm,decide_eq_true_eq] at c;omega
theorem qM{e:IEdge}(h:uM blocks e=true):xz blocks e.block∈blocks/\e.args.length=(xz blocks e.block).params.length/\1<=e.block/\e.block.toNat<blocks.length:=by
 unfold uM at h;simp only[Jm,decide_eq_true_eq] at h;refine⟨?_,h.2,h.1.1,by omega⟩;unfold xz;rw[Jj,Jd Zo,Ot];exact Uf _
theorem lD(hs:vZ blocks)(h:wn blocks t=true):∀e∈t.to,e.args.length<=2000000:=by
 intro e c;unfold wn at h;rw[Jm] at h;obtain⟨g,d,_⟩:=qM (Oe.1 h.1 e c);rw[d];exact(hs.2 _ g).1
theorem nO(c:blocks≠ [])(h:∀b∈blocks,wn blocks b.term=true):zw (zy blocks):=by
 refine⟨by unfold zy;rw[Nr];exact List.length_pos_iff.2 c,fun l hl s hs=>?_⟩;unfold zy at hl;obtain⟨b,hb,rfl⟩:=Nu.1 hl;obtain⟨e,d,rfl⟩:=Nu.1 hs;have ht:=h b hb;unfold wn at ht;rw[Jm] at ht;have:=(qM (Oe.1 ht.1 e d)).2.2.2;unfold zy;rw[Nr];exact this
theorem graphI_F(h:∀b∈blocks,wn blocks b.term=true):zk blocks=(zy blocks).map (List.map (fun n:Nat=>(n:Int))):=by
 unfold zk zy tW;rw[List.map_map];refine Up fun b hb=>?_
 show b.term.to.map (·.block)=(b.term.to.map fun e=>e.block.toNat).map (fun n:Nat=>(n:Int))
 rw[List.map_map];refine Up fun e he=>?_
 have ht:=h b hb;unfold wn at ht;rw[Jm] at ht;have:=(qM (Oe.1 ht.1 e he)).2.2.1
 show e.block=((e.block.toNat:Nat):Int)
 omega
theorem bU{sv:Value}(hs:vZ blocks)(c:blocks≠ [])(h:∀b∈blocks,wn blocks b.term=true)(hr:aaB zN w w.heap.size sv (zk blocks)):GraphIn w sv (zy blocks):=by
 rw[graphI_F h] at hr;refine⟨(aaB.map (fun n:Nat=>(n:Int)) (fun x=>rfl)).1 hr,nO c h,by unfold zy;rw[Nr];exact hs.1,fun row hrow=>?_⟩;unfold zy at hrow;obtain⟨b,hb,rfl⟩:=Nu.1 hrow;rw[Nr];exact(hs.2 b hb).2.2
theorem xu (blocks:List IBlk):(zy blocks).length=blocks.length:=by simp[zy]
theorem dW:∀ {l m:List Nat},l.Nodup->(∀x∈l,x∈m)->l.length<=m.length
 | [],m,_,_=>Jt _
 |a::l,m,hl,h=>by
  obtain⟨ha,hl⟩:=Qt.1 hl;have hm:=h a (List.mem_cons_self ..);have c:=dW (m:=m.erase a) hl (fun x hx=>(List.mem_erase_of_ne (fun e=>ha (by rw[<-e];exact hx))).2 (h x (List.mem_cons_of_mem _ hx)));rw[List.length_erase_of_mem hm] at c;have:=List.length_pos_of_mem hm;rw[Nq];omega
theorem jl(hv:zw g)(h:(vD g).length=g.length):∀x,x<g.length->Reach (GE g) x:=by
 obtain⟨ns,c⟩:=adR hv;rw[c.eq] at h;intro x j;refine(c.mem x).1 ?_;apply Classical.byContradiction;intro k
 have i:=dW (l:=x::0::ns) (m:=List.range g.length) (Qt.2 ⟨k,c.nodup⟩) (fun y d=>by
  rcases Jq.1 d with rfl|d
  ·exact Ol.2 j
  ·exact Ol.2 (c.lt y d))
 rw[Nq,h,Un] at i;omega
theorem mu{d':wO}{v k:Int}(h:rB d v i k=some d')(hi:0<=i/\i.toNat<m)(c:∀x b,d.1 x=some b->0<=b/\b.toNat<m):∀x b,d'.1 x=some b->0<=b/\b.toNat<m:=by
 unfold rB at h
 split at h
 ·cases h
 ·cases h;intro x b hb
  change lS d.1 v i x=some b at hb
  unfold lS at hb
  split at hb
  ·cases hb;exact hi
  ·exact c x b hb
theorem oU(hi:0<=i/\i.toNat<m):∀(l:List Int) (d d':wO),vJ i l d=some d'->(∀x b,d.1 x=some b->0<=b/\b.toNat<m)->∀x b,d'.1 x=some b->0<=b/\b.toNat<m
 | [],d,d',h,hd=>by cases h;exact hd
 |v::l,d,d',h,hd=>by
  unfold vJ at h
  cases h1:rB d v i (-1) with
  |none=>rw[h1] at h;cases h
  |some d1=>rw[h1,Nw] at h;exact oU hi l d1 d' h (mu h1 hi hd)
theorem bP{p:IProg}(hi:0<=i/\i.toNat<m):∀(l:List IOp) (k:Int) (d d':wO),sS p i l k d=some d'->(∀x b,d.1 x=some b->0<=b/\b.toNat<m)->∀x b,d'.1 x=some b->0<=b/\b.toNat<m
 | [],k,d,d',h,hd=>by cases h;exact hd
 |o::l,k,d,d',h,hd=>by
  rw[dG] at h
  cases h1:ug p i k o d with
  |none=>rw[h1] at h;cases h
  |some d1=>
   rw[h1,Nw] at h;refine bP hi l _ d1 d' h ?_;unfold ug at h1
   split at h1
   ·split at h1
    ·exact mu h1 hi hd
    ·cases h1;exact hd
   ·cases h1
theorem oX{p:IProg}:∀(l:List IBlk) (i:Nat) (d d':wO),i+l.length<=m->uH p bl l i d=some d'->(∀x b,d.1 x=some b->0<=b/\b.toNat<m)->∀x b,d'.1 x=some b->0<=b/\b.toNat<m
 | [],i,d,d',_,h,hd=>by cases h;exact hd
 |b::l,i,d,d',hm,h,hd=>by
  simp only[Nq] at hm;unfold uH at h
  cases h1:pS p bl i b d with
  |none=>rw[h1] at h;cases h
  |some d1=>
   rw[h1,Nw] at h;obtain⟨_,d2,h2,h3⟩:=nF h1;have hi:0<=(i:Int)/\((i:Int)).toNat<m:=Zo;exact oX l (i+1) d1 d' Zo (by simpa using h) (bP hi _ _ _ _ h3 (oU hi _ _ _ h2 hd))
theorem rN{p:IProg}(h:wg p bl=some d):∀x b,d.1 x=some b->0<=b/\b.toNat<bl.length:=
 oX bl 0 df d Zo h (fun x b hb=>by cases hb)
theorem vE (d:wO)(g:List (List Nat))(i:Int):∀(l m:List IOp) (k:Int),xF d g i (l++m) k=(xF d g i l k && xF d g i m (k+l.length))
 | [],m,k=>by simp[xF]
 |o::l,m,k=>by
  have e:k+1+(l.length:Int)=k+((o::l).length:Int):=by simp;omega
  show((rR o).all (yy d g i k) && xF d g i (l++m) (k+1))=(((rR o).all (yy d g i k) && xF d g i l (k+1)) && _)
  rw[vE d g i l m,e,Bool.and_assoc]
theorem j0 (d:wO)(g:List (List Nat)):∀(l m:List IBlk) (i:Int),tO d g (l++m) i=(tO d g l i && tO d g m (i+l.length))
 | [],m,i=>by simp[tO]
 |b::l,m,i=>by
  have e:i+1+(l.length:Int)=i+((b::l).length:Int):=by simp;omega
  show(aaC d g b i && tO d g (l++m) (i+1))=((aaC d g b i && tO d g l (i+1)) && _)
  rw[j0 d g l m,e,Bool.and_assoc]
theorem gZ(h:l[k]? =some o):xF d g i (l.take (k+1)) 0=(xF d g i (l.take k) 0 && (rR o).all (yy d g i k)):=by
 rw[Nh,h,Option.toList,vE,vS h,Ub];simp[xF]
theorem aeO(h:l[k]? =some o)(hf:(rR o).all (yy d g i k)=false):xF d g i l 0=false:=by
 rw[sD h,vE,vS h,Ub]
 show(_ && ((rR o).all (yy d g i k) && _))=false
 rw[hf,Bool.false_and,Uh]
theorem mz{l:List IBlk}{b:IBlk}(h:l[k]? =some b):tO d g (l.take (k+1)) 0=(tO d g (l.take k) 0 && aaC d g b k):=by
 rw[Nh,h,Option.toList,j0,vS h,Ub];simp[tO]
theorem pH{l:List IBlk}{b:IBlk}(h:l[k]? =some b)(hf:aaC d g b k=false):tO d g l 0=false:=by
 rw[sD h,j0,vS h,Ub]
 show(_ && (aaC d g b k && _))=false
 rw[hf,Bool.false_and,Uh]
theorem ChkAt.made{pv:List Value}{d c:Value}(j:Q w C (pv++ [d,.map (some m1),.map (some m2),c]).toArray 107)(hl:pv.length=6)(l:w.heap[m1]? =some (.map #[] 0))(k:w.heap[m2]? =some (.map #[] 0))(g:m1≠m2):
 ChkAt w C m1 m2 pv d c 0 df:=by
 have hm:∀m,w.heap[m]? =some (.map #[] 0)->wA w m 0 (fun _=>none):=fun m h=>by
  have o:=wA.made ({w with heap:=w.heap.extract 0 m });have q:m<w.heap.size:=lt_of_block h;have hs:(w.heap.extract 0 m).size=m:=by simp;omega
  obtain⟨D,⟨es,i,k1,k2⟩,k3⟩:=o;have e1:(World.alloc {w with heap:=w.heap.extract 0 m } (.map #[] 0)).heap[(w.heap.extract 0 m).size]? =some (.map #[] 0):=zI rfl;rw[e1] at k1;cases k1;exact⟨D,⟨_,_,h,k2⟩,k3⟩
 exact⟨j,hl,hm m1 l,hm m2 k,g,fun _=>rfl⟩
theorem ChkAt.idom{n:Nat}{pv:List Value}{g i:Value}(h:ChkAt w C m1 m2 pv g i n d)(iv:Value):ChkAt (w.setCell ⟨C,9,none⟩ iv) C m1 m2 pv g iv n d:=by
 obtain⟨k1,k2⟩:=h.ne1;refine⟨?_,h.plen,h.map1.same (Below.heap_setCell _ _ _ _ (Ne.symm k1)),h.map2.same (Below.heap_setCell _ _ _ _ (Ne.symm k2)),h.ne,h.dom⟩;rw[zD h.blk];have hl:=h.plen
 obtain⟨p0,p1,p2,p3,p4,p5,rfl⟩:∃a b c d e f,pv=[a,b,c,d,e,f]:=by
  match pv,hl with
  | [a,b,c,d,e,f],_=>exact⟨a,b,c,d,e,f,rfl⟩
 rfl
theorem pN{b n:Nat}{l:List Nat}(h:Q w b (l.map wz).toArray 5)(hl:l.length=n):
 (convert 95 9 (N b n n)).run Try.prog w=.ok (.string (y9 l)) w:=by
 refine run_convert_bytes_arg w 95 5 Try.underlying95 Try.underlying5 b 0 n n (l.map fun(n:Nat)=>(n:Int)) (by simpa using hl) (fun i hi=>?_) 9 Try.underlying9;rw[Ng];have c:i<l.length:=Zo;refine zA h ?_;simp[Jj,Jd c,wz]
def cG (x:Int):Int:=wrap64 (x+1)
def qK (n:Int)(l:List Int):Int:=l.foldl (fun n v=>max n (cG v)) n
def o8 (n:Int)(l:List IOp):Int:=l.foldl (fun n o=>max n (cG o.res)) n
def iL (n:Int)(b:IBlk):Int:=o8 (qK n b.params) b.ops
def aaG (blocks:List IBlk):Int:=blocks.foldl iL 0
theorem wt{α β:Type}(f:β->α->β)(z:β){l:List α}{x:α}(h:l[k]? =some x):(l.take (k+1)).foldl f z=f ((l.take k).foldl f z) x:=by
 rw[Nh,h,List.foldl_append];rfl
theorem mZ (a b:Int):(if a<b then b else a)=max a b:=by
 rw[Int.max_def]
 split<;>split<;>omega
def j4 (w:World)(x:Int)(e:Ending)(w':World):Prop:=e=.returned (I x)/\O w w'
theorem jr{B:Nat}{b8:Value}(a9:wX w B b8 blocks)(hB:B<=w.heap.size)(hs:vZ blocks):
 T 12 #[.agg #[b8]] w (j4 w (aaG blocks)):=by
 obtain⟨fa,fc,rfl,e7,e5⟩:=a9.form;have e4:=hs.1;have h:=Ja (Jb a9 (Jb hB hs));have b7:O w (w.alloc (A #[.slice fa blocks.length fc] 39)):=(Below.refl _ _).alloc (Je _) _;have a2:=zI (W:=w) (o:=A #[.slice fa blocks.length fc] 39) rfl;obtain⟨fb,a6⟩:∃fb,w.heap.size=fb:=⟨_,rfl⟩
 clear a9 hB hs;go_enter Try.func12,Try.ntmps12;go_upto_region 1 with fail;generalize c9:w.alloc (A #[.slice fa blocks.length fc] 39)=W1 at *;rw[a6] at a2;have c:=Ja (Jb b7 (Jb a2 a6));clear b7 a2 c9 a6;go_wp2
 go_loopw [3,4] (fun nv kv wx=>∃(k:Nat) (n:Int),k<=blocks.length/\nv=I n/\kv=I k/\Hid (n=(blocks.take k).foldl iL 0/\O W1 wx)) (fun _ kv _=>blocks.length-(intOf kv).toNat)
 case atStart=>exact⟨0,0,Jt _,rfl,rfl,Ja ⟨rfl,Below.refl _ _⟩⟩
 case round=>
  obtain⟨k,n,hk,rfl,rfl,g⟩:=hrel;have a1:=zH g.out.2 c.out.2.1 (lt_of_block c.out.2.1);have c0:=zA (i:=0) a1 rfl;have e6:=lt_of_block a1
  by_cases b3:k<blocks.length
  ·have c2:(k:Int)<(blocks.length:Int):=Zo;obtain⟨b,hb⟩:∃b,blocks[k]? =some b:=⟨_,Jd b3⟩
   have b5:wX wr B (.slice fa blocks.length fc) blocks:=(h.out.1.below yT ((c.out.1.trans (g.out.2.mono c.out.1.size)).mono h.out.2.1))
   obtain⟨bb,bo,c4,c7,g2,g3,h64,pv,ov,tv,g0,g1,g4,y,a0,a3⟩:=b5.get hb;obtain⟨pa,pc,rfl,e0,d7⟩:=y.form;obtain⟨oa,oc,rfl,e3,e1⟩:=a0.form;obtain⟨ta,tc,rfl,d6,d4⟩:=a3.form;have d3:bb<wr.heap.size:=Jy c7 (by have:=h.out.2.1;have:=(c.out.1.trans (g.out.2.mono c.out.1.size)).size;omega);have a8:=h.out.2.2.2 b (Ji hb);have t:O wr (wr.alloc (A #[.slice pa b.params.length pc,.slice oa b.ops.length oc,I b.term.kind,I b.term.a,.slice ta b.term.to.length tc] 36)):=(Below.refl _ _).alloc (Je _) _;have l:=zI (W:=wr) (o:=A #[.slice pa b.params.length pc,.slice oa b.ops.length oc,I b.term.kind,I b.term.a,.slice ta b.term.to.length tc] 36) rfl;subst c4;have d8:=a8.1;have e2:=a8.2.1;obtain⟨tb,a4⟩:∃tb,wr.heap.size=tb:=⟨_,rfl⟩
   have HT:=Ja a4;clear b5 a8;go_upto_region 6 with fail;generalize c8:wr.alloc (A #[.slice pa b.params.length pc,.slice oa b.ops.length oc,I b.term.kind,I b.term.a,.slice ta b.term.to.length tc] 36)=W5 at *;rw[a4] at l;have t0:=zA (i:=0) l rfl;have t1:=zA (i:=1) l rfl;have d5:=lt_of_block l;have c5:∀q,B<=q->Below q wr W5->True:=fun _ _ _=>trivial
   have b1:=(y.below zO (t.mono (show B<=wr.heap.size by have:=h.out.2.1;have:=(c.out.1.trans (g.out.2.mono c.out.1.size)).size;omega)))
   have b2:=(a0.below xA (t.mono (show B<=wr.heap.size by have:=h.out.2.1;have:=(c.out.1.trans (g.out.2.mono c.out.1.size)).size;omega)))
   have b6:=g.out.2.trans (t.mono g.out.2.size);have H5:=Ja (Jb b1 (Jb b2 (Jb b6 hb)));have e8:B<=wr.heap.size:=by have:=h.out.2.1;have:=(c.out.1.trans (g.out.2.mono c.out.1.size)).size;omega
   have d1:wr.heap.size<=W5.heap.size:=t.size;clear c5 b1 b2 b6 hb y a0 a3 t l g0 g1 g2 g3 g4 h64 a1 a4 c8;go_wp2
   go_loop [3,6] (fun nv jv=>∃(j:Nat) (m:Int),j<=b.params.length/\nv=I m/\jv=I j/\Hid (m=qK n (b.params.take j))) (fun _ jv=>b.params.length-(intOf jv).toNat)
   case atStart=>exact⟨0,n,Jt _,rfl,rfl,Ja rfl⟩
   case round=>
    obtain⟨j,m,hj,rfl,rfl,HM⟩:=hrel
    by_cases d:j<b.params.length
    ·have b4:(j:Int)<(b.params.length:Int):=Zo;obtain⟨x,u⟩:∃x,b.params[j]? =some x:=⟨_,Jd d⟩
     obtain⟨pb,po,a5,c3,b0,b9⟩:=H5.out.1.get u;rw[Nk] at b0;subst a5;have c1:pb<W5.heap.size:=Zo;have HX:=Ja u;clear u b9;go_wp2
     go_round
     case rel=>
      refine⟨j+1,_,d,rfl,by go_num,Ja ?_⟩;unfold qK;rw[wt _ _ HX.out,mZ,HM.out];rfl
     case measure=>simp[intOf];omega
    ·obtain rfl:j=b.params.length:=by omega
     have b4:¬(b.params.length:Int)<(b.params.length:Int):=Zo;have d0:=Ja (show m=qK n b.params by rw[HM.out,Nl]);clear hj HM d;go_wp2
     go_loop [3,7] (fun nv jv=>∃(j:Nat) (m2:Int),j<=b.ops.length/\nv=I m2/\jv=I j/\Hid (m2=o8 m (b.ops.take j))) (fun _ jv=>b.ops.length-(intOf jv).toNat)
     case atStart=>exact⟨0,m,Jt _,rfl,rfl,Ja rfl⟩
     case round=>
      obtain⟨j,m2,hj,rfl,rfl,HM⟩:=hrel
      by_cases d:j<b.ops.length
      ·have b4:(j:Int)<(b.ops.length:Int):=Zo;obtain⟨x,u⟩:∃x,b.ops[j]? =some x:=⟨_,Jd d⟩
       obtain⟨pb,po,a5,c3,_,b0,_⟩:=H5.out.2.1.get u;subst a5;have c1:pb<W5.heap.size:=Zo;have HX:=Ja u;clear u;go_wp2
       go_round
       case rel=>
        refine⟨j+1,_,d,rfl,by go_num,Ja ?_⟩;unfold o8;rw[wt _ _ HX.out,mZ,HM.out];rfl
       case measure=>simp[intOf];omega
      ·obtain rfl:j=b.ops.length:=by omega
       have d2:¬(b.ops.length:Int)<(b.ops.length:Int):=Zo;clear hj d;go_wp2;go_roundw
       case rel=>
        refine⟨k+1,m2,b3,rfl,by go_num,Ja ⟨?_,H5.out.2.2.1⟩⟩;rw[wt _ _ H5.out.2.2.2,<-g.out.1,HM.out,Nl,d0.out];rfl
       case measure=>simp[intOf];omega
  ·obtain rfl:k=blocks.length:=by omega
   have c2:¬(blocks.length:Int)<(blocks.length:Int):=Zo;clear a1;go_wp2;go_ret;refine⟨?_,c.out.1.trans (g.out.2.mono c.out.1.size)⟩;rw[g.out.1,Nl];rfl
theorem ls{B:Nat}{b9:Value}(b0:wX w B b9 blocks)(hB:B<=w.heap.size)(hs:vZ blocks):
 T 17 #[.agg #[b9]] w (j4 w (aaG blocks)):=by
 obtain⟨fa,fc,rfl,f5,f3⟩:=b0.form;have f2:=hs.1;have h:=Ja (Jb b0 (Jb hB hs));have b7:O w (w.alloc (A #[.slice fa blocks.length fc] 39)):=(Below.refl _ _).alloc (Je _) _;have u:=zI (W:=w) (o:=A #[.slice fa blocks.length fc] 39) rfl;obtain⟨fb,a8⟩:∃fb,w.heap.size=fb:=⟨_,rfl⟩
 clear b0 hB hs;go_enter Try.func17,Try.ntmps17;go_upto_region 1 with fail;generalize d5:w.alloc (A #[.slice fa blocks.length fc] 39)=W1 at *;rw[a8] at u;have c:=Ja (Jb b7 (Jb u a8));have c1:=zA (i:=0) u rfl;have e0:=lt_of_block u;clear b7 u d5 a8;go_wp2
 go_loopw [3,13] (fun nv kv wx=>∃(k:Nat) (n:Int),k<=blocks.length/\nv=I n/\kv=I k/\Hid (n=(blocks.take k).foldl iL 0/\O W1 wx)) (fun _ kv _=>blocks.length-(intOf kv).toNat)
 case atStart=>exact⟨0,0,Jt _,rfl,rfl,Ja ⟨rfl,Below.refl _ _⟩⟩
 case round=>
  obtain⟨k,n,hk,rfl,rfl,g⟩:=hrel;have a2:=zH g.out.2 c.out.2.1 (lt_of_block c.out.2.1);have c0:=zA (i:=0) a2 rfl;have f4:=lt_of_block a2
  by_cases b3:k<blocks.length
  ·have c5:(k:Int)<(blocks.length:Int):=Zo;obtain⟨b,hb⟩:∃b,blocks[k]? =some b:=⟨_,Jd b3⟩
   have b5:wX wr B (.slice fa blocks.length fc) blocks:=(h.out.1.below yT ((c.out.1.trans (g.out.2.mono c.out.1.size)).mono h.out.2.1))
   obtain⟨bb,bo,d1,d3,g2,g3,h64,pv,ov,tv,g0,g1,g4,a0,a1,a4⟩:=b5.get hb;obtain⟨pa,pc,rfl,e7,e5⟩:=a0.form;obtain⟨oa,oc,rfl,f1,e8⟩:=a1.form;obtain⟨ta,tc,rfl,e4,e2⟩:=a4.form;have e1:bb<wr.heap.size:=Jy d3 (by have:=h.out.2.1;have:=(c.out.1.trans (g.out.2.mono c.out.1.size)).size;omega);have a9:=h.out.2.2.2 b (Ji hb);have y:O wr (wr.alloc (A #[.slice pa b.params.length pc,.slice oa b.ops.length oc,I b.term.kind,I b.term.a,.slice ta b.term.to.length tc] 36)):=(Below.refl _ _).alloc (Je _) _;have t:=zI (W:=wr) (o:=A #[.slice pa b.params.length pc,.slice oa b.ops.length oc,I b.term.kind,I b.term.a,.slice ta b.term.to.length tc] 36) rfl;subst d1;have e6:=a9.1;have f0:=a9.2.1;obtain⟨tb,a5⟩:∃tb,wr.heap.size=tb:=⟨_,rfl⟩
   have HT:=Ja a5;clear b5 a9;go_upto_region 5 with fail;generalize d4:wr.alloc (A #[.slice pa b.params.length pc,.slice oa b.ops.length oc,I b.term.kind,I b.term.a,.slice ta b.term.to.length tc] 36)=W5 at *;rw[a5] at t;have t0:=zA (i:=0) t rfl;have t1:=zA (i:=1) t rfl;have e3:=lt_of_block t;have d2:∀q,B<=q->Below q wr W5->True:=fun _ _ _=>trivial
   have b1:=(a0.below zO (y.mono (show B<=wr.heap.size by have:=h.out.2.1;have:=(c.out.1.trans (g.out.2.mono c.out.1.size)).size;omega)))
   have b2:=(a1.below xA (y.mono (show B<=wr.heap.size by have:=h.out.2.1;have:=(c.out.1.trans (g.out.2.mono c.out.1.size)).size;omega)))
   have b6:=g.out.2.trans (y.mono g.out.2.size);have H5:=Ja (Jb b1 (Jb b2 (Jb b6 hb)));have f6:B<=wr.heap.size:=by have:=h.out.2.1;have:=(c.out.1.trans (g.out.2.mono c.out.1.size)).size;omega
   have d7:wr.heap.size<=W5.heap.size:=y.size;have c7:B<=W5.heap.size:=Zo;clear d2 b1 b2 b6 hb a0 a1 a4 y t g0 g1 g2 g3 g4 h64 a2 a5 d4;go_wp2
   go_loop [3,20] (fun nv jv=>∃(j:Nat) (m:Int),j<=b.params.length/\nv=I m/\jv=I j/\Hid (m=qK n (b.params.take j))) (fun _ jv=>b.params.length-(intOf jv).toNat)
   case atStart=>exact⟨0,n,Jt _,rfl,rfl,Ja rfl⟩
   case round=>
    obtain⟨j,m,hj,rfl,rfl,l⟩:=hrel
    by_cases d:j<b.params.length
    ·have b4:(j:Int)<(b.params.length:Int):=Zo;obtain⟨x,hx⟩:∃x,b.params[j]? =some x:=⟨_,Jd d⟩
     obtain⟨pb,po,a6,d0,c9,c2⟩:=H5.out.1.get hx;rw[Nk] at c9;subst a6;have c4:pb<W5.heap.size:=Zo;have HX:=Ja hx;clear hx c2;go_wp2
     go_round
     case rel=>
      refine⟨j+1,_,d,rfl,by go_num,Ja ?_⟩;unfold qK;rw[wt _ _ HX.out,mZ,l.out];rfl
     case measure=>simp[intOf];omega
    ·obtain rfl:j=b.params.length:=by omega
     have b4:¬(b.params.length:Int)<(b.params.length:Int):=Zo;have d6:=Ja (show m=qK n b.params by rw[l.out,Nl]);clear hj l d;go_wp2
     go_loopw [3,32] (fun nv jv wx=>∃(j:Nat) (m2:Int),j<=b.ops.length/\nv=I m2/\jv=I j/\Hid (m2=o8 m (b.ops.take j)/\O W5 wx)) (fun _ jv _=>b.ops.length-(intOf jv).toNat)
     case atStart=>exact⟨0,m,Jt _,rfl,rfl,Ja ⟨rfl,Below.refl _ _⟩⟩
     case round=>
      obtain⟨j,m2,hj,rfl,rfl,l⟩:=hrel
      by_cases d:j<b.ops.length
      ·have b4:(j:Int)<(b.ops.length:Int):=Zo;obtain⟨x,hx⟩:∃x,b.ops[j]? =some x:=⟨_,Jd d⟩
       have a3:=H5.out.2.1.below xA (l.out.2.mono c7);obtain⟨pb,po,a6,d0,x0,x1,x2,x3,x4,c8,av,x5,b8⟩:=a3.get hx;obtain⟨aa,ac,rfl,_,_⟩:=b8.form;subst a6;have c3:=l.out.2.size;have c4:pb<wr.heap.size:=Zo;have HX:=Ja hx;clear hx a3 b8 c8;go_wp2;go_roundw
       case rel=>
        refine⟨j+1,_,d,rfl,by go_num,Ja ⟨?_,l.out.2.alloc c3 _⟩⟩;unfold o8;rw[wt _ _ HX.out,mZ,l.out.1];rfl
       case measure=>simp[intOf];omega
      ·obtain rfl:j=b.ops.length:=by omega
       have d8:¬(b.ops.length:Int)<(b.ops.length:Int):=Zo;clear hj d;go_wp2;go_roundw
       case rel=>
        refine⟨k+1,m2,b3,rfl,by go_num,Ja ⟨?_,H5.out.2.2.1.trans (l.out.2.mono H5.out.2.2.1.size)⟩⟩;rw[wt _ _ H5.out.2.2.2,<-g.out.1,l.out.1,Nl,d6.out];rfl
       case measure=>simp[intOf];omega
  ·obtain rfl:k=blocks.length:=by omega
   have c5:¬(blocks.length:Int)<(blocks.length:Int):=Zo;clear a2;go_wp2;go_ret;refine⟨?_,c.out.1.trans (g.out.2.mono c.out.1.size)⟩;rw[g.out.1,Nl];rfl
def tr (w:World)(a:Rg)(e:Ending)(w':World):Prop:=e=.returned (.agg #[G (a.lo:Int),G (a.hi:Int)])/\O w w'
theorem agJ (x y:Nat):∀(ts:Array TypeId) (t:TypeId) (W:World),(Builtin.max_ ts t #[G x,G y]).run Try.prog W=.ok (G ((max x y:Nat):Int)) W:=fun ts t W=>by
 rw[run_max_int2,show(if(y:Int)>x then(y:Int) else x)=((max x y:Nat):Int) by split<;>omega]
theorem min16 (x y:Nat):∀(ts:Array TypeId) (t:TypeId) (W:World),(Builtin.min_ ts t #[G x,G y]).run Try.prog W=.ok (G ((min x y:Nat):Int)) W:=fun ts t W=>by
 rw[run_min_int2,show(if(y:Int)<x then(y:Int) else x)=((min x y:Nat):Int) by split<;>omega]
theorem full_any (w:World):T 20 #[] w (tr w xr):=by
 go_enter Try.func20,Try.ntmps20;go_wp2;refine bodyPost_ret (v:=.agg #[G 0,G 65535]) ?_ rfl ?_
 ·rw[zM rfl];go_simp
 ·exact⟨rfl,by repeat' (first|exact Below.refl _ _|assumption|(refine Below.alloc ?_ (by first|(simp;done)|(simp;omega)) _)|(refine Below.setCell ?_ (by first|(simp;done)|(simp;omega)) _))⟩
theorem re (w:World):T 20 #[] w (fun e w'=>e=.returned (.agg #[G 0,G 65535])/\O w w'):=full_any w
theorem afw (w:World)(n:Nat):T 67 #[G n] w (tr w (afY n)):=by
 go_enter Try.func67,Try.ntmps67;go_wp2;refine bodyPost_ret (v:=.agg #[G n,G n]) ?_ rfl ?_
 ·rw[zM rfl];go_simp
 ·exact⟨rfl,by repeat' (first|exact Below.refl _ _|assumption|(refine Below.alloc ?_ (by first|(simp;done)|(simp;omega)) _)|(refine Below.setCell ?_ (by first|(simp;done)|(simp;omega)) _))⟩
theorem i6 (w:World)(a:Rg):T 41 #[.agg #[G (a.lo:Int),G (a.hi:Int)]] w (fun e w'=>e=.returned (.bool (vu a))/\O w w'):=by
 obtain⟨q,c⟩:∃q,vu a=q:=⟨_,rfl⟩
 have hb:((a.lo:Int)==(a.hi:Int))=q:=by rw[<-c];unfold vu;rw[Bool.eq_iff_iff,beq_iff_eq,decide_eq_true_eq];omega
 rw[c];clear c;go_enter Try.func41,Try.ntmps41;go_wp2;go_ret;exact⟨rfl,by repeat' (first|exact Below.refl _ _|assumption|(refine Below.alloc ?_ (by first|(simp;done)|(simp;omega)) _)|(refine Below.setCell ?_ (by first|(simp;done)|(simp;omega)) _))⟩
theorem hull_any (w:World)(a b:Rg):T 50 #[.agg #[G (a.lo:Int),G (a.hi:Int)],.agg #[G (b.lo:Int),G (b.hi:Int)]] w (tr w (qs a b)):=by
 obtain⟨x,d⟩:∃x,min a.lo b.lo=x:=⟨_,rfl⟩
 obtain⟨y,c⟩:∃y,max a.hi b.hi=y:=⟨_,rfl⟩
 have h:=min16 a.lo b.lo;have g:=agJ a.hi b.hi;rw[d] at h;rw[c] at g;have hr:qs a b=⟨x,y⟩:=by unfold qs;rw[d,c]
 rw[hr];clear d c hr;go_enter Try.func50,Try.ntmps50;go_wp2;refine bodyPost_ret (v:=.agg #[G x,G y]) ?_ rfl ?_
 ·rw[zM rfl];go_simp
 ·exact⟨rfl,by repeat' (first|exact Below.refl _ _|assumption|(refine Below.alloc ?_ (by first|(simp;done)|(simp;omega)) _)|(refine Below.setCell ?_ (by first|(simp;done)|(simp;omega)) _))⟩
theorem e9 (w:World){lo hi:Int}(hl:-70000000<=lo/\lo<=70000000)(l:-70000000<=hi/\hi<=70000000):T 29 #[I lo,I hi] w (tr w (vl lo hi)):=by
 obtain⟨x,g⟩:∃x,(lo%65536).toNat=x:=⟨_,rfl⟩
 obtain⟨y,d⟩:∃y,(hi%65536).toNat=y:=⟨_,rfl⟩
 have e1:IntKind.u16.wrap lo=(x:Int):=by rw[xY];omega
 have e2:IntKind.u16.wrap hi=(y:Int):=by rw[xY];omega
 by_cases h:lo/65536=hi/65536
 ·have hr:vl lo hi=⟨x,y⟩:=by unfold vl;rw[if_pos h,g,d]
  have hb:(lo/65536 !=hi/65536)=false:=by simp[h]
  rw[hr];clear hr g d h;go_enter Try.func29,Try.ntmps29;go_wp2;refine bodyPost_ret (v:=.agg #[G x,G y]) ?_ rfl ⟨rfl,by repeat' (first|exact Below.refl _ _|assumption|(refine Below.alloc ?_ (by first|(simp;done)|(simp;omega)) _)|(refine Below.setCell ?_ (by first|(simp;done)|(simp;omega)) _))⟩;rw[zM rfl];go_simp
 ·have hr:vl lo hi=⟨0,65535⟩:=by unfold vl;rw[if_neg h];rfl
  have hb:(lo/65536 !=hi/65536)=true:=by simp[h]
  rw[hr];clear hr g d h;go_enter Try.func29,Try.ntmps29;go_wp2_with (go_at_call 20;go_must (refine(re _).mono ?_;rintro e w1 ⟨rfl,c⟩;have hk:Q w1 w.heap.size #[G 0,G 0] 48:=zH c (zI Zs) Zs;have f0:=zA (i:=0) hk rfl;have f1:=zA (i:=1) hk rfl;have g0:=zE (i:=0) hk;have g1:=zE (i:=1) hk;have j:=lt_of_block hk;have k:=Below.trans (show O w _ from by repeat' (first|exact Below.refl _ _|(refine Below.alloc ?_ (by first|(simp;done)|(simp;omega)) _))) (c.mono (by first|(simp;done)|(simp;omega)));clear c hk))
  refine bodyPost_ret (v:=.agg #[G 0,G 65535]) ?_ rfl ⟨rfl,by repeat' (first|exact Below.refl _ _|assumption|(refine Below.alloc ?_ (by first|(simp;done)|(simp;omega)) _)|(refine Below.setCell ?_ (by first|(simp;done)|(simp;omega)) _))⟩;rw[zM rfl];go_simp
theorem ac2 (w:World){lo hi:Nat}(hl:lo<=hi)(j:hi<9223372036854775807):T 34 #[I lo,I hi] w (tr w (wl lo hi)):=by
 by_cases h:hi<=65535
 ·have hr:wl lo hi=⟨lo,hi⟩:=by unfold wl;rw[if_pos h]
  have e1:IntKind.u16.wrap (lo:Int)=(lo:Int):=by rw[xY];omega
  have e2:IntKind.u16.wrap (hi:Int)=(hi:Int):=by rw[xY];omega
  have hb:¬(65535:Int)<(hi:Int):=Zo;rw[hr];clear hr h;go_enter Try.func34,Try.ntmps34;go_wp2;refine bodyPost_ret (v:=.agg #[G lo,G hi]) ?_ rfl ⟨rfl,by repeat' (first|exact Below.refl _ _|assumption|(refine Below.alloc ?_ (by first|(simp;done)|(simp;omega)) _)|(refine Below.setCell ?_ (by first|(simp;done)|(simp;omega)) _))⟩;rw[zM rfl];go_simp
 ·have hr:wl lo hi=⟨0,65535⟩:=by unfold wl;rw[if_neg h];rfl
  have hb:(65535:Int)<(hi:Int):=Zo;rw[hr];clear hr h;go_enter Try.func34,Try.ntmps34;go_wp2_with (go_at_call 20;go_must (refine(re _).mono ?_;rintro e w1 ⟨rfl,c⟩;have hk:Q w1 w.heap.size #[G 0,G 0] 48:=zH c (zI Zs) Zs;have f0:=zA (i:=0) hk rfl;have f1:=zA (i:=1) hk rfl;have g0:=zE (i:=0) hk;have g1:=zE (i:=1) hk;have d:=lt_of_block hk;have g:=Below.trans (show O w _ from by repeat' (first|exact Below.refl _ _|(refine Below.alloc ?_ (by first|(simp;done)|(simp;omega)) _))) (c.mono (by first|(simp;done)|(simp;omega)));clear c hk))
  refine bodyPost_ret (v:=.agg #[G 0,G 65535]) ?_ rfl ⟨rfl,by repeat' (first|exact Below.refl _ _|assumption|(refine Below.alloc ?_ (by first|(simp;done)|(simp;omega)) _)|(refine Below.setCell ?_ (by first|(simp;done)|(simp;omega)) _))⟩;rw[zM rfl];go_simp
theorem ae9 (w:World){a b:Rg}(j:a.lo<65536/\a.hi<65536)(hb:b.lo<65536):T 42 #[.agg #[G (a.lo:Int),G (a.hi:Int)],.agg #[G (b.lo:Int),G (b.hi:Int)]] w (tr w (m0 a b)):=by
 by_cases h:b.lo=b.hi
 ·obtain⟨x,d⟩:∃x,a.lo/2^(b.lo%16)=x:=⟨_,rfl⟩
  obtain⟨y,c⟩:∃y,a.hi/2^(b.lo%16)=y:=⟨_,rfl⟩
  have hr:m0 a b=⟨x,y⟩:=by unfold m0 vu;rw[if_pos (by simpa using h),d,c]
  have i:((b.lo:Int)==(b.hi:Int))=true:=by rw[beq_iff_eq];omega
  rw[hr];have g:=Ja (Jb d c);clear hr h d c;go_enter Try.func42,Try.ntmps42;go_wp2_with go_in;refine bodyPost_ret (v:=.agg #[G ((a.lo:Int)/2^(b.lo%16)),G ((a.hi:Int)/2^(b.lo%16))]) ?_ rfl ⟨by rw[<-g.out.1,<-g.out.2];simp,by repeat' (first|exact Below.refl _ _|assumption|(refine Below.alloc ?_ (by first|(simp;done)|(simp;omega)) _)|(refine Below.setCell ?_ (by first|(simp;done)|(simp;omega)) _))⟩;rw[zM rfl];go_simp
 ·have hr:m0 a b=⟨0,a.hi⟩:=by unfold m0 vu;rw[if_neg (by simpa using h)]
  have i:((b.lo:Int)==(b.hi:Int))=false:=Ze;rw[hr];clear hr h;go_enter Try.func42,Try.ntmps42;go_wp2_with go_in;refine bodyPost_ret (v:=.agg #[G 0,G (a.hi:Int)]) ?_ rfl ⟨rfl,by repeat' (first|exact Below.refl _ _|assumption|(refine Below.alloc ?_ (by first|(simp;done)|(simp;omega)) _)|(refine Below.setCell ?_ (by first|(simp;done)|(simp;omega)) _))⟩;rw[zM rfl];go_simp
theorem bg (w:World)(p q:Bool):T 45 #[.bool p,.bool q] w (tr w (if p=true then⟨1,1⟩ else if q=true then⟨0,0⟩ else⟨0,1⟩)):=by
 cases p
 ·cases q
  ·show T 45 #[.bool false,.bool false] w (tr w ⟨0,1⟩)
   go_enter Try.func45,Try.ntmps45;go_wp2;refine bodyPost_ret (v:=.agg #[G 0,G 1]) ?_ rfl ⟨rfl,by repeat' (first|exact Below.refl _ _|assumption|(refine Below.alloc ?_ (by first|(simp;done)|(simp;omega)) _)|(refine Below.setCell ?_ (by first|(simp;done)|(simp;omega)) _))⟩;rw[zM rfl];go_simp
  ·show T 45 #[.bool false,.bool true] w (tr w ⟨0,0⟩)
   go_enter Try.func45,Try.ntmps45;go_wp2_with (go_at_call 67;go_must (refine(show T 67 #[G 0] _ (fun e w'=>e=.returned (.agg #[G 0,G 0])/\Below _ _ w') from afw _ 0).mono ?_;rintro e w1 ⟨rfl,c⟩;have hk:Q w1 w.heap.size #[G 0,G 0] 48:=zH c (zI Zs) Zs;have f0:=zA (i:=0) hk rfl;have f1:=zA (i:=1) hk rfl;have g0:=zE (i:=0) hk;have g1:=zE (i:=1) hk;have d:=lt_of_block hk;have g:=Below.trans (show O w _ from by repeat' (first|exact Below.refl _ _|(refine Below.alloc ?_ (by first|(simp;done)|(simp;omega)) _))) (c.mono (by first|(simp;done)|(simp;omega)));clear c hk))
   refine bodyPost_ret (v:=.agg #[G 0,G 0]) ?_ rfl ⟨rfl,by repeat' (first|exact Below.refl _ _|assumption|(refine Below.alloc ?_ (by first|(simp;done)|(simp;omega)) _)|(refine Below.setCell ?_ (by first|(simp;done)|(simp;omega)) _))⟩;rw[zM rfl];go_simp
 ·show T 45 #[.bool true,.bool q] w (tr w ⟨1,1⟩)
  go_enter Try.func45,Try.ntmps45;go_wp2_with (go_at_call 67;go_must (refine(show T 67 #[G 1] _ (fun e w'=>e=.returned (.agg #[G 1,G 1])/\Below _ _ w') from afw _ 1).mono ?_;rintro e w1 ⟨rfl,c⟩;have hk:Q w1 w.heap.size #[G 0,G 0] 48:=zH c (zI Zs) Zs;have f0:=zA (i:=0) hk rfl;have f1:=zA (i:=1) hk rfl;have g0:=zE (i:=0) hk;have g1:=zE (i:=1) hk;have d:=lt_of_block hk;have g:=Below.trans (show O w _ from by repeat' (first|exact Below.refl _ _|(refine Below.alloc ?_ (by first|(simp;done)|(simp;omega)) _))) (c.mono (by first|(simp;done)|(simp;omega)));clear c hk))
  refine bodyPost_ret (v:=.agg #[G 1,G 1]) ?_ rfl ⟨rfl,by repeat' (first|exact Below.refl _ _|assumption|(refine Below.alloc ?_ (by first|(simp;done)|(simp;omega)) _)|(refine Below.setCell ?_ (by first|(simp;done)|(simp;omega)) _))⟩;rw[zM rfl];go_simp
theorem afK(w:World){y:Nat}(u:x<65536)(t:y<65536):T 38 #[G x,G y] w (fun e w'=>e=.returned (G ((ro (max x y):Nat):Int))/\w=w'):=by
 obtain⟨z,o⟩:∃z,max x y=z:=⟨_,rfl⟩
 have h1:=agJ x y;rw[o] at h1 ⊢;have l:z<65536:=Zo;have c:=agl l;have i:=Ja (Jb (aga z) (Jb c (ce z)));clear o u t c;go_enter Try.func38,Try.ntmps38;go_wp2
 go_loop [5] (fun mv=>∃m k:Nat,mv=I m/\m+1=2^k/\m<=ro z) (fun mv=>(65536-intOf mv).toNat)
 case atStart=>exact⟨0,0,rfl,rfl,Jt _⟩
 case round=>
  obtain⟨m,k,rfl,hk,hm⟩:=hrel;have d:=i.out.2.1;have HK:=Ja (Jb hk hm);have a2:m<65536:=Zo
  by_cases g:m<z
  ·have h:(m:Int)<(z:Int):=Zo
   have q:2*m+1<=ro z:=by
    obtain⟨j,h3,h4,_⟩:=i.out.2.2;have h5:=i.out.1;have h6:k<j:=(Nat.pow_lt_pow_iff_right (a:=2) Zd).1 Zo;have h7:=Nat.pow_le_pow_right (show 0<2 by decide) (show k+1<=j by omega);rw[Nat.pow_succ] at h7;omega
   have HN:=Ja q;clear hk hm d q g;go_wp2
   go_round
   case rel=>exact⟨2*m+1,k+1,by go_num,by have:=HK.out.1;rw[Nat.pow_succ];omega,HN.out⟩
   case measure=>simp[intOf];omega
  ·have h:¬(m:Int)<(z:Int):=Zo
   have a1:ro z=m:=by
    have:=mask_min z m k hk Zo;omega
   have a0:IntKind.u16.wrap (m:Int)=(m:Int):=by rw[xY];omega
   clear g hk hm d;go_wp2;go_ret;exact⟨rfl,rfl⟩
theorem ct{p:IProg}(h:opF p o=true):-1<=o.res:=by
 unfold opF at h;rw[Jm] at h;have c:=h.2
 split at c
 ·simp only[Jm,decide_eq_true_eq] at c;omega
 ·split at c
  ·simp only[Jm,decide_eq_true_eq] at c;omega
  ·simp only[Jm,decide_eq_true_eq] at c;omega
theorem aW (l:List Int):∀(n:Int),n<=qK n l/\∀v∈l,cG v<=qK n l:=by
 induction l with
 |nil=>intro n;exact⟨Og _,fun v hv=>by cases hv⟩
 |cons x l ih=>
  intro n;obtain⟨d,c⟩:=ih (max n (cG x));have e:qK n (x::l)=qK (max n (cG x)) l:=rfl;rw[e];refine⟨by omega,fun v hv=>?_⟩;rcases Jq.1 hv with rfl|hv
  ·omega
  ·exact c v hv
theorem adH (l:List IOp):∀(n:Int),n<=o8 n l/\∀o∈l,cG o.res<=o8 n l:=by
 induction l with
 |nil=>intro n;exact⟨Og _,fun v hv=>by cases hv⟩
 |cons x l ih=>
  intro n;obtain⟨d,c⟩:=ih (max n (cG x.res));have e:o8 n (x::l)=o8 (max n (cG x.res)) l:=rfl;rw[e];refine⟨by omega,fun v hv=>?_⟩;rcases Jq.1 hv with rfl|hv
  ·omega
  ·exact c v hv
theorem dr (l:List IBlk):∀(n:Int),n<=l.foldl iL n/\∀b∈l,(∀v∈b.params,cG v<=l.foldl iL n)/\∀o∈b.ops,cG o.res<=l.foldl iL n:=by
 induction l with
 |nil=>intro n;exact⟨Og _,fun v hv=>by cases hv⟩
 |cons x l ih=>
  intro n;obtain⟨d,c⟩:=ih (iL n x);have p1:=aW x.params n;have p2:=adH x.ops (qK n x.params);have e:iL n x=o8 (qK n x.params) x.ops:=rfl;rw[Qk];refine⟨by omega,fun b hb=>?_⟩;rcases Jq.1 hb with rfl|hb
  ·exact⟨fun v hv=>by have:=p1.2 v hv;omega,fun o ho=>by have:=p2.2 o ho;omega⟩
  ·exact c b hb
theorem bO (blocks:List IBlk):0<=aaG blocks:=(dr blocks 0).1
theorem wrap64_in {n:Int}(d:-9223372036854775808<=n)(c:n<=9223372036854775807):wrap64 n=n:=by first|exact Om _ Zo|(unfold wrap64;omega)
theorem aaY {v:Int}(h:-1<=v)(c:v<=65535):cG v=v+1:=by unfold cG;rw[wrap64_in Zo Zo]
theorem dF:∀(os:List IOp) (k:Int),xF d g i os k=true↔∀(j:Nat) (o:IOp),os[j]? =some o->(rR o).all (yy d g i (k+j))=true
 | [],k=>by simp[xF]
 |o::os,k=>by
  show((rR o).all (yy d g i k) && xF d g i os (k+1))=true↔_
  rw[Jm,dF os (k+1)];constructor
  ·rintro⟨h1,h2⟩ j x hx
   cases j with
   |zero=>simp at hx;subst hx;simpa using h1
   |succ j=>
    have:=h2 j x (by simpa using hx);rw[show k+((j+1:Nat):Int)=k+1+(j:Int) by omega];exact this
  ·intro h;refine⟨by simpa using h 0 o rfl,fun j x hx=>?_⟩;have:=h (j+1) x (by simpa using hx);rw[show k+((j+1:Nat):Int)=k+1+(j:Int) by omega] at this;exact this
theorem cB:∀(bs:List IBlk) (i:Int),tO d g bs i=true↔∀(j:Nat) (b:IBlk),bs[j]? =some b->aaC d g b (i+j)=true
 | [],i=>by simp[tO]
 |b::bs,i=>by
  show(aaC d g b i && tO d g bs (i+1))=true↔_
  rw[Jm,cB bs (i+1)];constructor
  ·rintro⟨h1,h2⟩ j x hx
   cases j with
   |zero=>simp at hx;subst hx;simpa using h1
   |succ j=>
    have:=h2 j x (by simpa using hx);rw[show i+((j+1:Nat):Int)=i+1+(j:Int) by omega];exact this
  ·intro h;refine⟨by simpa using h 0 b rfl,fun j x hx=>?_⟩;have:=h (j+1) x (by simpa using hx);rw[show i+((j+1:Nat):Int)=i+1+(j:Int) by omega] at this;exact this
theorem aj(hv:zw g):(vD g).length=g.length↔∀x,x<g.length->wE g 0 x=true:=by
 constructor
 ·intro h x c;have hr:=jl hv h;have k:0<g.length:=Zo;exact(yO hv 0 x).2 ⟨hr 0 k,hr x c,dom_zero _ _⟩
 ·intro h;obtain⟨ns,d⟩:=adR hv;rw[d.eq];have j:=dW (l:=0::ns) (m:=List.range g.length) d.nodup (fun x c=>Ol.2 (d.lt x c));have i:=dW (l:=List.range g.length) (m:=0::ns) List.nodup_range (fun x c=>(d.mem x).2 ((yO hv 0 x).1 (h x (Ol.1 c))).2.1);rw[Un] at j i;omega
end Go.Proofs.Ytoahcpkibpomcaa
set_option maxRecDepth 100000
namespace Go.Proofs.Ytoahcpkibpomcaa
open Go.ChangeShapes Go.WideShapes Go.ChangeAt Go.RowKit
variable {W W' w w':World}{t:ITerm}{bl blocks:List IBlk}{K:MK}{Bi Bn Bv C bi bp k m m1 m2 x:Nat}{m':Mach}{c:List Int}{i:Int}{d:wO}{ds:List Deferred}{ns xs:List Nat}{g:List (List Nat)}{o:IOp}{l:List IOp}
section
variable {H:Type} {enc:TypeId×Value->H} {W:World} {v:Value} {d:DataW H} {p:List MemPlace} {r:Go.Reach} {base:Nat}
theorem u8_open (hv:Value.okWide Try.prog W r base 5 v)(g:DataW.Trod enc Try.prog W 0 (fun _=>true) true 5 v d p):∃x:Nat,v=.int .u8 (x:Int)/\x<256:=by
 obtain⟨n,rfl,_,_,c⟩:=open_int Try.underlying5 hv g;have h:0<=n/\n<=255:=by simpa[Lit.wf,IntKind.min,IntKind.max,IntKind.signed,IntKind.bits] using c
 exact⟨n.toNat,by rw[Oa h.1],by omega⟩
end
end Go.Proofs.Ytoahcpkibpomcaa
