/- Part of a proof. -/
import Derived.Test.YtoahcpkibpomcaaGreatGOrd2w
import Derived.Laws.BitsLemmas
import Derived.Laws.CopyOwn
import Derived.Laws.EntriesVeiled
import Derived.Lib.EndianBits
import Derived.LoopIn
import Derived.LoopNIn
import Derived.Maps.OwnOps
import Derived.Maps.OwnSet
import Derived.OwnWalkIn
import Derived.RangeFuncBound
import Derived.RangeFuncCalls
import Derived.RangeFuncLeaves
import Derived.RangeFuncNested
import Derived.RegionIn
import Derived.Shelf.Abstract
import Derived.Shelf.Bits.Mul64
import Derived.Shelf.RegionOpen
import Derived.StillTail
import Derived.TacticsInMore
import Derived.WalkLawsBesides
set_option linter.all false
set_option maxHeartbeats 4000000
set_option maxRecDepth 100000
namespace Go.Proofs.YtoahcpkibpomcaaGreat
open Go.RowKit
variable {W0 w w' w0 w1 w2:World}{c oa ob x:Int}{B0 bm bp d g i j k nm on vb vn:Nat}{m m':Mach}{o:Obj}{preds:List (List Nat)}{xs:List Nat}
def yH (V:PV)(p:IProg):Value:=.agg #[V.fv,V.av,U p.entry,U p.handler,V.dv,V.bv]
def iz (o:IObj):Value:=.agg #[U o.bank,Y (o.addr:Int),Y (o.size:Int)]
def sW (nb:Nat)(o:IObj):Bool:=
 if o.bank=-1 then decide (0<o.size) && (decide (16384<=o.addr) && decide (o.addr+o.size<=24576))
 else decide (0<o.size) && (decide (0<=o.bank) && (decide (o.bank<nb) && decide (o.addr+o.size<=4096)))
def uK (a b:IObj):Bool:=decide (a.bank=b.bank) && (decide (a.addr<b.addr+b.size) && decide (b.addr<a.addr+a.size))
theorem zZ {P Q:Prop} [Decidable P] [Decidable Q] {b:Bool}(h:decide P=b)(e:P↔Q):decide Q=b:=by rw[<-h];exact decide_eq_decide.2 e.symm
theorem kL{V:PV}{p:IProg}(hp:ProgIn w w.heap.size V p)(o:IObj)(ho:I64 o.bank/\o.addr<65536/\o.size<65536):
 G 135 #[yH V p,iz o] w fun e w'=>e=.returned (.bool (sW p.banks.length o))/\N w w':=by
 obtain⟨Vf,Va,Vd,Vb⟩:=V;obtain⟨f1,f2,e1,_,_⟩:=hp.funcs.form;obtain⟨a1,a2,e2,_,_⟩:=hp.args.form;obtain⟨d1,d2,e3,_,_⟩:=hp.data.form;obtain⟨b1,b2,e4,i,m⟩:=hp.banks.form;simp only at e1 e2 e3 e4;subst e1 e2 e3 e4;unfold yH iz;simp only;have t:p.banks.length<=9223372036854775807:=Zo;obtain⟨k,l,j⟩:=ho;clear hp i;obtain⟨q1,h1⟩:∃b,decide (0<o.size)=b:=⟨_,rfl⟩
 have d:∀M:Nat,∀b,decide (o.addr+o.size<=M)=b->decide ((o.addr:Int)+(o.size:Int)<=(M:Int))=b:=fun M b h=>zZ h Zo
 by_cases c:o.bank=-1
 ·have e:sW p.banks.length o=(decide (0<o.size) && (decide (16384<=o.addr) && decide (o.addr+o.size<=24576))):=if_pos c;obtain⟨q2,h2⟩:∃b,decide (16384<=o.addr)=b:=⟨_,rfl⟩
  obtain⟨q3,h3⟩:∃b,decide (o.addr+o.size<=24576)=b:=⟨_,rfl⟩
  have y:decide ((16384:Int)<=(o.addr:Int))=q2:=zZ h2 Zo;have x:decide ((o.addr:Int)+(o.size:Int)<=24576)=q3:=d 24576 _ h3;have t1:(o.bank==-1)=true:=by rw[beq_iff_eq];exact c
  rw[e,h1,h2,h3];have H3:=Ja h3;clear e d c h3;cases q1<;>cases q2<;>cases q3
  all_goals go_enter Tryz.func135,Tryz.ntmps135
  all_goals go_wp2
  all_goals go_ret
  all_goals exact⟨rfl,((Below.refl _ _).alloc (Je _) _).alloc Zs _⟩
 ·have e:sW p.banks.length o=(decide (0<o.size) && (decide (0<=o.bank) && (decide (o.bank<p.banks.length) && decide (o.addr+o.size<=4096)))):=if_neg c;obtain⟨q2,h2⟩:∃b,decide (0<=o.bank)=b:=⟨_,rfl⟩
  obtain⟨q3,h3⟩:∃b,decide (o.bank<(p.banks.length:Int))=b:=⟨_,rfl⟩
  obtain⟨q4,g⟩:∃b,decide (o.addr+o.size<=4096)=b:=⟨_,rfl⟩
  have u:decide ((o.addr:Int)+(o.size:Int)<=4096)=q4:=d 4096 _ g;have t1:(o.bank==-1)=false:=by rw[beq_eq_false_iff_ne];exact c
  rw[e,h1,h2,h3,g];have H4:=Ja g;clear e d c g;cases q1<;>cases q2<;>cases q3<;>cases q4
  all_goals go_enter Tryz.func135,Tryz.ntmps135
  all_goals go_wp2
  all_goals go_ret
  all_goals exact⟨rfl,((Below.refl _ _).alloc (Je _) _).alloc Zs _⟩
theorem nT (w:World)(a b:IObj)(i:I64 a.bank/\a.addr<65536/\a.size<65536)(hb:I64 b.bank/\b.addr<65536/\b.size<65536):
 G 136 #[iz a,iz b] w fun e w'=>e=.returned (.bool (uK a b))/\N w w':=by
 unfold iz;obtain⟨_,h,d⟩:=i;obtain⟨_,g,c⟩:=hb;obtain⟨q1,h1⟩:∃q,decide (a.bank=b.bank)=q:=⟨_,rfl⟩
 obtain⟨q2,h2⟩:∃q,decide (a.addr<b.addr+b.size)=q:=⟨_,rfl⟩
 obtain⟨q3,h3⟩:∃q,decide (b.addr<a.addr+a.size)=q:=⟨_,rfl⟩
 have t1:(a.bank==b.bank)=q1:=by rw[<-h1];rw[Bool.eq_iff_iff,beq_iff_eq,decide_eq_true_eq]
 have t2:decide ((a.addr:Int)<(b.addr:Int)+(b.size:Int))=q2:=zZ h2 Zo;have t3:decide ((b.addr:Int)<(a.addr:Int)+(a.size:Int))=q3:=zZ h3 Zo;have e:uK a b=(q1 && (q2 && q3)):=by unfold uK;rw[h1,h2,h3]
 rw[e];clear e h1 h2 h3;cases q1<;>cases q2<;>cases q3
 all_goals go_enter Tryz.func136,Tryz.ntmps136
 all_goals go_wp2
 all_goals go_ret
 all_goals exact⟨rfl,((Below.refl _ _).alloc (Je _) _).alloc Zs _⟩
def yw (p:IProg)(f:Int):Bool:=decide (0<=f) && (decide (f<p.funcs.length) && (p.args.getD f.toNat 0==0))
theorem kR{V:PV}{p:IProg}(hp:ProgIn w w.heap.size V p)(hl:p.args.length=p.funcs.length)(f:Int):
 G 115 #[yH V p,U f] w fun e w'=>e=.returned (.bool (yw p f))/\N w w':=by
 obtain⟨Vf,Va,Vd,Vb⟩:=V;obtain⟨f1,f2,e1,h,t⟩:=hp.funcs.form;have c:=hp.args;obtain⟨a1,a2,e2,_,_⟩:=hp.args.form;obtain⟨d1,d2,e3,_,_⟩:=hp.data.form;obtain⟨b1,b2,e4,_,_⟩:=hp.banks.form;simp only at e1 e2 e3 e4 c;subst e1 e2 e3 e4;unfold yH;simp only;have u:p.funcs.length<=9223372036854775807:=Zo;clear hp h;have j:N w (w.alloc (I (P p f1 f2 a1 a2 d1 d2 b1 b2) 29)):=(Below.refl _ _).alloc (Je _) _
 by_cases d:0<=f
 ·obtain⟨k,rfl⟩:∃k:Nat,f=(k:Int):=⟨f.toNat,by omega⟩
  by_cases h1:k<p.funcs.length
  ·obtain⟨x,g⟩:∃x,p.args[k]? =some x:=⟨_,Jd Zo⟩
   obtain⟨b,o,rfl,hb,i,_⟩:=c.get g;rw[Nk] at i;have y:=zV j hb i;obtain⟨q,l⟩:∃q,(x==0)=q:=⟨_,rfl⟩
   have e:yw p k=q:=by unfold yw;rw[decide_eq_true d,decide_eq_true (show(k:Int)<p.funcs.length by omega),Ni,Jj,g];exact l
   rw[e];have t1:decide (k<p.funcs.length)=true:=decide_eq_true h1;have m:(k:Int)<p.args.length:=Zo;clear e d h1 g c;cases q
   all_goals go_enter Tryz.func115,Tryz.ntmps115
   all_goals go_wp2
   all_goals go_ret
   all_goals exact⟨rfl,(Below.refl _ _).alloc (Je _) _⟩
  ·have e:yw p k=false:=by unfold yw;rw[decide_eq_true d,decide_eq_false (show ¬(k:Int)<p.funcs.length by omega)];rfl
   rw[e];have t1:decide (k<p.funcs.length)=false:=decide_eq_false h1;clear e d h1 c;go_enter Tryz.func115,Tryz.ntmps115;go_wp2;go_ret;exact⟨rfl,(Below.refl _ _).alloc (Je _) _⟩
 ·have e:yw p f=false:=by unfold yw;rw[decide_eq_false d];rfl
  rw[e];have t1:decide (0<=f)=false:=decide_eq_false d;clear e d c;go_enter Tryz.func115,Tryz.ntmps115;go_wp2;go_ret;exact⟨rfl,(Below.refl _ _).alloc (Je _) _⟩
structure MK where
 E:IEnv
 V:PV
 inv:Value
 irqv:Value
 pm:Nat
 rb:Nat
 B:Nat
variable {K:MK}
def r9 (K:MK)(m:Mach)(ov:Value):Array Value:=
 #[K.V.fv,K.V.av,U K.E.p.entry,U K.E.p.handler,K.V.dv,K.V.bv,F K.rb 8192 8192,K.inv,K.irqv,U m.fuel,ov,U (m.inputs:Int),U (m.polls:Int)]
def qO (l:List (Nat×Nat)):List Value:=(l.map fun p=> [vL p.1,vL p.2]).flatten
structure MachAt (w:World) (K:MK) (m:Mach) (ov:Value):Prop where
 blk:w.heap[K.pm]? =some (.cells (r9 K m ov) 210 (0,0))
 ram:w.heap[K.rb]? =some (.cells (m.ram.map ly).toArray 5 (0,0))
 rlen:m.ram.length=8192
 rlt:∀x∈m.ram,x<256
 out:w.ownsRow K.B 117 2 ov m.out.length (qO m.out)
 olt:∀p∈m.out,p.1<65536/\p.2<65536
 obd:m.out.length+m.fuel.toNat<=4000000
 fuel:I64 m.fuel
 inp:m.inputs<=K.E.inn.length
 pol:m.polls<=K.E.irq.length
 gpm:K.B<=K.pm
 grb:K.B<=K.rb
 prog:ProgIn w K.B K.V K.E.p
 inn:wV w K.B K.inv K.E.inn
 irq:dL w K.B K.irqv K.E.irq
def sA:Obj->Prop
 |.cells _ t _=>t≠210/\t≠117/\t≠5
 |_=>True
structure Frm (B:Nat) (w w':World):Prop where
 below:Below B w w'
 kept:∀(k:Nat) (o:Obj),w.heap[k]? =some o->sA o->w'.heap[k]? =some o
theorem Frm.refl (B:Nat)(w:World):Frm B w w:=⟨Below.refl _ _,fun _ _ h _=>h⟩
theorem Frm.trans {B:Nat}{a b c:World}(h:Frm B a b)(k:Frm B b c):Frm B a c:=⟨h.below.trans k.below,fun i o hi hs=>k.kept i o (h.kept i o hi hs) hs⟩
theorem Frm.drewN{B n:Nat}{a:World}(h:Frm B a w):Frm B a (w.drewN n):=⟨yC h.below,h.kept⟩
theorem Frm.alloc{B:Nat}{a:World}(h:Frm B a w)(hB:B<=a.heap.size)(o:Obj):Frm B a (w.alloc o):=⟨h.below.alloc (Jn hB h.below.size) o,fun i o' hi hs=>zB (h.kept i o' hi hs)⟩
theorem Frm.set{B:Nat}{a:World}(h:Frm B a w){b:Nat}{cs:Array Value}{t:TypeId}(hb:O w b cs t)(hB:B<=b)(ht:¬sA (I cs t))(u:Value):Frm B a (w.setCell ⟨b,i,none⟩ u):=
 ⟨h.below.setCell hB u,fun k o hk hs=>by
   have h1:=h.kept k o hk hs;refine zR h1 ?_;rintro rfl;rw[hb] at h1
   exact ht (by rw[Nt h1];exact hs)⟩
def oE (k i:Nat):PanicEntry:= {v:=.iface 213 (.agg #[U k,Y i]),recovered:=false }
def endOf:Res Nat->Ending
 |.ok x _=> .returned (Y x)
 |.trap k i _=> .panicked [oE k i]
def Res.mach {α:Type}:Res α->Mach
 |.ok _ m=>m
 |.trap _ _ m=>m
theorem MachAt.cell {w:World}{K:MK}{m:Mach}{ov:Value}(h:MachAt w K m ov){i:Nat}{v:Value}(hv:(r9 K m ov)[i]? =some v):A w K.pm i v:=zA h.blk hv
section
variable {w:World} {K:MK} {m:Mach} {ov:Value} (h:MachAt w K m ov)
include h
theorem MachAt.c0:A w K.pm 0 K.V.fv:=h.cell rfl
theorem MachAt.c6:A w K.pm 6 (F K.rb 8192 8192):=h.cell rfl
theorem MachAt.c9:A w K.pm 9 (U m.fuel):=h.cell rfl
theorem MachAt.c10:A w K.pm 10 ov:=h.cell rfl
theorem MachAt.c11:A w K.pm 11 (U (m.inputs:Int)):=h.cell rfl
theorem MachAt.c12:A w K.pm 12 (U (m.polls:Int)):=h.cell rfl
end
theorem MachAt.free{ov:Value}(h:MachAt w K m ov)(i:Nat):D w K.pm i:=zE h.blk
theorem MachAt.keep{ov:Value}(h:MachAt w K m ov)(hb:N w w'):MachAt w' K m ov:=
 ⟨zH hb h.blk (lt_of_block h.blk),zH hb h.ram (lt_of_block h.ram),h.rlen,h.rlt,p7 h.out hb (Je _),h.olt,h.obd,h.fuel,h.inp,h.pol,h.gpm,h.grb,
  h.prog.below (hb.mono (Jn h.gpm (Qd (lt_of_block h.blk)))),h.inn.below zr (hb.mono (Jn h.gpm (Qd (lt_of_block h.blk)))),h.irq.below xQ (hb.mono (Jn h.gpm (Qd (lt_of_block h.blk))))⟩
theorem MachAt.drewN{ov:Value}(h:MachAt w K m ov)(n:Nat):MachAt (w.drewN n) K m ov:=h.keep (yL _ _ _)
theorem MachAt.size{ov:Value}(h:MachAt w K m ov):K.B<w.heap.size:=Nat.lt_of_le_of_lt h.gpm (lt_of_block h.blk)
theorem stop_any (k i:Nat)(w:World):G 153 #[U k,Y i] w fun e w'=>e=.panicked [oE k i]/\w=w':=by
 go_enter Tryz.func153,Tryz.ntmps153;go_wp2;exact⟨rfl,rfl,rfl⟩
theorem MachAt.setF{ov:Value}(h:MachAt w K m ov)(f:Int)(hf:I64 f)(hb:m.out.length+f.toNat<=4000000)(c:K.rb≠K.pm):MachAt (w.setCell ⟨K.pm,9,none⟩ (U f)) K {m with fuel:=f } ov:=by
 refine⟨?_,zR h.ram (by simpa using c),h.rlen,h.rlt,ownsRow_setCell_other h.out ?_ _,h.olt,hb,hf,h.inp,h.pol,h.gpm,h.grb,?_,?_,?_⟩
 ·rw[zD h.blk];rfl
 ·intro e;exact zC h.out h.blk (.inr Zd) (by simpa using e)
 ·exact h.prog.below ((Below.refl _ _).setCell h.gpm _)
 ·exact h.inn.below zr ((Below.refl _ _).setCell h.gpm _)
 ·exact h.irq.below xQ ((Below.refl _ _).setCell h.gpm _)
theorem MachAt.ne{ov:Value}(h:MachAt w K m ov):K.rb≠K.pm:=by
 intro e;have h1:=h.blk;have h2:=h.ram;rw[e,h1] at h2;simp at h2
theorem qG (a:Nat):wo a=true↔16384<=a/\a<24576:=by unfold wo;rw[Jm,decide_eq_true_eq,decide_eq_true_eq]
theorem kF (l:List (Nat×Nat))(p x:Nat):qO (l++ [(p,x)])=qO l++ [vL p,vL x]:=by unfold qO;rw[Js,List.flatten_append];rfl
theorem MachAt.frm{ov:Value}(h:MachAt w K m ov)(i:Nat)(u:Value):Frm K.B w (w.setCell ⟨K.pm,i,none⟩ u):=(Frm.refl _ _).set h.blk h.gpm (by simp[sA]) u
theorem iN{ov:Value}(h:MachAt w K m ov)(hf:0<m.fuel):G 154 #[Q K.pm] w fun e w'=>e=.returned (.tuple #[])/\MachAt w' K m.pay ov/\Frm K.B w w':=by
 have c9:=h.c9;have f9:=h.free 9;have d:=Ja (h.setF (m.fuel-1) (by have:=h.fuel;unfold I64 at *;omega) (by have:=h.obd;omega) h.ne);have c:=Ja (h.frm 9 (U (m.fuel-1)));have hb:m.fuel<=9223372036854775807:=h.fuel.2;clear h;go_enter Tryz.func154,Tryz.ntmps154;go_wp2
 go_end0
 exact⟨rfl,d.out,c.out⟩
open Go.RowKit Go.Maps
theorem xH:Keyed Tryz.prog 3:=int_keyed Tryz.underlying3
theorem wf64'(h:I64 x):(Lit.int .i64 x).wf=true:=by unfold I64 at h;simp[Lit.wf,IntKind.min,IntKind.max,IntKind.signed,IntKind.bits];omega
theorem wfU16 {x:Nat}(h:x<65536):(Lit.int .u16 (x:Int)).wf=true:=by simp[Lit.wf,IntKind.min,IntKind.max,IntKind.signed,IntKind.bits];omega
theorem vB(h:I64 x):keyOf Tryz.prog 3 (.int .i64 x)=some (.int .i64 x):=keyOf_int_mk Tryz.underlying3 (wf64' h)
theorem zeroU16 (w:World):(zeroValue 43).run Tryz.prog w=.ok (Y 0) w:=by kernel_rfl
def xO (w:World)(b n:Nat)(f:Int->Nat):Prop:=
 (∃D:DataW Unit,w.ownsMap Tryz.prog 3 (plainElem Tryz.prog 43) b n D/\∀x,(Lit.int .i64 x).wf=true->D.atKey (.int .i64 x) (.lit (.int .u16 0))=.lit (.int .u16 (f x:Int)))/\∀x,f x<65536
theorem xO.made (w:World):xO (w.alloc (.map #[] 0)) w.heap.size 0 (fun _=>0):=⟨⟨_,World.ownsMap_made _ _ _ _,fun _ _=>rfl⟩,fun _=>by show 0<65536;decide⟩
theorem xO.blk{b n:Nat}{f:Int->Nat}(h:xO w b n f):∃es clock,w.heap[b]? =some (.map es clock):=by
 obtain⟨⟨D,⟨es,clock,h1,h2⟩,h3⟩,c⟩:=h;exact⟨es,clock,h1⟩
theorem xO.same{b n:Nat}{f:Int->Nat}(h:xO w b n f)(hb:w'.heap[b]? =w.heap[b]?):xO w' b n f:=by
 obtain⟨⟨D,⟨es,c,h1,h2⟩,h3⟩,d⟩:=h;exact⟨⟨D,⟨es,c,hb.trans h1,h2⟩,h3⟩,d⟩
theorem xO.kept{B:Nat}{b n:Nat}{f:Int->Nat}(h:xO w b n f)(g:Frm B w w'):xO w' b n f:=by
 obtain⟨es,d,c⟩:=h.blk;exact h.same ((g.kept _ _ c trivial).trans c.symm)
theorem xO.look{b n:Nat}{f:Int->Nat}(h:xO w b n f)(i:I64 x):
 (Instr.lookup 217 (.map (some b)) (.int .i64 x) false).run Tryz.prog w=.ok (.int .u16 (f x:Nat)) w:=by
 obtain⟨⟨D,h,hf⟩,_⟩:=h;obtain⟨c,g,d,j⟩:=h.lookup_int xH Tryz.underlying217 Tryz.underlying43 (zeroU16 w) (vB i);rw[hf x (wf64' i)] at d;simp only[DataW.lit.injEq,Lit.int.injEq,true_and] at d;subst d;exact g
theorem us{ops:Array Oper}{rest:List Oper}{o:Oper}{a:Act}{Q:Exit->Act->World->Prop}(hg:o.guard=none)(m x v:Operand)
 (j:o.op=.mapUpdate 217 m x v) {b n:Nat} {f:Int->Nat} (h:xO w b n f) (hn:n<9000000000000000000) (kx:Int) (vv:Nat) (hm:a.eval m=.map (some b)) (t:a.eval x=.int .i64 kx) (hv:a.eval v=.int .u16 (vv:Int))
 (g:I64 kx) (d:vv<65536)
 (u:∀w',xO w' b (n+1) (iY f kx vv)->w.grownBy w' (some b)->wpList Tryz.prog ops Q rest (a.put o.dst undef) w'):wpList Tryz.prog ops Q (o::rest) a w:=by
 obtain⟨⟨D,h,hf⟩,k⟩:=h;refine wpList_mapUpdate_own (H:=Unit) w hg m x v 217 j 3 43 xH Tryz.underlying217 _ b n D hm h (by unfold maxLen;omega) _ _ _ t hv (vB g) _ [] (plainElem_int Tryz.underlying43 (wfU16 d)) ?_;intro w1 i c;refine u w1 ⟨⟨_,i,fun y hy=>?_⟩,fun y=>?_⟩ c
 ·have l:WideAt.IsKeyLit (.int .i64 kx):=xH.key (vB g)
  by_cases e:y=kx
  ·subst e;simp only[iY,if_true];exact Maps.atKey_put_same h.isMap l _ _
  ·simp only[iY,if_neg e];rw[Maps.atKey_put_other (by simpa using e)];exact hf y hy
 ·unfold iY;split
  ·exact d
  ·exact k y
theorem xY (n:Int):IntKind.u16.wrap n=n%65536:=by rw[IntKind.wrap_u16]
theorem mH (a:Nat)(h:a<65536):IntKind.i16.wrap (a:Int)=s16 a:=by
 unfold s16;show(if(true && decide ((a:Int)%2^16≥(2^15:Int))) then(a:Int)%2^16-2^16 else(a:Int)%2^16)=_;by_cases h2:a<32768
 ·rw[if_neg Zt,if_pos h2];omega
 ·rw[if_pos Zt,if_neg h2];omega
theorem aac (a:Nat)(h:a<65536):-32768<=s16 a/\s16 a<32768:=by unfold s16;split<;>omega
theorem ar5 (a b:Nat):IntKind.u16.wrap ((a:Int)+b)=((yW 5 a b:Nat):Int):=by rw[xY];show _=(((a+b)%65536:Nat):Int);omega
theorem ar6 (a b:Nat)(hb:b<65536):IntKind.u16.wrap ((a:Int)-b)=((yW 6 a b:Nat):Int):=by rw[xY];show _=(((a+(65536-b))%65536:Nat):Int);omega
theorem ar7 (a b:Nat):IntKind.u16.wrap ((a:Int)*b)=((yW 7 a b:Nat):Int):=by
 rw[xY];show _=((a*b%65536:Nat):Int);rw[Ou,Int.natCast_mul];rfl
theorem ar8 (a b:Nat)(c:a<65536):IntKind.u16.wrap ((a:Int)/b)=((yW 8 a b:Nat):Int):=by
 rw[xY];show _=((a/b:Nat):Int);rw[<-Int.natCast_ediv];have:=Nat.div_le_self a b;generalize a/b=x at *;omega
theorem ar9 (a b:Nat)(c:a<65536)(hb:b<65536):bits .and .u16 (a:Int) b=((yW 9 a b:Nat):Int):=(bits_nat .u16 16 Zd wraps_u16 a b c hb).1
theorem ar10 (a b:Nat)(c:a<65536)(hb:b<65536):bits .or .u16 (a:Int) b=((yW 10 a b:Nat):Int):=(bits_nat .u16 16 Zd wraps_u16 a b c hb).2
theorem ar11 (a b:Nat)(c:a<65536)(hb:b<65536):bits .xor .u16 (a:Int) b=((yW 11 a b:Nat):Int):=by
 show IntKind.u16.wrap (((BitVec.ofInt 16 (a:Int))^^^(BitVec.ofInt 16 (b:Int))).toNat:Int)=((a^^^b:Nat):Int)
 have e1:(BitVec.ofInt 16 (a:Int)).toNat=a:=by rw[BitVec.ofInt_natCast,BitVec.toNat_ofNat];exact Nat.mod_eq_of_lt c
 have e2:(BitVec.ofInt 16 (b:Int)).toNat=b:=by rw[BitVec.ofInt_natCast,BitVec.toNat_ofNat];exact Nat.mod_eq_of_lt hb
 rw[BitVec.toNat_xor,e1,e2,xY];have:a^^^b<65536:=Nat.xor_lt_two_pow (n:=16) c hb;generalize a^^^b=x at *;omega
theorem ar12 (a b:Nat):IntKind.u16.wrap ((a:Int)*2^(b%16))=((yW 12 a b:Nat):Int):=by
 rw[xY];show _=((a*2^(b%16)%65536:Nat):Int);rw[Ou,Int.natCast_mul,Int.natCast_pow];rfl
theorem ar13 (a b:Nat):(a:Int)/2^(b%16)=((yW 13 a b:Nat):Int):=by
 show _=((a/2^(b%16):Nat):Int);rw[Int.natCast_ediv,Int.natCast_pow];rfl
theorem ar14 (a b:Nat)(c:a<65536):IntKind.u16.wrap (IntKind.i16.wrap (a:Int)/2^(b%16))=((yW 14 a b:Nat):Int):=by
 rw[mH a c,xY];show _=((((s16 a/2^(b%16))%65536).toNat:Nat):Int);omega
theorem ar15 (a b:Nat):(iw ((a:Int)==(b:Int)):Nat)=yW 15 a b:=by
 show _=iw (decide (a=b));congr 1;rw[Bool.eq_iff_iff,beq_iff_eq,decide_eq_true_eq];omega
theorem ar17 (a b:Nat)(c:a<65536)(hb:b<65536):(iw (decide (IntKind.i16.wrap (a:Int)<IntKind.i16.wrap (b:Int))):Nat)=yW 17 a b:=by
 rw[mH a c,mH b hb];rfl
theorem jz (c:Int)(a b:Nat)(g:a<65536)(hb:b<65536):yW c a b<65536:=by
 have k:∀x,a/x<65536:=fun x=>Nat.lt_of_le_of_lt (Nat.div_le_self _ _) g
 have hm:∀x,x%65536<65536:=fun x=>Qj _ Zd
 have d:∀b,iw b<65536:=fun b=>by cases b<;>decide
 unfold yW
 by_cases c5:c=5;· rw[if_pos c5];exact hm _
 rw[if_neg c5];by_cases c6:c=6;· rw[if_pos c6];exact hm _
 rw[if_neg c6];by_cases c7:c=7;· rw[if_pos c7];exact hm _
 rw[if_neg c7];by_cases c8:c=8;· rw[if_pos c8];exact k _
 rw[if_neg c8];by_cases c9:c=9;· rw[if_pos c9];exact Nat.lt_of_le_of_lt Nat.and_le_left g
 rw[if_neg c9];by_cases c10:c=10;· rw[if_pos c10];exact Nat.or_lt_two_pow (n:=16) g hb
 rw[if_neg c10];by_cases c11:c=11;· rw[if_pos c11];exact Nat.xor_lt_two_pow (n:=16) g hb
 rw[if_neg c11];by_cases c12:c=12;· rw[if_pos c12];exact hm _
 rw[if_neg c12];by_cases c13:c=13;· rw[if_pos c13];exact k _
 rw[if_neg c13];by_cases j:c=14;· rw[if_pos j];omega
 rw[if_neg j];by_cases i:c=15;· rw[if_pos i];exact d _
 rw[if_neg i];by_cases h:c=16;· rw[if_pos h];exact d _
 rw[if_neg h];exact d _
theorem qD (b:Bool)(w:World):G 164 #[.bool b] w fun e w'=>e=.returned (Y (iw b:Nat))/\w=w':=by
 cases b<;>go_enter Tryz.func164,Tryz.ntmps164<;>go_wp2<;>go_ret<;>exact⟨rfl,rfl⟩
theorem arith_5 (a b:Nat)(c:a<65536)(hb:b<65536)(w:World):G 163 #[U 5,Y a,Y b] w fun e w'=>e=.returned (Y (yW 5 a b:Nat))/\w=w':=by
 go_enter Tryz.func163,Tryz.ntmps163;go_wp2
 all_goals go_ret
 all_goals refine⟨zh ?_,rfl⟩
 all_goals exact ar5 a b
theorem arith_6 (a b:Nat)(c:a<65536)(hb:b<65536)(w:World):G 163 #[U 6,Y a,Y b] w fun e w'=>e=.returned (Y (yW 6 a b:Nat))/\w=w':=by
 go_enter Tryz.func163,Tryz.ntmps163;go_wp2
 all_goals go_ret
 all_goals refine⟨zh ?_,rfl⟩
 all_goals exact ar6 a b hb
theorem arith_7 (a b:Nat)(c:a<65536)(hb:b<65536)(w:World):G 163 #[U 7,Y a,Y b] w fun e w'=>e=.returned (Y (yW 7 a b:Nat))/\w=w':=by
 go_enter Tryz.func163,Tryz.ntmps163;go_wp2
 all_goals go_ret
 all_goals refine⟨zh ?_,rfl⟩
 all_goals exact ar7 a b
theorem arith_8 (a b:Nat)(c:a<65536)(hb:b<65536)(d:b≠0)(w:World):G 163 #[U 8,Y a,Y b] w fun e w'=>e=.returned (Y (yW 8 a b:Nat))/\w=w':=by
 have h1:((b:Int)==0)=false:=Ze;have h2:¬(b:Int)=0:=Zo;clear d;go_enter Tryz.func163,Tryz.ntmps163;go_wp2
 all_goals go_ret
 all_goals refine⟨zh ?_,rfl⟩
 all_goals exact ar8 a b c
theorem arith_80 (a:Nat)(w:World):G 163 #[U 8,Y a,Y ((0:Nat):Int)] w fun e w'=>e=.panicked [oE 4 0]/\w=w':=by
 go_enter Tryz.func163,Tryz.ntmps163;go_wp2_with (go_at_call 153;go_must (refine(stop_any 4 0 _).mono ?_;rintro e w' ⟨rfl,rfl⟩))
 exact⟨rfl,rfl,rfl⟩
theorem arith_9 (a b:Nat)(c:a<65536)(hb:b<65536)(w:World):G 163 #[U 9,Y a,Y b] w fun e w'=>e=.returned (Y (yW 9 a b:Nat))/\w=w':=by
 go_enter Tryz.func163,Tryz.ntmps163;go_wp2
 all_goals go_ret
 all_goals refine⟨zh ?_,rfl⟩
 all_goals exact ar9 a b c hb
theorem arith_10 (a b:Nat)(c:a<65536)(hb:b<65536)(w:World):G 163 #[U 10,Y a,Y b] w fun e w'=>e=.returned (Y (yW 10 a b:Nat))/\w=w':=by
 go_enter Tryz.func163,Tryz.ntmps163;go_wp2
 all_goals go_ret
 all_goals refine⟨zh ?_,rfl⟩
 all_goals exact ar10 a b c hb
theorem arith_11 (a b:Nat)(c:a<65536)(hb:b<65536)(w:World):G 163 #[U 11,Y a,Y b] w fun e w'=>e=.returned (Y (yW 11 a b:Nat))/\w=w':=by
 go_enter Tryz.func163,Tryz.ntmps163;go_wp2
 all_goals go_ret
 all_goals refine⟨zh ?_,rfl⟩
 all_goals exact ar11 a b c hb
theorem arith_12 (a b:Nat)(c:a<65536)(hb:b<65536)(w:World):G 163 #[U 12,Y a,Y b] w fun e w'=>e=.returned (Y (yW 12 a b:Nat))/\w=w':=by
 go_enter Tryz.func163,Tryz.ntmps163;go_wp2
 all_goals go_ret
 all_goals refine⟨zh ?_,rfl⟩
 all_goals exact ar12 a b
theorem arith_13 (a b:Nat)(c:a<65536)(hb:b<65536)(w:World):G 163 #[U 13,Y a,Y b] w fun e w'=>e=.returned (Y (yW 13 a b:Nat))/\w=w':=by
 go_enter Tryz.func163,Tryz.ntmps163;go_wp2
 all_goals go_ret
 all_goals refine⟨zh ?_,rfl⟩
 all_goals exact ar13 a b
theorem arith_14 (a b:Nat)(c:a<65536)(hb:b<65536)(w:World):G 163 #[U 14,Y a,Y b] w fun e w'=>e=.returned (Y (yW 14 a b:Nat))/\w=w':=by
 go_enter Tryz.func163,Tryz.ntmps163;go_wp2
 all_goals go_ret
 all_goals refine⟨zh ?_,rfl⟩
 all_goals exact ar14 a b c
theorem arith_15 (a b:Nat)(c:a<65536)(hb:b<65536)(w:World):G 163 #[U 15,Y a,Y b] w fun e w'=>e=.returned (Y (yW 15 a b:Nat))/\w=w':=by
 go_enter Tryz.func163,Tryz.ntmps163;go_wp2_with (go_at_call 164;go_must (refine(qD _ _).mono ?_;rintro e w' ⟨rfl,rfl⟩))
 all_goals go_ret
 all_goals refine⟨zh ?_,rfl⟩
 all_goals exact congrArg _ (ar15 a b)
theorem arith_16 (a b:Nat)(c:a<65536)(hb:b<65536)(w:World):G 163 #[U 16,Y a,Y b] w fun e w'=>e=.returned (Y (yW 16 a b:Nat))/\w=w':=by
 go_enter Tryz.func163,Tryz.ntmps163;go_wp2_with (go_at_call 164;go_must (refine(qD _ _).mono ?_;rintro e w' ⟨rfl,rfl⟩))
 all_goals go_ret
 all_goals refine⟨zh ?_,rfl⟩
 all_goals exact rfl
theorem arith_17 (a b:Nat)(c:a<65536)(hb:b<65536)(w:World):G 163 #[U 17,Y a,Y b] w fun e w'=>e=.returned (Y (yW 17 a b:Nat))/\w=w':=by
 go_enter Tryz.func163,Tryz.ntmps163;go_wp2_with (go_at_call 164;go_must (refine(qD _ _).mono ?_;rintro e w' ⟨rfl,rfl⟩))
 all_goals go_ret
 all_goals refine⟨zh ?_,rfl⟩
 all_goals exact congrArg _ (ar17 a b c hb)
def rq (c:Int)(a b:Nat)(w:World)(e:Ending)(w':World):Prop:=e=(if c=8/\b=0 then .panicked [oE 4 0] else .returned (Y (yW c a b:Nat)))/\w=w'
theorem jD (c:Int)(i:5<=c/\c<=17)(a b:Nat)(d:a<65536)(hb:b<65536)(w:World):G 163 #[U c,Y a,Y b] w (rq c a b w):=by
 unfold rq;have h:c=5∨c=6∨c=7∨c=8∨c=9∨c=10∨c=11∨c=12∨c=13∨c=14∨c=15∨c=16∨c=17:=Zo;rcases h with rfl|rfl|rfl|rfl|rfl|rfl|rfl|rfl|rfl|rfl|rfl|rfl|rfl
 ·rw[if_neg Zo];exact arith_5 a b d hb w
 ·rw[if_neg Zo];exact arith_6 a b d hb w
 ·rw[if_neg Zo];exact arith_7 a b d hb w
 ·by_cases g:b=0
  ·subst g;rw[if_pos ⟨rfl,rfl⟩];exact arith_80 a w
  ·rw[if_neg (fun h=>g h.2)];exact arith_8 a b d hb g w
 ·rw[if_neg Zo];exact arith_9 a b d hb w
 ·rw[if_neg Zo];exact arith_10 a b d hb w
 ·rw[if_neg Zo];exact arith_11 a b d hb w
 ·rw[if_neg Zo];exact arith_12 a b d hb w
 ·rw[if_neg Zo];exact arith_13 a b d hb w
 ·rw[if_neg Zo];exact arith_14 a b d hb w
 ·rw[if_neg Zo];exact arith_15 a b d hb w
 ·rw[if_neg Zo];exact arith_16 a b d hb w
 ·rw[if_neg Zo];exact arith_17 a b d hb w
def Res.lt:Res Nat->Prop
 |.ok x _=>x<65536
 |.trap _ _ _=>True
def zQ (K:MK)(w:World)(r:Res Nat)(e:Ending)(w':World):Prop:=e=endOf r/\(∃ov',MachAt w' K r.mach ov')/\Frm K.B w w'/\r.lt
theorem zQ.ok{x:Nat}{c:Value}(h:MachAt w' K m' c)(g:Frm K.B w w')(d:x<65536):zQ K w (.ok x m') (.returned (Y x)) w':=⟨rfl,⟨c,h⟩,g,d⟩
theorem zQ.trap{c:Value}(h:MachAt w' K m' c)(d:Frm K.B w w'):zQ K w (.trap k i m') (.panicked [oE k i]) w':=⟨rfl,⟨c,h⟩,d,trivial⟩
theorem not16 (a:Nat)(h:a<65536):bits .xor .u16 IntKind.u16.max (a:Int)=((65535-a:Nat):Int):=by
 show IntKind.u16.wrap (((BitVec.ofInt 16 65535)^^^(BitVec.ofInt 16 (a:Int))).toNat:Int)=_
 have e1:BitVec.ofInt 16 65535=BitVec.allOnes 16:=by decide
 have e2:(BitVec.ofInt 16 (a:Int)).toNat=a:=by rw[BitVec.ofInt_natCast,BitVec.toNat_ofNat];exact Nat.mod_eq_of_lt h
 rw[e1,BitVec.xor_comm,BitVec.xor_allOnes,BitVec.toNat_not,e2,xY];omega
theorem step_1{ov:Value}(h:MachAt w K m ov)(u:I64 oa)(t:I64 ob)(a0:on<65536)(ab:Option Addr)(an ac:Nat){v:Int->Nat}(hv:xO w vb vn v)(d:Int):
 G 155 #[Q K.pm,.agg #[U 1,U c,U oa,U ob,Y on,.slice ab an ac],.map (some vb),U d] w (zQ K w (.ok on m)):=by
 have k:=fun(W:World) (hW:Frm K.B w W)=>(hv.kept hW).look u
 have j:=fun(W:World) (hW:Frm K.B w W)=>(hv.kept hW).look t
 have a3:=hv.2 oa;have a2:=hv.2 ob;have a4:=h.size;have l:=Ja (h.keep ((Below.refl _ _).alloc (Je _) (I #[U 1,U c,U oa,U ob,Y on,.slice ab an ac] 76)));have i:=Ja ((Frm.refl K.B w).alloc Zo (I #[U 1,U c,U oa,U ob,Y on,.slice ab an ac] 76));have la:=fun n:Nat=>k _ (i.out.drewN (n:=n))
 have lb:=fun n:Nat=>j _ (i.out.drewN (n:=n))
 have g:=zI (W:=w) (o:=I #[U 1,U c,U oa,U ob,Y on,.slice ab an ac] 76) rfl;clear h hv k j;generalize v oa=xa at *;generalize v ob=xb at *;go_enter Tryz.func155,Tryz.ntmps155;go_upto_region 1 with fail;generalize a1:w.alloc (I #[U 1,U c,U oa,U ob,Y on,.slice ab an ac] 76)=W1 at *;clear a1;have p0:=K0 g;have p2:=K2 g;have p3:=K3 g;have p4:=K4 g
 go_cut [9,10] (fun x y wx=>x=Y xa/\y=Y xb/\∃n,wx=W1.drewN n)
 case first=>
  go_quiet (fail);go_wp2;go_meet;exact⟨rfl,rfl,_,rfl⟩
 case rest=>
  obtain⟨rfl,rfl,n,rfl⟩:=hcut;have HM:=Ja (l.out.drewN n);have HF:=Ja (i.out.drewN (n:=n));have q0:(W1.drewN n).cell? ⟨w.heap.size,0,none⟩=_:=p0;have q2:(W1.drewN n).cell? ⟨w.heap.size,2,none⟩=_:=p2;have q4:(W1.drewN n).cell? ⟨w.heap.size,4,none⟩=_:=p4;clear la lb p0 p2 p3 p4 g l i;generalize W1.drewN n=W2 at *;go_wp2;go_ret;exact zQ.ok HM.out HF.out a0
theorem step_3{ov:Value}(h:MachAt w K m ov)(u:I64 oa)(t:I64 ob)(a3:on<65536)(ab:Option Addr)(an ac:Nat){v:Int->Nat}(hv:xO w vb vn v)(d:Int):
 G 155 #[Q K.pm,.agg #[U 3,U c,U oa,U ob,Y on,.slice ab an ac],.map (some vb),U d] w (zQ K w (.ok ((65536-v oa)%65536) m)):=by
 have k:=fun(W:World) (hW:Frm K.B w W)=>(hv.kept hW).look u
 have j:=fun(W:World) (hW:Frm K.B w W)=>(hv.kept hW).look t
 have a2:=hv.2 oa;have a1:=hv.2 ob;have a4:=h.size;have l:=Ja (h.keep ((Below.refl _ _).alloc (Je _) (I #[U 3,U c,U oa,U ob,Y on,.slice ab an ac] 76)));have i:=Ja ((Frm.refl K.B w).alloc Zo (I #[U 3,U c,U oa,U ob,Y on,.slice ab an ac] 76));have la:=fun n:Nat=>k _ (i.out.drewN (n:=n))
 have lb:=fun n:Nat=>j _ (i.out.drewN (n:=n))
 have g:=zI (W:=w) (o:=I #[U 3,U c,U oa,U ob,Y on,.slice ab an ac] 76) rfl;clear h hv k j;generalize v oa=xa at *;generalize v ob=xb at *;go_enter Tryz.func155,Tryz.ntmps155;go_upto_region 1 with fail;generalize a0:w.alloc (I #[U 3,U c,U oa,U ob,Y on,.slice ab an ac] 76)=W1 at *;clear a0;have p0:=K0 g;have p2:=K2 g;have p3:=K3 g;have p4:=K4 g
 go_cut [9,10] (fun x y wx=>x=Y xa/\y=Y xb/\∃n,wx=W1.drewN n)
 case first=>
  go_quiet (fail);go_wp2;go_meet;exact⟨rfl,rfl,_,rfl⟩
 case rest=>
  obtain⟨rfl,rfl,n,rfl⟩:=hcut;have HM:=Ja (l.out.drewN n);have HF:=Ja (i.out.drewN (n:=n));have q0:(W1.drewN n).cell? ⟨w.heap.size,0,none⟩=_:=p0;have q2:(W1.drewN n).cell? ⟨w.heap.size,2,none⟩=_:=p2;have q4:(W1.drewN n).cell? ⟨w.heap.size,4,none⟩=_:=p4;clear la lb p0 p2 p3 p4 g l i;generalize W1.drewN n=W2 at *;go_wp2;go_ret;have e:Ending.returned (Y (IntKind.u16.wrap (-(xa:Int))))=.returned (Y (((65536-xa)%65536:Nat):Int)):=zh (by rw[xY];omega);exact e ▸ zQ.ok HM.out HF.out Zo
theorem step_4{ov:Value}(h:MachAt w K m ov)(a0:I64 oa)(u:I64 ob)(a3:on<65536)(ab:Option Addr)(an ac:Nat){v:Int->Nat}(hv:xO w vb vn v)(d:Int):
 G 155 #[Q K.pm,.agg #[U 4,U c,U oa,U ob,Y on,.slice ab an ac],.map (some vb),U d] w (zQ K w (.ok (65535-v oa) m)):=by
 have k:=fun(W:World) (hW:Frm K.B w W)=>(hv.kept hW).look a0
 have j:=fun(W:World) (hW:Frm K.B w W)=>(hv.kept hW).look u
 have t:=hv.2 oa;have a2:=hv.2 ob;have a4:=h.size;have l:=Ja (h.keep ((Below.refl _ _).alloc (Je _) (I #[U 4,U c,U oa,U ob,Y on,.slice ab an ac] 76)));have i:=Ja ((Frm.refl K.B w).alloc Zo (I #[U 4,U c,U oa,U ob,Y on,.slice ab an ac] 76));have la:=fun n:Nat=>k _ (i.out.drewN (n:=n))
 have lb:=fun n:Nat=>j _ (i.out.drewN (n:=n))
 have g:=zI (W:=w) (o:=I #[U 4,U c,U oa,U ob,Y on,.slice ab an ac] 76) rfl;clear h hv k j;generalize v oa=xa at *;generalize v ob=xb at *;go_enter Tryz.func155,Tryz.ntmps155;go_upto_region 1 with fail;generalize a1:w.alloc (I #[U 4,U c,U oa,U ob,Y on,.slice ab an ac] 76)=W1 at *;clear a1;have p0:=K0 g;have p2:=K2 g;have p3:=K3 g;have p4:=K4 g
 go_cut [9,10] (fun x y wx=>x=Y xa/\y=Y xb/\∃n,wx=W1.drewN n)
 case first=>
  go_quiet (fail);go_wp2;go_meet;exact⟨rfl,rfl,_,rfl⟩
 case rest=>
  obtain⟨rfl,rfl,n,rfl⟩:=hcut;have HM:=Ja (l.out.drewN n);have HF:=Ja (i.out.drewN (n:=n));have q0:(W1.drewN n).cell? ⟨w.heap.size,0,none⟩=_:=p0;have q2:(W1.drewN n).cell? ⟨w.heap.size,2,none⟩=_:=p2;have q4:(W1.drewN n).cell? ⟨w.heap.size,4,none⟩=_:=p4;clear la lb p0 p2 p3 p4 g l i;generalize W1.drewN n=W2 at *;go_wp2;go_ret;have e:Ending.returned (Y (bits .xor .u16 IntKind.u16.max (xa:Int)))=.returned (Y ((65535-xa:Nat):Int)):=zh (not16 xa t);exact e ▸ zQ.ok HM.out HF.out Zo
theorem MachAt.grownMap{ov:Value}(h:MachAt w K m ov){es:Array _}{c:Nat}(hm:w.heap[vb]? =some (.map es c))(hB:K.B<=vb)(hg:w.grownBy w' (some vb)):MachAt w' K m ov:=by
 have n1:vb≠K.pm:=by rintro rfl;rw[h.blk] at hm;cases hm
 have n2:vb≠K.rb:=by rintro rfl;rw[h.ram] at hm;cases hm
 have hb:Below K.B w w':=(Below.refl _ _).grown hg (Qd h.size) (fun k hk=>by simp at hk;omega);refine⟨zL hg h.blk (by simpa using n1),zL hg h.ram (by simpa using n2),h.rlen,h.rlt,h.out.kept hg ?_,h.olt,h.obd,h.fuel,h.inp,h.pol,h.gpm,h.grb,h.prog.below hb,h.inn.below zr hb,h.irq.below xQ hb⟩;rcases h.out.2 with⟨hv,_⟩|⟨g,i,cur,hv,_,d,_⟩
 ·left;rw[hv];rfl
 ·right;rw[hv];intro e;simp only[Value.ownBlock,Option.some.injEq] at e;subst e;rw[d] at hm;cases hm
theorem Frm.grownMap{B:Nat}(h:Frm B w0 w)(c:w0.heap.size<=vb)(hB:B<=w0.heap.size)(hg:w.grownBy w' (some vb)):Frm B w0 w':=
 ⟨h.below.grown hg (Jn hB h.below.size) (fun k hk=>by simp at hk;omega),fun k o hk hs=>zL hg (h.kept k o hk hs) (by have:=lt_of_block hk;simp;omega)⟩
structure CSt (K:MK) (w0 w:World) (m:Mach) (vb vn:Nat) (v:Int->Nat):Prop where
 mach:∃ov,MachAt w K m ov
 frm:Frm K.B w0 w
 map:xO w vb vn v
 new:w0.heap.size<=vb
 gb:K.B<w0.heap.size
theorem CSt.alloc{v:Int->Nat}(h:CSt K w0 w m vb vn v)(o:Obj):CSt K w0 (w.alloc o) m vb vn v:=by
 obtain⟨ov,hm⟩:=h.mach;exact⟨⟨ov,hm.keep ((Below.refl _ _).alloc (Je _) o)⟩,h.frm.trans ((Frm.refl _ _).alloc (by have:=hm.size;omega) o),h.map.kept ((Frm.refl K.B w).alloc (by have:=hm.size;omega) o),h.new,h.gb⟩
theorem CSt.store{n':Nat}{v v':Int->Nat}(h:CSt K w0 w m vb vn v)(hm:xO w' vb n' v')(hg:w.grownBy w' (some vb)):CSt K w0 w' m vb n' v':=by
 obtain⟨ov,d⟩:=h.mach;obtain⟨es,c,hb⟩:=h.map.blk;exact⟨⟨ov,d.grownMap hb (by have:=h.new;have:=h.gb;omega) hg⟩,h.frm.grownMap h.new (Qd h.gb) hg,hm,h.new,h.gb⟩
theorem CSt.step {K:MK}{w0 w w':World}{m m':Mach}{vb vn:Nat}{v:Int->Nat}{c:Value}(h:CSt K w0 w m vb vn v)(g:MachAt w' K m' c)(d:Frm K.B w w'):CSt K w0 w' m' vb vn v:=
 ⟨⟨c,g⟩,h.frm.trans d,h.map.kept d,h.new,h.gb⟩
theorem rh {blocks:List IBlk}{a:Nat}(h:a<blocks.length):blocks[a]? =some (xz blocks a):=by
 unfold xz;rw[Ni,Jj,Jd h];rfl
theorem ru (E:IEnv)(call:Int->List Nat->Mach->Res Nat)(blocks:List IBlk)(n:Nat)(a:Int)(args:List Nat)(v:Int->Nat)(m:Mach):tJ E call blocks (n+1) a args v m=
 match iq E call (xz blocks a).ops (r7 (xz blocks a).params args v) m with
 |.trap k i m'=> .trap k i m'
 |.ok v2 m2=>
  if m2.fuel<=0 then .trap 7 0 m2
  else if(xz blocks a).term.kind=4 then .ok (if(xz blocks a).term.a=-1 then 0 else v2 (xz blocks a).term.a) m2.pay
  else if(xz blocks a).term.kind=5 then .trap 1 0 m2.pay
  else tJ E call blocks n (wK (xz blocks a).term (v2 (xz blocks a).term.a)).block ((wK (xz blocks a).term (v2 (xz blocks a).term.a)).args.map v2) v2 m2.pay:=rfl
theorem j7 (E:IEnv)(call:Int->List Nat->Mach->Res Nat)(o:IOp)(os:List IOp)(v:Int->Nat)(m:Mach):iq E call (o::os) v m=
 if m.fuel<=0 then .trap 7 0 m
 else match oV E call o v m.pay with
  |.ok r m'=>iq E call os (setV v o.res r) m'
  |.trap k i m'=> .trap k i m':=rfl
theorem vd{P:Program}{ops:Array Oper}{Q:Act->Prop}:∀ {rest:List Oper} {a:Act},wpQuiet P ops (fun w'=>w'=w) Q rest a->wpStill P ops w Q rest a
 | [],a,h=>h
 |o::rest,a,h=>by
  unfold wpQuiet at h;unfold wpStill
  split at h
  ·rename_i hw
   rw[if_pos hw];obtain⟨v,h1,h2⟩:=h;have h3:=h1 w rfl;have c:=vd h2;unfold Oper.quietAt at h3;unfold Oper.still;generalize (execOp a.eval o).run P w=r at *
   cases r with
   |ok n w'=>
    cases n<;>simp only[Oper.quietUpon] at h3<;>simp only[Oper.stillUpon]
    case value u=>obtain⟨e1,rfl⟩:=h3;exact⟨e1,c⟩
    case skip=>obtain⟨e1,rfl⟩:=h3;exact⟨e1,c⟩
    case enter f args=>exact⟨h3.1,v,h3.2,c⟩
   |halt x w'=>simp only[Oper.quietUpon] at h3
  ·rename_i hw
   rw[if_neg hw];exact vd h
theorem zt{P:Program}{id:Nat}{Q:Exit->Act->World->Prop}{a:Act}{l:List Oper}(n:Nat)(hm:P.follows .mixedOrders=true)(hB:Region.lexTailB .any l.toArray n=true)
 (h:wpQuiet P l.toArray (fun w'=>w'=w.drew) (fun a'=>wpList P l.toArray Q (l.drop n) a' w.drew) (l.take n) a):(Code.region id l.toArray true).wp P Q a w:=
 wp_region_still_tail n hm hB (vd h)
def OwnRows {α:Type}(enc:α->Value)(e eS:TypeId)(w:World)(B bp:Nat)(rows:List (List α)):Prop:=
 ∃vs:List Value,O w bp vs.toArray eS/\vs.length=rows.length/\(∀(k:Nat) (row:List α) (v:Value),rows[k]? =some row->vs[k]? =some v->w.ownsRow B e 1 v row.length (row.map enc))/\
  ∀(i j:Nat) (vi vj:Value),i≠j->vs[i]? =some vi->vs[j]? =some vj->vi.ownBlock=none∨vi.ownBlock≠vj.ownBlock
section
variable {α:Type} {enc:α->Value} {e eS:TypeId} {w:World} {B bp:Nat} {rows:List (List α)}
theorem OwnRows.made (n:Nat)(h:O w bp (List.replicate n (.slice none 0 0)).toArray eS):OwnRows enc e eS w B bp (List.replicate n []):=by
 refine⟨_,h,by simp,fun k row v h1 h2=>?_,fun i j vi vj _ h1 _=>?_⟩
 ·simp only[Nm] at h1 h2
  split at h1
  ·rw[if_pos ‹_›] at h2;cases h1;cases h2;exact Jv _ _ _ _
  ·cases h1
 ·simp only[Nm] at h1
  split at h1
  ·cases h1;exact .inl rfl
  ·cases h1
theorem OwnRows.blk (h:OwnRows enc e eS w B bp rows):∃c,O w bp c eS:=let⟨vs,h,_⟩:=h;⟨_,h⟩
theorem OwnRows.bplt (h:OwnRows enc e eS w B bp rows):bp<w.heap.size:=let⟨_,h⟩:=h.blk;lt_of_block h
theorem OwnRows.get (h:OwnRows enc e eS w B bp rows){s:Nat}{row:List α}(hs:rows[s]? =some row):
 ∃a cap,A w bp s (.slice a row.length cap)/\w.ownsRow B e 1 (.slice a row.length cap) row.length (row.map enc)/\D w bp s:=by
 obtain⟨vs,h1,h2,h3,d⟩:=h;have c:s<vs.length:=by rw[h2];exact(Jh.1 hs).1
 have hv:=Jd c;have ho:=h3 s row _ hs hv;obtain⟨a,cap,e1⟩:=zG ho;refine⟨a,cap,zA h1 (by simp[hv,e1]),by rw[<-e1];exact ho,zE h1⟩
theorem OwnRows.kept(h:OwnRows enc e eS w B bp rows){row:Option Nat}(hg:w.grownBy w' row)(hb:row≠some bp)(hr:∀k,row=some k->k<B):OwnRows enc e eS w' B bp rows:=by
 obtain⟨vs,h1,h2,h3,c⟩:=h;refine⟨vs,zL hg h1 hb,h2,fun k r v a b=>(h3 k r v a b).kept hg ?_,c⟩
 cases hk:v.ownBlock with
 |none=>exact .inl rfl
 |some g=>
  right;intro e1;have:=(h3 k r v a b).lt g hk;have:=hr g e1.symm;omega
theorem OwnRows.put(h:OwnRows enc e eS w B bp rows)(t:e≠eS){s:Nat}{row row':List α}(hs:rows[s]? =some row){a:Option Addr}{cap:Nat}(hc:A w bp s (.slice a row.length cap))
   {H:Nat} (hg:(w.alloc o).grownBy w2 (Value.slice a row.length cap).ownBlock) (m:w2.ownsRow B e 1 (F g row'.length d) row'.length (row'.map enc))
 (hat:(Value.slice a row.length cap).ownBlock=some g∨g=H) (hH:w.heap.size<=H):
 OwnRows enc e eS (w2.setCell ⟨bp,s,none⟩ (F g row'.length d)) B bp (rows.set s row'):=by
 obtain⟨vs,h1,h2,h3,h4⟩:=h;have l:s<vs.length:=by rw[h2];exact(Jh.1 hs).1
 have hv:=Jd l;have ho:=h3 s row _ hs hv
 have a4:vs[s]=.slice a row.length cap:=by
  have y:=zA (i:=s) h1 (v:=vs[s]) Zs;rw[y] at hc;exact Nt hc
 rw[a4] at ho hv;have a5:=zC ho h1 (.inr t);have a2:=zL hg (zB h1) a5
 have x:∀(k:Nat) (v:Value),k≠s->vs[k]? =some v->v.ownBlock≠some bp/\(∀r,rows[k]? =some r->(w2.setCell ⟨bp,s,none⟩ (F g row'.length d)).ownsRow B e 1 v r.length (r.map enc))/\(v.ownBlock=none∨v.ownBlock≠some g):=by
  intro k v hk c;have a6:k<rows.length:=by rw[<-h2];exact(Jh.1 c).1
  have a0:=h3 k _ v (Jd a6) c;have hn:=zC a0 h1 (.inr t);refine⟨hn,fun r hr=>?_,?_⟩
  ·have a3:=h3 k r v hr c;have a8:=(a3.alloc o).kept hg (h4 k s v _ hk c hv);exact ownsRow_setCell_other a8 (by simpa using hn) _
  ·rcases hat with hat|hat
   ·rw[<-hat];exact h4 k s v _ hk c hv
   ·right;intro e1;have:=(a0.lt g e1).2;omega
 refine⟨vs.set s (F g row'.length d),?_,by simp[h2],fun k r v hr c=>?_,fun i j vi vj hij hi hj=>?_⟩
 ·rw[zD a2];simp
 ·by_cases hk:s=k
  ·subst hk;rw[Nn Zo] at hr;rw[Nn l] at c;cases hr;cases c;exact ownsRow_setCell_other m (zC (b:=bp) m a2 (.inr t)) _
  ·rw[Ns hk] at hr c;exact(x k v (Ne.symm hk) c).2.1 r hr
 ·by_cases u:s=i
  ·subst u;rw[Nn l] at hi;rw[Ns hij] at hj;cases hi;rcases(x j vj (Ne.symm hij) hj).2.2 with y|y
   ·right;rw[y];simp[Value.ownBlock]
   ·right;exact Ne.symm y
  ·rw[Ns u] at hi
   by_cases a1:s=j
   ·subst a1;rw[Nn l] at hj;cases hj;exact(x i vi (Ne.symm u) hi).2.2
   ·rw[Ns a1] at hj;exact h4 i j vi vj hij hi hj
theorem OwnRows.asRows (h:OwnRows enc e eS w B bp rows){C:Nat}(y:w.heap.size<=C):aaB enc w C (F bp rows.length rows.length) rows:=by
 obtain⟨vs,h1,h2,h3,h4⟩:=h;have hb:=lt_of_block h1;refine⟨vs,⟨_,rows.length,by rw[h2],by omega,fun k x hk=>⟨bp,0,rfl,by omega,zA h1 (by simpa using hk)⟩⟩,h2,fun k rv row hk hr=>?_⟩;have ho:=h3 k row rv hr hk;rcases ho.2 with⟨rfl,d⟩|⟨g,i,cur,rfl,hg,m,c,u,t,l⟩
 ·exact⟨none,0,by rw[d],by omega,fun j x hj=>by rw[Nz d] at hj;simp at hj⟩
 ·refine⟨_,i,rfl,c,fun j x hj=>⟨g,0,rfl,by have:=lt_of_block m;omega,?_⟩⟩;have o:=(Jh.1 hj).1;rw[Ng];exact(ho.cellAt j Zo).trans (by simp[hj])
end
theorem rY{α:Type}{enc:α->Value}{e:TypeId}{B C:Nat}{v:Value}{xs:List α}(ho:w.ownsRow B e 1 v xs.length (xs.map enc))(t:w.heap.size<=C):xp enc w C v xs:=by
 rcases ho.2 with⟨rfl,d⟩|⟨g,h,cur,rfl,hg,k,c,o,m,i⟩
 ·exact⟨none,0,by rw[d],by omega,fun j x hj=>by rw[Nz d] at hj;simp at hj⟩
 ·refine⟨_,h,rfl,c,fun j x hj=>⟨g,0,rfl,by have:=lt_of_block k;omega,?_⟩⟩;have l:=(Jh.1 hj).1;rw[Ng];exact(ho.cellAt j Zo).trans (by simp[hj])
theorem pk:Keyed Tryz.prog 3:=int_keyed Tryz.underlying3
theorem wf64(h:-9223372036854775808<=x/\x<=9223372036854775807):(Lit.int .i64 x).wf=true:=by simp[Lit.wf,IntKind.min,IntKind.max,IntKind.signed,IntKind.bits];omega
theorem jp(h:-9223372036854775808<=x/\x<=9223372036854775807):keyOf Tryz.prog 3 (.int .i64 x)=some (.int .i64 x):=keyOf_int_mk Tryz.underlying3 (wf64 h)
theorem zeroInt (w:World):(zeroValue 3).run Tryz.prog w=.ok (U 0) w:=by kernel_rfl
def ud (w:World)(b n:Nat)(f:Int->Int):Prop:=
 ∃D:DataW Unit,w.ownsMap Tryz.prog 3 (plainElem Tryz.prog 3) b n D/\∀x,(Lit.int .i64 x).wf=true->D.atKey (.int .i64 x) (.lit (.int .i64 0))=.lit (.int .i64 (f x))
theorem ud.lt{b n:Nat}{f:Int->Int}(h:ud w b n f):b<w.heap.size:=let⟨_,h,_⟩:=h;h.lt
theorem ud.same{b n:Nat}{f:Int->Int}(h:ud w b n f)(hb:w'.heap[b]? =w.heap[b]?):ud w' b n f:=by
 obtain⟨D,⟨es,c,h1,h2⟩,h3⟩:=h;exact⟨D,⟨es,c,hb.trans h1,h2⟩,h3⟩
theorem ud.ne{b n:Nat}{f:Int->Int}(h:ud w b n f){b':Nat}{c:Array Value}{t:TypeId}{z:Nat×Nat}(hb:w.heap[b']? =some (.cells c t z)):b≠b':=by
 obtain⟨D,⟨es,d,h1,h2⟩,h3⟩:=h;rintro rfl;rw[h1] at hb;simp at hb
theorem ud.look{b n:Nat}{f:Int->Int}(h:ud w b n f)(i:-9223372036854775808<=x/\x<=9223372036854775807):
 (Instr.lookup 171 (.map (some b)) (.int .i64 x) false).run Tryz.prog w=.ok (.int .i64 (f x)) w/\(Lit.int .i64 (f x)).wf=true:=by
 obtain⟨D,h,hf⟩:=h;obtain⟨c,g,d,j⟩:=h.lookup_int pk Tryz.underlying171 Tryz.underlying3 (zeroInt w) (jp i);rw[hf x (wf64 i)] at d;simp only[DataW.lit.injEq,Lit.int.injEq,true_and] at d;subst d;exact⟨g,j⟩
theorem rW{ops:Array Oper}{rest:List Oper}{o:Oper}{a:Act}{Q:Exit->Act->World->Prop}(hg:o.guard=none)(m x v:Operand)
 (j:o.op=.mapUpdate 171 m x v) {b n:Nat} {f:Int->Int} (h:ud w b n f) (u:n<9000000000000000000) (kx vv:Int) (hm:a.eval m=.map (some b)) (l:a.eval x=.int .i64 kx) (hv:a.eval v=.int .i64 vv)
 (d:-9223372036854775808<=kx/\kx<=9223372036854775807) (i:-9223372036854775808<=vv/\vv<=9223372036854775807)
 (t:∀w',ud w' b (n+1) (fun y=>if y=kx then vv else f y)->w.grownBy w' (some b)->wpList Tryz.prog ops Q rest (a.put o.dst undef) w'):wpList Tryz.prog ops Q (o::rest) a w:=by
 obtain⟨D,h,hf⟩:=h;refine wpList_mapUpdate_own (H:=Unit) w hg m x v 171 j 3 3 pk Tryz.underlying171 _ b n D hm h (by unfold maxLen;omega) _ _ _ l hv (jp d) _ [] (plainElem_int Tryz.underlying3 (wf64 i)) ?_;intro w1 g c;refine t w1 ⟨_,g,fun y hy=>?_⟩ c;have k:WideAt.IsKeyLit (.int .i64 kx):=pk.key (jp d)
 by_cases e:y=kx
 ·subst e;simp only[if_true];exact Maps.atKey_put_same h.isMap k _ _
 ·simp only[if_neg e];rw[Maps.atKey_put_other (by simpa using e)];exact hf y hy
end Go.Proofs.YtoahcpkibpomcaaGreat
set_option maxRecDepth 8000
namespace Go.Proofs.YtoahcpkibpomcaaGreat
open Go.RowKit
variable {W0 w w' w0 w1 w2:World}{c oa ob x:Int}{B0 bm bp d g i j k nm on vb vn:Nat}{m m':Mach}{o:Obj}{preds:List (List Nat)}{xs:List Nat}{K:MK}
theorem mD {P:List (List Nat)}{n s m:Nat}(h:∀r∈P,r.length<=m):∀r∈xS n P s,r.length<=m+1:=by
 intro r hr;rcases Qe hr with hr|rfl
 ·have:=h r hr;omega
 ·simp only[Jk,Nq,Ow]
  by_cases hs:s<P.length
  ·have:=h (P.getD s []) (by rw[Jj,Jd hs];exact Uf hs);omega
  ·rw[Jj,Of Zo];simp
theorem oB (n:Nat):∀(l:List Nat) (P:List (List Nat)) (m:Nat),(∀r∈P,r.length<=m)->∀r∈l.foldl (xS n) P,r.length<=m+l.length
 | [],_,_,h=>h
 |s::l,P,m,h=>fun r hr=>by
  have:=oB n l _ (m+1) (mD h) r hr;simp only[Nq];omega
theorem rj (g:List (List Nat))(D:Nat)(c:∀row∈g,row.length<=D):∀(l:List Nat) (P:List (List Nat)) (m:Nat),(∀r∈P,r.length<=m)->∀r∈l.foldl (yh g) P,r.length<=m+l.length*D
 | [],_,_,h=>by simpa using h
 |u::l,P,m,h=>fun r hr=>by
  have hd:(succ g u).length<=D:=by
   unfold succ;rw[Jj]
   cases e:g[u]? with
   |none=>simp
   |some row=>exact c row (Ji e)
  have:=rj g D c l _ (m+D) (fun r hr=>by have:=oB u (succ g u) P m h r hr;omega) r hr;simp only[Nq,Nat.add_mul,Nat.one_mul];omega
theorem pred_len {g:List (List Nat)}{D:Nat}(d:∀row∈g,row.length<=D)(c row:List Nat)(k j n N:Nat)(hk:k<=N){s:Nat}{pr:List Nat}
 (h:((row.take j).foldl (xS n) ((c.take k).foldl (yh g) (List.replicate N [])))[s]? =some pr):pr.length<=k*D+j:=by
 have h1:=oB n (row.take j) _ (0+(c.take k).length*D) (rj g D d (c.take k) (List.replicate N []) 0 (by intro r hr;rw[(List.mem_replicate.1 hr).2];simp)) pr (Ji h);have h2:(c.take k).length<=k:=List.length_take_le _ _;have h3:(row.take j).length<=j:=List.length_take_le _ _;have i:=Qw D h2;omega
structure ViewMem (w0 w:World) (B0 B bv bm bp n:Nat) (ov:Value) (ord:List Nat) (nm:Nat) (f:Int->Int) (preds:List (List Nat)):Prop where
 hv:w.heap[bv]? =some (.cells #[ov,.map (some bm),.slice (some ⟨bp,0,none⟩) n n] 202 (0,0))
 ho:w.ownsRow B0 3 1 ov ord.length (ord.map zj)
 ho2:∀g,ov.ownBlock=some g->g<B
 hm:ud w bm nm f
 hp:OwnRows zj 3 22 w B bp preds
 hl:preds.length=n
 hb:Below B0 w0 w
 lt:B0<=bv/\B0<=bm/\B0<=bp/\bv<B/\bm<B/\bp<B/\B<=w.heap.size
def oN (w:World)(C bv:Nat)(ord:List Nat)(f:Int->Int)(preds:List (List Nat)):Prop:=
 ∃ov bm pv nm,A w bv 0 ov/\A w bv 1 (.map (some bm))/\A w bv 2 pv/\xp zj w C ov ord/\ud w bm nm f/\bm<C/\aaB zj w C pv preds/\bv<C
theorem oN.below{C bv:Nat}{c:List Nat}{f:Int->Int}(h:oN w C bv c f preds)(hb:Below C w w'):oN w' C bv c f preds:=by
 obtain⟨ov,bm,pv,nm,c0,c1,c2,ho,hm,d,hp,hl⟩:=h;exact⟨ov,bm,pv,nm,(hb.cell (p:=⟨bv,0,none⟩) hl).trans c0,(hb.cell (p:=⟨bv,1,none⟩) hl).trans c1,(hb.cell (p:=⟨bv,2,none⟩) hl).trans c2,ho.below hb,hm.same (hb.block bm d),d,hp.below hb,hl⟩
def RetView (w:World)(ord:List Nat)(f:Int->Int)(preds:List (List Nat))(e:Ending)(w':World):Prop:=
 ∃bv,e=.returned (Q bv)/\w.heap.size<=bv/\oN w' w'.heap.size bv ord f preds/\N w w'
theorem ViewMem.read{B bv n:Nat}{ov:Value}{c:List Nat}{f:Int->Int}(h:ViewMem w0 w B0 B bv bm bp n ov c nm f preds):oN w w.heap.size bv c f preds:=by
 refine⟨ov,bm,F bp n n,nm,zA h.hv Zs,zA h.hv Zs,zA h.hv Zs,rY h.ho (Je _),h.hm,h.hm.lt,?_,lt_of_block h.hv⟩;have:=h.hp.asRows (Je w.heap.size)
 rwa [h.hl] at this
theorem Tryz.info_ints:(Tryz.prog.info? 22).map (fun i=>(i.zero,i.size,i.bytes))=some (some (.slice none 0 0),1,24):=by kernel_rfl
theorem ViewMem.store{B bv n:Nat}{ov:Value}{i:List Nat}{f f':Int->Int}(h:ViewMem w0 w B0 B bv bm bp n ov i nm f preds)
 (hg:w.grownBy w' (some bm)) (hm:ud w' bm j f'):ViewMem w0 w' B0 B bv bm bp n ov i j f' preds:=by
 obtain⟨hv,ho,ho2,d,hp,hl,hb,o⟩:=h;obtain⟨c,m⟩:=hp.blk;refine⟨zL hg hv (by simpa using d.ne hv),ho.kept hg ?_,ho2,hm,hp.kept hg (by simpa using d.ne m) (by intro k hk;cases hk;omega),hl,hb.grown hg (by have:=lt_of_block hv;have:=d.lt;omega) (by intro k hk;cases hk;omega),by have:=hg.size;omega⟩;right;intro e;rcases ho.2 with⟨rfl,_⟩|⟨g,u,cur,rfl,t,l,_⟩
 ·simp[Value.ownBlock] at e
 ·simp only[Value.ownBlock,Option.some.injEq] at e;subst e;exact d.ne l rfl
theorem ViewMem.push{B bv n s x u H m:Nat}{ov:Value}{y:List Nat}{f:Int->Int}{d:List (List Nat)}{row:List Nat}{a:Option Addr}(h:ViewMem w0 w B0 B bv bm bp n ov y nm f d)
 (hs:d[s]? =some row) (hc:A w bp s (.slice a row.length m)) (hg:(w.alloc o).grownBy w2 (Value.slice a row.length m).ownBlock)
 (a3:w2.ownsRow B 3 1 (F g (row.length+1) u) (row.length+1) (row.map zj++ [zj x]))
 (a5:(Value.slice a row.length m).ownBlock=some g∨g=H) (hH:w.heap.size<=H):
 ViewMem w0 (w2.setCell ⟨bp,s,none⟩ (F g (row.length+1) u)) B0 B bv bm bp n ov y nm f (d.set s (row++ [x])):=by
 obtain⟨hv,ho,ho2,j,hp,hl,hb,b0⟩:=h;obtain⟨c,l⟩:=hp.blk;obtain⟨a',a6,a1,a0,_⟩:=hp.get hs;rw[hc] at a1;cases a1;have a2:=zC a0 hv (.inl Zo);have i:∀k,(Value.slice a row.length m).ownBlock=some k->B<=k:=fun k hk=>(a0.lt k hk).1
 have a4:bv≠bp:=by rintro rfl;rw[hv] at l;simp at l
 have t:=hp.put Zd hs hc hg (row':=row++ [x]) (by simpa using a3) a5 hH;simp only[Jk,Nq,Ow,Ng] at t;refine⟨zR (zL hg (zB hv) a2) (by simpa using a4),?_,ho2,?_,t,by simp[hl],?_,by have:=hg.size;simp[World.setCell] at this ⊢;omega⟩
 ·refine ownsRow_setCell_other ((ho.alloc o).kept hg ?_) ?_ _
  ·cases hk:ov.ownBlock with
   |none=>exact .inl rfl
   |some k=>
    right;intro e;have:=ho2 k hk;have:=i k e.symm;omega
  ·exact zC (b:=bp) ho l (.inr Zd)
 ·refine j.same ?_;rw[Below.heap_setCell _ _ _ _ (by simpa using j.ne l),hg.block bm (by have:=j.lt;simp;omega) (fun e=>by have:=i bm e.symm;omega),Below.heap_alloc _ _ _ j.lt]
 ·have a8:=lt_of_block hv;exact((hb.alloc Zo o).grown hg Zt (fun k hk=>by have:=i k hk;omega)).setCell (show B0<=bp by omega) _
theorem uj{row:Option Nat}(h:w.drew.grownBy w' row):w.grownBy w' row:=⟨h.os,h.tape,h.output,h.size,h.block⟩
theorem uG{B:Nat}(h:Below B w w'):Below B w w'.drew:=h.drew
theorem lq{n:Nat}{v:Value}(c:A w' n 0 v)(h:Below (n+1) W0 w')(hl:n<W0.heap.size)(o:Obj):A (w'.alloc o) n 0 v/\Below (n+1) W0 (w'.alloc o):=by
 have:=h.size;exact⟨by rw[Oo (w:=w') (Below.heap_alloc _ _ _ Zt)];exact c,h.alloc Zo o⟩
theorem oY{n:Nat}{v:Value}(c:A w' n 0 v)(h:Below (n+1) W0 w')(hl:n<W0.heap.size)(hb:N w' w1):A w1 n 0 v/\Below (n+1) W0 w1:=by
 have:=h.size;exact⟨(hb.cell (p:=⟨n,0,none⟩) (show n<_ by omega)).trans c,h.trans (hb.mono Zo)⟩
theorem ww{n:Nat}(c:n=w.heap.size)(d:Hid (w.alloc o=W0))(h:Below (n+1) W0 w'):Below n w w':=by
 have e:=d.out;subst e;subst c;exact((Below.refl _ _).alloc (Je _) _).trans (h.mono Zo)
theorem o7{B:Nat}(hB:B<=w.heap.size)(c:Hid (w.alloc o=W0))(h:Below (w.heap.size+1) W0 w'):B<=w'.heap.size:=by
 have:=(ww rfl c h).size;omega
theorem nP{B:Nat}{v:Value}{g:List (List Nat)}(d:aaB zj w B v g)(hB:B<=w.heap.size)(c:Hid (w.alloc o=W0))(h:Below (w.heap.size+1) W0 w'):aaB zj w' B v g:=
 d.below ((ww rfl c h).mono hB)
theorem aJ{X wy:World}{F F':List Nat}{ao:Option Addr}{co bv n:Nat}(h:F.length=F'.length)(c:w1.ownsRow X.heap.size 3 1 (.slice ao F.length co) F.length (F.map zj))(lg:w.heap.size<W0.heap.size)
 (i:W0.heap.size<=X.heap.size) (hb:Below (w.heap.size+1) W0 wy) (hg:w1.grownBy wy none) (d:wy.heap.size=bv)
 (hm:wy.heap[bm]? =some (.map #[] 0)) (hp:O wy bp (madeCells #[L] n) 22) (lt:w.heap.size<bm/\w.heap.size<bp):
 ∃bv' bm' bp' ov,Value.pointer (some ⟨bv,0,none⟩)=Q bv'/\Hid (ViewMem W0 (wy.alloc (I #[.slice ao F'.length co,.map (some bm),.slice (some ⟨bp,0,none⟩) n n] 202)) (w.heap.size+1) (wy.alloc (I #[.slice ao F'.length co,.map (some bm),.slice (some ⟨bp,0,none⟩) n n] 202)).heap.size bv' bm' bp' n ov F 0 (fun _=>0) (List.replicate n [])):=by
 rw[<-h];have h1:=hb.size;have h2:=hg.size;have ho:=(c.kept hg (by cases ao<;>simp[Value.ownBlock])).alloc (I #[.slice ao F.length co,.map (some bm),.slice (some ⟨bp,0,none⟩) n n] 202);have h3:=lt_of_block hm;have j:=lt_of_block hp;refine⟨bv,bm,bp,.slice ao F.length co,rfl,zI d,vY ho Zo,fun g hg=>(ho.lt g hg).2,?_,OwnRows.made _ (by rw[zB hp,yA]),by simp,hb.alloc Zo _,?_⟩
 ·exact⟨_,⟨#[],0,zB hm,(let⟨es,clock,h1,h2,_⟩:=(World.ownsMap_made (H:=Unit) w Tryz.prog 3 (plainElem Tryz.prog 3));by
   rw[zI rfl] at h1;cases h1;exact h2),Je _,rfl⟩,fun _ _=>rfl⟩
 ·simp only[World.size_alloc];omega
theorem view_any (w:World)(sv:Value)(g:List (List Nat))(B:Nat)(hB:B<=w.heap.size)(h:aaB zj w B sv g)(hv:zw g)(hn:g.length<=2000000)(hr:∀row∈g,row.length<=2000000)
 (c:List Nat) (hF:tV g c):
 G 140 #[.agg #[sv]] w (RetView w c (atF c c.length) (un g c)):=by
 obtain⟨a,x,rfl,g8⟩:=h.form;obtain⟨ii,f0,d2,d1,d0⟩:=info_parts Tryz.info_int;have d5:N w (w.alloc (I #[.slice a g.length x] 105)):=(Below.refl _ _).alloc (Je _) _;have e4:=@run_makeMap Tryz.prog;have e5:=run_make_row' (P:=Tryz.prog) 103 22 (L) 24 Tryz.underlying103 Tryz.info_ints rfl .i64 .i64 g.length Zo Zo;have HV:=Ja hv;have HR:=Ja hr;have HF:=Ja hF;have cg:A (w.alloc (I #[.slice a g.length x] 105)) w.heap.size 0 (.slice a g.length x):=cell_of_one (zI rfl);clear hv hr hF;go_enter Tryz.func140,Tryz.ntmps140;go_upto_region 1 with fail;generalize c3:w.alloc (I #[.slice a g.length x] 105)=W0 at cg ⊢;have a0:=Ja c3;have g9:=Below.refl (w.heap.size+1) W0;have lg:w.heap.size<W0.heap.size:=Jw W0 _ cg;clear c3 d5
 go_cut [3] (fun s3 wx=>∃bv bm bp ov,s3=Q bv/\Hid (ViewMem W0 wx (w.heap.size+1) wx.heap.size bv bm bp g.length ov c 0 (fun _=>0) (List.replicate g.length [])))
 case first=>
  go_region_held3 (fun w'=>A w' w.heap.size 0 (.slice a g.length x)/\Below (w.heap.size+1) W0 w')
   (first
     |(go_split_ands;refine⟨?_,?_⟩<;>assumption)
     |(go_split_ands;refine⟨?_,uG ?_⟩<;>assumption)
     |(go_split_ands;exact lq ‹_› ‹_› Zz _)
     |(go_split_ands;exact oY ‹_› ‹_› Zz Zz))
   ((go_at_call 40;refine(tp _ _ g B (o7 hB a0 (by repeat' (first|assumption|(with_reducible refine Below.drew ?_)|(with_reducible refine Below.alloc ?_ ?_ _)|omega|(simp<;>omega)))) (nP h hB a0 (by repeat' (first|assumption|(with_reducible refine Below.drew ?_)|(with_reducible refine Below.alloc ?_ ?_ _)|omega|(simp<;>omega)))) HV.out hn HR.out c HF.out).mono ?_;rintro e w1 ⟨ov,rfl,b8,a6⟩;obtain⟨ao,co,rfl⟩:=zG b8))
  all_goals
   go_wp2_with fail;go_meet;have e1:=a6.size;simp at e1;refine aJ (w:=w) (w1:=w1) (F:=c) rfl b8 lg ?_ ?_ ?_ ?_ ?_ ?_ ?_
   ·simp<;>omega
   ·repeat' (first|assumption|(with_reducible refine Below.drew ?_)|(with_reducible refine Below.alloc ?_ ?_ _)|(refine Below.trans ?_ (Below.mono a6 ?_))|omega|(simp<;>omega))
   ·repeat' (first|(with_reducible exact oI _ _)|(with_reducible refine World.grownBy.trans ?_ (Uo _ _ _)))
   ·simp
   ·repeat' (first|(refine zI ?_;first|rfl|(simp;done))|(refine zB ?_)|(refine zH a6 ?_ ?_)|omega|(simp<;>omega))
   ·repeat' (first|(refine zI ?_;first|rfl|(simp;done))|(refine zB ?_)|(refine zH a6 ?_ ?_)|omega|(simp<;>omega))
   ·constructor<;>first|omega|(simp<;>omega)
 case rest=>
  obtain⟨bv,bm,bp,ov,rfl,a8⟩:=hcut;obtain⟨BB,c4⟩:∃BB,BB=wc.heap.size:=⟨_,rfl⟩
  rw[<-c4] at a8;clear c4 e4 e5;have ho:=a8.out.ho;obtain⟨ao,co,rfl⟩:=zG ho;have c1:=a8.out.hv;have f5:=K0 c1;clear ho c1;have e2:=(HF.out.nodes HV.out).1;go_wp2_with fail
  go_loopw [22] (fun i wr=>∃k:Nat,k<=c.length/\i=U k/\Hid (ViewMem W0 wr (w.heap.size+1) BB bv bm bp g.length (.slice ao c.length co) c k (atF c k) ((c.take k).foldl (yh g) (List.replicate g.length [])))) (fun i _=>c.length-(intOf i).toNat)
  case atStart=>exact⟨0,Jt _,rfl,by rw[show atF c 0=fun _=>0 from rfl];simpa using a8⟩
  case round=>
   obtain⟨k,hk,rfl,HK⟩:=hrel
   by_cases e6:k<c.length
   ·obtain⟨n,a5⟩:∃n,c[k]? =some n:=⟨_,Jd e6⟩
    have e3:n<g.length:=(HF.out.nodes HV.out).2 n (Ji a5);have g3:(n:Int)<g.length:=Zo;have g6:(k:Int)<c.length:=Zo;have d9:=rY HK.out.ho (Je _);obtain⟨ao',h9,f2,_,hx⟩:=d9;cases f2;obtain⟨bo,oo,rfl,_,c7⟩:=hx k n a5;simp only[zj] at c7;have f4:=K1 HK.out.hv;obtain⟨row,u⟩:∃row,g[n]? =some row:=⟨_,Jd e3⟩
    have c9:=Ja a5;clear hx a5 f5;obtain⟨b,o,a2,h4,rfl,hb,hc,g0,hx⟩:=h.row u;have HX:=Ja hx;have HC:=Ja hc;clear hx hc;go_wp2_with (at_mapUpdate;go_must (refine rW rfl (.tmp 30) (.tmp 31) (.tmp 32) rfl HK.out.hm Zo (n:Int) (k:Int) rfl rfl rfl Zo Zo ?_;intro w2 b9 c0;have m:=HK.out.store c0 b9;have d4:=(m.hb.cell (p:=⟨w.heap.size,0,none⟩) (show w.heap.size<w.heap.size+1 by omega)).trans cg;have hc:=((ww rfl a0 m.hb).cell (p:=⟨b,o+n,none⟩) (show b<w.heap.size by omega)).trans HC.out;have d6:=Ja m;clear m b9 c0))
    have hrl:=HR.out row (Ji u);have b3:=Ja u;clear HK c7 f4 u
    go_loopw [39] (fun i wx=>∃j:Nat,j<=row.length/\i=U j/\Hid (ViewMem W0 wx (w.heap.size+1) BB bv bm bp g.length (.slice (some ⟨bo,oo,none⟩) c.length co) c (k+1) (fun y=>if y=(n:Int) then(k:Int) else atF c k y) ((row.take j).foldl (xS n) ((c.take k).foldl (yh g) (List.replicate g.length []))))) (fun i _=>row.length-(intOf i).toNat)
    case atStart=>exact⟨0,Jt _,rfl,by simpa using d6⟩
    case round=>
     obtain⟨j,hj,rfl,d⟩:=hrel
     by_cases d3:j<row.length
     ·obtain⟨s,a1⟩:∃s,row[j]? =some s:=⟨_,Jd d3⟩
      have e0:s<g.length:=HV.out.2 row (Ji b3.out) s (Ji a1);obtain⟨b2,o2,rfl,h6,c5⟩:=HX.out j s a1;have cs:=((ww rfl a0 d.out.hb).cell (p:=⟨b2,o2+j,none⟩) (show b2<w.heap.size by omega)).trans c5;simp only[zj] at cs;have b7:=d.out.hl;obtain⟨pr,a3⟩:∃pr,((row.take j).foldl (xS n) ((c.take k).foldl (yh g) (List.replicate g.length [])))[s]? =some pr:=⟨_,Jd (by rw[b7];exact e0)⟩
      obtain⟨ap,b1,cp,a4,fp⟩:=d.out.hp.get a3;have c2:=K2 d.out.hv;have h5:=d.out.lt.2.2.2.2.2.2;have g2:pr.length<=4000004000000:=by have:=pred_len HR.out c row k j n _ (Jn hk e2) a3;omega
      have g1:(s:Int)<g.length:=Zo;have g5:(j:Int)<row.length:=Zo;have lb:=d.out.lt;have d8:=lt_of_block d.out.hv;have b6:=d.out.hp.bplt;have d7:=zC a4 d.out.hv (.inl Zo);obtain⟨cc,b0⟩:=d.out.hp.blk;have b5:=zC a4 b0 (.inr Zd);have c8:=Ja a3;have f8:=Ja a1;have i1:=Ja b0;have f9:=Ja a4;clear a3 a1 b0 a4 c5 b7 d4 hc;have f3:∀o,D (wr.alloc o) bp s:=fun o=>(Qm (w:=wr) (Below.heap_alloc _ _ _ b6)).trans fp
      have f6:∀o,A (wr.alloc o) bp s (.slice ap pr.length b1):=fun o=>(Oo (w:=wr) (Below.heap_alloc _ _ _ b6)).trans cp
      have f7:∀o,A (wr.alloc o) bv 2 (.slice (some ⟨bp,0,none⟩) g.length g.length):=fun o=>(Oo (w:=wr) (Below.heap_alloc _ _ _ d8)).trans c2
      go_upto_block 3 with fail
      go_cut [7] (fun s7 wx=>Hid (ViewMem W0 wx (w.heap.size+1) BB bv bm bp g.length (.slice (some ⟨bo,oo,none⟩) c.length co) c (k+1) (fun y=>if y=(n:Int) then(k:Int) else atF c k y) (((row.take j).foldl (xS n) ((c.take k).foldl (yh g) (List.replicate g.length []))).set s (pr++ [n]))))
      case first=>
       go_upto_region 9 with fail
       go_region_law (first|(refine step_append_lies _ (by rfl) (.tmp 54) (.tmp 56) _ (by rfl) BB 3 ii (U 0) 1 8 Tryz.underlying22 f0 d2 d1 d0 rfl Zo (.slice ap pr.length b1) pr.length (pr.map zj) (by rfl) ((f9.out.alloc _).drew) ⟨wr.heap.size,0,none⟩ 1 1 [U n] (by rfl) (by rfl) (Oi (cs:=#[U n]) (t:=3) (fr:=(0,0)) (heap_alloc_new wr _)) (by simp[Value.oneCell']) Zo (by unfold maxLen;omega) Zo Zt (wr.heap.size+1) Zs ?_;intro gg h0 w3 b4 l f1 g4;have i0:=(l.cell_far ⟨bv,2,none⟩ Zt (Ne.symm d7)).trans (f7 _);have h8:=(l.cell_far ⟨bp,s,none⟩ Zt (Ne.symm b5)).trans (f6 _);have h7:=(l.frozen_far ⟨bp,s,none⟩ Zt (Ne.symm b5)).trans (f3 _)))
       all_goals (go_wp2_with fail;go_meet;exact Ja (d.out.push c8.out cp (uj l) b4 f1 Zo))
      case rest=>
       go_wp2_with fail;go_roundw
       case rel=>exact⟨j+1,by omega,by go_num,by rw[Nh,f8.out];simpa[xS,Jj,c8.out] using hcut⟩
       case measure=>simp[intOf];omega
     ·go_wp2_with fail;go_roundw
      case rel=>exact⟨k+1,by omega,by go_num,by
       have e9:j=row.length:=Zo;have h1:=d;rw[e9,Nl] at h1;rw[Nh,c9.out,List.foldl_append];have h2:succ g n=row:=by simp[succ,Jj,b3.out]
       have h3:atF c (k+1)=fun y=>if y=(n:Int) then(k:Int) else atF c k y:=by
        funext y;simp only[atF,Jj,c9.out,Ot]
       rw[h3]
       simpa[yh,h2] using h1⟩
      case measure=>simp[intOf];omega
   ·have e7:k=c.length:=Zo;subst e7;go_wp2_with fail;go_ret;refine⟨bv,rfl,?_,?_,ww rfl a0 HK.out.hb⟩
    ·have:=HK.out.lt;omega
    ·have:=HK.out.read
     rwa [Nl] at this
end Go.Proofs.YtoahcpkibpomcaaGreat
namespace Go.Proofs
open Go.Shelf
def Tryz.lays212_ren:Go.Shelf.Ren:=⟨fun|212=>151|263=>157|264=>158|n=>n,fun|46=>92|51=>50|146=>220|53=>181|148=>222|n=>n,fun|n=>n⟩
theorem Tryz.lays212:Go.Proofs.Lays.n212 Tryz.prog Tryz.lays212_ren:= {
 mixed:=by kernel_rfl
 f212:=Tryz.func151.trans (congrArg some (by kernel_rfl))
 f263:=Tryz.func157.trans (congrArg some (by kernel_rfl))
 f264:=Tryz.func158.trans (congrArg some (by kernel_rfl))
 t46:=Tryz.underlying92
 a46:=Tryz.isAgg92
 z46:=Tryz.sizeOf92
 v46:=Tryz.zeroValue92
 t51:=Tryz.underlying50
 a51:=Tryz.isAgg50
 z51:=Tryz.sizeOf50
 v51:=Tryz.zeroValue50
 t53:=Tryz.underlying181
 a53:=Tryz.isAgg181
 z53:=Tryz.sizeOf181
 v53:=Tryz.zeroValue181
 t146:=Tryz.underlying220
 a146:=Tryz.isAgg220
 z146:=Tryz.sizeOf220
 v146:=Tryz.zeroValue220
 t148:=Tryz.underlying222
 a148:=Tryz.isAgg222
 z148:=Tryz.sizeOf222
 v148:=Tryz.zeroValue222 }
open Go.RowKit Go.Lib in
theorem Tryz.bits_Mul (x y:Nat)(d:x<18446744073709551616)(c:y<18446744073709551616)(w:World):
 Calls Tryz.prog 151 #[.int .u64 x,.int .u64 y] w fun e w'=>e=.returned (.tuple #[.int .u64 ((x*y/18446744073709551616:Nat):Int),.int .u64 ((x*y%18446744073709551616:Nat):Int)])/\w'=w:=Any.bits_Mul Tryz.lays212 x y d c w
end Go.Proofs
namespace Go.Proofs.YtoahcpkibpomcaaGreat
open Go.RowKit
variable {W0 w w' w0 w1 w2:World}{c oa ob x:Int}{B0 bm bp d g i j k nm on vb vn:Nat}{m m':Mach}{o:Obj}{preds:List (List Nat)}{xs:List Nat}{K:MK}
def wN (N m:Nat)(z:Value):List Value:=List.replicate m z++List.replicate (N-m) (U 0)
theorem nY (N:Nat)(z:Value):wN N 0 z=List.replicate N (U 0):=by simp[wN]
theorem mI (N:Nat)(z:Value):wN N N z=List.replicate N z:=by simp[wN]
theorem kK{N m:Nat}(z:Value)(h:j<m):(wN N m z)[j]? =some z:=by
 unfold wN;rw[Np (by simpa using h)];simp[h]
theorem sL{N m:Nat}(z:Value)(h:m+k<=N):splice (wN N m z) m (List.replicate k z)=wN N (m+k) z:=by
 unfold splice wN
 have e1:List.take m (List.replicate m z++List.replicate (N-m) (U 0))=List.replicate m z:=by
  rw[List.take_append_of_le_length Zs,Oy Zs]
 have e2:List.drop (m+(List.replicate k z).length) (List.replicate m z++List.replicate (N-m) (U 0))=List.replicate (N-(m+k)) (U 0):=by
  rw[List.drop_append,List.drop_eq_nil_of_le Zs,Op,List.drop_replicate]
  congr 1;simp;omega
 rw[e1,e2,<-Nv,List.replicate_append_replicate]
theorem qW{N:Nat}(z:Value)(h:k<=N):splice (List.replicate N (U 0)) 0 (List.replicate k z)=wN N k z:=by
 have:=sL (m:=0) z (by omega:0+k<=N);rw[nY] at this
 simpa using this
theorem lr (w:World)(s o a3 N:Nat)(hc:A w s o (U (-1)))(h1:1<=N)(hN:N<=4000000):
 G 145 #[.slice (some ⟨s,o,none⟩) 1 a3,U N] w fun e w'=>e=.returned (.slice (some ⟨w.heap.size,0,none⟩) N N)/\O w' w.heap.size (List.replicate N (U (-1))).toArray 3/\Below w.heap.size w w':=by
 obtain⟨ii,a8,b2,a4,b1⟩:=info_parts Tryz.info_int;have a5:=run_make_row' (P:=Tryz.prog) 22 3 (U 0) 8 Tryz.underlying22 Tryz.info_int rfl .i64 .i64 N Zo Zo;go_enter Tryz.func145,Tryz.ntmps145
 have x:G 151 #[.int .u64 1,.int .u64 (N:Int)] w fun e w'=>e=.returned (.tuple #[.int .u64 0,.int .u64 (N:Int)])/\w'=w:=by
  refine(Tryz.bits_Mul 1 N Zo Zo w).mono ?_;rintro e w1 ⟨rfl,rfl⟩;refine⟨?_,rfl⟩;rw[show 1*N/18446744073709551616=0 by omega,show 1*N%18446744073709551616=N by omega];rfl
 have hs:=jU hc;have b7:(N:Int)<=9223372036854775807:=Zo;have b6:¬(N:Int)<0:=Zo;have y: [U (-1)].length=Nat.min 1 N:=(Ud h1).symm;have l:O (w.alloc (.cells (madeCells #[U 0] N) 3)) w.heap.size (List.replicate N (U 0)).toArray 3:=by rw[zI rfl,yA]
 have k:∀(j:Nat) (v:Value),[U (-1)][j]? =some v->(w.alloc (.cells (madeCells #[U 0] N) 3)).cell? ((⟨s,o,none⟩:Addr).add j)=some v:=by
  intro j v g
  cases j with
  |zero=>simp at g;subst g;exact(Ok _ _ _ hs).trans hc
  |succ j=>simp at g
 have t:Below w.heap.size w (w.alloc (.cells (madeCells #[U 0] N) 3)):=(Below.refl _ _).alloc (Je _) _;have u:(Tryz.prog.info? 3).map (·.size)=some 1:=by rw[a8];simp[a4]
 go_wp2_with (first|(go_at_call 151;refine x.mono ?_;rintro e w1 ⟨rfl,rfl⟩)|(with_reducible refine wpList_copy_splice rfl (.tmp 31) (.tmp 32) 22 22 rfl 3 Tryz.underlying22 u (some ⟨w1.heap.size,0,none⟩) (some ⟨s,o,none⟩) N N 1 a3 rfl rfl w1.heap.size 0 (List.replicate N (U 0)) 3 l [U (-1)] y (fun _=>⟨rfl,_,rfl,k⟩) Zt (by simp[Value.oneCell']) w1.heap.size w1 t (Je _) ?_;intro w2 c b0))
 have a2:Hid (O w2 w1.heap.size (wN N 1 (U (-1))).toArray 3):=by
  have:=c.out;rw[show([U (-1)]:List Value)=List.replicate 1 (U (-1)) from rfl,qW _ h1] at this;exact Ja this
 clear x c t k l y a5
 go_loopw [8] (fun i wr=>∃m:Nat,i=U m/\1<=m/\(m:Int)<=N/\Hid (O wr w1.heap.size (wN N m (U (-1))).toArray 3)/\Below w1.heap.size w1 wr) (fun i _=>N-(intOf i).toNat)
 case atStart=>exact⟨1,rfl,by omega,by omega,a2,b0⟩
 case round=>
  obtain⟨m,rfl,y,b4,c,a0⟩:=hrel
  by_cases b5:(m:Int)<N
  ·have e1:(m:Int)<=N:=Zo;have e2:(0:Int)<=m:=Zo;go_wp2
   obtain⟨w3,b3,a1,d⟩:∃w3:World,(Sem.run Tryz.prog (Builtin.copy_ #[22,22] 3 #[.slice (some ⟨w1.heap.size,m,none⟩) (N-m) (N-m),.slice (some ⟨w1.heap.size,0,none⟩) m N]) wr.drew=.ok (U ((min m (N-m):Nat):Int)) w3.drew)/\Hid (O w3 w1.heap.size (wN N (m+min m (N-m)) (U (-1))).toArray 3)/\Below w1.heap.size w1 w3:=by
    refine⟨wr.setRow w1.heap.size (splice (wN N m (U (-1))) m (List.replicate (min m (N-m)) (U (-1)))).toArray,?_,?_,below_setRow a0 (Je _) _⟩
    ·have:=run_copy_row (P:=Tryz.prog) wr.drew 22 22 3 3 w1.heap.size m (N-m) (N-m) ⟨w1.heap.size,0,none⟩ m N (wN N m (U (-1))).toArray 3 (List.replicate (min m (N-m)) (U (-1))) Tryz.underlying22 u c.out
      (by rw[Qr]) (fun j v g=>by
       have a6:j<min m (N-m):=by
        have:=(Jh.1 g).1;simpa using this
       rw[Nm,if_pos a6] at g;cases g;have ea:(⟨w1.heap.size,0,none⟩:Addr).add j=⟨w1.heap.size,j,none⟩:=by by_cases h:j=0<;>simp[Addr.add,h]
       rw[ea];refine zA (w:=wr.drew) (b:=w1.heap.size) (cs:=(wN N m (U (-1))).toArray) c.out ?_;simp only[List.getElem?_toArray]
       exact kK _ Zo) (by simp[wN];omega) (by intro v hv;rw[List.eq_of_mem_replicate hv];rfl)
     rw[Qr] at this;refine(this.trans ?_);unfold splice;simp only[Nv,Qr];rfl
    ·have:=setRow_heap wr w1.heap.size _ (splice (wN N m (U (-1))) m (List.replicate (min m (N-m)) (U (-1)))).toArray _ _ c.out;rw[sL _ Zo] at this ⊢;exact Ja this
   clear c a0;go_wp2
   go_region
   go_wp2;go_roundw
   case rel=>exact⟨m+min m (N-m),by rw[Int.natCast_add],by omega,by omega,a1,⟨d.os,d.tape,d.output,d.size,d.block⟩⟩
   case measure=>simp[intOf];omega
  ·go_wp2;go_ret;have:m=N:=Zo;subst this;refine⟨rfl,?_,a0⟩;have:=c.out;rw[mI] at this
   simpa using this
end Go.Proofs.YtoahcpkibpomcaaGreat
set_option maxRecDepth 8000
namespace Go.Proofs.YtoahcpkibpomcaaGreat
open Go.RowKit Go.Shelf
variable {W0 w w' w0 w1 w2:World}{c oa ob x:Int}{B0 bm bp d g i j k nm on vb vn:Nat}{m m':Mach}{o:Obj}{preds:List (List Nat)}{xs:List Nat}{K:MK}
attribute [local go_sem] Oper.semAt_some
def aaT (Bv Bn n:Nat)(xs:List Nat)(bv bp op len cap:Nat)(ar:Option Addr)(capr:Nat)(W:World):Prop:=
 A W Bv 0 (Q bv)/\A W Bn 0 (U n)/\A W bv 2 (.slice (some ⟨bp,op,none⟩) len cap)/\n<len/\
  A W bp (op+n) (.slice ar xs.length capr)/\∀(j:Nat) (x:Nat),xs[j]? =some x->∃b o,ar=some ⟨b,o,none⟩/\A W b (o+j) (U x)
theorem aH (m:Nat)(hm:1<=m)(l Bv Bn n:Nat)(xs:List Nat)(bv bp op len g:Nat)(ar:Option Addr)(c:Nat)(hx:xs.length<=4000004000000)(J Jx:List Nat->World->Prop)
 (hY:∀(pre:List Nat) (x:Nat) (W:World),J pre W->xs[pre.length]? =some x->YieldAt Fence.wide (m-1) Tryz.prog l #[U x] W fun e W'=>
   (e=.returned (.bool true)/\J (pre++ [x]) W'/\(aaT Bv Bn n xs bv bp op len g ar c W->aaT Bv Bn n xs bv bp op len g ar c W'))∨(e=.returned (.bool false)/\Jx (pre++ [x]) W'))
 (a1:∀pre W k,J pre W->J pre (W.drewN k)) (W:World) (hR:aaT Bv Bn n xs bv bp op len g ar c W) (h0:J [] W):
 CallsIn Fence.wide m Tryz.prog 152 #[.func (.yield l) #[] #[],Q Bv,Q Bn] W fun e W'=>(∃v,e=.returned v)/\
  ((∃ys,ys=xs/\J ys W')∨(∃pre,pre<+:xs/\Jx pre W')):=by
 have a3:=Ja hR;obtain⟨c1,c2,c3,hn,c4,hc⟩:=hR;have a6:(n:Int)<len:=Zo;refine callsIn_of_wp Tryz.func152 rfl trivial ?_ rfl;simp only[Tryz.ntmps152,List.size_toArray,Nq,Ow,Nat.reduceAdd,Nat.reduceSub,Array.replicate_succ,Array.replicate_zero,List.push_toArray,List.append_toArray,Op,List.cons_append]
 gi_wp2
 gi_region
 gi_wp2
 gi_loopw [14] (fun i wr=>∃k:Nat,k<=xs.length/\i=U k/\J (xs.take k) wr/\Hid (aaT Bv Bn n xs bv bp op len g ar c wr)) (fun i _=>xs.length-(intOf i).toNat)
 case atStart=>exact⟨0,Jt _,rfl,a1 _ _ 1 h0,a3⟩
 case round=>
  obtain⟨k,hk,rfl,j,HR⟩:=hrel
  by_cases w:k<xs.length
  ·obtain⟨x,d⟩:∃x,xs[k]? =some x:=⟨_,Jd w⟩
   obtain⟨b,o,a0,a8⟩:=HR.out.2.2.2.2.2 k x d;obtain⟨fn,a4,assign,body,hy,hR⟩:=hY _ x wr j (by rw[Oc,Ud hk];exact d);have h:xs.take (k+1)=xs.take k++ [x]:=by rw[Nh,d];rfl
   have t:=Ja h;have b0:=Ja d;have a5:(k:Int)<xs.length:=Zo;subst a0;clear d h c1 c2 c3 c4 hc hY
   gi_wp2
   refine hR.mono ?_;rintro e W3 (⟨rfl,a2,y⟩|⟨rfl,u⟩)
   ·gi_wp2
    go_roundw
    case rel=>exact⟨k+1,by omega,by go_num,by rw[t.out];exact a2,y HR⟩
    case measure=>simp[intOf];omega
   ·gi_wp2
    refine bodyPost_ret (results_none rfl _ _ _) rfl ?_;exact⟨⟨_,rfl⟩,.inr ⟨_,by rw[<-t.out];exact List.take_prefix _ _,u⟩⟩
  ·obtain rfl:k=xs.length:=by omega
   gi_wp2
   go_end0
   exact⟨⟨_,rfl⟩,.inl ⟨_,Nl,j⟩⟩
theorem lj (p:Option Addr)(n:Int)(w:World):
 G 147 #[.pointer p,U n] w fun e w'=>e=.returned (.func (.func 152) #[] #[Q w.heap.size,Q (w.heap.size+1)])/\
  w'=(w.alloc (I #[.pointer p] 192)).alloc (I #[U n] 3):=by
 go_enter Tryz.func147,Tryz.ntmps147;go_wp2;go_ret;exact⟨rfl,rfl⟩
theorem aaT.below{Bv Bn n bv op len C:Nat}{ar:Option Addr}{W W':World}(h:aaT Bv Bn n xs bv bp op len g ar d W)(hb:Below C W W')(l:W.heap.size<=C):aaT Bv Bn n xs bv bp op len g ar d W':=by
 obtain⟨c1,c2,c3,i,c4,k⟩:=h;have up:∀ {a:Addr} {v:Value},W.cell? a=some v->W'.cell? a=some v:=fun {a v} h=>(hb.cell (Jy (Jw W a h) l)).trans h
 refine⟨up c1,up c2,up c3,i,up c4,fun j x hj=>?_⟩;obtain⟨b,o,e,c⟩:=k j x hj;exact⟨b,o,e,up c⟩
theorem mC{x:Nat}(h:xs[k]? =some x):xs.attach.take (k+1)=xs.attach.take k++ [⟨x,Ji h⟩]:=by
 rw[Nh]
 congr 1
 obtain⟨c,rfl⟩:=Jh.1 h;rw[Jd (by simpa using c)];simp
theorem nH (m:Nat)(hm:1<=m)(Bv Bn n:Nat)(xs:List Nat)(bv bp op len d:Nat)(ar:Option Addr)(c:Nat)(g:xs.length<=4000004000000)(w:World)(i:aaT Bv Bn n xs bv bp op len d ar c w):
 SeqStopsK Fence.wide m Tryz.prog 152 #[Q Bv,Q Bn] (fun x: {p//p∈xs}=> #[U (x.1:Int)]) (fun W W'=>aaT Bv Bn n xs bv bp op len d ar c W->aaT Bv Bn n xs bv bp op len d ar c W')
  (fun ys=>ys.map (·.1)=xs) (fun _=>True) xs.length w:=fun l J Jx W hW hJ _ hY h0=>by
 refine(aH m hm l Bv Bn n xs bv bp op len d ar c g (fun pre W=>J (xs.attach.take pre.length) W) (fun pre W=>Jx (xs.attach.take pre.length) W) (fun pre x W1 h1 h2=>?_)
  (fun pre W1 k h=>hJ _ W1 (W1.drewN k) none h ⟨rfl,rfl,rfl,Je _,fun _ _ _=>rfl⟩ (fun _ e=>by cases e)) W (i.below hW (Je _)) (by simpa using h0)).mono ?_
 ·have j:pre.length<xs.length:=(Jh.1 h2).1;refine(hY _ ⟨x,Ji h2⟩ W1 h1 (by rw[Oc,List.length_attach];omega)).mono ?_;rw[Jk,Ju,mC h2];exact fun e w' h=>h
 ·rintro e w' ⟨hv,(⟨ys,rfl,h⟩|⟨pre,_,h⟩)⟩
  ·exact⟨hv,.inl ⟨_,by simp,h⟩⟩
  ·exact⟨hv,.inr ⟨_,trivial,h⟩⟩
end Go.Proofs.YtoahcpkibpomcaaGreat
set_option maxRecDepth 8000
namespace Go.Proofs.YtoahcpkibpomcaaGreat
open Go.RowKit
variable {W0 w w' w0 w1 w2:World}{c oa ob x:Int}{B0 bm bp d g i j k nm on vb vn:Nat}{m m':Mach}{o:Obj}{preds:List (List Nat)}{xs:List Nat}{K:MK}
theorem UpN.lt {c:List Int}{f:Int->Int}{t:Int}:∀ {k a a':Nat},UpN c f t k a a'->a<c.length->a'<c.length
 |0,_,_,h,ha=>by rw[h.2];exact ha
 |k+1,_,_,h,_=>by obtain⟨_,a1,h1,_,h2⟩:=h;exact UpN.lt h2 h1
theorem nj{b n:Nat}{f:Int->Int}(h:ud w b n f)(c:-9223372036854775808<=x/\x<=9223372036854775807)(k:Nat):
 (Instr.lookup 171 (.map (some b)) (U x) false).run Tryz.prog (w.drewN k)=.ok (U (f x)) (w.drewN k):=
 (ud.look (h.same (w':=w.drewN k) rfl) c).1
theorem meet_any (w:World)(Bv Bi bv bm nm bi:Nat)(f:Int->Int)(c:List Int)(hn:c.length<=2000000)
 (c1:A w Bv 0 (Q bv)) (c2:A w bv 1 (.map (some bm))) (hm:ud w bm nm f)
 (c3:A w Bi 0 (F bi c.length c.length)) (hi:O w bi (c.map (Value.int .i64)).toArray 3)
 (k0 a b r:Nat) (ha:a<c.length) (hb:b<c.length) (hM:qZ c f k0 a b r):
 G 146 #[U a,U b,Q Bv,Q Bi] w fun e w'=>e=.returned (U r)/\∃n,w'=w.drewN n:=by
 have m:=Ja hM;have HI:=Ja hi;have i:=Ja hm;clear hM hi hm;go_enter Tryz.func146,Tryz.ntmps146;go_wp2
 go_loopg [0,1] k0 (fun k x y wr=>∃a b:Nat,a<c.length/\b<c.length/\x=U a/\y=U b/\Hid (qZ c f k a b r)/\∃n,wr=w.drewN n)
 case atStart=>exact⟨a,b,ha,hb,rfl,rfl,m,0,rfl⟩
 case round=>
  clear ha hb m a b;obtain⟨a,b,ha,hb,rfl,rfl,m,n,rfl⟩:=hrel
  cases gk with
  |zero=>
   obtain⟨rfl,rfl⟩:=m.out;have a2:((r:Int) !=(r:Int))=false:=by simp
   go_wp2;go_ret
   exact⟨rfl,n,rfl⟩
  |succ k=>
   obtain⟨a3,j,a',h,j',b',o,hM⟩:=m.out;have a2:((a:Int) !=(b:Int))=true:=by simp;omega
   have l:=Ja h;have g:=Ja o;have a4:=Ja hM;have a0:=UpN.lt h ha;have u:=UpN.lt o hb;clear a3 h o hM m;go_wp2
   go_loopg [0] j (fun j x wr=>∃a:Nat,a<c.length/\x=U a/\Hid (UpN c f (f b) j a a')/\∃n,wr=w.drewN n)
   case atStart=>exact⟨a,ha,rfl,l,n,rfl⟩
   case round=>
    clear l;obtain⟨x,b0,rfl,l,n2,rfl⟩:=hrel;have la:=nj i.out (x:=(x:Int)) Zo;have lb:=nj i.out (x:=(b:Int)) Zo
    cases gk with
    |zero=>
     obtain⟨ht,rfl⟩:=l.out;have d:decide (f b<f a')=false:=by simpa using ht
     go_wp2;go_quiet (fail);go_wp2
     go_loopg [1] j' (fun j y wr=>∃y0:Nat,y0<c.length/\y=U y0/\Hid (UpN c f (f a') j y0 b')/\∃n,wr=w.drewN n)
     case atStart=>exact⟨b,hb,rfl,g,_,World.drewN_drewN _ _ _⟩
     case round=>
      clear g d;obtain⟨y,a8,rfl,g,n3,rfl⟩:=hrel;have lc:=nj i.out (x:=(y:Int)) Zo
      cases gk with
      |zero=>
       obtain⟨ht,rfl⟩:=g.out;have d:decide (f a'<f b')=false:=by simpa using ht
       go_wp2;go_quiet (fail);go_wp2
       go_roundg k
       case measure=>omega
       case rel=>exact⟨a',b',a0,u,rfl,rfl,a4,_,World.drewN_drewN _ _ _⟩
      |succ j2=>
       obtain⟨ht,y1,h1,hy,h⟩:=g.out;have d:decide (f a'<f y)=true:=by simpa using ht
       have cy:A w bi y (U y1):=zA HI.out (by simp[hy]);have a5:(y:Int)<c.length:=Zo;have t:=Ja h;clear hy h g;go_wp2;go_quiet (fail);go_wp2
       go_roundg j2
       case measure=>omega
       case rel=>exact⟨y1,h1,rfl,t,_,rfl⟩
    |succ j2=>
     obtain⟨ht,a1,h1,hx,h⟩:=l.out;have d:decide (f b<f x)=true:=by simpa using ht
     have cx:A w bi x (U a1):=zA HI.out (by simp[hx]);have a6:(x:Int)<c.length:=Zo;have t:=Ja h;clear hx h l;go_wp2;go_quiet (fail);go_wp2
     go_roundg j2
     case measure=>omega
     case rel=>exact⟨a1,h1,rfl,t,_,rfl⟩
end Go.Proofs.YtoahcpkibpomcaaGreat
