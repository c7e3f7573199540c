/- Part of a proof. -/
import Derived.Test.YtojclalkfhoooaaGApp
import Derived.Laws.EntriesVeiled
import Derived.WalkLawsBesides
import Derived.Laws.BitsLemmas
import Derived.Lib.EndianBits
import Derived.Maps.OwnSet
import Derived.Maps.OwnOps
import Derived.Test.YtojclalkfhoooaaIFlds
import Derived.Test.YtojclalkfhoooaaIHead
import Derived.WideKeyEntry
set_option linter.unusedSimpArgs false
set_option linter.unusedVariables false
set_option maxHeartbeats 1000000
namespace Go.Proofs.Ytojclalkfhoooaa
open Go.RowKit
structure MK where
 E:IEnv
 V:PV
 inv:Value
 irqv:Value
 pm:Nat
 rb:Nat
 B:Nat
def r9 (K:MK)(m:Mach)(ov:Value):Array Value:=
 #[K.V.fv,K.V.av,.int .i64 K.E.p.entry,.int .i64 K.E.p.handler,K.V.dv,K.V.bv,.slice (some ⟨K.rb,0,none⟩) 8192 8192,K.inv,K.irqv,.int .i64 m.fuel,ov,.int .i64 (m.inputs:Int),.int .i64 (m.polls:Int)]
def qO (l:List (Nat×Nat)):List Value:=(l.map fun p=> [vL p.1,vL p.2]).flatten
structure MachAt (w:World) (K:MK) (m:Mach) (ov:Value):Prop where
 blk:w.heap[K.pm]? =some (.cells (r9 K m ov) 104 (0,0))
 ram:w.heap[K.rb]? =some (.cells (m.ram.map wz).toArray 5 (0,0))
 rlen:m.ram.length=8192
 rlt:∀x∈m.ram,x<256
 out:w.ownsRow K.B 87 2 ov m.out.length (qO m.out)
 olt:∀p∈m.out,p.1<65536/\p.2<65536
 obd:m.out.length+m.fuel.toNat<=4000000
 fuel:I64 m.fuel
 inp:m.inputs<=K.E.inn.length
 pol:m.polls<=K.E.irq.length
 gpm:K.B<=K.pm
 grb:K.B<=K.rb
 prog:ProgIn w K.B K.V K.E.p
 inn:wV w K.B K.inv K.E.inn
 irq:i5 w K.B K.irqv K.E.irq
def sA:Obj->Prop
 |.cells _ t _=>t≠104/\t≠87/\t≠5
 |_=>True
structure Frm (B:Nat) (w w':World):Prop where
 below:Below B w w'
 kept:∀(k:Nat) (o:Obj),w.heap[k]? =some o->sA o->w'.heap[k]? =some o
theorem Frm.refl (B:Nat)(w:World):Frm B w w:=⟨Below.refl _ _,fun _ _ h _=>h⟩
theorem Frm.trans {B:Nat}{a b c:World}(h:Frm B a b)(k:Frm B b c):Frm B a c:=⟨h.below.trans k.below,fun i o hi hs=>k.kept i o (h.kept i o hi hs) hs⟩
theorem Frm.drewN {B n:Nat}{a w:World}(h:Frm B a w):Frm B a (w.drewN n):=⟨yC h.below,h.kept⟩
theorem Frm.alloc {B:Nat}{a w:World}(h:Frm B a w)(hB:B<=a.heap.size)(o:Obj):Frm B a (w.alloc o):=⟨h.below.alloc (Nat.le_trans hB h.below.size) o,fun i o' hi hs=>zB (h.kept i o' hi hs)⟩
theorem Frm.set {B:Nat}{a w:World}(h:Frm B a w){b i:Nat}{cs:Array Value}{t:TypeId}(hb:w.heap[b]? =some (.cells cs t (0,0)))(hB:B<=b)(ht:¬sA (.cells cs t (0,0)))(u:Value):Frm B a (w.setCell ⟨b,i,none⟩ u):=
 ⟨h.below.setCell hB u,fun k o hk hs=>by
   have h1:=h.kept k o hk hs
   refine zR h1 ?_
   rintro rfl
   rw[hb] at h1
   exact ht (by rw[Option.some.inj h1];exact hs)⟩
def oE (k i:Nat):PanicEntry:= {v:=.iface 107 (.agg #[.int .i64 (k:Int),.int .u16 (i:Int)]),recovered:=false }
def endOf:Res Nat->Ending
 |.ok x _=> .returned (.int .u16 (x:Int))
 |.trap k i _=> .panicked [oE k i]
def Res.mach {α:Type}:Res α->Mach
 |.ok _ m=>m
 |.trap _ _ m=>m
theorem MachAt.cell {w:World}{K:MK}{m:Mach}{ov:Value}(h:MachAt w K m ov){i:Nat}{v:Value}(hv:(r9 K m ov)[i]? =some v):w.cell? ⟨K.pm,i,none⟩=some v:=zA h.blk hv
section
variable {w:World} {K:MK} {m:Mach} {ov:Value} (h:MachAt w K m ov)
include h
theorem MachAt.c0:w.cell? ⟨K.pm,0,none⟩=some K.V.fv:=h.cell rfl
theorem MachAt.c3:w.cell? ⟨K.pm,3,none⟩=some (.int .i64 K.E.p.handler):=h.cell rfl
theorem MachAt.c4:w.cell? ⟨K.pm,4,none⟩=some K.V.dv:=h.cell rfl
theorem MachAt.c5:w.cell? ⟨K.pm,5,none⟩=some K.V.bv:=h.cell rfl
theorem MachAt.c6:w.cell? ⟨K.pm,6,none⟩=some (.slice (some ⟨K.rb,0,none⟩) 8192 8192):=h.cell rfl
theorem MachAt.c7:w.cell? ⟨K.pm,7,none⟩=some K.inv:=h.cell rfl
theorem MachAt.c8:w.cell? ⟨K.pm,8,none⟩=some K.irqv:=h.cell rfl
theorem MachAt.c9:w.cell? ⟨K.pm,9,none⟩=some (.int .i64 m.fuel):=h.cell rfl
theorem MachAt.c10:w.cell? ⟨K.pm,10,none⟩=some ov:=h.cell rfl
theorem MachAt.c11:w.cell? ⟨K.pm,11,none⟩=some (.int .i64 (m.inputs:Int)):=h.cell rfl
theorem MachAt.c12:w.cell? ⟨K.pm,12,none⟩=some (.int .i64 (m.polls:Int)):=h.cell rfl
end
theorem MachAt.free {w:World}{K:MK}{m:Mach}{ov:Value}(h:MachAt w K m ov)(i:Nat):w.frozen? ⟨K.pm,i,none⟩=false:=zE h.blk
theorem MachAt.keep {w w':World}{K:MK}{m:Mach}{ov:Value}(h:MachAt w K m ov)(hb:Below w.heap.size w w'):MachAt w' K m ov:=
 ⟨zH hb h.blk (lt_of_block h.blk),zH hb h.ram (lt_of_block h.ram),h.rlen,h.rlt,p7 h.out hb (Nat.le_refl _),h.olt,h.obd,h.fuel,h.inp,h.pol,h.gpm,h.grb,
  h.prog.below (hb.mono (Nat.le_trans h.gpm (Nat.le_of_lt (lt_of_block h.blk)))),h.inn.below zr (hb.mono (Nat.le_trans h.gpm (Nat.le_of_lt (lt_of_block h.blk)))),h.irq.below xQ (hb.mono (Nat.le_trans h.gpm (Nat.le_of_lt (lt_of_block h.blk))))⟩
theorem MachAt.drewN {w:World}{K:MK}{m:Mach}{ov:Value}(h:MachAt w K m ov)(n:Nat):MachAt (w.drewN n) K m ov:=h.keep (yL _ _ _)
theorem MachAt.size {w:World}{K:MK}{m:Mach}{ov:Value}(h:MachAt w K m ov):K.B<w.heap.size:=Nat.lt_of_le_of_lt h.gpm (lt_of_block h.blk)
theorem wj (k i:Nat)(w:World):Calls Try.prog 80 #[.int .i64 (k:Int),.int .u16 (i:Int)] w fun e w'=>e=.panicked [oE k i]/\w=w':=by
 go_enter Try.func80,Try.ntmps80
 go_wp2
 exact⟨rfl,rfl,rfl⟩
theorem MachAt.setF {w:World}{K:MK}{m:Mach}{ov:Value}(h:MachAt w K m ov)(f:Int)(hf:I64 f)(hb:m.out.length+f.toNat<=4000000)(hne:K.rb≠K.pm):MachAt (w.setCell ⟨K.pm,9,none⟩ (.int .i64 f)) K {m with fuel:=f } ov:=by
 refine⟨?_,zR h.ram (by simpa using hne),h.rlen,h.rlt,ownsRow_setCell_other h.out ?_ _,h.olt,hb,hf,h.inp,h.pol,h.gpm,h.grb,?_,?_,?_⟩
 ·rw[zD h.blk];rfl
 ·intro e;exact zC h.out h.blk (.inr (by decide)) (by simpa using e)
 ·exact h.prog.below ((Below.refl _ _).setCell h.gpm _)
 ·exact h.inn.below zr ((Below.refl _ _).setCell h.gpm _)
 ·exact h.irq.below xQ ((Below.refl _ _).setCell h.gpm _)
theorem MachAt.setI {w:World}{K:MK}{m:Mach}{ov:Value}(h:MachAt w K m ov)(hlt:m.inputs<K.E.inn.length)(hne:K.rb≠K.pm):MachAt (w.setCell ⟨K.pm,11,none⟩ (.int .i64 ((m.inputs:Int)+1))) K {m with inputs:=m.inputs+1 } ov:=by
 refine⟨?_,zR h.ram (by simpa using hne),h.rlen,h.rlt,ownsRow_setCell_other h.out ?_ _,h.olt,h.obd,h.fuel,hlt,h.pol,h.gpm,h.grb,?_,?_,?_⟩
 ·rw[zD h.blk];rfl
 ·intro e;exact zC h.out h.blk (.inr (by decide)) (by simpa using e)
 ·exact h.prog.below ((Below.refl _ _).setCell h.gpm _)
 ·exact h.inn.below zr ((Below.refl _ _).setCell h.gpm _)
 ·exact h.irq.below xQ ((Below.refl _ _).setCell h.gpm _)
theorem MachAt.setP {w:World}{K:MK}{m:Mach}{ov:Value}(h:MachAt w K m ov)(hlt:m.polls<K.E.irq.length)(hne:K.rb≠K.pm):MachAt (w.setCell ⟨K.pm,12,none⟩ (.int .i64 ((m.polls:Int)+1))) K {m with polls:=m.polls+1 } ov:=by
 refine⟨?_,zR h.ram (by simpa using hne),h.rlen,h.rlt,ownsRow_setCell_other h.out ?_ _,h.olt,h.obd,h.fuel,h.inp,hlt,h.gpm,h.grb,?_,?_,?_⟩
 ·rw[zD h.blk];rfl
 ·intro e;exact zC h.out h.blk (.inr (by decide)) (by simpa using e)
 ·exact h.prog.below ((Below.refl _ _).setCell h.gpm _)
 ·exact h.inn.below zr ((Below.refl _ _).setCell h.gpm _)
 ·exact h.irq.below xQ ((Below.refl _ _).setCell h.gpm _)
theorem MachAt.ne {w:World}{K:MK}{m:Mach}{ov:Value}(h:MachAt w K m ov):K.rb≠K.pm:=by
 intro e
 have h1:=h.blk;have h2:=h.ram
 rw[e,h1] at h2
 simp at h2
theorem qG (a:Nat):wo a=true↔16384<=a/\a<24576:=by unfold wo;rw[Bool.and_eq_true,decide_eq_true_eq,decide_eq_true_eq]
theorem MachAt.ramCell {w:World}{K:MK}{m:Mach}{ov:Value}(h:MachAt w K m ov){a:Nat}(ha:wo a=true):w.cell? ⟨K.rb,a-16384,none⟩=some (.int .u8 (tC m a:Nat))/\tC m a<256/\w.frozen? ⟨K.rb,a-16384,none⟩=false:=by
 have h1:=(qG a).1 ha
 obtain⟨x,hx⟩:∃x,m.ram[a-16384]? =some x:=⟨_,List.getElem?_eq_getElem (by rw[h.rlen];omega)⟩
 have e:tC m a=x:=by unfold tC;rw[List.getD_eq_getElem?_getD,hx];rfl
 rw[e]
 exact⟨zA h.ram (by simp[hx,wz]),h.rlt x (List.mem_of_getElem? hx),zE h.ram⟩
theorem MachAt.setR {w:World}{K:MK}{m:Mach}{ov:Value}(h:MachAt w K m ov)(a x:Nat)(hx:x<256):MachAt (w.setCell ⟨K.rb,a-16384,none⟩ (.int .u8 (x:Int))) K (m.put a x) ov/\Frm K.B w (w.setCell ⟨K.rb,a-16384,none⟩ (.int .u8 (x:Int))):=by
 have hF:Frm K.B w (w.setCell ⟨K.rb,a-16384,none⟩ (.int .u8 (x:Int))):=(Frm.refl _ _).set h.ram h.grb (by simp[sA]) _
 refine⟨⟨zR h.blk (by simpa using Ne.symm h.ne),?_,by simp[Mach.put,h.rlen],?_,ownsRow_setCell_other h.out ?_ _,h.olt,h.obd,h.fuel,h.inp,h.pol,h.gpm,h.grb,h.prog.below hF.below,h.inn.below zr hF.below,h.irq.below xQ hF.below⟩,hF⟩
 ·rw[zD h.ram];simp[Mach.put,wz,List.map_set]
 ·intro y hy
  rcases List.mem_or_eq_of_mem_set hy with hy|rfl
  ·exact h.rlt y hy
  ·exact hx
 ·intro e;exact zC h.out h.ram (.inr (by decide)) (by simpa using e)
theorem kF (l:List (Nat×Nat))(p x:Nat):qO (l++ [(p,x)])=qO l++ [vL p,vL x]:=by unfold qO;rw[List.map_append,List.flatten_append];rfl
theorem MachAt.setO {w w2:World}{K:MK}{m:Mach}{ov ov':Value}{o:Obj}{p x:Nat}(h:MachAt w K m ov)(hg:(w.alloc o).grownBy w2 ov.ownBlock)
 (hown:w2.ownsRow K.B 87 2 ov' (m.out.length+1) (qO m.out++ [vL p,vL x])) (hp:p<65536) (hx:x<65536) (hb:m.out.length+1+m.fuel.toNat<=4000000):
 MachAt (w2.setCell ⟨K.pm,10,none⟩ ov') K {m with out:=m.out++ [(p,x)]} ov'/\Frm K.B w (w2.setCell ⟨K.pm,10,none⟩ ov'):=by
 have n1:=zC h.out h.blk (.inr (by decide))
 have n2:=zC h.out h.ram (.inr (by decide))
 have b2:=zL hg (zB h.blk) n1
 have r2:=zL hg (zB h.ram) n2
 have hB:=h.size
 have hF0:Frm K.B w w2:=by
  refine⟨((Below.refl _ _).alloc (Nat.le_of_lt hB) o).grown hg (by simp;omega) (fun k hk=>(h.out.lt k hk).1),fun k o' hk hs=>?_⟩
  refine zL hg (zB hk) ?_
  intro e
  obtain⟨_,h2⟩:=h.out
  rcases h2 with⟨hv,_⟩|⟨g,cap,cur,hv,_,hh,_⟩
  ·rw[hv] at e;simp[Value.ownBlock] at e
  ·rw[hv] at e
   simp only[Value.ownBlock,Option.some.injEq] at e
   subst e
   rw[hh] at hk
   have:=Option.some.inj hk
   subst this
   exact hs.2.1 rfl
 have hF:Frm K.B w (w2.setCell ⟨K.pm,10,none⟩ ov'):=hF0.set b2 h.gpm (by simp[sA]) _
 refine⟨⟨?_,zR r2 (by simpa using h.ne),h.rlen,h.rlt,?_,?_,?_,h.fuel,h.inp,h.pol,h.gpm,h.grb,h.prog.below hF.below,h.inn.below zr hF.below,h.irq.below xQ hF.below⟩,hF⟩
 ·rw[zD b2];rfl
 ·have e1:(m.out++ [(p,x)]).length=m.out.length+1:=by simp
  show(w2.setCell ⟨K.pm,10,none⟩ ov').ownsRow K.B 87 2 ov' (m.out++ [(p,x)]).length (qO (m.out++ [(p,x)]))
  rw[e1,kF]
  exact ownsRow_setCell_other hown (by intro e;exact zC hown b2 (.inr (by decide)) (by simpa using e)) _
 ·intro q hq
  rcases List.mem_append.1 hq with hq|hq
  ·exact h.olt q hq
  ·simp at hq;subst hq;exact⟨hp,hx⟩
 ·show(m.out++ [(p,x)]).length+m.fuel.toNat<=4000000
  simp;omega
theorem MachAt.frm {w:World}{K:MK}{m:Mach}{ov:Value}(h:MachAt w K m ov)(i:Nat)(u:Value):Frm K.B w (w.setCell ⟨K.pm,i,none⟩ u):=(Frm.refl _ _).set h.blk h.gpm (by simp[sA]) u
theorem pay_no {w:World}{K:MK}{m:Mach}{ov:Value}(h:MachAt w K m ov)(hf:m.fuel<=0):Calls Try.prog 81 #[.pointer (some ⟨K.pm,0,none⟩)] w fun e w'=>e=.panicked [oE 7 0]/\w=w':=by
 have c9:=h.c9
 clear h
 go_enter Try.func81,Try.ntmps81
 go_wp2_with (go_at_call 80;go_must (refine(wj 7 0 _).mono ?_;rintro e w' ⟨rfl,rfl⟩))
 exact⟨rfl,rfl,rfl⟩
theorem iN {w:World}{K:MK}{m:Mach}{ov:Value}(h:MachAt w K m ov)(hf:0<m.fuel):Calls Try.prog 81 #[.pointer (some ⟨K.pm,0,none⟩)] w fun e w'=>e=.returned (.tuple #[])/\MachAt w' K m.pay ov/\Frm K.B w w':=by
 have c9:=h.c9
 have f9:=h.free 9
 have h9:=Lib.hid (h.setF (m.fuel-1) (by have:=h.fuel;unfold I64 at *;omega) (by have:=h.obd;omega) h.ne)
 have hF:=Lib.hid (h.frm 9 (.int .i64 (m.fuel-1)))
 have hb:m.fuel<=9223372036854775807:=h.fuel.2
 clear h
 go_enter Try.func81,Try.ntmps81
 go_wp2
 go_end0
 exact⟨rfl,h9.out,hF.out⟩
open Go.RowKit
theorem inRam_no (a:Nat):wo a=false↔a<16384∨24576<=a:=by
 rw[<-Bool.not_eq_true,qG];omega
theorem sX {w:World}{K:MK}{m:Mach}{ov:Value}(h:MachAt w K m ov)(a:Nat)(ha:a<65536)(hr:wo a=false):Calls Try.prog 107 #[.pointer (some ⟨K.pm,0,none⟩),.int .u16 (a:Int)] w fun e w'=>e=.panicked [oE 2 a]/\w=w':=by
 clear h
 rcases(inRam_no a).1 hr with hlt|hge
 ·have hI:(a:Int)<16384:=by omega
  clear hr hlt
  go_enter Try.func107,Try.ntmps107
  go_wp2_with (go_at_call 80;go_must (refine(wj 2 a _).mono ?_;rintro e w' ⟨rfl,rfl⟩))
  exact⟨rfl,rfl,rfl⟩
 ·have hI:24576<=(a:Int):=by omega
  have hI2:¬(a:Int)<16384:=by omega
  clear hr hge
  go_enter Try.func107,Try.ntmps107
  go_wp2_with (go_at_call 80;go_must (refine(wj 2 a _).mono ?_;rintro e w' ⟨rfl,rfl⟩))
  exact⟨rfl,rfl,rfl⟩
theorem vX {w:World}{K:MK}{m:Mach}{ov:Value}(h:MachAt w K m ov)(a:Nat)(ha:a<65536)(hr:wo a=true):Calls Try.prog 107 #[.pointer (some ⟨K.pm,0,none⟩),.int .u16 (a:Int)] w fun e w'=>e=.returned (.pointer (some ⟨K.rb,a-16384,none⟩))/\w=w':=by
 have c6:=h.c6
 clear h
 have hr':=(qG a).1 hr
 have h1:¬(a:Int)<16384:=by omega
 have h2:¬24576<=(a:Int):=by omega
 have h3:0<=(a:Int)-16384:=by omega
 have h4:(a:Int)-16384<8192:=by omega
 have h5:((a:Int)-16384).toNat=a-16384:=by omega
 have H5:=Lib.hid h5
 clear hr hr' h5
 go_enter Try.func107,Try.ntmps107
 go_wp2
 go_ret
 exact⟨rfl,rfl⟩
open Go.RowKit
theorem xY (n:Int):IntKind.u16.wrap n=n%65536:=by rw[IntKind.wrap_u16]
theorem mH (a:Nat)(h:a<65536):IntKind.i16.wrap (a:Int)=s16 a:=by
 unfold s16;show(if(true && decide ((a:Int)%2^16≥(2^15:Int))) then(a:Int)%2^16-2^16 else(a:Int)%2^16)=_;by_cases h2:a<32768
 ·rw[if_neg (by simp;omega),if_pos h2];omega
 ·rw[if_pos (by simp;omega),if_neg h2];omega
theorem ar5 (a b:Nat):IntKind.u16.wrap ((a:Int)+b)=((yW 5 a b:Nat):Int):=by rw[xY];show _=(((a+b)%65536:Nat):Int);omega
theorem ar6 (a b:Nat)(hb:b<65536):IntKind.u16.wrap ((a:Int)-b)=((yW 6 a b:Nat):Int):=by rw[xY];show _=(((a+(65536-b))%65536:Nat):Int);omega
theorem ar7 (a b:Nat):IntKind.u16.wrap ((a:Int)*b)=((yW 7 a b:Nat):Int):=by
 rw[xY];show _=((a*b%65536:Nat):Int);rw[Int.natCast_emod,Int.natCast_mul];rfl
theorem ar8 (a b:Nat)(ha:a<65536):IntKind.u16.wrap ((a:Int)/b)=((yW 8 a b:Nat):Int):=by
 rw[xY];show _=((a/b:Nat):Int);rw[<-Int.natCast_ediv];have:=Nat.div_le_self a b;generalize a/b=x at *;omega
theorem ar9 (a b:Nat)(ha:a<65536)(hb:b<65536):bits .and .u16 (a:Int) b=((yW 9 a b:Nat):Int):=(bits_nat .u16 16 (by decide) wraps_u16 a b ha hb).1
theorem ar10 (a b:Nat)(ha:a<65536)(hb:b<65536):bits .or .u16 (a:Int) b=((yW 10 a b:Nat):Int):=(bits_nat .u16 16 (by decide) wraps_u16 a b ha hb).2
theorem ar11 (a b:Nat)(ha:a<65536)(hb:b<65536):bits .xor .u16 (a:Int) b=((yW 11 a b:Nat):Int):=by
 show IntKind.u16.wrap (((BitVec.ofInt 16 (a:Int))^^^(BitVec.ofInt 16 (b:Int))).toNat:Int)=((a^^^b:Nat):Int)
 have e1:(BitVec.ofInt 16 (a:Int)).toNat=a:=by rw[BitVec.ofInt_natCast,BitVec.toNat_ofNat];exact Nat.mod_eq_of_lt ha
 have e2:(BitVec.ofInt 16 (b:Int)).toNat=b:=by rw[BitVec.ofInt_natCast,BitVec.toNat_ofNat];exact Nat.mod_eq_of_lt hb
 rw[BitVec.toNat_xor,e1,e2,xY]
 have:a^^^b<65536:=Nat.xor_lt_two_pow (n:=16) ha hb
 generalize a^^^b=x at *
 omega
theorem ar12 (a b:Nat):IntKind.u16.wrap ((a:Int)*2^(b%16))=((yW 12 a b:Nat):Int):=by
 rw[xY];show _=((a*2^(b%16)%65536:Nat):Int);rw[Int.natCast_emod,Int.natCast_mul,Int.natCast_pow];rfl
theorem ar13 (a b:Nat):(a:Int)/2^(b%16)=((yW 13 a b:Nat):Int):=by
 show _=((a/2^(b%16):Nat):Int);rw[Int.natCast_ediv,Int.natCast_pow];rfl
theorem ar14 (a b:Nat)(ha:a<65536):IntKind.u16.wrap (IntKind.i16.wrap (a:Int)/2^(b%16))=((yW 14 a b:Nat):Int):=by
 rw[mH a ha,xY];show _=((((s16 a/2^(b%16))%65536).toNat:Nat):Int);omega
theorem ar15 (a b:Nat):(iw ((a:Int)==(b:Int)):Nat)=yW 15 a b:=by
 show _=iw (decide (a=b));congr 1;rw[Bool.eq_iff_iff,beq_iff_eq,decide_eq_true_eq];omega
theorem ar17 (a b:Nat)(ha:a<65536)(hb:b<65536):(iw (decide (IntKind.i16.wrap (a:Int)<IntKind.i16.wrap (b:Int))):Nat)=yW 17 a b:=by
 rw[mH a ha,mH b hb];rfl
theorem jz (c:Int)(a b:Nat)(ha:a<65536)(hb:b<65536):yW c a b<65536:=by
 have hd:∀x,a/x<65536:=fun x=>Nat.lt_of_le_of_lt (Nat.div_le_self _ _) ha
 have hm:∀x,x%65536<65536:=fun x=>Nat.mod_lt _ (by decide)
 have hbt:∀b,iw b<65536:=fun b=>by cases b<;>decide
 unfold yW
 by_cases c5:c=5;· rw[if_pos c5];exact hm _
 rw[if_neg c5];by_cases c6:c=6;· rw[if_pos c6];exact hm _
 rw[if_neg c6];by_cases c7:c=7;· rw[if_pos c7];exact hm _
 rw[if_neg c7];by_cases c8:c=8;· rw[if_pos c8];exact hd _
 rw[if_neg c8];by_cases c9:c=9;· rw[if_pos c9];exact Nat.lt_of_le_of_lt Nat.and_le_left ha
 rw[if_neg c9];by_cases c10:c=10;· rw[if_pos c10];exact Nat.or_lt_two_pow (n:=16) ha hb
 rw[if_neg c10];by_cases c11:c=11;· rw[if_pos c11];exact Nat.xor_lt_two_pow (n:=16) ha hb
 rw[if_neg c11];by_cases c12:c=12;· rw[if_pos c12];exact hm _
 rw[if_neg c12];by_cases c13:c=13;· rw[if_pos c13];exact hd _
 rw[if_neg c13];by_cases c14:c=14;· rw[if_pos c14];omega
 rw[if_neg c14];by_cases c15:c=15;· rw[if_pos c15];exact hbt _
 rw[if_neg c15];by_cases c16:c=16;· rw[if_pos c16];exact hbt _
 rw[if_neg c16];exact hbt _
theorem qD (b:Bool)(w:World):Calls Try.prog 123 #[.bool b] w fun e w'=>e=.returned (.int .u16 (iw b:Nat))/\w=w':=by
 cases b<;>go_enter Try.func123,Try.ntmps123<;>go_wp2<;>go_ret<;>exact⟨rfl,rfl⟩
theorem arith_5 (a b:Nat)(ha:a<65536)(hb:b<65536)(w:World):Calls Try.prog 111 #[.int .i64 5,.int .u16 (a:Int),.int .u16 (b:Int)] w fun e w'=>e=.returned (.int .u16 (yW 5 a b:Nat))/\w=w':=by
 go_enter Try.func111,Try.ntmps111
 go_wp2
 all_goals go_ret
 all_goals refine⟨zh ?_,rfl⟩
 all_goals exact ar5 a b
theorem arith_6 (a b:Nat)(ha:a<65536)(hb:b<65536)(w:World):Calls Try.prog 111 #[.int .i64 6,.int .u16 (a:Int),.int .u16 (b:Int)] w fun e w'=>e=.returned (.int .u16 (yW 6 a b:Nat))/\w=w':=by
 go_enter Try.func111,Try.ntmps111
 go_wp2
 all_goals go_ret
 all_goals refine⟨zh ?_,rfl⟩
 all_goals exact ar6 a b hb
theorem arith_7 (a b:Nat)(ha:a<65536)(hb:b<65536)(w:World):Calls Try.prog 111 #[.int .i64 7,.int .u16 (a:Int),.int .u16 (b:Int)] w fun e w'=>e=.returned (.int .u16 (yW 7 a b:Nat))/\w=w':=by
 go_enter Try.func111,Try.ntmps111
 go_wp2
 all_goals go_ret
 all_goals refine⟨zh ?_,rfl⟩
 all_goals exact ar7 a b
theorem arith_8 (a b:Nat)(ha:a<65536)(hb:b<65536)(h0:b≠0)(w:World):Calls Try.prog 111 #[.int .i64 8,.int .u16 (a:Int),.int .u16 (b:Int)] w fun e w'=>e=.returned (.int .u16 (yW 8 a b:Nat))/\w=w':=by
 have h1:((b:Int)==0)=false:=by rw[beq_eq_false_iff_ne];omega
 have h2:¬(b:Int)=0:=by omega
 clear h0
 go_enter Try.func111,Try.ntmps111
 go_wp2
 all_goals go_ret
 all_goals refine⟨zh ?_,rfl⟩
 all_goals exact ar8 a b ha
theorem arith_80 (a:Nat)(w:World):Calls Try.prog 111 #[.int .i64 8,.int .u16 (a:Int),.int .u16 ((0:Nat):Int)] w fun e w'=>e=.panicked [oE 4 0]/\w=w':=by
 go_enter Try.func111,Try.ntmps111
 go_wp2_with (go_at_call 80;go_must (refine(wj 4 0 _).mono ?_;rintro e w' ⟨rfl,rfl⟩))
 exact⟨rfl,rfl,rfl⟩
theorem arith_9 (a b:Nat)(ha:a<65536)(hb:b<65536)(w:World):Calls Try.prog 111 #[.int .i64 9,.int .u16 (a:Int),.int .u16 (b:Int)] w fun e w'=>e=.returned (.int .u16 (yW 9 a b:Nat))/\w=w':=by
 go_enter Try.func111,Try.ntmps111
 go_wp2
 all_goals go_ret
 all_goals refine⟨zh ?_,rfl⟩
 all_goals exact ar9 a b ha hb
theorem arith_10 (a b:Nat)(ha:a<65536)(hb:b<65536)(w:World):Calls Try.prog 111 #[.int .i64 10,.int .u16 (a:Int),.int .u16 (b:Int)] w fun e w'=>e=.returned (.int .u16 (yW 10 a b:Nat))/\w=w':=by
 go_enter Try.func111,Try.ntmps111
 go_wp2
 all_goals go_ret
 all_goals refine⟨zh ?_,rfl⟩
 all_goals exact ar10 a b ha hb
theorem arith_11 (a b:Nat)(ha:a<65536)(hb:b<65536)(w:World):Calls Try.prog 111 #[.int .i64 11,.int .u16 (a:Int),.int .u16 (b:Int)] w fun e w'=>e=.returned (.int .u16 (yW 11 a b:Nat))/\w=w':=by
 go_enter Try.func111,Try.ntmps111
 go_wp2
 all_goals go_ret
 all_goals refine⟨zh ?_,rfl⟩
 all_goals exact ar11 a b ha hb
theorem arith_12 (a b:Nat)(ha:a<65536)(hb:b<65536)(w:World):Calls Try.prog 111 #[.int .i64 12,.int .u16 (a:Int),.int .u16 (b:Int)] w fun e w'=>e=.returned (.int .u16 (yW 12 a b:Nat))/\w=w':=by
 go_enter Try.func111,Try.ntmps111
 go_wp2
 all_goals go_ret
 all_goals refine⟨zh ?_,rfl⟩
 all_goals exact ar12 a b
theorem arith_13 (a b:Nat)(ha:a<65536)(hb:b<65536)(w:World):Calls Try.prog 111 #[.int .i64 13,.int .u16 (a:Int),.int .u16 (b:Int)] w fun e w'=>e=.returned (.int .u16 (yW 13 a b:Nat))/\w=w':=by
 go_enter Try.func111,Try.ntmps111
 go_wp2
 all_goals go_ret
 all_goals refine⟨zh ?_,rfl⟩
 all_goals exact ar13 a b
theorem arith_14 (a b:Nat)(ha:a<65536)(hb:b<65536)(w:World):Calls Try.prog 111 #[.int .i64 14,.int .u16 (a:Int),.int .u16 (b:Int)] w fun e w'=>e=.returned (.int .u16 (yW 14 a b:Nat))/\w=w':=by
 go_enter Try.func111,Try.ntmps111
 go_wp2
 all_goals go_ret
 all_goals refine⟨zh ?_,rfl⟩
 all_goals exact ar14 a b ha
theorem arith_15 (a b:Nat)(ha:a<65536)(hb:b<65536)(w:World):Calls Try.prog 111 #[.int .i64 15,.int .u16 (a:Int),.int .u16 (b:Int)] w fun e w'=>e=.returned (.int .u16 (yW 15 a b:Nat))/\w=w':=by
 go_enter Try.func111,Try.ntmps111
 go_wp2_with (go_at_call 123;go_must (refine(qD _ _).mono ?_;rintro e w' ⟨rfl,rfl⟩))
 all_goals go_ret
 all_goals refine⟨zh ?_,rfl⟩
 all_goals exact congrArg _ (ar15 a b)
theorem arith_16 (a b:Nat)(ha:a<65536)(hb:b<65536)(w:World):Calls Try.prog 111 #[.int .i64 16,.int .u16 (a:Int),.int .u16 (b:Int)] w fun e w'=>e=.returned (.int .u16 (yW 16 a b:Nat))/\w=w':=by
 go_enter Try.func111,Try.ntmps111
 go_wp2_with (go_at_call 123;go_must (refine(qD _ _).mono ?_;rintro e w' ⟨rfl,rfl⟩))
 all_goals go_ret
 all_goals refine⟨zh ?_,rfl⟩
 all_goals exact rfl
theorem arith_17 (a b:Nat)(ha:a<65536)(hb:b<65536)(w:World):Calls Try.prog 111 #[.int .i64 17,.int .u16 (a:Int),.int .u16 (b:Int)] w fun e w'=>e=.returned (.int .u16 (yW 17 a b:Nat))/\w=w':=by
 go_enter Try.func111,Try.ntmps111
 go_wp2_with (go_at_call 123;go_must (refine(qD _ _).mono ?_;rintro e w' ⟨rfl,rfl⟩))
 all_goals go_ret
 all_goals refine⟨zh ?_,rfl⟩
 all_goals exact congrArg _ (ar17 a b ha hb)
def rq (c:Int)(a b:Nat)(w:World)(e:Ending)(w':World):Prop:=e=(if c=8/\b=0 then .panicked [oE 4 0] else .returned (.int .u16 (yW c a b:Nat)))/\w=w'
theorem jD (c:Int)(hc:5<=c/\c<=17)(a b:Nat)(ha:a<65536)(hb:b<65536)(w:World):Calls Try.prog 111 #[.int .i64 c,.int .u16 (a:Int),.int .u16 (b:Int)] w (rq c a b w):=by
 unfold rq
 have h:c=5∨c=6∨c=7∨c=8∨c=9∨c=10∨c=11∨c=12∨c=13∨c=14∨c=15∨c=16∨c=17:=by omega
 rcases h with rfl|rfl|rfl|rfl|rfl|rfl|rfl|rfl|rfl|rfl|rfl|rfl|rfl
 ·rw[if_neg (by omega)];exact arith_5 a b ha hb w
 ·rw[if_neg (by omega)];exact arith_6 a b ha hb w
 ·rw[if_neg (by omega)];exact arith_7 a b ha hb w
 ·by_cases h0:b=0
  ·subst h0;rw[if_pos ⟨rfl,rfl⟩];exact arith_80 a w
  ·rw[if_neg (fun h=>h0 h.2)];exact arith_8 a b ha hb h0 w
 ·rw[if_neg (by omega)];exact arith_9 a b ha hb w
 ·rw[if_neg (by omega)];exact arith_10 a b ha hb w
 ·rw[if_neg (by omega)];exact arith_11 a b ha hb w
 ·rw[if_neg (by omega)];exact arith_12 a b ha hb w
 ·rw[if_neg (by omega)];exact arith_13 a b ha hb w
 ·rw[if_neg (by omega)];exact arith_14 a b ha hb w
 ·rw[if_neg (by omega)];exact arith_15 a b ha hb w
 ·rw[if_neg (by omega)];exact arith_16 a b ha hb w
 ·rw[if_neg (by omega)];exact arith_17 a b ha hb w
open Go.RowKit
theorem kh {w:World}{K:MK}{m:Mach}{ov:Value}(h:MachAt w K m ov)(bank a:Nat)(hb:bank<65536)(ha:a<65536)(hr:sJ K.E bank a=false):
 Calls Try.prog 108 #[.pointer (some ⟨K.pm,0,none⟩),.int .u16 (bank:Int),.int .u16 (a:Int)] w fun e w'=>e=.panicked [oE 2 a]/\w=w':=by
 have c5:=h.c5
 obtain⟨ba,bc,hbv,hbc,hbm⟩:=h.prog.banks.form
 rw[hbv] at c5
 have hr':¬(bank<K.E.p.banks.length/\a<4096):=by
  intro hc;unfold sJ at hr;rw[decide_eq_true hc.1,decide_eq_true hc.2] at hr;cases hr
 clear h hbv hr
 by_cases h1:bank<K.E.p.banks.length
 ·have h1I:¬(K.E.p.banks.length:Int)<=bank:=by omega
  have h2I:4096<=(a:Int):=by omega
  clear hr' h1
  go_enter Try.func108,Try.ntmps108
  go_wp2_with (go_at_call 80;go_must (refine(wj 2 a _).mono ?_;rintro e w' ⟨rfl,rfl⟩))
  exact⟨rfl,rfl,rfl⟩
 ·have h1I:(K.E.p.banks.length:Int)<=bank:=by omega
  clear hr' h1
  go_enter Try.func108,Try.ntmps108
  go_wp2_with (go_at_call 80;go_must (refine(wj 2 a _).mono ?_;rintro e w' ⟨rfl,rfl⟩))
  exact⟨rfl,rfl,rfl⟩
theorem iH (E:IEnv)(bank a:Nat):sJ E bank a=true↔bank<E.p.banks.length/\a<4096:=by unfold sJ;rw[Bool.and_eq_true,decide_eq_true_eq,decide_eq_true_eq]
theorem p8 {w:World}{K:MK}{m:Mach}{ov:Value}(h:MachAt w K m ov)(hbk:∀s∈K.E.p.banks,s.size=4096)(bank a:Nat)(hb:bank<65536)(ha:a<65536)(hr:sJ K.E bank a=true):
 Calls Try.prog 108 #[.pointer (some ⟨K.pm,0,none⟩),.int .u16 (bank:Int),.int .u16 (a:Int)] w fun e w'=>e=.returned (.int .u16 (tS K.E bank a:Nat))/\w=w':=by
 have c5:=h.c5
 have hbs:=h.prog.banks
 obtain⟨ba,bc,hbv,hbc,hbm⟩:=hbs.form
 rw[hbv] at c5 hbs
 obtain⟨h1,h2⟩:=(iH _ _ _).1 hr
 obtain⟨s,hs⟩:∃s,K.E.p.banks[bank]? =some s:=⟨_,List.getElem?_eq_getElem h1⟩
 obtain⟨b,o,rfl,_,hcell,_⟩:=hbs.get hs
 rw[Nat.mul_one] at hcell
 have hsz:=hbk s (List.mem_of_getElem? hs)
 have hat:tS K.E bank a=(s.data.getD a 0).toNat:=by unfold tS;rw[List.getD_eq_getElem?_getD,hs];rfl
 rw[hat]
 have h1I:¬(K.E.p.banks.length:Int)<=bank:=by omega
 have h1J:(bank:Int)<K.E.p.banks.length:=by omega
 have h2I:¬4096<=(a:Int):=by omega
 have has:a<s.size:=by omega
 have hasI:(a:Int)<s.size:=by omega
 have HSZ:=Lib.hid hsz
 clear h hbv hr hs hat hbs h1 h2 hbk hsz
 go_enter Try.func108,Try.ntmps108
 go_wp2
 go_ret
 refine⟨zh ?_,rfl⟩
 have:=s.data[a].toNat_lt
 rw[xY]
 show((s.data[a].toNat:Nat):Int)%65536=((s.data[a].toNat:Nat):Int)
 omega
theorem jA {w:World}{K:MK}{m:Mach}{ov:Value}(h:MachAt w K m ov):
 Calls Try.prog 109 #[.pointer (some ⟨K.pm,0,none⟩)] w fun e w'=>e=endOf (uq K.E m)/\MachAt w' K (uq K.E m).mach ov/\Frm K.B w w':=by
 have c7:=h.c7
 have c11:=h.c11
 have hin:=h.inn
 obtain⟨ia,ic,hiv,hic,him⟩:=hin.form
 rw[hiv] at c7 hin
 have HH:=Lib.hid h
 have hil:=h.inp
 have HIV:=Lib.hid hiv
 clear h hiv
 by_cases hlt:m.inputs<K.E.inn.length
 ·obtain⟨x,hx⟩:∃x,K.E.inn[m.inputs]? =some x:=⟨_,List.getElem?_eq_getElem hlt⟩
  obtain⟨b,o,rfl,hbl,hcell,hxl⟩:=hin.get hx
  have HBL:=Lib.hid hbl
  clear hbl
  rw[Nat.mul_one] at hcell
  have hI:¬(K.E.inn.length:Int)<=m.inputs:=by omega
  have hJ:(m.inputs:Int)<K.E.inn.length:=by omega
  have e:uq K.E m=.ok x {m with inputs:=m.inputs+1 }:=by unfold uq;rw[if_pos hlt,List.getD_eq_getElem?_getD,hx];rfl
  rw[e]
  have f11:=HH.out.free 11
  have HLT:=Lib.hid hlt
  have hcap:K.E.inn.length<=9223372036854775807:=by omega
  clear e hin hlt hx hil
  go_enter Try.func109,Try.ntmps109
  go_upto_region 1 with fail
  go_cut [13] (fun v wx=>v=.bool false/\∃n,wx=w.drewN n)
  case first=>
   go_quiet (fail)
   go_wp2
   go_meet
   exact⟨rfl,_,rfl⟩
  case rest=>
   obtain⟨rfl,n,rfl⟩:=hcut
   have h1:=(HH.out.drewN n).setI HLT.out HH.out.ne
   have hF:Frm K.B w ((w.drewN n).setCell ⟨K.pm,11,none⟩ (.int .i64 ((m.inputs:Int)+1))):=(Frm.refl _ _).drewN.trans ((HH.out.drewN n).frm 11 _)
   have d7:(w.drewN n).cell? ⟨K.pm,7,none⟩=_:=c7
   have d11:(w.drewN n).cell? ⟨K.pm,11,none⟩=_:=c11
   have d11f:(w.drewN n).frozen? ⟨K.pm,11,none⟩=false:=f11
   have e7:=h1.c7
   rw[HIV.out] at e7
   have e11:=h1.c11
   have hcell2:=(hF.below.cell (p:=⟨b,o+m.inputs,none⟩) HBL.out).trans hcell
   have hwr:IntKind.i64.wrap (((m.inputs+1:Nat):Int)-1)=(m.inputs:Int):=by rw[show(((m.inputs+1:Nat):Int)-1)=(m.inputs:Int) by omega];exact IntWalk.i64_in _ (by omega)
   have H1:=Lib.hid h1
   have HF:=Lib.hid hF
   clear h1 hF c7 c11 f11
   go_upto_region 4 with fail
   generalize (w.drewN n).setCell ⟨K.pm,11,none⟩ (.int .i64 ((m.inputs:Int)+1))=W2 at *
   go_quiet (fail)
   go_wp2
   go_ret
   exact⟨rfl,H1.out.drewN _,HF.out.drewN⟩
 ·have hI:(K.E.inn.length:Int)<=m.inputs:=by omega
  have e:uq K.E m=.ok 0 m:=by unfold uq;rw[if_neg hlt]
  rw[e]
  clear e hin hlt
  go_enter Try.func109,Try.ntmps109
  go_wp2
  go_quiet (fail)
  go_wp2
  go_ret
  exact⟨rfl,HH.out.drewN _,(Frm.refl _ _).drewN⟩
open Go.RowKit Go.Maps
theorem xH:Keyed Try.prog 3:=int_keyed Try.underlying3
theorem wf64' {x:Int}(h:I64 x):(Lit.int .i64 x).wf=true:=by unfold I64 at h;simp[Lit.wf,IntKind.min,IntKind.max,IntKind.signed,IntKind.bits];omega
theorem wfU16 {x:Nat}(h:x<65536):(Lit.int .u16 (x:Int)).wf=true:=by simp[Lit.wf,IntKind.min,IntKind.max,IntKind.signed,IntKind.bits];omega
theorem vB {x:Int}(h:I64 x):keyOf Try.prog 3 (.int .i64 x)=some (.int .i64 x):=keyOf_int_mk Try.underlying3 (wf64' h)
theorem zeroU16 (w:World):(zeroValue 39).run Try.prog w=.ok (.int .u16 0) w:=by kernel_rfl
def xO (w:World)(b n:Nat)(f:Int->Nat):Prop:=
 (∃D:DataW Unit,w.ownsMap Try.prog 3 (plainElem Try.prog 39) b n D/\∀x,(Lit.int .i64 x).wf=true->D.atKey (.int .i64 x) (.lit (.int .u16 0))=.lit (.int .u16 (f x:Int)))/\∀x,f x<65536
theorem xO.made (w:World):xO (w.alloc (.map #[] 0)) w.heap.size 0 (fun _=>0):=⟨⟨_,World.ownsMap_made _ _ _ _,fun _ _=>rfl⟩,fun _=>by show 0<65536;decide⟩
theorem xO.blk {w:World}{b n:Nat}{f:Int->Nat}(h:xO w b n f):∃es clock,w.heap[b]? =some (.map es clock):=by
 obtain⟨⟨D,⟨es,clock,h1,h2⟩,h3⟩,h4⟩:=h;exact⟨es,clock,h1⟩
theorem xO.same {w w':World}{b n:Nat}{f:Int->Nat}(h:xO w b n f)(hb:w'.heap[b]? =w.heap[b]?):xO w' b n f:=by
 obtain⟨⟨D,⟨es,clock,h1,h2⟩,h3⟩,h4⟩:=h
 exact⟨⟨D,⟨es,clock,hb.trans h1,h2⟩,h3⟩,h4⟩
theorem xO.kept {B:Nat}{w w':World}{b n:Nat}{f:Int->Nat}(h:xO w b n f)(hF:Frm B w w'):xO w' b n f:=by
 obtain⟨es,clock,he⟩:=h.blk
 exact h.same ((hF.kept _ _ he trivial).trans he.symm)
theorem xO.look {w:World}{b n:Nat}{f:Int->Nat}(h:xO w b n f){x:Int}(hx:I64 x):
 (Instr.lookup 144 (.map (some b)) (.int .i64 x) false).run Try.prog w=.ok (.int .u16 (f x:Nat)) w:=by
 obtain⟨⟨D,h,hf⟩,_⟩:=h
 obtain⟨c,hrun,hat,hwc⟩:=h.lookup_int xH Try.underlying144 Try.underlying39 (zeroU16 w) (vB hx)
 rw[hf x (wf64' hx)] at hat
 simp only[DataW.lit.injEq,Lit.int.injEq,true_and] at hat
 subst hat
 exact hrun
theorem us {ops:Array Oper}{rest:List Oper}{o:Oper}{a:Act}{Q:Exit->Act->World->Prop}{w:World}(hg:o.guard=none)(m x v:Operand)
 (hop:o.op=.mapUpdate 144 m x v) {b n:Nat} {f:Int->Nat} (h:xO w b n f) (hn:n<9000000000000000000) (kx:Int) (vv:Nat) (hm:a.eval m=.map (some b)) (hx:a.eval x=.int .i64 kx) (hv:a.eval v=.int .u16 (vv:Int))
 (hkx:I64 kx) (hvv:vv<65536)
 (hK:∀w',xO w' b (n+1) (iY f kx vv)->w.grownBy w' (some b)->wpList Try.prog ops Q rest (a.put o.dst undef) w'):wpList Try.prog ops Q (o::rest) a w:=by
 obtain⟨⟨D,h,hf⟩,hlt⟩:=h
 refine wpList_mapUpdate_own (H:=Unit) w hg m x v 144 hop 3 39 xH Try.underlying144 _ b n D hm h (by unfold maxLen;omega) _ _ _ hx hv (vB hkx) _ [] (plainElem_int Try.underlying39 (wfU16 hvv)) ?_
 intro w1 hown hgrow
 refine hK w1 ⟨⟨_,hown,fun y hy=>?_⟩,fun y=>?_⟩ hgrow
 ·have hkl:WideAt.IsKeyLit (.int .i64 kx):=xH.key (vB hkx)
  by_cases e:y=kx
  ·subst e;simp only[iY,if_true];exact Maps.atKey_put_same h.isMap hkl _ _
  ·simp only[iY,if_neg e]
   rw[Maps.atKey_put_other (by simpa using e)]
   exact hf y hy
 ·unfold iY;split
  ·exact hvv
  ·exact hlt y
open Go.RowKit
def jk (w:World)(B:Nat)(x:IEdge)(e:Ending)(w':World):Prop:=∃av,e=.returned (.agg #[.int .i64 x.block,av])/\zY w B av x.args/\I64 x.block/\Below w.heap.size w w'
theorem edge_any {w:World}{B:Nat}{t:ITerm}{blocks:List IBlk}{tv:Value}(ht:wH w B tv t.to)(hk:I64 t.kind)(hB:B<=w.heap.size)(ho:mo blocks t)(h4:t.kind≠4)(h5:t.kind≠5)(a:Nat)(ha:a<65536):
 Calls Try.prog 83 #[.agg #[.int .i64 t.kind,.int .i64 t.a,tv],.int .u16 (a:Int)] w (jk w B (wK t a)):=by
 obtain⟨ta,tc,rfl,htc,htm⟩:=ht.form
 obtain⟨h0,h1,h2,h3,_⟩:=ho
 have get:∀k,k<t.to.length->∃b o ab ac,ta=some ⟨b,o,none⟩/\b<B/\w.cell? ⟨b,o+k*2,none⟩=some (.int .i64 (t.to.getD k ⟨0,[]⟩).block)/\w.cell? ⟨b,o+k*2+1,none⟩=some (.slice ab (t.to.getD k ⟨0,[]⟩).args.length ac)/\zY w B (.slice ab (t.to.getD k ⟨0,[]⟩).args.length ac) (t.to.getD k ⟨0,[]⟩).args/\I64 (t.to.getD k ⟨0,[]⟩).block:=fun k hk=>by
  have e:t.to.getD k ⟨0,[]⟩=t.to[k]:=by rw[List.getD_eq_getElem?_getD,List.getElem?_eq_getElem hk];rfl
  obtain⟨b,o,hb1,hb2,hc1,hc2,av,hc3,hc4⟩:=ht.get (List.getElem?_eq_getElem hk)
  obtain⟨ab,ac,rfl,_,_⟩:=hc4.form
  rw[e]
  exact⟨b,o,ab,ac,hb1,hb2,hc1,hc3,hc4,hc2⟩
 have GET:=Lib.hid get
 clear get ht
 have hfin:∀(x:IEdge) (av:Value) (w':World),zY w B av x.args->I64 x.block->Below w.heap.size w w'->jk w B x (.returned (.agg #[.int .i64 x.block,av])) w':=fun x av w' h1 h2 h3=>⟨av,rfl,h1,h2,h3⟩
 have HFIN:=Lib.hid hfin
 clear hfin
 by_cases c2:t.kind=2
 ·have l2:=h2 c2
  by_cases c0:a=0
  ·have e:wK t a=t.to.getD 1 ⟨0,[]⟩:=by unfold wK;rw[if_pos ⟨c2,c0⟩]
   rw[e]
   obtain⟨b,o,ab,ac,rfl,hbB,k1,k2,k3,k4⟩:=GET.out 1 (by omega)
   generalize t.to.getD 1 ⟨0,[]⟩=x at *
   have q1:(w.cell? ⟨b,o+2,none⟩)=_:=k1
   have q2:(w.cell? ⟨b,o+2+1,none⟩)=_:=k2
   have hbw:b<w.heap.size:=by omega
   have K3:=Lib.hid (And.intro k3 k4)
   have hI:(1:Int)<t.to.length:=by omega
   subst c0
   rw[c2]
   try simp only[Nat.zero_mul,Nat.add_zero] at q1 q2
   clear h0 h1 h2 h3 k1 k2 k3 k4 e
   go_enter Try.func83,Try.ntmps83
   go_wp2
   refine bodyPost_ret (v:=.agg #[.int .i64 x.block,.slice ab x.args.length ac]) (by simp[results,Try.results83,go_sem]) rfl ?_
   exact HFIN.out _ _ _ K3.out.1 K3.out.2 (by repeat' (first|exact Below.refl _ _|(refine Below.alloc ?_ (by simp<;>omega) _)|(refine Below.setCell ?_ (by simp) _)))
  ·have e:wK t a=t.to.getD 0 ⟨0,[]⟩:=by unfold wK;rw[if_neg (fun h=>c0 h.2),if_neg (by omega)]
   rw[e]
   obtain⟨b,o,ab,ac,rfl,hbB,k1,k2,k3,k4⟩:=GET.out 0 (by omega)
   generalize t.to.getD 0 ⟨0,[]⟩=x at *
   have q1:(w.cell? ⟨b,o+0*2,none⟩)=_:=k1
   have q2:(w.cell? ⟨b,o+0*2+1,none⟩)=_:=k2
   have hbw:b<w.heap.size:=by omega
   have K3:=Lib.hid (And.intro k3 k4)
   have hI:(0:Int)<t.to.length:=by omega
   have ha0:((a:Int)==0)=false:=by rw[beq_eq_false_iff_ne];omega
   rw[c2]
   try simp only[Nat.zero_mul,Nat.add_zero] at q1 q2
   clear h0 h1 h2 h3 k1 k2 k3 k4 e
   go_enter Try.func83,Try.ntmps83
   go_wp2
   refine bodyPost_ret (v:=.agg #[.int .i64 x.block,.slice ab x.args.length ac]) (by simp[results,Try.results83,go_sem]) rfl ?_
   exact HFIN.out _ _ _ K3.out.1 K3.out.2 (by repeat' (first|exact Below.refl _ _|(refine Below.alloc ?_ (by simp<;>omega) _)|(refine Below.setCell ?_ (by simp) _)))
 ·by_cases c3:t.kind=3
  ·have e:wK t a=t.to.getD (min a (t.to.length-1)) ⟨0,[]⟩:=by unfold wK;rw[if_neg (fun h=>c2 h.1),if_pos c3]
   have l3:=h3 c3
   rw[e]
   obtain⟨i,hi⟩:∃i,min a (t.to.length-1)=i:=⟨_,rfl⟩
   rw[hi]
   have hil:i<t.to.length:=by omega
   have him:(i:Int)=if(t.to.length:Int)-1<(a:Int) then(t.to.length:Int)-1 else(a:Int):=by split<;>omega
   have hmin:∀(ts:Array TypeId) (t2:TypeId) (W:World),(Builtin.min_ ts t2 #[.int .i64 (a:Int),.int .i64 ((t.to.length:Int)-1)]).run Try.prog W=.ok (.int .i64 (i:Int)) W:=fun ts t2 W=>by rw[him];exact run_min_int2 ..
   have htl:0<=(t.to.length:Int)-1:=by omega
   clear him
   obtain⟨b,o,ab,ac,rfl,hbB,k1,k2,k3,k4⟩:=GET.out i hil
   generalize t.to.getD i ⟨0,[]⟩=x at *
   have q1:(w.cell? ⟨b,o+i*2,none⟩)=_:=k1
   have q2:(w.cell? ⟨b,o+i*2+1,none⟩)=_:=k2
   have hbw:b<w.heap.size:=by omega
   have K3:=Lib.hid (And.intro k3 k4)
   have hI:(i:Int)<t.to.length:=by omega
   rw[c3]
   try simp only[Nat.zero_mul,Nat.add_zero] at q1 q2
   clear h0 h1 h2 h3 k1 k2 k3 k4 e
   go_enter Try.func83,Try.ntmps83
   go_wp2
   refine bodyPost_ret (v:=.agg #[.int .i64 x.block,.slice ab x.args.length ac]) (by simp[results,Try.results83,go_sem]) rfl ?_
   exact HFIN.out _ _ _ K3.out.1 K3.out.2 (by repeat' (first|exact Below.refl _ _|(refine Below.alloc ?_ (by simp<;>omega) _)|(refine Below.setCell ?_ (by simp) _)))
  ·have e:wK t a=t.to.getD 0 ⟨0,[]⟩:=by unfold wK;rw[if_neg (fun h=>c2 h.1),if_neg c3]
   have c1:t.kind=1:=by omega
   have l1:=h1 c1
   rw[e]
   obtain⟨b,o,ab,ac,rfl,hbB,k1,k2,k3,k4⟩:=GET.out 0 (by omega)
   generalize t.to.getD 0 ⟨0,[]⟩=x at *
   have q1:(w.cell? ⟨b,o+0*2,none⟩)=_:=k1
   have q2:(w.cell? ⟨b,o+0*2+1,none⟩)=_:=k2
   have hbw:b<w.heap.size:=by omega
   have K3:=Lib.hid (And.intro k3 k4)
   have hI:(0:Int)<t.to.length:=by omega
   rw[c1]
   try simp only[Nat.zero_mul,Nat.add_zero] at q1 q2
   clear h0 h1 h2 h3 k1 k2 k3 k4 e
   go_enter Try.func83,Try.ntmps83
   go_wp2
   refine bodyPost_ret (v:=.agg #[.int .i64 x.block,.slice ab x.args.length ac]) (by simp[results,Try.results83,go_sem]) rfl ?_
   exact HFIN.out _ _ _ K3.out.1 K3.out.2 (by repeat' (first|exact Below.refl _ _|(refine Below.alloc ?_ (by simp<;>omega) _)|(refine Below.setCell ?_ (by simp) _)))
open Go.RowKit Go.Maps
theorem px (w:World):(zeroValue 3).run Try.prog w=.ok (.int .i64 0) w:=by kernel_rfl
def wA (w:World)(b n:Nat)(g:Int->Option Int):Prop:=
 ∃D:DataW Unit,w.ownsMap Try.prog 3 (plainElem Try.prog 3) b n D/\∀x,I64 x->D.atKey (.int .i64 x) (.lit (.int .i64 0))=.lit (.int .i64 ((g x).getD 0))/\Maps.has D (.int .i64 x)=(g x).isSome
theorem wA.made (w:World):wA (w.alloc (.map #[] 0)) w.heap.size 0 (fun _=>none):=⟨_,World.ownsMap_made _ _ _ _,fun _ _=>⟨rfl,rfl⟩⟩
theorem wA.blk {w:World}{b n:Nat}{g:Int->Option Int}(h:wA w b n g):∃es clock,w.heap[b]? =some (.map es clock):=by
 obtain⟨D,⟨es,clock,h1,h2⟩,h3⟩:=h;exact⟨es,clock,h1⟩
theorem wA.same {w w':World}{b n:Nat}{g:Int->Option Int}(h:wA w b n g)(hb:w'.heap[b]? =w.heap[b]?):wA w' b n g:=by
 obtain⟨D,⟨es,clock,h1,h2⟩,h3⟩:=h
 exact⟨D,⟨es,clock,hb.trans h1,h2⟩,h3⟩
theorem wA.look {w:World}{b n:Nat}{g:Int->Option Int}(h:wA w b n g){x:Int}(hx:I64 x):
 (Instr.lookup 126 (.map (some b)) (.int .i64 x) false).run Try.prog w=.ok (.int .i64 ((g x).getD 0)) w:=by
 obtain⟨D,h,hf⟩:=h
 obtain⟨c,hrun,hat,hwc⟩:=h.lookup_int xH Try.underlying126 Try.underlying3 (px w) (vB hx)
 rw[(hf x hx).1] at hat
 simp only[DataW.lit.injEq,Lit.int.injEq,true_and] at hat
 subst hat
 exact hrun
theorem wA.lookOk {w:World}{b n:Nat}{g:Int->Option Int}(h:wA w b n g){x:Int}(hx:I64 x):
 (Instr.lookup 126 (.map (some b)) (.int .i64 x) true).run Try.prog w=.ok (.tuple #[.int .i64 ((g x).getD 0),.bool (g x).isSome]) w:=by
 obtain⟨D,h,hf⟩:=h
 obtain⟨v,ps,hrun,hv⟩:=h.look_ok xH Try.underlying126 (px w) (plainElem_int Try.underlying3 (by decide)) (vB hx)
 rw[(hf x hx).1] at hv
 obtain⟨c,rfl,hc,_⟩:=plainElem_int_inv Try.underlying3 hv
 simp only[Prod.mk.injEq,DataW.lit.injEq,Lit.int.injEq,true_and] at hc
 rw[(hf x hx).2,<-hc.1] at hrun
 exact hrun
def lS (g:Int->Option Int)(x v:Int):Int->Option Int:=fun y=>if y=x then some v else g y
def opF (p:IProg)(o:IOp):Bool:=
 (zi o.code).is &&
  (if o.code=26 then decide (0<=o.a) && decide (o.a<p.funcs.length) && decide ((o.args.length:Int)=p.args.getD o.a.toNat 0) && decide (-1<=o.res) && decide (o.b=0) && decide (o.n=0)
   else if o.code=2 then decide (0<=o.a) && decide (o.a<p.data.length) && decide (0<=o.res) && decide (o.b=0) && decide (o.args.length=0)
   else decide ((zi o.code).res=decide (0<=o.res)) && decide (-1<=o.res) && ((zi o.code).a||decide (o.a=0)) && ((zi o.code).b||decide (o.b=0)) && ((zi o.code).n||decide (o.n=0)) && decide (o.args.length=0) &&
    (decide (o.code≠24) && decide (o.code≠25)||decide (1<=o.n) && decide (o.n<=255)))
def uM (blocks:List IBlk)(e:IEdge):Bool:=decide (1<=e.block) && decide (e.block<blocks.length) && decide (e.args.length=(xz blocks e.block).params.length)
def wn (blocks:List IBlk)(t:ITerm):Bool:=
 t.to.all (uM blocks) &&
  (if t.kind=1 then decide (t.to.length=1) && decide (t.a=0)
   else if t.kind=2 then decide (t.to.length=2)
   else if t.kind=3 then decide (1<=t.to.length)
   else if t.kind=4 then decide (t.to.length=0)
   else if t.kind=5 then decide (t.to.length=0) && decide (t.a=0)
   else false)
abbrev wO:=(Int->Option Int)×(Int->Option Int)
def rB (d:wO)(v i k:Int):Option wO:=if(d.1 v).isSome∨v<0∨65535<v then none else some (lS d.1 v i,lS d.2 v k)
def vJ (i:Int):List Int->wO->Option wO
 | [],d=>some d
 |v::vs,d=>(rB d v i (-1)).bind (vJ i vs)
def sS (p:IProg)(i:Int):List IOp->Int->wO->Option wO
 | [],_,d=>some d
 |o::os,k,d=>if opF p o then(if 0<=o.res then(rB d o.res i k).bind (sS p i os (k+1)) else sS p i os (k+1) d) else none
def pS (p:IProg)(blocks:List IBlk)(i:Int)(b:IBlk)(d:wO):Option wO:=
 ((vJ i b.params d).bind (sS p i b.ops 0)).bind fun d'=>if wn blocks b.term then some d' else none
def uH (p:IProg)(blocks:List IBlk):List IBlk->Int->wO->Option wO
 | [],_,d=>some d
 |b::bs,i,d=>(pS p blocks i b d).bind (uH p blocks bs (i+1))
def wg (p:IProg)(blocks:List IBlk):Option wO:=uH p blocks blocks 0 (fun _=>none,fun _=>none)
theorem opF_ok {p:IProg}{o:IOp}(h:opF p o=true):OkOp p o:=by
 unfold opF at h
 rw[Bool.and_eq_true] at h
 obtain⟨h1,h2⟩:=h
 refine⟨?_,?_,?_⟩
 ·have:=rJ o.code
  rcases this with⟨h,e⟩|⟨h,e⟩|⟨h,e⟩|⟨h,e⟩|⟨h,e⟩|⟨h,e⟩|⟨h,e⟩|⟨h,e⟩
  all_goals first|omega|(rw[e] at h1;exact absurd h1 (by decide))
 ·intro h
  rw[if_neg (by omega),if_pos h] at h2
  simp only[Bool.and_eq_true,decide_eq_true_eq] at h2
  omega
 ·intro h
  rw[if_pos h] at h2
  simp only[Bool.and_eq_true,decide_eq_true_eq] at h2
  omega
theorem termF_ok {blocks:List IBlk}{t:ITerm}(h:wn blocks t=true):mo blocks t:=by
 unfold wn at h
 rw[Bool.and_eq_true,List.all_eq_true] at h
 obtain⟨h1,h2⟩:=h
 have hk:t.kind=1/\t.to.length=1∨t.kind=2/\t.to.length=2∨t.kind=3/\1<=t.to.length∨t.kind=4∨t.kind=5:=by
  by_cases k1:t.kind=1
  ·rw[if_pos k1] at h2;simp only[Bool.and_eq_true,decide_eq_true_eq] at h2;exact .inl ⟨k1,h2.1⟩
  by_cases k2:t.kind=2
  ·rw[if_neg k1,if_pos k2] at h2;simp only[decide_eq_true_eq] at h2;exact .inr (.inl ⟨k2,h2⟩)
  by_cases k3:t.kind=3
  ·rw[if_neg k1,if_neg k2,if_pos k3] at h2;simp only[decide_eq_true_eq] at h2;exact .inr (.inr (.inl ⟨k3,h2⟩))
  by_cases k4:t.kind=4
  ·exact .inr (.inr (.inr (.inl k4)))
  by_cases k5:t.kind=5
  ·exact .inr (.inr (.inr (.inr k5)))
  rw[if_neg k1,if_neg k2,if_neg k3,if_neg k4,if_neg k5] at h2
  cases h2
 refine⟨by omega,by omega,by omega,by omega,fun e he=>?_⟩
 have:=h1 e he
 unfold uM at this
 simp only[Bool.and_eq_true,decide_eq_true_eq] at this
 omega
open Go.RowKit Go.Maps Go.ChangeMaps
theorem wA.entry {w:World}{b n:Nat}{g:Int->Option Int}(h:wA w b n g)(hn:n<9000000000000000000){kx vv:Int}(hkx:I64 kx)(hvv:I64 vv)(hno:g kx=none):
 ∃(st:Nat) (w1 w2:World),(Instr.mapEntry 126 (.map (some b)) (.int .i64 kx)).run Try.prog w=.ok (.tuple #[.int .i64 0,goInt st]) w1/\w.grownBy w1 (some b)/\
  (Instr.entryStore 126 (.map (some b)) (goInt st) (.int .i64 vv)).run Try.prog w1=.ok () w2/\wA w2 b (n+1) (lS g kx vv)/\w.grownBy w2 (some b):=by
 have hlook:=h.lookOk hkx
 rw[hno] at hlook
 have hput:∃w',(Instr.mapUpdate 126 (.map (some b)) (.int .i64 kx) (.int .i64 vv)).run Try.prog w=.ok () w'/\wA w' b (n+1) (lS g kx vv)/\w.grownBy w' (some b):=by
  obtain⟨D,h,hf⟩:=h
  obtain⟨w',hrun,hown,hgrow⟩:=h.update xH Try.underlying126 (by unfold maxLen;omega) (vB hkx) (plainElem_int Try.underlying3 (wf64' hvv))
  refine⟨w',hrun,⟨_,hown,fun y hy=>?_⟩,hgrow⟩
  have hkl:WideAt.IsKeyLit (.int .i64 kx):=xH.key (vB hkx)
  by_cases e:y=kx
  ·subst e;simp only[lS,if_true]
   exact⟨Maps.atKey_put_same h.isMap hkl _ _,Maps.has_put_same h.isMap hkl _⟩
  ·simp only[lS,if_neg e]
   rw[Maps.atKey_put_other (by simpa using e),Maps.has_put_other (by simpa using e)]
   exact hf y hy
 obtain⟨w3,hrun3,hP,hgrow⟩:=hput
 obtain⟨D,h,hf⟩:=h
 obtain⟨es,clock,hb,F,hs,rfl⟩:=h
 obtain⟨s1,s2,_⟩:=F.stamped
 rcases xH.find w (vB hkx) es.toList F.keys with⟨h1,h2⟩|⟨j,e0,h1,h2,h3⟩
 ·have hidx:(es.push ⟨.int .i64 kx,.int .i64 0,clock⟩).findIdx? (fun e=>((e.born:Nat):Int)==((clock:Nat):Int))=some es.size:=by
   rw[WideElems.findIdx_arr]
   refine WideElems.findIdx_born (l:=(es.push ⟨.int .i64 kx,.int .i64 0,clock⟩).toList) (j:=es.size) (e0:=⟨.int .i64 kx,.int .i64 0,clock⟩) ?_ (by simp)
   simp only[Array.toList_push,List.map_append,List.map_cons,List.map_nil]
   refine List.nodup_append.2 ⟨s2,by simp,fun a ha c hc e1=>?_⟩
   simp only[List.mem_singleton] at hc
   obtain⟨x,hx,rfl⟩:=List.mem_map.1 ha
   have:=s1 x hx
   omega
  have hmod:(es.push ⟨.int .i64 kx,.int .i64 0,clock⟩).modify es.size (fun e=> {e with val:=.int .i64 vv })=es.push ⟨.int .i64 kx,.int .i64 vv,clock⟩:=by
   apply Array.ext'
   rw[Array.toList_modify,Array.toList_push,Array.toList_push,<-Array.length_toList,WideElems.modify_last]
  have hb1:=heap_setBlock_same hb (.map (es.push ⟨.int .i64 kx,.int .i64 0,clock⟩) (clock+1))
  have e3:w3=setBlock w b (.map (es.push ⟨.int .i64 kx,.int .i64 vv,clock⟩) (clock+1)):=by
   simp[Instr.mapUpdate,run_underlying Try.underlying126,MapKept.run_getObj_map hb,xH.check w false (vB hkx),h1,MapKept.run_setObj_map _ hb,Result.andThen] at hrun3
   exact hrun3.symm
  have hgb:∀o,w.grownBy (setBlock w b o) (some b):=fun o=>⟨rfl,rfl,rfl,by simp[setBlock],fun i _ hi=>heap_setBlock_other hb _ (fun e=>hi (by rw[e]))⟩
  refine⟨clock,setBlock w b (.map (es.push ⟨.int .i64 kx,.int .i64 0,clock⟩) (clock+1)),setBlock (setBlock w b (.map (es.push ⟨.int .i64 kx,.int .i64 0,clock⟩) (clock+1))) b (.map (es.push ⟨.int .i64 kx,.int .i64 vv,clock⟩) (clock+1)),?_,hgb _,?_,?_,?_⟩
  ·simp[Instr.mapEntry,run_underlying Try.underlying126,MapKept.run_getObj_map hb,xH.check w false (vB hkx),h1,px,MapKept.run_setObj_map _ hb,Result.andThen,setBlock]
  ·generalize setBlock w b (.map (es.push ⟨.int .i64 kx,.int .i64 0,clock⟩) (clock+1))=W1 at hb1 ⊢
   simp[Instr.entryStore,MapKept.run_getObj_map hb1,asInt,asIntOf,goInt,hidx,hmod,MapKept.run_setObj_map _ hb1,Result.andThen,setBlock]
  ·refine hP.same ?_
   rw[heap_setBlock_same hb1,e3,heap_setBlock_same hb]
  ·have e4:setBlock (setBlock w b (.map (es.push ⟨.int .i64 kx,.int .i64 0,clock⟩) (clock+1))) b (.map (es.push ⟨.int .i64 kx,.int .i64 vv,clock⟩) (clock+1))=setBlock w b (.map (es.push ⟨.int .i64 kx,.int .i64 vv,clock⟩) (clock+1)):=by simp[setBlock]
   rw[e4];exact hgb _
 ·exfalso
  simp[Instr.lookup,run_underlying Try.underlying126,MapKept.run_getObj_map hb,xH.check w es.isEmpty (vB hkx),h1,Result.andThen] at hlook
open Go.RowKit
structure ChkAt (w:World) (C m1 m2:Nat) (pv:List Value) (blv idv:Value) (n:Nat) (d:wO):Prop where
 blk:w.heap[C]? =some (.cells (pv++ [blv,.map (some m1),.map (some m2),idv]).toArray 128 (0,0))
 plen:pv.length=6
 map1:wA w m1 n d.1
 map2:wA w m2 n d.2
 ne:m1≠m2
 dom:∀x,(d.1 x).isSome=(d.2 x).isSome
structure Kept (m1 m2:Nat) (w w':World):Prop where
 os:w'.os=w.os
 tape:w'.tape=w.tape
 output:w'.output=w.output
 size:w.heap.size<=w'.heap.size
 block:∀k,k<w.heap.size->k≠m1->k≠m2->w'.heap[k]? =w.heap[k]?
theorem Kept.refl (m1 m2:Nat)(w:World):Kept m1 m2 w w:=⟨rfl,rfl,rfl,Nat.le_refl _,fun _ _ _ _=>rfl⟩
theorem Kept.trans {m1 m2:Nat}{a b c:World}(h:Kept m1 m2 a b)(k:Kept m1 m2 b c):Kept m1 m2 a c:=
 ⟨k.os.trans h.os,k.tape.trans h.tape,k.output.trans h.output,Nat.le_trans h.size k.size,fun i hi x1 x2=>(k.block i (Nat.lt_of_lt_of_le hi h.size) x1 x2).trans (h.block i hi x1 x2)⟩
theorem Kept.of {m1 m2:Nat}{w w':World}(h:Below w.heap.size w w'):Kept m1 m2 w w':=⟨h.os,h.tape,h.output,h.size,fun i hi _ _=>h.block i hi⟩
theorem Kept.below {m1 m2 B:Nat}{w w':World}(h:Kept m1 m2 w w')(h1:B<=m1)(h2:B<=m2)(hB:B<=w.heap.size):Below B w w':=
 ⟨h.os,h.tape,h.output,h.size,fun i hi=>h.block i (by omega) (by omega) (by omega)⟩
theorem Kept.blk {m1 m2 b:Nat}{w w':World}{o:Obj}(h:Kept m1 m2 w w')(hb:w.heap[b]? =some o)(h1:b≠m1)(h2:b≠m2):w'.heap[b]? =some o:=(h.block b (lt_of_block hb) h1 h2).trans hb
theorem wA.lt {w:World}{b n:Nat}{g:Int->Option Int}(h:wA w b n g):b<w.heap.size:=by
 obtain⟨es,ck,hb⟩:=h.blk
 exact lt_of_block hb
theorem ChkAt.below {w w':World}{C m1 m2:Nat}{pv:List Value}{blv idv:Value}{n:Nat}{d:wO}(h:ChkAt w C m1 m2 pv blv idv n d)(hb:Below w.heap.size w w'):ChkAt w' C m1 m2 pv blv idv n d:=
 ⟨zH hb h.blk (lt_of_block h.blk),h.plen,h.map1.same (hb.block m1 h.map1.lt),h.map2.same (hb.block m2 h.map2.lt),h.ne,h.dom⟩
theorem ChkAt.ne1 {w:World}{C m1 m2:Nat}{pv:List Value}{blv idv:Value}{n:Nat}{d:wO}(h:ChkAt w C m1 m2 pv blv idv n d):C≠m1/\C≠m2:=by
 obtain⟨es1,ck1,h1⟩:=h.map1.blk
 obtain⟨es2,ck2,h2⟩:=h.map2.blk
 have:=h.blk
 exact⟨fun e=>(by rw[e,h1] at this;cases this),fun e=>(by rw[e,h2] at this;cases this)⟩
theorem oK {w:World}{C m1 m2 n:Nat}{pv:List Value}{blv idv:Value}{d:wO}(h:ChkAt w C m1 m2 pv blv idv n d)(v i k:Int)(hv:I64 v)(hi:I64 i)(hk:I64 k)(hno:rB d v i k=none):
 Calls Try.prog 97 #[.pointer (some ⟨C,0,none⟩),.int .i64 v,.int .i64 i,.int .i64 k] w fun e w'=>e=.returned (.bool false)/\w'=w:=by
 obtain⟨hb,hl,hm1,hm2,hne,hd⟩:=h
 obtain⟨p0,p1,p2,p3,p4,p5,rfl⟩:∃a b c d e f,pv=[a,b,c,d,e,f]:=by
  match pv,hl with
  | [a,b,c,d,e,f],_=>exact⟨a,b,c,d,e,f,rfl⟩
 have hlk:=hm1.lookOk hv
 have cm1:w.cell? ⟨C,7,none⟩=some (.map (some m1)):=zA hb rfl
 obtain⟨q0,h0⟩:∃b,(d.1 v).isSome=b:=⟨_,rfl⟩
 obtain⟨q1,h1⟩:∃b,decide (v<0)=b:=⟨_,rfl⟩
 obtain⟨q2,h2⟩:∃b,decide (65535<v)=b:=⟨_,rfl⟩
 rw[h0] at hlk
 have hq:(q0||q1||q2)=true:=by
  unfold rB at hno
  rw[h0] at hno
  split at hno
  ·rename_i hc
   rcases hc with hc|hc|hc
   ·rw[hc];rfl
   ·rw[<-h1,decide_eq_true hc];simp
   ·rw[<-h2,decide_eq_true hc];simp
  ·cases hno
 clear hno hb
 cases q0<;>cases q1<;>cases q2
 all_goals first|(cases hq;done)|skip
 all_goals go_enter Try.func97,Try.ntmps97
 all_goals go_wp2
 all_goals go_ret
 all_goals exact⟨rfl,rfl⟩
end Go.Proofs.Ytojclalkfhoooaa
