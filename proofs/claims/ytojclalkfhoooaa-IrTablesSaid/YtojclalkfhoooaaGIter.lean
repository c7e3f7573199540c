/- Part of a proof. -/
import Derived.Test.YtojclalkfhoooaaIFin
import Derived.Defers
import Derived.Recover
import Derived.Shelf.Bits.Mul64
import Derived.Test.YtojclalkfhoooaaProg
import Derived.Test.YtojclalkfhoooaaOrd2
import Derived.Laws.CopyOwn
import Derived.Test.YtojclalkfhoooaaView
import Derived.RangeFuncNested
import Derived.RangeFuncBound
import Derived.RangeFuncCalls
import Derived.RangeFuncLeaves
import Derived.Shelf.Abstract
import Derived.Shelf.RegionOpen
import Derived.OwnWalkIn
import Derived.TacticsInMore
import Derived.LoopNIn
import Derived.LoopIn
import Derived.RegionIn
set_option linter.unusedSimpArgs false
set_option linter.unusedVariables false
set_option maxHeartbeats 4000000
set_option maxRecDepth 100000
namespace Go.Proofs.Ytojclalkfhoooaa
open Go.RowKit
theorem rec_idle (p:Addr)(w:World):
 CallsD Try.prog 51 #[.pointer (some p)] .returning w fun e u' w'=>e=.returned (.tuple #[])/\u'=.returning/\w=w':=by
 refine callsD_of_wpS Try.func51 rfl fun c₀ cs hu=>?_
 apply wpS_seq
 apply wpS_region
 simp[wpOpsS,go_sem,recoverD,hu,Try.ntmps51,Exit.thenS]
 apply wpS_seq
 apply wpS_seq
 apply wpS_region
 simp[wpOpsS,go_sem,recoverD,hu,Try.ntmps51,Exit.thenS]
 refine wpS_cond (t:=true) (by simp[Act.eval,Array.replicate]) ?_
 simp only[if_true]
 refine wpS_of_wp (wp_ret ?_)
 cases c₀
 simp_all [Exit.thenS,bodyPostS,results,Try.results51]
theorem kA (v:Value)(w:World):(Instr.typeAssert (.iface 107 v) 20 107 true).run Try.prog w=.ok (.tuple #[v,.bool true]) w:=by kernel_rfl
theorem pi {w:World}{K:MK}{m:Mach}{ov:Value}(h:MachAt w K m ov){b12 b13 b14:Nat}(h13:w.heap[b13]? =some (.cells #[.pointer (some ⟨K.pm,0,none⟩)] 102 (0,0)))(h12:w.heap[b12]? =some (.cells #[.int .u16 0,.slice none 0 0,.int .i64 0,.int .u16 0,.string {data:=#[]},.int .i64 0,.int .i64 0] 57 (0,0)))
 (h14:w.cell? ⟨b14,0,none⟩=some (.func (.func 50) #[] #[.pointer (some ⟨b13,0,none⟩),.pointer (some ⟨b12,0,none⟩)])) (k i:Nat) (older:List PanicEntry):
 CallsD Try.prog 51 #[.pointer (some ⟨b14,0,none⟩)] (.panicking (oE k i::older)) w fun e u' w'=>
  e=.returned (.tuple #[])/\u'=.panicking ({oE k i with recovered:=true }::older)/\w'.heap[b12]? =some (.cells (yV 0 ov k i (y9 m.ram) m.inputs m.polls) 57 (0,0))/\w.grownBy w' (some b12):=by
 refine callsD_of_wpS Try.func51 rfl fun c₀ cs hu=>?_
 unfold oE at hu ⊢
 apply wpS_seq
 apply wpS_region
 simp[wpOpsS,go_sem,recoverD,hu,Try.ntmps51,Exit.thenS]
 apply wpS_seq
 apply wpS_seq
 apply wpS_region
 simp[wpOpsS,go_sem,recoverD,hu,Try.ntmps51,Exit.thenS]
 refine wpS_cond (t:=false) (by simp[Act.eval,Array.replicate]) ?_
 simp only[Bool.false_eq_true,if_false]
 refine wpS_of_wp (wp_skip ?_)
 simp only[Exit.thenS]
 refine wpS_of_wp ?_
 have hta:=kA (.agg #[.int .i64 (k:Int),.int .u16 (i:Int)])
 have HH:=Lib.hid h
 have HU:=Lib.hid hu
 have H2:=Lib.hid (And.intro h13 h12)
 clear h hu h13 h12
 have e:(#[Value.pointer (some ⟨b14,0,none⟩)]++(((((Array.replicate 18 undef).setIfInBounds 3 (Value.iface 107 (.agg #[.int .i64 (k:Int),.int .u16 (i:Int)]))).setIfInBounds 0 (Value.iface 107 (.agg #[.int .i64 (k:Int),.int .u16 (i:Int)]))).setIfInBounds 4 (Value.iface 107 (.agg #[.int .i64 (k:Int),.int .u16 (i:Int)]))).setIfInBounds 5 (Value.bool false)):Array Value)=#[.pointer (some ⟨b14,0,none⟩),.iface 107 (.agg #[.int .i64 (k:Int),.int .u16 (i:Int)]),undef,undef,.iface 107 (.agg #[.int .i64 (k:Int),.int .u16 (i:Int)]),.iface 107 (.agg #[.int .i64 (k:Int),.int .u16 (i:Int)]),.bool false,undef,undef,undef,undef,undef,undef,undef,undef,undef,undef,undef,undef]:=by
  simp[Array.replicate,List.replicate]
 rw[e]
 clear e
 have hl14:=World.block_lt_of_cell? w _ h14
 have h14a:(w.alloc (.cells #[.int .i64 (k:Int),.int .u16 (i:Int)] 107)).cell? ⟨b14,0,none⟩=_:=(World.cell?_of_block (w:=w) (Below.heap_alloc _ _ _ hl14)).trans h14
 have hM:=HH.out.keep ((Below.refl _ _).alloc (Nat.le_refl _) (.cells #[.int .i64 (k:Int),.int .u16 (i:Int)] 107))
 have hF:=Lib.hid (pE hM (b12:=b12) (b13:=b13) (zB H2.out.1) (zB H2.out.2) k i 0)
 clear hM
 go_wp2_with (go_at_call 50;go_must (refine hF.out.mono ?_;rintro e w4 ⟨rfl,h5,h6⟩))
 have hg:w.grownBy w4 (some b12):=⟨h6.os,h6.tape,h6.output,Nat.le_trans (by simp) h6.size,fun q hq hn=>(h6.block q (by simp;omega) hn).trans (Below.heap_alloc _ _ _ hq)⟩
 have hu:=HU.out
 cases c₀
 simp only at hu
 simp[bodyPostS,results,Try.results51,h5,hg]
end Go.Proofs.Ytojclalkfhoooaa
namespace Go.Proofs
open Go.Shelf
def Try.lays212_ren:Go.Shelf.Ren:=⟨fun|212=>128|263=>131|264=>132|n=>n,fun|46=>82|51=>38|146=>201|53=>184|148=>203|n=>n,fun|n=>n⟩
theorem Try.lays212:Go.Proofs.Lays.n212 Try.prog Try.lays212_ren:= {
 mixed:=by kernel_rfl
 f212:=Try.func128.trans (congrArg some (by kernel_rfl))
 f263:=Try.func131.trans (congrArg some (by kernel_rfl))
 f264:=Try.func132.trans (congrArg some (by kernel_rfl))
 t46:=Try.underlying82
 a46:=Try.isAgg82
 z46:=Try.sizeOf82
 v46:=Try.zeroValue82
 t51:=Try.underlying38
 a51:=Try.isAgg38
 z51:=Try.sizeOf38
 v51:=Try.zeroValue38
 t53:=Try.underlying184
 a53:=Try.isAgg184
 z53:=Try.sizeOf184
 v53:=Try.zeroValue184
 t146:=Try.underlying201
 a146:=Try.isAgg201
 z146:=Try.sizeOf201
 v146:=Try.zeroValue201
 t148:=Try.underlying203
 a148:=Try.isAgg203
 z148:=Try.sizeOf203
 v148:=Try.zeroValue203 }
open Go.RowKit Go.Lib in
theorem Try.bits_Mul (x y:Nat)(hx:x<18446744073709551616)(hy:y<18446744073709551616)(w:World):
 Calls Try.prog 128 #[.int .u64 x,.int .u64 y] w fun e w'=>e=.returned (.tuple #[.int .u64 ((x*y/18446744073709551616:Nat):Int),.int .u64 ((x*y%18446744073709551616:Nat):Int)])/\w'=w:=Any.bits_Mul Try.lays212 x y hx hy w
end Go.Proofs
namespace Go.Proofs.Ytojclalkfhoooaa
open Go.RowKit
def wN (N m:Nat)(z:Value):List Value:=List.replicate m z++List.replicate (N-m) (.int .i64 0)
theorem nY (N:Nat)(z:Value):wN N 0 z=List.replicate N (.int .i64 0):=by simp[wN]
theorem mI (N:Nat)(z:Value):wN N N z=List.replicate N z:=by simp[wN]
theorem kK {N m j:Nat}(z:Value)(h:j<m):(wN N m z)[j]? =some z:=by
 unfold wN;rw[List.getElem?_append_left (by simpa using h)];simp[h]
theorem sL {N m k:Nat}(z:Value)(h:m+k<=N):splice (wN N m z) m (List.replicate k z)=wN N (m+k) z:=by
 unfold splice wN
 have e1:List.take m (List.replicate m z++List.replicate (N-m) (.int .i64 0))=List.replicate m z:=by
  rw[List.take_append_of_le_length (by simp),List.take_of_length_le (by simp)]
 have e2:List.drop (m+(List.replicate k z).length) (List.replicate m z++List.replicate (N-m) (.int .i64 0))=List.replicate (N-(m+k)) (.int .i64 0):=by
  rw[List.drop_append,List.drop_eq_nil_of_le (by simp),List.nil_append,List.drop_replicate]
  congr 1;simp;omega
 rw[e1,e2,<-List.append_assoc,List.replicate_append_replicate]
theorem qW {N k:Nat}(z:Value)(h:k<=N):splice (List.replicate N (.int .i64 0)) 0 (List.replicate k z)=wN N k z:=by
 have:=sL (m:=0) z (by omega:0+k<=N)
 rw[nY] at this
 simpa using this
theorem lr (w:World)(s o cap N:Nat)(hc:w.cell? ⟨s,o,none⟩=some (.int .i64 (-1)))(h1:1<=N)(hN:N<=4000000):
 Calls Try.prog 120 #[.slice (some ⟨s,o,none⟩) 1 cap,.int .i64 (N:Int)] w fun e w'=>e=.returned (.slice (some ⟨w.heap.size,0,none⟩) N N)/\w'.heap[w.heap.size]? =some (.cells (List.replicate N (.int .i64 (-1))).toArray 3 (0,0))/\Below w.heap.size w w':=by
 obtain⟨ii,hii,hzi0,hzi1,hzi2⟩:=info_parts Try.info_int
 have hmk:=run_make_row' (P:=Try.prog) 22 3 (.int .i64 0) 8 Try.underlying22 Try.info_int rfl .i64 .i64 N (by omega) (by omega)
 go_enter Try.func120,Try.ntmps120
 have hmul:Calls Try.prog 128 #[.int .u64 1,.int .u64 (N:Int)] w fun e w'=>e=.returned (.tuple #[.int .u64 0,.int .u64 (N:Int)])/\w'=w:=by
  refine(Try.bits_Mul 1 N (by omega) (by omega) w).mono ?_
  rintro e w1 ⟨rfl,rfl⟩
  refine⟨?_,rfl⟩
  rw[show 1*N/18446744073709551616=0 by omega,show 1*N%18446744073709551616=N by omega]
  rfl
 have hs:=jU hc
 have hi1:(N:Int)<=9223372036854775807:=by omega
 have hi2:¬(N:Int)<0:=by omega
 have hm1: [Value.int .i64 (-1)].length=Nat.min 1 N:=(Nat.min_eq_left h1).symm
 have hrow0:(w.alloc (.cells (madeCells #[.int .i64 0] N) 3)).heap[w.heap.size]? =some (.cells (List.replicate N (.int .i64 0)).toArray 3 (0,0)):=by rw[zI rfl,yA]
 have hsrc0:∀(j:Nat) (v:Value),[Value.int .i64 (-1)][j]? =some v->(w.alloc (.cells (madeCells #[.int .i64 0] N) 3)).cell? ((⟨s,o,none⟩:Addr).add j)=some v:=by
  intro j v hj
  cases j with
  |zero=>simp at hj;subst hj;exact(World.cell?_alloc_lt _ _ _ hs).trans hc
  |succ j=>simp at hj
 have hbel0:Below w.heap.size w (w.alloc (.cells (madeCells #[.int .i64 0] N) 3)):=(Below.refl _ _).alloc (Nat.le_refl _) _
 have hsz1:(Try.prog.info? 3).map (·.size)=some 1:=by rw[hii];simp[hzi1]
 go_wp2_with (first|(go_at_call 128;refine hmul.mono ?_;rintro e w1 ⟨rfl,rfl⟩)|(with_reducible refine wpList_copy_splice rfl (.tmp 31) (.tmp 32) 22 22 rfl 3 Try.underlying22 hsz1 (some ⟨w1.heap.size,0,none⟩) (some ⟨s,o,none⟩) N N 1 cap rfl rfl w1.heap.size 0 (List.replicate N (.int .i64 0)) 3 hrow0 [.int .i64 (-1)] hm1 (fun _=>⟨rfl,_,rfl,hsrc0⟩) (by simp;omega) (by simp[Value.oneCell']) w1.heap.size w1 hbel0 (Nat.le_refl _) ?_;intro w2 hrow hb2))
 have hfill:Hid (w2.heap[w1.heap.size]? =some (.cells (wN N 1 (.int .i64 (-1))).toArray 3 (0,0))):=by
  have:=hrow.out
  rw[show([Value.int .i64 (-1)]:List Value)=List.replicate 1 (.int .i64 (-1)) from rfl,qW _ h1] at this
  exact Lib.hid this
 clear hmul hrow hbel0 hsrc0 hrow0 hm1 hmk
 go_loopw [8] (fun i wr=>∃m:Nat,i=.int .i64 (m:Int)/\1<=m/\(m:Int)<=N/\Hid (wr.heap[w1.heap.size]? =some (.cells (wN N m (.int .i64 (-1))).toArray 3 (0,0)))/\Below w1.heap.size w1 wr) (fun i _=>N-(intOf i).toNat)
 case atStart=>exact⟨1,rfl,by omega,by omega,hfill,hb2⟩
 case round=>
  obtain⟨m,rfl,hm1,hmN,hrow,hbr⟩:=hrel
  by_cases hlt:(m:Int)<N
  ·have e1:(m:Int)<=N:=by omega
   have e2:(0:Int)<=m:=by omega
   go_wp2
   obtain⟨w3,hrun,hrow3,hb3⟩:∃w3:World,(Sem.run Try.prog (Builtin.copy_ #[22,22] 3 #[.slice (some ⟨w1.heap.size,m,none⟩) (N-m) (N-m),.slice (some ⟨w1.heap.size,0,none⟩) m N]) wr.drew=.ok (.int .i64 ((min m (N-m):Nat):Int)) w3.drew)/\Hid (w3.heap[w1.heap.size]? =some (.cells (wN N (m+min m (N-m)) (.int .i64 (-1))).toArray 3 (0,0)))/\Below w1.heap.size w1 w3:=by
    refine⟨wr.setRow w1.heap.size (splice (wN N m (.int .i64 (-1))) m (List.replicate (min m (N-m)) (.int .i64 (-1)))).toArray,?_,?_,below_setRow hbr (Nat.le_refl _) _⟩
    ·have:=run_copy_row (P:=Try.prog) wr.drew 22 22 3 3 w1.heap.size m (N-m) (N-m) ⟨w1.heap.size,0,none⟩ m N (wN N m (.int .i64 (-1))).toArray 3 (List.replicate (min m (N-m)) (.int .i64 (-1))) Try.underlying22 hsz1 hrow.out
      (by rw[List.length_replicate]) (fun j v hj=>by
       have hjl:j<min m (N-m):=by
        have:=(List.getElem?_eq_some_iff.1 hj).1;simpa using this
       rw[List.getElem?_replicate,if_pos hjl] at hj
       cases hj
       have ea:(⟨w1.heap.size,0,none⟩:Addr).add j=⟨w1.heap.size,j,none⟩:=by by_cases h:j=0<;>simp[Addr.add,h]
       rw[ea]
       refine zA (w:=wr.drew) (b:=w1.heap.size) (cs:=(wN N m (.int .i64 (-1))).toArray) hrow.out ?_
       simp only[List.getElem?_toArray]
       exact kK _ (by omega)) (by simp[wN];omega) (by intro v hv;rw[List.eq_of_mem_replicate hv];rfl)
     rw[List.length_replicate] at this
     refine(this.trans ?_)
     unfold splice
     simp only[List.append_assoc,List.length_replicate]
     rfl
    ·have:=setRow_heap wr w1.heap.size _ (splice (wN N m (.int .i64 (-1))) m (List.replicate (min m (N-m)) (.int .i64 (-1)))).toArray _ _ hrow.out
     rw[sL _ (by omega)] at this ⊢
     exact Lib.hid this
   clear hrow hbr
   go_wp2
   go_region
   go_wp2
   go_roundw
   case rel=>exact⟨m+min m (N-m),by rw[Int.natCast_add],by omega,by omega,hrow3,⟨hb3.os,hb3.tape,hb3.output,hb3.size,hb3.block⟩⟩
   case measure=>simp[intOf];omega
  ·go_wp2
   go_ret
   have:m=N:=by omega
   subst this
   refine⟨rfl,?_,hbr⟩
   have:=hrow.out
   rw[mI] at this
   simpa using this
end Go.Proofs.Ytojclalkfhoooaa
set_option maxRecDepth 8000
namespace Go.Proofs.Ytojclalkfhoooaa
open Go.RowKit Go.Shelf
attribute [local go_sem] Oper.semAt_some
def wb (Bv Bn n:Nat)(xs:List Nat)(bv bp op len cap:Nat)(ar:Option Addr)(capr:Nat)(W:World):Prop:=
 W.cell? ⟨Bv,0,none⟩=some (.pointer (some ⟨bv,0,none⟩))/\W.cell? ⟨Bn,0,none⟩=some (.int .i64 (n:Int))/\W.cell? ⟨bv,2,none⟩=some (.slice (some ⟨bp,op,none⟩) len cap)/\n<len/\
  W.cell? ⟨bp,op+n,none⟩=some (.slice ar xs.length capr)/\∀(j:Nat) (x:Nat),xs[j]? =some x->∃b o,ar=some ⟨b,o,none⟩/\W.cell? ⟨b,o+j,none⟩=some (.int .i64 (x:Int))
theorem l6 (m:Nat)(hm:1<=m)(l Bv Bn n:Nat)(xs:List Nat)(bv bp op len cap:Nat)(ar:Option Addr)(capr:Nat)(hx:xs.length<=4000004000000)(J Jx:List Nat->World->Prop)
 (hY:∀(pre:List Nat) (x:Nat) (W:World),J pre W->xs[pre.length]? =some x->YieldAt Fence.wide (m-1) Try.prog l #[.int .i64 (x:Int)] W fun e W'=>
   (e=.returned (.bool true)/\J (pre++ [x]) W'/\(wb Bv Bn n xs bv bp op len cap ar capr W->wb Bv Bn n xs bv bp op len cap ar capr W'))∨(e=.returned (.bool false)/\Jx (pre++ [x]) W'))
 (hJd:∀pre W k,J pre W->J pre (W.drewN k)) (W:World) (hR:wb Bv Bn n xs bv bp op len cap ar capr W) (h0:J [] W):
 CallsIn Fence.wide m Try.prog 129 #[.func (.yield l) #[] #[],.pointer (some ⟨Bv,0,none⟩),.pointer (some ⟨Bn,0,none⟩)] W fun e W'=>(∃v,e=.returned v)/\
  ((∃ys,ys=xs/\J ys W')∨(∃pre,pre<+:xs/\Jx pre W')):=by
 have HR0:=Lib.hid hR
 obtain⟨c1,c2,c3,hn,c4,hc⟩:=hR
 have hn1:(n:Int)<len:=by omega
 refine callsIn_of_wp Try.func129 rfl trivial ?_ rfl
 simp only[Try.ntmps129,List.size_toArray,List.length_cons,List.length_nil,Nat.reduceAdd,Nat.reduceSub,Array.replicate_succ,Array.replicate_zero,List.push_toArray,List.append_toArray,List.nil_append,List.cons_append]
 gi_wp2
 gi_region
 gi_wp2
 gi_loopw [14] (fun i wr=>∃k:Nat,k<=xs.length/\i=.int .i64 k/\J (xs.take k) wr/\Hid (wb Bv Bn n xs bv bp op len cap ar capr wr)) (fun i _=>xs.length-(intOf i).toNat)
 case atStart=>exact⟨0,Nat.zero_le _,rfl,hJd _ _ 1 h0,HR0⟩
 case round=>
  obtain⟨k,hk,rfl,hJs,HR⟩:=hrel
  by_cases hlt:k<xs.length
  ·obtain⟨x,hxk⟩:∃x,xs[k]? =some x:=⟨_,List.getElem?_eq_getElem hlt⟩
   obtain⟨b,o,har,hcx⟩:=HR.out.2.2.2.2.2 k x hxk
   obtain⟨fn,tmps,assign,body,hy,hR⟩:=hY _ x wr hJs (by rw[List.length_take,Nat.min_eq_left hk];exact hxk)
   have hsn:xs.take (k+1)=xs.take k++ [x]:=by rw[List.take_add_one,hxk];rfl
   have HSN:=Lib.hid hsn
   have HXK:=Lib.hid hxk
   have hlt1:(k:Int)<xs.length:=by omega
   subst har
   clear hxk hsn c1 c2 c3 c4 hc hY
   gi_wp2
   refine hR.mono ?_
   rintro e W3 (⟨rfl,hJ3,hk3⟩|⟨rfl,hJx3⟩)
   ·gi_wp2
    go_roundw
    case rel=>exact⟨k+1,by omega,by go_num,by rw[HSN.out];exact hJ3,hk3 HR⟩
    case measure=>simp[intOf];omega
   ·gi_wp2
    refine bodyPost_ret (results_none rfl _ _ _) rfl ?_
    exact⟨⟨_,rfl⟩,.inr ⟨_,by rw[<-HSN.out];exact List.take_prefix _ _,hJx3⟩⟩
  ·obtain rfl:k=xs.length:=by omega
   gi_wp2
   go_end0
   exact⟨⟨_,rfl⟩,.inl ⟨_,List.take_length,hJs⟩⟩
theorem lj (p:Option Addr)(n:Int)(w:World):
 Calls Try.prog 122 #[.pointer p,.int .i64 n] w fun e w'=>e=.returned (.func (.func 129) #[] #[.pointer (some ⟨w.heap.size,0,none⟩),.pointer (some ⟨w.heap.size+1,0,none⟩)])/\
  w'=(w.alloc (.cells #[.pointer p] 160)).alloc (.cells #[.int .i64 n] 3):=by
 go_enter Try.func122,Try.ntmps122
 go_wp2
 go_ret
 exact⟨rfl,rfl⟩
theorem wb.below {Bv Bn n bv bp op len cap capr C:Nat}{xs:List Nat}{ar:Option Addr}{W W':World}(h:wb Bv Bn n xs bv bp op len cap ar capr W)(hb:Below C W W')(hC:W.heap.size<=C):wb Bv Bn n xs bv bp op len cap ar capr W':=by
 obtain⟨c1,c2,c3,hn,c4,hc⟩:=h
 have up:∀ {a:Addr} {v:Value},W.cell? a=some v->W'.cell? a=some v:=fun {a v} h=>(hb.cell (Nat.lt_of_lt_of_le (World.block_lt_of_cell? W a h) hC)).trans h
 refine⟨up c1,up c2,up c3,hn,up c4,fun j x hj=>?_⟩
 obtain⟨b,o,e,c⟩:=hc j x hj
 exact⟨b,o,e,up c⟩
theorem mC {xs:List Nat}{k x:Nat}(h:xs[k]? =some x):xs.attach.take (k+1)=xs.attach.take k++ [⟨x,List.mem_of_getElem? h⟩]:=by
 rw[List.take_add_one]
 congr 1
 obtain⟨hlt,rfl⟩:=List.getElem?_eq_some_iff.1 h
 rw[List.getElem?_eq_getElem (by simpa using hlt)]
 simp
theorem nH (m:Nat)(hm:1<=m)(Bv Bn n:Nat)(xs:List Nat)(bv bp op len cap:Nat)(ar:Option Addr)(capr:Nat)(hx:xs.length<=4000004000000)(w:World)(hR:wb Bv Bn n xs bv bp op len cap ar capr w):
 SeqStopsK Fence.wide m Try.prog 129 #[.pointer (some ⟨Bv,0,none⟩),.pointer (some ⟨Bn,0,none⟩)] (fun x: {p//p∈xs}=> #[Value.int .i64 (x.1:Int)]) (fun W W'=>wb Bv Bn n xs bv bp op len cap ar capr W->wb Bv Bn n xs bv bp op len cap ar capr W')
  (fun ys=>ys.map (·.1)=xs) (fun _=>True) xs.length w:=fun l J Jx W hW hJ _ hY h0=>by
 refine(l6 m hm l Bv Bn n xs bv bp op len cap ar capr hx (fun pre W=>J (xs.attach.take pre.length) W) (fun pre W=>Jx (xs.attach.take pre.length) W) (fun pre x W1 h1 h2=>?_)
  (fun pre W1 k h=>hJ _ W1 (W1.drewN k) none h ⟨rfl,rfl,rfl,Nat.le_refl _,fun _ _ _=>rfl⟩ (fun _ e=>by cases e)) W (hR.below hW (Nat.le_refl _)) (by simpa using h0)).mono ?_
 ·have hlt:pre.length<xs.length:=(List.getElem?_eq_some_iff.1 h2).1
  refine(hY _ ⟨x,List.mem_of_getElem? h2⟩ W1 h1 (by rw[List.length_take,List.length_attach];omega)).mono ?_
  rw[List.length_append,List.length_singleton,mC h2]
  exact fun e w' h=>h
 ·rintro e w' ⟨hv,(⟨ys,rfl,h⟩|⟨pre,_,h⟩)⟩
  ·exact⟨hv,.inl ⟨_,by simp,h⟩⟩
  ·exact⟨hv,.inr ⟨_,trivial,h⟩⟩
end Go.Proofs.Ytojclalkfhoooaa
