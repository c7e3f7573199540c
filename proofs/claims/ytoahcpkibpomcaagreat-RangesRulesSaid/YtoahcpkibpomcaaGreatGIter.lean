/- Part of a proof. -/
import Derived.Test.YtoahcpkibpomcaaGreatIOper
set_option linter.all false
set_option maxHeartbeats 4000000
set_option maxRecDepth 100000
namespace Go.Proofs.YtoahcpkibpomcaaGreat
open Go.RowKit
variable {W W0 w w' w0 w1 w2:World}{B0 bh bm bp c d m m1 m2 nm x:Nat}{R:List (List Int)}{g preds:List (List Nat)}{o:Obj}{P:Program}{pv:List Value}{f:Int->Int}{ov:Value}{xs:List Nat}
theorem xY (n:Int):IntKind.u16.wrap n=n%65536:=by rw[IntKind.wrap_u16]
theorem mH (a:Nat)(h:a<65536):IntKind.i16.wrap (a:Int)=s16 a:=by
 unfold s16;show(if(true && decide ((a:Int)%2^16≥(2^15:Int))) then(a:Int)%2^16-2^16 else(a:Int)%2^16)=_;by_cases h2:a<32768
 ·rw[if_neg Zt,if_pos h2];omega
 ·rw[if_pos Zt,if_neg h2];omega
theorem aac (a:Nat)(h:a<65536):-32768<=s16 a/\s16 a<32768:=by unfold s16;split<;>omega
theorem ar5 (a b:Nat):IntKind.u16.wrap ((a:Int)+b)=((yW 5 a b:Nat):Int):=by rw[xY];show _=(((a+b)%65536:Nat):Int);omega
theorem ar6 (a b:Nat)(hb:b<65536):IntKind.u16.wrap ((a:Int)-b)=((yW 6 a b:Nat):Int):=by rw[xY];show _=(((a+(65536-b))%65536:Nat):Int);omega
theorem ar7 (a b:Nat):IntKind.u16.wrap ((a:Int)*b)=((yW 7 a b:Nat):Int):=by
 rw[xY];show _=((a*b%65536:Nat):Int);rw[Ou,Int.natCast_mul];rfl
theorem ar8 (a b:Nat)(c:a<65536):IntKind.u16.wrap ((a:Int)/b)=((yW 8 a b:Nat):Int):=by
 rw[xY];show _=((a/b:Nat):Int);rw[<-Int.natCast_ediv];have:=Nat.div_le_self a b;generalize a/b=x at *;omega
theorem ar9 (a b:Nat)(c:a<65536)(hb:b<65536):bits .and .u16 (a:Int) b=((yW 9 a b:Nat):Int):=(bits_nat .u16 16 Zd wraps_u16 a b c hb).1
theorem ar10 (a b:Nat)(c:a<65536)(hb:b<65536):bits .or .u16 (a:Int) b=((yW 10 a b:Nat):Int):=(bits_nat .u16 16 Zd wraps_u16 a b c hb).2
theorem ar11 (a b:Nat)(c:a<65536)(hb:b<65536):bits .xor .u16 (a:Int) b=((yW 11 a b:Nat):Int):=by
 show IntKind.u16.wrap (((BitVec.ofInt 16 (a:Int))^^^(BitVec.ofInt 16 (b:Int))).toNat:Int)=((a^^^b:Nat):Int)
 have e1:(BitVec.ofInt 16 (a:Int)).toNat=a:=by rw[BitVec.ofInt_natCast,BitVec.toNat_ofNat];exact Nat.mod_eq_of_lt c
 have e2:(BitVec.ofInt 16 (b:Int)).toNat=b:=by rw[BitVec.ofInt_natCast,BitVec.toNat_ofNat];exact Nat.mod_eq_of_lt hb
 rw[BitVec.toNat_xor,e1,e2,xY];have:a^^^b<65536:=Nat.xor_lt_two_pow (n:=16) c hb;generalize a^^^b=x at *;omega
theorem ar12 (a b:Nat):IntKind.u16.wrap ((a:Int)*2^(b%16))=((yW 12 a b:Nat):Int):=by
 rw[xY];show _=((a*2^(b%16)%65536:Nat):Int);rw[Ou,Int.natCast_mul,Int.natCast_pow];rfl
theorem ar13 (a b:Nat):(a:Int)/2^(b%16)=((yW 13 a b:Nat):Int):=by
 show _=((a/2^(b%16):Nat):Int);rw[Int.natCast_ediv,Int.natCast_pow];rfl
theorem ar14 (a b:Nat)(c:a<65536):IntKind.u16.wrap (IntKind.i16.wrap (a:Int)/2^(b%16))=((yW 14 a b:Nat):Int):=by
 rw[mH a c,xY];show _=((((s16 a/2^(b%16))%65536).toNat:Nat):Int);omega
theorem ar15 (a b:Nat):(iw ((a:Int)==(b:Int)):Nat)=yW 15 a b:=by
 show _=iw (decide (a=b));congr 1;rw[Bool.eq_iff_iff,beq_iff_eq,decide_eq_true_eq];omega
theorem ar17 (a b:Nat)(c:a<65536)(hb:b<65536):(iw (decide (IntKind.i16.wrap (a:Int)<IntKind.i16.wrap (b:Int))):Nat)=yW 17 a b:=by
 rw[mH a c,mH b hb];rfl
theorem jz (c:Int)(a b:Nat)(f:a<65536)(hb:b<65536):yW c a b<65536:=by
 have j:∀x,a/x<65536:=fun x=>Nat.lt_of_le_of_lt (Nat.div_le_self _ _) f
 have hm:∀x,x%65536<65536:=fun x=>Qj _ Zd
 have d:∀b,iw b<65536:=fun b=>by cases b<;>decide
 unfold yW
 by_cases c5:c=5;· rw[if_pos c5];exact hm _
 rw[if_neg c5];by_cases c6:c=6;· rw[if_pos c6];exact hm _
 rw[if_neg c6];by_cases c7:c=7;· rw[if_pos c7];exact hm _
 rw[if_neg c7];by_cases c8:c=8;· rw[if_pos c8];exact j _
 rw[if_neg c8];by_cases c9:c=9;· rw[if_pos c9];exact Nat.lt_of_le_of_lt Nat.and_le_left f
 rw[if_neg c9];by_cases c10:c=10;· rw[if_pos c10];exact Nat.or_lt_two_pow (n:=16) f hb
 rw[if_neg c10];by_cases c11:c=11;· rw[if_pos c11];exact Nat.xor_lt_two_pow (n:=16) f hb
 rw[if_neg c11];by_cases c12:c=12;· rw[if_pos c12];exact hm _
 rw[if_neg c12];by_cases c13:c=13;· rw[if_pos c13];exact j _
 rw[if_neg c13];by_cases i:c=14;· rw[if_pos i];omega
 rw[if_neg i];by_cases h:c=15;· rw[if_pos h];exact d _
 rw[if_neg h];by_cases g:c=16;· rw[if_pos g];exact d _
 rw[if_neg g];exact d _
theorem qD (b:Bool)(w:World):O 164 #[.bool b] w fun e w'=>e=.returned (M (iw b:Nat))/\w=w':=by
 cases b<;>go_enter Tryz.func164,Tryz.ntmps164<;>go_wp2<;>go_ret<;>exact⟨rfl,rfl⟩
theorem arith_5 (a b:Nat)(c:a<65536)(hb:b<65536)(w:World):O 163 #[I 5,M a,M b] w fun e w'=>e=.returned (M (yW 5 a b:Nat))/\w=w':=by
 go_enter Tryz.func163,Tryz.ntmps163;go_wp2
 all_goals go_ret
 all_goals refine⟨zh ?_,rfl⟩
 all_goals exact ar5 a b
theorem arith_6 (a b:Nat)(c:a<65536)(hb:b<65536)(w:World):O 163 #[I 6,M a,M b] w fun e w'=>e=.returned (M (yW 6 a b:Nat))/\w=w':=by
 go_enter Tryz.func163,Tryz.ntmps163;go_wp2
 all_goals go_ret
 all_goals refine⟨zh ?_,rfl⟩
 all_goals exact ar6 a b hb
theorem arith_7 (a b:Nat)(c:a<65536)(hb:b<65536)(w:World):O 163 #[I 7,M a,M b] w fun e w'=>e=.returned (M (yW 7 a b:Nat))/\w=w':=by
 go_enter Tryz.func163,Tryz.ntmps163;go_wp2
 all_goals go_ret
 all_goals refine⟨zh ?_,rfl⟩
 all_goals exact ar7 a b
theorem arith_8 (a b:Nat)(c:a<65536)(hb:b<65536)(h0:b≠0)(w:World):O 163 #[I 8,M a,M b] w fun e w'=>e=.returned (M (yW 8 a b:Nat))/\w=w':=by
 have h1:((b:Int)==0)=false:=Ze;have h2:¬(b:Int)=0:=Zo;clear h0;go_enter Tryz.func163,Tryz.ntmps163;go_wp2
 all_goals go_ret
 all_goals refine⟨zh ?_,rfl⟩
 all_goals exact ar8 a b c
theorem arith_80 (a:Nat)(w:World):O 163 #[I 8,M a,M ((0:Nat):Int)] w fun e w'=>e=.panicked [oE 4 0]/\w=w':=by
 go_enter Tryz.func163,Tryz.ntmps163;go_wp2_with (go_at_call 153;go_must (refine(wj 4 0 _).mono ?_;rintro e w' ⟨rfl,rfl⟩))
 exact⟨rfl,rfl,rfl⟩
theorem arith_9 (a b:Nat)(c:a<65536)(hb:b<65536)(w:World):O 163 #[I 9,M a,M b] w fun e w'=>e=.returned (M (yW 9 a b:Nat))/\w=w':=by
 go_enter Tryz.func163,Tryz.ntmps163;go_wp2
 all_goals go_ret
 all_goals refine⟨zh ?_,rfl⟩
 all_goals exact ar9 a b c hb
theorem arith_10 (a b:Nat)(c:a<65536)(hb:b<65536)(w:World):O 163 #[I 10,M a,M b] w fun e w'=>e=.returned (M (yW 10 a b:Nat))/\w=w':=by
 go_enter Tryz.func163,Tryz.ntmps163;go_wp2
 all_goals go_ret
 all_goals refine⟨zh ?_,rfl⟩
 all_goals exact ar10 a b c hb
theorem arith_11 (a b:Nat)(c:a<65536)(hb:b<65536)(w:World):O 163 #[I 11,M a,M b] w fun e w'=>e=.returned (M (yW 11 a b:Nat))/\w=w':=by
 go_enter Tryz.func163,Tryz.ntmps163;go_wp2
 all_goals go_ret
 all_goals refine⟨zh ?_,rfl⟩
 all_goals exact ar11 a b c hb
theorem arith_12 (a b:Nat)(c:a<65536)(hb:b<65536)(w:World):O 163 #[I 12,M a,M b] w fun e w'=>e=.returned (M (yW 12 a b:Nat))/\w=w':=by
 go_enter Tryz.func163,Tryz.ntmps163;go_wp2
 all_goals go_ret
 all_goals refine⟨zh ?_,rfl⟩
 all_goals exact ar12 a b
theorem arith_13 (a b:Nat)(c:a<65536)(hb:b<65536)(w:World):O 163 #[I 13,M a,M b] w fun e w'=>e=.returned (M (yW 13 a b:Nat))/\w=w':=by
 go_enter Tryz.func163,Tryz.ntmps163;go_wp2
 all_goals go_ret
 all_goals refine⟨zh ?_,rfl⟩
 all_goals exact ar13 a b
theorem arith_14 (a b:Nat)(c:a<65536)(hb:b<65536)(w:World):O 163 #[I 14,M a,M b] w fun e w'=>e=.returned (M (yW 14 a b:Nat))/\w=w':=by
 go_enter Tryz.func163,Tryz.ntmps163;go_wp2
 all_goals go_ret
 all_goals refine⟨zh ?_,rfl⟩
 all_goals exact ar14 a b c
theorem arith_15 (a b:Nat)(c:a<65536)(hb:b<65536)(w:World):O 163 #[I 15,M a,M b] w fun e w'=>e=.returned (M (yW 15 a b:Nat))/\w=w':=by
 go_enter Tryz.func163,Tryz.ntmps163;go_wp2_with (go_at_call 164;go_must (refine(qD _ _).mono ?_;rintro e w' ⟨rfl,rfl⟩))
 all_goals go_ret
 all_goals refine⟨zh ?_,rfl⟩
 all_goals exact congrArg _ (ar15 a b)
theorem arith_16 (a b:Nat)(c:a<65536)(hb:b<65536)(w:World):O 163 #[I 16,M a,M b] w fun e w'=>e=.returned (M (yW 16 a b:Nat))/\w=w':=by
 go_enter Tryz.func163,Tryz.ntmps163;go_wp2_with (go_at_call 164;go_must (refine(qD _ _).mono ?_;rintro e w' ⟨rfl,rfl⟩))
 all_goals go_ret
 all_goals refine⟨zh ?_,rfl⟩
 all_goals exact rfl
theorem arith_17 (a b:Nat)(c:a<65536)(hb:b<65536)(w:World):O 163 #[I 17,M a,M b] w fun e w'=>e=.returned (M (yW 17 a b:Nat))/\w=w':=by
 go_enter Tryz.func163,Tryz.ntmps163;go_wp2_with (go_at_call 164;go_must (refine(qD _ _).mono ?_;rintro e w' ⟨rfl,rfl⟩))
 all_goals go_ret
 all_goals refine⟨zh ?_,rfl⟩
 all_goals exact congrArg _ (ar17 a b c hb)
def rq (c:Int)(a b:Nat)(w:World)(e:Ending)(w':World):Prop:=e=(if c=8/\b=0 then .panicked [oE 4 0] else .returned (M (yW c a b:Nat)))/\w=w'
theorem jD (c:Int)(f:5<=c/\c<=17)(a b:Nat)(d:a<65536)(hb:b<65536)(w:World):O 163 #[I c,M a,M b] w (rq c a b w):=by
 unfold rq;have h:c=5∨c=6∨c=7∨c=8∨c=9∨c=10∨c=11∨c=12∨c=13∨c=14∨c=15∨c=16∨c=17:=Zo;rcases h with rfl|rfl|rfl|rfl|rfl|rfl|rfl|rfl|rfl|rfl|rfl|rfl|rfl
 ·rw[if_neg Zo];exact arith_5 a b d hb w
 ·rw[if_neg Zo];exact arith_6 a b d hb w
 ·rw[if_neg Zo];exact arith_7 a b d hb w
 ·by_cases h0:b=0
  ·subst h0;rw[if_pos ⟨rfl,rfl⟩];exact arith_80 a w
  ·rw[if_neg (fun h=>h0 h.2)];exact arith_8 a b d hb h0 w
 ·rw[if_neg Zo];exact arith_9 a b d hb w
 ·rw[if_neg Zo];exact arith_10 a b d hb w
 ·rw[if_neg Zo];exact arith_11 a b d hb w
 ·rw[if_neg Zo];exact arith_12 a b d hb w
 ·rw[if_neg Zo];exact arith_13 a b d hb w
 ·rw[if_neg Zo];exact arith_14 a b d hb w
 ·rw[if_neg Zo];exact arith_15 a b d hb w
 ·rw[if_neg Zo];exact arith_16 a b d hb w
 ·rw[if_neg Zo];exact arith_17 a b d hb w
theorem zM {fn:Func}{p:Tmp}{ty:TypeId}(h:fn.results=#[.cell p ty])(c:Array Value)(P:Program)(w:World):
 (results fn c).run P w=((asAddr (c.getD p undef)).run P w).andThen fun a w₁=>(loadVar ty a).run P w₁:=by
 simp only[results,h];simp[Sem.run_bind,Result.andThen]
structure GMem (V w:World) (bp bh n m:Nat) (R:List (List Int)):Prop where
 hg:w.heap[bh]? =some (.cells #[.slice (some ⟨bp,0,none⟩) n n] 105 (0,0))
 hr:OwnRows zN 3 22 w V.heap.size bp R
 hl:R.length=n
 hrl:∀row∈R,row.length<=m
 hb:Below V.heap.size V w
 gp:V.heap.size<=bp
 gh:V.heap.size<=bh
theorem GMem.start (V:World)(n m:Nat):GMem V ((V.alloc (G (madeCells #[U] n) 22)).alloc (G #[L V.heap.size n n] 105)) V.heap.size (V.heap.size+1) n m (List.replicate n []):=by
 refine⟨zI Zs,OwnRows.made n ?_,by simp,(by intro r hr;rw[(List.mem_replicate.1 hr).2];simp),((Below.refl _ V).alloc (Je _) _).alloc Zs _,Je _,by omega⟩;rw[zB (zI rfl),yA]
theorem GMem.start' (V:World)(b:Nat)(hb:V.heap.size=b)(n m:Nat):GMem V ((V.alloc (G (madeCells #[U] n) 22)).alloc (G #[L b n n] 105)) b (b+1) n m (List.replicate n []):=by
 subst hb;exact GMem.start V n m
theorem GMem.alloc{V:World}{n:Nat}(h:GMem V w bp bh n m R)(o:Obj):GMem V (w.alloc o) bp bh n m R:=
 ⟨zB h.hg,h.hr.kept (row:=none) ⟨rfl,rfl,rfl,by simp,fun k hk _=>Below.heap_alloc w o k hk⟩ Zs Zs,h.hl,h.hrl,h.hb.alloc h.hb.size o,h.gp,h.gh⟩
theorem GMem.put{V:World}{n s g H:Nat}{row row':List Int}{a:Option Addr}(h:GMem V w bp bh n m R)(hs:R[s]? =some row)
 (x:T w bp s (.slice a row.length d)) (hg:(w.alloc o).grownBy w2 (Value.slice a row.length d).ownBlock)
 (q:w2.ownsRow V.heap.size 3 1 (L g row'.length c) row'.length (row'.map zN)) (y:(Value.slice a row.length d).ownBlock=some g∨g=H) (hH:w.heap.size<=H) (hm:row'.length<=m):
 GMem V (w2.setCell ⟨bp,s,none⟩ (L g row'.length c)) bp bh n m (R.set s row'):=by
 obtain⟨h1,h2,h3,a0,t,h5,h6⟩:=h;obtain⟨a',a1,j,f,_⟩:=h2.get hs;rw[x] at j;cases j;have n1:=zC f h1 (.inr Zd);have l:=h2.put Zd hs x hg (row':=row') q y hH;have l1:=lt_of_block h1;obtain⟨cc,i⟩:=h2.blk;have u:bh≠bp:=fun e=>by subst e;rw[h1] at i;simp at i
 exact⟨zR (zL hg (zB h1) n1) (by simpa using u),l,by simpa using h3,fun r hr=>by(rcases Qe hr with hr|rfl;exact a0 r hr;exact hm),((t.alloc (by have:=t.size;omega) o).grown hg (by have:=t.size;simp;omega) (fun k hk=>(f.lt k hk).1)).setCell h5 _,h5,h6⟩
section
variable {α:Type} {enc:α->Value} {e eS:TypeId} {w:World} {B bp:Nat} {rows:List (List α)}
theorem OwnRows.base (h:OwnRows enc e eS w B bp rows){B':Nat}(c:B'<=B):OwnRows enc e eS w B' bp rows:=by
 obtain⟨vs,h1,h2,h3,d⟩:=h;exact⟨vs,h1,h2,fun k r v a b=>vY (h3 k r v a b) c,d⟩
theorem OwnRows.below(h:OwnRows enc e eS w B bp rows)(hb:Q w w'):OwnRows enc e eS w' B bp rows:=by
 obtain⟨vs,h1,h2,h3,c⟩:=h;exact⟨vs,zH hb h1 (lt_of_block h1),h2,fun k r v a b=>p7 (h3 k r v a b) hb (Je _),c⟩
theorem OwnRows.set (h:OwnRows enc e eS w B bp rows){a:Addr}(c:a.block≠bp)(d:a.block<B)(u:Value):OwnRows enc e eS (w.setCell a u) B bp rows:=
 h.kept (w':=w.setCell a u) (row:=some a.block) ⟨rfl,rfl,rfl,by simp[World.setCell],fun k _ hk=>Below.heap_setCell _ _ _ _ (fun e=>hk (by rw[e]))⟩ (fun e=>c (by cases e;rfl)) (fun k hk=>by cases hk;exact d)
end
open Go.RowKit Go.Maps Go.ChangeMaps
theorem wA.entry{b n:Nat}{g:Int->Option Int}(h:wA w b n g)(hn:n<9000000000000000000){kx vv:Int}(f:I64 kx)(a6:I64 vv)(a7:g kx=none):
 ∃(st:Nat) (w1 w2:World),(Instr.mapEntry 171 (.map (some b)) (.int .i64 kx)).run Tryz.prog w=.ok (.tuple #[.int .i64 0,goInt st]) w1/\w.grownBy w1 (some b)/\
  (Instr.entryStore 171 (.map (some b)) (goInt st) (.int .i64 vv)).run Tryz.prog w1=.ok () w2/\wA w2 b (n+1) (lS g kx vv)/\w.grownBy w2 (some b):=by
 have m:=h.lookOk f;rw[a7] at m
 have a2:∃w',(Instr.mapUpdate 171 (.map (some b)) (.int .i64 kx) (.int .i64 vv)).run Tryz.prog w=.ok () w'/\wA w' b (n+1) (lS g kx vv)/\w.grownBy w' (some b):=by
  obtain⟨D,h,hf⟩:=h;obtain⟨w',a1,a3,q⟩:=h.update xH Tryz.underlying171 (by unfold maxLen;omega) (vB f) (plainElem_int Tryz.underlying3 (wf64' a6));refine⟨w',a1,⟨_,a3,fun y hy=>?_⟩,q⟩;have u:WideAt.IsKeyLit (.int .i64 kx):=xH.key (vB f)
  by_cases e:y=kx
  ·subst e;simp only[lS,if_true];exact⟨Maps.atKey_put_same h.isMap u _ _,Maps.has_put_same h.isMap u _⟩
  ·simp only[lS,if_neg e];rw[Maps.atKey_put_other (by simpa using e),Maps.has_put_other (by simpa using e)];exact hf y hy
 obtain⟨w3,k,hP,q⟩:=a2;obtain⟨D,h,hf⟩:=h;obtain⟨es,d,hb,F,hs,rfl⟩:=h;obtain⟨s1,s2,_⟩:=F.stamped;rcases xH.find w (vB f) es.toList F.keys with⟨h1,h2⟩|⟨j,e0,h1,h2,h3⟩
 ·have a5:(es.push ⟨.int .i64 kx,.int .i64 0,d⟩).findIdx? (fun e=>((e.born:Nat):Int)==((d:Nat):Int))=some es.size:=by
   rw[WideElems.findIdx_arr];refine WideElems.findIdx_born (l:=(es.push ⟨.int .i64 kx,.int .i64 0,d⟩).toList) (j:=es.size) (e0:=⟨.int .i64 kx,.int .i64 0,d⟩) ?_ Zs;simp only[Array.toList_push,Js,Ql,List.map_nil];refine Qq.2 ⟨s2,by simp,fun a ha c hc e1=>?_⟩;simp only[Jo] at hc;obtain⟨x,hx,rfl⟩:=Nu.1 ha;have:=s1 x hx;omega
  have a4:(es.push ⟨.int .i64 kx,.int .i64 0,d⟩).modify es.size (fun e=> {e with val:=.int .i64 vv })=es.push ⟨.int .i64 kx,.int .i64 vv,d⟩:=by
   apply Array.ext';rw[Array.toList_modify,Array.toList_push,Array.toList_push,<-Array.length_toList,WideElems.modify_last]
  have t:=heap_setBlock_same hb (.map (es.push ⟨.int .i64 kx,.int .i64 0,d⟩) (d+1))
  have e3:w3=setBlock w b (.map (es.push ⟨.int .i64 kx,.int .i64 vv,d⟩) (d+1)):=by
   simp[Instr.mapUpdate,run_underlying Tryz.underlying171,MapKept.run_getObj_map hb,xH.check w false (vB f),h1,MapKept.run_setObj_map _ hb,Result.andThen] at k;exact k.symm
  have a0:∀o,w.grownBy (setBlock w b o) (some b):=fun o=>⟨rfl,rfl,rfl,by simp[setBlock],fun i _ hi=>heap_setBlock_other hb _ (fun e=>hi (by rw[e]))⟩
  refine⟨d,setBlock w b (.map (es.push ⟨.int .i64 kx,.int .i64 0,d⟩) (d+1)),setBlock (setBlock w b (.map (es.push ⟨.int .i64 kx,.int .i64 0,d⟩) (d+1))) b (.map (es.push ⟨.int .i64 kx,.int .i64 vv,d⟩) (d+1)),?_,a0 _,?_,?_,?_⟩
  ·simp[Instr.mapEntry,run_underlying Tryz.underlying171,MapKept.run_getObj_map hb,xH.check w false (vB f),h1,px,MapKept.run_setObj_map _ hb,Result.andThen,setBlock]
  ·generalize setBlock w b (.map (es.push ⟨.int .i64 kx,.int .i64 0,d⟩) (d+1))=W1 at t ⊢;simp[Instr.entryStore,MapKept.run_getObj_map t,asInt,asIntOf,goInt,a5,a4,MapKept.run_setObj_map _ t,Result.andThen,setBlock]
  ·refine hP.same ?_;rw[heap_setBlock_same t,e3,heap_setBlock_same hb]
  ·have e4:setBlock (setBlock w b (.map (es.push ⟨.int .i64 kx,.int .i64 0,d⟩) (d+1))) b (.map (es.push ⟨.int .i64 kx,.int .i64 vv,d⟩) (d+1))=setBlock w b (.map (es.push ⟨.int .i64 kx,.int .i64 vv,d⟩) (d+1)):=by simp[setBlock]
   rw[e4];exact a0 _
 ·exfalso;simp[Instr.lookup,run_underlying Tryz.underlying171,MapKept.run_getObj_map hb,xH.check w es.isEmpty (vB f),h1,Result.andThen] at m
theorem vd{ops:Array Oper}{Q:Act->Prop}:∀ {rest:List Oper} {a:Act},wpQuiet P ops (fun w'=>w'=w) Q rest a->wpStill P ops w Q rest a
 | [],a,h=>h
 |o::rest,a,h=>by
  unfold wpQuiet at h;unfold wpStill
  split at h
  ·rename_i hw
   rw[if_pos hw];obtain⟨v,h1,h2⟩:=h;have h3:=h1 w rfl;have c:=vd h2;unfold Oper.quietAt at h3;unfold Oper.still;generalize (execOp a.eval o).run P w=r at *
   cases r with
   |ok n w'=>
    cases n<;>simp only[Oper.quietUpon] at h3<;>simp only[Oper.stillUpon]
    case value u=>obtain⟨e1,rfl⟩:=h3;exact⟨e1,c⟩
    case skip=>obtain⟨e1,rfl⟩:=h3;exact⟨e1,c⟩
    case enter f args=>exact⟨h3.1,v,h3.2,c⟩
   |halt x w'=>simp only[Oper.quietUpon] at h3
  ·rename_i hw
   rw[if_neg hw];exact vd h
theorem zt{id:Nat}{Q:Exit->Act->World->Prop}{a:Act}{l:List Oper}(n:Nat)(hm:P.follows .mixedOrders=true)(c:Region.lexTailB .any l.toArray n=true)
 (h:wpQuiet P l.toArray (fun w'=>w'=w.drew) (fun a'=>wpList P l.toArray Q (l.drop n) a' w.drew) (l.take n) a):(Code.region id l.toArray true).wp P Q a w:=
 wp_region_still_tail n hm c (vd h)
theorem aeD{C n:Nat}{a2 q:Value}{d d':wO}(h:ChkAt w C m1 m2 pv a2 q n d)(hn:n<9000000000000000000)(v i k:Int)(hv:I64 v)(hi:I64 i)(hk:I64 k)(g:rB d v i k=some d'):
 O 137 #[F C,I v,I i,I k] w fun e w'=>e=.returned (.bool true)/\ChkAt w' C m1 m2 pv a2 q (n+1) d'/\Kept m1 m2 w w':=by
 obtain⟨hb,hl,o,a0,m,hd⟩:=h
 obtain⟨p0,p1,p2,p3,p4,p5,rfl⟩:∃a b c d e f,pv=[a,b,c,d,e,f]:=by
  match pv,hl with
  | [a,b,c,d,e,f],_=>exact⟨a,b,c,d,e,f,rfl⟩
 have a7:=o.lookOk hv;have b7:T w C 7 (.map (some m1)):=zA hb rfl;have b6:T w C 8 (.map (some m2)):=zA hb rfl;have j:¬((d.1 v).isSome∨v<0∨65535<v):=fun hc=>by rw[rB,if_pos hc] at g;cases g
 have b1:d'=(lS d.1 v i,lS d.2 v k):=by rw[rB,if_neg j] at g;cases g;rfl
 have h0:(d.1 v).isSome=false:=by cases l:(d.1 v).isSome with|false=>rfl|true=>exact absurd (.inl l) j
 have t:d.1 v=none:=by cases l:d.1 v with|none=>rfl|some y=>rw[l] at h0;cases h0
 have a4:d.2 v=none:=by cases l:d.2 v with|none=>rfl|some y=>have:=hd v;rw[l,t] at this;cases this
 have h1:decide (v<0)=false:=decide_eq_false Zo;have h2:decide (65535<v)=false:=decide_eq_false Zo;rw[h0] at a7;obtain⟨s1,w1,w2,e1,g1,e2,k1,g2⟩:=(wA.same (w':=w.drew) o rfl).entry hn hv hi t;obtain⟨es,ck,u⟩:=a0.blk;have a3:wA w2 m2 n d.2:=(wA.same (w':=w.drew) a0 rfl).same (g2.block m2 (lt_of_block u) (fun e=>m (by cases e;rfl)));obtain⟨s2,w3,w4,e3,g3,e4,k2,g4⟩:=a3.entry hn hv hk a4;subst b1;clear g j;simp only[goInt] at e1 e2 e3 e4;have H:=Ja (Jb g2 g4);go_enter Tryz.func137,Tryz.ntmps137;go_wp2
 go_region
 go_wp2;go_ret;obtain⟨g2,g4⟩:=H.out;obtain⟨b5,b9,a6⟩:=o.blk;have b3:C≠m1:=fun e=>by rw[e,a6] at hb;cases hb
 have b2:C≠m2:=fun e=>by rw[e,u] at hb;cases hb
 have a5:w.heap.size<=w2.heap.size:=g2.size;have a1:∀b,b≠m1->b≠m2->b<w.heap.size->w4.heap[b]? =w.heap[b]?:=fun b x1 x2 hbs=>(g4.block b Zo (fun e=>x2 (by cases e;rfl))).trans (g2.block b hbs (fun e=>x1 (by cases e;rfl)))
 obtain⟨b4,b8,b0⟩:=k1.blk;refine⟨rfl,⟨(a1 C b3 b2 (lt_of_block hb)).trans hb,rfl,k1.same (g4.block m1 (lt_of_block b0) (fun e=>m (by cases e;rfl))),k2,m,fun x=>?_⟩,⟨g4.os.trans g2.os,g4.tape.trans g2.tape,g4.output.trans g2.output,Jn a5 g4.size,fun b hbs x1 x2=>a1 b x1 x2 hbs⟩⟩
 show(lS d.1 v i x).isSome=(lS d.2 v k x).isSome
 unfold lS
 split
 ·rfl
 ·exact hd x
end Go.Proofs.YtoahcpkibpomcaaGreat
set_option maxRecDepth 8000
namespace Go.Proofs.YtoahcpkibpomcaaGreat
open Go.RowKit
variable {W W0 w w' w0 w1 w2:World}{B0 bh bm bp c d m m1 m2 nm x:Nat}{R:List (List Int)}{g preds:List (List Nat)}{o:Obj}{P:Program}{pv:List Value}{f:Int->Int}{ov:Value}{xs:List Nat}
theorem mD{P:List (List Nat)}{n s:Nat}(h:∀r∈P,r.length<=m):∀r∈xS n P s,r.length<=m+1:=by
 intro r hr;rcases Qe hr with hr|rfl
 ·have:=h r hr;omega
 ·simp only[Jk,Nq,Ow]
  by_cases hs:s<P.length
  ·have:=h (P.getD s []) (by rw[Jj,Jd hs];exact Uf hs);omega
  ·rw[Jj,Of Zo];simp
theorem oB (n:Nat):∀(l:List Nat) (P:List (List Nat)) (m:Nat),(∀r∈P,r.length<=m)->∀r∈l.foldl (xS n) P,r.length<=m+l.length
 | [],_,_,h=>h
 |s::l,P,m,h=>fun r hr=>by
  have:=oB n l _ (m+1) (mD h) r hr;simp only[Nq];omega
theorem rj (g:List (List Nat))(D:Nat)(c:∀row∈g,row.length<=D):∀(l:List Nat) (P:List (List Nat)) (m:Nat),(∀r∈P,r.length<=m)->∀r∈l.foldl (yh g) P,r.length<=m+l.length*D
 | [],_,_,h=>by simpa using h
 |u::l,P,m,h=>fun r hr=>by
  have hd:(succ g u).length<=D:=by
   unfold succ;rw[Jj]
   cases e:g[u]? with
   |none=>simp
   |some row=>exact c row (Ji e)
  have:=rj g D c l _ (m+D) (fun r hr=>by have:=oB u (succ g u) P m h r hr;omega) r hr;simp only[Nq,Nat.add_mul,Nat.one_mul];omega
theorem pred_len{D:Nat}(d:∀row∈g,row.length<=D)(c row:List Nat)(k j n N:Nat)(hk:k<=N){s:Nat}{pr:List Nat}
 (h:((row.take j).foldl (xS n) ((c.take k).foldl (yh g) (List.replicate N [])))[s]? =some pr):pr.length<=k*D+j:=by
 have h1:=oB n (row.take j) _ (0+(c.take k).length*D) (rj g D d (c.take k) (List.replicate N []) 0 (by intro r hr;rw[(List.mem_replicate.1 hr).2];simp)) pr (Ji h);have h2:(c.take k).length<=k:=List.length_take_le _ _;have h3:(row.take j).length<=j:=List.length_take_le _ _;have f:=Qw D h2;omega
structure ViewMem (w0 w:World) (B0 B bv bm bp n:Nat) (ov:Value) (ord:List Nat) (nm:Nat) (f:Int->Int) (preds:List (List Nat)):Prop where
 hv:w.heap[bv]? =some (.cells #[ov,.map (some bm),.slice (some ⟨bp,0,none⟩) n n] 202 (0,0))
 ho:w.ownsRow B0 3 1 ov ord.length (ord.map zj)
 ho2:∀g,ov.ownBlock=some g->g<B
 hm:ud w bm nm f
 hp:OwnRows zj 3 22 w B bp preds
 hl:preds.length=n
 hb:Below B0 w0 w
 lt:B0<=bv/\B0<=bm/\B0<=bp/\bv<B/\bm<B/\bp<B/\B<=w.heap.size
def oN (w:World)(C bv:Nat)(ord:List Nat)(f:Int->Int)(preds:List (List Nat)):Prop:=
 ∃ov bm pv nm,T w bv 0 ov/\T w bv 1 (.map (some bm))/\T w bv 2 pv/\xp zj w C ov ord/\ud w bm nm f/\bm<C/\aaB zj w C pv preds/\bv<C
theorem oN.below{C bv:Nat}{c:List Nat}(h:oN w C bv c f preds)(hb:Below C w w'):oN w' C bv c f preds:=by
 obtain⟨ov,bm,pv,nm,c0,c1,c2,ho,hm,d,hp,hl⟩:=h;exact⟨ov,bm,pv,nm,(hb.cell (p:=⟨bv,0,none⟩) hl).trans c0,(hb.cell (p:=⟨bv,1,none⟩) hl).trans c1,(hb.cell (p:=⟨bv,2,none⟩) hl).trans c2,ho.below hb,hm.same (hb.block bm d),d,hp.below hb,hl⟩
def RetView (w:World)(ord:List Nat)(f:Int->Int)(preds:List (List Nat))(e:Ending)(w':World):Prop:=
 ∃bv,e=.returned (F bv)/\w.heap.size<=bv/\oN w' w'.heap.size bv ord f preds/\Q w w'
theorem ViewMem.read{B bv n:Nat}{c:List Nat}(h:ViewMem w0 w B0 B bv bm bp n ov c nm f preds):oN w w.heap.size bv c f preds:=by
 refine⟨ov,bm,L bp n n,nm,zA h.hv Zs,zA h.hv Zs,zA h.hv Zs,rY h.ho (Je _),h.hm,h.hm.lt,?_,lt_of_block h.hv⟩;have:=h.hp.asRows (Je w.heap.size)
 rwa [h.hl] at this
theorem Tryz.info_ints:(Tryz.prog.info? 22).map (fun i=>(i.zero,i.size,i.bytes))=some (some (.slice none 0 0),1,24):=by kernel_rfl
theorem ViewMem.store{B bv n:Nat}{i:List Nat}{j:Nat}{f':Int->Int}(h:ViewMem w0 w B0 B bv bm bp n ov i nm f preds)
 (hg:w.grownBy w' (some bm)) (hm:ud w' bm j f'):ViewMem w0 w' B0 B bv bm bp n ov i j f' preds:=by
 obtain⟨hv,ho,ho2,d,hp,hl,hb,o⟩:=h;obtain⟨c,m⟩:=hp.blk;refine⟨zL hg hv (by simpa using d.ne hv),ho.kept hg ?_,ho2,hm,hp.kept hg (by simpa using d.ne m) (by intro k hk;cases hk;omega),hl,hb.grown hg (by have:=lt_of_block hv;have:=d.lt;omega) (by intro k hk;cases hk;omega),by have:=hg.size;omega⟩;right;intro e;rcases ho.2 with⟨rfl,_⟩|⟨g,u,t,rfl,q,l,_⟩
 ·simp[Value.ownBlock] at e
 ·simp only[Value.ownBlock,Option.some.injEq] at e;subst e;exact d.ne l rfl
theorem ViewMem.push{B bv n s g t H:Nat}{u:List Nat}{d:List (List Nat)}{row:List Nat}{a:Option Addr}(h:ViewMem w0 w B0 B bv bm bp n ov u nm f d)
 (hs:d[s]? =some row) (hc:T w bp s (.slice a row.length m)) (hg:(w.alloc o).grownBy w2 (Value.slice a row.length m).ownBlock)
 (a2:w2.ownsRow B 3 1 (L g (row.length+1) t) (row.length+1) (row.map zj++ [zj x]))
 (a4:(Value.slice a row.length m).ownBlock=some g∨g=H) (hH:w.heap.size<=H):
 ViewMem w0 (w2.setCell ⟨bp,s,none⟩ (L g (row.length+1) t)) B0 B bv bm bp n ov u nm f (d.set s (row++ [x])):=by
 obtain⟨hv,ho,ho2,j,hp,hl,hb,a7⟩:=h;obtain⟨c,l⟩:=hp.blk;obtain⟨a',a5,a0,y,_⟩:=hp.get hs;rw[hc] at a0;cases a0;have a1:=zC y hv (.inl Zo);have i:∀k,(Value.slice a row.length m).ownBlock=some k->B<=k:=fun k hk=>(y.lt k hk).1
 have a3:bv≠bp:=by rintro rfl;rw[hv] at l;simp at l
 have q:=hp.put Zd hs hc hg (row':=row++ [x]) (by simpa using a2) a4 hH;simp only[Jk,Nq,Ow,Ng] at q;refine⟨zR (zL hg (zB hv) a1) (by simpa using a3),?_,ho2,?_,q,by simp[hl],?_,by have:=hg.size;simp[World.setCell] at this ⊢;omega⟩
 ·refine ownsRow_setCell_other ((ho.alloc o).kept hg ?_) ?_ _
  ·cases hk:ov.ownBlock with
   |none=>exact .inl rfl
   |some k=>
    right;intro e;have:=ho2 k hk;have:=i k e.symm;omega
  ·exact zC (b:=bp) ho l (.inr Zd)
 ·refine j.same ?_;rw[Below.heap_setCell _ _ _ _ (by simpa using j.ne l),hg.block bm (by have:=j.lt;simp;omega) (fun e=>by have:=i bm e.symm;omega),Below.heap_alloc _ _ _ j.lt]
 ·have a6:=lt_of_block hv;exact((hb.alloc Zo o).grown hg Zt (fun k hk=>by have:=i k hk;omega)).setCell (show B0<=bp by omega) _
theorem uj{row:Option Nat}(h:w.drew.grownBy w' row):w.grownBy w' row:=⟨h.os,h.tape,h.output,h.size,h.block⟩
theorem uG{B:Nat}(h:Below B w w'):Below B w w'.drew:=h.drew
theorem lq{n:Nat}{v:Value}(c:T w' n 0 v)(h:Below (n+1) W0 w')(hl:n<W0.heap.size)(o:Obj):T (w'.alloc o) n 0 v/\Below (n+1) W0 (w'.alloc o):=by
 have:=h.size;exact⟨by rw[Oo (w:=w') (Below.heap_alloc _ _ _ Zt)];exact c,h.alloc Zo o⟩
theorem oY{n:Nat}{v:Value}(c:T w' n 0 v)(h:Below (n+1) W0 w')(hl:n<W0.heap.size)(hb:Q w' w1):T w1 n 0 v/\Below (n+1) W0 w1:=by
 have:=h.size;exact⟨(hb.cell (p:=⟨n,0,none⟩) (show n<_ by omega)).trans c,h.trans (hb.mono Zo)⟩
theorem ww{n:Nat}(c:n=w.heap.size)(d:Hid (w.alloc o=W0))(h:Below (n+1) W0 w'):Below n w w':=by
 have e:=d.out;subst e;subst c;exact((Below.refl _ _).alloc (Je _) _).trans (h.mono Zo)
theorem o7{B:Nat}(d:B<=w.heap.size)(c:Hid (w.alloc o=W0))(h:Below (w.heap.size+1) W0 w'):B<=w'.heap.size:=by
 have:=(ww rfl c h).size;omega
theorem nP{B:Nat}{v:Value}(d:aaB zj w B v g)(f:B<=w.heap.size)(c:Hid (w.alloc o=W0))(h:Below (w.heap.size+1) W0 w'):aaB zj w' B v g:=
 d.below ((ww rfl c h).mono f)
theorem aJ{X wy:World}{F F':List Nat}{ao:Option Addr}{co bv n:Nat}(f:F.length=F'.length)(c:w1.ownsRow X.heap.size 3 1 (.slice ao F.length co) F.length (F.map zj))(lg:w.heap.size<W0.heap.size)
 (h:W0.heap.size<=X.heap.size) (hb:Below (w.heap.size+1) W0 wy) (hg:w1.grownBy wy none) (d:wy.heap.size=bv)
 (hm:wy.heap[bm]? =some (.map #[] 0)) (hp:A wy bp (madeCells #[U] n) 22) (lt:w.heap.size<bm/\w.heap.size<bp):
 ∃bv' bm' bp' ov,Value.pointer (some ⟨bv,0,none⟩)=.pointer (some ⟨bv',0,none⟩)/\Hid (ViewMem W0 (wy.alloc (G #[.slice ao F'.length co,.map (some bm),L bp n n] 202)) (w.heap.size+1) (wy.alloc (G #[.slice ao F'.length co,.map (some bm),L bp n n] 202)).heap.size bv' bm' bp' n ov F 0 (fun _=>0) (List.replicate n [])):=by
 rw[<-f];have h1:=hb.size;have h2:=hg.size;have ho:=(c.kept hg (by cases ao<;>simp[Value.ownBlock])).alloc (G #[.slice ao F.length co,.map (some bm),L bp n n] 202);have h3:=lt_of_block hm;have i:=lt_of_block hp;refine⟨bv,bm,bp,.slice ao F.length co,rfl,zI d,vY ho Zo,fun g hg=>(ho.lt g hg).2,?_,OwnRows.made _ (by rw[zB hp,yA]),by simp,hb.alloc Zo _,?_⟩
 ·exact⟨_,⟨#[],0,zB hm,(let⟨es,clock,h1,h2,_⟩:=(World.ownsMap_made (H:=Unit) w Tryz.prog 3 (plainElem Tryz.prog 3));by
   rw[zI rfl] at h1;cases h1;exact h2),Je _,rfl⟩,fun _ _=>rfl⟩
 ·simp only[World.size_alloc];omega
theorem view_any (w:World)(sv:Value)(g:List (List Nat))(B:Nat)(hB:B<=w.heap.size)(h:aaB zj w B sv g)(hv:zw g)(hn:g.length<=2000000)(hr:∀row∈g,row.length<=2000000)
 (c:List Nat) (hF:tV g c):
 O 140 #[.agg #[sv]] w (RetView w c (atF c c.length) (un g c)):=by
 obtain⟨a,q,rfl,g7⟩:=h.form;obtain⟨ii,e8,d1,d0,c9⟩:=info_parts Tryz.info_int;have d4:Q w (w.alloc (G #[.slice a g.length q] 105)):=(Below.refl _ _).alloc (Je _) _;have e3:=@run_makeMap Tryz.prog;have e4:=run_make_row' (P:=Tryz.prog) 103 22 (U) 24 Tryz.underlying103 Tryz.info_ints rfl .i64 .i64 g.length Zo Zo;have HV:=Ja hv;have HR:=Ja hr;have HF:=Ja hF;have cg:T (w.alloc (G #[.slice a g.length q] 105)) w.heap.size 0 (.slice a g.length q):=cell_of_one (zI rfl);clear hv hr hF;go_enter Tryz.func140,Tryz.ntmps140;go_upto_region 1 with fail;generalize c1:w.alloc (G #[.slice a g.length q] 105)=W0 at cg ⊢;have u:=Ja c1;have g8:=Below.refl (w.heap.size+1) W0;have lg:w.heap.size<W0.heap.size:=Jw W0 _ cg;clear c1 d4
 go_cut [3] (fun s3 wx=>∃bv bm bp ov,s3=.pointer (some ⟨bv,0,none⟩)/\Hid (ViewMem W0 wx (w.heap.size+1) wx.heap.size bv bm bp g.length ov c 0 (fun _=>0) (List.replicate g.length [])))
 case first=>
  go_region_held3 (fun w'=>T w' w.heap.size 0 (.slice a g.length q)/\Below (w.heap.size+1) W0 w')
   (first
     |(go_split_ands;refine⟨?_,?_⟩<;>assumption)
     |(go_split_ands;refine⟨?_,uG ?_⟩<;>assumption)
     |(go_split_ands;exact lq ‹_› ‹_› Zz _)
     |(go_split_ands;exact oY ‹_› ‹_› Zz Zz))
   ((go_at_call 40;refine(tp _ _ g B (o7 hB u (by repeat' (first|assumption|(with_reducible refine Below.drew ?_)|(with_reducible refine Below.alloc ?_ ?_ _)|omega|(simp<;>omega)))) (nP h hB u (by repeat' (first|assumption|(with_reducible refine Below.drew ?_)|(with_reducible refine Below.alloc ?_ ?_ _)|omega|(simp<;>omega)))) HV.out hn HR.out c HF.out).mono ?_;rintro e w1 ⟨ov,rfl,b7,a5⟩;obtain⟨ao,co,rfl⟩:=zG b7))
  all_goals
   go_wp2_with fail;go_meet;have e0:=a5.size;simp at e0;refine aJ (w:=w) (w1:=w1) (F:=c) rfl b7 lg ?_ ?_ ?_ ?_ ?_ ?_ ?_
   ·simp<;>omega
   ·repeat' (first|assumption|(with_reducible refine Below.drew ?_)|(with_reducible refine Below.alloc ?_ ?_ _)|(refine Below.trans ?_ (Below.mono a5 ?_))|omega|(simp<;>omega))
   ·repeat' (first|(with_reducible exact oI _ _)|(with_reducible refine World.grownBy.trans ?_ (Uo _ _ _)))
   ·simp
   ·repeat' (first|(refine zI ?_;first|rfl|(simp;done))|(refine zB ?_)|(refine zH a5 ?_ ?_)|omega|(simp<;>omega))
   ·repeat' (first|(refine zI ?_;first|rfl|(simp;done))|(refine zB ?_)|(refine zH a5 ?_ ?_)|omega|(simp<;>omega))
   ·constructor<;>first|omega|(simp<;>omega)
 case rest=>
  obtain⟨bv,bm,bp,ov,rfl,a6⟩:=hcut;obtain⟨BB,c3⟩:∃BB,BB=wc.heap.size:=⟨_,rfl⟩
  rw[<-c3] at a6;clear c3 e3 e4;have ho:=a6.out.ho;obtain⟨ao,co,rfl⟩:=zG ho;have c0:=a6.out.hv;have f4:=K0 c0;clear ho c0;have e1:=(HF.out.nodes HV.out).1;go_wp2_with fail
  go_loopw [22] (fun i wr=>∃k:Nat,k<=c.length/\i=I k/\Hid (ViewMem W0 wr (w.heap.size+1) BB bv bm bp g.length (.slice ao c.length co) c k (atF c k) ((c.take k).foldl (yh g) (List.replicate g.length [])))) (fun i _=>c.length-(intOf i).toNat)
  case atStart=>exact⟨0,Jt _,rfl,by rw[show atF c 0=fun _=>0 from rfl];simpa using a6⟩
  case round=>
   obtain⟨k,hk,rfl,x⟩:=hrel
   by_cases e5:k<c.length
   ·obtain⟨n,a4⟩:∃n,c[k]? =some n:=⟨_,Jd e5⟩
    have e2:n<g.length:=(HF.out.nodes HV.out).2 n (Ji a4);have g3:(n:Int)<g.length:=Zo;have g6:(k:Int)<c.length:=Zo;have d8:=rY x.out.ho (Je _);obtain⟨ao',h9,f1,_,hx⟩:=d8;cases f1;obtain⟨bo,oo,rfl,_,c5⟩:=hx k n a4;simp only[zj] at c5;have f3:=K1 x.out.hv;obtain⟨row,m⟩:∃row,g[n]? =some row:=⟨_,Jd e2⟩
    have c8:=Ja a4;clear hx a4 f4;obtain⟨b,o,a2,h4,rfl,hb,hc,g0,hx⟩:=h.row m;have HX:=Ja hx;have HC:=Ja hc;clear hx hc;go_wp2_with (at_mapUpdate;go_must (refine rW rfl (.tmp 30) (.tmp 31) (.tmp 32) rfl x.out.hm Zo (n:Int) (k:Int) rfl rfl rfl Zo Zo ?_;intro w2 b8 b9;have l:=x.out.store b9 b8;have d3:=(l.hb.cell (p:=⟨w.heap.size,0,none⟩) (show w.heap.size<w.heap.size+1 by omega)).trans cg;have hc:=((ww rfl u l.hb).cell (p:=⟨b,o+n,none⟩) (show b<w.heap.size by omega)).trans HC.out;have d5:=Ja l;clear l b8 b9))
    have hrl:=HR.out row (Ji m);have b1:=Ja m;clear x c5 f3 m
    go_loopw [39] (fun i wx=>∃j:Nat,j<=row.length/\i=I j/\Hid (ViewMem W0 wx (w.heap.size+1) BB bv bm bp g.length (.slice (some ⟨bo,oo,none⟩) c.length co) c (k+1) (fun y=>if y=(n:Int) then(k:Int) else atF c k y) ((row.take j).foldl (xS n) ((c.take k).foldl (yh g) (List.replicate g.length []))))) (fun i _=>row.length-(intOf i).toNat)
    case atStart=>exact⟨0,Jt _,rfl,by simpa using d5⟩
    case round=>
     obtain⟨j,hj,rfl,d⟩:=hrel
     by_cases d2:j<row.length
     ·obtain⟨s,a0⟩:∃s,row[j]? =some s:=⟨_,Jd d2⟩
      have d9:s<g.length:=HV.out.2 row (Ji b1.out) s (Ji a0);obtain⟨b2,o2,rfl,h6,c4⟩:=HX.out j s a0;have cs:=((ww rfl u d.out.hb).cell (p:=⟨b2,o2+j,none⟩) (show b2<w.heap.size by omega)).trans c4;simp only[zj] at cs;have b6:=d.out.hl;obtain⟨pr,a1⟩:∃pr,((row.take j).foldl (xS n) ((c.take k).foldl (yh g) (List.replicate g.length [])))[s]? =some pr:=⟨_,Jd (by rw[b6];exact d9)⟩
      obtain⟨ap,b0,cp,a3,fp⟩:=d.out.hp.get a1;have c2:=K2 d.out.hv;have h5:=d.out.lt.2.2.2.2.2.2;have g2:pr.length<=4000004000000:=by have:=pred_len HR.out c row k j n _ (Jn hk e1) a1;omega
      have g1:(s:Int)<g.length:=Zo;have g5:(j:Int)<row.length:=Zo;have lb:=d.out.lt;have d7:=lt_of_block d.out.hv;have b5:=d.out.hp.bplt;have d6:=zC a3 d.out.hv (.inl Zo);obtain⟨cc,a7⟩:=d.out.hp.blk;have b4:=zC a3 a7 (.inr Zd);have c7:=Ja a1;have f8:=Ja a0;have i1:=Ja a7;have f9:=Ja a3;clear a1 a0 a7 a3 c4 b6 d3 hc;have f2:∀o,Y (wr.alloc o) bp s:=fun o=>(Qm (w:=wr) (Below.heap_alloc _ _ _ b5)).trans fp
      have f5:∀o,T (wr.alloc o) bp s (.slice ap pr.length b0):=fun o=>(Oo (w:=wr) (Below.heap_alloc _ _ _ b5)).trans cp
      have f6:∀o,T (wr.alloc o) bv 2 (L bp g.length g.length):=fun o=>(Oo (w:=wr) (Below.heap_alloc _ _ _ d7)).trans c2
      go_upto_block 3 with fail
      go_cut [7] (fun s7 wx=>Hid (ViewMem W0 wx (w.heap.size+1) BB bv bm bp g.length (.slice (some ⟨bo,oo,none⟩) c.length co) c (k+1) (fun y=>if y=(n:Int) then(k:Int) else atF c k y) (((row.take j).foldl (xS n) ((c.take k).foldl (yh g) (List.replicate g.length []))).set s (pr++ [n]))))
      case first=>
       go_upto_region 9 with fail
       go_region_law (first|(refine step_append_lies _ (by rfl) (.tmp 54) (.tmp 56) _ (by rfl) BB 3 ii (I 0) 1 8 Tryz.underlying22 e8 d1 d0 c9 rfl Zo (.slice ap pr.length b0) pr.length (pr.map zj) (by rfl) ((f9.out.alloc _).drew) ⟨wr.heap.size,0,none⟩ 1 1 [I n] (by rfl) (by rfl) (Oi (cs:=#[I n]) (t:=3) (fr:=(0,0)) (heap_alloc_new wr _)) (by simp[Value.oneCell']) Zo (by unfold maxLen;omega) Zo Zt (wr.heap.size+1) Zs ?_;intro gg g9 w3 b3 f f0 g4;have i0:=(f.cell_far ⟨bv,2,none⟩ Zt (Ne.symm d6)).trans (f6 _);have h8:=(f.cell_far ⟨bp,s,none⟩ Zt (Ne.symm b4)).trans (f5 _);have h7:=(f.frozen_far ⟨bp,s,none⟩ Zt (Ne.symm b4)).trans (f2 _)))
       all_goals (go_wp2_with fail;go_meet;exact Ja (d.out.push c7.out cp (uj f) b3 f0 Zo))
      case rest=>
       go_wp2_with fail;go_roundw
       case rel=>exact⟨j+1,by omega,by go_num,by rw[Nh,f8.out];simpa[xS,Jj,c7.out] using hcut⟩
       case measure=>simp[intOf];omega
     ·go_wp2_with fail;go_roundw
      case rel=>exact⟨k+1,by omega,by go_num,by
       have e7:j=row.length:=Zo;have h1:=d;rw[e7,Nl] at h1;rw[Nh,c8.out,List.foldl_append];have h2:succ g n=row:=by simp[succ,Jj,b1.out]
       have h3:atF c (k+1)=fun y=>if y=(n:Int) then(k:Int) else atF c k y:=by
        funext y;simp only[atF,Jj,c8.out,Ot]
       rw[h3]
       simpa[yh,h2] using h1⟩
      case measure=>simp[intOf];omega
   ·have e6:k=c.length:=Zo;subst e6;go_wp2_with fail;go_ret;refine⟨bv,rfl,?_,?_,ww rfl u x.out.hb⟩
    ·have:=x.out.lt;omega
    ·have:=x.out.read
     rwa [Nl] at this
def wG (w:World)(xs:List Int)(e:Ending)(w':World):Prop:=∃v,e=.returned v/\zY w' w'.heap.size v xs/\Q w w'
theorem yP{B:Nat}{v:Value}(h:Below B w W)(hg:W.grownBy w' v.ownBlock)(c:B<=W.heap.size)(hv:∀k,v.ownBlock=some k->B<=k):Below B w w':=
 h.trans ⟨hg.os,hg.tape,hg.output,hg.size,fun k hk=>hg.block k Zo (fun e=>by have:=hv k e.symm;omega)⟩
theorem wF{e:TypeId}{size n:Nat}{v:Value}{xs:List Value}(h:w.ownsRow c e size v n xs):∀k,v.ownBlock=some k->c<=k:=fun k hk=>(h.lt k hk).1
theorem uses_00(o:IOp)(ho:I64 o.code/\I64 o.res/\I64 o.a/\I64 o.b/\o.n<65536){av:Value}{B:Nat}(hB:B<=w.heap.size)(f:zY w B av o.args)(m:o.args.length<=1000000000000)(a1:(zi o.code).a=false)(a0:(zi o.code).b=false):
 O 120 #[.agg #[I o.code,I o.res,I o.a,I o.b,M (o.n:Int),av]] w (wG w ([]++o.args)):=by
 obtain⟨aa,ac,rfl,b2,b1⟩:=f.form;obtain⟨ii,a7,a5,a4,a3⟩:=info_parts Tryz.info_int
 obtain⟨q1,q2,q3,hf⟩:∃q1 q2 q3,∀W,O 142 #[I o.code] W fun e w'=>e=.returned (.tuple #[.agg #[.bool q1,.bool false,.bool false,.bool q2],.bool q3])/\Q W w':=
  ⟨(zi o.code).res,(zi o.code).n,(zi o.code).is,fun W=>by have:=yu o.code W;unfold yX nL at this;rw[a1,a0] at this;exact this⟩
 have HF:=Ja hf;have h:=Ja (show zY w B (.slice aa o.args.length ac) o.args/\B<=w.heap.size/\o.args.length<=1000000000000 from⟨f,hB,m⟩);have HO:=Ja ho
 have l:∀x∈ []++o.args,I64 x:=by
  intro x i;rcases Jl.1 i with i|i
  ·simp at i
  ·exact zY.all f x i
 have b4:=Ja l;have y:=zI (W:=w) (o:=G (C o aa ac) 76) rfl;have a2:Q w (w.alloc (G (C o aa ac) 76)):=(Below.refl _ _).alloc (Je _) _;have d:=Ja (Jb y a2);clear hf f hB m ho l y a2 b2 b1 a1 a0;go_enter Tryz.func120,Tryz.ntmps120;go_upto_region 2 with(first|(go_at_call 142;go_must (refine(HF.out _).mono ?_;rintro e w1 ⟨rfl,g⟩))|go_in)
 have hb:=(d.out.2.trans (g.mono d.out.2.size)).alloc (by have:=d.out.2.size;have:=g.size;omega) (G #[.bool q1,.bool false,.bool false,.bool q2] 197);have u:=zB (o:=G #[.bool q1,.bool false,.bool false,.bool q2] 197) (zH g d.out.1 (lt_of_block d.out.1));have t:=zI (W:=w1) (o:=G #[.bool q1,.bool false,.bool false,.bool q2] 197) rfl;generalize b3:w1.alloc (G #[.bool q1,.bool false,.bool false,.bool q2] 197)=W1 at *;generalize b0:w1.heap.size=c1 at *;have own0:W1.ownsRow w.heap.size 3 1 (U) 0 []:=Jv W1 _ _ _;have c:=Ja (show Q w W1/\A W1 w.heap.size (C o aa ac) 76/\A W1 c1 #[.bool q1,.bool false,.bool false,.bool q2] 197/\W1.ownsRow w.heap.size 3 1 (U) 0 [] from⟨hb,u,t,own0⟩);clear b3 b0 g hb u t own0;have x2:=K2 c.out.2.1;have x3:=K3 c.out.2.1;have x5:=K5 c.out.2.1;have f1:=K1 c.out.2.2.1;have f2:=K2 c.out.2.2.1;go_upto_region 5 with fail;clear x2 x3 x5 f1 f2;have x2:=K2 c.out.2.1;have x3:=K3 c.out.2.1;have x5:=K5 c.out.2.1;have f1:=K1 c.out.2.2.1;have f2:=K2 c.out.2.2.1;go_upto_region 7 with fail;clear x2 x3 x5 f1 f2;have x2:=K2 c.out.2.1;have x3:=K3 c.out.2.1;have x5:=K5 c.out.2.1;have f1:=K1 c.out.2.2.1;have f2:=K2 c.out.2.2.1;have j:=zY.src (h.out.1.below zO (c.out.1.mono h.out.2.1));have a6:=Ja j;clear j;go_wp2_with (at_builtin;go_must (refine zK _ rfl (.tmp 26) (.tmp 28) 22 rfl w.heap.size 3 ii (I 0) 1 8 Tryz.underlying22 a7 a5 a4 a3 rfl Zd (U) 0 (([]:List Int).map zN) rfl c.out.2.2.2 _ o.args.length (o.args.map zN) rfl a6.out (by have:=h.out.2.2;unfold maxLen;omega) (by have:=h.out.2.2;omega) c.out.1.size ?_;intro v9 w9 k q b5))
 go_ret;refine⟨v9,rfl,?_,yP c.out.1 q c.out.1.size (wF c.out.2.2.2)⟩;rw[<-Js] at k;exact uA k (by simp<;>omega) b4.out
theorem uses_01(o:IOp)(ho:I64 o.code/\I64 o.res/\I64 o.a/\I64 o.b/\o.n<65536){av:Value}{B:Nat}(hB:B<=w.heap.size)(i:zY w B av o.args)(a0:o.args.length<=1000000000000)(b0:(zi o.code).a=false)(a7:(zi o.code).b=true):
 O 120 #[.agg #[I o.code,I o.res,I o.a,I o.b,M (o.n:Int),av]] w (wG w ([o.b]++o.args)):=by
 obtain⟨aa,ac,rfl,b7,b6⟩:=i.form;obtain⟨ii,a6,t,q,m⟩:=info_parts Tryz.info_int
 obtain⟨q1,q2,q3,hf⟩:∃q1 q2 q3,∀W,O 142 #[I o.code] W fun e w'=>e=.returned (.tuple #[.agg #[.bool q1,.bool false,.bool true,.bool q2],.bool q3])/\Q W w':=
  ⟨(zi o.code).res,(zi o.code).n,(zi o.code).is,fun W=>by have:=yu o.code W;unfold yX nL at this;rw[b0,a7] at this;exact this⟩
 have HF:=Ja hf;have k:=Ja (show zY w B (.slice aa o.args.length ac) o.args/\B<=w.heap.size/\o.args.length<=1000000000000 from⟨i,hB,a0⟩);have HO:=Ja ho
 have y:∀x∈ [o.b]++o.args,I64 x:=by
  intro x l;rcases Jl.1 l with l|l
  ·simp at l;rw[l];exact ho.2.2.2.1
  ·exact zY.all i x l
 have b9:=Ja y;have a5:=zI (W:=w) (o:=G (C o aa ac) 76) rfl;have b2:Q w (w.alloc (G (C o aa ac) 76)):=(Below.refl _ _).alloc (Je _) _;have h:=Ja (Jb a5 b2);clear hf i hB a0 ho y a5 b2 b7 b6 b0 a7;go_enter Tryz.func120,Tryz.ntmps120;go_upto_region 2 with(first|(go_at_call 142;go_must (refine(HF.out _).mono ?_;rintro e w1 ⟨rfl,j⟩))|go_in)
 have hb:=(h.out.2.trans (j.mono h.out.2.size)).alloc (by have:=h.out.2.size;have:=j.size;omega) (G #[.bool q1,.bool false,.bool true,.bool q2] 197);have a4:=zB (o:=G #[.bool q1,.bool false,.bool true,.bool q2] 197) (zH j h.out.1 (lt_of_block h.out.1));have a2:=zI (W:=w1) (o:=G #[.bool q1,.bool false,.bool true,.bool q2] 197) rfl;generalize b8:w1.alloc (G #[.bool q1,.bool false,.bool true,.bool q2] 197)=W1 at *;generalize b5:w1.heap.size=c1 at *;have own0:W1.ownsRow w.heap.size 3 1 (U) 0 []:=Jv W1 _ _ _;have c:=Ja (show Q w W1/\A W1 w.heap.size (C o aa ac) 76/\A W1 c1 #[.bool q1,.bool false,.bool true,.bool q2] 197/\W1.ownsRow w.heap.size 3 1 (U) 0 [] from⟨hb,a4,a2,own0⟩);clear b8 b5 j hb a4 a2 own0;have x2:=K2 c.out.2.1;have x3:=K3 c.out.2.1;have x5:=K5 c.out.2.1;have f1:=K1 c.out.2.2.1;have f2:=K2 c.out.2.2.1;go_upto_region 5 with fail;clear x2 x3 x5 f1 f2;have x2:=K2 c.out.2.1;have x3:=K3 c.out.2.1;have x5:=K5 c.out.2.1;have f1:=K1 c.out.2.2.1;have f2:=K2 c.out.2.2.1;go_upto_region 7 with(at_builtin;go_must (refine zK _ rfl (.tmp 21) (.tmp 24) 22 rfl w.heap.size 3 ii (I 0) 1 8 Tryz.underlying22 a6 t q m rfl Zd (U) 0 (([]:List Int).map zN) rfl (c.out.2.2.2.alloc _) _ 1 [I o.b] rfl (yM.one (zI Zs) (by simp[Value.oneCell'])) Zd Zd (by have:=c.out.1.size;simp;omega) ?_;intro v2 W2 f d b3))
 have b1:Q w W2:=yP (c.out.1.alloc c.out.1.size _) d (by have:=c.out.1.size;simp;omega) (wF c.out.2.2.2);have a3:=zL d (zB c.out.2.1) (zC c.out.2.2.2 c.out.2.1 (.inr Zd));have a1:=zL d (zB c.out.2.2.1) (zC c.out.2.2.2 c.out.2.2.1 (.inr Zd));have g:=Ja (show Q w W2/\A W2 w.heap.size (C o aa ac) 76/\A W2 c1 #[.bool q1,.bool false,.bool true,.bool q2] 197/\W2.ownsRow w.heap.size 3 1 v2 1 (([o.b]:List Int).map zN) from⟨b1,a3,a1,f⟩);clear x2 x3 x5 f1 f2 b1 a3 a1 f d b3;have x2:=K2 g.out.2.1;have x3:=K3 g.out.2.1;have x5:=K5 g.out.2.1;have f1:=K1 g.out.2.2.1;have f2:=K2 g.out.2.2.1;have u:=zY.src (k.out.1.below zO (g.out.1.mono k.out.2.1));have b4:=Ja u;clear u;go_wp2_with (at_builtin;go_must (refine zK _ rfl (.tmp 26) (.tmp 28) 22 rfl w.heap.size 3 ii (I 0) 1 8 Tryz.underlying22 a6 t q m rfl Zd v2 1 (([o.b]:List Int).map zN) rfl g.out.2.2.2 _ o.args.length (o.args.map zN) rfl b4.out (by have:=k.out.2.2;unfold maxLen;omega) (by have:=k.out.2.2;omega) g.out.1.size ?_;intro v9 w9 f d b3))
 go_ret;refine⟨v9,rfl,?_,yP g.out.1 d g.out.1.size (wF g.out.2.2.2)⟩;rw[<-Js] at f;exact uA f (by simp<;>omega) b9.out
theorem uses_10(o:IOp)(ho:I64 o.code/\I64 o.res/\I64 o.a/\I64 o.b/\o.n<65536){av:Value}{B:Nat}(hB:B<=w.heap.size)(i:zY w B av o.args)(a0:o.args.length<=1000000000000)(b0:(zi o.code).a=true)(a7:(zi o.code).b=false):
 O 120 #[.agg #[I o.code,I o.res,I o.a,I o.b,M (o.n:Int),av]] w (wG w ([o.a]++o.args)):=by
 obtain⟨aa,ac,rfl,b7,b6⟩:=i.form;obtain⟨ii,a6,t,q,m⟩:=info_parts Tryz.info_int
 obtain⟨q1,q2,q3,hf⟩:∃q1 q2 q3,∀W,O 142 #[I o.code] W fun e w'=>e=.returned (.tuple #[.agg #[.bool q1,.bool true,.bool false,.bool q2],.bool q3])/\Q W w':=
  ⟨(zi o.code).res,(zi o.code).n,(zi o.code).is,fun W=>by have:=yu o.code W;unfold yX nL at this;rw[b0,a7] at this;exact this⟩
 have HF:=Ja hf;have k:=Ja (show zY w B (.slice aa o.args.length ac) o.args/\B<=w.heap.size/\o.args.length<=1000000000000 from⟨i,hB,a0⟩);have HO:=Ja ho
 have y:∀x∈ [o.a]++o.args,I64 x:=by
  intro x l;rcases Jl.1 l with l|l
  ·simp at l;rw[l];exact ho.2.2.1
  ·exact zY.all i x l
 have b9:=Ja y;have a5:=zI (W:=w) (o:=G (C o aa ac) 76) rfl;have b2:Q w (w.alloc (G (C o aa ac) 76)):=(Below.refl _ _).alloc (Je _) _;have h:=Ja (Jb a5 b2);clear hf i hB a0 ho y a5 b2 b7 b6 b0 a7;go_enter Tryz.func120,Tryz.ntmps120;go_upto_region 2 with(first|(go_at_call 142;go_must (refine(HF.out _).mono ?_;rintro e w1 ⟨rfl,j⟩))|go_in)
 have hb:=(h.out.2.trans (j.mono h.out.2.size)).alloc (by have:=h.out.2.size;have:=j.size;omega) (G #[.bool q1,.bool true,.bool false,.bool q2] 197);have a4:=zB (o:=G #[.bool q1,.bool true,.bool false,.bool q2] 197) (zH j h.out.1 (lt_of_block h.out.1));have a2:=zI (W:=w1) (o:=G #[.bool q1,.bool true,.bool false,.bool q2] 197) rfl;generalize b8:w1.alloc (G #[.bool q1,.bool true,.bool false,.bool q2] 197)=W1 at *;generalize b5:w1.heap.size=c1 at *;have own0:W1.ownsRow w.heap.size 3 1 (U) 0 []:=Jv W1 _ _ _;have c:=Ja (show Q w W1/\A W1 w.heap.size (C o aa ac) 76/\A W1 c1 #[.bool q1,.bool true,.bool false,.bool q2] 197/\W1.ownsRow w.heap.size 3 1 (U) 0 [] from⟨hb,a4,a2,own0⟩);clear b8 b5 j hb a4 a2 own0;have x2:=K2 c.out.2.1;have x3:=K3 c.out.2.1;have x5:=K5 c.out.2.1;have f1:=K1 c.out.2.2.1;have f2:=K2 c.out.2.2.1;go_upto_region 5 with(at_builtin;go_must (refine zK _ rfl (.tmp 14) (.tmp 17) 22 rfl w.heap.size 3 ii (I 0) 1 8 Tryz.underlying22 a6 t q m rfl Zd (U) 0 (([]:List Int).map zN) rfl (c.out.2.2.2.alloc _) _ 1 [I o.a] rfl (yM.one (zI Zs) (by simp[Value.oneCell'])) Zd Zd (by have:=c.out.1.size;simp;omega) ?_;intro v2 W2 g d b3))
 have b1:Q w W2:=yP (c.out.1.alloc c.out.1.size _) d (by have:=c.out.1.size;simp;omega) (wF c.out.2.2.2);have a3:=zL d (zB c.out.2.1) (zC c.out.2.2.2 c.out.2.1 (.inr Zd));have a1:=zL d (zB c.out.2.2.1) (zC c.out.2.2.2 c.out.2.2.1 (.inr Zd));have f:=Ja (show Q w W2/\A W2 w.heap.size (C o aa ac) 76/\A W2 c1 #[.bool q1,.bool true,.bool false,.bool q2] 197/\W2.ownsRow w.heap.size 3 1 v2 1 (([o.a]:List Int).map zN) from⟨b1,a3,a1,g⟩);clear x2 x3 x5 f1 f2 b1 a3 a1 g d b3;have x2:=K2 f.out.2.1;have x3:=K3 f.out.2.1;have x5:=K5 f.out.2.1;have f1:=K1 f.out.2.2.1;have f2:=K2 f.out.2.2.1;go_upto_region 7 with fail;clear x2 x3 x5 f1 f2;have x2:=K2 f.out.2.1;have x3:=K3 f.out.2.1;have x5:=K5 f.out.2.1;have f1:=K1 f.out.2.2.1;have f2:=K2 f.out.2.2.1;have u:=zY.src (k.out.1.below zO (f.out.1.mono k.out.2.1));have b4:=Ja u;clear u;go_wp2_with (at_builtin;go_must (refine zK _ rfl (.tmp 26) (.tmp 28) 22 rfl w.heap.size 3 ii (I 0) 1 8 Tryz.underlying22 a6 t q m rfl Zd v2 1 (([o.a]:List Int).map zN) rfl f.out.2.2.2 _ o.args.length (o.args.map zN) rfl b4.out (by have:=k.out.2.2;unfold maxLen;omega) (by have:=k.out.2.2;omega) f.out.1.size ?_;intro v9 w9 g d b3))
 go_ret;refine⟨v9,rfl,?_,yP f.out.1 d f.out.1.size (wF f.out.2.2.2)⟩;rw[<-Js] at g;exact uA g (by simp<;>omega) b9.out
theorem uses_11(o:IOp)(ho:I64 o.code/\I64 o.res/\I64 o.a/\I64 o.b/\o.n<65536){av:Value}{B:Nat}(hB:B<=w.heap.size)(u:zY w B av o.args)(a4:o.args.length<=1000000000000)(b2:(zi o.code).a=true)(b1:(zi o.code).b=true):
 O 120 #[.agg #[I o.code,I o.res,I o.a,I o.b,M (o.n:Int),av]] w (wG w ([o.a,o.b]++o.args)):=by
 obtain⟨aa,ac,rfl,b7,b6⟩:=u.form;obtain⟨ii,a5,t,q,m⟩:=info_parts Tryz.info_int
 obtain⟨q1,q2,q3,hf⟩:∃q1 q2 q3,∀W,O 142 #[I o.code] W fun e w'=>e=.returned (.tuple #[.agg #[.bool q1,.bool true,.bool true,.bool q2],.bool q3])/\Q W w':=
  ⟨(zi o.code).res,(zi o.code).n,(zi o.code).is,fun W=>by have:=yu o.code W;unfold yX nL at this;rw[b2,b1] at this;exact this⟩
 have HF:=Ja hf;have a1:=Ja (show zY w B (.slice aa o.args.length ac) o.args/\B<=w.heap.size/\o.args.length<=1000000000000 from⟨u,hB,a4⟩);have HO:=Ja ho
 have a3:∀x∈ [o.a,o.b]++o.args,I64 x:=by
  intro x hx;rcases Jl.1 hx with hx|hx
  ·simp at hx;rcases hx with rfl|rfl;exact ho.2.2.1;exact ho.2.2.2.1
  ·exact zY.all u x hx
 have b9:=Ja a3;have b0:=zI (W:=w) (o:=G (C o aa ac) 76) rfl;have b3:Q w (w.alloc (G (C o aa ac) 76)):=(Below.refl _ _).alloc (Je _) _;have l:=Ja (Jb b0 b3);clear hf u hB a4 ho a3 b0 b3 b7 b6 b2 b1;go_enter Tryz.func120,Tryz.ntmps120;go_upto_region 2 with(first|(go_at_call 142;go_must (refine(HF.out _).mono ?_;rintro e w1 ⟨rfl,y⟩))|go_in)
 have hb:=(l.out.2.trans (y.mono l.out.2.size)).alloc (by have:=l.out.2.size;have:=y.size;omega) (G #[.bool q1,.bool true,.bool true,.bool q2] 197);have a7:=zB (o:=G #[.bool q1,.bool true,.bool true,.bool q2] 197) (zH y l.out.1 (lt_of_block l.out.1));have a6:=zI (W:=w1) (o:=G #[.bool q1,.bool true,.bool true,.bool q2] 197) rfl;generalize b8:w1.alloc (G #[.bool q1,.bool true,.bool true,.bool q2] 197)=W1 at *;generalize b5:w1.heap.size=c1 at *;have own0:W1.ownsRow w.heap.size 3 1 (U) 0 []:=Jv W1 _ _ _;have g:=Ja (show Q w W1/\A W1 w.heap.size (C o aa ac) 76/\A W1 c1 #[.bool q1,.bool true,.bool true,.bool q2] 197/\W1.ownsRow w.heap.size 3 1 (U) 0 [] from⟨hb,a7,a6,own0⟩);clear b8 b5 y hb a7 a6 own0;have x2:=K2 g.out.2.1;have x3:=K3 g.out.2.1;have x5:=K5 g.out.2.1;have f1:=K1 g.out.2.2.1;have f2:=K2 g.out.2.2.1;go_upto_region 5 with(at_builtin;go_must (refine zK _ rfl (.tmp 14) (.tmp 17) 22 rfl w.heap.size 3 ii (I 0) 1 8 Tryz.underlying22 a5 t q m rfl Zd (U) 0 (([]:List Int).map zN) rfl (g.out.2.2.2.alloc _) _ 1 [I o.a] rfl (yM.one (zI Zs) (by simp[Value.oneCell'])) Zd Zd (by have:=g.out.1.size;simp;omega) ?_;intro v2 W2 d c a0))
 have k:Q w W2:=yP (g.out.1.alloc g.out.1.size _) c (by have:=g.out.1.size;simp;omega) (wF g.out.2.2.2);have j:=zL c (zB g.out.2.1) (zC g.out.2.2.2 g.out.2.1 (.inr Zd));have i:=zL c (zB g.out.2.2.1) (zC g.out.2.2.2 g.out.2.2.1 (.inr Zd));have f:=Ja (show Q w W2/\A W2 w.heap.size (C o aa ac) 76/\A W2 c1 #[.bool q1,.bool true,.bool true,.bool q2] 197/\W2.ownsRow w.heap.size 3 1 v2 1 (([o.a]:List Int).map zN) from⟨k,j,i,d⟩);clear x2 x3 x5 f1 f2 k j i d c a0;have x2:=K2 f.out.2.1;have x3:=K3 f.out.2.1;have x5:=K5 f.out.2.1;have f1:=K1 f.out.2.2.1;have f2:=K2 f.out.2.2.1;go_upto_region 7 with(at_builtin;go_must (refine zK _ rfl (.tmp 21) (.tmp 24) 22 rfl w.heap.size 3 ii (I 0) 1 8 Tryz.underlying22 a5 t q m rfl Zd v2 1 (([o.a]:List Int).map zN) rfl (f.out.2.2.2.alloc _) _ 1 [I o.b] rfl (yM.one (zI Zs) (by simp[Value.oneCell'])) Zd Zd (by have:=f.out.1.size;simp;omega) ?_;intro v3 W3 d c a0))
 have k:Q w W3:=yP (f.out.1.alloc f.out.1.size _) c (by have:=f.out.1.size;simp;omega) (wF f.out.2.2.2);have j:=zL c (zB f.out.2.1) (zC f.out.2.2.2 f.out.2.1 (.inr Zd));have i:=zL c (zB f.out.2.2.1) (zC f.out.2.2.2 f.out.2.2.1 (.inr Zd));have h:=Ja (show Q w W3/\A W3 w.heap.size (C o aa ac) 76/\A W3 c1 #[.bool q1,.bool true,.bool true,.bool q2] 197/\W3.ownsRow w.heap.size 3 1 v3 2 (([o.a,o.b]:List Int).map zN) from⟨k,j,i,d⟩);clear x2 x3 x5 f1 f2 k j i d c a0;have x2:=K2 h.out.2.1;have x3:=K3 h.out.2.1;have x5:=K5 h.out.2.1;have f1:=K1 h.out.2.2.1;have f2:=K2 h.out.2.2.1;have a2:=zY.src (a1.out.1.below zO (h.out.1.mono a1.out.2.1));have b4:=Ja a2;clear a2;go_wp2_with (at_builtin;go_must (refine zK _ rfl (.tmp 26) (.tmp 28) 22 rfl w.heap.size 3 ii (I 0) 1 8 Tryz.underlying22 a5 t q m rfl Zd v3 2 (([o.a,o.b]:List Int).map zN) rfl h.out.2.2.2 _ o.args.length (o.args.map zN) rfl b4.out (by have:=a1.out.2.2;unfold maxLen;omega) (by have:=a1.out.2.2;omega) h.out.1.size ?_;intro v9 w9 d c a0))
 go_ret;refine⟨v9,rfl,?_,yP h.out.1 c h.out.1.size (wF h.out.2.2.2)⟩;rw[<-Js] at d;exact uA d (by simp<;>omega) b9.out
theorem uses_any(o:IOp)(ho:I64 o.code/\I64 o.res/\I64 o.a/\I64 o.b/\o.n<65536){av:Value}{B:Nat}(h:B<=w.heap.size)(d:zY w B av o.args)(c:o.args.length<=1000000000000):
 O 120 #[.agg #[I o.code,I o.res,I o.a,I o.b,M (o.n:Int),av]] w (wG w (rR o)):=by
 unfold rR;cases g:(zi o.code).a<;>cases f:(zi o.code).b
 ·exact uses_00 o ho h d c g f
 ·exact uses_01 o ho h d c g f
 ·exact uses_10 o ho h d c g f
 ·exact uses_11 o ho h d c g f
theorem jV(hv:zw g)(hr:∀x,x<g.length->Reach (GE g) x)(i:c<g.length):
 (pP g c=-1/\∀d,d≠c->wE g d c=false)∨∃c':Nat,pP g c=(c':Int)/\c'<g.length/\(∀d,d≠c->wE g d c'=wE g d c)/\wh (vD g) c'<wh (vD g) c:=by
 rcases idomOf hv c with⟨h1,h2⟩|⟨c',h1,h2,h3,l⟩
 ·exact .inl ⟨h1,fun d hd=>by cases h:wE g d c with|false=>rfl|true=>exact(h2 d hd h).elim⟩
 ·have hb:=(yO hv c' c).1 h3;refine .inr ⟨c',h1,(cA hv h3).1,fun d hd=>?_,?_⟩
  ·rw[Bool.eq_iff_iff];constructor
   ·intro h;have j:=(yO hv d c').1 h;exact(yO hv d c).2 ⟨j.1,hr c i,oZ j.2.2 hb.2.2⟩
   ·intro h;exact(yO hv d c').2 ⟨((yO hv d c).1 h).1,hb.1,l d hd h⟩
  ·obtain⟨ns,f⟩:=adR hv;obtain⟨D,k⟩:=f.dom;rw[f.eq];have hm:=k.dom_mem ((f.mem c).2 (hr c i)) hb.2.2;rcases Nat.lt_or_eq_of_le hm.2 with h|h
   ·exact h
   ·exact absurd (ou f.nodup hm.1 ((f.mem c).2 (hr c i)) h) h2
theorem lC(hv:zw g)(hr:∀x,x<g.length->Reach (GE g) x)(d:c<g.length):wE g c c=true:=(yO hv c c).2 ⟨hr c d,hr c d,rF _ _⟩
def nS (g:List (List Nat))(db i:Nat)(x:Int):Prop:=(x=-1/\wE g db i=false)∨∃c:Nat,x=(c:Int)/\c<g.length/\wE g db c=wE g db i
def oQ (g:List (List Nat))(x:Int):Nat:=if x=-1 then 0 else wh (vD g) x.toNat+1
theorem lT(hv:zw g)(hr:∀x,x<g.length->Reach (GE g) x){db i:Nat}(f:c<g.length)(h:wE g db c=wE g db i)(d:c≠db):
 ∃y,(wQ g)[c]? =some y/\nS g db i y/\oQ g y<oQ g c:=by
 refine⟨pP g c,by unfold wQ;rw[Jr,Oh f];rfl,?_⟩;rcases jV hv hr f with⟨h1,h2⟩|⟨c',h1,h2,h3,j⟩
 ·rw[h1];refine⟨.inl ⟨rfl,by rw[<-h];exact h2 db (Ne.symm d)⟩,?_⟩;unfold oQ;rw[if_pos rfl,if_neg Zo];omega
 ·rw[h1];refine⟨.inr ⟨c',rfl,h2,by rw[h3 db (Ne.symm d)];exact h⟩,?_⟩;unfold oQ;rw[if_neg Zo,if_neg Zo,Ni,Ni];omega
theorem j8 (g:List (List Nat)):(wQ g).length=g.length:=by simp[wQ]
theorem case_dfd:∀q1 q2:Bool,(q1=true/\q2=true)∨(q1=true/\q2=false)∨(q1=false)
 |true,true=> .inl ⟨rfl,rfl⟩
 |true,false=> .inr (.inl ⟨rfl,rfl⟩)
 |false,_=> .inr (.inr rfl)
theorem qI{C n:Nat}{e2 b8:Value}{d:wO}(hc:ChkAt w C m1 m2 pv e2 b8 n d)(hv:zw g)(hr:∀x,x<g.length->Reach (GE g) x)(e6:g.length<=2000000)
 (a5:zY w w.heap.size b8 (wQ g)) (hd:∀v b,d.1 v=some b->0<=b/\b.toNat<g.length) {l:List Int} {lv:Value} (hl:zY w w.heap.size lv l) (i:Nat) (hi:i<g.length) (k:Int) (hk:I64 k):
 O 119 #[F C,lv,I i,I k] w (ym w (l.all (yy d g i k))):=by
 obtain⟨la,lc,rfl,d5,d4⟩:=hl.form;obtain⟨da,dc,rfl,c5,d6⟩:=a5.form;rw[j8] at a5 c5 hc;have e5:l.length<=9223372036854775807:=Zo;obtain⟨hb,d2,c4,c3,d3,b3⟩:=hc
 obtain⟨p0,p1,p2,p3,p4,p5,rfl⟩:∃a b c d e f,pv=[a,b,c,d,e,f]:=by
  match pv,d2 with
  | [a,b,c,d,e,f],_=>exact⟨a,b,c,d,e,f,rfl⟩
 have e8:T w C 7 (.map (some m1)):=zA hb rfl;have e7:T w C 8 (.map (some m2)):=zA hb rfl;have f0:T w C 9 (.slice da g.length dc):=zA hb rfl;have u:=Ja (show wA w m1 n d.1/\wA w m2 n d.2/\(∀x,(d.1 x).isSome=(d.2 x).isSome)/\zw g/\(∀x,x<g.length->Reach (GE g) x)/\(∀v b,d.1 v=some b->0<=b/\b.toNat<g.length)/\i<g.length from⟨c4,c3,b3,hv,hr,hd,hi⟩);have HL:=Ja (show zY w w.heap.size (.slice la l.length lc) l/\zY w w.heap.size (.slice da g.length dc) (wQ g) from⟨hl,a5⟩);obtain⟨res,a1⟩:∃x,l.all (yy d g i k)=x:=⟨_,rfl⟩
 rw[a1];have t:=Ja a1;clear a1 hb c4 c3 d3 b3 hv hr hd hi hl a5 d5 d4 c5 d6;go_enter Tryz.func119,Tryz.ntmps119;generalize e1:w=W0 at *;clear e1;go_wp2
 go_loopw [16] (fun jv wx=>∃j:Nat,j<=l.length/\jv=I j/\wx=W0/\Hid ((l.take j).all (yy d g i k)=true)) (fun jv _=>l.length-(intOf jv).toNat)
 case atStart=>exact⟨0,Jt _,rfl,rfl,by rfl⟩
 case round=>
  obtain⟨j,hj,rfl,rfl,HJ⟩:=hrel;generalize e0:wr=W0 at *;clear e0
  by_cases a4:j<l.length
  ·have c8:(j:Int)<l.length:=Zo;have c7:=Ja a4;obtain⟨v,a3⟩:∃v,l[j]? =some v:=⟨_,Jd a4⟩
   obtain⟨b,o,rfl,hb,b7,a7⟩:=HL.out.1.get a3;rw[Nk] at b7;have b0:=u.out.1.lookOk a7;have b1:=u.out.2.1.look a7;have HT:=Ja (show(l.take (j+1)).all (yy d g i k)=((l.take j).all (yy d g i k) && yy d g i k v)/\(yy d g i k v=false->l.all (yy d g i k)=false) from⟨xX _ a3,fun h=>aaN _ a3 h⟩);clear a3 hb a4
   cases h1:d.1 v with
   |none=>
    rw[h1] at b0;have HN:=Ja (show yy d g i k v=false by unfold yy;rw[h1]);clear h1 b1;go_wp2;go_ret
    exact⟨uz (t.out.symm.trans (HT.out.2 HN.out)),Below.refl _ _⟩
   |some bz=>
    obtain⟨az,h2⟩:∃a,d.2 v=some a:=by
     have:=u.out.2.2.1 v;rw[h1] at this
     cases h:d.2 v with
     |none=>rw[h] at this;cases this
     |some a=>exact⟨a,rfl⟩
    obtain⟨d9,b6⟩:=u.out.2.2.2.2.2.1 v bz h1;obtain⟨db,rfl⟩:∃m:Nat,bz=(m:Int):=⟨bz.toNat,by omega⟩
    rw[Ni] at b6;rw[h1] at b0;rw[h2] at b1;simp only[Ot,Option.isSome_some] at b0 b1;have b2:yy d g i k v=(!(decide ((db:Int)=(i:Int)) && decide (k<=az)) && wE g db i):=by unfold yy;rw[h1,h2];rfl
    obtain⟨q1,a0⟩:∃q,decide ((db:Int)=(i:Int))=q:=⟨_,rfl⟩
    obtain⟨q2,d1⟩:∃q,decide (k<=az)=q:=⟨_,rfl⟩
    rw[a0,d1] at b2;have t1:(db==i)=q1:=by rw[<-a0];simp only[Bool.beq_eq_decide_eq,Int.natCast_inj]
    have d0:((db:Int)==(i:Int))=q1:=yv a0;have c9:decide (db=i)=q1:=zZ a0 Zo;have HK:=Ja (show yy d g i k v=(!(q1 && q2) && wE g db i)/\db<g.length from⟨b2,b6⟩);clear h1 h2 b2 d9 b6 a0;rcases case_dfd q1 q2 with⟨rfl,rfl⟩|⟨rfl,rfl⟩|rfl
    ·have HN:=Ja (show yy d g i k v=false from HK.out.1);go_wp2;go_ret;exact⟨uz (t.out.symm.trans (HT.out.2 HN.out)),Below.refl _ _⟩
    all_goals (
     have HN:=Ja (show yy d g i k v=wE g db i from by rw[HK.out.1];rfl);have e3:=Ja (show nS g db i (i:Int) from .inr ⟨i,rfl,u.out.2.2.2.2.2.2,rfl⟩);go_wp2
     go_loopw [13] (fun xv wx=>∃x:Int,xv=I x/\W0=wx/\Hid (nS g db i x)) (fun xv _=>oQ g (intOf xv))
     case atStart=>exact⟨_,rfl,rfl,e3⟩
     case round=>
      obtain⟨x,rfl,rfl,HX⟩:=hrel;rcases HX.out with⟨rfl,c2⟩|⟨c,rfl,b4,a6⟩
      ·have u1:((-1:Int) !=(db:Int))=true:=by rw[bne_iff_ne];omega
       have HF:=Ja (HN.out.trans c2);clear c2;go_wp2;go_ret;exact⟨uz (t.out.symm.trans (HT.out.2 HF.out)),Below.refl _ _⟩
      ·by_cases b5:c=db
       ·subst b5;have HY:=Ja (show yy d g i k v=true by rw[HN.out,<-a6];exact lC u.out.2.2.2.1 u.out.2.2.2.2.1 b4);have u1:((c:Int) !=(c:Int))=false:=by rw[bne_eq_false_iff_eq]
        clear a6 b4 t1 d0 c9;go_wp2;go_roundw
        case rel=>exact⟨j+1,c7.out,by go_num,by trivial,Ja (by rw[HT.out.1,HJ.out,HY.out];rfl)⟩
        case measure=>have:=c7.out;simp[intOf];omega
       ·have u1:((c:Int) !=(db:Int))=true:=by rw[bne_iff_ne];omega
        have u2:((c:Int) !=-1)=true:=by rw[bne_iff_ne];omega
        obtain⟨y,hy,c1,c0⟩:=lT u.out.2.2.2.1 u.out.2.2.2.2.1 b4 a6 b5;obtain⟨b9,o9,rfl,d8,d7,_⟩:=HL.out.2.get hy;rw[Nk] at d7;have HY:=Ja (Jb c1 c0);have e4:(c:Int)<g.length:=Zo;clear a6 b5 hy c1 c0 d8;go_wp2;go_roundw
        case rel=>exact⟨y,rfl,by trivial,Ja HY.out.1⟩
        case measure=>have:=HY.out.2;simpa[intOf] using this)
  ·obtain rfl:j=l.length:=by omega
   have c8:¬(l.length:Int)<l.length:=Zo;have a2:=HJ.out;rw[Nl] at a2;have HA:=Ja a2;clear a4 a2;go_wp2;go_ret;exact⟨uz (t.out.symm.trans HA.out),Below.refl _ _⟩
end Go.Proofs.YtoahcpkibpomcaaGreat
namespace Go.Proofs
open Go.Shelf
def Tryz.lays212_ren:Go.Shelf.Ren:=⟨fun|212=>151|263=>157|264=>158|n=>n,fun|46=>92|51=>50|146=>220|53=>181|148=>222|n=>n,fun|n=>n⟩
theorem Tryz.lays212:Go.Proofs.Lays.n212 Tryz.prog Tryz.lays212_ren:= {
 mixed:=by kernel_rfl
 f212:=Tryz.func151.trans (congrArg some (by kernel_rfl))
 f263:=Tryz.func157.trans (congrArg some (by kernel_rfl))
 f264:=Tryz.func158.trans (congrArg some (by kernel_rfl))
 t46:=Tryz.underlying92
 a46:=Tryz.isAgg92
 z46:=Tryz.sizeOf92
 v46:=Tryz.zeroValue92
 t51:=Tryz.underlying50
 a51:=Tryz.isAgg50
 z51:=Tryz.sizeOf50
 v51:=Tryz.zeroValue50
 t53:=Tryz.underlying181
 a53:=Tryz.isAgg181
 z53:=Tryz.sizeOf181
 v53:=Tryz.zeroValue181
 t146:=Tryz.underlying220
 a146:=Tryz.isAgg220
 z146:=Tryz.sizeOf220
 v146:=Tryz.zeroValue220
 t148:=Tryz.underlying222
 a148:=Tryz.isAgg222
 z148:=Tryz.sizeOf222
 v148:=Tryz.zeroValue222 }
open Go.RowKit Go.Lib in
theorem Tryz.bits_Mul (x y:Nat)(d:x<18446744073709551616)(c:y<18446744073709551616)(w:World):
 Calls Tryz.prog 151 #[.int .u64 x,.int .u64 y] w fun e w'=>e=.returned (.tuple #[.int .u64 ((x*y/18446744073709551616:Nat):Int),.int .u64 ((x*y%18446744073709551616:Nat):Int)])/\w'=w:=Any.bits_Mul Tryz.lays212 x y d c w
end Go.Proofs
set_option maxRecDepth 8000
namespace Go.Proofs.YtoahcpkibpomcaaGreat
open Go.RowKit Go.Shelf
variable {W W0 w w' w0 w1 w2:World}{B0 bh bm bp c d m m1 m2 nm x:Nat}{R:List (List Int)}{g preds:List (List Nat)}{o:Obj}{P:Program}{pv:List Value}{f:Int->Int}{ov:Value}{xs:List Nat}
attribute [local go_sem] Oper.semAt_some
def aaT (Bv Bn n:Nat)(xs:List Nat)(bv bp op len cap:Nat)(ar:Option Addr)(capr:Nat)(W:World):Prop:=
 T W Bv 0 (F bv)/\T W Bn 0 (I n)/\T W bv 2 (.slice (some ⟨bp,op,none⟩) len cap)/\n<len/\
  T W bp (op+n) (.slice ar xs.length capr)/\∀(j:Nat) (x:Nat),xs[j]? =some x->∃b o,ar=some ⟨b,o,none⟩/\T W b (o+j) (I x)
theorem aH (m:Nat)(hm:1<=m)(l Bv Bn n:Nat)(xs:List Nat)(bv bp op len f:Nat)(ar:Option Addr)(c:Nat)(hx:xs.length<=4000004000000)(J Jx:List Nat->World->Prop)
 (y:∀(pre:List Nat) (x:Nat) (W:World),J pre W->xs[pre.length]? =some x->YieldAt Fence.wide (m-1) Tryz.prog l #[I x] W fun e W'=>
   (e=.returned (.bool true)/\J (pre++ [x]) W'/\(aaT Bv Bn n xs bv bp op len f ar c W->aaT Bv Bn n xs bv bp op len f ar c W'))∨(e=.returned (.bool false)/\Jx (pre++ [x]) W'))
 (a0:∀pre W k,J pre W->J pre (W.drewN k)) (W:World) (hR:aaT Bv Bn n xs bv bp op len f ar c W) (h0:J [] W):
 CallsIn Fence.wide m Tryz.prog 152 #[.func (.yield l) #[] #[],F Bv,F Bn] W fun e W'=>(∃v,e=.returned v)/\
  ((∃ys,ys=xs/\J ys W')∨(∃pre,pre<+:xs/\Jx pre W')):=by
 have a2:=Ja hR;obtain⟨c1,c2,c3,hn,c4,hc⟩:=hR;have a5:(n:Int)<len:=Zo;refine callsIn_of_wp Tryz.func152 rfl trivial ?_ rfl;simp only[Tryz.ntmps152,List.size_toArray,Nq,Ow,Nat.reduceAdd,Nat.reduceSub,Array.replicate_succ,Array.replicate_zero,List.push_toArray,List.append_toArray,Op,List.cons_append]
 gi_wp2
 gi_region
 gi_wp2
 gi_loopw [14] (fun i wr=>∃k:Nat,k<=xs.length/\i=I k/\J (xs.take k) wr/\Hid (aaT Bv Bn n xs bv bp op len f ar c wr)) (fun i _=>xs.length-(intOf i).toNat)
 case atStart=>exact⟨0,Jt _,rfl,a0 _ _ 1 h0,a2⟩
 case round=>
  obtain⟨k,hk,rfl,h,HR⟩:=hrel
  by_cases t:k<xs.length
  ·obtain⟨x,d⟩:∃x,xs[k]? =some x:=⟨_,Jd t⟩
   obtain⟨b,o,w,a6⟩:=HR.out.2.2.2.2.2 k x d;obtain⟨fn,a3,assign,body,hy,hR⟩:=y _ x wr h (by rw[Oc,Ud hk];exact d);have g:xs.take (k+1)=xs.take k++ [x]:=by rw[Nh,d];rfl
   have j:=Ja g;have a7:=Ja d;have a4:(k:Int)<xs.length:=Zo;subst w;clear d g c1 c2 c3 c4 hc y
   gi_wp2
   refine hR.mono ?_;rintro e W3 (⟨rfl,a1,u⟩|⟨rfl,q⟩)
   ·gi_wp2
    go_roundw
    case rel=>exact⟨k+1,by omega,by go_num,by rw[j.out];exact a1,u HR⟩
    case measure=>simp[intOf];omega
   ·gi_wp2
    refine bodyPost_ret (results_none rfl _ _ _) rfl ?_;exact⟨⟨_,rfl⟩,.inr ⟨_,by rw[<-j.out];exact List.take_prefix _ _,q⟩⟩
  ·obtain rfl:k=xs.length:=by omega
   gi_wp2
   go_end0
   exact⟨⟨_,rfl⟩,.inl ⟨_,Nl,h⟩⟩
theorem lj (p:Option Addr)(n:Int)(w:World):
 O 147 #[.pointer p,I n] w fun e w'=>e=.returned (.func (.func 152) #[] #[F w.heap.size,F (w.heap.size+1)])/\
  w'=(w.alloc (G #[.pointer p] 192)).alloc (G #[I n] 3):=by
 go_enter Tryz.func147,Tryz.ntmps147;go_wp2;go_ret;exact⟨rfl,rfl⟩
theorem aaT.below{Bv Bn n bv op len f C:Nat}{ar:Option Addr}{W':World}(h:aaT Bv Bn n xs bv bp op len f ar d W)(hb:Below C W W')(k:W.heap.size<=C):aaT Bv Bn n xs bv bp op len f ar d W':=by
 obtain⟨c1,c2,c3,g,c4,i⟩:=h;have up:∀ {a:Addr} {v:Value},W.cell? a=some v->W'.cell? a=some v:=fun {a v} h=>(hb.cell (Jy (Jw W a h) k)).trans h
 refine⟨up c1,up c2,up c3,g,up c4,fun j x hj=>?_⟩;obtain⟨b,o,e,c⟩:=i j x hj;exact⟨b,o,e,up c⟩
theorem mC{k:Nat}(h:xs[k]? =some x):xs.attach.take (k+1)=xs.attach.take k++ [⟨x,Ji h⟩]:=by
 rw[Nh]
 congr 1
 obtain⟨c,rfl⟩:=Jh.1 h;rw[Jd (by simpa using c)];simp
theorem nH (m:Nat)(hm:1<=m)(Bv Bn n:Nat)(xs:List Nat)(bv bp op len f:Nat)(ar:Option Addr)(d:Nat)(g:xs.length<=4000004000000)(w:World)(i:aaT Bv Bn n xs bv bp op len f ar d w):
 SeqStopsK Fence.wide m Tryz.prog 152 #[F Bv,F Bn] (fun x: {p//p∈xs}=> #[I (x.1:Int)]) (fun W W'=>aaT Bv Bn n xs bv bp op len f ar d W->aaT Bv Bn n xs bv bp op len f ar d W')
  (fun ys=>ys.map (·.1)=xs) (fun _=>True) xs.length w:=fun l J Jx W hW hJ _ hY h0=>by
 refine(aH m hm l Bv Bn n xs bv bp op len f ar d g (fun c W=>J (xs.attach.take c.length) W) (fun c W=>Jx (xs.attach.take c.length) W) (fun c x W1 h1 h2=>?_)
  (fun c W1 k h=>hJ _ W1 (W1.drewN k) none h ⟨rfl,rfl,rfl,Je _,fun _ _ _=>rfl⟩ (fun _ e=>by cases e)) W (i.below hW (Je _)) (by simpa using h0)).mono ?_
 ·have j:c.length<xs.length:=(Jh.1 h2).1;refine(hY _ ⟨x,Ji h2⟩ W1 h1 (by rw[Oc,List.length_attach];omega)).mono ?_;rw[Jk,Ju,mC h2];exact fun e w' h=>h
 ·rintro e w' ⟨hv,(⟨ys,rfl,h⟩|⟨c,_,h⟩)⟩
  ·exact⟨hv,.inl ⟨_,by simp,h⟩⟩
  ·exact⟨hv,.inr ⟨_,trivial,h⟩⟩
end Go.Proofs.YtoahcpkibpomcaaGreat
