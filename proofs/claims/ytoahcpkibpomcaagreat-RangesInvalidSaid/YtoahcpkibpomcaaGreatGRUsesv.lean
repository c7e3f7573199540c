/- Part of a proof. -/
import Derived.Test.YtoahcpkibpomcaaGreatGQStep4v
set_option linter.all false
set_option maxHeartbeats 2000000
set_option maxRecDepth 100000
namespace Go.Proofs.YtoahcpkibpomcaaGreat
open Go.RowKit
variable {P:Program}{w:World}{c i oa ob oc:Int}{d d':wO}{o:IOp}{l:List Int}{bl blocks:List IBlk}{k on:Nat}
theorem xY (n:Int):IntKind.u16.wrap n=n%65536:=by rw[IntKind.wrap_u16]
theorem mH (a:Nat)(h:a<65536):IntKind.i16.wrap (a:Int)=s16 a:=by
 unfold s16;show(if(true && decide ((a:Int)%2^16≥(2^15:Int))) then(a:Int)%2^16-2^16 else(a:Int)%2^16)=_;by_cases h2:a<32768
 ·rw[if_neg Zt,if_pos h2];omega
 ·rw[if_pos Zt,if_neg h2];omega
theorem ar5 (a b:Nat):IntKind.u16.wrap ((a:Int)+b)=((yW 5 a b:Nat):Int):=by rw[xY];show _=(((a+b)%65536:Nat):Int);omega
theorem ar6 (a b:Nat)(hb:b<65536):IntKind.u16.wrap ((a:Int)-b)=((yW 6 a b:Nat):Int):=by rw[xY];show _=(((a+(65536-b))%65536:Nat):Int);omega
theorem ar7 (a b:Nat):IntKind.u16.wrap ((a:Int)*b)=((yW 7 a b:Nat):Int):=by
 rw[xY];show _=((a*b%65536:Nat):Int);rw[Ou,Int.natCast_mul];rfl
theorem ar8 (a b:Nat)(c:a<65536):IntKind.u16.wrap ((a:Int)/b)=((yW 8 a b:Nat):Int):=by
 rw[xY];show _=((a/b:Nat):Int);rw[<-Int.natCast_ediv];have:=Nat.div_le_self a b;generalize a/b=x at *;omega
theorem ar9 (a b:Nat)(c:a<65536)(hb:b<65536):bits .and .u16 (a:Int) b=((yW 9 a b:Nat):Int):=(bits_nat .u16 16 Zd wraps_u16 a b c hb).1
theorem ar10 (a b:Nat)(c:a<65536)(hb:b<65536):bits .or .u16 (a:Int) b=((yW 10 a b:Nat):Int):=(bits_nat .u16 16 Zd wraps_u16 a b c hb).2
theorem ar11 (a b:Nat)(c:a<65536)(hb:b<65536):bits .xor .u16 (a:Int) b=((yW 11 a b:Nat):Int):=by
 show IntKind.u16.wrap (((BitVec.ofInt 16 (a:Int))^^^(BitVec.ofInt 16 (b:Int))).toNat:Int)=((a^^^b:Nat):Int)
 have e1:(BitVec.ofInt 16 (a:Int)).toNat=a:=by rw[BitVec.ofInt_natCast,BitVec.toNat_ofNat];exact Nat.mod_eq_of_lt c
 have e2:(BitVec.ofInt 16 (b:Int)).toNat=b:=by rw[BitVec.ofInt_natCast,BitVec.toNat_ofNat];exact Nat.mod_eq_of_lt hb
 rw[BitVec.toNat_xor,e1,e2,xY];have:a^^^b<65536:=Nat.xor_lt_two_pow (n:=16) c hb;generalize a^^^b=x at *;omega
theorem ar12 (a b:Nat):IntKind.u16.wrap ((a:Int)*2^(b%16))=((yW 12 a b:Nat):Int):=by
 rw[xY];show _=((a*2^(b%16)%65536:Nat):Int);rw[Ou,Int.natCast_mul,Int.natCast_pow];rfl
theorem ar13 (a b:Nat):(a:Int)/2^(b%16)=((yW 13 a b:Nat):Int):=by
 show _=((a/2^(b%16):Nat):Int);rw[Int.natCast_ediv,Int.natCast_pow];rfl
theorem ar14 (a b:Nat)(c:a<65536):IntKind.u16.wrap (IntKind.i16.wrap (a:Int)/2^(b%16))=((yW 14 a b:Nat):Int):=by
 rw[mH a c,xY];show _=((((s16 a/2^(b%16))%65536).toNat:Nat):Int);omega
theorem ar15 (a b:Nat):(iw ((a:Int)==(b:Int)):Nat)=yW 15 a b:=by
 show _=iw (decide (a=b));congr 1;rw[Bool.eq_iff_iff,beq_iff_eq,decide_eq_true_eq];omega
theorem ar17 (a b:Nat)(c:a<65536)(hb:b<65536):(iw (decide (IntKind.i16.wrap (a:Int)<IntKind.i16.wrap (b:Int))):Nat)=yW 17 a b:=by
 rw[mH a c,mH b hb];rfl
theorem jz (c:Int)(a b:Nat)(g:a<65536)(hb:b<65536):yW c a b<65536:=by
 have k:∀x,a/x<65536:=fun x=>Nat.lt_of_le_of_lt (Nat.div_le_self _ _) g
 have hm:∀x,x%65536<65536:=fun x=>Qj _ Zd
 have d:∀b,iw b<65536:=fun b=>by cases b<;>decide
 unfold yW
 by_cases c5:c=5;· rw[if_pos c5];exact hm _
 rw[if_neg c5];by_cases c6:c=6;· rw[if_pos c6];exact hm _
 rw[if_neg c6];by_cases c7:c=7;· rw[if_pos c7];exact hm _
 rw[if_neg c7];by_cases c8:c=8;· rw[if_pos c8];exact k _
 rw[if_neg c8];by_cases c9:c=9;· rw[if_pos c9];exact Nat.lt_of_le_of_lt Nat.and_le_left g
 rw[if_neg c9];by_cases c10:c=10;· rw[if_pos c10];exact Nat.or_lt_two_pow (n:=16) g hb
 rw[if_neg c10];by_cases c11:c=11;· rw[if_pos c11];exact Nat.xor_lt_two_pow (n:=16) g hb
 rw[if_neg c11];by_cases c12:c=12;· rw[if_pos c12];exact hm _
 rw[if_neg c12];by_cases c13:c=13;· rw[if_pos c13];exact k _
 rw[if_neg c13];by_cases j:c=14;· rw[if_pos j];omega
 rw[if_neg j];by_cases i:c=15;· rw[if_pos i];exact d _
 rw[if_neg i];by_cases h:c=16;· rw[if_pos h];exact d _
 rw[if_neg h];exact d _
theorem qD (b:Bool)(w:World):G 164 #[.bool b] w fun e w'=>e=.returned (U (iw b:Nat))/\w=w':=by
 cases b<;>go_enter Tryz.func164,Tryz.ntmps164<;>go_wp2<;>go_ret<;>exact⟨rfl,rfl⟩
theorem arith_5 (a b:Nat)(c:a<65536)(hb:b<65536)(w:World):G 163 #[I 5,U a,U b] w fun e w'=>e=.returned (U (yW 5 a b:Nat))/\w=w':=by
 go_enter Tryz.func163,Tryz.ntmps163;go_wp2
 all_goals go_ret
 all_goals refine⟨zh ?_,rfl⟩
 all_goals exact ar5 a b
theorem arith_6 (a b:Nat)(c:a<65536)(hb:b<65536)(w:World):G 163 #[I 6,U a,U b] w fun e w'=>e=.returned (U (yW 6 a b:Nat))/\w=w':=by
 go_enter Tryz.func163,Tryz.ntmps163;go_wp2
 all_goals go_ret
 all_goals refine⟨zh ?_,rfl⟩
 all_goals exact ar6 a b hb
theorem arith_7 (a b:Nat)(c:a<65536)(hb:b<65536)(w:World):G 163 #[I 7,U a,U b] w fun e w'=>e=.returned (U (yW 7 a b:Nat))/\w=w':=by
 go_enter Tryz.func163,Tryz.ntmps163;go_wp2
 all_goals go_ret
 all_goals refine⟨zh ?_,rfl⟩
 all_goals exact ar7 a b
theorem arith_8 (a b:Nat)(c:a<65536)(hb:b<65536)(d:b≠0)(w:World):G 163 #[I 8,U a,U b] w fun e w'=>e=.returned (U (yW 8 a b:Nat))/\w=w':=by
 have h1:((b:Int)==0)=false:=Ze;have h2:¬(b:Int)=0:=Zo;clear d;go_enter Tryz.func163,Tryz.ntmps163;go_wp2
 all_goals go_ret
 all_goals refine⟨zh ?_,rfl⟩
 all_goals exact ar8 a b c
theorem arith_80 (a:Nat)(w:World):G 163 #[I 8,U a,U ((0:Nat):Int)] w fun e w'=>e=.panicked [oE 4 0]/\w=w':=by
 go_enter Tryz.func163,Tryz.ntmps163;go_wp2_with (go_at_call 153;go_must (refine(wj 4 0 _).mono ?_;rintro e w' ⟨rfl,rfl⟩))
 exact⟨rfl,rfl,rfl⟩
theorem arith_9 (a b:Nat)(c:a<65536)(hb:b<65536)(w:World):G 163 #[I 9,U a,U b] w fun e w'=>e=.returned (U (yW 9 a b:Nat))/\w=w':=by
 go_enter Tryz.func163,Tryz.ntmps163;go_wp2
 all_goals go_ret
 all_goals refine⟨zh ?_,rfl⟩
 all_goals exact ar9 a b c hb
theorem arith_10 (a b:Nat)(c:a<65536)(hb:b<65536)(w:World):G 163 #[I 10,U a,U b] w fun e w'=>e=.returned (U (yW 10 a b:Nat))/\w=w':=by
 go_enter Tryz.func163,Tryz.ntmps163;go_wp2
 all_goals go_ret
 all_goals refine⟨zh ?_,rfl⟩
 all_goals exact ar10 a b c hb
theorem arith_11 (a b:Nat)(c:a<65536)(hb:b<65536)(w:World):G 163 #[I 11,U a,U b] w fun e w'=>e=.returned (U (yW 11 a b:Nat))/\w=w':=by
 go_enter Tryz.func163,Tryz.ntmps163;go_wp2
 all_goals go_ret
 all_goals refine⟨zh ?_,rfl⟩
 all_goals exact ar11 a b c hb
theorem arith_12 (a b:Nat)(c:a<65536)(hb:b<65536)(w:World):G 163 #[I 12,U a,U b] w fun e w'=>e=.returned (U (yW 12 a b:Nat))/\w=w':=by
 go_enter Tryz.func163,Tryz.ntmps163;go_wp2
 all_goals go_ret
 all_goals refine⟨zh ?_,rfl⟩
 all_goals exact ar12 a b
theorem arith_13 (a b:Nat)(c:a<65536)(hb:b<65536)(w:World):G 163 #[I 13,U a,U b] w fun e w'=>e=.returned (U (yW 13 a b:Nat))/\w=w':=by
 go_enter Tryz.func163,Tryz.ntmps163;go_wp2
 all_goals go_ret
 all_goals refine⟨zh ?_,rfl⟩
 all_goals exact ar13 a b
theorem arith_14 (a b:Nat)(c:a<65536)(hb:b<65536)(w:World):G 163 #[I 14,U a,U b] w fun e w'=>e=.returned (U (yW 14 a b:Nat))/\w=w':=by
 go_enter Tryz.func163,Tryz.ntmps163;go_wp2
 all_goals go_ret
 all_goals refine⟨zh ?_,rfl⟩
 all_goals exact ar14 a b c
theorem arith_15 (a b:Nat)(c:a<65536)(hb:b<65536)(w:World):G 163 #[I 15,U a,U b] w fun e w'=>e=.returned (U (yW 15 a b:Nat))/\w=w':=by
 go_enter Tryz.func163,Tryz.ntmps163;go_wp2_with (go_at_call 164;go_must (refine(qD _ _).mono ?_;rintro e w' ⟨rfl,rfl⟩))
 all_goals go_ret
 all_goals refine⟨zh ?_,rfl⟩
 all_goals exact congrArg _ (ar15 a b)
theorem arith_16 (a b:Nat)(c:a<65536)(hb:b<65536)(w:World):G 163 #[I 16,U a,U b] w fun e w'=>e=.returned (U (yW 16 a b:Nat))/\w=w':=by
 go_enter Tryz.func163,Tryz.ntmps163;go_wp2_with (go_at_call 164;go_must (refine(qD _ _).mono ?_;rintro e w' ⟨rfl,rfl⟩))
 all_goals go_ret
 all_goals refine⟨zh ?_,rfl⟩
 all_goals exact rfl
theorem arith_17 (a b:Nat)(c:a<65536)(hb:b<65536)(w:World):G 163 #[I 17,U a,U b] w fun e w'=>e=.returned (U (yW 17 a b:Nat))/\w=w':=by
 go_enter Tryz.func163,Tryz.ntmps163;go_wp2_with (go_at_call 164;go_must (refine(qD _ _).mono ?_;rintro e w' ⟨rfl,rfl⟩))
 all_goals go_ret
 all_goals refine⟨zh ?_,rfl⟩
 all_goals exact congrArg _ (ar17 a b c hb)
def rq (c:Int)(a b:Nat)(w:World)(e:Ending)(w':World):Prop:=e=(if c=8/\b=0 then .panicked [oE 4 0] else .returned (U (yW c a b:Nat)))/\w=w'
theorem jD (c:Int)(i:5<=c/\c<=17)(a b:Nat)(d:a<65536)(hb:b<65536)(w:World):G 163 #[I c,U a,U b] w (rq c a b w):=by
 unfold rq;have h:c=5∨c=6∨c=7∨c=8∨c=9∨c=10∨c=11∨c=12∨c=13∨c=14∨c=15∨c=16∨c=17:=Zo;rcases h with rfl|rfl|rfl|rfl|rfl|rfl|rfl|rfl|rfl|rfl|rfl|rfl|rfl
 ·rw[if_neg Zo];exact arith_5 a b d hb w
 ·rw[if_neg Zo];exact arith_6 a b d hb w
 ·rw[if_neg Zo];exact arith_7 a b d hb w
 ·by_cases g:b=0
  ·subst g;rw[if_pos ⟨rfl,rfl⟩];exact arith_80 a w
  ·rw[if_neg (fun h=>g h.2)];exact arith_8 a b d hb g w
 ·rw[if_neg Zo];exact arith_9 a b d hb w
 ·rw[if_neg Zo];exact arith_10 a b d hb w
 ·rw[if_neg Zo];exact arith_11 a b d hb w
 ·rw[if_neg Zo];exact arith_12 a b d hb w
 ·rw[if_neg Zo];exact arith_13 a b d hb w
 ·rw[if_neg Zo];exact arith_14 a b d hb w
 ·rw[if_neg Zo];exact arith_15 a b d hb w
 ·rw[if_neg Zo];exact arith_16 a b d hb w
 ·rw[if_neg Zo];exact arith_17 a b d hb w
open Go.RowKit Go.Lib
theorem Tryz.info_u8:(Tryz.prog.info? 5).map (fun i=>(i.zero,i.size,i.bytes))=some (some (.int .u8 0),1,1):=by kernel_rfl
theorem tQ(w:World)(dT sT ty c:TypeId)(g dLen k:Nat)(s:ByteArray)(cur:Array Value)(t:TypeId)
 (m:P.underlying dT=some (.slice c)) (hs:(P.info? c).map (·.size)=some 1) (hg:Q w g cur t) (o:dLen<=cur.size):
 (Builtin.copy_ #[dT,sT] ty #[.slice (some ⟨g,0,none⟩) dLen k,.string s]).run P w=
  .ok (goInt (Nat.min s.size dLen)) (w.setRow g (byteCells (s.data.toList.take (Nat.min s.size dLen))++cur.toList.drop (Nat.min s.size dLen)).toArray):=by
 obtain⟨n,j⟩:∃n,Nat.min s.size dLen=n:=⟨_,rfl⟩
 have q:n<=s.size:=by rw[<-j];exact Nat.min_le_left _ _
 have hnd:n<=dLen:=by rw[<-j];exact Nat.min_le_right _ _
 have h:(byteCells (s.data.toList.take n)).length=n:=by rw[byteCells_length,Oc,<-Lib.size_eq];omega
 have d:=run_storeCells_at P g 0 t (byteCells (s.data.toList.take n)) 0 cur w hg (by rw[h];omega) (byteCells_one _)
 have l:List.take n (List.map (fun b:UInt8=>Value.int IntKind.u8 (b.toNat:Int)) s.data.toList)=byteCells (s.data.toList.take n):=by
  rw[<-List.map_take];rfl
 rw[h] at d;simp only[Uk] at d;rw[j]
 cases hq:P.info? c with
 |none=>simp[hq] at hs
 |some i=>
  simp[Builtin.copy_,run_underlying m,Builtin.lenOf,Builtin.firstCells,sizeOf,typeInfo,hq,j];rw[l,d];simp[Result.andThen]
theorem ram_init (s:ByteArray):byteCells (s.data.toList.take (Nat.min s.size 8192))++(List.replicate 8192 (Value.int .u8 0)).drop (Nat.min s.size 8192)=(v7 s).map wz:=by
 apply Oq;intro k;have i:s.data.toList.length=s.size:=(Lib.size_eq s).symm;have hl:(byteCells (s.data.toList.take (Nat.min s.size 8192))).length=Nat.min s.size 8192:=by rw[byteCells_length,Oc,i];exact Ud (Nat.min_le_left _ _)
 unfold v7;rw[List.map_map,Jr];obtain⟨n,c⟩:∃n,Nat.min s.size 8192=n:=⟨_,rfl⟩
 have o:n<=s.size:=by rw[<-c];exact Nat.min_le_left _ _
 have m:n<=8192:=by rw[<-c];exact Nat.min_le_right _ _
 have l:n=s.size∨n=8192:=by rcases Nat.le_total s.size 8192 with h|h;exact .inl (by rw[<-c];exact Ud h);exact .inr (by rw[<-c];exact Nat.min_eq_right h)
 rw[c] at hl ⊢
 by_cases h1:k<n
 ·rw[Np Zo,Oh Zo];unfold byteCells;rw[Jr,Ug,if_pos h1];have d:k<s.data.toList.length:=Zo;rw[Jd d];have g:k<s.data.size:=by simpa using d
  simp[wz,Array.getD_eq_getD_getElem?,Array.getElem?_eq_getElem g]
 ·rw[Nc Zo,hl,List.getElem?_drop,show n+(k-n)=k by omega,Nm]
  by_cases h2:k<8192
  ·rw[if_pos h2,Oh h2];have j:¬k<s.data.size:=by have:s.data.size=s.size:=rfl;omega
   simp[wz,Array.getD_eq_getD_getElem?,Array.getElem?_eq_none (Nat.le_of_not_lt j)]
  ·rw[if_neg h2,Of (by simpa using h2)];rfl
def EvR (w:World)(B b q:Nat)(x:Nat×Nat):Prop:=A w b q (U (x.1:Int))/\A w b (q+1) (U (x.2:Int))/\x.1<65536/\x.2<65536
abbrev vM:=yN 2 EvR
def runVal (R:IRun)(ov:Value):Value:=.agg (yV R.value ov R.kind R.info (y9 R.ram) R.inputs R.polls)
def abr (w:World)(R:IRun)(e:Ending)(w':World):Prop:=∃ov,e=.returned (runVal R ov)/\vM w' w'.heap.size ov R.out/\O w w'
def sZ (V:PV)(p:IProg):Value:=.agg #[V.fv,V.av,I p.entry,I p.handler,V.dv,V.bv]
theorem iG (s:ByteArray):(v7 s).length=8192:=by simp[v7]
theorem bY (s:ByteArray):∀x∈v7 s,x<256:=by
 intro x c;unfold v7 at c;obtain⟨k,_,rfl⟩:=Nu.1 c;exact UInt8.toNat_lt _
theorem tM (w:World)(b k:Nat)(cs:Array Value)(h:k≠b):(w.setRow b cs).heap[k]? =w.heap[k]?:=by
 unfold World.setRow;simp only[Array.getElem?_modify];rw[if_neg (fun e=>h e.symm)]
theorem py{B:Nat}{w':World}(h:Below B w w'){b:Nat}(hb:B<=b)(cs:Array Value):Below B w (w'.setRow b cs):=
 h.trans ⟨rfl,rfl,rfl,by unfold World.setRow;simp,fun k hk=>tM _ _ _ _ Zo⟩
theorem nZ{b:Nat}{cs c:Array Value}{t:TypeId}(h:Q w b cs t):Q (w.setRow b c) b c t:=setRow_heap w b cs c t (0,0) h
theorem ss{b b':Nat}{d:Array Value}{o:Obj}(h:w.heap[b']? =some o)(c:b'≠b):(w.setRow b d).heap[b']? =some o:=(tM _ _ _ _ c).trans h
theorem sf (W:World)(A B C:Obj):(((W.alloc A).alloc B).alloc C).drew.heap[W.heap.size]? =some A/\(((W.alloc A).alloc B).alloc C).drew.heap[W.heap.size+1]? =some B/\(((W.alloc A).alloc B).alloc C).drew.heap[W.heap.size+1+1]? =some C/\O W (((W.alloc A).alloc B).alloc C).drew:=
 ⟨zB (zB (zI rfl)),zB (zI Zs),zI Zs,((((Below.refl _ _).alloc (Je _) _).alloc Zs _).alloc (by simp<;>omega) _).drew⟩
theorem oG:∀ {l:List (Nat×Nat)} {k:Nat} {p:Nat×Nat},l[k]? =some p->(qO l)[k*2]? =some (vL p.1)/\(qO l)[k*2+1]? =some (vL p.2)
 | [],k,p,h=>by simp at h
 |a::l,0,p,h=>by simp at h;subst h;exact⟨rfl,rfl⟩
 |a::l,k+1,p,h=>by
  have:=oG (l:=l) (k:=k) (by simpa using h);rw[show(k+1)*2=k*2+1+1 by omega];exact this
theorem kP{S:Nat}{ov:Value}{l:List (Nat×Nat)}(h:w.ownsRow S 117 2 ov l.length (qO l))(i:∀p∈l,p.1<65536/\p.2<65536):vM w w.heap.size ov l:=by
 obtain⟨a,c,rfl⟩:=zG h;have hl:=zm h;refine⟨a,c,rfl,hl.1,by omega,fun k x hk=>?_⟩;have j:=(Jh.1 hk).1;obtain⟨g,m,e,hg,hb⟩:=h.form Zo;cases e;obtain⟨h1,h2⟩:=oG hk;have d:=i x (Ji hk);refine⟨g,0,rfl,hb,?_,?_,d.1,d.2⟩
 ·rw[Ng];exact(h.cellAt (k*2) Zo).trans h1
 ·rw[Ng];exact(h.cellAt (k*2+1) Zo).trans h2
theorem ku{w4 w5:World}{K:MK}{m:Mach}{ov:Value}{b:Nat}{r0:Array Value}(c:MachAt w4 K m ov)(d:Q w4 b r0 57)(hb:w.heap.size<=b)(zb:O w w4)(hg:w4.grownBy w5 (some b)):vM w5 w5.heap.size ov m.out/\O w w5:=by
 have g:=zC c.out d (.inr Zd);exact⟨kP (c.out.kept hg (.inr g)) c.olt,zb.grown hg zb.size (fun k hk=>by simp at hk;omega)⟩
theorem mk_ram (W:World):(Instr.makeSlice 49 (I 8192) (I 8192)).run Tryz.prog W=.ok (F W.heap.size 8192 8192) (W.alloc (T (madeCells #[.int .u8 0] 8192) 5)):=
 run_make_row' (P:=Tryz.prog) 49 5 (.int .u8 0) 1 Tryz.underlying49 Tryz.info_u8 rfl .i64 .i64 8192 Zd Zd W
theorem vd{ops:Array Oper}{Q:Act->Prop}:∀ {rest:List Oper} {a:Act},wpQuiet P ops (fun w'=>w'=w) Q rest a->wpStill P ops w Q rest a
 | [],a,h=>h
 |o::rest,a,h=>by
  unfold wpQuiet at h;unfold wpStill
  split at h
  ·rename_i hw
   rw[if_pos hw];obtain⟨v,h1,h2⟩:=h;have h3:=h1 w rfl;have c:=vd h2;unfold Oper.quietAt at h3;unfold Oper.still;generalize (execOp a.eval o).run P w=r at *
   cases r with
   |ok n w'=>
    cases n<;>simp only[Oper.quietUpon] at h3<;>simp only[Oper.stillUpon]
    case value u=>obtain⟨e1,rfl⟩:=h3;exact⟨e1,c⟩
    case skip=>obtain⟨e1,rfl⟩:=h3;exact⟨e1,c⟩
    case enter f args=>exact⟨h3.1,v,h3.2,c⟩
   |halt x w'=>simp only[Oper.quietUpon] at h3
  ·rename_i hw
   rw[if_neg hw];exact vd h
theorem zt{id:Nat}{Q:Exit->Act->World->Prop}{a:Act}{l:List Oper}(n:Nat)(hm:P.follows .mixedOrders=true)(hB:Region.lexTailB .any l.toArray n=true)
 (h:wpQuiet P l.toArray (fun w'=>w'=w.drew) (fun a'=>wpList P l.toArray Q (l.drop n) a' w.drew) (l.take n) a):(Code.region id l.toArray true).wp P Q a w:=
 wp_region_still_tail n hm hB (vd h)
theorem uI{p:IProg}:∀(l m:List IOp) (k:Int) (d:wO),sS p i (l++m) k d=(sS p i l k d).bind (sS p i m (k+l.length))
 | [],m,k,d=>by simp[sS]
 |o::l,m,k,d=>by
  have e:k+1+(l.length:Int)=k+((o::l).length:Int):=by simp;omega
  show(if opF p o then(if 0<=o.res then(rB d o.res i k).bind (sS p i (l++m) (k+1)) else sS p i (l++m) (k+1) d) else none)=(if opF p o then(if 0<=o.res then(rB d o.res i k).bind (sS p i l (k+1)) else sS p i l (k+1) d) else none).bind _
  by_cases h:opF p o=true
  ·rw[if_pos h,if_pos h]
   by_cases h2:0<=o.res
   ·rw[if_pos h2,if_pos h2]
    cases rB d o.res i k with
    |none=>rfl
    |some d'=>rw[Nw,Nw,uI l m,e]
   ·rw[if_neg h2,if_neg h2,uI l m,e]
  ·rw[if_neg h,if_neg h];rfl
theorem ui{p:IProg}:∀(l m:List IBlk) (i:Int) (d:wO),uH p bl (l++m) i d=(uH p bl l i d).bind (uH p bl m (i+l.length))
 | [],m,i,d=>by simp[uH]
 |b::l,m,i,d=>by
  have e:i+1+(l.length:Int)=i+((b::l).length:Int):=by simp;omega
  show(pS p bl i b d).bind (uH p bl (l++m) (i+1))=((pS p bl i b d).bind (uH p bl l (i+1))).bind _
  cases pS p bl i b d with
  |none=>rfl
  |some d'=>rw[Nw,Nw,ui l m,e]
theorem sD{α:Type}{l:List α}{x:α}(h:l[k]? =some x):l=l.take k++x::l.drop (k+1):=by
 rw[Jh] at h;obtain⟨hk,rfl⟩:=h
 conv=>lhs;rw[<-Qi k l,Qn hk]
theorem vS{α:Type}{l:List α}{x:α}(h:l[k]? =some x):((l.take k).length:Int)=k:=by
 have:=(Jh.1 h).1;rw[Oc,Ud Zo]
theorem aC{v:Int}(h:l[k]? =some v)(c:vJ i (l.take k) d=some d'):vJ i (l.take (k+1)) d=rB d' v i (-1):=by
 rw[Nh,h,Option.toList,uX,c,Nw]
 show(rB d' v i (-1)).bind (vJ i [])=_
 cases rB d' v i (-1)<;>rfl
theorem qr{v:Int}(h:l[k]? =some v)(g:vJ i (l.take k) d=some d')(c:rB d' v i (-1)=none):vJ i l d=none:=by
 rw[sD h,uX,g,Nw]
 show(rB d' v i (-1)).bind _=none
 rw[c];rfl
def ug (p:IProg)(i k:Int)(o:IOp)(d:wO):Option wO:=if opF p o then(if 0<=o.res then rB d o.res i k else some d) else none
theorem dG (p:IProg)(i k:Int)(o:IOp)(os:List IOp)(d:wO):sS p i (o::os) k d=(ug p i k o d).bind (sS p i os (k+1)):=by
 unfold sS ug
 by_cases h:opF p o=true
 ·rw[if_pos h,if_pos h]
  by_cases h2:0<=o.res
  ·rw[if_pos h2,if_pos h2]
  ·rw[if_neg h2,if_neg h2];rfl
 ·rw[if_neg h,if_neg h];rfl
theorem cK{p:IProg}{l:List IOp}(h:l[k]? =some o)(c:sS p i (l.take k) 0 d=some d'):sS p i (l.take (k+1)) 0 d=ug p i k o d':=by
 rw[Nh,h,Option.toList,uI,c,Nw,dG,vS h,Ub];cases ug p i k o d'<;>rfl
theorem oR{p:IProg}{l:List IOp}(h:l[k]? =some o)(g:sS p i (l.take k) 0 d=some d')(c:ug p i k o d'=none):sS p i l 0 d=none:=by
 rw[sD h,uI,g,Nw,dG,vS h,Ub,c];rfl
theorem lQ{p:IProg}{l:List IBlk}{b:IBlk}(h:l[k]? =some b)(c:uH p bl (l.take k) 0 d=some d'):uH p bl (l.take (k+1)) 0 d=pS p bl k b d':=by
 rw[Nh,h,Option.toList,ui,c,Nw,vS h,Ub]
 show(pS p bl k b d').bind (uH p bl [] _)=_
 cases pS p bl k b d'<;>rfl
theorem abe{p:IProg}{l:List IBlk}{b:IBlk}(h:l[k]? =some b)(g:uH p bl (l.take k) 0 d=some d')(c:pS p bl k b d'=none):uH p bl l 0 d=none:=by
 rw[sD h,ui,g,Nw,vS h,Ub]
 show(pS p bl k b d').bind _=none
 rw[c];rfl
def ae1:wO:=(fun _=>none,fun _=>none)
theorem wS (p:IProg)(bl:List IBlk):wg p bl=uH p bl bl 0 ae1:=rfl
def ShpPost (w:World)(C m1 m2:Nat)(pv:List Value)(blv idv:Value)(r:Option wO)(e:Ending)(w':World):Prop:=
 e=.returned (.bool r.isSome)/\Kept m1 m2 w w'/\∀d,r=some d->∃n,n<9000000000000000000/\ChkAt w' C m1 m2 pv blv idv n d
def vZ (blocks:List IBlk):Prop:=blocks.length<=2000000/\∀b∈blocks,b.params.length<=2000000/\b.ops.length<=2000000/\b.term.to.length<=2000000
def mW (p:IProg):Prop:=∀f∈p.funcs,vZ f/\∀b∈f,b.params.length<=65536
def oz (l:List (IOp×Value)):Prop:=∀q∈l,qN q.1/\q.1.args=[]/\q.2=L
theorem eV {l:List (IOp×Value)}(h:oz l)(w:World)(B:Nat):∀q∈l,qN q.1/\zY w B q.2 q.1.args:=fun q hq=>by
 obtain⟨h1,h2,h3⟩:=h q hq;rw[h2,h3];exact⟨h1,yN.nil⟩
def cG (x:Int):Int:=wrap64 (x+1)
def qK (n:Int)(l:List Int):Int:=l.foldl (fun n v=>max n (cG v)) n
def o8 (n:Int)(l:List IOp):Int:=l.foldl (fun n o=>max n (cG o.res)) n
def iL (n:Int)(b:IBlk):Int:=o8 (qK n b.params) b.ops
def aaG (blocks:List IBlk):Int:=blocks.foldl iL 0
theorem wt{α β:Type}(f:β->α->β)(z:β){l:List α}{x:α}(h:l[k]? =some x):(l.take (k+1)).foldl f z=f ((l.take k).foldl f z) x:=by
 rw[Nh,h,List.foldl_append];rfl
theorem mZ (a b:Int):(if a<b then b else a)=max a b:=by
 rw[Int.max_def]
 split<;>split<;>omega
def aeP (w:World)(x:Int)(e:Ending)(w':World):Prop:=e=.returned (I x)/\O w w'
theorem jr{B:Nat}{b7:Value}(a8:wX w B b7 blocks)(hB:B<=w.heap.size)(hs:vZ blocks):
 G 17 #[.agg #[b7]] w (aeP w (aaG blocks)):=by
 obtain⟨fa,fc,rfl,e8,e6⟩:=a8.form;have e5:=hs.1;have h:=Ja (Jb a8 (Jb hB hs));have b6:O w (w.alloc (T #[.slice fa blocks.length fc] 39)):=(Below.refl _ _).alloc (Je _) _;have a2:=zI (W:=w) (o:=T #[.slice fa blocks.length fc] 39) rfl;obtain⟨fb,a6⟩:∃fb,w.heap.size=fb:=⟨_,rfl⟩
 clear a8 hB hs;go_enter Tryz.func17,Tryz.ntmps17;go_upto_region 1 with fail;generalize c9:w.alloc (T #[.slice fa blocks.length fc] 39)=W1 at *;rw[a6] at a2;have c:=Ja (Jb b6 (Jb a2 a6));clear b6 a2 c9 a6;go_wp2
 go_loopw [3,4] (fun nv kv wx=>∃(k:Nat) (n:Int),k<=blocks.length/\nv=I n/\kv=I k/\Hid (n=(blocks.take k).foldl iL 0/\O W1 wx)) (fun _ kv _=>blocks.length-(intOf kv).toNat)
 case atStart=>exact⟨0,0,Jt _,rfl,rfl,Ja ⟨rfl,Below.refl _ _⟩⟩
 case round=>
  obtain⟨k,n,hk,rfl,rfl,g⟩:=hrel;have a1:=zH g.out.2 c.out.2.1 (lt_of_block c.out.2.1);have c0:=zA (i:=0) a1 rfl;have e7:=lt_of_block a1
  by_cases b2:k<blocks.length
  ·have c2:(k:Int)<(blocks.length:Int):=Zo;obtain⟨b,hb⟩:∃b,blocks[k]? =some b:=⟨_,Jd b2⟩
   have b4:wX wr B (.slice fa blocks.length fc) blocks:=(h.out.1.below yT ((c.out.1.trans (g.out.2.mono c.out.1.size)).mono h.out.2.1))
   obtain⟨bb,bo,c4,c7,g2,g3,h64,pv,ov,tv,g0,g1,g4,y,a0,a3⟩:=b4.get hb;obtain⟨pa,pc,rfl,e1,d7⟩:=y.form;obtain⟨oa,oc,rfl,e4,e2⟩:=a0.form;obtain⟨ta,tc,rfl,d6,d4⟩:=a3.form;have d3:bb<wr.heap.size:=Jy c7 (by have:=h.out.2.1;have:=(c.out.1.trans (g.out.2.mono c.out.1.size)).size;omega);have a7:=h.out.2.2.2 b (Ji hb);have t:O wr (wr.alloc (T #[.slice pa b.params.length pc,.slice oa b.ops.length oc,I b.term.kind,I b.term.a,.slice ta b.term.to.length tc] 84)):=(Below.refl _ _).alloc (Je _) _;have l:=zI (W:=wr) (o:=T #[.slice pa b.params.length pc,.slice oa b.ops.length oc,I b.term.kind,I b.term.a,.slice ta b.term.to.length tc] 84) rfl;subst c4;have e0:=a7.1;have e3:=a7.2.1;obtain⟨tb,a4⟩:∃tb,wr.heap.size=tb:=⟨_,rfl⟩
   have HT:=Ja a4;clear b4 a7;go_upto_region 6 with fail;generalize c8:wr.alloc (T #[.slice pa b.params.length pc,.slice oa b.ops.length oc,I b.term.kind,I b.term.a,.slice ta b.term.to.length tc] 84)=W5 at *;rw[a4] at l;have t0:=zA (i:=0) l rfl;have t1:=zA (i:=1) l rfl;have d5:=lt_of_block l;have c5:∀q,B<=q->Below q wr W5->True:=fun _ _ _=>trivial
   have b0:=(y.below zO (t.mono (show B<=wr.heap.size by have:=h.out.2.1;have:=(c.out.1.trans (g.out.2.mono c.out.1.size)).size;omega)))
   have b1:=(a0.below xA (t.mono (show B<=wr.heap.size by have:=h.out.2.1;have:=(c.out.1.trans (g.out.2.mono c.out.1.size)).size;omega)))
   have b5:=g.out.2.trans (t.mono g.out.2.size);have H5:=Ja (Jb b0 (Jb b1 (Jb b5 hb)));have e9:B<=wr.heap.size:=by have:=h.out.2.1;have:=(c.out.1.trans (g.out.2.mono c.out.1.size)).size;omega
   have d1:wr.heap.size<=W5.heap.size:=t.size;clear c5 b0 b1 b5 hb y a0 a3 t l g0 g1 g2 g3 g4 h64 a1 a4 c8;go_wp2
   go_loop [3,6] (fun nv jv=>∃(j:Nat) (m:Int),j<=b.params.length/\nv=I m/\jv=I j/\Hid (m=qK n (b.params.take j))) (fun _ jv=>b.params.length-(intOf jv).toNat)
   case atStart=>exact⟨0,n,Jt _,rfl,rfl,Ja rfl⟩
   case round=>
    obtain⟨j,m,hj,rfl,rfl,HM⟩:=hrel
    by_cases d:j<b.params.length
    ·have b3:(j:Int)<(b.params.length:Int):=Zo;obtain⟨x,u⟩:∃x,b.params[j]? =some x:=⟨_,Jd d⟩
     obtain⟨pb,po,a5,c3,a9,b8⟩:=H5.out.1.get u;rw[Nk] at a9;subst a5;have b9:pb<W5.heap.size:=Zo;have HX:=Ja u;clear u b8;go_wp2
     go_round
     case rel=>
      refine⟨j+1,_,d,rfl,by go_num,Ja ?_⟩;unfold qK;rw[wt _ _ HX.out,mZ,HM.out];rfl
     case measure=>simp[intOf];omega
    ·obtain rfl:j=b.params.length:=by omega
     have b3:¬(b.params.length:Int)<(b.params.length:Int):=Zo;have d0:=Ja (show m=qK n b.params by rw[HM.out,Nl]);clear hj HM d;go_wp2
     go_loop [3,7] (fun nv jv=>∃(j:Nat) (m2:Int),j<=b.ops.length/\nv=I m2/\jv=I j/\Hid (m2=o8 m (b.ops.take j))) (fun _ jv=>b.ops.length-(intOf jv).toNat)
     case atStart=>exact⟨0,m,Jt _,rfl,rfl,Ja rfl⟩
     case round=>
      obtain⟨j,m2,hj,rfl,rfl,HM⟩:=hrel
      by_cases d:j<b.ops.length
      ·have b3:(j:Int)<(b.ops.length:Int):=Zo;obtain⟨x,u⟩:∃x,b.ops[j]? =some x:=⟨_,Jd d⟩
       obtain⟨pb,po,a5,c3,_,a9,_⟩:=H5.out.2.1.get u;subst a5;have b9:pb<W5.heap.size:=Zo;have HX:=Ja u;clear u;go_wp2
       go_round
       case rel=>
        refine⟨j+1,_,d,rfl,by go_num,Ja ?_⟩;unfold o8;rw[wt _ _ HX.out,mZ,HM.out];rfl
       case measure=>simp[intOf];omega
      ·obtain rfl:j=b.ops.length:=by omega
       have d2:¬(b.ops.length:Int)<(b.ops.length:Int):=Zo;clear hj d;go_wp2;go_roundw
       case rel=>
        refine⟨k+1,m2,b2,rfl,by go_num,Ja ⟨?_,H5.out.2.2.1⟩⟩;rw[wt _ _ H5.out.2.2.2,<-g.out.1,HM.out,Nl,d0.out];rfl
       case measure=>simp[intOf];omega
  ·obtain rfl:k=blocks.length:=by omega
   have c2:¬(blocks.length:Int)<(blocks.length:Int):=Zo;clear a1;go_wp2;go_ret;refine⟨?_,c.out.1.trans (g.out.2.mono c.out.1.size)⟩;rw[g.out.1,Nl];rfl
theorem ls{B:Nat}{b8:Value}(a9:wX w B b8 blocks)(hB:B<=w.heap.size)(hs:vZ blocks):
 G 36 #[.agg #[b8]] w (aeP w (aaG blocks)):=by
 obtain⟨fa,fc,rfl,f4,f2⟩:=a9.form;have f1:=hs.1;have h:=Ja (Jb a9 (Jb hB hs));have b6:O w (w.alloc (T #[.slice fa blocks.length fc] 39)):=(Below.refl _ _).alloc (Je _) _;have u:=zI (W:=w) (o:=T #[.slice fa blocks.length fc] 39) rfl;obtain⟨fb,a7⟩:∃fb,w.heap.size=fb:=⟨_,rfl⟩
 clear a9 hB hs;go_enter Tryz.func36,Tryz.ntmps36;go_upto_region 1 with fail;generalize d4:w.alloc (T #[.slice fa blocks.length fc] 39)=W1 at *;rw[a7] at u;have c:=Ja (Jb b6 (Jb u a7));have c1:=zA (i:=0) u rfl;have e0:=lt_of_block u;clear b6 u d4 a7;go_wp2
 go_loopw [3,13] (fun nv kv wx=>∃(k:Nat) (n:Int),k<=blocks.length/\nv=I n/\kv=I k/\Hid (n=(blocks.take k).foldl iL 0/\O W1 wx)) (fun _ kv _=>blocks.length-(intOf kv).toNat)
 case atStart=>exact⟨0,0,Jt _,rfl,rfl,Ja ⟨rfl,Below.refl _ _⟩⟩
 case round=>
  obtain⟨k,n,hk,rfl,rfl,g⟩:=hrel;have a2:=zH g.out.2 c.out.2.1 (lt_of_block c.out.2.1);have c0:=zA (i:=0) a2 rfl;have f3:=lt_of_block a2
  by_cases b2:k<blocks.length
  ·have c4:(k:Int)<(blocks.length:Int):=Zo;obtain⟨b,hb⟩:∃b,blocks[k]? =some b:=⟨_,Jd b2⟩
   have b4:wX wr B (.slice fa blocks.length fc) blocks:=(h.out.1.below yT ((c.out.1.trans (g.out.2.mono c.out.1.size)).mono h.out.2.1))
   obtain⟨bb,bo,d0,d2,g2,g3,h64,pv,ov,tv,g0,g1,g4,a0,a1,a4⟩:=b4.get hb;obtain⟨pa,pc,rfl,e7,e5⟩:=a0.form;obtain⟨oa,oc,rfl,f0,e8⟩:=a1.form;obtain⟨ta,tc,rfl,e4,e2⟩:=a4.form;have e1:bb<wr.heap.size:=Jy d2 (by have:=h.out.2.1;have:=(c.out.1.trans (g.out.2.mono c.out.1.size)).size;omega);have a8:=h.out.2.2.2 b (Ji hb);have y:O wr (wr.alloc (T #[.slice pa b.params.length pc,.slice oa b.ops.length oc,I b.term.kind,I b.term.a,.slice ta b.term.to.length tc] 84)):=(Below.refl _ _).alloc (Je _) _;have t:=zI (W:=wr) (o:=T #[.slice pa b.params.length pc,.slice oa b.ops.length oc,I b.term.kind,I b.term.a,.slice ta b.term.to.length tc] 84) rfl;subst d0;have e6:=a8.1;have e9:=a8.2.1;obtain⟨tb,a5⟩:∃tb,wr.heap.size=tb:=⟨_,rfl⟩
   have HT:=Ja a5;clear b4 a8;go_upto_region 5 with fail;generalize d3:wr.alloc (T #[.slice pa b.params.length pc,.slice oa b.ops.length oc,I b.term.kind,I b.term.a,.slice ta b.term.to.length tc] 84)=W5 at *;rw[a5] at t;have t0:=zA (i:=0) t rfl;have t1:=zA (i:=1) t rfl;have e3:=lt_of_block t;have d1:∀q,B<=q->Below q wr W5->True:=fun _ _ _=>trivial
   have b0:=(a0.below zO (y.mono (show B<=wr.heap.size by have:=h.out.2.1;have:=(c.out.1.trans (g.out.2.mono c.out.1.size)).size;omega)))
   have b1:=(a1.below xA (y.mono (show B<=wr.heap.size by have:=h.out.2.1;have:=(c.out.1.trans (g.out.2.mono c.out.1.size)).size;omega)))
   have b5:=g.out.2.trans (y.mono g.out.2.size);have H5:=Ja (Jb b0 (Jb b1 (Jb b5 hb)));have f5:B<=wr.heap.size:=by have:=h.out.2.1;have:=(c.out.1.trans (g.out.2.mono c.out.1.size)).size;omega
   have d6:wr.heap.size<=W5.heap.size:=y.size;have c5:B<=W5.heap.size:=Zo;clear d1 b0 b1 b5 hb a0 a1 a4 y t g0 g1 g2 g3 g4 h64 a2 a5 d3;go_wp2
   go_loop [3,20] (fun nv jv=>∃(j:Nat) (m:Int),j<=b.params.length/\nv=I m/\jv=I j/\Hid (m=qK n (b.params.take j))) (fun _ jv=>b.params.length-(intOf jv).toNat)
   case atStart=>exact⟨0,n,Jt _,rfl,rfl,Ja rfl⟩
   case round=>
    obtain⟨j,m,hj,rfl,rfl,l⟩:=hrel
    by_cases d:j<b.params.length
    ·have b3:(j:Int)<(b.params.length:Int):=Zo;obtain⟨x,hx⟩:∃x,b.params[j]? =some x:=⟨_,Jd d⟩
     obtain⟨pb,po,a6,c9,c8,b9⟩:=H5.out.1.get hx;rw[Nk] at c8;subst a6;have c3:pb<W5.heap.size:=Zo;have HX:=Ja hx;clear hx b9;go_wp2
     go_round
     case rel=>
      refine⟨j+1,_,d,rfl,by go_num,Ja ?_⟩;unfold qK;rw[wt _ _ HX.out,mZ,l.out];rfl
     case measure=>simp[intOf];omega
    ·obtain rfl:j=b.params.length:=by omega
     have b3:¬(b.params.length:Int)<(b.params.length:Int):=Zo;have d5:=Ja (show m=qK n b.params by rw[l.out,Nl]);clear hj l d;go_wp2
     go_loopw [3,32] (fun nv jv wx=>∃(j:Nat) (m2:Int),j<=b.ops.length/\nv=I m2/\jv=I j/\Hid (m2=o8 m (b.ops.take j)/\O W5 wx)) (fun _ jv _=>b.ops.length-(intOf jv).toNat)
     case atStart=>exact⟨0,m,Jt _,rfl,rfl,Ja ⟨rfl,Below.refl _ _⟩⟩
     case round=>
      obtain⟨j,m2,hj,rfl,rfl,l⟩:=hrel
      by_cases d:j<b.ops.length
      ·have b3:(j:Int)<(b.ops.length:Int):=Zo;obtain⟨x,hx⟩:∃x,b.ops[j]? =some x:=⟨_,Jd d⟩
       have a3:=H5.out.2.1.below xA (l.out.2.mono c5);obtain⟨pb,po,a6,c9,x0,x1,x2,x3,x4,c7,av,x5,b7⟩:=a3.get hx;obtain⟨aa,ac,rfl,_,_⟩:=b7.form;subst a6;have c2:=l.out.2.size;have c3:pb<wr.heap.size:=Zo;have HX:=Ja hx;clear hx a3 b7 c7;go_wp2;go_roundw
       case rel=>
        refine⟨j+1,_,d,rfl,by go_num,Ja ⟨?_,l.out.2.alloc c2 _⟩⟩;unfold o8;rw[wt _ _ HX.out,mZ,l.out.1];rfl
       case measure=>simp[intOf];omega
      ·obtain rfl:j=b.ops.length:=by omega
       have d7:¬(b.ops.length:Int)<(b.ops.length:Int):=Zo;clear hj d;go_wp2;go_roundw
       case rel=>
        refine⟨k+1,m2,b2,rfl,by go_num,Ja ⟨?_,H5.out.2.2.1.trans (l.out.2.mono H5.out.2.2.1.size)⟩⟩;rw[wt _ _ H5.out.2.2.2,<-g.out.1,l.out.1,Nl,d5.out];rfl
       case measure=>simp[intOf];omega
  ·obtain rfl:k=blocks.length:=by omega
   have c4:¬(blocks.length:Int)<(blocks.length:Int):=Zo;clear a2;go_wp2;go_ret;refine⟨?_,c.out.1.trans (g.out.2.mono c.out.1.size)⟩;rw[g.out.1,Nl];rfl
theorem dJ (c:Int){f:Flds}(h:zi c=f)(w:World):G 52 #[I c] w (wL w f):=by
 have:=aaK c w;rw[h] at this;exact this
theorem aak{V:PV}{p:IProg}(hp:ProgIn w w.heap.size V p){d:Int}(ab:Option Addr)(an ac:Nat)(xs:List Int)(a4:xs.length=an)(b8:an<=9223372036854775807)(x:zi oc=⟨true,true,true,false,false⟩)(k:oc≠2/\oc≠24/\oc≠25/\oc≠26):
 G 61 #[yH V p,.agg #[I (oc),I d,I oa,I ob,U on,.slice ab an ac]] w (ym w (opF p ⟨oc,d,oa,ob,on,xs⟩)):=by
 obtain⟨Vf,Va,Vd,Vb⟩:=V;obtain⟨f1,f2,e1,a5,_⟩:=hp.funcs.form;obtain⟨a1,a2,e2,_,_⟩:=hp.args.form;obtain⟨d1,d2,e3,a6,_⟩:=hp.data.form;obtain⟨b1,b2,e4,_,_⟩:=hp.banks.form;simp only at e1 e2 e3 e4;subst e1 e2 e3 e4;unfold yH;simp only;have b6:p.funcs.length<=9223372036854775807:=Zo;have b7:p.data.length<=9223372036854775807:=Zo;have a0:=((Below.refl w.heap.size w).alloc (Je _) (T (R p f1 f2 a1 a2 d1 d2 b1 b2) 29)).alloc Zs (T #[I (oc),I d,I oa,I ob,U on,.slice ab an ac] 76);have u:=zB (o:=T #[I (oc),I d,I oa,I ob,U on,.slice ab an ac] 76) (zI (W:=w) (o:=T (R p f1 f2 a1 a2 d1 d2 b1 b2) 29) rfl);have t:=zI (W:=w.alloc (T (R p f1 f2 a1 a2 d1 d2 b1 b2) 29)) (o:=T #[I (oc),I d,I oa,I ob,U on,.slice ab an ac] 76) (B:=w.heap.size+1) Zs;have m:=Ja (Jb a0 (Jb u t));obtain⟨res,c⟩:∃r,opF p ⟨oc,d,oa,ob,on,xs⟩=r:=⟨_,rfl⟩
 rw[c];unfold opF at c;simp only[x,a4] at c;rw[if_neg k.2.2.2,if_neg k.1,decide_eq_true k.2.1,decide_eq_true k.2.2.1] at c;have t2:(oc==2)=false:=Ze;have b5:(oc !=2)=true:=by rw[bne_iff_ne];omega
 have b4:(oc==24)=false:=Ze;have a9:(oc !=24)=true:=by rw[bne_iff_ne];omega
 have b3:(oc==25)=false:=Ze;have a8:(oc !=25)=true:=by rw[bne_iff_ne];omega
 have b0:(oc==26)=false:=Ze;have a7:(oc !=26)=true:=by rw[bne_iff_ne];omega
 clear k;have HP:=Ja hp;clear a0 u t hp a5 a6;go_enter Tryz.func61,Tryz.ntmps61;go_upto_region 2 with(go_at_call 52;go_must (refine(dJ oc x _).mono ?_;rintro e w1 ⟨he,l⟩;obtain rfl:e=.returned (.agg #[.bool true,.bool true,.bool true,.bool false,.bool false]):=he))
 have y:=(m.out.1.trans (l.mono m.out.1.size)).alloc (Jn m.out.1.size l.size) (T #[.bool true,.bool true,.bool true,.bool false,.bool false] 120);have j:=zB (o:=(T #[.bool true,.bool true,.bool true,.bool false,.bool false] 120)) (zH l m.out.2.1 (lt_of_block m.out.2.1));have g:=zB (o:=(T #[.bool true,.bool true,.bool true,.bool false,.bool false] 120)) (zH l m.out.2.2 (lt_of_block m.out.2.2));have h:=zI (W:=w1) (o:=(T #[.bool true,.bool true,.bool true,.bool false,.bool false] 120)) rfl;generalize w1.alloc (T #[.bool true,.bool true,.bool true,.bool false,.bool false] 120)=W2 at *;generalize w1.heap.size=bs at *;have p0:=K0 j;have p1:=K1 j;have p4:=K4 j;have o0:=K0 g;have o1:=K1 g;have o2:=K2 g;have o3:=K3 g;have o4:=K4 g;have o5:=K5 g;have s0:=K0 h;have s1:=K1 h;have s2:=K2 h;have s3:=K3 h;have s4:=K4 h;have l0:=lt_of_block j;have l1:=lt_of_block g;have l2:=lt_of_block h;have i:=Ja y;clear y j g h l m
 by_cases h1:0<an
 ·skip
  have hr:res=false:=by rw[<-c];simp;try omega
  subst hr;have i1:(0:Int)<(an:Int):=Zo;clear c h1;go_wp2;go_ret
  first|exact⟨rfl,i.out⟩|exact⟨uz Zt,i.out⟩
 by_cases h2:d<0
 ·skip
  have hr:res=false:=by rw[<-c];simp;try omega
  subst hr;have i1:¬(0:Int)<(an:Int):=Zo;clear c h1;go_wp2;go_ret
  first|exact⟨rfl,i.out⟩|exact⟨uz Zt,i.out⟩
 by_cases h3:ob=0
 rotate_left
 ·skip
  have hr:res=false:=by rw[<-c];simp;try omega
  subst hr;have i1:¬(0:Int)<(an:Int):=Zo;have i3:(ob==0)=false:=Ze;have q:(ob !=0)=true:=by rw[bne_iff_ne];omega
  clear c h1;go_wp2;go_ret
  first|exact⟨rfl,i.out⟩|exact⟨uz Zt,i.out⟩
 by_cases h4:on=0
 rotate_left
 ·skip
  have hr:res=false:=by rw[<-c];simp;try omega
  subst hr;have i1:¬(0:Int)<(an:Int):=Zo;have i3:(ob==0)=true:=by rw[beq_iff_eq];omega
  have q:(ob !=0)=false:=by rw[bne_eq_false_iff_eq];omega
  have i4:((on:Int)==0)=false:=Ze;have a3:((on:Int) !=0)=true:=by rw[bne_iff_ne];omega
  clear c h1 h3;go_wp2;go_ret
  first|exact⟨rfl,i.out⟩|exact⟨uz Zt,i.out⟩
 have hr:res=true:=by rw[<-c];simp;try omega
 subst hr;have i1:¬(0:Int)<(an:Int):=Zo;have i3:(ob==0)=true:=by rw[beq_iff_eq];omega
 have q:(ob !=0)=false:=by rw[bne_eq_false_iff_eq];omega
 have i4:((on:Int)==0)=true:=by rw[beq_iff_eq];omega
 have a3:((on:Int) !=0)=false:=by rw[bne_eq_false_iff_eq];omega
 clear c h1 h3 h4;go_wp2;go_ret
 first|exact⟨rfl,i.out⟩|exact⟨uz Zt,i.out⟩
theorem aF{V:PV}{p:IProg}(hp:ProgIn w w.heap.size V p){d:Int}(ab:Option Addr)(an ac:Nat)(xs:List Int)(a3:xs.length=an)(b7:an<=9223372036854775807)(u:zi oc=⟨true,true,true,true,false⟩)(j:oc≠2/\oc≠24/\oc≠25/\oc≠26):
 G 61 #[yH V p,.agg #[I (oc),I d,I oa,I ob,U on,.slice ab an ac]] w (ym w (opF p ⟨oc,d,oa,ob,on,xs⟩)):=by
 obtain⟨Vf,Va,Vd,Vb⟩:=V;obtain⟨f1,f2,e1,a4,_⟩:=hp.funcs.form;obtain⟨a1,a2,e2,_,_⟩:=hp.args.form;obtain⟨d1,d2,e3,a5,_⟩:=hp.data.form;obtain⟨b1,b2,e4,_,_⟩:=hp.banks.form;simp only at e1 e2 e3 e4;subst e1 e2 e3 e4;unfold yH;simp only;have b5:p.funcs.length<=9223372036854775807:=Zo;have b6:p.data.length<=9223372036854775807:=Zo;have y:=((Below.refl w.heap.size w).alloc (Je _) (T (R p f1 f2 a1 a2 d1 d2 b1 b2) 29)).alloc Zs (T #[I (oc),I d,I oa,I ob,U on,.slice ab an ac] 76);have t:=zB (o:=T #[I (oc),I d,I oa,I ob,U on,.slice ab an ac] 76) (zI (W:=w) (o:=T (R p f1 f2 a1 a2 d1 d2 b1 b2) 29) rfl);have q:=zI (W:=w.alloc (T (R p f1 f2 a1 a2 d1 d2 b1 b2) 29)) (o:=T #[I (oc),I d,I oa,I ob,U on,.slice ab an ac] 76) (B:=w.heap.size+1) Zs;have m:=Ja (Jb y (Jb t q));obtain⟨res,c⟩:∃r,opF p ⟨oc,d,oa,ob,on,xs⟩=r:=⟨_,rfl⟩
 rw[c];unfold opF at c;simp only[u,a3] at c;rw[if_neg j.2.2.2,if_neg j.1,decide_eq_true j.2.1,decide_eq_true j.2.2.1] at c;have t2:(oc==2)=false:=Ze;have b4:(oc !=2)=true:=by rw[bne_iff_ne];omega
 have b3:(oc==24)=false:=Ze;have a8:(oc !=24)=true:=by rw[bne_iff_ne];omega
 have b0:(oc==25)=false:=Ze;have a7:(oc !=25)=true:=by rw[bne_iff_ne];omega
 have a9:(oc==26)=false:=Ze;have a6:(oc !=26)=true:=by rw[bne_iff_ne];omega
 clear j;have HP:=Ja hp;clear y t q hp a4 a5;go_enter Tryz.func61,Tryz.ntmps61;go_upto_region 2 with(go_at_call 52;go_must (refine(dJ oc u _).mono ?_;rintro e w1 ⟨he,k⟩;obtain rfl:e=.returned (.agg #[.bool true,.bool true,.bool true,.bool true,.bool false]):=he))
 have x:=(m.out.1.trans (k.mono m.out.1.size)).alloc (Jn m.out.1.size k.size) (T #[.bool true,.bool true,.bool true,.bool true,.bool false] 120);have i:=zB (o:=(T #[.bool true,.bool true,.bool true,.bool true,.bool false] 120)) (zH k m.out.2.1 (lt_of_block m.out.2.1));have g:=zB (o:=(T #[.bool true,.bool true,.bool true,.bool true,.bool false] 120)) (zH k m.out.2.2 (lt_of_block m.out.2.2));have h:=zI (W:=w1) (o:=(T #[.bool true,.bool true,.bool true,.bool true,.bool false] 120)) rfl;generalize w1.alloc (T #[.bool true,.bool true,.bool true,.bool true,.bool false] 120)=W2 at *;generalize w1.heap.size=bs at *;have p0:=K0 i;have p1:=K1 i;have p4:=K4 i;have o0:=K0 g;have o1:=K1 g;have o2:=K2 g;have o3:=K3 g;have o4:=K4 g;have o5:=K5 g;have s0:=K0 h;have s1:=K1 h;have s2:=K2 h;have s3:=K3 h;have s4:=K4 h;have l0:=lt_of_block i;have l1:=lt_of_block g;have l2:=lt_of_block h;have l:=Ja x;clear x i g h k m
 by_cases h1:0<an
 ·skip
  have hr:res=false:=by rw[<-c];simp;try omega
  subst hr;have i1:(0:Int)<(an:Int):=Zo;clear c h1;go_wp2;go_ret
  first|exact⟨rfl,l.out⟩|exact⟨uz Zt,l.out⟩
 by_cases h2:d<0
 ·skip
  have hr:res=false:=by rw[<-c];simp;try omega
  subst hr;have i1:¬(0:Int)<(an:Int):=Zo;clear c h1;go_wp2;go_ret
  first|exact⟨rfl,l.out⟩|exact⟨uz Zt,l.out⟩
 by_cases h4:on=0
 rotate_left
 ·skip
  have hr:res=false:=by rw[<-c];simp;try omega
  subst hr;have i1:¬(0:Int)<(an:Int):=Zo;have i4:((on:Int)==0)=false:=Ze;have a0:((on:Int) !=0)=true:=by rw[bne_iff_ne];omega
  clear c h1;go_wp2;go_ret
  first|exact⟨rfl,l.out⟩|exact⟨uz Zt,l.out⟩
 have hr:res=true:=by rw[<-c];simp;try omega
 subst hr;have i1:¬(0:Int)<(an:Int):=Zo;have i4:((on:Int)==0)=true:=by rw[beq_iff_eq];omega
 have a0:((on:Int) !=0)=false:=by rw[bne_eq_false_iff_eq];omega
 clear c h1 h4;go_wp2;go_ret
 first|exact⟨rfl,l.out⟩|exact⟨uz Zt,l.out⟩
theorem aaa{V:PV}{p:IProg}(hp:ProgIn w w.heap.size V p)(ab:Option Addr)(an ac:Nat)(xs:List Int)(a4:xs.length=an)(b8:an<=9223372036854775807)(x:zi oc=⟨true,false,true,true,false⟩)(j:oc≠2/\oc≠24/\oc≠25/\oc≠26):
 G 61 #[yH V p,.agg #[I (oc),I c,I oa,I ob,U on,.slice ab an ac]] w (ym w (opF p ⟨oc,c,oa,ob,on,xs⟩)):=by
 obtain⟨Vf,Va,Vd,Vb⟩:=V;obtain⟨f1,f2,e1,a5,_⟩:=hp.funcs.form;obtain⟨a1,a2,e2,_,_⟩:=hp.args.form;obtain⟨d1,d2,e3,a6,_⟩:=hp.data.form;obtain⟨b1,b2,e4,_,_⟩:=hp.banks.form;simp only at e1 e2 e3 e4;subst e1 e2 e3 e4;unfold yH;simp only;have b6:p.funcs.length<=9223372036854775807:=Zo;have b7:p.data.length<=9223372036854775807:=Zo;have a0:=((Below.refl w.heap.size w).alloc (Je _) (T (R p f1 f2 a1 a2 d1 d2 b1 b2) 29)).alloc Zs (T #[I (oc),I c,I oa,I ob,U on,.slice ab an ac] 76);have u:=zB (o:=T #[I (oc),I c,I oa,I ob,U on,.slice ab an ac] 76) (zI (W:=w) (o:=T (R p f1 f2 a1 a2 d1 d2 b1 b2) 29) rfl);have t:=zI (W:=w.alloc (T (R p f1 f2 a1 a2 d1 d2 b1 b2) 29)) (o:=T #[I (oc),I c,I oa,I ob,U on,.slice ab an ac] 76) (B:=w.heap.size+1) Zs;have m:=Ja (Jb a0 (Jb u t));obtain⟨res,d⟩:∃r,opF p ⟨oc,c,oa,ob,on,xs⟩=r:=⟨_,rfl⟩
 rw[d];unfold opF at d;simp only[x,a4] at d;rw[if_neg j.2.2.2,if_neg j.1,decide_eq_true j.2.1,decide_eq_true j.2.2.1] at d;have t2:(oc==2)=false:=Ze;have b5:(oc !=2)=true:=by rw[bne_iff_ne];omega
 have b4:(oc==24)=false:=Ze;have a9:(oc !=24)=true:=by rw[bne_iff_ne];omega
 have b3:(oc==25)=false:=Ze;have a8:(oc !=25)=true:=by rw[bne_iff_ne];omega
 have b0:(oc==26)=false:=Ze;have a7:(oc !=26)=true:=by rw[bne_iff_ne];omega
 clear j;have HP:=Ja hp;clear a0 u t hp a5 a6;go_enter Tryz.func61,Tryz.ntmps61;go_upto_region 2 with(go_at_call 52;go_must (refine(dJ oc x _).mono ?_;rintro e w1 ⟨he,k⟩;obtain rfl:e=.returned (.agg #[.bool true,.bool false,.bool true,.bool true,.bool false]):=he))
 have y:=(m.out.1.trans (k.mono m.out.1.size)).alloc (Jn m.out.1.size k.size) (T #[.bool true,.bool false,.bool true,.bool true,.bool false] 120);have i:=zB (o:=(T #[.bool true,.bool false,.bool true,.bool true,.bool false] 120)) (zH k m.out.2.1 (lt_of_block m.out.2.1));have g:=zB (o:=(T #[.bool true,.bool false,.bool true,.bool true,.bool false] 120)) (zH k m.out.2.2 (lt_of_block m.out.2.2));have h:=zI (W:=w1) (o:=(T #[.bool true,.bool false,.bool true,.bool true,.bool false] 120)) rfl;generalize w1.alloc (T #[.bool true,.bool false,.bool true,.bool true,.bool false] 120)=W2 at *;generalize w1.heap.size=bs at *;have p0:=K0 i;have p1:=K1 i;have p4:=K4 i;have o0:=K0 g;have o1:=K1 g;have o2:=K2 g;have o3:=K3 g;have o4:=K4 g;have o5:=K5 g;have s0:=K0 h;have s1:=K1 h;have s2:=K2 h;have s3:=K3 h;have s4:=K4 h;have l0:=lt_of_block i;have l1:=lt_of_block g;have l2:=lt_of_block h;have l:=Ja y;clear y i g h k m
 by_cases h1:0<an
 ·skip
  have hr:res=false:=by rw[<-d];simp;try omega
  subst hr;have i1:(0:Int)<(an:Int):=Zo;clear d h1;go_wp2;go_ret
  first|exact⟨rfl,l.out⟩|exact⟨uz Zt,l.out⟩
 by_cases h2:c=-1
 rotate_left
 ·skip
  have hr:res=false:=by rw[<-d];simp;try omega
  subst hr;have i1:¬(0:Int)<(an:Int):=Zo;have i2:(c==-1)=false:=Ze;have q:(c !=-1)=true:=by rw[bne_iff_ne];omega
  clear d h1;go_wp2;go_ret
  first|exact⟨rfl,l.out⟩|exact⟨uz Zt,l.out⟩
 by_cases h4:on=0
 rotate_left
 ·skip
  have hr:res=false:=by rw[<-d];simp;try omega
  subst hr;have i1:¬(0:Int)<(an:Int):=Zo;have i2:(c==-1)=true:=by rw[beq_iff_eq];omega
  have q:(c !=-1)=false:=by rw[bne_eq_false_iff_eq];omega
  have i4:((on:Int)==0)=false:=Ze;have a3:((on:Int) !=0)=true:=by rw[bne_iff_ne];omega
  clear d h1 h2;go_wp2;go_ret
  first|exact⟨rfl,l.out⟩|exact⟨uz Zt,l.out⟩
 have hr:res=true:=by rw[<-d];simp;try omega
 subst hr;have i1:¬(0:Int)<(an:Int):=Zo;have i2:(c==-1)=true:=by rw[beq_iff_eq];omega
 have q:(c !=-1)=false:=by rw[bne_eq_false_iff_eq];omega
 have i4:((on:Int)==0)=true:=by rw[beq_iff_eq];omega
 have a3:((on:Int) !=0)=false:=by rw[bne_eq_false_iff_eq];omega
 clear d h1 h2 h4;go_wp2;go_ret
 first|exact⟨rfl,l.out⟩|exact⟨uz Zt,l.out⟩
theorem aG{V:PV}{p:IProg}(hp:ProgIn w w.heap.size V p){d:Int}(ab:Option Addr)(an ac:Nat)(xs:List Int)(a3:xs.length=an)(b7:an<=9223372036854775807)(u:zi oc=⟨true,true,true,false,true⟩)(j:oc≠2/\oc≠24/\oc≠25/\oc≠26):
 G 61 #[yH V p,.agg #[I (oc),I d,I oa,I ob,U on,.slice ab an ac]] w (ym w (opF p ⟨oc,d,oa,ob,on,xs⟩)):=by
 obtain⟨Vf,Va,Vd,Vb⟩:=V;obtain⟨f1,f2,e1,a4,_⟩:=hp.funcs.form;obtain⟨a1,a2,e2,_,_⟩:=hp.args.form;obtain⟨d1,d2,e3,a5,_⟩:=hp.data.form;obtain⟨b1,b2,e4,_,_⟩:=hp.banks.form;simp only at e1 e2 e3 e4;subst e1 e2 e3 e4;unfold yH;simp only;have b5:p.funcs.length<=9223372036854775807:=Zo;have b6:p.data.length<=9223372036854775807:=Zo;have y:=((Below.refl w.heap.size w).alloc (Je _) (T (R p f1 f2 a1 a2 d1 d2 b1 b2) 29)).alloc Zs (T #[I (oc),I d,I oa,I ob,U on,.slice ab an ac] 76);have t:=zB (o:=T #[I (oc),I d,I oa,I ob,U on,.slice ab an ac] 76) (zI (W:=w) (o:=T (R p f1 f2 a1 a2 d1 d2 b1 b2) 29) rfl);have q:=zI (W:=w.alloc (T (R p f1 f2 a1 a2 d1 d2 b1 b2) 29)) (o:=T #[I (oc),I d,I oa,I ob,U on,.slice ab an ac] 76) (B:=w.heap.size+1) Zs;have m:=Ja (Jb y (Jb t q));obtain⟨res,c⟩:∃r,opF p ⟨oc,d,oa,ob,on,xs⟩=r:=⟨_,rfl⟩
 rw[c];unfold opF at c;simp only[u,a3] at c;rw[if_neg j.2.2.2,if_neg j.1,decide_eq_true j.2.1,decide_eq_true j.2.2.1] at c;have t2:(oc==2)=false:=Ze;have b4:(oc !=2)=true:=by rw[bne_iff_ne];omega
 have b3:(oc==24)=false:=Ze;have a8:(oc !=24)=true:=by rw[bne_iff_ne];omega
 have b0:(oc==25)=false:=Ze;have a7:(oc !=25)=true:=by rw[bne_iff_ne];omega
 have a9:(oc==26)=false:=Ze;have a6:(oc !=26)=true:=by rw[bne_iff_ne];omega
 clear j;have HP:=Ja hp;clear y t q hp a4 a5;go_enter Tryz.func61,Tryz.ntmps61;go_upto_region 2 with(go_at_call 52;go_must (refine(dJ oc u _).mono ?_;rintro e w1 ⟨he,k⟩;obtain rfl:e=.returned (.agg #[.bool true,.bool true,.bool true,.bool false,.bool true]):=he))
 have x:=(m.out.1.trans (k.mono m.out.1.size)).alloc (Jn m.out.1.size k.size) (T #[.bool true,.bool true,.bool true,.bool false,.bool true] 120);have i:=zB (o:=(T #[.bool true,.bool true,.bool true,.bool false,.bool true] 120)) (zH k m.out.2.1 (lt_of_block m.out.2.1));have g:=zB (o:=(T #[.bool true,.bool true,.bool true,.bool false,.bool true] 120)) (zH k m.out.2.2 (lt_of_block m.out.2.2));have h:=zI (W:=w1) (o:=(T #[.bool true,.bool true,.bool true,.bool false,.bool true] 120)) rfl;generalize w1.alloc (T #[.bool true,.bool true,.bool true,.bool false,.bool true] 120)=W2 at *;generalize w1.heap.size=bs at *;have p0:=K0 i;have p1:=K1 i;have p4:=K4 i;have o0:=K0 g;have o1:=K1 g;have o2:=K2 g;have o3:=K3 g;have o4:=K4 g;have o5:=K5 g;have s0:=K0 h;have s1:=K1 h;have s2:=K2 h;have s3:=K3 h;have s4:=K4 h;have l0:=lt_of_block i;have l1:=lt_of_block g;have l2:=lt_of_block h;have l:=Ja x;clear x i g h k m
 by_cases h1:0<an
 ·skip
  have hr:res=false:=by rw[<-c];simp;try omega
  subst hr;have i1:(0:Int)<(an:Int):=Zo;clear c h1;go_wp2;go_ret
  first|exact⟨rfl,l.out⟩|exact⟨uz Zt,l.out⟩
 by_cases h2:d<0
 ·skip
  have hr:res=false:=by rw[<-c];simp;try omega
  subst hr;have i1:¬(0:Int)<(an:Int):=Zo;clear c h1;go_wp2;go_ret
  first|exact⟨rfl,l.out⟩|exact⟨uz Zt,l.out⟩
 by_cases h3:ob=0
 rotate_left
 ·skip
  have hr:res=false:=by rw[<-c];simp;try omega
  subst hr;have i1:¬(0:Int)<(an:Int):=Zo;have i3:(ob==0)=false:=Ze;have a0:(ob !=0)=true:=by rw[bne_iff_ne];omega
  clear c h1;go_wp2;go_ret
  first|exact⟨rfl,l.out⟩|exact⟨uz Zt,l.out⟩
 have hr:res=true:=by rw[<-c];simp;try omega
 subst hr;have i1:¬(0:Int)<(an:Int):=Zo;have i3:(ob==0)=true:=by rw[beq_iff_eq];omega
 have a0:(ob !=0)=false:=by rw[bne_eq_false_iff_eq];omega
 clear c h1 h3;go_wp2;go_ret
 first|exact⟨rfl,l.out⟩|exact⟨uz Zt,l.out⟩
theorem ay{V:PV}{p:IProg}(hp:ProgIn w w.heap.size V p)(ab:Option Addr)(an ac:Nat)(xs:List Int)(y:xs.length=an)(b5:an<=9223372036854775807)(t:zi oc=⟨false,false,false,false,false⟩)(j:oc≠2/\oc≠24/\oc≠25/\oc≠26):
 G 61 #[yH V p,.agg #[I (oc),I c,I oa,I ob,U on,.slice ab an ac]] w (ym w (opF p ⟨oc,c,oa,ob,on,xs⟩)):=by
 obtain⟨Vf,Va,Vd,Vb⟩:=V;obtain⟨f1,f2,e1,a0,_⟩:=hp.funcs.form;obtain⟨a1,a2,e2,_,_⟩:=hp.args.form;obtain⟨d1,d2,e3,a3,_⟩:=hp.data.form;obtain⟨b1,b2,e4,_,_⟩:=hp.banks.form;simp only at e1 e2 e3 e4;subst e1 e2 e3 e4;unfold yH;simp only;have b3:p.funcs.length<=9223372036854775807:=Zo;have b4:p.data.length<=9223372036854775807:=Zo;have x:=((Below.refl w.heap.size w).alloc (Je _) (T (R p f1 f2 a1 a2 d1 d2 b1 b2) 29)).alloc Zs (T #[I (oc),I c,I oa,I ob,U on,.slice ab an ac] 76);have q:=zB (o:=T #[I (oc),I c,I oa,I ob,U on,.slice ab an ac] 76) (zI (W:=w) (o:=T (R p f1 f2 a1 a2 d1 d2 b1 b2) 29) rfl);have m:=zI (W:=w.alloc (T (R p f1 f2 a1 a2 d1 d2 b1 b2) 29)) (o:=T #[I (oc),I c,I oa,I ob,U on,.slice ab an ac] 76) (B:=w.heap.size+1) Zs;have l:=Ja (Jb x (Jb q m));obtain⟨res,d⟩:∃r,opF p ⟨oc,c,oa,ob,on,xs⟩=r:=⟨_,rfl⟩
 rw[d];unfold opF at d;simp only[t,y] at d;rw[if_neg j.2.2.2,if_neg j.1,decide_eq_true j.2.1,decide_eq_true j.2.2.1] at d;have t2:(oc==2)=false:=Ze;have b0:(oc !=2)=true:=by rw[bne_iff_ne];omega
 have a9:(oc==24)=false:=Ze;have a6:(oc !=24)=true:=by rw[bne_iff_ne];omega
 have a8:(oc==25)=false:=Ze;have a5:(oc !=25)=true:=by rw[bne_iff_ne];omega
 have a7:(oc==26)=false:=Ze;have a4:(oc !=26)=true:=by rw[bne_iff_ne];omega
 clear j;have HP:=Ja hp;clear x q m hp a0 a3;go_enter Tryz.func61,Tryz.ntmps61;go_upto_region 2 with(go_at_call 52;go_must (refine(dJ oc t _).mono ?_;rintro e w1 ⟨he,k⟩;obtain rfl:e=.returned (.agg #[.bool false,.bool false,.bool false,.bool false,.bool false]):=he))
 have u:=(l.out.1.trans (k.mono l.out.1.size)).alloc (Jn l.out.1.size k.size) (T #[.bool false,.bool false,.bool false,.bool false,.bool false] 120);have i:=zB (o:=(T #[.bool false,.bool false,.bool false,.bool false,.bool false] 120)) (zH k l.out.2.1 (lt_of_block l.out.2.1));have g:=zB (o:=(T #[.bool false,.bool false,.bool false,.bool false,.bool false] 120)) (zH k l.out.2.2 (lt_of_block l.out.2.2));have h:=zI (W:=w1) (o:=(T #[.bool false,.bool false,.bool false,.bool false,.bool false] 120)) rfl;generalize w1.alloc (T #[.bool false,.bool false,.bool false,.bool false,.bool false] 120)=W2 at *;generalize w1.heap.size=bs at *;have p0:=K0 i;have p1:=K1 i;have p4:=K4 i;have o0:=K0 g;have o1:=K1 g;have o2:=K2 g;have o3:=K3 g;have o4:=K4 g;have o5:=K5 g;have s0:=K0 h;have s1:=K1 h;have s2:=K2 h;have s3:=K3 h;have s4:=K4 h;have l0:=lt_of_block i;have l1:=lt_of_block g;have l2:=lt_of_block h;have HB:=Ja u;clear u i g h k l;have hr:res=false:=by rw[<-d];simp;try omega
 subst hr;clear d;go_wp2;go_ret
 first|exact⟨rfl,HB.out⟩|exact⟨uz Zt,HB.out⟩
def aL (p:IProg):Bool:=decide (p.args.length≠p.funcs.length)||(decide (p.entry<0)||(decide ((p.funcs.length:Int)<=p.entry)||(decide (p.handler< -1)||decide ((p.funcs.length:Int)<=p.handler))))
def er (p:IProg)(k:Nat)(x:Int):Bool:=decide (x<0)||(decide (8<x)||(decide (0<x) && (decide ((k:Int)=p.entry)||decide ((k:Int)=p.handler))))
theorem dh {p:IProg}(h:2000<p.funcs.length∨512<p.data.length∨64<p.banks.length):sR p=2:=if_pos h
theorem dH {p:IProg}(h:¬(2000<p.funcs.length∨512<p.data.length∨64<p.banks.length))(h2:aL p=true):sR p=1:=by
 unfold sR;rw[if_neg h]
 by_cases hl:p.args.length=p.funcs.length
 ·rw[if_neg (by simp[hl])]
  split
  ·rfl
  ·rw[if_pos];unfold aL at h2;simp only[Bool.or_eq_true,decide_eq_true_eq] at h2;unfold yw;simp only[Bool.and_eq_false_iff,decide_eq_false_iff_not]
   by_cases c:p.entry<0∨(p.funcs.length:Int)<=p.entry
   ·left;omega
   ·right;omega
 ·rw[if_pos hl]
theorem dI{p:IProg}(h:¬(2000<p.funcs.length∨512<p.data.length∨64<p.banks.length))(h2:aL p=false){x:Int}(hk:p.args[k]? =some x)(hb:er p k x=true):sR p=1:=by
 have j:=(Jh.1 hk).1;unfold aL at h2;simp only[Bool.or_eq_false_iff,decide_eq_false_iff_not,Decidable.not_not] at h2;unfold sR;rw[if_neg h,if_neg (by simp[h2.1])]
 split
 ·rfl
 ·rename_i c
  rw[if_pos]
  have g:tX x=true:=by
   rw[Bool.not_eq_false,Oe] at c;exact c x (Ji hk)
  unfold tX at g;unfold er at hb;simp only[Jm,Bool.or_eq_true,decide_eq_true_eq] at g hb;have i:p.args.getD k 0=x:=by rw[Jj,hk];rfl
  have d:∀f:Int,f=(k:Int)->yw p f=false:=fun f hf=>by
   unfold yw;subst hf;rw[Ni,i];simp only[Bool.and_eq_false_iff,beq_eq_false_iff_ne];right;right;omega
  rcases hb with hb|hb|⟨_,hb|hb⟩
  ·omega
  ·omega
  ·left;exact d _ hb.symm
  ·right;exact⟨by omega,d _ hb.symm⟩
theorem cU {p:IProg}(h:¬(2000<p.funcs.length∨512<p.data.length∨64<p.banks.length))(h2:aL p=false)(j:∀k x,p.args[k]? =some x->er p k x=false):sR p=if wB p=false then 37 else 0:=by
 unfold aL at h2;simp only[Bool.or_eq_false_iff,decide_eq_false_iff_not,Decidable.not_not] at h2;obtain⟨hl,h3,o,m,l⟩:=h2
 have d:∀f:Int,0<=f->f<p.funcs.length->(f=p.entry∨f=p.handler)->yw p f=true:=fun f h0 h1 hf=>by
  obtain⟨k,rfl⟩:∃k:Nat,f=(k:Int):=⟨f.toNat,by omega⟩
  obtain⟨x,c⟩:∃x,p.args[k]? =some x:=⟨_,Jd Zo⟩
  have hb:=j k x c;unfold er at hb;simp only[Bool.or_eq_false_iff,Bool.and_eq_false_iff,decide_eq_false_iff_not] at hb;have i:p.args.getD k 0=x:=by rw[Jj,c];rfl
  unfold yw;rw[Ni,i];simp only[Jm,decide_eq_true_eq,beq_iff_eq];omega
 unfold sR;rw[if_neg h,if_neg (by simp[hl]),if_neg,if_neg]
 ·rintro(e|⟨e1,e2⟩)
  ·rw[d p.entry Zo Zo (.inl rfl)] at e;cases e
  ·rw[d p.handler Zo Zo (.inr rfl)] at e2;cases e2
 ·intro e;rw[Um] at e;obtain⟨x,c,g⟩:=e;obtain⟨k,hk⟩:=Ny c;have hb:=j k x hk;unfold er at hb;unfold tX at g;simp only[Bool.or_eq_false_iff,decide_eq_false_iff_not,Jm,decide_eq_true_eq] at hb g;omega
def aq (N:Nat)(b:IBlk):Prop:=(∀x∈b.params,0<=x/\x.toNat<N)/\(∀o∈b.ops,cS N o/\(0<=o.res->o.res.toNat<N))/\∀x∈mE b.term,0<=x/\x.toNat<N
def afb (o:IOp):Bool:=decide (18<=o.code) && decide (o.code<=21)
theorem acc_a(h:afb o=true):(zi o.code).a=true:=by
 unfold afb at h;simp only[Jm,decide_eq_true_eq] at h;have:o.code=18∨o.code=19∨o.code=20∨o.code=21:=Zo;rcases this with e|e|e|e<;>rw[e]<;>rfl
theorem uses_q(o:IOp)(ho:I64 o.code/\I64 o.res/\I64 o.a/\I64 o.b/\o.n<65536){av:Value}{B:Nat}(hB:B<=w.heap.size)(u:zY w B av o.args)(a3:o.args.length<=1000000000000):
 G 66 #[.agg #[I o.code,I o.res,I o.a,I o.b,U (o.n:Int),av]] w (wG w (rR o)):=by
 obtain⟨aa,ac,rfl,b5,b4⟩:=u.form;obtain⟨ii,a4,t,q,m⟩:=info_parts Tryz.info_int;obtain⟨pa,a2⟩:∃pa,(zi o.code).a=pa:=⟨_,rfl⟩
 obtain⟨pb,a1⟩:∃pb,(zi o.code).b=pb:=⟨_,rfl⟩
 obtain⟨LA,j⟩:∃LA,(if pa then [o.a] else([]:List Int))=LA:=⟨_,rfl⟩
 obtain⟨LB,i⟩:∃LB,(if pb then [o.b] else([]:List Int))=LB:=⟨_,rfl⟩
 have hu:rR o=LA++LB++o.args:=by rw[<-j,<-i,<-a2,<-a1];rfl
 rw[hu]
 obtain⟨q1,q2,q3,hf⟩:∃q1 q2 q3,∀W,G 52 #[I o.code] W fun e w'=>e=.returned (.agg #[.bool q1,.bool q2,.bool pa,.bool pb,.bool q3])/\O W w':=
  ⟨(zi o.code).is,(zi o.code).res,(zi o.code).n,fun W=>by have:=dJ o.code rfl W;unfold wL acg at this;rw[a2,a1] at this;exact this⟩
 have b7:=Ja (show ∀x∈LA++LB++o.args,I64 x by
  intro x g;rcases Jl.1 g with g|g
  ·rw[<-j,<-i] at g;rcases Jl.1 g with g|g
   ·cases pa<;>simp at g
    rw[g];exact ho.2.2.1
   ·cases pb<;>simp at g
    rw[g];exact ho.2.2.2.1
  ·exact zY.all u x g)
 have HL:=Ja (show LA.length<=1/\(LA++LB).length<=2 by rw[<-j,<-i];cases pa<;>cases pb<;>simp);have HF:=Ja hf;have a0:=Ja (show zY w B (.slice aa o.args.length ac) o.args/\B<=w.heap.size/\o.args.length<=1000000000000 from⟨u,hB,a3⟩);have HA:=Ja j;have HB:=Ja i;have a9:=zI (W:=w) (o:=T (D o aa ac) 76) rfl;have b0:O w (w.alloc (T (D o aa ac) 76)):=(Below.refl _ _).alloc (Je _) _;have k:=Ja (Jb a9 b0);clear hf u hB a3 ho a9 b0 b5 b4 a2 a1 j i hu;go_enter Tryz.func66,Tryz.ntmps66;go_upto_region 2 with(first|(go_at_call 52;go_must (refine(HF.out _).mono ?_;rintro e w1 ⟨rfl,y⟩))|go_in)
 have hb:=(k.out.2.trans (y.mono k.out.2.size)).alloc (by have:=k.out.2.size;have:=y.size;omega) (T #[.bool q1,.bool q2,.bool pa,.bool pb,.bool q3] 120);have a8:=zB (o:=T #[.bool q1,.bool q2,.bool pa,.bool pb,.bool q3] 120) (zH y k.out.1 (lt_of_block k.out.1));have a7:=zI (W:=w1) (o:=T #[.bool q1,.bool q2,.bool pa,.bool pb,.bool q3] 120) rfl;generalize b6:w1.alloc (T #[.bool q1,.bool q2,.bool pa,.bool pb,.bool q3] 120)=W1 at *;generalize b3:w1.heap.size=c1 at *;obtain⟨OS,a5⟩:∃OS,((D o aa ac):Array Value)=OS:=⟨_,rfl⟩
 obtain⟨FS,a6⟩:∃FS,(#[.bool q1,.bool q2,.bool pa,.bool pb,.bool q3]:Array Value)=FS:=⟨_,rfl⟩
 have H0:=Ja (show UsM w 120 OS FS c1 W1 (L) [] from⟨hb,a5 ▸ a8,a6 ▸ a7,Jv W1 _ _ _⟩)
 have HC:=Ja (show ∀W v l,UsM w 120 OS FS c1 W v l->A W w.heap.size 2 (I o.a)/\A W w.heap.size 3 (I o.b)/\A W w.heap.size 5 (.slice aa o.args.length ac)/\A W c1 2 (.bool pa)/\A W c1 3 (.bool pb) from fun W v l h=>by
  obtain⟨_,h1,h2,_⟩:=h;rw[<-a5] at h1;rw[<-a6] at h2
  exact⟨zA h1 rfl,zA h1 rfl,zA h1 rfl,zA h2 rfl,zA h2 rfl⟩)
 clear b6 b3 y hb a8 a7 a5 a6;obtain⟨x2,x3,x5,f1,f2⟩:=HC.out _ _ _ H0.out
 go_upto_if 9 with fail
 go_cut [4] (fun v wx=>Hid (UsM w 120 OS FS c1 wx v LA))
 case first=>
  cases pa
  ·go_wp2;go_meet;exact Ja (by rw[<-HA.out];exact H0.out)
  ·go_wp2_with (at_builtin;go_must (refine zK _ rfl (.tmp 10) (.tmp 13) 22 rfl w.heap.size 3 ii (I 0) 1 8 Tryz.underlying22 a4 t q m rfl Zd (L) 0 [] rfl (H0.out.2.2.2.alloc _) _ 1 [I o.a] rfl (yM.one (zI Zs) (by simp[Value.oneCell'])) Zd Zd (by have:=H0.out.1.size;simp;omega) ?_;intro v2 W2 d c b1))
   go_meet;exact Ja (by rw[<-HA.out];exact H0.out.put Zd c d)
 case rest=>
  clear x2 x3 x5 f1 f2
  rename World=>wc
  obtain⟨x2,x3,x5,f1,f2⟩:=HC.out _ _ _ hcut.out;have HU:=hcut;clear hcut
  go_upto_if 16 with fail
  go_cut [4] (fun v wx=>Hid (UsM w 120 OS FS c1 wx v (LA++LB)))
  case first=>
   cases pb
   ·go_wp2;go_meet;exact Ja (by rw[<-HB.out];exact(Ua LA).symm ▸ HU.out)
   ·go_wp2_with (at_builtin;go_must (refine zK _ rfl (.tmp 17) (.tmp 20) 22 rfl w.heap.size 3 ii (I 0) 1 8 Tryz.underlying22 a4 t q m rfl Zd u4 LA.length (LA.map zN) rfl (HU.out.2.2.2.alloc _) _ 1 [I o.b] rfl (yM.one (zI Zs) (by simp[Value.oneCell'])) (by have:=HL.out.1;unfold maxLen;omega) (by have:=HL.out.1;omega) (by have:=HU.out.1.size;simp;omega) ?_;intro v2 W2 d c b1))
    go_meet;exact Ja (by rw[<-HB.out];exact HU.out.put Zd c d)
  case rest=>
   clear x2 x3 x5 f1 f2 HU
   rename World=>wd
   obtain⟨x2,x3,x5,f1,f2⟩:=HC.out _ _ _ hcut.out;have HV:=hcut;have b2:=Ja (zY.src (a0.out.1.below zO (hcut.out.1.mono a0.out.2.1)));clear hcut;go_wp2_with (at_builtin;go_must (refine zK _ rfl (.tmp 22) (.tmp 24) 22 rfl w.heap.size 3 ii (I 0) 1 8 Tryz.underlying22 a4 t q m rfl Zd u4 (LA++LB).length ((LA++LB).map zN) rfl HV.out.2.2.2 _ o.args.length (o.args.map zN) rfl b2.out (by have:=a0.out.2.2;have:=HL.out.2;unfold maxLen;omega) (by have:=a0.out.2.2;have:=HL.out.2;omega) HV.out.1.size ?_;intro v9 w9 d c b1))
   go_ret;refine⟨v9,rfl,?_,yP HV.out.1 c HV.out.1.size (wF HV.out.2.2.2)⟩;rw[<-Js] at d;exact uA d (by simp<;>omega) b7.out
end Go.Proofs.YtoahcpkibpomcaaGreat
