/- Part of a proof. -/
import Derived.Test.YtoahcpkibpomcaaGreatIOperv
set_option linter.all false
set_option maxHeartbeats 4000000
set_option maxRecDepth 100000
namespace Go.Proofs.YtoahcpkibpomcaaGreat
variable {b12 b13 bt c d i k:Nat}{l:List IBlk}{m:Mach}{W w w':World}{K:MK}
def opsN (l:List IBlk):Nat:=(l.map fun b=>b.ops.length).sum
def MS.sz (M:MS):Nat:=M.pos+M.next+M.f.length+M.vals.length+opsN M.f
variable {M M1:MS}
theorem xZ {α:Type}(l:List α)(i:Nat)(g:α->α):(wD l i g).length=l.length:=by unfold wD;split<;>simp
theorem xI{α:Type}{l:List α}{x:α}(h:l[i]? =some x)(g:α->α):wD l i g=l.set i (g x):=by unfold wD;rw[h]
def xU (l m:List IBlk):Prop:=∀(i:Nat) (b:IBlk),l[i]? =some b->∃b',m[i]? =some b'/\b'.params=b.params
theorem xU.refl (l:List IBlk):xU l l:=fun _ b h=>⟨b,h,rfl⟩
theorem xU.trans{m n:List IBlk}(h:xU l m)(k:xU m n):xU l n:=fun i b hb=>by
 obtain⟨b1,h1,h2⟩:=h i b hb;obtain⟨b2,h3,c⟩:=k i b1 h1;exact⟨b2,h3,c.trans h2⟩
theorem qB (l:List IBlk)(c:Nat)(g:IBlk->IBlk)(hg:∀b,(g b).params=b.params):xU l (wD l c g):=fun i b hb=>by
 cases h:l[c]? with
 |none=>unfold wD;rw[h];exact⟨b,hb,rfl⟩
 |some x=>
  rw[xI h,Ov]
  by_cases e:c=i
  ·subst e;rw[h] at hb;cases hb;rw[if_pos rfl,if_pos (Jh.1 h).1];exact⟨_,rfl,hg b⟩
  ·rw[if_neg e];exact⟨b,hb,rfl⟩
theorem qX (l m:List IBlk):xU l (l++m):=fun i b hb=>⟨b,by rw[Np (Jh.1 hb).1];exact hb,rfl⟩
theorem ry (l m:List IBlk):opsN (l++m)=opsN l+opsN m:=by unfold opsN;rw[Js,List.sum_append]
theorem sN:∀(l:List IBlk) (i:Nat) (b c:IBlk),l[i]? =some b->opsN (l.set i c)+b.ops.length=opsN l+c.ops.length
 | [],i,b,c,h=>by simp at h
 |x::l,0,b,c,h=>by
  cases h
  show((c::l).map _).sum+_=((x::l).map _).sum+_
  rw[Ql,Ql,List.sum_cons,List.sum_cons]
  omega
 |x::l,i+1,b,c,h=>by
  have:=sN l i b c (by simpa using h)
  show((x::l.set i c).map _).sum+_=((x::l).map _).sum+_
  unfold opsN at this;rw[Ql,Ql,List.sum_cons,List.sum_cons];omega
theorem opsN_le{b:IBlk}(h:l[i]? =some b):b.ops.length<=opsN l:=by
 have:=sN l i b ⟨[],[],⟨0,0,[]⟩⟩ h;simp at this;omega
theorem pG (l:List IBlk)(i:Nat)(g:IBlk->IBlk)(c:Nat)(hg:∀b,(g b).ops.length<=b.ops.length+c):opsN (wD l i g)<=opsN l+c:=by
 cases h:l[i]? with
 |none=>unfold wD;rw[h];exact Nat.le_add_right _ _
 |some b=>
  rw[xI h];have:=sN l i b (g b) h;have:=hg b;omega
structure Grow (c:Nat) (M M':MS):Prop where
 left:M'.left=M.left
 pos:M.pos<=M'.pos
 sz:M'.sz<=M.sz+c
 cur:M'.cur=M.cur
 len:M'.f.length=M.f.length
 nxt:M.next<=M'.next
 pre:M.vals<+:M'.vals
 par:xU M.f M'.f
theorem Grow.refl (M:MS):Grow 0 M M:=⟨rfl,Je _,Je _,rfl,rfl,Je _,Od,xU.refl _⟩
theorem Grow.trans{M2:MS}(h:Grow c M M1)(k:Grow d M1 M2):Grow (c+d) M M2:=⟨k.left.trans h.left,Jn h.pos k.pos,by have:=h.sz;have:=k.sz;omega,k.cur.trans h.cur,k.len.trans h.len,Jn h.nxt k.nxt,h.pre.trans k.pre,h.par.trans k.par⟩
theorem Grow.mono(h:Grow c M M1)(g:c<=d):Grow d M M1:=⟨h.left,h.pos,by have:=h.sz;omega,h.cur,h.len,h.nxt,h.pre,h.par⟩
theorem zT (M:MS):Grow 1 M M.tick:=⟨rfl,Nat.le_succ _,by unfold MS.sz MS.tick;simp only;omega,rfl,rfl,Je _,Od,xU.refl _⟩
theorem yB (M:MS)(o:IOp):Grow 3 M (M.emit o):=by
 have h:=pG M.f M.cur (fun b=> {b with ops:=b.ops++ [eg M o]}) 1 (fun b=>by simp);refine⟨rfl,Je _,?_,rfl,xZ _ _ _,?_,?_,qB _ _ _ (fun _=>rfl)⟩
 ·unfold MS.sz MS.emit;simp only[xZ]
  split
  ·simp only[Jk,Ju];omega
  ·omega
 ·unfold MS.emit;simp only;split<;>omega
 ·unfold MS.emit;simp only;split
  ·exact Qb _ _
  ·exact Od
theorem wT (M:MS)(n:Nat):Grow 3 M (M.num n):=yB _ _
theorem zv (M:MS)(t:ITerm):Grow 0 M (M.endB t):=by
 have h:=pG M.f M.cur (fun b=> {b with term:=t }) 0 (fun b=>Je _);refine⟨rfl,Je _,?_,rfl,xZ _ _ _,Je _,Od,qB _ _ _ (fun _=>rfl)⟩;unfold MS.sz MS.endB;simp only[xZ];omega
theorem yU (E:ME)(M:MS):Grow 4 M (zJ E M).2:=by
 unfold zJ
 split
 ·exact(zT M).trans (wT _ _)
 split
 ·exact(((zT M).trans (zT _)).trans (zT _)).mono Zo
 ·exact((zT M).trans (zT _)).mono Zo
theorem ue (E:ME)(M:MS):Grow 6 M (yJ E M).2:=by
 unfold yJ
 split
 ·exact((zT M).trans (yU E _)).mono Zo
 ·exact(((zT M).trans (zT _)).trans (zT _)).trans (yB _ _)
theorem tj (E:ME):∀(n:Nat) (M:MS),Grow (4*n) M (yI E n M).2
 |0,M=>Grow.refl M
 |n+1,M=>((tj E n M).trans (yU E _)).mono Zo
theorem sI (E:ME)(d:∀x∈E.args,0<=x/\x<4)(M:MS):Grow 16 M (vN E M):=by
 unfold vN
 split
 ·exact(Grow.refl M).mono Zo
 simp only
 split
 ·exact(zT M).mono Zo
 ·have h:∀f,(E.args.getD f 0).toNat<=3:=fun f=>by
   rw[Jj]
   cases c:E.args[f]? with
   |none=>simp
   |some x=>have:=d x (Ji c);simp only[Ot];omega
  have:=h (E.me+1+tkV E M (E.nf-E.me-1));exact(((zT M).trans (tj E _ _)).trans (yB _ _)).mono Zo
theorem kJ (E:ME)(M:MS):Grow 19 M (yR E M):=by
 unfold yR;simp only;have h:=((yU E M).trans (yU E _)).trans (zT _)
 split
 ·split
  ·exact((((h.trans (zT _)).trans (wT _ _)).trans (yB _ _)).trans (yB _ _)).mono Zo
  ·exact((h.trans (zT _)).trans (yB _ _)).mono Zo
 ·exact(h.trans (yB _ _)).mono Zo
theorem pX (E:ME)(c:∀x∈E.args,0<=x/\x<4)(M:MS):Grow 20 M (xK E M):=by
 unfold xK;simp only;have h:=zT M
 split
 ·exact((h.trans (zT _)).trans (wT _ _)).mono Zo
 split
 ·exact(((h.trans (zT _)).trans (yU E _)).trans (yB _ _)).mono Zo
 split
 ·exact(((h.trans (ue E _)).trans (zT _)).trans (yB _ _)).mono Zo
 split
 ·exact((((h.trans (ue E _)).trans (yU E _)).trans (zT _)).trans (yB _ _)).mono Zo
 split
 ·exact((h.trans (zT _)).trans (yB _ _)).mono Zo
 split
 ·exact(((h.trans (yU E _)).trans (zT _)).trans (yB _ _)).mono Zo
 split
 ·exact((((h.trans (zT _)).trans (wT _ _)).trans (zT _)).trans (yB _ _)).mono Zo
 split
 ·exact(h.trans (sI E c _)).mono Zo
 split
 ·split
  ·exact((h.trans (zT _)).trans (yB _ _)).mono Zo
  ·exact(h.trans (zT _)).mono Zo
 ·exact(h.trans (kJ E _)).mono Zo
theorem pw (E:ME)(hE:∀x∈E.args,0<=x/\x<4):∀(n:Nat) (M:MS),Grow (20*n) M (qY E n M)
 |0,M=>Grow.refl M
 |n+1,M=>((pX E hE M).trans (pw E hE n _)).mono Zo
theorem aaE (E:ME)(M:MS){n:Nat}(c:0<n):tkV E M n<n:=by
 unfold tkV;have h1:=Ob (E.s.getD M.pos 0) (show(n:Int)≠0 by omega);have h2:=Int.emod_lt_of_pos (E.s.getD M.pos 0) (show(0:Int)<n by omega);omega
theorem bT (n p:Nat):opsN [wJ n p]=0:=rfl
theorem sz_block (M:MS)(p:Nat):(M.block p).sz=M.sz+1+p:=by
 unfold MS.sz MS.block;simp only[Jk,Ju,ry,bT];omega
open Go.RowKit
def y9 (l:List Nat):ByteArray:=strOfNums (l.map fun(n:Nat)=>(n:Int))
def yV (x:Nat)(ov:Value)(k i:Nat)(s:ByteArray)(inp pol:Nat):Array Value:=#[U x,ov,I k,U i,.string s,I inp,I pol]
theorem mp{b:Nat}{l:List Nat}(h:Q w b (l.map wz).toArray 5)(hl:l.length=8192):
 (convert 49 9 (F b 8192 8192)).run Tryz.prog w=.ok (.string (y9 l)) w:=by
 refine run_convert_bytes_arg w 49 5 Tryz.underlying49 Tryz.underlying5 b 0 8192 8192 (l.map fun(n:Nat)=>(n:Int)) (by simpa using hl) (fun i hi=>?_) 9 Tryz.underlying9;rw[Ng];have c:i<l.length:=Zo;refine zA h ?_;simp[Jj,Jd c,wz]
theorem zu{b:Nat}(h:w.grownBy w' (some b))(j:Nat)(v:Value):w.grownBy (w'.setCell ⟨b,j,none⟩ v) (some b):=
 ⟨h.os,h.tape,h.output,by have:=h.size;simpa[World.setCell] using this,fun q hq hn=>by rw[Below.heap_setCell _ _ _ _ (by simpa using hn)];exact h.block q hq hn⟩
structure FinS (K:MK) (m:Mach) (ov:Value) (b13 bt:Nat) (k i:Nat) (w':World):Prop where
 c13:w'.cell? ⟨b13,0,none⟩=some (.pointer (some ⟨K.pm,0,none⟩))
 c6:w'.cell? ⟨K.pm,6,none⟩=some (.slice (some ⟨K.rb,0,none⟩) 8192 8192)
 c10:w'.cell? ⟨K.pm,10,none⟩=some ov
 c11:w'.cell? ⟨K.pm,11,none⟩=some (.int .i64 (m.inputs:Int))
 c12:w'.cell? ⟨K.pm,12,none⟩=some (.int .i64 (m.polls:Int))
 t0:w'.cell? ⟨bt,0,none⟩=some (.int .i64 (k:Int))
 t1:w'.cell? ⟨bt,1,none⟩=some (.int .u16 (i:Int))
 ram:w'.heap[K.rb]? =some (.cells (m.ram.map wz).toArray 5 (0,0))
theorem FinS.set{ov:Value}(h:FinS K m ov b13 bt k i w')(n1:b12≠b13)(n2:b12≠K.pm)(n3:b12≠bt)(n4:b12≠K.rb)(j:Nat)(v:Value):FinS K m ov b13 bt k i (w'.setCell ⟨b12,j,none⟩ v):=by
 have c:∀ {b q:Nat} {x:Value},b12≠b->A w' b q x->A (w'.setCell ⟨b12,j,none⟩ v) b q x:=fun hn hc=>by
  rw[Oo (w:=w') (Below.heap_setCell _ _ _ _ (by simpa using Ne.symm hn))];exact hc
 exact⟨c n1 h.c13,c n2 h.c6,c n2 h.c10,c n2 h.c11,c n2 h.c12,c n3 h.t0,c n3 h.t1,zR h.ram (by simpa using Ne.symm n4)⟩
theorem FinS.drew{ov:Value}(h:FinS K m ov b13 bt k i w'):FinS K m ov b13 bt k i w'.drew:=⟨h.c13,h.c6,h.c10,h.c11,h.c12,h.t0,h.t1,h.ram⟩
theorem FinS.all{oa:Option Addr}{oc:Nat}(hrl:m.ram.length=8192)(h:FinS K m (.slice oa m.out.length oc) b13 bt k i w'):A w' b13 0 (Y K.pm)/\A w' K.pm 6 (F K.rb 8192 8192)/\A w' K.pm 10 (.slice oa m.out.length oc)/\A w' K.pm 11 (I (m.inputs:Int))/\A w' K.pm 12 (I (m.polls:Int))/\A w' bt 0 (I k)/\A w' bt 1 (U i)/\(convert 49 9 (F K.rb 8192 8192)).run Tryz.prog w'=.ok (.string (y9 m.ram)) w':=⟨h.c13,h.c6,h.c10,h.c11,h.c12,h.t0,h.t1,mp h.ram hrl⟩
theorem pE{ov:Value}(h:MachAt w K m ov)(a0:Q w b13 #[Y K.pm] 208)(l:Q w b12 #[U 0,L,I 0,U 0,.string {data:=#[]},I 0,I 0] 57)(k i x:Nat):
 G 148 #[.agg #[I k,U i],U x,Y b13,Y b12] w fun e w'=>
  e=.returned (.tuple #[])/\Q w' b12 (yV x ov k i (y9 m.ram) m.inputs m.polls) 57/\w.grownBy w' (some b12):=by
 obtain⟨oa,oc,rfl⟩:=zG h.out;have hrl:=h.rlen;have n1:b12≠b13:=by rintro rfl;rw[l] at a0;simp at a0
 have n2:b12≠K.pm:=by rintro rfl;rw[h.blk] at l;simp[r9] at l
 have n4:b12≠K.rb:=by
  rintro rfl;rw[h.ram] at l;have:=congrArg (fun o=>match o with|some (Obj.cells _ t _)=>t|_=>0) l;simp at this
 have n3:b12≠w.heap.size:=by have:=lt_of_block l;omega
 have b:=(Below.refl w.heap.size w).alloc (Je _) (T #[I k,U i] 55);have hM:=h.keep b
 have q:FinS K m (.slice oa m.out.length oc) b13 w.heap.size k i (w.alloc (T #[I k,U i] 55)):=
  ⟨zA (zB a0) Zs,hM.c6,hM.c10,hM.c11,hM.c12,zA (zI rfl) Zs,zA (zI rfl) Zs,hM.ram⟩
 have c:=zB (o:=T #[I k,U i] 55) l;have f7:w.grownBy (w.alloc (T #[I k,U i] 55)) (some b12):=Uo w _ _;have d0:A (w.alloc (T #[I k,U i] 55)) b12 0 (U 0):=zA c Zs;have f0:N (w.alloc (T #[I k,U i] 55)) b12 0:=zE c;have d1:A (w.alloc (T #[I k,U i] 55)) b12 1 (L):=zA c Zs;have f1:N (w.alloc (T #[I k,U i] 55)) b12 1:=zE c;have d2:A (w.alloc (T #[I k,U i] 55)) b12 2 (I 0):=zA c Zs;have f2:N (w.alloc (T #[I k,U i] 55)) b12 2:=zE c;have d3:A (w.alloc (T #[I k,U i] 55)) b12 3 (U 0):=zA c Zs;have f3:N (w.alloc (T #[I k,U i] 55)) b12 3:=zE c;have d4:A (w.alloc (T #[I k,U i] 55)) b12 4 (.string {data:=#[]}):=zA c Zs;have f4:N (w.alloc (T #[I k,U i] 55)) b12 4:=zE c;have d5:A (w.alloc (T #[I k,U i] 55)) b12 5 (I 0):=zA c Zs;have f5:N (w.alloc (T #[I k,U i] 55)) b12 5:=zE c;have d6:A (w.alloc (T #[I k,U i] 55)) b12 6 (I 0):=zA c Zs;have f6:N (w.alloc (T #[I k,U i] 55)) b12 6:=zE c;have HG:=Ja f7;have HB:=Ja c;clear h hM b a0 l f7 c;go_enter Tryz.func148,Tryz.ntmps148;go_upto_region 1 with fail;generalize hW:w.alloc (T #[I k,U i] 55)=W at *;generalize w.heap.size=bt at *;have y:∀w',FinS K m (.slice oa m.out.length oc) b13 bt k i w'->(convert 49 9 (F K.rb 8192 8192)).run Tryz.prog w'=.ok (.string (y9 m.ram)) w':=fun w' hs=>mp hs.ram hrl
 have c1:=q.c13;have c2:=q.c6;have c3:=q.c10;have c4:=q.c11;have c5:=q.c12;have c6:=q.t0;have c7:=q.t1;have cc:=y _ q;have a6:∀(w':World) (j:Nat) (v:Value),FinS K m (.slice oa m.out.length oc) b13 bt k i w'->FinS K m (.slice oa m.out.length oc) b13 bt k i (w'.setCell ⟨b12,j,none⟩ v):=fun w' j v hs=>hs.set n1 n2 n3 n4 j v
 have d:=Ja a6;have i1:=Ja y;have HS:=Ja q;clear a6 y q hW;refine wp_region_noPanic ?_;refine wp_region_held_drew (S:=(fun w'=>A w' b13 0 (Y K.pm)/\A w' K.pm 6 (F K.rb 8192 8192)/\A w' K.pm 10 (.slice oa m.out.length oc)/\A w' K.pm 11 (I (m.inputs:Int))/\A w' K.pm 12 (I (m.polls:Int))/\A w' bt 0 (I k)/\A w' bt 1 (U i)/\(convert 49 9 (F K.rb 8192 8192)).run Tryz.prog w'=.ok (.string (y9 m.ram)) w')) Zk (HS.out.drew.all hrl) (fun hHeld=>?_);have f8:=Ja HS.out.drew;have g:=Ja (show W.drew.heap[b12]? =_ from HB.out);have h7:=Ja (show w.grownBy W.drew (some b12) from⟨HG.out.os,HG.out.tape,HG.out.output,HG.out.size,HG.out.block⟩);clear c1 c2 c3 c4 c5 c6 c7 cc HS HB HG d0 f0 d1 f1 d2 f2 d3 f3 d4 f4 d5 f5 d6 f6;generalize W.drew=Wa at *;refine Th 0 ?_
 try simp only[Yp]
 refine Th 1 ?_
 try simp only[Yp]
 refine Th 2 ?_
 try simp only[Yp]
 refine Th 3 ?_
 try simp only[Yp]
 refine Th 4 ?_
 try simp only[Yp]
 refine Th 5 ?_
 try simp only[Yp]
 refine Th 6 ?_
 try simp only[Yp]
 refine Th 7 ?_
 try simp only[Yp]
 refine Th 8 ?_
 try simp only[Yp]
 refine Th 9 ?_
 try simp only[Yp]
 refine Th 10 ?_
 try simp only[Yp]
 refine Th 11 ?_
 try simp only[Yp]
 refine Th 12 ?_
 try simp only[Yp]
 refine Th 13 ?_
 try simp only[Yp]
 refine Th 14 ?_
 try simp only[Yp]
 refine Th 15 ?_
 try simp only[Yp]
 refine Th 16 ?_
 try simp only[Yp]
 refine Th 17 ?_
 try simp only[Yp]
 refine Th 18 ?_
 try simp only[Yp]
 have e0:=K0 g.out;have g0:N Wa b12 0:=zE g.out;have e1:=K1 g.out;have g1:N Wa b12 1:=zE g.out;have e2:=K2 g.out;have g2:N Wa b12 2:=zE g.out;have e3:=K3 g.out;have g3:N Wa b12 3:=zE g.out;have e4:=K4 g.out;have g4:N Wa b12 4:=zE g.out;have e5:=K5 g.out;have g5:N Wa b12 5:=zE g.out;have e6:=K6 g.out;have g6:N Wa b12 6:=zE g.out;refine wpAnyH_ready (rs:=[19]) Zk Zs ?_;refine AllReadyH.cons (o:=_) rfl (fun K hK=>?_) ?_
 ·skip
  go_simp;have e9:=Ja (d.out ((((((Wa.setCell ⟨b12,0,none⟩ (U 0)).setCell ⟨b12,1,none⟩ (L)).setCell ⟨b12,2,none⟩ (I 0)).setCell ⟨b12,3,none⟩ (U 0)).setCell ⟨b12,4,none⟩ (.string {data:=#[]})).setCell ⟨b12,5,none⟩ (I 0)) 6 (I 0) (d.out (((((Wa.setCell ⟨b12,0,none⟩ (U 0)).setCell ⟨b12,1,none⟩ (L)).setCell ⟨b12,2,none⟩ (I 0)).setCell ⟨b12,3,none⟩ (U 0)).setCell ⟨b12,4,none⟩ (.string {data:=#[]})) 5 (I 0) (d.out ((((Wa.setCell ⟨b12,0,none⟩ (U 0)).setCell ⟨b12,1,none⟩ (L)).setCell ⟨b12,2,none⟩ (I 0)).setCell ⟨b12,3,none⟩ (U 0)) 4 (.string {data:=#[]}) (d.out (((Wa.setCell ⟨b12,0,none⟩ (U 0)).setCell ⟨b12,1,none⟩ (L)).setCell ⟨b12,2,none⟩ (I 0)) 3 (U 0) (d.out ((Wa.setCell ⟨b12,0,none⟩ (U 0)).setCell ⟨b12,1,none⟩ (L)) 2 (I 0) (d.out (Wa.setCell ⟨b12,0,none⟩ (U 0)) 1 (L) (d.out Wa 0 (U 0) f8.out)))))));have c0:Q (Wa.setCell ⟨b12,0,none⟩ (U 0)) b12 #[U 0,L,I 0,U 0,.string {data:=#[]},I 0,I 0] 57:=by rw[zD g.out];rfl
  have b9:Q ((Wa.setCell ⟨b12,0,none⟩ (U 0)).setCell ⟨b12,1,none⟩ (L)) b12 #[U 0,L,I 0,U 0,.string {data:=#[]},I 0,I 0] 57:=by rw[zD c0];rfl
  have b8:Q (((Wa.setCell ⟨b12,0,none⟩ (U 0)).setCell ⟨b12,1,none⟩ (L)).setCell ⟨b12,2,none⟩ (I 0)) b12 #[U 0,L,I 0,U 0,.string {data:=#[]},I 0,I 0] 57:=by rw[zD b9];rfl
  have b7:Q ((((Wa.setCell ⟨b12,0,none⟩ (U 0)).setCell ⟨b12,1,none⟩ (L)).setCell ⟨b12,2,none⟩ (I 0)).setCell ⟨b12,3,none⟩ (U 0)) b12 #[U 0,L,I 0,U 0,.string {data:=#[]},I 0,I 0] 57:=by rw[zD b8];rfl
  have b6:Q (((((Wa.setCell ⟨b12,0,none⟩ (U 0)).setCell ⟨b12,1,none⟩ (L)).setCell ⟨b12,2,none⟩ (I 0)).setCell ⟨b12,3,none⟩ (U 0)).setCell ⟨b12,4,none⟩ (.string {data:=#[]})) b12 #[U 0,L,I 0,U 0,.string {data:=#[]},I 0,I 0] 57:=by rw[zD b7];rfl
  have b5:Q ((((((Wa.setCell ⟨b12,0,none⟩ (U 0)).setCell ⟨b12,1,none⟩ (L)).setCell ⟨b12,2,none⟩ (I 0)).setCell ⟨b12,3,none⟩ (U 0)).setCell ⟨b12,4,none⟩ (.string {data:=#[]})).setCell ⟨b12,5,none⟩ (I 0)) b12 #[U 0,L,I 0,U 0,.string {data:=#[]},I 0,I 0] 57:=by rw[zD b6];rfl
  have b4:Q (((((((Wa.setCell ⟨b12,0,none⟩ (U 0)).setCell ⟨b12,1,none⟩ (L)).setCell ⟨b12,2,none⟩ (I 0)).setCell ⟨b12,3,none⟩ (U 0)).setCell ⟨b12,4,none⟩ (.string {data:=#[]})).setCell ⟨b12,5,none⟩ (I 0)).setCell ⟨b12,6,none⟩ (I 0)) b12 #[U 0,L,I 0,U 0,.string {data:=#[]},I 0,I 0] 57:=by rw[zD b5];rfl
  have a5:=Ja b4;have h6:=Ja (zu (zu (zu (zu (zu (zu (zu h7.out 0 (U 0)) 1 (L)) 2 (I 0)) 3 (U 0)) 4 (.string {data:=#[]})) 5 (I 0)) 6 (I 0));refine hK.out _ _ (FinS.all hrl e9.out) (fun hHeld=>?_);clear hK K e0 g0 e1 g1 e2 g2 e3 g3 e4 g4 e5 g5 e6 g6 c0 b9 b8 b7 b6 b5 b4 f8 g h7
  try simp only[Yp]
  generalize (((((((Wa.setCell ⟨b12,0,none⟩ (U 0)).setCell ⟨b12,1,none⟩ (L)).setCell ⟨b12,2,none⟩ (I 0)).setCell ⟨b12,3,none⟩ (U 0)).setCell ⟨b12,4,none⟩ (.string {data:=#[]})).setCell ⟨b12,5,none⟩ (I 0)).setCell ⟨b12,6,none⟩ (I 0))=Wb at *;refine Th 20 ?_
  try simp only[Yp]
  have e0:=K0 a5.out;have g0:N Wb b12 0:=zE a5.out;refine wpAnyH_ready (rs:=[21]) Zk Zs ?_;refine AllReadyH.cons (o:=_) rfl (fun K hK=>?_) ?_
  ·skip
   go_simp;have e8:=Ja (d.out Wb 0 (U x) e9.out);have b3:Q (Wb.setCell ⟨b12,0,none⟩ (U x)) b12 #[U x,L,I 0,U 0,.string {data:=#[]},I 0,I 0] 57:=by rw[zD a5.out];rfl
   have a4:=Ja b3;have h5:=Ja (zu h6.out 0 (U x));refine hK.out _ _ (FinS.all hrl e8.out) (fun hHeld=>?_);clear hK K e0 g0 b3 e9 a5 h6
   try simp only[Yp]
   generalize (Wb.setCell ⟨b12,0,none⟩ (U x))=Wc at *;refine Th 22 ?_
   try simp only[Yp]
   have e1:=K1 a4.out;have g1:N Wc b12 1:=zE a4.out;refine wpAnyH_ready (rs:=[23]) Zk Zs ?_;refine AllReadyH.cons (o:=_) rfl (fun K hK=>?_) ?_
   ·skip
    go_simp;have e7:=Ja (d.out Wc 1 (.slice oa m.out.length oc) e8.out);have b2:Q (Wc.setCell ⟨b12,1,none⟩ (.slice oa m.out.length oc)) b12 #[U x,.slice oa m.out.length oc,I 0,U 0,.string {data:=#[]},I 0,I 0] 57:=by rw[zD a4.out];rfl
    have u:=Ja b2;have h4:=Ja (zu h5.out 1 (.slice oa m.out.length oc));refine hK.out _ _ (FinS.all hrl e7.out) (fun hHeld=>?_);clear hK K e1 g1 b2 e8 a4 h5
    try simp only[Yp]
    generalize (Wc.setCell ⟨b12,1,none⟩ (.slice oa m.out.length oc))=Wd at *;refine Th 24 ?_
    try simp only[Yp]
    have e2:=K2 u.out;have g2:N Wd b12 2:=zE u.out;have e3:=K3 u.out;have g3:N Wd b12 3:=zE u.out;refine wpAnyH_ready (rs:=[25]) Zk Zs ?_;refine AllReadyH.cons (o:=_) rfl (fun K hK=>?_) ?_
    ·skip
     go_simp;have d7:=Ja (d.out (Wd.setCell ⟨b12,2,none⟩ (I k)) 3 (U i) (d.out Wd 2 (I k) e7.out));have b1:Q (Wd.setCell ⟨b12,2,none⟩ (I k)) b12 #[U x,.slice oa m.out.length oc,I k,U 0,.string {data:=#[]},I 0,I 0] 57:=by rw[zD u.out];rfl
     have b0:Q ((Wd.setCell ⟨b12,2,none⟩ (I k)).setCell ⟨b12,3,none⟩ (U i)) b12 #[U x,.slice oa m.out.length oc,I k,U i,.string {data:=#[]},I 0,I 0] 57:=by rw[zD b1];rfl
     have a3:=Ja b0;have h0:=Ja (zu (zu h4.out 2 (I k)) 3 (U i));refine hK.out _ _ (FinS.all hrl d7.out) (fun hHeld=>?_);clear hK K e2 g2 e3 g3 b1 b0 e7 u h4
     try simp only[Yp]
     generalize ((Wd.setCell ⟨b12,2,none⟩ (I k)).setCell ⟨b12,3,none⟩ (U i))=We at *;refine Th 26 ?_
     try simp only[Yp]
     have e4:=K4 a3.out;have g4:N We b12 4:=zE a3.out;refine wpAnyH_ready (rs:=[27]) Zk Zs ?_;refine AllReadyH.cons (o:=_) rfl (fun K hK=>?_) ?_
     ·skip
      go_simp;have c9:=Ja (d.out We 4 (.string (y9 m.ram)) d7.out);have a9:Q (We.setCell ⟨b12,4,none⟩ (.string (y9 m.ram))) b12 #[U x,.slice oa m.out.length oc,I k,U i,.string (y9 m.ram),I 0,I 0] 57:=by rw[zD a3.out];rfl
      have a2:=Ja a9;have g8:=Ja (zu h0.out 4 (.string (y9 m.ram)));refine hK.out _ _ (FinS.all hrl c9.out) (fun hHeld=>?_);clear hK K e4 g4 a9 d7 a3 h0
      try simp only[Yp]
      generalize (We.setCell ⟨b12,4,none⟩ (.string (y9 m.ram)))=Wf at *;refine Th 28 ?_
      try simp only[Yp]
      have e5:=K5 a2.out;have g5:N Wf b12 5:=zE a2.out;refine wpAnyH_ready (rs:=[29]) Zk Zs ?_;refine AllReadyH.cons (o:=_) rfl (fun K hK=>?_) ?_
      ·skip
       go_simp;have c8:=Ja (d.out Wf 5 (I (m.inputs:Int)) c9.out);have a8:Q (Wf.setCell ⟨b12,5,none⟩ (I (m.inputs:Int))) b12 #[U x,.slice oa m.out.length oc,I k,U i,.string (y9 m.ram),I (m.inputs:Int),I 0] 57:=by rw[zD a2.out];rfl
       have a1:=Ja a8;have f9:=Ja (zu g8.out 5 (I (m.inputs:Int)));refine hK.out _ _ (FinS.all hrl c8.out) (fun hHeld=>?_);clear hK K e5 g5 a8 c9 a2 g8
       try simp only[Yp]
       generalize (Wf.setCell ⟨b12,5,none⟩ (I (m.inputs:Int)))=Wg at *;refine Th 30 ?_
       try simp only[Yp]
       have e6:=K6 a1.out;have g6:N Wg b12 6:=zE a1.out;refine wpAnyH_ready (rs:=[31]) Zk Zs ?_;refine AllReadyH.cons (o:=_) rfl (fun K hK=>?_) ?_
       ·skip
        go_simp;have h8:=Ja (d.out Wg 6 (I (m.polls:Int)) c8.out);have a7:Q (Wg.setCell ⟨b12,6,none⟩ (I (m.polls:Int))) b12 #[U x,.slice oa m.out.length oc,I k,U i,.string (y9 m.ram),I (m.inputs:Int),I (m.polls:Int)] 57:=by rw[zD a1.out];rfl
        have i0:=Ja a7;have h9:=Ja (zu f9.out 6 (I (m.polls:Int)));refine hK.out _ _ (FinS.all hrl h8.out) (fun hHeld=>?_);clear hK K e6 g6 a7 c8 a1 f9
        try simp only[Yp]
        generalize (Wg.setCell ⟨b12,6,none⟩ (I (m.polls:Int)))=Wh at *;refine wpAnyH_done Zk (NoPanic.normal ?_) _;go_wp2
        go_end0
        exact⟨rfl,i0.out,h9.out⟩
       ·exact AllReadyH.nil
      ·exact AllReadyH.nil
     ·exact AllReadyH.nil
    ·exact AllReadyH.nil
   ·exact AllReadyH.nil
  ·exact AllReadyH.nil
 ·exact AllReadyH.nil
def wG (w:World)(xs:List Int)(e:Ending)(w':World):Prop:=∃v,e=.returned v/\zY w' w'.heap.size v xs/\O w w'
theorem yP{B:Nat}{v:Value}(h:Below B w W)(hg:W.grownBy w' v.ownBlock)(hB:B<=W.heap.size)(hv:∀k,v.ownBlock=some k->B<=k):Below B w w':=
 h.trans ⟨hg.os,hg.tape,hg.output,hg.size,fun k hk=>hg.block k Zo (fun e=>by have:=hv k e.symm;omega)⟩
theorem wF{base:Nat}{e:TypeId}{size n:Nat}{v:Value}{xs:List Value}(h:w.ownsRow base e size v n xs):∀k,v.ownBlock=some k->base<=k:=fun k hk=>(h.lt k hk).1
def UsM (w:World)(ft:TypeId)(os fs:Array Value)(c1:Nat)(W:World)(v:Value)(l:List Int):Prop:=
 O w W/\Q W w.heap.size os 76/\Q W c1 fs ft/\W.ownsRow w.heap.size 3 1 v l.length (l.map zN)
theorem UsM.put{W2:World}{ft:TypeId}{os fs:Array Value}{c1:Nat}{v v2:Value}{l:List Int}{o:Obj}(h:UsM w ft os fs c1 W v l)(hf:3≠ft){x:Int}(c:(W.alloc o).grownBy W2 v.ownBlock)(d:W2.ownsRow w.heap.size 3 1 v2 (l.length+1) (l.map zN++ [I x])):UsM w ft os fs c1 W2 v2 (l++ [x]):=
 ⟨yP (h.1.alloc h.1.size _) c (by have:=h.1.size;simp;omega) (wF h.2.2.2),zL c (zB h.2.1) (zC h.2.2.2 h.2.1 (.inr Zd)),zL c (zB h.2.2.1) (zC h.2.2.2 h.2.2.1 (.inr hf)),by rw[Jk,Js];exact d⟩
theorem uses_any(o:IOp)(ho:I64 o.code/\I64 o.res/\I64 o.a/\I64 o.b/\o.n<65536){av:Value}{B:Nat}(hB:B<=w.heap.size)(u:zY w B av o.args)(a3:o.args.length<=1000000000000):
 G 120 #[.agg #[I o.code,I o.res,I o.a,I o.b,U (o.n:Int),av]] w (wG w (rR o)):=by
 obtain⟨aa,ac,rfl,b5,b4⟩:=u.form;obtain⟨ii,a4,t,q,m⟩:=info_parts Tryz.info_int;obtain⟨pa,a2⟩:∃pa,(zi o.code).a=pa:=⟨_,rfl⟩
 obtain⟨pb,a1⟩:∃pb,(zi o.code).b=pb:=⟨_,rfl⟩
 obtain⟨LA,j⟩:∃LA,(if pa then [o.a] else([]:List Int))=LA:=⟨_,rfl⟩
 obtain⟨LB,i⟩:∃LB,(if pb then [o.b] else([]:List Int))=LB:=⟨_,rfl⟩
 have hu:rR o=LA++LB++o.args:=by rw[<-j,<-i,<-a2,<-a1];rfl
 rw[hu]
 obtain⟨q1,q2,q3,hf⟩:∃q1 q2 q3,∀W,G 142 #[I o.code] W fun e w'=>e=.returned (.tuple #[.agg #[.bool q1,.bool pa,.bool pb,.bool q2],.bool q3])/\O W w':=
  ⟨(zi o.code).res,(zi o.code).n,(zi o.code).is,fun W=>by have:=yu o.code W;unfold yX nL at this;rw[a2,a1] at this;exact this⟩
 have b7:=Ja (show ∀x∈LA++LB++o.args,I64 x by
  intro x g;rcases Jl.1 g with g|g
  ·rw[<-j,<-i] at g;rcases Jl.1 g with g|g
   ·cases pa<;>simp at g
    rw[g];exact ho.2.2.1
   ·cases pb<;>simp at g
    rw[g];exact ho.2.2.2.1
  ·exact zY.all u x g)
 have HL:=Ja (show LA.length<=1/\(LA++LB).length<=2 by rw[<-j,<-i];cases pa<;>cases pb<;>simp);have HF:=Ja hf;have a0:=Ja (show zY w B (.slice aa o.args.length ac) o.args/\B<=w.heap.size/\o.args.length<=1000000000000 from⟨u,hB,a3⟩);have HA:=Ja j;have HB:=Ja i;have a9:=zI (W:=w) (o:=T (D o aa ac) 76) rfl;have b0:O w (w.alloc (T (D o aa ac) 76)):=(Below.refl _ _).alloc (Je _) _;have k:=Ja (Jb a9 b0);clear hf u hB a3 ho a9 b0 b5 b4 a2 a1 j i hu;go_enter Tryz.func120,Tryz.ntmps120;go_upto_region 2 with(first|(go_at_call 142;go_must (refine(HF.out _).mono ?_;rintro e w1 ⟨rfl,y⟩))|go_in)
 have hb:=(k.out.2.trans (y.mono k.out.2.size)).alloc (by have:=k.out.2.size;have:=y.size;omega) (T #[.bool q1,.bool pa,.bool pb,.bool q2] 197);have a8:=zB (o:=T #[.bool q1,.bool pa,.bool pb,.bool q2] 197) (zH y k.out.1 (lt_of_block k.out.1));have a7:=zI (W:=w1) (o:=T #[.bool q1,.bool pa,.bool pb,.bool q2] 197) rfl;generalize b6:w1.alloc (T #[.bool q1,.bool pa,.bool pb,.bool q2] 197)=W1 at *;generalize b3:w1.heap.size=c1 at *;obtain⟨OS,a5⟩:∃OS,((D o aa ac):Array Value)=OS:=⟨_,rfl⟩
 obtain⟨FS,a6⟩:∃FS,(#[.bool q1,.bool pa,.bool pb,.bool q2]:Array Value)=FS:=⟨_,rfl⟩
 have H0:=Ja (show UsM w 197 OS FS c1 W1 (L) [] from⟨hb,a5 ▸ a8,a6 ▸ a7,Jv W1 _ _ _⟩)
 have HC:=Ja (show ∀W v l,UsM w 197 OS FS c1 W v l->A W w.heap.size 2 (I o.a)/\A W w.heap.size 3 (I o.b)/\A W w.heap.size 5 (.slice aa o.args.length ac)/\A W c1 1 (.bool pa)/\A W c1 2 (.bool pb) from fun W v l h=>by
  obtain⟨_,h1,h2,_⟩:=h;rw[<-a5] at h1;rw[<-a6] at h2
  exact⟨zA h1 rfl,zA h1 rfl,zA h1 rfl,zA h2 rfl,zA h2 rfl⟩)
 clear b6 b3 y hb a8 a7 a5 a6;obtain⟨x2,x3,x5,f1,f2⟩:=HC.out _ _ _ H0.out
 go_upto_if 13 with fail
 go_cut [5] (fun v wx=>Hid (UsM w 197 OS FS c1 wx v LA))
 case first=>
  cases pa
  ·go_wp2;go_meet;exact Ja (by rw[<-HA.out];exact H0.out)
  ·go_wp2_with (at_builtin;go_must (refine zK _ rfl (.tmp 14) (.tmp 17) 22 rfl w.heap.size 3 ii (I 0) 1 8 Tryz.underlying22 a4 t q m rfl Zd (L) 0 [] rfl (H0.out.2.2.2.alloc _) _ 1 [I o.a] rfl (yM.one (zI Zs) (by simp[Value.oneCell'])) Zd Zd (by have:=H0.out.1.size;simp;omega) ?_;intro v2 W2 d c b1))
   go_meet;exact Ja (by rw[<-HA.out];exact H0.out.put Zd c d)
 case rest=>
  clear x2 x3 x5 f1 f2
  rename World=>wc
  obtain⟨x2,x3,x5,f1,f2⟩:=HC.out _ _ _ hcut.out;have HU:=hcut;clear hcut
  go_upto_if 20 with fail
  go_cut [5] (fun v wx=>Hid (UsM w 197 OS FS c1 wx v (LA++LB)))
  case first=>
   cases pb
   ·go_wp2;go_meet;exact Ja (by rw[<-HB.out];exact(Ua LA).symm ▸ HU.out)
   ·go_wp2_with (at_builtin;go_must (refine zK _ rfl (.tmp 21) (.tmp 24) 22 rfl w.heap.size 3 ii (I 0) 1 8 Tryz.underlying22 a4 t q m rfl Zd u5 LA.length (LA.map zN) rfl (HU.out.2.2.2.alloc _) _ 1 [I o.b] rfl (yM.one (zI Zs) (by simp[Value.oneCell'])) (by have:=HL.out.1;unfold maxLen;omega) (by have:=HL.out.1;omega) (by have:=HU.out.1.size;simp;omega) ?_;intro v2 W2 d c b1))
    go_meet;exact Ja (by rw[<-HB.out];exact HU.out.put Zd c d)
  case rest=>
   clear x2 x3 x5 f1 f2 HU
   rename World=>wd
   obtain⟨x2,x3,x5,f1,f2⟩:=HC.out _ _ _ hcut.out;have HV:=hcut;have b2:=Ja (zY.src (a0.out.1.below zO (hcut.out.1.mono a0.out.2.1)));clear hcut;go_wp2_with (at_builtin;go_must (refine zK _ rfl (.tmp 26) (.tmp 28) 22 rfl w.heap.size 3 ii (I 0) 1 8 Tryz.underlying22 a4 t q m rfl Zd u5 (LA++LB).length ((LA++LB).map zN) rfl HV.out.2.2.2 _ o.args.length (o.args.map zN) rfl b2.out (by have:=a0.out.2.2;have:=HL.out.2;unfold maxLen;omega) (by have:=a0.out.2.2;have:=HL.out.2;omega) HV.out.1.size ?_;intro v9 w9 d c b1))
   go_ret;refine⟨v9,rfl,?_,yP HV.out.1 c HV.out.1.size (wF HV.out.2.2.2)⟩;rw[<-Js] at d;exact uA d (by simp<;>omega) b7.out
def kindF (t:ITerm):Bool:=
 if t.kind=1 then decide (t.to.length=1) && decide (t.a=0)
 else if t.kind=2 then decide (t.to.length=2)
 else if t.kind=3 then decide (1<=t.to.length)
 else if t.kind=4 then decide (t.to.length=0)
 else if t.kind=5 then decide (t.to.length=0) && decide (t.a=0)
 else false
theorem termF_eq (blocks:List IBlk)(t:ITerm):wn blocks t=(t.to.all (uM blocks) && kindF t):=rfl
theorem aaL{α:Type}{p:α->Bool}{l:List α}{x:α}(h:l[k]? =some x):(l.take (k+1)).all p=((l.take k).all p && p x):=by rw[Nh,h];simp
theorem ended_q{b5 tv:Value}{blocks:List IBlk}(a5:wX w w.heap.size b5 blocks)(t:ITerm)(a2:wH w w.heap.size tv t.to):
 G 62 #[.agg #[b5],.agg #[I t.kind,I t.a,tv]] w (ym w (wn blocks t)):=by
 obtain⟨fa,fc,rfl,c9,e7⟩:=a5.form;obtain⟨ta,tc,rfl,c3,e4⟩:=a2.form;obtain⟨tk,tA,tt⟩:=t;simp only at *;have e9:blocks.length<=9223372036854775807:=Zo;have e3:tt.length<=9223372036854775807:=Zo;rw[termF_eq];simp only;have y:=Ja (Jb a5 a2);obtain⟨q,hq⟩:∃q,kindF ⟨tk,tA,tt⟩=q:=⟨_,rfl⟩
 rw[hq];obtain⟨res,d⟩:∃r,(tt.all (uM blocks) && q)=r:=⟨_,rfl⟩
 rw[d];have a7:=Ja d;clear d;unfold kindF at hq;simp only at hq;have b3:=(((Below.refl w.heap.size w).alloc (Je _) (T #[.slice fa blocks.length fc] 39)).alloc Zs (T #[I tk,I tA,.slice ta tt.length tc] 82)).alloc Zt (T #[I 0,I 1,I 2,I (tt.length:Int),I 0,I 0] 166);have a1:=zB (o:=T #[I 0,I 1,I 2,I (tt.length:Int),I 0,I 0] 166) (zB (o:=T #[I tk,I tA,.slice ta tt.length tc] 82) (zI (W:=w) (o:=T #[.slice fa blocks.length fc] 39) rfl));have l:=zB (o:=T #[I 0,I 1,I 2,I (tt.length:Int),I 0,I 0] 166) (zI (W:=w.alloc (T #[.slice fa blocks.length fc] 39)) (o:=T #[I tk,I tA,.slice ta tt.length tc] 82) (B:=w.heap.size+1) Zs);have h:=zI (W:=(w.alloc (T #[.slice fa blocks.length fc] 39)).alloc (T #[I tk,I tA,.slice ta tt.length tc] 82)) (o:=T #[I 0,I 1,I 2,I (tt.length:Int),I 0,I 0] 166) (B:=w.heap.size+1+1) Zs;clear a5 a2 c9 c3;go_enter Tryz.func62,Tryz.ntmps62;go_upto_region 2 with fail;generalize ((w.alloc (T #[.slice fa blocks.length fc] 39)).alloc (T #[I tk,I tA,.slice ta tt.length tc] 82)).alloc (T #[I 0,I 1,I 2,I (tt.length:Int),I 0,I 0] 166)=W1 at *;have f0:=K0 a1;have t0:=K0 l;have t1:=K1 l;have t2:=K2 l;have m0:=K0 h;have m1:=K1 h;have m2:=K2 h;have m3:=K3 h;have m4:=K4 h;have m5:=K5 h;have l0:=lt_of_block a1;have l1:=lt_of_block l;have l2:=lt_of_block h;have g:=Ja b3;clear b3 a1 l h
 go_cut [55] (fun v wx=>v=.bool (!q)/\∃n,wx=W1.drewN n)
 case first=>
  clear y a7
  by_cases k1:tk<1
  ·have hr:q=false:=by rw[<-hq,if_neg Zo,if_neg Zo,if_neg Zo,if_neg Zo,if_neg Zo]
   subst hr;clear hq;go_quiet (fail);go_wp2;go_meet;exact⟨rfl,_,rfl⟩
  by_cases k2:5<tk
  ·have hr:q=false:=by rw[<-hq,if_neg Zo,if_neg Zo,if_neg Zo,if_neg Zo,if_neg Zo]
   subst hr;clear hq;go_quiet (fail);go_wp2;go_meet;exact⟨rfl,_,rfl⟩
  have c7:tk=1∨tk=2∨tk=3∨tk=4∨tk=5:=Zo;clear k1 k2;rcases c7 with rfl|rfl|rfl|rfl|rfl
  ·skip
   by_cases h1:tt.length=1
   rotate_left
   ·skip
    have hr:q=false:=by rw[<-hq];simp[h1];try omega
    subst hr;have i1:((tt.length:Int)==1)=false:=Ze;have c:((tt.length:Int) !=1)=true:=by rw[bne_iff_ne];omega
    clear hq h1;go_quiet (fail);go_wp2;go_meet;exact⟨rfl,_,rfl⟩
   by_cases h2:tA=0
   rotate_left
   ·skip
    have hr:q=false:=by rw[<-hq];simp[h1,h2];try omega
    subst hr;have i1:((tt.length:Int)==1)=true:=by rw[beq_iff_eq];omega
    have c:((tt.length:Int) !=1)=false:=by rw[bne_eq_false_iff_eq];omega
    have i2:(tA==0)=false:=Ze;have a0:(tA !=0)=true:=by rw[bne_iff_ne];omega
    clear hq h1 h2;go_quiet (fail);go_wp2;go_meet;exact⟨rfl,_,rfl⟩
   have hr:q=true:=by rw[<-hq];simp[h1,h2];try omega
   subst hr;have i1:((tt.length:Int)==1)=true:=by rw[beq_iff_eq];omega
   have c:((tt.length:Int) !=1)=false:=by rw[bne_eq_false_iff_eq];omega
   have i2:(tA==0)=true:=by rw[beq_iff_eq];omega
   have a0:(tA !=0)=false:=by rw[bne_eq_false_iff_eq];omega
   clear hq h1 h2;go_quiet (fail);go_wp2;go_meet;exact⟨rfl,_,rfl⟩
  ·skip
   by_cases h1:tt.length=2
   rotate_left
   ·skip
    have hr:q=false:=by rw[<-hq];simp[h1];try omega
    subst hr;have i1:((tt.length:Int)==2)=false:=Ze;have c:((tt.length:Int) !=2)=true:=by rw[bne_iff_ne];omega
    clear hq h1;go_quiet (fail);go_wp2;go_meet;exact⟨rfl,_,rfl⟩
   have hr:q=true:=by rw[<-hq];simp[h1];try omega
   subst hr;have i1:((tt.length:Int)==2)=true:=by rw[beq_iff_eq];omega
   have c:((tt.length:Int) !=2)=false:=by rw[bne_eq_false_iff_eq];omega
   clear hq h1;go_quiet (fail);go_wp2;go_meet;exact⟨rfl,_,rfl⟩
  ·skip
   by_cases h1:tt.length=0
   ·skip
    have hr:q=false:=by rw[<-hq];simp[h1];try omega
    subst hr;have i1:((tt.length:Int)==0)=true:=by rw[beq_iff_eq];omega
    have c:((tt.length:Int) !=0)=false:=by rw[bne_eq_false_iff_eq];omega
    clear hq h1;go_quiet (fail);go_wp2;go_meet;exact⟨rfl,_,rfl⟩
   have hr:q=true:=by rw[<-hq];simp[h1];try omega
   subst hr;have i1:((tt.length:Int)==0)=false:=Ze;have c:((tt.length:Int) !=0)=true:=by rw[bne_iff_ne];omega
   clear hq h1;go_quiet (fail);go_wp2;go_meet;exact⟨rfl,_,rfl⟩
  ·skip
   by_cases h1:tt.length=0
   rotate_left
   ·skip
    have hr:q=false:=by rw[<-hq];simp[h1];try omega
    subst hr;have i1:((tt.length:Int)==0)=false:=Ze;have c:((tt.length:Int) !=0)=true:=by rw[bne_iff_ne];omega
    clear hq h1;go_quiet (fail);go_wp2;go_meet;exact⟨rfl,_,rfl⟩
   have hr:q=true:=by rw[<-hq];simp[h1];try omega
   subst hr;have i1:((tt.length:Int)==0)=true:=by rw[beq_iff_eq];omega
   have c:((tt.length:Int) !=0)=false:=by rw[bne_eq_false_iff_eq];omega
   clear hq h1;go_quiet (fail);go_wp2;go_meet;exact⟨rfl,_,rfl⟩
  ·skip
   by_cases h1:tt.length=0
   rotate_left
   ·skip
    have hr:q=false:=by rw[<-hq];simp[h1];try omega
    subst hr;have i1:((tt.length:Int)==0)=false:=Ze;have c:((tt.length:Int) !=0)=true:=by rw[bne_iff_ne];omega
    clear hq h1;go_quiet (fail);go_wp2;go_meet;exact⟨rfl,_,rfl⟩
   by_cases h2:tA=0
   rotate_left
   ·skip
    have hr:q=false:=by rw[<-hq];simp[h1,h2];try omega
    subst hr;have i1:((tt.length:Int)==0)=true:=by rw[beq_iff_eq];omega
    have c:((tt.length:Int) !=0)=false:=by rw[bne_eq_false_iff_eq];omega
    have i2:(tA==0)=false:=Ze;have a0:(tA !=0)=true:=by rw[bne_iff_ne];omega
    clear hq h1 h2;go_quiet (fail);go_wp2;go_meet;exact⟨rfl,_,rfl⟩
   have hr:q=true:=by rw[<-hq];simp[h1,h2];try omega
   subst hr;have i1:((tt.length:Int)==0)=true:=by rw[beq_iff_eq];omega
   have c:((tt.length:Int) !=0)=false:=by rw[bne_eq_false_iff_eq];omega
   have i2:(tA==0)=true:=by rw[beq_iff_eq];omega
   have a0:(tA !=0)=false:=by rw[bne_eq_false_iff_eq];omega
   clear hq h1 h2;go_quiet (fail);go_wp2;go_meet;exact⟨rfl,_,rfl⟩
 case rest=>
  obtain⟨rfl,n,rfl⟩:=hcut;have f0:(W1.drewN n).cell? ⟨w.heap.size,0,none⟩=_:=f0;have t2:(W1.drewN n).cell? ⟨w.heap.size+1,2,none⟩=_:=t2;have l0:w.heap.size<(W1.drewN n).heap.size:=l0;have l1:w.heap.size+1<(W1.drewN n).heap.size:=l1;have g:=Ja (yC (k:=n) g.out);clear hq t0 t1 m0 m1 m2 m3 m4 m5 l2;generalize W1.drewN n=wc at *
  cases q with
  |false=>
   have hr:res=false:=by rw[<-a7.out,Uh]
   subst hr;go_wp2;go_ret
   exact⟨rfl,g.out⟩
  |true=>
   have d:=a7.out;rw[Bool.and_true] at d;have a6:=Ja d;have HT:=Ja (Jb (y.out.1.below yT g.out) (y.out.2.below xL g.out));have HC:=Ja (show ∀W,O wc W->A W w.heap.size 0 (.slice fa blocks.length fc)/\A W (w.heap.size+1) 2 (.slice ta tt.length tc)/\w.heap.size<W.heap.size/\w.heap.size+1<W.heap.size from fun W hb=>⟨zV hb l0 f0,zV hb l1 t2,Jy l0 hb.size,Jy l1 hb.size⟩);clear d y;go_wp2;clear f0 t2 l0 l1
   go_loopw [6] (fun kv wx=>∃k:Nat,k<=tt.length/\kv=I k/\Hid (O wc wx/\(tt.take k).all (uM blocks)=true)) (fun kv _=>tt.length-(intOf kv).toNat)
   case atStart=>exact⟨0,Jt _,rfl,Ja ⟨Below.refl _ _,by simp⟩⟩
   case round=>
    obtain⟨k,hk,rfl,j⟩:=hrel;obtain⟨f0,t2,l0,l1⟩:=HC.out _ j.out.1
    by_cases u:k<tt.length
    ·have b8:(k:Int)<tt.length:=Zo;have b6:=Ja u;obtain⟨e,he⟩:∃e,tt[k]? =some e:=⟨_,Jd u⟩
     have HE:=Ja he;have a3:=g.out.size;obtain⟨eb,eo,rfl,d3,d0,h64,av,e8,b4⟩:=((HT.out.2.mono xL (B':=wc.heap.size) a3).below xL j.out.1).get he;obtain⟨va,vc,rfl,c2,e2⟩:=b4.form;have d4:eb<wr.heap.size:=Jw _ _ d0;have f2:e.args.length<=9223372036854775807:=Zo;have b2:=(HT.out.1.mono yT (B':=wc.heap.size) a3).below yT j.out.1;clear he u c2 b4;go_upto_region 8 with fail;have hx:=zI (W:=wr) (o:=T #[I e.block,.slice va e.args.length vc] 79) rfl;have m:=(Below.refl wr.heap.size wr).alloc (Je _) (T #[I e.block,.slice va e.args.length vc] 79);have d1:=zV m l0 f0;have b9:=zV m l1 t2;have x:=Ja (j.out.1.trans (m.mono j.out.1.size));have i:=b2.below yT (m.mono j.out.1.size);generalize wr.alloc (T #[I e.block,.slice va e.args.length vc] 79)=W2 at *;generalize wr.heap.size=be at *;have e0:=K0 hx;have e1:=K1 hx;have d5:=lt_of_block hx;have d7:=Jw _ _ d1
     have b0:∀r,uM blocks e=false->res=r->r=false:=fun r he2 hr=>by
      rw[<-hr,<-a6.out,Um];exact⟨e,Ji HE.out,by rw[he2];decide⟩
     have a8:=Ja b0;clear b0 f0 t2 l0 l1 b2 m hx b9 a3
     by_cases h1:e.block<1
     ·have hr:=a8.out res (by unfold uM;rw[decide_eq_false (show ¬1<=e.block by omega)];rfl) rfl;subst hr;have j1:decide (e.block<1)=true:=decide_eq_true h1;clear i;go_quiet (fail);go_wp2;go_ret;exact⟨rfl,g.out.trans (yC (x.out.mono g.out.size))⟩
     have j1:decide (e.block<1)=false:=decide_eq_false h1
     by_cases h2:(blocks.length:Int)<=e.block
     ·have hr:=a8.out res (by unfold uM;rw[decide_eq_false (show ¬e.block<(blocks.length:Int) by omega),Uh];rfl) rfl;subst hr;have j2:decide ((blocks.length:Int)<=e.block)=true:=decide_eq_true h2;clear i;go_quiet (fail);go_wp2;go_ret;exact⟨rfl,g.out.trans (yC (x.out.mono g.out.size))⟩
     have j2:decide ((blocks.length:Int)<=e.block)=false:=decide_eq_false h2;obtain⟨kb,a4⟩:∃kb:Nat,e.block=(kb:Int):=⟨e.block.toNat,by omega⟩
     have c5:kb<blocks.length:=Zo;have c8:(kb:Int)<(blocks.length:Int):=Zo;obtain⟨bb,bo,rfl,f1,_,_,_,pv,ov,tv,kp,_,_,a9,_,_⟩:=i.get (rh c5);obtain⟨pa,pc,rfl,c4,e5⟩:=a9.form;have e6:(xz blocks (kb:Int)).params.length<=9223372036854775807:=Zo;have d6:bb<W2.heap.size:=Jw _ _ kp;rw[a4] at j1 j2 h1 h2 e0
     have b1:uM blocks e=decide (e.args.length=(xz blocks (kb:Int)).params.length):=by
      unfold uM;rw[a4,decide_eq_true (show(1:Int)<=(kb:Int) by omega),decide_eq_true c8];rfl
     have b7:=Ja b1;clear i a4 a9 c4 b1;generalize (xz blocks (kb:Int)).params.length=pn at *
     by_cases h3:e.args.length=pn
     ·have j3:((e.args.length:Int)==(pn:Int))=true:=by rw[beq_iff_eq];omega
      have c0:((e.args.length:Int) !=(pn:Int))=false:=by rw[bne_eq_false_iff_eq];omega
      have d2:=Ja (show uM blocks e=true by rw[b7.out];exact decide_eq_true h3);clear h3;go_quiet (fail);go_wp2;go_roundw
      case rel=>exact⟨k+1,b6.out,by go_num,Ja ⟨yC x.out,by rw[aaL HE.out,j.out.2,d2.out];rfl⟩⟩
      case measure=>have:=b6.out;simp[intOf];omega
     ·have hr:=a8.out res (by rw[b7.out];exact decide_eq_false h3) rfl;subst hr;have j3:((e.args.length:Int)==(pn:Int))=false:=Ze;have c0:((e.args.length:Int) !=(pn:Int))=true:=by rw[bne_iff_ne];omega
      go_quiet (fail);go_wp2;go_ret;exact⟨rfl,g.out.trans (yC (x.out.mono g.out.size))⟩
    ·obtain rfl:k=tt.length:=by omega
     have b8:¬(tt.length:Int)<tt.length:=Zo;have hr:res=true:=by rw[<-a6.out];have:=j.out.2;rwa [Nl] at this
     subst hr;clear u;go_wp2;go_ret;exact⟨rfl,g.out.trans (j.out.1.mono g.out.size)⟩
end Go.Proofs.YtoahcpkibpomcaaGreat
