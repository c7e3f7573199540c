/- Part of a proof. -/
import Derived.Test.YtojclalkfhoooaaGRShp
set_option linter.all false
set_option maxHeartbeats 2000000
set_option maxRecDepth 100000
namespace Go.Proofs.Ytojclalkfhoooaa
variable {c d g i k:Nat}{X X':Nat->Prop}{W W2 w w' w0 w3 wx:World}{o:Obj}{xs:List Int}{vv vv':Value}
structure ME where
 s:List Int
 args:List Int
 handler:Int
 me:Nat
 nf:Nat
structure MS where
 pos:Nat
 f:List IBlk
 cur:Nat
 next:Nat
 vals:List Int
 left:Int
def tkV (E:ME)(M:MS)(n:Nat):Nat:=(E.s.getD M.pos 0%(n:Int)).toNat
def MS.tick (M:MS):MS:= {M with pos:=M.pos+1 }
def wJ (next params:Nat):IBlk:=⟨(List.range params).map fun k=>((next+k:Nat):Int),[],⟨0,0,[]⟩⟩
def MS.block (M:MS)(params:Nat):MS:= {M with f:=M.f++ [wJ M.next params],next:=M.next+params }
def uc (c:Int):Bool:=(zi c).res||decide (c=26)
def wD {α:Type}(l:List α)(i:Nat)(g:α->α):List α:=match l[i]? with|some x=>l.set i (g x)|none=>l
def eg (M:MS)(o:IOp):IOp:= {o with res:=if uc o.code then(M.next:Int) else -1 }
def MS.emit (M:MS)(o:IOp):MS:=
 {M with f:=wD M.f M.cur fun b=> {b with ops:=b.ops++ [eg M o]},next:=if uc o.code then M.next+1 else M.next,vals:=if uc o.code then M.vals++ [(M.next:Int)] else M.vals }
def MS.endB (M:MS)(t:ITerm):MS:= {M with f:=wD M.f M.cur fun b=> {b with term:=t }}
def conOp (n:Nat):IOp:=⟨1,0,0,0,n,[]⟩
def MS.num (M:MS)(n:Nat):MS:=M.emit (conOp n)
def zJ (E:ME)(M:MS):Int×MS:=
 if M.vals.length=0 then((M.next:Int),M.tick.num (tkV E M 9))
 else if 0<tkV E M.tick 3 then(M.vals.getD (M.vals.length-1-tkV E M.tick.tick (min 4 M.vals.length)) 0,M.tick.tick.tick)
 else(M.vals.getD (tkV E M M.vals.length) 0,M.tick.tick)
def sE (k:Nat):Nat:=if k=0 then 15 else 6
def yJ (E:ME)(M:MS):Int×MS:=
 if tkV E M 24=23 then zJ E M.tick
 else((M.next:Int),M.tick.tick.tick.emit ⟨2,0,(tkV E M.tick 2:Nat),0,tkV E M.tick.tick (sE (tkV E M.tick 2)),[]⟩)
def yI (E:ME):Nat->MS->List Int×MS
 |0,M=>([],M)
 |n+1,M=>((yI E n M).1++ [(zJ E (yI E n M).2).1],(zJ E (yI E n M).2).2)
def vN (E:ME)(M:MS):MS:=
 if E.nf<=E.me+1 then M
 else
  let f:=E.me+1+tkV E M (E.nf-E.me-1)
  if(f:Int)=E.handler then M.tick
  else(yI E (E.args.getD f 0).toNat M.tick).2.emit ⟨26,0,(f:Nat),0,0,(yI E (E.args.getD f 0).toNat M.tick).1⟩
def yR (E:ME)(M:MS):MS:=
 let a:=zJ E M
 let b:=zJ E a.2
 let c:Nat:=5+tkV E b.2 13
 let M3:=b.2.tick
 if c=8 then
  (if 0<tkV E M3 8 then
    ((M3.tick.num 1).emit ⟨10,0,b.1,(M3.next:Nat),0,[]⟩).emit ⟨8,0,a.1,((M3.next+1:Nat):Int),0,[]⟩
  else M3.tick.emit ⟨8,0,a.1,b.1,0,[]⟩)
 else M3.emit ⟨(c:Nat),0,a.1,b.1,0,[]⟩
def xK (E:ME)(M0:MS):MS:=
 let k:=tkV E M0 14
 let M:=M0.tick
 if k=0 then M.tick.num (tkV E M 65536)
 else if k=1 then(zJ E M.tick).2.emit ⟨3+tkV E M 2,0,(zJ E M.tick).1,0,0,[]⟩
 else if k=2∨k=3 then(yJ E M).2.tick.emit ⟨18+tkV E (yJ E M).2 2,0,(yJ E M).1,0,0,[]⟩
 else if k=4∨k=5 then
  let b:=zJ E (yJ E M).2
  b.2.tick.emit ⟨20+tkV E b.2 2,0,(yJ E M).1,b.1,0,[]⟩
 else if k=6 then M.tick.emit ⟨24,0,0,0,1+tkV E M 3,[]⟩
 else if k=7 then(zJ E M).2.tick.emit ⟨25,0,(zJ E M).1,0,1+tkV E (zJ E M).2 3,[]⟩
 else if k=8 then(M.tick.num (tkV E M 4096)).tick.emit ⟨22+tkV E (M.tick.num (tkV E M 4096)) 2,0,(M.next:Nat),0,0,[]⟩
 else if k=9 then vN E M
 else if k=10 then(if tkV E M 3=0 then M.tick.emit ⟨27,0,0,0,0,[]⟩ else M.tick)
 else yR E M
def qY (E:ME):Nat->MS->MS
 |0,M=>M
 |n+1,M=>qY E n (xK E M)
def xE:Nat->MS->MS
 |0,M=>M
 |n+1,M=>(xE n M).block 0
def uV (E:ME)(part:MS->MS)(tg:Nat)(join keep:Nat):Nat->Nat->MS->MS
 |0,_,M=>M
 |n+1,k,M0=>
  let M1:=part {M0 with cur:=tg+k }
  let v:=zJ E M1.tick
  let M3:=if tkV E M1 12=11/\0<k then v.2.endB ⟨4,v.1,[]⟩ else v.2.endB ⟨1,0,[⟨(join:Nat),[v.1]⟩]⟩
  uV E part tg join keep n (k+1) {M3 with vals:=M3.vals.take keep }
def xk (tg n:Nat):List IEdge:=(List.range n).map fun k=>⟨((tg+k:Nat):Int),[]⟩
def xi (E:ME)(part:MS->MS)(n:Nat)(M:MS):MS:=
 let c:=zJ E M
 let tg:=c.2.f.length
 let M2:=(xE n c.2).block 1
 let join:=tg+n
 let M3:=M2.endB ⟨if 2<n then 3 else 2,c.1,xk tg n⟩
 let M4:=uV E part tg join M3.vals.length n 0 M3
 {M4 with cur:=join,vals:=M4.vals++ [(((M4.f.getD join ⟨[],[],⟨0,0,[]⟩⟩).params).getD 0 0)]}
def tH (E:ME)(part:MS->MS)(M:MS):MS:=
 let n:=(M.next:Int)
 let x:=zJ E (M.tick.num (tkV E M 5))
 let head:=x.2.f.length
 let i:Int:=(x.2.next:Nat)
 let j:Int:=((x.2.next+1:Nat):Int)
 let M2:=(((x.2.block 2).block 0).block 0).endB ⟨1,0,[⟨(head:Nat),[n,x.1]⟩]⟩
 let M3:=({M2 with cur:=head,vals:=M2.vals++ [j]}:MS).endB ⟨2,i,[⟨((head+1:Nat):Int),[]⟩,⟨((head+2:Nat):Int),[]⟩]⟩
 let M4:=part {M3 with cur:=head+1 }
 let M5:=(M4.num 1).emit ⟨6,0,i,(M4.next:Nat),0,[]⟩
 let y:=zJ E M5
 let M6:=y.2.endB ⟨1,0,[⟨(head:Nat),[((M4.next+1:Nat):Int),y.1]⟩]⟩
 {M6 with vals:=M6.vals.take M3.vals.length,cur:=head+2 }
def tR (E:ME)(M:MS):MS:=
 let M1:=qY E (tkV E M 5+1) M.tick
 {M1 with left:=M1.left-1 }
def zp (E:ME):Nat->MS->MS
 |0,M=>tR E M
 |d+1,M=>
  let M2:=tR E M
  if M2.left<1 then M2
  else
   let k:=tkV E M2 5
   if k=1∨k=2 then xi E (zp E d) 2 M2.tick
   else if k=3 then tH E (zp E d) M2.tick
   else if k=4 then xi E (zp E d) (2+tkV E M2.tick 3) M2.tick.tick
   else M2.tick
def xD (E:ME)(pos:Nat):MS:=
 let M0:MS:=⟨pos,[],0,0,[],6⟩
 let M1:MS:=({M0.tick with next:=tkV E M0 3*10 }:MS).block (E.args.getD E.me 0).toNat
 {M1 with vals:=(wJ (tkV E M0 3*10) (E.args.getD E.me 0).toNat).params }
def xR (E:ME)(pos:Nat):MS:=
 let M1:=zp E 1 (zp E 2 (xD E pos))
 let k:=tkV E M1 10
 if k=0 then M1.tick.endB ⟨5,0,[]⟩
 else if k=1 then M1.tick.endB ⟨4,-1,[]⟩
 else(zJ E M1.tick).2.endB ⟨4,(zJ E M1.tick).1,[]⟩
def tk0 (s:List Int)(pos n:Nat):Nat:=(s.getD pos 0%(n:Int)).toNat
def mdN (s:List Int):Nat:=1+tk0 s 0 4
def yS (s:List Int):Nat->List Int
 |0=> []
 |n+1=>yS s n++ [if n=0 then 0 else((tk0 s n 4:Nat):Int)]
def oJ (s:List Int):Bool:=decide (1<mdN s) && decide ((yS s (mdN s)).getD (mdN s-1) 0=0)
def vw (s:List Int):Int:=if oJ s=true/\tk0 s (mdN s) 2=0 then((mdN s-1:Nat):Int) else -1
def sP (s:List Int):Nat:=if oJ s then mdN s+1 else mdN s
def xC (s:List Int)(k:Nat):ME:=⟨s,yS s (mdN s),vw s,k,mdN s⟩
def zg (s:List Int):Nat->List (List IBlk)×Nat
 |0=>([],sP s)
 |n+1=>((zg s n).1++ [(xR (xC s n) (zg s n).2).f],(xR (xC s n) (zg s n).2).pos)
def qV (s:List Int):Bool:=decide (2<mdN s) && (decide (vw s<0) && decide (tk0 s (zg s (mdN s)).2 12=11))
def sG:ByteArray:=⟨((List.range 4096).map fun k=>UInt8.ofNat (k*k+k/256)).toArray⟩
def am:List IObj:=[⟨-1,16384,16⟩,⟨-1,16640,7⟩,⟨0,128,32⟩]
def uR (s:List Int):IProg:=
 ⟨if qV s then(zg s (mdN s)).1.set (mdN s-1) [] else(zg s (mdN s)).1,yS s (mdN s),0,vw s,am,[sG]⟩
def opsN (l:List IBlk):Nat:=(l.map fun b=>b.ops.length).sum
def MS.sz (M:MS):Nat:=M.pos+M.next+M.f.length+M.vals.length+opsN M.f
variable {M M' M1 M2:MS}
theorem xZ {α:Type}(l:List α)(i:Nat)(g:α->α):(wD l i g).length=l.length:=by unfold wD;split<;>simp
theorem xI{α:Type}{l:List α}{x:α}(h:l[i]? =some x)(g:α->α):wD l i g=l.set i (g x):=by unfold wD;rw[h]
def xU (l m:List IBlk):Prop:=∀(i:Nat) (b:IBlk),l[i]? =some b->∃b',m[i]? =some b'/\b'.params=b.params
theorem xU.refl (l:List IBlk):xU l l:=fun _ b h=>⟨b,h,rfl⟩
theorem xU.trans {l m n:List IBlk}(h:xU l m)(k:xU m n):xU l n:=fun i b hb=>by
 obtain⟨b1,h1,h2⟩:=h i b hb;obtain⟨b2,h3,c⟩:=k i b1 h1;exact⟨b2,h3,c.trans h2⟩
theorem qB (l:List IBlk)(c:Nat)(g:IBlk->IBlk)(hg:∀b,(g b).params=b.params):xU l (wD l c g):=fun i b hb=>by
 cases h:l[c]? with
 |none=>unfold wD;rw[h];exact⟨b,hb,rfl⟩
 |some x=>
  rw[xI h,Ov]
  by_cases e:c=i
  ·subst e;rw[h] at hb;cases hb;rw[if_pos rfl,if_pos (Jh.1 h).1];exact⟨_,rfl,hg b⟩
  ·rw[if_neg e];exact⟨b,hb,rfl⟩
theorem qX (l m:List IBlk):xU l (l++m):=fun i b hb=>⟨b,by rw[Np (Jh.1 hb).1];exact hb,rfl⟩
theorem ry (l m:List IBlk):opsN (l++m)=opsN l+opsN m:=by unfold opsN;rw[Js,List.sum_append]
theorem sN:∀(l:List IBlk) (i:Nat) (b c:IBlk),l[i]? =some b->opsN (l.set i c)+b.ops.length=opsN l+c.ops.length
 | [],i,b,c,h=>by simp at h
 |x::l,0,b,c,h=>by
  cases h
  show((c::l).map _).sum+_=((x::l).map _).sum+_
  rw[Ql,Ql,List.sum_cons,List.sum_cons]
  omega
 |x::l,i+1,b,c,h=>by
  have:=sN l i b c (by simpa using h)
  show((x::l.set i c).map _).sum+_=((x::l).map _).sum+_
  unfold opsN at this;rw[Ql,Ql,List.sum_cons,List.sum_cons];omega
theorem opsN_le{l:List IBlk}{b:IBlk}(h:l[i]? =some b):b.ops.length<=opsN l:=by
 have:=sN l i b ⟨[],[],⟨0,0,[]⟩⟩ h;simp at this;omega
theorem pG (l:List IBlk)(i:Nat)(g:IBlk->IBlk)(c:Nat)(hg:∀b,(g b).ops.length<=b.ops.length+c):opsN (wD l i g)<=opsN l+c:=by
 cases h:l[i]? with
 |none=>unfold wD;rw[h];exact Nat.le_add_right _ _
 |some b=>
  rw[xI h];have:=sN l i b (g b) h;have:=hg b;omega
structure Grow (c:Nat) (M M':MS):Prop where
 left:M'.left=M.left
 pos:M.pos<=M'.pos
 sz:M'.sz<=M.sz+c
 cur:M'.cur=M.cur
 len:M'.f.length=M.f.length
 nxt:M.next<=M'.next
 pre:M.vals<+:M'.vals
 par:xU M.f M'.f
theorem Grow.refl (M:MS):Grow 0 M M:=⟨rfl,Je _,Je _,rfl,rfl,Je _,Od,xU.refl _⟩
theorem Grow.trans(h:Grow c M M1)(k:Grow d M1 M2):Grow (c+d) M M2:=⟨k.left.trans h.left,Jn h.pos k.pos,by have:=h.sz;have:=k.sz;omega,k.cur.trans h.cur,k.len.trans h.len,Jn h.nxt k.nxt,h.pre.trans k.pre,h.par.trans k.par⟩
theorem Grow.mono(h:Grow c M M1)(g:c<=d):Grow d M M1:=⟨h.left,h.pos,by have:=h.sz;omega,h.cur,h.len,h.nxt,h.pre,h.par⟩
theorem zT (M:MS):Grow 1 M M.tick:=⟨rfl,Nat.le_succ _,by unfold MS.sz MS.tick;simp only;omega,rfl,rfl,Je _,Od,xU.refl _⟩
theorem yB (M:MS)(o:IOp):Grow 3 M (M.emit o):=by
 have h:=pG M.f M.cur (fun b=> {b with ops:=b.ops++ [eg M o]}) 1 (fun b=>by simp);refine⟨rfl,Je _,?_,rfl,xZ _ _ _,?_,?_,qB _ _ _ (fun _=>rfl)⟩
 ·unfold MS.sz MS.emit;simp only[xZ]
  split
  ·simp only[Jk,Ju];omega
  ·omega
 ·unfold MS.emit;simp only;split<;>omega
 ·unfold MS.emit;simp only;split
  ·exact Qb _ _
  ·exact Od
theorem wT (M:MS)(n:Nat):Grow 3 M (M.num n):=yB _ _
theorem zv (M:MS)(t:ITerm):Grow 0 M (M.endB t):=by
 have h:=pG M.f M.cur (fun b=> {b with term:=t }) 0 (fun b=>Je _);refine⟨rfl,Je _,?_,rfl,xZ _ _ _,Je _,Od,qB _ _ _ (fun _=>rfl)⟩;unfold MS.sz MS.endB;simp only[xZ];omega
theorem yU (E:ME)(M:MS):Grow 4 M (zJ E M).2:=by
 unfold zJ
 split
 ·exact(zT M).trans (wT _ _)
 split
 ·exact(((zT M).trans (zT _)).trans (zT _)).mono Zo
 ·exact((zT M).trans (zT _)).mono Zo
theorem ue (E:ME)(M:MS):Grow 6 M (yJ E M).2:=by
 unfold yJ
 split
 ·exact((zT M).trans (yU E _)).mono Zo
 ·exact(((zT M).trans (zT _)).trans (zT _)).trans (yB _ _)
theorem tj (E:ME):∀(n:Nat) (M:MS),Grow (4*n) M (yI E n M).2
 |0,M=>Grow.refl M
 |n+1,M=>((tj E n M).trans (yU E _)).mono Zo
theorem sI (E:ME)(d:∀x∈E.args,0<=x/\x<4)(M:MS):Grow 16 M (vN E M):=by
 unfold vN
 split
 ·exact(Grow.refl M).mono Zo
 simp only
 split
 ·exact(zT M).mono Zo
 ·have h:∀f,(E.args.getD f 0).toNat<=3:=fun f=>by
   rw[Jj]
   cases c:E.args[f]? with
   |none=>simp
   |some x=>have:=d x (Ji c);simp only[Ot];omega
  have:=h (E.me+1+tkV E M (E.nf-E.me-1));exact(((zT M).trans (tj E _ _)).trans (yB _ _)).mono Zo
theorem kJ (E:ME)(M:MS):Grow 19 M (yR E M):=by
 unfold yR;simp only;have h:=((yU E M).trans (yU E _)).trans (zT _)
 split
 ·split
  ·exact((((h.trans (zT _)).trans (wT _ _)).trans (yB _ _)).trans (yB _ _)).mono Zo
  ·exact((h.trans (zT _)).trans (yB _ _)).mono Zo
 ·exact(h.trans (yB _ _)).mono Zo
theorem pX (E:ME)(c:∀x∈E.args,0<=x/\x<4)(M:MS):Grow 20 M (xK E M):=by
 unfold xK;simp only;have h:=zT M
 split
 ·exact((h.trans (zT _)).trans (wT _ _)).mono Zo
 split
 ·exact(((h.trans (zT _)).trans (yU E _)).trans (yB _ _)).mono Zo
 split
 ·exact(((h.trans (ue E _)).trans (zT _)).trans (yB _ _)).mono Zo
 split
 ·exact((((h.trans (ue E _)).trans (yU E _)).trans (zT _)).trans (yB _ _)).mono Zo
 split
 ·exact((h.trans (zT _)).trans (yB _ _)).mono Zo
 split
 ·exact(((h.trans (yU E _)).trans (zT _)).trans (yB _ _)).mono Zo
 split
 ·exact((((h.trans (zT _)).trans (wT _ _)).trans (zT _)).trans (yB _ _)).mono Zo
 split
 ·exact(h.trans (sI E c _)).mono Zo
 split
 ·split
  ·exact((h.trans (zT _)).trans (yB _ _)).mono Zo
  ·exact(h.trans (zT _)).mono Zo
 ·exact(h.trans (kJ E _)).mono Zo
theorem pw (E:ME)(hE:∀x∈E.args,0<=x/\x<4):∀(n:Nat) (M:MS),Grow (20*n) M (qY E n M)
 |0,M=>Grow.refl M
 |n+1,M=>((pX E hE M).trans (pw E hE n _)).mono Zo
theorem aaE (E:ME)(M:MS){n:Nat}(c:0<n):tkV E M n<n:=by
 unfold tkV;have h1:=Ob (E.s.getD M.pos 0) (show(n:Int)≠0 by omega);have h2:=Int.emod_lt_of_pos (E.s.getD M.pos 0) (show(0:Int)<n by omega);omega
theorem bT (n p:Nat):opsN [wJ n p]=0:=rfl
theorem sz_block (M:MS)(p:Nat):(M.block p).sz=M.sz+1+p:=by
 unfold MS.sz MS.block;simp only[Jk,Ju,ry,bT];omega
open Go.RowKit
structure Stp (X:Nat->Prop) (w:World) (X':Nat->Prop) (w':World):Prop where
 os:w'.os=w.os
 tape:w'.tape=w.tape
 output:w'.output=w.output
 size:w.heap.size<=w'.heap.size
 new:∀k,X' k->X k∨w.heap.size<=k
 kept:∀k,k<w.heap.size->¬X k->w'.heap[k]? =w.heap[k]?
theorem Stp.refl (X:Nat->Prop)(w:World):Stp X w X w:=⟨rfl,rfl,rfl,Je _,fun _ h=> .inl h,fun _ _ _=>rfl⟩
theorem Stp.trans{X1 X2:Nat->Prop}{w1 w2:World}(h:Stp X w X1 w1)(k:Stp X1 w1 X2 w2):Stp X w X2 w2:=
 ⟨k.os.trans h.os,k.tape.trans h.tape,k.output.trans h.output,Jn h.size k.size,
  fun i hi=>(k.new i hi).elim (h.new i) (fun e=> .inr (Jn h.size e)),
  fun i hi hx=>(k.kept i (Jy hi h.size) (fun e=>(h.new i e).elim hx Zo)).trans (h.kept i hi hx)⟩
theorem Stp.of_below(h:F w w'):Stp X w X w':=
 ⟨h.os,h.tape,h.output,h.size,fun _ h=> .inl h,fun k hk _=>h.block k hk⟩
theorem Stp.below{B:Nat}(h:Stp X w X' w')(c:∀k,X k->B<=k)(hB:B<=w.heap.size):Below B w w':=
 ⟨h.os,h.tape,h.output,h.size,fun k hk=>h.kept k Zo (fun e=>by have:=c k e;omega)⟩
theorem Stp.blk(h:Stp X w X' w')(hk:w.heap[k]? =some o)(c:¬X k):w'.heap[k]? =some o:=(h.kept k (lt_of_block hk) c).trans hk
theorem Stp.cell {X X':Nat->Prop}{w w':World}(h:Stp X w X' w'){k i:Nat}{v:Value}(hk:G w k i v)(c:¬X k):G w' k i v:=
 (Oo (h.kept k (jU hk) c)).trans hk
theorem Stp.not(h:Stp X w X' w')(hk:k<w.heap.size)(c:¬X k):¬X' k:=fun e=>(h.new k e).elim c Zo
def yE {α:Type}(sz:Nat)(R:World->(Nat->Prop)->Nat->Nat->α->Prop)(w:World)(X:Nat->Prop)(v:Value)(xs:List α):Prop:=
 ∃(a:Option Addr) (cap:Nat),v=.slice a xs.length cap/\xs.length<=cap/\cap<=9223372036854775807/\∀(k:Nat) (x:α),xs[k]? =some x->∃b o,a=some ⟨b,o,none⟩/\b<w.heap.size/\¬X b/\R w X b (o+k*sz) x
def rP {α:Type}(R:World->(Nat->Prop)->Nat->Nat->α->Prop):Prop:=∀X w X' w' b q x,b<w.heap.size->¬X b->Stp X w X' w'->R w X b q x->R w' X' b q x
theorem yE.step {α:Type}{sz:Nat}{R:World->(Nat->Prop)->Nat->Nat->α->Prop}(g:rP R){X X':Nat->Prop}{w w':World}{v:Value}{xs:List α}(h:yE sz R w X v xs)(hs:Stp X w X' w'):yE sz R w' X' v xs:=by
 obtain⟨a,cap,rfl,h1,h2,h3⟩:=h;refine⟨a,cap,rfl,h1,h2,fun k x hk=>?_⟩;obtain⟨b,o,j,c,d,i⟩:=h3 k x hk;exact⟨b,o,j,Jy c hs.size,hs.not c d,g _ _ _ _ _ _ _ c d hs i⟩
theorem yE.nil{α:Type}{sz:Nat}{R:World->(Nat->Prop)->Nat->Nat->α->Prop}:yE sz R w X (O) []:=
 ⟨none,0,rfl,Je _,by omega,fun k x hk=>by simp at hk⟩
theorem yE.form{α:Type}{sz:Nat}{R:World->(Nat->Prop)->Nat->Nat->α->Prop}{v:Value}{xs:List α}(h:yE sz R w X v xs):∃a cap,v=.slice a xs.length cap/\xs.length<=cap/\cap<=9223372036854775807:=
 let⟨a,cap,e,h1,h2,_⟩:=h;⟨a,cap,e,h1,h2⟩
theorem yE.to{α:Type}{sz:Nat}{R:World->(Nat->Prop)->Nat->Nat->α->Prop}{S:World->Nat->Nat->Nat->α->Prop}{v:Value}{xs:List α}(h:yE sz R w X v xs)(c:∀b q x,R w X b q x->S w w.heap.size b q x):yN sz S w w.heap.size v xs:=by
 obtain⟨a,cap,rfl,h1,h2,h3⟩:=h;refine⟨a,cap,rfl,h1,h2,fun k x hk=>?_⟩;obtain⟨b,o,i,g,_,d⟩:=h3 k x hk;exact⟨b,o,i,g,c _ _ _ d⟩
def IntG (w:World)(X:Nat->Prop)(b q:Nat)(x:Int):Prop:=G w b q (A x)/\I64 x
theorem zn:rP IntG:=fun X w X' w' b q x _ hx hs h=>⟨hs.cell h.1 hx,h.2⟩
abbrev wm:=yE 1 IntG
def EdgeG (w:World)(X:Nat->Prop)(b q:Nat)(x:IEdge):Prop:=G w b q (A x.block)/\I64 x.block/\∃av,G w b (q+1) av/\wm w X av x.args
theorem yq:rP EdgeG:=fun X w X' w' b q x _ hx hs h=>by
 obtain⟨h1,h2,av,h3,c⟩:=h;exact⟨hs.cell h1 hx,h2,av,hs.cell h3 hx,c.step zn hs⟩
abbrev vT:=yE 2 EdgeG
theorem wm.to{v:Value}(h:wm w X v xs):zY w w.heap.size v xs:=yE.to h fun _ _ _ h=>h
theorem vT.to{v:Value}{xs:List IEdge}(h:vT w X v xs):wH w w.heap.size v xs:=yE.to h fun _ _ _ h=>by
 obtain⟨h1,h2,av,h3,c⟩:=h;exact⟨h1,h2,av,h3,wm.to c⟩
theorem rO{S:Nat}{v:Value}{n:Nat}(h:w.ownsRow S 3 1 v n (xs.map zN))(j:xs.length=n)(i:∀x∈xs,I64 x)(l:∀k,v.ownBlock=some k->¬X k):wm w X v xs:=by
 subst j;obtain⟨a,c,rfl⟩:=zG h;have hl:=zm h;refine⟨a,c,rfl,hl.1,by omega,fun k x hk=>?_⟩;have m:=(Jh.1 hk).1;obtain⟨g,cap,e,hg,d⟩:=h.form Zo;cases e;refine⟨g,0,rfl,d,l g rfl,?_,i x (Ji hk)⟩;rw[Nk,Ng];exact(h.cellAt k Zo).trans (by rw[Jr,hk];rfl)
theorem ki{b:Nat}{e:TypeId}(h:L w b (xs.map fun x=>A x).toArray e)(c:¬X b)(h64:∀x∈xs,I64 x)(hl:xs.length<=1000000):wm w X (N b xs.length xs.length) xs:=by
 refine⟨_,xs.length,rfl,Je _,by omega,fun k x hk=>⟨b,0,rfl,lt_of_block h,c,?_,h64 x (Ji hk)⟩⟩;rw[Ng,Nk];exact zA h (by simp[hk])
theorem ld{S:Nat}{v:Value}{l:List (IEdge×Value)}(h:w.ownsRow S 75 2 v l.length (l.flatMap za))(h64:∀q∈l,I64 q.1.block/\wm w X q.2 q.1.args)(m:∀k,v.ownBlock=some k->¬X k):vT w X v (l.map (·.1)):=by
 obtain⟨a,c,rfl⟩:=zG h;have hl:=zm h;refine⟨a,c,by rw[Nr],by rw[Nr];exact hl.1,by omega,fun k o hk=>?_⟩;rw[Jr,Oz] at hk;obtain⟨q,hq,rfl⟩:=hk;have r:=(Jh.1 hq).1;obtain⟨g,cap,e,hg,hb⟩:=h.form Zo;cases e
 have i:∀j v,(za q)[j]? =some v->G w g (0+k*2+j) v:=fun j v hj=>by
  have d:j<2:=(Jh.1 hj).1;rw[Ng];exact(h.cellAt (k*2+j) Zo).trans ((uB za 2 (fun _=>rfl) l k q hq j d).trans hj)
 obtain⟨h1,h2⟩:=h64 q (Ji hq);exact⟨g,0,rfl,hb,m g rfl,i 0 _ rfl,h1,q.2,i 1 _ rfl,h2⟩
theorem qt{b:Nat}{l:List (IEdge×Value)}{e:TypeId}(h:L w b (l.flatMap za).toArray e)(d:¬X b)(h64:∀q∈l,I64 q.1.block/\wm w X q.2 q.1.args)(hl:l.length<=1000000):
 vT w X (N b l.length l.length) (l.map (·.1)):=by
 refine⟨_,l.length,by rw[Nr],by rw[Nr];exact Je _,by omega,fun k o hk=>?_⟩;rw[Jr,Oz] at hk;obtain⟨q,hq,rfl⟩:=hk;have c:=fun j v (hj:(za q)[j]? =some v)=>oW (f:=za) (n:=2) (fun _=>rfl) h hq hj
 obtain⟨h1,h2⟩:=h64 q (Ji hq);exact⟨b,0,rfl,lt_of_block h,d,c 0 _ rfl,h1,q.2,c 1 _ rfl,h2⟩
structure MKC where
 E:ME
 sv:Value
 fpv:Value
 apv:Value
 dv:Value
 bv:Value
 pm:Nat
 pp:Nat
 B:Nat
 Z:Nat->Prop
def MKC.av (K:MKC)(X:Nat->Prop):Nat->Prop:=fun k=>X k∨K.Z k
variable {K:MKC}
theorem Stp.av(h:Stp X w X' w')(K:MKC):Stp (K.av X) w (K.av X') w':=
 ⟨h.os,h.tape,h.output,h.size,fun k hk=>hk.elim (fun e=>(h.new k e).elim (fun e=> .inl (.inl e)) .inr) (fun e=> .inl (.inr e)),fun k hk hx=>h.kept k hk (fun e=>hx (.inl e))⟩
structure BM where
 b:IBlk
 pv:Value
 ov:Value
 tv:Value
 ol:List (IOp×Value)
variable {l:List BM}
def xG (q:BM):List Value:=[q.pv,q.ov,A q.b.term.kind,A q.b.term.a,q.tv]
structure BMOk (w:World) (K:MKC) (X:Nat->Prop) (q:BM):Prop where
 k64:I64 q.b.term.kind/\I64 q.b.term.a
 par:wm w (K.av X) q.pv q.b.params
 ops:q.b.ops=q.ol.map (·.1)
 own:w.ownsRow K.B 77 6 q.ov q.ol.length (q.ol.flatMap zU)
 arg:∀o∈q.ol,qN o.1/\wm w (K.av X) o.2 o.1.args
 tos:vT w (K.av X) q.tv q.b.term.to
 inX:∀k,q.ov.ownBlock=some k->X k
theorem BMOk.step {w w':World}{K:MKC}{X X':Nat->Prop}{q:BM}(h:BMOk w K X q)(hs:Stp X w X' w')(hk:∀k,q.ov.ownBlock=some k->w'.heap[k]? =w.heap[k]?)(c:∀k,X k->X' k):BMOk w' K X' q:=
 ⟨h.k64,h.par.step zn (hs.av K),h.ops,yD h.own hk,fun o ho=>⟨(h.arg o ho).1,(h.arg o ho).2.step zn (hs.av K)⟩,h.tos.step yq (hs.av K),fun k hk=>c k (h.inX k hk)⟩
def uC (K:MKC)(M:MS)(fv vv:Value):Array Value:=
 #[K.sv,A (M.pos:Int),Q K.pp,A (K.E.me:Int),fv,A (M.cur:Int),A (M.next:Int),vv,A M.left]
structure MkEnv (w:World) (K:MKC) (X:Nat->Prop):Prop where
 s:zY w K.B K.sv K.E.s
 fpv:∃a c,K.fpv=.slice a K.E.nf c
 prog:w.heap[K.pp]? =some (.cells #[K.fpv,K.apv,.int .i64 0,.int .i64 K.E.handler,K.dv,K.bv] 29 (0,0))
 args:wm w (K.av X) K.apv K.E.args
 data:∃b,K.dv=.slice (some ⟨b,0,none⟩) 3 3/\¬K.av X b/\w.heap[b]? =some (.cells #[.int .i64 (-1),.int .u16 16384,.int .u16 16,.int .i64 (-1),.int .u16 16640,.int .u16 7,.int .i64 0,.int .u16 128,.int .u16 32] 51 (0,0))
 ppX:¬K.av X K.pp
 h64:I64 K.E.handler
 len:K.E.args.length=K.E.nf
 nf:K.E.nf<=4/\K.E.me<K.E.nf
 alt:∀x∈K.E.args,0<=x/\x<4
 zx:∀k,X k->¬K.Z k
 zl:∀k,K.Z k->k<w.heap.size
theorem MkEnv.step {w w':World}{K:MKC}{X X':Nat->Prop}(h:MkEnv w K X)(hs:Stp X w X' w')(hb:Below K.B w w'):MkEnv w' K X':=by
 obtain⟨b,e1,e2,e3⟩:=h.data;have c:=hs.av K;exact⟨h.s.below zO hb,h.fpv,c.blk h.prog h.ppX,h.args.step zn c,⟨b,e1,c.not (lt_of_block e3) e2,c.blk e3 e2⟩,c.not (lt_of_block h.prog) h.ppX,h.h64,h.len,h.nf,h.alt,fun k e=>(hs.new k e).elim (h.zx k) (fun e2 e3=>by have:=h.zl k e3;omega),fun k e=>Jy (h.zl k e) hs.size⟩
structure MkIn (w:World) (K:MKC) (X:Nat->Prop) (M:MS) (fv vv:Value) (l:List BM):Prop where
 blk:w.heap[K.pm]? =some (.cells (uC K M fv vv) 120 (0,0))
 own:w.ownsRow K.B 49 5 fv l.length (l.flatMap xG)
 fl:M.f=l.map (·.b)
 bok:∀q∈l,BMOk w K X q
 apart:∀(i j:Nat) (qi qj:BM) (k:Nat),l[i]? =some qi->l[j]? =some qj->qi.ov.ownBlock=some k->qj.ov.ownBlock=some k->i=j
 vown:w.ownsRow K.B 3 1 vv M.vals.length (M.vals.map zN)
 v64:∀x∈M.vals,I64 x
 xm:X K.pm
 xf:∀k,fv.ownBlock=some k->X k
 xv:∀k,vv.ownBlock=some k->X k
 xB:∀k,X k->K.B<=k
 xl:∀k,X k->k<w.heap.size
 env:MkEnv w K X
 bnd:M.sz<=1000000
 lft:6<=M.left+M.pos/\M.left<=6
def wW (w:World)(K:MKC)(X:Nat->Prop)(M:MS):Prop:=∃fv vv l,MkIn w K X M fv vv l
section
variable {w:World} {K:MKC} {X:Nat->Prop} {M:MS} {fv vv:Value} {l:List BM} (h:MkIn w K X M fv vv l)
include h
theorem MkIn.c0:G w K.pm 0 K.sv:=zA h.blk rfl
theorem MkIn.c1:G w K.pm 1 (A (M.pos:Int)):=zA h.blk rfl
theorem MkIn.c2:G w K.pm 2 (Q K.pp):=zA h.blk rfl
theorem MkIn.c3:G w K.pm 3 (A (K.E.me:Int)):=zA h.blk rfl
theorem MkIn.c4:G w K.pm 4 fv:=zA h.blk rfl
theorem MkIn.c5:G w K.pm 5 (A (M.cur:Int)):=zA h.blk rfl
theorem MkIn.c6:G w K.pm 6 (A (M.next:Int)):=zA h.blk rfl
theorem MkIn.c7:G w K.pm 7 vv:=zA h.blk rfl
theorem MkIn.c8:G w K.pm 8 (A M.left):=zA h.blk rfl
theorem MkIn.free (i:Nat):T w K.pm i:=zE h.blk
theorem MkIn.size:K.B<=w.heap.size:=Jn (h.xB _ h.xm) (Qd (h.xl _ h.xm))
theorem MkIn.keep(hb:F w w'):MkIn w' K X M fv vv l:=
 have hs:Stp X w X w':=Stp.of_below hb;have hk:∀ {v:Value} {e:TypeId} {sz n:Nat} {xs:List Value},w.ownsRow K.B e sz v n xs->∀k,v.ownBlock=some k->w'.heap[k]? =w.heap[k]?:=fun ho k hk=>hb.block k (ho.lt k hk).2
 ⟨zH hb h.blk (lt_of_block h.blk),yD h.own (hk h.own),h.fl,fun q hq=>(h.bok q hq).step hs (hk (h.bok q hq).own) (fun _ e=>e),h.apart,yD h.vown (hk h.vown),h.v64,h.xm,h.xf,h.xv,h.xB,fun k e=>Jy (h.xl k e) hb.size,
  h.env.step hs (hb.mono h.size),h.bnd,h.lft⟩
theorem MkIn.setC (i:Nat)(u:Value)(M':MS)(vv':Value)(j:(uC K M fv vv).setIfInBounds i u=uC K M' fv vv')(hf:M'.f=M.f)(hv:w.ownsRow K.B 3 1 vv' M'.vals.length (M'.vals.map zN))(h64:∀x∈M'.vals,I64 x)(g:∀k,vv'.ownBlock=some k->X k)
 (d:M'.sz<=1000000) (hl:6<=M'.left+M'.pos/\M'.left<=6):MkIn (w.setCell ⟨K.pm,i,none⟩ u) K X M' fv vv' l/\Stp X w X (w.setCell ⟨K.pm,i,none⟩ u):=by
 have hs:Stp X w X (w.setCell ⟨K.pm,i,none⟩ u):=⟨rfl,rfl,rfl,by simp,fun _ h=> .inl h,fun k hk hx=>Below.heap_setCell _ _ _ _ (fun e=>hx (by rw[e];exact h.xm))⟩
 have c:∀ {v:Value} {e:TypeId} {sz n:Nat} {xs:List Value},w.ownsRow K.B e sz v n xs->e≠120->∀k,v.ownBlock=some k->(w.setCell ⟨K.pm,i,none⟩ u).heap[k]? =w.heap[k]?:=fun ho he k hk=>
  Below.heap_setCell _ _ _ _ (fun e=>zC ho h.blk (.inr he) (by rw[hk];exact congrArg some e))
 refine⟨⟨?_,yD h.own (c h.own Zd),hf.trans h.fl,fun q hq=>(h.bok q hq).step hs (c (h.bok q hq).own Zd) (fun _ e=>e),h.apart,yD hv (c hv Zd),h64,h.xm,h.xf,g,h.xB,fun k e=>by simpa using h.xl k e,
  h.env.step hs ((Below.refl _ _).setCell (h.xB _ h.xm) _),d,hl⟩,hs⟩
 rw[zD h.blk,j]
end
def aav {α:Type}:List α->Nat->List α->List α
 |xs,_,[]=>xs
 |xs,o,v::vs=>aav (xs.set o v) (o+1) vs
theorem mV {α:Type}:∀(vs:List α) (xs:List α) (o:Nat),(aav xs o vs).length=xs.length
 | [],xs,o=>rfl
 |v::vs,xs,o=>(mV vs _ _).trans Zs
theorem oq {α:Type}(m:Nat):∀(vs:List α) (xs:List α) (o:Nat),(aav xs o vs).take m=aav (xs.take m) o vs
 | [],xs,o=>rfl
 |v::vs,xs,o=>(oq m vs _ _).trans (by rw[List.take_set];rfl)
theorem fV {α:Type}:∀(vs p q r:List α),q.length=vs.length->aav (p++(q++r)) p.length vs=p++(vs++r)
 | [],p,[],r,_=>rfl
 |v::vs,p,x::q,r,h=>by
  have e:(p++(x::q++r)).set p.length v=(p++ [v])++(q++r):=by
   rw[Uj _ _ (Je _)];simp
  show aav ((p++(x::q++r)).set p.length v) (p.length+1) vs=_
  rw[e];have:=fV vs (p++ [v]) q r (by simpa using h);rw[Jk,Ju] at this;rw[this]
  simp
 | [],p,x::q,r,h=>by simp at h
 |v::vs,p,[],r,h=>by simp at h
theorem wq {α:Type}(f:α->List Value)(n:Nat)(hf:∀a,(f a).length=n):∀l:List α,(l.flatMap f).length=l.length*n
 | []=>by simp
 |a::l=>by rw[Qa,Jk,hf,wq f n hf l,Nq,Nat.add_mul];omega
theorem js {α:Type}(f:α->List Value)(n:Nat)(hf:∀a,(f a).length=n)(l:List α)(k:Nat)(b a:α)(hk:l[k]? =some b):aav (l.flatMap f) (k*n) (f a)=(l.set k a).flatMap f:=by
 have c:=(Jh.1 hk).1;have hb:l[k]=b:=(Jh.1 hk).2
 have e1:l=l.take k++b::l.drop (k+1):=by
  rw[<-hb,Ue,Qi]
 have hl:(l.take k).length=k:=by simp;omega
 have e2:l.set k a=l.take k++a::l.drop (k+1):=by
  rw[List.set_eq_take_append_cons_drop,if_pos c]
 rw[e2]
 have e3:l.flatMap f=(l.take k).flatMap f++(f b++(l.drop (k+1)).flatMap f):=by
  conv=>lhs;rw[e1]
  rw[Nx,Qa]
 have d:((l.take k).flatMap f).length=k*n:=by rw[wq f n hf,hl]
 rw[e3,Nx,Qa,<-d];exact fV _ _ _ _ (by rw[hf,hf])
theorem th (b:Nat)(t:TypeId):∀(vs:List Value) (o:Nat) (w:World) (cur:Array Value),L w b cur t->L (w.setCells b o vs) b (aav cur.toList o vs).toArray t
 | [],o,w,cur,h=>by simpa[aav,World.setCells] using h
 |v::vs,o,w,cur,h=>by
  have:=th b t vs (o+1) (w.setCell ⟨b,o,none⟩ v) _ (zD h v);rw[Array.toList_setIfInBounds] at this;exact this
section
variable {α:Type} {f:α->List Value} {n:Nat} {w:World} {base g:Nat} {e:TypeId} {v:Value} {l:List α} {k:Nat} {b:α}
theorem z9 (hf:∀a,(f a).length=n)(h:w.ownsRow base e n v l.length (l.flatMap f))(hg:v.ownBlock=some g)(hk:l[k]? =some b):w.rangeAt g (k*n) (f b):=fun j u hj=>by
 have c:j<n:=by rw[<-hf b];exact(Jh.1 hj).1
 have h1:=h.cells hg (k*n+j) u ((uB f n hf l k b hk j c).trans hj);rw[Addr.add_mid,Ng] at h1;exact h1
theorem zq (i:0<n)(hf:∀a,(f a).length=n)(h:w.ownsRow base e n v l.length (l.flatMap f))(hg:v.ownBlock=some g)(hk:l[k]? =some b):w.there g (k*n) n:=fun j hj=>by
 refine⟨?_,?_⟩
 ·obtain⟨u,c⟩:∃u,(f b)[j]? =some u:=⟨_,Jd (by rw[hf];exact hj)⟩
  rw[z9 hf h hg hk j u c];rfl
 ·rcases h.2 with⟨rfl,_⟩|⟨g',cap,cur,rfl,_,d,_⟩
  ·simp[Value.ownBlock] at hg
  ·simp[Value.ownBlock] at hg;subst hg;exact zE d
theorem uZ (hf:∀a,(f a).length=n)(h:w.ownsRow base e n v l.length (l.flatMap f))(hg:v.ownBlock=some g)(hk:l[k]? =some b)(a:α):(w.setCells g (k*n) (f a)).ownsRow base e n v l.length ((l.set k a).flatMap f):=by
 refine⟨by rw[wq f n hf,Nd],?_⟩;rcases h.2 with⟨rfl,_⟩|⟨g',cap,cur,rfl,h1,h2,h3,i,d,c⟩
 ·simp[Value.ownBlock] at hg
 ·simp[Value.ownBlock] at hg;subst hg;refine .inr ⟨g',cap,_,rfl,h1,th _ _ _ _ _ _ h2,h3,i,?_,?_⟩
  ·rw[List.size_toArray,mV];simpa using d
  ·rw[oq,c];exact js f n hf l k b a hk
end
def yk (K:MKC)(X:Nat->Prop)(w:World)(M':MS)(r:Value)(e:Ending)(w':World):Prop:=e=.returned r/\∃X',wW w' K X' M'/\Stp X w X' w'
theorem MkIn.at{fv:Value}(h:MkIn w K X M fv vv l):wW w K X M:=⟨fv,vv,l,h⟩
theorem MkIn.ticked{fv:Value}(h:MkIn w K X M fv vv l)(c:M.sz+1<=1000000):MkIn (w.setCell ⟨K.pm,1,none⟩ (A ((M.pos:Int)+1))) K X M.tick fv vv l/\Stp X w X (w.setCell ⟨K.pm,1,none⟩ (A ((M.pos:Int)+1))):=
 h.setC 1 _ M.tick vv rfl rfl h.vown h.v64 h.xv (by have:=(zT M).sz;omega) (by have:=h.lft;show 6<=M.left+((M.pos+1:Nat):Int)/\M.left<=6;omega)
theorem rK (x:Int)(n:Nat)(d:0<n)(c:n<=1000000):Int.tmod (wrap64 (Int.tmod x n+n)) n=((x%(n:Int)).toNat:Int):=by
 have h1:=Qv x (show(0:Int)<n by omega)
 have h2:-(n:Int)<Int.tmod x n:=by
  have:=Qu x (show(0:Int)<n by omega);omega
 have e:wrap64 (Int.tmod x n+n)=Int.tmod x n+n:=IntWalk.wrap64_in _ Zo;rw[e];have h3:=Ob x (show(n:Int)≠0 by omega);have g:=Int.emod_lt_of_pos x (show(0:Int)<n by omega)
 have e2:Int.tmod (Int.tmod x n+n) n=x%(n:Int):=by
  rw[Qc Zo,Int.add_emod_right]
  conv=>rhs;rw[<-Int.tmod_add_mul_tdiv x n]
  rw[Int.add_mul_emod_self_left]
 rw[e2];omega
theorem uD{fv:Value}(h:MkIn w K X M fv vv l){n:Nat}(k:0<n)(d:n<=1000000)(i:M.sz+1<=1000000):
 Y 59 #[Q K.pm,A n] w fun e w'=>e=.returned (A (tkV K.E M n:Nat))/\MkIn w' K X M.tick fv vv l/\Stp X w X w':=by
 have hs:=h.env.s;have c0:=h.c0;have c1:=h.c1;obtain⟨sa,sc,j,a1,a0⟩:=hs.form;rw[j] at c0 hs;have f1:=h.free 1;have c:=Ja (show ∀n,MkIn ((w.drewN n).setCell ⟨K.pm,1,none⟩ (A ((M.pos:Int)+1))) K X M.tick fv vv l/\Stp X w X ((w.drewN n).setCell ⟨K.pm,1,none⟩ (A ((M.pos:Int)+1))) from fun n=>⟨((h.keep (yL _ w n)).ticked i).1,(Stp.of_below (yL _ w n)).trans ((h.keep (yL _ w n)).ticked i).2⟩)
 have t:(M.pos:Int)+1<=1000000:=by
  have:M.pos<=M.sz:=by unfold MS.sz;omega
  omega
 clear h
 by_cases m:M.pos<K.E.s.length
 ·obtain⟨x,g⟩:∃x,K.E.s[M.pos]? =some x:=⟨_,Jd m⟩
  obtain⟨b,o,rfl,hb,u,h64⟩:=hs.get g;rw[Nk] at u;have y:(M.pos:Int)<(K.E.s.length:Int):=Zo;have hv:tkV K.E M n=(x%(n:Int)).toNat:=by unfold tkV;rw[Jj,g];rfl
  have e1:=rK x n k d;rw[hv];have r:=Ja e1;clear hs g hb e1 hv;go_enter Try.func59,Try.ntmps59;go_wp2;go_quiet (fail);go_wp2;go_quiet (fail);go_wp2;go_ret;exact⟨zh r.out,(c.out _).1,(c.out _).2⟩
 ·have y:¬(M.pos:Int)<(K.E.s.length:Int):=Zo;have hv:tkV K.E M n=((0:Int)%(n:Int)).toNat:=by unfold tkV;rw[Jj,Of Zo];rfl
  have e1:=rK 0 n k d;rw[hv];have r:=Ja e1;clear hs hv e1;go_enter Try.func59,Try.ntmps59;go_wp2;go_quiet (fail);go_wp2;go_ret;exact⟨zh Zs,(c.out _).1,(c.out _).2⟩
theorem m8(h:wW w K X M){n:Nat}(g:0<n)(c:n<=1000000)(d:M.sz+1<=1000000):
 Y 59 #[Q K.pm,A n] w (yk K X w M.tick (A (tkV K.E M n:Nat))):=by
 obtain⟨fv,vv,l,h⟩:=h;refine(uD h g c d).mono ?_;rintro e w' ⟨rfl,h1,h2⟩;exact⟨rfl,X,h1.at,h2⟩
theorem ot{fv:Value}(h:MkIn w K X M fv vv l)(d:M.sz+1<=1000000):
 Y 90 #[Q K.pm] w fun e w'=>e=.returned (A (M.next:Int))/\w'=w.setCell ⟨K.pm,6,none⟩ (A ((M.next+1:Nat):Int)):=by
 have c6:=h.c6;have f6:=h.free 6
 have g:(M.next:Int)+1<=1000000:=by
  have:M.next<=M.sz:=by unfold MS.sz;omega
  omega
 have hb:=h.blk;have c:G (w.setCell ⟨K.pm,6,none⟩ (A ((M.next:Int)+1))) K.pm 6 (A ((M.next:Int)+1)):=World.cell?_setCell_same _ _ _ c6;clear h hb;go_enter Try.func90,Try.ntmps90;go_wp2;go_ret;refine⟨zh Zo,?_⟩;rfl
theorem yr (q:BM):(xG q).length=5:=rfl
section
variable {w:World} {K:MKC} {X:Nat->Prop} {M:MS} {fv vv:Value} {l:List BM} (h:MkIn w K X M fv vv l)
include h
theorem MkIn.getB{b:IBlk}(hb:M.f[i]? =some b):∃q,l[i]? =some q/\q.b=b/\BMOk w K X q:=by
 rw[h.fl,Jr,Oz] at hb;obtain⟨q,hq,rfl⟩:=hb;exact⟨q,hq,rfl,h.bok q (Ji hq)⟩
theorem MkIn.len:l.length=M.f.length:=by rw[h.fl,Nr]
theorem MkIn.flen:M.f.length<=1000000:=by have:=h.bnd;unfold MS.sz at this;omega
theorem MkIn.fblk{q:BM}(hq:l[i]? =some q):∃g c,fv=N g l.length c/\X g/\g<w.heap.size/\g≠K.pm:=by
 have j:=(Jh.1 hq).1;obtain⟨a,c,e⟩:=zG h.own;rw[e];have ho:=h.own;rw[e] at ho;obtain⟨g,cap,e2,hg,d⟩:=ho.form Zo;cases e2;exact⟨g,_,rfl,h.xf g (by rw[e];rfl),d,fun e3=>zC ho h.blk (.inr Zd) (by rw[<-e3];rfl)⟩
end
theorem MkIn.only{fv:Value}(h:MkIn w K X M fv vv l)(d:w.heap.size<=W.heap.size)(ho:W.os=w.os/\W.tape=w.tape/\W.output=w.output)
 (hk:∀k,k<w.heap.size->k≠K.pm->W.heap[k]? =w.heap[k]?) (i:L W K.pm (uC K M' fv vv) 120) (hf:M'.f=M.f) (hv:M'.vals=M.vals) (g:M'.sz<=1000000) (hl:6<=M'.left+M'.pos/\M'.left<=6):
 MkIn W K X M' fv vv l/\Stp X w X W:=by
 have hs:Stp X w X W:=⟨ho.1,ho.2.1,ho.2.2,d,fun _ h=> .inl h,fun k hk' hx=>hk k hk' (fun e=>hx (by rw[e];exact h.xm))⟩
 have c:∀ {v:Value} {e:TypeId} {sz n:Nat} {xs:List Value},w.ownsRow K.B e sz v n xs->e≠120->∀k,v.ownBlock=some k->W.heap[k]? =w.heap[k]?:=fun ho he k hk'=>
  hk k (ho.lt k hk').2 (fun e=>zC ho h.blk (.inr he) (by rw[hk',e]))
 exact⟨⟨i,yD h.own (c h.own Zd),hf.trans h.fl,fun q hq=>(h.bok q hq).step hs (c (h.bok q hq).own Zd) (fun _ e=>e),h.apart,by rw[hv];exact yD h.vown (c h.vown Zd),by rw[hv];exact h.v64,h.xm,h.xf,h.xv,h.xB,fun k e=>Jy (h.xl k e) d,
  h.env.step hs (hs.below h.xB h.size),g,hl⟩,hs⟩
theorem MkIn.turn{fv:Value}(h:MkIn w K X M fv vv l){q q':BM}(hq:l[c]? =some q)(hg:fv.ownBlock=some g)
 (hs:Stp X w X' W) (m:∀k,X k->X' k) (a3:∀k,X' k->k<W.heap.size) (a4:∀k,X' k->K.B<=k)
 (hk:∀k,k<w.heap.size->X k->k≠g->q.ov.ownBlock≠some k->W.heap[k]? =w.heap[k]?)
 (y:q.ov.ownBlock≠some K.pm) (t:W.ownsRow K.B 49 5 fv l.length ((l.set c q').flatMap xG)) (x:BMOk W K X' q')
 (r:∀(j:Nat) (qj:BM) (k:Nat),l[j]? =some qj->q'.ov.ownBlock=some k->qj.ov.ownBlock=some k->j=c) (hf:M'.f=M.f.set c q'.b) (hM:M'.pos=M.pos/\M'.cur=M.cur/\M'.next=M.next/\M'.vals=M.vals/\M'.left=M.left) (hz:M'.sz<=1000000):
 MkIn W K X' M' fv vv (l.set c q'):=by
 have u:=(Jh.1 hq).1;have a0:K.pm≠g:=fun e=>zC h.own h.blk (.inr Zd) (by rw[hg,e])
 obtain⟨m1,m2,m3,m4,m5⟩:=hM;have o:uC K M' fv vv=uC K M fv vv:=by unfold uC;rw[m1,m2,m3,m5]
 have a1:∀k,vv.ownBlock=some k->k≠g/\q.ov.ownBlock≠some k:=fun k hk=>by
  obtain⟨_,_,hx⟩:=zG h.vown;refine⟨fun e=>?_,fun e=>?_⟩
  ·rcases zo h.vown h.own Zd with h1|h1
   ·rw[h1] at hk;cases hk
   ·exact h1 (by rw[hk,hg,e])
  ·rcases zo h.vown (h.bok q (Ji hq)).own Zd with h1|h1
   ·rw[h1] at hk;cases hk
   ·exact h1 (by rw[hk,e])
 have a2:∀j qj,l[j]? =some qj->j≠c->∀k,qj.ov.ownBlock=some k->k≠g/\q.ov.ownBlock≠some k:=fun j qj d hne k hk=>by
  refine⟨fun e=>?_,fun e=>hne (h.apart j c qj q k d hq hk e)⟩;rcases zo (h.bok qj (Ji d)).own h.own Zd with h1|h1
  ·rw[h1] at hk;cases hk
  ·exact h1 (by rw[hk,hg,e])
 refine⟨?_,by rw[Nd];exact t,by rw[hf,h.fl,Ox],fun p hp=>?_,fun i j qi qj k hi d hqi hqj=>?_,?_,by rw[m4];exact h.v64,m _ h.xm,fun k hk=>m _ (h.xf k hk),fun k hk=>m _ (h.xv k hk),a4,a3,h.env.step hs (hs.below h.xB h.size),hz,by rw[m5,m1];exact h.lft⟩
 ·rw[o,hk K.pm (lt_of_block h.blk) h.xm a0 y];exact h.blk
 ·obtain⟨j,d⟩:=Ny hp;rw[Ov] at d
  by_cases e:c=j
  ·subst e;rw[if_pos rfl,if_pos u] at d;cases d;exact x
  ·rw[if_neg e] at d;refine(h.bok p (Ji d)).step hs (fun k hk'=>?_) m;obtain⟨h1,h2⟩:=a2 j p d (Ne.symm e) k hk';exact hk k (((h.bok p (Ji d)).own.lt k hk').2) ((h.bok p (Ji d)).inX k hk') h1 h2
 ·rw[Ov] at hi d
  by_cases ei:c=i
  ·rw[if_pos ei,if_pos u] at hi;cases hi
   by_cases ej:c=j
   ·omega
   ·rw[if_neg ej] at d;have:=r j qj k d hqi hqj;omega
  ·rw[if_neg ei] at hi
   by_cases ej:c=j
   ·rw[if_pos ej,if_pos u] at d;cases d;have:=r i qi k hi hqj hqi;omega
   ·rw[if_neg ej] at d;exact h.apart i j qi qj k hi d hqi hqj
 ·rw[m4];refine yD h.vown (fun k hk'=>?_);obtain⟨h1,h2⟩:=a1 k hk';exact hk k ((h.vown.lt k hk').2) (h.xv k hk') h1 h2
theorem MkIn.putV{fv:Value}(h:MkIn w K X M fv vv l)(hg:(w.alloc o).grownBy w3 vv.ownBlock){x:Int}
 (c:w3.ownsRow K.B 3 1 vv' (M.vals.length+1) (M.vals.map zN++ [zN x])) (r:∀k,vv'.ownBlock=some k->vv.ownBlock=some k∨w.heap.size<=k) (t:I64 x) (u:M.sz+1<=1000000):
 MkIn (w3.setCell ⟨K.pm,7,none⟩ vv') K (fun k=>X k∨vv'.ownBlock=some k) {M with vals:=M.vals++ [x]} fv vv' l/\Stp X w (fun k=>X k∨vv'.ownBlock=some k) (w3.setCell ⟨K.pm,7,none⟩ vv'):=by
 have n1:=zC h.vown h.blk (.inr Zd);have i:=zL hg (zB h.blk) n1;have m:w.heap.size<=w3.heap.size:=by have:=hg.size;simp at this;omega
 have hk:∀k,k<w.heap.size->k≠K.pm->vv.ownBlock≠some k->(w3.setCell ⟨K.pm,7,none⟩ vv').heap[k]? =w.heap[k]?:=fun k hk hne hv=>
  (Below.heap_setCell w3 ⟨K.pm,7,none⟩ vv' k hne).trans ((hg.block k Zt (fun e=>hv e.symm)).trans (Below.heap_alloc w o k hk))
 have hs:Stp X w (fun k=>X k∨vv'.ownBlock=some k) (w3.setCell ⟨K.pm,7,none⟩ vv'):=
  ⟨hg.os,hg.tape,hg.output,by simpa using m,fun k hx'=>hx'.elim .inl (fun e=>(r k e).elim (fun e2=> .inl (h.xv k e2)) .inr),fun k hk' hxk=>hk k hk' (fun e=>hxk (by rw[e];exact h.xm)) (fun e=>hxk (h.xv k e))⟩
 have g:∀ {v:Value} {e:TypeId} {sz n:Nat} {xs:List Value},w.ownsRow K.B e sz v n xs->e≠3->e≠120->∀k,v.ownBlock=some k->(w3.setCell ⟨K.pm,7,none⟩ vv').heap[k]? =w.heap[k]?:=fun {v e sz n xs} ho h1 h2 k hk'=>by
  refine hk k (ho.lt k hk').2 (fun e3=>zC ho h.blk (.inr h2) (by rw[hk',e3])) (fun e3=>?_);rcases zo ho h.vown h1 with j|j
  ·rw[j] at hk';cases hk'
  ·exact j (by rw[hk',e3])
 refine⟨⟨?_,yD h.own (g h.own Zd Zd),h.fl,fun q hq=>(h.bok q hq).step hs (g (h.bok q hq).own Zd Zd) (fun _ e=> .inl e),h.apart,?_,?_,.inl h.xm,fun k e=> .inl (h.xf k e),fun k e=> .inr e,fun k e=>e.elim (h.xB k) (fun e2=>(c.lt k e2).1),fun k e=>?_,h.env.step hs (hs.below h.xB h.size),?_,h.lft⟩,hs⟩
 ·rw[zD i];rfl
 ·show(w3.setCell ⟨K.pm,7,none⟩ vv').ownsRow K.B 3 1 vv' (M.vals++ [x]).length ((M.vals++ [x]).map zN)
  rw[Jk,Ju,Js];exact ownsRow_setCell_other c (fun e=>zC c i (.inr Zd) (by simpa using e)) _
 ·intro y d;rcases Jl.1 d with d|d
  ·exact h.v64 y d
  ·rw[Jo] at d;subst d;exact t
 ·rcases e with e|e
  ·have:=h.xl k e;simp;omega
  ·have:=(c.lt k e).2;simpa using this
 ·unfold MS.sz at *;simp only[Jk,Ju];omega
theorem MkIn.putO{w6:World}{fv i:Value}(h:MkIn w K X M fv vv l){q:BM}{lb:Nat}(hq:l[c]? =some q)(hg:fv.ownBlock=some g)
 {W3:World} (m:F w W3) (r:W3.grownBy w6 q.ov.ownBlock) {o:IOp} {av:Value} (t:w6.ownsRow K.B 77 6 i (q.ol.length+1) (q.ol.flatMap zU++zU (o,av)))
 (x:∀k,i.ownBlock=some k->q.ov.ownBlock=some k∨w.heap.size<=k) (a5:w.heap.size<=lb) {cs:Array Value} (a1:L w6 lb cs 49)
 (hW:∃u,W=((w6.setCell ⟨lb,1,none⟩ u).drew.setCells g (c*5) (xG ⟨{q.b with ops:=q.b.ops++ [o]},q.pv,i,q.tv,q.ol++ [(o,av)]⟩)))
 (ho:qN o/\wm w (K.av X) av o.args) (hf:M'.f=M.f.set c {q.b with ops:=q.b.ops++ [o]}) (hM:M'.pos=M.pos/\M'.cur=M.cur/\M'.next=M.next/\M'.vals=M.vals/\M'.left=M.left) (hz:M'.sz<=1000000):
 ∃X',MkIn W K X' M' fv vv (l.set c ⟨{q.b with ops:=q.b.ops++ [o]},q.pv,i,q.tv,q.ol++ [(o,av)]⟩)/\Stp X w X' W:=by
 obtain⟨u,rfl⟩:=hW;have d:=h.bok q (Ji hq);have y:=h.xf g hg;have a3:=h.xl g y
 have hk:∀k,k<w.heap.size->k≠g->q.ov.ownBlock≠some k->((w6.setCell ⟨lb,1,none⟩ u).drew.setCells g (c*5) (xG ⟨{q.b with ops:=q.b.ops++ [o]},q.pv,i,q.tv,q.ol++ [(o,av)]⟩)).heap[k]? =w.heap[k]?:=fun k hk hne hv=>
  (ye g k hne _ _ _).trans ((Below.heap_setCell w6 ⟨lb,1,none⟩ u k (by show k≠lb;omega)).trans ((r.block k (by have:=m.size;omega) (fun e=>hv e.symm)).trans (m.block k hk)))
 have hs:Stp X w (fun k=>X k∨i.ownBlock=some k) ((w6.setCell ⟨lb,1,none⟩ u).drew.setCells g (c*5) (xG ⟨{q.b with ops:=q.b.ops++ [o]},q.pv,i,q.tv,q.ol++ [(o,av)]⟩)):=
  ⟨(ze g _ _ _).1.trans (r.os.trans m.os),(ze g _ _ _).2.1.trans (r.tape.trans m.tape),(ze g _ _ _).2.2.trans (r.output.trans m.output),by rw[y8];have:=m.size;have:=r.size;simp;omega,
   fun k hx'=>hx'.elim .inl (fun e=>(x k e).elim (fun e2=> .inl (d.inX k e2)) .inr),fun k hk' hxk=>hk k hk' (fun e=>hxk (by rw[e];exact y)) (fun e=>hxk (d.inX k e))⟩
 have a0:∀k,i.ownBlock=some k->k≠lb/\k≠g:=fun k e=>⟨fun e2=>zC t a1 (.inr Zd) (by rw[e,e2]),fun e2=>by
  rcases x k e with e3|e3
  ·rcases zo d.own h.own Zd with h1|h1
   ·rw[h1] at e3;cases e3
   ·exact h1 (by rw[e3,hg,e2])
  ·omega⟩
 have a2:q.ov.ownBlock≠some g:=fun e=>by
  rcases zo d.own h.own Zd with h1|h1
  ·rw[h1] at e;cases e
  ·exact h1 (by rw[e,hg])
 have a4:(w6.setCell ⟨lb,1,none⟩ u).drew.ownsRow K.B 49 5 fv l.length (l.flatMap xG):=yD h.own (fun k e=>by
  have e2:k=g:=by rw[hg] at e;cases e;rfl
  subst e2
  exact(Below.heap_setCell w6 ⟨lb,1,none⟩ u k (by show k≠lb;omega)).trans ((r.block k (by have:=m.size;omega) (fun e3=>a2 e3.symm)).trans (m.block k a3)))
 refine⟨_,h.turn (M':=M') hq hg hs (fun k e=> .inl e) (fun k e=>?_) (fun k e=>e.elim (h.xB k) (fun e2=>(t.lt k e2).1)) (fun k hk' _ hne hv=>hk k hk' hne hv) (fun e=>zC d.own h.blk (.inr Zd) e) (uZ yr a4 hg hq _) ?_ (fun j qj k hj h1 h2=>?_) hf hM hz,hs⟩
 ·rcases e with e|e
  ·exact Jy (h.xl k e) hs.size
  ·rw[y8];have:=(t.lt k e).2;simpa using this
 ·refine⟨d.k64,d.par.step zn (hs.av K),by rw[Js,<-d.ops];rfl,?_,fun p hp=>?_,d.tos.step yq (hs.av K),fun k e=> .inr e⟩
  ·rw[Jk,Ju,Nx];refine yD (show w6.ownsRow K.B 77 6 i (q.ol.length+1) (q.ol.flatMap zU++ [(o,av)].flatMap zU) from t) (fun k e=>?_);obtain⟨e1,e2⟩:=a0 k e;exact(ye g k e2 _ _ _).trans (Below.heap_setCell w6 ⟨lb,1,none⟩ u k e1)
  ·rcases Jl.1 hp with hp|hp
   ·exact⟨(d.arg p hp).1,(d.arg p hp).2.step zn (hs.av K)⟩
   ·rw[Jo] at hp;subst hp;exact⟨ho.1,ho.2.step zn (hs.av K)⟩
 ·rcases x k h1 with e|e
  ·exact h.apart j c qj q k hj hq h2 e
  ·have:=((h.bok qj (Ji hj)).own.lt k h2).2;omega
theorem MkIn.putB{fv fv':Value}(h:MkIn w K X M fv vv l)(hg:(w.alloc o).grownBy w3 fv.ownBlock){b:IBlk}{pv:Value}(hb:b.ops=[]/\b.term=⟨0,0,[]⟩)
 (c:w3.ownsRow K.B 49 5 fv' (l.length+1) (l.flatMap xG++xG ⟨b,pv,O,O,[]⟩)) (y:∀k,fv'.ownBlock=some k->fv.ownBlock=some k∨w.heap.size<=k) (t:wm w (K.av X) pv b.params) (hz:M.sz+1<=1000000):
 MkIn (w3.setCell ⟨K.pm,4,none⟩ fv') K (fun k=>X k∨fv'.ownBlock=some k) {M with f:=M.f++ [b]} fv' vv (l++ [⟨b,pv,.slice none 0 0,.slice none 0 0,[]⟩])/\Stp X w (fun k=>X k∨fv'.ownBlock=some k) (w3.setCell ⟨K.pm,4,none⟩ fv'):=by
 have n1:=zC h.own h.blk (.inr Zd);have r:=zL hg (zB h.blk) n1;have x:w.heap.size<=w3.heap.size:=by have:=hg.size;simp at this;omega
 have hk:∀k,k<w.heap.size->k≠K.pm->fv.ownBlock≠some k->(w3.setCell ⟨K.pm,4,none⟩ fv').heap[k]? =w.heap[k]?:=fun k hk hne hv=>
  (Below.heap_setCell w3 ⟨K.pm,4,none⟩ fv' k hne).trans ((hg.block k Zt (fun e=>hv e.symm)).trans (Below.heap_alloc w o k hk))
 have hs:Stp X w (fun k=>X k∨fv'.ownBlock=some k) (w3.setCell ⟨K.pm,4,none⟩ fv'):=
  ⟨hg.os,hg.tape,hg.output,by simpa using x,fun k hx'=>hx'.elim .inl (fun e=>(y k e).elim (fun e2=> .inl (h.xf k e2)) .inr),fun k hk' hxk=>hk k hk' (fun e=>hxk (by rw[e];exact h.xm)) (fun e=>hxk (h.xf k e))⟩
 have d:∀ {v:Value} {e:TypeId} {sz n:Nat} {xs:List Value},w.ownsRow K.B e sz v n xs->e≠49->e≠120->∀k,v.ownBlock=some k->(w3.setCell ⟨K.pm,4,none⟩ fv').heap[k]? =w.heap[k]?:=fun {v e sz n xs} ho h1 h2 k hk'=>by
  refine hk k (ho.lt k hk').2 (fun e3=>zC ho h.blk (.inr h2) (by rw[hk',e3])) (fun e3=>?_);rcases zo ho h.own h1 with u|u
  ·rw[u] at hk';cases hk'
  ·exact u (by rw[hk',e3])
 refine⟨⟨?_,?_,?_,fun q hq=>?_,fun i j qi qj k hi hj hqi hqj=>?_,yD h.vown (d h.vown Zd Zd),h.v64,.inl h.xm,fun k e=> .inr e,fun k e=> .inl (h.xv k e),fun k e=>e.elim (h.xB k) (fun e2=>(c.lt k e2).1),fun k e=>?_,h.env.step hs (hs.below h.xB h.size),?_,h.lft⟩,hs⟩
 ·rw[zD r];rfl
 ·rw[Jk,Ju,Nx];exact ownsRow_setCell_other (show w3.ownsRow K.B 49 5 fv' (l.length+1) (l.flatMap xG++ [(⟨b,pv,.slice none 0 0,.slice none 0 0,[]⟩:BM)].flatMap xG) from c) (fun e=>zC c r (.inr Zd) (by simpa using e)) _
 ·rw[Js,<-h.fl];rfl
 ·rcases Jl.1 hq with hq|hq
  ·exact(h.bok q hq).step hs (d (h.bok q hq).own Zd Zd) (fun _ e=> .inl e)
  ·rw[Jo] at hq;subst hq;refine⟨?_,t.step zn (hs.av K),hb.1,Jv _ _ _ _,(fun o ho=>by cases ho),?_,(fun k e=>by simp[Value.ownBlock] at e)⟩
   ·rw[hb.2];exact⟨⟨by decide,by decide⟩,⟨by decide,by decide⟩⟩
   ·rw[hb.2];exact yE.nil
 ·have g:∀(m:Nat) (qm:BM),(l++ [(⟨b,pv,.slice none 0 0,.slice none 0 0,[]⟩:BM)])[m]? =some qm->qm.ov.ownBlock=some k->l[m]? =some qm:=fun m qm hm hqm=>by
   by_cases e:m<l.length
   ·rwa [Np e] at hm
   ·rw[Nc Zo] at hm;have:m-l.length=0:=by have:=(Jh.1 hm).1;simp at this;omega
    rw[this] at hm;cases hm;simp[Value.ownBlock] at hqm
  exact h.apart i j qi qj k (g i qi hi hqi) (g j qj hj hqj) hqi hqj
 ·rcases e with e|e
  ·have:=h.xl k e;simp;omega
  ·have:=(c.lt k e).2;simpa using this
 ·have e:opsN [b]=0:=by unfold opsN;simp[hb.1]
  unfold MS.sz at *;simp only[Jk,Ju,ry,e];omega
theorem nB(o:Nat)(vs:List Value)(hb:F w W2)(c:X g):Stp X w X (W2.setCells g o vs):=
 ⟨(ze g vs o W2).1.trans hb.os,(ze g vs o W2).2.1.trans hb.tape,(ze g vs o W2).2.2.trans hb.output,by rw[y8];exact hb.size,fun _ h=> .inl h,fun k hk hx=>(ye g k (fun e=>hx (by rw[e];exact c)) vs o W2).trans (hb.block k hk)⟩
theorem nt(h:wW w K X M){t:ITerm}(hk:I64 t.kind)(ha:I64 t.a){tv:Value}(hto:vT w (K.av X) tv t.to)(a6:M.cur<M.f.length):
 Y 63 #[Q K.pm,.agg #[A t.kind,A t.a,tv]] w (yk K X w (M.endB t) (.tuple #[])):=by
 obtain⟨fv,vv,l,h⟩:=h;obtain⟨b,hb⟩:∃b,M.f[M.cur]? =some b:=⟨_,Jd a6⟩
 obtain⟨q,hq,rfl,d⟩:=h.getB hb;obtain⟨g,c,rfl,b2,y,b4⟩:=h.fblk hq;obtain⟨ta,tc,rfl,_,_⟩:=hto.form;obtain⟨pa,pc,x,_,_⟩:=d.par.form;obtain⟨oa,oc,m⟩:=zG d.own;obtain⟨ea,ec,a1,_,_⟩:=d.tos.form;have c4:=h.c4;have c5:=h.c5;have r:=z9 yr h.own rfl hq;have e0:G w g (M.cur*5) q.pv:=r 0 _ rfl;have e1:=r 1 _ rfl;have e2:=r 2 _ rfl;have e3:=r 3 _ rfl;have e4:=r 4 _ rfl;have a2:=lt_of_block h.blk;have b0:=h.len;have b5:(M.cur:Int)<(l.length:Int):=Zo;have b6:(0:Int)<=(M.cur:Int):=Zo;have a7:=h.flen;rw[x] at e0;rw[m] at e1;rw[a1] at e4;have H:=Ja (Jb h (Jb hq (Jb d (Jb hto (Jb hb (Jb x (Jb m (Jb a1 (Jb hk ha)))))))));clear h hq d hto hb r x m a1 hk ha b0 a7;go_enter Try.func63,Try.ntmps63;go_upto_region 1 with fail;have a4:∀w',F w w'->G w' K.pm 4 (N g l.length c)/\G w' K.pm 5 (A (M.cur:Int))/\G w' g (M.cur*5) (.slice pa q.b.params.length pc)/\G w' g (M.cur*5+1) (.slice oa q.ol.length oc)/\G w' g (M.cur*5+2) (A q.b.term.kind)/\G w' g (M.cur*5+3) (A q.b.term.a)/\G w' g (M.cur*5+4) (.slice ea q.b.term.to.length ec):=fun w' hb=>⟨zV hb a2 c4,zV hb a2 c5,zV hb y e0,zV hb y e1,zV hb y e2,zV hb y e3,zV hb y e4⟩
 have a0:=Ja a4;clear a4 c4 c5 e0 e1 e2 e3 e4
 go_region_held3 (fun w'=>G w' K.pm 4 (N g l.length c)/\G w' K.pm 5 (A (M.cur:Int))/\G w' g (M.cur*5) (.slice pa q.b.params.length pc)/\G w' g (M.cur*5+1) (.slice oa q.ol.length oc)/\G w' g (M.cur*5+2) (A q.b.term.kind)/\G w' g (M.cur*5+3) (A q.b.term.a)/\G w' g (M.cur*5+4) (.slice ea q.b.term.to.length ec))
  ((refine a0.out _ ?_;repeat' (first|exact Below.refl _ _|refine Below.drew ?_|refine Below.alloc ?_ (by simp<;>omega) _|refine Below.setCell ?_ (by simp<;>omega) _)))
  (fail)
 go_upto_region 3 with fail;have a3:F w (((w.alloc (U #[A t.kind,A t.a,.slice ta t.to.length tc] 47)).alloc (U #[.slice pa q.b.params.length pc,.slice oa q.ol.length oc,A t.kind,A t.a,.slice ta t.to.length tc] 49)).drew):=(((Below.refl _ _).alloc (Je _) _).alloc Zs _).drew;have u:L (((w.alloc (U #[A t.kind,A t.a,.slice ta t.to.length tc] 47)).alloc (U #[.slice pa q.b.params.length pc,.slice oa q.ol.length oc,A t.kind,A t.a,.slice ta t.to.length tc] 49)).drew) (w.heap.size+1) #[.slice pa q.b.params.length pc,.slice oa q.ol.length oc,A t.kind,A t.a,.slice ta t.to.length tc] 49:=zI Zs;generalize b3:((w.alloc (U #[A t.kind,A t.a,.slice ta t.to.length tc] 47)).alloc (U #[.slice pa q.b.params.length pc,.slice oa q.ol.length oc,A t.kind,A t.a,.slice ta t.to.length tc] 49)).drew=W2 at *;obtain⟨c4,c5,_⟩:=a0.out W2 a3;have l0:=zA (i:=0) u rfl;have l1:=zA (i:=1) u rfl;have l2:=zA (i:=2) u rfl;have l3:=zA (i:=3) u rfl;have l4:=zA (i:=4) u rfl;have HB:=Ja a3;clear a3 u b3 a0;refine zt 11 Zk Zk ?_;simp only[Qo,Uc,Qp,Ui]
 repeat (go_big_quiet_step (fail))
 refine wpQuiet_nil ?_;have a5:=H.out.1.keep HB.out.drew;refine wpList_store_mid rfl 49 (.tmp 28) (.tmp 27) rfl g (M.cur*5) #[.slice pa q.b.params.length pc,.slice oa q.ol.length oc,A t.kind,A t.a,.slice ta t.to.length tc] rfl rfl (zq Zd yr a5.own rfl H.out.2.1) Zk (by simp[Value.oneCell']) ?_;go_wp2
 first|go_end0|refine bodyPost_ret (results_none rfl _ _ _) rfl ?_
 obtain⟨h,hq,d,hto,hb,x,m,a1,hk,ha⟩:=H.out;have hs:Stp X w X (W2.drew.setCells g (M.cur*5) (xG ⟨{q.b with term:=t },q.pv,q.ov,.slice ta t.to.length tc,q.ol⟩)):=nB _ _ HB.out.drew b2;have b1: [Value.slice pa q.b.params.length pc,.slice oa q.ol.length oc,A t.kind,A t.a,.slice ta t.to.length tc]=xG ⟨{q.b with term:=t },q.pv,q.ov,.slice ta t.to.length tc,q.ol⟩:=by unfold xG;rw[x,m]
 rw[b1];refine⟨rfl,X,⟨_,_,_,h.turn (M':=M.endB t) hq rfl hs (fun _ e=>e) (fun k e=>Jy (h.xl k e) hs.size) h.xB (fun k hk' hx hne _=>(ye g k hne _ _ _).trans (HB.out.drew.block k hk')) (fun e=>zC d.own h.blk (.inr Zd) e) (uZ yr a5.own rfl hq _) ?_ (fun j qj k hj h1 h2=>h.apart j _ qj q k hj hq h2 h1) ?_ ⟨rfl,rfl,rfl,rfl,rfl⟩ ?_⟩,hs⟩
 ·exact⟨⟨hk,ha⟩,d.par.step zn (hs.av K),d.ops,yD d.own (fun k hk'=>(ye g k (fun e=>by
   rcases zo d.own h.own Zd with h1|h1
   ·rw[h1] at hk';cases hk'
   ·exact h1 (by rw[hk',e];rfl)) _ _ _).trans (HB.out.drew.block k (d.own.lt k hk').2)),fun o ho=>⟨(d.arg o ho).1,(d.arg o ho).2.step zn (hs.av K)⟩,hto.step yq (hs.av K),d.inX⟩
 ·exact xI hb _
 ·have:=(zv M t).sz;have:=h.bnd;omega
theorem nW (c:Int):((zi c).res=true/\uc c=true)∨((zi c).res=false/\c=26/\uc c=true)∨((zi c).res=false/\c≠26/\uc c=false):=by
 unfold uc
 by_cases h:(zi c).res=true
 ·exact .inl ⟨h,by rw[h];rfl⟩
 ·have d:(zi c).res=false:=by simpa using h
  by_cases e:c=26
  ·exact .inr (.inl ⟨d,e,by rw[decide_eq_true e,Bool.or_true]⟩)
  ·exact .inr (.inr ⟨d,e,by rw[d,decide_eq_false e];rfl⟩)
def uN (M:MS)(c:Int):Nat:=if uc c then M.next+1 else M.next
def sB (M:MS)(c:Int):Int:=if uc c then(M.next:Int) else -1
def EmMid (w:World)(K:MKC)(X:Nat->Prop)(M:MS)(fv vv:Value)(l:List BM)(o:IOp)(av:Value)(wx:World):Prop:=
 L wx w.heap.size #[A o.code,A (sB M o.code),A o.a,A o.b,I (o.n:Int),av] 77/\MkIn wx K X {M with next:=uN M o.code } fv vv l/\Stp X w X wx
theorem rD(h:wW w K X M){o:IOp}(ho:qN o){av:Value}(f1:wm w (K.av X) av o.args)(hcur:M.cur<M.f.length)(hz:M.sz+3<=1000000):
 Y 117 #[Q K.pm,.agg #[A o.code,A o.res,A o.a,A o.b,I (o.n:Int),av]] w (yk K X w (M.emit o) (A (sB M o.code))):=by
 obtain⟨fv,vv,l,h⟩:=h;obtain⟨aa,ac,f0,_,_⟩:=f1.form;have b8:=lt_of_block h.blk;have H:=Ja (Jb h (Jb ho (Jb f1 (Jb f0 (Jb hcur hz)))));clear h ho f1 hcur hz;subst f0;go_enter Try.func117,Try.ntmps117;go_upto_region 3 with(go_at_call 54;go_must (refine(aaK o.code _).mono ?_;rintro e w1 ⟨rfl,e9⟩;unfold acg;have bx:L w1 w.heap.size (D o aa ac) 77:=zH e9 (zI rfl) Zs;have y0:=zA (i:=0) bx rfl;have y1:=zA (i:=1) bx rfl;have k1:T w1 w.heap.size 1:=zE bx;have l6:=lt_of_block bx))
 have d3:F w w1:=(((Below.refl w.heap.size w).alloc (Je _) _).trans (e9.mono Zs))
 have a2:F w ((w1.setCell ⟨w.heap.size,1,none⟩ (A (-1))).alloc (U #[.bool (zi o.code).is,.bool (zi o.code).res,.bool (zi o.code).a,.bool (zi o.code).b,.bool (zi o.code).n] 111)):=(d3.setCell (Je _) _).alloc (by have:=d3.size;simp;omega) _;have d2:L ((w1.setCell ⟨w.heap.size,1,none⟩ (A (-1))).alloc (U #[.bool (zi o.code).is,.bool (zi o.code).res,.bool (zi o.code).a,.bool (zi o.code).b,.bool (zi o.code).n] 111)) w.heap.size #[A o.code,A (-1),A o.a,A o.b,I (o.n:Int),.slice aa o.args.length ac] 77:=zB (zD bx _);have e8:L ((w1.setCell ⟨w.heap.size,1,none⟩ (A (-1))).alloc (U #[.bool (zi o.code).is,.bool (zi o.code).res,.bool (zi o.code).a,.bool (zi o.code).b,.bool (zi o.code).n] 111)) w1.heap.size #[.bool (zi o.code).is,.bool (zi o.code).res,.bool (zi o.code).a,.bool (zi o.code).b,.bool (zi o.code).n] 111:=zI Zs;generalize j4:(w1.setCell ⟨w.heap.size,1,none⟩ (A (-1))).alloc (U #[.bool (zi o.code).is,.bool (zi o.code).res,.bool (zi o.code).a,.bool (zi o.code).b,.bool (zi o.code).n] 111)=W2 at *;generalize l9:w1.heap.size=c2 at *;have z0:=zA (i:=0) d2 rfl;have z1:=zA (i:=1) e8 rfl;have H2:=Ja (Jb a2 (Jb d2 e8));clear e9 bx y0 y1 k1 d3 a2 d2 e8 j4
 go_cut [17] (fun v wx=>v=.bool (uc o.code)/\wx=W2)
 case first=>
  rcases nW o.code with⟨e1,e2⟩|⟨e1,e3,e2⟩|⟨e1,e3,e2⟩
  all_goals rw[e1] at z1
  all_goals have E2:=Ja e2
  ·clear e1 e2;go_wp2;go_meet;exact⟨by rw[E2.out],rfl⟩
  ·have i2:(o.code==26)=true:=by rw[e3];rfl
   clear e1 e2 e3;go_wp2;go_meet;exact⟨by rw[E2.out],rfl⟩
  ·have i2:(o.code==26)=false:=by rw[beq_eq_false_iff_ne];exact e3
   clear e1 e2 e3;go_wp2;go_meet;exact⟨by rw[E2.out],rfl⟩
 case rest=>
  obtain⟨rfl,k7⟩:=hcut;subst wc;have a3:=H.out.1.keep H2.out.1;have g3:=ot a3 (by have:=H.out.2.2.2.2.2;omega)
  have c3:uc o.code=false->EmMid w K X M fv vv l o (.slice aa o.args.length ac) W2:=fun e=>by
   have e1:sB M o.code=-1:=by unfold sB;rw[e];rfl
   have e2:uN M o.code=M.next:=by unfold uN;rw[e];rfl
   exact⟨by rw[e1];exact H2.out.2.1,by rw[e2];exact a3,Stp.of_below H2.out.1⟩
  have c0:uc o.code=true->EmMid w K X M fv vv l o (.slice aa o.args.length ac) ((W2.setCell ⟨K.pm,6,none⟩ (A ((M.next+1:Nat):Int))).setCell ⟨w.heap.size,1,none⟩ (A (M.next:Int))):=fun e=>by
   have e1:sB M o.code=(M.next:Int):=by unfold sB;rw[e];rfl
   have e2:uN M o.code=M.next+1:=by unfold uN;rw[e];rfl
   have l5:=lt_of_block H.out.1.blk;have i5:=(a3.blk)
   have g0:=H.out.1.only (W:=((W2.setCell ⟨K.pm,6,none⟩ (A ((M.next+1:Nat):Int))).setCell ⟨w.heap.size,1,none⟩ (A (M.next:Int)))) (M':= {M with next:=M.next+1 }) (by simpa using H2.out.1.size) ⟨H2.out.1.os,H2.out.1.tape,H2.out.1.output⟩ (fun k hk hne=>(Below.heap_setCell _ ⟨w.heap.size,1,none⟩ _ k (by show k≠w.heap.size;omega)).trans ((Below.heap_setCell _ ⟨K.pm,6,none⟩ _ k hne).trans (H2.out.1.block k hk)))
    (zR (zD i5 _) (by show K.pm≠w.heap.size;omega)) rfl rfl (by have:=H.out.2.2.2.2.2;unfold MS.sz at *;simp only at *;omega) H.out.1.lft
   refine⟨?_,by rw[e2];exact g0.1,g0.2⟩;rw[e1];exact zD (zR H2.out.2.1 (by show w.heap.size≠K.pm;omega)) _
  have h9:∀(u:Value),T (W2.setCell ⟨K.pm,6,none⟩ u) w.heap.size 1:=fun u=>(World.frozen?_setCell ..).trans (zE H2.out.2.1)
  have i0:∀(u:Value),G (W2.setCell ⟨K.pm,6,none⟩ u) w.heap.size 1 (A (-1)):=fun u=>zA (i:=1) (zR (a:=⟨K.pm,6,none⟩) (u:=u) H2.out.2.1 (by show w.heap.size≠K.pm;omega)) rfl
  have y:=Ja (Jb g3 (Jb c3 c0));clear g3 c3 c0 a3
  go_upto_if 17 with fail
  go_cut [] (fun wx=>Hid (EmMid w K X M fv vv l o (.slice aa o.args.length ac) wx))
  case first=>
   obtain⟨r,hr⟩:∃r,uc o.code=r:=⟨_,rfl⟩
   have HR:=Ja hr;rw[hr];clear hr;cases r
   ·go_wp2;go_meet;exact Ja (y.out.2.1 HR.out)
   ·go_wp2_with (go_at_call 90;go_must (refine y.out.1.mono ?_;rintro e w3 ⟨rfl,rfl⟩))
    go_meet;exact Ja (y.out.2.2 HR.out)
  case rest=>
   obtain⟨b1,h,hs⟩:=hcut.out;have hcur:=H.out.2.2.2.2.1;obtain⟨b,hb⟩:∃b,M.f[M.cur]? =some b:=⟨_,Jd hcur⟩
   obtain⟨q,hq,rfl,a6⟩:=h.getB (i:=M.cur) hb;obtain⟨g,c,rfl,m1,b0,l7⟩:=h.fblk hq;obtain⟨pa,pc,b7,_,_⟩:=a6.par.form;obtain⟨oa,oc,b3⟩:=zG a6.own;obtain⟨ea,ec,b6,_,_⟩:=a6.tos.form;have c4:=h.c4;have c5:G wc K.pm 5 (A (M.cur:Int)):=h.c5;have a5:=z9 yr h.own rfl hq;have e0:G wc g (M.cur*5) q.pv:=a5 0 _ rfl;have e1:=a5 1 _ rfl;have e2:=a5 2 _ rfl;have e3:=a5 3 _ rfl;have e4:=a5 4 _ rfl;have b8:=lt_of_block h.blk;have i6:l.length=M.f.length:=h.len;have l8:(M.cur:Int)<(l.length:Int):=Zo;have m0:(0:Int)<=(M.cur:Int):=Zo;have j2:=lt_of_block b1;rw[b7] at e0;rw[b3] at e1;rw[b6] at e4;have f2:∀w',F wc w'->G w' K.pm 4 (N g l.length c)/\G w' K.pm 5 (A (M.cur:Int))/\G w' g (M.cur*5) (.slice pa q.b.params.length pc)/\G w' g (M.cur*5+1) (.slice oa q.ol.length oc)/\G w' g (M.cur*5+2) (A q.b.term.kind)/\G w' g (M.cur*5+3) (A q.b.term.a)/\G w' g (M.cur*5+4) (.slice ea q.b.term.to.length ec):=fun w' hb=>⟨zV hb b8 c4,zV hb b8 c5,zV hb b0 e0,zV hb b0 e1,zV hb b0 e2,zV hb b0 e3,zV hb b0 e4⟩
   have f5:=Ja f2;have HC:=Ja (Jb h (Jb hq (Jb a6 (Jb hb (Jb b7 (Jb b3 (Jb b6 (Jb b1 hs))))))));obtain⟨R,hR⟩:∃R,sB M o.code=R:=⟨_,rfl⟩
   rw[hR] at b1;have HR:=Ja hR;clear f2 c4 c5 e0 e1 e2 e3 e4 h hs hq a6 hb a5 b7 b3 b6 i6 hcut y h9 i0 z0 z1 hR;go_upto_region 5 with fail
   go_region_held3 (fun w'=>G w' K.pm 4 (N g l.length c)/\G w' K.pm 5 (A (M.cur:Int))/\G w' g (M.cur*5) (.slice pa q.b.params.length pc)/\G w' g (M.cur*5+1) (.slice oa q.ol.length oc)/\G w' g (M.cur*5+2) (A q.b.term.kind)/\G w' g (M.cur*5+3) (A q.b.term.a)/\G w' g (M.cur*5+4) (.slice ea q.b.term.to.length ec))
    ((refine f5.out _ ?_;repeat' (first|exact Below.refl _ _|refine Below.drew ?_|refine Below.alloc ?_ (by simp<;>omega) _|refine Below.setCell ?_ (by simp<;>omega) _)))
    (fail)
   go_upto_region 6 with fail;have a2:F wc ((wc.alloc (U #[.slice pa q.b.params.length pc,.slice oa q.ol.length oc,A q.b.term.kind,A q.b.term.a,.slice ea q.b.term.to.length ec] 49)).drew):=((Below.refl _ _).alloc (Je _) _).drew;have c8:L ((wc.alloc (U #[.slice pa q.b.params.length pc,.slice oa q.ol.length oc,A q.b.term.kind,A q.b.term.a,.slice ea q.b.term.to.length ec] 49)).drew) wc.heap.size #[.slice pa q.b.params.length pc,.slice oa q.ol.length oc,A q.b.term.kind,A q.b.term.a,.slice ea q.b.term.to.length ec] 49:=zI rfl;generalize j5:(wc.alloc (U #[.slice pa q.b.params.length pc,.slice oa q.ol.length oc,A q.b.term.kind,A q.b.term.a,.slice ea q.b.term.to.length ec] 49)).drew=V2 at *;have a3:=HC.out.1.keep a2;have e6:=HC.out.2.2.1.step (Stp.of_below a2) (fun k hk=>a2.block k (HC.out.2.2.1.own.lt k hk).2) (fun _ e=>e);have a0:=zH a2 b1 j2;have l1:=zA (i:=1) c8 rfl;have x0:=zA (i:=0) a0 rfl;have x1:=zA (i:=1) a0 rfl;have x2:=zA (i:=2) a0 rfl;have x3:=zA (i:=3) a0 rfl;have x4:=zA (i:=4) a0 rfl;have x5:=zA (i:=5) a0 rfl;have i7:=lt_of_block c8;have b2:=e6.own;rw[HC.out.2.2.2.2.2.1] at b2;have d8:yM (V2.alloc (U #[A o.code,A R,A o.a,A o.b,I (o.n:Int),.slice aa o.args.length ac] 77)) 6 (N V2.heap.size 1 1) 1 (zU ({o with res:=R },.slice aa o.args.length ac)):=yM.cells (zI rfl) rfl (by simp[zU,Value.oneCell'])
   have hn:q.ol.length<=1000000:=by
    have h1:=opsN_le HC.out.2.2.2.1;rw[HC.out.2.2.1.ops,Nr] at h1;have h2:=HC.out.1.bnd;unfold MS.sz at h2;simp only at h2;omega
   have HV:=Ja (Jb a2 (Jb c8 (Jb a3 (Jb e6 (Jb a0 (Jb b2 (Jb d8 hn)))))));have k0:K.B<=V2.heap.size:=a3.size;obtain⟨ii,j1,h6,h5,h4⟩:=info_parts Try.info_irop;clear a2 c8 a3 e6 a0 b2 d8 j5 b1 f5 hn;go_upto_region 7 with(at_builtin;go_must (refine zK _ rfl (.tmp 33) (.tmp 35) 44 rfl K.B 77 ii (.agg #[A 0,A 0,A 0,A 0,I 0,O]) 6 64 Try.underlying44 j1 h6 h5 h4 rfl Zd (.slice oa q.ol.length oc) q.ol.length (q.ol.flatMap zU) rfl (HV.out.2.2.2.2.2.1.alloc _) _ 1 (zU ({o with res:=R },.slice aa o.args.length ac)) rfl HV.out.2.2.2.2.2.2.1 (by have:=HV.out.2.2.2.2.2.2.2;unfold maxLen;omega) (by have:=HV.out.2.2.2.2.2.2.2;omega) Zt ?_;intro v9 w9 j d a4;obtain⟨oa9,oc9,rfl⟩:=zG j;have hz:=zL d (zB HV.out.2.1) (by have:=zC HV.out.2.2.2.2.2.1 HV.out.2.1 (.inr Zd);exact this);have d1:=zA (i:=1) hz rfl;have i4:T w9 wc.heap.size 1:=zE hz))
   have f9:q.ov.ownBlock≠some g:=fun e=>by
    rcases zo HC.out.2.2.1.own HC.out.1.own Zd with h1|h1
    ·rw[h1] at e;cases e
    ·exact h1 (by rw[e];rfl)
   have d9:(Value.slice oa q.ol.length oc).ownBlock=q.ov.ownBlock:=by rw[HC.out.2.2.2.2.2.1]
   rw[d9] at d a4
   have c9:(w9.setCell ⟨wc.heap.size,1,none⟩ (.slice oa9 (q.ol.length+1) oc9)).ownsRow K.B 49 5 (N g l.length c) l.length (l.flatMap xG):=yD HC.out.1.own (fun k e=>by
    have e2:k=g:=by simp[Value.ownBlock] at e;exact e.symm
    subst e2
    exact(Below.heap_setCell w9 ⟨wc.heap.size,1,none⟩ _ k (by show k≠wc.heap.size;omega)).trans ((d.block k (by have:=HV.out.1.size;simp;omega) (fun e3=>f9 e3.symm)).trans ((Below.heap_alloc V2 _ k (by have:=HV.out.1.size;omega)).trans (HV.out.1.block k b0))))
   have e7:q.ov.ownBlock≠some K.pm:=fun e=>zC HC.out.2.2.1.own HC.out.1.blk (.inr Zd) e
   have b9:=zR (a:=⟨wc.heap.size,1,none⟩) (u:=.slice oa9 (q.ol.length+1) oc9) (zL d (zB HV.out.2.2.1.blk) e7) (by show K.pm≠wc.heap.size;omega);have a7:=zD hz (i:=1) (.slice oa9 (q.ol.length+1) oc9);have c4:G (w9.setCell ⟨wc.heap.size,1,none⟩ (.slice oa9 (q.ol.length+1) oc9)) K.pm 4 (N g l.length c):=zA (i:=4) b9 rfl;have c5:G (w9.setCell ⟨wc.heap.size,1,none⟩ (.slice oa9 (q.ol.length+1) oc9)) K.pm 5 (A (M.cur:Int)):=zA (i:=5) b9 rfl;have l0:=zA (i:=0) a7 rfl;have l1:=zA (i:=1) a7 rfl;have l2:=zA (i:=2) a7 rfl;have l3:=zA (i:=3) a7 rfl;have l4:=zA (i:=4) a7 rfl;have HG:=Ja (Jb j (Jb d (Jb a4 (Jb hz c9))));have d5:=zq Zd yr c9 rfl HC.out.2.1;generalize f3:w9.setCell ⟨wc.heap.size,1,none⟩ (.slice oa9 (q.ol.length+1) oc9)=W10 at c4 c5 l0 l1 l2 l3 l4 d5 ⊢;have f4:=Ja f3;have g4:=Ja d5;clear j d a4 hz d1 i4 b9 a7 f9 d9 c9 e7 d5 f3 x0 x1 x2 x3 x4 x5 k0;refine zt 11 Zk Zk ?_;simp only[Qo,Uc,Qp,Ui]
   repeat (go_big_quiet_step (fail))
   refine wpQuiet_nil ?_;refine wpList_store_mid rfl 49 (.tmp 48) (.tmp 47) rfl g (M.cur*5) #[.slice pa q.b.params.length pc,.slice oa9 (q.ol.length+1) oc9,A q.b.term.kind,A q.b.term.a,.slice ea q.b.term.to.length ec] rfl rfl g4.out Zk (by simp[Value.oneCell']) ?_;go_upto_region 8 with fail
   have h7:∃X',MkIn (W10.drew.setCells g (M.cur*5) [.slice pa q.b.params.length pc,.slice oa9 (q.ol.length+1) oc9,A q.b.term.kind,A q.b.term.a,.slice ea q.b.term.to.length ec]) K X' {M with next:=uN M o.code,f:=M.f.set M.cur {q.b with ops:=q.b.ops++ [{o with res:=R }]}} (N g l.length c) vv (l.set M.cur ⟨{q.b with ops:=q.b.ops++ [{o with res:=R }]},q.pv,.slice oa9 (q.ol.length+1) oc9,q.tv,q.ol++ [({o with res:=R },.slice aa o.args.length ac)]⟩)
    /\Stp X wc X' (W10.drew.setCells g (M.cur*5) [.slice pa q.b.params.length pc,.slice oa9 (q.ol.length+1) oc9,A q.b.term.kind,A q.b.term.a,.slice ea q.b.term.to.length ec]):=by
    obtain⟨h,hq,a6,hb,b7,b3,b6,b1,hs⟩:=HC.out;obtain⟨j,d,a4,hz,c9⟩:=HG.out;refine h.putO (M':= {M with next:=uN M o.code,f:=M.f.set M.cur {q.b with ops:=q.b.ops++ [{o with res:=R }]}}) hq rfl (HV.out.1.alloc HV.out.1.size _) d j (fun k e=>?_) (Je _) hz ⟨.slice oa9 (q.ol.length+1) oc9,?_⟩ ⟨?_,H.out.2.2.1.step zn (hs.av K)⟩ rfl ⟨rfl,rfl,rfl,rfl,rfl⟩ ?_
    ·rcases a4 with e2|e2
     ·exact .inl (by rw[<-e2];exact e)
     ·right;have e3:=e2.symm.trans e;have:=HV.out.1.size;simp at e3;omega
    ·rw[<-f4.out];unfold xG;rw[b7,b6]
    ·obtain⟨o1,o2,o3,o4,o5⟩:=H.out.2.1;refine⟨o1,?_,o3,o4,o5⟩;rw[<-HR.out];unfold sB;have:M.next<=M.sz:=by unfold MS.sz;omega
     have:=H.out.2.2.2.2.2
     show I64 (if uc o.code then(M.next:Int) else -1)
     split<;>exact⟨by omega,by omega⟩
    ·have h1:=sN M.f M.cur q.b {q.b with ops:=q.b.ops++ [{o with res:=R }]} hb;simp at h1;have h2:=H.out.2.2.2.2.2;unfold MS.sz at h2 ⊢;unfold uN;simp only[Nd]
     split<;>omega
   obtain⟨X',hm,d7⟩:=h7;have d6:=HC.out.2.2.2.2.2.2.2.2.trans d7;have b4:=d7.blk HC.out.2.2.2.2.2.2.2.1 (fun e=>by have:=H.out.1.xl _ e;omega);generalize j3:W10.drew.setCells g (M.cur*5) [.slice pa q.b.params.length pc,.slice oa9 (q.ol.length+1) oc9,A q.b.term.kind,A q.b.term.a,.slice ea q.b.term.to.length ec]=WF at *;generalize l.set M.cur ⟨{q.b with ops:=q.b.ops++ [{o with res:=R }]},q.pv,.slice oa9 (q.ol.length+1) oc9,q.tv,q.ol++ [({o with res:=R },.slice aa o.args.length ac)]⟩=lst at *;rw[HR.out] at b4;have x1:=zA (i:=1) b4 rfl;have y:=Ja (Jb hm (Jb d6 b4))
   have g1: {M with next:=uN M o.code,f:=M.f.set M.cur {q.b with ops:=q.b.ops++ [{o with res:=R }]}}= {M.emit o with vals:=M.vals }:=by
    unfold MS.emit;rw[xI HC.out.2.2.2.1,<-HR.out];rfl
   have g5:=Ja g1;clear hm d7 d6 b4 j3 g1 c4 c5 l0 l1 l2 l3 l4 HG g4 f4 HV i7;obtain⟨r,hr⟩:∃r,uc o.code=r:=⟨_,rfl⟩
   have d0:=Ja hr;clear hr;cases r
   ·obtain rfl:R=-1:=by rw[<-HR.out];unfold sB;rw[d0.out];rfl
    go_wp2;go_ret;have a1:=y.out.1;rw[g5.out] at a1;have e: {M.emit o with vals:=M.vals }=M.emit o:=by unfold MS.emit;rw[d0.out];rfl
    rw[e] at a1;exact⟨zh HR.out.symm,X',⟨_,_,_,a1⟩,y.out.2.1⟩
   ·obtain rfl:R=(M.next:Int):=by rw[<-HR.out];unfold sB;rw[d0.out];rfl
    obtain⟨va,vc,d4⟩:=zG y.out.1.vown;have j:=y.out.1.vown;have c7:=y.out.1.c7;have f7:=y.out.1.free 7;have f8:=lt_of_block y.out.1.blk;have nb:=zC j y.out.1.blk (.inr Zd);rw[d4] at j c7 nb;have h8:=Ja j;have k4:=Ja d4
    have k9:M.vals.length<=1000000:=by
     have h2:=H.out.2.2.2.2.2;unfold MS.sz at h2;omega
    have k3:∀o,G (WF.alloc o) K.pm 7 (.slice va M.vals.length vc):=fun o=>(Oo (w:=WF) (Below.heap_alloc _ _ _ f8)).trans c7
    have k2:∀o,T (WF.alloc o) K.pm 7:=fun o=>(Qm (w:=WF) (Below.heap_alloc _ _ _ f8)).trans f7
    have i1:∀o,G (WF.alloc o) w.heap.size 1 (A (M.next:Int)):=fun o=>(Oo (w:=WF) (Below.heap_alloc _ _ _ (lt_of_block y.out.2.2))).trans x1
    have i3:=zC j y.out.2.2 (.inr Zd);have m2:K.B<=WF.heap.size:=y.out.1.size;have k6:=lt_of_block y.out.2.2;obtain⟨ij,j0,h0,g9,g6⟩:=info_parts Try.info_int;clear j d4;go_upto_region 9 with fail
    go_region_law (first|(refine step_append_lies _ (by rfl) (.tmp 56) (.tmp 59) _ (by rfl) K.B 3 ij (A 0) 1 8 Try.underlying22 j0 h0 g9 g6 rfl Zo (.slice va M.vals.length vc) M.vals.length (M.vals.map zN) (by rfl) ((h8.out.alloc _).drew) ⟨WF.heap.size,0,none⟩ 1 1 [A (M.next:Int)] (by rfl) (by rfl) (Oi (cs:=#[A (M.next:Int)]) (t:=3) (fr:=(0,0)) (heap_alloc_new WF _)) (by simp[Value.oneCell']) Zo (by unfold maxLen;omega) Zo Zt (WF.heap.size+1) Zs ?_;intro gg b5 w3 f6 d a4 k5;have m4:=(d.cell_far ⟨K.pm,7,none⟩ Zt (Ne.symm nb)).trans (k3 _);have m3:=(d.frozen_far ⟨K.pm,7,none⟩ Zt (Ne.symm nb)).trans (k2 _);have bp3:=(d.cell_far ⟨w.heap.size,1,none⟩ Zt (Ne.symm i3)).trans (i1 _)))
    all_goals go_wp2_with fail
    all_goals go_ret
    all_goals (
     have d1:(show MS from {M with next:=uN M o.code,f:=M.f.set M.cur {q.b with ops:=q.b.ops++ [{o with res:=(M.next:Int)}]}}).sz+1<=1000000:=by
      have h1:=sN M.f M.cur q.b {q.b with ops:=q.b.ops++ [{o with res:=(M.next:Int)}]} HC.out.2.2.2.1;simp at h1;have h2:=H.out.2.2.2.2.2;unfold MS.sz at h2 ⊢;unfold uN;simp only[Nd]
      split<;>omega
     have g2:=xN d;rw[<-k4.out] at g2 a4
     have hP:=y.out.1.putV (vv':=N gg (M.vals.length+1) b5) (x:=(M.next:Int)) g2 f6 (fun k e=>by
      have e2:gg=k:=by simpa[Value.ownBlock] using e
      subst e2;rcases a4 with e3|e3
      ·exact .inl e3
      ·right;omega) (by have:=H.out.2.2.2.2.2;have:M.next<=M.sz:=by(unfold MS.sz;omega)
                        exact⟨by omega,by omega⟩) d1
     have a1:=hP.1
     have e:(show MS from {(show MS from {M with next:=uN M o.code,f:=M.f.set M.cur {q.b with ops:=q.b.ops++ [{o with res:=(M.next:Int)}]}}) with vals:=M.vals++ [(M.next:Int)]})=M.emit o:=by
      have:=g5.out;have h3:(M.emit o).vals=M.vals++ [(M.next:Int)]:=by unfold MS.emit;rw[d0.out];rfl
      rw[<-h3];exact congrArg (fun m:MS=> {m with vals:=(M.emit o).vals }) this
     have e5:=congrArg (fun m=>MkIn (w3.setCell ⟨K.pm,7,none⟩ (N gg (M.vals.length+1) b5)) K (fun k=>X' k∨(Value.slice (some ⟨gg,0,none⟩) (M.vals.length+1) b5).ownBlock=some k) m (N g l.length c) (N gg (M.vals.length+1) b5) lst) e
     exact⟨zh HR.out.symm,_,⟨_,_,_,cast e5 a1⟩,y.out.2.1.trans hP.2⟩)
theorem emRes_of{c:Int}(h:uc c=true):sB M c=(M.next:Int):=by unfold sB;rw[h];rfl
theorem vG (x:Int)(h1:-1000000<=x)(h2:x<=1000000):I64 x:=⟨by omega,by omega⟩
theorem yF (x:Int)(h:(decide (-1000000<=x) && decide (x<=1000000))=true):I64 x:=by
 simp only[Jm,decide_eq_true_eq] at h;exact vG x h.1 h.2
theorem conOp_ok {n:Nat}(c:n<65536):qN (conOp n):=⟨yF _ rfl,yF _ rfl,yF _ rfl,yF _ rfl,c⟩
theorem ks(h:wW w K X M){n:Nat}(j:n<65536)(d:M.cur<M.f.length)(g:M.sz+3<=1000000):
 Y 94 #[Q K.pm,I n] w (yk K X w (M.num n) (A (M.next:Int))):=by
 have c:=rD h (conOp_ok j) yE.nil d g;rw[emRes_of (show uc (conOp n).code=true from rfl)] at c;have i:=Ja (show Y 117 #[Q K.pm,.agg #[A 1,A 0,A 0,A 0,I n,O]] w (yk K X w (M.num n) (A (M.next:Int))) from c);clear h c d g;go_enter Try.func94,Try.ntmps94;go_wp2_with (go_at_call 117;go_must (refine i.out.mono ?_;rintro e w1 ⟨rfl,hm⟩))
 go_ret;exact⟨rfl,hm⟩
theorem MkIn.valAt{fv:Value}{n:Nat}(h:MkIn w K X M fv (N g n c) l)(hi:i<M.vals.length):G w g i (A (M.vals.getD i 0)):=by
 have:=h.vown.cells rfl i (A (M.vals.getD i 0)) (by rw[Jr,Jd hi,Jj,Jd hi];rfl);rw[Addr.add_mid,Ng] at this;exact this
theorem pu(h:wW w K X M)(a6:M.cur<M.f.length)(hz:M.sz+4<=1000000):
 Y 62 #[Q K.pm] w (yk K X w (zJ K.E M).2 (A (zJ K.E M).1)):=by
 obtain⟨fv,vv,l,h⟩:=h;have c7:=h.c7;have u:=h.vown;obtain⟨va,vc,rfl⟩:=zG u;have b8:M.vals.length<=1000000:=by unfold MS.sz at hz;omega
 have H:=Ja (Jb h (Jb a6 hz));clear h a6 hz
 by_cases h0:M.vals.length=0
 ·have d:zJ K.E M=((M.next:Int),M.tick.num (tkV K.E M 9)):=by unfold zJ;rw[if_pos h0]
  have c3:=Ja d;have t0:((M.vals.length:Int)==0)=true:=by rw[beq_iff_eq];omega
  have b6:(M.vals.length==0)=true:=by rw[beq_iff_eq];omega
  have b1:=uD H.out.1 (n:=9) Zd Zd (by have:=H.out.2.2;omega);have a4:=aaE K.E M (n:=9) Zd;have HT:=Ja b1;clear d u h0 b1;go_enter Try.func62,Try.ntmps62;go_wp2_with (first|(go_at_call 59;go_must (refine HT.out.mono ?_;rintro e w1 ⟨rfl,y,r⟩))|(go_at_call 94;go_must (refine(ks y.at (n:=tkV K.E M 9) Zo H.out.2.1 (by have:=(zT M).sz;have:=H.out.2.2;omega)).mono ?_;rintro e w2 ⟨rfl,X2,c,j⟩)))
  go_ret;rw[c3.out];exact⟨rfl,X2,c,r.trans j⟩
 ·have hp:0<M.vals.length:=Zo;obtain⟨g,cap,e,c9,c8⟩:=u.form hp;cases e;have t0:((M.vals.length:Int)==0)=false:=Ze;have b6:(M.vals.length==0)=false:=by rw[beq_eq_false_iff_ne];omega
  have c2:=Ja (uD H.out.1 (n:=M.vals.length) hp b8 (by have:=H.out.2.2;omega));have a4:=aaE K.E M hp;clear h0 u;go_enter Try.func62,Try.ntmps62;go_upto_region 4 with(go_at_call 59;go_must (refine c2.out.mono ?_;rintro e w1 ⟨rfl,y,r⟩))
  have b0:=Ja (uD y (n:=3) Zd Zd (by have:=(zT M).sz;have:=H.out.2.2;omega));obtain⟨z3,k⟩:∃z,tkV K.E M.tick 3=z:=⟨_,rfl⟩
  rw[k] at b0;obtain⟨z0,o⟩:∃z,tkV K.E M M.vals.length=z:=⟨_,rfl⟩
  rw[o] at a4
  try rw[o]
  by_cases h3:0<z3
  ·have b9:(0:Int)<(z3:Int):=Zo;have d:zJ K.E M=(M.vals.getD (M.vals.length-1-tkV K.E M.tick.tick (min 4 M.vals.length)) 0,M.tick.tick.tick):=by unfold zJ;rw[if_neg Zo,if_pos (by rw[k];exact h3)]
   have hZ:=Ja (Jb d (Jb k o));clear d k o;go_upto_region 5 with(go_at_call 59;go_must (refine b0.out.mono ?_;rintro e w2 ⟨rfl,c,j⟩))
   have x:0<min 4 M.vals.length:=Zo;have b5:∀(ts:Array TypeId) (t:TypeId) (W:World),(Builtin.min_ ts t #[A 4,A (M.vals.length:Int)]).run Try.prog W=.ok (A ((min 4 M.vals.length:Nat):Int)) W:=fun ts t W=>by rw[show((min 4 M.vals.length:Nat):Int)=if(M.vals.length:Int)<(4:Int) then(M.vals.length:Int) else 4 by split<;>omega];exact run_min_int2 ..
   have a7:=Ja (uD (c.keep (Below.refl _ _).drew) (n:=min 4 M.vals.length) x Zo (by have:=(zT M).sz;have:=(zT M.tick).sz;have:=H.out.2.2;omega));have a3:=aaE K.E M.tick.tick x;obtain⟨z4,a0⟩:∃z,tkV K.E M.tick.tick (min 4 M.vals.length)=z:=⟨_,rfl⟩
   rw[a0] at a7 a3;obtain⟨mn,a1⟩:∃m,min 4 M.vals.length=m:=⟨_,rfl⟩
   rw[a1] at a7 b5 a3;have c5:mn<=M.vals.length:=Zo;have c0:=Ja (Jb a0 a1);have d7:=c.c7;have c4:=Ja (Jb c (r.trans j));clear a0 a1 y r c j c7 x
   go_region_held3 (fun w'=>G w' K.pm 7 (N g M.vals.length vc)) (first|exact d7|assumption|(exact MkIn.c7 Zz))
    ((go_at_call 59;refine a7.out.mono ?_;rintro e w3 ⟨rfl,a2,b3⟩))
   have hv:=a2.valAt (i:=M.vals.length-1-z4) (show M.vals.length-1-z4<M.vals.length by omega);obtain⟨ix,a5⟩:∃ix:Nat,M.vals.length-1-z4=ix:=⟨_,rfl⟩
   have b4:IntKind.i64.wrap (IntKind.i64.wrap ((M.vals.length:Int)-1)-(z4:Int))=(ix:Int):=by
    rw[Om ((M.vals.length:Int)-1) Zo,Om _ Zo];omega
   rw[b4];rw[a5] at hv;have b7:(ix:Int)<(M.vals.length:Int):=Zo;have b2:=c4.out.2.trans ((Stp.of_below (Below.refl _ _).drew).trans b3);have HR:=Ja (Jb a2 (Jb b2 a5));clear a2 b2 b3 a5 b4 d7;go_wp2;go_ret;rw[hZ.out.1];exact⟨zh (by rw[c0.out.1,HR.out.2.2,Jj];rfl),X,HR.out.1.at,HR.out.2.1⟩
  ·have b9:¬(0:Int)<(z3:Int):=Zo;have d:zJ K.E M=(M.vals.getD z0 0,M.tick.tick):=by unfold zJ;rw[if_neg Zo,if_neg (by rw[k];exact h3),o]
   have hZ:=Ja d;clear d k o;go_upto_region 6 with(go_at_call 59;go_must (refine b0.out.mono ?_;rintro e w2 ⟨rfl,c,j⟩))
   have hv:=c.valAt (i:=z0) a4;have d7:=c.c7;have b7:(z0:Int)<(M.vals.length:Int):=Zo;have HR:=Ja (Jb c (r.trans j));clear c r j y;go_wp2;go_ret;rw[hZ.out];exact⟨rfl,X,HR.out.1.at,HR.out.2⟩
structure GrowP (c:Nat) (M M':MS):Prop where
 pos:M.pos<=M'.pos
 sz:M'.sz<=M.sz+c
 len:M.f.length<=M'.f.length
 nxt:M.next<=M'.next
 pre:M.vals<+:M'.vals
 cur:M.cur<M.f.length->M'.cur<M'.f.length
 left:M'.left<=M.left
 lft:6<=M.left+M.pos->6<=M'.left+M'.pos
 par:xU M.f M'.f
theorem GrowP.refl (M:MS):GrowP 0 M M:=⟨Je _,Je _,Je _,Je _,Od,fun h=>h,Og _,fun h=>h,xU.refl _⟩
theorem GrowP.trans(h:GrowP c M M1)(k:GrowP d M1 M2):GrowP (c+d) M M2:=
 ⟨Jn h.pos k.pos,by have:=h.sz;have:=k.sz;omega,Jn h.len k.len,Jn h.nxt k.nxt,h.pre.trans k.pre,fun e=>k.cur (h.cur e),Int.le_trans k.left h.left,fun e=>k.lft (h.lft e),h.par.trans k.par⟩
theorem GrowP.mono(h:GrowP c M M1)(g:c<=d):GrowP d M M1:= {h with sz:=by have:=h.sz;omega }
theorem Grow.p(h:Grow c M M'):GrowP c M M':=⟨h.pos,h.sz,Ul h.len.symm,h.nxt,h.pre,fun e=>by rw[h.cur,h.len];exact e,Int.le_of_eq h.left,fun e=>by have:=h.left;have:=h.pos;omega,h.par⟩
theorem xM (M:MS)(p:Nat):GrowP (1+p) M (M.block p):=
 ⟨Je _,by rw[sz_block];omega,by unfold MS.block;simp,by unfold MS.block;simp,Od,fun e=>by unfold MS.block;simp;omega,Og _,fun e=>e,qX _ _⟩
theorem vW:∀(n:Nat) (M:MS),GrowP n M (xE n M)
 |0,M=>GrowP.refl M
 |n+1,M=>(vW n M).trans ((xM _ 0).mono Zo)
theorem tB:∀(n:Nat) (M:MS),(xE n M).f.length=M.f.length+n
 |0,M=>rfl
 |n+1,M=>by show((xE n M).f++ [_]).length=_;rw[Jk,tB n M];rfl
theorem yz (M:MS)(p:Nat):(M.block p).f.length=M.f.length+1:=by unfold MS.block;simp
theorem vk (M:MS)(c:Nat)(h:c<M.f.length):GrowP 0 M {M with cur:=c }:=⟨Je _,Je _,Je _,Je _,Od,fun _=>h,Og _,fun e=>e,xU.refl _⟩
theorem dO {α:Type}{l m:List α}(h:l<+:m):l.length<=m.length:=by obtain⟨t,rfl⟩:=h;simp
theorem uF {α:Type}{l m:List α}(h:l<+:m):m.take l.length=l:=by obtain⟨t,rfl⟩:=h;simp
theorem sY(h:GrowP c M M1):GrowP c M {M1 with vals:=M1.vals.take M.vals.length }:=by
 refine⟨h.pos,?_,h.len,h.nxt,by rw[uF h.pre];exact Od,h.cur,h.left,h.lft,h.par⟩;have h1:=h.sz;have h2:=dO h.pre;unfold MS.sz at h1 ⊢;simp only[uF h.pre];omega
def wM (E:ME)(join k:Nat)(M1:MS):MS:=
 if tkV E M1 12=11/\0<k then(zJ E M1.tick).2.endB ⟨4,(zJ E M1.tick).1,[]⟩ else(zJ E M1.tick).2.endB ⟨1,0,[⟨(join:Nat),[(zJ E M1.tick).1]⟩]⟩
theorem su (E:ME)(c k:Nat)(M1:MS):GrowP 5 M1 (wM E c k M1):=by
 have h:=((zT M1).trans (yU E _)).p;unfold wM
 split
 ·exact h.trans (zv _ _).p
 ·exact h.trans (zv _ _).p
theorem rg (E:ME)(c:MS->MS)(tg d keep n k:Nat)(M:MS):uV E c tg d keep (n+1) k M=uV E c tg d keep n (k+1) {wM E d k (c {M with cur:=tg+k }) with vals:=(wM E d k (c {M with cur:=tg+k })).vals.take keep }:=rfl
theorem pF (E:ME)(c:MS->MS)(P:Nat)(i:∀M,GrowP P M (c M))(tg d:Nat):∀(n k:Nat) (M:MS),tg+k+n<=M.f.length->GrowP (n*(P+5)) M (uV E c tg d M.vals.length n k M)/\(uV E c tg d M.vals.length n k M).vals=M.vals
 |0,k,M,h=>⟨(GrowP.refl M).mono Zo,rfl⟩
 |n+1,k,M,h=>by
  rw[rg];have h1:=((vk M (tg+k) Zo).trans ((i _).trans (su E d k (c {M with cur:=tg+k })))).mono (show 0+(P+5)<=P+5 by omega);have h2:=sY h1;have h3:({wM E d k (c {M with cur:=tg+k }) with vals:=(wM E d k (c {M with cur:=tg+k })).vals.take M.vals.length }:MS).vals=M.vals:=uF h1.pre;have g:=pF E c P i tg d n (k+1) {wM E d k (c {M with cur:=tg+k }) with vals:=(wM E d k (c {M with cur:=tg+k })).vals.take M.vals.length } (by have:=h2.len;simp only at this ⊢;omega);rw[h3] at g;refine⟨(h2.trans g.1).mono ?_,g.2⟩;rw[Nat.succ_mul];omega
theorem uU (E:ME)(d:MS->MS)(P:Nat)(j:∀M,GrowP P M (d M))(n:Nat)(i:n<=4)(M:MS):GrowP (31+4*P) M (xi E d n M):=by
 unfold xi;simp only;have h1:=(yU E M).p;generalize zJ E M=c at *;have h2:=(h1.trans (vW n c.2)).trans (xM _ 1);have l2:((xE n c.2).block 1).f.length=c.2.f.length+n+1:=by rw[yz,tB]
 have h3:=h2.trans (zv ((xE n c.2).block 1) ⟨if 2<n then 3 else 2,c.1,xk c.2.f.length n⟩).p;have l3:(((xE n c.2).block 1).endB ⟨if 2<n then 3 else 2,c.1,xk c.2.f.length n⟩).f.length=c.2.f.length+n+1:=(zv _ _).len.trans l2;generalize ((xE n c.2).block 1).endB ⟨if 2<n then 3 else 2,c.1,xk c.2.f.length n⟩=M3 at *;obtain⟨h,k⟩:=pF E d P j c.2.f.length (c.2.f.length+n) n 0 M3 Zo;generalize uV E d c.2.f.length (c.2.f.length+n) M3.vals.length n 0 M3=M4 at *;have g:=h3.trans h;have hm:n*(P+5)<=4*(P+5):=Qw _ i;refine⟨g.pos,?_,g.len,g.nxt,g.pre.trans (Qb _ _),fun e=>?_,g.left,g.lft,g.par⟩
 ·have:=g.sz;unfold MS.sz at this ⊢;simp only[Jk,Ju];omega
 ·have:=h.len
  show c.2.f.length+n<M4.f.length
  omega
theorem qg (E:ME)(c:MS->MS)(P:Nat)(h:∀M,GrowP P M (c M))(M:MS):GrowP (24+P) M (tH E c M):=by
 unfold tH;simp only;have h1:=(((zT M).trans (wT M.tick (tkV E M 5))).trans (yU E _)).p;generalize zJ E (M.tick.num (tkV E M 5))=x at *;have l2:(((x.2.block 2).block 0).block 0).f.length=x.2.f.length+3:=by rw[yz,yz,yz]
 have h2:=((h1.trans (xM _ 2)).trans (xM _ 0)).trans (xM _ 0);have h3:=h2.trans (zv (((x.2.block 2).block 0).block 0) ⟨1,0,[⟨(x.2.f.length:Nat),[(M.next:Int),x.1]⟩]⟩).p;have l3:=(zv (((x.2.block 2).block 0).block 0) ⟨1,0,[⟨(x.2.f.length:Nat),[(M.next:Int),x.1]⟩]⟩).len.trans l2;generalize (((x.2.block 2).block 0).block 0).endB ⟨1,0,[⟨(x.2.f.length:Nat),[(M.next:Int),x.1]⟩]⟩=M2 at *
 have m:GrowP 1 M2 {M2 with cur:=x.2.f.length,vals:=M2.vals++ [((x.2.next+1:Nat):Int)]}:=by
  refine⟨Je _,?_,Je _,Je _,Qb _ _,fun _=>by show x.2.f.length<M2.f.length;omega,Og _,fun e=>e,xU.refl _⟩;unfold MS.sz;simp only[Jk,Ju];omega
 have l:=(h3.trans m).trans (zv {M2 with cur:=x.2.f.length,vals:=M2.vals++ [((x.2.next+1:Nat):Int)]} ⟨2,(x.2.next:Nat),[⟨((x.2.f.length+1:Nat):Int),[]⟩,⟨((x.2.f.length+2:Nat):Int),[]⟩]⟩).p;have l5:=(zv {M2 with cur:=x.2.f.length,vals:=M2.vals++ [((x.2.next+1:Nat):Int)]} ⟨2,(x.2.next:Nat),[⟨((x.2.f.length+1:Nat):Int),[]⟩,⟨((x.2.f.length+2:Nat):Int),[]⟩]⟩).len;have o:(MS.endB {M2 with cur:=x.2.f.length,vals:=M2.vals++ [((x.2.next+1:Nat):Int)]} ⟨2,(x.2.next:Nat),[⟨((x.2.f.length+1:Nat):Int),[]⟩,⟨((x.2.f.length+2:Nat):Int),[]⟩]⟩).f.length=x.2.f.length+3:=l5.trans l3;generalize MS.endB {M2 with cur:=x.2.f.length,vals:=M2.vals++ [((x.2.next+1:Nat):Int)]} ⟨2,(x.2.next:Nat),[⟨((x.2.f.length+1:Nat):Int),[]⟩,⟨((x.2.f.length+2:Nat):Int),[]⟩]⟩=M3 at *;have k:=(vk M3 (x.2.f.length+1) Zo).trans (h _);have j:=k.trans (wT (c {M3 with cur:=x.2.f.length+1 }) 1).p;generalize c {M3 with cur:=x.2.f.length+1 }=M4 at *;have i:=(j.trans (yB (M4.num 1) ⟨6,0,(x.2.next:Nat),(M4.next:Nat),0,[]⟩).p).trans (yU E _).p;generalize zJ E ((M4.num 1).emit ⟨6,0,(x.2.next:Nat),(M4.next:Nat),0,[]⟩)=y at *;have g:=sY (i.trans (zv y.2 ⟨1,0,[⟨(x.2.f.length:Nat),[((M4.next+1:Nat):Int),y.1]⟩]⟩).p);generalize r:y.2.endB ⟨1,0,[⟨(x.2.f.length:Nat),[((M4.next+1:Nat):Int),y.1]⟩]⟩=M6 at *;have d:=g.len;simp only at d;exact((l.trans g).trans (vk {M6 with vals:=M6.vals.take M3.vals.length } (x.2.f.length+2) (by show x.2.f.length+2<M6.f.length;omega))).mono Zo
theorem oL (E:ME)(c:∀x∈E.args,0<=x/\x<4)(M:MS):GrowP 101 M (tR E M):=by
 unfold tR;simp only;have hk:=aaE E M (n:=5) Zo;have h1:=(zT M).trans (pw E c (tkV E M 5+1) M.tick);have h2:=(pw E c (tkV E M 5+1) M.tick)
 have h3:=h1.p;refine⟨h3.pos,?_,h3.len,h3.nxt,h3.pre,h3.cur,by have:=h3.left;show _-1<=M.left;omega,fun e=>?_,h3.par⟩
 ·have:=h3.sz;unfold MS.sz at this ⊢;simp only;omega
 ·have e1:=h1.left;have e2:=h2.pos;have e3:M.tick.pos=M.pos+1:=rfl
  show 6<=(qY E (tkV E M 5+1) M.tick).left-1+(((qY E (tkV E M 5+1) M.tick).pos:Nat):Int)
  omega
def pC:Nat->Nat
 |0=>101
 |d+1=>134+4*pC d
theorem xw (E:ME)(h:∀x∈E.args,0<=x/\x<4):∀(d:Nat) (M:MS),GrowP (pC d) M (zp E d M)
 |0,M=>oL E h M
 |d+1,M=>by
  unfold zp;simp only;have h1:=oL E h M;generalize tR E M=M2 at *;have g:=xw E h d;have j:pC (d+1)=134+4*pC d:=rfl;have c:=(zT M2).p;have i:=(zT M2.tick).p
  split
  ·exact h1.mono Zo
  split
  ·exact((h1.trans c).trans (uU E _ _ g 2 Zo _)).mono Zo
  split
  ·exact((h1.trans c).trans (qg E _ _ g _)).mono Zo
  split
  ·have:=aaE E M2.tick (n:=3) Zo;exact(((h1.trans c).trans i).trans (uU E _ _ g (2+tkV E M2.tick 3) Zo _)).mono Zo
  ·exact(h1.trans c).mono Zo
def jQ {α:Type}(R:World->(Nat->Prop)->Nat->Nat->α->Prop):Prop:=∀w X Y b q x,(∀k,Y k->X k)->R w X b q x->R w Y b q x
theorem yE.anti{α:Type}{sz:Nat}{R:World->(Nat->Prop)->Nat->Nat->α->Prop}(d:jQ R){Y:Nat->Prop}{v:Value}{xs:List α}(h:yE sz R w X v xs)(c:∀k,Y k->X k):yE sz R w Y v xs:=by
 obtain⟨a,cap,rfl,h1,h2,h3⟩:=h;refine⟨a,cap,rfl,h1,h2,fun k x hk=>?_⟩;obtain⟨b,o,l,j,i,g⟩:=h3 k x hk;exact⟨b,o,l,j,fun e=>i (c _ e),d _ _ _ _ _ _ c g⟩
theorem abf:jQ IntG:=fun w X Y b q x hY h=>h
theorem qd:jQ EdgeG:=fun w X Y b q x hY h=>by
 obtain⟨h1,h2,av,h3,c⟩:=h;exact⟨h1,h2,av,h3,c.anti abf hY⟩
def OpG (w:World)(X:Nat->Prop)(b q:Nat)(x:IOp):Prop:=
 G w b q (A x.code)/\G w b (q+1) (A x.res)/\G w b (q+2) (A x.a)/\G w b (q+3) (A x.b)/\G w b (q+4) (I (x.n:Int))/\
  (I64 x.code/\I64 x.res/\I64 x.a/\I64 x.b/\x.n<65536)/\∃av,G w b (q+5) av/\wm w X av x.args
theorem lu:rP OpG:=fun X w X' w' b q x _ hx hs h=>by
 obtain⟨h1,h2,h3,j,i,g,av,d,c⟩:=h;exact⟨hs.cell h1 hx,hs.cell h2 hx,hs.cell h3 hx,hs.cell j hx,hs.cell i hx,g,av,hs.cell d hx,c.step zn hs⟩
theorem opG_anti:jQ OpG:=fun w X Y b q x hY h=>by
 obtain⟨h1,h2,h3,j,i,g,av,d,c⟩:=h;exact⟨h1,h2,h3,j,i,g,av,d,c.anti abf hY⟩
abbrev OpsG:=yE 6 OpG
def BlkG (w:World)(X:Nat->Prop)(b q:Nat)(x:IBlk):Prop:=
 G w b (q+2) (A x.term.kind)/\G w b (q+3) (A x.term.a)/\(I64 x.term.kind/\I64 x.term.a)/\
  ∃pv ov tv,G w b q pv/\G w b (q+1) ov/\G w b (q+4) tv/\wm w X pv x.params/\OpsG w X ov x.ops/\vT w X tv x.term.to
theorem xq:rP BlkG:=fun X w X' w' b q x _ hx hs h=>by
 obtain⟨h1,h2,h3,pv,ov,tv,k,j,i,g,d,c⟩:=h;exact⟨hs.cell h1 hx,hs.cell h2 hx,h3,pv,ov,tv,hs.cell k hx,hs.cell j hx,hs.cell i hx,g.step zn hs,d.step lu hs,c.step yq hs⟩
theorem jG:jQ BlkG:=fun w X Y b q x hY h=>by
 obtain⟨h1,h2,h3,pv,ov,tv,k,j,i,g,d,c⟩:=h;exact⟨h1,h2,h3,pv,ov,tv,k,j,i,g.anti abf hY,d.anti opG_anti hY,c.anti qd hY⟩
abbrev pf:=yE 5 BlkG
theorem OpsG.to{v:Value}{xs:List IOp}(h:OpsG w X v xs):mN w w.heap.size v xs:=yE.to h fun _ _ _ h=>by
 obtain⟨h1,h2,h3,j,i,g,av,d,c⟩:=h;exact⟨h1,h2,h3,j,i,g,av,d,wm.to c⟩
theorem pf.to{v:Value}{xs:List IBlk}(h:pf w X v xs):wX w w.heap.size v xs:=yE.to h fun _ _ _ h=>by
 obtain⟨h1,h2,h3,pv,ov,tv,k,j,i,g,d,c⟩:=h;exact⟨h1,h2,h3,pv,ov,tv,k,j,i,wm.to g,OpsG.to d,vT.to c⟩
theorem qv{α β:Type}{sz:Nat}{f:β->List Value}{g:β->α}{R:World->(Nat->Prop)->Nat->Nat->α->Prop}(t:0<sz)(hf:∀a,(f a).length=sz){S:Nat}{e:TypeId}{v:Value}{l:List β}(h:w.ownsRow S e sz v l.length (l.flatMap f))(m:∀k,v.ownBlock=some k->¬X k)
 (r:∀q∈l,∀b o,(∀j u,(f q)[j]? =some u->G w b (o+j) u)->R w X b o (g q)):yE sz R w X v (l.map g):=by
 obtain⟨a,c,rfl⟩:=zG h;have hl:=zm h;refine⟨a,c,by rw[Nr],by rw[Nr];exact hl.1,by omega,fun k o hk=>?_⟩;rw[Jr,Oz] at hk;obtain⟨q,hq,rfl⟩:=hk;have d:=(Jh.1 hq).1;obtain⟨gg,cap,e,hg,hb⟩:=h.form Zo;cases e;refine⟨gg,0,rfl,hb,m gg rfl,r q (Ji hq) _ _ fun j u hj=>?_⟩;have i:j<sz:=by rw[<-hf q];exact(Jh.1 hj).1
 rw[Ng]
 exact(h.cellAt (k*sz+j) (by
  have:(k+1)*sz<=l.length*sz:=Qw sz d;rw[Nat.add_mul] at this
  omega)).trans ((uB f sz hf l k q hq j i).trans hj)
theorem mF (q:IOp×Value):(zU q).length=6:=rfl
theorem MkIn.blks{fv:Value}(h:MkIn w K X M fv vv l):pf w (fun k=>k=K.pm∨K.Z k) fv M.f:=by
 have c:∀k,(k=K.pm∨K.Z k)->K.av X k:=fun k e=>e.elim (fun e=> .inl (by rw[e];exact h.xm)) .inr
 rw[h.fl];refine qv Zd yr h.own (fun k e e2=>?_) (fun q hq b o hc=>?_)
 ·rcases e2 with e2|e2
  ·exact zC h.own h.blk (.inr Zd) (by rw[e,e2])
  ·exact h.env.zx k (h.xf k e) e2
 ·have ok:=h.bok q hq;refine⟨hc 2 _ rfl,hc 3 _ rfl,ok.k64,q.pv,q.ov,q.tv,hc 0 _ rfl,hc 1 _ rfl,hc 4 _ rfl,ok.par.anti abf c,?_,ok.tos.anti qd c⟩;rw[ok.ops];refine qv Zd mF ok.own (fun k e e2=>?_) (fun p hp b2 o2 hc2=>?_)
  ·rcases e2 with e2|e2
   ·exact zC ok.own h.blk (.inr Zd) (by rw[e,e2])
   ·exact h.env.zx k (ok.inX k e) e2
  ·have oa:=ok.arg p hp;exact⟨hc2 0 _ rfl,hc2 1 _ rfl,hc2 2 _ rfl,hc2 3 _ rfl,hc2 4 _ rfl,oa.1,p.2,hc2 5 _ rfl,oa.2.anti abf c⟩
theorem MkIn.putVs{fv:Value}(h:MkIn w K X M fv vv l)(hg:w.grownBy w3 vv.ownBlock){n:Nat}(t:n=M.vals.length+xs.length)
 (c:w3.ownsRow K.B 3 1 vv' n (M.vals.map zN++xs.map zN)) (o:∀k,vv'.ownBlock=some k->vv.ownBlock=some k∨w.heap.size<=k) (r:∀x∈xs,I64 x) (u:M.sz+xs.length<=1000000):
 MkIn (w3.setCell ⟨K.pm,7,none⟩ vv') K (fun k=>X k∨vv'.ownBlock=some k) {M with vals:=M.vals++xs } fv vv' l/\Stp X w (fun k=>X k∨vv'.ownBlock=some k) (w3.setCell ⟨K.pm,7,none⟩ vv'):=by
 subst t;have n1:=zC h.vown h.blk (.inr Zd);have i:=zL hg h.blk n1;have m:w.heap.size<=w3.heap.size:=hg.size
 have hk:∀k,k<w.heap.size->k≠K.pm->vv.ownBlock≠some k->(w3.setCell ⟨K.pm,7,none⟩ vv').heap[k]? =w.heap[k]?:=fun k hk hne hv=>
  (Below.heap_setCell w3 ⟨K.pm,7,none⟩ vv' k hne).trans (hg.block k hk (fun e=>hv e.symm))
 have hs:Stp X w (fun k=>X k∨vv'.ownBlock=some k) (w3.setCell ⟨K.pm,7,none⟩ vv'):=
  ⟨hg.os,hg.tape,hg.output,by simpa using m,fun k hx'=>hx'.elim .inl (fun e=>(o k e).elim (fun e2=> .inl (h.xv k e2)) .inr),fun k hk' hxk=>hk k hk' (fun e=>hxk (by rw[e];exact h.xm)) (fun e=>hxk (h.xv k e))⟩
 have g:∀ {v:Value} {e:TypeId} {sz n:Nat} {xs:List Value},w.ownsRow K.B e sz v n xs->e≠3->e≠120->∀k,v.ownBlock=some k->(w3.setCell ⟨K.pm,7,none⟩ vv').heap[k]? =w.heap[k]?:=fun {v e sz n xs} ho h1 h2 k hk'=>by
  refine hk k (ho.lt k hk').2 (fun e3=>zC ho h.blk (.inr h2) (by rw[hk',e3])) (fun e3=>?_);rcases zo ho h.vown h1 with j|j
  ·rw[j] at hk';cases hk'
  ·exact j (by rw[hk',e3])
 refine⟨⟨?_,yD h.own (g h.own Zd Zd),h.fl,fun q hq=>(h.bok q hq).step hs (g (h.bok q hq).own Zd Zd) (fun _ e=> .inl e),h.apart,?_,?_,.inl h.xm,fun k e=> .inl (h.xf k e),fun k e=> .inr e,fun k e=>e.elim (h.xB k) (fun e2=>(c.lt k e2).1),fun k e=>?_,h.env.step hs (hs.below h.xB h.size),?_,h.lft⟩,hs⟩
 ·rw[zD i];rfl
 ·show(w3.setCell ⟨K.pm,7,none⟩ vv').ownsRow K.B 3 1 vv' (M.vals++xs).length ((M.vals++xs).map zN)
  rw[Jk,Js];exact ownsRow_setCell_other c (fun e=>zC c i (.inr Zd) (by simpa using e)) _
 ·intro y d;rcases Jl.1 d with d|d
  ·exact h.v64 y d
  ·exact r y d
 ·rcases e with e|e
  ·have:=h.xl k e;simp;omega
  ·have:=(c.lt k e).2;simpa using this
 ·unfold MS.sz at *;simp only[Jk];omega
structure MDC where
 sv:Value
 apv:Value
 dv:Value
 bv:Value
 pm:Nat
 pp:Nat
 fb:Nat
 rr:Nat
 B:Nat
variable {C:MDC}
def mdK (s:List Int)(C:MDC)(k:Nat):MKC:=⟨xC s k,C.sv,N C.fb (mdN s) (mdN s),C.apv,C.dv,C.bv,C.pm,C.pp,C.B,fun j=>(j=C.fb∨j=C.rr)∨j<C.B⟩
theorem MkEnv.me{s:List Int}{j:Nat}(h:MkEnv w (mdK s C j) X)(hk:k<mdN s):MkEnv w (mdK s C k) X:=
 ⟨h.s,h.fpv,h.prog,h.args,h.data,h.ppX,h.h64,h.len,⟨h.nf.1,hk⟩,h.alt,h.zx,h.zl⟩
theorem MkEnv.anti{Y:Nat->Prop}(h:MkEnv w K X)(d:∀k,Y k->X k):MkEnv w K Y:=by
 have c:∀k,K.av Y k->K.av X k:=fun k e=>e.elim (fun e=> .inl (d k e)) .inr
 obtain⟨b,e1,e2,e3⟩:=h.data;exact⟨h.s,h.fpv,h.prog,h.args.anti abf c,⟨b,e1,fun e=>e2 (c _ e),e3⟩,fun e=>h.ppX (c _ e),h.h64,h.len,h.nf,h.alt,fun k e=>h.zx k (d k e),h.zl⟩
theorem MkEnv.stepA(h:MkEnv w K X)(c:Stp (K.av X) w (K.av X) w')(hb:Below K.B w w'):MkEnv w' K X:=by
 obtain⟨b,e1,e2,e3⟩:=h.data;exact⟨h.s.below zO hb,h.fpv,c.blk h.prog h.ppX,h.args.step zn c,⟨b,e1,e2,c.blk e3 e2⟩,h.ppX,h.h64,h.len,h.nf,h.alt,h.zx,fun k e=>Jy (h.zl k e) c.size⟩
structure MdAt (s:List Int) (C:MDC) (w0:World) (k:Nat) (wx:World):Prop where
 env:MkEnv wx (mdK s C 0) (fun j=>j=C.pm)
 mkr:∃(me:Value) (cur:Nat) (fv next vv left:Value),wx.heap[C.pm]? =some (.cells #[C.sv,.int .i64 ((zg s k).2:Int),.pointer (some ⟨C.pp,0,none⟩),me,fv,.int .i64 (cur:Int),next,vv,left] 120 (0,0))
 row:∃hs:List Value,hs.length=mdN s/\wx.heap[C.fb]? =some (.cells hs.toArray 43 (0,0))/\∀(j:Nat) (x:List IBlk),(zg s k).1[j]? =some x->∃v:Value,hs[j]? =some v/\pf wx (fun i=>i=C.pm∨((i=C.fb∨i=C.rr)∨i<C.B)) v x
 bel:Below w0.heap.size w0 wx
 hB:C.B=w0.heap.size
 pmB:C.B<=C.pm
 fbB:C.B<=C.fb
 rrB:C.B<=C.rr
theorem MdAt.start{s:List Int}(h:MdAt s C w0 k wx)(hk:k<mdN s){cur next:Nat}(d:(zg s k).2+1+next<=900000)
 (c:L W C.pm (uC (mdK s C k) ⟨(zg s k).2+1,[],cur,next,[],6⟩ (O) (O)) 120)
 (hs:Stp (fun j=>j=C.pm) wx (fun j=>j=C.pm) W):MkIn W (mdK s C k) (fun j=>j=C.pm) ⟨(zg s k).2+1,[],cur,next,[],6⟩ (O) (O) []:=
 ⟨c,Jv _ _ _ _,rfl,fun q hq=>by simp at hq,fun i j qi qj k hi=>by simp at hi,Jv _ _ _ _,fun x hx=>by simp at hx,rfl,fun k e=>by simp[Value.ownBlock] at e,fun k e=>by simp[Value.ownBlock] at e,
  fun k e=>by rw[e];exact h.pmB,fun k e=>by rw[e];exact lt_of_block c,(h.env.step hs (hs.below (fun k e=>by rw[e];exact h.pmB) (by show C.B<=_;rw[h.hB];exact h.bel.size))).me hk,by unfold MS.sz;simp[opsN];omega,⟨by show(6:Int)<=6+_;omega,by show(6:Int)<=6;omega⟩⟩
theorem MdAt.done{s:List Int}(h:MdAt s C w0 k wx)(hk:k<mdN s){fv:Value}(hm:MkIn W (mdK s C k) X (xR (xC s k) (zg s k).2) fv vv l)(hs:Stp (fun j=>j=C.pm) wx X W)(w:(zg s k).1.length=k)
 (c:W2.heap.size=W.heap.size/\W2.os=W.os/\W2.tape=W.tape/\W2.output=W.output) (g:∀i,i≠C.fb->W2.heap[i]? =W.heap[i]?) (a2:∀cs:Array Value,L W C.fb cs 43->L W2 C.fb (cs.setIfInBounds k fv) 43):MdAt s C w0 (k+1) W2:=by
 obtain⟨row,hrl,o,t⟩:=h.row;have m:¬(C.fb=C.pm):=fun e=>h.env.zx C.pm rfl (.inl (.inl e.symm))
 have a7:¬X C.fb:=fun e=>hm.env.zx C.fb e (.inl (.inl rfl))
 have d:Stp ((mdK s C k).av fun j=>j=C.pm) W ((mdK s C k).av fun j=>j=C.pm) W2:=⟨c.2.1,c.2.2.1,c.2.2.2,by rw[c.1];exact Je _,fun k e=> .inl e,fun i _ hx=>g i (fun e=>hx (.inr (.inl (.inl e))))⟩
 have a5:C.B<=wx.heap.size:=by rw[h.hB];exact h.bel.size
 have a4:Below C.B wx W:=hs.below (fun k e=>by rw[e];exact h.pmB) a5;have a6:C.B<=C.fb:=h.fbB;have r:Below C.B W W2:=⟨c.2.1,c.2.2.1,c.2.2.2,by rw[c.1];exact Je _,fun i hi=>g i Zo⟩
 have y:MkEnv W2 (mdK s C 0) (fun j=>j=C.pm):=((hm.env.anti (fun i e=>by rw[e];exact hm.xm)).stepA d r).me (by have:=hk;omega);have a1:C.fb<wx.heap.size:=lt_of_block o;refine⟨y,?_,?_,?_,h.hB,h.pmB,h.fbB,h.rrB⟩
 ·have h1:=hm.blk;exact⟨_,_,_,_,_,_,(g C.pm (fun e=>m e.symm)).trans h1⟩
 ·have u:L W C.fb row.toArray 43:=(hs.kept _ a1 (fun e=>m e)).trans o;refine⟨row.set k fv,by rw[Nd];exact hrl,by rw[a2 _ u];simp,fun j x hj=>?_⟩;have e1:(zg s (k+1)).1=(zg s k).1++ [(xR (xC s k) (zg s k).2).f]:=rfl;rw[e1] at hj
  by_cases b0:j<k
  ·rw[Np Zo] at hj;obtain⟨v,hv,a3⟩:=t j x hj;refine⟨v,by rw[Ns Zo];exact hv,?_⟩;have h2:pf W ((mdK s C k).av X) v x:=yE.step (X:=(mdK s C k).av fun j=>j=C.pm) xq a3 (hs.av _);have h3:pf W ((mdK s C k).av fun j=>j=C.pm) v x:=h2.anti jG (fun i e=>e.elim (fun e=> .inl (by rw[e];exact hm.xm)) .inr);exact h3.step xq d
  ·have a0:j=k:=by
    have:=(Jh.1 hj).1;simp at this;omega
   subst a0;rw[Nc Zo,w,Qy] at hj;cases hj;refine⟨fv,by rw[Nn Zo],?_⟩;have h2:pf W ((mdK s C j).av fun i=>i=C.pm) fv (xR (xC s j) (zg s j).2).f:=hm.blks;exact h2.step xq d
 ·have e:C.B=w0.heap.size:=h.hB;have:=h.bel.trans (B:=w0.heap.size) (by rw[<-e];exact a4.trans r);exact this
theorem tf{pm pos B:Nat}{cs:Array Value}{s:List Int}{sv:Value}(hb:L w pm cs 120)(r:cs[0]? =some sv)(h1:cs[1]? =some (A pos))(hs:zY w B sv s){n:Nat}(l:0<n)(g:n<=1000000)(u:pos+1<=1000000):
 Y 59 #[Q pm,A n] w fun e w'=>e=.returned (A (tk0 s pos n:Nat))/\L w' pm (cs.setIfInBounds 1 (A ((pos+1:Nat):Int))) 120/\Stp (fun j=>j=pm) w (fun j=>j=pm) w':=by
 have c0:=zA hb r;have c1:=zA hb h1;obtain⟨sa,sc,i,a1,a0⟩:=hs.form;rw[i] at c0 hs;have f1:T w pm 1:=zE hb;have a2:=lt_of_block hb
 have d:=Ja (show ∀n,L ((w.drewN n).setCell ⟨pm,1,none⟩ (A ((pos:Int)+1))) pm (cs.setIfInBounds 1 (A ((pos+1:Nat):Int))) 120/\Stp (fun j=>j=pm) w (fun j=>j=pm) ((w.drewN n).setCell ⟨pm,1,none⟩ (A ((pos:Int)+1))) from fun n=>
  ⟨zD (w:=w.drewN n) hb _,⟨rfl,rfl,rfl,by simp,fun _ h=> .inl h,fun k hk c=>Below.heap_setCell _ _ _ _ (fun e=>c (by rw[e]))⟩⟩)
 have hp:(pos:Int)+1<=1000000:=Zo;clear hb r h1
 by_cases m:pos<s.length
 ·obtain⟨x,c⟩:∃x,s[pos]? =some x:=⟨_,Jd m⟩
  obtain⟨b,o,rfl,hb,y,h64⟩:=hs.get c;rw[Nk] at y;have hI:(pos:Int)<(s.length:Int):=Zo;have hv:tk0 s pos n=(x%(n:Int)).toNat:=by unfold tk0;rw[Jj,c];rfl
  have e1:=rK x n l g;rw[hv];have t:=Ja e1;clear hs c hb e1 hv;go_enter Try.func59,Try.ntmps59;go_wp2;go_quiet (fail);go_wp2;go_quiet (fail);go_wp2;go_ret;exact⟨zh t.out,(d.out _).1,(d.out _).2⟩
 ·have hI:¬(pos:Int)<(s.length:Int):=Zo;have hv:tk0 s pos n=((0:Int)%(n:Int)).toNat:=by unfold tk0;rw[Jj,Of Zo];rfl
  have e1:=rK 0 n l g;rw[hv];have t:=Ja e1;clear hs hv e1;go_enter Try.func59,Try.ntmps59;go_wp2;go_quiet (fail);go_wp2;go_ret;exact⟨zh Zs,(d.out _).1,(d.out _).2⟩
theorem rX (s:List Int)(pos:Nat){n:Nat}(c:0<n):tk0 s pos n<n:=by
 unfold tk0;have h1:=Ob (s.getD pos 0) (show(n:Int)≠0 by omega);have h2:=Int.emod_lt_of_pos (s.getD pos 0) (show(0:Int)<n by omega);omega
theorem sm (s:List Int):1<=mdN s/\mdN s<=4:=by
 have:=rX s 0 (n:=4) Zo;unfold mdN;omega
theorem yY (s:List Int):∀n,(yS s n).length=n
 |0=>rfl
 |n+1=>by unfold yS;rw[Jk,yY s n];rfl
theorem xy (s:List Int):∀n,∀x∈yS s n,0<=x/\x<4
 |0,x,h=>by unfold yS at h;simp at h
 |n+1,x,h=>by
  unfold yS at h;rcases Jl.1 h with h|h
  ·exact xy s n x h
  ·have:=rX s n (n:=4) Zo;rw[Jo] at h;subst h
   split<;>omega
theorem yx (s:List Int):∀k,(zg s k).1.length=k
 |0=>rfl
 |k+1=>by
  show((zg s k).1++ [_]).length=_
  rw[Jk,yx s k];rfl
theorem eP {E:ME}(d:∀x∈E.args,0<=x/\x<4)(f:Nat):(E.args.getD f 0).toNat<=3:=by
 rw[Jj]
 cases c:E.args[f]? with
 |none=>simp
 |some x=>have:=d x (Ji c);simp only[Ot];omega
theorem sd (n p:Nat):(wJ n p).params.length=p:=by unfold wJ;simp
theorem sQ {E:ME}(c:∀x∈E.args,0<=x/\x<4)(pos:Nat):(xD E pos).sz<=pos+40:=by
 have h1:=eP c E.me;have h2:=aaE E ⟨pos,[],0,0,[],6⟩ (n:=3) Zo;unfold xD;simp only;unfold MS.sz MS.block MS.tick;simp only[sd,Op,bT,Ju];omega
theorem rx {E:ME}(d:∀x∈E.args,0<=x/\x<4)(pos:Nat):GrowP 2829 (xD E pos) (xR E pos):=by
 have h:=(xw E d 2 (xD E pos)).trans (xw E d 1 (zp E 2 (xD E pos)));have e:pC 2+pC 1=2824:=rfl;rw[e] at h;unfold xR;simp only;have c:=h.trans (zT (zp E 1 (zp E 2 (xD E pos)))).p
 split
 ·exact(c.trans (zv _ _).p).mono Zo
 split
 ·exact(c.trans (zv _ _).p).mono Zo
 ·exact((c.trans (yU E _).p).trans (zv _ _).p).mono Zo
theorem lN {E:ME}(c:∀x∈E.args,0<=x/\x<4)(pos:Nat):(xR E pos).pos<=pos+3000:=by
 have h1:=(rx c pos).sz;have h2:=sQ c pos;have h3:(xR E pos).pos<=(xR E pos).sz:=by unfold MS.sz;omega
 omega
theorem mdPos_le (s:List Int):sP s<=5:=by
 have:=sm s;unfold sP
 split<;>omega
theorem pos_step{x y:Nat}(h1:y<=5+k*3000)(h2:x<=y+3000):x<=5+(k+1)*3000:=by omega
theorem tU (s:List Int)(k:Nat):(zg s k).2<=5+k*3000:=by
 induction k with
 |zero=>exact mdPos_le s
 |succ k ih=>exact pos_step ih (lN (E:=xC s k) (xy s _) (zg s k).2)
def rp (k:Nat):Nat:=(k*k+k/256)%256
def iu:List Nat:=(List.range 4096).map rp
def uQ (k:Nat):List Nat:=(List.range 4096).map fun j=>if j<k then rp j else 0
theorem pM (k:Nat):(uQ k).length=4096:=by simp[uQ]
theorem mM:uQ 0=List.replicate 4096 0:=by
 apply Oq;intro j;unfold uQ;rw[Jr,Nm]
 by_cases h:j<4096
 ·rw[Oh h,if_pos h];rfl
 ·rw[Of (by simpa using h),if_neg h];rfl
theorem nu:uQ 4096=iu:=Up fun j hj=>if_pos (Ol.1 hj)
theorem kC(h:k<4096):(uQ k).set k (rp k)=uQ (k+1):=by
 apply Oq;intro j;rw[Ov,pM];unfold uQ;rw[Jr,Jr]
 by_cases e:k=j
 ·subst e;rw[if_pos rfl,if_pos h,Oh h]
  show some _=some (if k<k+1 then rp k else 0)
  rw[if_pos Zo]
 ·rw[if_neg e]
  by_cases c:j<4096
  ·rw[Oh c]
   show some (if j<k then rp j else 0)=some (if j<k+1 then rp j else 0)
   by_cases h2:j<k
   ·rw[if_pos h2,if_pos Zo]
   ·rw[if_neg h2,if_neg Zo]
  ·rw[Of (by simpa using c)];rfl
theorem ll (n:Nat):(((List.range n).map rp).map fun(n:Nat)=>(n:Int)).map (fun n=>UInt8.ofNat n.toNat)=(List.range n).map fun k=>UInt8.ofNat (k*k+k/256):=by
 rw[List.map_map,List.map_map];apply Up;intro k hk
 show UInt8.ofNat (((rp k:Nat):Int).toNat)=_
 rw[Ni];unfold rp;apply UInt8.toNat_inj.1;simp
theorem mq:y9 iu=sG:=congrArg (fun l:List UInt8=>(⟨l.toArray⟩:ByteArray)) (ll 4096)
def jx (blocks:List IBlk):Prop:=∀b∈blocks,(∀o∈b.ops,o.args.length<=2000000)/\∀e∈b.term.to,e.args.length<=2000000
structure SmallP (p:IProg):Prop where
 fn:p.funcs.length<=2000000/\∀f∈p.funcs,vZ f/\jx f
 ar:p.args.length<=2000000
 da:p.data.length<=2000000
 ba:p.banks.length<=2000000
theorem jm {E:ME}(c:∀x∈E.args,0<=x/\x<4)(pos:Nat):(xR E pos).sz<=pos+2869:=by
 have h1:=(rx c pos).sz;have h2:=sQ c pos;omega
theorem qJ (s:List Int):∀(n k:Nat),k<n->(zg s n).1[k]? =some (xR (xC s k) (zg s k).2).f
 |n+1,k,h=>by
  show((zg s n).1++ [_])[k]? =_
  by_cases hk:k<n
  ·rw[Np (by rw[yx];exact hk)];exact qJ s n k hk
  ·have e:k=n:=Zo;subst e;rw[Nc (by rw[yx];exact Je _),yx,Qy];rfl
theorem qA (s:List Int):(uR s).funcs.length=mdN s:=by
 unfold uR;simp only
 split
 ·rw[Nd,yx]
 ·exact yx s _
theorem kz(s:List Int)(hk:k<mdN s):(uR s).funcs[k]? =some []/\qV s=true/\k=mdN s-1∨(uR s).funcs[k]? =some (xR (xC s k) (zg s k).2).f:=by
 have h:=qJ s (mdN s) k hk;unfold uR;simp only
 split
 ·rename_i c
  by_cases e:k=mdN s-1
  ·left;subst e;exact⟨Nn (by rw[yx];exact hk),c,rfl⟩
  ·right;rw[Ns (fun e2=>e e2.symm)];exact h
 ·exact .inr h
theorem lz (s:List Int)(k:Nat)(hk:k<mdN s):(xR (xC s k) (zg s k).2).sz<=15000:=by
 have h1:=tU s k;have h2:=jm (E:=xC s k) (xy s _) (zg s k).2;have:=sm s;omega
structure SmB (N:Nat) (b:IBlk):Prop where
 par:b.params.length<=N
 ops:b.ops.length<=N
 tos:b.term.to.length<=N
 oarg:∀o∈b.ops,o.args.length<=N
 earg:∀e∈b.term.to,e.args.length<=N
structure SmP (N:Nat) (p:IProg):Prop where
 fn:p.funcs.length<=N
 fs:∀f∈p.funcs,f.length<=N/\∀b∈f,SmB N b
 ar:p.args.length<=N
 da:p.data.length<=N
 ba:p.banks.length<=N
theorem SmB.mono {N M:Nat}(c:N<=M){b:IBlk}(h:SmB N b):SmB M b:=⟨by have:=h.par;omega,by have:=h.ops;omega,by have:=h.tos;omega,fun o ho=>by have:=h.oarg o ho;omega,fun o ho=>by have:=h.earg o ho;omega⟩
theorem SmP.mono {N M:Nat}(c:N<=M){p:IProg}(h:SmP N p):SmP M p:=
 ⟨by have:=h.fn;omega,fun f hf=>⟨by have:=(h.fs f hf).1;omega,fun b hb=>((h.fs f hf).2 b hb).mono c⟩,by have:=h.ar;omega,by have:=h.da;omega,by have:=h.ba;omega⟩
theorem SmP.small {N:Nat}{p:IProg}(h:SmP N p)(c:N<=2000000):SmallP p:=by
 have h:=h.mono c;exact⟨⟨h.fn,fun f hf=>⟨⟨(h.fs f hf).1,fun b hb=>⟨((h.fs f hf).2 b hb).par,((h.fs f hf).2 b hb).ops,((h.fs f hf).2 b hb).tos⟩⟩,fun b hb=>⟨((h.fs f hf).2 b hb).oarg,((h.fs f hf).2 b hb).earg⟩⟩⟩,h.ar,h.da,h.ba⟩
theorem SmP.sized {N:Nat}{p:IProg}(h:SmP N p)(c:N<=65536):mW p:=fun f hf=>
 ⟨(((h.mono (show N<=2000000 by omega)).small (Je _)).fn.2 f hf).1,fun b hb=>by have:=((h.fs f hf).2 b hb).par;omega⟩
theorem acZ {f:List IBlk}{b:IBlk}(h:b∈f):b.ops.length<=opsN f:=by
 unfold opsN
 induction f with
 |nil=>cases h
 |cons x f ih=>
  rw[Ql,List.sum_cons];rcases Jq.1 h with rfl|h
  ·omega
  ·have:=ih h;omega
theorem yb{α:Type}{P:α->Prop}{l:List α}{g:α->α}(h:∀x∈l,P x)(hg:∀x∈l,P (g x)):∀x∈wD l i g,P x:=by
 unfold wD
 split
 ·rename_i y d
  intro x c;rcases Qe c with c|rfl
  ·exact h x c
  ·exact hg y (Ji d)
 ·exact h
end Go.Proofs.Ytojclalkfhoooaa
