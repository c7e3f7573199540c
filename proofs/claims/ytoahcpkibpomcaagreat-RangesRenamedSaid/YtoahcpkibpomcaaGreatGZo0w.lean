/- Part of a proof. -/
import Derived.Test.YtoahcpkibpomcaaGreatGZwiw
set_option linter.all false
namespace Go.Proofs.YtoahcpkibpomcaaGreat
variable {c d i j:Nat}{f' l:List IBlk}{k k':Int}{b':IBlk}{P':Nat->Prop}
structure ME where
 s:List Int
 args:List Int
 handler:Int
 me:Nat
 nf:Nat
structure MS where
 pos:Nat
 f:List IBlk
 cur:Nat
 next:Nat
 vals:List Int
 left:Int
def tkV (E:ME)(M:MS)(n:Nat):Nat:=(E.s.getD M.pos 0%(n:Int)).toNat
def MS.tick (M:MS):MS:= {M with pos:=M.pos+1 }
def wJ (next params:Nat):IBlk:=⟨(List.range params).map fun k=>((next+k:Nat):Int),[],⟨0,0,[]⟩⟩
def MS.block (M:MS)(params:Nat):MS:= {M with f:=M.f++ [wJ M.next params],next:=M.next+params }
def uc (c:Int):Bool:=(zi c).res||decide (c=26)
def afe {α:Type}(l:List α)(i:Nat)(g:α->α):List α:=match l[i]? with|some x=>l.set i (g x)|none=>l
def eg (M:MS)(o:IOp):IOp:= {o with res:=if uc o.code then(M.next:Int) else -1 }
def MS.emit (M:MS)(o:IOp):MS:=
 {M with f:=afe M.f M.cur fun b=> {b with ops:=b.ops++ [eg M o]},next:=if uc o.code then M.next+1 else M.next,vals:=if uc o.code then M.vals++ [(M.next:Int)] else M.vals }
def MS.endB (M:MS)(t:ITerm):MS:= {M with f:=afe M.f M.cur fun b=> {b with term:=t }}
def conOp (n:Nat):IOp:=⟨1,0,0,0,n,[]⟩
def MS.num (M:MS)(n:Nat):MS:=M.emit (conOp n)
def zJ (E:ME)(M:MS):Int×MS:=
 if M.vals.length=0 then((M.next:Int),M.tick.num (tkV E M 9))
 else if 0<tkV E M.tick 3 then(M.vals.getD (M.vals.length-1-tkV E M.tick.tick (min 4 M.vals.length)) 0,M.tick.tick.tick)
 else(M.vals.getD (tkV E M M.vals.length) 0,M.tick.tick)
def sE (k:Nat):Nat:=if k=0 then 15 else 6
def yJ (E:ME)(M:MS):Int×MS:=
 if tkV E M 24=23 then zJ E M.tick
 else((M.next:Int),M.tick.tick.tick.emit ⟨2,0,(tkV E M.tick 2:Nat),0,tkV E M.tick.tick (sE (tkV E M.tick 2)),[]⟩)
def yI (E:ME):Nat->MS->List Int×MS
 |0,M=>([],M)
 |n+1,M=>((yI E n M).1++ [(zJ E (yI E n M).2).1],(zJ E (yI E n M).2).2)
def vN (E:ME)(M:MS):MS:=
 if E.nf<=E.me+1 then M
 else
  let f:=E.me+1+tkV E M (E.nf-E.me-1)
  if(f:Int)=E.handler then M.tick
  else(yI E (E.args.getD f 0).toNat M.tick).2.emit ⟨26,0,(f:Nat),0,0,(yI E (E.args.getD f 0).toNat M.tick).1⟩
def yR (E:ME)(M:MS):MS:=
 let a:=zJ E M
 let b:=zJ E a.2
 let c:Nat:=5+tkV E b.2 13
 let M3:=b.2.tick
 if c=8 then
  (if 0<tkV E M3 8 then
    ((M3.tick.num 1).emit ⟨10,0,b.1,(M3.next:Nat),0,[]⟩).emit ⟨8,0,a.1,((M3.next+1:Nat):Int),0,[]⟩
  else M3.tick.emit ⟨8,0,a.1,b.1,0,[]⟩)
 else M3.emit ⟨(c:Nat),0,a.1,b.1,0,[]⟩
def xK (E:ME)(M0:MS):MS:=
 let k:=tkV E M0 14
 let M:=M0.tick
 if k=0 then M.tick.num (tkV E M 65536)
 else if k=1 then(zJ E M.tick).2.emit ⟨3+tkV E M 2,0,(zJ E M.tick).1,0,0,[]⟩
 else if k=2∨k=3 then(yJ E M).2.tick.emit ⟨18+tkV E (yJ E M).2 2,0,(yJ E M).1,0,0,[]⟩
 else if k=4∨k=5 then
  let b:=zJ E (yJ E M).2
  b.2.tick.emit ⟨20+tkV E b.2 2,0,(yJ E M).1,b.1,0,[]⟩
 else if k=6 then M.tick.emit ⟨24,0,0,0,1+tkV E M 3,[]⟩
 else if k=7 then(zJ E M).2.tick.emit ⟨25,0,(zJ E M).1,0,1+tkV E (zJ E M).2 3,[]⟩
 else if k=8 then(M.tick.num (tkV E M 4096)).tick.emit ⟨22+tkV E (M.tick.num (tkV E M 4096)) 2,0,(M.next:Nat),0,0,[]⟩
 else if k=9 then vN E M
 else if k=10 then(if tkV E M 3=0 then M.tick.emit ⟨27,0,0,0,0,[]⟩ else M.tick)
 else yR E M
def qY (E:ME):Nat->MS->MS
 |0,M=>M
 |n+1,M=>qY E n (xK E M)
def xE:Nat->MS->MS
 |0,M=>M
 |n+1,M=>(xE n M).block 0
def uV (E:ME)(part:MS->MS)(tg:Nat)(join keep:Nat):Nat->Nat->MS->MS
 |0,_,M=>M
 |n+1,k,M0=>
  let M1:=part {M0 with cur:=tg+k }
  let v:=zJ E M1.tick
  let M3:=if tkV E M1 12=11/\0<k then v.2.endB ⟨4,v.1,[]⟩ else v.2.endB ⟨1,0,[⟨(join:Nat),[v.1]⟩]⟩
  uV E part tg join keep n (k+1) {M3 with vals:=M3.vals.take keep }
def xk (tg n:Nat):List IEdge:=(List.range n).map fun k=>⟨((tg+k:Nat):Int),[]⟩
def xi (E:ME)(part:MS->MS)(n:Nat)(M:MS):MS:=
 let c:=zJ E M
 let tg:=c.2.f.length
 let M2:=(xE n c.2).block 1
 let join:=tg+n
 let M3:=M2.endB ⟨if 2<n then 3 else 2,c.1,xk tg n⟩
 let M4:=uV E part tg join M3.vals.length n 0 M3
 {M4 with cur:=join,vals:=M4.vals++ [(((M4.f.getD join ⟨[],[],⟨0,0,[]⟩⟩).params).getD 0 0)]}
def tH (E:ME)(part:MS->MS)(M:MS):MS:=
 let n:=(M.next:Int)
 let x:=zJ E (M.tick.num (tkV E M 5))
 let head:=x.2.f.length
 let i:Int:=(x.2.next:Nat)
 let j:Int:=((x.2.next+1:Nat):Int)
 let M2:=(((x.2.block 2).block 0).block 0).endB ⟨1,0,[⟨(head:Nat),[n,x.1]⟩]⟩
 let M3:=({M2 with cur:=head,vals:=M2.vals++ [j]}:MS).endB ⟨2,i,[⟨((head+1:Nat):Int),[]⟩,⟨((head+2:Nat):Int),[]⟩]⟩
 let M4:=part {M3 with cur:=head+1 }
 let M5:=(M4.num 1).emit ⟨6,0,i,(M4.next:Nat),0,[]⟩
 let y:=zJ E M5
 let M6:=y.2.endB ⟨1,0,[⟨(head:Nat),[((M4.next+1:Nat):Int),y.1]⟩]⟩
 {M6 with vals:=M6.vals.take M3.vals.length,cur:=head+2 }
def tR (E:ME)(M:MS):MS:=
 let M1:=qY E (tkV E M 5+1) M.tick
 {M1 with left:=M1.left-1 }
def zp (E:ME):Nat->MS->MS
 |0,M=>tR E M
 |d+1,M=>
  let M2:=tR E M
  if M2.left<1 then M2
  else
   let k:=tkV E M2 5
   if k=1∨k=2 then xi E (zp E d) 2 M2.tick
   else if k=3 then tH E (zp E d) M2.tick
   else if k=4 then xi E (zp E d) (2+tkV E M2.tick 3) M2.tick.tick
   else M2.tick
def xD (E:ME)(pos:Nat):MS:=
 let M0:MS:=⟨pos,[],0,0,[],6⟩
 let M1:MS:=({M0.tick with next:=tkV E M0 3*10 }:MS).block (E.args.getD E.me 0).toNat
 {M1 with vals:=(wJ (tkV E M0 3*10) (E.args.getD E.me 0).toNat).params }
def xR (E:ME)(pos:Nat):MS:=
 let M1:=zp E 1 (zp E 2 (xD E pos))
 let k:=tkV E M1 10
 if k=0 then M1.tick.endB ⟨5,0,[]⟩
 else if k=1 then M1.tick.endB ⟨4,-1,[]⟩
 else(zJ E M1.tick).2.endB ⟨4,(zJ E M1.tick).1,[]⟩
def tk0 (s:List Int)(pos n:Nat):Nat:=(s.getD pos 0%(n:Int)).toNat
def mdN (s:List Int):Nat:=1+tk0 s 0 4
def yS (s:List Int):Nat->List Int
 |0=> []
 |n+1=>yS s n++ [if n=0 then 0 else((tk0 s n 4:Nat):Int)]
def oJ (s:List Int):Bool:=decide (1<mdN s) && decide ((yS s (mdN s)).getD (mdN s-1) 0=0)
def vw (s:List Int):Int:=if oJ s=true/\tk0 s (mdN s) 2=0 then((mdN s-1:Nat):Int) else -1
def sP (s:List Int):Nat:=if oJ s then mdN s+1 else mdN s
def xC (s:List Int)(k:Nat):ME:=⟨s,yS s (mdN s),vw s,k,mdN s⟩
def zg (s:List Int):Nat->List (List IBlk)×Nat
 |0=>([],sP s)
 |n+1=>((zg s n).1++ [(xR (xC s n) (zg s n).2).f],(xR (xC s n) (zg s n).2).pos)
def qV (s:List Int):Bool:=decide (2<mdN s) && (decide (vw s<0) && decide (tk0 s (zg s (mdN s)).2 12=11))
def sG:ByteArray:=⟨((List.range 4096).map fun k=>UInt8.ofNat (k*k+k/256)).toArray⟩
def am:List IObj:=[⟨-1,16384,16⟩,⟨-1,16640,7⟩,⟨0,128,32⟩]
def uR (s:List Int):IProg:=
 ⟨if qV s then(zg s (mdN s)).1.set (mdN s-1) [] else(zg s (mdN s)).1,yS s (mdN s),0,vw s,am,[sG]⟩
def opsN (l:List IBlk):Nat:=(l.map fun b=>b.ops.length).sum
def MS.sz (M:MS):Nat:=M.pos+M.next+M.f.length+M.vals.length+opsN M.f
variable {M M1:MS}
theorem xZ {α:Type}(l:List α)(i:Nat)(g:α->α):(afe l i g).length=l.length:=by unfold afe;split<;>simp
theorem xI{α:Type}{l:List α}{x:α}(h:l[i]? =some x)(g:α->α):afe l i g=l.set i (g x):=by unfold afe;rw[h]
def xU (l m:List IBlk):Prop:=∀(i:Nat) (b:IBlk),l[i]? =some b->∃b',m[i]? =some b'/\b'.params=b.params
theorem xU.refl (l:List IBlk):xU l l:=fun _ b h=>⟨b,h,rfl⟩
theorem xU.trans{m n:List IBlk}(h:xU l m)(k:xU m n):xU l n:=fun i b hb=>by
 obtain⟨b1,h1,h2⟩:=h i b hb;obtain⟨b2,h3,c⟩:=k i b1 h1;exact⟨b2,h3,c.trans h2⟩
theorem qB (l:List IBlk)(c:Nat)(g:IBlk->IBlk)(hg:∀b,(g b).params=b.params):xU l (afe l c g):=fun i b hb=>by
 cases h:l[c]? with
 |none=>unfold afe;rw[h];exact⟨b,hb,rfl⟩
 |some x=>
  rw[xI h,Ov]
  by_cases e:c=i
  ·subst e;rw[h] at hb;cases hb;rw[if_pos rfl,if_pos (Jh.1 h).1];exact⟨_,rfl,hg b⟩
  ·rw[if_neg e];exact⟨b,hb,rfl⟩
theorem qX (l m:List IBlk):xU l (l++m):=fun i b hb=>⟨b,by rw[Np (Jh.1 hb).1];exact hb,rfl⟩
theorem ry (l m:List IBlk):opsN (l++m)=opsN l+opsN m:=by unfold opsN;rw[Js,List.sum_append]
theorem sN:∀(l:List IBlk) (i:Nat) (b c:IBlk),l[i]? =some b->opsN (l.set i c)+b.ops.length=opsN l+c.ops.length
 | [],i,b,c,h=>by simp at h
 |x::l,0,b,c,h=>by
  cases h
  show((c::l).map _).sum+_=((x::l).map _).sum+_
  rw[Ql,Ql,List.sum_cons,List.sum_cons]
  omega
 |x::l,i+1,b,c,h=>by
  have:=sN l i b c (by simpa using h)
  show((x::l.set i c).map _).sum+_=((x::l).map _).sum+_
  unfold opsN at this;rw[Ql,Ql,List.sum_cons,List.sum_cons];omega
theorem opsN_le{b:IBlk}(h:l[i]? =some b):b.ops.length<=opsN l:=by
 have:=sN l i b ⟨[],[],⟨0,0,[]⟩⟩ h;simp at this;omega
theorem pG (l:List IBlk)(i:Nat)(g:IBlk->IBlk)(c:Nat)(hg:∀b,(g b).ops.length<=b.ops.length+c):opsN (afe l i g)<=opsN l+c:=by
 cases h:l[i]? with
 |none=>unfold afe;rw[h];exact Nat.le_add_right _ _
 |some b=>
  rw[xI h];have:=sN l i b (g b) h;have:=hg b;omega
structure Grow (c:Nat) (M M':MS):Prop where
 left:M'.left=M.left
 pos:M.pos<=M'.pos
 sz:M'.sz<=M.sz+c
 cur:M'.cur=M.cur
 len:M'.f.length=M.f.length
 nxt:M.next<=M'.next
 pre:M.vals<+:M'.vals
 par:xU M.f M'.f
theorem Grow.refl (M:MS):Grow 0 M M:=⟨rfl,Je _,Je _,rfl,rfl,Je _,Od,xU.refl _⟩
theorem Grow.trans{M2:MS}(h:Grow c M M1)(k:Grow d M1 M2):Grow (c+d) M M2:=⟨k.left.trans h.left,Jn h.pos k.pos,by have:=h.sz;have:=k.sz;omega,k.cur.trans h.cur,k.len.trans h.len,Jn h.nxt k.nxt,h.pre.trans k.pre,h.par.trans k.par⟩
theorem Grow.mono(h:Grow c M M1)(g:c<=d):Grow d M M1:=⟨h.left,h.pos,by have:=h.sz;omega,h.cur,h.len,h.nxt,h.pre,h.par⟩
theorem zT (M:MS):Grow 1 M M.tick:=⟨rfl,Nat.le_succ _,by unfold MS.sz MS.tick;simp only;omega,rfl,rfl,Je _,Od,xU.refl _⟩
theorem yB (M:MS)(o:IOp):Grow 3 M (M.emit o):=by
 have h:=pG M.f M.cur (fun b=> {b with ops:=b.ops++ [eg M o]}) 1 (fun b=>by simp);refine⟨rfl,Je _,?_,rfl,xZ _ _ _,?_,?_,qB _ _ _ (fun _=>rfl)⟩
 ·unfold MS.sz MS.emit;simp only[xZ]
  split
  ·simp only[Jk,Ju];omega
  ·omega
 ·unfold MS.emit;simp only;split<;>omega
 ·unfold MS.emit;simp only;split
  ·exact Qb _ _
  ·exact Od
theorem wT (M:MS)(n:Nat):Grow 3 M (M.num n):=yB _ _
theorem zv (M:MS)(t:ITerm):Grow 0 M (M.endB t):=by
 have h:=pG M.f M.cur (fun b=> {b with term:=t }) 0 (fun b=>Je _);refine⟨rfl,Je _,?_,rfl,xZ _ _ _,Je _,Od,qB _ _ _ (fun _=>rfl)⟩;unfold MS.sz MS.endB;simp only[xZ];omega
theorem yU (E:ME)(M:MS):Grow 4 M (zJ E M).2:=by
 unfold zJ
 split
 ·exact(zT M).trans (wT _ _)
 split
 ·exact(((zT M).trans (zT _)).trans (zT _)).mono Zo
 ·exact((zT M).trans (zT _)).mono Zo
theorem ue (E:ME)(M:MS):Grow 6 M (yJ E M).2:=by
 unfold yJ
 split
 ·exact((zT M).trans (yU E _)).mono Zo
 ·exact(((zT M).trans (zT _)).trans (zT _)).trans (yB _ _)
theorem tj (E:ME):∀(n:Nat) (M:MS),Grow (4*n) M (yI E n M).2
 |0,M=>Grow.refl M
 |n+1,M=>((tj E n M).trans (yU E _)).mono Zo
theorem sI (E:ME)(d:∀x∈E.args,0<=x/\x<4)(M:MS):Grow 16 M (vN E M):=by
 unfold vN
 split
 ·exact(Grow.refl M).mono Zo
 simp only
 split
 ·exact(zT M).mono Zo
 ·have h:∀f,(E.args.getD f 0).toNat<=3:=fun f=>by
   rw[Jj]
   cases c:E.args[f]? with
   |none=>simp
   |some x=>have:=d x (Ji c);simp only[Ot];omega
  have:=h (E.me+1+tkV E M (E.nf-E.me-1));exact(((zT M).trans (tj E _ _)).trans (yB _ _)).mono Zo
theorem kJ (E:ME)(M:MS):Grow 19 M (yR E M):=by
 unfold yR;simp only;have h:=((yU E M).trans (yU E _)).trans (zT _)
 split
 ·split
  ·exact((((h.trans (zT _)).trans (wT _ _)).trans (yB _ _)).trans (yB _ _)).mono Zo
  ·exact((h.trans (zT _)).trans (yB _ _)).mono Zo
 ·exact(h.trans (yB _ _)).mono Zo
theorem pX (E:ME)(c:∀x∈E.args,0<=x/\x<4)(M:MS):Grow 20 M (xK E M):=by
 unfold xK;simp only;have h:=zT M
 split
 ·exact((h.trans (zT _)).trans (wT _ _)).mono Zo
 split
 ·exact(((h.trans (zT _)).trans (yU E _)).trans (yB _ _)).mono Zo
 split
 ·exact(((h.trans (ue E _)).trans (zT _)).trans (yB _ _)).mono Zo
 split
 ·exact((((h.trans (ue E _)).trans (yU E _)).trans (zT _)).trans (yB _ _)).mono Zo
 split
 ·exact((h.trans (zT _)).trans (yB _ _)).mono Zo
 split
 ·exact(((h.trans (yU E _)).trans (zT _)).trans (yB _ _)).mono Zo
 split
 ·exact((((h.trans (zT _)).trans (wT _ _)).trans (zT _)).trans (yB _ _)).mono Zo
 split
 ·exact(h.trans (sI E c _)).mono Zo
 split
 ·split
  ·exact((h.trans (zT _)).trans (yB _ _)).mono Zo
  ·exact(h.trans (zT _)).mono Zo
 ·exact(h.trans (kJ E _)).mono Zo
theorem pw (E:ME)(hE:∀x∈E.args,0<=x/\x<4):∀(n:Nat) (M:MS),Grow (20*n) M (qY E n M)
 |0,M=>Grow.refl M
 |n+1,M=>((pX E hE M).trans (pw E hE n _)).mono Zo
theorem aaE (E:ME)(M:MS){n:Nat}(c:0<n):tkV E M n<n:=by
 unfold tkV;have h1:=Ob (E.s.getD M.pos 0) (show(n:Int)≠0 by omega);have h2:=Int.emod_lt_of_pos (E.s.getD M.pos 0) (show(0:Int)<n by omega);omega
theorem bT (n p:Nat):opsN [wJ n p]=0:=rfl
theorem sz_block (M:MS)(p:Nat):(M.block p).sz=M.sz+1+p:=by
 unfold MS.sz MS.block;simp only[Jk,Ju,ry,bT];omega
open Go.RowKit
def aav {α:Type}:List α->Nat->List α->List α
 |xs,_,[]=>xs
 |xs,o,v::vs=>aav (xs.set o v) (o+1) vs
theorem mV {α:Type}:∀(vs:List α) (xs:List α) (o:Nat),(aav xs o vs).length=xs.length
 | [],xs,o=>rfl
 |v::vs,xs,o=>(mV vs _ _).trans Zs
theorem ag7 {α:Type}(m:Nat):∀(vs:List α) (xs:List α) (o:Nat),(aav xs o vs).take m=aav (xs.take m) o vs
 | [],xs,o=>rfl
 |v::vs,xs,o=>(ag7 m vs _ _).trans (by rw[List.take_set];rfl)
theorem fV {α:Type}:∀(vs p q r:List α),q.length=vs.length->aav (p++(q++r)) p.length vs=p++(vs++r)
 | [],p,[],r,_=>rfl
 |v::vs,p,x::q,r,h=>by
  have e:(p++(x::q++r)).set p.length v=(p++ [v])++(q++r):=by
   rw[Uj _ _ (Je _)];simp
  show aav ((p++(x::q++r)).set p.length v) (p.length+1) vs=_
  rw[e];have:=fV vs (p++ [v]) q r (by simpa using h);rw[Jk,Ju] at this;rw[this]
  simp
 | [],p,x::q,r,h=>by simp at h
 |v::vs,p,[],r,h=>by simp at h
theorem js {α:Type}(f:α->List Value)(n:Nat)(hf:∀a,(f a).length=n)(l:List α)(k:Nat)(b a:α)(hk:l[k]? =some b):aav (l.flatMap f) (k*n) (f a)=(l.set k a).flatMap f:=by
 have c:=(Jh.1 hk).1;have hb:l[k]=b:=(Jh.1 hk).2
 have e1:l=l.take k++b::l.drop (k+1):=by
  rw[<-hb,Ue,Qi]
 have hl:(l.take k).length=k:=by simp;omega
 have e2:l.set k a=l.take k++a::l.drop (k+1):=by
  rw[List.set_eq_take_append_cons_drop,if_pos c]
 rw[e2]
 have e3:l.flatMap f=(l.take k).flatMap f++(f b++(l.drop (k+1)).flatMap f):=by
  conv=>lhs;rw[e1]
  rw[Nx,Qa]
 have d:((l.take k).flatMap f).length=k*n:=by rw[wq f n hf,hl]
 rw[e3,Nx,Qa,<-d];exact fV _ _ _ _ (by rw[hf,hf])
theorem th (b:Nat)(t:TypeId):∀(vs:List Value) (o:Nat) (w:World) (cur:Array Value),O w b cur t->O (w.setCells b o vs) b (aav cur.toList o vs).toArray t
 | [],o,w,cur,h=>by simpa[aav,World.setCells] using h
 |v::vs,o,w,cur,h=>by
  have:=th b t vs (o+1) (w.setCell ⟨b,o,none⟩ v) _ (zD h v);rw[Array.toList_setIfInBounds] at this;exact this
theorem ye (b k:Nat)(hne:k≠b):∀(vs:List Value) (o:Nat) (w:World),(w.setCells b o vs).heap[k]? =w.heap[k]?
 | [],o,w=>rfl
 |v::vs,o,w=>(ye b k hne vs (o+1) _).trans (Below.heap_setCell _ _ _ _ (by simpa using hne))
theorem y8 (b:Nat):∀(vs:List Value) (o:Nat) (w:World),(w.setCells b o vs).heap.size=w.heap.size
 | [],_,_=>rfl
 |v::vs,o,w=>(y8 b vs (o+1) _).trans Zs
theorem ze (b:Nat):∀(vs:List Value) (o:Nat) (w:World),(w.setCells b o vs).os=w.os/\(w.setCells b o vs).tape=w.tape/\(w.setCells b o vs).output=w.output
 | [],_,_=>⟨rfl,rfl,rfl⟩
 |v::vs,o,w=>ze b vs (o+1) _
section
variable {α:Type} {f:α->List Value} {n:Nat} {w:World} {base g:Nat} {e:TypeId} {v:Value} {l:List α} {k:Nat} {b:α}
theorem uZ (hf:∀a,(f a).length=n)(h:w.ownsRow base e n v l.length (l.flatMap f))(hg:v.ownBlock=some g)(hk:l[k]? =some b)(a:α):(w.setCells g (k*n) (f a)).ownsRow base e n v l.length ((l.set k a).flatMap f):=by
 refine⟨by rw[wq f n hf,Nd],?_⟩;rcases h.2 with⟨rfl,_⟩|⟨g',c,cur,rfl,h1,h2,h3,j,i,d⟩
 ·simp[Value.ownBlock] at hg
 ·simp[Value.ownBlock] at hg;subst hg;refine .inr ⟨g',c,_,rfl,h1,th _ _ _ _ _ _ h2,h3,j,?_,?_⟩
  ·rw[List.size_toArray,mV];simpa using i
  ·rw[ag7,d];exact js f n hf l k b a hk
end
def fB (f:List IBlk)(v:Int)(i:Nat)(k:Int):Prop:=
 ∃b,f[i]? =some b/\((k=-1/\v∈b.params)∨∃(j:Nat) (o:IOp),k=(j:Int)/\b.ops[j]? =some o/\o.res=v/\0<=v)
def i6 (f f':List IBlk):Prop:=
 ∀(i:Nat) (b:IBlk),f[i]? =some b->∃b',f'[i]? =some b'/\b'.params=b.params/\b.ops<+:b'.ops/\(b.term.to=[]∨b'.term=b.term)
theorem i6.refl (f:List IBlk):i6 f f:=fun i b h=>⟨b,h,rfl,Od,.inr rfl⟩
theorem aaS{α:Type}{l m:List α}(h:l<+:m){x:α}(c:l[j]? =some x):m[j]? =some x:=by
 obtain⟨t,rfl⟩:=h;rw[Np (Jh.1 c).1];exact c
theorem fB.ext{f:List IBlk}(d:i6 f f'){v:Int}(h:fB f v i k):fB f' v i k:=by
 obtain⟨b,hb,l⟩:=h;obtain⟨b',c,hp,ho,_⟩:=d i b hb;refine⟨b',c,?_⟩;rcases l with⟨rfl,hv⟩|⟨j,o,rfl,g,hr,m⟩
 ·exact .inl ⟨rfl,by rw[hp];exact hv⟩
 ·exact .inr ⟨j,o,rfl,aaS ho g,hr,m⟩
inductive Abv (pl:List Nat):Nat->Nat->Prop
 |refl (i:Nat):Abv pl i i
 |up {b i u:Nat}:pl[i]? =some u->0<i->Abv pl b u->Abv pl b i
theorem Abv.ext{pl c:List Nat}(hp:pl<+:c){b:Nat}(h:Abv pl b i):Abv c b i:=by
 induction h with
 |refl=>exact .refl _
 |up h0 h1 _ ih=>exact .up (aaS hp h0) h1 ih
theorem Abv.trans{pl:List Nat}{a b:Nat}(h:Abv pl a b)(k:Abv pl b c):Abv pl a c:=by
 induction k with
 |refl=>exact h
 |up h0 h1 _ ih=>exact .up h0 h1 ih
theorem Abv.le{pl:List Nat}(hp:∀i u,pl[i]? =some u->0<i->u<i){b:Nat}(h:Abv pl b i):b<=i:=by
 induction h with
 |refl=>exact Je _
 |up h0 h1 _ ih=>have:=hp _ _ h0 h1;omega
def Kn (f:List IBlk)(pl:List Nat)(v:Int)(i:Nat)(k:Int):Prop:=∃(b:Nat) (a:Int),fB f v b a/\Abv pl b i/\(b=i->a<k)
theorem Kn.ext{f:List IBlk}{pl c:List Nat}(d:i6 f f')(hp:pl<+:c){v:Int}(hk:k<=k')(h:Kn f pl v i k):Kn f' c v i k':=by
 obtain⟨b,a,h1,h2,h3⟩:=h;exact⟨b,a,h1.ext d,h2.ext hp,fun e=>by have:=h3 e;omega⟩
def gB (f:List IBlk)(pl:List Nat)(i:Nat)(e:IEdge):Prop:=
 ∃(s u:Nat) (bs:IBlk),e.block=(s:Int)/\0<s/\f[s]? =some bs/\e.args.length=bs.params.length/\pl[s]? =some u/\Abv pl u i
theorem gB.ext{f:List IBlk}{pl c:List Nat}(j:i6 f f')(hp:pl<+:c){e:IEdge}(h:gB f pl i e):gB f' c i e:=by
 obtain⟨s,u,bs,h1,h2,h3,m,l,k⟩:=h;obtain⟨b',g,d,_⟩:=j s bs h3;exact⟨s,u,b',h1,h2,g,by rw[d];exact m,aaS hp l,k.ext hp⟩
def gR (t:ITerm):Bool:=
 if t.kind=1 then decide (t.to.length=1) && decide (t.a=0)
 else if t.kind=2 then decide (t.to.length=2)
 else if t.kind=3 then decide (1<=t.to.length)
 else if t.kind=4 then decide (t.to.length=0)
 else if t.kind=5 then decide (t.to.length=0) && decide (t.a=0)
 else false
def fQ (f:List IBlk)(pl:List Nat)(i:Nat)(b:IBlk):Prop:=
 gR b.term=true/\(∀e∈b.term.to,gB f pl i e)/\∀v∈mE b.term,Kn f pl v i b.ops.length
theorem fQ.ext{f:List IBlk}{pl c:List Nat}(d:i6 f f')(hp:pl<+:c){b:IBlk}(h:fQ f pl i b):fQ f' c i b:=
 ⟨h.1,fun e he=>(h.2.1 e he).ext d hp,fun v hv=>(h.2.2 v hv).ext d hp (Og _)⟩
inductive Rch (f:List IBlk):Nat->Prop
 |zero:Rch f 0
 |step {u s:Nat} {b:IBlk} {e:IEdge}:Rch f u->f[u]? =some b->e∈b.term.to->e.block=(s:Int)->Rch f s
theorem Rch.ext{f:List IBlk}(d:i6 f f')(h:Rch f i):Rch f' i:=by
 induction h with
 |zero=>exact .zero
 |step _ h2 h3 h4 ih=>
  obtain⟨b',c,_,_,ht⟩:=d _ _ h2;rcases ht with ht|ht
  ·rw[ht] at h3;cases h3
  ·exact .step ih c (by rw[ht];exact h3) h4
def abo (l:List IOp):List Int:=(l.filter fun o=>decide (0<=o.res)).map (·.res)
def abu (b:IBlk):List Int:=b.params++abo b.ops
def aaI (f:List IBlk):List Int:=f.flatMap abu
theorem eY{f:List IBlk}{b:IBlk}(hb:f[c]? =some b)(b':IBlk):f=f.take c++b::f.drop (c+1)/\f.set c b'=f.take c++b'::f.drop (c+1):=by
 obtain⟨d,g⟩:=Jh.1 hb;refine⟨by rw[<-g,Ue,Qi],?_⟩;rw[List.set_eq_take_append_cons_drop,if_pos d]
theorem fF{f:List IBlk}{b:IBlk}(hb:f[c]? =some b){x:List Int}(d:abu b'=abu b++x):(aaI (f.set c b')).Perm (x++aaI f):=by
 obtain⟨h1,h2⟩:=eY hb b';unfold aaI;rw[h2]
 conv=>rhs;rw[h1]
 rw[Nx,Qa,Nx,Qa,d]
 classical
 refine Jp.2 fun y=>?_
 simp only[Nb];omega
theorem fK (l m:List IOp):abo (l++m)=abo l++abo m:=by unfold abo;rw[List.filter_append,Js]
structure MInv (p:IProg) (f:List IBlk) (cur next:Nat) (vals:List Int) (O P:Nat->Prop) (pl:List Nat):Prop where
 len:pl.length=f.length
 curl:cur<f.length
 par:∀i u,pl[i]? =some u->0<i->u<i
 ops:∀(i:Nat) (b:IBlk),f[i]? =some b->∀(j:Nat) (o:IOp),b.ops[j]? =some o->opF p o=true/\∀v∈rR o,Kn f pl v i j
 term:∀(i:Nat) (b:IBlk),f[i]? =some b->¬O i->fQ f pl i b
 opn:∀(i:Nat) (b:IBlk),f[i]? =some b->O i->b.term.to=[]
 lt:∀i,O i->i<f.length
 known:∀v∈vals,∀b,f[cur]? =some b->Kn f pl v cur b.ops.length
 nd:(aaI f).Nodup
 rng:∀v∈aaI f,0<=v/\v<(next:Int)
 rch:∀i,i<f.length->¬P i->Rch f i
 sml:∀(i:Nat) (b:IBlk),f[i]? =some b->b.params.length<=3/\b.term.to.length<=4
abbrev aaz (p:IProg)(M:MS)(O P:Nat->Prop)(pl:List Nat):Prop:=MInv p M.f M.cur M.next M.vals O P pl
theorem g7{f:List IBlk}{b:IBlk}(hb:f[c]? =some b)(hp:b'.params=b.params)(ho:b.ops<+:b'.ops)(ht:b.term.to=[]∨b'.term=b.term):i6 f (f.set c b'):=fun i x hx=>by
 by_cases e:c=i
 ·subst e;rw[hb] at hx;cases hx;exact⟨b',Nn (Jh.1 hb).1,hp,ho,ht⟩
 ·exact⟨x,by rw[Ns e];exact hx,rfl,Od,.inr rfl⟩
theorem abj (f g:List IBlk):i6 f (f++g):=fun i b hb=>⟨b,by rw[Np (Jh.1 hb).1];exact hb,rfl,Od,.inr rfl⟩
theorem abp{f:List IBlk}{b x:IBlk}(hb:f[c]? =some b)(h:(f.set c b')[i]? =some x):(i=c/\x=b')∨(i≠c/\f[i]? =some x):=by
 by_cases e:c=i
 ·subst e;rw[Nn (Jh.1 hb).1] at h;cases h;exact .inl ⟨rfl,rfl⟩
 ·rw[Ns e] at h;exact .inr ⟨fun h=>e h.symm,h⟩
section
variable {p:IProg} {f:List IBlk} {cur next:Nat} {vals:List Int} {O P:Nat->Prop} {pl:List Nat} (h:MInv p f cur next vals O P pl)
include h
theorem MInv.get:∃b,f[cur]? =some b:=⟨_,Jd h.curl⟩
theorem MInv.push {b:IBlk}(hb:f[cur]? =some b)(a0:O cur){o:IOp}(ho:opF p o=true)(hu:∀v∈rR o,Kn f pl v cur b.ops.length){g:Nat}{d:List Int}(m:(o.res=(next:Int)/\g=next+1/\d=vals++ [o.res])∨(o.res<0/\g=next/\d=vals)):
 MInv p (f.set cur {b with ops:=b.ops++ [o]}) cur g d O P pl:=by
 have w:i6 f (f.set cur {b with ops:=b.ops++ [o]}):=g7 hb rfl (Qb _ _) (.inr rfl);have k:pl<+:pl:=Od
 have a2:abu {b with ops:=b.ops++ [o]}=abu b++abo [o]:=by
  unfold abu;simp only;rw[fK,Nv]
 have u:=fF hb a2;have t:(f.set cur {b with ops:=b.ops++ [o]})[cur]? =some {b with ops:=b.ops++ [o]}:=Nn h.curl;refine⟨by rw[Nd];exact h.len,by rw[Nd];exact h.curl,h.par,?_,?_,?_,fun i hi=>by rw[Nd];exact h.lt i hi,?_,?_,?_,?_,?_⟩
 ·intro i x c j y l;rcases abp hb c with⟨rfl,rfl⟩|⟨_,c⟩
  ·simp only at l
   by_cases hj:j<b.ops.length
   ·rw[Np hj] at l;obtain⟨h1,h2⟩:=h.ops _ b hb j y l;exact⟨h1,fun v hv=>(h2 v hv).ext w k (Og _)⟩
   ·have a3:j=b.ops.length:=by
     have:=(Jh.1 l).1;simp at this;omega
    subst a3;rw[Nc (Je _),Qy] at l;cases l;exact⟨ho,fun v hv=>(hu v hv).ext w k (Og _)⟩
  ·obtain⟨h1,h2⟩:=h.ops i x c j y l;exact⟨h1,fun v hv=>(h2 v hv).ext w k (Og _)⟩
 ·intro i x c hO;rcases abp hb c with⟨rfl,rfl⟩|⟨_,c⟩
  ·exact absurd a0 hO
  ·exact(h.term i x c hO).ext w k
 ·intro i x c hO;rcases abp hb c with⟨rfl,rfl⟩|⟨_,c⟩
  ·exact h.opn _ b hb hO
  ·exact h.opn i x c hO
 ·intro v hv x a1;rw[t] at a1;cases a1;have old:v∈vals->Kn (f.set cur {b with ops:=b.ops++ [o]}) pl v cur ((b.ops++ [o]).length:Nat):=fun hv=>(h.known v hv b hb).ext w k Zt
  rcases m with⟨h1,h2,rfl⟩|⟨h1,h2,rfl⟩
  ·rcases Jl.1 hv with hv|hv
   ·exact old hv
   ·rw[Jo] at hv;subst hv;refine⟨cur,(b.ops.length:Int),⟨_,t,.inr ⟨b.ops.length,o,rfl,?_,rfl,by omega⟩⟩,.refl _,fun _=>by simp;omega⟩;simp
  ·exact old hv
 ·refine u.nodup_iff.2 ?_;rcases m with⟨h1,h2,_⟩|⟨h1,h2,_⟩
  ·have e:abo [o]=[o.res]:=by unfold abo;rw[List.filter_cons_of_pos Zt];rfl
   rw[e];refine Qt.2 ⟨fun hm=>?_,h.nd⟩;have:=(h.rng _ hm).2;omega
  ·have e:abo [o]=[]:=by unfold abo;rw[List.filter_cons_of_neg Zt];rfl
   rw[e];exact h.nd
 ·intro v hv;rw[u.mem_iff] at hv;rcases m with⟨h1,h2,_⟩|⟨h1,h2,_⟩
  ·have e:abo [o]=[o.res]:=by unfold abo;rw[List.filter_cons_of_pos Zt];rfl
   rw[e] at hv;rcases Jl.1 hv with hv|hv
   ·rw[Jo] at hv;omega
   ·have:=h.rng v hv;omega
  ·have e:abo [o]=[]:=by unfold abo;rw[List.filter_cons_of_neg Zt];rfl
   rw[e] at hv;have:=h.rng v hv;omega
 ·intro i hi hP;rw[Nd] at hi;exact(h.rch i hi hP).ext w
 ·intro i x c;rcases abp hb c with⟨rfl,rfl⟩|⟨_,c⟩
  ·exact h.sml _ b hb
  ·exact h.sml i x c
theorem MInv.close{b:IBlk}(hb:f[cur]? =some b)(m:O cur){t:ITerm}(hk:gR t=true)(h4:t.to.length<=4)(he:∀e∈t.to,gB f pl cur e)(hv:∀v∈mE t,Kn f pl v cur b.ops.length)(hc:¬P cur)(hP:∀i,P i->P' i∨∃e∈t.to,e.block=(i:Int)):
 MInv p (f.set cur {b with term:=t }) cur next vals (fun i=>O i/\i≠cur) P' pl:=by
 have g:i6 f (f.set cur {b with term:=t }):=g7 hb rfl Od (.inl (h.opn _ b hb m));have d:pl<+:pl:=Od;have l:=fF (b':= {b with term:=t }) hb (x:=[]) (by unfold abu;simp);have k:(f.set cur {b with term:=t })[cur]? =some {b with term:=t }:=Nn h.curl;refine⟨by rw[Nd];exact h.len,by rw[Nd];exact h.curl,h.par,?_,?_,?_,fun i hi=>by rw[Nd];exact h.lt i hi.1,?_,l.nodup_iff.2 h.nd,fun v hv=>h.rng v (l.mem_iff.1 hv),?_,?_⟩
 ·intro i x c j y hy;rcases abp hb c with⟨rfl,rfl⟩|⟨_,c⟩
  ·obtain⟨h1,h2⟩:=h.ops _ b hb j y hy;exact⟨h1,fun v hv=>(h2 v hv).ext g d (Og _)⟩
  ·obtain⟨h1,h2⟩:=h.ops i x c j y hy;exact⟨h1,fun v hv=>(h2 v hv).ext g d (Og _)⟩
 ·intro i x c o;rcases abp hb c with⟨rfl,rfl⟩|⟨a0,c⟩
  ·exact⟨hk,fun e h1=>(he e h1).ext g d,fun v h1=>(hv v h1).ext g d (Og _)⟩
  ·exact(h.term i x c (fun e=>o ⟨e,a0⟩)).ext g d
 ·intro i x c o;rcases abp hb c with⟨rfl,rfl⟩|⟨_,c⟩
  ·exact absurd rfl o.2
  ·exact h.opn i x c o.1
 ·intro v hv x u;rw[k] at u;cases u;exact(h.known v hv b hb).ext g d (Og _)
 ·intro i hi a1;rw[Nd] at hi
  by_cases w:P i
  ·rcases hP i w with h1|⟨e,h1,h2⟩
   ·exact absurd h1 a1
   ·exact .step ((h.rch cur h.curl hc).ext g) k h1 h2
  ·exact(h.rch i hi w).ext g
 ·intro i x c;rcases abp hb c with⟨rfl,rfl⟩|⟨_,c⟩
  ·exact⟨(h.sml _ b hb).1,h4⟩
  ·exact h.sml i x c
theorem MInv.block {n u:Nat}(hu:u<f.length)(hn:n<=3):MInv p (f++ [wJ next n]) cur (next+n) vals (fun i=>O i∨i=f.length) (fun i=>P i∨i=f.length) (pl++ [u]):=by
 have t:i6 f (f++ [wJ next n]):=abj _ _;have m:pl<+:pl++ [u]:=Qb _ _
 have d:∀(i:Nat) (x:IBlk),(f++ [wJ next n])[i]? =some x->(f[i]? =some x)∨(i=f.length/\x=wJ next n):=fun i x hi=>by
  by_cases o:i<f.length
  ·rw[Np o] at hi;exact .inl hi
  ·have:i=f.length:=by
    have:=(Jh.1 hi).1;simp at this;omega
   subst this;rw[Nc (Je _),Qy] at hi;cases hi;exact .inr ⟨rfl,rfl⟩
 have a0:abu (wJ next n)=(List.range n).map fun k=>((next+k:Nat):Int):=by
  unfold abu wJ;simp[abo]
 have hl:aaI (f++ [wJ next n])=aaI f++(List.range n).map fun k=>((next+k:Nat):Int):=by
  unfold aaI;rw[Nx,Qa,List.flatMap_nil,Ua,a0]
 refine⟨by simp[h.len],by simp;have:=h.curl;omega,?_,?_,?_,?_,?_,?_,?_,?_,?_,?_⟩
 ·intro i w hi h0
  by_cases o:i<pl.length
  ·rw[Np o] at hi;exact h.par i w hi h0
  ·have a1:i=pl.length:=by
    have:=(Jh.1 hi).1;simp at this;omega
   subst a1;rw[Nc (Je _),Qy] at hi;cases hi;rw[h.len];exact hu
 ·intro i x c j y hy;rcases d i x c with c|⟨rfl,rfl⟩
  ·obtain⟨h1,h2⟩:=h.ops i x c j y hy;exact⟨h1,fun v hv=>(h2 v hv).ext t m (Og _)⟩
  ·simp[wJ] at hy
 ·intro i x c g;rcases d i x c with c|⟨rfl,rfl⟩
  ·exact(h.term i x c (fun e=>g (.inl e))).ext t m
  ·exact absurd (.inr rfl) g
 ·intro i x c g;rcases d i x c with c|⟨rfl,rfl⟩
  ·rcases g with g|rfl
   ·exact h.opn i x c g
   ·have:=(Jh.1 c).1;omega
  ·rfl
 ·intro i hi;rcases hi with hi|rfl
  ·have:=h.lt i hi;simp;omega
  ·simp
 ·intro v hv x l;rcases d cur x l with l|⟨e,_⟩
  ·exact(h.known v hv x l).ext t m (Og _)
  ·have:=h.curl;omega
 ·rw[hl];refine Qq.2 ⟨h.nd,?_,fun a ha b hb e=>?_⟩
  ·refine List.pairwise_map.2 (List.nodup_range.imp fun hab e=>hab ?_);omega
  ·obtain⟨k,_,rfl⟩:=Nu.1 hb;have:=h.rng a ha;omega
 ·intro v hv;rw[hl] at hv;rcases Jl.1 hv with hv|hv
  ·have:=h.rng v hv;omega
  ·obtain⟨k,hk,rfl⟩:=Nu.1 hv;have:=Ol.1 hk;omega
 ·intro i hi hP;have a3:i≠f.length:=fun e=>hP (.inr e)
  have a2:i<f.length:=by simp at hi;omega
  exact(h.rch i a2 (fun e=>hP (.inl e))).ext t
 ·intro i x c;rcases d i x c with c|⟨rfl,rfl⟩
  ·exact h.sml i x c
  ·exact⟨by unfold wJ;simpa using hn,by show 0<=4;decide⟩
theorem MInv.goto {c':Nat}{c:List Int}(d:c'<f.length)(hv:∀v∈c,∀b,f[c']? =some b->Kn f pl v c' b.ops.length):MInv p f c' next c O P pl:=
 {h with curl:=d,known:=hv }
theorem MInv.weak{O':Nat->Prop}(c:∀i,O i↔O' i)(d:∀i,P i->P' i):MInv p f cur next vals O' P' pl:=
 {h with term:=fun i b hb hn=>h.term i b hb (fun e=>hn ((c i).1 e)),opn:=fun i b hb hn=>h.opn i b hb ((c i).2 hn),lt:=fun i hi=>h.lt i ((c i).2 hi),rch:=fun i hi hn=>h.rch i hi (fun e=>hn (d i e))}
theorem MInv.below{v:Int}(hk:Kn f pl v i k)(c:Abv pl i j)(d:i≠j):Kn f pl v j k':=by
 obtain⟨b,a,h1,h2,h3⟩:=hk;refine⟨b,a,h1,h2.trans c,fun e=>?_⟩;have l:=h2.le h.par;have g:=c.le h.par;omega
end
theorem pN {w:World}{b n:Nat}{l:List Nat}(h:O w b (l.map ly).toArray 5)(hl:l.length=n):
 (convert 49 9 (F b n n)).run Tryz.prog w=.ok (.string (y9 l)) w:=by
 refine run_convert_bytes_arg w 49 5 Tryz.underlying49 Tryz.underlying5 b 0 n n (l.map fun(n:Nat)=>(n:Int)) (by simpa using hl) (fun i hi=>?_) 9 Tryz.underlying9;rw[Ng];have c:i<l.length:=Zo;refine zA h ?_;simp[Jj,Jd c,ly]
theorem mG (l:List Nat):(y9 l).size=l.length:=by
 unfold y9 strOfNums
 show Array.size _=_
 simp
theorem uf {α β:Type}(f:α->List β){l:List α}{k:Nat}{b:α}(hk:l[k]? =some b):(l.flatMap f).Perm (f b++(l.eraseIdx k).flatMap f):=by
 obtain⟨c,hb⟩:=Jh.1 hk
 have e1:l=l.take k++b::l.drop (k+1):=by
  rw[<-hb,Ue,Qi]
 rw[List.eraseIdx_eq_take_drop_succ]
 conv=>lhs;rw[e1]
 classical
 refine Jp.2 fun y=>?_
 simp only[Nx,Qa,Nb];omega
theorem abO {α β:Type}(f:α->List β){l:List α}{k:Nat}(hk:k<l.length)(a:α):((l.set k a).flatMap f).Perm (f a++(l.eraseIdx k).flatMap f):=by
 have h:=uf f (l:=l.set k a) (k:=k) (b:=a) (by rw[Nn hk]);rw[List.eraseIdx_set_eq] at h;exact h
abbrev aZ (p:IProg)(fa:Option Addr)(fc:Nat)(aa:Option Addr)(ac:Nat)(da:Option Addr)(dc:Nat)(ba:Option Addr)(bc:Nat):Array Value:=P p fa fc aa ac da dc ba bc
structure PBx (W:World) (b:Nat) (p:IProg) (fa:Option Addr) (fc:Nat) (aa:Option Addr) (ac:Nat) (da:Option Addr) (dc:Nat) (ba:Option Addr) (bc:Nat):Prop where
 blk:W.heap[b]? =some (.cells (aZ p fa fc aa ac da dc ba bc) 29 (0,0))
 prog:ProgIn W W.heap.size ⟨.slice fa p.funcs.length fc,.slice aa p.args.length ac,.slice da p.data.length dc,.slice ba p.banks.length bc⟩ p
section
variable {W W':World} {b:Nat} {p:IProg} {fa aa da ba:Option Addr} {fc ac dc bc:Nat}
theorem PBx.below (h:PBx W b p fa fc aa ac da dc ba bc)(hb:N W W'):PBx W' b p fa fc aa ac da dc ba bc:=
 ⟨zH hb h.blk (lt_of_block h.blk),(h.prog.below hb).mono hb.size⟩
theorem PBx.new (h:ProgIn W W.heap.size ⟨.slice fa p.funcs.length fc,.slice aa p.args.length ac,.slice da p.data.length dc,.slice ba p.banks.length bc⟩ p):PBx (W.alloc (I (aZ p fa fc aa ac da dc ba bc) 29)) W.heap.size p fa fc aa ac da dc ba bc:=
 ⟨zI rfl,(h.below ((Below.refl _ _).alloc (Je _) _)).mono Zs⟩
theorem PBx.lt (h:PBx W b p fa fc aa ac da dc ba bc):b<W.heap.size:=lt_of_block h.blk
theorem PBx.c0 (h:PBx W b p fa fc aa ac da dc ba bc):A W b 0 (.slice fa p.funcs.length fc):=zA h.blk Zs
theorem PBx.c1 (h:PBx W b p fa fc aa ac da dc ba bc):A W b 1 (.slice aa p.args.length ac):=zA h.blk Zs
theorem PBx.c2 (h:PBx W b p fa fc aa ac da dc ba bc):A W b 2 (U p.entry):=zA h.blk Zs
theorem PBx.c3 (h:PBx W b p fa fc aa ac da dc ba bc):A W b 3 (U p.handler):=zA h.blk Zs
theorem PBx.c4 (h:PBx W b p fa fc aa ac da dc ba bc):A W b 4 (.slice da p.data.length dc):=zA h.blk Zs
theorem PBx.c5 (h:PBx W b p fa fc aa ac da dc ba bc):A W b 5 (.slice ba p.banks.length bc):=zA h.blk Zs
end
theorem afF {n:Nat}{s:Slv}(hs:OkS n s){v:Int}(hv:v.toNat<n)(a:Rg):(s.put v a).get v=a/\(s.put v a).knw v=true:=⟨(afK hs hv a).2,(afK hs hv a).1⟩
theorem ago {s:Slv}{v u:Int}(h:v.toNat≠u.toNat)(a:Rg):(s.put v a).get u=s.get u/\(s.put v a).knw u=s.knw u:=by
 unfold Slv.get Slv.knw Slv.put;simp only[Jj];rw[Ns h,Ns h];exact⟨rfl,rfl⟩
theorem app_un {c:Int}(j:3<=c)(hb:(zi c).b=false)(a b b':Rg):afL c a b=afL c a b':=by
 by_cases h:c=3∨c=4
 ·unfold afL;rw[aiF h a b b']
  cases aeS c a b' with
  |none=>rfl
  |some r=>
   simp only;have e:(c<=17/\q8 a=true/\((c=3∨c=4)∨q8 b=true))↔(c<=17/\q8 a=true/\((c=3∨c=4)∨q8 b'=true)):=⟨fun k=>⟨k.1,k.2.1,.inl h⟩,fun k=>⟨k.1,k.2.1,.inl h⟩⟩
   by_cases h2:c<=17/\q8 a=true/\((c=3∨c=4)∨q8 b=true)
   ·rw[if_pos h2,if_pos (e.1 h2),if_neg Zo,if_neg Zo,afY h a.lo b.lo b'.lo]
   ·rw[if_neg h2,if_neg (fun k=>h2 (e.2 k))]
 ·have i:¬(5<=c/\c<=17):=fun k=>by
   unfold zi at hb;rw[if_neg Zo,if_neg Zo,if_pos k] at hb;cases hb
  have hr:∀x,aeS c a x=if c=19 then some ⟨0,255⟩ else if c=23 then some ⟨0,255⟩ else none:=fun x=>by
   unfold aeS
   iterate 15 rw[if_neg Zo]
  unfold afL;rw[hr b,hr b']
  by_cases g:c=19
  ·rw[if_pos g];simp only;rw[if_neg Zo,if_neg Zo]
  ·rw[if_neg g]
   by_cases d:c=23
   ·rw[if_pos d];simp only;rw[if_neg Zo,if_neg Zo]
   ·rw[if_neg d]
theorem ahQ {c:Int}(i:3<=c/\c<=27)(d:(zi c).a=false)(a b:Rg):afL c a b=vu:=by
 have h:c=24∨c=26∨c=27:=by
  have g:c=3∨c=4∨c=18∨c=19∨(5<=c/\c<=17)∨c=20∨c=21∨c=22∨c=23∨c=24∨c=25∨c=26∨c=27:=Zo;rcases g with rfl|rfl|rfl|rfl|h|rfl|rfl|rfl|rfl|h|rfl|h|h
  ·cases d
  ·cases d
  ·cases d
  ·cases d
  ·unfold zi at d;rw[if_neg Zo,if_neg Zo,if_pos h] at d;cases d
  ·cases d
  ·cases d
  ·cases d
  ·cases d
  ·exact .inl h
  ·cases d
  ·exact .inr (.inl h)
  ·exact .inr (.inr h)
 rcases h with rfl|rfl|rfl<;>rfl
def holdsO (a:Rg)(n:Int)(o:IObj):Prop:=o.bank=-1/\o.addr<=a.lo/\(a.hi:Int)+n<=(o.addr:Int)+o.size
instance (a:Rg) (n:Int) (o:IObj):Decidable (holdsO a n o):=by unfold holdsO;infer_instance
theorem ajw {p:IProg}(hv:vC p=0):0<p.funcs.length/\p.funcs.length<=2000:=by
 obtain⟨c,_⟩:=rz hv;unfold sR at c
 split at c
 ·omega
 ·rename_i d
  split at c
  ·omega
  ·split at c
   ·omega
   ·split at c
    ·omega
    ·rename_i h
     have hs:yw p p.entry=true:=by
      by_cases e:yw p p.entry=true
      ·exact e
      ·exact absurd (Na (by simpa using e)) h
     unfold yw at hs;simp only[Jm,decide_eq_true_eq] at hs;omega
end Go.Proofs.YtoahcpkibpomcaaGreat
