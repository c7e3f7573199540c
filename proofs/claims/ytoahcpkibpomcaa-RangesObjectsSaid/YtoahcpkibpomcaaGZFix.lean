/- Part of a proof. -/
import Derived.Test.YtoahcpkibpomcaaSp
set_option linter.all false
namespace Go.Proofs.Ytoahcpkibpomcaa
variable {i k x y:Nat}{c:List Nat}{ps:List Int}
structure IOp where
 code:Int
 res:Int
 a:Int
 b:Int
 n:Nat
 args:List Int
variable {o:IOp}
structure IEdge where
 block:Int
 args:List Int
structure ITerm where
 kind:Int
 a:Int
 to:List IEdge
structure IBlk where
 params:List Int
 ops:List IOp
 term:ITerm
variable {blocks:List IBlk}
structure IObj where
 bank:Int
 addr:Nat
 size:Nat
structure IProg where
 funcs:List (List IBlk)
 args:List Int
 entry:Int
 handler:Int
 data:List IObj
 banks:List ByteArray
structure Mach where
 ram:List Nat
 fuel:Int
 out:List (Nat×Nat)
 inputs:Nat
 polls:Nat
structure IEnv where
 p:IProg
 inn:List Nat
 irq:List Nat
inductive Res (α:Type) where
 |ok (x:α) (m:Mach)
 |trap (k i:Nat) (m:Mach)
def s16 (a:Nat):Int:=if a<32768 then(a:Int) else(a:Int)-65536
def iw (b:Bool):Nat:=if b then 1 else 0
def yW (code:Int)(a b:Nat):Nat:=
 if code=5 then(a+b)%65536
 else if code=6 then(a+(65536-b))%65536
 else if code=7 then a*b%65536
 else if code=8 then a/b
 else if code=9 then a &&& b
 else if code=10 then a|||b
 else if code=11 then a^^^b
 else if code=12 then a*2^(b%16)%65536
 else if code=13 then a/2^(b%16)
 else if code=14 then((s16 a/2^(b%16))%65536).toNat
 else if code=15 then iw (decide (a=b))
 else if code=16 then iw (decide (a<b))
 else iw (decide (s16 a<s16 b))
def wo (a:Nat):Bool:=decide (16384<=a) && decide (a<24576)
def tC (m:Mach)(a:Nat):Nat:=m.ram.getD (a-16384) 0
def sJ (E:IEnv)(bank a:Nat):Bool:=decide (bank<E.p.banks.length) && decide (a<4096)
def tS (E:IEnv)(bank a:Nat):Nat:=((E.p.banks.getD bank ⟨#[]⟩).data.getD a 0).toNat
def Mach.pay (m:Mach):Mach:= {m with fuel:=m.fuel-1 }
def Mach.put (m:Mach)(a x:Nat):Mach:= {m with ram:=m.ram.set (a-16384) x }
variable {m m':Mach}
def vt (a:Nat):Nat:=(a+1)%65536
def abh (m:Mach)(a:Nat):Res Nat:=if wo a then .ok (tC m a) m else .trap 2 a m
def pR (m:Mach)(a:Nat):Res Nat:=
 if wo a then(if wo (vt a) then .ok (tC m a+256*tC m (vt a)) m else .trap 2 (vt a) m) else .trap 2 a m
def td (m:Mach)(a x:Nat):Res Nat:=if wo a then .ok 0 (m.put a (x%256)) else .trap 2 a m
def sK (m:Mach)(a x:Nat):Res Nat:=
 if wo a then(if wo (vt a) then .ok 0 ((m.put a (x%256)).put (vt a) (x/256)) else .trap 2 (vt a) m) else .trap 2 a m
def nX (E:IEnv)(m:Mach)(bank a:Nat):Res Nat:=if sJ E bank a then .ok (tS E bank a) m else .trap 2 a m
def im (E:IEnv)(m:Mach)(bank a:Nat):Res Nat:=
 if sJ E bank a then(if sJ E bank (vt a) then .ok (tS E bank a+256*tS E bank (vt a)) m else .trap 2 (vt a) m) else .trap 2 a m
def uq (E:IEnv)(m:Mach):Res Nat:=
 if m.inputs<E.inn.length then .ok (E.inn.getD m.inputs 0) {m with inputs:=m.inputs+1 } else .ok 0 m
def adS (m:Mach)(port x:Nat):Res Nat:=.ok 0 {m with out:=m.out++ [(port,x)]}
def iy (m:Mach)(code:Int)(a b:Nat):Res Nat:=if code=8/\b=0 then .trap 4 0 m else .ok (yW code a b) m
def mU (E:IEnv)(o:IOp)(a b:Nat)(m:Mach):Res Nat:=
 if o.code=1 then .ok o.n m
 else if o.code=2 then .ok ((((E.p.data.getD o.a.toNat ⟨0,0,0⟩).addr)+o.n)%65536) m
 else if o.code=3 then .ok ((65536-a)%65536) m
 else if o.code=4 then .ok (65535-a) m
 else if o.code=18 then pR m a
 else if o.code=19 then abh m a
 else if o.code=20 then sK m a b
 else if o.code=21 then td m a b
 else if o.code=22 then im E m o.n a
 else if o.code=23 then nX E m o.n a
 else if o.code=24 then uq E m
 else if o.code=25 then adS m o.n a
 else iy m o.code a b
def tY (E:IEnv)(call:Int->List Nat->Mach->Res Nat)(m:Mach):Res Nat:=
 if m.polls<E.irq.length then
  (if E.irq.getD m.polls 0≠0/\E.p.handler≠-1 then
    (match call E.p.handler [] {m with polls:=m.polls+1 } with
      |.ok _ m'=> .ok 0 m'
      |.trap k i m'=> .trap k i m')
    else .ok 0 {m with polls:=m.polls+1 })
 else .ok 0 m
def oV (E:IEnv)(call:Int->List Nat->Mach->Res Nat)(o:IOp)(v:Int->Nat)(m:Mach):Res Nat:=
 if o.code=26 then call o.a (o.args.map v) m
 else if o.code=27 then tY E call m
 else mU E o (v o.a) (v o.b) m
def iY (v:Int->Nat)(x:Int)(r:Nat):Int->Nat:=fun y=>if y=x then r else v y
def setV (v:Int->Nat)(x:Int)(r:Nat):Int->Nat:=if 0<=x then iY v x r else v
def iq (E:IEnv)(call:Int->List Nat->Mach->Res Nat):List IOp->(Int->Nat)->Mach->Res (Int->Nat)
 | [],v,m=> .ok v m
 |o::os,v,m=>
  if m.fuel<=0 then .trap 7 0 m
  else match oV E call o v m.pay with
   |.ok r m'=>iq E call os (setV v o.res r) m'
   |.trap k i m'=> .trap k i m'
def r7:List Int->List Nat->(Int->Nat)->(Int->Nat)
 |p::ps,a::as,v=>r7 ps as (iY v p a)
 |_,_,v=>v
def wK (t:ITerm)(a:Nat):IEdge:=
 if t.kind=2/\a=0 then t.to.getD 1 ⟨0,[]⟩
 else if t.kind=3 then t.to.getD (min a (t.to.length-1)) ⟨0,[]⟩
 else t.to.getD 0 ⟨0,[]⟩
def xz (blocks:List IBlk)(at':Int):IBlk:=blocks.getD at'.toNat ⟨[],[],⟨0,0,[]⟩⟩
def tJ (E:IEnv)(call:Int->List Nat->Mach->Res Nat)(blocks:List IBlk):Nat->Int->List Nat->(Int->Nat)->Mach->Res Nat
 |0,_,_,_,m=> .trap 7 0 m
 |n+1,at',args,v,m=>
  match iq E call (xz blocks at').ops (r7 (xz blocks at').params args v) m with
  |.trap k i m'=> .trap k i m'
  |.ok v2 m2=>
   if m2.fuel<=0 then .trap 7 0 m2
   else if(xz blocks at').term.kind=4 then .ok (if(xz blocks at').term.a=-1 then 0 else v2 (xz blocks at').term.a) m2.pay
   else if(xz blocks at').term.kind=5 then .trap 1 0 m2.pay
   else tJ E call blocks n (wK (xz blocks at').term (v2 (xz blocks at').term.a)).block ((wK (xz blocks at').term (v2 (xz blocks at').term.a)).args.map v2) v2 m2.pay
def xW (E:IEnv):Nat->Int->List Nat->Mach->Res Nat
 |0,_,_,m=> .trap 5 0 m
 |r+1,f,args,m=>
  if(E.p.funcs.getD f.toNat []).isEmpty then .trap 8 (f%65536).toNat m
  else tJ E (xW E r) (E.p.funcs.getD f.toNat []) (m.fuel.toNat+1) 0 args (fun _=>0) m
structure IRun where
 value:Nat
 out:List (Nat×Nat)
 kind:Nat
 info:Nat
 ram:List Nat
 inputs:Nat
 polls:Nat
def adO:Res Nat->IRun
 |.ok x m=>⟨x,m.out,6,0,m.ram,m.inputs,m.polls⟩
 |.trap k i m=>⟨0,m.out,k,i,m.ram,m.inputs,m.polls⟩
def v7 (s:ByteArray):List Nat:=(List.range 8192).map fun k=>(s.data.getD k 0).toNat
def bQ (E:IEnv)(f:Int)(args:List Nat)(ram:ByteArray)(fuel:Int):IRun:=adO (xW E 100 f args ⟨v7 ram,fuel,[],0,0⟩)
def OkOp (p:IProg)(o:IOp):Prop:=
 (1<=o.code/\o.code<=27)/\(o.code=2->0<=o.a/\o.a.toNat<p.data.length)/\(o.code=26->0<=o.a/\o.a.toNat<p.funcs.length/\(o.args.length:Int)=p.args.getD o.a.toNat 0)
def bS (blocks:List IBlk)(t:ITerm):Prop:=
 (t.kind=1∨t.kind=2∨t.kind=3∨t.kind=4∨t.kind=5)/\(t.kind=1->1<=t.to.length)/\(t.kind=2->2<=t.to.length)/\(t.kind=3->1<=t.to.length)/\
  ∀e∈t.to,1<=e.block/\e.block.toNat<blocks.length/\e.args.length=(xz blocks e.block).params.length
def OkBlk (p:IProg)(blocks:List IBlk)(b:IBlk):Prop:=(∀o∈b.ops,OkOp p o)/\bS blocks b.term/\b.params.length<=65536
structure OkProg (p:IProg):Prop where
 blk:∀blocks∈p.funcs,∀b∈blocks,OkBlk p blocks b
 par:∀(i:Nat) (b:IBlk) (bs:List IBlk),p.funcs[i]? =some (b::bs)->(b.params.length:Int)=p.args.getD i 0
 hnd:p.handler≠-1->0<=p.handler/\p.handler.toNat<p.funcs.length/\p.args.getD p.handler.toNat 0=0
 bank:∀s∈p.banks,s.size=4096
 argle:∀i,p.args.getD i 0<=65536
 alen:p.args.length=p.funcs.length
theorem lL{t:ITerm}(h:bS blocks t)(j:t.kind≠4)(i:t.kind≠5)(a:Nat):wK t a∈t.to:=by
 have d:∀k,k<t.to.length->t.to.getD k ⟨0,[]⟩∈t.to:=fun k hk=>by rw[Jj,Jd hk];exact Uf hk
 unfold wK;obtain⟨c,m,g,l,_⟩:=h
 by_cases c2:t.kind=2/\a=0
 ·rw[if_pos c2];exact d 1 (g c2.1)
 ·rw[if_neg c2]
  by_cases c3:t.kind=3
  ·rw[if_pos c3];have:=l c3;exact d _ Zo
  ·rw[if_neg c3];rcases c with c|c|c|c|c
   ·exact d 0 (m c)
   ·exact d 0 (by have:=g c;omega)
   ·exact absurd c c3
   ·exact absurd c j
   ·exact absurd c i
theorem qq:∀(ps:List Int) (as:List Nat) (v:Int->Nat) (p:Int) (a:Nat),ps.length=as.length->r7 (ps++ [p]) (as++ [a]) v=iY (r7 ps as v) p a
 | [],[],v,p,a,_=>rfl
 | [],_::_,_,_,_,h=>by simp at h
 |_::_,[],_,_,_,h=>by simp at h
 |p'::ps,a'::as,v,p,a,h=>by
  show r7 (ps++ [p]) (as++ [a]) (iY v p' a')=iY (r7 ps as (iY v p' a')) p a
  exact qq ps as _ p a (by simpa using h)
def mT (call:Int->List Nat->Mach->Res Nat):Prop:=∀f args m x m',call f args m=.ok x m'->m'.fuel<=m.fuel
theorem nV{E:IEnv}{a b:Nat}(h:mU E o a b m=.ok x m'):m'.fuel<=m.fuel:=by
 unfold mU at h;have c:∀ {y:Nat} {m1:Mach},(Res.ok y m1:Res Nat)=.ok x m'->m1.fuel=m.fuel->m'.fuel<=m.fuel:=fun h e=>by cases h;omega
 by_cases c1:o.code=1;· rw[if_pos c1] at h;exact c h rfl
 rw[if_neg c1] at h;by_cases c2:o.code=2;· rw[if_pos c2] at h;exact c h rfl
 rw[if_neg c2] at h;by_cases c3:o.code=3;· rw[if_pos c3] at h;exact c h rfl
 rw[if_neg c3] at h;by_cases c4:o.code=4;· rw[if_pos c4] at h;exact c h rfl
 rw[if_neg c4] at h;by_cases t:o.code=18
 ·rw[if_pos t] at h;unfold pR at h;split at h
  ·split at h
   ·exact c h rfl
   ·cases h
  ·cases h
 rw[if_neg t] at h;by_cases q:o.code=19
 ·rw[if_pos q] at h;unfold abh at h;split at h
  ·exact c h rfl
  ·cases h
 rw[if_neg q] at h;by_cases l:o.code=20
 ·rw[if_pos l] at h;unfold sK at h;split at h
  ·split at h
   ·exact c h rfl
   ·cases h
  ·cases h
 rw[if_neg l] at h;by_cases k:o.code=21
 ·rw[if_pos k] at h;unfold td at h;split at h
  ·exact c h rfl
  ·cases h
 rw[if_neg k] at h;by_cases j:o.code=22
 ·rw[if_pos j] at h;unfold im at h;split at h
  ·split at h
   ·exact c h rfl
   ·cases h
  ·cases h
 rw[if_neg j] at h;by_cases i:o.code=23
 ·rw[if_pos i] at h;unfold nX at h;split at h
  ·exact c h rfl
  ·cases h
 rw[if_neg i] at h;by_cases g:o.code=24
 ·rw[if_pos g] at h;unfold uq at h;split at h
  ·exact c h rfl
  ·exact c h rfl
 rw[if_neg g] at h;by_cases d:o.code=25
 ·rw[if_pos d] at h;exact c h rfl
 rw[if_neg d] at h;unfold iy at h;split at h
 ·cases h
 ·exact c h rfl
theorem pI{E:IEnv}{c:Int->List Nat->Mach->Res Nat}(i:mT c){v:Int->Nat}(h:oV E c o v m=.ok x m'):m'.fuel<=m.fuel:=by
 unfold oV at h
 by_cases g:o.code=26
 ·rw[if_pos g] at h;exact i _ _ _ _ _ h
 ·rw[if_neg g] at h
  by_cases d:o.code=27
  ·rw[if_pos d] at h;unfold tY at h
   split at h
   ·split at h
    ·split at h
     ·rename_i j;cases h;have:=i _ _ _ _ _ j;exact this
     ·cases h
    ·cases h;exact Og _
   ·cases h;exact Og _
  ·rw[if_neg d] at h;exact nV h
theorem nK {E:IEnv}{c:Int->List Nat->Mach->Res Nat}(d:mT c):∀ {ops:List IOp} {v v':Int->Nat} {m m':Mach},iq E c ops v m=.ok v' m'->m'.fuel<=m.fuel
 | [],v,v',m,m',h=>by cases h;exact Og _
 |o::os,v,v',m,m',h=>by
  unfold iq at h
  split at h
  ·cases h
  ·split at h
   ·rename_i h2
    have h3:=pI d h2;have g:=nK d h;simp only[Mach.pay] at h3;omega
   ·cases h
theorem rt{E:IEnv}{c:Int->List Nat->Mach->Res Nat}(d:mT c):∀ {n:Nat} {a:Int} {args:List Nat} {v:Int->Nat} {m m':Mach} {x:Nat},tJ E c blocks n a args v m=.ok x m'->m'.fuel<=m.fuel
 |0,a,args,v,m,m',x,h=>by cases h
 |n+1,a,args,v,m,m',x,h=>by
  unfold tJ at h
  split at h
  ·cases h
  ·rename_i h2
   have h3:=nK d h2
   split at h
   ·cases h
   ·split at h
    ·cases h;simp only[Mach.pay];omega
    ·split at h
     ·cases h
     ·have g:=rt d h;simp only[Mach.pay] at g;omega
theorem pO (E:IEnv):∀r,mT (xW E r)
 |0=>fun f args m x m' h=>by cases h
 |r+1=>fun f args m x m' h=>by
  unfold xW at h
  split at h
  ·cases h
  ·exact rt (pO E r) h
structure Rg where
 lo:Nat
 hi:Nat
def xr:Rg:=⟨0,65535⟩
def Rg.has (a:Rg)(x:Nat):Prop:=a.lo<=x/\x<=a.hi
def Rg.ok (a:Rg):Prop:=a.lo<=a.hi/\a.hi<=65535
def Rg.sub (a b:Rg):Prop:=b.lo<=a.lo/\a.hi<=b.hi
def afY (n:Nat):Rg:=⟨n,n⟩
def vu (a:Rg):Bool:=decide (a.lo=a.hi)
def qs (a b:Rg):Rg:=⟨min a.lo b.lo,max a.hi b.hi⟩
def vl (lo hi:Int):Rg:=if lo/65536=hi/65536 then⟨(lo%65536).toNat,(hi%65536).toNat⟩ else xr
def wl (lo hi:Nat):Rg:=if hi<=65535 then⟨lo,hi⟩ else xr
def ro (x:Nat):Nat:=if x=0 then 0 else 2*ro (x/2)+1
termination_by x
decreasing_by omega
def mb (a b:Rg):Rg:=if b.hi=0 then xr else⟨a.lo/b.hi,a.hi/max b.lo 1⟩
def m0 (a b:Rg):Rg:=if vu b then⟨a.lo/2^(b.lo%16),a.hi/2^(b.lo%16)⟩ else⟨0,a.hi⟩
def aeB (c:Int)(a b:Rg):Option Rg:=
 if c=3 then some (vl (-(a.hi:Int)) (-(a.lo:Int)))
 else if c=4 then some ⟨65535-a.hi,65535-a.lo⟩
 else if c=5 then some (vl ((a.lo:Int)+b.lo) ((a.hi:Int)+b.hi))
 else if c=6 then some (vl ((a.lo:Int)-b.hi) ((a.hi:Int)-b.lo))
 else if c=7 then some (wl (a.lo*b.lo) (a.hi*b.hi))
 else if c=8 then some (mb a b)
 else if c=9 then some ⟨0,min a.hi b.hi⟩
 else if c=10 then some ⟨max a.lo b.lo,ro (max a.hi b.hi)⟩
 else if c=11 then some ⟨0,ro (max a.hi b.hi)⟩
 else if c=12 then some (if vu b then wl (a.lo*2^(b.lo%16)) (a.hi*2^(b.lo%16)) else xr)
 else if c=13 then some (m0 a b)
 else if c=14 then some (if 32768<=a.hi then xr else m0 a b)
 else if c=15 then some (if a.hi<b.lo∨b.hi<a.lo then⟨0,0⟩ else⟨0,1⟩)
 else if c=16 then some (if a.hi<b.lo then⟨1,1⟩ else if b.hi<=a.lo then⟨0,0⟩ else⟨0,1⟩)
 else if c=17 then some ⟨0,1⟩
 else if c=19 then some ⟨0,255⟩
 else if c=23 then some ⟨0,255⟩
 else none
def aeI (c:Int)(a b:Nat):Nat:=if c=3 then(65536-a)%65536 else if c=4 then 65535-a else yW c a b
def agL (c:Int)(a b:Rg):Rg:=
 match aeB c a b with
 |none=>xr
 |some r=>if c<=17/\vu a=true/\((c=3∨c=4)∨vu b=true) then(if c=8/\b.lo=0 then xr else afY (aeI c a.lo b.lo)) else r
theorem cw(h:x<65536):xr.has x:=⟨Jt _,by show x<=65535;omega⟩
theorem sl:xr.ok:=⟨Jt _,Je _⟩
theorem agb (x:Nat):(afY x).has x:=⟨Je _,Je _⟩
theorem Rg.has.lt{a:Rg}(h:a.has x)(c:a.ok):x<65536:=by have:=h.2;have:=c.2;omega
theorem en {lo hi z:Int}(d:lo<=z)(c:z<=hi):(vl lo hi).has (z%65536).toNat:=by
 unfold vl
 split
 ·rename_i h
  exact⟨by show(lo%65536).toNat<=_;omega,by show _<=(hi%65536).toNat;omega⟩
 ·exact cw Zo
theorem ac1 {lo hi:Int}(h:lo<=hi):(vl lo hi).ok:=by
 unfold vl
 split
 ·exact⟨by show(lo%65536).toNat<=(hi%65536).toNat;omega,by show(hi%65536).toNat<=_;omega⟩
 ·exact sl
theorem aa2 {lo hi z:Nat}(d:lo<=z)(c:z<=hi):(wl lo hi).has (z%65536):=by
 unfold wl
 split
 ·rw[Nat.mod_eq_of_lt Zo];exact⟨d,c⟩
 ·exact cw Zo
theorem aeJ {lo hi:Nat}(h:lo<=hi):(wl lo hi).ok:=by
 unfold wl
 split
 ·exact⟨h,by assumption⟩
 ·exact sl
theorem ce:∀x:Nat,∃k,ro x+1=2^k/\x<2^k/\(x<65536->k<=16):=by
 intro x
 induction x using Nat.strongRecOn with
 |_ x ih=>
  by_cases h:x=0
  ·exact⟨0,by rw[ro,if_pos h],by subst h;decide,fun _=>Jt _⟩
  ·obtain⟨k,i,m,g⟩:=ih (x/2) Zo;refine⟨k+1,by rw[ro,if_neg h,Nat.pow_succ];omega,by rw[Nat.pow_succ];omega,fun h4=>?_⟩
   by_cases hk:k<=15
   ·omega
   ·obtain rfl:k=16:=by have:=g Zo;omega
    exfalso;have:ro (x/2)+1=65536:=i
    have d:∀j y,y<2^j->ro y<2^j:=by
     intro j
     induction j with
     |zero=>intro y c;have:y=0:=by simpa using c
            rw[ro,if_pos this];exact Nat.zero_lt_one
     |succ j ih2=>
      intro y c;rw[ro]
      split
      ·exact Nat.pos_of_ne_zero Zs
      ·have:=ih2 (y/2) (by rw[Nat.pow_succ] at c;omega);rw[Nat.pow_succ];omega
    have:=d 15 (x/2) (by show x/2<32768;omega);have l:(2:Nat)^15=32768:=rfl;omega
theorem mask_min:∀(x m k:Nat),m+1=2^k->x<=m->ro x<=m:=by
 intro x
 induction x using Nat.strongRecOn with
 |_ x ih=>
  intro m k hk c
  by_cases h:x=0
  ·rw[ro,if_pos h];exact Jt _
  ·cases k with
   |zero=>simp at hk;omega
   |succ k=>
    rw[Nat.pow_succ] at hk;have:=ih (x/2) Zo ((m-1)/2) k Zo Zo;rw[ro,if_neg h];omega
theorem aga (x:Nat):x<=ro x:=by
 obtain⟨k,d,c,_⟩:=ce x;omega
theorem agl(h:x<65536):ro x<65536:=by
 obtain⟨k,i,g,c⟩:=ce x;have:=Nat.pow_le_pow_right (show 0<2 by decide) (c h);have d:(2:Nat)^16=65536:=rfl;omega
theorem agw{h:Nat}(d:x<=h)(c:y<=h):x|||y<=ro h/\x^^^y<=ro h:=by
 obtain⟨k,i,g,_⟩:=ce h;have a:=Nat.or_lt_two_pow (n:=k) (x:=x) (y:=y) Zo Zo;have b:=Nat.xor_lt_two_pow (n:=k) (x:=x) (y:=y) Zo Zo;omega
theorem ae5{a b:Rg}(c:a.has x)(d:b.has y):(m0 a b).has (x/2^(y%16)):=by
 unfold m0
 split
 ·rename_i h
  have h:b.lo=b.hi:=of_decide_eq_true h;obtain rfl:y=b.lo:=by have:=d.1;have:=d.2;omega
  exact⟨Nat.div_le_div_right c.1,Nat.div_le_div_right c.2⟩
 ·exact⟨Jt _,Jn (Nat.div_le_self _ _) c.2⟩
theorem afL {a b:Rg}(c:a.ok):(m0 a b).ok:=by
 unfold m0
 split
 ·exact⟨Nat.div_le_div_right c.1,Jn (Nat.div_le_self _ _) c.2⟩
 ·exact⟨Jt _,c.2⟩
theorem afj (p:Bool):(⟨0,1⟩:Rg).has (iw p):=by cases p<;>exact⟨by decide,by decide⟩
theorem rule_has{c:Int}(hc:3<=c/\c<=17){a b r:Rg}(hr:aeB c a b=some r)(j:a.has x)(i:b.has y)(w:a.ok)(hb:b.ok)(u:¬(c=8/\y=0)):r.has (aeI c x y):=by
 have g:=j.1;have d:=j.2;have l:=i.1;have k:=i.2;have a1:=w.2;have a0:=hb.2;have o:c=3∨c=4∨c=5∨c=6∨c=7∨c=8∨c=9∨c=10∨c=11∨c=12∨c=13∨c=14∨c=15∨c=16∨c=17:=Zo;rcases o with rfl|rfl|rfl|rfl|rfl|rfl|rfl|rfl|rfl|rfl|rfl|rfl|rfl|rfl|rfl
 ·cases hr;have:=en (lo:=-(a.hi:Int)) (hi:=-(a.lo:Int)) (z:=-(x:Int)) Zo Zo
  show(vl _ _).has ((65536-x)%65536)
  rw[show(65536-x)%65536=((-(x:Int))%65536).toNat by omega];exact this
 ·cases hr;exact⟨by show 65535-a.hi<=65535-x;omega,by show 65535-x<=65535-a.lo;omega⟩
 ·cases hr;have:=en (lo:=(a.lo:Int)+b.lo) (hi:=(a.hi:Int)+b.hi) (z:=(x:Int)+y) Zo Zo
  show(vl _ _).has ((x+y)%65536)
  rw[show(x+y)%65536=(((x:Int)+y)%65536).toNat by omega];exact this
 ·cases hr;have:=en (lo:=(a.lo:Int)-b.hi) (hi:=(a.hi:Int)-b.lo) (z:=(x:Int)-y) Zo Zo
  show(vl _ _).has ((x+(65536-y))%65536)
  rw[show(x+(65536-y))%65536=(((x:Int)-y)%65536).toNat by omega];exact this
 ·cases hr;exact aa2 (Nat.mul_le_mul g l) (Nat.mul_le_mul d k)
 ·cases hr
  show(mb a b).has (x/y)
  have m:y≠0:=fun h=>u ⟨rfl,h⟩
  unfold mb;rw[if_neg Zo];refine⟨Nat.div_le_div g k m,?_⟩;exact Nat.div_le_div d Zo Zo
 ·cases hr;exact⟨Jt _,by show x &&& y<=min a.hi b.hi;have:=@Nat.and_le_left x y;have:=@Nat.and_le_right x y;omega⟩
 ·cases hr;have t:=@Nat.left_le_or x y;have h2:=@Nat.right_le_or x y;have h3:=(agw (x:=x) (y:=y) (h:=max a.hi b.hi) Zo Zo).1;exact⟨by show max a.lo b.lo<=x|||y;omega,h3⟩
 ·cases hr;exact⟨Jt _,(agw (x:=x) (y:=y) (h:=max a.hi b.hi) Zo Zo).2⟩
 ·cases hr
  show(if vu b=true then wl _ _ else xr).has (x*2^(y%16)%65536)
  split
  ·rename_i h
   have h:b.lo=b.hi:=of_decide_eq_true h;obtain rfl:y=b.lo:=by omega
   exact aa2 (Qw _ g) (Qw _ d)
  ·exact cw Zo
 ·cases hr;exact ae5 j i
 ·cases hr
  show(if 32768<=a.hi then xr else m0 a b).has ((s16 x/2^(y%16))%65536).toNat
  split
  ·exact cw Zo
  ·have hs:s16 x=(x:Int):=by unfold s16;rw[if_pos Zo]
   have hp:((x:Int)/2^(y%16)%65536).toNat=x/2^(y%16):=by
    have t:(x:Int)/2^(y%16)=((x/2^(y%16):Nat):Int):=by simp
    have h2:=Nat.div_le_self x (2^(y%16));rw[t];generalize x/2^(y%16)=q at *;omega
   rw[hs,hp];exact ae5 j i
 ·cases hr
  show(if a.hi<b.lo∨b.hi<a.lo then(⟨0,0⟩:Rg) else⟨0,1⟩).has (iw (decide (x=y)))
  split
  ·rw[decide_eq_false Zo];exact⟨Je _,Je _⟩
  ·exact afj _
 ·cases hr
  show(if a.hi<b.lo then(⟨1,1⟩:Rg) else if b.hi<=a.lo then⟨0,0⟩ else⟨0,1⟩).has (iw (decide (x<y)))
  split
  ·rw[decide_eq_true Zo];exact⟨Je _,Je _⟩
  ·split
   ·rw[decide_eq_false Zo];exact⟨Je _,Je _⟩
   ·exact afj _
 ·cases hr;exact afj _
theorem aeH {c:Int}{a b r:Rg}(hr:aeB c a b=some r):c=3∨c=4∨c=5∨c=6∨c=7∨c=8∨c=9∨c=10∨c=11∨c=12∨c=13∨c=14∨c=15∨c=16∨c=17∨c=19∨c=23:=by
 by_cases h:c=3∨c=4∨c=5∨c=6∨c=7∨c=8∨c=9∨c=10∨c=11∨c=12∨c=13∨c=14∨c=15∨c=16∨c=17∨c=19∨c=23
 ·exact h
 ·unfold aeB at hr;rw[if_neg Zo,if_neg Zo,if_neg Zo,if_neg Zo,if_neg Zo,if_neg Zo,if_neg Zo,if_neg Zo,if_neg Zo,if_neg Zo,if_neg Zo,if_neg Zo,if_neg Zo,if_neg Zo,if_neg Zo,if_neg Zo,if_neg Zo] at hr;cases hr
theorem agG {c:Int}(g:3<=c/\c<=17)(a b:Rg):∃r,aeB c a b=some r:=by
 have d:c=3∨c=4∨c=5∨c=6∨c=7∨c=8∨c=9∨c=10∨c=11∨c=12∨c=13∨c=14∨c=15∨c=16∨c=17:=Zo;rcases d with rfl|rfl|rfl|rfl|rfl|rfl|rfl|rfl|rfl|rfl|rfl|rfl|rfl|rfl|rfl<;>exact⟨_,rfl⟩
theorem agf {c:Int}{a b r:Rg}(hr:aeB c a b=some r)(g:a.ok)(hb:b.ok):r.ok:=by
 have d:=g.1;have j:=g.2;have i:=hb.1;have k:=hb.2;have hm:=agl (x:=max a.hi b.hi) Zo;have hl:=aga (max a.hi b.hi);have h:c=3∨c=4∨c=5∨c=6∨c=7∨c=8∨c=9∨c=10∨c=11∨c=12∨c=13∨c=14∨c=15∨c=16∨c=17∨c=19∨c=23:=aeH hr;rcases h with rfl|rfl|rfl|rfl|rfl|rfl|rfl|rfl|rfl|rfl|rfl|rfl|rfl|rfl|rfl|rfl|rfl<;>cases hr
 ·exact ac1 Zo
 ·exact⟨by show 65535-a.hi<=65535-a.lo;omega,by show 65535-a.lo<=65535;omega⟩
 ·exact ac1 Zo
 ·exact ac1 Zo
 ·exact aeJ (Nat.mul_le_mul d i)
 ·show(mb a b).ok
  unfold mb
  split
  ·exact sl
  ·exact⟨Nat.div_le_div d Zo Zo,Jn (Nat.div_le_self _ _) j⟩
 ·exact⟨Jt _,by show min a.hi b.hi<=65535;omega⟩
 ·exact⟨by show max a.lo b.lo<=ro _;omega,by show ro _<=65535;omega⟩
 ·exact⟨Jt _,by show ro _<=65535;omega⟩
 ·show(if vu b=true then wl _ _ else xr).ok
  split
  ·exact aeJ (Qw _ d)
  ·exact sl
 ·exact afL g
 ·show(if 32768<=a.hi then xr else m0 a b).ok
  split
  ·exact sl
  ·exact afL g
 ·show(if a.hi<b.lo∨b.hi<a.lo then(⟨0,0⟩:Rg) else⟨0,1⟩).ok
  split<;>exact⟨by decide,by decide⟩
 ·show(if a.hi<b.lo then(⟨1,1⟩:Rg) else if b.hi<=a.lo then⟨0,0⟩ else⟨0,1⟩).ok
  split
  ·exact⟨by decide,by decide⟩
  ·split<;>exact⟨by decide,by decide⟩
 all_goals exact⟨by decide,by decide⟩
theorem agt{c:Int}(d:3<=c/\c<=17)(k:x<65536)(j:y<65536)(i:¬(c=8/\y=0)):aeI c x y<65536:=by
 obtain⟨r,hr⟩:=agG d (afY x) (afY y);have h:(afY x).ok:=⟨Je _,by show x<=65535;omega⟩
 have g:(afY y).ok:=⟨Je _,by show y<=65535;omega⟩
 exact(rule_has d hr (agb x) (agb y) h g i).lt (agf hr h g)
theorem app_ok {c:Int}(j:1<=c){a b:Rg}(d:a.ok)(hb:b.ok):(agL c a b).ok:=by
 unfold agL
 split
 ·exact sl
 ·rename_i r hr
  split
  ·rename_i h
   split
   ·exact sl
   ·rename_i i
    have g:3<=c:=by have:=aeH hr;omega
    have:=agt (c:=c) (x:=a.lo) (y:=b.lo) ⟨g,h.1⟩ (by have:=d.1;have:=d.2;omega) (by have:=hb.1;have:=hb.2;omega) i;exact⟨Je _,by show aeI c a.lo b.lo<=65535;omega⟩
  ·exact agf hr d hb
structure Slv where
 r:List Rg
 kn:List Bool
def Slv.get (s:Slv)(v:Int):Rg:=s.r.getD v.toNat ⟨0,0⟩
def Slv.knw (s:Slv)(v:Int):Bool:=s.kn.getD v.toNat false
def Slv.put (s:Slv)(v:Int)(a:Rg):Slv:=⟨s.r.set v.toNat a,s.kn.set v.toNat true⟩
def lf (a b:Rg):Bool:=decide (a.lo=b.lo) && decide (a.hi=b.hi)
def agI (k:Nat)(a:Rg):Rg:=if 4<k then xr else a
def setF (k:Nat)(s:Slv)(v:Int)(a:Rg):Slv×Bool:=
 if s.knw v=true then(if lf (qs a (s.get v)) (s.get v)=true then(s,false) else(s.put v (agI k (qs a (s.get v))),true))
 else(s.put v (agI k a),true)
def aeS (p:IProg)(s:Slv)(o:IOp):Rg:=
 if o.code=1 then afY o.n
 else if o.code=2 then afY (((p.data.getD o.a.toNat ⟨0,0,0⟩).addr+o.n)%65536)
 else agL o.code (s.get o.a) (s.get o.b)
def l6 (k:Nat)(v:Int)(a:Rg)(q:Slv×Bool):Slv×Bool:=((setF k q.1 v a).1,q.2||(setF k q.1 v a).2)
def opS (p:IProg)(k:Nat)(q:Slv×Bool)(o:IOp):Slv×Bool:=if 0<=o.res then l6 k o.res (aeS p q.1 o) q else q
def argS (k:Nat)(q:Slv×Bool)(x:Int×Int):Slv×Bool:=l6 k x.1 (q.1.get x.2) q
def agN (blocks:List IBlk)(k:Nat)(q:Slv×Bool)(e:IEdge):Slv×Bool:=((xz blocks e.block).params.zip e.args).foldl (argS k) q
def afB (p:IProg)(blocks:List IBlk)(k:Nat)(q:Slv×Bool)(b:IBlk):Slv×Bool:=b.term.to.foldl (agN blocks k) (b.ops.foldl (opS p k) q)
def goS (p:IProg)(blocks:List IBlk)(k:Nat)(q:Slv×Bool)(i:Nat):Slv×Bool:=
 ((afB p blocks k (q.1,false) (xz blocks i)).1,q.2||(afB p blocks k (q.1,false) (xz blocks i)).2)
def m6 (p:IProg)(blocks:List IBlk)(order:List Nat)(k:Nat)(s:Slv):Slv×Bool:=order.foldl (goS p blocks k) (s,false)
def afR (p:IProg)(blocks:List IBlk)(order:List Nat):Nat->Nat->Slv->Slv
 |0,_,s=>s
 |n+1,k,s=>if(m6 p blocks order (k+1) s).2=true then afR p blocks order n (k+1) (m6 p blocks order (k+1) s).1 else(m6 p blocks order (k+1) s).1
def ae6 (n:Nat)(ps:List Int):Slv:=(ps.foldl (fun q v=>l6 0 v xr q) (⟨List.replicate n ⟨0,0⟩,List.replicate n false⟩,false)).1
def aa1 (s:Slv):List Rg:=(s.r.zip s.kn).map fun x=>if x.2=true then x.1 else xr
structure OkS (n:Nat) (s:Slv):Prop where
 rl:s.r.length=n
 kl:s.kn.length=n
 ok:∀a∈s.r,a.ok
theorem OkS.get {n:Nat}{s:Slv}(h:OkS n s)(v:Int):(s.get v).ok:=by
 unfold Slv.get;rw[Jj]
 cases e:s.r[v.toNat]? with
 |none=>exact⟨Je _,Jt _⟩
 |some a=>exact h.ok a (Ji e)
theorem OkS.put {n:Nat}{s:Slv}(h:OkS n s)(v:Int){a:Rg}(d:a.ok):OkS n (s.put v a):=
 ⟨by show(s.r.set _ _).length=n;rw[Nd,h.rl],by show(s.kn.set _ _).length=n;rw[Nd,h.kl],fun x c=>by
   rcases Qe c with c|rfl
   ·exact h.ok x c
   ·exact d⟩
theorem aeL {a b:Rg}(c:a.ok)(hb:b.ok):(qs a b).ok:=by
 have:=c.1;have:=c.2;have:=hb.1;have:=hb.2;exact⟨by show min a.lo b.lo<=max a.hi b.hi;omega,by show max a.hi b.hi<=65535;omega⟩
theorem cap_ok{a:Rg}(c:a.ok):(agI k a).ok:=by
 unfold agI
 split
 ·exact sl
 ·exact c
theorem OkS.set{n:Nat}{s:Slv}(h:OkS n s)(v:Int){a:Rg}(c:a.ok):OkS n (setF k s v a).1:=by
 unfold setF
 split
 ·split
  ·exact h
  ·exact h.put v (cap_ok (aeL c (h.get v)))
 ·exact h.put v (cap_ok c)
theorem OkS.step {n k:Nat}{q:Slv×Bool}(h:OkS n q.1)(v:Int){a:Rg}(c:a.ok):OkS n (l6 k v a q).1:=h.set v c
theorem Rg.ext' {a b:Rg}(d:a.lo=b.lo)(c:a.hi=b.hi):a=b:=by cases a;cases b;simp only at d c;subst d c;rfl
theorem aeR {a b:Rg}(h:lf a b=true):a=b:=by
 unfold lf at h;simp only[Jm,decide_eq_true_eq] at h;exact Rg.ext' h.1 h.2
theorem d9 (a:Rg):lf a a=true:=by simp[lf]
theorem afa{s:Slv}{v:Int}{a:Rg}(h:(setF k s v a).2=false):(setF k s v a).1=s/\s.knw v=true/\a.sub (s.get v):=by
 unfold setF at h ⊢
 by_cases d:s.knw v=true
 ·rw[if_pos d] at h ⊢
  by_cases c:lf (qs a (s.get v)) (s.get v)=true
  ·rw[if_pos c];have e:=aeR c;refine⟨rfl,d,?_,?_⟩
   ·rw[<-e];exact Nat.min_le_left _ _
   ·rw[<-e];exact Nat.le_max_left _ _
  ·rw[if_neg c] at h;cases h
 ·rw[if_neg d] at h;cases h
theorem gn{q:Slv×Bool}{v:Int}{a:Rg}(h:(l6 k v a q).2=false):q.2=false/\l6 k v a q=q/\q.1.knw v=true/\a.sub (q.1.get v):=by
 unfold l6 at h ⊢;rw[Bool.or_eq_false_iff] at h;obtain⟨d,i,g⟩:=afa h.2;refine⟨h.1,?_,i,g⟩;obtain⟨s,c⟩:=q;simp only at h d ⊢;rw[d,h.1,h.2];rfl
def nfL:List Rg->List Bool->Nat
 |a::rs,b::bs=>(if b=true/\lf a xr=true then 0 else 1)+nfL rs bs
 |_,_=>0
def Slv.nf (s:Slv):Nat:=nfL s.r s.kn
variable {g:Slv×Bool->Slv×Bool}
theorem nfL_le:∀(rs:List Rg) (bs:List Bool),nfL rs bs<=rs.length
 | [],_=>by simp[nfL]
 |a::rs,[]=>by simp[nfL]
 |a::rs,b::bs=>by
  have:=nfL_le rs bs;unfold nfL;rw[Nq]
  split<;>omega
theorem afv:∀(rs:List Rg) (bs:List Bool) (v:Nat) (a:Rg),rs.length=bs.length->v<rs.length->(bs.getD v false=true->rs.getD v ⟨0,0⟩=xr->a=xr)->
 nfL (rs.set v a) (bs.set v true)<=nfL rs bs/\(a=xr->¬(bs.getD v false=true/\rs.getD v ⟨0,0⟩=xr)->nfL (rs.set v a) (bs.set v true)<nfL rs bs)
 | [],_,v,a,hl,hv,h=>by simp at hv
 |x::rs,[],v,a,hl,hv,h=>by simp at hl
 |x::rs,b::bs,0,a,hl,hv,h=>by
  simp only[Jf,nfL,List.getD_cons_zero] at h ⊢
  by_cases e:a=xr
  ·subst e;rw[if_pos ⟨trivial,d9 _⟩];refine⟨by omega,fun _ hn=>?_⟩;rw[if_neg (fun hh=>hn ⟨hh.1,aeR hh.2⟩)];omega
  ·refine⟨?_,fun h1=>absurd h1 e⟩;rw[if_neg (fun hh:b=true/\lf x xr=true=>e (h hh.1 (aeR hh.2)))]
   split<;>omega
 |x::rs,b::bs,v+1,a,hl,hv,h=>by
  simp only[Nq] at hl hv;obtain⟨t1,t2⟩:=afv rs bs v a Zo Zo (by simpa using h);simp only[Jg,nfL,List.getD_cons_succ];exact⟨by omega,fun h1 h2=>by have:=t2 h1 h2;omega⟩
theorem ae4 {a:Rg}(c:a.ok):qs a xr=xr:=by
 have:=c.2;exact Rg.ext' (by show min a.lo 0=0;omega) (by show max a.hi 65535=65535;omega)
theorem set_nf{n:Nat}{s:Slv}(h:OkS n s){v:Int}(hv:v.toNat<n){a:Rg}(i:a.ok):(setF k s v a).1.nf<=s.nf/\(4<k->(setF k s v a).2=true->(setF k s v a).1.nf<s.nf):=by
 unfold setF
 by_cases c:s.knw v=true
 ·rw[if_pos c]
  by_cases g:lf (qs a (s.get v)) (s.get v)=true
  ·rw[if_pos g];exact⟨Je _,fun _ hc=>by cases hc⟩
  ·rw[if_neg g];have d:s.get v≠xr:=fun e=>g (by rw[e,ae4 i];exact d9 _)
   have:=afv s.r s.kn v.toNat (agI k (qs a (s.get v))) (by rw[h.rl,h.kl]) (by rw[h.rl];exact hv) (fun _ e=>absurd e d);exact⟨this.1,fun hk _=>this.2 (by unfold agI;rw[if_pos hk]) (fun hh=>d hh.2)⟩
 ·rw[if_neg c];have:=afv s.r s.kn v.toNat (agI k a) (by rw[h.rl,h.kl]) (by rw[h.rl];exact hv) (fun e _=>absurd e c);exact⟨this.1,fun hk _=>this.2 (by unfold agI;rw[if_pos hk]) (fun hh=>c hh.1)⟩
structure Goes (n k:Nat) (f:Slv×Bool->Slv×Bool):Prop where
 ok:∀q,OkS n q.1->OkS n (f q).1
 nf:∀q,OkS n q.1->(f q).1.nf<=q.1.nf
 lt:∀q,OkS n q.1->4<k->q.2=false->(f q).2=true->(f q).1.nf<q.1.nf
 up:∀q,q.2=true->(f q).2=true
 flag:∀s c,f (s,c)=((f (s,false)).1,c||(f (s,false)).2)
theorem Goes.id (n k:Nat):Goes n k (fun q=>q):=⟨fun _ h=>h,fun _ _=>Je _,(fun q _ _ h1 h2=>by rw[h1] at h2;cases h2),fun _ h=>h,fun s c=>by simp⟩
theorem Goes.comp{n:Nat}{f:Slv×Bool->Slv×Bool}(hf:Goes n k f)(hg:Goes n k g):Goes n k (fun q=>g (f q)) where
 ok:=fun q h=>hg.ok _ (hf.ok q h)
 nf:=fun q h=>Jn (hg.nf _ (hf.ok q h)) (hf.nf q h)
 lt:=fun q h hk h1 h2=>by
  by_cases d:(f q).2=true
  ·exact Nat.lt_of_le_of_lt (hg.nf _ (hf.ok q h)) (hf.lt q h hk h1 d)
  ·exact Jy (hg.lt _ (hf.ok q h) hk (by simpa using d) h2) (hf.nf q h)
 up:=fun q h=>hg.up _ (hf.up q h)
 flag:=fun s c=>by
  rw[hf.flag s c,hg.flag (f (s,false)).1 (c||(f (s,false)).2),hg.flag (f (s,false)).1 (f (s,false)).2,Bool.or_assoc]
theorem Goes.fold{α:Type}{n:Nat}{f:Slv×Bool->α->Slv×Bool}:∀(l:List α),(∀x∈l,Goes n k (fun q=>f q x))->Goes n k (fun q=>l.foldl f q)
 | [],_=>Goes.id n k
 |x::l,h=>Goes.comp (h x (.head _)) (Goes.fold l fun y hy=>h y (.tail _ hy))
theorem Goes.step {n k:Nat}{v:Int}(hv:v.toNat<n){a:Slv->Rg}(d:∀s,OkS n s->(a s).ok):Goes n k (fun q=>l6 k v (a q.1) q) where
 ok:=fun q h=>h.step v (d _ h)
 nf:=fun q h=>(set_nf h hv (d _ h)).1
 lt:=fun q h hk h1 h2=>by
  unfold l6 at h2;rw[h1,Bool.false_or] at h2;exact(set_nf h hv (d _ h)).2 hk h2
 up:=fun q h=>by unfold l6;rw[h];rfl
 flag:=fun s c=>by unfold l6;simp
def agD (n:Nat)(o:IOp):Prop:=0<=o.res->o.res.toNat<n/\1<=o.code/\(o.code=1->o.n<65536)
def pn (n:Nat)(blocks:List IBlk)(b:IBlk):Prop:=(∀o∈b.ops,agD n o)/\∀e∈b.term.to,∀v∈(xz blocks e.block).params,v.toNat<n
theorem agE{p:IProg}{n:Nat}{s:Slv}(h:OkS n s)(ho:agD n o)(i:0<=o.res):(aeS p s o).ok:=by
 unfold aeS;obtain⟨_,g,d⟩:=ho i
 split
 ·rename_i c;exact⟨Je _,by show o.n<=65535;have:=d c;omega⟩
 ·split
  ·exact⟨Je _,by show _%65536<=65535;omega⟩
  ·exact app_ok g (h.get _) (h.get _)
theorem goes_op{p:IProg}{n:Nat}(ho:agD n o):Goes n k (fun q=>opS p k q o):=by
 by_cases c:0<=o.res
 ·have:(fun q=>opS p k q o)=(fun q:Slv×Bool=>l6 k o.res (aeS p q.1 o) q):=by funext q;unfold opS;rw[if_pos c]
  rw[this];exact Goes.step (ho c).1 fun s hs=>agE hs ho c
 ·have:(fun q=>opS p k q o)=(fun q:Slv×Bool=>q):=by funext q;unfold opS;rw[if_neg c]
  rw[this];exact Goes.id n k
theorem goes_arg{n:Nat}{x:Int×Int}(c:x.1.toNat<n):Goes n k (fun q=>argS k q x):=Goes.step (a:=fun s=>s.get x.2) c fun s hs=>hs.get _
theorem agy{n:Nat}{e:IEdge}(h:∀v∈(xz blocks e.block).params,v.toNat<n):Goes n k (fun q=>agN blocks k q e):=
 Goes.fold _ fun x hx=>goes_arg (h _ (List.of_mem_zip hx).1)
theorem afE{p:IProg}{n:Nat}{b:IBlk}(h:pn n blocks b):Goes n k (fun q=>afB p blocks k q b):=
 Goes.comp (Goes.fold _ fun o ho=>goes_op (h.1 o ho)) (Goes.fold _ fun e he=>agy (h.2 e he))
theorem agH{p:IProg}{n:Nat}(h:pn n blocks (xz blocks i))(q:Slv×Bool):goS p blocks k q i=afB p blocks k q (xz blocks i):=by
 obtain⟨s,c⟩:=q;exact((afE (p:=p) (k:=k) h).flag s c).symm
theorem goes_go{p:IProg}{n:Nat}(h:pn n blocks (xz blocks i)):Goes n k (fun q=>goS p blocks k q i):=by
 have:(fun q=>goS p blocks k q i)=(fun q=>afB p blocks k q (xz blocks i)):=by funext q;exact agH h q
 rw[this];exact afE h
theorem ft{p:IProg}{n:Nat}(h:∀i∈c,pn n blocks (xz blocks i)):Goes n k (fun q=>c.foldl (goS p blocks k) q):=
 Goes.fold _ fun i hi=>goes_go (h i hi)
def ff (k:Nat)(s:Slv):Nat:=(4-k)+s.nf
theorem a7{p:IProg}{n:Nat}(h:∀i∈c,pn n blocks (xz blocks i)){s:Slv}(hs:OkS n s)(d:(m6 p blocks c (k+1) s).2=true):
 ff (k+1) (m6 p blocks c (k+1) s).1<ff k s:=by
 have hg:=ft (p:=p) (k:=k+1) h;have j:(m6 p blocks c (k+1) s).1.nf<=s.nf:=hg.nf (s,false) hs;have g:4<k+1->false=false->(m6 p blocks c (k+1) s).2=true->(m6 p blocks c (k+1) s).1.nf<s.nf:=hg.lt (s,false) hs;unfold ff
 by_cases hk:4<k+1
 ·have:=g hk rfl d;omega
 ·omega
def agM (p:IProg)(blocks:List IBlk)(order:List Nat)(k:Nat)(s:Slv):Slv:=afR p blocks order (ff k s+1) k s
theorem afb{p:IProg}{n:Nat}(h:∀i∈c,pn n blocks (xz blocks i)):∀(j j' k:Nat) (s:Slv),OkS n s->ff k s<j->ff k s<j'->afR p blocks c j k s=afR p blocks c j' k s
 |0,_,k,s,_,h1,_=>absurd h1 (Nat.not_lt_zero _)
 |_+1,0,k,s,_,_,h1=>absurd h1 (Nat.not_lt_zero _)
 |j+1,j'+1,k,s,hs,h1,h2=>by
  unfold afR
  split
  ·rename_i hc
   have hm:=a7 h hs hc;exact afb h j j' (k+1) _ ((ft (p:=p) (k:=k+1) h).ok (s,false) hs) Zo Zo
  ·rfl
theorem aeT{p:IProg}{n:Nat}(h:∀i∈c,pn n blocks (xz blocks i)){s:Slv}(hs:OkS n s):
 agM p blocks c k s=if(m6 p blocks c (k+1) s).2=true then agM p blocks c (k+1) (m6 p blocks c (k+1) s).1 else(m6 p blocks c (k+1) s).1:=by
 unfold agM;rw[afR]
 split
 ·rename_i d
  have hm:=a7 h hs d;exact afb h _ _ (k+1) _ ((ft (p:=p) (k:=k+1) h).ok (s,false) hs) Zo Zo
 ·rfl
def ky (f:Slv×Bool->Slv×Bool)(P:Slv->Prop):Prop:=∀q,(f q).2=false->f q=q/\q.2=false/\P q.1
theorem ky.comp{f:Slv×Bool->Slv×Bool}{P Q:Slv->Prop}(hf:ky f P)(hg:ky g Q):ky (fun q=>g (f q)) (fun s=>P s/\Q s):=fun q h=>by
 obtain⟨i,l,d⟩:=hg _ h;obtain⟨c,k,j⟩:=hf q l;rw[c] at i d;exact⟨by show g (f q)=q;rw[c];exact i,k,j,d⟩
theorem ky.fold {α:Type}{f:Slv×Bool->α->Slv×Bool}{P:α->Slv->Prop}:∀(l:List α),(∀x∈l,ky (fun q=>f q x) (P x))->ky (fun q=>l.foldl f q) (fun s=>∀x∈l,P x s)
 | [],_=>fun q h=>⟨rfl,h,fun x hx=>by cases hx⟩
 |x::l,h=>fun q hq=>by
  obtain⟨h1,h2,h3,h4⟩:=ky.comp (h x (.head _)) (ky.fold l fun y c=>h y (.tail _ c)) q hq
  exact⟨h1,h2,fun y c=>by
   rcases Jq.1 c with rfl|c
   ·exact h3
   ·exact h4 y c⟩
def FixOp (p:IProg)(o:IOp)(s:Slv):Prop:=0<=o.res->s.knw o.res=true/\(aeS p s o).sub (s.get o.res)
def FixArg (x:Int×Int)(s:Slv):Prop:=s.knw x.1=true/\(s.get x.2).sub (s.get x.1)
def agc (p:IProg)(blocks:List IBlk)(b:IBlk)(s:Slv):Prop:=(∀o∈b.ops,FixOp p o s)/\∀e∈b.term.to,∀x∈(xz blocks e.block).params.zip e.args,FixArg x s
theorem still_op{p:IProg}:ky (fun q=>opS p k q o) (FixOp p o):=fun q h=>by
 show opS p k q o=q/\_
 have h:(opS p k q o).2=false:=h;unfold opS at h ⊢
 by_cases c:0<=o.res
 ·rw[if_pos c] at h ⊢;obtain⟨j,i,g,d⟩:=gn h;exact⟨i,j,fun _=>⟨g,d⟩⟩
 ·rw[if_neg c] at h ⊢;exact⟨rfl,h,fun hh=>absurd hh c⟩
theorem af9{x:Int×Int}:ky (fun q=>argS k q x) (FixArg x):=fun q h=>by
 obtain⟨i,g,d,c⟩:=gn h;exact⟨g,i,d,c⟩
theorem agx{p:IProg}{b:IBlk}:ky (fun q=>afB p blocks k q b) (agc p blocks b):=
 ky.comp (ky.fold _ fun o _=>still_op) (ky.fold _ fun e _=>ky.fold _ fun x _=>af9)
theorem afi{p:IProg}{n:Nat}(h:∀i∈c,pn n blocks (xz blocks i)):ky (fun q=>c.foldl (goS p blocks k) q) (fun s=>∀i∈c,agc p blocks (xz blocks i) s):=
 ky.fold _ fun i hi=>by
  have:(fun q=>goS p blocks k q i)=(fun q=>afB p blocks k q (xz blocks i)):=by funext q;exact agH (h i hi) q
  rw[this];exact agx
def il (s t:Slv):Prop:=∀v:Int,s.knw v=true->t.knw v=true/\(s.get v=xr->t.get v=xr)
theorem il.refl (s:Slv):il s s:=fun v h=>⟨h,fun h=>h⟩
theorem il.trans {s t u:Slv}(h:il s t)(k:il t u):il s u:=fun v hv=>⟨(k v (h v hv).1).1,fun e=>(k v (h v hv).1).2 ((h v hv).2 e)⟩
theorem aeY {n:Nat}{s:Slv}(hs:OkS n s){v:Int}(hv:v.toNat<n){a:Rg}(h:s.knw v=true->s.get v=xr->a=xr):il s (s.put v a):=fun u hu=>by
 unfold Slv.knw Slv.get Slv.put at *;simp only[Jj] at *
 by_cases e:v.toNat=u.toNat
 ·rw[e] at hv h ⊢;rw[Nn (by rw[hs.kl];exact hv),Nn (by rw[hs.rl];exact hv)];exact⟨rfl,fun h2=>h hu h2⟩
 ·rw[Ns e,Ns e];exact⟨hu,fun h=>h⟩
theorem af6{n:Nat}{s:Slv}(hs:OkS n s){v:Int}(hv:v.toNat<n){a:Rg}(g:a.ok):il s (setF k s v a).1:=by
 unfold setF
 by_cases d:s.knw v=true
 ·rw[if_pos d]
  by_cases c:lf (qs a (s.get v)) (s.get v)=true
  ·rw[if_pos c];exact il.refl s
  ·rw[if_neg c];exact aeY hs hv fun _ e=>absurd (show lf (qs a (s.get v)) (s.get v)=true by rw[e,ae4 g];exact d9 _) c
 ·rw[if_neg d];exact aeY hs hv fun h=>absurd h d
structure Keeps (n:Nat) (f:Slv×Bool->Slv×Bool):Prop where
 ok:∀q,OkS n q.1->OkS n (f q).1
 kn:∀q,OkS n q.1->il q.1 (f q).1
theorem Keeps.comp{n:Nat}{f:Slv×Bool->Slv×Bool}(hf:Keeps n f)(hg:Keeps n g):Keeps n (fun q=>g (f q)):=
 ⟨fun q h=>hg.ok _ (hf.ok q h),fun q h=>(hf.kn q h).trans (hg.kn _ (hf.ok q h))⟩
theorem Keeps.fold {α:Type}{n:Nat}{f:Slv×Bool->α->Slv×Bool}:∀(l:List α),(∀x∈l,Keeps n (fun q=>f q x))->Keeps n (fun q=>l.foldl f q)
 | [],_=>⟨fun _ h=>h,fun q _=>il.refl _⟩
 |x::l,h=>Keeps.comp (h x (.head _)) (Keeps.fold l fun y hy=>h y (.tail _ hy))
theorem em{n:Nat}{v:Int}(hv:v.toNat<n){a:Slv->Rg}(c:∀s,OkS n s->(a s).ok):Keeps n (fun q=>l6 k v (a q.1) q):=
 ⟨fun q h=>h.step v (c _ h),fun q h=>af6 h hv (c _ h)⟩
theorem keeps_op{p:IProg}{n:Nat}(ho:agD n o):Keeps n (fun q=>opS p k q o):=by
 by_cases c:0<=o.res
 ·have:(fun q=>opS p k q o)=(fun q:Slv×Bool=>l6 k o.res (aeS p q.1 o) q):=by funext q;unfold opS;rw[if_pos c]
  rw[this];exact em (ho c).1 fun s hs=>agE hs ho c
 ·have:(fun q=>opS p k q o)=(fun q:Slv×Bool=>q):=by funext q;unfold opS;rw[if_neg c]
  rw[this];exact⟨fun _ h=>h,fun q _=>il.refl _⟩
theorem agF{p:IProg}{n:Nat}{b:IBlk}(h:pn n blocks b):Keeps n (fun q=>afB p blocks k q b):=
 Keeps.comp (Keeps.fold _ fun o ho=>keeps_op (h.1 o ho)) (Keeps.fold _ fun e he=>Keeps.fold _ fun x hx=>em (a:=fun s=>s.get x.2) (h.2 e he _ (List.of_mem_zip hx).1) fun s hs=>hs.get _)
theorem afz{p:IProg}{n:Nat}(h:∀i∈c,pn n blocks (xz blocks i)):Keeps n (fun q=>c.foldl (goS p blocks k) q):=
 Keeps.fold _ fun i hi=>by
  have:(fun q=>goS p blocks k q i)=(fun q=>afB p blocks k q (xz blocks i)):=by funext q;exact agH (h i hi) q
  rw[this];exact agF (h i hi)
structure EndOk (p:IProg) (n:Nat) (blocks:List IBlk) (order:List Nat) (s t:Slv):Prop where
 ok:OkS n t
 kn:il s t
 fix:∀i∈order,agc p blocks (xz blocks i) t
theorem end_ok {p:IProg}{n:Nat}{blocks:List IBlk}{c:List Nat}(h:∀i∈c,pn n blocks (xz blocks i)):∀(j k:Nat) (s:Slv),OkS n s->ff k s<j->EndOk p n blocks c s (agM p blocks c k s)
 |0,k,s,_,h1=>absurd h1 (Nat.not_lt_zero _)
 |j+1,k,s,hs,h1=>by
  rw[aeT h hs];have hk:=afz (p:=p) (k:=k+1) h
  split
  ·rename_i d
   have:=end_ok (p:=p) h j (k+1) (m6 p blocks c (k+1) s).1 (hk.ok (s,false) hs) (by have:=a7 h hs d;omega);exact⟨this.ok,(hk.kn (s,false) hs).trans this.kn,this.fix⟩
  ·rename_i d
   obtain⟨l,_,g⟩:=afi (p:=p) (k:=k+1) h (s,false) (by simpa[m6] using d)
   have e:(m6 p blocks c (k+1) s).1=s:=by
    show(c.foldl (goS p blocks (k+1)) (s,false)).1=s
    have:c.foldl (goS p blocks (k+1)) (s,false)=(s,false):=l;rw[this]
   rw[e];exact⟨hs,il.refl s,g⟩
theorem end_ok'{p:IProg}{n:Nat}(h:∀i∈c,pn n blocks (xz blocks i)){s:Slv}(hs:OkS n s):EndOk p n blocks c s (agM p blocks c k s):=end_ok h _ k s hs (Nat.lt_succ_self _)
theorem empty_ok (n:Nat):OkS n ⟨List.replicate n ⟨0,0⟩,List.replicate n false⟩:=
 ⟨by simp,by simp,fun a ha=>by rw[List.eq_of_mem_replicate ha];exact⟨Je _,Jt _⟩⟩
theorem afq{n:Nat}(h:∀v∈ps,v.toNat<n):Keeps n (fun q=>ps.foldl (fun q v=>l6 0 v xr q) q):=Keeps.fold _ fun v hv=>em (a:=fun _=>xr) (h v hv) fun _ _=>sl
theorem start_ok{n:Nat}(h:∀v∈ps,v.toNat<n):OkS n (ae6 n ps):=(afq h).ok (_,false) (empty_ok n)
end Go.Proofs.Ytoahcpkibpomcaa
