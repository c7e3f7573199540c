/- Part of a proof. -/
import Derived.Test.YtoahcpkibpomcaaGreatSp
set_option linter.all false
namespace Go.Proofs.YtoahcpkibpomcaaGreat
variable {i k x y:Nat}{c:Int}{ps:List Int}
structure IOp where
 code:Int
 res:Int
 a:Int
 b:Int
 n:Nat
 args:List Int
variable {o:IOp}
structure IEdge where
 block:Int
 args:List Int
structure ITerm where
 kind:Int
 a:Int
 to:List IEdge
structure IBlk where
 params:List Int
 ops:List IOp
 term:ITerm
variable {blocks:List IBlk}
structure IObj where
 bank:Int
 addr:Nat
 size:Nat
structure IProg where
 funcs:List (List IBlk)
 args:List Int
 entry:Int
 handler:Int
 data:List IObj
 banks:List ByteArray
structure Mach where
 ram:List Nat
 fuel:Int
 out:List (Nat×Nat)
 inputs:Nat
 polls:Nat
structure IEnv where
 p:IProg
 inn:List Nat
 irq:List Nat
inductive Res (α:Type) where
 |ok (x:α) (m:Mach)
 |trap (k i:Nat) (m:Mach)
def s16 (a:Nat):Int:=if a<32768 then(a:Int) else(a:Int)-65536
def iw (b:Bool):Nat:=if b then 1 else 0
def yW (code:Int)(a b:Nat):Nat:=
 if code=5 then(a+b)%65536
 else if code=6 then(a+(65536-b))%65536
 else if code=7 then a*b%65536
 else if code=8 then a/b
 else if code=9 then a &&& b
 else if code=10 then a|||b
 else if code=11 then a^^^b
 else if code=12 then a*2^(b%16)%65536
 else if code=13 then a/2^(b%16)
 else if code=14 then((s16 a/2^(b%16))%65536).toNat
 else if code=15 then iw (decide (a=b))
 else if code=16 then iw (decide (a<b))
 else iw (decide (s16 a<s16 b))
def wo (a:Nat):Bool:=decide (16384<=a) && decide (a<24576)
def tC (m:Mach)(a:Nat):Nat:=m.ram.getD (a-16384) 0
def sJ (E:IEnv)(bank a:Nat):Bool:=decide (bank<E.p.banks.length) && decide (a<4096)
def tS (E:IEnv)(bank a:Nat):Nat:=((E.p.banks.getD bank ⟨#[]⟩).data.getD a 0).toNat
def Mach.pay (m:Mach):Mach:= {m with fuel:=m.fuel-1 }
def Mach.put (m:Mach)(a x:Nat):Mach:= {m with ram:=m.ram.set (a-16384) x }
variable {m m':Mach}{call:Int->List Nat->Mach->Res Nat}
def xe (a:Nat):Nat:=(a+1)%65536
def abh (m:Mach)(a:Nat):Res Nat:=if wo a then .ok (tC m a) m else .trap 2 a m
def pR (m:Mach)(a:Nat):Res Nat:=
 if wo a then(if wo (xe a) then .ok (tC m a+256*tC m (xe a)) m else .trap 2 (xe a) m) else .trap 2 a m
def td (m:Mach)(a x:Nat):Res Nat:=if wo a then .ok 0 (m.put a (x%256)) else .trap 2 a m
def sK (m:Mach)(a x:Nat):Res Nat:=
 if wo a then(if wo (xe a) then .ok 0 ((m.put a (x%256)).put (xe a) (x/256)) else .trap 2 (xe a) m) else .trap 2 a m
def nX (E:IEnv)(m:Mach)(bank a:Nat):Res Nat:=if sJ E bank a then .ok (tS E bank a) m else .trap 2 a m
def im (E:IEnv)(m:Mach)(bank a:Nat):Res Nat:=
 if sJ E bank a then(if sJ E bank (xe a) then .ok (tS E bank a+256*tS E bank (xe a)) m else .trap 2 (xe a) m) else .trap 2 a m
def uq (E:IEnv)(m:Mach):Res Nat:=
 if m.inputs<E.inn.length then .ok (E.inn.getD m.inputs 0) {m with inputs:=m.inputs+1 } else .ok 0 m
def adS (m:Mach)(port x:Nat):Res Nat:=.ok 0 {m with out:=m.out++ [(port,x)]}
def iy (m:Mach)(code:Int)(a b:Nat):Res Nat:=if code=8/\b=0 then .trap 4 0 m else .ok (yW code a b) m
def mU (E:IEnv)(o:IOp)(a b:Nat)(m:Mach):Res Nat:=
 if o.code=1 then .ok o.n m
 else if o.code=2 then .ok ((((E.p.data.getD o.a.toNat ⟨0,0,0⟩).addr)+o.n)%65536) m
 else if o.code=3 then .ok ((65536-a)%65536) m
 else if o.code=4 then .ok (65535-a) m
 else if o.code=18 then pR m a
 else if o.code=19 then abh m a
 else if o.code=20 then sK m a b
 else if o.code=21 then td m a b
 else if o.code=22 then im E m o.n a
 else if o.code=23 then nX E m o.n a
 else if o.code=24 then uq E m
 else if o.code=25 then adS m o.n a
 else iy m o.code a b
def tY (E:IEnv)(call:Int->List Nat->Mach->Res Nat)(m:Mach):Res Nat:=
 if m.polls<E.irq.length then
  (if E.irq.getD m.polls 0≠0/\E.p.handler≠-1 then
    (match call E.p.handler [] {m with polls:=m.polls+1 } with
      |.ok _ m'=> .ok 0 m'
      |.trap k i m'=> .trap k i m')
    else .ok 0 {m with polls:=m.polls+1 })
 else .ok 0 m
def oV (E:IEnv)(call:Int->List Nat->Mach->Res Nat)(o:IOp)(v:Int->Nat)(m:Mach):Res Nat:=
 if o.code=26 then call o.a (o.args.map v) m
 else if o.code=27 then tY E call m
 else mU E o (v o.a) (v o.b) m
def iY (v:Int->Nat)(x:Int)(r:Nat):Int->Nat:=fun y=>if y=x then r else v y
def setV (v:Int->Nat)(x:Int)(r:Nat):Int->Nat:=if 0<=x then iY v x r else v
def iq (E:IEnv)(call:Int->List Nat->Mach->Res Nat):List IOp->(Int->Nat)->Mach->Res (Int->Nat)
 | [],v,m=> .ok v m
 |o::os,v,m=>
  if m.fuel<=0 then .trap 7 0 m
  else match oV E call o v m.pay with
   |.ok r m'=>iq E call os (setV v o.res r) m'
   |.trap k i m'=> .trap k i m'
def r7:List Int->List Nat->(Int->Nat)->(Int->Nat)
 |p::ps,a::as,v=>r7 ps as (iY v p a)
 |_,_,v=>v
def wK (t:ITerm)(a:Nat):IEdge:=
 if t.kind=2/\a=0 then t.to.getD 1 ⟨0,[]⟩
 else if t.kind=3 then t.to.getD (min a (t.to.length-1)) ⟨0,[]⟩
 else t.to.getD 0 ⟨0,[]⟩
def xz (blocks:List IBlk)(at':Int):IBlk:=blocks.getD at'.toNat ⟨[],[],⟨0,0,[]⟩⟩
def tJ (E:IEnv)(call:Int->List Nat->Mach->Res Nat)(blocks:List IBlk):Nat->Int->List Nat->(Int->Nat)->Mach->Res Nat
 |0,_,_,_,m=> .trap 7 0 m
 |n+1,at',args,v,m=>
  match iq E call (xz blocks at').ops (r7 (xz blocks at').params args v) m with
  |.trap k i m'=> .trap k i m'
  |.ok v2 m2=>
   if m2.fuel<=0 then .trap 7 0 m2
   else if(xz blocks at').term.kind=4 then .ok (if(xz blocks at').term.a=-1 then 0 else v2 (xz blocks at').term.a) m2.pay
   else if(xz blocks at').term.kind=5 then .trap 1 0 m2.pay
   else tJ E call blocks n (wK (xz blocks at').term (v2 (xz blocks at').term.a)).block ((wK (xz blocks at').term (v2 (xz blocks at').term.a)).args.map v2) v2 m2.pay
def xW (E:IEnv):Nat->Int->List Nat->Mach->Res Nat
 |0,_,_,m=> .trap 5 0 m
 |r+1,f,args,m=>
  if(E.p.funcs.getD f.toNat []).isEmpty then .trap 8 (f%65536).toNat m
  else tJ E (xW E r) (E.p.funcs.getD f.toNat []) (m.fuel.toNat+1) 0 args (fun _=>0) m
structure IRun where
 value:Nat
 out:List (Nat×Nat)
 kind:Nat
 info:Nat
 ram:List Nat
 inputs:Nat
 polls:Nat
def adO:Res Nat->IRun
 |.ok x m=>⟨x,m.out,6,0,m.ram,m.inputs,m.polls⟩
 |.trap k i m=>⟨0,m.out,k,i,m.ram,m.inputs,m.polls⟩
def v7 (s:ByteArray):List Nat:=(List.range 8192).map fun k=>(s.data.getD k 0).toNat
def bQ (E:IEnv)(f:Int)(args:List Nat)(ram:ByteArray)(fuel:Int):IRun:=adO (xW E 100 f args ⟨v7 ram,fuel,[],0,0⟩)
def OkOp (p:IProg)(o:IOp):Prop:=
 (1<=o.code/\o.code<=27)/\(o.code=2->0<=o.a/\o.a.toNat<p.data.length)/\(o.code=26->0<=o.a/\o.a.toNat<p.funcs.length/\(o.args.length:Int)=p.args.getD o.a.toNat 0)
def bS (blocks:List IBlk)(t:ITerm):Prop:=
 (t.kind=1∨t.kind=2∨t.kind=3∨t.kind=4∨t.kind=5)/\(t.kind=1->1<=t.to.length)/\(t.kind=2->2<=t.to.length)/\(t.kind=3->1<=t.to.length)/\
  ∀e∈t.to,1<=e.block/\e.block.toNat<blocks.length/\e.args.length=(xz blocks e.block).params.length
def OkBlk (p:IProg)(blocks:List IBlk)(b:IBlk):Prop:=(∀o∈b.ops,OkOp p o)/\bS blocks b.term/\b.params.length<=65536
structure OkProg (p:IProg):Prop where
 blk:∀blocks∈p.funcs,∀b∈blocks,OkBlk p blocks b
 par:∀(i:Nat) (b:IBlk) (bs:List IBlk),p.funcs[i]? =some (b::bs)->(b.params.length:Int)=p.args.getD i 0
 hnd:p.handler≠-1->0<=p.handler/\p.handler.toNat<p.funcs.length/\p.args.getD p.handler.toNat 0=0
 bank:∀s∈p.banks,s.size=4096
 argle:∀i,p.args.getD i 0<=65536
 alen:p.args.length=p.funcs.length
theorem lL{t:ITerm}(h:bS blocks t)(f:t.kind≠4)(d:t.kind≠5)(a:Nat):wK t a∈t.to:=by
 have c:∀k,k<t.to.length->t.to.getD k ⟨0,[]⟩∈t.to:=fun k hk=>by rw[Jj,Jd hk];exact Uf hk
 unfold wK;obtain⟨h0,h1,h2,h3,_⟩:=h
 by_cases c2:t.kind=2/\a=0
 ·rw[if_pos c2];exact c 1 (h2 c2.1)
 ·rw[if_neg c2]
  by_cases c3:t.kind=3
  ·rw[if_pos c3];have:=h3 c3;exact c _ Zo
  ·rw[if_neg c3];rcases h0 with h0|h0|h0|h0|h0
   ·exact c 0 (h1 h0)
   ·exact c 0 (by have:=h2 h0;omega)
   ·exact absurd h0 c3
   ·exact absurd h0 f
   ·exact absurd h0 d
theorem qq:∀(ps:List Int) (as:List Nat) (v:Int->Nat) (p:Int) (a:Nat),ps.length=as.length->r7 (ps++ [p]) (as++ [a]) v=iY (r7 ps as v) p a
 | [],[],v,p,a,_=>rfl
 | [],_::_,_,_,_,h=>by simp at h
 |_::_,[],_,_,_,h=>by simp at h
 |p'::ps,a'::as,v,p,a,h=>by
  show r7 (ps++ [p]) (as++ [a]) (iY v p' a')=iY (r7 ps as (iY v p' a')) p a
  exact qq ps as _ p a (by simpa using h)
structure Rg where
 lo:Nat
 hi:Nat
def zx:Rg:=⟨0,65535⟩
def Rg.has (a:Rg)(x:Nat):Prop:=a.lo<=x/\x<=a.hi
def Rg.ok (a:Rg):Prop:=a.lo<=a.hi/\a.hi<=65535
def Rg.sub (a b:Rg):Prop:=b.lo<=a.lo/\a.hi<=b.hi
def pt (n:Nat):Rg:=⟨n,n⟩
def yf (a:Rg):Bool:=decide (a.lo=a.hi)
def tn (a b:Rg):Rg:=⟨min a.lo b.lo,max a.hi b.hi⟩
def wb (lo hi:Int):Rg:=if lo/65536=hi/65536 then⟨(lo%65536).toNat,(hi%65536).toNat⟩ else zx
def wk (lo hi:Nat):Rg:=if hi<=65535 then⟨lo,hi⟩ else zx
def tx (x:Nat):Nat:=if x=0 then 0 else 2*tx (x/2)+1
termination_by x
decreasing_by omega
def qj (a b:Rg):Rg:=if b.hi=0 then zx else⟨a.lo/b.hi,a.hi/max b.lo 1⟩
def ro (a b:Rg):Rg:=if yf b then⟨a.lo/2^(b.lo%16),a.hi/2^(b.lo%16)⟩ else⟨0,a.hi⟩
def n5 (c:Int)(a b:Rg):Option Rg:=
 if c=3 then some (wb (-(a.hi:Int)) (-(a.lo:Int)))
 else if c=4 then some ⟨65535-a.hi,65535-a.lo⟩
 else if c=5 then some (wb ((a.lo:Int)+b.lo) ((a.hi:Int)+b.hi))
 else if c=6 then some (wb ((a.lo:Int)-b.hi) ((a.hi:Int)-b.lo))
 else if c=7 then some (wk (a.lo*b.lo) (a.hi*b.hi))
 else if c=8 then some (qj a b)
 else if c=9 then some ⟨0,min a.hi b.hi⟩
 else if c=10 then some ⟨max a.lo b.lo,tx (max a.hi b.hi)⟩
 else if c=11 then some ⟨0,tx (max a.hi b.hi)⟩
 else if c=12 then some (if yf b then wk (a.lo*2^(b.lo%16)) (a.hi*2^(b.lo%16)) else zx)
 else if c=13 then some (ro a b)
 else if c=14 then some (if 32768<=a.hi then zx else ro a b)
 else if c=15 then some (if a.hi<b.lo∨b.hi<a.lo then⟨0,0⟩ else⟨0,1⟩)
 else if c=16 then some (if a.hi<b.lo then⟨1,1⟩ else if b.hi<=a.lo then⟨0,0⟩ else⟨0,1⟩)
 else if c=17 then some ⟨0,1⟩
 else if c=19 then some ⟨0,255⟩
 else if c=23 then some ⟨0,255⟩
 else none
def pp (c:Int)(a b:Nat):Nat:=if c=3 then(65536-a)%65536 else if c=4 then 65535-a else yW c a b
def em (c:Int)(a b:Rg):Rg:=
 match n5 c a b with
 |none=>zx
 |some r=>if c<=17/\yf a=true/\((c=3∨c=4)∨yf b=true) then(if c=8/\b.lo=0 then zx else pt (pp c a.lo b.lo)) else r
theorem o4(h:x<65536):zx.has x:=⟨Jt _,by show x<=65535;omega⟩
theorem xr:zx.ok:=⟨Jt _,Je _⟩
theorem n8 (x:Nat):(pt x).has x:=⟨Je _,Je _⟩
theorem Rg.has.lt{a:Rg}(h:a.has x)(c:a.ok):x<65536:=by have:=h.2;have:=c.2;omega
theorem ix {lo hi z:Int}(h1:lo<=z)(h2:z<=hi):(wb lo hi).has (z%65536).toNat:=by
 unfold wb
 split
 ·rename_i h
  exact⟨by show(lo%65536).toNat<=_;omega,by show _<=(hi%65536).toNat;omega⟩
 ·exact o4 Zo
theorem aw {lo hi:Int}(h:lo<=hi):(wb lo hi).ok:=by
 unfold wb
 split
 ·exact⟨by show(lo%65536).toNat<=(hi%65536).toNat;omega,by show(hi%65536).toNat<=_;omega⟩
 ·exact xr
theorem aeC {lo hi z:Nat}(h1:lo<=z)(h2:z<=hi):(wk lo hi).has (z%65536):=by
 unfold wk
 split
 ·rw[Nat.mod_eq_of_lt Zo];exact⟨h1,h2⟩
 ·exact o4 Zo
theorem aeJ {lo hi:Nat}(h:lo<=hi):(wk lo hi).ok:=by
 unfold wk
 split
 ·exact⟨h,by assumption⟩
 ·exact xr
theorem l5:∀x:Nat,∃k,tx x+1=2^k/\x<2^k/\(x<65536->k<=16):=by
 intro x
 induction x using Nat.strongRecOn with
 |_ x ih=>
  by_cases h:x=0
  ·exact⟨0,by rw[tx,if_pos h],by subst h;decide,fun _=>Jt _⟩
  ·obtain⟨k,h1,h2,h3⟩:=ih (x/2) Zo;refine⟨k+1,by rw[tx,if_neg h,Nat.pow_succ];omega,by rw[Nat.pow_succ];omega,fun h4=>?_⟩
   by_cases hk:k<=15
   ·omega
   ·obtain rfl:k=16:=by have:=h3 Zo;omega
    exfalso;have:tx (x/2)+1=65536:=h1
    have d:∀j y,y<2^j->tx y<2^j:=by
     intro j
     induction j with
     |zero=>intro y c;have:y=0:=by simpa using c
            rw[tx,if_pos this];exact Nat.zero_lt_one
     |succ j ih2=>
      intro y c;rw[tx]
      split
      ·exact Nat.pos_of_ne_zero Zs
      ·have:=ih2 (y/2) (by rw[Nat.pow_succ] at c;omega);rw[Nat.pow_succ];omega
    have:=d 15 (x/2) (by show x/2<32768;omega);have f:(2:Nat)^15=32768:=rfl;omega
theorem af6:∀(x m k:Nat),m+1=2^k->x<=m->tx x<=m:=by
 intro x
 induction x using Nat.strongRecOn with
 |_ x ih=>
  intro m k hk c
  by_cases h:x=0
  ·rw[tx,if_pos h];exact Jt _
  ·cases k with
   |zero=>simp at hk;omega
   |succ k=>
    rw[Nat.pow_succ] at hk;have:=ih (x/2) Zo ((m-1)/2) k Zo Zo;rw[tx,if_neg h];omega
theorem agR (x:Nat):x<=tx x:=by
 obtain⟨k,h1,h2,_⟩:=l5 x;omega
theorem aeY(h:x<65536):tx x<65536:=by
 obtain⟨k,h1,h2,h3⟩:=l5 x;have:=Nat.pow_le_pow_right (show 0<2 by decide) (h3 h);have c:(2:Nat)^16=65536:=rfl;omega
theorem agK{h:Nat}(d:x<=h)(c:y<=h):x|||y<=tx h/\x^^^y<=tx h:=by
 obtain⟨k,h1,h2,_⟩:=l5 h;have a:=Nat.or_lt_two_pow (n:=k) (x:=x) (y:=y) Zo Zo;have b:=Nat.xor_lt_two_pow (n:=k) (x:=x) (y:=y) Zo Zo;omega
theorem afr{a b:Rg}(c:a.has x)(d:b.has y):(ro a b).has (x/2^(y%16)):=by
 unfold ro
 split
 ·rename_i h
  have h:b.lo=b.hi:=of_decide_eq_true h;obtain rfl:y=b.lo:=by have:=d.1;have:=d.2;omega
  exact⟨Nat.div_le_div_right c.1,Nat.div_le_div_right c.2⟩
 ·exact⟨Jt _,Jn (Nat.div_le_self _ _) c.2⟩
theorem agd {a b:Rg}(c:a.ok):(ro a b).ok:=by
 unfold ro
 split
 ·exact⟨Nat.div_le_div_right c.1,Jn (Nat.div_le_self _ _) c.2⟩
 ·exact⟨Jt _,c.2⟩
theorem afH (p:Bool):(⟨0,1⟩:Rg).has (iw p):=by cases p<;>exact⟨by decide,by decide⟩
theorem aeO(hc:3<=c/\c<=17){a b r:Rg}(hr:n5 c a b=some r)(i:a.has x)(g:b.has y)(t:a.ok)(hb:b.ok)(o:¬(c=8/\y=0)):r.has (pp c x y):=by
 have f:=i.1;have d:=i.2;have k:=g.1;have j:=g.2;have w:=t.2;have u:=hb.2;have m:c=3∨c=4∨c=5∨c=6∨c=7∨c=8∨c=9∨c=10∨c=11∨c=12∨c=13∨c=14∨c=15∨c=16∨c=17:=Zo;rcases m with rfl|rfl|rfl|rfl|rfl|rfl|rfl|rfl|rfl|rfl|rfl|rfl|rfl|rfl|rfl
 ·cases hr;have:=ix (lo:=-(a.hi:Int)) (hi:=-(a.lo:Int)) (z:=-(x:Int)) Zo Zo
  show(wb _ _).has ((65536-x)%65536)
  rw[show(65536-x)%65536=((-(x:Int))%65536).toNat by omega];exact this
 ·cases hr;exact⟨by show 65535-a.hi<=65535-x;omega,by show 65535-x<=65535-a.lo;omega⟩
 ·cases hr;have:=ix (lo:=(a.lo:Int)+b.lo) (hi:=(a.hi:Int)+b.hi) (z:=(x:Int)+y) Zo Zo
  show(wb _ _).has ((x+y)%65536)
  rw[show(x+y)%65536=(((x:Int)+y)%65536).toNat by omega];exact this
 ·cases hr;have:=ix (lo:=(a.lo:Int)-b.hi) (hi:=(a.hi:Int)-b.lo) (z:=(x:Int)-y) Zo Zo
  show(wb _ _).has ((x+(65536-y))%65536)
  rw[show(x+(65536-y))%65536=(((x:Int)-y)%65536).toNat by omega];exact this
 ·cases hr;exact aeC (Nat.mul_le_mul f k) (Nat.mul_le_mul d j)
 ·cases hr
  show(qj a b).has (x/y)
  have l:y≠0:=fun h=>o ⟨rfl,h⟩
  unfold qj;rw[if_neg Zo];refine⟨Nat.div_le_div f j l,?_⟩;exact Nat.div_le_div d Zo Zo
 ·cases hr;exact⟨Jt _,by show x &&& y<=min a.hi b.hi;have:=@Nat.and_le_left x y;have:=@Nat.and_le_right x y;omega⟩
 ·cases hr;have h1:=@Nat.left_le_or x y;have h2:=@Nat.right_le_or x y;have h3:=(agK (x:=x) (y:=y) (h:=max a.hi b.hi) Zo Zo).1;exact⟨by show max a.lo b.lo<=x|||y;omega,h3⟩
 ·cases hr;exact⟨Jt _,(agK (x:=x) (y:=y) (h:=max a.hi b.hi) Zo Zo).2⟩
 ·cases hr
  show(if yf b=true then wk _ _ else zx).has (x*2^(y%16)%65536)
  split
  ·rename_i h
   have h:b.lo=b.hi:=of_decide_eq_true h;obtain rfl:y=b.lo:=by omega
   exact aeC (Qw _ f) (Qw _ d)
  ·exact o4 Zo
 ·cases hr;exact afr i g
 ·cases hr
  show(if 32768<=a.hi then zx else ro a b).has ((s16 x/2^(y%16))%65536).toNat
  split
  ·exact o4 Zo
  ·have hs:s16 x=(x:Int):=by unfold s16;rw[if_pos Zo]
   have hp:((x:Int)/2^(y%16)%65536).toNat=x/2^(y%16):=by
    have h1:(x:Int)/2^(y%16)=((x/2^(y%16):Nat):Int):=by simp
    have h2:=Nat.div_le_self x (2^(y%16));rw[h1];generalize x/2^(y%16)=q at *;omega
   rw[hs,hp];exact afr i g
 ·cases hr
  show(if a.hi<b.lo∨b.hi<a.lo then(⟨0,0⟩:Rg) else⟨0,1⟩).has (iw (decide (x=y)))
  split
  ·rw[decide_eq_false Zo];exact⟨Je _,Je _⟩
  ·exact afH _
 ·cases hr
  show(if a.hi<b.lo then(⟨1,1⟩:Rg) else if b.hi<=a.lo then⟨0,0⟩ else⟨0,1⟩).has (iw (decide (x<y)))
  split
  ·rw[decide_eq_true Zo];exact⟨Je _,Je _⟩
  ·split
   ·rw[decide_eq_false Zo];exact⟨Je _,Je _⟩
   ·exact afH _
 ·cases hr;exact afH _
theorem aeK{a b r:Rg}(hr:n5 c a b=some r):c=3∨c=4∨c=5∨c=6∨c=7∨c=8∨c=9∨c=10∨c=11∨c=12∨c=13∨c=14∨c=15∨c=16∨c=17∨c=19∨c=23:=by
 by_cases h:c=3∨c=4∨c=5∨c=6∨c=7∨c=8∨c=9∨c=10∨c=11∨c=12∨c=13∨c=14∨c=15∨c=16∨c=17∨c=19∨c=23
 ·exact h
 ·unfold n5 at hr;rw[if_neg Zo,if_neg Zo,if_neg Zo,if_neg Zo,if_neg Zo,if_neg Zo,if_neg Zo,if_neg Zo,if_neg Zo,if_neg Zo,if_neg Zo,if_neg Zo,if_neg Zo,if_neg Zo,if_neg Zo,if_neg Zo,if_neg Zo] at hr;cases hr
theorem afn(f:3<=c/\c<=17)(a b:Rg):∃r,n5 c a b=some r:=by
 have d:c=3∨c=4∨c=5∨c=6∨c=7∨c=8∨c=9∨c=10∨c=11∨c=12∨c=13∨c=14∨c=15∨c=16∨c=17:=Zo;rcases d with rfl|rfl|rfl|rfl|rfl|rfl|rfl|rfl|rfl|rfl|rfl|rfl|rfl|rfl|rfl<;>exact⟨_,rfl⟩
theorem ax(d:c=3∨c=4)(x y z:Nat):pp c x y=pp c x z:=by
 unfold pp;rcases d with h|h
 ·rw[if_pos h,if_pos h]
 ·rw[if_neg Zo,if_pos h,if_neg Zo,if_pos h]
theorem agU(d:c=3∨c=4)(a b b':Rg):n5 c a b=n5 c a b':=by
 unfold n5;rcases d with h|h
 ·rw[if_pos h,if_pos h]
 ·rw[if_neg Zo,if_pos h,if_neg Zo,if_pos h]
theorem ag1{a b r:Rg}(hr:n5 c a b=some r)(f:a.ok)(hb:b.ok):r.ok:=by
 have d:=f.1;have i:=f.2;have h:=hb.1;have j:=hb.2;have hm:=aeY (x:=max a.hi b.hi) Zo;have hl:=agR (max a.hi b.hi);have g:c=3∨c=4∨c=5∨c=6∨c=7∨c=8∨c=9∨c=10∨c=11∨c=12∨c=13∨c=14∨c=15∨c=16∨c=17∨c=19∨c=23:=aeK hr;rcases g with rfl|rfl|rfl|rfl|rfl|rfl|rfl|rfl|rfl|rfl|rfl|rfl|rfl|rfl|rfl|rfl|rfl<;>cases hr
 ·exact aw Zo
 ·exact⟨by show 65535-a.hi<=65535-a.lo;omega,by show 65535-a.lo<=65535;omega⟩
 ·exact aw Zo
 ·exact aw Zo
 ·exact aeJ (Nat.mul_le_mul d h)
 ·show(qj a b).ok
  unfold qj
  split
  ·exact xr
  ·exact⟨Nat.div_le_div d Zo Zo,Jn (Nat.div_le_self _ _) i⟩
 ·exact⟨Jt _,by show min a.hi b.hi<=65535;omega⟩
 ·exact⟨by show max a.lo b.lo<=tx _;omega,by show tx _<=65535;omega⟩
 ·exact⟨Jt _,by show tx _<=65535;omega⟩
 ·show(if yf b=true then wk _ _ else zx).ok
  split
  ·exact aeJ (Qw _ d)
  ·exact xr
 ·exact agd f
 ·show(if 32768<=a.hi then zx else ro a b).ok
  split
  ·exact xr
  ·exact agd f
 ·show(if a.hi<b.lo∨b.hi<a.lo then(⟨0,0⟩:Rg) else⟨0,1⟩).ok
  split<;>exact⟨by decide,by decide⟩
 ·show(if a.hi<b.lo then(⟨1,1⟩:Rg) else if b.hi<=a.lo then⟨0,0⟩ else⟨0,1⟩).ok
  split
  ·exact⟨by decide,by decide⟩
  ·split<;>exact⟨by decide,by decide⟩
 all_goals exact⟨by decide,by decide⟩
theorem afk(d:3<=c/\c<=17)(h:x<65536)(g:y<65536)(f:¬(c=8/\y=0)):pp c x y<65536:=by
 obtain⟨r,hr⟩:=afn d (pt x) (pt y);have h1:(pt x).ok:=⟨Je _,by show x<=65535;omega⟩
 have h2:(pt y).ok:=⟨Je _,by show y<=65535;omega⟩
 exact(aeO d hr (n8 x) (n8 y) h1 h2 f).lt (ag1 hr h1 h2)
theorem ae2(i:3<=c/\c<=17){a b:Rg}(f:a.has x)(hy:b.has y∨c=3∨c=4)(l:y<65536)(j:a.ok)(hb:b.ok)(g:¬(c=8/\y=0)):(em c a b).has (pp c x y):=by
 have k:=afk i (f.lt j) l g;unfold em
 split
 ·exact o4 k
 ·rename_i r hr
  split
  ·rename_i h
   obtain⟨_,h1,h2⟩:=h;have h1:a.lo=a.hi:=of_decide_eq_true h1;have d:x=a.lo:=by have:=f.1;have:=f.2;omega
   split
   ·exact o4 k
   ·rename_i o
    rcases h2 with h2|h2
    ·rw[d,ax h2 a.lo y b.lo];exact n8 _
    ·have h2:b.lo=b.hi:=of_decide_eq_true h2;rcases hy with hy|hy
     ·have m:y=b.lo:=by have:=hy.1;have:=hy.2;omega
      rw[d,m];exact n8 _
     ·rw[d,ax hy a.lo y b.lo];exact n8 _
  ·rcases hy with hy|hy
   ·exact aeO i hr f hy j hb g
   ·rw[agU hy a b (pt y)] at hr;exact aeO i hr f (n8 y) j ⟨Je _,by show y<=65535;omega⟩ g
theorem afg(i:1<=c){a b:Rg}(d:a.ok)(hb:b.ok):(em c a b).ok:=by
 unfold em
 split
 ·exact xr
 ·rename_i r hr
  split
  ·rename_i h
   split
   ·exact xr
   ·rename_i g
    have f:3<=c:=by have:=aeK hr;omega
    have:=afk (c:=c) (x:=a.lo) (y:=b.lo) ⟨f,h.1⟩ (by have:=d.1;have:=d.2;omega) (by have:=hb.1;have:=hb.2;omega) g;exact⟨Je _,by show pp c a.lo b.lo<=65535;omega⟩
  ·exact ag1 hr d hb
structure Slv where
 r:List Rg
 kn:List Bool
def Slv.get (s:Slv)(v:Int):Rg:=s.r.getD v.toNat ⟨0,0⟩
def Slv.knw (s:Slv)(v:Int):Bool:=s.kn.getD v.toNat false
def Slv.put (s:Slv)(v:Int)(a:Rg):Slv:=⟨s.r.set v.toNat a,s.kn.set v.toNat true⟩
def pC (a b:Rg):Bool:=decide (a.lo=b.lo) && decide (a.hi=b.hi)
def ahq (k:Nat)(a:Rg):Rg:=if 4<k then zx else a
def setF (k:Nat)(s:Slv)(v:Int)(a:Rg):Slv×Bool:=
 if s.knw v=true then(if pC (tn a (s.get v)) (s.get v)=true then(s,false) else(s.put v (ahq k (tn a (s.get v))),true))
 else(s.put v (ahq k a),true)
def na (p:IProg)(s:Slv)(o:IOp):Rg:=
 if o.code=1 then pt o.n
 else if o.code=2 then pt (((p.data.getD o.a.toNat ⟨0,0,0⟩).addr+o.n)%65536)
 else em o.code (s.get o.a) (s.get o.b)
def q7 (k:Nat)(v:Int)(a:Rg)(q:Slv×Bool):Slv×Bool:=((setF k q.1 v a).1,q.2||(setF k q.1 v a).2)
def opS (p:IProg)(k:Nat)(q:Slv×Bool)(o:IOp):Slv×Bool:=if 0<=o.res then q7 k o.res (na p q.1 o) q else q
def ahv (k:Nat)(q:Slv×Bool)(x:Int×Int):Slv×Bool:=q7 k x.1 (q.1.get x.2) q
def agT (blocks:List IBlk)(k:Nat)(q:Slv×Bool)(e:IEdge):Slv×Bool:=((xz blocks e.block).params.zip e.args).foldl (ahv k) q
def aft (p:IProg)(blocks:List IBlk)(k:Nat)(q:Slv×Bool)(b:IBlk):Slv×Bool:=b.term.to.foldl (agT blocks k) (b.ops.foldl (opS p k) q)
def goS (p:IProg)(blocks:List IBlk)(k:Nat)(q:Slv×Bool)(i:Nat):Slv×Bool:=
 ((aft p blocks k (q.1,false) (xz blocks i)).1,q.2||(aft p blocks k (q.1,false) (xz blocks i)).2)
def rk (p:IProg)(blocks:List IBlk)(order:List Nat)(k:Nat)(s:Slv):Slv×Bool:=order.foldl (goS p blocks k) (s,false)
def agt (p:IProg)(blocks:List IBlk)(order:List Nat):Nat->Nat->Slv->Slv
 |0,_,s=>s
 |n+1,k,s=>if(rk p blocks order (k+1) s).2=true then agt p blocks order n (k+1) (rk p blocks order (k+1) s).1 else(rk p blocks order (k+1) s).1
def fx (n:Nat)(ps:List Int):Slv:=(ps.foldl (fun q v=>q7 0 v zx q) (⟨List.replicate n ⟨0,0⟩,List.replicate n false⟩,false)).1
def mo (s:Slv):List Rg:=(s.r.zip s.kn).map fun x=>if x.2=true then x.1 else zx
structure OkS (n:Nat) (s:Slv):Prop where
 rl:s.r.length=n
 kl:s.kn.length=n
 ok:∀a∈s.r,a.ok
theorem OkS.get {n:Nat}{s:Slv}(h:OkS n s)(v:Int):(s.get v).ok:=by
 unfold Slv.get;rw[Jj]
 cases e:s.r[v.toNat]? with
 |none=>exact⟨Je _,Jt _⟩
 |some a=>exact h.ok a (Ji e)
theorem OkS.put {n:Nat}{s:Slv}(h:OkS n s)(v:Int){a:Rg}(d:a.ok):OkS n (s.put v a):=
 ⟨by show(s.r.set _ _).length=n;rw[Nd,h.rl],by show(s.kn.set _ _).length=n;rw[Nd,h.kl],fun x c=>by
   rcases Qe c with c|rfl
   ·exact h.ok x c
   ·exact d⟩
theorem i7 {a b:Rg}(c:a.ok)(hb:b.ok):(tn a b).ok:=by
 have:=c.1;have:=c.2;have:=hb.1;have:=hb.2;exact⟨by show min a.lo b.lo<=max a.hi b.hi;omega,by show max a.hi b.hi<=65535;omega⟩
theorem cap_ok{a:Rg}(c:a.ok):(ahq k a).ok:=by
 unfold ahq
 split
 ·exact xr
 ·exact c
theorem OkS.set{n:Nat}{s:Slv}(h:OkS n s)(v:Int){a:Rg}(c:a.ok):OkS n (setF k s v a).1:=by
 unfold setF
 split
 ·split
  ·exact h
  ·exact h.put v (cap_ok (i7 c (h.get v)))
 ·exact h.put v (cap_ok c)
theorem OkS.step {n k:Nat}{q:Slv×Bool}(h:OkS n q.1)(v:Int){a:Rg}(c:a.ok):OkS n (q7 k v a q).1:=h.set v c
theorem Rg.ext' {a b:Rg}(h1:a.lo=b.lo)(h2:a.hi=b.hi):a=b:=by cases a;cases b;simp only at h1 h2;subst h1 h2;rfl
theorem j4 {a b:Rg}(h:pC a b=true):a=b:=by
 unfold pC at h;simp only[Jm,decide_eq_true_eq] at h;exact Rg.ext' h.1 h.2
theorem gw (a:Rg):pC a a=true:=by simp[pC]
theorem afo{s:Slv}{v:Int}{a:Rg}(h:(setF k s v a).2=false):(setF k s v a).1=s/\s.knw v=true/\a.sub (s.get v):=by
 unfold setF at h ⊢
 by_cases h1:s.knw v=true
 ·rw[if_pos h1] at h ⊢
  by_cases h2:pC (tn a (s.get v)) (s.get v)=true
  ·rw[if_pos h2];have e:=j4 h2;refine⟨rfl,h1,?_,?_⟩
   ·rw[<-e];exact Nat.min_le_left _ _
   ·rw[<-e];exact Nat.le_max_left _ _
  ·rw[if_neg h2] at h;cases h
 ·rw[if_neg h1] at h;cases h
theorem kd{q:Slv×Bool}{v:Int}{a:Rg}(h:(q7 k v a q).2=false):q.2=false/\q7 k v a q=q/\q.1.knw v=true/\a.sub (q.1.get v):=by
 unfold q7 at h ⊢;rw[Bool.or_eq_false_iff] at h;obtain⟨h1,h2,h3⟩:=afo h.2;refine⟨h.1,?_,h2,h3⟩;obtain⟨s,c⟩:=q;simp only at h h1 ⊢;rw[h1,h.1,h.2];rfl
def nfL:List Rg->List Bool->Nat
 |a::rs,b::bs=>(if b=true/\pC a zx=true then 0 else 1)+nfL rs bs
 |_,_=>0
def Slv.nf (s:Slv):Nat:=nfL s.r s.kn
variable {f g:Slv×Bool->Slv×Bool}
theorem nfL_le:∀(rs:List Rg) (bs:List Bool),nfL rs bs<=rs.length
 | [],_=>by simp[nfL]
 |a::rs,[]=>by simp[nfL]
 |a::rs,b::bs=>by
  have:=nfL_le rs bs;unfold nfL;rw[Nq]
  split<;>omega
theorem afE:∀(rs:List Rg) (bs:List Bool) (v:Nat) (a:Rg),rs.length=bs.length->v<rs.length->(bs.getD v false=true->rs.getD v ⟨0,0⟩=zx->a=zx)->
 nfL (rs.set v a) (bs.set v true)<=nfL rs bs/\(a=zx->¬(bs.getD v false=true/\rs.getD v ⟨0,0⟩=zx)->nfL (rs.set v a) (bs.set v true)<nfL rs bs)
 | [],_,v,a,hl,hv,h=>by simp at hv
 |x::rs,[],v,a,hl,hv,h=>by simp at hl
 |x::rs,b::bs,0,a,hl,hv,h=>by
  simp only[Jf,nfL,List.getD_cons_zero] at h ⊢
  by_cases e:a=zx
  ·subst e;rw[if_pos ⟨trivial,gw _⟩];refine⟨by omega,fun _ hn=>?_⟩;rw[if_neg (fun hh=>hn ⟨hh.1,j4 hh.2⟩)];omega
  ·refine⟨?_,fun h1=>absurd h1 e⟩;rw[if_neg (fun hh:b=true/\pC x zx=true=>e (h hh.1 (j4 hh.2)))]
   split<;>omega
 |x::rs,b::bs,v+1,a,hl,hv,h=>by
  simp only[Nq] at hl hv;obtain⟨t1,t2⟩:=afE rs bs v a Zo Zo (by simpa using h);simp only[Jg,nfL,List.getD_cons_succ];exact⟨by omega,fun h1 h2=>by have:=t2 h1 h2;omega⟩
theorem afa {a:Rg}(c:a.ok):tn a zx=zx:=by
 have:=c.2;exact Rg.ext' (by show min a.lo 0=0;omega) (by show max a.hi 65535=65535;omega)
theorem set_nf{n:Nat}{s:Slv}(h:OkS n s){v:Int}(hv:v.toNat<n){a:Rg}(d:a.ok):(setF k s v a).1.nf<=s.nf/\(4<k->(setF k s v a).2=true->(setF k s v a).1.nf<s.nf):=by
 unfold setF
 by_cases h1:s.knw v=true
 ·rw[if_pos h1]
  by_cases h2:pC (tn a (s.get v)) (s.get v)=true
  ·rw[if_pos h2];exact⟨Je _,fun _ hc=>by cases hc⟩
  ·rw[if_neg h2];have c:s.get v≠zx:=fun e=>h2 (by rw[e,afa d];exact gw _)
   have:=afE s.r s.kn v.toNat (ahq k (tn a (s.get v))) (by rw[h.rl,h.kl]) (by rw[h.rl];exact hv) (fun _ e=>absurd e c);exact⟨this.1,fun hk _=>this.2 (by unfold ahq;rw[if_pos hk]) (fun hh=>c hh.2)⟩
 ·rw[if_neg h1];have:=afE s.r s.kn v.toNat (ahq k a) (by rw[h.rl,h.kl]) (by rw[h.rl];exact hv) (fun e _=>absurd e h1);exact⟨this.1,fun hk _=>this.2 (by unfold ahq;rw[if_pos hk]) (fun hh=>h1 hh.1)⟩
structure Goes (n k:Nat) (f:Slv×Bool->Slv×Bool):Prop where
 ok:∀q,OkS n q.1->OkS n (f q).1
 nf:∀q,OkS n q.1->(f q).1.nf<=q.1.nf
 lt:∀q,OkS n q.1->4<k->q.2=false->(f q).2=true->(f q).1.nf<q.1.nf
 up:∀q,q.2=true->(f q).2=true
 flag:∀s c,f (s,c)=((f (s,false)).1,c||(f (s,false)).2)
theorem Goes.id (n k:Nat):Goes n k (fun q=>q):=⟨fun _ h=>h,fun _ _=>Je _,(fun q _ _ h1 h2=>by rw[h1] at h2;cases h2),fun _ h=>h,fun s c=>by simp⟩
theorem Goes.comp{n:Nat}(hf:Goes n k f)(hg:Goes n k g):Goes n k (fun q=>g (f q)) where
 ok:=fun q h=>hg.ok _ (hf.ok q h)
 nf:=fun q h=>Jn (hg.nf _ (hf.ok q h)) (hf.nf q h)
 lt:=fun q h hk h1 h2=>by
  by_cases h3:(f q).2=true
  ·exact Nat.lt_of_le_of_lt (hg.nf _ (hf.ok q h)) (hf.lt q h hk h1 h3)
  ·exact Jy (hg.lt _ (hf.ok q h) hk (by simpa using h3) h2) (hf.nf q h)
 up:=fun q h=>hg.up _ (hf.up q h)
 flag:=fun s c=>by
  rw[hf.flag s c,hg.flag (f (s,false)).1 (c||(f (s,false)).2),hg.flag (f (s,false)).1 (f (s,false)).2,Bool.or_assoc]
theorem Goes.fold{α:Type}{n:Nat}{f:Slv×Bool->α->Slv×Bool}:∀(l:List α),(∀x∈l,Goes n k (fun q=>f q x))->Goes n k (fun q=>l.foldl f q)
 | [],_=>Goes.id n k
 |x::l,h=>Goes.comp (h x (.head _)) (Goes.fold l fun y hy=>h y (.tail _ hy))
theorem Goes.step {n k:Nat}{v:Int}(hv:v.toNat<n){a:Slv->Rg}(d:∀s,OkS n s->(a s).ok):Goes n k (fun q=>q7 k v (a q.1) q) where
 ok:=fun q h=>h.step v (d _ h)
 nf:=fun q h=>(set_nf h hv (d _ h)).1
 lt:=fun q h hk h1 h2=>by
  unfold q7 at h2;rw[h1,Bool.false_or] at h2;exact(set_nf h hv (d _ h)).2 hk h2
 up:=fun q h=>by unfold q7;rw[h];rfl
 flag:=fun s c=>by unfold q7;simp
def agh (n:Nat)(o:IOp):Prop:=0<=o.res->o.res.toNat<n/\1<=o.code/\(o.code=1->o.n<65536)
def qf (n:Nat)(blocks:List IBlk)(b:IBlk):Prop:=(∀o∈b.ops,agh n o)/\∀e∈b.term.to,∀v∈(xz blocks e.block).params,v.toNat<n
theorem af5{p:IProg}{n:Nat}{s:Slv}(h:OkS n s)(ho:agh n o)(h0:0<=o.res):(na p s o).ok:=by
 unfold na;obtain⟨_,h1,h2⟩:=ho h0
 split
 ·rename_i h3;exact⟨Je _,by show o.n<=65535;have:=h2 h3;omega⟩
 ·split
  ·exact⟨Je _,by show _%65536<=65535;omega⟩
  ·exact afg h1 (h.get _) (h.get _)
theorem goes_op{p:IProg}{n:Nat}(ho:agh n o):Goes n k (fun q=>opS p k q o):=by
 by_cases h0:0<=o.res
 ·have:(fun q=>opS p k q o)=(fun q:Slv×Bool=>q7 k o.res (na p q.1 o) q):=by funext q;unfold opS;rw[if_pos h0]
  rw[this];exact Goes.step (ho h0).1 fun s hs=>af5 hs ho h0
 ·have:(fun q=>opS p k q o)=(fun q:Slv×Bool=>q):=by funext q;unfold opS;rw[if_neg h0]
  rw[this];exact Goes.id n k
theorem goes_arg{n:Nat}{x:Int×Int}(c:x.1.toNat<n):Goes n k (fun q=>ahv k q x):=Goes.step (a:=fun s=>s.get x.2) c fun s hs=>hs.get _
theorem agX{n:Nat}{e:IEdge}(h:∀v∈(xz blocks e.block).params,v.toNat<n):Goes n k (fun q=>agT blocks k q e):=
 Goes.fold _ fun x hx=>goes_arg (h _ (List.of_mem_zip hx).1)
theorem af8{p:IProg}{n:Nat}{b:IBlk}(h:qf n blocks b):Goes n k (fun q=>aft p blocks k q b):=
 Goes.comp (Goes.fold _ fun o ho=>goes_op (h.1 o ho)) (Goes.fold _ fun e he=>agX (h.2 e he))
theorem afX{p:IProg}{n:Nat}(h:qf n blocks (xz blocks i))(q:Slv×Bool):goS p blocks k q i=aft p blocks k q (xz blocks i):=by
 obtain⟨s,c⟩:=q;exact((af8 (p:=p) (k:=k) h).flag s c).symm
theorem goes_go{p:IProg}{n:Nat}(h:qf n blocks (xz blocks i)):Goes n k (fun q=>goS p blocks k q i):=by
 have:(fun q=>goS p blocks k q i)=(fun q=>aft p blocks k q (xz blocks i)):=by funext q;exact afX h q
 rw[this];exact af8 h
theorem ff{p:IProg}{n:Nat}{c:List Nat}(h:∀i∈c,qf n blocks (xz blocks i)):Goes n k (fun q=>c.foldl (goS p blocks k) q):=
 Goes.fold _ fun i hi=>goes_go (h i hi)
def kI (k:Nat)(s:Slv):Nat:=(4-k)+s.nf
theorem aeA{p:IProg}{n:Nat}{c:List Nat}(h:∀i∈c,qf n blocks (xz blocks i)){s:Slv}(hs:OkS n s)(d:(rk p blocks c (k+1) s).2=true):
 kI (k+1) (rk p blocks c (k+1) s).1<kI k s:=by
 have hg:=ff (p:=p) (k:=k+1) h;have h1:(rk p blocks c (k+1) s).1.nf<=s.nf:=hg.nf (s,false) hs;have h2:4<k+1->false=false->(rk p blocks c (k+1) s).2=true->(rk p blocks c (k+1) s).1.nf<s.nf:=hg.lt (s,false) hs;unfold kI
 by_cases hk:4<k+1
 ·have:=h2 hk rfl d;omega
 ·omega
def ahu (p:IProg)(blocks:List IBlk)(order:List Nat)(k:Nat)(s:Slv):Slv:=agt p blocks order (kI k s+1) k s
theorem afc{p:IProg}{n:Nat}{c:List Nat}(h:∀i∈c,qf n blocks (xz blocks i)):∀(j j' k:Nat) (s:Slv),OkS n s->kI k s<j->kI k s<j'->agt p blocks c j k s=agt p blocks c j' k s
 |0,_,k,s,_,h1,_=>absurd h1 (Nat.not_lt_zero _)
 |_+1,0,k,s,_,_,h1=>absurd h1 (Nat.not_lt_zero _)
 |j+1,j'+1,k,s,hs,h1,h2=>by
  unfold agt
  split
  ·rename_i hc
   have hm:=aeA h hs hc;exact afc h j j' (k+1) _ ((ff (p:=p) (k:=k+1) h).ok (s,false) hs) Zo Zo
  ·rfl
theorem j0{p:IProg}{n:Nat}{c:List Nat}(h:∀i∈c,qf n blocks (xz blocks i)){s:Slv}(hs:OkS n s):
 ahu p blocks c k s=if(rk p blocks c (k+1) s).2=true then ahu p blocks c (k+1) (rk p blocks c (k+1) s).1 else(rk p blocks c (k+1) s).1:=by
 unfold ahu;rw[agt]
 split
 ·rename_i d
  have hm:=aeA h hs d;exact afc h _ _ (k+1) _ ((ff (p:=p) (k:=k+1) h).ok (s,false) hs) Zo Zo
 ·rfl
def n0 (f:Slv×Bool->Slv×Bool)(P:Slv->Prop):Prop:=∀q,(f q).2=false->f q=q/\q.2=false/\P q.1
theorem n0.comp{P Q:Slv->Prop}(hf:n0 f P)(hg:n0 g Q):n0 (fun q=>g (f q)) (fun s=>P s/\Q s):=fun q h=>by
 obtain⟨h1,h2,h3⟩:=hg _ h;obtain⟨c,i,d⟩:=hf q h2;rw[c] at h1 h3;exact⟨by show g (f q)=q;rw[c];exact h1,i,d,h3⟩
theorem n0.fold {α:Type}{f:Slv×Bool->α->Slv×Bool}{P:α->Slv->Prop}:∀(l:List α),(∀x∈l,n0 (fun q=>f q x) (P x))->n0 (fun q=>l.foldl f q) (fun s=>∀x∈l,P x s)
 | [],_=>fun q h=>⟨rfl,h,fun x hx=>by cases hx⟩
 |x::l,h=>fun q hq=>by
  obtain⟨h1,h2,h3,h4⟩:=n0.comp (h x (.head _)) (n0.fold l fun y c=>h y (.tail _ c)) q hq
  exact⟨h1,h2,fun y c=>by
   rcases Jq.1 c with rfl|c
   ·exact h3
   ·exact h4 y c⟩
def FixOp (p:IProg)(o:IOp)(s:Slv):Prop:=0<=o.res->s.knw o.res=true/\(na p s o).sub (s.get o.res)
def aha (x:Int×Int)(s:Slv):Prop:=s.knw x.1=true/\(s.get x.2).sub (s.get x.1)
def agV (p:IProg)(blocks:List IBlk)(b:IBlk)(s:Slv):Prop:=(∀o∈b.ops,FixOp p o s)/\∀e∈b.term.to,∀x∈(xz blocks e.block).params.zip e.args,aha x s
theorem still_op{p:IProg}:n0 (fun q=>opS p k q o) (FixOp p o):=fun q h=>by
 show opS p k q o=q/\_
 have h:(opS p k q o).2=false:=h;unfold opS at h ⊢
 by_cases h0:0<=o.res
 ·rw[if_pos h0] at h ⊢;obtain⟨h1,h2,h3,c⟩:=kd h;exact⟨h2,h1,fun _=>⟨h3,c⟩⟩
 ·rw[if_neg h0] at h ⊢;exact⟨rfl,h,fun hh=>absurd hh h0⟩
theorem aho{x:Int×Int}:n0 (fun q=>ahv k q x) (aha x):=fun q h=>by
 obtain⟨h1,h2,h3,c⟩:=kd h;exact⟨h2,h1,h3,c⟩
theorem ag7{p:IProg}{b:IBlk}:n0 (fun q=>aft p blocks k q b) (agV p blocks b):=
 n0.comp (n0.fold _ fun o _=>still_op) (n0.fold _ fun e _=>n0.fold _ fun x _=>aho)
theorem afF{p:IProg}{n:Nat}{c:List Nat}(h:∀i∈c,qf n blocks (xz blocks i)):n0 (fun q=>c.foldl (goS p blocks k) q) (fun s=>∀i∈c,agV p blocks (xz blocks i) s):=
 n0.fold _ fun i hi=>by
  have:(fun q=>goS p blocks k q i)=(fun q=>aft p blocks k q (xz blocks i)):=by funext q;exact afX (h i hi) q
  rw[this];exact ag7
def lf (s t:Slv):Prop:=∀v:Int,s.knw v=true->t.knw v=true/\(s.get v=zx->t.get v=zx)
theorem lf.refl (s:Slv):lf s s:=fun v h=>⟨h,fun h=>h⟩
theorem lf.trans {s t u:Slv}(h:lf s t)(k:lf t u):lf s u:=fun v hv=>⟨(k v (h v hv).1).1,fun e=>(k v (h v hv).1).2 ((h v hv).2 e)⟩
theorem afp {n:Nat}{s:Slv}(hs:OkS n s){v:Int}(hv:v.toNat<n){a:Rg}(h:s.knw v=true->s.get v=zx->a=zx):lf s (s.put v a):=fun u hu=>by
 unfold Slv.knw Slv.get Slv.put at *;simp only[Jj] at *
 by_cases e:v.toNat=u.toNat
 ·rw[e] at hv h ⊢;rw[Nn (by rw[hs.kl];exact hv),Nn (by rw[hs.rl];exact hv)];exact⟨rfl,fun h2=>h hu h2⟩
 ·rw[Ns e,Ns e];exact⟨hu,fun h=>h⟩
theorem agQ{n:Nat}{s:Slv}(hs:OkS n s){v:Int}(hv:v.toNat<n){a:Rg}(c:a.ok):lf s (setF k s v a).1:=by
 unfold setF
 by_cases h1:s.knw v=true
 ·rw[if_pos h1]
  by_cases h2:pC (tn a (s.get v)) (s.get v)=true
  ·rw[if_pos h2];exact lf.refl s
  ·rw[if_neg h2];exact afp hs hv fun _ e=>absurd (show pC (tn a (s.get v)) (s.get v)=true by rw[e,afa c];exact gw _) h2
 ·rw[if_neg h1];exact afp hs hv fun h=>absurd h h1
structure Keeps (n:Nat) (f:Slv×Bool->Slv×Bool):Prop where
 ok:∀q,OkS n q.1->OkS n (f q).1
 kn:∀q,OkS n q.1->lf q.1 (f q).1
theorem Keeps.comp{n:Nat}(hf:Keeps n f)(hg:Keeps n g):Keeps n (fun q=>g (f q)):=
 ⟨fun q h=>hg.ok _ (hf.ok q h),fun q h=>(hf.kn q h).trans (hg.kn _ (hf.ok q h))⟩
theorem Keeps.fold {α:Type}{n:Nat}{f:Slv×Bool->α->Slv×Bool}:∀(l:List α),(∀x∈l,Keeps n (fun q=>f q x))->Keeps n (fun q=>l.foldl f q)
 | [],_=>⟨fun _ h=>h,fun q _=>lf.refl _⟩
 |x::l,h=>Keeps.comp (h x (.head _)) (Keeps.fold l fun y hy=>h y (.tail _ hy))
theorem m6{n:Nat}{v:Int}(hv:v.toNat<n){a:Slv->Rg}(c:∀s,OkS n s->(a s).ok):Keeps n (fun q=>q7 k v (a q.1) q):=
 ⟨fun q h=>h.step v (c _ h),fun q h=>agQ h hv (c _ h)⟩
theorem keeps_op{p:IProg}{n:Nat}(ho:agh n o):Keeps n (fun q=>opS p k q o):=by
 by_cases h0:0<=o.res
 ·have:(fun q=>opS p k q o)=(fun q:Slv×Bool=>q7 k o.res (na p q.1 o) q):=by funext q;unfold opS;rw[if_pos h0]
  rw[this];exact m6 (ho h0).1 fun s hs=>af5 hs ho h0
 ·have:(fun q=>opS p k q o)=(fun q:Slv×Bool=>q):=by funext q;unfold opS;rw[if_neg h0]
  rw[this];exact⟨fun _ h=>h,fun q _=>lf.refl _⟩
theorem ahc{p:IProg}{n:Nat}{b:IBlk}(h:qf n blocks b):Keeps n (fun q=>aft p blocks k q b):=
 Keeps.comp (Keeps.fold _ fun o ho=>keeps_op (h.1 o ho)) (Keeps.fold _ fun e he=>Keeps.fold _ fun x hx=>m6 (a:=fun s=>s.get x.2) (h.2 e he _ (List.of_mem_zip hx).1) fun s hs=>hs.get _)
theorem afy{p:IProg}{n:Nat}{c:List Nat}(h:∀i∈c,qf n blocks (xz blocks i)):Keeps n (fun q=>c.foldl (goS p blocks k) q):=
 Keeps.fold _ fun i hi=>by
  have:(fun q=>goS p blocks k q i)=(fun q=>aft p blocks k q (xz blocks i)):=by funext q;exact afX (h i hi) q
  rw[this];exact ahc (h i hi)
structure EndOk (p:IProg) (n:Nat) (blocks:List IBlk) (order:List Nat) (s t:Slv):Prop where
 ok:OkS n t
 kn:lf s t
 fix:∀i∈order,agV p blocks (xz blocks i) t
theorem end_ok {p:IProg}{n:Nat}{blocks:List IBlk}{c:List Nat}(h:∀i∈c,qf n blocks (xz blocks i)):∀(j k:Nat) (s:Slv),OkS n s->kI k s<j->EndOk p n blocks c s (ahu p blocks c k s)
 |0,k,s,_,h1=>absurd h1 (Nat.not_lt_zero _)
 |j+1,k,s,hs,h1=>by
  rw[j0 h hs];have hk:=afy (p:=p) (k:=k+1) h
  split
  ·rename_i d
   have:=end_ok (p:=p) h j (k+1) (rk p blocks c (k+1) s).1 (hk.ok (s,false) hs) (by have:=aeA h hs d;omega);exact⟨this.ok,(hk.kn (s,false) hs).trans this.kn,this.fix⟩
  ·rename_i d
   obtain⟨h2,_,h3⟩:=afF (p:=p) (k:=k+1) h (s,false) (by simpa[rk] using d)
   have e:(rk p blocks c (k+1) s).1=s:=by
    show(c.foldl (goS p blocks (k+1)) (s,false)).1=s
    have:c.foldl (goS p blocks (k+1)) (s,false)=(s,false):=h2;rw[this]
   rw[e];exact⟨hs,lf.refl s,h3⟩
theorem end_ok'{p:IProg}{n:Nat}{c:List Nat}(h:∀i∈c,qf n blocks (xz blocks i)){s:Slv}(hs:OkS n s):EndOk p n blocks c s (ahu p blocks c k s):=end_ok h _ k s hs (Nat.lt_succ_self _)
theorem aeU (n:Nat):OkS n ⟨List.replicate n ⟨0,0⟩,List.replicate n false⟩:=
 ⟨by simp,by simp,fun a ha=>by rw[List.eq_of_mem_replicate ha];exact⟨Je _,Jt _⟩⟩
theorem ag{n:Nat}(h:∀v∈ps,v.toNat<n):Keeps n (fun q=>ps.foldl (fun q v=>q7 0 v zx q) q):=Keeps.fold _ fun v hv=>m6 (a:=fun _=>zx) (h v hv) fun _ _=>xr
theorem af0{n:Nat}(h:∀v∈ps,v.toNat<n):OkS n (fx n ps):=(ag h).ok (_,false) (aeU n)
theorem en {n:Nat}{s:Slv}(hs:OkS n s){v:Int}(hv:v.toNat<n)(a:Rg):(s.put v a).knw v=true/\(s.put v a).get v=a:=by
 unfold Slv.knw Slv.get Slv.put;simp only[Jj];rw[Nn (by rw[hs.kl];exact hv),Nn (by rw[hs.rl];exact hv)];exact⟨rfl,rfl⟩
theorem aeI {n:Nat}:∀(ps:List Int) (q:Slv×Bool),OkS n q.1->(∀v∈ps,v.toNat<n)->∀v∈ps,(ps.foldl (fun q v=>q7 0 v zx q) q).1.knw v=true/\(ps.foldl (fun q v=>q7 0 v zx q) q).1.get v=zx
 | [],q,hq,h,v,hv=>by cases hv
 |u::ps,q,hq,h,v,hv=>by
  have hk:=(m6 (k:=0) (a:=fun _=>zx) (h u (.head _)) (fun _ _=>xr)).ok q hq;rcases Jq.1 hv with rfl|hv
  ·have h1:(q7 0 v zx q).1.knw v=true/\(q7 0 v zx q).1.get v=zx:=by
    show(setF 0 q.1 v zx).1.knw v=true/\(setF 0 q.1 v zx).1.get v=zx
    unfold setF
    have c:tn zx (q.1.get v)=zx:=by
     have:=(hq.get v).2;exact Rg.ext' (by show min 0 _=0;omega) (by show max 65535 _=65535;omega)
    by_cases h1:q.1.knw v=true
    ·rw[if_pos h1]
     split
     ·rename_i h2
      have:=j4 h2;exact⟨h1,by rw[<-this];exact c⟩
     ·rw[c];exact en hq (h v (.head _)) _
    ·rw[if_neg h1];exact en hq (h v (.head _)) _
   have h2:=(ag (n:=n) (ps:=ps) fun x hx=>h x (.tail _ hx)).kn _ hk v h1.1;exact⟨h2.1,h2.2 h1.2⟩
  ·exact aeI ps _ hk (fun x hx=>h x (.tail _ hx)) v hv
theorem agl{n:Nat}(h:∀v∈ps,v.toNat<n):∀v∈ps,(fx n ps).knw v=true/\(fx n ps).get v=zx:=aeI ps _ (aeU n) h
theorem fill_len {n:Nat}{s:Slv}(h:OkS n s):(mo s).length=n:=by
 unfold mo;rw[Nr,List.length_zip,h.rl,h.kl,Nat.min_self]
theorem fill_get {n:Nat}{s:Slv}(h:OkS n s){v:Nat}(hv:v<n):(mo s)[v]? =some (if s.knw (v:Int)=true then s.get (v:Int) else zx):=by
 have h1:v<s.r.length:=by rw[h.rl];exact hv
 have h2:v<s.kn.length:=by rw[h.kl];exact hv
 have c:(s.r.zip s.kn)[v]? =some (s.r[v],s.kn[v]):=by
  rw[Jd (by rw[List.length_zip];omega)];simp
 unfold mo Slv.knw Slv.get;rw[Jr,c,Ni,Jj,Jj,Jd h1,Jd h2];rfl
def mT (call:Int->List Nat->Mach->Res Nat):Prop:=∀f args m x m',call f args m=.ok x m'->m'.fuel<=m.fuel
theorem nV{E:IEnv}{a b:Nat}(h:mU E o a b m=.ok x m'):m'.fuel<=m.fuel:=by
 unfold mU at h;have c:∀ {y:Nat} {m1:Mach},(Res.ok y m1:Res Nat)=.ok x m'->m1.fuel=m.fuel->m'.fuel<=m.fuel:=fun h e=>by cases h;omega
 by_cases c1:o.code=1;· rw[if_pos c1] at h;exact c h rfl
 rw[if_neg c1] at h;by_cases c2:o.code=2;· rw[if_pos c2] at h;exact c h rfl
 rw[if_neg c2] at h;by_cases c3:o.code=3;· rw[if_pos c3] at h;exact c h rfl
 rw[if_neg c3] at h;by_cases c4:o.code=4;· rw[if_pos c4] at h;exact c h rfl
 rw[if_neg c4] at h;by_cases q:o.code=18
 ·rw[if_pos q] at h;unfold pR at h;split at h
  ·split at h
   ·exact c h rfl
   ·cases h
  ·cases h
 rw[if_neg q] at h;by_cases l:o.code=19
 ·rw[if_pos l] at h;unfold abh at h;split at h
  ·exact c h rfl
  ·cases h
 rw[if_neg l] at h;by_cases k:o.code=20
 ·rw[if_pos k] at h;unfold sK at h;split at h
  ·split at h
   ·exact c h rfl
   ·cases h
  ·cases h
 rw[if_neg k] at h;by_cases j:o.code=21
 ·rw[if_pos j] at h;unfold td at h;split at h
  ·exact c h rfl
  ·cases h
 rw[if_neg j] at h;by_cases i:o.code=22
 ·rw[if_pos i] at h;unfold im at h;split at h
  ·split at h
   ·exact c h rfl
   ·cases h
  ·cases h
 rw[if_neg i] at h;by_cases g:o.code=23
 ·rw[if_pos g] at h;unfold nX at h;split at h
  ·exact c h rfl
  ·cases h
 rw[if_neg g] at h;by_cases f:o.code=24
 ·rw[if_pos f] at h;unfold uq at h;split at h
  ·exact c h rfl
  ·exact c h rfl
 rw[if_neg f] at h;by_cases d:o.code=25
 ·rw[if_pos d] at h;exact c h rfl
 rw[if_neg d] at h;unfold iy at h;split at h
 ·cases h
 ·exact c h rfl
theorem pI{E:IEnv}(f:mT call){v:Int->Nat}(h:oV E call o v m=.ok x m'):m'.fuel<=m.fuel:=by
 unfold oV at h
 by_cases d:o.code=26
 ·rw[if_pos d] at h;exact f _ _ _ _ _ h
 ·rw[if_neg d] at h
  by_cases c:o.code=27
  ·rw[if_pos c] at h;unfold tY at h
   split at h
   ·split at h
    ·split at h
     ·rename_i h2;cases h;have:=f _ _ _ _ _ h2;exact this
     ·cases h
    ·cases h;exact Og _
   ·cases h;exact Og _
  ·rw[if_neg c] at h;exact nV h
theorem nK{E:IEnv}(c:mT call):∀ {ops:List IOp} {v v':Int->Nat} {m m':Mach},iq E call ops v m=.ok v' m'->m'.fuel<=m.fuel
 | [],v,v',m,m',h=>by cases h;exact Og _
 |o::os,v,v',m,m',h=>by
  unfold iq at h
  split at h
  ·cases h
  ·split at h
   ·rename_i h2
    have h3:=pI c h2;have d:=nK c h;simp only[Mach.pay] at h3;omega
   ·cases h
theorem rt{E:IEnv}(c:mT call):∀ {n:Nat} {a:Int} {args:List Nat} {v:Int->Nat} {m m':Mach} {x:Nat},tJ E call blocks n a args v m=.ok x m'->m'.fuel<=m.fuel
 |0,a,args,v,m,m',x,h=>by cases h
 |n+1,a,args,v,m,m',x,h=>by
  unfold tJ at h
  split at h
  ·cases h
  ·rename_i h2
   have h3:=nK c h2
   split at h
   ·cases h
   ·split at h
    ·cases h;simp only[Mach.pay];omega
    ·split at h
     ·cases h
     ·have d:=rt c h;simp only[Mach.pay] at d;omega
theorem pO (E:IEnv):∀r,mT (xW E r)
 |0=>fun f args m x m' h=>by cases h
 |r+1=>fun f args m x m' h=>by
  unfold xW at h
  split at h
  ·cases h
  ·exact rt (pO E r) h
abbrev gO:=Int->List Nat->Mach->Res Nat
def wl (lo hi:Nat):Rg:=⟨lo%65536,hi%65536⟩
theorem tt {lo hi:Nat}(h1:lo<65536)(h2:hi<65536):wl lo hi=⟨lo,hi⟩:=by unfold wl;rw[Nat.mod_eq_of_lt h1,Nat.mod_eq_of_lt h2]
def mc (c:Int)(a b:Rg):Rg:=
 if c=12 then(if a.hi*2^(b.lo%16)<65536/\yf b=true then wl (a.lo*2^(b.lo%16)) (a.hi*2^(b.lo%16)) else zx)
 else if c=14/\32768<=a.hi then zx
 else if yf b=true then wl (a.lo/2^(b.lo%16)) (a.hi/2^(b.lo%16)) else wl 0 a.hi
def eD (lo hi:Nat):Rg:=if(lo<65536/\hi<65536)∨(65536<=lo/\65536<=hi) then wl (lo%65536) (hi%65536) else zx
def ago (c:Int)(a b:Rg):Rg:=
 if c=6 then eD (a.lo+65536-b.hi) (a.hi+65536-b.lo)
 else if c=7 then(if 65536<=a.hi*b.hi then zx else eD (a.lo*b.lo) (a.hi*b.hi))
 else if c=8 then(if b.hi=0 then zx else wl (a.lo/b.hi) (a.hi/max b.lo 1))
 else eD (a.lo+b.lo) (a.hi+b.hi)
def qs (c:Int)(a b:Rg):Rg:=
 if c<=17/\yf a=true/\((c=3∨c=4)∨yf b=true) then(if c=8/\b.lo=0 then zx else pt (pp c a.lo b.lo))
 else if c=3 then(if 0<a.lo then wl (65536-a.hi) (65536-a.lo) else zx)
 else if c=4 then wl (65535-a.hi) (65535-a.lo)
 else if c=5∨c=6∨c=7∨c=8 then ago c a b
 else if c=9 then wl 0 (min a.hi b.hi)
 else if c=10 then wl (max a.lo b.lo) (tx (max a.hi b.hi))
 else if c=11 then wl 0 (tx (max a.hi b.hi))
 else if c=12∨c=13∨c=14 then mc c a b
 else if c=15 then(if a.hi<b.lo∨b.hi<a.lo then wl 0 0 else wl 0 1)
 else if c=16 then(if a.hi<b.lo then wl 1 1 else if b.hi<=a.lo then wl 0 0 else wl 0 1)
 else if c=17 then wl 0 1
 else if c=19∨c=23 then wl 0 255
 else zx
theorem Rg.ext2 {a b:Rg}(h1:a.lo=b.lo)(h2:a.hi=b.hi):a=b:=by cases a;cases b;simp only at h1 h2;subst h1 h2;rfl
theorem af4(n:Nat)(h:x<65536):x/2^(n%16)<65536:=Nat.lt_of_le_of_lt (Nat.div_le_self _ _) h
theorem p6(l:3<=c/\c<=27){a b:Rg}(i:a.ok)(hb:b.ok):qs c a b=em c a b:=by
 have d:=i.1;have q:=i.2;have g:=hb.1;have o:=hb.2;have hm:=aeY (x:=max a.hi b.hi) Zo
 by_cases hs:c<=17/\yf a=true/\((c=3∨c=4)∨yf b=true)
 ·obtain⟨r,hr⟩:=afn ⟨l.1,hs.1⟩ a b;unfold qs em;rw[hr,if_pos hs];simp only;rw[if_pos hs]
 have j:em c a b=match n5 c a b with|none=>zx|some r=>r:=by
  unfold em
  cases n5 c a b with
  |none=>rfl
  |some r=>simp only;rw[if_neg hs]
 rw[j];unfold qs;rw[if_neg hs];have f:c=3∨c=4∨c=5∨c=6∨c=7∨c=8∨c=9∨c=10∨c=11∨c=12∨c=13∨c=14∨c=15∨c=16∨c=17∨c=18∨c=19∨c=20∨c=21∨c=22∨c=23∨c=24∨c=25∨c=26∨c=27:=Zo;rcases f with rfl|rfl|rfl|rfl|rfl|rfl|rfl|rfl|rfl|rfl|rfl|rfl|rfl|rfl|rfl|rfl|rfl|rfl|rfl|rfl|rfl|rfl|rfl|rfl|rfl
 ·have m:¬(a.lo=a.hi):=fun e=>hs ⟨by decide,decide_eq_true e,.inl (.inl rfl)⟩
  show(if 0<a.lo then wl (65536-a.hi) (65536-a.lo) else zx)=wb (-(a.hi:Int)) (-(a.lo:Int))
  unfold wb
  by_cases h:0<a.lo
  ·rw[if_pos h,if_pos Zo,tt Zo Zo];exact Rg.ext2 (by show 65536-a.hi=((-(a.hi:Int))%65536).toNat;omega) (by show 65536-a.lo=((-(a.lo:Int))%65536).toNat;omega)
  ·rw[if_neg h,if_neg Zo]
 ·show wl (65535-a.hi) (65535-a.lo)=⟨65535-a.hi,65535-a.lo⟩
  exact tt Zo Zo
 ·show eD (a.lo+b.lo) (a.hi+b.hi)=wb ((a.lo:Int)+b.lo) ((a.hi:Int)+b.hi)
  unfold eD wb
  by_cases h:(a.lo+b.lo<65536/\a.hi+b.hi<65536)∨(65536<=a.lo+b.lo/\65536<=a.hi+b.hi)
  ·rw[if_pos h,if_pos Zo,tt Zo Zo];exact Rg.ext2 (by show(a.lo+b.lo)%65536=(((a.lo:Int)+b.lo)%65536).toNat;omega) (by show(a.hi+b.hi)%65536=(((a.hi:Int)+b.hi)%65536).toNat;omega)
  ·rw[if_neg h,if_neg Zo]
 ·show eD (a.lo+65536-b.hi) (a.hi+65536-b.lo)=wb ((a.lo:Int)-b.hi) ((a.hi:Int)-b.lo)
  unfold eD wb
  by_cases h:(a.lo+65536-b.hi<65536/\a.hi+65536-b.lo<65536)∨(65536<=a.lo+65536-b.hi/\65536<=a.hi+65536-b.lo)
  ·rw[if_pos h,if_pos Zo,tt Zo Zo];exact Rg.ext2 (by show(a.lo+65536-b.hi)%65536=(((a.lo:Int)-b.hi)%65536).toNat;omega) (by show(a.hi+65536-b.lo)%65536=(((a.hi:Int)-b.lo)%65536).toNat;omega)
  ·rw[if_neg h,if_neg Zo]
 ·show(if 65536<=a.hi*b.hi then zx else eD (a.lo*b.lo) (a.hi*b.hi))=wk (a.lo*b.lo) (a.hi*b.hi)
  have hl:=Nat.mul_le_mul d g;unfold wk eD
  by_cases h:65536<=a.hi*b.hi
  ·rw[if_pos h,if_neg Zo]
  ·rw[if_neg h,if_pos Zo,if_pos Zo,Nat.mod_eq_of_lt Zo,Nat.mod_eq_of_lt Zo,tt Zo Zo]
 ·show(if b.hi=0 then zx else wl (a.lo/b.hi) (a.hi/max b.lo 1))=qj a b
  unfold qj
  by_cases h:b.hi=0
  ·rw[if_pos h,if_pos h]
  ·rw[if_neg h,if_neg h];exact tt (Nat.lt_of_le_of_lt (Nat.div_le_self _ _) Zo) (Nat.lt_of_le_of_lt (Nat.div_le_self _ _) Zo)
 ·show wl 0 (min a.hi b.hi)=⟨0,min a.hi b.hi⟩
  exact tt Zo Zo
 ·show wl (max a.lo b.lo) (tx (max a.hi b.hi))=⟨max a.lo b.lo,tx (max a.hi b.hi)⟩
  exact tt Zo hm
 ·show wl 0 (tx (max a.hi b.hi))=⟨0,tx (max a.hi b.hi)⟩
  exact tt Zo hm
 ·show(if a.hi*2^(b.lo%16)<65536/\yf b=true then wl (a.lo*2^(b.lo%16)) (a.hi*2^(b.lo%16)) else zx)=(if yf b=true then wk (a.lo*2^(b.lo%16)) (a.hi*2^(b.lo%16)) else zx)
  have hl:=Qw (2^(b.lo%16)) d
  by_cases h:yf b=true
  ·rw[if_pos h];unfold wk
   by_cases h2:a.hi*2^(b.lo%16)<65536
   ·rw[if_pos ⟨h2,h⟩,if_pos Zo,tt Zo h2]
   ·rw[if_neg (fun k=>h2 k.1),if_neg Zo]
  ·rw[if_neg h,if_neg (fun k=>h k.2)]
 ·show(if yf b=true then wl (a.lo/2^(b.lo%16)) (a.hi/2^(b.lo%16)) else wl 0 a.hi)=ro a b
  unfold ro;rw[tt (af4 _ Zo) (af4 _ Zo),tt Zo Zo]
 ·show(if(14:Int)=14/\32768<=a.hi then zx else if yf b=true then wl (a.lo/2^(b.lo%16)) (a.hi/2^(b.lo%16)) else wl 0 a.hi)=(if 32768<=a.hi then zx else ro a b)
  unfold ro;rw[tt (af4 _ Zo) (af4 _ Zo),tt Zo Zo]
  by_cases h:32768<=a.hi
  ·rw[if_pos ⟨rfl,h⟩,if_pos h]
  ·rw[if_neg (fun k=>h k.2),if_neg h]
 ·rfl
 ·rfl
 ·rfl
 ·rfl
 ·rfl
 ·rfl
 ·rfl
 ·rfl
 ·rfl
 ·rfl
 ·rfl
 ·rfl
 ·rfl
end Go.Proofs.YtoahcpkibpomcaaGreat
