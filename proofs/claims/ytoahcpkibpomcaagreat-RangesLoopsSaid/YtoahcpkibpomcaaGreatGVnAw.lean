/- Part of a proof. -/
import Derived.Test.YtoahcpkibpomcaaGreatSpw
set_option linter.all false
namespace Go.Proofs.YtoahcpkibpomcaaGreat
variable {i k x y:Nat}{c:Int}{order:List Nat}
structure IOp where
 code:Int
 res:Int
 a:Int
 b:Int
 n:Nat
 args:List Int
variable {o:IOp}
structure IEdge where
 block:Int
 args:List Int
structure ITerm where
 kind:Int
 a:Int
 to:List IEdge
structure IBlk where
 params:List Int
 ops:List IOp
 term:ITerm
variable {blocks:List IBlk}
structure IObj where
 bank:Int
 addr:Nat
 size:Nat
structure IProg where
 funcs:List (List IBlk)
 args:List Int
 entry:Int
 handler:Int
 data:List IObj
 banks:List ByteArray
structure Mach where
 ram:List Nat
 fuel:Int
 out:List (Nat×Nat)
 inputs:Nat
 polls:Nat
structure IEnv where
 p:IProg
 inn:List Nat
 irq:List Nat
inductive Res (α:Type) where
 |ok (x:α) (m:Mach)
 |trap (k i:Nat) (m:Mach)
def s16 (a:Nat):Int:=if a<32768 then(a:Int) else(a:Int)-65536
def iw (b:Bool):Nat:=if b then 1 else 0
def yW (code:Int)(a b:Nat):Nat:=
 if code=5 then(a+b)%65536
 else if code=6 then(a+(65536-b))%65536
 else if code=7 then a*b%65536
 else if code=8 then a/b
 else if code=9 then a &&& b
 else if code=10 then a|||b
 else if code=11 then a^^^b
 else if code=12 then a*2^(b%16)%65536
 else if code=13 then a/2^(b%16)
 else if code=14 then((s16 a/2^(b%16))%65536).toNat
 else if code=15 then iw (decide (a=b))
 else if code=16 then iw (decide (a<b))
 else iw (decide (s16 a<s16 b))
def wo (a:Nat):Bool:=decide (16384<=a) && decide (a<24576)
def tC (m:Mach)(a:Nat):Nat:=m.ram.getD (a-16384) 0
def sJ (E:IEnv)(bank a:Nat):Bool:=decide (bank<E.p.banks.length) && decide (a<4096)
def tS (E:IEnv)(bank a:Nat):Nat:=((E.p.banks.getD bank ⟨#[]⟩).data.getD a 0).toNat
def Mach.pay (m:Mach):Mach:= {m with fuel:=m.fuel-1 }
def Mach.put (m:Mach)(a x:Nat):Mach:= {m with ram:=m.ram.set (a-16384) x }
def j3 (a:Nat):Nat:=(a+1)%65536
def abh (m:Mach)(a:Nat):Res Nat:=if wo a then .ok (tC m a) m else .trap 2 a m
def pR (m:Mach)(a:Nat):Res Nat:=
 if wo a then(if wo (j3 a) then .ok (tC m a+256*tC m (j3 a)) m else .trap 2 (j3 a) m) else .trap 2 a m
def td (m:Mach)(a x:Nat):Res Nat:=if wo a then .ok 0 (m.put a (x%256)) else .trap 2 a m
def sK (m:Mach)(a x:Nat):Res Nat:=
 if wo a then(if wo (j3 a) then .ok 0 ((m.put a (x%256)).put (j3 a) (x/256)) else .trap 2 (j3 a) m) else .trap 2 a m
def nX (E:IEnv)(m:Mach)(bank a:Nat):Res Nat:=if sJ E bank a then .ok (tS E bank a) m else .trap 2 a m
def im (E:IEnv)(m:Mach)(bank a:Nat):Res Nat:=
 if sJ E bank a then(if sJ E bank (j3 a) then .ok (tS E bank a+256*tS E bank (j3 a)) m else .trap 2 (j3 a) m) else .trap 2 a m
def uq (E:IEnv)(m:Mach):Res Nat:=
 if m.inputs<E.inn.length then .ok (E.inn.getD m.inputs 0) {m with inputs:=m.inputs+1 } else .ok 0 m
def adS (m:Mach)(port x:Nat):Res Nat:=.ok 0 {m with out:=m.out++ [(port,x)]}
def iy (m:Mach)(code:Int)(a b:Nat):Res Nat:=if code=8/\b=0 then .trap 4 0 m else .ok (yW code a b) m
def mU (E:IEnv)(o:IOp)(a b:Nat)(m:Mach):Res Nat:=
 if o.code=1 then .ok o.n m
 else if o.code=2 then .ok ((((E.p.data.getD o.a.toNat ⟨0,0,0⟩).addr)+o.n)%65536) m
 else if o.code=3 then .ok ((65536-a)%65536) m
 else if o.code=4 then .ok (65535-a) m
 else if o.code=18 then pR m a
 else if o.code=19 then abh m a
 else if o.code=20 then sK m a b
 else if o.code=21 then td m a b
 else if o.code=22 then im E m o.n a
 else if o.code=23 then nX E m o.n a
 else if o.code=24 then uq E m
 else if o.code=25 then adS m o.n a
 else iy m o.code a b
def tY (E:IEnv)(call:Int->List Nat->Mach->Res Nat)(m:Mach):Res Nat:=
 if m.polls<E.irq.length then
  (if E.irq.getD m.polls 0≠0/\E.p.handler≠-1 then
    (match call E.p.handler [] {m with polls:=m.polls+1 } with
      |.ok _ m'=> .ok 0 m'
      |.trap k i m'=> .trap k i m')
    else .ok 0 {m with polls:=m.polls+1 })
 else .ok 0 m
def oV (E:IEnv)(call:Int->List Nat->Mach->Res Nat)(o:IOp)(v:Int->Nat)(m:Mach):Res Nat:=
 if o.code=26 then call o.a (o.args.map v) m
 else if o.code=27 then tY E call m
 else mU E o (v o.a) (v o.b) m
def iY (v:Int->Nat)(x:Int)(r:Nat):Int->Nat:=fun y=>if y=x then r else v y
def setV (v:Int->Nat)(x:Int)(r:Nat):Int->Nat:=if 0<=x then iY v x r else v
def iq (E:IEnv)(call:Int->List Nat->Mach->Res Nat):List IOp->(Int->Nat)->Mach->Res (Int->Nat)
 | [],v,m=> .ok v m
 |o::os,v,m=>
  if m.fuel<=0 then .trap 7 0 m
  else match oV E call o v m.pay with
   |.ok r m'=>iq E call os (setV v o.res r) m'
   |.trap k i m'=> .trap k i m'
def r7:List Int->List Nat->(Int->Nat)->(Int->Nat)
 |p::ps,a::as,v=>r7 ps as (iY v p a)
 |_,_,v=>v
def wK (t:ITerm)(a:Nat):IEdge:=
 if t.kind=2/\a=0 then t.to.getD 1 ⟨0,[]⟩
 else if t.kind=3 then t.to.getD (min a (t.to.length-1)) ⟨0,[]⟩
 else t.to.getD 0 ⟨0,[]⟩
def xz (blocks:List IBlk)(at':Int):IBlk:=blocks.getD at'.toNat ⟨[],[],⟨0,0,[]⟩⟩
def tJ (E:IEnv)(call:Int->List Nat->Mach->Res Nat)(blocks:List IBlk):Nat->Int->List Nat->(Int->Nat)->Mach->Res Nat
 |0,_,_,_,m=> .trap 7 0 m
 |n+1,at',args,v,m=>
  match iq E call (xz blocks at').ops (r7 (xz blocks at').params args v) m with
  |.trap k i m'=> .trap k i m'
  |.ok v2 m2=>
   if m2.fuel<=0 then .trap 7 0 m2
   else if(xz blocks at').term.kind=4 then .ok (if(xz blocks at').term.a=-1 then 0 else v2 (xz blocks at').term.a) m2.pay
   else if(xz blocks at').term.kind=5 then .trap 1 0 m2.pay
   else tJ E call blocks n (wK (xz blocks at').term (v2 (xz blocks at').term.a)).block ((wK (xz blocks at').term (v2 (xz blocks at').term.a)).args.map v2) v2 m2.pay
def xW (E:IEnv):Nat->Int->List Nat->Mach->Res Nat
 |0,_,_,m=> .trap 5 0 m
 |r+1,f,args,m=>
  if(E.p.funcs.getD f.toNat []).isEmpty then .trap 8 (f%65536).toNat m
  else tJ E (xW E r) (E.p.funcs.getD f.toNat []) (m.fuel.toNat+1) 0 args (fun _=>0) m
structure IRun where
 value:Nat
 out:List (Nat×Nat)
 kind:Nat
 info:Nat
 ram:List Nat
 inputs:Nat
 polls:Nat
def adO:Res Nat->IRun
 |.ok x m=>⟨x,m.out,6,0,m.ram,m.inputs,m.polls⟩
 |.trap k i m=>⟨0,m.out,k,i,m.ram,m.inputs,m.polls⟩
def v7 (s:ByteArray):List Nat:=(List.range 8192).map fun k=>(s.data.getD k 0).toNat
def bQ (E:IEnv)(f:Int)(args:List Nat)(ram:ByteArray)(fuel:Int):IRun:=adO (xW E 100 f args ⟨v7 ram,fuel,[],0,0⟩)
def ajK (p:IProg)(o:IOp):Prop:=
 (1<=o.code/\o.code<=27)/\(o.code=2->0<=o.a/\o.a.toNat<p.data.length)/\(o.code=26->0<=o.a/\o.a.toNat<p.funcs.length/\(o.args.length:Int)=p.args.getD o.a.toNat 0)
def bS (blocks:List IBlk)(t:ITerm):Prop:=
 (t.kind=1∨t.kind=2∨t.kind=3∨t.kind=4∨t.kind=5)/\(t.kind=1->1<=t.to.length)/\(t.kind=2->2<=t.to.length)/\(t.kind=3->1<=t.to.length)/\
  ∀e∈t.to,1<=e.block/\e.block.toNat<blocks.length/\e.args.length=(xz blocks e.block).params.length
theorem lL{t:ITerm}(h:bS blocks t)(i:t.kind≠4)(g:t.kind≠5)(a:Nat):wK t a∈t.to:=by
 have d:∀k,k<t.to.length->t.to.getD k ⟨0,[]⟩∈t.to:=fun k hk=>by rw[Jj,Jd hk];exact Uf hk
 unfold wK;obtain⟨c,h1,h2,h3,_⟩:=h
 by_cases c2:t.kind=2/\a=0
 ·rw[if_pos c2];exact d 1 (h2 c2.1)
 ·rw[if_neg c2]
  by_cases c3:t.kind=3
  ·rw[if_pos c3];have:=h3 c3;exact d _ Zo
  ·rw[if_neg c3];rcases c with c|c|c|c|c
   ·exact d 0 (h1 c)
   ·exact d 0 (by have:=h2 c;omega)
   ·exact absurd c c3
   ·exact absurd c i
   ·exact absurd c g
structure Rg where
 lo:Nat
 hi:Nat
def vu:Rg:=⟨0,65535⟩
def Rg.has (a:Rg)(x:Nat):Prop:=a.lo<=x/\x<=a.hi
def Rg.ok (a:Rg):Prop:=a.lo<=a.hi/\a.hi<=65535
def Rg.sub (a b:Rg):Prop:=b.lo<=a.lo/\a.hi<=b.hi
def agu (n:Nat):Rg:=⟨n,n⟩
def q8 (a:Rg):Bool:=decide (a.lo=a.hi)
def aeR (a b:Rg):Rg:=⟨min a.lo b.lo,max a.hi b.hi⟩
def ma (lo hi:Int):Rg:=if lo/65536=hi/65536 then⟨(lo%65536).toNat,(hi%65536).toNat⟩ else vu
def m6 (lo hi:Nat):Rg:=if hi<=65535 then⟨lo,hi⟩ else vu
def il (x:Nat):Nat:=if x=0 then 0 else 2*il (x/2)+1
termination_by x
decreasing_by omega
def aeG (a b:Rg):Rg:=if b.hi=0 then vu else⟨a.lo/b.hi,a.hi/max b.lo 1⟩
def aw (a b:Rg):Rg:=if q8 b then⟨a.lo/2^(b.lo%16),a.hi/2^(b.lo%16)⟩ else⟨0,a.hi⟩
def aeS (c:Int)(a b:Rg):Option Rg:=
 if c=3 then some (ma (-(a.hi:Int)) (-(a.lo:Int)))
 else if c=4 then some ⟨65535-a.hi,65535-a.lo⟩
 else if c=5 then some (ma ((a.lo:Int)+b.lo) ((a.hi:Int)+b.hi))
 else if c=6 then some (ma ((a.lo:Int)-b.hi) ((a.hi:Int)-b.lo))
 else if c=7 then some (m6 (a.lo*b.lo) (a.hi*b.hi))
 else if c=8 then some (aeG a b)
 else if c=9 then some ⟨0,min a.hi b.hi⟩
 else if c=10 then some ⟨max a.lo b.lo,il (max a.hi b.hi)⟩
 else if c=11 then some ⟨0,il (max a.hi b.hi)⟩
 else if c=12 then some (if q8 b then m6 (a.lo*2^(b.lo%16)) (a.hi*2^(b.lo%16)) else vu)
 else if c=13 then some (aw a b)
 else if c=14 then some (if 32768<=a.hi then vu else aw a b)
 else if c=15 then some (if a.hi<b.lo∨b.hi<a.lo then⟨0,0⟩ else⟨0,1⟩)
 else if c=16 then some (if a.hi<b.lo then⟨1,1⟩ else if b.hi<=a.lo then⟨0,0⟩ else⟨0,1⟩)
 else if c=17 then some ⟨0,1⟩
 else if c=19 then some ⟨0,255⟩
 else if c=23 then some ⟨0,255⟩
 else none
def cw (c:Int)(a b:Nat):Nat:=if c=3 then(65536-a)%65536 else if c=4 then 65535-a else yW c a b
def afL (c:Int)(a b:Rg):Rg:=
 match aeS c a b with
 |none=>vu
 |some r=>if c<=17/\q8 a=true/\((c=3∨c=4)∨q8 b=true) then(if c=8/\b.lo=0 then vu else agu (cw c a.lo b.lo)) else r
theorem i5(h:x<65536):vu.has x:=⟨Jt _,by show x<=65535;omega⟩
theorem mc:vu.ok:=⟨Jt _,Je _⟩
theorem ae0 (x:Nat):(agu x).has x:=⟨Je _,Je _⟩
theorem Rg.has.lt{a:Rg}(h:a.has x)(c:a.ok):x<65536:=by have:=h.2;have:=c.2;omega
theorem afu {lo hi z:Int}(h1:lo<=z)(h2:z<=hi):(ma lo hi).has (z%65536).toNat:=by
 unfold ma
 split
 ·rename_i h
  exact⟨by show(lo%65536).toNat<=_;omega,by show _<=(hi%65536).toNat;omega⟩
 ·exact i5 Zo
theorem afW {lo hi:Int}(h:lo<=hi):(ma lo hi).ok:=by
 unfold ma
 split
 ·exact⟨by show(lo%65536).toNat<=(hi%65536).toNat;omega,by show(hi%65536).toNat<=_;omega⟩
 ·exact mc
theorem af1 {lo hi z:Nat}(h1:lo<=z)(h2:z<=hi):(m6 lo hi).has (z%65536):=by
 unfold m6
 split
 ·rw[Nat.mod_eq_of_lt Zo];exact⟨h1,h2⟩
 ·exact i5 Zo
theorem agk {lo hi:Nat}(h:lo<=hi):(m6 lo hi).ok:=by
 unfold m6
 split
 ·exact⟨h,by assumption⟩
 ·exact mc
theorem afH:∀x:Nat,∃k,il x+1=2^k/\x<2^k/\(x<65536->k<=16):=by
 intro x
 induction x using Nat.strongRecOn with
 |_ x ih=>
  by_cases h:x=0
  ·exact⟨0,by rw[il,if_pos h],by subst h;decide,fun _=>Jt _⟩
  ·obtain⟨k,h1,h2,h3⟩:=ih (x/2) Zo;refine⟨k+1,by rw[il,if_neg h,Nat.pow_succ];omega,by rw[Nat.pow_succ];omega,fun h4=>?_⟩
   by_cases hk:k<=15
   ·omega
   ·obtain rfl:k=16:=by have:=h3 Zo;omega
    exfalso;have:il (x/2)+1=65536:=h1
    have d:∀j y,y<2^j->il y<2^j:=by
     intro j
     induction j with
     |zero=>intro y c;have:y=0:=by simpa using c
            rw[il,if_pos this];exact Nat.zero_lt_one
     |succ j ih2=>
      intro y c;rw[il]
      split
      ·exact Nat.pos_of_ne_zero Zs
      ·have:=ih2 (y/2) (by rw[Nat.pow_succ] at c;omega);rw[Nat.pow_succ];omega
    have:=d 15 (x/2) (by show x/2<32768;omega);have g:(2:Nat)^15=32768:=rfl;omega
theorem mask_min:∀(x m k:Nat),m+1=2^k->x<=m->il x<=m:=by
 intro x
 induction x using Nat.strongRecOn with
 |_ x ih=>
  intro m k hk c
  by_cases h:x=0
  ·rw[il,if_pos h];exact Jt _
  ·cases k with
   |zero=>simp at hk;omega
   |succ k=>
    rw[Nat.pow_succ] at hk;have:=ih (x/2) Zo ((m-1)/2) k Zo Zo;rw[il,if_neg h];omega
theorem aiK (x:Nat):x<=il x:=by
 obtain⟨k,h1,h2,_⟩:=afH x;omega
theorem aiM(h:x<65536):il x<65536:=by
 obtain⟨k,h1,h2,h3⟩:=afH x;have:=Nat.pow_le_pow_right (show 0<2 by decide) (h3 h);have c:(2:Nat)^16=65536:=rfl;omega
theorem aiU{h:Nat}(d:x<=h)(c:y<=h):x|||y<=il h/\x^^^y<=il h:=by
 obtain⟨k,h1,h2,_⟩:=afH h;have a:=Nat.or_lt_two_pow (n:=k) (x:=x) (y:=y) Zo Zo;have b:=Nat.xor_lt_two_pow (n:=k) (x:=x) (y:=y) Zo Zo;omega
theorem ahh{a b:Rg}(c:a.has x)(d:b.has y):(aw a b).has (x/2^(y%16)):=by
 unfold aw
 split
 ·rename_i h
  have h:b.lo=b.hi:=of_decide_eq_true h;obtain rfl:y=b.lo:=by have:=d.1;have:=d.2;omega
  exact⟨Nat.div_le_div_right c.1,Nat.div_le_div_right c.2⟩
 ·exact⟨Jt _,Jn (Nat.div_le_self _ _) c.2⟩
theorem ahP {a b:Rg}(c:a.ok):(aw a b).ok:=by
 unfold aw
 split
 ·exact⟨Nat.div_le_div_right c.1,Jn (Nat.div_le_self _ _) c.2⟩
 ·exact⟨Jt _,c.2⟩
theorem ahu (p:Bool):(⟨0,1⟩:Rg).has (iw p):=by cases p<;>exact⟨by decide,by decide⟩
theorem agG(hc:3<=c/\c<=17){a b r:Rg}(hr:aeS c a b=some r)(j:a.has x)(i:b.has y)(u:a.ok)(hb:b.ok)(t:¬(c=8/\y=0)):r.has (cw c x y):=by
 have g:=j.1;have d:=j.2;have l:=i.1;have k:=i.2;have a0:=u.2;have w:=hb.2;have o:c=3∨c=4∨c=5∨c=6∨c=7∨c=8∨c=9∨c=10∨c=11∨c=12∨c=13∨c=14∨c=15∨c=16∨c=17:=Zo;rcases o with rfl|rfl|rfl|rfl|rfl|rfl|rfl|rfl|rfl|rfl|rfl|rfl|rfl|rfl|rfl
 ·cases hr;have:=afu (lo:=-(a.hi:Int)) (hi:=-(a.lo:Int)) (z:=-(x:Int)) Zo Zo
  show(ma _ _).has ((65536-x)%65536)
  rw[show(65536-x)%65536=((-(x:Int))%65536).toNat by omega];exact this
 ·cases hr;exact⟨by show 65535-a.hi<=65535-x;omega,by show 65535-x<=65535-a.lo;omega⟩
 ·cases hr;have:=afu (lo:=(a.lo:Int)+b.lo) (hi:=(a.hi:Int)+b.hi) (z:=(x:Int)+y) Zo Zo
  show(ma _ _).has ((x+y)%65536)
  rw[show(x+y)%65536=(((x:Int)+y)%65536).toNat by omega];exact this
 ·cases hr;have:=afu (lo:=(a.lo:Int)-b.hi) (hi:=(a.hi:Int)-b.lo) (z:=(x:Int)-y) Zo Zo
  show(ma _ _).has ((x+(65536-y))%65536)
  rw[show(x+(65536-y))%65536=(((x:Int)-y)%65536).toNat by omega];exact this
 ·cases hr;exact af1 (Nat.mul_le_mul g l) (Nat.mul_le_mul d k)
 ·cases hr
  show(aeG a b).has (x/y)
  have m:y≠0:=fun h=>t ⟨rfl,h⟩
  unfold aeG;rw[if_neg Zo];refine⟨Nat.div_le_div g k m,?_⟩;exact Nat.div_le_div d Zo Zo
 ·cases hr;exact⟨Jt _,by show x &&& y<=min a.hi b.hi;have:=@Nat.and_le_left x y;have:=@Nat.and_le_right x y;omega⟩
 ·cases hr;have h1:=@Nat.left_le_or x y;have h2:=@Nat.right_le_or x y;have h3:=(aiU (x:=x) (y:=y) (h:=max a.hi b.hi) Zo Zo).1;exact⟨by show max a.lo b.lo<=x|||y;omega,h3⟩
 ·cases hr;exact⟨Jt _,(aiU (x:=x) (y:=y) (h:=max a.hi b.hi) Zo Zo).2⟩
 ·cases hr
  show(if q8 b=true then m6 _ _ else vu).has (x*2^(y%16)%65536)
  split
  ·rename_i h
   have h:b.lo=b.hi:=of_decide_eq_true h;obtain rfl:y=b.lo:=by omega
   exact af1 (Qw _ g) (Qw _ d)
  ·exact i5 Zo
 ·cases hr;exact ahh j i
 ·cases hr
  show(if 32768<=a.hi then vu else aw a b).has ((s16 x/2^(y%16))%65536).toNat
  split
  ·exact i5 Zo
  ·have hs:s16 x=(x:Int):=by unfold s16;rw[if_pos Zo]
   have hp:((x:Int)/2^(y%16)%65536).toNat=x/2^(y%16):=by
    have h1:(x:Int)/2^(y%16)=((x/2^(y%16):Nat):Int):=by simp
    have h2:=Nat.div_le_self x (2^(y%16));rw[h1];generalize x/2^(y%16)=q at *;omega
   rw[hs,hp];exact ahh j i
 ·cases hr
  show(if a.hi<b.lo∨b.hi<a.lo then(⟨0,0⟩:Rg) else⟨0,1⟩).has (iw (decide (x=y)))
  split
  ·rw[decide_eq_false Zo];exact⟨Je _,Je _⟩
  ·exact ahu _
 ·cases hr
  show(if a.hi<b.lo then(⟨1,1⟩:Rg) else if b.hi<=a.lo then⟨0,0⟩ else⟨0,1⟩).has (iw (decide (x<y)))
  split
  ·rw[decide_eq_true Zo];exact⟨Je _,Je _⟩
  ·split
   ·rw[decide_eq_false Zo];exact⟨Je _,Je _⟩
   ·exact ahu _
 ·cases hr;exact ahu _
theorem agn{a b r:Rg}(hr:aeS c a b=some r):c=3∨c=4∨c=5∨c=6∨c=7∨c=8∨c=9∨c=10∨c=11∨c=12∨c=13∨c=14∨c=15∨c=16∨c=17∨c=19∨c=23:=by
 by_cases h:c=3∨c=4∨c=5∨c=6∨c=7∨c=8∨c=9∨c=10∨c=11∨c=12∨c=13∨c=14∨c=15∨c=16∨c=17∨c=19∨c=23
 ·exact h
 ·unfold aeS at hr;rw[if_neg Zo,if_neg Zo,if_neg Zo,if_neg Zo,if_neg Zo,if_neg Zo,if_neg Zo,if_neg Zo,if_neg Zo,if_neg Zo,if_neg Zo,if_neg Zo,if_neg Zo,if_neg Zo,if_neg Zo,if_neg Zo,if_neg Zo] at hr;cases hr
theorem ai4(g:3<=c/\c<=17)(a b:Rg):∃r,aeS c a b=some r:=by
 have d:c=3∨c=4∨c=5∨c=6∨c=7∨c=8∨c=9∨c=10∨c=11∨c=12∨c=13∨c=14∨c=15∨c=16∨c=17:=Zo;rcases d with rfl|rfl|rfl|rfl|rfl|rfl|rfl|rfl|rfl|rfl|rfl|rfl|rfl|rfl|rfl<;>exact⟨_,rfl⟩
theorem afY(d:c=3∨c=4)(x y z:Nat):cw c x y=cw c x z:=by
 unfold cw;rcases d with h|h
 ·rw[if_pos h,if_pos h]
 ·rw[if_neg Zo,if_pos h,if_neg Zo,if_pos h]
theorem aiF(d:c=3∨c=4)(a b b':Rg):aeS c a b=aeS c a b':=by
 unfold aeS;rcases d with h|h
 ·rw[if_pos h,if_pos h]
 ·rw[if_neg Zo,if_pos h,if_neg Zo,if_pos h]
theorem ajv{a b r:Rg}(hr:aeS c a b=some r)(g:a.ok)(hb:b.ok):r.ok:=by
 have d:=g.1;have j:=g.2;have i:=hb.1;have k:=hb.2;have hm:=aiM (x:=max a.hi b.hi) Zo;have hl:=aiK (max a.hi b.hi);have h:c=3∨c=4∨c=5∨c=6∨c=7∨c=8∨c=9∨c=10∨c=11∨c=12∨c=13∨c=14∨c=15∨c=16∨c=17∨c=19∨c=23:=agn hr;rcases h with rfl|rfl|rfl|rfl|rfl|rfl|rfl|rfl|rfl|rfl|rfl|rfl|rfl|rfl|rfl|rfl|rfl<;>cases hr
 ·exact afW Zo
 ·exact⟨by show 65535-a.hi<=65535-a.lo;omega,by show 65535-a.lo<=65535;omega⟩
 ·exact afW Zo
 ·exact afW Zo
 ·exact agk (Nat.mul_le_mul d i)
 ·show(aeG a b).ok
  unfold aeG
  split
  ·exact mc
  ·exact⟨Nat.div_le_div d Zo Zo,Jn (Nat.div_le_self _ _) j⟩
 ·exact⟨Jt _,by show min a.hi b.hi<=65535;omega⟩
 ·exact⟨by show max a.lo b.lo<=il _;omega,by show il _<=65535;omega⟩
 ·exact⟨Jt _,by show il _<=65535;omega⟩
 ·show(if q8 b=true then m6 _ _ else vu).ok
  split
  ·exact agk (Qw _ d)
  ·exact mc
 ·exact ahP g
 ·show(if 32768<=a.hi then vu else aw a b).ok
  split
  ·exact mc
  ·exact ahP g
 ·show(if a.hi<b.lo∨b.hi<a.lo then(⟨0,0⟩:Rg) else⟨0,1⟩).ok
  split<;>exact⟨by decide,by decide⟩
 ·show(if a.hi<b.lo then(⟨1,1⟩:Rg) else if b.hi<=a.lo then⟨0,0⟩ else⟨0,1⟩).ok
  split
  ·exact⟨by decide,by decide⟩
  ·split<;>exact⟨by decide,by decide⟩
 all_goals exact⟨by decide,by decide⟩
theorem aga(d:3<=c/\c<=17)(i:x<65536)(h:y<65536)(g:¬(c=8/\y=0)):cw c x y<65536:=by
 obtain⟨r,hr⟩:=ai4 d (agu x) (agu y);have h1:(agu x).ok:=⟨Je _,by show x<=65535;omega⟩
 have h2:(agu y).ok:=⟨Je _,by show y<=65535;omega⟩
 exact(agG d hr (ae0 x) (ae0 y) h1 h2 g).lt (ajv hr h1 h2)
theorem app_ok(j:1<=c){a b:Rg}(d:a.ok)(hb:b.ok):(afL c a b).ok:=by
 unfold afL
 split
 ·exact mc
 ·rename_i r hr
  split
  ·rename_i h
   split
   ·exact mc
   ·rename_i i
    have g:3<=c:=by have:=agn hr;omega
    have:=aga (c:=c) (x:=a.lo) (y:=b.lo) ⟨g,h.1⟩ (by have:=d.1;have:=d.2;omega) (by have:=hb.1;have:=hb.2;omega) i;exact⟨Je _,by show cw c a.lo b.lo<=65535;omega⟩
  ·exact ajv hr d hb
structure Slv where
 r:List Rg
 kn:List Bool
def Slv.get (s:Slv)(v:Int):Rg:=s.r.getD v.toNat ⟨0,0⟩
def Slv.knw (s:Slv)(v:Int):Bool:=s.kn.getD v.toNat false
def Slv.put (s:Slv)(v:Int)(a:Rg):Slv:=⟨s.r.set v.toNat a,s.kn.set v.toNat true⟩
def afq (a b:Rg):Bool:=decide (a.lo=b.lo) && decide (a.hi=b.hi)
def aiR (k:Nat)(a:Rg):Rg:=if 4<k then vu else a
def setF (k:Nat)(s:Slv)(v:Int)(a:Rg):Slv×Bool:=
 if s.knw v=true then(if afq (aeR a (s.get v)) (s.get v)=true then(s,false) else(s.put v (aiR k (aeR a (s.get v))),true))
 else(s.put v (aiR k a),true)
def afO (p:IProg)(s:Slv)(o:IOp):Rg:=
 if o.code=1 then agu o.n
 else if o.code=2 then agu (((p.data.getD o.a.toNat ⟨0,0,0⟩).addr+o.n)%65536)
 else afL o.code (s.get o.a) (s.get o.b)
def i3 (k:Nat)(v:Int)(a:Rg)(q:Slv×Bool):Slv×Bool:=((setF k q.1 v a).1,q.2||(setF k q.1 v a).2)
def opS (p:IProg)(k:Nat)(q:Slv×Bool)(o:IOp):Slv×Bool:=if 0<=o.res then i3 k o.res (afO p q.1 o) q else q
def ajL (k:Nat)(q:Slv×Bool)(x:Int×Int):Slv×Bool:=i3 k x.1 (q.1.get x.2) q
def ag2 (blocks:List IBlk)(k:Nat)(q:Slv×Bool)(e:IEdge):Slv×Bool:=((xz blocks e.block).params.zip e.args).foldl (ajL k) q
def agS (p:IProg)(blocks:List IBlk)(k:Nat)(q:Slv×Bool)(b:IBlk):Slv×Bool:=b.term.to.foldl (ag2 blocks k) (b.ops.foldl (opS p k) q)
def goS (p:IProg)(blocks:List IBlk)(k:Nat)(q:Slv×Bool)(i:Nat):Slv×Bool:=
 ((agS p blocks k (q.1,false) (xz blocks i)).1,q.2||(agS p blocks k (q.1,false) (xz blocks i)).2)
def gn (p:IProg)(blocks:List IBlk)(order:List Nat)(k:Nat)(s:Slv):Slv×Bool:=order.foldl (goS p blocks k) (s,false)
def agD (p:IProg)(blocks:List IBlk)(order:List Nat):Nat->Nat->Slv->Slv
 |0,_,s=>s
 |n+1,k,s=>if(gn p blocks order (k+1) s).2=true then agD p blocks order n (k+1) (gn p blocks order (k+1) s).1 else(gn p blocks order (k+1) s).1
def aeM (n:Nat)(ps:List Int):Slv:=(ps.foldl (fun q v=>i3 0 v vu q) (⟨List.replicate n ⟨0,0⟩,List.replicate n false⟩,false)).1
def afa (s:Slv):List Rg:=(s.r.zip s.kn).map fun x=>if x.2=true then x.1 else vu
structure OkS (n:Nat) (s:Slv):Prop where
 rl:s.r.length=n
 kl:s.kn.length=n
 ok:∀a∈s.r,a.ok
theorem OkS.get {n:Nat}{s:Slv}(h:OkS n s)(v:Int):(s.get v).ok:=by
 unfold Slv.get;rw[Jj]
 cases e:s.r[v.toNat]? with
 |none=>exact⟨Je _,Jt _⟩
 |some a=>exact h.ok a (Ji e)
theorem OkS.put {n:Nat}{s:Slv}(h:OkS n s)(v:Int){a:Rg}(d:a.ok):OkS n (s.put v a):=
 ⟨by show(s.r.set _ _).length=n;rw[Nd,h.rl],by show(s.kn.set _ _).length=n;rw[Nd,h.kl],fun x c=>by
   rcases Qe c with c|rfl
   ·exact h.ok x c
   ·exact d⟩
theorem af2 {a b:Rg}(c:a.ok)(hb:b.ok):(aeR a b).ok:=by
 have:=c.1;have:=c.2;have:=hb.1;have:=hb.2;exact⟨by show min a.lo b.lo<=max a.hi b.hi;omega,by show max a.hi b.hi<=65535;omega⟩
theorem ag1{a:Rg}(c:a.ok):(aiR k a).ok:=by
 unfold aiR
 split
 ·exact mc
 ·exact c
theorem OkS.set{n:Nat}{s:Slv}(h:OkS n s)(v:Int){a:Rg}(c:a.ok):OkS n (setF k s v a).1:=by
 unfold setF
 split
 ·split
  ·exact h
  ·exact h.put v (ag1 (af2 c (h.get v)))
 ·exact h.put v (ag1 c)
theorem OkS.step {n k:Nat}{q:Slv×Bool}(h:OkS n q.1)(v:Int){a:Rg}(c:a.ok):OkS n (i3 k v a q).1:=h.set v c
theorem Rg.ext' {a b:Rg}(h1:a.lo=b.lo)(h2:a.hi=b.hi):a=b:=by cases a;cases b;simp only at h1 h2;subst h1 h2;rfl
theorem afP {a b:Rg}(h:afq a b=true):a=b:=by
 unfold afq at h;simp only[Jm,decide_eq_true_eq] at h;exact Rg.ext' h.1 h.2
theorem afx (a:Rg):afq a a=true:=by simp[afq]
theorem ahj{s:Slv}{v:Int}{a:Rg}(h:(setF k s v a).2=false):(setF k s v a).1=s/\s.knw v=true/\a.sub (s.get v):=by
 unfold setF at h ⊢
 by_cases h1:s.knw v=true
 ·rw[if_pos h1] at h ⊢
  by_cases h2:afq (aeR a (s.get v)) (s.get v)=true
  ·rw[if_pos h2];have e:=afP h2;refine⟨rfl,h1,?_,?_⟩
   ·rw[<-e];exact Nat.min_le_left _ _
   ·rw[<-e];exact Nat.le_max_left _ _
  ·rw[if_neg h2] at h;cases h
 ·rw[if_neg h1] at h;cases h
theorem aff{q:Slv×Bool}{v:Int}{a:Rg}(h:(i3 k v a q).2=false):q.2=false/\i3 k v a q=q/\q.1.knw v=true/\a.sub (q.1.get v):=by
 unfold i3 at h ⊢;rw[Bool.or_eq_false_iff] at h;obtain⟨h1,h2,h3⟩:=ahj h.2;refine⟨h.1,?_,h2,h3⟩;obtain⟨s,c⟩:=q;simp only at h h1 ⊢;rw[h1,h.1,h.2];rfl
def nfL:List Rg->List Bool->Nat
 |a::rs,b::bs=>(if b=true/\afq a vu=true then 0 else 1)+nfL rs bs
 |_,_=>0
def Slv.nf (s:Slv):Nat:=nfL s.r s.kn
variable {g:Slv×Bool->Slv×Bool}
theorem nfL_le:∀(rs:List Rg) (bs:List Bool),nfL rs bs<=rs.length
 | [],_=>by simp[nfL]
 |a::rs,[]=>by simp[nfL]
 |a::rs,b::bs=>by
  have:=nfL_le rs bs;unfold nfL;rw[Nq]
  split<;>omega
theorem ahG:∀(rs:List Rg) (bs:List Bool) (v:Nat) (a:Rg),rs.length=bs.length->v<rs.length->(bs.getD v false=true->rs.getD v ⟨0,0⟩=vu->a=vu)->
 nfL (rs.set v a) (bs.set v true)<=nfL rs bs/\(a=vu->¬(bs.getD v false=true/\rs.getD v ⟨0,0⟩=vu)->nfL (rs.set v a) (bs.set v true)<nfL rs bs)
 | [],_,v,a,hl,hv,h=>by simp at hv
 |x::rs,[],v,a,hl,hv,h=>by simp at hl
 |x::rs,b::bs,0,a,hl,hv,h=>by
  simp only[Jf,nfL,List.getD_cons_zero] at h ⊢
  by_cases e:a=vu
  ·subst e;rw[if_pos ⟨trivial,afx _⟩];refine⟨by omega,fun _ hn=>?_⟩;rw[if_neg (fun hh=>hn ⟨hh.1,afP hh.2⟩)];omega
  ·refine⟨?_,fun h1=>absurd h1 e⟩;rw[if_neg (fun hh:b=true/\afq x vu=true=>e (h hh.1 (afP hh.2)))]
   split<;>omega
 |x::rs,b::bs,v+1,a,hl,hv,h=>by
  simp only[Nq] at hl hv;obtain⟨t1,t2⟩:=ahG rs bs v a Zo Zo (by simpa using h);simp only[Jg,nfL,List.getD_cons_succ];exact⟨by omega,fun h1 h2=>by have:=t2 h1 h2;omega⟩
theorem agY {a:Rg}(c:a.ok):aeR a vu=vu:=by
 have:=c.2;exact Rg.ext' (by show min a.lo 0=0;omega) (by show max a.hi 65535=65535;omega)
theorem set_nf{n:Nat}{s:Slv}(h:OkS n s){v:Int}(hv:v.toNat<n){a:Rg}(d:a.ok):(setF k s v a).1.nf<=s.nf/\(4<k->(setF k s v a).2=true->(setF k s v a).1.nf<s.nf):=by
 unfold setF
 by_cases h1:s.knw v=true
 ·rw[if_pos h1]
  by_cases h2:afq (aeR a (s.get v)) (s.get v)=true
  ·rw[if_pos h2];exact⟨Je _,fun _ hc=>by cases hc⟩
  ·rw[if_neg h2];have c:s.get v≠vu:=fun e=>h2 (by rw[e,agY d];exact afx _)
   have:=ahG s.r s.kn v.toNat (aiR k (aeR a (s.get v))) (by rw[h.rl,h.kl]) (by rw[h.rl];exact hv) (fun _ e=>absurd e c);exact⟨this.1,fun hk _=>this.2 (by unfold aiR;rw[if_pos hk]) (fun hh=>c hh.2)⟩
 ·rw[if_neg h1];have:=ahG s.r s.kn v.toNat (aiR k a) (by rw[h.rl,h.kl]) (by rw[h.rl];exact hv) (fun e _=>absurd e h1);exact⟨this.1,fun hk _=>this.2 (by unfold aiR;rw[if_pos hk]) (fun hh=>h1 hh.1)⟩
structure Goes (n k:Nat) (f:Slv×Bool->Slv×Bool):Prop where
 ok:∀q,OkS n q.1->OkS n (f q).1
 nf:∀q,OkS n q.1->(f q).1.nf<=q.1.nf
 lt:∀q,OkS n q.1->4<k->q.2=false->(f q).2=true->(f q).1.nf<q.1.nf
 up:∀q,q.2=true->(f q).2=true
 flag:∀s c,f (s,c)=((f (s,false)).1,c||(f (s,false)).2)
theorem Goes.id (n k:Nat):Goes n k (fun q=>q):=⟨fun _ h=>h,fun _ _=>Je _,(fun q _ _ h1 h2=>by rw[h1] at h2;cases h2),fun _ h=>h,fun s c=>by simp⟩
theorem Goes.comp{n:Nat}{f:Slv×Bool->Slv×Bool}(hf:Goes n k f)(hg:Goes n k g):Goes n k (fun q=>g (f q)) where
 ok:=fun q h=>hg.ok _ (hf.ok q h)
 nf:=fun q h=>Jn (hg.nf _ (hf.ok q h)) (hf.nf q h)
 lt:=fun q h hk h1 h2=>by
  by_cases h3:(f q).2=true
  ·exact Nat.lt_of_le_of_lt (hg.nf _ (hf.ok q h)) (hf.lt q h hk h1 h3)
  ·exact Jy (hg.lt _ (hf.ok q h) hk (by simpa using h3) h2) (hf.nf q h)
 up:=fun q h=>hg.up _ (hf.up q h)
 flag:=fun s c=>by
  rw[hf.flag s c,hg.flag (f (s,false)).1 (c||(f (s,false)).2),hg.flag (f (s,false)).1 (f (s,false)).2,Bool.or_assoc]
theorem Goes.fold{α:Type}{n:Nat}{f:Slv×Bool->α->Slv×Bool}:∀(l:List α),(∀x∈l,Goes n k (fun q=>f q x))->Goes n k (fun q=>l.foldl f q)
 | [],_=>Goes.id n k
 |x::l,h=>Goes.comp (h x (.head _)) (Goes.fold l fun y hy=>h y (.tail _ hy))
theorem Goes.step {n k:Nat}{v:Int}(hv:v.toNat<n){a:Slv->Rg}(d:∀s,OkS n s->(a s).ok):Goes n k (fun q=>i3 k v (a q.1) q) where
 ok:=fun q h=>h.step v (d _ h)
 nf:=fun q h=>(set_nf h hv (d _ h)).1
 lt:=fun q h hk h1 h2=>by
  unfold i3 at h2;rw[h1,Bool.false_or] at h2;exact(set_nf h hv (d _ h)).2 hk h2
 up:=fun q h=>by unfold i3;rw[h];rfl
 flag:=fun s c=>by unfold i3;simp
def ahy (n:Nat)(o:IOp):Prop:=0<=o.res->o.res.toNat<n/\1<=o.code/\(o.code=1->o.n<65536)
def aeB (n:Nat)(blocks:List IBlk)(b:IBlk):Prop:=(∀o∈b.ops,ahy n o)/\∀e∈b.term.to,∀v∈(xz blocks e.block).params,v.toNat<n
theorem ahV{p:IProg}{n:Nat}{s:Slv}(h:OkS n s)(ho:ahy n o)(c:0<=o.res):(afO p s o).ok:=by
 unfold afO;obtain⟨_,h1,h2⟩:=ho c
 split
 ·rename_i h3;exact⟨Je _,by show o.n<=65535;have:=h2 h3;omega⟩
 ·split
  ·exact⟨Je _,by show _%65536<=65535;omega⟩
  ·exact app_ok h1 (h.get _) (h.get _)
theorem goes_op{p:IProg}{n:Nat}(ho:ahy n o):Goes n k (fun q=>opS p k q o):=by
 by_cases c:0<=o.res
 ·have:(fun q=>opS p k q o)=(fun q:Slv×Bool=>i3 k o.res (afO p q.1 o) q):=by funext q;unfold opS;rw[if_pos c]
  rw[this];exact Goes.step (ho c).1 fun s hs=>ahV hs ho c
 ·have:(fun q=>opS p k q o)=(fun q:Slv×Bool=>q):=by funext q;unfold opS;rw[if_neg c]
  rw[this];exact Goes.id n k
theorem goes_arg{n:Nat}{x:Int×Int}(c:x.1.toNat<n):Goes n k (fun q=>ajL k q x):=Goes.step (a:=fun s=>s.get x.2) c fun s hs=>hs.get _
theorem aiN{n:Nat}{e:IEdge}(h:∀v∈(xz blocks e.block).params,v.toNat<n):Goes n k (fun q=>ag2 blocks k q e):=
 Goes.fold _ fun x hx=>goes_arg (h _ (List.of_mem_zip hx).1)
theorem ahZ{p:IProg}{n:Nat}{b:IBlk}(h:aeB n blocks b):Goes n k (fun q=>agS p blocks k q b):=
 Goes.comp (Goes.fold _ fun o ho=>goes_op (h.1 o ho)) (Goes.fold _ fun e he=>aiN (h.2 e he))
theorem ajs{p:IProg}{n:Nat}(h:aeB n blocks (xz blocks i))(q:Slv×Bool):goS p blocks k q i=agS p blocks k q (xz blocks i):=by
 obtain⟨s,c⟩:=q;exact((ahZ (p:=p) (k:=k) h).flag s c).symm
theorem goes_go{p:IProg}{n:Nat}(h:aeB n blocks (xz blocks i)):Goes n k (fun q=>goS p blocks k q i):=by
 have:(fun q=>goS p blocks k q i)=(fun q=>agS p blocks k q (xz blocks i)):=by funext q;exact ajs h q
 rw[this];exact ahZ h
theorem afs{p:IProg}{n:Nat}(h:∀i∈order,aeB n blocks (xz blocks i)):Goes n k (fun q=>order.foldl (goS p blocks k) q):=
 Goes.fold _ fun i hi=>goes_go (h i hi)
def aeI (k:Nat)(s:Slv):Nat:=(4-k)+s.nf
theorem agc{p:IProg}{n:Nat}(h:∀i∈order,aeB n blocks (xz blocks i)){s:Slv}(hs:OkS n s)(c:(gn p blocks order (k+1) s).2=true):
 aeI (k+1) (gn p blocks order (k+1) s).1<aeI k s:=by
 have hg:=afs (p:=p) (k:=k+1) h;have h1:(gn p blocks order (k+1) s).1.nf<=s.nf:=hg.nf (s,false) hs;have h2:4<k+1->false=false->(gn p blocks order (k+1) s).2=true->(gn p blocks order (k+1) s).1.nf<s.nf:=hg.lt (s,false) hs;unfold aeI
 by_cases hk:4<k+1
 ·have:=h2 hk rfl c;omega
 ·omega
def ajz (p:IProg)(blocks:List IBlk)(order:List Nat)(k:Nat)(s:Slv):Slv:=agD p blocks order (aeI k s+1) k s
theorem afp{p:IProg}{n:Nat}(h:∀i∈order,aeB n blocks (xz blocks i)):∀(j j' k:Nat) (s:Slv),OkS n s->aeI k s<j->aeI k s<j'->agD p blocks order j k s=agD p blocks order j' k s
 |0,_,k,s,_,h1,_=>absurd h1 (Nat.not_lt_zero _)
 |_+1,0,k,s,_,_,h1=>absurd h1 (Nat.not_lt_zero _)
 |j+1,j'+1,k,s,hs,h1,h2=>by
  unfold agD
  split
  ·rename_i hc
   have hm:=agc h hs hc;exact afp h j j' (k+1) _ ((afs (p:=p) (k:=k+1) h).ok (s,false) hs) Zo Zo
  ·rfl
theorem agE{p:IProg}{n:Nat}(h:∀i∈order,aeB n blocks (xz blocks i)){s:Slv}(hs:OkS n s):
 ajz p blocks order k s=if(gn p blocks order (k+1) s).2=true then ajz p blocks order (k+1) (gn p blocks order (k+1) s).1 else(gn p blocks order (k+1) s).1:=by
 unfold ajz;rw[agD]
 split
 ·rename_i c
  have hm:=agc h hs c;exact afp h _ _ (k+1) _ ((afs (p:=p) (k:=k+1) h).ok (s,false) hs) Zo Zo
 ·rfl
def aeQ (f:Slv×Bool->Slv×Bool)(P:Slv->Prop):Prop:=∀q,(f q).2=false->f q=q/\q.2=false/\P q.1
theorem aeQ.comp{f:Slv×Bool->Slv×Bool}{P Q:Slv->Prop}(hf:aeQ f P)(hg:aeQ g Q):aeQ (fun q=>g (f q)) (fun s=>P s/\Q s):=fun q h=>by
 obtain⟨h1,h2,h3⟩:=hg _ h;obtain⟨c,i,d⟩:=hf q h2;rw[c] at h1 h3;exact⟨by show g (f q)=q;rw[c];exact h1,i,d,h3⟩
theorem aeQ.fold {α:Type}{f:Slv×Bool->α->Slv×Bool}{P:α->Slv->Prop}:∀(l:List α),(∀x∈l,aeQ (fun q=>f q x) (P x))->aeQ (fun q=>l.foldl f q) (fun s=>∀x∈l,P x s)
 | [],_=>fun q h=>⟨rfl,h,fun x hx=>by cases hx⟩
 |x::l,h=>fun q hq=>by
  obtain⟨h1,h2,h3,h4⟩:=aeQ.comp (h x (.head _)) (aeQ.fold l fun y c=>h y (.tail _ c)) q hq
  exact⟨h1,h2,fun y c=>by
   rcases Jq.1 c with rfl|c
   ·exact h3
   ·exact h4 y c⟩
def ajA (p:IProg)(o:IOp)(s:Slv):Prop:=0<=o.res->s.knw o.res=true/\(afO p s o).sub (s.get o.res)
def FixArg (x:Int×Int)(s:Slv):Prop:=s.knw x.1=true/\(s.get x.2).sub (s.get x.1)
def aib (p:IProg)(blocks:List IBlk)(b:IBlk)(s:Slv):Prop:=(∀o∈b.ops,ajA p o s)/\∀e∈b.term.to,∀x∈(xz blocks e.block).params.zip e.args,FixArg x s
theorem still_op{p:IProg}:aeQ (fun q=>opS p k q o) (ajA p o):=fun q h=>by
 show opS p k q o=q/\_
 have h:(opS p k q o).2=false:=h;unfold opS at h ⊢
 by_cases c:0<=o.res
 ·rw[if_pos c] at h ⊢;obtain⟨h1,h2,h3,d⟩:=aff h;exact⟨h2,h1,fun _=>⟨h3,d⟩⟩
 ·rw[if_neg c] at h ⊢;exact⟨rfl,h,fun hh=>absurd hh c⟩
theorem ajx{x:Int×Int}:aeQ (fun q=>ajL k q x) (FixArg x):=fun q h=>by
 obtain⟨h1,h2,h3,c⟩:=aff h;exact⟨h2,h1,h3,c⟩
theorem ai2{p:IProg}{b:IBlk}:aeQ (fun q=>agS p blocks k q b) (aib p blocks b):=
 aeQ.comp (aeQ.fold _ fun o _=>still_op) (aeQ.fold _ fun e _=>aeQ.fold _ fun x _=>ajx)
theorem ahH{p:IProg}{n:Nat}(h:∀i∈order,aeB n blocks (xz blocks i)):aeQ (fun q=>order.foldl (goS p blocks k) q) (fun s=>∀i∈order,aib p blocks (xz blocks i) s):=
 aeQ.fold _ fun i hi=>by
  have:(fun q=>goS p blocks k q i)=(fun q=>agS p blocks k q (xz blocks i)):=by funext q;exact ajs (h i hi) q
  rw[this];exact ai2
def afh (s t:Slv):Prop:=∀v:Int,s.knw v=true->t.knw v=true/\(s.get v=vu->t.get v=vu)
theorem afh.refl (s:Slv):afh s s:=fun v h=>⟨h,fun h=>h⟩
theorem afh.trans {s t u:Slv}(h:afh s t)(k:afh t u):afh s u:=fun v hv=>⟨(k v (h v hv).1).1,fun e=>(k v (h v hv).1).2 ((h v hv).2 e)⟩
theorem ahg {n:Nat}{s:Slv}(hs:OkS n s){v:Int}(hv:v.toNat<n){a:Rg}(h:s.knw v=true->s.get v=vu->a=vu):afh s (s.put v a):=fun u hu=>by
 unfold Slv.knw Slv.get Slv.put at *;simp only[Jj] at *
 by_cases e:v.toNat=u.toNat
 ·rw[e] at hv h ⊢;rw[Nn (by rw[hs.kl];exact hv),Nn (by rw[hs.rl];exact hv)];exact⟨rfl,fun h2=>h hu h2⟩
 ·rw[Ns e,Ns e];exact⟨hu,fun h=>h⟩
theorem ai7{n:Nat}{s:Slv}(hs:OkS n s){v:Int}(hv:v.toNat<n){a:Rg}(c:a.ok):afh s (setF k s v a).1:=by
 unfold setF
 by_cases h1:s.knw v=true
 ·rw[if_pos h1]
  by_cases h2:afq (aeR a (s.get v)) (s.get v)=true
  ·rw[if_pos h2];exact afh.refl s
  ·rw[if_neg h2];exact ahg hs hv fun _ e=>absurd (show afq (aeR a (s.get v)) (s.get v)=true by rw[e,agY c];exact afx _) h2
 ·rw[if_neg h1];exact ahg hs hv fun h=>absurd h h1
structure Keeps (n:Nat) (f:Slv×Bool->Slv×Bool):Prop where
 ok:∀q,OkS n q.1->OkS n (f q).1
 kn:∀q,OkS n q.1->afh q.1 (f q).1
theorem Keeps.comp{n:Nat}{f:Slv×Bool->Slv×Bool}(hf:Keeps n f)(hg:Keeps n g):Keeps n (fun q=>g (f q)):=
 ⟨fun q h=>hg.ok _ (hf.ok q h),fun q h=>(hf.kn q h).trans (hg.kn _ (hf.ok q h))⟩
theorem Keeps.fold {α:Type}{n:Nat}{f:Slv×Bool->α->Slv×Bool}:∀(l:List α),(∀x∈l,Keeps n (fun q=>f q x))->Keeps n (fun q=>l.foldl f q)
 | [],_=>⟨fun _ h=>h,fun q _=>afh.refl _⟩
 |x::l,h=>Keeps.comp (h x (.head _)) (Keeps.fold l fun y hy=>h y (.tail _ hy))
theorem ae7{n:Nat}{v:Int}(hv:v.toNat<n){a:Slv->Rg}(c:∀s,OkS n s->(a s).ok):Keeps n (fun q=>i3 k v (a q.1) q):=
 ⟨fun q h=>h.step v (c _ h),fun q h=>ai7 h hv (c _ h)⟩
theorem keeps_op{p:IProg}{n:Nat}(ho:ahy n o):Keeps n (fun q=>opS p k q o):=by
 by_cases c:0<=o.res
 ·have:(fun q=>opS p k q o)=(fun q:Slv×Bool=>i3 k o.res (afO p q.1 o) q):=by funext q;unfold opS;rw[if_pos c]
  rw[this];exact ae7 (ho c).1 fun s hs=>ahV hs ho c
 ·have:(fun q=>opS p k q o)=(fun q:Slv×Bool=>q):=by funext q;unfold opS;rw[if_neg c]
  rw[this];exact⟨fun _ h=>h,fun q _=>afh.refl _⟩
theorem ajf{p:IProg}{n:Nat}{b:IBlk}(h:aeB n blocks b):Keeps n (fun q=>agS p blocks k q b):=
 Keeps.comp (Keeps.fold _ fun o ho=>keeps_op (h.1 o ho)) (Keeps.fold _ fun e he=>Keeps.fold _ fun x hx=>ae7 (a:=fun s=>s.get x.2) (h.2 e he _ (List.of_mem_zip hx).1) fun s hs=>hs.get _)
theorem ahq{p:IProg}{n:Nat}(h:∀i∈order,aeB n blocks (xz blocks i)):Keeps n (fun q=>order.foldl (goS p blocks k) q):=
 Keeps.fold _ fun i hi=>by
  have:(fun q=>goS p blocks k q i)=(fun q=>agS p blocks k q (xz blocks i)):=by funext q;exact ajs (h i hi) q
  rw[this];exact ajf (h i hi)
structure EndOk (p:IProg) (n:Nat) (blocks:List IBlk) (order:List Nat) (s t:Slv):Prop where
 ok:OkS n t
 kn:afh s t
 fix:∀i∈order,aib p blocks (xz blocks i) t
theorem end_ok {p:IProg}{n:Nat}{blocks:List IBlk}{order:List Nat}(h:∀i∈order,aeB n blocks (xz blocks i)):∀(j k:Nat) (s:Slv),OkS n s->aeI k s<j->EndOk p n blocks order s (ajz p blocks order k s)
 |0,k,s,_,h1=>absurd h1 (Nat.not_lt_zero _)
 |j+1,k,s,hs,h1=>by
  rw[agE h hs];have hk:=ahq (p:=p) (k:=k+1) h
  split
  ·rename_i c
   have:=end_ok (p:=p) h j (k+1) (gn p blocks order (k+1) s).1 (hk.ok (s,false) hs) (by have:=agc h hs c;omega);exact⟨this.ok,(hk.kn (s,false) hs).trans this.kn,this.fix⟩
  ·rename_i c
   obtain⟨h2,_,h3⟩:=ahH (p:=p) (k:=k+1) h (s,false) (by simpa[gn] using c)
   have e:(gn p blocks order (k+1) s).1=s:=by
    show(order.foldl (goS p blocks (k+1)) (s,false)).1=s
    have:order.foldl (goS p blocks (k+1)) (s,false)=(s,false):=h2;rw[this]
   rw[e];exact⟨hs,afh.refl s,h3⟩
theorem end_ok'{p:IProg}{n:Nat}(h:∀i∈order,aeB n blocks (xz blocks i)){s:Slv}(hs:OkS n s):EndOk p n blocks order s (ajz p blocks order k s):=end_ok h _ k s hs (Nat.lt_succ_self _)
theorem afJ (n:Nat):OkS n ⟨List.replicate n ⟨0,0⟩,List.replicate n false⟩:=
 ⟨by simp,by simp,fun a ha=>by rw[List.eq_of_mem_replicate ha];exact⟨Je _,Jt _⟩⟩
theorem af6 {n:Nat}{ps:List Int}(h:∀v∈ps,v.toNat<n):Keeps n (fun q=>ps.foldl (fun q v=>i3 0 v vu q) q):=Keeps.fold _ fun v hv=>ae7 (a:=fun _=>vu) (h v hv) fun _ _=>mc
theorem start_ok {n:Nat}{ps:List Int}(h:∀v∈ps,v.toNat<n):OkS n (aeM n ps):=(af6 h).ok (_,false) (afJ n)
theorem afK {n:Nat}{s:Slv}(hs:OkS n s){v:Int}(hv:v.toNat<n)(a:Rg):(s.put v a).knw v=true/\(s.put v a).get v=a:=by
 unfold Slv.knw Slv.get Slv.put;simp only[Jj];rw[Nn (by rw[hs.kl];exact hv),Nn (by rw[hs.rl];exact hv)];exact⟨rfl,rfl⟩
theorem agL {n:Nat}{s:Slv}(h:OkS n s){v:Nat}(hv:v<n):(afa s)[v]? =some (if s.knw (v:Int)=true then s.get (v:Int) else vu):=by
 have h1:v<s.r.length:=by rw[h.rl];exact hv
 have h2:v<s.kn.length:=by rw[h.kl];exact hv
 have c:(s.r.zip s.kn)[v]? =some (s.r[v],s.kn[v]):=by
  rw[Jd (by rw[List.length_zip];omega)];simp
 unfold afa Slv.knw Slv.get;rw[Jr,c,Ni,Jj,Jj,Jd h1,Jd h2];rfl
abbrev ae1:=Int->List Nat->Mach->Res Nat
end Go.Proofs.YtoahcpkibpomcaaGreat
