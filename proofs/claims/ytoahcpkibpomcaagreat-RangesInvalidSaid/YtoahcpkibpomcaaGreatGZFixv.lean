/- Part of a proof. -/
import Derived.Test.YtoahcpkibpomcaaGreatSpv
set_option linter.all false
namespace Go.Proofs.YtoahcpkibpomcaaGreat
variable {i k x y:Nat}{c:List Nat}{ps:List Int}
structure IOp where
 code:Int
 res:Int
 a:Int
 b:Int
 n:Nat
 args:List Int
variable {o:IOp}
structure IEdge where
 block:Int
 args:List Int
structure ITerm where
 kind:Int
 a:Int
 to:List IEdge
structure IBlk where
 params:List Int
 ops:List IOp
 term:ITerm
variable {blocks:List IBlk}
structure IObj where
 bank:Int
 addr:Nat
 size:Nat
structure IProg where
 funcs:List (List IBlk)
 args:List Int
 entry:Int
 handler:Int
 data:List IObj
 banks:List ByteArray
structure Mach where
 ram:List Nat
 fuel:Int
 out:List (Nat×Nat)
 inputs:Nat
 polls:Nat
structure IEnv where
 p:IProg
 inn:List Nat
 irq:List Nat
inductive Res (α:Type) where
 |ok (x:α) (m:Mach)
 |trap (k i:Nat) (m:Mach)
def s16 (a:Nat):Int:=if a<32768 then(a:Int) else(a:Int)-65536
def iw (b:Bool):Nat:=if b then 1 else 0
def yW (code:Int)(a b:Nat):Nat:=
 if code=5 then(a+b)%65536
 else if code=6 then(a+(65536-b))%65536
 else if code=7 then a*b%65536
 else if code=8 then a/b
 else if code=9 then a &&& b
 else if code=10 then a|||b
 else if code=11 then a^^^b
 else if code=12 then a*2^(b%16)%65536
 else if code=13 then a/2^(b%16)
 else if code=14 then((s16 a/2^(b%16))%65536).toNat
 else if code=15 then iw (decide (a=b))
 else if code=16 then iw (decide (a<b))
 else iw (decide (s16 a<s16 b))
def wo (a:Nat):Bool:=decide (16384<=a) && decide (a<24576)
def tC (m:Mach)(a:Nat):Nat:=m.ram.getD (a-16384) 0
def sJ (E:IEnv)(bank a:Nat):Bool:=decide (bank<E.p.banks.length) && decide (a<4096)
def tS (E:IEnv)(bank a:Nat):Nat:=((E.p.banks.getD bank ⟨#[]⟩).data.getD a 0).toNat
def Mach.pay (m:Mach):Mach:= {m with fuel:=m.fuel-1 }
def Mach.put (m:Mach)(a x:Nat):Mach:= {m with ram:=m.ram.set (a-16384) x }
def afv (a:Nat):Nat:=(a+1)%65536
def abh (m:Mach)(a:Nat):Res Nat:=if wo a then .ok (tC m a) m else .trap 2 a m
def pR (m:Mach)(a:Nat):Res Nat:=
 if wo a then(if wo (afv a) then .ok (tC m a+256*tC m (afv a)) m else .trap 2 (afv a) m) else .trap 2 a m
def td (m:Mach)(a x:Nat):Res Nat:=if wo a then .ok 0 (m.put a (x%256)) else .trap 2 a m
def sK (m:Mach)(a x:Nat):Res Nat:=
 if wo a then(if wo (afv a) then .ok 0 ((m.put a (x%256)).put (afv a) (x/256)) else .trap 2 (afv a) m) else .trap 2 a m
def nX (E:IEnv)(m:Mach)(bank a:Nat):Res Nat:=if sJ E bank a then .ok (tS E bank a) m else .trap 2 a m
def im (E:IEnv)(m:Mach)(bank a:Nat):Res Nat:=
 if sJ E bank a then(if sJ E bank (afv a) then .ok (tS E bank a+256*tS E bank (afv a)) m else .trap 2 (afv a) m) else .trap 2 a m
def uq (E:IEnv)(m:Mach):Res Nat:=
 if m.inputs<E.inn.length then .ok (E.inn.getD m.inputs 0) {m with inputs:=m.inputs+1 } else .ok 0 m
def adS (m:Mach)(port x:Nat):Res Nat:=.ok 0 {m with out:=m.out++ [(port,x)]}
def iy (m:Mach)(code:Int)(a b:Nat):Res Nat:=if code=8/\b=0 then .trap 4 0 m else .ok (yW code a b) m
def mU (E:IEnv)(o:IOp)(a b:Nat)(m:Mach):Res Nat:=
 if o.code=1 then .ok o.n m
 else if o.code=2 then .ok ((((E.p.data.getD o.a.toNat ⟨0,0,0⟩).addr)+o.n)%65536) m
 else if o.code=3 then .ok ((65536-a)%65536) m
 else if o.code=4 then .ok (65535-a) m
 else if o.code=18 then pR m a
 else if o.code=19 then abh m a
 else if o.code=20 then sK m a b
 else if o.code=21 then td m a b
 else if o.code=22 then im E m o.n a
 else if o.code=23 then nX E m o.n a
 else if o.code=24 then uq E m
 else if o.code=25 then adS m o.n a
 else iy m o.code a b
def tY (E:IEnv)(call:Int->List Nat->Mach->Res Nat)(m:Mach):Res Nat:=
 if m.polls<E.irq.length then
  (if E.irq.getD m.polls 0≠0/\E.p.handler≠-1 then
    (match call E.p.handler [] {m with polls:=m.polls+1 } with
      |.ok _ m'=> .ok 0 m'
      |.trap k i m'=> .trap k i m')
    else .ok 0 {m with polls:=m.polls+1 })
 else .ok 0 m
def oV (E:IEnv)(call:Int->List Nat->Mach->Res Nat)(o:IOp)(v:Int->Nat)(m:Mach):Res Nat:=
 if o.code=26 then call o.a (o.args.map v) m
 else if o.code=27 then tY E call m
 else mU E o (v o.a) (v o.b) m
def iY (v:Int->Nat)(x:Int)(r:Nat):Int->Nat:=fun y=>if y=x then r else v y
def setV (v:Int->Nat)(x:Int)(r:Nat):Int->Nat:=if 0<=x then iY v x r else v
def iq (E:IEnv)(call:Int->List Nat->Mach->Res Nat):List IOp->(Int->Nat)->Mach->Res (Int->Nat)
 | [],v,m=> .ok v m
 |o::os,v,m=>
  if m.fuel<=0 then .trap 7 0 m
  else match oV E call o v m.pay with
   |.ok r m'=>iq E call os (setV v o.res r) m'
   |.trap k i m'=> .trap k i m'
def r7:List Int->List Nat->(Int->Nat)->(Int->Nat)
 |p::ps,a::as,v=>r7 ps as (iY v p a)
 |_,_,v=>v
def wK (t:ITerm)(a:Nat):IEdge:=
 if t.kind=2/\a=0 then t.to.getD 1 ⟨0,[]⟩
 else if t.kind=3 then t.to.getD (min a (t.to.length-1)) ⟨0,[]⟩
 else t.to.getD 0 ⟨0,[]⟩
def xz (blocks:List IBlk)(at':Int):IBlk:=blocks.getD at'.toNat ⟨[],[],⟨0,0,[]⟩⟩
def tJ (E:IEnv)(call:Int->List Nat->Mach->Res Nat)(blocks:List IBlk):Nat->Int->List Nat->(Int->Nat)->Mach->Res Nat
 |0,_,_,_,m=> .trap 7 0 m
 |n+1,at',args,v,m=>
  match iq E call (xz blocks at').ops (r7 (xz blocks at').params args v) m with
  |.trap k i m'=> .trap k i m'
  |.ok v2 m2=>
   if m2.fuel<=0 then .trap 7 0 m2
   else if(xz blocks at').term.kind=4 then .ok (if(xz blocks at').term.a=-1 then 0 else v2 (xz blocks at').term.a) m2.pay
   else if(xz blocks at').term.kind=5 then .trap 1 0 m2.pay
   else tJ E call blocks n (wK (xz blocks at').term (v2 (xz blocks at').term.a)).block ((wK (xz blocks at').term (v2 (xz blocks at').term.a)).args.map v2) v2 m2.pay
def xW (E:IEnv):Nat->Int->List Nat->Mach->Res Nat
 |0,_,_,m=> .trap 5 0 m
 |r+1,f,args,m=>
  if(E.p.funcs.getD f.toNat []).isEmpty then .trap 8 (f%65536).toNat m
  else tJ E (xW E r) (E.p.funcs.getD f.toNat []) (m.fuel.toNat+1) 0 args (fun _=>0) m
structure IRun where
 value:Nat
 out:List (Nat×Nat)
 kind:Nat
 info:Nat
 ram:List Nat
 inputs:Nat
 polls:Nat
def adO:Res Nat->IRun
 |.ok x m=>⟨x,m.out,6,0,m.ram,m.inputs,m.polls⟩
 |.trap k i m=>⟨0,m.out,k,i,m.ram,m.inputs,m.polls⟩
def v7 (s:ByteArray):List Nat:=(List.range 8192).map fun k=>(s.data.getD k 0).toNat
def bQ (E:IEnv)(f:Int)(args:List Nat)(ram:ByteArray)(fuel:Int):IRun:=adO (xW E 100 f args ⟨v7 ram,fuel,[],0,0⟩)
def OkOp (p:IProg)(o:IOp):Prop:=
 (1<=o.code/\o.code<=27)/\(o.code=2->0<=o.a/\o.a.toNat<p.data.length)/\(o.code=26->0<=o.a/\o.a.toNat<p.funcs.length/\(o.args.length:Int)=p.args.getD o.a.toNat 0)
structure Rg where
 lo:Nat
 hi:Nat
def vu:Rg:=⟨0,65535⟩
def Rg.has (a:Rg)(x:Nat):Prop:=a.lo<=x/\x<=a.hi
def Rg.ok (a:Rg):Prop:=a.lo<=a.hi/\a.hi<=65535
def Rg.sub (a b:Rg):Prop:=b.lo<=a.lo/\a.hi<=b.hi
def agn (n:Nat):Rg:=⟨n,n⟩
def sq (a:Rg):Bool:=decide (a.lo=a.hi)
def aeG (a b:Rg):Rg:=⟨min a.lo b.lo,max a.hi b.hi⟩
def vy (lo hi:Int):Rg:=if lo/65536=hi/65536 then⟨(lo%65536).toNat,(hi%65536).toNat⟩ else vu
def vx (lo hi:Nat):Rg:=if hi<=65535 then⟨lo,hi⟩ else vu
def fu (x:Nat):Nat:=if x=0 then 0 else 2*fu (x/2)+1
termination_by x
decreasing_by omega
def bf (a b:Rg):Rg:=if b.hi=0 then vu else⟨a.lo/b.hi,a.hi/max b.lo 1⟩
def dp (a b:Rg):Rg:=if sq b then⟨a.lo/2^(b.lo%16),a.hi/2^(b.lo%16)⟩ else⟨0,a.hi⟩
def afj (c:Int)(a b:Rg):Option Rg:=
 if c=3 then some (vy (-(a.hi:Int)) (-(a.lo:Int)))
 else if c=4 then some ⟨65535-a.hi,65535-a.lo⟩
 else if c=5 then some (vy ((a.lo:Int)+b.lo) ((a.hi:Int)+b.hi))
 else if c=6 then some (vy ((a.lo:Int)-b.hi) ((a.hi:Int)-b.lo))
 else if c=7 then some (vx (a.lo*b.lo) (a.hi*b.hi))
 else if c=8 then some (bf a b)
 else if c=9 then some ⟨0,min a.hi b.hi⟩
 else if c=10 then some ⟨max a.lo b.lo,fu (max a.hi b.hi)⟩
 else if c=11 then some ⟨0,fu (max a.hi b.hi)⟩
 else if c=12 then some (if sq b then vx (a.lo*2^(b.lo%16)) (a.hi*2^(b.lo%16)) else vu)
 else if c=13 then some (dp a b)
 else if c=14 then some (if 32768<=a.hi then vu else dp a b)
 else if c=15 then some (if a.hi<b.lo∨b.hi<a.lo then⟨0,0⟩ else⟨0,1⟩)
 else if c=16 then some (if a.hi<b.lo then⟨1,1⟩ else if b.hi<=a.lo then⟨0,0⟩ else⟨0,1⟩)
 else if c=17 then some ⟨0,1⟩
 else if c=19 then some ⟨0,255⟩
 else if c=23 then some ⟨0,255⟩
 else none
def afm (c:Int)(a b:Nat):Nat:=if c=3 then(65536-a)%65536 else if c=4 then 65535-a else yW c a b
def ahd (c:Int)(a b:Rg):Rg:=
 match afj c a b with
 |none=>vu
 |some r=>if c<=17/\sq a=true/\((c=3∨c=4)∨sq b=true) then(if c=8/\b.lo=0 then vu else agn (afm c a.lo b.lo)) else r
theorem ae5(h:x<65536):vu.has x:=⟨Jt _,by show x<=65535;omega⟩
theorem ek:vu.ok:=⟨Jt _,Je _⟩
theorem agW (x:Nat):(agn x).has x:=⟨Je _,Je _⟩
theorem Rg.has.lt{a:Rg}(h:a.has x)(c:a.ok):x<65536:=by have:=h.2;have:=c.2;omega
theorem aeT {lo hi z:Int}(h1:lo<=z)(h2:z<=hi):(vy lo hi).has (z%65536).toNat:=by
 unfold vy
 split
 ·rename_i h
  exact⟨by show(lo%65536).toNat<=_;omega,by show _<=(hi%65536).toNat;omega⟩
 ·exact ae5 Zo
theorem ae9 {lo hi:Int}(h:lo<=hi):(vy lo hi).ok:=by
 unfold vy
 split
 ·exact⟨by show(lo%65536).toNat<=(hi%65536).toNat;omega,by show(hi%65536).toNat<=_;omega⟩
 ·exact ek
theorem ae7 {lo hi z:Nat}(h1:lo<=z)(h2:z<=hi):(vx lo hi).has (z%65536):=by
 unfold vx
 split
 ·rw[Nat.mod_eq_of_lt Zo];exact⟨h1,h2⟩
 ·exact ae5 Zo
theorem afo {lo hi:Nat}(h:lo<=hi):(vx lo hi).ok:=by
 unfold vx
 split
 ·exact⟨h,by assumption⟩
 ·exact ek
theorem ae4:∀x:Nat,∃k,fu x+1=2^k/\x<2^k/\(x<65536->k<=16):=by
 intro x
 induction x using Nat.strongRecOn with
 |_ x ih=>
  by_cases h:x=0
  ·exact⟨0,by rw[fu,if_pos h],by subst h;decide,fun _=>Jt _⟩
  ·obtain⟨k,h1,h2,h3⟩:=ih (x/2) Zo;refine⟨k+1,by rw[fu,if_neg h,Nat.pow_succ];omega,by rw[Nat.pow_succ];omega,fun h4=>?_⟩
   by_cases hk:k<=15
   ·omega
   ·obtain rfl:k=16:=by have:=h3 Zo;omega
    exfalso;have:fu (x/2)+1=65536:=h1
    have d:∀j y,y<2^j->fu y<2^j:=by
     intro j
     induction j with
     |zero=>intro y c;have:y=0:=by simpa using c
            rw[fu,if_pos this];exact Nat.zero_lt_one
     |succ j ih2=>
      intro y c;rw[fu]
      split
      ·exact Nat.pos_of_ne_zero Zs
      ·have:=ih2 (y/2) (by rw[Nat.pow_succ] at c;omega);rw[Nat.pow_succ];omega
    have:=d 15 (x/2) (by show x/2<32768;omega);have g:(2:Nat)^15=32768:=rfl;omega
theorem mask_min:∀(x m k:Nat),m+1=2^k->x<=m->fu x<=m:=by
 intro x
 induction x using Nat.strongRecOn with
 |_ x ih=>
  intro m k hk c
  by_cases h:x=0
  ·rw[fu,if_pos h];exact Jt _
  ·cases k with
   |zero=>simp at hk;omega
   |succ k=>
    rw[Nat.pow_succ] at hk;have:=ih (x/2) Zo ((m-1)/2) k Zo Zo;rw[fu,if_neg h];omega
theorem aha (x:Nat):x<=fu x:=by
 obtain⟨k,h1,h2,_⟩:=ae4 x;omega
theorem ag3(h:x<65536):fu x<65536:=by
 obtain⟨k,h1,h2,h3⟩:=ae4 x;have:=Nat.pow_le_pow_right (show 0<2 by decide) (h3 h);have c:(2:Nat)^16=65536:=rfl;omega
theorem agK{h:Nat}(d:x<=h)(c:y<=h):x|||y<=fu h/\x^^^y<=fu h:=by
 obtain⟨k,h1,h2,_⟩:=ae4 h;have a:=Nat.or_lt_two_pow (n:=k) (x:=x) (y:=y) Zo Zo;have b:=Nat.xor_lt_two_pow (n:=k) (x:=x) (y:=y) Zo Zo;omega
theorem afI{a b:Rg}(c:a.has x)(d:b.has y):(dp a b).has (x/2^(y%16)):=by
 unfold dp
 split
 ·rename_i h
  have h:b.lo=b.hi:=of_decide_eq_true h;obtain rfl:y=b.lo:=by have:=d.1;have:=d.2;omega
  exact⟨Nat.div_le_div_right c.1,Nat.div_le_div_right c.2⟩
 ·exact⟨Jt _,Jn (Nat.div_le_self _ _) c.2⟩
theorem agh {a b:Rg}(c:a.ok):(dp a b).ok:=by
 unfold dp
 split
 ·exact⟨Nat.div_le_div_right c.1,Jn (Nat.div_le_self _ _) c.2⟩
 ·exact⟨Jt _,c.2⟩
theorem afZ (p:Bool):(⟨0,1⟩:Rg).has (iw p):=by cases p<;>exact⟨by decide,by decide⟩
theorem rule_has{c:Int}(hc:3<=c/\c<=17){a b r:Rg}(hr:afj c a b=some r)(j:a.has x)(i:b.has y)(u:a.ok)(hb:b.ok)(t:¬(c=8/\y=0)):r.has (afm c x y):=by
 have g:=j.1;have d:=j.2;have l:=i.1;have k:=i.2;have a0:=u.2;have w:=hb.2;have o:c=3∨c=4∨c=5∨c=6∨c=7∨c=8∨c=9∨c=10∨c=11∨c=12∨c=13∨c=14∨c=15∨c=16∨c=17:=Zo;rcases o with rfl|rfl|rfl|rfl|rfl|rfl|rfl|rfl|rfl|rfl|rfl|rfl|rfl|rfl|rfl
 ·cases hr;have:=aeT (lo:=-(a.hi:Int)) (hi:=-(a.lo:Int)) (z:=-(x:Int)) Zo Zo
  show(vy _ _).has ((65536-x)%65536)
  rw[show(65536-x)%65536=((-(x:Int))%65536).toNat by omega];exact this
 ·cases hr;exact⟨by show 65535-a.hi<=65535-x;omega,by show 65535-x<=65535-a.lo;omega⟩
 ·cases hr;have:=aeT (lo:=(a.lo:Int)+b.lo) (hi:=(a.hi:Int)+b.hi) (z:=(x:Int)+y) Zo Zo
  show(vy _ _).has ((x+y)%65536)
  rw[show(x+y)%65536=(((x:Int)+y)%65536).toNat by omega];exact this
 ·cases hr;have:=aeT (lo:=(a.lo:Int)-b.hi) (hi:=(a.hi:Int)-b.lo) (z:=(x:Int)-y) Zo Zo
  show(vy _ _).has ((x+(65536-y))%65536)
  rw[show(x+(65536-y))%65536=(((x:Int)-y)%65536).toNat by omega];exact this
 ·cases hr;exact ae7 (Nat.mul_le_mul g l) (Nat.mul_le_mul d k)
 ·cases hr
  show(bf a b).has (x/y)
  have m:y≠0:=fun h=>t ⟨rfl,h⟩
  unfold bf;rw[if_neg Zo];refine⟨Nat.div_le_div g k m,?_⟩;exact Nat.div_le_div d Zo Zo
 ·cases hr;exact⟨Jt _,by show x &&& y<=min a.hi b.hi;have:=@Nat.and_le_left x y;have:=@Nat.and_le_right x y;omega⟩
 ·cases hr;have h1:=@Nat.left_le_or x y;have h2:=@Nat.right_le_or x y;have h3:=(agK (x:=x) (y:=y) (h:=max a.hi b.hi) Zo Zo).1;exact⟨by show max a.lo b.lo<=x|||y;omega,h3⟩
 ·cases hr;exact⟨Jt _,(agK (x:=x) (y:=y) (h:=max a.hi b.hi) Zo Zo).2⟩
 ·cases hr
  show(if sq b=true then vx _ _ else vu).has (x*2^(y%16)%65536)
  split
  ·rename_i h
   have h:b.lo=b.hi:=of_decide_eq_true h;obtain rfl:y=b.lo:=by omega
   exact ae7 (Qw _ g) (Qw _ d)
  ·exact ae5 Zo
 ·cases hr;exact afI j i
 ·cases hr
  show(if 32768<=a.hi then vu else dp a b).has ((s16 x/2^(y%16))%65536).toNat
  split
  ·exact ae5 Zo
  ·have hs:s16 x=(x:Int):=by unfold s16;rw[if_pos Zo]
   have hp:((x:Int)/2^(y%16)%65536).toNat=x/2^(y%16):=by
    have h1:(x:Int)/2^(y%16)=((x/2^(y%16):Nat):Int):=by simp
    have h2:=Nat.div_le_self x (2^(y%16));rw[h1];generalize x/2^(y%16)=q at *;omega
   rw[hs,hp];exact afI j i
 ·cases hr
  show(if a.hi<b.lo∨b.hi<a.lo then(⟨0,0⟩:Rg) else⟨0,1⟩).has (iw (decide (x=y)))
  split
  ·rw[decide_eq_false Zo];exact⟨Je _,Je _⟩
  ·exact afZ _
 ·cases hr
  show(if a.hi<b.lo then(⟨1,1⟩:Rg) else if b.hi<=a.lo then⟨0,0⟩ else⟨0,1⟩).has (iw (decide (x<y)))
  split
  ·rw[decide_eq_true Zo];exact⟨Je _,Je _⟩
  ·split
   ·rw[decide_eq_false Zo];exact⟨Je _,Je _⟩
   ·exact afZ _
 ·cases hr;exact afZ _
theorem afl {c:Int}{a b r:Rg}(hr:afj c a b=some r):c=3∨c=4∨c=5∨c=6∨c=7∨c=8∨c=9∨c=10∨c=11∨c=12∨c=13∨c=14∨c=15∨c=16∨c=17∨c=19∨c=23:=by
 by_cases h:c=3∨c=4∨c=5∨c=6∨c=7∨c=8∨c=9∨c=10∨c=11∨c=12∨c=13∨c=14∨c=15∨c=16∨c=17∨c=19∨c=23
 ·exact h
 ·unfold afj at hr;rw[if_neg Zo,if_neg Zo,if_neg Zo,if_neg Zo,if_neg Zo,if_neg Zo,if_neg Zo,if_neg Zo,if_neg Zo,if_neg Zo,if_neg Zo,if_neg Zo,if_neg Zo,if_neg Zo,if_neg Zo,if_neg Zo,if_neg Zo] at hr;cases hr
theorem ag5 {c:Int}(g:3<=c/\c<=17)(a b:Rg):∃r,afj c a b=some r:=by
 have d:c=3∨c=4∨c=5∨c=6∨c=7∨c=8∨c=9∨c=10∨c=11∨c=12∨c=13∨c=14∨c=15∨c=16∨c=17:=Zo;rcases d with rfl|rfl|rfl|rfl|rfl|rfl|rfl|rfl|rfl|rfl|rfl|rfl|rfl|rfl|rfl<;>exact⟨_,rfl⟩
theorem ag0 {c:Int}{a b r:Rg}(hr:afj c a b=some r)(g:a.ok)(hb:b.ok):r.ok:=by
 have d:=g.1;have j:=g.2;have i:=hb.1;have k:=hb.2;have hm:=ag3 (x:=max a.hi b.hi) Zo;have hl:=aha (max a.hi b.hi);have h:c=3∨c=4∨c=5∨c=6∨c=7∨c=8∨c=9∨c=10∨c=11∨c=12∨c=13∨c=14∨c=15∨c=16∨c=17∨c=19∨c=23:=afl hr;rcases h with rfl|rfl|rfl|rfl|rfl|rfl|rfl|rfl|rfl|rfl|rfl|rfl|rfl|rfl|rfl|rfl|rfl<;>cases hr
 ·exact ae9 Zo
 ·exact⟨by show 65535-a.hi<=65535-a.lo;omega,by show 65535-a.lo<=65535;omega⟩
 ·exact ae9 Zo
 ·exact ae9 Zo
 ·exact afo (Nat.mul_le_mul d i)
 ·show(bf a b).ok
  unfold bf
  split
  ·exact ek
  ·exact⟨Nat.div_le_div d Zo Zo,Jn (Nat.div_le_self _ _) j⟩
 ·exact⟨Jt _,by show min a.hi b.hi<=65535;omega⟩
 ·exact⟨by show max a.lo b.lo<=fu _;omega,by show fu _<=65535;omega⟩
 ·exact⟨Jt _,by show fu _<=65535;omega⟩
 ·show(if sq b=true then vx _ _ else vu).ok
  split
  ·exact afo (Qw _ d)
  ·exact ek
 ·exact agh g
 ·show(if 32768<=a.hi then vu else dp a b).ok
  split
  ·exact ek
  ·exact agh g
 ·show(if a.hi<b.lo∨b.hi<a.lo then(⟨0,0⟩:Rg) else⟨0,1⟩).ok
  split<;>exact⟨by decide,by decide⟩
 ·show(if a.hi<b.lo then(⟨1,1⟩:Rg) else if b.hi<=a.lo then⟨0,0⟩ else⟨0,1⟩).ok
  split
  ·exact⟨by decide,by decide⟩
  ·split<;>exact⟨by decide,by decide⟩
 all_goals exact⟨by decide,by decide⟩
theorem agJ{c:Int}(d:3<=c/\c<=17)(i:x<65536)(h:y<65536)(g:¬(c=8/\y=0)):afm c x y<65536:=by
 obtain⟨r,hr⟩:=ag5 d (agn x) (agn y);have h1:(agn x).ok:=⟨Je _,by show x<=65535;omega⟩
 have h2:(agn y).ok:=⟨Je _,by show y<=65535;omega⟩
 exact(rule_has d hr (agW x) (agW y) h1 h2 g).lt (ag0 hr h1 h2)
theorem app_ok {c:Int}(j:1<=c){a b:Rg}(d:a.ok)(hb:b.ok):(ahd c a b).ok:=by
 unfold ahd
 split
 ·exact ek
 ·rename_i r hr
  split
  ·rename_i h
   split
   ·exact ek
   ·rename_i i
    have g:3<=c:=by have:=afl hr;omega
    have:=agJ (c:=c) (x:=a.lo) (y:=b.lo) ⟨g,h.1⟩ (by have:=d.1;have:=d.2;omega) (by have:=hb.1;have:=hb.2;omega) i;exact⟨Je _,by show afm c a.lo b.lo<=65535;omega⟩
  ·exact ag0 hr d hb
structure Slv where
 r:List Rg
 kn:List Bool
def Slv.get (s:Slv)(v:Int):Rg:=s.r.getD v.toNat ⟨0,0⟩
def Slv.knw (s:Slv)(v:Int):Bool:=s.kn.getD v.toNat false
def Slv.put (s:Slv)(v:Int)(a:Rg):Slv:=⟨s.r.set v.toNat a,s.kn.set v.toNat true⟩
def ae0 (a b:Rg):Bool:=decide (a.lo=b.lo) && decide (a.hi=b.hi)
def agY (k:Nat)(a:Rg):Rg:=if 4<k then vu else a
def setF (k:Nat)(s:Slv)(v:Int)(a:Rg):Slv×Bool:=
 if s.knw v=true then(if ae0 (aeG a (s.get v)) (s.get v)=true then(s,false) else(s.put v (agY k (aeG a (s.get v))),true))
 else(s.put v (agY k a),true)
def afq (p:IProg)(s:Slv)(o:IOp):Rg:=
 if o.code=1 then agn o.n
 else if o.code=2 then agn (((p.data.getD o.a.toNat ⟨0,0,0⟩).addr+o.n)%65536)
 else ahd o.code (s.get o.a) (s.get o.b)
def aeA (k:Nat)(v:Int)(a:Rg)(q:Slv×Bool):Slv×Bool:=((setF k q.1 v a).1,q.2||(setF k q.1 v a).2)
def opS (p:IProg)(k:Nat)(q:Slv×Bool)(o:IOp):Slv×Bool:=if 0<=o.res then aeA k o.res (afq p q.1 o) q else q
def argS (k:Nat)(q:Slv×Bool)(x:Int×Int):Slv×Bool:=aeA k x.1 (q.1.get x.2) q
def ahe (blocks:List IBlk)(k:Nat)(q:Slv×Bool)(e:IEdge):Slv×Bool:=((xz blocks e.block).params.zip e.args).foldl (argS k) q
def agf (p:IProg)(blocks:List IBlk)(k:Nat)(q:Slv×Bool)(b:IBlk):Slv×Bool:=b.term.to.foldl (ahe blocks k) (b.ops.foldl (opS p k) q)
def goS (p:IProg)(blocks:List IBlk)(k:Nat)(q:Slv×Bool)(i:Nat):Slv×Bool:=
 ((agf p blocks k (q.1,false) (xz blocks i)).1,q.2||(agf p blocks k (q.1,false) (xz blocks i)).2)
def dx (p:IProg)(blocks:List IBlk)(order:List Nat)(k:Nat)(s:Slv):Slv×Bool:=order.foldl (goS p blocks k) (s,false)
def agm (p:IProg)(blocks:List IBlk)(order:List Nat):Nat->Nat->Slv->Slv
 |0,_,s=>s
 |n+1,k,s=>if(dx p blocks order (k+1) s).2=true then agm p blocks order n (k+1) (dx p blocks order (k+1) s).1 else(dx p blocks order (k+1) s).1
def afz (n:Nat)(ps:List Int):Slv:=(ps.foldl (fun q v=>aeA 0 v vu q) (⟨List.replicate n ⟨0,0⟩,List.replicate n false⟩,false)).1
def afh (s:Slv):List Rg:=(s.r.zip s.kn).map fun x=>if x.2=true then x.1 else vu
structure OkS (n:Nat) (s:Slv):Prop where
 rl:s.r.length=n
 kl:s.kn.length=n
 ok:∀a∈s.r,a.ok
theorem OkS.get {n:Nat}{s:Slv}(h:OkS n s)(v:Int):(s.get v).ok:=by
 unfold Slv.get;rw[Jj]
 cases e:s.r[v.toNat]? with
 |none=>exact⟨Je _,Jt _⟩
 |some a=>exact h.ok a (Ji e)
theorem OkS.put {n:Nat}{s:Slv}(h:OkS n s)(v:Int){a:Rg}(d:a.ok):OkS n (s.put v a):=
 ⟨by show(s.r.set _ _).length=n;rw[Nd,h.rl],by show(s.kn.set _ _).length=n;rw[Nd,h.kl],fun x c=>by
   rcases Qe c with c|rfl
   ·exact h.ok x c
   ·exact d⟩
theorem aft {a b:Rg}(c:a.ok)(hb:b.ok):(aeG a b).ok:=by
 have:=c.1;have:=c.2;have:=hb.1;have:=hb.2;exact⟨by show min a.lo b.lo<=max a.hi b.hi;omega,by show max a.hi b.hi<=65535;omega⟩
theorem agF{a:Rg}(c:a.ok):(agY k a).ok:=by
 unfold agY
 split
 ·exact ek
 ·exact c
theorem OkS.set{n:Nat}{s:Slv}(h:OkS n s)(v:Int){a:Rg}(c:a.ok):OkS n (setF k s v a).1:=by
 unfold setF
 split
 ·split
  ·exact h
  ·exact h.put v (agF (aft c (h.get v)))
 ·exact h.put v (agF c)
theorem OkS.step {n k:Nat}{q:Slv×Bool}(h:OkS n q.1)(v:Int){a:Rg}(c:a.ok):OkS n (aeA k v a q).1:=h.set v c
theorem Rg.ext' {a b:Rg}(h1:a.lo=b.lo)(h2:a.hi=b.hi):a=b:=by cases a;cases b;simp only at h1 h2;subst h1 h2;rfl
theorem afr {a b:Rg}(h:ae0 a b=true):a=b:=by
 unfold ae0 at h;simp only[Jm,decide_eq_true_eq] at h;exact Rg.ext' h.1 h.2
theorem aeX (a:Rg):ae0 a a=true:=by simp[ae0]
theorem afM{s:Slv}{v:Int}{a:Rg}(h:(setF k s v a).2=false):(setF k s v a).1=s/\s.knw v=true/\a.sub (s.get v):=by
 unfold setF at h ⊢
 by_cases h1:s.knw v=true
 ·rw[if_pos h1] at h ⊢
  by_cases h2:ae0 (aeG a (s.get v)) (s.get v)=true
  ·rw[if_pos h2];have e:=afr h2;refine⟨rfl,h1,?_,?_⟩
   ·rw[<-e];exact Nat.min_le_left _ _
   ·rw[<-e];exact Nat.le_max_left _ _
  ·rw[if_neg h2] at h;cases h
 ·rw[if_neg h1] at h;cases h
theorem aeR{q:Slv×Bool}{v:Int}{a:Rg}(h:(aeA k v a q).2=false):q.2=false/\aeA k v a q=q/\q.1.knw v=true/\a.sub (q.1.get v):=by
 unfold aeA at h ⊢;rw[Bool.or_eq_false_iff] at h;obtain⟨h1,h2,h3⟩:=afM h.2;refine⟨h.1,?_,h2,h3⟩;obtain⟨s,c⟩:=q;simp only at h h1 ⊢;rw[h1,h.1,h.2];rfl
def nfL:List Rg->List Bool->Nat
 |a::rs,b::bs=>(if b=true/\ae0 a vu=true then 0 else 1)+nfL rs bs
 |_,_=>0
def Slv.nf (s:Slv):Nat:=nfL s.r s.kn
variable {g:Slv×Bool->Slv×Bool}
theorem nfL_le:∀(rs:List Rg) (bs:List Bool),nfL rs bs<=rs.length
 | [],_=>by simp[nfL]
 |a::rs,[]=>by simp[nfL]
 |a::rs,b::bs=>by
  have:=nfL_le rs bs;unfold nfL;rw[Nq]
  split<;>omega
theorem afY:∀(rs:List Rg) (bs:List Bool) (v:Nat) (a:Rg),rs.length=bs.length->v<rs.length->(bs.getD v false=true->rs.getD v ⟨0,0⟩=vu->a=vu)->
 nfL (rs.set v a) (bs.set v true)<=nfL rs bs/\(a=vu->¬(bs.getD v false=true/\rs.getD v ⟨0,0⟩=vu)->nfL (rs.set v a) (bs.set v true)<nfL rs bs)
 | [],_,v,a,hl,hv,h=>by simp at hv
 |x::rs,[],v,a,hl,hv,h=>by simp at hl
 |x::rs,b::bs,0,a,hl,hv,h=>by
  simp only[Jf,nfL,List.getD_cons_zero] at h ⊢
  by_cases e:a=vu
  ·subst e;rw[if_pos ⟨trivial,aeX _⟩];refine⟨by omega,fun _ hn=>?_⟩;rw[if_neg (fun hh=>hn ⟨hh.1,afr hh.2⟩)];omega
  ·refine⟨?_,fun h1=>absurd h1 e⟩;rw[if_neg (fun hh:b=true/\ae0 x vu=true=>e (h hh.1 (afr hh.2)))]
   split<;>omega
 |x::rs,b::bs,v+1,a,hl,hv,h=>by
  simp only[Nq] at hl hv;obtain⟨t1,t2⟩:=afY rs bs v a Zo Zo (by simpa using h);simp only[Jg,nfL,List.getD_cons_succ];exact⟨by omega,fun h1 h2=>by have:=t2 h1 h2;omega⟩
theorem afJ {a:Rg}(c:a.ok):aeG a vu=vu:=by
 have:=c.2;exact Rg.ext' (by show min a.lo 0=0;omega) (by show max a.hi 65535=65535;omega)
theorem set_nf{n:Nat}{s:Slv}(h:OkS n s){v:Int}(hv:v.toNat<n){a:Rg}(d:a.ok):(setF k s v a).1.nf<=s.nf/\(4<k->(setF k s v a).2=true->(setF k s v a).1.nf<s.nf):=by
 unfold setF
 by_cases h1:s.knw v=true
 ·rw[if_pos h1]
  by_cases h2:ae0 (aeG a (s.get v)) (s.get v)=true
  ·rw[if_pos h2];exact⟨Je _,fun _ hc=>by cases hc⟩
  ·rw[if_neg h2];have c:s.get v≠vu:=fun e=>h2 (by rw[e,afJ d];exact aeX _)
   have:=afY s.r s.kn v.toNat (agY k (aeG a (s.get v))) (by rw[h.rl,h.kl]) (by rw[h.rl];exact hv) (fun _ e=>absurd e c);exact⟨this.1,fun hk _=>this.2 (by unfold agY;rw[if_pos hk]) (fun hh=>c hh.2)⟩
 ·rw[if_neg h1];have:=afY s.r s.kn v.toNat (agY k a) (by rw[h.rl,h.kl]) (by rw[h.rl];exact hv) (fun e _=>absurd e h1);exact⟨this.1,fun hk _=>this.2 (by unfold agY;rw[if_pos hk]) (fun hh=>h1 hh.1)⟩
structure Goes (n k:Nat) (f:Slv×Bool->Slv×Bool):Prop where
 ok:∀q,OkS n q.1->OkS n (f q).1
 nf:∀q,OkS n q.1->(f q).1.nf<=q.1.nf
 lt:∀q,OkS n q.1->4<k->q.2=false->(f q).2=true->(f q).1.nf<q.1.nf
 up:∀q,q.2=true->(f q).2=true
 flag:∀s c,f (s,c)=((f (s,false)).1,c||(f (s,false)).2)
theorem Goes.id (n k:Nat):Goes n k (fun q=>q):=⟨fun _ h=>h,fun _ _=>Je _,(fun q _ _ h1 h2=>by rw[h1] at h2;cases h2),fun _ h=>h,fun s c=>by simp⟩
theorem Goes.comp{n:Nat}{f:Slv×Bool->Slv×Bool}(hf:Goes n k f)(hg:Goes n k g):Goes n k (fun q=>g (f q)) where
 ok:=fun q h=>hg.ok _ (hf.ok q h)
 nf:=fun q h=>Jn (hg.nf _ (hf.ok q h)) (hf.nf q h)
 lt:=fun q h hk h1 h2=>by
  by_cases h3:(f q).2=true
  ·exact Nat.lt_of_le_of_lt (hg.nf _ (hf.ok q h)) (hf.lt q h hk h1 h3)
  ·exact Jy (hg.lt _ (hf.ok q h) hk (by simpa using h3) h2) (hf.nf q h)
 up:=fun q h=>hg.up _ (hf.up q h)
 flag:=fun s c=>by
  rw[hf.flag s c,hg.flag (f (s,false)).1 (c||(f (s,false)).2),hg.flag (f (s,false)).1 (f (s,false)).2,Bool.or_assoc]
theorem Goes.fold{α:Type}{n:Nat}{f:Slv×Bool->α->Slv×Bool}:∀(l:List α),(∀x∈l,Goes n k (fun q=>f q x))->Goes n k (fun q=>l.foldl f q)
 | [],_=>Goes.id n k
 |x::l,h=>Goes.comp (h x (.head _)) (Goes.fold l fun y hy=>h y (.tail _ hy))
theorem Goes.step {n k:Nat}{v:Int}(hv:v.toNat<n){a:Slv->Rg}(d:∀s,OkS n s->(a s).ok):Goes n k (fun q=>aeA k v (a q.1) q) where
 ok:=fun q h=>h.step v (d _ h)
 nf:=fun q h=>(set_nf h hv (d _ h)).1
 lt:=fun q h hk h1 h2=>by
  unfold aeA at h2;rw[h1,Bool.false_or] at h2;exact(set_nf h hv (d _ h)).2 hk h2
 up:=fun q h=>by unfold aeA;rw[h];rfl
 flag:=fun s c=>by unfold aeA;simp
def agH (n:Nat)(o:IOp):Prop:=0<=o.res->o.res.toNat<n/\1<=o.code/\(o.code=1->o.n<65536)
def d9 (n:Nat)(blocks:List IBlk)(b:IBlk):Prop:=(∀o∈b.ops,agH n o)/\∀e∈b.term.to,∀v∈(xz blocks e.block).params,v.toNat<n
theorem ag1{p:IProg}{n:Nat}{s:Slv}(h:OkS n s)(ho:agH n o)(c:0<=o.res):(afq p s o).ok:=by
 unfold afq;obtain⟨_,h1,h2⟩:=ho c
 split
 ·rename_i h3;exact⟨Je _,by show o.n<=65535;have:=h2 h3;omega⟩
 ·split
  ·exact⟨Je _,by show _%65536<=65535;omega⟩
  ·exact app_ok h1 (h.get _) (h.get _)
theorem goes_op{p:IProg}{n:Nat}(ho:agH n o):Goes n k (fun q=>opS p k q o):=by
 by_cases c:0<=o.res
 ·have:(fun q=>opS p k q o)=(fun q:Slv×Bool=>aeA k o.res (afq p q.1 o) q):=by funext q;unfold opS;rw[if_pos c]
  rw[this];exact Goes.step (ho c).1 fun s hs=>ag1 hs ho c
 ·have:(fun q=>opS p k q o)=(fun q:Slv×Bool=>q):=by funext q;unfold opS;rw[if_neg c]
  rw[this];exact Goes.id n k
theorem goes_arg{n:Nat}{x:Int×Int}(c:x.1.toNat<n):Goes n k (fun q=>argS k q x):=Goes.step (a:=fun s=>s.get x.2) c fun s hs=>hs.get _
theorem agI{n:Nat}{e:IEdge}(h:∀v∈(xz blocks e.block).params,v.toNat<n):Goes n k (fun q=>ahe blocks k q e):=
 Goes.fold _ fun x hx=>goes_arg (h _ (List.of_mem_zip hx).1)
theorem agi{p:IProg}{n:Nat}{b:IBlk}(h:d9 n blocks b):Goes n k (fun q=>agf p blocks k q b):=
 Goes.comp (Goes.fold _ fun o ho=>goes_op (h.1 o ho)) (Goes.fold _ fun e he=>agI (h.2 e he))
theorem ag4{p:IProg}{n:Nat}(h:d9 n blocks (xz blocks i))(q:Slv×Bool):goS p blocks k q i=agf p blocks k q (xz blocks i):=by
 obtain⟨s,c⟩:=q;exact((agi (p:=p) (k:=k) h).flag s c).symm
theorem goes_go{p:IProg}{n:Nat}(h:d9 n blocks (xz blocks i)):Goes n k (fun q=>goS p blocks k q i):=by
 have:(fun q=>goS p blocks k q i)=(fun q=>agf p blocks k q (xz blocks i)):=by funext q;exact ag4 h q
 rw[this];exact agi h
theorem aeY{p:IProg}{n:Nat}(h:∀i∈c,d9 n blocks (xz blocks i)):Goes n k (fun q=>c.foldl (goS p blocks k) q):=
 Goes.fold _ fun i hi=>goes_go (h i hi)
def aeL (k:Nat)(s:Slv):Nat:=(4-k)+s.nf
theorem afd{p:IProg}{n:Nat}(h:∀i∈c,d9 n blocks (xz blocks i)){s:Slv}(hs:OkS n s)(d:(dx p blocks c (k+1) s).2=true):
 aeL (k+1) (dx p blocks c (k+1) s).1<aeL k s:=by
 have hg:=aeY (p:=p) (k:=k+1) h;have h1:(dx p blocks c (k+1) s).1.nf<=s.nf:=hg.nf (s,false) hs;have h2:4<k+1->false=false->(dx p blocks c (k+1) s).2=true->(dx p blocks c (k+1) s).1.nf<s.nf:=hg.lt (s,false) hs;unfold aeL
 by_cases hk:4<k+1
 ·have:=h2 hk rfl d;omega
 ·omega
def ahf (p:IProg)(blocks:List IBlk)(order:List Nat)(k:Nat)(s:Slv):Slv:=agm p blocks order (aeL k s+1) k s
theorem afy{p:IProg}{n:Nat}(h:∀i∈c,d9 n blocks (xz blocks i)):∀(j j' k:Nat) (s:Slv),OkS n s->aeL k s<j->aeL k s<j'->agm p blocks c j k s=agm p blocks c j' k s
 |0,_,k,s,_,h1,_=>absurd h1 (Nat.not_lt_zero _)
 |_+1,0,k,s,_,_,h1=>absurd h1 (Nat.not_lt_zero _)
 |j+1,j'+1,k,s,hs,h1,h2=>by
  unfold agm
  split
  ·rename_i hc
   have hm:=afd h hs hc;exact afy h j j' (k+1) _ ((aeY (p:=p) (k:=k+1) h).ok (s,false) hs) Zo Zo
  ·rfl
theorem afw{p:IProg}{n:Nat}(h:∀i∈c,d9 n blocks (xz blocks i)){s:Slv}(hs:OkS n s):
 ahf p blocks c k s=if(dx p blocks c (k+1) s).2=true then ahf p blocks c (k+1) (dx p blocks c (k+1) s).1 else(dx p blocks c (k+1) s).1:=by
 unfold ahf;rw[agm]
 split
 ·rename_i d
  have hm:=afd h hs d;exact afy h _ _ (k+1) _ ((aeY (p:=p) (k:=k+1) h).ok (s,false) hs) Zo Zo
 ·rfl
def aeC (f:Slv×Bool->Slv×Bool)(P:Slv->Prop):Prop:=∀q,(f q).2=false->f q=q/\q.2=false/\P q.1
theorem aeC.comp{f:Slv×Bool->Slv×Bool}{P Q:Slv->Prop}(hf:aeC f P)(hg:aeC g Q):aeC (fun q=>g (f q)) (fun s=>P s/\Q s):=fun q h=>by
 obtain⟨h1,h2,h3⟩:=hg _ h;obtain⟨c,i,d⟩:=hf q h2;rw[c] at h1 h3;exact⟨by show g (f q)=q;rw[c];exact h1,i,d,h3⟩
theorem aeC.fold {α:Type}{f:Slv×Bool->α->Slv×Bool}{P:α->Slv->Prop}:∀(l:List α),(∀x∈l,aeC (fun q=>f q x) (P x))->aeC (fun q=>l.foldl f q) (fun s=>∀x∈l,P x s)
 | [],_=>fun q h=>⟨rfl,h,fun x hx=>by cases hx⟩
 |x::l,h=>fun q hq=>by
  obtain⟨h1,h2,h3,h4⟩:=aeC.comp (h x (.head _)) (aeC.fold l fun y c=>h y (.tail _ c)) q hq
  exact⟨h1,h2,fun y c=>by
   rcases Jq.1 c with rfl|c
   ·exact h3
   ·exact h4 y c⟩
def FixOp (p:IProg)(o:IOp)(s:Slv):Prop:=0<=o.res->s.knw o.res=true/\(afq p s o).sub (s.get o.res)
def FixArg (x:Int×Int)(s:Slv):Prop:=s.knw x.1=true/\(s.get x.2).sub (s.get x.1)
def ahb (p:IProg)(blocks:List IBlk)(b:IBlk)(s:Slv):Prop:=(∀o∈b.ops,FixOp p o s)/\∀e∈b.term.to,∀x∈(xz blocks e.block).params.zip e.args,FixArg x s
theorem still_op{p:IProg}:aeC (fun q=>opS p k q o) (FixOp p o):=fun q h=>by
 show opS p k q o=q/\_
 have h:(opS p k q o).2=false:=h;unfold opS at h ⊢
 by_cases c:0<=o.res
 ·rw[if_pos c] at h ⊢;obtain⟨h1,h2,h3,d⟩:=aeR h;exact⟨h2,h1,fun _=>⟨h3,d⟩⟩
 ·rw[if_neg c] at h ⊢;exact⟨rfl,h,fun hh=>absurd hh c⟩
theorem ag9{x:Int×Int}:aeC (fun q=>argS k q x) (FixArg x):=fun q h=>by
 obtain⟨h1,h2,h3,c⟩:=aeR h;exact⟨h2,h1,h3,c⟩
theorem agT{p:IProg}{b:IBlk}:aeC (fun q=>agf p blocks k q b) (ahb p blocks b):=
 aeC.comp (aeC.fold _ fun o _=>still_op) (aeC.fold _ fun e _=>aeC.fold _ fun x _=>ag9)
theorem afQ{p:IProg}{n:Nat}(h:∀i∈c,d9 n blocks (xz blocks i)):aeC (fun q=>c.foldl (goS p blocks k) q) (fun s=>∀i∈c,ahb p blocks (xz blocks i) s):=
 aeC.fold _ fun i hi=>by
  have:(fun q=>goS p blocks k q i)=(fun q=>agf p blocks k q (xz blocks i)):=by funext q;exact ag4 (h i hi) q
  rw[this];exact agT
def aeM (s t:Slv):Prop:=∀v:Int,s.knw v=true->t.knw v=true/\(s.get v=vu->t.get v=vu)
theorem aeM.refl (s:Slv):aeM s s:=fun v h=>⟨h,fun h=>h⟩
theorem aeM.trans {s t u:Slv}(h:aeM s t)(k:aeM t u):aeM s u:=fun v hv=>⟨(k v (h v hv).1).1,fun e=>(k v (h v hv).1).2 ((h v hv).2 e)⟩
theorem afG {n:Nat}{s:Slv}(hs:OkS n s){v:Int}(hv:v.toNat<n){a:Rg}(h:s.knw v=true->s.get v=vu->a=vu):aeM s (s.put v a):=fun u hu=>by
 unfold Slv.knw Slv.get Slv.put at *;simp only[Jj] at *
 by_cases e:v.toNat=u.toNat
 ·rw[e] at hv h ⊢;rw[Nn (by rw[hs.kl];exact hv),Nn (by rw[hs.rl];exact hv)];exact⟨rfl,fun h2=>h hu h2⟩
 ·rw[Ns e,Ns e];exact⟨hu,fun h=>h⟩
theorem agG{n:Nat}{s:Slv}(hs:OkS n s){v:Int}(hv:v.toNat<n){a:Rg}(c:a.ok):aeM s (setF k s v a).1:=by
 unfold setF
 by_cases h1:s.knw v=true
 ·rw[if_pos h1]
  by_cases h2:ae0 (aeG a (s.get v)) (s.get v)=true
  ·rw[if_pos h2];exact aeM.refl s
  ·rw[if_neg h2];exact afG hs hv fun _ e=>absurd (show ae0 (aeG a (s.get v)) (s.get v)=true by rw[e,afJ c];exact aeX _) h2
 ·rw[if_neg h1];exact afG hs hv fun h=>absurd h h1
structure Keeps (n:Nat) (f:Slv×Bool->Slv×Bool):Prop where
 ok:∀q,OkS n q.1->OkS n (f q).1
 kn:∀q,OkS n q.1->aeM q.1 (f q).1
theorem Keeps.comp{n:Nat}{f:Slv×Bool->Slv×Bool}(hf:Keeps n f)(hg:Keeps n g):Keeps n (fun q=>g (f q)):=
 ⟨fun q h=>hg.ok _ (hf.ok q h),fun q h=>(hf.kn q h).trans (hg.kn _ (hf.ok q h))⟩
theorem Keeps.fold {α:Type}{n:Nat}{f:Slv×Bool->α->Slv×Bool}:∀(l:List α),(∀x∈l,Keeps n (fun q=>f q x))->Keeps n (fun q=>l.foldl f q)
 | [],_=>⟨fun _ h=>h,fun q _=>aeM.refl _⟩
 |x::l,h=>Keeps.comp (h x (.head _)) (Keeps.fold l fun y hy=>h y (.tail _ hy))
theorem aeS{n:Nat}{v:Int}(hv:v.toNat<n){a:Slv->Rg}(c:∀s,OkS n s->(a s).ok):Keeps n (fun q=>aeA k v (a q.1) q):=
 ⟨fun q h=>h.step v (c _ h),fun q h=>agG h hv (c _ h)⟩
theorem keeps_op{p:IProg}{n:Nat}(ho:agH n o):Keeps n (fun q=>opS p k q o):=by
 by_cases c:0<=o.res
 ·have:(fun q=>opS p k q o)=(fun q:Slv×Bool=>aeA k o.res (afq p q.1 o) q):=by funext q;unfold opS;rw[if_pos c]
  rw[this];exact aeS (ho c).1 fun s hs=>ag1 hs ho c
 ·have:(fun q=>opS p k q o)=(fun q:Slv×Bool=>q):=by funext q;unfold opS;rw[if_neg c]
  rw[this];exact⟨fun _ h=>h,fun q _=>aeM.refl _⟩
theorem agL{p:IProg}{n:Nat}{b:IBlk}(h:d9 n blocks b):Keeps n (fun q=>agf p blocks k q b):=
 Keeps.comp (Keeps.fold _ fun o ho=>keeps_op (h.1 o ho)) (Keeps.fold _ fun e he=>Keeps.fold _ fun x hx=>aeS (a:=fun s=>s.get x.2) (h.2 e he _ (List.of_mem_zip hx).1) fun s hs=>hs.get _)
theorem af3{p:IProg}{n:Nat}(h:∀i∈c,d9 n blocks (xz blocks i)):Keeps n (fun q=>c.foldl (goS p blocks k) q):=
 Keeps.fold _ fun i hi=>by
  have:(fun q=>goS p blocks k q i)=(fun q=>agf p blocks k q (xz blocks i)):=by funext q;exact ag4 (h i hi) q
  rw[this];exact agL (h i hi)
structure EndOk (p:IProg) (n:Nat) (blocks:List IBlk) (order:List Nat) (s t:Slv):Prop where
 ok:OkS n t
 kn:aeM s t
 fix:∀i∈order,ahb p blocks (xz blocks i) t
theorem end_ok {p:IProg}{n:Nat}{blocks:List IBlk}{c:List Nat}(h:∀i∈c,d9 n blocks (xz blocks i)):∀(j k:Nat) (s:Slv),OkS n s->aeL k s<j->EndOk p n blocks c s (ahf p blocks c k s)
 |0,k,s,_,h1=>absurd h1 (Nat.not_lt_zero _)
 |j+1,k,s,hs,h1=>by
  rw[afw h hs];have hk:=af3 (p:=p) (k:=k+1) h
  split
  ·rename_i d
   have:=end_ok (p:=p) h j (k+1) (dx p blocks c (k+1) s).1 (hk.ok (s,false) hs) (by have:=afd h hs d;omega);exact⟨this.ok,(hk.kn (s,false) hs).trans this.kn,this.fix⟩
  ·rename_i d
   obtain⟨h2,_,h3⟩:=afQ (p:=p) (k:=k+1) h (s,false) (by simpa[dx] using d)
   have e:(dx p blocks c (k+1) s).1=s:=by
    show(c.foldl (goS p blocks (k+1)) (s,false)).1=s
    have:c.foldl (goS p blocks (k+1)) (s,false)=(s,false):=h2;rw[this]
   rw[e];exact⟨hs,aeM.refl s,h3⟩
theorem end_ok'{p:IProg}{n:Nat}(h:∀i∈c,d9 n blocks (xz blocks i)){s:Slv}(hs:OkS n s):EndOk p n blocks c s (ahf p blocks c k s):=end_ok h _ k s hs (Nat.lt_succ_self _)
theorem empty_ok (n:Nat):OkS n ⟨List.replicate n ⟨0,0⟩,List.replicate n false⟩:=
 ⟨by simp,by simp,fun a ha=>by rw[List.eq_of_mem_replicate ha];exact⟨Je _,Jt _⟩⟩
theorem af1{n:Nat}(h:∀v∈ps,v.toNat<n):Keeps n (fun q=>ps.foldl (fun q v=>aeA 0 v vu q) q):=Keeps.fold _ fun v hv=>aeS (a:=fun _=>vu) (h v hv) fun _ _=>ek
theorem start_ok{n:Nat}(h:∀v∈ps,v.toNat<n):OkS n (afz n ps):=(af1 h).ok (_,false) (empty_ok n)
end Go.Proofs.YtoahcpkibpomcaaGreat
