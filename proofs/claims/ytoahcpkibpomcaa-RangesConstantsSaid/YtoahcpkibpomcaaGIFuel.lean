/- Part of a proof. -/
import Derived.Test.YtoahcpkibpomcaaSp
set_option linter.all false
namespace Go.Proofs.Ytoahcpkibpomcaa
variable {i k x y:Nat}{c:Int}{ps:List Int}
structure IOp where
 code:Int
 res:Int
 a:Int
 b:Int
 n:Nat
 args:List Int
variable {o:IOp}
structure IEdge where
 block:Int
 args:List Int
structure ITerm where
 kind:Int
 a:Int
 to:List IEdge
structure IBlk where
 params:List Int
 ops:List IOp
 term:ITerm
variable {blocks:List IBlk}
structure IObj where
 bank:Int
 addr:Nat
 size:Nat
structure IProg where
 funcs:List (List IBlk)
 args:List Int
 entry:Int
 handler:Int
 data:List IObj
 banks:List ByteArray
structure Mach where
 ram:List Nat
 fuel:Int
 out:List (Nat×Nat)
 inputs:Nat
 polls:Nat
structure IEnv where
 p:IProg
 inn:List Nat
 irq:List Nat
inductive Res (α:Type) where
 |ok (x:α) (m:Mach)
 |trap (k i:Nat) (m:Mach)
def s16 (a:Nat):Int:=if a<32768 then(a:Int) else(a:Int)-65536
def iw (b:Bool):Nat:=if b then 1 else 0
def yW (code:Int)(a b:Nat):Nat:=
 if code=5 then(a+b)%65536
 else if code=6 then(a+(65536-b))%65536
 else if code=7 then a*b%65536
 else if code=8 then a/b
 else if code=9 then a &&& b
 else if code=10 then a|||b
 else if code=11 then a^^^b
 else if code=12 then a*2^(b%16)%65536
 else if code=13 then a/2^(b%16)
 else if code=14 then((s16 a/2^(b%16))%65536).toNat
 else if code=15 then iw (decide (a=b))
 else if code=16 then iw (decide (a<b))
 else iw (decide (s16 a<s16 b))
def wo (a:Nat):Bool:=decide (16384<=a) && decide (a<24576)
def tC (m:Mach)(a:Nat):Nat:=m.ram.getD (a-16384) 0
def sJ (E:IEnv)(bank a:Nat):Bool:=decide (bank<E.p.banks.length) && decide (a<4096)
def tS (E:IEnv)(bank a:Nat):Nat:=((E.p.banks.getD bank ⟨#[]⟩).data.getD a 0).toNat
def Mach.pay (m:Mach):Mach:= {m with fuel:=m.fuel-1 }
def Mach.put (m:Mach)(a x:Nat):Mach:= {m with ram:=m.ram.set (a-16384) x }
variable {m m':Mach}
def x9 (a:Nat):Nat:=(a+1)%65536
def abh (m:Mach)(a:Nat):Res Nat:=if wo a then .ok (tC m a) m else .trap 2 a m
def pR (m:Mach)(a:Nat):Res Nat:=
 if wo a then(if wo (x9 a) then .ok (tC m a+256*tC m (x9 a)) m else .trap 2 (x9 a) m) else .trap 2 a m
def td (m:Mach)(a x:Nat):Res Nat:=if wo a then .ok 0 (m.put a (x%256)) else .trap 2 a m
def sK (m:Mach)(a x:Nat):Res Nat:=
 if wo a then(if wo (x9 a) then .ok 0 ((m.put a (x%256)).put (x9 a) (x/256)) else .trap 2 (x9 a) m) else .trap 2 a m
def nX (E:IEnv)(m:Mach)(bank a:Nat):Res Nat:=if sJ E bank a then .ok (tS E bank a) m else .trap 2 a m
def im (E:IEnv)(m:Mach)(bank a:Nat):Res Nat:=
 if sJ E bank a then(if sJ E bank (x9 a) then .ok (tS E bank a+256*tS E bank (x9 a)) m else .trap 2 (x9 a) m) else .trap 2 a m
def uq (E:IEnv)(m:Mach):Res Nat:=
 if m.inputs<E.inn.length then .ok (E.inn.getD m.inputs 0) {m with inputs:=m.inputs+1 } else .ok 0 m
def adS (m:Mach)(port x:Nat):Res Nat:=.ok 0 {m with out:=m.out++ [(port,x)]}
def iy (m:Mach)(code:Int)(a b:Nat):Res Nat:=if code=8/\b=0 then .trap 4 0 m else .ok (yW code a b) m
def mU (E:IEnv)(o:IOp)(a b:Nat)(m:Mach):Res Nat:=
 if o.code=1 then .ok o.n m
 else if o.code=2 then .ok ((((E.p.data.getD o.a.toNat ⟨0,0,0⟩).addr)+o.n)%65536) m
 else if o.code=3 then .ok ((65536-a)%65536) m
 else if o.code=4 then .ok (65535-a) m
 else if o.code=18 then pR m a
 else if o.code=19 then abh m a
 else if o.code=20 then sK m a b
 else if o.code=21 then td m a b
 else if o.code=22 then im E m o.n a
 else if o.code=23 then nX E m o.n a
 else if o.code=24 then uq E m
 else if o.code=25 then adS m o.n a
 else iy m o.code a b
def tY (E:IEnv)(call:Int->List Nat->Mach->Res Nat)(m:Mach):Res Nat:=
 if m.polls<E.irq.length then
  (if E.irq.getD m.polls 0≠0/\E.p.handler≠-1 then
    (match call E.p.handler [] {m with polls:=m.polls+1 } with
      |.ok _ m'=> .ok 0 m'
      |.trap k i m'=> .trap k i m')
    else .ok 0 {m with polls:=m.polls+1 })
 else .ok 0 m
def oV (E:IEnv)(call:Int->List Nat->Mach->Res Nat)(o:IOp)(v:Int->Nat)(m:Mach):Res Nat:=
 if o.code=26 then call o.a (o.args.map v) m
 else if o.code=27 then tY E call m
 else mU E o (v o.a) (v o.b) m
def iY (v:Int->Nat)(x:Int)(r:Nat):Int->Nat:=fun y=>if y=x then r else v y
def setV (v:Int->Nat)(x:Int)(r:Nat):Int->Nat:=if 0<=x then iY v x r else v
def iq (E:IEnv)(call:Int->List Nat->Mach->Res Nat):List IOp->(Int->Nat)->Mach->Res (Int->Nat)
 | [],v,m=> .ok v m
 |o::os,v,m=>
  if m.fuel<=0 then .trap 7 0 m
  else match oV E call o v m.pay with
   |.ok r m'=>iq E call os (setV v o.res r) m'
   |.trap k i m'=> .trap k i m'
def r7:List Int->List Nat->(Int->Nat)->(Int->Nat)
 |p::ps,a::as,v=>r7 ps as (iY v p a)
 |_,_,v=>v
def wK (t:ITerm)(a:Nat):IEdge:=
 if t.kind=2/\a=0 then t.to.getD 1 ⟨0,[]⟩
 else if t.kind=3 then t.to.getD (min a (t.to.length-1)) ⟨0,[]⟩
 else t.to.getD 0 ⟨0,[]⟩
def xz (blocks:List IBlk)(at':Int):IBlk:=blocks.getD at'.toNat ⟨[],[],⟨0,0,[]⟩⟩
def tJ (E:IEnv)(call:Int->List Nat->Mach->Res Nat)(blocks:List IBlk):Nat->Int->List Nat->(Int->Nat)->Mach->Res Nat
 |0,_,_,_,m=> .trap 7 0 m
 |n+1,at',args,v,m=>
  match iq E call (xz blocks at').ops (r7 (xz blocks at').params args v) m with
  |.trap k i m'=> .trap k i m'
  |.ok v2 m2=>
   if m2.fuel<=0 then .trap 7 0 m2
   else if(xz blocks at').term.kind=4 then .ok (if(xz blocks at').term.a=-1 then 0 else v2 (xz blocks at').term.a) m2.pay
   else if(xz blocks at').term.kind=5 then .trap 1 0 m2.pay
   else tJ E call blocks n (wK (xz blocks at').term (v2 (xz blocks at').term.a)).block ((wK (xz blocks at').term (v2 (xz blocks at').term.a)).args.map v2) v2 m2.pay
def xW (E:IEnv):Nat->Int->List Nat->Mach->Res Nat
 |0,_,_,m=> .trap 5 0 m
 |r+1,f,args,m=>
  if(E.p.funcs.getD f.toNat []).isEmpty then .trap 8 (f%65536).toNat m
  else tJ E (xW E r) (E.p.funcs.getD f.toNat []) (m.fuel.toNat+1) 0 args (fun _=>0) m
structure IRun where
 value:Nat
 out:List (Nat×Nat)
 kind:Nat
 info:Nat
 ram:List Nat
 inputs:Nat
 polls:Nat
def adO:Res Nat->IRun
 |.ok x m=>⟨x,m.out,6,0,m.ram,m.inputs,m.polls⟩
 |.trap k i m=>⟨0,m.out,k,i,m.ram,m.inputs,m.polls⟩
def v7 (s:ByteArray):List Nat:=(List.range 8192).map fun k=>(s.data.getD k 0).toNat
def bQ (E:IEnv)(f:Int)(args:List Nat)(ram:ByteArray)(fuel:Int):IRun:=adO (xW E 100 f args ⟨v7 ram,fuel,[],0,0⟩)
def OkOp (p:IProg)(o:IOp):Prop:=
 (1<=o.code/\o.code<=27)/\(o.code=2->0<=o.a/\o.a.toNat<p.data.length)/\(o.code=26->0<=o.a/\o.a.toNat<p.funcs.length/\(o.args.length:Int)=p.args.getD o.a.toNat 0)
def bS (blocks:List IBlk)(t:ITerm):Prop:=
 (t.kind=1∨t.kind=2∨t.kind=3∨t.kind=4∨t.kind=5)/\(t.kind=1->1<=t.to.length)/\(t.kind=2->2<=t.to.length)/\(t.kind=3->1<=t.to.length)/\
  ∀e∈t.to,1<=e.block/\e.block.toNat<blocks.length/\e.args.length=(xz blocks e.block).params.length
def OkBlk (p:IProg)(blocks:List IBlk)(b:IBlk):Prop:=(∀o∈b.ops,OkOp p o)/\bS blocks b.term/\b.params.length<=65536
structure OkProg (p:IProg):Prop where
 blk:∀blocks∈p.funcs,∀b∈blocks,OkBlk p blocks b
 par:∀(i:Nat) (b:IBlk) (bs:List IBlk),p.funcs[i]? =some (b::bs)->(b.params.length:Int)=p.args.getD i 0
 hnd:p.handler≠-1->0<=p.handler/\p.handler.toNat<p.funcs.length/\p.args.getD p.handler.toNat 0=0
 bank:∀s∈p.banks,s.size=4096
 argle:∀i,p.args.getD i 0<=65536
 alen:p.args.length=p.funcs.length
theorem lL{t:ITerm}(h:bS blocks t)(i:t.kind≠4)(g:t.kind≠5)(a:Nat):wK t a∈t.to:=by
 have d:∀k,k<t.to.length->t.to.getD k ⟨0,[]⟩∈t.to:=fun k hk=>by rw[Jj,Jd hk];exact Uf hk
 unfold wK;obtain⟨c,l,f,j,_⟩:=h
 by_cases c2:t.kind=2/\a=0
 ·rw[if_pos c2];exact d 1 (f c2.1)
 ·rw[if_neg c2]
  by_cases c3:t.kind=3
  ·rw[if_pos c3];have:=j c3;exact d _ Zo
  ·rw[if_neg c3];rcases c with c|c|c|c|c
   ·exact d 0 (l c)
   ·exact d 0 (by have:=f c;omega)
   ·exact absurd c c3
   ·exact absurd c i
   ·exact absurd c g
theorem qq:∀(ps:List Int) (as:List Nat) (v:Int->Nat) (p:Int) (a:Nat),ps.length=as.length->r7 (ps++ [p]) (as++ [a]) v=iY (r7 ps as v) p a
 | [],[],v,p,a,_=>rfl
 | [],_::_,_,_,_,h=>by simp at h
 |_::_,[],_,_,_,h=>by simp at h
 |p'::ps,a'::as,v,p,a,h=>by
  show r7 (ps++ [p]) (as++ [a]) (iY v p' a')=iY (r7 ps as (iY v p' a')) p a
  exact qq ps as _ p a (by simpa using h)
structure Rg where
 lo:Nat
 hi:Nat
def zf:Rg:=⟨0,65535⟩
def Rg.has (a:Rg)(x:Nat):Prop:=a.lo<=x/\x<=a.hi
def Rg.ok (a:Rg):Prop:=a.lo<=a.hi/\a.hi<=65535
def Rg.sub (a b:Rg):Prop:=b.lo<=a.lo/\a.hi<=b.hi
def qm (n:Nat):Rg:=⟨n,n⟩
def zx (a:Rg):Bool:=decide (a.lo=a.hi)
def xr (a b:Rg):Rg:=⟨min a.lo b.lo,max a.hi b.hi⟩
def y7 (lo hi:Int):Rg:=if lo/65536=hi/65536 then⟨(lo%65536).toNat,(hi%65536).toNat⟩ else zf
def yf (lo hi:Nat):Rg:=if hi<=65535 then⟨lo,hi⟩ else zf
def xm (x:Nat):Nat:=if x=0 then 0 else 2*xm (x/2)+1
termination_by x
decreasing_by omega
def tr (a b:Rg):Rg:=if b.hi=0 then zf else⟨a.lo/b.hi,a.hi/max b.lo 1⟩
def ux (a b:Rg):Rg:=if zx b then⟨a.lo/2^(b.lo%16),a.hi/2^(b.lo%16)⟩ else⟨0,a.hi⟩
def sl (c:Int)(a b:Rg):Option Rg:=
 if c=3 then some (y7 (-(a.hi:Int)) (-(a.lo:Int)))
 else if c=4 then some ⟨65535-a.hi,65535-a.lo⟩
 else if c=5 then some (y7 ((a.lo:Int)+b.lo) ((a.hi:Int)+b.hi))
 else if c=6 then some (y7 ((a.lo:Int)-b.hi) ((a.hi:Int)-b.lo))
 else if c=7 then some (yf (a.lo*b.lo) (a.hi*b.hi))
 else if c=8 then some (tr a b)
 else if c=9 then some ⟨0,min a.hi b.hi⟩
 else if c=10 then some ⟨max a.lo b.lo,xm (max a.hi b.hi)⟩
 else if c=11 then some ⟨0,xm (max a.hi b.hi)⟩
 else if c=12 then some (if zx b then yf (a.lo*2^(b.lo%16)) (a.hi*2^(b.lo%16)) else zf)
 else if c=13 then some (ux a b)
 else if c=14 then some (if 32768<=a.hi then zf else ux a b)
 else if c=15 then some (if a.hi<b.lo∨b.hi<a.lo then⟨0,0⟩ else⟨0,1⟩)
 else if c=16 then some (if a.hi<b.lo then⟨1,1⟩ else if b.hi<=a.lo then⟨0,0⟩ else⟨0,1⟩)
 else if c=17 then some ⟨0,1⟩
 else if c=19 then some ⟨0,255⟩
 else if c=23 then some ⟨0,255⟩
 else none
def rr (c:Int)(a b:Nat):Nat:=if c=3 then(65536-a)%65536 else if c=4 then 65535-a else yW c a b
def gr (c:Int)(a b:Rg):Rg:=
 match sl c a b with
 |none=>zf
 |some r=>if c<=17/\zx a=true/\((c=3∨c=4)∨zx b=true) then(if c=8/\b.lo=0 then zf else qm (rr c a.lo b.lo)) else r
theorem m0(h:x<65536):zf.has x:=⟨Jt _,by show x<=65535;omega⟩
theorem xf:zf.ok:=⟨Jt _,Je _⟩
theorem afN (x:Nat):(qm x).has x:=⟨Je _,Je _⟩
theorem Rg.has.lt{a:Rg}(h:a.has x)(c:a.ok):x<65536:=by have:=h.2;have:=c.2;omega
theorem o5 {lo hi z:Int}(d:lo<=z)(c:z<=hi):(y7 lo hi).has (z%65536).toNat:=by
 unfold y7
 split
 ·rename_i h
  exact⟨by show(lo%65536).toNat<=_;omega,by show _<=(hi%65536).toNat;omega⟩
 ·exact m0 Zo
theorem l4 {lo hi:Int}(h:lo<=hi):(y7 lo hi).ok:=by
 unfold y7
 split
 ·exact⟨by show(lo%65536).toNat<=(hi%65536).toNat;omega,by show(hi%65536).toNat<=_;omega⟩
 ·exact xf
theorem l6 {lo hi z:Nat}(d:lo<=z)(c:z<=hi):(yf lo hi).has (z%65536):=by
 unfold yf
 split
 ·rw[Nat.mod_eq_of_lt Zo];exact⟨d,c⟩
 ·exact m0 Zo
theorem i4 {lo hi:Nat}(h:lo<=hi):(yf lo hi).ok:=by
 unfold yf
 split
 ·exact⟨h,by assumption⟩
 ·exact xf
theorem ma:∀x:Nat,∃k,xm x+1=2^k/\x<2^k/\(x<65536->k<=16):=by
 intro x
 induction x using Nat.strongRecOn with
 |_ x ih=>
  by_cases h:x=0
  ·exact⟨0,by rw[xm,if_pos h],by subst h;decide,fun _=>Jt _⟩
  ·obtain⟨k,g,l,f⟩:=ih (x/2) Zo;refine⟨k+1,by rw[xm,if_neg h,Nat.pow_succ];omega,by rw[Nat.pow_succ];omega,fun h4=>?_⟩
   by_cases hk:k<=15
   ·omega
   ·obtain rfl:k=16:=by have:=f Zo;omega
    exfalso;have:xm (x/2)+1=65536:=g
    have d:∀j y,y<2^j->xm y<2^j:=by
     intro j
     induction j with
     |zero=>intro y c;have:y=0:=by simpa using c
            rw[xm,if_pos this];exact Nat.zero_lt_one
     |succ j ih2=>
      intro y c;rw[xm]
      split
      ·exact Nat.pos_of_ne_zero Zs
      ·have:=ih2 (y/2) (by rw[Nat.pow_succ] at c;omega);rw[Nat.pow_succ];omega
    have:=d 15 (x/2) (by show x/2<32768;omega);have i:(2:Nat)^15=32768:=rfl;omega
theorem mask_min:∀(x m k:Nat),m+1=2^k->x<=m->xm x<=m:=by
 intro x
 induction x using Nat.strongRecOn with
 |_ x ih=>
  intro m k hk c
  by_cases h:x=0
  ·rw[xm,if_pos h];exact Jt _
  ·cases k with
   |zero=>simp at hk;omega
   |succ k=>
    rw[Nat.pow_succ] at hk;have:=ih (x/2) Zo ((m-1)/2) k Zo Zo;rw[xm,if_neg h];omega
theorem afw (x:Nat):x<=xm x:=by
 obtain⟨k,d,c,_⟩:=ma x;omega
theorem ax(h:x<65536):xm x<65536:=by
 obtain⟨k,g,f,c⟩:=ma x;have:=Nat.pow_le_pow_right (show 0<2 by decide) (c h);have d:(2:Nat)^16=65536:=rfl;omega
theorem afo{h:Nat}(d:x<=h)(c:y<=h):x|||y<=xm h/\x^^^y<=xm h:=by
 obtain⟨k,g,f,_⟩:=ma h;have a:=Nat.or_lt_two_pow (n:=k) (x:=x) (y:=y) Zo Zo;have b:=Nat.xor_lt_two_pow (n:=k) (x:=x) (y:=y) Zo Zo;omega
theorem ff{a b:Rg}(c:a.has x)(d:b.has y):(ux a b).has (x/2^(y%16)):=by
 unfold ux
 split
 ·rename_i h
  have h:b.lo=b.hi:=of_decide_eq_true h;obtain rfl:y=b.lo:=by have:=d.1;have:=d.2;omega
  exact⟨Nat.div_le_div_right c.1,Nat.div_le_div_right c.2⟩
 ·exact⟨Jt _,Jn (Nat.div_le_self _ _) c.2⟩
theorem aeL {a b:Rg}(c:a.ok):(ux a b).ok:=by
 unfold ux
 split
 ·exact⟨Nat.div_le_div_right c.1,Jn (Nat.div_le_self _ _) c.2⟩
 ·exact⟨Jt _,c.2⟩
theorem bg (p:Bool):(⟨0,1⟩:Rg).has (iw p):=by cases p<;>exact⟨by decide,by decide⟩
theorem rule_has(hc:3<=c/\c<=17){a b r:Rg}(hr:sl c a b=some r)(i:a.has x)(g:b.has y)(u:a.ok)(hb:b.ok)(t:¬(c=8/\y=0)):r.has (rr c x y):=by
 have f:=i.1;have d:=i.2;have k:=g.1;have j:=g.2;have a1:=u.2;have a0:=hb.2;have m:c=3∨c=4∨c=5∨c=6∨c=7∨c=8∨c=9∨c=10∨c=11∨c=12∨c=13∨c=14∨c=15∨c=16∨c=17:=Zo;rcases m with rfl|rfl|rfl|rfl|rfl|rfl|rfl|rfl|rfl|rfl|rfl|rfl|rfl|rfl|rfl
 ·cases hr;have:=o5 (lo:=-(a.hi:Int)) (hi:=-(a.lo:Int)) (z:=-(x:Int)) Zo Zo
  show(y7 _ _).has ((65536-x)%65536)
  rw[show(65536-x)%65536=((-(x:Int))%65536).toNat by omega];exact this
 ·cases hr;exact⟨by show 65535-a.hi<=65535-x;omega,by show 65535-x<=65535-a.lo;omega⟩
 ·cases hr;have:=o5 (lo:=(a.lo:Int)+b.lo) (hi:=(a.hi:Int)+b.hi) (z:=(x:Int)+y) Zo Zo
  show(y7 _ _).has ((x+y)%65536)
  rw[show(x+y)%65536=(((x:Int)+y)%65536).toNat by omega];exact this
 ·cases hr;have:=o5 (lo:=(a.lo:Int)-b.hi) (hi:=(a.hi:Int)-b.lo) (z:=(x:Int)-y) Zo Zo
  show(y7 _ _).has ((x+(65536-y))%65536)
  rw[show(x+(65536-y))%65536=(((x:Int)-y)%65536).toNat by omega];exact this
 ·cases hr;exact l6 (Nat.mul_le_mul f k) (Nat.mul_le_mul d j)
 ·cases hr
  show(tr a b).has (x/y)
  have l:y≠0:=fun h=>t ⟨rfl,h⟩
  unfold tr;rw[if_neg Zo];refine⟨Nat.div_le_div f j l,?_⟩;exact Nat.div_le_div d Zo Zo
 ·cases hr;exact⟨Jt _,by show x &&& y<=min a.hi b.hi;have:=@Nat.and_le_left x y;have:=@Nat.and_le_right x y;omega⟩
 ·cases hr;have o:=@Nat.left_le_or x y;have h2:=@Nat.right_le_or x y;have w:=(afo (x:=x) (y:=y) (h:=max a.hi b.hi) Zo Zo).1;exact⟨by show max a.lo b.lo<=x|||y;omega,w⟩
 ·cases hr;exact⟨Jt _,(afo (x:=x) (y:=y) (h:=max a.hi b.hi) Zo Zo).2⟩
 ·cases hr
  show(if zx b=true then yf _ _ else zf).has (x*2^(y%16)%65536)
  split
  ·rename_i h
   have h:b.lo=b.hi:=of_decide_eq_true h;obtain rfl:y=b.lo:=by omega
   exact l6 (Qw _ f) (Qw _ d)
  ·exact m0 Zo
 ·cases hr;exact ff i g
 ·cases hr
  show(if 32768<=a.hi then zf else ux a b).has ((s16 x/2^(y%16))%65536).toNat
  split
  ·exact m0 Zo
  ·have hs:s16 x=(x:Int):=by unfold s16;rw[if_pos Zo]
   have hp:((x:Int)/2^(y%16)%65536).toNat=x/2^(y%16):=by
    have o:(x:Int)/2^(y%16)=((x/2^(y%16):Nat):Int):=by simp
    have h2:=Nat.div_le_self x (2^(y%16));rw[o];generalize x/2^(y%16)=q at *;omega
   rw[hs,hp];exact ff i g
 ·cases hr
  show(if a.hi<b.lo∨b.hi<a.lo then(⟨0,0⟩:Rg) else⟨0,1⟩).has (iw (decide (x=y)))
  split
  ·rw[decide_eq_false Zo];exact⟨Je _,Je _⟩
  ·exact bg _
 ·cases hr
  show(if a.hi<b.lo then(⟨1,1⟩:Rg) else if b.hi<=a.lo then⟨0,0⟩ else⟨0,1⟩).has (iw (decide (x<y)))
  split
  ·rw[decide_eq_true Zo];exact⟨Je _,Je _⟩
  ·split
   ·rw[decide_eq_false Zo];exact⟨Je _,Je _⟩
   ·exact bg _
 ·cases hr;exact bg _
theorem i5{a b r:Rg}(hr:sl c a b=some r):c=3∨c=4∨c=5∨c=6∨c=7∨c=8∨c=9∨c=10∨c=11∨c=12∨c=13∨c=14∨c=15∨c=16∨c=17∨c=19∨c=23:=by
 by_cases h:c=3∨c=4∨c=5∨c=6∨c=7∨c=8∨c=9∨c=10∨c=11∨c=12∨c=13∨c=14∨c=15∨c=16∨c=17∨c=19∨c=23
 ·exact h
 ·unfold sl at hr;rw[if_neg Zo,if_neg Zo,if_neg Zo,if_neg Zo,if_neg Zo,if_neg Zo,if_neg Zo,if_neg Zo,if_neg Zo,if_neg Zo,if_neg Zo,if_neg Zo,if_neg Zo,if_neg Zo,if_neg Zo,if_neg Zo,if_neg Zo] at hr;cases hr
theorem f7(f:3<=c/\c<=17)(a b:Rg):∃r,sl c a b=some r:=by
 have d:c=3∨c=4∨c=5∨c=6∨c=7∨c=8∨c=9∨c=10∨c=11∨c=12∨c=13∨c=14∨c=15∨c=16∨c=17:=Zo;rcases d with rfl|rfl|rfl|rfl|rfl|rfl|rfl|rfl|rfl|rfl|rfl|rfl|rfl|rfl|rfl<;>exact⟨_,rfl⟩
theorem afp(d:c=3∨c=4)(x y z:Nat):rr c x y=rr c x z:=by
 unfold rr;rcases d with h|h
 ·rw[if_pos h,if_pos h]
 ·rw[if_neg Zo,if_pos h,if_neg Zo,if_pos h]
theorem rule_un(d:c=3∨c=4)(a b b':Rg):sl c a b=sl c a b':=by
 unfold sl;rcases d with h|h
 ·rw[if_pos h,if_pos h]
 ·rw[if_neg Zo,if_pos h,if_neg Zo,if_pos h]
theorem aft{a b r:Rg}(hr:sl c a b=some r)(f:a.ok)(hb:b.ok):r.ok:=by
 have d:=f.1;have i:=f.2;have h:=hb.1;have j:=hb.2;have hm:=ax (x:=max a.hi b.hi) Zo;have hl:=afw (max a.hi b.hi);have g:c=3∨c=4∨c=5∨c=6∨c=7∨c=8∨c=9∨c=10∨c=11∨c=12∨c=13∨c=14∨c=15∨c=16∨c=17∨c=19∨c=23:=i5 hr;rcases g with rfl|rfl|rfl|rfl|rfl|rfl|rfl|rfl|rfl|rfl|rfl|rfl|rfl|rfl|rfl|rfl|rfl<;>cases hr
 ·exact l4 Zo
 ·exact⟨by show 65535-a.hi<=65535-a.lo;omega,by show 65535-a.lo<=65535;omega⟩
 ·exact l4 Zo
 ·exact l4 Zo
 ·exact i4 (Nat.mul_le_mul d h)
 ·show(tr a b).ok
  unfold tr
  split
  ·exact xf
  ·exact⟨Nat.div_le_div d Zo Zo,Jn (Nat.div_le_self _ _) i⟩
 ·exact⟨Jt _,by show min a.hi b.hi<=65535;omega⟩
 ·exact⟨by show max a.lo b.lo<=xm _;omega,by show xm _<=65535;omega⟩
 ·exact⟨Jt _,by show xm _<=65535;omega⟩
 ·show(if zx b=true then yf _ _ else zf).ok
  split
  ·exact i4 (Qw _ d)
  ·exact xf
 ·exact aeL f
 ·show(if 32768<=a.hi then zf else ux a b).ok
  split
  ·exact xf
  ·exact aeL f
 ·show(if a.hi<b.lo∨b.hi<a.lo then(⟨0,0⟩:Rg) else⟨0,1⟩).ok
  split<;>exact⟨by decide,by decide⟩
 ·show(if a.hi<b.lo then(⟨1,1⟩:Rg) else if b.hi<=a.lo then⟨0,0⟩ else⟨0,1⟩).ok
  split
  ·exact⟨by decide,by decide⟩
  ·split<;>exact⟨by decide,by decide⟩
 all_goals exact⟨by decide,by decide⟩
theorem afJ(d:3<=c/\c<=17)(j:x<65536)(i:y<65536)(h:¬(c=8/\y=0)):rr c x y<65536:=by
 obtain⟨r,hr⟩:=f7 d (qm x) (qm y);have g:(qm x).ok:=⟨Je _,by show x<=65535;omega⟩
 have f:(qm y).ok:=⟨Je _,by show y<=65535;omega⟩
 exact(rule_has d hr (afN x) (afN y) g f h).lt (aft hr g f)
theorem app_ok(i:1<=c){a b:Rg}(d:a.ok)(hb:b.ok):(gr c a b).ok:=by
 unfold gr
 split
 ·exact xf
 ·rename_i r hr
  split
  ·rename_i h
   split
   ·exact xf
   ·rename_i g
    have f:3<=c:=by have:=i5 hr;omega
    have:=afJ (c:=c) (x:=a.lo) (y:=b.lo) ⟨f,h.1⟩ (by have:=d.1;have:=d.2;omega) (by have:=hb.1;have:=hb.2;omega) g;exact⟨Je _,by show rr c a.lo b.lo<=65535;omega⟩
  ·exact aft hr d hb
def vl (lo hi:Nat):Rg:=⟨lo%65536,hi%65536⟩
theorem xl {lo hi:Nat}(d:lo<65536)(c:hi<65536):vl lo hi=⟨lo,hi⟩:=by unfold vl;rw[Nat.mod_eq_of_lt d,Nat.mod_eq_of_lt c]
def shiftsQ (c:Int)(a b:Rg):Rg:=
 if c=12 then(if a.hi*2^(b.lo%16)<65536/\zx b=true then vl (a.lo*2^(b.lo%16)) (a.hi*2^(b.lo%16)) else zf)
 else if c=14/\32768<=a.hi then zf
 else if zx b=true then vl (a.lo/2^(b.lo%16)) (a.hi/2^(b.lo%16)) else vl 0 a.hi
def gc (lo hi:Nat):Rg:=if(lo<65536/\hi<65536)∨(65536<=lo/\65536<=hi) then vl (lo%65536) (hi%65536) else zf
def sumsQ (c:Int)(a b:Rg):Rg:=
 if c=6 then gc (a.lo+65536-b.hi) (a.hi+65536-b.lo)
 else if c=7 then(if 65536<=a.hi*b.hi then zf else gc (a.lo*b.lo) (a.hi*b.hi))
 else if c=8 then(if b.hi=0 then zf else vl (a.lo/b.hi) (a.hi/max b.lo 1))
 else gc (a.lo+b.lo) (a.hi+b.hi)
def np (c:Int)(a b:Rg):Rg:=
 if c<=17/\zx a=true/\((c=3∨c=4)∨zx b=true) then(if c=8/\b.lo=0 then zf else qm (rr c a.lo b.lo))
 else if c=3 then(if 0<a.lo then vl (65536-a.hi) (65536-a.lo) else zf)
 else if c=4 then vl (65535-a.hi) (65535-a.lo)
 else if c=5∨c=6∨c=7∨c=8 then sumsQ c a b
 else if c=9 then vl 0 (min a.hi b.hi)
 else if c=10 then vl (max a.lo b.lo) (xm (max a.hi b.hi))
 else if c=11 then vl 0 (xm (max a.hi b.hi))
 else if c=12∨c=13∨c=14 then shiftsQ c a b
 else if c=15 then(if a.hi<b.lo∨b.hi<a.lo then vl 0 0 else vl 0 1)
 else if c=16 then(if a.hi<b.lo then vl 1 1 else if b.hi<=a.lo then vl 0 0 else vl 0 1)
 else if c=17 then vl 0 1
 else if c=19∨c=23 then vl 0 255
 else zf
theorem Rg.ext2 {a b:Rg}(d:a.lo=b.lo)(c:a.hi=b.hi):a=b:=by cases a;cases b;simp only at d c;subst d c;rfl
theorem aeJ(n:Nat)(h:x<65536):x/2^(n%16)<65536:=Nat.lt_of_le_of_lt (Nat.div_le_self _ _) h
theorem m6(m:3<=c/\c<=27){a b:Rg}(j:a.ok)(hb:b.ok):np c a b=gr c a b:=by
 have d:=j.1;have t:=j.2;have i:=hb.1;have q:=hb.2;have hm:=ax (x:=max a.hi b.hi) Zo
 by_cases hs:c<=17/\zx a=true/\((c=3∨c=4)∨zx b=true)
 ·obtain⟨r,hr⟩:=f7 ⟨m.1,hs.1⟩ a b;unfold np gr;rw[hr,if_pos hs];simp only;rw[if_pos hs]
 have l:gr c a b=match sl c a b with|none=>zf|some r=>r:=by
  unfold gr
  cases sl c a b with
  |none=>rfl
  |some r=>simp only;rw[if_neg hs]
 rw[l];unfold np;rw[if_neg hs];have g:c=3∨c=4∨c=5∨c=6∨c=7∨c=8∨c=9∨c=10∨c=11∨c=12∨c=13∨c=14∨c=15∨c=16∨c=17∨c=18∨c=19∨c=20∨c=21∨c=22∨c=23∨c=24∨c=25∨c=26∨c=27:=Zo;rcases g with rfl|rfl|rfl|rfl|rfl|rfl|rfl|rfl|rfl|rfl|rfl|rfl|rfl|rfl|rfl|rfl|rfl|rfl|rfl|rfl|rfl|rfl|rfl|rfl|rfl
 ·have o:¬(a.lo=a.hi):=fun e=>hs ⟨by decide,decide_eq_true e,.inl (.inl rfl)⟩
  show(if 0<a.lo then vl (65536-a.hi) (65536-a.lo) else zf)=y7 (-(a.hi:Int)) (-(a.lo:Int))
  unfold y7
  by_cases h:0<a.lo
  ·rw[if_pos h,if_pos Zo,xl Zo Zo];exact Rg.ext2 (by show 65536-a.hi=((-(a.hi:Int))%65536).toNat;omega) (by show 65536-a.lo=((-(a.lo:Int))%65536).toNat;omega)
  ·rw[if_neg h,if_neg Zo]
 ·show vl (65535-a.hi) (65535-a.lo)=⟨65535-a.hi,65535-a.lo⟩
  exact xl Zo Zo
 ·show gc (a.lo+b.lo) (a.hi+b.hi)=y7 ((a.lo:Int)+b.lo) ((a.hi:Int)+b.hi)
  unfold gc y7
  by_cases h:(a.lo+b.lo<65536/\a.hi+b.hi<65536)∨(65536<=a.lo+b.lo/\65536<=a.hi+b.hi)
  ·rw[if_pos h,if_pos Zo,xl Zo Zo];exact Rg.ext2 (by show(a.lo+b.lo)%65536=(((a.lo:Int)+b.lo)%65536).toNat;omega) (by show(a.hi+b.hi)%65536=(((a.hi:Int)+b.hi)%65536).toNat;omega)
  ·rw[if_neg h,if_neg Zo]
 ·show gc (a.lo+65536-b.hi) (a.hi+65536-b.lo)=y7 ((a.lo:Int)-b.hi) ((a.hi:Int)-b.lo)
  unfold gc y7
  by_cases h:(a.lo+65536-b.hi<65536/\a.hi+65536-b.lo<65536)∨(65536<=a.lo+65536-b.hi/\65536<=a.hi+65536-b.lo)
  ·rw[if_pos h,if_pos Zo,xl Zo Zo];exact Rg.ext2 (by show(a.lo+65536-b.hi)%65536=(((a.lo:Int)-b.hi)%65536).toNat;omega) (by show(a.hi+65536-b.lo)%65536=(((a.hi:Int)-b.lo)%65536).toNat;omega)
  ·rw[if_neg h,if_neg Zo]
 ·show(if 65536<=a.hi*b.hi then zf else gc (a.lo*b.lo) (a.hi*b.hi))=yf (a.lo*b.lo) (a.hi*b.hi)
  have hl:=Nat.mul_le_mul d i;unfold yf gc
  by_cases h:65536<=a.hi*b.hi
  ·rw[if_pos h,if_neg Zo]
  ·rw[if_neg h,if_pos Zo,if_pos Zo,Nat.mod_eq_of_lt Zo,Nat.mod_eq_of_lt Zo,xl Zo Zo]
 ·show(if b.hi=0 then zf else vl (a.lo/b.hi) (a.hi/max b.lo 1))=tr a b
  unfold tr
  by_cases h:b.hi=0
  ·rw[if_pos h,if_pos h]
  ·rw[if_neg h,if_neg h];exact xl (Nat.lt_of_le_of_lt (Nat.div_le_self _ _) Zo) (Nat.lt_of_le_of_lt (Nat.div_le_self _ _) Zo)
 ·show vl 0 (min a.hi b.hi)=⟨0,min a.hi b.hi⟩
  exact xl Zo Zo
 ·show vl (max a.lo b.lo) (xm (max a.hi b.hi))=⟨max a.lo b.lo,xm (max a.hi b.hi)⟩
  exact xl Zo hm
 ·show vl 0 (xm (max a.hi b.hi))=⟨0,xm (max a.hi b.hi)⟩
  exact xl Zo hm
 ·show(if a.hi*2^(b.lo%16)<65536/\zx b=true then vl (a.lo*2^(b.lo%16)) (a.hi*2^(b.lo%16)) else zf)=(if zx b=true then yf (a.lo*2^(b.lo%16)) (a.hi*2^(b.lo%16)) else zf)
  have hl:=Qw (2^(b.lo%16)) d
  by_cases h:zx b=true
  ·rw[if_pos h];unfold yf
   by_cases f:a.hi*2^(b.lo%16)<65536
   ·rw[if_pos ⟨f,h⟩,if_pos Zo,xl Zo f]
   ·rw[if_neg (fun k=>f k.1),if_neg Zo]
  ·rw[if_neg h,if_neg (fun k=>h k.2)]
 ·show(if zx b=true then vl (a.lo/2^(b.lo%16)) (a.hi/2^(b.lo%16)) else vl 0 a.hi)=ux a b
  unfold ux;rw[xl (aeJ _ Zo) (aeJ _ Zo),xl Zo Zo]
 ·show(if(14:Int)=14/\32768<=a.hi then zf else if zx b=true then vl (a.lo/2^(b.lo%16)) (a.hi/2^(b.lo%16)) else vl 0 a.hi)=(if 32768<=a.hi then zf else ux a b)
  unfold ux;rw[xl (aeJ _ Zo) (aeJ _ Zo),xl Zo Zo]
  by_cases h:32768<=a.hi
  ·rw[if_pos ⟨rfl,h⟩,if_pos h]
  ·rw[if_neg (fun k=>h k.2),if_neg h]
 ·rfl
 ·rfl
 ·rfl
 ·rfl
 ·rfl
 ·rfl
 ·rfl
 ·rfl
 ·rfl
 ·rfl
 ·rfl
 ·rfl
 ·rfl
structure Slv where
 r:List Rg
 kn:List Bool
def Slv.get (s:Slv)(v:Int):Rg:=s.r.getD v.toNat ⟨0,0⟩
def Slv.knw (s:Slv)(v:Int):Bool:=s.kn.getD v.toNat false
def Slv.put (s:Slv)(v:Int)(a:Rg):Slv:=⟨s.r.set v.toNat a,s.kn.set v.toNat true⟩
def tx (a b:Rg):Bool:=decide (a.lo=b.lo) && decide (a.hi=b.hi)
def afW (k:Nat)(a:Rg):Rg:=if 4<k then zf else a
def setF (k:Nat)(s:Slv)(v:Int)(a:Rg):Slv×Bool:=
 if s.knw v=true then(if tx (xr a (s.get v)) (s.get v)=true then(s,false) else(s.put v (afW k (xr a (s.get v))),true))
 else(s.put v (afW k a),true)
def rk (p:IProg)(s:Slv)(o:IOp):Rg:=
 if o.code=1 then qm o.n
 else if o.code=2 then qm (((p.data.getD o.a.toNat ⟨0,0,0⟩).addr+o.n)%65536)
 else gr o.code (s.get o.a) (s.get o.b)
def tg (k:Nat)(v:Int)(a:Rg)(q:Slv×Bool):Slv×Bool:=((setF k q.1 v a).1,q.2||(setF k q.1 v a).2)
def opS (p:IProg)(k:Nat)(q:Slv×Bool)(o:IOp):Slv×Bool:=if 0<=o.res then tg k o.res (rk p q.1 o) q else q
def af3 (k:Nat)(q:Slv×Bool)(x:Int×Int):Slv×Bool:=tg k x.1 (q.1.get x.2) q
def afR (blocks:List IBlk)(k:Nat)(q:Slv×Bool)(e:IEdge):Slv×Bool:=((xz blocks e.block).params.zip e.args).foldl (af3 k) q
def dl (p:IProg)(blocks:List IBlk)(k:Nat)(q:Slv×Bool)(b:IBlk):Slv×Bool:=b.term.to.foldl (afR blocks k) (b.ops.foldl (opS p k) q)
def goS (p:IProg)(blocks:List IBlk)(k:Nat)(q:Slv×Bool)(i:Nat):Slv×Bool:=
 ((dl p blocks k (q.1,false) (xz blocks i)).1,q.2||(dl p blocks k (q.1,false) (xz blocks i)).2)
def vu (p:IProg)(blocks:List IBlk)(order:List Nat)(k:Nat)(s:Slv):Slv×Bool:=order.foldl (goS p blocks k) (s,false)
def aeW (p:IProg)(blocks:List IBlk)(order:List Nat):Nat->Nat->Slv->Slv
 |0,_,s=>s
 |n+1,k,s=>if(vu p blocks order (k+1) s).2=true then aeW p blocks order n (k+1) (vu p blocks order (k+1) s).1 else(vu p blocks order (k+1) s).1
def ng (n:Nat)(ps:List Int):Slv:=(ps.foldl (fun q v=>tg 0 v zf q) (⟨List.replicate n ⟨0,0⟩,List.replicate n false⟩,false)).1
def qi (s:Slv):List Rg:=(s.r.zip s.kn).map fun x=>if x.2=true then x.1 else zf
structure OkS (n:Nat) (s:Slv):Prop where
 rl:s.r.length=n
 kl:s.kn.length=n
 ok:∀a∈s.r,a.ok
theorem OkS.get {n:Nat}{s:Slv}(h:OkS n s)(v:Int):(s.get v).ok:=by
 unfold Slv.get;rw[Jj]
 cases e:s.r[v.toNat]? with
 |none=>exact⟨Je _,Jt _⟩
 |some a=>exact h.ok a (Ji e)
theorem OkS.put {n:Nat}{s:Slv}(h:OkS n s)(v:Int){a:Rg}(d:a.ok):OkS n (s.put v a):=
 ⟨by show(s.r.set _ _).length=n;rw[Nd,h.rl],by show(s.kn.set _ _).length=n;rw[Nd,h.kl],fun x c=>by
   rcases Qe c with c|rfl
   ·exact h.ok x c
   ·exact d⟩
theorem kr {a b:Rg}(c:a.ok)(hb:b.ok):(xr a b).ok:=by
 have:=c.1;have:=c.2;have:=hb.1;have:=hb.2;exact⟨by show min a.lo b.lo<=max a.hi b.hi;omega,by show max a.hi b.hi<=65535;omega⟩
theorem cap_ok{a:Rg}(c:a.ok):(afW k a).ok:=by
 unfold afW
 split
 ·exact xf
 ·exact c
theorem OkS.set{n:Nat}{s:Slv}(h:OkS n s)(v:Int){a:Rg}(c:a.ok):OkS n (setF k s v a).1:=by
 unfold setF
 split
 ·split
  ·exact h
  ·exact h.put v (cap_ok (kr c (h.get v)))
 ·exact h.put v (cap_ok c)
theorem OkS.step {n k:Nat}{q:Slv×Bool}(h:OkS n q.1)(v:Int){a:Rg}(c:a.ok):OkS n (tg k v a q).1:=h.set v c
theorem Rg.ext' {a b:Rg}(d:a.lo=b.lo)(c:a.hi=b.hi):a=b:=by cases a;cases b;simp only at d c;subst d c;rfl
theorem p6 {a b:Rg}(h:tx a b=true):a=b:=by
 unfold tx at h;simp only[Jm,decide_eq_true_eq] at h;exact Rg.ext' h.1 h.2
theorem n0 (a:Rg):tx a a=true:=by simp[tx]
theorem ft{s:Slv}{v:Int}{a:Rg}(h:(setF k s v a).2=false):(setF k s v a).1=s/\s.knw v=true/\a.sub (s.get v):=by
 unfold setF at h ⊢
 by_cases d:s.knw v=true
 ·rw[if_pos d] at h ⊢
  by_cases c:tx (xr a (s.get v)) (s.get v)=true
  ·rw[if_pos c];have e:=p6 c;refine⟨rfl,d,?_,?_⟩
   ·rw[<-e];exact Nat.min_le_left _ _
   ·rw[<-e];exact Nat.le_max_left _ _
  ·rw[if_neg c] at h;cases h
 ·rw[if_neg d] at h;cases h
theorem pC{q:Slv×Bool}{v:Int}{a:Rg}(h:(tg k v a q).2=false):q.2=false/\tg k v a q=q/\q.1.knw v=true/\a.sub (q.1.get v):=by
 unfold tg at h ⊢;rw[Bool.or_eq_false_iff] at h;obtain⟨d,g,f⟩:=ft h.2;refine⟨h.1,?_,g,f⟩;obtain⟨s,c⟩:=q;simp only at h d ⊢;rw[d,h.1,h.2];rfl
def nfL:List Rg->List Bool->Nat
 |a::rs,b::bs=>(if b=true/\tx a zf=true then 0 else 1)+nfL rs bs
 |_,_=>0
def Slv.nf (s:Slv):Nat:=nfL s.r s.kn
variable {f g:Slv×Bool->Slv×Bool}
theorem nfL_le:∀(rs:List Rg) (bs:List Bool),nfL rs bs<=rs.length
 | [],_=>by simp[nfL]
 |a::rs,[]=>by simp[nfL]
 |a::rs,b::bs=>by
  have:=nfL_le rs bs;unfold nfL;rw[Nq]
  split<;>omega
theorem ac1:∀(rs:List Rg) (bs:List Bool) (v:Nat) (a:Rg),rs.length=bs.length->v<rs.length->(bs.getD v false=true->rs.getD v ⟨0,0⟩=zf->a=zf)->
 nfL (rs.set v a) (bs.set v true)<=nfL rs bs/\(a=zf->¬(bs.getD v false=true/\rs.getD v ⟨0,0⟩=zf)->nfL (rs.set v a) (bs.set v true)<nfL rs bs)
 | [],_,v,a,hl,hv,h=>by simp at hv
 |x::rs,[],v,a,hl,hv,h=>by simp at hl
 |x::rs,b::bs,0,a,hl,hv,h=>by
  simp only[Jf,nfL,List.getD_cons_zero] at h ⊢
  by_cases e:a=zf
  ·subst e;rw[if_pos ⟨trivial,n0 _⟩];refine⟨by omega,fun _ hn=>?_⟩;rw[if_neg (fun hh=>hn ⟨hh.1,p6 hh.2⟩)];omega
  ·refine⟨?_,fun h1=>absurd h1 e⟩;rw[if_neg (fun hh:b=true/\tx x zf=true=>e (h hh.1 (p6 hh.2)))]
   split<;>omega
 |x::rs,b::bs,v+1,a,hl,hv,h=>by
  simp only[Nq] at hl hv;obtain⟨t1,t2⟩:=ac1 rs bs v a Zo Zo (by simpa using h);simp only[Jg,nfL,List.getD_cons_succ];exact⟨by omega,fun h1 h2=>by have:=t2 h1 h2;omega⟩
theorem eD {a:Rg}(c:a.ok):xr a zf=zf:=by
 have:=c.2;exact Rg.ext' (by show min a.lo 0=0;omega) (by show max a.hi 65535=65535;omega)
theorem set_nf{n:Nat}{s:Slv}(h:OkS n s){v:Int}(hv:v.toNat<n){a:Rg}(g:a.ok):(setF k s v a).1.nf<=s.nf/\(4<k->(setF k s v a).2=true->(setF k s v a).1.nf<s.nf):=by
 unfold setF
 by_cases c:s.knw v=true
 ·rw[if_pos c]
  by_cases f:tx (xr a (s.get v)) (s.get v)=true
  ·rw[if_pos f];exact⟨Je _,fun _ hc=>by cases hc⟩
  ·rw[if_neg f];have d:s.get v≠zf:=fun e=>f (by rw[e,eD g];exact n0 _)
   have:=ac1 s.r s.kn v.toNat (afW k (xr a (s.get v))) (by rw[h.rl,h.kl]) (by rw[h.rl];exact hv) (fun _ e=>absurd e d);exact⟨this.1,fun hk _=>this.2 (by unfold afW;rw[if_pos hk]) (fun hh=>d hh.2)⟩
 ·rw[if_neg c];have:=ac1 s.r s.kn v.toNat (afW k a) (by rw[h.rl,h.kl]) (by rw[h.rl];exact hv) (fun e _=>absurd e c);exact⟨this.1,fun hk _=>this.2 (by unfold afW;rw[if_pos hk]) (fun hh=>c hh.1)⟩
structure Goes (n k:Nat) (f:Slv×Bool->Slv×Bool):Prop where
 ok:∀q,OkS n q.1->OkS n (f q).1
 nf:∀q,OkS n q.1->(f q).1.nf<=q.1.nf
 lt:∀q,OkS n q.1->4<k->q.2=false->(f q).2=true->(f q).1.nf<q.1.nf
 up:∀q,q.2=true->(f q).2=true
 flag:∀s c,f (s,c)=((f (s,false)).1,c||(f (s,false)).2)
theorem Goes.id (n k:Nat):Goes n k (fun q=>q):=⟨fun _ h=>h,fun _ _=>Je _,(fun q _ _ h1 h2=>by rw[h1] at h2;cases h2),fun _ h=>h,fun s c=>by simp⟩
theorem Goes.comp{n:Nat}(hf:Goes n k f)(hg:Goes n k g):Goes n k (fun q=>g (f q)) where
 ok:=fun q h=>hg.ok _ (hf.ok q h)
 nf:=fun q h=>Jn (hg.nf _ (hf.ok q h)) (hf.nf q h)
 lt:=fun q h hk h1 h2=>by
  by_cases d:(f q).2=true
  ·exact Nat.lt_of_le_of_lt (hg.nf _ (hf.ok q h)) (hf.lt q h hk h1 d)
  ·exact Jy (hg.lt _ (hf.ok q h) hk (by simpa using d) h2) (hf.nf q h)
 up:=fun q h=>hg.up _ (hf.up q h)
 flag:=fun s c=>by
  rw[hf.flag s c,hg.flag (f (s,false)).1 (c||(f (s,false)).2),hg.flag (f (s,false)).1 (f (s,false)).2,Bool.or_assoc]
theorem Goes.fold{α:Type}{n:Nat}{f:Slv×Bool->α->Slv×Bool}:∀(l:List α),(∀x∈l,Goes n k (fun q=>f q x))->Goes n k (fun q=>l.foldl f q)
 | [],_=>Goes.id n k
 |x::l,h=>Goes.comp (h x (.head _)) (Goes.fold l fun y hy=>h y (.tail _ hy))
theorem Goes.step {n k:Nat}{v:Int}(hv:v.toNat<n){a:Slv->Rg}(d:∀s,OkS n s->(a s).ok):Goes n k (fun q=>tg k v (a q.1) q) where
 ok:=fun q h=>h.step v (d _ h)
 nf:=fun q h=>(set_nf h hv (d _ h)).1
 lt:=fun q h hk h1 h2=>by
  unfold tg at h2;rw[h1,Bool.false_or] at h2;exact(set_nf h hv (d _ h)).2 hk h2
 up:=fun q h=>by unfold tg;rw[h];rfl
 flag:=fun s c=>by unfold tg;simp
def ae1 (n:Nat)(o:IOp):Prop:=0<=o.res->o.res.toNat<n/\1<=o.code/\(o.code=1->o.n<65536)
def tn (n:Nat)(blocks:List IBlk)(b:IBlk):Prop:=(∀o∈b.ops,ae1 n o)/\∀e∈b.term.to,∀v∈(xz blocks e.block).params,v.toNat<n
theorem aeQ{p:IProg}{n:Nat}{s:Slv}(h:OkS n s)(ho:ae1 n o)(g:0<=o.res):(rk p s o).ok:=by
 unfold rk;obtain⟨_,f,d⟩:=ho g
 split
 ·rename_i c;exact⟨Je _,by show o.n<=65535;have:=d c;omega⟩
 ·split
  ·exact⟨Je _,by show _%65536<=65535;omega⟩
  ·exact app_ok f (h.get _) (h.get _)
theorem goes_op{p:IProg}{n:Nat}(ho:ae1 n o):Goes n k (fun q=>opS p k q o):=by
 by_cases c:0<=o.res
 ·have:(fun q=>opS p k q o)=(fun q:Slv×Bool=>tg k o.res (rk p q.1 o) q):=by funext q;unfold opS;rw[if_pos c]
  rw[this];exact Goes.step (ho c).1 fun s hs=>aeQ hs ho c
 ·have:(fun q=>opS p k q o)=(fun q:Slv×Bool=>q):=by funext q;unfold opS;rw[if_neg c]
  rw[this];exact Goes.id n k
theorem goes_arg{n:Nat}{x:Int×Int}(c:x.1.toNat<n):Goes n k (fun q=>af3 k q x):=Goes.step (a:=fun s=>s.get x.2) c fun s hs=>hs.get _
theorem afL{n:Nat}{e:IEdge}(h:∀v∈(xz blocks e.block).params,v.toNat<n):Goes n k (fun q=>afR blocks k q e):=
 Goes.fold _ fun x hx=>goes_arg (h _ (List.of_mem_zip hx).1)
theorem aeI{p:IProg}{n:Nat}{b:IBlk}(h:tn n blocks b):Goes n k (fun q=>dl p blocks k q b):=
 Goes.comp (Goes.fold _ fun o ho=>goes_op (h.1 o ho)) (Goes.fold _ fun e he=>afL (h.2 e he))
theorem aeG{p:IProg}{n:Nat}(h:tn n blocks (xz blocks i))(q:Slv×Bool):goS p blocks k q i=dl p blocks k q (xz blocks i):=by
 obtain⟨s,c⟩:=q;exact((aeI (p:=p) (k:=k) h).flag s c).symm
theorem goes_go{p:IProg}{n:Nat}(h:tn n blocks (xz blocks i)):Goes n k (fun q=>goS p blocks k q i):=by
 have:(fun q=>goS p blocks k q i)=(fun q=>dl p blocks k q (xz blocks i)):=by funext q;exact aeG h q
 rw[this];exact aeI h
theorem n6{p:IProg}{n:Nat}{c:List Nat}(h:∀i∈c,tn n blocks (xz blocks i)):Goes n k (fun q=>c.foldl (goS p blocks k) q):=
 Goes.fold _ fun i hi=>goes_go (h i hi)
def ql (k:Nat)(s:Slv):Nat:=(4-k)+s.nf
theorem mn{p:IProg}{n:Nat}{c:List Nat}(h:∀i∈c,tn n blocks (xz blocks i)){s:Slv}(hs:OkS n s)(d:(vu p blocks c (k+1) s).2=true):
 ql (k+1) (vu p blocks c (k+1) s).1<ql k s:=by
 have hg:=n6 (p:=p) (k:=k+1) h;have g:(vu p blocks c (k+1) s).1.nf<=s.nf:=hg.nf (s,false) hs;have f:4<k+1->false=false->(vu p blocks c (k+1) s).2=true->(vu p blocks c (k+1) s).1.nf<s.nf:=hg.lt (s,false) hs;unfold ql
 by_cases hk:4<k+1
 ·have:=f hk rfl d;omega
 ·omega
def afX (p:IProg)(blocks:List IBlk)(order:List Nat)(k:Nat)(s:Slv):Slv:=aeW p blocks order (ql k s+1) k s
theorem fx{p:IProg}{n:Nat}{c:List Nat}(h:∀i∈c,tn n blocks (xz blocks i)):∀(j j' k:Nat) (s:Slv),OkS n s->ql k s<j->ql k s<j'->aeW p blocks c j k s=aeW p blocks c j' k s
 |0,_,k,s,_,h1,_=>absurd h1 (Nat.not_lt_zero _)
 |_+1,0,k,s,_,_,h1=>absurd h1 (Nat.not_lt_zero _)
 |j+1,j'+1,k,s,hs,h1,h2=>by
  unfold aeW
  split
  ·rename_i hc
   have hm:=mn h hs hc;exact fx h j j' (k+1) _ ((n6 (p:=p) (k:=k+1) h).ok (s,false) hs) Zo Zo
  ·rfl
theorem qy{p:IProg}{n:Nat}{c:List Nat}(h:∀i∈c,tn n blocks (xz blocks i)){s:Slv}(hs:OkS n s):
 afX p blocks c k s=if(vu p blocks c (k+1) s).2=true then afX p blocks c (k+1) (vu p blocks c (k+1) s).1 else(vu p blocks c (k+1) s).1:=by
 unfold afX;rw[aeW]
 split
 ·rename_i d
  have hm:=mn h hs d;exact fx h _ _ (k+1) _ ((n6 (p:=p) (k:=k+1) h).ok (s,false) hs) Zo Zo
 ·rfl
def sg (f:Slv×Bool->Slv×Bool)(P:Slv->Prop):Prop:=∀q,(f q).2=false->f q=q/\q.2=false/\P q.1
theorem sg.comp{P Q:Slv->Prop}(hf:sg f P)(hg:sg g Q):sg (fun q=>g (f q)) (fun s=>P s/\Q s):=fun q h=>by
 obtain⟨i,l,d⟩:=hg _ h;obtain⟨c,k,j⟩:=hf q l;rw[c] at i d;exact⟨by show g (f q)=q;rw[c];exact i,k,j,d⟩
theorem sg.fold {α:Type}{f:Slv×Bool->α->Slv×Bool}{P:α->Slv->Prop}:∀(l:List α),(∀x∈l,sg (fun q=>f q x) (P x))->sg (fun q=>l.foldl f q) (fun s=>∀x∈l,P x s)
 | [],_=>fun q h=>⟨rfl,h,fun x hx=>by cases hx⟩
 |x::l,h=>fun q hq=>by
  obtain⟨h1,h2,h3,h4⟩:=sg.comp (h x (.head _)) (sg.fold l fun y c=>h y (.tail _ c)) q hq
  exact⟨h1,h2,fun y c=>by
   rcases Jq.1 c with rfl|c
   ·exact h3
   ·exact h4 y c⟩
def FixOp (p:IProg)(o:IOp)(s:Slv):Prop:=0<=o.res->s.knw o.res=true/\(rk p s o).sub (s.get o.res)
def afF (x:Int×Int)(s:Slv):Prop:=s.knw x.1=true/\(s.get x.2).sub (s.get x.1)
def afV (p:IProg)(blocks:List IBlk)(b:IBlk)(s:Slv):Prop:=(∀o∈b.ops,FixOp p o s)/\∀e∈b.term.to,∀x∈(xz blocks e.block).params.zip e.args,afF x s
theorem still_op{p:IProg}:sg (fun q=>opS p k q o) (FixOp p o):=fun q h=>by
 show opS p k q o=q/\_
 have h:(opS p k q o).2=false:=h;unfold opS at h ⊢
 by_cases c:0<=o.res
 ·rw[if_pos c] at h ⊢;obtain⟨i,g,f,d⟩:=pC h;exact⟨g,i,fun _=>⟨f,d⟩⟩
 ·rw[if_neg c] at h ⊢;exact⟨rfl,h,fun hh=>absurd hh c⟩
theorem afu{x:Int×Int}:sg (fun q=>af3 k q x) (afF x):=fun q h=>by
 obtain⟨g,f,d,c⟩:=pC h;exact⟨f,g,d,c⟩
theorem afq{p:IProg}{b:IBlk}:sg (fun q=>dl p blocks k q b) (afV p blocks b):=
 sg.comp (sg.fold _ fun o _=>still_op) (sg.fold _ fun e _=>sg.fold _ fun x _=>afu)
theorem a7{p:IProg}{n:Nat}{c:List Nat}(h:∀i∈c,tn n blocks (xz blocks i)):sg (fun q=>c.foldl (goS p blocks k) q) (fun s=>∀i∈c,afV p blocks (xz blocks i) s):=
 sg.fold _ fun i hi=>by
  have:(fun q=>goS p blocks k q i)=(fun q=>dl p blocks k q (xz blocks i)):=by funext q;exact aeG (h i hi) q
  rw[this];exact afq
def pp (s t:Slv):Prop:=∀v:Int,s.knw v=true->t.knw v=true/\(s.get v=zf->t.get v=zf)
theorem pp.refl (s:Slv):pp s s:=fun v h=>⟨h,fun h=>h⟩
theorem pp.trans {s t u:Slv}(h:pp s t)(k:pp t u):pp s u:=fun v hv=>⟨(k v (h v hv).1).1,fun e=>(k v (h v hv).1).2 ((h v hv).2 e)⟩
theorem fl {n:Nat}{s:Slv}(hs:OkS n s){v:Int}(hv:v.toNat<n){a:Rg}(h:s.knw v=true->s.get v=zf->a=zf):pp s (s.put v a):=fun u hu=>by
 unfold Slv.knw Slv.get Slv.put at *;simp only[Jj] at *
 by_cases e:v.toNat=u.toNat
 ·rw[e] at hv h ⊢;rw[Nn (by rw[hs.kl];exact hv),Nn (by rw[hs.rl];exact hv)];exact⟨rfl,fun h2=>h hu h2⟩
 ·rw[Ns e,Ns e];exact⟨hu,fun h=>h⟩
theorem afs{n:Nat}{s:Slv}(hs:OkS n s){v:Int}(hv:v.toNat<n){a:Rg}(f:a.ok):pp s (setF k s v a).1:=by
 unfold setF
 by_cases d:s.knw v=true
 ·rw[if_pos d]
  by_cases c:tx (xr a (s.get v)) (s.get v)=true
  ·rw[if_pos c];exact pp.refl s
  ·rw[if_neg c];exact fl hs hv fun _ e=>absurd (show tx (xr a (s.get v)) (s.get v)=true by rw[e,eD f];exact n0 _) c
 ·rw[if_neg d];exact fl hs hv fun h=>absurd h d
structure Keeps (n:Nat) (f:Slv×Bool->Slv×Bool):Prop where
 ok:∀q,OkS n q.1->OkS n (f q).1
 kn:∀q,OkS n q.1->pp q.1 (f q).1
theorem Keeps.comp{n:Nat}(hf:Keeps n f)(hg:Keeps n g):Keeps n (fun q=>g (f q)):=
 ⟨fun q h=>hg.ok _ (hf.ok q h),fun q h=>(hf.kn q h).trans (hg.kn _ (hf.ok q h))⟩
theorem Keeps.fold {α:Type}{n:Nat}{f:Slv×Bool->α->Slv×Bool}:∀(l:List α),(∀x∈l,Keeps n (fun q=>f q x))->Keeps n (fun q=>l.foldl f q)
 | [],_=>⟨fun _ h=>h,fun q _=>pp.refl _⟩
 |x::l,h=>Keeps.comp (h x (.head _)) (Keeps.fold l fun y hy=>h y (.tail _ hy))
theorem q7{n:Nat}{v:Int}(hv:v.toNat<n){a:Slv->Rg}(c:∀s,OkS n s->(a s).ok):Keeps n (fun q=>tg k v (a q.1) q):=
 ⟨fun q h=>h.step v (c _ h),fun q h=>afs h hv (c _ h)⟩
theorem keeps_op{p:IProg}{n:Nat}(ho:ae1 n o):Keeps n (fun q=>opS p k q o):=by
 by_cases c:0<=o.res
 ·have:(fun q=>opS p k q o)=(fun q:Slv×Bool=>tg k o.res (rk p q.1 o) q):=by funext q;unfold opS;rw[if_pos c]
  rw[this];exact q7 (ho c).1 fun s hs=>aeQ hs ho c
 ·have:(fun q=>opS p k q o)=(fun q:Slv×Bool=>q):=by funext q;unfold opS;rw[if_neg c]
  rw[this];exact⟨fun _ h=>h,fun q _=>pp.refl _⟩
theorem afz{p:IProg}{n:Nat}{b:IBlk}(h:tn n blocks b):Keeps n (fun q=>dl p blocks k q b):=
 Keeps.comp (Keeps.fold _ fun o ho=>keeps_op (h.1 o ho)) (Keeps.fold _ fun e he=>Keeps.fold _ fun x hx=>q7 (a:=fun s=>s.get x.2) (h.2 e he _ (List.of_mem_zip hx).1) fun s hs=>hs.get _)
theorem ac2{p:IProg}{n:Nat}{c:List Nat}(h:∀i∈c,tn n blocks (xz blocks i)):Keeps n (fun q=>c.foldl (goS p blocks k) q):=
 Keeps.fold _ fun i hi=>by
  have:(fun q=>goS p blocks k q i)=(fun q=>dl p blocks k q (xz blocks i)):=by funext q;exact aeG (h i hi) q
  rw[this];exact afz (h i hi)
structure EndOk (p:IProg) (n:Nat) (blocks:List IBlk) (order:List Nat) (s t:Slv):Prop where
 ok:OkS n t
 kn:pp s t
 fix:∀i∈order,afV p blocks (xz blocks i) t
theorem end_ok {p:IProg}{n:Nat}{blocks:List IBlk}{c:List Nat}(h:∀i∈c,tn n blocks (xz blocks i)):∀(j k:Nat) (s:Slv),OkS n s->ql k s<j->EndOk p n blocks c s (afX p blocks c k s)
 |0,k,s,_,h1=>absurd h1 (Nat.not_lt_zero _)
 |j+1,k,s,hs,h1=>by
  rw[qy h hs];have hk:=ac2 (p:=p) (k:=k+1) h
  split
  ·rename_i d
   have:=end_ok (p:=p) h j (k+1) (vu p blocks c (k+1) s).1 (hk.ok (s,false) hs) (by have:=mn h hs d;omega);exact⟨this.ok,(hk.kn (s,false) hs).trans this.kn,this.fix⟩
  ·rename_i d
   obtain⟨g,_,f⟩:=a7 (p:=p) (k:=k+1) h (s,false) (by simpa[vu] using d)
   have e:(vu p blocks c (k+1) s).1=s:=by
    show(c.foldl (goS p blocks (k+1)) (s,false)).1=s
    have:c.foldl (goS p blocks (k+1)) (s,false)=(s,false):=g;rw[this]
   rw[e];exact⟨hs,pp.refl s,f⟩
theorem end_ok'{p:IProg}{n:Nat}{c:List Nat}(h:∀i∈c,tn n blocks (xz blocks i)){s:Slv}(hs:OkS n s):EndOk p n blocks c s (afX p blocks c k s):=end_ok h _ k s hs (Nat.lt_succ_self _)
theorem g9 (n:Nat):OkS n ⟨List.replicate n ⟨0,0⟩,List.replicate n false⟩:=
 ⟨by simp,by simp,fun a ha=>by rw[List.eq_of_mem_replicate ha];exact⟨Je _,Jt _⟩⟩
theorem mc{n:Nat}(h:∀v∈ps,v.toNat<n):Keeps n (fun q=>ps.foldl (fun q v=>tg 0 v zf q) q):=Keeps.fold _ fun v hv=>q7 (a:=fun _=>zf) (h v hv) fun _ _=>xf
theorem aeB{n:Nat}(h:∀v∈ps,v.toNat<n):OkS n (ng n ps):=(mc h).ok (_,false) (g9 n)
theorem m7 {n:Nat}{s:Slv}(hs:OkS n s){v:Int}(hv:v.toNat<n)(a:Rg):(s.put v a).knw v=true/\(s.put v a).get v=a:=by
 unfold Slv.knw Slv.get Slv.put;simp only[Jj];rw[Nn (by rw[hs.kl];exact hv),Nn (by rw[hs.rl];exact hv)];exact⟨rfl,rfl⟩
theorem i6 {n:Nat}:∀(ps:List Int) (q:Slv×Bool),OkS n q.1->(∀v∈ps,v.toNat<n)->∀v∈ps,(ps.foldl (fun q v=>tg 0 v zf q) q).1.knw v=true/\(ps.foldl (fun q v=>tg 0 v zf q) q).1.get v=zf
 | [],q,hq,h,v,hv=>by cases hv
 |u::ps,q,hq,h,v,hv=>by
  have hk:=(q7 (k:=0) (a:=fun _=>zf) (h u (.head _)) (fun _ _=>xf)).ok q hq;rcases Jq.1 hv with rfl|hv
  ·have c:(tg 0 v zf q).1.knw v=true/\(tg 0 v zf q).1.get v=zf:=by
    show(setF 0 q.1 v zf).1.knw v=true/\(setF 0 q.1 v zf).1.get v=zf
    unfold setF
    have f:xr zf (q.1.get v)=zf:=by
     have:=(hq.get v).2;exact Rg.ext' (by show min 0 _=0;omega) (by show max 65535 _=65535;omega)
    by_cases c:q.1.knw v=true
    ·rw[if_pos c]
     split
     ·rename_i d
      have:=p6 d;exact⟨c,by rw[<-this];exact f⟩
     ·rw[f];exact m7 hq (h v (.head _)) _
    ·rw[if_neg c];exact m7 hq (h v (.head _)) _
   have d:=(mc (n:=n) (ps:=ps) fun x hx=>h x (.tail _ hx)).kn _ hk v c.1;exact⟨d.1,d.2 c.2⟩
  ·exact i6 ps _ hk (fun x hx=>h x (.tail _ hx)) v hv
theorem aeV{n:Nat}(h:∀v∈ps,v.toNat<n):∀v∈ps,(ng n ps).knw v=true/\(ng n ps).get v=zf:=i6 ps _ (g9 n) h
theorem fill_len {n:Nat}{s:Slv}(h:OkS n s):(qi s).length=n:=by
 unfold qi;rw[Nr,List.length_zip,h.rl,h.kl,Nat.min_self]
theorem fill_get {n:Nat}{s:Slv}(h:OkS n s){v:Nat}(hv:v<n):(qi s)[v]? =some (if s.knw (v:Int)=true then s.get (v:Int) else zf):=by
 have f:v<s.r.length:=by rw[h.rl];exact hv
 have d:v<s.kn.length:=by rw[h.kl];exact hv
 have c:(s.r.zip s.kn)[v]? =some (s.r[v],s.kn[v]):=by
  rw[Jd (by rw[List.length_zip];omega)];simp
 unfold qi Slv.knw Slv.get;rw[Jr,c,Ni,Jj,Jj,Jd f,Jd d];rfl
def mT (call:Int->List Nat->Mach->Res Nat):Prop:=∀f args m x m',call f args m=.ok x m'->m'.fuel<=m.fuel
theorem nV{E:IEnv}{a b:Nat}(h:mU E o a b m=.ok x m'):m'.fuel<=m.fuel:=by
 unfold mU at h;have c:∀ {y:Nat} {m1:Mach},(Res.ok y m1:Res Nat)=.ok x m'->m1.fuel=m.fuel->m'.fuel<=m.fuel:=fun h e=>by cases h;omega
 by_cases c1:o.code=1;· rw[if_pos c1] at h;exact c h rfl
 rw[if_neg c1] at h;by_cases c2:o.code=2;· rw[if_pos c2] at h;exact c h rfl
 rw[if_neg c2] at h;by_cases c3:o.code=3;· rw[if_pos c3] at h;exact c h rfl
 rw[if_neg c3] at h;by_cases c4:o.code=4;· rw[if_pos c4] at h;exact c h rfl
 rw[if_neg c4] at h;by_cases q:o.code=18
 ·rw[if_pos q] at h;unfold pR at h;split at h
  ·split at h
   ·exact c h rfl
   ·cases h
  ·cases h
 rw[if_neg q] at h;by_cases l:o.code=19
 ·rw[if_pos l] at h;unfold abh at h;split at h
  ·exact c h rfl
  ·cases h
 rw[if_neg l] at h;by_cases k:o.code=20
 ·rw[if_pos k] at h;unfold sK at h;split at h
  ·split at h
   ·exact c h rfl
   ·cases h
  ·cases h
 rw[if_neg k] at h;by_cases j:o.code=21
 ·rw[if_pos j] at h;unfold td at h;split at h
  ·exact c h rfl
  ·cases h
 rw[if_neg j] at h;by_cases i:o.code=22
 ·rw[if_pos i] at h;unfold im at h;split at h
  ·split at h
   ·exact c h rfl
   ·cases h
  ·cases h
 rw[if_neg i] at h;by_cases g:o.code=23
 ·rw[if_pos g] at h;unfold nX at h;split at h
  ·exact c h rfl
  ·cases h
 rw[if_neg g] at h;by_cases f:o.code=24
 ·rw[if_pos f] at h;unfold uq at h;split at h
  ·exact c h rfl
  ·exact c h rfl
 rw[if_neg f] at h;by_cases d:o.code=25
 ·rw[if_pos d] at h;exact c h rfl
 rw[if_neg d] at h;unfold iy at h;split at h
 ·cases h
 ·exact c h rfl
theorem pI{E:IEnv}{c:Int->List Nat->Mach->Res Nat}(g:mT c){v:Int->Nat}(h:oV E c o v m=.ok x m'):m'.fuel<=m.fuel:=by
 unfold oV at h
 by_cases f:o.code=26
 ·rw[if_pos f] at h;exact g _ _ _ _ _ h
 ·rw[if_neg f] at h
  by_cases d:o.code=27
  ·rw[if_pos d] at h;unfold tY at h
   split at h
   ·split at h
    ·split at h
     ·rename_i i;cases h;have:=g _ _ _ _ _ i;exact this
     ·cases h
    ·cases h;exact Og _
   ·cases h;exact Og _
  ·rw[if_neg d] at h;exact nV h
theorem nK {E:IEnv}{c:Int->List Nat->Mach->Res Nat}(d:mT c):∀ {ops:List IOp} {v v':Int->Nat} {m m':Mach},iq E c ops v m=.ok v' m'->m'.fuel<=m.fuel
 | [],v,v',m,m',h=>by cases h;exact Og _
 |o::os,v,v',m,m',h=>by
  unfold iq at h
  split at h
  ·cases h
  ·split at h
   ·rename_i h2
    have h3:=pI d h2;have f:=nK d h;simp only[Mach.pay] at h3;omega
   ·cases h
theorem rt{E:IEnv}{c:Int->List Nat->Mach->Res Nat}(d:mT c):∀ {n:Nat} {a:Int} {args:List Nat} {v:Int->Nat} {m m':Mach} {x:Nat},tJ E c blocks n a args v m=.ok x m'->m'.fuel<=m.fuel
 |0,a,args,v,m,m',x,h=>by cases h
 |n+1,a,args,v,m,m',x,h=>by
  unfold tJ at h
  split at h
  ·cases h
  ·rename_i h2
   have h3:=nK d h2
   split at h
   ·cases h
   ·split at h
    ·cases h;simp only[Mach.pay];omega
    ·split at h
     ·cases h
     ·have f:=rt d h;simp only[Mach.pay] at f;omega
theorem pO (E:IEnv):∀r,mT (xW E r)
 |0=>fun f args m x m' h=>by cases h
 |r+1=>fun f args m x m' h=>by
  unfold xW at h
  split at h
  ·cases h
  ·exact rt (pO E r) h
end Go.Proofs.Ytoahcpkibpomcaa
