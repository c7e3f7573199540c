/- Part of a proof. -/
import Derived.Test.YtoahcpkibpomcaaGreatGCal1
import Derived.Test.YtoahcpkibpomcaaGreatGZo1
set_option linter.all false
set_option maxHeartbeats 2000000
set_option maxRecDepth 100000
namespace Go.Proofs.YtoahcpkibpomcaaGreat
variable {l:List (Nat×Nat)}{m m':Mach}{i j oc tg u x:Nat}{c dp k k':Int}{o:IOp}{blocks f':List IBlk}{b':IBlk}{g:List (List Nat)}{d:wO}{t:ITerm}{P':Nat->Prop}{M:MS}{Df:Int->Int->Int->Prop}{w w' w0 w2:World}{K:MK}{oa:Option Addr}{vs:List Value}
structure RepF where
 R:List Rg
 objs:List Int
 szs:List Int
 data:List IObj
def afv (T:RepF)(a b:Nat×Nat):Prop:=
 (a.1=254->a.2<T.R.length/\b.1=255/\(T.R.getD a.2 ⟨0,0⟩).has b.2)/\
 (a.1=253->a.2<T.objs.length/\a.2<T.szs.length/\b.1=252/\(T.objs.getD a.2 0=-1∨((0<=T.objs.getD a.2 0/\(T.objs.getD a.2 0).toNat<T.data.length)/\(T.data.getD (T.objs.getD a.2 0).toNat ⟨0,0,0⟩).bank=-1/\(T.data.getD (T.objs.getD a.2 0).toNat ⟨0,0,0⟩).addr<=b.2/\(b.2:Int)+T.szs.getD a.2 0<=(T.data.getD (T.objs.getD a.2 0).toNat ⟨0,0,0⟩).addr+(T.data.getD (T.objs.getD a.2 0).toNat ⟨0,0,0⟩).size)))
def aeQ (T:RepF):List (Nat×Nat)->Prop
 | []=>True
 | [_]=>True
 |a::b::l=>afv T a b/\aeQ T (b::l)
def outLast (l:List (Nat×Nat)):Prop:=∀e,l.getLast? =some e->e.1≠254/\e.1≠253
def afM (T:RepF)(l:List (Nat×Nat)):Prop:=aeQ T l/\outLast l
theorem akL {T:RepF}{a b:Nat×Nat}(h:a.1≠254/\a.1≠253):afv T a b:=⟨fun e=>absurd e h.1,fun e=>absurd e h.2⟩
theorem ahC {T:RepF}{e:Nat×Nat}:∀(l:List (Nat×Nat)),aeQ T l->(∀a,l.getLast? =some a->afv T a e)->aeQ T (l++ [e])
 | [],_,_=>trivial
 | [a],_,h=>⟨h a rfl,trivial⟩
 |a::b::l,h1,h2=>⟨h1.1,ahC (b::l) h1.2 fun x hx=>h2 x (by rw[List.getLast?_cons_cons];exact hx)⟩
theorem ahm{T:RepF}(h:afM T l)(e:Nat×Nat):aeQ T (l++ [e]):=ahC l h.1 fun a ha=>akL (h.2 a ha)
theorem akz{T:RepF}(h:afM T l){e:Nat×Nat}(c:e.1≠254/\e.1≠253):afM T (l++ [e]):=
 ⟨ahm h e,fun a ha=>by rw[List.getLast?_concat] at ha;cases ha;exact c⟩
theorem akf{T:RepF}(h:afM T l){a b:Nat×Nat}(c:afv T a b)(hb:b.1≠254/\b.1≠253):afM T (l++ [a]++ [b]):=
 ⟨ahC _ (ahm h a) fun x hx=>by rw[List.getLast?_concat] at hx;cases hx;exact c,fun x hx=>by rw[List.getLast?_concat] at hx;cases hx;exact hb⟩
theorem good_nil (T:RepF):afM T []:=⟨trivial,fun e h=>by cases h⟩
structure MG (T:RepF) (m:Mach):Prop where
 out:afM T m.out
 ram:∀b∈m.ram,b<256
theorem MG.pay{T:RepF}(h:MG T m):MG T m.pay:=⟨h.out,h.ram⟩
theorem MG.put{T:RepF}(h:MG T m){a:Nat}(c:x<256):MG T (m.put a x):=⟨h.out,fun b hb=>by
 rcases Qe hb with hb|rfl
 ·exact h.ram b hb
 ·exact c⟩
theorem MG.at{T:RepF}(h:MG T m)(a:Nat):tC m a<256:=by
 unfold tC;rw[Jj]
 cases e:m.ram[a-16384]? with
 |none=>exact Nat.zero_lt_succ _
 |some b=>exact h.ram b (Ji e)
theorem akk (E:IEnv)(b a:Nat):tS E b a<256:=UInt8.toNat_lt _
def afa (T:RepF)(P:Nat->Prop):Res Nat->Prop
 |.ok x m=>P x/\MG T m
 |.trap _ _ m=>aeQ T m.out
abbrev akA (x:Nat):Prop:=x<65536
def akX (E:IEnv):Prop:=∀x∈E.inn,x<65536
theorem load_ok{T:RepF}(h:MG T m)(a:Nat):afa T akA (pR m a):=by
 unfold pR;have h1:=h.at a;have h2:=h.at (aeA a)
 split
 ·split
  ·exact⟨by show _<65536;omega,h⟩
  ·exact h.out.1
 ·exact h.out.1
theorem loadb_ok{T:RepF}(h:MG T m)(a:Nat):afa T (fun x=>x<256) (abh m a):=by
 unfold abh
 split
 ·exact⟨h.at a,h⟩
 ·exact h.out.1
theorem store_ok{T:RepF}(h:MG T m)(a:Nat)(c:x<65536):afa T akA (afW m a x):=by
 unfold afW
 split
 ·split
  ·exact⟨by decide,(h.put Zo).put Zo⟩
  ·exact h.out.1
 ·exact h.out.1
theorem aj6{T:RepF}(h:MG T m)(a x:Nat):afa T akA (td m a x):=by
 unfold td
 split
 ·exact⟨by decide,h.put Zo⟩
 ·exact h.out.1
theorem romr_ok{T:RepF}{E:IEnv}(h:MG T m)(b a:Nat):afa T akA (im E m b a):=by
 unfold im;have h1:=akk E b a;have h2:=akk E b (aeA a)
 split
 ·split
  ·exact⟨by show _<65536;omega,h⟩
  ·exact h.out.1
 ·exact h.out.1
theorem romb_ok{T:RepF}{E:IEnv}(h:MG T m)(b a:Nat):afa T (fun x=>x<256) (nX E m b a):=by
 unfold nX
 split
 ·exact⟨akk E b a,h⟩
 ·exact h.out.1
theorem input_ok{T:RepF}{E:IEnv}(c:akX E)(h:MG T m):afa T akA (uq E m):=by
 unfold uq
 split
 ·refine⟨?_,⟨h.out,h.ram⟩⟩
  show _<65536
  rw[Jj]
  cases e:E.inn[m.inputs]? with
  |none=>exact Nat.zero_lt_succ _
  |some b=>exact c b (Ji e)
 ·exact⟨by decide,h⟩
theorem div_ok{T:RepF}(h:MG T m)(g:5<=c/\c<=17){a b:Nat}(i:a<65536)(hb:b<65536):afa T (fun x=>x=aeR c a b/\¬(c=8/\b=0)) (iy m c a b):=by
 unfold iy
 split
 ·exact h.out.1
 ·rename_i d
  exact⟨⟨by unfold aeR;rw[if_neg Zo,if_neg Zo],d⟩,h⟩
theorem afa.mono {T:RepF}{P Q:Nat->Prop}{r:Res Nat}(h:afa T P r)(c:∀x,P x->Q x):afa T Q r:=by
 cases r with
 |ok x m=>exact⟨c x h.1,h.2⟩
 |trap k i m=>exact h
theorem plain_in{T:RepF}{E:IEnv}(hE:akX E)(h:MG T m)(hc:1<=o.code/\o.code<=25)(hp:o.code=25->o.n≠254/\o.n≠253){a b:Nat}(ha:a<65536)(hb:b<65536){A B:Rg}(hA:A.ok)(hB:B.ok)
 (d:(zi o.code).a=true->A.has a) (hy:(zi o.code).b=true->B.has b) (hn:o.n<65536):
 afa T (fun x=>x<65536/\((if o.code=1 then ahH o.n else if o.code=2 then ahH (((E.p.data.getD o.a.toNat ⟨0,0,0⟩).addr+o.n)%65536) else ahG o.code A B)).has x) (mU E o a b m):=by
 have g:∀x,x<65536->af6 o.code A B=none->(ahG o.code A B).has x:=fun x d hr=>by
  unfold ahG;rw[hr];exact aeG d
 unfold mU
 by_cases h1:o.code=1
 ·rw[if_pos h1,if_pos h1];exact⟨⟨hn,afo _⟩,h⟩
 by_cases h2:o.code=2
 ·rw[if_neg h1,if_pos h2,if_neg h1,if_pos h2];exact⟨⟨Qj _ Zd,afo _⟩,h⟩
 rw[if_neg h1,if_neg h2,if_neg h1,if_neg h2]
 by_cases h3:o.code=3
 ·rw[if_pos h3];have:=aiv (c:=o.code) Zo (d (by rw[h3];rfl)) (y:=b) (b:=B) (.inr (.inl h3)) hb hA hB Zo;have e:aeR o.code a b=(65536-a)%65536:=by unfold aeR;rw[if_pos h3]
  rw[e] at this;exact⟨⟨Qj _ Zd,this⟩,h⟩
 rw[if_neg h3]
 by_cases j:o.code=4
 ·rw[if_pos j];have:=aiv (c:=o.code) Zo (d (by rw[j];rfl)) (y:=b) (b:=B) (.inr (.inr j)) hb hA hB Zo;have e:aeR o.code a b=65535-a:=by unfold aeR;rw[if_neg h3,if_pos j]
  rw[e] at this;exact⟨⟨by omega,this⟩,h⟩
 rw[if_neg j]
 by_cases a1:o.code=18
 ·rw[if_pos a1];exact(load_ok h a).mono fun x d=>⟨d,g x d (by rw[a1];rfl)⟩
 rw[if_neg a1]
 by_cases a0:o.code=19
 ·rw[if_pos a0];refine(loadb_ok h a).mono fun x d=>⟨by omega,?_⟩
  have:ahG o.code A B=⟨0,255⟩:=by rw[a0];rfl
  rw[this];exact⟨Jt _,by show x<=255;omega⟩
 rw[if_neg a0]
 by_cases w:o.code=20
 ·rw[if_pos w];exact(store_ok h a hb).mono fun x d=>⟨d,g x d (by rw[w];rfl)⟩
 rw[if_neg w]
 by_cases u:o.code=21
 ·rw[if_pos u];exact(aj6 h a b).mono fun x d=>⟨d,g x d (by rw[u];rfl)⟩
 rw[if_neg u]
 by_cases t:o.code=22
 ·rw[if_pos t];exact(romr_ok h o.n a).mono fun x d=>⟨d,g x d (by rw[t];rfl)⟩
 rw[if_neg t]
 by_cases l:o.code=23
 ·rw[if_pos l];refine(romb_ok h o.n a).mono fun x d=>⟨by omega,?_⟩
  have:ahG o.code A B=⟨0,255⟩:=by rw[l];rfl
  rw[this];exact⟨Jt _,by show x<=255;omega⟩
 rw[if_neg l]
 by_cases k:o.code=24
 ·rw[if_pos k];exact(input_ok hE h).mono fun x d=>⟨d,g x d (by rw[k];rfl)⟩
 rw[if_neg k]
 by_cases i:o.code=25
 ·rw[if_pos i];exact⟨⟨by decide,g 0 Zd (by rw[i];rfl)⟩,⟨akz h.out (hp i),h.ram⟩⟩
 rw[if_neg i];have a3:5<=o.code/\o.code<=17:=Zo;refine(div_ok h a3 ha hb).mono fun x hx2=>?_
 obtain⟨rfl,hd⟩:=hx2
 have a2:zi o.code=⟨true,true,true,true,false⟩:=by
  unfold zi;rw[if_neg Zo,if_neg Zo,if_pos a3]
 exact⟨agR Zo ha hb hd,aiv Zo (d (by rw[a2])) (.inl (hy (by rw[a2]))) hb hA hB hd⟩
open Go.RowKit
theorem iH (E:IEnv)(bank a:Nat):agu E bank a=true↔bank<E.p.banks.length/\a<4096:=by unfold agu;rw[Jm,decide_eq_true_eq,decide_eq_true_eq]
def fB (f:List IBlk)(v:Int)(i:Nat)(k:Int):Prop:=
 ∃b,f[i]? =some b/\((k=-1/\v∈b.params)∨∃(j:Nat) (o:IOp),k=(j:Int)/\b.ops[j]? =some o/\o.res=v/\0<=v)
def aeI (f f':List IBlk):Prop:=
 ∀(i:Nat) (b:IBlk),f[i]? =some b->∃b',f'[i]? =some b'/\b'.params=b.params/\b.ops<+:b'.ops/\(b.term.to=[]∨b'.term=b.term)
theorem aeI.refl (f:List IBlk):aeI f f:=fun i b h=>⟨b,h,rfl,Od,.inr rfl⟩
theorem aaS{α:Type}{l m:List α}(h:l<+:m){x:α}(c:l[j]? =some x):m[j]? =some x:=by
 obtain⟨t,rfl⟩:=h;rw[Np (Jh.1 c).1];exact c
theorem fB.ext{f:List IBlk}(d:aeI f f'){v:Int}(h:fB f v i k):fB f' v i k:=by
 obtain⟨b,hb,l⟩:=h;obtain⟨b',c,hp,ho,_⟩:=d i b hb;refine⟨b',c,?_⟩;rcases l with⟨rfl,hv⟩|⟨j,o,rfl,g,hr,m⟩
 ·exact .inl ⟨rfl,by rw[hp];exact hv⟩
 ·exact .inr ⟨j,o,rfl,aaS ho g,hr,m⟩
inductive Abv (pl:List Nat):Nat->Nat->Prop
 |refl (i:Nat):Abv pl i i
 |up {b i u:Nat}:pl[i]? =some u->0<i->Abv pl b u->Abv pl b i
theorem Abv.ext{pl c:List Nat}(hp:pl<+:c){b:Nat}(h:Abv pl b i):Abv c b i:=by
 induction h with
 |refl=>exact .refl _
 |up h0 h1 _ ih=>exact .up (aaS hp h0) h1 ih
theorem Abv.trans {pl:List Nat}{a b c:Nat}(h:Abv pl a b)(k:Abv pl b c):Abv pl a c:=by
 induction k with
 |refl=>exact h
 |up h0 h1 _ ih=>exact .up h0 h1 ih
theorem Abv.le{pl:List Nat}(hp:∀i u,pl[i]? =some u->0<i->u<i){b:Nat}(h:Abv pl b i):b<=i:=by
 induction h with
 |refl=>exact Je _
 |up h0 h1 _ ih=>have:=hp _ _ h0 h1;omega
def Kn (f:List IBlk)(pl:List Nat)(v:Int)(i:Nat)(k:Int):Prop:=∃(b:Nat) (a:Int),fB f v b a/\Abv pl b i/\(b=i->a<k)
theorem Kn.ext{f:List IBlk}{pl c:List Nat}(d:aeI f f')(hp:pl<+:c){v:Int}(hk:k<=k')(h:Kn f pl v i k):Kn f' c v i k':=by
 obtain⟨b,a,h1,h2,h3⟩:=h;exact⟨b,a,h1.ext d,h2.ext hp,fun e=>by have:=h3 e;omega⟩
def gB (f:List IBlk)(pl:List Nat)(i:Nat)(e:IEdge):Prop:=
 ∃(s u:Nat) (bs:IBlk),e.block=(s:Int)/\0<s/\f[s]? =some bs/\e.args.length=bs.params.length/\pl[s]? =some u/\Abv pl u i
theorem gB.ext{f:List IBlk}{pl c:List Nat}(j:aeI f f')(hp:pl<+:c){e:IEdge}(h:gB f pl i e):gB f' c i e:=by
 obtain⟨s,u,bs,h1,h2,h3,m,l,k⟩:=h;obtain⟨b',g,d,_⟩:=j s bs h3;exact⟨s,u,b',h1,h2,g,by rw[d];exact m,aaS hp l,k.ext hp⟩
def gR (t:ITerm):Bool:=
 if t.kind=1 then decide (t.to.length=1) && decide (t.a=0)
 else if t.kind=2 then decide (t.to.length=2)
 else if t.kind=3 then decide (1<=t.to.length)
 else if t.kind=4 then decide (t.to.length=0)
 else if t.kind=5 then decide (t.to.length=0) && decide (t.a=0)
 else false
def fQ (f:List IBlk)(pl:List Nat)(i:Nat)(b:IBlk):Prop:=
 gR b.term=true/\(∀e∈b.term.to,gB f pl i e)/\∀v∈mE b.term,Kn f pl v i b.ops.length
theorem fQ.ext{f:List IBlk}{pl c:List Nat}(d:aeI f f')(hp:pl<+:c){b:IBlk}(h:fQ f pl i b):fQ f' c i b:=
 ⟨h.1,fun e he=>(h.2.1 e he).ext d hp,fun v hv=>(h.2.2 v hv).ext d hp (Og _)⟩
inductive Rch (f:List IBlk):Nat->Prop
 |zero:Rch f 0
 |step {u s:Nat} {b:IBlk} {e:IEdge}:Rch f u->f[u]? =some b->e∈b.term.to->e.block=(s:Int)->Rch f s
theorem Rch.ext{f:List IBlk}(d:aeI f f')(h:Rch f i):Rch f' i:=by
 induction h with
 |zero=>exact .zero
 |step _ h2 h3 h4 ih=>
  obtain⟨b',c,_,_,ht⟩:=d _ _ h2;rcases ht with ht|ht
  ·rw[ht] at h3;cases h3
  ·exact .step ih c (by rw[ht];exact h3) h4
def abo (l:List IOp):List Int:=(l.filter fun o=>decide (0<=o.res)).map (·.res)
def abu (b:IBlk):List Int:=b.params++abo b.ops
def aaI (f:List IBlk):List Int:=f.flatMap abu
theorem eY {f:List IBlk}{c:Nat}{b:IBlk}(hb:f[c]? =some b)(b':IBlk):f=f.take c++b::f.drop (c+1)/\f.set c b'=f.take c++b'::f.drop (c+1):=by
 obtain⟨d,g⟩:=Jh.1 hb;refine⟨by rw[<-g,Ue,Qi],?_⟩;rw[List.set_eq_take_append_cons_drop,if_pos d]
theorem fF{f:List IBlk}{c:Nat}{b:IBlk}(hb:f[c]? =some b){x:List Int}(d:abu b'=abu b++x):(aaI (f.set c b')).Perm (x++aaI f):=by
 obtain⟨h1,h2⟩:=eY hb b';unfold aaI;rw[h2]
 conv=>rhs;rw[h1]
 rw[Nx,Qa,Nx,Qa,d]
 classical
 refine Jp.2 fun y=>?_
 simp only[Nb];omega
theorem fK (l m:List IOp):abo (l++m)=abo l++abo m:=by unfold abo;rw[List.filter_append,Js]
structure MInv (p:IProg) (f:List IBlk) (cur next:Nat) (vals:List Int) (O P:Nat->Prop) (pl:List Nat):Prop where
 len:pl.length=f.length
 curl:cur<f.length
 par:∀i u,pl[i]? =some u->0<i->u<i
 ops:∀(i:Nat) (b:IBlk),f[i]? =some b->∀(j:Nat) (o:IOp),b.ops[j]? =some o->opF p o=true/\∀v∈rR o,Kn f pl v i j
 term:∀(i:Nat) (b:IBlk),f[i]? =some b->¬O i->fQ f pl i b
 opn:∀(i:Nat) (b:IBlk),f[i]? =some b->O i->b.term.to=[]
 lt:∀i,O i->i<f.length
 known:∀v∈vals,∀b,f[cur]? =some b->Kn f pl v cur b.ops.length
 nd:(aaI f).Nodup
 rng:∀v∈aaI f,0<=v/\v<(next:Int)
 rch:∀i,i<f.length->¬P i->Rch f i
 sml:∀(i:Nat) (b:IBlk),f[i]? =some b->b.params.length<=3/\b.term.to.length<=4
abbrev aaz (p:IProg)(M:MS)(O P:Nat->Prop)(pl:List Nat):Prop:=MInv p M.f M.cur M.next M.vals O P pl
theorem g7{f:List IBlk}{c:Nat}{b:IBlk}(hb:f[c]? =some b)(hp:b'.params=b.params)(ho:b.ops<+:b'.ops)(ht:b.term.to=[]∨b'.term=b.term):aeI f (f.set c b'):=fun i x hx=>by
 by_cases e:c=i
 ·subst e;rw[hb] at hx;cases hx;exact⟨b',Nn (Jh.1 hb).1,hp,ho,ht⟩
 ·exact⟨x,by rw[Ns e];exact hx,rfl,Od,.inr rfl⟩
theorem abj (f g:List IBlk):aeI f (f++g):=fun i b hb=>⟨b,by rw[Np (Jh.1 hb).1];exact hb,rfl,Od,.inr rfl⟩
theorem abp{f:List IBlk}{c:Nat}{b x:IBlk}(hb:f[c]? =some b)(h:(f.set c b')[i]? =some x):(i=c/\x=b')∨(i≠c/\f[i]? =some x):=by
 by_cases e:c=i
 ·subst e;rw[Nn (Jh.1 hb).1] at h;cases h;exact .inl ⟨rfl,rfl⟩
 ·rw[Ns e] at h;exact .inr ⟨fun h=>e h.symm,h⟩
section
variable {p:IProg} {f:List IBlk} {cur next:Nat} {vals:List Int} {O P:Nat->Prop} {pl:List Nat} (h:MInv p f cur next vals O P pl)
include h
theorem MInv.get:∃b,f[cur]? =some b:=⟨_,Jd h.curl⟩
theorem MInv.push{b:IBlk}(hb:f[cur]? =some b)(a0:O cur)(ho:opF p o=true)(hu:∀v∈rR o,Kn f pl v cur b.ops.length){g:Nat}{d:List Int}(m:(o.res=(next:Int)/\g=next+1/\d=vals++ [o.res])∨(o.res<0/\g=next/\d=vals)):
 MInv p (f.set cur {b with ops:=b.ops++ [o]}) cur g d O P pl:=by
 have w:aeI f (f.set cur {b with ops:=b.ops++ [o]}):=g7 hb rfl (Qb _ _) (.inr rfl);have k:pl<+:pl:=Od
 have a2:abu {b with ops:=b.ops++ [o]}=abu b++abo [o]:=by
  unfold abu;simp only;rw[fK,Nv]
 have u:=fF hb a2;have t:(f.set cur {b with ops:=b.ops++ [o]})[cur]? =some {b with ops:=b.ops++ [o]}:=Nn h.curl;refine⟨by rw[Nd];exact h.len,by rw[Nd];exact h.curl,h.par,?_,?_,?_,fun i hi=>by rw[Nd];exact h.lt i hi,?_,?_,?_,?_,?_⟩
 ·intro i x c j y l;rcases abp hb c with⟨rfl,rfl⟩|⟨_,c⟩
  ·simp only at l
   by_cases hj:j<b.ops.length
   ·rw[Np hj] at l;obtain⟨h1,h2⟩:=h.ops _ b hb j y l;exact⟨h1,fun v hv=>(h2 v hv).ext w k (Og _)⟩
   ·have a3:j=b.ops.length:=by
     have:=(Jh.1 l).1;simp at this;omega
    subst a3;rw[Nc (Je _),Qy] at l;cases l;exact⟨ho,fun v hv=>(hu v hv).ext w k (Og _)⟩
  ·obtain⟨h1,h2⟩:=h.ops i x c j y l;exact⟨h1,fun v hv=>(h2 v hv).ext w k (Og _)⟩
 ·intro i x c hO;rcases abp hb c with⟨rfl,rfl⟩|⟨_,c⟩
  ·exact absurd a0 hO
  ·exact(h.term i x c hO).ext w k
 ·intro i x c hO;rcases abp hb c with⟨rfl,rfl⟩|⟨_,c⟩
  ·exact h.opn _ b hb hO
  ·exact h.opn i x c hO
 ·intro v hv x a1;rw[t] at a1;cases a1;have old:v∈vals->Kn (f.set cur {b with ops:=b.ops++ [o]}) pl v cur ((b.ops++ [o]).length:Nat):=fun hv=>(h.known v hv b hb).ext w k Zt
  rcases m with⟨h1,h2,rfl⟩|⟨h1,h2,rfl⟩
  ·rcases Jl.1 hv with hv|hv
   ·exact old hv
   ·rw[Jo] at hv;subst hv;refine⟨cur,(b.ops.length:Int),⟨_,t,.inr ⟨b.ops.length,o,rfl,?_,rfl,by omega⟩⟩,.refl _,fun _=>by simp;omega⟩;simp
  ·exact old hv
 ·refine u.nodup_iff.2 ?_;rcases m with⟨h1,h2,_⟩|⟨h1,h2,_⟩
  ·have e:abo [o]=[o.res]:=by unfold abo;rw[List.filter_cons_of_pos Zt];rfl
   rw[e];refine Qt.2 ⟨fun hm=>?_,h.nd⟩;have:=(h.rng _ hm).2;omega
  ·have e:abo [o]=[]:=by unfold abo;rw[List.filter_cons_of_neg Zt];rfl
   rw[e];exact h.nd
 ·intro v hv;rw[u.mem_iff] at hv;rcases m with⟨h1,h2,_⟩|⟨h1,h2,_⟩
  ·have e:abo [o]=[o.res]:=by unfold abo;rw[List.filter_cons_of_pos Zt];rfl
   rw[e] at hv;rcases Jl.1 hv with hv|hv
   ·rw[Jo] at hv;omega
   ·have:=h.rng v hv;omega
  ·have e:abo [o]=[]:=by unfold abo;rw[List.filter_cons_of_neg Zt];rfl
   rw[e] at hv;have:=h.rng v hv;omega
 ·intro i hi hP;rw[Nd] at hi;exact(h.rch i hi hP).ext w
 ·intro i x c;rcases abp hb c with⟨rfl,rfl⟩|⟨_,c⟩
  ·exact h.sml _ b hb
  ·exact h.sml i x c
theorem MInv.close{b:IBlk}(hb:f[cur]? =some b)(m:O cur)(hk:gR t=true)(h4:t.to.length<=4)(he:∀e∈t.to,gB f pl cur e)(hv:∀v∈mE t,Kn f pl v cur b.ops.length)(hc:¬P cur)(hP:∀i,P i->P' i∨∃e∈t.to,e.block=(i:Int)):
 MInv p (f.set cur {b with term:=t }) cur next vals (fun i=>O i/\i≠cur) P' pl:=by
 have g:aeI f (f.set cur {b with term:=t }):=g7 hb rfl Od (.inl (h.opn _ b hb m));have d:pl<+:pl:=Od;have l:=fF (b':= {b with term:=t }) hb (x:=[]) (by unfold abu;simp);have k:(f.set cur {b with term:=t })[cur]? =some {b with term:=t }:=Nn h.curl;refine⟨by rw[Nd];exact h.len,by rw[Nd];exact h.curl,h.par,?_,?_,?_,fun i hi=>by rw[Nd];exact h.lt i hi.1,?_,l.nodup_iff.2 h.nd,fun v hv=>h.rng v (l.mem_iff.1 hv),?_,?_⟩
 ·intro i x c j y hy;rcases abp hb c with⟨rfl,rfl⟩|⟨_,c⟩
  ·obtain⟨h1,h2⟩:=h.ops _ b hb j y hy;exact⟨h1,fun v hv=>(h2 v hv).ext g d (Og _)⟩
  ·obtain⟨h1,h2⟩:=h.ops i x c j y hy;exact⟨h1,fun v hv=>(h2 v hv).ext g d (Og _)⟩
 ·intro i x c o;rcases abp hb c with⟨rfl,rfl⟩|⟨a0,c⟩
  ·exact⟨hk,fun e h1=>(he e h1).ext g d,fun v h1=>(hv v h1).ext g d (Og _)⟩
  ·exact(h.term i x c (fun e=>o ⟨e,a0⟩)).ext g d
 ·intro i x c o;rcases abp hb c with⟨rfl,rfl⟩|⟨_,c⟩
  ·exact absurd rfl o.2
  ·exact h.opn i x c o.1
 ·intro v hv x u;rw[k] at u;cases u;exact(h.known v hv b hb).ext g d (Og _)
 ·intro i hi a1;rw[Nd] at hi
  by_cases w:P i
  ·rcases hP i w with h1|⟨e,h1,h2⟩
   ·exact absurd h1 a1
   ·exact .step ((h.rch cur h.curl hc).ext g) k h1 h2
  ·exact(h.rch i hi w).ext g
 ·intro i x c;rcases abp hb c with⟨rfl,rfl⟩|⟨_,c⟩
  ·exact⟨(h.sml _ b hb).1,h4⟩
  ·exact h.sml i x c
theorem MInv.block{n:Nat}(hu:u<f.length)(hn:n<=3):MInv p (f++ [wJ next n]) cur (next+n) vals (fun i=>O i∨i=f.length) (fun i=>P i∨i=f.length) (pl++ [u]):=by
 have t:aeI f (f++ [wJ next n]):=abj _ _;have m:pl<+:pl++ [u]:=Qb _ _
 have d:∀(i:Nat) (x:IBlk),(f++ [wJ next n])[i]? =some x->(f[i]? =some x)∨(i=f.length/\x=wJ next n):=fun i x hi=>by
  by_cases o:i<f.length
  ·rw[Np o] at hi;exact .inl hi
  ·have:i=f.length:=by
    have:=(Jh.1 hi).1;simp at this;omega
   subst this;rw[Nc (Je _),Qy] at hi;cases hi;exact .inr ⟨rfl,rfl⟩
 have a0:abu (wJ next n)=(List.range n).map fun k=>((next+k:Nat):Int):=by
  unfold abu wJ;simp[abo]
 have hl:aaI (f++ [wJ next n])=aaI f++(List.range n).map fun k=>((next+k:Nat):Int):=by
  unfold aaI;rw[Nx,Qa,List.flatMap_nil,Ua,a0]
 refine⟨by simp[h.len],by simp;have:=h.curl;omega,?_,?_,?_,?_,?_,?_,?_,?_,?_,?_⟩
 ·intro i w hi h0
  by_cases o:i<pl.length
  ·rw[Np o] at hi;exact h.par i w hi h0
  ·have a1:i=pl.length:=by
    have:=(Jh.1 hi).1;simp at this;omega
   subst a1;rw[Nc (Je _),Qy] at hi;cases hi;rw[h.len];exact hu
 ·intro i x c j y hy;rcases d i x c with c|⟨rfl,rfl⟩
  ·obtain⟨h1,h2⟩:=h.ops i x c j y hy;exact⟨h1,fun v hv=>(h2 v hv).ext t m (Og _)⟩
  ·simp[wJ] at hy
 ·intro i x c g;rcases d i x c with c|⟨rfl,rfl⟩
  ·exact(h.term i x c (fun e=>g (.inl e))).ext t m
  ·exact absurd (.inr rfl) g
 ·intro i x c g;rcases d i x c with c|⟨rfl,rfl⟩
  ·rcases g with g|rfl
   ·exact h.opn i x c g
   ·have:=(Jh.1 c).1;omega
  ·rfl
 ·intro i hi;rcases hi with hi|rfl
  ·have:=h.lt i hi;simp;omega
  ·simp
 ·intro v hv x l;rcases d cur x l with l|⟨e,_⟩
  ·exact(h.known v hv x l).ext t m (Og _)
  ·have:=h.curl;omega
 ·rw[hl];refine Qq.2 ⟨h.nd,?_,fun a ha b hb e=>?_⟩
  ·refine List.pairwise_map.2 (List.nodup_range.imp fun hab e=>hab ?_);omega
  ·obtain⟨k,_,rfl⟩:=Nu.1 hb;have:=h.rng a ha;omega
 ·intro v hv;rw[hl] at hv;rcases Jl.1 hv with hv|hv
  ·have:=h.rng v hv;omega
  ·obtain⟨k,hk,rfl⟩:=Nu.1 hv;have:=Ol.1 hk;omega
 ·intro i hi hP;have a3:i≠f.length:=fun e=>hP (.inr e)
  have a2:i<f.length:=by simp at hi;omega
  exact(h.rch i a2 (fun e=>hP (.inl e))).ext t
 ·intro i x c;rcases d i x c with c|⟨rfl,rfl⟩
  ·exact h.sml i x c
  ·exact⟨by unfold wJ;simpa using hn,by show 0<=4;decide⟩
theorem MInv.goto {c':Nat}{c:List Int}(d:c'<f.length)(hv:∀v∈c,∀b,f[c']? =some b->Kn f pl v c' b.ops.length):MInv p f c' next c O P pl:=
 {h with curl:=d,known:=hv }
theorem MInv.weak{O':Nat->Prop}(c:∀i,O i↔O' i)(d:∀i,P i->P' i):MInv p f cur next vals O' P' pl:=
 {h with term:=fun i b hb hn=>h.term i b hb (fun e=>hn ((c i).1 e)),opn:=fun i b hb hn=>h.opn i b hb ((c i).2 hn),lt:=fun i hi=>h.lt i ((c i).2 hi),rch:=fun i hi hn=>h.rch i hi (fun e=>hn (d i e))}
theorem MInv.below{v:Int}(hk:Kn f pl v i k)(c:Abv pl i j)(d:i≠j):Kn f pl v j k':=by
 obtain⟨b,a,h1,h2,h3⟩:=hk;refine⟨b,a,h1,h2.trans c,fun e=>?_⟩;have l:=h2.le h.par;have g:=c.le h.par;omega
end
structure EnvOk (p:IProg) (E:ME):Prop where
 nf:p.funcs.length=E.nf
 args:p.args=E.args
 data:p.data.length=3
 alt:∀x∈E.args,0<=x/\x<4
theorem opF_of{p:IProg}{F:Flds}(hs:zi o.code=F)(g:o.code≠26)(h2:o.code≠2)(d:F.is=true)(c:F.res=decide (0<=o.res))(hm:-1<=o.res)(i:F.a=true∨o.a=0)(hb:F.b=true∨o.b=0)(h:F.n=true∨o.n=0)(hg:o.args.length=0)
 (hp:(o.code≠24/\o.code≠25)∨(1<=o.n/\o.n<=255)):opF p o=true:=by
 unfold opF;rw[hs,if_neg g,if_neg h2];simp only[Jm,Bool.or_eq_true,decide_eq_true_eq];exact⟨d,⟨⟨⟨⟨⟨⟨c,hm⟩,i⟩,hb⟩,h⟩,hg⟩,hp⟩⟩
theorem gU{F:Flds}(hs:zi o.code=F)(c:F.a=false)(hb:F.b=false):rR o=o.args:=by unfold rR;rw[hs,c,hb];rfl
theorem fY(h:c=3∨c=4∨c=18∨c=19):zi c=⟨true,true,true,false,false⟩:=by rcases h with rfl|rfl|rfl|rfl<;>rfl
theorem eF(h:5<=c/\c<=17):zi c=⟨true,true,true,true,false⟩:=by
 unfold zi;rw[if_neg Zo,if_neg Zo,if_pos h]
theorem shape_st(h:c=20∨c=21):zi c=⟨true,false,true,true,false⟩:=by rcases h with rfl|rfl<;>rfl
theorem eK(h:c=22∨c=23):zi c=⟨true,true,true,false,true⟩:=by rcases h with rfl|rfl<;>rfl
section
variable {p:IProg} {M:MS} {O P:Nat->Prop} {pl:List Nat}
theorem ajC{M:MS}(h:uc o.code=true):(M.emit o).next=M.next+1:=by unfold MS.emit;simp only[h,if_true]
theorem gS{M:MS}(h:uc o.code=false):(M.emit o).next=M.next/\(M.emit o).vals=M.vals:=by unfold MS.emit;simp only[h];exact⟨rfl,rfl⟩
theorem gy{M:MS}(h:uc o.code=true):(M.emit o).vals=M.vals++ [(M.next:Int)]:=by unfold MS.emit;simp only[h,if_true]
theorem fS{M:MS}(h:uc o.code=true):(M.next:Int)∈(M.emit o).vals:=by rw[gy h];simp
theorem abw{M:MS}(h:uc o.code=true):(eg M o).res=(M.next:Int):=by unfold eg;simp only[h,if_true]
theorem gX{M:MS}(h:uc o.code=false):(eg M o).res=-1:=by unfold eg;simp only[h];rfl
theorem MInv.emit(h:aaz p M O P pl)(d:O M.cur)(ho:opF p (eg M o)=true)(c:∀v∈rR o,∀b,M.f[M.cur]? =some b->Kn M.f pl v M.cur b.ops.length):aaz p (M.emit o) O P pl:=by
 obtain⟨b,hb⟩:=h.get
 show MInv p (wD M.f M.cur _) M.cur _ _ O P pl
 rw[xI hb];refine h.push hb d ho (fun v hv=>c v hv b hb) ?_
 cases hr:uc o.code with
 |true=>exact .inl ⟨abw hr,ajC hr,by rw[abw hr];exact gy hr⟩
 |false=>exact .inr ⟨by rw[gX hr];decide,(gS hr).1,(gS hr).2⟩
theorem MInv.at (h:aaz p M O P pl){v:Int}(hv:v∈M.vals):∀b,M.f[M.cur]? =some b->Kn M.f pl v M.cur b.ops.length:=fun b hb=>h.known v hv b hb
theorem MInv.emitK(h:aaz p M O P pl)(m:O M.cur){F:Flds}(hs:zi c=F)(g:F.is=true/\F.res=true)(j:c≠26)(h2:c≠2)(k:c≠25){a b:Int}{n:Nat}(i:(F.a=true/\∀x,M.f[M.cur]? =some x->Kn M.f pl a M.cur x.ops.length)∨(F.a=false/\a=0))(hb:(F.b=true/\∀x,M.f[M.cur]? =some x->Kn M.f pl b M.cur x.ops.length)∨(F.b=false/\b=0))
 (l:F.n=true∨n=0) (hp:c≠24∨(1<=n/\n<=255)):aaz p (M.emit ⟨c,0,a,b,n,[]⟩) O P pl/\(M.next:Int)∈(M.emit ⟨c,0,a,b,n,[]⟩).vals:=by
 have hr:uc c=true:=by unfold uc;rw[hs,g.2];rfl
 have d:uc (⟨c,0,a,b,n,[]⟩:IOp).code=true:=hr;refine⟨h.emit m ?_ ?_,fS d⟩
 ·refine opF_of (F:=F) hs j h2 g.1 ?_ ?_ ?_ ?_ l rfl (hp.imp (fun e=>⟨e,k⟩) (fun e=>e))
  ·rw[abw d,g.2];simp
  ·rw[abw d];omega
  ·exact i.imp (·.1) (·.2)
  ·exact hb.imp (·.1) (·.2)
 ·intro v hv;unfold rR at hv;simp only[hs,Ua] at hv;rcases Jl.1 hv with hv|hv
  ·rcases i with⟨e1,e2⟩|⟨e1,e2⟩
   ·rw[e1,if_pos rfl,Jo] at hv;subst hv;exact e2
   ·rw[e1] at hv;simp at hv
  ·rcases hb with⟨e1,e2⟩|⟨e1,e2⟩
   ·rw[e1,if_pos rfl,Jo] at hv;subst hv;exact e2
   ·rw[e1] at hv;simp at hv
theorem MInv.emitR(h:aaz p M O P pl)(k:O M.cur){F:Flds}(hs:zi c=F)(l:F.is=true/\F.res=true)(d:c≠26)(h2:c≠2)(g:c≠25){a b:Int}{n:Nat}(j:(F.a=true/\a∈M.vals)∨(F.a=false/\a=0))(hb:(F.b=true/\∀x,M.f[M.cur]? =some x->Kn M.f pl b M.cur x.ops.length)∨(F.b=false/\b=0))
 (i:F.n=true∨n=0) (hp:c≠24∨(1<=n/\n<=255)):aaz p (M.emit ⟨c,0,a,b,n,[]⟩) O P pl/\(M.next:Int)∈(M.emit ⟨c,0,a,b,n,[]⟩).vals:=
 h.emitK k hs l d h2 g (j.imp (fun e=>⟨e.1,h.at e.2⟩) (fun e=>e)) hb i hp
theorem MInv.emitN(h:aaz p M O P pl)(m:O M.cur){F:Flds}(hs:zi c=F)(i:F.is=true/\F.res=false)(g:c≠26)(h2:c≠2)(k:c≠24){a b:Int}{n:Nat}(j:(F.a=true/\a∈M.vals)∨(F.a=false/\a=0))(hb:(F.b=true/\b∈M.vals)∨(F.b=false/\b=0))
 (l:F.n=true∨n=0) (hp:c≠25∨(1<=n/\n<=255)):aaz p (M.emit ⟨c,0,a,b,n,[]⟩) O P pl:=by
 have hr:uc c=false:=by unfold uc;rw[hs,i.2];simpa using g
 have d:uc (⟨c,0,a,b,n,[]⟩:IOp).code=false:=hr;refine h.emit m ?_ ?_
 ·refine opF_of (F:=F) hs g h2 i.1 ?_ ?_ ?_ ?_ l rfl (hp.imp (fun e=>⟨k,e⟩) (fun e=>e))
  ·rw[gX d,i.2];rfl
  ·rw[gX d];decide
  ·exact j.imp (·.1) (·.2)
  ·exact hb.imp (·.1) (·.2)
 ·intro v hv;unfold rR at hv;simp only[hs,Ua] at hv;rcases Jl.1 hv with hv|hv
  ·rcases j with⟨e1,e2⟩|⟨e1,e2⟩
   ·rw[e1,if_pos rfl,Jo] at hv;subst hv;exact h.at e2
   ·rw[e1] at hv;simp at hv
  ·rcases hb with⟨e1,e2⟩|⟨e1,e2⟩
   ·rw[e1,if_pos rfl,Jo] at hv;subst hv;exact h.at e2
   ·rw[e1] at hv;simp at hv
theorem MInv.num (h:aaz p M O P pl)(d:O M.cur)(n:Nat):aaz p (M.num n) O P pl/\(M.next:Int)∈(M.num n).vals:=
 h.emitR (c:=1) d (F:=⟨true,true,false,false,true⟩) rfl ⟨rfl,rfl⟩ Zd Zd Zd (.inr ⟨rfl,rfl⟩) (.inr ⟨rfl,rfl⟩) (.inl rfl) (.inl Zd)
theorem MInv.tick (h:aaz p M O P pl):aaz p M.tick O P pl:=h
theorem fE {l:List Int}{k:Nat}(h:k<l.length)(d:Int):l.getD k d∈l:=by
 rw[Jj,Jd h];exact Uf h
theorem MInv.any (E:ME)(h:aaz p M O P pl)(c:O M.cur):aaz p (zJ E M).2 O P pl/\(zJ E M).1∈(zJ E M).2.vals:=by
 unfold zJ
 split
 ·exact h.tick.num c _
 ·rename_i d
  split
  ·refine⟨h,fE ?_ _⟩
   show _<M.vals.length
   omega
  ·refine⟨h,fE ?_ _⟩;exact aaE E M Zo
theorem MInv.addr (E:ME)(hp:EnvOk p E)(h:aaz p M O P pl)(c:O M.cur):aaz p (yJ E M).2 O P pl/\(yJ E M).1∈(yJ E M).2.vals:=by
 unfold yJ
 split
 ·exact h.tick.any E c
 ·have hr:uc (2:Int)=true:=rfl;refine⟨MInv.emit (M:=M.tick.tick.tick) h c ?_ (fun v hv=>?_),fS (M:=M.tick.tick.tick) hr⟩
  ·have h1:=aaE E M.tick (n:=2) Zo;unfold opF;rw[show(eg M.tick.tick.tick ⟨2,0,((tkV E M.tick 2:Nat):Int),0,tkV E M.tick.tick (sE (tkV E M.tick 2)),[]⟩).code=2 from rfl,if_neg Zd,if_pos rfl,abw hr];simp only[Jm,decide_eq_true_eq,hp.data];exact⟨rfl,⟨⟨⟨⟨by show(0:Int)<=((tkV E M.tick 2:Nat):Int);omega,by show((tkV E M.tick 2:Nat):Int)<((3:Nat):Int);omega⟩,by omega⟩,rfl⟩,rfl⟩⟩
  ·rw[gU (F:=⟨true,true,false,false,true⟩) rfl rfl rfl] at hv;simp at hv
theorem MInv.args (E:ME)(h:aaz p M O P pl)(d:O M.cur):∀n,aaz p (yI E n M).2 O P pl/\(yI E n M).1.length=n/\(∀v∈(yI E n M).1,v∈(yI E n M).2.vals)/\(yI E n M).2.cur=M.cur
 |0=>⟨h,rfl,fun v hv=>by simp[yI] at hv,rfl⟩
 |n+1=>by
  obtain⟨h1,h2,h3,h4⟩:=MInv.args E h d n;have c:O (yI E n M).2.cur:=by rw[h4];exact d
  obtain⟨i,g⟩:=h1.any E c;have hg:=yU E (yI E n M).2;refine⟨i,?_,fun v hv=>?_,hg.cur.trans h4⟩
  ·show(_++ [_]).length=_
   rw[Jk,h2];rfl
  ·rcases Jl.1 hv with hv|hv
   ·exact hg.pre.subset (h3 v hv)
   ·rw[Jo] at hv;subst hv;exact g
theorem MInv.call (E:ME)(hp:EnvOk p E)(h:aaz p M O P pl)(c:O M.cur):aaz p (vN E M) O P pl:=by
 unfold vN
 split
 ·exact h
 ·rename_i j
  simp only
  split
  ·exact h
  ·obtain⟨h1,h2,h3,g⟩:=MInv.args E h.tick c (E.args.getD (E.me+1+tkV E M (E.nf-E.me-1)) 0).toNat;have k:=aaE E M (n:=E.nf-E.me-1) Zo
   have i:0<=E.args.getD (E.me+1+tkV E M (E.nf-E.me-1)) 0:=by
    rw[Jj]
    cases d:E.args[E.me+1+tkV E M (E.nf-E.me-1)]? with
    |none=>simp
    |some x=>exact(hp.alt x (Ji d)).1
   have hf:E.me+1+tkV E M (E.nf-E.me-1)<E.nf:=Zo;generalize E.me+1+tkV E M (E.nf-E.me-1)=f at *;have hr:uc (26:Int)=true:=rfl;refine h1.emit (by rw[g];exact c) ?_ (fun v hv=>?_)
   ·unfold opF;rw[if_pos (show(eg (yI E (E.args.getD f 0).toNat M.tick).2 ⟨26,0,(f:Nat),0,0,(yI E (E.args.getD f 0).toNat M.tick).1⟩).code=26 from rfl)];simp only[Jm,decide_eq_true_eq,hp.nf,hp.args];refine⟨rfl,⟨⟨⟨⟨⟨by show(0:Int)<=((f:Nat):Int);omega,by show((f:Nat):Int)<_;omega⟩,?_⟩,?_⟩,rfl⟩,rfl⟩⟩
    ·show(((yI E (E.args.getD f 0).toNat M.tick).1.length:Nat):Int)=E.args.getD ((f:Nat):Int).toNat 0
     rw[h2,Ni,Oa i]
    ·rw[abw hr];omega
   ·rw[gU (F:=⟨true,false,false,false,false⟩) rfl rfl rfl] at hv;exact h1.at (h3 v hv)
theorem MInv.arith (E:ME)(h:aaz p M O P pl)(m:O M.cur):aaz p (yR E M) O P pl:=by
 obtain⟨h1,h2⟩:=h.any E m;have g1:=yU E M;have k:O (zJ E M).2.cur:=by rw[g1.cur];exact m
 obtain⟨h3,l⟩:=h1.any E k;have g2:=yU E (zJ E M).2;have d:O (zJ E (zJ E M).2).2.cur:=by rw[g2.cur];exact k
 have i:=g2.pre.subset h2;unfold yR;simp only;have t:=aaE E (zJ E (zJ E M).2).2 (n:=13) Zo;generalize tkV E (zJ E (zJ E M).2).2 13=r at *;generalize zJ E (zJ E M).2=b at *;generalize (zJ E M).1=a at *;have g:aaz p b.2.tick O P pl:=h3
 split
 ·split
  ·obtain⟨k1,k2⟩:=MInv.num (M:=b.2.tick.tick) g d 1;have kb:b.1∈(b.2.tick.tick.num 1).vals:=(wT b.2.tick.tick 1).pre.subset l;have ka:a∈(b.2.tick.tick.num 1).vals:=(wT b.2.tick.tick 1).pre.subset i;have j:O (b.2.tick.tick.num 1).cur:=by rw[(wT b.2.tick.tick 1).cur];exact d
   obtain⟨k3,k4⟩:=k1.emitR (c:=10) j (F:=⟨true,true,true,true,false⟩) rfl ⟨rfl,rfl⟩ Zd Zd Zd (a:=b.1) (b:=(b.2.tick.tick.next:Nat)) (n:=0) (.inl ⟨rfl,kb⟩) (.inl ⟨rfl,k1.at k2⟩) (.inr rfl) (.inl Zd);have g3:=yB (b.2.tick.tick.num 1) ⟨10,0,b.1,(b.2.tick.tick.next:Nat),0,[]⟩;have o:(b.2.tick.tick.num 1).next=b.2.tick.tick.next+1:=rfl;rw[o] at k4;exact(k3.emitR (c:=8) (by rw[g3.cur];exact j) (F:=⟨true,true,true,true,false⟩) rfl ⟨rfl,rfl⟩ Zd Zd Zd (a:=a) (b:=((b.2.tick.tick.next+1:Nat):Int)) (n:=0) (.inl ⟨rfl,g3.pre.subset ka⟩) (.inl ⟨rfl,k3.at k4⟩) (.inr rfl) (.inl Zd)).1
  ·exact(MInv.emitR (M:=b.2.tick.tick) g (c:=8) d (F:=⟨true,true,true,true,false⟩) rfl ⟨rfl,rfl⟩ Zd Zd Zd (a:=a) (b:=b.1) (n:=0) (.inl ⟨rfl,i⟩) (.inl ⟨rfl,MInv.at (M:=b.2.tick.tick) g l⟩) (.inr rfl) (.inl Zd)).1
 ·exact(MInv.emitR (M:=b.2.tick) g (c:=((5+r:Nat):Int)) d (F:=⟨true,true,true,true,false⟩) (eF Zo) ⟨rfl,rfl⟩ Zo Zo Zo (a:=a) (b:=b.1) (n:=0) (.inl ⟨rfl,i⟩) (.inl ⟨rfl,MInv.at (M:=b.2.tick) g l⟩) (.inr rfl) (.inl Zo)).1
theorem MInv.op (E:ME)(hp:EnvOk p E)(h:aaz p M O P pl)(d:O M.cur):aaz p (xK E M) O P pl:=by
 unfold xK;simp only;have ht:aaz p M.tick O P pl:=h;have j:O M.tick.cur:=d
 split
 ·exact(MInv.num (M:=M.tick.tick) h d _).1
 split
 ·obtain⟨h1,h2⟩:=MInv.any (M:=M.tick.tick) E h d;have i:=aaE E M.tick (n:=2) Zo;exact(h1.emitR (c:=3+((tkV E M.tick 2:Nat):Int)) (by rw[(yU E M.tick.tick).cur];exact d) (F:=⟨true,true,true,false,false⟩) (fY Zo) ⟨rfl,rfl⟩ Zo Zo Zo (.inl ⟨rfl,h2⟩) (.inr ⟨rfl,rfl⟩) (.inr rfl) (.inl Zo)).1
 split
 ·obtain⟨h1,h2⟩:=MInv.addr (M:=M.tick) E hp h d;have i:=aaE E (yJ E M.tick).2 (n:=2) Zo;exact(MInv.emitR (M:=(yJ E M.tick).2.tick) h1 (c:=18+((tkV E (yJ E M.tick).2 2:Nat):Int)) (by show O (yJ E M.tick).2.cur;rw[(ue E M.tick).cur];exact d) (F:=⟨true,true,true,false,false⟩) (fY Zo) ⟨rfl,rfl⟩ Zo Zo Zo (.inl ⟨rfl,h2⟩) (.inr ⟨rfl,rfl⟩) (.inr rfl) (.inl Zo)).1
 split
 ·obtain⟨h1,h2⟩:=MInv.addr (M:=M.tick) E hp h d;have k:O (yJ E M.tick).2.cur:=by rw[(ue E M.tick).cur];exact d
  obtain⟨h3,l⟩:=h1.any E k;have g:=yU E (yJ E M.tick).2;have i:=aaE E (zJ E (yJ E M.tick).2).2 (n:=2) Zo;exact MInv.emitN (M:=(zJ E (yJ E M.tick).2).2.tick) h3 (c:=20+((tkV E (zJ E (yJ E M.tick).2).2 2:Nat):Int)) (by show O (zJ E (yJ E M.tick).2).2.cur;rw[g.cur];exact k) (F:=⟨true,false,true,true,false⟩) (shape_st Zo) ⟨rfl,rfl⟩ Zo Zo Zo (.inl ⟨rfl,g.pre.subset h2⟩) (.inl ⟨rfl,l⟩) (.inr rfl) (.inl Zo)
 split
 ·have i:=aaE E M.tick (n:=3) Zo;exact(MInv.emitR (M:=M.tick.tick) h (c:=24) d (F:=⟨true,true,false,false,true⟩) rfl ⟨rfl,rfl⟩ Zd Zd Zd (.inr ⟨rfl,rfl⟩) (.inr ⟨rfl,rfl⟩) (.inl rfl) (.inr ⟨by omega,by omega⟩)).1
 split
 ·obtain⟨h1,h2⟩:=MInv.any (M:=M.tick) E h d;have i:=aaE E (zJ E M.tick).2 (n:=3) Zo;exact MInv.emitN (M:=(zJ E M.tick).2.tick) h1 (c:=25) (by show O (zJ E M.tick).2.cur;rw[(yU E M.tick).cur];exact d) (F:=⟨true,false,true,false,true⟩) rfl ⟨rfl,rfl⟩ Zd Zd Zd (.inl ⟨rfl,h2⟩) (.inr ⟨rfl,rfl⟩) (.inl rfl) (.inr ⟨by omega,by omega⟩)
 split
 ·obtain⟨h1,h2⟩:=MInv.num (M:=M.tick.tick) h d (tkV E M.tick 4096);have i:=aaE E (M.tick.tick.num (tkV E M.tick 4096)) (n:=2) Zo;exact(MInv.emitR (M:=(M.tick.tick.num (tkV E M.tick 4096)).tick) h1 (c:=22+((tkV E (M.tick.tick.num (tkV E M.tick 4096)) 2:Nat):Int)) (by show O (M.tick.tick.num (tkV E M.tick 4096)).cur;rw[(wT M.tick.tick (tkV E M.tick 4096)).cur];exact d) (F:=⟨true,true,true,false,true⟩) (eK Zo) ⟨rfl,rfl⟩ Zo Zo Zo (.inl ⟨rfl,h2⟩) (.inr ⟨rfl,rfl⟩) (.inl rfl) (.inl Zo)).1
 split
 ·exact ht.call E hp j
 split
 ·split
  ·exact MInv.emitN (M:=M.tick.tick) h (c:=27) d (F:=⟨true,false,false,false,false⟩) rfl ⟨rfl,rfl⟩ Zd Zd Zd (.inr ⟨rfl,rfl⟩) (.inr ⟨rfl,rfl⟩) (.inr rfl) (.inl Zd)
  ·exact h
 ·exact ht.arith E j
theorem fC (E:ME)(hE:∀x∈E.args,0<=x/\x<4):∀(n:Nat) (M:MS),(qY E n M).cur=M.cur
 |0,M=>rfl
 |n+1,M=>(fC E hE n _).trans (pX E hE M).cur
theorem MInv.opsN (E:ME)(hp:EnvOk p E):∀(n:Nat) (M:MS),aaz p M O P pl->O M.cur->aaz p (qY E n M) O P pl
 |0,M,h,hO=>h
 |n+1,M,h,hO=>MInv.opsN E hp n (xK E M) (h.op E hp hO) (by rw[(pX E hp.alt M).cur];exact hO)
theorem MInv.run (E:ME)(hp:EnvOk p E)(h:aaz p M O P pl)(c:O M.cur):aaz p (tR E M) O P pl/\(tR E M).cur=M.cur:=
 ⟨MInv.opsN E hp _ M.tick h c,fC E hp.alt _ M.tick⟩
end
theorem aeI.trans {f g h:List IBlk}(a:aeI f g)(b:aeI g h):aeI f h:=fun i x hx=>by
 obtain⟨y,d,p1,o1,t1⟩:=a i x hx;obtain⟨z,c,p2,o2,t2⟩:=b i y d;refine⟨z,c,p2.trans p1,o1.trans o2,?_⟩;rcases t1 with t1|t1
 ·exact .inl t1
 ·rcases t2 with t2|t2
  ·left;rw[<-t1];exact t2
  ·exact .inr (t2.trans t1)
theorem acr {f:List IBlk}{c:Nat}{g:IBlk->IBlk}(h:∀b,f[c]? =some b->(g b).params=b.params/\b.ops<+:(g b).ops/\(b.term.to=[]∨(g b).term=b.term)):aeI f (wD f c g):=by
 unfold wD
 split
 ·rename_i x d
  obtain⟨h1,h2,h3⟩:=h x d;exact g7 d h1 h2 h3
 ·exact aeI.refl f
theorem aaD (M:MS)(o:IOp):aeI M.f (M.emit o).f:=acr fun b _=>⟨rfl,Qb _ _,.inr rfl⟩
theorem abB (M:MS)(n:Nat):aeI M.f (M.num n).f:=aaD M _
theorem aaW (E:ME)(M:MS):aeI M.f (zJ E M).2.f:=by
 unfold zJ
 split
 ·exact abB M.tick _
 split<;>exact aeI.refl _
theorem fU (E:ME)(M:MS):aeI M.f (yJ E M).2.f:=by
 unfold yJ
 split
 ·exact aaW E M.tick
 ·exact aaD M.tick.tick.tick _
theorem fW (E:ME)(M:MS):∀n,aeI M.f (yI E n M).2.f
 |0=>aeI.refl _
 |n+1=>(fW E M n).trans (aaW E _)
theorem call_ext (E:ME)(M:MS):aeI M.f (vN E M).f:=by
 unfold vN
 split
 ·exact aeI.refl _
 ·simp only
  split
  ·exact aeI.refl _
  ·exact(fW E M.tick _).trans (aaD _ _)
theorem eX (E:ME)(M:MS):aeI M.f (yR E M).f:=by
 have h:=(aaW E M).trans (aaW E (zJ E M).2);unfold yR;simp only
 split
 ·split
  ·exact h.trans (((abB _ _).trans (aaD _ _)).trans (aaD _ _))
  ·exact h.trans (aaD (M:=(zJ E (zJ E M).2).2.tick.tick) _)
 ·exact h.trans (aaD (M:=(zJ E (zJ E M).2).2.tick) _)
theorem op_ext (E:ME)(M:MS):aeI M.f (xK E M).f:=by
 unfold xK;simp only
 split
 ·exact abB M.tick.tick _
 split
 ·exact(aaW E M.tick.tick).trans (aaD _ _)
 split
 ·exact(fU E M.tick).trans (aaD (M:=(yJ E M.tick).2.tick) _)
 split
 ·exact((fU E M.tick).trans (aaW E _)).trans (aaD (M:=(zJ E (yJ E M.tick).2).2.tick) _)
 split
 ·exact aaD M.tick.tick _
 split
 ·exact(aaW E M.tick).trans (aaD (M:=(zJ E M.tick).2.tick) _)
 split
 ·exact(abB M.tick.tick _).trans (aaD (M:=(M.tick.tick.num (tkV E M.tick 4096)).tick) _)
 split
 ·exact call_ext E M.tick
 split
 ·split
  ·exact aaD M.tick.tick _
  ·exact aeI.refl _
 ·exact eX E M.tick
theorem akh (E:ME):∀(n:Nat) (M:MS),aeI M.f (qY E n M).f
 |0,M=>aeI.refl _
 |n+1,M=>(op_ext E M).trans (akh E n _)
theorem eO (E:ME)(M:MS):aeI M.f (tR E M).f:=akh E _ M.tick
theorem run_vals (E:ME)(c:∀x∈E.args,0<=x/\x<4)(M:MS):M.vals<+:(tR E M).vals:=(oL E c M).pre
structure PartOut (M:MS) (O P:Nat->Prop) (pl:List Nat) (p:IProg) (M':MS) (pl':List Nat):Prop where
 pre:pl<+:pl'
 inv:aaz p M' (fun i=>(O i/\i≠M.cur)∨i=M'.cur) P pl'
 abv:Abv pl' M.cur M'.cur
 new:M'.cur=M.cur∨M.f.length<=M'.cur
 np:¬P M'.cur
 vals:M.vals<+:M'.vals
 ext:aeI M.f M'.f
def aeT (p:IProg)(pt:MS->MS):Prop:=∀(M:MS) (O P:Nat->Prop) (pl:List Nat),aaz p M O P pl->O M.cur->¬P M.cur->(∀i,P i->O i)->∃pl',PartOut M O P pl p (pt M) pl'
theorem PartOut.trans{M1 M2:MS}{O P:Nat->Prop}{pl c pl2:List Nat}{p:IProg}(h:PartOut M O P pl p M1 c)(k:PartOut M1 (fun i=>(O i/\i≠M.cur)∨i=M1.cur) P c p M2 pl2)(g:M.f.length<=M1.f.length)(d:∀i,O i->i<M.f.length):PartOut M O P pl p M2 pl2:=by
 refine⟨h.pre.trans k.pre,k.inv.weak (fun i=>?_) (fun i e=>e),(h.abv.ext k.pre).trans k.abv,?_,k.np,h.vals.trans k.vals,h.ext.trans k.ext⟩
 ·constructor
  ·rintro(⟨h1|h1,h2⟩|h1)
   ·exact .inl h1
   ·exact absurd h1 h2
   ·exact .inr h1
  ·rintro(h1|h1)
   ·refine .inl ⟨.inl h1,fun e=>?_⟩;rcases h.new with h2|h2
    ·exact h1.2 (by rw[e,h2])
    ·have:=d i h1.1;omega
   ·exact .inr h1
 ·rcases k.new with h1|h1
  ·rcases h.new with h2|h2
   ·left;rw[h1,h2]
   ·right;omega
  ·right;omega
theorem agi {f g:List IBlk}(h:aeI f g):f.length<=g.length:=by
 rcases Nat.lt_or_ge g.length f.length with c|d
 ·obtain⟨x,j⟩:∃x,f[g.length]? =some x:=⟨_,Jd c⟩
  obtain⟨b',i,_⟩:=h _ _ j;have:=(Jh.1 i).1;omega
 ·exact d
section
variable {p:IProg} {E:ME} (hp:EnvOk p E)
include hp
theorem fX:aeT p (tR E):=fun M O P pl h hO hn hPO=>by
 obtain⟨h1,h2⟩:=h.run E hp hO;refine⟨pl,Od,h1.weak (fun i=>?_) (fun i e=>e),by rw[h2];exact .refl _,.inl h2,by rw[h2];exact hn,run_vals E hp.alt M,eO E M⟩;rw[h2];constructor
 ·intro hi
  by_cases e:i=M.cur
  ·exact .inr e
  ·exact .inl ⟨hi,e⟩
 ·rintro(h3|rfl)
  ·exact h3.1
  ·exact hO
end
theorem eQ{Q:Prop}{a n:Nat}:((Q∨(a<=i/\i<a+n))∨i=a+n)↔(Q∨(a<=i/\i<a+(n+1))):=by
 constructor
 ·rintro((h|h)|h)
  ·exact .inl h
  ·exact .inr Zo
  ·exact .inr Zo
 ·rintro(h|h)
  ·exact .inl (.inl h)
  ·by_cases e:i=a+n
   ·exact .inr e
   ·exact .inl (.inr Zo)
theorem gV {p:IProg}:∀(n:Nat) (M:MS) (O P:Nat->Prop) (pl:List Nat),aaz p M O P pl->
 aaz p (xE n M) (fun i=>O i∨(M.f.length<=i/\i<M.f.length+n)) (fun i=>P i∨(M.f.length<=i/\i<M.f.length+n)) (pl++List.replicate n M.cur)/\(xE n M).cur=M.cur/\(xE n M).vals=M.vals/\aeI M.f (xE n M).f/\∀k,k<n->∃b,(xE n M).f[M.f.length+k]? =some b/\b.params.length=0
 |0,M,O,P,pl,h=>⟨by
  rw[List.replicate_zero,Ua]
  exact h.weak (fun i=>⟨.inl,fun e=>e.elim (fun e=>e) (fun e=>by omega)⟩) (fun i e=> .inl e),rfl,rfl,aeI.refl _,fun k hk=>by omega⟩
 |n+1,M,O,P,pl,h=>by
  obtain⟨h1,h2,h3,h4,h5⟩:=gV n M O P pl h;have hl:=tB n M;have l:=h1.block (n:=0) (u:=M.cur) (by rw[hl];have:=h.curl;omega) Zd;rw[hl] at l;refine⟨?_,h2,h3,h4.trans (abj _ _),fun k hk=>?_⟩
  ·have e:pl++List.replicate (n+1) M.cur=(pl++List.replicate n M.cur)++ [M.cur]:=by rw[List.replicate_succ',Nv]
   rw[e];exact l.weak (fun i=>eQ) (fun i e=>eQ.1 e)
  ·by_cases d:k<n
   ·obtain⟨b,hb,g⟩:=h5 k d;obtain⟨b',j,c,_⟩:=abj (xE n M).f [wJ (xE n M).next 0] _ _ hb;exact⟨b',j,by rw[c];exact g⟩
   ·have e:k=n:=Zo;subst e;refine⟨wJ (xE k M).next 0,?_,by simp[wJ]⟩
    show((xE k M).f++ [_])[M.f.length+k]? =_
    rw[Nc Zo,hl,Qy];rfl
theorem xd{p:IProg}{O P:Nat->Prop}{pl:List Nat}(h:aaz p M O P pl)(c:O M.cur)(t:ITerm):aeI M.f (M.endB t).f:=acr fun b hb=>⟨rfl,Od,.inl (h.opn _ b hb c)⟩
theorem MInv.endB{p:IProg}{O P:Nat->Prop}{pl:List Nat}(h:aaz p M O P pl)(j:O M.cur)(hk:gR t=true)(k:t.to.length<=4)(c:∀e∈t.to,gB M.f pl M.cur e)(hv:∀v∈mE t,∀b,M.f[M.cur]? =some b->Kn M.f pl v M.cur b.ops.length)(d:¬P M.cur)
 (g:∀i,P i->P' i∨∃e∈t.to,e.block=(i:Int)):aaz p (M.endB t) (fun i=>O i/\i≠M.cur) P' pl:=by
 obtain⟨b,hb⟩:=h.get
 show MInv p (wD M.f M.cur _) M.cur _ _ _ P' pl
 rw[xI hb];exact h.close hb j hk k c (fun v hv'=>hv v hv' b hb) d g
theorem fH{α:Type}{l m:List α}{x:α}(h:m[i]? =some x):(l++m)[l.length+i]? =some x:=by
 rw[Nc Zo,Nat.add_sub_cancel_left];exact h
theorem gH{n:Nat}{e:IEdge}(h:e∈xk tg n):∃k,k<n/\e=⟨((tg+k:Nat):Int),[]⟩:=by
 unfold xk at h;obtain⟨k,hk,rfl⟩:=Nu.1 h;exact⟨k,Ol.1 hk,rfl⟩
theorem gm (tg n:Nat):((xk tg n).map (·.args)).flatten=[]:=by
 rw[List.flatten_eq_nil_iff];intro l hl;obtain⟨e,c,rfl⟩:=Nu.1 hl;obtain⟨k,_,rfl⟩:=gH c;rfl
theorem fA{p:IProg}{E:ME}{d:MS->MS}(u:aeT p d){O P:Nat->Prop}{c n:Nat}{V:List Int}(a3:∀i,O i->i<tg)(a0:∀i,P i->O i)(a5:¬P c)(c0:c<tg):∀(m k:Nat) (M:MS) (pl:List Nat),k+m=n->
 aaz p M (fun i=>(O i/\i≠c)∨(tg+k<=i/\i<=tg+n)) (fun i=>P i∨(k=0/\i=tg+n)) pl->M.vals=V->(∀v∈V,∃q,Kn M.f pl v c q)->(∀i,tg<=i->i<=tg+n->pl[i]? =some c)->(∃b,M.f[tg+n]? =some b/\b.params.length=1)->
 ∃pl',pl<+:pl'/\aaz p (uV E d tg (tg+n) V.length m k M) (fun i=>(O i/\i≠c)∨(tg+n<=i/\i<=tg+n)) (fun i=>P i∨(n=0/\i=tg+n)) pl'/\aeI M.f (uV E d tg (tg+n) V.length m k M).f/\(uV E d tg (tg+n) V.length m k M).vals=V
 |0,k,M,pl,hk,h,hv,hV,hpl,hj=>by
  obtain rfl:k=n:=by omega
  exact⟨pl,Od,h,aeI.refl _,hv⟩
 |m+1,k,M,pl,hk,h,hv,hV,hpl,hj=>by
  have c9:k<n:=Zo;have d0:tg+n<M.f.length:=by obtain⟨b,hb,_⟩:=hj;exact(Jh.1 hb).1
  have b7:pl[tg+k]? =some c:=hpl _ Zo Zo;have a4:Abv pl c (tg+k):=.up b7 Zo (.refl _)
  have h0:aaz p {M with cur:=tg+k } (fun i=>(O i/\i≠c)∨(tg+k<=i/\i<=tg+n)) (fun i=>P i∨(k=0/\i=tg+n)) pl:=h.goto (show tg+k<M.f.length by omega) (fun v hv' b hb=>by
   rw[hv] at hv';obtain⟨q,hq⟩:=hV v hv'
   exact h.below hq a4 (show c≠tg+k by omega))
  obtain⟨pl1,hq⟩:=u _ _ _ pl h0 (.inr ⟨Je _,by show tg+k<=tg+n;omega⟩) (fun e=>by
   rcases e with e|⟨_,e⟩
   ·have e2:tg+k<tg:=a3 _ (a0 _ e);omega
   ·have e2:tg+k=tg+n:=e
    omega) (fun i e=>by
     rcases e with e|⟨_,e⟩
     ·exact .inl ⟨a0 i e,fun e2=>a5 (by rw[<-e2];exact e)⟩
     ·exact .inr Zo)
  have c8:({M with cur:=tg+k }:MS).cur=tg+k:=rfl;have c7:({M with cur:=tg+k }:MS).f=M.f:=rfl;obtain⟨q1,q2,q3,q4,q5,q6,q7⟩:=hq;rw[c8] at q2 q3 q4;rw[c7] at q4 q7;have b6:V<+:(d {M with cur:=tg+k }).vals:=by have e:({M with cur:=tg+k }:MS).vals=V:=hv;rw[<-e];exact q6
  rw[rg];generalize hM:d {M with cur:=tg+k }=M1 at *;have r0:aaz p M1.tick _ _ pl1:=q2;obtain⟨r1,r2⟩:=r0.any E (.inr rfl);have g1:=yU E M1.tick;have gc:(zJ E M1.tick).2.cur=M1.cur:=g1.cur;have ge:=q7.trans (aaW E M1.tick);have gv:V<+:(zJ E M1.tick).2.vals:=b6.trans g1.pre;have d1:(zJ E M1.tick).2.f.length=M1.f.length:=g1.len;have d3:=agi q7
  have w:∀(t:ITerm),gR t=true->t.to.length<=4->(∀e∈t.to,gB (zJ E M1.tick).2.f pl1 M1.cur e)->mE t=[(zJ E M1.tick).1]->(∀i,(P i∨(k=0/\i=tg+n))->(P i∨(k+1=0/\i=tg+n))∨∃e∈t.to,e.block=(i:Int))->
   aaz p ((zJ E M1.tick).2.endB t) (fun i=>(O i/\i≠c)∨(tg+(k+1)<=i/\i<=tg+n)) (fun i=>P i∨(k+1=0/\i=tg+n)) pl1/\aeI M.f ((zJ E M1.tick).2.endB t).f:=fun t t1 t2 t3 t4 t5=>by
   have a6:(fun i=>(((O i/\i≠c)∨(tg+k<=i/\i<=tg+n))/\i≠tg+k)∨i=M1.cur) (zJ E M1.tick).2.cur:=.inr gc
   have:=r1.endB (P':=fun i=>P i∨(k+1=0/\i=tg+n)) a6 t1 t2 (by rw[gc];exact t3) (fun v hv'=>by
    rw[t4,Jo] at hv';subst hv'
    exact r1.at r2) (by rw[gc];exact q5) t5
   refine⟨this.weak (fun i=>?_) (fun i e=>e),ge.trans (xd r1 a6 t)⟩;rw[gc];constructor
   ·rintro⟨(⟨e1|e1,e2⟩|e1),e3⟩
    ·exact .inl e1
    ·exact .inr Zo
    ·exact absurd e1 e3
   ·rintro(e1|e1)
    ·have hi:=a3 i e1.1;refine⟨.inl ⟨.inl e1,by omega⟩,fun e=>?_⟩;rcases q4 with q4|q4<;>omega
    ·refine⟨.inl ⟨.inr Zo,by omega⟩,fun e=>?_⟩;rcases q4 with q4|q4<;>omega
  have b0:aaz p (wM E (tg+n) k M1) (fun i=>(O i/\i≠c)∨(tg+(k+1)<=i/\i<=tg+n)) (fun i=>P i∨(k+1=0/\i=tg+n)) pl1/\aeI M.f (wM E (tg+n) k M1).f/\V<+:(wM E (tg+n) k M1).vals:=by
   unfold wM
   split
   ·rename_i d2
    obtain⟨a1,a2⟩:=w ⟨4,(zJ E M1.tick).1,[]⟩ rfl (by show 0<=4;decide) (fun e he=>by cases he) (by
     have b9:(zJ E M1.tick).1≠-1:=fun e=>by
      have h1:=r1.at r2;obtain⟨b,hb⟩:=r1.get;obtain⟨i,a,⟨b2,c5,hd⟩,_⟩:=h1 b hb;rcases hd with⟨_,hd⟩|⟨j,o,_,_,_,h0⟩
      ·have:=(r1.rng _ (Qx.2 ⟨b2,Ji c5,Jz _ hd⟩)).1;omega
      ·omega
     unfold mE ut
     simp[b9]) (fun i e=>by
     rcases e with e|⟨e,_⟩
     ·exact .inl (.inl e)
     ·omega)
    exact⟨a1,a2,gv⟩
   ·obtain⟨bj,y,x⟩:=hj;obtain⟨bj',l,g,_⟩:=ge _ _ y;have b8:pl1[tg+n]? =some c:=aaS q1 (hpl _ Zo Zo)
    obtain⟨a1,a2⟩:=w ⟨1,0,[⟨((tg+n:Nat):Int),[(zJ E M1.tick).1]⟩]⟩ rfl (by show 1<=4;decide) (fun e he=>by
     rw[Jo] at he;subst he
     exact⟨tg+n,c,bj',rfl,by omega,l,by rw[g,x];rfl,b8,(a4.ext q1).trans q3⟩) rfl (fun i e=>by
     rcases e with e|⟨_,e⟩
     ·exact .inl (.inl e)
     ·exact .inr ⟨_,Jo.2 rfl,by subst e;rfl⟩)
    exact⟨a1,a2,gv⟩
  obtain⟨b1,b2,b3⟩:=b0;generalize wM E (tg+n) k M1=M3 at *;have b4:M3.vals.take V.length=V:=uF b3;have b5:aaz p {M3 with vals:=M3.vals.take V.length } (fun i=>(O i/\i≠c)∨(tg+(k+1)<=i/\i<=tg+n)) (fun i=>P i∨(k+1=0/\i=tg+n)) pl1:=b1.goto b1.curl (fun v hv' b hb=>b1.known v (List.mem_of_mem_take hv') b hb);obtain⟨bj,y,x⟩:=hj;obtain⟨bj',l,g,_⟩:=b2 _ _ y
  obtain⟨a7,c1,c2,c3,c4⟩:=fA u a3 a0 a5 c0 m (k+1) {M3 with vals:=M3.vals.take V.length } pl1 Zo b5 b4 (fun v hv'=>by
   obtain⟨q,hq⟩:=hV v hv'
   exact⟨q,hq.ext b2 q1 (Og _)⟩) (fun i h1 h2=>aaS q1 (hpl i h1 h2)) ⟨bj',l,by rw[g];exact x⟩
  exact⟨a7,q1.trans c1,c2,b2.trans c3,c4⟩
structure DOk (d:wO) (done:List Int) (Df:Int->Int->Int->Prop):Prop where
 dom:∀v,(d.1 v).isSome=true↔v∈done
 val:∀v i k,Df v i k->d.1 v=some i/\d.2 v=some k
theorem DOk.def{c:List Int}(h:DOk d c Df){v i:Int}(l:v ∉ c)(hr:0<=v/\v<=65535):
 ∃d',rB d v i k=some d'/\DOk d' (c++ [v]) (fun v' i' k'=>Df v' i' k'∨(v'=v/\i'=i/\k'=k)):=by
 have m:¬((d.1 v).isSome=true∨v<0∨65535<v):=by
  rintro(e|e|e)
  ·exact l ((h.dom v).1 e)
  ·omega
  ·omega
 refine⟨(lS d.1 v i,lS d.2 v k),?_,fun w=>?_,fun w i' k' g=>?_⟩
 ·unfold rB;rw[if_neg m]
 ·unfold lS;simp only[Jl,Jo]
  by_cases e:w=v
  ·rw[if_pos e];simp[e]
  ·rw[if_neg e,h.dom w];simp[e]
 ·unfold lS;rcases g with g|⟨rfl,rfl,rfl⟩
  ·have h1:=h.val w i' k' g;have j:w≠v:=fun e=>l (by rw[<-e];exact(h.dom w).1 (by rw[h1.1];rfl))
   simp only[if_neg j];exact h1
  ·simp
theorem DOk.weak{c:List Int}{Dg:Int->Int->Int->Prop}(h:DOk d c Df)(hg:∀v i k,Dg v i k->Df v i k):DOk d c Dg:=⟨h.dom,fun v i k e=>h.val v i k (hg v i k e)⟩
theorem DOk.pars {i:Int}:∀(vs:List Int) (d:wO) (done:List Int) (Df:Int->Int->Int->Prop),DOk d done Df->(done++vs).Nodup->(∀v∈vs,0<=v/\v<=65535)->
 ∃d',vJ i vs d=some d'/\DOk d' (done++vs) (fun v' i' k'=>Df v' i' k'∨(v'∈vs/\i'=i/\k'=-1))
 | [],d,done,Df,h,_,_=>⟨d,rfl,by rw[Ua];exact h.weak (fun v i k e=>e.elim (fun e=>e) (fun e=>by cases e.1))⟩
 |v::vs,d,done,Df,h,hn,hr=>by
  have hv:v ∉ done:=fun e=>(Qq.1 hn).2.2 v e v (.head _) rfl
  obtain⟨d1,h1,h2⟩:=h.def (i:=i) (k:=-1) hv (hr v (.head _));have c:((done++ [v])++vs).Nodup:=by rw[Nv];exact hn
  obtain⟨d2,h3,g⟩:=DOk.pars vs d1 _ _ h2 c (fun w hw=>hr w (.tail _ hw));refine⟨d2,by unfold vJ;rw[h1];exact h3,?_⟩;rw[Nv] at g;refine g.weak (fun w i' k' e=>?_);rcases e with e|⟨e1,e2,e3⟩
  ·exact .inl (.inl e)
  ·rcases Jq.1 e1 with rfl|e1
   ·exact .inl (.inr ⟨rfl,e2,e3⟩)
   ·exact .inr ⟨e1,e2,e3⟩
theorem gY{os:List IOp}(h:0<=o.res):abo (o::os)=o.res::abo os:=by unfold abo;rw[List.filter_cons_of_pos (by simpa using h)];rfl
theorem abm{os:List IOp}(h:¬0<=o.res):abo (o::os)=abo os:=by unfold abo;rw[List.filter_cons_of_neg (by simpa using h)]
theorem DOk.ops {p:IProg}{i:Int}:∀(os:List IOp) (k:Int) (d:wO) (done:List Int) (Df:Int->Int->Int->Prop),DOk d done Df->(done++abo os).Nodup->(∀v∈abo os,0<=v/\v<=65535)->(∀o∈os,opF p o=true)->
 ∃d',sS p i os k d=some d'/\DOk d' (done++abo os) (fun v' i' k'=>Df v' i' k'∨(i'=i/\∃(j:Nat) (o:IOp),os[j]? =some o/\o.res=v'/\0<=v'/\k'=k+(j:Int)))
 | [],k,d,done,Df,h,_,_,_=>⟨d,rfl,by
  rw[show abo []=[] from rfl,Ua]
  exact h.weak (fun v i k e=>e.elim (fun e=>e) (fun e=>by obtain⟨_,j,o,h1,_⟩:=e;simp at h1))⟩
 |o::os,k,d,done,Df,h,hn,hr,ho=>by
  by_cases h0:0<=o.res
  ·rw[gY h0] at hn hr ⊢;have hv:o.res ∉ done:=fun e=>(Qq.1 hn).2.2 _ e _ (.head _) rfl
   obtain⟨d1,h1,h2⟩:=h.def (i:=i) (k:=k) hv (hr _ (.head _));have g:((done++ [o.res])++abo os).Nodup:=by rw[Nv];exact hn
   obtain⟨d2,h3,c⟩:=DOk.ops os (k+1) d1 _ _ h2 g (fun w hw=>hr w (.tail _ hw)) (fun x hx=>ho x (.tail _ hx));refine⟨d2,by unfold sS;rw[if_pos (ho o (.head _)),if_pos h0,h1];exact h3,?_⟩;rw[Nv] at c;refine c.weak (fun w i' k' e=>?_);rcases e with e|⟨e1,j,x,e2,e3,e4,e5⟩
   ·exact .inl (.inl e)
   ·cases j with
    |zero=>
     cases e2
     exact .inl (.inr ⟨e3.symm,e1,by omega⟩)
    |succ j=>exact .inr ⟨e1,j,x,e2,e3,e4,by omega⟩
  ·rw[abm h0] at hn hr ⊢;obtain⟨d2,h3,c⟩:=DOk.ops os (k+1) d done Df h hn hr (fun x hx=>ho x (.tail _ hx));refine⟨d2,by unfold sS;rw[if_pos (ho o (.head _)),if_neg h0];exact h3,c.weak (fun w i' k' e=>?_)⟩;rcases e with e|⟨e1,j,x,e2,e3,e4,e5⟩
   ·exact .inl e
   ·cases j with
    |zero=>cases e2;omega
    |succ j=>exact .inr ⟨e1,j,x,e2,e3,e4,by omega⟩
theorem DOk.blks{p:IProg}:∀(bs:List IBlk) (i:Nat) (d:wO) (done:List Int) (Df:Int->Int->Int->Prop),DOk d done Df->(done++aaI bs).Nodup->(∀v∈aaI bs,0<=v/\v<=65535)->(∀b∈bs,(∀o∈b.ops,opF p o=true)/\aw blocks b.term=true)->
 ∃d',uH p blocks bs i d=some d'/\DOk d' (done++aaI bs) (fun v' i' k'=>Df v' i' k'∨∃q:Nat,i'=((i+q:Nat):Int)/\fB bs v' q k')
 | [],i,d,done,Df,h,_,_,_=>⟨d,rfl,by
  rw[show aaI []=[] from rfl,Ua]
  exact h.weak (fun v i k e=>e.elim (fun e=>e) (fun e=>by obtain⟨q,_,b,hb,_⟩:=e;simp at hb))⟩
 |b::bs,i,d,done,Df,h,hn,hr,ho=>by
  have hd:aaI (b::bs)=b.params++(abo b.ops++aaI bs):=by
   show abu b++aaI bs=_
   unfold abu;rw[Nv]
  rw[hd] at hn hr ⊢;have n1:(done++b.params).Nodup:=by rw[<-Nv] at hn;exact(Qq.1 hn).1
  obtain⟨d1,a1,a2⟩:=DOk.pars (i:=i) b.params d done Df h n1 (fun v hv=>hr v (Jz _ hv));have n2:((done++b.params)++abo b.ops).Nodup:=by rw[<-Nv,<-Nv] at hn;exact(Qq.1 hn).1
  obtain⟨d2,b1,b2⟩:=DOk.ops (p:=p) (i:=i) b.ops 0 d1 _ _ a2 n2 (fun v hv=>hr v (Qf _ (Jz _ hv))) (ho b (.head _)).1;have n3:(((done++b.params)++abo b.ops)++aaI bs).Nodup:=by rw[Nv,Nv];exact hn
  obtain⟨d3,c1,c2⟩:=DOk.blks bs (i+1) d2 _ _ b2 n3 (fun v hv=>hr v (Qf _ (Qf _ hv))) (fun x hx=>ho x (.tail _ hx));refine⟨d3,?_,?_⟩
  ·unfold uH pS;rw[a1,Nw,b1,Nw,if_pos (ho b (.head _)).2,Nw];exact c1
  ·rw[Nv,Nv] at c2;refine c2.weak (fun w i' k' e=>?_);rcases e with e|⟨q,e1,x,e2,e3⟩
   ·exact .inl (.inl (.inl e))
   ·cases q with
    |zero=>
     cases e2;rcases e3 with⟨e3,e4⟩|⟨j,o,e3,e4,e5,e6⟩
     ·exact .inl (.inl (.inr ⟨e4,by rw[e1];rfl,e3⟩))
     ·exact .inl (.inr ⟨by rw[e1];rfl,j,o,e4,e5,e6,by omega⟩)
    |succ q=>exact .inr ⟨q,by rw[e1];omega,x,e2,e3⟩
abbrev ack (p:IProg)(f:List IBlk)(next:Nat)(pl:List Nat):Prop:=∃cur vals,MInv p f cur next vals (fun _=>False) (fun _=>False) pl
section
variable {p:IProg} {f:List IBlk} {next:Nat} {pl:List Nat} (h:ack p f next pl)
include h
theorem ack.term:∀b∈f,aw f b.term=true:=by
 obtain⟨cur,vals,h⟩:=h;intro b hb;obtain⟨i,hi⟩:=Ny hb;obtain⟨h1,h2,_⟩:=h.term i b hi (fun e=>e);unfold aw;rw[Jm,Oe];refine⟨fun e he=>?_,h1⟩;obtain⟨s,u,bs,e1,e2,e3,e4,_⟩:=h2 e he;have hs:=(Jh.1 e3).1
 have hb:xz f e.block=bs:=by
  unfold xz;rw[e1,Ni,Jj,e3];rfl
 unfold uM;simp only[Jm,decide_eq_true_eq];exact⟨⟨by omega,by omega⟩,by rw[hb];exact e4⟩
theorem ack.ne:f≠ []:=by
 obtain⟨cur,vals,h⟩:=h;intro e;have:=h.curl;rw[e] at this;simp at this
theorem ack.valid:zw (zy f):=nO h.ne h.term
theorem ack.ops:∀b∈f,∀o∈b.ops,opF p o=true:=by
 obtain⟨cur,vals,h⟩:=h;intro b hb o ho;obtain⟨i,hi⟩:=Ny hb;obtain⟨j,c⟩:=Ny ho;exact(h.ops i b hi j o c).1
end
theorem gK{f:List IBlk}{b:IBlk}(hb:f[u]? =some b):succ (zy f) u=b.term.to.map fun e=>e.block.toNat:=by
 unfold succ zy;rw[Jj,Jr,hb];rfl
section
variable {p:IProg} {f:List IBlk} {next:Nat} {pl:List Nat} (h:ack p f next pl)
include h
theorem ack.reach(hi:i<f.length):Reach (GE (zy f)) i:=by
 obtain⟨cur,vals,h⟩:=h;have hr:=h.rch i hi (fun e=>e);clear hi
 induction hr with
 |zero=>exact .refl trivial
 |step _ h2 h3 h4 ih=>
  refine .snoc ih ?_ trivial
  show _∈succ _ _
  rw[gK h2];exact Nu.2 ⟨_,h3,by rw[h4];rfl⟩
theorem ack.dom{b:Nat}(o:Abv pl b i):Dom (GE (zy f)) b i:=by
 obtain⟨cur,vals,h⟩:=h;intro t
 induction t with
 |refl hne=>
  cases o with
  |refl=>exact hne rfl
  |up _ h0 _=>omega
 |@snoc u s _ he hne ih=>
  cases o with
  |refl=>exact hne rfl
  |up h0 h1 h2=>
   have c:s∈succ (zy f) u:=he
   have j:u<f.length:=by
    rcases Nat.lt_or_ge u f.length with k|l
    ·exact k
    ·unfold succ at c;rw[Jj,Of (by rw[xu];exact l)] at c;cases c
   obtain⟨x,g⟩:∃x,f[u]? =some x:=⟨_,Jd j⟩
   rw[gK g] at c;obtain⟨e,m,d⟩:=Nu.1 c;obtain⟨_,t2,_⟩:=h.term u x g (fun e=>e);obtain⟨s',u',bs,e1,_,_,_,e5,e6⟩:=t2 e m;rw[e1,Ni] at d;subst d;rw[h0] at e5;cases e5;exact ih (h2.trans e6)
theorem ack.doms{b:Nat}(c:Abv pl b i)(hi:i<f.length):wE (zy f) b i=true:=by
 have hp:∀i u,pl[i]? =some u->0<i->u<i:=by obtain⟨cur,vals,h⟩:=h;exact h.par
 have hb:b<f.length:=by have:=c.le hp;omega
 exact(yO h.valid b i).2 ⟨h.reach hb,h.reach hi,h.dom c⟩
theorem ack.shapes (g:next<=65536):∃d,wg p f=some d/\∀v i k,fB f v i k->d.1 v=some (i:Int)/\d.2 v=some k:=by
 have ht:=h.term;have ho:=h.ops;obtain⟨cur,vals,h⟩:=h;have c:DOk ((fun _=>none,fun _=>none):wO) [] (fun _ _ _=>False):=⟨fun v=>by simp,fun v i k e=>e.elim⟩
 obtain⟨d,h1,h2⟩:=DOk.blks (p:=p) (blocks:=f) f 0 _ _ _ c (by rw[Op];exact h.nd) (fun v hv=>by have:=h.rng v hv;omega) (fun b hb=>⟨ho b hb,ht b hb⟩);refine⟨d,h1,fun v i k hd=>h2.val v i k (.inr ⟨i,by rw[Ng],hd⟩)⟩
theorem ack.known(c:∀v i k,fB f v i k->d.1 v=some (i:Int)/\d.2 v=some k){v:Int}(hi:i<f.length)(hk:Kn f pl v i k):yy d (zy f) i k v=true:=by
 obtain⟨b,a,h1,h2,h3⟩:=hk;obtain⟨e1,e2⟩:=c v b a h1;unfold yy;rw[e1,e2];simp only[Jm,Bool.not_eq_true',Ni];refine⟨?_,h.doms h2 hi⟩;rw[Bool.and_eq_false_iff]
 by_cases e:b=i
 ·right;have:=h3 e;simp;omega
 ·left;simp;omega
end
theorem gM{i:Int}:∀(os:List IOp) (k:Nat),(∀(j:Nat) (o:IOp),os[j]? =some o->(rR o).all (yy d g i ((k+j:Nat):Int))=true)->xF d g i os k=true
 | [],k,h=>rfl
 |o::os,k,h=>by
  unfold xF;rw[Jm];refine⟨h 0 o rfl,?_⟩
  have:=gM os (k+1) (fun j x hx=>by
   have:=h (j+1) x hx;rw[show k+1+j=k+(j+1) by omega]
   exact this)
  rw[show((k+1:Nat):Int)=(k:Int)+1 by omega] at this;exact this
theorem fR:∀(bs:List IBlk) (i:Nat),(∀(q:Nat) (b:IBlk),bs[q]? =some b->aaC d g b ((i+q:Nat):Int)=true)->tO d g bs i=true
 | [],i,h=>rfl
 |b::bs,i,h=>by
  unfold tO;rw[Jm];refine⟨h 0 b rfl,?_⟩
  have:=fR bs (i+1) (fun q x hx=>by
   have:=h (q+1) x hx;rw[show i+1+q=i+(q+1) by omega]
   exact this)
  rw[show((i+1:Nat):Int)=(i:Int)+1 by omega] at this;exact this
theorem acd(hv:zw g)(hr:∀i,i<g.length->Reach (GE g) i):(vD g).length=g.length:=by
 obtain⟨ns,c⟩:=adR hv;rw[c.eq]
 have:=ajj c.nodup (List.nodup_range (n:=g.length)) (fun x=>by
  rw[Ol]
  exact⟨fun hx=>c.lt x hx,fun hx=>(c.mem x).2 (hr x hx)⟩)
 rw[this,Un]
theorem ack.rest{p:IProg}{f:List IBlk}{next:Nat}{pl:List Nat}(h:ack p f next pl)(c:∀v i k,fB f v i k->d.1 v=some (i:Int)/\d.2 v=some k):iM f d=true:=by
 unfold iM;rw[Jm,decide_eq_true_eq];refine⟨?_,?_⟩
 ·rw[acd h.valid (fun i hi=>h.reach (by rw[xu] at hi;exact hi)),xu]
 ·refine fR f 0 (fun q b hb=>?_);rw[Ng];have hq:=(Jh.1 hb).1;unfold aaC;rw[Jm];have l:=h;obtain⟨cur,vals,g⟩:=l;refine⟨gM b.ops 0 (fun j o ho=>?_),?_⟩
  ·rw[Oe];intro v hv;rw[Ng];exact h.known c hq ((g.ops q b hb j o ho).2 v hv)
  ·rw[Oe];intro v hv;exact h.known c hq ((g.term q b hb (fun e=>e)).2.2 v hv)
theorem ack.function {p:IProg}{f:List IBlk}{next:Nat}{pl:List Nat}(h:ack p f next pl)(i:next<=65536){n:Nat}(hf:p.funcs[n]? =some f){b0:IBlk}(c:f[0]? =some b0)(g:(b0.params.length:Int)=p.args.getD n 0):yi p n=true:=by
 obtain⟨d,h1,h2⟩:=h.shapes i;have h3:=h.rest h2;unfold yi;rw[Jj,hf,Ot]
 match f,h1,h3,c with
 | [],_,_,c=>simp at c
 |b::bs,h1,h3,c=>
  cases c;simp only[Jm,decide_eq_true_eq];refine⟨g,?_⟩;rw[h1];exact h3
theorem jr{B:Nat}{b9:Value}(b0:wX w B b9 blocks)(hB:B<=w.heap.size)(hs:vZ blocks):
 I 17 #[.agg #[b9]] w (afl w (aaG blocks)):=by
 obtain⟨fa,fc,rfl,e8,e6⟩:=b0.form;have e5:=hs.1;have h:=Ja (Jb b0 (Jb hB hs));have b8:Y w (w.alloc (G #[.slice fa blocks.length fc] 39)):=(Below.refl _ _).alloc (Je _) _;have a2:=zI (W:=w) (o:=G #[.slice fa blocks.length fc] 39) rfl;obtain⟨fb,a6⟩:∃fb,w.heap.size=fb:=⟨_,rfl⟩
 clear b0 hB hs;go_enter Tryz.func17,Tryz.ntmps17;go_upto_region 1 with fail;generalize d1:w.alloc (G #[.slice fa blocks.length fc] 39)=W1 at *;rw[a6] at a2;have c:=Ja (Jb b8 (Jb a2 a6));clear b8 a2 d1 a6;go_wp2
 go_loopw [3,4] (fun nv kv wx=>∃(k:Nat) (n:Int),k<=blocks.length/\nv=U n/\kv=U k/\Hid (n=(blocks.take k).foldl iL 0/\Y W1 wx)) (fun _ kv _=>blocks.length-(intOf kv).toNat)
 case atStart=>exact⟨0,0,Jt _,rfl,rfl,Ja ⟨rfl,Below.refl _ _⟩⟩
 case round=>
  obtain⟨k,n,hk,rfl,rfl,g⟩:=hrel;have a1:=zH g.out.2 c.out.2.1 (lt_of_block c.out.2.1);have c0:=zA (i:=0) a1 rfl;have e7:=lt_of_block a1
  by_cases b4:k<blocks.length
  ·have c4:(k:Int)<(blocks.length:Int):=Zo;obtain⟨b,hb⟩:∃b,blocks[k]? =some b:=⟨_,Jd b4⟩
   have b6:wX wr B (.slice fa blocks.length fc) blocks:=(h.out.1.below yT ((c.out.1.trans (g.out.2.mono c.out.1.size)).mono h.out.2.1))
   obtain⟨bb,bo,c7,c9,g2,g3,h64,pv,ov,tv,g0,g1,g4,y,a0,a3⟩:=b6.get hb;obtain⟨pa,pc,rfl,e1,d9⟩:=y.form;obtain⟨oa,oc,rfl,e4,e2⟩:=a0.form;obtain⟨ta,tc,rfl,d8,d6⟩:=a3.form;have d5:bb<wr.heap.size:=Jy c9 (by have:=h.out.2.1;have:=(c.out.1.trans (g.out.2.mono c.out.1.size)).size;omega);have a7:=h.out.2.2.2 b (Ji hb);have t:Y wr (wr.alloc (G #[.slice pa b.params.length pc,.slice oa b.ops.length oc,U b.term.kind,U b.term.a,.slice ta b.term.to.length tc] 84)):=(Below.refl _ _).alloc (Je _) _;have l:=zI (W:=wr) (o:=G #[.slice pa b.params.length pc,.slice oa b.ops.length oc,U b.term.kind,U b.term.a,.slice ta b.term.to.length tc] 84) rfl;subst c7;have e0:=a7.1;have e3:=a7.2.1;obtain⟨tb,a4⟩:∃tb,wr.heap.size=tb:=⟨_,rfl⟩
   have HT:=Ja a4;clear b6 a7;go_upto_region 6 with fail;generalize d0:wr.alloc (G #[.slice pa b.params.length pc,.slice oa b.ops.length oc,U b.term.kind,U b.term.a,.slice ta b.term.to.length tc] 84)=W5 at *;rw[a4] at l;have t0:=zA (i:=0) l rfl;have t1:=zA (i:=1) l rfl;have d7:=lt_of_block l;have c8:∀q,B<=q->Below q wr W5->True:=fun _ _ _=>trivial
   have b2:=(y.below zO (t.mono (show B<=wr.heap.size by have:=h.out.2.1;have:=(c.out.1.trans (g.out.2.mono c.out.1.size)).size;omega)))
   have b3:=(a0.below xA (t.mono (show B<=wr.heap.size by have:=h.out.2.1;have:=(c.out.1.trans (g.out.2.mono c.out.1.size)).size;omega)))
   have b7:=g.out.2.trans (t.mono g.out.2.size);have H5:=Ja (Jb b2 (Jb b3 (Jb b7 hb)));have e9:B<=wr.heap.size:=by have:=h.out.2.1;have:=(c.out.1.trans (g.out.2.mono c.out.1.size)).size;omega
   have d3:wr.heap.size<=W5.heap.size:=t.size;clear c8 b2 b3 b7 hb y a0 a3 t l g0 g1 g2 g3 g4 h64 a1 a4 d0;go_wp2
   go_loop [3,6] (fun nv jv=>∃(j:Nat) (m:Int),j<=b.params.length/\nv=U m/\jv=U j/\Hid (m=qK n (b.params.take j))) (fun _ jv=>b.params.length-(intOf jv).toNat)
   case atStart=>exact⟨0,n,Jt _,rfl,rfl,Ja rfl⟩
   case round=>
    obtain⟨j,m,hj,rfl,rfl,HM⟩:=hrel
    by_cases d:j<b.params.length
    ·have b5:(j:Int)<(b.params.length:Int):=Zo;obtain⟨x,u⟩:∃x,b.params[j]? =some x:=⟨_,Jd d⟩
     obtain⟨pb,po,a5,c5,b1,c2⟩:=H5.out.1.get u;rw[Nk] at b1;subst a5;have c3:pb<W5.heap.size:=Zo;have HX:=Ja u;clear u c2;go_wp2
     go_round
     case rel=>
      refine⟨j+1,_,d,rfl,by go_num,Ja ?_⟩;unfold qK;rw[wt _ _ HX.out,mZ,HM.out];rfl
     case measure=>simp[intOf];omega
    ·obtain rfl:j=b.params.length:=by omega
     have b5:¬(b.params.length:Int)<(b.params.length:Int):=Zo;have d2:=Ja (show m=qK n b.params by rw[HM.out,Nl]);clear hj HM d;go_wp2
     go_loop [3,7] (fun nv jv=>∃(j:Nat) (m2:Int),j<=b.ops.length/\nv=U m2/\jv=U j/\Hid (m2=o8 m (b.ops.take j))) (fun _ jv=>b.ops.length-(intOf jv).toNat)
     case atStart=>exact⟨0,m,Jt _,rfl,rfl,Ja rfl⟩
     case round=>
      obtain⟨j,m2,hj,rfl,rfl,HM⟩:=hrel
      by_cases d:j<b.ops.length
      ·have b5:(j:Int)<(b.ops.length:Int):=Zo;obtain⟨x,u⟩:∃x,b.ops[j]? =some x:=⟨_,Jd d⟩
       obtain⟨pb,po,a5,c5,_,b1,_⟩:=H5.out.2.1.get u;subst a5;have c3:pb<W5.heap.size:=Zo;have HX:=Ja u;clear u;go_wp2
       go_round
       case rel=>
        refine⟨j+1,_,d,rfl,by go_num,Ja ?_⟩;unfold o8;rw[wt _ _ HX.out,mZ,HM.out];rfl
       case measure=>simp[intOf];omega
      ·obtain rfl:j=b.ops.length:=by omega
       have d4:¬(b.ops.length:Int)<(b.ops.length:Int):=Zo;clear hj d;go_wp2;go_roundw
       case rel=>
        refine⟨k+1,m2,b4,rfl,by go_num,Ja ⟨?_,H5.out.2.2.1⟩⟩;rw[wt _ _ H5.out.2.2.2,<-g.out.1,HM.out,Nl,d2.out];rfl
       case measure=>simp[intOf];omega
  ·obtain rfl:k=blocks.length:=by omega
   have c4:¬(blocks.length:Int)<(blocks.length:Int):=Zo;clear a1;go_wp2;go_ret;refine⟨?_,c.out.1.trans (g.out.2.mono c.out.1.size)⟩;rw[g.out.1,Nl];rfl
abbrev Tr:=Option (Nat×Nat)
variable {tr:Tr}
def trK (tr:Tr):Nat:=(tr.getD (0,0)).1
def trI (tr:Tr):Nat:=(tr.getD (0,0)).2
def ep (K:MK)(m:Mach)(tr:Tr)(dp:Int)(ov:Value):Array Value:=
 #[K.V.fv,K.V.av,U K.E.p.entry,U K.E.p.handler,K.V.dv,K.V.bv,T K.rb 8192 8192,K.inv,K.irqv,U m.fuel,.bool tr.isSome,U dp,O 0,ov,U (trK tr:Int),O (trI tr:Int),.string ⟨#[]⟩,U (m.inputs:Int),U (m.polls:Int)]
structure MachQ (w:World) (K:MK) (m:Mach) (tr:Tr) (dp:Int) (ov:Value):Prop where
 blk:w.heap[K.pm]? =some (.cells (ep K m tr dp ov) 114 (0,0))
 ram:w.heap[K.rb]? =some (.cells (m.ram.map bd).toArray 5 (0,0))
 rlen:m.ram.length=8192
 rlt:∀x∈m.ram,x<256
 out:w.ownsRow K.B 117 2 ov m.out.length (qO m.out)
 olt:∀p∈m.out,p.1<65536/\p.2<65536
 obd:m.out.length+m.fuel.toNat<=4000000
 fuel:-1<=m.fuel/\m.fuel<=4000000/\(tr=none->0<=m.fuel)
 inp:m.inputs<=K.E.inn.length
 pol:m.polls<=K.E.irq.length
 gpm:K.B<=K.pm
 grb:K.B<=K.rb
 prog:ProgIn w K.B K.V K.E.p
 inn:wV w K.B K.inv K.E.inn
 irq:dL w K.B K.irqv K.E.irq
def di:Obj->Prop
 |.cells _ t _=>t≠114/\t≠117/\t≠5
 |_=>True
structure FrmQ (B:Nat) (w w':World):Prop where
 below:Below B w w'
 kept:∀(k:Nat) (o:Obj),w.heap[k]? =some o->di o->w'.heap[k]? =some o
theorem FrmQ.refl (B:Nat)(w:World):FrmQ B w w:=⟨Below.refl _ _,fun _ _ h _=>h⟩
theorem FrmQ.trans {B:Nat}{a b c:World}(h:FrmQ B a b)(k:FrmQ B b c):FrmQ B a c:=⟨h.below.trans k.below,fun i o hi hs=>k.kept i o (h.kept i o hi hs) hs⟩
theorem FrmQ.drewN{B n:Nat}{a:World}(h:FrmQ B a w):FrmQ B a (w.drewN n):=⟨yC h.below,h.kept⟩
theorem FrmQ.alloc{B:Nat}{a:World}(h:FrmQ B a w)(hB:B<=a.heap.size)(o:Obj):FrmQ B a (w.alloc o):=⟨h.below.alloc (Jn hB h.below.size) o,fun i o' hi hs=>zB (h.kept i o' hi hs)⟩
theorem FrmQ.ofBelow{B:Nat}(hb:Y w w')(hB:B<=w.heap.size):FrmQ B w w':=⟨hb.mono hB,fun i o hi _=>zH hb hi (lt_of_block hi)⟩
theorem FrmQ.set{B:Nat}{a:World}(h:FrmQ B a w){b:Nat}{cs:Array Value}{t:TypeId}(hb:Q w b cs t)(hB:B<=b)(ht:¬di (G cs t))(u:Value):FrmQ B a (w.setCell ⟨b,i,none⟩ u):=
 ⟨h.below.setCell hB u,fun k o hk hs=>by
   have h1:=h.kept k o hk hs;refine zR h1 ?_;rintro rfl;rw[hb] at h1
   exact ht (by rw[Nt h1];exact hs)⟩
theorem MachQ.cell {w:World}{K:MK}{m:Mach}{tr:Tr}{dp:Int}{ov:Value}(h:MachQ w K m tr dp ov){i:Nat}{v:Value}(hv:(ep K m tr dp ov)[i]? =some v):A w K.pm i v:=zA h.blk hv
section
variable {w:World} {K:MK} {m:Mach} {tr:Tr} {dp:Int} {ov:Value} (h:MachQ w K m tr dp ov)
include h
theorem MachQ.c0:A w K.pm 0 K.V.fv:=h.cell rfl
theorem MachQ.c3:A w K.pm 3 (U K.E.p.handler):=h.cell rfl
theorem MachQ.c4:A w K.pm 4 K.V.dv:=h.cell rfl
theorem MachQ.c5:A w K.pm 5 K.V.bv:=h.cell rfl
theorem MachQ.c6:A w K.pm 6 (T K.rb 8192 8192):=h.cell rfl
theorem MachQ.c7:A w K.pm 7 K.inv:=h.cell rfl
theorem MachQ.c8:A w K.pm 8 K.irqv:=h.cell rfl
theorem MachQ.c9:A w K.pm 9 (U m.fuel):=h.cell rfl
theorem MachQ.c10:A w K.pm 10 (.bool tr.isSome):=h.cell rfl
theorem MachQ.c11:A w K.pm 11 (U dp):=h.cell rfl
theorem MachQ.c13:A w K.pm 13 ov:=h.cell rfl
theorem MachQ.c14:A w K.pm 14 (U (trK tr:Int)):=h.cell rfl
theorem MachQ.c15:A w K.pm 15 (O (trI tr:Int)):=h.cell rfl
theorem MachQ.c17:A w K.pm 17 (U (m.inputs:Int)):=h.cell rfl
theorem MachQ.c18:A w K.pm 18 (U (m.polls:Int)):=h.cell rfl
theorem MachQ.free (i:Nat):N w K.pm i:=zE h.blk
theorem MachQ.lt:K.pm<w.heap.size:=lt_of_block h.blk
theorem MachQ.size:K.B<w.heap.size:=Nat.lt_of_le_of_lt h.gpm (lt_of_block h.blk)
theorem MachQ.ne:K.rb≠K.pm:=by
 intro e;have h1:=h.blk;have h2:=h.ram;rw[e,h1] at h2;simp at h2
theorem MachQ.keep(hb:Y w w'):MachQ w' K m tr dp ov:=
 ⟨zH hb h.blk (lt_of_block h.blk),zH hb h.ram (lt_of_block h.ram),h.rlen,h.rlt,p7 h.out hb (Je _),h.olt,h.obd,h.fuel,h.inp,h.pol,h.gpm,h.grb,
  h.prog.below (hb.mono (Jn h.gpm (Qd (lt_of_block h.blk)))),h.inn.below zr (hb.mono (Jn h.gpm (Qd (lt_of_block h.blk)))),h.irq.below xQ (hb.mono (Jn h.gpm (Qd (lt_of_block h.blk))))⟩
theorem MachQ.drewN (n:Nat):MachQ (w.drewN n) K m tr dp ov:=h.keep (yL _ _ _)
theorem MachQ.frm (i:Nat)(u:Value):FrmQ K.B w (w.setCell ⟨K.pm,i,none⟩ u):=(FrmQ.refl _ _).set h.blk h.gpm (by simp[di]) u
theorem MachQ.put(i:Nat)(u:Value){tr':Tr}{dp':Int}(c:(ep K m tr dp ov).setIfInBounds i u=ep K m' tr' dp' ov)(h1:m'.ram=m.ram)(h2:m'.out=m.out)(h3:m'.out.length+m'.fuel.toNat<=4000000)
 (j:-1<=m'.fuel/\m'.fuel<=4000000/\(tr'=none->0<=m'.fuel)) (g:m'.inputs<=K.E.inn.length) (d:m'.polls<=K.E.irq.length):MachQ (w.setCell ⟨K.pm,i,none⟩ u) K m' tr' dp' ov:=by
 refine⟨?_,zR (by rw[h1];exact h.ram) (by simpa using h.ne),by rw[h1];exact h.rlen,by rw[h1];exact h.rlt,?_,by rw[h2];exact h.olt,h3,j,g,d,h.gpm,h.grb,?_,?_,?_⟩
 ·rw[zD h.blk,c]
 ·rw[h2];exact ownsRow_setCell_other h.out (by intro e;exact zC h.out h.blk (.inr Zd) (by simpa using e)) _
 ·exact h.prog.below ((Below.refl _ _).setCell h.gpm _)
 ·exact h.inn.below zr ((Below.refl _ _).setCell h.gpm _)
 ·exact h.irq.below xQ ((Below.refl _ _).setCell h.gpm _)
end
theorem ew{ov:Value}(h:MachQ w K m none dp ov)(k i:Nat):I 101 #[F K.pm,U k,O i] w fun e w'=>e=.returned (.tuple #[])/\MachQ w' K m (some (k,i)) dp ov/\FrmQ K.B w w':=by
 have c10:=h.c10;have c14:=h.c14;have c15:=h.c15;have j:=h.free 10;have g:=h.free 14;have d:=h.free 15
 have c:=Ja (show MachQ (((w.setCell ⟨K.pm,10,none⟩ (.bool true)).setCell ⟨K.pm,14,none⟩ (U k)).setCell ⟨K.pm,15,none⟩ (O i)) K m (some (k,i)) dp ov/\FrmQ K.B w (((w.setCell ⟨K.pm,10,none⟩ (.bool true)).setCell ⟨K.pm,14,none⟩ (U k)).setCell ⟨K.pm,15,none⟩ (O i)) from by
  have h1:=h.put 10 (.bool true) (m':=m) (tr':=some (0,0)) (dp':=dp) rfl rfl rfl h.obd ⟨h.fuel.1,h.fuel.2.1,fun e=>by cases e⟩ h.inp h.pol;have h2:=h1.put 14 (U k) (m':=m) (tr':=some (k,0)) (dp':=dp) rfl rfl rfl h.obd ⟨h.fuel.1,h.fuel.2.1,fun e=>by cases e⟩ h.inp h.pol;have h3:=h2.put 15 (O i) (m':=m) (tr':=some (k,i)) (dp':=dp) rfl rfl rfl h.obd ⟨h.fuel.1,h.fuel.2.1,fun e=>by cases e⟩ h.inp h.pol
  exact⟨h3,((h.frm 10 _).trans (h1.frm 14 _)).trans (h2.frm 15 _)⟩)
 have hl:=h.lt;clear h;go_enter Tryz.func101,Tryz.ntmps101;go_wp2
 go_end0
 exact⟨rfl,c.out.1,c.out.2⟩
theorem bL{ov:Value}(h:MachQ w K m none dp ov)(hf:0<m.fuel):I 102 #[F K.pm] w fun e w'=>e=.returned (.bool true)/\MachQ w' K m.pay none dp ov/\FrmQ K.B w w':=by
 have c9:=h.c9;have c10:=h.c10;have f9:=h.free 9;have hl:=h.lt;have d:¬m.fuel<1:=Zo;have hb:=h.fuel.2.1;have c:=Ja (Jb (h.put 9 (U (m.fuel-1)) (m':=m.pay) (tr':=none) (dp':=dp) rfl rfl rfl (by have:=h.obd;show m.out.length+(m.fuel-1).toNat<=_;omega) ⟨by show -1<=m.fuel-1;omega,by show m.fuel-1<=_;omega,fun _=>by show 0<=m.fuel-1;omega⟩ h.inp h.pol) (h.frm 9 (U (m.fuel-1))));clear h;go_enter Tryz.func102,Tryz.ntmps102;go_wp2;go_ret;exact⟨rfl,c.out.1,c.out.2⟩
theorem a9{ov:Value}(h:MachQ w K m none dp ov)(hf:m.fuel<=0):I 102 #[F K.pm] w fun e w'=>e=.returned (.bool false)/\MachQ w' K m.pay (some (7,0)) dp ov/\FrmQ K.B w w':=by
 have c9:=h.c9;have k:m.fuel<1:=Zo;have i:=h.fuel.2.2 rfl;have H:=Ja h;clear h;go_enter Tryz.func102,Tryz.ntmps102;go_wp2_with (go_at_call 101;go_must (refine(ew H.out 7 0).mono ?_;rintro e w1 ⟨rfl,h1,c⟩;have d9:=h1.c9;have j:=h1.c10;have g9:=h1.free 9;have g:=h1.lt;have d:=Ja (Jb (h1.put 9 (U (m.fuel-1)) (m':=m.pay) (tr':=some (7,0)) (dp':=dp) rfl rfl rfl (by have:=h1.obd;show m.out.length+(m.fuel-1).toNat<=_;omega) ⟨by show -1<=m.fuel-1;omega,by show m.fuel-1<=_;omega,fun e=>by cases e⟩ h1.inp h1.pol) (c.trans (h1.frm 9 (U (m.fuel-1)))));clear h1 c))
 go_ret;exact⟨rfl,d.out.1,d.out.2⟩
def PostQ (K:MK)(w:World)(R:Res Nat)(w':World):Prop:=
 match R with
 |.ok x m'=>(∃dp ov,MachQ w' K m' none dp ov)/\FrmQ K.B w w'/\x<65536
 |.trap k i m'=>(∃(dp:Int) (ov:Value) (fu:Int),MachQ w' K {m' with fuel:=fu } (some (k,i)) dp ov)/\FrmQ K.B w w'
def valQ:Res Nat->Value
 |.ok x _=> O x
 |.trap _ _ _=> O 0
def vh (K:MK)(w:World)(R:Res Nat)(e:Ending)(w':World):Prop:=e=.returned (valQ R)/\PostQ K w R w'
def et (K:MK)(w:World)(R:Res Nat)(e:Ending)(w':World):Prop:=e=.returned (.tuple #[])/\PostQ K w R w'
theorem vh.ok{ov:Value}(h:MachQ w' K m' none dp ov)(hf:FrmQ K.B w w')(c:x<65536):vh K w (.ok x m') (.returned (O x)) w':=⟨rfl,⟨dp,ov,h⟩,hf,c⟩
theorem vh.trap{k:Nat}{ov:Value}(h:MachQ w' K m' (some (k,i)) dp ov)(hf:FrmQ K.B w w'):vh K w (.trap k i m') (.returned (O 0)) w':=⟨rfl,⟨dp,ov,m'.fuel,h⟩,hf⟩
theorem et.ok{ov:Value}(h:MachQ w' K m' none dp ov)(hf:FrmQ K.B w w')(c:x<65536):et K w (.ok x m') (.returned (.tuple #[])) w':=⟨rfl,⟨dp,ov,h⟩,hf,c⟩
theorem et.trap{k:Nat}{ov:Value}(h:MachQ w' K m' (some (k,i)) dp ov)(hf:FrmQ K.B w w'):et K w (.trap k i m') (.returned (.tuple #[])) w':=⟨rfl,⟨dp,ov,m'.fuel,h⟩,hf⟩
theorem MachQ.ramCell{ov:Value}(h:MachQ w K m tr dp ov){a:Nat}(d:wo a=true):A w K.rb (a-16384) (.int .u8 (tC m a:Nat))/\tC m a<256/\N w K.rb (a-16384):=by
 have h1:=(qG a).1 d;obtain⟨x,c⟩:∃x,m.ram[a-16384]? =some x:=⟨_,Jd (by rw[h.rlen];omega)⟩
 have e:tC m a=x:=by unfold tC;rw[Jj,c];rfl
 rw[e];exact⟨zA h.ram (by simp[c,bd]),h.rlt x (Ji c),zE h.ram⟩
theorem MachQ.setR{ov:Value}(h:MachQ w K m tr dp ov)(a x:Nat)(g:x<256):MachQ (w.setCell ⟨K.rb,a-16384,none⟩ (.int .u8 (x:Int))) K (m.put a x) tr dp ov/\FrmQ K.B w (w.setCell ⟨K.rb,a-16384,none⟩ (.int .u8 (x:Int))):=by
 have c:FrmQ K.B w (w.setCell ⟨K.rb,a-16384,none⟩ (.int .u8 (x:Int))):=(FrmQ.refl _ _).set h.ram h.grb (by simp[di]) _;refine⟨⟨zR h.blk (by simpa using Ne.symm h.ne),?_,by simp[Mach.put,h.rlen],?_,ownsRow_setCell_other h.out ?_ _,h.olt,h.obd,h.fuel,h.inp,h.pol,h.gpm,h.grb,h.prog.below c.below,h.inn.below zr c.below,h.irq.below xQ c.below⟩,c⟩
 ·rw[zD h.ram];simp[Mach.put,bd,Ox]
 ·intro y d;rcases Qe d with d|rfl
  ·exact h.rlt y d
  ·exact g
 ·intro e;exact zC h.out h.ram (.inr Zd) (by simpa using e)
theorem cC{a:Nat}(c:wo a=true):I 144 #[F K.pm,O a] w fun e w'=>e=.returned (.bool true)/\w=w':=by
 have h1:=(qG a).1 c;have t1:¬(a:Int)<16384:=Zo;have t2:¬(24575:Int)<(a:Int):=Zo;clear c;go_enter Tryz.func144,Tryz.ntmps144;go_wp2;go_ret;exact⟨rfl,rfl⟩
theorem bW{ov:Value}(h:MachQ w K m none dp ov){a:Nat}(g:¬wo a=true):I 144 #[F K.pm,O a] w fun e w'=>e=.returned (.bool false)/\MachQ w' K m (some (2,a)) dp ov/\FrmQ K.B w w':=by
 have H:=Ja h;clear h
 by_cases h1:(a:Int)<16384
 ·clear g;go_enter Tryz.func144,Tryz.ntmps144;go_wp2_with (go_at_call 101;go_must (refine(ew H.out 2 a).mono ?_;rintro e w1 ⟨rfl,c,d⟩))
  go_ret;exact⟨rfl,c,d⟩
 ·have h2:(24575:Int)<(a:Int):=by rw[qG] at g;omega
  clear g;go_enter Tryz.func144,Tryz.ntmps144;go_wp2_with (go_at_call 101;go_must (refine(ew H.out 2 a).mono ?_;rintro e w1 ⟨rfl,c,d⟩))
  go_ret;exact⟨rfl,c,d⟩
def dQ (m:Mach)(a n:Nat):Res Nat:=if n=1 then abh m a else pR m a
def ajk (m:Mach)(a:Nat):Nat->Nat
 |0=>0
 |1=>tC m a
 |_=>tC m a+256*tC m (aeA a)
theorem dV {a:Nat}(h:wo a=true):IntKind.u16.wrap ((a:Int)-16384)=((a-16384:Nat):Int):=by
 have:=(qG a).1 h;rw[xY];omega
theorem load_q{ov:Value}(h:MachQ w K m none dp ov){a n:Nat}(b4:a<65536)(hn:n=1∨n=2):I 125 #[F K.pm,O a,U n] w (vh K w (dQ m a n)):=by
 have c6:=h.c6;have hl:=h.lt;have H:=Ja h;have HN:=Ja hn;clear h hn;go_enter Tryz.func125,Tryz.ntmps125;go_wp2
 go_loopw [7,8] (fun xv kv wx=>∃k:Nat,k<=n/\xv=O (ajk m a k:Nat)/\kv=U k/\wx=w/\Hid ((1<=k->wo a=true)/\(2<=k->wo (aeA a)=true))) (fun _ kv _=>n-(intOf kv).toNat)
 case atStart=>exact⟨0,Jt _,rfl,rfl,rfl,Ja ⟨fun h=>by omega,fun h=>by omega⟩⟩
 case round=>
  obtain⟨k,hk,rfl,rfl,hw,i⟩:=hrel;subst hw
  by_cases j:k<n
  ·have a2:(k:Int)<n:=Zo;have a6:k=0∨k=1:=by have:=HN.out;omega
   have a0:=Ja j;rcases a6 with rfl|rfl
   ·have a3:IntKind.u16.wrap (a:Int)=(a:Int):=by rw[xY];omega
    have H0:ajk m a 0=0:=rfl;rw[H0] at *;clear H0 j
    by_cases c:wo a=true
    ·obtain⟨cr,hr,a4⟩:=H.out.ramCell c;have a1:=dV c;have o:=(qG a).1 c;have a7:((a-16384:Nat):Int)<8192:=Zo;have d:=Ja c;have HR:=Ja hr;clear c o;go_wp2_with (go_at_call 144;go_must (refine(cC d.out).mono ?_;rintro e w1 ⟨rfl,rfl⟩))
     go_roundw
     case rel=>exact⟨1,a0.out,rfl,rfl,trivial,Ja ⟨fun _=>d.out,fun h=>by omega⟩⟩
     case measure=>have:=a0.out;simp[intOf];omega
    ·have d:=Ja c;clear c;go_wp2_with (go_at_call 144;go_must (refine(bW H.out d.out).mono ?_;rintro e w1 ⟨rfl,x,y⟩))
     go_ret
     have g:dQ m a n=.trap 2 a m:=by
      unfold dQ abh pR;rw[if_neg d.out,if_neg d.out,ite_self]
     rw[g];exact vh.trap x y
   ·obtain⟨p,hp⟩:∃p,aeA a=p:=⟨_,rfl⟩
    have t:p<65536:=by rw[<-hp];unfold aeA;omega
    have a3:IntKind.u16.wrap ((a:Int)+1)=(p:Int):=by rw[xY,<-hp];unfold aeA;omega
    have u:=Ja (show n=2 from by have:=HN.out;omega);have H0:ajk m a 1=tC m a:=rfl;rw[H0] at *;have l:=i.out.1 Zd;have a5:=(H.out.ramCell l).2.1;clear H0 j;have HP:=Ja hp
    by_cases c:wo p=true
    ·obtain⟨cr,hr,a4⟩:=H.out.ramCell c;have a1:=dV c;have o:=(qG p).1 c;have a7:((p-16384:Nat):Int)<8192:=Zo;have d:=Ja c;have b3:IntKind.u16.wrap ((tC m p:Int)*256)=((tC m p:Nat):Int)*256:=by rw[xY];omega
     have b2:IntKind.u16.wrap ((tC m a:Int)+(tC m p:Int)*256)=((tC m a+256*tC m p:Nat):Int):=by rw[xY];omega
     clear c o l hp;go_wp2_with (go_at_call 144;go_must (refine(cC d.out).mono ?_;rintro e w1 ⟨rfl,rfl⟩))
     go_roundw
     case rel=>exact⟨2,by rw[u.out];exact Je _,by rw[show ajk m a 2=tC m a+256*tC m (aeA a) from rfl,HP.out];go_num,rfl,trivial,Ja ⟨fun _=>i.out.1 Zd,fun _=>by rw[HP.out];exact d.out⟩⟩
     case measure=>have:=u.out;simp[intOf];omega
    ·have d:=Ja c;have b1:=Ja l;clear c l hp a5;go_wp2_with (go_at_call 144;go_must (refine(bW H.out d.out).mono ?_;rintro e w1 ⟨rfl,x,y⟩))
     go_ret
     have g:dQ m a n=.trap 2 p m:=by
      unfold dQ pR;rw[if_neg (by rw[u.out];decide),if_pos b1.out,HP.out,if_neg d.out]
     rw[g];exact vh.trap x y
  ·obtain rfl:k=n:=by omega
   have a2:¬(k:Int)<(k:Int):=Zo
   have g:dQ m a k=.ok (ajk m a k) m:=by
    unfold dQ abh pR;rcases HN.out with rfl|rfl
    ·rw[if_pos rfl,if_pos (i.out.1 Zd)];rfl
    ·rw[if_neg Zd,if_pos (i.out.1 Zd),if_pos (i.out.2 Zd)];rfl
   have t:ajk m a k<65536:=by
    rcases HN.out with rfl|rfl
    ·have:=(H.out.ramCell (i.out.1 Zd)).2.1;show tC m a<_;omega
    ·have h1:=(H.out.ramCell (i.out.1 Zd)).2.1;have h2:=(H.out.ramCell (i.out.2 Zd)).2.1;show tC m a+256*tC m (aeA a)<_;omega
   have EE:=Ja g;have b0:=Ja t;clear t j g;go_wp2;go_ret;rw[EE.out];exact vh.ok H.out (FrmQ.refl _ _) b0.out
def aa0 (m:Mach)(a n x:Nat):Res Nat:=if n=1 then td m a x else afW m a x
def stN (m:Mach)(a x:Nat):Nat->Mach
 |0=>m
 |1=>m.put a (x%256)
 |_=>(m.put a (x%256)).put (aeA a) (x/256)
theorem wrapU8 (n:Int):IntKind.u8.wrap n=n%256:=by rw[IntKind.wrap_u8]
theorem aY{ov:Value}(h:MachQ w K m none dp ov){a n:Nat}(b9:a<65536)(hx:x<65536)(hn:n=1∨n=2):I 126 #[F K.pm,O a,U n,O x] w (et K w (aa0 m a n x)):=by
 have hl:=h.lt;have H:=Ja h;have HN:=Ja hn;clear h hn;go_enter Tryz.func126,Tryz.ntmps126;go_wp2
 go_loopw [8] (fun kv wx=>∃k:Nat,k<=n/\kv=U k/\wx=w/\Hid ((1<=k->wo a=true)/\(2<=k->wo (aeA a)=true))) (fun kv _=>n-(intOf kv).toNat)
 case atStart=>exact⟨0,Jt _,rfl,rfl,Ja ⟨fun h=>by omega,fun h=>by omega⟩⟩
 case round=>
  obtain⟨k,hk,rfl,hw,HK⟩:=hrel;subst hw
  by_cases d:k<n
  ·have b1:(k:Int)<n:=Zo;have b3:k=0∨k=1:=by have:=HN.out;omega
   have u:=Ja d;rcases b3 with rfl|rfl
   ·have a2:IntKind.u16.wrap (a:Int)=(a:Int):=by rw[xY];omega
    clear d
    by_cases g:wo a=true
    ·have c:=Ja g;clear g;go_wp2_with (go_at_call 144;go_must (refine(cC c.out).mono ?_;rintro e w1 ⟨rfl,rfl⟩))
     go_roundw
     case rel=>exact⟨1,u.out,rfl,trivial,Ja ⟨fun _=>c.out,fun h=>by omega⟩⟩
     case measure=>have:=u.out;simp[intOf];omega
    ·have c:=Ja g;clear g;go_wp2_with (go_at_call 144;go_must (refine(bW H.out c.out).mono ?_;rintro e w1 ⟨rfl,a4,a5⟩))
     go_end0
     have i:aa0 m a n x=.trap 2 a m:=by
      unfold aa0 td afW;rw[if_neg c.out,if_neg c.out,ite_self]
     rw[i];exact et.trap a4 a5
   ·obtain⟨p,hp⟩:∃p,aeA a=p:=⟨_,rfl⟩
    have a2:IntKind.u16.wrap ((a:Int)+1)=(p:Int):=by rw[xY,<-hp];unfold aeA;omega
    have l:=Ja (show n=2 from by have:=HN.out;omega);have HP:=Ja hp;clear d hp
    by_cases g:wo p=true
    ·have c:=Ja g;clear g;go_wp2_with (go_at_call 144;go_must (refine(cC c.out).mono ?_;rintro e w1 ⟨rfl,rfl⟩))
     go_roundw
     case rel=>exact⟨2,by rw[l.out];exact Je _,rfl,trivial,Ja ⟨fun _=>HK.out.1 Zd,fun _=>by rw[HP.out];exact c.out⟩⟩
     case measure=>have:=l.out;simp[intOf];omega
    ·have c:=Ja g;clear g;go_wp2_with (go_at_call 144;go_must (refine(bW H.out c.out).mono ?_;rintro e w1 ⟨rfl,a4,a5⟩))
     go_end0
     have i:aa0 m a n x=.trap 2 p m:=by
      unfold aa0 afW;rw[if_neg (by rw[l.out];decide),if_pos (HK.out.1 Zd),HP.out,if_neg c.out]
     rw[i];exact et.trap a4 a5
  ·obtain rfl:k=n:=by omega
   have b1:¬(k:Int)<(k:Int):=Zo;have a0:=HK.out.1 (by have:=HN.out;omega)
   have i:aa0 m a k x=.ok 0 (stN m a x k):=by
    unfold aa0 td afW;rcases HN.out with rfl|rfl
    ·rw[if_pos rfl,if_pos a0];rfl
    ·rw[if_neg Zd,if_pos a0,if_pos (HK.out.2 Zd)];rfl
   have EE:=Ja i;have a6:=Ja a0;clear d i a0;go_wp2
   go_loopw [10] (fun jv wx=>∃j:Nat,j<=k/\jv=U j/\Hid (MachQ wx K (stN m a x j) none dp ov/\FrmQ K.B wr wx)) (fun jv _=>k-(intOf jv).toNat)
   case atStart=>exact⟨0,Jt _,rfl,Ja ⟨H.out,FrmQ.refl _ _⟩⟩
   case round=>
    obtain⟨j,hj,rfl,o⟩:=hrel
    by_cases d:j<k
    ·have a7:(j:Int)<k:=Zo;have b4:j=0∨j=1:=by have:=HN.out;omega
     have u:=Ja d;have c6:=o.out.1.c6;have b7:=o.out.1.lt;have b6:=lt_of_block o.out.1.ram;rcases b4 with rfl|rfl
     ·have a2:IntKind.u16.wrap (a:Int)=(a:Int):=by rw[xY];omega
      have b0:=dV a6.out;have a3:=(qG a).1 a6.out;obtain⟨cr,hr,b2⟩:=o.out.1.ramCell a6.out;have b5:((a-16384:Nat):Int)<8192:=Zo;have hb:IntKind.u8.wrap (x:Int)=((x%256:Nat):Int):=by rw[wrapU8];omega
      have HS:=Ja (o.out.1.setR a (x%256) (Qj _ Zd));have a1:x%256<256:=Qj _ Zd;obtain⟨y,hy⟩:∃y,x%256=y:=⟨_,rfl⟩
      rw[hy] at hb HS a1;have HY:=Ja hy;clear d a3 hy;go_wp2;go_roundw
      case rel=>exact⟨1,u.out,rfl,Ja ⟨by rw[show stN m a x 1=(stN m a x 0).put a y from by rw[<-HY.out];rfl];exact HS.out.1,o.out.2.trans HS.out.2⟩⟩
      case measure=>have:=u.out;simp[intOf];omega
     ·have l:=Ja (show k=2 from by have:=HN.out;omega);have t:=HK.out.2 (by have:=l.out;omega);obtain⟨p,hp⟩:∃p,aeA a=p:=⟨_,rfl⟩
      have a2:IntKind.u16.wrap ((a:Int)+1)=(p:Int):=by rw[xY,<-hp];unfold aeA;omega
      have HP:=Ja hp;rw[hp] at t;have b0:=dV t;have a3:=(qG p).1 t;obtain⟨cr,hr,b2⟩:=o.out.1.ramCell t;have b5:((p-16384:Nat):Int)<8192:=Zo;obtain⟨y,hy⟩:∃y,x/256=y:=⟨_,rfl⟩
      have a1:y<256:=Zo;have b8:(x:Int)/256=(y:Int):=Zo;have hb:IntKind.u8.wrap (y:Int)=(y:Int):=by rw[wrapU8];omega
      have HS:=Ja (o.out.1.setR p y a1);have HY:=Ja hy;clear d a3 hy hp t;go_wp2;go_roundw
      case rel=>exact⟨2,by rw[l.out];exact Je _,rfl,Ja ⟨by rw[show stN m a x 2=(stN m a x 1).put p y from by rw[<-HY.out,<-HP.out];rfl];exact HS.out.1,o.out.2.trans HS.out.2⟩⟩
      case measure=>have:=l.out;simp[intOf];omega
    ·obtain rfl:j=k:=by omega
     have a7:¬(j:Int)<(j:Int):=Zo;clear d;go_wp2
     go_end0
     rw[EE.out];exact et.ok o.out.1 o.out.2 Zd
def aI (E:IEnv)(m:Mach)(bank a n:Nat):Res Nat:=if n=1 then nX E m bank a else im E m bank a
def aay (E:IEnv)(bank a:Nat):Nat->Nat
 |0=>0
 |1=>tS E bank a
 |_=>tS E bank a+256*tS E bank (aeA a)
theorem dt {s:ByteArray}{a:Nat}(h:a<s.size):s[a]=s.data.getD a 0:=by
 have c:a<s.data.size:=h;rw[Array.getD_eq_getD_getElem?,Array.getElem?_eq_getElem c];rfl
theorem rom_q{ov:Value}(h:MachQ w K m none dp ov)(a6:∀s∈K.E.p.banks,s.size=4096){bank a n:Nat}(c9:bank<65536)(d1:a<65536)(hn:n=1∨n=2):I 127 #[F K.pm,O bank,O a,U n] w (vh K w (aI K.E m bank a n)):=by
 have c5:=h.c5;have y:=h.prog.banks;obtain⟨ba,bc,a5,d0,c8⟩:=y.form;rw[a5] at c5 y;have hl:=h.lt;have H:=Ja h;have HN:=Ja hn
 have a3:∀p,agu K.E bank p=true->∃(s:ByteArray) (b o:Nat),ba=some ⟨b,o,none⟩/\A w b (o+bank) (.string s)/\s.size=4096/\tS K.E bank p=(s.data.getD p 0).toNat:=by
  intro p hr;obtain⟨h1,h2⟩:=(iH _ _ _).1 hr;obtain⟨s,hs⟩:∃s,K.E.p.banks[bank]? =some s:=⟨_,Jd h1⟩
  obtain⟨b,o,b8,_,g,_⟩:=y.get hs;rw[Nk] at g;exact⟨s,b,o,b8,g,a6 s (Ji hs),by unfold tS;rw[Jj,hs];rfl⟩
 have HG:=Ja a3;have b0:=Ja (show ∀p,¬agu K.E bank p=true->(K.E.p.banks.length:Int)<=(bank:Int)∨((bank:Int)<K.E.p.banks.length/\(4095:Int)<(p:Int)) from fun p hp=>by rw[iH] at hp;omega);have a7:=Ja (show ∀p,agu K.E bank p=true->¬(K.E.p.banks.length:Int)<=(bank:Int)/\(bank:Int)<K.E.p.banks.length/\¬(4095:Int)<(p:Int)/\p<4096/\(p:Int)<4096 from fun p hp=>by rw[iH] at hp;omega);have c3:IntKind.i64.wrap (bank:Int)=(bank:Int):=by rw[IntKind.wrap_i64];omega
 clear h hn y a6 a3 a5;go_enter Tryz.func127,Tryz.ntmps127;go_wp2
 go_loopw [9,10] (fun xv kv wx=>∃k:Nat,k<=n/\xv=O (aay K.E bank a k:Nat)/\kv=U k/\wx=w/\Hid ((1<=k->agu K.E bank a=true)/\(2<=k->agu K.E bank (aeA a)=true))) (fun _ kv _=>n-(intOf kv).toNat)
 case atStart=>exact⟨0,Jt _,rfl,rfl,rfl,Ja ⟨fun h=>by omega,fun h=>by omega⟩⟩
 case round=>
  obtain⟨k,hk,rfl,rfl,hw,HK⟩:=hrel;subst hw
  by_cases x:k<n
  ·have b2:(k:Int)<n:=Zo;have b6:k=0∨k=1:=by have:=HN.out;omega
   have b1:=Ja x;rcases b6 with rfl|rfl
   ·have b4:IntKind.u16.wrap (a:Int)=(a:Int):=by rw[xY];omega
    have H0:aay K.E bank a 0=0:=rfl;rw[H0] at *;clear H0 x
    by_cases c:agu K.E bank a=true
    ·obtain⟨s,b,o,rfl,g,t,l⟩:=HG.out a c;obtain⟨y1,y2,y3,y4,y5⟩:=a7.out a c;have a4:a<s.size:=Zo;have b3:(a:Int)<s.size:=Zo
     have b7:IntKind.u16.wrap ((s[a].toNat:Nat):Int)=((tS K.E bank a:Nat):Int):=by
      rw[xY,l,dt a4];have:=(s.data.getD a 0).toNat_lt;omega
     have hrl:=p9 K.E bank a;have c2:IntKind.u16.wrap ((tS K.E bank a:Nat):Int)=((tS K.E bank a:Nat):Int):=by rw[xY];omega
     have u:=Ja c;have b9:=Ja (Jb t l);clear c t l y4 y5;go_wp2;go_roundw
     case rel=>exact⟨1,b1.out,rfl,rfl,trivial,Ja ⟨fun _=>u.out,fun h=>by omega⟩⟩
     case measure=>have:=b1.out;simp[intOf];omega
    ·have u:=Ja c
     have d:aI K.E m bank a n=.trap 2 a m:=by
      unfold aI nX im;rw[if_neg c,if_neg c,ite_self]
     have EE:=Ja d;have a1:=b0.out a c;clear c d;rcases a1 with y1|⟨y1,y2⟩
     ·go_wp2_with (go_at_call 101;go_must (refine(ew H.out 2 a).mono ?_;rintro e w1 ⟨rfl,i,j⟩))
      go_ret;rw[EE.out];exact vh.trap i j
     ·have y3:¬(K.E.p.banks.length:Int)<=(bank:Int):=Zo;go_wp2_with (go_at_call 101;go_must (refine(ew H.out 2 a).mono ?_;rintro e w1 ⟨rfl,i,j⟩))
      go_ret;rw[EE.out];exact vh.trap i j
   ·obtain⟨p,hp⟩:∃p,aeA a=p:=⟨_,rfl⟩
    have a0:p<65536:=by rw[<-hp];unfold aeA;omega
    have b4:IntKind.u16.wrap ((a:Int)+1)=(p:Int):=by rw[xY,<-hp];unfold aeA;omega
    have a2:=Ja (show n=2 from by have:=HN.out;omega);have H0:aay K.E bank a 1=tS K.E bank a:=rfl;rw[H0] at *;have b5:=p9 K.E bank a;have HP:=Ja hp;clear H0 x
    by_cases c:agu K.E bank p=true
    ·obtain⟨s,b,o,rfl,g,t,l⟩:=HG.out p c;obtain⟨y1,y2,y3,y4,y5⟩:=a7.out p c;have a4:p<s.size:=Zo;have b3:(p:Int)<s.size:=Zo
     have b7:IntKind.u16.wrap ((s[p].toNat:Nat):Int)=((tS K.E bank p:Nat):Int):=by
      rw[xY,l,dt a4];have:=(s.data.getD p 0).toNat_lt;omega
     have hrl:=p9 K.E bank p;have c7:IntKind.u16.wrap ((tS K.E bank p:Int)*256)=((tS K.E bank p:Nat):Int)*256:=by rw[xY];omega
     have c4:IntKind.u16.wrap ((tS K.E bank a:Int)+(tS K.E bank p:Int)*256)=((tS K.E bank a+256*tS K.E bank p:Nat):Int):=by rw[xY];omega
     have u:=Ja c;have b9:=Ja (Jb t l);clear c t l y4 y5 hp;go_wp2;go_roundw
     case rel=>exact⟨2,by rw[a2.out];exact Je _,by rw[show aay K.E bank a 2=tS K.E bank a+256*tS K.E bank (aeA a) from rfl,HP.out];go_num,rfl,trivial,Ja ⟨fun _=>HK.out.1 Zd,fun _=>by rw[HP.out];exact u.out⟩⟩
     case measure=>have:=a2.out;simp[intOf];omega
    ·have u:=Ja c
     have d:aI K.E m bank a n=.trap 2 p m:=by
      unfold aI im;rw[if_neg (by rw[a2.out];decide),if_pos (HK.out.1 Zd),HP.out,if_neg c]
     have EE:=Ja d;have a1:=b0.out p c;clear c d hp b5;rcases a1 with y1|⟨y1,y2⟩
     ·go_wp2_with (go_at_call 101;go_must (refine(ew H.out 2 p).mono ?_;rintro e w1 ⟨rfl,i,j⟩))
      go_ret;rw[EE.out];exact vh.trap i j
     ·have y3:¬(K.E.p.banks.length:Int)<=(bank:Int):=Zo;go_wp2_with (go_at_call 101;go_must (refine(ew H.out 2 p).mono ?_;rintro e w1 ⟨rfl,i,j⟩))
      go_ret;rw[EE.out];exact vh.trap i j
  ·obtain rfl:k=n:=by omega
   have b2:¬(k:Int)<(k:Int):=Zo
   have d:aI K.E m bank a k=.ok (aay K.E bank a k) m:=by
    unfold aI nX im;rcases HN.out with rfl|rfl
    ·rw[if_pos rfl,if_pos (HK.out.1 Zd)];rfl
    ·rw[if_neg Zd,if_pos (HK.out.1 Zd),if_pos (HK.out.2 Zd)];rfl
   have a0:aay K.E bank a k<65536:=by
    have h1:=p9 K.E bank a;have h2:=p9 K.E bank (aeA a);rcases HN.out with rfl|rfl
    ·show tS K.E bank a<_;omega
    ·show tS K.E bank a+256*tS K.E bank (aeA a)<_;omega
   have EE:=Ja d;have c0:=Ja a0;clear a0 x d;go_wp2;go_ret;rw[EE.out];exact vh.ok H.out (FrmQ.refl _ _) c0.out
def PtRet (w:World)(p:IProg)(e:Ending)(w':World):Prop:=∃t:PT,e=.returned (yH t.V t.prog)/\t.prog=p/\Rows w' w.heap.size t.rows/\Y w w'
structure SetF where
 inn:List Nat
 irq:List Nat
 ram:Nat
 fuel:Nat
def adV (R:IRun)(oa:Option Addr)(oc:Nat):Array Value:=#[O (R.value:Int),.slice oa R.out.length oc,U (R.kind:Int),O (R.info:Int),.string (y9 R.ram),U (R.inputs:Int),U (R.polls:Int)]
def fy (w0:World)(R:IRun)(v:Value)(wx:World):Prop:=∃(b:Nat) (oa:Option Addr) (oc:Nat),v=F b/\Hid (w0.heap.size<=b/\Q wx b (adV R oa oc) 57/\vM wx wx.heap.size (.slice oa R.out.length oc) R.out/\Y w0 wx)
theorem gN{R:IRun}(c:Y w0 w2)(d:vM w2 w2.heap.size (.slice oa R.out.length oc) R.out):fy w0 R (F w2.heap.size) (w2.alloc (G (adV R oa oc) 57)):=
 ⟨_,oa,oc,rfl,Ja ⟨c.size,zI rfl,(d.below vo ((Below.refl _ _).alloc (Je _) _)).mono vo Zs,c.alloc c.size _⟩⟩
theorem sets7{b:Nat}{u0 u1 u2 u3 u4 u5 u6:Value}{t:TypeId}(v0 v1 v2 v3 v4 v5 v6:Value)(h:Q w b #[u0,u1,u2,u3,u4,u5,u6] t):
 Q (((((((w.setCell ⟨b,0,none⟩ v0).setCell ⟨b,1,none⟩ v1).setCell ⟨b,2,none⟩ v2).setCell ⟨b,3,none⟩ v3).setCell ⟨b,4,none⟩ v4).setCell ⟨b,5,none⟩ v5).setCell ⟨b,6,none⟩ v6) b #[v0,v1,v2,v3,v4,v5,v6] t:=by
 have j:=zD h v0 (i:=0);have h1:=zD j v1 (i:=1);have h2:=zD h1 v2 (i:=2);have h3:=zD h2 v3 (i:=3);have g:=zD h3 v4 (i:=4);have d:=zD g v5 (i:=5);have c:=zD d v6 (i:=6)
 simpa using c
abbrev fN:Array Value:=#[O 0,L,U 0,O 0,.string ⟨#[]⟩,U 0,U 0]
theorem fO{B b q:Nat}{x:Nat×Nat}(h:Q w b fN 57):¬EvR w B b q x:=fun⟨h1,h2,_⟩=>by
 have c:∀i,w.cell? ⟨b,i,none⟩=fN[i]?:=fun i=>by
  cases hi:fN[i]? with
  |some v=>exact zA h hi
  |none=>simp[World.cell?,h,hi]
 rw[c] at h1 h2;simp only[fN] at h1 h2
 match q,h1,h2 with
 |0,_,h2=>simp at h2
 |1,h1,_=>simp at h1
 |2,h1,_=>simp at h1
 |3,_,h2=>simp at h2
 |4,h1,_=>simp at h1
 |5,h1,_=>simp at h1
 |6,h1,_=>simp at h1
 |q+7,h1,_=>simp at h1
theorem abJ{b b2 o:Nat}(c:b2≠b)(i:Nat):(w.setCells b o vs).cell? ⟨b2,i,none⟩=w.cell? ⟨b2,i,none⟩:=by
 unfold World.cell?;rw[show(w.setCells b o vs).heap[(⟨b2,i,none⟩:Addr).block]? =w.heap[(⟨b2,i,none⟩:Addr).block]? from ye b b2 c vs o w]
theorem ado{b:Nat}{ov:Value}(i:vM w2 w2.heap.size ov l)(h:Q w2 b fN 57):vM (w2.setCells b 0 vs) (w2.setCells b 0 vs).heap.size ov l:=by
 obtain⟨a,g,rfl,h1,h2,h3⟩:=i;refine⟨a,g,rfl,h1,h2,fun k x hk=>?_⟩;obtain⟨b2,o2,e2,d,hr⟩:=h3 k x hk;have c:b2≠b:=fun e=>by subst e;exact fO h hr
 exact⟨b2,o2,e2,by rw[y8];exact d,(abJ c _).trans hr.1,(abJ c _).trans hr.2.1,hr.2.2⟩
theorem adc{W:World}{b:Nat}{R:IRun}(d:Y w0 w2)(g:vM w2 w2.heap.size (.slice oa R.out.length oc) R.out)
 (h:Q w2 b fN 57) (c:w0.heap.size<=b) (vs:List Value) (i:W=w2.setCells b 0 vs) (hs:Q W b (adV R oa oc) 57):
 fy w0 R (F b) W:=by
 subst i;exact⟨b,oa,oc,rfl,Ja ⟨c,hs,ado g h,d.trans ((qu w2 b 0 vs).mono c)⟩⟩
theorem gE{b:Nat}{R:IRun}(c:Y w0 w2)(d:vM w2 w2.heap.size (.slice oa R.out.length oc) R.out)
 (h:Q w2 b fN 57) (g:w0.heap.size<=b):
 fy w0 R (F b) (((((((w2.setCell ⟨b,0,none⟩ (O (R.value:Int))).setCell ⟨b,1,none⟩ (.slice oa R.out.length oc)).setCell ⟨b,2,none⟩ (U (R.kind:Int))).setCell ⟨b,3,none⟩ (O (R.info:Int))).setCell ⟨b,4,none⟩ (.string (y9 R.ram))).setCell ⟨b,5,none⟩ (U (R.inputs:Int))).setCell ⟨b,6,none⟩ (U (R.polls:Int))):=
 adc c d h g [O (R.value:Int),.slice oa R.out.length oc,U (R.kind:Int),O (R.info:Int),.string (y9 R.ram),U (R.inputs:Int),U (R.polls:Int)] rfl (sets7 _ _ _ _ _ _ _ h)
theorem aal (s:List Int):∃n,(uR s).funcs.length=n/\(uR s).args.length=n/\(1<=n/\n<=4)/\∀f,f<n->∃k:Nat,(uR s).args[f]? =some (k:Int)/\k<4:=by
 refine⟨mdN s,?_,yY s _,sm s,fun f hf=>?_⟩
 ·exact qA s
 ·obtain⟨x,c⟩:∃x,(yS s (mdN s))[f]? =some x:=⟨_,Jd (by rw[yY];exact hf)⟩
  have h:=xy s _ x (Ji c);refine⟨x.toNat,?_,by omega⟩
  show(yS s (mdN s))[f]? =_
  rw[c]
  congr 1
  omega
structure SetIz (w:World) (B:Nat) (v:Value) (x:SetF):Prop where
 form:∃(ia:Option Addr) (ic:Nat) (qa:Option Addr) (qc:Nat),v=.agg #[.slice ia x.inn.length ic,.slice qa x.irq.length qc,.int .u32 (x.ram:Int),.int .u8 (x.fuel:Int)]/\wV w B (.slice ia x.inn.length ic) x.inn/\dL w B (.slice qa x.irq.length qc) x.irq
 ram:x.ram<4294967296
 fuel:x.fuel<256
theorem SetIz.below{B:Nat}{v:Value}{x:SetF}(h:SetIz w B v x)(hb:Below B w w'):SetIz w' B v x:=
 ⟨by obtain⟨ia,ic,qa,qc,e,h1,h2⟩:=h.form;exact⟨ia,ic,qa,qc,e,h1.below zr hb,h2.below xQ hb⟩,h.ram,h.fuel⟩
theorem SetIz.mono{B B':Nat}{v:Value}{x:SetF}(h:SetIz w B v x)(hb:B<=B'):SetIz w B' v x:=
 ⟨by obtain⟨ia,ic,qa,qc,e,h1,h2⟩:=h.form;exact⟨ia,ic,qa,qc,e,h1.mono zr hb,h2.mono xQ hb⟩,h.ram,h.fuel⟩
def TapeRz (w:World)(x:SetF)(e:Ending)(w':World):Prop:=∃(ia:Option Addr) (ic:Nat) (qa:Option Addr) (qc:Nat),e=.returned (.agg #[.slice ia (x.inn.take 20).length ic,.slice qa (x.irq.take 20).length qc])/\wV w' w.heap.size (.slice ia (x.inn.take 20).length ic) (x.inn.take 20)/\dL w' w.heap.size (.slice qa (x.irq.take 20).length qc) (x.irq.take 20)/\Y w w'
theorem ag9{v:Value}{x:SetF}(h:SetIz w w.heap.size v x):I 23 #[v] w (TapeRz w x):=by
 obtain⟨ia,ic,qa,qc,rfl,h1,h2⟩:=h.form;have t1:=lw h1 20;have t2:=lw h2 20;obtain⟨i1,a0,y⟩:=gj x.inn.length 20;obtain⟨q1,l,j⟩:=gj x.irq.length 20;have a7:∀(ts:Array TypeId) (t:TypeId) (W:World),(Builtin.min_ ts t #[U (x.inn.length:Int),U 20]).run Tryz.prog W=.ok (U i1) W:=fun ts t W=>by rw[a0];exact run_min_int2 ..
 have a6:∀(ts:Array TypeId) (t:TypeId) (W:World),(Builtin.min_ ts t #[U (x.irq.length:Int),U 20]).run Tryz.prog W=.ok (U q1) W:=fun ts t W=>by rw[l];exact run_min_int2 ..
 obtain⟨a1,c1,e1,b4,_⟩:=h1.form;obtain⟨a2,c2,e2,b3,_⟩:=h2.form;cases e1;cases e2;have b2:(i1:Int)<=(ic:Int):=Zo;have b1:(q1:Int)<=(qc:Int):=Zo;have u:(x.inn.take 20).length=i1:=by rw[Oc];omega
 have m:(x.irq.take 20).length=q1:=by rw[Oc];omega
 rw[<-y] at t1;rw[<-j] at t2;have HT:=Ja (Jb t1 t2);unfold TapeRz;rw[u,m];have a3:=((Below.refl w.heap.size w).alloc (Je _) (G #[.slice ia x.inn.length ic,.slice qa x.irq.length qc,.int .u32 (x.ram:Int),.int .u8 (x.fuel:Int)] 52)).alloc Zs (G #[L,L] 62);have HB:=Ja a3;clear h h1 h2 a3 a0 y l j t1 t2 u m;generalize x.inn.length=n1 at *;generalize x.irq.length=n2 at *;have x0:=zB (o:=G #[L,L] 62) (zI (W:=w) (o:=G #[.slice ia n1 ic,.slice qa n2 qc,.int .u32 (x.ram:Int),.int .u8 (x.fuel:Int)] 52) rfl);have HX:=Ja x0;clear x0;go_enter Tryz.func23,Tryz.ntmps23;go_upto_region 1 with fail;generalize hW:(w.alloc (G #[.slice ia n1 ic,.slice qa n2 qc,.int .u32 (x.ram:Int),.int .u8 (x.fuel:Int)] 52)).alloc (G #[L,L] 62)=W at *;have a4:(w.alloc (G #[.slice ia n1 ic,.slice qa n2 qc,.int .u32 (x.ram:Int),.int .u8 (x.fuel:Int)] 52)).heap.size=w.heap.size+1:=by simp
 have d:=HX.out;have c:=zI (W:=w.alloc (G #[.slice ia n1 ic,.slice qa n2 qc,.int .u32 (x.ram:Int),.int .u8 (x.fuel:Int)] 52)) (o:=G #[L,L] 62) (B:=w.heap.size+1) Zs;have a5:=HB.out;rw[hW] at c;have HC:=Ja (show ∀W':World,(∀k,k=w.heap.size->W'.heap[k]? =W.heap[k]?)->A W' w.heap.size 0 (.slice ia n1 ic)/\A W' w.heap.size 1 (.slice qa n2 qc) from fun W' h=>⟨zA ((h _ rfl).trans d) rfl,zA ((h _ rfl).trans d) rfl⟩);have k0:=zA (i:=0) c rfl;have k1:=zA (i:=1) c rfl;have kf:∀i,N W (w.heap.size+1) i:=fun i=>zE c
 have kl:=lt_of_block c;have b0:=lt_of_block d;clear HX HB a4 hW
 go_region_held3 (fun w'=>A w' w.heap.size 0 (.slice ia n1 ic)/\A w' w.heap.size 1 (.slice qa n2 qc))
  ((refine HC.out _ ?_;rintro k rfl;repeat' (first|(rw[Below.heap_setCell _ _ _ _ (by show w.heap.size≠w.heap.size+1;omega)])|(rw[show ∀v:World,v.drew.heap=v.heap from fun _=>rfl])|exact rfl)))
  (fail)
 all_goals go_wp2_with fail
 all_goals
  have z0:=zD (i:=0) c (.slice ia i1 ic);have z1:=zD (i:=1) z0 (.slice qa q1 qc);have y0:=zA (i:=0) z1 rfl;have y1:=zA (i:=1) z1 rfl;have yl:=lt_of_block z1;have g:Y w ((W.setCell ⟨w.heap.size+1,0,none⟩ (.slice ia i1 ic)).setCell ⟨w.heap.size+1,1,none⟩ (.slice qa q1 qc)):=(a5.setCell (by show w.heap.size<=w.heap.size+1;omega) _).setCell (by show w.heap.size<=w.heap.size+1;omega) _;refine bodyPost_ret (v:=.agg #[.slice ia i1 ic,.slice qa q1 qc]) ?_ rfl ?_
  ·rw[zM rfl];generalize (W.setCell ⟨w.heap.size+1,0,none⟩ (.slice ia i1 ic)).setCell ⟨w.heap.size+1,1,none⟩ (.slice qa q1 qc)=Z at *;go_simp
  ·exact⟨ia,ic,qa,qc,rfl,HT.out.1.below zr g.drew,HT.out.2.below xQ g.drew,g.drew⟩
structure SBz (W:World) (b:Nat) (x:SetF) (sa:Option Addr) (sc:Nat) (qa:Option Addr) (qc:Nat):Prop where
 blk:W.heap[b]? =some (.cells #[.slice sa x.inn.length sc,.slice qa x.irq.length qc,.int .u32 (x.ram:Int),.int .u8 (x.fuel:Int)] 52 (0,0))
 set:SetIz W W.heap.size (.agg #[.slice sa x.inn.length sc,.slice qa x.irq.length qc,.int .u32 (x.ram:Int),.int .u8 (x.fuel:Int)]) x
section
variable {W W':World} {b:Nat} {x:SetF} {sa qa:Option Addr} {sc qc:Nat}
theorem SBz.below (h:SBz W b x sa sc qa qc)(hb:Y W W'):SBz W' b x sa sc qa qc:=⟨zH hb h.blk (lt_of_block h.blk),(h.set.below hb).mono hb.size⟩
theorem SBz.c0 (h:SBz W b x sa sc qa qc):A W b 0 (.slice sa x.inn.length sc):=zA h.blk Zs
theorem SBz.c1 (h:SBz W b x sa sc qa qc):A W b 1 (.slice qa x.irq.length qc):=zA h.blk Zs
theorem SBz.c2 (h:SBz W b x sa sc qa qc):A W b 2 (.int .u32 (x.ram:Int)):=zA h.blk Zs
theorem SBz.c3 (h:SBz W b x sa sc qa qc):A W b 3 (.int .u8 (x.fuel:Int)):=zA h.blk Zs
end
def holdsO (a:Rg)(n:Int)(o:IObj):Prop:=o.bank=-1/\o.addr<=a.lo/\(a.hi:Int)+n<=(o.addr:Int)+o.size
instance (a:Rg) (n:Int) (o:IObj):Decidable (holdsO a n o):=by unfold holdsO;infer_instance
theorem ahV {p:IProg}(hv:vC p=0):0<p.funcs.length/\p.funcs.length<=2000:=by
 obtain⟨c,_⟩:=rz hv;unfold sR at c
 split at c
 ·omega
 ·rename_i d
  split at c
  ·omega
  ·split at c
   ·omega
   ·split at c
    ·omega
    ·rename_i h
     have hs:yw p p.entry=true:=by
      by_cases e:yw p p.entry=true
      ·exact e
      ·exact absurd (Na (by simpa using e)) h
     unfold yw at hs;simp only[Jm,decide_eq_true_eq] at hs;omega
end Go.Proofs.YtoahcpkibpomcaaGreat
set_option maxRecDepth 100000
namespace Go.Proofs.YtoahcpkibpomcaaGreat
open Go.ChangeShapes Go.WideShapes Go.ChangeAt Go.RowKit
variable {l:List (Nat×Nat)}{m m':Mach}{i j oc tg u x:Nat}{c dp k k':Int}{o:IOp}{blocks f':List IBlk}{b':IBlk}{g:List (List Nat)}{d:wO}{t:ITerm}{P':Nat->Prop}{M:MS}{Df:Int->Int->Int->Prop}{w w' w0 w2:World}{K:MK}{oa:Option Addr}{vs:List Value}{tr:Tr}
section
variable {H:Type} {enc:TypeId×Value->H} {W:World} {fuel:Nat} {u:Value} {x:DataW H×List MemPlace}
theorem bytes_at (hf:DataW.trod enc Tryz.prog W 0 (fun _=>true) true fuel 49 [u]=some x):∃row:List Nat,dL W W.heap.size u row:=
 fP Tryz.underlying49 Tryz.underlying5 Zk U8R Int.toNat (fun b o z hz hc=>by
  have h:0<=z/\z<=255:=by simpa[Lit.wf,IntKind.min,IntKind.max,IntKind.signed,IntKind.bits] using hz
  exact⟨by rw[hc,Oa h.1],by omega⟩) hf
theorem words_at (hf:DataW.trod enc Tryz.prog W 0 (fun _=>true) true fuel 48 [u]=some x):∃row:List Nat,wV W W.heap.size u row:=
 fP Tryz.underlying48 Tryz.underlying43 Zk U16R Int.toNat (fun b o z hz hc=>by
  have h:0<=z/\z<=65535:=by simpa[Lit.wf,IntKind.min,IntKind.max,IntKind.signed,IntKind.bits] using hz
  exact⟨by rw[hc,Oa h.1],by omega⟩) hf
end
end Go.Proofs.YtoahcpkibpomcaaGreat
