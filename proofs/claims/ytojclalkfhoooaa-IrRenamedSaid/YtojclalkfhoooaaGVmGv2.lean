/- Part of a proof. -/
import Derived.Test.YtojclalkfhoooaaGVmG
set_option linter.all false
namespace Go.Proofs.Ytojclalkfhoooaa
variable {c i j tg u:Nat}{f':List IBlk}{k k':Int}{b':IBlk}{o:IOp}{g:List (List Nat)}{d:wO}{t:ITerm}{P P':Nat->Prop}{M:MS}{Df:Int->Int->Int->Prop}
def fB (f:List IBlk)(v:Int)(i:Nat)(k:Int):Prop:=
 ∃b,f[i]? =some b/\((k=-1/\v∈b.params)∨∃(j:Nat) (o:IOp),k=(j:Int)/\b.ops[j]? =some o/\o.res=v/\0<=v)
def xn (f f':List IBlk):Prop:=
 ∀(i:Nat) (b:IBlk),f[i]? =some b->∃b',f'[i]? =some b'/\b'.params=b.params/\b.ops<+:b'.ops/\(b.term.to=[]∨b'.term=b.term)
theorem xn.refl (f:List IBlk):xn f f:=fun i b h=>⟨b,h,rfl,Od,.inr rfl⟩
theorem aaS{α:Type}{l m:List α}(h:l<+:m){x:α}(c:l[j]? =some x):m[j]? =some x:=by
 obtain⟨t,rfl⟩:=h;rw[Np (Jh.1 c).1];exact c
theorem fB.ext{f:List IBlk}(d:xn f f'){v:Int}(h:fB f v i k):fB f' v i k:=by
 obtain⟨b,hb,l⟩:=h;obtain⟨b',c,hp,ho,_⟩:=d i b hb;refine⟨b',c,?_⟩;rcases l with⟨rfl,hv⟩|⟨j,o,rfl,g,hr,m⟩
 ·exact .inl ⟨rfl,by rw[hp];exact hv⟩
 ·exact .inr ⟨j,o,rfl,aaS ho g,hr,m⟩
inductive Abv (pl:List Nat):Nat->Nat->Prop
 |refl (i:Nat):Abv pl i i
 |up {b i u:Nat}:pl[i]? =some u->0<i->Abv pl b u->Abv pl b i
theorem Abv.ext{pl c:List Nat}(hp:pl<+:c){b:Nat}(h:Abv pl b i):Abv c b i:=by
 induction h with
 |refl=>exact .refl _
 |up h0 h1 _ ih=>exact .up (aaS hp h0) h1 ih
theorem Abv.trans{pl:List Nat}{a b:Nat}(h:Abv pl a b)(k:Abv pl b c):Abv pl a c:=by
 induction k with
 |refl=>exact h
 |up h0 h1 _ ih=>exact .up h0 h1 ih
theorem Abv.le{pl:List Nat}(hp:∀i u,pl[i]? =some u->0<i->u<i){b:Nat}(h:Abv pl b i):b<=i:=by
 induction h with
 |refl=>exact Je _
 |up h0 h1 _ ih=>have:=hp _ _ h0 h1;omega
def Kn (f:List IBlk)(pl:List Nat)(v:Int)(i:Nat)(k:Int):Prop:=∃(b:Nat) (a:Int),fB f v b a/\Abv pl b i/\(b=i->a<k)
theorem Kn.ext{f:List IBlk}{pl c:List Nat}(d:xn f f')(hp:pl<+:c){v:Int}(hk:k<=k')(h:Kn f pl v i k):Kn f' c v i k':=by
 obtain⟨b,a,h1,h2,h3⟩:=h;exact⟨b,a,h1.ext d,h2.ext hp,fun e=>by have:=h3 e;omega⟩
def gB (f:List IBlk)(pl:List Nat)(i:Nat)(e:IEdge):Prop:=
 ∃(s u:Nat) (bs:IBlk),e.block=(s:Int)/\0<s/\f[s]? =some bs/\e.args.length=bs.params.length/\pl[s]? =some u/\Abv pl u i
theorem gB.ext{f:List IBlk}{pl c:List Nat}(j:xn f f')(hp:pl<+:c){e:IEdge}(h:gB f pl i e):gB f' c i e:=by
 obtain⟨s,u,bs,h1,h2,h3,m,l,k⟩:=h;obtain⟨b',g,d,_⟩:=j s bs h3;exact⟨s,u,b',h1,h2,g,by rw[d];exact m,aaS hp l,k.ext hp⟩
def gR (t:ITerm):Bool:=
 if t.kind=1 then decide (t.to.length=1) && decide (t.a=0)
 else if t.kind=2 then decide (t.to.length=2)
 else if t.kind=3 then decide (1<=t.to.length)
 else if t.kind=4 then decide (t.to.length=0)
 else if t.kind=5 then decide (t.to.length=0) && decide (t.a=0)
 else false
def fQ (f:List IBlk)(pl:List Nat)(i:Nat)(b:IBlk):Prop:=
 gR b.term=true/\(∀e∈b.term.to,gB f pl i e)/\∀v∈mE b.term,Kn f pl v i b.ops.length
theorem fQ.ext{f:List IBlk}{pl c:List Nat}(d:xn f f')(hp:pl<+:c){b:IBlk}(h:fQ f pl i b):fQ f' c i b:=
 ⟨h.1,fun e he=>(h.2.1 e he).ext d hp,fun v hv=>(h.2.2 v hv).ext d hp (Og _)⟩
inductive Rch (f:List IBlk):Nat->Prop
 |zero:Rch f 0
 |step {u s:Nat} {b:IBlk} {e:IEdge}:Rch f u->f[u]? =some b->e∈b.term.to->e.block=(s:Int)->Rch f s
theorem Rch.ext{f:List IBlk}(g:xn f f')(h:Rch f i):Rch f' i:=by
 induction h with
 |zero=>exact .zero
 |step _ h2 h3 h4 ih=>
  obtain⟨b',d,_,_,c⟩:=g _ _ h2;rcases c with c|c
  ·rw[c] at h3;cases h3
  ·exact .step ih d (by rw[c];exact h3) h4
def abo (l:List IOp):List Int:=(l.filter fun o=>decide (0<=o.res)).map (·.res)
def abu (b:IBlk):List Int:=b.params++abo b.ops
def aaI (f:List IBlk):List Int:=f.flatMap abu
theorem eY{f:List IBlk}{b:IBlk}(hb:f[c]? =some b)(b':IBlk):f=f.take c++b::f.drop (c+1)/\f.set c b'=f.take c++b'::f.drop (c+1):=by
 obtain⟨d,g⟩:=Jh.1 hb;refine⟨by rw[<-g,Ue,Qi],?_⟩;rw[List.set_eq_take_append_cons_drop,if_pos d]
theorem fF{f:List IBlk}{b:IBlk}(hb:f[c]? =some b){x:List Int}(d:abu b'=abu b++x):(aaI (f.set c b')).Perm (x++aaI f):=by
 obtain⟨h1,h2⟩:=eY hb b';unfold aaI;rw[h2]
 conv=>rhs;rw[h1]
 rw[Nx,Qa,Nx,Qa,d]
 classical
 refine Jp.2 fun y=>?_
 simp only[Nb];omega
theorem fK (l m:List IOp):abo (l++m)=abo l++abo m:=by unfold abo;rw[List.filter_append,Js]
structure MInv (p:IProg) (f:List IBlk) (cur next:Nat) (vals:List Int) (O P:Nat->Prop) (pl:List Nat):Prop where
 len:pl.length=f.length
 curl:cur<f.length
 par:∀i u,pl[i]? =some u->0<i->u<i
 ops:∀(i:Nat) (b:IBlk),f[i]? =some b->∀(j:Nat) (o:IOp),b.ops[j]? =some o->opF p o=true/\∀v∈rR o,Kn f pl v i j
 term:∀(i:Nat) (b:IBlk),f[i]? =some b->¬O i->fQ f pl i b
 opn:∀(i:Nat) (b:IBlk),f[i]? =some b->O i->b.term.to=[]
 lt:∀i,O i->i<f.length
 known:∀v∈vals,∀b,f[cur]? =some b->Kn f pl v cur b.ops.length
 nd:(aaI f).Nodup
 rng:∀v∈aaI f,0<=v/\v<(next:Int)
 rch:∀i,i<f.length->¬P i->Rch f i
 sml:∀(i:Nat) (b:IBlk),f[i]? =some b->b.params.length<=3/\b.term.to.length<=4
abbrev aaz (p:IProg)(M:MS)(O P:Nat->Prop)(pl:List Nat):Prop:=MInv p M.f M.cur M.next M.vals O P pl
theorem g7{f:List IBlk}{b:IBlk}(hb:f[c]? =some b)(hp:b'.params=b.params)(ho:b.ops<+:b'.ops)(d:b.term.to=[]∨b'.term=b.term):xn f (f.set c b'):=fun i x hx=>by
 by_cases e:c=i
 ·subst e;rw[hb] at hx;cases hx;exact⟨b',Nn (Jh.1 hb).1,hp,ho,d⟩
 ·exact⟨x,by rw[Ns e];exact hx,rfl,Od,.inr rfl⟩
theorem abj (f g:List IBlk):xn f (f++g):=fun i b hb=>⟨b,by rw[Np (Jh.1 hb).1];exact hb,rfl,Od,.inr rfl⟩
theorem abp{f:List IBlk}{b x:IBlk}(hb:f[c]? =some b)(h:(f.set c b')[i]? =some x):(i=c/\x=b')∨(i≠c/\f[i]? =some x):=by
 by_cases e:c=i
 ·subst e;rw[Nn (Jh.1 hb).1] at h;cases h;exact .inl ⟨rfl,rfl⟩
 ·rw[Ns e] at h;exact .inr ⟨fun h=>e h.symm,h⟩
section
variable {p:IProg} {f:List IBlk} {cur next:Nat} {vals:List Int} {O P:Nat->Prop} {pl:List Nat} (h:MInv p f cur next vals O P pl)
include h
theorem MInv.get:∃b,f[cur]? =some b:=⟨_,Jd h.curl⟩
theorem MInv.push{b:IBlk}(hb:f[cur]? =some b)(a0:O cur)(ho:opF p o=true)(hu:∀v∈rR o,Kn f pl v cur b.ops.length){g:Nat}{d:List Int}(m:(o.res=(next:Int)/\g=next+1/\d=vals++ [o.res])∨(o.res<0/\g=next/\d=vals)):
 MInv p (f.set cur {b with ops:=b.ops++ [o]}) cur g d O P pl:=by
 have u:xn f (f.set cur {b with ops:=b.ops++ [o]}):=g7 hb rfl (Qb _ _) (.inr rfl);have k:pl<+:pl:=Od
 have a2:abu {b with ops:=b.ops++ [o]}=abu b++abo [o]:=by
  unfold abu;simp only;rw[fK,Nv]
 have t:=fF hb a2;have r:(f.set cur {b with ops:=b.ops++ [o]})[cur]? =some {b with ops:=b.ops++ [o]}:=Nn h.curl;refine⟨by rw[Nd];exact h.len,by rw[Nd];exact h.curl,h.par,?_,?_,?_,fun i hi=>by rw[Nd];exact h.lt i hi,?_,?_,?_,?_,?_⟩
 ·intro i x c j y l;rcases abp hb c with⟨rfl,rfl⟩|⟨_,c⟩
  ·simp only at l
   by_cases hj:j<b.ops.length
   ·rw[Np hj] at l;obtain⟨h1,h2⟩:=h.ops _ b hb j y l;exact⟨h1,fun v hv=>(h2 v hv).ext u k (Og _)⟩
   ·have a3:j=b.ops.length:=by
     have:=(Jh.1 l).1;simp at this;omega
    subst a3;rw[Nc (Je _),Qy] at l;cases l;exact⟨ho,fun v hv=>(hu v hv).ext u k (Og _)⟩
  ·obtain⟨h1,h2⟩:=h.ops i x c j y l;exact⟨h1,fun v hv=>(h2 v hv).ext u k (Og _)⟩
 ·intro i x c w;rcases abp hb c with⟨rfl,rfl⟩|⟨_,c⟩
  ·exact absurd a0 w
  ·exact(h.term i x c w).ext u k
 ·intro i x c w;rcases abp hb c with⟨rfl,rfl⟩|⟨_,c⟩
  ·exact h.opn _ b hb w
  ·exact h.opn i x c w
 ·intro v hv x a1;rw[r] at a1;cases a1;have old:v∈vals->Kn (f.set cur {b with ops:=b.ops++ [o]}) pl v cur ((b.ops++ [o]).length:Nat):=fun hv=>(h.known v hv b hb).ext u k Zt
  rcases m with⟨h1,h2,rfl⟩|⟨h1,h2,rfl⟩
  ·rcases Jl.1 hv with hv|hv
   ·exact old hv
   ·rw[Jo] at hv;subst hv;refine⟨cur,(b.ops.length:Int),⟨_,r,.inr ⟨b.ops.length,o,rfl,?_,rfl,by omega⟩⟩,.refl _,fun _=>by simp;omega⟩;simp
  ·exact old hv
 ·refine t.nodup_iff.2 ?_;rcases m with⟨h1,h2,_⟩|⟨h1,h2,_⟩
  ·have e:abo [o]=[o.res]:=by unfold abo;rw[List.filter_cons_of_pos Zt];rfl
   rw[e];refine Qt.2 ⟨fun hm=>?_,h.nd⟩;have:=(h.rng _ hm).2;omega
  ·have e:abo [o]=[]:=by unfold abo;rw[List.filter_cons_of_neg Zt];rfl
   rw[e];exact h.nd
 ·intro v hv;rw[t.mem_iff] at hv;rcases m with⟨h1,h2,_⟩|⟨h1,h2,_⟩
  ·have e:abo [o]=[o.res]:=by unfold abo;rw[List.filter_cons_of_pos Zt];rfl
   rw[e] at hv;rcases Jl.1 hv with hv|hv
   ·rw[Jo] at hv;omega
   ·have:=h.rng v hv;omega
  ·have e:abo [o]=[]:=by unfold abo;rw[List.filter_cons_of_neg Zt];rfl
   rw[e] at hv;have:=h.rng v hv;omega
 ·intro i hi hP;rw[Nd] at hi;exact(h.rch i hi hP).ext u
 ·intro i x c;rcases abp hb c with⟨rfl,rfl⟩|⟨_,c⟩
  ·exact h.sml _ b hb
  ·exact h.sml i x c
theorem MInv.close{b:IBlk}(hb:f[cur]? =some b)(m:O cur)(hk:gR t=true)(h4:t.to.length<=4)(he:∀e∈t.to,gB f pl cur e)(hv:∀v∈mE t,Kn f pl v cur b.ops.length)(hc:¬P cur)(hP:∀i,P i->P' i∨∃e∈t.to,e.block=(i:Int)):
 MInv p (f.set cur {b with term:=t }) cur next vals (fun i=>O i/\i≠cur) P' pl:=by
 have g:xn f (f.set cur {b with term:=t }):=g7 hb rfl Od (.inl (h.opn _ b hb m));have d:pl<+:pl:=Od;have l:=fF (b':= {b with term:=t }) hb (x:=[]) (by unfold abu;simp);have k:(f.set cur {b with term:=t })[cur]? =some {b with term:=t }:=Nn h.curl;refine⟨by rw[Nd];exact h.len,by rw[Nd];exact h.curl,h.par,?_,?_,?_,fun i hi=>by rw[Nd];exact h.lt i hi.1,?_,l.nodup_iff.2 h.nd,fun v hv=>h.rng v (l.mem_iff.1 hv),?_,?_⟩
 ·intro i x c j y w;rcases abp hb c with⟨rfl,rfl⟩|⟨_,c⟩
  ·obtain⟨h1,h2⟩:=h.ops _ b hb j y w;exact⟨h1,fun v hv=>(h2 v hv).ext g d (Og _)⟩
  ·obtain⟨h1,h2⟩:=h.ops i x c j y w;exact⟨h1,fun v hv=>(h2 v hv).ext g d (Og _)⟩
 ·intro i x c o;rcases abp hb c with⟨rfl,rfl⟩|⟨a0,c⟩
  ·exact⟨hk,fun e h1=>(he e h1).ext g d,fun v h1=>(hv v h1).ext g d (Og _)⟩
  ·exact(h.term i x c (fun e=>o ⟨e,a0⟩)).ext g d
 ·intro i x c o;rcases abp hb c with⟨rfl,rfl⟩|⟨_,c⟩
  ·exact absurd rfl o.2
  ·exact h.opn i x c o.1
 ·intro v hv x r;rw[k] at r;cases r;exact(h.known v hv b hb).ext g d (Og _)
 ·intro i hi a1;rw[Nd] at hi
  by_cases u:P i
  ·rcases hP i u with h1|⟨e,h1,h2⟩
   ·exact absurd h1 a1
   ·exact .step ((h.rch cur h.curl hc).ext g) k h1 h2
  ·exact(h.rch i hi u).ext g
 ·intro i x c;rcases abp hb c with⟨rfl,rfl⟩|⟨_,c⟩
  ·exact⟨(h.sml _ b hb).1,h4⟩
  ·exact h.sml i x c
theorem MInv.block{n:Nat}(hu:u<f.length)(hn:n<=3):MInv p (f++ [wJ next n]) cur (next+n) vals (fun i=>O i∨i=f.length) (fun i=>P i∨i=f.length) (pl++ [u]):=by
 have r:xn f (f++ [wJ next n]):=abj _ _;have m:pl<+:pl++ [u]:=Qb _ _
 have d:∀(i:Nat) (x:IBlk),(f++ [wJ next n])[i]? =some x->(f[i]? =some x)∨(i=f.length/\x=wJ next n):=fun i x hi=>by
  by_cases o:i<f.length
  ·rw[Np o] at hi;exact .inl hi
  ·have:i=f.length:=by
    have:=(Jh.1 hi).1;simp at this;omega
   subst this;rw[Nc (Je _),Qy] at hi;cases hi;exact .inr ⟨rfl,rfl⟩
 have t:abu (wJ next n)=(List.range n).map fun k=>((next+k:Nat):Int):=by
  unfold abu wJ;simp[abo]
 have hl:aaI (f++ [wJ next n])=aaI f++(List.range n).map fun k=>((next+k:Nat):Int):=by
  unfold aaI;rw[Nx,Qa,List.flatMap_nil,Ua,t]
 refine⟨by simp[h.len],by simp;have:=h.curl;omega,?_,?_,?_,?_,?_,?_,?_,?_,?_,?_⟩
 ·intro i w hi h0
  by_cases o:i<pl.length
  ·rw[Np o] at hi;exact h.par i w hi h0
  ·have a0:i=pl.length:=by
    have:=(Jh.1 hi).1;simp at this;omega
   subst a0;rw[Nc (Je _),Qy] at hi;cases hi;rw[h.len];exact hu
 ·intro i x c j y hy;rcases d i x c with c|⟨rfl,rfl⟩
  ·obtain⟨h1,h2⟩:=h.ops i x c j y hy;exact⟨h1,fun v hv=>(h2 v hv).ext r m (Og _)⟩
  ·simp[wJ] at hy
 ·intro i x c g;rcases d i x c with c|⟨rfl,rfl⟩
  ·exact(h.term i x c (fun e=>g (.inl e))).ext r m
  ·exact absurd (.inr rfl) g
 ·intro i x c g;rcases d i x c with c|⟨rfl,rfl⟩
  ·rcases g with g|rfl
   ·exact h.opn i x c g
   ·have:=(Jh.1 c).1;omega
  ·rfl
 ·intro i hi;rcases hi with hi|rfl
  ·have:=h.lt i hi;simp;omega
  ·simp
 ·intro v hv x l;rcases d cur x l with l|⟨e,_⟩
  ·exact(h.known v hv x l).ext r m (Og _)
  ·have:=h.curl;omega
 ·rw[hl];refine Qq.2 ⟨h.nd,?_,fun a ha b hb e=>?_⟩
  ·refine List.pairwise_map.2 (List.nodup_range.imp fun hab e=>hab ?_);omega
  ·obtain⟨k,_,rfl⟩:=Nu.1 hb;have:=h.rng a ha;omega
 ·intro v hv;rw[hl] at hv;rcases Jl.1 hv with hv|hv
  ·have:=h.rng v hv;omega
  ·obtain⟨k,hk,rfl⟩:=Nu.1 hv;have:=Ol.1 hk;omega
 ·intro i hi hP;have a2:i≠f.length:=fun e=>hP (.inr e)
  have a1:i<f.length:=by simp at hi;omega
  exact(h.rch i a1 (fun e=>hP (.inl e))).ext r
 ·intro i x c;rcases d i x c with c|⟨rfl,rfl⟩
  ·exact h.sml i x c
  ·exact⟨by unfold wJ;simpa using hn,by show 0<=4;decide⟩
theorem MInv.goto {c':Nat}{c:List Int}(d:c'<f.length)(hv:∀v∈c,∀b,f[c']? =some b->Kn f pl v c' b.ops.length):MInv p f c' next c O P pl:=
 {h with curl:=d,known:=hv }
theorem MInv.weak{O':Nat->Prop}(c:∀i,O i↔O' i)(d:∀i,P i->P' i):MInv p f cur next vals O' P' pl:=
 {h with term:=fun i b hb hn=>h.term i b hb (fun e=>hn ((c i).1 e)),opn:=fun i b hb hn=>h.opn i b hb ((c i).2 hn),lt:=fun i hi=>h.lt i ((c i).2 hi),rch:=fun i hi hn=>h.rch i hi (fun e=>hn (d i e))}
theorem MInv.below{v:Int}(hk:Kn f pl v i k)(c:Abv pl i j)(d:i≠j):Kn f pl v j k':=by
 obtain⟨b,a,h1,h2,h3⟩:=hk;refine⟨b,a,h1,h2.trans c,fun e=>?_⟩;have l:=h2.le h.par;have g:=c.le h.par;omega
end
structure EnvOk (p:IProg) (E:ME):Prop where
 nf:p.funcs.length=E.nf
 args:p.args=E.args
 data:p.data.length=3
 alt:∀x∈E.args,0<=x/\x<4
theorem opF_of{p:IProg}{F:Flds}(hs:zi o.code=F)(g:o.code≠26)(h2:o.code≠2)(d:F.is=true)(c:F.res=decide (0<=o.res))(hm:-1<=o.res)(i:F.a=true∨o.a=0)(hb:F.b=true∨o.b=0)(h:F.n=true∨o.n=0)(hg:o.args.length=0)
 (hp:(o.code≠24/\o.code≠25)∨(1<=o.n/\o.n<=255)):opF p o=true:=by
 unfold opF;rw[hs,if_neg g,if_neg h2];simp only[Jm,Bool.or_eq_true,decide_eq_true_eq];exact⟨d,⟨⟨⟨⟨⟨⟨c,hm⟩,i⟩,hb⟩,h⟩,hg⟩,hp⟩⟩
theorem gU{F:Flds}(hs:zi o.code=F)(c:F.a=false)(hb:F.b=false):rR o=o.args:=by unfold rR;rw[hs,c,hb];rfl
theorem fY {c:Int}(h:c=3∨c=4∨c=18∨c=19):zi c=⟨true,true,true,false,false⟩:=by rcases h with rfl|rfl|rfl|rfl<;>rfl
theorem eF {c:Int}(h:5<=c/\c<=17):zi c=⟨true,true,true,true,false⟩:=by
 unfold zi;rw[if_neg Zo,if_neg Zo,if_pos h]
theorem shape_st {c:Int}(h:c=20∨c=21):zi c=⟨true,false,true,true,false⟩:=by rcases h with rfl|rfl<;>rfl
theorem eK {c:Int}(h:c=22∨c=23):zi c=⟨true,true,true,false,true⟩:=by rcases h with rfl|rfl<;>rfl
section
variable {p:IProg} {M:MS} {O P:Nat->Prop} {pl:List Nat}
theorem eA{M:MS}(h:uc o.code=true):(M.emit o).next=M.next+1:=by unfold MS.emit;simp only[h,if_true]
theorem gS{M:MS}(h:uc o.code=false):(M.emit o).next=M.next/\(M.emit o).vals=M.vals:=by unfold MS.emit;simp only[h];exact⟨rfl,rfl⟩
theorem gy{M:MS}(h:uc o.code=true):(M.emit o).vals=M.vals++ [(M.next:Int)]:=by unfold MS.emit;simp only[h,if_true]
theorem fS{M:MS}(h:uc o.code=true):(M.next:Int)∈(M.emit o).vals:=by rw[gy h];simp
theorem abw{M:MS}(h:uc o.code=true):(eg M o).res=(M.next:Int):=by unfold eg;simp only[h,if_true]
theorem gX{M:MS}(h:uc o.code=false):(eg M o).res=-1:=by unfold eg;simp only[h];rfl
theorem MInv.emit(h:aaz p M O P pl)(d:O M.cur)(ho:opF p (eg M o)=true)(c:∀v∈rR o,∀b,M.f[M.cur]? =some b->Kn M.f pl v M.cur b.ops.length):aaz p (M.emit o) O P pl:=by
 obtain⟨b,hb⟩:=h.get
 show MInv p (wD M.f M.cur _) M.cur _ _ O P pl
 rw[xI hb];refine h.push hb d ho (fun v hv=>c v hv b hb) ?_
 cases hr:uc o.code with
 |true=>exact .inl ⟨abw hr,eA hr,by rw[abw hr];exact gy hr⟩
 |false=>exact .inr ⟨by rw[gX hr];decide,(gS hr).1,(gS hr).2⟩
theorem MInv.at (h:aaz p M O P pl){v:Int}(hv:v∈M.vals):∀b,M.f[M.cur]? =some b->Kn M.f pl v M.cur b.ops.length:=fun b hb=>h.known v hv b hb
theorem MInv.emitK (h:aaz p M O P pl)(m:O M.cur){c:Int}{F:Flds}(hs:zi c=F)(g:F.is=true/\F.res=true)(j:c≠26)(h2:c≠2)(k:c≠25){a b:Int}{n:Nat}(i:(F.a=true/\∀x,M.f[M.cur]? =some x->Kn M.f pl a M.cur x.ops.length)∨(F.a=false/\a=0))(hb:(F.b=true/\∀x,M.f[M.cur]? =some x->Kn M.f pl b M.cur x.ops.length)∨(F.b=false/\b=0))
 (l:F.n=true∨n=0) (hp:c≠24∨(1<=n/\n<=255)):aaz p (M.emit ⟨c,0,a,b,n,[]⟩) O P pl/\(M.next:Int)∈(M.emit ⟨c,0,a,b,n,[]⟩).vals:=by
 have hr:uc c=true:=by unfold uc;rw[hs,g.2];rfl
 have d:uc (⟨c,0,a,b,n,[]⟩:IOp).code=true:=hr;refine⟨h.emit m ?_ ?_,fS d⟩
 ·refine opF_of (F:=F) hs j h2 g.1 ?_ ?_ ?_ ?_ l rfl (hp.imp (fun e=>⟨e,k⟩) (fun e=>e))
  ·rw[abw d,g.2];simp
  ·rw[abw d];omega
  ·exact i.imp (·.1) (·.2)
  ·exact hb.imp (·.1) (·.2)
 ·intro v hv;unfold rR at hv;simp only[hs,Ua] at hv;rcases Jl.1 hv with hv|hv
  ·rcases i with⟨e1,e2⟩|⟨e1,e2⟩
   ·rw[e1,if_pos rfl,Jo] at hv;subst hv;exact e2
   ·rw[e1] at hv;simp at hv
  ·rcases hb with⟨e1,e2⟩|⟨e1,e2⟩
   ·rw[e1,if_pos rfl,Jo] at hv;subst hv;exact e2
   ·rw[e1] at hv;simp at hv
theorem MInv.emitR (h:aaz p M O P pl)(k:O M.cur){c:Int}{F:Flds}(hs:zi c=F)(l:F.is=true/\F.res=true)(d:c≠26)(h2:c≠2)(g:c≠25){a b:Int}{n:Nat}(j:(F.a=true/\a∈M.vals)∨(F.a=false/\a=0))(hb:(F.b=true/\∀x,M.f[M.cur]? =some x->Kn M.f pl b M.cur x.ops.length)∨(F.b=false/\b=0))
 (i:F.n=true∨n=0) (hp:c≠24∨(1<=n/\n<=255)):aaz p (M.emit ⟨c,0,a,b,n,[]⟩) O P pl/\(M.next:Int)∈(M.emit ⟨c,0,a,b,n,[]⟩).vals:=
 h.emitK k hs l d h2 g (j.imp (fun e=>⟨e.1,h.at e.2⟩) (fun e=>e)) hb i hp
theorem MInv.emitN (h:aaz p M O P pl)(m:O M.cur){c:Int}{F:Flds}(hs:zi c=F)(i:F.is=true/\F.res=false)(g:c≠26)(h2:c≠2)(k:c≠24){a b:Int}{n:Nat}(j:(F.a=true/\a∈M.vals)∨(F.a=false/\a=0))(hb:(F.b=true/\b∈M.vals)∨(F.b=false/\b=0))
 (l:F.n=true∨n=0) (hp:c≠25∨(1<=n/\n<=255)):aaz p (M.emit ⟨c,0,a,b,n,[]⟩) O P pl:=by
 have hr:uc c=false:=by unfold uc;rw[hs,i.2];simpa using g
 have d:uc (⟨c,0,a,b,n,[]⟩:IOp).code=false:=hr;refine h.emit m ?_ ?_
 ·refine opF_of (F:=F) hs g h2 i.1 ?_ ?_ ?_ ?_ l rfl (hp.imp (fun e=>⟨k,e⟩) (fun e=>e))
  ·rw[gX d,i.2];rfl
  ·rw[gX d];decide
  ·exact j.imp (·.1) (·.2)
  ·exact hb.imp (·.1) (·.2)
 ·intro v hv;unfold rR at hv;simp only[hs,Ua] at hv;rcases Jl.1 hv with hv|hv
  ·rcases j with⟨e1,e2⟩|⟨e1,e2⟩
   ·rw[e1,if_pos rfl,Jo] at hv;subst hv;exact h.at e2
   ·rw[e1] at hv;simp at hv
  ·rcases hb with⟨e1,e2⟩|⟨e1,e2⟩
   ·rw[e1,if_pos rfl,Jo] at hv;subst hv;exact h.at e2
   ·rw[e1] at hv;simp at hv
theorem MInv.num (h:aaz p M O P pl)(d:O M.cur)(n:Nat):aaz p (M.num n) O P pl/\(M.next:Int)∈(M.num n).vals:=
 h.emitR (c:=1) d (F:=⟨true,true,false,false,true⟩) rfl ⟨rfl,rfl⟩ Zd Zd Zd (.inr ⟨rfl,rfl⟩) (.inr ⟨rfl,rfl⟩) (.inl rfl) (.inl Zd)
theorem MInv.tick (h:aaz p M O P pl):aaz p M.tick O P pl:=h
theorem fE {l:List Int}{k:Nat}(h:k<l.length)(d:Int):l.getD k d∈l:=by
 rw[Jj,Jd h];exact Uf h
theorem MInv.any (E:ME)(h:aaz p M O P pl)(c:O M.cur):aaz p (zJ E M).2 O P pl/\(zJ E M).1∈(zJ E M).2.vals:=by
 unfold zJ
 split
 ·exact h.tick.num c _
 ·rename_i d
  split
  ·refine⟨h,fE ?_ _⟩
   show _<M.vals.length
   omega
  ·refine⟨h,fE ?_ _⟩;exact aaE E M Zo
theorem MInv.addr (E:ME)(hp:EnvOk p E)(h:aaz p M O P pl)(c:O M.cur):aaz p (yJ E M).2 O P pl/\(yJ E M).1∈(yJ E M).2.vals:=by
 unfold yJ
 split
 ·exact h.tick.any E c
 ·have hr:uc (2:Int)=true:=rfl;refine⟨MInv.emit (M:=M.tick.tick.tick) h c ?_ (fun v hv=>?_),fS (M:=M.tick.tick.tick) hr⟩
  ·have h1:=aaE E M.tick (n:=2) Zo;unfold opF;rw[show(eg M.tick.tick.tick ⟨2,0,((tkV E M.tick 2:Nat):Int),0,tkV E M.tick.tick (sE (tkV E M.tick 2)),[]⟩).code=2 from rfl,if_neg Zd,if_pos rfl,abw hr];simp only[Jm,decide_eq_true_eq,hp.data];exact⟨rfl,⟨⟨⟨⟨by show(0:Int)<=((tkV E M.tick 2:Nat):Int);omega,by show((tkV E M.tick 2:Nat):Int)<((3:Nat):Int);omega⟩,by omega⟩,rfl⟩,rfl⟩⟩
  ·rw[gU (F:=⟨true,true,false,false,true⟩) rfl rfl rfl] at hv;simp at hv
theorem MInv.args (E:ME)(h:aaz p M O P pl)(d:O M.cur):∀n,aaz p (yI E n M).2 O P pl/\(yI E n M).1.length=n/\(∀v∈(yI E n M).1,v∈(yI E n M).2.vals)/\(yI E n M).2.cur=M.cur
 |0=>⟨h,rfl,fun v hv=>by simp[yI] at hv,rfl⟩
 |n+1=>by
  obtain⟨h1,h2,h3,h4⟩:=MInv.args E h d n;have c:O (yI E n M).2.cur:=by rw[h4];exact d
  obtain⟨i,g⟩:=h1.any E c;have hg:=yU E (yI E n M).2;refine⟨i,?_,fun v hv=>?_,hg.cur.trans h4⟩
  ·show(_++ [_]).length=_
   rw[Jk,h2];rfl
  ·rcases Jl.1 hv with hv|hv
   ·exact hg.pre.subset (h3 v hv)
   ·rw[Jo] at hv;subst hv;exact g
theorem MInv.call (E:ME)(hp:EnvOk p E)(h:aaz p M O P pl)(c:O M.cur):aaz p (vN E M) O P pl:=by
 unfold vN
 split
 ·exact h
 ·rename_i j
  simp only
  split
  ·exact h
  ·obtain⟨h1,h2,h3,g⟩:=MInv.args E h.tick c (E.args.getD (E.me+1+tkV E M (E.nf-E.me-1)) 0).toNat;have k:=aaE E M (n:=E.nf-E.me-1) Zo
   have i:0<=E.args.getD (E.me+1+tkV E M (E.nf-E.me-1)) 0:=by
    rw[Jj]
    cases d:E.args[E.me+1+tkV E M (E.nf-E.me-1)]? with
    |none=>simp
    |some x=>exact(hp.alt x (Ji d)).1
   have hf:E.me+1+tkV E M (E.nf-E.me-1)<E.nf:=Zo;generalize E.me+1+tkV E M (E.nf-E.me-1)=f at *;have hr:uc (26:Int)=true:=rfl;refine h1.emit (by rw[g];exact c) ?_ (fun v hv=>?_)
   ·unfold opF;rw[if_pos (show(eg (yI E (E.args.getD f 0).toNat M.tick).2 ⟨26,0,(f:Nat),0,0,(yI E (E.args.getD f 0).toNat M.tick).1⟩).code=26 from rfl)];simp only[Jm,decide_eq_true_eq,hp.nf,hp.args];refine⟨rfl,⟨⟨⟨⟨⟨by show(0:Int)<=((f:Nat):Int);omega,by show((f:Nat):Int)<_;omega⟩,?_⟩,?_⟩,rfl⟩,rfl⟩⟩
    ·show(((yI E (E.args.getD f 0).toNat M.tick).1.length:Nat):Int)=E.args.getD ((f:Nat):Int).toNat 0
     rw[h2,Ni,Oa i]
    ·rw[abw hr];omega
   ·rw[gU (F:=⟨true,false,false,false,false⟩) rfl rfl rfl] at hv;exact h1.at (h3 v hv)
theorem MInv.arith (E:ME)(h:aaz p M O P pl)(m:O M.cur):aaz p (yR E M) O P pl:=by
 obtain⟨h1,h2⟩:=h.any E m;have g1:=yU E M;have k:O (zJ E M).2.cur:=by rw[g1.cur];exact m
 obtain⟨h3,l⟩:=h1.any E k;have g2:=yU E (zJ E M).2;have d:O (zJ E (zJ E M).2).2.cur:=by rw[g2.cur];exact k
 have i:=g2.pre.subset h2;unfold yR;simp only;have t:=aaE E (zJ E (zJ E M).2).2 (n:=13) Zo;generalize tkV E (zJ E (zJ E M).2).2 13=r at *;generalize zJ E (zJ E M).2=b at *;generalize (zJ E M).1=a at *;have g:aaz p b.2.tick O P pl:=h3
 split
 ·split
  ·obtain⟨k1,k2⟩:=MInv.num (M:=b.2.tick.tick) g d 1;have kb:b.1∈(b.2.tick.tick.num 1).vals:=(wT b.2.tick.tick 1).pre.subset l;have ka:a∈(b.2.tick.tick.num 1).vals:=(wT b.2.tick.tick 1).pre.subset i;have j:O (b.2.tick.tick.num 1).cur:=by rw[(wT b.2.tick.tick 1).cur];exact d
   obtain⟨k3,k4⟩:=k1.emitR (c:=10) j (F:=⟨true,true,true,true,false⟩) rfl ⟨rfl,rfl⟩ Zd Zd Zd (a:=b.1) (b:=(b.2.tick.tick.next:Nat)) (n:=0) (.inl ⟨rfl,kb⟩) (.inl ⟨rfl,k1.at k2⟩) (.inr rfl) (.inl Zd);have g3:=yB (b.2.tick.tick.num 1) ⟨10,0,b.1,(b.2.tick.tick.next:Nat),0,[]⟩;have o:(b.2.tick.tick.num 1).next=b.2.tick.tick.next+1:=rfl;rw[o] at k4;exact(k3.emitR (c:=8) (by rw[g3.cur];exact j) (F:=⟨true,true,true,true,false⟩) rfl ⟨rfl,rfl⟩ Zd Zd Zd (a:=a) (b:=((b.2.tick.tick.next+1:Nat):Int)) (n:=0) (.inl ⟨rfl,g3.pre.subset ka⟩) (.inl ⟨rfl,k3.at k4⟩) (.inr rfl) (.inl Zd)).1
  ·exact(MInv.emitR (M:=b.2.tick.tick) g (c:=8) d (F:=⟨true,true,true,true,false⟩) rfl ⟨rfl,rfl⟩ Zd Zd Zd (a:=a) (b:=b.1) (n:=0) (.inl ⟨rfl,i⟩) (.inl ⟨rfl,MInv.at (M:=b.2.tick.tick) g l⟩) (.inr rfl) (.inl Zd)).1
 ·exact(MInv.emitR (M:=b.2.tick) g (c:=((5+r:Nat):Int)) d (F:=⟨true,true,true,true,false⟩) (eF Zo) ⟨rfl,rfl⟩ Zo Zo Zo (a:=a) (b:=b.1) (n:=0) (.inl ⟨rfl,i⟩) (.inl ⟨rfl,MInv.at (M:=b.2.tick) g l⟩) (.inr rfl) (.inl Zo)).1
theorem MInv.op (E:ME)(hp:EnvOk p E)(h:aaz p M O P pl)(d:O M.cur):aaz p (xK E M) O P pl:=by
 unfold xK;simp only;have l:aaz p M.tick O P pl:=h;have j:O M.tick.cur:=d
 split
 ·exact(MInv.num (M:=M.tick.tick) h d _).1
 split
 ·obtain⟨h1,h2⟩:=MInv.any (M:=M.tick.tick) E h d;have i:=aaE E M.tick (n:=2) Zo;exact(h1.emitR (c:=3+((tkV E M.tick 2:Nat):Int)) (by rw[(yU E M.tick.tick).cur];exact d) (F:=⟨true,true,true,false,false⟩) (fY Zo) ⟨rfl,rfl⟩ Zo Zo Zo (.inl ⟨rfl,h2⟩) (.inr ⟨rfl,rfl⟩) (.inr rfl) (.inl Zo)).1
 split
 ·obtain⟨h1,h2⟩:=MInv.addr (M:=M.tick) E hp h d;have i:=aaE E (yJ E M.tick).2 (n:=2) Zo;exact(MInv.emitR (M:=(yJ E M.tick).2.tick) h1 (c:=18+((tkV E (yJ E M.tick).2 2:Nat):Int)) (by show O (yJ E M.tick).2.cur;rw[(ue E M.tick).cur];exact d) (F:=⟨true,true,true,false,false⟩) (fY Zo) ⟨rfl,rfl⟩ Zo Zo Zo (.inl ⟨rfl,h2⟩) (.inr ⟨rfl,rfl⟩) (.inr rfl) (.inl Zo)).1
 split
 ·obtain⟨h1,h2⟩:=MInv.addr (M:=M.tick) E hp h d;have k:O (yJ E M.tick).2.cur:=by rw[(ue E M.tick).cur];exact d
  obtain⟨h3,m⟩:=h1.any E k;have g:=yU E (yJ E M.tick).2;have i:=aaE E (zJ E (yJ E M.tick).2).2 (n:=2) Zo;exact MInv.emitN (M:=(zJ E (yJ E M.tick).2).2.tick) h3 (c:=20+((tkV E (zJ E (yJ E M.tick).2).2 2:Nat):Int)) (by show O (zJ E (yJ E M.tick).2).2.cur;rw[g.cur];exact k) (F:=⟨true,false,true,true,false⟩) (shape_st Zo) ⟨rfl,rfl⟩ Zo Zo Zo (.inl ⟨rfl,g.pre.subset h2⟩) (.inl ⟨rfl,m⟩) (.inr rfl) (.inl Zo)
 split
 ·have i:=aaE E M.tick (n:=3) Zo;exact(MInv.emitR (M:=M.tick.tick) h (c:=24) d (F:=⟨true,true,false,false,true⟩) rfl ⟨rfl,rfl⟩ Zd Zd Zd (.inr ⟨rfl,rfl⟩) (.inr ⟨rfl,rfl⟩) (.inl rfl) (.inr ⟨by omega,by omega⟩)).1
 split
 ·obtain⟨h1,h2⟩:=MInv.any (M:=M.tick) E h d;have i:=aaE E (zJ E M.tick).2 (n:=3) Zo;exact MInv.emitN (M:=(zJ E M.tick).2.tick) h1 (c:=25) (by show O (zJ E M.tick).2.cur;rw[(yU E M.tick).cur];exact d) (F:=⟨true,false,true,false,true⟩) rfl ⟨rfl,rfl⟩ Zd Zd Zd (.inl ⟨rfl,h2⟩) (.inr ⟨rfl,rfl⟩) (.inl rfl) (.inr ⟨by omega,by omega⟩)
 split
 ·obtain⟨h1,h2⟩:=MInv.num (M:=M.tick.tick) h d (tkV E M.tick 4096);have i:=aaE E (M.tick.tick.num (tkV E M.tick 4096)) (n:=2) Zo;exact(MInv.emitR (M:=(M.tick.tick.num (tkV E M.tick 4096)).tick) h1 (c:=22+((tkV E (M.tick.tick.num (tkV E M.tick 4096)) 2:Nat):Int)) (by show O (M.tick.tick.num (tkV E M.tick 4096)).cur;rw[(wT M.tick.tick (tkV E M.tick 4096)).cur];exact d) (F:=⟨true,true,true,false,true⟩) (eK Zo) ⟨rfl,rfl⟩ Zo Zo Zo (.inl ⟨rfl,h2⟩) (.inr ⟨rfl,rfl⟩) (.inl rfl) (.inl Zo)).1
 split
 ·exact l.call E hp j
 split
 ·split
  ·exact MInv.emitN (M:=M.tick.tick) h (c:=27) d (F:=⟨true,false,false,false,false⟩) rfl ⟨rfl,rfl⟩ Zd Zd Zd (.inr ⟨rfl,rfl⟩) (.inr ⟨rfl,rfl⟩) (.inr rfl) (.inl Zd)
  ·exact h
 ·exact l.arith E j
theorem fC (E:ME)(hE:∀x∈E.args,0<=x/\x<4):∀(n:Nat) (M:MS),(qY E n M).cur=M.cur
 |0,M=>rfl
 |n+1,M=>(fC E hE n _).trans (pX E hE M).cur
theorem MInv.opsN (E:ME)(hp:EnvOk p E):∀(n:Nat) (M:MS),aaz p M O P pl->O M.cur->aaz p (qY E n M) O P pl
 |0,M,h,hO=>h
 |n+1,M,h,hO=>MInv.opsN E hp n (xK E M) (h.op E hp hO) (by rw[(pX E hp.alt M).cur];exact hO)
theorem MInv.run (E:ME)(hp:EnvOk p E)(h:aaz p M O P pl)(c:O M.cur):aaz p (tR E M) O P pl/\(tR E M).cur=M.cur:=
 ⟨MInv.opsN E hp _ M.tick h c,fC E hp.alt _ M.tick⟩
end
theorem xn.trans {f g h:List IBlk}(a:xn f g)(b:xn g h):xn f h:=fun i x hx=>by
 obtain⟨y,d,p1,o1,t1⟩:=a i x hx;obtain⟨z,c,p2,o2,t2⟩:=b i y d;refine⟨z,c,p2.trans p1,o1.trans o2,?_⟩;rcases t1 with t1|t1
 ·exact .inl t1
 ·rcases t2 with t2|t2
  ·left;rw[<-t1];exact t2
  ·exact .inr (t2.trans t1)
theorem acr{f:List IBlk}{g:IBlk->IBlk}(h:∀b,f[c]? =some b->(g b).params=b.params/\b.ops<+:(g b).ops/\(b.term.to=[]∨(g b).term=b.term)):xn f (wD f c g):=by
 unfold wD
 split
 ·rename_i x d
  obtain⟨h1,h2,h3⟩:=h x d;exact g7 d h1 h2 h3
 ·exact xn.refl f
theorem aaD (M:MS)(o:IOp):xn M.f (M.emit o).f:=acr fun b _=>⟨rfl,Qb _ _,.inr rfl⟩
theorem abB (M:MS)(n:Nat):xn M.f (M.num n).f:=aaD M _
theorem aaW (E:ME)(M:MS):xn M.f (zJ E M).2.f:=by
 unfold zJ
 split
 ·exact abB M.tick _
 split<;>exact xn.refl _
theorem fU (E:ME)(M:MS):xn M.f (yJ E M).2.f:=by
 unfold yJ
 split
 ·exact aaW E M.tick
 ·exact aaD M.tick.tick.tick _
theorem fW (E:ME)(M:MS):∀n,xn M.f (yI E n M).2.f
 |0=>xn.refl _
 |n+1=>(fW E M n).trans (aaW E _)
theorem call_ext (E:ME)(M:MS):xn M.f (vN E M).f:=by
 unfold vN
 split
 ·exact xn.refl _
 ·simp only
  split
  ·exact xn.refl _
  ·exact(fW E M.tick _).trans (aaD _ _)
theorem eX (E:ME)(M:MS):xn M.f (yR E M).f:=by
 have h:=(aaW E M).trans (aaW E (zJ E M).2);unfold yR;simp only
 split
 ·split
  ·exact h.trans (((abB _ _).trans (aaD _ _)).trans (aaD _ _))
  ·exact h.trans (aaD (M:=(zJ E (zJ E M).2).2.tick.tick) _)
 ·exact h.trans (aaD (M:=(zJ E (zJ E M).2).2.tick) _)
theorem op_ext (E:ME)(M:MS):xn M.f (xK E M).f:=by
 unfold xK;simp only
 split
 ·exact abB M.tick.tick _
 split
 ·exact(aaW E M.tick.tick).trans (aaD _ _)
 split
 ·exact(fU E M.tick).trans (aaD (M:=(yJ E M.tick).2.tick) _)
 split
 ·exact((fU E M.tick).trans (aaW E _)).trans (aaD (M:=(zJ E (yJ E M.tick).2).2.tick) _)
 split
 ·exact aaD M.tick.tick _
 split
 ·exact(aaW E M.tick).trans (aaD (M:=(zJ E M.tick).2.tick) _)
 split
 ·exact(abB M.tick.tick _).trans (aaD (M:=(M.tick.tick.num (tkV E M.tick 4096)).tick) _)
 split
 ·exact call_ext E M.tick
 split
 ·split
  ·exact aaD M.tick.tick _
  ·exact xn.refl _
 ·exact eX E M.tick
theorem eN (E:ME):∀(n:Nat) (M:MS),xn M.f (qY E n M).f
 |0,M=>xn.refl _
 |n+1,M=>(op_ext E M).trans (eN E n _)
theorem eO (E:ME)(M:MS):xn M.f (tR E M).f:=eN E _ M.tick
theorem run_vals (E:ME)(c:∀x∈E.args,0<=x/\x<4)(M:MS):M.vals<+:(tR E M).vals:=(oL E c M).pre
structure PartOut (M:MS) (O P:Nat->Prop) (pl:List Nat) (p:IProg) (M':MS) (pl':List Nat):Prop where
 pre:pl<+:pl'
 inv:aaz p M' (fun i=>(O i/\i≠M.cur)∨i=M'.cur) P pl'
 abv:Abv pl' M.cur M'.cur
 new:M'.cur=M.cur∨M.f.length<=M'.cur
 np:¬P M'.cur
 vals:M.vals<+:M'.vals
 ext:xn M.f M'.f
def so (p:IProg)(pt:MS->MS):Prop:=∀(M:MS) (O P:Nat->Prop) (pl:List Nat),aaz p M O P pl->O M.cur->¬P M.cur->(∀i,P i->O i)->∃pl',PartOut M O P pl p (pt M) pl'
theorem PartOut.trans{M1 M2:MS}{O:Nat->Prop}{pl c pl2:List Nat}{p:IProg}(h:PartOut M O P pl p M1 c)(k:PartOut M1 (fun i=>(O i/\i≠M.cur)∨i=M1.cur) P c p M2 pl2)(g:M.f.length<=M1.f.length)(d:∀i,O i->i<M.f.length):PartOut M O P pl p M2 pl2:=by
 refine⟨h.pre.trans k.pre,k.inv.weak (fun i=>?_) (fun i e=>e),(h.abv.ext k.pre).trans k.abv,?_,k.np,h.vals.trans k.vals,h.ext.trans k.ext⟩
 ·constructor
  ·rintro(⟨h1|h1,h2⟩|h1)
   ·exact .inl h1
   ·exact absurd h1 h2
   ·exact .inr h1
  ·rintro(h1|h1)
   ·refine .inl ⟨.inl h1,fun e=>?_⟩;rcases h.new with h2|h2
    ·exact h1.2 (by rw[e,h2])
    ·have:=d i h1.1;omega
   ·exact .inr h1
 ·rcases k.new with h1|h1
  ·rcases h.new with h2|h2
   ·left;rw[h1,h2]
   ·right;omega
  ·right;omega
theorem ja {f g:List IBlk}(h:xn f g):f.length<=g.length:=by
 rcases Nat.lt_or_ge g.length f.length with c|d
 ·obtain⟨x,j⟩:∃x,f[g.length]? =some x:=⟨_,Jd c⟩
  obtain⟨b',i,_⟩:=h _ _ j;have:=(Jh.1 i).1;omega
 ·exact d
section
variable {p:IProg} {E:ME} (hp:EnvOk p E)
include hp
theorem fX:so p (tR E):=fun M O P pl h hO hn hPO=>by
 obtain⟨h1,h2⟩:=h.run E hp hO;refine⟨pl,Od,h1.weak (fun i=>?_) (fun i e=>e),by rw[h2];exact .refl _,.inl h2,by rw[h2];exact hn,run_vals E hp.alt M,eO E M⟩;rw[h2];constructor
 ·intro hi
  by_cases e:i=M.cur
  ·exact .inr e
  ·exact .inl ⟨hi,e⟩
 ·rintro(h3|rfl)
  ·exact h3.1
  ·exact hO
end
theorem eQ{Q:Prop}{a n:Nat}:((Q∨(a<=i/\i<a+n))∨i=a+n)↔(Q∨(a<=i/\i<a+(n+1))):=by
 constructor
 ·rintro((h|h)|h)
  ·exact .inl h
  ·exact .inr Zo
  ·exact .inr Zo
 ·rintro(h|h)
  ·exact .inl (.inl h)
  ·by_cases e:i=a+n
   ·exact .inr e
   ·exact .inl (.inr Zo)
theorem gV {p:IProg}:∀(n:Nat) (M:MS) (O P:Nat->Prop) (pl:List Nat),aaz p M O P pl->
 aaz p (xE n M) (fun i=>O i∨(M.f.length<=i/\i<M.f.length+n)) (fun i=>P i∨(M.f.length<=i/\i<M.f.length+n)) (pl++List.replicate n M.cur)/\(xE n M).cur=M.cur/\(xE n M).vals=M.vals/\xn M.f (xE n M).f/\∀k,k<n->∃b,(xE n M).f[M.f.length+k]? =some b/\b.params.length=0
 |0,M,O,P,pl,h=>⟨by
  rw[List.replicate_zero,Ua]
  exact h.weak (fun i=>⟨.inl,fun e=>e.elim (fun e=>e) (fun e=>by omega)⟩) (fun i e=> .inl e),rfl,rfl,xn.refl _,fun k hk=>by omega⟩
 |n+1,M,O,P,pl,h=>by
  obtain⟨h1,h2,h3,h4,h5⟩:=gV n M O P pl h;have hl:=tB n M;have l:=h1.block (n:=0) (u:=M.cur) (by rw[hl];have:=h.curl;omega) Zd;rw[hl] at l;refine⟨?_,h2,h3,h4.trans (abj _ _),fun k hk=>?_⟩
  ·have e:pl++List.replicate (n+1) M.cur=(pl++List.replicate n M.cur)++ [M.cur]:=by rw[List.replicate_succ',Nv]
   rw[e];exact l.weak (fun i=>eQ) (fun i e=>eQ.1 e)
  ·by_cases d:k<n
   ·obtain⟨b,hb,g⟩:=h5 k d;obtain⟨b',j,c,_⟩:=abj (xE n M).f [wJ (xE n M).next 0] _ _ hb;exact⟨b',j,by rw[c];exact g⟩
   ·have e:k=n:=Zo;subst e;refine⟨wJ (xE k M).next 0,?_,by simp[wJ]⟩
    show((xE k M).f++ [_])[M.f.length+k]? =_
    rw[Nc Zo,hl,Qy];rfl
theorem xd{p:IProg}{O:Nat->Prop}{pl:List Nat}(h:aaz p M O P pl)(c:O M.cur)(t:ITerm):xn M.f (M.endB t).f:=acr fun b hb=>⟨rfl,Od,.inl (h.opn _ b hb c)⟩
theorem MInv.endB{p:IProg}{O:Nat->Prop}{pl:List Nat}(h:aaz p M O P pl)(j:O M.cur)(hk:gR t=true)(k:t.to.length<=4)(c:∀e∈t.to,gB M.f pl M.cur e)(hv:∀v∈mE t,∀b,M.f[M.cur]? =some b->Kn M.f pl v M.cur b.ops.length)(d:¬P M.cur)
 (g:∀i,P i->P' i∨∃e∈t.to,e.block=(i:Int)):aaz p (M.endB t) (fun i=>O i/\i≠M.cur) P' pl:=by
 obtain⟨b,hb⟩:=h.get
 show MInv p (wD M.f M.cur _) M.cur _ _ _ P' pl
 rw[xI hb];exact h.close hb j hk k c (fun v hv'=>hv v hv' b hb) d g
theorem fH{α:Type}{l m:List α}{x:α}(h:m[i]? =some x):(l++m)[l.length+i]? =some x:=by
 rw[Nc Zo,Nat.add_sub_cancel_left];exact h
theorem gH{n:Nat}{e:IEdge}(h:e∈xk tg n):∃k,k<n/\e=⟨((tg+k:Nat):Int),[]⟩:=by
 unfold xk at h;obtain⟨k,hk,rfl⟩:=Nu.1 h;exact⟨k,Ol.1 hk,rfl⟩
theorem gm (tg n:Nat):((xk tg n).map (·.args)).flatten=[]:=by
 rw[List.flatten_eq_nil_iff];intro l hl;obtain⟨e,c,rfl⟩:=Nu.1 hl;obtain⟨k,_,rfl⟩:=gH c;rfl
theorem fA{p:IProg}{E:ME}{d:MS->MS}(r:so p d){O:Nat->Prop}{n:Nat}{V:List Int}(a0:∀i,O i->i<tg)(y:∀i,P i->O i)(a4:¬P c)(b9:c<tg):∀(m k:Nat) (M:MS) (pl:List Nat),k+m=n->
 aaz p M (fun i=>(O i/\i≠c)∨(tg+k<=i/\i<=tg+n)) (fun i=>P i∨(k=0/\i=tg+n)) pl->M.vals=V->(∀v∈V,∃q,Kn M.f pl v c q)->(∀i,tg<=i->i<=tg+n->pl[i]? =some c)->(∃b,M.f[tg+n]? =some b/\b.params.length=1)->
 ∃pl',pl<+:pl'/\aaz p (uV E d tg (tg+n) V.length m k M) (fun i=>(O i/\i≠c)∨(tg+n<=i/\i<=tg+n)) (fun i=>P i∨(n=0/\i=tg+n)) pl'/\xn M.f (uV E d tg (tg+n) V.length m k M).f/\(uV E d tg (tg+n) V.length m k M).vals=V
 |0,k,M,pl,hk,h,hv,hV,hpl,hj=>by
  obtain rfl:k=n:=by omega
  exact⟨pl,Od,h,xn.refl _,hv⟩
 |m+1,k,M,pl,hk,h,hv,hV,hpl,hj=>by
  have c8:k<n:=Zo;have c9:tg+n<M.f.length:=by obtain⟨b,hb,_⟩:=hj;exact(Jh.1 hb).1
  have b6:pl[tg+k]? =some c:=hpl _ Zo Zo;have a3:Abv pl c (tg+k):=.up b6 Zo (.refl _)
  have h0:aaz p {M with cur:=tg+k } (fun i=>(O i/\i≠c)∨(tg+k<=i/\i<=tg+n)) (fun i=>P i∨(k=0/\i=tg+n)) pl:=h.goto (show tg+k<M.f.length by omega) (fun v hv' b hb=>by
   rw[hv] at hv';obtain⟨q,hq⟩:=hV v hv'
   exact h.below hq a3 (show c≠tg+k by omega))
  obtain⟨pl1,hq⟩:=r _ _ _ pl h0 (.inr ⟨Je _,by show tg+k<=tg+n;omega⟩) (fun e=>by
   rcases e with e|⟨_,e⟩
   ·have e2:tg+k<tg:=a0 _ (y _ e);omega
   ·have e2:tg+k=tg+n:=e
    omega) (fun i e=>by
     rcases e with e|⟨_,e⟩
     ·exact .inl ⟨y i e,fun e2=>a4 (by rw[<-e2];exact e)⟩
     ·exact .inr Zo)
  have c7:({M with cur:=tg+k }:MS).cur=tg+k:=rfl;have c5:({M with cur:=tg+k }:MS).f=M.f:=rfl;obtain⟨q1,q2,q3,q4,q5,q6,q7⟩:=hq;rw[c7] at q2 q3 q4;rw[c5] at q4 q7;have b0:V<+:(d {M with cur:=tg+k }).vals:=by have e:({M with cur:=tg+k }:MS).vals=V:=hv;rw[<-e];exact q6
  rw[rg];generalize hM:d {M with cur:=tg+k }=M1 at *;have r0:aaz p M1.tick _ _ pl1:=q2;obtain⟨r1,r2⟩:=r0.any E (.inr rfl);have g1:=yU E M1.tick;have gc:(zJ E M1.tick).2.cur=M1.cur:=g1.cur;have ge:=q7.trans (aaW E M1.tick);have gv:V<+:(zJ E M1.tick).2.vals:=b0.trans g1.pre;have d0:(zJ E M1.tick).2.f.length=M1.f.length:=g1.len;have d2:=ja q7
  have u:∀(t:ITerm),gR t=true->t.to.length<=4->(∀e∈t.to,gB (zJ E M1.tick).2.f pl1 M1.cur e)->mE t=[(zJ E M1.tick).1]->(∀i,(P i∨(k=0/\i=tg+n))->(P i∨(k+1=0/\i=tg+n))∨∃e∈t.to,e.block=(i:Int))->
   aaz p ((zJ E M1.tick).2.endB t) (fun i=>(O i/\i≠c)∨(tg+(k+1)<=i/\i<=tg+n)) (fun i=>P i∨(k+1=0/\i=tg+n)) pl1/\xn M.f ((zJ E M1.tick).2.endB t).f:=fun t t1 t2 t3 t4 t5=>by
   have a5:(fun i=>(((O i/\i≠c)∨(tg+k<=i/\i<=tg+n))/\i≠tg+k)∨i=M1.cur) (zJ E M1.tick).2.cur:=.inr gc
   have:=r1.endB (P':=fun i=>P i∨(k+1=0/\i=tg+n)) a5 t1 t2 (by rw[gc];exact t3) (fun v hv'=>by
    rw[t4,Jo] at hv';subst hv'
    exact r1.at r2) (by rw[gc];exact q5) t5
   refine⟨this.weak (fun i=>?_) (fun i e=>e),ge.trans (xd r1 a5 t)⟩;rw[gc];constructor
   ·rintro⟨(⟨e1|e1,e2⟩|e1),e3⟩
    ·exact .inl e1
    ·exact .inr Zo
    ·exact absurd e1 e3
   ·rintro(e1|e1)
    ·have hi:=a0 i e1.1;refine⟨.inl ⟨.inl e1,by omega⟩,fun e=>?_⟩;rcases q4 with q4|q4<;>omega
    ·refine⟨.inl ⟨.inr Zo,by omega⟩,fun e=>?_⟩;rcases q4 with q4|q4<;>omega
  have a7:aaz p (wM E (tg+n) k M1) (fun i=>(O i/\i≠c)∨(tg+(k+1)<=i/\i<=tg+n)) (fun i=>P i∨(k+1=0/\i=tg+n)) pl1/\xn M.f (wM E (tg+n) k M1).f/\V<+:(wM E (tg+n) k M1).vals:=by
   unfold wM
   split
   ·rename_i d1
    obtain⟨a1,a2⟩:=u ⟨4,(zJ E M1.tick).1,[]⟩ rfl (by show 0<=4;decide) (fun e he=>by cases he) (by
     have b8:(zJ E M1.tick).1≠-1:=fun e=>by
      have h1:=r1.at r2;obtain⟨b,hb⟩:=r1.get;obtain⟨i,a,⟨b2,c0,hd⟩,_⟩:=h1 b hb;rcases hd with⟨_,hd⟩|⟨j,o,_,_,_,h0⟩
      ·have:=(r1.rng _ (Qx.2 ⟨b2,Ji c0,Jz _ hd⟩)).1;omega
      ·omega
     unfold mE ut
     simp[b8]) (fun i e=>by
     rcases e with e|⟨e,_⟩
     ·exact .inl (.inl e)
     ·omega)
    exact⟨a1,a2,gv⟩
   ·obtain⟨bj,x,w⟩:=hj;obtain⟨bj',l,g,_⟩:=ge _ _ x;have b7:pl1[tg+n]? =some c:=aaS q1 (hpl _ Zo Zo)
    obtain⟨a1,a2⟩:=u ⟨1,0,[⟨((tg+n:Nat):Int),[(zJ E M1.tick).1]⟩]⟩ rfl (by show 1<=4;decide) (fun e he=>by
     rw[Jo] at he;subst he
     exact⟨tg+n,c,bj',rfl,by omega,l,by rw[g,w];rfl,b7,(a3.ext q1).trans q3⟩) rfl (fun i e=>by
     rcases e with e|⟨_,e⟩
     ·exact .inl (.inl e)
     ·exact .inr ⟨_,Jo.2 rfl,by subst e;rfl⟩)
    exact⟨a1,a2,gv⟩
  obtain⟨b1,b2,b3⟩:=a7;generalize wM E (tg+n) k M1=M3 at *;have b4:M3.vals.take V.length=V:=uF b3;have b5:aaz p {M3 with vals:=M3.vals.take V.length } (fun i=>(O i/\i≠c)∨(tg+(k+1)<=i/\i<=tg+n)) (fun i=>P i∨(k+1=0/\i=tg+n)) pl1:=b1.goto b1.curl (fun v hv' b hb=>b1.known v (List.mem_of_mem_take hv') b hb);obtain⟨bj,x,w⟩:=hj;obtain⟨bj',l,g,_⟩:=b2 _ _ x
  obtain⟨a6,c1,c2,c3,c4⟩:=fA r a0 y a4 b9 m (k+1) {M3 with vals:=M3.vals.take V.length } pl1 Zo b5 b4 (fun v hv'=>by
   obtain⟨q,hq⟩:=hV v hv'
   exact⟨q,hq.ext b2 q1 (Og _)⟩) (fun i h1 h2=>aaS q1 (hpl i h1 h2)) ⟨bj',l,by rw[g];exact w⟩
  exact⟨a6,q1.trans c1,c2,b2.trans c3,c4⟩
theorem abK (M:MS)(n:Nat):(M.block n).f[M.f.length]? =some (wJ M.next n):=by
 show(M.f++ [_])[M.f.length]? =_
 rw[Nc (Je _),Qy];rfl
theorem abg (M:MS)(n:Nat):xn M.f (M.block n).f:=abj _ _
theorem gL{v:Int}(h:v∈mE t):v=t.a∨v∈(t.to.map (·.args)).flatten:=by
 unfold mE at h;rcases Jl.1 h with h|h
 ·split at h
  ·exact .inl (Jo.1 h)
  ·cases h
 ·exact .inr h
theorem gI {p:IProg}{E:ME}{g:MS->MS}(a3:so p g){n:Nat}(hn:2<=n/\n<=4):so p (xi E g n):=fun M O P pl h hO hnP hPO=>by
 obtain⟨a1,a2⟩:=h.any E hO;have ag:=yU E M;have ax:=aaW E M;have ac:(zJ E M).2.cur=M.cur:=ag.cur;have al:(zJ E M).2.f.length=M.f.length:=ag.len;have av:=ag.pre;unfold xi;simp only;generalize c4:zJ E M=c at *;obtain⟨x,M0⟩:=c;simp only at a1 a2 ac al av ax ⊢;obtain⟨b1,b2,b3,b4,b5⟩:=gV n M0 O P pl a1;have bl:=tB n M0;have b7:M0.cur<M0.f.length:=a1.curl;have c1:aaz p ((xE n M0).block 1) _ _ _:=b1.block (n:=1) (u:=M0.cur) (by rw[bl];omega) Zd;have a6:(pl++List.replicate n M0.cur)++ [M0.cur]=pl++List.replicate (n+1) M0.cur:=by rw[List.replicate_succ',Nv]
 rw[a6] at c1;have c3:pl.length=M0.f.length:=a1.len
 have j:∀i,M0.f.length<=i->i<=M0.f.length+n->(pl++List.replicate (n+1) M0.cur)[i]? =some M0.cur:=fun i h1 h2=>by
  rw[Nc Zo,Nm,if_pos Zo]
 have a4:((xE n M0).block 1).f[M0.f.length+n]? =some (wJ (xE n M0).next 1):=by rw[<-bl];exact abK _ 1
 have cx:xn M0.f ((xE n M0).block 1).f:=b4.trans (abg _ 1);have cc:((xE n M0).block 1).cur=M0.cur:=b2;have cv:((xE n M0).block 1).vals=M0.vals:=b3
 have b6:∀k,k<n->∃b,((xE n M0).block 1).f[M0.f.length+k]? =some b/\b.params.length=0:=fun k hk=>by
  obtain⟨b,hb,w⟩:=b5 k hk;obtain⟨b',c2,b9,_⟩:=abg (xE n M0) 1 _ _ hb;exact⟨b',c2,by rw[b9];exact w⟩
 have a0:(fun i=>(O i∨(M0.f.length<=i/\i<M0.f.length+n))∨i=(xE n M0).f.length) ((xE n M0).block 1).cur:=.inl (.inl (by rw[cc,ac];exact hO));have a5:¬P M0.cur:=by rw[ac];exact hnP
 generalize (xE n M0).block 1=M2 at *
 have e1:=c1.endB (t:=⟨if 2<n then 3 else 2,x,xk M0.f.length n⟩) a0 (by
  have hl:(xk M0.f.length n).length=n:=by unfold xk;simp
  unfold gR;simp only[hl]
  by_cases h2:2<n
  ·rw[if_pos h2];simp;omega
  ·rw[if_neg h2];simp;omega) (by unfold xk;simp;omega) (fun e he=>by
  obtain⟨k,hk,rfl⟩:=gH he;obtain⟨b,hb,w⟩:=b6 k hk
  exact⟨M0.f.length+k,M0.cur,b,rfl,by omega,hb,by rw[w];rfl,j _ Zo Zo,by rw[cc];exact .refl _⟩) (fun v hv=>by
  have:v∈M2.vals:=by
   rcases gL hv with rfl|hv
   ·rw[cv];exact a2
   ·simp only[gm] at hv;cases hv
  exact c1.at this) (P':=fun i=>P i∨(0=0/\i=M0.f.length+n)) (by
  rw[cc];rintro((e|e)|e)
  ·exact a5 e
  ·omega
  ·rw[bl] at e;omega) (fun i e=>by
  rcases e with(e|e)|e
  ·exact .inl (.inl e)
  ·refine .inr ⟨⟨((M0.f.length+(i-M0.f.length):Nat):Int),[]⟩,?_,by show((M0.f.length+(i-M0.f.length):Nat):Int)=_;omega⟩;unfold xk;exact Nu.2 ⟨i-M0.f.length,Ol.2 Zo,rfl⟩
  ·exact .inl (.inr ⟨rfl,by rw[e,bl]⟩))
 have ex:=cx.trans (xd c1 a0 ⟨if 2<n then 3 else 2,x,xk M0.f.length n⟩);have ev:(M2.endB ⟨if 2<n then 3 else 2,x,xk M0.f.length n⟩).vals=M0.vals:=cv;have ec:(M2.endB ⟨if 2<n then 3 else 2,x,xk M0.f.length n⟩).cur=M0.cur:=cc;obtain⟨bj',r,o,_⟩:=(xd c1 a0 ⟨if 2<n then 3 else 2,x,xk M0.f.length n⟩) _ _ a4;rw[ev];generalize M2.endB ⟨if 2<n then 3 else 2,x,xk M0.f.length n⟩=M3 at *
 have e2:aaz p M3 (fun i=>(O i/\i≠M0.cur)∨(M0.f.length+0<=i/\i<=M0.f.length+n)) (fun i=>P i∨(0=0/\i=M0.f.length+n)) (pl++List.replicate (n+1) M0.cur):=e1.weak (fun i=>by
  rw[cc,bl];constructor
  ·rintro⟨(e|e)|e,e2⟩
   ·exact .inl ⟨e,e2⟩
   ·exact .inr Zo
   ·exact .inr Zo
  ·rintro(e|e)
   ·exact⟨.inl (.inl e.1),e.2⟩
   ·by_cases e3:i=M0.f.length+n
    ·exact⟨.inr e3,by omega⟩
    ·exact⟨.inl (.inr Zo),by omega⟩) (fun i e=>e)
 have d:∀v∈M0.vals,∃q,Kn M3.f (pl++List.replicate (n+1) M0.cur) v M0.cur q:=fun v hv=>by
  obtain⟨b,hb⟩:=a1.get;exact⟨_,(a1.known v hv b hb).ext ex (Qb _ _) (Og _)⟩
 obtain⟨pl',d1,d2,d3,d4⟩:=fA (E:=E) (n:=n) (V:=M0.vals) a3 (fun i hi=>by rw[al];exact h.lt i hi) hPO a5 b7 n 0 M3 _ Zo e2 ev d j ⟨bj',r,by rw[o];simp[wJ]⟩;generalize uV E g M0.f.length (M0.f.length+n) M0.vals.length n 0 M3=M4 at *;obtain⟨bk,l,b0,_⟩:=d3 _ _ r;have m:bk.params=[((xE n M0).next:Int)]:=by rw[b0,o];simp[wJ]
 have a7:((M4.f.getD (M0.f.length+n) ⟨[],[],⟨0,0,[]⟩⟩).params).getD 0 0=((xE n M0).next:Int):=by
  have e:M4.f.getD (M0.f.length+n) ⟨[],[],⟨0,0,[]⟩⟩=bk:=by rw[Jj,l];rfl
  rw[e,m];rfl
 rw[a7];have b8:pl'[M0.f.length+n]? =some M0.cur:=aaS d1 (j _ Zo Zo);have y:Abv pl' M0.cur (M0.f.length+n):=.up b8 Zo (.refl _);have c0:M0.f.length+n<M4.f.length:=(Jh.1 l).1;refine⟨pl',(Qb _ _).trans d1,?_,by rw[<-ac];exact y,.inr (by show M.f.length<=M0.f.length+n;omega),fun e=>?_,?_,ax.trans (ex.trans d3)⟩
 ·have f1:MInv p M4.f (M0.f.length+n) M4.next (M4.vals++ [((xE n M0).next:Int)]) _ _ pl':=d2.goto c0 (fun v hv b hb=>by
   rcases Jl.1 hv with hv|hv
   ·rw[d4] at hv;obtain⟨q,hq⟩:=d v hv;exact d2.below (hq.ext d3 d1 (Og _)) y Zo
   ·rw[Jo] at hv;subst hv;rw[l] at hb;cases hb
    exact⟨M0.f.length+n,-1,⟨bk,l,.inl ⟨rfl,by rw[m];simp⟩⟩,.refl _,fun _=>by omega⟩)
  refine f1.weak (fun i=>?_) (fun i e=>?_)
  ·rw[<-ac];constructor
   ·rintro(e|e)
    ·exact .inl e
    ·exact .inr (show i=M0.f.length+n by omega)
   ·rintro(e|e)
    ·exact .inl e
    ·have e':i=M0.f.length+n:=e;exact .inr Zo
  ·rcases e with e|⟨e,_⟩
   ·exact e
   ·omega
 ·have e':P (M0.f.length+n):=e;have:=h.lt _ (hPO _ e');omega
 ·show M.vals<+:M4.vals++_
  rw[d4];exact av.trans (Qb _ _)
theorem gQ (a:Int)(b:Int)(l:List Int):mE ⟨1,a,[⟨b,l⟩]⟩=l:=by unfold mE ut;simp
theorem ee {p:IProg}{E:ME}{a0:MS->MS}(c3:so p a0):so p (tH E a0):=fun M O P pl h hO hnP hPO=>by
 have d2:=h.lt;obtain⟨n1,n2⟩:=MInv.num (M:=M.tick) h hO (tkV E M 5);have ng:=wT M.tick (tkV E M 5);have d1:O (M.tick.num (tkV E M 5)).cur:=by rw[ng.cur];exact hO
 obtain⟨a1,a2⟩:=n1.any E d1;have ag:=yU E (M.tick.num (tkV E M 5));have ax:xn M.f (zJ E (M.tick.num (tkV E M 5))).2.f:=(abB M.tick _).trans (aaW E _);have ac:(zJ E (M.tick.num (tkV E M 5))).2.cur=M.cur:=ag.cur.trans ng.cur;have al:(zJ E (M.tick.num (tkV E M 5))).2.f.length=M.f.length:=ag.len.trans ng.len;have av:M.vals<+:(zJ E (M.tick.num (tkV E M 5))).2.vals:=ng.pre.trans ag.pre;have an:(M.next:Int)∈(zJ E (M.tick.num (tkV E M 5))).2.vals:=ag.pre.subset n2;unfold tH;simp only;generalize zJ E (M.tick.num (tkV E M 5))=x at *;obtain⟨xv,M0⟩:=x;simp only at a1 a2 ac al av ax an ⊢;clear n1 n2 ng d1 ag;have f4:M0.cur<M0.f.length:=a1.curl;have b1:aaz p (M0.block 2) _ _ _:=a1.block (n:=2) (u:=M0.cur) a1.curl Zd;have l1:(M0.block 2).f.length=M0.f.length+1:=yz M0 2;have b2:aaz p ((M0.block 2).block 0) _ _ _:=b1.block (n:=0) (u:=M0.f.length) (by rw[l1];omega) Zd;have l2:((M0.block 2).block 0).f.length=M0.f.length+2:=by rw[yz,l1]
 have b3:aaz p (((M0.block 2).block 0).block 0) _ _ _:=b2.block (n:=0) (u:=M0.f.length) (by rw[l2];omega) Zd;have l3:(((M0.block 2).block 0).block 0).f.length=M0.f.length+3:=by rw[yz,l2]
 rw[l1,l2] at b3
 have g0:(((M0.block 2).block 0).block 0).f[M0.f.length]? =some (wJ M0.next 2):=by
  have h1:=abK M0 2;obtain⟨y,hy,_⟩:=abg (M0.block 2) 0 _ _ h1
  show(((M0.block 2).f++ [_])++ [_])[M0.f.length]? =_
  rw[Np (by simp[l1];omega),Np (by rw[l1];omega)];exact h1
 have g1:(((M0.block 2).block 0).block 0).f[M0.f.length+1]? =some (wJ (M0.block 2).next 0):=by
  have h1:=abK (M0.block 2) 0;rw[l1] at h1
  show(((M0.block 2).block 0).f++ [_])[M0.f.length+1]? =_
  rw[Np (by rw[l2];omega)];exact h1
 have g2:(((M0.block 2).block 0).block 0).f[M0.f.length+2]? =some (wJ ((M0.block 2).block 0).next 0):=by
  have h1:=abK ((M0.block 2).block 0) 0;rw[l2] at h1;exact h1
 have bx:xn M0.f (((M0.block 2).block 0).block 0).f:=((abg _ _).trans (abg _ _)).trans (abg _ _);have bc:(((M0.block 2).block 0).block 0).cur=M0.cur:=rfl;have bv:(((M0.block 2).block 0).block 0).vals=M0.vals:=rfl;have j:pl.length=M0.f.length:=a1.len;have d7:((pl++ [M0.cur])++ [M0.f.length])++ [M0.f.length]=pl++ [M0.cur,M0.f.length,M0.f.length]:=by simp
 rw[d7] at b3;have q0:(pl++ [M0.cur,M0.f.length,M0.f.length])[M0.f.length]? =some M0.cur:=by rw[<-j];exact fH (i:=0) rfl
 have q1:(pl++ [M0.cur,M0.f.length,M0.f.length])[M0.f.length+1]? =some M0.f.length:=by
  have:=fH (l:=pl) (m:=[M0.cur,M0.f.length,M0.f.length]) (i:=1) rfl;rw[j] at this;exact this
 have q2:(pl++ [M0.cur,M0.f.length,M0.f.length])[M0.f.length+2]? =some M0.f.length:=by
  have:=fH (l:=pl) (m:=[M0.cur,M0.f.length,M0.f.length]) (i:=2) rfl;rw[j] at this;exact this
 have w:(fun i=>((O i∨i=M0.f.length)∨i=M0.f.length+1)∨i=M0.f.length+2) (((M0.block 2).block 0).block 0).cur:=.inl (.inl (.inl (by rw[bc,ac];exact hO)));have d0:¬P M0.cur:=by rw[ac];exact hnP
 have a4:∀i,P i->i<M0.f.length:=fun i hi=>by rw[al];exact d2 i (hPO i hi)
 have d8:∀i,O i->i<M0.f.length:=fun i hi=>by rw[al];exact d2 i hi
 generalize ((M0.block 2).block 0).block 0=MB at *;generalize M0.f.length=hd at *;have o:pl<+:pl++ [M0.cur,hd,hd]:=Qb _ _;generalize (pl++ [M0.cur,hd,hd])=pl0 at *
 have e1:=b3.endB (t:=⟨1,0,[⟨(hd:Nat),[(M.next:Int),xv]⟩]⟩) w rfl (by show 1<=4;decide) (fun e d=>by
  rw[Jo] at d;subst d
  exact⟨hd,M0.cur,_,rfl,by omega,g0,by simp[wJ],q0,by rw[bc];exact .refl _⟩) (fun v hv=>by
  rw[gQ] at hv;refine b3.at ?_;rw[bv];rcases Jq.1 hv with rfl|hv
  ·exact an
  ·rw[Jo] at hv;subst hv;exact a2) (P':=fun i=>P i∨(i=hd+1∨i=hd+2)) (by
  rw[bc];rintro(((e|e)|e)|e)
  ·exact d0 e
  ·omega
  ·omega
  ·omega) (fun i e=>by
  rcases e with((e|e)|e)|e
  ·exact .inl (.inl e)
  ·exact .inr ⟨_,Jo.2 rfl,by subst e;rfl⟩
  ·exact .inl (.inr (.inl e))
  ·exact .inl (.inr (.inr e)))
 have d4:=bx.trans (xd b3 w ⟨1,0,[⟨(hd:Nat),[(M.next:Int),xv]⟩]⟩);obtain⟨y0,b4,b0,_⟩:=xd b3 w ⟨1,0,[⟨(hd:Nat),[(M.next:Int),xv]⟩]⟩ _ _ g0;obtain⟨y1,c5,a7,_⟩:=xd b3 w ⟨1,0,[⟨(hd:Nat),[(M.next:Int),xv]⟩]⟩ _ _ g1;obtain⟨y2,c4,a6,_⟩:=xd b3 w ⟨1,0,[⟨(hd:Nat),[(M.next:Int),xv]⟩]⟩ _ _ g2;have d5:(MB.endB ⟨1,0,[⟨(hd:Nat),[(M.next:Int),xv]⟩]⟩).vals=M0.vals:=bv;generalize MB.endB ⟨1,0,[⟨(hd:Nat),[(M.next:Int),xv]⟩]⟩=M2 at *;rw[bc] at e1;have b5:y0.params=[(M0.next:Int),((M0.next+1:Nat):Int)]:=by rw[b0];simp[wJ,List.range_succ]
 have e8:y1.params.length=0:=by rw[a7];simp[wJ]
 have e7:y2.params.length=0:=by rw[a6];simp[wJ]
 clear b0 a7 a6 g0 g1 g2;have l0:hd<M2.f.length:=(Jh.1 b4).1;have f6:hd+1<M2.f.length:=(Jh.1 c5).1;have f5:hd+2<M2.f.length:=(Jh.1 c4).1;have k:Abv pl0 M0.cur hd:=.up q0 Zo (.refl _)
 have r:∀v∈M0.vals,∃q,Kn M2.f pl0 v M0.cur q:=fun v hv=>by
  obtain⟨b,hb⟩:=a1.get;exact⟨_,(a1.known v hv b hb).ext d4 o (Og _)⟩
 have c2:aaz p M2 (fun i=>(O i/\i≠M0.cur)∨(hd<=i/\i<=hd+2)) (fun i=>P i∨(i=hd+1∨i=hd+2)) pl0:=e1.weak (fun i=>by
  constructor
  ·rintro⟨((e|e)|e)|e,e2⟩
   ·exact .inl ⟨e,e2⟩
   ·exact .inr Zo
   ·exact .inr Zo
   ·exact .inr Zo
  ·rintro(e|e)
   ·exact⟨.inl (.inl (.inl e.1)),e.2⟩
   ·refine⟨?_,by omega⟩
    by_cases e1:i=hd
    ·exact .inl (.inl (.inr e1))
    by_cases e2:i=hd+1
    ·exact .inl (.inr e2)
    ·exact .inr Zo) (fun i e=>e)
 have a5:∀ {f:List IBlk} {q:List Nat},xn M2.f f->∀v∈y0.params,Kn f q v hd 0:=fun hf v hv=>by
  obtain⟨z,hz,e0,_⟩:=hf _ _ b4;exact⟨hd,-1,⟨z,hz,.inl ⟨rfl,by rw[e0];exact hv⟩⟩,.refl _,fun _=>by decide⟩
 have c9:(M0.next:Int)∈y0.params:=by rw[b5];simp
 have c8:((M0.next+1:Nat):Int)∈y0.params:=by rw[b5];simp
 have f1:aaz p {M2 with cur:=hd,vals:=M2.vals++ [((M0.next+1:Nat):Int)]} (fun i=>(O i/\i≠M0.cur)∨(hd<=i/\i<=hd+2)) (fun i=>P i∨(i=hd+1∨i=hd+2)) pl0:=c2.goto l0 (fun v hv b hb=>by
  rcases Jl.1 hv with hv|hv
  ·rw[d5] at hv;obtain⟨q,hq⟩:=r v hv;exact c2.below hq k (show M0.cur≠hd by omega)
  ·rw[Jo] at hv;subst hv
   exact(a5 (xn.refl _) _ c8).ext (xn.refl _) Od Zo)
 have d3:(fun i=>(O i/\i≠M0.cur)∨(hd<=i/\i<=hd+2)) ({M2 with cur:=hd,vals:=M2.vals++ [((M0.next+1:Nat):Int)]}:MS).cur:=.inr ⟨Je _,by show hd<=hd+2;omega⟩
 have f2:=f1.endB (t:=⟨2,(M0.next:Nat),[⟨((hd+1:Nat):Int),[]⟩,⟨((hd+2:Nat):Int),[]⟩]⟩) d3 rfl (by show 2<=4;decide) (fun e d=>by
  rcases Jq.1 d with rfl|d
  ·exact⟨hd+1,hd,y1,rfl,by omega,c5,by rw[e8];rfl,q1,.refl _⟩
  ·rw[Jo] at d;subst d
   exact⟨hd+2,hd,y2,rfl,by omega,c4,by rw[e7];rfl,q2,.refl _⟩) (fun v hv b hb=>by
    rcases gL hv with rfl|hv
    ·exact(a5 (xn.refl _) _ c9).ext (xn.refl _) Od Zo
    ·cases hv) (P':=P) (by
    rintro(e|e)
    ·have e':P hd:=e;have:=a4 _ e';omega
    ·have e':hd=hd+1∨hd=hd+2:=e
     omega) (fun i e=>by
    rcases e with e|e|e
    ·exact .inl e
    ·exact .inr ⟨_,.head _,by subst e;rfl⟩
    ·exact .inr ⟨_,.tail _ (.head _),by subst e;rfl⟩)
 have fx:=xd f1 d3 ⟨2,(M0.next:Nat),[⟨((hd+1:Nat):Int),[]⟩,⟨((hd+2:Nat):Int),[]⟩]⟩
 have fv:(({M2 with cur:=hd,vals:=M2.vals++ [((M0.next+1:Nat):Int)]}:MS).endB ⟨2,(M0.next:Nat),[⟨((hd+1:Nat):Int),[]⟩,⟨((hd+2:Nat):Int),[]⟩]⟩).vals=M0.vals++ [((M0.next+1:Nat):Int)]:=by
  show M2.vals++_=_
  rw[d5]
 have fl:M2.f.length<=(({M2 with cur:=hd,vals:=M2.vals++ [((M0.next+1:Nat):Int)]}:MS).endB ⟨2,(M0.next:Nat),[⟨((hd+1:Nat):Int),[]⟩,⟨((hd+2:Nat):Int),[]⟩]⟩).f.length:=ja fx;generalize ({M2 with cur:=hd,vals:=M2.vals++ [((M0.next+1:Nat):Int)]}:MS).endB ⟨2,(M0.next:Nat),[⟨((hd+1:Nat):Int),[]⟩,⟨((hd+2:Nat):Int),[]⟩]⟩=M3 at *;have g:xn M2.f M3.f:=fx;have b8:Abv pl0 hd (hd+1):=.up q1 Zo (.refl _);have b7:Abv pl0 hd (hd+2):=.up q2 Zo (.refl _)
 have c7:∀v∈M3.vals,∃q,Kn M3.f pl0 v hd q:=fun v hv=>by
  rw[fv] at hv;rcases Jl.1 hv with hv|hv
  ·obtain⟨q,hq⟩:=r v hv;exact⟨0,c2.below hq k Zo|>.ext g Od (Og _)⟩
  ·rw[Jo] at hv;subst hv;exact⟨0,a5 g _ c8⟩
 have g1:aaz p {M3 with cur:=hd+1 } (fun i=>((O i/\i≠M0.cur)∨(hd<=i/\i<=hd+2))/\i≠hd) P pl0:=f2.goto (show hd+1<M3.f.length by omega) (fun v hv b hb=>by
  obtain⟨q,hq⟩:=c7 v hv
  exact f2.below hq b8 (show hd≠hd+1 by omega))
 obtain⟨pl4,hq⟩:=c3 _ _ _ pl0 g1 ⟨.inr ⟨by show hd<=hd+1;omega,by show hd+1<=hd+2;omega⟩,by show hd+1≠hd;omega⟩ (fun e=>by
  have e':P (hd+1):=e;have:=a4 _ e'
  omega) (fun i e=>⟨.inl ⟨hPO i e,fun e2=>d0 (by rw[<-e2];exact e)⟩,by have:=a4 i e;omega⟩)
 have f0:({M3 with cur:=hd+1 }:MS).cur=hd+1:=rfl;have e9:({M3 with cur:=hd+1 }:MS).f=M3.f:=rfl;have e6:({M3 with cur:=hd+1 }:MS).vals=M3.vals:=rfl;obtain⟨k1,k2,k3,k4,k5,k6,k7⟩:=hq;rw[f0] at k2 k3 k4;rw[e9] at k4 k7;rw[e6] at k6;generalize a0 {M3 with cur:=hd+1 }=M4 at *;have b6:Abv pl4 hd M4.cur:=(b8.ext k1).trans k3;have c0:(fun i=>((((O i/\i≠M0.cur)∨(hd<=i/\i<=hd+2))/\i≠hd)/\i≠hd+1)∨i=M4.cur) M4.cur:=.inr rfl;obtain⟨m1,m2⟩:=k2.num c0 1;have mg:=wT M4 1;have mx:xn M2.f (M4.num 1).f:=(g.trans k7).trans (abB M4 1)
 obtain⟨s1,s2⟩:=m1.emitK (c:=6) (by rw[mg.cur];exact c0) (F:=⟨true,true,true,true,false⟩) rfl ⟨rfl,rfl⟩ Zd Zd Zd (a:=(M0.next:Nat)) (b:=(M4.next:Nat)) (n:=0) (.inl ⟨rfl,fun x hx=>by
  have h1:=a5 (q:=pl4) mx _ c9
  by_cases e:hd=(M4.num 1).cur
  ·rw[<-e];exact h1.ext (xn.refl _) Od Zo
  ·exact m1.below h1 (by rw[mg.cur];exact b6) e⟩) (.inl ⟨rfl,m1.at m2⟩) (.inr rfl) (.inl Zd)
 have sg:=yB (M4.num 1) ⟨6,0,(M0.next:Nat),(M4.next:Nat),0,[]⟩;have sc:((M4.num 1).emit ⟨6,0,(M0.next:Nat),(M4.next:Nat),0,[]⟩).cur=M4.cur:=sg.cur.trans mg.cur;have sx:xn M4.f ((M4.num 1).emit ⟨6,0,(M0.next:Nat),(M4.next:Nat),0,[]⟩).f:=(abB M4 1).trans (aaD _ _);have sv:M4.vals<+:((M4.num 1).emit ⟨6,0,(M0.next:Nat),(M4.next:Nat),0,[]⟩).vals:=mg.pre.trans sg.pre;have sn:((M4.num 1).next:Int)=((M4.next+1:Nat):Int):=rfl;rw[sn] at s2;generalize (M4.num 1).emit ⟨6,0,(M0.next:Nat),(M4.next:Nat),0,[]⟩=M5 at *;obtain⟨t1,t2⟩:=s1.any E (by rw[sc];exact c0);have tg:=yU E M5;have tc:(zJ E M5).2.cur=M4.cur:=tg.cur.trans sc;have tx:=sx.trans (aaW E M5);have tv:=sv.trans tg.pre;have tn:((M4.next+1:Nat):Int)∈(zJ E M5).2.vals:=tg.pre.subset s2;generalize zJ E M5=y at *;obtain⟨yv,M6⟩:=y;simp only at t1 t2 tc tx tv tn ⊢;have b9:(fun i=>((((O i/\i≠M0.cur)∨(hd<=i/\i<=hd+2))/\i≠hd)/\i≠hd+1)∨i=M4.cur) M6.cur:=.inr tc;obtain⟨z0,e5,d6,_⟩:=(g.trans (k7.trans tx)) _ _ b4
 have u1:=t1.endB (t:=⟨1,0,[⟨(hd:Nat),[((M4.next+1:Nat):Int),yv]⟩]⟩) b9 rfl (by show 1<=4;decide) (fun e d=>by
  rw[Jo] at d;subst d
  exact⟨hd,M0.cur,z0,rfl,by omega,e5,by rw[d6,b5];rfl,aaS k1 q0,by rw[tc];exact(k.ext k1).trans b6⟩) (fun v hv=>by
  rw[gQ] at hv;refine t1.at ?_;rcases Jq.1 hv with rfl|hv
  ·exact tn
  ·rw[Jo] at hv;subst hv;exact t2) (P':=P) (by rw[tc];exact k5) (fun i e=> .inl e)
 have ux:=(g.trans (k7.trans tx)).trans (xd t1 b9 ⟨1,0,[⟨(hd:Nat),[((M4.next+1:Nat):Int),yv]⟩]⟩);have uv:M3.vals<+:(M6.endB ⟨1,0,[⟨(hd:Nat),[((M4.next+1:Nat):Int),yv]⟩]⟩).vals:=k6.trans tv;have d9:=(k7.trans tx).trans (xd t1 b9 ⟨1,0,[⟨(hd:Nat),[((M4.next+1:Nat):Int),yv]⟩]⟩);rw[tc] at u1;generalize M6.endB ⟨1,0,[⟨(hd:Nat),[((M4.next+1:Nat):Int),yv]⟩]⟩=M7 at *;have f7:=ja ux;have a3:M7.vals.take M3.vals.length=M3.vals:=uF uv;refine⟨pl4,o.trans k1,?_,?_,.inr (by show M.f.length<=hd+2;omega),fun e=>?_,?_,ax.trans (d4.trans ux)⟩
 ·have w1:MInv p M7.f (hd+2) M7.next (M7.vals.take M3.vals.length) _ P pl4:=u1.goto Zo (fun v hv b hb=>by
   rw[a3] at hv;obtain⟨q,hq⟩:=c7 v hv
   exact u1.below (hq.ext d9 k1 (Og _)) (b7.ext k1) Zo)
  refine w1.weak (fun i=>?_) (fun i e=>e);have f3:=ja g;rw[<-ac];constructor
  ·rintro⟨⟨⟨e|e,e2⟩,e3⟩|e,e4⟩
   ·exact .inl e
   ·exact .inr (show i=hd+2 by omega)
   ·exact absurd e e4
  ·rintro(e|e)
   ·have hi:=d8 i e.1;refine⟨.inl ⟨⟨.inl e,by omega⟩,by omega⟩,fun e2=>?_⟩;rcases k4 with k4|k4<;>omega
   ·have e':i=hd+2:=e;refine⟨.inl ⟨⟨.inr Zo,by omega⟩,by omega⟩,fun e2=>?_⟩;rcases k4 with k4|k4<;>omega
 ·rw[<-ac];exact(k.ext k1).trans (b7.ext k1)
 ·have e':P (hd+2):=e;have:=a4 _ e';omega
 ·show M.vals<+:M7.vals.take M3.vals.length
  rw[a3,fv];exact av.trans (Qb _ _)
section
variable {p:IProg} {E:ME} (hp:EnvOk p E)
include hp
theorem abq:∀d,so p (zp E d)
 |0=>fX hp
 |d+1=>fun M O P pl h hO hn hPO=>by
  obtain⟨pl1,h1⟩:=fX hp M O P pl h hO hn hPO;have hl:=ja (eO E M)
  have next:∀ {pt:MS->MS},so p pt->(∀M2:MS,M2.f=(tR E M).f->M2.cur=(tR E M).cur->M2.next=(tR E M).next->M2.vals=(tR E M).vals->∃pl',PartOut M O P pl p (pt M2) pl'):=fun {pt} hpt M2 e1 e2 e3 e4=>by
   have hi:aaz p M2 (fun i=>(O i/\i≠M.cur)∨i=(tR E M).cur) P pl1:=by
    have:=h1.inv;unfold aaz at this ⊢;rw[e1,e2,e3,e4];exact this
   obtain⟨g,h2⟩:=hpt M2 _ P pl1 hi (.inr e2) (by rw[e2];exact h1.np) (fun i e=> .inl ⟨hPO i e,fun e3=>hn (by rw[<-e3];exact e)⟩);have j:PartOut M O P pl p M2 pl1:=⟨h1.pre,by rw[e2];exact hi,by rw[e2];exact h1.abv,by rw[e2];exact h1.new,by rw[e2];exact h1.np,by rw[e4];exact h1.vals,by rw[e1];exact h1.ext⟩
   refine⟨g,j.trans ?_ (by rw[e1];exact hl) h.lt⟩;have e5:(fun i=>(O i/\i≠M.cur)∨i=(tR E M).cur)=(fun i=>(O i/\i≠M.cur)∨i=M2.cur):=by rw[e2]
   rw[<-e5];exact h2
  unfold zp;simp only
  have c:so p (fun M=>M):=fun M O P pl h hO hn hPO=>⟨pl,Od,h.weak (fun i=>⟨fun e=>by
   by_cases e2:i=M.cur
   ·exact .inr e2
   ·exact .inl ⟨e,e2⟩,fun e=>e.elim (·.1) (fun e=>by rw[e];exact hO)⟩) (fun i e=>e),.refl _,.inl rfl,hn,Od,xn.refl _⟩
  split
  ·exact next c _ rfl rfl rfl rfl
  split
  ·exact next (gI (abq d) (n:=2) ⟨by decide,by decide⟩) (tR E M).tick rfl rfl rfl rfl
  split
  ·exact next (ee (abq d)) (tR E M).tick rfl rfl rfl rfl
  split
  ·have:=aaE E (tR E M).tick (n:=3) Zo;exact next (gI (abq d) (n:=2+tkV E (tR E M).tick 3) ⟨by omega,by omega⟩) (tR E M).tick.tick rfl rfl rfl rfl
  ·exact next c (tR E M).tick rfl rfl rfl rfl
end
structure DOk (d:wO) (done:List Int) (Df:Int->Int->Int->Prop):Prop where
 dom:∀v,(d.1 v).isSome=true↔v∈done
 val:∀v i k,Df v i k->d.1 v=some i/\d.2 v=some k
theorem DOk.def{c:List Int}(h:DOk d c Df){v i:Int}(l:v ∉ c)(hr:0<=v/\v<=65535):
 ∃d',rB d v i k=some d'/\DOk d' (c++ [v]) (fun v' i' k'=>Df v' i' k'∨(v'=v/\i'=i/\k'=k)):=by
 have m:¬((d.1 v).isSome=true∨v<0∨65535<v):=by
  rintro(e|e|e)
  ·exact l ((h.dom v).1 e)
  ·omega
  ·omega
 refine⟨(lS d.1 v i,lS d.2 v k),?_,fun w=>?_,fun w i' k' g=>?_⟩
 ·unfold rB;rw[if_neg m]
 ·unfold lS;simp only[Jl,Jo]
  by_cases e:w=v
  ·rw[if_pos e];simp[e]
  ·rw[if_neg e,h.dom w];simp[e]
 ·unfold lS;rcases g with g|⟨rfl,rfl,rfl⟩
  ·have h1:=h.val w i' k' g;have j:w≠v:=fun e=>l (by rw[<-e];exact(h.dom w).1 (by rw[h1.1];rfl))
   simp only[if_neg j];exact h1
  ·simp
theorem DOk.weak{c:List Int}{Dg:Int->Int->Int->Prop}(h:DOk d c Df)(hg:∀v i k,Dg v i k->Df v i k):DOk d c Dg:=⟨h.dom,fun v i k e=>h.val v i k (hg v i k e)⟩
theorem DOk.pars {i:Int}:∀(vs:List Int) (d:wO) (done:List Int) (Df:Int->Int->Int->Prop),DOk d done Df->(done++vs).Nodup->(∀v∈vs,0<=v/\v<=65535)->
 ∃d',vJ i vs d=some d'/\DOk d' (done++vs) (fun v' i' k'=>Df v' i' k'∨(v'∈vs/\i'=i/\k'=-1))
 | [],d,done,Df,h,_,_=>⟨d,rfl,by rw[Ua];exact h.weak (fun v i k e=>e.elim (fun e=>e) (fun e=>by cases e.1))⟩
 |v::vs,d,done,Df,h,hn,hr=>by
  have hv:v ∉ done:=fun e=>(Qq.1 hn).2.2 v e v (.head _) rfl
  obtain⟨d1,h1,h2⟩:=h.def (i:=i) (k:=-1) hv (hr v (.head _));have c:((done++ [v])++vs).Nodup:=by rw[Nv];exact hn
  obtain⟨d2,h3,g⟩:=DOk.pars vs d1 _ _ h2 c (fun w hw=>hr w (.tail _ hw));refine⟨d2,by unfold vJ;rw[h1];exact h3,?_⟩;rw[Nv] at g;refine g.weak (fun w i' k' e=>?_);rcases e with e|⟨e1,e2,e3⟩
  ·exact .inl (.inl e)
  ·rcases Jq.1 e1 with rfl|e1
   ·exact .inl (.inr ⟨rfl,e2,e3⟩)
   ·exact .inr ⟨e1,e2,e3⟩
theorem gY{os:List IOp}(h:0<=o.res):abo (o::os)=o.res::abo os:=by unfold abo;rw[List.filter_cons_of_pos (by simpa using h)];rfl
theorem abm{os:List IOp}(h:¬0<=o.res):abo (o::os)=abo os:=by unfold abo;rw[List.filter_cons_of_neg (by simpa using h)]
theorem DOk.ops {p:IProg}{i:Int}:∀(os:List IOp) (k:Int) (d:wO) (done:List Int) (Df:Int->Int->Int->Prop),DOk d done Df->(done++abo os).Nodup->(∀v∈abo os,0<=v/\v<=65535)->(∀o∈os,opF p o=true)->
 ∃d',sS p i os k d=some d'/\DOk d' (done++abo os) (fun v' i' k'=>Df v' i' k'∨(i'=i/\∃(j:Nat) (o:IOp),os[j]? =some o/\o.res=v'/\0<=v'/\k'=k+(j:Int)))
 | [],k,d,done,Df,h,_,_,_=>⟨d,rfl,by
  rw[show abo []=[] from rfl,Ua]
  exact h.weak (fun v i k e=>e.elim (fun e=>e) (fun e=>by obtain⟨_,j,o,h1,_⟩:=e;simp at h1))⟩
 |o::os,k,d,done,Df,h,hn,hr,ho=>by
  by_cases h0:0<=o.res
  ·rw[gY h0] at hn hr ⊢;have hv:o.res ∉ done:=fun e=>(Qq.1 hn).2.2 _ e _ (.head _) rfl
   obtain⟨d1,h1,h2⟩:=h.def (i:=i) (k:=k) hv (hr _ (.head _));have g:((done++ [o.res])++abo os).Nodup:=by rw[Nv];exact hn
   obtain⟨d2,h3,c⟩:=DOk.ops os (k+1) d1 _ _ h2 g (fun w hw=>hr w (.tail _ hw)) (fun x hx=>ho x (.tail _ hx));refine⟨d2,by unfold sS;rw[if_pos (ho o (.head _)),if_pos h0,h1];exact h3,?_⟩;rw[Nv] at c;refine c.weak (fun w i' k' e=>?_);rcases e with e|⟨e1,j,x,e2,e3,e4,e5⟩
   ·exact .inl (.inl e)
   ·cases j with
    |zero=>
     cases e2
     exact .inl (.inr ⟨e3.symm,e1,by omega⟩)
    |succ j=>exact .inr ⟨e1,j,x,e2,e3,e4,by omega⟩
  ·rw[abm h0] at hn hr ⊢;obtain⟨d2,h3,c⟩:=DOk.ops os (k+1) d done Df h hn hr (fun x hx=>ho x (.tail _ hx));refine⟨d2,by unfold sS;rw[if_pos (ho o (.head _)),if_neg h0];exact h3,c.weak (fun w i' k' e=>?_)⟩;rcases e with e|⟨e1,j,x,e2,e3,e4,e5⟩
   ·exact .inl e
   ·cases j with
    |zero=>cases e2;omega
    |succ j=>exact .inr ⟨e1,j,x,e2,e3,e4,by omega⟩
theorem DOk.blks {p:IProg}{blocks:List IBlk}:∀(bs:List IBlk) (i:Nat) (d:wO) (done:List Int) (Df:Int->Int->Int->Prop),DOk d done Df->(done++aaI bs).Nodup->(∀v∈aaI bs,0<=v/\v<=65535)->(∀b∈bs,(∀o∈b.ops,opF p o=true)/\wn blocks b.term=true)->
 ∃d',uH p blocks bs i d=some d'/\DOk d' (done++aaI bs) (fun v' i' k'=>Df v' i' k'∨∃q:Nat,i'=((i+q:Nat):Int)/\fB bs v' q k')
 | [],i,d,done,Df,h,_,_,_=>⟨d,rfl,by
  rw[show aaI []=[] from rfl,Ua]
  exact h.weak (fun v i k e=>e.elim (fun e=>e) (fun e=>by obtain⟨q,_,b,hb,_⟩:=e;simp at hb))⟩
 |b::bs,i,d,done,Df,h,hn,hr,ho=>by
  have hd:aaI (b::bs)=b.params++(abo b.ops++aaI bs):=by
   show abu b++aaI bs=_
   unfold abu;rw[Nv]
  rw[hd] at hn hr ⊢;have n1:(done++b.params).Nodup:=by rw[<-Nv] at hn;exact(Qq.1 hn).1
  obtain⟨d1,a1,a2⟩:=DOk.pars (i:=i) b.params d done Df h n1 (fun v hv=>hr v (Jz _ hv));have n2:((done++b.params)++abo b.ops).Nodup:=by rw[<-Nv,<-Nv] at hn;exact(Qq.1 hn).1
  obtain⟨d2,b1,b2⟩:=DOk.ops (p:=p) (i:=i) b.ops 0 d1 _ _ a2 n2 (fun v hv=>hr v (Qf _ (Jz _ hv))) (ho b (.head _)).1;have n3:(((done++b.params)++abo b.ops)++aaI bs).Nodup:=by rw[Nv,Nv];exact hn
  obtain⟨d3,c1,c2⟩:=DOk.blks bs (i+1) d2 _ _ b2 n3 (fun v hv=>hr v (Qf _ (Qf _ hv))) (fun x hx=>ho x (.tail _ hx));refine⟨d3,?_,?_⟩
  ·unfold uH pS;rw[a1,Nw,b1,Nw,if_pos (ho b (.head _)).2,Nw];exact c1
  ·rw[Nv,Nv] at c2;refine c2.weak (fun w i' k' e=>?_);rcases e with e|⟨q,e1,x,e2,e3⟩
   ·exact .inl (.inl (.inl e))
   ·cases q with
    |zero=>
     cases e2;rcases e3 with⟨e3,e4⟩|⟨j,o,e3,e4,e5,e6⟩
     ·exact .inl (.inl (.inr ⟨e4,by rw[e1];rfl,e3⟩))
     ·exact .inl (.inr ⟨by rw[e1];rfl,j,o,e4,e5,e6,by omega⟩)
    |succ q=>exact .inr ⟨q,by rw[e1];omega,x,e2,e3⟩
abbrev ack (p:IProg)(f:List IBlk)(next:Nat)(pl:List Nat):Prop:=∃cur vals,MInv p f cur next vals (fun _=>False) (fun _=>False) pl
section
variable {p:IProg} {f:List IBlk} {next:Nat} {pl:List Nat} (h:ack p f next pl)
include h
theorem ack.term:∀b∈f,wn f b.term=true:=by
 obtain⟨cur,vals,h⟩:=h;intro b hb;obtain⟨i,hi⟩:=Ny hb;obtain⟨h1,h2,_⟩:=h.term i b hi (fun e=>e);unfold wn;rw[Jm,Oe];refine⟨fun e he=>?_,h1⟩;obtain⟨s,u,bs,e1,e2,e3,e4,_⟩:=h2 e he;have hs:=(Jh.1 e3).1
 have hb:xz f e.block=bs:=by
  unfold xz;rw[e1,Ni,Jj,e3];rfl
 unfold uM;simp only[Jm,decide_eq_true_eq];exact⟨⟨by omega,by omega⟩,by rw[hb];exact e4⟩
theorem ack.ne:f≠ []:=by
 obtain⟨cur,vals,h⟩:=h;intro e;have:=h.curl;rw[e] at this;simp at this
theorem ack.valid:zw (zy f):=nO h.ne h.term
theorem ack.ops:∀b∈f,∀o∈b.ops,opF p o=true:=by
 obtain⟨cur,vals,h⟩:=h;intro b hb o ho;obtain⟨i,hi⟩:=Ny hb;obtain⟨j,c⟩:=Ny ho;exact(h.ops i b hi j o c).1
end
theorem gK{f:List IBlk}{b:IBlk}(hb:f[u]? =some b):succ (zy f) u=b.term.to.map fun e=>e.block.toNat:=by
 unfold succ zy;rw[Jj,Jr,hb];rfl
section
variable {p:IProg} {f:List IBlk} {next:Nat} {pl:List Nat} (h:ack p f next pl)
include h
theorem ack.reach(hi:i<f.length):Reach (GE (zy f)) i:=by
 obtain⟨cur,vals,h⟩:=h;have hr:=h.rch i hi (fun e=>e);clear hi
 induction hr with
 |zero=>exact .refl trivial
 |step _ h2 h3 h4 ih=>
  refine .snoc ih ?_ trivial
  show _∈succ _ _
  rw[gK h2];exact Nu.2 ⟨_,h3,by rw[h4];rfl⟩
theorem ack.dom{b:Nat}(o:Abv pl b i):Dom (GE (zy f)) b i:=by
 obtain⟨cur,vals,h⟩:=h;intro r
 induction r with
 |refl hne=>
  cases o with
  |refl=>exact hne rfl
  |up _ h0 _=>omega
 |@snoc u s _ he hne ih=>
  cases o with
  |refl=>exact hne rfl
  |up h0 h1 h2=>
   have c:s∈succ (zy f) u:=he
   have j:u<f.length:=by
    rcases Nat.lt_or_ge u f.length with k|l
    ·exact k
    ·unfold succ at c;rw[Jj,Of (by rw[xu];exact l)] at c;cases c
   obtain⟨x,g⟩:∃x,f[u]? =some x:=⟨_,Jd j⟩
   rw[gK g] at c;obtain⟨e,m,d⟩:=Nu.1 c;obtain⟨_,t2,_⟩:=h.term u x g (fun e=>e);obtain⟨s',u',bs,e1,_,_,_,e5,e6⟩:=t2 e m;rw[e1,Ni] at d;subst d;rw[h0] at e5;cases e5;exact ih (h2.trans e6)
theorem ack.doms{b:Nat}(c:Abv pl b i)(hi:i<f.length):wE (zy f) b i=true:=by
 have hp:∀i u,pl[i]? =some u->0<i->u<i:=by obtain⟨cur,vals,h⟩:=h;exact h.par
 have hb:b<f.length:=by have:=c.le hp;omega
 exact(yO h.valid b i).2 ⟨h.reach hb,h.reach hi,h.dom c⟩
theorem ack.shapes (j:next<=65536):∃d,wg p f=some d/\∀v i k,fB f v i k->d.1 v=some (i:Int)/\d.2 v=some k:=by
 have c:=h.term;have ho:=h.ops;obtain⟨cur,vals,h⟩:=h;have g:DOk ((fun _=>none,fun _=>none):wO) [] (fun _ _ _=>False):=⟨fun v=>by simp,fun v i k e=>e.elim⟩
 obtain⟨d,h1,h2⟩:=DOk.blks (p:=p) (blocks:=f) f 0 _ _ _ g (by rw[Op];exact h.nd) (fun v hv=>by have:=h.rng v hv;omega) (fun b hb=>⟨ho b hb,c b hb⟩);refine⟨d,h1,fun v i k hd=>h2.val v i k (.inr ⟨i,by rw[Ng],hd⟩)⟩
theorem ack.known(c:∀v i k,fB f v i k->d.1 v=some (i:Int)/\d.2 v=some k){v:Int}(hi:i<f.length)(hk:Kn f pl v i k):yy d (zy f) i k v=true:=by
 obtain⟨b,a,h1,h2,h3⟩:=hk;obtain⟨e1,e2⟩:=c v b a h1;unfold yy;rw[e1,e2];simp only[Jm,Bool.not_eq_true',Ni];refine⟨?_,h.doms h2 hi⟩;rw[Bool.and_eq_false_iff]
 by_cases e:b=i
 ·right;have:=h3 e;simp;omega
 ·left;simp;omega
end
theorem gM{i:Int}:∀(os:List IOp) (k:Nat),(∀(j:Nat) (o:IOp),os[j]? =some o->(rR o).all (yy d g i ((k+j:Nat):Int))=true)->xF d g i os k=true
 | [],k,h=>rfl
 |o::os,k,h=>by
  unfold xF;rw[Jm];refine⟨h 0 o rfl,?_⟩
  have:=gM os (k+1) (fun j x hx=>by
   have:=h (j+1) x hx;rw[show k+1+j=k+(j+1) by omega]
   exact this)
  rw[show((k+1:Nat):Int)=(k:Int)+1 by omega] at this;exact this
theorem fR:∀(bs:List IBlk) (i:Nat),(∀(q:Nat) (b:IBlk),bs[q]? =some b->aaC d g b ((i+q:Nat):Int)=true)->tO d g bs i=true
 | [],i,h=>rfl
 |b::bs,i,h=>by
  unfold tO;rw[Jm];refine⟨h 0 b rfl,?_⟩
  have:=fR bs (i+1) (fun q x hx=>by
   have:=h (q+1) x hx;rw[show i+1+q=i+(q+1) by omega]
   exact this)
  rw[show((i+1:Nat):Int)=(i:Int)+1 by omega] at this;exact this
theorem acd(hv:zw g)(hr:∀i,i<g.length->Reach (GE g) i):(vD g).length=g.length:=by
 obtain⟨ns,c⟩:=adR hv;rw[c.eq]
 have:=fg c.nodup (List.nodup_range (n:=g.length)) (fun x=>by
  rw[Ol]
  exact⟨fun hx=>c.lt x hx,fun hx=>(c.mem x).2 (hr x hx)⟩)
 rw[this,Un]
theorem ack.rest{p:IProg}{f:List IBlk}{next:Nat}{pl:List Nat}(h:ack p f next pl)(c:∀v i k,fB f v i k->d.1 v=some (i:Int)/\d.2 v=some k):iM f d=true:=by
 unfold iM;rw[Jm,decide_eq_true_eq];refine⟨?_,?_⟩
 ·rw[acd h.valid (fun i hi=>h.reach (by rw[xu] at hi;exact hi)),xu]
 ·refine fR f 0 (fun q b hb=>?_);rw[Ng];have hq:=(Jh.1 hb).1;unfold aaC;rw[Jm];have l:=h;obtain⟨cur,vals,g⟩:=l;refine⟨gM b.ops 0 (fun j o ho=>?_),?_⟩
  ·rw[Oe];intro v hv;rw[Ng];exact h.known c hq ((g.ops q b hb j o ho).2 v hv)
  ·rw[Oe];intro v hv;exact h.known c hq ((g.term q b hb (fun e=>e)).2.2 v hv)
theorem ack.function {p:IProg}{f:List IBlk}{next:Nat}{pl:List Nat}(h:ack p f next pl)(i:next<=65536){n:Nat}(hf:p.funcs[n]? =some f){b0:IBlk}(c:f[0]? =some b0)(g:(b0.params.length:Int)=p.args.getD n 0):yi p n=true:=by
 obtain⟨d,h1,h2⟩:=h.shapes i;have h3:=h.rest h2;unfold yi;rw[Jj,hf,Ot]
 match f,h1,h3,c with
 | [],_,_,c=>simp at c
 |b::bs,h1,h3,c=>
  cases c;simp only[Jm,decide_eq_true_eq];refine⟨g,?_⟩;rw[h1];exact h3
theorem eE {p:IProg}{E:ME}(hp:EnvOk p E)(pos:Nat):aaz p (xD E pos) (fun i=>i=0) (fun _=>False) [0]:=by
 have g:=eP hp.alt E.me
 show MInv p [wJ (tkV E ⟨pos,[],0,0,[],6⟩ 3*10) (E.args.getD E.me 0).toNat] 0 (tkV E ⟨pos,[],0,0,[],6⟩ 3*10+(E.args.getD E.me 0).toNat) (wJ (tkV E ⟨pos,[],0,0,[],6⟩ 3*10) (E.args.getD E.me 0).toNat).params _ _ _
 generalize tkV E ⟨pos,[],0,0,[],6⟩ 3*10=nx;generalize (E.args.getD E.me 0).toNat=n at *
 have c:∀(i:Nat) (b:IBlk),[wJ nx n][i]? =some b->i=0/\b=wJ nx n:=fun i b h=>by
  cases i with
  |zero=>cases h;exact⟨rfl,rfl⟩
  |succ i=>simp at h
 have d:aaI [wJ nx n]=(List.range n).map fun k=>((nx+k:Nat):Int):=by
  unfold aaI abu wJ;simp[abo]
 refine⟨rfl,by show 0<1;decide,?_,?_,?_,?_,?_,?_,?_,?_,?_,?_⟩
 ·intro i u hi m;have:=(Jh.1 hi).1;simp at this;omega
 ·intro i b hb j o ho;obtain⟨rfl,rfl⟩:=c i b hb;simp[wJ] at ho
 ·intro i b hb l;exact absurd (c i b hb).1 l
 ·intro i b hb _;obtain⟨rfl,rfl⟩:=c i b hb;rfl
 ·intro i hi;rw[hi]
  show 0<1
  decide
 ·intro v hv b hb;obtain⟨_,rfl⟩:=c 0 b hb;exact⟨0,-1,⟨_,rfl,.inl ⟨rfl,hv⟩⟩,.refl _,fun _=>by show(-1:Int)<0;decide⟩
 ·rw[d];refine List.pairwise_map.2 (List.nodup_range.imp fun hab e=>hab ?_);omega
 ·intro v hv;rw[d] at hv;obtain⟨k,hk,rfl⟩:=Nu.1 hv;have:=Ol.1 hk;omega
 ·intro i hi _;have:i=0:=by simp at hi;exact hi
  subst this;exact .zero
 ·intro i b hb;obtain⟨rfl,rfl⟩:=c i b hb;exact⟨by rw[sd];exact g,by show 0<=4;decide⟩
theorem gJ {p:IProg}{E:ME}(hp:EnvOk p E)(pos:Nat):∃pl,ack p (xR E pos).f (xR E pos).next pl/\∃b0,(xR E pos).f[0]? =some b0/\b0.params.length=(E.args.getD E.me 0).toNat:=by
 have l:=eE hp pos;obtain⟨d,h1⟩:=abq hp 2 (xD E pos) _ _ [0] l rfl (fun e=>e) (fun i e=>e.elim);obtain⟨pl2,h2⟩:=abq hp 1 (zp E 2 (xD E pos)) _ _ d h1.inv (.inr rfl) h1.np (fun i e=>e.elim);have h3:=h1.trans h2 (ja h1.ext) l.lt;have hb:(xD E pos).f[0]? =some (wJ (tkV E ⟨pos,[],0,0,[],6⟩ 3*10) (E.args.getD E.me 0).toNat):=rfl;have c:=h3.ext;have hi:aaz p (zp E 1 (zp E 2 (xD E pos))) (fun i=>i=(zp E 1 (zp E 2 (xD E pos))).cur) (fun _=>False) pl2:=h3.inv.weak (fun i=>⟨fun e=>e.elim (fun e=>absurd e.1 e.2) (fun e=>e),.inr⟩) (fun i e=>e);unfold xR;simp only;generalize zp E 1 (zp E 2 (xD E pos))=M1 at *
 have fin:∀(M:MS) (t:ITerm),aaz p M (fun i=>i=M1.cur) (fun _=>False) pl2->M.cur=M1.cur->xn (xD E pos).f M.f->gR t=true->t.to=[]->(∀v∈mE t,v∈M.vals)->
  ∃pl,ack p (M.endB t).f (M.endB t).next pl/\∃b0,(M.endB t).f[0]? =some b0/\b0.params.length=(E.args.getD E.me 0).toNat:=fun M t hM hc hxx hk ht hv=>by
  have k:(fun i=>i=M1.cur) M.cur:=hc;have o:=hM.endB (t:=t) k hk (by rw[ht];show 0<=4;decide) (fun e he=>by rw[ht] at he;cases he) (fun v h=>hM.at (hv v h)) (P':=fun _=>False) (fun e=>e) (fun i e=> .inl e);have m:=hxx.trans (xd hM k t);obtain⟨b',j,g,_⟩:=m _ _ hb;refine⟨pl2,⟨_,_,o.weak (fun i=>⟨fun e=>e.2 (by rw[hc];exact e.1),fun e=>e.elim⟩) (fun i e=>e)⟩,b',j,by rw[g,sd]⟩
 split
 ·exact fin M1.tick ⟨5,0,[]⟩ hi rfl c rfl rfl (fun v hv=>by cases hv)
 split
 ·exact fin M1.tick ⟨4,-1,[]⟩ hi rfl c rfl rfl (fun v hv=>by cases hv)
 ·obtain⟨a1,a2⟩:=MInv.any (M:=M1.tick) E hi rfl
  exact fin (zJ E M1.tick).2 ⟨4,(zJ E M1.tick).1,[]⟩ a1 (yU E M1.tick).cur (c.trans (aaW E M1.tick)) rfl rfl (fun v hv=>by
   rcases gL hv with rfl|hv
   ·exact a2
   ·cases hv)
theorem gi (s:List Int)(k:Nat):EnvOk (uR s) (xC s k):=⟨qA s,rfl,rfl,xy s _⟩
theorem gP (s:List Int)(k:Nat):0<=(yS s (mdN s)).getD k 0/\(yS s (mdN s)).getD k 0<4:=by
 rw[Jj]
 cases c:(yS s (mdN s))[k]? with
 |none=>simp
 |some x=>exact xy s _ x (Ji c)
theorem no (s:List Int):∀n,0<n->(yS s n).getD 0 0=0
 |1,_=>rfl
 |n+2,_=>by
  have h:=no s (n+1) Zo;rw[Jj] at h ⊢
  show((yS s (n+1)++ [_])[0]?).getD 0=0
  rw[Np (by rw[yY];omega)];exact h
theorem eH (s:List Int):sR (uR s)=0:=by
 have m:=sm s;have hl:=qA s;have l:=no s (mdN s) Zo
 have k:wB (uR s)=true:=by
  have hb:sG.size=4096:=by
   unfold sG ByteArray.size;simp only[List.size_toArray,Nr,Un]
  unfold wB;rw[Jm];refine⟨?_,by show ig 1 am=true;decide⟩
  show [sG].all _=true
  simp[hb]
 have g:∀f:Nat,f<mdN s->(yS s (mdN s)).getD f 0=0->yw (uR s) (f:Int)=true:=fun f hf h=>by
  unfold yw;rw[Jm,Jm,decide_eq_true_eq,decide_eq_true_eq,beq_iff_eq,hl,Ni];exact⟨by omega,by omega,h⟩
 unfold sR;rw[if_neg (by rw[hl];show ¬(2000<mdN s∨512<3∨64<1);omega),if_neg (by rw[hl];show ¬((yS s (mdN s)).length≠mdN s);rw[yY];simp),if_neg,if_neg,if_neg (by rw[k];decide)]
 ·rintro(e|⟨e1,e2⟩)
  ·have:=g 0 Zo l;have e':yw (uR s) ((0:Nat):Int)=false:=e;rw[this] at e';cases e'
  ·have d:vw s≠-1:=e1;have c:yw (uR s) (vw s)=false:=e2;unfold vw at d c
   split at c
   ·rename_i i
    have j:=i.1;unfold oJ at j;simp only[Jm,decide_eq_true_eq] at j;rw[g _ Zo j.2] at c;cases c
   ·rename_i i
    rw[if_neg i] at d;exact d rfl
 ·have:∀x∈yS s (mdN s),tX x=true:=fun x hx=>by
   have:=xy s _ x hx;unfold tX;rw[Jm,decide_eq_true_eq,decide_eq_true_eq];omega
  intro e;have e':(yS s (mdN s)).all tX=false:=e;rw[Oe.2 this] at e';cases e'
theorem fm (s:List Int):vC (uR s)=0:=by
 unfold vC;rw[if_neg (by rw[eH];simp),if_pos];rw[Oe];intro k hk;rw[Ol,qA] at hk;rcases kz s hk with⟨h,_⟩|h
 ·unfold yi;rw[Jj,h];rfl
 ·obtain⟨pl,h1,b0,h2,h3⟩:=gJ (gi s k) (zg s k).2;have c:=lz s k hk;refine h1.function (by unfold MS.sz at c;omega) h h2 ?_;rw[h3]
  show(((yS s (mdN s)).getD k 0).toNat:Int)=(yS s (mdN s)).getD k 0
  exact Oa (gP s k).1
open Go.RowKit
theorem opF_args{p:IProg}(c:∀i,p.args.getD i 0<=8)(h:opF p o=true):o.args.length<=8:=by
 unfold opF at h;rw[Jm] at h;have h2:=h.2
 split at h2
 ·simp only[Jm,decide_eq_true_eq] at h2;have:=c o.a.toNat;omega
 ·split at h2
  ·simp only[Jm,decide_eq_true_eq] at h2;omega
  ·simp only[Jm,decide_eq_true_eq] at h2;omega
theorem acK (s:List Int):SmP 15000 (uR s):=by
 have j:=sm s;refine⟨by rw[qA];omega,fun f hf=>?_,by show(yS s (mdN s)).length<=_;rw[yY];omega,by show 3<=15000;decide,by show 1<=15000;decide⟩;obtain⟨k,hk⟩:=Ny hf;have c:=(Jh.1 hk).1;rw[qA] at c;rcases kz s c with⟨h,_⟩|h
 ·rw[hk] at h;cases h;exact⟨by simp,fun b hb=>by cases hb⟩
 ·rw[hk] at h;cases h;obtain⟨pl,h1,_⟩:=gJ (gi s k) (zg s k).2;have g:=lz s k c;have ho:=h1.ops;obtain⟨cur,vals,d⟩:=h1;generalize xR (xC s k) (zg s k).2=M at *;unfold MS.sz at g;refine⟨by omega,fun b hb=>?_⟩;obtain⟨i,hi⟩:=Ny hb;have h3:=d.sml i b hi;have l:=acZ hb;refine⟨by omega,by omega,by omega,fun o hoo=>?_,fun e he=>?_⟩
  ·have:=opF_args (fun i=>by have:=gP s i;show(yS s (mdN s)).getD i 0<=8;omega) (ho b hb o hoo);omega
  ·obtain⟨s',u,bs,_,_,e3,e4,_⟩:=(d.term i b hi (fun e=>e)).2.1 e he;have:=(d.sml s' bs e3).1;omega
end Go.Proofs.Ytojclalkfhoooaa
