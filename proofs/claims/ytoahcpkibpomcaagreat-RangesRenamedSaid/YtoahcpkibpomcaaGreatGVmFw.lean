/- Part of a proof. -/
import Derived.Test.YtoahcpkibpomcaaGreatGMkWw
set_option linter.all false
set_option maxHeartbeats 2000000
set_option maxRecDepth 100000
namespace Go.Proofs.YtoahcpkibpomcaaGreat
theorem i6.trans {f g h:List IBlk}(a:i6 f g)(b:i6 g h):i6 f h:=fun i x hx=>by
 obtain⟨y,d,p1,o1,t1⟩:=a i x hx;obtain⟨z,c,p2,o2,t2⟩:=b i y d;refine⟨z,c,p2.trans p1,o1.trans o2,?_⟩;rcases t1 with t1|t1
 ·exact .inl t1
 ·rcases t2 with t2|t2
  ·left;rw[<-t1];exact t2
  ·exact .inr (t2.trans t1)
theorem acr {f:List IBlk}{c:Nat}{g:IBlk->IBlk}(h:∀b,f[c]? =some b->(g b).params=b.params/\b.ops<+:(g b).ops/\(b.term.to=[]∨(g b).term=b.term)):i6 f (afe f c g):=by
 unfold afe
 split
 ·rename_i x d
  obtain⟨h1,h2,h3⟩:=h x d;exact g7 d h1 h2 h3
 ·exact i6.refl f
theorem aaD (M:MS)(o:IOp):i6 M.f (M.emit o).f:=acr fun b _=>⟨rfl,Qb _ _,.inr rfl⟩
theorem abB (M:MS)(n:Nat):i6 M.f (M.num n).f:=aaD M _
theorem aaW (E:ME)(M:MS):i6 M.f (zJ E M).2.f:=by
 unfold zJ
 split
 ·exact abB M.tick _
 split<;>exact i6.refl _
theorem fU (E:ME)(M:MS):i6 M.f (yJ E M).2.f:=by
 unfold yJ
 split
 ·exact aaW E M.tick
 ·exact aaD M.tick.tick.tick _
theorem fW (E:ME)(M:MS):∀n,i6 M.f (yI E n M).2.f
 |0=>i6.refl _
 |n+1=>(fW E M n).trans (aaW E _)
theorem call_ext (E:ME)(M:MS):i6 M.f (vN E M).f:=by
 unfold vN
 split
 ·exact i6.refl _
 ·simp only
  split
  ·exact i6.refl _
  ·exact(fW E M.tick _).trans (aaD _ _)
theorem eX (E:ME)(M:MS):i6 M.f (yR E M).f:=by
 have h:=(aaW E M).trans (aaW E (zJ E M).2);unfold yR;simp only
 split
 ·split
  ·exact h.trans (((abB _ _).trans (aaD _ _)).trans (aaD _ _))
  ·exact h.trans (aaD (M:=(zJ E (zJ E M).2).2.tick.tick) _)
 ·exact h.trans (aaD (M:=(zJ E (zJ E M).2).2.tick) _)
theorem op_ext (E:ME)(M:MS):i6 M.f (xK E M).f:=by
 unfold xK;simp only
 split
 ·exact abB M.tick.tick _
 split
 ·exact(aaW E M.tick.tick).trans (aaD _ _)
 split
 ·exact(fU E M.tick).trans (aaD (M:=(yJ E M.tick).2.tick) _)
 split
 ·exact((fU E M.tick).trans (aaW E _)).trans (aaD (M:=(zJ E (yJ E M.tick).2).2.tick) _)
 split
 ·exact aaD M.tick.tick _
 split
 ·exact(aaW E M.tick).trans (aaD (M:=(zJ E M.tick).2.tick) _)
 split
 ·exact(abB M.tick.tick _).trans (aaD (M:=(M.tick.tick.num (tkV E M.tick 4096)).tick) _)
 split
 ·exact call_ext E M.tick
 split
 ·split
  ·exact aaD M.tick.tick _
  ·exact i6.refl _
 ·exact eX E M.tick
theorem aiY (E:ME):∀(n:Nat) (M:MS),i6 M.f (qY E n M).f
 |0,M=>i6.refl _
 |n+1,M=>(op_ext E M).trans (aiY E n _)
theorem eO (E:ME)(M:MS):i6 M.f (tR E M).f:=aiY E _ M.tick
theorem run_vals (E:ME)(c:∀x∈E.args,0<=x/\x<4)(M:MS):M.vals<+:(tR E M).vals:=(oL E c M).pre
structure PartOut (M:MS) (O P:Nat->Prop) (pl:List Nat) (p:IProg) (M':MS) (pl':List Nat):Prop where
 pre:pl<+:pl'
 inv:aaz p M' (fun i=>(O i/\i≠M.cur)∨i=M'.cur) P pl'
 abv:Abv pl' M.cur M'.cur
 new:M'.cur=M.cur∨M.f.length<=M'.cur
 np:¬P M'.cur
 vals:M.vals<+:M'.vals
 ext:i6 M.f M'.f
def bd (p:IProg)(pt:MS->MS):Prop:=∀(M:MS) (O P:Nat->Prop) (pl:List Nat),aaz p M O P pl->O M.cur->¬P M.cur->(∀i,P i->O i)->∃pl',PartOut M O P pl p (pt M) pl'
theorem PartOut.trans {M M1 M2:MS}{O P:Nat->Prop}{pl c pl2:List Nat}{p:IProg}(h:PartOut M O P pl p M1 c)(k:PartOut M1 (fun i=>(O i/\i≠M.cur)∨i=M1.cur) P c p M2 pl2)(g:M.f.length<=M1.f.length)(d:∀i,O i->i<M.f.length):PartOut M O P pl p M2 pl2:=by
 refine⟨h.pre.trans k.pre,k.inv.weak (fun i=>?_) (fun i e=>e),(h.abv.ext k.pre).trans k.abv,?_,k.np,h.vals.trans k.vals,h.ext.trans k.ext⟩
 ·constructor
  ·rintro(⟨h1|h1,h2⟩|h1)
   ·exact .inl h1
   ·exact absurd h1 h2
   ·exact .inr h1
  ·rintro(h1|h1)
   ·refine .inl ⟨.inl h1,fun e=>?_⟩;rcases h.new with h2|h2
    ·exact h1.2 (by rw[e,h2])
    ·have:=d i h1.1;omega
   ·exact .inr h1
 ·rcases k.new with h1|h1
  ·rcases h.new with h2|h2
   ·left;rw[h1,h2]
   ·right;omega
  ·right;omega
theorem afw {f g:List IBlk}(h:i6 f g):f.length<=g.length:=by
 rcases Nat.lt_or_ge g.length f.length with c|d
 ·obtain⟨x,j⟩:∃x,f[g.length]? =some x:=⟨_,Jd c⟩
  obtain⟨b',i,_⟩:=h _ _ j;have:=(Jh.1 i).1;omega
 ·exact d
section
variable {p:IProg} {E:ME} (hp:EnvOk p E)
include hp
theorem fX:bd p (tR E):=fun M O P pl h hO hn hPO=>by
 obtain⟨h1,h2⟩:=h.run E hp hO;refine⟨pl,Od,h1.weak (fun i=>?_) (fun i e=>e),by rw[h2];exact .refl _,.inl h2,by rw[h2];exact hn,run_vals E hp.alt M,eO E M⟩;rw[h2];constructor
 ·intro hi
  by_cases e:i=M.cur
  ·exact .inr e
  ·exact .inl ⟨hi,e⟩
 ·rintro(h3|rfl)
  ·exact h3.1
  ·exact hO
end
theorem eQ {Q:Prop}{i a n:Nat}:((Q∨(a<=i/\i<a+n))∨i=a+n)↔(Q∨(a<=i/\i<a+(n+1))):=by
 constructor
 ·rintro((h|h)|h)
  ·exact .inl h
  ·exact .inr Zo
  ·exact .inr Zo
 ·rintro(h|h)
  ·exact .inl (.inl h)
  ·by_cases e:i=a+n
   ·exact .inr e
   ·exact .inl (.inr Zo)
theorem gV {p:IProg}:∀(n:Nat) (M:MS) (O P:Nat->Prop) (pl:List Nat),aaz p M O P pl->
 aaz p (xE n M) (fun i=>O i∨(M.f.length<=i/\i<M.f.length+n)) (fun i=>P i∨(M.f.length<=i/\i<M.f.length+n)) (pl++List.replicate n M.cur)/\(xE n M).cur=M.cur/\(xE n M).vals=M.vals/\i6 M.f (xE n M).f/\∀k,k<n->∃b,(xE n M).f[M.f.length+k]? =some b/\b.params.length=0
 |0,M,O,P,pl,h=>⟨by
  rw[List.replicate_zero,Ua]
  exact h.weak (fun i=>⟨.inl,fun e=>e.elim (fun e=>e) (fun e=>by omega)⟩) (fun i e=> .inl e),rfl,rfl,i6.refl _,fun k hk=>by omega⟩
 |n+1,M,O,P,pl,h=>by
  obtain⟨h1,h2,h3,h4,h5⟩:=gV n M O P pl h;have hl:=tB n M;have l:=h1.block (n:=0) (u:=M.cur) (by rw[hl];have:=h.curl;omega) Zd;rw[hl] at l;refine⟨?_,h2,h3,h4.trans (abj _ _),fun k hk=>?_⟩
  ·have e:pl++List.replicate (n+1) M.cur=(pl++List.replicate n M.cur)++ [M.cur]:=by rw[List.replicate_succ',Nv]
   rw[e];exact l.weak (fun i=>eQ) (fun i e=>eQ.1 e)
  ·by_cases d:k<n
   ·obtain⟨b,hb,g⟩:=h5 k d;obtain⟨b',j,c,_⟩:=abj (xE n M).f [wJ (xE n M).next 0] _ _ hb;exact⟨b',j,by rw[c];exact g⟩
   ·have e:k=n:=Zo;subst e;refine⟨wJ (xE k M).next 0,?_,by simp[wJ]⟩
    show((xE k M).f++ [_])[M.f.length+k]? =_
    rw[Nc Zo,hl,Qy];rfl
theorem xd {p:IProg}{M:MS}{O P:Nat->Prop}{pl:List Nat}(h:aaz p M O P pl)(c:O M.cur)(t:ITerm):i6 M.f (M.endB t).f:=acr fun b hb=>⟨rfl,Od,.inl (h.opn _ b hb c)⟩
theorem MInv.endB {p:IProg}{M:MS}{O P:Nat->Prop}{pl:List Nat}(h:aaz p M O P pl)(j:O M.cur){t:ITerm}(hk:gR t=true)(k:t.to.length<=4)(c:∀e∈t.to,gB M.f pl M.cur e)(hv:∀v∈mE t,∀b,M.f[M.cur]? =some b->Kn M.f pl v M.cur b.ops.length){P':Nat->Prop}(d:¬P M.cur)
 (g:∀i,P i->P' i∨∃e∈t.to,e.block=(i:Int)):aaz p (M.endB t) (fun i=>O i/\i≠M.cur) P' pl:=by
 obtain⟨b,hb⟩:=h.get
 show MInv p (afe M.f M.cur _) M.cur _ _ _ P' pl
 rw[xI hb];exact h.close hb j hk k c (fun v hv'=>hv v hv' b hb) d g
theorem fH {α:Type}{l m:List α}{i:Nat}{x:α}(h:m[i]? =some x):(l++m)[l.length+i]? =some x:=by
 rw[Nc Zo,Nat.add_sub_cancel_left];exact h
theorem gH {tg n:Nat}{e:IEdge}(h:e∈xk tg n):∃k,k<n/\e=⟨((tg+k:Nat):Int),[]⟩:=by
 unfold xk at h;obtain⟨k,hk,rfl⟩:=Nu.1 h;exact⟨k,Ol.1 hk,rfl⟩
theorem gm (tg n:Nat):((xk tg n).map (·.args)).flatten=[]:=by
 rw[List.flatten_eq_nil_iff];intro l hl;obtain⟨e,c,rfl⟩:=Nu.1 hl;obtain⟨k,_,rfl⟩:=gH c;rfl
theorem fA {p:IProg}{E:ME}{d:MS->MS}(u:bd p d){O P:Nat->Prop}{c tg n:Nat}{V:List Int}(a4:∀i,O i->i<tg)(a3:∀i,P i->O i)(a6:¬P c)(c5:c<tg):∀(m k:Nat) (M:MS) (pl:List Nat),k+m=n->
 aaz p M (fun i=>(O i/\i≠c)∨(tg+k<=i/\i<=tg+n)) (fun i=>P i∨(k=0/\i=tg+n)) pl->M.vals=V->(∀v∈V,∃q,Kn M.f pl v c q)->(∀i,tg<=i->i<=tg+n->pl[i]? =some c)->(∃b,M.f[tg+n]? =some b/\b.params.length=1)->
 ∃pl',pl<+:pl'/\aaz p (uV E d tg (tg+n) V.length m k M) (fun i=>(O i/\i≠c)∨(tg+n<=i/\i<=tg+n)) (fun i=>P i∨(n=0/\i=tg+n)) pl'/\i6 M.f (uV E d tg (tg+n) V.length m k M).f/\(uV E d tg (tg+n) V.length m k M).vals=V
 |0,k,M,pl,hk,h,hv,hV,hpl,hj=>by
  obtain rfl:k=n:=by omega
  exact⟨pl,Od,h,i6.refl _,hv⟩
 |m+1,k,M,pl,hk,h,hv,hV,hpl,hj=>by
  have d0:k<n:=Zo;have d1:tg+n<M.f.length:=by obtain⟨b,hb,_⟩:=hj;exact(Jh.1 hb).1
  have b8:pl[tg+k]? =some c:=hpl _ Zo Zo;have a5:Abv pl c (tg+k):=.up b8 Zo (.refl _)
  have h0:aaz p {M with cur:=tg+k } (fun i=>(O i/\i≠c)∨(tg+k<=i/\i<=tg+n)) (fun i=>P i∨(k=0/\i=tg+n)) pl:=h.goto (show tg+k<M.f.length by omega) (fun v hv' b hb=>by
   rw[hv] at hv';obtain⟨q,w⟩:=hV v hv'
   exact h.below w a5 (show c≠tg+k by omega))
  obtain⟨pl1,w⟩:=u _ _ _ pl h0 (.inr ⟨Je _,by show tg+k<=tg+n;omega⟩) (fun e=>by
   rcases e with e|⟨_,e⟩
   ·have e2:tg+k<tg:=a4 _ (a3 _ e);omega
   ·have e2:tg+k=tg+n:=e
    omega) (fun i e=>by
     rcases e with e|⟨_,e⟩
     ·exact .inl ⟨a3 i e,fun e2=>a6 (by rw[<-e2];exact e)⟩
     ·exact .inr Zo)
  have c9:({M with cur:=tg+k }:MS).cur=tg+k:=rfl;have c8:({M with cur:=tg+k }:MS).f=M.f:=rfl;obtain⟨q1,q2,q3,q4,q5,q6,q7⟩:=w;rw[c9] at q2 q3 q4;rw[c8] at q4 q7;have b7:V<+:(d {M with cur:=tg+k }).vals:=by have e:({M with cur:=tg+k }:MS).vals=V:=hv;rw[<-e];exact q6
  rw[rg];generalize hM:d {M with cur:=tg+k }=M1 at *;have r0:aaz p M1.tick _ _ pl1:=q2;obtain⟨r1,r2⟩:=r0.any E (.inr rfl);have g1:=yU E M1.tick;have gc:(zJ E M1.tick).2.cur=M1.cur:=g1.cur;have ge:=q7.trans (aaW E M1.tick);have gv:V<+:(zJ E M1.tick).2.vals:=b7.trans g1.pre;have d2:(zJ E M1.tick).2.f.length=M1.f.length:=g1.len;have d4:=afw q7
  have x:∀(t:ITerm),gR t=true->t.to.length<=4->(∀e∈t.to,gB (zJ E M1.tick).2.f pl1 M1.cur e)->mE t=[(zJ E M1.tick).1]->(∀i,(P i∨(k=0/\i=tg+n))->(P i∨(k+1=0/\i=tg+n))∨∃e∈t.to,e.block=(i:Int))->
   aaz p ((zJ E M1.tick).2.endB t) (fun i=>(O i/\i≠c)∨(tg+(k+1)<=i/\i<=tg+n)) (fun i=>P i∨(k+1=0/\i=tg+n)) pl1/\i6 M.f ((zJ E M1.tick).2.endB t).f:=fun t t1 t2 t3 t4 t5=>by
   have a8:(fun i=>(((O i/\i≠c)∨(tg+k<=i/\i<=tg+n))/\i≠tg+k)∨i=M1.cur) (zJ E M1.tick).2.cur:=.inr gc
   have:=r1.endB (P':=fun i=>P i∨(k+1=0/\i=tg+n)) a8 t1 t2 (by rw[gc];exact t3) (fun v hv'=>by
    rw[t4,Jo] at hv';subst hv'
    exact r1.at r2) (by rw[gc];exact q5) t5
   refine⟨this.weak (fun i=>?_) (fun i e=>e),ge.trans (xd r1 a8 t)⟩;rw[gc];constructor
   ·rintro⟨(⟨e1|e1,e2⟩|e1),e3⟩
    ·exact .inl e1
    ·exact .inr Zo
    ·exact absurd e1 e3
   ·rintro(e1|e1)
    ·have hi:=a4 i e1.1;refine⟨.inl ⟨.inl e1,by omega⟩,fun e=>?_⟩;rcases q4 with q4|q4<;>omega
    ·refine⟨.inl ⟨.inr Zo,by omega⟩,fun e=>?_⟩;rcases q4 with q4|q4<;>omega
  have b6:aaz p (wM E (tg+n) k M1) (fun i=>(O i/\i≠c)∨(tg+(k+1)<=i/\i<=tg+n)) (fun i=>P i∨(k+1=0/\i=tg+n)) pl1/\i6 M.f (wM E (tg+n) k M1).f/\V<+:(wM E (tg+n) k M1).vals:=by
   unfold wM
   split
   ·rename_i d3
    obtain⟨a1,a2⟩:=x ⟨4,(zJ E M1.tick).1,[]⟩ rfl (by show 0<=4;decide) (fun e he=>by cases he) (by
     have c0:(zJ E M1.tick).1≠-1:=fun e=>by
      have h1:=r1.at r2;obtain⟨b,hb⟩:=r1.get;obtain⟨i,a,⟨b2,c7,hd⟩,_⟩:=h1 b hb;rcases hd with⟨_,hd⟩|⟨j,o,_,_,_,h0⟩
      ·have:=(r1.rng _ (Qx.2 ⟨b2,Ji c7,Jz _ hd⟩)).1;omega
      ·omega
     unfold mE ut
     simp[c0]) (fun i e=>by
     rcases e with e|⟨e,_⟩
     ·exact .inl (.inl e)
     ·omega)
    exact⟨a1,a2,gv⟩
   ·obtain⟨bj,a0,y⟩:=hj;obtain⟨bj',l,g,_⟩:=ge _ _ a0;have b9:pl1[tg+n]? =some c:=aaS q1 (hpl _ Zo Zo)
    obtain⟨a1,a2⟩:=x ⟨1,0,[⟨((tg+n:Nat):Int),[(zJ E M1.tick).1]⟩]⟩ rfl (by show 1<=4;decide) (fun e he=>by
     rw[Jo] at he;subst he
     exact⟨tg+n,c,bj',rfl,by omega,l,by rw[g,y];rfl,b9,(a5.ext q1).trans q3⟩) rfl (fun i e=>by
     rcases e with e|⟨_,e⟩
     ·exact .inl (.inl e)
     ·exact .inr ⟨_,Jo.2 rfl,by subst e;rfl⟩)
    exact⟨a1,a2,gv⟩
  obtain⟨b1,b2,b3⟩:=b6;generalize wM E (tg+n) k M1=M3 at *;have b4:M3.vals.take V.length=V:=uF b3;have b5:aaz p {M3 with vals:=M3.vals.take V.length } (fun i=>(O i/\i≠c)∨(tg+(k+1)<=i/\i<=tg+n)) (fun i=>P i∨(k+1=0/\i=tg+n)) pl1:=b1.goto b1.curl (fun v hv' b hb=>b1.known v (List.mem_of_mem_take hv') b hb);obtain⟨bj,a0,y⟩:=hj;obtain⟨bj',l,g,_⟩:=b2 _ _ a0
  obtain⟨b0,c1,c2,c3,c4⟩:=fA u a4 a3 a6 c5 m (k+1) {M3 with vals:=M3.vals.take V.length } pl1 Zo b5 b4 (fun v hv'=>by
   obtain⟨q,w⟩:=hV v hv'
   exact⟨q,w.ext b2 q1 (Og _)⟩) (fun i h1 h2=>aaS q1 (hpl i h1 h2)) ⟨bj',l,by rw[g];exact y⟩
  exact⟨b0,q1.trans c1,c2,b2.trans c3,c4⟩
theorem abK (M:MS)(n:Nat):(M.block n).f[M.f.length]? =some (wJ M.next n):=by
 show(M.f++ [_])[M.f.length]? =_
 rw[Nc (Je _),Qy];rfl
theorem abg (M:MS)(n:Nat):i6 M.f (M.block n).f:=abj _ _
theorem gL {t:ITerm}{v:Int}(h:v∈mE t):v=t.a∨v∈(t.to.map (·.args)).flatten:=by
 unfold mE at h;rcases Jl.1 h with h|h
 ·split at h
  ·exact .inl (Jo.1 h)
  ·cases h
 ·exact .inr h
theorem af9 {p:IProg}{E:ME}{g:MS->MS}(a4:bd p g){n:Nat}(hn:2<=n/\n<=4):bd p (xi E g n):=fun M O P pl h hO hnP hPO=>by
 obtain⟨a1,a2⟩:=h.any E hO;have ag:=yU E M;have ax:=aaW E M;have ac:(zJ E M).2.cur=M.cur:=ag.cur;have al:(zJ E M).2.f.length=M.f.length:=ag.len;have av:=ag.pre;unfold xi;simp only;generalize c5:zJ E M=c at *;obtain⟨x,M0⟩:=c;simp only at a1 a2 ac al av ax ⊢;obtain⟨b1,b2,b3,b4,b5⟩:=gV n M0 O P pl a1;have bl:=tB n M0;have b8:M0.cur<M0.f.length:=a1.curl;have c1:aaz p ((xE n M0).block 1) _ _ _:=b1.block (n:=1) (u:=M0.cur) (by rw[bl];omega) Zd;have a8:(pl++List.replicate n M0.cur)++ [M0.cur]=pl++List.replicate (n+1) M0.cur:=by rw[List.replicate_succ',Nv]
 rw[a8] at c1;have c4:pl.length=M0.f.length:=a1.len
 have j:∀i,M0.f.length<=i->i<=M0.f.length+n->(pl++List.replicate (n+1) M0.cur)[i]? =some M0.cur:=fun i h1 h2=>by
  rw[Nc Zo,Nm,if_pos Zo]
 have a5:((xE n M0).block 1).f[M0.f.length+n]? =some (wJ (xE n M0).next 1):=by rw[<-bl];exact abK _ 1
 have cx:i6 M0.f ((xE n M0).block 1).f:=b4.trans (abg _ 1);have cc:((xE n M0).block 1).cur=M0.cur:=b2;have cv:((xE n M0).block 1).vals=M0.vals:=b3
 have b7:∀k,k<n->∃b,((xE n M0).block 1).f[M0.f.length+k]? =some b/\b.params.length=0:=fun k hk=>by
  obtain⟨b,hb,y⟩:=b5 k hk;obtain⟨b',c3,c0,_⟩:=abg (xE n M0) 1 _ _ hb;exact⟨b',c3,by rw[c0];exact y⟩
 have a3:(fun i=>(O i∨(M0.f.length<=i/\i<M0.f.length+n))∨i=(xE n M0).f.length) ((xE n M0).block 1).cur:=.inl (.inl (by rw[cc,ac];exact hO));have a6:¬P M0.cur:=by rw[ac];exact hnP
 generalize (xE n M0).block 1=M2 at *
 have e1:=c1.endB (t:=⟨if 2<n then 3 else 2,x,xk M0.f.length n⟩) a3 (by
  have hl:(xk M0.f.length n).length=n:=by unfold xk;simp
  unfold gR;simp only[hl]
  by_cases h2:2<n
  ·rw[if_pos h2];simp;omega
  ·rw[if_neg h2];simp;omega) (by unfold xk;simp;omega) (fun e he=>by
  obtain⟨k,hk,rfl⟩:=gH he;obtain⟨b,hb,y⟩:=b7 k hk
  exact⟨M0.f.length+k,M0.cur,b,rfl,by omega,hb,by rw[y];rfl,j _ Zo Zo,by rw[cc];exact .refl _⟩) (fun v hv=>by
  have:v∈M2.vals:=by
   rcases gL hv with rfl|hv
   ·rw[cv];exact a2
   ·simp only[gm] at hv;cases hv
  exact c1.at this) (P':=fun i=>P i∨(0=0/\i=M0.f.length+n)) (by
  rw[cc];rintro((e|e)|e)
  ·exact a6 e
  ·omega
  ·rw[bl] at e;omega) (fun i e=>by
  rcases e with(e|e)|e
  ·exact .inl (.inl e)
  ·refine .inr ⟨⟨((M0.f.length+(i-M0.f.length):Nat):Int),[]⟩,?_,by show((M0.f.length+(i-M0.f.length):Nat):Int)=_;omega⟩;unfold xk;exact Nu.2 ⟨i-M0.f.length,Ol.2 Zo,rfl⟩
  ·exact .inl (.inr ⟨rfl,by rw[e,bl]⟩))
 have ex:=cx.trans (xd c1 a3 ⟨if 2<n then 3 else 2,x,xk M0.f.length n⟩);have ev:(M2.endB ⟨if 2<n then 3 else 2,x,xk M0.f.length n⟩).vals=M0.vals:=cv;have ec:(M2.endB ⟨if 2<n then 3 else 2,x,xk M0.f.length n⟩).cur=M0.cur:=cc;obtain⟨bj',w,o,_⟩:=(xd c1 a3 ⟨if 2<n then 3 else 2,x,xk M0.f.length n⟩) _ _ a5;rw[ev];generalize M2.endB ⟨if 2<n then 3 else 2,x,xk M0.f.length n⟩=M3 at *
 have e2:aaz p M3 (fun i=>(O i/\i≠M0.cur)∨(M0.f.length+0<=i/\i<=M0.f.length+n)) (fun i=>P i∨(0=0/\i=M0.f.length+n)) (pl++List.replicate (n+1) M0.cur):=e1.weak (fun i=>by
  rw[cc,bl];constructor
  ·rintro⟨(e|e)|e,e2⟩
   ·exact .inl ⟨e,e2⟩
   ·exact .inr Zo
   ·exact .inr Zo
  ·rintro(e|e)
   ·exact⟨.inl (.inl e.1),e.2⟩
   ·by_cases e3:i=M0.f.length+n
    ·exact⟨.inr e3,by omega⟩
    ·exact⟨.inl (.inr Zo),by omega⟩) (fun i e=>e)
 have d:∀v∈M0.vals,∃q,Kn M3.f (pl++List.replicate (n+1) M0.cur) v M0.cur q:=fun v hv=>by
  obtain⟨b,hb⟩:=a1.get;exact⟨_,(a1.known v hv b hb).ext ex (Qb _ _) (Og _)⟩
 obtain⟨pl',d1,d2,d3,d4⟩:=fA (E:=E) (n:=n) (V:=M0.vals) a4 (fun i hi=>by rw[al];exact h.lt i hi) hPO a6 b8 n 0 M3 _ Zo e2 ev d j ⟨bj',w,by rw[o];simp[wJ]⟩;generalize uV E g M0.f.length (M0.f.length+n) M0.vals.length n 0 M3=M4 at *;obtain⟨bk,l,b6,_⟩:=d3 _ _ w;have m:bk.params=[((xE n M0).next:Int)]:=by rw[b6,o];simp[wJ]
 have b0:((M4.f.getD (M0.f.length+n) ⟨[],[],⟨0,0,[]⟩⟩).params).getD 0 0=((xE n M0).next:Int):=by
  have e:M4.f.getD (M0.f.length+n) ⟨[],[],⟨0,0,[]⟩⟩=bk:=by rw[Jj,l];rfl
  rw[e,m];rfl
 rw[b0];have b9:pl'[M0.f.length+n]? =some M0.cur:=aaS d1 (j _ Zo Zo);have a0:Abv pl' M0.cur (M0.f.length+n):=.up b9 Zo (.refl _);have c2:M0.f.length+n<M4.f.length:=(Jh.1 l).1;refine⟨pl',(Qb _ _).trans d1,?_,by rw[<-ac];exact a0,.inr (by show M.f.length<=M0.f.length+n;omega),fun e=>?_,?_,ax.trans (ex.trans d3)⟩
 ·have f1:MInv p M4.f (M0.f.length+n) M4.next (M4.vals++ [((xE n M0).next:Int)]) _ _ pl':=d2.goto c2 (fun v hv b hb=>by
   rcases Jl.1 hv with hv|hv
   ·rw[d4] at hv;obtain⟨q,hq⟩:=d v hv;exact d2.below (hq.ext d3 d1 (Og _)) a0 Zo
   ·rw[Jo] at hv;subst hv;rw[l] at hb;cases hb
    exact⟨M0.f.length+n,-1,⟨bk,l,.inl ⟨rfl,by rw[m];simp⟩⟩,.refl _,fun _=>by omega⟩)
  refine f1.weak (fun i=>?_) (fun i e=>?_)
  ·rw[<-ac];constructor
   ·rintro(e|e)
    ·exact .inl e
    ·exact .inr (show i=M0.f.length+n by omega)
   ·rintro(e|e)
    ·exact .inl e
    ·have e':i=M0.f.length+n:=e;exact .inr Zo
  ·rcases e with e|⟨e,_⟩
   ·exact e
   ·omega
 ·have e':P (M0.f.length+n):=e;have:=h.lt _ (hPO _ e');omega
 ·show M.vals<+:M4.vals++_
  rw[d4];exact av.trans (Qb _ _)
theorem gQ (a:Int)(b:Int)(l:List Int):mE ⟨1,a,[⟨b,l⟩]⟩=l:=by unfold mE ut;simp
theorem ee {p:IProg}{E:ME}{a4:MS->MS}(c4:bd p a4):bd p (tH E a4):=fun M O P pl h hO hnP hPO=>by
 have d3:=h.lt;obtain⟨n1,n2⟩:=MInv.num (M:=M.tick) h hO (tkV E M 5);have ng:=wT M.tick (tkV E M 5);have d2:O (M.tick.num (tkV E M 5)).cur:=by rw[ng.cur];exact hO
 obtain⟨a1,a2⟩:=n1.any E d2;have ag:=yU E (M.tick.num (tkV E M 5));have ax:i6 M.f (zJ E (M.tick.num (tkV E M 5))).2.f:=(abB M.tick _).trans (aaW E _);have ac:(zJ E (M.tick.num (tkV E M 5))).2.cur=M.cur:=ag.cur.trans ng.cur;have al:(zJ E (M.tick.num (tkV E M 5))).2.f.length=M.f.length:=ag.len.trans ng.len;have av:M.vals<+:(zJ E (M.tick.num (tkV E M 5))).2.vals:=ng.pre.trans ag.pre;have an:(M.next:Int)∈(zJ E (M.tick.num (tkV E M 5))).2.vals:=ag.pre.subset n2;unfold tH;simp only;generalize zJ E (M.tick.num (tkV E M 5))=x at *;obtain⟨xv,M0⟩:=x;simp only at a1 a2 ac al av ax an ⊢;clear n1 n2 ng d2 ag;have f6:M0.cur<M0.f.length:=a1.curl;have b1:aaz p (M0.block 2) _ _ _:=a1.block (n:=2) (u:=M0.cur) a1.curl Zd;have l1:(M0.block 2).f.length=M0.f.length+1:=yz M0 2;have b2:aaz p ((M0.block 2).block 0) _ _ _:=b1.block (n:=0) (u:=M0.f.length) (by rw[l1];omega) Zd;have l2:((M0.block 2).block 0).f.length=M0.f.length+2:=by rw[yz,l1]
 have b3:aaz p (((M0.block 2).block 0).block 0) _ _ _:=b2.block (n:=0) (u:=M0.f.length) (by rw[l2];omega) Zd;have l3:(((M0.block 2).block 0).block 0).f.length=M0.f.length+3:=by rw[yz,l2]
 rw[l1,l2] at b3
 have g0:(((M0.block 2).block 0).block 0).f[M0.f.length]? =some (wJ M0.next 2):=by
  have h1:=abK M0 2;obtain⟨y,hy,_⟩:=abg (M0.block 2) 0 _ _ h1
  show(((M0.block 2).f++ [_])++ [_])[M0.f.length]? =_
  rw[Np (by simp[l1];omega),Np (by rw[l1];omega)];exact h1
 have g1:(((M0.block 2).block 0).block 0).f[M0.f.length+1]? =some (wJ (M0.block 2).next 0):=by
  have h1:=abK (M0.block 2) 0;rw[l1] at h1
  show(((M0.block 2).block 0).f++ [_])[M0.f.length+1]? =_
  rw[Np (by rw[l2];omega)];exact h1
 have g2:(((M0.block 2).block 0).block 0).f[M0.f.length+2]? =some (wJ ((M0.block 2).block 0).next 0):=by
  have h1:=abK ((M0.block 2).block 0) 0;rw[l2] at h1;exact h1
 have bx:i6 M0.f (((M0.block 2).block 0).block 0).f:=((abg _ _).trans (abg _ _)).trans (abg _ _);have bc:(((M0.block 2).block 0).block 0).cur=M0.cur:=rfl;have bv:(((M0.block 2).block 0).block 0).vals=M0.vals:=rfl;have k:pl.length=M0.f.length:=a1.len;have d8:((pl++ [M0.cur])++ [M0.f.length])++ [M0.f.length]=pl++ [M0.cur,M0.f.length,M0.f.length]:=by simp
 rw[d8] at b3;have q0:(pl++ [M0.cur,M0.f.length,M0.f.length])[M0.f.length]? =some M0.cur:=by rw[<-k];exact fH (i:=0) rfl
 have q1:(pl++ [M0.cur,M0.f.length,M0.f.length])[M0.f.length+1]? =some M0.f.length:=by
  have:=fH (l:=pl) (m:=[M0.cur,M0.f.length,M0.f.length]) (i:=1) rfl;rw[k] at this;exact this
 have q2:(pl++ [M0.cur,M0.f.length,M0.f.length])[M0.f.length+2]? =some M0.f.length:=by
  have:=fH (l:=pl) (m:=[M0.cur,M0.f.length,M0.f.length]) (i:=2) rfl;rw[k] at this;exact this
 have a3:(fun i=>((O i∨i=M0.f.length)∨i=M0.f.length+1)∨i=M0.f.length+2) (((M0.block 2).block 0).block 0).cur:=.inl (.inl (.inl (by rw[bc,ac];exact hO)));have d1:¬P M0.cur:=by rw[ac];exact hnP
 have a6:∀i,P i->i<M0.f.length:=fun i hi=>by rw[al];exact d3 i (hPO i hi)
 have d9:∀i,O i->i<M0.f.length:=fun i hi=>by rw[al];exact d3 i hi
 generalize ((M0.block 2).block 0).block 0=MB at *;generalize M0.f.length=hd at *;have w:pl<+:pl++ [M0.cur,hd,hd]:=Qb _ _;generalize (pl++ [M0.cur,hd,hd])=pl0 at *
 have e1:=b3.endB (t:=⟨1,0,[⟨(hd:Nat),[(M.next:Int),xv]⟩]⟩) a3 rfl (by show 1<=4;decide) (fun e d=>by
  rw[Jo] at d;subst d
  exact⟨hd,M0.cur,_,rfl,by omega,g0,by simp[wJ],q0,by rw[bc];exact .refl _⟩) (fun v hv=>by
  rw[gQ] at hv;refine b3.at ?_;rw[bv];rcases Jq.1 hv with rfl|hv
  ·exact an
  ·rw[Jo] at hv;subst hv;exact a2) (P':=fun i=>P i∨(i=hd+1∨i=hd+2)) (by
  rw[bc];rintro(((e|e)|e)|e)
  ·exact d1 e
  ·omega
  ·omega
  ·omega) (fun i e=>by
  rcases e with((e|e)|e)|e
  ·exact .inl (.inl e)
  ·exact .inr ⟨_,Jo.2 rfl,by subst e;rfl⟩
  ·exact .inl (.inr (.inl e))
  ·exact .inl (.inr (.inr e)))
 have d5:=bx.trans (xd b3 a3 ⟨1,0,[⟨(hd:Nat),[(M.next:Int),xv]⟩]⟩);obtain⟨y0,b6,b5,_⟩:=xd b3 a3 ⟨1,0,[⟨(hd:Nat),[(M.next:Int),xv]⟩]⟩ _ _ g0;obtain⟨y1,c7,b4,_⟩:=xd b3 a3 ⟨1,0,[⟨(hd:Nat),[(M.next:Int),xv]⟩]⟩ _ _ g1;obtain⟨y2,c5,b0,_⟩:=xd b3 a3 ⟨1,0,[⟨(hd:Nat),[(M.next:Int),xv]⟩]⟩ _ _ g2;have d6:(MB.endB ⟨1,0,[⟨(hd:Nat),[(M.next:Int),xv]⟩]⟩).vals=M0.vals:=bv;generalize MB.endB ⟨1,0,[⟨(hd:Nat),[(M.next:Int),xv]⟩]⟩=M2 at *;rw[bc] at e1;have b7:y0.params=[(M0.next:Int),((M0.next+1:Nat):Int)]:=by rw[b5];simp[wJ,List.range_succ]
 have f0:y1.params.length=0:=by rw[b4];simp[wJ]
 have e9:y2.params.length=0:=by rw[b0];simp[wJ]
 clear b5 b4 b0 g0 g1 g2;have l0:hd<M2.f.length:=(Jh.1 b6).1;have f8:hd+1<M2.f.length:=(Jh.1 c7).1;have f7:hd+2<M2.f.length:=(Jh.1 c5).1;have o:Abv pl0 M0.cur hd:=.up q0 Zo (.refl _)
 have a0:∀v∈M0.vals,∃q,Kn M2.f pl0 v M0.cur q:=fun v hv=>by
  obtain⟨b,hb⟩:=a1.get;exact⟨_,(a1.known v hv b hb).ext d5 w (Og _)⟩
 have c3:aaz p M2 (fun i=>(O i/\i≠M0.cur)∨(hd<=i/\i<=hd+2)) (fun i=>P i∨(i=hd+1∨i=hd+2)) pl0:=e1.weak (fun i=>by
  constructor
  ·rintro⟨((e|e)|e)|e,e2⟩
   ·exact .inl ⟨e,e2⟩
   ·exact .inr Zo
   ·exact .inr Zo
   ·exact .inr Zo
  ·rintro(e|e)
   ·exact⟨.inl (.inl (.inl e.1)),e.2⟩
   ·refine⟨?_,by omega⟩
    by_cases e1:i=hd
    ·exact .inl (.inl (.inr e1))
    by_cases e2:i=hd+1
    ·exact .inl (.inr e2)
    ·exact .inr Zo) (fun i e=>e)
 have a8:∀ {f:List IBlk} {q:List Nat},i6 M2.f f->∀v∈y0.params,Kn f q v hd 0:=fun hf v hv=>by
  obtain⟨z,hz,e5,_⟩:=hf _ _ b6;exact⟨hd,-1,⟨z,hz,.inl ⟨rfl,by rw[e5];exact hv⟩⟩,.refl _,fun _=>by decide⟩
 have d0:(M0.next:Int)∈y0.params:=by rw[b7];simp
 have c9:((M0.next+1:Nat):Int)∈y0.params:=by rw[b7];simp
 have f1:aaz p {M2 with cur:=hd,vals:=M2.vals++ [((M0.next+1:Nat):Int)]} (fun i=>(O i/\i≠M0.cur)∨(hd<=i/\i<=hd+2)) (fun i=>P i∨(i=hd+1∨i=hd+2)) pl0:=c3.goto l0 (fun v hv b hb=>by
  rcases Jl.1 hv with hv|hv
  ·rw[d6] at hv;obtain⟨q,j⟩:=a0 v hv;exact c3.below j o (show M0.cur≠hd by omega)
  ·rw[Jo] at hv;subst hv
   exact(a8 (i6.refl _) _ c9).ext (i6.refl _) Od Zo)
 have d4:(fun i=>(O i/\i≠M0.cur)∨(hd<=i/\i<=hd+2)) ({M2 with cur:=hd,vals:=M2.vals++ [((M0.next+1:Nat):Int)]}:MS).cur:=.inr ⟨Je _,by show hd<=hd+2;omega⟩
 have f2:=f1.endB (t:=⟨2,(M0.next:Nat),[⟨((hd+1:Nat):Int),[]⟩,⟨((hd+2:Nat):Int),[]⟩]⟩) d4 rfl (by show 2<=4;decide) (fun e d=>by
  rcases Jq.1 d with rfl|d
  ·exact⟨hd+1,hd,y1,rfl,by omega,c7,by rw[f0];rfl,q1,.refl _⟩
  ·rw[Jo] at d;subst d
   exact⟨hd+2,hd,y2,rfl,by omega,c5,by rw[e9];rfl,q2,.refl _⟩) (fun v hv b hb=>by
    rcases gL hv with rfl|hv
    ·exact(a8 (i6.refl _) _ d0).ext (i6.refl _) Od Zo
    ·cases hv) (P':=P) (by
    rintro(e|e)
    ·have e':P hd:=e;have:=a6 _ e';omega
    ·have e':hd=hd+1∨hd=hd+2:=e
     omega) (fun i e=>by
    rcases e with e|e|e
    ·exact .inl e
    ·exact .inr ⟨_,.head _,by subst e;rfl⟩
    ·exact .inr ⟨_,.tail _ (.head _),by subst e;rfl⟩)
 have fx:=xd f1 d4 ⟨2,(M0.next:Nat),[⟨((hd+1:Nat):Int),[]⟩,⟨((hd+2:Nat):Int),[]⟩]⟩
 have fv:(({M2 with cur:=hd,vals:=M2.vals++ [((M0.next+1:Nat):Int)]}:MS).endB ⟨2,(M0.next:Nat),[⟨((hd+1:Nat):Int),[]⟩,⟨((hd+2:Nat):Int),[]⟩]⟩).vals=M0.vals++ [((M0.next+1:Nat):Int)]:=by
  show M2.vals++_=_
  rw[d6]
 have fl:M2.f.length<=(({M2 with cur:=hd,vals:=M2.vals++ [((M0.next+1:Nat):Int)]}:MS).endB ⟨2,(M0.next:Nat),[⟨((hd+1:Nat):Int),[]⟩,⟨((hd+2:Nat):Int),[]⟩]⟩).f.length:=afw fx;generalize ({M2 with cur:=hd,vals:=M2.vals++ [((M0.next+1:Nat):Int)]}:MS).endB ⟨2,(M0.next:Nat),[⟨((hd+1:Nat):Int),[]⟩,⟨((hd+2:Nat):Int),[]⟩]⟩=M3 at *;have g:i6 M2.f M3.f:=fx;have c0:Abv pl0 hd (hd+1):=.up q1 Zo (.refl _);have b9:Abv pl0 hd (hd+2):=.up q2 Zo (.refl _)
 have c8:∀v∈M3.vals,∃q,Kn M3.f pl0 v hd q:=fun v hv=>by
  rw[fv] at hv;rcases Jl.1 hv with hv|hv
  ·obtain⟨q,j⟩:=a0 v hv;exact⟨0,c3.below j o Zo|>.ext g Od (Og _)⟩
  ·rw[Jo] at hv;subst hv;exact⟨0,a8 g _ c9⟩
 have g1:aaz p {M3 with cur:=hd+1 } (fun i=>((O i/\i≠M0.cur)∨(hd<=i/\i<=hd+2))/\i≠hd) P pl0:=f2.goto (show hd+1<M3.f.length by omega) (fun v hv b hb=>by
  obtain⟨q,j⟩:=c8 v hv
  exact f2.below j c0 (show hd≠hd+1 by omega))
 obtain⟨pl4,j⟩:=c4 _ _ _ pl0 g1 ⟨.inr ⟨by show hd<=hd+1;omega,by show hd+1<=hd+2;omega⟩,by show hd+1≠hd;omega⟩ (fun e=>by
  have e':P (hd+1):=e;have:=a6 _ e'
  omega) (fun i e=>⟨.inl ⟨hPO i e,fun e2=>d1 (by rw[<-e2];exact e)⟩,by have:=a6 i e;omega⟩)
 have f4:({M3 with cur:=hd+1 }:MS).cur=hd+1:=rfl;have f3:({M3 with cur:=hd+1 }:MS).f=M3.f:=rfl;have e7:({M3 with cur:=hd+1 }:MS).vals=M3.vals:=rfl;obtain⟨k1,k2,k3,k4,k5,k6,k7⟩:=j;rw[f4] at k2 k3 k4;rw[f3] at k4 k7;rw[e7] at k6;generalize a4 {M3 with cur:=hd+1 }=M4 at *;have b8:Abv pl4 hd M4.cur:=(c0.ext k1).trans k3;have c2:(fun i=>((((O i/\i≠M0.cur)∨(hd<=i/\i<=hd+2))/\i≠hd)/\i≠hd+1)∨i=M4.cur) M4.cur:=.inr rfl;obtain⟨m1,m2⟩:=k2.num c2 1;have mg:=wT M4 1;have mx:i6 M2.f (M4.num 1).f:=(g.trans k7).trans (abB M4 1)
 obtain⟨s1,s2⟩:=m1.emitK (c:=6) (by rw[mg.cur];exact c2) (F:=⟨true,true,true,true,false⟩) rfl ⟨rfl,rfl⟩ Zd Zd Zd (a:=(M0.next:Nat)) (b:=(M4.next:Nat)) (n:=0) (.inl ⟨rfl,fun x hx=>by
  have h1:=a8 (q:=pl4) mx _ d0
  by_cases e:hd=(M4.num 1).cur
  ·rw[<-e];exact h1.ext (i6.refl _) Od Zo
  ·exact m1.below h1 (by rw[mg.cur];exact b8) e⟩) (.inl ⟨rfl,m1.at m2⟩) (.inr rfl) (.inl Zd)
 have sg:=yB (M4.num 1) ⟨6,0,(M0.next:Nat),(M4.next:Nat),0,[]⟩;have sc:((M4.num 1).emit ⟨6,0,(M0.next:Nat),(M4.next:Nat),0,[]⟩).cur=M4.cur:=sg.cur.trans mg.cur;have sx:i6 M4.f ((M4.num 1).emit ⟨6,0,(M0.next:Nat),(M4.next:Nat),0,[]⟩).f:=(abB M4 1).trans (aaD _ _);have sv:M4.vals<+:((M4.num 1).emit ⟨6,0,(M0.next:Nat),(M4.next:Nat),0,[]⟩).vals:=mg.pre.trans sg.pre;have sn:((M4.num 1).next:Int)=((M4.next+1:Nat):Int):=rfl;rw[sn] at s2;generalize (M4.num 1).emit ⟨6,0,(M0.next:Nat),(M4.next:Nat),0,[]⟩=M5 at *;obtain⟨t1,t2⟩:=s1.any E (by rw[sc];exact c2);have tg:=yU E M5;have tc:(zJ E M5).2.cur=M4.cur:=tg.cur.trans sc;have tx:=sx.trans (aaW E M5);have tv:=sv.trans tg.pre;have tn:((M4.next+1:Nat):Int)∈(zJ E M5).2.vals:=tg.pre.subset s2;generalize zJ E M5=y at *;obtain⟨yv,M6⟩:=y;simp only at t1 t2 tc tx tv tn ⊢;have c1:(fun i=>((((O i/\i≠M0.cur)∨(hd<=i/\i<=hd+2))/\i≠hd)/\i≠hd+1)∨i=M4.cur) M6.cur:=.inr tc;obtain⟨z0,e6,d7,_⟩:=(g.trans (k7.trans tx)) _ _ b6
 have u1:=t1.endB (t:=⟨1,0,[⟨(hd:Nat),[((M4.next+1:Nat):Int),yv]⟩]⟩) c1 rfl (by show 1<=4;decide) (fun e d=>by
  rw[Jo] at d;subst d
  exact⟨hd,M0.cur,z0,rfl,by omega,e6,by rw[d7,b7];rfl,aaS k1 q0,by rw[tc];exact(o.ext k1).trans b8⟩) (fun v hv=>by
  rw[gQ] at hv;refine t1.at ?_;rcases Jq.1 hv with rfl|hv
  ·exact tn
  ·rw[Jo] at hv;subst hv;exact t2) (P':=P) (by rw[tc];exact k5) (fun i e=> .inl e)
 have ux:=(g.trans (k7.trans tx)).trans (xd t1 c1 ⟨1,0,[⟨(hd:Nat),[((M4.next+1:Nat):Int),yv]⟩]⟩);have uv:M3.vals<+:(M6.endB ⟨1,0,[⟨(hd:Nat),[((M4.next+1:Nat):Int),yv]⟩]⟩).vals:=k6.trans tv;have e0:=(k7.trans tx).trans (xd t1 c1 ⟨1,0,[⟨(hd:Nat),[((M4.next+1:Nat):Int),yv]⟩]⟩);rw[tc] at u1;generalize M6.endB ⟨1,0,[⟨(hd:Nat),[((M4.next+1:Nat):Int),yv]⟩]⟩=M7 at *;have f9:=afw ux;have a5:M7.vals.take M3.vals.length=M3.vals:=uF uv;refine⟨pl4,w.trans k1,?_,?_,.inr (by show M.f.length<=hd+2;omega),fun e=>?_,?_,ax.trans (d5.trans ux)⟩
 ·have w1:MInv p M7.f (hd+2) M7.next (M7.vals.take M3.vals.length) _ P pl4:=u1.goto Zo (fun v hv b hb=>by
   rw[a5] at hv;obtain⟨q,j⟩:=c8 v hv
   exact u1.below (j.ext e0 k1 (Og _)) (b9.ext k1) Zo)
  refine w1.weak (fun i=>?_) (fun i e=>e);have f5:=afw g;rw[<-ac];constructor
  ·rintro⟨⟨⟨e|e,e2⟩,e3⟩|e,e4⟩
   ·exact .inl e
   ·exact .inr (show i=hd+2 by omega)
   ·exact absurd e e4
  ·rintro(e|e)
   ·have hi:=d9 i e.1;refine⟨.inl ⟨⟨.inl e,by omega⟩,by omega⟩,fun e2=>?_⟩;rcases k4 with k4|k4<;>omega
   ·have e':i=hd+2:=e;refine⟨.inl ⟨⟨.inr Zo,by omega⟩,by omega⟩,fun e2=>?_⟩;rcases k4 with k4|k4<;>omega
 ·rw[<-ac];exact(o.ext k1).trans (b9.ext k1)
 ·have e':P (hd+2):=e;have:=a6 _ e';omega
 ·show M.vals<+:M7.vals.take M3.vals.length
  rw[a5,fv];exact av.trans (Qb _ _)
section
variable {p:IProg} {E:ME} (hp:EnvOk p E)
include hp
theorem abq:∀d,bd p (zp E d)
 |0=>fX hp
 |d+1=>fun M O P pl h hO hn hPO=>by
  obtain⟨pl1,h1⟩:=fX hp M O P pl h hO hn hPO;have hl:=afw (eO E M)
  have next:∀ {pt:MS->MS},bd p pt->(∀M2:MS,M2.f=(tR E M).f->M2.cur=(tR E M).cur->M2.next=(tR E M).next->M2.vals=(tR E M).vals->∃pl',PartOut M O P pl p (pt M2) pl'):=fun {pt} hpt M2 e1 e2 e3 e4=>by
   have hi:aaz p M2 (fun i=>(O i/\i≠M.cur)∨i=(tR E M).cur) P pl1:=by
    have:=h1.inv;unfold aaz at this ⊢;rw[e1,e2,e3,e4];exact this
   obtain⟨g,h2⟩:=hpt M2 _ P pl1 hi (.inr e2) (by rw[e2];exact h1.np) (fun i e=> .inl ⟨hPO i e,fun e3=>hn (by rw[<-e3];exact e)⟩);have j:PartOut M O P pl p M2 pl1:=⟨h1.pre,by rw[e2];exact hi,by rw[e2];exact h1.abv,by rw[e2];exact h1.new,by rw[e2];exact h1.np,by rw[e4];exact h1.vals,by rw[e1];exact h1.ext⟩
   refine⟨g,j.trans ?_ (by rw[e1];exact hl) h.lt⟩;have e5:(fun i=>(O i/\i≠M.cur)∨i=(tR E M).cur)=(fun i=>(O i/\i≠M.cur)∨i=M2.cur):=by rw[e2]
   rw[<-e5];exact h2
  unfold zp;simp only
  have c:bd p (fun M=>M):=fun M O P pl h hO hn hPO=>⟨pl,Od,h.weak (fun i=>⟨fun e=>by
   by_cases e2:i=M.cur
   ·exact .inr e2
   ·exact .inl ⟨e,e2⟩,fun e=>e.elim (·.1) (fun e=>by rw[e];exact hO)⟩) (fun i e=>e),.refl _,.inl rfl,hn,Od,i6.refl _⟩
  split
  ·exact next c _ rfl rfl rfl rfl
  split
  ·exact next (af9 (abq d) (n:=2) ⟨by decide,by decide⟩) (tR E M).tick rfl rfl rfl rfl
  split
  ·exact next (ee (abq d)) (tR E M).tick rfl rfl rfl rfl
  split
  ·have:=aaE E (tR E M).tick (n:=3) Zo;exact next (af9 (abq d) (n:=2+tkV E (tR E M).tick 3) ⟨by omega,by omega⟩) (tR E M).tick.tick rfl rfl rfl rfl
  ·exact next c (tR E M).tick rfl rfl rfl rfl
end
open Go.RowKit
theorem nB {X:Nat->Prop}{w W2:World}{g:Nat}(o:Nat)(vs:List Value)(hb:N w W2)(c:X g):Stp X w X (W2.setCells g o vs):=
 ⟨(ze g vs o W2).1.trans hb.os,(ze g vs o W2).2.1.trans hb.tape,(ze g vs o W2).2.2.trans hb.output,by rw[y8];exact hb.size,fun _ h=> .inl h,fun k hk hx=>(ye g k (fun e=>hx (by rw[e];exact c)) vs o W2).trans (hb.block k hk)⟩
theorem nt {w:World}{K:MKC}{X:Nat->Prop}{M:MS}(h:wW w K X M){t:ITerm}(hk:I64 t.kind)(ha:I64 t.a){tv:Value}(hto:vT w (K.av X) tv t.to)(b0:M.cur<M.f.length):
 G 59 #[Q K.pm,.agg #[U t.kind,U t.a,tv]] w (yk K X w (M.endB t) (.tuple #[])):=by
 obtain⟨fv,vv,l,h⟩:=h;obtain⟨b,hb⟩:∃b,M.f[M.cur]? =some b:=⟨_,Jd b0⟩
 obtain⟨q,y,rfl,d⟩:=h.getB hb;obtain⟨g,c,rfl,b4,a1,b6⟩:=h.fblk y;obtain⟨ta,tc,rfl,_,_⟩:=hto.form;obtain⟨pa,pc,a0,_,_⟩:=d.par.form;obtain⟨oa,oc,m⟩:=zG d.own;obtain⟨ea,ec,a3,_,_⟩:=d.tos.form;have c4:=h.c4;have c5:=h.c5;have u:=z9 yr h.own rfl y;have e0:A w g (M.cur*5) q.pv:=u 0 _ rfl;have e1:=u 1 _ rfl;have e2:=u 2 _ rfl;have e3:=u 3 _ rfl;have e4:=u 4 _ rfl;have a4:=lt_of_block h.blk;have b2:=h.len;have b7:(M.cur:Int)<(l.length:Int):=Zo;have b8:(0:Int)<=(M.cur:Int):=Zo;have b1:=h.flen;rw[a0] at e0;rw[m] at e1;rw[a3] at e4;have H:=Ja (Jb h (Jb y (Jb d (Jb hto (Jb hb (Jb a0 (Jb m (Jb a3 (Jb hk ha)))))))));clear h y d hto hb u a0 m a3 hk ha b2 b1;go_enter Tryz.func59,Tryz.ntmps59;go_upto_region 1 with fail;have a6:∀w',N w w'->A w' K.pm 4 (F g l.length c)/\A w' K.pm 5 (U (M.cur:Int))/\A w' g (M.cur*5) (.slice pa q.b.params.length pc)/\A w' g (M.cur*5+1) (.slice oa q.ol.length oc)/\A w' g (M.cur*5+2) (U q.b.term.kind)/\A w' g (M.cur*5+3) (U q.b.term.a)/\A w' g (M.cur*5+4) (.slice ea q.b.term.to.length ec):=fun w' hb=>⟨zV hb a4 c4,zV hb a4 c5,zV hb a1 e0,zV hb a1 e1,zV hb a1 e2,zV hb a1 e3,zV hb a1 e4⟩
 have a2:=Ja a6;clear a6 c4 c5 e0 e1 e2 e3 e4
 go_region_held3 (fun w'=>A w' K.pm 4 (F g l.length c)/\A w' K.pm 5 (U (M.cur:Int))/\A w' g (M.cur*5) (.slice pa q.b.params.length pc)/\A w' g (M.cur*5+1) (.slice oa q.ol.length oc)/\A w' g (M.cur*5+2) (U q.b.term.kind)/\A w' g (M.cur*5+3) (U q.b.term.a)/\A w' g (M.cur*5+4) (.slice ea q.b.term.to.length ec))
  ((refine a2.out _ ?_;repeat' (first|exact Below.refl _ _|refine Below.drew ?_|refine Below.alloc ?_ (by simp<;>omega) _|refine Below.setCell ?_ (by simp<;>omega) _)))
  (fail)
 go_upto_region 3 with fail;have a5:N w (((w.alloc (I #[U t.kind,U t.a,.slice ta t.to.length tc] 82)).alloc (I #[.slice pa q.b.params.length pc,.slice oa q.ol.length oc,U t.kind,U t.a,.slice ta t.to.length tc] 84)).drew):=(((Below.refl _ _).alloc (Je _) _).alloc Zs _).drew;have x:O (((w.alloc (I #[U t.kind,U t.a,.slice ta t.to.length tc] 82)).alloc (I #[.slice pa q.b.params.length pc,.slice oa q.ol.length oc,U t.kind,U t.a,.slice ta t.to.length tc] 84)).drew) (w.heap.size+1) #[.slice pa q.b.params.length pc,.slice oa q.ol.length oc,U t.kind,U t.a,.slice ta t.to.length tc] 84:=zI Zs;generalize b5:((w.alloc (I #[U t.kind,U t.a,.slice ta t.to.length tc] 82)).alloc (I #[.slice pa q.b.params.length pc,.slice oa q.ol.length oc,U t.kind,U t.a,.slice ta t.to.length tc] 84)).drew=W2 at *;obtain⟨c4,c5,_⟩:=a2.out W2 a5;have l0:=zA (i:=0) x rfl;have l1:=zA (i:=1) x rfl;have l2:=zA (i:=2) x rfl;have l3:=zA (i:=3) x rfl;have l4:=zA (i:=4) x rfl;have HB:=Ja a5;clear a5 x b5 a2;refine zt 11 Zk Zk ?_;simp only[Qo,Uc,Qp,Ui]
 repeat (go_big_quiet_step (fail))
 refine wpQuiet_nil ?_;have a8:=H.out.1.keep HB.out.drew;refine wpList_store_mid rfl 84 (.tmp 28) (.tmp 27) rfl g (M.cur*5) #[.slice pa q.b.params.length pc,.slice oa q.ol.length oc,U t.kind,U t.a,.slice ta t.to.length tc] rfl rfl (zq Zd yr a8.own rfl H.out.2.1) Zk (by simp[Value.oneCell']) ?_;go_wp2
 first|go_end0|refine bodyPost_ret (results_none rfl _ _ _) rfl ?_
 obtain⟨h,y,d,hto,hb,a0,m,a3,hk,ha⟩:=H.out;have hs:Stp X w X (W2.drew.setCells g (M.cur*5) (xG ⟨{q.b with term:=t },q.pv,q.ov,.slice ta t.to.length tc,q.ol⟩)):=nB _ _ HB.out.drew b4;have b3: [Value.slice pa q.b.params.length pc,.slice oa q.ol.length oc,U t.kind,U t.a,.slice ta t.to.length tc]=xG ⟨{q.b with term:=t },q.pv,q.ov,.slice ta t.to.length tc,q.ol⟩:=by unfold xG;rw[a0,m]
 rw[b3];refine⟨rfl,X,⟨_,_,_,h.turn (M':=M.endB t) y rfl hs (fun _ e=>e) (fun k e=>Jy (h.xl k e) hs.size) h.xB (fun k hk' hx hne _=>(ye g k hne _ _ _).trans (HB.out.drew.block k hk')) (fun e=>zC d.own h.blk (.inr Zd) e) (uZ yr a8.own rfl y _) ?_ (fun j qj k hj h1 h2=>h.apart j _ qj q k hj y h2 h1) ?_ ⟨rfl,rfl,rfl,rfl,rfl⟩ ?_⟩,hs⟩
 ·exact⟨⟨hk,ha⟩,d.par.step wb (hs.av K),d.ops,yD d.own (fun k hk'=>(ye g k (fun e=>by
   rcases zo d.own h.own Zd with h1|h1
   ·rw[h1] at hk';cases hk'
   ·exact h1 (by rw[hk',e];rfl)) _ _ _).trans (HB.out.drew.block k (d.own.lt k hk').2)),fun o ho=>⟨(d.arg o ho).1,(d.arg o ho).2.step wb (hs.av K)⟩,hto.step yq (hs.av K),d.inX⟩
 ·exact xI hb _
 ·have:=(zv M t).sz;have:=h.bnd;omega
theorem emRes_of {M:MS}{c:Int}(h:uc c=true):sB M c=(M.next:Int):=by unfold sB;rw[h];rfl
theorem vG (x:Int)(h1:-1000000<=x)(h2:x<=1000000):I64 x:=⟨by omega,by omega⟩
theorem yF (x:Int)(h:(decide (-1000000<=x) && decide (x<=1000000))=true):I64 x:=by
 simp only[Jm,decide_eq_true_eq] at h;exact vG x h.1 h.2
theorem conOp_ok {n:Nat}(c:n<65536):qN (conOp n):=⟨yF _ rfl,yF _ rfl,yF _ rfl,yF _ rfl,c⟩
theorem ks {w:World}{K:MKC}{X:Nat->Prop}{M:MS}(h:wW w K X M){n:Nat}(j:n<65536)(d:M.cur<M.f.length)(g:M.sz+3<=1000000):
 G 114 #[Q K.pm,Y n] w (yk K X w (M.num n) (U (M.next:Int))):=by
 have c:=rD h (conOp_ok j) yE.nil d g;rw[emRes_of (show uc (conOp n).code=true from rfl)] at c;have i:=Ja (show G 132 #[Q K.pm,.agg #[U 1,U 0,U 0,U 0,Y n,L]] w (yk K X w (M.num n) (U (M.next:Int))) from c);clear h c d g;go_enter Tryz.func114,Tryz.ntmps114;go_wp2_with (go_at_call 132;go_must (refine i.out.mono ?_;rintro e w1 ⟨rfl,hm⟩))
 go_ret;exact⟨rfl,hm⟩
theorem MkIn.valAt {w:World}{K:MKC}{X:Nat->Prop}{M:MS}{fv:Value}{l:List BM}{g n c:Nat}(h:MkIn w K X M fv (F g n c) l){i:Nat}(hi:i<M.vals.length):A w g i (U (M.vals.getD i 0)):=by
 have:=h.vown.cells rfl i (U (M.vals.getD i 0)) (by rw[Jr,Jd hi,Jj,Jd hi];rfl);rw[Addr.add_mid,Ng] at this;exact this
theorem pu {w:World}{K:MKC}{X:Nat->Prop}{M:MS}(h:wW w K X M)(a8:M.cur<M.f.length)(hz:M.sz+4<=1000000):
 G 58 #[Q K.pm] w (yk K X w (zJ K.E M).2 (U (zJ K.E M).1)):=by
 obtain⟨fv,vv,l,h⟩:=h;have c7:=h.c7;have x:=h.vown;obtain⟨va,vc,rfl⟩:=zG x;have b9:M.vals.length<=1000000:=by unfold MS.sz at hz;omega
 have H:=Ja (Jb h (Jb a8 hz));clear h a8 hz
 by_cases h0:M.vals.length=0
 ·have d:zJ K.E M=((M.next:Int),M.tick.num (tkV K.E M 9)):=by unfold zJ;rw[if_pos h0]
  have c3:=Ja d;have t0:((M.vals.length:Int)==0)=true:=by rw[beq_iff_eq];omega
  have b7:(M.vals.length==0)=true:=by rw[beq_iff_eq];omega
  have b2:=uD H.out.1 (n:=9) Zd Zd (by have:=H.out.2.2;omega);have a5:=aaE K.E M (n:=9) Zd;have HT:=Ja b2;clear d x h0 b2;go_enter Tryz.func58,Tryz.ntmps58;go_wp2_with (first|(go_at_call 55;go_must (refine HT.out.mono ?_;rintro e w1 ⟨rfl,a0,u⟩))|(go_at_call 114;go_must (refine(ks a0.at (n:=tkV K.E M 9) Zo H.out.2.1 (by have:=(zT M).sz;have:=H.out.2.2;omega)).mono ?_;rintro e w2 ⟨rfl,X2,c,j⟩)))
  go_ret;rw[c3.out];exact⟨rfl,X2,c,u.trans j⟩
 ·have hp:0<M.vals.length:=Zo;obtain⟨g,d0,e,c9,c8⟩:=x.form hp;cases e;have t0:((M.vals.length:Int)==0)=false:=Ze;have b7:(M.vals.length==0)=false:=by rw[beq_eq_false_iff_ne];omega
  have c2:=Ja (uD H.out.1 (n:=M.vals.length) hp b9 (by have:=H.out.2.2;omega));have a5:=aaE K.E M hp;clear h0 x;go_enter Tryz.func58,Tryz.ntmps58;go_upto_region 4 with(go_at_call 55;go_must (refine c2.out.mono ?_;rintro e w1 ⟨rfl,a0,u⟩))
  have b1:=Ja (uD a0 (n:=3) Zd Zd (by have:=(zT M).sz;have:=H.out.2.2;omega));obtain⟨z3,k⟩:∃z,tkV K.E M.tick 3=z:=⟨_,rfl⟩
  rw[k] at b1;obtain⟨z0,o⟩:∃z,tkV K.E M M.vals.length=z:=⟨_,rfl⟩
  rw[o] at a5
  try rw[o]
  by_cases h3:0<z3
  ·have c0:(0:Int)<(z3:Int):=Zo;have d:zJ K.E M=(M.vals.getD (M.vals.length-1-tkV K.E M.tick.tick (min 4 M.vals.length)) 0,M.tick.tick.tick):=by unfold zJ;rw[if_neg Zo,if_pos (by rw[k];exact h3)]
   have hZ:=Ja (Jb d (Jb k o));clear d k o;go_upto_region 5 with(go_at_call 55;go_must (refine b1.out.mono ?_;rintro e w2 ⟨rfl,c,j⟩))
   have y:0<min 4 M.vals.length:=Zo;have b6:∀(ts:Array TypeId) (t:TypeId) (W:World),(Builtin.min_ ts t #[U 4,U (M.vals.length:Int)]).run Tryz.prog W=.ok (U ((min 4 M.vals.length:Nat):Int)) W:=fun ts t W=>by rw[show((min 4 M.vals.length:Nat):Int)=if(M.vals.length:Int)<(4:Int) then(M.vals.length:Int) else 4 by split<;>omega];exact run_min_int2 ..
   have b0:=Ja (uD (c.keep (Below.refl _ _).drew) (n:=min 4 M.vals.length) y Zo (by have:=(zT M).sz;have:=(zT M.tick).sz;have:=H.out.2.2;omega));have a4:=aaE K.E M.tick.tick y;obtain⟨z4,a1⟩:∃z,tkV K.E M.tick.tick (min 4 M.vals.length)=z:=⟨_,rfl⟩
   rw[a1] at b0 a4;obtain⟨mn,a2⟩:∃m,min 4 M.vals.length=m:=⟨_,rfl⟩
   rw[a2] at b0 b6 a4;have c5:mn<=M.vals.length:=Zo;have c1:=Ja (Jb a1 a2);have d7:=c.c7;have c4:=Ja (Jb c (u.trans j));clear a1 a2 a0 u c j c7 y
   go_region_held3 (fun w'=>A w' K.pm 7 (F g M.vals.length vc)) (first|exact d7|assumption|(exact MkIn.c7 Zz))
    ((go_at_call 55;refine b0.out.mono ?_;rintro e w3 ⟨rfl,a3,b4⟩))
   have hv:=a3.valAt (i:=M.vals.length-1-z4) (show M.vals.length-1-z4<M.vals.length by omega);obtain⟨ix,a6⟩:∃ix:Nat,M.vals.length-1-z4=ix:=⟨_,rfl⟩
   have b5:IntKind.i64.wrap (IntKind.i64.wrap ((M.vals.length:Int)-1)-(z4:Int))=(ix:Int):=by
    rw[Om ((M.vals.length:Int)-1) Zo,Om _ Zo];omega
   rw[b5];rw[a6] at hv;have b8:(ix:Int)<(M.vals.length:Int):=Zo;have b3:=c4.out.2.trans ((Stp.of_below (Below.refl _ _).drew).trans b4);have HR:=Ja (Jb a3 (Jb b3 a6));clear a3 b3 b4 a6 b5 d7;go_wp2;go_ret;rw[hZ.out.1];exact⟨zh (by rw[c1.out.1,HR.out.2.2,Jj];rfl),X,HR.out.1.at,HR.out.2.1⟩
  ·have c0:¬(0:Int)<(z3:Int):=Zo;have d:zJ K.E M=(M.vals.getD z0 0,M.tick.tick):=by unfold zJ;rw[if_neg Zo,if_neg (by rw[k];exact h3),o]
   have hZ:=Ja d;clear d k o;go_upto_region 6 with(go_at_call 55;go_must (refine b1.out.mono ?_;rintro e w2 ⟨rfl,c,j⟩))
   have hv:=c.valAt (i:=z0) a5;have d7:=c.c7;have b8:(z0:Int)<(M.vals.length:Int):=Zo;have HR:=Ja (Jb c (u.trans j));clear c u j a0;go_wp2;go_ret;rw[hZ.out];exact⟨rfl,X,HR.out.1.at,HR.out.2⟩
def MKC.withZ (K:MKC)(Z:Nat->Prop):MKC:= {K with Z:=Z }
theorem MkIn.off {w W:World}{K:MKC}{X Z2:Nat->Prop}{M:MS}{fv vv:Value}{l:List BM}(h:MkIn w K X M fv vv l)(g:w.heap.size<=W.heap.size)(ho:W.os=w.os/\W.tape=w.tape/\W.output=w.output)
 (hk:∀k,k<w.heap.size->(K.Z k->k<K.B)->W.heap[k]? =w.heap[k]?) (j:∀k,Z2 k->K.Z k∨w.heap.size<=k) (i:∀k,Z2 k->k<W.heap.size):MkIn W (K.withZ Z2) X M fv vv l:=by
 have c:Stp (K.av X) w ((K.withZ Z2).av X) W:=⟨ho.1,ho.2.1,ho.2.2,g,fun k e=>e.elim (fun e=> .inl (.inl e)) (fun e=>(j k e).elim (fun e=> .inl (.inr e)) .inr),fun k hk' d=>hk k hk' (fun e=>absurd (.inr e) d)⟩
 have d:∀k,X k->k<w.heap.size/\W.heap[k]? =w.heap[k]?:=fun k e=>⟨h.xl k e,hk k (h.xl k e) (fun e2=>absurd e2 (h.env.zx k e))⟩
 have hb:Below K.B w W:=⟨ho.1,ho.2.1,ho.2.2,g,fun k e=>hk k (Jy e h.size) (fun _=>e)⟩
 obtain⟨b,e1,e2,e3⟩:=h.env.data;refine⟨(d _ h.xm).2.trans h.blk,yD h.own (fun k e=>(d k (h.xf k e)).2),h.fl,fun q hq=>?_,h.apart,yD h.vown (fun k e=>(d k (h.xv k e)).2),h.v64,h.xm,h.xf,h.xv,h.xB,fun k e=>Jy (h.xl k e) g,?_,h.bnd,h.lft⟩
 ·have q1:=h.bok q hq;exact⟨q1.k64,q1.par.step wb c,q1.ops,yD q1.own (fun k e=>(d k (q1.inX k e)).2),fun o ho=>⟨(q1.arg o ho).1,(q1.arg o ho).2.step wb c⟩,q1.tos.step yq c,q1.inX⟩
 ·exact⟨h.env.s.below zO hb,h.env.fpv,c.blk h.env.prog h.env.ppX,h.env.args.step wb c,⟨b,e1,c.not (lt_of_block e3) e2,c.blk e3 e2⟩,c.not (lt_of_block h.env.prog) h.env.ppX,h.env.h64,h.env.len,h.env.nf,h.env.alt,
   fun k e1 e2=>(j k e2).elim (h.env.zx k e1) (fun e3=>by have:=h.xl k e1;omega),i⟩
theorem oD {w:World}{K:MKC}{X:Nat->Prop}{M:MS}(h:wW w K X M):I64 (zJ K.E M).1:=by
 obtain⟨fv,vv,l,h⟩:=h;have hb:=h.bnd
 have hv:∀i,I64 (M.vals.getD i 0):=fun i=>by
  rw[Jj]
  cases c:M.vals[i]? with
  |none=>exact yF _ rfl
  |some x=>exact h.v64 x (Ji c)
 unfold zJ
 split
 ·unfold MS.sz at hb;exact⟨by show -9223372036854775808<=(M.next:Int);omega,by show(M.next:Int)<=9223372036854775807;omega⟩
 split
 ·exact hv _
 ·exact hv _
structure ArgMid (w:World) (K:MKC) (X:Nat->Prop) (M:MS) (av:Value) (j:Nat) (wx:World):Prop where
 own:wx.ownsRow w.heap.size 3 1 av j ((yI K.E j M).1.map zN)
 i64:∀x∈(yI K.E j M).1,I64 x
 made:∃Xj,wW wx (K.withZ fun k=>K.Z k∨av.ownBlock=some k) Xj (yI K.E j M).2/\Stp X w Xj wx
theorem qw (E:ME):∀(n:Nat) (M:MS),(yI E n M).1.length=n
 |0,_=>rfl
 |n+1,M=>by show((yI E n M).1++ [_]).length=_;rw[Jk,qw E n M];rfl
theorem ArgMid.start {w:World}{K:MKC}{X:Nat->Prop}{M:MS}(h:wW w K X M):ArgMid w K X M (L) 0 w:=by
 refine⟨Jv _ _ _ _,(fun x hx=>by cases hx),X,?_,Stp.refl _ _⟩;obtain⟨fv,vv,l,h⟩:=h;exact⟨fv,vv,l,h.off (Je _) ⟨rfl,rfl,rfl⟩ (fun _ _ _=>rfl) (fun k e=>e.elim .inl (fun e=>by simp[Value.ownBlock] at e)) (fun k e=>e.elim (h.env.zl k) (fun e=>by simp[Value.ownBlock] at e))⟩
theorem ArgMid.next {w wx w2 w3:World}{K:MKC}{X X2:Nat->Prop}{M:MS}{av av':Value}{j:Nat}{o:Obj}(h:ArgMid w K X M av j wx)(h2:wW w2 (K.withZ fun k=>K.Z k∨av.ownBlock=some k) X2 (yI K.E (j+1) M).2)(d:Stp X w X2 w2)(m:w2.ownsRow w.heap.size 3 1 av j ((yI K.E j M).1.map zN))(u:I64 (zJ K.E (yI K.E j M).2).1)
 (y:∀k,X k->k<w.heap.size) (hB:K.B<=w.heap.size) (hg:(w2.alloc o).grownBy w3 av.ownBlock) (i:w3.ownsRow w.heap.size 3 1 av' (j+1) ((yI K.E j M).1.map zN++ [zN (zJ K.E (yI K.E j M).2).1])) (t:∀k,av'.ownBlock=some k->av.ownBlock=some k∨w2.heap.size<=k):ArgMid w K X M av' (j+1) w3:=by
 obtain⟨fv,vv,l,h2⟩:=h2;have g:w2.heap.size<=w3.heap.size:=by have:=hg.size;simp at this;omega
 have hk:∀k,k<w2.heap.size->av.ownBlock≠some k->w3.heap[k]? =w2.heap[k]?:=fun k hk hne=>(hg.block k Zt (fun e=>hne e.symm)).trans (Below.heap_alloc w2 o k hk)
 refine⟨?_,?_,X2,⟨fv,vv,l,h2.off (K:=K.withZ fun k=>K.Z k∨av.ownBlock=some k) g ⟨hg.os,hg.tape,hg.output⟩ (fun k hk' hz=>hk k hk' (fun e=>by have h1:k<K.B:=hz (.inr e);have:=(m.lt k e).1;omega)) (fun k e=>e.elim (fun e=> .inl (.inl e)) (fun e=>(t k e).elim (fun e=> .inl (.inr e)) .inr)) (fun k e=>e.elim (fun e=>Jy (h2.env.zl k (.inl e)) g) (fun e=>(i.lt k e).2))⟩,?_⟩
 ·show w3.ownsRow w.heap.size 3 1 av' (j+1) (((yI K.E j M).1++ [(zJ K.E (yI K.E j M).2).1]).map zN)
  rw[Js];exact i
 ·intro x c;rcases Jl.1 c with c|c
  ·exact h.i64 x c
  ·rw[Jo] at c;subst c;exact u
 ·refine⟨hg.os.trans d.os,hg.tape.trans d.tape,hg.output.trans d.output,Jn d.size g,d.new,fun k hk' c=>(hk k (Jy hk' d.size) (fun e=>?_)).trans (d.kept k hk' c)⟩;have:=(m.lt k e).1;omega
theorem ArgMid.done {w wx:World}{K:MKC}{X:Nat->Prop}{M:MS}{av:Value}{j:Nat}(h:ArgMid w K X M av j wx)(c:∀k,K.Z k->k<w.heap.size):∃Xj,wW wx K Xj (yI K.E j M).2/\Stp X w Xj wx/\wm wx (K.av Xj) av (yI K.E j M).1:=by
 obtain⟨Xj,⟨fv,vv,l,hm⟩,hs⟩:=h.made;refine⟨Xj,⟨fv,vv,l,hm.off (Z2:=K.Z) (Je _) ⟨rfl,rfl,rfl⟩ (fun _ _ _=>rfl) (fun k e=> .inl (.inl e)) (fun k e=>hm.env.zl k (.inl e))⟩,hs,?_⟩;refine rO h.own (qw _ _ _) h.i64 (fun k e hx=>hx.elim (fun e2=>hm.env.zx k e2 (.inr e)) (fun e2=>?_));have:=(h.own.lt k e).1;have:=c k e2;omega
theorem jh {w:World}{X:Nat->Prop}{v:Value}{xs:List Int}{a:Option Addr}{n c:Nat}(h:wm w X v xs)(hv:v=.slice a n c){k:Nat}{x:Int}(g:xs[k]? =some x):∃b o,a=some ⟨b,o,none⟩/\A w b (o+k) (U x):=by
 subst hv;obtain⟨a',c',e,_,_,h3⟩:=h;cases e;obtain⟨b,o,i,_,_,d,_⟩:=h3 k x g;rw[Nk] at d;exact⟨b,o,i,d⟩
theorem jN {w:World}{K:MKC}{X:Nat->Prop}{M:MS}(h:wW w K X M)(b4:M.cur<M.f.length)(hz:M.sz+16<=1000000):
 G 134 #[Q K.pm] w (yk K X w (vN K.E M) (.tuple #[])):=by
 obtain⟨fv,vv,l,h⟩:=h;have H:=Ja (Jb h (Jb b4 hz));have c2:=h.c2;have c3:=h.c3;obtain⟨pa,pc,c7⟩:=h.env.fpv;have p0:=zA (i:=0) h.env.prog rfl;rw[c7] at p0;have i1:=h.env.nf;have i0:=lt_of_block h.env.prog;have h7:=lt_of_block h.blk;clear h b4 hz c7;have f6:IntKind.i64.wrap ((K.E.nf:Int)-(K.E.me:Int))=(K.E.nf:Int)-(K.E.me:Int):=Om _ Zo;have c0:IntKind.i64.wrap ((K.E.nf:Int)-(K.E.me:Int)-1)=(K.E.nf:Int)-(K.E.me:Int)-1:=Om _ Zo
 by_cases h0:K.E.nf<=K.E.me+1
 ·have t:vN K.E M=M:=by unfold vN;rw[if_pos h0]
  have a2:=Ja t;have b9:(K.E.nf:Int)-(K.E.me:Int)-1<1:=Zo;clear t;go_enter Tryz.func134,Tryz.ntmps134;go_upto_region 0 with fail;go_quiet (fail);go_wp2
  first|go_end0|refine bodyPost_ret (results_none rfl _ _ _) rfl ?_
  rw[a2.out];exact⟨rfl,X,⟨_,_,_,H.out.1.keep (yL _ _ _)⟩,Stp.of_below (yL _ _ _)⟩
 ·obtain⟨m,hm⟩:∃m:Nat,K.E.nf-K.E.me-1=m:=⟨_,rfl⟩
  have i8:1<=m:=Zo;have b9:¬(K.E.nf:Int)-(K.E.me:Int)-1<1:=Zo;have c8:(K.E.nf:Int)-(K.E.me:Int)-1=(m:Int):=Zo;have h9:¬(m:Int)<1:=Zo;rw[c8] at c0;clear b9;go_enter Tryz.func134,Tryz.ntmps134;go_upto_region 0 with fail
  go_cut [2] (fun v wx=>v=U m/\∃n,wx=w.drewN n)
  case first=>
   go_quiet (fail);go_wp2;go_meet;exact⟨by first|rfl|(rw[c8]),_,rfl⟩
  case rest=>
   obtain⟨rfl,n0,rfl⟩:=hcut;have a4:=H.out.1.keep (yL _ w n0);generalize d9:w.drewN n0=W1 at *;have c4:Stp X w X W1:=by rw[<-d9];exact Stp.of_below (yL _ _ _)
   have e1:=Ja (Jb a4 c4);have HT:=Ja (uD (a4.keep (Below.refl _ _).drew) (n:=m) Zo Zo (by have:=H.out.2.2;omega));have a3:=aaE K.E M (n:=m) Zo;obtain⟨z,hz⟩:∃z,tkV K.E M m=z:=⟨_,rfl⟩
   rw[hz] at HT a3;have HZ:=Ja (Jb hz hm);have d3:=a4.c3;clear a4 c4 hz hm d9 c2 c3 p0 f6 c0;go_upto_region 2 with fail;obtain⟨f,hf⟩:∃f:Nat,K.E.me+1+z=f:=⟨_,rfl⟩
   have d0:(K.E.me:Int)+1+(z:Int)=(f:Int):=Zo;have g9:=Ja (show IntKind.i64.wrap (IntKind.i64.wrap ((K.E.me:Int)+1)+(z:Int))=(f:Int) by rw[Om ((K.E.me:Int)+1) Zo,Om _ Zo];exact d0);clear d0
   go_cut [3] (fun v wx=>v=U f/\Hid (MkIn wx K X M.tick fv vv l/\Stp X w X wx))
   case first=>
    go_region_held3 (fun w'=>A w' K.pm 3 (U (K.E.me:Int))) (first|exact d3|assumption|(exact MkIn.c3 Zz))
     ((go_at_call 55;refine HT.out.mono ?_;rintro e w2 ⟨rfl,u,f8⟩))
    all_goals go_wp2_with fail
    go_meet;exact⟨by rw[g9.out],Ja ⟨u,e1.out.2.trans ((Stp.of_below (Below.refl _ _).drew).trans f8)⟩⟩
   obtain⟨rfl,d5⟩:=hcut;obtain⟨u,a8⟩:=d5.out;generalize g6:wc=w2 at *;clear d5 g6;have g3:f<K.E.nf:=by have:=HZ.out.2;omega
   have d2:=u.c2;have p3:=zA (i:=3) u.env.prog rfl;have d:=Ja (Jb u (Jb a8 hf));have h8:=lt_of_block u.env.prog;have h4:=lt_of_block u.blk;clear u a8 hf d3 e1 HT
   by_cases hh:(f:Int)=K.E.handler
   ·have t0:((f:Int)==K.E.handler)=true:=by rw[beq_iff_eq];exact hh
    have t:vN K.E M=M.tick:=by
     unfold vN;rw[if_neg h0];simp only;rw[HZ.out.2,HZ.out.1,d.out.2.2,if_pos hh]
    have a2:=Ja t;clear t hh;go_wp2
    first|go_end0|refine bodyPost_ret (results_none rfl _ _ _) rfl ?_
    rw[a2.out];exact⟨rfl,X,d.out.1.at,d.out.2.1⟩
   ·have t0:((f:Int)==K.E.handler)=false:=by rw[beq_eq_false_iff_ne];exact hh
    have t:vN K.E M=(yI K.E (K.E.args.getD f 0).toNat M.tick).2.emit ⟨26,0,(f:Nat),0,0,(yI K.E (K.E.args.getD f 0).toNat M.tick).1⟩:=by
     unfold vN;rw[if_neg h0];simp only;rw[HZ.out.2,HZ.out.1,d.out.2.2,if_neg hh]
    have a2:=Ja t;clear t hh;obtain⟨aa,ac,d6,_,_⟩:=d.out.1.env.args.form;have a5:=d.out.1.env.args;have f1:=d.out.1.env.len;have e5:=Ja (Jb d6 a5);obtain⟨x,hx⟩:∃x,K.E.args[f]? =some x:=⟨_,Jd (by rw[f1];exact g3)⟩
    obtain⟨f5,f4⟩:=d.out.1.env.alt x (Ji hx);have b8:K.E.args.getD f 0=x:=by rw[Jj,hx];rfl
    obtain⟨c,hc⟩:∃c:Nat,x.toNat=c:=⟨_,rfl⟩
    have d4:x=(c:Int):=Zo;have i2:=(zT M).sz;have HX:=Ja (Jb hx (Jb b8 (Jb hc d4)));have j2:c<=3:=Zo;have b0:=ArgMid.start d.out.1.at;have g8:=Ja b0;clear d6 a5 hx b8 hc d4 b0 f5 f4;go_upto_region 5 with fail;go_wp2;clear d2 p3
    go_loopw [4,5] (fun rv jv wx=>∃(j:Nat) (ra:Option Addr) (rc:Nat),j<=c/\rv=.slice ra j rc/\jv=U j/\Hid (ArgMid w2 K X M.tick (.slice ra j rc) j wx)) (fun _ jv _=>c-(intOf jv).toNat)
    case atStart=>exact⟨0,none,0,Jt _,rfl,rfl,g8⟩
    case round=>
     obtain⟨j,ra,rc,hj,rfl,rfl,HA⟩:=hrel
     have g2:∃Xj fv' vv' l',MkIn wr (K.withZ fun k=>K.Z k∨(Value.slice ra j rc).ownBlock=some k) Xj (yI K.E j M.tick).2 fv' vv' l'/\Stp X w2 Xj wr:=by
      obtain⟨Xj,⟨fv',vv',l',hm⟩,hs⟩:=HA.out.made;exact⟨Xj,fv',vv',l',hm,hs⟩
     obtain⟨Xj,fv',vv',l',hm,hs⟩:=g2;have e2:A wr K.pm 2 (Q K.pp):=hm.c2;have q1:A wr K.pp 1 K.apv:=zA (i:=1) hm.env.prog rfl;obtain⟨ab,ao,d8,g5⟩:=jh (show wm wr ((K.withZ fun k=>K.Z k∨(Value.slice ra j rc).ownBlock=some k).av Xj) K.apv K.E.args from hm.env.args) e5.out.1 HX.out.1;rw[e5.out.1,d8] at q1;rw[HX.out.2.2.2] at g5;have j1:(f:Int)<(K.E.args.length:Int):=Zo;have a1:=Ja (Jb hm hs);clear hm hs d8
     by_cases a3:j<c
     ·have f0:(j:Int)<(c:Int):=Zo;have g:=tj K.E j M.tick
      have b3:(yI K.E j M.tick).2.cur<(yI K.E j M.tick).2.f.length/\(yI K.E j M.tick).2.sz+4<=1000000:=by
       refine⟨?_,?_⟩
       ·rw[g.cur,g.len];exact H.out.2.1
       ·have:=g.sz;have:=H.out.2.2;omega
      have d7:=pu (K:=K.withZ fun k=>K.Z k∨(Value.slice ra j rc).ownBlock=some k) a1.out.1.at b3.1 b3.2;have a6:=oD a1.out.1.at;obtain⟨y,hy⟩:∃y,(zJ K.E (yI K.E j M.tick).2).1=y:=⟨_,rfl⟩
      have b6:G 58 #[Q K.pm] wr (yk (K.withZ fun k=>K.Z k∨(Value.slice ra j rc).ownBlock=some k) Xj wr (yI K.E (j+1) M.tick).2 (U y)):=by rw[<-hy];exact d7
      have b2:∀(w4:World) (X4:Nat->Prop),Stp Xj wr X4 w4->w4.ownsRow w2.heap.size 3 1 (.slice ra j rc) j ((yI K.E j M.tick).1.map zN):=fun w4 X4 a0=>yD HA.out.own (fun k e=>a0.kept k (HA.out.own.lt k e).2 (fun e2=>a1.out.1.env.zx k e2 (.inr e)))
      obtain⟨ij,g1,e9,e7,e6⟩:=info_parts Tryz.info_int;have HN:=Ja (Jb b6 (Jb a6 (Jb hy b2)));have e0:=Ja a3;have j0:j<=3:=Zo;have h5:=a1.out.2.size;clear d7 b6 a6 hy b2 b3 g a3;go_wp2_with (first|(go_at_call 58;go_must (refine HN.out.1.mono ?_;rintro e w4 ⟨rfl,X4,g0,a0⟩;have c5:=HN.out.2.2.2 w4 X4 a0;have h6:=a0.size))|(at_builtin;go_must (refine zK _ rfl (.tmp 54) (.tmp 57) 22 rfl w2.heap.size 3 ij (U 0) 1 8 Tryz.underlying22 g1 e9 e7 e6 rfl Zd (.slice ra j rc) j ((yI K.E j M.tick).1.map zN) rfl (c5.alloc _) _ 1 [U y] rfl (yM.one (zI rfl) rfl) (by unfold maxLen;omega) Zo Zt ?_;intro v9 w9 b1 b7 g4)))
      obtain⟨f3,f2,rfl⟩:=zG b1;go_roundw
      case rel=>
       refine⟨j+1,f3,f2,e0.out,rfl,by go_num,Ja (HA.out.next g0 (a1.out.2.trans a0) c5 (by rw[HN.out.2.2.1];have:=HN.out.2.1;rw[<-HN.out.2.2.1];exact this) d.out.1.xl d.out.1.size b7 (by rw[HN.out.2.2.1];exact b1) (fun k e=>?_))⟩;rcases g4 with e2|e2
       ·exact .inl (by rw[<-e2];exact e)
       ·right;have e3:=e2.symm.trans e;simp at e3;omega
      case measure=>have:=e0.out;simp[intOf];omega
     ·obtain rfl:j=c:=by omega
      have f0:¬(j:Int)<(j:Int):=Zo;obtain⟨X9,c9,c1,b5⟩:=HA.out.done d.out.1.env.zl;have g:=tj K.E j M.tick;have d1:=rD (o:=⟨26,0,(f:Int),0,0,(yI K.E j M.tick).1⟩) c9 ⟨yF _ rfl,yF _ rfl,vG (f:Int) Zo Zo,yF _ rfl,(by show 0<65536;omega)⟩ b5 (by rw[g.cur,g.len];exact H.out.2.1) (by have:=g.sz;have:=H.out.2.2;omega);have e4:=Ja (Jb d1 (d.out.2.1.trans c1));clear c9 c1 b5 g d1;go_wp2_with (go_at_call 132;go_must (refine e4.out.1.mono ?_;rintro e w5 ⟨rfl,X5,f9,f7⟩))
      first|go_end0|refine bodyPost_ret (results_none rfl _ _ _) rfl ?_
      rw[a2.out,HX.out.2.1,HX.out.2.2.1];exact⟨rfl,X5,f9,e4.out.2.trans f7⟩
def jQ {α:Type}(R:World->(Nat->Prop)->Nat->Nat->α->Prop):Prop:=∀w X Y b q x,(∀k,Y k->X k)->R w X b q x->R w Y b q x
theorem yE.anti {α:Type}{sz:Nat}{R:World->(Nat->Prop)->Nat->Nat->α->Prop}(g:jQ R){w:World}{X Y:Nat->Prop}{v:Value}{xs:List α}(h:yE sz R w X v xs)(c:∀k,Y k->X k):yE sz R w Y v xs:=by
 obtain⟨a,d,rfl,h1,h2,h3⟩:=h;refine⟨a,d,rfl,h1,h2,fun k x hk=>?_⟩;obtain⟨b,o,m,l,j,i⟩:=h3 k x hk;exact⟨b,o,m,l,fun e=>j (c _ e),g _ _ _ _ _ _ c i⟩
theorem abf:jQ IntG:=fun w X Y b q x hY h=>h
theorem qd:jQ EdgeG:=fun w X Y b q x hY h=>by
 obtain⟨h1,h2,av,h3,c⟩:=h;exact⟨h1,h2,av,h3,c.anti abf hY⟩
def OpG (w:World)(X:Nat->Prop)(b q:Nat)(x:IOp):Prop:=
 A w b q (U x.code)/\A w b (q+1) (U x.res)/\A w b (q+2) (U x.a)/\A w b (q+3) (U x.b)/\A w b (q+4) (Y (x.n:Int))/\
  (I64 x.code/\I64 x.res/\I64 x.a/\I64 x.b/\x.n<65536)/\∃av,A w b (q+5) av/\wm w X av x.args
theorem lu:rP OpG:=fun X w X' w' b q x _ hx hs h=>by
 obtain⟨h1,h2,h3,j,i,g,av,d,c⟩:=h;exact⟨hs.cell h1 hx,hs.cell h2 hx,hs.cell h3 hx,hs.cell j hx,hs.cell i hx,g,av,hs.cell d hx,c.step wb hs⟩
theorem opG_anti:jQ OpG:=fun w X Y b q x hY h=>by
 obtain⟨h1,h2,h3,j,i,g,av,d,c⟩:=h;exact⟨h1,h2,h3,j,i,g,av,d,c.anti abf hY⟩
abbrev OpsG:=yE 6 OpG
def BlkG (w:World)(X:Nat->Prop)(b q:Nat)(x:IBlk):Prop:=
 A w b (q+2) (U x.term.kind)/\A w b (q+3) (U x.term.a)/\(I64 x.term.kind/\I64 x.term.a)/\
  ∃pv ov tv,A w b q pv/\A w b (q+1) ov/\A w b (q+4) tv/\wm w X pv x.params/\OpsG w X ov x.ops/\vT w X tv x.term.to
theorem xq:rP BlkG:=fun X w X' w' b q x _ hx hs h=>by
 obtain⟨h1,h2,h3,pv,ov,tv,k,j,i,g,d,c⟩:=h;exact⟨hs.cell h1 hx,hs.cell h2 hx,h3,pv,ov,tv,hs.cell k hx,hs.cell j hx,hs.cell i hx,g.step wb hs,d.step lu hs,c.step yq hs⟩
theorem jG:jQ BlkG:=fun w X Y b q x hY h=>by
 obtain⟨h1,h2,h3,pv,ov,tv,k,j,i,g,d,c⟩:=h;exact⟨h1,h2,h3,pv,ov,tv,k,j,i,g.anti abf hY,d.anti opG_anti hY,c.anti qd hY⟩
abbrev pf:=yE 5 BlkG
theorem OpsG.to {w:World}{X:Nat->Prop}{v:Value}{xs:List IOp}(h:OpsG w X v xs):mN w w.heap.size v xs:=yE.to h fun _ _ _ h=>by
 obtain⟨h1,h2,h3,j,i,g,av,d,c⟩:=h;exact⟨h1,h2,h3,j,i,g,av,d,wm.to c⟩
theorem pf.to {w:World}{X:Nat->Prop}{v:Value}{xs:List IBlk}(h:pf w X v xs):wX w w.heap.size v xs:=yE.to h fun _ _ _ h=>by
 obtain⟨h1,h2,h3,pv,ov,tv,k,j,i,g,d,c⟩:=h;exact⟨h1,h2,h3,pv,ov,tv,k,j,i,wm.to g,OpsG.to d,vT.to c⟩
theorem qv {α β:Type}{sz:Nat}{f:β->List Value}{g:β->α}{R:World->(Nat->Prop)->Nat->Nat->α->Prop}(y:0<sz)(hf:∀a,(f a).length=sz){w:World}{X:Nat->Prop}{S:Nat}{e:TypeId}{v:Value}{l:List β}(h:w.ownsRow S e sz v l.length (l.flatMap f))(t:∀k,v.ownBlock=some k->¬X k)
 (x:∀q∈l,∀b o,(∀j u,(f q)[j]? =some u->A w b (o+j) u)->R w X b o (g q)):yE sz R w X v (l.map g):=by
 obtain⟨a,c,rfl⟩:=zG h;have hl:=zm h;refine⟨a,c,by rw[Nr],by rw[Nr];exact hl.1,by omega,fun k o hk=>?_⟩;rw[Jr,Oz] at hk;obtain⟨q,d,rfl⟩:=hk;have i:=(Jh.1 d).1;obtain⟨gg,a0,e,hg,hb⟩:=h.form Zo;cases e;refine⟨gg,0,rfl,hb,t gg rfl,x q (Ji d) _ _ fun j u hj=>?_⟩;have m:j<sz:=by rw[<-hf q];exact(Jh.1 hj).1
 rw[Ng]
 exact(h.cellAt (k*sz+j) (by
  have:(k+1)*sz<=l.length*sz:=Qw sz i;rw[Nat.add_mul] at this
  omega)).trans ((uB f sz hf l k q d j m).trans hj)
theorem mF (q:IOp×Value):(zU q).length=6:=rfl
theorem MkIn.blks {w:World}{K:MKC}{X:Nat->Prop}{M:MS}{fv vv:Value}{l:List BM}(h:MkIn w K X M fv vv l):pf w (fun k=>k=K.pm∨K.Z k) fv M.f:=by
 have c:∀k,(k=K.pm∨K.Z k)->K.av X k:=fun k e=>e.elim (fun e=> .inl (by rw[e];exact h.xm)) .inr
 rw[h.fl];refine qv Zd yr h.own (fun k e e2=>?_) (fun q hq b o hc=>?_)
 ·rcases e2 with e2|e2
  ·exact zC h.own h.blk (.inr Zd) (by rw[e,e2])
  ·exact h.env.zx k (h.xf k e) e2
 ·have ok:=h.bok q hq;refine⟨hc 2 _ rfl,hc 3 _ rfl,ok.k64,q.pv,q.ov,q.tv,hc 0 _ rfl,hc 1 _ rfl,hc 4 _ rfl,ok.par.anti abf c,?_,ok.tos.anti qd c⟩;rw[ok.ops];refine qv Zd mF ok.own (fun k e e2=>?_) (fun p hp b2 o2 hc2=>?_)
  ·rcases e2 with e2|e2
   ·exact zC ok.own h.blk (.inr Zd) (by rw[e,e2])
   ·exact h.env.zx k (ok.inX k e) e2
  ·have oa:=ok.arg p hp;exact⟨hc2 0 _ rfl,hc2 1 _ rfl,hc2 2 _ rfl,hc2 3 _ rfl,hc2 4 _ rfl,oa.1,p.2,hc2 5 _ rfl,oa.2.anti abf c⟩
theorem MkIn.putVs {w w3:World}{K:MKC}{X:Nat->Prop}{M:MS}{fv vv vv':Value}{l:List BM}(h:MkIn w K X M fv vv l)(hg:w.grownBy w3 vv.ownBlock){xs:List Int}{n:Nat}(u:n=M.vals.length+xs.length)
 (c:w3.ownsRow K.B 3 1 vv' n (M.vals.map zN++xs.map zN)) (o:∀k,vv'.ownBlock=some k->vv.ownBlock=some k∨w.heap.size<=k) (t:∀x∈xs,I64 x) (hz:M.sz+xs.length<=1000000):
 MkIn (w3.setCell ⟨K.pm,7,none⟩ vv') K (fun k=>X k∨vv'.ownBlock=some k) {M with vals:=M.vals++xs } fv vv' l/\Stp X w (fun k=>X k∨vv'.ownBlock=some k) (w3.setCell ⟨K.pm,7,none⟩ vv'):=by
 subst u;have n1:=zC h.vown h.blk (.inr Zd);have i:=zL hg h.blk n1;have m:w.heap.size<=w3.heap.size:=hg.size
 have hk:∀k,k<w.heap.size->k≠K.pm->vv.ownBlock≠some k->(w3.setCell ⟨K.pm,7,none⟩ vv').heap[k]? =w.heap[k]?:=fun k hk hne hv=>
  (Below.heap_setCell w3 ⟨K.pm,7,none⟩ vv' k hne).trans (hg.block k hk (fun e=>hv e.symm))
 have hs:Stp X w (fun k=>X k∨vv'.ownBlock=some k) (w3.setCell ⟨K.pm,7,none⟩ vv'):=
  ⟨hg.os,hg.tape,hg.output,by simpa using m,fun k hx'=>hx'.elim .inl (fun e=>(o k e).elim (fun e2=> .inl (h.xv k e2)) .inr),fun k hk' hxk=>hk k hk' (fun e=>hxk (by rw[e];exact h.xm)) (fun e=>hxk (h.xv k e))⟩
 have g:∀ {v:Value} {e:TypeId} {sz n:Nat} {xs:List Value},w.ownsRow K.B e sz v n xs->e≠3->e≠128->∀k,v.ownBlock=some k->(w3.setCell ⟨K.pm,7,none⟩ vv').heap[k]? =w.heap[k]?:=fun {v e sz n xs} ho h1 h2 k hk'=>by
  refine hk k (ho.lt k hk').2 (fun e3=>zC ho h.blk (.inr h2) (by rw[hk',e3])) (fun e3=>?_);rcases zo ho h.vown h1 with j|j
  ·rw[j] at hk';cases hk'
  ·exact j (by rw[hk',e3])
 refine⟨⟨?_,yD h.own (g h.own Zd Zd),h.fl,fun q hq=>(h.bok q hq).step hs (g (h.bok q hq).own Zd Zd) (fun _ e=> .inl e),h.apart,?_,?_,.inl h.xm,fun k e=> .inl (h.xf k e),fun k e=> .inr e,fun k e=>e.elim (h.xB k) (fun e2=>(c.lt k e2).1),fun k e=>?_,h.env.step hs (hs.below h.xB h.size),?_,h.lft⟩,hs⟩
 ·rw[zD i];rfl
 ·show(w3.setCell ⟨K.pm,7,none⟩ vv').ownsRow K.B 3 1 vv' (M.vals++xs).length ((M.vals++xs).map zN)
  rw[Jk,Js];exact ownsRow_setCell_other c (fun e=>zC c i (.inr Zd) (by simpa using e)) _
 ·intro y d;rcases Jl.1 d with d|d
  ·exact h.v64 y d
  ·exact t y d
 ·rcases e with e|e
  ·have:=h.xl k e;simp;omega
  ·have:=(c.lt k e).2;simpa using this
 ·unfold MS.sz at *;simp only[Jk];omega
structure MDC where
 sv:Value
 apv:Value
 dv:Value
 bv:Value
 pm:Nat
 pp:Nat
 fb:Nat
 rr:Nat
 B:Nat
def mdK (s:List Int)(C:MDC)(k:Nat):MKC:=⟨xC s k,C.sv,F C.fb (mdN s) (mdN s),C.apv,C.dv,C.bv,C.pm,C.pp,C.B,fun j=>(j=C.fb∨j=C.rr)∨j<C.B⟩
theorem MkEnv.me {w:World}{s:List Int}{C:MDC}{j k:Nat}{X:Nat->Prop}(h:MkEnv w (mdK s C j) X)(hk:k<mdN s):MkEnv w (mdK s C k) X:=
 ⟨h.s,h.fpv,h.prog,h.args,h.data,h.ppX,h.h64,h.len,⟨h.nf.1,hk⟩,h.alt,h.zx,h.zl⟩
theorem MkEnv.anti {w:World}{K:MKC}{X Y:Nat->Prop}(h:MkEnv w K X)(d:∀k,Y k->X k):MkEnv w K Y:=by
 have c:∀k,K.av Y k->K.av X k:=fun k e=>e.elim (fun e=> .inl (d k e)) .inr
 obtain⟨b,e1,e2,e3⟩:=h.data;exact⟨h.s,h.fpv,h.prog,h.args.anti abf c,⟨b,e1,fun e=>e2 (c _ e),e3⟩,fun e=>h.ppX (c _ e),h.h64,h.len,h.nf,h.alt,fun k e=>h.zx k (d k e),h.zl⟩
theorem MkEnv.stepA {w w':World}{K:MKC}{X:Nat->Prop}(h:MkEnv w K X)(c:Stp (K.av X) w (K.av X) w')(hb:Below K.B w w'):MkEnv w' K X:=by
 obtain⟨b,e1,e2,e3⟩:=h.data;exact⟨h.s.below zO hb,h.fpv,c.blk h.prog h.ppX,h.args.step wb c,⟨b,e1,e2,c.blk e3 e2⟩,h.ppX,h.h64,h.len,h.nf,h.alt,h.zx,fun k e=>Jy (h.zl k e) c.size⟩
structure MdAt (s:List Int) (C:MDC) (w0:World) (k:Nat) (wx:World):Prop where
 env:MkEnv wx (mdK s C 0) (fun j=>j=C.pm)
 mkr:∃(me:Value) (cur:Nat) (fv next vv left:Value),wx.heap[C.pm]? =some (.cells #[C.sv,.int .i64 ((zg s k).2:Int),.pointer (some ⟨C.pp,0,none⟩),me,fv,.int .i64 (cur:Int),next,vv,left] 128 (0,0))
 row:∃hs:List Value,hs.length=mdN s/\wx.heap[C.fb]? =some (.cells hs.toArray 39 (0,0))/\∀(j:Nat) (x:List IBlk),(zg s k).1[j]? =some x->∃v:Value,hs[j]? =some v/\pf wx (fun i=>i=C.pm∨((i=C.fb∨i=C.rr)∨i<C.B)) v x
 bel:Below w0.heap.size w0 wx
 hB:C.B=w0.heap.size
 pmB:C.B<=C.pm
 fbB:C.B<=C.fb
 rrB:C.B<=C.rr
theorem MdAt.start {s:List Int}{C:MDC}{w0 wx W:World}{k:Nat}(h:MdAt s C w0 k wx)(hk:k<mdN s){cur next:Nat}(d:(zg s k).2+1+next<=900000)
 (c:O W C.pm (uC (mdK s C k) ⟨(zg s k).2+1,[],cur,next,[],6⟩ (L) (L)) 128)
 (hs:Stp (fun j=>j=C.pm) wx (fun j=>j=C.pm) W):MkIn W (mdK s C k) (fun j=>j=C.pm) ⟨(zg s k).2+1,[],cur,next,[],6⟩ (L) (L) []:=
 ⟨c,Jv _ _ _ _,rfl,fun q hq=>by simp at hq,fun i j qi qj k hi=>by simp at hi,Jv _ _ _ _,fun x hx=>by simp at hx,rfl,fun k e=>by simp[Value.ownBlock] at e,fun k e=>by simp[Value.ownBlock] at e,
  fun k e=>by rw[e];exact h.pmB,fun k e=>by rw[e];exact lt_of_block c,(h.env.step hs (hs.below (fun k e=>by rw[e];exact h.pmB) (by show C.B<=_;rw[h.hB];exact h.bel.size))).me hk,by unfold MS.sz;simp[opsN];omega,⟨by show(6:Int)<=6+_;omega,by show(6:Int)<=6;omega⟩⟩
theorem MdAt.done {s:List Int}{C:MDC}{w0 wx W W2:World}{k:Nat}(h:MdAt s C w0 k wx)(hk:k<mdN s){X:Nat->Prop}{fv vv:Value}{l:List BM}(hm:MkIn W (mdK s C k) X (xR (xC s k) (zg s k).2) fv vv l)(hs:Stp (fun j=>j=C.pm) wx X W)(y:(zg s k).1.length=k)
 (c:W2.heap.size=W.heap.size/\W2.os=W.os/\W2.tape=W.tape/\W2.output=W.output) (g:∀i,i≠C.fb->W2.heap[i]? =W.heap[i]?) (a3:∀cs:Array Value,O W C.fb cs 39->O W2 C.fb (cs.setIfInBounds k fv) 39):MdAt s C w0 (k+1) W2:=by
 obtain⟨row,hrl,o,u⟩:=h.row;have m:¬(C.fb=C.pm):=fun e=>h.env.zx C.pm rfl (.inl (.inl e.symm))
 have b0:¬X C.fb:=fun e=>hm.env.zx C.fb e (.inl (.inl rfl))
 have d:Stp ((mdK s C k).av fun j=>j=C.pm) W ((mdK s C k).av fun j=>j=C.pm) W2:=⟨c.2.1,c.2.2.1,c.2.2.2,by rw[c.1];exact Je _,fun k e=> .inl e,fun i _ hx=>g i (fun e=>hx (.inr (.inl (.inl e))))⟩
 have a6:C.B<=wx.heap.size:=by rw[h.hB];exact h.bel.size
 have a5:Below C.B wx W:=hs.below (fun k e=>by rw[e];exact h.pmB) a6;have a8:C.B<=C.fb:=h.fbB;have t:Below C.B W W2:=⟨c.2.1,c.2.2.1,c.2.2.2,by rw[c.1];exact Je _,fun i hi=>g i Zo⟩
 have a0:MkEnv W2 (mdK s C 0) (fun j=>j=C.pm):=((hm.env.anti (fun i e=>by rw[e];exact hm.xm)).stepA d t).me (by have:=hk;omega);have a2:C.fb<wx.heap.size:=lt_of_block o;refine⟨a0,?_,?_,?_,h.hB,h.pmB,h.fbB,h.rrB⟩
 ·have h1:=hm.blk;exact⟨_,_,_,_,_,_,(g C.pm (fun e=>m e.symm)).trans h1⟩
 ·have w:O W C.fb row.toArray 39:=(hs.kept _ a2 (fun e=>m e)).trans o;refine⟨row.set k fv,by rw[Nd];exact hrl,by rw[a3 _ w];simp,fun j x hj=>?_⟩;have e1:(zg s (k+1)).1=(zg s k).1++ [(xR (xC s k) (zg s k).2).f]:=rfl;rw[e1] at hj
  by_cases b1:j<k
  ·rw[Np Zo] at hj;obtain⟨v,hv,a4⟩:=u j x hj;refine⟨v,by rw[Ns Zo];exact hv,?_⟩;have h2:pf W ((mdK s C k).av X) v x:=yE.step (X:=(mdK s C k).av fun j=>j=C.pm) xq a4 (hs.av _);have h3:pf W ((mdK s C k).av fun j=>j=C.pm) v x:=h2.anti jG (fun i e=>e.elim (fun e=> .inl (by rw[e];exact hm.xm)) .inr);exact h3.step xq d
  ·have a1:j=k:=by
    have:=(Jh.1 hj).1;simp at this;omega
   subst a1;rw[Nc Zo,y,Qy] at hj;cases hj;refine⟨fv,by rw[Nn Zo],?_⟩;have h2:pf W ((mdK s C j).av fun i=>i=C.pm) fv (xR (xC s j) (zg s j).2).f:=hm.blks;exact h2.step xq d
 ·have e:C.B=w0.heap.size:=h.hB;have:=h.bel.trans (B:=w0.heap.size) (by rw[<-e];exact a5.trans t);exact this
theorem tf {w:World}{pm pos B:Nat}{cs:Array Value}{s:List Int}{sv:Value}(hb:O w pm cs 128)(t:cs[0]? =some sv)(h1:cs[1]? =some (U pos))(hs:zY w B sv s){n:Nat}(l:0<n)(g:n<=1000000)(y:pos+1<=1000000):
 G 55 #[Q pm,U n] w fun e w'=>e=.returned (U (tk0 s pos n:Nat))/\O w' pm (cs.setIfInBounds 1 (U ((pos+1:Nat):Int))) 128/\Stp (fun j=>j=pm) w (fun j=>j=pm) w':=by
 have c0:=zA hb t;have c1:=zA hb h1;obtain⟨sa,sc,i,a1,a0⟩:=hs.form;rw[i] at c0 hs;have f1:D w pm 1:=zE hb;have a2:=lt_of_block hb
 have d:=Ja (show ∀n,O ((w.drewN n).setCell ⟨pm,1,none⟩ (U ((pos:Int)+1))) pm (cs.setIfInBounds 1 (U ((pos+1:Nat):Int))) 128/\Stp (fun j=>j=pm) w (fun j=>j=pm) ((w.drewN n).setCell ⟨pm,1,none⟩ (U ((pos:Int)+1))) from fun n=>
  ⟨zD (w:=w.drewN n) hb _,⟨rfl,rfl,rfl,by simp,fun _ h=> .inl h,fun k hk c=>Below.heap_setCell _ _ _ _ (fun e=>c (by rw[e]))⟩⟩)
 have hp:(pos:Int)+1<=1000000:=Zo;clear hb t h1
 by_cases m:pos<s.length
 ·obtain⟨x,c⟩:∃x,s[pos]? =some x:=⟨_,Jd m⟩
  obtain⟨b,o,rfl,hb,hc,h64⟩:=hs.get c;rw[Nk] at hc;have hI:(pos:Int)<(s.length:Int):=Zo;have hv:tk0 s pos n=(x%(n:Int)).toNat:=by unfold tk0;rw[Jj,c];rfl
  have e1:=rK x n l g;rw[hv];have u:=Ja e1;clear hs c hb e1 hv;go_enter Tryz.func55,Tryz.ntmps55;go_wp2;go_quiet (fail);go_wp2;go_quiet (fail);go_wp2;go_ret;exact⟨zh u.out,(d.out _).1,(d.out _).2⟩
 ·have hI:¬(pos:Int)<(s.length:Int):=Zo;have hv:tk0 s pos n=((0:Int)%(n:Int)).toNat:=by unfold tk0;rw[Jj,Of Zo];rfl
  have e1:=rK 0 n l g;rw[hv];have u:=Ja e1;clear hs hv e1;go_enter Tryz.func55,Tryz.ntmps55;go_wp2;go_quiet (fail);go_wp2;go_ret;exact⟨zh Zs,(d.out _).1,(d.out _).2⟩
theorem eE {p:IProg}{E:ME}(hp:EnvOk p E)(pos:Nat):aaz p (xD E pos) (fun i=>i=0) (fun _=>False) [0]:=by
 have g:=eP hp.alt E.me
 show MInv p [wJ (tkV E ⟨pos,[],0,0,[],6⟩ 3*10) (E.args.getD E.me 0).toNat] 0 (tkV E ⟨pos,[],0,0,[],6⟩ 3*10+(E.args.getD E.me 0).toNat) (wJ (tkV E ⟨pos,[],0,0,[],6⟩ 3*10) (E.args.getD E.me 0).toNat).params _ _ _
 generalize tkV E ⟨pos,[],0,0,[],6⟩ 3*10=nx;generalize (E.args.getD E.me 0).toNat=n at *
 have c:∀(i:Nat) (b:IBlk),[wJ nx n][i]? =some b->i=0/\b=wJ nx n:=fun i b h=>by
  cases i with
  |zero=>cases h;exact⟨rfl,rfl⟩
  |succ i=>simp at h
 have d:aaI [wJ nx n]=(List.range n).map fun k=>((nx+k:Nat):Int):=by
  unfold aaI abu wJ;simp[abo]
 refine⟨rfl,by show 0<1;decide,?_,?_,?_,?_,?_,?_,?_,?_,?_,?_⟩
 ·intro i u hi m;have:=(Jh.1 hi).1;simp at this;omega
 ·intro i b hb j o ho;obtain⟨rfl,rfl⟩:=c i b hb;simp[wJ] at ho
 ·intro i b hb l;exact absurd (c i b hb).1 l
 ·intro i b hb _;obtain⟨rfl,rfl⟩:=c i b hb;rfl
 ·intro i hi;rw[hi]
  show 0<1
  decide
 ·intro v hv b hb;obtain⟨_,rfl⟩:=c 0 b hb;exact⟨0,-1,⟨_,rfl,.inl ⟨rfl,hv⟩⟩,.refl _,fun _=>by show(-1:Int)<0;decide⟩
 ·rw[d];refine List.pairwise_map.2 (List.nodup_range.imp fun hab e=>hab ?_);omega
 ·intro v hv;rw[d] at hv;obtain⟨k,hk,rfl⟩:=Nu.1 hv;have:=Ol.1 hk;omega
 ·intro i hi _;have:i=0:=by simp at hi;exact hi
  subst this;exact .zero
 ·intro i b hb;obtain⟨rfl,rfl⟩:=c i b hb;exact⟨by rw[sd];exact g,by show 0<=4;decide⟩
theorem gJ {p:IProg}{E:ME}(hp:EnvOk p E)(pos:Nat):∃pl,ack p (xR E pos).f (xR E pos).next pl/\∃b0,(xR E pos).f[0]? =some b0/\b0.params.length=(E.args.getD E.me 0).toNat:=by
 have l:=eE hp pos;obtain⟨d,h1⟩:=abq hp 2 (xD E pos) _ _ [0] l rfl (fun e=>e) (fun i e=>e.elim);obtain⟨pl2,h2⟩:=abq hp 1 (zp E 2 (xD E pos)) _ _ d h1.inv (.inr rfl) h1.np (fun i e=>e.elim);have h3:=h1.trans h2 (afw h1.ext) l.lt;have hb:(xD E pos).f[0]? =some (wJ (tkV E ⟨pos,[],0,0,[],6⟩ 3*10) (E.args.getD E.me 0).toNat):=rfl;have c:=h3.ext;have hi:aaz p (zp E 1 (zp E 2 (xD E pos))) (fun i=>i=(zp E 1 (zp E 2 (xD E pos))).cur) (fun _=>False) pl2:=h3.inv.weak (fun i=>⟨fun e=>e.elim (fun e=>absurd e.1 e.2) (fun e=>e),.inr⟩) (fun i e=>e);unfold xR;simp only;generalize zp E 1 (zp E 2 (xD E pos))=M1 at *
 have fin:∀(M:MS) (t:ITerm),aaz p M (fun i=>i=M1.cur) (fun _=>False) pl2->M.cur=M1.cur->i6 (xD E pos).f M.f->gR t=true->t.to=[]->(∀v∈mE t,v∈M.vals)->
  ∃pl,ack p (M.endB t).f (M.endB t).next pl/\∃b0,(M.endB t).f[0]? =some b0/\b0.params.length=(E.args.getD E.me 0).toNat:=fun M t hM hc hxx hk ht hv=>by
  have k:(fun i=>i=M1.cur) M.cur:=hc;have o:=hM.endB (t:=t) k hk (by rw[ht];show 0<=4;decide) (fun e he=>by rw[ht] at he;cases he) (fun v h=>hM.at (hv v h)) (P':=fun _=>False) (fun e=>e) (fun i e=> .inl e);have m:=hxx.trans (xd hM k t);obtain⟨b',j,g,_⟩:=m _ _ hb;refine⟨pl2,⟨_,_,o.weak (fun i=>⟨fun e=>e.2 (by rw[hc];exact e.1),fun e=>e.elim⟩) (fun i e=>e)⟩,b',j,by rw[g,sd]⟩
 split
 ·exact fin M1.tick ⟨5,0,[]⟩ hi rfl c rfl rfl (fun v hv=>by cases hv)
 split
 ·exact fin M1.tick ⟨4,-1,[]⟩ hi rfl c rfl rfl (fun v hv=>by cases hv)
 ·obtain⟨a1,a2⟩:=MInv.any (M:=M1.tick) E hi rfl
  exact fin (zJ E M1.tick).2 ⟨4,(zJ E M1.tick).1,[]⟩ a1 (yU E M1.tick).cur (c.trans (aaW E M1.tick)) rfl rfl (fun v hv=>by
   rcases gL hv with rfl|hv
   ·exact a2
   ·cases hv)
theorem jm {E:ME}(c:∀x∈E.args,0<=x/\x<4)(pos:Nat):(xR E pos).sz<=pos+2869:=by
 have h1:=(rx c pos).sz;have h2:=sQ c pos;omega
theorem qJ (s:List Int):∀(n k:Nat),k<n->(zg s n).1[k]? =some (xR (xC s k) (zg s k).2).f
 |n+1,k,h=>by
  show((zg s n).1++ [_])[k]? =_
  by_cases hk:k<n
  ·rw[Np (by rw[yx];exact hk)];exact qJ s n k hk
  ·have e:k=n:=Zo;subst e;rw[Nc (by rw[yx];exact Je _),yx,Qy];rfl
theorem qA (s:List Int):(uR s).funcs.length=mdN s:=by
 unfold uR;simp only
 split
 ·rw[Nd,yx]
 ·exact yx s _
theorem kz (s:List Int){k:Nat}(hk:k<mdN s):(uR s).funcs[k]? =some []/\qV s=true/\k=mdN s-1∨(uR s).funcs[k]? =some (xR (xC s k) (zg s k).2).f:=by
 have h:=qJ s (mdN s) k hk;unfold uR;simp only
 split
 ·rename_i c
  by_cases e:k=mdN s-1
  ·left;subst e;exact⟨Nn (by rw[yx];exact hk),c,rfl⟩
  ·right;rw[Ns (fun e2=>e e2.symm)];exact h
 ·exact .inr h
theorem gi (s:List Int)(k:Nat):EnvOk (uR s) (xC s k):=⟨qA s,rfl,rfl,xy s _⟩
theorem gP (s:List Int)(k:Nat):0<=(yS s (mdN s)).getD k 0/\(yS s (mdN s)).getD k 0<4:=by
 rw[Jj]
 cases c:(yS s (mdN s))[k]? with
 |none=>simp
 |some x=>exact xy s _ x (Ji c)
theorem lz (s:List Int)(k:Nat)(hk:k<mdN s):(xR (xC s k) (zg s k).2).sz<=15000:=by
 have h1:=tU s k;have h2:=jm (E:=xC s k) (xy s _) (zg s k).2;have:=sm s;omega
theorem no (s:List Int):∀n,0<n->(yS s n).getD 0 0=0
 |1,_=>rfl
 |n+2,_=>by
  have h:=no s (n+1) Zo;rw[Jj] at h ⊢
  show((yS s (n+1)++ [_])[0]?).getD 0=0
  rw[Np (by rw[yY];omega)];exact h
theorem eH (s:List Int):sR (uR s)=0:=by
 have m:=sm s;have hl:=qA s;have l:=no s (mdN s) Zo
 have k:lf (uR s)=true:=by
  have hb:sG.size=4096:=by
   unfold sG ByteArray.size;simp only[List.size_toArray,Nr,Un]
  unfold lf;rw[Jm];refine⟨?_,by show ig 1 am=true;decide⟩
  show [sG].all _=true
  simp[hb]
 have g:∀f:Nat,f<mdN s->(yS s (mdN s)).getD f 0=0->yw (uR s) (f:Int)=true:=fun f hf h=>by
  unfold yw;rw[Jm,Jm,decide_eq_true_eq,decide_eq_true_eq,beq_iff_eq,hl,Ni];exact⟨by omega,by omega,h⟩
 unfold sR;rw[if_neg (by rw[hl];show ¬(2000<mdN s∨512<3∨64<1);omega),if_neg (by rw[hl];show ¬((yS s (mdN s)).length≠mdN s);rw[yY];simp),if_neg,if_neg,if_neg (by rw[k];decide)]
 ·rintro(e|⟨e1,e2⟩)
  ·have:=g 0 Zo l;have e':yw (uR s) ((0:Nat):Int)=false:=e;rw[this] at e';cases e'
  ·have d:vw s≠-1:=e1;have c:yw (uR s) (vw s)=false:=e2;unfold vw at d c
   split at c
   ·rename_i i
    have j:=i.1;unfold oJ at j;simp only[Jm,decide_eq_true_eq] at j;rw[g _ Zo j.2] at c;cases c
   ·rename_i i
    rw[if_neg i] at d;exact d rfl
 ·have:∀x∈yS s (mdN s),tX x=true:=fun x hx=>by
   have:=xy s _ x hx;unfold tX;rw[Jm,decide_eq_true_eq,decide_eq_true_eq];omega
  intro e;have e':(yS s (mdN s)).all tX=false:=e;rw[Oe.2 this] at e';cases e'
theorem fm (s:List Int):vC (uR s)=0:=by
 unfold vC;rw[if_neg (by rw[eH];simp),if_pos];rw[Oe];intro k hk;rw[Ol,qA] at hk;rcases kz s hk with⟨h,_⟩|h
 ·unfold yi;rw[Jj,h];rfl
 ·obtain⟨pl,h1,b0,h2,h3⟩:=gJ (gi s k) (zg s k).2;have c:=lz s k hk;refine h1.function (by unfold MS.sz at c;omega) h h2 ?_;rw[h3]
  show(((yS s (mdN s)).getD k 0).toNat:Int)=(yS s (mdN s)).getD k 0
  exact Oa (gP s k).1
end Go.Proofs.YtoahcpkibpomcaaGreat
