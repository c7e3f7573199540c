/- Part of a proof. -/
import Derived.Test.YtoahcpkibpomcaaGreatGLift8
set_option linter.all false
set_option maxHeartbeats 1000000
set_option maxRecDepth 100000
namespace Go.Proofs.YtoahcpkibpomcaaGreat
variable {t:ITerm}{dp g oa ob:Int}{w w':World}{k on vb:Nat}{K:MK}{m:Mach}
theorem acV{blocks:List IBlk}(h:aw blocks t=true):bS blocks t:=by
 unfold aw at h;rw[Jm,Oe] at h;obtain⟨h1,h2⟩:=h
 have hk:t.kind=1/\t.to.length=1∨t.kind=2/\t.to.length=2∨t.kind=3/\1<=t.to.length∨t.kind=4∨t.kind=5:=by
  by_cases k1:t.kind=1
  ·rw[if_pos k1] at h2;simp only[Jm,decide_eq_true_eq] at h2;exact .inl ⟨k1,h2.1⟩
  by_cases k2:t.kind=2
  ·rw[if_neg k1,if_pos k2] at h2;simp only[decide_eq_true_eq] at h2;exact .inr (.inl ⟨k2,h2⟩)
  by_cases k3:t.kind=3
  ·rw[if_neg k1,if_neg k2,if_pos k3] at h2;simp only[decide_eq_true_eq] at h2;exact .inr (.inr (.inl ⟨k3,h2⟩))
  by_cases k4:t.kind=4
  ·exact .inr (.inr (.inr (.inl k4)))
  by_cases k5:t.kind=5
  ·exact .inr (Zi k5)
  rw[if_neg k1,if_neg k2,if_neg k3,if_neg k4,if_neg k5] at h2;cases h2
 refine⟨by omega,by omega,by omega,by omega,fun e he=>?_⟩;have:=h1 e he;unfold uM at this;simp only[Jm,decide_eq_true_eq] at this;omega
theorem abK (M:MS)(n:Nat):(M.block n).f[M.f.length]? =some (wJ M.next n):=by
 show(M.f++ [_])[M.f.length]? =_
 rw[Nc (Je _),Qy];rfl
theorem abg (M:MS)(n:Nat):aeI M.f (M.block n).f:=abj _ _
theorem gL{v:Int}(h:v∈mE t):v=t.a∨v∈(t.to.map (·.args)).flatten:=by
 unfold mE at h;rcases Jl.1 h with h|h
 ·split at h
  ·exact .inl (Jo.1 h)
  ·cases h
 ·exact .inr h
theorem gI {p:IProg}{E:ME}{g:MS->MS}(a4:aeT p g){n:Nat}(hn:2<=n/\n<=4):aeT p (xi E g n):=fun M O P pl h hO hnP hPO=>by
 obtain⟨a1,a2⟩:=h.any E hO;have ag:=yU E M;have ax:=aaW E M;have ac:(zJ E M).2.cur=M.cur:=ag.cur;have al:(zJ E M).2.f.length=M.f.length:=ag.len;have av:=ag.pre;unfold xi;simp only;generalize c5:zJ E M=c at *;obtain⟨x,M0⟩:=c;simp only at a1 a2 ac al av ax ⊢;obtain⟨b1,b2,b3,b4,b5⟩:=gV n M0 O P pl a1;have bl:=tB n M0;have b8:M0.cur<M0.f.length:=a1.curl;have c1:aaz p ((xE n M0).block 1) _ _ _:=b1.block (n:=1) (u:=M0.cur) (by rw[bl];omega) Zd;have a7:(pl++List.replicate n M0.cur)++ [M0.cur]=pl++List.replicate (n+1) M0.cur:=by rw[List.replicate_succ',Nv]
 rw[a7] at c1;have c4:pl.length=M0.f.length:=a1.len
 have j:∀i,M0.f.length<=i->i<=M0.f.length+n->(pl++List.replicate (n+1) M0.cur)[i]? =some M0.cur:=fun i h1 h2=>by
  rw[Nc Zo,Nm,if_pos Zo]
 have a5:((xE n M0).block 1).f[M0.f.length+n]? =some (wJ (xE n M0).next 1):=by rw[<-bl];exact abK _ 1
 have cx:aeI M0.f ((xE n M0).block 1).f:=b4.trans (abg _ 1);have cc:((xE n M0).block 1).cur=M0.cur:=b2;have cv:((xE n M0).block 1).vals=M0.vals:=b3
 have b7:∀k,k<n->∃b,((xE n M0).block 1).f[M0.f.length+k]? =some b/\b.params.length=0:=fun k hk=>by
  obtain⟨b,hb,y⟩:=b5 k hk;obtain⟨b',c3,c0,_⟩:=abg (xE n M0) 1 _ _ hb;exact⟨b',c3,by rw[c0];exact y⟩
 have a3:(fun i=>(O i∨(M0.f.length<=i/\i<M0.f.length+n))∨i=(xE n M0).f.length) ((xE n M0).block 1).cur:=.inl (.inl (by rw[cc,ac];exact hO));have a6:¬P M0.cur:=by rw[ac];exact hnP
 generalize (xE n M0).block 1=M2 at *
 have e1:=c1.endB (t:=⟨if 2<n then 3 else 2,x,xk M0.f.length n⟩) a3 (by
  have hl:(xk M0.f.length n).length=n:=by unfold xk;simp
  unfold gR;simp only[hl]
  by_cases h2:2<n
  ·rw[if_pos h2];simp;omega
  ·rw[if_neg h2];simp;omega) (by unfold xk;simp;omega) (fun e he=>by
  obtain⟨k,hk,rfl⟩:=gH he;obtain⟨b,hb,y⟩:=b7 k hk
  exact⟨M0.f.length+k,M0.cur,b,rfl,by omega,hb,by rw[y];rfl,j _ Zo Zo,by rw[cc];exact .refl _⟩) (fun v hv=>by
  have:v∈M2.vals:=by
   rcases gL hv with rfl|hv
   ·rw[cv];exact a2
   ·simp only[gm] at hv;cases hv
  exact c1.at this) (P':=fun i=>P i∨(0=0/\i=M0.f.length+n)) (by
  rw[cc];rintro((e|e)|e)
  ·exact a6 e
  ·omega
  ·rw[bl] at e;omega) (fun i e=>by
  rcases e with(e|e)|e
  ·exact .inl (.inl e)
  ·refine .inr ⟨⟨((M0.f.length+(i-M0.f.length):Nat):Int),[]⟩,?_,by show((M0.f.length+(i-M0.f.length):Nat):Int)=_;omega⟩;unfold xk;exact Nu.2 ⟨i-M0.f.length,Ol.2 Zo,rfl⟩
  ·exact .inl (.inr ⟨rfl,by rw[e,bl]⟩))
 have ex:=cx.trans (xd c1 a3 ⟨if 2<n then 3 else 2,x,xk M0.f.length n⟩);have ev:(M2.endB ⟨if 2<n then 3 else 2,x,xk M0.f.length n⟩).vals=M0.vals:=cv;have ec:(M2.endB ⟨if 2<n then 3 else 2,x,xk M0.f.length n⟩).cur=M0.cur:=cc;obtain⟨bj',w,o,_⟩:=(xd c1 a3 ⟨if 2<n then 3 else 2,x,xk M0.f.length n⟩) _ _ a5;rw[ev];generalize M2.endB ⟨if 2<n then 3 else 2,x,xk M0.f.length n⟩=M3 at *
 have e2:aaz p M3 (fun i=>(O i/\i≠M0.cur)∨(M0.f.length+0<=i/\i<=M0.f.length+n)) (fun i=>P i∨(0=0/\i=M0.f.length+n)) (pl++List.replicate (n+1) M0.cur):=e1.weak (fun i=>by
  rw[cc,bl];constructor
  ·rintro⟨(e|e)|e,e2⟩
   ·exact .inl ⟨e,e2⟩
   ·exact .inr Zo
   ·exact .inr Zo
  ·rintro(e|e)
   ·exact⟨.inl (.inl e.1),e.2⟩
   ·by_cases e3:i=M0.f.length+n
    ·exact⟨.inr e3,by omega⟩
    ·exact⟨.inl (.inr Zo),by omega⟩) (fun i e=>e)
 have d:∀v∈M0.vals,∃q,Kn M3.f (pl++List.replicate (n+1) M0.cur) v M0.cur q:=fun v hv=>by
  obtain⟨b,hb⟩:=a1.get;exact⟨_,(a1.known v hv b hb).ext ex (Qb _ _) (Og _)⟩
 obtain⟨pl',d1,d2,d3,d4⟩:=fA (E:=E) (n:=n) (V:=M0.vals) a4 (fun i hi=>by rw[al];exact h.lt i hi) hPO a6 b8 n 0 M3 _ Zo e2 ev d j ⟨bj',w,by rw[o];simp[wJ]⟩;generalize uV E g M0.f.length (M0.f.length+n) M0.vals.length n 0 M3=M4 at *;obtain⟨bk,l,b6,_⟩:=d3 _ _ w;have m:bk.params=[((xE n M0).next:Int)]:=by rw[b6,o];simp[wJ]
 have b0:((M4.f.getD (M0.f.length+n) ⟨[],[],⟨0,0,[]⟩⟩).params).getD 0 0=((xE n M0).next:Int):=by
  have e:M4.f.getD (M0.f.length+n) ⟨[],[],⟨0,0,[]⟩⟩=bk:=by rw[Jj,l];rfl
  rw[e,m];rfl
 rw[b0];have b9:pl'[M0.f.length+n]? =some M0.cur:=aaS d1 (j _ Zo Zo);have a0:Abv pl' M0.cur (M0.f.length+n):=.up b9 Zo (.refl _);have c2:M0.f.length+n<M4.f.length:=(Jh.1 l).1;refine⟨pl',(Qb _ _).trans d1,?_,by rw[<-ac];exact a0,.inr (by show M.f.length<=M0.f.length+n;omega),fun e=>?_,?_,ax.trans (ex.trans d3)⟩
 ·have f1:MInv p M4.f (M0.f.length+n) M4.next (M4.vals++ [((xE n M0).next:Int)]) _ _ pl':=d2.goto c2 (fun v hv b hb=>by
   rcases Jl.1 hv with hv|hv
   ·rw[d4] at hv;obtain⟨q,hq⟩:=d v hv;exact d2.below (hq.ext d3 d1 (Og _)) a0 Zo
   ·rw[Jo] at hv;subst hv;rw[l] at hb;cases hb
    exact⟨M0.f.length+n,-1,⟨bk,l,.inl ⟨rfl,by rw[m];simp⟩⟩,.refl _,fun _=>by omega⟩)
  refine f1.weak (fun i=>?_) (fun i e=>?_)
  ·rw[<-ac];constructor
   ·rintro(e|e)
    ·exact .inl e
    ·exact .inr (show i=M0.f.length+n by omega)
   ·rintro(e|e)
    ·exact .inl e
    ·have e':i=M0.f.length+n:=e;exact .inr Zo
  ·rcases e with e|⟨e,_⟩
   ·exact e
   ·omega
 ·have e':P (M0.f.length+n):=e;have:=h.lt _ (hPO _ e');omega
 ·show M.vals<+:M4.vals++_
  rw[d4];exact av.trans (Qb _ _)
theorem gQ (a:Int)(b:Int)(l:List Int):mE ⟨1,a,[⟨b,l⟩]⟩=l:=by unfold mE ut;simp
theorem ee {p:IProg}{E:ME}{a3:MS->MS}(c4:aeT p a3):aeT p (tH E a3):=fun M O P pl h hO hnP hPO=>by
 have d3:=h.lt;obtain⟨n1,n2⟩:=MInv.num (M:=M.tick) h hO (tkV E M 5);have ng:=wT M.tick (tkV E M 5);have d2:O (M.tick.num (tkV E M 5)).cur:=by rw[ng.cur];exact hO
 obtain⟨a1,a2⟩:=n1.any E d2;have ag:=yU E (M.tick.num (tkV E M 5));have ax:aeI M.f (zJ E (M.tick.num (tkV E M 5))).2.f:=(abB M.tick _).trans (aaW E _);have ac:(zJ E (M.tick.num (tkV E M 5))).2.cur=M.cur:=ag.cur.trans ng.cur;have al:(zJ E (M.tick.num (tkV E M 5))).2.f.length=M.f.length:=ag.len.trans ng.len;have av:M.vals<+:(zJ E (M.tick.num (tkV E M 5))).2.vals:=ng.pre.trans ag.pre;have an:(M.next:Int)∈(zJ E (M.tick.num (tkV E M 5))).2.vals:=ag.pre.subset n2;unfold tH;simp only;generalize zJ E (M.tick.num (tkV E M 5))=x at *;obtain⟨xv,M0⟩:=x;simp only at a1 a2 ac al av ax an ⊢;clear n1 n2 ng d2 ag;have f5:M0.cur<M0.f.length:=a1.curl;have b1:aaz p (M0.block 2) _ _ _:=a1.block (n:=2) (u:=M0.cur) a1.curl Zd;have l1:(M0.block 2).f.length=M0.f.length+1:=yz M0 2;have b2:aaz p ((M0.block 2).block 0) _ _ _:=b1.block (n:=0) (u:=M0.f.length) (by rw[l1];omega) Zd;have l2:((M0.block 2).block 0).f.length=M0.f.length+2:=by rw[yz,l1]
 have b3:aaz p (((M0.block 2).block 0).block 0) _ _ _:=b2.block (n:=0) (u:=M0.f.length) (by rw[l2];omega) Zd;have l3:(((M0.block 2).block 0).block 0).f.length=M0.f.length+3:=by rw[yz,l2]
 rw[l1,l2] at b3
 have g0:(((M0.block 2).block 0).block 0).f[M0.f.length]? =some (wJ M0.next 2):=by
  have h1:=abK M0 2;obtain⟨y,hy,_⟩:=abg (M0.block 2) 0 _ _ h1
  show(((M0.block 2).f++ [_])++ [_])[M0.f.length]? =_
  rw[Np (by simp[l1];omega),Np (by rw[l1];omega)];exact h1
 have g1:(((M0.block 2).block 0).block 0).f[M0.f.length+1]? =some (wJ (M0.block 2).next 0):=by
  have h1:=abK (M0.block 2) 0;rw[l1] at h1
  show(((M0.block 2).block 0).f++ [_])[M0.f.length+1]? =_
  rw[Np (by rw[l2];omega)];exact h1
 have g2:(((M0.block 2).block 0).block 0).f[M0.f.length+2]? =some (wJ ((M0.block 2).block 0).next 0):=by
  have h1:=abK ((M0.block 2).block 0) 0;rw[l2] at h1;exact h1
 have bx:aeI M0.f (((M0.block 2).block 0).block 0).f:=((abg _ _).trans (abg _ _)).trans (abg _ _);have bc:(((M0.block 2).block 0).block 0).cur=M0.cur:=rfl;have bv:(((M0.block 2).block 0).block 0).vals=M0.vals:=rfl;have j:pl.length=M0.f.length:=a1.len;have d8:((pl++ [M0.cur])++ [M0.f.length])++ [M0.f.length]=pl++ [M0.cur,M0.f.length,M0.f.length]:=by simp
 rw[d8] at b3;have q0:(pl++ [M0.cur,M0.f.length,M0.f.length])[M0.f.length]? =some M0.cur:=by rw[<-j];exact fH (i:=0) rfl
 have q1:(pl++ [M0.cur,M0.f.length,M0.f.length])[M0.f.length+1]? =some M0.f.length:=by
  have:=fH (l:=pl) (m:=[M0.cur,M0.f.length,M0.f.length]) (i:=1) rfl;rw[j] at this;exact this
 have q2:(pl++ [M0.cur,M0.f.length,M0.f.length])[M0.f.length+2]? =some M0.f.length:=by
  have:=fH (l:=pl) (m:=[M0.cur,M0.f.length,M0.f.length]) (i:=2) rfl;rw[j] at this;exact this
 have a0:(fun i=>((O i∨i=M0.f.length)∨i=M0.f.length+1)∨i=M0.f.length+2) (((M0.block 2).block 0).block 0).cur:=.inl (.inl (.inl (by rw[bc,ac];exact hO)));have d1:¬P M0.cur:=by rw[ac];exact hnP
 have a5:∀i,P i->i<M0.f.length:=fun i hi=>by rw[al];exact d3 i (hPO i hi)
 have d9:∀i,O i->i<M0.f.length:=fun i hi=>by rw[al];exact d3 i hi
 generalize ((M0.block 2).block 0).block 0=MB at *;generalize M0.f.length=hd at *;have o:pl<+:pl++ [M0.cur,hd,hd]:=Qb _ _;generalize (pl++ [M0.cur,hd,hd])=pl0 at *
 have e1:=b3.endB (t:=⟨1,0,[⟨(hd:Nat),[(M.next:Int),xv]⟩]⟩) a0 rfl (by show 1<=4;decide) (fun e d=>by
  rw[Jo] at d;subst d
  exact⟨hd,M0.cur,_,rfl,by omega,g0,by simp[wJ],q0,by rw[bc];exact .refl _⟩) (fun v hv=>by
  rw[gQ] at hv;refine b3.at ?_;rw[bv];rcases Jq.1 hv with rfl|hv
  ·exact an
  ·rw[Jo] at hv;subst hv;exact a2) (P':=fun i=>P i∨(i=hd+1∨i=hd+2)) (by
  rw[bc];rintro(((e|e)|e)|e)
  ·exact d1 e
  ·omega
  ·omega
  ·omega) (fun i e=>by
  rcases e with((e|e)|e)|e
  ·exact .inl (.inl e)
  ·exact .inr ⟨_,Jo.2 rfl,by subst e;rfl⟩
  ·exact .inl (.inr (.inl e))
  ·exact .inl (.inr (.inr e)))
 have d5:=bx.trans (xd b3 a0 ⟨1,0,[⟨(hd:Nat),[(M.next:Int),xv]⟩]⟩);obtain⟨y0,b5,b4,_⟩:=xd b3 a0 ⟨1,0,[⟨(hd:Nat),[(M.next:Int),xv]⟩]⟩ _ _ g0;obtain⟨y1,c7,b0,_⟩:=xd b3 a0 ⟨1,0,[⟨(hd:Nat),[(M.next:Int),xv]⟩]⟩ _ _ g1;obtain⟨y2,c5,a7,_⟩:=xd b3 a0 ⟨1,0,[⟨(hd:Nat),[(M.next:Int),xv]⟩]⟩ _ _ g2;have d6:(MB.endB ⟨1,0,[⟨(hd:Nat),[(M.next:Int),xv]⟩]⟩).vals=M0.vals:=bv;generalize MB.endB ⟨1,0,[⟨(hd:Nat),[(M.next:Int),xv]⟩]⟩=M2 at *;rw[bc] at e1;have b6:y0.params=[(M0.next:Int),((M0.next+1:Nat):Int)]:=by rw[b4];simp[wJ,List.range_succ]
 have e9:y1.params.length=0:=by rw[b0];simp[wJ]
 have e8:y2.params.length=0:=by rw[a7];simp[wJ]
 clear b4 b0 a7 g0 g1 g2;have l0:hd<M2.f.length:=(Jh.1 b5).1;have f7:hd+1<M2.f.length:=(Jh.1 c7).1;have f6:hd+2<M2.f.length:=(Jh.1 c5).1;have k:Abv pl0 M0.cur hd:=.up q0 Zo (.refl _)
 have w:∀v∈M0.vals,∃q,Kn M2.f pl0 v M0.cur q:=fun v hv=>by
  obtain⟨b,hb⟩:=a1.get;exact⟨_,(a1.known v hv b hb).ext d5 o (Og _)⟩
 have c3:aaz p M2 (fun i=>(O i/\i≠M0.cur)∨(hd<=i/\i<=hd+2)) (fun i=>P i∨(i=hd+1∨i=hd+2)) pl0:=e1.weak (fun i=>by
  constructor
  ·rintro⟨((e|e)|e)|e,e2⟩
   ·exact .inl ⟨e,e2⟩
   ·exact .inr Zo
   ·exact .inr Zo
   ·exact .inr Zo
  ·rintro(e|e)
   ·exact⟨.inl (.inl (.inl e.1)),e.2⟩
   ·refine⟨?_,by omega⟩
    by_cases e1:i=hd
    ·exact .inl (.inl (.inr e1))
    by_cases e2:i=hd+1
    ·exact .inl (.inr e2)
    ·exact .inr Zo) (fun i e=>e)
 have a6:∀ {f:List IBlk} {q:List Nat},aeI M2.f f->∀v∈y0.params,Kn f q v hd 0:=fun hf v hv=>by
  obtain⟨z,hz,e5,_⟩:=hf _ _ b5;exact⟨hd,-1,⟨z,hz,.inl ⟨rfl,by rw[e5];exact hv⟩⟩,.refl _,fun _=>by decide⟩
 have d0:(M0.next:Int)∈y0.params:=by rw[b6];simp
 have c9:((M0.next+1:Nat):Int)∈y0.params:=by rw[b6];simp
 have f1:aaz p {M2 with cur:=hd,vals:=M2.vals++ [((M0.next+1:Nat):Int)]} (fun i=>(O i/\i≠M0.cur)∨(hd<=i/\i<=hd+2)) (fun i=>P i∨(i=hd+1∨i=hd+2)) pl0:=c3.goto l0 (fun v hv b hb=>by
  rcases Jl.1 hv with hv|hv
  ·rw[d6] at hv;obtain⟨q,hq⟩:=w v hv;exact c3.below hq k (show M0.cur≠hd by omega)
  ·rw[Jo] at hv;subst hv
   exact(a6 (aeI.refl _) _ c9).ext (aeI.refl _) Od Zo)
 have d4:(fun i=>(O i/\i≠M0.cur)∨(hd<=i/\i<=hd+2)) ({M2 with cur:=hd,vals:=M2.vals++ [((M0.next+1:Nat):Int)]}:MS).cur:=.inr ⟨Je _,by show hd<=hd+2;omega⟩
 have f2:=f1.endB (t:=⟨2,(M0.next:Nat),[⟨((hd+1:Nat):Int),[]⟩,⟨((hd+2:Nat):Int),[]⟩]⟩) d4 rfl (by show 2<=4;decide) (fun e d=>by
  rcases Jq.1 d with rfl|d
  ·exact⟨hd+1,hd,y1,rfl,by omega,c7,by rw[e9];rfl,q1,.refl _⟩
  ·rw[Jo] at d;subst d
   exact⟨hd+2,hd,y2,rfl,by omega,c5,by rw[e8];rfl,q2,.refl _⟩) (fun v hv b hb=>by
    rcases gL hv with rfl|hv
    ·exact(a6 (aeI.refl _) _ d0).ext (aeI.refl _) Od Zo
    ·cases hv) (P':=P) (by
    rintro(e|e)
    ·have e':P hd:=e;have:=a5 _ e';omega
    ·have e':hd=hd+1∨hd=hd+2:=e
     omega) (fun i e=>by
    rcases e with e|e|e
    ·exact .inl e
    ·exact .inr ⟨_,.head _,by subst e;rfl⟩
    ·exact .inr ⟨_,.tail _ (.head _),by subst e;rfl⟩)
 have fx:=xd f1 d4 ⟨2,(M0.next:Nat),[⟨((hd+1:Nat):Int),[]⟩,⟨((hd+2:Nat):Int),[]⟩]⟩
 have fv:(({M2 with cur:=hd,vals:=M2.vals++ [((M0.next+1:Nat):Int)]}:MS).endB ⟨2,(M0.next:Nat),[⟨((hd+1:Nat):Int),[]⟩,⟨((hd+2:Nat):Int),[]⟩]⟩).vals=M0.vals++ [((M0.next+1:Nat):Int)]:=by
  show M2.vals++_=_
  rw[d6]
 have fl:M2.f.length<=(({M2 with cur:=hd,vals:=M2.vals++ [((M0.next+1:Nat):Int)]}:MS).endB ⟨2,(M0.next:Nat),[⟨((hd+1:Nat):Int),[]⟩,⟨((hd+2:Nat):Int),[]⟩]⟩).f.length:=agi fx;generalize ({M2 with cur:=hd,vals:=M2.vals++ [((M0.next+1:Nat):Int)]}:MS).endB ⟨2,(M0.next:Nat),[⟨((hd+1:Nat):Int),[]⟩,⟨((hd+2:Nat):Int),[]⟩]⟩=M3 at *;have g:aeI M2.f M3.f:=fx;have b9:Abv pl0 hd (hd+1):=.up q1 Zo (.refl _);have b8:Abv pl0 hd (hd+2):=.up q2 Zo (.refl _)
 have c8:∀v∈M3.vals,∃q,Kn M3.f pl0 v hd q:=fun v hv=>by
  rw[fv] at hv;rcases Jl.1 hv with hv|hv
  ·obtain⟨q,hq⟩:=w v hv;exact⟨0,c3.below hq k Zo|>.ext g Od (Og _)⟩
  ·rw[Jo] at hv;subst hv;exact⟨0,a6 g _ c9⟩
 have g1:aaz p {M3 with cur:=hd+1 } (fun i=>((O i/\i≠M0.cur)∨(hd<=i/\i<=hd+2))/\i≠hd) P pl0:=f2.goto (show hd+1<M3.f.length by omega) (fun v hv b hb=>by
  obtain⟨q,hq⟩:=c8 v hv
  exact f2.below hq b9 (show hd≠hd+1 by omega))
 obtain⟨pl4,hq⟩:=c4 _ _ _ pl0 g1 ⟨.inr ⟨by show hd<=hd+1;omega,by show hd+1<=hd+2;omega⟩,by show hd+1≠hd;omega⟩ (fun e=>by
  have e':P (hd+1):=e;have:=a5 _ e'
  omega) (fun i e=>⟨.inl ⟨hPO i e,fun e2=>d1 (by rw[<-e2];exact e)⟩,by have:=a5 i e;omega⟩)
 have f3:({M3 with cur:=hd+1 }:MS).cur=hd+1:=rfl;have f0:({M3 with cur:=hd+1 }:MS).f=M3.f:=rfl;have e7:({M3 with cur:=hd+1 }:MS).vals=M3.vals:=rfl;obtain⟨k1,k2,k3,k4,k5,k6,k7⟩:=hq;rw[f3] at k2 k3 k4;rw[f0] at k4 k7;rw[e7] at k6;generalize a3 {M3 with cur:=hd+1 }=M4 at *;have b7:Abv pl4 hd M4.cur:=(b9.ext k1).trans k3;have c2:(fun i=>((((O i/\i≠M0.cur)∨(hd<=i/\i<=hd+2))/\i≠hd)/\i≠hd+1)∨i=M4.cur) M4.cur:=.inr rfl;obtain⟨m1,m2⟩:=k2.num c2 1;have mg:=wT M4 1;have mx:aeI M2.f (M4.num 1).f:=(g.trans k7).trans (abB M4 1)
 obtain⟨s1,s2⟩:=m1.emitK (c:=6) (by rw[mg.cur];exact c2) (F:=⟨true,true,true,true,false⟩) rfl ⟨rfl,rfl⟩ Zd Zd Zd (a:=(M0.next:Nat)) (b:=(M4.next:Nat)) (n:=0) (.inl ⟨rfl,fun x hx=>by
  have h1:=a6 (q:=pl4) mx _ d0
  by_cases e:hd=(M4.num 1).cur
  ·rw[<-e];exact h1.ext (aeI.refl _) Od Zo
  ·exact m1.below h1 (by rw[mg.cur];exact b7) e⟩) (.inl ⟨rfl,m1.at m2⟩) (.inr rfl) (.inl Zd)
 have sg:=yB (M4.num 1) ⟨6,0,(M0.next:Nat),(M4.next:Nat),0,[]⟩;have sc:((M4.num 1).emit ⟨6,0,(M0.next:Nat),(M4.next:Nat),0,[]⟩).cur=M4.cur:=sg.cur.trans mg.cur;have sx:aeI M4.f ((M4.num 1).emit ⟨6,0,(M0.next:Nat),(M4.next:Nat),0,[]⟩).f:=(abB M4 1).trans (aaD _ _);have sv:M4.vals<+:((M4.num 1).emit ⟨6,0,(M0.next:Nat),(M4.next:Nat),0,[]⟩).vals:=mg.pre.trans sg.pre;have sn:((M4.num 1).next:Int)=((M4.next+1:Nat):Int):=rfl;rw[sn] at s2;generalize (M4.num 1).emit ⟨6,0,(M0.next:Nat),(M4.next:Nat),0,[]⟩=M5 at *;obtain⟨t1,t2⟩:=s1.any E (by rw[sc];exact c2);have tg:=yU E M5;have tc:(zJ E M5).2.cur=M4.cur:=tg.cur.trans sc;have tx:=sx.trans (aaW E M5);have tv:=sv.trans tg.pre;have tn:((M4.next+1:Nat):Int)∈(zJ E M5).2.vals:=tg.pre.subset s2;generalize zJ E M5=y at *;obtain⟨yv,M6⟩:=y;simp only at t1 t2 tc tx tv tn ⊢;have c0:(fun i=>((((O i/\i≠M0.cur)∨(hd<=i/\i<=hd+2))/\i≠hd)/\i≠hd+1)∨i=M4.cur) M6.cur:=.inr tc;obtain⟨z0,e6,d7,_⟩:=(g.trans (k7.trans tx)) _ _ b5
 have u1:=t1.endB (t:=⟨1,0,[⟨(hd:Nat),[((M4.next+1:Nat):Int),yv]⟩]⟩) c0 rfl (by show 1<=4;decide) (fun e d=>by
  rw[Jo] at d;subst d
  exact⟨hd,M0.cur,z0,rfl,by omega,e6,by rw[d7,b6];rfl,aaS k1 q0,by rw[tc];exact(k.ext k1).trans b7⟩) (fun v hv=>by
  rw[gQ] at hv;refine t1.at ?_;rcases Jq.1 hv with rfl|hv
  ·exact tn
  ·rw[Jo] at hv;subst hv;exact t2) (P':=P) (by rw[tc];exact k5) (fun i e=> .inl e)
 have ux:=(g.trans (k7.trans tx)).trans (xd t1 c0 ⟨1,0,[⟨(hd:Nat),[((M4.next+1:Nat):Int),yv]⟩]⟩);have uv:M3.vals<+:(M6.endB ⟨1,0,[⟨(hd:Nat),[((M4.next+1:Nat):Int),yv]⟩]⟩).vals:=k6.trans tv;have e0:=(k7.trans tx).trans (xd t1 c0 ⟨1,0,[⟨(hd:Nat),[((M4.next+1:Nat):Int),yv]⟩]⟩);rw[tc] at u1;generalize M6.endB ⟨1,0,[⟨(hd:Nat),[((M4.next+1:Nat):Int),yv]⟩]⟩=M7 at *;have f8:=agi ux;have a4:M7.vals.take M3.vals.length=M3.vals:=uF uv;refine⟨pl4,o.trans k1,?_,?_,.inr (by show M.f.length<=hd+2;omega),fun e=>?_,?_,ax.trans (d5.trans ux)⟩
 ·have w1:MInv p M7.f (hd+2) M7.next (M7.vals.take M3.vals.length) _ P pl4:=u1.goto Zo (fun v hv b hb=>by
   rw[a4] at hv;obtain⟨q,hq⟩:=c8 v hv
   exact u1.below (hq.ext e0 k1 (Og _)) (b8.ext k1) Zo)
  refine w1.weak (fun i=>?_) (fun i e=>e);have f4:=agi g;rw[<-ac];constructor
  ·rintro⟨⟨⟨e|e,e2⟩,e3⟩|e,e4⟩
   ·exact .inl e
   ·exact .inr (show i=hd+2 by omega)
   ·exact absurd e e4
  ·rintro(e|e)
   ·have hi:=d9 i e.1;refine⟨.inl ⟨⟨.inl e,by omega⟩,by omega⟩,fun e2=>?_⟩;rcases k4 with k4|k4<;>omega
   ·have e':i=hd+2:=e;refine⟨.inl ⟨⟨.inr Zo,by omega⟩,by omega⟩,fun e2=>?_⟩;rcases k4 with k4|k4<;>omega
 ·rw[<-ac];exact(k.ext k1).trans (b8.ext k1)
 ·have e':P (hd+2):=e;have:=a5 _ e';omega
 ·show M.vals<+:M7.vals.take M3.vals.length
  rw[a4,fv];exact av.trans (Qb _ _)
section
variable {p:IProg} {E:ME} (hp:EnvOk p E)
include hp
theorem abq:∀d,aeT p (zp E d)
 |0=>fX hp
 |d+1=>fun M O P pl h hO hn hPO=>by
  obtain⟨pl1,h1⟩:=fX hp M O P pl h hO hn hPO;have hl:=agi (eO E M)
  have next:∀ {pt:MS->MS},aeT p pt->(∀M2:MS,M2.f=(tR E M).f->M2.cur=(tR E M).cur->M2.next=(tR E M).next->M2.vals=(tR E M).vals->∃pl',PartOut M O P pl p (pt M2) pl'):=fun {pt} hpt M2 e1 e2 e3 e4=>by
   have hi:aaz p M2 (fun i=>(O i/\i≠M.cur)∨i=(tR E M).cur) P pl1:=by
    have:=h1.inv;unfold aaz at this ⊢;rw[e1,e2,e3,e4];exact this
   obtain⟨g,h2⟩:=hpt M2 _ P pl1 hi (.inr e2) (by rw[e2];exact h1.np) (fun i e=> .inl ⟨hPO i e,fun e3=>hn (by rw[<-e3];exact e)⟩);have j:PartOut M O P pl p M2 pl1:=⟨h1.pre,by rw[e2];exact hi,by rw[e2];exact h1.abv,by rw[e2];exact h1.new,by rw[e2];exact h1.np,by rw[e4];exact h1.vals,by rw[e1];exact h1.ext⟩
   refine⟨g,j.trans ?_ (by rw[e1];exact hl) h.lt⟩;have e5:(fun i=>(O i/\i≠M.cur)∨i=(tR E M).cur)=(fun i=>(O i/\i≠M.cur)∨i=M2.cur):=by rw[e2]
   rw[<-e5];exact h2
  unfold zp;simp only
  have c:aeT p (fun M=>M):=fun M O P pl h hO hn hPO=>⟨pl,Od,h.weak (fun i=>⟨fun e=>by
   by_cases e2:i=M.cur
   ·exact .inr e2
   ·exact .inl ⟨e,e2⟩,fun e=>e.elim (·.1) (fun e=>by rw[e];exact hO)⟩) (fun i e=>e),.refl _,.inl rfl,hn,Od,aeI.refl _⟩
  split
  ·exact next c _ rfl rfl rfl rfl
  split
  ·exact next (gI (abq d) (n:=2) ⟨by decide,by decide⟩) (tR E M).tick rfl rfl rfl rfl
  split
  ·exact next (ee (abq d)) (tR E M).tick rfl rfl rfl rfl
  split
  ·have:=aaE E (tR E M).tick (n:=3) Zo;exact next (gI (abq d) (n:=2+tkV E (tR E M).tick 3) ⟨by omega,by omega⟩) (tR E M).tick.tick rfl rfl rfl rfl
  ·exact next c (tR E M).tick rfl rfl rfl rfl
end
open Go.RowKit
theorem dR (a:Nat)(c:a<65536)(w:World):I 129 #[O a] w fun e w'=>e=.returned (U (s16 a))/\w=w':=by
 by_cases h:a<32768
 ·have t1:decide ((32768:Int)<=(a:Int))=false:=decide_eq_false Zo;have t2:decide (32768<=a)=false:=decide_eq_false Zo;have e:s16 a=(a:Int):=by unfold s16;rw[if_pos h]
  rw[e];clear h e;go_enter Tryz.func129,Tryz.ntmps129;go_wp2;go_ret;refine⟨zh ?_,rfl⟩;omega
 ·have t1:decide ((32768:Int)<=(a:Int))=true:=decide_eq_true Zo;have t2:decide (32768<=a)=true:=decide_eq_true Zo;have e:s16 a=(a:Int)-65536:=by unfold s16;rw[if_neg h]
  rw[e];clear h e;go_enter Tryz.func129,Tryz.ntmps129;go_wp2;go_ret;refine⟨zh ?_,rfl⟩;omega
theorem bG (b:Bool)(w:World):I 130 #[.bool b] w fun e w'=>e=.returned (O (iw b:Nat))/\w=w':=by
 cases b<;>go_enter Tryz.func130,Tryz.ntmps130<;>go_wp2<;>go_ret<;>exact⟨rfl,rfl⟩
theorem and15 (b:Nat)(hb:b<65536):bits .and .u16 (b:Int) 15=((b%16:Nat):Int):=by
 have h:=(bits_nat .u16 16 Zd wraps_u16 b 15 hb Zd).1;rw[show((15:Nat):Int)=15 from rfl] at h;rw[h]
 congr 1
 have:=Nat.and_two_pow_sub_one_eq_mod b 4
 simpa using this
theorem rarith_5 (a b:Nat)(c:a<65536)(hb:b<65536)(w:World):I 107 #[U 5,O a,O b] w fun e w'=>e=.returned (O (yW 5 a b:Nat))/\w=w':=by
 go_enter Tryz.func107,Tryz.ntmps107;go_wp2
 all_goals go_ret
 all_goals refine⟨zh ?_,rfl⟩
 all_goals exact ar5 a b
theorem rarith_6 (a b:Nat)(c:a<65536)(hb:b<65536)(w:World):I 107 #[U 6,O a,O b] w fun e w'=>e=.returned (O (yW 6 a b:Nat))/\w=w':=by
 go_enter Tryz.func107,Tryz.ntmps107;go_wp2
 all_goals go_ret
 all_goals refine⟨zh ?_,rfl⟩
 all_goals exact ar6 a b hb
theorem rarith_7 (a b:Nat)(c:a<65536)(hb:b<65536)(w:World):I 107 #[U 7,O a,O b] w fun e w'=>e=.returned (O (yW 7 a b:Nat))/\w=w':=by
 go_enter Tryz.func107,Tryz.ntmps107;go_wp2
 all_goals go_ret
 all_goals refine⟨zh ?_,rfl⟩
 all_goals exact ar7 a b
theorem rarith_8 (a b:Nat)(c:a<65536)(hb:b<65536)(d:b≠0)(w:World):I 107 #[U 8,O a,O b] w fun e w'=>e=.returned (O (yW 8 a b:Nat))/\w=w':=by
 have h1:((b:Int)==0)=false:=Ze;have h2:¬(b:Int)=0:=Zo;clear d;go_enter Tryz.func107,Tryz.ntmps107;go_wp2
 all_goals go_ret
 all_goals refine⟨zh ?_,rfl⟩
 all_goals exact ar8 a b c
theorem rarith_9 (a b:Nat)(c:a<65536)(hb:b<65536)(w:World):I 107 #[U 9,O a,O b] w fun e w'=>e=.returned (O (yW 9 a b:Nat))/\w=w':=by
 go_enter Tryz.func107,Tryz.ntmps107;go_wp2
 all_goals go_ret
 all_goals refine⟨zh ?_,rfl⟩
 all_goals exact ar9 a b c hb
theorem au (a b:Nat)(c:a<65536)(hb:b<65536)(w:World):I 107 #[U 10,O a,O b] w fun e w'=>e=.returned (O (yW 10 a b:Nat))/\w=w':=by
 go_enter Tryz.func107,Tryz.ntmps107;go_wp2
 all_goals go_ret
 all_goals refine⟨zh ?_,rfl⟩
 all_goals exact ar10 a b c hb
theorem aaq (a b:Nat)(c:a<65536)(hb:b<65536)(w:World):I 107 #[U 11,O a,O b] w fun e w'=>e=.returned (O (yW 11 a b:Nat))/\w=w':=by
 go_enter Tryz.func107,Tryz.ntmps107;go_wp2
 all_goals go_ret
 all_goals refine⟨zh ?_,rfl⟩
 all_goals exact ar11 a b c hb
theorem ae (a b:Nat)(d:a<65536)(hb:b<65536)(w:World):I 107 #[U 12,O a,O b] w fun e w'=>e=.returned (O (yW 12 a b:Nat))/\w=w':=by
 have c:=and15 b hb;go_enter Tryz.func107,Tryz.ntmps107;go_wp2
 all_goals go_ret
 all_goals refine⟨zh ?_,rfl⟩
 all_goals exact ar12 a b
theorem aae (a b:Nat)(d:a<65536)(hb:b<65536)(w:World):I 107 #[U 13,O a,O b] w fun e w'=>e=.returned (O (yW 13 a b:Nat))/\w=w':=by
 have c:=and15 b hb;go_enter Tryz.func107,Tryz.ntmps107;go_wp2
 all_goals go_ret
 all_goals refine⟨zh ?_,rfl⟩
 all_goals exact ar13 a b
theorem aan (a b:Nat)(c:a<65536)(hb:b<65536)(w:World):I 107 #[U 15,O a,O b] w fun e w'=>e=.returned (O (yW 15 a b:Nat))/\w=w':=by
 go_enter Tryz.func107,Tryz.ntmps107;go_wp2_with (go_at_call 130;go_must (refine(bG _ _).mono ?_;rintro e w' ⟨rfl,rfl⟩))
 all_goals go_ret
 all_goals refine⟨zh ?_,rfl⟩
 all_goals exact congrArg _ (ar15 a b)
theorem aV (a b:Nat)(c:a<65536)(hb:b<65536)(w:World):I 107 #[U 16,O a,O b] w fun e w'=>e=.returned (O (yW 16 a b:Nat))/\w=w':=by
 go_enter Tryz.func107,Tryz.ntmps107;go_wp2_with (go_at_call 130;go_must (refine(bG _ _).mono ?_;rintro e w' ⟨rfl,rfl⟩))
 all_goals go_ret
 all_goals refine⟨zh ?_,rfl⟩
 all_goals exact rfl
theorem aT (a b:Nat)(c:a<65536)(hb:b<65536)(w:World):I 107 #[U 17,O a,O b] w fun e w'=>e=.returned (O (yW 17 a b:Nat))/\w=w':=by
 have m1:True:=trivial;go_enter Tryz.func107,Tryz.ntmps107;go_wp2_with (first|(go_at_call 130;go_must (refine(bG _ _).mono ?_;rintro e w' ⟨rfl,rfl⟩))|(go_at_call 129;have d:=m1;clear m1;go_must (refine(dR a c _).mono ?_;rintro e w' ⟨rfl,rfl⟩))|(go_at_call 129;go_must (refine(dR b hb _).mono ?_;rintro e w' ⟨rfl,rfl⟩)))
 all_goals go_ret
 all_goals refine⟨zh ?_,rfl⟩
 all_goals exact rfl
theorem adC (x:Int)(h:x<0):(x-1).tdiv 2=x/2:=by
 rw[Int.tdiv_eq_ediv]
 split
 ·omega
 ·have:Int.sign 2=1:=rfl;omega
theorem ai (x:Int)(h:0<=x):x.tdiv 2=x/2:=Int.tdiv_eq_ediv_of_nonneg h
theorem aS (x:Int)(k:Nat):x/2^(k+1)=(x/2^k)/2:=by
 rw[Int.pow_succ,Int.ediv_ediv_of_nonneg (Int.pow_nonneg Zd)]
theorem dU {x:Int}(h:-32768<=x/\x<32768):∀k:Nat,-32768<=x/2^k/\x/2^k<32768
 |0=>by simpa using h
 |k+1=>by have:=dU h k;rw[aS];omega
theorem aX (a b:Nat)(m:a<65536)(hb:b<65536)(w:World):I 107 #[U 14,O a,O b] w fun e w'=>e=.returned (O (yW 14 a b:Nat))/\w=w':=by
 have o:=and15 b hb;have hr:=aac a m;have y:=Ja hr;have hm:b%16<16:=Qj _ Zd;obtain⟨n,c⟩:∃n,b%16=n:=⟨_,rfl⟩
 rw[c] at o hm;have h:=Ja c;clear hr c;generalize u:w=W0;clear u;go_enter Tryz.func107,Tryz.ntmps107;go_wp2_with (first|(go_at_call 129;go_must (refine(dR a m _).mono ?_;rintro e w' ⟨rfl,rfl⟩)))
 have t:s16 a=s16 a/2^0:=by simp
 have H0:=Ja t;clear t
 go_loopw [7,8] (fun xv kv wx=>∃(k:Nat) (x:Int),k<=n/\xv=U x/\kv=U k/\W0=wx/\Hid (x=s16 a/2^k)) (fun _ kv _=>n-(intOf kv).toNat)
 case atStart=>exact⟨0,s16 a,Jt _,rfl,rfl,rfl,H0⟩
 case round=>
  obtain⟨k,x,hk,rfl,rfl,rfl,i⟩:=hrel;have l:-32768<=x/\x<32768:=by rw[i.out];exact dU y.out k
  obtain⟨a1,a0⟩:=l
  by_cases d:k<n
  ·have j:(k:Int)<n:=Zo;have g:=Ja d
   by_cases c:x<0
   ·have t1:decide (x<0)=true:=decide_eq_true c;have h:=Ja c;clear d c;go_wp2;go_roundw
    case rel=>
     refine⟨k+1,x/2,g.out,?_,by go_num,by trivial,Ja (by rw[aS,<-i.out])⟩;have e:=adC x h.out
     first|(rw[e];congr 1;omega)|(rw[show x-1=x-1 from rfl,e])|(congr 1<;>simp[e])
    case measure=>have:=g.out;simp[intOf];omega
   ·have t1:decide (x<0)=false:=decide_eq_false c;have h:=Ja (show 0<=x by omega);clear d c;go_wp2;go_roundw
    case rel=>
     refine⟨k+1,x/2,g.out,?_,by go_num,by trivial,Ja (by rw[aS,<-i.out])⟩;have e:=ai x h.out
     first|(rw[e];congr 1;omega)|(congr 1<;>simp[e])
    case measure=>have:=g.out;simp[intOf];omega
  ·obtain rfl:k=n:=by omega
   have j:¬(k:Int)<k:=Zo;clear d;go_wp2;go_ret;refine⟨zh ?_,rfl⟩;rw[i.out,xY]
   show _=((((s16 a/2^(b%16))%65536).toNat:Nat):Int)
   rw[h.out];omega
theorem ajJ (c:Int)(i:5<=c/\c<=17)(a b:Nat)(d:a<65536)(hb:b<65536)(g:c=8->b≠0)(w:World):I 107 #[U c,O a,O b] w fun e w'=>e=.returned (O (yW c a b:Nat))/\w=w':=by
 have h:c=5∨c=6∨c=7∨c=8∨c=9∨c=10∨c=11∨c=12∨c=13∨c=14∨c=15∨c=16∨c=17:=Zo;rcases h with rfl|rfl|rfl|rfl|rfl|rfl|rfl|rfl|rfl|rfl|rfl|rfl|rfl
 ·exact rarith_5 a b d hb w
 ·exact rarith_6 a b d hb w
 ·exact rarith_7 a b d hb w
 ·exact rarith_8 a b d hb (g rfl) w
 ·exact rarith_9 a b d hb w
 ·exact au a b d hb w
 ·exact aaq a b d hb w
 ·exact ae a b d hb w
 ·exact aae a b d hb w
 ·exact aX a b d hb w
 ·exact aan a b d hb w
 ·exact aV a b d hb w
 ·exact aT a b d hb w
def dA (w:World)(vb n:Nat)(v:Int->Nat):Prop:=Q w vb ((List.range n).map fun i:Nat=>vL (v (i:Int))).toArray 43/\∀x,v x<65536
theorem dA.below{n:Nat}{v:Int->Nat}(h:dA w vb n v)(hb:Q w' vb ((List.range n).map fun i:Nat=>vL (v (i:Int))).toArray 43):dA w' vb n v:=⟨hb,h.2⟩
theorem dA.kept{K:Nat}{n:Nat}{v:Int->Nat}(h:dA w vb n v)(hf:FrmQ K w w'):dA w' vb n v:=⟨hf.kept _ _ h.1 (by simp[di]),h.2⟩
theorem dA.cell {w:World}{vb n:Nat}{v:Int->Nat}(h:dA w vb n v){k:Nat}(hk:k<n):A w vb k (O (v (k:Int):Nat)):=zA h.1 (by simp[hk,vL])
theorem dA.free{n:Nat}{v:Int->Nat}(h:dA w vb n v)(k:Nat):N w vb k:=zE h.1
theorem dA.set{n:Nat}{v:Int->Nat}(h:dA w vb n v){r:Nat}(hr:r<65536):dA (w.setCell ⟨vb,k,none⟩ (O r)) vb n (iY v k r):=by
 refine⟨?_,fun x=>by unfold iY;split;exact hr;exact h.2 x⟩;rw[zD h.1]
 congr 2
 rw[Jc]
 congr 1
 apply Oq;intro i;rw[Ov,Jr,Jr]
 by_cases hi:i<n
 ·rw[Oh hi]
  by_cases hk:k=i
  ·subst hk;simp[hi,iY,vL]
  ·have:¬(i:Int)=(k:Int):=Zo;simp[hk,iY,this]
 ·have c:(List.range n)[i]? =none:=Of (by simpa using hi);rw[c]
  by_cases hk:k=i
  ·subst hk;simp[hi]
  ·simp[hk]
theorem qstep_1{ov:Value}(h:MachQ w K m none dp ov)(a1:on<65536)(ab:Option Addr)(an ac:Nat){n:Nat}{v:Int->Nat}(hv:dA w vb n v)(a2:Int):
 I 103 #[F K.pm,.agg #[U 1,U g,U oa,U ob,O on,.slice ab an ac],T vb n n,U a2] w (vh K w (.ok on m)):=by
 have a7:=hv.2 oa;have a6:=hv.2 ob;have l:=zI (W:=w) (o:=G #[U 1,U g,U oa,U ob,O on,.slice ab an ac] 76) rfl;have y:Y w (w.alloc (G #[U 1,U g,U oa,U ob,O on,.slice ab an ac] 76)):=(Below.refl _ _).alloc (Je _) _;have H:=Ja h;have HV:=Ja hv;have k:=Ja (Jb l y);clear h hv l y;generalize x:v oa=xa at *;generalize u:v ob=xb at *;have HX:=Ja (Jb x u);clear x u;go_enter Tryz.func103,Tryz.ntmps103;go_upto_region 4 with(go_at_call 52;go_must (refine(aaK 1 _).mono ?_;rintro e w1 ⟨he,d⟩;obtain rfl:e=.returned (.agg #[.bool true,.bool true,.bool false,.bool false,.bool true]):=he))
 have j:Y w (w1.alloc (G #[.bool true,.bool true,.bool false,.bool false,.bool true] 120)):=(k.out.2.trans (d.mono k.out.2.size)).alloc (Jn k.out.2.size d.size) _;have c:=zB (o:=(G #[.bool true,.bool true,.bool false,.bool false,.bool true] 120)) (zH d k.out.1 (lt_of_block k.out.1));have i:=zI (W:=w1) (o:=(G #[.bool true,.bool true,.bool false,.bool false,.bool true] 120)) rfl;have b0:w1.heap.size≠w.heap.size:=by have:=d.size;simp at this;omega
 generalize w1.alloc (G #[.bool true,.bool true,.bool false,.bool false,.bool true] 120)=W2 at *;generalize w1.heap.size=bs at *;have t:=H.out.keep j;have a0:=HV.out.below (zH j HV.out.1 (lt_of_block HV.out.1));have p0:=K0 c;have p2:=K2 c;have p3:=K3 c;have p4:=K4 c;have p5:=K5 c;have s2:=K2 i;have s3:=K3 i;have a5:=lt_of_block c;have a4:=lt_of_block i;have HM:=Ja t;have HF:=Ja (FrmQ.ofBelow j (Qd H.out.size));have a3:=t.lt;clear j c i d k t a0;go_wp2;go_ret;exact vh.ok HM.out HF.out a1
theorem qstep_3{ov:Value}(h:MachQ w K m none dp ov)(b2:on<65536)(ab:Option Addr)(an ac:Nat){n:Nat}{v:Int->Nat}(hv:dA w vb n v)(b1:0<=oa/\oa.toNat<n)(a2:Int):
 I 103 #[F K.pm,.agg #[U 3,U g,U oa,U ob,O on,.slice ab an ac],T vb n n,U a2] w (vh K w (.ok ((65536-v oa)%65536) m)):=by
 have b0:=hv.2 oa;have a7:=hv.2 ob;obtain⟨ka,rfl⟩:∃ka:Nat,oa=(ka:Int):=⟨oa.toNat,by omega⟩
 have a1:ka<n:=Zo;have b3:(ka:Int)<(n:Int):=Zo;have t:=zI (W:=w) (o:=G #[U 3,U g,U ka,U ob,O on,.slice ab an ac] 76) rfl;have a0:Y w (w.alloc (G #[U 3,U g,U ka,U ob,O on,.slice ab an ac] 76)):=(Below.refl _ _).alloc (Je _) _;have H:=Ja h;have HV:=Ja hv;have k:=Ja (Jb t a0);clear h hv t a0;generalize y:v (ka:Int)=xa at *;generalize x:v ob=xb at *;have HX:=Ja (Jb y x);clear y x;go_enter Tryz.func103,Tryz.ntmps103;go_upto_region 4 with(go_at_call 52;go_must (refine(aaK 3 _).mono ?_;rintro e w1 ⟨he,d⟩;obtain rfl:e=.returned (.agg #[.bool true,.bool true,.bool true,.bool false,.bool false]):=he))
 have j:Y w (w1.alloc (G #[.bool true,.bool true,.bool true,.bool false,.bool false] 120)):=(k.out.2.trans (d.mono k.out.2.size)).alloc (Jn k.out.2.size d.size) _;have c:=zB (o:=(G #[.bool true,.bool true,.bool true,.bool false,.bool false] 120)) (zH d k.out.1 (lt_of_block k.out.1));have i:=zI (W:=w1) (o:=(G #[.bool true,.bool true,.bool true,.bool false,.bool false] 120)) rfl;have b4:w1.heap.size≠w.heap.size:=by have:=d.size;simp at this;omega
 generalize w1.alloc (G #[.bool true,.bool true,.bool true,.bool false,.bool false] 120)=W2 at *;generalize w1.heap.size=bs at *;have u:=H.out.keep j;have l:=HV.out.below (zH j HV.out.1 (lt_of_block HV.out.1));have p0:=K0 c;have p2:=K2 c;have p3:=K3 c;have p4:=K4 c;have p5:=K5 c;have s2:=K2 i;have s3:=K3 i;have a6:=lt_of_block c;have a5:=lt_of_block i;have ca:A W2 vb ka (O xa):=by rw[<-HX.out.1];exact l.cell a1
 have a3:=lt_of_block l.1;have HM:=Ja u;have HF:=Ja (FrmQ.ofBelow j (Qd H.out.size));have a4:=u.lt;clear j c i d k u l;have hw:IntKind.u16.wrap (-(xa:Int))=(((65536-xa)%65536:Nat):Int):=by rw[xY];omega
 go_wp2;go_ret;exact vh.ok HM.out HF.out (Qj _ Zd)
theorem qstep_4{ov:Value}(h:MachQ w K m none dp ov)(b2:on<65536)(ab:Option Addr)(an ac:Nat){n:Nat}{v:Int->Nat}(hv:dA w vb n v)(b1:0<=oa/\oa.toNat<n)(a2:Int):
 I 103 #[F K.pm,.agg #[U 4,U g,U oa,U ob,O on,.slice ab an ac],T vb n n,U a2] w (vh K w (.ok (65535-v oa) m)):=by
 have b0:=hv.2 oa;have a7:=hv.2 ob;obtain⟨ka,rfl⟩:∃ka:Nat,oa=(ka:Int):=⟨oa.toNat,by omega⟩
 have a1:ka<n:=Zo;have b3:(ka:Int)<(n:Int):=Zo;have t:=zI (W:=w) (o:=G #[U 4,U g,U ka,U ob,O on,.slice ab an ac] 76) rfl;have a0:Y w (w.alloc (G #[U 4,U g,U ka,U ob,O on,.slice ab an ac] 76)):=(Below.refl _ _).alloc (Je _) _;have H:=Ja h;have HV:=Ja hv;have k:=Ja (Jb t a0);clear h hv t a0;generalize y:v (ka:Int)=xa at *;generalize x:v ob=xb at *;have HX:=Ja (Jb y x);clear y x;go_enter Tryz.func103,Tryz.ntmps103;go_upto_region 4 with(go_at_call 52;go_must (refine(aaK 4 _).mono ?_;rintro e w1 ⟨he,d⟩;obtain rfl:e=.returned (.agg #[.bool true,.bool true,.bool true,.bool false,.bool false]):=he))
 have j:Y w (w1.alloc (G #[.bool true,.bool true,.bool true,.bool false,.bool false] 120)):=(k.out.2.trans (d.mono k.out.2.size)).alloc (Jn k.out.2.size d.size) _;have c:=zB (o:=(G #[.bool true,.bool true,.bool true,.bool false,.bool false] 120)) (zH d k.out.1 (lt_of_block k.out.1));have i:=zI (W:=w1) (o:=(G #[.bool true,.bool true,.bool true,.bool false,.bool false] 120)) rfl;have b4:w1.heap.size≠w.heap.size:=by have:=d.size;simp at this;omega
 generalize w1.alloc (G #[.bool true,.bool true,.bool true,.bool false,.bool false] 120)=W2 at *;generalize w1.heap.size=bs at *;have u:=H.out.keep j;have l:=HV.out.below (zH j HV.out.1 (lt_of_block HV.out.1));have p0:=K0 c;have p2:=K2 c;have p3:=K3 c;have p4:=K4 c;have p5:=K5 c;have s2:=K2 i;have s3:=K3 i;have a6:=lt_of_block c;have a5:=lt_of_block i;have ca:A W2 vb ka (O xa):=by rw[<-HX.out.1];exact l.cell a1
 have a3:=lt_of_block l.1;have HM:=Ja u;have HF:=Ja (FrmQ.ofBelow j (Qd H.out.size));have a4:=u.lt;clear j c i d k u l;have hw:IntKind.u16.wrap (65535-(xa:Int))=((65535-xa:Nat):Int):=by rw[xY];omega
 go_wp2;go_ret;exact vh.ok HM.out HF.out Zo
theorem qstep_18{ov:Value}(h:MachQ w K m none dp ov)(c0:on<65536)(ab:Option Addr)(an ac:Nat){n:Nat}{v:Int->Nat}(hv:dA w vb n v)(b9:0<=oa/\oa.toNat<n)(b3:Int):
 I 103 #[F K.pm,.agg #[U 18,U g,U oa,U ob,O on,.slice ab an ac],T vb n n,U b3] w (vh K w (dQ m (v oa) 2)):=by
 have b1:=hv.2 oa;have b8:=hv.2 ob;obtain⟨ka,rfl⟩:∃ka:Nat,oa=(ka:Int):=⟨oa.toNat,by omega⟩
 have a7:ka<n:=Zo;have c2:(ka:Int)<(n:Int):=Zo;have y:=zI (W:=w) (o:=G #[U 18,U g,U ka,U ob,O on,.slice ab an ac] 76) rfl;have a5:Y w (w.alloc (G #[U 18,U g,U ka,U ob,O on,.slice ab an ac] 76)):=(Below.refl _ _).alloc (Je _) _;have H:=Ja h;have HV:=Ja hv;have t:=Ja (Jb y a5);clear h hv y a5;generalize a4:v (ka:Int)=xa at *;generalize a3:v ob=xb at *;have HX:=Ja (Jb a4 a3);clear a4 a3;go_enter Tryz.func103,Tryz.ntmps103;go_upto_region 4 with(go_at_call 52;go_must (refine(aaK 18 _).mono ?_;rintro e w1 ⟨he,d⟩;obtain rfl:e=.returned (.agg #[.bool true,.bool true,.bool true,.bool false,.bool false]):=he))
 have l:Y w (w1.alloc (G #[.bool true,.bool true,.bool true,.bool false,.bool false] 120)):=(t.out.2.trans (d.mono t.out.2.size)).alloc (Jn t.out.2.size d.size) _;have c:=zB (o:=(G #[.bool true,.bool true,.bool true,.bool false,.bool false] 120)) (zH d t.out.1 (lt_of_block t.out.1));have j:=zI (W:=w1) (o:=(G #[.bool true,.bool true,.bool true,.bool false,.bool false] 120)) rfl;have c3:w1.heap.size≠w.heap.size:=by have:=d.size;simp at this;omega
 generalize w1.alloc (G #[.bool true,.bool true,.bool true,.bool false,.bool false] 120)=W2 at *;generalize w1.heap.size=bs at *;have a2:=H.out.keep l;have u:=HV.out.below (zH l HV.out.1 (lt_of_block HV.out.1));have p0:=K0 c;have p2:=K2 c;have p3:=K3 c;have p4:=K4 c;have p5:=K5 c;have s2:=K2 j;have s3:=K3 j;have b7:=lt_of_block c;have b6:=lt_of_block j;have ca:A W2 vb ka (O xa):=by rw[<-HX.out.1];exact u.cell a7
 have b4:=lt_of_block u.1;have HM:=Ja a2;have HF:=Ja (FrmQ.ofBelow l (Qd H.out.size));have b5:=a2.lt;clear l c j d t a2 u;obtain⟨R,hR⟩:∃R,dQ m xa 2=R:=⟨_,rfl⟩
 have hc:=load_q HM.out b1 (n:=2) (.inr rfl);have EE:=Ja hR;rw[show dQ m xa 2=R from hR] at hc
 cases R with
 |ok x m'=>
  have HC:=Ja hc;clear hc hR;go_wp2_with (go_at_call 125;go_must (refine HC.out.mono ?_;rintro e w3 ⟨he,⟨a6,ov3,a0⟩,a1,b0⟩;obtain rfl:e=.returned (O x):=he))
  go_ret;rw[EE.out]
  exact vh.ok a0 (HF.out.trans a1) b0
 |trap k i m'=>
  have HC:=Ja hc;clear hc hR;go_wp2_with (go_at_call 125;go_must (refine HC.out.mono ?_;rintro e w3 ⟨he,⟨a6,ov3,b2,a0⟩,a1⟩;obtain rfl:e=.returned (O 0):=he))
  go_ret;rw[EE.out];exact⟨rfl,⟨a6,ov3,b2,a0⟩,HF.out.trans a1⟩
theorem qstep_19{ov:Value}(h:MachQ w K m none dp ov)(c0:on<65536)(ab:Option Addr)(an ac:Nat){n:Nat}{v:Int->Nat}(hv:dA w vb n v)(b9:0<=oa/\oa.toNat<n)(b3:Int):
 I 103 #[F K.pm,.agg #[U 19,U g,U oa,U ob,O on,.slice ab an ac],T vb n n,U b3] w (vh K w (dQ m (v oa) 1)):=by
 have b1:=hv.2 oa;have b8:=hv.2 ob;obtain⟨ka,rfl⟩:∃ka:Nat,oa=(ka:Int):=⟨oa.toNat,by omega⟩
 have a7:ka<n:=Zo;have c2:(ka:Int)<(n:Int):=Zo;have y:=zI (W:=w) (o:=G #[U 19,U g,U ka,U ob,O on,.slice ab an ac] 76) rfl;have a5:Y w (w.alloc (G #[U 19,U g,U ka,U ob,O on,.slice ab an ac] 76)):=(Below.refl _ _).alloc (Je _) _;have H:=Ja h;have HV:=Ja hv;have t:=Ja (Jb y a5);clear h hv y a5;generalize a4:v (ka:Int)=xa at *;generalize a3:v ob=xb at *;have HX:=Ja (Jb a4 a3);clear a4 a3;go_enter Tryz.func103,Tryz.ntmps103;go_upto_region 4 with(go_at_call 52;go_must (refine(aaK 19 _).mono ?_;rintro e w1 ⟨he,d⟩;obtain rfl:e=.returned (.agg #[.bool true,.bool true,.bool true,.bool false,.bool false]):=he))
 have l:Y w (w1.alloc (G #[.bool true,.bool true,.bool true,.bool false,.bool false] 120)):=(t.out.2.trans (d.mono t.out.2.size)).alloc (Jn t.out.2.size d.size) _;have c:=zB (o:=(G #[.bool true,.bool true,.bool true,.bool false,.bool false] 120)) (zH d t.out.1 (lt_of_block t.out.1));have j:=zI (W:=w1) (o:=(G #[.bool true,.bool true,.bool true,.bool false,.bool false] 120)) rfl;have c3:w1.heap.size≠w.heap.size:=by have:=d.size;simp at this;omega
 generalize w1.alloc (G #[.bool true,.bool true,.bool true,.bool false,.bool false] 120)=W2 at *;generalize w1.heap.size=bs at *;have a2:=H.out.keep l;have u:=HV.out.below (zH l HV.out.1 (lt_of_block HV.out.1));have p0:=K0 c;have p2:=K2 c;have p3:=K3 c;have p4:=K4 c;have p5:=K5 c;have s2:=K2 j;have s3:=K3 j;have b7:=lt_of_block c;have b6:=lt_of_block j;have ca:A W2 vb ka (O xa):=by rw[<-HX.out.1];exact u.cell a7
 have b4:=lt_of_block u.1;have HM:=Ja a2;have HF:=Ja (FrmQ.ofBelow l (Qd H.out.size));have b5:=a2.lt;clear l c j d t a2 u;obtain⟨R,hR⟩:∃R,dQ m xa 1=R:=⟨_,rfl⟩
 have hc:=load_q HM.out b1 (n:=1) (.inl rfl);have EE:=Ja hR;rw[show dQ m xa 1=R from hR] at hc
 cases R with
 |ok x m'=>
  have HC:=Ja hc;clear hc hR;go_wp2_with (go_at_call 125;go_must (refine HC.out.mono ?_;rintro e w3 ⟨he,⟨a6,ov3,a0⟩,a1,b0⟩;obtain rfl:e=.returned (O x):=he))
  go_ret;rw[EE.out]
  exact vh.ok a0 (HF.out.trans a1) b0
 |trap k i m'=>
  have HC:=Ja hc;clear hc hR;go_wp2_with (go_at_call 125;go_must (refine HC.out.mono ?_;rintro e w3 ⟨he,⟨a6,ov3,b2,a0⟩,a1⟩;obtain rfl:e=.returned (O 0):=he))
  go_ret;rw[EE.out];exact⟨rfl,⟨a6,ov3,b2,a0⟩,HF.out.trans a1⟩
theorem agE{m':Mach}{a n x r:Nat}(h:aa0 m a n x=.ok r m'):r=0:=by
 unfold aa0 td afW at h
 split at h
 ·split at h
  ·cases h;rfl
  ·cases h
 ·split at h
  ·split at h
   ·cases h;rfl
   ·cases h
  ·cases h
theorem qstep_20{ov:Value}(h:MachQ w K m none dp ov)(c4:on<65536)(ab:Option Addr)(an ac:Nat){n:Nat}{v:Int->Nat}(hv:dA w vb n v)(c3:0<=oa/\oa.toNat<n)(c2:0<=ob/\ob.toNat<n)(b5:Int):
 I 103 #[F K.pm,.agg #[U 20,U g,U oa,U ob,O on,.slice ab an ac],T vb n n,U b5] w (vh K w (aa0 m (v oa) 2 (v ob))):=by
 have b3:=hv.2 oa;have b2:=hv.2 ob;obtain⟨ka,rfl⟩:∃ka:Nat,oa=(ka:Int):=⟨oa.toNat,by omega⟩
 have b0:ka<n:=Zo;have c7:(ka:Int)<(n:Int):=Zo;obtain⟨kb,rfl⟩:∃kb:Nat,ob=(kb:Int):=⟨ob.toNat,by omega⟩
 have a7:kb<n:=Zo;have c5:(kb:Int)<(n:Int):=Zo;have y:=zI (W:=w) (o:=G #[U 20,U g,U ka,U kb,O on,.slice ab an ac] 76) rfl;have a5:Y w (w.alloc (G #[U 20,U g,U ka,U kb,O on,.slice ab an ac] 76)):=(Below.refl _ _).alloc (Je _) _;have H:=Ja h;have HV:=Ja hv;have u:=Ja (Jb y a5);clear h hv y a5;generalize a4:v (ka:Int)=xa at *;generalize a3:v (kb:Int)=xb at *;have HX:=Ja (Jb a4 a3);clear a4 a3;go_enter Tryz.func103,Tryz.ntmps103;go_upto_region 4 with(go_at_call 52;go_must (refine(aaK 20 _).mono ?_;rintro e w1 ⟨he,d⟩;obtain rfl:e=.returned (.agg #[.bool true,.bool false,.bool true,.bool true,.bool false]):=he))
 have t:Y w (w1.alloc (G #[.bool true,.bool false,.bool true,.bool true,.bool false] 120)):=(u.out.2.trans (d.mono u.out.2.size)).alloc (Jn u.out.2.size d.size) _;have c:=zB (o:=(G #[.bool true,.bool false,.bool true,.bool true,.bool false] 120)) (zH d u.out.1 (lt_of_block u.out.1));have l:=zI (W:=w1) (o:=(G #[.bool true,.bool false,.bool true,.bool true,.bool false] 120)) rfl;have c8:w1.heap.size≠w.heap.size:=by have:=d.size;simp at this;omega
 generalize w1.alloc (G #[.bool true,.bool false,.bool true,.bool true,.bool false] 120)=W2 at *;generalize w1.heap.size=bs at *;have a2:=H.out.keep t;have j:=HV.out.below (zH t HV.out.1 (lt_of_block HV.out.1));have p0:=K0 c;have p2:=K2 c;have p3:=K3 c;have p4:=K4 c;have p5:=K5 c;have s2:=K2 l;have s3:=K3 l;have b9:=lt_of_block c;have b8:=lt_of_block l;have ca:A W2 vb ka (O xa):=by rw[<-HX.out.1];exact j.cell b0
 have cb:A W2 vb kb (O xb):=by rw[<-HX.out.2];exact j.cell a7
 have b6:=lt_of_block j.1;have HM:=Ja a2;have HF:=Ja (FrmQ.ofBelow t (Qd H.out.size));have b7:=a2.lt;clear t c l d u a2 j;obtain⟨R,hR⟩:∃R,aa0 m xa 2 xb=R:=⟨_,rfl⟩
 have hc:=aY HM.out b3 b2 (n:=2) (.inr rfl);have EE:=Ja hR;rw[show aa0 m xa 2 xb=R from hR] at hc
 cases R with
 |ok x m'=>
  have HC:=Ja hc;have b1:x=0:=by exact agE EE.out
  clear hc hR;subst b1;go_wp2_with (go_at_call 126;go_must (refine HC.out.mono ?_;rintro e w3 ⟨he,⟨a6,ov3,a0⟩,a1,c0⟩;subst he))
  go_ret;rw[EE.out]
  exact vh.ok (x:=0) a0 (HF.out.trans a1) Zd
 |trap k i m'=>
  have HC:=Ja hc;clear hc hR;go_wp2_with (go_at_call 126;go_must (refine HC.out.mono ?_;rintro e w3 ⟨he,⟨a6,ov3,b4,a0⟩,a1⟩;subst he))
  go_ret;rw[EE.out];exact⟨rfl,⟨a6,ov3,b4,a0⟩,HF.out.trans a1⟩
theorem qstep_21{ov:Value}(h:MachQ w K m none dp ov)(c4:on<65536)(ab:Option Addr)(an ac:Nat){n:Nat}{v:Int->Nat}(hv:dA w vb n v)(c3:0<=oa/\oa.toNat<n)(c2:0<=ob/\ob.toNat<n)(b5:Int):
 I 103 #[F K.pm,.agg #[U 21,U g,U oa,U ob,O on,.slice ab an ac],T vb n n,U b5] w (vh K w (aa0 m (v oa) 1 (v ob))):=by
 have b3:=hv.2 oa;have b2:=hv.2 ob;obtain⟨ka,rfl⟩:∃ka:Nat,oa=(ka:Int):=⟨oa.toNat,by omega⟩
 have b0:ka<n:=Zo;have c7:(ka:Int)<(n:Int):=Zo;obtain⟨kb,rfl⟩:∃kb:Nat,ob=(kb:Int):=⟨ob.toNat,by omega⟩
 have a7:kb<n:=Zo;have c5:(kb:Int)<(n:Int):=Zo;have y:=zI (W:=w) (o:=G #[U 21,U g,U ka,U kb,O on,.slice ab an ac] 76) rfl;have a5:Y w (w.alloc (G #[U 21,U g,U ka,U kb,O on,.slice ab an ac] 76)):=(Below.refl _ _).alloc (Je _) _;have H:=Ja h;have HV:=Ja hv;have u:=Ja (Jb y a5);clear h hv y a5;generalize a4:v (ka:Int)=xa at *;generalize a3:v (kb:Int)=xb at *;have HX:=Ja (Jb a4 a3);clear a4 a3;go_enter Tryz.func103,Tryz.ntmps103;go_upto_region 4 with(go_at_call 52;go_must (refine(aaK 21 _).mono ?_;rintro e w1 ⟨he,d⟩;obtain rfl:e=.returned (.agg #[.bool true,.bool false,.bool true,.bool true,.bool false]):=he))
 have t:Y w (w1.alloc (G #[.bool true,.bool false,.bool true,.bool true,.bool false] 120)):=(u.out.2.trans (d.mono u.out.2.size)).alloc (Jn u.out.2.size d.size) _;have c:=zB (o:=(G #[.bool true,.bool false,.bool true,.bool true,.bool false] 120)) (zH d u.out.1 (lt_of_block u.out.1));have l:=zI (W:=w1) (o:=(G #[.bool true,.bool false,.bool true,.bool true,.bool false] 120)) rfl;have c8:w1.heap.size≠w.heap.size:=by have:=d.size;simp at this;omega
 generalize w1.alloc (G #[.bool true,.bool false,.bool true,.bool true,.bool false] 120)=W2 at *;generalize w1.heap.size=bs at *;have a2:=H.out.keep t;have j:=HV.out.below (zH t HV.out.1 (lt_of_block HV.out.1));have p0:=K0 c;have p2:=K2 c;have p3:=K3 c;have p4:=K4 c;have p5:=K5 c;have s2:=K2 l;have s3:=K3 l;have b9:=lt_of_block c;have b8:=lt_of_block l;have ca:A W2 vb ka (O xa):=by rw[<-HX.out.1];exact j.cell b0
 have cb:A W2 vb kb (O xb):=by rw[<-HX.out.2];exact j.cell a7
 have b6:=lt_of_block j.1;have HM:=Ja a2;have HF:=Ja (FrmQ.ofBelow t (Qd H.out.size));have b7:=a2.lt;clear t c l d u a2 j;obtain⟨R,hR⟩:∃R,aa0 m xa 1 xb=R:=⟨_,rfl⟩
 have hc:=aY HM.out b3 b2 (n:=1) (.inl rfl);have EE:=Ja hR;rw[show aa0 m xa 1 xb=R from hR] at hc
 cases R with
 |ok x m'=>
  have HC:=Ja hc;have b1:x=0:=by exact agE EE.out
  clear hc hR;subst b1;go_wp2_with (go_at_call 126;go_must (refine HC.out.mono ?_;rintro e w3 ⟨he,⟨a6,ov3,a0⟩,a1,c0⟩;subst he))
  go_ret;rw[EE.out]
  exact vh.ok (x:=0) a0 (HF.out.trans a1) Zd
 |trap k i m'=>
  have HC:=Ja hc;clear hc hR;go_wp2_with (go_at_call 126;go_must (refine HC.out.mono ?_;rintro e w3 ⟨he,⟨a6,ov3,b4,a0⟩,a1⟩;subst he))
  go_ret;rw[EE.out];exact⟨rfl,⟨a6,ov3,b4,a0⟩,HF.out.trans a1⟩
theorem qstep_22{ov:Value}(h:MachQ w K m none dp ov)(b2:on<65536)(ab:Option Addr)(an ac:Nat){n:Nat}{v:Int->Nat}(hv:dA w vb n v)(c2:0<=oa/\oa.toNat<n)(b5:Int)(b3:Hid (∀s∈K.E.p.banks,s.size=4096)):
 I 103 #[F K.pm,.agg #[U 22,U g,U oa,U ob,O on,.slice ab an ac],T vb n n,U b5] w (vh K w (aI K.E m on (v oa) 2)):=by
 have b1:=hv.2 oa;have c0:=hv.2 ob;obtain⟨ka,rfl⟩:∃ka:Nat,oa=(ka:Int):=⟨oa.toNat,by omega⟩
 have a7:ka<n:=Zo;have c3:(ka:Int)<(n:Int):=Zo;have y:=zI (W:=w) (o:=G #[U 22,U g,U ka,U ob,O on,.slice ab an ac] 76) rfl;have a5:Y w (w.alloc (G #[U 22,U g,U ka,U ob,O on,.slice ab an ac] 76)):=(Below.refl _ _).alloc (Je _) _;have H:=Ja h;have HV:=Ja hv;have t:=Ja (Jb y a5);clear h hv y a5;generalize a4:v (ka:Int)=xa at *;generalize a3:v ob=xb at *;have HX:=Ja (Jb a4 a3);clear a4 a3;go_enter Tryz.func103,Tryz.ntmps103;go_upto_region 4 with(go_at_call 52;go_must (refine(aaK 22 _).mono ?_;rintro e w1 ⟨he,d⟩;obtain rfl:e=.returned (.agg #[.bool true,.bool true,.bool true,.bool false,.bool true]):=he))
 have l:Y w (w1.alloc (G #[.bool true,.bool true,.bool true,.bool false,.bool true] 120)):=(t.out.2.trans (d.mono t.out.2.size)).alloc (Jn t.out.2.size d.size) _;have c:=zB (o:=(G #[.bool true,.bool true,.bool true,.bool false,.bool true] 120)) (zH d t.out.1 (lt_of_block t.out.1));have j:=zI (W:=w1) (o:=(G #[.bool true,.bool true,.bool true,.bool false,.bool true] 120)) rfl;have c4:w1.heap.size≠w.heap.size:=by have:=d.size;simp at this;omega
 generalize w1.alloc (G #[.bool true,.bool true,.bool true,.bool false,.bool true] 120)=W2 at *;generalize w1.heap.size=bs at *;have a2:=H.out.keep l;have u:=HV.out.below (zH l HV.out.1 (lt_of_block HV.out.1));have p0:=K0 c;have p2:=K2 c;have p3:=K3 c;have p4:=K4 c;have p5:=K5 c;have s2:=K2 j;have s3:=K3 j;have b9:=lt_of_block c;have b8:=lt_of_block j;have ca:A W2 vb ka (O xa):=by rw[<-HX.out.1];exact u.cell a7
 have b6:=lt_of_block u.1;have HM:=Ja a2;have HF:=Ja (FrmQ.ofBelow l (Qd H.out.size));have b7:=a2.lt;clear l c j d t a2 u;obtain⟨R,hR⟩:∃R,aI K.E m on xa 2=R:=⟨_,rfl⟩
 have hc:=rom_q HM.out b3.out b2 b1 (n:=2) (.inr rfl);have EE:=Ja hR;rw[show aI K.E m on xa 2=R from hR] at hc
 cases R with
 |ok x m'=>
  have HC:=Ja hc;clear hc hR;go_wp2_with (go_at_call 127;go_must (refine HC.out.mono ?_;rintro e w3 ⟨he,⟨a6,ov3,a0⟩,a1,b0⟩;obtain rfl:e=.returned (O x):=he))
  go_ret;rw[EE.out]
  exact vh.ok a0 (HF.out.trans a1) b0
 |trap k i m'=>
  have HC:=Ja hc;clear hc hR;go_wp2_with (go_at_call 127;go_must (refine HC.out.mono ?_;rintro e w3 ⟨he,⟨a6,ov3,b4,a0⟩,a1⟩;obtain rfl:e=.returned (O 0):=he))
  go_ret;rw[EE.out];exact⟨rfl,⟨a6,ov3,b4,a0⟩,HF.out.trans a1⟩
theorem qstep_23{ov:Value}(h:MachQ w K m none dp ov)(b2:on<65536)(ab:Option Addr)(an ac:Nat){n:Nat}{v:Int->Nat}(hv:dA w vb n v)(c2:0<=oa/\oa.toNat<n)(b5:Int)(b3:Hid (∀s∈K.E.p.banks,s.size=4096)):
 I 103 #[F K.pm,.agg #[U 23,U g,U oa,U ob,O on,.slice ab an ac],T vb n n,U b5] w (vh K w (aI K.E m on (v oa) 1)):=by
 have b1:=hv.2 oa;have c0:=hv.2 ob;obtain⟨ka,rfl⟩:∃ka:Nat,oa=(ka:Int):=⟨oa.toNat,by omega⟩
 have a7:ka<n:=Zo;have c3:(ka:Int)<(n:Int):=Zo;have y:=zI (W:=w) (o:=G #[U 23,U g,U ka,U ob,O on,.slice ab an ac] 76) rfl;have a5:Y w (w.alloc (G #[U 23,U g,U ka,U ob,O on,.slice ab an ac] 76)):=(Below.refl _ _).alloc (Je _) _;have H:=Ja h;have HV:=Ja hv;have t:=Ja (Jb y a5);clear h hv y a5;generalize a4:v (ka:Int)=xa at *;generalize a3:v ob=xb at *;have HX:=Ja (Jb a4 a3);clear a4 a3;go_enter Tryz.func103,Tryz.ntmps103;go_upto_region 4 with(go_at_call 52;go_must (refine(aaK 23 _).mono ?_;rintro e w1 ⟨he,d⟩;obtain rfl:e=.returned (.agg #[.bool true,.bool true,.bool true,.bool false,.bool true]):=he))
 have l:Y w (w1.alloc (G #[.bool true,.bool true,.bool true,.bool false,.bool true] 120)):=(t.out.2.trans (d.mono t.out.2.size)).alloc (Jn t.out.2.size d.size) _;have c:=zB (o:=(G #[.bool true,.bool true,.bool true,.bool false,.bool true] 120)) (zH d t.out.1 (lt_of_block t.out.1));have j:=zI (W:=w1) (o:=(G #[.bool true,.bool true,.bool true,.bool false,.bool true] 120)) rfl;have c4:w1.heap.size≠w.heap.size:=by have:=d.size;simp at this;omega
 generalize w1.alloc (G #[.bool true,.bool true,.bool true,.bool false,.bool true] 120)=W2 at *;generalize w1.heap.size=bs at *;have a2:=H.out.keep l;have u:=HV.out.below (zH l HV.out.1 (lt_of_block HV.out.1));have p0:=K0 c;have p2:=K2 c;have p3:=K3 c;have p4:=K4 c;have p5:=K5 c;have s2:=K2 j;have s3:=K3 j;have b9:=lt_of_block c;have b8:=lt_of_block j;have ca:A W2 vb ka (O xa):=by rw[<-HX.out.1];exact u.cell a7
 have b6:=lt_of_block u.1;have HM:=Ja a2;have HF:=Ja (FrmQ.ofBelow l (Qd H.out.size));have b7:=a2.lt;clear l c j d t a2 u;obtain⟨R,hR⟩:∃R,aI K.E m on xa 1=R:=⟨_,rfl⟩
 have hc:=rom_q HM.out b3.out b2 b1 (n:=1) (.inl rfl);have EE:=Ja hR;rw[show aI K.E m on xa 1=R from hR] at hc
 cases R with
 |ok x m'=>
  have HC:=Ja hc;clear hc hR;go_wp2_with (go_at_call 127;go_must (refine HC.out.mono ?_;rintro e w3 ⟨he,⟨a6,ov3,a0⟩,a1,b0⟩;obtain rfl:e=.returned (O x):=he))
  go_ret;rw[EE.out]
  exact vh.ok a0 (HF.out.trans a1) b0
 |trap k i m'=>
  have HC:=Ja hc;clear hc hR;go_wp2_with (go_at_call 127;go_must (refine HC.out.mono ?_;rintro e w3 ⟨he,⟨a6,ov3,b4,a0⟩,a1⟩;obtain rfl:e=.returned (O 0):=he))
  go_ret;rw[EE.out];exact⟨rfl,⟨a6,ov3,b4,a0⟩,HF.out.trans a1⟩
theorem qstep_ar{ov:Value}(h:MachQ w K m none dp ov){oc:Int}(d1:on<65536)(ab:Option Addr)(an ac:Nat){n:Nat}{v:Int->Nat}(hv:dA w vb n v)(d0:0<=oa/\oa.toNat<n)(c9:0<=ob/\ob.toNat<n)(b2:Int)(y:5<=oc/\oc<=17):
 I 103 #[F K.pm,.agg #[U oc,U g,U oa,U ob,O on,.slice ab an ac],T vb n n,U b2] w (vh K w (iy m oc (v oa) (v ob))):=by
 have a3:=hv.2 oa;have a2:=hv.2 ob;obtain⟨ka,rfl⟩:∃ka:Nat,oa=(ka:Int):=⟨oa.toNat,by omega⟩
 have a7:ka<n:=Zo;have d3:(ka:Int)<(n:Int):=Zo;obtain⟨kb,rfl⟩:∃kb:Nat,ob=(kb:Int):=⟨ob.toNat,by omega⟩
 have a6:kb<n:=Zo;have d2:(kb:Int)<(n:Int):=Zo;have t:=zI (W:=w) (o:=G #[U oc,U g,U ka,U kb,O on,.slice ab an ac] 76) rfl;have a4:Y w (w.alloc (G #[U oc,U g,U ka,U kb,O on,.slice ab an ac] 76)):=(Below.refl _ _).alloc (Je _) _;have H:=Ja h;have HV:=Ja hv;have l:=Ja (Jb t a4);clear h hv t a4;generalize a1:v (ka:Int)=xa at *;generalize a0:v (kb:Int)=xb at *;have HX:=Ja (Jb a1 a0);clear a1 a0;go_enter Tryz.func103,Tryz.ntmps103;go_upto_region 4 with(go_at_call 52;go_must (refine(aao oc y _).mono ?_;rintro e w1 ⟨he,d⟩;obtain rfl:e=.returned (.agg #[.bool true,.bool true,.bool true,.bool true,.bool false]):=he))
 have k:Y w (w1.alloc (G #[.bool true,.bool true,.bool true,.bool true,.bool false] 120)):=(l.out.2.trans (d.mono l.out.2.size)).alloc (Jn l.out.2.size d.size) _;have c:=zB (o:=(G #[.bool true,.bool true,.bool true,.bool true,.bool false] 120)) (zH d l.out.1 (lt_of_block l.out.1));have j:=zI (W:=w1) (o:=(G #[.bool true,.bool true,.bool true,.bool true,.bool false] 120)) rfl;have d4:w1.heap.size≠w.heap.size:=by have:=d.size;simp at this;omega
 generalize w1.alloc (G #[.bool true,.bool true,.bool true,.bool true,.bool false] 120)=W2 at *;generalize w1.heap.size=bs at *;have u:=H.out.keep k;have i:=HV.out.below (zH k HV.out.1 (lt_of_block HV.out.1));have p0:=K0 c;have p2:=K2 c;have p3:=K3 c;have p4:=K4 c;have p5:=K5 c;have s2:=K2 j;have s3:=K3 j;have c8:=lt_of_block c;have c7:=lt_of_block j;have ca:A W2 vb ka (O xa):=by rw[<-HX.out.1];exact i.cell a7
 have cb:A W2 vb kb (O xb):=by rw[<-HX.out.2];exact i.cell a6
 have c4:=lt_of_block i.1;have HM:=Ja u;have HF:=Ja (FrmQ.ofBelow k (Qd H.out.size));have c5:=u.lt;clear k c j d l u i;have t1:(oc==1)=false:=Ze;have t2:(oc==2)=false:=Ze;have t3:(oc==3)=false:=Ze;have t4:(oc==4)=false:=Ze;have c3:(oc==18)=false:=Ze;have c2:(oc==19)=false:=Ze;have c0:(oc==20)=false:=Ze;have b9:(oc==21)=false:=Ze;have b8:(oc==22)=false:=Ze;have b7:(oc==23)=false:=Ze;have b6:(oc==24)=false:=Ze;have b5:(oc==25)=false:=Ze;have b4:(oc==26)=false:=Ze;have b3:(oc==27)=false:=Ze
 by_cases h8:oc=8/\xb=0
 ·obtain⟨x,a5⟩:=h8;have EE:=Ja (show iy m oc xa xb=.trap 4 0 m by unfold iy;rw[if_pos ⟨x,a5⟩]);have t8:(oc==8)=true:=by rw[beq_iff_eq];exact x
  have tb:((xb:Int)==0)=true:=by rw[beq_iff_eq];omega
  clear y x a5;go_wp2_with (go_at_call 101;go_must (refine(ew HM.out 4 0).mono ?_;rintro e w3 ⟨rfl,b0,b1⟩))
  go_ret;rw[EE.out];exact vh.trap b0 (HF.out.trans b1)
 ·have EE:=Ja (show iy m oc xa xb=.ok (yW oc xa xb) m by unfold iy;rw[if_neg h8]);have HC:=Ja (fun W=>ajJ oc y xa xb a3 a2 (fun e=>by omega) W)
  have hq:(oc==8)=false∨((oc==8)=true/\((xb:Int)==0)=false):=by
   by_cases e:oc=8
   ·right;exact⟨by rw[beq_iff_eq];exact e,by rw[beq_eq_false_iff_ne];omega⟩
   ·left;rw[beq_eq_false_iff_ne];exact e
  clear y h8;rcases hq with t8|⟨t8,tb⟩
  all_goals go_wp2_with (go_at_call 107;go_must (refine(HC.out _).mono ?_;rintro e w' ⟨rfl,rfl⟩))
  all_goals go_ret
  all_goals rw[EE.out]
  all_goals exact vh.ok HM.out HF.out (jz _ _ _ a3 a2)
def dM (s:ByteArray)(k:Nat):List Nat:=(List.range 8192).map fun j=>if j<k then(s.data.getD j 0).toNat else 0
theorem aD (n:Nat)(f:Nat->Nat)(h:∀i,f i=0):(List.range n).map f=List.replicate n 0:=by
 apply Oq;intro i
 by_cases hi:i<n
 ·simp[hi,h]
 ·simp[hi]
theorem ac8 (s:ByteArray):dM s 0=List.replicate 8192 0:=aD _ _ (fun i=>by rw[if_neg (Nat.not_lt_zero _)])
theorem aad (s:ByteArray)(k:Nat):(dM s k).length=8192:=by simp[dM]
theorem aab(s:ByteArray)(h:k<8192):(dM s k).set k (s.data.getD k 0).toNat=dM s (k+1):=by
 unfold dM;apply Oq;intro i;rw[Ov,Jr,Jr]
 by_cases hi:i<8192
 ·rw[Oh hi]
  by_cases hk:k=i
  ·subst hk;simp[hi]
  ·have:i<k+1↔i<k:=Zo;simp[hk,this]
 ·have c:(List.range 8192)[i]? =none:=Of (by simpa using hi);rw[c]
  by_cases hk:k=i
  ·subst hk;omega
  ·simp[hk]
theorem dm(s:ByteArray)(h:k=s.size∨k=8192):dM s k=v7 s:=by
 unfold dM v7;refine Up fun j hj=>?_
 have c:=Ol.1 hj
 split
 ·rfl
 ·rcases h with rfl|rfl
  ·have:s.data.getD j 0=0:=by
    rw[Array.getD_eq_getD_getElem?,Array.getElem?_eq_none (by show s.size<=j;omega)];rfl
   rw[this];rfl
  ·omega
def RetRam (w:World)(s:ByteArray)(e:Ending)(w':World):Prop:=∃b:Nat,e=.returned (T b 8192 8192)/\w.heap.size<=b/\Q w' b ((v7 s).map bd).toArray 5/\Y w w'
theorem ram_q (w:World)(s:ByteArray)(hs:s.size<=9223372036854775807):I 46 #[.string s] w (RetRam w s):=by
 have o:=mk_ram;obtain⟨Z,hZ⟩:∃Z,madeCells #[Value.int .u8 0] 8192=Z:=⟨_,rfl⟩
 rw[hZ] at o;have j:Z=((dM s 0).map bd).toArray:=by rw[<-hZ,yA,ac8,List.map_replicate];rfl
 have HZ:=Ja j;clear hZ j;go_enter Tryz.func46,Tryz.ntmps46;go_upto_region 2 with fail;have x:Y w (w.alloc (G Z 5)):=(Below.refl _ _).alloc (Je _) _;have l:Q (w.alloc (G Z 5)) w.heap.size ((dM s 0).map bd).toArray 5:=by rw[<-HZ.out];exact zI rfl
 generalize w.alloc (G Z 5)=W1 at *;generalize a0:w.heap.size=b0 at *;have g:=Ja (Jb x (Jb l a0));clear x l o;go_wp2
 go_loopw [4] (fun kv wx=>∃k:Nat,k<=8192/\k<=s.size/\kv=U k/\Hid (Q wx b0 ((dM s k).map bd).toArray 5/\Below b0 w wx)) (fun kv _=>8192-(intOf kv).toNat)
 case atStart=>exact⟨0,by omega,by omega,rfl,Ja ⟨g.out.2.1,g.out.1⟩⟩
 case round=>
  obtain⟨k,hk,a5,rfl,d⟩:=hrel
  by_cases h1:k<s.size
  ·have a2:(k:Int)<s.size:=Zo
   by_cases h2:k<8192
   ·have a1:(k:Int)<8192:=Zo;have H2:=Ja (Jb h1 h2);obtain⟨y,hy⟩:∃y,(s.data.getD k 0).toNat=y:=⟨_,rfl⟩
    have a4:((s[k].toNat:Nat):Int)=(y:Int):=by rw[dt h1,hy]
    obtain⟨c0,u⟩:∃c,((dM s k).map bd)[k]? =some c:=⟨_,Jd (by rw[Nr,aad];exact h2)⟩
    have cc:A wr b0 k c0:=zA d.out.1 (by simpa using u);have cf:=zE (i:=k) d.out.1;have cl:=lt_of_block d.out.1;have m:=zD (i:=k) d.out.1 (.int .u8 (y:Int))
    have h:Q (wr.setCell ⟨b0,k,none⟩ (.int .u8 (y:Int))) b0 ((dM s (k+1)).map bd).toArray 5:=by
     rw[m,<-aab s h2,hy,Ox];simp[bd]
    have a3:=Ja (Jb h (d.out.2.setCell (p:=⟨b0,k,none⟩) (Je _) (.int .u8 (y:Int))));clear m h u h2 hy;go_wp2;go_roundw
    case rel=>exact⟨k+1,by have:=H2.out;omega,by have:=H2.out;omega,by go_num,a3⟩
    case measure=>have:=H2.out;simp[intOf];omega
   ·obtain rfl:k=8192:=by omega
    have a1:¬((8192:Nat):Int)<8192:=Zo;have t:=dm s (k:=8192) (.inr rfl);have HF:=Ja t;clear h2 t;go_wp2;go_ret;exact⟨b0,rfl,by rw[g.out.2.2];exact Je _,by rw[<-HF.out];exact d.out.1,by rw[g.out.2.2];exact d.out.2⟩
  ·obtain rfl:k=s.size:=by omega
   have a2:¬(s.size:Int)<s.size:=Zo;have HF:=Ja (dm s (k:=s.size) (.inl rfl));clear h1;go_wp2;go_ret;exact⟨b0,rfl,by rw[g.out.2.2];exact Je _,by rw[<-HF.out];exact d.out.1,by rw[g.out.2.2];exact d.out.2⟩
def ai1 (w:World)(p:IProg)(e:Ending)(w':World):Prop:=∃(fa:Option Addr) (fc:Nat) (aa:Option Addr) (ac:Nat) (da:Option Addr) (dc:Nat) (ba:Option Addr) (bc:Nat),e=.returned (.agg (D p fa fc aa ac da dc ba bc))/\
 ProgIn w' w'.heap.size ⟨.slice fa p.funcs.length fc,.slice aa p.args.length ac,.slice da p.data.length dc,.slice ba p.banks.length bc⟩ p/\Y w w'
theorem pt_open{p:IProg}(h64:P64 p){e:Ending}(h:PtRet w p e w'):ai1 w p e w':=by
 obtain⟨t,rfl,ht,hr,hb⟩:=h;subst ht;obtain⟨fa,fc,h1,_,_⟩:=(PT.in hr h64).funcs.form;obtain⟨aa,ac,h2,_,_⟩:=(PT.in hr h64).args.form;obtain⟨da,dc,h3,_,_⟩:=(PT.in hr h64).data.form;obtain⟨ba,bc,c,_,_⟩:=(PT.in hr h64).banks.form;refine⟨fa,fc,aa,ac,da,dc,ba,bc,?_,?_,hb⟩
 ·unfold yH;rw[h1,h2,h3,c]
 ·rw[<-h1,<-h2,<-h3,<-c];exact PT.in hr h64
end Go.Proofs.YtoahcpkibpomcaaGreat
set_option maxRecDepth 100000
namespace Go.Proofs.YtoahcpkibpomcaaGreat
open Go.ChangeShapes Go.WideShapes Go.ChangeAt Go.RowKit
variable {t:ITerm}{dp g oa ob:Int}{w w':World}{k on vb:Nat}{K:MK}{m:Mach}
section
variable {H:Type} {enc:TypeId×Value->H} {W:World} {v:Value} {d:DataW H} {p:List MemPlace} {r:Go.Reach} {base:Nat}
theorem ahi (hv:Value.okWide Tryz.prog W r base 52 v)(j:DataW.Trod enc Tryz.prog W 0 (fun _=>true) true 52 v d p):∃x:SetF,SetIz W W.heap.size v x:=by
 obtain⟨cs,rfl,g⟩:=okWide_struct Tryz.underlying52 hv;have c6:Tryz.prog.cellsOf 52=4:=by kernel_rfl
 have c1:Tryz.prog.cellsOf 48=1:=by kernel_rfl
 have c2:Tryz.prog.cellsOf 49=1:=by kernel_rfl
 have c3:Tryz.prog.cellsOf 50=1:=by kernel_rfl
 have c4:Tryz.prog.cellsOf 5=1:=by kernel_rfl
 rw[c6] at g
 obtain⟨u0,u1,u2,u3,rfl⟩:∃u0 u1 u2 u3,cs=#[u0,u1,u2,u3]:=by
  match cs,g with
  |⟨[u0,u1,u2,u3]⟩,_=>exact⟨u0,u1,u2,u3,rfl⟩
 obtain⟨fuel,hf⟩:=j;obtain⟨xs,n,_,_,_,i,c⟩:=DataW.trod_struct Tryz.underlying52 hf;have k:xs.length=4:=i;have g0:DataW.trod enc Tryz.prog W 0 (fun _=>true) true n 48 (([u0,u1,u2,u3].drop 0).take (Tryz.prog.cellsOf 48))=xs[0]?:=c 0 _ rfl;have g1:DataW.trod enc Tryz.prog W 0 (fun _=>true) true n 49 (([u0,u1,u2,u3].drop 1).take (Tryz.prog.cellsOf 49))=xs[1]?:=c 1 _ rfl;have g2:DataW.trod enc Tryz.prog W 0 (fun _=>true) true n 50 (([u0,u1,u2,u3].drop 2).take (Tryz.prog.cellsOf 50))=xs[2]?:=c 2 _ rfl;have g3:DataW.trod enc Tryz.prog W 0 (fun _=>true) true n 5 (([u0,u1,u2,u3].drop 3).take (Tryz.prog.cellsOf 5))=xs[3]?:=c 3 _ rfl;rw[c1] at g0;rw[c2] at g1;rw[c3] at g2;rw[c4] at g3;rw[Jd Zo] at g0 g1 g2 g3;obtain⟨z2,e2,_,w2⟩:=DataW.trod_int Tryz.underlying50 g2;obtain⟨z3,e3,_,w3⟩:=DataW.trod_int Tryz.underlying5 g3;simp at e2 e3 g0 g1;obtain⟨i1,h1⟩:=words_at g0;obtain⟨i2,h2⟩:=bytes_at g1;obtain⟨a1,k1,e0,_,_⟩:=h1.form;obtain⟨a2,k2,e1,_,_⟩:=h2.form;have w2:0<=z2/\z2<=4294967295:=by simpa[Lit.wf,IntKind.min,IntKind.max,IntKind.signed,IntKind.bits] using w2
 have w3:0<=z3/\z3<=255:=by simpa[Lit.wf,IntKind.min,IntKind.max,IntKind.signed,IntKind.bits] using w3
 obtain⟨y3,rfl⟩:∃y:Nat,z3=(y:Int):=⟨z3.toNat,by omega⟩
 have h:y3<256:=Zo;obtain⟨y2,rfl⟩:∃y:Nat,z2=(y:Int):=⟨z2.toNat,by omega⟩
 subst e0 e1 e2 e3;exact⟨⟨i1,i2,y2,y3⟩,⟨a1,k1,a2,k2,rfl,h1,h2⟩,by show y2<4294967296;omega,h⟩
end
end Go.Proofs.YtoahcpkibpomcaaGreat
