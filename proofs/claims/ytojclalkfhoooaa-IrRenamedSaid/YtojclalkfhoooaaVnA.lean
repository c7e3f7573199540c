/- Part of a proof. -/
import Derived.Test.YtojclalkfhoooaaGIFuel
set_option linter.all false
namespace Go.Proofs.Ytojclalkfhoooaa
variable {d:Int}
def Res.mch {α:Type}:Res α->Mach
 |.ok _ m=>m
 |.trap _ _ m=>m
structure Grew (m m':Mach):Prop where
 out:m.out.length<=m'.out.length
 inputs:m.inputs<=m'.inputs
 polls:m.polls<=m'.polls
theorem Grew.refl (m:Mach):Grew m m:=⟨Je _,Je _,Je _⟩
theorem Grew.trans {a b c:Mach}(h:Grew a b)(d:Grew b c):Grew a c:=⟨Jn h.out d.out,Jn h.inputs d.inputs,Jn h.polls d.polls⟩
theorem acp (m:Mach)(a x:Nat):Grew m (m.put a x):=⟨Je _,Je _,Je _⟩
def Mach.up (m:Mach)(d:Int):Mach:= {m with fuel:=m.fuel+d }
theorem abQ (m:Mach)(d:Int):Grew m (m.up d):=⟨Je _,Je _,Je _⟩
theorem aaJ (m:Mach):Grew m m.pay:=⟨Je _,Je _,Je _⟩
theorem up_pay (m:Mach)(d:Int):(m.up d).pay=m.pay.up d:=by
 show({m with fuel:=m.fuel+d-1 }:Mach)= {m with fuel:=m.fuel-1+d }
 rw[show m.fuel+d-1=m.fuel-1+d by omega]
def Res.up {α:Type}(d:Int):Res α->Res α
 |.ok x m=> .ok x (m.up d)
 |.trap k i m=> .trap k i (m.up d)
def abF (r:Mach->Res Nat):Prop:=(∀m d,r (m.up d)=(r m).up d)/\(∀m,Grew m (r m).mch)/\∀m k i m',r m=.trap k i m'->k≠7
theorem abk (f:Nat):abF fun m=> .ok f m:=⟨fun m d=>rfl,fun m=>Grew.refl m,fun m k i m' h=>by cases h⟩
theorem aaF {k:Nat}(hk:k≠7)(i:Nat):abF fun m=> .trap k i m:=⟨fun m d=>rfl,fun m=>Grew.refl m,fun m k i m' h=>by cases h;exact hk⟩
theorem aaA {c:Prop} [Decidable c] {r s:Mach->Res Nat}(hr:abF r)(hs:abF s):abF fun m=>if c then r m else s m:=by
 by_cases h:c
 ·simp only[if_pos h];exact hr
 ·simp only[if_neg h];exact hs
theorem abt {f:Mach->Mach}(h1:∀m d,f (m.up d)=(f m).up d)(h2:∀m,Grew m (f m)){g:Mach->Nat}(h3:∀m d,g (m.up d)=g m):abF fun m=> .ok (g m) (f m):=
 ⟨fun m d=>by show Res.ok _ _=Res.ok _ _;rw[h1,h3],h2,fun m k i m' h=>by cases h⟩
theorem gA (E:IEnv)(o:IOp)(a b:Nat):abF (mU E o a b):=by
 have j:∀(a:Nat),abF fun m=> .ok (tC m a) m:=fun a=>abt (f:=id) (g:=fun m=>tC m a) (fun _ _=>rfl) (fun m=>Grew.refl m) (fun _ _=>rfl)
 have c:∀(a:Nat),abF fun m=> .ok (tC m a+256*tC m (yg a)) m:=fun a=>abt (f:=id) (g:=fun m=>tC m a+256*tC m (yg a)) (fun _ _=>rfl) (fun m=>Grew.refl m) (fun _ _=>rfl)
 unfold mU;refine aaA (abk _) (aaA (abk _) (aaA (abk _) (aaA (abk _) (aaA ?_ (aaA ?_ (aaA ?_ (aaA ?_ (aaA ?_ (aaA ?_ (aaA ?_ (aaA ?_ ?_)))))))))))
 ·unfold pR;exact aaA (aaA (c a) (aaF Zd _)) (aaF Zd _)
 ·unfold abh;exact aaA (j a) (aaF Zd _)
 ·unfold sK;exact aaA (aaA (abt (f:=fun m=>(m.put a (b%256)).put (yg a) (b/256)) (g:=fun _=>0) (fun _ _=>rfl) (fun m=>(acp _ _ _).trans (acp _ _ _)) (fun _ _=>rfl)) (aaF Zd _)) (aaF Zd _)
 ·unfold td;exact aaA (abt (f:=fun m=>m.put a (b%256)) (g:=fun _=>0) (fun _ _=>rfl) (fun m=>acp _ _ _) (fun _ _=>rfl)) (aaF Zd _)
 ·unfold im;exact aaA (aaA (abk _) (aaF Zd _)) (aaF Zd _)
 ·unfold nX;exact aaA (abk _) (aaF Zd _)
 ·refine⟨fun m d=>?_,fun m=>?_,fun m k i m' h=>?_⟩
  ·unfold uq
   by_cases h:m.inputs<E.inn.length
   ·rw[if_pos h,if_pos (show(m.up d).inputs<_ from h)];rfl
   ·rw[if_neg h,if_neg (show ¬(m.up d).inputs<_ from h)];rfl
  ·unfold uq
   split
   ·exact⟨Je _,Nat.le_succ _,Je _⟩
   ·exact Grew.refl m
  ·unfold uq at h
   split at h<;>cases h
 ·unfold adS;exact abt (f:=fun m=> {m with out:=m.out++ [(o.n,a)]}) (g:=fun _=>0) (fun _ _=>rfl) (fun m=>⟨by simp,Je _,Je _⟩) (fun _ _=>rfl)
 ·unfold iy;exact aaA (aaF Zd _) (abk _)
abbrev gO:=Int->List Nat->Mach->Res Nat
variable {call':gO}
def fM (call:gO):Prop:=∀f args m,Grew m (call f args m).mch
theorem eI (E:IEnv){call:gO}(h:fM call)(m:Mach):Grew m (tY E call m).mch:=by
 unfold tY
 split
 ·split
  ·have:=h E.p.handler [] {m with polls:=m.polls+1 };have c:Grew m {m with polls:=m.polls+1 }:=⟨Je _,Je _,Nat.le_succ _⟩
   split
   ·rename_i e;rw[e] at this;exact c.trans this
   ·rename_i e;rw[e] at this;exact c.trans this
  ·exact⟨Je _,Je _,Nat.le_succ _⟩
 ·exact Grew.refl m
theorem eG (E:IEnv){call:gO}(h:fM call)(o:IOp)(v:Int->Nat)(m:Mach):Grew m (oV E call o v m).mch:=by
 unfold oV
 split
 ·exact h _ _ _
 ·split
  ·exact eI E h m
  ·exact(gA E o _ _).2.1 m
theorem ir (E:IEnv){call:gO}(h:fM call):∀(os:List IOp) (v:Int->Nat) (m:Mach),Grew m (iq E call os v m).mch
 | [],v,m=>Grew.refl m
 |o::os,v,m=>by
  unfold iq
  split
  ·exact Grew.refl m
  ·have h1:=(aaJ m).trans (eG E h o v m.pay)
   split
   ·rename_i e;rw[e] at h1;exact h1.trans (ir E h os _ _)
   ·rename_i e;rw[e] at h1;exact h1
theorem rn (E:IEnv){call:gO}(h:fM call)(blocks:List IBlk):∀(n:Nat) (at':Int) (args:List Nat) (v:Int->Nat) (m:Mach),Grew m (tJ E call blocks n at' args v m).mch
 |0,at',args,v,m=>Grew.refl m
 |n+1,at',args,v,m=>by
  unfold tJ;have h1:=ir E h (xz blocks at').ops (r7 (xz blocks at').params args v) m
  split
  ·rename_i e;rw[e] at h1;exact h1
  ·rename_i v2 m2 e
   rw[e] at h1;have h1:Grew m m2:=h1
   split
   ·exact h1
   ·split
    ·exact h1.trans (aaJ _)
    ·split
     ·exact h1.trans (aaJ _)
     ·exact(h1.trans (aaJ _)).trans (rn E h blocks n _ _ _ _)
theorem gu (E:IEnv):∀(r:Nat),fM (xW E r)
 |0,f,args,m=>Grew.refl m
 |r+1,f,args,m=>by
  unfold xW
  split
  ·exact Grew.refl m
  ·exact rn E (gu E r) _ _ _ _ _ _
def RelF {α:Type}(d:Int)(r r':Res α):Prop:=
 match r with
 |.ok x m=>r'=.ok x (m.up d)
 |.trap k i m=>(k≠7/\r'=.trap k i (m.up d))∨(k=7/\Grew m r'.mch)
def RelC (d:Int)(call call':gO):Prop:=∀f args m,RelF d (call f args m) (call' f args (m.up d))
theorem poll_rel(E:IEnv){call:gO}(h:RelC d call call')(m:Mach):RelF d (tY E call m) (tY E call' (m.up d)):=by
 unfold tY
 by_cases h1:m.polls<E.irq.length
 ·rw[if_pos h1,if_pos (show(m.up d).polls<_ from h1)]
  by_cases h2:E.irq.getD m.polls 0≠0/\E.p.handler≠-1
  ·rw[if_pos h2,if_pos (show E.irq.getD (m.up d).polls 0≠0/\_ from h2)];have:=h E.p.handler [] {m with polls:=m.polls+1 };have c:({m.up d with polls:=(m.up d).polls+1 }:Mach)=({m with polls:=m.polls+1 }:Mach).up d:=rfl;rw[c];generalize call E.p.handler [] {m with polls:=m.polls+1 }=r at *;generalize call' E.p.handler [] (({m with polls:=m.polls+1 }:Mach).up d)=r' at *
   cases r with
   |ok x m1=>rw[show r'=_ from this];exact rfl
   |trap k i m1=>
    rcases this with⟨hk,e⟩|⟨hk,hg⟩
    ·rw[e];exact .inl ⟨hk,rfl⟩
    ·refine .inr ⟨hk,?_⟩;cases r'<;>exact hg
  ·rw[if_neg h2,if_neg (show ¬(E.irq.getD (m.up d).polls 0≠0/\_) from h2)];exact rfl
 ·rw[if_neg h1,if_neg (show ¬(m.up d).polls<_ from h1)];exact rfl
theorem step_rel(E:IEnv){call:gO}(h:RelC d call call')(o:IOp)(v:Int->Nat)(m:Mach):RelF d (oV E call o v m) (oV E call' o v (m.up d)):=by
 unfold oV
 split
 ·exact h _ _ _
 ·split
  ·exact poll_rel E h m
  ·have hp:=gA E o (v o.a) (v o.b);rw[hp.1];have c:=hp.2.2 m;generalize mU E o (v o.a) (v o.b) m=r at *
   cases r with
   |ok x m1=>exact rfl
   |trap k i m1=>exact .inl ⟨c k i m1 rfl,rfl⟩
theorem adn(E:IEnv)(l:0<=d){call:gO}(h:RelC d call call')(hg:fM call'):∀(os:List IOp) (v:Int->Nat) (m:Mach),RelF d (iq E call os v m) (iq E call' os v (m.up d))
 | [],v,m=>rfl
 |o::os,v,m=>by
  have hgo:=ir E hg (o::os) v (m.up d);unfold iq
  by_cases j:m.fuel<=0
  ·rw[if_pos j];refine .inr ⟨rfl,?_⟩;unfold iq at hgo;exact(abQ m d).trans hgo
  ·have g:¬(m.up d).fuel<=0:=by show ¬m.fuel+d<=0;omega
   rw[if_neg j,if_neg g,up_pay];have hs:=step_rel E h o v m.pay;generalize oV E call o v m.pay=r at *;generalize oV E call' o v (m.pay.up d)=r' at *
   cases r with
   |ok x m1=>rw[show r'=_ from hs];exact adn E l h hg os _ m1
   |trap k i m1=>
    rcases hs with⟨hk,e⟩|⟨hk,c⟩
    ·rw[e];exact .inl ⟨hk,rfl⟩
    ·refine .inr ⟨hk,?_⟩
     cases r' with
     |ok x m2=>exact c.trans (ir E hg os _ _)
     |trap k2 i2 m2=>exact c
theorem fG(E:IEnv)(g:0<=d){call:gO}(h:RelC d call call')(hg:fM call')(blocks:List IBlk):∀(n n':Nat) (at':Int) (args:List Nat) (v:Int->Nat) (m:Mach),n<=n'->RelF d (tJ E call blocks n at' args v m) (tJ E call' blocks n' at' args v (m.up d))
 |0,n',at',args,v,m,_=> .inr ⟨rfl,(abQ m d).trans (rn E hg blocks n' at' args v (m.up d))⟩
 |n+1,0,at',args,v,m,hn=>by omega
 |n+1,n'+1,at',args,v,m,hn=>by
  have h1:=adn E g h hg (xz blocks at').ops (r7 (xz blocks at').params args v) m;have j:=rn E hg blocks (n'+1) at' args v (m.up d);unfold tJ at j ⊢;generalize iq E call (xz blocks at').ops (r7 (xz blocks at').params args v) m=r at *;generalize iq E call' (xz blocks at').ops (r7 (xz blocks at').params args v) (m.up d)=r' at *
  cases r with
  |trap k i m1=>
   rcases h1 with⟨hk,e⟩|⟨hk,c⟩
   ·rw[e];exact .inl ⟨hk,rfl⟩
   ·refine .inr ⟨hk,?_⟩
    cases r' with
    |trap k2 i2 m2=>exact c
    |ok v2 m2=>
     have c:Grew m1 m2:=c
     dsimp only
     split
     ·exact c
     ·split
      ·exact c.trans (aaJ _)
      ·split
       ·exact c.trans (aaJ _)
       ·exact(c.trans (aaJ _)).trans (rn E hg blocks n' _ _ _ _)
  |ok v2 m2=>
   rw[show r'=_ from h1]
   dsimp only
   by_cases o:m2.fuel<=0
   ·rw[if_pos o];refine .inr ⟨rfl,?_⟩
    split
    ·exact abQ _ _
    ·split
     ·exact(abQ _ d).trans (aaJ _)
     ·split
      ·exact(abQ _ d).trans (aaJ _)
      ·exact((abQ _ d).trans (aaJ _)).trans (rn E hg blocks n' _ _ _ _)
   ·have l:¬(m2.up d).fuel<=0:=by show ¬m2.fuel+d<=0;omega
    rw[if_neg o,if_neg l,up_pay]
    split
    ·exact rfl
    ·split
     ·exact .inl ⟨by decide,rfl⟩
     ·exact fG E g h hg blocks n n' _ _ _ _ Zo
theorem fT(E:IEnv)(hd:0<=d):∀(r:Nat),RelC d (xW E r) (xW E r)
 |0,f,args,m=> .inl ⟨by decide,rfl⟩
 |r+1,f,args,m=>by
  unfold xW
  split
  ·exact .inl ⟨by decide,rfl⟩
  ·exact fG E hd (fT E hd r) (gu E r) _ _ _ _ _ _ _ (by show m.fuel.toNat+1<=(m.fuel+d).toNat+1;omega)
theorem up_mk (r:List Nat)(f:Int)(o:List (Nat×Nat))(i p:Nat)(d:Int):(⟨r,f,o,i,p⟩:Mach).up d=⟨r,f+d,o,i,p⟩:=rfl
theorem eW(E:IEnv)(f:Int)(args:List Nat)(ram:ByteArray)(fuel:Int)(c:0<=d):
 ((bQ E f args ram fuel).kind≠7->bQ E f args ram (fuel+d)=bQ E f args ram fuel)/\
 ((bQ E f args ram fuel).kind=7->(bQ E f args ram fuel).value=0/\(bQ E f args ram fuel).out.length<=(bQ E f args ram (fuel+d)).out.length/\(bQ E f args ram fuel).inputs<=(bQ E f args ram (fuel+d)).inputs/\(bQ E f args ram fuel).polls<=(bQ E f args ram (fuel+d)).polls):=by
 have h:=fT E c 100 f args ⟨v7 ram,fuel,[],0,0⟩;unfold bQ;rw[up_mk] at h;generalize xW E 100 f args ⟨v7 ram,fuel,[],0,0⟩=r at *;generalize xW E 100 f args ⟨v7 ram,fuel+d,[],0,0⟩=r' at *
 cases r with
 |ok x m=>
  rw[show r'=_ from h]
  exact⟨fun _=>rfl,fun e=>by cases e⟩
 |trap k i m=>
  rcases h with⟨hk,e⟩|⟨hk,hg⟩
  ·rw[e];exact⟨fun _=>rfl,fun e=>absurd e hk⟩
  ·refine⟨fun e=>absurd hk e,fun _=>⟨rfl,?_⟩⟩
   cases r' with
   |ok x m'=>exact⟨hg.out,hg.inputs,hg.polls⟩
   |trap k' i' m'=>exact⟨hg.out,hg.inputs,hg.polls⟩
theorem eZ (E:IEnv)(f:Int)(args:List Nat)(ram:ByteArray)(fuel:Int)(hf:fuel<=0)(d:(E.p.funcs.getD f.toNat []).isEmpty=false):
 (bQ E f args ram fuel).kind=7/\(bQ E f args ram fuel).info=0/\(bQ E f args ram fuel).out=[]:=by
 unfold bQ xW;rw[if_neg (by rw[d];decide)];unfold tJ
 have c:∀os v,(iq E (xW E 99) os v ⟨v7 ram,fuel,[],0,0⟩=.ok v ⟨v7 ram,fuel,[],0,0⟩)∨iq E (xW E 99) os v ⟨v7 ram,fuel,[],0,0⟩=.trap 7 0 ⟨v7 ram,fuel,[],0,0⟩:=fun os v=>by
  cases os with
  |nil=>exact .inl rfl
  |cons o os=>right;unfold iq;rw[if_pos hf]
 rcases c (xz (E.p.funcs.getD f.toNat []) 0).ops (r7 (xz (E.p.funcs.getD f.toNat []) 0).params args fun _=>0) with e|e
 ·rw[e]
  dsimp only
  rw[if_pos hf];exact⟨rfl,rfl,rfl⟩
 ·rw[e];exact⟨rfl,rfl,rfl⟩
end Go.Proofs.Ytojclalkfhoooaa
