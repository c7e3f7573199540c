/- Part of a proof. -/
import Derived.Test.YtojclalkfhoooaaTur3
set_option linter.all false
set_option maxHeartbeats 2000000
set_option maxRecDepth 100000
namespace Go.Proofs.Ytojclalkfhoooaa
open Go.RowKit
variable {l:List Int}{w:World}{M what:Nat}{o:IOp}{q0 q1 q2:Int}
def ek (l:List Int):Nat->ByteArray
 |0=>⟨#[]⟩
 |k+1=>((if 0<k then ek l k++(⟨#[44,32]⟩:ByteArray) else ek l k)++(⟨#[118]⟩:ByteArray))++sg (l.getD k 0)
def mc (l:List Int):ByteArray:=ek l l.length
theorem wv(h:∀x∈l,I64 x):∀k,(ek l k).size<=24*k
 |0=>Je _
 |k+1=>by
  have h1:=wv h k
  have h2:(sg (l.getD k 0)).size<=21:=wk (by
   rw[Jj]
   cases e:l[k]? with
   |none=>exact pZ
   |some x=>exact h x (Ji e))
  have z1:(⟨#[44,32]⟩:ByteArray).size=2:=rfl;have z2:(⟨#[118]⟩:ByteArray).size=1:=rfl;unfold ek;rw[ByteArray.size_append,ByteArray.size_append]
  split
  ·rw[ByteArray.size_append];omega
  ·omega
theorem gn{v:Value}(h:zY w w.heap.size v l)(hl:l.length<=4000000)(h64:∀x∈l,I64 x):
 G 87 #[v] w (fun e w'=>e=.returned (.string (mc l))/\L w w'):=by
 obtain⟨a,c,rfl,hc,hm⟩:=h.form;have H:=Ja (Jb h h64);clear h h64 hc hm;go_enter Try.func87,Try.ntmps87;go_wp2
 go_loopw [3,4] (fun sv kv wx=>∃k:Nat,k<=l.length/\sv=.string (ek l k)/\kv=O k/\L w wx) (fun _ kv _=>l.length-(intOf kv).toNat)
 case atStart=>exact⟨0,Jt _,rfl,rfl,Below.refl _ _⟩
 case round=>
  obtain⟨k,hk,rfl,rfl,hb⟩:=hrel
  by_cases m:k<l.length
  ·obtain⟨x,j⟩:∃x,l[k]? =some x:=⟨_,Jd m⟩
   have t:(k:Int)<(l.length:Int):=Zo;obtain⟨ab,ao,ea,a2,r,_⟩:=((H.out.1.below zO hb).mono zO hb.size).get j;rw[Nk] at r;have g:l.getD k 0=x:=by rw[Jj,j];rfl
   have a0:=wv H.out.2 k;have i:=H.out.2 x (Ji j);have a1:=wk i;have z1:(⟨#[44,32]⟩:ByteArray).size=2:=rfl;have z2:(⟨#[118]⟩:ByteArray).size=1:=rfl;have u:=Ja (fun W=>ma W x i);have q:=Ja hb;have d:ek l (k+1)=((if 0<k then ek l k++(⟨#[44,32]⟩:ByteArray) else ek l k)++(⟨#[118]⟩:ByteArray))++sg x:=by rw[<-g];rfl
   have HT:=Ja d;subst ea
   by_cases h0:0<k
   ·have y:(0:Int)<(k:Int):=Zo;clear d hb j g;go_wp2_with (go_at_call 86;go_must (refine(u.out _).mono ?_;rintro e w1 ⟨rfl,o⟩))
    all_goals first
     |(exfalso;simp only[ByteArray.size_append] at *;omega)
     |(refine⟨⟨k+1,m,by rw[HT.out,if_pos h0],by go_num,q.out.trans (o.mono q.out.size)⟩,by simp[intOf];omega⟩)
   ·obtain rfl:k=0:=by omega
    have y:¬(0:Int)<((0:Nat):Int):=Zo;rw[Uk] at r;clear d hb j g;go_wp2_with (go_at_call 86;go_must (refine(u.out _).mono ?_;rintro e w1 ⟨rfl,o⟩))
    all_goals first
     |(exfalso;simp only[ByteArray.size_append] at *;omega)
     |(refine⟨⟨1,m,by rw[HT.out,if_neg h0],by go_num,q.out.trans (o.mono q.out.size)⟩,by simp[intOf];omega⟩)
  ·obtain rfl:k=l.length:=by omega
   have t:¬(l.length:Int)<(l.length:Int):=Zo;go_wp2;go_ret;exact⟨rfl,hb⟩
theorem jm {E:ME}(c:∀x∈E.args,0<=x/\x<4)(pos:Nat):(xR E pos).sz<=pos+2869:=by
 have h1:=(rx c pos).sz;have h2:=sQ c pos;omega
theorem qJ (s:List Int):∀(n k:Nat),k<n->(zg s n).1[k]? =some (xR (xC s k) (zg s k).2).f
 |n+1,k,h=>by
  show((zg s n).1++ [_])[k]? =_
  by_cases hk:k<n
  ·rw[Np (by rw[yx];exact hk)];exact qJ s n k hk
  ·have e:k=n:=Zo;subst e;rw[Nc (by rw[yx];exact Je _),yx,Qy];rfl
theorem qA (s:List Int):(uR s).funcs.length=mdN s:=by
 unfold uR;simp only
 split
 ·rw[Nd,yx]
 ·exact yx s _
theorem kz (s:List Int){k:Nat}(hk:k<mdN s):(uR s).funcs[k]? =some []/\qV s=true/\k=mdN s-1∨(uR s).funcs[k]? =some (xR (xC s k) (zg s k).2).f:=by
 have h:=qJ s (mdN s) k hk;unfold uR;simp only
 split
 ·rename_i c
  by_cases e:k=mdN s-1
  ·left;subst e;exact⟨Nn (by rw[yx];exact hk),c,rfl⟩
  ·right;rw[Ns (fun e2=>e e2.symm)];exact h
 ·exact .inr h
theorem lz (s:List Int)(k:Nat)(hk:k<mdN s):(xR (xC s k) (zg s k).2).sz<=15000:=by
 have h1:=tU s k;have h2:=jm (E:=xC s k) (xy s _) (zg s k).2;have:=sm s;omega
structure SmB (N:Nat) (b:IBlk):Prop where
 par:b.params.length<=N
 ops:b.ops.length<=N
 tos:b.term.to.length<=N
 oarg:∀o∈b.ops,o.args.length<=N
 earg:∀e∈b.term.to,e.args.length<=N
structure SmP (N:Nat) (p:IProg):Prop where
 fn:p.funcs.length<=N
 fs:∀f∈p.funcs,f.length<=N/\∀b∈f,SmB N b
 ar:p.args.length<=N
 da:p.data.length<=N
 ba:p.banks.length<=N
theorem SmB.mono{N:Nat}(c:N<=M){b:IBlk}(h:SmB N b):SmB M b:=⟨by have:=h.par;omega,by have:=h.ops;omega,by have:=h.tos;omega,fun o ho=>by have:=h.oarg o ho;omega,fun o ho=>by have:=h.earg o ho;omega⟩
theorem SmP.mono{N:Nat}(c:N<=M){p:IProg}(h:SmP N p):SmP M p:=
 ⟨by have:=h.fn;omega,fun f hf=>⟨by have:=(h.fs f hf).1;omega,fun b hb=>((h.fs f hf).2 b hb).mono c⟩,by have:=h.ar;omega,by have:=h.da;omega,by have:=h.ba;omega⟩
theorem SmP.small {N:Nat}{p:IProg}(h:SmP N p)(c:N<=2000000):SmallP p:=by
 have h:=h.mono c;exact⟨⟨h.fn,fun f hf=>⟨⟨(h.fs f hf).1,fun b hb=>⟨((h.fs f hf).2 b hb).par,((h.fs f hf).2 b hb).ops,((h.fs f hf).2 b hb).tos⟩⟩,fun b hb=>⟨((h.fs f hf).2 b hb).oarg,((h.fs f hf).2 b hb).earg⟩⟩⟩,h.ar,h.da,h.ba⟩
theorem SmP.sized {N:Nat}{p:IProg}(h:SmP N p)(c:N<=65536):mW p:=fun f hf=>
 ⟨(((h.mono (show N<=2000000 by omega)).small (Je _)).fn.2 f hf).1,fun b hb=>by have:=((h.fs f hf).2 b hb).par;omega⟩
theorem acZ {f:List IBlk}{b:IBlk}(h:b∈f):b.ops.length<=nN f:=by
 unfold nN
 induction f with
 |nil=>cases h
 |cons x f ih=>
  rw[Ql,List.sum_cons];rcases Jq.1 h with rfl|h
  ·omega
  ·have:=ih h;omega
theorem vF{α:Type}{sz:Nat}{R:World->Nat->Nat->Nat->α->Prop}{B:Nat}{v:Value}{xs:List α}(h:yN sz R w B v xs){x:α}(c:x∈xs):∃b o,R w B b o x:=by
 obtain⟨k,hk⟩:=Ny c;obtain⟨a,d,rfl,_,_,h3⟩:=h;obtain⟨b,o,_,_,hr⟩:=h3 k x hk;exact⟨b,_,hr⟩
theorem rI{B:Nat}{v:Value}{xs:List Int}(h:zY w B v xs):∀x∈xs,I64 x:=fun x hx=>by
 obtain⟨b,o,hr⟩:=vF h hx;exact hr.2
theorem ProgIn.p64{B:Nat}{V:PV}{p:IProg}(h:ProgIn w B V p):P64 p:=by
 refine⟨fun f hf b hb=>?_,rI h.args,fun o ho=>?_,fun s hs=>?_,h.ent,h.hnd⟩
 ·obtain⟨x,y,bv,_,d⟩:=vF h.funcs hf;obtain⟨x,y,_,_,h3,pv,ov,tv,_,_,_,j,i,g⟩:=vF d hb;refine⟨rI j,fun o ho=>?_,h3,fun e he=>?_⟩
  ·obtain⟨x,y,_,_,_,_,_,k,av,_,c⟩:=vF i ho;exact⟨k,rI c⟩
  ·obtain⟨x,y,_,h2,av,_,c⟩:=vF g he;exact⟨h2,rI c⟩
 ·obtain⟨x,y,_,_,_,l⟩:=vF h.data ho;exact l
 ·obtain⟨x,y,h1,h2⟩:=vF h.banks hs;exact h2
theorem yb {α:Type}{P:α->Prop}{l:List α}{i:Nat}{g:α->α}(h:∀x∈l,P x)(hg:∀x∈l,P (g x)):∀x∈wD l i g,P x:=by
 unfold wD
 split
 ·rename_i y d
  intro x c;rcases Qe c with c|rfl
  ·exact h x c
  ·exact hg y (Ji d)
 ·exact h
theorem tD (x:Int)(h1:-1000000<=x)(h2:x<=1000000):I64 x:=⟨by omega,by omega⟩
theorem spO_sm{N n:Nat}(h:o.args.length<=N):(spO what n o).args.length<=N+1:=by
 unfold spO
 split<;>first|(show o.args.length<=_;omega)|(show(o.args++ [_]).length<=_;rw[Jk];show _+1<=_;omega)
theorem spoil_sm{N n:Nat}{b:IBlk}(h:SmB N b):SmB (N+1) (xh what n b):=by
 have hm:=h.mono (Nat.le_succ N);unfold xh
 split
 ·split
  ·exact hm
  split
  ·split
   ·rename_i x y d c
    refine⟨hm.par,by show((b.ops.set _ _).set _ _).length<=_;rw[Nd,Nd];exact hm.ops,hm.tos,fun o ho=>?_,hm.earg⟩;rcases Qe ho with ho|rfl
    ·rcases Qe ho with ho|rfl
     ·exact hm.oarg o ho
     ·exact hm.oarg _ (Ji c)
    ·exact hm.oarg _ (Ji d)
   ·exact hm
  split
  ·exact⟨hm.par,by show(b.ops.take _).length<=_;rw[Oc];have:=hm.ops;omega,hm.tos,fun o ho=>hm.oarg o (List.mem_of_mem_take ho),hm.earg⟩
  ·exact⟨hm.par,by show(wD b.ops _ _).length<=_;rw[xZ];exact hm.ops,hm.tos,yb hm.oarg (fun o ho=>spO_sm (h.oarg o ho)),hm.earg⟩
 split
 ·exact⟨by show(b.params++ [_]).length<=_;rw[Jk];have:=h.par;show _+1<=_;omega,hm.ops,hm.tos,hm.oarg,hm.earg⟩
 split
 ·exact⟨hm.par,hm.ops,hm.tos,hm.oarg,hm.earg⟩
 split
 ·exact⟨hm.par,hm.ops,hm.tos,hm.oarg,hm.earg⟩
 split
 ·exact⟨hm.par,hm.ops,by show(wD b.term.to _ _).length<=_;rw[xZ];exact hm.tos,hm.oarg,yb (P:=fun e:IEdge=>e.args.length<=N+1) hm.earg (fun e he=>hm.earg e he)⟩
 split
 ·exact⟨hm.par,hm.ops,by show(wD b.term.to _ _).length<=_;rw[xZ];exact hm.tos,hm.oarg,yb (P:=fun e:IEdge=>e.args.length<=N+1) hm.earg (fun e he=>by
   show(e.args++ [_]).length<=_
   rw[Jk];have:=h.earg e he
   show _+1<=_
   omega)⟩
 ·exact hm
theorem acA {N:Nat}{p:IProg}(h:SmP N p)(q0 q1 q2:Int):SmP (N+1) (wR p q0 q1 q2):=by
 have hm:=h.mono (Nat.le_succ N);unfold wR rA
 split
 ·exact⟨hm.fn,hm.fs,by show(p.args++ [_]).length<=_;rw[Jk];have:=h.ar;show _+1<=_;omega,hm.da,hm.ba⟩
 split
 ·exact⟨hm.fn,hm.fs,hm.ar,hm.da,hm.ba⟩
 split
 ·exact⟨hm.fn,hm.fs,hm.ar,hm.da,hm.ba⟩
 split
 ·exact⟨hm.fn,hm.fs,hm.ar,by show(p.data++ [_]).length<=_;rw[Jk];have:=h.da;show _+1<=_;omega,hm.ba⟩
 split
 ·exact⟨hm.fn,hm.fs,hm.ar,hm.da,by show(p.banks++ [_]).length<=_;rw[Jk];have:=h.ba;show _+1<=_;omega⟩
 split
 ·refine⟨by show(wD p.funcs _ _).length<=_;rw[xZ];exact hm.fn,yb hm.fs (fun f hf=>?_),hm.ar,hm.da,hm.ba⟩
  split
  ·exact hm.fs f hf
  ·refine⟨by rw[Jk];have:=(h.fs f hf).1;show _+1<=_;omega,fun b hb=>?_⟩;rcases Jl.1 hb with hb|hb
   ·exact(hm.fs f hf).2 b hb
   ·rw[Jo] at hb;subst hb;exact⟨Jt _,Jt _,Jt _,(fun o ho=>by cases ho),(fun e he=>by cases he)⟩
 ·refine⟨by show(wD p.funcs _ _).length<=_;rw[xZ];exact hm.fn,yb hm.fs (fun f hf=>?_),hm.ar,hm.da,hm.ba⟩;unfold lW;exact⟨by rw[xZ];exact(hm.fs f hf).1,yb (hm.fs f hf).2 (fun b hb=>spoil_sm ((h.fs f hf).2 b hb))⟩
theorem spO_64{n:Nat}(j:n<65536)(h:qN o/\∀x∈o.args,I64 x):qN (spO what n o)/\∀x∈(spO what n o).args,I64 x:=by
 obtain⟨⟨h1,h2,h3,i,g⟩,c⟩:=h;unfold spO
 split
 ·exact⟨⟨(show I64 ((n:Int)/7%30) from tD _ Zo Zo),h2,h3,i,g⟩,c⟩
 ·exact⟨⟨h1,(show I64 ((n:Int)/7%40-2) from tD _ Zo Zo),h3,i,g⟩,c⟩
 ·exact⟨⟨h1,h2,(show I64 ((n:Int)/7%40-2) from tD _ Zo Zo),i,g⟩,c⟩
 ·exact⟨⟨h1,h2,h3,(show I64 ((n:Int)/7%40) from tD _ Zo Zo),g⟩,c⟩
 ·exact⟨⟨h1,h2,h3,i,by show n/7%300<65536;omega⟩,c⟩
 ·refine⟨⟨h1,h2,h3,i,g⟩,fun x d=>?_⟩;rcases Jl.1 d with d|d
  ·exact c x d
  ·rw[Jo] at d;subst d;exact tD _ Zo Zo
 ·exact⟨⟨h1,h2,h3,i,g⟩,c⟩
theorem spoil_64{n:Nat}(g:n<65536){b:IBlk}(h:B64 b):B64 (xh what n b):=by
 unfold xh
 split
 ·split
  ·exact h
  split
  ·split
   ·rename_i x y c d
    refine⟨h.par,fun o ho=>?_,h.term,h.tos⟩;rcases Qe ho with ho|rfl
    ·rcases Qe ho with ho|rfl
     ·exact h.ops o ho
     ·exact h.ops _ (Ji d)
    ·exact h.ops _ (Ji c)
   ·exact h
  split
  ·exact⟨h.par,fun o ho=>h.ops o (List.mem_of_mem_take ho),h.term,h.tos⟩
  ·exact⟨h.par,yb h.ops (fun o ho=>spO_64 g (h.ops o ho)),h.term,h.tos⟩
 split
 ·refine⟨fun x c=>?_,h.ops,h.term,h.tos⟩;rcases Jl.1 c with c|c
  ·exact h.par x c
  ·rw[Jo] at c;subst c;exact tD _ Zo Zo
 split
 ·exact⟨h.par,h.ops,⟨tD _ (by show -1000000<=(n:Int)%7;omega) (by show(n:Int)%7<=1000000;omega),h.term.2⟩,h.tos⟩
 split
 ·exact⟨h.par,h.ops,⟨h.term.1,tD _ (by show -1000000<=(n:Int)%40-2;omega) (by show(n:Int)%40-2<=1000000;omega)⟩,h.tos⟩
 split
 ·exact⟨h.par,h.ops,h.term,yb (P:=fun e:IEdge=>I64 e.block/\∀x∈e.args,I64 x) h.tos (fun e he=>⟨tD _ (by show -1000000<=(n:Int)%9-1;omega) (by show(n:Int)%9-1<=1000000;omega),(h.tos e he).2⟩)⟩
 split
 ·exact⟨h.par,h.ops,h.term,yb (P:=fun e:IEdge=>I64 e.block/\∀x∈e.args,I64 x) h.tos (fun e he=>⟨(h.tos e he).1,fun x c=>by
   rcases Jl.1 c with c|c
   ·exact(h.tos e he).2 x c
   ·rw[Jo] at c;subst c;exact tD _ Zo Zo⟩)⟩
 ·exact h
theorem turn_64 {p:IProg}(h:P64 p)(q0 q1 q2:Int):P64 (wR p q0 q1 q2):=by
 have d:=turnN_lt q2;unfold wR rA;generalize uS q2=n at *
 split
 ·refine⟨h.funcs,fun x c=>?_,h.data,h.banks,h.ent,h.hnd⟩;rcases Jl.1 c with c|c
  ·exact h.args x c
  ·rw[Jo] at c;subst c;exact tD _ Zo Zo
 split
 ·exact⟨h.funcs,h.args,h.data,h.banks,tD _ (by show -1000000<=(n:Int)%7-1;omega) (by show(n:Int)%7-1<=1000000;omega),h.hnd⟩
 split
 ·exact⟨h.funcs,h.args,h.data,h.banks,h.ent,tD _ (by show -1000000<=(n:Int)%7-2;omega) (by show(n:Int)%7-2<=1000000;omega)⟩
 split
 ·refine⟨h.funcs,h.args,fun x c=>?_,h.banks,h.ent,h.hnd⟩;rcases Jl.1 c with c|c
  ·exact h.data x c
  ·rw[Jo] at c;subst c;refine⟨tD _ (by show -1000000<=(n:Int)%4-2;omega) (by show(n:Int)%4-2<=1000000;omega),?_,by show n/16%4<65536;omega⟩
   show lY _<65536
   unfold lY
   split<;>(try split)<;>(try split)<;>omega
 split
 ·refine⟨h.funcs,h.args,h.data,fun x c=>?_,h.ent,h.hnd⟩;rcases Jl.1 c with c|c
  ·exact h.banks x c
  ·rw[Jo] at c;subst c
   have:(xV (4096-n%3/2)).size<=4096:=by
    unfold xV y9;rw[strOfNums_size];simp<;>omega
   omega
 split
 ·refine⟨yb h.funcs (fun f hf=>?_),h.args,h.data,h.banks,h.ent,h.hnd⟩
  split
  ·exact h.funcs f hf
  ·intro b hb;rcases Jl.1 hb with hb|hb
   ·exact h.funcs f hf b hb
   ·rw[Jo] at hb;subst hb;exact⟨(fun x c=>by cases c),(fun o ho=>by cases ho),⟨tD _ Zd Zd,tD _ Zd Zd⟩,(fun e he=>by cases he)⟩
 ·refine⟨yb h.funcs (fun f hf=>?_),h.args,h.data,h.banks,h.ent,h.hnd⟩;unfold lW;exact yb (h.funcs f hf) (fun b hb=>spoil_64 d (h.funcs f hf b hb))
theorem gj (n m:Nat):∃k:Nat,(k:Int)=(if(m:Int)<(n:Int) then(m:Int) else(n:Int))/\k=min m n:=⟨min m n,by split<;>omega,rfl⟩
theorem lw{α:Type}{sz:Nat}{R:World->Nat->Nat->Nat->α->Prop}{B:Nat}{a:Option Addr}{c:Nat}{xs:List α}(h:yN sz R w B (.slice a xs.length c) xs)(m:Nat):yN sz R w B (.slice a (min m xs.length) c) (xs.take m):=by
 obtain⟨a',d,e,h1,h2,h3⟩:=h;cases e;exact⟨a,c,by rw[Oc],by rw[Oc];omega,h2,fun k x hk=>h3 k x (by rw[Ug] at hk;split at hk;exact hk;cases hk)⟩
def oC (w:World)(p:IProg)(e:Ending)(w':World):Prop:=∃(fa:Option Addr) (fc:Nat) (aa:Option Addr) (ac:Nat) (da:Option Addr) (dc:Nat) (ba:Option Addr) (bc:Nat),e=.returned (.agg (P p fa fc aa ac da dc ba bc))/\
 ProgIn w' w'.heap.size ⟨.slice fa p.funcs.length fc,.slice aa p.args.length ac,.slice da p.data.length dc,.slice ba p.banks.length bc⟩ p/\L w w'
theorem nE{w0:World}{V:PV}{p:IProg}(h:ProgIn w w.heap.size V p)(hb:L w0 w):oC w0 p (.returned (yH V p)) w:=by
 obtain⟨fa,fc,h1,_,_⟩:=h.funcs.form;obtain⟨aa,ac,h2,_,_⟩:=h.args.form;obtain⟨da,dc,h3,_,_⟩:=h.data.form;obtain⟨ba,bc,c,_,_⟩:=h.banks.form;obtain⟨v1,v2,v3,v4⟩:=V;simp only at h1 h2 h3 c;subst h1 h2 h3 c;exact⟨fa,fc,aa,ac,da,dc,ba,bc,rfl,h,hb⟩
theorem qu (w:World)(r o:Nat)(vs:List Value):Below r w (w.setCells r o vs):=
 ⟨(ze r vs o w).1,(ze r vs o w).2.1,(ze r vs o w).2.2,Ul (y8 r vs o w).symm,fun k hk=>ye r k Zo vs o w⟩
theorem pJ{r o L:Nat}{vs:List Value}(h:r<L):StaysL L w (w.setCells r o vs):=
 ⟨Ul (y8 r vs o w).symm,⟨(ze r vs o w).1,(ze r vs o w).2.1,(ze r vs o w).2.2⟩,fun k hk _=>ye r k Zo vs o w⟩
theorem abW{s:List Int}{sv:Value}(hs:zY w w.heap.size sv s):G 18 #[sv] w (oC w (uR (s.take 200))):=by
 obtain⟨sa,sc,rfl,a3,a2⟩:=hs.form;obtain⟨k,hk,m⟩:=gj s.length 200;have a0:∀(ts:Array TypeId) (t:TypeId) (W:World),(Builtin.min_ ts t #[O (s.length:Int),O 200]).run Try.prog W=.ok (O k) W:=fun ts t W=>by rw[hk];exact run_min_int2 ..
 have a4:(k:Int)<=(sc:Int):=Zo;have u:=lw hs 200;rw[<-m] at u
 have hm:∀W,L w W->G 44 #[.slice sa k sc] W (fun e w'=>oC W (uR (s.take 200)) e w'/\∃V,e=.returned (yH V (uR (s.take 200)))/\∀U,StaysL W.heap.size w' U->ProgIn U U.heap.size V (uR (s.take 200))):=fun W hb=>(jP ((u.below zO hb).mono zO hb.size)).mono fun e w' ⟨V,he,hp,d⟩=>by
  subst he;exact⟨nE (hp _ (StaysL.refl _ _)) d,V,rfl,hp⟩
 have a1:(uR (s.take 200)).funcs.length<=4:=by rw[qA];exact(sm _).2
 generalize uR (s.take 200)=p at *;have HM:=Ja hm;clear hm hk m u hs;have q:L w (w.alloc (A #[F,F,O 0,O 0,F,F] 29)):=(Below.refl _ _).alloc (Je _) _;have j:=zI (W:=w) (o:=A #[F,F,O 0,O 0,F,F] 29) rfl;have h:=Ja (Jb q j);clear q j;go_enter Try.func18,Try.ntmps18;go_wp2_with (go_at_call 44;go_must (refine(HM.out _ h.out.1).mono ?_;rintro e w1 ⟨⟨fa,fc,aa,ac,da,dc,ba,bc,rfl,hp,g⟩,V,hV,l⟩;have c:=zH g h.out.2 (lt_of_block h.out.2);have c0:=zA (i:=0) c rfl;have c1:=zA (i:=1) c rfl;have c2:=zA (i:=2) c rfl;have c3:=zA (i:=3) c rfl;have c4:=zA (i:=4) c rfl;have c5:=zA (i:=5) c rfl;have cf:∀i,N w1 w.heap.size i:=fun i=>zE c;have cl:=lt_of_block c;have x:=Ja (Jb hp (Jb g (Jb c (Jb hV l))));clear hp g c hV l))
 refine bodyPost_ret (v:=.agg (P p fa fc aa ac da dc ba bc)) ?_ rfl ?_
 ·rw[zM rfl];go_simp
 ·have d:=h.out.1.trans (x.out.2.1.mono h.out.1.size);have y:(w.alloc (A #[F,F,O 0,O 0,F,F] 29)).heap.size=w.heap.size+1:=by simp
  have hz:Below w.heap.size w1 (w1.setCells w.heap.size 0 [.slice fa p.funcs.length fc,.slice aa p.args.length ac,O p.entry,O p.handler,.slice da p.data.length dc,.slice ba p.banks.length bc]):=qu _ _ _ _;have hU:=x.out.2.2.2.2 _ (pJ (vs:=[.slice fa p.funcs.length fc,.slice aa p.args.length ac,O p.entry,O p.handler,.slice da p.data.length dc,.slice ba p.banks.length bc]) (o:=0) (w:=w1) (r:=w.heap.size) (by rw[y];omega));have hr:=nE hU (d.trans hz);rw[<-x.out.2.2.2.1] at hr;exact hr
theorem jO{V:PV}{p:IProg}(hp:ProgIn w w.heap.size V p)(hs:SmallP p)(hq:I64 q0/\I64 q1/\I64 q2)(hw:yn q0=13):
 G 19 #[yH V p,.agg #[O q0,O q1,O q2]] w (pd w (wR p q0 q1 q2)):=by
 obtain⟨fa,fc,a9,e1,d8⟩:=hp.funcs.form;obtain⟨aa,ac,b2,f2,f1⟩:=hp.args.form;obtain⟨da,dc,b0,e7,e6⟩:=hp.data.form;obtain⟨ba,bc,b1,f0,e8⟩:=hp.banks.form;obtain⟨p1,d4⟩:∃p1,w.heap.size=p1:=⟨_,rfl⟩
 have a6:∀W,L w W->G 36 #[.agg (P p fa fc aa ac da dc ba bc)] W _:=fun W hb=>by
  have h:=uJ ((hp.below hb).mono hb.size) hs;unfold yH at h;rw[a9,b2,b0,b1] at h;exact h
 unfold yH;rw[a9,b2,b0,b1];obtain⟨n,hn⟩:∃n,uS q2=n:=⟨_,rfl⟩
 have d5:q2%65536=(n:Int):=by rw[<-hn];unfold uS;omega
 have g6:n<65536:=Zo;obtain⟨what,b5⟩:∃k,yn q0=k:=⟨_,rfl⟩
 have g5:-20<q0.tmod 20/\q0.tmod 20<20:=⟨by have:=Qu q0 (show(0:Int)<20 by decide);omega,Qv q0 Zd⟩
 have b6:(q0.tmod 20+20)%20=(what:Int):=by
  rw[<-b5];unfold yn;have h1:=Ob q0 (show(20:Int)≠0 by decide);rw[Oa h1];have h2:=Qs q0 20;omega
 have a65:=yt q2;rw[d5] at a65;have a65b:=yt q1;have g8:=hs.fn.1;have b9:L w (((w.alloc (A (P p fa fc aa ac da dc ba bc) 29)).alloc (A #[O q0,O q1,O q2] 23)).alloc (A #[F,F,O 0,O 0,F,F] 29)):=(((Below.refl _ _).alloc (Je _) _).alloc Zs _).alloc Zt _;have b4:=Ja a6;have c3:=Ja b9;have HP:=Ja (Jb hs (Jb hn b5));clear a6 b9 hp hs a9 b2 b0 b1 e1 d8 f2 f1 e7 e6 f0 e8 hn hq;have d2:=HP.out.2.2.symm.trans hw;subst d2;have a5:(q0.tmod 20+20)%20=13:=b6;clear b6;go_enter Try.func19,Try.ntmps19;go_upto_region 2 with(go_at_call 36;go_must (refine(b4.out _ c3.out).mono ?_;rintro e w2 ⟨t,a2,a1,aa2,ac2,a4,a3,ba2,bc2,rfl,hV,ht,hr,hb⟩;have g:=Ja (Jb hV (Jb ht (Jb hr hb)));clear hV ht hr hb))
 have m:t.entry=p.entry/\t.handler=p.handler:=by rw[<-g.out.2.1];exact⟨rfl,rfl⟩
 have j:(zW t).toArray=P p a2 a1 aa2 ac2 a4 a3 ba2 bc2:=by
  unfold zW;rw[g.out.1.1,g.out.1.2.1,g.out.1.2.2.1,g.out.1.2.2.2,m.1,m.2]
 obtain⟨o5,a7⟩:∃o5,w2.heap.size=o5:=⟨_,rfl⟩
 have hm:TuMid w p1 o5 q0 q1 q2 t (w2.alloc (A (zW t).toArray 29)):=TuMid.start d4 a7 g.out.2.2.1 g.out.2.2.2;rw[j] at hm;generalize f4:w2.alloc (A (P p a2 a1 aa2 ac2 a4 a3 ba2 bc2) 29)=W3 at *;clear f4;rw[a7];clear a7;have ho:=hm.ho;rw[j] at ho;have f7:=zA (i:=0) hm.hq rfl;have f6:=zA (i:=1) hm.hq rfl;have f5:=zA (i:=2) hm.hq rfl;have g3:=zA (i:=0) ho rfl;have g2:=zA (i:=1) ho rfl;have f9:=zA (i:=4) ho rfl;have f8:=zA (i:=5) ho rfl;have of:∀i,N W3 o5 i:=fun i=>zE ho
 have g1:=zA (i:=2) ho rfl;have g0:=zA (i:=3) ho rfl;have ol:=lt_of_block ho;have HM:=Ja (Jb hm (Jb ho (Jb j m)));have HV:=Ja g.out.1;have c0:=Ja g.out.2.1;clear hm ho j m g b4 c3;obtain⟨f,hf⟩:∃f,uk p q1=f:=⟨_,rfl⟩
 have HF:=Ja hf;clear hf
 go_upto_if 23 with fail
 go_cut [7,8] (fun s7 s8 wx=>s7=O 13/\s8=O f/\W3=wx)
 case first=>
  have hf:=HF.out;unfold uk at hf
  by_cases a0:0<p.funcs.length
  ·rw[if_pos a0] at hf;have c8:(0:Int)<(p.funcs.length:Int):=Zo
   have e4:(q1%65536)%(p.funcs.length:Int)=(f:Int):=by
    rw[<-hf,Ou,Oa (Ob _ Zd)]
   have h0:0<=q1%65536:=Ob _ Zd;clear hf a0;go_wp2;go_meet;exact⟨by first|rfl|rw[a5],by first|rfl|rw[e4],rfl⟩
  ·rw[if_neg a0] at hf;have c8:¬(0:Int)<(p.funcs.length:Int):=Zo;subst hf;clear a0;go_wp2;go_meet;exact⟨by first|rfl|rw[a5],rfl,rfl⟩
 case rest=>
 obtain⟨rfl,rfl,rfl⟩:=hcut;have g7:=HM.out.1.ge;have g4:=HP.out.1.ar;have y:t.args=p.args:=by rw[<-c0.out];rfl
 have q:W3.ownsRow (p1+1+1+1) 3 1 (.slice aa2 p.args.length ac2) (p.args.length) (p.args.map zN):=by
  have h1:=HM.out.1.rows.own (zP t.av t.args) (row_args t).1;have e:=HV.out.2.1;rw[e] at h1;have h2:W3.ownsRow (p1+1+1+1) 3 1 (.slice aa2 p.args.length ac2) (t.args.length) _:=h1;rw[y] at h2;exact h2
 have b7:(Value.slice aa2 p.args.length ac2).ownBlock≠some o5:=zC q HM.out.2.1 (.inr Zd);have HR:=Ja (Jb q (Jb b7 y));obtain⟨ii,d7,c7,c5,c4⟩:=info_parts Try.info_int;clear q b7 y;go_upto_region 24 with(at_builtin;go_must (refine zK _ rfl (.tmp 71) (.tmp 75) 22 (by rfl) (p1+1+1+1) 3 ii (O 0) 1 8 Try.underlying22 d7 c7 c5 c4 rfl Zo (.slice aa2 p.args.length ac2) (p.args.length) (p.args.map zN) (by rfl) (HR.out.1.alloc _) (Q W3.heap.size 1 1) 1 [O ((n:Int)%10-1)] (by rfl) (yM.one (zI rfl) rfl) (by unfold maxLen;omega) Zo Zt ?_;intro v9 w9 l d b3;obtain⟨ra,rc,rfl⟩:=zG l;have o:=zL d (zB HM.out.2.1) HR.out.2.1;have d0:=zA (i:=0) o rfl;have d1:=zA (i:=1) o rfl;have df:N w9 o5 1:=zE o;have dl:=lt_of_block o;have HG:=Ja (Jb l (Jb d b3));clear l d b3 o))
 have c:=(by
  have b8:=HG.out.2.1;have e9:=HV.out.2.1;rw[<-e9] at b8;refine HM.out.1.grow (r:=zP t.av t.args) (r':=zP (.slice ra (p.args.length+1) rc) (t.args++ [((n:Int)%10-1)])) (rs:=tq t) (i:=1) (u:=.slice ra (p.args.length+1) rc) (t':= {t with args:=t.args++ [((n:Int)%10-1)],av:=.slice ra (p.args.length+1) rc }) (abG t).2 ((Below.refl W3.heap.size W3).alloc (Je _) (A #[O ((n:Int)%10-1)] 3)) b8 ?_ (fun x e=>?_) ?_ ?_
  ·show w9.ownsRow (p1+1+1+1) 3 1 _ (t.args++ [((n:Int)%10-1)]).length _
   rw[Jk,Ju,HR.out.2.2];have h9:=HG.out.1
   show w9.ownsRow _ _ _ _ _ ((p.args++ [((n:Int)%10-1)]).map zN)
   rw[Js];exact h9
  ·rcases HG.out.2.2 with e2|e2
   ·left;have e3:=e2.symm.trans e
    show t.av.ownBlock=some x
    rw[e9];exact e3
   ·right;have e3:=e2.symm.trans e;simp at e3;omega
  ·exact(qU t _ _).symm
  ·rfl)
 generalize f3:w9.setCell ⟨o5,1,none⟩ (.slice ra (p.args.length+1) rc)=WF at *;have ho2:=c.ho
 have e0:(zW ({t with args:=t.args++ [(n:Int)%10-1],av:=.slice ra (p.args.length+1) rc }:PT)).toArray=#[.slice a2 p.funcs.length a1,.slice ra (p.args.length+1) rc,O p.entry,O p.handler,.slice a4 p.data.length a3,.slice ba2 p.banks.length bc2]:=by
  unfold zW
  first|(simp only;done)|(simp only[HV.out.1,HV.out.2.1,HV.out.2.2.1,HV.out.2.2.2,HM.out.2.2.2.1,HM.out.2.2.2.2])
 rw[e0] at ho2;clear f3 f7 f6 f5 g3 g2 g1 g0 f9 f8 of ol;have x0:=zA (i:=0) ho2 rfl;have x1:=zA (i:=1) ho2 rfl;have x2:=zA (i:=2) ho2 rfl;have x3:=zA (i:=3) ho2 rfl;have x4:=zA (i:=4) ho2 rfl;have x5:=zA (i:=5) ho2 rfl;have xl:=lt_of_block ho2;have y0:=zA (i:=0) c.hr rfl;have y1:=zA (i:=1) c.hr rfl;have y2:=zA (i:=2) c.hr rfl;have y3:=zA (i:=3) c.hr rfl;have y4:=zA (i:=4) c.hr rfl;have y5:=zA (i:=5) c.hr rfl;have yf:∀i,N WF (p1+1+1) i:=fun i=>zE c.hr
 have yl:=lt_of_block c.hr;have c2:=Ja (Jb c e0);clear c ho2 e0;go_wp2;refine bodyPost_ret (v:=.agg #[.slice a2 p.funcs.length a1,.slice ra (p.args.length+1) rc,O p.entry,O p.handler,.slice a4 p.data.length a3,.slice ba2 p.banks.length bc2]) ?_ rfl (c2.out.1.ret c2.out.2 ?_)
 ·rw[zM rfl];go_simp
 ·have c9:=HP.out.2.2;have d6:=HP.out.2.1;have e5:=HF.out;have d3:=c0.out;unfold wR rA;rw[d6,e5,show yn q0=13 from c9];rw[<-d3];rfl
theorem iT{V:PV}{p:IProg}(hp:ProgIn w w.heap.size V p)(hs:SmallP p)(hq:I64 q0/\I64 q1/\I64 q2)(hw:yn q0=14):
 G 19 #[yH V p,.agg #[O q0,O q1,O q2]] w (pd w (wR p q0 q1 q2)):=by
 obtain⟨fa,fc,a1,c0,b9⟩:=hp.funcs.form;obtain⟨aa,ac,a4,d0,c9⟩:=hp.args.form;obtain⟨da,dc,a2,c5,c4⟩:=hp.data.form;obtain⟨ba,bc,a3,c8,c7⟩:=hp.banks.form;obtain⟨p1,b6⟩:∃p1,w.heap.size=p1:=⟨_,rfl⟩
 have y:∀W,L w W->G 36 #[.agg (P p fa fc aa ac da dc ba bc)] W _:=fun W hb=>by
  have h:=uJ ((hp.below hb).mono hb.size) hs;unfold yH at h;rw[a1,a4,a2,a3] at h;exact h
 unfold yH;rw[a1,a4,a2,a3];obtain⟨n,hn⟩:∃n,uS q2=n:=⟨_,rfl⟩
 have b7:q2%65536=(n:Int):=by rw[<-hn];unfold uS;omega
 have e6:n<65536:=Zo;obtain⟨what,a6⟩:∃k,yn q0=k:=⟨_,rfl⟩
 have e5:-20<q0.tmod 20/\q0.tmod 20<20:=⟨by have:=Qu q0 (show(0:Int)<20 by decide);omega,Qv q0 Zd⟩
 have a7:(q0.tmod 20+20)%20=(what:Int):=by
  rw[<-a6];unfold yn;have h1:=Ob q0 (show(20:Int)≠0 by decide);rw[Oa h1];have h2:=Qs q0 20;omega
 have a65:=yt q2;rw[b7] at a65;have a65b:=yt q1;have e7:=hs.fn.1;have a9:L w (((w.alloc (A (P p fa fc aa ac da dc ba bc) 29)).alloc (A #[O q0,O q1,O q2] 23)).alloc (A #[F,F,O 0,O 0,F,F] 29)):=(((Below.refl _ _).alloc (Je _) _).alloc Zs _).alloc Zt _;have a5:=Ja y;have b1:=Ja a9;have HP:=Ja (Jb hs (Jb hn a6));clear y a9 hp hs a1 a4 a2 a3 c0 b9 d0 c9 c5 c4 c8 c7 hn hq;have b4:=HP.out.2.2.symm.trans hw;subst b4;have x:(q0.tmod 20+20)%20=14:=a7;clear a7;go_enter Try.func19,Try.ntmps19;go_upto_region 2 with(go_at_call 36;go_must (refine(a5.out _ b1.out).mono ?_;rintro e w2 ⟨t,o,m,aa2,ac2,r,q,ba2,bc2,rfl,hV,ht,hr,hb⟩;have d:=Ja (Jb hV (Jb ht (Jb hr hb)));clear hV ht hr hb))
 have j:t.entry=p.entry/\t.handler=p.handler:=by rw[<-d.out.2.1];exact⟨rfl,rfl⟩
 have g:(zW t).toArray=P p o m aa2 ac2 r q ba2 bc2:=by
  unfold zW;rw[d.out.1.1,d.out.1.2.1,d.out.1.2.2.1,d.out.1.2.2.2,j.1,j.2]
 obtain⟨o5,a0⟩:∃o5,w2.heap.size=o5:=⟨_,rfl⟩
 have hm:TuMid w p1 o5 q0 q1 q2 t (w2.alloc (A (zW t).toArray 29)):=TuMid.start b6 a0 d.out.2.2.1 d.out.2.2.2;rw[g] at hm;generalize d2:w2.alloc (A (P p o m aa2 ac2 r q ba2 bc2) 29)=W3 at *;clear d2;rw[a0];clear a0;have ho:=hm.ho;rw[g] at ho;have d5:=zA (i:=0) hm.hq rfl;have d4:=zA (i:=1) hm.hq rfl;have d3:=zA (i:=2) hm.hq rfl;have e3:=zA (i:=0) ho rfl;have e2:=zA (i:=1) ho rfl;have d7:=zA (i:=4) ho rfl;have d6:=zA (i:=5) ho rfl;have of:∀i,N W3 o5 i:=fun i=>zE ho
 have e1:=zA (i:=2) ho rfl;have d8:=zA (i:=3) ho rfl;have ol:=lt_of_block ho;have HM:=Ja (Jb hm (Jb ho (Jb g j)));have HV:=Ja d.out.1;have e4:=Ja d.out.2.1;clear hm ho g j d a5 b1;obtain⟨f,hf⟩:∃f,uk p q1=f:=⟨_,rfl⟩
 have HF:=Ja hf;clear hf
 go_upto_if 23 with fail
 go_cut [7,8] (fun s7 s8 wx=>s7=O 14/\s8=O f/\W3=wx)
 case first=>
  have hf:=HF.out;unfold uk at hf
  by_cases l:0<p.funcs.length
  ·rw[if_pos l] at hf;have b2:(0:Int)<(p.funcs.length:Int):=Zo
   have c2:(q1%65536)%(p.funcs.length:Int)=(f:Int):=by
    rw[<-hf,Ou,Oa (Ob _ Zd)]
   have h0:0<=q1%65536:=Ob _ Zd;clear hf l;go_wp2;go_meet;exact⟨by first|rfl|rw[x],by first|rfl|rw[c2],rfl⟩
  ·rw[if_neg l] at hf;have b2:¬(0:Int)<(p.funcs.length:Int):=Zo;subst hf;clear l;go_wp2;go_meet;exact⟨by first|rfl|rw[x],rfl,rfl⟩
 case rest=>
 obtain⟨rfl,rfl,rfl⟩:=hcut;go_upto_region 24 with fail;have c:=HM.out.1.set (t':= {t with entry:=(n:Int)%7-1 }) (i:=2) (u:=O ((n:Int)%7-1)) rfl rfl;generalize d1:W3.setCell ⟨o5,2,none⟩ (O ((n:Int)%7-1))=WF at *;have ho2:=c.ho
 have e0:(zW ({t with entry:=(n:Int)%7-1 }:PT)).toArray=#[.slice o p.funcs.length m,.slice aa2 p.args.length ac2,O ((n:Int)%7-1),O p.handler,.slice r p.data.length q,.slice ba2 p.banks.length bc2]:=by
  unfold zW
  first|(simp only;done)|(simp only[HV.out.1,HV.out.2.1,HV.out.2.2.1,HV.out.2.2.2,HM.out.2.2.2.1,HM.out.2.2.2.2])
 rw[e0] at ho2;clear d1 d5 d4 d3 e3 e2 e1 d8 d7 d6 of ol;have x0:=zA (i:=0) ho2 rfl;have x1:=zA (i:=1) ho2 rfl;have x2:=zA (i:=2) ho2 rfl;have x3:=zA (i:=3) ho2 rfl;have x4:=zA (i:=4) ho2 rfl;have x5:=zA (i:=5) ho2 rfl;have xl:=lt_of_block ho2;have y0:=zA (i:=0) c.hr rfl;have y1:=zA (i:=1) c.hr rfl;have y2:=zA (i:=2) c.hr rfl;have y3:=zA (i:=3) c.hr rfl;have y4:=zA (i:=4) c.hr rfl;have y5:=zA (i:=5) c.hr rfl;have yf:∀i,N WF (p1+1+1) i:=fun i=>zE c.hr
 have yl:=lt_of_block c.hr;have b0:=Ja (Jb c e0);clear c ho2 e0;go_wp2;refine bodyPost_ret (v:=.agg #[.slice o p.funcs.length m,.slice aa2 p.args.length ac2,O ((n:Int)%7-1),O p.handler,.slice r p.data.length q,.slice ba2 p.banks.length bc2]) ?_ rfl (b0.out.1.ret b0.out.2 ?_)
 ·rw[zM rfl];go_simp
 ·have b3:=HP.out.2.2;have b8:=HP.out.2.1;have c3:=HF.out;have b5:=e4.out;unfold wR rA;rw[b8,c3,show yn q0=14 from b3];rw[<-b5];rfl
theorem jf{V:PV}{p:IProg}(hp:ProgIn w w.heap.size V p)(hs:SmallP p)(hq:I64 q0/\I64 q1/\I64 q2)(hw:yn q0=15):
 G 19 #[yH V p,.agg #[O q0,O q1,O q2]] w (pd w (wR p q0 q1 q2)):=by
 obtain⟨fa,fc,a1,c0,b9⟩:=hp.funcs.form;obtain⟨aa,ac,a4,d0,c9⟩:=hp.args.form;obtain⟨da,dc,a2,c5,c4⟩:=hp.data.form;obtain⟨ba,bc,a3,c8,c7⟩:=hp.banks.form;obtain⟨p1,b6⟩:∃p1,w.heap.size=p1:=⟨_,rfl⟩
 have y:∀W,L w W->G 36 #[.agg (P p fa fc aa ac da dc ba bc)] W _:=fun W hb=>by
  have h:=uJ ((hp.below hb).mono hb.size) hs;unfold yH at h;rw[a1,a4,a2,a3] at h;exact h
 unfold yH;rw[a1,a4,a2,a3];obtain⟨n,hn⟩:∃n,uS q2=n:=⟨_,rfl⟩
 have b7:q2%65536=(n:Int):=by rw[<-hn];unfold uS;omega
 have e6:n<65536:=Zo;obtain⟨what,a6⟩:∃k,yn q0=k:=⟨_,rfl⟩
 have e5:-20<q0.tmod 20/\q0.tmod 20<20:=⟨by have:=Qu q0 (show(0:Int)<20 by decide);omega,Qv q0 Zd⟩
 have a7:(q0.tmod 20+20)%20=(what:Int):=by
  rw[<-a6];unfold yn;have h1:=Ob q0 (show(20:Int)≠0 by decide);rw[Oa h1];have h2:=Qs q0 20;omega
 have a65:=yt q2;rw[b7] at a65;have a65b:=yt q1;have e7:=hs.fn.1;have a9:L w (((w.alloc (A (P p fa fc aa ac da dc ba bc) 29)).alloc (A #[O q0,O q1,O q2] 23)).alloc (A #[F,F,O 0,O 0,F,F] 29)):=(((Below.refl _ _).alloc (Je _) _).alloc Zs _).alloc Zt _;have a5:=Ja y;have b1:=Ja a9;have HP:=Ja (Jb hs (Jb hn a6));clear y a9 hp hs a1 a4 a2 a3 c0 b9 d0 c9 c5 c4 c8 c7 hn hq;have b4:=HP.out.2.2.symm.trans hw;subst b4;have x:(q0.tmod 20+20)%20=15:=a7;clear a7;go_enter Try.func19,Try.ntmps19;go_upto_region 2 with(go_at_call 36;go_must (refine(a5.out _ b1.out).mono ?_;rintro e w2 ⟨t,o,m,aa2,ac2,r,q,ba2,bc2,rfl,hV,ht,hr,hb⟩;have d:=Ja (Jb hV (Jb ht (Jb hr hb)));clear hV ht hr hb))
 have j:t.entry=p.entry/\t.handler=p.handler:=by rw[<-d.out.2.1];exact⟨rfl,rfl⟩
 have g:(zW t).toArray=P p o m aa2 ac2 r q ba2 bc2:=by
  unfold zW;rw[d.out.1.1,d.out.1.2.1,d.out.1.2.2.1,d.out.1.2.2.2,j.1,j.2]
 obtain⟨o5,a0⟩:∃o5,w2.heap.size=o5:=⟨_,rfl⟩
 have hm:TuMid w p1 o5 q0 q1 q2 t (w2.alloc (A (zW t).toArray 29)):=TuMid.start b6 a0 d.out.2.2.1 d.out.2.2.2;rw[g] at hm;generalize d2:w2.alloc (A (P p o m aa2 ac2 r q ba2 bc2) 29)=W3 at *;clear d2;rw[a0];clear a0;have ho:=hm.ho;rw[g] at ho;have d5:=zA (i:=0) hm.hq rfl;have d4:=zA (i:=1) hm.hq rfl;have d3:=zA (i:=2) hm.hq rfl;have e3:=zA (i:=0) ho rfl;have e2:=zA (i:=1) ho rfl;have d7:=zA (i:=4) ho rfl;have d6:=zA (i:=5) ho rfl;have of:∀i,N W3 o5 i:=fun i=>zE ho
 have e1:=zA (i:=2) ho rfl;have d8:=zA (i:=3) ho rfl;have ol:=lt_of_block ho;have HM:=Ja (Jb hm (Jb ho (Jb g j)));have HV:=Ja d.out.1;have e4:=Ja d.out.2.1;clear hm ho g j d a5 b1;obtain⟨f,hf⟩:∃f,uk p q1=f:=⟨_,rfl⟩
 have HF:=Ja hf;clear hf
 go_upto_if 23 with fail
 go_cut [7,8] (fun s7 s8 wx=>s7=O 15/\s8=O f/\W3=wx)
 case first=>
  have hf:=HF.out;unfold uk at hf
  by_cases l:0<p.funcs.length
  ·rw[if_pos l] at hf;have b2:(0:Int)<(p.funcs.length:Int):=Zo
   have c2:(q1%65536)%(p.funcs.length:Int)=(f:Int):=by
    rw[<-hf,Ou,Oa (Ob _ Zd)]
   have h0:0<=q1%65536:=Ob _ Zd;clear hf l;go_wp2;go_meet;exact⟨by first|rfl|rw[x],by first|rfl|rw[c2],rfl⟩
  ·rw[if_neg l] at hf;have b2:¬(0:Int)<(p.funcs.length:Int):=Zo;subst hf;clear l;go_wp2;go_meet;exact⟨by first|rfl|rw[x],rfl,rfl⟩
 case rest=>
 obtain⟨rfl,rfl,rfl⟩:=hcut;go_upto_region 24 with fail;have c:=HM.out.1.set (t':= {t with handler:=(n:Int)%7-2 }) (i:=3) (u:=O ((n:Int)%7-2)) rfl rfl;generalize d1:W3.setCell ⟨o5,3,none⟩ (O ((n:Int)%7-2))=WF at *;have ho2:=c.ho
 have e0:(zW ({t with handler:=(n:Int)%7-2 }:PT)).toArray=#[.slice o p.funcs.length m,.slice aa2 p.args.length ac2,O p.entry,O ((n:Int)%7-2),.slice r p.data.length q,.slice ba2 p.banks.length bc2]:=by
  unfold zW
  first|(simp only;done)|(simp only[HV.out.1,HV.out.2.1,HV.out.2.2.1,HV.out.2.2.2,HM.out.2.2.2.1,HM.out.2.2.2.2])
 rw[e0] at ho2;clear d1 d5 d4 d3 e3 e2 e1 d8 d7 d6 of ol;have x0:=zA (i:=0) ho2 rfl;have x1:=zA (i:=1) ho2 rfl;have x2:=zA (i:=2) ho2 rfl;have x3:=zA (i:=3) ho2 rfl;have x4:=zA (i:=4) ho2 rfl;have x5:=zA (i:=5) ho2 rfl;have xl:=lt_of_block ho2;have y0:=zA (i:=0) c.hr rfl;have y1:=zA (i:=1) c.hr rfl;have y2:=zA (i:=2) c.hr rfl;have y3:=zA (i:=3) c.hr rfl;have y4:=zA (i:=4) c.hr rfl;have y5:=zA (i:=5) c.hr rfl;have yf:∀i,N WF (p1+1+1) i:=fun i=>zE c.hr
 have yl:=lt_of_block c.hr;have b0:=Ja (Jb c e0);clear c ho2 e0;go_wp2;refine bodyPost_ret (v:=.agg #[.slice o p.funcs.length m,.slice aa2 p.args.length ac2,O p.entry,O ((n:Int)%7-2),.slice r p.data.length q,.slice ba2 p.banks.length bc2]) ?_ rfl (b0.out.1.ret b0.out.2 ?_)
 ·rw[zM rfl];go_simp
 ·have b3:=HP.out.2.2;have b8:=HP.out.2.1;have c3:=HF.out;have b5:=e4.out;unfold wR rA;rw[b8,c3,show yn q0=15 from b3];rw[<-b5];rfl
theorem turned_d{V:PV}{p:IProg}(hp:ProgIn w w.heap.size V p)(hs:SmallP p)(hq:I64 q0/\I64 q1/\I64 q2)(hw:yn q0<=12∨yn q0=19):
 G 19 #[yH V p,.agg #[O q0,O q1,O q2]] w (pd w (wR p q0 q1 q2)):=by
 obtain⟨fa,fc,d6,i1,i0⟩:=hp.funcs.form;obtain⟨aa,ac,e7,j3,j2⟩:=hp.args.form;obtain⟨da,dc,e3,i8,i3⟩:=hp.data.form;obtain⟨ba,bc,e5,j1,j0⟩:=hp.banks.form;obtain⟨p1,h5⟩:∃p1,w.heap.size=p1:=⟨_,rfl⟩
 have d1:∀W,L w W->G 36 #[.agg (P p fa fc aa ac da dc ba bc)] W _:=fun W hb=>by
  have h:=uJ ((hp.below hb).mono hb.size) hs;unfold yH at h;rw[d6,e7,e3,e5] at h;exact h
 unfold yH;rw[d6,e7,e3,e5];obtain⟨n,hn⟩:∃n,uS q2=n:=⟨_,rfl⟩
 have h6:q2%65536=(n:Int):=by rw[<-hn];unfold uS;omega
 have h7:n<65536:=Zo;obtain⟨what,f8⟩:∃k,yn q0=k:=⟨_,rfl⟩
 have k5:-20<q0.tmod 20/\q0.tmod 20<20:=⟨by have:=Qu q0 (show(0:Int)<20 by decide);omega,Qv q0 Zd⟩
 have f9:(q0.tmod 20+20)%20=(what:Int):=by
  rw[<-f8];unfold yn;have h1:=Ob q0 (show(20:Int)≠0 by decide);rw[Oa h1];have h2:=Qs q0 20;omega
 have a65:=yt q2;rw[h6] at a65;have a65b:=yt q1;have k7:=hs.fn.1;have g5:L w (((w.alloc (A (P p fa fc aa ac da dc ba bc) 29)).alloc (A #[O q0,O q1,O q2] 23)).alloc (A #[F,F,O 0,O 0,F,F] 29)):=(((Below.refl _ _).alloc (Je _) _).alloc Zs _).alloc Zt _;have f7:=Ja d1;have g6:=Ja g5;have HP:=Ja (Jb hs (Jb hn f8));clear d1 g5 hp hs d6 e7 e3 e5 i1 i0 j3 j2 i8 i3 j1 j0 hn hq;have c5:=Ja hw;have g7:what<=12∨what=19:=by have e:=HP.out.2.2;rw[<-e];exact hw
 have b13:((what:Int)==13)=false:=Ze;have b14:((what:Int)==14)=false:=Ze;have b15:((what:Int)==15)=false:=Ze;have b16:((what:Int)==16)=false:=Ze;have b17:((what:Int)==17)=false:=Ze;have b18:((what:Int)==18)=false:=Ze;clear hw g7;go_enter Try.func19,Try.ntmps19;go_upto_region 2 with(go_at_call 36;go_must (refine(f7.out _ g6.out).mono ?_;rintro e w2 ⟨t,c4,o,aa2,ac2,r,q,ba2,bc2,rfl,hV,ht,hr,hb⟩;have HT:=Ja (Jb hV (Jb ht (Jb hr hb)));clear hV ht hr hb))
 have a2:t.entry=p.entry/\t.handler=p.handler:=by rw[<-HT.out.2.1];exact⟨rfl,rfl⟩
 have a0:(zW t).toArray=P p c4 o aa2 ac2 r q ba2 bc2:=by
  unfold zW;rw[HT.out.1.1,HT.out.1.2.1,HT.out.1.2.2.1,HT.out.1.2.2.2,a2.1,a2.2]
 obtain⟨o5,d2⟩:∃o5,w2.heap.size=o5:=⟨_,rfl⟩
 have hm:TuMid w p1 o5 q0 q1 q2 t (w2.alloc (A (zW t).toArray 29)):=TuMid.start h5 d2 HT.out.2.2.1 HT.out.2.2.2;rw[a0] at hm;generalize j4:w2.alloc (A (P p c4 o aa2 ac2 r q ba2 bc2) 29)=W3 at *;clear j4;rw[d2];clear d2;have ho:=hm.ho;rw[a0] at ho;have f0:=zA (i:=0) hm.hq rfl;have e9:=zA (i:=1) hm.hq rfl;have e8:=zA (i:=2) hm.hq rfl;have f6:=zA (i:=0) ho rfl;have f5:=zA (i:=1) ho rfl;have f2:=zA (i:=4) ho rfl;have f1:=zA (i:=5) ho rfl;have of:∀i,N W3 o5 i:=fun i=>zE ho
 have f4:=zA (i:=2) ho rfl;have f3:=zA (i:=3) ho rfl;have ol:=lt_of_block ho;have l:=Ja (Jb hm (Jb ho (Jb a0 a2)));have j:=Ja HT.out.1;have b4:=Ja HT.out.2.1;clear hm ho a0 a2 HT f7 g6;obtain⟨f,hf⟩:∃f,uk p q1=f:=⟨_,rfl⟩
 have HF:=Ja hf;clear hf
 go_upto_if 23 with fail
 go_cut [7,8] (fun s7 s8 wx=>s7=O what/\s8=O f/\W3=wx)
 case first=>
  have hf:=HF.out;unfold uk at hf
  by_cases b8:0<p.funcs.length
  ·rw[if_pos b8] at hf;have g8:(0:Int)<(p.funcs.length:Int):=Zo
   have g3:(q1%65536)%(p.funcs.length:Int)=(f:Int):=by
    rw[<-hf,Ou,Oa (Ob _ Zd)]
   have h0:0<=q1%65536:=Ob _ Zd;clear hf b8;go_wp2;go_meet;exact⟨by first|rfl|rw[f9],by first|rfl|rw[g3],rfl⟩
  ·rw[if_neg b8] at hf;have g8:¬(0:Int)<(p.funcs.length:Int):=Zo;subst hf;clear b8;go_wp2;go_meet;exact⟨by first|rfl|rw[f9],rfl,rfl⟩
 case rest=>
 obtain⟨rfl,rfl,rfl⟩:=hcut;have a1:t.funcs.length=p.funcs.length:=by rw[<-b4.out];unfold PT.prog;simp
 by_cases b9:0<p.funcs.length
 ·have k1:f<p.funcs.length:=by
   have h:=HF.out;unfold uk at h;rw[if_pos b9] at h;rw[<-h];exact Qj _ b9
  obtain⟨ft,b1⟩:∃ft,t.funcs[f]? =some ft:=⟨_,Jd Zo⟩
  have d0:p.funcs[f]? =some ft.fn:=by
   rw[<-b4.out]
   show(t.funcs.map FT.fn)[f]? =_
   rw[Jr,b1];rfl
  have d7:=kZ l.out.1.rows;rw[j.out.1,a1] at d7;obtain⟨fb,l0,i2,k3,k2⟩:=d7.form b9;cases i2;have d8:t.fv.ownBlock=some fb:=by rw[j.out.1];rfl
  obtain⟨cf,ff,l1⟩:=kj l.out.1.rows d8 b1;have d4:W3.ownsRow (p1+1+1+1) 49 5 ft.bv ft.blks.length (ft.blks.flatMap zz):=l.out.1.rows.own (zd ft.bv ft.blks) ((PT.rows_at b1).mem_iff.2 (.head _));obtain⟨ga,gc,d3⟩:=zG d4;rw[d3] at cf;have g3:(f:Int)<(p.funcs.length:Int):=Zo;have g9:(0:Int)<(p.funcs.length:Int):=Zo;have b6:=(HP.out.1.fn.2 ft.fn (Ji d0))
  have c2:ft.fn.length=ft.blks.length:=by unfold FT.fn;simp
  have k4:ft.blks.length<=2000000:=by have:=b6.1.1;omega
  have d:=Ja (Jb b1 (Jb d0 (Jb d8 (Jb d3 (Jb d4 (Jb b6 c2))))));clear b1 d0 d8 d3 d4 d7 b6 c2 a1
  by_cases c3:0<ft.blks.length
  ·have h4:(0:Int)<(ft.blks.length:Int):=Zo;obtain⟨i,hi⟩:∃i,turnK q1 n ft.blks.length=i:=⟨_,rfl⟩
   have h8:i<ft.blks.length:=by rw[<-hi];exact Qj _ c3
   obtain⟨bt,c0⟩:∃bt,ft.blks[i]? =some bt:=⟨_,Jd h8⟩
   obtain⟨x,hx⟩:∃x:Nat,q1/65536%65536=(x:Int):=⟨(q1/65536%65536).toNat,by omega⟩
   have b7:(x:Int)<65536:=Zo;have c8:=Ja (Jb hi (Jb hx b7));have k6:(i:Int)<(ft.blks.length:Int):=Zo;have d5:=d.out.2.2.2.2.1;rw[d.out.2.2.2.1] at d5;obtain⟨gb,k9,h9,k0,j5⟩:=d5.form c3;cases h9;have g2:ft.bv.ownBlock=some gb:=by rw[d.out.2.2.2.1];rfl
   have g4:=d.out.2.2.2.2.2.1;have b5:bt.blk∈ft.fn:=Oj (Ji c0)
   have g0:SzB bt:=by
    obtain⟨h1,h2⟩:=g4;have h3:=h1.2 _ b5;exact szB_of h3 h2 b5
   have g1:∀W,L W3 W->G 45 #[.pointer (some ⟨gb,i*5,none⟩),O what,O n] W (uE W (p1+1+1+1) gb i ft.bv bt ft.blks ((ft.blks.eraseIdx i).flatMap BT.rows++t.but f) what n):=fun W hW=>iF ((l.out.1.below hW).block d.out.1 c0 g2) h7 g0 (by have e:=HP.out.2.2;rw[<-e];exact c5.out)
   have c7:=Ja (Jb g1 (Jb c0 hi));have x0:T (W3.alloc (A #[Q gb ft.blks.length gc] 43)) W3.heap.size 0 (Q gb ft.blks.length gc):=zA (zI rfl) rfl;have x1:T (W3.alloc (A #[Q gb ft.blks.length gc] 43)) (p1+1) 1 (O q1):=zA (zB l.out.1.hq) rfl;clear g1 c0 hi hx d5 g2 g4 b5 g0 c3 b7;go_upto_region 10 with fail;have b7:=c8.out.2.2;have a3:bits .and .i64 (q1/65536) 65535=(x:Int):=by rw[yt,c8.out.2.1]
   have a4:IntKind.i64.wrap ((n:Int)/64)=(n:Int)/64:=Om _ Zo;have a5:IntKind.i64.wrap ((x:Int)+(n:Int)/64)=(x:Int)+(n:Int)/64:=Om _ Zo
   have a6:((x:Int)+(n:Int)/64)%(ft.blks.length:Int)=(i:Int):=by
    rw[<-c8.out.1];unfold turnK;rw[c8.out.2.1,Ni];simp
   have a7:((x:Int)+(n:Int)/64).tmod (ft.blks.length:Int)=(i:Int):=by rw[Qc Zo];exact a6
   clear b7;refine zt 16 Zk Zk ?_;simp only[Qo,Uc,Qp,Ui]
   repeat (go_big_quiet_step (fail))
   refine wpQuiet_nil ?_;go_upto_region 24 with(go_at_call 45;go_must (refine(c7.out.1 _ (((Below.refl _ _).alloc (Je _) (A #[Q gb ft.blks.length gc] 43)).drew)).mono ?_;rintro e w9 ⟨rfl,bt',c9,e6,e4⟩;have HG:=Ja (Jb c9 (Jb e6 e4));clear c9 e6 e4))
   have c:=((l.out.1.below (((Below.refl _ _).alloc (Je _) (A #[Q gb ft.blks.length gc] 43)).drew)).unblock d.out.1 c7.out.2.1 HG.out.1 HG.out.2.2)
   generalize b3:w9=WF at *;have ho2:=c.ho
   have e0:(zW ({t with funcs:=t.funcs.set f {ft with blks:=ft.blks.set i bt' }}:PT)).toArray=P p (some ⟨fb,0,none⟩) o aa2 ac2 r q ba2 bc2:=by
    unfold zW
    first|(simp only;done)|(simp only[j.out.1,j.out.2.1,j.out.2.2.1,j.out.2.2.2,l.out.2.2.2.1,l.out.2.2.2.2])
   rw[e0] at ho2;clear b3 f0 e9 e8 f6 f5 f4 f3 f2 f1 of ol;have x0:=zA (i:=0) ho2 rfl;have x1:=zA (i:=1) ho2 rfl;have x2:=zA (i:=2) ho2 rfl;have x3:=zA (i:=3) ho2 rfl;have x4:=zA (i:=4) ho2 rfl;have x5:=zA (i:=5) ho2 rfl;have xl:=lt_of_block ho2;have y0:=zA (i:=0) c.hr rfl;have y1:=zA (i:=1) c.hr rfl;have y2:=zA (i:=2) c.hr rfl;have y3:=zA (i:=3) c.hr rfl;have y4:=zA (i:=4) c.hr rfl;have y5:=zA (i:=5) c.hr rfl;have yf:∀i,N WF (p1+1+1) i:=fun i=>zE c.hr
   have yl:=lt_of_block c.hr;have u:=Ja (Jb c e0);clear c ho2 e0;go_wp2;refine bodyPost_ret (v:=.agg (P p (some ⟨fb,0,none⟩) o aa2 ac2 r q ba2 bc2)) ?_ rfl (u.out.1.ret u.out.2 ?_)
   ·rw[zM rfl];go_simp
   ·have m:=HP.out.2.2;have b0:=HP.out.2.1;have b2:=HF.out;have a9:=b4.out;have y:=c5.out;rw[m] at y;unfold wR rA;rw[b0,b2,m,if_neg Zo,if_neg Zo,if_neg Zo,if_neg Zo,if_neg Zo,if_neg Zo]
    have e1:wD p.funcs f (lW what q1 n)=p.funcs.set f (wD ft.fn i (xh what n)):=by
     rw[xI d.out.2.1];unfold lW;rw[d.out.2.2.2.2.2.2,c7.out.2.2]
    rw[e1,<-a9];unfold PT.prog;simp only[Ox]
    have e2:wD ft.fn i (xh what n)=({ft with blks:=ft.blks.set i bt' }:FT).fn:=by
     unfold FT.fn;rw[xI (x:=bt.blk) (by rw[Jr,c7.out.2.1];rfl),Ox,HG.out.2.1]
    rw[e2]
  ·have h4:¬(0:Int)<(ft.blks.length:Int):=Zo
   have HN:=Ja (show ∀g,p.funcs[f]? =some g->g.length=0 from fun g hg=>by
    rw[d.out.2.1] at hg;cases hg;have:=d.out.2.2.2.2.2.2
    omega)
   clear c3;go_upto_region 24 with fail;have c:=l.out.1;generalize b3:W3=WF at *;have ho2:=c.ho
   have e0:(zW t).toArray=P p (some ⟨fb,0,none⟩) o aa2 ac2 r q ba2 bc2:=by
    unfold zW
    first|(simp only;done)|(simp only[j.out.1,j.out.2.1,j.out.2.2.1,j.out.2.2.2,l.out.2.2.2.1,l.out.2.2.2.2])
   rw[e0] at ho2;clear b3 f0 e9 e8 f6 f5 f4 f3 f2 f1 of ol;have x0:=zA (i:=0) ho2 rfl;have x1:=zA (i:=1) ho2 rfl;have x2:=zA (i:=2) ho2 rfl;have x3:=zA (i:=3) ho2 rfl;have x4:=zA (i:=4) ho2 rfl;have x5:=zA (i:=5) ho2 rfl;have xl:=lt_of_block ho2;have y0:=zA (i:=0) c.hr rfl;have y1:=zA (i:=1) c.hr rfl;have y2:=zA (i:=2) c.hr rfl;have y3:=zA (i:=3) c.hr rfl;have y4:=zA (i:=4) c.hr rfl;have y5:=zA (i:=5) c.hr rfl;have yf:∀i,N WF (p1+1+1) i:=fun i=>zE c.hr
   have yl:=lt_of_block c.hr;have u:=Ja (Jb c e0);clear c ho2 e0;go_wp2;refine bodyPost_ret (v:=.agg (P p (some ⟨fb,0,none⟩) o aa2 ac2 r q ba2 bc2)) ?_ rfl (u.out.1.ret u.out.2 ?_)
   ·rw[zM rfl];go_simp
   ·have m:=HP.out.2.2;have b0:=HP.out.2.1;have b2:=HF.out;have a9:=b4.out;have y:=c5.out;rw[m] at y;unfold wR;rw[b0,b2,m,uw (.inr y) HN.out];exact a9
 ·have g9:¬(0:Int)<(p.funcs.length:Int):=Zo
  have HN:=Ja (show ∀g,p.funcs[f]? =some g->g.length=0 from fun g hg=>by
   have:=(Jh.1 hg).1
   omega)
  clear b9 a1;go_upto_region 24 with fail;have c:=l.out.1;generalize b3:W3=WF at *;have ho2:=c.ho
  have e0:(zW t).toArray=P p c4 o aa2 ac2 r q ba2 bc2:=by
   unfold zW
   first|(simp only;done)|(simp only[j.out.1,j.out.2.1,j.out.2.2.1,j.out.2.2.2,l.out.2.2.2.1,l.out.2.2.2.2])
  rw[e0] at ho2;clear b3 f0 e9 e8 f6 f5 f4 f3 f2 f1 of ol;have x0:=zA (i:=0) ho2 rfl;have x1:=zA (i:=1) ho2 rfl;have x2:=zA (i:=2) ho2 rfl;have x3:=zA (i:=3) ho2 rfl;have x4:=zA (i:=4) ho2 rfl;have x5:=zA (i:=5) ho2 rfl;have xl:=lt_of_block ho2;have y0:=zA (i:=0) c.hr rfl;have y1:=zA (i:=1) c.hr rfl;have y2:=zA (i:=2) c.hr rfl;have y3:=zA (i:=3) c.hr rfl;have y4:=zA (i:=4) c.hr rfl;have y5:=zA (i:=5) c.hr rfl;have yf:∀i,N WF (p1+1+1) i:=fun i=>zE c.hr
  have yl:=lt_of_block c.hr;have u:=Ja (Jb c e0);clear c ho2 e0;go_wp2;refine bodyPost_ret (v:=.agg (P p c4 o aa2 ac2 r q ba2 bc2)) ?_ rfl (u.out.1.ret u.out.2 ?_)
  ·rw[zM rfl];go_simp
  ·have m:=HP.out.2.2;have b0:=HP.out.2.1;have b2:=HF.out;have a9:=b4.out;have y:=c5.out;rw[m] at y;unfold wR;rw[b0,b2,m,uw (.inr y) HN.out];exact a9
theorem iE{V:PV}{p:IProg}(hp:ProgIn w w.heap.size V p)(hs:SmallP p)(hq:I64 q0/\I64 q1/\I64 q2)(hw:yn q0=18):
 G 19 #[yH V p,.agg #[O q0,O q1,O q2]] w (pd w (wR p q0 q1 q2)):=by
 obtain⟨fa,fc,c9,h7,h6⟩:=hp.funcs.form;obtain⟨aa,ac,d6,i8,i3⟩:=hp.args.form;obtain⟨da,dc,d4,i0,h9⟩:=hp.data.form;obtain⟨ba,bc,d5,i2,i1⟩:=hp.banks.form;obtain⟨p1,g9⟩:∃p1,w.heap.size=p1:=⟨_,rfl⟩
 have c3:∀W,L w W->G 36 #[.agg (P p fa fc aa ac da dc ba bc)] W _:=fun W hb=>by
  have h:=uJ ((hp.below hb).mono hb.size) hs;unfold yH at h;rw[c9,d6,d4,d5] at h;exact h
 unfold yH;rw[c9,d6,d4,d5];obtain⟨n,hn⟩:∃n,uS q2=n:=⟨_,rfl⟩
 have h4:q2%65536=(n:Int):=by rw[<-hn];unfold uS;omega
 have k0:n<65536:=Zo;obtain⟨what,f3⟩:∃k,yn q0=k:=⟨_,rfl⟩
 have j5:-20<q0.tmod 20/\q0.tmod 20<20:=⟨by have:=Qu q0 (show(0:Int)<20 by decide);omega,Qv q0 Zd⟩
 have f4:(q0.tmod 20+20)%20=(what:Int):=by
  rw[<-f3];unfold yn;have h1:=Ob q0 (show(20:Int)≠0 by decide);rw[Oa h1];have h2:=Qs q0 20;omega
 have a65:=yt q2;rw[h4] at a65;have a65b:=yt q1;have k2:=hs.fn.1;have f9:L w (((w.alloc (A (P p fa fc aa ac da dc ba bc) 29)).alloc (A #[O q0,O q1,O q2] 23)).alloc (A #[F,F,O 0,O 0,F,F] 29)):=(((Below.refl _ _).alloc (Je _) _).alloc Zs _).alloc Zt _;have f2:=Ja c3;have g1:=Ja f9;have HP:=Ja (Jb hs (Jb hn f3));clear c3 f9 hp hs c9 d6 d4 d5 h7 h6 i8 i3 i0 h9 i2 i1 hn hq;have g8:=HP.out.2.2.symm.trans hw;subst g8;have c0:(q0.tmod 20+20)%20=18:=f4;clear f4;go_enter Try.func19,Try.ntmps19;go_upto_region 2 with(go_at_call 36;go_must (refine(f2.out _ g1.out).mono ?_;rintro e w2 ⟨t,b8,q,aa2,ac2,u,r,ba2,bc2,rfl,hV,ht,hr,hb⟩;have HT:=Ja (Jb hV (Jb ht (Jb hr hb)));clear hV ht hr hb))
 have a3:t.entry=p.entry/\t.handler=p.handler:=by rw[<-HT.out.2.1];exact⟨rfl,rfl⟩
 have a1:(zW t).toArray=P p b8 q aa2 ac2 u r ba2 bc2:=by
  unfold zW;rw[HT.out.1.1,HT.out.1.2.1,HT.out.1.2.2.1,HT.out.1.2.2.2,a3.1,a3.2]
 obtain⟨o5,c4⟩:∃o5,w2.heap.size=o5:=⟨_,rfl⟩
 have hm:TuMid w p1 o5 q0 q1 q2 t (w2.alloc (A (zW t).toArray 29)):=TuMid.start g9 c4 HT.out.2.2.1 HT.out.2.2.2;rw[a1] at hm;generalize j0:w2.alloc (A (P p b8 q aa2 ac2 u r ba2 bc2) 29)=W3 at *;clear j0;rw[c4];clear c4;have ho:=hm.ho;rw[a1] at ho;have e5:=zA (i:=0) hm.hq rfl;have e4:=zA (i:=1) hm.hq rfl;have d8:=zA (i:=2) hm.hq rfl;have b9:=zA (i:=0) ho rfl;have f1:=zA (i:=1) ho rfl;have e7:=zA (i:=4) ho rfl;have e6:=zA (i:=5) ho rfl;have of:∀i,N W3 o5 i:=fun i=>zE ho
 have f0:=zA (i:=2) ho rfl;have e8:=zA (i:=3) ho rfl;have ol:=lt_of_block ho;have l:=Ja (Jb hm (Jb ho (Jb a1 a3)));have y:=Ja HT.out.1;have b1:=Ja HT.out.2.1;clear hm ho a1 a3 HT f2 g1;obtain⟨f,hf⟩:∃f,uk p q1=f:=⟨_,rfl⟩
 have HF:=Ja hf;clear hf
 go_upto_if 23 with fail
 go_cut [7,8] (fun s7 s8 wx=>s7=O 18/\s8=O f/\W3=wx)
 case first=>
  have hf:=HF.out;unfold uk at hf
  by_cases b5:0<p.funcs.length
  ·rw[if_pos b5] at hf;have g5:(0:Int)<(p.funcs.length:Int):=Zo
   have f7:(q1%65536)%(p.funcs.length:Int)=(f:Int):=by
    rw[<-hf,Ou,Oa (Ob _ Zd)]
   have h0:0<=q1%65536:=Ob _ Zd;clear hf b5;go_wp2;go_meet;exact⟨by first|rfl|rw[c0],by first|rfl|rw[f7],rfl⟩
  ·rw[if_neg b5] at hf;have g5:¬(0:Int)<(p.funcs.length:Int):=Zo;subst hf;clear b5;go_wp2;go_meet;exact⟨by first|rfl|rw[c0],rfl,rfl⟩
 case rest=>
 obtain⟨rfl,rfl,rfl⟩:=hcut;have a2:t.funcs.length=p.funcs.length:=by rw[<-b1.out];unfold PT.prog;simp
 by_cases b6:0<p.funcs.length
 ·have j1:f<p.funcs.length:=by
   have h:=HF.out;unfold uk at h;rw[if_pos b6] at h;rw[<-h];exact Qj _ b6
  obtain⟨ft,a7⟩:∃ft,t.funcs[f]? =some ft:=⟨_,Jd Zo⟩
  have c2:p.funcs[f]? =some ft.fn:=by
   rw[<-b1.out]
   show(t.funcs.map FT.fn)[f]? =_
   rw[Jr,a7];rfl
  have d0:=kZ l.out.1.rows;rw[y.out.1,a2] at d0;obtain⟨fb,k4,h8,j3,j2⟩:=d0.form b6;cases h8;have d3:t.fv.ownBlock=some fb:=by rw[y.out.1];rfl
  obtain⟨cf,ff,g0⟩:=kj l.out.1.rows d3 a7;have c8:W3.ownsRow (p1+1+1+1) 49 5 ft.bv ft.blks.length (ft.blks.flatMap zz):=l.out.1.rows.own (zd ft.bv ft.blks) ((PT.rows_at a7).mem_iff.2 (.head _));obtain⟨ga,gc,c7⟩:=zG c8;rw[c7] at cf;have f7:(f:Int)<(p.funcs.length:Int):=Zo;have g6:(0:Int)<(p.funcs.length:Int):=Zo;have b3:=(HP.out.1.fn.2 ft.fn (Ji c2))
  have b7:ft.fn.length=ft.blks.length:=by unfold FT.fn;simp
  have j4:ft.blks.length<=2000000:=by have:=b3.1.1;omega
  have d:=Ja (Jb a7 (Jb c2 (Jb d3 (Jb c7 (Jb c8 (Jb b3 b7))))));clear a7 c2 d3 c7 c8 d0 b3 b7 a2
  by_cases f8:0<ft.blks.length
  ·have g7:(0:Int)<(ft.blks.length:Int):=Zo;obtain⟨ii,h5,g4,g3,g2⟩:=info_parts Try.info_irblock;have c5:ft.bv.ownBlock≠some o5:=zC d.out.2.2.2.2.1 l.out.2.1 (.inr Zd);have b2:ft.bv.ownBlock≠some fb:=fun e=>l.out.1.farF d.out.1 e d.out.2.2.1
   have k1:=l.out.1.ge
   have m:=Ja (show((W3.alloc (A #[F,F,O 5,O 0,F] 49)).drew).ownsRow (p1+1+1+1) 49 5 (.slice ga ft.blks.length gc) ft.blks.length (ft.blks.flatMap zz)/\yM ((W3.alloc (A #[F,F,O 5,O 0,F] 49)).drew) 5 (Q W3.heap.size 1 1) 1 [F,F,O 5,O 0,F]/\Y ((W3.alloc (A #[F,F,O 5,O 0,F] 49)).drew) o5 (P p (some ⟨fb,0,none⟩) q aa2 ac2 u r ba2 bc2) 29/\T ((W3.alloc (A #[F,F,O 5,O 0,F] 49)).drew) fb f (.slice ga ft.blks.length gc)/\N ((W3.alloc (A #[F,F,O 5,O 0,F] 49)).drew) fb f/\some fb≠(Value.slice ga ft.blks.length gc).ownBlock/\(Value.slice ga ft.blks.length gc).ownBlock≠some o5 from by
    have h1:=d.out.2.2.2.2.1;rw[d.out.2.2.2.1] at h1 c5 b2
    exact⟨h1.alloc _,yM.cells (w:=(W3.alloc (A #[F,F,O 5,O 0,F] 49)).drew) (zI (W:=W3) rfl) rfl (by simp[Value.oneCell']),zB l.out.2.1,(Ok W3 _ _ g0).trans cf,(Below.frozen ((Below.refl W3.heap.size W3).alloc (Je _) _) (p:=⟨fb,f,none⟩) g0).trans ff,fun e=>b2 e.symm,c5⟩)
   clear c5 b2 f8;go_upto_region 23 with fail;refine wp_region_noPanic ?_;refine yQ (S:=(fun w'=>T w' o5 0 (Q fb p.funcs.length q)/\T w' fb f (.slice ga ft.blks.length gc))) 15 Zk ⟨b9,cf⟩ (fun hHeld=>?_);refine Tl 0 ?_
   try simp only[Yp]
   refine Tl 1 ?_
   try simp only[Yp]
   refine Tl 2 ?_
   try simp only[Yp]
   refine Tl 3 ?_
   try simp only[Yp]
   refine Tl 4 ?_
   try simp only[Yp]
   refine Tl 5 ?_
   try simp only[Yp]
   refine Tl 6 ?_
   try simp only[Yp]
   refine Tl 7 ?_
   try simp only[Yp]
   refine Tl 8 ?_
   try simp only[Yp]
   refine Tl 9 ?_
   try simp only[Yp]
   refine Tl 10 ?_
   try simp only[Yp]
   refine zf (rs:=[11]) Zk Zs ?_;refine zS.cons (o:=_) rfl (fun K hK=>?_) ?_
   ·skip
    go_simp;refine hK.out _ _ ⟨zA (i:=0) m.out.2.2.1 rfl,m.out.2.2.2.1⟩ (fun hHeld=>?_);clear hK K
    try simp only[Yp]
    refine zf (rs:=[12]) Zk Zs ?_;refine zS.cons (o:=_) rfl (fun K hK=>?_) ?_
    ·skip
     (refine yG (by rfl) (.tmp 148) (.tmp 151) _ (by rfl) (p1+1+1+1) 49 ii (.agg #[F,F,O 0,O 0,F]) 5 88 Try.underlying35 h5 g4 g3 g2 rfl Zo (.slice ga ft.blks.length gc) (ft.blks.length) (ft.blks.flatMap zz) (by rfl) m.out.1 (Q W3.heap.size 1 1) 1 [F,F,O 5,O 0,F] (by rfl) m.out.2.1 (by unfold maxLen;omega) Zo Zt ?_;intro ra rc w9 b4 j d7;have f5:=zL j m.out.2.2.1 m.out.2.2.2.2.2.2;have d1:=zA (i:=0) f5 rfl;have d2:=(j.cell_far ⟨fb,f,none⟩ Zt m.out.2.2.2.2.2.1).trans m.out.2.2.2.1;have df:=(j.frozen_far ⟨fb,f,none⟩ Zt m.out.2.2.2.2.2.1).trans m.out.2.2.2.2.1;have dl:=lt_of_block f5;have HG:=Ja (Jb b4 (Jb j d7));clear b4 j d7;(try dsimp only))
     refine hK.out _ _ ⟨d1,d2⟩ (fun hHeld=>?_);clear hK K
     try simp only[Yp]
     refine zf (rs:=[13]) Zk Zs ?_;refine zS.cons (o:=_) rfl (fun K hK=>?_) ?_
     ·skip
      go_simp;refine hK.out _ _ Zz (fun hHeld=>?_);clear hK K
      try simp only[Yp]
      refine Tl 14 ?_
      try simp only[Yp]
      refine zf (rs:=[15]) Zk Zs ?_;refine zS.last (o:=_) rfl (fun K hK=>?_);go_simp;refine hK.out _ _ ?_;clear hK K
      try simp only[Yp]
      refine xj Zk (NoPanic.normal ?_) _;go_upto_region 24 with fail
      have c:=(by
       have f6:=HG.out.2.1;have e9:=d.out.2.2.2.1;rw[<-e9] at f6;refine l.out.1.addB (v':=.slice ra (ft.blks.length+1) rc) d.out.1 d.out.2.2.1 (((Below.refl W3.heap.size W3).alloc (Je _) (A #[F,F,O 5,O 0,F] 49)).drew) f6 HG.out.1 (fun x e=>?_);rcases HG.out.2.2 with e2|e2
       ·left;have e3:=e2.symm.trans e;rw[e9];exact e3
       ·right;have e3:=e2.symm.trans e;simp at e3
        omega)
      generalize b0:w9.setCell ⟨fb,f,none⟩ (.slice ra (ft.blks.length+1) rc)=WF at *;have ho2:=c.ho
      have e0:(zW ({t with funcs:=t.funcs.set f ⟨ft.blks++ [btH],.slice ra (ft.blks.length+1) rc⟩}:PT)).toArray=P p (some ⟨fb,0,none⟩) q aa2 ac2 u r ba2 bc2:=by
       unfold zW
       first|(simp only;done)|(simp only[y.out.1,y.out.2.1,y.out.2.2.1,y.out.2.2.2,l.out.2.2.2.1,l.out.2.2.2.2])
      rw[e0] at ho2;clear b0 e5 e4 d8 b9 f1 f0 e8 e7 e6 of ol;have x0:=zA (i:=0) ho2 rfl;have x1:=zA (i:=1) ho2 rfl;have x2:=zA (i:=2) ho2 rfl;have x3:=zA (i:=3) ho2 rfl;have x4:=zA (i:=4) ho2 rfl;have x5:=zA (i:=5) ho2 rfl;have xl:=lt_of_block ho2;have y0:=zA (i:=0) c.hr rfl;have y1:=zA (i:=1) c.hr rfl;have y2:=zA (i:=2) c.hr rfl;have y3:=zA (i:=3) c.hr rfl;have y4:=zA (i:=4) c.hr rfl;have y5:=zA (i:=5) c.hr rfl;have yf:∀i,N WF (p1+1+1) i:=fun i=>zE c.hr
      have yl:=lt_of_block c.hr;have a0:=Ja (Jb c e0);clear c ho2 e0;go_wp2;refine bodyPost_ret (v:=.agg (P p (some ⟨fb,0,none⟩) q aa2 ac2 u r ba2 bc2)) ?_ rfl (a0.out.1.ret a0.out.2 ?_)
      ·rw[zM rfl];go_simp
      ·have a4:=HP.out.2.2;have a6:=HP.out.2.1;have a9:=HF.out;have a5:=b1.out;have k3:=d.out.2.2.2.2.2.2;unfold wR rA;rw[a6,a9,show yn q0=18 from a4]
       have e1:wD p.funcs f (fun g=>if g.length=0 then g else g++ [hltB])=p.funcs.set f (ft.fn++ [hltB]):=by
        rw[xI d.out.2.1,if_neg Zo]
       rw[e1,<-a5];unfold PT.prog;simp only[Ox];unfold FT.fn;rw[Js];rfl
     exact zS.nil
    exact zS.nil
   exact zS.nil
  ·have g7:¬(0:Int)<(ft.blks.length:Int):=Zo
   have HN:=Ja (show ∀g,p.funcs[f]? =some g->g.length=0 from fun g hg=>by
    rw[d.out.2.1] at hg;cases hg;have:=d.out.2.2.2.2.2.2
    omega)
   clear f8;go_upto_region 24 with fail;have c:=l.out.1;generalize b0:W3=WF at *;have ho2:=c.ho
   have e0:(zW t).toArray=P p (some ⟨fb,0,none⟩) q aa2 ac2 u r ba2 bc2:=by
    unfold zW
    first|(simp only;done)|(simp only[y.out.1,y.out.2.1,y.out.2.2.1,y.out.2.2.2,l.out.2.2.2.1,l.out.2.2.2.2])
   rw[e0] at ho2;clear b0 e5 e4 d8 b9 f1 f0 e8 e7 e6 of ol;have x0:=zA (i:=0) ho2 rfl;have x1:=zA (i:=1) ho2 rfl;have x2:=zA (i:=2) ho2 rfl;have x3:=zA (i:=3) ho2 rfl;have x4:=zA (i:=4) ho2 rfl;have x5:=zA (i:=5) ho2 rfl;have xl:=lt_of_block ho2;have y0:=zA (i:=0) c.hr rfl;have y1:=zA (i:=1) c.hr rfl;have y2:=zA (i:=2) c.hr rfl;have y3:=zA (i:=3) c.hr rfl;have y4:=zA (i:=4) c.hr rfl;have y5:=zA (i:=5) c.hr rfl;have yf:∀i,N WF (p1+1+1) i:=fun i=>zE c.hr
   have yl:=lt_of_block c.hr;have a0:=Ja (Jb c e0);clear c ho2 e0;go_wp2;refine bodyPost_ret (v:=.agg (P p (some ⟨fb,0,none⟩) q aa2 ac2 u r ba2 bc2)) ?_ rfl (a0.out.1.ret a0.out.2 ?_)
   ·rw[zM rfl];go_simp
   ·have a4:=HP.out.2.2;have a6:=HP.out.2.1;have a9:=HF.out;have a5:=b1.out;unfold wR;rw[a6,a9,show yn q0=18 from a4,uw (.inl rfl) HN.out];exact a5
 ·have g6:¬(0:Int)<(p.funcs.length:Int):=Zo
  have HN:=Ja (show ∀g,p.funcs[f]? =some g->g.length=0 from fun g hg=>by
   have:=(Jh.1 hg).1
   omega)
  clear b6 a2;go_upto_region 24 with fail;have c:=l.out.1;generalize b0:W3=WF at *;have ho2:=c.ho
  have e0:(zW t).toArray=P p b8 q aa2 ac2 u r ba2 bc2:=by
   unfold zW
   first|(simp only;done)|(simp only[y.out.1,y.out.2.1,y.out.2.2.1,y.out.2.2.2,l.out.2.2.2.1,l.out.2.2.2.2])
  rw[e0] at ho2;clear b0 e5 e4 d8 b9 f1 f0 e8 e7 e6 of ol;have x0:=zA (i:=0) ho2 rfl;have x1:=zA (i:=1) ho2 rfl;have x2:=zA (i:=2) ho2 rfl;have x3:=zA (i:=3) ho2 rfl;have x4:=zA (i:=4) ho2 rfl;have x5:=zA (i:=5) ho2 rfl;have xl:=lt_of_block ho2;have y0:=zA (i:=0) c.hr rfl;have y1:=zA (i:=1) c.hr rfl;have y2:=zA (i:=2) c.hr rfl;have y3:=zA (i:=3) c.hr rfl;have y4:=zA (i:=4) c.hr rfl;have y5:=zA (i:=5) c.hr rfl;have yf:∀i,N WF (p1+1+1) i:=fun i=>zE c.hr
  have yl:=lt_of_block c.hr;have a0:=Ja (Jb c e0);clear c ho2 e0;go_wp2;refine bodyPost_ret (v:=.agg (P p b8 q aa2 ac2 u r ba2 bc2)) ?_ rfl (a0.out.1.ret a0.out.2 ?_)
  ·rw[zM rfl];go_simp
  ·have a4:=HP.out.2.2;have a6:=HP.out.2.1;have a9:=HF.out;have a5:=b1.out;unfold wR;rw[a6,a9,show yn q0=18 from a4,uw (.inl rfl) HN.out];exact a5
theorem lO{V:PV}{p:IProg}(hp:ProgIn w w.heap.size V p)(hs:SmallP p)(hq:I64 q0/\I64 q1/\I64 q2):
 G 19 #[yH V p,.agg #[O q0,O q1,O q2]] w (pd w (wR p q0 q1 q2)):=by
 have h:=turnW_lt q0
 by_cases h1:yn q0<=12∨yn q0=19
 ·exact turned_d hp hs hq h1
 by_cases h2:yn q0=13
 ·exact jO hp hs hq h2
 by_cases h3:yn q0=14
 ·exact iT hp hs hq h3
 by_cases g:yn q0=15
 ·exact jf hp hs hq g
 by_cases d:yn q0=16
 ·exact je hp hs hq d
 by_cases c:yn q0=17
 ·exact jX hp hs hq c
 ·exact iE hp hs hq Zo
end Go.Proofs.Ytojclalkfhoooaa
