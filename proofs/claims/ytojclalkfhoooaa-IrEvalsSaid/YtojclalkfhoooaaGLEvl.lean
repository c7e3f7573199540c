/- Part of a proof. -/
import Derived.Test.YtojclalkfhoooaaGLFue
import Derived.Test.YtojclalkfhoooaaGLift9
import Derived.Test.YtojclalkfhoooaaGLw0v2
import Derived.Test.YtojclalkfhoooaaGLw3v2
import Derived.Test.YtojclalkfhoooaaGREval
set_option maxRecDepth 100000
set_option linter.all false
set_option maxHeartbeats 16000000
set_option maxRecDepth 100000
namespace Go.Proofs.Ytojclalkfhoooaa
open Go.ChangeShapes Go.WideShapes Go.ChangeAt Go.RowKit
variable {M:MS}{c:MS->MS}
section
variable {H:Type} {enc:TypeId×Value->H} {W:World} {v:Value} {d:DataW H} {p:List MemPlace} {r:Go.Reach} {base:Nat}
theorem cq (hv:Value.okWide Try.prog W r base 65 v)(j:DataW.Trod enc Try.prog W 0 (fun _=>true) true 65 v d p):∃l:List Nat,v=.agg (l.map vL).toArray/\(l.length=9/\∀x∈l,x<65536):=by
 have c2:Try.prog.cellsOf 65=9:=by kernel_rfl
 have c1:Try.prog.cellsOf 39=1:=by kernel_rfl
 simp only[Value.okWide,Try.underlying65] at hv;obtain⟨cs,rfl,g,_⟩:=hv;rw[c2] at g;obtain⟨fuel,hf⟩:=j;simp only[Value.cells] at hf;obtain⟨zs,e,hl,h⟩:=acP Try.underlying65 Try.underlying39 c1 (by simpa using g) hf;refine⟨zs.map Int.toNat,?_,by simpa using hl,fun x hx=>?_⟩
 ·rw[<-Array.toArray_toList (xs:=cs),e]
  congr 2
  rw[List.map_map];refine Up fun z c=>?_
  obtain⟨y,rfl,_⟩:=a8 (h z c);rfl
 ·obtain⟨z,c,rfl⟩:=Nu.1 hx;obtain⟨y,rfl,i⟩:=a8 (h z c)
  simpa using i
end
open Go.RowKit
theorem aal (s:List Int):∃n,(uR s).funcs.length=n/\(uR s).args.length=n/\(1<=n/\n<=4)/\∀f,f<n->∃k:Nat,(uR s).args[f]? =some (k:Int)/\k<4:=by
 refine⟨mdN s,?_,yY s _,sm s,fun f hf=>?_⟩
 ·exact qA s
 ·obtain⟨x,c⟩:∃x,(yS s (mdN s))[f]? =some x:=⟨_,Jd (by rw[yY];exact hf)⟩
  have h:=xy s _ x (Ji c);refine⟨x.toNat,?_,by omega⟩
  show(yS s (mdN s))[f]? =_
  rw[c]
  congr 1
  omega
abbrev cd (l0 l1 l2 l3 l4 l5 l6 l7:Nat):Array Value:=#[I l0,I l1,I l2,I l3,I l4,I l5,I l6,I l7]
def aQ (w:World)(n:Nat)(l:List Nat)(e:Ending)(w':World):Prop:=∃b,e=.returned (N b n 8)/\wV w' w'.heap.size (N b n 8) (l.take n)/\F w w'
theorem args_law {w:World}{p:IProg}{fa aa da ba:Option Addr}{fc ac dc bc:Nat}(hp:ProgIn w w.heap.size ⟨.slice fa p.funcs.length fc,.slice aa p.args.length ac,.slice da p.data.length dc,.slice ba p.banks.length bc⟩ p){f n:Nat}(hf:p.args[f]? =some (n:Int))(hn:n<4){l0 l1 l2 l3 l4 l5 l6 l7:Nat}(hl:∀x∈ [l0,l1,l2,l3,l4,l5,l6,l7],x<65536):
 Y 28 #[.agg (aZ p fa fc aa ac da dc ba bc),A f,.agg (cd l0 l1 l2 l3 l4 l5 l6 l7)] w (aQ w n [l0,l1,l2,l3,l4,l5,l6,l7]):=by
 have r:=(Jh.1 hf).1;have a1:(f:Int)<p.args.length:=Zo;have a2:p.args.length<=9223372036854775807:=by obtain⟨_,_,_,h1,h2⟩:=hp.args.form;omega
 obtain⟨ab,ao,rfl,g,h,_⟩:=hp.args.get hf;rw[Nk] at h;have y:(n:Int)<=8:=Zo;have u:n<=8:=Zo;have c:=((Below.refl w.heap.size w).alloc (Je _) (U (aZ p fa fc (some ⟨ab,ao,none⟩) ac da dc ba bc) 29)).alloc Zs (U (cd l0 l1 l2 l3 l4 l5 l6 l7) 67);have c0:=zV c g h;have d:=zB (o:=U (cd l0 l1 l2 l3 l4 l5 l6 l7) 67) (zI (W:=w) (o:=U (aZ p fa fc (some ⟨ab,ao,none⟩) ac da dc ba bc) 29) rfl);have c1:=zA (i:=1) d (by rfl);have j:=Ja (Jb c (Jb hl hn));clear hp hf r g h c d hl hn;go_enter Try.func28,Try.ntmps28;go_wp2;go_ret;refine⟨w.heap.size+1,rfl,?_,j.out.1⟩;obtain⟨l,hl⟩:∃l,[l0,l1,l2,l3,l4,l5,l6,l7]=l:=⟨_,rfl⟩
 have t:cd l0 l1 l2 l3 l4 l5 l6 l7=(l.map vL).toArray:=by rw[<-hl];rfl
 have a0:l.length=8:=by rw[<-hl];rfl
 have h64:=j.out.2.1;rw[hl] at h64 ⊢;rw[t];have hn:=j.out.2.2;refine⟨_,8,by rw[Oc,show min n l.length=n by omega],by rw[Oc];omega,by omega,fun k x hk=>⟨_,0,rfl,by simp,?_,?_⟩⟩
 ·have m:l[k]? =some x:=by
   rw[Ug] at hk
   split at hk
   ·exact hk
   ·cases hk
  rw[Ng,Nk];exact zA (zI Zs) (by simp[m,vL])
 ·exact h64 x (List.mem_of_mem_take (Ji hk))
structure SbK (b:IBlk):Prop where
 par:b.params.length<=8
 oarg:∀o∈b.ops,o.args.length<=8
 tos:b.term.to.length<=8
 earg:∀e∈b.term.to,e.args.length<=8
def SbM (M:MS):Prop:=∀b∈M.f,SbK b
theorem sb_tick(h:SbM M):SbM M.tick:=h
theorem xt(h:SbM M){o:IOp}(ho:o.args.length<=8):SbM (M.emit o):=
 yb h fun b hb=>⟨(h b hb).par,fun x c=>by
  rcases Jl.1 c with c|c
  ·exact(h b hb).oarg x c
  ·rw[Jo] at c;subst c;exact ho,(h b hb).tos,(h b hb).earg⟩
theorem qn(h:SbM M)(n:Nat):SbM (M.num n):=xt h (Jt _)
theorem sM(h:SbM M){t:ITerm}(h1:t.to.length<=8)(h2:∀e∈t.to,e.args.length<=8):SbM (M.endB t):=
 yb h fun b hb=>⟨(h b hb).par,(h b hb).oarg,h1,h2⟩
theorem abz(h:SbM M){n:Nat}(c:n<=8):SbM (M.block n):=fun b hb=>by
 rcases Jl.1 hb with hb|hb
 ·exact h b hb
 ·rw[Jo] at hb;subst hb;exact⟨by simp[wJ];exact c,fun o ho=>by simp[wJ] at ho,by simp[wJ],fun e he=>by simp[wJ] at he⟩
theorem uP(E:ME)(h:SbM M):SbM (zJ E M).2:=by
 unfold zJ
 split
 ·exact qn (sb_tick h) _
 ·split
  ·exact h
  ·exact h
theorem kw(E:ME)(h:SbM M):SbM (yJ E M).2:=by
 unfold yJ
 split
 ·exact uP E h
 ·exact xt (M:=M.tick.tick.tick) h (Jt _)
theorem ph (E:ME):∀(n:Nat) {M:MS},SbM M->SbM (yI E n M).2/\(yI E n M).1.length=n
 |0,M,h=>⟨h,rfl⟩
 |n+1,M,h=>⟨uP E (ph E n h).1,by show((yI E n M).1++ [_]).length=_;rw[Jk,(ph E n h).2];rfl⟩
theorem sb_call(E:ME)(d:∀x∈E.args,0<=x/\x<4)(h:SbM M):SbM (vN E M):=by
 unfold vN
 split
 ·exact h
 ·simp only
  split
  ·exact h
  ·refine xt (ph E _ (M:=M.tick) h).1 ?_
   show(yI E _ M.tick).1.length<=8
   rw[(ph E _ (M:=M.tick) h).2,Jj]
   cases c:E.args[E.me+1+tkV E M (E.nf-E.me-1)]? with
   |none=>simp
   |some x=>have:=d x (Ji c);show x.toNat<=8;omega
theorem sb_arith(E:ME)(h:SbM M):SbM (yR E M):=by
 unfold yR;simp only;have h2:=uP E (uP E h)
 split
 ·split
  ·exact xt (xt (qn (M:=(zJ E (zJ E M).2).2.tick.tick) h2 1) (Jt _)) (Jt _)
  ·exact xt (M:=(zJ E (zJ E M).2).2.tick.tick) h2 (Jt _)
 ·exact xt (M:=(zJ E (zJ E M).2).2.tick) h2 (Jt _)
theorem sb_op(E:ME)(d:∀x∈E.args,0<=x/\x<4)(h:SbM M):SbM (xK E M):=by
 unfold xK;simp only;have c:SbM M.tick:=h;have z:([]:List Int).length<=8:=Jt _
 split
 ·exact qn (M:=M.tick.tick) h _
 split
 ·exact xt (uP E (M:=M.tick.tick) h) z
 split
 ·exact xt (M:=(yJ E M.tick).2.tick) (kw E c) z
 split
 ·exact xt (M:=(zJ E (yJ E M.tick).2).2.tick) (uP E (kw E c)) z
 split
 ·exact xt (M:=M.tick.tick) h z
 split
 ·exact xt (M:=(zJ E M.tick).2.tick) (uP E c) z
 split
 ·exact xt (M:=(M.tick.tick.num (tkV E M.tick 4096)).tick) (qn (M:=M.tick.tick) h _) z
 split
 ·exact sb_call E d c
 split
 ·split
  ·exact xt (M:=M.tick.tick) h z
  ·exact h
 ·exact sb_arith E c
theorem sb_ops (E:ME)(hE:∀x∈E.args,0<=x/\x<4):∀(n:Nat) {M:MS},SbM M->SbM (qY E n M)
 |0,M,h=>h
 |n+1,M,h=>sb_ops E hE n (sb_op E hE h)
theorem sb_run(E:ME)(c:∀x∈E.args,0<=x/\x<4)(h:SbM M):SbM (tR E M):=sb_ops E c _ (M:=M.tick) h
theorem nM:∀(n:Nat) {M:MS},SbM M->SbM (xE n M)
 |0,M,h=>h
 |n+1,M,h=>abz (nM n h) Zo
theorem jb(E:ME)(hp:∀M,SbM M->SbM (c M))(tg:Nat)(d keep:Nat):∀(n k:Nat) {M:MS},SbM M->SbM (uV E c tg d keep n k M)
 |0,_,M,h=>h
 |n+1,k,M,h=>by
  unfold uV;simp only;refine jb E hp tg d keep n (k+1) ?_;have h1:SbM (c {M with cur:=tg+k }).tick:=hp _ h;have h2:=uP E h1
  show SbM _
  split
  ·exact sM (M:=(zJ E (c {M with cur:=tg+k }).tick).2) h2 Zs Zs
  ·exact sM (M:=(zJ E (c {M with cur:=tg+k }).tick).2) h2 Zs Zs
theorem oO(E:ME)(hp:∀M,SbM M->SbM (c M)){n:Nat}(d:n<=8)(h:SbM M):SbM (xi E c n M):=by
 unfold xi;simp only;have h2:=abz (nM n (uP E h)) (show 1<=8 by decide);have h3:=sM h2 (t:=⟨if 2<n then 3 else 2,(zJ E M).1,xk (zJ E M).2.f.length n⟩) (by simp[xk];exact d) (fun e he=>by unfold xk at he;obtain⟨k,_,rfl⟩:=Nu.1 he;exact Jt _);exact jb E hp _ _ _ n 0 h3
theorem sb_loop(E:ME)(hp:∀M,SbM M->SbM (c M))(h:SbM M):SbM (tH E c M):=by
 unfold tH;simp only;have h1:=uP E (qn (M:=M.tick) h (tkV E M 5));have h2:=sM (abz (abz (abz h1 (show 2<=8 by decide)) (show 0<=8 by decide)) (show 0<=8 by decide)) (t:=⟨1,0,[⟨((zJ E (M.tick.num (tkV E M 5))).2.f.length:Nat),[(M.next:Int),(zJ E (M.tick.num (tkV E M 5))).1]⟩]⟩) Zs Zs;refine sM (uP E (xt (qn (hp _ ?_) _) (Jt _))) Zs Zs;refine sM ?_ ?_ ?_
 ·exact h2
 ·simp
 ·simp
theorem rQ (E:ME)(c:∀x∈E.args,0<=x/\x<4):∀(d:Nat) (M:MS),SbM M->SbM (zp E d M)
 |0,M,h=>sb_run E c h
 |d+1,M,h=>by
  have h1:=sb_run E c h
  show SbM (if(tR E M).left<1 then _ else _)
  split
  ·exact h1
  ·split
   ·exact oO E (rQ E c d) Zd (M:=(tR E M).tick) h1
   split
   ·exact sb_loop E (rQ E c d) (M:=(tR E M).tick) h1
   split
   ·refine oO E (rQ E c d) ?_ (M:=(tR E M).tick.tick) h1;have:tkV E (tR E M).tick 3<3:=by unfold tkV;omega
    omega
   ·exact h1
theorem sb_func (E:ME)(c:∀x∈E.args,0<=x/\x<4)(pos:Nat):SbM (xR E pos):=by
 have h:SbM (xD E pos):=by
  have g:(E.args.getD E.me 0).toNat<=8:=by
   rw[Jj]
   cases d:E.args[E.me]? with
   |none=>simp
   |some x=>have:=c x (Ji d);show x.toNat<=8;omega
  exact abz (M:= {(⟨pos,[],0,0,[],6⟩:MS).tick with next:=tkV E ⟨pos,[],0,0,[],6⟩ 3*10 }) (fun b hb=>by cases hb) g
 have h1:=rQ E c 1 _ (rQ E c 2 _ h);unfold xR;simp only
 split
 ·exact sM (M:=(zp E 1 (zp E 2 (xD E pos))).tick) h1 Zs Zs
 split
 ·exact sM (M:=(zp E 1 (zp E 2 (xD E pos))).tick) h1 Zs Zs
 ·exact sM (uP E (M:=(zp E 1 (zp E 2 (xD E pos))).tick) h1) Zs Zs
theorem made_smS (s:List Int):SmP 15000 (uR s):=by
 have g:=sm s;refine⟨by rw[qA];omega,fun f hf=>?_,by show(yS s (mdN s)).length<=_;rw[yY];omega,by show 3<=15000;decide,by show 1<=15000;decide⟩;obtain⟨k,hk⟩:=Ny hf;have c:=(Jh.1 hk).1;rw[qA] at c;rcases kz s c with⟨h,_⟩|h
 ·rw[hk] at h;cases h;exact⟨by simp,fun b hb=>by cases hb⟩
 ·rw[hk] at h;cases h;have h1:=sb_func (xC s k) (xy s _) (zg s k).2;have d:=lz s k c;generalize xR (xC s k) (zg s k).2=M at *;unfold MS.sz at d;refine⟨by omega,fun b hb=>?_⟩;have h3:=h1 b hb;have i:=acZ hb;exact⟨by have:=h3.par;omega,by omega,by have:=h3.tos;omega,fun o ho=>by have:=h3.oarg o ho;omega,fun e he=>by have:=h3.earg e he;omega⟩
theorem nine {l:List Nat}(h:l.length=9):∃l0 l1 l2 l3 l4 l5 l6 l7 l8,l=[l0,l1,l2,l3,l4,l5,l6,l7,l8]:=by
 match l,h with
 | [l0,l1,l2,l3,l4,l5,l6,l7,l8],_=>exact⟨l0,l1,l2,l3,l4,l5,l6,l7,l8,rfl⟩
theorem adD (w:World)(sv:Value)(s:List Int)(l:List Nat)(xv:Value)(x:SetF)(hs:zY w w.heap.size sv s)(hl:l.length=9/\∀x∈l,x<65536)(hx:SetIn w w.heap.size xv x):
 Calls Try.prog 5 #[sv,.agg (l.map vL).toArray,xv] w fun e w'=>e=.returned (.bool true)/\Below w.heap.size w w':=by
 obtain⟨sa,sc,rfl,e6,e5⟩:=hs.form;obtain⟨sa3,sc3,d,qc3,rfl,f2,f1⟩:=hx.form;obtain⟨b7,h64⟩:=hl;obtain⟨l0,l1,l2,l3,l4,l5,l6,l7,l8,rfl⟩:=nine b7;have g3:=hx.fuel;have f0:l8<65536:=h64 l8 Zs;have HS:=Ja (Jb hs (Jb hx (show ∀x∈ [l0,l1,l2,l3,l4,l5,l6,l7],x<65536 from fun x h=>h64 x (by simp only[Jq,List.not_mem_nil,or_false] at h ⊢;omega))))
 show Calls Try.prog 5 #[.slice sa s.length sc,.agg #[.int .u16 (l0:Int),.int .u16 (l1:Int),.int .u16 (l2:Int),.int .u16 (l3:Int),.int .u16 (l4:Int),.int .u16 (l5:Int),.int .u16 (l6:Int),.int .u16 (l7:Int),.int .u16 (l8:Int)],.agg #[.slice sa3 x.inn.length sc3,.slice d x.irq.length qc3,.int .u32 (x.ram:Int),.int .u16 (x.fuel:Int)]] w fun e w'=>e=.returned (.bool true)/\Below w.heap.size w w'
 have a0:Below w.heap.size w ((w.alloc (U #[.int .u16 (l0:Int),.int .u16 (l1:Int),.int .u16 (l2:Int),.int .u16 (l3:Int),.int .u16 (l4:Int),.int .u16 (l5:Int),.int .u16 (l6:Int),.int .u16 (l7:Int),.int .u16 (l8:Int)] 65)).alloc (U #[.slice sa3 x.inn.length sc3,.slice d x.irq.length qc3,.int .u32 (x.ram:Int),.int .u16 (x.fuel:Int)] 41)):=((Below.refl _ _).alloc (Je _) _).alloc Zs _;have b2:L ((w.alloc (U #[.int .u16 (l0:Int),.int .u16 (l1:Int),.int .u16 (l2:Int),.int .u16 (l3:Int),.int .u16 (l4:Int),.int .u16 (l5:Int),.int .u16 (l6:Int),.int .u16 (l7:Int),.int .u16 (l8:Int)] 65)).alloc (U #[.slice sa3 x.inn.length sc3,.slice d x.irq.length qc3,.int .u32 (x.ram:Int),.int .u16 (x.fuel:Int)] 41)) w.heap.size #[.int .u16 (l0:Int),.int .u16 (l1:Int),.int .u16 (l2:Int),.int .u16 (l3:Int),.int .u16 (l4:Int),.int .u16 (l5:Int),.int .u16 (l6:Int),.int .u16 (l7:Int),.int .u16 (l8:Int)] 65:=zB (zI rfl);have b1:SBx ((w.alloc (U #[.int .u16 (l0:Int),.int .u16 (l1:Int),.int .u16 (l2:Int),.int .u16 (l3:Int),.int .u16 (l4:Int),.int .u16 (l5:Int),.int .u16 (l6:Int),.int .u16 (l7:Int),.int .u16 (l8:Int)] 65)).alloc (U #[.slice sa3 x.inn.length sc3,.slice d x.irq.length qc3,.int .u32 (x.ram:Int),.int .u16 (x.fuel:Int)] 41)) (w.heap.size+1) x sa3 sc3 d qc3:=⟨zI Zs,(hx.below a0).mono a0.size⟩
 have H0:=Ja (Jb a0 (Jb b2 b1));clear hs e6 e5 f2 f1 b7 h64 a0 b2 b1 hx;go_enter Try.func5,Try.ntmps5;go_upto_region 2 with(go_at_call 17;go_must (refine(ln _).mono ?_;rintro e w0 ⟨rfl,c⟩))
 have r:=Ja (Jb (H0.out.1.trans (c.mono H0.out.1.size)) (Jb (zH c H0.out.2.1 (lt_of_block H0.out.2.1)) (H0.out.2.2.below c)));clear c H0;have HM:=Ja (abW ((HS.out.1.below zO r.out.1).mono zO r.out.1.size));have b6:=(made_smS (s.take 200)).sized Zd;obtain⟨n0,m,e9,o,d1⟩:=aal (s.take 200);have HG:=Ja (Jb m (Jb o d1));clear m e9 o d1;generalize uR (s.take 200)=p at *;go_upto_region 3 with(go_at_call 18;go_must (refine HM.out.mono ?_;rintro e w1 ⟨fa,fc,aa,ac,da,dc,ba,bc,rfl,hp,c⟩))
 have u:=c.alloc c.size (U #[.slice fa p.funcs.length fc,.slice aa p.args.length ac,A p.entry,A p.handler,.slice da p.data.length dc,.slice ba p.banks.length bc] 29);have j:=Ja (Jb (r.out.1.trans (u.mono r.out.1.size)) (Jb (zH u r.out.2.1 (lt_of_block r.out.2.1)) (Jb (r.out.2.2.below u) (PBx.new hp))));clear c hp u HM r;generalize w1.alloc (U #[.slice fa p.funcs.length fc,.slice aa p.args.length ac,A p.entry,A p.handler,.slice da p.data.length dc,.slice ba p.banks.length bc] 29)=X at *;generalize w1.heap.size=b8 at *;obtain⟨f,hf⟩:∃f,l8%p.funcs.length=f:=⟨_,rfl⟩
 have m:=HG.out.1;have o:=HG.out.2.1;have a2:f<n0:=by rw[<-hf,m];exact Qj _ Zo
 obtain⟨n,b4,b5⟩:=HG.out.2.2 f a2;have f4:0<p.funcs.length:=Zo;have f5:p.funcs.length<=4:=Zo;have d2:(l8:Int)%(p.funcs.length:Int)=(f:Int):=by rw[<-hf];exact(Ou _ _).symm
 have c0:G X b8 0 (.slice fa p.funcs.length fc):=j.out.2.2.2.c0;have d8:G X w.heap.size 8 (.int .u16 (l8:Int)):=zA j.out.2.1 (by rfl);have g:=Ja (Jb b4 (Jb b5 (Jb a2 (Jb m (Jb b6 o)))));clear hf a2 b4 b5 m o b6 HG;go_upto_region 4 with fail;rw[d2];clear d2 f4 f5 c0 d8 f0;have h4:∀W,(Instr.arrayAt 67 (N w.heap.size 8 9)).run Try.prog W=.ok (.pointer (some ⟨w.heap.size,0,none⟩)) W:=fun W=>by kernel_rfl
 have HC:=Ja (show ∀W,Below X.heap.size X W->(G W b8 0 (.slice fa p.funcs.length fc)/\G W b8 1 (.slice aa p.args.length ac)/\G W b8 2 (A p.entry)/\G W b8 3 (A p.handler)/\G W b8 4 (.slice da p.data.length dc)/\G W b8 5 (.slice ba p.banks.length bc)/\G W w.heap.size 0 (.int .u16 (l0:Int))/\G W w.heap.size 1 (.int .u16 (l1:Int))/\G W w.heap.size 2 (.int .u16 (l2:Int))/\G W w.heap.size 3 (.int .u16 (l3:Int))/\G W w.heap.size 4 (.int .u16 (l4:Int))/\G W w.heap.size 5 (.int .u16 (l5:Int))/\G W w.heap.size 6 (.int .u16 (l6:Int))/\G W w.heap.size 7 (.int .u16 (l7:Int))) from fun W hb=>by
  have h1:=j.out.2.2.2.below hb;have h2:=zH hb j.out.2.1 (lt_of_block j.out.2.1)
  exact⟨h1.c0,h1.c1,h1.c2,h1.c3,h1.c4,h1.c5,zA h2 (by rfl),zA h2 (by rfl),zA h2 (by rfl),zA h2 (by rfl),zA h2 (by rfl),zA h2 (by rfl),zA h2 (by rfl),zA h2 (by rfl)⟩)
 have d4:=Ja (show ∀W,Below X.heap.size X W->Calls Try.prog 28 #[.agg #[.slice fa p.funcs.length fc,.slice aa p.args.length ac,A p.entry,A p.handler,.slice da p.data.length dc,.slice ba p.banks.length bc],A f,.agg (cd l0 l1 l2 l3 l4 l5 l6 l7)] W (aQ W n [l0,l1,l2,l3,l4,l5,l6,l7]) from fun W hb=>args_law (j.out.2.2.2.below hb).prog g.out.1 g.out.2.1 HS.out.2.2)
 go_cut [10] (fun v wx=>∃b,v=N b n 8/\Hid (wV wx wx.heap.size (N b n 8) ([l0,l1,l2,l3,l4,l5,l6,l7].take n)/\Below X.heap.size X wx))
 case first=>
  go_region_held3 (fun w'=>G w' b8 0 (.slice fa p.funcs.length fc)/\G w' b8 1 (.slice aa p.args.length ac)/\G w' b8 2 (A p.entry)/\G w' b8 3 (A p.handler)/\G w' b8 4 (.slice da p.data.length dc)/\G w' b8 5 (.slice ba p.banks.length bc)/\G w' w.heap.size 0 (.int .u16 (l0:Int))/\G w' w.heap.size 1 (.int .u16 (l1:Int))/\G w' w.heap.size 2 (.int .u16 (l2:Int))/\G w' w.heap.size 3 (.int .u16 (l3:Int))/\G w' w.heap.size 4 (.int .u16 (l4:Int))/\G w' w.heap.size 5 (.int .u16 (l5:Int))/\G w' w.heap.size 6 (.int .u16 (l6:Int))/\G w' w.heap.size 7 (.int .u16 (l7:Int)))
   ((refine HC.out _ ?_;repeat' (first|with_reducible exact Below.refl _ _|with_reducible assumption|with_reducible refine Below.drew ?_|with_reducible refine Below.alloc ?_ Zn _|with_reducible refine Below.setCell ?_ Zn _)))
   (first
     |(go_at_call 28
       refine(d4.out _ Zb).mono ?_;rintro e y1 ⟨b,rfl,d0,c⟩;have a1:Below X.heap.size X y1:=Below.trans Zb (c.mono Zn);have e7:=a1.size
       clear c))
  all_goals go_wp2_with fail
  all_goals go_meet
  all_goals exact⟨b,rfl,Ja ⟨by first|exact d0|exact(d0.below zr (uG (Below.refl _ _))),by first|assumption|exact uG Zz⟩⟩
 case rest=>
 obtain⟨b11,rfl,HA⟩:=hcut;have k:=Ja (Jb (j.out.1.trans (HA.out.2.mono j.out.1.size)) (Jb (j.out.2.2.1.below HA.out.2) (j.out.2.2.2.below HA.out.2)));obtain⟨Y,hY⟩:∃Y,wc=Y:=⟨_,rfl⟩
 rw[hY] at HA k ⊢;clear hY HC d4 j;obtain⟨X,rfl⟩:∃X,X=Y:=⟨_,rfl⟩
 obtain⟨I,hI⟩:∃I,x.inn.take 20=I:=⟨_,rfl⟩
 obtain⟨Q,hQ⟩:∃Q,x.irq.take 20=Q:=⟨_,rfl⟩
 obtain⟨F1,d3⟩:∃F,x.fuel%3000=F:=⟨_,rfl⟩
 have f7:F1<3000:=Zo;obtain⟨R,hR⟩:∃R,i9 ⟨p,I,Q⟩ (f:Int) ([l0,l1,l2,l3,l4,l5,l6,l7].take n) (aaX x) (F1:Int)=R:=⟨_,rfl⟩
 have HC:=Ja (show ∀W,Below X.heap.size X W->(G W b8 0 (.slice fa p.funcs.length fc)/\G W b8 1 (.slice aa p.args.length ac)/\G W b8 2 (A p.entry)/\G W b8 3 (A p.handler)/\G W b8 4 (.slice da p.data.length dc)/\G W b8 5 (.slice ba p.banks.length bc)/\G W (w.heap.size+1) 0 (.slice sa3 x.inn.length sc3)/\G W (w.heap.size+1) 1 (.slice d x.irq.length qc3)/\G W (w.heap.size+1) 2 (.int .u32 (x.ram:Int))/\G W (w.heap.size+1) 3 (.int .u16 (x.fuel:Int))) from fun W hb=>by
  have h1:=k.out.2.2.below hb;have h2:=k.out.2.1.below hb
  exact⟨h1.c0,h1.c1,h1.c2,h1.c3,h1.c4,h1.c5,h2.c0,h2.c1,h2.c2,h2.c3⟩)
 have f9:=Ja (show ∀W,Below X.heap.size X W->Calls Try.prog 24 #[.agg #[.slice sa3 x.inn.length sc3,.slice d x.irq.length qc3,.int .u32 (x.ram:Int),.int .u16 (x.fuel:Int)]] W (aap W (aaX x)) from fun W hb=>gC (k.out.2.1.below hb).set)
 have g0:=Ja (show ∀W,Below X.heap.size X W->Calls Try.prog 26 #[.agg #[.slice sa3 x.inn.length sc3,.slice d x.irq.length qc3,.int .u32 (x.ram:Int),.int .u16 (x.fuel:Int)]] W (dq W (F1:Int)) from fun W hb=>by
  have:=fq (k.out.2.1.below hb).set;rw[d3] at this
  exact this)
 have f8:=Ja (show ∀W,Below X.heap.size X W->Calls Try.prog 25 #[.agg #[.slice sa3 x.inn.length sc3,.slice d x.irq.length qc3,.int .u32 (x.ram:Int),.int .u16 (x.fuel:Int)]] W (fun e w'=>∃ia ic qa qc,e=.returned (.agg #[.slice ia I.length ic,.slice qa Q.length qc])/\wV w' w'.heap.size (.slice ia I.length ic) I/\dL w' w'.heap.size (.slice qa Q.length qc) Q/\Below W.heap.size W w') from fun W hb=>by
  refine(fi (k.out.2.1.below hb).set).mono ?_;rintro e w' ⟨ia,ic,qa,qc,rfl,h1,h2,h3⟩;rw[hI] at h1 ⊢;rw[hQ] at h2 ⊢
  exact⟨ia,ic,qa,qc,rfl,h1.mono zr h3.size,h2.mono xQ h3.size,h3⟩)
 have g1:=Ja (show ∀W ia ic qa qc,Below X.heap.size X W->wV W W.heap.size (.slice ia I.length ic) I->dL W W.heap.size (.slice qa Q.length qc) Q->
  Calls Try.prog 23 #[.agg #[.slice fa p.funcs.length fc,.slice aa p.args.length ac,A p.entry,A p.handler,.slice da p.data.length dc,.slice ba p.banks.length bc],A f,N b11 n 8,.string (aaX x),.agg #[.slice ia I.length ic,.slice qa Q.length qc],A F1] W (eM W R) from fun W ia ic qa qc hb hi hq=>by
  have t:I64 (f:Int):=by have:=g.out.2.2.1;have:=g.out.2.2.2.2.2;exact⟨by omega,by omega⟩
  rw[<-hR]
  exact(mX (k.out.2.2.below hb).prog g.out.2.2.2.2.1 (f:Int) t ((HA.out.1.below zr hb).mono zr hb.size) (aaX x) (eU x) hi hq (F1:Int) ⟨by omega,by omega⟩ Zo).mono fun e w' h=>h.open)
 have g2:=Ja (show ∀W ia ic qa qc,Below X.heap.size X W->wV W W.heap.size (.slice ia I.length ic) I->dL W W.heap.size (.slice qa Q.length qc) Q->
  Calls Try.prog 27 #[.agg #[.slice fa p.funcs.length fc,.slice aa p.args.length ac,A p.entry,A p.handler,.slice da p.data.length dc,.slice ba p.banks.length bc],A f,N b11 n 8,.string (aaX x),.agg #[.slice ia I.length ic,.slice qa Q.length qc],A F1] W (eM W R) from fun W ia ic qa qc hb hi hq=>by
  have t:I64 (f:Int):=by have:=g.out.2.2.1;have:=g.out.2.2.2.2.2;exact⟨by omega,by omega⟩
  rw[<-hR]
  exact(eval_q (k.out.2.2.below hb).prog g.out.2.2.2.2.1 (f:Int) t ((HA.out.1.below zr hb).mono zr hb.size) (aaX x) (eU x) hi hq (F1:Int) ⟨by omega,by omega⟩).mono fun e w' h=>h.open)
 have HR:=Ja hR;clear hI hQ d3 f7 hR;go_upto_region 5 with fail
 go_region_held3 (fun w'=>G w' b8 0 (.slice fa p.funcs.length fc)/\G w' b8 1 (.slice aa p.args.length ac)/\G w' b8 2 (A p.entry)/\G w' b8 3 (A p.handler)/\G w' b8 4 (.slice da p.data.length dc)/\G w' b8 5 (.slice ba p.banks.length bc)/\G w' (w.heap.size+1) 0 (.slice sa3 x.inn.length sc3)/\G w' (w.heap.size+1) 1 (.slice d x.irq.length qc3)/\G w' (w.heap.size+1) 2 (.int .u32 (x.ram:Int))/\G w' (w.heap.size+1) 3 (.int .u16 (x.fuel:Int)))
  ((refine HC.out _ ?_;repeat' (first|with_reducible exact Below.refl _ _|with_reducible assumption|with_reducible refine Below.drew ?_|with_reducible refine Below.alloc ?_ Zn _|with_reducible refine Below.setCell ?_ Zn _)))
  (first
    |(go_at_call 24
      refine(f9.out _ Zb).mono ?_;rintro e y1 ⟨rfl,c⟩;have a1:Below X.heap.size X y1:=Below.trans Zb (c.mono Zn);have e7:=a1.size
      try (have b0:Below y4.heap.size y4 y1:=Below.trans Zb (c.mono Zn))
      try (have e4:=b0.size)
      clear c)
    |(go_at_call 25
      refine(f8.out _ Zb).mono ?_;rintro e y2 ⟨ia,ic,qa,qc,rfl,f3,e8,a4⟩;have e0:Below X.heap.size X y2:=Below.trans Zb (a4.mono Zn);have h0:=e0.size
      try (have a7:Below y4.heap.size y4 y2:=Below.trans Zb (a4.mono Zn))
      try (have e3:=a7.size)
      clear a4)
    |(go_at_call 26
      refine(g0.out _ Zb).mono ?_;rintro e y3 ⟨rfl,y⟩;have i:Below y2.heap.size y2 y3:=Below.trans Zb (y.mono Zn);have b9:=(f3.below zr i).mono zr i.size;have b3:=(e8.below xQ i).mono xQ i.size;clear i;have d9:Below X.heap.size X y3:=Below.trans Zb (y.mono Zn);have g9:=d9.size
      try (have a6:Below y4.heap.size y4 y3:=Below.trans Zb (y.mono Zn))
      try (have e2:=a6.size)
      clear y)
    |(go_at_call 23
      refine(g1.out _ _ _ _ _ Zb (yN.mono zr (B:=y3.heap.size) (yN.below zr b9 Zb) Zn) (yN.mono xQ (B:=y3.heap.size) (yN.below xQ b3 Zb) Zn)).mono ?_;rintro e y4 ⟨oa,oc,rfl,c7,c9⟩;have d7:Below X.heap.size X y4:=Below.trans Zb (c9.mono Zn);have g6:=d7.size
      clear c9)
    |(go_at_call 27
      refine(g2.out _ _ _ _ _ Zb (yN.mono zr (B:=y3.heap.size) (yN.below zr b9 Zb) Zn) (yN.mono xQ (B:=y3.heap.size) (yN.below xQ b3 Zb) Zn)).mono ?_;rintro e y5 ⟨ob,od,rfl,f6,a3⟩;have d6:Below X.heap.size X y5:=Below.trans Zb (a3.mono Zn);have g5:=d6.size
      try (have a5:Below y4.heap.size y4 y5:=Below.trans Zb (a3.mono Zn))
      try (have e1:=a5.size)
      clear a3)
    |(go_at_call 22
      refine(acn rfl (ev_len c7) (yN.mono vo (B:=y4.heap.size) (yN.below vo c7 Zb) Zn) (yN.mono vo (B:=y5.heap.size) (yN.below vo f6 Zb) Zn)).mono ?_;rintro e y6 ⟨rfl,c8⟩;have d5:Below X.heap.size X y6:=Below.trans Zb (c8.mono Zn);have g4:=d5.size
      clear c8))
 all_goals go_wp2_with fail
 all_goals go_ret
 all_goals exact⟨rfl,k.out.1.trans (Below.mono (by first|with_reducible assumption|with_reducible exact uG Zz) k.out.1.size)⟩
end Go.Proofs.Ytojclalkfhoooaa
