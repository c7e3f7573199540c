/- Part of a proof. -/
import Derived.Test.YtojclalkfhoooaaGTur4
set_option linter.unusedSimpArgs false
set_option linter.unusedVariables false
namespace Go.Proofs.Ytojclalkfhoooaa
structure SbK (b:IBlk):Prop where
 par:b.params.length<=8
 oarg:∀o∈b.ops,o.args.length<=8
 tos:b.term.to.length<=8
 earg:∀e∈b.term.to,e.args.length<=8
def SbM (M:MS):Prop:=∀b∈M.f,SbK b
theorem sb_tick {M:MS}(h:SbM M):SbM M.tick:=h
theorem xt {M:MS}(h:SbM M){o:IOp}(ho:o.args.length<=8):SbM (M.emit o):=
 yb h fun b hb=>⟨(h b hb).par,fun x hx=>by
  rcases List.mem_append.1 hx with hx|hx
  ·exact(h b hb).oarg x hx
  ·rw[List.mem_singleton] at hx;subst hx;exact ho,(h b hb).tos,(h b hb).earg⟩
theorem qn {M:MS}(h:SbM M)(n:Nat):SbM (M.num n):=xt h (Nat.zero_le _)
theorem sM {M:MS}(h:SbM M){t:ITerm}(h1:t.to.length<=8)(h2:∀e∈t.to,e.args.length<=8):SbM (M.endB t):=
 yb h fun b hb=>⟨(h b hb).par,(h b hb).oarg,h1,h2⟩
theorem ux {M:MS}(h:SbM M){n:Nat}(hn:n<=8):SbM (M.block n):=fun b hb=>by
 rcases List.mem_append.1 hb with hb|hb
 ·exact h b hb
 ·rw[List.mem_singleton] at hb
  subst hb
  exact⟨by simp[wJ];exact hn,fun o ho=>by simp[wJ] at ho,by simp[wJ],fun e he=>by simp[wJ] at he⟩
theorem uP (E:ME){M:MS}(h:SbM M):SbM (zJ E M).2:=by
 unfold zJ
 split
 ·exact qn (sb_tick h) _
 ·split
  ·exact h
  ·exact h
theorem kw (E:ME){M:MS}(h:SbM M):SbM (yJ E M).2:=by
 unfold yJ
 split
 ·exact uP E h
 ·exact xt (M:=M.tick.tick.tick) h (Nat.zero_le _)
theorem ph (E:ME):∀(n:Nat) {M:MS},SbM M->SbM (yI E n M).2/\(yI E n M).1.length=n
 |0,M,h=>⟨h,rfl⟩
 |n+1,M,h=>⟨uP E (ph E n h).1,by show((yI E n M).1++ [_]).length=_;rw[List.length_append,(ph E n h).2];rfl⟩
theorem sb_call (E:ME)(hE:∀x∈E.args,0<=x/\x<4){M:MS}(h:SbM M):SbM (vN E M):=by
 unfold vN
 split
 ·exact h
 ·simp only
  split
  ·exact h
  ·refine xt (ph E _ (M:=M.tick) h).1 ?_
   show(yI E _ M.tick).1.length<=8
   rw[(ph E _ (M:=M.tick) h).2,List.getD_eq_getElem?_getD]
   cases hx:E.args[E.me+1+tkV E M (E.nf-E.me-1)]? with
   |none=>simp
   |some x=>have:=hE x (List.mem_of_getElem? hx);show x.toNat<=8;omega
theorem sb_arith (E:ME){M:MS}(h:SbM M):SbM (yR E M):=by
 unfold yR
 simp only
 have h2:=uP E (uP E h)
 split
 ·split
  ·exact xt (xt (qn (M:=(zJ E (zJ E M).2).2.tick.tick) h2 1) (Nat.zero_le _)) (Nat.zero_le _)
  ·exact xt (M:=(zJ E (zJ E M).2).2.tick.tick) h2 (Nat.zero_le _)
 ·exact xt (M:=(zJ E (zJ E M).2).2.tick) h2 (Nat.zero_le _)
theorem sb_op (E:ME)(hE:∀x∈E.args,0<=x/\x<4){M:MS}(h:SbM M):SbM (xK E M):=by
 unfold xK
 simp only
 have h0:SbM M.tick:=h
 have z:([]:List Int).length<=8:=Nat.zero_le _
 split
 ·exact qn (M:=M.tick.tick) h _
 split
 ·exact xt (uP E (M:=M.tick.tick) h) z
 split
 ·exact xt (M:=(yJ E M.tick).2.tick) (kw E h0) z
 split
 ·exact xt (M:=(zJ E (yJ E M.tick).2).2.tick) (uP E (kw E h0)) z
 split
 ·exact xt (M:=M.tick.tick) h z
 split
 ·exact xt (M:=(zJ E M.tick).2.tick) (uP E h0) z
 split
 ·exact xt (M:=(M.tick.tick.num (tkV E M.tick 4096)).tick) (qn (M:=M.tick.tick) h _) z
 split
 ·exact sb_call E hE h0
 split
 ·split
  ·exact xt (M:=M.tick.tick) h z
  ·exact h
 ·exact sb_arith E h0
theorem sb_ops (E:ME)(hE:∀x∈E.args,0<=x/\x<4):∀(n:Nat) {M:MS},SbM M->SbM (qY E n M)
 |0,M,h=>h
 |n+1,M,h=>sb_ops E hE n (sb_op E hE h)
theorem sb_run (E:ME)(hE:∀x∈E.args,0<=x/\x<4){M:MS}(h:SbM M):SbM (tR E M):=sb_ops E hE _ (M:=M.tick) h
theorem nM:∀(n:Nat) {M:MS},SbM M->SbM (xE n M)
 |0,M,h=>h
 |n+1,M,h=>ux (nM n h) (by omega)
theorem jb (E:ME){part:MS->MS}(hp:∀M,SbM M->SbM (part M))(tg:Nat)(join keep:Nat):∀(n k:Nat) {M:MS},SbM M->SbM (uV E part tg join keep n k M)
 |0,_,M,h=>h
 |n+1,k,M,h=>by
  unfold uV
  simp only
  refine jb E hp tg join keep n (k+1) ?_
  have h1:SbM (part {M with cur:=tg+k }).tick:=hp _ h
  have h2:=uP E h1
  show SbM _
  split
  ·exact sM (M:=(zJ E (part {M with cur:=tg+k }).tick).2) h2 (by simp) (by simp)
  ·exact sM (M:=(zJ E (part {M with cur:=tg+k }).tick).2) h2 (by simp) (by simp)
theorem oO (E:ME){part:MS->MS}(hp:∀M,SbM M->SbM (part M)){n:Nat}(hn:n<=8){M:MS}(h:SbM M):SbM (xi E part n M):=by
 unfold xi
 simp only
 have h2:=ux (nM n (uP E h)) (show 1<=8 by decide)
 have h3:=sM h2 (t:=⟨if 2<n then 3 else 2,(zJ E M).1,xk (zJ E M).2.f.length n⟩) (by simp[xk];exact hn) (fun e he=>by unfold xk at he;obtain⟨k,_,rfl⟩:=List.mem_map.1 he;exact Nat.zero_le _)
 exact jb E hp _ _ _ n 0 h3
theorem sb_loop (E:ME){part:MS->MS}(hp:∀M,SbM M->SbM (part M)){M:MS}(h:SbM M):SbM (tH E part M):=by
 unfold tH
 simp only
 have h1:=uP E (qn (M:=M.tick) h (tkV E M 5))
 have h2:=sM (ux (ux (ux h1 (show 2<=8 by decide)) (show 0<=8 by decide)) (show 0<=8 by decide)) (t:=⟨1,0,[⟨((zJ E (M.tick.num (tkV E M 5))).2.f.length:Nat),[(M.next:Int),(zJ E (M.tick.num (tkV E M 5))).1]⟩]⟩) (by simp) (by simp)
 refine sM (uP E (xt (qn (hp _ ?_) _) (Nat.zero_le _))) (by simp) (by simp)
 refine sM ?_ ?_ ?_
 ·exact h2
 ·simp
 ·simp
theorem rQ (E:ME)(hE:∀x∈E.args,0<=x/\x<4):∀(d:Nat) (M:MS),SbM M->SbM (zp E d M)
 |0,M,h=>sb_run E hE h
 |d+1,M,h=>by
  have h1:=sb_run E hE h
  show SbM (if(tR E M).left<1 then _ else _)
  split
  ·exact h1
  ·split
   ·exact oO E (rQ E hE d) (by decide) (M:=(tR E M).tick) h1
   split
   ·exact sb_loop E (rQ E hE d) (M:=(tR E M).tick) h1
   split
   ·refine oO E (rQ E hE d) ?_ (M:=(tR E M).tick.tick) h1
    have:tkV E (tR E M).tick 3<3:=by unfold tkV;omega
    omega
   ·exact h1
theorem sb_func (E:ME)(hE:∀x∈E.args,0<=x/\x<4)(pos:Nat):SbM (xR E pos):=by
 have h0:SbM (xD E pos):=by
  have hn:(E.args.getD E.me 0).toNat<=8:=by
   rw[List.getD_eq_getElem?_getD]
   cases hx:E.args[E.me]? with
   |none=>simp
   |some x=>have:=hE x (List.mem_of_getElem? hx);show x.toNat<=8;omega
  exact ux (M:= {(⟨pos,[],0,0,[],6⟩:MS).tick with next:=tkV E ⟨pos,[],0,0,[],6⟩ 3*10 }) (fun b hb=>by cases hb) hn
 have h1:=rQ E hE 1 _ (rQ E hE 2 _ h0)
 unfold xR
 simp only
 split
 ·exact sM (M:=(zp E 1 (zp E 2 (xD E pos))).tick) h1 (by simp) (by simp)
 split
 ·exact sM (M:=(zp E 1 (zp E 2 (xD E pos))).tick) h1 (by simp) (by simp)
 ·exact sM (uP E (M:=(zp E 1 (zp E 2 (xD E pos))).tick) h1) (by simp) (by simp)
theorem made_smS (s:List Int):SmP 15000 (uR s):=by
 have hn:=sm s
 refine⟨by rw[qA];omega,fun f hf=>?_,by show(yS s (mdN s)).length<=_;rw[yY];omega,by show 3<=15000;decide,by show 1<=15000;decide⟩
 obtain⟨k,hk⟩:=List.getElem?_of_mem hf
 have hkl:=(List.getElem?_eq_some_iff.1 hk).1
 rw[qA] at hkl
 rcases kz s hkl with⟨h,_⟩|h
 ·rw[hk] at h
  cases h
  exact⟨by simp,fun b hb=>by cases hb⟩
 ·rw[hk] at h
  cases h
  have h1:=sb_func (xC s k) (xy s _) (zg s k).2
  have hsz:=lz s k hkl
  generalize xR (xC s k) (zg s k).2=M at *
  unfold MS.sz at hsz
  refine⟨by omega,fun b hb=>?_⟩
  have h3:=h1 b hb
  have h4:=mem_opsN hb
  exact⟨by have:=h3.par;omega,by omega,by have:=h3.tos;omega,fun o ho=>by have:=h3.oarg o ho;omega,fun e he=>by have:=h3.earg e he;omega⟩
end Go.Proofs.Ytojclalkfhoooaa
