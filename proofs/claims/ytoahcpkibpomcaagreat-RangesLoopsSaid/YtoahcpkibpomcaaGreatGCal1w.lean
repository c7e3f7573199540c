/- Part of a proof. -/
import Derived.Test.YtoahcpkibpomcaaGreatGVnAw
set_option linter.all false
namespace Go.Proofs.YtoahcpkibpomcaaGreat
variable {o:IOp}{m m':Mach}{x:Nat}{call:Int->List Nat->Mach->Res Nat}
def OkBlk (p:IProg)(blocks:List IBlk)(b:IBlk):Prop:=(∀o∈b.ops,ajK p o)/\bS blocks b.term/\b.params.length<=65536
structure OkProg (p:IProg):Prop where
 blk:∀blocks∈p.funcs,∀b∈blocks,OkBlk p blocks b
 par:∀(i:Nat) (b:IBlk) (bs:List IBlk),p.funcs[i]? =some (b::bs)->(b.params.length:Int)=p.args.getD i 0
 hnd:p.handler≠-1->0<=p.handler/\p.handler.toNat<p.funcs.length/\p.args.getD p.handler.toNat 0=0
 bank:∀s∈p.banks,s.size=4096
 argle:∀i,p.args.getD i 0<=65536
 alen:p.args.length=p.funcs.length
theorem qq:∀(ps:List Int) (as:List Nat) (v:Int->Nat) (p:Int) (a:Nat),ps.length=as.length->r7 (ps++ [p]) (as++ [a]) v=iY (r7 ps as v) p a
 | [],[],v,p,a,_=>rfl
 | [],_::_,_,_,_,h=>by simp at h
 |_::_,[],_,_,_,h=>by simp at h
 |p'::ps,a'::as,v,p,a,h=>by
  show r7 (ps++ [p]) (as++ [a]) (iY v p' a')=iY (r7 ps as (iY v p' a')) p a
  exact qq ps as _ p a (by simpa using h)
def mT (call:Int->List Nat->Mach->Res Nat):Prop:=∀f args m x m',call f args m=.ok x m'->m'.fuel<=m.fuel
theorem nV{E:IEnv}{a b:Nat}(h:mU E o a b m=.ok x m'):m'.fuel<=m.fuel:=by
 unfold mU at h;have c:∀ {y:Nat} {m1:Mach},(Res.ok y m1:Res Nat)=.ok x m'->m1.fuel=m.fuel->m'.fuel<=m.fuel:=fun h e=>by cases h;omega
 by_cases c1:o.code=1;· rw[if_pos c1] at h;exact c h rfl
 rw[if_neg c1] at h;by_cases c2:o.code=2;· rw[if_pos c2] at h;exact c h rfl
 rw[if_neg c2] at h;by_cases c3:o.code=3;· rw[if_pos c3] at h;exact c h rfl
 rw[if_neg c3] at h;by_cases c4:o.code=4;· rw[if_pos c4] at h;exact c h rfl
 rw[if_neg c4] at h;by_cases u:o.code=18
 ·rw[if_pos u] at h;unfold pR at h;split at h
  ·split at h
   ·exact c h rfl
   ·cases h
  ·cases h
 rw[if_neg u] at h;by_cases t:o.code=19
 ·rw[if_pos t] at h;unfold abh at h;split at h
  ·exact c h rfl
  ·cases h
 rw[if_neg t] at h;by_cases l:o.code=20
 ·rw[if_pos l] at h;unfold sK at h;split at h
  ·split at h
   ·exact c h rfl
   ·cases h
  ·cases h
 rw[if_neg l] at h;by_cases k:o.code=21
 ·rw[if_pos k] at h;unfold td at h;split at h
  ·exact c h rfl
  ·cases h
 rw[if_neg k] at h;by_cases j:o.code=22
 ·rw[if_pos j] at h;unfold im at h;split at h
  ·split at h
   ·exact c h rfl
   ·cases h
  ·cases h
 rw[if_neg j] at h;by_cases i:o.code=23
 ·rw[if_pos i] at h;unfold nX at h;split at h
  ·exact c h rfl
  ·cases h
 rw[if_neg i] at h;by_cases g:o.code=24
 ·rw[if_pos g] at h;unfold uq at h;split at h
  ·exact c h rfl
  ·exact c h rfl
 rw[if_neg g] at h;by_cases d:o.code=25
 ·rw[if_pos d] at h;exact c h rfl
 rw[if_neg d] at h;unfold iy at h;split at h
 ·cases h
 ·exact c h rfl
theorem pI{E:IEnv}(g:mT call){v:Int->Nat}(h:oV E call o v m=.ok x m'):m'.fuel<=m.fuel:=by
 unfold oV at h
 by_cases d:o.code=26
 ·rw[if_pos d] at h;exact g _ _ _ _ _ h
 ·rw[if_neg d] at h
  by_cases c:o.code=27
  ·rw[if_pos c] at h;unfold tY at h
   split at h
   ·split at h
    ·split at h
     ·rename_i h2;cases h;have:=g _ _ _ _ _ h2;exact this
     ·cases h
    ·cases h;exact Og _
   ·cases h;exact Og _
  ·rw[if_neg c] at h;exact nV h
theorem nK{E:IEnv}(c:mT call):∀ {ops:List IOp} {v v':Int->Nat} {m m':Mach},iq E call ops v m=.ok v' m'->m'.fuel<=m.fuel
 | [],v,v',m,m',h=>by cases h;exact Og _
 |o::os,v,v',m,m',h=>by
  unfold iq at h
  split at h
  ·cases h
  ·split at h
   ·rename_i h2
    have h3:=pI c h2;have d:=nK c h;simp only[Mach.pay] at h3;omega
   ·cases h
theorem rt{E:IEnv}(c:mT call){blocks:List IBlk}:∀ {n:Nat} {a:Int} {args:List Nat} {v:Int->Nat} {m m':Mach} {x:Nat},tJ E call blocks n a args v m=.ok x m'->m'.fuel<=m.fuel
 |0,a,args,v,m,m',x,h=>by cases h
 |n+1,a,args,v,m,m',x,h=>by
  unfold tJ at h
  split at h
  ·cases h
  ·rename_i h2
   have h3:=nK c h2
   split at h
   ·cases h
   ·split at h
    ·cases h;simp only[Mach.pay];omega
    ·split at h
     ·cases h
     ·have d:=rt c h;simp only[Mach.pay] at d;omega
theorem pO (E:IEnv):∀r,mT (xW E r)
 |0=>fun f args m x m' h=>by cases h
 |r+1=>fun f args m x m' h=>by
  unfold xW at h
  split at h
  ·cases h
  ·exact rt (pO E r) h
theorem Rg.sub.has{a b:Rg}(h:a.sub b)(c:a.has x):b.has x:=⟨Jn h.1 c.1,Jn c.2 h.2⟩
theorem ahv{c:Int}(j:3<=c/\c<=17){a b:Rg}{y:Nat}(g:a.has x)(hy:b.has y∨c=3∨c=4)(m:y<65536)(k:a.ok)(hb:b.ok)(i:¬(c=8/\y=0)):(afL c a b).has (cw c x y):=by
 have l:=aga j (g.lt k) m i;unfold afL
 split
 ·exact i5 l
 ·rename_i r hr
  split
  ·rename_i h
   obtain⟨_,h1,h2⟩:=h;have h1:a.lo=a.hi:=of_decide_eq_true h1;have d:x=a.lo:=by have:=g.1;have:=g.2;omega
   split
   ·exact i5 l
   ·rename_i t
    rcases h2 with h2|h2
    ·rw[d,afY h2 a.lo y b.lo];exact ae0 _
    ·have h2:b.lo=b.hi:=of_decide_eq_true h2;rcases hy with hy|hy
     ·have o:y=b.lo:=by have:=hy.1;have:=hy.2;omega
      rw[d,o];exact ae0 _
     ·rw[d,afY hy a.lo y b.lo];exact ae0 _
  ·rcases hy with hy|hy
   ·exact agG j hr g hy k hb i
   ·rw[aiF hy a b (agu y)] at hr;exact agG j hr g (ae0 y) k ⟨Je _,by show y<=65535;omega⟩ i
theorem ags {n:Nat}:∀(ps:List Int) (q:Slv×Bool),OkS n q.1->(∀v∈ps,v.toNat<n)->∀v∈ps,(ps.foldl (fun q v=>i3 0 v vu q) q).1.knw v=true/\(ps.foldl (fun q v=>i3 0 v vu q) q).1.get v=vu
 | [],q,hq,h,v,hv=>by cases hv
 |u::ps,q,hq,h,v,hv=>by
  have hk:=(ae7 (k:=0) (a:=fun _=>vu) (h u (.head _)) (fun _ _=>mc)).ok q hq;rcases Jq.1 hv with rfl|hv
  ·have h1:(i3 0 v vu q).1.knw v=true/\(i3 0 v vu q).1.get v=vu:=by
    show(setF 0 q.1 v vu).1.knw v=true/\(setF 0 q.1 v vu).1.get v=vu
    unfold setF
    have c:aeR vu (q.1.get v)=vu:=by
     have:=(hq.get v).2;exact Rg.ext' (by show min 0 _=0;omega) (by show max 65535 _=65535;omega)
    by_cases h1:q.1.knw v=true
    ·rw[if_pos h1]
     split
     ·rename_i h2
      have:=afP h2;exact⟨h1,by rw[<-this];exact c⟩
     ·rw[c];exact afK hq (h v (.head _)) _
    ·rw[if_neg h1];exact afK hq (h v (.head _)) _
   have h2:=(af6 (n:=n) (ps:=ps) fun x hx=>h x (.tail _ hx)).kn _ hk v h1.1;exact⟨h2.1,h2.2 h1.2⟩
  ·exact ags ps _ hk (fun x hx=>h x (.tail _ hx)) v hv
theorem ail {n:Nat}{ps:List Int}(h:∀v∈ps,v.toNat<n):∀v∈ps,(aeM n ps).knw v=true/\(aeM n ps).get v=vu:=ags ps _ (afJ n) h
theorem fill_len {n:Nat}{s:Slv}(h:OkS n s):(afa s).length=n:=by
 unfold afa;rw[Nr,List.length_zip,h.rl,h.kl,Nat.min_self]
theorem aco (E:IEnv)(call:ae1)(o:IOp)(os:List IOp)(v:Int->Nat)(m:Mach):iq E call (o::os) v m=if m.fuel<=0 then .trap 7 0 m else match oV E call o v m.pay with|.ok r m'=>iq E call os (setV v o.res r) m'|.trap k i m'=> .trap k i m':=rfl
theorem callR_sc (E:IEnv)(r:Nat)(f:Int)(args:List Nat)(m:Mach):xW E (r+1) f args m=if(E.p.funcs.getD f.toNat []).isEmpty then .trap 8 (f%65536).toNat m else tJ E (xW E r) (E.p.funcs.getD f.toNat []) (m.fuel.toNat+1) 0 args (fun _=>0) m:=rfl
theorem abD (E:IEnv)(call:ae1):∀(l l':List IOp) (v:Int->Nat) (m:Mach),iq E call (l++l') v m=match iq E call l v m with|.ok v' m'=>iq E call l' v' m'|.trap k i m'=> .trap k i m'
 | [],l',v,m=>rfl
 |o::os,l',v,m=>by
  rw[List.cons_append,aco,aco]
  by_cases h:m.fuel<=0
  ·rw[if_pos h,if_pos h]
  ·rw[if_neg h,if_neg h]
   cases oV E call o v m.pay with
   |ok x m1=>exact abD E call os l' _ m1
   |trap k i m1=>rfl
end Go.Proofs.YtoahcpkibpomcaaGreat
