/- Part of a proof. -/
import Derived.Test.YtojclalkfhoooaaGVmGv2
set_option linter.all false
namespace Go.Proofs.Ytojclalkfhoooaa
def KnS (f:List IBlk)(v:Int)(i:Nat)(k:Int):Prop:=∃(b:Nat) (a:Int),fB f v b a/\Dom (GE (zy f)) b i/\(b=i->a<k)
structure FnOk (p:IProg) (f:List IBlk):Prop where
 ne:f≠ []
 ops:∀b∈f,∀o∈b.ops,opF p o=true
 term:∀b∈f,wn f b.term=true
 nd:(aaI f).Nodup
 rng:∀v∈aaI f,0<=v/\v<=65535
 reach:∀i,i<f.length->Reach (GE (zy f)) i
 use:∀(i:Nat) (b:IBlk),f[i]? =some b->∀(j:Nat) (o:IOp),b.ops[j]? =some o->∀v∈rR o,KnS f v i j
 tuse:∀(i:Nat) (b:IBlk),f[i]? =some b->∀v∈mE b.term,KnS f v i b.ops.length
theorem ack.fn {p:IProg}{f:List IBlk}{next:Nat}{pl:List Nat}(h:ack p f next pl)(g:next<=65536):FnOk p f:=by
 have hk:∀ {v:Int} {i:Nat} {k:Int},Kn f pl v i k->KnS f v i k:=fun⟨b,a,h1,h2,h3⟩=>⟨b,a,h1,h.dom h2,h3⟩
 have d:=h;obtain⟨cur,vals,c⟩:=d;exact⟨h.ne,h.ops,h.term,c.nd,fun v hv=>by have:=c.rng v hv;omega,fun i hi=>h.reach hi,fun i b hb j o ho v hv=>hk ((c.ops i b hb j o ho).2 v hv),fun i b hb v hv=>hk ((c.term i b hb (fun e=>e)).2.2 v hv)⟩
section
variable {p:IProg} {f:List IBlk} (h:FnOk p f)
include h
theorem FnOk.valid:zw (zy f):=nO h.ne h.term
theorem FnOk.shapes:∃d,wg p f=some d/\∀v i k,fB f v i k->d.1 v=some (i:Int)/\d.2 v=some k:=by
 have c:DOk ((fun _=>none,fun _=>none):wO) [] (fun _ _ _=>False):=⟨fun v=>by simp,fun v i k e=>e.elim⟩
 obtain⟨d,h1,h2⟩:=DOk.blks (p:=p) (blocks:=f) f 0 _ _ _ c (by rw[Op];exact h.nd) h.rng (fun b hb=>⟨h.ops b hb,h.term b hb⟩);exact⟨d,h1,fun v i k hd=>h2.val v i k (.inr ⟨i,by rw[Ng],hd⟩)⟩
theorem FnOk.known {d:wO}(g:∀v i k,fB f v i k->d.1 v=some (i:Int)/\d.2 v=some k){v:Int}{i:Nat}{k:Int}(hi:i<f.length)(hk:KnS f v i k):yy d (zy f) i k v=true:=by
 obtain⟨b,a,h1,h2,h3⟩:=hk;obtain⟨e1,e2⟩:=g v b a h1;have hb:b<f.length:=by obtain⟨x,c,_⟩:=h1;exact(Jh.1 c).1
 unfold yy;rw[e1,e2];simp only[Jm,Bool.not_eq_true',Ni];refine⟨?_,(yO h.valid b i).2 ⟨h.reach b hb,h.reach i hi,h2⟩⟩;rw[Bool.and_eq_false_iff]
 by_cases e:b=i
 ·right;have:=h3 e;simp;omega
 ·left;simp;omega
theorem FnOk.rest {d:wO}(c:∀v i k,fB f v i k->d.1 v=some (i:Int)/\d.2 v=some k):iM f d=true:=by
 unfold iM;rw[Jm,decide_eq_true_eq];refine⟨?_,?_⟩
 ·rw[acd h.valid (fun i hi=>h.reach i (by rw[xu] at hi;exact hi)),xu]
 ·refine fR f 0 (fun q b hb=>?_);rw[Ng];have hq:=(Jh.1 hb).1;unfold aaC;rw[Jm];refine⟨gM b.ops 0 (fun j o ho=>?_),?_⟩
  ·rw[Oe];intro v hv;rw[Ng];exact h.known c hq (h.use q b hb j o ho v hv)
  ·rw[Oe];intro v hv;exact h.known c hq (h.tuse q b hb v hv)
theorem FnOk.function {n:Nat}(hf:p.funcs[n]? =some f){b0:IBlk}(c:f[0]? =some b0)(g:(b0.params.length:Int)=p.args.getD n 0):yi p n=true:=by
 obtain⟨d,h1,h2⟩:=h.shapes;have h3:=h.rest h2;unfold yi;rw[Jj,hf,Ot]
 match f,h1,h3,c with
 | [],_,_,c=>simp at c
 |b::bs,h1,h3,c=>
  cases c;simp only[Jm,decide_eq_true_eq];refine⟨g,?_⟩;rw[h1];exact h3
theorem FnOk.more {p':IProg}(hp:∀o,opF p o=true->opF p' o=true):FnOk p' f:=
 ⟨h.ne,fun b hb o ho=>hp o (h.ops b hb o ho),h.term,h.nd,h.rng,h.reach,h.use,h.tuse⟩
end
theorem acF (s:List Int){k:Nat}{f:List IBlk}(hk:(uR s).funcs[k]? =some f):f=[]∨(FnOk (uR s) f/\(∃b0,f[0]? =some b0/\(b0.params.length:Int)=(uR s).args.getD k 0)/\∀v∈aaI f,v<=15000):=by
 have c:=(Jh.1 hk).1;rw[qA] at c;rcases kz s c with⟨h,_⟩|h
 ·rw[hk] at h;cases h;exact .inl rfl
 ·rw[hk] at h;cases h;obtain⟨pl,h1,b0,h2,h3⟩:=gJ (gi s k) (zg s k).2;have d:=lz s k c;refine .inr ⟨h1.fn (by unfold MS.sz at d;omega),⟨b0,h2,?_⟩,fun v hv=>by obtain⟨_,_,g⟩:=h1;have:=g.rng v hv;unfold MS.sz at d;omega⟩;rw[h3]
  show(((yS s (mdN s)).getD k 0).toNat:Int)=(yS s (mdN s)).getD k 0
  have:=gP s k;omega
end Go.Proofs.Ytojclalkfhoooaa
