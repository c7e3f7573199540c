/- Part of a proof. -/
import Derived.Test.YtojclalkfhoooaaGCal1
import Derived.Test.YtojclalkfhoooaaGMath
import Derived.Test.YtojclalkfhoooaaGOwn5
import Derived.Test.YtojclalkfhoooaaVf
set_option linter.all false
set_option maxHeartbeats 4000000
set_option maxRecDepth 100000
namespace Go.Proofs.Ytojclalkfhoooaa
variable {i k o5 p1 q8:Nat}{o:IOp}{l:List Int}{M:MS}{c:MS->MS}{r:Row}{lv u:Value}{W1 w w9 wx:World}{rs:List Row}{t:PT}{bc pc:List Value}
theorem acz{a:List Nat}{j:Nat}(h:j<k):(abs a k)[j]? =some (adP j (a.getD j 0)):=by
 unfold abs;rw[Jr,Oh h];rfl
theorem con_op (p:IProg)(k x:Nat):opF p (adP k x)=true:=by
 have h:zi (adP k x).code=⟨true,true,false,false,true⟩:=rfl;unfold opF;rw[h];simp[adP]
theorem ac4 (k:Nat):(abA k).Nodup:=by
 unfold abA;rw[List.nodup_iff_pairwise_ne,List.pairwise_map];exact(List.nodup_iff_pairwise_ne.1 (List.nodup_range (n:=k))).imp fun h e=>h Zo
theorem acN (a:List Nat):∀k,abo (abs a k)=abA k
 |0=>rfl
 |k+1=>by
  rw[acc,abZ,fK,acN a k]
  show _++abo [adP k (a.getD k 0)]=_
  rw[gY (show(0:Int)<=(k:Int) by omega)];rfl
theorem acs (f:Int)(a:List Nat):aaI [aaR f a]=abA (a.length+1):=by
 show([]++abo (abl f a))++ []=_
 unfold abl;rw[Ua,Op,fK,acN,gY (show(0:Int)<=(a.length:Int) by omega),abZ];rfl
theorem wrap_op {p:IProg}{f:Int}{a:List Nat}(g:0<=f)(i:f<(p.funcs.length:Int))(d:(a.length:Int)=p.args.getD f.toNat 0)(h:p.args.length=p.funcs.length):opF (aaH p f a) ⟨26,(a.length:Int),f,0,0,abA a.length⟩=true:=by
 have h1:(aaH p f a).args.getD f.toNat 0=p.args.getD f.toNat 0:=by
  show(p.args++ [0]).getD f.toNat 0=_
  rw[Jj,Jj,Np Zo]
 have h2:(aaH p f a).funcs.length=p.funcs.length+1:=by show(p.funcs++ [_]).length=_;rw[Jk];rfl
 have c:(zi 26).is=true:=rfl;unfold opF;rw[if_pos rfl];simp only[h1,acj,h2,c,Bool.true_and,Jm,decide_eq_true_eq];exact⟨⟨⟨⟨⟨g,by omega⟩,d⟩,by omega⟩,trivial⟩,trivial⟩
theorem adt {p:IProg}(f:Int)(a:List Nat)(g:p.args.length=p.funcs.length)(o:IOp)(h:opF p o=true):opF (aaH p f a) o=true:=by
 unfold opF at h ⊢;rw[Jm] at h ⊢;refine⟨h.1,?_⟩;have h2:=h.2;have d:(aaH p f a).funcs.length=p.funcs.length+1:=by show(p.funcs++ [_]).length=_;rw[Jk];rfl
 by_cases c:o.code=26
 ·rw[if_pos c] at h2 ⊢;simp only[Jm,decide_eq_true_eq] at h2 ⊢
  have e:(aaH p f a).args.getD o.a.toNat 0=p.args.getD o.a.toNat 0:=by
   show(p.args++ [0]).getD o.a.toNat 0=_
   rw[Jj,Jj,Np Zo]
  rw[e,d];exact⟨⟨⟨⟨⟨h2.1.1.1.1.1,by omega⟩,h2.1.1.1.2⟩,h2.1.1.2⟩,h2.1.2⟩,h2.2⟩
 ·rw[if_neg c] at h2 ⊢;exact h2
theorem wrap_fn {p:IProg}{f:Int}{a:List Nat}(u:0<=f)(r:f<(p.funcs.length:Int))(t:(a.length:Int)=p.args.getD f.toNat 0)(m:p.args.length=p.funcs.length)(w:a.length<=8):FnOk (aaH p f a) [aaR f a]:=by
 have g:∀j:Nat,j<=a.length->fB [aaR f a] (j:Int) 0 (j:Int):=fun j k=>by
  rcases Nat.lt_or_ge j a.length with h|h
  ·exact⟨_,rfl,.inr ⟨j,_,rfl,by show(abs a a.length++_)[j]? =_;rw[Np (by rw[aa6];exact h),acz h],rfl,by omega⟩⟩
  ·obtain rfl:j=a.length:=by omega
   exact⟨_,rfl,.inr ⟨a.length,_,rfl,by show(abs a a.length++ [_])[a.length]? =_;rw[Nc (by rw[aa6];exact Je _),aa6,Qy];rfl,rfl,by omega⟩⟩
 have l:(abl f a).length=a.length+1:=by unfold abl;rw[Jk,aa6];rfl
 refine⟨by simp,fun b hb o ho=>?_,fun b hb=>?_,by rw[acs];exact ac4 _,fun v hv=>?_,fun i hi=>?_,fun i b hb j o ho v hv=>?_,fun i b hb v hv=>?_⟩
 ·rw[Jo] at hb;subst hb;rcases Jl.1 (show o∈abs a a.length++ [_] from ho) with ho|ho
  ·unfold abs at ho;obtain⟨j,_,rfl⟩:=Nu.1 ho;exact con_op _ _ _
  ·rw[Jo] at ho;subst ho;exact wrap_op u r t m
 ·rw[Jo] at hb;subst hb;rfl
 ·rw[acs] at hv;unfold abA at hv;obtain⟨j,k,rfl⟩:=Nu.1 hv;rw[Ol] at k;omega
 ·have:i=0:=by simp at hi;exact hi
  subst this;exact .refl trivial
 ·obtain⟨hi,e⟩:=Jh.1 hb;have:i=0:=by simp at hi;exact hi
  subst this;cases e;have c:(abs a a.length++ [_])[j]? =some o:=ho;rcases Nat.lt_or_ge j a.length with h|h
  ·rw[Np (by rw[aa6];exact h),acz h] at c;cases c;cases hv
  ·rw[Nc (by rw[aa6];exact h),aa6] at c
   have k:j=a.length:=by
    have:=(Jh.1 c).1;simp at this;omega
   subst k;rw[Qy] at c;cases c;have d:v∈abA a.length:=hv;unfold abA at d;obtain⟨q,hq,rfl⟩:=Nu.1 d;rw[Ol] at hq;exact⟨0,(q:Int),g q Zo,rF _ _,fun _=>by omega⟩
 ·obtain⟨hi,e⟩:=Jh.1 hb;have:i=0:=by simp at hi;exact hi
  subst this;cases e
  have h1:mE (aaR f a).term=[(a.length:Int)]:=by
   show(if ut ⟨4,(a.length:Int),[]⟩ then [(a.length:Int)] else [])++ []=_
   rw[if_pos]
   ·rfl
   ·unfold ut;have:decide ((a.length:Int)≠-1)=true:=decide_eq_true Zo;rw[this];rfl
  have d:v∈mE (aaR f a).term:=hv;rw[h1,Jo] at d;subst d;exact⟨0,_,g a.length (Je _),rF _ _,fun _=>by show(a.length:Int)<((abl f a).length:Int);rw[l];omega⟩
theorem adF {p:IProg}(f:Int)(a:List Nat)(h:sR p=0)(m:p.funcs.length<2000):sR (aaH p f a)=0:=by
 obtain⟨⟨_,h1,h2⟩,h3,l,k,j,i⟩:=se h;have hl:(aaH p f a).funcs.length=p.funcs.length+1:=by show(p.funcs++ [_]).length=_;rw[Jk];rfl
 have d:(aaH p f a).args.length=p.funcs.length+1:=by show(p.args++ [_]).length=_;rw[Jk,h3];rfl
 have hs:∀g,yw p g=true->yw (aaH p f a) g=true:=fun g hg=>by
  unfold yw at hg ⊢;simp only[Jm,decide_eq_true_eq,beq_iff_eq] at hg ⊢
  have e:(aaH p f a).args.getD g.toNat 0=p.args.getD g.toNat 0:=by
   show(p.args++ [0]).getD g.toNat 0=_
   rw[Jj,Jj,Np Zo]
  rw[hl,e];exact⟨hg.1,by omega,hg.2.2⟩
 unfold sR;rw[if_neg (by rw[hl];show ¬(2000<p.funcs.length+1∨512<p.data.length∨64<p.banks.length);omega),if_neg (by rw[hl,d];simp),if_neg,if_neg,if_neg]
 ·show ¬wB p=false
  rw[i];simp
 ·rintro(e|⟨e1,e2⟩)
  ·have e':yw (aaH p f a) p.entry=false:=e;rw[hs _ k] at e';cases e'
  ·have c:yw (aaH p f a) p.handler=false:=e2;rw[hs _ (j e1)] at c;cases c
 ·have:(aaH p f a).args.all tX=true:=by
   show(p.args++ [0]).all tX=true
   rw[List.all_append,l];rfl
  rw[this];simp
theorem made_wrap_valid (s:List Int){f:Int}{a:List Nat}(u:0<=f)(r:f<((uR s).funcs.length:Int))(o:(a.length:Int)=(uR s).args.getD f.toNat 0):vC (aaH (uR s) f a)=0:=by
 have hv:=(rz (fm s)).1;have w:=sm s;have c:=(se hv).2.1
 have t:a.length<=8:=by
  have:=gP s f.toNat;have e:(uR s).args.getD f.toNat 0=(yS s (mdN s)).getD f.toNat 0:=rfl;rw[e] at o;omega
 have g:(aaH (uR s) f a).funcs.length=(uR s).funcs.length+1:=by show((uR s).funcs++ [_]).length=_;rw[Jk];rfl
 unfold vC;rw[adF f a hv (by rw[qA];omega),if_neg Zs,if_pos];rw[Oe];intro k hk;rw[Ol,g] at hk;rcases Nat.lt_or_ge k (uR s).funcs.length with h|h
 ·have hg:(aaH (uR s) f a).funcs[k]? =(uR s).funcs[k]?:=by
   show((uR s).funcs++ [_])[k]? =_
   rw[Np h]
  have j:(aaH (uR s) f a).args.getD k 0=(uR s).args.getD k 0:=by
   show((uR s).args++ [0]).getD k 0=_
   rw[Jj,Jj,Np (by rw[c];exact h)]
  have d:(uR s).funcs[k]? =some (uR s).funcs[k]:=Jd h;rcases acF s d with e|⟨l,⟨b0,m,i⟩,_⟩
  ·unfold yi;rw[Jj,hg,d,e];rfl
  ·exact(l.more (adt f a c)).function (hg.trans d) m (by rw[j];exact i)
 ·obtain rfl:k=(uR s).funcs.length:=by omega
  refine(wrap_fn u r o c t).function (b0:=aaR f a) ?_ rfl ?_
  ·show((uR s).funcs++ [_])[(uR s).funcs.length]? =_
   rw[Nc (Je _),Qy];rfl
  ·show((0:Nat):Int)=((uR s).args++ [0]).getD (uR s).funcs.length 0
   rw[<-c,Jj,Nc (Je _),Qy];rfl
theorem tk_lt (E:ME)(M:MS){n:Nat}(c:0<n):tkV E M n<n:=by
 unfold tkV;have h1:=Int.emod_lt_of_pos (E.s.getD M.pos 0) (show(0:Int)<(n:Int) by omega);omega
def LtO (E:ME)(o:IOp):Prop:=o.code=26->(E.me:Int)<o.a/\o.a<(E.nf:Int)
def LtM (E:ME)(M:MS):Prop:=∀b∈M.f,∀o∈b.ops,LtO E o
theorem abH{E:ME}(h:o.code≠26):LtO E o:=fun e=>absurd e h
theorem lt_at{E:ME}{l:List IBlk}{g:IBlk->IBlk}(h:∀b∈l,∀o∈b.ops,LtO E o)(hg:∀b∈l,∀o∈(g b).ops,LtO E o):∀b∈wD l i g,∀o∈b.ops,LtO E o:=by
 unfold wD
 split
 ·rename_i x c
  intro b hb;rcases Qe hb with hb|hb
  ·exact h b hb
  ·subst hb;exact hg x (Ji c)
 ·exact h
theorem lt_tick{E:ME}(h:LtM E M):LtM E M.tick:=h
theorem aaM{E:ME}(h:LtM E M)(ho:LtO E o):LtM E (M.emit o):=
 lt_at h fun b hb x c=>by
  rcases Jl.1 c with c|c
  ·exact h b hb x c
  ·rw[Jo] at c;subst c;exact ho
theorem aci{E:ME}(h:LtM E M)(n:Nat):LtM E (M.num n):=aaM h (abH (by show(1:Int)≠26;decide))
theorem abL{E:ME}(h:LtM E M)(t:ITerm):LtM E (M.endB t):=lt_at h fun b hb=>h b hb
theorem aby{E:ME}(h:LtM E M)(n:Nat):LtM E (M.block n):=fun b hb=>by
 rcases Jl.1 hb with hb|hb
 ·exact h b hb
 ·rw[Jo] at hb;subst hb;intro o ho;simp[wJ] at ho
theorem abn(E:ME)(h:LtM E M):LtM E (zJ E M).2:=by
 unfold zJ
 split
 ·exact aci (lt_tick h) _
 ·split
  ·exact h
  ·exact h
theorem adr(E:ME)(h:LtM E M):LtM E (yJ E M).2:=by
 unfold yJ
 split
 ·exact abn E h
 ·exact aaM (M:=M.tick.tick.tick) h (abH (by show(2:Int)≠26;decide))
theorem adh (E:ME):∀(n:Nat) {M:MS},LtM E M->LtM E (yI E n M).2
 |0,M,h=>h
 |n+1,M,h=>abn E (adh E n h)
theorem lt_call(E:ME)(h:LtM E M):LtM E (vN E M):=by
 unfold vN
 split
 ·exact h
 ·simp only
  split
  ·exact h
  ·refine aaM (adh E _ (M:=M.tick) h) fun _=>?_
   have:tkV E M (E.nf-E.me-1)<E.nf-E.me-1:=tk_lt E M Zo
   show(E.me:Int)<((E.me+1+tkV E M (E.nf-E.me-1):Nat):Int)/\((E.me+1+tkV E M (E.nf-E.me-1):Nat):Int)<(E.nf:Int)
   omega
theorem lt_arith(E:ME)(h:LtM E M):LtM E (yR E M):=by
 unfold yR;simp only;have h2:=abn E (abn E h)
 split
 ·split
  ·exact aaM (aaM (aci (M:=(zJ E (zJ E M).2).2.tick.tick) h2 1) (abH (by show(10:Int)≠26;decide))) (abH (by show(8:Int)≠26;decide))
  ·exact aaM (M:=(zJ E (zJ E M).2).2.tick.tick) h2 (abH (by show(8:Int)≠26;decide))
 ·have:=tk_lt E (zJ E (zJ E M).2).2 (n:=13) Zd;exact aaM (M:=(zJ E (zJ E M).2).2.tick) h2 (abH (by show((5+tkV E (zJ E (zJ E M).2).2 13:Nat):Int)≠26;omega))
theorem lt_op(E:ME)(h:LtM E M):LtM E (xK E M):=by
 unfold xK;simp only;have c:LtM E M.tick:=h;have t2:=fun M=>tk_lt E M (n:=2) Zd
 split
 ·exact aci (M:=M.tick.tick) h _
 split
 ·exact aaM (abn E (M:=M.tick.tick) h) (abH (by have:=t2 M.tick;show(3+(tkV E M.tick 2:Int))≠26;omega))
 split
 ·exact aaM (M:=(yJ E M.tick).2.tick) (adr E c) (abH (by have:=t2 (yJ E M.tick).2;show(18+(tkV E (yJ E M.tick).2 2:Int))≠26;omega))
 split
 ·exact aaM (M:=(zJ E (yJ E M.tick).2).2.tick) (abn E (adr E c)) (abH (by have:=t2 (zJ E (yJ E M.tick).2).2;show(20+(tkV E (zJ E (yJ E M.tick).2).2 2:Int))≠26;omega))
 split
 ·exact aaM (M:=M.tick.tick) h (abH (by show(24:Int)≠26;decide))
 split
 ·exact aaM (M:=(zJ E M.tick).2.tick) (abn E c) (abH (by show(25:Int)≠26;decide))
 split
 ·exact aaM (M:=(M.tick.tick.num (tkV E M.tick 4096)).tick) (aci (M:=M.tick.tick) h _) (abH (by have:=t2 (M.tick.tick.num (tkV E M.tick 4096));show(22+(tkV E (M.tick.tick.num (tkV E M.tick 4096)) 2:Int))≠26;omega))
 split
 ·exact lt_call E c
 split
 ·split
  ·exact aaM (M:=M.tick.tick) h (abH (by show(27:Int)≠26;decide))
  ·exact h
 ·exact lt_arith E c
theorem lt_ops (E:ME):∀(n:Nat) {M:MS},LtM E M->LtM E (qY E n M)
 |0,M,h=>h
 |n+1,M,h=>lt_ops E n (lt_op E h)
theorem lt_run(E:ME)(h:LtM E M):LtM E (tR E M):=lt_ops E _ (M:=M.tick) h
theorem acv {E:ME}:∀(n:Nat) {M:MS},LtM E M->LtM E (xE n M)
 |0,M,h=>h
 |n+1,M,h=>aby (acv n h) _
theorem adw(E:ME)(hp:∀M,LtM E M->LtM E (c M))(tg:Nat)(d keep:Nat):∀(n k:Nat) {M:MS},LtM E M->LtM E (uV E c tg d keep n k M)
 |0,_,M,h=>h
 |n+1,k,M,h=>by
  unfold uV;simp only;refine adw E hp tg d keep n (k+1) ?_;have h1:LtM E (c {M with cur:=tg+k }).tick:=hp _ h;have h2:=abn E h1
  show LtM E _
  split
  ·exact abL (M:=(zJ E (c {M with cur:=tg+k }).tick).2) h2 _
  ·exact abL (M:=(zJ E (c {M with cur:=tg+k }).tick).2) h2 _
theorem acy(E:ME)(hp:∀M,LtM E M->LtM E (c M))(n:Nat)(h:LtM E M):LtM E (xi E c n M):=by
 unfold xi;simp only;exact adw E hp _ _ _ n 0 (abL (aby (acv n (abn E h)) 1) ⟨if 2<n then 3 else 2,(zJ E M).1,xk (zJ E M).2.f.length n⟩)
theorem lt_loop(E:ME)(hp:∀M,LtM E M->LtM E (c M))(h:LtM E M):LtM E (tH E c M):=by
 unfold tH;simp only;have h1:=abn E (aci (M:=M.tick) h (tkV E M 5));have h2:=abL (aby (aby (aby h1 2) 0) 0) ⟨1,0,[⟨((zJ E (M.tick.num (tkV E M 5))).2.f.length:Nat),[(M.next:Int),(zJ E (M.tick.num (tkV E M 5))).1]⟩]⟩;refine abL (abn E (aaM (aci (hp _ ?_) _) (abH (by show(6:Int)≠26;decide)))) _;refine abL ?_ _;exact h2
theorem ab4 (E:ME):∀(d:Nat) (M:MS),LtM E M->LtM E (zp E d M)
 |0,M,h=>lt_run E h
 |d+1,M,h=>by
  have h1:=lt_run E h
  show LtM E (if(tR E M).left<1 then _ else _)
  split
  ·exact h1
  ·split
   ·exact acy E (ab4 E d) _ (M:=(tR E M).tick) h1
   split
   ·exact lt_loop E (ab4 E d) (M:=(tR E M).tick) h1
   split
   ·exact acy E (ab4 E d) _ (M:=(tR E M).tick.tick) h1
   ·exact h1
theorem lt_func (E:ME)(pos:Nat):LtM E (xR E pos):=by
 have c:LtM E (xD E pos):=aby (M:= {(⟨pos,[],0,0,[],6⟩:MS).tick with next:=tkV E ⟨pos,[],0,0,[],6⟩ 3*10 }) (fun b hb=>by cases hb) _;have h1:=ab4 E 1 _ (ab4 E 2 _ c);unfold xR;simp only
 split
 ·exact abL (M:=(zp E 1 (zp E 2 (xD E pos))).tick) h1 _
 split
 ·exact abL (M:=(zp E 1 (zp E 2 (xD E pos))).tick) h1 _
 ·exact abL (abn E (M:=(zp E 1 (zp E 2 (xD E pos))).tick) h1) _
theorem made_later (s:List Int):Later (uR s) (uR s).funcs.length:=by
 rw[qA];refine⟨fun i blocks hi b hb o ho hc=>?_,?_⟩
 ·have c:=(Jh.1 hi).1;rw[qA] at c;rcases kz s c with⟨h,_⟩|h
  ·rw[hi] at h;cases h;cases hb
  ·rw[hi] at h;cases h;exact lt_func (xC s i) _ b hb o ho hc
 ·show vw s=-1∨vw s=_
  have:=sm s;unfold vw
  split
  ·right;have:1<=mdN s:=by unfold mdN;omega
   omega
  ·exact .inl rfl
open Go.RowKit
structure WrMid (w:World) (p1 o5 q8:Nat) (ty:TypeId) (pc bc:List Value) (RS:List Row) (wx:World):Prop where
 hr:wx.heap[p1+1]? =some (.cells #[.slice none 0 0,.slice none 0 0,.int .i64 0,.int .i64 0,.slice none 0 0,.slice none 0 0] 29 (0,0))
 ho:wx.heap[o5]? =some (.cells pc.toArray 29 (0,0))
 hb:wx.heap[q8]? =some (.cells bc.toArray ty (0,0))
 bel:Below p1 w wx
 base:p1=w.heap.size
 rows:Rows wx (p1+1+1) RS
 far:o5 ∉ RS.filterMap Row.blk/\q8 ∉ RS.filterMap Row.blk
 ge:p1+1<o5/\o5<q8
section
variable {w:World} {p1 o5 q8:Nat} {ty:TypeId} {pc bc:List Value} {RS:List Row} {wx:World} (h:WrMid w p1 o5 q8 ty pc bc RS wx)
include h
theorem WrMid.lt:p1+1<o5/\o5<q8/\q8<wx.heap.size:=⟨h.ge.1,h.ge.2,lt_of_block h.hb⟩
theorem WrMid.perm {RS':List Row}(hp:RS.Perm RS'):WrMid w p1 o5 q8 ty pc bc RS' wx:=
 ⟨h.hr,h.ho,h.hb,h.bel,h.base,h.rows.perm hp,⟨fun e=>h.far.1 ((hp.filterMap Row.blk).mem_iff.2 e),fun e=>h.far.2 ((hp.filterMap Row.blk).mem_iff.2 e)⟩,h.ge⟩
theorem WrMid.below {w':World}(hb:F wx w'):WrMid w p1 o5 q8 ty pc bc RS w':=
 ⟨zH hb h.hr (lt_of_block h.hr),zH hb h.ho (lt_of_block h.ho),zH hb h.hb (lt_of_block h.hb),h.bel.trans (hb.mono (by have:=h.lt;omega)),h.base,h.rows.below hb,h.far,h.ge⟩
theorem WrMid.cons(hr:wx.ownsRow (p1+1+1) r.e r.sz r.v r.n r.cs)(hk:r.blk=some k)(c:k ∉ RS.filterMap Row.blk)(h1:k≠o5)(h2:k≠q8):WrMid w p1 o5 q8 ty pc bc (r::RS) wx:=by
 refine⟨h.hr,h.ho,h.hb,h.bel,h.base,h.rows.cons hr (fun g e=>by rw[hk] at e;cases e;exact c),?_,h.ge⟩;rw[List.filterMap_cons,hk];simp only[Jq,not_or];exact⟨⟨fun e=>h1 e.symm,h.far.1⟩,fun e=>h2 e.symm,h.far.2⟩
theorem WrMid.nil(hr:wx.ownsRow (p1+1+1) r.e r.sz r.v r.n r.cs)(hk:r.blk=none):WrMid w p1 o5 q8 ty pc bc (r::RS) wx:=by
 refine⟨h.hr,h.ho,h.hb,h.bel,h.base,h.rows.cons hr (fun g e=>by rw[hk] at e;cases e),?_,h.ge⟩;rw[List.filterMap_cons,hk];exact h.far
theorem WrMid.setO:WrMid w p1 o5 q8 ty (pc.set i u) bc RS (wx.setCell ⟨o5,i,none⟩ u):=by
 have hg:=h.ge;refine⟨zR h.hr (by show p1+1≠o5;omega),by rw[zD h.ho];simp,zR h.hb (by show q8≠o5;omega),h.bel.setCell (by show p1<=o5;omega) _,h.base,?_,h.far,h.ge⟩;exact h.rows.keep fun k hk=>Below.heap_setCell _ _ _ _ (fun e=>h.far.1 (by have e':k=o5:=e;rw[<-e'];exact hk))
theorem WrMid.setB:WrMid w p1 o5 q8 ty pc (bc.set i u) RS (wx.setCell ⟨q8,i,none⟩ u):=by
 have hg:=h.ge;refine⟨zR h.hr (by show p1+1≠q8;omega),zR h.ho (by show o5≠q8;omega),by rw[zD h.hb];simp,h.bel.setCell (by show p1<=q8;omega) _,h.base,?_,h.far,h.ge⟩;exact h.rows.keep fun k hk=>Below.heap_setCell _ _ _ _ (fun e=>h.far.2 (by have e':k=q8:=e;rw[<-e'];exact hk))
theorem WrMid.grow{w1:World}{r':Row}(hp:RS.Perm (r::rs))(c:F wx w1)(hg:w1.grownBy w9 r.blk)
 (l:w9.ownsRow (p1+1+1) r'.e r'.sz r'.v r'.n r'.cs) (j:∀k,r'.blk=some k->r.blk=some k∨wx.heap.size<=k):WrMid w p1 o5 q8 ty pc bc (r'::rs) w9:=by
 have hl:=h.lt;have h1:=h.perm hp;have g:∀k,r.blk=some k->k∈(r::rs).filterMap Row.blk:=fun k e=>Nj.2 ⟨r,.head _,e⟩
 have keep:∀k,k<wx.heap.size->(k<p1+1+1∨k=o5∨k=q8)->w9.heap[k]? =wx.heap[k]?:=fun k hk hq=>(hg.block k (Jy hk c.size) (fun e=>by
  have m:=g k e.symm;rcases hq with hq|rfl|rfl
  ·have:=(h1.rows.lt m).1;omega
  ·exact h1.far.1 m
  ·exact h1.far.2 m)).trans (c.block k hk)
 have o:∀k,k∈rs.filterMap Row.blk->k∈(r::rs).filterMap Row.blk:=fun k hk=>by
  obtain⟨x,d,e⟩:=Nj.1 hk;exact Nj.2 ⟨x,.tail _ d,e⟩
 refine⟨(keep _ (lt_of_block h.hr) (.inl Zo)).trans h.hr,(keep _ (lt_of_block h.ho) (.inr (.inl rfl))).trans h.ho,(keep _ (lt_of_block h.hb) (.inr (.inr rfl))).trans h.hb,?_,h.base,h1.rows.grow c hg l j,?_,h.ge⟩
 ·exact h.bel.trans ⟨hg.os.trans c.os,hg.tape.trans c.tape,hg.output.trans c.output,Jn c.size hg.size,fun k hk=>keep k Zo (.inl Zo)⟩
 ·have i:∀b,b<wx.heap.size->b ∉ (r::rs).filterMap Row.blk->b ∉ (r'::rs).filterMap Row.blk:=fun b hb hn he=>by
   obtain⟨x,d,e⟩:=Nj.1 he;rcases Jq.1 d with rfl|d
   ·rcases j b e with e2|e2
    ·exact hn (g b e2)
    ·omega
   ·exact hn (o b (Nj.2 ⟨x,d,e⟩))
  exact⟨i _ Zo h1.far.1,i _ Zo h1.far.2⟩
end
theorem WrMid.start{w2:World}{o:Obj}{bc:Array Value}{ty:TypeId}(g:w.heap.size=p1)(h:w2.heap.size=o5)
 (hr:Rows w2 ((w.alloc o).alloc (U #[O,O,A 0,A 0,O,O] 29)).heap.size t.rows)
 (hb:F ((w.alloc o).alloc (U #[O,O,A 0,A 0,O,O] 29)) w2):
 WrMid w p1 o5 (o5+1) ty (zW t) bc.toList t.rows ((w2.alloc (U (zW t).toArray 29)).alloc (U bc ty)):=by
 subst g h;have hs:((w.alloc o).alloc (U #[O,O,A 0,A 0,O,O] 29)).heap.size=w.heap.size+1+1:=by simp
 have h1:=zI (W:=w.alloc o) (o:=U #[O,O,A 0,A 0,O,O] 29) (B:=w.heap.size+1) Zs;have h3:F w ((w.alloc o).alloc (U #[O,O,A 0,A 0,O,O] 29)):=((Below.refl _ _).alloc (Je _) _).alloc Zs _;have d:=hb.size;rw[hs] at hr hb d;have c:∀k,k∈t.rows.filterMap Row.blk->k<w2.heap.size:=fun k hk=>(hr.lt hk).2
 refine⟨zB (zB (zH hb h1 Zo)),zB (zI rfl),by rw[Array.toArray_toList];exact zI Zs,?_,rfl,?_,⟨fun e=>by have:=c _ e;omega,fun e=>by have:=c _ e;omega⟩,by omega,by omega⟩
 ·exact((h3.trans (hb.mono Zo)).alloc Zo _).alloc Zt _
 ·exact(hr.below ((Below.refl _ _).alloc (Je _) _)).below ((Below.refl _ _).alloc (Je _) _)
def PtRet (w:World)(p:IProg)(e:Ending)(w':World):Prop:=∃t:PT,e=.returned (yH t.V t.prog)/\t.prog=p/\Rows w' w.heap.size t.rows/\F w w'
theorem WrMid.ret{ty:TypeId}{RS:List Row}(h:WrMid w p1 o5 q8 ty pc bc RS wx)(i:∃RX,RS.Perm (t.rows++RX))(j:pc=zW t){v0 v1 v2 v3 v4 v5:Value}(g:(zW t).toArray=#[v0,v1,v2,v3,v4,v5]){p:IProg}(hp:t.prog=p):
 PtRet w p (.returned (.agg #[v0,v1,v2,v3,v4,v5])) ((((((wx.setCell ⟨p1+1,0,none⟩ v0).setCell ⟨p1+1,1,none⟩ v1).setCell ⟨p1+1,2,none⟩ v2).setCell ⟨p1+1,3,none⟩ v3).setCell ⟨p1+1,4,none⟩ v4).setCell ⟨p1+1,5,none⟩ v5):=by
 have e:zW t=[v0,v1,v2,v3,v4,v5]:=congrArg Array.toList g;unfold zW at e;simp only[List.cons.injEq,and_true] at e;obtain⟨rfl,rfl,rfl,rfl,rfl,rfl⟩:=e;obtain⟨RX,d⟩:=i;refine⟨t,rfl,hp,?_,?_⟩
 ·have hb:=h.base;refine((h.rows.perm d).left.base (show w.heap.size<=p1+1+1 by omega)).keep fun k hk=>?_
  have c:k≠p1+1:=fun e=>by have:=((h.rows.perm d).left.lt hk).1;omega
  exact(Below.heap_setCell _ _ _ _ c).trans ((Below.heap_setCell _ _ _ _ c).trans ((Below.heap_setCell _ _ _ _ c).trans ((Below.heap_setCell _ _ _ _ c).trans ((Below.heap_setCell _ _ _ _ c).trans (Below.heap_setCell _ _ _ _ c)))))
 ·have hb:=h.bel;rw[h.base] at hb ⊢;exact(((((hb.setCell (by show w.heap.size<=w.heap.size+1;omega) _).setCell (by show w.heap.size<=w.heap.size+1;omega) _).setCell (by show w.heap.size<=w.heap.size+1;omega) _).setCell (by show w.heap.size<=w.heap.size+1;omega) _).setCell (by show w.heap.size<=w.heap.size+1;omega) _).setCell (by show w.heap.size<=w.heap.size+1;omega) _
def conC (a:List Nat)(j:Nat):IOp×Value:=(adP j (a.getD j 0),O)
def aa4 (a:List Nat)(k:Nat):List (IOp×Value):=(List.range k).map (conC a)
theorem ac5 (a:List Nat)(k:Nat):aa4 a (k+1)=aa4 a k++ [conC a k]:=by unfold aa4;rw[List.range_succ,Js];rfl
theorem abN (a:List Nat)(k:Nat):(aa4 a k).length=k:=by unfold aa4;rw[Nr,Un]
theorem adJ (a:List Nat)(k:Nat):(aa4 a k).map (·.1)=abs a k:=by unfold aa4 abs;rw[List.map_map];rfl
def adU (ov:Value)(kd ta:Int):List Value:=[O,ov,A kd,A ta,O]
theorem acM{ty:TypeId}{RS:List Row}(h:Hid (WrMid w p1 o5 q8 ty pc bc (r::zP lv l::RS) wx)):wx.ownsRow (p1+1+1) 3 1 lv l.length (l.map zN):=h.out.rows.own (zP lv l) (.tail _ (.head _))
theorem wr_op{ov d:Value}{kd ta:Int}{RS:List Row}(h:WrMid w p1 o5 q8 49 pc (adU ov kd ta) RS wx){l:List (IOp×Value)}(hp:RS.Perm (yo ov l::rs))(hk:l.length=k)(hb:F wx W1)(hg:W1.grownBy w9 ov.ownBlock)(c:IOp×Value){cs:List Value}(m:zU c=cs)
 (g:w9.ownsRow (p1+1+1) 77 6 d (k+1) (l.flatMap zU++cs)) (j:d.ownBlock=ov.ownBlock∨d.ownBlock=some W1.heap.size):
 WrMid w p1 o5 q8 49 pc (adU d kd ta) (yo d (l++ [c])::rs) (w9.setCell ⟨q8,1,none⟩ d):=by
 refine(h.grow (r':=yo d (l++ [c])) hp hb hg ?_ fun x e=>?_).setB (i:=1) (u:=d)
 ·show w9.ownsRow _ _ _ _ (l++ [c]).length ((l++ [c]).flatMap zU)
  rw[Jk,hk,Nx]
  show w9.ownsRow _ _ _ _ (k+1) (l.flatMap zU++(zU c++ []))
  rw[Ua,m];exact g
 ·rcases j with e2|e2
  ·exact .inl (e2.symm.trans e)
  ·right;have e3:some W1.heap.size=some x:=e2.symm.trans e;cases e3;exact hb.size
theorem wr_int{ty:TypeId}{c:Value}{RS:List Row}(h:WrMid w p1 o5 q8 ty pc bc RS wx)(hp:RS.Perm (zP lv l::rs))(hk:l.length=k)(hb:F wx W1)(hg:W1.grownBy w9 lv.ownBlock)(x:Int)
 (d:w9.ownsRow (p1+1+1) 3 1 c (k+1) (l.map zN++ [A x])) (g:c.ownBlock=lv.ownBlock∨c.ownBlock=some W1.heap.size):
 WrMid w p1 o5 q8 ty pc bc (zP c (l++ [x])::rs) w9:=by
 refine h.grow (r':=zP c (l++ [x])) hp hb hg ?_ fun y e=>?_
 ·show w9.ownsRow _ _ _ _ (l++ [x]).length ((l++ [x]).map zN)
  rw[Jk,hk,Js];exact d
 ·rcases g with e2|e2
  ·exact .inl (e2.symm.trans e)
  ·right;have e3:some W1.heap.size=some y:=e2.symm.trans e;cases e3;exact hb.size
theorem WrMid.nils{ty:TypeId}{RS:List Row}(h:WrMid w p1 o5 q8 ty pc bc RS wx):∀(l:List Row),(∀r∈l,r.v=O/\r.n=0/\r.cs=[])->WrMid w p1 o5 q8 ty pc bc (l++RS) wx
 | [],_=>h
 |r::l,hl=>by
  obtain⟨e1,e2,e3⟩:=hl r (.head _);refine WrMid.nil (h.nils l fun x hx=>hl x (.tail _ hx)) ?_ ?_
  ·rw[e1,e2,e3];exact Jv _ _ _ _
  ·unfold Row.blk;rw[e1];rfl
def acl (f:Int)(a:List Nat)(ov lv:Value):BT:=⟨[],O,aa4 a a.length++ [(⟨26,(a.length:Int),f,0,0,abA a.length⟩,lv)],ov,4,(a.length:Int),[],O⟩
def wrPt (t:PT)(f:Int)(a:List Nat)(ov lv gv fv av:Value):PT:= {t with funcs:=t.funcs++ [⟨[acl f a ov lv],gv⟩],fv:=fv,args:=t.args++ [0],av:=av }
theorem adm{p:IProg}(c:t.prog=p)(f:Int)(a:List Nat)(ov lv gv fv av:Value):(wrPt t f a ov lv gv fv av).prog=aaH p f a:=by
 subst c;unfold wrPt PT.prog aaH;simp only[Js,Ql,List.map_nil];unfold FT.fn BT.blk acl aaR abl;simp only[Ql,List.map_nil,Js,adJ]
theorem adI (t:PT)(f:Int)(a:List Nat)(ov lv gv fv av:Value):
 (((zP (O) []::xg (O) []::(aa4 a a.length).map fun o=>zP o.2 o.1.args)++(zP av (t.args++ [0])::wY fv (t.funcs++ [⟨[acl f a ov lv],gv⟩])::zd gv [acl f a ov lv]::yo ov (acl f a ov lv).ops::zP lv (abA a.length)::vK t.dv t.data::v8 t.bv t.banks::t.funcs.flatMap FT.rows))).Perm ((wrPt t f a ov lv gv fv av).rows++ []):=by
 classical
 unfold PT.rows wrPt;simp only[Nx,Qa,List.flatMap_nil,Ua];unfold FT.rows;simp only[Qa,List.flatMap_nil,Ua];unfold BT.rows wI ve;have e:(acl f a ov lv).ops.map (fun o=>zP o.2 o.1.args)=((aa4 a a.length).map fun o=>zP o.2 o.1.args)++ [zP lv (abA a.length)]:=by unfold acl;simp only[Js,Ql,List.map_nil]
 rw[e];refine Jp.2 fun y=>?_
 simp only[Nb,Nf,List.count_nil];have e1:∀x:List Int,zP (acl f a ov lv).pv (acl f a ov lv).params=zP (O) []:=fun _=>rfl
 rw[e1 []];have e2:xg (acl f a ov lv).tv (acl f a ov lv).tos=xg (O) []:=rfl;have e3:(acl f a ov lv).tos=[]:=rfl;have e4:(acl f a ov lv).ov=ov:=rfl;rw[e2,e3,e4];simp only[List.map_nil,List.count_nil];omega
theorem wrapped_any{V:PV}{p:IProg}(hp:ProgIn w w.heap.size V p)(hs:SmallP p){f:Int}(hf:I64 f){av:Value}{a:List Nat}(ha:wV w w.heap.size av a)(l6:a.length<=1000):
 Y 31 #[yH V p,A f,av] w (PtRet w (aaH p f a)):=by
 obtain⟨fa,fc,h0,l0,k9⟩:=hp.funcs.form;obtain⟨aa,ac,h9,l7,l5⟩:=hp.args.form;obtain⟨da,dc,h4,l2,l1⟩:=hp.data.form;obtain⟨ba,bc,h6,h7,l3⟩:=hp.banks.form;obtain⟨xa,xc,rfl,m4,m3⟩:=ha.form;obtain⟨p1,g0⟩:∃p1,w.heap.size=p1:=⟨_,rfl⟩
 have g2:∀W,F w W->Y 36 #[.agg (R p fa fc aa ac da dc ba bc)] W _:=fun W hb=>by
  have h:=uJ ((hp.below hb).mono hb.size) hs;unfold yH at h;rw[h0,h9,h4,h6] at h;exact h
 unfold yH;rw[h0,h9,h4,h6];have i5:F w ((w.alloc (U (R p fa fc aa ac da dc ba bc) 29)).alloc (U #[O,O,A 0,A 0,O,O] 29)):=((Below.refl _ _).alloc (Je _) _).alloc Zs _;have m5:=hs.fn.1;have m2:=hs.ar;have k6:=Ja g2;have m0:=Ja i5;have HP:=Ja (Jb ha (Jb hf l6));clear g2 i5 hp hs h0 h9 h4 h6 l0 k9 l7 l5 l2 l1 h7 l3 ha hf;go_enter Try.func31,Try.ntmps31;go_upto_region 2 with(go_at_call 36;go_must (refine(k6.out _ m0.out).mono ?_;rintro e w2 ⟨t,d4,fc2,aa2,ac2,e6,e5,ba2,bc2,rfl,hV,ht,hr,hb⟩;have HT:=Ja (Jb hV (Jb ht (Jb hr hb)));clear hV ht hr hb))
 have a4:t.entry=p.entry/\t.handler=p.handler:=by rw[<-HT.out.2.1];exact⟨rfl,rfl⟩
 have f9:(zW t).toArray=R p d4 fc2 aa2 ac2 e6 e5 ba2 bc2:=by
  unfold zW;rw[HT.out.1.1,HT.out.1.2.1,HT.out.1.2.2.1,HT.out.1.2.2.2,a4.1,a4.2]
 obtain⟨o5,f4⟩:∃o5,w2.heap.size=o5:=⟨_,rfl⟩
 have hm:WrMid w p1 o5 (o5+1) 49 (zW t) (adU (O) 0 0) t.rows ((w2.alloc (U (zW t).toArray 29)).alloc (U #[O,O,A 0,A 0,O] 49)):=WrMid.start g0 f4 HT.out.2.2.1 HT.out.2.2.2;rw[f9] at hm;go_upto_region 4 with fail
 try simp only[World.heap_size_alloc,f4]
 generalize l8:(w2.alloc (U (R p d4 fc2 aa2 ac2 e6 e5 ba2 bc2) 29)).alloc (U #[O,O,A 0,A 0,O] 49)=W3 at *;generalize k7:o5+1=q8 at *;rw[f4];clear l8 f4 k7 a4 f9;have HM:=Ja hm;have HA:=Ja (HP.out.1.below zr (by rw[g0];exact hm.bel));clear hm;go_wp2
 go_loopw [9,10] (fun lv kv wx=>∃(k:Nat) (la:Option Addr) (lc:Nat) (oa:Option Addr) (oc:Nat),k<=a.length/\lv=.slice la k lc/\kv=A k/\Hid (WrMid w p1 o5 q8 49 (zW t) (adU (.slice oa k oc) 0 0) (zP (.slice la k lc) (abA k)::yo (.slice oa k oc) (aa4 a k)::t.rows) wx)) (fun _ kv _=>a.length-(intOf kv).toNat)
 case atStart=>exact⟨0,none,0,none,0,Jt _,rfl,rfl,Ja ((HM.out.nil (r:=yo (O) (aa4 a 0)) (Jv _ _ _ _) rfl).nil (r:=zP (O) (abA 0)) (Jv _ _ _ _) rfl)⟩
 case round=>
  obtain⟨k,la,lc,oa,oc,hk,rfl,rfl,HK⟩:=hrel
  by_cases g6:k<a.length
  ·have k4:(k:Int)<(a.length:Int):=Zo;have i6:wV wr wr.heap.size (.slice xa a.length xc) a:=(HP.out.1.below zr (by rw[g0];exact HK.out.bel)).mono zr (by have:=HK.out.lt;omega);obtain⟨x,hx⟩:∃x,a[k]? =some x:=⟨_,Jd g6⟩
   obtain⟨bb,bo,l4,m7,h7,h5⟩:=i6.get hx;subst l4;have i7:G wr q8 1 (.slice oa k oc):=zA (i:=1) HK.out.hb rfl;have n1:T wr q8 1:=zE HK.out.hb;have j0:=lt_of_block HK.out.hb;rw[Nk] at h7;have m6:=h5;have i4:(a.getD k 0)=x:=by rw[Jj,hx];rfl
   obtain⟨ii,d1,b5,a7,a6⟩:=info_parts Try.info_irop;have g:=HK.out.rows.own (yo (.slice oa k oc) (aa4 a k)) (.tail _ (.head _));unfold yo at g;simp only[abN] at g;have c8:=Ja g;have f5:(Value.slice oa k oc).ownBlock≠some q8:=fun e=>HK.out.far.2 (Nj.2 ⟨yo (.slice oa k oc) (aa4 a k),.tail _ (.head _),e⟩)
   have f2:=HK.out.lt;obtain⟨ij,g9,f1,f0,e9⟩:=info_parts Try.info_int;have HX:=Ja (Jb hx (Jb h5 i4));clear i6 hx h5 i4 g;go_upto_region 7 with fail
   go_region_law (refine yG (by rfl) (.tmp 20) (.tmp 27) _ (by rfl) (p1+1+1) 77 ii (.agg #[A 0,A 0,A 0,A 0,I 0,O]) 6 64 Try.underlying44 d1 b5 a7 a6 rfl Zd (.slice oa k oc) k ((aa4 a k).flatMap zU) (by rfl) (by first|exact c8.out.alloc _|exact(c8.out.alloc _).drew|exact c8.out.drew.alloc _) (N wr.heap.size 1 1) 1 [A 1,A k,A 0,A 0,I x,O] (by rfl) (yM.cells (zI rfl) rfl (by simp[Value.oneCell'])) (by unfold maxLen;omega) Zo Zt ?_;intro aa9 k5 w9 a5 l d3;have b6:=zL l (by first|exact zB HK.out.hb|exact zB (W:=wr.drew) HK.out.hb) f5;have i2:T w9 q8 1:=zE b6;have i1:=lt_of_block b6;have i3:G w9 q8 1 (.slice oa k oc):=zA (i:=1) b6 rfl;have d5:=Ja (wr_op HK.out (List.Perm.swap _ _ _) (abN a k) (by repeat' (first|exact Below.refl _ _|refine Below.drew ?_|refine Below.alloc ?_ Zs _)) l (conC a k) (by unfold zU conC adP;simp only[HX.out.2.2]) a5 d3);have f3:=acM d5;rw[acj] at f3;have k3:=d5.out.lt;clear a5 l d3 b6)
   all_goals go_wp2_with (at_builtin;go_must (refine zK _ rfl (.tmp 30) (.tmp 32) 22 rfl (p1+1+1) 3 ij (A 0) 1 8 Try.underlying22 g9 f1 f0 e9 rfl Zd (.slice la k lc) k ((abA k).map zN) rfl (f3.alloc _) (N w9.heap.size 1 1) 1 [A k] rfl (yM.one (zI Zs) rfl) (by unfold maxLen;omega) Zo (by simp at k3 ⊢;omega) ?_;intro v10 w10 a2 a3 c9))
   all_goals obtain⟨k2,k1,rfl⟩:=zG a2
   all_goals (
    refine⟨⟨k+1,k2,k1,aa9,k5,g6,rfl,by go_num,Ja ?_⟩,by simp[intOf];omega⟩;rw[abZ,ac5]
    exact wr_int d5.out (List.Perm.swap _ _ _) (acj k) ((Below.refl _ _).alloc (Je _) _) a3 (k:Int) a2 c9)
  ·obtain rfl:k=a.length:=by omega
   have k4:¬(a.length:Int)<(a.length:Int):=Zo;clear g6;have i7:G wr q8 1 (.slice oa a.length oc):=zA (i:=1) HK.out.hb rfl;have cf:∀i,T wr q8 i:=fun i=>zE HK.out.hb
   have j0:=lt_of_block HK.out.hb;have f2:=HK.out.lt;obtain⟨ii,d1,b5,a7,a6⟩:=info_parts Try.info_irop;obtain⟨ij,g9,f1,f0,e9⟩:=info_parts Try.info_int;have g:=HK.out.rows.own (yo (.slice oa a.length oc) (aa4 a a.length)) (.tail _ (.head _));unfold yo at g;simp only[abN] at g;have c8:=Ja g;clear g;have f5:(Value.slice oa a.length oc).ownBlock≠some q8:=fun e=>HK.out.far.2 (Nj.2 ⟨yo (.slice oa a.length oc) (aa4 a a.length),.tail _ (.head _),e⟩)
   go_upto_region 10 with(at_builtin;go_must (refine zK _ rfl (.tmp 35) (.tmp 41) 44 rfl (p1+1+1) 77 ii (.agg #[A 0,A 0,A 0,A 0,I 0,O]) 6 64 Try.underlying44 d1 b5 a7 a6 rfl Zd (.slice oa a.length oc) a.length ((aa4 a a.length).flatMap zU) rfl (c8.out.alloc _) (N wr.heap.size 1 1) 1 [A 26,A (a.length:Int),A f,A 0,I 0,.slice la a.length lc] rfl (yM.cells (zI rfl) rfl (by simp[Value.oneCell'])) (by unfold maxLen;omega) Zo Zt ?_;intro v9 w9 a5 l d3;obtain⟨oa9,oc9,rfl⟩:=zG a5;have b6:=zL l (zB HK.out.hb) f5;have i2:T w9 q8 1:=zE b6;have i1:=lt_of_block b6;have i3:G w9 q8 1 (.slice oa a.length oc):=zA (i:=1) b6 rfl;have d5:=Ja (wr_op HK.out (List.Perm.swap _ _ _) (abN a a.length) ((Below.refl _ _).alloc (Je _) _) l (⟨26,(a.length:Int),f,0,0,abA a.length⟩,.slice la a.length lc) rfl a5 d3);clear a5 l d3 b6))
   generalize w9.setCell ⟨q8,1,none⟩ (.slice oa9 (a.length+1) oc9)=W9 at *;clear HK c8 i2 i1 i3 i7 cf j0 f2 f5 ii d1 b5 a7 a6;have a1:=d5.out.hb;have b2:G W9 q8 2 (A 0):=zA (i:=2) a1 rfl;have b3:G W9 q8 3 (A 0):=zA (i:=3) a1 rfl;have b4:G W9 q8 4 (O):=zA (i:=4) a1 rfl;have bf:∀i,T W9 q8 i:=fun i=>zE a1
   have bl:=lt_of_block a1;clear a1;have e7:=Ja (show WrMid w p1 o5 q8 49 (zW t) (adU (.slice oa9 (a.length+1) oc9) 4 (a.length:Int)) _ (((W9.setCell ⟨q8,2,none⟩ (A 4)).setCell ⟨q8,3,none⟩ (A (a.length:Int))).setCell ⟨q8,4,none⟩ (O)) from((d5.out.setB (i:=2) (u:=A 4)).setB (i:=3) (u:=A (a.length:Int))).setB (i:=4) (u:=O));go_upto_region 11 with fail;clear b2 b3 b4 bf bl;generalize ((W9.setCell ⟨q8,2,none⟩ (A 4)).setCell ⟨q8,3,none⟩ (A (a.length:Int))).setCell ⟨q8,4,none⟩ (O)=WA at *;have a1:=e7.out.hb;have b0:G WA q8 0 (O):=zA (i:=0) a1 rfl;have b1:G WA q8 1 (.slice oa9 (a.length+1) oc9):=zA (i:=1) a1 rfl;have b2:G WA q8 2 (A 4):=zA (i:=2) a1 rfl;have b3:G WA q8 3 (A (a.length:Int)):=zA (i:=3) a1 rfl;have b4:G WA q8 4 (O):=zA (i:=4) a1 rfl;have bl:=lt_of_block a1;have d:=e7.out.ho;have d2:t.fv=.slice d4 p.funcs.length fc2:=HT.out.1.1;have h8:t.av=.slice aa2 p.args.length ac2:=HT.out.1.2.1;have c0:G WA o5 0 (.slice d4 p.funcs.length fc2):=by rw[<-d2];exact zA (i:=0) d rfl
   have cl:=lt_of_block d;have f8:t.funcs.length=p.funcs.length:=by rw[<-HT.out.2.1];unfold PT.prog;rw[Nr]
   have i0:t.args.length=p.args.length:=by rw[<-HT.out.2.1];rfl
   have f2:=e7.out.lt
   have f6:=e7.out.perm (RS':=wY t.fv t.funcs::yo (.slice oa9 (a.length+1) oc9) (aa4 a a.length++ [(⟨26,(a.length:Int),f,0,0,abA a.length⟩,.slice la a.length lc)])::zP (.slice la a.length lc) (abA a.length)::zP t.av t.args::vK t.dv t.data::v8 t.bv t.banks::t.funcs.flatMap FT.rows) (by
    classical
    unfold PT.rows;refine Jp.2 fun y=>?_
    simp only[Nf]
    omega)
   have b7:=f6.rows.own (wY t.fv t.funcs) (.head _);unfold wY at b7;simp only[f8] at b7;rw[d2] at b7;have g3:(Value.slice d4 p.funcs.length fc2).ownBlock≠some o5:=fun e=>f6.far.1 (Nj.2 ⟨wY t.fv t.funcs,.head _,by rw[<-d2] at e;exact e⟩)
   have c:=Ja (Jb f6 (Jb b7 (Jb g3 (Jb f8 (Jb i0 (Jb d2 h8))))));clear f6 b7 g3 f8 i0 d2 h8 a1 d d5 e7;obtain⟨ii,d1,b5,a7,a6⟩:=info_parts Try.info_irfunc;go_upto_region 12 with(at_builtin;go_must (refine zK _ rfl (.tmp 49) (.tmp 53) 25 rfl (p1+1+1) 43 ii (.agg #[O]) 1 24 Try.underlying25 d1 b5 a7 a6 rfl Zd (.slice d4 p.funcs.length fc2) p.funcs.length (t.funcs.map (·.bv)) rfl ((c.out.2.1.alloc _).alloc _) (N (WA.heap.size+1) 1 1) 1 [N WA.heap.size 1 1] rfl (yM.one (zI Zs) rfl) (by unfold maxLen;omega) Zo Zt ?_;intro v10 w10 a2 a3 c9;obtain⟨a0,m,rfl⟩:=zG a2;have d7:=zL a3 (zB (zB c.out.1.ho)) c.out.2.2.1;have j5:T w10 o5 0:=zE d7;have j4:=lt_of_block d7;have k0:G w10 o5 0 (.slice d4 p.funcs.length fc2):=(by rw[<-c.out.2.2.2.2.2.1];exact zA (i:=0) d7 rfl);have e4:=Ja (Jb a2 (Jb a3 c9));clear a2 a3 c9 d7))
   have e0:WrMid w p1 o5 q8 49 ((zW t).set 0 (.slice a0 (p.funcs.length+1) m)) (adU (.slice oa9 (a.length+1) oc9) 4 (a.length:Int)) (wY (.slice a0 (p.funcs.length+1) m) (t.funcs++ [⟨[acl f a (.slice oa9 (a.length+1) oc9) (.slice la a.length lc)],.slice (some ⟨WA.heap.size,0,none⟩) 1 1⟩])::zd (N WA.heap.size 1 1) [acl f a (.slice oa9 (a.length+1) oc9) (.slice la a.length lc)]::yo (.slice oa9 (a.length+1) oc9) (aa4 a a.length++ [(⟨26,(a.length:Int),f,0,0,abA a.length⟩,.slice la a.length lc)])::zP (.slice la a.length lc) (abA a.length)::zP t.av t.args::vK t.dv t.data::v8 t.bv t.banks::t.funcs.flatMap FT.rows) (w10.setCell ⟨o5,0,none⟩ (.slice a0 (p.funcs.length+1) m)):=by
    have h1:=c.out.1.below ((Below.refl _ _).alloc (Je _) (U #[O,.slice oa9 (a.length+1) oc9,A 4,A (a.length:Int),O] 49));have h2:=h1.cons (r:=zd (N WA.heap.size 1 1) [acl f a (.slice oa9 (a.length+1) oc9) (.slice la a.length lc)]) (k:=WA.heap.size) ⟨rfl,.inr ⟨WA.heap.size,1,_,rfl,by omega,zI rfl,Je _,by decide,rfl,rfl⟩⟩ rfl (fun e=>by have:=(c.out.1.rows.lt e).2;omega) Zo Zo;refine((h2.grow (r:=wY t.fv t.funcs) (r':=wY (.slice a0 (p.funcs.length+1) m) (t.funcs++ [⟨[acl f a (.slice oa9 (a.length+1) oc9) (.slice la a.length lc)],.slice (some ⟨WA.heap.size,0,none⟩) 1 1⟩])) (List.Perm.swap _ _ _) ((Below.refl _ _).alloc (Je _) (U #[N WA.heap.size 1 1] 43)) ?_ ?_ fun x e=>?_)).setO (i:=0) (u:=.slice a0 (p.funcs.length+1) m)
    ·show World.grownBy _ _ t.fv.ownBlock
     rw[c.out.2.2.2.2.2.1];exact e4.out.2.1
    ·show w10.ownsRow _ _ _ _ (t.funcs++ [_]).length ((t.funcs++ [_]).map _)
     rw[Jk,c.out.2.2.2.1,Js];exact e4.out.1
    ·rcases e4.out.2.2 with e2|e2
     ·left
      show t.fv.ownBlock=some x
      rw[c.out.2.2.2.2.2.1];exact e2.symm.trans e
     ·right;have e3:=e2.symm.trans e;simp at e3;simp;omega
   generalize w10.setCell ⟨o5,0,none⟩ (.slice a0 (p.funcs.length+1) m)=WB at *;generalize WA.heap.size=g1 at *;have d:=e0.ho;have c1:G WB o5 1 (.slice aa2 p.args.length ac2):=by rw[<-c.out.2.2.2.2.2.2];exact zA (i:=1) d rfl
   have n0:=lt_of_block d;have m1:=e0.lt
   have d9:=e0.perm (RS':=zP t.av t.args::wY (.slice a0 (p.funcs.length+1) m) (t.funcs++ [⟨[acl f a (.slice oa9 (a.length+1) oc9) (.slice la a.length lc)],.slice (some ⟨g1,0,none⟩) 1 1⟩])::zd (N g1 1 1) [acl f a (.slice oa9 (a.length+1) oc9) (.slice la a.length lc)]::yo (.slice oa9 (a.length+1) oc9) (aa4 a a.length++ [(⟨26,(a.length:Int),f,0,0,abA a.length⟩,.slice la a.length lc)])::zP (.slice la a.length lc) (abA a.length)::vK t.dv t.data::v8 t.bv t.banks::t.funcs.flatMap FT.rows) (by
    classical
    refine Jp.2 fun y=>?_
    simp only[Nf]
    omega)
   have b8:=d9.rows.own (zP t.av t.args) (.head _);unfold zP at b8;simp only[c.out.2.2.2.2.1] at b8;rw[c.out.2.2.2.2.2.2] at b8;have g4:(Value.slice aa2 p.args.length ac2).ownBlock≠some o5:=fun e=>d9.far.1 (Nj.2 ⟨zP t.av t.args,.head _,by rw[<-c.out.2.2.2.2.2.2] at e;exact e⟩)
   have e8:=Ja (Jb d9 (Jb b8 g4));clear e0 d9 b8 g4 d e4 j5 j4 k0 b0 b1 b2 b3 b4 bl c0 cl f2 ii d1 b5 a7 a6;go_upto_region 13 with(at_builtin;go_must (refine zK _ rfl (.tmp 57) (.tmp 58) 22 rfl (p1+1+1) 3 ij (A 0) 1 8 Try.underlying22 g9 f1 f0 e9 rfl Zd (.slice aa2 p.args.length ac2) p.args.length (t.args.map zN) rfl (e8.out.2.1.alloc _) (N WB.heap.size 1 1) 1 [A 0] rfl (yM.one (zI rfl) rfl) (by unfold maxLen;omega) Zo Zt ?_;intro v11 w11 d0 c7 f7;obtain⟨aa11,ac11,rfl⟩:=zG d0;have d6:=zL c7 (zB e8.out.1.ho) e8.out.2.2;have j2:T w11 o5 1:=zE d6;have j1:=lt_of_block d6;have j3:G w11 o5 1 (.slice aa2 p.args.length ac2):=(by rw[<-c.out.2.2.2.2.2.2];exact zA (i:=1) d6 rfl);have e1:=Ja (Jb d0 (Jb c7 f7));clear d0 c7 f7 d6))
   have d8:=(wr_int e8.out.1 (Uq _) c.out.2.2.2.2.1 ((Below.refl _ _).alloc (Je _) (U #[A 0] 3)) (by rw[c.out.2.2.2.2.2.2];exact e1.out.2.1) 0 e1.out.1 (by rw[c.out.2.2.2.2.2.2];exact e1.out.2.2)).setO (i:=1) (u:=.slice aa11 (p.args.length+1) ac11);generalize w11.setCell ⟨o5,1,none⟩ (.slice aa11 (p.args.length+1) ac11)=WC at *;have d:=d8.ho;have a4:t.entry=p.entry/\t.handler=p.handler:=by rw[<-HT.out.2.1];exact⟨rfl,rfl⟩
   have c0:G WC o5 0 (.slice a0 (p.funcs.length+1) m):=zA (i:=0) d rfl;have c1:G WC o5 1 (.slice aa11 (p.args.length+1) ac11):=zA (i:=1) d rfl;have c2:G WC o5 2 (A p.entry):=by rw[<-a4.1];exact zA (i:=2) d rfl
   have c3:G WC o5 3 (A p.handler):=by rw[<-a4.2];exact zA (i:=3) d rfl
   have c4:G WC o5 4 (.slice e6 p.data.length e5):=by rw[<-HT.out.1.2.2.1];exact zA (i:=4) d rfl
   have c5:G WC o5 5 (.slice ba2 p.banks.length bc2):=by rw[<-HT.out.1.2.2.2];exact zA (i:=5) d rfl
   have cl:=lt_of_block d;have b9:=d8.hr;have r0:G WC (p1+1) 0 (O):=zA (i:=0) b9 rfl;have r1:G WC (p1+1) 1 (O):=zA (i:=1) b9 rfl;have r2:G WC (p1+1) 2 (A 0):=zA (i:=2) b9 rfl;have r3:G WC (p1+1) 3 (A 0):=zA (i:=3) b9 rfl;have r4:G WC (p1+1) 4 (O):=zA (i:=4) b9 rfl;have r5:G WC (p1+1) 5 (O):=zA (i:=5) b9 rfl;have rf:∀i,T WC (p1+1) i:=fun i=>zE b9
   have rl:=lt_of_block b9
   have g5:=d8.nils (zP (O) []::xg (O) []::(aa4 a a.length).map fun o=>zP o.2 o.1.args) (fun r hr=>by
    rcases Jq.1 hr with rfl|hr
    ·exact⟨rfl,rfl,rfl⟩
    rcases Jq.1 hr with rfl|hr
    ·exact⟨rfl,rfl,rfl⟩
    obtain⟨q,hq,rfl⟩:=Nu.1 hr;unfold aa4 at hq;obtain⟨j,_,rfl⟩:=Nu.1 hq
    exact⟨rfl,rfl,rfl⟩)
   have l9:=Ja (g5.ret (t:=wrPt t f a (.slice oa9 (a.length+1) oc9) (.slice la a.length lc) (N g1 1 1) (.slice a0 (p.funcs.length+1) m) (.slice aa11 (p.args.length+1) ac11)) ⟨[],adI ..⟩ rfl (v0:=.slice a0 (p.funcs.length+1) m) (v1:=.slice aa11 (p.args.length+1) ac11) (v2:=A p.entry) (v3:=A p.handler) (v4:=.slice e6 p.data.length e5) (v5:=.slice ba2 p.banks.length bc2) (by
    rw[<-a4.1,<-a4.2,<-HT.out.1.2.2.1,<-HT.out.1.2.2.2]
    rfl) (adm HT.out.2.1 f a _ _ _ _ _))
   clear d8 g5 d b9 a4 c e8 e1 j2 j1 j3;go_wp2;refine bodyPost_ret (v:=.agg #[.slice a0 (p.funcs.length+1) m,.slice aa11 (p.args.length+1) ac11,A p.entry,A p.handler,.slice e6 p.data.length e5,.slice ba2 p.banks.length bc2]) ?_ rfl ?_
   ·rw[zM rfl];go_simp
   ·exact l9.out
end Go.Proofs.Ytojclalkfhoooaa
