/- Part of a proof. -/
import Derived.Test.YtoahcpkibpomcaaGHeld
set_option linter.all false
set_option maxHeartbeats 16000000
set_option maxRecDepth 100000
namespace Go.Proofs.Ytoahcpkibpomcaa
open Go.RowKit
variable {d:wO}{g:List (List Nat)}{i:Int}{o:IOp}{W:Int->Int->Int->Prop}{k:Nat}{bl c:List IBlk}{w w':World}{K:SK}{a0:Rg}
theorem dF:∀(os:List IOp) (k:Int),xF d g i os k=true↔∀(j:Nat) (o:IOp),os[j]? =some o->(rR o).all (yy d g i (k+j))=true
 | [],k=>by simp[xF]
 |o::os,k=>by
  show((rR o).all (yy d g i k) && xF d g i os (k+1))=true↔_
  rw[Jm,dF os (k+1)];constructor
  ·rintro⟨h1,h2⟩ j x hx
   cases j with
   |zero=>simp at hx;subst hx;simpa using h1
   |succ j=>
    have:=h2 j x (by simpa using hx);rw[show k+((j+1:Nat):Int)=k+1+(j:Int) by omega];exact this
  ·intro h;refine⟨by simpa using h 0 o rfl,fun j x hx=>?_⟩;have:=h (j+1) x (by simpa using hx);rw[show k+((j+1:Nat):Int)=k+1+(j:Int) by omega] at this;exact this
theorem cB:∀(bs:List IBlk) (i:Int),tO d g bs i=true↔∀(j:Nat) (b:IBlk),bs[j]? =some b->aaC d g b (i+j)=true
 | [],i=>by simp[tO]
 |b::bs,i=>by
  show(aaC d g b i && tO d g bs (i+1))=true↔_
  rw[Jm,cB bs (i+1)];constructor
  ·rintro⟨h1,h2⟩ j x hx
   cases j with
   |zero=>simp at hx;subst hx;simpa using h1
   |succ j=>
    have:=h2 j x (by simpa using hx);rw[show i+((j+1:Nat):Int)=i+1+(j:Int) by omega];exact this
  ·intro h;refine⟨by simpa using h 0 b rfl,fun j x hx=>?_⟩;have:=h (j+1) x (by simpa using hx);rw[show i+((j+1:Nat):Int)=i+1+(j:Int) by omega] at this;exact this
theorem aj(hv:zw g):(vD g).length=g.length↔∀x,x<g.length->wE g 0 x=true:=by
 constructor
 ·intro h x c;have hr:=jl hv h;have j:0<g.length:=Zo;exact(yO hv 0 x).2 ⟨hr 0 j,hr x c,dom_zero _ _⟩
 ·intro h;obtain⟨ns,d⟩:=adR hv;rw[d.eq];have i:=dW (l:=0::ns) (m:=List.range g.length) d.nodup (fun x c=>Ol.2 (d.lt x c));have f:=dW (l:=List.range g.length) (m:=0::ns) List.nodup_range (fun x c=>(d.mem x).2 ((yO hv 0 x).1 (h x (Ol.1 c))).2.1);rw[Un] at i f;omega
def cS (n:Nat)(o:IOp):Prop:=∀x∈rR o,0<=x/\x.toNat<n
theorem cS.a{n:Nat}(h:cS n o)(hs:(zi o.code).a=true):0<=o.a/\o.a.toNat<n:=h _ (by unfold rR;rw[hs];simp)
theorem cS.b{n:Nat}(h:cS n o)(hs:(zi o.code).b=true):0<=o.b/\o.b.toNat<n:=h _ (by unfold rR;rw[hs];simp)
theorem afS{d':wO}{v k:Int}(h:rB d v i k=some d')(g:∀x b a,d.1 x=some b->d.2 x=some a->W x b a)(hv:W v i k):∀x b a,d'.1 x=some b->d'.2 x=some a->W x b a:=by
 unfold rB at h
 split at h
 ·cases h
 ·cases h;intro x b a f c
  change lS d.1 v i x=some b at f
  change lS d.2 v k x=some a at c
  unfold lS at f c
  by_cases e:x=v
  ·rw[if_pos e] at f c;cases f;cases c;rw[e];exact hv
  ·rw[if_neg e] at f c;exact g x b a f c
theorem aeS:∀(l:List Int) (d d':wO),vJ i l d=some d'->(∀x b a,d.1 x=some b->d.2 x=some a->W x b a)->(∀v∈l,W v i (-1))->∀x b a,d'.1 x=some b->d'.2 x=some a->W x b a
 | [],d,d',h,hW,_=>by cases h;exact hW
 |v::l,d,d',h,hW,hl=>by
  unfold vJ at h
  cases h1:rB d v i (-1) with
  |none=>rw[h1] at h;cases h
  |some d1=>
   rw[h1,Nw] at h;exact aeS l d1 d' h (afS h1 hW (hl v (.head _))) fun u hu=>hl u (.tail _ hu)
theorem be{p:IProg}:∀(l:List IOp) (k:Int) (d d':wO),sS p i l k d=some d'->(∀x b a,d.1 x=some b->d.2 x=some a->W x b a)->(∀(j:Nat) o,l[j]? =some o->0<=o.res->W o.res i (k+j))->∀x b a,d'.1 x=some b->d'.2 x=some a->W x b a
 | [],k,d,d',h,hW,_=>by cases h;exact hW
 |o::l,k,d,d',h,hW,hl=>by
  unfold sS at h
  split at h
  ·split at h
   ·rename_i h0
    cases h1:rB d o.res i k with
    |none=>rw[h1] at h;cases h
    |some d1=>
     rw[h1,Nw] at h;refine be l (k+1) d1 d' h (afS h1 hW ?_) fun j x hx h2=>?_
     ·have:=hl 0 o rfl h0
      simpa using this
     ·have:=hl (j+1) x hx h2
      rwa [show k+((j+1:Nat):Int)=k+1+(j:Int) by omega] at this
   ·refine be l (k+1) d d' h hW fun j x hx h2=>?_
    have:=hl (j+1) x hx h2
    rwa [show k+((j+1:Nat):Int)=k+1+(j:Int) by omega] at this
  ·cases h
theorem aeF{p:IProg}:∀(l:List IBlk) (i:Int) (d d':wO),uH p bl l i d=some d'->(∀x b a,d.1 x=some b->d.2 x=some a->W x b a)->
 (∀(j:Nat) b,l[j]? =some b->(∀v∈b.params,W v (i+j) (-1))/\∀(k:Nat) o,b.ops[k]? =some o->0<=o.res->W o.res (i+j) k)->∀x b a,d'.1 x=some b->d'.2 x=some a->W x b a
 | [],i,d,d',h,hW,_=>by cases h;exact hW
 |b::l,i,d,d',h,hW,hl=>by
  unfold uH at h
  cases h1:pS p bl i b d with
  |none=>rw[h1] at h;cases h
  |some d1=>
   rw[h1,Nw] at h;have h0:=hl 0 b rfl;rw[show i+((0:Nat):Int)=i by omega] at h0;refine aeF l (i+1) d1 d' h ?_ fun j x hx=>?_
   ·unfold pS at h1
    cases f:vJ i b.params d with
    |none=>rw[f] at h1;cases h1
    |some d2=>
     rw[f,Nw] at h1
     cases c:sS p i b.ops 0 d2 with
     |none=>rw[c] at h1;cases h1
     |some d3=>
      rw[c,Nw] at h1
      split at h1
      ·cases h1
       exact be b.ops 0 d2 _ c (aeS b.params d d2 f hW h0.1) fun j o ho h4=>by
        rw[Ub];exact h0.2 j o ho h4
      ·cases h1
   ·have:=hl (j+1) x hx
    rwa [show i+((j+1:Nat):Int)=i+1+(j:Int) by omega] at this
def DefIn (b:IBlk)(v:Int):Prop:=v∈b.params∨∃o∈b.ops,o.res=v/\0<=v
def afT (bl:List IBlk)(i k:Nat)(v:Int):Prop:=
 ((xz bl i).params.contains v=true∨∃j o,j<k/\(xz bl i).ops[j]? =some o/\o.res=v/\0<=v)∨∃c:Nat,c≠i/\c<bl.length/\Dom (GE (zy bl)) c i/\DefIn (xz bl c) v
theorem z6{i:Nat}{b:IBlk}(h:bl[i]? =some b):xz bl (i:Int)=b:=by
 unfold xz;rw[Ni,Jj,h];rfl
structure StF (p:IProg) (bl:List IBlk):Prop where
 vg:zw (zy bl)
 all:∀i,i<bl.length->Reach (GE (zy bl)) i
 use:∀(i k:Nat) o,i<bl.length->(xz bl i).ops[k]? =some o->∀v∈rR o,afT bl i k v
 ends:∀i:Nat,i<bl.length->∀v∈mE (xz bl i).term,afT bl i (xz bl i).ops.length v
 opok:∀i:Nat,i<bl.length->∀o∈(xz bl i).ops,opF p o=true
 trm:∀i:Nat,i<bl.length->wn bl (xz bl i).term=true
theorem aeO{p:IProg}(hv:zw (zy bl))(hd:wg p bl=some d){i:Nat}(hi:i<bl.length){v:Int}(h:yy d (zy bl) i k v=true):afT bl i k v:=by
 have a0:=aeF (W:=fun v b a=>∃blk,bl[b.toNat]? =some blk/\0<=b/\((a=-1/\v∈blk.params)∨(0<=a/\∃o,blk.ops[a.toNat]? =some o/\o.res=v/\0<=v))) bl 0 _ d hd (fun x b a t _=>by cases t) fun j b hb=>by
  refine⟨fun u hu=>⟨b,?_,by omega,.inl ⟨rfl,hu⟩⟩,fun m o ho h0=>⟨b,?_,by omega,.inr ⟨by omega,o,?_,rfl,h0⟩⟩⟩
  ·rw[show(0+(j:Int)).toNat=j by omega];exact hb
  ·rw[show(0+(j:Int)).toNat=j by omega];exact hb
  ·rw[Ni];exact ho
 unfold yy at h
 split at h
 ·rename_i b a t h2
  simp only[Jm,Bool.not_eq_true',Bool.and_eq_false_iff,decide_eq_false_iff_not] at h;obtain⟨h3,h4⟩:=h;obtain⟨blk,hb,h0,c⟩:=a0 v b a t h2;have y:=(Jh.1 hb).1
  by_cases e:b=(i:Int)
  ·subst e;rw[Ni] at hb;have hk:a<(k:Int):=Zo;refine .inl ?_;rw[z6 hb];rcases c with⟨_,f⟩|⟨f,o,q,l,g⟩
   ·exact .inl (by simpa using f)
   ·exact .inr ⟨a.toNat,o,by omega,q,l,g⟩
  ·have w:=(yO hv b.toNat i).1 (by simpa using h4);refine .inr ⟨b.toNat,by omega,y,w.2.2,?_⟩;rw[z6 hb];rcases c with⟨_,f⟩|⟨f,o,q,l,g⟩
   ·exact .inl f
   ·exact .inr ⟨o,Ji q,l,g⟩
 ·cases h
theorem stF_of{p:IProg}{n:Nat}(hn:p.funcs[n]? =some bl)(y:bl≠ [])(h:yi p n=true):StF p bl:=by
 cases bl with
 |nil=>exact absurd rfl y
 |cons b0 bs=>
  obtain⟨_,d,m,hr⟩:=tF hn h;have f:=rV (b0::bs) 0 _ d (show uH p (b0::bs) (b0::bs) 0 _=some d from m);have hv:zw (zy (b0::bs)):=nO y fun b hb=>(f b hb).2
  unfold iM at hr;simp only[Jm,decide_eq_true_eq] at hr;obtain⟨u,t⟩:=hr;have q:=(aj hv).1 (by rw[u,xu])
  have c:∀i:Nat,i<(b0::bs).length->(b0::bs)[i]? =some (xz (b0::bs) i)/\xz (b0::bs) i∈(b0::bs):=fun i hi=>by
   obtain⟨x,l⟩:∃x,(b0::bs)[i]? =some x:=⟨_,Jd hi⟩
   rw[z6 l];exact⟨l,Ji l⟩
  have j:∀i:Nat,i<(b0::bs).length->aaC d (zy (b0::bs)) (xz (b0::bs) i) i=true:=fun i hi=>by
   have:=(cB (b0::bs) 0).1 t i _ (c i hi).1
   rwa [Ub] at this
  refine⟨hv,fun i hi=>?_,fun i k o hi ho v hvu=>?_,fun i hi v hve=>?_,fun i hi o ho=>?_,fun i hi=>(f _ (c i hi).2).2⟩
  ·exact((yO hv 0 i).1 (q i (by rw[xu];exact hi))).2.1
  ·have g:=j i hi;unfold aaC at g;rw[Jm] at g;have w:=(dF _ 0).1 g.1 k o ho;rw[Ub] at w;exact aeO hv m hi (Oe.1 w v hvu)
  ·have g:=j i hi;unfold aaC at g;rw[Jm] at g;exact aeO hv m hi (Oe.1 g.2 v hve)
  ·exact(f _ (c i hi).2).1 o ho
theorem mem_a(h:(zi o.code).a=true):o.a∈rR o:=by
 unfold rR;rw[if_pos h];simp
theorem mem_b(h:(zi o.code).b=true):o.b∈rR o:=by
 unfold rR;rw[if_pos h];simp
theorem acc_a(h:ky o=true):(zi o.code).a=true:=by
 unfold ky at h;simp only[Jm,decide_eq_true_eq] at h;have:o.code=18∨o.code=19∨o.code=20∨o.code=21:=Zo;rcases this with e|e|e|e<;>rw[e]<;>rfl
theorem ae7{p:IProg}{l:List IBlk}{s:Slv}(h:SlvAt w K p l k s)(av:Value)(g:I64 o.code)(m:o.n<65536)(i:o.code=2->0<=o.a/\o.a<p.data.length)
 (j:o.code≠1->o.code≠2->ruG o.code≠none->(0<=o.a/\o.a<K.n)/\0<=o.b/\o.b<K.n):
 A 54 #[G K.sb,aam o av] w (wb w (rk p s o)):=by
 by_cases d:o.code=1
 ·exact ce _ av d p s
 by_cases c:o.code=2
 ·exact ae5 h av c (i c) m
 cases hr:ruG o.code with
 |none=>exact abv h av d c g hr
 |some f=>
  obtain⟨q,hb⟩:=j d c (by rw[hr];exact fun e=>by cases e);exact bf h av d c g hr q hb
structure SlvTo (w w':World) (K:SK):Prop where
 os:w'.os=w.os
 tape:w'.tape=w.tape
 output:w'.output=w.output
 size:w.heap.size<=w'.heap.size
 block:∀i,i<w.heap.size->i≠K.rb->i≠K.kb->i≠K.sb->w'.heap[i]? =w.heap[i]?
theorem SlvTo.refl (w:World)(K:SK):SlvTo w w K:=⟨rfl,rfl,rfl,Je _,fun _ _ _ _ _=>rfl⟩
theorem SlvTo.trans{w1 w2:World}(h:SlvTo w w1 K)(d:SlvTo w1 w2 K):SlvTo w w2 K:=
 ⟨d.os.trans h.os,d.tape.trans h.tape,d.output.trans h.output,Jn h.size d.size,fun i hi a b c=>(d.block i (Jy hi h.size) a b c).trans (h.block i hi a b c)⟩
theorem SlvTo.of_below(h:Q w w'):SlvTo w w' K:=⟨h.os,h.tape,h.output,h.size,fun i hi _ _ _=>h.block i hi⟩
theorem SlvTo.below(h:SlvTo w w' K){B:Nat}(c:B<=K.rb/\B<=K.kb/\B<=K.sb/\B<=w.heap.size):Below B w w':=
 ⟨h.os,h.tape,h.output,h.size,fun i hi=>h.block i Zo Zo Zo Zo⟩
theorem aeT (l:List Rg)(v:Nat)(a:Rg)(h:v<l.length):(((l.flatMap xe).toArray.setIfInBounds (v*2) (M (a.lo:Int))).setIfInBounds (v*2+1) (M (a.hi:Int)))=((l.set v a).flatMap xe).toArray:=by
 simp only[Jc]
 congr 1
 induction l generalizing v with
 |nil=>simp at h
 |cons x l ih=>
  cases v with
  |zero=>rfl
  |succ v=>
   have:=ih v (by simpa using h);rw[show(v+1)*2=v*2+1+1 by omega];simp only[Qa,Jg];rw[<-this];rfl
theorem wk{p:IProg}{s:Slv}(h:SlvAt w K p c k s){v:Nat}(hv:v<K.n):O w K.kb v (.bool (s.knw v)):=by
 refine zA h.kn ?_;have hl:v<s.kn.length:=by rw[h.oks.kl];exact hv
 unfold Slv.knw;simp[Jj,Jd hl,hl]
theorem SlvAt.put{X:World}{p:IProg}{g:List IBlk}{s:Slv}(h:SlvAt X K p g k s){v:Nat}(hv:v<K.n){a:Rg}(q:a.ok){W:World}
 (d:((X.setCell ⟨K.kb,v,none⟩ (.bool true)).setCell ⟨K.rb,v*2,none⟩ (M (a.lo:Int))).setCell ⟨K.rb,v*2+1,none⟩ (M (a.hi:Int))=W):
 SlvAt W K p g k (s.put v a)/\SlvTo X W K:=by
 have l:=h.ne;have c:=h.lt;have m:=zD (i:=v) h.kn (.bool true)
 have o:W.heap[K.kb]? =(X.setCell ⟨K.kb,v,none⟩ (.bool true)).heap[K.kb]?:=by
  rw[<-d,Below.heap_setCell _ _ _ _ (by show K.kb≠K.rb;omega),Below.heap_setCell _ _ _ _ (by show K.kb≠K.rb;omega)]
 have j:T (X.setCell ⟨K.kb,v,none⟩ (.bool true)) K.rb (s.r.flatMap xe).toArray 48:=by
  rw[Below.heap_setCell _ _ _ _ (by show K.rb≠K.kb;omega)];exact h.row
 have f:=zD (i:=v*2+1) (zD (i:=v*2) j (M (a.lo:Int))) (M (a.hi:Int));rw[d] at f
 have hb:Below K.B X W:=by
  rw[<-d];exact(((Below.refl K.B X).setCell c.2.2.1 _).setCell c.2.1 _).setCell c.2.1 _
 have ho:∀i,i≠K.rb->i≠K.kb->W.heap[i]? =X.heap[i]?:=fun i h1 h2=>by
  rw[<-d,Below.heap_setCell _ _ _ _ h1,Below.heap_setCell _ _ _ _ h1,Below.heap_setCell _ _ _ _ h2]
 refine⟨⟨h.prog.below hb,h.blks.below yT hb,h.map.same (ho _ Zo Zo),(ho _ Zo Zo).trans h.cell,?_,?_,h.oks.put _ q,h.n64,c,l⟩,⟨hb.os,hb.tape,hb.output,hb.size,fun i _ h1 h2 _=>ho i h1 h2⟩⟩
 ·have:=aeT s.r v a (by rw[h.oks.rl];exact hv);rw[show(s.put (v:Int) a).r=s.r.set v a from rfl,<-this];exact f
 ·rw[o,m,show(s.put (v:Int) a).kn=s.kn.set v true from rfl];simp[Ox]
def re (w:World)(K:SK)(p:IProg)(bls:List IBlk)(k:Nat)(q:Slv×Bool)(e:Ending)(w':World):Prop:=e=.returned (.bool q.2)/\SlvAt w' K p bls k q.1/\SlvTo w w' K
theorem set_new{p:IProg}{j:List IBlk}{s:Slv}(h:SlvAt w K p j k s){v:Nat}(hv:v<K.n){a:Rg}(m:a.ok)(hk:¬4<k)(g:s.knw v=false):
 A 19 #[G K.sb,I v,.agg #[M (a.lo:Int),M (a.hi:Int)]] w (re w K p j k (s.put v a,true)):=by
 have f:=wk h hv;rw[g] at f;have y:¬(4:Int)<(k:Int):=Zo;have H:=Ja (Jb h m);have hn:=h.n64;have l1:=lt_of_block h.cell;have l2:=lt_of_block h.row;have l3:=lt_of_block h.kn;obtain⟨s4,s7,s8,s9,s10,s6⟩:=h.cells;have x:=h.ne;clear h m hk g s4 s7 s6;go_enter Try.func19,Try.ntmps19;go_upto_region 7 with(go_at_call 999999;skip)
 obtain⟨X,l⟩:∃X,w.alloc (U #[M (a.lo:Int),M (a.hi:Int)] 48)=X:=⟨_,rfl⟩
 have d:=Ja (show Q w X/\T X w.heap.size #[M (a.lo:Int),M (a.hi:Int)] 48/\w.heap.size<X.heap.size from by
  rw[<-l];exact⟨Below.alloc (Below.refl _ _) (Je _) _,zI rfl,by simp⟩)
 rw[l];clear l;clear f s8 s9 s10;have c:=Ja (H.out.1.below d.out.1);have q:=Ja (show ∀W:World,W.heap[K.sb]? =X.heap[K.sb]?->W.heap[w.heap.size]? =X.heap[w.heap.size]?->O W K.sb 8 (L K.rb K.n K.n)/\O W K.sb 9 (L K.kb K.n K.n)/\O W w.heap.size 0 (M (a.lo:Int))/\O W w.heap.size 1 (M (a.hi:Int)) from fun W h1 h2=>⟨zA (h1.trans c.out.cell) rfl,zA (h1.trans c.out.cell) rfl,zA (h2.trans d.out.2.1) rfl,zA (h2.trans d.out.2.1) rfl⟩);obtain⟨c0,c1,c2,c3⟩:=q.out X rfl rfl;have kx:=wk c.out hv;have kf:=zE (i:=v) c.out.kn;obtain⟨r0,r1⟩:=c.out.rcell (v:=(v:Int)) Zo;rw[Ni] at r0 r1;have u:=zE (i:=v*2) c.out.row;have t:=zE (i:=v*2+1) c.out.row;have m1:=lt_of_block c.out.cell;have m2:=lt_of_block c.out.row;have m3:=lt_of_block c.out.kn;have m4:=d.out.2.2;go_region_held3 (fun w'=>O w' K.sb 8 (L K.rb K.n K.n)/\O w' K.sb 9 (L K.kb K.n K.n)/\O w' w.heap.size 0 (M (a.lo:Int))/\O w' w.heap.size 1 (M (a.hi:Int))) ((refine q.out _ ?_ ?_<;>(repeat' (first|(rw[Below.heap_setCell _ _ _ _ (by first|(show K.sb≠K.kb;omega)|(show K.sb≠K.rb;omega)|(show w.heap.size≠K.kb;omega)|(show w.heap.size≠K.rb;omega))])|(rw[show ∀v:World,v.drew.heap=v.heap from fun _=>rfl])|exact rfl)))) (fail)
 all_goals go_wp2
 all_goals (
  obtain⟨W,o⟩:∃W,((X.setCell ⟨K.kb,v,none⟩ (.bool true)).setCell ⟨K.rb,v*2,none⟩ (M (a.lo:Int))).setCell ⟨K.rb,v*2+1,none⟩ (M (a.hi:Int))=W:=⟨_,rfl⟩
  rw[o];obtain⟨j1,j2⟩:=c.out.put hv H.out.2 o;go_ret
  exact⟨rfl,j1.below (Below.refl _ _).drew,((SlvTo.of_below d.out.1).trans j2).trans (SlvTo.of_below (Below.refl _ _).drew)⟩)
theorem d9{p:IProg}{q:List IBlk}{s:Slv}(h:SlvAt w K p q k s){v:Nat}(hv:v<K.n)(hk:4<k)(m:s.knw v=false):
 A 19 #[G K.sb,I v,.agg #[M (a0.lo:Int),M (a0.hi:Int)]] w (re w K p q k (s.put v zf,true)):=by
 have l:=wk h hv;rw[m] at l;have a4:(4:Int)<(k:Int):=Zo;obtain⟨a,g⟩:∃a,zf=a:=⟨_,rfl⟩
 have H:=Ja (Jb h (show a.ok from g ▸ xf));have hn:=h.n64;have l1:=lt_of_block h.cell;have l2:=lt_of_block h.row;have l3:=lt_of_block h.kn;obtain⟨s4,s7,s8,s9,s10,s6⟩:=h.cells;have a3:=h.ne;have HZ:=Ja g;rw[g];clear h hk m s4 s7 s6 g;go_enter Try.func19,Try.ntmps19;go_upto_region 7 with(go_at_call 20;go_must (refine(vt _).mono ?_;rintro e w1 ⟨rfl,d⟩;have hk:=zH d (zI rfl) Zs;have f0:=zA (i:=0) hk rfl;have f1:=zA (i:=1) hk rfl;have g0:=zE (i:=0) hk;have g1:=zE (i:=1) hk;have u:=lt_of_block hk;have o:=Below.trans (show Q w _ from by repeat' (first|exact Below.refl _ _|(refine Below.alloc ?_ (by first|(simp;done)|(simp;omega)) _))) (d.mono (by first|(simp;done)|(simp;omega)))))
 obtain⟨X,j⟩:∃X,(w1.setCell ⟨w.heap.size,0,none⟩ (M 0)).setCell ⟨w.heap.size,1,none⟩ (M 65535)=X:=⟨_,rfl⟩
 have f:=Ja (show Q w X/\T X w.heap.size #[M (a.lo:Int),M (a.hi:Int)] 48/\w.heap.size<X.heap.size from by
  have t:=zD (i:=1) (zD (i:=0) hk (M 0)) (M 65535);rw[j] at t;refine⟨by rw[<-j];exact(o.setCell (Je _) _).setCell (Je _) _,?_,lt_of_block t⟩;rw[<-HZ.out]
  exact t)
 rw[j];clear j hk f0 f1 g0 g1 u o d;clear l s8 s9 s10;have c:=Ja (H.out.1.below f.out.1);have y:=Ja (show ∀W:World,W.heap[K.sb]? =X.heap[K.sb]?->W.heap[w.heap.size]? =X.heap[w.heap.size]?->O W K.sb 8 (L K.rb K.n K.n)/\O W K.sb 9 (L K.kb K.n K.n)/\O W w.heap.size 0 (M (a.lo:Int))/\O W w.heap.size 1 (M (a.hi:Int)) from fun W h1 h2=>⟨zA (h1.trans c.out.cell) rfl,zA (h1.trans c.out.cell) rfl,zA (h2.trans f.out.2.1) rfl,zA (h2.trans f.out.2.1) rfl⟩);obtain⟨c0,c1,c2,c3⟩:=y.out X rfl rfl;have kx:=wk c.out hv;have kf:=zE (i:=v) c.out.kn;obtain⟨r0,r1⟩:=c.out.rcell (v:=(v:Int)) Zo;rw[Ni] at r0 r1;have a2:=zE (i:=v*2) c.out.row;have a1:=zE (i:=v*2+1) c.out.row;have m1:=lt_of_block c.out.cell;have m2:=lt_of_block c.out.row;have m3:=lt_of_block c.out.kn;have m4:=f.out.2.2;go_region_held3 (fun w'=>O w' K.sb 8 (L K.rb K.n K.n)/\O w' K.sb 9 (L K.kb K.n K.n)/\O w' w.heap.size 0 (M (a.lo:Int))/\O w' w.heap.size 1 (M (a.hi:Int))) ((refine y.out _ ?_ ?_<;>(repeat' (first|(rw[Below.heap_setCell _ _ _ _ (by first|(show K.sb≠K.kb;omega)|(show K.sb≠K.rb;omega)|(show w.heap.size≠K.kb;omega)|(show w.heap.size≠K.rb;omega))])|(rw[show ∀v:World,v.drew.heap=v.heap from fun _=>rfl])|exact rfl)))) (fail)
 all_goals go_wp2
 all_goals (
  obtain⟨W,x⟩:∃W,((X.setCell ⟨K.kb,v,none⟩ (.bool true)).setCell ⟨K.rb,v*2,none⟩ (M (a.lo:Int))).setCell ⟨K.rb,v*2+1,none⟩ (M (a.hi:Int))=W:=⟨_,rfl⟩
  rw[x];obtain⟨j1,j2⟩:=c.out.put hv H.out.2 x;go_ret
  exact⟨rfl,j1.below (Below.refl _ _).drew,((SlvTo.of_below f.out.1).trans j2).trans (SlvTo.of_below (Below.refl _ _).drew)⟩)
theorem il (w:World)(a b:Rg):A 50 #[.agg #[M (a.lo:Int),M (a.hi:Int)],.agg #[M (b.lo:Int),M (b.hi:Int)]] w (fun e w'=>e=.returned (.agg #[M ((xr a b).lo:Int),M ((xr a b).hi:Int)])/\Q w w'):=hull_any w a b
theorem afm{p:IProg}{a2:List IBlk}{s:Slv}(h:SlvAt w K p a2 k s){v:Nat}(hv:v<K.n){a:Rg}(a0:s.knw v=true)(c:tx (xr a (s.get v)) (s.get v)=true):
 A 19 #[G K.sb,I v,.agg #[M (a.lo:Int),M (a.hi:Int)]] w (re w K p a2 k (s,false)):=by
 have y:=wk h hv;rw[a0] at y;have j:=fun(W:World) (hW:Q w W)=>(h.below hW).rcell (v:=(v:Int)) Zo
 generalize hg:s.get (v:Int)=g at *;obtain⟨q,hq⟩:∃q,xr a g=q:=⟨_,rfl⟩
 have HH:=Ja (fun W=>il W a g);rw[hq] at HH c
 have x:q.lo=g.lo/\q.hi=g.hi:=by
  unfold tx at c
  simpa only[Jm,decide_eq_true_eq] using c
 rw[Ni] at j;have H:=Ja h;have hn:=h.n64;obtain⟨s4,s7,s8,s9,s10,s6⟩:=h.cells;have HC:=Ja (show ∀W:World,Q w W->O W K.sb 8 (L K.rb K.n K.n)/\O W K.rb (v*2) (M (g.lo:Int))/\O W K.rb (v*2+1) (M (g.hi:Int)) from fun W hb=>⟨(h.below hb).cells.2.2.1,(j W hb).1,(j W hb).2⟩);have l1:=lt_of_block h.cell;have l2:=lt_of_block h.row;have l3:=lt_of_block h.kn;have a3:=Ja x;clear h x a0 c s4 s7 s6 s8 s10 j hg hq;go_enter Try.func19,Try.ntmps19;go_upto_region 2 with(go_at_call 999999;skip)
 obtain⟨X,hX⟩:∃X,w.alloc (U #[M (a.lo:Int),M (a.hi:Int)] 48)=X:=⟨_,rfl⟩
 have d:=Ja (show Q w X/\T X w.heap.size #[M (a.lo:Int),M (a.hi:Int)] 48/\w.heap.size<X.heap.size from by
  rw[<-hX];exact⟨Below.alloc (Below.refl _ _) (Je _) _,zI rfl,by simp⟩)
 rw[hX];clear hX y s9;have t:=Ja (show ∀W:World,Below w.heap.size X W->O W K.sb 8 (L K.rb K.n K.n)/\O W K.rb (v*2) (M (g.lo:Int))/\O W K.rb (v*2+1) (M (g.hi:Int)) from fun W hb=>HC.out W (d.out.1.trans hb));obtain⟨c0,c1,c2⟩:=t.out X (Below.refl _ _);have x0:=zA (i:=0) d.out.2.1 rfl;have x1:=zA (i:=1) d.out.2.1 rfl;have a5:=d.out.2.2;refine wp_region_noPanic ?_;refine yQ (S:=(fun w'=>O w' K.sb 8 (L K.rb K.n K.n)/\O w' K.rb (v*2) (M (g.lo:Int))/\O w' K.rb (v*2+1) (M (g.hi:Int))/\O w' w.heap.size 0 (M (a.lo:Int))/\O w' w.heap.size 1 (M (a.hi:Int)))) 9 Zk ⟨c0,c1,c2,x0,x1⟩ (fun hHeld=>?_);refine Tl 0 ?_
 try simp only[Yp]
 refine Tl 1 ?_
 try simp only[Yp]
 refine Tl 2 ?_
 try simp only[Yp]
 refine Tl 3 ?_
 try simp only[Yp]
 refine Tl 4 ?_
 try simp only[Yp]
 refine Tl 5 ?_
 try simp only[Yp]
 refine Tl 6 ?_
 try simp only[Yp]
 refine Tl 7 ?_
 try simp only[Yp]
 refine z8 (rs:=[8]) Zk Zs ?_;refine zS.cons (o:=_) rfl (fun K hK=>?_) ?_
 ·skip
  (go_simp;refine(HH.out _).mono ?_;rintro e w1 ⟨rfl,a1⟩;have l:Q X w1:=(Below.refl X.heap.size X).drew.trans a1;clear a1;have hk:=zH l d.out.2.1 (lt_of_block d.out.2.1);have f0:=zA (i:=0) hk rfl;have f1:=zA (i:=1) hk rfl;have g0:=zE (i:=0) hk;have g1:=zE (i:=1) hk;have a6:=lt_of_block hk;have m:=t.out w1 (l.mono (Qd d.out.2.2)))
  refine hK.out _ _ ⟨m.1,m.2.1,m.2.2,f0,f1⟩ (fun hHeld=>?_);clear hK K
  try simp only[Yp]
  refine z8 (rs:=[9]) Zk Zs ?_;refine zS.last (o:=_) rfl (fun K hK=>?_);go_simp;refine hK.out _ _ ?_;clear hK K
  try simp only[Yp]
  refine xj Zk (NoPanic.normal ?_) _;go_upto_region 3 with(go_at_call 999999;skip)
  obtain⟨Y,u⟩:∃Y,(w1.setCell ⟨w.heap.size,0,none⟩ (M (q.lo:Int))).setCell ⟨w.heap.size,1,none⟩ (M (q.hi:Int))=Y:=⟨_,rfl⟩
  have f:=Ja (show Q w Y/\T Y w.heap.size #[M (q.lo:Int),M (q.hi:Int)] 48/\w.heap.size<Y.heap.size from by
   have hh:=zD (i:=1) (zD (i:=0) hk (M (q.lo:Int))) (M (q.hi:Int));rw[u] at hh
   exact⟨by rw[<-u];exact((d.out.1.trans (l.mono (Qd d.out.2.2))).setCell (Je _) _).setCell (Je _) _,hh,lt_of_block hh⟩)
  rw[u];clear u hk f0 f1 g0 g1 a6 l m t c0 c1 c2 x0 x1 a5;have a4:=Ja (show ∀W:World,Q Y W->(O W K.sb 8 (L K.rb K.n K.n)/\O W K.rb (v*2) (M (g.lo:Int))/\O W K.rb (v*2+1) (M (g.hi:Int)))/\O W w.heap.size 0 (M (q.lo:Int))/\O W w.heap.size 1 (M (q.hi:Int)) from fun W hb=>⟨HC.out W (f.out.1.trans (hb.mono (Qd f.out.2.2))),zA (zH hb f.out.2.1 (lt_of_block f.out.2.1)) rfl,zA (zH hb f.out.2.1 (lt_of_block f.out.2.1)) rfl⟩);obtain⟨⟨c0,c1,c2⟩,x0,x1⟩:=a4.out Y (Below.refl _ _);have e0:((q.lo:Int)==(g.lo:Int))=true:=by rw[a3.out.1];exact beq_self_eq_true _
  have e1:((q.hi:Int)==(g.hi:Int))=true:=by rw[a3.out.2];exact beq_self_eq_true _
  go_region_held3 (fun w'=>(O w' K.sb 8 (L K.rb K.n K.n)/\O w' K.rb (v*2) (M (g.lo:Int))/\O w' K.rb (v*2+1) (M (g.hi:Int)))/\O w' w.heap.size 0 (M (q.lo:Int))/\O w' w.heap.size 1 (M (q.hi:Int)))
   ((refine a4.out _ ?_;repeat' (first|with_reducible exact Below.refl _ _|with_reducible assumption|with_reducible refine Below.drew ?_)))
   (fail)
  all_goals go_wp2
  all_goals go_ret
  all_goals exact⟨rfl,H.out.below f.out.1.drew,SlvTo.of_below f.out.1.drew⟩
 exact zS.nil
theorem set_more{p:IProg}{b2:List IBlk}{s:Slv}(h:SlvAt w K p b2 k s){v:Nat}(hv:v<K.n)(y:(xr a0 (s.get v)).ok)(hk:¬4<k)(a5:s.knw v=true)(j:tx (xr a0 (s.get v)) (s.get v)=false):
 A 19 #[G K.sb,I v,.agg #[M (a0.lo:Int),M (a0.hi:Int)]] w (re w K p b2 k (s.put v (xr a0 (s.get v)),true)):=by
 have a4:=wk h hv;rw[a5] at a4;have q:=fun(W:World) (x:Q w W)=>(h.below x).rcell (v:=(v:Int)) Zo
 generalize hg:s.get (v:Int)=g at *;obtain⟨a,hq⟩:∃a,xr a0 g=a:=⟨_,rfl⟩
 have HH:=Ja (fun W=>il W a0 g);rw[hq] at HH j y ⊢;have c4:¬(4:Int)<(k:Int):=Zo;have b9:=h.ne
 have a3:(((a.lo:Int)==(g.lo:Int)) && ((a.hi:Int)==(g.hi:Int)))=false:=by
  rw[<-j];unfold tx;rw[Bool.eq_iff_iff];simp only[Jm,beq_iff_eq,decide_eq_true_eq];omega
 rw[Ni] at q;have H:=Ja (Jb h y);have a6:=fun(W:World) (x:Q w W)=>(h.below x).cells.2.2.2.2.1
 have HK:=Ja a6;have hn:=h.n64;obtain⟨s4,s7,s8,s9,s10,s6⟩:=h.cells;have HC:=Ja (show ∀W:World,Q w W->O W K.sb 8 (L K.rb K.n K.n)/\O W K.rb (v*2) (M (g.lo:Int))/\O W K.rb (v*2+1) (M (g.hi:Int)) from fun W hb=>⟨(h.below hb).cells.2.2.1,(q W hb).1,(q W hb).2⟩);have l1:=lt_of_block h.cell;have l2:=lt_of_block h.row;have l3:=lt_of_block h.kn;have b4:=Ja a3;clear a6 hk y h a3 a5 j s4 s7 s6 s8 s10 q hg hq;go_enter Try.func19,Try.ntmps19;go_upto_region 2 with(go_at_call 999999;skip)
 obtain⟨X,m⟩:∃X,w.alloc (U #[M (a0.lo:Int),M (a0.hi:Int)] 48)=X:=⟨_,rfl⟩
 have c:=Ja (show Q w X/\T X w.heap.size #[M (a0.lo:Int),M (a0.hi:Int)] 48/\w.heap.size<X.heap.size from by
  rw[<-m];exact⟨Below.alloc (Below.refl _ _) (Je _) _,zI rfl,by simp⟩)
 rw[m];clear m a4 s9;have a2:=Ja (show ∀W:World,Below w.heap.size X W->O W K.sb 8 (L K.rb K.n K.n)/\O W K.rb (v*2) (M (g.lo:Int))/\O W K.rb (v*2+1) (M (g.hi:Int)) from fun W hb=>HC.out W (c.out.1.trans hb));obtain⟨c0,c1,c2⟩:=a2.out X (Below.refl _ _);have x0:=zA (i:=0) c.out.2.1 rfl;have x1:=zA (i:=1) c.out.2.1 rfl;have b5:=c.out.2.2;refine wp_region_noPanic ?_;refine yQ (S:=(fun w'=>O w' K.sb 8 (L K.rb K.n K.n)/\O w' K.rb (v*2) (M (g.lo:Int))/\O w' K.rb (v*2+1) (M (g.hi:Int))/\O w' w.heap.size 0 (M (a0.lo:Int))/\O w' w.heap.size 1 (M (a0.hi:Int)))) 9 Zk ⟨c0,c1,c2,x0,x1⟩ (fun hHeld=>?_);refine Tl 0 ?_
 try simp only[Yp]
 refine Tl 1 ?_
 try simp only[Yp]
 refine Tl 2 ?_
 try simp only[Yp]
 refine Tl 3 ?_
 try simp only[Yp]
 refine Tl 4 ?_
 try simp only[Yp]
 refine Tl 5 ?_
 try simp only[Yp]
 refine Tl 6 ?_
 try simp only[Yp]
 refine Tl 7 ?_
 try simp only[Yp]
 refine z8 (rs:=[8]) Zk Zs ?_;refine zS.cons (o:=_) rfl (fun K hK=>?_) ?_
 ·skip
  (go_simp;refine(HH.out _).mono ?_;rintro e w1 ⟨rfl,a9⟩;have t:Q X w1:=(Below.refl X.heap.size X).drew.trans a9;clear a9;have hk:=zH t c.out.2.1 (lt_of_block c.out.2.1);have f0:=zA (i:=0) hk rfl;have f1:=zA (i:=1) hk rfl;have g0:=zE (i:=0) hk;have g1:=zE (i:=1) hk;have b6:=lt_of_block hk;have u:=a2.out w1 (t.mono (Qd c.out.2.2)))
  refine hK.out _ _ ⟨u.1,u.2.1,u.2.2,f0,f1⟩ (fun hHeld=>?_);clear hK K
  try simp only[Yp]
  refine z8 (rs:=[9]) Zk Zs ?_;refine zS.last (o:=_) rfl (fun K hK=>?_);go_simp;refine hK.out _ _ ?_;clear hK K
  try simp only[Yp]
  refine xj Zk (NoPanic.normal ?_) _;go_upto_region 3 with(go_at_call 999999;skip)
  obtain⟨Y,hY⟩:∃Y,(w1.setCell ⟨w.heap.size,0,none⟩ (M (a.lo:Int))).setCell ⟨w.heap.size,1,none⟩ (M (a.hi:Int))=Y:=⟨_,rfl⟩
  have f:=Ja (show Q w Y/\T Y w.heap.size #[M (a.lo:Int),M (a.hi:Int)] 48/\w.heap.size<Y.heap.size from by
   have hh:=zD (i:=1) (zD (i:=0) hk (M (a.lo:Int))) (M (a.hi:Int));rw[hY] at hh
   exact⟨by rw[<-hY];exact((c.out.1.trans (t.mono (Qd c.out.2.2))).setCell (Je _) _).setCell (Je _) _,hh,lt_of_block hh⟩)
  rw[hY];clear hY hk f0 f1 g0 g1 b6 t u a2 c0 c1 c2 x0 x1 b5;have a1:=Ja (show ∀W:World,Q Y W->(O W K.sb 8 (L K.rb K.n K.n)/\O W K.rb (v*2) (M (g.lo:Int))/\O W K.rb (v*2+1) (M (g.hi:Int)))/\O W w.heap.size 0 (M (a.lo:Int))/\O W w.heap.size 1 (M (a.hi:Int)) from fun W hb=>⟨HC.out W (f.out.1.trans (hb.mono (Qd f.out.2.2))),zA (zH hb f.out.2.1 (lt_of_block f.out.2.1)) rfl,zA (zH hb f.out.2.1 (lt_of_block f.out.2.1)) rfl⟩);obtain⟨⟨c0,c1,c2⟩,x0,x1⟩:=a1.out Y (Below.refl _ _);obtain⟨b0,e0⟩:∃b,((a.lo:Int)==(g.lo:Int))=b:=⟨_,rfl⟩
  obtain⟨b1,e1⟩:∃b,((a.hi:Int)==(g.hi:Int))=b:=⟨_,rfl⟩
  have l:=b4.out;rw[e0,e1] at l;clear b4;cases b0<;>cases b1
  all_goals first|(cases l;done)|skip
  all_goals clear l
  all_goals go_region_held3 (fun w'=>(O w' K.sb 8 (L K.rb K.n K.n)/\O w' K.rb (v*2) (M (g.lo:Int))/\O w' K.rb (v*2+1) (M (g.hi:Int)))/\O w' w.heap.size 0 (M (a.lo:Int))/\O w' w.heap.size 1 (M (a.hi:Int)))
   ((refine a1.out _ ?_;repeat' (first|with_reducible exact Below.refl _ _|with_reducible assumption|with_reducible refine Below.drew ?_)))
   (fail)
  all_goals clear c0 c1 c2 x0 x1 a1 e0 e1
  all_goals have s10:=HK.out Y.drew f.out.1.drew
  all_goals go_upto_region 7 with(go_at_call 999999;skip)
  all_goals (
   obtain⟨X,m⟩:∃X,Y.drew=X:=⟨_,rfl⟩
   have b3:=Ja (show Q w X/\T X w.heap.size #[M (a.lo:Int),M (a.hi:Int)] 48/\w.heap.size<X.heap.size from by rw[<-m];exact⟨f.out.1.drew,f.out.2.1,f.out.2.2⟩);rw[m];clear m s10 c;have c:=b3;clear b3;have d:=Ja (H.out.1.below c.out.1);have HC:=Ja (show ∀W:World,W.heap[K.sb]? =X.heap[K.sb]?->W.heap[w.heap.size]? =X.heap[w.heap.size]?->O W K.sb 8 (L K.rb K.n K.n)/\O W K.sb 9 (L K.kb K.n K.n)/\O W w.heap.size 0 (M (a.lo:Int))/\O W w.heap.size 1 (M (a.hi:Int)) from fun W h1 h2=>⟨zA (h1.trans d.out.cell) rfl,zA (h1.trans d.out.cell) rfl,zA (h2.trans c.out.2.1) rfl,zA (h2.trans c.out.2.1) rfl⟩);obtain⟨c0,c1,c2,c3⟩:=HC.out X rfl rfl;have kx:=wk d.out hv;have kf:=zE (i:=v) d.out.kn;obtain⟨r0,r1⟩:=d.out.rcell (v:=(v:Int)) Zo;rw[Ni] at r0 r1;have b8:=zE (i:=v*2) d.out.row;have b7:=zE (i:=v*2+1) d.out.row;have m1:=lt_of_block d.out.cell;have m2:=lt_of_block d.out.row;have m3:=lt_of_block d.out.kn;have m4:=c.out.2.2;go_region_held3 (fun w'=>O w' K.sb 8 (L K.rb K.n K.n)/\O w' K.sb 9 (L K.kb K.n K.n)/\O w' w.heap.size 0 (M (a.lo:Int))/\O w' w.heap.size 1 (M (a.hi:Int))) ((refine HC.out _ ?_ ?_<;>(repeat' (first|(rw[Below.heap_setCell _ _ _ _ (by first|(show K.sb≠K.kb;omega)|(show K.sb≠K.rb;omega)|(show w.heap.size≠K.kb;omega)|(show w.heap.size≠K.rb;omega))])|(rw[show ∀v:World,v.drew.heap=v.heap from fun _=>rfl])|exact rfl)))) (fail);go_wp2;obtain⟨W,x⟩:∃W,((X.setCell ⟨K.kb,v,none⟩ (.bool true)).setCell ⟨K.rb,v*2,none⟩ (M (a.lo:Int))).setCell ⟨K.rb,v*2+1,none⟩ (M (a.hi:Int))=W:=⟨_,rfl⟩
   rw[x];obtain⟨j1,j2⟩:=d.out.put hv H.out.2 x;go_ret
   exact⟨rfl,j1.below (Below.refl _ _).drew,((SlvTo.of_below c.out.1).trans j2).trans (SlvTo.of_below (Below.refl _ _).drew)⟩)
 exact zS.nil
theorem ge{p:IProg}{b6:List IBlk}{s:Slv}(h:SlvAt w K p b6 k s){v:Nat}(hv:v<K.n)(hk:4<k)(b2:s.knw v=true)(j:tx (xr a0 (s.get v)) (s.get v)=false):
 A 19 #[G K.sb,I v,.agg #[M (a0.lo:Int),M (a0.hi:Int)]] w (re w K p b6 k (s.put v zf,true)):=by
 have a9:=wk h hv;rw[b2] at a9;have u:=fun(W:World) (hW:Q w W)=>(h.below hW).rcell (v:=(v:Int)) Zo
 generalize hg:s.get (v:Int)=g at *;obtain⟨q,hq⟩:∃q,xr a0 g=q:=⟨_,rfl⟩
 have HH:=Ja (fun W=>il W a0 g);rw[hq] at HH j;obtain⟨a,hz⟩:∃a,zf=a:=⟨_,rfl⟩
 have a6:a.ok:=hz ▸ xf;have HZ:=Ja hz;rw[hz];have c8:(4:Int)<(k:Int):=Zo;have c7:=h.ne
 have a5:(((q.lo:Int)==(g.lo:Int)) && ((q.hi:Int)==(g.hi:Int)))=false:=by
  rw[<-j];unfold tx;rw[Bool.eq_iff_iff];simp only[Jm,beq_iff_eq,decide_eq_true_eq];omega
 rw[Ni] at u;have H:=Ja (Jb h a6);have b3:=fun(W:World) (hW:Q w W)=>(h.below hW).cells.2.2.2.2.1
 have HK:=Ja b3;have hn:=h.n64;obtain⟨s4,s7,s8,s9,s10,s6⟩:=h.cells;have HC:=Ja (show ∀W:World,Q w W->O W K.sb 8 (L K.rb K.n K.n)/\O W K.rb (v*2) (M (g.lo:Int))/\O W K.rb (v*2+1) (M (g.hi:Int)) from fun W hb=>⟨(h.below hb).cells.2.2.1,(u W hb).1,(u W hb).2⟩);have l1:=lt_of_block h.cell;have l2:=lt_of_block h.row;have l3:=lt_of_block h.kn;have b8:=Ja a5;clear hz b3 hk a6 h a5 b2 j s4 s7 s6 s8 s10 u hg hq;go_enter Try.func19,Try.ntmps19;go_upto_region 2 with(go_at_call 999999;skip)
 obtain⟨X,l⟩:∃X,w.alloc (U #[M (a0.lo:Int),M (a0.hi:Int)] 48)=X:=⟨_,rfl⟩
 have c:=Ja (show Q w X/\T X w.heap.size #[M (a0.lo:Int),M (a0.hi:Int)] 48/\w.heap.size<X.heap.size from by
  rw[<-l];exact⟨Below.alloc (Below.refl _ _) (Je _) _,zI rfl,by simp⟩)
 rw[l];clear l a9 s9;have a4:=Ja (show ∀W:World,Below w.heap.size X W->O W K.sb 8 (L K.rb K.n K.n)/\O W K.rb (v*2) (M (g.lo:Int))/\O W K.rb (v*2+1) (M (g.hi:Int)) from fun W hb=>HC.out W (c.out.1.trans hb));obtain⟨c0,c1,c2⟩:=a4.out X (Below.refl _ _);have x0:=zA (i:=0) c.out.2.1 rfl;have x1:=zA (i:=1) c.out.2.1 rfl;have b9:=c.out.2.2;refine wp_region_noPanic ?_;refine yQ (S:=(fun w'=>O w' K.sb 8 (L K.rb K.n K.n)/\O w' K.rb (v*2) (M (g.lo:Int))/\O w' K.rb (v*2+1) (M (g.hi:Int))/\O w' w.heap.size 0 (M (a0.lo:Int))/\O w' w.heap.size 1 (M (a0.hi:Int)))) 9 Zk ⟨c0,c1,c2,x0,x1⟩ (fun hHeld=>?_);refine Tl 0 ?_
 try simp only[Yp]
 refine Tl 1 ?_
 try simp only[Yp]
 refine Tl 2 ?_
 try simp only[Yp]
 refine Tl 3 ?_
 try simp only[Yp]
 refine Tl 4 ?_
 try simp only[Yp]
 refine Tl 5 ?_
 try simp only[Yp]
 refine Tl 6 ?_
 try simp only[Yp]
 refine Tl 7 ?_
 try simp only[Yp]
 refine z8 (rs:=[8]) Zk Zs ?_;refine zS.cons (o:=_) rfl (fun K hK=>?_) ?_
 ·skip
  (go_simp;refine(HH.out _).mono ?_;rintro e w1 ⟨rfl,b5⟩;have x:Q X w1:=(Below.refl X.heap.size X).drew.trans b5;clear b5;have hk:=zH x c.out.2.1 (lt_of_block c.out.2.1);have f0:=zA (i:=0) hk rfl;have f1:=zA (i:=1) hk rfl;have g0:=zE (i:=0) hk;have g1:=zE (i:=1) hk;have a1:=lt_of_block hk;have y:=a4.out w1 (x.mono (Qd c.out.2.2)))
  refine hK.out _ _ ⟨y.1,y.2.1,y.2.2,f0,f1⟩ (fun hHeld=>?_);clear hK K
  try simp only[Yp]
  refine z8 (rs:=[9]) Zk Zs ?_;refine zS.last (o:=_) rfl (fun K hK=>?_);go_simp;refine hK.out _ _ ?_;clear hK K
  try simp only[Yp]
  refine xj Zk (NoPanic.normal ?_) _;go_upto_region 3 with(go_at_call 999999;skip)
  obtain⟨Y,hY⟩:∃Y,(w1.setCell ⟨w.heap.size,0,none⟩ (M (q.lo:Int))).setCell ⟨w.heap.size,1,none⟩ (M (q.hi:Int))=Y:=⟨_,rfl⟩
  have f:=Ja (show Q w Y/\T Y w.heap.size #[M (q.lo:Int),M (q.hi:Int)] 48/\w.heap.size<Y.heap.size from by
   have m:=zD (i:=1) (zD (i:=0) hk (M (q.lo:Int))) (M (q.hi:Int));rw[hY] at m
   exact⟨by rw[<-hY];exact((c.out.1.trans (x.mono (Qd c.out.2.2))).setCell (Je _) _).setCell (Je _) _,m,lt_of_block m⟩)
  rw[hY];clear hY hk f0 f1 g0 g1 a1 x y a4 c0 c1 c2 x0 x1 b9;have a3:=Ja (show ∀W:World,Q Y W->(O W K.sb 8 (L K.rb K.n K.n)/\O W K.rb (v*2) (M (g.lo:Int))/\O W K.rb (v*2+1) (M (g.hi:Int)))/\O W w.heap.size 0 (M (q.lo:Int))/\O W w.heap.size 1 (M (q.hi:Int)) from fun W hb=>⟨HC.out W (f.out.1.trans (hb.mono (Qd f.out.2.2))),zA (zH hb f.out.2.1 (lt_of_block f.out.2.1)) rfl,zA (zH hb f.out.2.1 (lt_of_block f.out.2.1)) rfl⟩);obtain⟨⟨c0,c1,c2⟩,x0,x1⟩:=a3.out Y (Below.refl _ _);obtain⟨b0,e0⟩:∃b,((q.lo:Int)==(g.lo:Int))=b:=⟨_,rfl⟩
  obtain⟨b1,e1⟩:∃b,((q.hi:Int)==(g.hi:Int))=b:=⟨_,rfl⟩
  have t:=b8.out;rw[e0,e1] at t;clear b8;cases b0<;>cases b1
  all_goals first|(cases t;done)|skip
  all_goals clear t
  all_goals go_region_held3 (fun w'=>(O w' K.sb 8 (L K.rb K.n K.n)/\O w' K.rb (v*2) (M (g.lo:Int))/\O w' K.rb (v*2+1) (M (g.hi:Int)))/\O w' w.heap.size 0 (M (q.lo:Int))/\O w' w.heap.size 1 (M (q.hi:Int)))
   ((refine a3.out _ ?_;repeat' (first|with_reducible exact Below.refl _ _|with_reducible assumption|with_reducible refine Below.drew ?_)))
   (fail)
  all_goals clear c0 c1 c2 x0 x1 a3 e0 e1
  all_goals have s10:=HK.out Y.drew f.out.1.drew
  all_goals have HV:=Ja (show Q w Y.drew/\T Y.drew w.heap.size #[M (q.lo:Int),M (q.hi:Int)] 48/\w.heap.size<Y.drew.heap.size from⟨f.out.1.drew,f.out.2.1,f.out.2.2⟩)
  all_goals go_upto_region 7 with(go_at_call 20;go_must (refine(vt _).mono ?_;rintro e w2 ⟨rfl,a2⟩;have hk:=zH a2 HV.out.2.1 HV.out.2.2;have f0:=zA (i:=0) hk rfl;have f1:=zA (i:=1) hk rfl;have g0:=zE (i:=0) hk;have g1:=zE (i:=1) hk;have a1:=lt_of_block hk;have b4:=HV.out.1.trans (a2.mono HV.out.1.size)))
  all_goals (
   obtain⟨X,l⟩:∃X,(w2.setCell ⟨w.heap.size,0,none⟩ (M 0)).setCell ⟨w.heap.size,1,none⟩ (M 65535)=X:=⟨_,rfl⟩
   have b7:=Ja (show Q w X/\T X w.heap.size #[M (a.lo:Int),M (a.hi:Int)] 48/\w.heap.size<X.heap.size from by
    have m:=zD (i:=1) (zD (i:=0) hk (M 0)) (M 65535);rw[l] at m;refine⟨by rw[<-l];exact(b4.setCell (Je _) _).setCell (Je _) _,?_,lt_of_block m⟩;rw[<-HZ.out]
    exact m)
   rw[l];clear l s10 c hk f0 f1 g0 g1 a1 b4 a2;have c:=b7;clear b7;have d:=Ja (H.out.1.below c.out.1);have HC:=Ja (show ∀W:World,W.heap[K.sb]? =X.heap[K.sb]?->W.heap[w.heap.size]? =X.heap[w.heap.size]?->O W K.sb 8 (L K.rb K.n K.n)/\O W K.sb 9 (L K.kb K.n K.n)/\O W w.heap.size 0 (M (a.lo:Int))/\O W w.heap.size 1 (M (a.hi:Int)) from fun W h1 h2=>⟨zA (h1.trans d.out.cell) rfl,zA (h1.trans d.out.cell) rfl,zA (h2.trans c.out.2.1) rfl,zA (h2.trans c.out.2.1) rfl⟩);obtain⟨c0,c1,c2,c3⟩:=HC.out X rfl rfl;have kx:=wk d.out hv;have kf:=zE (i:=v) d.out.kn;obtain⟨r0,r1⟩:=d.out.rcell (v:=(v:Int)) Zo;rw[Ni] at r0 r1;have c5:=zE (i:=v*2) d.out.row;have c4:=zE (i:=v*2+1) d.out.row;have m1:=lt_of_block d.out.cell;have m2:=lt_of_block d.out.row;have m3:=lt_of_block d.out.kn;have m4:=c.out.2.2;go_region_held3 (fun w'=>O w' K.sb 8 (L K.rb K.n K.n)/\O w' K.sb 9 (L K.kb K.n K.n)/\O w' w.heap.size 0 (M (a.lo:Int))/\O w' w.heap.size 1 (M (a.hi:Int))) ((refine HC.out _ ?_ ?_<;>(repeat' (first|(rw[Below.heap_setCell _ _ _ _ (by first|(show K.sb≠K.kb;omega)|(show K.sb≠K.rb;omega)|(show w.heap.size≠K.kb;omega)|(show w.heap.size≠K.rb;omega))])|(rw[show ∀v:World,v.drew.heap=v.heap from fun _=>rfl])|exact rfl)))) (fail);go_wp2;obtain⟨W,hW⟩:∃W,((X.setCell ⟨K.kb,v,none⟩ (.bool true)).setCell ⟨K.rb,v*2,none⟩ (M (a.lo:Int))).setCell ⟨K.rb,v*2+1,none⟩ (M (a.hi:Int))=W:=⟨_,rfl⟩
   rw[hW];obtain⟨j1,j2⟩:=d.out.put hv H.out.2 hW;go_ret
   exact⟨rfl,j1.below (Below.refl _ _).drew,((SlvTo.of_below c.out.1).trans j2).trans (SlvTo.of_below (Below.refl _ _).drew)⟩)
 exact zS.nil
theorem aw{p:IProg}{g:List IBlk}{s:Slv}(h:SlvAt w K p g k s){v:Nat}(hv:v<K.n){a:Rg}(j:a.ok)(i:(xr a (s.get v)).ok):
 A 19 #[G K.sb,I v,.agg #[M (a.lo:Int),M (a.hi:Int)]] w (re w K p g k (setF k s v a)):=by
 unfold setF
 by_cases c:s.knw v=true
 ·rw[if_pos c]
  by_cases hs:tx (xr a (s.get v)) (s.get v)=true
  ·rw[if_pos hs];exact afm h hv c hs
  ·rw[if_neg hs];have f:tx (xr a (s.get v)) (s.get v)=false:=by simpa using hs
   unfold afW
   by_cases hk:4<k
   ·rw[if_pos hk];exact ge h hv hk c f
   ·rw[if_neg hk];exact set_more h hv i hk c f
 ·rw[if_neg c];have d:s.knw v=false:=by simpa using c
  unfold afW
  by_cases hk:4<k
  ·rw[if_pos hk];exact d9 h hv hk d
  ·rw[if_neg hk];exact set_new h hv j hk d
def BlkOp (n:Nat)(p:IProg)(o:IOp):Prop:=0<=o.res->ae1 n o/\(o.code=2->0<=o.a/\o.a<p.data.length)/\(o.code≠1->o.code≠2->ruG o.code≠none->(0<=o.a/\o.a<n)/\0<=o.b/\o.b<n)
def BlkEdge (n:Nat)(bls:List IBlk)(e:IEdge):Prop:=(0<=e.block/\e.block<bls.length)/\e.args.length=(xz bls e.block).params.length/\(∀x∈e.args,0<=x/\x<n)/\∀x∈(xz bls e.block).params,0<=x/\x<n
structure BlkW (n:Nat) (p:IProg) (bls:List IBlk) (b:IBlk):Prop where
 ops:∀o∈b.ops,BlkOp n p o
 tos:∀e∈b.term.to,BlkEdge n bls e
theorem SlvTo.blk(h:SlvTo w w' K){b:Nat}{o:_}(hb:w.heap[b]? =some o)(d:b<w.heap.size)(c:b≠K.rb/\b≠K.kb/\b≠K.sb):w'.heap[b]? =some o:=(h.block b d c.1 c.2.1 c.2.2).trans hb
theorem SlvAt.fresh{p:IProg}{s:Slv}(h:SlvAt w K p c k s){b:Nat}(hb:w.heap.size<=b):b≠K.rb/\b≠K.kb/\b≠K.sb:=by
 have:=lt_of_block h.row;have:=lt_of_block h.kn;have:=lt_of_block h.cell;omega
theorem SlvAt.keepB{p:IProg}{s:Slv}(h:SlvAt w K p c k s)(ht:SlvTo w w' K):Below K.B w w':=
 ht.below ⟨h.lt.2.1,h.lt.2.2.1,h.lt.1,Qd (Nat.lt_of_le_of_lt h.lt.1 (lt_of_block h.cell))⟩
theorem ti{α β:Type}{f:β->α->β}{l:List α}{x:α}(h:l[k]? =some x)(b:β):(l.take (k+1)).foldl f b=f ((l.take k).foldl f b) x:=by
 rw[Nh,h,List.foldl_append];rfl
theorem aeX{p:IProg}{f:List IBlk}{s:Slv}(h:SlvAt w K p f k s){i:Nat}{bx:IBlk}(c4:f[i]? =some bx)(f6:BlkW K.n p f bx):
 A 23 #[G K.sb,I i] w (re w K p f k (dl p f k (s,false) bx)):=by
 obtain⟨fa,fc,c1,k5,k4⟩:=h.blks.form;have b0:=h.blks;rw[c1] at b0;obtain⟨bb,bo,rfl,k6,g2,g3,a9,pv,ov,tv,g0,g1,g4,a0,b7,b5⟩:=b0.get c4;obtain⟨pa,pc,rfl,j9,j2⟩:=a0.form;obtain⟨oa,oc,rfl,k0,n1⟩:=b7.form;obtain⟨ta,tc,rfl,i1,l7⟩:=b5.form;have n4:=(Jh.1 c4).1;have n2:bx.ops.length<=9223372036854775807:=Zo;have l9:bx.term.to.length<=9223372036854775807:=Zo;have c6:=h.cells.2.2.2.2.2;rw[c1] at c6;have f4:=lt_of_block h.cell;have l1:bb<w.heap.size:=Jy k6 (Qd (Nat.lt_of_le_of_lt h.lt.1 f4));obtain⟨X,hX⟩:∃X,w.alloc (U #[.slice pa bx.params.length pc,.slice oa bx.ops.length oc,I bx.term.kind,I bx.term.a,.slice ta bx.term.to.length tc] 36)=X:=⟨_,rfl⟩
 have a5:Q w X:=by rw[<-hX];exact(Below.refl _ _).alloc (Je _) _
 have c7:T X w.heap.size #[.slice pa bx.params.length pc,.slice oa bx.ops.length oc,I bx.term.kind,I bx.term.a,.slice ta bx.term.to.length tc] 36:=by rw[<-hX];exact zI rfl
 have hB:K.B<=w.heap.size:=Qd (Nat.lt_of_le_of_lt h.lt.1 f4)
 have y:=Ja (show SlvAt X K p f k s/\SlvTo w X K/\T X w.heap.size #[.slice pa bx.params.length pc,.slice oa bx.ops.length oc,I bx.term.kind,I bx.term.a,.slice ta bx.term.to.length tc] 36/\mN X K.B (.slice oa bx.ops.length oc) bx.ops/\wH X K.B (.slice ta bx.term.to.length tc) bx.term.to/\Q w X/\w.heap.size<X.heap.size/\K.B<=w.heap.size from
  ⟨h.below a5,SlvTo.of_below a5,c7,b7.below xA (a5.mono hB),b5.below xL (a5.mono hB),a5,lt_of_block c7,hB⟩)
 have HW:=Ja (Jb h (Jb f6 (Jb c4 c1)));have m1:=k4;obtain⟨t6,f3⟩:∃t6,w.heap.size=t6:=⟨_,rfl⟩
 clear h f6 c4 c1 b0 a9 a0 b7 b5 a5 c7 k5 j9 j2 k0 i1 hB;go_enter Try.func23,Try.ntmps23;go_upto_region 3 with fail;clear hX c6 g0 g1 g2 g3 g4;rw[f3] at y;have d1:O X t6 1 (.slice oa bx.ops.length oc):=zA y.out.2.2.1 rfl;go_wp2;clear d1
 go_loopw [5,24] (fun cv jv wx=>∃(j:Nat) (s':Slv) (c:Bool),j<=bx.ops.length/\cv=.bool c/\jv=I j/\Hid ((bx.ops.take j).foldl (opS p k) (s,false)=(s',c)/\SlvAt wx K p f k s'/\SlvTo X wx K)) (fun _ jv _=>bx.ops.length-(intOf jv).toNat)
 case atStart=>exact⟨0,s,false,Jt _,rfl,rfl,Ja ⟨rfl,y.out.1,SlvTo.refl _ _⟩⟩
 case round=>
  obtain⟨j,s',c,hj,rfl,rfl,g⟩:=hrel
  by_cases u:j<bx.ops.length
  ·have b8:(j:Int)<(bx.ops.length:Int):=Zo;obtain⟨o,ho⟩:∃o,bx.ops[j]? =some o:=⟨_,Jd u⟩
   have q:Below K.B X wr:=y.out.1.keepB g.out.2.2;obtain⟨qb,qo,d3,b2,e0,e1,e2,e3,e4,a9,av,e5,a6⟩:=(y.out.2.2.2.1.below xA q).get ho;obtain⟨aa,ac,rfl,_,_⟩:=a6.form;subst d3;have d2:qb<wr.heap.size:=Jy b2 (Jn y.out.2.2.2.2.2.2.2 (Jn (Qd y.out.2.2.2.2.2.2.1) q.size));obtain⟨Y,hY⟩:∃Y,wr.alloc (U (N o aa ac) 27)=Y:=⟨_,rfl⟩
   have a1:Q wr Y:=by rw[<-hY];exact(Below.refl _ _).alloc (Je _) _
   have a3:T Y wr.heap.size (N o aa ac) 27:=by rw[<-hY];exact zI rfl
   have d:=Ja (show SlvAt Y K p f k s'/\SlvTo X Y K/\T Y wr.heap.size (N o aa ac) 27/\wr.heap.size≠K.rb/\wr.heap.size≠K.kb/\wr.heap.size≠K.sb from⟨g.out.2.1.below a1,g.out.2.2.trans (SlvTo.of_below a1),a3,g.out.2.1.fresh (Je _)⟩);have HO:=Ja (Jb ho (Jb a9 (HW.out.2.1.ops o (Ji ho))));have a2:=Ja u;clear ho a9 a6 q a1 a3 u;go_upto_region 6 with fail;clear hY e0 e1 e2 e3 e4 e5 d2 b2;obtain⟨t8,i2⟩:∃t8,wr.heap.size=t8:=⟨_,rfl⟩
   rw[i2] at d ⊢;have z0:O Y t8 0 (I o.code):=zA d.out.2.2.1 rfl;have z1:O Y t8 1 (I o.res):=zA d.out.2.2.1 rfl;have z2:O Y t8 2 (I o.a):=zA d.out.2.2.1 rfl;have z3:O Y t8 3 (I o.b):=zA d.out.2.2.1 rfl;have z4:O Y t8 4 (M (o.n:Int)):=zA d.out.2.2.1 rfl;have z5:O Y t8 5 (.slice aa o.args.length ac):=zA d.out.2.2.1 rfl
   by_cases hr:0<=o.res
   ·have j1:decide (0<=o.res)=true:=decide_eq_true hr;obtain⟨a,ha⟩:∃a,rk p s' o=a:=⟨_,rfl⟩
    obtain⟨s2,r,hq⟩:∃s2 r,setF k s' o.res a=(s2,r):=⟨_,_,rfl⟩
    obtain⟨d0,d5,g6⟩:=HO.out.2.2 hr;have t:a.ok:=by rw[<-ha];exact aeQ d.out.1.oks d0 hr
    have c0:(xr a (s'.get o.res)).ok:=kr t (d.out.1.oks.get _)
    have k9:=Ja (show ∀W,Q Y W->A 54 #[G K.sb,.agg (N o aa ac)] W (wb W a) from fun W hb=>by
     rw[<-ha];exact ae7 (d.out.1.below hb) (.slice aa o.args.length ac) HO.out.2.1.1 HO.out.2.1.2.2.2.2 d5 g6)
    have e7:=Ja (show ∀W,SlvAt W K p f k s'->A 19 #[G K.sb,I o.res,.agg #[M (a.lo:Int),M (a.hi:Int)]] W (re W K p f k (s2,r)) from fun W hb=>by
     have:=aw hb (v:=o.res.toNat) ((d0 hr).1) t (by rw[Oa hr];exact c0);rw[Oa hr,hq] at this
     exact this)
    have HQ:=Ja (Jb hq (Jb ha hr));clear hq ha d0 d5 g6 t c0;have HC:=Ja (show ∀w':World,w'.heap[t8]? =Y.heap[t8]?->O w' t8 0 (I o.code)/\O w' t8 1 (I o.res)/\O w' t8 2 (I o.a)/\O w' t8 3 (I o.b)/\O w' t8 4 (M (o.n:Int))/\O w' t8 5 (.slice aa o.args.length ac) from fun W h=>⟨zA (h.trans d.out.2.2.1) rfl,zA (h.trans d.out.2.2.1) rfl,zA (h.trans d.out.2.2.1) rfl,zA (h.trans d.out.2.2.1) rfl,zA (h.trans d.out.2.2.1) rfl,zA (h.trans d.out.2.2.1) rfl⟩);have f9:=lt_of_block d.out.2.2.1;cases r
    all_goals go_region_held3 (fun w'=>O w' t8 0 (I o.code)/\O w' t8 1 (I o.res)/\O w' t8 2 (I o.a)/\O w' t8 3 (I o.b)/\O w' t8 4 (M (o.n:Int))/\O w' t8 5 (.slice aa o.args.length ac))
     ((refine HC.out _ ?_;first|exact rfl|exact k3|exact k2))
     ((first
       |(go_at_call 54;refine(k9.out _ (by repeat' (first|with_reducible exact Below.refl _ _|with_reducible refine Below.drew ?_))).mono ?_;rintro e w1 ⟨rfl,g5⟩;have e6:Below Y.heap.size Y w1:=Below.trans (show Below Y.heap.size Y _ from by repeat' (first|with_reducible exact Below.refl _ _|with_reducible refine Below.drew ?_)) (g5.mono (Je _));clear g5;have k3:w1.heap[t8]? =Y.heap[t8]?:=e6.block _ f9)
       |(go_at_call 19;refine(e7.out _ (d.out.1.below (by repeat' (first|with_reducible exact e6|with_reducible refine Below.drew ?_)))).mono ?_;rintro e w2 ⟨rfl,a4,b1⟩;have c9:SlvTo Y w2 K:=SlvTo.trans (SlvTo.of_below (show Below Y.heap.size Y _ from by repeat' (first|with_reducible exact e6|with_reducible refine Below.drew ?_))) b1;have k2:w2.heap[t8]? =Y.heap[t8]?:=c9.block _ f9 d.out.2.2.2.1 d.out.2.2.2.2.1 d.out.2.2.2.2.2;have H2:=Ja (Jb a4 c9);clear a4 b1 c9)))
    all_goals clear z0 z1 z2 z3 z4 z5
    all_goals go_wp2_with fail
    all_goals (
     go_roundw
     case rel=>exact⟨j+1,s2,_,a2.out,by first|rfl|(cases c<;>rfl),by go_num,Ja ⟨by rw[ti HO.out.1,g.out.1];unfold opS;rw[if_pos HQ.out.2.2];unfold tg;rw[show rk p (s',c).1 o=a from HQ.out.2.1,HQ.out.1];first|rw[Bool.or_true]|rw[Bool.or_false],H2.out.1.below (by first|exact Below.refl _ _|exact(Below.refl _ _).drew),d.out.2.1.trans (H2.out.2.trans (SlvTo.of_below (by first|exact Below.refl _ _|exact(Below.refl _ _).drew)))⟩⟩
     case measure=>(try have h1:=a2.out);(try have h2:=b4.out);simp[intOf];omega)
   ·have j1:decide (0<=o.res)=false:=decide_eq_false hr;go_quiet (fail);go_wp2;go_roundw
    case rel=>exact⟨j+1,s',c,a2.out,rfl,by go_num,Ja ⟨by rw[ti HO.out.1,g.out.1];unfold opS;rw[if_neg hr],d.out.1.below (by first|exact Below.refl _ _|exact yC (Below.refl _ _)),d.out.2.1.trans (SlvTo.of_below (by first|exact Below.refl _ _|exact yC (Below.refl _ _)))⟩⟩
    case measure=>(try have h1:=a2.out);(try have h2:=b4.out);simp[intOf];omega
  ·obtain rfl:j=bx.ops.length:=by omega
   have b8:¬(bx.ops.length:Int)<(bx.ops.length:Int):=Zo;have f1:=g.out.2.2.blk y.out.2.2.1 y.out.2.2.2.2.2.2.1 (by rw[<-f3];exact HW.out.1.fresh (Je _));have d4:O wr t6 4 (.slice ta bx.term.to.length tc):=zA f1 rfl;have HF:=Ja (show bx.ops.foldl (opS p k) (s,false)=(s',c) by have:=g.out.1;rw[Nl] at this;exact this);have e8:=Ja g.out.2;clear f1 hj u g;go_wp2;clear d4
   go_loopw [5,45] (fun cv jv wx=>∃(j:Nat) (s2:Slv) (c2:Bool),j<=bx.term.to.length/\cv=.bool c2/\jv=I j/\Hid ((bx.term.to.take j).foldl (afR f k) (s',c)=(s2,c2)/\SlvAt wx K p f k s2/\SlvTo X wx K)) (fun _ jv _=>bx.term.to.length-(intOf jv).toNat)
   case atStart=>exact⟨0,s',c,Jt _,rfl,rfl,Ja ⟨rfl,e8.out.1,e8.out.2⟩⟩
   case round=>
    clear e8;obtain⟨j,s2,c2,hj,rfl,rfl,g⟩:=hrel
    by_cases u:j<bx.term.to.length
    ·have b8:(j:Int)<(bx.term.to.length:Int):=Zo;obtain⟨e,he⟩:∃e,bx.term.to[j]? =some e:=⟨_,Jd u⟩
     have q:Below K.B X wr:=y.out.1.keepB g.out.2.2;obtain⟨qb,qo,d3,b2,e0,a9,av,e1,a6⟩:=(y.out.2.2.2.2.1.below xL q).get he;obtain⟨aa,ac,rfl,k7,o0⟩:=a6.form;have o1:e.args.length<=9223372036854775807:=Zo;subst d3;have d2:qb<wr.heap.size:=Jy b2 (Jn y.out.2.2.2.2.2.2.2 (Jn (Qd y.out.2.2.2.2.2.2.1) q.size));obtain⟨Y,hY⟩:∃Y,wr.alloc (U #[I e.block,.slice aa e.args.length ac] 93)=Y:=⟨_,rfl⟩
     have a1:Q wr Y:=by rw[<-hY];exact(Below.refl _ _).alloc (Je _) _
     have a3:T Y wr.heap.size #[I e.block,.slice aa e.args.length ac] 93:=by rw[<-hY];exact zI rfl
     have g7:K.B<=wr.heap.size:=Qd (Nat.lt_of_le_of_lt g.out.2.1.lt.1 (lt_of_block g.out.2.1.cell));have d:=Ja (show SlvAt Y K p f k s2/\SlvTo X Y K/\T Y wr.heap.size #[I e.block,.slice aa e.args.length ac] 93/\(wr.heap.size≠K.rb/\wr.heap.size≠K.kb/\wr.heap.size≠K.sb)/\zY Y K.B (.slice aa e.args.length ac) e.args/\wr.heap.size<Y.heap.size from⟨g.out.2.1.below a1,g.out.2.2.trans (SlvTo.of_below a1),a3,g.out.2.1.fresh (Je _),a6.below zO (a1.mono g7),lt_of_block a3⟩);have HO:=Ja (Jb he (HW.out.2.1.tos e (Ji he)));have a2:=Ja u;clear he a9 a6 q a1 a3 u k7 g7;go_upto_region 12 with fail;clear hY e0 e1 d2 b2;obtain⟨t10,g8⟩:∃t10,wr.heap.size=t10:=⟨_,rfl⟩
     rw[g8] at d ⊢;have z1:O Y t10 1 (.slice aa e.args.length ac):=zA d.out.2.2.1 rfl;obtain⟨eb,d7⟩:∃eb:Nat,e.block=eb:=⟨e.block.toNat,by have:=HO.out.2.1;omega⟩
     obtain⟨bq,c5⟩:∃bq,f[eb]? =some bq:=⟨_,Jd (by have:=HO.out.2.1;omega)⟩
     have b9:xz f e.block=bq:=by rw[d7];exact z6 c5
     have b6:=HO.out.2.2;rw[b9] at b6;have n7:eb<f.length:=(Jh.1 c5).1;have HE:=Ja (Jb b6 (Jb b9 c5));have l0:=Ja d7;clear b6 b9 c5 d7;go_wp2;clear z1
     go_loopw [5,52] (fun cv jv wx=>∃(m:Nat) (s3:Slv) (c3:Bool),m<=e.args.length/\cv=.bool c3/\jv=I m/\Hid (((bq.params.zip e.args).take m).foldl (af3 k) (s2,c2)=(s3,c3)/\SlvAt wx K p f k s3/\SlvTo Y wx K)) (fun _ jv _=>e.args.length-(intOf jv).toNat)
     case atStart=>exact⟨0,s2,c2,Jt _,rfl,rfl,Ja ⟨rfl,d.out.1,SlvTo.refl _ _⟩⟩
     case round=>
      obtain⟨m,s3,c3,hm,rfl,rfl,l⟩:=hrel
      by_cases b3:m<e.args.length
      ·have k1:(m:Int)<(e.args.length:Int):=Zo;obtain⟨x,hx⟩:∃x,e.args[m]? =some x:=⟨_,Jd b3⟩
       obtain⟨v,hv⟩:∃v,bq.params[m]? =some v:=⟨_,Jd (by rw[<-HE.out.1.1];exact b3)⟩
       have hz:(bq.params.zip e.args)[m]? =some (v,x):=List.getElem?_zip_eq_some.2 ⟨hv,hx⟩;have f0:=HE.out.1.2.1 x (Ji hx);have h8:=HE.out.1.2.2 v (Ji hv);have q:Below K.B Y wr:=d.out.1.keepB l.out.2.2;obtain⟨xb,xo,h6,h7,xc,_⟩:=(d.out.2.2.2.2.1.below zO q).get hx;subst h6;have d8:=l.out.2.1.blks;rw[HW.out.2.2.2] at d8;obtain⟨ub,uo,f2,i0,_,_,_,pv,_,_,u0,_,_,a0,_,_⟩:=d8.get HE.out.2.2;simp only[Option.some.injEq,Addr.mk.injEq,and_true] at f2;obtain⟨rfl,rfl⟩:=f2;obtain⟨ya,yc,rfl,h3,l2⟩:=a0.form;obtain⟨yb,yo,h4,h5,y0,_⟩:=a0.get hv;subst h4;rw[Nk] at xc y0;obtain⟨xn,rfl⟩:∃xn:Nat,x=xn:=⟨x.toNat,by omega⟩
       obtain⟨vn,rfl⟩:∃vn:Nat,v=vn:=⟨v.toNat,by omega⟩
       obtain⟨r0,r1⟩:=l.out.2.1.rcell f0;rw[Ni] at r0 r1;obtain⟨a,ha⟩:∃a,s3.get (xn:Int)=a:=⟨_,rfl⟩
       rw[ha] at r0 r1;have t:a.ok:=by rw[<-ha];exact l.out.2.1.oks.get _
       obtain⟨s4,r,hq⟩:∃s4 r,setF k s3 (vn:Int) a=(s4,r):=⟨_,_,rfl⟩
       have h9:vn<K.n:=Zo;have l3:xn<K.n:=Zo
       have e7:=Ja (show ∀W,SlvAt W K p f k s3->A 19 #[G K.sb,I vn,.agg #[M (a.lo:Int),M (a.hi:Int)]] W (re W K p f k (s4,r)) from fun W hb=>by
        have:=aw hb h9 t (kr t (hb.oks.get _));rw[hq] at this
        exact this)
       have f5:bq.params.length=e.args.length:=HE.out.1.1.symm;have c6:=l.out.2.1.cells.2.2.2.2.2;rw[HW.out.2.2.2] at c6;have c8:=l.out.2.1.cells.2.2.1;have d6:=l.out.2.2.blk d.out.2.2.1 d.out.2.2.2.2.2 d.out.2.2.2.1;have z0:O wr t10 0 (I eb):=by rw[<-l0.out];exact zA d6 rfl
       have n3:=l.out.2.1.n64;have m8:m<bq.params.length:=Zo;have HQ:=Ja (Jb hq (Jb ha (Jb hz f5)));have i8:=lt_of_block l.out.2.1.cell;have a4:=lt_of_block l.out.2.1.row;have o2:K.B<=wr.heap.size:=Qd (Nat.lt_of_le_of_lt l.out.2.1.lt.1 i8);have m4:xb<wr.heap.size:=Zo;have m3:bb<wr.heap.size:=Zo;have m2:yb<wr.heap.size:=Zo;have b4:=Ja b3;clear hq ha hz hx hv f5 d8 a0 q d6 h3 t f0 h8 h7 i0 h5 b3;go_upto_region 15 with fail;refine zt 21 Zk Zk ?_;simp only[Qo,Uc,Qp,Ui]
       repeat (go_big_quiet_step (fail))
       refine wpQuiet_nil ?_;clear z0 c6 c8 y0 u0 xc r0 r1;cases r
       all_goals go_wp2_with (go_at_call 19;go_must (refine(e7.out _ (l.out.2.1.below (Below.refl _ _).drew)).mono ?_;rintro e w2 ⟨rfl,a4,b1⟩;have H2:=Ja (Jb a4 ((SlvTo.of_below (Below.refl wr.heap.size wr).drew).trans b1));clear a4 b1))
       all_goals (
        go_roundw
        case rel=>exact⟨m+1,s4,_,b4.out,by first|rfl|(cases c3<;>rfl),by go_num,Ja ⟨by rw[ti HQ.out.2.2.1,l.out.1];unfold af3 tg;rw[show(s3,c3).1.get ((vn:Int),(xn:Int)).2=a from HQ.out.2.1,HQ.out.1];first|rw[Bool.or_true]|rw[Bool.or_false],H2.out.1.below (by first|exact Below.refl _ _|exact(Below.refl _ _).drew),l.out.2.2.trans (H2.out.2.trans (SlvTo.of_below (by first|exact Below.refl _ _|exact(Below.refl _ _).drew)))⟩⟩
        case measure=>(try have h1:=a2.out);(try have h2:=b4.out);simp[intOf];omega)
      ·obtain rfl:m=e.args.length:=by omega
       have k1:¬(e.args.length:Int)<(e.args.length:Int):=Zo;clear hm b3;go_wp2;go_roundw
       case rel=>
        refine⟨j+1,s3,c3,a2.out,rfl,by go_num,Ja ⟨?_,l.out.2.1,d.out.2.1.trans l.out.2.2⟩⟩;rw[ti HO.out.1,g.out.1];unfold afR;rw[HE.out.2.1,<-l.out.1,Oy (by rw[List.length_zip,HE.out.1.1];omega)]
       case measure=>(try have h1:=a2.out);(try have h2:=b4.out);simp[intOf];omega
    ·obtain rfl:j=bx.term.to.length:=by omega
     have b8:¬(bx.term.to.length:Int)<(bx.term.to.length:Int):=Zo;clear hj u;go_wp2;go_ret
     have h0:dl p f k (s,false) bx=(s2,c2):=by
      unfold dl;rw[HF.out,<-g.out.1,Nl]
     rw[h0];exact⟨rfl,g.out.2.1,y.out.2.1.trans g.out.2.2⟩
def NilRet (w:World)(e:Ending)(w':World):Prop:=e=.returned (F)/\Q w w'
theorem afa{B:Nat}{V:PV}{p:IProg}(hp:ProgIn w B V p)(j:B<=w.heap.size)(hs:∀f∈p.funcs,vZ f)(hv:vC p=0)(f:Nat)(hf:p.funcs[f]? =some []):
 A 8 #[yH V p,I f] w (NilRet w):=by
 have o:∀W,Q w W->A 16 #[yH V p] W (m9 W 0):=fun W hb=>by
  have:=tu (hp.below (hb.mono j)) (Jn j hb.size) hs;rw[hv] at this;exact this
 have a9:=(Jh.1 hf).1;have a1:decide ((f:Int)<0)=false:=decide_eq_false Zo;have a0:decide ((p.funcs.length:Int)<=(f:Int))=false:=decide_eq_false Zo;have y:decide (p.funcs.length<=f)=false:=decide_eq_false Zo;obtain⟨Vf,Va,Vd,Vb⟩:=V;obtain⟨f1,f2,e1,b1,b0⟩:=hp.funcs.form;have u:Vf=.slice f1 p.funcs.length f2:=e1;subst u;obtain⟨X,t⟩:∃X,w.alloc (U #[.slice f1 p.funcs.length f2,Va,I p.entry,I p.handler,Vd,Vb] 44)=X:=⟨_,rfl⟩;have d:Q w X:=by rw[<-t];exact(Below.refl _ _).alloc (Je _) _
 have c:T X w.heap.size #[.slice f1 p.funcs.length f2,Va,I p.entry,I p.handler,Vd,Vb] 44:=by rw[<-t];exact zI rfl
 have x:=Ja (show ∀W,Q X W->A 16 #[.agg #[.slice f1 p.funcs.length f2,Va,I p.entry,I p.handler,Vd,Vb]] W (m9 W 0) from fun W hb=>o W (d.trans (hb.mono d.size)));obtain⟨gb,go,rfl,l,bv,g0,m⟩:=hp.funcs.get hf;obtain⟨ka,kc,rfl,a5,a4⟩:=m.form;rw[Nk] at g0;have HG:=Ja (show ∀W,Q w W->O W gb (go+f) (.slice ka 0 kc) from fun W hb=>zV (hb.mono j) l g0);have a6:gb<w.heap.size:=Zo;have x0:=zA (i:=0) c rfl;have x1:=zA (i:=1) c rfl;have x2:=zA (i:=2) c rfl;have x3:=zA (i:=3) c rfl;have x4:=zA (i:=4) c rfl;have x5:=zA (i:=5) c rfl;have q:=lt_of_block c;have h:=Ja (Jb d c);clear d c;clear hp j hs hv o hf g0 m l;unfold yH;go_enter Try.func8,Try.ntmps8;go_wp2_with fail
 go_step3
 go_wp2_with (go_at_call 16;go_must (refine(x.out _ (Below.refl _ _)).mono ?_;rintro e w1 ⟨rfl,g⟩;have k:=zH g h.out.2 q;have y0:=zA (i:=0) k rfl;have yg:=HG.out w1 (h.out.1.trans (g.mono h.out.1.size));have a3:=lt_of_block k;have a2:gb<w1.heap.size:=by omega))
 try rw[Exit.noGoto_ret]
 go_ret;exact⟨rfl,h.out.1.trans (g.mono h.out.1.size)⟩
end Go.Proofs.Ytoahcpkibpomcaa
