/- Part of a proof. -/
import Derived.Test.YtoahcpkibpomcaaGreatMkX
set_option linter.all false
set_option maxHeartbeats 16000000
set_option maxRecDepth 100000
namespace Go.Proofs.YtoahcpkibpomcaaGreat
open Go.RowKit
variable {a2 b2 c d2 f2 j k m ob t2:Nat}{u:Value}{W w wx:World}{d:wO}{i x:Int}{bl:List IBlk}{l:List IOp}{o:IOp}{ns o1 o2 xs:List Nat}{K:SK}{t:Slv}{oc pc:Array Value}{a1 b1 d1 f1:Option Addr}
theorem iI{α:Type}{f:α->List Value}{n:Nat}(hf:∀a,(f a).length=n){l:List α}{b a:α}(hk:l[k]? =some b)(d:j<n)(g:(f b).set j u=f a):(l.flatMap f).set (k*n+j) u=(l.set k a).flatMap f:=by
 have c:=(Jh.1 hk).1;have hb:l[k]=b:=(Jh.1 hk).2
 have e1:l=l.take k++b::l.drop (k+1):=by
  rw[<-hb,Ue,Qi]
 have hl:(l.take k).length=k:=by simp;omega
 have e2:l.set k a=l.take k++a::l.drop (k+1):=by
  rw[List.set_eq_take_append_cons_drop,if_pos c]
 have e3:l.flatMap f=(l.take k).flatMap f++(f b++(l.drop (k+1)).flatMap f):=by
  conv=>lhs;rw[e1]
  rw[Nx,Qa]
 have h:((l.take k).flatMap f).length=k*n:=by rw[aeS f n hf,hl]
 rw[e2,e3,Nx,Qa,Uj _ _ Zo,h,Nat.add_sub_cancel_left,List.set_append_left _ _ (by rw[hf];exact d),g]
theorem yp{α:Type}{f:α->List Value}{n:Nat}{base g:Nat}{e:TypeId}{v:Value}{l:List α}{b a:α}(hf:∀a,(f a).length=n)(h:w.ownsRow base e n v l.length (l.flatMap f))(hg:v.ownBlock=some g)(hk:l[k]? =some b)(d:j<n)(i:(f b).set j u=f a):
 (w.setCell ⟨g,k*n+j,none⟩ u).ownsRow base e n v l.length ((l.set k a).flatMap f):=by
 refine⟨by rw[aeS f n hf,Nd],?_⟩;rcases h.2 with⟨rfl,_⟩|⟨g',c,cur,rfl,h1,h2,h3,t,o,m⟩
 ·simp[Value.ownBlock] at hg
 ·simp[Value.ownBlock] at hg;subst hg;refine .inr ⟨g',c,_,rfl,h1,zD h2 u,h3,t,by simpa using o,?_⟩;rw[Array.toList_setIfInBounds,List.take_set,m];exact iI hf hk d i
def aq (N:Nat)(b:IBlk):Prop:=(∀x∈b.params,0<=x/\x.toNat<N)/\(∀o∈b.ops,cS N o/\(0<=o.res->o.res.toNat<N))/\∀x∈mE b.term,0<=x/\x.toNat<N
structure UseProg (p:IProg):Prop where
 sz:∀bl∈p.funcs,vZ bl
 cnt:∀bl∈p.funcs,0<=aaG bl/\aaG bl<=65536
 blk:∀bl∈p.funcs,∀b∈bl,aq (aaG bl).toNat b
theorem bR{d':wO}{v k:Int}(h:rB d v i k=some d'):(0<=v/\v<=65535)/\∀x,(d'.1 x).isSome=true->(d.1 x).isSome=true∨x=v:=by
 unfold rB at h
 split at h
 ·cases h
 ·rename_i c
  cases h;refine⟨by omega,fun x hx=>?_⟩
  change (lS d.1 v i x).isSome=true at hx
  unfold lS at hx
  by_cases e:x=v
  ·exact .inr e
  ·rw[if_neg e] at hx;exact .inl hx
theorem cL:∀(l:List Int) (d d':wO),vJ i l d=some d'->(∀v∈l,0<=v/\v<=65535)/\∀x,(d'.1 x).isSome=true->(d.1 x).isSome=true∨x∈l
 | [],d,d',h=>by cases h;exact⟨(fun v hv=>by cases hv),fun x hx=> .inl hx⟩
 |v::l,d,d',h=>by
  unfold vJ at h
  cases h1:rB d v i (-1) with
  |none=>rw[h1] at h;cases h
  |some d1=>
   rw[h1,Nw] at h;obtain⟨k1,k2⟩:=bR h1;obtain⟨k3,k4⟩:=cL l d1 d' h;refine⟨fun x hx=>?_,fun x hx=>?_⟩
   ·rcases Jq.1 hx with rfl|hx
    ·exact k1
    ·exact k3 x hx
   ·rcases k4 x hx with h2|h2
    ·rcases k2 x h2 with h3|rfl
     ·exact .inl h3
     ·exact .inr (List.mem_cons_self ..)
    ·exact .inr (List.mem_cons_of_mem _ h2)
theorem bN{p:IProg}:∀(l:List IOp) (k:Int) (d d':wO),sS p i l k d=some d'->(∀o∈l,-1<=o.res/\o.res<=65535)/\∀x,(d'.1 x).isSome=true->(d.1 x).isSome=true∨∃o∈l,o.res=x/\0<=x
 | [],k,d,d',h=>by cases h;exact⟨(fun v hv=>by cases hv),fun x hx=> .inl hx⟩
 |o::l,k,d,d',h=>by
  rw[dG] at h
  cases h1:ug p i k o d with
  |none=>rw[h1] at h;cases h
  |some d1=>
   rw[h1,Nw] at h;obtain⟨k3,k4⟩:=bN l (k+1) d1 d' h
   have hs:(-1<=o.res/\o.res<=65535)/\∀x,(d1.1 x).isSome=true->(d.1 x).isSome=true∨(o.res=x/\0<=x):=by
    unfold ug at h1
    split at h1
    ·rename_i hf
     have:=ct hf
     split at h1
     ·rename_i c
      obtain⟨k1,k2⟩:=bR h1;refine⟨by omega,fun x hx=>?_⟩;rcases k2 x hx with h3|rfl
      ·exact .inl h3
      ·exact .inr ⟨rfl,c⟩
     ·cases h1;exact⟨by omega,fun x hx=> .inl hx⟩
    ·cases h1
   refine⟨fun x hx=>?_,fun x hx=>?_⟩
   ·rcases Jq.1 hx with rfl|hx
    ·exact hs.1
    ·exact k3 x hx
   ·rcases k4 x hx with h2|⟨o',h2,h3⟩
    ·rcases hs.2 x h2 with h3|h3
     ·exact .inl h3
     ·exact .inr ⟨o,List.mem_cons_self ..,h3⟩
    ·exact .inr ⟨o',List.mem_cons_of_mem _ h2,h3⟩
def aku (l:List IBlk)(x:Int):Prop:=∃b∈l,x∈b.params∨∃o∈b.ops,o.res=x/\0<=x
def bC (l:List IBlk):Prop:=∀b∈l,(∀v∈b.params,0<=v/\v<=65535)/\∀o∈b.ops,-1<=o.res/\o.res<=65535
theorem cP{p:IProg}:∀(l:List IBlk) (i:Int) (d d':wO),uH p bl l i d=some d'->bC l/\∀x,(d'.1 x).isSome=true->(d.1 x).isSome=true∨aku l x
 | [],i,d,d',h=>by cases h;exact⟨(fun v hv=>by cases hv),fun x hx=> .inl hx⟩
 |b::l,i,d,d',h=>by
  unfold uH at h
  cases h1:pS p bl i b d with
  |none=>rw[h1] at h;cases h
  |some d1=>
   rw[h1,Nw] at h;obtain⟨_,d2,h2,h3⟩:=nF h1;obtain⟨k1,k2⟩:=cL _ _ _ h2;obtain⟨k3,k4⟩:=bN _ _ _ _ h3;obtain⟨k5,k6⟩:=cP l (i+1) d1 d' h;refine⟨fun x hx=>?_,fun x hx=>?_⟩
   ·rcases Jq.1 hx with rfl|hx
    ·exact⟨k1,k3⟩
    ·exact k5 x hx
   ·rcases k6 x hx with j|⟨b',j,c⟩
    ·rcases k4 x j with c|c
     ·rcases k2 x c with g|g
      ·exact .inl g
      ·exact .inr ⟨b,List.mem_cons_self ..,.inl g⟩
     ·exact .inr ⟨b,List.mem_cons_self ..,.inr c⟩
    ·exact .inr ⟨b',List.mem_cons_of_mem _ j,c⟩
theorem ak {N:Int}(l:List Int):∀(n:Int),n<=N->(∀v∈l,cG v<=N)->qK n l<=N:=by
 induction l with
 |nil=>intro n h _;exact h
 |cons x l ih=>
  intro n h hl;have e:qK n (x::l)=qK (max n (cG x)) l:=rfl;rw[e];have:=hl x (List.mem_cons_self ..);exact ih _ Zo (fun v hv=>hl v (List.mem_cons_of_mem _ hv))
theorem aaf {N:Int}(l:List IOp):∀(n:Int),n<=N->(∀o∈l,cG o.res<=N)->o8 n l<=N:=by
 induction l with
 |nil=>intro n h _;exact h
 |cons x l ih=>
  intro n h hl;have e:o8 n (x::l)=o8 (max n (cG x.res)) l:=rfl;rw[e];have:=hl x (List.mem_cons_self ..);exact ih _ Zo (fun v hv=>hl v (List.mem_cons_of_mem _ hv))
theorem ahx {N:Int}(l:List IBlk):∀(n:Int),n<=N->(∀b∈l,(∀v∈b.params,cG v<=N)/\∀o∈b.ops,cG o.res<=N)->l.foldl iL n<=N:=by
 induction l with
 |nil=>intro n h _;exact h
 |cons x l ih=>
  intro n h hl;rw[Qk];have h1:=hl x (List.mem_cons_self ..);exact ih _ (aaf _ _ (ak _ _ h h1.1) h1.2) (fun b hb=>hl b (List.mem_cons_of_mem _ hb))
theorem bD(h:bC bl):0<=aaG bl/\aaG bl<=65536:=by
 refine⟨bO bl,ahx bl 0 Zo fun b hb=>⟨fun v hv=>?_,fun o ho=>?_⟩⟩
 ·have:=(h b hb).1 v hv;rw[aaY Zo Zo];omega
 ·have:=(h b hb).2 o ho;rw[aaY Zo Zo];omega
theorem dY(h:bC bl)(c:aku bl x):0<=x/\x.toNat<(aaG bl).toNat:=by
 obtain⟨b,hb,h1⟩:=c;have hg:=(ahB bl 0).2 b hb;have hs:=h b hb;have e:bl.foldl iL 0=aaG bl:=rfl;rw[e] at hg;rcases h1 with h1|⟨o,ho,rfl,d⟩
 ·have:=hg.1 x h1;have:=hs.1 x h1;rw[aaY Zo Zo] at *;omega
 ·have:=hg.2 o ho;have:=hs.2 o ho;rw[aaY Zo Zo] at *;omega
theorem dd{g:List (List Nat)}{k v:Int}(h:yy d g i k v=true):(d.1 v).isSome=true:=by
 cases h1:d.1 v with
 |none=>rw[dC h1] at h;cases h
 |some b=>rfl
theorem dw{p:IProg}{n:Nat}(i:p.funcs[n]? =some bl)(h:yi p n=true):(0<=aaG bl/\aaG bl<=65536)/\∀b∈bl,aq (aaG bl).toNat b:=by
 cases bl with
 |nil=>exact⟨⟨by decide,by decide⟩,fun b hb=>by cases hb⟩
 |cons b0 bs=>
  obtain⟨_,d,m,hr⟩:=tF i h;obtain⟨k1,k2⟩:=cP (b0::bs) 0 _ d (show uH p (b0::bs) (b0::bs) 0 _=some d from m)
  have g:∀x,(d.1 x).isSome=true->0<=x/\x.toNat<(aaG (b0::bs)).toNat:=fun x hx=>by
   rcases k2 x hx with h1|h1
   ·cases h1
   ·exact dY k1 h1
  refine⟨bD k1,fun b hb=>?_⟩;obtain⟨j,l⟩:=Ny hb;unfold iM at hr;rw[Jm] at hr;have c:=(cB _ 0).1 hr.2 j b l;unfold aaC at c;rw[Jm] at c;refine⟨fun x hx=>dY k1 ⟨b,hb,.inl hx⟩,fun o ho=>⟨fun x hx=>?_,fun h0=>(dY k1 ⟨b,hb,.inr ⟨o,ho,rfl,h0⟩⟩).2⟩,fun x hx=>?_⟩
  ·obtain⟨k,hk⟩:=Ny ho;exact g x (dd (Oe.1 ((dF _ 0).1 c.1 k o hk) x hx))
  ·exact g x (dd (Oe.1 c.2 x hx))
theorem aM {p:IProg}(h:vC p=0)(hs:∀f∈p.funcs,vZ f):UseProg p:=by
 obtain⟨_,hf⟩:=rz h
 have c:∀bl∈p.funcs,(0<=aaG bl/\aaG bl<=65536)/\∀b∈bl,aq (aaG bl).toNat b:=fun bl hb=>by
  obtain⟨n,d⟩:=Ny hb;exact dw d (hf n (Jh.1 d).1)
 exact⟨hs,fun bl hb=>(c bl hb).1,fun bl hb=>(c bl hb).2⟩
def ak4 (bl:List IBlk):List IOp:=(bl.flatMap (·.ops)).filter gw
def agj (o:IOp):Int:=if o.code=18∨o.code=20 then 2 else 1
def ae6:List IObj->Int->Rg->Int->Int
 | [],_,_,_=>-1
 |o::os,k,a,n=>if o.bank=-1/\o.addr<=a.lo/\(a.hi:Int)+n<=(o.addr:Int)+o.size then k else ae6 os (k+1) a n
def afL (data:List IObj)(R:List Rg)(o:IOp):Int:=ae6 data 0 (R.getD o.a.toNat ⟨0,0⟩) (agj o)
def ae9 (data:List IObj)(R:List Rg)(bl:List IBlk):List Int:=(ak4 bl).map (afL data R)
theorem afz:∀(l:List IObj) (k:Nat) (a:Rg) (n:Int),ae6 l k a n=-1∨∃j:Nat,j<l.length/\ae6 l k a n=((k+j:Nat):Int)/\(l.getD j ⟨0,0,0⟩).bank=-1/\(l.getD j ⟨0,0,0⟩).addr<=a.lo/\(a.hi:Int)+n<=((l.getD j ⟨0,0,0⟩).addr:Int)+(l.getD j ⟨0,0,0⟩).size
 | [],k,a,n=> .inl rfl
 |o::os,k,a,n=>by
  unfold ae6
  split
  ·rename_i h
   exact .inr ⟨0,Nat.succ_pos _,rfl,h.1,h.2.1,h.2.2⟩
  ·have:=afz os (k+1) a n;rw[show((k+1:Nat):Int)=(k:Int)+1 by omega] at this;rcases this with h|⟨j,h1,h2,h3⟩
   ·exact .inl h
   ·exact .inr ⟨j+1,Nat.succ_lt_succ h1,by rw[h2];congr 1;omega,h3⟩
def fnT (p:IProg)(bl:List IBlk):Slv:=akV p bl (vD (zy bl)) 0 (agP (aaG bl).toNat (xz bl (0:Nat)).params)
def p6 (p:IProg)(bl:List IBlk):List Rg:=afG (fnT p bl)
structure FnS (p:IProg) (bl:List IBlk):Prop where
 st:StF p bl
 cnt:0<=aaG bl/\aaG bl<=65536
 rng:∀i:Nat,i<bl.length->(∀x∈(xz bl i).params,0<=x/\x.toNat<(aaG bl).toNat)/\∀o∈(xz bl i).ops,cS (aaG bl).toNat o/\(0<=o.res->o.res.toNat<(aaG bl).toNat)
 num:∀i:Nat,i<bl.length->∀o∈(xz bl i).ops,o.n<65536
theorem FnS.sol{p:IProg}(h:FnS p bl):∀i:Nat,i<bl.length->aeX (aaG bl).toNat bl (xz bl i):=fun i hi=>by
 refine⟨fun o ho h0=>⟨(h.rng i hi).2 o ho|>.2 h0,?_,fun _=>h.num i hi o ho⟩,fun e he x hx=>?_⟩
 ·have:=(ajc (h.st.opok i hi o ho)).1;omega
 ·have c:=h.st.trm i hi;unfold aw at c;rw[Jm,Oe] at c;have d:=c.1 e he;unfold uM at d;simp only[Jm,decide_eq_true_eq] at d;have:=(h.rng e.block.toNat Zo).1;rw[show((e.block.toNat:Nat):Int)=e.block by omega] at this;exact(this x hx).2
theorem FnS.ord{p:IProg}(h:FnS p bl)(i:Nat):i∈vD (zy bl)↔i<bl.length:=by
 obtain⟨ns,d⟩:=adR h.st.vg;rw[d.eq];constructor
 ·intro c;have:=d.lt i c
  rwa [xu] at this
 ·intro c;exact(d.mem i).2 (h.st.all i c)
theorem FnS.pos{p:IProg}(h:FnS p bl):0<bl.length:=by have:=h.st.vg.1;rwa [xu] at this
theorem FnS.end{p:IProg}(h:FnS p bl):EndOk p (aaG bl).toNat bl (vD (zy bl)) (agP (aaG bl).toNat (xz bl (0:Nat)).params) (fnT p bl):=
 end_ok' (fun i hi=>h.sol i ((h.ord i).1 hi)) (start_ok fun v hv=>((h.rng 0 h.pos).1 v hv).2)
theorem ai8{p:IProg}(hv:vC p=0)(hs:∀f∈p.funcs,vZ f)(h64:P64 p){n:Nat}(c:p.funcs[n]? =some bl)(j:bl≠ []):FnS p bl:=by
 obtain⟨_,hf⟩:=rz hv;have d:=Ji c;obtain⟨h,g⟩:=dw c (hf n (Jh.1 c).1);refine⟨stF_of c j (hf n (Jh.1 c).1),h,fun i hi=>?_,fun i hi o ho=>?_⟩
 ·obtain⟨b,hb⟩:∃b,bl[i]? =some b:=⟨_,Jd hi⟩
  rw[vt hb];have:=g b (Ji hb);exact⟨this.1,this.2.1⟩
 ·obtain⟨b,hb⟩:∃b,bl[i]? =some b:=⟨_,Jd hi⟩
  rw[vt hb] at ho;exact((h64.funcs bl d b (Ji hb)).ops o ho).1.2.2.2.2
theorem uJ{V:PV}{p:IProg}(hp:ProgIn w w.heap.size V p)(hs:SmallP p):
 I 18 #[yH V p] w (fun e w'=>∃(t:PT) (fa:Option Addr) (fc:Nat) (aa:Option Addr) (ac:Nat) (da:Option Addr) (dc:Nat) (ba:Option Addr) (bc:Nat),e=.returned (.agg (D p fa fc aa ac da dc ba bc))/\
  (t.fv=.slice fa p.funcs.length fc/\t.av=.slice aa p.args.length ac/\t.dv=.slice da p.data.length dc/\t.bv=.slice ba p.banks.length bc)/\t.prog=p/\Rows w' w.heap.size t.rows/\Y w w'):=by
 refine(own_any hp hs).mono ?_;rintro e w' ⟨t,rfl,ht,hr,hb⟩;have e1:t.funcs.length=p.funcs.length:=by rw[<-ht];unfold PT.prog;simp
 have e2:t.args.length=p.args.length:=by rw[<-ht];rfl
 have e3:t.data.length=p.data.length:=by rw[<-ht];rfl
 have e4:t.banks.length=p.banks.length:=by rw[<-ht];rfl
 obtain⟨fa,fc,h1⟩:=zG (hr.own (wY t.fv t.funcs) (.head _));obtain⟨aa,ac,h2⟩:=zG (hr.own (zP t.av t.args) (.tail _ (.head _)));obtain⟨da,dc,h3⟩:=zG (hr.own (vK t.dv t.data) (.tail _ (.tail _ (.head _))));obtain⟨ba,bc,i⟩:=zG (hr.own (v8 t.bv t.banks) (.tail _ (.tail _ (.tail _ (.head _)))));have h:t.fv=.slice fa p.funcs.length fc:=by rw[<-e1];exact h1
 have g:t.av=.slice aa p.args.length ac:=by rw[<-e2];exact h2
 have d:t.dv=.slice da p.data.length dc:=by rw[<-e3];exact h3
 have c:t.bv=.slice ba p.banks.length bc:=by rw[<-e4];exact i
 refine⟨t,fa,fc,aa,ac,da,dc,ba,bc,?_,⟨h,g,d,c⟩,ht,hr,hb⟩;unfold yH PT.V;simp only;rw[h,g,d,c]
def objT (o:IObj)(a:Rg)(n:Int):Prop:=o.bank=-1/\o.addr<=a.lo/\(a.hi:Int)+n<=(o.addr:Int)+o.size
theorem objGo_at{l:List IObj}{o:IObj}(h:l[k]? =some o)(a:Rg)(n:Int):(objT o a n->ae6 (l.drop k) k a n=k)/\(¬objT o a n->ae6 (l.drop k) k a n=ae6 (l.drop (k+1)) (k+1:Nat) a n):=by
 have hk:=(Jh.1 h).1;have c:l.drop k=o::l.drop (k+1):=by rw[Qn hk,(Jh.1 h).2]
 rw[c,show((k+1:Nat):Int)=(k:Int)+1 by omega];rw[ae6];constructor
 ·intro ht;exact if_pos ht
 ·intro ht;exact if_neg ht
theorem ajv{B:Nat}{V:PV}{p:IProg}(hp:ProgIn w B V p)(hB:B<=w.heap.size){a:Rg}(ha:a.ok)(n:Int)(hn:0<=n/\n<=2):
 I 43 #[yH V p,.agg #[O (a.lo:Int),O (a.hi:Int)],U n] w (afl w (ae6 p.data 0 a n)):=by
 obtain⟨Vf,Va,Vd,Vb⟩:=V;obtain⟨da,dc,e3,b5,b4⟩:=hp.data.form;have a4:=hp.data;have b0:Vd=.slice da p.data.length dc:=e3;subst b0;have b6:=ha.1;have b7:=ha.2;have b3:=hn.1;have b2:=hn.2;obtain⟨G,hG⟩:∃G,ae6 p.data 0 a n=G:=⟨_,rfl⟩
 rw[hG];have HG:=Ja hG;unfold yH;obtain⟨X,hX⟩:∃X,(w.alloc (.cells #[Vf,Va,U p.entry,U p.handler,.slice da p.data.length dc,Vb] 29)).alloc (.cells #[O (a.lo:Int),O (a.hi:Int)] 45)=X:=⟨_,rfl⟩
 have l:Y w X:=by rw[<-hX];exact((Below.refl _ _).alloc (Je _) _).alloc Zs _
 have a1:Q X w.heap.size #[Vf,Va,U p.entry,U p.handler,.slice da p.data.length dc,Vb] 29:=by rw[<-hX];exact zB (zI rfl)
 have a0:Q X (w.heap.size+1) #[O (a.lo:Int),O (a.hi:Int)] 45:=by rw[<-hX];exact zI Zs
 have g:=Ja (show Y w X/\Q X w.heap.size #[Vf,Va,U p.entry,U p.handler,.slice da p.data.length dc,Vb] 29/\Q X (w.heap.size+1) #[O (a.lo:Int),O (a.hi:Int)] 45/\kq X B (.slice da p.data.length dc) p.data/\B<=X.heap.size from⟨l,a1,a0,a4.below tZ (l.mono hB),Jn hB l.size⟩);clear a4 hp l a1 a0 hG ha hn hB;go_enter Tryz.func43,Tryz.ntmps43;go_upto_region 1 with fail;clear hX;obtain⟨t3,a3⟩:∃t,w.heap.size=t:=⟨_,rfl⟩
 obtain⟨t4,a2⟩:∃t,w.heap.size+1=t:=⟨_,rfl⟩
 have HT:=Ja g.out.1;rw[a2] at g ⊢;rw[a3] at g ⊢;clear a3 a2;have d4:A X t3 4 (.slice da p.data.length dc):=zA g.out.2.1 rfl;go_wp2;clear d4
 go_loopw [12] (fun kv wx=>∃k:Nat,k<=p.data.length/\kv=U k/\Hid (ae6 (p.data.drop k) k a n=G/\Y X wx)) (fun kv _=>p.data.length-(intOf kv).toNat)
 case atStart=>exact⟨0,Jt _,rfl,Ja ⟨HG.out,Below.refl _ _⟩⟩
 case round=>
  obtain⟨k,hk,rfl,c⟩:=hrel;have j:=zH c.out.2 g.out.2.2.1 (lt_of_block g.out.2.2.1);have x0:A wr t4 0 (O (a.lo:Int)):=zA j rfl;have x1:A wr t4 1 (O (a.hi:Int)):=zA j rfl;have b8:=lt_of_block j;clear j
  by_cases y:k<p.data.length
  ·have a6:(k:Int)<(p.data.length:Int):=Zo;obtain⟨o,ho⟩:∃o,p.data[k]? =some o:=⟨_,Jd y⟩
   obtain⟨ob,oq,a7,a5,o0,o1,o2,ob64,oa64,os64⟩:=(g.out.2.2.2.1.below tZ (c.out.2.mono g.out.2.2.2.2)).get ho;subst a7;have b1:ob<wr.heap.size:=Jy a5 (Jn g.out.2.2.2.2 c.out.2.size);have d:=Ja (Jb (objGo_at ho a n) (Jb y ob64));clear ho ob64 y a5;obtain⟨ov,m⟩:∃v,o.bank=v:=⟨_,rfl⟩
   obtain⟨oA,x⟩:∃v,o.addr=v:=⟨_,rfl⟩
   obtain⟨oS,u⟩:∃v,o.size=v:=⟨_,rfl⟩
   have i:=Ja (Jb m (Jb x u));rw[m] at o0;rw[x] at o1 oa64;rw[u] at o2 os64;clear m x u;have hT:∀q:Prop,Decidable q->True:=fun _ _=>trivial
   clear hT
   by_cases h1:ov=-1
   ·by_cases h2:oA<=a.lo
    ·by_cases h3:(a.hi:Int)+n<=(oA:Int)+oS
     ·have h:=Ja ((d.out.1.1 ⟨i.out.1.trans h1,by rw[i.out.2.1];exact h2,by rw[i.out.2.1,i.out.2.2];exact h3⟩).symm.trans c.out.1);subst h1;go_wp2;go_ret;exact⟨by rw[<-h.out];rfl,(HT.out.trans (c.out.2.mono HT.out.size)).trans ((Below.alloc (Below.refl _ _) (Je _) _).mono (Jn HT.out.size c.out.2.size))⟩
     ·have h:=Ja ((d.out.1.2 (fun t=>h3 (by have:=t.2.2;rw[i.out.2.1,i.out.2.2] at this;exact this))).symm.trans c.out.1);subst h1;go_wp2;go_roundw
      case rel=>exact⟨k+1,d.out.2.1,by go_num,Ja ⟨h.out,c.out.2.trans ((Below.alloc (Below.refl _ _) (Je _) _).mono c.out.2.size)⟩⟩
      case measure=>have:=d.out.2.1;simp[intOf];omega
    ·have h:=Ja ((d.out.1.2 (fun t=>h2 (by have:=t.2.1;rw[i.out.2.1] at this;exact this))).symm.trans c.out.1);have b9:a.lo<oA:=Zo;subst h1;clear h2;go_wp2;go_roundw
     case rel=>exact⟨k+1,d.out.2.1,by go_num,Ja ⟨h.out,c.out.2.trans ((Below.alloc (Below.refl _ _) (Je _) _).mono c.out.2.size)⟩⟩
     case measure=>have:=d.out.2.1;simp[intOf];omega
   ·have h:=Ja ((d.out.1.2 (fun t=>h1 (i.out.1.symm.trans t.1))).symm.trans c.out.1);have c0:(ov==(-1:Int))=false:=by simpa using h1
    go_wp2;go_roundw
    case rel=>exact⟨k+1,d.out.2.1,by go_num,Ja ⟨h.out,c.out.2.trans ((Below.alloc (Below.refl _ _) (Je _) _).mono c.out.2.size)⟩⟩
    case measure=>have:=d.out.2.1;simp[intOf];omega
  ·obtain rfl:k=p.data.length:=by omega
   have a6:¬(p.data.length:Int)<(p.data.length:Int):=Zo;have h:=Ja (show(-1:Int)=G by have:=c.out.1;rw[List.drop_length] at this;exact this);go_wp2;go_ret;exact⟨by rw[<-h.out];rfl,HT.out.trans (c.out.2.mono HT.out.size)⟩
def RgsRet (w:World)(l:List Rg)(e:Ending)(w':World):Prop:=∃b,e=.returned (T b l.length l.length)/\Q w' b (l.flatMap pn).toArray 45/\w.heap.size<=b/\Y w w'
theorem use_of{p:IProg}(hv:vC p=0){n:Nat}(c:p.funcs[n]? =some bl):∀b∈bl,aq (aaG bl).toNat b:=
 (dw c ((rz hv).2 n (Jh.1 c).1)).2
theorem aj4 {c:Int}(h:ruG c≠none):(c=3∨c=4∨c=19∨c=23)∨5<=c/\c<=17:=by
 by_cases d:(c=3∨c=4∨c=19∨c=23)∨5<=c/\c<=17
 ·exact d
 ·exfalso;apply h;simp only[ruG,putR]
  iterate 17 rw[if_neg Zo]
theorem blkW_of{p:IProg}(h:FnS p bl)(y:∀b∈bl,aq (aaG bl).toNat b){i:Nat}(hi:i<bl.length):BlkW (aaG bl).toNat p bl (xz bl i):=by
 obtain⟨b,hb⟩:∃b,bl[i]? =some b:=⟨_,Jd hi⟩
 have w:=vt hb;have t:=y b (Ji hb);refine⟨fun o ho h0=>⟨(h.sol i hi).1 o ho,?_,?_⟩,fun e he=>?_⟩
 ·intro h2;have:=(ajc (h.st.opok i hi o ho)).2.1 h2;omega
 ·intro h1 h2 hr;have d:=h.st.opok i hi o ho;have k:=((h.rng i hi).2 o ho).1;have u:=aj4 hr
  have ha:(zi o.code).a=true:=by
   rcases u with(e|e|e|e)|e
   ·rw[e];rfl
   ·rw[e];rfl
   ·rw[e];rfl
   ·rw[e];rfl
   ·unfold zi;rw[if_neg Zo,if_neg Zo,if_pos e]
  have h3:=k.a ha;refine⟨by omega,?_⟩
  by_cases l:(zi o.code).b=true
  ·have:=k.b l;omega
  ·unfold opF at d;rw[Jm] at d;have m:=d.2;rw[if_neg Zo,if_neg h2] at m;simp only[Jm,Bool.or_eq_true,decide_eq_true_eq] at m
   have j:o.b=0:=by
    rcases m.1.1.1.2 with j|j
    ·exact absurd j l
    ·exact j
   omega
 ·have c:=h.st.trm i hi;unfold aw at c;rw[Jm,Oe] at c;have g:=c.1 e he;unfold uM at g;simp only[Jm,decide_eq_true_eq] at g;refine⟨by omega,g.2,fun x hx=>?_,fun x hx=>?_⟩
  ·rw[w] at he;have:=t.2.2 x (by unfold mE;rw[Jl];exact .inr (List.mem_flatten.2 ⟨_,Nu.2 ⟨e,he,rfl⟩,hx⟩));omega
  ·have:=(h.rng e.block.toNat Zo).1 x (by rw[show((e.block.toNat:Nat):Int)=e.block by omega];exact hx);omega
theorem ru_cells (n:Nat):madeCells (#[O 0,O 0]:Array Value) (n*2)=((List.replicate n (⟨0,0⟩:Rg)).flatMap pn).toArray:=by
 apply Array.ext
 ·simp[madeCells,pn,List.length_flatMap]
 ·intro i h1 h2;have hi:i<n*2:=by simpa[madeCells] using h1
  have h3:((List.replicate n (⟨0,0⟩:Rg)).flatMap pn)=List.replicate (n*2) (O 0):=by
   clear h1 h2 hi
   induction n with
   |zero=>rfl
   |succ n ih=>rw[Qz,Qa,ih,show(n+1)*2=n*2+1+1 by omega];rfl
  simp only[h3,List.getElem_toArray,List.getElem_replicate];simp only[madeCells,Array.getElem_map,Array.getElem_range];have c:i%2=0∨i%2=1:=Zo;rcases c with c|c
  ·show((#[O 0,O 0]:Array Value)[i%2]!)=_;rw[c];rfl
  ·show((#[O 0,O 0]:Array Value)[i%2]!)=_;rw[c];rfl
theorem agA{b:Nat}{o:Option Obj}(h:w.heap[b]? =o):w.drew.heap[b]? =o:=h
theorem kn_cells (n:Nat):madeCells (#[.bool false]:Array Value) n=((List.replicate n false).map Value.bool).toArray:=by rw[yA];simp
def ajP (w wx:World)(K:SK)(p:IProg)(bl:List IBlk):Prop:=SlvAt wx K p bl 0 ⟨List.replicate K.n ⟨0,0⟩,List.replicate K.n false⟩/\Y w wx/\w.heap.size<=K.rb/\w.heap.size<=K.kb/\w.heap.size<=K.sb
theorem slvNew{B n sb rb kb rm:Nat}{V:PV}{fv:Value}{p:IProg}(hp:ProgIn wx B V p)(h:wX wx B fv bl)(hB:B<=w.heap.size)(i:n<=1000000)(g:Y w wx)
 (hm:ae3 wx rm 17 ruG) (hs:Q wx sb #[V.fv,V.av,U p.entry,U p.handler,V.dv,V.bv,fv,.map (some rm),T rb n n,T kb n n,U 0] 99)
 (hr:Q wx rb ((List.replicate n (⟨0,0⟩:Rg)).flatMap pn).toArray 45) (hk:Q wx kb ((List.replicate n false).map Value.bool).toArray 4)
 (c:w.heap.size<=sb/\w.heap.size<=rb/\w.heap.size<=kb/\w.heap.size<=rm) (d:sb≠rb/\sb≠kb/\sb≠rm/\rb≠kb/\rb≠rm/\kb≠rm):ajP w wx ⟨sb,rb,kb,rm,n,B,V,fv⟩ p bl:=
 ⟨⟨hp,h,hm,hs,hr,hk,⟨by simp,by simp,fun a ha=>by rw[(List.mem_replicate.1 ha).2];exact⟨Je _,Jt _⟩⟩,i,⟨Jn hB c.1,Jn hB c.2.1,Jn hB c.2.2.1,Jn hB c.2.2.2⟩,d⟩,g,c.2.1,c.2.2.1,c.1⟩
theorem slvNew'{B n sb rb kb rm:Nat}{V:PV}{fv:Value}{p:IProg}(hs:Q wx sb #[V.fv,V.av,U p.entry,U p.handler,V.dv,V.bv,fv,.map (some rm),T rb n n,T kb n n,U 0] 99)
 (hB:B<=w.heap.size) (i:n<=1000000) (hp:ProgIn wx B V p) (h:wX wx B fv bl) (g:Y w wx) (hm:ae3 wx rm 17 ruG)
 (hr:Q wx rb ((List.replicate n (⟨0,0⟩:Rg)).flatMap pn).toArray 45) (hk:Q wx kb ((List.replicate n false).map Value.bool).toArray 4)
 (d:w.heap.size<=sb/\w.heap.size<=rb/\w.heap.size<=kb/\w.heap.size<=rm) (c:sb≠rb/\sb≠kb/\sb≠rm/\rb≠kb/\rb≠rm/\kb≠rm):∃K:SK,Value.pointer (some ⟨sb,0,none⟩)=F K.sb/\K.n=n/\Hid (ajP w wx K p bl):=
 ⟨_,rfl,rfl,Ja (slvNew hp h hB i g hm hs hr hk d c)⟩
theorem Tryz.info_range:(Tryz.prog.info? 45).map (fun i=>(i.zero,i.size,i.bytes))=some (some (.agg #[O 0,O 0]),2,4):=by kernel_rfl
theorem make_rgs (n:Nat)(d:n<=1000000)(w:World):(Instr.makeSlice 34 (U n) (U n)).run Tryz.prog w=.ok (T w.heap.size n n) (w.alloc (G ((List.replicate n (⟨0,0⟩:Rg)).flatMap pn).toArray 45)):=by
 obtain⟨i,hi,c,h1,h2⟩:=info_parts Tryz.info_range;have:=run_make (P:=Tryz.prog) w 34 45 i (.agg #[O 0,O 0]) Tryz.underlying34 hi c .i64 .i64 n n Zo (Og _) (by rw[h2];omega) Zo;rw[this,h1,Ni,<-ru_cells];rfl
def ahk (w:World)(ob:Nat)(xs:List Nat):Prop:=∃cur,Q w ob cur 3/\∀(k x:Nat),xs[k]? =some x->cur[k]? =some (U x)
theorem own_ord{base n:Nat}{v:Value}(h:w.ownsRow base 3 1 v n (xs.map zj))(m:n=xs.length)(o:0<xs.length):∃ob oc,v=T ob n oc/\n<=oc/\oc<=9223372036854775807/\base<=ob/\ahk w ob xs:=by
 rcases h.2 with⟨_,e⟩|⟨g,d,cur,rfl,hg,i,h1,h2,h3,j⟩
 ·omega
 ·refine⟨g,d,rfl,h1,by unfold maxLen at h2;omega,hg,cur,i,fun k x hk=>?_⟩;have l:=(Jh.1 hk).1;have c:(cur.toList.take (n*1))[k]? =some (zj x):=by rw[j,Jr,hk];rfl
  rw[List.getElem?_take_of_lt Zo] at c
  simpa[zj] using c
theorem ahk.to{w':World}(h:ahk w ob xs)(ht:SlvTo w w' K)(c:ob≠K.rb/\ob≠K.kb/\ob≠K.sb):ahk w' ob xs:=by
 obtain⟨cur,h1,h2⟩:=h;exact⟨cur,ht.blk h1 (lt_of_block h1) c,h2⟩
theorem ahk.lt(h:ahk w ob xs):ob<w.heap.size:=by obtain⟨cur,h1,_⟩:=h;exact lt_of_block h1
theorem ahk.cell {w:World}{ob:Nat}{xs:List Nat}(h:ahk w ob xs){k x:Nat}(hk:xs[k]? =some x):A w ob k (U x):=by
 obtain⟨cur,h1,h2⟩:=h;exact zA h1 (h2 k x hk)
theorem SlvAt.round{p:IProg}{c:List IBlk}{s:Slv}(h:SlvAt w K p c k s)(d:w.setCell ⟨K.sb,10,none⟩ (U (((k+1:Nat)):Int))=W):SlvAt W K p c (k+1) s/\SlvTo w W K:=by
 have j:=h.ne;have hb:Below K.B w W:=by rw[<-d];exact(Below.refl K.B w).setCell h.lt.1 _
 have ho:∀i,i≠K.sb->W.heap[i]? =w.heap[i]?:=fun i h1=>by rw[<-d,Below.heap_setCell _ _ _ _ h1]
 have g:=zD (i:=10) h.cell (U (((k+1:Nat)):Int));rw[d] at g;exact⟨⟨h.prog.below hb,h.blks.below yT hb,h.map.same (ho _ Zo),g,(ho _ Zo).trans h.row,(ho _ Zo).trans h.kn,h.oks,h.n64,h.lt,h.ne⟩,⟨hb.os,hb.tape,hb.output,hb.size,fun i _ _ _ h3=>ho i h3⟩⟩
theorem SlvAt.putR{X:World}{p:IProg}{g:List IBlk}{s:Slv}(h:SlvAt X K p g k s){v:Nat}(hv:v<K.n){a:Rg}(o:a.ok)
 (l:(X.setCell ⟨K.rb,v*2,none⟩ (O (a.lo:Int))).setCell ⟨K.rb,v*2+1,none⟩ (O (a.hi:Int))=W):
 SlvAt W K p g k ⟨s.r.set v a,s.kn⟩/\SlvTo X W K:=by
 have m:=h.ne;have c:=h.lt;have d:=zD (i:=v*2+1) (zD (i:=v*2) h.row (O (a.lo:Int))) (O (a.hi:Int));rw[l] at d
 have hb:Below K.B X W:=by
  rw[<-l];exact((Below.refl K.B X).setCell c.2.1 _).setCell c.2.1 _
 have ho:∀i,i≠K.rb->W.heap[i]? =X.heap[i]?:=fun i h1=>by
  rw[<-l,Below.heap_setCell _ _ _ _ h1,Below.heap_setCell _ _ _ _ h1]
 refine⟨⟨h.prog.below hb,h.blks.below yT hb,h.map.same (ho _ Zo),(ho _ Zo).trans h.cell,?_,(ho _ Zo).trans h.kn,⟨by show(s.r.set _ _).length=_;rw[Nd,h.oks.rl],h.oks.kl,fun x j=>?_⟩,h.n64,c,m⟩,⟨hb.os,hb.tape,hb.output,hb.size,fun i _ h1 _ _=>ho i h1⟩⟩
 ·have:=aiP s.r v a (by rw[h.oks.rl];exact hv);rw[<-this];exact d
 ·rcases Qe j with j|rfl
  ·exact h.oks.ok x j
  ·exact o
def afg (t:Slv)(m:Nat):Slv:=⟨(afG t).take m++t.r.drop m,t.kn⟩
theorem af2{n:Nat}(h:OkS n t):(afG t).length=n:=by unfold afG;rw[Nr,List.length_zip,h.rl,h.kl,Nat.min_self]
theorem ajz{n:Nat}(h:OkS n t):afg t n=⟨afG t,t.kn⟩:=by
 unfold afg;rw[Oy (by rw[af2 h];exact Je _),List.drop_of_length_le (by rw[h.rl];exact Je _),Ua]
theorem aia{n:Nat}(h:OkS n t)(hm:m<n):(afG t)[m]? =some (if t.knw (m:Int)=true then t.get (m:Int) else lf):=by
 have h1:m<t.r.length:=by rw[h.rl];exact hm
 have h2:m<t.kn.length:=by rw[h.kl];exact hm
 unfold afG Slv.knw Slv.get;rw[Jr,Jd (by rw[List.length_zip];omega)];simp[Jj,Jd h1,Jd h2]
theorem ajK (t:Slv)(m:Nat)(v:Int):(afg t m).knw v=t.knw v:=rfl
theorem ajD{n:Nat}(h:OkS n t)(hm:m<n)(hk:t.knw (m:Int)=true):afg t (m+1)=afg t m:=by
 have h1:m<t.r.length:=by rw[h.rl];exact hm
 have hg:=aia h hm;rw[if_pos hk] at hg;have h3:t.get (m:Int)=t.r[m]:=by unfold Slv.get;simp[Jj,Jd h1]
 unfold afg;rw[Nh,hg,Qn h1,h3];simp
theorem ajR{n:Nat}(h:OkS n t)(hm:m<n)(hk:t.knw (m:Int)=false):afg t (m+1)=⟨(afg t m).r.set m lf,(afg t m).kn⟩:=by
 have h1:m<t.r.length:=by rw[h.rl];exact hm
 have hg:=aia h hm;rw[hk,if_neg Zd] at hg;have hl:((afG t).take m).length=m:=by rw[Oc,af2 h];omega
 unfold afg;simp only;rw[Nh,hg,Uj _ _ Zo,hl,Qy,Qn h1,Jf];simp
theorem agQ{B:Nat}{V:PV}{p:IProg}(hp:ProgIn w B V p)(hB:B<=w.heap.size)(hs:∀f∈p.funcs,vZ f)(hv:vC p=0){f:Nat}(hf:p.funcs[f]? =some bl)(h0:bl≠ []):
 I 15 #[yH V p,U f] w (RgsRet w (p6 p bl)):=by
 have hF:=ai8 hv hs hp.p64 hf h0;have hU:=use_of hv hf
 have i9:∀W,Below w.heap.size w W->I 35 #[yH V p] W (m9 W 0):=fun W hb=>by
  have:=tu (hp.below (hb.mono hB)) (Jn hB hb.size) hs;rw[hv] at this;exact this
 obtain⟨Vf,Va,Vd,Vb⟩:=V;obtain⟨f1,f2,e1,p4,p3⟩:=hp.funcs.form;have m3:Vf=.slice f1 p.funcs.length f2:=e1;subst m3;obtain⟨gb,go,rfl,i1,bv,g0,e9⟩:=hp.funcs.get hf;obtain⟨ka,kc,rfl,o9,o6⟩:=e9.form;rw[Nk] at g0;have p1:=(Jh.1 hf).1;have k2:=hF.pos;have g5:=hs bl (Ji hf);obtain⟨X,hX⟩:∃X,w.alloc (G #[.slice (some ⟨gb,go,none⟩) p.funcs.length f2,Va,U p.entry,U p.handler,Vd,Vb] 29)=X:=⟨_,rfl⟩
 have c4:Below w.heap.size w X:=by rw[<-hX];exact(Below.refl _ _).alloc (Je _) _
 have a0:Q X w.heap.size #[.slice (some ⟨gb,go,none⟩) p.funcs.length f2,Va,U p.entry,U p.handler,Vd,Vb] 29:=by rw[<-hX];exact zI rfl
 have HX:=Ja (Jb c4 (Jb a0 (show ∀W,Below w.heap.size w W->ProgIn W B ⟨.slice (some ⟨gb,go,none⟩) p.funcs.length f2,Va,Vd,Vb⟩ p/\wX W B (.slice ka bl.length kc) bl/\A W gb (go+f) (.slice ka bl.length kc) from fun W hb=>⟨hp.below (hb.mono hB),e9.below yT (hb.mono hB),zV (hb.mono hB) i1 g0⟩)));have o:=Ja (Jb hF (Jb hU (Jb hs (Jb hv (Jb g5 (Jb hB (Jb h0 i1)))))));have m4:=Ja (show ∀W,Below X.heap.size X W->I 35 #[.agg #[.slice (some ⟨gb,go,none⟩) p.funcs.length f2,Va,U p.entry,U p.handler,Vd,Vb]] W (m9 W 0) from fun W hb=>i9 W (c4.trans (hb.mono c4.size)));have o2:decide ((f:Int)<0)=false:=decide_eq_false Zo;have o1:decide ((p.funcs.length:Int)<=(f:Int))=false:=decide_eq_false Zo;have o0:decide (p.funcs.length<=f)=false:=decide_eq_false Zo;have n9:((bl.length:Int)==0)=false:=Ze;have n8:(bl.length==0)=false:=beq_eq_false_iff_ne.2 Zo;have l9:gb<w.heap.size:=Zo;have x0:=zA (i:=0) a0 rfl;have x1:=zA (i:=1) a0 rfl;have x2:=zA (i:=2) a0 rfl;have x3:=zA (i:=3) a0 rfl;have x4:=zA (i:=4) a0 rfl;have x5:=zA (i:=5) a0 rfl;have k0:=lt_of_block a0;clear hp hB hs hv hf h0 hF hU i9 g0 e9 g5 c4 a0;unfold yH;go_enter Tryz.func15,Tryz.ntmps15;go_wp2_with fail
 go_step3
 go_upto_region 3 with(go_at_call 35;go_must (refine(m4.out _ (Below.refl _ _)).mono ?_;rintro e w1 ⟨rfl,d0⟩;have x:=zH d0 HX.out.2.1 k0;have y0:=zA (i:=0) x rfl;have yg:=(HX.out.2.2 w1 (HX.out.1.trans (d0.mono HX.out.1.size))).2.2;have l7:=lt_of_block x;have l6:gb<w1.heap.size:=by omega))
 clear hX x0 x1 x2 x3 x4 x5;obtain⟨N,hN⟩:∃N:Nat,aaG bl=N:=⟨(aaG bl).toNat,by have:=o.out.1.cnt;omega⟩
 have p5:N<=65536:=by have:=o.out.1.cnt;omega
 obtain⟨Y,hY⟩:∃Y,w1.alloc (G #[.slice ka bl.length kc] 39)=Y:=⟨_,rfl⟩
 obtain⟨t5,g4⟩:∃t,w1.heap.size=t:=⟨_,rfl⟩
 have b9:Below w1.heap.size w1 Y:=by rw[<-hY];exact(Below.refl _ _).alloc (Je _) _
 have d4:Q Y w1.heap.size #[.slice ka bl.length kc] 39:=by rw[<-hY];exact zI rfl
 have b7:=HX.out.1.trans (d0.mono HX.out.1.size);have HY:=Ja (show Below w.heap.size w Y/\Q Y w.heap.size #[.slice (some ⟨gb,go,none⟩) p.funcs.length f2,Va,U p.entry,U p.handler,Vd,Vb] 29/\Q Y w1.heap.size #[.slice ka bl.length kc] 39/\w.heap.size<w1.heap.size/\w1.heap.size<Y.heap.size from⟨b7.trans (b9.mono b7.size),zH b9 x (lt_of_block x),d4,lt_of_block x,lt_of_block d4⟩);rw[g4] at HY;have y5:=zA (i:=0) HY.out.2.2.1 rfl;have k7:t5<Y.heap.size:=HY.out.2.2.2.2
 have n1:=Ja (show ∀W,Below Y.heap.size Y W->I 36 #[.agg #[.slice ka bl.length kc]] W (afl W (N:Int)) from fun W hb=>by
  have:=ajA (w:=W) (HX.out.2.2 W (HY.out.1.trans (hb.mono HY.out.1.size))).2.1 (Jn o.out.2.2.2.2.2.1 (Jn HY.out.1.size hb.size)) o.out.2.2.2.2.1;rw[hN] at this
  exact this)
 have HN:=Ja hN;clear hN b9 d4 b7 x d0 l9;go_upto_region 5 with(go_at_call 36;go_must (refine(n1.out _ (Below.refl _ _)).mono ?_;rintro e w2 ⟨rfl,c7⟩))
 clear hY g4 y5 y0 yg l7 l6;have f3:Below w.heap.size w w2:=HY.out.1.trans (c7.mono HY.out.1.size);have x:=zH c7 HY.out.2.1 (lt_of_block HY.out.2.1);have e6:=zH c7 HY.out.2.2.1 (lt_of_block HY.out.2.2.1);have l:=Ja (show Below w.heap.size w w2/\w2.heap[w.heap.size]? =_/\w2.heap[t5]? =_ from⟨f3,x,e6⟩);have a1:w.heap.size<w2.heap.size:=lt_of_block x;have c0:t5<w2.heap.size:=lt_of_block e6;clear c7 f3 x e6 k7;have HC:=Ja (show ∀w',Below w2.heap.size w2 w'->(A w' w.heap.size 0 (.slice (some ⟨gb,go,none⟩) p.funcs.length f2)/\A w' w.heap.size 1 Va/\A w' w.heap.size 2 (U p.entry)/\A w' w.heap.size 3 (U p.handler)/\A w' w.heap.size 4 Vd/\A w' w.heap.size 5 Vb)/\A w' t5 0 (.slice ka bl.length kc) from fun W hb=>⟨⟨zA (zH hb l.out.2.1 a1) rfl,zA (zH hb l.out.2.1 a1) rfl,zA (zH hb l.out.2.1 a1) rfl,zA (zH hb l.out.2.1 a1) rfl,zA (zH hb l.out.2.1 a1) rfl,zA (zH hb l.out.2.1 a1) rfl⟩,zA (zH hb l.out.2.2 c0) rfl⟩);obtain⟨⟨x0,x1,x2,x3,x4,x5⟩,y5⟩:=HC.out w2 (Below.refl _ _);have e3:=make_rgs N Zo;have b6:=run_make_row' (P:=Tryz.prog) 97 4 (.bool false) 1 Tryz.underlying97 Tryz.info_bool rfl .i64 .i64 N Zo Zo;rw[kn_cells] at b6;obtain⟨ZR,f5⟩:∃Z,((List.replicate N (⟨0,0⟩:Rg)).flatMap pn).toArray=Z:=⟨_,rfl⟩
 obtain⟨ZB,f6⟩:∃Z,((List.replicate N false).map Value.bool).toArray=Z:=⟨_,rfl⟩
 rw[f5] at e3;rw[f6] at b6;have HZ:=Ja (Jb f5 f6);clear f5 f6
 go_cut [7] from 46 to 54 (fun s wx=>∃K:SK,s=F K.sb/\K.n=N/\Hid (ajP w2 wx K p bl))
 case first=>
  go_region_held3 (fun w'=>(A w' w.heap.size 0 (.slice (some ⟨gb,go,none⟩) p.funcs.length f2)/\A w' w.heap.size 1 Va/\A w' w.heap.size 2 (U p.entry)/\A w' w.heap.size 3 (U p.handler)/\A w' w.heap.size 4 Vd/\A w' w.heap.size 5 Vb)/\A w' t5 0 (.slice ka bl.length kc))
   ((refine HC.out _ ?_;repeat' (first|with_reducible exact Below.refl _ _|with_reducible assumption|with_reducible refine Below.drew ?_|with_reducible refine Below.alloc ?_ Zn _|with_reducible refine Below.setCell ?_ Zn _)))
   ((go_at_call 37;refine(akw _).mono ?_;rintro e w3 ⟨rfl,h6,f0,e5⟩;have m1:Below w2.heap.size w2 w3:=Below.trans (show Below w2.heap.size w2 _ from by repeat' (first|with_reducible exact Below.refl _ _|with_reducible assumption|with_reducible refine Below.drew ?_|with_reducible refine Below.alloc ?_ Zn _|with_reducible refine Below.setCell ?_ Zn _)) (f0.mono Zn);have l0:w2.heap.size<=w3.heap.size:=m1.size;have h7:=e5;rw[show ∀v:World,v.drew.heap=v.heap from fun _=>rfl] at h7;(try simp at h7)))
  all_goals go_wp2_with fail
  all_goals go_meet
  all_goals (
   refine slvNew' (B:=B) (V:=⟨.slice (some ⟨gb,go,none⟩) p.funcs.length f2,Va,Vd,Vb⟩) (fv:=.slice ka bl.length kc) (zI (by first|rfl|(simp;done)|(simp;omega))) (Jn o.out.2.2.2.2.2.1 l.out.1.size) Zo ?_ ?_ ?_ ?_ ?_ ?_ ?_ ?_
   ·exact(HX.out.2.2 _ (l.out.1.trans (Below.mono (show Below w2.heap.size w2 _ from by repeat' (first|with_reducible exact Below.refl _ _|with_reducible assumption|with_reducible refine Below.drew ?_|with_reducible refine Below.alloc ?_ Zn _|with_reducible refine Below.setCell ?_ Zn _)) l.out.1.size))).1
   ·exact(HX.out.2.2 _ (l.out.1.trans (Below.mono (show Below w2.heap.size w2 _ from by repeat' (first|with_reducible exact Below.refl _ _|with_reducible assumption|with_reducible refine Below.drew ?_|with_reducible refine Below.alloc ?_ Zn _|with_reducible refine Below.setCell ?_ Zn _)) l.out.1.size))).2.1
   ·repeat' (first|with_reducible exact Below.refl _ _|with_reducible assumption|with_reducible refine Below.drew ?_|with_reducible refine Below.alloc ?_ Zn _|with_reducible refine Below.setCell ?_ Zn _)
   ·exact ae3.below (by first|exact h6|simpa using h6) (by repeat' (first|with_reducible exact Below.refl _ _|with_reducible assumption|with_reducible refine Below.drew ?_|with_reducible refine Below.alloc ?_ Zn _|with_reducible refine Below.setCell ?_ Zn _))
   ·rw[HZ.out.1];repeat' (first|exact zI (by first|rfl|(simp;done)|(simp;omega))|exact zH f0 (by repeat' (first|exact zI (by first|rfl|(simp;done)|(simp;omega))|refine agA ?_|refine zB ?_)) (by first|exact e5|omega|(simp;done)|(simp;omega))|refine agA ?_|refine zB ?_)
   ·rw[HZ.out.2];repeat' (first|exact zI (by first|rfl|(simp;done)|(simp;omega))|exact zH f0 (by repeat' (first|exact zI (by first|rfl|(simp;done)|(simp;omega))|refine agA ?_|refine zB ?_)) (by first|exact e5|omega|(simp;done)|(simp;omega))|refine agA ?_|refine zB ?_)
   ·refine⟨?_,?_,?_,?_⟩<;>(first|exact Je _|omega|(simp;done)|(simp;omega))
   ·refine⟨?_,?_,?_,?_,?_,?_⟩<;>(first|omega|(simp;done)|(simp;omega)))
 case rest=>
  obtain⟨K,rfl,j3,HK⟩:=hcut;have a4:=HK.out.2.1;have y5:A wc t5 0 (.slice ka bl.length kc):=zA (zH a4 l.out.2.2 c0) rfl;have k1:=lt_of_block (zH a4 l.out.2.2 c0);obtain⟨b0,f4⟩:∃b,bl[0]? =some b:=⟨_,Jd k2⟩
  have e8:=(HX.out.2.2 wc (l.out.1.trans (a4.mono l.out.1.size))).2.1;obtain⟨qb,qo,l1,l2,_,_,_,pv,_,_,u0,_,_,b3,_,_⟩:=e8.get f4;obtain⟨pa,pc,rfl,l4,l3⟩:=b3.form;subst l1;rw[Nat.zero_mul,Uk] at u0;have o3:qb<wc.heap.size:=Jy l2 (Jn o.out.2.2.2.2.2.1 (Jn l.out.1.size a4.size));have n3:b0.params.length<=9223372036854775807:=Zo;have a3:=Ja (Jb f4 (Jb b3 a4));have h8:K.n=(aaG bl).toNat:=by rw[j3,HN.out];rfl
  have d1:=Ja h8;clear j3 h8 e8 b3 f4 l4 l3 a4 HC e3 b6 x0 x1 x2 x3 x4 x5;have a7:=HK.out.2.2;have d2:=Ja (show ∀wx,SlvTo wc wx K->Below w2.heap.size wc wx from fun wx h=>h.below ⟨a7.1,a7.2.1,a7.2.2,HK.out.2.1.size⟩);have f9:=Ja (show ∀wx,SlvTo wc wx K->wX wx B (.slice (some ⟨qb,qo,none⟩) bl.length kc) bl/\zY wx B (.slice pa b0.params.length pc) b0.params/\A wx t5 0 (.slice (some ⟨qb,qo,none⟩) bl.length kc)/\t5<wx.heap.size/\B<=wx.heap.size from fun wx h=>⟨(HX.out.2.2 wx (l.out.1.trans ((a3.out.2.2.trans ((d2.out wx h).mono (Je _))).mono l.out.1.size))).2.1,a3.out.2.1.below zO ((d2.out wx h).mono (Jn o.out.2.2.2.2.2.1 l.out.1.size)),zA (zH (a3.out.2.2.trans (d2.out wx h)) l.out.2.2 c0) rfl,Jy k1 h.size,Jn o.out.2.2.2.2.2.1 (Jn l.out.1.size (Jn a3.out.2.2.size h.size))⟩);clear a7;go_wp2;clear y5 u0
  go_loopw [61] (fun kv wx=>∃(j:Nat) (s':Slv) (c:Bool),j<=b0.params.length/\kv=U j/\Hid ((b0.params.take j).foldl (fun q v=>aeZ 0 v lf q) (⟨List.replicate K.n ⟨0,0⟩,List.replicate K.n false⟩,false)=(s',c)/\SlvAt wx K p bl 0 s'/\SlvTo wc wx K)) (fun kv _=>b0.params.length-(intOf kv).toNat)
  case atStart=>exact⟨0,_,_,Jt _,rfl,Ja ⟨rfl,HK.out.1,SlvTo.refl _ _⟩⟩
  case round=>
   obtain⟨j,s',c,hj,rfl,HJ⟩:=hrel
   by_cases d:j<b0.params.length
   ·have a2:(j:Int)<(b0.params.length:Int):=Zo;obtain⟨v,hv⟩:∃v,b0.params[j]? =some v:=⟨_,Jd d⟩
    obtain⟨pb,po,l5,h4,k6,_⟩:=(f9.out wr HJ.out.2.2).2.1.get hv;subst l5;rw[Nk] at k6;have n4:pb<wr.heap.size:=Jy h4 (f9.out wr HJ.out.2.2).2.2.2.2;have d5:=((o.out.1.rng 0 o.out.1.pos).1 v (by rw[show((0:Nat):Int)=((0:Nat):Int) from rfl,vt a3.out.1];exact Ji hv))
    rw[<-d1.out] at d5;obtain⟨vn,rfl⟩:∃vn:Nat,v=vn:=⟨v.toNat,by omega⟩
    obtain⟨s2,r,hq⟩:∃s2 r,setF 0 s' (vn:Int) lf=(s2,r):=⟨_,_,rfl⟩
    have m5:=Ja (show ∀W,SlvAt W K p bl 0 s'->I 38 #[F K.sb,U vn,.agg #[O 0,O 65535]] W (afw W K p bl 0 (s2,r)) from fun W hb=>by
     have:=aiz hb (v:=vn) (by have:=d5.2;rw[Ni] at this;exact this) cw (ahu cw (hb.oks.get _));rw[hq] at this
     exact this)
    have HV:=Ja (Jb hv (Jb hq d));clear hv hq d5 d h4
    go_wp2_with (first
     |(go_at_call 39;go_must (refine(aeH _).mono ?_;rintro e w5 ⟨rfl,a5⟩))
     |(go_at_call 38;go_must (refine(m5.out _ (HJ.out.2.1.below a5)).mono ?_;rintro e w6 ⟨rfl,d7,g3⟩;have H6:=Ja (Jb d7 ((SlvTo.of_below a5).trans g3));clear d7 g3 a5)))
    go_roundw
    case rel=>exact⟨j+1,s2,_,HV.out.2.2,by go_num,Ja ⟨by rw[aeN HV.out.1,HJ.out.1];unfold aeZ;rw[HV.out.2.1],H6.out.1,HJ.out.2.2.trans H6.out.2⟩⟩
    case measure=>have:=HV.out.2.2;simp[intOf];omega
   ·obtain rfl:j=b0.params.length:=by omega
    have a2:¬(b0.params.length:Int)<(b0.params.length:Int):=Zo
    have m7:=Ja (show agP (aaG bl).toNat (xz bl (0:Nat)).params=s' by
     unfold agP;rw[<-d1.out,vt a3.out.1];have:=HJ.out.1;rw[Nl] at this
     rw[this])
    have d3:=Ja HJ.out.2;clear hj d HJ;obtain⟨z1,z2,z3,z4,z5⟩:=f9.out wr d3.out.2;have HG:=Ja (ox z1 z5 ⟨o.out.2.2.2.2.1.1,fun b hb=>(o.out.2.2.2.2.1.2 b hb).2.2⟩)
    have g1:∀b∈bl,aw bl b.term=true:=fun b hb=>by
     obtain⟨i,hi⟩:=Ny hb;have:=o.out.1.st.trm i (Jh.1 hi).1;rw[vt hi] at this;exact this
    have n0:=Ja (show ∀W b1,OwnRows zN 3 22 W wr.heap.size b1 (zk bl)->GraphIn W (.slice (some ⟨b1,0,none⟩) (zk bl).length (zk bl).length) (zy bl) from fun W b1 h=>bU o.out.2.2.2.2.1 o.out.2.2.2.2.2.2.1 g1 (h.asRows (Je _)));obtain⟨od,d9⟩:∃od,vD (zy bl)=od:=⟨_,rfl⟩
    obtain⟨gl,i0⟩:∃n,(zk bl).length=n:=⟨_,rfl⟩
    have f8:0∈od:=by rw[<-d9];exact(o.out.1.ord 0).2 o.out.1.pos
    have k3:0<od.length:=List.length_pos_of_mem f8;have a6:=Ja (Jb d9 i0);clear z1 z2 z5 g1 d9 i0 f8
    go_wp2_with (first
     |(go_at_call 41;go_must (refine HG.out.mono ?_;rintro e w7 ⟨b1,rfl,c2,m0,c5⟩;rw[a6.out.2]))
     |(go_at_call 40;go_must (refine(iJ (by have:=n0.out w7 b1 c2;rw[a6.out.2] at this;exact this)).mono ?_;rintro e w8 ⟨ov,rfl,b4,i2⟩;rw[a6.out.1] at b4;obtain⟨ob,oc,rfl,n7,n6,e0,j0⟩:=own_ord b4 rfl k3)))
    have b8:Below wr.heap.size wr w8:=c5.trans (i2.mono c5.size);have e2:=d3.out.1.fresh (b:=ob) (Jn c5.size e0)
    have d6:∀i∈od,aeX K.n bl (xz bl i):=fun i hi=>by
     rw[d1.out];exact o.out.1.sol i ((o.out.1.ord i).1 (by rw[a6.out.1];exact hi))
    obtain⟨T,hT⟩:∃T,akV p bl od 0 s'=T:=⟨_,rfl⟩
    have e7:p6 p bl=afG T:=by
     unfold p6 fnT;rw[m7.out,a6.out.1,hT]
    have HQ:=Ja (show SlvAt w8 K p bl 0 s'/\SlvTo wc w8 K/\ahk w8 ob od/\(ob≠K.rb/\ob≠K.kb/\ob≠K.sb)/\(∀i∈od,aeX K.n bl (xz bl i))/\akV p bl od 0 s'=T/\p6 p bl=afG T from⟨d3.out.1.below b8,d3.out.2.trans (SlvTo.of_below b8),j0,e2,d6,hT,e7⟩);have n5:od.length<=9223372036854775807:=Zo;clear b8 e2 d6 hT e7 j0 c5 i2 b4 c2 m0 e0 z3 z4;go_wp2
    go_step3
    go_wp2
    go_loopg [11] (afN 0 s') (fun g cv wx=>∃(j:Nat) (t:Slv),Hid (g=afN j t/\j+afN j t<=4+K.n/\akV p bl od j t=T/\SlvAt wx K p bl j t/\SlvTo w8 wx K))
    case atStart=>exact⟨0,s',Ja ⟨rfl,by have:=nfL_le s'.r s'.kn;have:=HQ.out.1.oks.rl;unfold afN Slv.nf;omega,HQ.out.2.2.2.2.2.1,HQ.out.1,SlvTo.refl _ _⟩⟩
    case round=>
     obtain⟨j,t,y⟩:=hrel;have p0:j<=2000000:=by have:=y.out.2.1;have:=y.out.2.2.2.1.n64;omega
     have c10:=y.out.2.2.2.1.cells.2.2.2.2.1;have m2:=zE (i:=10) y.out.2.2.2.1.cell;have k9:=lt_of_block y.out.2.2.2.1.cell;obtain⟨W4,i8⟩:∃W,wr.setCell ⟨K.sb,10,none⟩ (U ((j:Int)+1))=W:=⟨_,rfl⟩
     obtain⟨q1,q2⟩:=y.out.2.2.2.1.round i8;have H4:=Ja (Jb q1 (y.out.2.2.2.2.trans q2));clear q1 q2;go_upto_region 14 with fail;clear i8 c10 m2 k9;go_wp2
     go_loopw [11,82] (fun cv kv wx=>∃(m:Nat) (t2:Slv) (c:Bool),m<=od.length/\cv=.bool c/\kv=U m/\Hid ((od.take m).foldl (goS p bl (j+1)) (t,false)=(t2,c)/\SlvAt wx K p bl (j+1) t2/\SlvTo w8 wx K)) (fun _ kv _=>od.length-(intOf kv).toNat)
     case atStart=>exact⟨0,t,false,Jt _,rfl,rfl,Ja ⟨rfl,H4.out.1,H4.out.2⟩⟩
     case round=>
      obtain⟨m,t2,c,hm,rfl,rfl,u⟩:=hrel
      by_cases d:m<od.length
      ·have a2:(m:Int)<(od.length:Int):=Zo;obtain⟨i,hi⟩:∃i,od[m]? =some i:=⟨_,Jd d⟩
       have b5:=HQ.out.2.2.1.to u.out.2.2 HQ.out.2.2.2.1;have ci:=b5.cell hi;have o4:=b5.lt;have h9:i<bl.length:=(o.out.1.ord i).1 (by rw[a6.out.1];exact Ji hi);obtain⟨bx,c3⟩:∃b,bl[i]? =some b:=⟨_,Jd h9⟩
       obtain⟨t3,r,hq⟩:∃t3 r,ai0 p bl (j+1) (t2,false) bx=(t3,r):=⟨_,_,rfl⟩
       have n2:=Ja (show I 42 #[F K.sb,U i] wr (afw wr K p bl (j+1) (t3,r)) from by
        have hw:=blkW_of o.out.1 o.out.2.1 h9;rw[<-d1.out,vt c3] at hw;have:=ajl u.out.2.1 c3 hw;rw[hq] at this
        exact this)
       have HI:=Ja (Jb hi (Jb c3 (Jb hq d)));clear hi c3 hq b5 d;cases r
       all_goals go_wp2_with (go_at_call 42;go_must (refine n2.out.mono ?_;rintro e w9 ⟨rfl,g6,g2⟩;have H9:=Ja (Jb g6 g2);clear g6 g2))
       all_goals (
        go_roundw
        case rel=>exact⟨m+1,t3,_,HI.out.2.2.2,by first|rfl|(cases c<;>rfl),by go_num,Ja ⟨by rw[aeN HI.out.1,u.out.1];unfold goS;rw[vt HI.out.2.1,show(ai0 p bl (j+1) ((t2,c).1,false) bx)=_ from HI.out.2.2.1];first|rw[Bool.or_true]|rw[Bool.or_false],H9.out.1,u.out.2.2.trans H9.out.2⟩⟩
        case measure=>have:=HI.out.2.2.2;simp[intOf];omega)
      ·obtain rfl:m=od.length:=by omega
       have a2:¬(od.length:Int)<(od.length:Int):=Zo
       have HR:=Ja (show ae1 p bl od (j+1) t=(t2,c) by
        have:=u.out.1;rw[Nl] at this
        exact this)
       clear hm d;cases c
       ·have j4:=Ja (show t2=T by
         have:=y.out.2.2.1;rw[ahn HQ.out.2.2.2.2.1 y.out.2.2.2.1.oks,HR.out,if_neg (fun h=>by cases h)] at this
         exact this)
        have c8:=u.out.2.1.cells.2.2.1;have g9:=lt_of_block u.out.2.1.cell;have o5:=u.out.2.1.n64;go_wp2;clear c8
        go_loopw [97] (fun kv wx=>∃m:Nat,m<=K.n/\kv=U m/\Hid (SlvAt wx K p bl (j+1) (afg t2 m)/\SlvTo w8 wx K)) (fun kv _=>K.n-(intOf kv).toNat)
        case atStart=>exact⟨0,Jt _,rfl,Ja ⟨u.out.2.1,u.out.2.2⟩⟩
        case round=>
         obtain⟨m,hm,rfl,HL⟩:=hrel;have c8:=HL.out.1.cells.2.2.1;have c9:=HL.out.1.cells.2.2.2.1;have g9:=lt_of_block HL.out.1.cell;have a1:=lt_of_block HL.out.1.row;have l0:=lt_of_block HL.out.1.kn
         by_cases d:m<K.n
         ·have a2:(m:Int)<(K.n:Int):=Zo;have kx:=aeC HL.out.1 d;rw[ajK] at kx
          cases hk:t2.knw (m:Int) with
          |true=>
           rw[hk] at kx;have HE:=Ja (ajD u.out.2.1.oks d hk);clear hk;go_wp2;go_roundw
           case rel=>exact⟨m+1,d,by go_num,Ja ⟨by rw[HE.out];exact HL.out.1,HL.out.2⟩⟩
           case measure=>simp[intOf];omega
          |false=>
           rw[hk] at kx;have HE:=Ja (ajR u.out.2.1.oks d hk);clear hk;go_upto_region 25 with fail;clear c9 kx;obtain⟨r0,r1⟩:=HL.out.1.rcell (v:=(m:Int)) Zo;rw[Ni] at r0 r1;have HC:=Ja (show ∀W:World,W.heap[K.sb]? =wr.heap[K.sb]?->A W K.sb 8 (.slice (some ⟨K.rb,0,none⟩) K.n K.n) from fun W h=>zA (h.trans HL.out.1.cell) rfl);have e2:=HL.out.1.ne
           go_region_held3 (fun w'=>A w' K.sb 8 (.slice (some ⟨K.rb,0,none⟩) K.n K.n))
            ((refine HC.out _ ?_;repeat' (first|exact rfl|exact l8|rw[Below.heap_setCell _ _ _ _ (show K.sb≠K.rb by omega)]|rw[show ∀v:World,v.drew.heap=v.heap from fun _=>rfl])))
            ((go_at_call 39;refine(aeH _).mono ?_;rintro e w5 ⟨rfl,a5⟩;have f7:Below wr.heap.size wr w5:=Below.trans (show Below wr.heap.size wr _ from Zf) (a5.mono (Je _));clear a5;have l8:w5.heap[K.sb]? =wr.heap[K.sb]?:=f7.block _ g9;have b2:=Ja (HL.out.1.below f7);obtain⟨r2,r3⟩:=b2.out.rcell (v:=(m:Int)) Zo;rw[Ni] at r2 r3;have k5:=zE (i:=m*2) b2.out.row;have k4:=zE (i:=m*2+1) b2.out.row;have d7:=lt_of_block b2.out.row))
           all_goals go_wp2_with fail
           all_goals (
            obtain⟨W,hW⟩:∃W,(w5.setCell ⟨K.rb,m*2,none⟩ (O 0)).setCell ⟨K.rb,m*2+1,none⟩ (O 65535)=W:=⟨_,rfl⟩
            obtain⟨j1,j2⟩:=b2.out.putR d cw hW;rw[hW];clear r2 r3 k5 k4;have j5:=Ja (Jb j1 (((SlvTo.of_below f7).trans j2)));clear j1 j2 hW;go_roundw
            case rel=>exact⟨m+1,d,by go_num,Ja ⟨by rw[HE.out];exact j5.out.1.below (by first|exact Below.refl _ _|exact(Below.refl _ _).drew),HL.out.2.trans (j5.out.2.trans (SlvTo.of_below (by first|exact Below.refl _ _|exact(Below.refl _ _).drew)))⟩⟩
            case measure=>simp[intOf];omega)
         ·obtain rfl:m=K.n:=by omega
          have a2:¬(K.n:Int)<(K.n:Int):=Zo;have HE:=Ja (show afg t2 K.n=⟨p6 p bl,t2.kn⟩ by rw[ajz u.out.2.1.oks,HQ.out.2.2.2.2.2.2,j4.out]);have e4:(p6 p bl).length=K.n:=by rw[HQ.out.2.2.2.2.2.2,<-j4.out];exact af2 u.out.2.1.oks
          have m6:=Ja e4;clear hm d e4 c9;go_wp2
          try rw[Exit.noGoto_ret]
          go_ret;have d8:=HL.out.1.row;rw[HE.out] at d8;refine⟨K.rb,by rw[m6.out];rfl,d8,?_,?_⟩
          ·exact Jn l.out.1.size HK.out.2.2.1
          ·exact l.out.1.trans ((a3.out.2.2.trans (d2.out wr (HQ.out.2.1.trans HL.out.2))).mono l.out.1.size)
       ·go_wp2
        go_roundg (afN (j+1) t2)
        case measure=>
         have:=agG (p:=p) HQ.out.2.2.2.2.1 y.out.2.2.2.1.oks (k:=j) (by rw[HR.out]);rw[HR.out] at this;rw[y.out.1];exact this
        case rel=>
         refine⟨j+1,t2,Ja ⟨rfl,?_,?_,u.out.2.1,u.out.2.2⟩⟩
         ·have:=agG (p:=p) HQ.out.2.2.2.2.1 y.out.2.2.2.1.oks (k:=j) (by rw[HR.out]);rw[HR.out] at this;have h5:afN (j+1) t2<afN j t:=this;have:=y.out.2.1;omega
         ·have:=y.out.2.2.1;rw[ahn HQ.out.2.2.2.2.1 y.out.2.2.2.1.oks,HR.out,if_pos rfl] at this;exact this
def obs (data:List IObj)(R:List Rg)(l:List IOp):List Int:=(l.filter gw).map (afL data R)
theorem ahY{data:List IObj}{R:List Rg}(h:gw o=true):obs data R (l++ [o])=obs data R l++ [afL data R o]:=by
 unfold obs;rw[List.filter_append,List.filter_cons_of_pos h,List.filter_nil,Js];rfl
theorem ain{data:List IObj}{R:List Rg}(h:gw o=false):obs data R (l++ [o])=obs data R l:=by
 unfold obs;rw[List.filter_append,List.filter_cons_of_neg (by rw[h];decide),List.filter_nil,Ua]
theorem obs_le (data:List IObj)(R:List Rg)(l:List IOp):(obs data R l).length<=l.length:=by unfold obs;rw[Nr];exact List.length_filter_le _ _
theorem aio:∀(l:List IBlk),(∀b∈l,b.ops.length<=2000000)->(l.flatMap (·.ops)).length<=l.length*2000000
 | [],_=>by simp
 |b::l,h=>by
  have h1:=aio l fun x hx=>h x (.tail _ hx)
  have h2:=h b (.head _);rw[Qa,Jk,Nq];omega
theorem em(h:l[j]? =some o):l.take (j+1)=l.take j++ [o]:=by rw[Nh,h];rfl
theorem agY{b:IBlk}(h:bl[k]? =some b):(bl.take (k+1)).flatMap (·.ops)=(bl.take k).flatMap (·.ops)++b.ops:=by rw[Nh,h,Nx];simp
structure ObS (w wx:World) (t2 rb:Nat) (pc:Array Value) (R:List Rg) (bl:List IBlk):Prop where
 below:Below t2 w wx
 p2:wx.heap[t2]? =some (.cells pc 29 (0,0))
 row:bl≠ []->wx.heap[rb]? =some (.cells (R.flatMap pn).toArray 45 (0,0))
theorem ObS.lt{rb:Nat}{R:List Rg}(h:ObS w wx t2 rb pc R bl):t2<=wx.heap.size:=Qd (lt_of_block h.p2)
theorem ObS.keep{rb:Nat}{R:List Rg}(h:ObS w wx t2 rb pc R bl)(hb:Y wx W):ObS w W t2 rb pc R bl:=
 ⟨h.below.trans (hb.mono h.lt),zH hb h.p2 (lt_of_block h.p2),fun h0=>zH hb (h.row h0) (lt_of_block (h.row h0))⟩
theorem ObS.drew{rb:Nat}{R:List Rg}(h:ObS w wx t2 rb pc R bl):ObS w wx.drew t2 rb pc R bl:=⟨h.below.drew,h.p2,h.row⟩
theorem own_ge{n:Nat}{v:Value}{xs:List Value}(ho:wx.ownsRow t2 3 1 v n xs):∀k,v.ownBlock=some k->t2<=k:=fun k hk=>by
 rcases ho.2 with⟨rfl,_⟩|⟨g,d,cur,rfl,c,_⟩
 ·cases hk
 ·cases hk;exact c
theorem ObS.grown{rb:Nat}{R:List Rg}(h:ObS w wx t2 rb pc R bl){n:Nat}{v:Value}{xs:List Value}(ho:wx.ownsRow t2 3 1 v n xs)(hg:wx.grownBy W v.ownBlock):ObS w W t2 rb pc R bl:=
 ⟨h.below.grown hg h.lt (own_ge ho),zL hg h.p2 (zC ho h.p2 (.inr Zd)),fun h0=>zL hg (h.row h0) (zC ho (h.row h0) (.inr Zd))⟩
structure ObT (w wx:World) (t2 rb:Nat) (pc:Array Value) (R:List Rg) (bl:List IBlk) (t10:Nat) (oc:Array Value):Prop where
 s:ObS w wx t2 rb pc R bl
 op:wx.heap[t10]? =some (.cells oc 76 (0,0))
theorem ObT.keep{rb:Nat}{R:List Rg}(h:ObT w wx t2 rb pc R bl c oc)(hb:Y wx W):ObT w W t2 rb pc R bl c oc:=
 ⟨h.s.keep hb,zH hb h.op (lt_of_block h.op)⟩
theorem ObT.grown{rb:Nat}{R:List Rg}(h:ObT w wx t2 rb pc R bl c oc){n:Nat}{v:Value}{xs:List Value}(ho:wx.ownsRow t2 3 1 v n xs)(hg:wx.grownBy W v.ownBlock):ObT w W t2 rb pc R bl c oc:=
 ⟨h.s.grown ho hg,zL hg h.op (zC ho h.op (.inr Zd))⟩
theorem ObS.rcell{rb:Nat}{R:List Rg}(h:ObS w wx t2 rb pc R bl)(c:bl≠ []){x:Nat}(d:x<R.length):
 A wx rb (x*2) (O ((R.getD x ⟨0,0⟩).lo:Int))/\A wx rb (x*2+1) (O ((R.getD x ⟨0,0⟩).hi:Int)):=by
 have hg:R[x]? =some (R.getD x ⟨0,0⟩):=by rw[Jj,Jd d];rfl
 exact⟨by have:=oW (f:=pn) (n:=2) (fun _=>rfl) (h.row c) hg (j:=0) rfl;rw[Ng,Uk] at this;exact this,by have:=oW (f:=pn) (n:=2) (fun _=>rfl) (h.row c) hg (j:=1) rfl;rw[Ng] at this;exact this⟩
def afZ (w:World)(l:List Int)(e:Ending)(w':World):Prop:=∃v,e=.returned v/\w'.ownsRow w.heap.size 3 1 v l.length (l.map zN)/\Y w w'
theorem afC{p:IProg}(h:FnS p bl):(∀a∈p6 p bl,a.ok)/\(p6 p bl).length=(aaG bl).toNat:=by
 refine⟨fun a ha=>?_,af2 h.end.ok⟩;unfold p6 afG at ha;obtain⟨⟨x,b⟩,c,rfl⟩:=Nu.1 ha
 dsimp only
 split
 ·exact h.end.ok.ok x (List.of_mem_zip c).1
 ·exact cw
theorem acc_use{p:IProg}(h:FnS p bl){b:IBlk}(hb:bl[k]? =some b)(ho:o∈b.ops)(c:gw o=true):0<=o.a/\o.a.toNat<(p6 p bl).length:=by
 have hk:=(Jh.1 hb).1;have:=((h.rng k hk).2 o (by rw[vt hb];exact ho)).1.a (ajE c);rw[(afC h).2];exact this
theorem agx:gw o=decide (o.code=18∨o.code=19∨o.code=20∨o.code=21):=by
 unfold gw;rw[Bool.eq_iff_iff];simp only[Jm,decide_eq_true_eq];omega
theorem ag5{B:Nat}{V:PV}{p:IProg}(hp:ProgIn w B V p)(hB:B<=w.heap.size)(hs:∀f∈p.funcs,vZ f)(hv:vC p=0){f:Nat}(hf:p.funcs[f]? =some bl):
 I 16 #[yH V p,U f] w (afZ w (ae9 p.data (p6 p bl) bl)):=by
 have a0:=hs bl (Ji hf);have l9:=(Jh.1 hf).1;obtain⟨R,hR⟩:∃R,p6 p bl=R:=⟨_,rfl⟩
 have hF:bl≠ []->FnS p bl:=fun h0=>ai8 hv hs hp.p64 hf h0
 have g2:∀W,Below w.heap.size w W->I 35 #[yH V p] W (m9 W 0):=fun W hb=>by
  have:=tu (hp.below (hb.mono hB)) (Jn hB hb.size) hs;rw[hv] at this;exact this
 have g3:∀W,Below w.heap.size w W->I 15 #[yH V p,U f] W (fun e w'=>∃(ra:Option Addr) (rn rc:Nat),e=.returned (.slice ra rn rc)/\Below W.heap.size W w'/\((bl=[]/\ra=none/\rn=0/\rc=0)∨bl≠ []/\rn=R.length/\rc=R.length/\∃rb,ra=some ⟨rb,0,none⟩/\Q w' rb (R.flatMap pn).toArray 45)):=fun W hb=>by
  by_cases h0:bl=[]
  ·subst h0;refine(ahe (hp.below (hb.mono hB)) (Jn hB hb.size) hs hv f hf).mono ?_;rintro e w' ⟨rfl,i8⟩;exact⟨none,0,0,rfl,i8,.inl ⟨rfl,rfl,rfl,rfl⟩⟩
  ·refine(agQ (hp.below (hb.mono hB)) (Jn hB hb.size) hs hv hf h0).mono ?_;rintro e w' ⟨rb,rfl,h1,h2,h3⟩;rw[hR] at h1 ⊢;exact⟨_,_,_,rfl,h3,.inr ⟨h0,rfl,rfl,rb,rfl,h1⟩⟩
 have g4:∀(a:Rg) (n:Int) W,Below w.heap.size w W->a.ok->(0<=n/\n<=2)->I 43 #[yH V p,.agg #[O (a.lo:Int),O (a.hi:Int)],U n] W (afl W (ae6 p.data 0 a n)):=fun a n W hb ha hn=>ajv (hp.below (hb.mono hB)) (Jn hB hb.size) ha n hn
 obtain⟨Vf,Va,Vd,Vb⟩:=V;obtain⟨f1,f2,e1,m1,m0⟩:=hp.funcs.form;have i9:Vf=.slice f1 p.funcs.length f2:=e1;subst i9;obtain⟨gb,go,rfl,d4,bv,g0,d6⟩:=hp.funcs.get hf;obtain⟨ka,kc,rfl,l7,l6⟩:=d6.form;rw[Nk] at g0;obtain⟨X,hX⟩:∃X,w.alloc (G #[.slice (some ⟨gb,go,none⟩) p.funcs.length f2,Va,U p.entry,U p.handler,Vd,Vb] 29)=X:=⟨_,rfl⟩
 have f6:Below w.heap.size w X:=by rw[<-hX];exact(Below.refl _ _).alloc (Je _) _
 have u:Q X w.heap.size #[.slice (some ⟨gb,go,none⟩) p.funcs.length f2,Va,U p.entry,U p.handler,Vd,Vb] 29:=by rw[<-hX];exact zI rfl
 have x0:=zA (i:=0) u rfl;have x1:=zA (i:=1) u rfl;have x2:=zA (i:=2) u rfl;have x3:=zA (i:=3) u rfl;have x4:=zA (i:=4) u rfl;have x5:=zA (i:=5) u rfl;have c9:=lt_of_block u;have HX:=Ja (Jb f6 u)
 have HC:=Ja (show(∀W,Below w.heap.size w W->I 35 #[.agg #[.slice (some ⟨gb,go,none⟩) p.funcs.length f2,Va,U p.entry,U p.handler,Vd,Vb]] W (m9 W 0))/\(∀W,Below w.heap.size w W->I 15 #[.agg #[.slice (some ⟨gb,go,none⟩) p.funcs.length f2,Va,U p.entry,U p.handler,Vd,Vb],U f] W (fun e w'=>∃(ra:Option Addr) (rn rc:Nat),e=.returned (.slice ra rn rc)/\Below W.heap.size W w'/\((bl=[]/\ra=none/\rn=0/\rc=0)∨bl≠ []/\rn=R.length/\rc=R.length/\∃rb,ra=some ⟨rb,0,none⟩/\Q w' rb (R.flatMap pn).toArray 45)))/\
  (∀(a:Rg) (n:Int) W,Below w.heap.size w W->a.ok->(0<=n/\n<=2)->I 43 #[.agg #[.slice (some ⟨gb,go,none⟩) p.funcs.length f2,Va,U p.entry,U p.handler,Vd,Vb],.agg #[O (a.lo:Int),O (a.hi:Int)],U n] W (afl W (ae6 p.data 0 a n))) from⟨g2,g3,g4⟩)
 have HG:=Ja (show ∀W,Below w.heap.size w W->A W gb (go+f) (.slice ka bl.length kc)/\wX W B (.slice ka bl.length kc) bl/\B<=W.heap.size/\gb<W.heap.size from fun W hb=>⟨zV (hb.mono hB) d4 g0,d6.below yT (hb.mono hB),Jn hB hb.size,Jy d4 (Jn hB hb.size)⟩);have HF:=Ja (Jb hF (Jb hR a0));have k2:decide ((f:Int)<0)=false:=decide_eq_false Zo;have k1:decide ((p.funcs.length:Int)<=(f:Int))=false:=decide_eq_false Zo;have k0:decide (p.funcs.length<=f)=false:=decide_eq_false Zo;have k4:bl.length<=2000000:=a0.1;clear hp hB hs hv g2 g3 g4 g0 d6 d4 f6 u hF hR a0 hf;unfold yH;go_enter Tryz.func16,Tryz.ntmps16;go_upto_region 2 with(go_at_call 15;go_must (refine(HC.out.2.1 _ HX.out.1).mono ?_;rintro e w1 ⟨ra,rn,rc,rfl,d7,f3⟩))
 have b0:=zH d7 HX.out.2 c9;have m:=Ja (Jb (HX.out.1.trans (d7.mono HX.out.1.size)) (Jb b0 f3));clear hX x0 x1 x2 x3 x4 x5 d7 b0 f3 c9;have f0:=lt_of_block m.out.2.1
 go_cut [5,31] from 14 to 31 (fun s v wx=>s=.slice ra rn rc/\v=.bool false/\Hid (Below w1.heap.size w1 wx))
 case first=>
  have y0:=zA (i:=0) m.out.2.1 rfl;have y1:=zA (i:=1) m.out.2.1 rfl;have y2:=zA (i:=2) m.out.2.1 rfl;have y3:=zA (i:=3) m.out.2.1 rfl;have y4:=zA (i:=4) m.out.2.1 rfl;have y5:=zA (i:=5) m.out.2.1 rfl;have hq:=fun W=>Lib.run_eql_slice_nil (P:=Tryz.prog) W 34 45 ra rn rc 0 0 Tryz.underlying34
  cases ra with
  |none=>
   go_wp2_with (go_at_call 35;go_must (refine(HC.out.1 _ m.out.1).mono ?_;rintro e w2 ⟨rfl,f9⟩;have b0:=zH f9 m.out.2.1 f0;have z0:=zA (i:=0) b0 rfl;have l5:=lt_of_block b0))
   go_meet
   exact⟨rfl,rfl,Ja f9⟩
  |some ra=>
   go_wp2_with fail;go_meet;exact⟨rfl,rfl,Ja (Below.refl _ _)⟩
 case rest=>
  obtain⟨rfl,rfl,HW⟩:=hcut;obtain⟨ii,i1,g9,g6,g5⟩:=info_parts Tryz.info_int;have a5:=zH HW.out m.out.2.1 f0;have y0:=zA (i:=0) a5 rfl;obtain⟨yg,_,m3,l8⟩:=HG.out wc (m.out.1.trans (HW.out.mono m.out.1.size));have h7:=lt_of_block a5;obtain⟨t2,d1⟩:∃t,w.heap.size=t:=⟨_,rfl⟩
  obtain⟨rb,a7⟩:∃rb:Nat,bl≠ []->ra=some ⟨rb,0,none⟩/\rn=R.length/\rc=R.length/\Q wc rb (R.flatMap pn).toArray 45:=by
   rcases m.out.2.2 with⟨h0,_⟩|⟨h0,h1,h2,rb,h3,h4⟩
   ·exact⟨0,fun h=>absurd h0 h⟩
   ·exact⟨rb,fun _=>⟨h3,h1,h2,zH HW.out h4 (lt_of_block h4)⟩⟩
  have HS:=Ja (show ObS w wc w.heap.size rb #[.slice (some ⟨gb,go,none⟩) p.funcs.length f2,Va,U p.entry,U p.handler,Vd,Vb] R bl from⟨m.out.1.trans (HW.out.mono m.out.1.size),a5,fun h0=>(a7 h0).2.2.2⟩);have j1:=Ja (show bl≠ []->ra=some ⟨rb,0,none⟩/\rn=R.length/\rc=R.length from fun h=>⟨(a7 h).1,(a7 h).2.1,(a7 h).2.2.1⟩);rw[d1] at HS y0 h7 HG HC ⊢;have HT:=Ja d1;clear d1;have j4:=Ja (show B<=t2 by rw[<-HT.out];exact(HG.out w (Below.refl _ _)).2.2.1);have b7:wc.ownsRow t2 3 1 (L) 0 ((obs p.data R ([]:List IOp)).map zN):=Jv _ _ _ _;have j3:=Ja b7;clear a7 b7 a5;go_wp2;clear y0 yg
  go_loopw [6,39] (fun sv kv wx=>∃(k:Nat) (oa:Option Addr) (on oc:Nat),k<=bl.length/\sv=.slice oa on oc/\kv=U k/\Hid (on=(obs p.data R ((bl.take k).flatMap (·.ops))).length/\ObS w wx t2 rb #[.slice (some ⟨gb,go,none⟩) p.funcs.length f2,Va,U p.entry,U p.handler,Vd,Vb] R bl/\wx.ownsRow t2 3 1 (.slice oa on oc) on ((obs p.data R ((bl.take k).flatMap (·.ops))).map zN))) (fun _ kv _=>bl.length-(intOf kv).toNat)
  case atStart=>exact⟨0,none,0,0,Jt _,rfl,rfl,Ja ⟨rfl,HS.out,j3.out⟩⟩
  case round=>
   obtain⟨k,oa,on,oc,hk,rfl,rfl,HK⟩:=hrel
   by_cases g:k<bl.length
   ·have b3:(k:Int)<(bl.length:Int):=Zo;obtain⟨b,hb⟩:∃b,bl[k]? =some b:=⟨_,Jd g⟩
    have h9:bl≠ []:=fun e=>by rw[e] at g;exact absurd g (Nat.not_lt_zero _)
    obtain⟨_,d5,a4,_⟩:=HG.out wr HK.out.2.1.below;obtain⟨bb,bo,i0,f7,c2,c3,h64,pv,ov,tv,c0,c1,c4,d3,b2,d0⟩:=d5.get hb;obtain⟨pa,pc,rfl,l3,l2⟩:=d3.form;obtain⟨qa,qc,rfl,l1,l0⟩:=b2.form;obtain⟨ta,tc,rfl,k9,k7⟩:=d0.form;subst i0;have k5:bb<wr.heap.size:=Jy f7 a4;have f5:=HF.out.2.2.2 b (Ji hb);have l4:b.ops.length<=2000000:=f5.2.1;obtain⟨Y,hY⟩:∃Y,wr.alloc (G #[.slice pa b.params.length pc,.slice qa b.ops.length qc,U b.term.kind,U b.term.a,.slice ta b.term.to.length tc] 84)=Y:=⟨_,rfl⟩
    have b9:Below wr.heap.size wr Y:=by rw[<-hY];exact(Below.refl _ _).alloc (Je _) _
    have e8:Q Y wr.heap.size #[.slice pa b.params.length pc,.slice qa b.ops.length qc,U b.term.kind,U b.term.a,.slice ta b.term.to.length tc] 84:=by rw[<-hY];exact zI rfl
    have HY:=Ja (show ObS w Y t2 rb #[.slice (some ⟨gb,go,none⟩) p.funcs.length f2,Va,U p.entry,U p.handler,Vd,Vb] R bl/\Y.ownsRow t2 3 1 (.slice oa on oc) on ((obs p.data R ((bl.take k).flatMap (·.ops))).map zN)/\Q Y wr.heap.size #[.slice pa b.params.length pc,.slice qa b.ops.length qc,U b.term.kind,U b.term.a,.slice ta b.term.to.length tc] 84/\mN Y B (.slice qa b.ops.length qc) b.ops from⟨HK.out.2.1.keep b9,p7 HK.out.2.2 b9 (Je _),e8,b2.below xA (b9.mono a4)⟩);have d:=Ja (Jb hb (Jb h9 (Jb g HK.out.1)));clear d5 hb f7 d3 b2 d0 b9 e8 f5 h64 g a4;go_upto_region 8 with fail;clear hY c0 c1 c2 c3 c4;obtain⟨t8,e9⟩:∃t,wr.heap.size=t:=⟨_,rfl⟩
    rw[e9] at HY ⊢;clear e9;have z1:A Y t8 1 (.slice qa b.ops.length qc):=zA HY.out.2.2.1 rfl;go_wp2;clear z1
    go_loopw [6,46] (fun sv jv wx=>∃(j:Nat) (oa:Option Addr) (on oc:Nat),j<=b.ops.length/\sv=.slice oa on oc/\jv=U j/\Hid (on=(obs p.data R ((bl.take k).flatMap (·.ops)++b.ops.take j)).length/\ObS w wx t2 rb #[.slice (some ⟨gb,go,none⟩) p.funcs.length f2,Va,U p.entry,U p.handler,Vd,Vb] R bl/\wx.ownsRow t2 3 1 (.slice oa on oc) on ((obs p.data R ((bl.take k).flatMap (·.ops)++b.ops.take j)).map zN)/\Below t2 Y wx)) (fun _ jv _=>b.ops.length-(intOf jv).toNat)
    case atStart=>exact⟨0,oa,on,oc,Jt _,rfl,rfl,Ja ⟨by rw[Uc,Ua];exact d.out.2.2.2,HY.out.1,by rw[Uc,Ua];exact HY.out.2.1,Below.refl _ _⟩⟩
    case round=>
     obtain⟨j,oa,on,oc,hj,rfl,rfl,HJ⟩:=hrel
     by_cases g:j<b.ops.length
     ·have b3:(j:Int)<(b.ops.length:Int):=Zo;obtain⟨o,ho⟩:∃o,b.ops[j]? =some o:=⟨_,Jd g⟩
      obtain⟨qb,qo,h8,f4,e0,e1,e2,e3,e4,h64,av,e5,g1⟩:=(HY.out.2.2.2.below xA (HJ.out.2.2.2.mono j4.out)).get ho;obtain⟨aa,ac,rfl,_,_⟩:=g1.form;subst h8;have a4:B<=wr.heap.size:=(HG.out wr HJ.out.2.1.below).2.2.1;have j5:qb<wr.heap.size:=Jy f4 a4;obtain⟨c,hc⟩:∃c,o.code=c:=⟨_,rfl⟩
      obtain⟨y,hy⟩:∃y,o.a=y:=⟨_,rfl⟩
      rw[hc] at e0;rw[hy] at e2;obtain⟨Z,hZ⟩:∃Z,wr.alloc (G #[U c,U o.res,U y,U o.b,O (o.n:Int),.slice aa o.args.length ac] 76)=Z:=⟨_,rfl⟩
      have b8:Below wr.heap.size wr Z:=by rw[<-hZ];exact(Below.refl _ _).alloc (Je _) _
      have c7:Q Z wr.heap.size #[U c,U o.res,U y,U o.b,O (o.n:Int),.slice aa o.args.length ac] 76:=by rw[<-hZ];exact zI rfl
      have l:=Ja (show ObS w Z t2 rb #[.slice (some ⟨gb,go,none⟩) p.funcs.length f2,Va,U p.entry,U p.handler,Vd,Vb] R bl/\Z.ownsRow t2 3 1 (.slice oa on oc) on ((obs p.data R ((bl.take k).flatMap (·.ops)++b.ops.take j)).map zN)/\Q Z wr.heap.size #[U c,U o.res,U y,U o.b,O (o.n:Int),.slice aa o.args.length ac] 76/\Below t2 Y Z from⟨HJ.out.2.1.keep b8,p7 HJ.out.2.2.1 b8 (Je _),c7,HJ.out.2.2.2.trans (b8.mono HJ.out.2.1.lt)⟩)
      have k3:on<=4000000000000:=by
       have h1:=HJ.out.1;have h2:=obs_le p.data R ((bl.take k).flatMap (·.ops)++b.ops.take j);have h3:=aio (bl.take k) fun x hx=>(HF.out.2.2.2 x (List.mem_of_mem_take hx)).2.1
       rw[Jk,Oc] at h2;rw[Oc] at h3;have h4:=d.out.2.2.1;omega
      have HO:=Ja (Jb ho (Jb hc (Jb hy (Jb g HJ.out.1))));clear ho h64 g1 b8 c7 g f4 a4;go_upto_region 11 with fail;clear hZ e0 e1 e2 e3 e4 e5 hc hy;obtain⟨b4,d2⟩:∃t,wr.heap.size=t:=⟨_,rfl⟩
      rw[d2] at l ⊢;clear d2;have z0:A Z b4 0 (U c):=zA l.out.2.2.1 rfl
      by_cases a3:c=18∨c=19∨c=20∨c=21
      ·have a2:gw o=true:=by rw[agx,HO.out.2.1];exact decide_eq_true a3
       have c8:=acc_use (HF.out.1 d.out.2.1) d.out.1 (Ji HO.out.1) a2;rw[HF.out.2.1,HO.out.2.2.1] at c8;obtain⟨yn,rfl⟩:∃yn:Nat,y=yn:=⟨y.toNat,by omega⟩
       have b5:yn<R.length:=by have:=c8.2;rw[Ni] at this;exact this
       obtain⟨rfl,rfl,rfl⟩:=j1.out d.out.2.1
       have m2:R.length<=65536:=by
        have h1:=(afC (HF.out.1 d.out.2.1)).2;rw[HF.out.2.1] at h1;have h2:=(HF.out.1 d.out.2.1).cnt;omega
       obtain⟨a,ha⟩:∃a,R.getD yn ⟨0,0⟩=a:=⟨_,rfl⟩
       have d8:a.ok:=by
        have h1:=(afC (HF.out.1 d.out.2.1)).1;rw[HF.out.2.1] at h1;refine h1 a ?_;rw[<-ha,Jj,Jd b5];exact Uf b5
       obtain⟨z,hz⟩:∃z,afL p.data R o=z:=⟨_,rfl⟩
       have e7:∀n,agj o=n->ae6 p.data 0 a n=z:=fun n hn=>by rw[<-hz,<-ha,<-hn];unfold afL;rw[HO.out.2.2.1,Ni]
       have a6:obs p.data R ((bl.take k).flatMap (·.ops)++b.ops.take (j+1))=obs p.data R ((bl.take k).flatMap (·.ops)++b.ops.take j)++ [z]:=by
        rw[em HO.out.1,<-Nv,ahY a2,hz]
       have HA:=Ja (Jb a6 (Jb d8 (Jb e7 (Jb a2 ha))));have hrl:=lt_of_block (l.out.1.row d.out.2.1);clear c8 ha d8 hz e7 a6 a2
       have i2:((c==18)=true/\agj o=2)∨((c==18)=false/\(c==20)=true/\agj o=2)∨((c==18)=false/\(c==20)=false/\(c==19)=true/\agj o=1)∨((c==18)=false/\(c==20)=false/\(c==19)=false/\(c==21)=true/\agj o=1):=by
        unfold agj;rw[HO.out.2.1];rcases a3 with rfl|rfl|rfl|rfl
        ·exact .inl ⟨rfl,rfl⟩
        ·exact .inr (.inr (.inl ⟨rfl,rfl,rfl,rfl⟩))
        ·exact .inr (.inl ⟨rfl,rfl,rfl⟩)
        ·exact .inr (.inr (.inr ⟨rfl,rfl,rfl,rfl,rfl⟩))
       clear a3;rcases i2 with⟨c5,a0⟩|⟨c5,e6,a0⟩|⟨c5,e6,h6,a0⟩|⟨c5,e6,h6,k6,a0⟩
       all_goals (
        have HS:=Ja (show ∀w',ObT w w' t2 rb #[.slice (some ⟨gb,go,none⟩) p.funcs.length f2,Va,U p.entry,U p.handler,Vd,Vb] R bl b4 #[U c,U o.res,U yn,U o.b,O (o.n:Int),.slice aa o.args.length ac]->(A w' t2 0 (.slice (some ⟨gb,go,none⟩) p.funcs.length f2)/\A w' t2 1 Va/\A w' t2 2 (U p.entry)/\A w' t2 3 (U p.handler)/\A w' t2 4 Vd/\A w' t2 5 Vb)/\A w' b4 2 (U yn)/\A w' rb (yn*2) (O (a.lo:Int))/\A w' rb (yn*2+1) (O (a.hi:Int)) from fun W h=>⟨⟨zA h.s.p2 rfl,zA h.s.p2 rfl,zA h.s.p2 rfl,zA h.s.p2 rfl,zA h.s.p2 rfl,zA h.s.p2 rfl⟩,zA h.op rfl,by rw[<-HA.out.2.2.2.2];exact(h.s.rcell d.out.2.1 b5).1,by rw[<-HA.out.2.2.2.2];exact(h.s.rcell d.out.2.1 b5).2⟩)
        have j2:=Ja (show ∀n W,agj o=n->Below t2 w W->I 43 #[.agg #[.slice (some ⟨gb,go,none⟩) p.funcs.length f2,Va,U p.entry,U p.handler,Vd,Vb],.agg #[O (a.lo:Int),O (a.hi:Int)],U n] W (afl W z) from fun n W hn hb=>by
         rw[<-HA.out.2.2.1 n hn];exact HC.out.2.2 a n W hb HA.out.2.1 (by rw[<-hn];unfold agj;split<;>decide))
        have j0:=Ja a0;clear a0
        first|go_upto_region 14 with fail|go_upto_region 17 with fail
        clear z0;refine wp_region_noPanic ?_;refine yQ (S:=(fun w'=>(A w' t2 0 (.slice (some ⟨gb,go,none⟩) p.funcs.length f2)/\A w' t2 1 Va/\A w' t2 2 (U p.entry)/\A w' t2 3 (U p.handler)/\A w' t2 4 Vd/\A w' t2 5 Vb)/\A w' b4 2 (U yn)/\A w' rb (yn*2) (O (a.lo:Int))/\A w' rb (yn*2+1) (O (a.hi:Int)))) 10 Zk (HS.out _ ⟨l.out.1.drew,l.out.2.2.1⟩) (fun hHeld=>?_);refine Tl 0 ?_
        try simp only[Yp]
        refine Tl 1 ?_
        try simp only[Yp]
        refine Tl 2 ?_
        try simp only[Yp]
        refine Tl 3 ?_
        try simp only[Yp]
        refine Tl 4 ?_
        try simp only[Yp]
        refine Tl 5 ?_
        try simp only[Yp]
        refine Tl 6 ?_
        try simp only[Yp]
        refine y7 (rs:=[7]) Zk Zs ?_;refine zS.cons (o:=_) rfl (fun K hK=>?_) ?_
        ·skip
         (go_simp;refine(j2.out _ _ j0.out l.out.1.below.drew).mono ?_;rintro e w5 ⟨rfl,f8⟩;have b1:Below Z.heap.size Z w5:=(Below.refl Z.heap.size Z).drew.trans f8;clear f8;have H5:=Ja (Jb (ObT.keep ⟨l.out.1,l.out.2.2.1⟩ b1) (Jb (p7 l.out.2.1 b1 (Je _)) (Jb b1 (show t2<=(w5.alloc (G #[U z] 3)).heap.size by have:=l.out.1.lt;have:=b1.size;simp;omega))));clear b1)
         refine hK.out _ _ (HS.out _ H5.out.1) (fun hHeld=>?_);clear hK K
         try simp only[Yp]
         refine y7 (rs:=[8]) Zk Zs ?_;refine zS.cons (o:=_) rfl (fun K hK=>?_) ?_
         ·skip
          go_simp;refine hK.out _ _ (HS.out _ (H5.out.1.keep ((Below.refl _ _).alloc (Je _) _))) (fun hHeld=>?_);clear hK K
          try simp only[Yp]
          refine y7 (rs:=[9]) Zk Zs ?_;refine zS.cons (o:=_) rfl (fun K hK=>?_) ?_
          ·skip
           (refine yG (by rfl) _ _ _ (by rfl) t2 3 ii (U 0) 1 8 Tryz.underlying22 i1 g9 g6 g5 rfl Zo (.slice oa on oc) on ((obs p.data R ((bl.take k).flatMap (·.ops)++b.ops.take j)).map zN) (by rfl) (H5.out.2.1.alloc _) (T w5.heap.size 1 1) 1 [U z] (by rfl) (yM.one (zI rfl) rfl) (by unfold maxLen;omega) Zo H5.out.2.2.2 ?_;intro va9 vc9 w9 b6 a1 h5;(try dsimp only))
           refine hK.out _ _ (HS.out _ ((H5.out.1.keep ((Below.refl _ _).alloc (Je _) _)).grown (H5.out.2.1.alloc _) a1)) (fun hHeld=>?_);clear hK K
           try simp only[Yp]
           refine y7 (rs:=[10]) Zk Zs ?_;refine zS.last (o:=_) rfl (fun K hK=>?_);go_simp;refine hK.out _ _ ?_;clear hK K
           try simp only[Yp]
           refine xj Zk (NoPanic.normal ?_) _
           have d9:=Ja (show ObS w w9 t2 rb #[.slice (some ⟨gb,go,none⟩) p.funcs.length f2,Va,U p.entry,U p.handler,Vd,Vb] R bl/\w9.ownsRow t2 3 1 (.slice va9 (on+1) vc9) (on+1) ((obs p.data R ((bl.take k).flatMap (·.ops)++b.ops.take (j+1))).map zN)/\Below t2 Y w9 from by
            have h2:=(H5.out.1.s.keep ((Below.refl _ _).alloc (Je _) (G #[U z] 3))).grown (H5.out.2.1.alloc _) a1;have h4:Below t2 Y (w5.alloc (G #[U z] 3)):=(l.out.2.2.2.trans (H5.out.2.2.1.mono l.out.1.lt)).alloc H5.out.1.s.lt _
            exact⟨h2,by rw[HA.out.1,Js];exact b6,h4.grown a1 H5.out.2.2.2 (own_ge H5.out.2.1)⟩)
           clear b6 a1 h5 hHeld;go_wp2_with fail;go_roundw
           case rel=>exact⟨j+1,va9,on+1,vc9,HO.out.2.2.2.1,rfl,by go_num,Ja ⟨by rw[HA.out.1,Jk,<-HO.out.2.2.2.2];rfl,d9.out.1,d9.out.2.1,d9.out.2.2⟩⟩
           case measure=>have:=HO.out.2.2.2.1;simp[intOf];omega
          exact zS.nil
         exact zS.nil
        exact zS.nil)
      ·have a2:gw o=false:=by rw[agx,HO.out.2.1];exact decide_eq_false a3
       have a6:obs p.data R ((bl.take k).flatMap (·.ops)++b.ops.take (j+1))=obs p.data R ((bl.take k).flatMap (·.ops)++b.ops.take j):=by
        rw[em HO.out.1,<-Nv,ain a2]
       have HA:=Ja a6;have m7:(c==18)=false:=Ze;have m6:(c==19)=false:=Ze;have m5:(c==20)=false:=Ze;have m4:(c==21)=false:=Ze;clear a6 a2 a3;go_wp2;go_roundw
       case rel=>exact⟨j+1,oa,on,oc,HO.out.2.2.2.1,rfl,by go_num,Ja ⟨by rw[HA.out];exact HO.out.2.2.2.2,l.out.1,by rw[HA.out];exact l.out.2.1,l.out.2.2.2⟩⟩
       case measure=>have:=HO.out.2.2.2.1;simp[intOf];omega
     ·obtain rfl:j=b.ops.length:=by omega
      have b3:¬(b.ops.length:Int)<(b.ops.length:Int):=Zo;clear hj g;go_wp2;go_roundw
      case rel=>exact⟨k+1,oa,on,oc,d.out.2.2.1,rfl,by go_num,Ja ⟨by rw[agY d.out.1];have:=HJ.out.1;rw[Nl] at this;exact this,HJ.out.2.1,by rw[agY d.out.1];have:=HJ.out.2.2.1;rw[Nl] at this;exact this⟩⟩
      case measure=>have:=d.out.2.2.1;simp[intOf];omega
   ·obtain rfl:k=bl.length:=by omega
    have b3:¬(bl.length:Int)<(bl.length:Int):=Zo;have HE:=Ja (show ae9 p.data (p6 p bl) bl=obs p.data R ((bl.take bl.length).flatMap (·.ops)) by rw[HF.out.2.1,Nl];rfl);clear hk g;go_wp2;go_ret;refine⟨_,rfl,?_,by rw[HT.out];exact HK.out.2.1.below⟩;rw[HE.out,<-HK.out.1,HT.out];exact HK.out.2.2
theorem agI:vC (aim 19)=0:=by decide+kernel
theorem aiJ:vC (aim 18)=0:=by decide+kernel
theorem exm_r19:p6 (aim 19) (akm 19)=[⟨0,65535⟩,⟨15,15⟩,⟨0,15⟩,⟨16384,16384⟩,⟨16384,16399⟩,⟨0,255⟩]:=by kernel_rfl
theorem exm_o19:ae9 (aim 19).data (p6 (aim 19) (akm 19)) (akm 19)=[0]:=by kernel_rfl
theorem exm_o18:ae9 (aim 18).data (p6 (aim 18) (akm 18)) (akm 18)=[-1]:=by kernel_rfl
theorem ahQ (a:Int):∀f∈(aim a).funcs,vZ f:=by
 intro f hf;simp only[aim,Jq,List.not_mem_nil,or_false] at hf;rcases hf with rfl|rfl
 ·exact⟨by decide,fun b hb=>by simp only[mainL,Jo] at hb;subst hb;exact⟨by decide,by decide,by decide⟩⟩
 ·exact⟨by show(1:Nat)<=_;omega,fun b hb=>by simp only[akm,Jo] at hb;subst hb;exact⟨by show(1:Nat)<=_;omega,by show(5:Nat)<=_;omega,by show(0:Nat)<=_;omega⟩⟩
theorem own_one1{base:Nat}{v:Value}{z:Int}(h:w.ownsRow base 3 1 v 1 [U z]):∃g cap cur,v=T g 1 cap/\1<=cap/\Q w g cur 3/\cur[0]? =some (U z):=by
 rcases h.2 with⟨_,e⟩|⟨g,cap,cur,rfl,hg,d,h1,h2,h3,i⟩
 ·omega
 ·refine⟨g,cap,cur,rfl,h1,d,?_⟩;have c:(cur.toList.take (1*1))[0]? =some (U z):=by rw[i];rfl
  rw[List.getElem?_take_of_lt Zo] at c
  simpa using c
theorem ajm(hp:ProgIn w w.heap.size ⟨.slice f1 2 f2,.slice a1 2 a2,.slice d1 1 d2,.slice b1 0 b2⟩ (aim 19)):
 I 15 #[.agg #[.slice f1 2 f2,.slice a1 2 a2,U 0,U (-1),.slice d1 1 d2,.slice b1 0 b2],U 1] w (fun e w'=>∃b,e=.returned (T b 6 6)/\Q w' b #[O 0,O 65535,O 15,O 15,O 0,O 15,O 16384,O 16384,O 16384,O 16399,O 0,O 255] 45/\Y w w'):=by
 refine(agQ (f:=1) (bl:=akm 19) hp (Je _) (ahQ 19) agI rfl (fun h=>by cases h)).mono ?_;rintro e w' ⟨b,rfl,h1,h2,h3⟩;rw[exm_r19] at h1 ⊢;exact⟨b,rfl,h1,h3⟩
theorem agB{a z:Int}(hv:vC (aim a)=0)(ho:ae9 (aim a).data (p6 (aim a) (akm a)) (akm a)=[z])(hp:ProgIn w w.heap.size ⟨.slice f1 2 f2,.slice a1 2 a2,.slice d1 1 d2,.slice b1 0 b2⟩ (aim a)):
 I 16 #[.agg #[.slice f1 2 f2,.slice a1 2 a2,U 0,U (-1),.slice d1 1 d2,.slice b1 0 b2],U 1] w (fun e w'=>∃g cap,e=.returned (T g 1 cap)/\A w' g 0 (U z)/\g<w'.heap.size/\1<=cap/\Y w w'):=by
 refine(ag5 (f:=1) (bl:=akm a) hp (Je _) (ahQ a) hv rfl).mono ?_;rintro e w' ⟨v,rfl,h1,h2⟩;rw[ho] at h1;obtain⟨g,cap,cur,rfl,h3,c,d⟩:=own_one1 h1;exact⟨g,cap,rfl,zA c d,lt_of_block c,h3,h2⟩
theorem afq (w:World)(a:Int)(c:I64 a):I 30 #[U a] w (fun e w'=>∃f1 f2 a1 a2 d1 d2 b1 b2,e=.returned (.agg #[.slice f1 2 f2,.slice a1 2 a2,U 0,U (-1),.slice d1 1 d2,.slice b1 0 b2])/\ProgIn w' w'.heap.size ⟨.slice f1 2 f2,.slice a1 2 a2,.slice d1 1 d2,.slice b1 0 b2⟩ (aim a)/\Y w w'):=
 (aiI w a c).mono fun e w' h=>h.open
theorem ahv (w:World):I 11 #[] w fun e w'=>e=.returned (.bool true)/\Y w w':=by
 go_enter Tryz.func11,Tryz.ntmps11
 go_upto_region 2 with(first
  |(go_at_call 30;go_must (refine(afq _ 19 ⟨by decide,by decide⟩).mono ?_;rintro e w1 ⟨f1,f2,a1,a2,d1,d2,b1,b2,rfl,a0,o⟩))
  |(go_at_call 15;go_must (refine(ajm a0).mono ?_;rintro e w2 ⟨rb,rfl,u,a5⟩)))
 have t:=Ja (Jb u (o.trans (a5.mono o.size)));clear u o a5 a0
 go_upto_region 3 with(first
  |(go_at_call 30;go_must (refine(afq _ 19 ⟨by decide,by decide⟩).mono ?_;rintro e w3 ⟨f1,f2,a1,a2,d1,d2,b1,b2,rfl,y,m⟩))
  |(go_at_call 16;go_must (refine(agB agI exm_o19 y).mono ?_;rintro e w4 ⟨g4,c4,rfl,k,j,b3,a4⟩)))
 have g:=m.trans (a4.mono m.size);have h:=Ja (Jb (zH g t.out.1 (lt_of_block t.out.1)) (Jb (t.out.2.trans (g.mono t.out.2.size)) (Jb k j)));clear m a4 y g k j
 go_upto_region 4 with(first
  |(go_at_call 30;go_must (refine(afq _ 18 ⟨by decide,by decide⟩).mono ?_;rintro e w5 ⟨f1,f2,a1,a2,d1,d2,b1,b2,rfl,x,l⟩))
  |(go_at_call 16;go_must (refine(agB aiJ exm_o18 x).mono ?_;rintro e w6 ⟨g6,c6,rfl,b4,a7,b0,a3⟩)))
 have d:=l.trans (a3.mono l.size);have c:=zH d h.out.1 (lt_of_block h.out.1);have H6:=Ja (h.out.2.1.trans (d.mono h.out.2.1.size));have k:=(d.cell (p:=⟨g4,0,none⟩) h.out.2.2.2).trans h.out.2.2.1;have j:=Jy h.out.2.2.2 d.size;have x0:=zA (i:=2*2) c rfl;have x1:=zA (i:=2*2+1) c rfl;have x2:=zA (i:=4*2) c rfl;have x3:=zA (i:=4*2+1) c rfl;have x4:=zA (i:=4) c rfl;have x5:=zA (i:=5) c rfl;have x6:=zA (i:=8) c rfl;have x7:=zA (i:=9) c rfl;have a6:=lt_of_block c;clear d l a3 x c;go_wp2;go_ret;exact⟨rfl,H6.out⟩
open Classical in
noncomputable def rgsP (p:IProg) (f:Int):List Rg:=if ak2 p f then p6 p (p.funcs.getD f.toNat []) else []
open Classical in
noncomputable def objP (p:IProg) (f:Int):List Int:=if vC p=0/\0<=f/\f.toNat<p.funcs.length then ae9 p.data (p6 p (p.funcs.getD f.toNat [])) (p.funcs.getD f.toNat []) else []
def ah1 (w:World)(R:List Rg)(e:Ending)(w':World):Prop:=∃ra:Option Addr,e=.returned (.slice ra R.length R.length)/\(R≠ []->∃b,ra=some ⟨b,0,none⟩/\Q w' b (R.flatMap pn).toArray 45/\w.heap.size<=b)/\Y w w'
theorem ag8 {p:IProg}{f:Int}(h:0<=f/\f.toNat<p.funcs.length):p.funcs[f.toNat]? =some (p.funcs.getD f.toNat []):=by
 rw[Jj,Jd h.2];rfl
theorem afE{B:Nat}{V:PV}{p:IProg}(hp:ProgIn w B V p)(hB:B<=w.heap.size)(hs:∀f∈p.funcs,vZ f)(f:Int):
 I 15 #[yH V p,U f] w (ah1 w (rgsP p f)):=by
 unfold rgsP
 by_cases h:ak2 p f
 ·rw[if_pos h];obtain⟨hv,hr,c⟩:=h;have:=agQ hp hB hs hv (ag8 hr) c;rw[Oa hr.1] at this;refine this.mono ?_;rintro e w' ⟨b,rfl,h1,h2,h3⟩;exact⟨_,rfl,fun _=>⟨b,rfl,h1,h2⟩,h3⟩
 ·rw[if_neg h];refine(afU hp hB hs f h).mono ?_;rintro e w' ⟨rfl,hb⟩;exact⟨none,rfl,fun h=>absurd rfl h,hb⟩
theorem afb{B:Nat}{V:PV}{p:IProg}(hp:ProgIn w B V p)(hB:B<=w.heap.size)(hs:∀f∈p.funcs,vZ f)(f:Int):
 I 16 #[yH V p,U f] w (afZ w (objP p f)):=by
 unfold objP
 by_cases h:vC p=0/\0<=f/\f.toNat<p.funcs.length
 ·rw[if_pos h];have:=ag5 hp hB hs h.1 (ag8 h.2);rw[Oa h.2.1] at this;exact this
 ·rw[if_neg h];refine(ajy hp hB hs f h).mono ?_;rintro e w' ⟨rfl,hb⟩;exact⟨_,rfl,Jv _ _ _ _,hb⟩
theorem akn{p:IProg}{n:Nat}(hv:vC p=0)(c:p.funcs[n]? =some bl)(d:bl≠ []):rgsP p (n:Int)=p6 p bl:=by
 have hg:p.funcs.getD n []=bl:=by rw[Jj,c];rfl
 unfold rgsP;rw[Ni,hg,if_pos ⟨hv,⟨by omega,by rw[Ni];exact(Jh.1 c).1⟩,by rw[Ni,hg];exact d⟩]
theorem aje{p:IProg}{n:Nat}(hv:vC p=0)(hs:∀f∈p.funcs,vZ f)(h64:P64 p)(c:p.funcs[n]? =some bl):((rgsP p (n:Int)).length:Int)=aaG bl:=by
 by_cases d:bl=[]
 ·subst d;have hg:p.funcs.getD n []=[]:=by rw[Jj,c];rfl
  unfold rgsP;rw[if_neg (fun h=>h.2.2 (by rw[Ni];exact hg))];rfl
 ·have g:=ai8 hv hs h64 c d;rw[akn hv c d,(afC g).2];have:=g.cnt;omega
theorem objP_at{p:IProg}{n:Nat}(hv:vC p=0)(c:p.funcs[n]? =some bl):objP p (n:Int)=ae9 p.data (p6 p bl) bl:=by
 have hg:p.funcs.getD n []=bl:=by rw[Jj,c];rfl
 unfold objP;rw[if_pos ⟨hv,by omega,by rw[Ni];exact(Jh.1 c).1⟩,Ni,hg]
theorem jP{s:List Int}{sv:Value}(hs:zY w w.heap.size sv s):
 I 31 #[sv] w (fun e w'=>∃V:PV,e=.returned (yH V (uR s))/\(∀W,StaysL w.heap.size w' W->ProgIn W W.heap.size V (uR s))/\Y w w'):=by
 obtain⟨sa,sc,h9,_,_⟩:=hs.form;subst h9;have HS:=Ja hs;have f3:=mk_bank;obtain⟨Z,hZ⟩:∃Z,madeCells #[Value.int .u8 0] 4096=Z:=⟨_,rfl⟩
 rw[hZ] at f3;have HZ:=Ja hZ;clear hs hZ;go_enter Tryz.func31,Tryz.ntmps31;go_upto_region 2 with fail;generalize c4:(w.alloc (G #[L,L,U 0,U 0,L,L] 29)).alloc (G Z 5)=W0;have e8:Z=((uQ 0).map bd).toArray:=by rw[<-HZ.out,yA,mM,List.map_replicate];rfl
 have f0:Q W0 w.heap.size #[L,L,U 0,U 0,L,L] 29:=by rw[<-c4];exact zB (zI rfl)
 have f6:Q W0 (w.heap.size+1) ((uQ 0).map bd).toArray 5:=by rw[<-c4,<-e8];exact zI Zs
 have d7:Y w W0:=by rw[<-c4];exact((Below.refl _ _).alloc (Je _) _).alloc Zs _
 have H0:=Ja (Jb f6 (Jb f0 d7));obtain⟨rr,d1⟩:∃rr,w.heap.size=rr:=⟨_,rfl⟩
 rw[d1] at H0 ⊢;obtain⟨bb,d8⟩:∃bb,rr+1=bb:=⟨_,rfl⟩
 rw[d8] at H0 ⊢;have e5:=Ja (Jb d1 d8);clear e8 f0 f6 d7 c4 f3 d1 d8 HZ;go_wp2
 go_loopw [4] (fun kv wx=>∃k:Nat,k<=4096/\kv=U k/\Hid (Q wx bb ((uQ k).map bd).toArray 5/\Q wx rr #[L,L,U 0,U 0,L,L] 29/\Below rr w wx)) (fun kv _=>4096-(intOf kv).toNat)
 case atStart=>exact⟨0,Jt _,rfl,H0⟩
 case round=>
  obtain⟨k,hk,rfl,l⟩:=hrel
  by_cases a3:k<4096
  ·have a6:(k:Int)<4096:=Zo;have e4:=Ja a3;obtain⟨x,hx⟩:∃x,(uQ k)[k]? =some x:=⟨_,Jd (by rw[pM];exact a3)⟩
   have cx:A wr bb k (.int .u8 (x:Int)):=zA l.out.1 (by simp[hx,bd]);have fx:N wr bb k:=zE l.out.1;have k3:=lt_of_block l.out.1;have hq:k*k<=4095*4095:=Nat.mul_le_mul Zo Zo;have k1:(0:Int)<=(k:Int)*(k:Int):=by rw[<-Int.natCast_mul];exact Int.natCast_nonneg _
   have k0:(k:Int)*(k:Int)<=16769025:=by rw[<-Int.natCast_mul];omega
   clear a3 hx hq;go_wp2;have e1:((k:Int)*(k:Int)+(k:Int)/256)%256=((rp k:Nat):Int):=by unfold rp;simp
   rw[e1];refine⟨⟨k+1,e4.out,by go_num,Ja ⟨?_,zR (a:=⟨bb,k,none⟩) l.out.2.1 (by have:=e5.out.2;show rr≠bb;omega),l.out.2.2.setCell (by have:=e5.out.2;show rr<=bb;omega) _⟩⟩,by have:=e4.out;simp[intOf];omega⟩;rw[zD l.out.1,<-kC e4.out];simp[Ox,bd]
  ·obtain rfl:k=4096:=by omega
   have a6:¬(((4096:Nat):Int)<4096):=Zo;have b8:=l.out.1;rw[nu] at b8;have d6:=pN b8 (n:=4096) (by unfold iu;simp);rw[mq] at d6;have hrl:=lt_of_block l.out.2.1;clear a3 b8 hk;obtain⟨bank,b1⟩:∃b,sG=b:=⟨_,rfl⟩
   rw[b1] at d6;have j3:=Ja b1;clear b1;go_upto_region 9 with fail;have y:=md_setup (sv:=.slice sa s.length sc) e5.out.1 l.out.2.1 l.out.2.2;rw[j3.out] at y;generalize (((wr.alloc (G #[.string bank] 9)).alloc (G #[L,L,U 0,U (-1),T (wr.heap.size+1+1) 3 3,T wr.heap.size 1 1] 29)).alloc (G #[U (-1),O 16384,O 16,U (-1),O 16640,O 7,U 0,O 128,O 32] 89)).alloc (G #[.slice sa s.length sc,U 0,F (wr.heap.size+1),U 0,L,U 0,U 0,L,U 0] 128)=W1 at *;generalize wr.heap.size+1+1+1=pm at *;generalize wr.heap.size+1+1=db at *;generalize wr.heap.size+1=pp at *;generalize wr.heap.size=sb at *;have H1:=Ja y;have d0:=y.bel.size
   have a2:I 55 #[F pm,U 4] W1 (fun e w'=>∃z:Nat,z<4/\Hid (mdN s=1+z)/\e=.returned (U z)/\Hid (MdHd w (.slice sa s.length sc) (L) rr sb pp db pm (-1) (L) [] 1 w')):=
    (tf y.mkr rfl rfl (HS.out.below zO y.bel) (n:=4) Zd Zd Zd).mono (fun e w' ⟨h1,h2,h3⟩=>⟨_,rX s 0 Zd,Ja rfl,h1,Ja (y.tick h2 h3)⟩)
   have b0:=Ja a2;clear y d6 a6 hrl a2;go_upto_region 10 with(go_at_call 55;go_must (refine b0.out.mono ?_;rintro e W2 ⟨z,e9,HN,rfl,g0⟩))
   obtain⟨n,hn⟩:∃n,1+z=n:=⟨_,rfl⟩
   have f2:1+(z:Int)=(n:Int):=Zo;rw[f2];have c3:mdN s=n:=HN.out.trans hn;have i0:1<=n/\n<=4:=Zo;have HN:=Ja c3;clear c3 f2 hn e9 b0 H1 d0;go_wp2
   go_loopw [8] (fun kv wx=>∃(k:Nat) (av:Value),k<=n/\kv=U k/\Hid (MdHd w (.slice sa s.length sc) av rr sb pp db pm (-1) (L) (yS s k) (sw k) wx)) (fun kv _=>n-(intOf kv).toNat)
   case atStart=>exact⟨0,_,Jt _,rfl,g0⟩
   case round=>
    obtain⟨k,av,hk,rfl,l⟩:=hrel
    by_cases a3:k<n
    ·have a6:(k:Int)<(n:Int):=Zo;obtain⟨ij,f5,c9,c8,c7⟩:=info_parts Tryz.info_int
     by_cases b4:k=0
     ·have i2:¬(0:Int)<(k:Int):=Zo;have c5:=Ja b4;clear b4;obtain⟨aa,ac,b5⟩:=zG l.out.own;have a0:=l.out.own;rw[yY] at b5 a0;subst b5;have d0:=l.out.bel.size;have c1:=zA (i:=1) l.out.prog rfl;have f1:=lt_of_block l.out.prog;have HO:=Ja a0;clear a0;go_wp2_with (at_builtin;go_must (refine zK _ rfl (.tmp 61) (.tmp 63) 22 rfl w.heap.size 3 ij (U 0) 1 8 Tryz.underlying22 f5 c9 c8 c7 rfl Zd (.slice aa k ac) k ((yS s k).map zN) rfl (HO.out.alloc _) _ 1 [zN 0] rfl (yM.one (zI rfl) rfl) (by unfold maxLen;omega) Zo Zt ?_;intro v9 w9 t d b9;obtain⟨b3,b2,rfl⟩:=zG t;have a1:=zL d (zB l.out.prog) (zC HO.out l.out.prog (.inr Zd));have g9:=zA (i:=1) a1 rfl;have g6:N w9 pp 1:=zE a1;have g3:=lt_of_block a1;have HG:=Ja (Jb t d);clear t d b9 a1))
      go_roundw
      case rel=>
       have hq:=l.out.push (x:=0) (av':=.slice b3 (k+1) b2) HG.out.2 (by rw[yY];exact HG.out.1);refine⟨k+1,.slice b3 (k+1) b2,a3,by go_num,Ja ?_⟩;have e1:yS s (k+1)=yS s k++ [0]:=by rw[qC,if_pos c5.out]
       have e2:sw (k+1)=sw k:=by have:=c5.out;subst this;rfl
       rw[e1,e2];exact hq
      case measure=>simp[intOf];omega
     ·have i2:(0:Int)<(k:Int):=Zo;have c5:=Ja b4
      have a2:I 55 #[F pm,U 4] wr (fun e w'=>∃z:Nat,z<4/\Hid (tk0 s k 4=z)/\e=.returned (U z)/\Hid (MdHd w (.slice sa s.length sc) av rr sb pp db pm (-1) (L) (yS s k) (k+1) w')):=by
       have e:sw k=k:=by unfold sw;rw[if_neg b4]
       have hm:=l.out;rw[e] at hm;exact(tf hm.mkr rfl rfl (HS.out.below zO hm.bel) (n:=4) Zd Zd Zo).mono (fun e w' ⟨h1,h2,h3⟩=>⟨_,rX s k Zd,Ja rfl,h1,Ja (hm.tick h2 h3)⟩)
      have b0:=Ja a2;clear b4 a2;go_upto_region 16 with(go_at_call 55;go_must (refine b0.out.mono ?_;rintro e W3 ⟨z,e9,j1,rfl,a4⟩))
      obtain⟨aa,ac,b5⟩:=zG a4.out.own;have a0:=a4.out.own;rw[yY] at b5 a0;subst b5;have d0:=a4.out.bel.size;have c1:=zA (i:=1) a4.out.prog rfl;have f1:=lt_of_block a4.out.prog;have HO:=Ja a0;clear a0;go_wp2_with (at_builtin;go_must (refine zK _ rfl (.tmp 61) (.tmp 63) 22 rfl w.heap.size 3 ij (U 0) 1 8 Tryz.underlying22 f5 c9 c8 c7 rfl Zd (.slice aa k ac) k ((yS s k).map zN) rfl (HO.out.alloc _) _ 1 [zN (z:Int)] rfl (yM.one (zI rfl) rfl) (by unfold maxLen;omega) Zo Zt ?_;intro v9 w9 t d b9;obtain⟨b3,b2,rfl⟩:=zG t;have a1:=zL d (zB a4.out.prog) (zC HO.out a4.out.prog (.inr Zd));have g9:=zA (i:=1) a1 rfl;have g6:N w9 pp 1:=zE a1;have g3:=lt_of_block a1;have HG:=Ja (Jb t d);clear t d b9 a1))
      go_roundw
      case rel=>
       have hq:=a4.out.push (x:=(z:Int)) (av':=.slice b3 (k+1) b2) HG.out.2 (by rw[yY];exact HG.out.1);refine⟨k+1,.slice b3 (k+1) b2,a3,by go_num,Ja ?_⟩;have e1:yS s (k+1)=yS s k++ [(z:Int)]:=by rw[qC,if_neg c5.out,j1.out]
       have e2:sw (k+1)=k+1:=rfl;rw[e1,e2];exact hq
      case measure=>simp[intOf];omega
    ·obtain rfl:n=k:=by omega
     have a6:¬(n:Int)<(n:Int):=Zo;have e:sw n=n:=by unfold sw;rw[if_neg Zo]
     have f4:=mk_funcs n i0.2;have a7:=l.out;rw[e] at a7;have p0:=zA (i:=0) a7.prog rfl;have h5:N wr pp 0:=zE a7.prog;have f1:=lt_of_block a7.prog;have c:=Ja (Jb (a7.funcs (G (List.replicate n (Value.slice none 0 0)).toArray 39) (T wr.heap.size n n)) (zI (W:=wr.setCell ⟨pp,0,none⟩ (T wr.heap.size n n)) (o:=G (List.replicate n (Value.slice none 0 0)).toArray 39) (B:=wr.heap.size) Zs));have i8:=a7.bel.size;have d9:(List.replicate n (Value.slice none 0 0)).toArray=Array.replicate n (Value.slice none 0 0):=by simp
     rw[d9] at c f4;clear d9;clear a3 e a7 l g0;go_upto_region 18 with fail;generalize i9:(wr.setCell ⟨pp,0,none⟩ (T wr.heap.size n n)).alloc (G (Array.replicate n (Value.slice none 0 0)) 39)=W3 at *;generalize k6:wr.heap.size=fb at *;clear p0 h5 f4 a6 i9;obtain⟨m,hm⟩:∃m,n=m+1:=⟨n-1,by omega⟩
     have k2:(n:Int)-1=(m:Int):=Zo;have i1:m<n:=Zo;have d5:n-1=m:=Zo;have e3:=Ja (Jb hm d5);clear hm d5;obtain⟨x,hx⟩:∃x,(yS s n)[m]? =some x:=⟨_,Jd (by rw[yY];exact i1)⟩
     obtain⟨g,ac,e,k5,k4⟩:=c.out.1.own.form (by rw[yY];omega);rw[yY] at e;subst e;have c1:=zA (i:=1) c.out.1.prog rfl;have g2:=lt_of_block c.out.1.prog
     have h7:A W3 g m (U x):=by
      have h0:=c.out.1.own;rw[yY] at h0;have h1:=h0.cellAt m Zo;exact h1.trans (by rw[Jr,hx];rfl)
     have j:oJ s=(decide (1<n) && decide (x=0)):=by
      unfold oJ;rw[HN.out,e3.out.2,Jj,hx];rfl
     have g1:pm<W3.heap.size:=lt_of_block c.out.1.mkr;have g4:fb<W3.heap.size:=lt_of_block c.out.2
     have d3:fb≠pm:=fun e=>by
      have h1:=c.out.1.mkr;have h2:=c.out.2;rw[e,h1] at h2
      injection h2 with h3
      injection h3 with _ h4
      exact absurd h4 Zd
     have a2:I 55 #[F pm,U 2] W3 (fun e w'=>∃z:Nat,z<2/\Hid (tk0 s n 2=z)/\e=.returned (U z)/\Hid (MdHd w (.slice sa s.length sc) (T g n ac) rr sb pp db pm (-1) (T fb n n) (yS s n) (n+1) w'/\Q w' fb (Array.replicate n (Value.slice none 0 0)) 39)):=
      (tf c.out.1.mkr rfl rfl (HS.out.below zO c.out.1.bel) (n:=2) Zd Zd Zo).mono (fun e w' ⟨h1,h2,h3⟩=>⟨_,rX s n Zd,Ja rfl,h1,Ja ⟨c.out.1.tick h2 h3,h3.blk c.out.2 d3⟩⟩)
     have b0:=Ja a2;have e6:=Ja (Jb j hx);have k7:=Ja d3;clear j hx a2 d3;have d4:1<n->decide ((1:Int)<(n:Int))=true/\decide (1<n)=true:=fun h=>⟨by rw[decide_eq_true_iff];omega,by rw[decide_eq_true_iff];exact h⟩
     have g5:=Ja d4;clear d4
     go_cut [89] (fun v wx=>∃b:Bool,v=.bool b/\Hid ((b=true↔oJ s=true/\tk0 s n 2=0)/\MdHd w (.slice sa s.length sc) (T g n ac) rr sb pp db pm (-1) (T fb n n) (yS s n) (sP s) wx/\Q wx fb (Array.replicate n (Value.slice none 0 0)) 39))
     case first=>
      by_cases h1:1<n
      ·have f8:(1:Int)<(n:Int):=Zo;obtain⟨j0,f7⟩:=g5.out h1
       by_cases a5:x=0
       ·have h8:(x==0)=true:=by rw[beq_iff_eq];exact a5
        have j:oJ s=true:=by rw[e6.out.1];simp[h1,a5]
        have e7:=Ja j;have f9:=Ja a5;clear j a5;have d2:sP s=n+1:=by unfold sP;rw[e7.out,HN.out];rfl
        have e0:=Ja d2;clear d2
        by_cases c2:tk0 s n 2=0
        ·have b6:=Ja c2;clear c2;go_wp2_with (go_at_call 55;go_must (refine b0.out.mono ?_;rintro e w4 ⟨z,h6,HZ,rfl,b7⟩;obtain rfl:z=0:=HZ.out.symm.trans b6.out))
         go_meet;refine⟨true,rfl,Ja ⟨⟨(fun _=>⟨e7.out,b6.out⟩),(fun _=>rfl)⟩,?_,b7.out.2⟩⟩;rw[e0.out];exact b7.out.1
        ·have b6:=Ja c2;clear c2;go_wp2_with (go_at_call 55;go_must (refine b0.out.mono ?_;rintro e w4 ⟨z,h6,HZ,rfl,b7⟩;have tz:((z:Int)==0)=false:=by rw[beq_eq_false_iff_ne];have:=HZ.out;have:=b6.out;omega))
         go_meet;refine⟨false,rfl,Ja ⟨⟨(fun e=>by cases e),(fun e=>absurd e.2 b6.out)⟩,?_,b7.out.2⟩⟩;rw[e0.out];exact b7.out.1
       ·have h8:(x==0)=false:=by rw[beq_eq_false_iff_ne];exact a5
        have f9:=Ja a5;clear a5;go_wp2;go_meet;have j:oJ s=false:=by rw[e6.out.1];simp[f9.out]
        refine⟨false,rfl,Ja ⟨⟨(fun e=>by cases e),(fun e=>by rw[j] at e;cases e.1)⟩,?_,c.out.2⟩⟩;have e:sP s=n:=by unfold sP;rw[j,HN.out];rfl
        rw[e];exact c.out.1
      ·have f8:¬(1:Int)<(n:Int):=Zo;have f7:decide (1<n)=false:=by rw[decide_eq_false_iff_not];exact h1
       have j0:decide ((1:Int)<(n:Int))=false:=by rw[decide_eq_false_iff_not];exact f8
       go_wp2;go_meet;have j:oJ s=false:=by rw[e6.out.1,f7];rfl
       refine⟨false,rfl,Ja ⟨⟨(fun e=>by cases e),(fun e=>by rw[j] at e;cases e.1)⟩,?_,c.out.2⟩⟩;have e:sP s=n:=by unfold sP;rw[j,HN.out];rfl
       rw[e];exact c.out.1
     case rest=>
     obtain⟨b,rfl,HB⟩:=hcut;have c0:=Ja HB;clear c1 g2 h7 g1 g4;have p3:=zA (i:=3) HB.out.2.1.prog rfl;have j5:N wc pp 3:=zE HB.out.2.1.prog;have j4:=lt_of_block HB.out.2.1.prog
     have j2:=Ja (Jb (HB.out.2.1.hnd (m:Int)) (zR (a:=⟨pp,3,none⟩) (u:=U m) HB.out.2.2 (fun e=>by
      have h1:=HB.out.2.1.prog;have h2:=HB.out.2.2;rw[e] at h2;rw[show(⟨pp,3,none⟩:Addr).block=pp from rfl,h1] at h2
      injection h2 with h3
      injection h3 with _ h4
      exact absurd h4 Zd)))
     go_upto_if 89 with fail
     go_cut [] (fun wx=>Hid (MdHd w (.slice sa s.length sc) (T g n ac) rr sb pp db pm (vw s) (T fb n n) (yS s n) (sP s) wx/\Q wx fb (Array.replicate n (Value.slice none 0 0)) 39))
     case first=>
      cases b
      ·go_wp2;go_meet;have e:vw s=-1:=by unfold vw;rw[if_neg (fun e=>by rw[HN.out] at e;have:=c0.out.out.1.2 e;cases this)]
       rw[e];exact Ja c0.out.out.2
      ·go_wp2;go_meet;have e:vw s=(m:Int):=by unfold vw;rw[HN.out,if_pos (c0.out.out.1.1 (by trivial)),e3.out.2]
       rw[e];exact j2
     case rest=>
     refine ‹∀(a:Act) (w:World),Code.wp Tryz.prog _ _ a w->_› _ _ ?_;have c3:=HN.out;subst c3;exact j9 HS hcut i8 e3.out.2 _ _ _ _ _ _ _ _ _ _ _ _ _ _ _ _ _ _ _ _ _ _ _ _ _ _ _ _ _ _ _ _ _ _ _ _ _ _ _ _ _ _ _ _ _ _ _ _ _ _ _ _ _ _ _ _ _ _ _ _ _ _ _ _ _ _ _ _ _ _ _ _ _ _ _ _ _ _ _ _ _ _ _ _ _ _ _ _ _ _ _ _ _ _ _ _ _ _ _ _ _ _ _ _ _ _ _ _ _ _ _ _ _ _ _ _ _ _ _ _ _ _ _ _ _ _ _ _ _ _ _ _ _ _ _ _ _ _ _ _ _ _ _ _ _ _ _ _ _ _ _ _ _ _ _ _ _ _ _ _ _ _ _ _ _ _ _ _ _ _ _ _ _ _ _ _ _ _ _ _ _ _ _ _ _ _ _ _ _ _ _ _ _ _ _ _
theorem gj (n m:Nat):∃k:Nat,(k:Int)=(if(m:Int)<(n:Int) then(m:Int) else(n:Int))/\k=min m n:=⟨min m n,by split<;>omega,rfl⟩
theorem lw{α:Type}{sz:Nat}{R:World->Nat->Nat->Nat->α->Prop}{B:Nat}{a:Option Addr}{xs:List α}(h:yN sz R w B (.slice a xs.length c) xs)(m:Nat):yN sz R w B (.slice a (min m xs.length) c) (xs.take m):=by
 obtain⟨a',d,e,h1,h2,h3⟩:=h;cases e;exact⟨a,c,by rw[Oc],by rw[Oc];omega,h2,fun k x hk=>h3 k x (by rw[Ug] at hk;split at hk;exact hk;cases hk)⟩
def oC (w:World)(p:IProg)(e:Ending)(w':World):Prop:=∃(fa:Option Addr) (fc:Nat) (aa:Option Addr) (ac:Nat) (da:Option Addr) (dc:Nat) (ba:Option Addr) (bc:Nat),e=.returned (.agg (D p fa fc aa ac da dc ba bc))/\
 ProgIn w' w'.heap.size ⟨.slice fa p.funcs.length fc,.slice aa p.args.length ac,.slice da p.data.length dc,.slice ba p.banks.length bc⟩ p/\Y w w'
theorem nE{w0:World}{V:PV}{p:IProg}(h:ProgIn w w.heap.size V p)(hb:Y w0 w):oC w0 p (.returned (yH V p)) w:=by
 obtain⟨fa,fc,h1,_,_⟩:=h.funcs.form;obtain⟨aa,ac,h2,_,_⟩:=h.args.form;obtain⟨da,dc,h3,_,_⟩:=h.data.form;obtain⟨ba,bc,c,_,_⟩:=h.banks.form;obtain⟨v1,v2,v3,v4⟩:=V;simp only at h1 h2 h3 c;subst h1 h2 h3 c;exact⟨fa,fc,aa,ac,da,dc,ba,bc,rfl,h,hb⟩
theorem qu (w:World)(r o:Nat)(vs:List Value):Below r w (w.setCells r o vs):=
 ⟨(ze r vs o w).1,(ze r vs o w).2.1,(ze r vs o w).2.2,Ul (y8 r vs o w).symm,fun k hk=>ye r k Zo vs o w⟩
theorem pJ{r o L:Nat}{vs:List Value}(h:r<L):StaysL L w (w.setCells r o vs):=
 ⟨Ul (y8 r vs o w).symm,⟨(ze r vs o w).1,(ze r vs o w).2.1,(ze r vs o w).2.2⟩,fun k hk _=>ye r k Zo vs o w⟩
theorem af7{s:List Int}{sv:Value}(hs:zY w w.heap.size sv s):I 12 #[sv] w (oC w (uR (s.take 200))):=by
 obtain⟨sa,sc,rfl,a3,a2⟩:=hs.form;obtain⟨k,hk,m⟩:=gj s.length 200;have a0:∀(ts:Array TypeId) (t:TypeId) (W:World),(Builtin.min_ ts t #[.int .i64 (s.length:Int),.int .i64 200]).run Tryz.prog W=.ok (.int .i64 (k:Int)) W:=fun ts t W=>by rw[hk];exact run_min_int2 ..
 have a4:(k:Int)<=(sc:Int):=Zo;have ht:=lw hs 200;rw[<-m] at ht
 have hm:∀W,Y w W->I 31 #[.slice sa k sc] W (fun e w'=>oC W (uR (s.take 200)) e w'/\∃V,e=.returned (yH V (uR (s.take 200)))/\∀U,StaysL W.heap.size w' U->ProgIn U U.heap.size V (uR (s.take 200))):=fun W hb=>(jP ((ht.below zO hb).mono zO hb.size)).mono fun e w' ⟨V,he,hp,d⟩=>by
  subst he;exact⟨nE (hp _ (StaysL.refl _ _)) d,V,rfl,hp⟩
 have a1:(uR (s.take 200)).funcs.length<=4:=by rw[qA];exact(sm _).2
 generalize uR (s.take 200)=p at *;have HM:=Ja hm;clear hm hk m ht hs;have u:Y w (w.alloc (G #[L,L,.int .i64 0,.int .i64 0,L,L] 29)):=(Below.refl _ _).alloc (Je _) _;have j:=zI (W:=w) (o:=G #[L,L,.int .i64 0,.int .i64 0,L,L] 29) rfl;have h:=Ja (Jb u j);clear u j;go_enter Tryz.func12,Tryz.ntmps12;go_wp2_with (go_at_call 31;go_must (refine(HM.out _ h.out.1).mono ?_;rintro e w1 ⟨⟨fa,fc,aa,ac,da,dc,ba,bc,rfl,hp,g⟩,V,hV,l⟩;have c:=zH g h.out.2 (lt_of_block h.out.2);have c0:=zA (i:=0) c rfl;have c1:=zA (i:=1) c rfl;have c2:=zA (i:=2) c rfl;have c3:=zA (i:=3) c rfl;have c4:=zA (i:=4) c rfl;have c5:=zA (i:=5) c rfl;have cf:∀i,N w1 w.heap.size i:=fun i=>zE c;have cl:=lt_of_block c;have x:=Ja (Jb hp (Jb g (Jb c (Jb hV l))));clear hp g c hV l))
 refine bodyPost_ret (v:=.agg (D p fa fc aa ac da dc ba bc)) ?_ rfl ?_
 ·rw[zM rfl];go_simp
 ·have d:=h.out.1.trans (x.out.2.1.mono h.out.1.size);have y:(w.alloc (G #[L,L,.int .i64 0,.int .i64 0,L,L] 29)).heap.size=w.heap.size+1:=by simp
  have hz:Below w.heap.size w1 (w1.setCells w.heap.size 0 [.slice fa p.funcs.length fc,.slice aa p.args.length ac,.int .i64 p.entry,.int .i64 p.handler,.slice da p.data.length dc,.slice ba p.banks.length bc]):=qu _ _ _ _;have hU:=x.out.2.2.2.2 _ (pJ (vs:=[.slice fa p.funcs.length fc,.slice aa p.args.length ac,.int .i64 p.entry,.int .i64 p.handler,.slice da p.data.length dc,.slice ba p.banks.length bc]) (o:=0) (w:=w1) (r:=w.heap.size) (by rw[y];omega));have hr:=nE hU (d.trans hz);rw[<-x.out.2.2.2.1] at hr;exact hr
theorem ahD {p:IProg}(hv:vC p=0):p.data.length<=512:=by
 obtain⟨c,_⟩:=rz hv;unfold sR at c
 split at c
 ·omega
 ·omega
end Go.Proofs.YtoahcpkibpomcaaGreat
