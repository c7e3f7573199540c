/- Part of a proof. -/
import Derived.Test.YtoahcpkibpomcaaGreatGZlh
set_option linter.all false
set_option maxHeartbeats 16000000
set_option maxRecDepth 100000
namespace Go.Proofs.YtoahcpkibpomcaaGreat
open Go.RowKit
variable {w w':World}{k:Nat}{d:wO}{N i:Int}{bl:List IBlk}
theorem ae1{K:SK}{p:IProg}{b6:List IBlk}{s:Slv}(h:SlvAt w K p b6 k s){v:Nat}(hv:v<K.n){a0:Rg}(hk:4<k)(b2:s.knw v=true)(j:pC (tn a0 (s.get v)) (s.get v)=false):
 O 38 #[F K.sb,I v,.agg #[M (a0.lo:Int),M (a0.hi:Int)]] w (ng w K p b6 k (s.put v zx,true)):=by
 have a7:=sg h hv;rw[b2] at a7;have u:=fun(W:World) (hW:Q w W)=>(h.below hW).rcell (v:=(v:Int)) Zo
 generalize hg:s.get (v:Int)=g at *;obtain⟨q,hq⟩:∃q,tn a0 g=q:=⟨_,rfl⟩
 have HH:=Ja (fun W=>aeT W a0 g);rw[hq] at HH j;obtain⟨a,hz⟩:∃a,zx=a:=⟨_,rfl⟩
 have a6:a.ok:=hz ▸ xr;have HZ:=Ja hz;rw[hz];have c8:(4:Int)<(k:Int):=Zo;have c7:=h.ne
 have a5:(((q.lo:Int)==(g.lo:Int)) && ((q.hi:Int)==(g.hi:Int)))=false:=by
  rw[<-j];unfold pC;rw[Bool.eq_iff_iff];simp only[Jm,beq_iff_eq,decide_eq_true_eq];omega
 rw[Ni] at u;have H:=Ja (Jb h a6);have b3:=fun(W:World) (hW:Q w W)=>(h.below hW).cells.2.2.2.2.1
 have HK:=Ja b3;have hn:=h.n64;obtain⟨s4,s7,s8,s9,s10,s6⟩:=h.cells;have HC:=Ja (show ∀W:World,Q w W->T W K.sb 8 (L K.rb K.n K.n)/\T W K.rb (v*2) (M (g.lo:Int))/\T W K.rb (v*2+1) (M (g.hi:Int)) from fun W hb=>⟨(h.below hb).cells.2.2.1,(u W hb).1,(u W hb).2⟩);have l1:=lt_of_block h.cell;have l2:=lt_of_block h.row;have l3:=lt_of_block h.kn;have b8:=Ja a5;clear hz b3 hk a6 h a5 b2 j s4 s7 s6 s8 s10 u hg hq;go_enter Tryz.func38,Tryz.ntmps38;go_upto_region 2 with(go_at_call 999999;skip)
 obtain⟨X,l⟩:∃X,w.alloc (G #[M (a0.lo:Int),M (a0.hi:Int)] 45)=X:=⟨_,rfl⟩
 have c:=Ja (show Q w X/\A X w.heap.size #[M (a0.lo:Int),M (a0.hi:Int)] 45/\w.heap.size<X.heap.size from by
  rw[<-l];exact⟨Below.alloc (Below.refl _ _) (Je _) _,zI rfl,by simp⟩)
 rw[l];clear l a7 s9;have a4:=Ja (show ∀W:World,Below w.heap.size X W->T W K.sb 8 (L K.rb K.n K.n)/\T W K.rb (v*2) (M (g.lo:Int))/\T W K.rb (v*2+1) (M (g.hi:Int)) from fun W hb=>HC.out W (c.out.1.trans hb));obtain⟨c0,c1,c2⟩:=a4.out X (Below.refl _ _);have x0:=zA (i:=0) c.out.2.1 rfl;have x1:=zA (i:=1) c.out.2.1 rfl;have b9:=c.out.2.2;refine wp_region_noPanic ?_;refine yQ (S:=(fun w'=>T w' K.sb 8 (L K.rb K.n K.n)/\T w' K.rb (v*2) (M (g.lo:Int))/\T w' K.rb (v*2+1) (M (g.hi:Int))/\T w' w.heap.size 0 (M (a0.lo:Int))/\T w' w.heap.size 1 (M (a0.hi:Int)))) 9 Zk ⟨c0,c1,c2,x0,x1⟩ (fun hHeld=>?_);refine Tl 0 ?_
 try simp only[Yp]
 refine Tl 1 ?_
 try simp only[Yp]
 refine Tl 2 ?_
 try simp only[Yp]
 refine Tl 3 ?_
 try simp only[Yp]
 refine Tl 4 ?_
 try simp only[Yp]
 refine Tl 5 ?_
 try simp only[Yp]
 refine Tl 6 ?_
 try simp only[Yp]
 refine Tl 7 ?_
 try simp only[Yp]
 refine z8 (rs:=[8]) Zk Zs ?_;refine zS.cons (o:=_) rfl (fun K hK=>?_) ?_
 ·skip
  (go_simp;refine(HH.out _).mono ?_;rintro e w1 ⟨rfl,b5⟩;have x:Q X w1:=(Below.refl X.heap.size X).drew.trans b5;clear b5;have hk:=zH x c.out.2.1 (lt_of_block c.out.2.1);have f0:=zA (i:=0) hk rfl;have f1:=zA (i:=1) hk rfl;have g0:=zE (i:=0) hk;have g1:=zE (i:=1) hk;have a1:=lt_of_block hk;have y:=a4.out w1 (x.mono (Qd c.out.2.2)))
  refine hK.out _ _ ⟨y.1,y.2.1,y.2.2,f0,f1⟩ (fun hHeld=>?_);clear hK K
  try simp only[Yp]
  refine z8 (rs:=[9]) Zk Zs ?_;refine zS.last (o:=_) rfl (fun K hK=>?_);go_simp;refine hK.out _ _ ?_;clear hK K
  try simp only[Yp]
  refine xj Zk (NoPanic.normal ?_) _;go_upto_region 3 with(go_at_call 999999;skip)
  obtain⟨Y,hY⟩:∃Y,(w1.setCell ⟨w.heap.size,0,none⟩ (M (q.lo:Int))).setCell ⟨w.heap.size,1,none⟩ (M (q.hi:Int))=Y:=⟨_,rfl⟩
  have f:=Ja (show Q w Y/\A Y w.heap.size #[M (q.lo:Int),M (q.hi:Int)] 45/\w.heap.size<Y.heap.size from by
   have m:=zD (i:=1) (zD (i:=0) hk (M (q.lo:Int))) (M (q.hi:Int));rw[hY] at m
   exact⟨by rw[<-hY];exact((c.out.1.trans (x.mono (Qd c.out.2.2))).setCell (Je _) _).setCell (Je _) _,m,lt_of_block m⟩)
  rw[hY];clear hY hk f0 f1 g0 g1 a1 x y a4 c0 c1 c2 x0 x1 b9;have a3:=Ja (show ∀W:World,Q Y W->(T W K.sb 8 (L K.rb K.n K.n)/\T W K.rb (v*2) (M (g.lo:Int))/\T W K.rb (v*2+1) (M (g.hi:Int)))/\T W w.heap.size 0 (M (q.lo:Int))/\T W w.heap.size 1 (M (q.hi:Int)) from fun W hb=>⟨HC.out W (f.out.1.trans (hb.mono (Qd f.out.2.2))),zA (zH hb f.out.2.1 (lt_of_block f.out.2.1)) rfl,zA (zH hb f.out.2.1 (lt_of_block f.out.2.1)) rfl⟩);obtain⟨⟨c0,c1,c2⟩,x0,x1⟩:=a3.out Y (Below.refl _ _);obtain⟨b0,e0⟩:∃b,((q.lo:Int)==(g.lo:Int))=b:=⟨_,rfl⟩
  obtain⟨b1,e1⟩:∃b,((q.hi:Int)==(g.hi:Int))=b:=⟨_,rfl⟩
  have t:=b8.out;rw[e0,e1] at t;clear b8;cases b0<;>cases b1
  all_goals first|(cases t;done)|skip
  all_goals clear t
  all_goals go_region_held3 (fun w'=>(T w' K.sb 8 (L K.rb K.n K.n)/\T w' K.rb (v*2) (M (g.lo:Int))/\T w' K.rb (v*2+1) (M (g.hi:Int)))/\T w' w.heap.size 0 (M (q.lo:Int))/\T w' w.heap.size 1 (M (q.hi:Int)))
   ((refine a3.out _ ?_;repeat' (first|with_reducible exact Below.refl _ _|with_reducible assumption|with_reducible refine Below.drew ?_)))
   (fail)
  all_goals clear c0 c1 c2 x0 x1 a3 e0 e1
  all_goals have s10:=HK.out Y.drew f.out.1.drew
  all_goals have HV:=Ja (show Q w Y.drew/\A Y.drew w.heap.size #[M (q.lo:Int),M (q.hi:Int)] 45/\w.heap.size<Y.drew.heap.size from⟨f.out.1.drew,f.out.2.1,f.out.2.2⟩)
  all_goals go_upto_region 7 with(go_at_call 39;go_must (refine(q6 _).mono ?_;rintro e w2 ⟨rfl,a2⟩;have hk:=zH a2 HV.out.2.1 HV.out.2.2;have f0:=zA (i:=0) hk rfl;have f1:=zA (i:=1) hk rfl;have g0:=zE (i:=0) hk;have g1:=zE (i:=1) hk;have a1:=lt_of_block hk;have b4:=HV.out.1.trans (a2.mono HV.out.1.size)))
  all_goals (
   obtain⟨X,l⟩:∃X,(w2.setCell ⟨w.heap.size,0,none⟩ (M 0)).setCell ⟨w.heap.size,1,none⟩ (M 65535)=X:=⟨_,rfl⟩
   have b7:=Ja (show Q w X/\A X w.heap.size #[M (a.lo:Int),M (a.hi:Int)] 45/\w.heap.size<X.heap.size from by
    have m:=zD (i:=1) (zD (i:=0) hk (M 0)) (M 65535);rw[l] at m;refine⟨by rw[<-l];exact(b4.setCell (Je _) _).setCell (Je _) _,?_,lt_of_block m⟩;rw[<-HZ.out]
    exact m)
   rw[l];clear l s10 c hk f0 f1 g0 g1 a1 b4 a2;have c:=b7;clear b7;have d:=Ja (H.out.1.below c.out.1);have HC:=Ja (show ∀W:World,W.heap[K.sb]? =X.heap[K.sb]?->W.heap[w.heap.size]? =X.heap[w.heap.size]?->T W K.sb 8 (L K.rb K.n K.n)/\T W K.sb 9 (L K.kb K.n K.n)/\T W w.heap.size 0 (M (a.lo:Int))/\T W w.heap.size 1 (M (a.hi:Int)) from fun W h1 h2=>⟨zA (h1.trans d.out.cell) rfl,zA (h1.trans d.out.cell) rfl,zA (h2.trans c.out.2.1) rfl,zA (h2.trans c.out.2.1) rfl⟩);obtain⟨c0,c1,c2,c3⟩:=HC.out X rfl rfl;have kx:=sg d.out hv;have kf:=zE (i:=v) d.out.kn;obtain⟨r0,r1⟩:=d.out.rcell (v:=(v:Int)) Zo;rw[Ni] at r0 r1;have c5:=zE (i:=v*2) d.out.row;have c4:=zE (i:=v*2+1) d.out.row;have m1:=lt_of_block d.out.cell;have m2:=lt_of_block d.out.row;have m3:=lt_of_block d.out.kn;have m4:=c.out.2.2;go_region_held3 (fun w'=>T w' K.sb 8 (L K.rb K.n K.n)/\T w' K.sb 9 (L K.kb K.n K.n)/\T w' w.heap.size 0 (M (a.lo:Int))/\T w' w.heap.size 1 (M (a.hi:Int))) ((refine HC.out _ ?_ ?_<;>(repeat' (first|(rw[Below.heap_setCell _ _ _ _ (by first|(show K.sb≠K.kb;omega)|(show K.sb≠K.rb;omega)|(show w.heap.size≠K.kb;omega)|(show w.heap.size≠K.rb;omega))])|(rw[show ∀v:World,v.drew.heap=v.heap from fun _=>rfl])|exact rfl)))) (fail);go_wp2;obtain⟨W,hW⟩:∃W,((X.setCell ⟨K.kb,v,none⟩ (.bool true)).setCell ⟨K.rb,v*2,none⟩ (M (a.lo:Int))).setCell ⟨K.rb,v*2+1,none⟩ (M (a.hi:Int))=W:=⟨_,rfl⟩
   rw[hW];obtain⟨j1,j2⟩:=d.out.put hv H.out.2 hW;go_ret
   exact⟨rfl,j1.below (Below.refl _ _).drew,((SlvTo.of_below c.out.1).trans j2).trans (SlvTo.of_below (Below.refl _ _).drew)⟩)
 exact zS.nil
structure Row where
 v:Value
 e:TypeId
 sz:Nat
 n:Nat
 cs:List Value
def Row.blk (r:Row):Option Nat:=r.v.ownBlock
variable {rs:List Row}
structure Rows (w:World) (B:Nat) (rs:List Row):Prop where
 own:∀r∈rs,w.ownsRow B r.e r.sz r.v r.n r.cs
 nd:(rs.filterMap Row.blk).Nodup
theorem Rows.perm{B:Nat}{rs':List Row}(h:Rows w B rs)(hp:rs.Perm rs'):Rows w B rs':=
 ⟨fun r hr=>h.own r (hp.mem_iff.2 hr),(hp.filterMap Row.blk).nodup_iff.1 h.nd⟩
theorem Rows.lt{B:Nat}(h:Rows w B rs)(hk:k∈rs.filterMap Row.blk):B<=k/\k<w.heap.size:=by
 obtain⟨r,hr,e⟩:=Nj.1 hk;exact(h.own r hr).lt k e
theorem Rows.keep{B:Nat}(h:Rows w B rs)(hk:∀k∈rs.filterMap Row.blk,w'.heap[k]? =w.heap[k]?):Rows w' B rs:=
 ⟨fun r hr=>yD (h.own r hr) (fun k e=>hk k (Nj.2 ⟨r,hr,e⟩)),h.nd⟩
theorem Rows.tail{B:Nat}{r:Row}(h:Rows w B (r::rs)):Rows w B rs:=by
 refine⟨fun x hx=>h.own x (List.mem_cons_of_mem _ hx),?_⟩;have:=h.nd;rw[List.filterMap_cons] at this
 split at this
 ·exact this
 ·exact(Qt.1 this).2
theorem Rows.apart{B:Nat}{r:Row}(h:Rows w B (r::rs)){g:Nat}(hg:r.blk=some g):g ∉ rs.filterMap Row.blk:=by
 have:=h.nd;rw[List.filterMap_cons,hg] at this;exact(Qt.1 this).1
theorem Rows.cons{B:Nat}{r:Row}(h:Rows w B rs)(hr:w.ownsRow B r.e r.sz r.v r.n r.cs)(d:∀g,r.blk=some g->g ∉ rs.filterMap Row.blk):Rows w B (r::rs):=by
 refine⟨fun x c=>?_,?_⟩
 ·rcases Jq.1 c with rfl|c
  ·exact hr
  ·exact h.own x c
 ·rw[List.filterMap_cons]
  split
  ·exact h.nd
  ·rename_i g hg
   exact Qt.2 ⟨d g hg,h.nd⟩
theorem Rows.nil{B:Nat}:Rows w B []:=⟨fun r hr=>by simp at hr,by simp⟩
theorem Rows.grow{w1:World}{B:Nat}{r r':Row}(h:Rows w B (r::rs))(hb:Q w w1)(hg:w1.grownBy w' r.blk)(c:w'.ownsRow B r'.e r'.sz r'.v r'.n r'.cs)(d:∀k,r'.blk=some k->r.blk=some k∨w.heap.size<=k):Rows w' B (r'::rs):=by
 have ht:Rows w' B rs:=h.tail.keep fun k hk=>(hg.block k (Jy (h.tail.lt hk).2 hb.size) (fun e=>h.apart e.symm hk)).trans (hb.block k (h.tail.lt hk).2)
 refine ht.cons c fun g e hg2=>?_
 rcases d g e with e2|e2
 ·exact h.apart e2 hg2
 ·have:=(h.tail.lt hg2).2;omega
def zP (v:Value)(xs:List Int):Row:=⟨v,3,1,xs.length,xs.map zN⟩
structure B64 (b:IBlk):Prop where
 par:∀x∈b.params,I64 x
 ops:∀o∈b.ops,qN o/\∀x∈o.args,I64 x
 term:I64 b.term.kind/\I64 b.term.a
 tos:∀e∈b.term.to,I64 e.block/\∀x∈e.args,I64 x
structure P64 (p:IProg):Prop where
 funcs:∀f∈p.funcs,∀b∈f,B64 b
 args:∀x∈p.args,I64 x
 data:∀o∈p.data,I64 o.bank/\o.addr<65536/\o.size<65536
 banks:∀s∈p.banks,s.size<=9223372036854775807
 ent:I64 p.entry
 hnd:I64 p.handler
theorem wC{α β:Type}{sz:Nat}{f:β->List Value}{g:β->α}{R:World->Nat->Nat->Nat->α->Prop}(x:0<sz)(hf:∀a,(f a).length=sz){S:Nat}{e:TypeId}{v:Value}{l:List β}(h:w.ownsRow S e sz v l.length (l.flatMap f))
 (t:∀q∈l,∀b o,(∀j u,(f q)[j]? =some u->T w b (o+j) u)->R w w.heap.size b o (g q)):yN sz R w w.heap.size v (l.map g):=by
 obtain⟨a,c,rfl⟩:=zG h;have hl:=zm h;refine⟨a,c,by rw[Nr],by rw[Nr];exact hl.1,by omega,fun k o hk=>?_⟩;rw[Jr,Oz] at hk;obtain⟨q,d,rfl⟩:=hk;have i:=(Jh.1 d).1;obtain⟨gg,y,e,hg,hb⟩:=h.form Zo;cases e;refine⟨gg,0,rfl,hb,t q (Ji d) _ _ fun j u hj=>?_⟩;have m:j<sz:=by rw[<-hf q];exact(Jh.1 hj).1
 rw[Ng]
 exact(h.cellAt (k*sz+j) (by
  have:(k+1)*sz<=l.length*sz:=Qw sz i;rw[Nat.add_mul] at this
  omega)).trans ((uB f sz hf l k q d j m).trans hj)
theorem bR{d':wO}{v k:Int}(h:rB d v i k=some d'):(0<=v/\v<=65535)/\∀x,(d'.1 x).isSome=true->(d.1 x).isSome=true∨x=v:=by
 unfold rB at h
 split at h
 ·cases h
 ·rename_i c
  cases h;refine⟨by omega,fun x hx=>?_⟩
  change (lS d.1 v i x).isSome=true at hx
  unfold lS at hx
  by_cases e:x=v
  ·exact .inr e
  ·rw[if_neg e] at hx;exact .inl hx
theorem cL:∀(l:List Int) (d d':wO),vJ i l d=some d'->(∀v∈l,0<=v/\v<=65535)/\∀x,(d'.1 x).isSome=true->(d.1 x).isSome=true∨x∈l
 | [],d,d',h=>by cases h;exact⟨(fun v hv=>by cases hv),fun x hx=> .inl hx⟩
 |v::l,d,d',h=>by
  unfold vJ at h
  cases h1:rB d v i (-1) with
  |none=>rw[h1] at h;cases h
  |some d1=>
   rw[h1,Nw] at h;obtain⟨k1,k2⟩:=bR h1;obtain⟨k3,k4⟩:=cL l d1 d' h;refine⟨fun x hx=>?_,fun x hx=>?_⟩
   ·rcases Jq.1 hx with rfl|hx
    ·exact k1
    ·exact k3 x hx
   ·rcases k4 x hx with h2|h2
    ·rcases k2 x h2 with h3|rfl
     ·exact .inl h3
     ·exact .inr (List.mem_cons_self ..)
    ·exact .inr (List.mem_cons_of_mem _ h2)
theorem bN{p:IProg}:∀(l:List IOp) (k:Int) (d d':wO),sS p i l k d=some d'->(∀o∈l,-1<=o.res/\o.res<=65535)/\∀x,(d'.1 x).isSome=true->(d.1 x).isSome=true∨∃o∈l,o.res=x/\0<=x
 | [],k,d,d',h=>by cases h;exact⟨(fun v hv=>by cases hv),fun x hx=> .inl hx⟩
 |o::l,k,d,d',h=>by
  rw[dG] at h
  cases h1:ug p i k o d with
  |none=>rw[h1] at h;cases h
  |some d1=>
   rw[h1,Nw] at h;obtain⟨k3,k4⟩:=bN l (k+1) d1 d' h
   have hs:(-1<=o.res/\o.res<=65535)/\∀x,(d1.1 x).isSome=true->(d.1 x).isSome=true∨(o.res=x/\0<=x):=by
    unfold ug at h1
    split at h1
    ·rename_i hf
     have:=ct hf
     split at h1
     ·rename_i h0
      obtain⟨k1,k2⟩:=bR h1;refine⟨by omega,fun x hx=>?_⟩;rcases k2 x hx with h3|rfl
      ·exact .inl h3
      ·exact .inr ⟨rfl,h0⟩
     ·cases h1;exact⟨by omega,fun x hx=> .inl hx⟩
    ·cases h1
   refine⟨fun x hx=>?_,fun x hx=>?_⟩
   ·rcases Jq.1 hx with rfl|hx
    ·exact hs.1
    ·exact k3 x hx
   ·rcases k4 x hx with h2|⟨o',h2,h3⟩
    ·rcases hs.2 x h2 with h3|h3
     ·exact .inl h3
     ·exact .inr ⟨o,List.mem_cons_self ..,h3⟩
    ·exact .inr ⟨o',List.mem_cons_of_mem _ h2,h3⟩
def DefdIn (l:List IBlk)(x:Int):Prop:=∃b∈l,x∈b.params∨∃o∈b.ops,o.res=x/\0<=x
def bC (l:List IBlk):Prop:=∀b∈l,(∀v∈b.params,0<=v/\v<=65535)/\∀o∈b.ops,-1<=o.res/\o.res<=65535
theorem cP{p:IProg}:∀(l:List IBlk) (i:Int) (d d':wO),uH p bl l i d=some d'->bC l/\∀x,(d'.1 x).isSome=true->(d.1 x).isSome=true∨DefdIn l x
 | [],i,d,d',h=>by cases h;exact⟨(fun v hv=>by cases hv),fun x hx=> .inl hx⟩
 |b::l,i,d,d',h=>by
  unfold uH at h
  cases h1:pS p bl i b d with
  |none=>rw[h1] at h;cases h
  |some d1=>
   rw[h1,Nw] at h;obtain⟨_,d2,h2,h3⟩:=nF h1;obtain⟨k1,k2⟩:=cL _ _ _ h2;obtain⟨k3,k4⟩:=bN _ _ _ _ h3;obtain⟨k5,k6⟩:=cP l (i+1) d1 d' h;refine⟨fun x hx=>?_,fun x hx=>?_⟩
   ·rcases Jq.1 hx with rfl|hx
    ·exact⟨k1,k3⟩
    ·exact k5 x hx
   ·rcases k6 x hx with g|⟨b',g,c⟩
    ·rcases k4 x g with c|c
     ·rcases k2 x c with f|f
      ·exact .inl f
      ·exact .inr ⟨b,List.mem_cons_self ..,.inl f⟩
     ·exact .inr ⟨b,List.mem_cons_self ..,.inr c⟩
    ·exact .inr ⟨b',List.mem_cons_of_mem _ g,c⟩
theorem ak(l:List Int):∀(n:Int),n<=N->(∀v∈l,cG v<=N)->qK n l<=N:=by
 induction l with
 |nil=>intro n h _;exact h
 |cons x l ih=>
  intro n h hl;have e:qK n (x::l)=qK (max n (cG x)) l:=rfl;rw[e];have:=hl x (List.mem_cons_self ..);exact ih _ Zo (fun v hv=>hl v (List.mem_cons_of_mem _ hv))
theorem aaf(l:List IOp):∀(n:Int),n<=N->(∀o∈l,cG o.res<=N)->o8 n l<=N:=by
 induction l with
 |nil=>intro n h _;exact h
 |cons x l ih=>
  intro n h hl;have e:o8 n (x::l)=o8 (max n (cG x.res)) l:=rfl;rw[e];have:=hl x (List.mem_cons_self ..);exact ih _ Zo (fun v hv=>hl v (List.mem_cons_of_mem _ hv))
theorem count_le(l:List IBlk):∀(n:Int),n<=N->(∀b∈l,(∀v∈b.params,cG v<=N)/\∀o∈b.ops,cG o.res<=N)->l.foldl iL n<=N:=by
 induction l with
 |nil=>intro n h _;exact h
 |cons x l ih=>
  intro n h hl;rw[Qk];have h1:=hl x (List.mem_cons_self ..);exact ih _ (aaf _ _ (ak _ _ h h1.1) h1.2) (fun b hb=>hl b (List.mem_cons_of_mem _ hb))
theorem bD(h:bC bl):0<=aaG bl/\aaG bl<=65536:=by
 refine⟨bO bl,count_le bl 0 Zo fun b hb=>⟨fun v hv=>?_,fun o ho=>?_⟩⟩
 ·have:=(h b hb).1 v hv;rw[aaY Zo Zo];omega
 ·have:=(h b hb).2 o ho;rw[aaY Zo Zo];omega
theorem dY(h:bC bl){x:Int}(c:DefdIn bl x):0<=x/\x.toNat<(aaG bl).toNat:=by
 obtain⟨b,hb,h1⟩:=c;have hg:=(dr bl 0).2 b hb;have hs:=h b hb;have e:bl.foldl iL 0=aaG bl:=rfl;rw[e] at hg;rcases h1 with h1|⟨o,ho,rfl,h0⟩
 ·have:=hg.1 x h1;have:=hs.1 x h1;rw[aaY Zo Zo] at *;omega
 ·have:=hg.2 o ho;have:=hs.2 o ho;rw[aaY Zo Zo] at *;omega
theorem dd{g:List (List Nat)}{k v:Int}(h:yy d g i k v=true):(d.1 v).isSome=true:=by
 cases h1:d.1 v with
 |none=>rw[dC h1] at h;cases h
 |some b=>rfl
theorem dw{p:IProg}{n:Nat}(g:p.funcs[n]? =some bl)(h:yi p n=true):(0<=aaG bl/\aaG bl<=65536)/\∀b∈bl,aq (aaG bl).toNat b:=by
 cases bl with
 |nil=>exact⟨⟨by decide,by decide⟩,fun b hb=>by cases hb⟩
 |cons b0 bs=>
  obtain⟨_,d,l,hr⟩:=tF g h;obtain⟨k1,k2⟩:=cP (b0::bs) 0 _ d (show uH p (b0::bs) (b0::bs) 0 _=some d from l)
  have f:∀x,(d.1 x).isSome=true->0<=x/\x.toNat<(aaG (b0::bs)).toNat:=fun x hx=>by
   rcases k2 x hx with h1|h1
   ·cases h1
   ·exact dY k1 h1
  refine⟨bD k1,fun b hb=>?_⟩;obtain⟨j,i⟩:=Ny hb;unfold iM at hr;rw[Jm] at hr;have c:=(cB _ 0).1 hr.2 j b i;unfold aaC at c;rw[Jm] at c;refine⟨fun x hx=>dY k1 ⟨b,hb,.inl hx⟩,fun o ho=>⟨fun x hx=>?_,fun h0=>(dY k1 ⟨b,hb,.inr ⟨o,ho,rfl,h0⟩⟩).2⟩,fun x hx=>?_⟩
  ·obtain⟨k,hk⟩:=Ny ho;exact f x (dd (Oe.1 ((dF _ 0).1 c.1 k o hk) x hx))
  ·exact f x (dd (Oe.1 c.2 x hx))
theorem aM {p:IProg}(h:vC p=0)(hs:∀f∈p.funcs,vZ f):UseProg p:=by
 obtain⟨_,hf⟩:=rz h
 have c:∀bl∈p.funcs,(0<=aaG bl/\aaG bl<=65536)/\∀b∈bl,aq (aaG bl).toNat b:=fun bl hb=>by
  obtain⟨n,d⟩:=Ny hb;exact dw d (hf n (Jh.1 d).1)
 exact⟨hs,fun bl hb=>(c bl hb).1,fun bl hb=>(c bl hb).2⟩
def accL (bl:List IBlk):List IOp:=(bl.flatMap (·.ops)).filter aeB
def aht (o:IOp):Int:=if o.code=18∨o.code=20 then 2 else 1
def eC:List IObj->Int->Rg->Int->Int
 | [],_,_,_=>-1
 |o::os,k,a,n=>if o.bank=-1/\o.addr<=a.lo/\(a.hi:Int)+n<=(o.addr:Int)+o.size then k else eC os (k+1) a n
def ahm (data:List IObj)(R:List Rg)(o:IOp):Int:=eC data 0 (R.getD o.a.toNat ⟨0,0⟩) (aht o)
def agS (data:List IObj)(R:List Rg)(bl:List IBlk):List Int:=(accL bl).map (ahm data R)
def fnT (p:IProg)(bl:List IBlk):Slv:=ahu p bl (vD (zy bl)) 0 (fx (aaG bl).toNat (xz bl (0:Nat)).params)
def ux (p:IProg)(bl:List IBlk):List Rg:=mo (fnT p bl)
structure FnS (p:IProg) (bl:List IBlk):Prop where
 st:StF p bl
 cnt:0<=aaG bl/\aaG bl<=65536
 rng:∀i:Nat,i<bl.length->(∀x∈(xz bl i).params,0<=x/\x.toNat<(aaG bl).toNat)/\∀o∈(xz bl i).ops,cS (aaG bl).toNat o/\(0<=o.res->o.res.toNat<(aaG bl).toNat)
 num:∀i:Nat,i<bl.length->∀o∈(xz bl i).ops,o.n<65536
theorem FnS.sol{p:IProg}(h:FnS p bl):∀i:Nat,i<bl.length->qf (aaG bl).toNat bl (xz bl i):=fun i hi=>by
 refine⟨fun o ho h0=>⟨(h.rng i hi).2 o ho|>.2 h0,?_,fun _=>h.num i hi o ho⟩,fun e he x hx=>?_⟩
 ·have:=(afl (h.st.opok i hi o ho)).1;omega
 ·have c:=h.st.trm i hi;unfold tz at c;rw[Jm,Oe] at c;have d:=c.1 e he;unfold uM at d;simp only[Jm,decide_eq_true_eq] at d;have:=(h.rng e.block.toNat Zo).1;rw[show((e.block.toNat:Nat):Int)=e.block by omega] at this;exact(this x hx).2
theorem FnS.ord{p:IProg}(h:FnS p bl)(i:Nat):i∈vD (zy bl)↔i<bl.length:=by
 obtain⟨ns,d⟩:=adR h.st.vg;rw[d.eq];constructor
 ·intro c;have:=d.lt i c
  rwa [xu] at this
 ·intro c;exact(d.mem i).2 (h.st.all i c)
theorem FnS.pos{p:IProg}(h:FnS p bl):0<bl.length:=by have:=h.st.vg.1;rwa [xu] at this
theorem FnS.end{p:IProg}(h:FnS p bl):EndOk p (aaG bl).toNat bl (vD (zy bl)) (fx (aaG bl).toNat (xz bl (0:Nat)).params) (fnT p bl):=
 end_ok' (fun i hi=>h.sol i ((h.ord i).1 hi)) (af0 fun v hv=>((h.rng 0 h.pos).1 v hv).2)
theorem afR{p:IProg}(hv:vC p=0)(hs:∀f∈p.funcs,vZ f)(g:P64 p){n:Nat}(c:p.funcs[n]? =some bl)(h0:bl≠ []):FnS p bl:=by
 obtain⟨_,hf⟩:=rz hv;have d:=Ji c;obtain⟨j,h⟩:=dw c (hf n (Jh.1 c).1);refine⟨stF_of c h0 (hf n (Jh.1 c).1),j,fun i hi=>?_,fun i hi o ho=>?_⟩
 ·obtain⟨b,hb⟩:∃b,bl[i]? =some b:=⟨_,Jd hi⟩
  rw[y7 hb];have:=h b (Ji hb);exact⟨this.1,this.2.1⟩
 ·obtain⟨b,hb⟩:∃b,bl[i]? =some b:=⟨_,Jd hi⟩
  rw[y7 hb] at ho;exact((g.funcs bl d b (Ji hb)).ops o ho).1.2.2.2.2
theorem agW (c:Int)(d:c=3∨c=4)(a b:Nat)(f:a<65536)(hb:b<65536)(w:World):O 107 #[I c,M a,M b] w fun e w'=>e=.returned (M (yW c a b:Nat))/\w=w':=by
 have m1:True:=trivial;rcases d with rfl|rfl<;>
 (go_enter Tryz.func107,Tryz.ntmps107
  go_wp2_with (first|(go_at_call 130;go_must (refine(bG _ _).mono ?_;rintro e w' ⟨rfl,rfl⟩))|(go_at_call 129;have g:=m1;clear m1;go_must (refine(dR a f _).mono ?_;rintro e w' ⟨rfl,rfl⟩))|(go_at_call 129;go_must (refine(dR b hb _).mono ?_;rintro e w' ⟨rfl,rfl⟩)))
  all_goals go_ret
  all_goals refine⟨zh ?_,rfl⟩
  all_goals exact rfl)
theorem ae7 (w:World){c:Int}(hc:3<=c/\c<=27){a b:Rg}(ha:a.ok)(hb:b.ok):O 54 #[I c,.agg #[.int .u16 (a.lo:Int),.int .u16 (a.hi:Int)],.agg #[.int .u16 (b.lo:Int),.int .u16 (b.hi:Int)]] w (tg w (qs c a b)):=by
 have c8:=ha.1;have c7:=ha.2;have g:=hb.1;have c5:=hb.2;obtain⟨u,hu⟩:∃u,decide (c=3∨c=4)=u:=⟨_,rfl⟩
 obtain⟨s,hs⟩:∃s,decide (c<=17/\yf a=true/\((c=3∨c=4)∨yf b=true))=s:=⟨_,rfl⟩
 obtain⟨⟨x,y⟩,hR⟩:∃r,qs c a b=r:=⟨_,rfl⟩
 rw[hR];have HR:=Ja hR;have HA:=Ja (Jb ha hb);clear hR ha hb;go_enter Tryz.func54,Tryz.ntmps54;go_upto_region 1 with fail;obtain⟨X,hX⟩:∃X,((w.alloc (G #[.int .u16 (a.lo:Int),.int .u16 (a.hi:Int)] 45)).alloc (G #[.int .u16 (b.lo:Int),.int .u16 (b.hi:Int)] 45)).alloc (G #[.int .u16 0,.int .u16 0] 45)=X:=⟨_,rfl⟩;have o:=Ja (RgX.new w a b);rw[hX] at o ⊢;clear hX;obtain⟨c0,c1,c2,c3⟩:=o.out.c;have cl:=o.out.f.2.2;have HS:=Ja (Jb hu hs)
 go_cut [7] (fun v wx=>v=.bool u/\wx=X)
 case first=>
  by_cases h3:c=3
  ·subst h3;obtain rfl:u=true:=by rw[<-hu];rfl
   clear hu hs;go_wp2;go_meet;exact⟨rfl,rfl⟩
  ·by_cases h4:c=4
   ·subst h4;obtain rfl:u=true:=by rw[<-hu];rfl
    clear hu hs;go_wp2;go_meet;exact⟨rfl,rfl⟩
   ·obtain rfl:u=false:=by rw[<-hu];exact decide_eq_false Zo
    have e3:(c==3)=false:=by rw[beq_eq_false_iff_ne];exact h3
    have e4:(c==4)=false:=by rw[beq_eq_false_iff_ne];exact h4
    clear hu hs h3 h4;go_wp2;go_meet;exact⟨rfl,rfl⟩
 case rest=>
  obtain⟨rfl,b0⟩:=hcut;have a7:=b0.symm;subst a7;clear hu hs;go_upto_region 2 with fail
  go_cut [34] (fun v wx=>v=.bool s/\wx=X)
  case first=>
   obtain⟨hu,hs⟩:=HS.out;clear HR HA HS
   by_cases h1:c<=17
   ·have d1:decide (c<=17)=true:=decide_eq_true h1
    by_cases h2:a.lo=a.hi
    ·have d2:((a.lo:Int)==(a.hi:Int))=true:=by rw[beq_iff_eq];omega
     by_cases a4:c=3∨c=4
     ·obtain rfl:u=true:=by rw[<-hu];exact decide_eq_true a4
      obtain rfl:s=true:=by rw[<-hs];exact decide_eq_true ⟨h1,decide_eq_true h2,.inl a4⟩
      clear hu hs a4 h1 h2;go_wp2;go_meet;exact⟨rfl,rfl⟩
     ·obtain rfl:u=false:=by rw[<-hu];exact decide_eq_false a4
      obtain⟨q,hq⟩:∃q,yf b=q:=⟨_,rfl⟩
      have d3:((b.lo:Int)==(b.hi:Int))=q:=by rw[<-hq];unfold yf;rw[Bool.eq_iff_iff,beq_iff_eq,decide_eq_true_eq];omega
      obtain rfl:s=q:=by
       rw[<-hs,<-hq,Bool.eq_iff_iff,decide_eq_true_eq];exact⟨fun h=>h.2.2.resolve_left a4,fun h=>⟨h1,decide_eq_true h2,.inr h⟩⟩
      clear hu hs a4 h1 h2 hq;go_wp2;go_meet;exact⟨rfl,rfl⟩
    ·have d2:((a.lo:Int)==(a.hi:Int))=false:=Ze;obtain rfl:s=false:=by rw[<-hs];exact decide_eq_false fun h=>h2 (of_decide_eq_true h.2.1)
     clear hu hs h1 h2;go_wp2;go_meet;exact⟨rfl,rfl⟩
   ·have d1:decide (c<=17)=false:=decide_eq_false h1;obtain rfl:s=false:=by rw[<-hs];exact decide_eq_false fun h=>h1 h.1
    clear hu hs h1;go_wp2;go_meet;exact⟨rfl,rfl⟩
  case rest=>
   obtain⟨rfl,b0⟩:=hcut;have a7:=b0.symm;subst a7;cases s
   ·have hn:=of_decide_eq_false HS.out.2;have i:=HR.out;unfold qs at i;rw[if_neg hn] at i;have b1:=Ja i;clear hn i HR HS;obtain⟨M,hM⟩:∃M,tx (max a.hi b.hi)=M:=⟨_,rfl⟩
    have c9:M<65536:=by rw[<-hM];exact aeY Zo
    have HM:=Ja hM;rw[hM] at b1;clear hM;go_wp2
    go_loopw [9] (fun mv wx=>∃m:Nat,mv=I m/\wx=X/\Hid ((∃k,m+1=2^k)/\m<=M)) (fun mv _=>M+1-(intOf mv).toNat)
    case atStart=>exact⟨0,rfl,rfl,Ja ⟨⟨0,rfl⟩,Jt _⟩⟩
    case round=>
     obtain⟨m,rfl,b6,HI⟩:=hrel;have b5:=b6.symm;subst b5
     have a0:m<a.hi∨m<b.hi->Hid ((∃k,(2*m+1)+1=2^k)/\2*m+1<=M):=fun h=>by
      obtain⟨k,hk⟩:=HI.out.1;obtain⟨K,k1,k2,_⟩:=l5 (max a.hi b.hi);rw[HM.out] at k1;refine Ja ⟨⟨k+1,by rw[Nat.pow_succ];omega⟩,?_⟩
      have b8:k<K:=by
       rcases Nat.lt_or_ge k K with h2|h2
       ·exact h2
       ·have:=Nat.pow_le_pow_right (n:=2) Zd h2;omega
      have h3:=Nat.pow_le_pow_right (n:=2) Zd (show k+1<=K from b8);rw[Nat.pow_succ] at h3;omega
     have c4:=HI.out.2;have w1:IntKind.i64.wrap (2*(m:Int))=2*(m:Int):=Om _ Zo;have w2:IntKind.i64.wrap (2*(m:Int)+1)=2*(m:Int)+1:=Om _ Zo
     by_cases g1:m<a.hi
     ·have d1:decide ((m:Int)<(a.hi:Int))=true:=decide_eq_true Zo;have b4:decide (m<a.hi)=true:=decide_eq_true g1;have H2:=a0 (.inl g1);clear g1 a0;go_wp2;go_roundw
      case rel=>exact⟨2*m+1,by go_num,trivial,H2⟩
      case measure=>have:=H2.out.2;simp[intOf];omega
     ·have d1:decide ((m:Int)<(a.hi:Int))=false:=decide_eq_false Zo;have b4:decide (m<a.hi)=false:=decide_eq_false g1
      by_cases g2:m<b.hi
      ·have d2:decide ((m:Int)<(b.hi:Int))=true:=decide_eq_true Zo;have b3:decide (m<b.hi)=true:=decide_eq_true g2;have H2:=a0 (.inr g2);clear g1 g2 a0;go_wp2;go_roundw
       case rel=>exact⟨2*m+1,by go_num,trivial,H2⟩
       case measure=>have:=H2.out.2;simp[intOf];omega
      ·have d2:decide ((m:Int)<(b.hi:Int))=false:=decide_eq_false Zo;have b3:decide (m<b.hi)=false:=decide_eq_false g2
       obtain rfl:m=M:=by
        obtain⟨k,hk⟩:=HI.out.1;have:=af6 (max a.hi b.hi) m k hk Zo;rw[HM.out] at this;omega
       have i:=b1.out;clear g1 g2 a0 HI HM b1 w1 w2;have b9:c=3∨c=4∨c=5∨c=6∨c=7∨c=8∨c=9∨c=10∨c=11∨c=12∨c=13∨c=14∨c=15∨c=16∨c=17∨c=18∨c=19∨c=20∨c=21∨c=22∨c=23∨c=24∨c=25∨c=26∨c=27:=Zo;go_upto_region 14 with fail;clear hc d1 b4 d2 b3;rcases b9 with rfl|rfl|rfl|rfl|rfl|rfl|rfl|rfl|rfl|rfl|rfl|rfl|rfl|rfl|rfl|rfl|rfl|rfl|rfl|rfl|rfl|rfl|rfl|rfl|rfl
       ·by_cases h0:0<a.lo
        ·have j:wl (65536-a.hi) (65536-a.lo)=⟨x,y⟩:=(if_pos h0).symm.trans i
         injection j with q1 q2
         have d:decide ((0:Int)<(a.lo:Int))=true:=decide_eq_true Zo;have d':decide (0<a.lo)=true:=decide_eq_true h0;clear i;go_wp2_with (go_at_call 53;go_must (refine(xm _ (a:=x) (b:=y) Zo Zo).mono ?_;rintro e w1 ⟨rfl,g⟩;have l:=Ja (o.out.below g);clear g;obtain⟨⟨f0,f1⟩,⟨g0,g1⟩,fl⟩:=l.out.f))
         refine bodyPost_ret (v:=.agg #[.int .u16 (x:Int),.int .u16 (y:Int)]) ?_ rfl ⟨rfl,by repeat' (first|exact l.out.bel|(refine Below.setCell ?_ (by first|(simp;done)|(simp;omega)) _))⟩;rw[zM rfl];go_simp
        ·have j:zx=⟨x,y⟩:=(if_neg h0).symm.trans i;have d:decide ((0:Int)<(a.lo:Int))=false:=decide_eq_false Zo;have d':decide (0<a.lo)=false:=decide_eq_false h0;clear i h0;go_wp2_with (go_at_call 50;go_must (refine(vu _ j).mono ?_;rintro e w1 ⟨rfl,g⟩;have l:=Ja (o.out.below g);clear g;obtain⟨⟨f0,f1⟩,⟨g0,g1⟩,fl⟩:=l.out.f))
         refine bodyPost_ret (v:=.agg #[.int .u16 (x:Int),.int .u16 (y:Int)]) ?_ rfl ⟨rfl,by repeat' (first|exact l.out.bel|(refine Below.setCell ?_ (by first|(simp;done)|(simp;omega)) _))⟩;rw[zM rfl];go_simp
       ·have j:wl (65535-a.hi) (65535-a.lo)=⟨x,y⟩:=i
        injection j with q1 q2
        clear i;go_wp2_with (go_at_call 53;go_must (refine(xm _ (a:=x) (b:=y) Zo Zo).mono ?_;rintro e w1 ⟨rfl,g⟩;have l:=Ja (o.out.below g);clear g;obtain⟨⟨f0,f1⟩,⟨g0,g1⟩,fl⟩:=l.out.f))
        refine bodyPost_ret (v:=.agg #[.int .u16 (x:Int),.int .u16 (y:Int)]) ?_ rfl ⟨rfl,by repeat' (first|exact l.out.bel|(refine Below.setCell ?_ (by first|(simp;done)|(simp;omega)) _))⟩;rw[zM rfl];go_simp
       ·have j:ago 5 a b=⟨x,y⟩:=i;have a3:=Ja (fun W=>e9 W (c:=5) Zd HA.out.1 HA.out.2 j);clear i j;go_wp2_with (go_at_call 108;go_must (refine(a3.out _).mono ?_;rintro e w1 ⟨rfl,g⟩;have l:=Ja (o.out.below g);clear g;obtain⟨⟨f0,f1⟩,⟨g0,g1⟩,fl⟩:=l.out.f))
        refine bodyPost_ret (v:=.agg #[.int .u16 (x:Int),.int .u16 (y:Int)]) ?_ rfl ⟨rfl,by repeat' (first|exact l.out.bel|(refine Below.setCell ?_ (by first|(simp;done)|(simp;omega)) _))⟩;rw[zM rfl];go_simp
       ·have j:ago 6 a b=⟨x,y⟩:=i;have a3:=Ja (fun W=>e9 W (c:=6) Zd HA.out.1 HA.out.2 j);clear i j;go_wp2_with (go_at_call 108;go_must (refine(a3.out _).mono ?_;rintro e w1 ⟨rfl,g⟩;have l:=Ja (o.out.below g);clear g;obtain⟨⟨f0,f1⟩,⟨g0,g1⟩,fl⟩:=l.out.f))
        refine bodyPost_ret (v:=.agg #[.int .u16 (x:Int),.int .u16 (y:Int)]) ?_ rfl ⟨rfl,by repeat' (first|exact l.out.bel|(refine Below.setCell ?_ (by first|(simp;done)|(simp;omega)) _))⟩;rw[zM rfl];go_simp
       ·have j:ago 7 a b=⟨x,y⟩:=i;have a3:=Ja (fun W=>e9 W (c:=7) Zd HA.out.1 HA.out.2 j);clear i j;go_wp2_with (go_at_call 108;go_must (refine(a3.out _).mono ?_;rintro e w1 ⟨rfl,g⟩;have l:=Ja (o.out.below g);clear g;obtain⟨⟨f0,f1⟩,⟨g0,g1⟩,fl⟩:=l.out.f))
        refine bodyPost_ret (v:=.agg #[.int .u16 (x:Int),.int .u16 (y:Int)]) ?_ rfl ⟨rfl,by repeat' (first|exact l.out.bel|(refine Below.setCell ?_ (by first|(simp;done)|(simp;omega)) _))⟩;rw[zM rfl];go_simp
       ·have j:ago 8 a b=⟨x,y⟩:=i;have a3:=Ja (fun W=>e9 W (c:=8) Zd HA.out.1 HA.out.2 j);clear i j;go_wp2_with (go_at_call 108;go_must (refine(a3.out _).mono ?_;rintro e w1 ⟨rfl,g⟩;have l:=Ja (o.out.below g);clear g;obtain⟨⟨f0,f1⟩,⟨g0,g1⟩,fl⟩:=l.out.f))
        refine bodyPost_ret (v:=.agg #[.int .u16 (x:Int),.int .u16 (y:Int)]) ?_ rfl ⟨rfl,by repeat' (first|exact l.out.bel|(refine Below.setCell ?_ (by first|(simp;done)|(simp;omega)) _))⟩;rw[zM rfl];go_simp
       ·obtain⟨n,hn⟩:∃n,min a.hi b.hi=n:=⟨_,rfl⟩
        have j:wl 0 (min a.hi b.hi)=⟨x,y⟩:=i;rw[hn] at j;have b7:∀(ts:Array TypeId) (t:TypeId) (W:World),(Builtin.min_ ts t #[I (a.hi:Int),I (b.hi:Int)]).run Tryz.prog W=.ok (I n) W:=fun ts t W=>by rw[run_min_int2,show(if(b.hi:Int)<(a.hi:Int) then(b.hi:Int) else(a.hi:Int))=(n:Int) by rw[<-hn];split<;>omega]
        injection j with q1 q2
        clear i hn;go_wp2_with (go_at_call 53;go_must (refine(xm _ (a:=x) (b:=y) Zo Zo).mono ?_;rintro e w1 ⟨rfl,g⟩;have l:=Ja (o.out.below g);clear g;obtain⟨⟨f0,f1⟩,⟨g0,g1⟩,fl⟩:=l.out.f))
        refine bodyPost_ret (v:=.agg #[.int .u16 (x:Int),.int .u16 (y:Int)]) ?_ rfl ⟨rfl,by repeat' (first|exact l.out.bel|(refine Below.setCell ?_ (by first|(simp;done)|(simp;omega)) _))⟩;rw[zM rfl];go_simp
       ·obtain⟨n,hn⟩:∃n,max a.lo b.lo=n:=⟨_,rfl⟩
        have j:wl (max a.lo b.lo) m=⟨x,y⟩:=i;rw[hn] at j;have b7:∀(ts:Array TypeId) (t:TypeId) (W:World),(Builtin.max_ ts t #[I (a.lo:Int),I (b.lo:Int)]).run Tryz.prog W=.ok (I n) W:=fun ts t W=>by rw[run_max_int2,show(if(b.lo:Int)>(a.lo:Int) then(b.lo:Int) else(a.lo:Int))=(n:Int) by rw[<-hn];split<;>omega]
        injection j with q1 q2
        clear i hn;go_wp2_with (go_at_call 53;go_must (refine(xm _ (a:=x) (b:=y) Zo Zo).mono ?_;rintro e w1 ⟨rfl,g⟩;have l:=Ja (o.out.below g);clear g;obtain⟨⟨f0,f1⟩,⟨g0,g1⟩,fl⟩:=l.out.f))
        refine bodyPost_ret (v:=.agg #[.int .u16 (x:Int),.int .u16 (y:Int)]) ?_ rfl ⟨rfl,by repeat' (first|exact l.out.bel|(refine Below.setCell ?_ (by first|(simp;done)|(simp;omega)) _))⟩;rw[zM rfl];go_simp
       ·have j:wl 0 m=⟨x,y⟩:=i
        injection j with q1 q2
        clear i;go_wp2_with (go_at_call 53;go_must (refine(xm _ (a:=x) (b:=y) Zo Zo).mono ?_;rintro e w1 ⟨rfl,g⟩;have l:=Ja (o.out.below g);clear g;obtain⟨⟨f0,f1⟩,⟨g0,g1⟩,fl⟩:=l.out.f))
        refine bodyPost_ret (v:=.agg #[.int .u16 (x:Int),.int .u16 (y:Int)]) ?_ rfl ⟨rfl,by repeat' (first|exact l.out.bel|(refine Below.setCell ?_ (by first|(simp;done)|(simp;omega)) _))⟩;rw[zM rfl];go_simp
       ·have a5:=Ja (show ∀W,_ from fun W=>by have h:=f7 W (c:=12) Zd HA.out.1 HA.out.2;rw[show mc 12 a b=⟨x,y⟩ from i] at h;exact h);clear i;go_wp2_with (go_at_call 109;go_must (refine(a5.out _).mono ?_;rintro e w1 ⟨rfl,g⟩;have l:=Ja (o.out.below g);clear g;obtain⟨⟨f0,f1⟩,⟨g0,g1⟩,fl⟩:=l.out.f))
        refine bodyPost_ret (v:=.agg #[.int .u16 (x:Int),.int .u16 (y:Int)]) ?_ rfl ⟨rfl,by repeat' (first|exact l.out.bel|(refine Below.setCell ?_ (by first|(simp;done)|(simp;omega)) _))⟩;rw[zM rfl];go_simp
       ·have a5:=Ja (show ∀W,_ from fun W=>by have h:=f7 W (c:=13) Zd HA.out.1 HA.out.2;rw[show mc 13 a b=⟨x,y⟩ from i] at h;exact h);clear i;go_wp2_with (go_at_call 109;go_must (refine(a5.out _).mono ?_;rintro e w1 ⟨rfl,g⟩;have l:=Ja (o.out.below g);clear g;obtain⟨⟨f0,f1⟩,⟨g0,g1⟩,fl⟩:=l.out.f))
        refine bodyPost_ret (v:=.agg #[.int .u16 (x:Int),.int .u16 (y:Int)]) ?_ rfl ⟨rfl,by repeat' (first|exact l.out.bel|(refine Below.setCell ?_ (by first|(simp;done)|(simp;omega)) _))⟩;rw[zM rfl];go_simp
       ·have a5:=Ja (show ∀W,_ from fun W=>by have h:=f7 W (c:=14) Zd HA.out.1 HA.out.2;rw[show mc 14 a b=⟨x,y⟩ from i] at h;exact h);clear i;go_wp2_with (go_at_call 109;go_must (refine(a5.out _).mono ?_;rintro e w1 ⟨rfl,g⟩;have l:=Ja (o.out.below g);clear g;obtain⟨⟨f0,f1⟩,⟨g0,g1⟩,fl⟩:=l.out.f))
        refine bodyPost_ret (v:=.agg #[.int .u16 (x:Int),.int .u16 (y:Int)]) ?_ rfl ⟨rfl,by repeat' (first|exact l.out.bel|(refine Below.setCell ?_ (by first|(simp;done)|(simp;omega)) _))⟩;rw[zM rfl];go_simp
       ·by_cases h1:a.hi<b.lo
        ·have j:wl 0 0=⟨x,y⟩:=(if_pos (.inl h1)).symm.trans i;have d:decide ((a.hi:Int)<(b.lo:Int))=true:=decide_eq_true Zo;have d':decide (a.hi<b.lo)=true:=decide_eq_true h1
         injection j with q1 q2
         clear i;go_wp2_with (go_at_call 53;go_must (refine(xm _ (a:=x) (b:=y) Zo Zo).mono ?_;rintro e w1 ⟨rfl,g⟩;have l:=Ja (o.out.below g);clear g;obtain⟨⟨f0,f1⟩,⟨g0,g1⟩,fl⟩:=l.out.f))
         refine bodyPost_ret (v:=.agg #[.int .u16 (x:Int),.int .u16 (y:Int)]) ?_ rfl ⟨rfl,by repeat' (first|exact l.out.bel|(refine Below.setCell ?_ (by first|(simp;done)|(simp;omega)) _))⟩;rw[zM rfl];go_simp
        ·have d:decide ((a.hi:Int)<(b.lo:Int))=false:=decide_eq_false Zo;have d':decide (a.hi<b.lo)=false:=decide_eq_false h1
         by_cases h2:b.hi<a.lo
         ·have j:wl 0 0=⟨x,y⟩:=(if_pos (.inr h2)).symm.trans i;have e:decide ((b.hi:Int)<(a.lo:Int))=true:=decide_eq_true Zo;have e':decide (b.hi<a.lo)=true:=decide_eq_true h2
          injection j with q1 q2
          clear i;go_wp2_with (go_at_call 53;go_must (refine(xm _ (a:=x) (b:=y) Zo Zo).mono ?_;rintro e w1 ⟨rfl,g⟩;have l:=Ja (o.out.below g);clear g;obtain⟨⟨f0,f1⟩,⟨g0,g1⟩,fl⟩:=l.out.f))
          refine bodyPost_ret (v:=.agg #[.int .u16 (x:Int),.int .u16 (y:Int)]) ?_ rfl ⟨rfl,by repeat' (first|exact l.out.bel|(refine Below.setCell ?_ (by first|(simp;done)|(simp;omega)) _))⟩;rw[zM rfl];go_simp
         ·have j:wl 0 1=⟨x,y⟩:=(if_neg (fun h=>h.elim h1 h2)).symm.trans i;have e:decide ((b.hi:Int)<(a.lo:Int))=false:=decide_eq_false Zo;have e':decide (b.hi<a.lo)=false:=decide_eq_false h2;clear h1 h2
          injection j with q1 q2
          clear i;go_wp2_with (go_at_call 53;go_must (refine(xm _ (a:=x) (b:=y) Zo Zo).mono ?_;rintro e w1 ⟨rfl,g⟩;have l:=Ja (o.out.below g);clear g;obtain⟨⟨f0,f1⟩,⟨g0,g1⟩,fl⟩:=l.out.f))
          refine bodyPost_ret (v:=.agg #[.int .u16 (x:Int),.int .u16 (y:Int)]) ?_ rfl ⟨rfl,by repeat' (first|exact l.out.bel|(refine Below.setCell ?_ (by first|(simp;done)|(simp;omega)) _))⟩;rw[zM rfl];go_simp
       ·by_cases h1:a.hi<b.lo
        ·have j:wl 1 1=⟨x,y⟩:=(if_pos h1).symm.trans i;have d:decide ((a.hi:Int)<(b.lo:Int))=true:=decide_eq_true Zo;have d':decide (a.hi<b.lo)=true:=decide_eq_true h1
         injection j with q1 q2
         clear i;go_wp2_with (go_at_call 53;go_must (refine(xm _ (a:=x) (b:=y) Zo Zo).mono ?_;rintro e w1 ⟨rfl,g⟩;have l:=Ja (o.out.below g);clear g;obtain⟨⟨f0,f1⟩,⟨g0,g1⟩,fl⟩:=l.out.f))
         refine bodyPost_ret (v:=.agg #[.int .u16 (x:Int),.int .u16 (y:Int)]) ?_ rfl ⟨rfl,by repeat' (first|exact l.out.bel|(refine Below.setCell ?_ (by first|(simp;done)|(simp;omega)) _))⟩;rw[zM rfl];go_simp
        ·have d:decide ((a.hi:Int)<(b.lo:Int))=false:=decide_eq_false Zo;have d':decide (a.hi<b.lo)=false:=decide_eq_false h1;have i:=(if_neg h1).symm.trans i
         by_cases h2:b.hi<=a.lo
         ·have j:wl 0 0=⟨x,y⟩:=(if_pos h2).symm.trans i;have e:decide ((b.hi:Int)<=(a.lo:Int))=true:=decide_eq_true Zo;have e':decide (b.hi<=a.lo)=true:=decide_eq_true h2
          injection j with q1 q2
          clear i;go_wp2_with (go_at_call 53;go_must (refine(xm _ (a:=x) (b:=y) Zo Zo).mono ?_;rintro e w1 ⟨rfl,g⟩;have l:=Ja (o.out.below g);clear g;obtain⟨⟨f0,f1⟩,⟨g0,g1⟩,fl⟩:=l.out.f))
          refine bodyPost_ret (v:=.agg #[.int .u16 (x:Int),.int .u16 (y:Int)]) ?_ rfl ⟨rfl,by repeat' (first|exact l.out.bel|(refine Below.setCell ?_ (by first|(simp;done)|(simp;omega)) _))⟩;rw[zM rfl];go_simp
         ·have j:wl 0 1=⟨x,y⟩:=(if_neg h2).symm.trans i;have e:decide ((b.hi:Int)<=(a.lo:Int))=false:=decide_eq_false Zo;have e':decide (b.hi<=a.lo)=false:=decide_eq_false h2;clear h1 h2
          injection j with q1 q2
          clear i;go_wp2_with (go_at_call 53;go_must (refine(xm _ (a:=x) (b:=y) Zo Zo).mono ?_;rintro e w1 ⟨rfl,g⟩;have l:=Ja (o.out.below g);clear g;obtain⟨⟨f0,f1⟩,⟨g0,g1⟩,fl⟩:=l.out.f))
          refine bodyPost_ret (v:=.agg #[.int .u16 (x:Int),.int .u16 (y:Int)]) ?_ rfl ⟨rfl,by repeat' (first|exact l.out.bel|(refine Below.setCell ?_ (by first|(simp;done)|(simp;omega)) _))⟩;rw[zM rfl];go_simp
       ·have j:wl 0 1=⟨x,y⟩:=i
        injection j with q1 q2
        clear i;go_wp2_with (go_at_call 53;go_must (refine(xm _ (a:=x) (b:=y) Zo Zo).mono ?_;rintro e w1 ⟨rfl,g⟩;have l:=Ja (o.out.below g);clear g;obtain⟨⟨f0,f1⟩,⟨g0,g1⟩,fl⟩:=l.out.f))
        refine bodyPost_ret (v:=.agg #[.int .u16 (x:Int),.int .u16 (y:Int)]) ?_ rfl ⟨rfl,by repeat' (first|exact l.out.bel|(refine Below.setCell ?_ (by first|(simp;done)|(simp;omega)) _))⟩;rw[zM rfl];go_simp
       ·have j:zx=⟨x,y⟩:=i;clear i;go_wp2_with (go_at_call 50;go_must (refine(vu _ j).mono ?_;rintro e w1 ⟨rfl,g⟩;have l:=Ja (o.out.below g);clear g;obtain⟨⟨f0,f1⟩,⟨g0,g1⟩,fl⟩:=l.out.f))
        refine bodyPost_ret (v:=.agg #[.int .u16 (x:Int),.int .u16 (y:Int)]) ?_ rfl ⟨rfl,by repeat' (first|exact l.out.bel|(refine Below.setCell ?_ (by first|(simp;done)|(simp;omega)) _))⟩;rw[zM rfl];go_simp
       ·have j:wl 0 255=⟨x,y⟩:=i
        injection j with q1 q2
        clear i;go_wp2_with (go_at_call 53;go_must (refine(xm _ (a:=x) (b:=y) Zo Zo).mono ?_;rintro e w1 ⟨rfl,g⟩;have l:=Ja (o.out.below g);clear g;obtain⟨⟨f0,f1⟩,⟨g0,g1⟩,fl⟩:=l.out.f))
        refine bodyPost_ret (v:=.agg #[.int .u16 (x:Int),.int .u16 (y:Int)]) ?_ rfl ⟨rfl,by repeat' (first|exact l.out.bel|(refine Below.setCell ?_ (by first|(simp;done)|(simp;omega)) _))⟩;rw[zM rfl];go_simp
       ·have j:zx=⟨x,y⟩:=i;clear i;go_wp2_with (go_at_call 50;go_must (refine(vu _ j).mono ?_;rintro e w1 ⟨rfl,g⟩;have l:=Ja (o.out.below g);clear g;obtain⟨⟨f0,f1⟩,⟨g0,g1⟩,fl⟩:=l.out.f))
        refine bodyPost_ret (v:=.agg #[.int .u16 (x:Int),.int .u16 (y:Int)]) ?_ rfl ⟨rfl,by repeat' (first|exact l.out.bel|(refine Below.setCell ?_ (by first|(simp;done)|(simp;omega)) _))⟩;rw[zM rfl];go_simp
       ·have j:zx=⟨x,y⟩:=i;clear i;go_wp2_with (go_at_call 50;go_must (refine(vu _ j).mono ?_;rintro e w1 ⟨rfl,g⟩;have l:=Ja (o.out.below g);clear g;obtain⟨⟨f0,f1⟩,⟨g0,g1⟩,fl⟩:=l.out.f))
        refine bodyPost_ret (v:=.agg #[.int .u16 (x:Int),.int .u16 (y:Int)]) ?_ rfl ⟨rfl,by repeat' (first|exact l.out.bel|(refine Below.setCell ?_ (by first|(simp;done)|(simp;omega)) _))⟩;rw[zM rfl];go_simp
       ·have j:zx=⟨x,y⟩:=i;clear i;go_wp2_with (go_at_call 50;go_must (refine(vu _ j).mono ?_;rintro e w1 ⟨rfl,g⟩;have l:=Ja (o.out.below g);clear g;obtain⟨⟨f0,f1⟩,⟨g0,g1⟩,fl⟩:=l.out.f))
        refine bodyPost_ret (v:=.agg #[.int .u16 (x:Int),.int .u16 (y:Int)]) ?_ rfl ⟨rfl,by repeat' (first|exact l.out.bel|(refine Below.setCell ?_ (by first|(simp;done)|(simp;omega)) _))⟩;rw[zM rfl];go_simp
       ·have j:wl 0 255=⟨x,y⟩:=i
        injection j with q1 q2
        clear i;go_wp2_with (go_at_call 53;go_must (refine(xm _ (a:=x) (b:=y) Zo Zo).mono ?_;rintro e w1 ⟨rfl,g⟩;have l:=Ja (o.out.below g);clear g;obtain⟨⟨f0,f1⟩,⟨g0,g1⟩,fl⟩:=l.out.f))
        refine bodyPost_ret (v:=.agg #[.int .u16 (x:Int),.int .u16 (y:Int)]) ?_ rfl ⟨rfl,by repeat' (first|exact l.out.bel|(refine Below.setCell ?_ (by first|(simp;done)|(simp;omega)) _))⟩;rw[zM rfl];go_simp
       ·have j:zx=⟨x,y⟩:=i;clear i;go_wp2_with (go_at_call 50;go_must (refine(vu _ j).mono ?_;rintro e w1 ⟨rfl,g⟩;have l:=Ja (o.out.below g);clear g;obtain⟨⟨f0,f1⟩,⟨g0,g1⟩,fl⟩:=l.out.f))
        refine bodyPost_ret (v:=.agg #[.int .u16 (x:Int),.int .u16 (y:Int)]) ?_ rfl ⟨rfl,by repeat' (first|exact l.out.bel|(refine Below.setCell ?_ (by first|(simp;done)|(simp;omega)) _))⟩;rw[zM rfl];go_simp
       ·have j:zx=⟨x,y⟩:=i;clear i;go_wp2_with (go_at_call 50;go_must (refine(vu _ j).mono ?_;rintro e w1 ⟨rfl,g⟩;have l:=Ja (o.out.below g);clear g;obtain⟨⟨f0,f1⟩,⟨g0,g1⟩,fl⟩:=l.out.f))
        refine bodyPost_ret (v:=.agg #[.int .u16 (x:Int),.int .u16 (y:Int)]) ?_ rfl ⟨rfl,by repeat' (first|exact l.out.bel|(refine Below.setCell ?_ (by first|(simp;done)|(simp;omega)) _))⟩;rw[zM rfl];go_simp
       ·have j:zx=⟨x,y⟩:=i;clear i;go_wp2_with (go_at_call 50;go_must (refine(vu _ j).mono ?_;rintro e w1 ⟨rfl,g⟩;have l:=Ja (o.out.below g);clear g;obtain⟨⟨f0,f1⟩,⟨g0,g1⟩,fl⟩:=l.out.f))
        refine bodyPost_ret (v:=.agg #[.int .u16 (x:Int),.int .u16 (y:Int)]) ?_ rfl ⟨rfl,by repeat' (first|exact l.out.bel|(refine Below.setCell ?_ (by first|(simp;done)|(simp;omega)) _))⟩;rw[zM rfl];go_simp
       ·have j:zx=⟨x,y⟩:=i;clear i;go_wp2_with (go_at_call 50;go_must (refine(vu _ j).mono ?_;rintro e w1 ⟨rfl,g⟩;have l:=Ja (o.out.below g);clear g;obtain⟨⟨f0,f1⟩,⟨g0,g1⟩,fl⟩:=l.out.f))
        refine bodyPost_ret (v:=.agg #[.int .u16 (x:Int),.int .u16 (y:Int)]) ?_ rfl ⟨rfl,by repeat' (first|exact l.out.bel|(refine Below.setCell ?_ (by first|(simp;done)|(simp;omega)) _))⟩;rw[zM rfl];go_simp
   ·have a1:=of_decide_eq_true HS.out.2;have a2:=HR.out;unfold qs at a2;rw[if_pos a1] at a2;obtain⟨⟨f0,f1⟩,⟨g0,g1⟩,fl⟩:=o.out.f
    by_cases h8:c=8/\b.lo=0
    ·rw[if_pos h8] at a2;have j:=a2;obtain⟨rfl,h8⟩:=h8;have q0:((b.lo:Int)==0)=true:=by rw[beq_iff_eq];omega
     clear a2 a1 h8 HR HS HA f0 f1 g0 g1 fl;go_wp2_with (go_at_call 50;go_must (refine(vu _ j).mono ?_;rintro e w1 ⟨rfl,g⟩;have l:=Ja (o.out.below g);clear g;obtain⟨⟨f0,f1⟩,⟨g0,g1⟩,fl⟩:=l.out.f))
     refine bodyPost_ret (v:=.agg #[.int .u16 (x:Int),.int .u16 (y:Int)]) ?_ rfl ⟨rfl,by repeat' (first|exact l.out.bel|(refine Below.setCell ?_ (by first|(simp;done)|(simp;omega)) _))⟩;rw[zM rfl];go_simp
    ·rw[if_neg h8] at a2
     injection a2 with q1 q2
     obtain rfl:x=y:=q1.symm.trans q2;clear q2;obtain⟨z,hz⟩:∃z,yW c a.lo b.lo=z:=⟨_,rfl⟩
     have b2:∀W,O 107 #[I c,.int .u16 (a.lo:Int),.int .u16 (b.lo:Int)] W fun e w'=>e=.returned (.int .u16 (z:Int))/\W=w':=fun W=>by
      rw[<-hz]
      by_cases h3:c=3∨c=4
      ·exact agW c h3 _ _ Zo Zo W
      ·exact aeN c (by have:=a1.1;omega) _ _ Zo Zo (fun h h0=>h8 ⟨h,h0⟩) W
     have a6:=Ja b2;clear b2
     by_cases h3:c=3
     ·subst h3;have hx:(65536-a.lo)%65536=x:=q1;have w1:IntKind.u16.wrap (0-(a.lo:Int))=(x:Int):=by rw[xY];omega
      have w1':IntKind.u16.wrap (-(a.lo:Int))=(x:Int):=by rw[xY];omega
      clear h8 hz q1 a1 hx HR HS HA;go_wp2_with (go_at_call 107;go_must (refine(a6.out _).mono ?_;rintro e w1 ⟨rfl,rfl⟩))
      refine bodyPost_ret (v:=.agg #[.int .u16 (x:Int),.int .u16 (x:Int)]) ?_ rfl ⟨rfl,by repeat' (first|exact o.out.bel|(refine Below.setCell ?_ (by first|(simp;done)|(simp;omega)) _))⟩;rw[zM rfl];go_simp
     ·by_cases h4:c=4
      ·subst h4;have hx:65535-a.lo=x:=q1;have w1:IntKind.u16.wrap (65535-(a.lo:Int))=(x:Int):=by rw[xY];omega
       clear h8 hz q1 a1 hx HR HS HA;go_wp2_with (go_at_call 107;go_must (refine(a6.out _).mono ?_;rintro e w1 ⟨rfl,rfl⟩))
       refine bodyPost_ret (v:=.agg #[.int .u16 (x:Int),.int .u16 (x:Int)]) ?_ rfl ⟨rfl,by repeat' (first|exact o.out.bel|(refine Below.setCell ?_ (by first|(simp;done)|(simp;omega)) _))⟩;rw[zM rfl];go_simp
      ·obtain rfl:x=z:=by
        rw[<-hz,<-q1];unfold pp;rw[if_neg h3,if_neg h4]
       have e3:(c==3)=false:=by rw[beq_eq_false_iff_ne];exact h3
       have e4:(c==4)=false:=by rw[beq_eq_false_iff_ne];exact h4
       by_cases h5:c=8
       ·subst h5;have q0:((b.lo:Int)==0)=false:=by rw[beq_eq_false_iff_ne];exact fun h=>h8 ⟨rfl,by omega⟩
        clear h8 hz q1 a1 HR HS HA h3 h4;go_wp2_with (go_at_call 107;go_must (refine(a6.out _).mono ?_;rintro e w1 ⟨rfl,rfl⟩))
        refine bodyPost_ret (v:=.agg #[.int .u16 (x:Int),.int .u16 (x:Int)]) ?_ rfl ⟨rfl,by repeat' (first|exact o.out.bel|(refine Below.setCell ?_ (by first|(simp;done)|(simp;omega)) _))⟩;rw[zM rfl];go_simp
       ·have e8:(c==8)=false:=by rw[beq_eq_false_iff_ne];exact h5
        clear h8 hz q1 a1 HR HS HA h3 h4 h5;go_wp2_with (go_at_call 107;go_must (refine(a6.out _).mono ?_;rintro e w1 ⟨rfl,rfl⟩))
        refine bodyPost_ret (v:=.agg #[.int .u16 (x:Int),.int .u16 (x:Int)]) ?_ rfl ⟨rfl,by repeat' (first|exact o.out.bel|(refine Below.setCell ?_ (by first|(simp;done)|(simp;omega)) _))⟩;rw[zM rfl];go_simp
end Go.Proofs.YtoahcpkibpomcaaGreat
