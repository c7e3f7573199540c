/- Part of a proof. -/
import Derived.Test.YtoahcpkibpomcaaGreatMath
import Derived.Test.YtoahcpkibpomcaaGreatRows
import Derived.Test.YtoahcpkibpomcaaGreatSq
import Derived.Test.YtoahcpkibpomcaaGreatSw
import Derived.BigRegion
import Derived.Laws.EntriesVeiled
import Derived.Maps.OwnOps
import Derived.Maps.OwnSet
import Derived.WalkLawsBesides
set_option linter.all false
set_option maxHeartbeats 1600000
set_option maxRecDepth 100000
namespace Go.Proofs.YtoahcpkibpomcaaGreat
open Go.RowKit
variable {W W' w w' w0 w1 w2:World}{B' B0 Bk Bs Bv base' c cp d gk i j k u:Nat}{o:Obj}{xs:List Value}{ov pv v':Value}{f:Int->Nat}{m:Mach}{seen:List Bool}{post:List Nat}{x:Int}{rest:List Oper}{P:Program}
def xp {α:Type}(enc:α->Value)(w:World)(B:Nat)(v:Value)(xs:List α):Prop:=
 ∃(a:Option Addr) (cap:Nat),v=.slice a xs.length cap/\xs.length<=cap/\∀(k:Nat) (x:α),xs[k]? =some x->∃b o,a=some ⟨b,o,none⟩/\b<B/\T w b (o+k) (enc x)
def zN (n:Int):Value:=I n
def zj (n:Nat):Value:=I n
def qy (b:Bool):Value:=.bool b
theorem xp.below{α:Type}{enc:α->Value}{B:Nat}{v:Value}{xs:List α}(h:xp enc w B v xs)(hb:Below B w w'):xp enc w' B v xs:=by
 obtain⟨a,f,rfl,c,h⟩:=h;refine⟨a,f,rfl,c,fun k x hk=>?_⟩;obtain⟨b,o,i,d,g⟩:=h k x hk;exact⟨b,o,i,d,(hb.cell (p:=⟨b,o+k,none⟩) d).trans g⟩
theorem xp.mono{α:Type}{enc:α->Value}{B:Nat}{v:Value}{xs:List α}(h:xp enc w B v xs)(hb:B<=B'):xp enc w B' v xs:=by
 obtain⟨a,d,rfl,c,h⟩:=h;refine⟨a,d,rfl,c,fun k x hk=>?_⟩;obtain⟨b,o,g,i,f⟩:=h k x hk;exact⟨b,o,g,by omega,f⟩
theorem xp.map{α β:Type}{enc:α->Value}{enc':β->Value}(f:β->α)(hf:∀x,enc (f x)=enc' x){B:Nat}{v:Value}{xs:List β}:
 xp enc w B v (xs.map f)↔xp enc' w B v xs:=by
 constructor
 ·rintro⟨a,d,rfl,c,h⟩;refine⟨a,d,by simp,by simpa using c,fun k x hk=>?_⟩;have:=h k (f x) (by simp[hk])
  rwa [hf] at this
 ·rintro⟨a,d,rfl,c,h⟩;refine⟨a,d,by simp,by simpa using c,fun k x hk=>?_⟩;simp only[Jr,Oz] at hk;obtain⟨y,g,rfl⟩:=hk;rw[hf];exact h k y g
def aaB {α:Type}(enc:α->Value)(w:World)(B:Nat)(v:Value)(g:List (List α)):Prop:=
 ∃vs:List Value,xp id w B v vs/\vs.length=g.length/\∀(k:Nat) (rv:Value) (row:List α),vs[k]? =some rv->g[k]? =some row->xp enc w B rv row
theorem aaB.below{α:Type}{enc:α->Value}{B:Nat}{v:Value}{g:List (List α)}(h:aaB enc w B v g)(hb:Below B w w'):aaB enc w' B v g:=by
 obtain⟨vs,h1,h2,h3⟩:=h;exact⟨vs,h1.below hb,h2,fun k rv row a b=>(h3 k rv row a b).below hb⟩
theorem aaB.mono{α:Type}{enc:α->Value}{B:Nat}{v:Value}{g:List (List α)}(h:aaB enc w B v g)(hb:B<=B'):aaB enc w B' v g:=by
 obtain⟨vs,h1,h2,h3⟩:=h;exact⟨vs,h1.mono hb,h2,fun k rv row a b=>(h3 k rv row a b).mono hb⟩
theorem aaB.form{α:Type}{enc:α->Value}{B:Nat}{v:Value}{g:List (List α)}(h:aaB enc w B v g):∃a cap,v=.slice a g.length cap/\g.length<=cap:=by
 obtain⟨vs,⟨a,cap,rfl,c,_⟩,h2,_⟩:=h;exact⟨a,cap,by rw[h2],by omega⟩
theorem aaB.row{α:Type}{enc:α->Value}{B:Nat}{a:Option Addr}{len l:Nat}{g:List (List α)}(h:aaB enc w B (.slice a len l) g){row:List α}(hk:g[k]? =some row):
 ∃b o a2 cap2,a=some ⟨b,o,none⟩/\b<B/\T w b (o+k) (.slice a2 row.length cap2)/\row.length<=cap2/\∀j x,row[j]? =some x->∃b2 o2,a2=some ⟨b2,o2,none⟩/\b2<B/\T w b2 (o2+j) (enc x):=by
 obtain⟨vs,⟨a',y,hv,_,m⟩,h2,h3⟩:=h;cases hv;have d:k<vs.length:=by rw[h2];exact(Jh.1 hk).1
 obtain⟨b,o,t,u,q⟩:=m k _ (Jd d);obtain⟨a2,cap2,i,c,f⟩:=h3 k _ row (Jd d) hk;refine⟨b,o,a2,cap2,t,u,?_,c,f⟩;rw[q,<-i];rfl
theorem aaB.map{α β:Type}{enc:α->Value}{enc':β->Value}(f:β->α)(hf:∀x,enc (f x)=enc' x){B:Nat}{v:Value}{g:List (List β)}:
 aaB enc w B v (g.map (List.map f))↔aaB enc' w B v g:=by
 constructor
 ·rintro⟨vs,h1,h2,h3⟩;exact⟨vs,h1,by simpa using h2,fun k rv row a b=>(xp.map f hf).1 (h3 k rv _ a (by simp[b]))⟩
 ·rintro⟨vs,h1,h2,h3⟩;refine⟨vs,h1,by simpa using h2,fun k rv row a b=>?_⟩;simp only[Jr,Oz] at b;obtain⟨y,c,rfl⟩:=b;exact(xp.map f hf).2 (h3 k rv y a c)
theorem zI{B:Nat}(h:W.heap.size=B):(W.alloc o).heap[B]? =some o:=by subst h;exact heap_alloc_new W o
theorem zB{o':Obj}{b:Nat}(h:W.heap[b]? =some o'):(W.alloc o).heap[b]? =some o':=(Below.heap_alloc W o b (lt_of_block h)).trans h
theorem zL{row:Option Nat}{b:Nat}(hg:W.grownBy w1 row)(hk:W.heap[b]? =some o)(c:row≠some b):w1.heap[b]? =some o:=(hg.block b (lt_of_block hk) (Ne.symm c)).trans hk
theorem zR{b:Nat}{a:Addr}{u:Value}(h:W.heap[b]? =some o)(c:b≠a.block):(W.setCell a u).heap[b]? =some o:=(Below.heap_setCell _ _ _ _ c).trans h
theorem zH{B:Nat}{b:Nat}(hb:Below B W W')(h:W.heap[b]? =some o)(c:b<B):W'.heap[b]? =some o:=(hb.block b c).trans h
theorem zC{b:Nat}{e t:TypeId}{size n:Nat}{v:Value}{cs:Array Value}(h:w.ownsRow c e size v n xs)(hb:A w b cs t)(hne:b<c∨e≠t):v.ownBlock≠some b:=by
 rcases h.2 with⟨rfl,_⟩|⟨g,i,f,rfl,hg,d,_⟩
 ·simp[Value.ownBlock]
 ·simp only[Value.ownBlock,ne_eq,Option.some.injEq];rintro rfl;rw[d] at hb;rcases hne with hne|hne
  ·omega
  ·exact hne (by simpa using congrArg (fun o=>match o with|some (Obj.cells _ t _)=>t|_=>0) hb)
theorem zo{e e':TypeId}{size n n':Nat}{v:Value}{f:List Value}(h:w.ownsRow d e size v n xs)(k:w.ownsRow base' e' c v' n' f)(i:e≠e'):v.ownBlock=none∨v.ownBlock≠v'.ownBlock:=by
 rcases h.2 with⟨rfl,_⟩|⟨g,m,l,rfl,hg,j,_⟩
 ·exact .inl rfl
 ·right;intro e1;exact zC k j (.inr (Ne.symm i)) e1.symm
theorem zD{b:Nat}{cs:Array Value}{t:TypeId}(h:A w b cs t)(u:Value):A (w.setCell ⟨b,i,none⟩ u) b (cs.setIfInBounds i u) t:=by
 have c:=lt_of_block h;have d:w.heap[b]=G cs t:=by simpa[Array.getElem?_eq_getElem c] using h
 show(w.heap.modify b _)[b]? =_
 rw[Array.getElem?_eq_getElem (by simpa using c),Array.getElem_modify_self,d];rfl
theorem zA{b:Nat}{cs:Array Value}{t:TypeId}{v:Value}(h:A w b cs t)(hi:cs[i]? =some v):T w b i v:=by simp[World.cell?,h,hi]
theorem zE{b:Nat}{cs:Array Value}{t:TypeId}(h:A w b cs t):Y w b i:=by simp[World.frozen?,h]
theorem vY{e:TypeId}{size n:Nat}{v:Value}(h:w.ownsRow c e size v n xs)(hb:base'<=c):w.ownsRow base' e size v n xs:=by
 refine⟨h.1,?_⟩;rcases h.2 with h2|⟨g,f,d,rfl,hg,r⟩
 ·exact .inl h2
 ·exact .inr ⟨g,f,d,rfl,by omega,r⟩
theorem zG{e:TypeId}{size n:Nat}{v:Value}(h:w.ownsRow c e size v n xs):∃a cap,v=.slice a n cap:=by
 rcases h.2 with⟨rfl,rfl⟩|⟨g,cap,d,rfl,_⟩
 ·exact⟨none,0,rfl⟩
 ·exact⟨_,cap,rfl⟩
theorem zm{f:Nat}{e:TypeId}{size n m:Nat}{a:Option Addr}(h:w.ownsRow f e size (.slice a m d) n xs):m<=d/\d<=9223372036854775807:=by
 rcases h.2 with⟨hv,_⟩|⟨g,c,i,hv,_,_,h1,h2,_⟩
 ·cases hv;omega
 ·cases hv;unfold maxLen at h2;omega
theorem ji{e:TypeId}{size n:Nat}{v:Value}(h:w.ownsRow c e size v n xs):(w.drewN k).ownsRow c e size v n xs:=h
theorem kg{b:Nat}{o:Option Obj}(h:w.heap[b]? =o):(w.drewN k).heap[b]? =o:=h
theorem yC{B:Nat}(h:Below B w w'):Below B w (w'.drewN k):=⟨h.os,h.tape,h.output,h.size,h.block⟩
theorem jc{b:Nat}{v:Value}{t t':TypeId}(h:A w b #[v] t)(c:A w b #[v'] t'):v=v':=by
 rw[h] at c;simp only[Option.some.injEq,Obj.cells.injEq] at c;simpa using c.1
theorem nJ{row:Option Nat}(h:W.grownBy W' row):W.grownBy W'.drew row:=⟨h.os,h.tape,h.output,h.size,h.block⟩
theorem oI (W:World)(row:Option Nat):W.grownBy W row:=⟨rfl,rfl,rfl,Je _,fun _ _ _=>rfl⟩
theorem yL (B:Nat)(w:World)(n:Nat):Below B w (w.drewN n):=⟨rfl,rfl,rfl,Je _,fun _ _=>rfl⟩
theorem jU{b o:Nat}{v:Value}(h:T w b o v):b<w.heap.size:=Jw w _ h
theorem bcell(hb:Q W w1):(∀b o,b<W.heap.size->w1.cell? ⟨b,o,none⟩=W.cell? ⟨b,o,none⟩)/\(∀b o,b<W.heap.size->w1.frozen? ⟨b,o,none⟩=W.frozen? ⟨b,o,none⟩):=
 ⟨fun b o h=>hb.cell (p:=⟨b,o,none⟩) h,fun b o h=>hb.frozen (p:=⟨b,o,none⟩) h⟩
theorem zh {k:IntKind}{a b:Int}(h:a=b):Ending.returned (.int k a)=.returned (.int k b):=by rw[h]
theorem rH {a b:Bool}(h:a=b):Ending.returned (.bool a)=.returned (.bool b):=by rw[h]
def okS (n:Nat)(s:Int):Bool:=decide (0<=s) && decide (s<(n:Int))
theorem tm {α:Type}(p:α->Bool)(l:List α)(k:Nat)(x:α)(h:l[k]? =some x)(hp:(l.take k).all p=true)(c:p x=true):(l.take (k+1)).all p=true:=by
 rw[Nh,h];simp[hp,c]
theorem vU {α:Type}(p:α->Bool)(l:List α)(k:Nat)(x:α)(h:l[k]? =some x)(c:p x=false):l.all p=false:=by
 rw[Um];exact⟨x,Ji h,by simp[c]⟩
theorem lR (w:World)(sv:Value)(g:List (List Int))(B:Nat)(hB:B<=w.heap.size)(h:aaB zN w B sv g)(hn:g.length<=2000000)(hr:∀row∈g,row.length<=2000000):
 O 93 #[.agg #[sv]] w fun e w'=>e=.returned (.bool (decide (0<g.length) && pB g))/\Q w w':=by
 obtain⟨a,y,rfl,b1⟩:=h.form;have HR:=Ja hr;clear hr;have c:Q w (w.alloc (G #[.slice a g.length y] 105)):=(Below.refl _ _).alloc (Je _) _;go_enter Tryz.func93,Tryz.ntmps93;go_wp2
 go_loop [10] (fun i=>∃k:Nat,k<=g.length/\i=I k/\(g.take k).all (fun l=>l.all (okS g.length))=true) (fun i=>g.length-(intOf i).toNat)
 case atStart=>exact⟨0,Jt _,rfl,by simp⟩
 case round=>
  obtain⟨k,hk,rfl,u⟩:=hrel;have HA:=Ja u;clear u
  by_cases a5:k<g.length
  ·obtain⟨row,d⟩:∃row,g[k]? =some row:=⟨_,Jd a5⟩
   obtain⟨b,o,a2,a4,rfl,hb,hc,a6,hx⟩:=h.row d;have hrl:=HR.out row (Ji d);have b6:T (w.alloc (G #[.slice (some ⟨b,o,none⟩) g.length y] 105)) b (o+k) (.slice a2 row.length a4):=(c.cell (p:=⟨b,o+k,none⟩) (show b<w.heap.size by omega)).trans hc;have f:=Ja d;clear d;have HX:=Ja hx;clear hx h hc;have b0:(k:Int)<g.length:=Zo;go_wp2
   go_loop [16] (fun i=>∃j:Nat,j<=row.length/\i=I j/\(row.take j).all (okS g.length)=true) (fun i=>row.length-(intOf i).toNat)
   case atStart=>exact⟨0,Jt _,rfl,by simp⟩
   case round=>
    obtain⟨j,hj,rfl,m⟩:=hrel;have a1:=Ja m;clear m
    by_cases a3:j<row.length
    ·obtain⟨x,q⟩:∃x,row[j]? =some x:=⟨_,Jd a3⟩
     obtain⟨b2,o2,rfl,b7,t⟩:=HX.out j x q;simp only[zN] at t;have b5:T (w.alloc (G #[.slice (some ⟨b,o,none⟩) g.length y] 105)) b2 (o2+j) (I x):=(c.cell (p:=⟨b2,o2+j,none⟩) (show b2<w.heap.size by omega)).trans t;have a0:=Ja q;clear q t;have a7:(j:Int)<row.length:=Zo
     by_cases b4:x<0
     ·have hf:pB g=false:=vU _ g k row f.out (vU _ row j x a0.out (by simp[okS];omega));have HF:=Ja hf;clear hf;go_wp2;go_ret;exact⟨by rw[HF.out];simp,c⟩
     ·by_cases b3:x<g.length
      ·go_wp2
       go_round
       case rel=>exact⟨j+1,by omega,by go_num,tm _ row j x a0.out a1.out (by simp[okS];omega)⟩
       case measure=>simp[intOf];omega
      ·have hf:pB g=false:=vU _ g k row f.out (vU _ row j x a0.out (by simp[okS];omega));have HF:=Ja hf;clear hf;go_wp2;go_ret;exact⟨by rw[HF.out];simp,c⟩
    ·go_wp2
     go_round
     case rel=>exact⟨k+1,by omega,by go_num,tm _ g k row f.out HA.out (by have:=a1.out;rwa [Oy Zo] at this)⟩
     case measure=>simp[intOf];omega
  ·have hf:pB g=true:=by have:=HA.out;rwa [Oy Zo] at this
   have HF:=Ja hf;clear hf;go_wp2;go_ret;exact⟨by rw[HF.out];simp,c⟩
def um (stk:List (Nat×Nat)):List Value:=stk.flatMap fun p=> [zj p.1,zj p.2]
theorem vH (c:List (Nat×Nat))(u j:Nat):um (c++ [(u,j)])=um c++ [zj u,zj j]:=by simp[um]
theorem yK (c:List (Nat×Nat)):(um c).length=2*c.length:=by
 induction c with
 |nil=>rfl
 |cons p r ih=>simp only[um,Qa,Jk,Nq,Ow] at ih ⊢;omega
structure Dfs (w0 w:World) (B0 n Bv Bs Bk:Nat) (seen:List Bool) (stk:List (Nat×Nat)) (pv:Value) (post:List Nat):Prop where
 hv:w.heap[Bv]? =some (.cells #[.slice (some ⟨Bs,0,none⟩) n n] 97 (0,0))
 hs:w.heap[Bs]? =some (.cells (seen.map qy).toArray 4 (0,0))
 hl:seen.length=n
 hk:∃sv,w.heap[Bk]? =some (.cells #[sv] 149 (0,0))/\w.ownsRow (Bk+1) 151 2 sv stk.length (um stk)
 lt:B0<=Bs/\Bs<Bv/\Bv<Bk
 hp:w.ownsRow (Bk+1) 3 1 pv post.length (post.map zj)
 hb:Below B0 w0 w
theorem Dfs.drewN{n:Nat}{c:List (Nat×Nat)}(h:Dfs w0 w B0 n Bv Bs Bk seen c pv post):Dfs w0 (w.drewN k) B0 n Bv Bs Bk seen c pv post:=
 ⟨h.hv,h.hs,h.hl,h.hk,h.lt,h.hp,yC h.hb⟩
theorem Dfs.push{n:Nat}{d:List (Nat×Nat)}{f:Value}{c:List Nat}(h:Dfs w0 w B0 n Bv Bs Bk seen d pv c)
 (hg:(w.alloc o).grownBy w2 pv.ownBlock) (i:w2.ownsRow (Bk+1) 3 1 f (c.length+1) (c.map zj++ [zj u])):Dfs w0 w2 B0 n Bv Bs Bk seen d f (c++ [u]):=by
 obtain⟨hv,hs,hl,⟨sv,hk,g⟩,j,hp,hb⟩:=h;have l:=lt_of_block hk
 refine⟨zL hg (zB hv) (zC hp hv (.inl Zo)),zL hg (zB hs) (zC hp hs (.inl Zo)),hl,
  ⟨sv,zL hg (zB hk) (zC hp hk (.inl Zo)),(g.alloc o).kept hg (zo g hp Zd)⟩,j,?_,?_⟩
 ·simpa using i
 ·exact Below.grown (hb.alloc Zo o) hg Zt (fun k hk'=>by have:=hp.lt k hk';omega)
theorem Dfs.popStk{n:Nat}{st:List (Nat×Nat)}(h:Dfs w0 w B0 n Bv Bs Bk seen (st++ [(u,j)]) pv post)
 (hc:A w Bk #[L gk (st.length+1) cp] 149):Dfs w0 (w.setCell ⟨Bk,0,none⟩ (L gk st.length cp)) B0 n Bv Bs Bk seen st pv post:=by
 obtain⟨hv,hs,hl,⟨sv,hk,c⟩,g,hp,hb⟩:=h;obtain rfl:=jc hk hc;simp only[Jk,Nq,Ow,Ng,vH] at c;refine⟨zR hv (show Bv≠Bk by omega),zR hs (show Bs≠Bk by omega),hl,⟨_,one_setCell hk,?_⟩,g,ownsRow_setCell_other hp (zC (b:=Bk) hp hk (.inl Zo)) _,hb.setCell (show B0<=Bk by omega) _⟩;have h1:=ownsRow_setCell_other c (a:=⟨Bk,0,none⟩) (zC (b:=Bk) c hk (.inl Zo)) (L gk st.length cp);obtain⟨x,y⟩:=h1;refine⟨by rw[yK];omega,.inr ?_⟩;rcases y with⟨t,_⟩|⟨g',a0,q,f,k,i,a1,o,m,d⟩
 ·cases t
 ·cases f;refine⟨gk,cp,q,rfl,k,i,by omega,o,m,?_⟩;have:=congrArg (List.take (st.length*2)) d;rw[List.take_take,Ud Zo,List.take_append_of_le_length (by rw[yK];omega),Oy (l:=um st) (by rw[yK];omega)] at this;exact this
theorem Dfs.bump{n:Nat}{st:List (Nat×Nat)}(h:Dfs w0 w B0 n Bv Bs Bk seen (st++ [(u,j)]) pv post)
 (g:A w Bk #[L gk (st.length+1) cp] 149):Dfs w0 (w.setCell ⟨gk,st.length*2+1,none⟩ (zj (j+1))) B0 n Bv Bs Bk seen (st++ [(u,j+1)]) pv post:=by
 obtain⟨hv,hs,hl,⟨sv,hk,c⟩,f,hp,hb⟩:=h;obtain rfl:=jc hk g;simp only[Jk,Nq,Ow,Ng,vH] at c;have i:=c.lt gk rfl;have d:=zo hp c Zd;refine⟨zR hv (show Bv≠gk by omega),zR hs (show Bs≠gk by omega),hl,⟨_,zR hk (show Bk≠gk by omega),?_⟩,f,ownsRow_setCell_other hp ?_ _,hb.setCell (show B0<=gk by omega) _⟩
 ·have:=(c.stored (st.length*2+1) (zj (j+1))).1;simp only[Jk,Nq,Ow,Ng,vH] at this ⊢
  have e:(um st++ [zj u,zj j]).set (st.length*2+1) (zj (j+1))=um st++ [zj u,zj (j+1)]:=by
   rw[Uj _ _ (by rw[yK];omega),yK,show st.length*2+1-2*st.length=1 by omega];rfl
  rw[e] at this;exact this
 ·rcases d with h0|h0
  ·rw[h0];simp
  ·exact h0
theorem Tryz.info_frame:(Tryz.prog.info? 151).map (fun i=>(i.zero,i.size,i.bytes))=some (some (.agg #[I 0,I 0]),2,16):=by kernel_rfl
theorem Tryz.info_int:(Tryz.prog.info? 3).map (fun i=>(i.zero,i.size,i.bytes))=some (some (I 0),1,8):=by kernel_rfl
theorem Tryz.info_bool:(Tryz.prog.info? 4).map (fun i=>(i.zero,i.size,i.bytes))=some (some (.bool false),1,1):=by kernel_rfl
theorem oF (w0 w:World)(B0 n Bv Bs Bk:Nat)(seen:List Bool)(d:List (Nat×Nat))(pv:Value)(post:List Nat)(u:Nat)(h:Dfs w0 w B0 n Bv Bs Bk seen d pv post)(hu:u<n)(hm:d.length<=2000000):
 O 94 #[I u,F Bv,F Bk] w fun e w'=>e=.returned (.tuple #[])/\Dfs w0 w' B0 n Bv Bs Bk (seen.set u true) (d++ [(u,0)]) pv post:=by
 obtain⟨i0,hi,a3,a2,a1⟩:=info_parts Tryz.info_frame;obtain⟨hv,hs,hl,⟨sv,hk,l⟩,a5,hp,m⟩:=h;have cv:=cell_of_one hv;obtain⟨b0,y⟩:∃b0,seen[u]? =some b0:=⟨_,Jd Zo⟩
 have cs:T w Bs u (.bool b0):=zA hs (by simp[y,qy]);have fs:Y w Bs u:=zE hs;have HV:Hid ((w.setCell ⟨Bs,u,none⟩ (.bool true)).heap[Bv]? =_):=zR hv (show Bv≠Bs by omega);have j:(w.setCell ⟨Bs,u,none⟩ (.bool true)).heap[Bk]? =_:=zR hk (show Bk≠Bs by omega);have HS:Hid ((w.setCell ⟨Bs,u,none⟩ (.bool true)).heap[Bs]? =_):=zD hs (.bool true);have b7:=cell_of_one j;have own1:(w.setCell ⟨Bs,u,none⟩ (.bool true)).ownsRow (Bk+1) 151 2 sv d.length (um d):=ownsRow_setCell_other l (zC (b:=Bs) l hs (.inl Zo)) _;have t:(w.setCell ⟨Bs,u,none⟩ (.bool true)).ownsRow (Bk+1) 3 1 pv post.length (post.map zj):=ownsRow_setCell_other hp (zC (b:=Bs) hp hs (.inl Zo)) _;have HB:Hid (Bk+1<=(w.setCell ⟨Bs,u,none⟩ (.bool true)).heap.size):=lt_of_block j;have a0:=Ja (m.setCell (p:=⟨Bs,u,none⟩) (show B0<=Bs by omega) (.bool true));have HK:=Ja j;have HP:=Ja t;clear hs hv y hk j hp t m;go_enter Tryz.func94,Tryz.ntmps94;go_wp2_with (at_builtin;go_must (refine wpList_append_lies _ rfl (.tmp 7) (.tmp 10) 149 rfl (Bk+1) 151 i0 _ 2 16 Tryz.underlying149 hi a3 a2 a1 rfl Zd sv d.length (um d) rfl (own1.alloc _) ⟨w.heap.size,0,none⟩ 1 1 [I u,I 0] rfl rfl (Oi (cs:=#[I u,I 0]) (zI Zs)) (by simp[Value.oneCell']) Zd (by unfold maxLen;omega) Zo (by have:=HB.out;simp at this ⊢;omega) _ rfl ?_;intro g a7 w1 f c b4 b3;have i:=zL c (zB HK.out) (zC own1 HK.out (.inl Zo));have b6:=cell_of_one i;have b5:=free_of_one i;have o:=Ja i;have b1:=Ja (zL c (zB HV.out) (zC own1 HV.out (.inl Zo)));have b2:=Ja (zL c (zB HS.out) (zC own1 HS.out (.inl Zo)));clear i))
 go_end0
 have a4:=zo HP.out own1 Zd;have q:=(HP.out.alloc (G #[I u,I 0] 151)).kept c a4;have a6:=HB.out;refine⟨rfl,⟨?_,?_,by simp[hl],⟨_,one_setCell o.out,?_⟩,a5,?_,?_⟩⟩
 ·exact zR b1.out (show Bv≠Bk by omega)
 ·rw[zR b2.out (show Bs≠Bk by omega)];refine congrArg some (congrArg (fun x=>Obj.cells x _ _) ?_);simp[Ox,qy]
 ·have:=ownsRow_setCell_other f (a:=⟨Bk,0,none⟩) (zC (b:=Bk) f o.out (.inl Zo)) (L g (d.length+1) a7);rw[vH,Jk];exact this
 ·exact ownsRow_setCell_other q (zC (b:=Bk) q o.out (.inl Zo)) _
 ·refine Below.setCell (Below.grown (a0.out.alloc Zo _) c (by simp at a6 ⊢;omega) ?_) (show B0<=Bk by omega) _;intro k hk;have:=own1.lt k hk;omega
def qT (xs ys:List Nat)(k:Nat):Prop:=ys.length=xs.length/\∀m,m<xs.length->ys[m]? =if m<k∨xs.length<=m+k then xs[xs.length-1-m]? else xs[m]?
theorem qT.start (xs:List Nat):qT xs xs 0:=⟨rfl,fun m hm=>by rw[if_neg Zo]⟩
theorem qT.step {xs ys:List Nat}{k j x y:Nat}(h:qT xs ys k)(o:k+j+1=xs.length)(l:k<j)(i:ys[k]? =some x)(g:ys[j]? =some y):qT xs ((ys.set k y).set j x) (k+1):=by
 obtain⟨h1,h2⟩:=h;refine⟨by simp[h1],fun m hm=>?_⟩;have e1:=h2 k Zo;have e2:=h2 j Zo;rw[if_neg Zo] at e1 e2;rw[Ov]
 by_cases d:j=m
 ·subst d;rw[if_pos rfl,if_pos (by simp[h1];omega),if_pos Zo,show xs.length-1-j=k by omega,<-e1,i]
 ·rw[if_neg d,Ov]
  by_cases c:k=m
  ·subst c;rw[if_pos rfl,if_pos Zo,if_pos Zo,show xs.length-1-k=j by omega,<-e2,g]
  ·rw[if_neg c,h2 m hm]
   by_cases f:m<k∨xs.length<=m+k
   ·rw[if_pos f,if_pos Zo]
   ·rw[if_neg f,if_neg Zo]
theorem qT.done{xs ys:List Nat}(h:qT xs ys k)(hk:xs.length<=2*k+1):ys=xs.reverse:=by
 obtain⟨h1,h2⟩:=h;apply Oq;intro m
 by_cases hm:m<xs.length
 ·rw[h2 m hm,List.getElem?_reverse hm]
  by_cases c:m<k∨xs.length<=m+k
  ·rw[if_pos c]
  ·rw[if_neg c];congr 1;omega
 ·rw[Of Zo,Of Zt]
theorem mK (w:World)(h:Nat)(v:Value)(xs:List Nat)(c:w.ownsRow h 3 1 v xs.length (xs.map zj))(hn:xs.length<=4000000):
 O 95 #[v] w fun e w'=>e=.returned (.tuple #[])/\w'.ownsRow h 3 1 v xs.length (xs.reverse.map zj)/\w.grownBy w' v.ownBlock:=by
 rcases c.2 with⟨rfl,h0⟩|⟨g,q,a4,rfl,hg,hh,_⟩
 ·have f:xs=[]:=Nz h0;subst f;go_enter Tryz.func95,Tryz.ntmps95;go_wp2;refine wp_loop_rounds 1 ?_;rw[rounds_succ];go_wp2
  go_end0
  exact⟨rfl,by simpa using c,⟨rfl,rfl,rfl,Je _,fun _ _ _=>rfl⟩⟩
 ·clear hh hg;have HO:=Ja c;clear c;go_enter Tryz.func95,Tryz.ntmps95;go_wp2
  go_loopw [2,3] (fun i j wr=>∃(k:Nat) (jj:Int),i=I k/\j=I jj/\Hid ((k:Int)+jj+1=xs.length)/\(k:Int)<=xs.length/\-1<=jj+k/\jj<=xs.length/\∃ys,Hid (qT xs ys k/\wr.ownsRow h 3 1 (L g xs.length q) xs.length (ys.map zj)/\w.grownBy wr (some g))) (fun i _ _=>xs.length-(intOf i).toNat)
  case atStart=>exact⟨0,(xs.length:Int)-1,rfl,rfl,by unfold Hid;omega,by omega,by omega,by omega,xs,qT.start xs,HO.out,⟨rfl,rfl,rfl,Je _,fun _ _ _=>rfl⟩⟩
  case round=>
   obtain⟨k,jj,rfl,rfl,o,hk,a3,a2,ys,d⟩:=hrel
   by_cases a1:(k:Int)<jj
   ·obtain⟨j,rfl⟩:∃j:Nat,jj=j:=⟨jj.toNat,by omega⟩
    have m:=d.out.1.1;have u:=o.out;obtain⟨x,f⟩:∃x,ys[k]? =some x:=⟨_,Jd Zo⟩
    obtain⟨y,l⟩:∃y,ys[j]? =some y:=⟨_,Jd Zo⟩
    have hr:=d.out.2.1;have g1:T wr g k (I x):=(hr.cellAt k Zo).trans (by simp[f,zj]);have g2:T wr g j (I y):=(hr.cellAt j Zo).trans (by simp[l,zj]);have f1:Y wr g k:=hr.frozenAt k;have f2:Y wr g j:=hr.frozenAt j;have a0:¬k=j:=Zo;have i1:(k:Int)<xs.length:=Zo;have i2:(j:Int)<xs.length:=Zo;have t:=Ja (Jb f l);clear m u f l hr;go_wp2
    go_region
    go_wp2;go_roundw
    case rel=>
     obtain⟨f,l⟩:=t.out;have m:=d.out.1.1;have s1:=d.out.2.1.stored k (zj y);have s2:=s1.1.stored j (zj x);refine⟨k+1,(j:Int)-1,by go_num,rfl,by have:=o.out;unfold Hid;omega,by omega,by omega,by omega,(ys.set k y).set j x,qT.step d.out.1 (by have:=o.out;omega) Zo f l,?_,?_⟩
     ·have:=s2.1;rw[<-Ox,<-Ox] at this;exact this
     ·exact nJ ((d.out.2.2.trans s1.2).trans s2.2)
    case measure=>simp[intOf];omega
   ·go_wp2
    go_end0
    have hd:=d.out.1.done (by have:=o.out;omega);subst hd;exact⟨rfl,by rw[<-List.map_reverse];exact d.out.2.1,d.out.2.2⟩
def I64 (x:Int):Prop:=-9223372036854775808<=x/\x<=9223372036854775807
def q8 (n:Nat):Value:=.int .u8 (n:Int)
def vL (n:Nat):Value:=M n
theorem p7{C:Nat}{e:TypeId}{size n:Nat}{v:Value}(h:w.ownsRow c e size v n xs)(hb:Below C w w')(j:w.heap.size<=C):w'.ownsRow c e size v n xs:=by
 refine⟨h.1,?_⟩;rcases h.2 with h2|⟨g,i,f,rfl,hg,d,r⟩
 ·exact .inl h2
 ·exact .inr ⟨g,i,f,rfl,hg,zH hb d (by have:=lt_of_block d;omega),r⟩
def yN {α:Type}(sz:Nat)(R:World->Nat->Nat->Nat->α->Prop)(w:World)(B:Nat)(v:Value)(xs:List α):Prop:=
 ∃(a:Option Addr) (cap:Nat),v=.slice a xs.length cap/\xs.length<=cap/\cap<=9223372036854775807/\∀(k:Nat) (x:α),xs[k]? =some x->∃b o,a=some ⟨b,o,none⟩/\b<B/\R w B b (o+k*sz) x
def vV {α:Type}(R:World->Nat->Nat->Nat->α->Prop):Prop:=(∀w w' B b q x,b<B->Below B w w'->R w B b q x->R w' B b q x)/\∀w B B' b q x,B<=B'->R w B b q x->R w B' b q x
theorem yN.below{α:Type}{sz:Nat}{R:World->Nat->Nat->Nat->α->Prop}(f:vV R){B:Nat}{v:Value}{xs:List α}(h:yN sz R w B v xs)(hb:Below B w w'):yN sz R w' B v xs:=by
 obtain⟨a,d,rfl,h1,h2,h3⟩:=h;refine⟨a,d,rfl,h1,h2,fun k x hk=>?_⟩;obtain⟨b,o,i,c,g⟩:=h3 k x hk;exact⟨b,o,i,c,f.1 _ _ _ _ _ _ c hb g⟩
theorem yN.mono{α:Type}{sz:Nat}{R:World->Nat->Nat->Nat->α->Prop}(d:vV R){B:Nat}{v:Value}{xs:List α}(h:yN sz R w B v xs)(hb:B<=B'):yN sz R w B' v xs:=by
 obtain⟨a,c,rfl,h1,h2,h3⟩:=h;refine⟨a,c,rfl,h1,h2,fun k x hk=>?_⟩;obtain⟨b,o,g,i,f⟩:=h3 k x hk;exact⟨b,o,g,by omega,d.2 _ _ _ _ _ _ hb f⟩
theorem yN.form{α:Type}{sz:Nat}{R:World->Nat->Nat->Nat->α->Prop}{B:Nat}{v:Value}{xs:List α}(h:yN sz R w B v xs):∃a cap,v=.slice a xs.length cap/\xs.length<=cap/\cap<=9223372036854775807:=
 let⟨a,cap,e,h1,h2,_⟩:=h;⟨a,cap,e,h1,h2⟩
theorem yN.get{α:Type}{sz:Nat}{R:World->Nat->Nat->Nat->α->Prop}{B:Nat}{a:Option Addr}{n:Nat}{xs:List α}(h:yN sz R w B (.slice a n c) xs){x:α}(hk:xs[k]? =some x):
 ∃b o,a=some ⟨b,o,none⟩/\b<B/\R w B b (o+k*sz) x:=by
 obtain⟨a',d,e,_,_,h3⟩:=h;cases e;exact h3 k x hk
def IntR (w:World)(B b q:Nat)(x:Int):Prop:=T w b q (I x)/\I64 x
def U16R (w:World)(B b q:Nat)(x:Nat):Prop:=T w b q (M x)/\x<65536
def U8R (w:World)(B b q:Nat)(x:Nat):Prop:=T w b q (.int .u8 (x:Int))/\x<256
def StrR (w:World)(B b q:Nat)(x:ByteArray):Prop:=T w b q (.string x)/\x.size<=9223372036854775807
theorem zV{B:Nat}(hb:Below B w w'){b q:Nat}(c:b<B){v:Value}(h:T w b q v):T w' b q v:=(hb.cell (p:=⟨b,q,none⟩) c).trans h
theorem zO:vV IntR:=⟨fun w w' B b q x hB hb h=>⟨zV hb hB h.1,h.2⟩,fun w B B' b q x _ h=>h⟩
theorem zr:vV U16R:=⟨fun w w' B b q x hB hb h=>⟨zV hb hB h.1,h.2⟩,fun w B B' b q x _ h=>h⟩
theorem xQ:vV U8R:=⟨fun w w' B b q x hB hb h=>⟨zV hb hB h.1,h.2⟩,fun w B B' b q x _ h=>h⟩
theorem tN:vV StrR:=⟨fun w w' B b q x hB hb h=>⟨zV hb hB h.1,h.2⟩,fun w B B' b q x _ h=>h⟩
abbrev zY:=yN 1 IntR
abbrev wV:=yN 1 U16R
abbrev dL:=yN 1 U8R
abbrev adu:=yN 1 StrR
def ObjR (w:World)(B b q:Nat)(x:IObj):Prop:=
 T w b q (I x.bank)/\T w b (q+1) (M (x.addr:Int))/\T w b (q+2) (M (x.size:Int))/\I64 x.bank/\x.addr<65536/\x.size<65536
theorem tZ:vV ObjR:=⟨fun w w' B b q x hB hb h=>⟨zV hb hB h.1,zV hb hB h.2.1,zV hb hB h.2.2.1,h.2.2.2⟩,fun w B B' b q x _ h=>h⟩
abbrev kq:=yN 3 ObjR
def adz (w:World)(B b q:Nat)(x:IEdge):Prop:=
 T w b q (I x.block)/\I64 x.block/\∃av,T w b (q+1) av/\zY w B av x.args
theorem xL:vV adz:=
 ⟨fun w w' B b q x hB hb h=>by obtain⟨h1,h2,av,h3,c⟩:=h;exact⟨zV hb hB h1,h2,av,zV hb hB h3,c.below zO hb⟩,
  fun w B B' b q x hB h=>by obtain⟨h1,h2,av,h3,c⟩:=h;exact⟨h1,h2,av,h3,c.mono zO hB⟩⟩
abbrev wH:=yN 2 adz
def OpR (w:World)(B b q:Nat)(x:IOp):Prop:=
 T w b q (I x.code)/\T w b (q+1) (I x.res)/\T w b (q+2) (I x.a)/\T w b (q+3) (I x.b)/\T w b (q+4) (M (x.n:Int))/\
  (I64 x.code/\I64 x.res/\I64 x.a/\I64 x.b/\x.n<65536)/\∃av,T w b (q+5) av/\zY w B av x.args
theorem xA:vV OpR:=
 ⟨fun w w' B b q x hB hb h=>by obtain⟨h1,h2,h3,i,g,f,av,d,c⟩:=h;exact⟨zV hb hB h1,zV hb hB h2,zV hb hB h3,zV hb hB i,zV hb hB g,f,av,zV hb hB d,c.below zO hb⟩,
  fun w B B' b q x hB h=>by obtain⟨h1,h2,h3,i,g,f,av,d,c⟩:=h;exact⟨h1,h2,h3,i,g,f,av,d,c.mono zO hB⟩⟩
abbrev mN:=yN 6 OpR
def BlkR (w:World)(B b q:Nat)(x:IBlk):Prop:=
 T w b (q+2) (I x.term.kind)/\T w b (q+3) (I x.term.a)/\(I64 x.term.kind/\I64 x.term.a)/\
  ∃pv ov tv,T w b q pv/\T w b (q+1) ov/\T w b (q+4) tv/\zY w B pv x.params/\mN w B ov x.ops/\wH w B tv x.term.to
theorem yT:vV BlkR:=
 ⟨fun w w' B b q x hB hb h=>by obtain⟨h1,h2,h3,pv,ov,tv,j,i,g,f,d,c⟩:=h;exact⟨zV hb hB h1,zV hb hB h2,h3,pv,ov,tv,zV hb hB j,zV hb hB i,zV hb hB g,f.below zO hb,d.below xA hb,c.below xL hb⟩,
  fun w B B' b q x hB h=>by obtain⟨h1,h2,h3,pv,ov,tv,j,i,g,f,d,c⟩:=h;exact⟨h1,h2,h3,pv,ov,tv,j,i,g,f.mono zO hB,d.mono xA hB,c.mono xL hB⟩⟩
abbrev wX:=yN 5 BlkR
def FuncR (w:World)(B b q:Nat)(x:List IBlk):Prop:=∃bv,T w b q bv/\wX w B bv x
theorem vR:vV FuncR:=
 ⟨fun w w' B b q x hB hb h=>by obtain⟨bv,h1,h2⟩:=h;exact⟨bv,zV hb hB h1,h2.below yT hb⟩,
  fun w B B' b q x hB h=>by obtain⟨bv,h1,h2⟩:=h;exact⟨bv,h1,h2.mono yT hB⟩⟩
abbrev iS:=yN 1 FuncR
structure PV where
 fv:Value
 av:Value
 dv:Value
 bv:Value
structure ProgIn (w:World) (B:Nat) (V:PV) (p:IProg):Prop where
 funcs:iS w B V.fv p.funcs
 args:zY w B V.av p.args
 data:kq w B V.dv p.data
 banks:adu w B V.bv p.banks
 ent:I64 p.entry
 hnd:I64 p.handler
theorem ProgIn.below{B:Nat}{V:PV}{p:IProg}(h:ProgIn w B V p)(hb:Below B w w'):ProgIn w' B V p:=
 ⟨h.funcs.below vR hb,h.args.below zO hb,h.data.below tZ hb,h.banks.below tN hb,h.ent,h.hnd⟩
theorem ProgIn.mono{B:Nat}{V:PV}{p:IProg}(h:ProgIn w B V p)(hb:B<=B'):ProgIn w B' V p:=
 ⟨h.funcs.mono vR hb,h.args.mono zO hb,h.data.mono tZ hb,h.banks.mono tN hb,h.ent,h.hnd⟩
structure MK where
 E:IEnv
 V:PV
 inv:Value
 irqv:Value
 pm:Nat
 rb:Nat
 B:Nat
variable {K:MK}
def r9 (K:MK)(m:Mach)(ov:Value):Array Value:=
 #[K.V.fv,K.V.av,I K.E.p.entry,I K.E.p.handler,K.V.dv,K.V.bv,L K.rb 8192 8192,K.inv,K.irqv,I m.fuel,ov,I (m.inputs:Int),I (m.polls:Int)]
def qO (l:List (Nat×Nat)):List Value:=(l.map fun p=> [vL p.1,vL p.2]).flatten
structure MachAt (w:World) (K:MK) (m:Mach) (ov:Value):Prop where
 blk:w.heap[K.pm]? =some (.cells (r9 K m ov) 210 (0,0))
 ram:w.heap[K.rb]? =some (.cells (m.ram.map q8).toArray 5 (0,0))
 rlen:m.ram.length=8192
 rlt:∀x∈m.ram,x<256
 out:w.ownsRow K.B 117 2 ov m.out.length (qO m.out)
 olt:∀p∈m.out,p.1<65536/\p.2<65536
 obd:m.out.length+m.fuel.toNat<=4000000
 fuel:I64 m.fuel
 inp:m.inputs<=K.E.inn.length
 pol:m.polls<=K.E.irq.length
 gpm:K.B<=K.pm
 grb:K.B<=K.rb
 prog:ProgIn w K.B K.V K.E.p
 inn:wV w K.B K.inv K.E.inn
 irq:dL w K.B K.irqv K.E.irq
def sA:Obj->Prop
 |.cells _ t _=>t≠210/\t≠117/\t≠5
 |_=>True
structure Frm (B:Nat) (w w':World):Prop where
 below:Below B w w'
 kept:∀(k:Nat) (o:Obj),w.heap[k]? =some o->sA o->w'.heap[k]? =some o
theorem Frm.refl (B:Nat)(w:World):Frm B w w:=⟨Below.refl _ _,fun _ _ h _=>h⟩
theorem Frm.trans {B:Nat}{a b c:World}(h:Frm B a b)(k:Frm B b c):Frm B a c:=⟨h.below.trans k.below,fun i o hi hs=>k.kept i o (h.kept i o hi hs) hs⟩
theorem Frm.drewN{B n:Nat}{a:World}(h:Frm B a w):Frm B a (w.drewN n):=⟨yC h.below,h.kept⟩
theorem Frm.alloc{B:Nat}{a:World}(h:Frm B a w)(c:B<=a.heap.size)(o:Obj):Frm B a (w.alloc o):=⟨h.below.alloc (Jn c h.below.size) o,fun i o' hi hs=>zB (h.kept i o' hi hs)⟩
theorem Frm.set{B:Nat}{a:World}(h:Frm B a w){b:Nat}{cs:Array Value}{t:TypeId}(hb:A w b cs t)(c:B<=b)(ht:¬sA (G cs t))(u:Value):Frm B a (w.setCell ⟨b,i,none⟩ u):=
 ⟨h.below.setCell c u,fun k o hk hs=>by
   have h1:=h.kept k o hk hs;refine zR h1 ?_;rintro rfl;rw[hb] at h1
   exact ht (by rw[Nt h1];exact hs)⟩
def oE (k i:Nat):PanicEntry:= {v:=.iface 213 (.agg #[I k,M i]),recovered:=false }
def endOf:Res Nat->Ending
 |.ok x _=> .returned (M x)
 |.trap k i _=> .panicked [oE k i]
def Res.mach {α:Type}:Res α->Mach
 |.ok _ m=>m
 |.trap _ _ m=>m
theorem MachAt.cell {w:World}{K:MK}{m:Mach}{ov:Value}(h:MachAt w K m ov){i:Nat}{v:Value}(hv:(r9 K m ov)[i]? =some v):T w K.pm i v:=zA h.blk hv
section
variable {w:World} {K:MK} {m:Mach} {ov:Value} (h:MachAt w K m ov)
include h
theorem MachAt.c0:T w K.pm 0 K.V.fv:=h.cell rfl
theorem MachAt.c3:T w K.pm 3 (I K.E.p.handler):=h.cell rfl
theorem MachAt.c4:T w K.pm 4 K.V.dv:=h.cell rfl
theorem MachAt.c5:T w K.pm 5 K.V.bv:=h.cell rfl
theorem MachAt.c6:T w K.pm 6 (L K.rb 8192 8192):=h.cell rfl
theorem MachAt.c7:T w K.pm 7 K.inv:=h.cell rfl
theorem MachAt.c8:T w K.pm 8 K.irqv:=h.cell rfl
theorem MachAt.c9:T w K.pm 9 (I m.fuel):=h.cell rfl
theorem MachAt.c10:T w K.pm 10 ov:=h.cell rfl
theorem MachAt.c11:T w K.pm 11 (I (m.inputs:Int)):=h.cell rfl
theorem MachAt.c12:T w K.pm 12 (I (m.polls:Int)):=h.cell rfl
end
theorem MachAt.free(h:MachAt w K m ov)(i:Nat):Y w K.pm i:=zE h.blk
theorem MachAt.keep(h:MachAt w K m ov)(hb:Q w w'):MachAt w' K m ov:=
 ⟨zH hb h.blk (lt_of_block h.blk),zH hb h.ram (lt_of_block h.ram),h.rlen,h.rlt,p7 h.out hb (Je _),h.olt,h.obd,h.fuel,h.inp,h.pol,h.gpm,h.grb,
  h.prog.below (hb.mono (Jn h.gpm (Qd (lt_of_block h.blk)))),h.inn.below zr (hb.mono (Jn h.gpm (Qd (lt_of_block h.blk)))),h.irq.below xQ (hb.mono (Jn h.gpm (Qd (lt_of_block h.blk))))⟩
theorem MachAt.drewN(h:MachAt w K m ov)(n:Nat):MachAt (w.drewN n) K m ov:=h.keep (yL _ _ _)
theorem MachAt.size(h:MachAt w K m ov):K.B<w.heap.size:=Nat.lt_of_le_of_lt h.gpm (lt_of_block h.blk)
theorem wj (k i:Nat)(w:World):O 153 #[I k,M i] w fun e w'=>e=.panicked [oE k i]/\w=w':=by
 go_enter Tryz.func153,Tryz.ntmps153;go_wp2;exact⟨rfl,rfl,rfl⟩
theorem MachAt.setF(h:MachAt w K m ov)(f:Int)(hf:I64 f)(hb:m.out.length+f.toNat<=4000000)(c:K.rb≠K.pm):MachAt (w.setCell ⟨K.pm,9,none⟩ (I f)) K {m with fuel:=f } ov:=by
 refine⟨?_,zR h.ram (by simpa using c),h.rlen,h.rlt,ownsRow_setCell_other h.out ?_ _,h.olt,hb,hf,h.inp,h.pol,h.gpm,h.grb,?_,?_,?_⟩
 ·rw[zD h.blk];rfl
 ·intro e;exact zC h.out h.blk (.inr Zd) (by simpa using e)
 ·exact h.prog.below ((Below.refl _ _).setCell h.gpm _)
 ·exact h.inn.below zr ((Below.refl _ _).setCell h.gpm _)
 ·exact h.irq.below xQ ((Below.refl _ _).setCell h.gpm _)
theorem MachAt.setI(h:MachAt w K m ov)(d:m.inputs<K.E.inn.length)(c:K.rb≠K.pm):MachAt (w.setCell ⟨K.pm,11,none⟩ (I ((m.inputs:Int)+1))) K {m with inputs:=m.inputs+1 } ov:=by
 refine⟨?_,zR h.ram (by simpa using c),h.rlen,h.rlt,ownsRow_setCell_other h.out ?_ _,h.olt,h.obd,h.fuel,d,h.pol,h.gpm,h.grb,?_,?_,?_⟩
 ·rw[zD h.blk];rfl
 ·intro e;exact zC h.out h.blk (.inr Zd) (by simpa using e)
 ·exact h.prog.below ((Below.refl _ _).setCell h.gpm _)
 ·exact h.inn.below zr ((Below.refl _ _).setCell h.gpm _)
 ·exact h.irq.below xQ ((Below.refl _ _).setCell h.gpm _)
theorem MachAt.setP(h:MachAt w K m ov)(d:m.polls<K.E.irq.length)(c:K.rb≠K.pm):MachAt (w.setCell ⟨K.pm,12,none⟩ (I ((m.polls:Int)+1))) K {m with polls:=m.polls+1 } ov:=by
 refine⟨?_,zR h.ram (by simpa using c),h.rlen,h.rlt,ownsRow_setCell_other h.out ?_ _,h.olt,h.obd,h.fuel,h.inp,d,h.gpm,h.grb,?_,?_,?_⟩
 ·rw[zD h.blk];rfl
 ·intro e;exact zC h.out h.blk (.inr Zd) (by simpa using e)
 ·exact h.prog.below ((Below.refl _ _).setCell h.gpm _)
 ·exact h.inn.below zr ((Below.refl _ _).setCell h.gpm _)
 ·exact h.irq.below xQ ((Below.refl _ _).setCell h.gpm _)
theorem MachAt.ne(h:MachAt w K m ov):K.rb≠K.pm:=by
 intro e;have h1:=h.blk;have h2:=h.ram;rw[e,h1] at h2;simp at h2
theorem qG (a:Nat):wo a=true↔16384<=a/\a<24576:=by unfold wo;rw[Jm,decide_eq_true_eq,decide_eq_true_eq]
theorem MachAt.ramCell(h:MachAt w K m ov){a:Nat}(d:wo a=true):T w K.rb (a-16384) (.int .u8 (tC m a:Nat))/\tC m a<256/\Y w K.rb (a-16384):=by
 have h1:=(qG a).1 d;obtain⟨x,c⟩:∃x,m.ram[a-16384]? =some x:=⟨_,Jd (by rw[h.rlen];omega)⟩
 have e:tC m a=x:=by unfold tC;rw[Jj,c];rfl
 rw[e];exact⟨zA h.ram (by simp[c,q8]),h.rlt x (Ji c),zE h.ram⟩
theorem MachAt.setR(h:MachAt w K m ov)(a x:Nat)(f:x<256):MachAt (w.setCell ⟨K.rb,a-16384,none⟩ (.int .u8 (x:Int))) K (m.put a x) ov/\Frm K.B w (w.setCell ⟨K.rb,a-16384,none⟩ (.int .u8 (x:Int))):=by
 have c:Frm K.B w (w.setCell ⟨K.rb,a-16384,none⟩ (.int .u8 (x:Int))):=(Frm.refl _ _).set h.ram h.grb (by simp[sA]) _;refine⟨⟨zR h.blk (by simpa using Ne.symm h.ne),?_,by simp[Mach.put,h.rlen],?_,ownsRow_setCell_other h.out ?_ _,h.olt,h.obd,h.fuel,h.inp,h.pol,h.gpm,h.grb,h.prog.below c.below,h.inn.below zr c.below,h.irq.below xQ c.below⟩,c⟩
 ·rw[zD h.ram];simp[Mach.put,q8,Ox]
 ·intro y d;rcases Qe d with d|rfl
  ·exact h.rlt y d
  ·exact f
 ·intro e;exact zC h.out h.ram (.inr Zd) (by simpa using e)
theorem kF (l:List (Nat×Nat))(p x:Nat):qO (l++ [(p,x)])=qO l++ [vL p,vL x]:=by unfold qO;rw[Js,List.flatten_append];rfl
theorem MachAt.setO{c:Value}{p x:Nat}(h:MachAt w K m ov)(hg:(w.alloc o).grownBy w2 ov.ownBlock)
 (f:w2.ownsRow K.B 117 2 c (m.out.length+1) (qO m.out++ [vL p,vL x])) (hp:p<65536) (l:x<65536) (hb:m.out.length+1+m.fuel.toNat<=4000000):
 MachAt (w2.setCell ⟨K.pm,10,none⟩ c) K {m with out:=m.out++ [(p,x)]} c/\Frm K.B w (w2.setCell ⟨K.pm,10,none⟩ c):=by
 have n1:=zC h.out h.blk (.inr Zd);have n2:=zC h.out h.ram (.inr Zd);have b2:=zL hg (zB h.blk) n1;have r2:=zL hg (zB h.ram) n2;have u:=h.size
 have j:Frm K.B w w2:=by
  refine⟨((Below.refl _ _).alloc (Qd u) o).grown hg Zt (fun k hk=>(h.out.lt k hk).1),fun k o' hk hs=>?_⟩;refine zL hg (zB hk) ?_;intro e;obtain⟨_,h2⟩:=h.out;rcases h2 with⟨hv,_⟩|⟨g,a0,y,hv,_,t,_⟩
  ·rw[hv] at e;simp[Value.ownBlock] at e
  ·rw[hv] at e;simp only[Value.ownBlock,Option.some.injEq] at e;subst e;rw[t] at hk;have:=Nt hk;subst this;exact hs.2.1 rfl
 have i:Frm K.B w (w2.setCell ⟨K.pm,10,none⟩ c):=j.set b2 h.gpm (by simp[sA]) _;refine⟨⟨?_,zR r2 (by simpa using h.ne),h.rlen,h.rlt,?_,?_,?_,h.fuel,h.inp,h.pol,h.gpm,h.grb,h.prog.below i.below,h.inn.below zr i.below,h.irq.below xQ i.below⟩,i⟩
 ·rw[zD b2];rfl
 ·have e1:(m.out++ [(p,x)]).length=m.out.length+1:=by simp
  show(w2.setCell ⟨K.pm,10,none⟩ c).ownsRow K.B 117 2 c (m.out++ [(p,x)]).length (qO (m.out++ [(p,x)]))
  rw[e1,kF];exact ownsRow_setCell_other f (by intro e;exact zC f b2 (.inr Zd) (by simpa using e)) _
 ·intro q d;rcases Jl.1 d with d|d
  ·exact h.olt q d
  ·simp at d;subst d;exact⟨hp,l⟩
 ·show(m.out++ [(p,x)]).length+m.fuel.toNat<=4000000
  simp;omega
theorem MachAt.frm(h:MachAt w K m ov)(i:Nat)(u:Value):Frm K.B w (w.setCell ⟨K.pm,i,none⟩ u):=(Frm.refl _ _).set h.blk h.gpm (by simp[sA]) u
theorem pay_no(h:MachAt w K m ov)(hf:m.fuel<=0):O 154 #[F K.pm] w fun e w'=>e=.panicked [oE 7 0]/\w=w':=by
 have c9:=h.c9;clear h;go_enter Tryz.func154,Tryz.ntmps154;go_wp2_with (go_at_call 153;go_must (refine(wj 7 0 _).mono ?_;rintro e w' ⟨rfl,rfl⟩))
 exact⟨rfl,rfl,rfl⟩
theorem iN(h:MachAt w K m ov)(hf:0<m.fuel):O 154 #[F K.pm] w fun e w'=>e=.returned (.tuple #[])/\MachAt w' K m.pay ov/\Frm K.B w w':=by
 have c9:=h.c9;have f9:=h.free 9;have d:=Ja (h.setF (m.fuel-1) (by have:=h.fuel;unfold I64 at *;omega) (by have:=h.obd;omega) h.ne);have c:=Ja (h.frm 9 (I (m.fuel-1)));have hb:m.fuel<=9223372036854775807:=h.fuel.2;clear h;go_enter Tryz.func154,Tryz.ntmps154;go_wp2
 go_end0
 exact⟨rfl,d.out,c.out⟩
open Go.RowKit Go.Maps
theorem xH:Keyed Tryz.prog 3:=int_keyed Tryz.underlying3
theorem wf64'(h:I64 x):(Lit.int .i64 x).wf=true:=by unfold I64 at h;simp[Lit.wf,IntKind.min,IntKind.max,IntKind.signed,IntKind.bits];omega
theorem wfU16 {x:Nat}(h:x<65536):(Lit.int .u16 (x:Int)).wf=true:=by simp[Lit.wf,IntKind.min,IntKind.max,IntKind.signed,IntKind.bits];omega
theorem vB(h:I64 x):keyOf Tryz.prog 3 (.int .i64 x)=some (.int .i64 x):=keyOf_int_mk Tryz.underlying3 (wf64' h)
theorem zeroU16 (w:World):(zeroValue 43).run Tryz.prog w=.ok (M 0) w:=by kernel_rfl
def xO (w:World)(b n:Nat)(f:Int->Nat):Prop:=
 (∃D:DataW Unit,w.ownsMap Tryz.prog 3 (plainElem Tryz.prog 43) b n D/\∀x,(Lit.int .i64 x).wf=true->D.atKey (.int .i64 x) (.lit (.int .u16 0))=.lit (.int .u16 (f x:Int)))/\∀x,f x<65536
theorem xO.made (w:World):xO (w.alloc (.map #[] 0)) w.heap.size 0 (fun _=>0):=⟨⟨_,World.ownsMap_made _ _ _ _,fun _ _=>rfl⟩,fun _=>by show 0<65536;decide⟩
theorem xO.blk{b n:Nat}(h:xO w b n f):∃es clock,w.heap[b]? =some (.map es clock):=by
 obtain⟨⟨D,⟨es,clock,h1,h2⟩,h3⟩,c⟩:=h;exact⟨es,clock,h1⟩
theorem xO.same{b n:Nat}(h:xO w b n f)(hb:w'.heap[b]? =w.heap[b]?):xO w' b n f:=by
 obtain⟨⟨D,⟨es,c,h1,h2⟩,h3⟩,d⟩:=h;exact⟨⟨D,⟨es,c,hb.trans h1,h2⟩,h3⟩,d⟩
theorem xO.kept{B:Nat}{b n:Nat}(h:xO w b n f)(g:Frm B w w'):xO w' b n f:=by
 obtain⟨es,d,c⟩:=h.blk;exact h.same ((g.kept _ _ c trivial).trans c.symm)
theorem xO.look{b n:Nat}(h:xO w b n f)(i:I64 x):
 (Instr.lookup 217 (.map (some b)) (.int .i64 x) false).run Tryz.prog w=.ok (.int .u16 (f x:Nat)) w:=by
 obtain⟨⟨D,h,hf⟩,_⟩:=h;obtain⟨c,g,d,j⟩:=h.lookup_int xH Tryz.underlying217 Tryz.underlying43 (zeroU16 w) (vB i);rw[hf x (wf64' i)] at d;simp only[DataW.lit.injEq,Lit.int.injEq,true_and] at d;subst d;exact g
theorem us{ops:Array Oper}{o:Oper}{a:Act}{Q:Exit->Act->World->Prop}(hg:o.guard=none)(m x v:Operand)
 (j:o.op=.mapUpdate 217 m x v) {b n:Nat}  (h:xO w b n f) (u:n<9000000000000000000) (kx:Int) (vv:Nat) (hm:a.eval m=.map (some b)) (q:a.eval x=.int .i64 kx) (hv:a.eval v=.int .u16 (vv:Int))
 (g:I64 kx) (d:vv<65536)
 (t:∀w',xO w' b (n+1) (iY f kx vv)->w.grownBy w' (some b)->wpList Tryz.prog ops Q rest (a.put o.dst undef) w'):wpList Tryz.prog ops Q (o::rest) a w:=by
 obtain⟨⟨D,h,hf⟩,k⟩:=h;refine wpList_mapUpdate_own (H:=Unit) w hg m x v 217 j 3 43 xH Tryz.underlying217 _ b n D hm h (by unfold maxLen;omega) _ _ _ q hv (vB g) _ [] (plainElem_int Tryz.underlying43 (wfU16 d)) ?_;intro w1 i c;refine t w1 ⟨⟨_,i,fun y hy=>?_⟩,fun y=>?_⟩ c
 ·have l:WideAt.IsKeyLit (.int .i64 kx):=xH.key (vB g)
  by_cases e:y=kx
  ·subst e;simp only[iY,if_true];exact Maps.atKey_put_same h.isMap l _ _
  ·simp only[iY,if_neg e];rw[Maps.atKey_put_other (by simpa using e)];exact hf y hy
 ·unfold iY;split
  ·exact d
  ·exact k y
def OwnRows {α:Type}(enc:α->Value)(e eS:TypeId)(w:World)(B bp:Nat)(rows:List (List α)):Prop:=
 ∃vs:List Value,A w bp vs.toArray eS/\vs.length=rows.length/\(∀(k:Nat) (row:List α) (v:Value),rows[k]? =some row->vs[k]? =some v->w.ownsRow B e 1 v row.length (row.map enc))/\
  ∀(i j:Nat) (vi vj:Value),i≠j->vs[i]? =some vi->vs[j]? =some vj->vi.ownBlock=none∨vi.ownBlock≠vj.ownBlock
section
variable {α:Type} {enc:α->Value} {e eS:TypeId} {w:World} {B bp:Nat} {rows:List (List α)}
theorem OwnRows.made (n:Nat)(h:A w bp (List.replicate n (.slice none 0 0)).toArray eS):OwnRows enc e eS w B bp (List.replicate n []):=by
 refine⟨_,h,by simp,fun k row v h1 h2=>?_,fun i j vi vj _ h1 _=>?_⟩
 ·simp only[Nm] at h1 h2
  split at h1
  ·rw[if_pos ‹_›] at h2;cases h1;cases h2;exact Jv _ _ _ _
  ·cases h1
 ·simp only[Nm] at h1
  split at h1
  ·cases h1;exact .inl rfl
  ·cases h1
theorem OwnRows.blk (h:OwnRows enc e eS w B bp rows):∃c,A w bp c eS:=let⟨vs,h,_⟩:=h;⟨_,h⟩
theorem OwnRows.bplt (h:OwnRows enc e eS w B bp rows):bp<w.heap.size:=let⟨_,h⟩:=h.blk;lt_of_block h
theorem OwnRows.get (h:OwnRows enc e eS w B bp rows){s:Nat}{row:List α}(hs:rows[s]? =some row):
 ∃a cap,T w bp s (.slice a row.length cap)/\w.ownsRow B e 1 (.slice a row.length cap) row.length (row.map enc)/\Y w bp s:=by
 obtain⟨vs,h1,h2,h3,d⟩:=h;have c:s<vs.length:=by rw[h2];exact(Jh.1 hs).1
 have hv:=Jd c;have ho:=h3 s row _ hs hv;obtain⟨a,cap,e1⟩:=zG ho;refine⟨a,cap,zA h1 (by simp[hv,e1]),by rw[<-e1];exact ho,zE h1⟩
theorem OwnRows.kept(h:OwnRows enc e eS w B bp rows){row:Option Nat}(hg:w.grownBy w' row)(hb:row≠some bp)(hr:∀k,row=some k->k<B):OwnRows enc e eS w' B bp rows:=by
 obtain⟨vs,h1,h2,h3,c⟩:=h;refine⟨vs,zL hg h1 hb,h2,fun k r v a b=>(h3 k r v a b).kept hg ?_,c⟩
 cases hk:v.ownBlock with
 |none=>exact .inl rfl
 |some g=>
  right;intro e1;have:=(h3 k r v a b).lt g hk;have:=hr g e1.symm;omega
theorem OwnRows.put(h:OwnRows enc e eS w B bp rows)(m:e≠eS){s:Nat}{row row':List α}(hs:rows[s]? =some row){a:Option Addr}{cap:Nat}(hc:T w bp s (.slice a row.length cap))
   {g H:Nat} (hg:(w.alloc o).grownBy w2 (Value.slice a row.length cap).ownBlock) (l:w2.ownsRow B e 1 (L g row'.length d) row'.length (row'.map enc))
 (hat:(Value.slice a row.length cap).ownBlock=some g∨g=H) (hH:w.heap.size<=H):
 OwnRows enc e eS (w2.setCell ⟨bp,s,none⟩ (L g row'.length d)) B bp (rows.set s row'):=by
 obtain⟨vs,h1,h2,h3,h4⟩:=h;have f:s<vs.length:=by rw[h2];exact(Jh.1 hs).1
 have hv:=Jd f;have ho:=h3 s row _ hs hv
 have a2:vs[s]=.slice a row.length cap:=by
  have u:=zA (i:=s) h1 (v:=vs[s]) Zs;rw[u] at hc;exact Nt hc
 rw[a2] at ho hv;have a3:=zC ho h1 (.inr m);have a0:=zL hg (zB h1) a3
 have t:∀(k:Nat) (v:Value),k≠s->vs[k]? =some v->v.ownBlock≠some bp/\(∀r,rows[k]? =some r->(w2.setCell ⟨bp,s,none⟩ (L g row'.length d)).ownsRow B e 1 v r.length (r.map enc))/\(v.ownBlock=none∨v.ownBlock≠some g):=by
  intro k v hk c;have a4:k<rows.length:=by rw[<-h2];exact(Jh.1 c).1
  have x:=h3 k _ v (Jd a4) c;have hn:=zC x h1 (.inr m);refine⟨hn,fun r hr=>?_,?_⟩
  ·have a1:=h3 k r v hr c;have a5:=(a1.alloc o).kept hg (h4 k s v _ hk c hv);exact ownsRow_setCell_other a5 (by simpa using hn) _
  ·rcases hat with hat|hat
   ·rw[<-hat];exact h4 k s v _ hk c hv
   ·right;intro e1;have:=(x.lt g e1).2;omega
 refine⟨vs.set s (L g row'.length d),?_,by simp[h2],fun k r v hr c=>?_,fun i j vi vj hij hi hj=>?_⟩
 ·rw[zD a0];simp
 ·by_cases hk:s=k
  ·subst hk;rw[Nn Zo] at hr;rw[Nn f] at c;cases hr;cases c;exact ownsRow_setCell_other l (zC (b:=bp) l a0 (.inr m)) _
  ·rw[Ns hk] at hr c;exact(t k v (Ne.symm hk) c).2.1 r hr
 ·by_cases q:s=i
  ·subst q;rw[Nn f] at hi;rw[Ns hij] at hj;cases hi;rcases(t j vj (Ne.symm hij) hj).2.2 with u|u
   ·right;rw[u];simp[Value.ownBlock]
   ·right;exact Ne.symm u
  ·rw[Ns q] at hi
   by_cases y:s=j
   ·subst y;rw[Nn f] at hj;cases hj;exact(t i vi (Ne.symm q) hi).2.2
   ·rw[Ns y] at hj;exact h4 i j vi vj hij hi hj
theorem OwnRows.asRows (h:OwnRows enc e eS w B bp rows){C:Nat}(t:w.heap.size<=C):aaB enc w C (L bp rows.length rows.length) rows:=by
 obtain⟨vs,h1,h2,h3,u⟩:=h;have hb:=lt_of_block h1;refine⟨vs,⟨_,rows.length,by rw[h2],by omega,fun k x hk=>⟨bp,0,rfl,by omega,zA h1 (by simpa using hk)⟩⟩,h2,fun k rv row hk hr=>?_⟩;have ho:=h3 k row rv hr hk;rcases ho.2 with⟨rfl,h0⟩|⟨g,d,q,rfl,hg,i,c,o,m,f⟩
 ·exact⟨none,0,by rw[h0],by omega,fun j x hj=>by rw[Nz h0] at hj;simp at hj⟩
 ·refine⟨_,d,rfl,c,fun j x hj=>⟨g,0,rfl,by have:=lt_of_block i;omega,?_⟩⟩;have l:=(Jh.1 hj).1;rw[Ng];exact(ho.cellAt j Zo).trans (by simp[hj])
end
theorem rY{α:Type}{enc:α->Value}{e:TypeId}{B C:Nat}{v:Value}{xs:List α}(ho:w.ownsRow B e 1 v xs.length (xs.map enc))(o:w.heap.size<=C):xp enc w C v xs:=by
 rcases ho.2 with⟨rfl,h0⟩|⟨g,d,m,rfl,hg,h,c,l,k,f⟩
 ·exact⟨none,0,by rw[h0],by omega,fun j x hj=>by rw[Nz h0] at hj;simp at hj⟩
 ·refine⟨_,d,rfl,c,fun j x hj=>⟨g,0,rfl,by have:=lt_of_block h;omega,?_⟩⟩;have i:=(Jh.1 hj).1;rw[Ng];exact(ho.cellAt j Zo).trans (by simp[hj])
structure Flds where
 is:Bool
 res:Bool
 a:Bool
 b:Bool
 n:Bool
def zi (c:Int):Flds:=
 if c=1∨c=2∨c=24 then⟨true,true,false,false,true⟩
 else if c=3∨c=4∨c=18∨c=19 then⟨true,true,true,false,false⟩
 else if 5<=c/\c<=17 then⟨true,true,true,true,false⟩
 else if c=20∨c=21 then⟨true,false,true,true,false⟩
 else if c=22∨c=23 then⟨true,true,true,false,true⟩
 else if c=25 then⟨true,false,true,false,true⟩
 else if c=26∨c=27 then⟨true,false,false,false,false⟩
 else⟨false,false,false,false,false⟩
theorem rJ (c:Int):
 ((c=1∨c=2∨c=24)/\zi c=⟨true,true,false,false,true⟩)∨((c=3∨c=4∨c=18∨c=19)/\zi c=⟨true,true,true,false,false⟩)∨((5<=c/\c<=17)/\zi c=⟨true,true,true,true,false⟩)∨((c=20∨c=21)/\zi c=⟨true,false,true,true,false⟩)∨
 ((c=22∨c=23)/\zi c=⟨true,true,true,false,true⟩)∨(c=25/\zi c=⟨true,false,true,false,true⟩)∨((c=26∨c=27)/\zi c=⟨true,false,false,false,false⟩)∨((c<1∨27<c)/\zi c=⟨false,false,false,false,false⟩):=by
 unfold zi
 by_cases h1:c=1∨c=2∨c=24
 ·exact .inl ⟨h1,if_pos h1⟩
 rw[if_neg h1]
 by_cases h2:c=3∨c=4∨c=18∨c=19
 ·exact .inr (.inl ⟨h2,if_pos h2⟩)
 rw[if_neg h2]
 by_cases h3:5<=c/\c<=17
 ·exact .inr (.inr (.inl ⟨h3,if_pos h3⟩))
 rw[if_neg h3]
 by_cases h:c=20∨c=21
 ·exact .inr (.inr (.inr (.inl ⟨h,if_pos h⟩)))
 rw[if_neg h]
 by_cases g:c=22∨c=23
 ·exact .inr (Zi (.inl ⟨g,if_pos g⟩))
 rw[if_neg g]
 by_cases f:c=25
 ·exact .inr (.inr (Zi (.inl ⟨f,if_pos f⟩)))
 rw[if_neg f]
 by_cases d:c=26∨c=27
 ·exact .inr (.inr (.inr (Zi (.inl ⟨d,if_pos d⟩))))
 rw[if_neg d];exact .inr (.inr (.inr (Zi (.inr ⟨by omega,rfl⟩))))
def nL (f:Flds):Value:=.tuple #[.agg #[.bool f.res,.bool f.a,.bool f.b,.bool f.n],.bool f.is]
def yX (w:World)(f:Flds)(e:Ending)(w':World):Prop:=e=.returned (nL f)/\Q w w'
theorem flds_1 (w:World):O 142 #[I 1] w (yX w ⟨true,true,false,false,true⟩):=by
 go_enter Tryz.func142,Tryz.ntmps142;go_wp2;exact bodyPost_ret (v:=.tuple #[.agg #[.bool true,.bool false,.bool false,.bool true],.bool true]) (by simp[results,Tryz.results142,go_sem]) rfl ⟨rfl,Zr⟩
theorem flds_2 (w:World):O 142 #[I 2] w (yX w ⟨true,true,false,false,true⟩):=by
 go_enter Tryz.func142,Tryz.ntmps142;go_wp2;exact bodyPost_ret (v:=.tuple #[.agg #[.bool true,.bool false,.bool false,.bool true],.bool true]) (by simp[results,Tryz.results142,go_sem]) rfl ⟨rfl,Zr⟩
theorem flds_3 (w:World):O 142 #[I 3] w (yX w ⟨true,true,true,false,false⟩):=by
 go_enter Tryz.func142,Tryz.ntmps142;go_wp2;exact bodyPost_ret (v:=.tuple #[.agg #[.bool true,.bool true,.bool false,.bool false],.bool true]) (by simp[results,Tryz.results142,go_sem]) rfl ⟨rfl,Zr⟩
theorem flds_4 (w:World):O 142 #[I 4] w (yX w ⟨true,true,true,false,false⟩):=by
 go_enter Tryz.func142,Tryz.ntmps142;go_wp2;exact bodyPost_ret (v:=.tuple #[.agg #[.bool true,.bool true,.bool false,.bool false],.bool true]) (by simp[results,Tryz.results142,go_sem]) rfl ⟨rfl,Zr⟩
theorem flds_18 (w:World):O 142 #[I 18] w (yX w ⟨true,true,true,false,false⟩):=by
 go_enter Tryz.func142,Tryz.ntmps142;go_wp2;exact bodyPost_ret (v:=.tuple #[.agg #[.bool true,.bool true,.bool false,.bool false],.bool true]) (by simp[results,Tryz.results142,go_sem]) rfl ⟨rfl,Zr⟩
theorem flds_19 (w:World):O 142 #[I 19] w (yX w ⟨true,true,true,false,false⟩):=by
 go_enter Tryz.func142,Tryz.ntmps142;go_wp2;exact bodyPost_ret (v:=.tuple #[.agg #[.bool true,.bool true,.bool false,.bool false],.bool true]) (by simp[results,Tryz.results142,go_sem]) rfl ⟨rfl,Zr⟩
theorem flds_20 (w:World):O 142 #[I 20] w (yX w ⟨true,false,true,true,false⟩):=by
 go_enter Tryz.func142,Tryz.ntmps142;go_wp2;exact bodyPost_ret (v:=.tuple #[.agg #[.bool false,.bool true,.bool true,.bool false],.bool true]) (by simp[results,Tryz.results142,go_sem]) rfl ⟨rfl,Zr⟩
theorem flds_21 (w:World):O 142 #[I 21] w (yX w ⟨true,false,true,true,false⟩):=by
 go_enter Tryz.func142,Tryz.ntmps142;go_wp2;exact bodyPost_ret (v:=.tuple #[.agg #[.bool false,.bool true,.bool true,.bool false],.bool true]) (by simp[results,Tryz.results142,go_sem]) rfl ⟨rfl,Zr⟩
theorem flds_22 (w:World):O 142 #[I 22] w (yX w ⟨true,true,true,false,true⟩):=by
 go_enter Tryz.func142,Tryz.ntmps142;go_wp2;exact bodyPost_ret (v:=.tuple #[.agg #[.bool true,.bool true,.bool false,.bool true],.bool true]) (by simp[results,Tryz.results142,go_sem]) rfl ⟨rfl,Zr⟩
theorem flds_23 (w:World):O 142 #[I 23] w (yX w ⟨true,true,true,false,true⟩):=by
 go_enter Tryz.func142,Tryz.ntmps142;go_wp2;exact bodyPost_ret (v:=.tuple #[.agg #[.bool true,.bool true,.bool false,.bool true],.bool true]) (by simp[results,Tryz.results142,go_sem]) rfl ⟨rfl,Zr⟩
theorem flds_24 (w:World):O 142 #[I 24] w (yX w ⟨true,true,false,false,true⟩):=by
 go_enter Tryz.func142,Tryz.ntmps142;go_wp2;exact bodyPost_ret (v:=.tuple #[.agg #[.bool true,.bool false,.bool false,.bool true],.bool true]) (by simp[results,Tryz.results142,go_sem]) rfl ⟨rfl,Zr⟩
theorem flds_25 (w:World):O 142 #[I 25] w (yX w ⟨true,false,true,false,true⟩):=by
 go_enter Tryz.func142,Tryz.ntmps142;go_wp2;exact bodyPost_ret (v:=.tuple #[.agg #[.bool false,.bool true,.bool false,.bool true],.bool true]) (by simp[results,Tryz.results142,go_sem]) rfl ⟨rfl,Zr⟩
theorem flds_26 (w:World):O 142 #[I 26] w (yX w ⟨true,false,false,false,false⟩):=by
 go_enter Tryz.func142,Tryz.ntmps142;go_wp2;exact bodyPost_ret (v:=.tuple #[.agg #[.bool false,.bool false,.bool false,.bool false],.bool true]) (by simp[results,Tryz.results142,go_sem]) rfl ⟨rfl,Zr⟩
theorem flds_27 (w:World):O 142 #[I 27] w (yX w ⟨true,false,false,false,false⟩):=by
 go_enter Tryz.func142,Tryz.ntmps142;go_wp2;exact bodyPost_ret (v:=.tuple #[.agg #[.bool false,.bool false,.bool false,.bool false],.bool true]) (by simp[results,Tryz.results142,go_sem]) rfl ⟨rfl,Zr⟩
theorem flds_mid (c:Int)(h:5<=c/\c<=17)(w:World):O 142 #[I c] w (yX w ⟨true,true,true,true,false⟩):=by
 have t1:((c:Int)==1)=false:=Ze;have t2:((c:Int)==2)=false:=Ze;have t3:((c:Int)==3)=false:=Ze;have t4:((c:Int)==4)=false:=Ze;have f:((c:Int)==18)=false:=Ze;have d:((c:Int)==19)=false:=Ze;have d1:decide (5<=c)=true:=by rw[decide_eq_true_eq];omega
 have d2:decide (c<=17)=true:=by rw[decide_eq_true_eq];omega
 clear h;go_enter Tryz.func142,Tryz.ntmps142;go_wp2;exact bodyPost_ret (v:=.tuple #[.agg #[.bool true,.bool true,.bool true,.bool false],.bool true]) (by simp[results,Tryz.results142,go_sem]) rfl ⟨rfl,Zr⟩
theorem flds_low (c:Int)(h:c<1)(w:World):O 142 #[I c] w (yX w ⟨false,false,false,false,false⟩):=by
 have t1:((c:Int)==1)=false:=Ze;have t2:((c:Int)==2)=false:=Ze;have t3:((c:Int)==3)=false:=Ze;have t4:((c:Int)==4)=false:=Ze;have q:((c:Int)==18)=false:=Ze;have o:((c:Int)==19)=false:=Ze;have m:((c:Int)==20)=false:=Ze;have l:((c:Int)==21)=false:=Ze;have k:((c:Int)==22)=false:=Ze;have j:((c:Int)==23)=false:=Ze;have i:((c:Int)==24)=false:=Ze;have g:((c:Int)==25)=false:=Ze;have f:((c:Int)==26)=false:=Ze;have d:((c:Int)==27)=false:=Ze;have d1:decide (5<=c)=false:=by rw[decide_eq_false_iff_not];omega
 clear h;go_enter Tryz.func142,Tryz.ntmps142;go_wp2;exact bodyPost_ret (v:=.tuple #[.agg #[.bool false,.bool false,.bool false,.bool false],.bool false]) (by simp[results,Tryz.results142,go_sem]) rfl ⟨rfl,Zr⟩
theorem iU (c:Int)(h:27<c)(w:World):O 142 #[I c] w (yX w ⟨false,false,false,false,false⟩):=by
 have t1:((c:Int)==1)=false:=Ze;have t2:((c:Int)==2)=false:=Ze;have t3:((c:Int)==3)=false:=Ze;have t4:((c:Int)==4)=false:=Ze;have q:((c:Int)==18)=false:=Ze;have o:((c:Int)==19)=false:=Ze;have m:((c:Int)==20)=false:=Ze;have l:((c:Int)==21)=false:=Ze;have k:((c:Int)==22)=false:=Ze;have j:((c:Int)==23)=false:=Ze;have i:((c:Int)==24)=false:=Ze;have g:((c:Int)==25)=false:=Ze;have f:((c:Int)==26)=false:=Ze;have d:((c:Int)==27)=false:=Ze;have d1:decide (5<=c)=true:=by rw[decide_eq_true_eq];omega
 have d2:decide (c<=17)=false:=by rw[decide_eq_false_iff_not];omega
 clear h;go_enter Tryz.func142,Tryz.ntmps142;go_wp2;exact bodyPost_ret (v:=.tuple #[.agg #[.bool false,.bool false,.bool false,.bool false],.bool false]) (by simp[results,Tryz.results142,go_sem]) rfl ⟨rfl,Zr⟩
theorem yu (c:Int)(w:World):O 142 #[I c] w (yX w (zi c)):=by
 rcases rJ c with⟨h,e⟩|⟨h,e⟩|⟨h,e⟩|⟨h,e⟩|⟨h,e⟩|⟨h,e⟩|⟨h,e⟩|⟨h,e⟩<;>rw[e]
 ·rcases h with rfl|rfl|rfl
  ·exact flds_1 w
  ·exact flds_2 w
  ·exact flds_24 w
 ·rcases h with rfl|rfl|rfl|rfl
  ·exact flds_3 w
  ·exact flds_4 w
  ·exact flds_18 w
  ·exact flds_19 w
 ·exact flds_mid c h w
 ·rcases h with rfl|rfl
  ·exact flds_20 w
  ·exact flds_21 w
 ·rcases h with rfl|rfl
  ·exact flds_22 w
  ·exact flds_23 w
 ·subst h;exact flds_25 w
 ·rcases h with rfl|rfl
  ·exact flds_26 w
  ·exact flds_27 w
 ·rcases h with h|h
  ·exact flds_low c h w
  ·exact iU c h w
def yH (V:PV)(p:IProg):Value:=.agg #[V.fv,V.av,I p.entry,I p.handler,V.dv,V.bv]
def iz (o:IObj):Value:=.agg #[I o.bank,M (o.addr:Int),M (o.size:Int)]
def sW (nb:Nat)(o:IObj):Bool:=
 if o.bank=-1 then decide (0<o.size) && (decide (16384<=o.addr) && decide (o.addr+o.size<=24576))
 else decide (0<o.size) && (decide (0<=o.bank) && (decide (o.bank<nb) && decide (o.addr+o.size<=4096)))
def uK (a b:IObj):Bool:=decide (a.bank=b.bank) && (decide (a.addr<b.addr+b.size) && decide (b.addr<a.addr+a.size))
theorem zZ {P Q:Prop} [Decidable P] [Decidable Q] {b:Bool}(h:decide P=b)(e:P↔Q):decide Q=b:=by rw[<-h];exact decide_eq_decide.2 e.symm
theorem kL{V:PV}{p:IProg}(hp:ProgIn w w.heap.size V p)(o:IObj)(ho:I64 o.bank/\o.addr<65536/\o.size<65536):
 O 135 #[yH V p,iz o] w fun e w'=>e=.returned (.bool (sW p.banks.length o))/\Q w w':=by
 obtain⟨Vf,Va,Vd,Vb⟩:=V;obtain⟨f1,f2,e1,_,_⟩:=hp.funcs.form;obtain⟨a1,a2,e2,_,_⟩:=hp.args.form;obtain⟨d1,d2,e3,_,_⟩:=hp.data.form;obtain⟨b1,b2,e4,g,l⟩:=hp.banks.form;simp only at e1 e2 e3 e4;subst e1 e2 e3 e4;unfold yH iz;simp only;have m:p.banks.length<=9223372036854775807:=Zo;obtain⟨j,k,i⟩:=ho;clear hp g;obtain⟨q1,h1⟩:∃b,decide (0<o.size)=b:=⟨_,rfl⟩
 have d:∀M:Nat,∀b,decide (o.addr+o.size<=M)=b->decide ((o.addr:Int)+(o.size:Int)<=(M:Int))=b:=fun M b h=>zZ h Zo
 by_cases c:o.bank=-1
 ·have e:sW p.banks.length o=(decide (0<o.size) && (decide (16384<=o.addr) && decide (o.addr+o.size<=24576))):=if_pos c;obtain⟨q2,h2⟩:∃b,decide (16384<=o.addr)=b:=⟨_,rfl⟩
  obtain⟨q3,h3⟩:∃b,decide (o.addr+o.size<=24576)=b:=⟨_,rfl⟩
  have u:decide ((16384:Int)<=(o.addr:Int))=q2:=zZ h2 Zo;have t:decide ((o.addr:Int)+(o.size:Int)<=24576)=q3:=d 24576 _ h3;have t1:(o.bank==-1)=true:=by rw[beq_iff_eq];exact c
  rw[e,h1,h2,h3];have y:=Ja h3;clear e d c h3;cases q1<;>cases q2<;>cases q3
  all_goals go_enter Tryz.func135,Tryz.ntmps135
  all_goals go_wp2
  all_goals go_ret
  all_goals exact⟨rfl,((Below.refl _ _).alloc (Je _) _).alloc Zs _⟩
 ·have e:sW p.banks.length o=(decide (0<o.size) && (decide (0<=o.bank) && (decide (o.bank<p.banks.length) && decide (o.addr+o.size<=4096)))):=if_neg c;obtain⟨q2,h2⟩:∃b,decide (0<=o.bank)=b:=⟨_,rfl⟩
  obtain⟨q3,h3⟩:∃b,decide (o.bank<(p.banks.length:Int))=b:=⟨_,rfl⟩
  obtain⟨q4,f⟩:∃b,decide (o.addr+o.size<=4096)=b:=⟨_,rfl⟩
  have q:decide ((o.addr:Int)+(o.size:Int)<=4096)=q4:=d 4096 _ f;have t1:(o.bank==-1)=false:=by rw[beq_eq_false_iff_ne];exact c
  rw[e,h1,h2,h3,f];have x:=Ja f;clear e d c f;cases q1<;>cases q2<;>cases q3<;>cases q4
  all_goals go_enter Tryz.func135,Tryz.ntmps135
  all_goals go_wp2
  all_goals go_ret
  all_goals exact⟨rfl,((Below.refl _ _).alloc (Je _) _).alloc Zs _⟩
theorem nT (w:World)(a b:IObj)(h:I64 a.bank/\a.addr<65536/\a.size<65536)(hb:I64 b.bank/\b.addr<65536/\b.size<65536):
 O 136 #[iz a,iz b] w fun e w'=>e=.returned (.bool (uK a b))/\Q w w':=by
 unfold iz;obtain⟨_,g,d⟩:=h;obtain⟨_,f,c⟩:=hb;obtain⟨q1,h1⟩:∃q,decide (a.bank=b.bank)=q:=⟨_,rfl⟩
 obtain⟨q2,h2⟩:∃q,decide (a.addr<b.addr+b.size)=q:=⟨_,rfl⟩
 obtain⟨q3,h3⟩:∃q,decide (b.addr<a.addr+a.size)=q:=⟨_,rfl⟩
 have t1:(a.bank==b.bank)=q1:=by rw[<-h1];rw[Bool.eq_iff_iff,beq_iff_eq,decide_eq_true_eq]
 have t2:decide ((a.addr:Int)<(b.addr:Int)+(b.size:Int))=q2:=zZ h2 Zo;have t3:decide ((b.addr:Int)<(a.addr:Int)+(a.size:Int))=q3:=zZ h3 Zo;have e:uK a b=(q1 && (q2 && q3)):=by unfold uK;rw[h1,h2,h3]
 rw[e];clear e h1 h2 h3;cases q1<;>cases q2<;>cases q3
 all_goals go_enter Tryz.func136,Tryz.ntmps136
 all_goals go_wp2
 all_goals go_ret
 all_goals exact⟨rfl,((Below.refl _ _).alloc (Je _) _).alloc Zs _⟩
def yw (p:IProg)(f:Int):Bool:=decide (0<=f) && (decide (f<p.funcs.length) && (p.args.getD f.toNat 0==0))
theorem kR{V:PV}{p:IProg}(hp:ProgIn w w.heap.size V p)(hl:p.args.length=p.funcs.length)(f:Int):
 O 115 #[yH V p,I f] w fun e w'=>e=.returned (.bool (yw p f))/\Q w w':=by
 obtain⟨Vf,Va,Vd,Vb⟩:=V;obtain⟨f1,f2,e1,g,m⟩:=hp.funcs.form;have c:=hp.args;obtain⟨a1,a2,e2,_,_⟩:=hp.args.form;obtain⟨d1,d2,e3,_,_⟩:=hp.data.form;obtain⟨b1,b2,e4,_,_⟩:=hp.banks.form;simp only at e1 e2 e3 e4 c;subst e1 e2 e3 e4;unfold yH;simp only;have t:p.funcs.length<=9223372036854775807:=Zo;clear hp g;have i:Q w (w.alloc (G (Z p f1 f2 a1 a2 d1 d2 b1 b2) 29)):=(Below.refl _ _).alloc (Je _) _
 by_cases h0:0<=f
 ·obtain⟨k,rfl⟩:∃k:Nat,f=(k:Int):=⟨f.toNat,by omega⟩
  by_cases h1:k<p.funcs.length
  ·obtain⟨x,d⟩:∃x,p.args[k]? =some x:=⟨_,Jd Zo⟩
   obtain⟨b,o,rfl,hb,h,_⟩:=c.get d;rw[Nk] at h;have u:=zV i hb h;obtain⟨q,j⟩:∃q,(x==0)=q:=⟨_,rfl⟩
   have e:yw p k=q:=by unfold yw;rw[decide_eq_true h0,decide_eq_true (show(k:Int)<p.funcs.length by omega),Ni,Jj,d];exact j
   rw[e];have t1:decide (k<p.funcs.length)=true:=decide_eq_true h1;have l:(k:Int)<p.args.length:=Zo;clear e h0 h1 d c;cases q
   all_goals go_enter Tryz.func115,Tryz.ntmps115
   all_goals go_wp2
   all_goals go_ret
   all_goals exact⟨rfl,(Below.refl _ _).alloc (Je _) _⟩
  ·have e:yw p k=false:=by unfold yw;rw[decide_eq_true h0,decide_eq_false (show ¬(k:Int)<p.funcs.length by omega)];rfl
   rw[e];have t1:decide (k<p.funcs.length)=false:=decide_eq_false h1;clear e h0 h1 c;go_enter Tryz.func115,Tryz.ntmps115;go_wp2;go_ret;exact⟨rfl,(Below.refl _ _).alloc (Je _) _⟩
 ·have e:yw p f=false:=by unfold yw;rw[decide_eq_false h0];rfl
  rw[e];have t1:decide (0<=f)=false:=decide_eq_false h0;clear e h0 c;go_enter Tryz.func115,Tryz.ntmps115;go_wp2;go_ret;exact⟨rfl,(Below.refl _ _).alloc (Je _) _⟩
theorem pk:Keyed Tryz.prog 3:=int_keyed Tryz.underlying3
theorem wf64(h:-9223372036854775808<=x/\x<=9223372036854775807):(Lit.int .i64 x).wf=true:=by simp[Lit.wf,IntKind.min,IntKind.max,IntKind.signed,IntKind.bits];omega
theorem jp(h:-9223372036854775808<=x/\x<=9223372036854775807):keyOf Tryz.prog 3 (.int .i64 x)=some (.int .i64 x):=keyOf_int_mk Tryz.underlying3 (wf64 h)
theorem zeroInt (w:World):(zeroValue 3).run Tryz.prog w=.ok (I 0) w:=by kernel_rfl
def ud (w:World)(b n:Nat)(f:Int->Int):Prop:=
 ∃D:DataW Unit,w.ownsMap Tryz.prog 3 (plainElem Tryz.prog 3) b n D/\∀x,(Lit.int .i64 x).wf=true->D.atKey (.int .i64 x) (.lit (.int .i64 0))=.lit (.int .i64 (f x))
theorem ud.lt{b n:Nat}{f:Int->Int}(h:ud w b n f):b<w.heap.size:=let⟨_,h,_⟩:=h;h.lt
theorem ud.same{b n:Nat}{f:Int->Int}(h:ud w b n f)(hb:w'.heap[b]? =w.heap[b]?):ud w' b n f:=by
 obtain⟨D,⟨es,c,h1,h2⟩,h3⟩:=h;exact⟨D,⟨es,c,hb.trans h1,h2⟩,h3⟩
theorem ud.ne{b n:Nat}{f:Int->Int}(h:ud w b n f){b':Nat}{c:Array Value}{t:TypeId}{z:Nat×Nat}(hb:w.heap[b']? =some (.cells c t z)):b≠b':=by
 obtain⟨D,⟨es,d,h1,h2⟩,h3⟩:=h;rintro rfl;rw[h1] at hb;simp at hb
theorem ud.look{b n:Nat}{f:Int->Int}(h:ud w b n f)(i:-9223372036854775808<=x/\x<=9223372036854775807):
 (Instr.lookup 171 (.map (some b)) (.int .i64 x) false).run Tryz.prog w=.ok (.int .i64 (f x)) w/\(Lit.int .i64 (f x)).wf=true:=by
 obtain⟨D,h,hf⟩:=h;obtain⟨c,g,d,j⟩:=h.lookup_int pk Tryz.underlying171 Tryz.underlying3 (zeroInt w) (jp i);rw[hf x (wf64 i)] at d;simp only[DataW.lit.injEq,Lit.int.injEq,true_and] at d;subst d;exact⟨g,j⟩
theorem rW{ops:Array Oper}{o:Oper}{a:Act}{Q:Exit->Act->World->Prop}(hg:o.guard=none)(m x v:Operand)
 (j:o.op=.mapUpdate 171 m x v) {b n:Nat} {f:Int->Int} (h:ud w b n f) (t:n<9000000000000000000) (kx vv:Int) (hm:a.eval m=.map (some b)) (l:a.eval x=.int .i64 kx) (hv:a.eval v=.int .i64 vv)
 (d:-9223372036854775808<=kx/\kx<=9223372036854775807) (i:-9223372036854775808<=vv/\vv<=9223372036854775807)
 (q:∀w',ud w' b (n+1) (fun y=>if y=kx then vv else f y)->w.grownBy w' (some b)->wpList Tryz.prog ops Q rest (a.put o.dst undef) w'):wpList Tryz.prog ops Q (o::rest) a w:=by
 obtain⟨D,h,hf⟩:=h;refine wpList_mapUpdate_own (H:=Unit) w hg m x v 171 j 3 3 pk Tryz.underlying171 _ b n D hm h (by unfold maxLen;omega) _ _ _ l hv (jp d) _ [] (plainElem_int Tryz.underlying3 (wf64 i)) ?_;intro w1 g c;refine q w1 ⟨_,g,fun y hy=>?_⟩ c;have k:WideAt.IsKeyLit (.int .i64 kx):=pk.key (jp d)
 by_cases e:y=kx
 ·subst e;simp only[if_true];exact Maps.atKey_put_same h.isMap k _ _
 ·simp only[if_neg e];rw[Maps.atKey_put_other (by simpa using e)];exact hf y hy
def yM (w:World)(size:Nat)(xv:Value)(m:Nat)(news:List Value):Prop:=
 ∃a c,xv=.slice a m c/\news.length=m*size/\(∀u∈news,u.oneCell'=true)/\((a=none/\m=0)∨∃ad,a=some ad/\∀j u,news[j]? =some u->w.cell? (ad.add j)=some u)
theorem tE(w:World)(f:Nat)(t ty e:TypeId)(i:TypeInfo)(z:Value)(size bytes:Nat)(ht:P.underlying t=some (.slice e))(hi:P.info? e=some i)(hz:i.zero=some z)
 (k:i.size=size) (a0:i.bytes=bytes) (u:z.cells.size=size) (x:0<size) (v:Value) (n:Nat) (xs:List Value) (h:w.ownsRow f e size v n xs)
 (xv:Value) (m:Nat) (d:List Value) (q:yM w size xv m d) (a1:n+m<=maxLen) (j:(n+m)*bytes<=140737488355328) (o:f<=w.heap.size):
 ∃v' w',(Builtin.append_ #[t,t] ty #[v,xv]).run P w=.ok v' w'/\w'.ownsRow f e size v' (n+m) (xs++d)/\w.grownBy w' v.ownBlock/\(v'.ownBlock=v.ownBlock∨v'.ownBlock=some w.heap.size):=by
 obtain⟨a,c,rfl,hl,h1,⟨rfl,rfl⟩|⟨ad,rfl,l⟩⟩:=q
 ·have hn:d=[]:=Nz (by simpa using hl);subst hn;refine⟨v,w,?_,by simpa using h,⟨rfl,rfl,rfl,Je _,fun _ _ _=>rfl⟩,.inl rfl⟩;rcases h.2 with⟨rfl,rfl⟩|⟨g,a7,a6,rfl,a5,hg,y,a4,a3,a2⟩
  ·simp[Builtin.append_,run_underlying ht,sizeOf,typeInfo,hi,Builtin.lenOf,run_firstCells_none]
  ·simp[Builtin.append_,run_underlying ht,sizeOf,typeInfo,hi,Builtin.lenOf,run_firstCells_none,y,storeCells]
 ·obtain⟨v',w',h2,h3,h4,_,h5⟩:=run_append_own_at (P:=P) w f t ty e i z size bytes ht hi hz k a0 u x v n xs h ad m c d hl l h1 a1 j o;exact⟨v',w',h2,h3,h4,h5⟩
theorem zK(w:World){ops:Array Oper}{o:Oper}{a:Act}{Q:Exit->Act->World->Prop}(y:o.guard=none)(s x:Operand)(t:TypeId)
 (ho:o.op=.call {callee:=.builtin .append,args:=#[s,x],argTypes:=#[t,t]})
 (c:Nat) (e:TypeId) (i:TypeInfo) (z:Value) (size bytes:Nat) (ht:P.underlying t=some (.slice e)) (hi:P.info? e=some i) (hz:i.zero=some z)
 (g:i.size=size) (a0:i.bytes=bytes) (q:z.cells.size=size) (u:0<size)
 (v:Value) (n:Nat) (xs:List Value) (hs:a.eval s=v) (l:w.ownsRow c e size v n xs)
 (xv:Value) (m:Nat) (d:List Value) (hx:a.eval x=xv) (k:yM w size xv m d) (a1:n+m<=maxLen) (f:(n+m)*bytes<=140737488355328) (j:c<=w.heap.size)
 (h:∀v' w',w'.ownsRow c e size v' (n+m) (xs++d)->w.grownBy w' v.ownBlock->(v'.ownBlock=v.ownBlock∨v'.ownBlock=some w.heap.size)->wpList P ops Q rest (a.put o.dst v') w'):
 wpList P ops Q (o::rest) a w:=by
 refine wpList_plain y fun K hK=>?_
 obtain⟨v',w',hr,h2,h3,h5⟩:=tE (P:=P) w c t o.type e i z size bytes ht hi hz g a0 q u v n xs l xv m d k a1 f j;unfold Oper.wp execOp;simp only[ho,resolve,invoke,builtin,Sem.run_bind,Sem.run_pure,Result.andThen_ok,List.map_toArray,Ql,List.map_nil,hs,hx,hr];exact hK _ _ (h v' w' h2 h3 h5)
theorem yM.one{b:Nat}{x:Value}{e:TypeId}(h:A w b #[x] e)(c:x.oneCell'=true):yM w 1 (L b 1 1) 1 [x]:=
 ⟨_,_,rfl,rfl,by simpa using c,.inr ⟨_,rfl,Oi (cs:=#[x]) h⟩⟩
theorem zY.src{B:Nat}{v:Value}{xs:List Int}(h:zY w B v xs):yM w 1 v xs.length (xs.map zN):=by
 obtain⟨a,d,rfl,h1,h2,h3⟩:=h;refine⟨a,d,rfl,by simp,by simp[zN,Value.oneCell'],?_⟩
 cases xs with
 |nil=>
  cases a with
  |none=>exact .inl ⟨rfl,rfl⟩
  |some ad=>exact .inr ⟨ad,rfl,fun j u hu=>by simp at hu⟩
 |cons x xs=>
  obtain⟨b,o,rfl,_,_⟩:=h3 0 x rfl;refine .inr ⟨_,rfl,fun j u hu=>?_⟩;rw[Jr,Oz] at hu;obtain⟨y,f,rfl⟩:=hu;obtain⟨b',o',e,_,c,_⟩:=h3 j y f;cases e;rw[Nk] at c;unfold Addr.add
  split
  ·rename_i h0;rw[h0] at c;exact c
  ·exact c
theorem uA{S:Nat}{v:Value}{n:Nat}{xs:List Int}(h:w.ownsRow S 3 1 v n (xs.map zN))(i:xs.length=n)(f:∀x∈xs,I64 x):zY w w.heap.size v xs:=by
 subst i;obtain⟨a,c,rfl⟩:=zG h;have hl:=zm h;refine⟨a,c,rfl,hl.1,by omega,fun k x hk=>?_⟩;have j:=(Jh.1 hk).1;obtain⟨g,l,e,hg,d⟩:=h.form Zo;cases e;refine⟨g,0,rfl,d,?_,f x (Ji hk)⟩;rw[Nk,Ng];exact(h.cellAt k Zo).trans (by rw[Jr,hk];rfl)
theorem zY.all{B:Nat}{v:Value}{xs:List Int}(h:zY w B v xs):∀x∈xs,I64 x:=by
 intro x c;obtain⟨k,hk⟩:=Ny c;obtain⟨_,_,_,_,_,h3⟩:=h;obtain⟨_,_,_,_,_,d⟩:=h3 k x hk;exact d
theorem yG{ops:Array Oper}{o:Oper}{a:Act}{K:Act->World->Prop}{Q:Exit->Act->World->Prop}{E:Prop}(y:o.guard=none)(s x:Operand)(t:TypeId)
 (ho:o.op=.call {callee:=.builtin .append,args:=#[s,x],argTypes:=#[t,t]})
 (c:Nat) (e:TypeId) (i:TypeInfo) (z:Value) (size bytes:Nat) (ht:P.underlying t=some (.slice e)) (hi:P.info? e=some i) (hz:i.zero=some z)
 (g:i.size=size) (a0:i.bytes=bytes) (q:z.cells.size=size) (u:0<size)
 (v:Value) (n:Nat) (xs:List Value) (hs:a.eval s=v) (l:w.ownsRow c e size v n xs)
 (xv:Value) (m:Nat) (d:List Value) (hx:a.eval x=xv) (k:yM w size xv m d) (a1:n+m<=maxLen) (f:(n+m)*bytes<=140737488355328) (j:c<=w.heap.size)
 (h:∀aa cap w',w'.ownsRow c e size (.slice aa (n+m) cap) (n+m) (xs++d)->w.grownBy w' v.ownBlock->((Value.slice aa (n+m) cap).ownBlock=v.ownBlock∨(Value.slice aa (n+m) cap).ownBlock=some w.heap.size)->K (a.put o.dst (.slice aa (n+m) cap)) w'):
 if Region.wanted o (yielded ops a.tmps)=true then Oper.wp P o a w K Q else E:=by
 have hw:Region.wanted o (yielded ops a.tmps)=true:=by simp[Region.wanted,y]
 rw[if_pos hw];obtain⟨v',w',hr,h2,h3,h5⟩:=tE (P:=P) w c t o.type e i z size bytes ht hi hz g a0 q u v n xs l xv m d k a1 f j;obtain⟨aa,cap,rfl⟩:=zG h2;unfold Oper.wp execOp;simp only[ho,resolve,invoke,builtin,Sem.run_bind,Sem.run_pure,Result.andThen_ok,List.map_toArray,Ql,List.map_nil,hs,hx,hr];exact h aa cap w' h2 h3 h5
end Go.Proofs.YtoahcpkibpomcaaGreat
