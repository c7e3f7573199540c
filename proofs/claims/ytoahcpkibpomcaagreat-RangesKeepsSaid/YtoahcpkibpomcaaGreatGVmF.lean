/- Part of a proof. -/
import Derived.Test.YtoahcpkibpomcaaGreatGMath
import Derived.Test.YtoahcpkibpomcaaGreatRows
import Derived.Test.YtoahcpkibpomcaaGreatSq
import Derived.Test.YtoahcpkibpomcaaGreatSw
import Derived.BigRegion
import Derived.Carry
import Derived.Deep.MidRow
import Derived.Deep.OwnRows
import Derived.Defers
import Derived.Laws.BitsLemmas
import Derived.Laws.BytesArg
import Derived.Laws.CopyOwn
import Derived.Laws.EntriesVeiled
import Derived.Lib.BufferWrite
import Derived.Lib.EndianBits
import Derived.LoopIn
import Derived.LoopNIn
import Derived.Maps.OwnOps
import Derived.Maps.OwnSet
import Derived.OwnWalkIn
import Derived.RangeFuncBound
import Derived.RangeFuncCalls
import Derived.RangeFuncLeaves
import Derived.RangeFuncNested
import Derived.Recover
import Derived.RegionIn
import Derived.Shelf.Abstract
import Derived.Shelf.Bits.Mul64
import Derived.Shelf.RegionOpen
import Derived.StillTail
import Derived.TacticsInMore
import Derived.WalkLawsBesides
import Derived.WideKeyEntry
set_option linter.all false
set_option maxHeartbeats 3200000
set_option maxRecDepth 100000
namespace Go.Proofs.YtoahcpkibpomcaaGreat
open Go.RowKit
variable {W W' w w' w0 w1 w2:World}{B' B0 Bk Bs Bv C b' b12 b13 base' bt c cp d gk i j k u:Nat}{m:Mach}{o:Obj}{xs:List Value}{v':Value}{l:List IBlk}{seen:List Bool}{post:List Nat}{x:Int}
def xp {α:Type}(enc:α->Value)(w:World)(B:Nat)(v:Value)(xs:List α):Prop:=
 ∃(a:Option Addr) (cap:Nat),v=.slice a xs.length cap/\xs.length<=cap/\∀(k:Nat) (x:α),xs[k]? =some x->∃b o,a=some ⟨b,o,none⟩/\b<B/\A w b (o+k) (enc x)
def zN (n:Int):Value:=U n
def zj (n:Nat):Value:=U n
def agc (b:Bool):Value:=.bool b
theorem xp.below{α:Type}{enc:α->Value}{B:Nat}{v:Value}{xs:List α}(h:xp enc w B v xs)(hb:Below B w w'):xp enc w' B v xs:=by
 obtain⟨a,d,rfl,c,h⟩:=h;refine⟨a,d,rfl,c,fun k x hk=>?_⟩;obtain⟨b,o,i,hB,g⟩:=h k x hk;exact⟨b,o,i,hB,(hb.cell (p:=⟨b,o+k,none⟩) hB).trans g⟩
theorem xp.mono{α:Type}{enc:α->Value}{B:Nat}{v:Value}{xs:List α}(h:xp enc w B v xs)(hb:B<=B'):xp enc w B' v xs:=by
 obtain⟨a,d,rfl,c,h⟩:=h;refine⟨a,d,rfl,c,fun k x hk=>?_⟩;obtain⟨b,o,i,hB,g⟩:=h k x hk;exact⟨b,o,i,by omega,g⟩
theorem xp.map{α β:Type}{enc:α->Value}{enc':β->Value}(f:β->α)(hf:∀x,enc (f x)=enc' x){B:Nat}{v:Value}{xs:List β}:
 xp enc w B v (xs.map f)↔xp enc' w B v xs:=by
 constructor
 ·rintro⟨a,d,rfl,c,h⟩;refine⟨a,d,by simp,by simpa using c,fun k x hk=>?_⟩;have:=h k (f x) (by simp[hk])
  rwa [hf] at this
 ·rintro⟨a,d,rfl,c,h⟩;refine⟨a,d,by simp,by simpa using c,fun k x hk=>?_⟩;simp only[Jr,Oz] at hk;obtain⟨y,g,rfl⟩:=hk;rw[hf];exact h k y g
def aaB {α:Type}(enc:α->Value)(w:World)(B:Nat)(v:Value)(g:List (List α)):Prop:=
 ∃vs:List Value,xp id w B v vs/\vs.length=g.length/\∀(k:Nat) (rv:Value) (row:List α),vs[k]? =some rv->g[k]? =some row->xp enc w B rv row
theorem aaB.below{α:Type}{enc:α->Value}{B:Nat}{v:Value}{g:List (List α)}(h:aaB enc w B v g)(hb:Below B w w'):aaB enc w' B v g:=by
 obtain⟨vs,h1,h2,h3⟩:=h;exact⟨vs,h1.below hb,h2,fun k rv row a b=>(h3 k rv row a b).below hb⟩
theorem aaB.mono{α:Type}{enc:α->Value}{B:Nat}{v:Value}{g:List (List α)}(h:aaB enc w B v g)(hb:B<=B'):aaB enc w B' v g:=by
 obtain⟨vs,h1,h2,h3⟩:=h;exact⟨vs,h1.mono hb,h2,fun k rv row a b=>(h3 k rv row a b).mono hb⟩
theorem aaB.form{α:Type}{enc:α->Value}{B:Nat}{v:Value}{g:List (List α)}(h:aaB enc w B v g):∃a cap,v=.slice a g.length cap/\g.length<=cap:=by
 obtain⟨vs,⟨a,cap,rfl,c,_⟩,h2,_⟩:=h;exact⟨a,cap,by rw[h2],by omega⟩
theorem aaB.row{α:Type}{enc:α->Value}{B:Nat}{a:Option Addr}{len m:Nat}{g:List (List α)}(h:aaB enc w B (.slice a len m) g){row:List α}(hk:g[k]? =some row):
 ∃b o a2 cap2,a=some ⟨b,o,none⟩/\b<B/\A w b (o+k) (.slice a2 row.length cap2)/\row.length<=cap2/\∀j x,row[j]? =some x->∃b2 o2,a2=some ⟨b2,o2,none⟩/\b2<B/\A w b2 (o2+j) (enc x):=by
 obtain⟨vs,⟨a',a0,hv,_,t⟩,h2,h3⟩:=h;cases hv;have d:k<vs.length:=by rw[h2];exact(Jh.1 hk).1
 obtain⟨b,o,y,hB,u⟩:=t k _ (Jd d);obtain⟨a2,cap2,l,c,i⟩:=h3 k _ row (Jd d) hk;refine⟨b,o,a2,cap2,y,hB,?_,c,i⟩;rw[u,<-l];rfl
theorem aaB.map{α β:Type}{enc:α->Value}{enc':β->Value}(f:β->α)(hf:∀x,enc (f x)=enc' x){B:Nat}{v:Value}{g:List (List β)}:
 aaB enc w B v (g.map (List.map f))↔aaB enc' w B v g:=by
 constructor
 ·rintro⟨vs,h1,h2,h3⟩;exact⟨vs,h1,by simpa using h2,fun k rv row a b=>(xp.map f hf).1 (h3 k rv _ a (by simp[b]))⟩
 ·rintro⟨vs,h1,h2,h3⟩;refine⟨vs,h1,by simpa using h2,fun k rv row a b=>?_⟩;simp only[Jr,Oz] at b;obtain⟨y,c,rfl⟩:=b;exact(xp.map f hf).2 (h3 k rv y a c)
theorem zI{B:Nat}(h:W.heap.size=B):(W.alloc o).heap[B]? =some o:=by subst h;exact heap_alloc_new W o
theorem zB{o':Obj}{b:Nat}(h:W.heap[b]? =some o'):(W.alloc o).heap[b]? =some o':=(Below.heap_alloc W o b (lt_of_block h)).trans h
theorem zL{row:Option Nat}{b:Nat}(hg:W.grownBy w1 row)(hk:W.heap[b]? =some o)(c:row≠some b):w1.heap[b]? =some o:=(hg.block b (lt_of_block hk) (Ne.symm c)).trans hk
theorem zR{b:Nat}{a:Addr}{u:Value}(h:W.heap[b]? =some o)(c:b≠a.block):(W.setCell a u).heap[b]? =some o:=(Below.heap_setCell _ _ _ _ c).trans h
theorem zH{B:Nat}{b:Nat}(hb:Below B W W')(h:W.heap[b]? =some o)(c:b<B):W'.heap[b]? =some o:=(hb.block b c).trans h
theorem zC{base b:Nat}{e t:TypeId}{size n:Nat}{v:Value}{cs:Array Value}(h:w.ownsRow base e size v n xs)(hb:Q w b cs t)(hne:b<base∨e≠t):v.ownBlock≠some b:=by
 rcases h.2 with⟨rfl,_⟩|⟨g,d,cur,rfl,hg,c,_⟩
 ·simp[Value.ownBlock]
 ·simp only[Value.ownBlock,ne_eq,Option.some.injEq];rintro rfl;rw[c] at hb;rcases hne with hne|hne
  ·omega
  ·exact hne (by simpa using congrArg (fun o=>match o with|some (Obj.cells _ t _)=>t|_=>0) hb)
theorem zo{base:Nat}{e e':TypeId}{size n n':Nat}{v:Value}{d:List Value}(h:w.ownsRow base e size v n xs)(k:w.ownsRow base' e' c v' n' d)(i:e≠e'):v.ownBlock=none∨v.ownBlock≠v'.ownBlock:=by
 rcases h.2 with⟨rfl,_⟩|⟨g,l,cur,rfl,hg,j,_⟩
 ·exact .inl rfl
 ·right;intro e1;exact zC k j (.inr (Ne.symm i)) e1.symm
theorem zD{b:Nat}{cs:Array Value}{t:TypeId}(h:Q w b cs t)(u:Value):Q (w.setCell ⟨b,i,none⟩ u) b (cs.setIfInBounds i u) t:=by
 have c:=lt_of_block h;have d:w.heap[b]=G cs t:=by simpa[Array.getElem?_eq_getElem c] using h
 show(w.heap.modify b _)[b]? =_
 rw[Array.getElem?_eq_getElem (by simpa using c),Array.getElem_modify_self,d];rfl
theorem zA{b:Nat}{cs:Array Value}{t:TypeId}{v:Value}(h:Q w b cs t)(hi:cs[i]? =some v):A w b i v:=by simp[World.cell?,h,hi]
theorem zE{b:Nat}{cs:Array Value}{t:TypeId}(h:Q w b cs t):N w b i:=by simp[World.frozen?,h]
theorem vY{base:Nat}{e:TypeId}{size n:Nat}{v:Value}(h:w.ownsRow base e size v n xs)(hb:base'<=base):w.ownsRow base' e size v n xs:=by
 refine⟨h.1,?_⟩;rcases h.2 with h2|⟨g,c,cur,rfl,hg,r⟩
 ·exact .inl h2
 ·exact .inr ⟨g,c,cur,rfl,by omega,r⟩
theorem zG{base:Nat}{e:TypeId}{size n:Nat}{v:Value}(h:w.ownsRow base e size v n xs):∃a cap,v=.slice a n cap:=by
 rcases h.2 with⟨rfl,rfl⟩|⟨g,cap,cur,rfl,_⟩
 ·exact⟨none,0,rfl⟩
 ·exact⟨_,cap,rfl⟩
theorem zm{base:Nat}{e:TypeId}{size n m:Nat}{a:Option Addr}(h:w.ownsRow base e size (.slice a m d) n xs):m<=d/\d<=9223372036854775807:=by
 rcases h.2 with⟨hv,_⟩|⟨g,c,cur,hv,_,_,h1,h2,_⟩
 ·cases hv;omega
 ·cases hv;unfold maxLen at h2;omega
theorem ji{base:Nat}{e:TypeId}{size n:Nat}{v:Value}(h:w.ownsRow base e size v n xs):(w.drewN k).ownsRow base e size v n xs:=h
theorem kg{b:Nat}{o:Option Obj}(h:w.heap[b]? =o):(w.drewN k).heap[b]? =o:=h
theorem yC{B:Nat}(h:Below B w w'):Below B w (w'.drewN k):=⟨h.os,h.tape,h.output,h.size,h.block⟩
theorem agr{b:Nat}{v:Value}{t t':TypeId}(h:Q w b #[v] t)(c:Q w b #[v'] t'):v=v':=by
 rw[h] at c;simp only[Option.some.injEq,Obj.cells.injEq] at c;simpa using c.1
theorem nJ{row:Option Nat}(h:W.grownBy W' row):W.grownBy W'.drew row:=⟨h.os,h.tape,h.output,h.size,h.block⟩
theorem oI (W:World)(row:Option Nat):W.grownBy W row:=⟨rfl,rfl,rfl,Je _,fun _ _ _=>rfl⟩
theorem yL (B:Nat)(w:World)(n:Nat):Below B w (w.drewN n):=⟨rfl,rfl,rfl,Je _,fun _ _=>rfl⟩
theorem jU{b o:Nat}{v:Value}(h:A w b o v):b<w.heap.size:=Jw w _ h
theorem bcell(hb:Y W w1):(∀b o,b<W.heap.size->w1.cell? ⟨b,o,none⟩=W.cell? ⟨b,o,none⟩)/\(∀b o,b<W.heap.size->w1.frozen? ⟨b,o,none⟩=W.frozen? ⟨b,o,none⟩):=
 ⟨fun b o h=>hb.cell (p:=⟨b,o,none⟩) h,fun b o h=>hb.frozen (p:=⟨b,o,none⟩) h⟩
theorem zh {k:IntKind}{a b:Int}(h:a=b):Ending.returned (.int k a)=.returned (.int k b):=by rw[h]
theorem rH {a b:Bool}(h:a=b):Ending.returned (.bool a)=.returned (.bool b):=by rw[h]
def I64 (x:Int):Prop:=-9223372036854775808<=x/\x<=9223372036854775807
def bd (n:Nat):Value:=.int .u8 (n:Int)
def vL (n:Nat):Value:=O n
theorem p7{base:Nat}{e:TypeId}{size n:Nat}{v:Value}(h:w.ownsRow base e size v n xs)(hb:Below C w w')(i:w.heap.size<=C):w'.ownsRow base e size v n xs:=by
 refine⟨h.1,?_⟩;rcases h.2 with h2|⟨g,d,cur,rfl,hg,c,r⟩
 ·exact .inl h2
 ·exact .inr ⟨g,d,cur,rfl,hg,zH hb c (by have:=lt_of_block c;omega),r⟩
def yN {α:Type}(sz:Nat)(R:World->Nat->Nat->Nat->α->Prop)(w:World)(B:Nat)(v:Value)(xs:List α):Prop:=
 ∃(a:Option Addr) (cap:Nat),v=.slice a xs.length cap/\xs.length<=cap/\cap<=9223372036854775807/\∀(k:Nat) (x:α),xs[k]? =some x->∃b o,a=some ⟨b,o,none⟩/\b<B/\R w B b (o+k*sz) x
def vV {α:Type}(R:World->Nat->Nat->Nat->α->Prop):Prop:=(∀w w' B b q x,b<B->Below B w w'->R w B b q x->R w' B b q x)/\∀w B B' b q x,B<=B'->R w B b q x->R w B' b q x
theorem yN.below{α:Type}{sz:Nat}{R:World->Nat->Nat->Nat->α->Prop}(g:vV R){B:Nat}{v:Value}{xs:List α}(h:yN sz R w B v xs)(hb:Below B w w'):yN sz R w' B v xs:=by
 obtain⟨a,d,rfl,h1,h2,h3⟩:=h;refine⟨a,d,rfl,h1,h2,fun k x hk=>?_⟩;obtain⟨b,o,j,c,i⟩:=h3 k x hk;exact⟨b,o,j,c,g.1 _ _ _ _ _ _ c hb i⟩
theorem yN.mono{α:Type}{sz:Nat}{R:World->Nat->Nat->Nat->α->Prop}(d:vV R){B:Nat}{v:Value}{xs:List α}(h:yN sz R w B v xs)(hb:B<=B'):yN sz R w B' v xs:=by
 obtain⟨a,c,rfl,h1,h2,h3⟩:=h;refine⟨a,c,rfl,h1,h2,fun k x hk=>?_⟩;obtain⟨b,o,i,j,g⟩:=h3 k x hk;exact⟨b,o,i,by omega,d.2 _ _ _ _ _ _ hb g⟩
theorem yN.form{α:Type}{sz:Nat}{R:World->Nat->Nat->Nat->α->Prop}{B:Nat}{v:Value}{xs:List α}(h:yN sz R w B v xs):∃a cap,v=.slice a xs.length cap/\xs.length<=cap/\cap<=9223372036854775807:=
 let⟨a,cap,e,h1,h2,_⟩:=h;⟨a,cap,e,h1,h2⟩
theorem yN.get{α:Type}{sz:Nat}{R:World->Nat->Nat->Nat->α->Prop}{B:Nat}{a:Option Addr}{n:Nat}{xs:List α}(h:yN sz R w B (.slice a n c) xs){x:α}(hk:xs[k]? =some x):
 ∃b o,a=some ⟨b,o,none⟩/\b<B/\R w B b (o+k*sz) x:=by
 obtain⟨a',d,e,_,_,h3⟩:=h;cases e;exact h3 k x hk
def IntR (w:World)(B b q:Nat)(x:Int):Prop:=A w b q (U x)/\I64 x
def U16R (w:World)(B b q:Nat)(x:Nat):Prop:=A w b q (O x)/\x<65536
def U8R (w:World)(B b q:Nat)(x:Nat):Prop:=A w b q (.int .u8 (x:Int))/\x<256
def StrR (w:World)(B b q:Nat)(x:ByteArray):Prop:=A w b q (.string x)/\x.size<=9223372036854775807
theorem zV{B:Nat}(hb:Below B w w'){b q:Nat}(hB:b<B){v:Value}(h:A w b q v):A w' b q v:=(hb.cell (p:=⟨b,q,none⟩) hB).trans h
theorem zO:vV IntR:=⟨fun w w' B b q x hB hb h=>⟨zV hb hB h.1,h.2⟩,fun w B B' b q x _ h=>h⟩
theorem zr:vV U16R:=⟨fun w w' B b q x hB hb h=>⟨zV hb hB h.1,h.2⟩,fun w B B' b q x _ h=>h⟩
theorem xQ:vV U8R:=⟨fun w w' B b q x hB hb h=>⟨zV hb hB h.1,h.2⟩,fun w B B' b q x _ h=>h⟩
theorem tN:vV StrR:=⟨fun w w' B b q x hB hb h=>⟨zV hb hB h.1,h.2⟩,fun w B B' b q x _ h=>h⟩
abbrev zY:=yN 1 IntR
abbrev wV:=yN 1 U16R
abbrev dL:=yN 1 U8R
abbrev adu:=yN 1 StrR
def ObjR (w:World)(B b q:Nat)(x:IObj):Prop:=
 A w b q (U x.bank)/\A w b (q+1) (O (x.addr:Int))/\A w b (q+2) (O (x.size:Int))/\I64 x.bank/\x.addr<65536/\x.size<65536
theorem tZ:vV ObjR:=⟨fun w w' B b q x hB hb h=>⟨zV hb hB h.1,zV hb hB h.2.1,zV hb hB h.2.2.1,h.2.2.2⟩,fun w B B' b q x _ h=>h⟩
abbrev kq:=yN 3 ObjR
def adz (w:World)(B b q:Nat)(x:IEdge):Prop:=
 A w b q (U x.block)/\I64 x.block/\∃av,A w b (q+1) av/\zY w B av x.args
theorem xL:vV adz:=
 ⟨fun w w' B b q x hB hb h=>by obtain⟨h1,h2,av,h3,c⟩:=h;exact⟨zV hb hB h1,h2,av,zV hb hB h3,c.below zO hb⟩,
  fun w B B' b q x hB h=>by obtain⟨h1,h2,av,h3,c⟩:=h;exact⟨h1,h2,av,h3,c.mono zO hB⟩⟩
abbrev wH:=yN 2 adz
def OpR (w:World)(B b q:Nat)(x:IOp):Prop:=
 A w b q (U x.code)/\A w b (q+1) (U x.res)/\A w b (q+2) (U x.a)/\A w b (q+3) (U x.b)/\A w b (q+4) (O (x.n:Int))/\
  (I64 x.code/\I64 x.res/\I64 x.a/\I64 x.b/\x.n<65536)/\∃av,A w b (q+5) av/\zY w B av x.args
theorem xA:vV OpR:=
 ⟨fun w w' B b q x hB hb h=>by obtain⟨h1,h2,h3,j,i,g,av,d,c⟩:=h;exact⟨zV hb hB h1,zV hb hB h2,zV hb hB h3,zV hb hB j,zV hb hB i,g,av,zV hb hB d,c.below zO hb⟩,
  fun w B B' b q x hB h=>by obtain⟨h1,h2,h3,j,i,g,av,d,c⟩:=h;exact⟨h1,h2,h3,j,i,g,av,d,c.mono zO hB⟩⟩
abbrev mN:=yN 6 OpR
def BlkR (w:World)(B b q:Nat)(x:IBlk):Prop:=
 A w b (q+2) (U x.term.kind)/\A w b (q+3) (U x.term.a)/\(I64 x.term.kind/\I64 x.term.a)/\
  ∃pv ov tv,A w b q pv/\A w b (q+1) ov/\A w b (q+4) tv/\zY w B pv x.params/\mN w B ov x.ops/\wH w B tv x.term.to
theorem yT:vV BlkR:=
 ⟨fun w w' B b q x hB hb h=>by obtain⟨h1,h2,h3,pv,ov,tv,k,j,i,g,d,c⟩:=h;exact⟨zV hb hB h1,zV hb hB h2,h3,pv,ov,tv,zV hb hB k,zV hb hB j,zV hb hB i,g.below zO hb,d.below xA hb,c.below xL hb⟩,
  fun w B B' b q x hB h=>by obtain⟨h1,h2,h3,pv,ov,tv,k,j,i,g,d,c⟩:=h;exact⟨h1,h2,h3,pv,ov,tv,k,j,i,g.mono zO hB,d.mono xA hB,c.mono xL hB⟩⟩
abbrev wX:=yN 5 BlkR
def FuncR (w:World)(B b q:Nat)(x:List IBlk):Prop:=∃bv,A w b q bv/\wX w B bv x
theorem vR:vV FuncR:=
 ⟨fun w w' B b q x hB hb h=>by obtain⟨bv,h1,h2⟩:=h;exact⟨bv,zV hb hB h1,h2.below yT hb⟩,
  fun w B B' b q x hB h=>by obtain⟨bv,h1,h2⟩:=h;exact⟨bv,h1,h2.mono yT hB⟩⟩
abbrev iS:=yN 1 FuncR
structure PV where
 fv:Value
 av:Value
 dv:Value
 bv:Value
structure ProgIn (w:World) (B:Nat) (V:PV) (p:IProg):Prop where
 funcs:iS w B V.fv p.funcs
 args:zY w B V.av p.args
 data:kq w B V.dv p.data
 banks:adu w B V.bv p.banks
 ent:I64 p.entry
 hnd:I64 p.handler
theorem ProgIn.below{B:Nat}{V:PV}{p:IProg}(h:ProgIn w B V p)(hb:Below B w w'):ProgIn w' B V p:=
 ⟨h.funcs.below vR hb,h.args.below zO hb,h.data.below tZ hb,h.banks.below tN hb,h.ent,h.hnd⟩
theorem ProgIn.mono{B:Nat}{V:PV}{p:IProg}(h:ProgIn w B V p)(hb:B<=B'):ProgIn w B' V p:=
 ⟨h.funcs.mono vR hb,h.args.mono zO hb,h.data.mono tZ hb,h.banks.mono tN hb,h.ent,h.hnd⟩
structure Flds where
 is:Bool
 res:Bool
 a:Bool
 b:Bool
 n:Bool
def zi (c:Int):Flds:=
 if c=1∨c=2∨c=24 then⟨true,true,false,false,true⟩
 else if c=3∨c=4∨c=18∨c=19 then⟨true,true,true,false,false⟩
 else if 5<=c/\c<=17 then⟨true,true,true,true,false⟩
 else if c=20∨c=21 then⟨true,false,true,true,false⟩
 else if c=22∨c=23 then⟨true,true,true,false,true⟩
 else if c=25 then⟨true,false,true,false,true⟩
 else if c=26∨c=27 then⟨true,false,false,false,false⟩
 else⟨false,false,false,false,false⟩
theorem rJ (c:Int):
 ((c=1∨c=2∨c=24)/\zi c=⟨true,true,false,false,true⟩)∨((c=3∨c=4∨c=18∨c=19)/\zi c=⟨true,true,true,false,false⟩)∨((5<=c/\c<=17)/\zi c=⟨true,true,true,true,false⟩)∨((c=20∨c=21)/\zi c=⟨true,false,true,true,false⟩)∨
 ((c=22∨c=23)/\zi c=⟨true,true,true,false,true⟩)∨(c=25/\zi c=⟨true,false,true,false,true⟩)∨((c=26∨c=27)/\zi c=⟨true,false,false,false,false⟩)∨((c<1∨27<c)/\zi c=⟨false,false,false,false,false⟩):=by
 unfold zi
 by_cases h1:c=1∨c=2∨c=24
 ·exact .inl ⟨h1,if_pos h1⟩
 rw[if_neg h1]
 by_cases h2:c=3∨c=4∨c=18∨c=19
 ·exact .inr (.inl ⟨h2,if_pos h2⟩)
 rw[if_neg h2]
 by_cases h3:5<=c/\c<=17
 ·exact .inr (.inr (.inl ⟨h3,if_pos h3⟩))
 rw[if_neg h3]
 by_cases i:c=20∨c=21
 ·exact .inr (.inr (.inr (.inl ⟨i,if_pos i⟩)))
 rw[if_neg i]
 by_cases h:c=22∨c=23
 ·exact .inr (Zi (.inl ⟨h,if_pos h⟩))
 rw[if_neg h]
 by_cases g:c=25
 ·exact .inr (.inr (Zi (.inl ⟨g,if_pos g⟩)))
 rw[if_neg g]
 by_cases d:c=26∨c=27
 ·exact .inr (.inr (.inr (Zi (.inl ⟨d,if_pos d⟩))))
 rw[if_neg d];exact .inr (.inr (.inr (Zi (.inr ⟨by omega,rfl⟩))))
def nL (f:Flds):Value:=.tuple #[.agg #[.bool f.res,.bool f.a,.bool f.b,.bool f.n],.bool f.is]
def yX (w:World)(f:Flds)(e:Ending)(w':World):Prop:=e=.returned (nL f)/\Y w w'
theorem flds_1 (w:World):I 142 #[U 1] w (yX w ⟨true,true,false,false,true⟩):=by
 go_enter Tryz.func142,Tryz.ntmps142;go_wp2;exact bodyPost_ret (v:=.tuple #[.agg #[.bool true,.bool false,.bool false,.bool true],.bool true]) (by simp[results,Tryz.results142,go_sem]) rfl ⟨rfl,Zr⟩
theorem flds_2 (w:World):I 142 #[U 2] w (yX w ⟨true,true,false,false,true⟩):=by
 go_enter Tryz.func142,Tryz.ntmps142;go_wp2;exact bodyPost_ret (v:=.tuple #[.agg #[.bool true,.bool false,.bool false,.bool true],.bool true]) (by simp[results,Tryz.results142,go_sem]) rfl ⟨rfl,Zr⟩
theorem flds_3 (w:World):I 142 #[U 3] w (yX w ⟨true,true,true,false,false⟩):=by
 go_enter Tryz.func142,Tryz.ntmps142;go_wp2;exact bodyPost_ret (v:=.tuple #[.agg #[.bool true,.bool true,.bool false,.bool false],.bool true]) (by simp[results,Tryz.results142,go_sem]) rfl ⟨rfl,Zr⟩
theorem flds_4 (w:World):I 142 #[U 4] w (yX w ⟨true,true,true,false,false⟩):=by
 go_enter Tryz.func142,Tryz.ntmps142;go_wp2;exact bodyPost_ret (v:=.tuple #[.agg #[.bool true,.bool true,.bool false,.bool false],.bool true]) (by simp[results,Tryz.results142,go_sem]) rfl ⟨rfl,Zr⟩
theorem flds_18 (w:World):I 142 #[U 18] w (yX w ⟨true,true,true,false,false⟩):=by
 go_enter Tryz.func142,Tryz.ntmps142;go_wp2;exact bodyPost_ret (v:=.tuple #[.agg #[.bool true,.bool true,.bool false,.bool false],.bool true]) (by simp[results,Tryz.results142,go_sem]) rfl ⟨rfl,Zr⟩
theorem flds_19 (w:World):I 142 #[U 19] w (yX w ⟨true,true,true,false,false⟩):=by
 go_enter Tryz.func142,Tryz.ntmps142;go_wp2;exact bodyPost_ret (v:=.tuple #[.agg #[.bool true,.bool true,.bool false,.bool false],.bool true]) (by simp[results,Tryz.results142,go_sem]) rfl ⟨rfl,Zr⟩
theorem flds_20 (w:World):I 142 #[U 20] w (yX w ⟨true,false,true,true,false⟩):=by
 go_enter Tryz.func142,Tryz.ntmps142;go_wp2;exact bodyPost_ret (v:=.tuple #[.agg #[.bool false,.bool true,.bool true,.bool false],.bool true]) (by simp[results,Tryz.results142,go_sem]) rfl ⟨rfl,Zr⟩
theorem flds_21 (w:World):I 142 #[U 21] w (yX w ⟨true,false,true,true,false⟩):=by
 go_enter Tryz.func142,Tryz.ntmps142;go_wp2;exact bodyPost_ret (v:=.tuple #[.agg #[.bool false,.bool true,.bool true,.bool false],.bool true]) (by simp[results,Tryz.results142,go_sem]) rfl ⟨rfl,Zr⟩
theorem flds_22 (w:World):I 142 #[U 22] w (yX w ⟨true,true,true,false,true⟩):=by
 go_enter Tryz.func142,Tryz.ntmps142;go_wp2;exact bodyPost_ret (v:=.tuple #[.agg #[.bool true,.bool true,.bool false,.bool true],.bool true]) (by simp[results,Tryz.results142,go_sem]) rfl ⟨rfl,Zr⟩
theorem flds_23 (w:World):I 142 #[U 23] w (yX w ⟨true,true,true,false,true⟩):=by
 go_enter Tryz.func142,Tryz.ntmps142;go_wp2;exact bodyPost_ret (v:=.tuple #[.agg #[.bool true,.bool true,.bool false,.bool true],.bool true]) (by simp[results,Tryz.results142,go_sem]) rfl ⟨rfl,Zr⟩
theorem flds_24 (w:World):I 142 #[U 24] w (yX w ⟨true,true,false,false,true⟩):=by
 go_enter Tryz.func142,Tryz.ntmps142;go_wp2;exact bodyPost_ret (v:=.tuple #[.agg #[.bool true,.bool false,.bool false,.bool true],.bool true]) (by simp[results,Tryz.results142,go_sem]) rfl ⟨rfl,Zr⟩
theorem flds_25 (w:World):I 142 #[U 25] w (yX w ⟨true,false,true,false,true⟩):=by
 go_enter Tryz.func142,Tryz.ntmps142;go_wp2;exact bodyPost_ret (v:=.tuple #[.agg #[.bool false,.bool true,.bool false,.bool true],.bool true]) (by simp[results,Tryz.results142,go_sem]) rfl ⟨rfl,Zr⟩
theorem flds_26 (w:World):I 142 #[U 26] w (yX w ⟨true,false,false,false,false⟩):=by
 go_enter Tryz.func142,Tryz.ntmps142;go_wp2;exact bodyPost_ret (v:=.tuple #[.agg #[.bool false,.bool false,.bool false,.bool false],.bool true]) (by simp[results,Tryz.results142,go_sem]) rfl ⟨rfl,Zr⟩
theorem flds_27 (w:World):I 142 #[U 27] w (yX w ⟨true,false,false,false,false⟩):=by
 go_enter Tryz.func142,Tryz.ntmps142;go_wp2;exact bodyPost_ret (v:=.tuple #[.agg #[.bool false,.bool false,.bool false,.bool false],.bool true]) (by simp[results,Tryz.results142,go_sem]) rfl ⟨rfl,Zr⟩
theorem flds_mid (c:Int)(h:5<=c/\c<=17)(w:World):I 142 #[U c] w (yX w ⟨true,true,true,true,false⟩):=by
 have t1:((c:Int)==1)=false:=Ze;have t2:((c:Int)==2)=false:=Ze;have t3:((c:Int)==3)=false:=Ze;have t4:((c:Int)==4)=false:=Ze;have g:((c:Int)==18)=false:=Ze;have d:((c:Int)==19)=false:=Ze;have d1:decide (5<=c)=true:=by rw[decide_eq_true_eq];omega
 have d2:decide (c<=17)=true:=by rw[decide_eq_true_eq];omega
 clear h;go_enter Tryz.func142,Tryz.ntmps142;go_wp2;exact bodyPost_ret (v:=.tuple #[.agg #[.bool true,.bool true,.bool true,.bool false],.bool true]) (by simp[results,Tryz.results142,go_sem]) rfl ⟨rfl,Zr⟩
theorem flds_low (c:Int)(h:c<1)(w:World):I 142 #[U c] w (yX w ⟨false,false,false,false,false⟩):=by
 have t1:((c:Int)==1)=false:=Ze;have t2:((c:Int)==2)=false:=Ze;have t3:((c:Int)==3)=false:=Ze;have t4:((c:Int)==4)=false:=Ze;have u:((c:Int)==18)=false:=Ze;have t:((c:Int)==19)=false:=Ze;have o:((c:Int)==20)=false:=Ze;have m:((c:Int)==21)=false:=Ze;have l:((c:Int)==22)=false:=Ze;have k:((c:Int)==23)=false:=Ze;have j:((c:Int)==24)=false:=Ze;have i:((c:Int)==25)=false:=Ze;have g:((c:Int)==26)=false:=Ze;have d:((c:Int)==27)=false:=Ze;have d1:decide (5<=c)=false:=by rw[decide_eq_false_iff_not];omega
 clear h;go_enter Tryz.func142,Tryz.ntmps142;go_wp2;exact bodyPost_ret (v:=.tuple #[.agg #[.bool false,.bool false,.bool false,.bool false],.bool false]) (by simp[results,Tryz.results142,go_sem]) rfl ⟨rfl,Zr⟩
theorem iU (c:Int)(h:27<c)(w:World):I 142 #[U c] w (yX w ⟨false,false,false,false,false⟩):=by
 have t1:((c:Int)==1)=false:=Ze;have t2:((c:Int)==2)=false:=Ze;have t3:((c:Int)==3)=false:=Ze;have t4:((c:Int)==4)=false:=Ze;have u:((c:Int)==18)=false:=Ze;have t:((c:Int)==19)=false:=Ze;have o:((c:Int)==20)=false:=Ze;have m:((c:Int)==21)=false:=Ze;have l:((c:Int)==22)=false:=Ze;have k:((c:Int)==23)=false:=Ze;have j:((c:Int)==24)=false:=Ze;have i:((c:Int)==25)=false:=Ze;have g:((c:Int)==26)=false:=Ze;have d:((c:Int)==27)=false:=Ze;have d1:decide (5<=c)=true:=by rw[decide_eq_true_eq];omega
 have d2:decide (c<=17)=false:=by rw[decide_eq_false_iff_not];omega
 clear h;go_enter Tryz.func142,Tryz.ntmps142;go_wp2;exact bodyPost_ret (v:=.tuple #[.agg #[.bool false,.bool false,.bool false,.bool false],.bool false]) (by simp[results,Tryz.results142,go_sem]) rfl ⟨rfl,Zr⟩
theorem yu (c:Int)(w:World):I 142 #[U c] w (yX w (zi c)):=by
 rcases rJ c with⟨h,e⟩|⟨h,e⟩|⟨h,e⟩|⟨h,e⟩|⟨h,e⟩|⟨h,e⟩|⟨h,e⟩|⟨h,e⟩<;>rw[e]
 ·rcases h with rfl|rfl|rfl
  ·exact flds_1 w
  ·exact flds_2 w
  ·exact flds_24 w
 ·rcases h with rfl|rfl|rfl|rfl
  ·exact flds_3 w
  ·exact flds_4 w
  ·exact flds_18 w
  ·exact flds_19 w
 ·exact flds_mid c h w
 ·rcases h with rfl|rfl
  ·exact flds_20 w
  ·exact flds_21 w
 ·rcases h with rfl|rfl
  ·exact flds_22 w
  ·exact flds_23 w
 ·subst h;exact flds_25 w
 ·rcases h with rfl|rfl
  ·exact flds_26 w
  ·exact flds_27 w
 ·rcases h with h|h
  ·exact flds_low c h w
  ·exact iU c h w
structure MK where
 E:IEnv
 V:PV
 inv:Value
 irqv:Value
 pm:Nat
 rb:Nat
 B:Nat
variable {K:MK}
def r9 (K:MK)(m:Mach)(ov:Value):Array Value:=
 #[K.V.fv,K.V.av,U K.E.p.entry,U K.E.p.handler,K.V.dv,K.V.bv,T K.rb 8192 8192,K.inv,K.irqv,U m.fuel,ov,U (m.inputs:Int),U (m.polls:Int)]
def qO (l:List (Nat×Nat)):List Value:=(l.map fun p=> [vL p.1,vL p.2]).flatten
structure MachAt (w:World) (K:MK) (m:Mach) (ov:Value):Prop where
 blk:w.heap[K.pm]? =some (.cells (r9 K m ov) 210 (0,0))
 ram:w.heap[K.rb]? =some (.cells (m.ram.map bd).toArray 5 (0,0))
 rlen:m.ram.length=8192
 rlt:∀x∈m.ram,x<256
 out:w.ownsRow K.B 117 2 ov m.out.length (qO m.out)
 olt:∀p∈m.out,p.1<65536/\p.2<65536
 obd:m.out.length+m.fuel.toNat<=4000000
 fuel:I64 m.fuel
 inp:m.inputs<=K.E.inn.length
 pol:m.polls<=K.E.irq.length
 gpm:K.B<=K.pm
 grb:K.B<=K.rb
 prog:ProgIn w K.B K.V K.E.p
 inn:wV w K.B K.inv K.E.inn
 irq:dL w K.B K.irqv K.E.irq
def sA:Obj->Prop
 |.cells _ t _=>t≠210/\t≠117/\t≠5
 |_=>True
structure Frm (B:Nat) (w w':World):Prop where
 below:Below B w w'
 kept:∀(k:Nat) (o:Obj),w.heap[k]? =some o->sA o->w'.heap[k]? =some o
theorem Frm.refl (B:Nat)(w:World):Frm B w w:=⟨Below.refl _ _,fun _ _ h _=>h⟩
theorem Frm.trans {B:Nat}{a b c:World}(h:Frm B a b)(k:Frm B b c):Frm B a c:=⟨h.below.trans k.below,fun i o hi hs=>k.kept i o (h.kept i o hi hs) hs⟩
theorem Frm.drewN{B n:Nat}{a:World}(h:Frm B a w):Frm B a (w.drewN n):=⟨yC h.below,h.kept⟩
theorem Frm.alloc{B:Nat}{a:World}(h:Frm B a w)(hB:B<=a.heap.size)(o:Obj):Frm B a (w.alloc o):=⟨h.below.alloc (Jn hB h.below.size) o,fun i o' hi hs=>zB (h.kept i o' hi hs)⟩
theorem Frm.set{B:Nat}{a:World}(h:Frm B a w){b:Nat}{cs:Array Value}{t:TypeId}(hb:Q w b cs t)(hB:B<=b)(ht:¬sA (G cs t))(u:Value):Frm B a (w.setCell ⟨b,i,none⟩ u):=
 ⟨h.below.setCell hB u,fun k o hk hs=>by
   have h1:=h.kept k o hk hs;refine zR h1 ?_;rintro rfl;rw[hb] at h1
   exact ht (by rw[Nt h1];exact hs)⟩
def oE (k i:Nat):PanicEntry:= {v:=.iface 213 (.agg #[U k,O i]),recovered:=false }
def endOf:Res Nat->Ending
 |.ok x _=> .returned (O x)
 |.trap k i _=> .panicked [oE k i]
def Res.mach {α:Type}:Res α->Mach
 |.ok _ m=>m
 |.trap _ _ m=>m
theorem MachAt.cell {w:World}{K:MK}{m:Mach}{ov:Value}(h:MachAt w K m ov){i:Nat}{v:Value}(hv:(r9 K m ov)[i]? =some v):A w K.pm i v:=zA h.blk hv
section
variable {w:World} {K:MK} {m:Mach} {ov:Value} (h:MachAt w K m ov)
include h
theorem MachAt.c0:A w K.pm 0 K.V.fv:=h.cell rfl
theorem MachAt.c6:A w K.pm 6 (T K.rb 8192 8192):=h.cell rfl
theorem MachAt.c9:A w K.pm 9 (U m.fuel):=h.cell rfl
theorem MachAt.c10:A w K.pm 10 ov:=h.cell rfl
theorem MachAt.c11:A w K.pm 11 (U (m.inputs:Int)):=h.cell rfl
theorem MachAt.c12:A w K.pm 12 (U (m.polls:Int)):=h.cell rfl
end
theorem MachAt.free{ov:Value}(h:MachAt w K m ov)(i:Nat):N w K.pm i:=zE h.blk
theorem MachAt.keep{ov:Value}(h:MachAt w K m ov)(hb:Y w w'):MachAt w' K m ov:=
 ⟨zH hb h.blk (lt_of_block h.blk),zH hb h.ram (lt_of_block h.ram),h.rlen,h.rlt,p7 h.out hb (Je _),h.olt,h.obd,h.fuel,h.inp,h.pol,h.gpm,h.grb,
  h.prog.below (hb.mono (Jn h.gpm (Qd (lt_of_block h.blk)))),h.inn.below zr (hb.mono (Jn h.gpm (Qd (lt_of_block h.blk)))),h.irq.below xQ (hb.mono (Jn h.gpm (Qd (lt_of_block h.blk))))⟩
theorem MachAt.drewN{ov:Value}(h:MachAt w K m ov)(n:Nat):MachAt (w.drewN n) K m ov:=h.keep (yL _ _ _)
theorem MachAt.size{ov:Value}(h:MachAt w K m ov):K.B<w.heap.size:=Nat.lt_of_le_of_lt h.gpm (lt_of_block h.blk)
theorem stop_any (k i:Nat)(w:World):I 153 #[U k,O i] w fun e w'=>e=.panicked [oE k i]/\w=w':=by
 go_enter Tryz.func153,Tryz.ntmps153;go_wp2;exact⟨rfl,rfl,rfl⟩
theorem MachAt.setF{ov:Value}(h:MachAt w K m ov)(f:Int)(hf:I64 f)(hb:m.out.length+f.toNat<=4000000)(c:K.rb≠K.pm):MachAt (w.setCell ⟨K.pm,9,none⟩ (U f)) K {m with fuel:=f } ov:=by
 refine⟨?_,zR h.ram (by simpa using c),h.rlen,h.rlt,ownsRow_setCell_other h.out ?_ _,h.olt,hb,hf,h.inp,h.pol,h.gpm,h.grb,?_,?_,?_⟩
 ·rw[zD h.blk];rfl
 ·intro e;exact zC h.out h.blk (.inr Zd) (by simpa using e)
 ·exact h.prog.below ((Below.refl _ _).setCell h.gpm _)
 ·exact h.inn.below zr ((Below.refl _ _).setCell h.gpm _)
 ·exact h.irq.below xQ ((Below.refl _ _).setCell h.gpm _)
theorem MachAt.ne{ov:Value}(h:MachAt w K m ov):K.rb≠K.pm:=by
 intro e;have h1:=h.blk;have h2:=h.ram;rw[e,h1] at h2;simp at h2
theorem qG (a:Nat):wo a=true↔16384<=a/\a<24576:=by unfold wo;rw[Jm,decide_eq_true_eq,decide_eq_true_eq]
theorem kF (l:List (Nat×Nat))(p x:Nat):qO (l++ [(p,x)])=qO l++ [vL p,vL x]:=by unfold qO;rw[Js,List.flatten_append];rfl
theorem MachAt.frm{ov:Value}(h:MachAt w K m ov)(i:Nat)(u:Value):Frm K.B w (w.setCell ⟨K.pm,i,none⟩ u):=(Frm.refl _ _).set h.blk h.gpm (by simp[sA]) u
theorem iN{ov:Value}(h:MachAt w K m ov)(hf:0<m.fuel):I 154 #[F K.pm] w fun e w'=>e=.returned (.tuple #[])/\MachAt w' K m.pay ov/\Frm K.B w w':=by
 have c9:=h.c9;have f9:=h.free 9;have d:=Ja (h.setF (m.fuel-1) (by have:=h.fuel;unfold I64 at *;omega) (by have:=h.obd;omega) h.ne);have c:=Ja (h.frm 9 (U (m.fuel-1)));have hb:m.fuel<=9223372036854775807:=h.fuel.2;clear h;go_enter Tryz.func154,Tryz.ntmps154;go_wp2
 go_end0
 exact⟨rfl,d.out,c.out⟩
def y9 (l:List Nat):ByteArray:=strOfNums (l.map fun(n:Nat)=>(n:Int))
def yV (x:Nat)(ov:Value)(k i:Nat)(s:ByteArray)(inp pol:Nat):Array Value:=#[O x,ov,U k,O i,.string s,U inp,U pol]
theorem mp{b:Nat}{l:List Nat}(h:Q w b (l.map bd).toArray 5)(hl:l.length=8192):
 (convert 49 9 (T b 8192 8192)).run Tryz.prog w=.ok (.string (y9 l)) w:=by
 refine run_convert_bytes_arg w 49 5 Tryz.underlying49 Tryz.underlying5 b 0 8192 8192 (l.map fun(n:Nat)=>(n:Int)) (by simpa using hl) (fun i hi=>?_) 9 Tryz.underlying9;rw[Ng];have c:i<l.length:=Zo;refine zA h ?_;simp[Jj,Jd c,bd]
theorem zu{b:Nat}(h:w.grownBy w' (some b))(j:Nat)(v:Value):w.grownBy (w'.setCell ⟨b,j,none⟩ v) (some b):=
 ⟨h.os,h.tape,h.output,by have:=h.size;simpa[World.setCell] using this,fun q hq hn=>by rw[Below.heap_setCell _ _ _ _ (by simpa using hn)];exact h.block q hq hn⟩
structure FinS (K:MK) (m:Mach) (ov:Value) (b13 bt:Nat) (k i:Nat) (w':World):Prop where
 c13:w'.cell? ⟨b13,0,none⟩=some (.pointer (some ⟨K.pm,0,none⟩))
 c6:w'.cell? ⟨K.pm,6,none⟩=some (.slice (some ⟨K.rb,0,none⟩) 8192 8192)
 c10:w'.cell? ⟨K.pm,10,none⟩=some ov
 c11:w'.cell? ⟨K.pm,11,none⟩=some (.int .i64 (m.inputs:Int))
 c12:w'.cell? ⟨K.pm,12,none⟩=some (.int .i64 (m.polls:Int))
 t0:w'.cell? ⟨bt,0,none⟩=some (.int .i64 (k:Int))
 t1:w'.cell? ⟨bt,1,none⟩=some (.int .u16 (i:Int))
 ram:w'.heap[K.rb]? =some (.cells (m.ram.map bd).toArray 5 (0,0))
theorem FinS.set{ov:Value}(h:FinS K m ov b13 bt k i w')(n1:b12≠b13)(n2:b12≠K.pm)(n3:b12≠bt)(n4:b12≠K.rb)(j:Nat)(v:Value):FinS K m ov b13 bt k i (w'.setCell ⟨b12,j,none⟩ v):=by
 have c:∀ {b q:Nat} {x:Value},b12≠b->A w' b q x->A (w'.setCell ⟨b12,j,none⟩ v) b q x:=fun hn hc=>by
  rw[Oo (w:=w') (Below.heap_setCell _ _ _ _ (by simpa using Ne.symm hn))];exact hc
 exact⟨c n1 h.c13,c n2 h.c6,c n2 h.c10,c n2 h.c11,c n2 h.c12,c n3 h.t0,c n3 h.t1,zR h.ram (by simpa using Ne.symm n4)⟩
theorem FinS.drew{ov:Value}(h:FinS K m ov b13 bt k i w'):FinS K m ov b13 bt k i w'.drew:=⟨h.c13,h.c6,h.c10,h.c11,h.c12,h.t0,h.t1,h.ram⟩
theorem FinS.all{oa:Option Addr}{oc:Nat}(hrl:m.ram.length=8192)(h:FinS K m (.slice oa m.out.length oc) b13 bt k i w'):A w' b13 0 (F K.pm)/\A w' K.pm 6 (T K.rb 8192 8192)/\A w' K.pm 10 (.slice oa m.out.length oc)/\A w' K.pm 11 (U (m.inputs:Int))/\A w' K.pm 12 (U (m.polls:Int))/\A w' bt 0 (U k)/\A w' bt 1 (O i)/\(convert 49 9 (T K.rb 8192 8192)).run Tryz.prog w'=.ok (.string (y9 m.ram)) w':=⟨h.c13,h.c6,h.c10,h.c11,h.c12,h.t0,h.t1,mp h.ram hrl⟩
theorem pE{ov:Value}(h:MachAt w K m ov)(a1:Q w b13 #[F K.pm] 208)(l:Q w b12 #[O 0,L,U 0,O 0,.string {data:=#[]},U 0,U 0] 57)(k i x:Nat):
 I 148 #[.agg #[U k,O i],O x,F b13,F b12] w fun e w'=>
  e=.returned (.tuple #[])/\Q w' b12 (yV x ov k i (y9 m.ram) m.inputs m.polls) 57/\w.grownBy w' (some b12):=by
 obtain⟨oa,oc,rfl⟩:=zG h.out;have hrl:=h.rlen;have n1:b12≠b13:=by rintro rfl;rw[l] at a1;simp at a1
 have n2:b12≠K.pm:=by rintro rfl;rw[h.blk] at l;simp[r9] at l
 have n4:b12≠K.rb:=by
  rintro rfl;rw[h.ram] at l;have:=congrArg (fun o=>match o with|some (Obj.cells _ t _)=>t|_=>0) l;simp at this
 have n3:b12≠w.heap.size:=by have:=lt_of_block l;omega
 have b:=(Below.refl w.heap.size w).alloc (Je _) (G #[U k,O i] 55);have hM:=h.keep b
 have u:FinS K m (.slice oa m.out.length oc) b13 w.heap.size k i (w.alloc (G #[U k,O i] 55)):=
  ⟨zA (zB a1) Zs,hM.c6,hM.c10,hM.c11,hM.c12,zA (zI rfl) Zs,zA (zI rfl) Zs,hM.ram⟩
 have c:=zB (o:=G #[U k,O i] 55) l;have f8:w.grownBy (w.alloc (G #[U k,O i] 55)) (some b12):=Uo w _ _;have d0:A (w.alloc (G #[U k,O i] 55)) b12 0 (O 0):=zA c Zs;have f0:N (w.alloc (G #[U k,O i] 55)) b12 0:=zE c;have d1:A (w.alloc (G #[U k,O i] 55)) b12 1 (L):=zA c Zs;have f1:N (w.alloc (G #[U k,O i] 55)) b12 1:=zE c;have d2:A (w.alloc (G #[U k,O i] 55)) b12 2 (U 0):=zA c Zs;have f2:N (w.alloc (G #[U k,O i] 55)) b12 2:=zE c;have d3:A (w.alloc (G #[U k,O i] 55)) b12 3 (O 0):=zA c Zs;have f3:N (w.alloc (G #[U k,O i] 55)) b12 3:=zE c;have d4:A (w.alloc (G #[U k,O i] 55)) b12 4 (.string {data:=#[]}):=zA c Zs;have f4:N (w.alloc (G #[U k,O i] 55)) b12 4:=zE c;have d5:A (w.alloc (G #[U k,O i] 55)) b12 5 (U 0):=zA c Zs;have f5:N (w.alloc (G #[U k,O i] 55)) b12 5:=zE c;have d6:A (w.alloc (G #[U k,O i] 55)) b12 6 (U 0):=zA c Zs;have f6:N (w.alloc (G #[U k,O i] 55)) b12 6:=zE c;have HG:=Ja f8;have HB:=Ja c;clear h hM b a1 l f8 c;go_enter Tryz.func148,Tryz.ntmps148;go_upto_region 1 with fail;generalize hW:w.alloc (G #[U k,O i] 55)=W at *;generalize w.heap.size=bt at *;have a0:∀w',FinS K m (.slice oa m.out.length oc) b13 bt k i w'->(convert 49 9 (T K.rb 8192 8192)).run Tryz.prog w'=.ok (.string (y9 m.ram)) w':=fun w' hs=>mp hs.ram hrl
 have c1:=u.c13;have c2:=u.c6;have c3:=u.c10;have c4:=u.c11;have c5:=u.c12;have c6:=u.t0;have c7:=u.t1;have cc:=a0 _ u;have a7:∀(w':World) (j:Nat) (v:Value),FinS K m (.slice oa m.out.length oc) b13 bt k i w'->FinS K m (.slice oa m.out.length oc) b13 bt k i (w'.setCell ⟨b12,j,none⟩ v):=fun w' j v hs=>hs.set n1 n2 n3 n4 j v
 have d:=Ja a7;have i2:=Ja a0;have HS:=Ja u;clear a7 a0 u hW;refine wp_region_noPanic ?_;refine wp_region_held_drew (S:=(fun w'=>A w' b13 0 (F K.pm)/\A w' K.pm 6 (T K.rb 8192 8192)/\A w' K.pm 10 (.slice oa m.out.length oc)/\A w' K.pm 11 (U (m.inputs:Int))/\A w' K.pm 12 (U (m.polls:Int))/\A w' bt 0 (U k)/\A w' bt 1 (O i)/\(convert 49 9 (T K.rb 8192 8192)).run Tryz.prog w'=.ok (.string (y9 m.ram)) w')) Zk (HS.out.drew.all hrl) (fun hHeld=>?_);have f9:=Ja HS.out.drew;have g:=Ja (show W.drew.heap[b12]? =_ from HB.out);have h8:=Ja (show w.grownBy W.drew (some b12) from⟨HG.out.os,HG.out.tape,HG.out.output,HG.out.size,HG.out.block⟩);clear c1 c2 c3 c4 c5 c6 c7 cc HS HB HG d0 f0 d1 f1 d2 f2 d3 f3 d4 f4 d5 f5 d6 f6;generalize W.drew=Wa at *;refine Th 0 ?_
 try simp only[Yp]
 refine Th 1 ?_
 try simp only[Yp]
 refine Th 2 ?_
 try simp only[Yp]
 refine Th 3 ?_
 try simp only[Yp]
 refine Th 4 ?_
 try simp only[Yp]
 refine Th 5 ?_
 try simp only[Yp]
 refine Th 6 ?_
 try simp only[Yp]
 refine Th 7 ?_
 try simp only[Yp]
 refine Th 8 ?_
 try simp only[Yp]
 refine Th 9 ?_
 try simp only[Yp]
 refine Th 10 ?_
 try simp only[Yp]
 refine Th 11 ?_
 try simp only[Yp]
 refine Th 12 ?_
 try simp only[Yp]
 refine Th 13 ?_
 try simp only[Yp]
 refine Th 14 ?_
 try simp only[Yp]
 refine Th 15 ?_
 try simp only[Yp]
 refine Th 16 ?_
 try simp only[Yp]
 refine Th 17 ?_
 try simp only[Yp]
 refine Th 18 ?_
 try simp only[Yp]
 have e0:=K0 g.out;have g0:N Wa b12 0:=zE g.out;have e1:=K1 g.out;have g1:N Wa b12 1:=zE g.out;have e2:=K2 g.out;have g2:N Wa b12 2:=zE g.out;have e3:=K3 g.out;have g3:N Wa b12 3:=zE g.out;have e4:=K4 g.out;have g4:N Wa b12 4:=zE g.out;have e5:=K5 g.out;have g5:N Wa b12 5:=zE g.out;have e6:=K6 g.out;have g6:N Wa b12 6:=zE g.out;refine wpAnyH_ready (rs:=[19]) Zk Zs ?_;refine AllReadyH.cons (o:=_) rfl (fun K hK=>?_) ?_
 ·skip
  go_simp;have f7:=Ja (d.out ((((((Wa.setCell ⟨b12,0,none⟩ (O 0)).setCell ⟨b12,1,none⟩ (L)).setCell ⟨b12,2,none⟩ (U 0)).setCell ⟨b12,3,none⟩ (O 0)).setCell ⟨b12,4,none⟩ (.string {data:=#[]})).setCell ⟨b12,5,none⟩ (U 0)) 6 (U 0) (d.out (((((Wa.setCell ⟨b12,0,none⟩ (O 0)).setCell ⟨b12,1,none⟩ (L)).setCell ⟨b12,2,none⟩ (U 0)).setCell ⟨b12,3,none⟩ (O 0)).setCell ⟨b12,4,none⟩ (.string {data:=#[]})) 5 (U 0) (d.out ((((Wa.setCell ⟨b12,0,none⟩ (O 0)).setCell ⟨b12,1,none⟩ (L)).setCell ⟨b12,2,none⟩ (U 0)).setCell ⟨b12,3,none⟩ (O 0)) 4 (.string {data:=#[]}) (d.out (((Wa.setCell ⟨b12,0,none⟩ (O 0)).setCell ⟨b12,1,none⟩ (L)).setCell ⟨b12,2,none⟩ (U 0)) 3 (O 0) (d.out ((Wa.setCell ⟨b12,0,none⟩ (O 0)).setCell ⟨b12,1,none⟩ (L)) 2 (U 0) (d.out (Wa.setCell ⟨b12,0,none⟩ (O 0)) 1 (L) (d.out Wa 0 (O 0) f9.out)))))));have d7:Q (Wa.setCell ⟨b12,0,none⟩ (O 0)) b12 #[O 0,L,U 0,O 0,.string {data:=#[]},U 0,U 0] 57:=by rw[zD g.out];rfl
  have c9:Q ((Wa.setCell ⟨b12,0,none⟩ (O 0)).setCell ⟨b12,1,none⟩ (L)) b12 #[O 0,L,U 0,O 0,.string {data:=#[]},U 0,U 0] 57:=by rw[zD d7];rfl
  have c8:Q (((Wa.setCell ⟨b12,0,none⟩ (O 0)).setCell ⟨b12,1,none⟩ (L)).setCell ⟨b12,2,none⟩ (U 0)) b12 #[O 0,L,U 0,O 0,.string {data:=#[]},U 0,U 0] 57:=by rw[zD c9];rfl
  have c0:Q ((((Wa.setCell ⟨b12,0,none⟩ (O 0)).setCell ⟨b12,1,none⟩ (L)).setCell ⟨b12,2,none⟩ (U 0)).setCell ⟨b12,3,none⟩ (O 0)) b12 #[O 0,L,U 0,O 0,.string {data:=#[]},U 0,U 0] 57:=by rw[zD c8];rfl
  have b9:Q (((((Wa.setCell ⟨b12,0,none⟩ (O 0)).setCell ⟨b12,1,none⟩ (L)).setCell ⟨b12,2,none⟩ (U 0)).setCell ⟨b12,3,none⟩ (O 0)).setCell ⟨b12,4,none⟩ (.string {data:=#[]})) b12 #[O 0,L,U 0,O 0,.string {data:=#[]},U 0,U 0] 57:=by rw[zD c0];rfl
  have b8:Q ((((((Wa.setCell ⟨b12,0,none⟩ (O 0)).setCell ⟨b12,1,none⟩ (L)).setCell ⟨b12,2,none⟩ (U 0)).setCell ⟨b12,3,none⟩ (O 0)).setCell ⟨b12,4,none⟩ (.string {data:=#[]})).setCell ⟨b12,5,none⟩ (U 0)) b12 #[O 0,L,U 0,O 0,.string {data:=#[]},U 0,U 0] 57:=by rw[zD b9];rfl
  have b7:Q (((((((Wa.setCell ⟨b12,0,none⟩ (O 0)).setCell ⟨b12,1,none⟩ (L)).setCell ⟨b12,2,none⟩ (U 0)).setCell ⟨b12,3,none⟩ (O 0)).setCell ⟨b12,4,none⟩ (.string {data:=#[]})).setCell ⟨b12,5,none⟩ (U 0)).setCell ⟨b12,6,none⟩ (U 0)) b12 #[O 0,L,U 0,O 0,.string {data:=#[]},U 0,U 0] 57:=by rw[zD b8];rfl
  have a6:=Ja b7;have h7:=Ja (zu (zu (zu (zu (zu (zu (zu h8.out 0 (O 0)) 1 (L)) 2 (U 0)) 3 (O 0)) 4 (.string {data:=#[]})) 5 (U 0)) 6 (U 0));refine hK.out _ _ (FinS.all hrl f7.out) (fun hHeld=>?_);clear hK K e0 g0 e1 g1 e2 g2 e3 g3 e4 g4 e5 g5 e6 g6 d7 c9 c8 c0 b9 b8 b7 f9 g h8
  try simp only[Yp]
  generalize (((((((Wa.setCell ⟨b12,0,none⟩ (O 0)).setCell ⟨b12,1,none⟩ (L)).setCell ⟨b12,2,none⟩ (U 0)).setCell ⟨b12,3,none⟩ (O 0)).setCell ⟨b12,4,none⟩ (.string {data:=#[]})).setCell ⟨b12,5,none⟩ (U 0)).setCell ⟨b12,6,none⟩ (U 0))=Wb at *;refine Th 20 ?_
  try simp only[Yp]
  have e0:=K0 a6.out;have g0:N Wb b12 0:=zE a6.out;refine wpAnyH_ready (rs:=[21]) Zk Zs ?_;refine AllReadyH.cons (o:=_) rfl (fun K hK=>?_) ?_
  ·skip
   go_simp;have e9:=Ja (d.out Wb 0 (O x) f7.out);have b6:Q (Wb.setCell ⟨b12,0,none⟩ (O x)) b12 #[O x,L,U 0,O 0,.string {data:=#[]},U 0,U 0] 57:=by rw[zD a6.out];rfl
   have a5:=Ja b6;have h6:=Ja (zu h7.out 0 (O x));refine hK.out _ _ (FinS.all hrl e9.out) (fun hHeld=>?_);clear hK K e0 g0 b6 f7 a6 h7
   try simp only[Yp]
   generalize (Wb.setCell ⟨b12,0,none⟩ (O x))=Wc at *;refine Th 22 ?_
   try simp only[Yp]
   have e1:=K1 a5.out;have g1:N Wc b12 1:=zE a5.out;refine wpAnyH_ready (rs:=[23]) Zk Zs ?_;refine AllReadyH.cons (o:=_) rfl (fun K hK=>?_) ?_
   ·skip
    go_simp;have e8:=Ja (d.out Wc 1 (.slice oa m.out.length oc) e9.out);have b5:Q (Wc.setCell ⟨b12,1,none⟩ (.slice oa m.out.length oc)) b12 #[O x,.slice oa m.out.length oc,U 0,O 0,.string {data:=#[]},U 0,U 0] 57:=by rw[zD a5.out];rfl
    have y:=Ja b5;have h5:=Ja (zu h6.out 1 (.slice oa m.out.length oc));refine hK.out _ _ (FinS.all hrl e8.out) (fun hHeld=>?_);clear hK K e1 g1 b5 e9 a5 h6
    try simp only[Yp]
    generalize (Wc.setCell ⟨b12,1,none⟩ (.slice oa m.out.length oc))=Wd at *;refine Th 24 ?_
    try simp only[Yp]
    have e2:=K2 y.out;have g2:N Wd b12 2:=zE y.out;have e3:=K3 y.out;have g3:N Wd b12 3:=zE y.out;refine wpAnyH_ready (rs:=[25]) Zk Zs ?_;refine AllReadyH.cons (o:=_) rfl (fun K hK=>?_) ?_
    ·skip
     go_simp;have e7:=Ja (d.out (Wd.setCell ⟨b12,2,none⟩ (U k)) 3 (O i) (d.out Wd 2 (U k) e8.out));have b4:Q (Wd.setCell ⟨b12,2,none⟩ (U k)) b12 #[O x,.slice oa m.out.length oc,U k,O 0,.string {data:=#[]},U 0,U 0] 57:=by rw[zD y.out];rfl
     have b3:Q ((Wd.setCell ⟨b12,2,none⟩ (U k)).setCell ⟨b12,3,none⟩ (O i)) b12 #[O x,.slice oa m.out.length oc,U k,O i,.string {data:=#[]},U 0,U 0] 57:=by rw[zD b4];rfl
     have a4:=Ja b3;have h4:=Ja (zu (zu h5.out 2 (U k)) 3 (O i));refine hK.out _ _ (FinS.all hrl e7.out) (fun hHeld=>?_);clear hK K e2 g2 e3 g3 b4 b3 e8 y h5
     try simp only[Yp]
     generalize ((Wd.setCell ⟨b12,2,none⟩ (U k)).setCell ⟨b12,3,none⟩ (O i))=We at *;refine Th 26 ?_
     try simp only[Yp]
     have e4:=K4 a4.out;have g4:N We b12 4:=zE a4.out;refine wpAnyH_ready (rs:=[27]) Zk Zs ?_;refine AllReadyH.cons (o:=_) rfl (fun K hK=>?_) ?_
     ·skip
      go_simp;have d9:=Ja (d.out We 4 (.string (y9 m.ram)) e7.out);have b2:Q (We.setCell ⟨b12,4,none⟩ (.string (y9 m.ram))) b12 #[O x,.slice oa m.out.length oc,U k,O i,.string (y9 m.ram),U 0,U 0] 57:=by rw[zD a4.out];rfl
      have a3:=Ja b2;have h0:=Ja (zu h4.out 4 (.string (y9 m.ram)));refine hK.out _ _ (FinS.all hrl d9.out) (fun hHeld=>?_);clear hK K e4 g4 b2 e7 a4 h4
      try simp only[Yp]
      generalize (We.setCell ⟨b12,4,none⟩ (.string (y9 m.ram)))=Wf at *;refine Th 28 ?_
      try simp only[Yp]
      have e5:=K5 a3.out;have g5:N Wf b12 5:=zE a3.out;refine wpAnyH_ready (rs:=[29]) Zk Zs ?_;refine AllReadyH.cons (o:=_) rfl (fun K hK=>?_) ?_
      ·skip
       go_simp;have d8:=Ja (d.out Wf 5 (U (m.inputs:Int)) d9.out);have b1:Q (Wf.setCell ⟨b12,5,none⟩ (U (m.inputs:Int))) b12 #[O x,.slice oa m.out.length oc,U k,O i,.string (y9 m.ram),U (m.inputs:Int),U 0] 57:=by rw[zD a3.out];rfl
       have a2:=Ja b1;have g9:=Ja (zu h0.out 5 (U (m.inputs:Int)));refine hK.out _ _ (FinS.all hrl d8.out) (fun hHeld=>?_);clear hK K e5 g5 b1 d9 a3 h0
       try simp only[Yp]
       generalize (Wf.setCell ⟨b12,5,none⟩ (U (m.inputs:Int)))=Wg at *;refine Th 30 ?_
       try simp only[Yp]
       have e6:=K6 a2.out;have g6:N Wg b12 6:=zE a2.out;refine wpAnyH_ready (rs:=[31]) Zk Zs ?_;refine AllReadyH.cons (o:=_) rfl (fun K hK=>?_) ?_
       ·skip
        go_simp;have h9:=Ja (d.out Wg 6 (U (m.polls:Int)) d8.out);have b0:Q (Wg.setCell ⟨b12,6,none⟩ (U (m.polls:Int))) b12 #[O x,.slice oa m.out.length oc,U k,O i,.string (y9 m.ram),U (m.inputs:Int),U (m.polls:Int)] 57:=by rw[zD a2.out];rfl
        have i1:=Ja b0;have i0:=Ja (zu g9.out 6 (U (m.polls:Int)));refine hK.out _ _ (FinS.all hrl h9.out) (fun hHeld=>?_);clear hK K e6 g6 b0 d8 a2 g9
        try simp only[Yp]
        generalize (Wg.setCell ⟨b12,6,none⟩ (U (m.polls:Int)))=Wh at *;refine wpAnyH_done Zk (NoPanic.normal ?_) _;go_wp2
        go_end0
        exact⟨rfl,i1.out,i0.out⟩
       ·exact AllReadyH.nil
      ·exact AllReadyH.nil
     ·exact AllReadyH.nil
    ·exact AllReadyH.nil
   ·exact AllReadyH.nil
  ·exact AllReadyH.nil
 ·exact AllReadyH.nil
def OwnRows {α:Type}(enc:α->Value)(e eS:TypeId)(w:World)(B bp:Nat)(rows:List (List α)):Prop:=
 ∃vs:List Value,Q w bp vs.toArray eS/\vs.length=rows.length/\(∀(k:Nat) (row:List α) (v:Value),rows[k]? =some row->vs[k]? =some v->w.ownsRow B e 1 v row.length (row.map enc))/\
  ∀(i j:Nat) (vi vj:Value),i≠j->vs[i]? =some vi->vs[j]? =some vj->vi.ownBlock=none∨vi.ownBlock≠vj.ownBlock
section
variable {α:Type} {enc:α->Value} {e eS:TypeId} {w:World} {B bp:Nat} {rows:List (List α)}
theorem OwnRows.made (n:Nat)(h:Q w bp (List.replicate n (.slice none 0 0)).toArray eS):OwnRows enc e eS w B bp (List.replicate n []):=by
 refine⟨_,h,by simp,fun k row v h1 h2=>?_,fun i j vi vj _ h1 _=>?_⟩
 ·simp only[Nm] at h1 h2
  split at h1
  ·rw[if_pos ‹_›] at h2;cases h1;cases h2;exact Jv _ _ _ _
  ·cases h1
 ·simp only[Nm] at h1
  split at h1
  ·cases h1;exact .inl rfl
  ·cases h1
theorem OwnRows.blk (h:OwnRows enc e eS w B bp rows):∃c,Q w bp c eS:=let⟨vs,h,_⟩:=h;⟨_,h⟩
theorem OwnRows.bplt (h:OwnRows enc e eS w B bp rows):bp<w.heap.size:=let⟨_,h⟩:=h.blk;lt_of_block h
theorem OwnRows.get (h:OwnRows enc e eS w B bp rows){s:Nat}{row:List α}(hs:rows[s]? =some row):
 ∃a cap,A w bp s (.slice a row.length cap)/\w.ownsRow B e 1 (.slice a row.length cap) row.length (row.map enc)/\N w bp s:=by
 obtain⟨vs,h1,h2,h3,d⟩:=h;have c:s<vs.length:=by rw[h2];exact(Jh.1 hs).1
 have hv:=Jd c;have ho:=h3 s row _ hs hv;obtain⟨a,cap,e1⟩:=zG ho;refine⟨a,cap,zA h1 (by simp[hv,e1]),by rw[<-e1];exact ho,zE h1⟩
theorem OwnRows.kept(h:OwnRows enc e eS w B bp rows){row:Option Nat}(hg:w.grownBy w' row)(hb:row≠some bp)(hr:∀k,row=some k->k<B):OwnRows enc e eS w' B bp rows:=by
 obtain⟨vs,h1,h2,h3,c⟩:=h;refine⟨vs,zL hg h1 hb,h2,fun k r v a b=>(h3 k r v a b).kept hg ?_,c⟩
 cases hk:v.ownBlock with
 |none=>exact .inl rfl
 |some g=>
  right;intro e1;have:=(h3 k r v a b).lt g hk;have:=hr g e1.symm;omega
theorem OwnRows.put(h:OwnRows enc e eS w B bp rows)(t:e≠eS){s:Nat}{row row':List α}(hs:rows[s]? =some row){a:Option Addr}{cap:Nat}(hc:A w bp s (.slice a row.length cap))
   {g H:Nat} (hg:(w.alloc o).grownBy w2 (Value.slice a row.length cap).ownBlock) (m:w2.ownsRow B e 1 (T g row'.length d) row'.length (row'.map enc))
 (hat:(Value.slice a row.length cap).ownBlock=some g∨g=H) (hH:w.heap.size<=H):
 OwnRows enc e eS (w2.setCell ⟨bp,s,none⟩ (T g row'.length d)) B bp (rows.set s row'):=by
 obtain⟨vs,h1,h2,h3,h4⟩:=h;have l:s<vs.length:=by rw[h2];exact(Jh.1 hs).1
 have hv:=Jd l;have ho:=h3 s row _ hs hv
 have a4:vs[s]=.slice a row.length cap:=by
  have y:=zA (i:=s) h1 (v:=vs[s]) Zs;rw[y] at hc;exact Nt hc
 rw[a4] at ho hv;have a5:=zC ho h1 (.inr t);have a2:=zL hg (zB h1) a5
 have x:∀(k:Nat) (v:Value),k≠s->vs[k]? =some v->v.ownBlock≠some bp/\(∀r,rows[k]? =some r->(w2.setCell ⟨bp,s,none⟩ (T g row'.length d)).ownsRow B e 1 v r.length (r.map enc))/\(v.ownBlock=none∨v.ownBlock≠some g):=by
  intro k v hk c;have a6:k<rows.length:=by rw[<-h2];exact(Jh.1 c).1
  have a0:=h3 k _ v (Jd a6) c;have hn:=zC a0 h1 (.inr t);refine⟨hn,fun r hr=>?_,?_⟩
  ·have a3:=h3 k r v hr c;have a7:=(a3.alloc o).kept hg (h4 k s v _ hk c hv);exact ownsRow_setCell_other a7 (by simpa using hn) _
  ·rcases hat with hat|hat
   ·rw[<-hat];exact h4 k s v _ hk c hv
   ·right;intro e1;have:=(a0.lt g e1).2;omega
 refine⟨vs.set s (T g row'.length d),?_,by simp[h2],fun k r v hr c=>?_,fun i j vi vj hij hi hj=>?_⟩
 ·rw[zD a2];simp
 ·by_cases hk:s=k
  ·subst hk;rw[Nn Zo] at hr;rw[Nn l] at c;cases hr;cases c;exact ownsRow_setCell_other m (zC (b:=bp) m a2 (.inr t)) _
  ·rw[Ns hk] at hr c;exact(x k v (Ne.symm hk) c).2.1 r hr
 ·by_cases u:s=i
  ·subst u;rw[Nn l] at hi;rw[Ns hij] at hj;cases hi;rcases(x j vj (Ne.symm hij) hj).2.2 with y|y
   ·right;rw[y];simp[Value.ownBlock]
   ·right;exact Ne.symm y
  ·rw[Ns u] at hi
   by_cases a1:s=j
   ·subst a1;rw[Nn l] at hj;cases hj;exact(x i vi (Ne.symm u) hi).2.2
   ·rw[Ns a1] at hj;exact h4 i j vi vj hij hi hj
theorem OwnRows.asRows(h:OwnRows enc e eS w B bp rows)(y:w.heap.size<=C):aaB enc w C (T bp rows.length rows.length) rows:=by
 obtain⟨vs,h1,h2,h3,h4⟩:=h;have hb:=lt_of_block h1;refine⟨vs,⟨_,rows.length,by rw[h2],by omega,fun k x hk=>⟨bp,0,rfl,by omega,zA h1 (by simpa using hk)⟩⟩,h2,fun k rv row hk hr=>?_⟩;have ho:=h3 k row rv hr hk;rcases ho.2 with⟨rfl,d⟩|⟨g,i,cur,rfl,hg,m,c,u,t,l⟩
 ·exact⟨none,0,by rw[d],by omega,fun j x hj=>by rw[Nz d] at hj;simp at hj⟩
 ·refine⟨_,i,rfl,c,fun j x hj=>⟨g,0,rfl,by have:=lt_of_block m;omega,?_⟩⟩;have o:=(Jh.1 hj).1;rw[Ng];exact(ho.cellAt j Zo).trans (by simp[hj])
end
theorem rY{α:Type}{enc:α->Value}{e:TypeId}{B:Nat}{v:Value}{xs:List α}(ho:w.ownsRow B e 1 v xs.length (xs.map enc))(t:w.heap.size<=C):xp enc w C v xs:=by
 rcases ho.2 with⟨rfl,d⟩|⟨g,h,cur,rfl,hg,k,c,o,m,i⟩
 ·exact⟨none,0,by rw[d],by omega,fun j x hj=>by rw[Nz d] at hj;simp at hj⟩
 ·refine⟨_,h,rfl,c,fun j x hj=>⟨g,0,rfl,by have:=lt_of_block k;omega,?_⟩⟩;have l:=(Jh.1 hj).1;rw[Ng];exact(ho.cellAt j Zo).trans (by simp[hj])
def okS (n:Nat)(s:Int):Bool:=decide (0<=s) && decide (s<(n:Int))
theorem tm {α:Type}(p:α->Bool)(l:List α)(k:Nat)(x:α)(h:l[k]? =some x)(hp:(l.take k).all p=true)(c:p x=true):(l.take (k+1)).all p=true:=by
 rw[Nh,h];simp[hp,c]
theorem vU {α:Type}(p:α->Bool)(l:List α)(k:Nat)(x:α)(h:l[k]? =some x)(c:p x=false):l.all p=false:=by
 rw[Um];exact⟨x,Ji h,by simp[c]⟩
theorem lR (w:World)(sv:Value)(g:List (List Int))(B:Nat)(hB:B<=w.heap.size)(h:aaB zN w B sv g)(hn:g.length<=2000000)(hr:∀row∈g,row.length<=2000000):
 I 93 #[.agg #[sv]] w fun e w'=>e=.returned (.bool (decide (0<g.length) && pB g))/\Y w w':=by
 obtain⟨a,a1,rfl,b4⟩:=h.form;have HR:=Ja hr;clear hr;have c:Y w (w.alloc (G #[.slice a g.length a1] 105)):=(Below.refl _ _).alloc (Je _) _;go_enter Tryz.func93,Tryz.ntmps93;go_wp2
 go_loop [10] (fun i=>∃k:Nat,k<=g.length/\i=U k/\(g.take k).all (fun l=>l.all (okS g.length))=true) (fun i=>g.length-(intOf i).toNat)
 case atStart=>exact⟨0,Jt _,rfl,by simp⟩
 case round=>
  obtain⟨k,hk,rfl,a0⟩:=hrel;have HA:=Ja a0;clear a0
  by_cases a7:k<g.length
  ·obtain⟨row,d⟩:∃row,g[k]? =some row:=⟨_,Jd a7⟩
   obtain⟨b,o,a2,a6,rfl,hb,hc,b0,hx⟩:=h.row d;have hrl:=HR.out row (Ji d);have b8:A (w.alloc (G #[.slice (some ⟨b,o,none⟩) g.length a1] 105)) b (o+k) (.slice a2 row.length a6):=(c.cell (p:=⟨b,o+k,none⟩) (show b<w.heap.size by omega)).trans hc;have m:=Ja d;clear d;have HX:=Ja hx;clear hx h hc;have b3:(k:Int)<g.length:=Zo;go_wp2
   go_loop [16] (fun i=>∃j:Nat,j<=row.length/\i=U j/\(row.take j).all (okS g.length)=true) (fun i=>row.length-(intOf i).toNat)
   case atStart=>exact⟨0,Jt _,rfl,by simp⟩
   case round=>
    obtain⟨j,hj,rfl,t⟩:=hrel;have a4:=Ja t;clear t
    by_cases a5:j<row.length
    ·obtain⟨x,u⟩:∃x,row[j]? =some x:=⟨_,Jd a5⟩
     obtain⟨b2,o2,rfl,b9,y⟩:=HX.out j x u;simp only[zN] at y;have b7:A (w.alloc (G #[.slice (some ⟨b,o,none⟩) g.length a1] 105)) b2 (o2+j) (U x):=(c.cell (p:=⟨b2,o2+j,none⟩) (show b2<w.heap.size by omega)).trans y;have a3:=Ja u;clear u y;have b1:(j:Int)<row.length:=Zo
     by_cases b6:x<0
     ·have hf:pB g=false:=vU _ g k row m.out (vU _ row j x a3.out (by simp[okS];omega));have HF:=Ja hf;clear hf;go_wp2;go_ret;exact⟨by rw[HF.out];simp,c⟩
     ·by_cases b5:x<g.length
      ·go_wp2
       go_round
       case rel=>exact⟨j+1,by omega,by go_num,tm _ row j x a3.out a4.out (by simp[okS];omega)⟩
       case measure=>simp[intOf];omega
      ·have hf:pB g=false:=vU _ g k row m.out (vU _ row j x a3.out (by simp[okS];omega));have HF:=Ja hf;clear hf;go_wp2;go_ret;exact⟨by rw[HF.out];simp,c⟩
    ·go_wp2
     go_round
     case rel=>exact⟨k+1,by omega,by go_num,tm _ g k row m.out HA.out (by have:=a4.out;rwa [Oy Zo] at this)⟩
     case measure=>simp[intOf];omega
  ·have hf:pB g=true:=by have:=HA.out;rwa [Oy Zo] at this
   have HF:=Ja hf;clear hf;go_wp2;go_ret;exact⟨by rw[HF.out];simp,c⟩
def um (stk:List (Nat×Nat)):List Value:=stk.flatMap fun p=> [zj p.1,zj p.2]
theorem vH (c:List (Nat×Nat))(u j:Nat):um (c++ [(u,j)])=um c++ [zj u,zj j]:=by simp[um]
theorem yK (c:List (Nat×Nat)):(um c).length=2*c.length:=by
 induction c with
 |nil=>rfl
 |cons p r ih=>simp only[um,Qa,Jk,Nq,Ow] at ih ⊢;omega
structure Dfs (w0 w:World) (B0 n Bv Bs Bk:Nat) (seen:List Bool) (stk:List (Nat×Nat)) (pv:Value) (post:List Nat):Prop where
 hv:w.heap[Bv]? =some (.cells #[.slice (some ⟨Bs,0,none⟩) n n] 97 (0,0))
 hs:w.heap[Bs]? =some (.cells (seen.map agc).toArray 4 (0,0))
 hl:seen.length=n
 hk:∃sv,w.heap[Bk]? =some (.cells #[sv] 149 (0,0))/\w.ownsRow (Bk+1) 151 2 sv stk.length (um stk)
 lt:B0<=Bs/\Bs<Bv/\Bv<Bk
 hp:w.ownsRow (Bk+1) 3 1 pv post.length (post.map zj)
 hb:Below B0 w0 w
theorem Dfs.drewN{n:Nat}{c:List (Nat×Nat)}{pv:Value}(h:Dfs w0 w B0 n Bv Bs Bk seen c pv post):Dfs w0 (w.drewN k) B0 n Bv Bs Bk seen c pv post:=
 ⟨h.hv,h.hs,h.hl,h.hk,h.lt,h.hp,yC h.hb⟩
theorem Dfs.push{n:Nat}{d:List (Nat×Nat)}{pv g:Value}{c:List Nat}(h:Dfs w0 w B0 n Bv Bs Bk seen d pv c)
 (hg:(w.alloc o).grownBy w2 pv.ownBlock) (j:w2.ownsRow (Bk+1) 3 1 g (c.length+1) (c.map zj++ [zj u])):Dfs w0 w2 B0 n Bv Bs Bk seen d g (c++ [u]):=by
 obtain⟨hv,hs,hl,⟨sv,hk,i⟩,l,hp,hb⟩:=h;have hB:=lt_of_block hk
 refine⟨zL hg (zB hv) (zC hp hv (.inl Zo)),zL hg (zB hs) (zC hp hs (.inl Zo)),hl,
  ⟨sv,zL hg (zB hk) (zC hp hk (.inl Zo)),(i.alloc o).kept hg (zo i hp Zd)⟩,l,?_,?_⟩
 ·simpa using j
 ·exact Below.grown (hb.alloc Zo o) hg Zt (fun k hk'=>by have:=hp.lt k hk';omega)
theorem Dfs.popStk{n:Nat}{st:List (Nat×Nat)}{pv:Value}(h:Dfs w0 w B0 n Bv Bs Bk seen (st++ [(u,j)]) pv post)
 (hc:Q w Bk #[T gk (st.length+1) cp] 149):Dfs w0 (w.setCell ⟨Bk,0,none⟩ (T gk st.length cp)) B0 n Bv Bs Bk seen st pv post:=by
 obtain⟨hv,hs,hl,⟨sv,hk,c⟩,i,hp,hb⟩:=h;obtain rfl:=agr hk hc;simp only[Jk,Nq,Ow,Ng,vH] at c;refine⟨zR hv (show Bv≠Bk by omega),zR hs (show Bs≠Bk by omega),hl,⟨_,one_setCell hk,?_⟩,i,ownsRow_setCell_other hp (zC (b:=Bk) hp hk (.inl Zo)) _,hb.setCell (show B0<=Bk by omega) _⟩;have h1:=ownsRow_setCell_other c (a:=⟨Bk,0,none⟩) (zC (b:=Bk) c hk (.inl Zo)) (T gk st.length cp);obtain⟨y,hh⟩:=h1;refine⟨by rw[yK];omega,.inr ?_⟩;rcases hh with⟨x,_⟩|⟨g',a0,cur,g,m,k,a1,t,o,d⟩
 ·cases x
 ·cases g;refine⟨gk,cp,cur,rfl,m,k,by omega,t,o,?_⟩;have:=congrArg (List.take (st.length*2)) d;rw[List.take_take,Ud Zo,List.take_append_of_le_length (by rw[yK];omega),Oy (l:=um st) (by rw[yK];omega)] at this;exact this
theorem Dfs.bump{n:Nat}{st:List (Nat×Nat)}{pv:Value}(h:Dfs w0 w B0 n Bv Bs Bk seen (st++ [(u,j)]) pv post)
 (k:Q w Bk #[T gk (st.length+1) cp] 149):Dfs w0 (w.setCell ⟨gk,st.length*2+1,none⟩ (zj (j+1))) B0 n Bv Bs Bk seen (st++ [(u,j+1)]) pv post:=by
 obtain⟨hv,hs,hl,⟨sv,hk,c⟩,i,hp,hb⟩:=h;obtain rfl:=agr hk k;simp only[Jk,Nq,Ow,Ng,vH] at c;have l:=c.lt gk rfl;have g:=zo hp c Zd;refine⟨zR hv (show Bv≠gk by omega),zR hs (show Bs≠gk by omega),hl,⟨_,zR hk (show Bk≠gk by omega),?_⟩,i,ownsRow_setCell_other hp ?_ _,hb.setCell (show B0<=gk by omega) _⟩
 ·have:=(c.stored (st.length*2+1) (zj (j+1))).1;simp only[Jk,Nq,Ow,Ng,vH] at this ⊢
  have e:(um st++ [zj u,zj j]).set (st.length*2+1) (zj (j+1))=um st++ [zj u,zj (j+1)]:=by
   rw[Uj _ _ (by rw[yK];omega),yK,show st.length*2+1-2*st.length=1 by omega];rfl
  rw[e] at this;exact this
 ·rcases g with d|d
  ·rw[d];simp
  ·exact d
theorem Tryz.info_frame:(Tryz.prog.info? 151).map (fun i=>(i.zero,i.size,i.bytes))=some (some (.agg #[U 0,U 0]),2,16):=by kernel_rfl
theorem Tryz.info_int:(Tryz.prog.info? 3).map (fun i=>(i.zero,i.size,i.bytes))=some (some (U 0),1,8):=by kernel_rfl
theorem Tryz.info_bool:(Tryz.prog.info? 4).map (fun i=>(i.zero,i.size,i.bytes))=some (some (.bool false),1,1):=by kernel_rfl
theorem oF (w0 w:World)(B0 n Bv Bs Bk:Nat)(seen:List Bool)(d:List (Nat×Nat))(pv:Value)(post:List Nat)(u:Nat)(h:Dfs w0 w B0 n Bv Bs Bk seen d pv post)(hu:u<n)(hm:d.length<=2000000):
 I 94 #[U u,F Bv,F Bk] w fun e w'=>e=.returned (.tuple #[])/\Dfs w0 w' B0 n Bv Bs Bk (seen.set u true) (d++ [(u,0)]) pv post:=by
 obtain⟨i0,hi,a5,a4,a3⟩:=info_parts Tryz.info_frame;obtain⟨hv,hs,hl,⟨sv,hk,m⟩,a7,hp,o⟩:=h;have cv:=cell_of_one hv;obtain⟨b0,a1⟩:∃b0,seen[u]? =some b0:=⟨_,Jd Zo⟩
 have cs:A w Bs u (.bool b0):=zA hs (by simp[a1,agc]);have fs:N w Bs u:=zE hs;have HV:Hid ((w.setCell ⟨Bs,u,none⟩ (.bool true)).heap[Bv]? =_):=zR hv (show Bv≠Bs by omega);have l:(w.setCell ⟨Bs,u,none⟩ (.bool true)).heap[Bk]? =_:=zR hk (show Bk≠Bs by omega);have HS:Hid ((w.setCell ⟨Bs,u,none⟩ (.bool true)).heap[Bs]? =_):=zD hs (.bool true);have b9:=cell_of_one l;have own1:(w.setCell ⟨Bs,u,none⟩ (.bool true)).ownsRow (Bk+1) 151 2 sv d.length (um d):=ownsRow_setCell_other m (zC (b:=Bs) m hs (.inl Zo)) _;have a0:(w.setCell ⟨Bs,u,none⟩ (.bool true)).ownsRow (Bk+1) 3 1 pv post.length (post.map zj):=ownsRow_setCell_other hp (zC (b:=Bs) hp hs (.inl Zo)) _;have HB:Hid (Bk+1<=(w.setCell ⟨Bs,u,none⟩ (.bool true)).heap.size):=lt_of_block l;have a2:=Ja (o.setCell (p:=⟨Bs,u,none⟩) (show B0<=Bs by omega) (.bool true));have HK:=Ja l;have HP:=Ja a0;clear hs hv a1 hk l hp a0 o;go_enter Tryz.func94,Tryz.ntmps94;go_wp2_with (at_builtin;go_must (refine wpList_append_lies _ rfl (.tmp 7) (.tmp 10) 149 rfl (Bk+1) 151 i0 _ 2 16 Tryz.underlying149 hi a5 a4 a3 rfl Zd sv d.length (um d) rfl (own1.alloc _) ⟨w.heap.size,0,none⟩ 1 1 [U u,U 0] rfl rfl (Oi (cs:=#[U u,U 0]) (zI Zs)) (by simp[Value.oneCell']) Zd (by unfold maxLen;omega) Zo (by have:=HB.out;simp at this ⊢;omega) _ rfl ?_;intro g b2 w1 i c b6 b5;have j:=zL c (zB HK.out) (zC own1 HK.out (.inl Zo));have b8:=cell_of_one j;have b7:=free_of_one j;have t:=Ja j;have b3:=Ja (zL c (zB HV.out) (zC own1 HV.out (.inl Zo)));have b4:=Ja (zL c (zB HS.out) (zC own1 HS.out (.inl Zo)));clear j))
 go_end0
 have a6:=zo HP.out own1 Zd;have y:=(HP.out.alloc (G #[U u,U 0] 151)).kept c a6;have b1:=HB.out;refine⟨rfl,⟨?_,?_,by simp[hl],⟨_,one_setCell t.out,?_⟩,a7,?_,?_⟩⟩
 ·exact zR b3.out (show Bv≠Bk by omega)
 ·rw[zR b4.out (show Bs≠Bk by omega)];refine congrArg some (congrArg (fun x=>Obj.cells x _ _) ?_);simp[Ox,agc]
 ·have:=ownsRow_setCell_other i (a:=⟨Bk,0,none⟩) (zC (b:=Bk) i t.out (.inl Zo)) (T g (d.length+1) b2);rw[vH,Jk];exact this
 ·exact ownsRow_setCell_other y (zC (b:=Bk) y t.out (.inl Zo)) _
 ·refine Below.setCell (Below.grown (a2.out.alloc Zo _) c (by simp at b1 ⊢;omega) ?_) (show B0<=Bk by omega) _;intro k hk;have:=own1.lt k hk;omega
def qT (xs ys:List Nat)(k:Nat):Prop:=ys.length=xs.length/\∀m,m<xs.length->ys[m]? =if m<k∨xs.length<=m+k then xs[xs.length-1-m]? else xs[m]?
theorem qT.start (xs:List Nat):qT xs xs 0:=⟨rfl,fun m hm=>by rw[if_neg Zo]⟩
theorem qT.step {xs ys:List Nat}{k j x y:Nat}(h:qT xs ys k)(t:k+j+1=xs.length)(o:k<j)(l:ys[k]? =some x)(i:ys[j]? =some y):qT xs ((ys.set k y).set j x) (k+1):=by
 obtain⟨h1,h2⟩:=h;refine⟨by simp[h1],fun m hm=>?_⟩;have e1:=h2 k Zo;have e2:=h2 j Zo;rw[if_neg Zo] at e1 e2;rw[Ov]
 by_cases d:j=m
 ·subst d;rw[if_pos rfl,if_pos (by simp[h1];omega),if_pos Zo,show xs.length-1-j=k by omega,<-e1,l]
 ·rw[if_neg d,Ov]
  by_cases c:k=m
  ·subst c;rw[if_pos rfl,if_pos Zo,if_pos Zo,show xs.length-1-k=j by omega,<-e2,i]
  ·rw[if_neg c,h2 m hm]
   by_cases g:m<k∨xs.length<=m+k
   ·rw[if_pos g,if_pos Zo]
   ·rw[if_neg g,if_neg Zo]
theorem qT.done{xs ys:List Nat}(h:qT xs ys k)(hk:xs.length<=2*k+1):ys=xs.reverse:=by
 obtain⟨h1,h2⟩:=h;apply Oq;intro m
 by_cases hm:m<xs.length
 ·rw[h2 m hm,List.getElem?_reverse hm]
  by_cases c:m<k∨xs.length<=m+k
  ·rw[if_pos c]
  ·rw[if_neg c];congr 1;omega
 ·rw[Of Zo,Of Zt]
theorem mK (w:World)(base:Nat)(v:Value)(xs:List Nat)(c:w.ownsRow base 3 1 v xs.length (xs.map zj))(hn:xs.length<=4000000):
 I 95 #[v] w fun e w'=>e=.returned (.tuple #[])/\w'.ownsRow base 3 1 v xs.length (xs.reverse.map zj)/\w.grownBy w' v.ownBlock:=by
 rcases c.2 with⟨rfl,h0⟩|⟨g,t,cur,rfl,hg,hh,_⟩
 ·have h:xs=[]:=Nz h0;subst h;go_enter Tryz.func95,Tryz.ntmps95;go_wp2;refine wp_loop_rounds 1 ?_;rw[rounds_succ];go_wp2
  go_end0
  exact⟨rfl,by simpa using c,⟨rfl,rfl,rfl,Je _,fun _ _ _=>rfl⟩⟩
 ·clear hh hg;have HO:=Ja c;clear c;go_enter Tryz.func95,Tryz.ntmps95;go_wp2
  go_loopw [2,3] (fun i j wr=>∃(k:Nat) (jj:Int),i=U k/\j=U jj/\Hid ((k:Int)+jj+1=xs.length)/\(k:Int)<=xs.length/\-1<=jj+k/\jj<=xs.length/\∃ys,Hid (qT xs ys k/\wr.ownsRow base 3 1 (T g xs.length t) xs.length (ys.map zj)/\w.grownBy wr (some g))) (fun i _ _=>xs.length-(intOf i).toNat)
  case atStart=>exact⟨0,(xs.length:Int)-1,rfl,rfl,by unfold Hid;omega,by omega,by omega,by omega,xs,qT.start xs,HO.out,⟨rfl,rfl,rfl,Je _,fun _ _ _=>rfl⟩⟩
  case round=>
   obtain⟨k,jj,rfl,rfl,o,hk,a3,a2,ys,d⟩:=hrel
   by_cases a1:(k:Int)<jj
   ·obtain⟨j,rfl⟩:∃j:Nat,jj=j:=⟨jj.toNat,by omega⟩
    have m:=d.out.1.1;have hj:=o.out;obtain⟨x,h⟩:∃x,ys[k]? =some x:=⟨_,Jd Zo⟩
    obtain⟨y,l⟩:∃y,ys[j]? =some y:=⟨_,Jd Zo⟩
    have hr:=d.out.2.1;have g1:A wr g k (U x):=(hr.cellAt k Zo).trans (by simp[h,zj]);have g2:A wr g j (U y):=(hr.cellAt j Zo).trans (by simp[l,zj]);have f1:N wr g k:=hr.frozenAt k;have f2:N wr g j:=hr.frozenAt j;have a0:¬k=j:=Zo;have i1:(k:Int)<xs.length:=Zo;have i2:(j:Int)<xs.length:=Zo;have u:=Ja (Jb h l);clear m hj h l hr;go_wp2
    go_region
    go_wp2;go_roundw
    case rel=>
     obtain⟨h,l⟩:=u.out;have m:=d.out.1.1;have s1:=d.out.2.1.stored k (zj y);have s2:=s1.1.stored j (zj x);refine⟨k+1,(j:Int)-1,by go_num,rfl,by have:=o.out;unfold Hid;omega,by omega,by omega,by omega,(ys.set k y).set j x,qT.step d.out.1 (by have:=o.out;omega) Zo h l,?_,?_⟩
     ·have:=s2.1;rw[<-Ox,<-Ox] at this;exact this
     ·exact nJ ((d.out.2.2.trans s1.2).trans s2.2)
    case measure=>simp[intOf];omega
   ·go_wp2
    go_end0
    have hd:=d.out.1.done (by have:=o.out;omega);subst hd;exact⟨rfl,by rw[<-List.map_reverse];exact d.out.2.1,d.out.2.2⟩
open Go.RowKit Go.Lib
theorem Tryz.info_u8:(Tryz.prog.info? 5).map (fun i=>(i.zero,i.size,i.bytes))=some (some (.int .u8 0),1,1):=by kernel_rfl
theorem tQ {P:Program}(w:World)(dT sT ty c:TypeId)(g dLen k:Nat)(s:ByteArray)(cur:Array Value)(t:TypeId)
 (m:P.underlying dT=some (.slice c)) (hs:(P.info? c).map (·.size)=some 1) (hg:Q w g cur t) (o:dLen<=cur.size):
 (Builtin.copy_ #[dT,sT] ty #[.slice (some ⟨g,0,none⟩) dLen k,.string s]).run P w=
  .ok (goInt (Nat.min s.size dLen)) (w.setRow g (byteCells (s.data.toList.take (Nat.min s.size dLen))++cur.toList.drop (Nat.min s.size dLen)).toArray):=by
 obtain⟨n,j⟩:∃n,Nat.min s.size dLen=n:=⟨_,rfl⟩
 have u:n<=s.size:=by rw[<-j];exact Nat.min_le_left _ _
 have hnd:n<=dLen:=by rw[<-j];exact Nat.min_le_right _ _
 have h:(byteCells (s.data.toList.take n)).length=n:=by rw[byteCells_length,Oc,<-Lib.size_eq];omega
 have d:=run_storeCells_at P g 0 t (byteCells (s.data.toList.take n)) 0 cur w hg (by rw[h];omega) (byteCells_one _)
 have l:List.take n (List.map (fun b:UInt8=>Value.int IntKind.u8 (b.toNat:Int)) s.data.toList)=byteCells (s.data.toList.take n):=by
  rw[<-List.map_take];rfl
 rw[h] at d;simp only[Uk] at d;rw[j]
 cases hq:P.info? c with
 |none=>simp[hq] at hs
 |some i=>
  simp[Builtin.copy_,run_underlying m,Builtin.lenOf,Builtin.firstCells,sizeOf,typeInfo,hq,j];rw[l,d];simp[Result.andThen]
theorem ram_init (s:ByteArray):byteCells (s.data.toList.take (Nat.min s.size 8192))++(List.replicate 8192 (Value.int .u8 0)).drop (Nat.min s.size 8192)=(v7 s).map bd:=by
 apply Oq;intro k;have i:s.data.toList.length=s.size:=(Lib.size_eq s).symm;have hl:(byteCells (s.data.toList.take (Nat.min s.size 8192))).length=Nat.min s.size 8192:=by rw[byteCells_length,Oc,i];exact Ud (Nat.min_le_left _ _)
 unfold v7;rw[List.map_map,Jr];obtain⟨n,c⟩:∃n,Nat.min s.size 8192=n:=⟨_,rfl⟩
 have o:n<=s.size:=by rw[<-c];exact Nat.min_le_left _ _
 have m:n<=8192:=by rw[<-c];exact Nat.min_le_right _ _
 have l:n=s.size∨n=8192:=by rcases Nat.le_total s.size 8192 with h|h;exact .inl (by rw[<-c];exact Ud h);exact .inr (by rw[<-c];exact Nat.min_eq_right h)
 rw[c] at hl ⊢
 by_cases h1:k<n
 ·rw[Np Zo,Oh Zo];unfold byteCells;rw[Jr,Ug,if_pos h1];have d:k<s.data.toList.length:=Zo;rw[Jd d];have g:k<s.data.size:=by simpa using d
  simp[bd,Array.getD_eq_getD_getElem?,Array.getElem?_eq_getElem g]
 ·rw[Nc Zo,hl,List.getElem?_drop,show n+(k-n)=k by omega,Nm]
  by_cases h2:k<8192
  ·rw[if_pos h2,Oh h2];have j:¬k<s.data.size:=by have:s.data.size=s.size:=rfl;omega
   simp[bd,Array.getD_eq_getD_getElem?,Array.getElem?_eq_none (Nat.le_of_not_lt j)]
  ·rw[if_neg h2,Of (by simpa using h2)];rfl
def EvR (w:World)(B b q:Nat)(x:Nat×Nat):Prop:=A w b q (O (x.1:Int))/\A w b (q+1) (O (x.2:Int))/\x.1<65536/\x.2<65536
theorem vo:vV EvR:=⟨fun w w' B b q x hB hb h=>⟨zV hb hB h.1,zV hb hB h.2.1,h.2.2⟩,fun w B B' b q x _ h=>h⟩
abbrev vM:=yN 2 EvR
def runVal (R:IRun)(ov:Value):Value:=.agg (yV R.value ov R.kind R.info (y9 R.ram) R.inputs R.polls)
def abr (w:World)(R:IRun)(e:Ending)(w':World):Prop:=∃ov,e=.returned (runVal R ov)/\vM w' w'.heap.size ov R.out/\Y w w'
def sZ (V:PV)(p:IProg):Value:=.agg #[V.fv,V.av,U p.entry,U p.handler,V.dv,V.bv]
theorem iG (s:ByteArray):(v7 s).length=8192:=by simp[v7]
theorem bY (s:ByteArray):∀x∈v7 s,x<256:=by
 intro x c;unfold v7 at c;obtain⟨k,_,rfl⟩:=Nu.1 c;exact UInt8.toNat_lt _
theorem tM (w:World)(b k:Nat)(cs:Array Value)(h:k≠b):(w.setRow b cs).heap[k]? =w.heap[k]?:=by
 unfold World.setRow;simp only[Array.getElem?_modify];rw[if_neg (fun e=>h e.symm)]
theorem py{B:Nat}(h:Below B w w'){b:Nat}(hb:B<=b)(cs:Array Value):Below B w (w'.setRow b cs):=
 h.trans ⟨rfl,rfl,rfl,by unfold World.setRow;simp,fun k hk=>tM _ _ _ _ Zo⟩
theorem nZ{b:Nat}{cs c:Array Value}{t:TypeId}(h:Q w b cs t):Q (w.setRow b c) b c t:=setRow_heap w b cs c t (0,0) h
theorem ss{b:Nat}{d:Array Value}(h:w.heap[b']? =some o)(c:b'≠b):(w.setRow b d).heap[b']? =some o:=(tM _ _ _ _ c).trans h
theorem three (W:World)(A B C:Obj):(((W.alloc A).alloc B).alloc C).drew.heap[W.heap.size]? =some A/\(((W.alloc A).alloc B).alloc C).drew.heap[W.heap.size+1]? =some B/\(((W.alloc A).alloc B).alloc C).drew.heap[W.heap.size+1+1]? =some C/\Y W (((W.alloc A).alloc B).alloc C).drew:=
 ⟨zB (zB (zI rfl)),zB (zI Zs),zI Zs,((((Below.refl _ _).alloc (Je _) _).alloc Zs _).alloc (by simp<;>omega) _).drew⟩
theorem oG:∀ {l:List (Nat×Nat)} {k:Nat} {p:Nat×Nat},l[k]? =some p->(qO l)[k*2]? =some (vL p.1)/\(qO l)[k*2+1]? =some (vL p.2)
 | [],k,p,h=>by simp at h
 |a::l,0,p,h=>by simp at h;subst h;exact⟨rfl,rfl⟩
 |a::l,k+1,p,h=>by
  have:=oG (l:=l) (k:=k) (by simpa using h);rw[show(k+1)*2=k*2+1+1 by omega];exact this
theorem kP{S:Nat}{ov:Value}{l:List (Nat×Nat)}(h:w.ownsRow S 117 2 ov l.length (qO l))(i:∀p∈l,p.1<65536/\p.2<65536):vM w w.heap.size ov l:=by
 obtain⟨a,c,rfl⟩:=zG h;have hl:=zm h;refine⟨a,c,rfl,hl.1,by omega,fun k x hk=>?_⟩;have j:=(Jh.1 hk).1;obtain⟨g,m,e,hg,hb⟩:=h.form Zo;cases e;obtain⟨h1,h2⟩:=oG hk;have d:=i x (Ji hk);refine⟨g,0,rfl,hb,?_,?_,d.1,d.2⟩
 ·rw[Ng];exact(h.cellAt (k*2) Zo).trans h1
 ·rw[Ng];exact(h.cellAt (k*2+1) Zo).trans h2
theorem ku{w4 w5:World}{ov:Value}{b:Nat}{r0:Array Value}(c:MachAt w4 K m ov)(d:Q w4 b r0 57)(hb:w.heap.size<=b)(zb:Y w w4)(hg:w4.grownBy w5 (some b)):vM w5 w5.heap.size ov m.out/\Y w w5:=by
 have g:=zC c.out d (.inr Zd);exact⟨kP (c.out.kept hg (.inr g)) c.olt,zb.grown hg zb.size (fun k hk=>by simp at hk;omega)⟩
theorem mk_ram (W:World):(Instr.makeSlice 49 (U 8192) (U 8192)).run Tryz.prog W=.ok (T W.heap.size 8192 8192) (W.alloc (G (madeCells #[.int .u8 0] 8192) 5)):=
 run_make_row' (P:=Tryz.prog) 49 5 (.int .u8 0) 1 Tryz.underlying49 Tryz.info_u8 rfl .i64 .i64 8192 Zd Zd W
open Go.RowKit Go.Maps
theorem pk:Keyed Tryz.prog 3:=int_keyed Tryz.underlying3
theorem wf64(h:-9223372036854775808<=x/\x<=9223372036854775807):(Lit.int .i64 x).wf=true:=by simp[Lit.wf,IntKind.min,IntKind.max,IntKind.signed,IntKind.bits];omega
theorem jp(h:-9223372036854775808<=x/\x<=9223372036854775807):keyOf Tryz.prog 3 (.int .i64 x)=some (.int .i64 x):=keyOf_int_mk Tryz.underlying3 (wf64 h)
theorem zeroInt (w:World):(zeroValue 3).run Tryz.prog w=.ok (U 0) w:=by kernel_rfl
def ud (w:World)(b n:Nat)(f:Int->Int):Prop:=
 ∃D:DataW Unit,w.ownsMap Tryz.prog 3 (plainElem Tryz.prog 3) b n D/\∀x,(Lit.int .i64 x).wf=true->D.atKey (.int .i64 x) (.lit (.int .i64 0))=.lit (.int .i64 (f x))
theorem ud.lt{b n:Nat}{f:Int->Int}(h:ud w b n f):b<w.heap.size:=let⟨_,h,_⟩:=h;h.lt
theorem ud.same{b n:Nat}{f:Int->Int}(h:ud w b n f)(hb:w'.heap[b]? =w.heap[b]?):ud w' b n f:=by
 obtain⟨D,⟨es,c,h1,h2⟩,h3⟩:=h;exact⟨D,⟨es,c,hb.trans h1,h2⟩,h3⟩
theorem ud.ne{b n:Nat}{f:Int->Int}(h:ud w b n f){c:Array Value}{t:TypeId}{z:Nat×Nat}(hb:w.heap[b']? =some (.cells c t z)):b≠b':=by
 obtain⟨D,⟨es,d,h1,h2⟩,h3⟩:=h;rintro rfl;rw[h1] at hb;simp at hb
theorem ud.look{b n:Nat}{f:Int->Int}(h:ud w b n f)(i:-9223372036854775808<=x/\x<=9223372036854775807):
 (Instr.lookup 171 (.map (some b)) (.int .i64 x) false).run Tryz.prog w=.ok (.int .i64 (f x)) w/\(Lit.int .i64 (f x)).wf=true:=by
 obtain⟨D,h,hf⟩:=h;obtain⟨c,g,d,j⟩:=h.lookup_int pk Tryz.underlying171 Tryz.underlying3 (zeroInt w) (jp i);rw[hf x (wf64 i)] at d;simp only[DataW.lit.injEq,Lit.int.injEq,true_and] at d;subst d;exact⟨g,j⟩
theorem rW{ops:Array Oper}{rest:List Oper}{o:Oper}{a:Act}{Q:Exit->Act->World->Prop}(hg:o.guard=none)(m x v:Operand)
 (j:o.op=.mapUpdate 171 m x v) {b n:Nat} {f:Int->Int} (h:ud w b n f) (u:n<9000000000000000000) (kx vv:Int) (hm:a.eval m=.map (some b)) (l:a.eval x=.int .i64 kx) (hv:a.eval v=.int .i64 vv)
 (d:-9223372036854775808<=kx/\kx<=9223372036854775807) (i:-9223372036854775808<=vv/\vv<=9223372036854775807)
 (t:∀w',ud w' b (n+1) (fun y=>if y=kx then vv else f y)->w.grownBy w' (some b)->wpList Tryz.prog ops Q rest (a.put o.dst undef) w'):wpList Tryz.prog ops Q (o::rest) a w:=by
 obtain⟨D,h,hf⟩:=h;refine wpList_mapUpdate_own (H:=Unit) w hg m x v 171 j 3 3 pk Tryz.underlying171 _ b n D hm h (by unfold maxLen;omega) _ _ _ l hv (jp d) _ [] (plainElem_int Tryz.underlying3 (wf64 i)) ?_;intro w1 g c;refine t w1 ⟨_,g,fun y hy=>?_⟩ c;have k:WideAt.IsKeyLit (.int .i64 kx):=pk.key (jp d)
 by_cases e:y=kx
 ·subst e;simp only[if_true];exact Maps.atKey_put_same h.isMap k _ _
 ·simp only[if_neg e];rw[Maps.atKey_put_other (by simpa using e)];exact hf y hy
end Go.Proofs.YtoahcpkibpomcaaGreat
namespace Go.Proofs
open Go.Shelf
def Tryz.lays212_ren:Go.Shelf.Ren:=⟨fun|212=>151|263=>157|264=>158|n=>n,fun|46=>92|51=>50|146=>220|53=>181|148=>222|n=>n,fun|n=>n⟩
theorem Tryz.lays212:Go.Proofs.Lays.n212 Tryz.prog Tryz.lays212_ren:= {
 mixed:=by kernel_rfl
 f212:=Tryz.func151.trans (congrArg some (by kernel_rfl))
 f263:=Tryz.func157.trans (congrArg some (by kernel_rfl))
 f264:=Tryz.func158.trans (congrArg some (by kernel_rfl))
 t46:=Tryz.underlying92
 a46:=Tryz.isAgg92
 z46:=Tryz.sizeOf92
 v46:=Tryz.zeroValue92
 t51:=Tryz.underlying50
 a51:=Tryz.isAgg50
 z51:=Tryz.sizeOf50
 v51:=Tryz.zeroValue50
 t53:=Tryz.underlying181
 a53:=Tryz.isAgg181
 z53:=Tryz.sizeOf181
 v53:=Tryz.zeroValue181
 t146:=Tryz.underlying220
 a146:=Tryz.isAgg220
 z146:=Tryz.sizeOf220
 v146:=Tryz.zeroValue220
 t148:=Tryz.underlying222
 a148:=Tryz.isAgg222
 z148:=Tryz.sizeOf222
 v148:=Tryz.zeroValue222 }
open Go.RowKit Go.Lib in
theorem Tryz.bits_Mul (x y:Nat)(d:x<18446744073709551616)(c:y<18446744073709551616)(w:World):
 Calls Tryz.prog 151 #[.int .u64 x,.int .u64 y] w fun e w'=>e=.returned (.tuple #[.int .u64 ((x*y/18446744073709551616:Nat):Int),.int .u64 ((x*y%18446744073709551616:Nat):Int)])/\w'=w:=Any.bits_Mul Tryz.lays212 x y d c w
end Go.Proofs
namespace Go.Proofs.YtoahcpkibpomcaaGreat
variable {W W' w w' w0 w1 w2:World}{B' B0 Bk Bs Bv C b' b12 b13 base' bt c cp d gk i j k u:Nat}{m:Mach}{o:Obj}{xs:List Value}{v':Value}{l:List IBlk}{seen:List Bool}{post:List Nat}{x:Int}{K:MK}
structure ME where
 s:List Int
 args:List Int
 handler:Int
 me:Nat
 nf:Nat
structure MS where
 pos:Nat
 f:List IBlk
 cur:Nat
 next:Nat
 vals:List Int
 left:Int
def tkV (E:ME)(M:MS)(n:Nat):Nat:=(E.s.getD M.pos 0%(n:Int)).toNat
def MS.tick (M:MS):MS:= {M with pos:=M.pos+1 }
def wJ (next params:Nat):IBlk:=⟨(List.range params).map fun k=>((next+k:Nat):Int),[],⟨0,0,[]⟩⟩
def MS.block (M:MS)(params:Nat):MS:= {M with f:=M.f++ [wJ M.next params],next:=M.next+params }
def uc (c:Int):Bool:=(zi c).res||decide (c=26)
def wD {α:Type}(l:List α)(i:Nat)(g:α->α):List α:=match l[i]? with|some x=>l.set i (g x)|none=>l
def eg (M:MS)(o:IOp):IOp:= {o with res:=if uc o.code then(M.next:Int) else -1 }
def MS.emit (M:MS)(o:IOp):MS:=
 {M with f:=wD M.f M.cur fun b=> {b with ops:=b.ops++ [eg M o]},next:=if uc o.code then M.next+1 else M.next,vals:=if uc o.code then M.vals++ [(M.next:Int)] else M.vals }
def MS.endB (M:MS)(t:ITerm):MS:= {M with f:=wD M.f M.cur fun b=> {b with term:=t }}
def conOp (n:Nat):IOp:=⟨1,0,0,0,n,[]⟩
def MS.num (M:MS)(n:Nat):MS:=M.emit (conOp n)
def zJ (E:ME)(M:MS):Int×MS:=
 if M.vals.length=0 then((M.next:Int),M.tick.num (tkV E M 9))
 else if 0<tkV E M.tick 3 then(M.vals.getD (M.vals.length-1-tkV E M.tick.tick (min 4 M.vals.length)) 0,M.tick.tick.tick)
 else(M.vals.getD (tkV E M M.vals.length) 0,M.tick.tick)
def sE (k:Nat):Nat:=if k=0 then 15 else 6
def yJ (E:ME)(M:MS):Int×MS:=
 if tkV E M 24=23 then zJ E M.tick
 else((M.next:Int),M.tick.tick.tick.emit ⟨2,0,(tkV E M.tick 2:Nat),0,tkV E M.tick.tick (sE (tkV E M.tick 2)),[]⟩)
def yI (E:ME):Nat->MS->List Int×MS
 |0,M=>([],M)
 |n+1,M=>((yI E n M).1++ [(zJ E (yI E n M).2).1],(zJ E (yI E n M).2).2)
def vN (E:ME)(M:MS):MS:=
 if E.nf<=E.me+1 then M
 else
  let f:=E.me+1+tkV E M (E.nf-E.me-1)
  if(f:Int)=E.handler then M.tick
  else(yI E (E.args.getD f 0).toNat M.tick).2.emit ⟨26,0,(f:Nat),0,0,(yI E (E.args.getD f 0).toNat M.tick).1⟩
def yR (E:ME)(M:MS):MS:=
 let a:=zJ E M
 let b:=zJ E a.2
 let c:Nat:=5+tkV E b.2 13
 let M3:=b.2.tick
 if c=8 then
  (if 0<tkV E M3 8 then
    ((M3.tick.num 1).emit ⟨10,0,b.1,(M3.next:Nat),0,[]⟩).emit ⟨8,0,a.1,((M3.next+1:Nat):Int),0,[]⟩
  else M3.tick.emit ⟨8,0,a.1,b.1,0,[]⟩)
 else M3.emit ⟨(c:Nat),0,a.1,b.1,0,[]⟩
def xK (E:ME)(M0:MS):MS:=
 let k:=tkV E M0 14
 let M:=M0.tick
 if k=0 then M.tick.num (tkV E M 65536)
 else if k=1 then(zJ E M.tick).2.emit ⟨3+tkV E M 2,0,(zJ E M.tick).1,0,0,[]⟩
 else if k=2∨k=3 then(yJ E M).2.tick.emit ⟨18+tkV E (yJ E M).2 2,0,(yJ E M).1,0,0,[]⟩
 else if k=4∨k=5 then
  let b:=zJ E (yJ E M).2
  b.2.tick.emit ⟨20+tkV E b.2 2,0,(yJ E M).1,b.1,0,[]⟩
 else if k=6 then M.tick.emit ⟨24,0,0,0,1+tkV E M 3,[]⟩
 else if k=7 then(zJ E M).2.tick.emit ⟨25,0,(zJ E M).1,0,1+tkV E (zJ E M).2 3,[]⟩
 else if k=8 then(M.tick.num (tkV E M 4096)).tick.emit ⟨22+tkV E (M.tick.num (tkV E M 4096)) 2,0,(M.next:Nat),0,0,[]⟩
 else if k=9 then vN E M
 else if k=10 then(if tkV E M 3=0 then M.tick.emit ⟨27,0,0,0,0,[]⟩ else M.tick)
 else yR E M
def qY (E:ME):Nat->MS->MS
 |0,M=>M
 |n+1,M=>qY E n (xK E M)
def xE:Nat->MS->MS
 |0,M=>M
 |n+1,M=>(xE n M).block 0
def uV (E:ME)(part:MS->MS)(tg:Nat)(join keep:Nat):Nat->Nat->MS->MS
 |0,_,M=>M
 |n+1,k,M0=>
  let M1:=part {M0 with cur:=tg+k }
  let v:=zJ E M1.tick
  let M3:=if tkV E M1 12=11/\0<k then v.2.endB ⟨4,v.1,[]⟩ else v.2.endB ⟨1,0,[⟨(join:Nat),[v.1]⟩]⟩
  uV E part tg join keep n (k+1) {M3 with vals:=M3.vals.take keep }
def xk (tg n:Nat):List IEdge:=(List.range n).map fun k=>⟨((tg+k:Nat):Int),[]⟩
def xi (E:ME)(part:MS->MS)(n:Nat)(M:MS):MS:=
 let c:=zJ E M
 let tg:=c.2.f.length
 let M2:=(xE n c.2).block 1
 let join:=tg+n
 let M3:=M2.endB ⟨if 2<n then 3 else 2,c.1,xk tg n⟩
 let M4:=uV E part tg join M3.vals.length n 0 M3
 {M4 with cur:=join,vals:=M4.vals++ [(((M4.f.getD join ⟨[],[],⟨0,0,[]⟩⟩).params).getD 0 0)]}
def tH (E:ME)(part:MS->MS)(M:MS):MS:=
 let n:=(M.next:Int)
 let x:=zJ E (M.tick.num (tkV E M 5))
 let head:=x.2.f.length
 let i:Int:=(x.2.next:Nat)
 let j:Int:=((x.2.next+1:Nat):Int)
 let M2:=(((x.2.block 2).block 0).block 0).endB ⟨1,0,[⟨(head:Nat),[n,x.1]⟩]⟩
 let M3:=({M2 with cur:=head,vals:=M2.vals++ [j]}:MS).endB ⟨2,i,[⟨((head+1:Nat):Int),[]⟩,⟨((head+2:Nat):Int),[]⟩]⟩
 let M4:=part {M3 with cur:=head+1 }
 let M5:=(M4.num 1).emit ⟨6,0,i,(M4.next:Nat),0,[]⟩
 let y:=zJ E M5
 let M6:=y.2.endB ⟨1,0,[⟨(head:Nat),[((M4.next+1:Nat):Int),y.1]⟩]⟩
 {M6 with vals:=M6.vals.take M3.vals.length,cur:=head+2 }
def tR (E:ME)(M:MS):MS:=
 let M1:=qY E (tkV E M 5+1) M.tick
 {M1 with left:=M1.left-1 }
def zp (E:ME):Nat->MS->MS
 |0,M=>tR E M
 |d+1,M=>
  let M2:=tR E M
  if M2.left<1 then M2
  else
   let k:=tkV E M2 5
   if k=1∨k=2 then xi E (zp E d) 2 M2.tick
   else if k=3 then tH E (zp E d) M2.tick
   else if k=4 then xi E (zp E d) (2+tkV E M2.tick 3) M2.tick.tick
   else M2.tick
def xD (E:ME)(pos:Nat):MS:=
 let M0:MS:=⟨pos,[],0,0,[],6⟩
 let M1:MS:=({M0.tick with next:=tkV E M0 3*10 }:MS).block (E.args.getD E.me 0).toNat
 {M1 with vals:=(wJ (tkV E M0 3*10) (E.args.getD E.me 0).toNat).params }
def xR (E:ME)(pos:Nat):MS:=
 let M1:=zp E 1 (zp E 2 (xD E pos))
 let k:=tkV E M1 10
 if k=0 then M1.tick.endB ⟨5,0,[]⟩
 else if k=1 then M1.tick.endB ⟨4,-1,[]⟩
 else(zJ E M1.tick).2.endB ⟨4,(zJ E M1.tick).1,[]⟩
def tk0 (s:List Int)(pos n:Nat):Nat:=(s.getD pos 0%(n:Int)).toNat
def mdN (s:List Int):Nat:=1+tk0 s 0 4
def yS (s:List Int):Nat->List Int
 |0=> []
 |n+1=>yS s n++ [if n=0 then 0 else((tk0 s n 4:Nat):Int)]
def oJ (s:List Int):Bool:=decide (1<mdN s) && decide ((yS s (mdN s)).getD (mdN s-1) 0=0)
def vw (s:List Int):Int:=if oJ s=true/\tk0 s (mdN s) 2=0 then((mdN s-1:Nat):Int) else -1
def sP (s:List Int):Nat:=if oJ s then mdN s+1 else mdN s
def xC (s:List Int)(k:Nat):ME:=⟨s,yS s (mdN s),vw s,k,mdN s⟩
def zg (s:List Int):Nat->List (List IBlk)×Nat
 |0=>([],sP s)
 |n+1=>((zg s n).1++ [(xR (xC s n) (zg s n).2).f],(xR (xC s n) (zg s n).2).pos)
def qV (s:List Int):Bool:=decide (2<mdN s) && (decide (vw s<0) && decide (tk0 s (zg s (mdN s)).2 12=11))
def sG:ByteArray:=⟨((List.range 4096).map fun k=>UInt8.ofNat (k*k+k/256)).toArray⟩
def am:List IObj:=[⟨-1,16384,16⟩,⟨-1,16640,7⟩,⟨0,128,32⟩]
def uR (s:List Int):IProg:=
 ⟨if qV s then(zg s (mdN s)).1.set (mdN s-1) [] else(zg s (mdN s)).1,yS s (mdN s),0,vw s,am,[sG]⟩
def opsN (l:List IBlk):Nat:=(l.map fun b=>b.ops.length).sum
def MS.sz (M:MS):Nat:=M.pos+M.next+M.f.length+M.vals.length+opsN M.f
variable {M M1 M2:MS}
theorem xZ {α:Type}(l:List α)(i:Nat)(g:α->α):(wD l i g).length=l.length:=by unfold wD;split<;>simp
theorem xI{α:Type}{l:List α}{x:α}(h:l[i]? =some x)(g:α->α):wD l i g=l.set i (g x):=by unfold wD;rw[h]
def xU (l m:List IBlk):Prop:=∀(i:Nat) (b:IBlk),l[i]? =some b->∃b',m[i]? =some b'/\b'.params=b.params
theorem xU.refl (l:List IBlk):xU l l:=fun _ b h=>⟨b,h,rfl⟩
theorem xU.trans{m n:List IBlk}(h:xU l m)(k:xU m n):xU l n:=fun i b hb=>by
 obtain⟨b1,h1,h2⟩:=h i b hb;obtain⟨b2,h3,c⟩:=k i b1 h1;exact⟨b2,h3,c.trans h2⟩
theorem qB (l:List IBlk)(c:Nat)(g:IBlk->IBlk)(hg:∀b,(g b).params=b.params):xU l (wD l c g):=fun i b hb=>by
 cases h:l[c]? with
 |none=>unfold wD;rw[h];exact⟨b,hb,rfl⟩
 |some x=>
  rw[xI h,Ov]
  by_cases e:c=i
  ·subst e;rw[h] at hb;cases hb;rw[if_pos rfl,if_pos (Jh.1 h).1];exact⟨_,rfl,hg b⟩
  ·rw[if_neg e];exact⟨b,hb,rfl⟩
theorem qX (l m:List IBlk):xU l (l++m):=fun i b hb=>⟨b,by rw[Np (Jh.1 hb).1];exact hb,rfl⟩
theorem ry (l m:List IBlk):opsN (l++m)=opsN l+opsN m:=by unfold opsN;rw[Js,List.sum_append]
theorem sN:∀(l:List IBlk) (i:Nat) (b c:IBlk),l[i]? =some b->opsN (l.set i c)+b.ops.length=opsN l+c.ops.length
 | [],i,b,c,h=>by simp at h
 |x::l,0,b,c,h=>by
  cases h
  show((c::l).map _).sum+_=((x::l).map _).sum+_
  rw[Ql,Ql,List.sum_cons,List.sum_cons]
  omega
 |x::l,i+1,b,c,h=>by
  have:=sN l i b c (by simpa using h)
  show((x::l.set i c).map _).sum+_=((x::l).map _).sum+_
  unfold opsN at this;rw[Ql,Ql,List.sum_cons,List.sum_cons];omega
theorem opsN_le{b:IBlk}(h:l[i]? =some b):b.ops.length<=opsN l:=by
 have:=sN l i b ⟨[],[],⟨0,0,[]⟩⟩ h;simp at this;omega
theorem pG (l:List IBlk)(i:Nat)(g:IBlk->IBlk)(c:Nat)(hg:∀b,(g b).ops.length<=b.ops.length+c):opsN (wD l i g)<=opsN l+c:=by
 cases h:l[i]? with
 |none=>unfold wD;rw[h];exact Nat.le_add_right _ _
 |some b=>
  rw[xI h];have:=sN l i b (g b) h;have:=hg b;omega
structure Grow (c:Nat) (M M':MS):Prop where
 left:M'.left=M.left
 pos:M.pos<=M'.pos
 sz:M'.sz<=M.sz+c
 cur:M'.cur=M.cur
 len:M'.f.length=M.f.length
 nxt:M.next<=M'.next
 pre:M.vals<+:M'.vals
 par:xU M.f M'.f
theorem Grow.refl (M:MS):Grow 0 M M:=⟨rfl,Je _,Je _,rfl,rfl,Je _,Od,xU.refl _⟩
theorem Grow.trans(h:Grow c M M1)(k:Grow d M1 M2):Grow (c+d) M M2:=⟨k.left.trans h.left,Jn h.pos k.pos,by have:=h.sz;have:=k.sz;omega,k.cur.trans h.cur,k.len.trans h.len,Jn h.nxt k.nxt,h.pre.trans k.pre,h.par.trans k.par⟩
theorem Grow.mono(h:Grow c M M1)(g:c<=d):Grow d M M1:=⟨h.left,h.pos,by have:=h.sz;omega,h.cur,h.len,h.nxt,h.pre,h.par⟩
theorem zT (M:MS):Grow 1 M M.tick:=⟨rfl,Nat.le_succ _,by unfold MS.sz MS.tick;simp only;omega,rfl,rfl,Je _,Od,xU.refl _⟩
theorem yB (M:MS)(o:IOp):Grow 3 M (M.emit o):=by
 have h:=pG M.f M.cur (fun b=> {b with ops:=b.ops++ [eg M o]}) 1 (fun b=>by simp);refine⟨rfl,Je _,?_,rfl,xZ _ _ _,?_,?_,qB _ _ _ (fun _=>rfl)⟩
 ·unfold MS.sz MS.emit;simp only[xZ]
  split
  ·simp only[Jk,Ju];omega
  ·omega
 ·unfold MS.emit;simp only;split<;>omega
 ·unfold MS.emit;simp only;split
  ·exact Qb _ _
  ·exact Od
theorem wT (M:MS)(n:Nat):Grow 3 M (M.num n):=yB _ _
theorem zv (M:MS)(t:ITerm):Grow 0 M (M.endB t):=by
 have h:=pG M.f M.cur (fun b=> {b with term:=t }) 0 (fun b=>Je _);refine⟨rfl,Je _,?_,rfl,xZ _ _ _,Je _,Od,qB _ _ _ (fun _=>rfl)⟩;unfold MS.sz MS.endB;simp only[xZ];omega
theorem yU (E:ME)(M:MS):Grow 4 M (zJ E M).2:=by
 unfold zJ
 split
 ·exact(zT M).trans (wT _ _)
 split
 ·exact(((zT M).trans (zT _)).trans (zT _)).mono Zo
 ·exact((zT M).trans (zT _)).mono Zo
theorem ue (E:ME)(M:MS):Grow 6 M (yJ E M).2:=by
 unfold yJ
 split
 ·exact((zT M).trans (yU E _)).mono Zo
 ·exact(((zT M).trans (zT _)).trans (zT _)).trans (yB _ _)
theorem tj (E:ME):∀(n:Nat) (M:MS),Grow (4*n) M (yI E n M).2
 |0,M=>Grow.refl M
 |n+1,M=>((tj E n M).trans (yU E _)).mono Zo
theorem afO (E:ME)(d:∀x∈E.args,0<=x/\x<4)(M:MS):Grow 16 M (vN E M):=by
 unfold vN
 split
 ·exact(Grow.refl M).mono Zo
 simp only
 split
 ·exact(zT M).mono Zo
 ·have h:∀f,(E.args.getD f 0).toNat<=3:=fun f=>by
   rw[Jj]
   cases c:E.args[f]? with
   |none=>simp
   |some x=>have:=d x (Ji c);simp only[Ot];omega
  have:=h (E.me+1+tkV E M (E.nf-E.me-1));exact(((zT M).trans (tj E _ _)).trans (yB _ _)).mono Zo
theorem kJ (E:ME)(M:MS):Grow 19 M (yR E M):=by
 unfold yR;simp only;have h:=((yU E M).trans (yU E _)).trans (zT _)
 split
 ·split
  ·exact((((h.trans (zT _)).trans (wT _ _)).trans (yB _ _)).trans (yB _ _)).mono Zo
  ·exact((h.trans (zT _)).trans (yB _ _)).mono Zo
 ·exact(h.trans (yB _ _)).mono Zo
theorem pX (E:ME)(c:∀x∈E.args,0<=x/\x<4)(M:MS):Grow 20 M (xK E M):=by
 unfold xK;simp only;have h:=zT M
 split
 ·exact((h.trans (zT _)).trans (wT _ _)).mono Zo
 split
 ·exact(((h.trans (zT _)).trans (yU E _)).trans (yB _ _)).mono Zo
 split
 ·exact(((h.trans (ue E _)).trans (zT _)).trans (yB _ _)).mono Zo
 split
 ·exact((((h.trans (ue E _)).trans (yU E _)).trans (zT _)).trans (yB _ _)).mono Zo
 split
 ·exact((h.trans (zT _)).trans (yB _ _)).mono Zo
 split
 ·exact(((h.trans (yU E _)).trans (zT _)).trans (yB _ _)).mono Zo
 split
 ·exact((((h.trans (zT _)).trans (wT _ _)).trans (zT _)).trans (yB _ _)).mono Zo
 split
 ·exact(h.trans (afO E c _)).mono Zo
 split
 ·split
  ·exact((h.trans (zT _)).trans (yB _ _)).mono Zo
  ·exact(h.trans (zT _)).mono Zo
 ·exact(h.trans (kJ E _)).mono Zo
theorem pw (E:ME)(hE:∀x∈E.args,0<=x/\x<4):∀(n:Nat) (M:MS),Grow (20*n) M (qY E n M)
 |0,M=>Grow.refl M
 |n+1,M=>((pX E hE M).trans (pw E hE n _)).mono Zo
theorem aaE (E:ME)(M:MS){n:Nat}(c:0<n):tkV E M n<n:=by
 unfold tkV;have h1:=Ob (E.s.getD M.pos 0) (show(n:Int)≠0 by omega);have h2:=Int.emod_lt_of_pos (E.s.getD M.pos 0) (show(0:Int)<n by omega);omega
theorem bT (n p:Nat):opsN [wJ n p]=0:=rfl
theorem sz_block (M:MS)(p:Nat):(M.block p).sz=M.sz+1+p:=by
 unfold MS.sz MS.block;simp only[Jk,Ju,ry,bT];omega
structure GrowP (c:Nat) (M M':MS):Prop where
 pos:M.pos<=M'.pos
 sz:M'.sz<=M.sz+c
 len:M.f.length<=M'.f.length
 nxt:M.next<=M'.next
 pre:M.vals<+:M'.vals
 cur:M.cur<M.f.length->M'.cur<M'.f.length
 left:M'.left<=M.left
 lft:6<=M.left+M.pos->6<=M'.left+M'.pos
 par:xU M.f M'.f
theorem GrowP.refl (M:MS):GrowP 0 M M:=⟨Je _,Je _,Je _,Je _,Od,fun h=>h,Og _,fun h=>h,xU.refl _⟩
theorem GrowP.trans(h:GrowP c M M1)(k:GrowP d M1 M2):GrowP (c+d) M M2:=
 ⟨Jn h.pos k.pos,by have:=h.sz;have:=k.sz;omega,Jn h.len k.len,Jn h.nxt k.nxt,h.pre.trans k.pre,fun e=>k.cur (h.cur e),Int.le_trans k.left h.left,fun e=>k.lft (h.lft e),h.par.trans k.par⟩
theorem GrowP.mono(h:GrowP c M M1)(g:c<=d):GrowP d M M1:= {h with sz:=by have:=h.sz;omega }
theorem Grow.p{M':MS}(h:Grow c M M'):GrowP c M M':=⟨h.pos,h.sz,Ul h.len.symm,h.nxt,h.pre,fun e=>by rw[h.cur,h.len];exact e,Int.le_of_eq h.left,fun e=>by have:=h.left;have:=h.pos;omega,h.par⟩
theorem xM (M:MS)(p:Nat):GrowP (1+p) M (M.block p):=
 ⟨Je _,by rw[sz_block];omega,by unfold MS.block;simp,by unfold MS.block;simp,Od,fun e=>by unfold MS.block;simp;omega,Og _,fun e=>e,qX _ _⟩
theorem vW:∀(n:Nat) (M:MS),GrowP n M (xE n M)
 |0,M=>GrowP.refl M
 |n+1,M=>(vW n M).trans ((xM _ 0).mono Zo)
theorem tB:∀(n:Nat) (M:MS),(xE n M).f.length=M.f.length+n
 |0,M=>rfl
 |n+1,M=>by show((xE n M).f++ [_]).length=_;rw[Jk,tB n M];rfl
theorem yz (M:MS)(p:Nat):(M.block p).f.length=M.f.length+1:=by unfold MS.block;simp
theorem vk (M:MS)(c:Nat)(h:c<M.f.length):GrowP 0 M {M with cur:=c }:=⟨Je _,Je _,Je _,Je _,Od,fun _=>h,Og _,fun e=>e,xU.refl _⟩
theorem dO {α:Type}{l m:List α}(h:l<+:m):l.length<=m.length:=by obtain⟨t,rfl⟩:=h;simp
theorem uF {α:Type}{l m:List α}(h:l<+:m):m.take l.length=l:=by obtain⟨t,rfl⟩:=h;simp
theorem sY(h:GrowP c M M1):GrowP c M {M1 with vals:=M1.vals.take M.vals.length }:=by
 refine⟨h.pos,?_,h.len,h.nxt,by rw[uF h.pre];exact Od,h.cur,h.left,h.lft,h.par⟩;have h1:=h.sz;have h2:=dO h.pre;unfold MS.sz at h1 ⊢;simp only[uF h.pre];omega
def wM (E:ME)(join k:Nat)(M1:MS):MS:=
 if tkV E M1 12=11/\0<k then(zJ E M1.tick).2.endB ⟨4,(zJ E M1.tick).1,[]⟩ else(zJ E M1.tick).2.endB ⟨1,0,[⟨(join:Nat),[(zJ E M1.tick).1]⟩]⟩
theorem su (E:ME)(c k:Nat)(M1:MS):GrowP 5 M1 (wM E c k M1):=by
 have h:=((zT M1).trans (yU E _)).p;unfold wM
 split
 ·exact h.trans (zv _ _).p
 ·exact h.trans (zv _ _).p
theorem rg (E:ME)(c:MS->MS)(tg d keep n k:Nat)(M:MS):uV E c tg d keep (n+1) k M=uV E c tg d keep n (k+1) {wM E d k (c {M with cur:=tg+k }) with vals:=(wM E d k (c {M with cur:=tg+k })).vals.take keep }:=rfl
theorem pF (E:ME)(c:MS->MS)(P:Nat)(i:∀M,GrowP P M (c M))(tg d:Nat):∀(n k:Nat) (M:MS),tg+k+n<=M.f.length->GrowP (n*(P+5)) M (uV E c tg d M.vals.length n k M)/\(uV E c tg d M.vals.length n k M).vals=M.vals
 |0,k,M,h=>⟨(GrowP.refl M).mono Zo,rfl⟩
 |n+1,k,M,h=>by
  rw[rg];have h1:=((vk M (tg+k) Zo).trans ((i _).trans (su E d k (c {M with cur:=tg+k })))).mono (show 0+(P+5)<=P+5 by omega);have h2:=sY h1;have h3:({wM E d k (c {M with cur:=tg+k }) with vals:=(wM E d k (c {M with cur:=tg+k })).vals.take M.vals.length }:MS).vals=M.vals:=uF h1.pre;have g:=pF E c P i tg d n (k+1) {wM E d k (c {M with cur:=tg+k }) with vals:=(wM E d k (c {M with cur:=tg+k })).vals.take M.vals.length } (by have:=h2.len;simp only at this ⊢;omega);rw[h3] at g;refine⟨(h2.trans g.1).mono ?_,g.2⟩;rw[Nat.succ_mul];omega
theorem uU (E:ME)(d:MS->MS)(P:Nat)(j:∀M,GrowP P M (d M))(n:Nat)(i:n<=4)(M:MS):GrowP (31+4*P) M (xi E d n M):=by
 unfold xi;simp only;have h1:=(yU E M).p;generalize zJ E M=c at *;have h2:=(h1.trans (vW n c.2)).trans (xM _ 1);have l2:((xE n c.2).block 1).f.length=c.2.f.length+n+1:=by rw[yz,tB]
 have h3:=h2.trans (zv ((xE n c.2).block 1) ⟨if 2<n then 3 else 2,c.1,xk c.2.f.length n⟩).p;have l3:(((xE n c.2).block 1).endB ⟨if 2<n then 3 else 2,c.1,xk c.2.f.length n⟩).f.length=c.2.f.length+n+1:=(zv _ _).len.trans l2;generalize ((xE n c.2).block 1).endB ⟨if 2<n then 3 else 2,c.1,xk c.2.f.length n⟩=M3 at *;obtain⟨h,k⟩:=pF E d P j c.2.f.length (c.2.f.length+n) n 0 M3 Zo;generalize uV E d c.2.f.length (c.2.f.length+n) M3.vals.length n 0 M3=M4 at *;have g:=h3.trans h;have hm:n*(P+5)<=4*(P+5):=Qw _ i;refine⟨g.pos,?_,g.len,g.nxt,g.pre.trans (Qb _ _),fun e=>?_,g.left,g.lft,g.par⟩
 ·have:=g.sz;unfold MS.sz at this ⊢;simp only[Jk,Ju];omega
 ·have:=h.len
  show c.2.f.length+n<M4.f.length
  omega
theorem qg (E:ME)(c:MS->MS)(P:Nat)(h:∀M,GrowP P M (c M))(M:MS):GrowP (24+P) M (tH E c M):=by
 unfold tH;simp only;have h1:=(((zT M).trans (wT M.tick (tkV E M 5))).trans (yU E _)).p;generalize zJ E (M.tick.num (tkV E M 5))=x at *;have l2:(((x.2.block 2).block 0).block 0).f.length=x.2.f.length+3:=by rw[yz,yz,yz]
 have h2:=((h1.trans (xM _ 2)).trans (xM _ 0)).trans (xM _ 0);have h3:=h2.trans (zv (((x.2.block 2).block 0).block 0) ⟨1,0,[⟨(x.2.f.length:Nat),[(M.next:Int),x.1]⟩]⟩).p;have l3:=(zv (((x.2.block 2).block 0).block 0) ⟨1,0,[⟨(x.2.f.length:Nat),[(M.next:Int),x.1]⟩]⟩).len.trans l2;generalize (((x.2.block 2).block 0).block 0).endB ⟨1,0,[⟨(x.2.f.length:Nat),[(M.next:Int),x.1]⟩]⟩=M2 at *
 have m:GrowP 1 M2 {M2 with cur:=x.2.f.length,vals:=M2.vals++ [((x.2.next+1:Nat):Int)]}:=by
  refine⟨Je _,?_,Je _,Je _,Qb _ _,fun _=>by show x.2.f.length<M2.f.length;omega,Og _,fun e=>e,xU.refl _⟩;unfold MS.sz;simp only[Jk,Ju];omega
 have l:=(h3.trans m).trans (zv {M2 with cur:=x.2.f.length,vals:=M2.vals++ [((x.2.next+1:Nat):Int)]} ⟨2,(x.2.next:Nat),[⟨((x.2.f.length+1:Nat):Int),[]⟩,⟨((x.2.f.length+2:Nat):Int),[]⟩]⟩).p;have l5:=(zv {M2 with cur:=x.2.f.length,vals:=M2.vals++ [((x.2.next+1:Nat):Int)]} ⟨2,(x.2.next:Nat),[⟨((x.2.f.length+1:Nat):Int),[]⟩,⟨((x.2.f.length+2:Nat):Int),[]⟩]⟩).len;have o:(MS.endB {M2 with cur:=x.2.f.length,vals:=M2.vals++ [((x.2.next+1:Nat):Int)]} ⟨2,(x.2.next:Nat),[⟨((x.2.f.length+1:Nat):Int),[]⟩,⟨((x.2.f.length+2:Nat):Int),[]⟩]⟩).f.length=x.2.f.length+3:=l5.trans l3;generalize MS.endB {M2 with cur:=x.2.f.length,vals:=M2.vals++ [((x.2.next+1:Nat):Int)]} ⟨2,(x.2.next:Nat),[⟨((x.2.f.length+1:Nat):Int),[]⟩,⟨((x.2.f.length+2:Nat):Int),[]⟩]⟩=M3 at *;have k:=(vk M3 (x.2.f.length+1) Zo).trans (h _);have j:=k.trans (wT (c {M3 with cur:=x.2.f.length+1 }) 1).p;generalize c {M3 with cur:=x.2.f.length+1 }=M4 at *;have i:=(j.trans (yB (M4.num 1) ⟨6,0,(x.2.next:Nat),(M4.next:Nat),0,[]⟩).p).trans (yU E _).p;generalize zJ E ((M4.num 1).emit ⟨6,0,(x.2.next:Nat),(M4.next:Nat),0,[]⟩)=y at *;have g:=sY (i.trans (zv y.2 ⟨1,0,[⟨(x.2.f.length:Nat),[((M4.next+1:Nat):Int),y.1]⟩]⟩).p);generalize t:y.2.endB ⟨1,0,[⟨(x.2.f.length:Nat),[((M4.next+1:Nat):Int),y.1]⟩]⟩=M6 at *;have d:=g.len;simp only at d;exact((l.trans g).trans (vk {M6 with vals:=M6.vals.take M3.vals.length } (x.2.f.length+2) (by show x.2.f.length+2<M6.f.length;omega))).mono Zo
theorem oL (E:ME)(c:∀x∈E.args,0<=x/\x<4)(M:MS):GrowP 101 M (tR E M):=by
 unfold tR;simp only;have hk:=aaE E M (n:=5) Zo;have h1:=(zT M).trans (pw E c (tkV E M 5+1) M.tick);have h2:=(pw E c (tkV E M 5+1) M.tick)
 have h3:=h1.p;refine⟨h3.pos,?_,h3.len,h3.nxt,h3.pre,h3.cur,by have:=h3.left;show _-1<=M.left;omega,fun e=>?_,h3.par⟩
 ·have:=h3.sz;unfold MS.sz at this ⊢;simp only;omega
 ·have e1:=h1.left;have e2:=h2.pos;have e3:M.tick.pos=M.pos+1:=rfl
  show 6<=(qY E (tkV E M 5+1) M.tick).left-1+(((qY E (tkV E M 5+1) M.tick).pos:Nat):Int)
  omega
def pC:Nat->Nat
 |0=>101
 |d+1=>134+4*pC d
theorem xw (E:ME)(g:∀x∈E.args,0<=x/\x<4):∀(d:Nat) (M:MS),GrowP (pC d) M (zp E d M)
 |0,M=>oL E g M
 |d+1,M=>by
  unfold zp;simp only;have h1:=oL E g M;generalize tR E M=M2 at *;have c:=xw E g d;have i:pC (d+1)=134+4*pC d:=rfl;have ht:=(zT M2).p;have h:=(zT M2.tick).p
  split
  ·exact h1.mono Zo
  split
  ·exact((h1.trans ht).trans (uU E _ _ c 2 Zo _)).mono Zo
  split
  ·exact((h1.trans ht).trans (qg E _ _ c _)).mono Zo
  split
  ·have:=aaE E M2.tick (n:=3) Zo;exact(((h1.trans ht).trans h).trans (uU E _ _ c (2+tkV E M2.tick 3) Zo _)).mono Zo
  ·exact(h1.trans ht).mono Zo
open Go.RowKit
theorem rX (s:List Int)(pos:Nat){n:Nat}(c:0<n):tk0 s pos n<n:=by
 unfold tk0;have h1:=Ob (s.getD pos 0) (show(n:Int)≠0 by omega);have h2:=Int.emod_lt_of_pos (s.getD pos 0) (show(0:Int)<n by omega);omega
theorem sm (s:List Int):1<=mdN s/\mdN s<=4:=by
 have:=rX s 0 (n:=4) Zo;unfold mdN;omega
theorem yY (s:List Int):∀n,(yS s n).length=n
 |0=>rfl
 |n+1=>by unfold yS;rw[Jk,yY s n];rfl
theorem xy (s:List Int):∀n,∀x∈yS s n,0<=x/\x<4
 |0,x,h=>by unfold yS at h;simp at h
 |n+1,x,h=>by
  unfold yS at h;rcases Jl.1 h with h|h
  ·exact xy s n x h
  ·have:=rX s n (n:=4) Zo;rw[Jo] at h;subst h
   split<;>omega
theorem yx (s:List Int):∀k,(zg s k).1.length=k
 |0=>rfl
 |k+1=>by
  show((zg s k).1++ [_]).length=_
  rw[Jk,yx s k];rfl
theorem eP {E:ME}(d:∀x∈E.args,0<=x/\x<4)(f:Nat):(E.args.getD f 0).toNat<=3:=by
 rw[Jj]
 cases c:E.args[f]? with
 |none=>simp
 |some x=>have:=d x (Ji c);simp only[Ot];omega
theorem sd (n p:Nat):(wJ n p).params.length=p:=by unfold wJ;simp
theorem sQ {E:ME}(c:∀x∈E.args,0<=x/\x<4)(pos:Nat):(xD E pos).sz<=pos+40:=by
 have h1:=eP c E.me;have h2:=aaE E ⟨pos,[],0,0,[],6⟩ (n:=3) Zo;unfold xD;simp only;unfold MS.sz MS.block MS.tick;simp only[sd,Op,bT,Ju];omega
theorem rx {E:ME}(c:∀x∈E.args,0<=x/\x<4)(pos:Nat):GrowP 2829 (xD E pos) (xR E pos):=by
 have h:=(xw E c 2 (xD E pos)).trans (xw E c 1 (zp E 2 (xD E pos)));have e:pC 2+pC 1=2824:=rfl;rw[e] at h;unfold xR;simp only;have ht:=h.trans (zT (zp E 1 (zp E 2 (xD E pos)))).p
 split
 ·exact(ht.trans (zv _ _).p).mono Zo
 split
 ·exact(ht.trans (zv _ _).p).mono Zo
 ·exact((ht.trans (yU E _).p).trans (zv _ _).p).mono Zo
theorem lN {E:ME}(c:∀x∈E.args,0<=x/\x<4)(pos:Nat):(xR E pos).pos<=pos+3000:=by
 have h1:=(rx c pos).sz;have h2:=sQ c pos;have h3:(xR E pos).pos<=(xR E pos).sz:=by unfold MS.sz;omega
 omega
theorem mdPos_le (s:List Int):sP s<=5:=by
 have:=sm s;unfold sP
 split<;>omega
theorem pos_step{x y:Nat}(h1:y<=5+k*3000)(h2:x<=y+3000):x<=5+(k+1)*3000:=by omega
theorem tU (s:List Int)(k:Nat):(zg s k).2<=5+k*3000:=by
 induction k with
 |zero=>exact mdPos_le s
 |succ k ih=>exact pos_step ih (lN (E:=xC s k) (xy s _) (zg s k).2)
def rp (k:Nat):Nat:=(k*k+k/256)%256
def iu:List Nat:=(List.range 4096).map rp
def uQ (k:Nat):List Nat:=(List.range 4096).map fun j=>if j<k then rp j else 0
theorem pM (k:Nat):(uQ k).length=4096:=by simp[uQ]
theorem mM:uQ 0=List.replicate 4096 0:=by
 apply Oq;intro j;unfold uQ;rw[Jr,Nm]
 by_cases h:j<4096
 ·rw[Oh h,if_pos h];rfl
 ·rw[Of (by simpa using h),if_neg h];rfl
theorem nu:uQ 4096=iu:=Up fun j hj=>if_pos (Ol.1 hj)
theorem kC(h:k<4096):(uQ k).set k (rp k)=uQ (k+1):=by
 apply Oq;intro j;rw[Ov,pM];unfold uQ;rw[Jr,Jr]
 by_cases e:k=j
 ·subst e;rw[if_pos rfl,if_pos h,Oh h]
  show some _=some (if k<k+1 then rp k else 0)
  rw[if_pos Zo]
 ·rw[if_neg e]
  by_cases c:j<4096
  ·rw[Oh c]
   show some (if j<k then rp j else 0)=some (if j<k+1 then rp j else 0)
   by_cases h2:j<k
   ·rw[if_pos h2,if_pos Zo]
   ·rw[if_neg h2,if_neg Zo]
  ·rw[Of (by simpa using c)];rfl
theorem ll (n:Nat):(((List.range n).map rp).map fun(n:Nat)=>(n:Int)).map (fun n=>UInt8.ofNat n.toNat)=(List.range n).map fun k=>UInt8.ofNat (k*k+k/256):=by
 rw[List.map_map,List.map_map];apply Up;intro k hk
 show UInt8.ofNat (((rp k:Nat):Int).toNat)=_
 rw[Ni];unfold rp;apply UInt8.toNat_inj.1;simp
theorem mq:y9 iu=sG:=congrArg (fun l:List UInt8=>(⟨l.toArray⟩:ByteArray)) (ll 4096)
theorem jm {E:ME}(c:∀x∈E.args,0<=x/\x<4)(pos:Nat):(xR E pos).sz<=pos+2869:=by
 have h1:=(rx c pos).sz;have h2:=sQ c pos;omega
theorem qJ (s:List Int):∀(n k:Nat),k<n->(zg s n).1[k]? =some (xR (xC s k) (zg s k).2).f
 |n+1,k,h=>by
  show((zg s n).1++ [_])[k]? =_
  by_cases hk:k<n
  ·rw[Np (by rw[yx];exact hk)];exact qJ s n k hk
  ·have e:k=n:=Zo;subst e;rw[Nc (by rw[yx];exact Je _),yx,Qy];rfl
theorem qA (s:List Int):(uR s).funcs.length=mdN s:=by
 unfold uR;simp only
 split
 ·rw[Nd,yx]
 ·exact yx s _
theorem kz(s:List Int)(hk:k<mdN s):(uR s).funcs[k]? =some []/\qV s=true/\k=mdN s-1∨(uR s).funcs[k]? =some (xR (xC s k) (zg s k).2).f:=by
 have h:=qJ s (mdN s) k hk;unfold uR;simp only
 split
 ·rename_i c
  by_cases e:k=mdN s-1
  ·left;subst e;exact⟨Nn (by rw[yx];exact hk),c,rfl⟩
  ·right;rw[Ns (fun e2=>e e2.symm)];exact h
 ·exact .inr h
theorem lz (s:List Int)(k:Nat)(hk:k<mdN s):(xR (xC s k) (zg s k).2).sz<=15000:=by
 have h1:=tU s k;have h2:=jm (E:=xC s k) (xy s _) (zg s k).2;have:=sm s;omega
end Go.Proofs.YtoahcpkibpomcaaGreat
