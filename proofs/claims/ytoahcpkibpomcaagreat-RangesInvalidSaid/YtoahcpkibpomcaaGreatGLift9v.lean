/- Part of a proof. -/
import Derived.Test.YtoahcpkibpomcaaGreatMathv
import Derived.Test.YtoahcpkibpomcaaGreatRows
import Derived.Test.YtoahcpkibpomcaaGreatSqv
import Derived.Test.YtoahcpkibpomcaaGreatSwv
import Derived.BigRegion
import Derived.Carry
import Derived.Deep.OwnRows
import Derived.Deep.Slices
import Derived.Defers
import Derived.Laws.BitsLemmas
import Derived.Laws.BytesArg
import Derived.Laws.CopyOwn
import Derived.Laws.EntriesVeiled
import Derived.Lib.BufferWrite
import Derived.Lib.EndianBits
import Derived.LoopIn
import Derived.LoopNIn
import Derived.Maps.OwnOps
import Derived.Maps.OwnSet
import Derived.OpenShut
import Derived.OwnWalkIn
import Derived.ProofKit
import Derived.RangeFuncBound
import Derived.RangeFuncCalls
import Derived.RangeFuncLeaves
import Derived.RangeFuncNested
import Derived.Recover
import Derived.RegionIn
import Derived.Shelf.Abstract
import Derived.Shelf.Bits.Mul64
import Derived.Shelf.RegionOpen
import Derived.StillTail
import Derived.TacticsInMore
import Derived.WalkLawsBesides
import Derived.WideKeyEntry
set_option linter.all false
set_option maxHeartbeats 3200000
set_option maxRecDepth 100000
namespace Go.Proofs.YtoahcpkibpomcaaGreat
open Go.RowKit
variable {W W' w w' w0 w1 w2:World}{B' B0 Bk Bs Bv C base' c cp d gk i j k n' u vb vn:Nat}{m:Mach}{o:Obj}{xs:List Value}{v':Value}{P:Program}{x:Int}{g:Int->Option Int}{blocks:List IBlk}{seen:List Bool}{post:List Nat}
def xp {α:Type}(enc:α->Value)(w:World)(B:Nat)(v:Value)(xs:List α):Prop:=
 ∃(a:Option Addr) (cap:Nat),v=.slice a xs.length cap/\xs.length<=cap/\∀(k:Nat) (x:α),xs[k]? =some x->∃b o,a=some ⟨b,o,none⟩/\b<B/\A w b (o+k) (enc x)
def zN (n:Int):Value:=I n
def zj (n:Nat):Value:=I n
def zf (b:Bool):Value:=.bool b
theorem xp.below{α:Type}{enc:α->Value}{B:Nat}{v:Value}{xs:List α}(h:xp enc w B v xs)(hb:Below B w w'):xp enc w' B v xs:=by
 obtain⟨a,d,rfl,c,h⟩:=h;refine⟨a,d,rfl,c,fun k x hk=>?_⟩;obtain⟨b,o,i,hB,g⟩:=h k x hk;exact⟨b,o,i,hB,(hb.cell (p:=⟨b,o+k,none⟩) hB).trans g⟩
theorem xp.mono{α:Type}{enc:α->Value}{B:Nat}{v:Value}{xs:List α}(h:xp enc w B v xs)(hb:B<=B'):xp enc w B' v xs:=by
 obtain⟨a,d,rfl,c,h⟩:=h;refine⟨a,d,rfl,c,fun k x hk=>?_⟩;obtain⟨b,o,i,hB,g⟩:=h k x hk;exact⟨b,o,i,by omega,g⟩
theorem xp.map{α β:Type}{enc:α->Value}{enc':β->Value}(f:β->α)(hf:∀x,enc (f x)=enc' x){B:Nat}{v:Value}{xs:List β}:
 xp enc w B v (xs.map f)↔xp enc' w B v xs:=by
 constructor
 ·rintro⟨a,d,rfl,c,h⟩;refine⟨a,d,by simp,by simpa using c,fun k x hk=>?_⟩;have:=h k (f x) (by simp[hk])
  rwa [hf] at this
 ·rintro⟨a,d,rfl,c,h⟩;refine⟨a,d,by simp,by simpa using c,fun k x hk=>?_⟩;simp only[Jr,Oz] at hk;obtain⟨y,g,rfl⟩:=hk;rw[hf];exact h k y g
def aaB {α:Type}(enc:α->Value)(w:World)(B:Nat)(v:Value)(g:List (List α)):Prop:=
 ∃vs:List Value,xp id w B v vs/\vs.length=g.length/\∀(k:Nat) (rv:Value) (row:List α),vs[k]? =some rv->g[k]? =some row->xp enc w B rv row
theorem aaB.below{α:Type}{enc:α->Value}{B:Nat}{v:Value}{g:List (List α)}(h:aaB enc w B v g)(hb:Below B w w'):aaB enc w' B v g:=by
 obtain⟨vs,h1,h2,h3⟩:=h;exact⟨vs,h1.below hb,h2,fun k rv row a b=>(h3 k rv row a b).below hb⟩
theorem aaB.mono{α:Type}{enc:α->Value}{B:Nat}{v:Value}{g:List (List α)}(h:aaB enc w B v g)(hb:B<=B'):aaB enc w B' v g:=by
 obtain⟨vs,h1,h2,h3⟩:=h;exact⟨vs,h1.mono hb,h2,fun k rv row a b=>(h3 k rv row a b).mono hb⟩
theorem aaB.form{α:Type}{enc:α->Value}{B:Nat}{v:Value}{g:List (List α)}(h:aaB enc w B v g):∃a cap,v=.slice a g.length cap/\g.length<=cap:=by
 obtain⟨vs,⟨a,cap,rfl,c,_⟩,h2,_⟩:=h;exact⟨a,cap,by rw[h2],by omega⟩
theorem aaB.row{α:Type}{enc:α->Value}{B:Nat}{a:Option Addr}{len m:Nat}{g:List (List α)}(h:aaB enc w B (.slice a len m) g){row:List α}(hk:g[k]? =some row):
 ∃b o a2 cap2,a=some ⟨b,o,none⟩/\b<B/\A w b (o+k) (.slice a2 row.length cap2)/\row.length<=cap2/\∀j x,row[j]? =some x->∃b2 o2,a2=some ⟨b2,o2,none⟩/\b2<B/\A w b2 (o2+j) (enc x):=by
 obtain⟨vs,⟨a',y,hv,_,q⟩,h2,h3⟩:=h;cases hv;have d:k<vs.length:=by rw[h2];exact(Jh.1 hk).1
 obtain⟨b,o,u,hB,t⟩:=q k _ (Jd d);obtain⟨a2,cap2,l,c,i⟩:=h3 k _ row (Jd d) hk;refine⟨b,o,a2,cap2,u,hB,?_,c,i⟩;rw[t,<-l];rfl
theorem aaB.map{α β:Type}{enc:α->Value}{enc':β->Value}(f:β->α)(hf:∀x,enc (f x)=enc' x){B:Nat}{v:Value}{g:List (List β)}:
 aaB enc w B v (g.map (List.map f))↔aaB enc' w B v g:=by
 constructor
 ·rintro⟨vs,h1,h2,h3⟩;exact⟨vs,h1,by simpa using h2,fun k rv row a b=>(xp.map f hf).1 (h3 k rv _ a (by simp[b]))⟩
 ·rintro⟨vs,h1,h2,h3⟩;refine⟨vs,h1,by simpa using h2,fun k rv row a b=>?_⟩;simp only[Jr,Oz] at b;obtain⟨y,c,rfl⟩:=b;exact(xp.map f hf).2 (h3 k rv y a c)
theorem zI{B:Nat}(h:W.heap.size=B):(W.alloc o).heap[B]? =some o:=by subst h;exact heap_alloc_new W o
theorem zB{o':Obj}{b:Nat}(h:W.heap[b]? =some o'):(W.alloc o).heap[b]? =some o':=(Below.heap_alloc W o b (lt_of_block h)).trans h
theorem zL{row:Option Nat}{b:Nat}(hg:W.grownBy w1 row)(hk:W.heap[b]? =some o)(c:row≠some b):w1.heap[b]? =some o:=(hg.block b (lt_of_block hk) (Ne.symm c)).trans hk
theorem zR{b:Nat}{a:Addr}{u:Value}(h:W.heap[b]? =some o)(c:b≠a.block):(W.setCell a u).heap[b]? =some o:=(Below.heap_setCell _ _ _ _ c).trans h
theorem zH{B:Nat}{b:Nat}(hb:Below B W W')(h:W.heap[b]? =some o)(c:b<B):W'.heap[b]? =some o:=(hb.block b c).trans h
theorem zC{base b:Nat}{e t:TypeId}{size n:Nat}{v:Value}{cs:Array Value}(h:w.ownsRow base e size v n xs)(hb:Q w b cs t)(hne:b<base∨e≠t):v.ownBlock≠some b:=by
 rcases h.2 with⟨rfl,_⟩|⟨g,d,cur,rfl,hg,c,_⟩
 ·simp[Value.ownBlock]
 ·simp only[Value.ownBlock,ne_eq,Option.some.injEq];rintro rfl;rw[c] at hb;rcases hne with hne|hne
  ·omega
  ·exact hne (by simpa using congrArg (fun o=>match o with|some (Obj.cells _ t _)=>t|_=>0) hb)
theorem zo{base:Nat}{e e':TypeId}{size n:Nat}{v:Value}{d:List Value}(h:w.ownsRow base e size v n xs)(k:w.ownsRow base' e' c v' n' d)(i:e≠e'):v.ownBlock=none∨v.ownBlock≠v'.ownBlock:=by
 rcases h.2 with⟨rfl,_⟩|⟨g,l,cur,rfl,hg,j,_⟩
 ·exact .inl rfl
 ·right;intro e1;exact zC k j (.inr (Ne.symm i)) e1.symm
theorem zD{b:Nat}{cs:Array Value}{t:TypeId}(h:Q w b cs t)(u:Value):Q (w.setCell ⟨b,i,none⟩ u) b (cs.setIfInBounds i u) t:=by
 have c:=lt_of_block h;have d:w.heap[b]=T cs t:=by simpa[Array.getElem?_eq_getElem c] using h
 show(w.heap.modify b _)[b]? =_
 rw[Array.getElem?_eq_getElem (by simpa using c),Array.getElem_modify_self,d];rfl
theorem zA{b:Nat}{cs:Array Value}{t:TypeId}{v:Value}(h:Q w b cs t)(hi:cs[i]? =some v):A w b i v:=by simp[World.cell?,h,hi]
theorem zE{b:Nat}{cs:Array Value}{t:TypeId}(h:Q w b cs t):N w b i:=by simp[World.frozen?,h]
theorem vY{base:Nat}{e:TypeId}{size n:Nat}{v:Value}(h:w.ownsRow base e size v n xs)(hb:base'<=base):w.ownsRow base' e size v n xs:=by
 refine⟨h.1,?_⟩;rcases h.2 with h2|⟨g,c,cur,rfl,hg,r⟩
 ·exact .inl h2
 ·exact .inr ⟨g,c,cur,rfl,by omega,r⟩
theorem zG{base:Nat}{e:TypeId}{size n:Nat}{v:Value}(h:w.ownsRow base e size v n xs):∃a cap,v=.slice a n cap:=by
 rcases h.2 with⟨rfl,rfl⟩|⟨g,cap,cur,rfl,_⟩
 ·exact⟨none,0,rfl⟩
 ·exact⟨_,cap,rfl⟩
theorem zm{base:Nat}{e:TypeId}{size n m:Nat}{a:Option Addr}(h:w.ownsRow base e size (.slice a m d) n xs):m<=d/\d<=9223372036854775807:=by
 rcases h.2 with⟨hv,_⟩|⟨g,c,cur,hv,_,_,h1,h2,_⟩
 ·cases hv;omega
 ·cases hv;unfold maxLen at h2;omega
theorem ji{base:Nat}{e:TypeId}{size n:Nat}{v:Value}(h:w.ownsRow base e size v n xs):(w.drewN k).ownsRow base e size v n xs:=h
theorem kg{b:Nat}{o:Option Obj}(h:w.heap[b]? =o):(w.drewN k).heap[b]? =o:=h
theorem yC{B:Nat}(h:Below B w w'):Below B w (w'.drewN k):=⟨h.os,h.tape,h.output,h.size,h.block⟩
theorem jc{b:Nat}{v:Value}{t t':TypeId}(h:Q w b #[v] t)(c:Q w b #[v'] t'):v=v':=by
 rw[h] at c;simp only[Option.some.injEq,Obj.cells.injEq] at c;simpa using c.1
theorem nJ{row:Option Nat}(h:W.grownBy W' row):W.grownBy W'.drew row:=⟨h.os,h.tape,h.output,h.size,h.block⟩
theorem oI (W:World)(row:Option Nat):W.grownBy W row:=⟨rfl,rfl,rfl,Je _,fun _ _ _=>rfl⟩
theorem yL (B:Nat)(w:World)(n:Nat):Below B w (w.drewN n):=⟨rfl,rfl,rfl,Je _,fun _ _=>rfl⟩
theorem jU{b o:Nat}{v:Value}(h:A w b o v):b<w.heap.size:=Jw w _ h
theorem bcell(hb:O W w1):(∀b o,b<W.heap.size->w1.cell? ⟨b,o,none⟩=W.cell? ⟨b,o,none⟩)/\(∀b o,b<W.heap.size->w1.frozen? ⟨b,o,none⟩=W.frozen? ⟨b,o,none⟩):=
 ⟨fun b o h=>hb.cell (p:=⟨b,o,none⟩) h,fun b o h=>hb.frozen (p:=⟨b,o,none⟩) h⟩
theorem zh {k:IntKind}{a b:Int}(h:a=b):Ending.returned (.int k a)=.returned (.int k b):=by rw[h]
theorem rH {a b:Bool}(h:a=b):Ending.returned (.bool a)=.returned (.bool b):=by rw[h]
def I64 (x:Int):Prop:=-9223372036854775808<=x/\x<=9223372036854775807
def wz (n:Nat):Value:=.int .u8 (n:Int)
def vL (n:Nat):Value:=U n
theorem p7{base:Nat}{e:TypeId}{size n:Nat}{v:Value}(h:w.ownsRow base e size v n xs)(hb:Below C w w')(i:w.heap.size<=C):w'.ownsRow base e size v n xs:=by
 refine⟨h.1,?_⟩;rcases h.2 with h2|⟨g,d,cur,rfl,hg,c,r⟩
 ·exact .inl h2
 ·exact .inr ⟨g,d,cur,rfl,hg,zH hb c (by have:=lt_of_block c;omega),r⟩
def yN {α:Type}(sz:Nat)(R:World->Nat->Nat->Nat->α->Prop)(w:World)(B:Nat)(v:Value)(xs:List α):Prop:=
 ∃(a:Option Addr) (cap:Nat),v=.slice a xs.length cap/\xs.length<=cap/\cap<=9223372036854775807/\∀(k:Nat) (x:α),xs[k]? =some x->∃b o,a=some ⟨b,o,none⟩/\b<B/\R w B b (o+k*sz) x
def vV {α:Type}(R:World->Nat->Nat->Nat->α->Prop):Prop:=(∀w w' B b q x,b<B->Below B w w'->R w B b q x->R w' B b q x)/\∀w B B' b q x,B<=B'->R w B b q x->R w B' b q x
theorem yN.below{α:Type}{sz:Nat}{R:World->Nat->Nat->Nat->α->Prop}(g:vV R){B:Nat}{v:Value}{xs:List α}(h:yN sz R w B v xs)(hb:Below B w w'):yN sz R w' B v xs:=by
 obtain⟨a,d,rfl,h1,h2,h3⟩:=h;refine⟨a,d,rfl,h1,h2,fun k x hk=>?_⟩;obtain⟨b,o,j,c,i⟩:=h3 k x hk;exact⟨b,o,j,c,g.1 _ _ _ _ _ _ c hb i⟩
theorem yN.mono{α:Type}{sz:Nat}{R:World->Nat->Nat->Nat->α->Prop}(d:vV R){B:Nat}{v:Value}{xs:List α}(h:yN sz R w B v xs)(hb:B<=B'):yN sz R w B' v xs:=by
 obtain⟨a,c,rfl,h1,h2,h3⟩:=h;refine⟨a,c,rfl,h1,h2,fun k x hk=>?_⟩;obtain⟨b,o,i,j,g⟩:=h3 k x hk;exact⟨b,o,i,by omega,d.2 _ _ _ _ _ _ hb g⟩
theorem yN.form{α:Type}{sz:Nat}{R:World->Nat->Nat->Nat->α->Prop}{B:Nat}{v:Value}{xs:List α}(h:yN sz R w B v xs):∃a cap,v=.slice a xs.length cap/\xs.length<=cap/\cap<=9223372036854775807:=
 let⟨a,cap,e,h1,h2,_⟩:=h;⟨a,cap,e,h1,h2⟩
theorem yN.get{α:Type}{sz:Nat}{R:World->Nat->Nat->Nat->α->Prop}{B:Nat}{a:Option Addr}{n:Nat}{xs:List α}(h:yN sz R w B (.slice a n c) xs){x:α}(hk:xs[k]? =some x):
 ∃b o,a=some ⟨b,o,none⟩/\b<B/\R w B b (o+k*sz) x:=by
 obtain⟨a',d,e,_,_,h3⟩:=h;cases e;exact h3 k x hk
def IntR (w:World)(B b q:Nat)(x:Int):Prop:=A w b q (I x)/\I64 x
def U16R (w:World)(B b q:Nat)(x:Nat):Prop:=A w b q (U x)/\x<65536
def U8R (w:World)(B b q:Nat)(x:Nat):Prop:=A w b q (.int .u8 (x:Int))/\x<256
def StrR (w:World)(B b q:Nat)(x:ByteArray):Prop:=A w b q (.string x)/\x.size<=9223372036854775807
theorem zV{B:Nat}(hb:Below B w w'){b q:Nat}(hB:b<B){v:Value}(h:A w b q v):A w' b q v:=(hb.cell (p:=⟨b,q,none⟩) hB).trans h
theorem zO:vV IntR:=⟨fun w w' B b q x hB hb h=>⟨zV hb hB h.1,h.2⟩,fun w B B' b q x _ h=>h⟩
theorem zr:vV U16R:=⟨fun w w' B b q x hB hb h=>⟨zV hb hB h.1,h.2⟩,fun w B B' b q x _ h=>h⟩
theorem xQ:vV U8R:=⟨fun w w' B b q x hB hb h=>⟨zV hb hB h.1,h.2⟩,fun w B B' b q x _ h=>h⟩
theorem tN:vV StrR:=⟨fun w w' B b q x hB hb h=>⟨zV hb hB h.1,h.2⟩,fun w B B' b q x _ h=>h⟩
abbrev zY:=yN 1 IntR
abbrev wV:=yN 1 U16R
abbrev dL:=yN 1 U8R
abbrev adu:=yN 1 StrR
def ObjR (w:World)(B b q:Nat)(x:IObj):Prop:=
 A w b q (I x.bank)/\A w b (q+1) (U (x.addr:Int))/\A w b (q+2) (U (x.size:Int))/\I64 x.bank/\x.addr<65536/\x.size<65536
theorem tZ:vV ObjR:=⟨fun w w' B b q x hB hb h=>⟨zV hb hB h.1,zV hb hB h.2.1,zV hb hB h.2.2.1,h.2.2.2⟩,fun w B B' b q x _ h=>h⟩
abbrev kq:=yN 3 ObjR
def adz (w:World)(B b q:Nat)(x:IEdge):Prop:=
 A w b q (I x.block)/\I64 x.block/\∃av,A w b (q+1) av/\zY w B av x.args
theorem xL:vV adz:=
 ⟨fun w w' B b q x hB hb h=>by obtain⟨h1,h2,av,h3,c⟩:=h;exact⟨zV hb hB h1,h2,av,zV hb hB h3,c.below zO hb⟩,
  fun w B B' b q x hB h=>by obtain⟨h1,h2,av,h3,c⟩:=h;exact⟨h1,h2,av,h3,c.mono zO hB⟩⟩
abbrev wH:=yN 2 adz
def OpR (w:World)(B b q:Nat)(x:IOp):Prop:=
 A w b q (I x.code)/\A w b (q+1) (I x.res)/\A w b (q+2) (I x.a)/\A w b (q+3) (I x.b)/\A w b (q+4) (U (x.n:Int))/\
  (I64 x.code/\I64 x.res/\I64 x.a/\I64 x.b/\x.n<65536)/\∃av,A w b (q+5) av/\zY w B av x.args
theorem xA:vV OpR:=
 ⟨fun w w' B b q x hB hb h=>by obtain⟨h1,h2,h3,j,i,g,av,d,c⟩:=h;exact⟨zV hb hB h1,zV hb hB h2,zV hb hB h3,zV hb hB j,zV hb hB i,g,av,zV hb hB d,c.below zO hb⟩,
  fun w B B' b q x hB h=>by obtain⟨h1,h2,h3,j,i,g,av,d,c⟩:=h;exact⟨h1,h2,h3,j,i,g,av,d,c.mono zO hB⟩⟩
abbrev mN:=yN 6 OpR
def BlkR (w:World)(B b q:Nat)(x:IBlk):Prop:=
 A w b (q+2) (I x.term.kind)/\A w b (q+3) (I x.term.a)/\(I64 x.term.kind/\I64 x.term.a)/\
  ∃pv ov tv,A w b q pv/\A w b (q+1) ov/\A w b (q+4) tv/\zY w B pv x.params/\mN w B ov x.ops/\wH w B tv x.term.to
theorem yT:vV BlkR:=
 ⟨fun w w' B b q x hB hb h=>by obtain⟨h1,h2,h3,pv,ov,tv,k,j,i,g,d,c⟩:=h;exact⟨zV hb hB h1,zV hb hB h2,h3,pv,ov,tv,zV hb hB k,zV hb hB j,zV hb hB i,g.below zO hb,d.below xA hb,c.below xL hb⟩,
  fun w B B' b q x hB h=>by obtain⟨h1,h2,h3,pv,ov,tv,k,j,i,g,d,c⟩:=h;exact⟨h1,h2,h3,pv,ov,tv,k,j,i,g.mono zO hB,d.mono xA hB,c.mono xL hB⟩⟩
abbrev wX:=yN 5 BlkR
def FuncR (w:World)(B b q:Nat)(x:List IBlk):Prop:=∃bv,A w b q bv/\wX w B bv x
theorem vR:vV FuncR:=
 ⟨fun w w' B b q x hB hb h=>by obtain⟨bv,h1,h2⟩:=h;exact⟨bv,zV hb hB h1,h2.below yT hb⟩,
  fun w B B' b q x hB h=>by obtain⟨bv,h1,h2⟩:=h;exact⟨bv,h1,h2.mono yT hB⟩⟩
abbrev iS:=yN 1 FuncR
structure PV where
 fv:Value
 av:Value
 dv:Value
 bv:Value
structure ProgIn (w:World) (B:Nat) (V:PV) (p:IProg):Prop where
 funcs:iS w B V.fv p.funcs
 args:zY w B V.av p.args
 data:kq w B V.dv p.data
 banks:adu w B V.bv p.banks
 ent:I64 p.entry
 hnd:I64 p.handler
theorem ProgIn.below{B:Nat}{V:PV}{p:IProg}(h:ProgIn w B V p)(hb:Below B w w'):ProgIn w' B V p:=
 ⟨h.funcs.below vR hb,h.args.below zO hb,h.data.below tZ hb,h.banks.below tN hb,h.ent,h.hnd⟩
theorem ProgIn.mono{B:Nat}{V:PV}{p:IProg}(h:ProgIn w B V p)(hb:B<=B'):ProgIn w B' V p:=
 ⟨h.funcs.mono vR hb,h.args.mono zO hb,h.data.mono tZ hb,h.banks.mono tN hb,h.ent,h.hnd⟩
structure Flds where
 is:Bool
 res:Bool
 a:Bool
 b:Bool
 n:Bool
def zi (c:Int):Flds:=
 if c=1∨c=2∨c=24 then⟨true,true,false,false,true⟩
 else if c=3∨c=4∨c=18∨c=19 then⟨true,true,true,false,false⟩
 else if 5<=c/\c<=17 then⟨true,true,true,true,false⟩
 else if c=20∨c=21 then⟨true,false,true,true,false⟩
 else if c=22∨c=23 then⟨true,true,true,false,true⟩
 else if c=25 then⟨true,false,true,false,true⟩
 else if c=26∨c=27 then⟨true,false,false,false,false⟩
 else⟨false,false,false,false,false⟩
theorem rJ (c:Int):
 ((c=1∨c=2∨c=24)/\zi c=⟨true,true,false,false,true⟩)∨((c=3∨c=4∨c=18∨c=19)/\zi c=⟨true,true,true,false,false⟩)∨((5<=c/\c<=17)/\zi c=⟨true,true,true,true,false⟩)∨((c=20∨c=21)/\zi c=⟨true,false,true,true,false⟩)∨
 ((c=22∨c=23)/\zi c=⟨true,true,true,false,true⟩)∨(c=25/\zi c=⟨true,false,true,false,true⟩)∨((c=26∨c=27)/\zi c=⟨true,false,false,false,false⟩)∨((c<1∨27<c)/\zi c=⟨false,false,false,false,false⟩):=by
 unfold zi
 by_cases h1:c=1∨c=2∨c=24
 ·exact .inl ⟨h1,if_pos h1⟩
 rw[if_neg h1]
 by_cases h2:c=3∨c=4∨c=18∨c=19
 ·exact .inr (.inl ⟨h2,if_pos h2⟩)
 rw[if_neg h2]
 by_cases h3:5<=c/\c<=17
 ·exact .inr (.inr (.inl ⟨h3,if_pos h3⟩))
 rw[if_neg h3]
 by_cases i:c=20∨c=21
 ·exact .inr (.inr (.inr (.inl ⟨i,if_pos i⟩)))
 rw[if_neg i]
 by_cases h:c=22∨c=23
 ·exact .inr (Zi (.inl ⟨h,if_pos h⟩))
 rw[if_neg h]
 by_cases g:c=25
 ·exact .inr (.inr (Zi (.inl ⟨g,if_pos g⟩)))
 rw[if_neg g]
 by_cases d:c=26∨c=27
 ·exact .inr (.inr (.inr (Zi (.inl ⟨d,if_pos d⟩))))
 rw[if_neg d];exact .inr (.inr (.inr (Zi (.inr ⟨by omega,rfl⟩))))
def nL (f:Flds):Value:=.tuple #[.agg #[.bool f.res,.bool f.a,.bool f.b,.bool f.n],.bool f.is]
def yX (w:World)(f:Flds)(e:Ending)(w':World):Prop:=e=.returned (nL f)/\O w w'
theorem flds_1 (w:World):G 142 #[I 1] w (yX w ⟨true,true,false,false,true⟩):=by
 go_enter Tryz.func142,Tryz.ntmps142;go_wp2;exact bodyPost_ret (v:=.tuple #[.agg #[.bool true,.bool false,.bool false,.bool true],.bool true]) (by simp[results,Tryz.results142,go_sem]) rfl ⟨rfl,Zr⟩
theorem flds_2 (w:World):G 142 #[I 2] w (yX w ⟨true,true,false,false,true⟩):=by
 go_enter Tryz.func142,Tryz.ntmps142;go_wp2;exact bodyPost_ret (v:=.tuple #[.agg #[.bool true,.bool false,.bool false,.bool true],.bool true]) (by simp[results,Tryz.results142,go_sem]) rfl ⟨rfl,Zr⟩
theorem flds_3 (w:World):G 142 #[I 3] w (yX w ⟨true,true,true,false,false⟩):=by
 go_enter Tryz.func142,Tryz.ntmps142;go_wp2;exact bodyPost_ret (v:=.tuple #[.agg #[.bool true,.bool true,.bool false,.bool false],.bool true]) (by simp[results,Tryz.results142,go_sem]) rfl ⟨rfl,Zr⟩
theorem flds_4 (w:World):G 142 #[I 4] w (yX w ⟨true,true,true,false,false⟩):=by
 go_enter Tryz.func142,Tryz.ntmps142;go_wp2;exact bodyPost_ret (v:=.tuple #[.agg #[.bool true,.bool true,.bool false,.bool false],.bool true]) (by simp[results,Tryz.results142,go_sem]) rfl ⟨rfl,Zr⟩
theorem flds_18 (w:World):G 142 #[I 18] w (yX w ⟨true,true,true,false,false⟩):=by
 go_enter Tryz.func142,Tryz.ntmps142;go_wp2;exact bodyPost_ret (v:=.tuple #[.agg #[.bool true,.bool true,.bool false,.bool false],.bool true]) (by simp[results,Tryz.results142,go_sem]) rfl ⟨rfl,Zr⟩
theorem flds_19 (w:World):G 142 #[I 19] w (yX w ⟨true,true,true,false,false⟩):=by
 go_enter Tryz.func142,Tryz.ntmps142;go_wp2;exact bodyPost_ret (v:=.tuple #[.agg #[.bool true,.bool true,.bool false,.bool false],.bool true]) (by simp[results,Tryz.results142,go_sem]) rfl ⟨rfl,Zr⟩
theorem flds_20 (w:World):G 142 #[I 20] w (yX w ⟨true,false,true,true,false⟩):=by
 go_enter Tryz.func142,Tryz.ntmps142;go_wp2;exact bodyPost_ret (v:=.tuple #[.agg #[.bool false,.bool true,.bool true,.bool false],.bool true]) (by simp[results,Tryz.results142,go_sem]) rfl ⟨rfl,Zr⟩
theorem flds_21 (w:World):G 142 #[I 21] w (yX w ⟨true,false,true,true,false⟩):=by
 go_enter Tryz.func142,Tryz.ntmps142;go_wp2;exact bodyPost_ret (v:=.tuple #[.agg #[.bool false,.bool true,.bool true,.bool false],.bool true]) (by simp[results,Tryz.results142,go_sem]) rfl ⟨rfl,Zr⟩
theorem flds_22 (w:World):G 142 #[I 22] w (yX w ⟨true,true,true,false,true⟩):=by
 go_enter Tryz.func142,Tryz.ntmps142;go_wp2;exact bodyPost_ret (v:=.tuple #[.agg #[.bool true,.bool true,.bool false,.bool true],.bool true]) (by simp[results,Tryz.results142,go_sem]) rfl ⟨rfl,Zr⟩
theorem flds_23 (w:World):G 142 #[I 23] w (yX w ⟨true,true,true,false,true⟩):=by
 go_enter Tryz.func142,Tryz.ntmps142;go_wp2;exact bodyPost_ret (v:=.tuple #[.agg #[.bool true,.bool true,.bool false,.bool true],.bool true]) (by simp[results,Tryz.results142,go_sem]) rfl ⟨rfl,Zr⟩
theorem flds_24 (w:World):G 142 #[I 24] w (yX w ⟨true,true,false,false,true⟩):=by
 go_enter Tryz.func142,Tryz.ntmps142;go_wp2;exact bodyPost_ret (v:=.tuple #[.agg #[.bool true,.bool false,.bool false,.bool true],.bool true]) (by simp[results,Tryz.results142,go_sem]) rfl ⟨rfl,Zr⟩
theorem flds_25 (w:World):G 142 #[I 25] w (yX w ⟨true,false,true,false,true⟩):=by
 go_enter Tryz.func142,Tryz.ntmps142;go_wp2;exact bodyPost_ret (v:=.tuple #[.agg #[.bool false,.bool true,.bool false,.bool true],.bool true]) (by simp[results,Tryz.results142,go_sem]) rfl ⟨rfl,Zr⟩
theorem flds_26 (w:World):G 142 #[I 26] w (yX w ⟨true,false,false,false,false⟩):=by
 go_enter Tryz.func142,Tryz.ntmps142;go_wp2;exact bodyPost_ret (v:=.tuple #[.agg #[.bool false,.bool false,.bool false,.bool false],.bool true]) (by simp[results,Tryz.results142,go_sem]) rfl ⟨rfl,Zr⟩
theorem flds_27 (w:World):G 142 #[I 27] w (yX w ⟨true,false,false,false,false⟩):=by
 go_enter Tryz.func142,Tryz.ntmps142;go_wp2;exact bodyPost_ret (v:=.tuple #[.agg #[.bool false,.bool false,.bool false,.bool false],.bool true]) (by simp[results,Tryz.results142,go_sem]) rfl ⟨rfl,Zr⟩
theorem flds_mid (c:Int)(h:5<=c/\c<=17)(w:World):G 142 #[I c] w (yX w ⟨true,true,true,true,false⟩):=by
 have t1:((c:Int)==1)=false:=Ze;have t2:((c:Int)==2)=false:=Ze;have t3:((c:Int)==3)=false:=Ze;have t4:((c:Int)==4)=false:=Ze;have g:((c:Int)==18)=false:=Ze;have d:((c:Int)==19)=false:=Ze;have d1:decide (5<=c)=true:=by rw[decide_eq_true_eq];omega
 have d2:decide (c<=17)=true:=by rw[decide_eq_true_eq];omega
 clear h;go_enter Tryz.func142,Tryz.ntmps142;go_wp2;exact bodyPost_ret (v:=.tuple #[.agg #[.bool true,.bool true,.bool true,.bool false],.bool true]) (by simp[results,Tryz.results142,go_sem]) rfl ⟨rfl,Zr⟩
theorem flds_low (c:Int)(h:c<1)(w:World):G 142 #[I c] w (yX w ⟨false,false,false,false,false⟩):=by
 have t1:((c:Int)==1)=false:=Ze;have t2:((c:Int)==2)=false:=Ze;have t3:((c:Int)==3)=false:=Ze;have t4:((c:Int)==4)=false:=Ze;have t:((c:Int)==18)=false:=Ze;have q:((c:Int)==19)=false:=Ze;have o:((c:Int)==20)=false:=Ze;have m:((c:Int)==21)=false:=Ze;have l:((c:Int)==22)=false:=Ze;have k:((c:Int)==23)=false:=Ze;have j:((c:Int)==24)=false:=Ze;have i:((c:Int)==25)=false:=Ze;have g:((c:Int)==26)=false:=Ze;have d:((c:Int)==27)=false:=Ze;have d1:decide (5<=c)=false:=by rw[decide_eq_false_iff_not];omega
 clear h;go_enter Tryz.func142,Tryz.ntmps142;go_wp2;exact bodyPost_ret (v:=.tuple #[.agg #[.bool false,.bool false,.bool false,.bool false],.bool false]) (by simp[results,Tryz.results142,go_sem]) rfl ⟨rfl,Zr⟩
theorem iU (c:Int)(h:27<c)(w:World):G 142 #[I c] w (yX w ⟨false,false,false,false,false⟩):=by
 have t1:((c:Int)==1)=false:=Ze;have t2:((c:Int)==2)=false:=Ze;have t3:((c:Int)==3)=false:=Ze;have t4:((c:Int)==4)=false:=Ze;have t:((c:Int)==18)=false:=Ze;have q:((c:Int)==19)=false:=Ze;have o:((c:Int)==20)=false:=Ze;have m:((c:Int)==21)=false:=Ze;have l:((c:Int)==22)=false:=Ze;have k:((c:Int)==23)=false:=Ze;have j:((c:Int)==24)=false:=Ze;have i:((c:Int)==25)=false:=Ze;have g:((c:Int)==26)=false:=Ze;have d:((c:Int)==27)=false:=Ze;have d1:decide (5<=c)=true:=by rw[decide_eq_true_eq];omega
 have d2:decide (c<=17)=false:=by rw[decide_eq_false_iff_not];omega
 clear h;go_enter Tryz.func142,Tryz.ntmps142;go_wp2;exact bodyPost_ret (v:=.tuple #[.agg #[.bool false,.bool false,.bool false,.bool false],.bool false]) (by simp[results,Tryz.results142,go_sem]) rfl ⟨rfl,Zr⟩
theorem yu (c:Int)(w:World):G 142 #[I c] w (yX w (zi c)):=by
 rcases rJ c with⟨h,e⟩|⟨h,e⟩|⟨h,e⟩|⟨h,e⟩|⟨h,e⟩|⟨h,e⟩|⟨h,e⟩|⟨h,e⟩<;>rw[e]
 ·rcases h with rfl|rfl|rfl
  ·exact flds_1 w
  ·exact flds_2 w
  ·exact flds_24 w
 ·rcases h with rfl|rfl|rfl|rfl
  ·exact flds_3 w
  ·exact flds_4 w
  ·exact flds_18 w
  ·exact flds_19 w
 ·exact flds_mid c h w
 ·rcases h with rfl|rfl
  ·exact flds_20 w
  ·exact flds_21 w
 ·rcases h with rfl|rfl
  ·exact flds_22 w
  ·exact flds_23 w
 ·subst h;exact flds_25 w
 ·rcases h with rfl|rfl
  ·exact flds_26 w
  ·exact flds_27 w
 ·rcases h with h|h
  ·exact flds_low c h w
  ·exact iU c h w
def yH (V:PV)(p:IProg):Value:=.agg #[V.fv,V.av,I p.entry,I p.handler,V.dv,V.bv]
def iz (o:IObj):Value:=.agg #[I o.bank,U (o.addr:Int),U (o.size:Int)]
def sW (nb:Nat)(o:IObj):Bool:=
 if o.bank=-1 then decide (0<o.size) && (decide (16384<=o.addr) && decide (o.addr+o.size<=24576))
 else decide (0<o.size) && (decide (0<=o.bank) && (decide (o.bank<nb) && decide (o.addr+o.size<=4096)))
def uK (a b:IObj):Bool:=decide (a.bank=b.bank) && (decide (a.addr<b.addr+b.size) && decide (b.addr<a.addr+a.size))
theorem zZ {P Q:Prop} [Decidable P] [Decidable Q] {b:Bool}(h:decide P=b)(e:P↔Q):decide Q=b:=by rw[<-h];exact decide_eq_decide.2 e.symm
theorem kL{V:PV}{p:IProg}(hp:ProgIn w w.heap.size V p)(o:IObj)(ho:I64 o.bank/\o.addr<65536/\o.size<65536):
 G 135 #[yH V p,iz o] w fun e w'=>e=.returned (.bool (sW p.banks.length o))/\O w w':=by
 obtain⟨Vf,Va,Vd,Vb⟩:=V;obtain⟨f1,f2,e1,_,_⟩:=hp.funcs.form;obtain⟨a1,a2,e2,_,_⟩:=hp.args.form;obtain⟨d1,d2,e3,_,_⟩:=hp.data.form;obtain⟨b1,b2,e4,i,m⟩:=hp.banks.form;simp only at e1 e2 e3 e4;subst e1 e2 e3 e4;unfold yH iz;simp only;have q:p.banks.length<=9223372036854775807:=Zo;obtain⟨k,l,j⟩:=ho;clear hp i;obtain⟨q1,h1⟩:∃b,decide (0<o.size)=b:=⟨_,rfl⟩
 have d:∀M:Nat,∀b,decide (o.addr+o.size<=M)=b->decide ((o.addr:Int)+(o.size:Int)<=(M:Int))=b:=fun M b h=>zZ h Zo
 by_cases c:o.bank=-1
 ·have e:sW p.banks.length o=(decide (0<o.size) && (decide (16384<=o.addr) && decide (o.addr+o.size<=24576))):=if_pos c;obtain⟨q2,h2⟩:∃b,decide (16384<=o.addr)=b:=⟨_,rfl⟩
  obtain⟨q3,h3⟩:∃b,decide (o.addr+o.size<=24576)=b:=⟨_,rfl⟩
  have x:decide ((16384:Int)<=(o.addr:Int))=q2:=zZ h2 Zo;have u:decide ((o.addr:Int)+(o.size:Int)<=24576)=q3:=d 24576 _ h3;have t1:(o.bank==-1)=true:=by rw[beq_iff_eq];exact c
  rw[e,h1,h2,h3];have H3:=Ja h3;clear e d c h3;cases q1<;>cases q2<;>cases q3
  all_goals go_enter Tryz.func135,Tryz.ntmps135
  all_goals go_wp2
  all_goals go_ret
  all_goals exact⟨rfl,((Below.refl _ _).alloc (Je _) _).alloc Zs _⟩
 ·have e:sW p.banks.length o=(decide (0<o.size) && (decide (0<=o.bank) && (decide (o.bank<p.banks.length) && decide (o.addr+o.size<=4096)))):=if_neg c;obtain⟨q2,h2⟩:∃b,decide (0<=o.bank)=b:=⟨_,rfl⟩
  obtain⟨q3,h3⟩:∃b,decide (o.bank<(p.banks.length:Int))=b:=⟨_,rfl⟩
  obtain⟨q4,g⟩:∃b,decide (o.addr+o.size<=4096)=b:=⟨_,rfl⟩
  have t:decide ((o.addr:Int)+(o.size:Int)<=4096)=q4:=d 4096 _ g;have t1:(o.bank==-1)=false:=by rw[beq_eq_false_iff_ne];exact c
  rw[e,h1,h2,h3,g];have y:=Ja g;clear e d c g;cases q1<;>cases q2<;>cases q3<;>cases q4
  all_goals go_enter Tryz.func135,Tryz.ntmps135
  all_goals go_wp2
  all_goals go_ret
  all_goals exact⟨rfl,((Below.refl _ _).alloc (Je _) _).alloc Zs _⟩
theorem nT (w:World)(a b:IObj)(i:I64 a.bank/\a.addr<65536/\a.size<65536)(hb:I64 b.bank/\b.addr<65536/\b.size<65536):
 G 136 #[iz a,iz b] w fun e w'=>e=.returned (.bool (uK a b))/\O w w':=by
 unfold iz;obtain⟨_,h,d⟩:=i;obtain⟨_,g,c⟩:=hb;obtain⟨q1,h1⟩:∃q,decide (a.bank=b.bank)=q:=⟨_,rfl⟩
 obtain⟨q2,h2⟩:∃q,decide (a.addr<b.addr+b.size)=q:=⟨_,rfl⟩
 obtain⟨q3,h3⟩:∃q,decide (b.addr<a.addr+a.size)=q:=⟨_,rfl⟩
 have t1:(a.bank==b.bank)=q1:=by rw[<-h1];rw[Bool.eq_iff_iff,beq_iff_eq,decide_eq_true_eq]
 have t2:decide ((a.addr:Int)<(b.addr:Int)+(b.size:Int))=q2:=zZ h2 Zo;have t3:decide ((b.addr:Int)<(a.addr:Int)+(a.size:Int))=q3:=zZ h3 Zo;have e:uK a b=(q1 && (q2 && q3)):=by unfold uK;rw[h1,h2,h3]
 rw[e];clear e h1 h2 h3;cases q1<;>cases q2<;>cases q3
 all_goals go_enter Tryz.func136,Tryz.ntmps136
 all_goals go_wp2
 all_goals go_ret
 all_goals exact⟨rfl,((Below.refl _ _).alloc (Je _) _).alloc Zs _⟩
def yw (p:IProg)(f:Int):Bool:=decide (0<=f) && (decide (f<p.funcs.length) && (p.args.getD f.toNat 0==0))
theorem kR{V:PV}{p:IProg}(hp:ProgIn w w.heap.size V p)(hl:p.args.length=p.funcs.length)(f:Int):
 G 115 #[yH V p,I f] w fun e w'=>e=.returned (.bool (yw p f))/\O w w':=by
 obtain⟨Vf,Va,Vd,Vb⟩:=V;obtain⟨f1,f2,e1,h,m⟩:=hp.funcs.form;have c:=hp.args;obtain⟨a1,a2,e2,_,_⟩:=hp.args.form;obtain⟨d1,d2,e3,_,_⟩:=hp.data.form;obtain⟨b1,b2,e4,_,_⟩:=hp.banks.form;simp only at e1 e2 e3 e4 c;subst e1 e2 e3 e4;unfold yH;simp only;have t:p.funcs.length<=9223372036854775807:=Zo;clear hp h;have j:O w (w.alloc (T (R p f1 f2 a1 a2 d1 d2 b1 b2) 29)):=(Below.refl _ _).alloc (Je _) _
 by_cases d:0<=f
 ·obtain⟨k,rfl⟩:∃k:Nat,f=(k:Int):=⟨f.toNat,by omega⟩
  by_cases h1:k<p.funcs.length
  ·obtain⟨x,g⟩:∃x,p.args[k]? =some x:=⟨_,Jd Zo⟩
   obtain⟨b,o,rfl,hb,i,_⟩:=c.get g;rw[Nk] at i;have u:=zV j hb i;obtain⟨q,hq⟩:∃q,(x==0)=q:=⟨_,rfl⟩
   have e:yw p k=q:=by unfold yw;rw[decide_eq_true d,decide_eq_true (show(k:Int)<p.funcs.length by omega),Ni,Jj,g];exact hq
   rw[e];have t1:decide (k<p.funcs.length)=true:=decide_eq_true h1;have l:(k:Int)<p.args.length:=Zo;clear e d h1 g c;cases q
   all_goals go_enter Tryz.func115,Tryz.ntmps115
   all_goals go_wp2
   all_goals go_ret
   all_goals exact⟨rfl,(Below.refl _ _).alloc (Je _) _⟩
  ·have e:yw p k=false:=by unfold yw;rw[decide_eq_true d,decide_eq_false (show ¬(k:Int)<p.funcs.length by omega)];rfl
   rw[e];have t1:decide (k<p.funcs.length)=false:=decide_eq_false h1;clear e d h1 c;go_enter Tryz.func115,Tryz.ntmps115;go_wp2;go_ret;exact⟨rfl,(Below.refl _ _).alloc (Je _) _⟩
 ·have e:yw p f=false:=by unfold yw;rw[decide_eq_false d];rfl
  rw[e];have t1:decide (0<=f)=false:=decide_eq_false d;clear e d c;go_enter Tryz.func115,Tryz.ntmps115;go_wp2;go_ret;exact⟨rfl,(Below.refl _ _).alloc (Je _) _⟩
def mh (l:List ByteArray):Bool:=l.all fun s=>decide (s.size=4096)
def lF (o:IObj)(l:List IObj):Bool:=l.all fun x=>!uK o x
def lm (nb:Nat)(l:List IObj)(i:Nat):Bool:=match l[i]? with|some o=>sW nb o && lF o (l.take i)|none=>true
def ig (nb:Nat)(l:List IObj):Bool:=(List.range l.length).all (lm nb l)
def wB (p:IProg):Bool:=mh p.banks && ig p.banks.length p.data
theorem xX{α:Type}(f:α->Bool){l:List α}{x:α}(h:l[k]? =some x):(l.take (k+1)).all f=((l.take k).all f && f x):=by
 rw[Nh,h,List.all_append];simp
theorem aaN{α:Type}(f:α->Bool){l:List α}{x:α}(h:l[k]? =some x)(hf:f x=false):l.all f=false:=by
 rw[Um];exact⟨x,Ji h,by rw[hf];simp⟩
theorem mO{nb:Nat}{l:List IObj}(hi:i<l.length)(h:lm nb l i=false):ig nb l=false:=by
 unfold ig;rw[Um];exact⟨i,Ol.2 hi,by rw[h];simp⟩
def mQ (nb:Nat)(l:List IObj)(i:Nat):Bool:=(List.range i).all (lm nb l)
theorem nU (nb:Nat)(l:List IObj)(i:Nat):mQ nb l (i+1)=(mQ nb l i && lm nb l i):=by unfold mQ;rw[List.range_succ,List.all_append];simp
theorem kN{V:PV}{p:IProg}(hp:ProgIn w w.heap.size V p):
 G 116 #[yH V p] w fun e w'=>e=.returned (.bool (wB p))/\O w w':=by
 obtain⟨Vf,Va,Vd,Vb⟩:=V;obtain⟨f1,f2,e1,_,_⟩:=hp.funcs.form;obtain⟨a1,a2,e2,_,_⟩:=hp.args.form;have c7:=hp.data;have c8:=hp.banks;obtain⟨d1,d2,e3,i3,k1⟩:=hp.data.form;obtain⟨b1,b2,e4,k6,k4⟩:=hp.banks.form;simp only at e1 e2 e3 e4 c7 c8;subst e1 e2 e3 e4;have HP:=Ja hp;have h6:=Ja c7;have j0:=Ja c8;unfold yH;simp only;have k2:p.data.length<=d2:=i3;have k5:p.banks.length<=9223372036854775807:=Zo;clear hp c7 c8;go_enter Tryz.func116,Tryz.ntmps116;go_upto_region 1 with fail;have g8:O w (w.alloc (T (R p f1 f2 a1 a2 d1 d2 b1 b2) 29)):=(Below.refl _ _).alloc (Je _) _;have b5:=zI (W:=w) (o:=T (R p f1 f2 a1 a2 d1 d2 b1 b2) 29) rfl;generalize i9:w.alloc (T (R p f1 f2 a1 a2 d1 d2 b1 b2) 29)=W0 at *;have t:=Ja g8;have b9:=Ja b5;have p5:=K5 b5;have p4:=K4 b5;clear i9 g8 b5;go_wp2
 go_loopw [12] (fun kv wx=>∃k:Nat,k<=p.banks.length/\kv=I k/\wx=W0/\Hid ((p.banks.take k).all (fun s=>decide (s.size=4096))=true)) (fun kv _=>p.banks.length-(intOf kv).toNat)
 case atStart=>exact⟨0,Jt _,rfl,rfl,by rfl⟩
 case round=>
  obtain⟨k,hk,rfl,rfl,HK⟩:=hrel;generalize i5:wr=W0 at *;clear i5
  by_cases d0:k<p.banks.length
  ·have i0:(k:Int)<p.banks.length:=Zo;have h8:=Ja d0;obtain⟨s,hs⟩:∃s,p.banks[k]? =some s:=⟨_,Jd d0⟩
   obtain⟨b,o,rfl,hb,hc,k0⟩:=j0.out.get hs;rw[Nk] at hc;have cs:=zV t.out hb hc;have a5:=xX (fun s:ByteArray=>decide (s.size=4096)) hs;have a6:=fun h=>aaN (fun s:ByteArray=>decide (s.size=4096)) hs h
   have HT:=Ja (Jb a5 a6);clear hs hc hb a5 a6 d0
   by_cases hq:s.size=4096
   ·have t1:((s.size:Int) !=4096)=false:=by rw[bne_eq_false_iff_eq];omega
    have HQ:=Ja hq;clear hq;go_wp2;go_roundw
    case rel=>exact⟨k+1,h8.out,by go_num,by trivial,Ja (by rw[HT.out.1,HK.out];simp[HQ.out])⟩
    case measure=>have:=h8.out;simp[intOf];omega
   ·have t1:((s.size:Int) !=4096)=true:=by rw[bne_iff_ne];omega
    have HQ:=Ja hq;clear hq;go_wp2;go_ret;refine⟨rH ?_,t.out⟩;have i2:mh p.banks=false:=HT.out.2 (by simp[HQ.out]);unfold wB;rw[i2];rfl
  ·obtain rfl:k=p.banks.length:=by omega
   have i0:¬(p.banks.length:Int)<p.banks.length:=Zo;have g5:mh p.banks=true:=by have:=HK.out;rw[Nl] at this;exact this
   have f9:wB p=ig p.banks.length p.data:=by unfold wB;rw[g5];rfl
   have d5:=Ja f9;clear g5 f9 HK;go_wp2
   go_loopw [23] (fun iv wx=>∃i:Nat,i<=p.data.length/\iv=I i/\Hid (O W0 wx/\mQ p.banks.length p.data i=true)) (fun iv _=>p.data.length-(intOf iv).toNat)
   case atStart=>exact⟨0,Jt _,rfl,Below.refl _ _,by rfl⟩
   case round=>
    obtain⟨i,hi,rfl,HI⟩:=hrel
    by_cases a0:i<p.data.length
    ·skip
     have e8:(i:Int)<p.data.length:=Zo;have e6:=Ja a0;obtain⟨o,ho⟩:∃o,p.data[i]? =some o:=⟨_,Jd a0⟩
     obtain⟨b,oo,rfl,hb,a9,a8,a7,g2,g3,g0⟩:=h6.out.get ho;have c:O w wr:=t.out.trans (HI.out.1.mono t.out.size);have e0:=zV c hb a9;have e1:=zV c hb a8;have e2:=zV c hb a7;have x4:=zA (i:=4) (v:=.slice (some ⟨b,oo,none⟩) p.data.length d2) (zH HI.out.1 b9.out (lt_of_block b9.out)) Zs;have d3:=zH HI.out.1 b9.out (lt_of_block b9.out);have h7:=Ja (show I64 o.bank/\o.addr<65536/\o.size<65536 from⟨g2,g3,g0⟩);have k7:=Ja c;have HO:=Ja (Jb ho hb);have g1:lm p.banks.length p.data i=(sW p.banks.length o && lF o (p.data.take i)):=by unfold lm;rw[ho]
     have d7:=Ja g1;have g4:=fun h=>mO (nb:=p.banks.length) a0 h
     have h9:=Ja g4;clear ho hb a9 a8 a7 g2 g3 g0 a0 c g1 g4 p5 p4;go_upto_region 10 with fail;have a4:=zI (W:=wr) (o:=T #[I o.bank,U (o.addr:Int),U (o.size:Int)] 89) rfl;have g:=zB (o:=T #[I o.bank,U (o.addr:Int),U (o.size:Int)] 89) d3;have c2:=HI.out.1.alloc (HI.out.1.size) (T #[I o.bank,U (o.addr:Int),U (o.size:Int)] 89);have k3:W0.heap.size<=wr.heap.size:=HI.out.1.size;generalize i7:wr.alloc (T #[I o.bank,U (o.addr:Int),U (o.size:Int)] 89)=W1 at *;generalize wr.heap.size=b6 at *;have f3:=K0 a4;have f0:=K1 a4;have e9:=K2 a4;have y0:=K0 g;have y1:=K1 g;have y2:=K2 g;have y3:=K3 g;have y4:=K4 g;have y5:=K5 g;have m:=Ja (Jb c2 (t.out.trans (c2.mono t.out.size)));have HZ:=Ja (Jb a4 g);have a3:=kL ((HP.out.below m.out.2).mono m.out.2.size) o h7.out;unfold yH iz at a3;simp only at a3;have b3:=Ja a3;clear i7 a4 g c2 a3 d3 e0 e1 e2 x4;obtain⟨q1,c5⟩:∃q,sW p.banks.length o=q:=⟨_,rfl⟩
     rw[c5] at b3;have h5:=Ja c5;clear c5
     cases q1 with
     |false=>
      go_wp2_with (go_at_call 135;go_must (refine b3.out.mono ?_;rintro e w2 ⟨rfl,l⟩))
      go_ret;refine⟨rH ?_,m.out.2.trans (l.mono m.out.2.size)⟩;rw[d5.out]
      exact(h9.out (by rw[d7.out,h5.out];rfl)).symm
     |true=>
      go_upto_region 12 with(go_at_call 135;go_must (refine b3.out.mono ?_;rintro e w2 ⟨rfl,l⟩))
      have v4:=zA (i:=4) (v:=.slice (some ⟨b,oo,none⟩) p.data.length d2) (zH l HZ.out.2 (lt_of_block HZ.out.2)) Zs;have h0:=Ja (Jb (zH l HZ.out.1 (lt_of_block HZ.out.1)) l);have c3:=m.out.2.trans (l.mono m.out.2.size);have d:=Ja (Jb c3 (m.out.1.trans (l.mono m.out.1.size)));have j1:i<=d2:=Zo;clear f3 f0 e9 y0 y1 y2 y3 y4 y5 l c3;go_wp2
      go_loopw [37] (fun jv wx=>∃j:Nat,j<=i/\jv=I j/\Hid (O w2 wx/\lF o (p.data.take j)=true)) (fun jv _=>i-(intOf jv).toNat)
      case atStart=>exact⟨0,Jt _,rfl,Below.refl _ _,by rfl⟩
      case round=>
       obtain⟨j,hj,rfl,HJ⟩:=hrel
       by_cases b0:j<i
       ·have e7:(j:Int)<i:=Zo;have e5:=Ja b0;obtain⟨x,hx⟩:∃x,p.data[j]? =some x:=⟨_,Jd Zo⟩
        obtain⟨b',o',e',b7,a9,a8,a7,f6,f7,f5⟩:=h6.out.get hx;cases e';have c:=d.out.1.trans (HJ.out.1.mono d.out.1.size);have e0:=zV c b7 a9;have e1:=zV c b7 a8;have e2:=zV c b7 a7;have f4:=zH HJ.out.1 h0.out.1 (lt_of_block h0.out.1);have i1:=Ja (show I64 x.bank/\x.addr<65536/\x.size<65536 from⟨f6,f7,f5⟩);have a5:=xX (fun y=>!uK o y) hx;have f8:(p.data.take i)[j]? =some x:=by rw[Ug,if_pos b0];exact hx
        have a6:=fun h=>aaN (fun y=>!uK o y) f8 h
        have HT:=Ja (Jb a5 a6);have j2:=Ja c;clear hx b7 a9 a8 a7 f6 f7 f5 a5 a6 f8 b0 c;go_upto_region 15 with fail;have b4:=zI (W:=wr) (o:=T #[I x.bank,U (x.addr:Int),U (x.size:Int)] 89) rfl;have u:=zB (o:=T #[I x.bank,U (x.addr:Int),U (x.size:Int)] 89) f4;have g6:=HJ.out.1.alloc HJ.out.1.size (T #[I x.bank,U (x.addr:Int),U (x.size:Int)] 89);generalize i6:wr.alloc (T #[I x.bank,U (x.addr:Int),U (x.size:Int)] 89)=W8 at *;generalize wr.heap.size=b8 at *;have f3:=K0 u;have f0:=K1 u;have e9:=K2 u;have j5:=K0 b4;have j4:=K1 b4;have j3:=K2 b4;have c9:=nT W8 o x h7.out i1.out;unfold iz at c9;have d6:=Ja c9;have c0:=Ja g6;clear i6 b4 u f4 g6 c9 e0 e1 e2;obtain⟨q2,c4⟩:∃q,uK o x=q:=⟨_,rfl⟩
        rw[c4] at d6;have h4:=Ja c4;clear c4
        cases q2 with
        |true=>
         go_wp2_with (go_at_call 136;go_must (refine d6.out.mono ?_;rintro e w3 ⟨rfl,d4⟩))
         go_ret;have i4:=c0.out.trans (d4.mono c0.out.size);refine⟨rH ?_,d.out.1.trans (i4.mono d.out.1.size)⟩;rw[d5.out]
         exact(h9.out (by rw[d7.out];unfold lF;rw[HT.out.2 (by rw[h4.out];rfl),Uh])).symm
        |false=>
         go_wp2_with (go_at_call 136;go_must (refine d6.out.mono ?_;rintro e w3 ⟨rfl,d4⟩))
         go_roundw
         case rel=>exact⟨j+1,e5.out,by go_num,Ja ⟨c0.out.trans (d4.mono c0.out.size),by unfold lF;rw[HT.out.1];have:=HJ.out.2;unfold lF at this;rw[this,h4.out];rfl⟩⟩
         case measure=>have:=e5.out;simp[intOf];omega
       ·obtain rfl:j=i:=by omega
        have e7:¬(j:Int)<j:=Zo;go_wp2;go_roundw
        case rel=>
         refine⟨j+1,e6.out,by go_num,Ja ⟨d.out.2.trans (HJ.out.1.mono d.out.2.size),?_⟩⟩;rw[nU,HI.out.2,d7.out,h5.out,HJ.out.2];rfl
        case measure=>have:=e6.out;simp[intOf];omega
    ·obtain rfl:i=p.data.length:=by omega
     have e8:¬(p.data.length:Int)<p.data.length:=Zo;go_wp2;go_ret;refine⟨rH ?_,t.out.trans (HI.out.1.mono t.out.size)⟩;rw[d5.out];exact HI.out.2.symm
def tX (n:Int):Bool:=decide (0<=n) && decide (n<=8)
def sR (p:IProg):Int:=
 if 2000<p.funcs.length∨512<p.data.length∨64<p.banks.length then 2
 else if p.args.length≠p.funcs.length then 1
 else if p.args.all tX=false then 1
 else if yw p p.entry=false∨(p.handler≠-1/\yw p p.handler=false) then 1
 else if wB p=false then 37
 else 0
def m9 (w:World)(x:Int)(e:Ending)(w':World):Prop:=e=.returned (I x)/\O w w'
theorem kB{V:PV}{p:IProg}(hp:ProgIn w w.heap.size V p):G 68 #[yH V p] w (m9 w (sR p)):=by
 have i:∀(W:World),O w W->p.args.length=p.funcs.length->∀f,G 115 #[yH V p,I f] W fun e w'=>e=.returned (.bool (yw p f))/\O W w':=fun W hb hl f=>kR ((hp.below hb).mono hb.size) hl f
 have j:∀(W:World),O w W->G 116 #[yH V p] W fun e w'=>e=.returned (.bool (wB p))/\O W w':=fun W hb=>kN ((hp.below hb).mono hb.size)
 obtain⟨Vf,Va,Vd,Vb⟩:=V;obtain⟨f1,f2,e1,_,_⟩:=hp.funcs.form;have b8:=hp.args;obtain⟨a1,a2,e2,_,_⟩:=hp.args.form;obtain⟨d1,d2,e3,_,_⟩:=hp.data.form;obtain⟨b1,b2,e4,_,_⟩:=hp.banks.form;simp only at e1 e2 e3 e4 b8;subst e1 e2 e3 e4;unfold yH at i j ⊢;simp only at i j ⊢;have e9:p.args.length<=9223372036854775807:=Zo;have e7:=Ja b8;have d0:=Ja i;have d5:=Ja j;have a9:O w (w.alloc (T (R p f1 f2 a1 a2 d1 d2 b1 b2) 29)):=(Below.refl _ _).alloc (Je _) _;have l:=zI (W:=w) (o:=T (R p f1 f2 a1 a2 d1 d2 b1 b2) 29) rfl;obtain⟨q1,h1⟩:∃q,decide (2000<p.funcs.length)=q:=⟨_,rfl⟩
 obtain⟨q2,h2⟩:∃q,decide (512<p.data.length)=q:=⟨_,rfl⟩
 obtain⟨q3,h3⟩:∃q,decide (64<p.banks.length)=q:=⟨_,rfl⟩
 have f4:decide ((2000:Int)<(p.funcs.length:Int))=q1:=zZ h1 Zo;have f3:decide ((512:Int)<(p.data.length:Int))=q2:=zZ h2 Zo;have f0:decide ((64:Int)<(p.banks.length:Int))=q3:=zZ h3 Zo;have HQ:=Ja (Jb h1 (Jb h2 h3));clear hp b8 i j
 by_cases u:q1=true∨q2=true∨q3=true
 ·have hh:sR p=2:=by
   unfold sR;rw[if_pos];rcases u with e|e|e
   ·exact .inl (of_decide_eq_true (HQ.out.1.trans e))
   ·exact .inr (.inl (of_decide_eq_true (HQ.out.2.1.trans e)))
   ·exact .inr (.inr (of_decide_eq_true (HQ.out.2.2.trans e)))
  rw[hh];have HB:=Ja u;clear hh u l;cases q1<;>cases q2<;>cases q3
  all_goals first
   |(exfalso;have:=HB.out;simp at this;done)
   |(go_enter Tryz.func68,Tryz.ntmps68
     go_wp2;go_ret
     exact⟨rfl,a9⟩)
 ·obtain⟨e1,e2,e3⟩:q1=false/\q2=false/\q3=false:=by
   cases q1<;>cases q2<;>cases q3<;>simp at u ⊢
  subst e1 e2 e3
  have c7:sR p=if p.args.length≠p.funcs.length then 1 else if p.args.all tX=false then 1 else if yw p p.entry=false∨(p.handler≠-1/\yw p p.handler=false) then 1 else if wB p=false then 37 else 0:=by
   unfold sR;rw[if_neg];rintro(e|e|e)
   ·exact absurd e (of_decide_eq_false HQ.out.1)
   ·exact absurd e (of_decide_eq_false HQ.out.2.1)
   ·exact absurd e (of_decide_eq_false HQ.out.2.2)
  rw[c7];clear c7 u
  by_cases hl:p.args.length=p.funcs.length
  ·rw[if_neg (fun h=>h hl)];generalize b4:(if p.args.all tX=false then(1:Int) else if yw p p.entry=false∨(p.handler≠-1/\yw p p.handler=false) then 1 else if wB p=false then 37 else 0)=res;have c2:=Ja b4;clear b4;have t1:((p.args.length:Int) !=(p.funcs.length:Int))=false:=by rw[bne_eq_false_iff_eq];omega
   have HL:=Ja hl;clear hl;go_enter Tryz.func68,Tryz.ntmps68;go_upto_region 5 with fail;generalize e6:w.alloc (T (R p f1 f2 a1 a2 d1 d2 b1 b2) 29)=W0 at *;have g:=Ja a9;have a0:=Ja l;have y0:=K0 l;have y1:=K1 l;have y2:=K2 l;have y3:=K3 l;have y4:=K4 l;have y5:=K5 l;clear e6 a9 l;go_wp2
   go_loopw [31] (fun kv wx=>∃k:Nat,k<=p.args.length/\kv=I k/\wx=W0/\Hid ((p.args.take k).all tX=true)) (fun kv _=>p.args.length-(intOf kv).toNat)
   case atStart=>exact⟨0,Jt _,rfl,rfl,by rfl⟩
   case round=>
    obtain⟨k,hk,rfl,rfl,HK⟩:=hrel;generalize e5:wr=W0 at *;clear e5
    by_cases b9:k<p.args.length
    ·have d7:(k:Int)<p.args.length:=Zo;have d6:=Ja b9;obtain⟨n,hn⟩:∃n,p.args[k]? =some n:=⟨_,Jd b9⟩
     obtain⟨b,o,rfl,hb,hc,e8⟩:=e7.out.get hn;rw[Nk] at hc;have cn:=zV g.out hb hc;have HT:=Ja (Jb (xX tX hn) (fun h=>aaN tX hn h));obtain⟨q1,g1⟩:∃q,decide (0<=n)=q:=⟨_,rfl⟩
     obtain⟨q2,g2⟩:∃q,decide (n<=8)=q:=⟨_,rfl⟩
     have c9:decide (n<0)=!q1:=by rw[<-g1];by_cases h:0<=n<;>simp[h]<;>omega
     have c8:decide (8<n)=!q2:=by rw[<-g2];by_cases h:n<=8<;>simp[h]<;>omega
     have HA:=Ja (show tX n=(q1 && q2) by unfold tX;rw[g1,g2]);clear hn hc hb b9 g1 g2;cases q1<;>cases q2
     case true.true=>
      simp only[Bool.not_true] at c9 c8;go_wp2;go_roundw
      case rel=>exact⟨k+1,d6.out,by go_num,by trivial,Ja (by rw[HT.out.1,HK.out,HA.out];rfl)⟩
      case measure=>have:=d6.out;simp[intOf];omega
     all_goals simp only[Bool.not_true,Bool.not_false] at c9 c8
     all_goals go_wp2
     all_goals go_ret
     all_goals refine⟨zh ?_,g.out⟩
     all_goals rw[<-c2.out,if_pos (HT.out.2 (by rw[HA.out];rfl))]
    ·obtain rfl:k=p.args.length:=by omega
     have d7:¬(p.args.length:Int)<p.args.length:=Zo;have c0:p.args.all tX=true:=by have:=HK.out;rw[Nl] at this;exact this
     have b5:=c2.out;rw[if_neg (by rw[c0];simp)] at b5;have b3:=Ja b5;clear b5 c0 HK;go_upto_region 11 with fail;obtain⟨qe,b7⟩:∃q,yw p p.entry=q:=⟨_,rfl⟩
     have c5:G 115 #[.agg (R p f1 f2 a1 a2 d1 d2 b1 b2),I p.entry] W0 fun e w'=>e=.returned (.bool qe)/\O W0 w':=by rw[<-b7];exact d0.out _ g.out HL.out _
     have b0:=Ja c5;have c3:=Ja b7;clear c5 b7
     cases qe with
     |false=>
      go_wp2_with (go_at_call 115;go_must (refine b0.out.mono ?_;rintro e w2 ⟨rfl,m⟩))
      go_ret;refine⟨zh ?_,g.out.trans (m.mono g.out.size)⟩
      rw[<-b3.out,if_pos (.inl c3.out)]
     |true=>
      by_cases hh:p.handler=-1
      ·have t2:(p.handler !=-1)=false:=by rw[bne_eq_false_iff_eq];exact hh
       have a5:Hid ((if wB p=false then(37:Int) else 0)=res):=by
        have h:=b3.out;rw[if_neg (by rintro(e|e);(rw[c3.out] at e;cases e);exact e.1 hh)] at h;exact h
       clear hh;go_upto_region 13 with(go_at_call 115;go_must (refine b0.out.mono ?_;rintro e w2 ⟨rfl,m⟩;have c:=zH m a0.out (lt_of_block a0.out);have u0:=K0 c;have u1:=K1 c;have u2:=K2 c;have u3:=K3 c;have u4:=K4 c;have u5:=K5 c))
       have d:=g.out.trans (m.mono g.out.size);obtain⟨qp,t⟩:∃q,wB p=q:=⟨_,rfl⟩
       have a3:G 116 #[.agg (R p f1 f2 a1 a2 d1 d2 b1 b2)] w2 fun e w'=>e=.returned (.bool qp)/\O w2 w':=by rw[<-t];exact d5.out _ d
       have a7:=Ja a3;have a6:=Ja t;clear a3 t
       cases qp with
       |false=>
        go_wp2_with (go_at_call 116;go_must (refine a7.out.mono ?_;rintro e w5 ⟨rfl,x⟩))
        go_ret;refine⟨zh ?_,(d).trans (x.mono (d).size)⟩
        rw[<-a5.out,if_pos a6.out]
       |true=>
        go_wp2_with (go_at_call 116;go_must (refine a7.out.mono ?_;rintro e w5 ⟨rfl,x⟩))
        go_ret;refine⟨zh ?_,(d).trans (x.mono (d).size)⟩;rw[<-a5.out,if_neg (by rw[a6.out];simp)]
      ·have t2:(p.handler !=-1)=true:=by rw[bne_iff_ne];exact hh
       obtain⟨qh,b6⟩:∃q,yw p p.handler=q:=⟨_,rfl⟩
       have d4:=Ja b6;have c4:∀W,O w W->G 115 #[.agg (R p f1 f2 a1 a2 d1 d2 b1 b2),I p.handler] W fun e w'=>e=.returned (.bool qh)/\O W w':=fun W hb=>by rw[<-b6];exact d0.out _ hb HL.out _
       have d3:=Ja c4;have HH:=Ja hh;have g1:True:=trivial;clear hh b6 c4
       cases qh with
       |false=>
        go_wp2_with (first|(go_at_call 115;have e0:=g1;clear g1;go_must (refine b0.out.mono ?_;rintro e w2 ⟨rfl,m⟩;have c:=zH m a0.out (lt_of_block a0.out);have u0:=K0 c;have u1:=K1 c;have u2:=K2 c;have u3:=K3 c;have u4:=K4 c;have u5:=K5 c;have d:=g.out.trans (m.mono g.out.size)))|(go_at_call 115;go_must (refine(d3.out _ d).mono ?_;rintro e w4 ⟨rfl,a8⟩)))
        go_ret;refine⟨zh ?_,d.trans (a8.mono d.size)⟩
        rw[<-b3.out,if_pos (.inr ⟨HH.out,d4.out⟩)]
       |true=>
        have a5:Hid ((if wB p=false then(37:Int) else 0)=res):=by
         have h:=b3.out;rw[if_neg (by rintro(e|e);(rw[c3.out] at e;cases e);(rw[d4.out] at e;cases e.2))] at h;exact h
        go_upto_region 13 with(first|(go_at_call 115;have e0:=g1;clear g1;go_must (refine b0.out.mono ?_;rintro e w2 ⟨rfl,m⟩;have c:=zH m a0.out (lt_of_block a0.out);have u0:=K0 c;have u1:=K1 c;have u2:=K2 c;have u3:=K3 c;have u4:=K4 c;have u5:=K5 c;have d:=g.out.trans (m.mono g.out.size)))|(go_at_call 115;go_must (refine(d3.out _ d).mono ?_;rintro e w4 ⟨rfl,a8⟩;have y:=zH a8 c (lt_of_block c);have v0:=K0 y;have v1:=K1 y;have v2:=K2 y;have v3:=K3 y;have v4:=K4 y;have v5:=K5 y)))
        have a4:=d.trans (a8.mono d.size);obtain⟨qp,t⟩:∃q,wB p=q:=⟨_,rfl⟩
        have a3:G 116 #[.agg (R p f1 f2 a1 a2 d1 d2 b1 b2)] w4 fun e w'=>e=.returned (.bool qp)/\O w4 w':=by rw[<-t];exact d5.out _ a4
        have a7:=Ja a3;have a6:=Ja t;clear a3 t
        cases qp with
        |false=>
         go_wp2_with (go_at_call 116;go_must (refine a7.out.mono ?_;rintro e w5 ⟨rfl,x⟩))
         go_ret;refine⟨zh ?_,(a4).trans (x.mono (a4).size)⟩
         rw[<-a5.out,if_pos a6.out]
        |true=>
         go_wp2_with (go_at_call 116;go_must (refine a7.out.mono ?_;rintro e w5 ⟨rfl,x⟩))
         go_ret;refine⟨zh ?_,(a4).trans (x.mono (a4).size)⟩;rw[<-a5.out,if_neg (by rw[a6.out];simp)]
  ·rw[if_pos hl];have t1:((p.args.length:Int) !=(p.funcs.length:Int))=true:=by rw[bne_iff_ne];omega
   clear hl l;go_enter Tryz.func68,Tryz.ntmps68;go_wp2;go_ret;exact⟨rfl,a9⟩
structure MK where
 E:IEnv
 V:PV
 inv:Value
 irqv:Value
 pm:Nat
 rb:Nat
 B:Nat
variable {K:MK}
def r9 (K:MK)(m:Mach)(ov:Value):Array Value:=
 #[K.V.fv,K.V.av,I K.E.p.entry,I K.E.p.handler,K.V.dv,K.V.bv,F K.rb 8192 8192,K.inv,K.irqv,I m.fuel,ov,I (m.inputs:Int),I (m.polls:Int)]
def qO (l:List (Nat×Nat)):List Value:=(l.map fun p=> [vL p.1,vL p.2]).flatten
structure MachAt (w:World) (K:MK) (m:Mach) (ov:Value):Prop where
 blk:w.heap[K.pm]? =some (.cells (r9 K m ov) 210 (0,0))
 ram:w.heap[K.rb]? =some (.cells (m.ram.map wz).toArray 5 (0,0))
 rlen:m.ram.length=8192
 rlt:∀x∈m.ram,x<256
 out:w.ownsRow K.B 117 2 ov m.out.length (qO m.out)
 olt:∀p∈m.out,p.1<65536/\p.2<65536
 obd:m.out.length+m.fuel.toNat<=4000000
 fuel:I64 m.fuel
 inp:m.inputs<=K.E.inn.length
 pol:m.polls<=K.E.irq.length
 gpm:K.B<=K.pm
 grb:K.B<=K.rb
 prog:ProgIn w K.B K.V K.E.p
 inn:wV w K.B K.inv K.E.inn
 irq:dL w K.B K.irqv K.E.irq
def sA:Obj->Prop
 |.cells _ t _=>t≠210/\t≠117/\t≠5
 |_=>True
structure Frm (B:Nat) (w w':World):Prop where
 below:Below B w w'
 kept:∀(k:Nat) (o:Obj),w.heap[k]? =some o->sA o->w'.heap[k]? =some o
theorem Frm.refl (B:Nat)(w:World):Frm B w w:=⟨Below.refl _ _,fun _ _ h _=>h⟩
theorem Frm.trans {B:Nat}{a b c:World}(h:Frm B a b)(k:Frm B b c):Frm B a c:=⟨h.below.trans k.below,fun i o hi hs=>k.kept i o (h.kept i o hi hs) hs⟩
theorem Frm.drewN{B n:Nat}{a:World}(h:Frm B a w):Frm B a (w.drewN n):=⟨yC h.below,h.kept⟩
theorem Frm.alloc{B:Nat}{a:World}(h:Frm B a w)(hB:B<=a.heap.size)(o:Obj):Frm B a (w.alloc o):=⟨h.below.alloc (Jn hB h.below.size) o,fun i o' hi hs=>zB (h.kept i o' hi hs)⟩
theorem Frm.set{B:Nat}{a:World}(h:Frm B a w){b:Nat}{cs:Array Value}{t:TypeId}(hb:Q w b cs t)(hB:B<=b)(ht:¬sA (T cs t))(u:Value):Frm B a (w.setCell ⟨b,i,none⟩ u):=
 ⟨h.below.setCell hB u,fun k o hk hs=>by
   have h1:=h.kept k o hk hs;refine zR h1 ?_;rintro rfl;rw[hb] at h1
   exact ht (by rw[Nt h1];exact hs)⟩
def oE (k i:Nat):PanicEntry:= {v:=.iface 213 (.agg #[I k,U i]),recovered:=false }
def endOf:Res Nat->Ending
 |.ok x _=> .returned (U x)
 |.trap k i _=> .panicked [oE k i]
def Res.mach {α:Type}:Res α->Mach
 |.ok _ m=>m
 |.trap _ _ m=>m
theorem MachAt.cell {w:World}{K:MK}{m:Mach}{ov:Value}(h:MachAt w K m ov){i:Nat}{v:Value}(hv:(r9 K m ov)[i]? =some v):A w K.pm i v:=zA h.blk hv
section
variable {w:World} {K:MK} {m:Mach} {ov:Value} (h:MachAt w K m ov)
include h
theorem MachAt.c0:A w K.pm 0 K.V.fv:=h.cell rfl
theorem MachAt.c6:A w K.pm 6 (F K.rb 8192 8192):=h.cell rfl
theorem MachAt.c9:A w K.pm 9 (I m.fuel):=h.cell rfl
theorem MachAt.c10:A w K.pm 10 ov:=h.cell rfl
theorem MachAt.c11:A w K.pm 11 (I (m.inputs:Int)):=h.cell rfl
theorem MachAt.c12:A w K.pm 12 (I (m.polls:Int)):=h.cell rfl
end
theorem MachAt.free{ov:Value}(h:MachAt w K m ov)(i:Nat):N w K.pm i:=zE h.blk
theorem MachAt.keep{ov:Value}(h:MachAt w K m ov)(hb:O w w'):MachAt w' K m ov:=
 ⟨zH hb h.blk (lt_of_block h.blk),zH hb h.ram (lt_of_block h.ram),h.rlen,h.rlt,p7 h.out hb (Je _),h.olt,h.obd,h.fuel,h.inp,h.pol,h.gpm,h.grb,
  h.prog.below (hb.mono (Jn h.gpm (Qd (lt_of_block h.blk)))),h.inn.below zr (hb.mono (Jn h.gpm (Qd (lt_of_block h.blk)))),h.irq.below xQ (hb.mono (Jn h.gpm (Qd (lt_of_block h.blk))))⟩
theorem MachAt.drewN{ov:Value}(h:MachAt w K m ov)(n:Nat):MachAt (w.drewN n) K m ov:=h.keep (yL _ _ _)
theorem MachAt.size{ov:Value}(h:MachAt w K m ov):K.B<w.heap.size:=Nat.lt_of_le_of_lt h.gpm (lt_of_block h.blk)
theorem wj (k i:Nat)(w:World):G 153 #[I k,U i] w fun e w'=>e=.panicked [oE k i]/\w=w':=by
 go_enter Tryz.func153,Tryz.ntmps153;go_wp2;exact⟨rfl,rfl,rfl⟩
theorem MachAt.setF{ov:Value}(h:MachAt w K m ov)(f:Int)(hf:I64 f)(hb:m.out.length+f.toNat<=4000000)(c:K.rb≠K.pm):MachAt (w.setCell ⟨K.pm,9,none⟩ (I f)) K {m with fuel:=f } ov:=by
 refine⟨?_,zR h.ram (by simpa using c),h.rlen,h.rlt,ownsRow_setCell_other h.out ?_ _,h.olt,hb,hf,h.inp,h.pol,h.gpm,h.grb,?_,?_,?_⟩
 ·rw[zD h.blk];rfl
 ·intro e;exact zC h.out h.blk (.inr Zd) (by simpa using e)
 ·exact h.prog.below ((Below.refl _ _).setCell h.gpm _)
 ·exact h.inn.below zr ((Below.refl _ _).setCell h.gpm _)
 ·exact h.irq.below xQ ((Below.refl _ _).setCell h.gpm _)
theorem MachAt.ne{ov:Value}(h:MachAt w K m ov):K.rb≠K.pm:=by
 intro e;have h1:=h.blk;have h2:=h.ram;rw[e,h1] at h2;simp at h2
theorem MachAt.frm{ov:Value}(h:MachAt w K m ov)(i:Nat)(u:Value):Frm K.B w (w.setCell ⟨K.pm,i,none⟩ u):=(Frm.refl _ _).set h.blk h.gpm (by simp[sA]) u
theorem iN{ov:Value}(h:MachAt w K m ov)(hf:0<m.fuel):G 154 #[Y K.pm] w fun e w'=>e=.returned (.tuple #[])/\MachAt w' K m.pay ov/\Frm K.B w w':=by
 have c9:=h.c9;have f9:=h.free 9;have d:=Ja (h.setF (m.fuel-1) (by have:=h.fuel;unfold I64 at *;omega) (by have:=h.obd;omega) h.ne);have c:=Ja (h.frm 9 (I (m.fuel-1)));have hb:m.fuel<=9223372036854775807:=h.fuel.2;clear h;go_enter Tryz.func154,Tryz.ntmps154;go_wp2
 go_end0
 exact⟨rfl,d.out,c.out⟩
open Go.RowKit Go.Maps
theorem xH:Keyed Tryz.prog 3:=int_keyed Tryz.underlying3
theorem wf64'(h:I64 x):(Lit.int .i64 x).wf=true:=by unfold I64 at h;simp[Lit.wf,IntKind.min,IntKind.max,IntKind.signed,IntKind.bits];omega
theorem wfU16 {x:Nat}(h:x<65536):(Lit.int .u16 (x:Int)).wf=true:=by simp[Lit.wf,IntKind.min,IntKind.max,IntKind.signed,IntKind.bits];omega
theorem vB(h:I64 x):keyOf Tryz.prog 3 (.int .i64 x)=some (.int .i64 x):=keyOf_int_mk Tryz.underlying3 (wf64' h)
theorem zeroU16 (w:World):(zeroValue 43).run Tryz.prog w=.ok (U 0) w:=by kernel_rfl
def xO (w:World)(b n:Nat)(f:Int->Nat):Prop:=
 (∃D:DataW Unit,w.ownsMap Tryz.prog 3 (plainElem Tryz.prog 43) b n D/\∀x,(Lit.int .i64 x).wf=true->D.atKey (.int .i64 x) (.lit (.int .u16 0))=.lit (.int .u16 (f x:Int)))/\∀x,f x<65536
theorem xO.made (w:World):xO (w.alloc (.map #[] 0)) w.heap.size 0 (fun _=>0):=⟨⟨_,World.ownsMap_made _ _ _ _,fun _ _=>rfl⟩,fun _=>by show 0<65536;decide⟩
theorem xO.blk{b n:Nat}{f:Int->Nat}(h:xO w b n f):∃es clock,w.heap[b]? =some (.map es clock):=by
 obtain⟨⟨D,⟨es,clock,h1,h2⟩,h3⟩,c⟩:=h;exact⟨es,clock,h1⟩
theorem xO.same{b n:Nat}{f:Int->Nat}(h:xO w b n f)(hb:w'.heap[b]? =w.heap[b]?):xO w' b n f:=by
 obtain⟨⟨D,⟨es,c,h1,h2⟩,h3⟩,d⟩:=h;exact⟨⟨D,⟨es,c,hb.trans h1,h2⟩,h3⟩,d⟩
theorem xO.kept{B:Nat}{b n:Nat}{f:Int->Nat}(h:xO w b n f)(g:Frm B w w'):xO w' b n f:=by
 obtain⟨es,d,c⟩:=h.blk;exact h.same ((g.kept _ _ c trivial).trans c.symm)
theorem xO.look{b n:Nat}{f:Int->Nat}(h:xO w b n f)(i:I64 x):
 (Instr.lookup 217 (.map (some b)) (.int .i64 x) false).run Tryz.prog w=.ok (.int .u16 (f x:Nat)) w:=by
 obtain⟨⟨D,h,hf⟩,_⟩:=h;obtain⟨c,g,d,j⟩:=h.lookup_int xH Tryz.underlying217 Tryz.underlying43 (zeroU16 w) (vB i);rw[hf x (wf64' i)] at d;simp only[DataW.lit.injEq,Lit.int.injEq,true_and] at d;subst d;exact g
theorem us{ops:Array Oper}{rest:List Oper}{o:Oper}{a:Act}{Q:Exit->Act->World->Prop}(hg:o.guard=none)(m x v:Operand)
 (j:o.op=.mapUpdate 217 m x v) {b n:Nat} {f:Int->Nat} (h:xO w b n f) (u:n<9000000000000000000) (kx:Int) (vv:Nat) (hm:a.eval m=.map (some b)) (q:a.eval x=.int .i64 kx) (hv:a.eval v=.int .u16 (vv:Int))
 (g:I64 kx) (d:vv<65536)
 (t:∀w',xO w' b (n+1) (iY f kx vv)->w.grownBy w' (some b)->wpList Tryz.prog ops Q rest (a.put o.dst undef) w'):wpList Tryz.prog ops Q (o::rest) a w:=by
 obtain⟨⟨D,h,hf⟩,k⟩:=h;refine wpList_mapUpdate_own (H:=Unit) w hg m x v 217 j 3 43 xH Tryz.underlying217 _ b n D hm h (by unfold maxLen;omega) _ _ _ q hv (vB g) _ [] (plainElem_int Tryz.underlying43 (wfU16 d)) ?_;intro w1 i c;refine t w1 ⟨⟨_,i,fun y hy=>?_⟩,fun y=>?_⟩ c
 ·have l:WideAt.IsKeyLit (.int .i64 kx):=xH.key (vB g)
  by_cases e:y=kx
  ·subst e;simp only[iY,if_true];exact Maps.atKey_put_same h.isMap l _ _
  ·simp only[iY,if_neg e];rw[Maps.atKey_put_other (by simpa using e)];exact hf y hy
 ·unfold iY;split
  ·exact d
  ·exact k y
theorem px (w:World):(zeroValue 3).run Tryz.prog w=.ok (I 0) w:=by kernel_rfl
def wA (w:World)(b n:Nat)(g:Int->Option Int):Prop:=
 ∃D:DataW Unit,w.ownsMap Tryz.prog 3 (plainElem Tryz.prog 3) b n D/\∀x,I64 x->D.atKey (.int .i64 x) (.lit (.int .i64 0))=.lit (.int .i64 ((g x).getD 0))/\Maps.has D (.int .i64 x)=(g x).isSome
theorem wA.made (w:World):wA (w.alloc (.map #[] 0)) w.heap.size 0 (fun _=>none):=⟨_,World.ownsMap_made _ _ _ _,fun _ _=>⟨rfl,rfl⟩⟩
theorem wA.blk{b n:Nat}(h:wA w b n g):∃es clock,w.heap[b]? =some (.map es clock):=by
 obtain⟨D,⟨es,clock,h1,h2⟩,h3⟩:=h;exact⟨es,clock,h1⟩
theorem wA.same{b n:Nat}(h:wA w b n g)(hb:w'.heap[b]? =w.heap[b]?):wA w' b n g:=by
 obtain⟨D,⟨es,c,h1,h2⟩,h3⟩:=h;exact⟨D,⟨es,c,hb.trans h1,h2⟩,h3⟩
theorem wA.look{b n:Nat}(h:wA w b n g)(j:I64 x):
 (Instr.lookup 171 (.map (some b)) (.int .i64 x) false).run Tryz.prog w=.ok (.int .i64 ((g x).getD 0)) w:=by
 obtain⟨D,h,hf⟩:=h;obtain⟨c,i,d,k⟩:=h.lookup_int xH Tryz.underlying171 Tryz.underlying3 (px w) (vB j);rw[(hf x j).1] at d;simp only[DataW.lit.injEq,Lit.int.injEq,true_and] at d;subst d;exact i
theorem wA.lookOk{b n:Nat}(h:wA w b n g)(i:I64 x):
 (Instr.lookup 171 (.map (some b)) (.int .i64 x) true).run Tryz.prog w=.ok (.tuple #[.int .i64 ((g x).getD 0),.bool (g x).isSome]) w:=by
 obtain⟨D,h,hf⟩:=h;obtain⟨v,ps,d,hv⟩:=h.look_ok xH Tryz.underlying171 (px w) (plainElem_int Tryz.underlying3 Zd) (vB i);rw[(hf x i).1] at hv;obtain⟨c,rfl,j,_⟩:=plainElem_int_inv Tryz.underlying3 hv;simp only[Prod.mk.injEq,DataW.lit.injEq,Lit.int.injEq,true_and] at j;rw[(hf x i).2,<-j.1] at d;exact d
def lS (g:Int->Option Int)(x v:Int):Int->Option Int:=fun y=>if y=x then some v else g y
def opF (p:IProg)(o:IOp):Bool:=
 (zi o.code).is &&
  (if o.code=26 then decide (0<=o.a) && decide (o.a<p.funcs.length) && decide ((o.args.length:Int)=p.args.getD o.a.toNat 0) && decide (-1<=o.res) && decide (o.b=0) && decide (o.n=0)
   else if o.code=2 then decide (0<=o.a) && decide (o.a<p.data.length) && decide (0<=o.res) && decide (o.b=0) && decide (o.args.length=0)
   else decide ((zi o.code).res=decide (0<=o.res)) && decide (-1<=o.res) && ((zi o.code).a||decide (o.a=0)) && ((zi o.code).b||decide (o.b=0)) && ((zi o.code).n||decide (o.n=0)) && decide (o.args.length=0) &&
    (decide (o.code≠24) && decide (o.code≠25)||decide (1<=o.n) && decide (o.n<=255)))
def uM (blocks:List IBlk)(e:IEdge):Bool:=decide (1<=e.block) && decide (e.block<blocks.length) && decide (e.args.length=(xz blocks e.block).params.length)
def wn (blocks:List IBlk)(t:ITerm):Bool:=
 t.to.all (uM blocks) &&
  (if t.kind=1 then decide (t.to.length=1) && decide (t.a=0)
   else if t.kind=2 then decide (t.to.length=2)
   else if t.kind=3 then decide (1<=t.to.length)
   else if t.kind=4 then decide (t.to.length=0)
   else if t.kind=5 then decide (t.to.length=0) && decide (t.a=0)
   else false)
abbrev wO:=(Int->Option Int)×(Int->Option Int)
def rB (d:wO)(v i k:Int):Option wO:=if(d.1 v).isSome∨v<0∨65535<v then none else some (lS d.1 v i,lS d.2 v k)
def vJ (i:Int):List Int->wO->Option wO
 | [],d=>some d
 |v::vs,d=>(rB d v i (-1)).bind (vJ i vs)
def sS (p:IProg)(i:Int):List IOp->Int->wO->Option wO
 | [],_,d=>some d
 |o::os,k,d=>if opF p o then(if 0<=o.res then(rB d o.res i k).bind (sS p i os (k+1)) else sS p i os (k+1) d) else none
def pS (p:IProg)(blocks:List IBlk)(i:Int)(b:IBlk)(d:wO):Option wO:=
 ((vJ i b.params d).bind (sS p i b.ops 0)).bind fun d'=>if wn blocks b.term then some d' else none
def uH (p:IProg)(blocks:List IBlk):List IBlk->Int->wO->Option wO
 | [],_,d=>some d
 |b::bs,i,d=>(pS p blocks i b d).bind (uH p blocks bs (i+1))
def wg (p:IProg)(blocks:List IBlk):Option wO:=uH p blocks blocks 0 (fun _=>none,fun _=>none)
theorem opF_ok {p:IProg}{o:IOp}(h:opF p o=true):OkOp p o:=by
 unfold opF at h;rw[Jm] at h;obtain⟨h1,h2⟩:=h;refine⟨?_,?_,?_⟩
 ·have:=rJ o.code;rcases this with⟨h,e⟩|⟨h,e⟩|⟨h,e⟩|⟨h,e⟩|⟨h,e⟩|⟨h,e⟩|⟨h,e⟩|⟨h,e⟩
  all_goals first|omega|(rw[e] at h1;exact absurd h1 Zd)
 ·intro h;rw[if_neg Zo,if_pos h] at h2;simp only[Jm,decide_eq_true_eq] at h2;omega
 ·intro h;rw[if_pos h] at h2;simp only[Jm,decide_eq_true_eq] at h2;omega
def rR (o:IOp):List Int:=(if(zi o.code).a then [o.a] else [])++(if(zi o.code).b then [o.b] else [])++o.args
def ut (t:ITerm):Bool:=decide (t.kind=2)||(decide (t.kind=3)||decide (t.kind=4) && decide (t.a≠-1))
def mE (t:ITerm):List Int:=(if ut t then [t.a] else [])++(t.to.map (·.args)).flatten
def zy (blocks:List IBlk):List (List Nat):=blocks.map fun b=>b.term.to.map fun e=>e.block.toNat
def yy (d:wO)(g:List (List Nat))(i k:Int)(v:Int):Bool:=
 match d.1 v,d.2 v with
 |some b,some a=>!(decide (b=i) && decide (k<=a)) && wE g b.toNat i.toNat
 |_,_=>false
def xF (d:wO)(g:List (List Nat))(i:Int):List IOp->Int->Bool
 | [],_=>true
 |o::os,k=>(rR o).all (yy d g i k) && xF d g i os (k+1)
def aaC (d:wO)(g:List (List Nat))(b:IBlk)(i:Int):Bool:=xF d g i b.ops 0 && (mE b.term).all (yy d g i b.ops.length)
def tO (d:wO)(g:List (List Nat)):List IBlk->Int->Bool
 | [],_=>true
 |b::bs,i=>aaC d g b i && tO d g bs (i+1)
def iM (blocks:List IBlk)(d:wO):Bool:=decide ((vD (zy blocks)).length=blocks.length) && tO d (zy blocks) blocks 0
def yi (p:IProg)(n:Nat):Bool:=
 match p.funcs.getD n [] with
 | []=>true
 |b::bs=>decide ((b.params.length:Int)=p.args.getD n 0) && ((wg p (b::bs)).map (iM (b::bs))).getD false
def vC (p:IProg):Int:=if sR p≠0 then sR p else if(List.range p.funcs.length).all (yi p) then 0 else 51
theorem uX {i:Int}:∀(l m:List Int) (d:wO),vJ i (l++m) d=(vJ i l d).bind (vJ i m)
 | [],m,d=>rfl
 |v::l,m,d=>by
  show(rB d v i (-1)).bind (vJ i (l++m))=((rB d v i (-1)).bind (vJ i l)).bind (vJ i m)
  cases rB d v i (-1) with
  |none=>rfl
  |some d'=>exact uX l m d'
theorem nF{p:IProg}{i:Int}{b:IBlk}{d d':wO}(h:pS p blocks i b d=some d'):wn blocks b.term=true/\∃d1,vJ i b.params d=some d1/\sS p i b.ops 0 d1=some d':=by
 unfold pS at h
 cases h1:vJ i b.params d with
 |none=>rw[h1] at h;cases h
 |some d1=>
  rw[h1,Nw] at h
  cases h2:sS p i b.ops 0 d1 with
  |none=>rw[h2] at h;cases h
  |some d2=>
   rw[h2,Nw] at h
   split at h
   ·cases h;exact⟨‹_›,d1,rfl,h2⟩
   ·cases h
theorem nk {p:IProg}{i:Int}:∀(os:List IOp) (k:Int) (d d':wO),sS p i os k d=some d'->∀o∈os,opF p o=true
 | [],_,_,_,_,o,ho=>by cases ho
 |x::os,k,d,d',h,o,ho=>by
  unfold sS at h
  split at h
  ·rename_i hx
   rcases Jq.1 ho with rfl|ho
   ·exact hx
   ·split at h
    ·cases h1:rB d x.res i k with
     |none=>rw[h1] at h;cases h
     |some d1=>rw[h1,Nw] at h;exact nk os _ _ _ h o ho
    ·exact nk os _ _ _ h o ho
  ·cases h
theorem rV{p:IProg}:∀(bs:List IBlk) (i:Int) (d d':wO),uH p blocks bs i d=some d'->∀b∈bs,(∀o∈b.ops,opF p o=true)/\wn blocks b.term=true
 | [],_,_,_,_,b,hb=>by cases hb
 |x::bs,i,d,d',h,b,hb=>by
  unfold uH at h
  cases h1:pS p blocks i x d with
  |none=>rw[h1] at h;cases h
  |some d1=>
   rw[h1,Nw] at h;rcases Jq.1 hb with rfl|hb
   ·obtain⟨h2,d2,_,h3⟩:=nF h1;exact⟨nk _ _ _ _ h3,h2⟩
   ·exact rV bs _ _ _ h b hb
theorem tF {p:IProg}{n:Nat}{b:IBlk}{bs:List IBlk}(hf:p.funcs[n]? =some (b::bs))(h:yi p n=true):
 (b.params.length:Int)=p.args.getD n 0/\∃d,wg p (b::bs)=some d/\iM (b::bs) d=true:=by
 unfold yi at h;rw[Jj,hf,Ot] at h;simp only[Jm,decide_eq_true_eq] at h;obtain⟨h1,h2⟩:=h;refine⟨h1,?_⟩
 cases h3:wg p (b::bs) with
 |none=>rw[h3] at h2;cases h2
 |some d=>rw[h3] at h2;exact⟨d,rfl,h2⟩
theorem se {p:IProg}(h:sR p=0):(p.funcs.length<=2000/\p.data.length<=512/\p.banks.length<=64)/\p.args.length=p.funcs.length/\p.args.all tX=true/\yw p p.entry=true/\(p.handler≠-1->yw p p.handler=true)/\wB p=true:=by
 unfold sR at h
 split at h
 ·omega
 split at h
 ·omega
 split at h
 ·omega
 split at h
 ·omega
 split at h
 ·omega
 rename_i h1 h2 h3 c g
 refine⟨by omega,by simpa using h2,by simpa using h3,?_,?_,by simpa using g⟩
 ·simpa using fun e=>c (.inl e)
 ·intro d
  simpa using fun e=>c (.inr ⟨d,e⟩)
theorem rz {p:IProg}(h:vC p=0):sR p=0/\∀n,n<p.funcs.length->yi p n=true:=by
 unfold vC at h
 split at h
 ·rename_i h1;exact absurd h h1
 ·rename_i h1
  refine⟨by omega,?_⟩
  split at h
  ·rename_i h2
   intro n c;exact Oe.1 h2 n (Ol.2 c)
  ·omega
structure ME where
 s:List Int
 args:List Int
 handler:Int
 me:Nat
 nf:Nat
structure MS where
 pos:Nat
 f:List IBlk
 cur:Nat
 next:Nat
 vals:List Int
 left:Int
def tkV (E:ME)(M:MS)(n:Nat):Nat:=(E.s.getD M.pos 0%(n:Int)).toNat
def MS.tick (M:MS):MS:= {M with pos:=M.pos+1 }
def wJ (next params:Nat):IBlk:=⟨(List.range params).map fun k=>((next+k:Nat):Int),[],⟨0,0,[]⟩⟩
def MS.block (M:MS)(params:Nat):MS:= {M with f:=M.f++ [wJ M.next params],next:=M.next+params }
def uc (c:Int):Bool:=(zi c).res||decide (c=26)
def wD {α:Type}(l:List α)(i:Nat)(g:α->α):List α:=match l[i]? with|some x=>l.set i (g x)|none=>l
def eg (M:MS)(o:IOp):IOp:= {o with res:=if uc o.code then(M.next:Int) else -1 }
def MS.emit (M:MS)(o:IOp):MS:=
 {M with f:=wD M.f M.cur fun b=> {b with ops:=b.ops++ [eg M o]},next:=if uc o.code then M.next+1 else M.next,vals:=if uc o.code then M.vals++ [(M.next:Int)] else M.vals }
def MS.endB (M:MS)(t:ITerm):MS:= {M with f:=wD M.f M.cur fun b=> {b with term:=t }}
def conOp (n:Nat):IOp:=⟨1,0,0,0,n,[]⟩
def MS.num (M:MS)(n:Nat):MS:=M.emit (conOp n)
def zJ (E:ME)(M:MS):Int×MS:=
 if M.vals.length=0 then((M.next:Int),M.tick.num (tkV E M 9))
 else if 0<tkV E M.tick 3 then(M.vals.getD (M.vals.length-1-tkV E M.tick.tick (min 4 M.vals.length)) 0,M.tick.tick.tick)
 else(M.vals.getD (tkV E M M.vals.length) 0,M.tick.tick)
def sE (k:Nat):Nat:=if k=0 then 15 else 6
def yJ (E:ME)(M:MS):Int×MS:=
 if tkV E M 24=23 then zJ E M.tick
 else((M.next:Int),M.tick.tick.tick.emit ⟨2,0,(tkV E M.tick 2:Nat),0,tkV E M.tick.tick (sE (tkV E M.tick 2)),[]⟩)
def yI (E:ME):Nat->MS->List Int×MS
 |0,M=>([],M)
 |n+1,M=>((yI E n M).1++ [(zJ E (yI E n M).2).1],(zJ E (yI E n M).2).2)
def vN (E:ME)(M:MS):MS:=
 if E.nf<=E.me+1 then M
 else
  let f:=E.me+1+tkV E M (E.nf-E.me-1)
  if(f:Int)=E.handler then M.tick
  else(yI E (E.args.getD f 0).toNat M.tick).2.emit ⟨26,0,(f:Nat),0,0,(yI E (E.args.getD f 0).toNat M.tick).1⟩
def yR (E:ME)(M:MS):MS:=
 let a:=zJ E M
 let b:=zJ E a.2
 let c:Nat:=5+tkV E b.2 13
 let M3:=b.2.tick
 if c=8 then
  (if 0<tkV E M3 8 then
    ((M3.tick.num 1).emit ⟨10,0,b.1,(M3.next:Nat),0,[]⟩).emit ⟨8,0,a.1,((M3.next+1:Nat):Int),0,[]⟩
  else M3.tick.emit ⟨8,0,a.1,b.1,0,[]⟩)
 else M3.emit ⟨(c:Nat),0,a.1,b.1,0,[]⟩
def xK (E:ME)(M0:MS):MS:=
 let k:=tkV E M0 14
 let M:=M0.tick
 if k=0 then M.tick.num (tkV E M 65536)
 else if k=1 then(zJ E M.tick).2.emit ⟨3+tkV E M 2,0,(zJ E M.tick).1,0,0,[]⟩
 else if k=2∨k=3 then(yJ E M).2.tick.emit ⟨18+tkV E (yJ E M).2 2,0,(yJ E M).1,0,0,[]⟩
 else if k=4∨k=5 then
  let b:=zJ E (yJ E M).2
  b.2.tick.emit ⟨20+tkV E b.2 2,0,(yJ E M).1,b.1,0,[]⟩
 else if k=6 then M.tick.emit ⟨24,0,0,0,1+tkV E M 3,[]⟩
 else if k=7 then(zJ E M).2.tick.emit ⟨25,0,(zJ E M).1,0,1+tkV E (zJ E M).2 3,[]⟩
 else if k=8 then(M.tick.num (tkV E M 4096)).tick.emit ⟨22+tkV E (M.tick.num (tkV E M 4096)) 2,0,(M.next:Nat),0,0,[]⟩
 else if k=9 then vN E M
 else if k=10 then(if tkV E M 3=0 then M.tick.emit ⟨27,0,0,0,0,[]⟩ else M.tick)
 else yR E M
def qY (E:ME):Nat->MS->MS
 |0,M=>M
 |n+1,M=>qY E n (xK E M)
def xE:Nat->MS->MS
 |0,M=>M
 |n+1,M=>(xE n M).block 0
def uV (E:ME)(part:MS->MS)(tg:Nat)(join keep:Nat):Nat->Nat->MS->MS
 |0,_,M=>M
 |n+1,k,M0=>
  let M1:=part {M0 with cur:=tg+k }
  let v:=zJ E M1.tick
  let M3:=if tkV E M1 12=11/\0<k then v.2.endB ⟨4,v.1,[]⟩ else v.2.endB ⟨1,0,[⟨(join:Nat),[v.1]⟩]⟩
  uV E part tg join keep n (k+1) {M3 with vals:=M3.vals.take keep }
def xk (tg n:Nat):List IEdge:=(List.range n).map fun k=>⟨((tg+k:Nat):Int),[]⟩
def xi (E:ME)(part:MS->MS)(n:Nat)(M:MS):MS:=
 let c:=zJ E M
 let tg:=c.2.f.length
 let M2:=(xE n c.2).block 1
 let join:=tg+n
 let M3:=M2.endB ⟨if 2<n then 3 else 2,c.1,xk tg n⟩
 let M4:=uV E part tg join M3.vals.length n 0 M3
 {M4 with cur:=join,vals:=M4.vals++ [(((M4.f.getD join ⟨[],[],⟨0,0,[]⟩⟩).params).getD 0 0)]}
def tH (E:ME)(part:MS->MS)(M:MS):MS:=
 let n:=(M.next:Int)
 let x:=zJ E (M.tick.num (tkV E M 5))
 let head:=x.2.f.length
 let i:Int:=(x.2.next:Nat)
 let j:Int:=((x.2.next+1:Nat):Int)
 let M2:=(((x.2.block 2).block 0).block 0).endB ⟨1,0,[⟨(head:Nat),[n,x.1]⟩]⟩
 let M3:=({M2 with cur:=head,vals:=M2.vals++ [j]}:MS).endB ⟨2,i,[⟨((head+1:Nat):Int),[]⟩,⟨((head+2:Nat):Int),[]⟩]⟩
 let M4:=part {M3 with cur:=head+1 }
 let M5:=(M4.num 1).emit ⟨6,0,i,(M4.next:Nat),0,[]⟩
 let y:=zJ E M5
 let M6:=y.2.endB ⟨1,0,[⟨(head:Nat),[((M4.next+1:Nat):Int),y.1]⟩]⟩
 {M6 with vals:=M6.vals.take M3.vals.length,cur:=head+2 }
def tR (E:ME)(M:MS):MS:=
 let M1:=qY E (tkV E M 5+1) M.tick
 {M1 with left:=M1.left-1 }
def zp (E:ME):Nat->MS->MS
 |0,M=>tR E M
 |d+1,M=>
  let M2:=tR E M
  if M2.left<1 then M2
  else
   let k:=tkV E M2 5
   if k=1∨k=2 then xi E (zp E d) 2 M2.tick
   else if k=3 then tH E (zp E d) M2.tick
   else if k=4 then xi E (zp E d) (2+tkV E M2.tick 3) M2.tick.tick
   else M2.tick
def xD (E:ME)(pos:Nat):MS:=
 let M0:MS:=⟨pos,[],0,0,[],6⟩
 let M1:MS:=({M0.tick with next:=tkV E M0 3*10 }:MS).block (E.args.getD E.me 0).toNat
 {M1 with vals:=(wJ (tkV E M0 3*10) (E.args.getD E.me 0).toNat).params }
def xR (E:ME)(pos:Nat):MS:=
 let M1:=zp E 1 (zp E 2 (xD E pos))
 let k:=tkV E M1 10
 if k=0 then M1.tick.endB ⟨5,0,[]⟩
 else if k=1 then M1.tick.endB ⟨4,-1,[]⟩
 else(zJ E M1.tick).2.endB ⟨4,(zJ E M1.tick).1,[]⟩
def tk0 (s:List Int)(pos n:Nat):Nat:=(s.getD pos 0%(n:Int)).toNat
def mdN (s:List Int):Nat:=1+tk0 s 0 4
def yS (s:List Int):Nat->List Int
 |0=> []
 |n+1=>yS s n++ [if n=0 then 0 else((tk0 s n 4:Nat):Int)]
def oJ (s:List Int):Bool:=decide (1<mdN s) && decide ((yS s (mdN s)).getD (mdN s-1) 0=0)
def vw (s:List Int):Int:=if oJ s=true/\tk0 s (mdN s) 2=0 then((mdN s-1:Nat):Int) else -1
def sP (s:List Int):Nat:=if oJ s then mdN s+1 else mdN s
def xC (s:List Int)(k:Nat):ME:=⟨s,yS s (mdN s),vw s,k,mdN s⟩
def zg (s:List Int):Nat->List (List IBlk)×Nat
 |0=>([],sP s)
 |n+1=>((zg s n).1++ [(xR (xC s n) (zg s n).2).f],(xR (xC s n) (zg s n).2).pos)
def qV (s:List Int):Bool:=decide (2<mdN s) && (decide (vw s<0) && decide (tk0 s (zg s (mdN s)).2 12=11))
def sG:ByteArray:=⟨((List.range 4096).map fun k=>UInt8.ofNat (k*k+k/256)).toArray⟩
def am:List IObj:=[⟨-1,16384,16⟩,⟨-1,16640,7⟩,⟨0,128,32⟩]
def uR (s:List Int):IProg:=
 ⟨if qV s then(zg s (mdN s)).1.set (mdN s-1) [] else(zg s (mdN s)).1,yS s (mdN s),0,vw s,am,[sG]⟩
theorem MachAt.grownMap{ov:Value}(h:MachAt w K m ov){es:Array _}(hm:w.heap[vb]? =some (.map es c))(hB:K.B<=vb)(hg:w.grownBy w' (some vb)):MachAt w' K m ov:=by
 have n1:vb≠K.pm:=by rintro rfl;rw[h.blk] at hm;cases hm
 have n2:vb≠K.rb:=by rintro rfl;rw[h.ram] at hm;cases hm
 have hb:Below K.B w w':=(Below.refl _ _).grown hg (Qd h.size) (fun k hk=>by simp at hk;omega);refine⟨zL hg h.blk (by simpa using n1),zL hg h.ram (by simpa using n2),h.rlen,h.rlt,h.out.kept hg ?_,h.olt,h.obd,h.fuel,h.inp,h.pol,h.gpm,h.grb,h.prog.below hb,h.inn.below zr hb,h.irq.below xQ hb⟩;rcases h.out.2 with⟨hv,_⟩|⟨g,i,cur,hv,_,d,_⟩
 ·left;rw[hv];rfl
 ·right;rw[hv];intro e;simp only[Value.ownBlock,Option.some.injEq] at e;subst e;rw[d] at hm;cases hm
theorem Frm.grownMap{B:Nat}(h:Frm B w0 w)(c:w0.heap.size<=vb)(hB:B<=w0.heap.size)(hg:w.grownBy w' (some vb)):Frm B w0 w':=
 ⟨h.below.grown hg (Jn hB h.below.size) (fun k hk=>by simp at hk;omega),fun k o hk hs=>zL hg (h.kept k o hk hs) (by have:=lt_of_block hk;simp;omega)⟩
structure CSt (K:MK) (w0 w:World) (m:Mach) (vb vn:Nat) (v:Int->Nat):Prop where
 mach:∃ov,MachAt w K m ov
 frm:Frm K.B w0 w
 map:xO w vb vn v
 new:w0.heap.size<=vb
 gb:K.B<w0.heap.size
theorem CSt.alloc{v:Int->Nat}(h:CSt K w0 w m vb vn v)(o:Obj):CSt K w0 (w.alloc o) m vb vn v:=by
 obtain⟨ov,hm⟩:=h.mach;exact⟨⟨ov,hm.keep ((Below.refl _ _).alloc (Je _) o)⟩,h.frm.trans ((Frm.refl _ _).alloc (by have:=hm.size;omega) o),h.map.kept ((Frm.refl K.B w).alloc (by have:=hm.size;omega) o),h.new,h.gb⟩
theorem CSt.store{v v':Int->Nat}(h:CSt K w0 w m vb vn v)(hm:xO w' vb n' v')(hg:w.grownBy w' (some vb)):CSt K w0 w' m vb n' v':=by
 obtain⟨ov,d⟩:=h.mach;obtain⟨es,c,hb⟩:=h.map.blk;exact⟨⟨ov,d.grownMap hb (by have:=h.new;have:=h.gb;omega) hg⟩,h.frm.grownMap h.new (Qd h.gb) hg,hm,h.new,h.gb⟩
theorem CSt.step {K:MK}{w0 w w':World}{m m':Mach}{vb vn:Nat}{v:Int->Nat}{c:Value}(h:CSt K w0 w m vb vn v)(g:MachAt w' K m' c)(d:Frm K.B w w'):CSt K w0 w' m' vb vn v:=
 ⟨⟨c,g⟩,h.frm.trans d,h.map.kept d,h.new,h.gb⟩
theorem rh{a:Nat}(h:a<blocks.length):blocks[a]? =some (xz blocks a):=by
 unfold xz;rw[Ni,Jj,Jd h];rfl
theorem ru (E:IEnv)(call:Int->List Nat->Mach->Res Nat)(blocks:List IBlk)(n:Nat)(a:Int)(args:List Nat)(v:Int->Nat)(m:Mach):tJ E call blocks (n+1) a args v m=
 match iq E call (xz blocks a).ops (r7 (xz blocks a).params args v) m with
 |.trap k i m'=> .trap k i m'
 |.ok v2 m2=>
  if m2.fuel<=0 then .trap 7 0 m2
  else if(xz blocks a).term.kind=4 then .ok (if(xz blocks a).term.a=-1 then 0 else v2 (xz blocks a).term.a) m2.pay
  else if(xz blocks a).term.kind=5 then .trap 1 0 m2.pay
  else tJ E call blocks n (wK (xz blocks a).term (v2 (xz blocks a).term.a)).block ((wK (xz blocks a).term (v2 (xz blocks a).term.a)).args.map v2) v2 m2.pay:=rfl
theorem j7 (E:IEnv)(call:Int->List Nat->Mach->Res Nat)(o:IOp)(os:List IOp)(v:Int->Nat)(m:Mach):iq E call (o::os) v m=
 if m.fuel<=0 then .trap 7 0 m
 else match oV E call o v m.pay with
  |.ok r m'=>iq E call os (setV v o.res r) m'
  |.trap k i m'=> .trap k i m':=rfl
def OwnRows {α:Type}(enc:α->Value)(e eS:TypeId)(w:World)(B bp:Nat)(rows:List (List α)):Prop:=
 ∃vs:List Value,Q w bp vs.toArray eS/\vs.length=rows.length/\(∀(k:Nat) (row:List α) (v:Value),rows[k]? =some row->vs[k]? =some v->w.ownsRow B e 1 v row.length (row.map enc))/\
  ∀(i j:Nat) (vi vj:Value),i≠j->vs[i]? =some vi->vs[j]? =some vj->vi.ownBlock=none∨vi.ownBlock≠vj.ownBlock
section
variable {α:Type} {enc:α->Value} {e eS:TypeId} {w:World} {B bp:Nat} {rows:List (List α)}
theorem OwnRows.made (n:Nat)(h:Q w bp (List.replicate n (.slice none 0 0)).toArray eS):OwnRows enc e eS w B bp (List.replicate n []):=by
 refine⟨_,h,by simp,fun k row v h1 h2=>?_,fun i j vi vj _ h1 _=>?_⟩
 ·simp only[Nm] at h1 h2
  split at h1
  ·rw[if_pos ‹_›] at h2;cases h1;cases h2;exact Jv _ _ _ _
  ·cases h1
 ·simp only[Nm] at h1
  split at h1
  ·cases h1;exact .inl rfl
  ·cases h1
theorem OwnRows.blk (h:OwnRows enc e eS w B bp rows):∃c,Q w bp c eS:=let⟨vs,h,_⟩:=h;⟨_,h⟩
theorem OwnRows.bplt (h:OwnRows enc e eS w B bp rows):bp<w.heap.size:=let⟨_,h⟩:=h.blk;lt_of_block h
theorem OwnRows.get (h:OwnRows enc e eS w B bp rows){s:Nat}{row:List α}(hs:rows[s]? =some row):
 ∃a cap,A w bp s (.slice a row.length cap)/\w.ownsRow B e 1 (.slice a row.length cap) row.length (row.map enc)/\N w bp s:=by
 obtain⟨vs,h1,h2,h3,d⟩:=h;have c:s<vs.length:=by rw[h2];exact(Jh.1 hs).1
 have hv:=Jd c;have ho:=h3 s row _ hs hv;obtain⟨a,cap,e1⟩:=zG ho;refine⟨a,cap,zA h1 (by simp[hv,e1]),by rw[<-e1];exact ho,zE h1⟩
theorem OwnRows.kept(h:OwnRows enc e eS w B bp rows){row:Option Nat}(hg:w.grownBy w' row)(hb:row≠some bp)(hr:∀k,row=some k->k<B):OwnRows enc e eS w' B bp rows:=by
 obtain⟨vs,h1,h2,h3,c⟩:=h;refine⟨vs,zL hg h1 hb,h2,fun k r v a b=>(h3 k r v a b).kept hg ?_,c⟩
 cases hk:v.ownBlock with
 |none=>exact .inl rfl
 |some g=>
  right;intro e1;have:=(h3 k r v a b).lt g hk;have:=hr g e1.symm;omega
theorem OwnRows.put(h:OwnRows enc e eS w B bp rows)(q:e≠eS){s:Nat}{row row':List α}(hs:rows[s]? =some row){a:Option Addr}{cap:Nat}(hc:A w bp s (.slice a row.length cap))
   {g H:Nat} (hg:(w.alloc o).grownBy w2 (Value.slice a row.length cap).ownBlock) (m:w2.ownsRow B e 1 (F g row'.length d) row'.length (row'.map enc))
 (hat:(Value.slice a row.length cap).ownBlock=some g∨g=H) (hH:w.heap.size<=H):
 OwnRows enc e eS (w2.setCell ⟨bp,s,none⟩ (F g row'.length d)) B bp (rows.set s row'):=by
 obtain⟨vs,h1,h2,h3,h4⟩:=h;have l:s<vs.length:=by rw[h2];exact(Jh.1 hs).1
 have hv:=Jd l;have ho:=h3 s row _ hs hv
 have a3:vs[s]=.slice a row.length cap:=by
  have x:=zA (i:=s) h1 (v:=vs[s]) Zs;rw[x] at hc;exact Nt hc
 rw[a3] at ho hv;have a4:=zC ho h1 (.inr q);have a1:=zL hg (zB h1) a4
 have u:∀(k:Nat) (v:Value),k≠s->vs[k]? =some v->v.ownBlock≠some bp/\(∀r,rows[k]? =some r->(w2.setCell ⟨bp,s,none⟩ (F g row'.length d)).ownsRow B e 1 v r.length (r.map enc))/\(v.ownBlock=none∨v.ownBlock≠some g):=by
  intro k v hk c;have a5:k<rows.length:=by rw[<-h2];exact(Jh.1 c).1
  have y:=h3 k _ v (Jd a5) c;have hn:=zC y h1 (.inr q);refine⟨hn,fun r hr=>?_,?_⟩
  ·have a2:=h3 k r v hr c;have a6:=(a2.alloc o).kept hg (h4 k s v _ hk c hv);exact ownsRow_setCell_other a6 (by simpa using hn) _
  ·rcases hat with hat|hat
   ·rw[<-hat];exact h4 k s v _ hk c hv
   ·right;intro e1;have:=(y.lt g e1).2;omega
 refine⟨vs.set s (F g row'.length d),?_,by simp[h2],fun k r v hr c=>?_,fun i j vi vj hij hi hj=>?_⟩
 ·rw[zD a1];simp
 ·by_cases hk:s=k
  ·subst hk;rw[Nn Zo] at hr;rw[Nn l] at c;cases hr;cases c;exact ownsRow_setCell_other m (zC (b:=bp) m a1 (.inr q)) _
  ·rw[Ns hk] at hr c;exact(u k v (Ne.symm hk) c).2.1 r hr
 ·by_cases t:s=i
  ·subst t;rw[Nn l] at hi;rw[Ns hij] at hj;cases hi;rcases(u j vj (Ne.symm hij) hj).2.2 with x|x
   ·right;rw[x];simp[Value.ownBlock]
   ·right;exact Ne.symm x
  ·rw[Ns t] at hi
   by_cases a0:s=j
   ·subst a0;rw[Nn l] at hj;cases hj;exact(u i vi (Ne.symm t) hi).2.2
   ·rw[Ns a0] at hj;exact h4 i j vi vj hij hi hj
theorem OwnRows.asRows(h:OwnRows enc e eS w B bp rows)(u:w.heap.size<=C):aaB enc w C (F bp rows.length rows.length) rows:=by
 obtain⟨vs,h1,h2,h3,y⟩:=h;have hb:=lt_of_block h1;refine⟨vs,⟨_,rows.length,by rw[h2],by omega,fun k x hk=>⟨bp,0,rfl,by omega,zA h1 (by simpa using hk)⟩⟩,h2,fun k rv row hk hr=>?_⟩;have ho:=h3 k row rv hr hk;rcases ho.2 with⟨rfl,d⟩|⟨g,i,cur,rfl,hg,m,c,t,q,l⟩
 ·exact⟨none,0,by rw[d],by omega,fun j x hj=>by rw[Nz d] at hj;simp at hj⟩
 ·refine⟨_,i,rfl,c,fun j x hj=>⟨g,0,rfl,by have:=lt_of_block m;omega,?_⟩⟩;have o:=(Jh.1 hj).1;rw[Ng];exact(ho.cellAt j Zo).trans (by simp[hj])
end
theorem rY{α:Type}{enc:α->Value}{e:TypeId}{B:Nat}{v:Value}{xs:List α}(ho:w.ownsRow B e 1 v xs.length (xs.map enc))(q:w.heap.size<=C):xp enc w C v xs:=by
 rcases ho.2 with⟨rfl,d⟩|⟨g,h,cur,rfl,hg,k,c,o,m,i⟩
 ·exact⟨none,0,by rw[d],by omega,fun j x hj=>by rw[Nz d] at hj;simp at hj⟩
 ·refine⟨_,h,rfl,c,fun j x hj=>⟨g,0,rfl,by have:=lt_of_block k;omega,?_⟩⟩;have l:=(Jh.1 hj).1;rw[Ng];exact(ho.cellAt j Zo).trans (by simp[hj])
def um (stk:List (Nat×Nat)):List Value:=stk.flatMap fun p=> [zj p.1,zj p.2]
theorem vH (c:List (Nat×Nat))(u j:Nat):um (c++ [(u,j)])=um c++ [zj u,zj j]:=by simp[um]
theorem yK (c:List (Nat×Nat)):(um c).length=2*c.length:=by
 induction c with
 |nil=>rfl
 |cons p r ih=>simp only[um,Qa,Jk,Nq,Ow] at ih ⊢;omega
structure Dfs (w0 w:World) (B0 n Bv Bs Bk:Nat) (seen:List Bool) (stk:List (Nat×Nat)) (pv:Value) (post:List Nat):Prop where
 hv:w.heap[Bv]? =some (.cells #[.slice (some ⟨Bs,0,none⟩) n n] 97 (0,0))
 hs:w.heap[Bs]? =some (.cells (seen.map zf).toArray 4 (0,0))
 hl:seen.length=n
 hk:∃sv,w.heap[Bk]? =some (.cells #[sv] 149 (0,0))/\w.ownsRow (Bk+1) 151 2 sv stk.length (um stk)
 lt:B0<=Bs/\Bs<Bv/\Bv<Bk
 hp:w.ownsRow (Bk+1) 3 1 pv post.length (post.map zj)
 hb:Below B0 w0 w
theorem Dfs.drewN{n:Nat}{c:List (Nat×Nat)}{pv:Value}(h:Dfs w0 w B0 n Bv Bs Bk seen c pv post):Dfs w0 (w.drewN k) B0 n Bv Bs Bk seen c pv post:=
 ⟨h.hv,h.hs,h.hl,h.hk,h.lt,h.hp,yC h.hb⟩
theorem Dfs.push{n:Nat}{d:List (Nat×Nat)}{pv g:Value}{c:List Nat}(h:Dfs w0 w B0 n Bv Bs Bk seen d pv c)
 (hg:(w.alloc o).grownBy w2 pv.ownBlock) (j:w2.ownsRow (Bk+1) 3 1 g (c.length+1) (c.map zj++ [zj u])):Dfs w0 w2 B0 n Bv Bs Bk seen d g (c++ [u]):=by
 obtain⟨hv,hs,hl,⟨sv,hk,i⟩,l,hp,hb⟩:=h;have hB:=lt_of_block hk
 refine⟨zL hg (zB hv) (zC hp hv (.inl Zo)),zL hg (zB hs) (zC hp hs (.inl Zo)),hl,
  ⟨sv,zL hg (zB hk) (zC hp hk (.inl Zo)),(i.alloc o).kept hg (zo i hp Zd)⟩,l,?_,?_⟩
 ·simpa using j
 ·exact Below.grown (hb.alloc Zo o) hg Zt (fun k hk'=>by have:=hp.lt k hk';omega)
theorem Dfs.popStk{n:Nat}{st:List (Nat×Nat)}{pv:Value}(h:Dfs w0 w B0 n Bv Bs Bk seen (st++ [(u,j)]) pv post)
 (hc:Q w Bk #[F gk (st.length+1) cp] 149):Dfs w0 (w.setCell ⟨Bk,0,none⟩ (F gk st.length cp)) B0 n Bv Bs Bk seen st pv post:=by
 obtain⟨hv,hs,hl,⟨sv,hk,c⟩,i,hp,hb⟩:=h;obtain rfl:=jc hk hc;simp only[Jk,Nq,Ow,Ng,vH] at c;refine⟨zR hv (show Bv≠Bk by omega),zR hs (show Bs≠Bk by omega),hl,⟨_,one_setCell hk,?_⟩,i,ownsRow_setCell_other hp (zC (b:=Bk) hp hk (.inl Zo)) _,hb.setCell (show B0<=Bk by omega) _⟩;have h1:=ownsRow_setCell_other c (a:=⟨Bk,0,none⟩) (zC (b:=Bk) c hk (.inl Zo)) (F gk st.length cp);obtain⟨x,y⟩:=h1;refine⟨by rw[yK];omega,.inr ?_⟩;rcases y with⟨t,_⟩|⟨g',a0,cur,g,m,k,a1,q,o,d⟩
 ·cases t
 ·cases g;refine⟨gk,cp,cur,rfl,m,k,by omega,q,o,?_⟩;have:=congrArg (List.take (st.length*2)) d;rw[List.take_take,Ud Zo,List.take_append_of_le_length (by rw[yK];omega),Oy (l:=um st) (by rw[yK];omega)] at this;exact this
theorem Dfs.bump{n:Nat}{st:List (Nat×Nat)}{pv:Value}(h:Dfs w0 w B0 n Bv Bs Bk seen (st++ [(u,j)]) pv post)
 (k:Q w Bk #[F gk (st.length+1) cp] 149):Dfs w0 (w.setCell ⟨gk,st.length*2+1,none⟩ (zj (j+1))) B0 n Bv Bs Bk seen (st++ [(u,j+1)]) pv post:=by
 obtain⟨hv,hs,hl,⟨sv,hk,c⟩,i,hp,hb⟩:=h;obtain rfl:=jc hk k;simp only[Jk,Nq,Ow,Ng,vH] at c;have l:=c.lt gk rfl;have g:=zo hp c Zd;refine⟨zR hv (show Bv≠gk by omega),zR hs (show Bs≠gk by omega),hl,⟨_,zR hk (show Bk≠gk by omega),?_⟩,i,ownsRow_setCell_other hp ?_ _,hb.setCell (show B0<=gk by omega) _⟩
 ·have:=(c.stored (st.length*2+1) (zj (j+1))).1;simp only[Jk,Nq,Ow,Ng,vH] at this ⊢
  have e:(um st++ [zj u,zj j]).set (st.length*2+1) (zj (j+1))=um st++ [zj u,zj (j+1)]:=by
   rw[Uj _ _ (by rw[yK];omega),yK,show st.length*2+1-2*st.length=1 by omega];rfl
  rw[e] at this;exact this
 ·rcases g with d|d
  ·rw[d];simp
  ·exact d
theorem Tryz.info_frame:(Tryz.prog.info? 151).map (fun i=>(i.zero,i.size,i.bytes))=some (some (.agg #[I 0,I 0]),2,16):=by kernel_rfl
theorem Tryz.info_int:(Tryz.prog.info? 3).map (fun i=>(i.zero,i.size,i.bytes))=some (some (I 0),1,8):=by kernel_rfl
theorem Tryz.info_bool:(Tryz.prog.info? 4).map (fun i=>(i.zero,i.size,i.bytes))=some (some (.bool false),1,1):=by kernel_rfl
theorem oF (w0 w:World)(B0 n Bv Bs Bk:Nat)(seen:List Bool)(d:List (Nat×Nat))(pv:Value)(post:List Nat)(u:Nat)(h:Dfs w0 w B0 n Bv Bs Bk seen d pv post)(hu:u<n)(hm:d.length<=2000000):
 G 94 #[I u,Y Bv,Y Bk] w fun e w'=>e=.returned (.tuple #[])/\Dfs w0 w' B0 n Bv Bs Bk (seen.set u true) (d++ [(u,0)]) pv post:=by
 obtain⟨i0,hi,a4,a3,a2⟩:=info_parts Tryz.info_frame;obtain⟨hv,hs,hl,⟨sv,hk,m⟩,a6,hp,o⟩:=h;have cv:=cell_of_one hv;obtain⟨b0,a0⟩:∃b0,seen[u]? =some b0:=⟨_,Jd Zo⟩
 have cs:A w Bs u (.bool b0):=zA hs (by simp[a0,zf]);have fs:N w Bs u:=zE hs;have HV:Hid ((w.setCell ⟨Bs,u,none⟩ (.bool true)).heap[Bv]? =_):=zR hv (show Bv≠Bs by omega);have l:(w.setCell ⟨Bs,u,none⟩ (.bool true)).heap[Bk]? =_:=zR hk (show Bk≠Bs by omega);have HS:Hid ((w.setCell ⟨Bs,u,none⟩ (.bool true)).heap[Bs]? =_):=zD hs (.bool true);have b6:=cell_of_one l;have own1:(w.setCell ⟨Bs,u,none⟩ (.bool true)).ownsRow (Bk+1) 151 2 sv d.length (um d):=ownsRow_setCell_other m (zC (b:=Bs) m hs (.inl Zo)) _;have y:(w.setCell ⟨Bs,u,none⟩ (.bool true)).ownsRow (Bk+1) 3 1 pv post.length (post.map zj):=ownsRow_setCell_other hp (zC (b:=Bs) hp hs (.inl Zo)) _;have HB:Hid (Bk+1<=(w.setCell ⟨Bs,u,none⟩ (.bool true)).heap.size):=lt_of_block l;have a1:=Ja (o.setCell (p:=⟨Bs,u,none⟩) (show B0<=Bs by omega) (.bool true));have HK:=Ja l;have HP:=Ja y;clear hs hv a0 hk l hp y o;go_enter Tryz.func94,Tryz.ntmps94;go_wp2_with (at_builtin;go_must (refine wpList_append_lies _ rfl (.tmp 7) (.tmp 10) 149 rfl (Bk+1) 151 i0 _ 2 16 Tryz.underlying149 hi a4 a3 a2 rfl Zd sv d.length (um d) rfl (own1.alloc _) ⟨w.heap.size,0,none⟩ 1 1 [I u,I 0] rfl rfl (Oi (cs:=#[I u,I 0]) (zI Zs)) (by simp[Value.oneCell']) Zd (by unfold maxLen;omega) Zo (by have:=HB.out;simp at this ⊢;omega) _ rfl ?_;intro g a8 w1 i c b3 b2;have j:=zL c (zB HK.out) (zC own1 HK.out (.inl Zo));have b5:=cell_of_one j;have b4:=free_of_one j;have q:=Ja j;have a9:=Ja (zL c (zB HV.out) (zC own1 HV.out (.inl Zo)));have b1:=Ja (zL c (zB HS.out) (zC own1 HS.out (.inl Zo)));clear j))
 go_end0
 have a5:=zo HP.out own1 Zd;have t:=(HP.out.alloc (T #[I u,I 0] 151)).kept c a5;have a7:=HB.out;refine⟨rfl,⟨?_,?_,by simp[hl],⟨_,one_setCell q.out,?_⟩,a6,?_,?_⟩⟩
 ·exact zR a9.out (show Bv≠Bk by omega)
 ·rw[zR b1.out (show Bs≠Bk by omega)];refine congrArg some (congrArg (fun x=>Obj.cells x _ _) ?_);simp[Ox,zf]
 ·have:=ownsRow_setCell_other i (a:=⟨Bk,0,none⟩) (zC (b:=Bk) i q.out (.inl Zo)) (F g (d.length+1) a8);rw[vH,Jk];exact this
 ·exact ownsRow_setCell_other t (zC (b:=Bk) t q.out (.inl Zo)) _
 ·refine Below.setCell (Below.grown (a1.out.alloc Zo _) c (by simp at a7 ⊢;omega) ?_) (show B0<=Bk by omega) _;intro k hk;have:=own1.lt k hk;omega
theorem pk:Keyed Tryz.prog 3:=int_keyed Tryz.underlying3
theorem wf64(h:-9223372036854775808<=x/\x<=9223372036854775807):(Lit.int .i64 x).wf=true:=by simp[Lit.wf,IntKind.min,IntKind.max,IntKind.signed,IntKind.bits];omega
theorem jp(h:-9223372036854775808<=x/\x<=9223372036854775807):keyOf Tryz.prog 3 (.int .i64 x)=some (.int .i64 x):=keyOf_int_mk Tryz.underlying3 (wf64 h)
theorem zeroInt (w:World):(zeroValue 3).run Tryz.prog w=.ok (I 0) w:=by kernel_rfl
def ud (w:World)(b n:Nat)(f:Int->Int):Prop:=
 ∃D:DataW Unit,w.ownsMap Tryz.prog 3 (plainElem Tryz.prog 3) b n D/\∀x,(Lit.int .i64 x).wf=true->D.atKey (.int .i64 x) (.lit (.int .i64 0))=.lit (.int .i64 (f x))
theorem ud.lt{b n:Nat}{f:Int->Int}(h:ud w b n f):b<w.heap.size:=let⟨_,h,_⟩:=h;h.lt
theorem ud.same{b n:Nat}{f:Int->Int}(h:ud w b n f)(hb:w'.heap[b]? =w.heap[b]?):ud w' b n f:=by
 obtain⟨D,⟨es,c,h1,h2⟩,h3⟩:=h;exact⟨D,⟨es,c,hb.trans h1,h2⟩,h3⟩
theorem ud.ne{b n:Nat}{f:Int->Int}(h:ud w b n f){b':Nat}{c:Array Value}{t:TypeId}{z:Nat×Nat}(hb:w.heap[b']? =some (.cells c t z)):b≠b':=by
 obtain⟨D,⟨es,d,h1,h2⟩,h3⟩:=h;rintro rfl;rw[h1] at hb;simp at hb
theorem ud.look{b n:Nat}{f:Int->Int}(h:ud w b n f)(i:-9223372036854775808<=x/\x<=9223372036854775807):
 (Instr.lookup 171 (.map (some b)) (.int .i64 x) false).run Tryz.prog w=.ok (.int .i64 (f x)) w/\(Lit.int .i64 (f x)).wf=true:=by
 obtain⟨D,h,hf⟩:=h;obtain⟨c,g,d,j⟩:=h.lookup_int pk Tryz.underlying171 Tryz.underlying3 (zeroInt w) (jp i);rw[hf x (wf64 i)] at d;simp only[DataW.lit.injEq,Lit.int.injEq,true_and] at d;subst d;exact⟨g,j⟩
theorem rW{ops:Array Oper}{rest:List Oper}{o:Oper}{a:Act}{Q:Exit->Act->World->Prop}(hg:o.guard=none)(m x v:Operand)
 (j:o.op=.mapUpdate 171 m x v) {b n:Nat} {f:Int->Int} (h:ud w b n f) (t:n<9000000000000000000) (kx vv:Int) (hm:a.eval m=.map (some b)) (l:a.eval x=.int .i64 kx) (hv:a.eval v=.int .i64 vv)
 (d:-9223372036854775808<=kx/\kx<=9223372036854775807) (i:-9223372036854775808<=vv/\vv<=9223372036854775807)
 (q:∀w',ud w' b (n+1) (fun y=>if y=kx then vv else f y)->w.grownBy w' (some b)->wpList Tryz.prog ops Q rest (a.put o.dst undef) w'):wpList Tryz.prog ops Q (o::rest) a w:=by
 obtain⟨D,h,hf⟩:=h;refine wpList_mapUpdate_own (H:=Unit) w hg m x v 171 j 3 3 pk Tryz.underlying171 _ b n D hm h (by unfold maxLen;omega) _ _ _ l hv (jp d) _ [] (plainElem_int Tryz.underlying3 (wf64 i)) ?_;intro w1 g c;refine q w1 ⟨_,g,fun y hy=>?_⟩ c;have k:WideAt.IsKeyLit (.int .i64 kx):=pk.key (jp d)
 by_cases e:y=kx
 ·subst e;simp only[if_true];exact Maps.atKey_put_same h.isMap k _ _
 ·simp only[if_neg e];rw[Maps.atKey_put_other (by simpa using e)];exact hf y hy
def yM (w:World)(size:Nat)(xv:Value)(m:Nat)(news:List Value):Prop:=
 ∃a c,xv=.slice a m c/\news.length=m*size/\(∀u∈news,u.oneCell'=true)/\((a=none/\m=0)∨∃ad,a=some ad/\∀j u,news[j]? =some u->w.cell? (ad.add j)=some u)
theorem tE(w:World)(base:Nat)(t ty e:TypeId)(i:TypeInfo)(z:Value)(size bytes:Nat)(ht:P.underlying t=some (.slice e))(hi:P.info? e=some i)(hz:i.zero=some z)
 (k:i.size=size) (a0:i.bytes=bytes) (u:z.cells.size=size) (x:0<size) (v:Value) (n:Nat) (xs:List Value) (h:w.ownsRow base e size v n xs)
 (xv:Value) (m:Nat) (d:List Value) (q:yM w size xv m d) (a1:n+m<=maxLen) (j:(n+m)*bytes<=140737488355328) (o:base<=w.heap.size):
 ∃v' w',(Builtin.append_ #[t,t] ty #[v,xv]).run P w=.ok v' w'/\w'.ownsRow base e size v' (n+m) (xs++d)/\w.grownBy w' v.ownBlock/\(v'.ownBlock=v.ownBlock∨v'.ownBlock=some w.heap.size):=by
 obtain⟨a,c,rfl,hl,h1,⟨rfl,rfl⟩|⟨ad,rfl,l⟩⟩:=q
 ·have hn:d=[]:=Nz (by simpa using hl);subst hn;refine⟨v,w,?_,by simpa using h,⟨rfl,rfl,rfl,Je _,fun _ _ _=>rfl⟩,.inl rfl⟩;rcases h.2 with⟨rfl,rfl⟩|⟨g,a6,cur,rfl,a5,hg,y,a4,a3,a2⟩
  ·simp[Builtin.append_,run_underlying ht,sizeOf,typeInfo,hi,Builtin.lenOf,run_firstCells_none]
  ·simp[Builtin.append_,run_underlying ht,sizeOf,typeInfo,hi,Builtin.lenOf,run_firstCells_none,y,storeCells]
 ·obtain⟨v',w',h2,h3,h4,_,h5⟩:=run_append_own_at (P:=P) w base t ty e i z size bytes ht hi hz k a0 u x v n xs h ad m c d hl l h1 a1 j o;exact⟨v',w',h2,h3,h4,h5⟩
theorem zK(w:World){ops:Array Oper}{rest:List Oper}{o:Oper}{a:Act}{Q:Exit->Act->World->Prop}(y:o.guard=none)(s x:Operand)(t:TypeId)
 (ho:o.op=.call {callee:=.builtin .append,args:=#[s,x],argTypes:=#[t,t]})
 (base:Nat) (e:TypeId) (i:TypeInfo) (z:Value) (size bytes:Nat) (ht:P.underlying t=some (.slice e)) (hi:P.info? e=some i) (hz:i.zero=some z)
 (g:i.size=size) (a0:i.bytes=bytes) (q:z.cells.size=size) (u:0<size)
 (v:Value) (n:Nat) (xs:List Value) (hs:a.eval s=v) (l:w.ownsRow base e size v n xs)
 (xv:Value) (m:Nat) (c:List Value) (hx:a.eval x=xv) (k:yM w size xv m c) (a1:n+m<=maxLen) (d:(n+m)*bytes<=140737488355328) (j:base<=w.heap.size)
 (h:∀v' w',w'.ownsRow base e size v' (n+m) (xs++c)->w.grownBy w' v.ownBlock->(v'.ownBlock=v.ownBlock∨v'.ownBlock=some w.heap.size)->wpList P ops Q rest (a.put o.dst v') w'):
 wpList P ops Q (o::rest) a w:=by
 refine wpList_plain y fun K hK=>?_
 obtain⟨v',w',hr,h2,h3,h5⟩:=tE (P:=P) w base t o.type e i z size bytes ht hi hz g a0 q u v n xs l xv m c k a1 d j;unfold Oper.wp execOp;simp only[ho,resolve,invoke,builtin,Sem.run_bind,Sem.run_pure,Result.andThen_ok,List.map_toArray,Ql,List.map_nil,hs,hx,hr];exact hK _ _ (h v' w' h2 h3 h5)
theorem yM.one{b:Nat}{x:Value}{e:TypeId}(h:Q w b #[x] e)(c:x.oneCell'=true):yM w 1 (F b 1 1) 1 [x]:=
 ⟨_,_,rfl,rfl,by simpa using c,.inr ⟨_,rfl,Oi (cs:=#[x]) h⟩⟩
theorem zY.src{B:Nat}{v:Value}{xs:List Int}(h:zY w B v xs):yM w 1 v xs.length (xs.map zN):=by
 obtain⟨a,d,rfl,h1,h2,h3⟩:=h;refine⟨a,d,rfl,by simp,by simp[zN,Value.oneCell'],?_⟩
 cases xs with
 |nil=>
  cases a with
  |none=>exact .inl ⟨rfl,rfl⟩
  |some ad=>exact .inr ⟨ad,rfl,fun j u hu=>by simp at hu⟩
 |cons x xs=>
  obtain⟨b,o,rfl,_,_⟩:=h3 0 x rfl;refine .inr ⟨_,rfl,fun j u hu=>?_⟩;rw[Jr,Oz] at hu;obtain⟨y,g,rfl⟩:=hu;obtain⟨b',o',e,_,c,_⟩:=h3 j y g;cases e;rw[Nk] at c;unfold Addr.add
  split
  ·rename_i i;rw[i] at c;exact c
  ·exact c
theorem uA{S:Nat}{v:Value}{n:Nat}{xs:List Int}(h:w.ownsRow S 3 1 v n (xs.map zN))(j:xs.length=n)(i:∀x∈xs,I64 x):zY w w.heap.size v xs:=by
 subst j;obtain⟨a,c,rfl⟩:=zG h;have hl:=zm h;refine⟨a,c,rfl,hl.1,by omega,fun k x hk=>?_⟩;have l:=(Jh.1 hk).1;obtain⟨g,m,e,hg,d⟩:=h.form Zo;cases e;refine⟨g,0,rfl,d,?_,i x (Ji hk)⟩;rw[Nk,Ng];exact(h.cellAt k Zo).trans (by rw[Jr,hk];rfl)
theorem zY.all{B:Nat}{v:Value}{xs:List Int}(h:zY w B v xs):∀x∈xs,I64 x:=by
 intro x c;obtain⟨k,hk⟩:=Ny c;obtain⟨_,_,_,_,_,h3⟩:=h;obtain⟨_,_,_,_,_,d⟩:=h3 k x hk;exact d
theorem yG{ops:Array Oper}{o:Oper}{a:Act}{K:Act->World->Prop}{Q:Exit->Act->World->Prop}{E:Prop}(y:o.guard=none)(s x:Operand)(t:TypeId)
 (ho:o.op=.call {callee:=.builtin .append,args:=#[s,x],argTypes:=#[t,t]})
 (base:Nat) (e:TypeId) (i:TypeInfo) (z:Value) (size bytes:Nat) (ht:P.underlying t=some (.slice e)) (hi:P.info? e=some i) (hz:i.zero=some z)
 (g:i.size=size) (a0:i.bytes=bytes) (q:z.cells.size=size) (u:0<size)
 (v:Value) (n:Nat) (xs:List Value) (hs:a.eval s=v) (l:w.ownsRow base e size v n xs)
 (xv:Value) (m:Nat) (c:List Value) (hx:a.eval x=xv) (k:yM w size xv m c) (a1:n+m<=maxLen) (d:(n+m)*bytes<=140737488355328) (j:base<=w.heap.size)
 (h:∀aa cap w',w'.ownsRow base e size (.slice aa (n+m) cap) (n+m) (xs++c)->w.grownBy w' v.ownBlock->((Value.slice aa (n+m) cap).ownBlock=v.ownBlock∨(Value.slice aa (n+m) cap).ownBlock=some w.heap.size)->K (a.put o.dst (.slice aa (n+m) cap)) w'):
 if Region.wanted o (yielded ops a.tmps)=true then Oper.wp P o a w K Q else E:=by
 have hw:Region.wanted o (yielded ops a.tmps)=true:=by simp[Region.wanted,y]
 rw[if_pos hw];obtain⟨v',w',hr,h2,h3,h5⟩:=tE (P:=P) w base t o.type e i z size bytes ht hi hz g a0 q u v n xs l xv m c k a1 d j;obtain⟨aa,cap,rfl⟩:=zG h2;unfold Oper.wp execOp;simp only[ho,resolve,invoke,builtin,Sem.run_bind,Sem.run_pure,Result.andThen_ok,List.map_toArray,Ql,List.map_nil,hs,hx,hr];exact h aa cap w' h2 h3 h5
end Go.Proofs.YtoahcpkibpomcaaGreat
set_option maxRecDepth 8000
namespace Go.Proofs.YtoahcpkibpomcaaGreat
open Go.RowKit Go.Shelf
variable {W W' w w' w0 w1 w2:World}{B' B0 Bk Bs Bv C base' c cp d gk i j k n' u vb vn:Nat}{m:Mach}{o:Obj}{xs:List Value}{v':Value}{P:Program}{x:Int}{g:Int->Option Int}{blocks:List IBlk}{seen:List Bool}{post:List Nat}{K:MK}
attribute [local go_sem] Oper.semAt_some
def aaT (Bv Bn n:Nat)(xs:List Nat)(bv bp op len cap:Nat)(ar:Option Addr)(capr:Nat)(W:World):Prop:=
 A W Bv 0 (Y bv)/\A W Bn 0 (I n)/\A W bv 2 (.slice (some ⟨bp,op,none⟩) len cap)/\n<len/\
  A W bp (op+n) (.slice ar xs.length capr)/\∀(j:Nat) (x:Nat),xs[j]? =some x->∃b o,ar=some ⟨b,o,none⟩/\A W b (o+j) (I x)
theorem aH (m:Nat)(hm:1<=m)(l Bv Bn n:Nat)(xs:List Nat)(bv bp op len g:Nat)(ar:Option Addr)(c:Nat)(hx:xs.length<=4000004000000)(J Jx:List Nat->World->Prop)
 (hY:∀(pre:List Nat) (x:Nat) (W:World),J pre W->xs[pre.length]? =some x->YieldAt Fence.wide (m-1) Tryz.prog l #[I x] W fun e W'=>
   (e=.returned (.bool true)/\J (pre++ [x]) W'/\(aaT Bv Bn n xs bv bp op len g ar c W->aaT Bv Bn n xs bv bp op len g ar c W'))∨(e=.returned (.bool false)/\Jx (pre++ [x]) W'))
 (a0:∀pre W k,J pre W->J pre (W.drewN k)) (W:World) (hR:aaT Bv Bn n xs bv bp op len g ar c W) (h0:J [] W):
 CallsIn Fence.wide m Tryz.prog 152 #[.func (.yield l) #[] #[],Y Bv,Y Bn] W fun e W'=>(∃v,e=.returned v)/\
  ((∃ys,ys=xs/\J ys W')∨(∃pre,pre<+:xs/\Jx pre W')):=by
 have a2:=Ja hR;obtain⟨c1,c2,c3,hn,c4,hc⟩:=hR;have a5:(n:Int)<len:=Zo;refine callsIn_of_wp Tryz.func152 rfl trivial ?_ rfl;simp only[Tryz.ntmps152,List.size_toArray,Nq,Ow,Nat.reduceAdd,Nat.reduceSub,Array.replicate_succ,Array.replicate_zero,List.push_toArray,List.append_toArray,Op,List.cons_append]
 gi_wp2
 gi_region
 gi_wp2
 gi_loopw [14] (fun i wr=>∃k:Nat,k<=xs.length/\i=I k/\J (xs.take k) wr/\Hid (aaT Bv Bn n xs bv bp op len g ar c wr)) (fun i _=>xs.length-(intOf i).toNat)
 case atStart=>exact⟨0,Jt _,rfl,a0 _ _ 1 h0,a2⟩
 case round=>
  obtain⟨k,hk,rfl,j,HR⟩:=hrel
  by_cases u:k<xs.length
  ·obtain⟨x,d⟩:∃x,xs[k]? =some x:=⟨_,Jd u⟩
   obtain⟨b,o,y,a6⟩:=HR.out.2.2.2.2.2 k x d;obtain⟨fn,a3,assign,body,hy,hR⟩:=hY _ x wr j (by rw[Oc,Ud hk];exact d);have h:xs.take (k+1)=xs.take k++ [x]:=by rw[Nh,d];rfl
   have q:=Ja h;have a7:=Ja d;have a4:(k:Int)<xs.length:=Zo;subst y;clear d h c1 c2 c3 c4 hc hY
   gi_wp2
   refine hR.mono ?_;rintro e W3 (⟨rfl,a1,w⟩|⟨rfl,t⟩)
   ·gi_wp2
    go_roundw
    case rel=>exact⟨k+1,by omega,by go_num,by rw[q.out];exact a1,w HR⟩
    case measure=>simp[intOf];omega
   ·gi_wp2
    refine bodyPost_ret (results_none rfl _ _ _) rfl ?_;exact⟨⟨_,rfl⟩,.inr ⟨_,by rw[<-q.out];exact List.take_prefix _ _,t⟩⟩
  ·obtain rfl:k=xs.length:=by omega
   gi_wp2
   go_end0
   exact⟨⟨_,rfl⟩,.inl ⟨_,Nl,j⟩⟩
theorem lj (p:Option Addr)(n:Int)(w:World):
 G 147 #[.pointer p,I n] w fun e w'=>e=.returned (.func (.func 152) #[] #[Y w.heap.size,Y (w.heap.size+1)])/\
  w'=(w.alloc (T #[.pointer p] 192)).alloc (T #[I n] 3):=by
 go_enter Tryz.func147,Tryz.ntmps147;go_wp2;go_ret;exact⟨rfl,rfl⟩
theorem aaT.below{Bn n bv bp op len g:Nat}{xs:List Nat}{ar:Option Addr}(h:aaT Bv Bn n xs bv bp op len g ar d W)(hb:Below C W W')(l:W.heap.size<=C):aaT Bv Bn n xs bv bp op len g ar d W':=by
 obtain⟨c1,c2,c3,i,c4,k⟩:=h;have up:∀ {a:Addr} {v:Value},W.cell? a=some v->W'.cell? a=some v:=fun {a v} h=>(hb.cell (Jy (Jw W a h) l)).trans h
 refine⟨up c1,up c2,up c3,i,up c4,fun j x hj=>?_⟩;obtain⟨b,o,e,c⟩:=k j x hj;exact⟨b,o,e,up c⟩
theorem mC{xs:List Nat}{x:Nat}(h:xs[k]? =some x):xs.attach.take (k+1)=xs.attach.take k++ [⟨x,Ji h⟩]:=by
 rw[Nh]
 congr 1
 obtain⟨c,rfl⟩:=Jh.1 h;rw[Jd (by simpa using c)];simp
theorem nH (m:Nat)(hm:1<=m)(Bv Bn n:Nat)(xs:List Nat)(bv bp op len d:Nat)(ar:Option Addr)(c:Nat)(g:xs.length<=4000004000000)(w:World)(i:aaT Bv Bn n xs bv bp op len d ar c w):
 SeqStopsK Fence.wide m Tryz.prog 152 #[Y Bv,Y Bn] (fun x: {p//p∈xs}=> #[I (x.1:Int)]) (fun W W'=>aaT Bv Bn n xs bv bp op len d ar c W->aaT Bv Bn n xs bv bp op len d ar c W')
  (fun ys=>ys.map (·.1)=xs) (fun _=>True) xs.length w:=fun l J Jx W hW hJ _ hY h0=>by
 refine(aH m hm l Bv Bn n xs bv bp op len d ar c g (fun pre W=>J (xs.attach.take pre.length) W) (fun pre W=>Jx (xs.attach.take pre.length) W) (fun pre x W1 h1 h2=>?_)
  (fun pre W1 k h=>hJ _ W1 (W1.drewN k) none h ⟨rfl,rfl,rfl,Je _,fun _ _ _=>rfl⟩ (fun _ e=>by cases e)) W (i.below hW (Je _)) (by simpa using h0)).mono ?_
 ·have j:pre.length<xs.length:=(Jh.1 h2).1;refine(hY _ ⟨x,Ji h2⟩ W1 h1 (by rw[Oc,List.length_attach];omega)).mono ?_;rw[Jk,Ju,mC h2];exact fun e w' h=>h
 ·rintro e w' ⟨hv,(⟨ys,rfl,h⟩|⟨pre,_,h⟩)⟩
  ·exact⟨hv,.inl ⟨_,by simp,h⟩⟩
  ·exact⟨hv,.inr ⟨_,trivial,h⟩⟩
end Go.Proofs.YtoahcpkibpomcaaGreat
set_option maxRecDepth 100000
namespace Go.Proofs.YtoahcpkibpomcaaGreat
open Go.ChangeShapes Go.WideShapes Go.ChangeAt Go.RowKit
variable {W W' w w' w0 w1 w2:World}{B' B0 Bk Bs Bv C base' c cp d gk i j k n' u vb vn:Nat}{m:Mach}{o:Obj}{xs:List Value}{v':Value}{P:Program}{x:Int}{g:Int->Option Int}{blocks:List IBlk}{seen:List Bool}{post:List Nat}{K:MK}
theorem acP{H:Type}{enc:TypeId×Value->H}{fuel:Nat}{n:Nat}{t e:TypeId}{q:IntKind}{cs:List Value}{x:DataW H×List MemPlace}(ht:P.underlying t=some (.array n e))(o:P.underlying e=some (.int q))(c1:P.cellsOf e=1)(hl:cs.length=n)
 (hf:DataW.trod enc P W 0 (fun _=>true) true fuel t cs=some x):∃zs:List Int,cs=zs.map (.int q)/\zs.length=n/\∀z∈zs,(Lit.int q z).wf=true:=by
 obtain⟨xs,k,_,_,_,u,j⟩:=DataW.trod_array ht hf
 have d:∀i,i<n->∃z:Int,cs[i]? =some (.int q z)/\(Lit.int q z).wf=true:=by
  intro i hi;have g:=j i hi;rw[c1,Jd Zo] at g;obtain⟨z,e0,_,w0⟩:=DataW.trod_int o g;refine⟨z,?_,w0⟩;rw[Nk] at e0;have h:=congrArg (fun l:List Value=>l[0]?) e0
  simpa using h
 obtain⟨f,c⟩:=Go.Deep.choose_lt d;refine⟨(List.range n).map f,?_,by simp,?_⟩
 ·apply Oq;intro i
  by_cases hi:i<n
  ·rw[(c i hi).1];simp[hi]
  ·rw[Of Zo,Of Zt]
 ·intro z m;obtain⟨i,hi,rfl⟩:=Nu.1 m;exact(c i (Ol.1 hi)).2
theorem kX {z:Int}(h:(Lit.int .i64 z).wf=true):I64 z:=by
 unfold I64
 simpa[Lit.wf,IntKind.min,IntKind.max,IntKind.signed,IntKind.bits] using h
section
variable {H:Type} {enc:TypeId×Value->H} {W:World} {v:Value} {d:DataW H} {p:List MemPlace} {r:Go.Reach} {base:Nat}
theorem jy (hv:Value.okWide Tryz.prog W r base 23 v)(i:DataW.Trod enc Tryz.prog W 0 (fun _=>true) true 23 v d p):∃q0 q1 q2:Int,v=.agg #[.int .i64 q0,.int .i64 q1,.int .i64 q2]/\(I64 q0/\I64 q1/\I64 q2):=by
 have c2:Tryz.prog.cellsOf 23=3:=by kernel_rfl
 have c1:Tryz.prog.cellsOf 3=1:=by kernel_rfl
 simp only[Value.okWide,Tryz.underlying23] at hv;obtain⟨cs,rfl,g,_⟩:=hv;rw[c2] at g;obtain⟨fuel,hf⟩:=i;simp only[Value.cells] at hf;obtain⟨zs,e,hl,h⟩:=acP Tryz.underlying23 Tryz.underlying3 c1 (by simpa using g) hf
 obtain⟨a,b,c,rfl⟩:∃a b c,zs=[a,b,c]:=by
  match zs,hl with
  | [a,b,c],_=>exact⟨a,b,c,rfl⟩
 refine⟨a,b,c,?_,kX (h a Zs),kX (h b Zs),kX (h c Zs)⟩
 have e2:cs=#[.int .i64 a,.int .i64 b,.int .i64 c]:=by
  rw[<-Array.toArray_toList (xs:=cs),e];rfl
 rw[e2]
end
end Go.Proofs.YtoahcpkibpomcaaGreat
