/- Part of a proof. -/
import Derived.Test.YtoahcpkibpomcaaMath
import Derived.Test.YtoahcpkibpomcaaRows
import Derived.Test.YtoahcpkibpomcaaSq
import Derived.Test.YtoahcpkibpomcaaSw
import Derived.BigRegion
import Derived.Carry
import Derived.Deep.MidRow
import Derived.Deep.OwnRows
import Derived.Defers
import Derived.Laws.BitsLemmas
import Derived.Laws.BytesArg
import Derived.Laws.CopyOwn
import Derived.Laws.EntriesVeiled
import Derived.Lib.BufferWrite
import Derived.Lib.EndianBits
import Derived.LoopIn
import Derived.LoopNIn
import Derived.Maps.OwnOps
import Derived.Maps.OwnSet
import Derived.OwnWalkIn
import Derived.RangeFuncBound
import Derived.RangeFuncCalls
import Derived.RangeFuncLeaves
import Derived.RangeFuncNested
import Derived.Recover
import Derived.RegionIn
import Derived.Shelf.Abstract
import Derived.Shelf.Bits.Mul64
import Derived.Shelf.RegionOpen
import Derived.StillTail
import Derived.TacticsInMore
import Derived.WalkLawsBesides
import Derived.WideKeyEntry
set_option linter.all false
set_option maxHeartbeats 3200000
set_option maxRecDepth 100000
namespace Go.Proofs.Ytoahcpkibpomcaa
open Go.RowKit
variable {W W' w w' w0 w1 w2:World}{B' B0 Bk Bs Bv C b12 b13 base' bh bp bt c cp d gk i j k m1 m2 u:Nat}{m:Mach}{o:Obj}{xs:List Value}{v':Value}{x:Int}{g:List (List Nat)}{seen:List Bool}{post:List Nat}
def xp {α:Type}(enc:α->Value)(w:World)(B:Nat)(v:Value)(xs:List α):Prop:=
 ∃(a:Option Addr) (cap:Nat),v=.slice a xs.length cap/\xs.length<=cap/\∀(k:Nat) (x:α),xs[k]? =some x->∃b o,a=some ⟨b,o,none⟩/\b<B/\U w b (o+k) (enc x)
def zN (n:Int):Value:=I n
def zj (n:Nat):Value:=I n
def ek (b:Bool):Value:=.bool b
theorem xp.below{α:Type}{enc:α->Value}{B:Nat}{v:Value}{xs:List α}(h:xp enc w B v xs)(hb:Below B w w'):xp enc w' B v xs:=by
 obtain⟨a,d,rfl,c,h⟩:=h;refine⟨a,d,rfl,c,fun k x hk=>?_⟩;obtain⟨b,o,i,hB,g⟩:=h k x hk;exact⟨b,o,i,hB,(hb.cell (p:=⟨b,o+k,none⟩) hB).trans g⟩
theorem xp.mono{α:Type}{enc:α->Value}{B:Nat}{v:Value}{xs:List α}(h:xp enc w B v xs)(hb:B<=B'):xp enc w B' v xs:=by
 obtain⟨a,d,rfl,c,h⟩:=h;refine⟨a,d,rfl,c,fun k x hk=>?_⟩;obtain⟨b,o,i,hB,g⟩:=h k x hk;exact⟨b,o,i,by omega,g⟩
theorem xp.map{α β:Type}{enc:α->Value}{enc':β->Value}(f:β->α)(hf:∀x,enc (f x)=enc' x){B:Nat}{v:Value}{xs:List β}:
 xp enc w B v (xs.map f)↔xp enc' w B v xs:=by
 constructor
 ·rintro⟨a,d,rfl,c,h⟩;refine⟨a,d,by simp,by simpa using c,fun k x hk=>?_⟩;have:=h k (f x) (by simp[hk])
  rwa [hf] at this
 ·rintro⟨a,d,rfl,c,h⟩;refine⟨a,d,by simp,by simpa using c,fun k x hk=>?_⟩;simp only[Jr,Oz] at hk;obtain⟨y,g,rfl⟩:=hk;rw[hf];exact h k y g
def aaB {α:Type}(enc:α->Value)(w:World)(B:Nat)(v:Value)(g:List (List α)):Prop:=
 ∃vs:List Value,xp id w B v vs/\vs.length=g.length/\∀(k:Nat) (rv:Value) (row:List α),vs[k]? =some rv->g[k]? =some row->xp enc w B rv row
theorem aaB.below{α:Type}{enc:α->Value}{B:Nat}{v:Value}{g:List (List α)}(h:aaB enc w B v g)(hb:Below B w w'):aaB enc w' B v g:=by
 obtain⟨vs,i,d,c⟩:=h;exact⟨vs,i.below hb,d,fun k rv row a b=>(c k rv row a b).below hb⟩
theorem aaB.mono{α:Type}{enc:α->Value}{B:Nat}{v:Value}{g:List (List α)}(h:aaB enc w B v g)(hb:B<=B'):aaB enc w B' v g:=by
 obtain⟨vs,i,d,c⟩:=h;exact⟨vs,i.mono hb,d,fun k rv row a b=>(c k rv row a b).mono hb⟩
theorem aaB.form{α:Type}{enc:α->Value}{B:Nat}{v:Value}{g:List (List α)}(h:aaB enc w B v g):∃a cap,v=.slice a g.length cap/\g.length<=cap:=by
 obtain⟨vs,⟨a,cap,rfl,d,_⟩,c,_⟩:=h;exact⟨a,cap,by rw[c],by omega⟩
theorem aaB.row{α:Type}{enc:α->Value}{B:Nat}{a:Option Addr}{len m:Nat}{g:List (List α)}(h:aaB enc w B (.slice a len m) g){row:List α}(hk:g[k]? =some row):
 ∃b o a2 cap2,a=some ⟨b,o,none⟩/\b<B/\U w b (o+k) (.slice a2 row.length cap2)/\row.length<=cap2/\∀j x,row[j]? =some x->∃b2 o2,a2=some ⟨b2,o2,none⟩/\b2<B/\U w b2 (o2+j) (enc x):=by
 obtain⟨vs,⟨a',a0,hv,_,q⟩,h2,y⟩:=h;cases hv;have d:k<vs.length:=by rw[h2];exact(Jh.1 hk).1
 obtain⟨b,o,u,hB,t⟩:=q k _ (Jd d);obtain⟨a2,cap2,l,c,i⟩:=y k _ row (Jd d) hk;refine⟨b,o,a2,cap2,u,hB,?_,c,i⟩;rw[t,<-l];rfl
theorem aaB.map{α β:Type}{enc:α->Value}{enc':β->Value}(f:β->α)(hf:∀x,enc (f x)=enc' x){B:Nat}{v:Value}{g:List (List β)}:
 aaB enc w B v (g.map (List.map f))↔aaB enc' w B v g:=by
 constructor
 ·rintro⟨vs,h,d,c⟩;exact⟨vs,h,by simpa using d,fun k rv row a b=>(xp.map f hf).1 (c k rv _ a (by simp[b]))⟩
 ·rintro⟨vs,h,d,c⟩;refine⟨vs,h,by simpa using d,fun k rv row a b=>?_⟩;simp only[Jr,Oz] at b;obtain⟨y,i,rfl⟩:=b;exact(xp.map f hf).2 (c k rv y a i)
theorem zI{B:Nat}(h:W.heap.size=B):(W.alloc o).heap[B]? =some o:=by subst h;exact heap_alloc_new W o
theorem zB{o':Obj}{b:Nat}(h:W.heap[b]? =some o'):(W.alloc o).heap[b]? =some o':=(Below.heap_alloc W o b (lt_of_block h)).trans h
theorem zL{row:Option Nat}{b:Nat}(hg:W.grownBy w1 row)(hk:W.heap[b]? =some o)(c:row≠some b):w1.heap[b]? =some o:=(hg.block b (lt_of_block hk) (Ne.symm c)).trans hk
theorem zR{b:Nat}{a:Addr}{u:Value}(h:W.heap[b]? =some o)(c:b≠a.block):(W.setCell a u).heap[b]? =some o:=(Below.heap_setCell _ _ _ _ c).trans h
theorem zH{B:Nat}{b:Nat}(hb:Below B W W')(h:W.heap[b]? =some o)(c:b<B):W'.heap[b]? =some o:=(hb.block b c).trans h
theorem zC{b:Nat}{e t:TypeId}{size n:Nat}{v:Value}{cs:Array Value}(h:w.ownsRow c e size v n xs)(hb:Q w b cs t)(hne:b<c∨e≠t):v.ownBlock≠some b:=by
 rcases h.2 with⟨rfl,_⟩|⟨g,i,cur,rfl,hg,d,_⟩
 ·simp[Value.ownBlock]
 ·simp only[Value.ownBlock,ne_eq,Option.some.injEq];rintro rfl;rw[d] at hb;rcases hne with hne|hne
  ·omega
  ·exact hne (by simpa using congrArg (fun o=>match o with|some (Obj.cells _ t _)=>t|_=>0) hb)
theorem zo{e e':TypeId}{size n n':Nat}{v:Value}{i:List Value}(h:w.ownsRow d e size v n xs)(l:w.ownsRow base' e' c v' n' i)(j:e≠e'):v.ownBlock=none∨v.ownBlock≠v'.ownBlock:=by
 rcases h.2 with⟨rfl,_⟩|⟨g,m,cur,rfl,hg,k,_⟩
 ·exact .inl rfl
 ·right;intro e1;exact zC l k (.inr (Ne.symm j)) e1.symm
theorem zD{b:Nat}{cs:Array Value}{t:TypeId}(h:Q w b cs t)(u:Value):Q (w.setCell ⟨b,i,none⟩ u) b (cs.setIfInBounds i u) t:=by
 have c:=lt_of_block h;have d:w.heap[b]=A cs t:=by simpa[Array.getElem?_eq_getElem c] using h
 show(w.heap.modify b _)[b]? =_
 rw[Array.getElem?_eq_getElem (by simpa using c),Array.getElem_modify_self,d];rfl
theorem zA{b:Nat}{cs:Array Value}{t:TypeId}{v:Value}(h:Q w b cs t)(hi:cs[i]? =some v):U w b i v:=by simp[World.cell?,h,hi]
theorem zE{b:Nat}{cs:Array Value}{t:TypeId}(h:Q w b cs t):Y w b i:=by simp[World.frozen?,h]
theorem vY{e:TypeId}{size n:Nat}{v:Value}(h:w.ownsRow c e size v n xs)(hb:base'<=c):w.ownsRow base' e size v n xs:=by
 refine⟨h.1,?_⟩;rcases h.2 with i|⟨g,d,cur,rfl,hg,r⟩
 ·exact .inl i
 ·exact .inr ⟨g,d,cur,rfl,by omega,r⟩
theorem zG{e:TypeId}{size n:Nat}{v:Value}(h:w.ownsRow c e size v n xs):∃a cap,v=.slice a n cap:=by
 rcases h.2 with⟨rfl,rfl⟩|⟨g,cap,cur,rfl,_⟩
 ·exact⟨none,0,rfl⟩
 ·exact⟨_,cap,rfl⟩
theorem zm{e:TypeId}{size n m:Nat}{a:Option Addr}(h:w.ownsRow i e size (.slice a m d) n xs):m<=d/\d<=9223372036854775807:=by
 rcases h.2 with⟨hv,_⟩|⟨g,c,cur,hv,_,_,k,j,_⟩
 ·cases hv;omega
 ·cases hv;unfold maxLen at j;omega
theorem ji{e:TypeId}{size n:Nat}{v:Value}(h:w.ownsRow c e size v n xs):(w.drewN k).ownsRow c e size v n xs:=h
theorem kg{b:Nat}{o:Option Obj}(h:w.heap[b]? =o):(w.drewN k).heap[b]? =o:=h
theorem yC{B:Nat}(h:Below B w w'):Below B w (w'.drewN k):=⟨h.os,h.tape,h.output,h.size,h.block⟩
theorem jc{b:Nat}{v:Value}{t t':TypeId}(h:Q w b #[v] t)(c:Q w b #[v'] t'):v=v':=by
 rw[h] at c;simp only[Option.some.injEq,Obj.cells.injEq] at c;simpa using c.1
theorem nJ{row:Option Nat}(h:W.grownBy W' row):W.grownBy W'.drew row:=⟨h.os,h.tape,h.output,h.size,h.block⟩
theorem oI (W:World)(row:Option Nat):W.grownBy W row:=⟨rfl,rfl,rfl,Je _,fun _ _ _=>rfl⟩
theorem yL (B:Nat)(w:World)(n:Nat):Below B w (w.drewN n):=⟨rfl,rfl,rfl,Je _,fun _ _=>rfl⟩
theorem jU{b o:Nat}{v:Value}(h:U w b o v):b<w.heap.size:=Jw w _ h
theorem bcell(hb:O W w1):(∀b o,b<W.heap.size->w1.cell? ⟨b,o,none⟩=W.cell? ⟨b,o,none⟩)/\(∀b o,b<W.heap.size->w1.frozen? ⟨b,o,none⟩=W.frozen? ⟨b,o,none⟩):=
 ⟨fun b o h=>hb.cell (p:=⟨b,o,none⟩) h,fun b o h=>hb.frozen (p:=⟨b,o,none⟩) h⟩
theorem zh {k:IntKind}{a b:Int}(h:a=b):Ending.returned (.int k a)=.returned (.int k b):=by rw[h]
theorem rH {a b:Bool}(h:a=b):Ending.returned (.bool a)=.returned (.bool b):=by rw[h]
def I64 (x:Int):Prop:=-9223372036854775808<=x/\x<=9223372036854775807
def wz (n:Nat):Value:=.int .u8 (n:Int)
def vL (n:Nat):Value:=G n
theorem p7{e:TypeId}{size n:Nat}{v:Value}(h:w.ownsRow c e size v n xs)(hb:Below C w w')(k:w.heap.size<=C):w'.ownsRow c e size v n xs:=by
 refine⟨h.1,?_⟩;rcases h.2 with j|⟨g,i,cur,rfl,hg,d,r⟩
 ·exact .inl j
 ·exact .inr ⟨g,i,cur,rfl,hg,zH hb d (by have:=lt_of_block d;omega),r⟩
def yN {α:Type}(sz:Nat)(R:World->Nat->Nat->Nat->α->Prop)(w:World)(B:Nat)(v:Value)(xs:List α):Prop:=
 ∃(a:Option Addr) (cap:Nat),v=.slice a xs.length cap/\xs.length<=cap/\cap<=9223372036854775807/\∀(k:Nat) (x:α),xs[k]? =some x->∃b o,a=some ⟨b,o,none⟩/\b<B/\R w B b (o+k*sz) x
def vV {α:Type}(R:World->Nat->Nat->Nat->α->Prop):Prop:=(∀w w' B b q x,b<B->Below B w w'->R w B b q x->R w' B b q x)/\∀w B B' b q x,B<=B'->R w B b q x->R w B' b q x
theorem yN.below{α:Type}{sz:Nat}{R:World->Nat->Nat->Nat->α->Prop}(g:vV R){B:Nat}{v:Value}{xs:List α}(h:yN sz R w B v xs)(hb:Below B w w'):yN sz R w' B v xs:=by
 obtain⟨a,d,rfl,q,m,l⟩:=h;refine⟨a,d,rfl,q,m,fun k x hk=>?_⟩;obtain⟨b,o,j,c,i⟩:=l k x hk;exact⟨b,o,j,c,g.1 _ _ _ _ _ _ c hb i⟩
theorem yN.mono{α:Type}{sz:Nat}{R:World->Nat->Nat->Nat->α->Prop}(d:vV R){B:Nat}{v:Value}{xs:List α}(h:yN sz R w B v xs)(hb:B<=B'):yN sz R w B' v xs:=by
 obtain⟨a,c,rfl,m,l,j⟩:=h;refine⟨a,c,rfl,m,l,fun k x hk=>?_⟩;obtain⟨b,o,i,q,g⟩:=j k x hk;exact⟨b,o,i,by omega,d.2 _ _ _ _ _ _ hb g⟩
theorem yN.form{α:Type}{sz:Nat}{R:World->Nat->Nat->Nat->α->Prop}{B:Nat}{v:Value}{xs:List α}(h:yN sz R w B v xs):∃a cap,v=.slice a xs.length cap/\xs.length<=cap/\cap<=9223372036854775807:=
 let⟨a,cap,e,h1,h2,_⟩:=h;⟨a,cap,e,h1,h2⟩
theorem yN.get{α:Type}{sz:Nat}{R:World->Nat->Nat->Nat->α->Prop}{B:Nat}{a:Option Addr}{n:Nat}{xs:List α}(h:yN sz R w B (.slice a n c) xs){x:α}(hk:xs[k]? =some x):
 ∃b o,a=some ⟨b,o,none⟩/\b<B/\R w B b (o+k*sz) x:=by
 obtain⟨a',g,e,_,_,d⟩:=h;cases e;exact d k x hk
def IntR (w:World)(B b q:Nat)(x:Int):Prop:=U w b q (I x)/\I64 x
def U16R (w:World)(B b q:Nat)(x:Nat):Prop:=U w b q (G x)/\x<65536
def U8R (w:World)(B b q:Nat)(x:Nat):Prop:=U w b q (.int .u8 (x:Int))/\x<256
def StrR (w:World)(B b q:Nat)(x:ByteArray):Prop:=U w b q (.string x)/\x.size<=9223372036854775807
theorem zV{B:Nat}(hb:Below B w w'){b q:Nat}(hB:b<B){v:Value}(h:U w b q v):U w' b q v:=(hb.cell (p:=⟨b,q,none⟩) hB).trans h
theorem zO:vV IntR:=⟨fun w w' B b q x hB hb h=>⟨zV hb hB h.1,h.2⟩,fun w B B' b q x _ h=>h⟩
theorem zr:vV U16R:=⟨fun w w' B b q x hB hb h=>⟨zV hb hB h.1,h.2⟩,fun w B B' b q x _ h=>h⟩
theorem xQ:vV U8R:=⟨fun w w' B b q x hB hb h=>⟨zV hb hB h.1,h.2⟩,fun w B B' b q x _ h=>h⟩
theorem tN:vV StrR:=⟨fun w w' B b q x hB hb h=>⟨zV hb hB h.1,h.2⟩,fun w B B' b q x _ h=>h⟩
abbrev zY:=yN 1 IntR
abbrev wV:=yN 1 U16R
abbrev dL:=yN 1 U8R
abbrev adu:=yN 1 StrR
def ObjR (w:World)(B b q:Nat)(x:IObj):Prop:=
 U w b q (I x.bank)/\U w b (q+1) (G (x.addr:Int))/\U w b (q+2) (G (x.size:Int))/\I64 x.bank/\x.addr<65536/\x.size<65536
theorem tZ:vV ObjR:=⟨fun w w' B b q x hB hb h=>⟨zV hb hB h.1,zV hb hB h.2.1,zV hb hB h.2.2.1,h.2.2.2⟩,fun w B B' b q x _ h=>h⟩
abbrev kq:=yN 3 ObjR
def adz (w:World)(B b q:Nat)(x:IEdge):Prop:=
 U w b q (I x.block)/\I64 x.block/\∃av,U w b (q+1) av/\zY w B av x.args
theorem xL:vV adz:=
 ⟨fun w w' B b q x hB hb h=>by obtain⟨i,g,av,d,c⟩:=h;exact⟨zV hb hB i,g,av,zV hb hB d,c.below zO hb⟩,
  fun w B B' b q x hB h=>by obtain⟨i,g,av,d,c⟩:=h;exact⟨i,g,av,d,c.mono zO hB⟩⟩
abbrev wH:=yN 2 adz
def OpR (w:World)(B b q:Nat)(x:IOp):Prop:=
 U w b q (I x.code)/\U w b (q+1) (I x.res)/\U w b (q+2) (I x.a)/\U w b (q+3) (I x.b)/\U w b (q+4) (G (x.n:Int))/\
  (I64 x.code/\I64 x.res/\I64 x.a/\I64 x.b/\x.n<65536)/\∃av,U w b (q+5) av/\zY w B av x.args
theorem xA:vV OpR:=
 ⟨fun w w' B b q x hB hb h=>by obtain⟨m,l,k,j,i,g,av,d,c⟩:=h;exact⟨zV hb hB m,zV hb hB l,zV hb hB k,zV hb hB j,zV hb hB i,g,av,zV hb hB d,c.below zO hb⟩,
  fun w B B' b q x hB h=>by obtain⟨m,l,k,j,i,g,av,d,c⟩:=h;exact⟨m,l,k,j,i,g,av,d,c.mono zO hB⟩⟩
abbrev mN:=yN 6 OpR
def BlkR (w:World)(B b q:Nat)(x:IBlk):Prop:=
 U w b (q+2) (I x.term.kind)/\U w b (q+3) (I x.term.a)/\(I64 x.term.kind/\I64 x.term.a)/\
  ∃pv ov tv,U w b q pv/\U w b (q+1) ov/\U w b (q+4) tv/\zY w B pv x.params/\mN w B ov x.ops/\wH w B tv x.term.to
theorem yT:vV BlkR:=
 ⟨fun w w' B b q x hB hb h=>by obtain⟨o,m,l,pv,ov,tv,k,j,i,g,d,c⟩:=h;exact⟨zV hb hB o,zV hb hB m,l,pv,ov,tv,zV hb hB k,zV hb hB j,zV hb hB i,g.below zO hb,d.below xA hb,c.below xL hb⟩,
  fun w B B' b q x hB h=>by obtain⟨o,m,l,pv,ov,tv,k,j,i,g,d,c⟩:=h;exact⟨o,m,l,pv,ov,tv,k,j,i,g.mono zO hB,d.mono xA hB,c.mono xL hB⟩⟩
abbrev wX:=yN 5 BlkR
def FuncR (w:World)(B b q:Nat)(x:List IBlk):Prop:=∃bv,U w b q bv/\wX w B bv x
theorem vR:vV FuncR:=
 ⟨fun w w' B b q x hB hb h=>by obtain⟨bv,d,c⟩:=h;exact⟨bv,zV hb hB d,c.below yT hb⟩,
  fun w B B' b q x hB h=>by obtain⟨bv,d,c⟩:=h;exact⟨bv,d,c.mono yT hB⟩⟩
abbrev iS:=yN 1 FuncR
structure PV where
 fv:Value
 av:Value
 dv:Value
 bv:Value
structure ProgIn (w:World) (B:Nat) (V:PV) (p:IProg):Prop where
 funcs:iS w B V.fv p.funcs
 args:zY w B V.av p.args
 data:kq w B V.dv p.data
 banks:adu w B V.bv p.banks
 ent:I64 p.entry
 hnd:I64 p.handler
theorem ProgIn.below{B:Nat}{V:PV}{p:IProg}(h:ProgIn w B V p)(hb:Below B w w'):ProgIn w' B V p:=
 ⟨h.funcs.below vR hb,h.args.below zO hb,h.data.below tZ hb,h.banks.below tN hb,h.ent,h.hnd⟩
theorem ProgIn.mono{B:Nat}{V:PV}{p:IProg}(h:ProgIn w B V p)(hb:B<=B'):ProgIn w B' V p:=
 ⟨h.funcs.mono vR hb,h.args.mono zO hb,h.data.mono tZ hb,h.banks.mono tN hb,h.ent,h.hnd⟩
structure Flds where
 is:Bool
 res:Bool
 a:Bool
 b:Bool
 n:Bool
def zi (c:Int):Flds:=
 if c=1∨c=2∨c=24 then⟨true,true,false,false,true⟩
 else if c=3∨c=4∨c=18∨c=19 then⟨true,true,true,false,false⟩
 else if 5<=c/\c<=17 then⟨true,true,true,true,false⟩
 else if c=20∨c=21 then⟨true,false,true,true,false⟩
 else if c=22∨c=23 then⟨true,true,true,false,true⟩
 else if c=25 then⟨true,false,true,false,true⟩
 else if c=26∨c=27 then⟨true,false,false,false,false⟩
 else⟨false,false,false,false,false⟩
theorem rJ (c:Int):
 ((c=1∨c=2∨c=24)/\zi c=⟨true,true,false,false,true⟩)∨((c=3∨c=4∨c=18∨c=19)/\zi c=⟨true,true,true,false,false⟩)∨((5<=c/\c<=17)/\zi c=⟨true,true,true,true,false⟩)∨((c=20∨c=21)/\zi c=⟨true,false,true,true,false⟩)∨
 ((c=22∨c=23)/\zi c=⟨true,true,true,false,true⟩)∨(c=25/\zi c=⟨true,false,true,false,true⟩)∨((c=26∨c=27)/\zi c=⟨true,false,false,false,false⟩)∨((c<1∨27<c)/\zi c=⟨false,false,false,false,false⟩):=by
 unfold zi
 by_cases l:c=1∨c=2∨c=24
 ·exact .inl ⟨l,if_pos l⟩
 rw[if_neg l]
 by_cases k:c=3∨c=4∨c=18∨c=19
 ·exact .inr (.inl ⟨k,if_pos k⟩)
 rw[if_neg k]
 by_cases j:5<=c/\c<=17
 ·exact .inr (.inr (.inl ⟨j,if_pos j⟩))
 rw[if_neg j]
 by_cases i:c=20∨c=21
 ·exact .inr (.inr (.inr (.inl ⟨i,if_pos i⟩)))
 rw[if_neg i]
 by_cases h:c=22∨c=23
 ·exact .inr (Zi (.inl ⟨h,if_pos h⟩))
 rw[if_neg h]
 by_cases g:c=25
 ·exact .inr (.inr (Zi (.inl ⟨g,if_pos g⟩)))
 rw[if_neg g]
 by_cases d:c=26∨c=27
 ·exact .inr (.inr (.inr (Zi (.inl ⟨d,if_pos d⟩))))
 rw[if_neg d];exact .inr (.inr (.inr (Zi (.inr ⟨by omega,rfl⟩))))
def nL (f:Flds):Value:=.tuple #[.agg #[.bool f.res,.bool f.a,.bool f.b,.bool f.n],.bool f.is]
def yX (w:World)(f:Flds)(e:Ending)(w':World):Prop:=e=.returned (nL f)/\O w w'
theorem flds_1 (w:World):T 81 #[I 1] w (yX w ⟨true,true,false,false,true⟩):=by
 go_enter Try.func81,Try.ntmps81;go_wp2;exact bodyPost_ret (v:=.tuple #[.agg #[.bool true,.bool false,.bool false,.bool true],.bool true]) (by simp[results,Try.results81,go_sem]) rfl ⟨rfl,Zr⟩
theorem flds_2 (w:World):T 81 #[I 2] w (yX w ⟨true,true,false,false,true⟩):=by
 go_enter Try.func81,Try.ntmps81;go_wp2;exact bodyPost_ret (v:=.tuple #[.agg #[.bool true,.bool false,.bool false,.bool true],.bool true]) (by simp[results,Try.results81,go_sem]) rfl ⟨rfl,Zr⟩
theorem flds_3 (w:World):T 81 #[I 3] w (yX w ⟨true,true,true,false,false⟩):=by
 go_enter Try.func81,Try.ntmps81;go_wp2;exact bodyPost_ret (v:=.tuple #[.agg #[.bool true,.bool true,.bool false,.bool false],.bool true]) (by simp[results,Try.results81,go_sem]) rfl ⟨rfl,Zr⟩
theorem flds_4 (w:World):T 81 #[I 4] w (yX w ⟨true,true,true,false,false⟩):=by
 go_enter Try.func81,Try.ntmps81;go_wp2;exact bodyPost_ret (v:=.tuple #[.agg #[.bool true,.bool true,.bool false,.bool false],.bool true]) (by simp[results,Try.results81,go_sem]) rfl ⟨rfl,Zr⟩
theorem flds_18 (w:World):T 81 #[I 18] w (yX w ⟨true,true,true,false,false⟩):=by
 go_enter Try.func81,Try.ntmps81;go_wp2;exact bodyPost_ret (v:=.tuple #[.agg #[.bool true,.bool true,.bool false,.bool false],.bool true]) (by simp[results,Try.results81,go_sem]) rfl ⟨rfl,Zr⟩
theorem flds_19 (w:World):T 81 #[I 19] w (yX w ⟨true,true,true,false,false⟩):=by
 go_enter Try.func81,Try.ntmps81;go_wp2;exact bodyPost_ret (v:=.tuple #[.agg #[.bool true,.bool true,.bool false,.bool false],.bool true]) (by simp[results,Try.results81,go_sem]) rfl ⟨rfl,Zr⟩
theorem flds_20 (w:World):T 81 #[I 20] w (yX w ⟨true,false,true,true,false⟩):=by
 go_enter Try.func81,Try.ntmps81;go_wp2;exact bodyPost_ret (v:=.tuple #[.agg #[.bool false,.bool true,.bool true,.bool false],.bool true]) (by simp[results,Try.results81,go_sem]) rfl ⟨rfl,Zr⟩
theorem flds_21 (w:World):T 81 #[I 21] w (yX w ⟨true,false,true,true,false⟩):=by
 go_enter Try.func81,Try.ntmps81;go_wp2;exact bodyPost_ret (v:=.tuple #[.agg #[.bool false,.bool true,.bool true,.bool false],.bool true]) (by simp[results,Try.results81,go_sem]) rfl ⟨rfl,Zr⟩
theorem flds_22 (w:World):T 81 #[I 22] w (yX w ⟨true,true,true,false,true⟩):=by
 go_enter Try.func81,Try.ntmps81;go_wp2;exact bodyPost_ret (v:=.tuple #[.agg #[.bool true,.bool true,.bool false,.bool true],.bool true]) (by simp[results,Try.results81,go_sem]) rfl ⟨rfl,Zr⟩
theorem flds_23 (w:World):T 81 #[I 23] w (yX w ⟨true,true,true,false,true⟩):=by
 go_enter Try.func81,Try.ntmps81;go_wp2;exact bodyPost_ret (v:=.tuple #[.agg #[.bool true,.bool true,.bool false,.bool true],.bool true]) (by simp[results,Try.results81,go_sem]) rfl ⟨rfl,Zr⟩
theorem flds_24 (w:World):T 81 #[I 24] w (yX w ⟨true,true,false,false,true⟩):=by
 go_enter Try.func81,Try.ntmps81;go_wp2;exact bodyPost_ret (v:=.tuple #[.agg #[.bool true,.bool false,.bool false,.bool true],.bool true]) (by simp[results,Try.results81,go_sem]) rfl ⟨rfl,Zr⟩
theorem flds_25 (w:World):T 81 #[I 25] w (yX w ⟨true,false,true,false,true⟩):=by
 go_enter Try.func81,Try.ntmps81;go_wp2;exact bodyPost_ret (v:=.tuple #[.agg #[.bool false,.bool true,.bool false,.bool true],.bool true]) (by simp[results,Try.results81,go_sem]) rfl ⟨rfl,Zr⟩
theorem flds_26 (w:World):T 81 #[I 26] w (yX w ⟨true,false,false,false,false⟩):=by
 go_enter Try.func81,Try.ntmps81;go_wp2;exact bodyPost_ret (v:=.tuple #[.agg #[.bool false,.bool false,.bool false,.bool false],.bool true]) (by simp[results,Try.results81,go_sem]) rfl ⟨rfl,Zr⟩
theorem flds_27 (w:World):T 81 #[I 27] w (yX w ⟨true,false,false,false,false⟩):=by
 go_enter Try.func81,Try.ntmps81;go_wp2;exact bodyPost_ret (v:=.tuple #[.agg #[.bool false,.bool false,.bool false,.bool false],.bool true]) (by simp[results,Try.results81,go_sem]) rfl ⟨rfl,Zr⟩
theorem flds_mid (c:Int)(h:5<=c/\c<=17)(w:World):T 81 #[I c] w (yX w ⟨true,true,true,true,false⟩):=by
 have t1:((c:Int)==1)=false:=Ze;have t2:((c:Int)==2)=false:=Ze;have t3:((c:Int)==3)=false:=Ze;have t4:((c:Int)==4)=false:=Ze;have g:((c:Int)==18)=false:=Ze;have d:((c:Int)==19)=false:=Ze;have d1:decide (5<=c)=true:=by rw[decide_eq_true_eq];omega
 have d2:decide (c<=17)=true:=by rw[decide_eq_true_eq];omega
 clear h;go_enter Try.func81,Try.ntmps81;go_wp2;exact bodyPost_ret (v:=.tuple #[.agg #[.bool true,.bool true,.bool true,.bool false],.bool true]) (by simp[results,Try.results81,go_sem]) rfl ⟨rfl,Zr⟩
theorem flds_low (c:Int)(h:c<1)(w:World):T 81 #[I c] w (yX w ⟨false,false,false,false,false⟩):=by
 have t1:((c:Int)==1)=false:=Ze;have t2:((c:Int)==2)=false:=Ze;have t3:((c:Int)==3)=false:=Ze;have t4:((c:Int)==4)=false:=Ze;have t:((c:Int)==18)=false:=Ze;have q:((c:Int)==19)=false:=Ze;have o:((c:Int)==20)=false:=Ze;have m:((c:Int)==21)=false:=Ze;have l:((c:Int)==22)=false:=Ze;have k:((c:Int)==23)=false:=Ze;have j:((c:Int)==24)=false:=Ze;have i:((c:Int)==25)=false:=Ze;have g:((c:Int)==26)=false:=Ze;have d:((c:Int)==27)=false:=Ze;have d1:decide (5<=c)=false:=by rw[decide_eq_false_iff_not];omega
 clear h;go_enter Try.func81,Try.ntmps81;go_wp2;exact bodyPost_ret (v:=.tuple #[.agg #[.bool false,.bool false,.bool false,.bool false],.bool false]) (by simp[results,Try.results81,go_sem]) rfl ⟨rfl,Zr⟩
theorem iU (c:Int)(h:27<c)(w:World):T 81 #[I c] w (yX w ⟨false,false,false,false,false⟩):=by
 have t1:((c:Int)==1)=false:=Ze;have t2:((c:Int)==2)=false:=Ze;have t3:((c:Int)==3)=false:=Ze;have t4:((c:Int)==4)=false:=Ze;have t:((c:Int)==18)=false:=Ze;have q:((c:Int)==19)=false:=Ze;have o:((c:Int)==20)=false:=Ze;have m:((c:Int)==21)=false:=Ze;have l:((c:Int)==22)=false:=Ze;have k:((c:Int)==23)=false:=Ze;have j:((c:Int)==24)=false:=Ze;have i:((c:Int)==25)=false:=Ze;have g:((c:Int)==26)=false:=Ze;have d:((c:Int)==27)=false:=Ze;have d1:decide (5<=c)=true:=by rw[decide_eq_true_eq];omega
 have d2:decide (c<=17)=false:=by rw[decide_eq_false_iff_not];omega
 clear h;go_enter Try.func81,Try.ntmps81;go_wp2;exact bodyPost_ret (v:=.tuple #[.agg #[.bool false,.bool false,.bool false,.bool false],.bool false]) (by simp[results,Try.results81,go_sem]) rfl ⟨rfl,Zr⟩
theorem yu (c:Int)(w:World):T 81 #[I c] w (yX w (zi c)):=by
 rcases rJ c with⟨h,e⟩|⟨h,e⟩|⟨h,e⟩|⟨h,e⟩|⟨h,e⟩|⟨h,e⟩|⟨h,e⟩|⟨h,e⟩<;>rw[e]
 ·rcases h with rfl|rfl|rfl
  ·exact flds_1 w
  ·exact flds_2 w
  ·exact flds_24 w
 ·rcases h with rfl|rfl|rfl|rfl
  ·exact flds_3 w
  ·exact flds_4 w
  ·exact flds_18 w
  ·exact flds_19 w
 ·exact flds_mid c h w
 ·rcases h with rfl|rfl
  ·exact flds_20 w
  ·exact flds_21 w
 ·rcases h with rfl|rfl
  ·exact flds_22 w
  ·exact flds_23 w
 ·subst h;exact flds_25 w
 ·rcases h with rfl|rfl
  ·exact flds_26 w
  ·exact flds_27 w
 ·rcases h with h|h
  ·exact flds_low c h w
  ·exact iU c h w
structure MK where
 E:IEnv
 V:PV
 inv:Value
 irqv:Value
 pm:Nat
 rb:Nat
 B:Nat
variable {K:MK}
def r9 (K:MK)(m:Mach)(ov:Value):Array Value:=
 #[K.V.fv,K.V.av,I K.E.p.entry,I K.E.p.handler,K.V.dv,K.V.bv,N K.rb 8192 8192,K.inv,K.irqv,I m.fuel,ov,I (m.inputs:Int),I (m.polls:Int)]
def qO (l:List (Nat×Nat)):List Value:=(l.map fun p=> [vL p.1,vL p.2]).flatten
structure MachAt (w:World) (K:MK) (m:Mach) (ov:Value):Prop where
 blk:w.heap[K.pm]? =some (.cells (r9 K m ov) 148 (0,0))
 ram:w.heap[K.rb]? =some (.cells (m.ram.map wz).toArray 5 (0,0))
 rlen:m.ram.length=8192
 rlt:∀x∈m.ram,x<256
 out:w.ownsRow K.B 173 2 ov m.out.length (qO m.out)
 olt:∀p∈m.out,p.1<65536/\p.2<65536
 obd:m.out.length+m.fuel.toNat<=4000000
 fuel:I64 m.fuel
 inp:m.inputs<=K.E.inn.length
 pol:m.polls<=K.E.irq.length
 gpm:K.B<=K.pm
 grb:K.B<=K.rb
 prog:ProgIn w K.B K.V K.E.p
 inn:wV w K.B K.inv K.E.inn
 irq:dL w K.B K.irqv K.E.irq
def sA:Obj->Prop
 |.cells _ t _=>t≠148/\t≠173/\t≠5
 |_=>True
structure Frm (B:Nat) (w w':World):Prop where
 below:Below B w w'
 kept:∀(k:Nat) (o:Obj),w.heap[k]? =some o->sA o->w'.heap[k]? =some o
theorem Frm.refl (B:Nat)(w:World):Frm B w w:=⟨Below.refl _ _,fun _ _ h _=>h⟩
theorem Frm.trans {B:Nat}{a b c:World}(h:Frm B a b)(k:Frm B b c):Frm B a c:=⟨h.below.trans k.below,fun i o hi hs=>k.kept i o (h.kept i o hi hs) hs⟩
theorem Frm.drewN{B n:Nat}{a:World}(h:Frm B a w):Frm B a (w.drewN n):=⟨yC h.below,h.kept⟩
theorem Frm.alloc{B:Nat}{a:World}(h:Frm B a w)(hB:B<=a.heap.size)(o:Obj):Frm B a (w.alloc o):=⟨h.below.alloc (Jn hB h.below.size) o,fun i o' hi hs=>zB (h.kept i o' hi hs)⟩
theorem Frm.set{B:Nat}{a:World}(h:Frm B a w){b:Nat}{cs:Array Value}{t:TypeId}(hb:Q w b cs t)(hB:B<=b)(ht:¬sA (A cs t))(u:Value):Frm B a (w.setCell ⟨b,i,none⟩ u):=
 ⟨h.below.setCell hB u,fun k o hk hs=>by
   have c:=h.kept k o hk hs;refine zR c ?_;rintro rfl;rw[hb] at c
   exact ht (by rw[Nt c];exact hs)⟩
def oE (k i:Nat):PanicEntry:= {v:=.iface 151 (.agg #[I k,G i]),recovered:=false }
def endOf:Res Nat->Ending
 |.ok x _=> .returned (G x)
 |.trap k i _=> .panicked [oE k i]
def Res.mach {α:Type}:Res α->Mach
 |.ok _ m=>m
 |.trap _ _ m=>m
theorem MachAt.cell {w:World}{K:MK}{m:Mach}{ov:Value}(h:MachAt w K m ov){i:Nat}{v:Value}(hv:(r9 K m ov)[i]? =some v):U w K.pm i v:=zA h.blk hv
section
variable {w:World} {K:MK} {m:Mach} {ov:Value} (h:MachAt w K m ov)
include h
theorem MachAt.c0:U w K.pm 0 K.V.fv:=h.cell rfl
theorem MachAt.c3:U w K.pm 3 (I K.E.p.handler):=h.cell rfl
theorem MachAt.c4:U w K.pm 4 K.V.dv:=h.cell rfl
theorem MachAt.c5:U w K.pm 5 K.V.bv:=h.cell rfl
theorem MachAt.c6:U w K.pm 6 (N K.rb 8192 8192):=h.cell rfl
theorem MachAt.c7:U w K.pm 7 K.inv:=h.cell rfl
theorem MachAt.c8:U w K.pm 8 K.irqv:=h.cell rfl
theorem MachAt.c9:U w K.pm 9 (I m.fuel):=h.cell rfl
theorem MachAt.c10:U w K.pm 10 ov:=h.cell rfl
theorem MachAt.c11:U w K.pm 11 (I (m.inputs:Int)):=h.cell rfl
theorem MachAt.c12:U w K.pm 12 (I (m.polls:Int)):=h.cell rfl
end
theorem MachAt.free{ov:Value}(h:MachAt w K m ov)(i:Nat):Y w K.pm i:=zE h.blk
theorem MachAt.keep{ov:Value}(h:MachAt w K m ov)(hb:O w w'):MachAt w' K m ov:=
 ⟨zH hb h.blk (lt_of_block h.blk),zH hb h.ram (lt_of_block h.ram),h.rlen,h.rlt,p7 h.out hb (Je _),h.olt,h.obd,h.fuel,h.inp,h.pol,h.gpm,h.grb,
  h.prog.below (hb.mono (Jn h.gpm (Qd (lt_of_block h.blk)))),h.inn.below zr (hb.mono (Jn h.gpm (Qd (lt_of_block h.blk)))),h.irq.below xQ (hb.mono (Jn h.gpm (Qd (lt_of_block h.blk))))⟩
theorem MachAt.drewN{ov:Value}(h:MachAt w K m ov)(n:Nat):MachAt (w.drewN n) K m ov:=h.keep (yL _ _ _)
theorem MachAt.size{ov:Value}(h:MachAt w K m ov):K.B<w.heap.size:=Nat.lt_of_le_of_lt h.gpm (lt_of_block h.blk)
theorem wj (k i:Nat)(w:World):T 95 #[I k,G i] w fun e w'=>e=.panicked [oE k i]/\w=w':=by
 go_enter Try.func95,Try.ntmps95;go_wp2;exact⟨rfl,rfl,rfl⟩
theorem MachAt.setF{ov:Value}(h:MachAt w K m ov)(f:Int)(hf:I64 f)(hb:m.out.length+f.toNat<=4000000)(c:K.rb≠K.pm):MachAt (w.setCell ⟨K.pm,9,none⟩ (I f)) K {m with fuel:=f } ov:=by
 refine⟨?_,zR h.ram (by simpa using c),h.rlen,h.rlt,ownsRow_setCell_other h.out ?_ _,h.olt,hb,hf,h.inp,h.pol,h.gpm,h.grb,?_,?_,?_⟩
 ·rw[zD h.blk];rfl
 ·intro e;exact zC h.out h.blk (.inr Zd) (by simpa using e)
 ·exact h.prog.below ((Below.refl _ _).setCell h.gpm _)
 ·exact h.inn.below zr ((Below.refl _ _).setCell h.gpm _)
 ·exact h.irq.below xQ ((Below.refl _ _).setCell h.gpm _)
theorem MachAt.setI{ov:Value}(h:MachAt w K m ov)(d:m.inputs<K.E.inn.length)(c:K.rb≠K.pm):MachAt (w.setCell ⟨K.pm,11,none⟩ (I ((m.inputs:Int)+1))) K {m with inputs:=m.inputs+1 } ov:=by
 refine⟨?_,zR h.ram (by simpa using c),h.rlen,h.rlt,ownsRow_setCell_other h.out ?_ _,h.olt,h.obd,h.fuel,d,h.pol,h.gpm,h.grb,?_,?_,?_⟩
 ·rw[zD h.blk];rfl
 ·intro e;exact zC h.out h.blk (.inr Zd) (by simpa using e)
 ·exact h.prog.below ((Below.refl _ _).setCell h.gpm _)
 ·exact h.inn.below zr ((Below.refl _ _).setCell h.gpm _)
 ·exact h.irq.below xQ ((Below.refl _ _).setCell h.gpm _)
theorem MachAt.setP{ov:Value}(h:MachAt w K m ov)(d:m.polls<K.E.irq.length)(c:K.rb≠K.pm):MachAt (w.setCell ⟨K.pm,12,none⟩ (I ((m.polls:Int)+1))) K {m with polls:=m.polls+1 } ov:=by
 refine⟨?_,zR h.ram (by simpa using c),h.rlen,h.rlt,ownsRow_setCell_other h.out ?_ _,h.olt,h.obd,h.fuel,h.inp,d,h.gpm,h.grb,?_,?_,?_⟩
 ·rw[zD h.blk];rfl
 ·intro e;exact zC h.out h.blk (.inr Zd) (by simpa using e)
 ·exact h.prog.below ((Below.refl _ _).setCell h.gpm _)
 ·exact h.inn.below zr ((Below.refl _ _).setCell h.gpm _)
 ·exact h.irq.below xQ ((Below.refl _ _).setCell h.gpm _)
theorem MachAt.ne{ov:Value}(h:MachAt w K m ov):K.rb≠K.pm:=by
 intro e;have d:=h.blk;have c:=h.ram;rw[e,d] at c;simp at c
theorem qG (a:Nat):wo a=true↔16384<=a/\a<24576:=by unfold wo;rw[Jm,decide_eq_true_eq,decide_eq_true_eq]
theorem MachAt.ramCell{ov:Value}(h:MachAt w K m ov){a:Nat}(d:wo a=true):U w K.rb (a-16384) (.int .u8 (tC m a:Nat))/\tC m a<256/\Y w K.rb (a-16384):=by
 have g:=(qG a).1 d;obtain⟨x,c⟩:∃x,m.ram[a-16384]? =some x:=⟨_,Jd (by rw[h.rlen];omega)⟩
 have e:tC m a=x:=by unfold tC;rw[Jj,c];rfl
 rw[e];exact⟨zA h.ram (by simp[c,wz]),h.rlt x (Ji c),zE h.ram⟩
theorem MachAt.setR{ov:Value}(h:MachAt w K m ov)(a x:Nat)(g:x<256):MachAt (w.setCell ⟨K.rb,a-16384,none⟩ (.int .u8 (x:Int))) K (m.put a x) ov/\Frm K.B w (w.setCell ⟨K.rb,a-16384,none⟩ (.int .u8 (x:Int))):=by
 have c:Frm K.B w (w.setCell ⟨K.rb,a-16384,none⟩ (.int .u8 (x:Int))):=(Frm.refl _ _).set h.ram h.grb (by simp[sA]) _;refine⟨⟨zR h.blk (by simpa using Ne.symm h.ne),?_,by simp[Mach.put,h.rlen],?_,ownsRow_setCell_other h.out ?_ _,h.olt,h.obd,h.fuel,h.inp,h.pol,h.gpm,h.grb,h.prog.below c.below,h.inn.below zr c.below,h.irq.below xQ c.below⟩,c⟩
 ·rw[zD h.ram];simp[Mach.put,wz,Ox]
 ·intro y d;rcases Qe d with d|rfl
  ·exact h.rlt y d
  ·exact g
 ·intro e;exact zC h.out h.ram (.inr Zd) (by simpa using e)
theorem kF (l:List (Nat×Nat))(p x:Nat):qO (l++ [(p,x)])=qO l++ [vL p,vL x]:=by unfold qO;rw[Js,List.flatten_append];rfl
theorem MachAt.setO{ov c:Value}{p x:Nat}(h:MachAt w K m ov)(hg:(w.alloc o).grownBy w2 ov.ownBlock)
 (i:w2.ownsRow K.B 173 2 c (m.out.length+1) (qO m.out++ [vL p,vL x])) (hp:p<65536) (t:x<65536) (hb:m.out.length+1+m.fuel.toNat<=4000000):
 MachAt (w2.setCell ⟨K.pm,10,none⟩ c) K {m with out:=m.out++ [(p,x)]} c/\Frm K.B w (w2.setCell ⟨K.pm,10,none⟩ c):=by
 have n1:=zC h.out h.blk (.inr Zd);have n2:=zC h.out h.ram (.inr Zd);have b2:=zL hg (zB h.blk) n1;have r2:=zL hg (zB h.ram) n2;have hB:=h.size
 have l:Frm K.B w w2:=by
  refine⟨((Below.refl _ _).alloc (Qd hB) o).grown hg Zt (fun k hk=>(h.out.lt k hk).1),fun k o' hk hs=>?_⟩;refine zL hg (zB hk) ?_;intro e;obtain⟨_,y⟩:=h.out;rcases y with⟨hv,_⟩|⟨g,a0,cur,hv,_,u,_⟩
  ·rw[hv] at e;simp[Value.ownBlock] at e
  ·rw[hv] at e;simp only[Value.ownBlock,Option.some.injEq] at e;subst e;rw[u] at hk;have:=Nt hk;subst this;exact hs.2.1 rfl
 have j:Frm K.B w (w2.setCell ⟨K.pm,10,none⟩ c):=l.set b2 h.gpm (by simp[sA]) _;refine⟨⟨?_,zR r2 (by simpa using h.ne),h.rlen,h.rlt,?_,?_,?_,h.fuel,h.inp,h.pol,h.gpm,h.grb,h.prog.below j.below,h.inn.below zr j.below,h.irq.below xQ j.below⟩,j⟩
 ·rw[zD b2];rfl
 ·have e1:(m.out++ [(p,x)]).length=m.out.length+1:=by simp
  show(w2.setCell ⟨K.pm,10,none⟩ c).ownsRow K.B 173 2 c (m.out++ [(p,x)]).length (qO (m.out++ [(p,x)]))
  rw[e1,kF];exact ownsRow_setCell_other i (by intro e;exact zC i b2 (.inr Zd) (by simpa using e)) _
 ·intro q d;rcases Jl.1 d with d|d
  ·exact h.olt q d
  ·simp at d;subst d;exact⟨hp,t⟩
 ·show(m.out++ [(p,x)]).length+m.fuel.toNat<=4000000
  simp;omega
theorem MachAt.frm{ov:Value}(h:MachAt w K m ov)(i:Nat)(u:Value):Frm K.B w (w.setCell ⟨K.pm,i,none⟩ u):=(Frm.refl _ _).set h.blk h.gpm (by simp[sA]) u
theorem pay_no{ov:Value}(h:MachAt w K m ov)(hf:m.fuel<=0):T 96 #[L K.pm] w fun e w'=>e=.panicked [oE 7 0]/\w=w':=by
 have c9:=h.c9;clear h;go_enter Try.func96,Try.ntmps96;go_wp2_with (go_at_call 95;go_must (refine(wj 7 0 _).mono ?_;rintro e w' ⟨rfl,rfl⟩))
 exact⟨rfl,rfl,rfl⟩
theorem iN{ov:Value}(h:MachAt w K m ov)(hf:0<m.fuel):T 96 #[L K.pm] w fun e w'=>e=.returned (.tuple #[])/\MachAt w' K m.pay ov/\Frm K.B w w':=by
 have c9:=h.c9;have f9:=h.free 9;have d:=Ja (h.setF (m.fuel-1) (by have:=h.fuel;unfold I64 at *;omega) (by have:=h.obd;omega) h.ne);have c:=Ja (h.frm 9 (I (m.fuel-1)));have hb:m.fuel<=9223372036854775807:=h.fuel.2;clear h;go_enter Try.func96,Try.ntmps96;go_wp2
 go_end0
 exact⟨rfl,d.out,c.out⟩
open Go.RowKit Go.Maps
theorem xH:Keyed Try.prog 3:=int_keyed Try.underlying3
theorem wf64'(h:I64 x):(Lit.int .i64 x).wf=true:=by unfold I64 at h;simp[Lit.wf,IntKind.min,IntKind.max,IntKind.signed,IntKind.bits];omega
theorem wfU16 {x:Nat}(h:x<65536):(Lit.int .u16 (x:Int)).wf=true:=by simp[Lit.wf,IntKind.min,IntKind.max,IntKind.signed,IntKind.bits];omega
theorem vB(h:I64 x):keyOf Try.prog 3 (.int .i64 x)=some (.int .i64 x):=keyOf_int_mk Try.underlying3 (wf64' h)
theorem zeroU16 (w:World):(zeroValue 22).run Try.prog w=.ok (G 0) w:=by kernel_rfl
def xO (w:World)(b n:Nat)(f:Int->Nat):Prop:=
 (∃D:DataW Unit,w.ownsMap Try.prog 3 (plainElem Try.prog 22) b n D/\∀x,(Lit.int .i64 x).wf=true->D.atKey (.int .i64 x) (.lit (.int .u16 0))=.lit (.int .u16 (f x:Int)))/\∀x,f x<65536
theorem xO.made (w:World):xO (w.alloc (.map #[] 0)) w.heap.size 0 (fun _=>0):=⟨⟨_,World.ownsMap_made _ _ _ _,fun _ _=>rfl⟩,fun _=>by show 0<65536;decide⟩
theorem xO.blk{b n:Nat}{f:Int->Nat}(h:xO w b n f):∃es clock,w.heap[b]? =some (.map es clock):=by
 obtain⟨⟨D,⟨es,clock,c,i⟩,g⟩,d⟩:=h;exact⟨es,clock,c⟩
theorem xO.same{b n:Nat}{f:Int->Nat}(h:xO w b n f)(hb:w'.heap[b]? =w.heap[b]?):xO w' b n f:=by
 obtain⟨⟨D,⟨es,c,j,i⟩,g⟩,d⟩:=h;exact⟨⟨D,⟨es,c,hb.trans j,i⟩,g⟩,d⟩
theorem xO.kept{B:Nat}{b n:Nat}{f:Int->Nat}(h:xO w b n f)(g:Frm B w w'):xO w' b n f:=by
 obtain⟨es,d,c⟩:=h.blk;exact h.same ((g.kept _ _ c trivial).trans c.symm)
theorem xO.look{b n:Nat}{f:Int->Nat}(h:xO w b n f)(i:I64 x):
 (Instr.lookup 160 (.map (some b)) (.int .i64 x) false).run Try.prog w=.ok (.int .u16 (f x:Nat)) w:=by
 obtain⟨⟨D,h,hf⟩,_⟩:=h;obtain⟨c,g,d,j⟩:=h.lookup_int xH Try.underlying160 Try.underlying22 (zeroU16 w) (vB i);rw[hf x (wf64' i)] at d;simp only[DataW.lit.injEq,Lit.int.injEq,true_and] at d;subst d;exact g
theorem us{ops:Array Oper}{rest:List Oper}{o:Oper}{a:Act}{Q:Exit->Act->World->Prop}(hg:o.guard=none)(m x v:Operand)
 (j:o.op=.mapUpdate 160 m x v) {b n:Nat} {f:Int->Nat} (h:xO w b n f) (u:n<9000000000000000000) (kx:Int) (vv:Nat) (hm:a.eval m=.map (some b)) (q:a.eval x=.int .i64 kx) (hv:a.eval v=.int .u16 (vv:Int))
 (g:I64 kx) (d:vv<65536)
 (t:∀w',xO w' b (n+1) (iY f kx vv)->w.grownBy w' (some b)->wpList Try.prog ops Q rest (a.put o.dst undef) w'):wpList Try.prog ops Q (o::rest) a w:=by
 obtain⟨⟨D,h,hf⟩,k⟩:=h;refine wpList_mapUpdate_own (H:=Unit) w hg m x v 160 j 3 22 xH Try.underlying160 _ b n D hm h (by unfold maxLen;omega) _ _ _ q hv (vB g) _ [] (plainElem_int Try.underlying22 (wfU16 d)) ?_;intro w1 i c;refine t w1 ⟨⟨_,i,fun y hy=>?_⟩,fun y=>?_⟩ c
 ·have l:WideAt.IsKeyLit (.int .i64 kx):=xH.key (vB g)
  by_cases e:y=kx
  ·subst e;simp only[iY,if_true];exact Maps.atKey_put_same h.isMap l _ _
  ·simp only[iY,if_neg e];rw[Maps.atKey_put_other (by simpa using e)];exact hf y hy
 ·unfold iY;split
  ·exact d
  ·exact k y
theorem px (w:World):(zeroValue 3).run Try.prog w=.ok (I 0) w:=by kernel_rfl
def wA (w:World)(b n:Nat)(g:Int->Option Int):Prop:=
 ∃D:DataW Unit,w.ownsMap Try.prog 3 (plainElem Try.prog 3) b n D/\∀x,I64 x->D.atKey (.int .i64 x) (.lit (.int .i64 0))=.lit (.int .i64 ((g x).getD 0))/\Maps.has D (.int .i64 x)=(g x).isSome
theorem wA.made (w:World):wA (w.alloc (.map #[] 0)) w.heap.size 0 (fun _=>none):=⟨_,World.ownsMap_made _ _ _ _,fun _ _=>⟨rfl,rfl⟩⟩
theorem wA.blk{b n:Nat}{g:Int->Option Int}(h:wA w b n g):∃es clock,w.heap[b]? =some (.map es clock):=by
 obtain⟨D,⟨es,clock,c,i⟩,d⟩:=h;exact⟨es,clock,c⟩
theorem wA.same{b n:Nat}{g:Int->Option Int}(h:wA w b n g)(hb:w'.heap[b]? =w.heap[b]?):wA w' b n g:=by
 obtain⟨D,⟨es,c,j,i⟩,d⟩:=h;exact⟨D,⟨es,c,hb.trans j,i⟩,d⟩
theorem wA.look{b n:Nat}{g:Int->Option Int}(h:wA w b n g)(j:I64 x):
 (Instr.lookup 105 (.map (some b)) (.int .i64 x) false).run Try.prog w=.ok (.int .i64 ((g x).getD 0)) w:=by
 obtain⟨D,h,hf⟩:=h;obtain⟨c,i,d,k⟩:=h.lookup_int xH Try.underlying105 Try.underlying3 (px w) (vB j);rw[(hf x j).1] at d;simp only[DataW.lit.injEq,Lit.int.injEq,true_and] at d;subst d;exact i
theorem wA.lookOk{b n:Nat}{g:Int->Option Int}(h:wA w b n g)(i:I64 x):
 (Instr.lookup 105 (.map (some b)) (.int .i64 x) true).run Try.prog w=.ok (.tuple #[.int .i64 ((g x).getD 0),.bool (g x).isSome]) w:=by
 obtain⟨D,h,hf⟩:=h;obtain⟨v,ps,d,hv⟩:=h.look_ok xH Try.underlying105 (px w) (plainElem_int Try.underlying3 Zd) (vB i);rw[(hf x i).1] at hv;obtain⟨c,rfl,j,_⟩:=plainElem_int_inv Try.underlying3 hv;simp only[Prod.mk.injEq,DataW.lit.injEq,Lit.int.injEq,true_and] at j;rw[(hf x i).2,<-j.1] at d;exact d
def lS (g:Int->Option Int)(x v:Int):Int->Option Int:=fun y=>if y=x then some v else g y
def opF (p:IProg)(o:IOp):Bool:=
 (zi o.code).is &&
  (if o.code=26 then decide (0<=o.a) && decide (o.a<p.funcs.length) && decide ((o.args.length:Int)=p.args.getD o.a.toNat 0) && decide (-1<=o.res) && decide (o.b=0) && decide (o.n=0)
   else if o.code=2 then decide (0<=o.a) && decide (o.a<p.data.length) && decide (0<=o.res) && decide (o.b=0) && decide (o.args.length=0)
   else decide ((zi o.code).res=decide (0<=o.res)) && decide (-1<=o.res) && ((zi o.code).a||decide (o.a=0)) && ((zi o.code).b||decide (o.b=0)) && ((zi o.code).n||decide (o.n=0)) && decide (o.args.length=0) &&
    (decide (o.code≠24) && decide (o.code≠25)||decide (1<=o.n) && decide (o.n<=255)))
def uM (blocks:List IBlk)(e:IEdge):Bool:=decide (1<=e.block) && decide (e.block<blocks.length) && decide (e.args.length=(xz blocks e.block).params.length)
def wn (blocks:List IBlk)(t:ITerm):Bool:=
 t.to.all (uM blocks) &&
  (if t.kind=1 then decide (t.to.length=1) && decide (t.a=0)
   else if t.kind=2 then decide (t.to.length=2)
   else if t.kind=3 then decide (1<=t.to.length)
   else if t.kind=4 then decide (t.to.length=0)
   else if t.kind=5 then decide (t.to.length=0) && decide (t.a=0)
   else false)
abbrev wO:=(Int->Option Int)×(Int->Option Int)
def rB (d:wO)(v i k:Int):Option wO:=if(d.1 v).isSome∨v<0∨65535<v then none else some (lS d.1 v i,lS d.2 v k)
def vJ (i:Int):List Int->wO->Option wO
 | [],d=>some d
 |v::vs,d=>(rB d v i (-1)).bind (vJ i vs)
def sS (p:IProg)(i:Int):List IOp->Int->wO->Option wO
 | [],_,d=>some d
 |o::os,k,d=>if opF p o then(if 0<=o.res then(rB d o.res i k).bind (sS p i os (k+1)) else sS p i os (k+1) d) else none
def pS (p:IProg)(blocks:List IBlk)(i:Int)(b:IBlk)(d:wO):Option wO:=
 ((vJ i b.params d).bind (sS p i b.ops 0)).bind fun d'=>if wn blocks b.term then some d' else none
def uH (p:IProg)(blocks:List IBlk):List IBlk->Int->wO->Option wO
 | [],_,d=>some d
 |b::bs,i,d=>(pS p blocks i b d).bind (uH p blocks bs (i+1))
def wg (p:IProg)(blocks:List IBlk):Option wO:=uH p blocks blocks 0 (fun _=>none,fun _=>none)
theorem ags {p:IProg}{o:IOp}(h:opF p o=true):OkOp p o:=by
 unfold opF at h;rw[Jm] at h;obtain⟨d,c⟩:=h;refine⟨?_,?_,?_⟩
 ·have:=rJ o.code;rcases this with⟨h,e⟩|⟨h,e⟩|⟨h,e⟩|⟨h,e⟩|⟨h,e⟩|⟨h,e⟩|⟨h,e⟩|⟨h,e⟩
  all_goals first|omega|(rw[e] at d;exact absurd d Zd)
 ·intro h;rw[if_neg Zo,if_pos h] at c;simp only[Jm,decide_eq_true_eq] at c;omega
 ·intro h;rw[if_pos h] at c;simp only[Jm,decide_eq_true_eq] at c;omega
theorem acV {blocks:List IBlk}{t:ITerm}(h:wn blocks t=true):bS blocks t:=by
 unfold wn at h;rw[Jm,Oe] at h;obtain⟨d,c⟩:=h
 have hk:t.kind=1/\t.to.length=1∨t.kind=2/\t.to.length=2∨t.kind=3/\1<=t.to.length∨t.kind=4∨t.kind=5:=by
  by_cases k1:t.kind=1
  ·rw[if_pos k1] at c;simp only[Jm,decide_eq_true_eq] at c;exact .inl ⟨k1,c.1⟩
  by_cases k2:t.kind=2
  ·rw[if_neg k1,if_pos k2] at c;simp only[decide_eq_true_eq] at c;exact .inr (.inl ⟨k2,c⟩)
  by_cases k3:t.kind=3
  ·rw[if_neg k1,if_neg k2,if_pos k3] at c;simp only[decide_eq_true_eq] at c;exact .inr (.inr (.inl ⟨k3,c⟩))
  by_cases k4:t.kind=4
  ·exact .inr (.inr (.inr (.inl k4)))
  by_cases k5:t.kind=5
  ·exact .inr (Zi k5)
  rw[if_neg k1,if_neg k2,if_neg k3,if_neg k4,if_neg k5] at c;cases c
 refine⟨by omega,by omega,by omega,by omega,fun e he=>?_⟩;have:=d e he;unfold uM at this;simp only[Jm,decide_eq_true_eq] at this;omega
def y9 (l:List Nat):ByteArray:=strOfNums (l.map fun(n:Nat)=>(n:Int))
def yV (x:Nat)(ov:Value)(k i:Nat)(s:ByteArray)(inp pol:Nat):Array Value:=#[G x,ov,I k,G i,.string s,I inp,I pol]
theorem mp{b:Nat}{l:List Nat}(h:Q w b (l.map wz).toArray 5)(hl:l.length=8192):
 (convert 95 9 (N b 8192 8192)).run Try.prog w=.ok (.string (y9 l)) w:=by
 refine run_convert_bytes_arg w 95 5 Try.underlying95 Try.underlying5 b 0 8192 8192 (l.map fun(n:Nat)=>(n:Int)) (by simpa using hl) (fun i hi=>?_) 9 Try.underlying9;rw[Ng];have c:i<l.length:=Zo;refine zA h ?_;simp[Jj,Jd c,wz]
theorem zu{b:Nat}(h:w.grownBy w' (some b))(j:Nat)(v:Value):w.grownBy (w'.setCell ⟨b,j,none⟩ v) (some b):=
 ⟨h.os,h.tape,h.output,by have:=h.size;simpa[World.setCell] using this,fun q hq hn=>by rw[Below.heap_setCell _ _ _ _ (by simpa using hn)];exact h.block q hq hn⟩
structure FinS (K:MK) (m:Mach) (ov:Value) (b13 bt:Nat) (k i:Nat) (w':World):Prop where
 c13:w'.cell? ⟨b13,0,none⟩=some (.pointer (some ⟨K.pm,0,none⟩))
 c6:w'.cell? ⟨K.pm,6,none⟩=some (.slice (some ⟨K.rb,0,none⟩) 8192 8192)
 c10:w'.cell? ⟨K.pm,10,none⟩=some ov
 c11:w'.cell? ⟨K.pm,11,none⟩=some (.int .i64 (m.inputs:Int))
 c12:w'.cell? ⟨K.pm,12,none⟩=some (.int .i64 (m.polls:Int))
 t0:w'.cell? ⟨bt,0,none⟩=some (.int .i64 (k:Int))
 t1:w'.cell? ⟨bt,1,none⟩=some (.int .u16 (i:Int))
 ram:w'.heap[K.rb]? =some (.cells (m.ram.map wz).toArray 5 (0,0))
theorem FinS.set{ov:Value}(h:FinS K m ov b13 bt k i w')(n1:b12≠b13)(n2:b12≠K.pm)(n3:b12≠bt)(n4:b12≠K.rb)(j:Nat)(v:Value):FinS K m ov b13 bt k i (w'.setCell ⟨b12,j,none⟩ v):=by
 have c:∀ {b q:Nat} {x:Value},b12≠b->U w' b q x->U (w'.setCell ⟨b12,j,none⟩ v) b q x:=fun hn hc=>by
  rw[Oo (w:=w') (Below.heap_setCell _ _ _ _ (by simpa using Ne.symm hn))];exact hc
 exact⟨c n1 h.c13,c n2 h.c6,c n2 h.c10,c n2 h.c11,c n2 h.c12,c n3 h.t0,c n3 h.t1,zR h.ram (by simpa using Ne.symm n4)⟩
theorem FinS.drew{ov:Value}(h:FinS K m ov b13 bt k i w'):FinS K m ov b13 bt k i w'.drew:=⟨h.c13,h.c6,h.c10,h.c11,h.c12,h.t0,h.t1,h.ram⟩
theorem FinS.all{oa:Option Addr}{oc:Nat}(hrl:m.ram.length=8192)(h:FinS K m (.slice oa m.out.length oc) b13 bt k i w'):U w' b13 0 (L K.pm)/\U w' K.pm 6 (N K.rb 8192 8192)/\U w' K.pm 10 (.slice oa m.out.length oc)/\U w' K.pm 11 (I (m.inputs:Int))/\U w' K.pm 12 (I (m.polls:Int))/\U w' bt 0 (I k)/\U w' bt 1 (G i)/\(convert 95 9 (N K.rb 8192 8192)).run Try.prog w'=.ok (.string (y9 m.ram)) w':=⟨h.c13,h.c6,h.c10,h.c11,h.c12,h.t0,h.t1,mp h.ram hrl⟩
theorem pE{ov:Value}(h:MachAt w K m ov)(a0:Q w b13 #[L K.pm] 146)(l:Q w b12 #[G 0,F,I 0,G 0,.string {data:=#[]},I 0,I 0] 134)(k i x:Nat):
 T 89 #[.agg #[I k,G i],G x,L b13,L b12] w fun e w'=>
  e=.returned (.tuple #[])/\Q w' b12 (yV x ov k i (y9 m.ram) m.inputs m.polls) 134/\w.grownBy w' (some b12):=by
 obtain⟨oa,oc,rfl⟩:=zG h.out;have hrl:=h.rlen;have n1:b12≠b13:=by rintro rfl;rw[l] at a0;simp at a0
 have n2:b12≠K.pm:=by rintro rfl;rw[h.blk] at l;simp[r9] at l
 have n4:b12≠K.rb:=by
  rintro rfl;rw[h.ram] at l;have:=congrArg (fun o=>match o with|some (Obj.cells _ t _)=>t|_=>0) l;simp at this
 have n3:b12≠w.heap.size:=by have:=lt_of_block l;omega
 have b:=(Below.refl w.heap.size w).alloc (Je _) (A #[I k,G i] 132);have hM:=h.keep b
 have q:FinS K m (.slice oa m.out.length oc) b13 w.heap.size k i (w.alloc (A #[I k,G i] 132)):=
  ⟨zA (zB a0) Zs,hM.c6,hM.c10,hM.c11,hM.c12,zA (zI rfl) Zs,zA (zI rfl) Zs,hM.ram⟩
 have c:=zB (o:=A #[I k,G i] 132) l;have f8:w.grownBy (w.alloc (A #[I k,G i] 132)) (some b12):=Uo w _ _;have d0:U (w.alloc (A #[I k,G i] 132)) b12 0 (G 0):=zA c Zs;have f0:Y (w.alloc (A #[I k,G i] 132)) b12 0:=zE c;have d1:U (w.alloc (A #[I k,G i] 132)) b12 1 (F):=zA c Zs;have f1:Y (w.alloc (A #[I k,G i] 132)) b12 1:=zE c;have d2:U (w.alloc (A #[I k,G i] 132)) b12 2 (I 0):=zA c Zs;have f2:Y (w.alloc (A #[I k,G i] 132)) b12 2:=zE c;have d3:U (w.alloc (A #[I k,G i] 132)) b12 3 (G 0):=zA c Zs;have f3:Y (w.alloc (A #[I k,G i] 132)) b12 3:=zE c;have d4:U (w.alloc (A #[I k,G i] 132)) b12 4 (.string {data:=#[]}):=zA c Zs;have f4:Y (w.alloc (A #[I k,G i] 132)) b12 4:=zE c;have d5:U (w.alloc (A #[I k,G i] 132)) b12 5 (I 0):=zA c Zs;have f5:Y (w.alloc (A #[I k,G i] 132)) b12 5:=zE c;have d6:U (w.alloc (A #[I k,G i] 132)) b12 6 (I 0):=zA c Zs;have f6:Y (w.alloc (A #[I k,G i] 132)) b12 6:=zE c;have HG:=Ja f8;have HB:=Ja c;clear h hM b a0 l f8 c;go_enter Try.func89,Try.ntmps89;go_upto_region 1 with fail;generalize hW:w.alloc (A #[I k,G i] 132)=W at *;generalize w.heap.size=bt at *;have y:∀w',FinS K m (.slice oa m.out.length oc) b13 bt k i w'->(convert 95 9 (N K.rb 8192 8192)).run Try.prog w'=.ok (.string (y9 m.ram)) w':=fun w' hs=>mp hs.ram hrl
 have c1:=q.c13;have c2:=q.c6;have c3:=q.c10;have c4:=q.c11;have c5:=q.c12;have c6:=q.t0;have c7:=q.t1;have cc:=y _ q;have a6:∀(w':World) (j:Nat) (v:Value),FinS K m (.slice oa m.out.length oc) b13 bt k i w'->FinS K m (.slice oa m.out.length oc) b13 bt k i (w'.setCell ⟨b12,j,none⟩ v):=fun w' j v hs=>hs.set n1 n2 n3 n4 j v
 have d:=Ja a6;have h9:=Ja y;have HS:=Ja q;clear a6 y q hW;refine wp_region_noPanic ?_;refine wp_region_held_drew (S:=(fun w'=>U w' b13 0 (L K.pm)/\U w' K.pm 6 (N K.rb 8192 8192)/\U w' K.pm 10 (.slice oa m.out.length oc)/\U w' K.pm 11 (I (m.inputs:Int))/\U w' K.pm 12 (I (m.polls:Int))/\U w' bt 0 (I k)/\U w' bt 1 (G i)/\(convert 95 9 (N K.rb 8192 8192)).run Try.prog w'=.ok (.string (y9 m.ram)) w')) Zk (HS.out.drew.all hrl) (fun hHeld=>?_);have f9:=Ja HS.out.drew;have g:=Ja (show W.drew.heap[b12]? =_ from HB.out);have h5:=Ja (show w.grownBy W.drew (some b12) from⟨HG.out.os,HG.out.tape,HG.out.output,HG.out.size,HG.out.block⟩);clear c1 c2 c3 c4 c5 c6 c7 cc HS HB HG d0 f0 d1 f1 d2 f2 d3 f3 d4 f4 d5 f5 d6 f6;generalize W.drew=Wa at *;refine Th 0 ?_
 try simp only[Yp]
 refine Th 1 ?_
 try simp only[Yp]
 refine Th 2 ?_
 try simp only[Yp]
 refine Th 3 ?_
 try simp only[Yp]
 refine Th 4 ?_
 try simp only[Yp]
 refine Th 5 ?_
 try simp only[Yp]
 refine Th 6 ?_
 try simp only[Yp]
 refine Th 7 ?_
 try simp only[Yp]
 refine Th 8 ?_
 try simp only[Yp]
 refine Th 9 ?_
 try simp only[Yp]
 refine Th 10 ?_
 try simp only[Yp]
 refine Th 11 ?_
 try simp only[Yp]
 refine Th 12 ?_
 try simp only[Yp]
 refine Th 13 ?_
 try simp only[Yp]
 refine Th 14 ?_
 try simp only[Yp]
 refine Th 15 ?_
 try simp only[Yp]
 refine Th 16 ?_
 try simp only[Yp]
 refine Th 17 ?_
 try simp only[Yp]
 refine Th 18 ?_
 try simp only[Yp]
 have e0:=K0 g.out;have g0:Y Wa b12 0:=zE g.out;have e1:=K1 g.out;have g1:Y Wa b12 1:=zE g.out;have e2:=K2 g.out;have g2:Y Wa b12 2:=zE g.out;have e3:=K3 g.out;have g3:Y Wa b12 3:=zE g.out;have e4:=K4 g.out;have g4:Y Wa b12 4:=zE g.out;have e5:=K5 g.out;have g5:Y Wa b12 5:=zE g.out;have e6:=K6 g.out;have g6:Y Wa b12 6:=zE g.out;refine wpAnyH_ready (rs:=[19]) Zk Zs ?_;refine AllReadyH.cons (o:=_) rfl (fun K hK=>?_) ?_
 ·skip
  go_simp;have f7:=Ja (d.out ((((((Wa.setCell ⟨b12,0,none⟩ (G 0)).setCell ⟨b12,1,none⟩ (F)).setCell ⟨b12,2,none⟩ (I 0)).setCell ⟨b12,3,none⟩ (G 0)).setCell ⟨b12,4,none⟩ (.string {data:=#[]})).setCell ⟨b12,5,none⟩ (I 0)) 6 (I 0) (d.out (((((Wa.setCell ⟨b12,0,none⟩ (G 0)).setCell ⟨b12,1,none⟩ (F)).setCell ⟨b12,2,none⟩ (I 0)).setCell ⟨b12,3,none⟩ (G 0)).setCell ⟨b12,4,none⟩ (.string {data:=#[]})) 5 (I 0) (d.out ((((Wa.setCell ⟨b12,0,none⟩ (G 0)).setCell ⟨b12,1,none⟩ (F)).setCell ⟨b12,2,none⟩ (I 0)).setCell ⟨b12,3,none⟩ (G 0)) 4 (.string {data:=#[]}) (d.out (((Wa.setCell ⟨b12,0,none⟩ (G 0)).setCell ⟨b12,1,none⟩ (F)).setCell ⟨b12,2,none⟩ (I 0)) 3 (G 0) (d.out ((Wa.setCell ⟨b12,0,none⟩ (G 0)).setCell ⟨b12,1,none⟩ (F)) 2 (I 0) (d.out (Wa.setCell ⟨b12,0,none⟩ (G 0)) 1 (F) (d.out Wa 0 (G 0) f9.out)))))));have c8:Q (Wa.setCell ⟨b12,0,none⟩ (G 0)) b12 #[G 0,F,I 0,G 0,.string {data:=#[]},I 0,I 0] 134:=by rw[zD g.out];rfl
  have c0:Q ((Wa.setCell ⟨b12,0,none⟩ (G 0)).setCell ⟨b12,1,none⟩ (F)) b12 #[G 0,F,I 0,G 0,.string {data:=#[]},I 0,I 0] 134:=by rw[zD c8];rfl
  have b9:Q (((Wa.setCell ⟨b12,0,none⟩ (G 0)).setCell ⟨b12,1,none⟩ (F)).setCell ⟨b12,2,none⟩ (I 0)) b12 #[G 0,F,I 0,G 0,.string {data:=#[]},I 0,I 0] 134:=by rw[zD c0];rfl
  have b8:Q ((((Wa.setCell ⟨b12,0,none⟩ (G 0)).setCell ⟨b12,1,none⟩ (F)).setCell ⟨b12,2,none⟩ (I 0)).setCell ⟨b12,3,none⟩ (G 0)) b12 #[G 0,F,I 0,G 0,.string {data:=#[]},I 0,I 0] 134:=by rw[zD b9];rfl
  have b7:Q (((((Wa.setCell ⟨b12,0,none⟩ (G 0)).setCell ⟨b12,1,none⟩ (F)).setCell ⟨b12,2,none⟩ (I 0)).setCell ⟨b12,3,none⟩ (G 0)).setCell ⟨b12,4,none⟩ (.string {data:=#[]})) b12 #[G 0,F,I 0,G 0,.string {data:=#[]},I 0,I 0] 134:=by rw[zD b8];rfl
  have b6:Q ((((((Wa.setCell ⟨b12,0,none⟩ (G 0)).setCell ⟨b12,1,none⟩ (F)).setCell ⟨b12,2,none⟩ (I 0)).setCell ⟨b12,3,none⟩ (G 0)).setCell ⟨b12,4,none⟩ (.string {data:=#[]})).setCell ⟨b12,5,none⟩ (I 0)) b12 #[G 0,F,I 0,G 0,.string {data:=#[]},I 0,I 0] 134:=by rw[zD b7];rfl
  have b5:Q (((((((Wa.setCell ⟨b12,0,none⟩ (G 0)).setCell ⟨b12,1,none⟩ (F)).setCell ⟨b12,2,none⟩ (I 0)).setCell ⟨b12,3,none⟩ (G 0)).setCell ⟨b12,4,none⟩ (.string {data:=#[]})).setCell ⟨b12,5,none⟩ (I 0)).setCell ⟨b12,6,none⟩ (I 0)) b12 #[G 0,F,I 0,G 0,.string {data:=#[]},I 0,I 0] 134:=by rw[zD b6];rfl
  have a5:=Ja b5;have h4:=Ja (zu (zu (zu (zu (zu (zu (zu h5.out 0 (G 0)) 1 (F)) 2 (I 0)) 3 (G 0)) 4 (.string {data:=#[]})) 5 (I 0)) 6 (I 0));refine hK.out _ _ (FinS.all hrl f7.out) (fun hHeld=>?_);clear hK K e0 g0 e1 g1 e2 g2 e3 g3 e4 g4 e5 g5 e6 g6 c8 c0 b9 b8 b7 b6 b5 f9 g h5
  try simp only[Yp]
  generalize (((((((Wa.setCell ⟨b12,0,none⟩ (G 0)).setCell ⟨b12,1,none⟩ (F)).setCell ⟨b12,2,none⟩ (I 0)).setCell ⟨b12,3,none⟩ (G 0)).setCell ⟨b12,4,none⟩ (.string {data:=#[]})).setCell ⟨b12,5,none⟩ (I 0)).setCell ⟨b12,6,none⟩ (I 0))=Wb at *;refine Th 20 ?_
  try simp only[Yp]
  have e0:=K0 a5.out;have g0:Y Wb b12 0:=zE a5.out;refine wpAnyH_ready (rs:=[21]) Zk Zs ?_;refine AllReadyH.cons (o:=_) rfl (fun K hK=>?_) ?_
  ·skip
   go_simp;have e8:=Ja (d.out Wb 0 (G x) f7.out);have b4:Q (Wb.setCell ⟨b12,0,none⟩ (G x)) b12 #[G x,F,I 0,G 0,.string {data:=#[]},I 0,I 0] 134:=by rw[zD a5.out];rfl
   have a4:=Ja b4;have h3:=Ja (zu h4.out 0 (G x));refine hK.out _ _ (FinS.all hrl e8.out) (fun hHeld=>?_);clear hK K e0 g0 b4 f7 a5 h4
   try simp only[Yp]
   generalize (Wb.setCell ⟨b12,0,none⟩ (G x))=Wc at *;refine Th 22 ?_
   try simp only[Yp]
   have e1:=K1 a4.out;have g1:Y Wc b12 1:=zE a4.out;refine wpAnyH_ready (rs:=[23]) Zk Zs ?_;refine AllReadyH.cons (o:=_) rfl (fun K hK=>?_) ?_
   ·skip
    go_simp;have e7:=Ja (d.out Wc 1 (.slice oa m.out.length oc) e8.out);have b3:Q (Wc.setCell ⟨b12,1,none⟩ (.slice oa m.out.length oc)) b12 #[G x,.slice oa m.out.length oc,I 0,G 0,.string {data:=#[]},I 0,I 0] 134:=by rw[zD a4.out];rfl
    have u:=Ja b3;have h2:=Ja (zu h3.out 1 (.slice oa m.out.length oc));refine hK.out _ _ (FinS.all hrl e7.out) (fun hHeld=>?_);clear hK K e1 g1 b3 e8 a4 h3
    try simp only[Yp]
    generalize (Wc.setCell ⟨b12,1,none⟩ (.slice oa m.out.length oc))=Wd at *;refine Th 24 ?_
    try simp only[Yp]
    have e2:=K2 u.out;have g2:Y Wd b12 2:=zE u.out;have e3:=K3 u.out;have g3:Y Wd b12 3:=zE u.out;refine wpAnyH_ready (rs:=[25]) Zk Zs ?_;refine AllReadyH.cons (o:=_) rfl (fun K hK=>?_) ?_
    ·skip
     go_simp;have d8:=Ja (d.out (Wd.setCell ⟨b12,2,none⟩ (I k)) 3 (G i) (d.out Wd 2 (I k) e7.out));have b2:Q (Wd.setCell ⟨b12,2,none⟩ (I k)) b12 #[G x,.slice oa m.out.length oc,I k,G 0,.string {data:=#[]},I 0,I 0] 134:=by rw[zD u.out];rfl
     have b1:Q ((Wd.setCell ⟨b12,2,none⟩ (I k)).setCell ⟨b12,3,none⟩ (G i)) b12 #[G x,.slice oa m.out.length oc,I k,G i,.string {data:=#[]},I 0,I 0] 134:=by rw[zD b2];rfl
     have a3:=Ja b1;have h1:=Ja (zu (zu h2.out 2 (I k)) 3 (G i));refine hK.out _ _ (FinS.all hrl d8.out) (fun hHeld=>?_);clear hK K e2 g2 e3 g3 b2 b1 e7 u h2
     try simp only[Yp]
     generalize ((Wd.setCell ⟨b12,2,none⟩ (I k)).setCell ⟨b12,3,none⟩ (G i))=We at *;refine Th 26 ?_
     try simp only[Yp]
     have e4:=K4 a3.out;have g4:Y We b12 4:=zE a3.out;refine wpAnyH_ready (rs:=[27]) Zk Zs ?_;refine AllReadyH.cons (o:=_) rfl (fun K hK=>?_) ?_
     ·skip
      go_simp;have d7:=Ja (d.out We 4 (.string (y9 m.ram)) d8.out);have b0:Q (We.setCell ⟨b12,4,none⟩ (.string (y9 m.ram))) b12 #[G x,.slice oa m.out.length oc,I k,G i,.string (y9 m.ram),I 0,I 0] 134:=by rw[zD a3.out];rfl
      have a2:=Ja b0;have h0:=Ja (zu h1.out 4 (.string (y9 m.ram)));refine hK.out _ _ (FinS.all hrl d7.out) (fun hHeld=>?_);clear hK K e4 g4 b0 d8 a3 h1
      try simp only[Yp]
      generalize (We.setCell ⟨b12,4,none⟩ (.string (y9 m.ram)))=Wf at *;refine Th 28 ?_
      try simp only[Yp]
      have e5:=K5 a2.out;have g5:Y Wf b12 5:=zE a2.out;refine wpAnyH_ready (rs:=[29]) Zk Zs ?_;refine AllReadyH.cons (o:=_) rfl (fun K hK=>?_) ?_
      ·skip
       go_simp;have c9:=Ja (d.out Wf 5 (I (m.inputs:Int)) d7.out);have a9:Q (Wf.setCell ⟨b12,5,none⟩ (I (m.inputs:Int))) b12 #[G x,.slice oa m.out.length oc,I k,G i,.string (y9 m.ram),I (m.inputs:Int),I 0] 134:=by rw[zD a2.out];rfl
       have a1:=Ja a9;have g8:=Ja (zu h0.out 5 (I (m.inputs:Int)));refine hK.out _ _ (FinS.all hrl c9.out) (fun hHeld=>?_);clear hK K e5 g5 a9 d7 a2 h0
       try simp only[Yp]
       generalize (Wf.setCell ⟨b12,5,none⟩ (I (m.inputs:Int)))=Wg at *;refine Th 30 ?_
       try simp only[Yp]
       have e6:=K6 a1.out;have g6:Y Wg b12 6:=zE a1.out;refine wpAnyH_ready (rs:=[31]) Zk Zs ?_;refine AllReadyH.cons (o:=_) rfl (fun K hK=>?_) ?_
       ·skip
        go_simp;have h6:=Ja (d.out Wg 6 (I (m.polls:Int)) c9.out);have a8:Q (Wg.setCell ⟨b12,6,none⟩ (I (m.polls:Int))) b12 #[G x,.slice oa m.out.length oc,I k,G i,.string (y9 m.ram),I (m.inputs:Int),I (m.polls:Int)] 134:=by rw[zD a1.out];rfl
        have h8:=Ja a8;have h7:=Ja (zu g8.out 6 (I (m.polls:Int)));refine hK.out _ _ (FinS.all hrl h6.out) (fun hHeld=>?_);clear hK K e6 g6 a8 c9 a1 g8
        try simp only[Yp]
        generalize (Wg.setCell ⟨b12,6,none⟩ (I (m.polls:Int)))=Wh at *;refine wpAnyH_done Zk (NoPanic.normal ?_) _;go_wp2
        go_end0
        exact⟨rfl,h8.out,h7.out⟩
       ·exact AllReadyH.nil
      ·exact AllReadyH.nil
     ·exact AllReadyH.nil
    ·exact AllReadyH.nil
   ·exact AllReadyH.nil
  ·exact AllReadyH.nil
 ·exact AllReadyH.nil
theorem rec_idle (p:Addr)(w:World):
 CallsD Try.prog 90 #[.pointer (some p)] .returning w fun e u' w'=>e=.returned (.tuple #[])/\u'=.returning/\w=w':=by
 refine callsD_of_wpS Try.func90 rfl fun c₀ cs hu=>?_
 apply wpS_seq;apply wpS_region;simp[wpOpsS,go_sem,recoverD,hu,Try.ntmps90,Exit.thenS];apply wpS_seq;apply wpS_seq;apply wpS_region;simp[wpOpsS,go_sem,recoverD,hu,Try.ntmps90,Exit.thenS];refine wpS_cond (t:=true) (by simp[Act.eval,Array.replicate]) ?_;simp only[if_true];refine wpS_of_wp (wp_ret ?_);cases c₀
 simp_all [Exit.thenS,bodyPostS,results,Try.results90]
theorem kA (v:Value)(w:World):(Instr.typeAssert (.iface 151 v) 20 151 true).run Try.prog w=.ok (.tuple #[v,.bool true]) w:=by kernel_rfl
theorem pi{ov:Value}(h:MachAt w K m ov)(u:Q w b13 #[L K.pm] 146)(x:Q w b12 #[G 0,F,I 0,G 0,.string {data:=#[]},I 0,I 0] 134)
 (o:U w d 0 (.func (.func 89) #[] #[L b13,L b12])) (k i:Nat) (j:List PanicEntry):
 CallsD Try.prog 90 #[L d] (.panicking (oE k i::j)) w fun e u' w'=>
  e=.returned (.tuple #[])/\u'=.panicking ({oE k i with recovered:=true }::j)/\Q w' b12 (yV 0 ov k i (y9 m.ram) m.inputs m.polls) 134/\w.grownBy w' (some b12):=by
 refine callsD_of_wpS Try.func90 rfl fun c₀ cs g=>?_
 unfold oE at g ⊢;apply wpS_seq;apply wpS_region;simp[wpOpsS,go_sem,recoverD,g,Try.ntmps90,Exit.thenS];apply wpS_seq;apply wpS_seq;apply wpS_region;simp[wpOpsS,go_sem,recoverD,g,Try.ntmps90,Exit.thenS];refine wpS_cond (t:=false) (by simp[Act.eval,Array.replicate]) ?_;simp only[Bool.false_eq_true,if_false];refine wpS_of_wp (wp_skip ?_);simp only[Exit.thenS];refine wpS_of_wp ?_;have a1:=kA (.agg #[I k,G i]);have HH:=Ja h;have HU:=Ja g;have H2:=Ja (Jb u x);clear h g u x
 have e:(#[Value.pointer (some ⟨d,0,none⟩)]++(((((Array.replicate 18 undef).setIfInBounds 3 (Value.iface 151 (.agg #[I k,G i]))).setIfInBounds 0 (Value.iface 151 (.agg #[I k,G i]))).setIfInBounds 4 (Value.iface 151 (.agg #[I k,G i]))).setIfInBounds 5 (Value.bool false)):Array Value)=#[.pointer (some ⟨d,0,none⟩),.iface 151 (.agg #[I k,G i]),undef,undef,.iface 151 (.agg #[I k,G i]),.iface 151 (.agg #[I k,G i]),.bool false,undef,undef,undef,undef,undef,undef,undef,undef,undef,undef,undef,undef]:=by
  simp[Array.replicate,List.replicate]
 rw[e];clear e;have y:=Jw w _ o;have a0:(w.alloc (A #[I k,G i] 151)).cell? ⟨d,0,none⟩=_:=(Oo (w:=w) (Below.heap_alloc _ _ _ y)).trans o;have hM:=HH.out.keep ((Below.refl _ _).alloc (Je _) (A #[I k,G i] 151));have hF:=Ja (pE hM (b12:=b12) (b13:=b13) (zB H2.out.1) (zB H2.out.2) k i 0);clear hM;go_wp2_with (go_at_call 89;go_must (refine hF.out.mono ?_;rintro e w4 ⟨rfl,h5,l⟩))
 have hg:w.grownBy w4 (some b12):=⟨l.os,l.tape,l.output,Jn Zs l.size,fun q hq hn=>(l.block q Zt hn).trans (Below.heap_alloc _ _ _ hq)⟩
 have g:=HU.out;cases c₀;simp only at g;simp[bodyPostS,results,Try.results90,h5,hg]
open Go.RowKit Go.Maps Go.ChangeMaps
theorem wA.entry{b n:Nat}{g:Int->Option Int}(h:wA w b n g)(hn:n<9000000000000000000){kx vv:Int}(k:I64 kx)(a8:I64 vv)(a9:g kx=none):
 ∃(st:Nat) (w1 w2:World),(Instr.mapEntry 105 (.map (some b)) (.int .i64 kx)).run Try.prog w=.ok (.tuple #[.int .i64 0,goInt st]) w1/\w.grownBy w1 (some b)/\
  (Instr.entryStore 105 (.map (some b)) (goInt st) (.int .i64 vv)).run Try.prog w1=.ok () w2/\wA w2 b (n+1) (lS g kx vv)/\w.grownBy w2 (some b):=by
 have q:=h.lookOk k;rw[a9] at q
 have a3:∃w',(Instr.mapUpdate 105 (.map (some b)) (.int .i64 kx) (.int .i64 vv)).run Try.prog w=.ok () w'/\wA w' b (n+1) (lS g kx vv)/\w.grownBy w' (some b):=by
  obtain⟨D,h,hf⟩:=h;obtain⟨w',a2,a4,t⟩:=h.update xH Try.underlying105 (by unfold maxLen;omega) (vB k) (plainElem_int Try.underlying3 (wf64' a8));refine⟨w',a2,⟨_,a4,fun y hy=>?_⟩,t⟩;have a0:WideAt.IsKeyLit (.int .i64 kx):=xH.key (vB k)
  by_cases e:y=kx
  ·subst e;simp only[lS,if_true];exact⟨Maps.atKey_put_same h.isMap a0 _ _,Maps.has_put_same h.isMap a0 _⟩
  ·simp only[lS,if_neg e];rw[Maps.atKey_put_other (by simpa using e),Maps.has_put_other (by simpa using e)];exact hf y hy
 obtain⟨w3,m,hP,t⟩:=a3;obtain⟨D,h,hf⟩:=h;obtain⟨es,d,hb,F,hs,rfl⟩:=h;obtain⟨s1,s2,_⟩:=F.stamped;rcases xH.find w (vB k) es.toList F.keys with⟨h1,h2⟩|⟨j,e0,h1,h2,h3⟩
 ·have a6:(es.push ⟨.int .i64 kx,.int .i64 0,d⟩).findIdx? (fun e=>((e.born:Nat):Int)==((d:Nat):Int))=some es.size:=by
   rw[WideElems.findIdx_arr];refine WideElems.findIdx_born (l:=(es.push ⟨.int .i64 kx,.int .i64 0,d⟩).toList) (j:=es.size) (e0:=⟨.int .i64 kx,.int .i64 0,d⟩) ?_ Zs;simp only[Array.toList_push,Js,Ql,List.map_nil];refine Qq.2 ⟨s2,by simp,fun a ha c hc e1=>?_⟩;simp only[Jo] at hc;obtain⟨x,hx,rfl⟩:=Nu.1 ha;have:=s1 x hx;omega
  have a5:(es.push ⟨.int .i64 kx,.int .i64 0,d⟩).modify es.size (fun e=> {e with val:=.int .i64 vv })=es.push ⟨.int .i64 kx,.int .i64 vv,d⟩:=by
   apply Array.ext';rw[Array.toList_modify,Array.toList_push,Array.toList_push,<-Array.length_toList,WideElems.modify_last]
  have u:=heap_setBlock_same hb (.map (es.push ⟨.int .i64 kx,.int .i64 0,d⟩) (d+1))
  have e3:w3=setBlock w b (.map (es.push ⟨.int .i64 kx,.int .i64 vv,d⟩) (d+1)):=by
   simp[Instr.mapUpdate,run_underlying Try.underlying105,MapKept.run_getObj_map hb,xH.check w false (vB k),h1,MapKept.run_setObj_map _ hb,Result.andThen] at m;exact m.symm
  have a1:∀o,w.grownBy (setBlock w b o) (some b):=fun o=>⟨rfl,rfl,rfl,by simp[setBlock],fun i _ hi=>heap_setBlock_other hb _ (fun e=>hi (by rw[e]))⟩
  refine⟨d,setBlock w b (.map (es.push ⟨.int .i64 kx,.int .i64 0,d⟩) (d+1)),setBlock (setBlock w b (.map (es.push ⟨.int .i64 kx,.int .i64 0,d⟩) (d+1))) b (.map (es.push ⟨.int .i64 kx,.int .i64 vv,d⟩) (d+1)),?_,a1 _,?_,?_,?_⟩
  ·simp[Instr.mapEntry,run_underlying Try.underlying105,MapKept.run_getObj_map hb,xH.check w false (vB k),h1,px,MapKept.run_setObj_map _ hb,Result.andThen,setBlock]
  ·generalize setBlock w b (.map (es.push ⟨.int .i64 kx,.int .i64 0,d⟩) (d+1))=W1 at u ⊢;simp[Instr.entryStore,MapKept.run_getObj_map u,asInt,asIntOf,goInt,a6,a5,MapKept.run_setObj_map _ u,Result.andThen,setBlock]
  ·refine hP.same ?_;rw[heap_setBlock_same u,e3,heap_setBlock_same hb]
  ·have e4:setBlock (setBlock w b (.map (es.push ⟨.int .i64 kx,.int .i64 0,d⟩) (d+1))) b (.map (es.push ⟨.int .i64 kx,.int .i64 vv,d⟩) (d+1))=setBlock w b (.map (es.push ⟨.int .i64 kx,.int .i64 vv,d⟩) (d+1)):=by simp[setBlock]
   rw[e4];exact a1 _
 ·exfalso;simp[Instr.lookup,run_underlying Try.underlying105,MapKept.run_getObj_map hb,xH.check w es.isEmpty (vB k),h1,Result.andThen] at q
structure ChkAt (w:World) (C m1 m2:Nat) (pv:List Value) (blv idv:Value) (n:Nat) (d:wO):Prop where
 blk:w.heap[C]? =some (.cells (pv++ [blv,.map (some m1),.map (some m2),idv]).toArray 107 (0,0))
 plen:pv.length=6
 map1:wA w m1 n d.1
 map2:wA w m2 n d.2
 ne:m1≠m2
 dom:∀x,(d.1 x).isSome=(d.2 x).isSome
structure Kept (m1 m2:Nat) (w w':World):Prop where
 os:w'.os=w.os
 tape:w'.tape=w.tape
 output:w'.output=w.output
 size:w.heap.size<=w'.heap.size
 block:∀k,k<w.heap.size->k≠m1->k≠m2->w'.heap[k]? =w.heap[k]?
theorem Kept.refl (m1 m2:Nat)(w:World):Kept m1 m2 w w:=⟨rfl,rfl,rfl,Je _,fun _ _ _ _=>rfl⟩
theorem Kept.trans{a b c:World}(h:Kept m1 m2 a b)(k:Kept m1 m2 b c):Kept m1 m2 a c:=
 ⟨k.os.trans h.os,k.tape.trans h.tape,k.output.trans h.output,Jn h.size k.size,fun i hi x1 x2=>(k.block i (Jy hi h.size) x1 x2).trans (h.block i hi x1 x2)⟩
theorem Kept.of(h:O w w'):Kept m1 m2 w w':=⟨h.os,h.tape,h.output,h.size,fun i hi _ _=>h.block i hi⟩
theorem Kept.below{B:Nat}(h:Kept m1 m2 w w')(d:B<=m1)(c:B<=m2)(hB:B<=w.heap.size):Below B w w':=
 ⟨h.os,h.tape,h.output,h.size,fun i hi=>h.block i Zo Zo Zo⟩
theorem Kept.blk{b:Nat}(h:Kept m1 m2 w w')(hb:w.heap[b]? =some o)(d:b≠m1)(c:b≠m2):w'.heap[b]? =some o:=(h.block b (lt_of_block hb) d c).trans hb
theorem wA.lt{b n:Nat}{g:Int->Option Int}(h:wA w b n g):b<w.heap.size:=by
 obtain⟨es,ck,hb⟩:=h.blk;exact lt_of_block hb
theorem ChkAt.below{pv:List Value}{g c:Value}{n:Nat}{d:wO}(h:ChkAt w C m1 m2 pv g c n d)(hb:O w w'):ChkAt w' C m1 m2 pv g c n d:=
 ⟨zH hb h.blk (lt_of_block h.blk),h.plen,h.map1.same (hb.block m1 h.map1.lt),h.map2.same (hb.block m2 h.map2.lt),h.ne,h.dom⟩
theorem ChkAt.ne1{pv:List Value}{g c:Value}{n:Nat}{d:wO}(h:ChkAt w C m1 m2 pv g c n d):C≠m1/\C≠m2:=by
 obtain⟨l,o,j⟩:=h.map1.blk;obtain⟨k,m,i⟩:=h.map2.blk;have:=h.blk;exact⟨fun e=>(by rw[e,j] at this;cases this),fun e=>(by rw[e,i] at this;cases this)⟩
theorem oK{n:Nat}{pv:List Value}{t l:Value}{d:wO}(h:ChkAt w C m1 m2 pv t l n d)(v i k:Int)(hv:I64 v)(hi:I64 i)(hk:I64 k)(g:rB d v i k=none):
 T 76 #[L C,I v,I i,I k] w fun e w'=>e=.returned (.bool false)/\w'=w:=by
 obtain⟨hb,hl,m,a1,a0,hd⟩:=h
 obtain⟨p0,p1,p2,p3,p4,p5,rfl⟩:∃a b c d e f,pv=[a,b,c,d,e,f]:=by
  match pv,hl with
  | [a,b,c,d,e,f],_=>exact⟨a,b,c,d,e,f,rfl⟩
 have o:=m.lookOk hv;have a2:U w C 7 (.map (some m1)):=zA hb rfl;obtain⟨q0,q⟩:∃b,(d.1 v).isSome=b:=⟨_,rfl⟩
 obtain⟨q1,y⟩:∃b,decide (v<0)=b:=⟨_,rfl⟩
 obtain⟨q2,x⟩:∃b,decide (65535<v)=b:=⟨_,rfl⟩
 rw[q] at o
 have u:(q0||q1||q2)=true:=by
  unfold rB at g;rw[q] at g
  split at g
  ·rename_i j
   rcases j with j|j|j
   ·rw[j];rfl
   ·rw[<-y,decide_eq_true j];simp
   ·rw[<-x,decide_eq_true j];simp
  ·cases g
 clear g hb;cases q0<;>cases q1<;>cases q2
 all_goals first|(cases u;done)|skip
 all_goals go_enter Try.func76,Try.ntmps76
 all_goals go_wp2
 all_goals go_ret
 all_goals exact⟨rfl,rfl⟩
def OwnRows {α:Type}(enc:α->Value)(e eS:TypeId)(w:World)(B bp:Nat)(rows:List (List α)):Prop:=
 ∃vs:List Value,Q w bp vs.toArray eS/\vs.length=rows.length/\(∀(k:Nat) (row:List α) (v:Value),rows[k]? =some row->vs[k]? =some v->w.ownsRow B e 1 v row.length (row.map enc))/\
  ∀(i j:Nat) (vi vj:Value),i≠j->vs[i]? =some vi->vs[j]? =some vj->vi.ownBlock=none∨vi.ownBlock≠vj.ownBlock
section
variable {α:Type} {enc:α->Value} {e eS:TypeId} {w:World} {B bp:Nat} {rows:List (List α)}
theorem OwnRows.made (n:Nat)(h:Q w bp (List.replicate n (.slice none 0 0)).toArray eS):OwnRows enc e eS w B bp (List.replicate n []):=by
 refine⟨_,h,by simp,fun k row v h1 h2=>?_,fun i j vi vj _ h1 _=>?_⟩
 ·simp only[Nm] at h1 h2
  split at h1
  ·rw[if_pos ‹_›] at h2;cases h1;cases h2;exact Jv _ _ _ _
  ·cases h1
 ·simp only[Nm] at h1
  split at h1
  ·cases h1;exact .inl rfl
  ·cases h1
theorem OwnRows.blk (h:OwnRows enc e eS w B bp rows):∃c,Q w bp c eS:=let⟨vs,h,_⟩:=h;⟨_,h⟩
theorem OwnRows.bplt (h:OwnRows enc e eS w B bp rows):bp<w.heap.size:=let⟨_,h⟩:=h.blk;lt_of_block h
theorem OwnRows.get (h:OwnRows enc e eS w B bp rows){s:Nat}{row:List α}(hs:rows[s]? =some row):
 ∃a cap,U w bp s (.slice a row.length cap)/\w.ownsRow B e 1 (.slice a row.length cap) row.length (row.map enc)/\Y w bp s:=by
 obtain⟨vs,d,i,g,j⟩:=h;have c:s<vs.length:=by rw[i];exact(Jh.1 hs).1
 have hv:=Jd c;have ho:=g s row _ hs hv;obtain⟨a,cap,e1⟩:=zG ho;refine⟨a,cap,zA d (by simp[hv,e1]),by rw[<-e1];exact ho,zE d⟩
theorem OwnRows.kept(h:OwnRows enc e eS w B bp rows){row:Option Nat}(hg:w.grownBy w' row)(hb:row≠some bp)(hr:∀k,row=some k->k<B):OwnRows enc e eS w' B bp rows:=by
 obtain⟨vs,j,i,c,d⟩:=h;refine⟨vs,zL hg j hb,i,fun k r v a b=>(c k r v a b).kept hg ?_,d⟩
 cases hk:v.ownBlock with
 |none=>exact .inl rfl
 |some g=>
  right;intro e1;have:=(c k r v a b).lt g hk;have:=hr g e1.symm;omega
theorem OwnRows.put(h:OwnRows enc e eS w B bp rows)(q:e≠eS){s:Nat}{row row':List α}(hs:rows[s]? =some row){a:Option Addr}{cap:Nat}(hc:U w bp s (.slice a row.length cap))
   {g H:Nat} (hg:(w.alloc o).grownBy w2 (Value.slice a row.length cap).ownBlock) (m:w2.ownsRow B e 1 (N g row'.length d) row'.length (row'.map enc))
 (hat:(Value.slice a row.length cap).ownBlock=some g∨g=H) (hH:w.heap.size<=H):
 OwnRows enc e eS (w2.setCell ⟨bp,s,none⟩ (N g row'.length d)) B bp (rows.set s row'):=by
 obtain⟨vs,y,h2,h3,h4⟩:=h;have l:s<vs.length:=by rw[h2];exact(Jh.1 hs).1
 have hv:=Jd l;have ho:=h3 s row _ hs hv
 have a4:vs[s]=.slice a row.length cap:=by
  have x:=zA (i:=s) y (v:=vs[s]) Zs;rw[x] at hc;exact Nt hc
 rw[a4] at ho hv;have a5:=zC ho y (.inr q);have a2:=zL hg (zB y) a5
 have u:∀(k:Nat) (v:Value),k≠s->vs[k]? =some v->v.ownBlock≠some bp/\(∀r,rows[k]? =some r->(w2.setCell ⟨bp,s,none⟩ (N g row'.length d)).ownsRow B e 1 v r.length (r.map enc))/\(v.ownBlock=none∨v.ownBlock≠some g):=by
  intro k v hk c;have a6:k<rows.length:=by rw[<-h2];exact(Jh.1 c).1
  have a0:=h3 k _ v (Jd a6) c;have hn:=zC a0 y (.inr q);refine⟨hn,fun r hr=>?_,?_⟩
  ·have a3:=h3 k r v hr c;have a8:=(a3.alloc o).kept hg (h4 k s v _ hk c hv);exact ownsRow_setCell_other a8 (by simpa using hn) _
  ·rcases hat with hat|hat
   ·rw[<-hat];exact h4 k s v _ hk c hv
   ·right;intro e1;have:=(a0.lt g e1).2;omega
 refine⟨vs.set s (N g row'.length d),?_,by simp[h2],fun k r v hr c=>?_,fun i j vi vj hij hi hj=>?_⟩
 ·rw[zD a2];simp
 ·by_cases hk:s=k
  ·subst hk;rw[Nn Zo] at hr;rw[Nn l] at c;cases hr;cases c;exact ownsRow_setCell_other m (zC (b:=bp) m a2 (.inr q)) _
  ·rw[Ns hk] at hr c;exact(u k v (Ne.symm hk) c).2.1 r hr
 ·by_cases t:s=i
  ·subst t;rw[Nn l] at hi;rw[Ns hij] at hj;cases hi;rcases(u j vj (Ne.symm hij) hj).2.2 with x|x
   ·right;rw[x];simp[Value.ownBlock]
   ·right;exact Ne.symm x
  ·rw[Ns t] at hi
   by_cases a1:s=j
   ·subst a1;rw[Nn l] at hj;cases hj;exact(u i vi (Ne.symm t) hi).2.2
   ·rw[Ns a1] at hj;exact h4 i j vi vj hij hi hj
theorem OwnRows.asRows(h:OwnRows enc e eS w B bp rows)(hC:w.heap.size<=C):aaB enc w C (N bp rows.length rows.length) rows:=by
 obtain⟨vs,i,d,t,h4⟩:=h;have hb:=lt_of_block i;refine⟨vs,⟨_,rows.length,by rw[d],by omega,fun k x hk=>⟨bp,0,rfl,by omega,zA i (by simpa using hk)⟩⟩,d,fun k rv row hk hr=>?_⟩;have ho:=t k row rv hr hk;rcases ho.2 with⟨rfl,l⟩|⟨g,m,cur,rfl,hg,q,c,a0,y,o⟩
 ·exact⟨none,0,by rw[l],by omega,fun j x hj=>by rw[Nz l] at hj;simp at hj⟩
 ·refine⟨_,m,rfl,c,fun j x hj=>⟨g,0,rfl,by have:=lt_of_block q;omega,?_⟩⟩;have u:=(Jh.1 hj).1;rw[Ng];exact(ho.cellAt j Zo).trans (by simp[hj])
end
theorem rY{α:Type}{enc:α->Value}{e:TypeId}{B:Nat}{v:Value}{xs:List α}(ho:w.ownsRow B e 1 v xs.length (xs.map enc))(q:w.heap.size<=C):xp enc w C v xs:=by
 rcases ho.2 with⟨rfl,d⟩|⟨g,h,cur,rfl,hg,k,c,o,m,i⟩
 ·exact⟨none,0,by rw[d],by omega,fun j x hj=>by rw[Nz d] at hj;simp at hj⟩
 ·refine⟨_,h,rfl,c,fun j x hj=>⟨g,0,rfl,by have:=lt_of_block k;omega,?_⟩⟩;have l:=(Jh.1 hj).1;rw[Ng];exact(ho.cellAt j Zo).trans (by simp[hj])
def okS (n:Nat)(s:Int):Bool:=decide (0<=s) && decide (s<(n:Int))
theorem tm {α:Type}(p:α->Bool)(l:List α)(k:Nat)(x:α)(h:l[k]? =some x)(hp:(l.take k).all p=true)(c:p x=true):(l.take (k+1)).all p=true:=by
 rw[Nh,h];simp[hp,c]
theorem vU {α:Type}(p:α->Bool)(l:List α)(k:Nat)(x:α)(h:l[k]? =some x)(c:p x=false):l.all p=false:=by
 rw[Um];exact⟨x,Ji h,by simp[c]⟩
theorem lR (w:World)(sv:Value)(g:List (List Int))(B:Nat)(hB:B<=w.heap.size)(h:aaB zN w B sv g)(hn:g.length<=2000000)(hr:∀row∈g,row.length<=2000000):
 T 51 #[.agg #[sv]] w fun e w'=>e=.returned (.bool (decide (0<g.length) && pB g))/\O w w':=by
 obtain⟨a,a0,rfl,b1⟩:=h.form;have HR:=Ja hr;clear hr;have c:O w (w.alloc (A #[.slice a g.length a0] 75)):=(Below.refl _ _).alloc (Je _) _;go_enter Try.func51,Try.ntmps51;go_wp2
 go_loop [10] (fun i=>∃k:Nat,k<=g.length/\i=I k/\(g.take k).all (fun l=>l.all (okS g.length))=true) (fun i=>g.length-(intOf i).toNat)
 case atStart=>exact⟨0,Jt _,rfl,by simp⟩
 case round=>
  obtain⟨k,hk,rfl,y⟩:=hrel;have HA:=Ja y;clear y
  by_cases a6:k<g.length
  ·obtain⟨row,d⟩:∃row,g[k]? =some row:=⟨_,Jd a6⟩
   obtain⟨b,o,a2,a5,rfl,hb,hc,a8,hx⟩:=h.row d;have hrl:=HR.out row (Ji d);have b6:U (w.alloc (A #[.slice (some ⟨b,o,none⟩) g.length a0] 75)) b (o+k) (.slice a2 row.length a5):=(c.cell (p:=⟨b,o+k,none⟩) (show b<w.heap.size by omega)).trans hc;have m:=Ja d;clear d;have HX:=Ja hx;clear hx h hc;have b0:(k:Int)<g.length:=Zo;go_wp2
   go_loop [16] (fun i=>∃j:Nat,j<=row.length/\i=I j/\(row.take j).all (okS g.length)=true) (fun i=>row.length-(intOf i).toNat)
   case atStart=>exact⟨0,Jt _,rfl,by simp⟩
   case round=>
    obtain⟨j,hj,rfl,q⟩:=hrel;have a3:=Ja q;clear q
    by_cases a4:j<row.length
    ·obtain⟨x,t⟩:∃x,row[j]? =some x:=⟨_,Jd a4⟩
     obtain⟨b2,o2,rfl,b7,u⟩:=HX.out j x t;simp only[zN] at u;have b5:U (w.alloc (A #[.slice (some ⟨b,o,none⟩) g.length a0] 75)) b2 (o2+j) (I x):=(c.cell (p:=⟨b2,o2+j,none⟩) (show b2<w.heap.size by omega)).trans u;have a1:=Ja t;clear t u;have a9:(j:Int)<row.length:=Zo
     by_cases b4:x<0
     ·have hf:pB g=false:=vU _ g k row m.out (vU _ row j x a1.out (by simp[okS];omega));have HF:=Ja hf;clear hf;go_wp2;go_ret;exact⟨by rw[HF.out];simp,c⟩
     ·by_cases b3:x<g.length
      ·go_wp2
       go_round
       case rel=>exact⟨j+1,by omega,by go_num,tm _ row j x a1.out a3.out (by simp[okS];omega)⟩
       case measure=>simp[intOf];omega
      ·have hf:pB g=false:=vU _ g k row m.out (vU _ row j x a1.out (by simp[okS];omega));have HF:=Ja hf;clear hf;go_wp2;go_ret;exact⟨by rw[HF.out];simp,c⟩
    ·go_wp2
     go_round
     case rel=>exact⟨k+1,by omega,by go_num,tm _ g k row m.out HA.out (by have:=a3.out;rwa [Oy Zo] at this)⟩
     case measure=>simp[intOf];omega
  ·have hf:pB g=true:=by have:=HA.out;rwa [Oy Zo] at this
   have HF:=Ja hf;clear hf;go_wp2;go_ret;exact⟨by rw[HF.out];simp,c⟩
def um (stk:List (Nat×Nat)):List Value:=stk.flatMap fun p=> [zj p.1,zj p.2]
theorem vH (c:List (Nat×Nat))(u j:Nat):um (c++ [(u,j)])=um c++ [zj u,zj j]:=by simp[um]
theorem yK (c:List (Nat×Nat)):(um c).length=2*c.length:=by
 induction c with
 |nil=>rfl
 |cons p r ih=>simp only[um,Qa,Jk,Nq,Ow] at ih ⊢;omega
structure Dfs (w0 w:World) (B0 n Bv Bs Bk:Nat) (seen:List Bool) (stk:List (Nat×Nat)) (pv:Value) (post:List Nat):Prop where
 hv:w.heap[Bv]? =some (.cells #[.slice (some ⟨Bs,0,none⟩) n n] 67 (0,0))
 hs:w.heap[Bs]? =some (.cells (seen.map ek).toArray 4 (0,0))
 hl:seen.length=n
 hk:∃sv,w.heap[Bk]? =some (.cells #[sv] 86 (0,0))/\w.ownsRow (Bk+1) 88 2 sv stk.length (um stk)
 lt:B0<=Bs/\Bs<Bv/\Bv<Bk
 hp:w.ownsRow (Bk+1) 3 1 pv post.length (post.map zj)
 hb:Below B0 w0 w
theorem Dfs.drewN{n:Nat}{c:List (Nat×Nat)}{pv:Value}(h:Dfs w0 w B0 n Bv Bs Bk seen c pv post):Dfs w0 (w.drewN k) B0 n Bv Bs Bk seen c pv post:=
 ⟨h.hv,h.hs,h.hl,h.hk,h.lt,h.hp,yC h.hb⟩
theorem Dfs.push{n:Nat}{d:List (Nat×Nat)}{pv g:Value}{c:List Nat}(h:Dfs w0 w B0 n Bv Bs Bk seen d pv c)
 (hg:(w.alloc o).grownBy w2 pv.ownBlock) (j:w2.ownsRow (Bk+1) 3 1 g (c.length+1) (c.map zj++ [zj u])):Dfs w0 w2 B0 n Bv Bs Bk seen d g (c++ [u]):=by
 obtain⟨hv,hs,hl,⟨sv,hk,i⟩,l,hp,hb⟩:=h;have hB:=lt_of_block hk
 refine⟨zL hg (zB hv) (zC hp hv (.inl Zo)),zL hg (zB hs) (zC hp hs (.inl Zo)),hl,
  ⟨sv,zL hg (zB hk) (zC hp hk (.inl Zo)),(i.alloc o).kept hg (zo i hp Zd)⟩,l,?_,?_⟩
 ·simpa using j
 ·exact Below.grown (hb.alloc Zo o) hg Zt (fun k hk'=>by have:=hp.lt k hk';omega)
theorem Dfs.popStk{n:Nat}{st:List (Nat×Nat)}{pv:Value}(h:Dfs w0 w B0 n Bv Bs Bk seen (st++ [(u,j)]) pv post)
 (hc:Q w Bk #[N gk (st.length+1) cp] 86):Dfs w0 (w.setCell ⟨Bk,0,none⟩ (N gk st.length cp)) B0 n Bv Bs Bk seen st pv post:=by
 obtain⟨hv,hs,hl,⟨sv,hk,c⟩,i,hp,hb⟩:=h;obtain rfl:=jc hk hc;simp only[Jk,Nq,Ow,Ng,vH] at c;refine⟨zR hv (show Bv≠Bk by omega),zR hs (show Bs≠Bk by omega),hl,⟨_,one_setCell hk,?_⟩,i,ownsRow_setCell_other hp (zC (b:=Bk) hp hk (.inl Zo)) _,hb.setCell (show B0<=Bk by omega) _⟩;have h1:=ownsRow_setCell_other c (a:=⟨Bk,0,none⟩) (zC (b:=Bk) c hk (.inl Zo)) (N gk st.length cp);obtain⟨x,y⟩:=h1;refine⟨by rw[yK];omega,.inr ?_⟩;rcases y with⟨t,_⟩|⟨g',a0,cur,g,m,k,a1,q,o,d⟩
 ·cases t
 ·cases g;refine⟨gk,cp,cur,rfl,m,k,by omega,q,o,?_⟩;have:=congrArg (List.take (st.length*2)) d;rw[List.take_take,Ud Zo,List.take_append_of_le_length (by rw[yK];omega),Oy (l:=um st) (by rw[yK];omega)] at this;exact this
theorem Dfs.bump{n:Nat}{st:List (Nat×Nat)}{pv:Value}(h:Dfs w0 w B0 n Bv Bs Bk seen (st++ [(u,j)]) pv post)
 (k:Q w Bk #[N gk (st.length+1) cp] 86):Dfs w0 (w.setCell ⟨gk,st.length*2+1,none⟩ (zj (j+1))) B0 n Bv Bs Bk seen (st++ [(u,j+1)]) pv post:=by
 obtain⟨hv,hs,hl,⟨sv,hk,c⟩,i,hp,hb⟩:=h;obtain rfl:=jc hk k;simp only[Jk,Nq,Ow,Ng,vH] at c;have l:=c.lt gk rfl;have g:=zo hp c Zd;refine⟨zR hv (show Bv≠gk by omega),zR hs (show Bs≠gk by omega),hl,⟨_,zR hk (show Bk≠gk by omega),?_⟩,i,ownsRow_setCell_other hp ?_ _,hb.setCell (show B0<=gk by omega) _⟩
 ·have:=(c.stored (st.length*2+1) (zj (j+1))).1;simp only[Jk,Nq,Ow,Ng,vH] at this ⊢
  have e:(um st++ [zj u,zj j]).set (st.length*2+1) (zj (j+1))=um st++ [zj u,zj (j+1)]:=by
   rw[Uj _ _ (by rw[yK];omega),yK,show st.length*2+1-2*st.length=1 by omega];rfl
  rw[e] at this;exact this
 ·rcases g with d|d
  ·rw[d];simp
  ·exact d
theorem Try.info_frame:(Try.prog.info? 88).map (fun i=>(i.zero,i.size,i.bytes))=some (some (.agg #[I 0,I 0]),2,16):=by kernel_rfl
theorem Try.info_int:(Try.prog.info? 3).map (fun i=>(i.zero,i.size,i.bytes))=some (some (I 0),1,8):=by kernel_rfl
theorem Try.info_bool:(Try.prog.info? 4).map (fun i=>(i.zero,i.size,i.bytes))=some (some (.bool false),1,1):=by kernel_rfl
theorem oF (w0 w:World)(B0 n Bv Bs Bk:Nat)(seen:List Bool)(d:List (Nat×Nat))(pv:Value)(post:List Nat)(u:Nat)(h:Dfs w0 w B0 n Bv Bs Bk seen d pv post)(hu:u<n)(hm:d.length<=2000000):
 T 52 #[I u,L Bv,L Bk] w fun e w'=>e=.returned (.tuple #[])/\Dfs w0 w' B0 n Bv Bs Bk (seen.set u true) (d++ [(u,0)]) pv post:=by
 obtain⟨i0,hi,a4,a3,a2⟩:=info_parts Try.info_frame;obtain⟨hv,hs,hl,⟨sv,hk,m⟩,a6,hp,o⟩:=h;have cv:=cell_of_one hv;obtain⟨b0,a0⟩:∃b0,seen[u]? =some b0:=⟨_,Jd Zo⟩
 have cs:U w Bs u (.bool b0):=zA hs (by simp[a0,ek]);have fs:Y w Bs u:=zE hs;have HV:Hid ((w.setCell ⟨Bs,u,none⟩ (.bool true)).heap[Bv]? =_):=zR hv (show Bv≠Bs by omega);have l:(w.setCell ⟨Bs,u,none⟩ (.bool true)).heap[Bk]? =_:=zR hk (show Bk≠Bs by omega);have HS:Hid ((w.setCell ⟨Bs,u,none⟩ (.bool true)).heap[Bs]? =_):=zD hs (.bool true);have b7:=cell_of_one l;have own1:(w.setCell ⟨Bs,u,none⟩ (.bool true)).ownsRow (Bk+1) 88 2 sv d.length (um d):=ownsRow_setCell_other m (zC (b:=Bs) m hs (.inl Zo)) _;have y:(w.setCell ⟨Bs,u,none⟩ (.bool true)).ownsRow (Bk+1) 3 1 pv post.length (post.map zj):=ownsRow_setCell_other hp (zC (b:=Bs) hp hs (.inl Zo)) _;have HB:Hid (Bk+1<=(w.setCell ⟨Bs,u,none⟩ (.bool true)).heap.size):=lt_of_block l;have a1:=Ja (o.setCell (p:=⟨Bs,u,none⟩) (show B0<=Bs by omega) (.bool true));have HK:=Ja l;have HP:=Ja y;clear hs hv a0 hk l hp y o;go_enter Try.func52,Try.ntmps52;go_wp2_with (at_builtin;go_must (refine wpList_append_lies _ rfl (.tmp 7) (.tmp 10) 86 rfl (Bk+1) 88 i0 _ 2 16 Try.underlying86 hi a4 a3 a2 rfl Zd sv d.length (um d) rfl (own1.alloc _) ⟨w.heap.size,0,none⟩ 1 1 [I u,I 0] rfl rfl (Oi (cs:=#[I u,I 0]) (zI Zs)) (by simp[Value.oneCell']) Zd (by unfold maxLen;omega) Zo (by have:=HB.out;simp at this ⊢;omega) _ rfl ?_;intro g a9 w1 i c b4 b3;have j:=zL c (zB HK.out) (zC own1 HK.out (.inl Zo));have b6:=cell_of_one j;have b5:=free_of_one j;have q:=Ja j;have b1:=Ja (zL c (zB HV.out) (zC own1 HV.out (.inl Zo)));have b2:=Ja (zL c (zB HS.out) (zC own1 HS.out (.inl Zo)));clear j))
 go_end0
 have a5:=zo HP.out own1 Zd;have t:=(HP.out.alloc (A #[I u,I 0] 88)).kept c a5;have a8:=HB.out;refine⟨rfl,⟨?_,?_,by simp[hl],⟨_,one_setCell q.out,?_⟩,a6,?_,?_⟩⟩
 ·exact zR b1.out (show Bv≠Bk by omega)
 ·rw[zR b2.out (show Bs≠Bk by omega)];refine congrArg some (congrArg (fun x=>Obj.cells x _ _) ?_);simp[Ox,ek]
 ·have:=ownsRow_setCell_other i (a:=⟨Bk,0,none⟩) (zC (b:=Bk) i q.out (.inl Zo)) (N g (d.length+1) a9);rw[vH,Jk];exact this
 ·exact ownsRow_setCell_other t (zC (b:=Bk) t q.out (.inl Zo)) _
 ·refine Below.setCell (Below.grown (a1.out.alloc Zo _) c (by simp at a8 ⊢;omega) ?_) (show B0<=Bk by omega) _;intro k hk;have:=own1.lt k hk;omega
def qT (xs ys:List Nat)(k:Nat):Prop:=ys.length=xs.length/\∀m,m<xs.length->ys[m]? =if m<k∨xs.length<=m+k then xs[xs.length-1-m]? else xs[m]?
theorem qT.start (xs:List Nat):qT xs xs 0:=⟨rfl,fun m hm=>by rw[if_neg Zo]⟩
theorem qT.step {xs ys:List Nat}{k j x y:Nat}(h:qT xs ys k)(u:k+j+1=xs.length)(t:k<j)(q:ys[k]? =some x)(o:ys[j]? =some y):qT xs ((ys.set k y).set j x) (k+1):=by
 obtain⟨l,g⟩:=h;refine⟨by simp[l],fun m hm=>?_⟩;have e1:=g k Zo;have e2:=g j Zo;rw[if_neg Zo] at e1 e2;rw[Ov]
 by_cases d:j=m
 ·subst d;rw[if_pos rfl,if_pos (by simp[l];omega),if_pos Zo,show xs.length-1-j=k by omega,<-e1,q]
 ·rw[if_neg d,Ov]
  by_cases c:k=m
  ·subst c;rw[if_pos rfl,if_pos Zo,if_pos Zo,show xs.length-1-k=j by omega,<-e2,o]
  ·rw[if_neg c,g m hm]
   by_cases i:m<k∨xs.length<=m+k
   ·rw[if_pos i,if_pos Zo]
   ·rw[if_neg i,if_neg Zo]
theorem qT.done{xs ys:List Nat}(h:qT xs ys k)(hk:xs.length<=2*k+1):ys=xs.reverse:=by
 obtain⟨g,d⟩:=h;apply Oq;intro m
 by_cases hm:m<xs.length
 ·rw[d m hm,List.getElem?_reverse hm]
  by_cases c:m<k∨xs.length<=m+k
  ·rw[if_pos c]
  ·rw[if_neg c];congr 1;omega
 ·rw[Of Zo,Of Zt]
theorem mK (w:World)(l:Nat)(v:Value)(xs:List Nat)(c:w.ownsRow l 3 1 v xs.length (xs.map zj))(hn:xs.length<=4000000):
 T 53 #[v] w fun e w'=>e=.returned (.tuple #[])/\w'.ownsRow l 3 1 v xs.length (xs.reverse.map zj)/\w.grownBy w' v.ownBlock:=by
 rcases c.2 with⟨rfl,h0⟩|⟨g,t,cur,rfl,hg,hh,_⟩
 ·have h:xs=[]:=Nz h0;subst h;go_enter Try.func53,Try.ntmps53;go_wp2;refine wp_loop_rounds 1 ?_;rw[rounds_succ];go_wp2
  go_end0
  exact⟨rfl,by simpa using c,⟨rfl,rfl,rfl,Je _,fun _ _ _=>rfl⟩⟩
 ·clear hh hg;have HO:=Ja c;clear c;go_enter Try.func53,Try.ntmps53;go_wp2
  go_loopw [2,3] (fun i j wr=>∃(k:Nat) (jj:Int),i=I k/\j=I jj/\Hid ((k:Int)+jj+1=xs.length)/\(k:Int)<=xs.length/\-1<=jj+k/\jj<=xs.length/\∃ys,Hid (qT xs ys k/\wr.ownsRow l 3 1 (N g xs.length t) xs.length (ys.map zj)/\w.grownBy wr (some g))) (fun i _ _=>xs.length-(intOf i).toNat)
  case atStart=>exact⟨0,(xs.length:Int)-1,rfl,rfl,by unfold Hid;omega,by omega,by omega,by omega,xs,qT.start xs,HO.out,⟨rfl,rfl,rfl,Je _,fun _ _ _=>rfl⟩⟩
  case round=>
   obtain⟨k,jj,rfl,rfl,q,hk,a3,a2,ys,d⟩:=hrel
   by_cases a1:(k:Int)<jj
   ·obtain⟨j,rfl⟩:∃j:Nat,jj=j:=⟨jj.toNat,by omega⟩
    have o:=d.out.1.1;have hj:=q.out;obtain⟨x,h⟩:∃x,ys[k]? =some x:=⟨_,Jd Zo⟩
    obtain⟨y,m⟩:∃y,ys[j]? =some y:=⟨_,Jd Zo⟩
    have hr:=d.out.2.1;have g1:U wr g k (I x):=(hr.cellAt k Zo).trans (by simp[h,zj]);have g2:U wr g j (I y):=(hr.cellAt j Zo).trans (by simp[m,zj]);have f1:Y wr g k:=hr.frozenAt k;have f2:Y wr g j:=hr.frozenAt j;have a0:¬k=j:=Zo;have i1:(k:Int)<xs.length:=Zo;have i2:(j:Int)<xs.length:=Zo;have u:=Ja (Jb h m);clear o hj h m hr;go_wp2
    go_region
    go_wp2;go_roundw
    case rel=>
     obtain⟨h,m⟩:=u.out;have o:=d.out.1.1;have s1:=d.out.2.1.stored k (zj y);have s2:=s1.1.stored j (zj x);refine⟨k+1,(j:Int)-1,by go_num,rfl,by have:=q.out;unfold Hid;omega,by omega,by omega,by omega,(ys.set k y).set j x,qT.step d.out.1 (by have:=q.out;omega) Zo h m,?_,?_⟩
     ·have:=s2.1;rw[<-Ox,<-Ox] at this;exact this
     ·exact nJ ((d.out.2.2.trans s1.2).trans s2.2)
    case measure=>simp[intOf];omega
   ·go_wp2
    go_end0
    have hd:=d.out.1.done (by have:=q.out;omega);subst hd;exact⟨rfl,by rw[<-List.map_reverse];exact d.out.2.1,d.out.2.2⟩
def fJ (w:World)(xs:List Nat)(e:Ending)(w':World):Prop:=∃v,e=.returned v/\w'.ownsRow w.heap.size 3 1 v xs.length (xs.map zj)/\O w w'
theorem k8(hv:zw g):(decide (0<(g.map (List.map Int.ofNat)).length) && pB (g.map (List.map Int.ofNat)))=true:=by
 obtain⟨h,d⟩:=hv;simp only[Nr,Jm,decide_eq_true_eq,pB,Oe,Nu];refine⟨h,?_⟩;rintro _ ⟨l,hl,rfl⟩ s hs;simp only[Nu] at hs;obtain⟨x,c,rfl⟩:=hs;have:=d l hl x c;simp;omega
theorem rows_int{B:Nat}{v:Value}(h:aaB zj w B v g):aaB zN w B v (g.map (List.map Int.ofNat)):=(aaB.map (enc:=zN) (enc':=zj) Int.ofNat (fun _=>rfl)).2 h
theorem tK (w:World)(sv:Value)(g:List (List Nat))(B:Nat)(hB:B<=w.heap.size)(h:aaB zj w B sv g)(hv:zw g)(c:g.length<=2000000)(hr:∀row∈g,row.length<=2000000):
 T 51 #[.agg #[sv]] w fun e w'=>e=.returned (.bool true)/\O w w':=by
 have:=lR w sv (g.map (List.map Int.ofNat)) B hB (rows_int h) (by simpa using c) (by intro row hm;simp only[Nu] at hm;obtain⟨l,hl,rfl⟩:=hm;simpa using hr l hl);rw[k8 hv] at this;exact this
theorem yA (z:Value)(n:Nat):madeCells #[z] n=(List.replicate n z).toArray:=by
 rw[<-toList_madeCells_one]
theorem iC (w1:World)(n:Nat):Dfs w1 (((w1.alloc (A (madeCells #[.bool false] n) 4)).alloc (A #[N w1.heap.size n n] 67)).alloc (A #[F] 86)) w1.heap.size n (w1.heap.size+1) w1.heap.size (w1.heap.size+1+1) (List.replicate n false) [] (.slice none 0 0) []:=by
 refine⟨zB (zI Zs),?_,by simp,⟨_,zI Zs,Jv _ _ _ _⟩,by omega,Jv _ _ _ _,?_⟩
 ·rw[zB (zB (zI rfl)),yA];simp[ek]
 ·exact(((Below.refl _ _).alloc (Je _) _).alloc Zs _).alloc Zt _
structure DInv (g:List (List Nat)) (seen:List Bool) (stk:List (Nat×Nat)) (post:List Nat):Prop where
 len:seen.length=g.length
 cnt:seen.count true=stk.length+post.length
 node:∀p∈stk,p.1<g.length
 fin:∀u∈post,u<g.length
theorem tI (l:List Bool)(u:Nat)(h:l[u]? =some false):(l.set u true).count true=l.count true+1:=by
 induction l generalizing u with
 |nil=>simp at h
 |cons b r ih=>
  cases u with
  |zero=>simp at h;subst h;simp
  |succ u=>
   simp only[List.getElem?_cons_succ] at h;simp only[Jg,Nf,ih u h];omega
theorem DInv.start(hv:zw g):DInv g ((List.replicate g.length false).set 0 true) ([]++ [(0,0)]) []:=by
 refine⟨by simp,?_,by simp;exact hv.1,by simp⟩;rw[tI _ _ (by simp[Nm,hv.1])];simp[List.count_replicate]
theorem DInv.le{d:List (Nat×Nat)}{c:List Nat}(h:DInv g seen d c):d.length+c.length<=g.length:=by
 rw[<-h.cnt,<-h.len];exact List.count_le_length
theorem DInv.pop{st:List (Nat×Nat)}{d:List Nat}(h:DInv g seen (st++ [(u,j)]) d):DInv g seen st (d++ [u]):=
 ⟨h.len,by have:=h.cnt;simp at this ⊢;omega,fun p hp=>h.node p (by simp[hp]),fun x c=>by
   rcases Jl.1 c with c|c
   ·exact h.fin x c
   ·have:=h.node (u,j) Zs;simp at c;subst c;exact this⟩
theorem DInv.skip{st:List (Nat×Nat)}(h:DInv g seen (st++ [(u,j)]) post):DInv g seen (st++ [(u,j+1)]) post:=
 ⟨h.len,by have:=h.cnt;simp at this ⊢;omega,fun p hp=>by
   rcases Jl.1 hp with hp|hp
   ·exact h.node p (by simp[hp])
   ·have:=h.node (u,j) Zs;simp at hp;subst hp;exact this,h.fin⟩
theorem DInv.enter{c:List (Nat×Nat)}{s:Nat}(h:DInv g seen c post)(hs:seen[s]? =some false):DInv g (seen.set s true) (c++ [(s,0)]) post:=by
 have d:s<g.length:=by rw[<-h.len];exact(Jh.1 hs).1
 refine⟨by simp[h.len],by rw[tI _ _ hs,h.cnt];simp;omega,fun p hp=>?_,h.fin⟩;rcases Jl.1 hp with hp|hp
 ·exact h.node p hp
 ·simp at hp;subst hp;exact d
theorem lJ (w:World)(sv:Value)(g:List (List Nat))(B:Nat)(hB:B<=w.heap.size)(h:aaB zj w B sv g)(hv:zw g)(hn:g.length<=2000000)(hr:∀row∈g,row.length<=2000000)
 (k0:Nat) (F:List Nat) (hF:kV g k0 ((List.replicate g.length false).set 0 true) [(0,0)] [] F):
 T 21 #[.agg #[sv]] w (fJ w F.reverse):=by
 obtain⟨a,b5,rfl,f5⟩:=h.form;obtain⟨ii,d8,c9,c8,c7⟩:=info_parts Try.info_int;obtain⟨ib,g0,f0,e8,e7⟩:=info_parts Try.info_bool;have y:O w (w.alloc (A #[.slice a g.length b5] 75)):=(Below.refl _ _).alloc (Je _) _;have HV:=Ja hv;have HR:=Ja hr;have HF:=Ja hF;clear hv hr hF;have d6:=run_make_row' (P:=Try.prog) 67 4 (.bool false) 1 Try.underlying67 Try.info_bool rfl .i64 .i64 g.length Zo Zo;go_enter Try.func21,Try.ntmps21;go_wp2_with (go_at_call 51;go_must (refine(tK _ _ g B Zt (h.below (y.mono hB)) HV.out hn HR.out).mono ?_;rintro e w1 ⟨rfl,a1⟩;obtain⟨c4,c1⟩:=bcell a1))
 have c3:Dfs w1 (((w1.alloc (A (madeCells #[.bool false] g.length) 4)).alloc (A #[N w1.heap.size g.length g.length] 67)).alloc (A #[.slice none 0 0] 86)) w1.heap.size g.length (w1.heap.size+1) w1.heap.size (w1.heap.size+1+1) (List.replicate g.length false) [] (.slice none 0 0) []:=iC w1 g.length;refine(oF w1 _ w1.heap.size g.length (w1.heap.size+1) w1.heap.size (w1.heap.size+1+1) (List.replicate g.length false) [] (.slice none 0 0) [] 0 c3 HV.out.1 Zd).mono ?_;rintro e w2 ⟨rfl,hd⟩;have HD:=Ja hd;clear hd c3 d6;go_wp2_with fail
 go_loopg [4] k0 (fun k pv wr=>∃seen stk c,Hid (Dfs w1 wr w1.heap.size g.length (w1.heap.size+1) w1.heap.size (w1.heap.size+1+1) seen stk pv c/\kV g k seen stk c F/\DInv g seen stk c))
 case atStart=>exact⟨_,_,_,HD.out,HF.out,DInv.start HV.out⟩
 case round=>
  obtain⟨seen,stk,c,l⟩:=hrel
  cases gk with
  |zero=>
   obtain⟨rfl,rfl⟩:=l.out.2.1;obtain⟨sv,hk,d⟩:=l.out.1.hk;obtain⟨a0,c0,rfl⟩:=zG d;have ck:=cell_of_one hk;simp only[Ow] at ck;have t:O w w1:=y.trans (a1.mono Zs);have d5:=t.size;have c5:=Ja (t.trans (l.out.1.hb.mono t.size));have b8:=l.out.2.2.le;clear hk d a1 c4 c1 y t h;go_wp2_with (go_at_call 53;go_must (refine(mK wr _ _ c l.out.1.hp Zo).mono ?_;rintro e w3 ⟨rfl,d1,e0⟩))
   go_ret;refine⟨_,rfl,?_,?_⟩
   ·have:=vY d1 (base':=w.heap.size) Zo
    simpa using this
   ·refine c5.out.grown e0 (by have:=c5.out.size;omega) (fun k hk=>?_);have:=l.out.1.hp.lt k hk
    omega
  |succ k=>
   obtain⟨st,u,j,rfl,b6⟩:=l.out.2.1;obtain⟨sv,hk,d⟩:=l.out.1.hk;simp only[Jk,Nq,Ow,Ng,vH] at d;obtain⟨gk,cp,rfl,g3,g1⟩:=d.form Zo;have g4:=(zm d).1;have f3:=(zm d).2;have f4:(st.length:Int)<=cp:=Zo;have d4:u<g.length:=l.out.2.2.node (u,j) Zs;obtain⟨row,a4⟩:∃row,g[u]? =some row:=⟨_,Jd d4⟩
   have t:O w w1:=y.trans (a1.mono Zs);have d5:=t.size;have b4:=t.trans (l.out.1.hb.mono t.size);obtain⟨b,o,a2,f7,rfl,hb,hc,e6,hx⟩:=(h.below (b4.mono hB)).row a4;have hrl:=HR.out row (Ji a4);have b8:=l.out.2.2.le;simp only[Jk,Nq,Ow] at b8;have ck:=cell_of_one hk;have fk:=free_of_one hk;have cu:U wr gk (st.length*2) (I u):=(d.cellAt _ Zo).trans (by rw[Nc (by rw[yK];omega)];simp[yK,Nat.mul_comm,zj]);have cj:U wr gk (st.length*2+1) (I j):=(d.cellAt _ Zo).trans (by rw[Nc (by rw[yK];omega)];simp[yK,show st.length*2+1-2*st.length=1 by omega,zj]);have fj:Y wr gk (st.length*2+1):=d.frozenAt _
   have g5:U wr w.heap.size 0 (.slice (some ⟨b,o,none⟩) g.length b5):=by
    have h1:(w.alloc (A #[.slice (some ⟨b,o,none⟩) g.length b5] 75)).heap[w.heap.size]? =_:=zI rfl;exact cell_of_one (zH l.out.1.hb (zH a1 h1 Zs) (by have:=a1.size;simp at this;omega))
   have f1:(u:Int)<g.length:=Zo;have a8:=Ja a4;have f8:=Ja d;have HK:=Ja hk;have HX:=Ja hx;have h2:=Ja b4;clear a4 d hk hx b4 t y a1 c4 c1 h;rcases b6 with⟨hj,q⟩|⟨s,hs,i,q⟩|⟨s,hs,i,q⟩
   ·have b9:row.length=j:=by rw[hj];simp[succ,Jj,a8.out]
    have a9:((j:Int)==(row.length:Int))=true:=by simp[b9]
    have a3:=Ja q;have hp:=l.out.1.hp;have f9:=lt_of_block HK.out;clear b9 hj q;go_wp2_with fail;go_quiet (fail);have own43:∀n,(wr.drewN n).ownsRow (w1.heap.size+1+1+1) 3 1 _ c.length (c.map zj):=fun n=>ji hp
    go_wp2_with (at_builtin;go_must (refine wpList_append_lies _ rfl (.tmp 43) (.tmp 48) 25 rfl (w1.heap.size+1+1+1) 3 ii (I 0) 1 8 Try.underlying25 d8 c9 c8 c7 rfl Zd _ c.length (c.map zj) rfl ((own43 _).alloc _) ⟨wr.heap.size,0,none⟩ 1 1 [I u] rfl rfl (Oi (cs:=#[I u]) (zI Zs)) (by simp[Value.oneCell']) Zd (by unfold maxLen;omega) Zo Zt (wr.heap.size+1) Zs ?_;intro g2 f6 w2 b0 a5 g6 f2;have m:=(l.out.1.drewN (k:=nq)).push a5 b0;have b1:=zL a5 (zB (kg HK.out)) (zC hp HK.out (.inl Zo));have h0:=cell_of_one b1;have g8:=free_of_one b1;have e4:=Ja b1;have a6:=Ja m;clear b1 m b0 a5 hp own43))
    go_roundg k
    case measure=>omega
    case rel=>exact⟨seen,st,c++ [u],a6.out.popStk e4.out,a3.out,l.out.2.2.pop⟩
   ·have x:row[j]? =some s:=by rw[<-hs];simp[succ,Jj,a8.out]
    have d7:j<row.length:=(Jh.1 x).1;have a9:((j:Int)==(row.length:Int))=false:=by simp;omega
    have d2:(j:Int)<row.length:=Zo;obtain⟨b2,o2,rfl,e1,cs⟩:=HX.out j s x;simp only[zj] at cs;have m:∀n,Dfs w1 ((wr.drewN n).setCell ⟨gk,st.length*2+1,none⟩ (I ((j:Int)+1))) _ _ _ _ _ _ _ _ _:=fun n=>(l.out.1.drewN (k:=n)).bump HK.out
    have e2:=fun n=>cell_of_one (m n).hv
    have e3:∀n,U ((wr.drewN n).setCell ⟨gk,st.length*2+1,none⟩ (I ((j:Int)+1))) w1.heap.size s (.bool true):=fun n=>zA (m n).hs (by simp[i,ek])
    have b7:s<g.length:=by rw[<-l.out.2.2.len];exact(Jh.1 i).1
    have d0:(s:Int)<g.length:=Zo;have a6:=Ja m;have a3:=Ja q;clear q hs i x m;go_wp2_with fail;go_quiet (fail);go_wp2_with fail
    go_roundg k
    case measure=>omega
    case rel=>exact⟨seen,st++ [(u,j+1)],c,a6.out _,a3.out,l.out.2.2.skip⟩
   ·have x:row[j]? =some s:=by rw[<-hs];simp[succ,Jj,a8.out]
    have d7:j<row.length:=(Jh.1 x).1;have a9:((j:Int)==(row.length:Int))=false:=by simp;omega
    have d2:(j:Int)<row.length:=Zo;obtain⟨b2,o2,rfl,e1,cs⟩:=HX.out j s x;simp only[zj] at cs;have m:∀n,Dfs w1 ((wr.drewN n).setCell ⟨gk,st.length*2+1,none⟩ (I ((j:Int)+1))) _ _ _ _ _ _ _ _ _:=fun n=>(l.out.1.drewN (k:=n)).bump HK.out
    have e2:=fun n=>cell_of_one (m n).hv
    have e3:∀n,U ((wr.drewN n).setCell ⟨gk,st.length*2+1,none⟩ (I ((j:Int)+1))) w1.heap.size s (.bool false):=fun n=>zA (m n).hs (by simp[i,ek])
    have b7:s<g.length:=by rw[<-l.out.2.2.len];exact(Jh.1 i).1
    have d0:(s:Int)<g.length:=Zo;have b3:=l.out.2.2.skip.enter i;have a6:=Ja m;have a3:=Ja q;have d3:=Ja b3;clear q hs i x m b3;go_wp2_with fail;go_quiet (fail);go_wp2_with (go_at_call 52;go_must (refine(oF w1 _ w1.heap.size g.length (w1.heap.size+1) w1.heap.size (w1.heap.size+1+1) seen (st++ [(u,j+1)]) _ c s (a6.out _) b7 Zt).mono ?_;rintro e w2 ⟨rfl,c2⟩;have e5:=Ja c2;clear c2))
    go_roundg k
    case measure=>omega
    case rel=>exact⟨seen.set s true,st++ [(u,j+1)]++ [(s,0)],c,e5.out,a3.out,d3.out⟩
theorem rG{F:List Nat}:∀(k:Nat) (seen:List Bool) (stk:List (Nat×Nat)) (post:List Nat),kV g k seen stk post F->DInv g seen stk post->F.length<=g.length/\∀u∈F,u<g.length
 |0,seen,stk,post,h,hi=>by
  obtain⟨rfl,rfl⟩:=h
  exact⟨by have:=hi.le;simpa using this,hi.fin⟩
 |k+1,seen,stk,post,h,hi=>by
  obtain⟨st,u,j,rfl,⟨_,h⟩|⟨s,_,_,h⟩|⟨s,_,hs,h⟩⟩:=h
  ·exact rG k _ _ _ h hi.pop
  ·exact rG k _ _ _ h hi.skip
  ·exact rG k _ _ _ h (hi.skip.enter hs)
theorem tV.nodes{c:List Nat}(h:tV g c)(hv:zw g):c.length<=g.length/\∀u∈c,u<g.length:=by
 obtain⟨k,h⟩:=h;have:=rG k _ _ _ h (DInv.start hv)
 simpa using this
theorem tp (w:World)(sv:Value)(g:List (List Nat))(B:Nat)(hB:B<=w.heap.size)(h:aaB zj w B sv g)(hv:zw g)(d:g.length<=2000000)(hr:∀row∈g,row.length<=2000000)(c:List Nat)(ho:tV g c):
 T 21 #[.agg #[sv]] w (fJ w c):=by
 obtain⟨k0,ho⟩:=ho;have:=lJ w sv g B hB h hv d hr k0 _ ho
 rwa [List.reverse_reverse] at this
theorem zM {fn:Func}{p:Tmp}{ty:TypeId}(h:fn.results=#[.cell p ty])(c:Array Value)(P:Program)(w:World):
 (results fn c).run P w=((asAddr (c.getD p undef)).run P w).andThen fun a w₁=>(loadVar ty a).run P w₁:=by
 simp only[results,h];simp[Sem.run_bind,Result.andThen]
structure GMem (V w:World) (bp bh n m:Nat) (R:List (List Int)):Prop where
 hg:w.heap[bh]? =some (.cells #[.slice (some ⟨bp,0,none⟩) n n] 75 (0,0))
 hr:OwnRows zN 3 25 w V.heap.size bp R
 hl:R.length=n
 hrl:∀row∈R,row.length<=m
 hb:Below V.heap.size V w
 gp:V.heap.size<=bp
 gh:V.heap.size<=bh
theorem GMem.start (V:World)(n m:Nat):GMem V ((V.alloc (A (madeCells #[F] n) 25)).alloc (A #[N V.heap.size n n] 75)) V.heap.size (V.heap.size+1) n m (List.replicate n []):=by
 refine⟨zI Zs,OwnRows.made n ?_,by simp,(by intro r hr;rw[(List.mem_replicate.1 hr).2];simp),((Below.refl _ V).alloc (Je _) _).alloc Zs _,Je _,by omega⟩;rw[zB (zI rfl),yA]
theorem GMem.start' (V:World)(b:Nat)(hb:V.heap.size=b)(n m:Nat):GMem V ((V.alloc (A (madeCells #[F] n) 25)).alloc (A #[N b n n] 75)) b (b+1) n m (List.replicate n []):=by
 subst hb;exact GMem.start V n m
theorem GMem.alloc{V:World}{n m:Nat}{R:List (List Int)}(h:GMem V w bp bh n m R)(o:Obj):GMem V (w.alloc o) bp bh n m R:=
 ⟨zB h.hg,h.hr.kept (row:=none) ⟨rfl,rfl,rfl,by simp,fun k hk _=>Below.heap_alloc w o k hk⟩ Zs Zs,h.hl,h.hrl,h.hb.alloc h.hb.size o,h.gp,h.gh⟩
theorem GMem.put{V:World}{n m s g H:Nat}{R:List (List Int)}{row row':List Int}{a:Option Addr}(h:GMem V w bp bh n m R)(hs:R[s]? =some row)
 (hc:U w bp s (.slice a row.length d)) (hg:(w.alloc o).grownBy w2 (Value.slice a row.length d).ownBlock)
 (u:w2.ownsRow V.heap.size 3 1 (N g row'.length c) row'.length (row'.map zN)) (a1:(Value.slice a row.length d).ownBlock=some g∨g=H) (hH:w.heap.size<=H) (hm:row'.length<=m):
 GMem V (w2.setCell ⟨bp,s,none⟩ (N g row'.length c)) bp bh n m (R.set s row'):=by
 obtain⟨i,y,h3,a2,x,h5,h6⟩:=h;obtain⟨a',a3,q,j,_⟩:=y.get hs;rw[hc] at q;cases q;have n1:=zC j i (.inr Zd);have t:=y.put Zd hs hc hg (row':=row') u a1 hH;have l1:=lt_of_block i;obtain⟨cc,l⟩:=y.blk;have a0:bh≠bp:=fun e=>by subst e;rw[i] at l;simp at l
 exact⟨zR (zL hg (zB i) n1) (by simpa using a0),t,by simpa using h3,fun r hr=>by(rcases Qe hr with hr|rfl;exact a2 r hr;exact hm),((x.alloc (by have:=x.size;omega) o).grown hg (by have:=x.size;simp;omega) (fun k hk=>(j.lt k hk).1)).setCell h5 _,h5,h6⟩
section
variable {α:Type} {enc:α->Value} {e eS:TypeId} {w:World} {B bp:Nat} {rows:List (List α)}
theorem OwnRows.base(h:OwnRows enc e eS w B bp rows)(hB:B'<=B):OwnRows enc e eS w B' bp rows:=by
 obtain⟨vs,i,g,d,c⟩:=h;exact⟨vs,i,g,fun k r v a b=>vY (d k r v a b) hB,c⟩
theorem OwnRows.below(h:OwnRows enc e eS w B bp rows)(hb:O w w'):OwnRows enc e eS w' B bp rows:=by
 obtain⟨vs,c,i,g,d⟩:=h;exact⟨vs,zH hb c (lt_of_block c),i,fun k r v a b=>p7 (g k r v a b) hb (Je _),d⟩
theorem OwnRows.set (h:OwnRows enc e eS w B bp rows){a:Addr}(c:a.block≠bp)(d:a.block<B)(u:Value):OwnRows enc e eS (w.setCell a u) B bp rows:=
 h.kept (w':=w.setCell a u) (row:=some a.block) ⟨rfl,rfl,rfl,by simp[World.setCell],fun k _ hk=>Below.heap_setCell _ _ _ _ (fun e=>hk (by rw[e]))⟩ (fun e=>c (by cases e;rfl)) (fun k hk=>by cases hk;exact d)
end
theorem pk:Keyed Try.prog 3:=int_keyed Try.underlying3
theorem wf64(h:-9223372036854775808<=x/\x<=9223372036854775807):(Lit.int .i64 x).wf=true:=by simp[Lit.wf,IntKind.min,IntKind.max,IntKind.signed,IntKind.bits];omega
theorem jp(h:-9223372036854775808<=x/\x<=9223372036854775807):keyOf Try.prog 3 (.int .i64 x)=some (.int .i64 x):=keyOf_int_mk Try.underlying3 (wf64 h)
theorem zeroInt (w:World):(zeroValue 3).run Try.prog w=.ok (I 0) w:=by kernel_rfl
def ud (w:World)(b n:Nat)(f:Int->Int):Prop:=
 ∃D:DataW Unit,w.ownsMap Try.prog 3 (plainElem Try.prog 3) b n D/\∀x,(Lit.int .i64 x).wf=true->D.atKey (.int .i64 x) (.lit (.int .i64 0))=.lit (.int .i64 (f x))
theorem ud.lt{b n:Nat}{f:Int->Int}(h:ud w b n f):b<w.heap.size:=let⟨_,h,_⟩:=h;h.lt
theorem ud.same{b n:Nat}{f:Int->Int}(h:ud w b n f)(hb:w'.heap[b]? =w.heap[b]?):ud w' b n f:=by
 obtain⟨D,⟨es,c,i,g⟩,d⟩:=h;exact⟨D,⟨es,c,hb.trans i,g⟩,d⟩
theorem ud.ne{b n:Nat}{f:Int->Int}(h:ud w b n f){b':Nat}{c:Array Value}{t:TypeId}{z:Nat×Nat}(hb:w.heap[b']? =some (.cells c t z)):b≠b':=by
 obtain⟨D,⟨es,d,g,j⟩,i⟩:=h;rintro rfl;rw[g] at hb;simp at hb
theorem ud.look{b n:Nat}{f:Int->Int}(h:ud w b n f)(i:-9223372036854775808<=x/\x<=9223372036854775807):
 (Instr.lookup 105 (.map (some b)) (.int .i64 x) false).run Try.prog w=.ok (.int .i64 (f x)) w/\(Lit.int .i64 (f x)).wf=true:=by
 obtain⟨D,h,hf⟩:=h;obtain⟨c,g,d,j⟩:=h.lookup_int pk Try.underlying105 Try.underlying3 (zeroInt w) (jp i);rw[hf x (wf64 i)] at d;simp only[DataW.lit.injEq,Lit.int.injEq,true_and] at d;subst d;exact⟨g,j⟩
theorem rW{ops:Array Oper}{rest:List Oper}{o:Oper}{a:Act}{Q:Exit->Act->World->Prop}(hg:o.guard=none)(m x v:Operand)
 (j:o.op=.mapUpdate 105 m x v) {b n:Nat} {f:Int->Int} (h:ud w b n f) (t:n<9000000000000000000) (kx vv:Int) (hm:a.eval m=.map (some b)) (l:a.eval x=.int .i64 kx) (hv:a.eval v=.int .i64 vv)
 (d:-9223372036854775808<=kx/\kx<=9223372036854775807) (i:-9223372036854775808<=vv/\vv<=9223372036854775807)
 (q:∀w',ud w' b (n+1) (fun y=>if y=kx then vv else f y)->w.grownBy w' (some b)->wpList Try.prog ops Q rest (a.put o.dst undef) w'):wpList Try.prog ops Q (o::rest) a w:=by
 obtain⟨D,h,hf⟩:=h;refine wpList_mapUpdate_own (H:=Unit) w hg m x v 105 j 3 3 pk Try.underlying105 _ b n D hm h (by unfold maxLen;omega) _ _ _ l hv (jp d) _ [] (plainElem_int Try.underlying3 (wf64 i)) ?_;intro w1 g c;refine q w1 ⟨_,g,fun y hy=>?_⟩ c;have k:WideAt.IsKeyLit (.int .i64 kx):=pk.key (jp d)
 by_cases e:y=kx
 ·subst e;simp only[if_true];exact Maps.atKey_put_same h.isMap k _ _
 ·simp only[if_neg e];rw[Maps.atKey_put_other (by simpa using e)];exact hf y hy
abbrev aZ (p:IProg)(fa:Option Addr)(fc:Nat)(aa:Option Addr)(ac:Nat)(da:Option Addr)(dc:Nat)(ba:Option Addr)(bc:Nat):Array Value:=R p fa fc aa ac da dc ba bc
structure PBx (W:World) (b:Nat) (p:IProg) (fa:Option Addr) (fc:Nat) (aa:Option Addr) (ac:Nat) (da:Option Addr) (dc:Nat) (ba:Option Addr) (bc:Nat):Prop where
 blk:W.heap[b]? =some (.cells (aZ p fa fc aa ac da dc ba bc) 44 (0,0))
 prog:ProgIn W W.heap.size ⟨.slice fa p.funcs.length fc,.slice aa p.args.length ac,.slice da p.data.length dc,.slice ba p.banks.length bc⟩ p
section
variable {W W':World} {b:Nat} {p:IProg} {fa aa da ba:Option Addr} {fc ac dc bc:Nat}
theorem PBx.below (h:PBx W b p fa fc aa ac da dc ba bc)(hb:O W W'):PBx W' b p fa fc aa ac da dc ba bc:=
 ⟨zH hb h.blk (lt_of_block h.blk),(h.prog.below hb).mono hb.size⟩
theorem PBx.new (h:ProgIn W W.heap.size ⟨.slice fa p.funcs.length fc,.slice aa p.args.length ac,.slice da p.data.length dc,.slice ba p.banks.length bc⟩ p):PBx (W.alloc (A (aZ p fa fc aa ac da dc ba bc) 44)) W.heap.size p fa fc aa ac da dc ba bc:=
 ⟨zI rfl,(h.below ((Below.refl _ _).alloc (Je _) _)).mono Zs⟩
theorem PBx.lt (h:PBx W b p fa fc aa ac da dc ba bc):b<W.heap.size:=lt_of_block h.blk
theorem PBx.c0 (h:PBx W b p fa fc aa ac da dc ba bc):U W b 0 (.slice fa p.funcs.length fc):=zA h.blk Zs
theorem PBx.c1 (h:PBx W b p fa fc aa ac da dc ba bc):U W b 1 (.slice aa p.args.length ac):=zA h.blk Zs
theorem PBx.c2 (h:PBx W b p fa fc aa ac da dc ba bc):U W b 2 (I p.entry):=zA h.blk Zs
theorem PBx.c3 (h:PBx W b p fa fc aa ac da dc ba bc):U W b 3 (I p.handler):=zA h.blk Zs
theorem PBx.c4 (h:PBx W b p fa fc aa ac da dc ba bc):U W b 4 (.slice da p.data.length dc):=zA h.blk Zs
theorem PBx.c5 (h:PBx W b p fa fc aa ac da dc ba bc):U W b 5 (.slice ba p.banks.length bc):=zA h.blk Zs
end
end Go.Proofs.Ytoahcpkibpomcaa
