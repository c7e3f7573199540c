/- Part of a proof. -/
import Derived.Test.YtoahcpkibpomcaaMath
import Derived.Test.YtoahcpkibpomcaaRows
import Derived.Test.YtoahcpkibpomcaaSq
import Derived.Test.YtoahcpkibpomcaaSw
import Derived.BigRegion
import Derived.Carry
import Derived.Deep.OwnRows
import Derived.Deep.Slices
import Derived.Defers
import Derived.Laws.BitsLemmas
import Derived.Laws.BytesArg
import Derived.Laws.CopyOwn
import Derived.Laws.EntriesVeiled
import Derived.Lib.BufferWrite
import Derived.Lib.EndianBits
import Derived.LoopIn
import Derived.LoopNIn
import Derived.Maps.OwnOps
import Derived.Maps.OwnSet
import Derived.OpenShut
import Derived.OwnWalkIn
import Derived.ProofKit
import Derived.RangeFuncBound
import Derived.RangeFuncCalls
import Derived.RangeFuncLeaves
import Derived.RangeFuncNested
import Derived.Recover
import Derived.RegionIn
import Derived.Shelf.Abstract
import Derived.Shelf.Bits.Mul64
import Derived.Shelf.RegionOpen
import Derived.StillTail
import Derived.TacticsInMore
import Derived.WalkLawsBesides
import Derived.WideKeyEntry
set_option linter.all false
set_option maxHeartbeats 4000000
set_option maxRecDepth 100000
namespace Go.Proofs.Ytoahcpkibpomcaa
open Go.RowKit
variable {W W' w w' w0 w1 w2:World}{B' B0 Bk Bs Bv C base' c cp d gk i j k u:Nat}{o:Obj}{xs:List Value}{ov pv v':Value}{f:Int->Nat}{m:Mach}{g:List (List Nat)}{seen:List Bool}{post:List Nat}{x:Int}{rest:List Oper}{P:Program}
def xp {α:Type}(enc:α->Value)(w:World)(B:Nat)(v:Value)(xs:List α):Prop:=
 ∃(a:Option Addr) (cap:Nat),v=.slice a xs.length cap/\xs.length<=cap/\∀(k:Nat) (x:α),xs[k]? =some x->∃b o,a=some ⟨b,o,none⟩/\b<B/\O w b (o+k) (enc x)
def zN (n:Int):Value:=I n
def zj (n:Nat):Value:=I n
def og (b:Bool):Value:=.bool b
theorem xp.below{α:Type}{enc:α->Value}{B:Nat}{v:Value}{xs:List α}(h:xp enc w B v xs)(hb:Below B w w'):xp enc w' B v xs:=by
 obtain⟨a,f,rfl,c,h⟩:=h;refine⟨a,f,rfl,c,fun k x hk=>?_⟩;obtain⟨b,o,i,d,g⟩:=h k x hk;exact⟨b,o,i,d,(hb.cell (p:=⟨b,o+k,none⟩) d).trans g⟩
theorem xp.mono{α:Type}{enc:α->Value}{B:Nat}{v:Value}{xs:List α}(h:xp enc w B v xs)(hb:B<=B'):xp enc w B' v xs:=by
 obtain⟨a,d,rfl,c,h⟩:=h;refine⟨a,d,rfl,c,fun k x hk=>?_⟩;obtain⟨b,o,g,i,f⟩:=h k x hk;exact⟨b,o,g,by omega,f⟩
theorem xp.map{α β:Type}{enc:α->Value}{enc':β->Value}(f:β->α)(hf:∀x,enc (f x)=enc' x){B:Nat}{v:Value}{xs:List β}:
 xp enc w B v (xs.map f)↔xp enc' w B v xs:=by
 constructor
 ·rintro⟨a,d,rfl,c,h⟩;refine⟨a,d,by simp,by simpa using c,fun k x hk=>?_⟩;have:=h k (f x) (by simp[hk])
  rwa [hf] at this
 ·rintro⟨a,d,rfl,c,h⟩;refine⟨a,d,by simp,by simpa using c,fun k x hk=>?_⟩;simp only[Jr,Oz] at hk;obtain⟨y,g,rfl⟩:=hk;rw[hf];exact h k y g
def aaB {α:Type}(enc:α->Value)(w:World)(B:Nat)(v:Value)(g:List (List α)):Prop:=
 ∃vs:List Value,xp id w B v vs/\vs.length=g.length/\∀(k:Nat) (rv:Value) (row:List α),vs[k]? =some rv->g[k]? =some row->xp enc w B rv row
theorem aaB.below{α:Type}{enc:α->Value}{B:Nat}{v:Value}{g:List (List α)}(h:aaB enc w B v g)(hb:Below B w w'):aaB enc w' B v g:=by
 obtain⟨vs,f,d,c⟩:=h;exact⟨vs,f.below hb,d,fun k rv row a b=>(c k rv row a b).below hb⟩
theorem aaB.mono{α:Type}{enc:α->Value}{B:Nat}{v:Value}{g:List (List α)}(h:aaB enc w B v g)(hb:B<=B'):aaB enc w B' v g:=by
 obtain⟨vs,f,d,c⟩:=h;exact⟨vs,f.mono hb,d,fun k rv row a b=>(c k rv row a b).mono hb⟩
theorem aaB.form{α:Type}{enc:α->Value}{B:Nat}{v:Value}{g:List (List α)}(h:aaB enc w B v g):∃a cap,v=.slice a g.length cap/\g.length<=cap:=by
 obtain⟨vs,⟨a,cap,rfl,d,_⟩,c,_⟩:=h;exact⟨a,cap,by rw[c],by omega⟩
theorem aaB.row{α:Type}{enc:α->Value}{B:Nat}{a:Option Addr}{len l:Nat}{g:List (List α)}(h:aaB enc w B (.slice a len l) g){row:List α}(hk:g[k]? =some row):
 ∃b o a2 cap2,a=some ⟨b,o,none⟩/\b<B/\O w b (o+k) (.slice a2 row.length cap2)/\row.length<=cap2/\∀j x,row[j]? =some x->∃b2 o2,a2=some ⟨b2,o2,none⟩/\b2<B/\O w b2 (o2+j) (enc x):=by
 obtain⟨vs,⟨a',a0,hv,_,m⟩,h2,y⟩:=h;cases hv;have d:k<vs.length:=by rw[h2];exact(Jh.1 hk).1
 obtain⟨b,o,t,u,q⟩:=m k _ (Jd d);obtain⟨a2,cap2,i,c,f⟩:=y k _ row (Jd d) hk;refine⟨b,o,a2,cap2,t,u,?_,c,f⟩;rw[q,<-i];rfl
theorem aaB.map{α β:Type}{enc:α->Value}{enc':β->Value}(f:β->α)(hf:∀x,enc (f x)=enc' x){B:Nat}{v:Value}{g:List (List β)}:
 aaB enc w B v (g.map (List.map f))↔aaB enc' w B v g:=by
 constructor
 ·rintro⟨vs,h,d,c⟩;exact⟨vs,h,by simpa using d,fun k rv row a b=>(xp.map f hf).1 (c k rv _ a (by simp[b]))⟩
 ·rintro⟨vs,h,d,c⟩;refine⟨vs,h,by simpa using d,fun k rv row a b=>?_⟩;simp only[Jr,Oz] at b;obtain⟨y,i,rfl⟩:=b;exact(xp.map f hf).2 (c k rv y a i)
theorem zI{B:Nat}(h:W.heap.size=B):(W.alloc o).heap[B]? =some o:=by subst h;exact heap_alloc_new W o
theorem zB{o':Obj}{b:Nat}(h:W.heap[b]? =some o'):(W.alloc o).heap[b]? =some o':=(Below.heap_alloc W o b (lt_of_block h)).trans h
theorem zL{row:Option Nat}{b:Nat}(hg:W.grownBy w1 row)(hk:W.heap[b]? =some o)(c:row≠some b):w1.heap[b]? =some o:=(hg.block b (lt_of_block hk) (Ne.symm c)).trans hk
theorem zR{b:Nat}{a:Addr}{u:Value}(h:W.heap[b]? =some o)(c:b≠a.block):(W.setCell a u).heap[b]? =some o:=(Below.heap_setCell _ _ _ _ c).trans h
theorem zH{B:Nat}{b:Nat}(hb:Below B W W')(h:W.heap[b]? =some o)(c:b<B):W'.heap[b]? =some o:=(hb.block b c).trans h
theorem zC{b:Nat}{e t:TypeId}{size n:Nat}{v:Value}{cs:Array Value}(h:w.ownsRow c e size v n xs)(hb:T w b cs t)(hne:b<c∨e≠t):v.ownBlock≠some b:=by
 rcases h.2 with⟨rfl,_⟩|⟨g,i,f,rfl,hg,d,_⟩
 ·simp[Value.ownBlock]
 ·simp only[Value.ownBlock,ne_eq,Option.some.injEq];rintro rfl;rw[d] at hb;rcases hne with hne|hne
  ·omega
  ·exact hne (by simpa using congrArg (fun o=>match o with|some (Obj.cells _ t _)=>t|_=>0) hb)
theorem zo{e e':TypeId}{size n n':Nat}{v:Value}{f:List Value}(h:w.ownsRow d e size v n xs)(k:w.ownsRow base' e' c v' n' f)(i:e≠e'):v.ownBlock=none∨v.ownBlock≠v'.ownBlock:=by
 rcases h.2 with⟨rfl,_⟩|⟨g,m,l,rfl,hg,j,_⟩
 ·exact .inl rfl
 ·right;intro e1;exact zC k j (.inr (Ne.symm i)) e1.symm
theorem zD{b:Nat}{cs:Array Value}{t:TypeId}(h:T w b cs t)(u:Value):T (w.setCell ⟨b,i,none⟩ u) b (cs.setIfInBounds i u) t:=by
 have c:=lt_of_block h;have d:w.heap[b]=U cs t:=by simpa[Array.getElem?_eq_getElem c] using h
 show(w.heap.modify b _)[b]? =_
 rw[Array.getElem?_eq_getElem (by simpa using c),Array.getElem_modify_self,d];rfl
theorem zA{b:Nat}{cs:Array Value}{t:TypeId}{v:Value}(h:T w b cs t)(hi:cs[i]? =some v):O w b i v:=by simp[World.cell?,h,hi]
theorem zE{b:Nat}{cs:Array Value}{t:TypeId}(h:T w b cs t):Y w b i:=by simp[World.frozen?,h]
theorem vY{e:TypeId}{size n:Nat}{v:Value}(h:w.ownsRow c e size v n xs)(hb:base'<=c):w.ownsRow base' e size v n xs:=by
 refine⟨h.1,?_⟩;rcases h.2 with i|⟨g,f,d,rfl,hg,r⟩
 ·exact .inl i
 ·exact .inr ⟨g,f,d,rfl,by omega,r⟩
theorem zG{e:TypeId}{size n:Nat}{v:Value}(h:w.ownsRow c e size v n xs):∃a cap,v=.slice a n cap:=by
 rcases h.2 with⟨rfl,rfl⟩|⟨g,cap,d,rfl,_⟩
 ·exact⟨none,0,rfl⟩
 ·exact⟨_,cap,rfl⟩
theorem zm{f:Nat}{e:TypeId}{size n m:Nat}{a:Option Addr}(h:w.ownsRow f e size (.slice a m d) n xs):m<=d/\d<=9223372036854775807:=by
 rcases h.2 with⟨hv,_⟩|⟨g,c,j,hv,_,_,k,i,_⟩
 ·cases hv;omega
 ·cases hv;unfold maxLen at i;omega
theorem ji{e:TypeId}{size n:Nat}{v:Value}(h:w.ownsRow c e size v n xs):(w.drewN k).ownsRow c e size v n xs:=h
theorem kg{b:Nat}{o:Option Obj}(h:w.heap[b]? =o):(w.drewN k).heap[b]? =o:=h
theorem yC{B:Nat}(h:Below B w w'):Below B w (w'.drewN k):=⟨h.os,h.tape,h.output,h.size,h.block⟩
theorem jc{b:Nat}{v:Value}{t t':TypeId}(h:T w b #[v] t)(c:T w b #[v'] t'):v=v':=by
 rw[h] at c;simp only[Option.some.injEq,Obj.cells.injEq] at c;simpa using c.1
theorem nJ{row:Option Nat}(h:W.grownBy W' row):W.grownBy W'.drew row:=⟨h.os,h.tape,h.output,h.size,h.block⟩
theorem oI (W:World)(row:Option Nat):W.grownBy W row:=⟨rfl,rfl,rfl,Je _,fun _ _ _=>rfl⟩
theorem yL (B:Nat)(w:World)(n:Nat):Below B w (w.drewN n):=⟨rfl,rfl,rfl,Je _,fun _ _=>rfl⟩
theorem jU{b o:Nat}{v:Value}(h:O w b o v):b<w.heap.size:=Jw w _ h
theorem bcell(hb:Q W w1):(∀b o,b<W.heap.size->w1.cell? ⟨b,o,none⟩=W.cell? ⟨b,o,none⟩)/\(∀b o,b<W.heap.size->w1.frozen? ⟨b,o,none⟩=W.frozen? ⟨b,o,none⟩):=
 ⟨fun b o h=>hb.cell (p:=⟨b,o,none⟩) h,fun b o h=>hb.frozen (p:=⟨b,o,none⟩) h⟩
theorem zh {k:IntKind}{a b:Int}(h:a=b):Ending.returned (.int k a)=.returned (.int k b):=by rw[h]
theorem rH {a b:Bool}(h:a=b):Ending.returned (.bool a)=.returned (.bool b):=by rw[h]
def I64 (x:Int):Prop:=-9223372036854775808<=x/\x<=9223372036854775807
def wz (n:Nat):Value:=.int .u8 (n:Int)
def vL (n:Nat):Value:=M n
theorem p7{e:TypeId}{size n:Nat}{v:Value}(h:w.ownsRow c e size v n xs)(hb:Below C w w')(k:w.heap.size<=C):w'.ownsRow c e size v n xs:=by
 refine⟨h.1,?_⟩;rcases h.2 with j|⟨g,i,f,rfl,hg,d,r⟩
 ·exact .inl j
 ·exact .inr ⟨g,i,f,rfl,hg,zH hb d (by have:=lt_of_block d;omega),r⟩
def yN {α:Type}(sz:Nat)(R:World->Nat->Nat->Nat->α->Prop)(w:World)(B:Nat)(v:Value)(xs:List α):Prop:=
 ∃(a:Option Addr) (cap:Nat),v=.slice a xs.length cap/\xs.length<=cap/\cap<=9223372036854775807/\∀(k:Nat) (x:α),xs[k]? =some x->∃b o,a=some ⟨b,o,none⟩/\b<B/\R w B b (o+k*sz) x
def vV {α:Type}(R:World->Nat->Nat->Nat->α->Prop):Prop:=(∀w w' B b q x,b<B->Below B w w'->R w B b q x->R w' B b q x)/\∀w B B' b q x,B<=B'->R w B b q x->R w B' b q x
theorem yN.below{α:Type}{sz:Nat}{R:World->Nat->Nat->Nat->α->Prop}(f:vV R){B:Nat}{v:Value}{xs:List α}(h:yN sz R w B v xs)(hb:Below B w w'):yN sz R w' B v xs:=by
 obtain⟨a,d,rfl,m,l,j⟩:=h;refine⟨a,d,rfl,m,l,fun k x hk=>?_⟩;obtain⟨b,o,i,c,g⟩:=j k x hk;exact⟨b,o,i,c,f.1 _ _ _ _ _ _ c hb g⟩
theorem yN.mono{α:Type}{sz:Nat}{R:World->Nat->Nat->Nat->α->Prop}(d:vV R){B:Nat}{v:Value}{xs:List α}(h:yN sz R w B v xs)(hb:B<=B'):yN sz R w B' v xs:=by
 obtain⟨a,c,rfl,l,j,i⟩:=h;refine⟨a,c,rfl,l,j,fun k x hk=>?_⟩;obtain⟨b,o,g,m,f⟩:=i k x hk;exact⟨b,o,g,by omega,d.2 _ _ _ _ _ _ hb f⟩
theorem yN.form{α:Type}{sz:Nat}{R:World->Nat->Nat->Nat->α->Prop}{B:Nat}{v:Value}{xs:List α}(h:yN sz R w B v xs):∃a cap,v=.slice a xs.length cap/\xs.length<=cap/\cap<=9223372036854775807:=
 let⟨a,cap,e,h1,h2,_⟩:=h;⟨a,cap,e,h1,h2⟩
theorem yN.get{α:Type}{sz:Nat}{R:World->Nat->Nat->Nat->α->Prop}{B:Nat}{a:Option Addr}{n:Nat}{xs:List α}(h:yN sz R w B (.slice a n c) xs){x:α}(hk:xs[k]? =some x):
 ∃b o,a=some ⟨b,o,none⟩/\b<B/\R w B b (o+k*sz) x:=by
 obtain⟨a',f,e,_,_,d⟩:=h;cases e;exact d k x hk
def IntR (w:World)(B b q:Nat)(x:Int):Prop:=O w b q (I x)/\I64 x
def U16R (w:World)(B b q:Nat)(x:Nat):Prop:=O w b q (M x)/\x<65536
def U8R (w:World)(B b q:Nat)(x:Nat):Prop:=O w b q (.int .u8 (x:Int))/\x<256
def StrR (w:World)(B b q:Nat)(x:ByteArray):Prop:=O w b q (.string x)/\x.size<=9223372036854775807
theorem zV{B:Nat}(hb:Below B w w'){b q:Nat}(c:b<B){v:Value}(h:O w b q v):O w' b q v:=(hb.cell (p:=⟨b,q,none⟩) c).trans h
theorem zO:vV IntR:=⟨fun w w' B b q x hB hb h=>⟨zV hb hB h.1,h.2⟩,fun w B B' b q x _ h=>h⟩
theorem zr:vV U16R:=⟨fun w w' B b q x hB hb h=>⟨zV hb hB h.1,h.2⟩,fun w B B' b q x _ h=>h⟩
theorem xQ:vV U8R:=⟨fun w w' B b q x hB hb h=>⟨zV hb hB h.1,h.2⟩,fun w B B' b q x _ h=>h⟩
theorem tN:vV StrR:=⟨fun w w' B b q x hB hb h=>⟨zV hb hB h.1,h.2⟩,fun w B B' b q x _ h=>h⟩
abbrev zY:=yN 1 IntR
abbrev wV:=yN 1 U16R
abbrev dL:=yN 1 U8R
abbrev adu:=yN 1 StrR
def ObjR (w:World)(B b q:Nat)(x:IObj):Prop:=
 O w b q (I x.bank)/\O w b (q+1) (M (x.addr:Int))/\O w b (q+2) (M (x.size:Int))/\I64 x.bank/\x.addr<65536/\x.size<65536
theorem tZ:vV ObjR:=⟨fun w w' B b q x hB hb h=>⟨zV hb hB h.1,zV hb hB h.2.1,zV hb hB h.2.2.1,h.2.2.2⟩,fun w B B' b q x _ h=>h⟩
abbrev kq:=yN 3 ObjR
def adz (w:World)(B b q:Nat)(x:IEdge):Prop:=
 O w b q (I x.block)/\I64 x.block/\∃av,O w b (q+1) av/\zY w B av x.args
theorem xL:vV adz:=
 ⟨fun w w' B b q x hB hb h=>by obtain⟨g,f,av,d,c⟩:=h;exact⟨zV hb hB g,f,av,zV hb hB d,c.below zO hb⟩,
  fun w B B' b q x hB h=>by obtain⟨g,f,av,d,c⟩:=h;exact⟨g,f,av,d,c.mono zO hB⟩⟩
abbrev wH:=yN 2 adz
def OpR (w:World)(B b q:Nat)(x:IOp):Prop:=
 O w b q (I x.code)/\O w b (q+1) (I x.res)/\O w b (q+2) (I x.a)/\O w b (q+3) (I x.b)/\O w b (q+4) (M (x.n:Int))/\
  (I64 x.code/\I64 x.res/\I64 x.a/\I64 x.b/\x.n<65536)/\∃av,O w b (q+5) av/\zY w B av x.args
theorem xA:vV OpR:=
 ⟨fun w w' B b q x hB hb h=>by obtain⟨l,k,j,i,g,f,av,d,c⟩:=h;exact⟨zV hb hB l,zV hb hB k,zV hb hB j,zV hb hB i,zV hb hB g,f,av,zV hb hB d,c.below zO hb⟩,
  fun w B B' b q x hB h=>by obtain⟨l,k,j,i,g,f,av,d,c⟩:=h;exact⟨l,k,j,i,g,f,av,d,c.mono zO hB⟩⟩
abbrev mN:=yN 6 OpR
def BlkR (w:World)(B b q:Nat)(x:IBlk):Prop:=
 O w b (q+2) (I x.term.kind)/\O w b (q+3) (I x.term.a)/\(I64 x.term.kind/\I64 x.term.a)/\
  ∃pv ov tv,O w b q pv/\O w b (q+1) ov/\O w b (q+4) tv/\zY w B pv x.params/\mN w B ov x.ops/\wH w B tv x.term.to
theorem yT:vV BlkR:=
 ⟨fun w w' B b q x hB hb h=>by obtain⟨m,l,k,pv,ov,tv,j,i,g,f,d,c⟩:=h;exact⟨zV hb hB m,zV hb hB l,k,pv,ov,tv,zV hb hB j,zV hb hB i,zV hb hB g,f.below zO hb,d.below xA hb,c.below xL hb⟩,
  fun w B B' b q x hB h=>by obtain⟨m,l,k,pv,ov,tv,j,i,g,f,d,c⟩:=h;exact⟨m,l,k,pv,ov,tv,j,i,g,f.mono zO hB,d.mono xA hB,c.mono xL hB⟩⟩
abbrev wX:=yN 5 BlkR
def FuncR (w:World)(B b q:Nat)(x:List IBlk):Prop:=∃bv,O w b q bv/\wX w B bv x
theorem vR:vV FuncR:=
 ⟨fun w w' B b q x hB hb h=>by obtain⟨bv,d,c⟩:=h;exact⟨bv,zV hb hB d,c.below yT hb⟩,
  fun w B B' b q x hB h=>by obtain⟨bv,d,c⟩:=h;exact⟨bv,d,c.mono yT hB⟩⟩
abbrev iS:=yN 1 FuncR
structure PV where
 fv:Value
 av:Value
 dv:Value
 bv:Value
structure ProgIn (w:World) (B:Nat) (V:PV) (p:IProg):Prop where
 funcs:iS w B V.fv p.funcs
 args:zY w B V.av p.args
 data:kq w B V.dv p.data
 banks:adu w B V.bv p.banks
 ent:I64 p.entry
 hnd:I64 p.handler
theorem ProgIn.below{B:Nat}{V:PV}{p:IProg}(h:ProgIn w B V p)(hb:Below B w w'):ProgIn w' B V p:=
 ⟨h.funcs.below vR hb,h.args.below zO hb,h.data.below tZ hb,h.banks.below tN hb,h.ent,h.hnd⟩
theorem ProgIn.mono{B:Nat}{V:PV}{p:IProg}(h:ProgIn w B V p)(hb:B<=B'):ProgIn w B' V p:=
 ⟨h.funcs.mono vR hb,h.args.mono zO hb,h.data.mono tZ hb,h.banks.mono tN hb,h.ent,h.hnd⟩
def OwnRows {α:Type}(enc:α->Value)(e eS:TypeId)(w:World)(B bp:Nat)(rows:List (List α)):Prop:=
 ∃vs:List Value,T w bp vs.toArray eS/\vs.length=rows.length/\(∀(k:Nat) (row:List α) (v:Value),rows[k]? =some row->vs[k]? =some v->w.ownsRow B e 1 v row.length (row.map enc))/\
  ∀(i j:Nat) (vi vj:Value),i≠j->vs[i]? =some vi->vs[j]? =some vj->vi.ownBlock=none∨vi.ownBlock≠vj.ownBlock
section
variable {α:Type} {enc:α->Value} {e eS:TypeId} {w:World} {B bp:Nat} {rows:List (List α)}
theorem OwnRows.made (n:Nat)(h:T w bp (List.replicate n (.slice none 0 0)).toArray eS):OwnRows enc e eS w B bp (List.replicate n []):=by
 refine⟨_,h,by simp,fun k row v h1 h2=>?_,fun i j vi vj _ h1 _=>?_⟩
 ·simp only[Nm] at h1 h2
  split at h1
  ·rw[if_pos ‹_›] at h2;cases h1;cases h2;exact Jv _ _ _ _
  ·cases h1
 ·simp only[Nm] at h1
  split at h1
  ·cases h1;exact .inl rfl
  ·cases h1
theorem OwnRows.blk (h:OwnRows enc e eS w B bp rows):∃c,T w bp c eS:=let⟨vs,h,_⟩:=h;⟨_,h⟩
theorem OwnRows.bplt (h:OwnRows enc e eS w B bp rows):bp<w.heap.size:=let⟨_,h⟩:=h.blk;lt_of_block h
theorem OwnRows.get (h:OwnRows enc e eS w B bp rows){s:Nat}{row:List α}(hs:rows[s]? =some row):
 ∃a cap,O w bp s (.slice a row.length cap)/\w.ownsRow B e 1 (.slice a row.length cap) row.length (row.map enc)/\Y w bp s:=by
 obtain⟨vs,d,g,f,i⟩:=h;have c:s<vs.length:=by rw[g];exact(Jh.1 hs).1
 have hv:=Jd c;have ho:=f s row _ hs hv;obtain⟨a,cap,e1⟩:=zG ho;refine⟨a,cap,zA d (by simp[hv,e1]),by rw[<-e1];exact ho,zE d⟩
theorem OwnRows.kept(h:OwnRows enc e eS w B bp rows){row:Option Nat}(hg:w.grownBy w' row)(hb:row≠some bp)(hr:∀k,row=some k->k<B):OwnRows enc e eS w' B bp rows:=by
 obtain⟨vs,i,f,c,d⟩:=h;refine⟨vs,zL hg i hb,f,fun k r v a b=>(c k r v a b).kept hg ?_,d⟩
 cases hk:v.ownBlock with
 |none=>exact .inl rfl
 |some g=>
  right;intro e1;have:=(c k r v a b).lt g hk;have:=hr g e1.symm;omega
theorem OwnRows.put(h:OwnRows enc e eS w B bp rows)(m:e≠eS){s:Nat}{row row':List α}(hs:rows[s]? =some row){a:Option Addr}{cap:Nat}(hc:O w bp s (.slice a row.length cap))
   {g H:Nat} (hg:(w.alloc o).grownBy w2 (Value.slice a row.length cap).ownBlock) (l:w2.ownsRow B e 1 (L g row'.length d) row'.length (row'.map enc))
 (hat:(Value.slice a row.length cap).ownBlock=some g∨g=H) (hH:w.heap.size<=H):
 OwnRows enc e eS (w2.setCell ⟨bp,s,none⟩ (L g row'.length d)) B bp (rows.set s row'):=by
 obtain⟨vs,x,h2,h3,h4⟩:=h;have f:s<vs.length:=by rw[h2];exact(Jh.1 hs).1
 have hv:=Jd f;have ho:=h3 s row _ hs hv
 have a3:vs[s]=.slice a row.length cap:=by
  have u:=zA (i:=s) x (v:=vs[s]) Zs;rw[u] at hc;exact Nt hc
 rw[a3] at ho hv;have a4:=zC ho x (.inr m);have a1:=zL hg (zB x) a4
 have t:∀(k:Nat) (v:Value),k≠s->vs[k]? =some v->v.ownBlock≠some bp/\(∀r,rows[k]? =some r->(w2.setCell ⟨bp,s,none⟩ (L g row'.length d)).ownsRow B e 1 v r.length (r.map enc))/\(v.ownBlock=none∨v.ownBlock≠some g):=by
  intro k v hk c;have a5:k<rows.length:=by rw[<-h2];exact(Jh.1 c).1
  have y:=h3 k _ v (Jd a5) c;have hn:=zC y x (.inr m);refine⟨hn,fun r hr=>?_,?_⟩
  ·have a2:=h3 k r v hr c;have a6:=(a2.alloc o).kept hg (h4 k s v _ hk c hv);exact ownsRow_setCell_other a6 (by simpa using hn) _
  ·rcases hat with hat|hat
   ·rw[<-hat];exact h4 k s v _ hk c hv
   ·right;intro e1;have:=(y.lt g e1).2;omega
 refine⟨vs.set s (L g row'.length d),?_,by simp[h2],fun k r v hr c=>?_,fun i j vi vj hij hi hj=>?_⟩
 ·rw[zD a1];simp
 ·by_cases hk:s=k
  ·subst hk;rw[Nn Zo] at hr;rw[Nn f] at c;cases hr;cases c;exact ownsRow_setCell_other l (zC (b:=bp) l a1 (.inr m)) _
  ·rw[Ns hk] at hr c;exact(t k v (Ne.symm hk) c).2.1 r hr
 ·by_cases q:s=i
  ·subst q;rw[Nn f] at hi;rw[Ns hij] at hj;cases hi;rcases(t j vj (Ne.symm hij) hj).2.2 with u|u
   ·right;rw[u];simp[Value.ownBlock]
   ·right;exact Ne.symm u
  ·rw[Ns q] at hi
   by_cases a0:s=j
   ·subst a0;rw[Nn f] at hj;cases hj;exact(t i vi (Ne.symm q) hi).2.2
   ·rw[Ns a0] at hj;exact h4 i j vi vj hij hi hj
theorem OwnRows.asRows(h:OwnRows enc e eS w B bp rows)(hC:w.heap.size<=C):aaB enc w C (L bp rows.length rows.length) rows:=by
 obtain⟨vs,f,d,q,h4⟩:=h;have hb:=lt_of_block f;refine⟨vs,⟨_,rows.length,by rw[d],by omega,fun k x hk=>⟨bp,0,rfl,by omega,zA f (by simpa using hk)⟩⟩,d,fun k rv row hk hr=>?_⟩;have ho:=q k row rv hr hk;rcases ho.2 with⟨rfl,i⟩|⟨g,l,a0,rfl,hg,o,c,y,u,m⟩
 ·exact⟨none,0,by rw[i],by omega,fun j x hj=>by rw[Nz i] at hj;simp at hj⟩
 ·refine⟨_,l,rfl,c,fun j x hj=>⟨g,0,rfl,by have:=lt_of_block o;omega,?_⟩⟩;have t:=(Jh.1 hj).1;rw[Ng];exact(ho.cellAt j Zo).trans (by simp[hj])
end
theorem rY{α:Type}{enc:α->Value}{e:TypeId}{B:Nat}{v:Value}{xs:List α}(ho:w.ownsRow B e 1 v xs.length (xs.map enc))(q:w.heap.size<=C):xp enc w C v xs:=by
 rcases ho.2 with⟨rfl,d⟩|⟨g,f,o,rfl,hg,i,c,m,l,h⟩
 ·exact⟨none,0,by rw[d],by omega,fun j x hj=>by rw[Nz d] at hj;simp at hj⟩
 ·refine⟨_,f,rfl,c,fun j x hj=>⟨g,0,rfl,by have:=lt_of_block i;omega,?_⟩⟩;have k:=(Jh.1 hj).1;rw[Ng];exact(ho.cellAt j Zo).trans (by simp[hj])
def okS (n:Nat)(s:Int):Bool:=decide (0<=s) && decide (s<(n:Int))
theorem tm {α:Type}(p:α->Bool)(l:List α)(k:Nat)(x:α)(h:l[k]? =some x)(hp:(l.take k).all p=true)(c:p x=true):(l.take (k+1)).all p=true:=by
 rw[Nh,h];simp[hp,c]
theorem vU {α:Type}(p:α->Bool)(l:List α)(k:Nat)(x:α)(h:l[k]? =some x)(c:p x=false):l.all p=false:=by
 rw[Um];exact⟨x,Ji h,by simp[c]⟩
theorem lR (w:World)(sv:Value)(g:List (List Int))(B:Nat)(hB:B<=w.heap.size)(h:aaB zN w B sv g)(hn:g.length<=2000000)(hr:∀row∈g,row.length<=2000000):
 A 51 #[.agg #[sv]] w fun e w'=>e=.returned (.bool (decide (0<g.length) && pB g))/\Q w w':=by
 obtain⟨a,y,rfl,b1⟩:=h.form;have HR:=Ja hr;clear hr;have c:Q w (w.alloc (U #[.slice a g.length y] 75)):=(Below.refl _ _).alloc (Je _) _;go_enter Try.func51,Try.ntmps51;go_wp2
 go_loop [10] (fun i=>∃k:Nat,k<=g.length/\i=I k/\(g.take k).all (fun l=>l.all (okS g.length))=true) (fun i=>g.length-(intOf i).toNat)
 case atStart=>exact⟨0,Jt _,rfl,by simp⟩
 case round=>
  obtain⟨k,hk,rfl,u⟩:=hrel;have HA:=Ja u;clear u
  by_cases a5:k<g.length
  ·obtain⟨row,d⟩:∃row,g[k]? =some row:=⟨_,Jd a5⟩
   obtain⟨b,o,a2,a4,rfl,hb,hc,a6,hx⟩:=h.row d;have hrl:=HR.out row (Ji d);have b6:O (w.alloc (U #[.slice (some ⟨b,o,none⟩) g.length y] 75)) b (o+k) (.slice a2 row.length a4):=(c.cell (p:=⟨b,o+k,none⟩) (show b<w.heap.size by omega)).trans hc;have f:=Ja d;clear d;have HX:=Ja hx;clear hx h hc;have b0:(k:Int)<g.length:=Zo;go_wp2
   go_loop [16] (fun i=>∃j:Nat,j<=row.length/\i=I j/\(row.take j).all (okS g.length)=true) (fun i=>row.length-(intOf i).toNat)
   case atStart=>exact⟨0,Jt _,rfl,by simp⟩
   case round=>
    obtain⟨j,hj,rfl,m⟩:=hrel;have a1:=Ja m;clear m
    by_cases a3:j<row.length
    ·obtain⟨x,q⟩:∃x,row[j]? =some x:=⟨_,Jd a3⟩
     obtain⟨b2,o2,rfl,b7,t⟩:=HX.out j x q;simp only[zN] at t;have b5:O (w.alloc (U #[.slice (some ⟨b,o,none⟩) g.length y] 75)) b2 (o2+j) (I x):=(c.cell (p:=⟨b2,o2+j,none⟩) (show b2<w.heap.size by omega)).trans t;have a0:=Ja q;clear q t;have a9:(j:Int)<row.length:=Zo
     by_cases b4:x<0
     ·have hf:pB g=false:=vU _ g k row f.out (vU _ row j x a0.out (by simp[okS];omega));have HF:=Ja hf;clear hf;go_wp2;go_ret;exact⟨by rw[HF.out];simp,c⟩
     ·by_cases b3:x<g.length
      ·go_wp2
       go_round
       case rel=>exact⟨j+1,by omega,by go_num,tm _ row j x a0.out a1.out (by simp[okS];omega)⟩
       case measure=>simp[intOf];omega
      ·have hf:pB g=false:=vU _ g k row f.out (vU _ row j x a0.out (by simp[okS];omega));have HF:=Ja hf;clear hf;go_wp2;go_ret;exact⟨by rw[HF.out];simp,c⟩
    ·go_wp2
     go_round
     case rel=>exact⟨k+1,by omega,by go_num,tm _ g k row f.out HA.out (by have:=a1.out;rwa [Oy Zo] at this)⟩
     case measure=>simp[intOf];omega
  ·have hf:pB g=true:=by have:=HA.out;rwa [Oy Zo] at this
   have HF:=Ja hf;clear hf;go_wp2;go_ret;exact⟨by rw[HF.out];simp,c⟩
def um (stk:List (Nat×Nat)):List Value:=stk.flatMap fun p=> [zj p.1,zj p.2]
theorem vH (c:List (Nat×Nat))(u j:Nat):um (c++ [(u,j)])=um c++ [zj u,zj j]:=by simp[um]
theorem yK (c:List (Nat×Nat)):(um c).length=2*c.length:=by
 induction c with
 |nil=>rfl
 |cons p r ih=>simp only[um,Qa,Jk,Nq,Ow] at ih ⊢;omega
structure Dfs (w0 w:World) (B0 n Bv Bs Bk:Nat) (seen:List Bool) (stk:List (Nat×Nat)) (pv:Value) (post:List Nat):Prop where
 hv:w.heap[Bv]? =some (.cells #[.slice (some ⟨Bs,0,none⟩) n n] 67 (0,0))
 hs:w.heap[Bs]? =some (.cells (seen.map og).toArray 4 (0,0))
 hl:seen.length=n
 hk:∃sv,w.heap[Bk]? =some (.cells #[sv] 86 (0,0))/\w.ownsRow (Bk+1) 88 2 sv stk.length (um stk)
 lt:B0<=Bs/\Bs<Bv/\Bv<Bk
 hp:w.ownsRow (Bk+1) 3 1 pv post.length (post.map zj)
 hb:Below B0 w0 w
theorem Dfs.drewN{n:Nat}{c:List (Nat×Nat)}(h:Dfs w0 w B0 n Bv Bs Bk seen c pv post):Dfs w0 (w.drewN k) B0 n Bv Bs Bk seen c pv post:=
 ⟨h.hv,h.hs,h.hl,h.hk,h.lt,h.hp,yC h.hb⟩
theorem Dfs.push{n:Nat}{d:List (Nat×Nat)}{f:Value}{c:List Nat}(h:Dfs w0 w B0 n Bv Bs Bk seen d pv c)
 (hg:(w.alloc o).grownBy w2 pv.ownBlock) (i:w2.ownsRow (Bk+1) 3 1 f (c.length+1) (c.map zj++ [zj u])):Dfs w0 w2 B0 n Bv Bs Bk seen d f (c++ [u]):=by
 obtain⟨hv,hs,hl,⟨sv,hk,g⟩,j,hp,hb⟩:=h;have l:=lt_of_block hk
 refine⟨zL hg (zB hv) (zC hp hv (.inl Zo)),zL hg (zB hs) (zC hp hs (.inl Zo)),hl,
  ⟨sv,zL hg (zB hk) (zC hp hk (.inl Zo)),(g.alloc o).kept hg (zo g hp Zd)⟩,j,?_,?_⟩
 ·simpa using i
 ·exact Below.grown (hb.alloc Zo o) hg Zt (fun k hk'=>by have:=hp.lt k hk';omega)
theorem Dfs.popStk{n:Nat}{st:List (Nat×Nat)}(h:Dfs w0 w B0 n Bv Bs Bk seen (st++ [(u,j)]) pv post)
 (hc:T w Bk #[L gk (st.length+1) cp] 86):Dfs w0 (w.setCell ⟨Bk,0,none⟩ (L gk st.length cp)) B0 n Bv Bs Bk seen st pv post:=by
 obtain⟨hv,hs,hl,⟨sv,hk,c⟩,g,hp,hb⟩:=h;obtain rfl:=jc hk hc;simp only[Jk,Nq,Ow,Ng,vH] at c;refine⟨zR hv (show Bv≠Bk by omega),zR hs (show Bs≠Bk by omega),hl,⟨_,one_setCell hk,?_⟩,g,ownsRow_setCell_other hp (zC (b:=Bk) hp hk (.inl Zo)) _,hb.setCell (show B0<=Bk by omega) _⟩;have h1:=ownsRow_setCell_other c (a:=⟨Bk,0,none⟩) (zC (b:=Bk) c hk (.inl Zo)) (L gk st.length cp);obtain⟨x,y⟩:=h1;refine⟨by rw[yK];omega,.inr ?_⟩;rcases y with⟨t,_⟩|⟨g',a0,q,f,k,i,a1,o,m,d⟩
 ·cases t
 ·cases f;refine⟨gk,cp,q,rfl,k,i,by omega,o,m,?_⟩;have:=congrArg (List.take (st.length*2)) d;rw[List.take_take,Ud Zo,List.take_append_of_le_length (by rw[yK];omega),Oy (l:=um st) (by rw[yK];omega)] at this;exact this
theorem Dfs.bump{n:Nat}{st:List (Nat×Nat)}(h:Dfs w0 w B0 n Bv Bs Bk seen (st++ [(u,j)]) pv post)
 (i:T w Bk #[L gk (st.length+1) cp] 86):Dfs w0 (w.setCell ⟨gk,st.length*2+1,none⟩ (zj (j+1))) B0 n Bv Bs Bk seen (st++ [(u,j+1)]) pv post:=by
 obtain⟨hv,hs,hl,⟨sv,hk,c⟩,g,hp,hb⟩:=h;obtain rfl:=jc hk i;simp only[Jk,Nq,Ow,Ng,vH] at c;have k:=c.lt gk rfl;have f:=zo hp c Zd;refine⟨zR hv (show Bv≠gk by omega),zR hs (show Bs≠gk by omega),hl,⟨_,zR hk (show Bk≠gk by omega),?_⟩,g,ownsRow_setCell_other hp ?_ _,hb.setCell (show B0<=gk by omega) _⟩
 ·have:=(c.stored (st.length*2+1) (zj (j+1))).1;simp only[Jk,Nq,Ow,Ng,vH] at this ⊢
  have e:(um st++ [zj u,zj j]).set (st.length*2+1) (zj (j+1))=um st++ [zj u,zj (j+1)]:=by
   rw[Uj _ _ (by rw[yK];omega),yK,show st.length*2+1-2*st.length=1 by omega];rfl
  rw[e] at this;exact this
 ·rcases f with d|d
  ·rw[d];simp
  ·exact d
theorem Try.info_frame:(Try.prog.info? 88).map (fun i=>(i.zero,i.size,i.bytes))=some (some (.agg #[I 0,I 0]),2,16):=by kernel_rfl
theorem Try.info_int:(Try.prog.info? 3).map (fun i=>(i.zero,i.size,i.bytes))=some (some (I 0),1,8):=by kernel_rfl
theorem Try.info_bool:(Try.prog.info? 4).map (fun i=>(i.zero,i.size,i.bytes))=some (some (.bool false),1,1):=by kernel_rfl
theorem oF (w0 w:World)(B0 n Bv Bs Bk:Nat)(seen:List Bool)(d:List (Nat×Nat))(pv:Value)(post:List Nat)(u:Nat)(h:Dfs w0 w B0 n Bv Bs Bk seen d pv post)(hu:u<n)(hm:d.length<=2000000):
 A 52 #[I u,G Bv,G Bk] w fun e w'=>e=.returned (.tuple #[])/\Dfs w0 w' B0 n Bv Bs Bk (seen.set u true) (d++ [(u,0)]) pv post:=by
 obtain⟨i0,hi,a3,a2,a1⟩:=info_parts Try.info_frame;obtain⟨hv,hs,hl,⟨sv,hk,l⟩,a5,hp,m⟩:=h;have cv:=cell_of_one hv;obtain⟨b0,y⟩:∃b0,seen[u]? =some b0:=⟨_,Jd Zo⟩
 have cs:O w Bs u (.bool b0):=zA hs (by simp[y,og]);have fs:Y w Bs u:=zE hs;have HV:Hid ((w.setCell ⟨Bs,u,none⟩ (.bool true)).heap[Bv]? =_):=zR hv (show Bv≠Bs by omega);have j:(w.setCell ⟨Bs,u,none⟩ (.bool true)).heap[Bk]? =_:=zR hk (show Bk≠Bs by omega);have HS:Hid ((w.setCell ⟨Bs,u,none⟩ (.bool true)).heap[Bs]? =_):=zD hs (.bool true);have b7:=cell_of_one j;have own1:(w.setCell ⟨Bs,u,none⟩ (.bool true)).ownsRow (Bk+1) 88 2 sv d.length (um d):=ownsRow_setCell_other l (zC (b:=Bs) l hs (.inl Zo)) _;have t:(w.setCell ⟨Bs,u,none⟩ (.bool true)).ownsRow (Bk+1) 3 1 pv post.length (post.map zj):=ownsRow_setCell_other hp (zC (b:=Bs) hp hs (.inl Zo)) _;have HB:Hid (Bk+1<=(w.setCell ⟨Bs,u,none⟩ (.bool true)).heap.size):=lt_of_block j;have a0:=Ja (m.setCell (p:=⟨Bs,u,none⟩) (show B0<=Bs by omega) (.bool true));have HK:=Ja j;have HP:=Ja t;clear hs hv y hk j hp t m;go_enter Try.func52,Try.ntmps52;go_wp2_with (at_builtin;go_must (refine wpList_append_lies _ rfl (.tmp 7) (.tmp 10) 86 rfl (Bk+1) 88 i0 _ 2 16 Try.underlying86 hi a3 a2 a1 rfl Zd sv d.length (um d) rfl (own1.alloc _) ⟨w.heap.size,0,none⟩ 1 1 [I u,I 0] rfl rfl (Oi (cs:=#[I u,I 0]) (zI Zs)) (by simp[Value.oneCell']) Zd (by unfold maxLen;omega) Zo (by have:=HB.out;simp at this ⊢;omega) _ rfl ?_;intro g a9 w1 f c b4 b3;have i:=zL c (zB HK.out) (zC own1 HK.out (.inl Zo));have b6:=cell_of_one i;have b5:=free_of_one i;have o:=Ja i;have b1:=Ja (zL c (zB HV.out) (zC own1 HV.out (.inl Zo)));have b2:=Ja (zL c (zB HS.out) (zC own1 HS.out (.inl Zo)));clear i))
 go_end0
 have a4:=zo HP.out own1 Zd;have q:=(HP.out.alloc (U #[I u,I 0] 88)).kept c a4;have a6:=HB.out;refine⟨rfl,⟨?_,?_,by simp[hl],⟨_,one_setCell o.out,?_⟩,a5,?_,?_⟩⟩
 ·exact zR b1.out (show Bv≠Bk by omega)
 ·rw[zR b2.out (show Bs≠Bk by omega)];refine congrArg some (congrArg (fun x=>Obj.cells x _ _) ?_);simp[Ox,og]
 ·have:=ownsRow_setCell_other f (a:=⟨Bk,0,none⟩) (zC (b:=Bk) f o.out (.inl Zo)) (L g (d.length+1) a9);rw[vH,Jk];exact this
 ·exact ownsRow_setCell_other q (zC (b:=Bk) q o.out (.inl Zo)) _
 ·refine Below.setCell (Below.grown (a0.out.alloc Zo _) c (by simp at a6 ⊢;omega) ?_) (show B0<=Bk by omega) _;intro k hk;have:=own1.lt k hk;omega
def qT (xs ys:List Nat)(k:Nat):Prop:=ys.length=xs.length/\∀m,m<xs.length->ys[m]? =if m<k∨xs.length<=m+k then xs[xs.length-1-m]? else xs[m]?
theorem qT.start (xs:List Nat):qT xs xs 0:=⟨rfl,fun m hm=>by rw[if_neg Zo]⟩
theorem qT.step {xs ys:List Nat}{k j x y:Nat}(h:qT xs ys k)(t:k+j+1=xs.length)(q:k<j)(o:ys[k]? =some x)(l:ys[j]? =some y):qT xs ((ys.set k y).set j x) (k+1):=by
 obtain⟨i,f⟩:=h;refine⟨by simp[i],fun m hm=>?_⟩;have e1:=f k Zo;have e2:=f j Zo;rw[if_neg Zo] at e1 e2;rw[Ov]
 by_cases d:j=m
 ·subst d;rw[if_pos rfl,if_pos (by simp[i];omega),if_pos Zo,show xs.length-1-j=k by omega,<-e1,o]
 ·rw[if_neg d,Ov]
  by_cases c:k=m
  ·subst c;rw[if_pos rfl,if_pos Zo,if_pos Zo,show xs.length-1-k=j by omega,<-e2,l]
  ·rw[if_neg c,f m hm]
   by_cases g:m<k∨xs.length<=m+k
   ·rw[if_pos g,if_pos Zo]
   ·rw[if_neg g,if_neg Zo]
theorem qT.done{xs ys:List Nat}(h:qT xs ys k)(hk:xs.length<=2*k+1):ys=xs.reverse:=by
 obtain⟨f,d⟩:=h;apply Oq;intro m
 by_cases hm:m<xs.length
 ·rw[d m hm,List.getElem?_reverse hm]
  by_cases c:m<k∨xs.length<=m+k
  ·rw[if_pos c]
  ·rw[if_neg c];congr 1;omega
 ·rw[Of Zo,Of Zt]
theorem mK (w:World)(h:Nat)(v:Value)(xs:List Nat)(c:w.ownsRow h 3 1 v xs.length (xs.map zj))(hn:xs.length<=4000000):
 A 53 #[v] w fun e w'=>e=.returned (.tuple #[])/\w'.ownsRow h 3 1 v xs.length (xs.reverse.map zj)/\w.grownBy w' v.ownBlock:=by
 rcases c.2 with⟨rfl,h0⟩|⟨g,q,a4,rfl,hg,hh,_⟩
 ·have f:xs=[]:=Nz h0;subst f;go_enter Try.func53,Try.ntmps53;go_wp2;refine wp_loop_rounds 1 ?_;rw[rounds_succ];go_wp2
  go_end0
  exact⟨rfl,by simpa using c,⟨rfl,rfl,rfl,Je _,fun _ _ _=>rfl⟩⟩
 ·clear hh hg;have HO:=Ja c;clear c;go_enter Try.func53,Try.ntmps53;go_wp2
  go_loopw [2,3] (fun i j wr=>∃(k:Nat) (jj:Int),i=I k/\j=I jj/\Hid ((k:Int)+jj+1=xs.length)/\(k:Int)<=xs.length/\-1<=jj+k/\jj<=xs.length/\∃ys,Hid (qT xs ys k/\wr.ownsRow h 3 1 (L g xs.length q) xs.length (ys.map zj)/\w.grownBy wr (some g))) (fun i _ _=>xs.length-(intOf i).toNat)
  case atStart=>exact⟨0,(xs.length:Int)-1,rfl,rfl,by unfold Hid;omega,by omega,by omega,by omega,xs,qT.start xs,HO.out,⟨rfl,rfl,rfl,Je _,fun _ _ _=>rfl⟩⟩
  case round=>
   obtain⟨k,jj,rfl,rfl,o,hk,a3,a2,ys,d⟩:=hrel
   by_cases a1:(k:Int)<jj
   ·obtain⟨j,rfl⟩:∃j:Nat,jj=j:=⟨jj.toNat,by omega⟩
    have m:=d.out.1.1;have u:=o.out;obtain⟨x,f⟩:∃x,ys[k]? =some x:=⟨_,Jd Zo⟩
    obtain⟨y,l⟩:∃y,ys[j]? =some y:=⟨_,Jd Zo⟩
    have hr:=d.out.2.1;have g1:O wr g k (I x):=(hr.cellAt k Zo).trans (by simp[f,zj]);have g2:O wr g j (I y):=(hr.cellAt j Zo).trans (by simp[l,zj]);have f1:Y wr g k:=hr.frozenAt k;have f2:Y wr g j:=hr.frozenAt j;have a0:¬k=j:=Zo;have i1:(k:Int)<xs.length:=Zo;have i2:(j:Int)<xs.length:=Zo;have t:=Ja (Jb f l);clear m u f l hr;go_wp2
    go_region
    go_wp2;go_roundw
    case rel=>
     obtain⟨f,l⟩:=t.out;have m:=d.out.1.1;have s1:=d.out.2.1.stored k (zj y);have s2:=s1.1.stored j (zj x);refine⟨k+1,(j:Int)-1,by go_num,rfl,by have:=o.out;unfold Hid;omega,by omega,by omega,by omega,(ys.set k y).set j x,qT.step d.out.1 (by have:=o.out;omega) Zo f l,?_,?_⟩
     ·have:=s2.1;rw[<-Ox,<-Ox] at this;exact this
     ·exact nJ ((d.out.2.2.trans s1.2).trans s2.2)
    case measure=>simp[intOf];omega
   ·go_wp2
    go_end0
    have hd:=d.out.1.done (by have:=o.out;omega);subst hd;exact⟨rfl,by rw[<-List.map_reverse];exact d.out.2.1,d.out.2.2⟩
def fJ (w:World)(xs:List Nat)(e:Ending)(w':World):Prop:=∃v,e=.returned v/\w'.ownsRow w.heap.size 3 1 v xs.length (xs.map zj)/\Q w w'
theorem k8(hv:zw g):(decide (0<(g.map (List.map Int.ofNat)).length) && pB (g.map (List.map Int.ofNat)))=true:=by
 obtain⟨f,d⟩:=hv;simp only[Nr,Jm,decide_eq_true_eq,pB,Oe,Nu];refine⟨f,?_⟩;rintro _ ⟨l,hl,rfl⟩ s hs;simp only[Nu] at hs;obtain⟨x,c,rfl⟩:=hs;have:=d l hl x c;simp;omega
theorem rows_int{B:Nat}{v:Value}(h:aaB zj w B v g):aaB zN w B v (g.map (List.map Int.ofNat)):=(aaB.map (enc:=zN) (enc':=zj) Int.ofNat (fun _=>rfl)).2 h
theorem tK (w:World)(sv:Value)(g:List (List Nat))(B:Nat)(d:B<=w.heap.size)(h:aaB zj w B sv g)(hv:zw g)(c:g.length<=2000000)(hr:∀row∈g,row.length<=2000000):
 A 51 #[.agg #[sv]] w fun e w'=>e=.returned (.bool true)/\Q w w':=by
 have:=lR w sv (g.map (List.map Int.ofNat)) B d (rows_int h) (by simpa using c) (by intro row hm;simp only[Nu] at hm;obtain⟨l,hl,rfl⟩:=hm;simpa using hr l hl);rw[k8 hv] at this;exact this
theorem yA (z:Value)(n:Nat):madeCells #[z] n=(List.replicate n z).toArray:=by
 rw[<-toList_madeCells_one]
theorem iC (w1:World)(n:Nat):Dfs w1 (((w1.alloc (U (madeCells #[.bool false] n) 4)).alloc (U #[L w1.heap.size n n] 67)).alloc (U #[F] 86)) w1.heap.size n (w1.heap.size+1) w1.heap.size (w1.heap.size+1+1) (List.replicate n false) [] (.slice none 0 0) []:=by
 refine⟨zB (zI Zs),?_,by simp,⟨_,zI Zs,Jv _ _ _ _⟩,by omega,Jv _ _ _ _,?_⟩
 ·rw[zB (zB (zI rfl)),yA];simp[og]
 ·exact(((Below.refl _ _).alloc (Je _) _).alloc Zs _).alloc Zt _
structure DInv (g:List (List Nat)) (seen:List Bool) (stk:List (Nat×Nat)) (post:List Nat):Prop where
 len:seen.length=g.length
 cnt:seen.count true=stk.length+post.length
 node:∀p∈stk,p.1<g.length
 fin:∀u∈post,u<g.length
theorem tI (l:List Bool)(u:Nat)(h:l[u]? =some false):(l.set u true).count true=l.count true+1:=by
 induction l generalizing u with
 |nil=>simp at h
 |cons b r ih=>
  cases u with
  |zero=>simp at h;subst h;simp
  |succ u=>
   simp only[List.getElem?_cons_succ] at h;simp only[Jg,Nf,ih u h];omega
theorem DInv.start(hv:zw g):DInv g ((List.replicate g.length false).set 0 true) ([]++ [(0,0)]) []:=by
 refine⟨by simp,?_,by simp;exact hv.1,by simp⟩;rw[tI _ _ (by simp[Nm,hv.1])];simp[List.count_replicate]
theorem DInv.le{d:List (Nat×Nat)}{c:List Nat}(h:DInv g seen d c):d.length+c.length<=g.length:=by
 rw[<-h.cnt,<-h.len];exact List.count_le_length
theorem DInv.pop{st:List (Nat×Nat)}{d:List Nat}(h:DInv g seen (st++ [(u,j)]) d):DInv g seen st (d++ [u]):=
 ⟨h.len,by have:=h.cnt;simp at this ⊢;omega,fun p hp=>h.node p (by simp[hp]),fun x c=>by
   rcases Jl.1 c with c|c
   ·exact h.fin x c
   ·have:=h.node (u,j) Zs;simp at c;subst c;exact this⟩
theorem DInv.skip{st:List (Nat×Nat)}(h:DInv g seen (st++ [(u,j)]) post):DInv g seen (st++ [(u,j+1)]) post:=
 ⟨h.len,by have:=h.cnt;simp at this ⊢;omega,fun p hp=>by
   rcases Jl.1 hp with hp|hp
   ·exact h.node p (by simp[hp])
   ·have:=h.node (u,j) Zs;simp at hp;subst hp;exact this,h.fin⟩
theorem DInv.enter{c:List (Nat×Nat)}{s:Nat}(h:DInv g seen c post)(hs:seen[s]? =some false):DInv g (seen.set s true) (c++ [(s,0)]) post:=by
 have d:s<g.length:=by rw[<-h.len];exact(Jh.1 hs).1
 refine⟨by simp[h.len],by rw[tI _ _ hs,h.cnt];simp;omega,fun p hp=>?_,h.fin⟩;rcases Jl.1 hp with hp|hp
 ·exact h.node p hp
 ·simp at hp;subst hp;exact d
theorem lJ (w:World)(sv:Value)(g:List (List Nat))(B:Nat)(hB:B<=w.heap.size)(h:aaB zj w B sv g)(hv:zw g)(hn:g.length<=2000000)(hr:∀row∈g,row.length<=2000000)
 (k0:Nat) (F:List Nat) (hF:kV g k0 ((List.replicate g.length false).set 0 true) [(0,0)] [] F):
 A 21 #[.agg #[sv]] w (fJ w F.reverse):=by
 obtain⟨a,b5,rfl,f5⟩:=h.form;obtain⟨ii,d8,c9,c8,c7⟩:=info_parts Try.info_int;obtain⟨ib,g3,f0,e8,e7⟩:=info_parts Try.info_bool;have x:Q w (w.alloc (U #[.slice a g.length b5] 75)):=(Below.refl _ _).alloc (Je _) _;have HV:=Ja hv;have HR:=Ja hr;have HF:=Ja hF;clear hv hr hF;have d6:=run_make_row' (P:=Try.prog) 67 4 (.bool false) 1 Try.underlying67 Try.info_bool rfl .i64 .i64 g.length Zo Zo;go_enter Try.func21,Try.ntmps21;go_wp2_with (go_at_call 51;go_must (refine(tK _ _ g B Zt (h.below (x.mono hB)) HV.out hn HR.out).mono ?_;rintro e w1 ⟨rfl,y⟩;obtain⟨c4,c1⟩:=bcell y))
 have c3:Dfs w1 (((w1.alloc (U (madeCells #[.bool false] g.length) 4)).alloc (U #[L w1.heap.size g.length g.length] 67)).alloc (U #[.slice none 0 0] 86)) w1.heap.size g.length (w1.heap.size+1) w1.heap.size (w1.heap.size+1+1) (List.replicate g.length false) [] (.slice none 0 0) []:=iC w1 g.length;refine(oF w1 _ w1.heap.size g.length (w1.heap.size+1) w1.heap.size (w1.heap.size+1+1) (List.replicate g.length false) [] (.slice none 0 0) [] 0 c3 HV.out.1 Zd).mono ?_;rintro e w2 ⟨rfl,hd⟩;have HD:=Ja hd;clear hd c3 d6;go_wp2_with fail
 go_loopg [4] k0 (fun k pv wr=>∃seen stk c,Hid (Dfs w1 wr w1.heap.size g.length (w1.heap.size+1) w1.heap.size (w1.heap.size+1+1) seen stk pv c/\kV g k seen stk c F/\DInv g seen stk c))
 case atStart=>exact⟨_,_,_,HD.out,HF.out,DInv.start HV.out⟩
 case round=>
  obtain⟨seen,stk,c,i⟩:=hrel
  cases gk with
  |zero=>
   obtain⟨rfl,rfl⟩:=i.out.2.1;obtain⟨sv,hk,d⟩:=i.out.1.hk;obtain⟨a0,c0,rfl⟩:=zG d;have ck:=cell_of_one hk;simp only[Ow] at ck;have q:Q w w1:=x.trans (y.mono Zs);have d5:=q.size;have c5:=Ja (q.trans (i.out.1.hb.mono q.size));have b8:=i.out.2.2.le;clear hk d y c4 c1 x q h;go_wp2_with (go_at_call 53;go_must (refine(mK wr _ _ c i.out.1.hp Zo).mono ?_;rintro e w3 ⟨rfl,d1,e0⟩))
   go_ret;refine⟨_,rfl,?_,?_⟩
   ·have:=vY d1 (base':=w.heap.size) Zo
    simpa using this
   ·refine c5.out.grown e0 (by have:=c5.out.size;omega) (fun k hk=>?_);have:=i.out.1.hp.lt k hk
    omega
  |succ k=>
   obtain⟨st,u,j,rfl,b6⟩:=i.out.2.1;obtain⟨sv,hk,d⟩:=i.out.1.hk;simp only[Jk,Nq,Ow,Ng,vH] at d;obtain⟨gk,cp,rfl,g5,g4⟩:=d.form Zo;have g6:=(zm d).1;have f3:=(zm d).2;have f4:(st.length:Int)<=cp:=Zo;have d4:u<g.length:=i.out.2.2.node (u,j) Zs;obtain⟨row,a3⟩:∃row,g[u]? =some row:=⟨_,Jd d4⟩
   have q:Q w w1:=x.trans (y.mono Zs);have d5:=q.size;have b4:=q.trans (i.out.1.hb.mono q.size);obtain⟨b,o,a2,f9,rfl,hb,hc,e6,hx⟩:=(h.below (b4.mono hB)).row a3;have hrl:=HR.out row (Ji a3);have b8:=i.out.2.2.le;simp only[Jk,Nq,Ow] at b8;have ck:=cell_of_one hk;have fk:=free_of_one hk;have cu:O wr gk (st.length*2) (I u):=(d.cellAt _ Zo).trans (by rw[Nc (by rw[yK];omega)];simp[yK,Nat.mul_comm,zj]);have cj:O wr gk (st.length*2+1) (I j):=(d.cellAt _ Zo).trans (by rw[Nc (by rw[yK];omega)];simp[yK,show st.length*2+1-2*st.length=1 by omega,zj]);have fj:Y wr gk (st.length*2+1):=d.frozenAt _
   have g7:O wr w.heap.size 0 (.slice (some ⟨b,o,none⟩) g.length b5):=by
    have h1:(w.alloc (U #[.slice (some ⟨b,o,none⟩) g.length b5] 75)).heap[w.heap.size]? =_:=zI rfl;exact cell_of_one (zH i.out.1.hb (zH y h1 Zs) (by have:=y.size;simp at this;omega))
   have f1:(u:Int)<g.length:=Zo;have a6:=Ja a3;have g0:=Ja d;have HK:=Ja hk;have HX:=Ja hx;have h3:=Ja b4;clear a3 d hk hx b4 q x y c4 c1 h;rcases b6 with⟨hj,m⟩|⟨s,hs,f,m⟩|⟨s,hs,f,m⟩
   ·have b9:row.length=j:=by rw[hj];simp[succ,Jj,a6.out]
    have a9:((j:Int)==(row.length:Int))=true:=by simp[b9]
    have a1:=Ja m;have hp:=i.out.1.hp;have g1:=lt_of_block HK.out;clear b9 hj m;go_wp2_with fail;go_quiet (fail);have own43:∀n,(wr.drewN n).ownsRow (w1.heap.size+1+1+1) 3 1 _ c.length (c.map zj):=fun n=>ji hp
    go_wp2_with (at_builtin;go_must (refine wpList_append_lies _ rfl (.tmp 43) (.tmp 48) 25 rfl (w1.heap.size+1+1+1) 3 ii (I 0) 1 8 Try.underlying25 d8 c9 c8 c7 rfl Zd _ c.length (c.map zj) rfl ((own43 _).alloc _) ⟨wr.heap.size,0,none⟩ 1 1 [I u] rfl rfl (Oi (cs:=#[I u]) (zI Zs)) (by simp[Value.oneCell']) Zd (by unfold maxLen;omega) Zo Zt (wr.heap.size+1) Zs ?_;intro g2 f6 w2 b0 a4 g8 f2;have l:=(i.out.1.drewN (k:=nq)).push a4 b0;have b1:=zL a4 (zB (kg HK.out)) (zC hp HK.out (.inl Zo));have h2:=cell_of_one b1;have h0:=free_of_one b1;have e4:=Ja b1;have a5:=Ja l;clear b1 l b0 a4 hp own43))
    go_roundg k
    case measure=>omega
    case rel=>exact⟨seen,st,c++ [u],a5.out.popStk e4.out,a1.out,i.out.2.2.pop⟩
   ·have t:row[j]? =some s:=by rw[<-hs];simp[succ,Jj,a6.out]
    have d7:j<row.length:=(Jh.1 t).1;have a9:((j:Int)==(row.length:Int))=false:=by simp;omega
    have d2:(j:Int)<row.length:=Zo;obtain⟨b2,o2,rfl,e1,cs⟩:=HX.out j s t;simp only[zj] at cs;have l:∀n,Dfs w1 ((wr.drewN n).setCell ⟨gk,st.length*2+1,none⟩ (I ((j:Int)+1))) _ _ _ _ _ _ _ _ _:=fun n=>(i.out.1.drewN (k:=n)).bump HK.out
    have e2:=fun n=>cell_of_one (l n).hv
    have e3:∀n,O ((wr.drewN n).setCell ⟨gk,st.length*2+1,none⟩ (I ((j:Int)+1))) w1.heap.size s (.bool true):=fun n=>zA (l n).hs (by simp[f,og])
    have b7:s<g.length:=by rw[<-i.out.2.2.len];exact(Jh.1 f).1
    have d0:(s:Int)<g.length:=Zo;have a5:=Ja l;have a1:=Ja m;clear m hs f t l;go_wp2_with fail;go_quiet (fail);go_wp2_with fail
    go_roundg k
    case measure=>omega
    case rel=>exact⟨seen,st++ [(u,j+1)],c,a5.out _,a1.out,i.out.2.2.skip⟩
   ·have t:row[j]? =some s:=by rw[<-hs];simp[succ,Jj,a6.out]
    have d7:j<row.length:=(Jh.1 t).1;have a9:((j:Int)==(row.length:Int))=false:=by simp;omega
    have d2:(j:Int)<row.length:=Zo;obtain⟨b2,o2,rfl,e1,cs⟩:=HX.out j s t;simp only[zj] at cs;have l:∀n,Dfs w1 ((wr.drewN n).setCell ⟨gk,st.length*2+1,none⟩ (I ((j:Int)+1))) _ _ _ _ _ _ _ _ _:=fun n=>(i.out.1.drewN (k:=n)).bump HK.out
    have e2:=fun n=>cell_of_one (l n).hv
    have e3:∀n,O ((wr.drewN n).setCell ⟨gk,st.length*2+1,none⟩ (I ((j:Int)+1))) w1.heap.size s (.bool false):=fun n=>zA (l n).hs (by simp[f,og])
    have b7:s<g.length:=by rw[<-i.out.2.2.len];exact(Jh.1 f).1
    have d0:(s:Int)<g.length:=Zo;have b3:=i.out.2.2.skip.enter f;have a5:=Ja l;have a1:=Ja m;have d3:=Ja b3;clear m hs f t l b3;go_wp2_with fail;go_quiet (fail);go_wp2_with (go_at_call 52;go_must (refine(oF w1 _ w1.heap.size g.length (w1.heap.size+1) w1.heap.size (w1.heap.size+1+1) seen (st++ [(u,j+1)]) _ c s (a5.out _) b7 Zt).mono ?_;rintro e w2 ⟨rfl,c2⟩;have e5:=Ja c2;clear c2))
    go_roundg k
    case measure=>omega
    case rel=>exact⟨seen.set s true,st++ [(u,j+1)]++ [(s,0)],c,e5.out,a1.out,d3.out⟩
theorem rG{F:List Nat}:∀(k:Nat) (seen:List Bool) (stk:List (Nat×Nat)) (post:List Nat),kV g k seen stk post F->DInv g seen stk post->F.length<=g.length/\∀u∈F,u<g.length
 |0,seen,stk,post,h,hi=>by
  obtain⟨rfl,rfl⟩:=h
  exact⟨by have:=hi.le;simpa using this,hi.fin⟩
 |k+1,seen,stk,post,h,hi=>by
  obtain⟨st,u,j,rfl,⟨_,h⟩|⟨s,_,_,h⟩|⟨s,_,hs,h⟩⟩:=h
  ·exact rG k _ _ _ h hi.pop
  ·exact rG k _ _ _ h hi.skip
  ·exact rG k _ _ _ h (hi.skip.enter hs)
theorem tV.nodes{c:List Nat}(h:tV g c)(hv:zw g):c.length<=g.length/\∀u∈c,u<g.length:=by
 obtain⟨k,h⟩:=h;have:=rG k _ _ _ h (DInv.start hv)
 simpa using this
theorem tp (w:World)(sv:Value)(g:List (List Nat))(B:Nat)(f:B<=w.heap.size)(h:aaB zj w B sv g)(hv:zw g)(d:g.length<=2000000)(hr:∀row∈g,row.length<=2000000)(c:List Nat)(ho:tV g c):
 A 21 #[.agg #[sv]] w (fJ w c):=by
 obtain⟨k0,ho⟩:=ho;have:=lJ w sv g B f h hv d hr k0 _ ho
 rwa [List.reverse_reverse] at this
structure MK where
 E:IEnv
 V:PV
 inv:Value
 irqv:Value
 pm:Nat
 rb:Nat
 B:Nat
variable {K:MK}
def r9 (K:MK)(m:Mach)(ov:Value):Array Value:=
 #[K.V.fv,K.V.av,I K.E.p.entry,I K.E.p.handler,K.V.dv,K.V.bv,L K.rb 8192 8192,K.inv,K.irqv,I m.fuel,ov,I (m.inputs:Int),I (m.polls:Int)]
def qO (l:List (Nat×Nat)):List Value:=(l.map fun p=> [vL p.1,vL p.2]).flatten
structure MachAt (w:World) (K:MK) (m:Mach) (ov:Value):Prop where
 blk:w.heap[K.pm]? =some (.cells (r9 K m ov) 148 (0,0))
 ram:w.heap[K.rb]? =some (.cells (m.ram.map wz).toArray 5 (0,0))
 rlen:m.ram.length=8192
 rlt:∀x∈m.ram,x<256
 out:w.ownsRow K.B 173 2 ov m.out.length (qO m.out)
 olt:∀p∈m.out,p.1<65536/\p.2<65536
 obd:m.out.length+m.fuel.toNat<=4000000
 fuel:I64 m.fuel
 inp:m.inputs<=K.E.inn.length
 pol:m.polls<=K.E.irq.length
 gpm:K.B<=K.pm
 grb:K.B<=K.rb
 prog:ProgIn w K.B K.V K.E.p
 inn:wV w K.B K.inv K.E.inn
 irq:dL w K.B K.irqv K.E.irq
def sA:Obj->Prop
 |.cells _ t _=>t≠148/\t≠173/\t≠5
 |_=>True
structure Frm (B:Nat) (w w':World):Prop where
 below:Below B w w'
 kept:∀(k:Nat) (o:Obj),w.heap[k]? =some o->sA o->w'.heap[k]? =some o
theorem Frm.refl (B:Nat)(w:World):Frm B w w:=⟨Below.refl _ _,fun _ _ h _=>h⟩
theorem Frm.trans {B:Nat}{a b c:World}(h:Frm B a b)(k:Frm B b c):Frm B a c:=⟨h.below.trans k.below,fun i o hi hs=>k.kept i o (h.kept i o hi hs) hs⟩
theorem Frm.drewN{B n:Nat}{a:World}(h:Frm B a w):Frm B a (w.drewN n):=⟨yC h.below,h.kept⟩
theorem Frm.alloc{B:Nat}{a:World}(h:Frm B a w)(c:B<=a.heap.size)(o:Obj):Frm B a (w.alloc o):=⟨h.below.alloc (Jn c h.below.size) o,fun i o' hi hs=>zB (h.kept i o' hi hs)⟩
theorem Frm.set{B:Nat}{a:World}(h:Frm B a w){b:Nat}{cs:Array Value}{t:TypeId}(hb:T w b cs t)(d:B<=b)(ht:¬sA (U cs t))(u:Value):Frm B a (w.setCell ⟨b,i,none⟩ u):=
 ⟨h.below.setCell d u,fun k o hk hs=>by
   have c:=h.kept k o hk hs;refine zR c ?_;rintro rfl;rw[hb] at c
   exact ht (by rw[Nt c];exact hs)⟩
def oE (k i:Nat):PanicEntry:= {v:=.iface 151 (.agg #[I k,M i]),recovered:=false }
def endOf:Res Nat->Ending
 |.ok x _=> .returned (M x)
 |.trap k i _=> .panicked [oE k i]
def Res.mach {α:Type}:Res α->Mach
 |.ok _ m=>m
 |.trap _ _ m=>m
theorem MachAt.cell {w:World}{K:MK}{m:Mach}{ov:Value}(h:MachAt w K m ov){i:Nat}{v:Value}(hv:(r9 K m ov)[i]? =some v):O w K.pm i v:=zA h.blk hv
section
variable {w:World} {K:MK} {m:Mach} {ov:Value} (h:MachAt w K m ov)
include h
theorem MachAt.c0:O w K.pm 0 K.V.fv:=h.cell rfl
theorem MachAt.c3:O w K.pm 3 (I K.E.p.handler):=h.cell rfl
theorem MachAt.c4:O w K.pm 4 K.V.dv:=h.cell rfl
theorem MachAt.c5:O w K.pm 5 K.V.bv:=h.cell rfl
theorem MachAt.c6:O w K.pm 6 (L K.rb 8192 8192):=h.cell rfl
theorem MachAt.c7:O w K.pm 7 K.inv:=h.cell rfl
theorem MachAt.c8:O w K.pm 8 K.irqv:=h.cell rfl
theorem MachAt.c9:O w K.pm 9 (I m.fuel):=h.cell rfl
theorem MachAt.c10:O w K.pm 10 ov:=h.cell rfl
theorem MachAt.c11:O w K.pm 11 (I (m.inputs:Int)):=h.cell rfl
theorem MachAt.c12:O w K.pm 12 (I (m.polls:Int)):=h.cell rfl
end
theorem MachAt.free(h:MachAt w K m ov)(i:Nat):Y w K.pm i:=zE h.blk
theorem MachAt.keep(h:MachAt w K m ov)(hb:Q w w'):MachAt w' K m ov:=
 ⟨zH hb h.blk (lt_of_block h.blk),zH hb h.ram (lt_of_block h.ram),h.rlen,h.rlt,p7 h.out hb (Je _),h.olt,h.obd,h.fuel,h.inp,h.pol,h.gpm,h.grb,
  h.prog.below (hb.mono (Jn h.gpm (Qd (lt_of_block h.blk)))),h.inn.below zr (hb.mono (Jn h.gpm (Qd (lt_of_block h.blk)))),h.irq.below xQ (hb.mono (Jn h.gpm (Qd (lt_of_block h.blk))))⟩
theorem MachAt.drewN(h:MachAt w K m ov)(n:Nat):MachAt (w.drewN n) K m ov:=h.keep (yL _ _ _)
theorem MachAt.size(h:MachAt w K m ov):K.B<w.heap.size:=Nat.lt_of_le_of_lt h.gpm (lt_of_block h.blk)
theorem wj (k i:Nat)(w:World):A 95 #[I k,M i] w fun e w'=>e=.panicked [oE k i]/\w=w':=by
 go_enter Try.func95,Try.ntmps95;go_wp2;exact⟨rfl,rfl,rfl⟩
theorem MachAt.setF(h:MachAt w K m ov)(f:Int)(hf:I64 f)(hb:m.out.length+f.toNat<=4000000)(c:K.rb≠K.pm):MachAt (w.setCell ⟨K.pm,9,none⟩ (I f)) K {m with fuel:=f } ov:=by
 refine⟨?_,zR h.ram (by simpa using c),h.rlen,h.rlt,ownsRow_setCell_other h.out ?_ _,h.olt,hb,hf,h.inp,h.pol,h.gpm,h.grb,?_,?_,?_⟩
 ·rw[zD h.blk];rfl
 ·intro e;exact zC h.out h.blk (.inr Zd) (by simpa using e)
 ·exact h.prog.below ((Below.refl _ _).setCell h.gpm _)
 ·exact h.inn.below zr ((Below.refl _ _).setCell h.gpm _)
 ·exact h.irq.below xQ ((Below.refl _ _).setCell h.gpm _)
theorem MachAt.setI(h:MachAt w K m ov)(d:m.inputs<K.E.inn.length)(c:K.rb≠K.pm):MachAt (w.setCell ⟨K.pm,11,none⟩ (I ((m.inputs:Int)+1))) K {m with inputs:=m.inputs+1 } ov:=by
 refine⟨?_,zR h.ram (by simpa using c),h.rlen,h.rlt,ownsRow_setCell_other h.out ?_ _,h.olt,h.obd,h.fuel,d,h.pol,h.gpm,h.grb,?_,?_,?_⟩
 ·rw[zD h.blk];rfl
 ·intro e;exact zC h.out h.blk (.inr Zd) (by simpa using e)
 ·exact h.prog.below ((Below.refl _ _).setCell h.gpm _)
 ·exact h.inn.below zr ((Below.refl _ _).setCell h.gpm _)
 ·exact h.irq.below xQ ((Below.refl _ _).setCell h.gpm _)
theorem MachAt.setP(h:MachAt w K m ov)(d:m.polls<K.E.irq.length)(c:K.rb≠K.pm):MachAt (w.setCell ⟨K.pm,12,none⟩ (I ((m.polls:Int)+1))) K {m with polls:=m.polls+1 } ov:=by
 refine⟨?_,zR h.ram (by simpa using c),h.rlen,h.rlt,ownsRow_setCell_other h.out ?_ _,h.olt,h.obd,h.fuel,h.inp,d,h.gpm,h.grb,?_,?_,?_⟩
 ·rw[zD h.blk];rfl
 ·intro e;exact zC h.out h.blk (.inr Zd) (by simpa using e)
 ·exact h.prog.below ((Below.refl _ _).setCell h.gpm _)
 ·exact h.inn.below zr ((Below.refl _ _).setCell h.gpm _)
 ·exact h.irq.below xQ ((Below.refl _ _).setCell h.gpm _)
theorem MachAt.ne(h:MachAt w K m ov):K.rb≠K.pm:=by
 intro e;have d:=h.blk;have c:=h.ram;rw[e,d] at c;simp at c
theorem qG (a:Nat):wo a=true↔16384<=a/\a<24576:=by unfold wo;rw[Jm,decide_eq_true_eq,decide_eq_true_eq]
theorem MachAt.ramCell(h:MachAt w K m ov){a:Nat}(d:wo a=true):O w K.rb (a-16384) (.int .u8 (tC m a:Nat))/\tC m a<256/\Y w K.rb (a-16384):=by
 have f:=(qG a).1 d;obtain⟨x,c⟩:∃x,m.ram[a-16384]? =some x:=⟨_,Jd (by rw[h.rlen];omega)⟩
 have e:tC m a=x:=by unfold tC;rw[Jj,c];rfl
 rw[e];exact⟨zA h.ram (by simp[c,wz]),h.rlt x (Ji c),zE h.ram⟩
theorem MachAt.setR(h:MachAt w K m ov)(a x:Nat)(f:x<256):MachAt (w.setCell ⟨K.rb,a-16384,none⟩ (.int .u8 (x:Int))) K (m.put a x) ov/\Frm K.B w (w.setCell ⟨K.rb,a-16384,none⟩ (.int .u8 (x:Int))):=by
 have c:Frm K.B w (w.setCell ⟨K.rb,a-16384,none⟩ (.int .u8 (x:Int))):=(Frm.refl _ _).set h.ram h.grb (by simp[sA]) _;refine⟨⟨zR h.blk (by simpa using Ne.symm h.ne),?_,by simp[Mach.put,h.rlen],?_,ownsRow_setCell_other h.out ?_ _,h.olt,h.obd,h.fuel,h.inp,h.pol,h.gpm,h.grb,h.prog.below c.below,h.inn.below zr c.below,h.irq.below xQ c.below⟩,c⟩
 ·rw[zD h.ram];simp[Mach.put,wz,Ox]
 ·intro y d;rcases Qe d with d|rfl
  ·exact h.rlt y d
  ·exact f
 ·intro e;exact zC h.out h.ram (.inr Zd) (by simpa using e)
theorem kF (l:List (Nat×Nat))(p x:Nat):qO (l++ [(p,x)])=qO l++ [vL p,vL x]:=by unfold qO;rw[Js,List.flatten_append];rfl
theorem MachAt.setO{c:Value}{p x:Nat}(h:MachAt w K m ov)(hg:(w.alloc o).grownBy w2 ov.ownBlock)
 (f:w2.ownsRow K.B 173 2 c (m.out.length+1) (qO m.out++ [vL p,vL x])) (hp:p<65536) (l:x<65536) (hb:m.out.length+1+m.fuel.toNat<=4000000):
 MachAt (w2.setCell ⟨K.pm,10,none⟩ c) K {m with out:=m.out++ [(p,x)]} c/\Frm K.B w (w2.setCell ⟨K.pm,10,none⟩ c):=by
 have n1:=zC h.out h.blk (.inr Zd);have n2:=zC h.out h.ram (.inr Zd);have b2:=zL hg (zB h.blk) n1;have r2:=zL hg (zB h.ram) n2;have u:=h.size
 have j:Frm K.B w w2:=by
  refine⟨((Below.refl _ _).alloc (Qd u) o).grown hg Zt (fun k hk=>(h.out.lt k hk).1),fun k o' hk hs=>?_⟩;refine zL hg (zB hk) ?_;intro e;obtain⟨_,y⟩:=h.out;rcases y with⟨hv,_⟩|⟨g,a1,a0,hv,_,t,_⟩
  ·rw[hv] at e;simp[Value.ownBlock] at e
  ·rw[hv] at e;simp only[Value.ownBlock,Option.some.injEq] at e;subst e;rw[t] at hk;have:=Nt hk;subst this;exact hs.2.1 rfl
 have i:Frm K.B w (w2.setCell ⟨K.pm,10,none⟩ c):=j.set b2 h.gpm (by simp[sA]) _;refine⟨⟨?_,zR r2 (by simpa using h.ne),h.rlen,h.rlt,?_,?_,?_,h.fuel,h.inp,h.pol,h.gpm,h.grb,h.prog.below i.below,h.inn.below zr i.below,h.irq.below xQ i.below⟩,i⟩
 ·rw[zD b2];rfl
 ·have e1:(m.out++ [(p,x)]).length=m.out.length+1:=by simp
  show(w2.setCell ⟨K.pm,10,none⟩ c).ownsRow K.B 173 2 c (m.out++ [(p,x)]).length (qO (m.out++ [(p,x)]))
  rw[e1,kF];exact ownsRow_setCell_other f (by intro e;exact zC f b2 (.inr Zd) (by simpa using e)) _
 ·intro q d;rcases Jl.1 d with d|d
  ·exact h.olt q d
  ·simp at d;subst d;exact⟨hp,l⟩
 ·show(m.out++ [(p,x)]).length+m.fuel.toNat<=4000000
  simp;omega
theorem MachAt.frm(h:MachAt w K m ov)(i:Nat)(u:Value):Frm K.B w (w.setCell ⟨K.pm,i,none⟩ u):=(Frm.refl _ _).set h.blk h.gpm (by simp[sA]) u
theorem pay_no(h:MachAt w K m ov)(hf:m.fuel<=0):A 96 #[G K.pm] w fun e w'=>e=.panicked [oE 7 0]/\w=w':=by
 have c9:=h.c9;clear h;go_enter Try.func96,Try.ntmps96;go_wp2_with (go_at_call 95;go_must (refine(wj 7 0 _).mono ?_;rintro e w' ⟨rfl,rfl⟩))
 exact⟨rfl,rfl,rfl⟩
theorem iN(h:MachAt w K m ov)(hf:0<m.fuel):A 96 #[G K.pm] w fun e w'=>e=.returned (.tuple #[])/\MachAt w' K m.pay ov/\Frm K.B w w':=by
 have c9:=h.c9;have f9:=h.free 9;have d:=Ja (h.setF (m.fuel-1) (by have:=h.fuel;unfold I64 at *;omega) (by have:=h.obd;omega) h.ne);have c:=Ja (h.frm 9 (I (m.fuel-1)));have hb:m.fuel<=9223372036854775807:=h.fuel.2;clear h;go_enter Try.func96,Try.ntmps96;go_wp2
 go_end0
 exact⟨rfl,d.out,c.out⟩
open Go.RowKit Go.Maps
theorem xH:Keyed Try.prog 3:=int_keyed Try.underlying3
theorem wf64'(h:I64 x):(Lit.int .i64 x).wf=true:=by unfold I64 at h;simp[Lit.wf,IntKind.min,IntKind.max,IntKind.signed,IntKind.bits];omega
theorem wfU16 {x:Nat}(h:x<65536):(Lit.int .u16 (x:Int)).wf=true:=by simp[Lit.wf,IntKind.min,IntKind.max,IntKind.signed,IntKind.bits];omega
theorem vB(h:I64 x):keyOf Try.prog 3 (.int .i64 x)=some (.int .i64 x):=keyOf_int_mk Try.underlying3 (wf64' h)
theorem zeroU16 (w:World):(zeroValue 22).run Try.prog w=.ok (M 0) w:=by kernel_rfl
def xO (w:World)(b n:Nat)(f:Int->Nat):Prop:=
 (∃D:DataW Unit,w.ownsMap Try.prog 3 (plainElem Try.prog 22) b n D/\∀x,(Lit.int .i64 x).wf=true->D.atKey (.int .i64 x) (.lit (.int .u16 0))=.lit (.int .u16 (f x:Int)))/\∀x,f x<65536
theorem xO.made (w:World):xO (w.alloc (.map #[] 0)) w.heap.size 0 (fun _=>0):=⟨⟨_,World.ownsMap_made _ _ _ _,fun _ _=>rfl⟩,fun _=>by show 0<65536;decide⟩
theorem xO.blk{b n:Nat}(h:xO w b n f):∃es clock,w.heap[b]? =some (.map es clock):=by
 obtain⟨⟨D,⟨es,clock,c,i⟩,g⟩,d⟩:=h;exact⟨es,clock,c⟩
theorem xO.same{b n:Nat}(h:xO w b n f)(hb:w'.heap[b]? =w.heap[b]?):xO w' b n f:=by
 obtain⟨⟨D,⟨es,c,j,i⟩,g⟩,d⟩:=h;exact⟨⟨D,⟨es,c,hb.trans j,i⟩,g⟩,d⟩
theorem xO.kept{B:Nat}{b n:Nat}(h:xO w b n f)(g:Frm B w w'):xO w' b n f:=by
 obtain⟨es,d,c⟩:=h.blk;exact h.same ((g.kept _ _ c trivial).trans c.symm)
theorem xO.look{b n:Nat}(h:xO w b n f)(i:I64 x):
 (Instr.lookup 160 (.map (some b)) (.int .i64 x) false).run Try.prog w=.ok (.int .u16 (f x:Nat)) w:=by
 obtain⟨⟨D,h,hf⟩,_⟩:=h;obtain⟨c,g,d,j⟩:=h.lookup_int xH Try.underlying160 Try.underlying22 (zeroU16 w) (vB i);rw[hf x (wf64' i)] at d;simp only[DataW.lit.injEq,Lit.int.injEq,true_and] at d;subst d;exact g
theorem us{ops:Array Oper}{o:Oper}{a:Act}{Q:Exit->Act->World->Prop}(hg:o.guard=none)(m x v:Operand)
 (j:o.op=.mapUpdate 160 m x v) {b n:Nat}  (h:xO w b n f) (u:n<9000000000000000000) (kx:Int) (vv:Nat) (hm:a.eval m=.map (some b)) (q:a.eval x=.int .i64 kx) (hv:a.eval v=.int .u16 (vv:Int))
 (g:I64 kx) (d:vv<65536)
 (t:∀w',xO w' b (n+1) (iY f kx vv)->w.grownBy w' (some b)->wpList Try.prog ops Q rest (a.put o.dst undef) w'):wpList Try.prog ops Q (o::rest) a w:=by
 obtain⟨⟨D,h,hf⟩,k⟩:=h;refine wpList_mapUpdate_own (H:=Unit) w hg m x v 160 j 3 22 xH Try.underlying160 _ b n D hm h (by unfold maxLen;omega) _ _ _ q hv (vB g) _ [] (plainElem_int Try.underlying22 (wfU16 d)) ?_;intro w1 i c;refine t w1 ⟨⟨_,i,fun y hy=>?_⟩,fun y=>?_⟩ c
 ·have l:WideAt.IsKeyLit (.int .i64 kx):=xH.key (vB g)
  by_cases e:y=kx
  ·subst e;simp only[iY,if_true];exact Maps.atKey_put_same h.isMap l _ _
  ·simp only[iY,if_neg e];rw[Maps.atKey_put_other (by simpa using e)];exact hf y hy
 ·unfold iY;split
  ·exact d
  ·exact k y
end Go.Proofs.Ytoahcpkibpomcaa
namespace Go.Proofs
open Go.Shelf
def Try.lays212_ren:Go.Shelf.Ren:=⟨fun|212=>93|263=>99|264=>100|n=>n,fun|46=>59|51=>163|146=>164|53=>166|148=>167|n=>n,fun|n=>n⟩
theorem Try.lays212:Go.Proofs.Lays.n212 Try.prog Try.lays212_ren:= {
 mixed:=by kernel_rfl
 f212:=Try.func93.trans (congrArg some (by kernel_rfl))
 f263:=Try.func99.trans (congrArg some (by kernel_rfl))
 f264:=Try.func100.trans (congrArg some (by kernel_rfl))
 t46:=Try.underlying59
 a46:=Try.isAgg59
 z46:=Try.sizeOf59
 v46:=Try.zeroValue59
 t51:=Try.underlying163
 a51:=Try.isAgg163
 z51:=Try.sizeOf163
 v51:=Try.zeroValue163
 t53:=Try.underlying166
 a53:=Try.isAgg166
 z53:=Try.sizeOf166
 v53:=Try.zeroValue166
 t146:=Try.underlying164
 a146:=Try.isAgg164
 z146:=Try.sizeOf164
 v146:=Try.zeroValue164
 t148:=Try.underlying167
 a148:=Try.isAgg167
 z148:=Try.sizeOf167
 v148:=Try.zeroValue167 }
open Go.RowKit Go.Lib in
theorem Try.bits_Mul (x y:Nat)(d:x<18446744073709551616)(c:y<18446744073709551616)(w:World):
 Calls Try.prog 93 #[.int .u64 x,.int .u64 y] w fun e w'=>e=.returned (.tuple #[.int .u64 ((x*y/18446744073709551616:Nat):Int),.int .u64 ((x*y%18446744073709551616:Nat):Int)])/\w'=w:=Any.bits_Mul Try.lays212 x y d c w
end Go.Proofs
namespace Go.Proofs.Ytoahcpkibpomcaa
open Go.RowKit
variable {W W' w w' w0 w1 w2:World}{B' B0 Bk Bs Bv C base' c cp d gk i j k u:Nat}{o:Obj}{xs:List Value}{ov pv v':Value}{f:Int->Nat}{m:Mach}{g:List (List Nat)}{seen:List Bool}{post:List Nat}{x:Int}{rest:List Oper}{P:Program}{K:MK}
def wN (N m:Nat)(z:Value):List Value:=List.replicate m z++List.replicate (N-m) (I 0)
theorem nY (N:Nat)(z:Value):wN N 0 z=List.replicate N (I 0):=by simp[wN]
theorem mI (N:Nat)(z:Value):wN N N z=List.replicate N z:=by simp[wN]
theorem kK{N m:Nat}(z:Value)(h:j<m):(wN N m z)[j]? =some z:=by
 unfold wN;rw[Np (by simpa using h)];simp[h]
theorem sL{N m:Nat}(z:Value)(h:m+k<=N):splice (wN N m z) m (List.replicate k z)=wN N (m+k) z:=by
 unfold splice wN
 have e1:List.take m (List.replicate m z++List.replicate (N-m) (I 0))=List.replicate m z:=by
  rw[List.take_append_of_le_length Zs,Oy Zs]
 have e2:List.drop (m+(List.replicate k z).length) (List.replicate m z++List.replicate (N-m) (I 0))=List.replicate (N-(m+k)) (I 0):=by
  rw[List.drop_append,List.drop_eq_nil_of_le Zs,Op,List.drop_replicate]
  congr 1;simp;omega
 rw[e1,e2,<-Nv,List.replicate_append_replicate]
theorem qW{N:Nat}(z:Value)(h:k<=N):splice (List.replicate N (I 0)) 0 (List.replicate k z)=wN N k z:=by
 have:=sL (m:=0) z (by omega:0+k<=N);rw[nY] at this
 simpa using this
theorem lr (w:World)(s o a1 N:Nat)(hc:O w s o (I (-1)))(h1:1<=N)(hN:N<=4000000):
 A 86 #[.slice (some ⟨s,o,none⟩) 1 a1,I N] w fun e w'=>e=.returned (.slice (some ⟨w.heap.size,0,none⟩) N N)/\T w' w.heap.size (List.replicate N (I (-1))).toArray 3/\Q w w':=by
 obtain⟨ii,a5,b0,a2,a9⟩:=info_parts Try.info_int;have a3:=run_make_row' (P:=Try.prog) 25 3 (I 0) 8 Try.underlying25 Try.info_int rfl .i64 .i64 N Zo Zo;go_enter Try.func86,Try.ntmps86
 have t:A 93 #[.int .u64 1,.int .u64 (N:Int)] w fun e w'=>e=.returned (.tuple #[.int .u64 0,.int .u64 (N:Int)])/\w'=w:=by
  refine(Try.bits_Mul 1 N Zo Zo w).mono ?_;rintro e w1 ⟨rfl,rfl⟩;refine⟨?_,rfl⟩;rw[show 1*N/18446744073709551616=0 by omega,show 1*N%18446744073709551616=N by omega];rfl
 have hs:=jU hc;have b5:(N:Int)<=9223372036854775807:=Zo;have b4:¬(N:Int)<0:=Zo;have u: [I (-1)].length=Nat.min 1 N:=(Ud h1).symm;have k:T (w.alloc (.cells (madeCells #[I 0] N) 3)) w.heap.size (List.replicate N (I 0)).toArray 3:=by rw[zI rfl,yA]
 have g:∀(j:Nat) (v:Value),[I (-1)][j]? =some v->(w.alloc (.cells (madeCells #[I 0] N) 3)).cell? ((⟨s,o,none⟩:Addr).add j)=some v:=by
  intro j v f
  cases j with
  |zero=>simp at f;subst f;exact(Ok _ _ _ hs).trans hc
  |succ j=>simp at f
 have l:Q w (w.alloc (.cells (madeCells #[I 0] N) 3)):=(Below.refl _ _).alloc (Je _) _;have q:(Try.prog.info? 3).map (·.size)=some 1:=by rw[a5];simp[a2]
 go_wp2_with (first|(go_at_call 93;refine t.mono ?_;rintro e w1 ⟨rfl,rfl⟩)|(with_reducible refine wpList_copy_splice rfl (.tmp 31) (.tmp 32) 25 25 rfl 3 Try.underlying25 q (some ⟨w1.heap.size,0,none⟩) (some ⟨s,o,none⟩) N N 1 a1 rfl rfl w1.heap.size 0 (List.replicate N (I 0)) 3 k [I (-1)] u (fun _=>⟨rfl,_,rfl,g⟩) Zt (by simp[Value.oneCell']) w1.heap.size w1 l (Je _) ?_;intro w2 c a6))
 have a0:Hid (T w2 w1.heap.size (wN N 1 (I (-1))).toArray 3):=by
  have:=c.out;rw[show([I (-1)]:List Value)=List.replicate 1 (I (-1)) from rfl,qW _ h1] at this;exact Ja this
 clear t c l g k u a3
 go_loopw [8] (fun i wr=>∃m:Nat,i=I m/\1<=m/\(m:Int)<=N/\Hid (T wr w1.heap.size (wN N m (I (-1))).toArray 3)/\Q w1 wr) (fun i _=>N-(intOf i).toNat)
 case atStart=>exact⟨1,rfl,by omega,by omega,a0,a6⟩
 case round=>
  obtain⟨m,rfl,u,b2,c,x⟩:=hrel
  by_cases b3:(m:Int)<N
  ·have e1:(m:Int)<=N:=Zo;have e2:(0:Int)<=m:=Zo;go_wp2
   obtain⟨w3,b1,y,d⟩:∃w3:World,(Sem.run Try.prog (Builtin.copy_ #[25,25] 3 #[.slice (some ⟨w1.heap.size,m,none⟩) (N-m) (N-m),.slice (some ⟨w1.heap.size,0,none⟩) m N]) wr.drew=.ok (I ((min m (N-m):Nat):Int)) w3.drew)/\Hid (T w3 w1.heap.size (wN N (m+min m (N-m)) (I (-1))).toArray 3)/\Q w1 w3:=by
    refine⟨wr.setRow w1.heap.size (splice (wN N m (I (-1))) m (List.replicate (min m (N-m)) (I (-1)))).toArray,?_,?_,below_setRow x (Je _) _⟩
    ·have:=run_copy_row (P:=Try.prog) wr.drew 25 25 3 3 w1.heap.size m (N-m) (N-m) ⟨w1.heap.size,0,none⟩ m N (wN N m (I (-1))).toArray 3 (List.replicate (min m (N-m)) (I (-1))) Try.underlying25 q c.out
      (by rw[Qr]) (fun j v f=>by
       have a4:j<min m (N-m):=by
        have:=(Jh.1 f).1;simpa using this
       rw[Nm,if_pos a4] at f;cases f;have ea:(⟨w1.heap.size,0,none⟩:Addr).add j=⟨w1.heap.size,j,none⟩:=by by_cases h:j=0<;>simp[Addr.add,h]
       rw[ea];refine zA (w:=wr.drew) (b:=w1.heap.size) (cs:=(wN N m (I (-1))).toArray) c.out ?_;simp only[List.getElem?_toArray]
       exact kK _ Zo) (by simp[wN];omega) (by intro v hv;rw[List.eq_of_mem_replicate hv];rfl)
     rw[Qr] at this;refine(this.trans ?_);unfold splice;simp only[Nv,Qr];rfl
    ·have:=setRow_heap wr w1.heap.size _ (splice (wN N m (I (-1))) m (List.replicate (min m (N-m)) (I (-1)))).toArray _ _ c.out;rw[sL _ Zo] at this ⊢;exact Ja this
   clear c x;go_wp2
   go_region
   go_wp2;go_roundw
   case rel=>exact⟨m+min m (N-m),by rw[Int.natCast_add],by omega,by omega,y,⟨d.os,d.tape,d.output,d.size,d.block⟩⟩
   case measure=>simp[intOf];omega
  ·go_wp2;go_ret;have:m=N:=Zo;subst this;refine⟨rfl,?_,x⟩;have:=c.out;rw[mI] at this
   simpa using this
open Go.RowKit Go.Maps
theorem pk:Keyed Try.prog 3:=int_keyed Try.underlying3
theorem wf64(h:-9223372036854775808<=x/\x<=9223372036854775807):(Lit.int .i64 x).wf=true:=by simp[Lit.wf,IntKind.min,IntKind.max,IntKind.signed,IntKind.bits];omega
theorem jp(h:-9223372036854775808<=x/\x<=9223372036854775807):keyOf Try.prog 3 (.int .i64 x)=some (.int .i64 x):=keyOf_int_mk Try.underlying3 (wf64 h)
theorem zeroInt (w:World):(zeroValue 3).run Try.prog w=.ok (I 0) w:=by kernel_rfl
def ud (w:World)(b n:Nat)(f:Int->Int):Prop:=
 ∃D:DataW Unit,w.ownsMap Try.prog 3 (plainElem Try.prog 3) b n D/\∀x,(Lit.int .i64 x).wf=true->D.atKey (.int .i64 x) (.lit (.int .i64 0))=.lit (.int .i64 (f x))
theorem ud.lt{b n:Nat}{f:Int->Int}(h:ud w b n f):b<w.heap.size:=let⟨_,h,_⟩:=h;h.lt
theorem ud.same{b n:Nat}{f:Int->Int}(h:ud w b n f)(hb:w'.heap[b]? =w.heap[b]?):ud w' b n f:=by
 obtain⟨D,⟨es,c,i,g⟩,d⟩:=h;exact⟨D,⟨es,c,hb.trans i,g⟩,d⟩
theorem ud.ne{b n:Nat}{f:Int->Int}(h:ud w b n f){b':Nat}{c:Array Value}{t:TypeId}{z:Nat×Nat}(hb:w.heap[b']? =some (.cells c t z)):b≠b':=by
 obtain⟨D,⟨es,d,g,j⟩,i⟩:=h;rintro rfl;rw[g] at hb;simp at hb
theorem ud.look{b n:Nat}{f:Int->Int}(h:ud w b n f)(i:-9223372036854775808<=x/\x<=9223372036854775807):
 (Instr.lookup 105 (.map (some b)) (.int .i64 x) false).run Try.prog w=.ok (.int .i64 (f x)) w/\(Lit.int .i64 (f x)).wf=true:=by
 obtain⟨D,h,hf⟩:=h;obtain⟨c,g,d,j⟩:=h.lookup_int pk Try.underlying105 Try.underlying3 (zeroInt w) (jp i);rw[hf x (wf64 i)] at d;simp only[DataW.lit.injEq,Lit.int.injEq,true_and] at d;subst d;exact⟨g,j⟩
theorem rW{ops:Array Oper}{o:Oper}{a:Act}{Q:Exit->Act->World->Prop}(hg:o.guard=none)(m x v:Operand)
 (j:o.op=.mapUpdate 105 m x v) {b n:Nat} {f:Int->Int} (h:ud w b n f) (t:n<9000000000000000000) (kx vv:Int) (hm:a.eval m=.map (some b)) (l:a.eval x=.int .i64 kx) (hv:a.eval v=.int .i64 vv)
 (d:-9223372036854775808<=kx/\kx<=9223372036854775807) (i:-9223372036854775808<=vv/\vv<=9223372036854775807)
 (q:∀w',ud w' b (n+1) (fun y=>if y=kx then vv else f y)->w.grownBy w' (some b)->wpList Try.prog ops Q rest (a.put o.dst undef) w'):wpList Try.prog ops Q (o::rest) a w:=by
 obtain⟨D,h,hf⟩:=h;refine wpList_mapUpdate_own (H:=Unit) w hg m x v 105 j 3 3 pk Try.underlying105 _ b n D hm h (by unfold maxLen;omega) _ _ _ l hv (jp d) _ [] (plainElem_int Try.underlying3 (wf64 i)) ?_;intro w1 g c;refine q w1 ⟨_,g,fun y hy=>?_⟩ c;have k:WideAt.IsKeyLit (.int .i64 kx):=pk.key (jp d)
 by_cases e:y=kx
 ·subst e;simp only[if_true];exact Maps.atKey_put_same h.isMap k _ _
 ·simp only[if_neg e];rw[Maps.atKey_put_other (by simpa using e)];exact hf y hy
end Go.Proofs.Ytoahcpkibpomcaa
set_option maxRecDepth 8000
namespace Go.Proofs.Ytoahcpkibpomcaa
open Go.RowKit Go.Shelf
variable {W W' w w' w0 w1 w2:World}{B' B0 Bk Bs Bv C base' c cp d gk i j k u:Nat}{o:Obj}{xs:List Value}{ov pv v':Value}{f:Int->Nat}{m:Mach}{g:List (List Nat)}{seen:List Bool}{post:List Nat}{x:Int}{rest:List Oper}{P:Program}{K:MK}
attribute [local go_sem] Oper.semAt_some
def aaT (Bv Bn n:Nat)(xs:List Nat)(bv bp op len cap:Nat)(ar:Option Addr)(capr:Nat)(W:World):Prop:=
 O W Bv 0 (G bv)/\O W Bn 0 (I n)/\O W bv 2 (.slice (some ⟨bp,op,none⟩) len cap)/\n<len/\
  O W bp (op+n) (.slice ar xs.length capr)/\∀(j:Nat) (x:Nat),xs[j]? =some x->∃b o,ar=some ⟨b,o,none⟩/\O W b (o+j) (I x)
theorem aH (m:Nat)(hm:1<=m)(l Bv Bn n:Nat)(xs:List Nat)(bv bp op len f:Nat)(ar:Option Addr)(c:Nat)(hx:xs.length<=4000004000000)(J Jx:List Nat->World->Prop)
 (y:∀(pre:List Nat) (x:Nat) (W:World),J pre W->xs[pre.length]? =some x->YieldAt Fence.wide (m-1) Try.prog l #[I x] W fun e W'=>
   (e=.returned (.bool true)/\J (pre++ [x]) W'/\(aaT Bv Bn n xs bv bp op len f ar c W->aaT Bv Bn n xs bv bp op len f ar c W'))∨(e=.returned (.bool false)/\Jx (pre++ [x]) W'))
 (a0:∀pre W k,J pre W->J pre (W.drewN k)) (W:World) (hR:aaT Bv Bn n xs bv bp op len f ar c W) (h0:J [] W):
 CallsIn Fence.wide m Try.prog 94 #[.func (.yield l) #[] #[],G Bv,G Bn] W fun e W'=>(∃v,e=.returned v)/\
  ((∃ys,ys=xs/\J ys W')∨(∃pre,pre<+:xs/\Jx pre W')):=by
 have a2:=Ja hR;obtain⟨c1,c2,c3,hn,c4,hc⟩:=hR;have a5:(n:Int)<len:=Zo;refine callsIn_of_wp Try.func94 rfl trivial ?_ rfl;simp only[Try.ntmps94,List.size_toArray,Nq,Ow,Nat.reduceAdd,Nat.reduceSub,Array.replicate_succ,Array.replicate_zero,List.push_toArray,List.append_toArray,Op,List.cons_append]
 gi_wp2
 gi_region
 gi_wp2
 gi_loopw [14] (fun i wr=>∃k:Nat,k<=xs.length/\i=I k/\J (xs.take k) wr/\Hid (aaT Bv Bn n xs bv bp op len f ar c wr)) (fun i _=>xs.length-(intOf i).toNat)
 case atStart=>exact⟨0,Jt _,rfl,a0 _ _ 1 h0,a2⟩
 case round=>
  obtain⟨k,hk,rfl,h,HR⟩:=hrel
  by_cases t:k<xs.length
  ·obtain⟨x,d⟩:∃x,xs[k]? =some x:=⟨_,Jd t⟩
   obtain⟨b,o,w,a6⟩:=HR.out.2.2.2.2.2 k x d;obtain⟨fn,a3,assign,body,hy,hR⟩:=y _ x wr h (by rw[Oc,Ud hk];exact d);have g:xs.take (k+1)=xs.take k++ [x]:=by rw[Nh,d];rfl
   have j:=Ja g;have a9:=Ja d;have a4:(k:Int)<xs.length:=Zo;subst w;clear d g c1 c2 c3 c4 hc y
   gi_wp2
   refine hR.mono ?_;rintro e W3 (⟨rfl,a1,u⟩|⟨rfl,q⟩)
   ·gi_wp2
    go_roundw
    case rel=>exact⟨k+1,by omega,by go_num,by rw[j.out];exact a1,u HR⟩
    case measure=>simp[intOf];omega
   ·gi_wp2
    refine bodyPost_ret (results_none rfl _ _ _) rfl ?_;exact⟨⟨_,rfl⟩,.inr ⟨_,by rw[<-j.out];exact List.take_prefix _ _,q⟩⟩
  ·obtain rfl:k=xs.length:=by omega
   gi_wp2
   go_end0
   exact⟨⟨_,rfl⟩,.inl ⟨_,Nl,h⟩⟩
theorem lj (p:Option Addr)(n:Int)(w:World):
 A 88 #[.pointer p,I n] w fun e w'=>e=.returned (.func (.func 94) #[] #[G w.heap.size,G (w.heap.size+1)])/\
  w'=(w.alloc (U #[.pointer p] 122)).alloc (U #[I n] 3):=by
 go_enter Try.func88,Try.ntmps88;go_wp2;go_ret;exact⟨rfl,rfl⟩
theorem aaT.below{Bn n bv bp op len f:Nat}{xs:List Nat}{ar:Option Addr}(h:aaT Bv Bn n xs bv bp op len f ar d W)(hb:Below C W W')(k:W.heap.size<=C):aaT Bv Bn n xs bv bp op len f ar d W':=by
 obtain⟨c1,c2,c3,g,c4,i⟩:=h;have up:∀ {a:Addr} {v:Value},W.cell? a=some v->W'.cell? a=some v:=fun {a v} h=>(hb.cell (Jy (Jw W a h) k)).trans h
 refine⟨up c1,up c2,up c3,g,up c4,fun j x hj=>?_⟩;obtain⟨b,o,e,c⟩:=i j x hj;exact⟨b,o,e,up c⟩
theorem mC{xs:List Nat}{x:Nat}(h:xs[k]? =some x):xs.attach.take (k+1)=xs.attach.take k++ [⟨x,Ji h⟩]:=by
 rw[Nh]
 congr 1
 obtain⟨c,rfl⟩:=Jh.1 h;rw[Jd (by simpa using c)];simp
theorem nH (m:Nat)(hm:1<=m)(Bv Bn n:Nat)(xs:List Nat)(bv bp op len f:Nat)(ar:Option Addr)(d:Nat)(g:xs.length<=4000004000000)(w:World)(i:aaT Bv Bn n xs bv bp op len f ar d w):
 SeqStopsK Fence.wide m Try.prog 94 #[G Bv,G Bn] (fun x: {p//p∈xs}=> #[I (x.1:Int)]) (fun W W'=>aaT Bv Bn n xs bv bp op len f ar d W->aaT Bv Bn n xs bv bp op len f ar d W')
  (fun ys=>ys.map (·.1)=xs) (fun _=>True) xs.length w:=fun l J Jx W hW hJ _ hY h0=>by
 refine(aH m hm l Bv Bn n xs bv bp op len f ar d g (fun c W=>J (xs.attach.take c.length) W) (fun c W=>Jx (xs.attach.take c.length) W) (fun c x W1 h1 h2=>?_)
  (fun c W1 k h=>hJ _ W1 (W1.drewN k) none h ⟨rfl,rfl,rfl,Je _,fun _ _ _=>rfl⟩ (fun _ e=>by cases e)) W (i.below hW (Je _)) (by simpa using h0)).mono ?_
 ·have j:c.length<xs.length:=(Jh.1 h2).1;refine(hY _ ⟨x,Ji h2⟩ W1 h1 (by rw[Oc,List.length_attach];omega)).mono ?_;rw[Jk,Ju,mC h2];exact fun e w' h=>h
 ·rintro e w' ⟨hv,(⟨ys,rfl,h⟩|⟨c,_,h⟩)⟩
  ·exact⟨hv,.inl ⟨_,by simp,h⟩⟩
  ·exact⟨hv,.inr ⟨_,trivial,h⟩⟩
open Go.RowKit
theorem vd{ops:Array Oper}{Q:Act->Prop}:∀ {rest:List Oper} {a:Act},wpQuiet P ops (fun w'=>w'=w) Q rest a->wpStill P ops w Q rest a
 | [],a,h=>h
 |o::rest,a,h=>by
  unfold wpQuiet at h;unfold wpStill
  split at h
  ·rename_i hw
   rw[if_pos hw];obtain⟨v,h1,h2⟩:=h;have c:=h1 w rfl;have d:=vd h2;unfold Oper.quietAt at c;unfold Oper.still;generalize (execOp a.eval o).run P w=r at *
   cases r with
   |ok n w'=>
    cases n<;>simp only[Oper.quietUpon] at c<;>simp only[Oper.stillUpon]
    case value u=>obtain⟨e1,rfl⟩:=c;exact⟨e1,d⟩
    case skip=>obtain⟨e1,rfl⟩:=c;exact⟨e1,d⟩
    case enter f args=>exact⟨c.1,v,c.2,d⟩
   |halt x w'=>simp only[Oper.quietUpon] at c
  ·rename_i hw
   rw[if_neg hw];exact vd h
theorem zt{id:Nat}{Q:Exit->Act->World->Prop}{a:Act}{l:List Oper}(n:Nat)(hm:P.follows .mixedOrders=true)(c:Region.lexTailB .any l.toArray n=true)
 (h:wpQuiet P l.toArray (fun w'=>w'=w.drew) (fun a'=>wpList P l.toArray Q (l.drop n) a' w.drew) (l.take n) a):(Code.region id l.toArray true).wp P Q a w:=
 wp_region_still_tail n hm c (vd h)
end Go.Proofs.Ytoahcpkibpomcaa
set_option maxRecDepth 100000
namespace Go.Proofs.Ytoahcpkibpomcaa
open Go.ChangeShapes Go.WideShapes Go.ChangeAt Go.RowKit
variable {W W' w w' w0 w1 w2:World}{B' B0 Bk Bs Bv C base' c cp d gk i j k u:Nat}{o:Obj}{xs:List Value}{ov pv v':Value}{f:Int->Nat}{m:Mach}{g:List (List Nat)}{seen:List Bool}{post:List Nat}{x:Int}{rest:List Oper}{P:Program}{K:MK}
theorem acP{H:Type}{enc:TypeId×Value->H}{fuel:Nat}{n:Nat}{t e:TypeId}{q:IntKind}{cs:List Value}{x:DataW H×List MemPlace}(ht:P.underlying t=some (.array n e))(o:P.underlying e=some (.int q))(c1:P.cellsOf e=1)(hl:cs.length=n)
 (hf:DataW.trod enc P W 0 (fun _=>true) true fuel t cs=some x):∃zs:List Int,cs=zs.map (.int q)/\zs.length=n/\∀z∈zs,(Lit.int q z).wf=true:=by
 obtain⟨xs,k,_,_,_,u,j⟩:=DataW.trod_array ht hf
 have d:∀i,i<n->∃z:Int,cs[i]? =some (.int q z)/\(Lit.int q z).wf=true:=by
  intro i hi;have g:=j i hi;rw[c1,Jd Zo] at g;obtain⟨z,e0,_,w0⟩:=DataW.trod_int o g;refine⟨z,?_,w0⟩;rw[Nk] at e0;have h:=congrArg (fun l:List Value=>l[0]?) e0
  simpa using h
 obtain⟨f,c⟩:=Go.Deep.choose_lt d;refine⟨(List.range n).map f,?_,by simp,?_⟩
 ·apply Oq;intro i
  by_cases hi:i<n
  ·rw[(c i hi).1];simp[hi]
  ·rw[Of Zo,Of Zt]
 ·intro z m;obtain⟨i,hi,rfl⟩:=Nu.1 m;exact(c i (Ol.1 hi)).2
theorem a8 {z:Int}(h:(Lit.int .u16 z).wf=true):∃x:Nat,z=(x:Int)/\x<65536:=by
 have h:0<=z/\z<=65535:=by simpa[Lit.wf,IntKind.min,IntKind.max,IntKind.signed,IntKind.bits] using h
 exact⟨z.toNat,by rw[Oa h.1],by omega⟩
end Go.Proofs.Ytoahcpkibpomcaa
set_option maxRecDepth 100000
namespace Go.Proofs.Ytoahcpkibpomcaa
open Go.ChangeShapes Go.WideShapes Go.ChangeAt Go.RowKit
variable {W W' w w' w0 w1 w2:World}{B' B0 Bk Bs Bv C base' c cp d gk i j k u:Nat}{o:Obj}{xs:List Value}{ov pv v':Value}{f:Int->Nat}{m:Mach}{g:List (List Nat)}{seen:List Bool}{post:List Nat}{x:Int}{rest:List Oper}{P:Program}{K:MK}
section
variable {H:Type} {enc:TypeId×Value->H} {W:World} {v:Value} {d:DataW H} {p:List MemPlace} {r:Go.Reach} {base:Nat}
theorem cw (hv:Value.okWide Try.prog W r base 30 v)(i:DataW.Trod enc Try.prog W 0 (fun _=>true) true 30 v d p):∃q0 q1:Nat,v=.agg #[.int .u16 (q0:Int),.int .u16 (q1:Int)]/\(q0<65536/\q1<65536):=by
 have c2:Try.prog.cellsOf 30=2:=by kernel_rfl
 have c1:Try.prog.cellsOf 22=1:=by kernel_rfl
 simp only[Value.okWide,Try.underlying30] at hv;obtain⟨cs,rfl,c,_⟩:=hv;rw[c2] at c;obtain⟨fuel,hf⟩:=i;simp only[Value.cells] at hf;obtain⟨zs,e,hl,f⟩:=acP Try.underlying30 Try.underlying22 c1 (by simpa using c) hf
 obtain⟨a,b,rfl⟩:∃a b,zs=[a,b]:=by
  match zs,hl with
  | [a,b],_=>exact⟨a,b,rfl⟩
 obtain⟨x,rfl,h⟩:=a8 (f a Zs);obtain⟨y,rfl,g⟩:=a8 (f b Zs);refine⟨x,y,?_,h,g⟩
 have e2:cs=#[.int .u16 (x:Int),.int .u16 (y:Int)]:=by
  rw[<-Array.toArray_toList (xs:=cs),e];rfl
 rw[e2]
end
end Go.Proofs.Ytoahcpkibpomcaa
