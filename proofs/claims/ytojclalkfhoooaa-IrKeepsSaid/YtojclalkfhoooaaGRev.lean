/- Part of a proof. -/
import Derived.Test.YtojclalkfhoooaaRows
import Derived.Test.YtojclalkfhoooaaSq
import Derived.Test.YtojclalkfhoooaaSw
import Derived.BigRegion
import Derived.Laws.BitsLemmas
import Derived.Laws.BytesArg
import Derived.Laws.EntriesVeiled
import Derived.Lib.EndianBits
import Derived.Maps.OwnOps
import Derived.Maps.OwnSet
import Derived.WalkLawsBesides
set_option linter.all false
set_option maxHeartbeats 3200000
set_option maxRecDepth 100000
namespace Go.Proofs.Ytojclalkfhoooaa
open Go.RowKit
variable {W W' w w' w1:World}{B' b12 b13 base' bt c i k:Nat}{m:Mach}{o:Obj}{xs:List Value}{v':Value}
def xp {α:Type}(enc:α->Value)(w:World)(B:Nat)(v:Value)(xs:List α):Prop:=
 ∃(a:Option Addr) (cap:Nat),v=.slice a xs.length cap/\xs.length<=cap/\∀(k:Nat) (x:α),xs[k]? =some x->∃b o,a=some ⟨b,o,none⟩/\b<B/\T w b (o+k) (enc x)
def zN (n:Int):Value:=O n
def zj (n:Nat):Value:=O n
def uo (b:Bool):Value:=.bool b
theorem xp.below{α:Type}{enc:α->Value}{B:Nat}{v:Value}{xs:List α}(h:xp enc w B v xs)(hb:Below B w w'):xp enc w' B v xs:=by
 obtain⟨a,d,rfl,c,h⟩:=h;refine⟨a,d,rfl,c,fun k x hk=>?_⟩;obtain⟨b,o,i,hB,g⟩:=h k x hk;exact⟨b,o,i,hB,(hb.cell (p:=⟨b,o+k,none⟩) hB).trans g⟩
theorem xp.mono{α:Type}{enc:α->Value}{B:Nat}{v:Value}{xs:List α}(h:xp enc w B v xs)(hb:B<=B'):xp enc w B' v xs:=by
 obtain⟨a,d,rfl,c,h⟩:=h;refine⟨a,d,rfl,c,fun k x hk=>?_⟩;obtain⟨b,o,i,hB,g⟩:=h k x hk;exact⟨b,o,i,by omega,g⟩
theorem xp.map{α β:Type}{enc:α->Value}{enc':β->Value}(f:β->α)(hf:∀x,enc (f x)=enc' x){B:Nat}{v:Value}{xs:List β}:
 xp enc w B v (xs.map f)↔xp enc' w B v xs:=by
 constructor
 ·rintro⟨a,d,rfl,c,h⟩;refine⟨a,d,by simp,by simpa using c,fun k x hk=>?_⟩;have:=h k (f x) (by simp[hk])
  rwa [hf] at this
 ·rintro⟨a,d,rfl,c,h⟩;refine⟨a,d,by simp,by simpa using c,fun k x hk=>?_⟩;simp only[Jr,Oz] at hk;obtain⟨y,g,rfl⟩:=hk;rw[hf];exact h k y g
def aaB {α:Type}(enc:α->Value)(w:World)(B:Nat)(v:Value)(g:List (List α)):Prop:=
 ∃vs:List Value,xp id w B v vs/\vs.length=g.length/\∀(k:Nat) (rv:Value) (row:List α),vs[k]? =some rv->g[k]? =some row->xp enc w B rv row
theorem aaB.below{α:Type}{enc:α->Value}{B:Nat}{v:Value}{g:List (List α)}(h:aaB enc w B v g)(hb:Below B w w'):aaB enc w' B v g:=by
 obtain⟨vs,h1,h2,h3⟩:=h;exact⟨vs,h1.below hb,h2,fun k rv row a b=>(h3 k rv row a b).below hb⟩
theorem aaB.mono{α:Type}{enc:α->Value}{B:Nat}{v:Value}{g:List (List α)}(h:aaB enc w B v g)(hb:B<=B'):aaB enc w B' v g:=by
 obtain⟨vs,h1,h2,h3⟩:=h;exact⟨vs,h1.mono hb,h2,fun k rv row a b=>(h3 k rv row a b).mono hb⟩
theorem aaB.form{α:Type}{enc:α->Value}{B:Nat}{v:Value}{g:List (List α)}(h:aaB enc w B v g):∃a cap,v=.slice a g.length cap/\g.length<=cap:=by
 obtain⟨vs,⟨a,cap,rfl,c,_⟩,h2,_⟩:=h;exact⟨a,cap,by rw[h2],by omega⟩
theorem aaB.row{α:Type}{enc:α->Value}{B:Nat}{a:Option Addr}{len m:Nat}{g:List (List α)}(h:aaB enc w B (.slice a len m) g){row:List α}(hk:g[k]? =some row):
 ∃b o a2 cap2,a=some ⟨b,o,none⟩/\b<B/\T w b (o+k) (.slice a2 row.length cap2)/\row.length<=cap2/\∀j x,row[j]? =some x->∃b2 o2,a2=some ⟨b2,o2,none⟩/\b2<B/\T w b2 (o2+j) (enc x):=by
 obtain⟨vs,⟨a',u,hv,_,q⟩,h2,h3⟩:=h;cases hv;have d:k<vs.length:=by rw[h2];exact(Jh.1 hk).1
 obtain⟨b,o,t,hB,r⟩:=q k _ (Jd d);obtain⟨a2,cap2,l,c,i⟩:=h3 k _ row (Jd d) hk;refine⟨b,o,a2,cap2,t,hB,?_,c,i⟩;rw[r,<-l];rfl
theorem aaB.map{α β:Type}{enc:α->Value}{enc':β->Value}(f:β->α)(hf:∀x,enc (f x)=enc' x){B:Nat}{v:Value}{g:List (List β)}:
 aaB enc w B v (g.map (List.map f))↔aaB enc' w B v g:=by
 constructor
 ·rintro⟨vs,h1,h2,h3⟩;exact⟨vs,h1,by simpa using h2,fun k rv row a b=>(xp.map f hf).1 (h3 k rv _ a (by simp[b]))⟩
 ·rintro⟨vs,h1,h2,h3⟩;refine⟨vs,h1,by simpa using h2,fun k rv row a b=>?_⟩;simp only[Jr,Oz] at b;obtain⟨y,c,rfl⟩:=b;exact(xp.map f hf).2 (h3 k rv y a c)
theorem zI{B:Nat}(h:W.heap.size=B):(W.alloc o).heap[B]? =some o:=by subst h;exact heap_alloc_new W o
theorem zB{o':Obj}{b:Nat}(h:W.heap[b]? =some o'):(W.alloc o).heap[b]? =some o':=(Below.heap_alloc W o b (lt_of_block h)).trans h
theorem zL{row:Option Nat}{b:Nat}(hg:W.grownBy w1 row)(hk:W.heap[b]? =some o)(c:row≠some b):w1.heap[b]? =some o:=(hg.block b (lt_of_block hk) (Ne.symm c)).trans hk
theorem zR{b:Nat}{a:Addr}{u:Value}(h:W.heap[b]? =some o)(c:b≠a.block):(W.setCell a u).heap[b]? =some o:=(Below.heap_setCell _ _ _ _ c).trans h
theorem zH{B:Nat}{b:Nat}(hb:Below B W W')(h:W.heap[b]? =some o)(c:b<B):W'.heap[b]? =some o:=(hb.block b c).trans h
theorem zC{base b:Nat}{e t:TypeId}{size n:Nat}{v:Value}{cs:Array Value}(h:w.ownsRow base e size v n xs)(hb:Y w b cs t)(hne:b<base∨e≠t):v.ownBlock≠some b:=by
 rcases h.2 with⟨rfl,_⟩|⟨g,d,cur,rfl,hg,c,_⟩
 ·simp[Value.ownBlock]
 ·simp only[Value.ownBlock,ne_eq,Option.some.injEq];rintro rfl;rw[c] at hb;rcases hne with hne|hne
  ·omega
  ·exact hne (by simpa using congrArg (fun o=>match o with|some (Obj.cells _ t _)=>t|_=>0) hb)
theorem zo{base:Nat}{e e':TypeId}{size n n':Nat}{v:Value}{d:List Value}(h:w.ownsRow base e size v n xs)(k:w.ownsRow base' e' c v' n' d)(i:e≠e'):v.ownBlock=none∨v.ownBlock≠v'.ownBlock:=by
 rcases h.2 with⟨rfl,_⟩|⟨g,l,cur,rfl,hg,j,_⟩
 ·exact .inl rfl
 ·right;intro e1;exact zC k j (.inr (Ne.symm i)) e1.symm
theorem zD{b:Nat}{cs:Array Value}{t:TypeId}(h:Y w b cs t)(u:Value):Y (w.setCell ⟨b,i,none⟩ u) b (cs.setIfInBounds i u) t:=by
 have c:=lt_of_block h;have d:w.heap[b]=A cs t:=by simpa[Array.getElem?_eq_getElem c] using h
 show(w.heap.modify b _)[b]? =_
 rw[Array.getElem?_eq_getElem (by simpa using c),Array.getElem_modify_self,d];rfl
theorem zA{b:Nat}{cs:Array Value}{t:TypeId}{v:Value}(h:Y w b cs t)(hi:cs[i]? =some v):T w b i v:=by simp[World.cell?,h,hi]
theorem zE{b:Nat}{cs:Array Value}{t:TypeId}(h:Y w b cs t):N w b i:=by simp[World.frozen?,h]
theorem vY{base:Nat}{e:TypeId}{size n:Nat}{v:Value}(h:w.ownsRow base e size v n xs)(hb:base'<=base):w.ownsRow base' e size v n xs:=by
 refine⟨h.1,?_⟩;rcases h.2 with h2|⟨g,c,cur,rfl,hg,r⟩
 ·exact .inl h2
 ·exact .inr ⟨g,c,cur,rfl,by omega,r⟩
theorem zG{base:Nat}{e:TypeId}{size n:Nat}{v:Value}(h:w.ownsRow base e size v n xs):∃a cap,v=.slice a n cap:=by
 rcases h.2 with⟨rfl,rfl⟩|⟨g,cap,cur,rfl,_⟩
 ·exact⟨none,0,rfl⟩
 ·exact⟨_,cap,rfl⟩
theorem zm{base:Nat}{e:TypeId}{size n m d:Nat}{a:Option Addr}(h:w.ownsRow base e size (.slice a m d) n xs):m<=d/\d<=9223372036854775807:=by
 rcases h.2 with⟨hv,_⟩|⟨g,c,cur,hv,_,_,h1,h2,_⟩
 ·cases hv;omega
 ·cases hv;unfold maxLen at h2;omega
theorem ji{base:Nat}{e:TypeId}{size n:Nat}{v:Value}(h:w.ownsRow base e size v n xs):(w.drewN k).ownsRow base e size v n xs:=h
theorem kg{b:Nat}{o:Option Obj}(h:w.heap[b]? =o):(w.drewN k).heap[b]? =o:=h
theorem yC{B:Nat}(h:Below B w w'):Below B w (w'.drewN k):=⟨h.os,h.tape,h.output,h.size,h.block⟩
theorem mg{b:Nat}{v:Value}{t t':TypeId}(h:Y w b #[v] t)(c:Y w b #[v'] t'):v=v':=by
 rw[h] at c;simp only[Option.some.injEq,Obj.cells.injEq] at c;simpa using c.1
theorem nJ{row:Option Nat}(h:W.grownBy W' row):W.grownBy W'.drew row:=⟨h.os,h.tape,h.output,h.size,h.block⟩
theorem oI (W:World)(row:Option Nat):W.grownBy W row:=⟨rfl,rfl,rfl,Je _,fun _ _ _=>rfl⟩
theorem yL (B:Nat)(w:World)(n:Nat):Below B w (w.drewN n):=⟨rfl,rfl,rfl,Je _,fun _ _=>rfl⟩
theorem jU{b o:Nat}{v:Value}(h:T w b o v):b<w.heap.size:=Jw w _ h
theorem bcell(hb:L W w1):(∀b o,b<W.heap.size->w1.cell? ⟨b,o,none⟩=W.cell? ⟨b,o,none⟩)/\(∀b o,b<W.heap.size->w1.frozen? ⟨b,o,none⟩=W.frozen? ⟨b,o,none⟩):=
 ⟨fun b o h=>hb.cell (p:=⟨b,o,none⟩) h,fun b o h=>hb.frozen (p:=⟨b,o,none⟩) h⟩
theorem zh {k:IntKind}{a b:Int}(h:a=b):Ending.returned (.int k a)=.returned (.int k b):=by rw[h]
theorem rH {a b:Bool}(h:a=b):Ending.returned (.bool a)=.returned (.bool b):=by rw[h]
def I64 (x:Int):Prop:=-9223372036854775808<=x/\x<=9223372036854775807
def wz (n:Nat):Value:=.int .u8 (n:Int)
def vL (n:Nat):Value:=U n
theorem p7{base C:Nat}{e:TypeId}{size n:Nat}{v:Value}(h:w.ownsRow base e size v n xs)(hb:Below C w w')(i:w.heap.size<=C):w'.ownsRow base e size v n xs:=by
 refine⟨h.1,?_⟩;rcases h.2 with h2|⟨g,d,cur,rfl,hg,c,r⟩
 ·exact .inl h2
 ·exact .inr ⟨g,d,cur,rfl,hg,zH hb c (by have:=lt_of_block c;omega),r⟩
def yN {α:Type}(sz:Nat)(R:World->Nat->Nat->Nat->α->Prop)(w:World)(B:Nat)(v:Value)(xs:List α):Prop:=
 ∃(a:Option Addr) (cap:Nat),v=.slice a xs.length cap/\xs.length<=cap/\cap<=9223372036854775807/\∀(k:Nat) (x:α),xs[k]? =some x->∃b o,a=some ⟨b,o,none⟩/\b<B/\R w B b (o+k*sz) x
def vV {α:Type}(R:World->Nat->Nat->Nat->α->Prop):Prop:=(∀w w' B b q x,b<B->Below B w w'->R w B b q x->R w' B b q x)/\∀w B B' b q x,B<=B'->R w B b q x->R w B' b q x
theorem yN.below{α:Type}{sz:Nat}{R:World->Nat->Nat->Nat->α->Prop}(g:vV R){B:Nat}{v:Value}{xs:List α}(h:yN sz R w B v xs)(hb:Below B w w'):yN sz R w' B v xs:=by
 obtain⟨a,d,rfl,h1,h2,h3⟩:=h;refine⟨a,d,rfl,h1,h2,fun k x hk=>?_⟩;obtain⟨b,o,j,c,i⟩:=h3 k x hk;exact⟨b,o,j,c,g.1 _ _ _ _ _ _ c hb i⟩
theorem yN.mono{α:Type}{sz:Nat}{R:World->Nat->Nat->Nat->α->Prop}(d:vV R){B:Nat}{v:Value}{xs:List α}(h:yN sz R w B v xs)(hb:B<=B'):yN sz R w B' v xs:=by
 obtain⟨a,c,rfl,h1,h2,h3⟩:=h;refine⟨a,c,rfl,h1,h2,fun k x hk=>?_⟩;obtain⟨b,o,i,j,g⟩:=h3 k x hk;exact⟨b,o,i,by omega,d.2 _ _ _ _ _ _ hb g⟩
theorem yN.form{α:Type}{sz:Nat}{R:World->Nat->Nat->Nat->α->Prop}{B:Nat}{v:Value}{xs:List α}(h:yN sz R w B v xs):∃a cap,v=.slice a xs.length cap/\xs.length<=cap/\cap<=9223372036854775807:=
 let⟨a,cap,e,h1,h2,_⟩:=h;⟨a,cap,e,h1,h2⟩
theorem yN.get{α:Type}{sz:Nat}{R:World->Nat->Nat->Nat->α->Prop}{B:Nat}{a:Option Addr}{n:Nat}{xs:List α}(h:yN sz R w B (.slice a n c) xs){x:α}(hk:xs[k]? =some x):
 ∃b o,a=some ⟨b,o,none⟩/\b<B/\R w B b (o+k*sz) x:=by
 obtain⟨a',d,e,_,_,h3⟩:=h;cases e;exact h3 k x hk
def IntR (w:World)(B b q:Nat)(x:Int):Prop:=T w b q (O x)/\I64 x
def U16R (w:World)(B b q:Nat)(x:Nat):Prop:=T w b q (U x)/\x<65536
def U8R (w:World)(B b q:Nat)(x:Nat):Prop:=T w b q (.int .u8 (x:Int))/\x<256
def StrR (w:World)(B b q:Nat)(x:ByteArray):Prop:=T w b q (.string x)/\x.size<=9223372036854775807
theorem zV{B:Nat}(hb:Below B w w'){b q:Nat}(hB:b<B){v:Value}(h:T w b q v):T w' b q v:=(hb.cell (p:=⟨b,q,none⟩) hB).trans h
theorem zO:vV IntR:=⟨fun w w' B b q x hB hb h=>⟨zV hb hB h.1,h.2⟩,fun w B B' b q x _ h=>h⟩
theorem zr:vV U16R:=⟨fun w w' B b q x hB hb h=>⟨zV hb hB h.1,h.2⟩,fun w B B' b q x _ h=>h⟩
theorem xQ:vV U8R:=⟨fun w w' B b q x hB hb h=>⟨zV hb hB h.1,h.2⟩,fun w B B' b q x _ h=>h⟩
theorem tN:vV StrR:=⟨fun w w' B b q x hB hb h=>⟨zV hb hB h.1,h.2⟩,fun w B B' b q x _ h=>h⟩
abbrev zY:=yN 1 IntR
abbrev wV:=yN 1 U16R
abbrev dL:=yN 1 U8R
abbrev adu:=yN 1 StrR
def ObjR (w:World)(B b q:Nat)(x:IObj):Prop:=
 T w b q (O x.bank)/\T w b (q+1) (U (x.addr:Int))/\T w b (q+2) (U (x.size:Int))/\I64 x.bank/\x.addr<65536/\x.size<65536
theorem tZ:vV ObjR:=⟨fun w w' B b q x hB hb h=>⟨zV hb hB h.1,zV hb hB h.2.1,zV hb hB h.2.2.1,h.2.2.2⟩,fun w B B' b q x _ h=>h⟩
abbrev kq:=yN 3 ObjR
def adz (w:World)(B b q:Nat)(x:IEdge):Prop:=
 T w b q (O x.block)/\I64 x.block/\∃av,T w b (q+1) av/\zY w B av x.args
theorem xL:vV adz:=
 ⟨fun w w' B b q x hB hb h=>by obtain⟨h1,h2,av,h3,c⟩:=h;exact⟨zV hb hB h1,h2,av,zV hb hB h3,c.below zO hb⟩,
  fun w B B' b q x hB h=>by obtain⟨h1,h2,av,h3,c⟩:=h;exact⟨h1,h2,av,h3,c.mono zO hB⟩⟩
abbrev wH:=yN 2 adz
def OpR (w:World)(B b q:Nat)(x:IOp):Prop:=
 T w b q (O x.code)/\T w b (q+1) (O x.res)/\T w b (q+2) (O x.a)/\T w b (q+3) (O x.b)/\T w b (q+4) (U (x.n:Int))/\
  (I64 x.code/\I64 x.res/\I64 x.a/\I64 x.b/\x.n<65536)/\∃av,T w b (q+5) av/\zY w B av x.args
theorem xA:vV OpR:=
 ⟨fun w w' B b q x hB hb h=>by obtain⟨h1,h2,h3,j,i,g,av,d,c⟩:=h;exact⟨zV hb hB h1,zV hb hB h2,zV hb hB h3,zV hb hB j,zV hb hB i,g,av,zV hb hB d,c.below zO hb⟩,
  fun w B B' b q x hB h=>by obtain⟨h1,h2,h3,j,i,g,av,d,c⟩:=h;exact⟨h1,h2,h3,j,i,g,av,d,c.mono zO hB⟩⟩
abbrev mN:=yN 6 OpR
def BlkR (w:World)(B b q:Nat)(x:IBlk):Prop:=
 T w b (q+2) (O x.term.kind)/\T w b (q+3) (O x.term.a)/\(I64 x.term.kind/\I64 x.term.a)/\
  ∃pv ov tv,T w b q pv/\T w b (q+1) ov/\T w b (q+4) tv/\zY w B pv x.params/\mN w B ov x.ops/\wH w B tv x.term.to
theorem yT:vV BlkR:=
 ⟨fun w w' B b q x hB hb h=>by obtain⟨h1,h2,h3,pv,ov,tv,k,j,i,g,d,c⟩:=h;exact⟨zV hb hB h1,zV hb hB h2,h3,pv,ov,tv,zV hb hB k,zV hb hB j,zV hb hB i,g.below zO hb,d.below xA hb,c.below xL hb⟩,
  fun w B B' b q x hB h=>by obtain⟨h1,h2,h3,pv,ov,tv,k,j,i,g,d,c⟩:=h;exact⟨h1,h2,h3,pv,ov,tv,k,j,i,g.mono zO hB,d.mono xA hB,c.mono xL hB⟩⟩
abbrev wX:=yN 5 BlkR
def FuncR (w:World)(B b q:Nat)(x:List IBlk):Prop:=∃bv,T w b q bv/\wX w B bv x
theorem vR:vV FuncR:=
 ⟨fun w w' B b q x hB hb h=>by obtain⟨bv,h1,h2⟩:=h;exact⟨bv,zV hb hB h1,h2.below yT hb⟩,
  fun w B B' b q x hB h=>by obtain⟨bv,h1,h2⟩:=h;exact⟨bv,h1,h2.mono yT hB⟩⟩
abbrev iS:=yN 1 FuncR
structure PV where
 fv:Value
 av:Value
 dv:Value
 bv:Value
structure ProgIn (w:World) (B:Nat) (V:PV) (p:IProg):Prop where
 funcs:iS w B V.fv p.funcs
 args:zY w B V.av p.args
 data:kq w B V.dv p.data
 banks:adu w B V.bv p.banks
 ent:I64 p.entry
 hnd:I64 p.handler
theorem ProgIn.below{B:Nat}{V:PV}{p:IProg}(h:ProgIn w B V p)(hb:Below B w w'):ProgIn w' B V p:=
 ⟨h.funcs.below vR hb,h.args.below zO hb,h.data.below tZ hb,h.banks.below tN hb,h.ent,h.hnd⟩
theorem ProgIn.mono{B:Nat}{V:PV}{p:IProg}(h:ProgIn w B V p)(hb:B<=B'):ProgIn w B' V p:=
 ⟨h.funcs.mono vR hb,h.args.mono zO hb,h.data.mono tZ hb,h.banks.mono tN hb,h.ent,h.hnd⟩
structure MK where
 E:IEnv
 V:PV
 inv:Value
 irqv:Value
 pm:Nat
 rb:Nat
 B:Nat
variable {K:MK}
def r9 (K:MK)(m:Mach)(ov:Value):Array Value:=
 #[K.V.fv,K.V.av,O K.E.p.entry,O K.E.p.handler,K.V.dv,K.V.bv,Q K.rb 8192 8192,K.inv,K.irqv,O m.fuel,ov,O (m.inputs:Int),O (m.polls:Int)]
def qO (l:List (Nat×Nat)):List Value:=(l.map fun p=> [vL p.1,vL p.2]).flatten
structure MachAt (w:World) (K:MK) (m:Mach) (ov:Value):Prop where
 blk:w.heap[K.pm]? =some (.cells (r9 K m ov) 104 (0,0))
 ram:w.heap[K.rb]? =some (.cells (m.ram.map wz).toArray 5 (0,0))
 rlen:m.ram.length=8192
 rlt:∀x∈m.ram,x<256
 out:w.ownsRow K.B 87 2 ov m.out.length (qO m.out)
 olt:∀p∈m.out,p.1<65536/\p.2<65536
 obd:m.out.length+m.fuel.toNat<=4000000
 fuel:I64 m.fuel
 inp:m.inputs<=K.E.inn.length
 pol:m.polls<=K.E.irq.length
 gpm:K.B<=K.pm
 grb:K.B<=K.rb
 prog:ProgIn w K.B K.V K.E.p
 inn:wV w K.B K.inv K.E.inn
 irq:dL w K.B K.irqv K.E.irq
def sA:Obj->Prop
 |.cells _ t _=>t≠104/\t≠87/\t≠5
 |_=>True
structure Frm (B:Nat) (w w':World):Prop where
 below:Below B w w'
 kept:∀(k:Nat) (o:Obj),w.heap[k]? =some o->sA o->w'.heap[k]? =some o
theorem Frm.refl (B:Nat)(w:World):Frm B w w:=⟨Below.refl _ _,fun _ _ h _=>h⟩
theorem Frm.trans {B:Nat}{a b c:World}(h:Frm B a b)(k:Frm B b c):Frm B a c:=⟨h.below.trans k.below,fun i o hi hs=>k.kept i o (h.kept i o hi hs) hs⟩
theorem Frm.drewN{B n:Nat}{a:World}(h:Frm B a w):Frm B a (w.drewN n):=⟨yC h.below,h.kept⟩
theorem Frm.alloc{B:Nat}{a:World}(h:Frm B a w)(hB:B<=a.heap.size)(o:Obj):Frm B a (w.alloc o):=⟨h.below.alloc (Jn hB h.below.size) o,fun i o' hi hs=>zB (h.kept i o' hi hs)⟩
theorem Frm.set{B:Nat}{a:World}(h:Frm B a w){b:Nat}{cs:Array Value}{t:TypeId}(hb:Y w b cs t)(hB:B<=b)(c:¬sA (A cs t))(u:Value):Frm B a (w.setCell ⟨b,i,none⟩ u):=
 ⟨h.below.setCell hB u,fun k o hk hs=>by
   have h1:=h.kept k o hk hs;refine zR h1 ?_;rintro rfl;rw[hb] at h1
   exact c (by rw[Nt h1];exact hs)⟩
def oE (k i:Nat):PanicEntry:= {v:=.iface 107 (.agg #[O k,U i]),recovered:=false }
def endOf:Res Nat->Ending
 |.ok x _=> .returned (U x)
 |.trap k i _=> .panicked [oE k i]
def Res.mach {α:Type}:Res α->Mach
 |.ok _ m=>m
 |.trap _ _ m=>m
theorem MachAt.cell {w:World}{K:MK}{m:Mach}{ov:Value}(h:MachAt w K m ov){i:Nat}{v:Value}(hv:(r9 K m ov)[i]? =some v):T w K.pm i v:=zA h.blk hv
section
variable {w:World} {K:MK} {m:Mach} {ov:Value} (h:MachAt w K m ov)
include h
theorem MachAt.c0:T w K.pm 0 K.V.fv:=h.cell rfl
theorem MachAt.c3:T w K.pm 3 (O K.E.p.handler):=h.cell rfl
theorem MachAt.c4:T w K.pm 4 K.V.dv:=h.cell rfl
theorem MachAt.c5:T w K.pm 5 K.V.bv:=h.cell rfl
theorem MachAt.c6:T w K.pm 6 (Q K.rb 8192 8192):=h.cell rfl
theorem MachAt.c7:T w K.pm 7 K.inv:=h.cell rfl
theorem MachAt.c8:T w K.pm 8 K.irqv:=h.cell rfl
theorem MachAt.c9:T w K.pm 9 (O m.fuel):=h.cell rfl
theorem MachAt.c10:T w K.pm 10 ov:=h.cell rfl
theorem MachAt.c11:T w K.pm 11 (O (m.inputs:Int)):=h.cell rfl
theorem MachAt.c12:T w K.pm 12 (O (m.polls:Int)):=h.cell rfl
end
theorem MachAt.free{ov:Value}(h:MachAt w K m ov)(i:Nat):N w K.pm i:=zE h.blk
theorem MachAt.keep{ov:Value}(h:MachAt w K m ov)(hb:L w w'):MachAt w' K m ov:=
 ⟨zH hb h.blk (lt_of_block h.blk),zH hb h.ram (lt_of_block h.ram),h.rlen,h.rlt,p7 h.out hb (Je _),h.olt,h.obd,h.fuel,h.inp,h.pol,h.gpm,h.grb,
  h.prog.below (hb.mono (Jn h.gpm (Qd (lt_of_block h.blk)))),h.inn.below zr (hb.mono (Jn h.gpm (Qd (lt_of_block h.blk)))),h.irq.below xQ (hb.mono (Jn h.gpm (Qd (lt_of_block h.blk))))⟩
theorem MachAt.drewN{ov:Value}(h:MachAt w K m ov)(n:Nat):MachAt (w.drewN n) K m ov:=h.keep (yL _ _ _)
theorem MachAt.size{ov:Value}(h:MachAt w K m ov):K.B<w.heap.size:=Nat.lt_of_le_of_lt h.gpm (lt_of_block h.blk)
theorem wj (k i:Nat)(w:World):G 80 #[O k,U i] w fun e w'=>e=.panicked [oE k i]/\w=w':=by
 go_enter Try.func80,Try.ntmps80;go_wp2;exact⟨rfl,rfl,rfl⟩
theorem MachAt.setF{ov:Value}(h:MachAt w K m ov)(f:Int)(hf:I64 f)(hb:m.out.length+f.toNat<=4000000)(c:K.rb≠K.pm):MachAt (w.setCell ⟨K.pm,9,none⟩ (O f)) K {m with fuel:=f } ov:=by
 refine⟨?_,zR h.ram (by simpa using c),h.rlen,h.rlt,ownsRow_setCell_other h.out ?_ _,h.olt,hb,hf,h.inp,h.pol,h.gpm,h.grb,?_,?_,?_⟩
 ·rw[zD h.blk];rfl
 ·intro e;exact zC h.out h.blk (.inr Zd) (by simpa using e)
 ·exact h.prog.below ((Below.refl _ _).setCell h.gpm _)
 ·exact h.inn.below zr ((Below.refl _ _).setCell h.gpm _)
 ·exact h.irq.below xQ ((Below.refl _ _).setCell h.gpm _)
theorem MachAt.setI{ov:Value}(h:MachAt w K m ov)(d:m.inputs<K.E.inn.length)(c:K.rb≠K.pm):MachAt (w.setCell ⟨K.pm,11,none⟩ (O ((m.inputs:Int)+1))) K {m with inputs:=m.inputs+1 } ov:=by
 refine⟨?_,zR h.ram (by simpa using c),h.rlen,h.rlt,ownsRow_setCell_other h.out ?_ _,h.olt,h.obd,h.fuel,d,h.pol,h.gpm,h.grb,?_,?_,?_⟩
 ·rw[zD h.blk];rfl
 ·intro e;exact zC h.out h.blk (.inr Zd) (by simpa using e)
 ·exact h.prog.below ((Below.refl _ _).setCell h.gpm _)
 ·exact h.inn.below zr ((Below.refl _ _).setCell h.gpm _)
 ·exact h.irq.below xQ ((Below.refl _ _).setCell h.gpm _)
theorem MachAt.setP{ov:Value}(h:MachAt w K m ov)(d:m.polls<K.E.irq.length)(c:K.rb≠K.pm):MachAt (w.setCell ⟨K.pm,12,none⟩ (O ((m.polls:Int)+1))) K {m with polls:=m.polls+1 } ov:=by
 refine⟨?_,zR h.ram (by simpa using c),h.rlen,h.rlt,ownsRow_setCell_other h.out ?_ _,h.olt,h.obd,h.fuel,h.inp,d,h.gpm,h.grb,?_,?_,?_⟩
 ·rw[zD h.blk];rfl
 ·intro e;exact zC h.out h.blk (.inr Zd) (by simpa using e)
 ·exact h.prog.below ((Below.refl _ _).setCell h.gpm _)
 ·exact h.inn.below zr ((Below.refl _ _).setCell h.gpm _)
 ·exact h.irq.below xQ ((Below.refl _ _).setCell h.gpm _)
theorem MachAt.ne{ov:Value}(h:MachAt w K m ov):K.rb≠K.pm:=by
 intro e;have h1:=h.blk;have h2:=h.ram;rw[e,h1] at h2;simp at h2
theorem qG (a:Nat):wo a=true↔16384<=a/\a<24576:=by unfold wo;rw[Jm,decide_eq_true_eq,decide_eq_true_eq]
theorem MachAt.ramCell{ov:Value}(h:MachAt w K m ov){a:Nat}(d:wo a=true):T w K.rb (a-16384) (.int .u8 (tC m a:Nat))/\tC m a<256/\N w K.rb (a-16384):=by
 have h1:=(qG a).1 d;obtain⟨x,c⟩:∃x,m.ram[a-16384]? =some x:=⟨_,Jd (by rw[h.rlen];omega)⟩
 have e:tC m a=x:=by unfold tC;rw[Jj,c];rfl
 rw[e];exact⟨zA h.ram (by simp[c,wz]),h.rlt x (Ji c),zE h.ram⟩
theorem MachAt.setR{ov:Value}(h:MachAt w K m ov)(a x:Nat)(g:x<256):MachAt (w.setCell ⟨K.rb,a-16384,none⟩ (.int .u8 (x:Int))) K (m.put a x) ov/\Frm K.B w (w.setCell ⟨K.rb,a-16384,none⟩ (.int .u8 (x:Int))):=by
 have c:Frm K.B w (w.setCell ⟨K.rb,a-16384,none⟩ (.int .u8 (x:Int))):=(Frm.refl _ _).set h.ram h.grb (by simp[sA]) _;refine⟨⟨zR h.blk (by simpa using Ne.symm h.ne),?_,by simp[Mach.put,h.rlen],?_,ownsRow_setCell_other h.out ?_ _,h.olt,h.obd,h.fuel,h.inp,h.pol,h.gpm,h.grb,h.prog.below c.below,h.inn.below zr c.below,h.irq.below xQ c.below⟩,c⟩
 ·rw[zD h.ram];simp[Mach.put,wz,Ox]
 ·intro y d;rcases Qe d with d|rfl
  ·exact h.rlt y d
  ·exact g
 ·intro e;exact zC h.out h.ram (.inr Zd) (by simpa using e)
theorem kF (l:List (Nat×Nat))(p x:Nat):qO (l++ [(p,x)])=qO l++ [vL p,vL x]:=by unfold qO;rw[Js,List.flatten_append];rfl
theorem MachAt.setO{w2:World}{ov c:Value}{p x:Nat}(h:MachAt w K m ov)(hg:(w.alloc o).grownBy w2 ov.ownBlock)
 (d:w2.ownsRow K.B 87 2 c (m.out.length+1) (qO m.out++ [vL p,vL x])) (hp:p<65536) (l:x<65536) (hb:m.out.length+1+m.fuel.toNat<=4000000):
 MachAt (w2.setCell ⟨K.pm,10,none⟩ c) K {m with out:=m.out++ [(p,x)]} c/\Frm K.B w (w2.setCell ⟨K.pm,10,none⟩ c):=by
 have n1:=zC h.out h.blk (.inr Zd);have n2:=zC h.out h.ram (.inr Zd);have b2:=zL hg (zB h.blk) n1;have r2:=zL hg (zB h.ram) n2;have hB:=h.size
 have j:Frm K.B w w2:=by
  refine⟨((Below.refl _ _).alloc (Qd hB) o).grown hg Zt (fun k hk=>(h.out.lt k hk).1),fun k o' hk hs=>?_⟩;refine zL hg (zB hk) ?_;intro e;obtain⟨_,h2⟩:=h.out;rcases h2 with⟨hv,_⟩|⟨g,t,cur,hv,_,r,_⟩
  ·rw[hv] at e;simp[Value.ownBlock] at e
  ·rw[hv] at e;simp only[Value.ownBlock,Option.some.injEq] at e;subst e;rw[r] at hk;have:=Nt hk;subst this;exact hs.2.1 rfl
 have i:Frm K.B w (w2.setCell ⟨K.pm,10,none⟩ c):=j.set b2 h.gpm (by simp[sA]) _;refine⟨⟨?_,zR r2 (by simpa using h.ne),h.rlen,h.rlt,?_,?_,?_,h.fuel,h.inp,h.pol,h.gpm,h.grb,h.prog.below i.below,h.inn.below zr i.below,h.irq.below xQ i.below⟩,i⟩
 ·rw[zD b2];rfl
 ·have e1:(m.out++ [(p,x)]).length=m.out.length+1:=by simp
  show(w2.setCell ⟨K.pm,10,none⟩ c).ownsRow K.B 87 2 c (m.out++ [(p,x)]).length (qO (m.out++ [(p,x)]))
  rw[e1,kF];exact ownsRow_setCell_other d (by intro e;exact zC d b2 (.inr Zd) (by simpa using e)) _
 ·intro q hq;rcases Jl.1 hq with hq|hq
  ·exact h.olt q hq
  ·simp at hq;subst hq;exact⟨hp,l⟩
 ·show(m.out++ [(p,x)]).length+m.fuel.toNat<=4000000
  simp;omega
theorem MachAt.frm{ov:Value}(h:MachAt w K m ov)(i:Nat)(u:Value):Frm K.B w (w.setCell ⟨K.pm,i,none⟩ u):=(Frm.refl _ _).set h.blk h.gpm (by simp[sA]) u
theorem pay_no{ov:Value}(h:MachAt w K m ov)(hf:m.fuel<=0):G 81 #[I K.pm] w fun e w'=>e=.panicked [oE 7 0]/\w=w':=by
 have c9:=h.c9;clear h;go_enter Try.func81,Try.ntmps81;go_wp2_with (go_at_call 80;go_must (refine(wj 7 0 _).mono ?_;rintro e w' ⟨rfl,rfl⟩))
 exact⟨rfl,rfl,rfl⟩
theorem iN{ov:Value}(h:MachAt w K m ov)(hf:0<m.fuel):G 81 #[I K.pm] w fun e w'=>e=.returned (.tuple #[])/\MachAt w' K m.pay ov/\Frm K.B w w':=by
 have c9:=h.c9;have f9:=h.free 9;have d:=Ja (h.setF (m.fuel-1) (by have:=h.fuel;unfold I64 at *;omega) (by have:=h.obd;omega) h.ne);have c:=Ja (h.frm 9 (O (m.fuel-1)));have hb:m.fuel<=9223372036854775807:=h.fuel.2;clear h;go_enter Try.func81,Try.ntmps81;go_wp2
 go_end0
 exact⟨rfl,d.out,c.out⟩
theorem xY (n:Int):IntKind.u16.wrap n=n%65536:=by rw[IntKind.wrap_u16]
theorem mH (a:Nat)(h:a<65536):IntKind.i16.wrap (a:Int)=s16 a:=by
 unfold s16;show(if(true && decide ((a:Int)%2^16≥(2^15:Int))) then(a:Int)%2^16-2^16 else(a:Int)%2^16)=_;by_cases h2:a<32768
 ·rw[if_neg Zt,if_pos h2];omega
 ·rw[if_pos Zt,if_neg h2];omega
theorem ar5 (a b:Nat):IntKind.u16.wrap ((a:Int)+b)=((yW 5 a b:Nat):Int):=by rw[xY];show _=(((a+b)%65536:Nat):Int);omega
theorem ar6 (a b:Nat)(hb:b<65536):IntKind.u16.wrap ((a:Int)-b)=((yW 6 a b:Nat):Int):=by rw[xY];show _=(((a+(65536-b))%65536:Nat):Int);omega
theorem ar7 (a b:Nat):IntKind.u16.wrap ((a:Int)*b)=((yW 7 a b:Nat):Int):=by
 rw[xY];show _=((a*b%65536:Nat):Int);rw[Ou,Int.natCast_mul];rfl
theorem ar8 (a b:Nat)(c:a<65536):IntKind.u16.wrap ((a:Int)/b)=((yW 8 a b:Nat):Int):=by
 rw[xY];show _=((a/b:Nat):Int);rw[<-Int.natCast_ediv];have:=Nat.div_le_self a b;generalize a/b=x at *;omega
theorem ar9 (a b:Nat)(c:a<65536)(hb:b<65536):bits .and .u16 (a:Int) b=((yW 9 a b:Nat):Int):=(bits_nat .u16 16 Zd wraps_u16 a b c hb).1
theorem ar10 (a b:Nat)(c:a<65536)(hb:b<65536):bits .or .u16 (a:Int) b=((yW 10 a b:Nat):Int):=(bits_nat .u16 16 Zd wraps_u16 a b c hb).2
theorem ar11 (a b:Nat)(c:a<65536)(hb:b<65536):bits .xor .u16 (a:Int) b=((yW 11 a b:Nat):Int):=by
 show IntKind.u16.wrap (((BitVec.ofInt 16 (a:Int))^^^(BitVec.ofInt 16 (b:Int))).toNat:Int)=((a^^^b:Nat):Int)
 have e1:(BitVec.ofInt 16 (a:Int)).toNat=a:=by rw[BitVec.ofInt_natCast,BitVec.toNat_ofNat];exact Nat.mod_eq_of_lt c
 have e2:(BitVec.ofInt 16 (b:Int)).toNat=b:=by rw[BitVec.ofInt_natCast,BitVec.toNat_ofNat];exact Nat.mod_eq_of_lt hb
 rw[BitVec.toNat_xor,e1,e2,xY];have:a^^^b<65536:=Nat.xor_lt_two_pow (n:=16) c hb;generalize a^^^b=x at *;omega
theorem ar12 (a b:Nat):IntKind.u16.wrap ((a:Int)*2^(b%16))=((yW 12 a b:Nat):Int):=by
 rw[xY];show _=((a*2^(b%16)%65536:Nat):Int);rw[Ou,Int.natCast_mul,Int.natCast_pow];rfl
theorem ar13 (a b:Nat):(a:Int)/2^(b%16)=((yW 13 a b:Nat):Int):=by
 show _=((a/2^(b%16):Nat):Int);rw[Int.natCast_ediv,Int.natCast_pow];rfl
theorem ar14 (a b:Nat)(c:a<65536):IntKind.u16.wrap (IntKind.i16.wrap (a:Int)/2^(b%16))=((yW 14 a b:Nat):Int):=by
 rw[mH a c,xY];show _=((((s16 a/2^(b%16))%65536).toNat:Nat):Int);omega
theorem ar15 (a b:Nat):(iw ((a:Int)==(b:Int)):Nat)=yW 15 a b:=by
 show _=iw (decide (a=b));congr 1;rw[Bool.eq_iff_iff,beq_iff_eq,decide_eq_true_eq];omega
theorem ar17 (a b:Nat)(c:a<65536)(hb:b<65536):(iw (decide (IntKind.i16.wrap (a:Int)<IntKind.i16.wrap (b:Int))):Nat)=yW 17 a b:=by
 rw[mH a c,mH b hb];rfl
theorem jz (c:Int)(a b:Nat)(g:a<65536)(hb:b<65536):yW c a b<65536:=by
 have k:∀x,a/x<65536:=fun x=>Nat.lt_of_le_of_lt (Nat.div_le_self _ _) g
 have hm:∀x,x%65536<65536:=fun x=>Qj _ Zd
 have d:∀b,iw b<65536:=fun b=>by cases b<;>decide
 unfold yW
 by_cases c5:c=5;· rw[if_pos c5];exact hm _
 rw[if_neg c5];by_cases c6:c=6;· rw[if_pos c6];exact hm _
 rw[if_neg c6];by_cases c7:c=7;· rw[if_pos c7];exact hm _
 rw[if_neg c7];by_cases c8:c=8;· rw[if_pos c8];exact k _
 rw[if_neg c8];by_cases c9:c=9;· rw[if_pos c9];exact Nat.lt_of_le_of_lt Nat.and_le_left g
 rw[if_neg c9];by_cases c10:c=10;· rw[if_pos c10];exact Nat.or_lt_two_pow (n:=16) g hb
 rw[if_neg c10];by_cases c11:c=11;· rw[if_pos c11];exact Nat.xor_lt_two_pow (n:=16) g hb
 rw[if_neg c11];by_cases c12:c=12;· rw[if_pos c12];exact hm _
 rw[if_neg c12];by_cases c13:c=13;· rw[if_pos c13];exact k _
 rw[if_neg c13];by_cases j:c=14;· rw[if_pos j];omega
 rw[if_neg j];by_cases i:c=15;· rw[if_pos i];exact d _
 rw[if_neg i];by_cases h:c=16;· rw[if_pos h];exact d _
 rw[if_neg h];exact d _
theorem qD (b:Bool)(w:World):G 123 #[.bool b] w fun e w'=>e=.returned (U (iw b:Nat))/\w=w':=by
 cases b<;>go_enter Try.func123,Try.ntmps123<;>go_wp2<;>go_ret<;>exact⟨rfl,rfl⟩
theorem arith_5 (a b:Nat)(c:a<65536)(hb:b<65536)(w:World):G 111 #[O 5,U a,U b] w fun e w'=>e=.returned (U (yW 5 a b:Nat))/\w=w':=by
 go_enter Try.func111,Try.ntmps111;go_wp2
 all_goals go_ret
 all_goals refine⟨zh ?_,rfl⟩
 all_goals exact ar5 a b
theorem arith_6 (a b:Nat)(c:a<65536)(hb:b<65536)(w:World):G 111 #[O 6,U a,U b] w fun e w'=>e=.returned (U (yW 6 a b:Nat))/\w=w':=by
 go_enter Try.func111,Try.ntmps111;go_wp2
 all_goals go_ret
 all_goals refine⟨zh ?_,rfl⟩
 all_goals exact ar6 a b hb
theorem arith_7 (a b:Nat)(c:a<65536)(hb:b<65536)(w:World):G 111 #[O 7,U a,U b] w fun e w'=>e=.returned (U (yW 7 a b:Nat))/\w=w':=by
 go_enter Try.func111,Try.ntmps111;go_wp2
 all_goals go_ret
 all_goals refine⟨zh ?_,rfl⟩
 all_goals exact ar7 a b
theorem arith_8 (a b:Nat)(c:a<65536)(hb:b<65536)(d:b≠0)(w:World):G 111 #[O 8,U a,U b] w fun e w'=>e=.returned (U (yW 8 a b:Nat))/\w=w':=by
 have h1:((b:Int)==0)=false:=Ze;have h2:¬(b:Int)=0:=Zo;clear d;go_enter Try.func111,Try.ntmps111;go_wp2
 all_goals go_ret
 all_goals refine⟨zh ?_,rfl⟩
 all_goals exact ar8 a b c
theorem arith_80 (a:Nat)(w:World):G 111 #[O 8,U a,U ((0:Nat):Int)] w fun e w'=>e=.panicked [oE 4 0]/\w=w':=by
 go_enter Try.func111,Try.ntmps111;go_wp2_with (go_at_call 80;go_must (refine(wj 4 0 _).mono ?_;rintro e w' ⟨rfl,rfl⟩))
 exact⟨rfl,rfl,rfl⟩
theorem arith_9 (a b:Nat)(c:a<65536)(hb:b<65536)(w:World):G 111 #[O 9,U a,U b] w fun e w'=>e=.returned (U (yW 9 a b:Nat))/\w=w':=by
 go_enter Try.func111,Try.ntmps111;go_wp2
 all_goals go_ret
 all_goals refine⟨zh ?_,rfl⟩
 all_goals exact ar9 a b c hb
theorem arith_10 (a b:Nat)(c:a<65536)(hb:b<65536)(w:World):G 111 #[O 10,U a,U b] w fun e w'=>e=.returned (U (yW 10 a b:Nat))/\w=w':=by
 go_enter Try.func111,Try.ntmps111;go_wp2
 all_goals go_ret
 all_goals refine⟨zh ?_,rfl⟩
 all_goals exact ar10 a b c hb
theorem arith_11 (a b:Nat)(c:a<65536)(hb:b<65536)(w:World):G 111 #[O 11,U a,U b] w fun e w'=>e=.returned (U (yW 11 a b:Nat))/\w=w':=by
 go_enter Try.func111,Try.ntmps111;go_wp2
 all_goals go_ret
 all_goals refine⟨zh ?_,rfl⟩
 all_goals exact ar11 a b c hb
theorem arith_12 (a b:Nat)(c:a<65536)(hb:b<65536)(w:World):G 111 #[O 12,U a,U b] w fun e w'=>e=.returned (U (yW 12 a b:Nat))/\w=w':=by
 go_enter Try.func111,Try.ntmps111;go_wp2
 all_goals go_ret
 all_goals refine⟨zh ?_,rfl⟩
 all_goals exact ar12 a b
theorem arith_13 (a b:Nat)(c:a<65536)(hb:b<65536)(w:World):G 111 #[O 13,U a,U b] w fun e w'=>e=.returned (U (yW 13 a b:Nat))/\w=w':=by
 go_enter Try.func111,Try.ntmps111;go_wp2
 all_goals go_ret
 all_goals refine⟨zh ?_,rfl⟩
 all_goals exact ar13 a b
theorem arith_14 (a b:Nat)(c:a<65536)(hb:b<65536)(w:World):G 111 #[O 14,U a,U b] w fun e w'=>e=.returned (U (yW 14 a b:Nat))/\w=w':=by
 go_enter Try.func111,Try.ntmps111;go_wp2
 all_goals go_ret
 all_goals refine⟨zh ?_,rfl⟩
 all_goals exact ar14 a b c
theorem arith_15 (a b:Nat)(c:a<65536)(hb:b<65536)(w:World):G 111 #[O 15,U a,U b] w fun e w'=>e=.returned (U (yW 15 a b:Nat))/\w=w':=by
 go_enter Try.func111,Try.ntmps111;go_wp2_with (go_at_call 123;go_must (refine(qD _ _).mono ?_;rintro e w' ⟨rfl,rfl⟩))
 all_goals go_ret
 all_goals refine⟨zh ?_,rfl⟩
 all_goals exact congrArg _ (ar15 a b)
theorem arith_16 (a b:Nat)(c:a<65536)(hb:b<65536)(w:World):G 111 #[O 16,U a,U b] w fun e w'=>e=.returned (U (yW 16 a b:Nat))/\w=w':=by
 go_enter Try.func111,Try.ntmps111;go_wp2_with (go_at_call 123;go_must (refine(qD _ _).mono ?_;rintro e w' ⟨rfl,rfl⟩))
 all_goals go_ret
 all_goals refine⟨zh ?_,rfl⟩
 all_goals exact rfl
theorem arith_17 (a b:Nat)(c:a<65536)(hb:b<65536)(w:World):G 111 #[O 17,U a,U b] w fun e w'=>e=.returned (U (yW 17 a b:Nat))/\w=w':=by
 go_enter Try.func111,Try.ntmps111;go_wp2_with (go_at_call 123;go_must (refine(qD _ _).mono ?_;rintro e w' ⟨rfl,rfl⟩))
 all_goals go_ret
 all_goals refine⟨zh ?_,rfl⟩
 all_goals exact congrArg _ (ar17 a b c hb)
def rq (c:Int)(a b:Nat)(w:World)(e:Ending)(w':World):Prop:=e=(if c=8/\b=0 then .panicked [oE 4 0] else .returned (U (yW c a b:Nat)))/\w=w'
theorem jD (c:Int)(i:5<=c/\c<=17)(a b:Nat)(d:a<65536)(hb:b<65536)(w:World):G 111 #[O c,U a,U b] w (rq c a b w):=by
 unfold rq;have h:c=5∨c=6∨c=7∨c=8∨c=9∨c=10∨c=11∨c=12∨c=13∨c=14∨c=15∨c=16∨c=17:=Zo;rcases h with rfl|rfl|rfl|rfl|rfl|rfl|rfl|rfl|rfl|rfl|rfl|rfl|rfl
 ·rw[if_neg Zo];exact arith_5 a b d hb w
 ·rw[if_neg Zo];exact arith_6 a b d hb w
 ·rw[if_neg Zo];exact arith_7 a b d hb w
 ·by_cases g:b=0
  ·subst g;rw[if_pos ⟨rfl,rfl⟩];exact arith_80 a w
  ·rw[if_neg (fun h=>g h.2)];exact arith_8 a b d hb g w
 ·rw[if_neg Zo];exact arith_9 a b d hb w
 ·rw[if_neg Zo];exact arith_10 a b d hb w
 ·rw[if_neg Zo];exact arith_11 a b d hb w
 ·rw[if_neg Zo];exact arith_12 a b d hb w
 ·rw[if_neg Zo];exact arith_13 a b d hb w
 ·rw[if_neg Zo];exact arith_14 a b d hb w
 ·rw[if_neg Zo];exact arith_15 a b d hb w
 ·rw[if_neg Zo];exact arith_16 a b d hb w
 ·rw[if_neg Zo];exact arith_17 a b d hb w
def y9 (l:List Nat):ByteArray:=strOfNums (l.map fun(n:Nat)=>(n:Int))
def yV (x:Nat)(ov:Value)(k i:Nat)(s:ByteArray)(inp pol:Nat):Array Value:=#[U x,ov,O k,U i,.string s,O inp,O pol]
theorem mp{b:Nat}{l:List Nat}(h:Y w b (l.map wz).toArray 5)(hl:l.length=8192):
 (convert 37 9 (Q b 8192 8192)).run Try.prog w=.ok (.string (y9 l)) w:=by
 refine run_convert_bytes_arg w 37 5 Try.underlying37 Try.underlying5 b 0 8192 8192 (l.map fun(n:Nat)=>(n:Int)) (by simpa using hl) (fun i hi=>?_) 9 Try.underlying9;rw[Ng];have c:i<l.length:=Zo;refine zA h ?_;simp[Jj,Jd c,wz]
theorem zu{b:Nat}(h:w.grownBy w' (some b))(j:Nat)(v:Value):w.grownBy (w'.setCell ⟨b,j,none⟩ v) (some b):=
 ⟨h.os,h.tape,h.output,by have:=h.size;simpa[World.setCell] using this,fun q hq hn=>by rw[Below.heap_setCell _ _ _ _ (by simpa using hn)];exact h.block q hq hn⟩
structure FinS (K:MK) (m:Mach) (ov:Value) (b13 bt:Nat) (k i:Nat) (w':World):Prop where
 c13:w'.cell? ⟨b13,0,none⟩=some (.pointer (some ⟨K.pm,0,none⟩))
 c6:w'.cell? ⟨K.pm,6,none⟩=some (.slice (some ⟨K.rb,0,none⟩) 8192 8192)
 c10:w'.cell? ⟨K.pm,10,none⟩=some ov
 c11:w'.cell? ⟨K.pm,11,none⟩=some (.int .i64 (m.inputs:Int))
 c12:w'.cell? ⟨K.pm,12,none⟩=some (.int .i64 (m.polls:Int))
 t0:w'.cell? ⟨bt,0,none⟩=some (.int .i64 (k:Int))
 t1:w'.cell? ⟨bt,1,none⟩=some (.int .u16 (i:Int))
 ram:w'.heap[K.rb]? =some (.cells (m.ram.map wz).toArray 5 (0,0))
theorem FinS.set{ov:Value}(h:FinS K m ov b13 bt k i w')(n1:b12≠b13)(n2:b12≠K.pm)(n3:b12≠bt)(n4:b12≠K.rb)(j:Nat)(v:Value):FinS K m ov b13 bt k i (w'.setCell ⟨b12,j,none⟩ v):=by
 have c:∀ {b q:Nat} {x:Value},b12≠b->T w' b q x->T (w'.setCell ⟨b12,j,none⟩ v) b q x:=fun hn hc=>by
  rw[Oo (w:=w') (Below.heap_setCell _ _ _ _ (by simpa using Ne.symm hn))];exact hc
 exact⟨c n1 h.c13,c n2 h.c6,c n2 h.c10,c n2 h.c11,c n2 h.c12,c n3 h.t0,c n3 h.t1,zR h.ram (by simpa using Ne.symm n4)⟩
theorem FinS.drew{ov:Value}(h:FinS K m ov b13 bt k i w'):FinS K m ov b13 bt k i w'.drew:=⟨h.c13,h.c6,h.c10,h.c11,h.c12,h.t0,h.t1,h.ram⟩
theorem FinS.all{oa:Option Addr}{oc:Nat}(hrl:m.ram.length=8192)(h:FinS K m (.slice oa m.out.length oc) b13 bt k i w'):T w' b13 0 (I K.pm)/\T w' K.pm 6 (Q K.rb 8192 8192)/\T w' K.pm 10 (.slice oa m.out.length oc)/\T w' K.pm 11 (O (m.inputs:Int))/\T w' K.pm 12 (O (m.polls:Int))/\T w' bt 0 (O k)/\T w' bt 1 (U i)/\(convert 37 9 (Q K.rb 8192 8192)).run Try.prog w'=.ok (.string (y9 m.ram)) w':=⟨h.c13,h.c6,h.c10,h.c11,h.c12,h.t0,h.t1,mp h.ram hrl⟩
theorem pE{ov:Value}(h:MachAt w K m ov)(y:Y w b13 #[I K.pm] 102)(l:Y w b12 #[U 0,F,O 0,U 0,.string {data:=#[]},O 0,O 0] 57)(k i x:Nat):
 G 50 #[.agg #[O k,U i],U x,I b13,I b12] w fun e w'=>
  e=.returned (.tuple #[])/\Y w' b12 (yV x ov k i (y9 m.ram) m.inputs m.polls) 57/\w.grownBy w' (some b12):=by
 obtain⟨oa,oc,rfl⟩:=zG h.out;have hrl:=h.rlen;have n1:b12≠b13:=by rintro rfl;rw[l] at y;simp at y
 have n2:b12≠K.pm:=by rintro rfl;rw[h.blk] at l;simp[r9] at l
 have n4:b12≠K.rb:=by
  rintro rfl;rw[h.ram] at l;have:=congrArg (fun o=>match o with|some (Obj.cells _ t _)=>t|_=>0) l;simp at this
 have n3:b12≠w.heap.size:=by have:=lt_of_block l;omega
 have b:=(Below.refl w.heap.size w).alloc (Je _) (A #[O k,U i] 55);have hM:=h.keep b
 have q:FinS K m (.slice oa m.out.length oc) b13 w.heap.size k i (w.alloc (A #[O k,U i] 55)):=
  ⟨zA (zB y) Zs,hM.c6,hM.c10,hM.c11,hM.c12,zA (zI rfl) Zs,zA (zI rfl) Zs,hM.ram⟩
 have c:=zB (o:=A #[O k,U i] 55) l;have e9:w.grownBy (w.alloc (A #[O k,U i] 55)) (some b12):=Uo w _ _;have d0:T (w.alloc (A #[O k,U i] 55)) b12 0 (U 0):=zA c Zs;have f0:N (w.alloc (A #[O k,U i] 55)) b12 0:=zE c;have d1:T (w.alloc (A #[O k,U i] 55)) b12 1 (F):=zA c Zs;have f1:N (w.alloc (A #[O k,U i] 55)) b12 1:=zE c;have d2:T (w.alloc (A #[O k,U i] 55)) b12 2 (O 0):=zA c Zs;have f2:N (w.alloc (A #[O k,U i] 55)) b12 2:=zE c;have d3:T (w.alloc (A #[O k,U i] 55)) b12 3 (U 0):=zA c Zs;have f3:N (w.alloc (A #[O k,U i] 55)) b12 3:=zE c;have d4:T (w.alloc (A #[O k,U i] 55)) b12 4 (.string {data:=#[]}):=zA c Zs;have f4:N (w.alloc (A #[O k,U i] 55)) b12 4:=zE c;have d5:T (w.alloc (A #[O k,U i] 55)) b12 5 (O 0):=zA c Zs;have f5:N (w.alloc (A #[O k,U i] 55)) b12 5:=zE c;have d6:T (w.alloc (A #[O k,U i] 55)) b12 6 (O 0):=zA c Zs;have f6:N (w.alloc (A #[O k,U i] 55)) b12 6:=zE c;have HG:=Ja e9;have HB:=Ja c;clear h hM b y l e9 c;go_enter Try.func50,Try.ntmps50;go_upto_region 1 with fail;generalize hW:w.alloc (A #[O k,U i] 55)=W at *;generalize w.heap.size=bt at *;have u:∀w',FinS K m (.slice oa m.out.length oc) b13 bt k i w'->(convert 37 9 (Q K.rb 8192 8192)).run Try.prog w'=.ok (.string (y9 m.ram)) w':=fun w' hs=>mp hs.ram hrl
 have c1:=q.c13;have c2:=q.c6;have c3:=q.c10;have c4:=q.c11;have c5:=q.c12;have c6:=q.t0;have c7:=q.t1;have cc:=u _ q;have a5:∀(w':World) (j:Nat) (v:Value),FinS K m (.slice oa m.out.length oc) b13 bt k i w'->FinS K m (.slice oa m.out.length oc) b13 bt k i (w'.setCell ⟨b12,j,none⟩ v):=fun w' j v hs=>hs.set n1 n2 n3 n4 j v
 have d:=Ja a5;have h8:=Ja u;have HS:=Ja q;clear a5 u q hW;refine wp_region_noPanic ?_;refine wp_region_held_drew (S:=(fun w'=>T w' b13 0 (I K.pm)/\T w' K.pm 6 (Q K.rb 8192 8192)/\T w' K.pm 10 (.slice oa m.out.length oc)/\T w' K.pm 11 (O (m.inputs:Int))/\T w' K.pm 12 (O (m.polls:Int))/\T w' bt 0 (O k)/\T w' bt 1 (U i)/\(convert 37 9 (Q K.rb 8192 8192)).run Try.prog w'=.ok (.string (y9 m.ram)) w')) Zk (HS.out.drew.all hrl) (fun hHeld=>?_);have f7:=Ja HS.out.drew;have g:=Ja (show W.drew.heap[b12]? =_ from HB.out);have h4:=Ja (show w.grownBy W.drew (some b12) from⟨HG.out.os,HG.out.tape,HG.out.output,HG.out.size,HG.out.block⟩);clear c1 c2 c3 c4 c5 c6 c7 cc HS HB HG d0 f0 d1 f1 d2 f2 d3 f3 d4 f4 d5 f5 d6 f6;generalize W.drew=Wa at *;refine Th 0 ?_
 try simp only[Yp]
 refine Th 1 ?_
 try simp only[Yp]
 refine Th 2 ?_
 try simp only[Yp]
 refine Th 3 ?_
 try simp only[Yp]
 refine Th 4 ?_
 try simp only[Yp]
 refine Th 5 ?_
 try simp only[Yp]
 refine Th 6 ?_
 try simp only[Yp]
 refine Th 7 ?_
 try simp only[Yp]
 refine Th 8 ?_
 try simp only[Yp]
 refine Th 9 ?_
 try simp only[Yp]
 refine Th 10 ?_
 try simp only[Yp]
 refine Th 11 ?_
 try simp only[Yp]
 refine Th 12 ?_
 try simp only[Yp]
 refine Th 13 ?_
 try simp only[Yp]
 refine Th 14 ?_
 try simp only[Yp]
 refine Th 15 ?_
 try simp only[Yp]
 refine Th 16 ?_
 try simp only[Yp]
 refine Th 17 ?_
 try simp only[Yp]
 refine Th 18 ?_
 try simp only[Yp]
 have e0:=K0 g.out;have g0:N Wa b12 0:=zE g.out;have e1:=K1 g.out;have g1:N Wa b12 1:=zE g.out;have e2:=K2 g.out;have g2:N Wa b12 2:=zE g.out;have e3:=K3 g.out;have g3:N Wa b12 3:=zE g.out;have e4:=K4 g.out;have g4:N Wa b12 4:=zE g.out;have e5:=K5 g.out;have g5:N Wa b12 5:=zE g.out;have e6:=K6 g.out;have g6:N Wa b12 6:=zE g.out;refine wpAnyH_ready (rs:=[19]) Zk Zs ?_;refine AllReadyH.cons (o:=_) rfl (fun K hK=>?_) ?_
 ·skip
  go_simp;have e8:=Ja (d.out ((((((Wa.setCell ⟨b12,0,none⟩ (U 0)).setCell ⟨b12,1,none⟩ (F)).setCell ⟨b12,2,none⟩ (O 0)).setCell ⟨b12,3,none⟩ (U 0)).setCell ⟨b12,4,none⟩ (.string {data:=#[]})).setCell ⟨b12,5,none⟩ (O 0)) 6 (O 0) (d.out (((((Wa.setCell ⟨b12,0,none⟩ (U 0)).setCell ⟨b12,1,none⟩ (F)).setCell ⟨b12,2,none⟩ (O 0)).setCell ⟨b12,3,none⟩ (U 0)).setCell ⟨b12,4,none⟩ (.string {data:=#[]})) 5 (O 0) (d.out ((((Wa.setCell ⟨b12,0,none⟩ (U 0)).setCell ⟨b12,1,none⟩ (F)).setCell ⟨b12,2,none⟩ (O 0)).setCell ⟨b12,3,none⟩ (U 0)) 4 (.string {data:=#[]}) (d.out (((Wa.setCell ⟨b12,0,none⟩ (U 0)).setCell ⟨b12,1,none⟩ (F)).setCell ⟨b12,2,none⟩ (O 0)) 3 (U 0) (d.out ((Wa.setCell ⟨b12,0,none⟩ (U 0)).setCell ⟨b12,1,none⟩ (F)) 2 (O 0) (d.out (Wa.setCell ⟨b12,0,none⟩ (U 0)) 1 (F) (d.out Wa 0 (U 0) f7.out)))))));have c0:Y (Wa.setCell ⟨b12,0,none⟩ (U 0)) b12 #[U 0,F,O 0,U 0,.string {data:=#[]},O 0,O 0] 57:=by rw[zD g.out];rfl
  have b9:Y ((Wa.setCell ⟨b12,0,none⟩ (U 0)).setCell ⟨b12,1,none⟩ (F)) b12 #[U 0,F,O 0,U 0,.string {data:=#[]},O 0,O 0] 57:=by rw[zD c0];rfl
  have b8:Y (((Wa.setCell ⟨b12,0,none⟩ (U 0)).setCell ⟨b12,1,none⟩ (F)).setCell ⟨b12,2,none⟩ (O 0)) b12 #[U 0,F,O 0,U 0,.string {data:=#[]},O 0,O 0] 57:=by rw[zD b9];rfl
  have b7:Y ((((Wa.setCell ⟨b12,0,none⟩ (U 0)).setCell ⟨b12,1,none⟩ (F)).setCell ⟨b12,2,none⟩ (O 0)).setCell ⟨b12,3,none⟩ (U 0)) b12 #[U 0,F,O 0,U 0,.string {data:=#[]},O 0,O 0] 57:=by rw[zD b8];rfl
  have b6:Y (((((Wa.setCell ⟨b12,0,none⟩ (U 0)).setCell ⟨b12,1,none⟩ (F)).setCell ⟨b12,2,none⟩ (O 0)).setCell ⟨b12,3,none⟩ (U 0)).setCell ⟨b12,4,none⟩ (.string {data:=#[]})) b12 #[U 0,F,O 0,U 0,.string {data:=#[]},O 0,O 0] 57:=by rw[zD b7];rfl
  have b5:Y ((((((Wa.setCell ⟨b12,0,none⟩ (U 0)).setCell ⟨b12,1,none⟩ (F)).setCell ⟨b12,2,none⟩ (O 0)).setCell ⟨b12,3,none⟩ (U 0)).setCell ⟨b12,4,none⟩ (.string {data:=#[]})).setCell ⟨b12,5,none⟩ (O 0)) b12 #[U 0,F,O 0,U 0,.string {data:=#[]},O 0,O 0] 57:=by rw[zD b6];rfl
  have b4:Y (((((((Wa.setCell ⟨b12,0,none⟩ (U 0)).setCell ⟨b12,1,none⟩ (F)).setCell ⟨b12,2,none⟩ (O 0)).setCell ⟨b12,3,none⟩ (U 0)).setCell ⟨b12,4,none⟩ (.string {data:=#[]})).setCell ⟨b12,5,none⟩ (O 0)).setCell ⟨b12,6,none⟩ (O 0)) b12 #[U 0,F,O 0,U 0,.string {data:=#[]},O 0,O 0] 57:=by rw[zD b5];rfl
  have a4:=Ja b4;have h0:=Ja (zu (zu (zu (zu (zu (zu (zu h4.out 0 (U 0)) 1 (F)) 2 (O 0)) 3 (U 0)) 4 (.string {data:=#[]})) 5 (O 0)) 6 (O 0));refine hK.out _ _ (FinS.all hrl e8.out) (fun hHeld=>?_);clear hK K e0 g0 e1 g1 e2 g2 e3 g3 e4 g4 e5 g5 e6 g6 c0 b9 b8 b7 b6 b5 b4 f7 g h4
  try simp only[Yp]
  generalize (((((((Wa.setCell ⟨b12,0,none⟩ (U 0)).setCell ⟨b12,1,none⟩ (F)).setCell ⟨b12,2,none⟩ (O 0)).setCell ⟨b12,3,none⟩ (U 0)).setCell ⟨b12,4,none⟩ (.string {data:=#[]})).setCell ⟨b12,5,none⟩ (O 0)).setCell ⟨b12,6,none⟩ (O 0))=Wb at *;refine Th 20 ?_
  try simp only[Yp]
  have e0:=K0 a4.out;have g0:N Wb b12 0:=zE a4.out;refine wpAnyH_ready (rs:=[21]) Zk Zs ?_;refine AllReadyH.cons (o:=_) rfl (fun K hK=>?_) ?_
  ·skip
   go_simp;have e7:=Ja (d.out Wb 0 (U x) e8.out);have b3:Y (Wb.setCell ⟨b12,0,none⟩ (U x)) b12 #[U x,F,O 0,U 0,.string {data:=#[]},O 0,O 0] 57:=by rw[zD a4.out];rfl
   have a3:=Ja b3;have g9:=Ja (zu h0.out 0 (U x));refine hK.out _ _ (FinS.all hrl e7.out) (fun hHeld=>?_);clear hK K e0 g0 b3 e8 a4 h0
   try simp only[Yp]
   generalize (Wb.setCell ⟨b12,0,none⟩ (U x))=Wc at *;refine Th 22 ?_
   try simp only[Yp]
   have e1:=K1 a3.out;have g1:N Wc b12 1:=zE a3.out;refine wpAnyH_ready (rs:=[23]) Zk Zs ?_;refine AllReadyH.cons (o:=_) rfl (fun K hK=>?_) ?_
   ·skip
    go_simp;have d8:=Ja (d.out Wc 1 (.slice oa m.out.length oc) e7.out);have b2:Y (Wc.setCell ⟨b12,1,none⟩ (.slice oa m.out.length oc)) b12 #[U x,.slice oa m.out.length oc,O 0,U 0,.string {data:=#[]},O 0,O 0] 57:=by rw[zD a3.out];rfl
    have r:=Ja b2;have g8:=Ja (zu g9.out 1 (.slice oa m.out.length oc));refine hK.out _ _ (FinS.all hrl d8.out) (fun hHeld=>?_);clear hK K e1 g1 b2 e7 a3 g9
    try simp only[Yp]
    generalize (Wc.setCell ⟨b12,1,none⟩ (.slice oa m.out.length oc))=Wd at *;refine Th 24 ?_
    try simp only[Yp]
    have e2:=K2 r.out;have g2:N Wd b12 2:=zE r.out;have e3:=K3 r.out;have g3:N Wd b12 3:=zE r.out;refine wpAnyH_ready (rs:=[25]) Zk Zs ?_;refine AllReadyH.cons (o:=_) rfl (fun K hK=>?_) ?_
    ·skip
     go_simp;have d7:=Ja (d.out (Wd.setCell ⟨b12,2,none⟩ (O k)) 3 (U i) (d.out Wd 2 (O k) d8.out));have b1:Y (Wd.setCell ⟨b12,2,none⟩ (O k)) b12 #[U x,.slice oa m.out.length oc,O k,U 0,.string {data:=#[]},O 0,O 0] 57:=by rw[zD r.out];rfl
     have b0:Y ((Wd.setCell ⟨b12,2,none⟩ (O k)).setCell ⟨b12,3,none⟩ (U i)) b12 #[U x,.slice oa m.out.length oc,O k,U i,.string {data:=#[]},O 0,O 0] 57:=by rw[zD b1];rfl
     have a2:=Ja b0;have g7:=Ja (zu (zu g8.out 2 (O k)) 3 (U i));refine hK.out _ _ (FinS.all hrl d7.out) (fun hHeld=>?_);clear hK K e2 g2 e3 g3 b1 b0 d8 r g8
     try simp only[Yp]
     generalize ((Wd.setCell ⟨b12,2,none⟩ (O k)).setCell ⟨b12,3,none⟩ (U i))=We at *;refine Th 26 ?_
     try simp only[Yp]
     have e4:=K4 a2.out;have g4:N We b12 4:=zE a2.out;refine wpAnyH_ready (rs:=[27]) Zk Zs ?_;refine AllReadyH.cons (o:=_) rfl (fun K hK=>?_) ?_
     ·skip
      go_simp;have c9:=Ja (d.out We 4 (.string (y9 m.ram)) d7.out);have a9:Y (We.setCell ⟨b12,4,none⟩ (.string (y9 m.ram))) b12 #[U x,.slice oa m.out.length oc,O k,U i,.string (y9 m.ram),O 0,O 0] 57:=by rw[zD a2.out];rfl
      have a1:=Ja a9;have f9:=Ja (zu g7.out 4 (.string (y9 m.ram)));refine hK.out _ _ (FinS.all hrl c9.out) (fun hHeld=>?_);clear hK K e4 g4 a9 d7 a2 g7
      try simp only[Yp]
      generalize (We.setCell ⟨b12,4,none⟩ (.string (y9 m.ram)))=Wf at *;refine Th 28 ?_
      try simp only[Yp]
      have e5:=K5 a1.out;have g5:N Wf b12 5:=zE a1.out;refine wpAnyH_ready (rs:=[29]) Zk Zs ?_;refine AllReadyH.cons (o:=_) rfl (fun K hK=>?_) ?_
      ·skip
       go_simp;have c8:=Ja (d.out Wf 5 (O (m.inputs:Int)) c9.out);have a7:Y (Wf.setCell ⟨b12,5,none⟩ (O (m.inputs:Int))) b12 #[U x,.slice oa m.out.length oc,O k,U i,.string (y9 m.ram),O (m.inputs:Int),O 0] 57:=by rw[zD a1.out];rfl
       have a0:=Ja a7;have f8:=Ja (zu f9.out 5 (O (m.inputs:Int)));refine hK.out _ _ (FinS.all hrl c8.out) (fun hHeld=>?_);clear hK K e5 g5 a7 c9 a1 f9
       try simp only[Yp]
       generalize (Wf.setCell ⟨b12,5,none⟩ (O (m.inputs:Int)))=Wg at *;refine Th 30 ?_
       try simp only[Yp]
       have e6:=K6 a0.out;have g6:N Wg b12 6:=zE a0.out;refine wpAnyH_ready (rs:=[31]) Zk Zs ?_;refine AllReadyH.cons (o:=_) rfl (fun K hK=>?_) ?_
       ·skip
        go_simp;have h5:=Ja (d.out Wg 6 (O (m.polls:Int)) c8.out);have a6:Y (Wg.setCell ⟨b12,6,none⟩ (O (m.polls:Int))) b12 #[U x,.slice oa m.out.length oc,O k,U i,.string (y9 m.ram),O (m.inputs:Int),O (m.polls:Int)] 57:=by rw[zD a0.out];rfl
        have h7:=Ja a6;have h6:=Ja (zu f8.out 6 (O (m.polls:Int)));refine hK.out _ _ (FinS.all hrl h5.out) (fun hHeld=>?_);clear hK K e6 g6 a6 c8 a0 f8
        try simp only[Yp]
        generalize (Wg.setCell ⟨b12,6,none⟩ (O (m.polls:Int)))=Wh at *;refine wpAnyH_done Zk (NoPanic.normal ?_) _;go_wp2
        go_end0
        exact⟨rfl,h7.out,h6.out⟩
       ·exact AllReadyH.nil
      ·exact AllReadyH.nil
     ·exact AllReadyH.nil
    ·exact AllReadyH.nil
   ·exact AllReadyH.nil
  ·exact AllReadyH.nil
 ·exact AllReadyH.nil
def okS (n:Nat)(s:Int):Bool:=decide (0<=s) && decide (s<(n:Int))
theorem tm {α:Type}(p:α->Bool)(l:List α)(k:Nat)(x:α)(h:l[k]? =some x)(hp:(l.take k).all p=true)(c:p x=true):(l.take (k+1)).all p=true:=by
 rw[Nh,h];simp[hp,c]
theorem vU {α:Type}(p:α->Bool)(l:List α)(k:Nat)(x:α)(h:l[k]? =some x)(c:p x=false):l.all p=false:=by
 rw[Um];exact⟨x,Ji h,by simp[c]⟩
theorem lR (w:World)(sv:Value)(g:List (List Int))(B:Nat)(hB:B<=w.heap.size)(h:aaB zN w B sv g)(hn:g.length<=2000000)(hr:∀row∈g,row.length<=2000000):
 G 100 #[.agg #[sv]] w fun e w'=>e=.returned (.bool (decide (0<g.length) && pB g))/\L w w':=by
 obtain⟨a,y,rfl,b0⟩:=h.form;have HR:=Ja hr;clear hr;have c:L w (w.alloc (A #[.slice a g.length y] 93)):=(Below.refl _ _).alloc (Je _) _;go_enter Try.func100,Try.ntmps100;go_wp2
 go_loop [10] (fun i=>∃k:Nat,k<=g.length/\i=O k/\(g.take k).all (fun l=>l.all (okS g.length))=true) (fun i=>g.length-(intOf i).toNat)
 case atStart=>exact⟨0,Jt _,rfl,by simp⟩
 case round=>
  obtain⟨k,hk,rfl,u⟩:=hrel;have HA:=Ja u;clear u
  by_cases a5:k<g.length
  ·obtain⟨row,d⟩:∃row,g[k]? =some row:=⟨_,Jd a5⟩
   obtain⟨b,o,a2,a4,rfl,hb,hc,a6,hx⟩:=h.row d;have hrl:=HR.out row (Ji d);have b5:T (w.alloc (A #[.slice (some ⟨b,o,none⟩) g.length y] 93)) b (o+k) (.slice a2 row.length a4):=(c.cell (p:=⟨b,o+k,none⟩) (show b<w.heap.size by omega)).trans hc;have m:=Ja d;clear d;have HX:=Ja hx;clear hx h hc;have a9:(k:Int)<g.length:=Zo;go_wp2
   go_loop [16] (fun i=>∃j:Nat,j<=row.length/\i=O j/\(row.take j).all (okS g.length)=true) (fun i=>row.length-(intOf i).toNat)
   case atStart=>exact⟨0,Jt _,rfl,by simp⟩
   case round=>
    obtain⟨j,hj,rfl,q⟩:=hrel;have a1:=Ja q;clear q
    by_cases a3:j<row.length
    ·obtain⟨x,r⟩:∃x,row[j]? =some x:=⟨_,Jd a3⟩
     obtain⟨b2,o2,rfl,b6,t⟩:=HX.out j x r;simp only[zN] at t;have b4:T (w.alloc (A #[.slice (some ⟨b,o,none⟩) g.length y] 93)) b2 (o2+j) (O x):=(c.cell (p:=⟨b2,o2+j,none⟩) (show b2<w.heap.size by omega)).trans t;have a0:=Ja r;clear r t;have a7:(j:Int)<row.length:=Zo
     by_cases b3:x<0
     ·have hf:pB g=false:=vU _ g k row m.out (vU _ row j x a0.out (by simp[okS];omega));have HF:=Ja hf;clear hf;go_wp2;go_ret;exact⟨by rw[HF.out];simp,c⟩
     ·by_cases b1:x<g.length
      ·go_wp2
       go_round
       case rel=>exact⟨j+1,by omega,by go_num,tm _ row j x a0.out a1.out (by simp[okS];omega)⟩
       case measure=>simp[intOf];omega
      ·have hf:pB g=false:=vU _ g k row m.out (vU _ row j x a0.out (by simp[okS];omega));have HF:=Ja hf;clear hf;go_wp2;go_ret;exact⟨by rw[HF.out];simp,c⟩
    ·go_wp2
     go_round
     case rel=>exact⟨k+1,by omega,by go_num,tm _ g k row m.out HA.out (by have:=a1.out;rwa [Oy Zo] at this)⟩
     case measure=>simp[intOf];omega
  ·have hf:pB g=true:=by have:=HA.out;rwa [Oy Zo] at this
   have HF:=Ja hf;clear hf;go_wp2;go_ret;exact⟨by rw[HF.out];simp,c⟩
def qT (xs ys:List Nat)(k:Nat):Prop:=ys.length=xs.length/\∀m,m<xs.length->ys[m]? =if m<k∨xs.length<=m+k then xs[xs.length-1-m]? else xs[m]?
theorem qT.start (xs:List Nat):qT xs xs 0:=⟨rfl,fun m hm=>by rw[if_neg Zo]⟩
theorem qT.step {xs ys:List Nat}{k j x y:Nat}(h:qT xs ys k)(q:k+j+1=xs.length)(o:k<j)(l:ys[k]? =some x)(i:ys[j]? =some y):qT xs ((ys.set k y).set j x) (k+1):=by
 obtain⟨h1,h2⟩:=h;refine⟨by simp[h1],fun m hm=>?_⟩;have e1:=h2 k Zo;have e2:=h2 j Zo;rw[if_neg Zo] at e1 e2;rw[Ov]
 by_cases d:j=m
 ·subst d;rw[if_pos rfl,if_pos (by simp[h1];omega),if_pos Zo,show xs.length-1-j=k by omega,<-e1,l]
 ·rw[if_neg d,Ov]
  by_cases c:k=m
  ·subst c;rw[if_pos rfl,if_pos Zo,if_pos Zo,show xs.length-1-k=j by omega,<-e2,i]
  ·rw[if_neg c,h2 m hm]
   by_cases g:m<k∨xs.length<=m+k
   ·rw[if_pos g,if_pos Zo]
   ·rw[if_neg g,if_neg Zo]
theorem qT.done{xs ys:List Nat}(h:qT xs ys k)(hk:xs.length<=2*k+1):ys=xs.reverse:=by
 obtain⟨h1,h2⟩:=h;apply Oq;intro m
 by_cases hm:m<xs.length
 ·rw[h2 m hm,List.getElem?_reverse hm]
  by_cases c:m<k∨xs.length<=m+k
  ·rw[if_pos c]
  ·rw[if_neg c];congr 1;omega
 ·rw[Of Zo,Of Zt]
theorem mK (w:World)(base:Nat)(v:Value)(xs:List Nat)(c:w.ownsRow base 3 1 v xs.length (xs.map zj))(hn:xs.length<=4000000):
 G 104 #[v] w fun e w'=>e=.returned (.tuple #[])/\w'.ownsRow base 3 1 v xs.length (xs.reverse.map zj)/\w.grownBy w' v.ownBlock:=by
 rcases c.2 with⟨rfl,h0⟩|⟨g,q,cur,rfl,hg,u,_⟩
 ·have h:xs=[]:=Nz h0;subst h;go_enter Try.func104,Try.ntmps104;go_wp2;refine wp_loop_rounds 1 ?_;rw[rounds_succ];go_wp2
  go_end0
  exact⟨rfl,by simpa using c,⟨rfl,rfl,rfl,Je _,fun _ _ _=>rfl⟩⟩
 ·clear u hg;have HO:=Ja c;clear c;go_enter Try.func104,Try.ntmps104;go_wp2
  go_loopw [2,3] (fun i j wr=>∃(k:Nat) (jj:Int),i=O k/\j=O jj/\Hid ((k:Int)+jj+1=xs.length)/\(k:Int)<=xs.length/\-1<=jj+k/\jj<=xs.length/\∃ys,Hid (qT xs ys k/\wr.ownsRow base 3 1 (Q g xs.length q) xs.length (ys.map zj)/\w.grownBy wr (some g))) (fun i _ _=>xs.length-(intOf i).toNat)
  case atStart=>exact⟨0,(xs.length:Int)-1,rfl,rfl,by unfold Hid;omega,by omega,by omega,by omega,xs,qT.start xs,HO.out,⟨rfl,rfl,rfl,Je _,fun _ _ _=>rfl⟩⟩
  case round=>
   obtain⟨k,jj,rfl,rfl,o,hk,a3,a2,ys,d⟩:=hrel
   by_cases a1:(k:Int)<jj
   ·obtain⟨j,rfl⟩:∃j:Nat,jj=j:=⟨jj.toNat,by omega⟩
    have m:=d.out.1.1;have t:=o.out;obtain⟨x,h⟩:∃x,ys[k]? =some x:=⟨_,Jd Zo⟩
    obtain⟨y,l⟩:∃y,ys[j]? =some y:=⟨_,Jd Zo⟩
    have hr:=d.out.2.1;have g1:T wr g k (O x):=(hr.cellAt k Zo).trans (by simp[h,zj]);have g2:T wr g j (O y):=(hr.cellAt j Zo).trans (by simp[l,zj]);have f1:N wr g k:=hr.frozenAt k;have f2:N wr g j:=hr.frozenAt j;have a0:¬k=j:=Zo;have i1:(k:Int)<xs.length:=Zo;have i2:(j:Int)<xs.length:=Zo;have r:=Ja (Jb h l);clear m t h l hr;go_wp2
    go_region
    go_wp2;go_roundw
    case rel=>
     obtain⟨h,l⟩:=r.out;have m:=d.out.1.1;have s1:=d.out.2.1.stored k (zj y);have s2:=s1.1.stored j (zj x);refine⟨k+1,(j:Int)-1,by go_num,rfl,by have:=o.out;unfold Hid;omega,by omega,by omega,by omega,(ys.set k y).set j x,qT.step d.out.1 (by have:=o.out;omega) Zo h l,?_,?_⟩
     ·have:=s2.1;rw[<-Ox,<-Ox] at this;exact this
     ·exact nJ ((d.out.2.2.trans s1.2).trans s2.2)
    case measure=>simp[intOf];omega
   ·go_wp2
    go_end0
    have hd:=d.out.1.done (by have:=o.out;omega);subst hd;exact⟨rfl,by rw[<-List.map_reverse];exact d.out.2.1,d.out.2.2⟩
end Go.Proofs.Ytojclalkfhoooaa
