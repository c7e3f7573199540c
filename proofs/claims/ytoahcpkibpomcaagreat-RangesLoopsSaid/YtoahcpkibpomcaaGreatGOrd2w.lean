/- Part of a proof. -/
import Derived.Test.YtoahcpkibpomcaaGreatGMathw
import Derived.Test.YtoahcpkibpomcaaGreatRows
import Derived.Test.YtoahcpkibpomcaaGreatSqw
import Derived.Test.YtoahcpkibpomcaaGreatSww
import Derived.BigRegion
import Derived.Deep.OwnRows
set_option linter.all false
set_option maxHeartbeats 1600000
namespace Go.Proofs.YtoahcpkibpomcaaGreat
open Go.RowKit
variable {W W' w w' w0 w1:World}{B' B0 Bk Bs Bv base' cp gk i j k m u:Nat}{o:Obj}{xs:List Value}{c post:List Nat}{v':Value}{d:List (Nat×Nat)}{seen:List Bool}{g:List (List Nat)}
def xp {α:Type}(enc:α->Value)(w:World)(B:Nat)(v:Value)(xs:List α):Prop:=
 ∃(a:Option Addr) (cap:Nat),v=.slice a xs.length cap/\xs.length<=cap/\∀(k:Nat) (x:α),xs[k]? =some x->∃b o,a=some ⟨b,o,none⟩/\b<B/\A w b (o+k) (enc x)
def zN (n:Int):Value:=U n
def zj (n:Nat):Value:=U n
def afr (b:Bool):Value:=.bool b
theorem xp.below{α:Type}{enc:α->Value}{B:Nat}{v:Value}{xs:List α}(h:xp enc w B v xs)(hb:Below B w w'):xp enc w' B v xs:=by
 obtain⟨a,d,rfl,c,h⟩:=h;refine⟨a,d,rfl,c,fun k x hk=>?_⟩;obtain⟨b,o,i,hB,g⟩:=h k x hk;exact⟨b,o,i,hB,(hb.cell (p:=⟨b,o+k,none⟩) hB).trans g⟩
theorem xp.mono{α:Type}{enc:α->Value}{B:Nat}{v:Value}{xs:List α}(h:xp enc w B v xs)(hb:B<=B'):xp enc w B' v xs:=by
 obtain⟨a,d,rfl,c,h⟩:=h;refine⟨a,d,rfl,c,fun k x hk=>?_⟩;obtain⟨b,o,i,hB,g⟩:=h k x hk;exact⟨b,o,i,by omega,g⟩
theorem xp.map{α β:Type}{enc:α->Value}{enc':β->Value}(f:β->α)(hf:∀x,enc (f x)=enc' x){B:Nat}{v:Value}{xs:List β}:
 xp enc w B v (xs.map f)↔xp enc' w B v xs:=by
 constructor
 ·rintro⟨a,d,rfl,c,h⟩;refine⟨a,d,by simp,by simpa using c,fun k x hk=>?_⟩;have:=h k (f x) (by simp[hk])
  rwa [hf] at this
 ·rintro⟨a,d,rfl,c,h⟩;refine⟨a,d,by simp,by simpa using c,fun k x hk=>?_⟩;simp only[Jr,Oz] at hk;obtain⟨y,g,rfl⟩:=hk;rw[hf];exact h k y g
def aaB {α:Type}(enc:α->Value)(w:World)(B:Nat)(v:Value)(g:List (List α)):Prop:=
 ∃vs:List Value,xp id w B v vs/\vs.length=g.length/\∀(k:Nat) (rv:Value) (row:List α),vs[k]? =some rv->g[k]? =some row->xp enc w B rv row
theorem aaB.below{α:Type}{enc:α->Value}{B:Nat}{v:Value}{g:List (List α)}(h:aaB enc w B v g)(hb:Below B w w'):aaB enc w' B v g:=by
 obtain⟨vs,h1,h2,h3⟩:=h;exact⟨vs,h1.below hb,h2,fun k rv row a b=>(h3 k rv row a b).below hb⟩
theorem aaB.mono{α:Type}{enc:α->Value}{B:Nat}{v:Value}{g:List (List α)}(h:aaB enc w B v g)(hb:B<=B'):aaB enc w B' v g:=by
 obtain⟨vs,h1,h2,h3⟩:=h;exact⟨vs,h1.mono hb,h2,fun k rv row a b=>(h3 k rv row a b).mono hb⟩
theorem aaB.form{α:Type}{enc:α->Value}{B:Nat}{v:Value}{g:List (List α)}(h:aaB enc w B v g):∃a cap,v=.slice a g.length cap/\g.length<=cap:=by
 obtain⟨vs,⟨a,cap,rfl,c,_⟩,h2,_⟩:=h;exact⟨a,cap,by rw[h2],by omega⟩
theorem aaB.row{α:Type}{enc:α->Value}{B:Nat}{a:Option Addr}{len:Nat}{g:List (List α)}(h:aaB enc w B (.slice a len m) g){row:List α}(hk:g[k]? =some row):
 ∃b o a2 cap2,a=some ⟨b,o,none⟩/\b<B/\A w b (o+k) (.slice a2 row.length cap2)/\row.length<=cap2/\∀j x,row[j]? =some x->∃b2 o2,a2=some ⟨b2,o2,none⟩/\b2<B/\A w b2 (o2+j) (enc x):=by
 obtain⟨vs,⟨a',a0,hv,_,t⟩,h2,h3⟩:=h;cases hv;have d:k<vs.length:=by rw[h2];exact(Jh.1 hk).1
 obtain⟨b,o,y,hB,u⟩:=t k _ (Jd d);obtain⟨a2,cap2,l,c,i⟩:=h3 k _ row (Jd d) hk;refine⟨b,o,a2,cap2,y,hB,?_,c,i⟩;rw[u,<-l];rfl
theorem aaB.map{α β:Type}{enc:α->Value}{enc':β->Value}(f:β->α)(hf:∀x,enc (f x)=enc' x){B:Nat}{v:Value}{g:List (List β)}:
 aaB enc w B v (g.map (List.map f))↔aaB enc' w B v g:=by
 constructor
 ·rintro⟨vs,h1,h2,h3⟩;exact⟨vs,h1,by simpa using h2,fun k rv row a b=>(xp.map f hf).1 (h3 k rv _ a (by simp[b]))⟩
 ·rintro⟨vs,h1,h2,h3⟩;refine⟨vs,h1,by simpa using h2,fun k rv row a b=>?_⟩;simp only[Jr,Oz] at b;obtain⟨y,c,rfl⟩:=b;exact(xp.map f hf).2 (h3 k rv y a c)
theorem zI{B:Nat}(h:W.heap.size=B):(W.alloc o).heap[B]? =some o:=by subst h;exact heap_alloc_new W o
theorem zB{o':Obj}{b:Nat}(h:W.heap[b]? =some o'):(W.alloc o).heap[b]? =some o':=(Below.heap_alloc W o b (lt_of_block h)).trans h
theorem zL{row:Option Nat}{b:Nat}(hg:W.grownBy w1 row)(hk:W.heap[b]? =some o)(c:row≠some b):w1.heap[b]? =some o:=(hg.block b (lt_of_block hk) (Ne.symm c)).trans hk
theorem zR{b:Nat}{a:Addr}{u:Value}(h:W.heap[b]? =some o)(c:b≠a.block):(W.setCell a u).heap[b]? =some o:=(Below.heap_setCell _ _ _ _ c).trans h
theorem zH{B:Nat}{b:Nat}(hb:Below B W W')(h:W.heap[b]? =some o)(c:b<B):W'.heap[b]? =some o:=(hb.block b c).trans h
theorem zC{base b:Nat}{e t:TypeId}{size n:Nat}{v:Value}{cs:Array Value}(h:w.ownsRow base e size v n xs)(hb:O w b cs t)(hne:b<base∨e≠t):v.ownBlock≠some b:=by
 rcases h.2 with⟨rfl,_⟩|⟨g,d,cur,rfl,hg,c,_⟩
 ·simp[Value.ownBlock]
 ·simp only[Value.ownBlock,ne_eq,Option.some.injEq];rintro rfl;rw[c] at hb;rcases hne with hne|hne
  ·omega
  ·exact hne (by simpa using congrArg (fun o=>match o with|some (Obj.cells _ t _)=>t|_=>0) hb)
theorem zo{base:Nat}{e e':TypeId}{size c n n':Nat}{v:Value}{d:List Value}(h:w.ownsRow base e size v n xs)(k:w.ownsRow base' e' c v' n' d)(i:e≠e'):v.ownBlock=none∨v.ownBlock≠v'.ownBlock:=by
 rcases h.2 with⟨rfl,_⟩|⟨g,l,cur,rfl,hg,j,_⟩
 ·exact .inl rfl
 ·right;intro e1;exact zC k j (.inr (Ne.symm i)) e1.symm
theorem zD{b:Nat}{cs:Array Value}{t:TypeId}(h:O w b cs t)(u:Value):O (w.setCell ⟨b,i,none⟩ u) b (cs.setIfInBounds i u) t:=by
 have c:=lt_of_block h;have d:w.heap[b]=I cs t:=by simpa[Array.getElem?_eq_getElem c] using h
 show(w.heap.modify b _)[b]? =_
 rw[Array.getElem?_eq_getElem (by simpa using c),Array.getElem_modify_self,d];rfl
theorem zA{b:Nat}{cs:Array Value}{t:TypeId}{v:Value}(h:O w b cs t)(hi:cs[i]? =some v):A w b i v:=by simp[World.cell?,h,hi]
theorem zE{b:Nat}{cs:Array Value}{t:TypeId}(h:O w b cs t):D w b i:=by simp[World.frozen?,h]
theorem vY{base:Nat}{e:TypeId}{size n:Nat}{v:Value}(h:w.ownsRow base e size v n xs)(hb:base'<=base):w.ownsRow base' e size v n xs:=by
 refine⟨h.1,?_⟩;rcases h.2 with h2|⟨g,c,cur,rfl,hg,r⟩
 ·exact .inl h2
 ·exact .inr ⟨g,c,cur,rfl,by omega,r⟩
theorem zG{base:Nat}{e:TypeId}{size n:Nat}{v:Value}(h:w.ownsRow base e size v n xs):∃a cap,v=.slice a n cap:=by
 rcases h.2 with⟨rfl,rfl⟩|⟨g,cap,cur,rfl,_⟩
 ·exact⟨none,0,rfl⟩
 ·exact⟨_,cap,rfl⟩
theorem zm{base:Nat}{e:TypeId}{size n d:Nat}{a:Option Addr}(h:w.ownsRow base e size (.slice a m d) n xs):m<=d/\d<=9223372036854775807:=by
 rcases h.2 with⟨hv,_⟩|⟨g,c,cur,hv,_,_,h1,h2,_⟩
 ·cases hv;omega
 ·cases hv;unfold maxLen at h2;omega
theorem ji{base:Nat}{e:TypeId}{size n:Nat}{v:Value}(h:w.ownsRow base e size v n xs):(w.drewN k).ownsRow base e size v n xs:=h
theorem kg{b:Nat}{o:Option Obj}(h:w.heap[b]? =o):(w.drewN k).heap[b]? =o:=h
theorem yC{B:Nat}(h:Below B w w'):Below B w (w'.drewN k):=⟨h.os,h.tape,h.output,h.size,h.block⟩
theorem afD{b:Nat}{v:Value}{t t':TypeId}(h:O w b #[v] t)(c:O w b #[v'] t'):v=v':=by
 rw[h] at c;simp only[Option.some.injEq,Obj.cells.injEq] at c;simpa using c.1
theorem nJ{row:Option Nat}(h:W.grownBy W' row):W.grownBy W'.drew row:=⟨h.os,h.tape,h.output,h.size,h.block⟩
theorem oI (W:World)(row:Option Nat):W.grownBy W row:=⟨rfl,rfl,rfl,Je _,fun _ _ _=>rfl⟩
theorem yL (B:Nat)(w:World)(n:Nat):Below B w (w.drewN n):=⟨rfl,rfl,rfl,Je _,fun _ _=>rfl⟩
theorem jU{b o:Nat}{v:Value}(h:A w b o v):b<w.heap.size:=Jw w _ h
theorem bcell(hb:N W w1):(∀b o,b<W.heap.size->w1.cell? ⟨b,o,none⟩=W.cell? ⟨b,o,none⟩)/\(∀b o,b<W.heap.size->w1.frozen? ⟨b,o,none⟩=W.frozen? ⟨b,o,none⟩):=
 ⟨fun b o h=>hb.cell (p:=⟨b,o,none⟩) h,fun b o h=>hb.frozen (p:=⟨b,o,none⟩) h⟩
theorem zh {k:IntKind}{a b:Int}(h:a=b):Ending.returned (.int k a)=.returned (.int k b):=by rw[h]
theorem rH {a b:Bool}(h:a=b):Ending.returned (.bool a)=.returned (.bool b):=by rw[h]
def I64 (x:Int):Prop:=-9223372036854775808<=x/\x<=9223372036854775807
def ly (n:Nat):Value:=.int .u8 (n:Int)
def vL (n:Nat):Value:=Y n
theorem p7{base C:Nat}{e:TypeId}{size n:Nat}{v:Value}(h:w.ownsRow base e size v n xs)(hb:Below C w w')(i:w.heap.size<=C):w'.ownsRow base e size v n xs:=by
 refine⟨h.1,?_⟩;rcases h.2 with h2|⟨g,d,cur,rfl,hg,c,r⟩
 ·exact .inl h2
 ·exact .inr ⟨g,d,cur,rfl,hg,zH hb c (by have:=lt_of_block c;omega),r⟩
def yN {α:Type}(sz:Nat)(R:World->Nat->Nat->Nat->α->Prop)(w:World)(B:Nat)(v:Value)(xs:List α):Prop:=
 ∃(a:Option Addr) (cap:Nat),v=.slice a xs.length cap/\xs.length<=cap/\cap<=9223372036854775807/\∀(k:Nat) (x:α),xs[k]? =some x->∃b o,a=some ⟨b,o,none⟩/\b<B/\R w B b (o+k*sz) x
def vV {α:Type}(R:World->Nat->Nat->Nat->α->Prop):Prop:=(∀w w' B b q x,b<B->Below B w w'->R w B b q x->R w' B b q x)/\∀w B B' b q x,B<=B'->R w B b q x->R w B' b q x
theorem yN.below{α:Type}{sz:Nat}{R:World->Nat->Nat->Nat->α->Prop}(g:vV R){B:Nat}{v:Value}{xs:List α}(h:yN sz R w B v xs)(hb:Below B w w'):yN sz R w' B v xs:=by
 obtain⟨a,d,rfl,h1,h2,h3⟩:=h;refine⟨a,d,rfl,h1,h2,fun k x hk=>?_⟩;obtain⟨b,o,j,c,i⟩:=h3 k x hk;exact⟨b,o,j,c,g.1 _ _ _ _ _ _ c hb i⟩
theorem yN.mono{α:Type}{sz:Nat}{R:World->Nat->Nat->Nat->α->Prop}(d:vV R){B:Nat}{v:Value}{xs:List α}(h:yN sz R w B v xs)(hb:B<=B'):yN sz R w B' v xs:=by
 obtain⟨a,c,rfl,h1,h2,h3⟩:=h;refine⟨a,c,rfl,h1,h2,fun k x hk=>?_⟩;obtain⟨b,o,i,j,g⟩:=h3 k x hk;exact⟨b,o,i,by omega,d.2 _ _ _ _ _ _ hb g⟩
theorem yN.form{α:Type}{sz:Nat}{R:World->Nat->Nat->Nat->α->Prop}{B:Nat}{v:Value}{xs:List α}(h:yN sz R w B v xs):∃a cap,v=.slice a xs.length cap/\xs.length<=cap/\cap<=9223372036854775807:=
 let⟨a,cap,e,h1,h2,_⟩:=h;⟨a,cap,e,h1,h2⟩
theorem yN.get{α:Type}{sz:Nat}{R:World->Nat->Nat->Nat->α->Prop}{B:Nat}{a:Option Addr}{n c:Nat}{xs:List α}(h:yN sz R w B (.slice a n c) xs){x:α}(hk:xs[k]? =some x):
 ∃b o,a=some ⟨b,o,none⟩/\b<B/\R w B b (o+k*sz) x:=by
 obtain⟨a',d,e,_,_,h3⟩:=h;cases e;exact h3 k x hk
def IntR (w:World)(B b q:Nat)(x:Int):Prop:=A w b q (U x)/\I64 x
def U16R (w:World)(B b q:Nat)(x:Nat):Prop:=A w b q (Y x)/\x<65536
def U8R (w:World)(B b q:Nat)(x:Nat):Prop:=A w b q (.int .u8 (x:Int))/\x<256
def StrR (w:World)(B b q:Nat)(x:ByteArray):Prop:=A w b q (.string x)/\x.size<=9223372036854775807
theorem zV{B:Nat}(hb:Below B w w'){b q:Nat}(hB:b<B){v:Value}(h:A w b q v):A w' b q v:=(hb.cell (p:=⟨b,q,none⟩) hB).trans h
theorem zO:vV IntR:=⟨fun w w' B b q x hB hb h=>⟨zV hb hB h.1,h.2⟩,fun w B B' b q x _ h=>h⟩
theorem zr:vV U16R:=⟨fun w w' B b q x hB hb h=>⟨zV hb hB h.1,h.2⟩,fun w B B' b q x _ h=>h⟩
theorem xQ:vV U8R:=⟨fun w w' B b q x hB hb h=>⟨zV hb hB h.1,h.2⟩,fun w B B' b q x _ h=>h⟩
theorem tN:vV StrR:=⟨fun w w' B b q x hB hb h=>⟨zV hb hB h.1,h.2⟩,fun w B B' b q x _ h=>h⟩
abbrev zY:=yN 1 IntR
abbrev wV:=yN 1 U16R
abbrev dL:=yN 1 U8R
abbrev adu:=yN 1 StrR
def ObjR (w:World)(B b q:Nat)(x:IObj):Prop:=
 A w b q (U x.bank)/\A w b (q+1) (Y (x.addr:Int))/\A w b (q+2) (Y (x.size:Int))/\I64 x.bank/\x.addr<65536/\x.size<65536
theorem tZ:vV ObjR:=⟨fun w w' B b q x hB hb h=>⟨zV hb hB h.1,zV hb hB h.2.1,zV hb hB h.2.2.1,h.2.2.2⟩,fun w B B' b q x _ h=>h⟩
abbrev kq:=yN 3 ObjR
def adz (w:World)(B b q:Nat)(x:IEdge):Prop:=
 A w b q (U x.block)/\I64 x.block/\∃av,A w b (q+1) av/\zY w B av x.args
theorem xL:vV adz:=
 ⟨fun w w' B b q x hB hb h=>by obtain⟨h1,h2,av,h3,c⟩:=h;exact⟨zV hb hB h1,h2,av,zV hb hB h3,c.below zO hb⟩,
  fun w B B' b q x hB h=>by obtain⟨h1,h2,av,h3,c⟩:=h;exact⟨h1,h2,av,h3,c.mono zO hB⟩⟩
abbrev wH:=yN 2 adz
def OpR (w:World)(B b q:Nat)(x:IOp):Prop:=
 A w b q (U x.code)/\A w b (q+1) (U x.res)/\A w b (q+2) (U x.a)/\A w b (q+3) (U x.b)/\A w b (q+4) (Y (x.n:Int))/\
  (I64 x.code/\I64 x.res/\I64 x.a/\I64 x.b/\x.n<65536)/\∃av,A w b (q+5) av/\zY w B av x.args
theorem xA:vV OpR:=
 ⟨fun w w' B b q x hB hb h=>by obtain⟨h1,h2,h3,j,i,g,av,d,c⟩:=h;exact⟨zV hb hB h1,zV hb hB h2,zV hb hB h3,zV hb hB j,zV hb hB i,g,av,zV hb hB d,c.below zO hb⟩,
  fun w B B' b q x hB h=>by obtain⟨h1,h2,h3,j,i,g,av,d,c⟩:=h;exact⟨h1,h2,h3,j,i,g,av,d,c.mono zO hB⟩⟩
abbrev mN:=yN 6 OpR
def BlkR (w:World)(B b q:Nat)(x:IBlk):Prop:=
 A w b (q+2) (U x.term.kind)/\A w b (q+3) (U x.term.a)/\(I64 x.term.kind/\I64 x.term.a)/\
  ∃pv ov tv,A w b q pv/\A w b (q+1) ov/\A w b (q+4) tv/\zY w B pv x.params/\mN w B ov x.ops/\wH w B tv x.term.to
theorem yT:vV BlkR:=
 ⟨fun w w' B b q x hB hb h=>by obtain⟨h1,h2,h3,pv,ov,tv,k,j,i,g,d,c⟩:=h;exact⟨zV hb hB h1,zV hb hB h2,h3,pv,ov,tv,zV hb hB k,zV hb hB j,zV hb hB i,g.below zO hb,d.below xA hb,c.below xL hb⟩,
  fun w B B' b q x hB h=>by obtain⟨h1,h2,h3,pv,ov,tv,k,j,i,g,d,c⟩:=h;exact⟨h1,h2,h3,pv,ov,tv,k,j,i,g.mono zO hB,d.mono xA hB,c.mono xL hB⟩⟩
abbrev wX:=yN 5 BlkR
def FuncR (w:World)(B b q:Nat)(x:List IBlk):Prop:=∃bv,A w b q bv/\wX w B bv x
theorem vR:vV FuncR:=
 ⟨fun w w' B b q x hB hb h=>by obtain⟨bv,h1,h2⟩:=h;exact⟨bv,zV hb hB h1,h2.below yT hb⟩,
  fun w B B' b q x hB h=>by obtain⟨bv,h1,h2⟩:=h;exact⟨bv,h1,h2.mono yT hB⟩⟩
abbrev iS:=yN 1 FuncR
structure PV where
 fv:Value
 av:Value
 dv:Value
 bv:Value
structure ProgIn (w:World) (B:Nat) (V:PV) (p:IProg):Prop where
 funcs:iS w B V.fv p.funcs
 args:zY w B V.av p.args
 data:kq w B V.dv p.data
 banks:adu w B V.bv p.banks
 ent:I64 p.entry
 hnd:I64 p.handler
theorem ProgIn.below{B:Nat}{V:PV}{p:IProg}(h:ProgIn w B V p)(hb:Below B w w'):ProgIn w' B V p:=
 ⟨h.funcs.below vR hb,h.args.below zO hb,h.data.below tZ hb,h.banks.below tN hb,h.ent,h.hnd⟩
theorem ProgIn.mono{B:Nat}{V:PV}{p:IProg}(h:ProgIn w B V p)(hb:B<=B'):ProgIn w B' V p:=
 ⟨h.funcs.mono vR hb,h.args.mono zO hb,h.data.mono tZ hb,h.banks.mono tN hb,h.ent,h.hnd⟩
def okS (n:Nat)(s:Int):Bool:=decide (0<=s) && decide (s<(n:Int))
theorem tm {α:Type}(p:α->Bool)(l:List α)(k:Nat)(x:α)(h:l[k]? =some x)(hp:(l.take k).all p=true)(c:p x=true):(l.take (k+1)).all p=true:=by
 rw[Nh,h];simp[hp,c]
theorem vU {α:Type}(p:α->Bool)(l:List α)(k:Nat)(x:α)(h:l[k]? =some x)(c:p x=false):l.all p=false:=by
 rw[Um];exact⟨x,Ji h,by simp[c]⟩
theorem lR (w:World)(sv:Value)(g:List (List Int))(B:Nat)(hB:B<=w.heap.size)(h:aaB zN w B sv g)(hn:g.length<=2000000)(hr:∀row∈g,row.length<=2000000):
 G 93 #[.agg #[sv]] w fun e w'=>e=.returned (.bool (decide (0<g.length) && pB g))/\N w w':=by
 obtain⟨a,a1,rfl,b4⟩:=h.form;have HR:=Ja hr;clear hr;have c:N w (w.alloc (I #[.slice a g.length a1] 105)):=(Below.refl _ _).alloc (Je _) _;go_enter Tryz.func93,Tryz.ntmps93;go_wp2
 go_loop [10] (fun i=>∃k:Nat,k<=g.length/\i=U k/\(g.take k).all (fun l=>l.all (okS g.length))=true) (fun i=>g.length-(intOf i).toNat)
 case atStart=>exact⟨0,Jt _,rfl,by simp⟩
 case round=>
  obtain⟨k,hk,rfl,a0⟩:=hrel;have HA:=Ja a0;clear a0
  by_cases a8:k<g.length
  ·obtain⟨row,d⟩:∃row,g[k]? =some row:=⟨_,Jd a8⟩
   obtain⟨b,o,a2,a6,rfl,hb,hc,b0,hx⟩:=h.row d;have hrl:=HR.out row (Ji d);have b8:A (w.alloc (I #[.slice (some ⟨b,o,none⟩) g.length a1] 105)) b (o+k) (.slice a2 row.length a6):=(c.cell (p:=⟨b,o+k,none⟩) (show b<w.heap.size by omega)).trans hc;have m:=Ja d;clear d;have HX:=Ja hx;clear hx h hc;have b3:(k:Int)<g.length:=Zo;go_wp2
   go_loop [16] (fun i=>∃j:Nat,j<=row.length/\i=U j/\(row.take j).all (okS g.length)=true) (fun i=>row.length-(intOf i).toNat)
   case atStart=>exact⟨0,Jt _,rfl,by simp⟩
   case round=>
    obtain⟨j,hj,rfl,t⟩:=hrel;have a4:=Ja t;clear t
    by_cases a5:j<row.length
    ·obtain⟨x,u⟩:∃x,row[j]? =some x:=⟨_,Jd a5⟩
     obtain⟨b2,o2,rfl,b9,y⟩:=HX.out j x u;simp only[zN] at y;have b7:A (w.alloc (I #[.slice (some ⟨b,o,none⟩) g.length a1] 105)) b2 (o2+j) (U x):=(c.cell (p:=⟨b2,o2+j,none⟩) (show b2<w.heap.size by omega)).trans y;have a3:=Ja u;clear u y;have b1:(j:Int)<row.length:=Zo
     by_cases b6:x<0
     ·have hf:pB g=false:=vU _ g k row m.out (vU _ row j x a3.out (by simp[okS];omega));have HF:=Ja hf;clear hf;go_wp2;go_ret;exact⟨by rw[HF.out];simp,c⟩
     ·by_cases b5:x<g.length
      ·go_wp2
       go_round
       case rel=>exact⟨j+1,by omega,by go_num,tm _ row j x a3.out a4.out (by simp[okS];omega)⟩
       case measure=>simp[intOf];omega
      ·have hf:pB g=false:=vU _ g k row m.out (vU _ row j x a3.out (by simp[okS];omega));have HF:=Ja hf;clear hf;go_wp2;go_ret;exact⟨by rw[HF.out];simp,c⟩
    ·go_wp2
     go_round
     case rel=>exact⟨k+1,by omega,by go_num,tm _ g k row m.out HA.out (by have:=a4.out;rwa [Oy Zo] at this)⟩
     case measure=>simp[intOf];omega
  ·have hf:pB g=true:=by have:=HA.out;rwa [Oy Zo] at this
   have HF:=Ja hf;clear hf;go_wp2;go_ret;exact⟨by rw[HF.out];simp,c⟩
def um (stk:List (Nat×Nat)):List Value:=stk.flatMap fun p=> [zj p.1,zj p.2]
theorem vH (c:List (Nat×Nat))(u j:Nat):um (c++ [(u,j)])=um c++ [zj u,zj j]:=by simp[um]
theorem yK (c:List (Nat×Nat)):(um c).length=2*c.length:=by
 induction c with
 |nil=>rfl
 |cons p r ih=>simp only[um,Qa,Jk,Nq,Ow] at ih ⊢;omega
structure Dfs (w0 w:World) (B0 n Bv Bs Bk:Nat) (seen:List Bool) (stk:List (Nat×Nat)) (pv:Value) (post:List Nat):Prop where
 hv:w.heap[Bv]? =some (.cells #[.slice (some ⟨Bs,0,none⟩) n n] 97 (0,0))
 hs:w.heap[Bs]? =some (.cells (seen.map afr).toArray 4 (0,0))
 hl:seen.length=n
 hk:∃sv,w.heap[Bk]? =some (.cells #[sv] 149 (0,0))/\w.ownsRow (Bk+1) 151 2 sv stk.length (um stk)
 lt:B0<=Bs/\Bs<Bv/\Bv<Bk
 hp:w.ownsRow (Bk+1) 3 1 pv post.length (post.map zj)
 hb:Below B0 w0 w
theorem Dfs.drewN{n:Nat}{c:List (Nat×Nat)}{pv:Value}(h:Dfs w0 w B0 n Bv Bs Bk seen c pv post):Dfs w0 (w.drewN k) B0 n Bv Bs Bk seen c pv post:=
 ⟨h.hv,h.hs,h.hl,h.hk,h.lt,h.hp,yC h.hb⟩
theorem Dfs.push{w2:World}{n:Nat}{pv g:Value}(h:Dfs w0 w B0 n Bv Bs Bk seen d pv c)
 (hg:(w.alloc o).grownBy w2 pv.ownBlock) (j:w2.ownsRow (Bk+1) 3 1 g (c.length+1) (c.map zj++ [zj u])):Dfs w0 w2 B0 n Bv Bs Bk seen d g (c++ [u]):=by
 obtain⟨hv,hs,hl,⟨sv,hk,i⟩,l,hp,hb⟩:=h;have hB:=lt_of_block hk
 refine⟨zL hg (zB hv) (zC hp hv (.inl Zo)),zL hg (zB hs) (zC hp hs (.inl Zo)),hl,
  ⟨sv,zL hg (zB hk) (zC hp hk (.inl Zo)),(i.alloc o).kept hg (zo i hp Zd)⟩,l,?_,?_⟩
 ·simpa using j
 ·exact Below.grown (hb.alloc Zo o) hg Zt (fun k hk'=>by have:=hp.lt k hk';omega)
theorem Dfs.popStk{n:Nat}{st:List (Nat×Nat)}{pv:Value}(h:Dfs w0 w B0 n Bv Bs Bk seen (st++ [(u,j)]) pv post)
 (hc:O w Bk #[F gk (st.length+1) cp] 149):Dfs w0 (w.setCell ⟨Bk,0,none⟩ (F gk st.length cp)) B0 n Bv Bs Bk seen st pv post:=by
 obtain⟨hv,hs,hl,⟨sv,hk,c⟩,i,hp,hb⟩:=h;obtain rfl:=afD hk hc;simp only[Jk,Nq,Ow,Ng,vH] at c;refine⟨zR hv (show Bv≠Bk by omega),zR hs (show Bs≠Bk by omega),hl,⟨_,one_setCell hk,?_⟩,i,ownsRow_setCell_other hp (zC (b:=Bk) hp hk (.inl Zo)) _,hb.setCell (show B0<=Bk by omega) _⟩;have h1:=ownsRow_setCell_other c (a:=⟨Bk,0,none⟩) (zC (b:=Bk) c hk (.inl Zo)) (F gk st.length cp);obtain⟨y,hh⟩:=h1;refine⟨by rw[yK];omega,.inr ?_⟩;rcases hh with⟨x,_⟩|⟨g',a0,cur,g,m,k,a1,t,o,d⟩
 ·cases x
 ·cases g;refine⟨gk,cp,cur,rfl,m,k,by omega,t,o,?_⟩;have:=congrArg (List.take (st.length*2)) d;rw[List.take_take,Ud Zo,List.take_append_of_le_length (by rw[yK];omega),Oy (l:=um st) (by rw[yK];omega)] at this;exact this
theorem Dfs.bump{n:Nat}{st:List (Nat×Nat)}{pv:Value}(h:Dfs w0 w B0 n Bv Bs Bk seen (st++ [(u,j)]) pv post)
 (k:O w Bk #[F gk (st.length+1) cp] 149):Dfs w0 (w.setCell ⟨gk,st.length*2+1,none⟩ (zj (j+1))) B0 n Bv Bs Bk seen (st++ [(u,j+1)]) pv post:=by
 obtain⟨hv,hs,hl,⟨sv,hk,c⟩,i,hp,hb⟩:=h;obtain rfl:=afD hk k;simp only[Jk,Nq,Ow,Ng,vH] at c;have l:=c.lt gk rfl;have g:=zo hp c Zd;refine⟨zR hv (show Bv≠gk by omega),zR hs (show Bs≠gk by omega),hl,⟨_,zR hk (show Bk≠gk by omega),?_⟩,i,ownsRow_setCell_other hp ?_ _,hb.setCell (show B0<=gk by omega) _⟩
 ·have:=(c.stored (st.length*2+1) (zj (j+1))).1;simp only[Jk,Nq,Ow,Ng,vH] at this ⊢
  have e:(um st++ [zj u,zj j]).set (st.length*2+1) (zj (j+1))=um st++ [zj u,zj (j+1)]:=by
   rw[Uj _ _ (by rw[yK];omega),yK,show st.length*2+1-2*st.length=1 by omega];rfl
  rw[e] at this;exact this
 ·rcases g with d|d
  ·rw[d];simp
  ·exact d
theorem Tryz.info_frame:(Tryz.prog.info? 151).map (fun i=>(i.zero,i.size,i.bytes))=some (some (.agg #[U 0,U 0]),2,16):=by kernel_rfl
theorem Tryz.info_int:(Tryz.prog.info? 3).map (fun i=>(i.zero,i.size,i.bytes))=some (some (U 0),1,8):=by kernel_rfl
theorem Tryz.info_bool:(Tryz.prog.info? 4).map (fun i=>(i.zero,i.size,i.bytes))=some (some (.bool false),1,1):=by kernel_rfl
theorem oF (w0 w:World)(B0 n Bv Bs Bk:Nat)(seen:List Bool)(d:List (Nat×Nat))(pv:Value)(post:List Nat)(u:Nat)(h:Dfs w0 w B0 n Bv Bs Bk seen d pv post)(hu:u<n)(hm:d.length<=2000000):
 G 94 #[U u,Q Bv,Q Bk] w fun e w'=>e=.returned (.tuple #[])/\Dfs w0 w' B0 n Bv Bs Bk (seen.set u true) (d++ [(u,0)]) pv post:=by
 obtain⟨i0,hi,a5,a4,a3⟩:=info_parts Tryz.info_frame;obtain⟨hv,hs,hl,⟨sv,hk,m⟩,a8,hp,o⟩:=h;have cv:=cell_of_one hv;obtain⟨b0,a1⟩:∃b0,seen[u]? =some b0:=⟨_,Jd Zo⟩
 have cs:A w Bs u (.bool b0):=zA hs (by simp[a1,afr]);have fs:D w Bs u:=zE hs;have HV:Hid ((w.setCell ⟨Bs,u,none⟩ (.bool true)).heap[Bv]? =_):=zR hv (show Bv≠Bs by omega);have l:(w.setCell ⟨Bs,u,none⟩ (.bool true)).heap[Bk]? =_:=zR hk (show Bk≠Bs by omega);have HS:Hid ((w.setCell ⟨Bs,u,none⟩ (.bool true)).heap[Bs]? =_):=zD hs (.bool true);have b9:=cell_of_one l;have own1:(w.setCell ⟨Bs,u,none⟩ (.bool true)).ownsRow (Bk+1) 151 2 sv d.length (um d):=ownsRow_setCell_other m (zC (b:=Bs) m hs (.inl Zo)) _;have a0:(w.setCell ⟨Bs,u,none⟩ (.bool true)).ownsRow (Bk+1) 3 1 pv post.length (post.map zj):=ownsRow_setCell_other hp (zC (b:=Bs) hp hs (.inl Zo)) _;have HB:Hid (Bk+1<=(w.setCell ⟨Bs,u,none⟩ (.bool true)).heap.size):=lt_of_block l;have a2:=Ja (o.setCell (p:=⟨Bs,u,none⟩) (show B0<=Bs by omega) (.bool true));have HK:=Ja l;have HP:=Ja a0;clear hs hv a1 hk l hp a0 o;go_enter Tryz.func94,Tryz.ntmps94;go_wp2_with (at_builtin;go_must (refine wpList_append_lies _ rfl (.tmp 7) (.tmp 10) 149 rfl (Bk+1) 151 i0 _ 2 16 Tryz.underlying149 hi a5 a4 a3 rfl Zd sv d.length (um d) rfl (own1.alloc _) ⟨w.heap.size,0,none⟩ 1 1 [U u,U 0] rfl rfl (Oi (cs:=#[U u,U 0]) (zI Zs)) (by simp[Value.oneCell']) Zd (by unfold maxLen;omega) Zo (by have:=HB.out;simp at this ⊢;omega) _ rfl ?_;intro g b2 w1 i c b6 b5;have j:=zL c (zB HK.out) (zC own1 HK.out (.inl Zo));have b8:=cell_of_one j;have b7:=free_of_one j;have t:=Ja j;have b3:=Ja (zL c (zB HV.out) (zC own1 HV.out (.inl Zo)));have b4:=Ja (zL c (zB HS.out) (zC own1 HS.out (.inl Zo)));clear j))
 go_end0
 have a6:=zo HP.out own1 Zd;have y:=(HP.out.alloc (I #[U u,U 0] 151)).kept c a6;have b1:=HB.out;refine⟨rfl,⟨?_,?_,by simp[hl],⟨_,one_setCell t.out,?_⟩,a8,?_,?_⟩⟩
 ·exact zR b3.out (show Bv≠Bk by omega)
 ·rw[zR b4.out (show Bs≠Bk by omega)];refine congrArg some (congrArg (fun x=>Obj.cells x _ _) ?_);simp[Ox,afr]
 ·have:=ownsRow_setCell_other i (a:=⟨Bk,0,none⟩) (zC (b:=Bk) i t.out (.inl Zo)) (F g (d.length+1) b2);rw[vH,Jk];exact this
 ·exact ownsRow_setCell_other y (zC (b:=Bk) y t.out (.inl Zo)) _
 ·refine Below.setCell (Below.grown (a2.out.alloc Zo _) c (by simp at b1 ⊢;omega) ?_) (show B0<=Bk by omega) _;intro k hk;have:=own1.lt k hk;omega
def qT (xs ys:List Nat)(k:Nat):Prop:=ys.length=xs.length/\∀m,m<xs.length->ys[m]? =if m<k∨xs.length<=m+k then xs[xs.length-1-m]? else xs[m]?
theorem qT.start (xs:List Nat):qT xs xs 0:=⟨rfl,fun m hm=>by rw[if_neg Zo]⟩
theorem qT.step {xs ys:List Nat}{k j x y:Nat}(h:qT xs ys k)(t:k+j+1=xs.length)(o:k<j)(l:ys[k]? =some x)(i:ys[j]? =some y):qT xs ((ys.set k y).set j x) (k+1):=by
 obtain⟨h1,h2⟩:=h;refine⟨by simp[h1],fun m hm=>?_⟩;have e1:=h2 k Zo;have e2:=h2 j Zo;rw[if_neg Zo] at e1 e2;rw[Ov]
 by_cases d:j=m
 ·subst d;rw[if_pos rfl,if_pos (by simp[h1];omega),if_pos Zo,show xs.length-1-j=k by omega,<-e1,l]
 ·rw[if_neg d,Ov]
  by_cases c:k=m
  ·subst c;rw[if_pos rfl,if_pos Zo,if_pos Zo,show xs.length-1-k=j by omega,<-e2,i]
  ·rw[if_neg c,h2 m hm]
   by_cases g:m<k∨xs.length<=m+k
   ·rw[if_pos g,if_pos Zo]
   ·rw[if_neg g,if_neg Zo]
theorem qT.done{xs ys:List Nat}(h:qT xs ys k)(hk:xs.length<=2*k+1):ys=xs.reverse:=by
 obtain⟨h1,h2⟩:=h;apply Oq;intro m
 by_cases hm:m<xs.length
 ·rw[h2 m hm,List.getElem?_reverse hm]
  by_cases c:m<k∨xs.length<=m+k
  ·rw[if_pos c]
  ·rw[if_neg c];congr 1;omega
 ·rw[Of Zo,Of Zt]
theorem mK (w:World)(base:Nat)(v:Value)(xs:List Nat)(c:w.ownsRow base 3 1 v xs.length (xs.map zj))(hn:xs.length<=4000000):
 G 95 #[v] w fun e w'=>e=.returned (.tuple #[])/\w'.ownsRow base 3 1 v xs.length (xs.reverse.map zj)/\w.grownBy w' v.ownBlock:=by
 rcases c.2 with⟨rfl,h0⟩|⟨g,t,cur,rfl,hg,hh,_⟩
 ·have h:xs=[]:=Nz h0;subst h;go_enter Tryz.func95,Tryz.ntmps95;go_wp2;refine wp_loop_rounds 1 ?_;rw[rounds_succ];go_wp2
  go_end0
  exact⟨rfl,by simpa using c,⟨rfl,rfl,rfl,Je _,fun _ _ _=>rfl⟩⟩
 ·clear hh hg;have HO:=Ja c;clear c;go_enter Tryz.func95,Tryz.ntmps95;go_wp2
  go_loopw [2,3] (fun i j wr=>∃(k:Nat) (jj:Int),i=U k/\j=U jj/\Hid ((k:Int)+jj+1=xs.length)/\(k:Int)<=xs.length/\-1<=jj+k/\jj<=xs.length/\∃ys,Hid (qT xs ys k/\wr.ownsRow base 3 1 (F g xs.length t) xs.length (ys.map zj)/\w.grownBy wr (some g))) (fun i _ _=>xs.length-(intOf i).toNat)
  case atStart=>exact⟨0,(xs.length:Int)-1,rfl,rfl,by unfold Hid;omega,by omega,by omega,by omega,xs,qT.start xs,HO.out,⟨rfl,rfl,rfl,Je _,fun _ _ _=>rfl⟩⟩
  case round=>
   obtain⟨k,jj,rfl,rfl,o,hk,a3,a2,ys,d⟩:=hrel
   by_cases a1:(k:Int)<jj
   ·obtain⟨j,rfl⟩:∃j:Nat,jj=j:=⟨jj.toNat,by omega⟩
    have m:=d.out.1.1;have hj:=o.out;obtain⟨x,h⟩:∃x,ys[k]? =some x:=⟨_,Jd Zo⟩
    obtain⟨y,l⟩:∃y,ys[j]? =some y:=⟨_,Jd Zo⟩
    have hr:=d.out.2.1;have g1:A wr g k (U x):=(hr.cellAt k Zo).trans (by simp[h,zj]);have g2:A wr g j (U y):=(hr.cellAt j Zo).trans (by simp[l,zj]);have f1:D wr g k:=hr.frozenAt k;have f2:D wr g j:=hr.frozenAt j;have a0:¬k=j:=Zo;have i1:(k:Int)<xs.length:=Zo;have i2:(j:Int)<xs.length:=Zo;have u:=Ja (Jb h l);clear m hj h l hr;go_wp2
    go_region
    go_wp2;go_roundw
    case rel=>
     obtain⟨h,l⟩:=u.out;have m:=d.out.1.1;have s1:=d.out.2.1.stored k (zj y);have s2:=s1.1.stored j (zj x);refine⟨k+1,(j:Int)-1,by go_num,rfl,by have:=o.out;unfold Hid;omega,by omega,by omega,by omega,(ys.set k y).set j x,qT.step d.out.1 (by have:=o.out;omega) Zo h l,?_,?_⟩
     ·have:=s2.1;rw[<-Ox,<-Ox] at this;exact this
     ·exact nJ ((d.out.2.2.trans s1.2).trans s2.2)
    case measure=>simp[intOf];omega
   ·go_wp2
    go_end0
    have hd:=d.out.1.done (by have:=o.out;omega);subst hd;exact⟨rfl,by rw[<-List.map_reverse];exact d.out.2.1,d.out.2.2⟩
def fJ (w:World)(xs:List Nat)(e:Ending)(w':World):Prop:=∃v,e=.returned v/\w'.ownsRow w.heap.size 3 1 v xs.length (xs.map zj)/\N w w'
theorem k8(hv:zw g):(decide (0<(g.map (List.map Int.ofNat)).length) && pB (g.map (List.map Int.ofNat)))=true:=by
 obtain⟨d,h1⟩:=hv;simp only[Nr,Jm,decide_eq_true_eq,pB,Oe,Nu];refine⟨d,?_⟩;rintro _ ⟨l,hl,rfl⟩ s hs;simp only[Nu] at hs;obtain⟨x,c,rfl⟩:=hs;have:=h1 l hl x c;simp;omega
theorem rows_int{B:Nat}{v:Value}(h:aaB zj w B v g):aaB zN w B v (g.map (List.map Int.ofNat)):=(aaB.map (enc:=zN) (enc':=zj) Int.ofNat (fun _=>rfl)).2 h
theorem tK (w:World)(sv:Value)(g:List (List Nat))(B:Nat)(hB:B<=w.heap.size)(h:aaB zj w B sv g)(hv:zw g)(c:g.length<=2000000)(hr:∀row∈g,row.length<=2000000):
 G 93 #[.agg #[sv]] w fun e w'=>e=.returned (.bool true)/\N w w':=by
 have:=lR w sv (g.map (List.map Int.ofNat)) B hB (rows_int h) (by simpa using c) (by intro row hm;simp only[Nu] at hm;obtain⟨l,hl,rfl⟩:=hm;simpa using hr l hl);rw[k8 hv] at this;exact this
theorem yA (z:Value)(n:Nat):madeCells #[z] n=(List.replicate n z).toArray:=by
 rw[<-toList_madeCells_one]
theorem iC (w1:World)(n:Nat):Dfs w1 (((w1.alloc (I (madeCells #[.bool false] n) 4)).alloc (I #[F w1.heap.size n n] 97)).alloc (I #[L] 149)) w1.heap.size n (w1.heap.size+1) w1.heap.size (w1.heap.size+1+1) (List.replicate n false) [] (.slice none 0 0) []:=by
 refine⟨zB (zI Zs),?_,by simp,⟨_,zI Zs,Jv _ _ _ _⟩,by omega,Jv _ _ _ _,?_⟩
 ·rw[zB (zB (zI rfl)),yA];simp[afr]
 ·exact(((Below.refl _ _).alloc (Je _) _).alloc Zs _).alloc Zt _
structure DInv (g:List (List Nat)) (seen:List Bool) (stk:List (Nat×Nat)) (post:List Nat):Prop where
 len:seen.length=g.length
 cnt:seen.count true=stk.length+post.length
 node:∀p∈stk,p.1<g.length
 fin:∀u∈post,u<g.length
theorem tI (l:List Bool)(u:Nat)(h:l[u]? =some false):(l.set u true).count true=l.count true+1:=by
 induction l generalizing u with
 |nil=>simp at h
 |cons b r ih=>
  cases u with
  |zero=>simp at h;subst h;simp
  |succ u=>
   simp only[List.getElem?_cons_succ] at h;simp only[Jg,Nf,ih u h];omega
theorem DInv.start(hv:zw g):DInv g ((List.replicate g.length false).set 0 true) ([]++ [(0,0)]) []:=by
 refine⟨by simp,?_,by simp;exact hv.1,by simp⟩;rw[tI _ _ (by simp[Nm,hv.1])];simp[List.count_replicate]
theorem DInv.le(h:DInv g seen d c):d.length+c.length<=g.length:=by
 rw[<-h.cnt,<-h.len];exact List.count_le_length
theorem DInv.pop{st:List (Nat×Nat)}{d:List Nat}(h:DInv g seen (st++ [(u,j)]) d):DInv g seen st (d++ [u]):=
 ⟨h.len,by have:=h.cnt;simp at this ⊢;omega,fun p hp=>h.node p (by simp[hp]),fun x c=>by
   rcases Jl.1 c with c|c
   ·exact h.fin x c
   ·have:=h.node (u,j) Zs;simp at c;subst c;exact this⟩
theorem DInv.skip{st:List (Nat×Nat)}(h:DInv g seen (st++ [(u,j)]) post):DInv g seen (st++ [(u,j+1)]) post:=
 ⟨h.len,by have:=h.cnt;simp at this ⊢;omega,fun p hp=>by
   rcases Jl.1 hp with hp|hp
   ·exact h.node p (by simp[hp])
   ·have:=h.node (u,j) Zs;simp at hp;subst hp;exact this,h.fin⟩
theorem DInv.enter{c:List (Nat×Nat)}{s:Nat}(h:DInv g seen c post)(hs:seen[s]? =some false):DInv g (seen.set s true) (c++ [(s,0)]) post:=by
 have d:s<g.length:=by rw[<-h.len];exact(Jh.1 hs).1
 refine⟨by simp[h.len],by rw[tI _ _ hs,h.cnt];simp;omega,fun p hp=>?_,h.fin⟩;rcases Jl.1 hp with hp|hp
 ·exact h.node p hp
 ·simp at hp;subst hp;exact d
theorem lJ (w:World)(sv:Value)(g:List (List Nat))(B:Nat)(hB:B<=w.heap.size)(h:aaB zj w B sv g)(hv:zw g)(hn:g.length<=2000000)(hr:∀row∈g,row.length<=2000000)
 (k0:Nat) (F:List Nat) (hF:kV g k0 ((List.replicate g.length false).set 0 true) [(0,0)] [] F):
 G 40 #[.agg #[sv]] w (fJ w F.reverse):=by
 obtain⟨a,b7,rfl,f6⟩:=h.form;obtain⟨ii,e0,d1,d0,c9⟩:=info_parts Tryz.info_int;obtain⟨ib,g1,f1,f0,e9⟩:=info_parts Tryz.info_bool;have a1:N w (w.alloc (I #[.slice a g.length b7] 105)):=(Below.refl _ _).alloc (Je _) _;have HV:=Ja hv;have HR:=Ja hr;have HF:=Ja hF;clear hv hr hF;have d8:=run_make_row' (P:=Tryz.prog) 97 4 (.bool false) 1 Tryz.underlying97 Tryz.info_bool rfl .i64 .i64 g.length Zo Zo;go_enter Tryz.func40,Tryz.ntmps40;go_wp2_with (go_at_call 93;go_must (refine(tK _ _ g B Zt (h.below (a1.mono hB)) HV.out hn HR.out).mono ?_;rintro e w1 ⟨rfl,a3⟩;obtain⟨c7,c3⟩:=bcell a3))
 have c5:Dfs w1 (((w1.alloc (I (madeCells #[.bool false] g.length) 4)).alloc (I #[.slice (some ⟨w1.heap.size,0,none⟩) g.length g.length] 97)).alloc (I #[L] 149)) w1.heap.size g.length (w1.heap.size+1) w1.heap.size (w1.heap.size+1+1) (List.replicate g.length false) [] (.slice none 0 0) []:=iC w1 g.length;refine(oF w1 _ w1.heap.size g.length (w1.heap.size+1) w1.heap.size (w1.heap.size+1+1) (List.replicate g.length false) [] (.slice none 0 0) [] 0 c5 HV.out.1 Zd).mono ?_;rintro e w2 ⟨rfl,hd⟩;have HD:=Ja hd;clear hd c5 d8;go_wp2_with fail
 go_loopg [4] k0 (fun k pv wr=>∃seen stk c,Hid (Dfs w1 wr w1.heap.size g.length (w1.heap.size+1) w1.heap.size (w1.heap.size+1+1) seen stk pv c/\kV g k seen stk c F/\DInv g seen stk c))
 case atStart=>exact⟨_,_,_,HD.out,HF.out,DInv.start HV.out⟩
 case round=>
  obtain⟨seen,stk,c,l⟩:=hrel
  cases gk with
  |zero=>
   obtain⟨rfl,rfl⟩:=l.out.2.1;obtain⟨sv,hk,d⟩:=l.out.1.hk;obtain⟨a0,c0,rfl⟩:=zG d;have ck:=cell_of_one hk;simp only[Ow] at ck;have x:N w w1:=a1.trans (a3.mono Zs);have d7:=x.size;have c8:=Ja (x.trans (l.out.1.hb.mono x.size));have c1:=l.out.2.2.le;clear hk d a3 c7 c3 a1 x h;go_wp2_with (go_at_call 95;go_must (refine(mK wr _ _ c l.out.1.hp Zo).mono ?_;rintro e w3 ⟨rfl,d3,e1⟩))
   go_ret;refine⟨_,rfl,?_,?_⟩
   ·have:=vY d3 (base':=w.heap.size) Zo
    simpa using this
   ·refine c8.out.grown e1 (by have:=c8.out.size;omega) (fun k hk=>?_);have:=l.out.1.hp.lt k hk
    omega
  |succ k=>
   obtain⟨st,u,j,rfl,b8⟩:=l.out.2.1;obtain⟨sv,hk,d⟩:=l.out.1.hk;simp only[Jk,Nq,Ow,Ng,vH] at d;obtain⟨gk,cp,rfl,g4,g3⟩:=d.form Zo;have g5:=(zm d).1;have f4:=(zm d).2;have f5:(st.length:Int)<=cp:=Zo;have d6:u<g.length:=l.out.2.2.node (u,j) Zs;obtain⟨row,a5⟩:∃row,g[u]? =some row:=⟨_,Jd d6⟩
   have x:N w w1:=a1.trans (a3.mono Zs);have d7:=x.size;have b6:=x.trans (l.out.1.hb.mono x.size);obtain⟨b,o,a2,f8,rfl,hb,hc,e7,hx⟩:=(h.below (b6.mono hB)).row a5;have hrl:=HR.out row (Ji a5);have c1:=l.out.2.2.le;simp only[Jk,Nq,Ow] at c1;have ck:=cell_of_one hk;have fk:=free_of_one hk;have cu:A wr gk (st.length*2) (U u):=(d.cellAt _ Zo).trans (by rw[Nc (by rw[yK];omega)];simp[yK,Nat.mul_comm,zj]);have cj:A wr gk (st.length*2+1) (U j):=(d.cellAt _ Zo).trans (by rw[Nc (by rw[yK];omega)];simp[yK,show st.length*2+1-2*st.length=1 by omega,zj]);have fj:D wr gk (st.length*2+1):=d.frozenAt _
   have g6:A wr w.heap.size 0 (.slice (some ⟨b,o,none⟩) g.length b7):=by
    have h1:(w.alloc (I #[.slice (some ⟨b,o,none⟩) g.length b7] 105)).heap[w.heap.size]? =_:=zI rfl;exact cell_of_one (zH l.out.1.hb (zH a3 h1 Zs) (by have:=a3.size;simp at this;omega))
   have f2:(u:Int)<g.length:=Zo;have b0:=Ja a5;have f9:=Ja d;have HK:=Ja hk;have HX:=Ja hx;have h4:=Ja b6;clear a5 d hk hx b6 x a1 a3 c7 c3 h;rcases b8 with⟨hj,t⟩|⟨s,hs,i,t⟩|⟨s,hs,i,t⟩
   ·have c2:row.length=j:=by rw[hj];simp[succ,Jj,b0.out]
    have b1:((j:Int)==(row.length:Int))=true:=by simp[c2]
    have a4:=Ja t;have hp:=l.out.1.hp;have g0:=lt_of_block HK.out;clear c2 hj t;go_wp2_with fail;go_quiet (fail);have own43:∀n,(wr.drewN n).ownsRow (w1.heap.size+1+1+1) 3 1 _ c.length (c.map zj):=fun n=>ji hp
    go_wp2_with (at_builtin;go_must (refine wpList_append_lies _ rfl (.tmp 43) (.tmp 48) 22 rfl (w1.heap.size+1+1+1) 3 ii (U 0) 1 8 Tryz.underlying22 e0 d1 d0 c9 rfl Zd _ c.length (c.map zj) rfl ((own43 _).alloc _) ⟨wr.heap.size,0,none⟩ 1 1 [U u] rfl rfl (Oi (cs:=#[U u]) (zI Zs)) (by simp[Value.oneCell']) Zd (by unfold maxLen;omega) Zo Zt (wr.heap.size+1) Zs ?_;intro g2 f7 w2 b3 a6 g8 f3;have m:=(l.out.1.drewN (k:=nq)).push a6 b3;have b4:=zL a6 (zB (kg HK.out)) (zC hp HK.out (.inl Zo));have h0:=cell_of_one b4;have g9:=free_of_one b4;have e5:=Ja b4;have a8:=Ja m;clear b4 m b3 a6 hp own43))
    go_roundg k
    case measure=>omega
    case rel=>exact⟨seen,st,c++ [u],a8.out.popStk e5.out,a4.out,l.out.2.2.pop⟩
   ·have y:row[j]? =some s:=by rw[<-hs];simp[succ,Jj,b0.out]
    have d9:j<row.length:=(Jh.1 y).1;have b1:((j:Int)==(row.length:Int))=false:=by simp;omega
    have d4:(j:Int)<row.length:=Zo;obtain⟨b2,o2,rfl,e2,cs⟩:=HX.out j s y;simp only[zj] at cs;have m:∀n,Dfs w1 ((wr.drewN n).setCell ⟨gk,st.length*2+1,none⟩ (U ((j:Int)+1))) _ _ _ _ _ _ _ _ _:=fun n=>(l.out.1.drewN (k:=n)).bump HK.out
    have e3:=fun n=>cell_of_one (m n).hv
    have e4:∀n,A ((wr.drewN n).setCell ⟨gk,st.length*2+1,none⟩ (U ((j:Int)+1))) w1.heap.size s (.bool true):=fun n=>zA (m n).hs (by simp[i,afr])
    have b9:s<g.length:=by rw[<-l.out.2.2.len];exact(Jh.1 i).1
    have d2:(s:Int)<g.length:=Zo;have a8:=Ja m;have a4:=Ja t;clear t hs i y m;go_wp2_with fail;go_quiet (fail);go_wp2_with fail
    go_roundg k
    case measure=>omega
    case rel=>exact⟨seen,st++ [(u,j+1)],c,a8.out _,a4.out,l.out.2.2.skip⟩
   ·have y:row[j]? =some s:=by rw[<-hs];simp[succ,Jj,b0.out]
    have d9:j<row.length:=(Jh.1 y).1;have b1:((j:Int)==(row.length:Int))=false:=by simp;omega
    have d4:(j:Int)<row.length:=Zo;obtain⟨b2,o2,rfl,e2,cs⟩:=HX.out j s y;simp only[zj] at cs;have m:∀n,Dfs w1 ((wr.drewN n).setCell ⟨gk,st.length*2+1,none⟩ (U ((j:Int)+1))) _ _ _ _ _ _ _ _ _:=fun n=>(l.out.1.drewN (k:=n)).bump HK.out
    have e3:=fun n=>cell_of_one (m n).hv
    have e4:∀n,A ((wr.drewN n).setCell ⟨gk,st.length*2+1,none⟩ (U ((j:Int)+1))) w1.heap.size s (.bool false):=fun n=>zA (m n).hs (by simp[i,afr])
    have b9:s<g.length:=by rw[<-l.out.2.2.len];exact(Jh.1 i).1
    have d2:(s:Int)<g.length:=Zo;have b5:=l.out.2.2.skip.enter i;have a8:=Ja m;have a4:=Ja t;have d5:=Ja b5;clear t hs i y m b5;go_wp2_with fail;go_quiet (fail);go_wp2_with (go_at_call 94;go_must (refine(oF w1 _ w1.heap.size g.length (w1.heap.size+1) w1.heap.size (w1.heap.size+1+1) seen (st++ [(u,j+1)]) _ c s (a8.out _) b9 Zt).mono ?_;rintro e w2 ⟨rfl,c4⟩;have e6:=Ja c4;clear c4))
    go_roundg k
    case measure=>omega
    case rel=>exact⟨seen.set s true,st++ [(u,j+1)]++ [(s,0)],c,e6.out,a4.out,d5.out⟩
theorem rG{F:List Nat}:∀(k:Nat) (seen:List Bool) (stk:List (Nat×Nat)) (post:List Nat),kV g k seen stk post F->DInv g seen stk post->F.length<=g.length/\∀u∈F,u<g.length
 |0,seen,stk,post,h,hi=>by
  obtain⟨rfl,rfl⟩:=h
  exact⟨by have:=hi.le;simpa using this,hi.fin⟩
 |k+1,seen,stk,post,h,hi=>by
  obtain⟨st,u,j,rfl,⟨_,h⟩|⟨s,_,_,h⟩|⟨s,_,hs,h⟩⟩:=h
  ·exact rG k _ _ _ h hi.pop
  ·exact rG k _ _ _ h hi.skip
  ·exact rG k _ _ _ h (hi.skip.enter hs)
theorem tV.nodes(h:tV g c)(hv:zw g):c.length<=g.length/\∀u∈c,u<g.length:=by
 obtain⟨k,h⟩:=h;have:=rG k _ _ _ h (DInv.start hv)
 simpa using this
theorem tp (w:World)(sv:Value)(g:List (List Nat))(B:Nat)(hB:B<=w.heap.size)(h:aaB zj w B sv g)(hv:zw g)(d:g.length<=2000000)(hr:∀row∈g,row.length<=2000000)(c:List Nat)(ho:tV g c):
 G 40 #[.agg #[sv]] w (fJ w c):=by
 obtain⟨k0,ho⟩:=ho;have:=lJ w sv g B hB h hv d hr k0 _ ho
 rwa [List.reverse_reverse] at this
end Go.Proofs.YtoahcpkibpomcaaGreat
