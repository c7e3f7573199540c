/- Part of a proof. -/
import Derived.Test.YtoahcpkibpomcaaGreatGMathv2w
import Derived.Test.YtoahcpkibpomcaaGreatGZo0w
set_option linter.all false
set_option maxHeartbeats 2000000
set_option maxRecDepth 100000
namespace Go.Proofs.YtoahcpkibpomcaaGreat
open Go.RowKit
variable {X X':Nat->Prop}{W w w' w3:World}{i k:Nat}{o:IOp}{xs:List Int}{c:Int}{d:wO}{M M' M1:MS}{Df:Int->Int->Int->Prop}{g:List (List Nat)}{vv:Value}
structure Stp (X:Nat->Prop) (w:World) (X':Nat->Prop) (w':World):Prop where
 os:w'.os=w.os
 tape:w'.tape=w.tape
 output:w'.output=w.output
 size:w.heap.size<=w'.heap.size
 new:∀k,X' k->X k∨w.heap.size<=k
 kept:∀k,k<w.heap.size->¬X k->w'.heap[k]? =w.heap[k]?
theorem Stp.refl (X:Nat->Prop)(w:World):Stp X w X w:=⟨rfl,rfl,rfl,Je _,fun _ h=> .inl h,fun _ _ _=>rfl⟩
theorem Stp.trans{X1 X2:Nat->Prop}{w1 w2:World}(h:Stp X w X1 w1)(k:Stp X1 w1 X2 w2):Stp X w X2 w2:=
 ⟨k.os.trans h.os,k.tape.trans h.tape,k.output.trans h.output,Jn h.size k.size,
  fun i hi=>(k.new i hi).elim (h.new i) (fun e=> .inr (Jn h.size e)),
  fun i hi hx=>(k.kept i (Jy hi h.size) (fun e=>(h.new i e).elim hx Zo)).trans (h.kept i hi hx)⟩
theorem Stp.of_below(h:N w w'):Stp X w X w':=
 ⟨h.os,h.tape,h.output,h.size,fun _ h=> .inl h,fun k hk _=>h.block k hk⟩
theorem Stp.below{B:Nat}(h:Stp X w X' w')(c:∀k,X k->B<=k)(hB:B<=w.heap.size):Below B w w':=
 ⟨h.os,h.tape,h.output,h.size,fun k hk=>h.kept k Zo (fun e=>by have:=c k e;omega)⟩
theorem Stp.blk(h:Stp X w X' w'){o:Obj}(hk:w.heap[k]? =some o)(c:¬X k):w'.heap[k]? =some o:=(h.kept k (lt_of_block hk) c).trans hk
theorem Stp.cell {X X':Nat->Prop}{w w':World}(h:Stp X w X' w'){k i:Nat}{v:Value}(hk:A w k i v)(c:¬X k):A w' k i v:=
 (Oo (h.kept k (jU hk) c)).trans hk
theorem Stp.not(h:Stp X w X' w')(hk:k<w.heap.size)(c:¬X k):¬X' k:=fun e=>(h.new k e).elim c Zo
def yE {α:Type}(sz:Nat)(R:World->(Nat->Prop)->Nat->Nat->α->Prop)(w:World)(X:Nat->Prop)(v:Value)(xs:List α):Prop:=
 ∃(a:Option Addr) (cap:Nat),v=.slice a xs.length cap/\xs.length<=cap/\cap<=9223372036854775807/\∀(k:Nat) (x:α),xs[k]? =some x->∃b o,a=some ⟨b,o,none⟩/\b<w.heap.size/\¬X b/\R w X b (o+k*sz) x
def rP {α:Type}(R:World->(Nat->Prop)->Nat->Nat->α->Prop):Prop:=∀X w X' w' b q x,b<w.heap.size->¬X b->Stp X w X' w'->R w X b q x->R w' X' b q x
theorem yE.step {α:Type}{sz:Nat}{R:World->(Nat->Prop)->Nat->Nat->α->Prop}(i:rP R){X X':Nat->Prop}{w w':World}{v:Value}{xs:List α}(h:yE sz R w X v xs)(hs:Stp X w X' w'):yE sz R w' X' v xs:=by
 obtain⟨a,g,rfl,h1,h2,h3⟩:=h;refine⟨a,g,rfl,h1,h2,fun k x hk=>?_⟩;obtain⟨b,o,l,c,d,j⟩:=h3 k x hk;exact⟨b,o,l,Jy c hs.size,hs.not c d,i _ _ _ _ _ _ _ c d hs j⟩
theorem yE.nil{α:Type}{sz:Nat}{R:World->(Nat->Prop)->Nat->Nat->α->Prop}:yE sz R w X (L) []:=
 ⟨none,0,rfl,Je _,by omega,fun k x hk=>by simp at hk⟩
theorem yE.form{α:Type}{sz:Nat}{R:World->(Nat->Prop)->Nat->Nat->α->Prop}{v:Value}{xs:List α}(h:yE sz R w X v xs):∃a cap,v=.slice a xs.length cap/\xs.length<=cap/\cap<=9223372036854775807:=
 let⟨a,cap,e,h1,h2,_⟩:=h;⟨a,cap,e,h1,h2⟩
theorem yE.to{α:Type}{sz:Nat}{R:World->(Nat->Prop)->Nat->Nat->α->Prop}{S:World->Nat->Nat->Nat->α->Prop}{v:Value}{xs:List α}(h:yE sz R w X v xs)(c:∀b q x,R w X b q x->S w w.heap.size b q x):yN sz S w w.heap.size v xs:=by
 obtain⟨a,d,rfl,h1,h2,h3⟩:=h;refine⟨a,d,rfl,h1,h2,fun k x hk=>?_⟩;obtain⟨b,o,j,i,_,g⟩:=h3 k x hk;exact⟨b,o,j,i,c _ _ _ g⟩
def IntG (w:World)(X:Nat->Prop)(b q:Nat)(x:Int):Prop:=A w b q (U x)/\I64 x
theorem wb:rP IntG:=fun X w X' w' b q x _ hx hs h=>⟨hs.cell h.1 hx,h.2⟩
abbrev wm:=yE 1 IntG
def EdgeG (w:World)(X:Nat->Prop)(b q:Nat)(x:IEdge):Prop:=A w b q (U x.block)/\I64 x.block/\∃av,A w b (q+1) av/\wm w X av x.args
theorem yq:rP EdgeG:=fun X w X' w' b q x _ hx hs h=>by
 obtain⟨h1,h2,av,h3,c⟩:=h;exact⟨hs.cell h1 hx,h2,av,hs.cell h3 hx,c.step wb hs⟩
abbrev vT:=yE 2 EdgeG
theorem wm.to{v:Value}(h:wm w X v xs):zY w w.heap.size v xs:=yE.to h fun _ _ _ h=>h
theorem vT.to{v:Value}{xs:List IEdge}(h:vT w X v xs):wH w w.heap.size v xs:=yE.to h fun _ _ _ h=>by
 obtain⟨h1,h2,av,h3,c⟩:=h;exact⟨h1,h2,av,h3,wm.to c⟩
theorem rO{S:Nat}{v:Value}{n:Nat}(h:w.ownsRow S 3 1 v n (xs.map zN))(j:xs.length=n)(i:∀x∈xs,I64 x)(l:∀k,v.ownBlock=some k->¬X k):wm w X v xs:=by
 subst j;obtain⟨a,c,rfl⟩:=zG h;have hl:=zm h;refine⟨a,c,rfl,hl.1,by omega,fun k x hk=>?_⟩;have m:=(Jh.1 hk).1;obtain⟨g,o,e,hg,d⟩:=h.form Zo;cases e;refine⟨g,0,rfl,d,l g rfl,?_,i x (Ji hk)⟩;rw[Nk,Ng];exact(h.cellAt k Zo).trans (by rw[Jr,hk];rfl)
theorem ki{b:Nat}{e:TypeId}(h:O w b (xs.map fun x=>U x).toArray e)(c:¬X b)(h64:∀x∈xs,I64 x)(hl:xs.length<=1000000):wm w X (F b xs.length xs.length) xs:=by
 refine⟨_,xs.length,rfl,Je _,by omega,fun k x hk=>⟨b,0,rfl,lt_of_block h,c,?_,h64 x (Ji hk)⟩⟩;rw[Ng,Nk];exact zA h (by simp[hk])
theorem ld{S:Nat}{v:Value}{l:List (IEdge×Value)}(h:w.ownsRow S 79 2 v l.length (l.flatMap za))(h64:∀q∈l,I64 q.1.block/\wm w X q.2 q.1.args)(t:∀k,v.ownBlock=some k->¬X k):vT w X v (l.map (·.1)):=by
 obtain⟨a,c,rfl⟩:=zG h;have hl:=zm h;refine⟨a,c,by rw[Nr],by rw[Nr];exact hl.1,by omega,fun k o hk=>?_⟩;rw[Jr,Oz] at hk;obtain⟨q,d,rfl⟩:=hk;have u:=(Jh.1 d).1;obtain⟨g,x,e,hg,hb⟩:=h.form Zo;cases e
 have m:∀j v,(za q)[j]? =some v->A w g (0+k*2+j) v:=fun j v hj=>by
  have i:j<2:=(Jh.1 hj).1;rw[Ng];exact(h.cellAt (k*2+j) Zo).trans ((uB za 2 (fun _=>rfl) l k q d j i).trans hj)
 obtain⟨h1,h2⟩:=h64 q (Ji d);exact⟨g,0,rfl,hb,t g rfl,m 0 _ rfl,h1,q.2,m 1 _ rfl,h2⟩
theorem qt{b:Nat}{l:List (IEdge×Value)}{e:TypeId}(h:O w b (l.flatMap za).toArray e)(g:¬X b)(h64:∀q∈l,I64 q.1.block/\wm w X q.2 q.1.args)(hl:l.length<=1000000):
 vT w X (F b l.length l.length) (l.map (·.1)):=by
 refine⟨_,l.length,by rw[Nr],by rw[Nr];exact Je _,by omega,fun k o hk=>?_⟩;rw[Jr,Oz] at hk;obtain⟨q,c,rfl⟩:=hk;have d:=fun j v (hj:(za q)[j]? =some v)=>oW (f:=za) (n:=2) (fun _=>rfl) h c hj
 obtain⟨h1,h2⟩:=h64 q (Ji c);exact⟨b,0,rfl,lt_of_block h,g,d 0 _ rfl,h1,q.2,d 1 _ rfl,h2⟩
structure MKC where
 E:ME
 sv:Value
 fpv:Value
 apv:Value
 dv:Value
 bv:Value
 pm:Nat
 pp:Nat
 B:Nat
 Z:Nat->Prop
def MKC.av (K:MKC)(X:Nat->Prop):Nat->Prop:=fun k=>X k∨K.Z k
variable {K:MKC}
theorem Stp.av(h:Stp X w X' w')(K:MKC):Stp (K.av X) w (K.av X') w':=
 ⟨h.os,h.tape,h.output,h.size,fun k hk=>hk.elim (fun e=>(h.new k e).elim (fun e=> .inl (.inl e)) .inr) (fun e=> .inl (.inr e)),fun k hk hx=>h.kept k hk (fun e=>hx (.inl e))⟩
structure BM where
 b:IBlk
 pv:Value
 ov:Value
 tv:Value
 ol:List (IOp×Value)
variable {l:List BM}
def xG (q:BM):List Value:=[q.pv,q.ov,U q.b.term.kind,U q.b.term.a,q.tv]
structure BMOk (w:World) (K:MKC) (X:Nat->Prop) (q:BM):Prop where
 k64:I64 q.b.term.kind/\I64 q.b.term.a
 par:wm w (K.av X) q.pv q.b.params
 ops:q.b.ops=q.ol.map (·.1)
 own:w.ownsRow K.B 76 6 q.ov q.ol.length (q.ol.flatMap zU)
 arg:∀o∈q.ol,qN o.1/\wm w (K.av X) o.2 o.1.args
 tos:vT w (K.av X) q.tv q.b.term.to
 inX:∀k,q.ov.ownBlock=some k->X k
theorem BMOk.step {w w':World}{K:MKC}{X X':Nat->Prop}{q:BM}(h:BMOk w K X q)(hs:Stp X w X' w')(hk:∀k,q.ov.ownBlock=some k->w'.heap[k]? =w.heap[k]?)(c:∀k,X k->X' k):BMOk w' K X' q:=
 ⟨h.k64,h.par.step wb (hs.av K),h.ops,yD h.own hk,fun o ho=>⟨(h.arg o ho).1,(h.arg o ho).2.step wb (hs.av K)⟩,h.tos.step yq (hs.av K),fun k hk=>c k (h.inX k hk)⟩
def uC (K:MKC)(M:MS)(fv vv:Value):Array Value:=
 #[K.sv,U (M.pos:Int),Q K.pp,U (K.E.me:Int),fv,U (M.cur:Int),U (M.next:Int),vv,U M.left]
structure MkEnv (w:World) (K:MKC) (X:Nat->Prop):Prop where
 s:zY w K.B K.sv K.E.s
 fpv:∃a c,K.fpv=.slice a K.E.nf c
 prog:w.heap[K.pp]? =some (.cells #[K.fpv,K.apv,.int .i64 0,.int .i64 K.E.handler,K.dv,K.bv] 29 (0,0))
 args:wm w (K.av X) K.apv K.E.args
 data:∃b,K.dv=.slice (some ⟨b,0,none⟩) 3 3/\¬K.av X b/\w.heap[b]? =some (.cells #[.int .i64 (-1),.int .u16 16384,.int .u16 16,.int .i64 (-1),.int .u16 16640,.int .u16 7,.int .i64 0,.int .u16 128,.int .u16 32] 89 (0,0))
 ppX:¬K.av X K.pp
 h64:I64 K.E.handler
 len:K.E.args.length=K.E.nf
 nf:K.E.nf<=4/\K.E.me<K.E.nf
 alt:∀x∈K.E.args,0<=x/\x<4
 zx:∀k,X k->¬K.Z k
 zl:∀k,K.Z k->k<w.heap.size
theorem MkEnv.step {w w':World}{K:MKC}{X X':Nat->Prop}(h:MkEnv w K X)(hs:Stp X w X' w')(hb:Below K.B w w'):MkEnv w' K X':=by
 obtain⟨b,e1,e2,e3⟩:=h.data;have c:=hs.av K;exact⟨h.s.below zO hb,h.fpv,c.blk h.prog h.ppX,h.args.step wb c,⟨b,e1,c.not (lt_of_block e3) e2,c.blk e3 e2⟩,c.not (lt_of_block h.prog) h.ppX,h.h64,h.len,h.nf,h.alt,fun k e=>(hs.new k e).elim (h.zx k) (fun e2 e3=>by have:=h.zl k e3;omega),fun k e=>Jy (h.zl k e) hs.size⟩
structure MkIn (w:World) (K:MKC) (X:Nat->Prop) (M:MS) (fv vv:Value) (l:List BM):Prop where
 blk:w.heap[K.pm]? =some (.cells (uC K M fv vv) 128 (0,0))
 own:w.ownsRow K.B 84 5 fv l.length (l.flatMap xG)
 fl:M.f=l.map (·.b)
 bok:∀q∈l,BMOk w K X q
 apart:∀(i j:Nat) (qi qj:BM) (k:Nat),l[i]? =some qi->l[j]? =some qj->qi.ov.ownBlock=some k->qj.ov.ownBlock=some k->i=j
 vown:w.ownsRow K.B 3 1 vv M.vals.length (M.vals.map zN)
 v64:∀x∈M.vals,I64 x
 xm:X K.pm
 xf:∀k,fv.ownBlock=some k->X k
 xv:∀k,vv.ownBlock=some k->X k
 xB:∀k,X k->K.B<=k
 xl:∀k,X k->k<w.heap.size
 env:MkEnv w K X
 bnd:M.sz<=1000000
 lft:6<=M.left+M.pos/\M.left<=6
def wW (w:World)(K:MKC)(X:Nat->Prop)(M:MS):Prop:=∃fv vv l,MkIn w K X M fv vv l
section
variable {w:World} {K:MKC} {X:Nat->Prop} {M:MS} {fv vv:Value} {l:List BM} (h:MkIn w K X M fv vv l)
include h
theorem MkIn.c0:A w K.pm 0 K.sv:=zA h.blk rfl
theorem MkIn.c1:A w K.pm 1 (U (M.pos:Int)):=zA h.blk rfl
theorem MkIn.c2:A w K.pm 2 (Q K.pp):=zA h.blk rfl
theorem MkIn.c3:A w K.pm 3 (U (K.E.me:Int)):=zA h.blk rfl
theorem MkIn.c4:A w K.pm 4 fv:=zA h.blk rfl
theorem MkIn.c5:A w K.pm 5 (U (M.cur:Int)):=zA h.blk rfl
theorem MkIn.c6:A w K.pm 6 (U (M.next:Int)):=zA h.blk rfl
theorem MkIn.c7:A w K.pm 7 vv:=zA h.blk rfl
theorem MkIn.c8:A w K.pm 8 (U M.left):=zA h.blk rfl
theorem MkIn.free (i:Nat):D w K.pm i:=zE h.blk
theorem MkIn.size:K.B<=w.heap.size:=Jn (h.xB _ h.xm) (Qd (h.xl _ h.xm))
theorem MkIn.keep(hb:N w w'):MkIn w' K X M fv vv l:=
 have hs:Stp X w X w':=Stp.of_below hb;have hk:∀ {v:Value} {e:TypeId} {sz n:Nat} {xs:List Value},w.ownsRow K.B e sz v n xs->∀k,v.ownBlock=some k->w'.heap[k]? =w.heap[k]?:=fun ho k hk=>hb.block k (ho.lt k hk).2
 ⟨zH hb h.blk (lt_of_block h.blk),yD h.own (hk h.own),h.fl,fun q hq=>(h.bok q hq).step hs (hk (h.bok q hq).own) (fun _ e=>e),h.apart,yD h.vown (hk h.vown),h.v64,h.xm,h.xf,h.xv,h.xB,fun k e=>Jy (h.xl k e) hb.size,
  h.env.step hs (hb.mono h.size),h.bnd,h.lft⟩
theorem MkIn.setC (i:Nat)(u:Value)(M':MS)(vv':Value)(j:(uC K M fv vv).setIfInBounds i u=uC K M' fv vv')(hf:M'.f=M.f)(hv:w.ownsRow K.B 3 1 vv' M'.vals.length (M'.vals.map zN))(h64:∀x∈M'.vals,I64 x)(g:∀k,vv'.ownBlock=some k->X k)
 (d:M'.sz<=1000000) (hl:6<=M'.left+M'.pos/\M'.left<=6):MkIn (w.setCell ⟨K.pm,i,none⟩ u) K X M' fv vv' l/\Stp X w X (w.setCell ⟨K.pm,i,none⟩ u):=by
 have hs:Stp X w X (w.setCell ⟨K.pm,i,none⟩ u):=⟨rfl,rfl,rfl,by simp,fun _ h=> .inl h,fun k hk hx=>Below.heap_setCell _ _ _ _ (fun e=>hx (by rw[e];exact h.xm))⟩
 have c:∀ {v:Value} {e:TypeId} {sz n:Nat} {xs:List Value},w.ownsRow K.B e sz v n xs->e≠128->∀k,v.ownBlock=some k->(w.setCell ⟨K.pm,i,none⟩ u).heap[k]? =w.heap[k]?:=fun ho he k hk=>
  Below.heap_setCell _ _ _ _ (fun e=>zC ho h.blk (.inr he) (by rw[hk];exact congrArg some e))
 refine⟨⟨?_,yD h.own (c h.own Zd),hf.trans h.fl,fun q hq=>(h.bok q hq).step hs (c (h.bok q hq).own Zd) (fun _ e=>e),h.apart,yD hv (c hv Zd),h64,h.xm,h.xf,g,h.xB,fun k e=>by simpa using h.xl k e,
  h.env.step hs ((Below.refl _ _).setCell (h.xB _ h.xm) _),d,hl⟩,hs⟩
 rw[zD h.blk,j]
end
structure GrowP (c:Nat) (M M':MS):Prop where
 pos:M.pos<=M'.pos
 sz:M'.sz<=M.sz+c
 len:M.f.length<=M'.f.length
 nxt:M.next<=M'.next
 pre:M.vals<+:M'.vals
 cur:M.cur<M.f.length->M'.cur<M'.f.length
 left:M'.left<=M.left
 lft:6<=M.left+M.pos->6<=M'.left+M'.pos
 par:xU M.f M'.f
theorem GrowP.refl (M:MS):GrowP 0 M M:=⟨Je _,Je _,Je _,Je _,Od,fun h=>h,Og _,fun h=>h,xU.refl _⟩
theorem GrowP.trans{c d:Nat}{M2:MS}(h:GrowP c M M1)(k:GrowP d M1 M2):GrowP (c+d) M M2:=
 ⟨Jn h.pos k.pos,by have:=h.sz;have:=k.sz;omega,Jn h.len k.len,Jn h.nxt k.nxt,h.pre.trans k.pre,fun e=>k.cur (h.cur e),Int.le_trans k.left h.left,fun e=>k.lft (h.lft e),h.par.trans k.par⟩
theorem GrowP.mono{c d:Nat}(h:GrowP c M M1)(g:c<=d):GrowP d M M1:= {h with sz:=by have:=h.sz;omega }
theorem Grow.p{c:Nat}(h:Grow c M M'):GrowP c M M':=⟨h.pos,h.sz,Ul h.len.symm,h.nxt,h.pre,fun e=>by rw[h.cur,h.len];exact e,Int.le_of_eq h.left,fun e=>by have:=h.left;have:=h.pos;omega,h.par⟩
theorem xM (M:MS)(p:Nat):GrowP (1+p) M (M.block p):=
 ⟨Je _,by rw[sz_block];omega,by unfold MS.block;simp,by unfold MS.block;simp,Od,fun e=>by unfold MS.block;simp;omega,Og _,fun e=>e,qX _ _⟩
theorem vW:∀(n:Nat) (M:MS),GrowP n M (xE n M)
 |0,M=>GrowP.refl M
 |n+1,M=>(vW n M).trans ((xM _ 0).mono Zo)
theorem tB:∀(n:Nat) (M:MS),(xE n M).f.length=M.f.length+n
 |0,M=>rfl
 |n+1,M=>by show((xE n M).f++ [_]).length=_;rw[Jk,tB n M];rfl
theorem yz (M:MS)(p:Nat):(M.block p).f.length=M.f.length+1:=by unfold MS.block;simp
theorem vk (M:MS)(c:Nat)(h:c<M.f.length):GrowP 0 M {M with cur:=c }:=⟨Je _,Je _,Je _,Je _,Od,fun _=>h,Og _,fun e=>e,xU.refl _⟩
theorem dO {α:Type}{l m:List α}(h:l<+:m):l.length<=m.length:=by obtain⟨t,rfl⟩:=h;simp
theorem uF {α:Type}{l m:List α}(h:l<+:m):m.take l.length=l:=by obtain⟨t,rfl⟩:=h;simp
theorem sY{c:Nat}(h:GrowP c M M1):GrowP c M {M1 with vals:=M1.vals.take M.vals.length }:=by
 refine⟨h.pos,?_,h.len,h.nxt,by rw[uF h.pre];exact Od,h.cur,h.left,h.lft,h.par⟩;have h1:=h.sz;have h2:=dO h.pre;unfold MS.sz at h1 ⊢;simp only[uF h.pre];omega
def wM (E:ME)(join k:Nat)(M1:MS):MS:=
 if tkV E M1 12=11/\0<k then(zJ E M1.tick).2.endB ⟨4,(zJ E M1.tick).1,[]⟩ else(zJ E M1.tick).2.endB ⟨1,0,[⟨(join:Nat),[(zJ E M1.tick).1]⟩]⟩
theorem su (E:ME)(c k:Nat)(M1:MS):GrowP 5 M1 (wM E c k M1):=by
 have h:=((zT M1).trans (yU E _)).p;unfold wM
 split
 ·exact h.trans (zv _ _).p
 ·exact h.trans (zv _ _).p
theorem rg (E:ME)(c:MS->MS)(tg d keep n k:Nat)(M:MS):uV E c tg d keep (n+1) k M=uV E c tg d keep n (k+1) {wM E d k (c {M with cur:=tg+k }) with vals:=(wM E d k (c {M with cur:=tg+k })).vals.take keep }:=rfl
theorem pF (E:ME)(c:MS->MS)(P:Nat)(i:∀M,GrowP P M (c M))(tg d:Nat):∀(n k:Nat) (M:MS),tg+k+n<=M.f.length->GrowP (n*(P+5)) M (uV E c tg d M.vals.length n k M)/\(uV E c tg d M.vals.length n k M).vals=M.vals
 |0,k,M,h=>⟨(GrowP.refl M).mono Zo,rfl⟩
 |n+1,k,M,h=>by
  rw[rg];have h1:=((vk M (tg+k) Zo).trans ((i _).trans (su E d k (c {M with cur:=tg+k })))).mono (show 0+(P+5)<=P+5 by omega);have h2:=sY h1;have h3:({wM E d k (c {M with cur:=tg+k }) with vals:=(wM E d k (c {M with cur:=tg+k })).vals.take M.vals.length }:MS).vals=M.vals:=uF h1.pre;have g:=pF E c P i tg d n (k+1) {wM E d k (c {M with cur:=tg+k }) with vals:=(wM E d k (c {M with cur:=tg+k })).vals.take M.vals.length } (by have:=h2.len;simp only at this ⊢;omega);rw[h3] at g;refine⟨(h2.trans g.1).mono ?_,g.2⟩;rw[Nat.succ_mul];omega
theorem uU (E:ME)(d:MS->MS)(P:Nat)(j:∀M,GrowP P M (d M))(n:Nat)(i:n<=4)(M:MS):GrowP (31+4*P) M (xi E d n M):=by
 unfold xi;simp only;have h1:=(yU E M).p;generalize zJ E M=c at *;have h2:=(h1.trans (vW n c.2)).trans (xM _ 1);have l2:((xE n c.2).block 1).f.length=c.2.f.length+n+1:=by rw[yz,tB]
 have h3:=h2.trans (zv ((xE n c.2).block 1) ⟨if 2<n then 3 else 2,c.1,xk c.2.f.length n⟩).p;have l3:(((xE n c.2).block 1).endB ⟨if 2<n then 3 else 2,c.1,xk c.2.f.length n⟩).f.length=c.2.f.length+n+1:=(zv _ _).len.trans l2;generalize ((xE n c.2).block 1).endB ⟨if 2<n then 3 else 2,c.1,xk c.2.f.length n⟩=M3 at *;obtain⟨h,k⟩:=pF E d P j c.2.f.length (c.2.f.length+n) n 0 M3 Zo;generalize uV E d c.2.f.length (c.2.f.length+n) M3.vals.length n 0 M3=M4 at *;have g:=h3.trans h;have hm:n*(P+5)<=4*(P+5):=Qw _ i;refine⟨g.pos,?_,g.len,g.nxt,g.pre.trans (Qb _ _),fun e=>?_,g.left,g.lft,g.par⟩
 ·have:=g.sz;unfold MS.sz at this ⊢;simp only[Jk,Ju];omega
 ·have:=h.len
  show c.2.f.length+n<M4.f.length
  omega
theorem qg (E:ME)(c:MS->MS)(P:Nat)(h:∀M,GrowP P M (c M))(M:MS):GrowP (24+P) M (tH E c M):=by
 unfold tH;simp only;have h1:=(((zT M).trans (wT M.tick (tkV E M 5))).trans (yU E _)).p;generalize zJ E (M.tick.num (tkV E M 5))=x at *;have l2:(((x.2.block 2).block 0).block 0).f.length=x.2.f.length+3:=by rw[yz,yz,yz]
 have h2:=((h1.trans (xM _ 2)).trans (xM _ 0)).trans (xM _ 0);have h3:=h2.trans (zv (((x.2.block 2).block 0).block 0) ⟨1,0,[⟨(x.2.f.length:Nat),[(M.next:Int),x.1]⟩]⟩).p;have l3:=(zv (((x.2.block 2).block 0).block 0) ⟨1,0,[⟨(x.2.f.length:Nat),[(M.next:Int),x.1]⟩]⟩).len.trans l2;generalize (((x.2.block 2).block 0).block 0).endB ⟨1,0,[⟨(x.2.f.length:Nat),[(M.next:Int),x.1]⟩]⟩=M2 at *
 have m:GrowP 1 M2 {M2 with cur:=x.2.f.length,vals:=M2.vals++ [((x.2.next+1:Nat):Int)]}:=by
  refine⟨Je _,?_,Je _,Je _,Qb _ _,fun _=>by show x.2.f.length<M2.f.length;omega,Og _,fun e=>e,xU.refl _⟩;unfold MS.sz;simp only[Jk,Ju];omega
 have l:=(h3.trans m).trans (zv {M2 with cur:=x.2.f.length,vals:=M2.vals++ [((x.2.next+1:Nat):Int)]} ⟨2,(x.2.next:Nat),[⟨((x.2.f.length+1:Nat):Int),[]⟩,⟨((x.2.f.length+2:Nat):Int),[]⟩]⟩).p;have l5:=(zv {M2 with cur:=x.2.f.length,vals:=M2.vals++ [((x.2.next+1:Nat):Int)]} ⟨2,(x.2.next:Nat),[⟨((x.2.f.length+1:Nat):Int),[]⟩,⟨((x.2.f.length+2:Nat):Int),[]⟩]⟩).len;have o:(MS.endB {M2 with cur:=x.2.f.length,vals:=M2.vals++ [((x.2.next+1:Nat):Int)]} ⟨2,(x.2.next:Nat),[⟨((x.2.f.length+1:Nat):Int),[]⟩,⟨((x.2.f.length+2:Nat):Int),[]⟩]⟩).f.length=x.2.f.length+3:=l5.trans l3;generalize MS.endB {M2 with cur:=x.2.f.length,vals:=M2.vals++ [((x.2.next+1:Nat):Int)]} ⟨2,(x.2.next:Nat),[⟨((x.2.f.length+1:Nat):Int),[]⟩,⟨((x.2.f.length+2:Nat):Int),[]⟩]⟩=M3 at *;have k:=(vk M3 (x.2.f.length+1) Zo).trans (h _);have j:=k.trans (wT (c {M3 with cur:=x.2.f.length+1 }) 1).p;generalize c {M3 with cur:=x.2.f.length+1 }=M4 at *;have i:=(j.trans (yB (M4.num 1) ⟨6,0,(x.2.next:Nat),(M4.next:Nat),0,[]⟩).p).trans (yU E _).p;generalize zJ E ((M4.num 1).emit ⟨6,0,(x.2.next:Nat),(M4.next:Nat),0,[]⟩)=y at *;have g:=sY (i.trans (zv y.2 ⟨1,0,[⟨(x.2.f.length:Nat),[((M4.next+1:Nat):Int),y.1]⟩]⟩).p);generalize t:y.2.endB ⟨1,0,[⟨(x.2.f.length:Nat),[((M4.next+1:Nat):Int),y.1]⟩]⟩=M6 at *;have d:=g.len;simp only at d;exact((l.trans g).trans (vk {M6 with vals:=M6.vals.take M3.vals.length } (x.2.f.length+2) (by show x.2.f.length+2<M6.f.length;omega))).mono Zo
theorem oL (E:ME)(c:∀x∈E.args,0<=x/\x<4)(M:MS):GrowP 101 M (tR E M):=by
 unfold tR;simp only;have hk:=aaE E M (n:=5) Zo;have h1:=(zT M).trans (pw E c (tkV E M 5+1) M.tick);have h2:=(pw E c (tkV E M 5+1) M.tick)
 have h3:=h1.p;refine⟨h3.pos,?_,h3.len,h3.nxt,h3.pre,h3.cur,by have:=h3.left;show _-1<=M.left;omega,fun e=>?_,h3.par⟩
 ·have:=h3.sz;unfold MS.sz at this ⊢;simp only;omega
 ·have e1:=h1.left;have e2:=h2.pos;have e3:M.tick.pos=M.pos+1:=rfl
  show 6<=(qY E (tkV E M 5+1) M.tick).left-1+(((qY E (tkV E M 5+1) M.tick).pos:Nat):Int)
  omega
def pC:Nat->Nat
 |0=>101
 |d+1=>134+4*pC d
theorem xw (E:ME)(g:∀x∈E.args,0<=x/\x<4):∀(d:Nat) (M:MS),GrowP (pC d) M (zp E d M)
 |0,M=>oL E g M
 |d+1,M=>by
  unfold zp;simp only;have h1:=oL E g M;generalize tR E M=M2 at *;have c:=xw E g d;have i:pC (d+1)=134+4*pC d:=rfl;have ht:=(zT M2).p;have h:=(zT M2.tick).p
  split
  ·exact h1.mono Zo
  split
  ·exact((h1.trans ht).trans (uU E _ _ c 2 Zo _)).mono Zo
  split
  ·exact((h1.trans ht).trans (qg E _ _ c _)).mono Zo
  split
  ·have:=aaE E M2.tick (n:=3) Zo;exact(((h1.trans ht).trans h).trans (uU E _ _ c (2+tkV E M2.tick 3) Zo _)).mono Zo
  ·exact(h1.trans ht).mono Zo
structure EnvOk (p:IProg) (E:ME):Prop where
 nf:p.funcs.length=E.nf
 args:p.args=E.args
 data:p.data.length=3
 alt:∀x∈E.args,0<=x/\x<4
theorem opF_of{p:IProg}{F:Flds}(hs:zi o.code=F)(g:o.code≠26)(h2:o.code≠2)(d:F.is=true)(c:F.res=decide (0<=o.res))(hm:-1<=o.res)(i:F.a=true∨o.a=0)(hb:F.b=true∨o.b=0)(h:F.n=true∨o.n=0)(hg:o.args.length=0)
 (hp:(o.code≠24/\o.code≠25)∨(1<=o.n/\o.n<=255)):opF p o=true:=by
 unfold opF;rw[hs,if_neg g,if_neg h2];simp only[Jm,Bool.or_eq_true,decide_eq_true_eq];exact⟨d,⟨⟨⟨⟨⟨⟨c,hm⟩,i⟩,hb⟩,h⟩,hg⟩,hp⟩⟩
theorem gU{F:Flds}(hs:zi o.code=F)(c:F.a=false)(hb:F.b=false):rR o=o.args:=by unfold rR;rw[hs,c,hb];rfl
theorem fY(h:c=3∨c=4∨c=18∨c=19):zi c=⟨true,true,true,false,false⟩:=by rcases h with rfl|rfl|rfl|rfl<;>rfl
theorem eF(h:5<=c/\c<=17):zi c=⟨true,true,true,true,false⟩:=by
 unfold zi;rw[if_neg Zo,if_neg Zo,if_pos h]
theorem shape_st(h:c=20∨c=21):zi c=⟨true,false,true,true,false⟩:=by rcases h with rfl|rfl<;>rfl
theorem eK(h:c=22∨c=23):zi c=⟨true,true,true,false,true⟩:=by rcases h with rfl|rfl<;>rfl
section
variable {p:IProg} {M:MS} {O P:Nat->Prop} {pl:List Nat}
theorem ait{M:MS}(h:uc o.code=true):(M.emit o).next=M.next+1:=by unfold MS.emit;simp only[h,if_true]
theorem gS{M:MS}(h:uc o.code=false):(M.emit o).next=M.next/\(M.emit o).vals=M.vals:=by unfold MS.emit;simp only[h];exact⟨rfl,rfl⟩
theorem gy{M:MS}(h:uc o.code=true):(M.emit o).vals=M.vals++ [(M.next:Int)]:=by unfold MS.emit;simp only[h,if_true]
theorem fS{M:MS}(h:uc o.code=true):(M.next:Int)∈(M.emit o).vals:=by rw[gy h];simp
theorem abw{M:MS}(h:uc o.code=true):(eg M o).res=(M.next:Int):=by unfold eg;simp only[h,if_true]
theorem gX{M:MS}(h:uc o.code=false):(eg M o).res=-1:=by unfold eg;simp only[h];rfl
theorem MInv.emit(h:aaz p M O P pl)(d:O M.cur)(ho:opF p (eg M o)=true)(c:∀v∈rR o,∀b,M.f[M.cur]? =some b->Kn M.f pl v M.cur b.ops.length):aaz p (M.emit o) O P pl:=by
 obtain⟨b,hb⟩:=h.get
 show MInv p (afe M.f M.cur _) M.cur _ _ O P pl
 rw[xI hb];refine h.push hb d ho (fun v hv=>c v hv b hb) ?_
 cases hr:uc o.code with
 |true=>exact .inl ⟨abw hr,ait hr,by rw[abw hr];exact gy hr⟩
 |false=>exact .inr ⟨by rw[gX hr];decide,(gS hr).1,(gS hr).2⟩
theorem MInv.at (h:aaz p M O P pl){v:Int}(hv:v∈M.vals):∀b,M.f[M.cur]? =some b->Kn M.f pl v M.cur b.ops.length:=fun b hb=>h.known v hv b hb
theorem MInv.emitK(h:aaz p M O P pl)(m:O M.cur){F:Flds}(hs:zi c=F)(g:F.is=true/\F.res=true)(j:c≠26)(h2:c≠2)(k:c≠25){a b:Int}{n:Nat}(i:(F.a=true/\∀x,M.f[M.cur]? =some x->Kn M.f pl a M.cur x.ops.length)∨(F.a=false/\a=0))(hb:(F.b=true/\∀x,M.f[M.cur]? =some x->Kn M.f pl b M.cur x.ops.length)∨(F.b=false/\b=0))
 (l:F.n=true∨n=0) (hp:c≠24∨(1<=n/\n<=255)):aaz p (M.emit ⟨c,0,a,b,n,[]⟩) O P pl/\(M.next:Int)∈(M.emit ⟨c,0,a,b,n,[]⟩).vals:=by
 have hr:uc c=true:=by unfold uc;rw[hs,g.2];rfl
 have d:uc (⟨c,0,a,b,n,[]⟩:IOp).code=true:=hr;refine⟨h.emit m ?_ ?_,fS d⟩
 ·refine opF_of (F:=F) hs j h2 g.1 ?_ ?_ ?_ ?_ l rfl (hp.imp (fun e=>⟨e,k⟩) (fun e=>e))
  ·rw[abw d,g.2];simp
  ·rw[abw d];omega
  ·exact i.imp (·.1) (·.2)
  ·exact hb.imp (·.1) (·.2)
 ·intro v hv;unfold rR at hv;simp only[hs,Ua] at hv;rcases Jl.1 hv with hv|hv
  ·rcases i with⟨e1,e2⟩|⟨e1,e2⟩
   ·rw[e1,if_pos rfl,Jo] at hv;subst hv;exact e2
   ·rw[e1] at hv;simp at hv
  ·rcases hb with⟨e1,e2⟩|⟨e1,e2⟩
   ·rw[e1,if_pos rfl,Jo] at hv;subst hv;exact e2
   ·rw[e1] at hv;simp at hv
theorem MInv.emitR(h:aaz p M O P pl)(k:O M.cur){F:Flds}(hs:zi c=F)(l:F.is=true/\F.res=true)(d:c≠26)(h2:c≠2)(g:c≠25){a b:Int}{n:Nat}(j:(F.a=true/\a∈M.vals)∨(F.a=false/\a=0))(hb:(F.b=true/\∀x,M.f[M.cur]? =some x->Kn M.f pl b M.cur x.ops.length)∨(F.b=false/\b=0))
 (i:F.n=true∨n=0) (hp:c≠24∨(1<=n/\n<=255)):aaz p (M.emit ⟨c,0,a,b,n,[]⟩) O P pl/\(M.next:Int)∈(M.emit ⟨c,0,a,b,n,[]⟩).vals:=
 h.emitK k hs l d h2 g (j.imp (fun e=>⟨e.1,h.at e.2⟩) (fun e=>e)) hb i hp
theorem MInv.emitN(h:aaz p M O P pl)(m:O M.cur){F:Flds}(hs:zi c=F)(i:F.is=true/\F.res=false)(g:c≠26)(h2:c≠2)(k:c≠24){a b:Int}{n:Nat}(j:(F.a=true/\a∈M.vals)∨(F.a=false/\a=0))(hb:(F.b=true/\b∈M.vals)∨(F.b=false/\b=0))
 (l:F.n=true∨n=0) (hp:c≠25∨(1<=n/\n<=255)):aaz p (M.emit ⟨c,0,a,b,n,[]⟩) O P pl:=by
 have hr:uc c=false:=by unfold uc;rw[hs,i.2];simpa using g
 have d:uc (⟨c,0,a,b,n,[]⟩:IOp).code=false:=hr;refine h.emit m ?_ ?_
 ·refine opF_of (F:=F) hs g h2 i.1 ?_ ?_ ?_ ?_ l rfl (hp.imp (fun e=>⟨k,e⟩) (fun e=>e))
  ·rw[gX d,i.2];rfl
  ·rw[gX d];decide
  ·exact j.imp (·.1) (·.2)
  ·exact hb.imp (·.1) (·.2)
 ·intro v hv;unfold rR at hv;simp only[hs,Ua] at hv;rcases Jl.1 hv with hv|hv
  ·rcases j with⟨e1,e2⟩|⟨e1,e2⟩
   ·rw[e1,if_pos rfl,Jo] at hv;subst hv;exact h.at e2
   ·rw[e1] at hv;simp at hv
  ·rcases hb with⟨e1,e2⟩|⟨e1,e2⟩
   ·rw[e1,if_pos rfl,Jo] at hv;subst hv;exact h.at e2
   ·rw[e1] at hv;simp at hv
theorem MInv.num (h:aaz p M O P pl)(d:O M.cur)(n:Nat):aaz p (M.num n) O P pl/\(M.next:Int)∈(M.num n).vals:=
 h.emitR (c:=1) d (F:=⟨true,true,false,false,true⟩) rfl ⟨rfl,rfl⟩ Zd Zd Zd (.inr ⟨rfl,rfl⟩) (.inr ⟨rfl,rfl⟩) (.inl rfl) (.inl Zd)
theorem MInv.tick (h:aaz p M O P pl):aaz p M.tick O P pl:=h
theorem fE{l:List Int}(h:k<l.length)(d:Int):l.getD k d∈l:=by
 rw[Jj,Jd h];exact Uf h
theorem MInv.any (E:ME)(h:aaz p M O P pl)(c:O M.cur):aaz p (zJ E M).2 O P pl/\(zJ E M).1∈(zJ E M).2.vals:=by
 unfold zJ
 split
 ·exact h.tick.num c _
 ·rename_i d
  split
  ·refine⟨h,fE ?_ _⟩
   show _<M.vals.length
   omega
  ·refine⟨h,fE ?_ _⟩;exact aaE E M Zo
theorem MInv.addr (E:ME)(hp:EnvOk p E)(h:aaz p M O P pl)(c:O M.cur):aaz p (yJ E M).2 O P pl/\(yJ E M).1∈(yJ E M).2.vals:=by
 unfold yJ
 split
 ·exact h.tick.any E c
 ·have hr:uc (2:Int)=true:=rfl;refine⟨MInv.emit (M:=M.tick.tick.tick) h c ?_ (fun v hv=>?_),fS (M:=M.tick.tick.tick) hr⟩
  ·have h1:=aaE E M.tick (n:=2) Zo;unfold opF;rw[show(eg M.tick.tick.tick ⟨2,0,((tkV E M.tick 2:Nat):Int),0,tkV E M.tick.tick (sE (tkV E M.tick 2)),[]⟩).code=2 from rfl,if_neg Zd,if_pos rfl,abw hr];simp only[Jm,decide_eq_true_eq,hp.data];exact⟨rfl,⟨⟨⟨⟨by show(0:Int)<=((tkV E M.tick 2:Nat):Int);omega,by show((tkV E M.tick 2:Nat):Int)<((3:Nat):Int);omega⟩,by omega⟩,rfl⟩,rfl⟩⟩
  ·rw[gU (F:=⟨true,true,false,false,true⟩) rfl rfl rfl] at hv;simp at hv
theorem MInv.args (E:ME)(h:aaz p M O P pl)(d:O M.cur):∀n,aaz p (yI E n M).2 O P pl/\(yI E n M).1.length=n/\(∀v∈(yI E n M).1,v∈(yI E n M).2.vals)/\(yI E n M).2.cur=M.cur
 |0=>⟨h,rfl,fun v hv=>by simp[yI] at hv,rfl⟩
 |n+1=>by
  obtain⟨h1,h2,h3,h4⟩:=MInv.args E h d n;have c:O (yI E n M).2.cur:=by rw[h4];exact d
  obtain⟨i,g⟩:=h1.any E c;have hg:=yU E (yI E n M).2;refine⟨i,?_,fun v hv=>?_,hg.cur.trans h4⟩
  ·show(_++ [_]).length=_
   rw[Jk,h2];rfl
  ·rcases Jl.1 hv with hv|hv
   ·exact hg.pre.subset (h3 v hv)
   ·rw[Jo] at hv;subst hv;exact g
theorem MInv.call (E:ME)(hp:EnvOk p E)(h:aaz p M O P pl)(c:O M.cur):aaz p (vN E M) O P pl:=by
 unfold vN
 split
 ·exact h
 ·rename_i j
  simp only
  split
  ·exact h
  ·obtain⟨h1,h2,h3,g⟩:=MInv.args E h.tick c (E.args.getD (E.me+1+tkV E M (E.nf-E.me-1)) 0).toNat;have k:=aaE E M (n:=E.nf-E.me-1) Zo
   have i:0<=E.args.getD (E.me+1+tkV E M (E.nf-E.me-1)) 0:=by
    rw[Jj]
    cases d:E.args[E.me+1+tkV E M (E.nf-E.me-1)]? with
    |none=>simp
    |some x=>exact(hp.alt x (Ji d)).1
   have hf:E.me+1+tkV E M (E.nf-E.me-1)<E.nf:=Zo;generalize E.me+1+tkV E M (E.nf-E.me-1)=f at *;have hr:uc (26:Int)=true:=rfl;refine h1.emit (by rw[g];exact c) ?_ (fun v hv=>?_)
   ·unfold opF;rw[if_pos (show(eg (yI E (E.args.getD f 0).toNat M.tick).2 ⟨26,0,(f:Nat),0,0,(yI E (E.args.getD f 0).toNat M.tick).1⟩).code=26 from rfl)];simp only[Jm,decide_eq_true_eq,hp.nf,hp.args];refine⟨rfl,⟨⟨⟨⟨⟨by show(0:Int)<=((f:Nat):Int);omega,by show((f:Nat):Int)<_;omega⟩,?_⟩,?_⟩,rfl⟩,rfl⟩⟩
    ·show(((yI E (E.args.getD f 0).toNat M.tick).1.length:Nat):Int)=E.args.getD ((f:Nat):Int).toNat 0
     rw[h2,Ni,Oa i]
    ·rw[abw hr];omega
   ·rw[gU (F:=⟨true,false,false,false,false⟩) rfl rfl rfl] at hv;exact h1.at (h3 v hv)
theorem MInv.arith (E:ME)(h:aaz p M O P pl)(m:O M.cur):aaz p (yR E M) O P pl:=by
 obtain⟨h1,h2⟩:=h.any E m;have g1:=yU E M;have k:O (zJ E M).2.cur:=by rw[g1.cur];exact m
 obtain⟨h3,l⟩:=h1.any E k;have g2:=yU E (zJ E M).2;have d:O (zJ E (zJ E M).2).2.cur:=by rw[g2.cur];exact k
 have i:=g2.pre.subset h2;unfold yR;simp only;have t:=aaE E (zJ E (zJ E M).2).2 (n:=13) Zo;generalize tkV E (zJ E (zJ E M).2).2 13=r at *;generalize zJ E (zJ E M).2=b at *;generalize (zJ E M).1=a at *;have g:aaz p b.2.tick O P pl:=h3
 split
 ·split
  ·obtain⟨k1,k2⟩:=MInv.num (M:=b.2.tick.tick) g d 1;have kb:b.1∈(b.2.tick.tick.num 1).vals:=(wT b.2.tick.tick 1).pre.subset l;have ka:a∈(b.2.tick.tick.num 1).vals:=(wT b.2.tick.tick 1).pre.subset i;have j:O (b.2.tick.tick.num 1).cur:=by rw[(wT b.2.tick.tick 1).cur];exact d
   obtain⟨k3,k4⟩:=k1.emitR (c:=10) j (F:=⟨true,true,true,true,false⟩) rfl ⟨rfl,rfl⟩ Zd Zd Zd (a:=b.1) (b:=(b.2.tick.tick.next:Nat)) (n:=0) (.inl ⟨rfl,kb⟩) (.inl ⟨rfl,k1.at k2⟩) (.inr rfl) (.inl Zd);have g3:=yB (b.2.tick.tick.num 1) ⟨10,0,b.1,(b.2.tick.tick.next:Nat),0,[]⟩;have o:(b.2.tick.tick.num 1).next=b.2.tick.tick.next+1:=rfl;rw[o] at k4;exact(k3.emitR (c:=8) (by rw[g3.cur];exact j) (F:=⟨true,true,true,true,false⟩) rfl ⟨rfl,rfl⟩ Zd Zd Zd (a:=a) (b:=((b.2.tick.tick.next+1:Nat):Int)) (n:=0) (.inl ⟨rfl,g3.pre.subset ka⟩) (.inl ⟨rfl,k3.at k4⟩) (.inr rfl) (.inl Zd)).1
  ·exact(MInv.emitR (M:=b.2.tick.tick) g (c:=8) d (F:=⟨true,true,true,true,false⟩) rfl ⟨rfl,rfl⟩ Zd Zd Zd (a:=a) (b:=b.1) (n:=0) (.inl ⟨rfl,i⟩) (.inl ⟨rfl,MInv.at (M:=b.2.tick.tick) g l⟩) (.inr rfl) (.inl Zd)).1
 ·exact(MInv.emitR (M:=b.2.tick) g (c:=((5+r:Nat):Int)) d (F:=⟨true,true,true,true,false⟩) (eF Zo) ⟨rfl,rfl⟩ Zo Zo Zo (a:=a) (b:=b.1) (n:=0) (.inl ⟨rfl,i⟩) (.inl ⟨rfl,MInv.at (M:=b.2.tick) g l⟩) (.inr rfl) (.inl Zo)).1
theorem MInv.op (E:ME)(hp:EnvOk p E)(h:aaz p M O P pl)(d:O M.cur):aaz p (xK E M) O P pl:=by
 unfold xK;simp only;have ht:aaz p M.tick O P pl:=h;have j:O M.tick.cur:=d
 split
 ·exact(MInv.num (M:=M.tick.tick) h d _).1
 split
 ·obtain⟨h1,h2⟩:=MInv.any (M:=M.tick.tick) E h d;have i:=aaE E M.tick (n:=2) Zo;exact(h1.emitR (c:=3+((tkV E M.tick 2:Nat):Int)) (by rw[(yU E M.tick.tick).cur];exact d) (F:=⟨true,true,true,false,false⟩) (fY Zo) ⟨rfl,rfl⟩ Zo Zo Zo (.inl ⟨rfl,h2⟩) (.inr ⟨rfl,rfl⟩) (.inr rfl) (.inl Zo)).1
 split
 ·obtain⟨h1,h2⟩:=MInv.addr (M:=M.tick) E hp h d;have i:=aaE E (yJ E M.tick).2 (n:=2) Zo;exact(MInv.emitR (M:=(yJ E M.tick).2.tick) h1 (c:=18+((tkV E (yJ E M.tick).2 2:Nat):Int)) (by show O (yJ E M.tick).2.cur;rw[(ue E M.tick).cur];exact d) (F:=⟨true,true,true,false,false⟩) (fY Zo) ⟨rfl,rfl⟩ Zo Zo Zo (.inl ⟨rfl,h2⟩) (.inr ⟨rfl,rfl⟩) (.inr rfl) (.inl Zo)).1
 split
 ·obtain⟨h1,h2⟩:=MInv.addr (M:=M.tick) E hp h d;have k:O (yJ E M.tick).2.cur:=by rw[(ue E M.tick).cur];exact d
  obtain⟨h3,l⟩:=h1.any E k;have g:=yU E (yJ E M.tick).2;have i:=aaE E (zJ E (yJ E M.tick).2).2 (n:=2) Zo;exact MInv.emitN (M:=(zJ E (yJ E M.tick).2).2.tick) h3 (c:=20+((tkV E (zJ E (yJ E M.tick).2).2 2:Nat):Int)) (by show O (zJ E (yJ E M.tick).2).2.cur;rw[g.cur];exact k) (F:=⟨true,false,true,true,false⟩) (shape_st Zo) ⟨rfl,rfl⟩ Zo Zo Zo (.inl ⟨rfl,g.pre.subset h2⟩) (.inl ⟨rfl,l⟩) (.inr rfl) (.inl Zo)
 split
 ·have i:=aaE E M.tick (n:=3) Zo;exact(MInv.emitR (M:=M.tick.tick) h (c:=24) d (F:=⟨true,true,false,false,true⟩) rfl ⟨rfl,rfl⟩ Zd Zd Zd (.inr ⟨rfl,rfl⟩) (.inr ⟨rfl,rfl⟩) (.inl rfl) (.inr ⟨by omega,by omega⟩)).1
 split
 ·obtain⟨h1,h2⟩:=MInv.any (M:=M.tick) E h d;have i:=aaE E (zJ E M.tick).2 (n:=3) Zo;exact MInv.emitN (M:=(zJ E M.tick).2.tick) h1 (c:=25) (by show O (zJ E M.tick).2.cur;rw[(yU E M.tick).cur];exact d) (F:=⟨true,false,true,false,true⟩) rfl ⟨rfl,rfl⟩ Zd Zd Zd (.inl ⟨rfl,h2⟩) (.inr ⟨rfl,rfl⟩) (.inl rfl) (.inr ⟨by omega,by omega⟩)
 split
 ·obtain⟨h1,h2⟩:=MInv.num (M:=M.tick.tick) h d (tkV E M.tick 4096);have i:=aaE E (M.tick.tick.num (tkV E M.tick 4096)) (n:=2) Zo;exact(MInv.emitR (M:=(M.tick.tick.num (tkV E M.tick 4096)).tick) h1 (c:=22+((tkV E (M.tick.tick.num (tkV E M.tick 4096)) 2:Nat):Int)) (by show O (M.tick.tick.num (tkV E M.tick 4096)).cur;rw[(wT M.tick.tick (tkV E M.tick 4096)).cur];exact d) (F:=⟨true,true,true,false,true⟩) (eK Zo) ⟨rfl,rfl⟩ Zo Zo Zo (.inl ⟨rfl,h2⟩) (.inr ⟨rfl,rfl⟩) (.inl rfl) (.inl Zo)).1
 split
 ·exact ht.call E hp j
 split
 ·split
  ·exact MInv.emitN (M:=M.tick.tick) h (c:=27) d (F:=⟨true,false,false,false,false⟩) rfl ⟨rfl,rfl⟩ Zd Zd Zd (.inr ⟨rfl,rfl⟩) (.inr ⟨rfl,rfl⟩) (.inr rfl) (.inl Zd)
  ·exact h
 ·exact ht.arith E j
theorem fC (E:ME)(hE:∀x∈E.args,0<=x/\x<4):∀(n:Nat) (M:MS),(qY E n M).cur=M.cur
 |0,M=>rfl
 |n+1,M=>(fC E hE n _).trans (pX E hE M).cur
theorem MInv.opsN (E:ME)(hp:EnvOk p E):∀(n:Nat) (M:MS),aaz p M O P pl->O M.cur->aaz p (qY E n M) O P pl
 |0,M,h,hO=>h
 |n+1,M,h,hO=>MInv.opsN E hp n (xK E M) (h.op E hp hO) (by rw[(pX E hp.alt M).cur];exact hO)
theorem MInv.run (E:ME)(hp:EnvOk p E)(h:aaz p M O P pl)(c:O M.cur):aaz p (tR E M) O P pl/\(tR E M).cur=M.cur:=
 ⟨MInv.opsN E hp _ M.tick h c,fC E hp.alt _ M.tick⟩
end
structure DOk (d:wO) (done:List Int) (Df:Int->Int->Int->Prop):Prop where
 dom:∀v,(d.1 v).isSome=true↔v∈done
 val:∀v i k,Df v i k->d.1 v=some i/\d.2 v=some k
theorem DOk.def{c:List Int}(h:DOk d c Df){v i k:Int}(l:v ∉ c)(hr:0<=v/\v<=65535):
 ∃d',rB d v i k=some d'/\DOk d' (c++ [v]) (fun v' i' k'=>Df v' i' k'∨(v'=v/\i'=i/\k'=k)):=by
 have m:¬((d.1 v).isSome=true∨v<0∨65535<v):=by
  rintro(e|e|e)
  ·exact l ((h.dom v).1 e)
  ·omega
  ·omega
 refine⟨(lS d.1 v i,lS d.2 v k),?_,fun w=>?_,fun w i' k' g=>?_⟩
 ·unfold rB;rw[if_neg m]
 ·unfold lS;simp only[Jl,Jo]
  by_cases e:w=v
  ·rw[if_pos e];simp[e]
  ·rw[if_neg e,h.dom w];simp[e]
 ·unfold lS;rcases g with g|⟨rfl,rfl,rfl⟩
  ·have h1:=h.val w i' k' g;have j:w≠v:=fun e=>l (by rw[<-e];exact(h.dom w).1 (by rw[h1.1];rfl))
   simp only[if_neg j];exact h1
  ·simp
theorem DOk.weak{c:List Int}{Dg:Int->Int->Int->Prop}(h:DOk d c Df)(hg:∀v i k,Dg v i k->Df v i k):DOk d c Dg:=⟨h.dom,fun v i k e=>h.val v i k (hg v i k e)⟩
theorem DOk.pars {i:Int}:∀(vs:List Int) (d:wO) (done:List Int) (Df:Int->Int->Int->Prop),DOk d done Df->(done++vs).Nodup->(∀v∈vs,0<=v/\v<=65535)->
 ∃d',vJ i vs d=some d'/\DOk d' (done++vs) (fun v' i' k'=>Df v' i' k'∨(v'∈vs/\i'=i/\k'=-1))
 | [],d,done,Df,h,_,_=>⟨d,rfl,by rw[Ua];exact h.weak (fun v i k e=>e.elim (fun e=>e) (fun e=>by cases e.1))⟩
 |v::vs,d,done,Df,h,hn,hr=>by
  have hv:v ∉ done:=fun e=>(Qq.1 hn).2.2 v e v (.head _) rfl
  obtain⟨d1,h1,h2⟩:=h.def (i:=i) (k:=-1) hv (hr v (.head _));have c:((done++ [v])++vs).Nodup:=by rw[Nv];exact hn
  obtain⟨d2,h3,g⟩:=DOk.pars vs d1 _ _ h2 c (fun w hw=>hr w (.tail _ hw));refine⟨d2,by unfold vJ;rw[h1];exact h3,?_⟩;rw[Nv] at g;refine g.weak (fun w i' k' e=>?_);rcases e with e|⟨e1,e2,e3⟩
  ·exact .inl (.inl e)
  ·rcases Jq.1 e1 with rfl|e1
   ·exact .inl (.inr ⟨rfl,e2,e3⟩)
   ·exact .inr ⟨e1,e2,e3⟩
theorem gY{os:List IOp}(h:0<=o.res):abo (o::os)=o.res::abo os:=by unfold abo;rw[List.filter_cons_of_pos (by simpa using h)];rfl
theorem abm{os:List IOp}(h:¬0<=o.res):abo (o::os)=abo os:=by unfold abo;rw[List.filter_cons_of_neg (by simpa using h)]
theorem DOk.ops {p:IProg}{i:Int}:∀(os:List IOp) (k:Int) (d:wO) (done:List Int) (Df:Int->Int->Int->Prop),DOk d done Df->(done++abo os).Nodup->(∀v∈abo os,0<=v/\v<=65535)->(∀o∈os,opF p o=true)->
 ∃d',sS p i os k d=some d'/\DOk d' (done++abo os) (fun v' i' k'=>Df v' i' k'∨(i'=i/\∃(j:Nat) (o:IOp),os[j]? =some o/\o.res=v'/\0<=v'/\k'=k+(j:Int)))
 | [],k,d,done,Df,h,_,_,_=>⟨d,rfl,by
  rw[show abo []=[] from rfl,Ua]
  exact h.weak (fun v i k e=>e.elim (fun e=>e) (fun e=>by obtain⟨_,j,o,h1,_⟩:=e;simp at h1))⟩
 |o::os,k,d,done,Df,h,hn,hr,ho=>by
  by_cases h0:0<=o.res
  ·rw[gY h0] at hn hr ⊢;have hv:o.res ∉ done:=fun e=>(Qq.1 hn).2.2 _ e _ (.head _) rfl
   obtain⟨d1,h1,h2⟩:=h.def (i:=i) (k:=k) hv (hr _ (.head _));have g:((done++ [o.res])++abo os).Nodup:=by rw[Nv];exact hn
   obtain⟨d2,h3,c⟩:=DOk.ops os (k+1) d1 _ _ h2 g (fun w hw=>hr w (.tail _ hw)) (fun x hx=>ho x (.tail _ hx));refine⟨d2,by unfold sS;rw[if_pos (ho o (.head _)),if_pos h0,h1];exact h3,?_⟩;rw[Nv] at c;refine c.weak (fun w i' k' e=>?_);rcases e with e|⟨e1,j,x,e2,e3,e4,e5⟩
   ·exact .inl (.inl e)
   ·cases j with
    |zero=>
     cases e2
     exact .inl (.inr ⟨e3.symm,e1,by omega⟩)
    |succ j=>exact .inr ⟨e1,j,x,e2,e3,e4,by omega⟩
  ·rw[abm h0] at hn hr ⊢;obtain⟨d2,h3,c⟩:=DOk.ops os (k+1) d done Df h hn hr (fun x hx=>ho x (.tail _ hx));refine⟨d2,by unfold sS;rw[if_pos (ho o (.head _)),if_neg h0];exact h3,c.weak (fun w i' k' e=>?_)⟩;rcases e with e|⟨e1,j,x,e2,e3,e4,e5⟩
   ·exact .inl e
   ·cases j with
    |zero=>cases e2;omega
    |succ j=>exact .inr ⟨e1,j,x,e2,e3,e4,by omega⟩
theorem DOk.blks {p:IProg}{blocks:List IBlk}:∀(bs:List IBlk) (i:Nat) (d:wO) (done:List Int) (Df:Int->Int->Int->Prop),DOk d done Df->(done++aaI bs).Nodup->(∀v∈aaI bs,0<=v/\v<=65535)->(∀b∈bs,(∀o∈b.ops,opF p o=true)/\mb blocks b.term=true)->
 ∃d',uH p blocks bs i d=some d'/\DOk d' (done++aaI bs) (fun v' i' k'=>Df v' i' k'∨∃q:Nat,i'=((i+q:Nat):Int)/\fB bs v' q k')
 | [],i,d,done,Df,h,_,_,_=>⟨d,rfl,by
  rw[show aaI []=[] from rfl,Ua]
  exact h.weak (fun v i k e=>e.elim (fun e=>e) (fun e=>by obtain⟨q,_,b,hb,_⟩:=e;simp at hb))⟩
 |b::bs,i,d,done,Df,h,hn,hr,ho=>by
  have hd:aaI (b::bs)=b.params++(abo b.ops++aaI bs):=by
   show abu b++aaI bs=_
   unfold abu;rw[Nv]
  rw[hd] at hn hr ⊢;have n1:(done++b.params).Nodup:=by rw[<-Nv] at hn;exact(Qq.1 hn).1
  obtain⟨d1,a1,a2⟩:=DOk.pars (i:=i) b.params d done Df h n1 (fun v hv=>hr v (Jz _ hv));have n2:((done++b.params)++abo b.ops).Nodup:=by rw[<-Nv,<-Nv] at hn;exact(Qq.1 hn).1
  obtain⟨d2,b1,b2⟩:=DOk.ops (p:=p) (i:=i) b.ops 0 d1 _ _ a2 n2 (fun v hv=>hr v (Qf _ (Jz _ hv))) (ho b (.head _)).1;have n3:(((done++b.params)++abo b.ops)++aaI bs).Nodup:=by rw[Nv,Nv];exact hn
  obtain⟨d3,c1,c2⟩:=DOk.blks bs (i+1) d2 _ _ b2 n3 (fun v hv=>hr v (Qf _ (Qf _ hv))) (fun x hx=>ho x (.tail _ hx));refine⟨d3,?_,?_⟩
  ·unfold uH pS;rw[a1,Nw,b1,Nw,if_pos (ho b (.head _)).2,Nw];exact c1
  ·rw[Nv,Nv] at c2;refine c2.weak (fun w i' k' e=>?_);rcases e with e|⟨q,e1,x,e2,e3⟩
   ·exact .inl (.inl (.inl e))
   ·cases q with
    |zero=>
     cases e2;rcases e3 with⟨e3,e4⟩|⟨j,o,e3,e4,e5,e6⟩
     ·exact .inl (.inl (.inr ⟨e4,by rw[e1];rfl,e3⟩))
     ·exact .inl (.inr ⟨by rw[e1];rfl,j,o,e4,e5,e6,by omega⟩)
    |succ q=>exact .inr ⟨q,by rw[e1];omega,x,e2,e3⟩
abbrev ack (p:IProg)(f:List IBlk)(next:Nat)(pl:List Nat):Prop:=∃cur vals,MInv p f cur next vals (fun _=>False) (fun _=>False) pl
section
variable {p:IProg} {f:List IBlk} {next:Nat} {pl:List Nat} (h:ack p f next pl)
include h
theorem ack.term:∀b∈f,mb f b.term=true:=by
 obtain⟨cur,vals,h⟩:=h;intro b hb;obtain⟨i,hi⟩:=Ny hb;obtain⟨h1,h2,_⟩:=h.term i b hi (fun e=>e);unfold mb;rw[Jm,Oe];refine⟨fun e he=>?_,h1⟩;obtain⟨s,u,bs,e1,e2,e3,e4,_⟩:=h2 e he;have hs:=(Jh.1 e3).1
 have hb:xz f e.block=bs:=by
  unfold xz;rw[e1,Ni,Jj,e3];rfl
 unfold uM;simp only[Jm,decide_eq_true_eq];exact⟨⟨by omega,by omega⟩,by rw[hb];exact e4⟩
theorem ack.ne:f≠ []:=by
 obtain⟨cur,vals,h⟩:=h;intro e;have:=h.curl;rw[e] at this;simp at this
theorem ack.valid:zw (zy f):=nO h.ne h.term
theorem ack.ops:∀b∈f,∀o∈b.ops,opF p o=true:=by
 obtain⟨cur,vals,h⟩:=h;intro b hb o ho;obtain⟨i,hi⟩:=Ny hb;obtain⟨j,c⟩:=Ny ho;exact(h.ops i b hi j o c).1
end
theorem gK {f:List IBlk}{u:Nat}{b:IBlk}(hb:f[u]? =some b):succ (zy f) u=b.term.to.map fun e=>e.block.toNat:=by
 unfold succ zy;rw[Jj,Jr,hb];rfl
section
variable {p:IProg} {f:List IBlk} {next:Nat} {pl:List Nat} (h:ack p f next pl)
include h
theorem ack.reach(hi:i<f.length):Reach (GE (zy f)) i:=by
 obtain⟨cur,vals,h⟩:=h;have hr:=h.rch i hi (fun e=>e);clear hi
 induction hr with
 |zero=>exact .refl trivial
 |step _ h2 h3 h4 ih=>
  refine .snoc ih ?_ trivial
  show _∈succ _ _
  rw[gK h2];exact Nu.2 ⟨_,h3,by rw[h4];rfl⟩
theorem ack.dom{b:Nat}(o:Abv pl b i):Dom (GE (zy f)) b i:=by
 obtain⟨cur,vals,h⟩:=h;intro t
 induction t with
 |refl hne=>
  cases o with
  |refl=>exact hne rfl
  |up _ h0 _=>omega
 |@snoc u s _ he hne ih=>
  cases o with
  |refl=>exact hne rfl
  |up h0 h1 h2=>
   have c:s∈succ (zy f) u:=he
   have j:u<f.length:=by
    rcases Nat.lt_or_ge u f.length with k|l
    ·exact k
    ·unfold succ at c;rw[Jj,Of (by rw[xu];exact l)] at c;cases c
   obtain⟨x,g⟩:∃x,f[u]? =some x:=⟨_,Jd j⟩
   rw[gK g] at c;obtain⟨e,m,d⟩:=Nu.1 c;obtain⟨_,t2,_⟩:=h.term u x g (fun e=>e);obtain⟨s',u',bs,e1,_,_,_,e5,e6⟩:=t2 e m;rw[e1,Ni] at d;subst d;rw[h0] at e5;cases e5;exact ih (h2.trans e6)
theorem ack.doms{b:Nat}(c:Abv pl b i)(hi:i<f.length):wE (zy f) b i=true:=by
 have hp:∀i u,pl[i]? =some u->0<i->u<i:=by obtain⟨cur,vals,h⟩:=h;exact h.par
 have hb:b<f.length:=by have:=c.le hp;omega
 exact(yO h.valid b i).2 ⟨h.reach hb,h.reach hi,h.dom c⟩
theorem ack.shapes (g:next<=65536):∃d,wg p f=some d/\∀v i k,fB f v i k->d.1 v=some (i:Int)/\d.2 v=some k:=by
 have ht:=h.term;have ho:=h.ops;obtain⟨cur,vals,h⟩:=h;have c:DOk ((fun _=>none,fun _=>none):wO) [] (fun _ _ _=>False):=⟨fun v=>by simp,fun v i k e=>e.elim⟩
 obtain⟨d,h1,h2⟩:=DOk.blks (p:=p) (blocks:=f) f 0 _ _ _ c (by rw[Op];exact h.nd) (fun v hv=>by have:=h.rng v hv;omega) (fun b hb=>⟨ho b hb,ht b hb⟩);refine⟨d,h1,fun v i k hd=>h2.val v i k (.inr ⟨i,by rw[Ng],hd⟩)⟩
theorem ack.known(c:∀v i k,fB f v i k->d.1 v=some (i:Int)/\d.2 v=some k){v:Int}{k:Int}(hi:i<f.length)(hk:Kn f pl v i k):yy d (zy f) i k v=true:=by
 obtain⟨b,a,h1,h2,h3⟩:=hk;obtain⟨e1,e2⟩:=c v b a h1;unfold yy;rw[e1,e2];simp only[Jm,Bool.not_eq_true',Ni];refine⟨?_,h.doms h2 hi⟩;rw[Bool.and_eq_false_iff]
 by_cases e:b=i
 ·right;have:=h3 e;simp;omega
 ·left;simp;omega
end
theorem gM{i:Int}:∀(os:List IOp) (k:Nat),(∀(j:Nat) (o:IOp),os[j]? =some o->(rR o).all (yy d g i ((k+j:Nat):Int))=true)->xF d g i os k=true
 | [],k,h=>rfl
 |o::os,k,h=>by
  unfold xF;rw[Jm];refine⟨h 0 o rfl,?_⟩
  have:=gM os (k+1) (fun j x hx=>by
   have:=h (j+1) x hx;rw[show k+1+j=k+(j+1) by omega]
   exact this)
  rw[show((k+1:Nat):Int)=(k:Int)+1 by omega] at this;exact this
theorem fR:∀(bs:List IBlk) (i:Nat),(∀(q:Nat) (b:IBlk),bs[q]? =some b->aaC d g b ((i+q:Nat):Int)=true)->tO d g bs i=true
 | [],i,h=>rfl
 |b::bs,i,h=>by
  unfold tO;rw[Jm];refine⟨h 0 b rfl,?_⟩
  have:=fR bs (i+1) (fun q x hx=>by
   have:=h (q+1) x hx;rw[show i+1+q=i+(q+1) by omega]
   exact this)
  rw[show((i+1:Nat):Int)=(i:Int)+1 by omega] at this;exact this
theorem acd(hv:zw g)(hr:∀i,i<g.length->Reach (GE g) i):(vD g).length=g.length:=by
 obtain⟨ns,c⟩:=adR hv;rw[c.eq]
 have:=aif c.nodup (List.nodup_range (n:=g.length)) (fun x=>by
  rw[Ol]
  exact⟨fun hx=>c.lt x hx,fun hx=>(c.mem x).2 (hr x hx)⟩)
 rw[this,Un]
theorem ack.rest{p:IProg}{f:List IBlk}{next:Nat}{pl:List Nat}(h:ack p f next pl)(g:∀v i k,fB f v i k->d.1 v=some (i:Int)/\d.2 v=some k):iM f d=true:=by
 unfold iM;rw[Jm,decide_eq_true_eq];refine⟨?_,?_⟩
 ·rw[acd h.valid (fun i hi=>h.reach (by rw[xu] at hi;exact hi)),xu]
 ·refine fR f 0 (fun q b hb=>?_);rw[Ng];have c:=(Jh.1 hb).1;unfold aaC;rw[Jm];have m:=h;obtain⟨cur,vals,l⟩:=m;refine⟨gM b.ops 0 (fun j o ho=>?_),?_⟩
  ·rw[Oe];intro v hv;rw[Ng];exact h.known g c ((l.ops q b hb j o ho).2 v hv)
  ·rw[Oe];intro v hv;exact h.known g c ((l.term q b hb (fun e=>e)).2.2 v hv)
theorem ack.function {p:IProg}{f:List IBlk}{next:Nat}{pl:List Nat}(h:ack p f next pl)(i:next<=65536){n:Nat}(hf:p.funcs[n]? =some f){b0:IBlk}(c:f[0]? =some b0)(g:(b0.params.length:Int)=p.args.getD n 0):yi p n=true:=by
 obtain⟨d,h1,h2⟩:=h.shapes i;have h3:=h.rest h2;unfold yi;rw[Jj,hf,Ot]
 match f,h1,h3,c with
 | [],_,_,c=>simp at c
 |b::bs,h1,h3,c=>
  cases c;simp only[Jm,decide_eq_true_eq];refine⟨g,?_⟩;rw[h1];exact h3
def yk (K:MKC)(X:Nat->Prop)(w:World)(M':MS)(r:Value)(e:Ending)(w':World):Prop:=e=.returned r/\∃X',wW w' K X' M'/\Stp X w X' w'
theorem MkIn.at{fv:Value}(h:MkIn w K X M fv vv l):wW w K X M:=⟨fv,vv,l,h⟩
theorem MkIn.ticked{fv:Value}(h:MkIn w K X M fv vv l)(c:M.sz+1<=1000000):MkIn (w.setCell ⟨K.pm,1,none⟩ (U ((M.pos:Int)+1))) K X M.tick fv vv l/\Stp X w X (w.setCell ⟨K.pm,1,none⟩ (U ((M.pos:Int)+1))):=
 h.setC 1 _ M.tick vv rfl rfl h.vown h.v64 h.xv (by have:=(zT M).sz;omega) (by have:=h.lft;show 6<=M.left+((M.pos+1:Nat):Int)/\M.left<=6;omega)
theorem rK (x:Int)(n:Nat)(d:0<n)(c:n<=1000000):Int.tmod (wrap64 (Int.tmod x n+n)) n=((x%(n:Int)).toNat:Int):=by
 have h1:=Qv x (show(0:Int)<n by omega)
 have h2:-(n:Int)<Int.tmod x n:=by
  have:=Qu x (show(0:Int)<n by omega);omega
 have e:wrap64 (Int.tmod x n+n)=Int.tmod x n+n:=IntWalk.wrap64_in _ Zo;rw[e];have h3:=Ob x (show(n:Int)≠0 by omega);have g:=Int.emod_lt_of_pos x (show(0:Int)<n by omega)
 have e2:Int.tmod (Int.tmod x n+n) n=x%(n:Int):=by
  rw[Qc Zo,Int.add_emod_right]
  conv=>rhs;rw[<-Int.tmod_add_mul_tdiv x n]
  rw[Int.add_mul_emod_self_left]
 rw[e2];omega
theorem uD{fv:Value}(h:MkIn w K X M fv vv l){n:Nat}(k:0<n)(d:n<=1000000)(i:M.sz+1<=1000000):
 G 55 #[Q K.pm,U n] w fun e w'=>e=.returned (U (tkV K.E M n:Nat))/\MkIn w' K X M.tick fv vv l/\Stp X w X w':=by
 have hs:=h.env.s;have c0:=h.c0;have c1:=h.c1;obtain⟨sa,sc,j,a1,a0⟩:=hs.form;rw[j] at c0 hs;have f1:=h.free 1;have c:=Ja (show ∀n,MkIn ((w.drewN n).setCell ⟨K.pm,1,none⟩ (U ((M.pos:Int)+1))) K X M.tick fv vv l/\Stp X w X ((w.drewN n).setCell ⟨K.pm,1,none⟩ (U ((M.pos:Int)+1))) from fun n=>⟨((h.keep (yL _ w n)).ticked i).1,(Stp.of_below (yL _ w n)).trans ((h.keep (yL _ w n)).ticked i).2⟩)
 have u:(M.pos:Int)+1<=1000000:=by
  have:M.pos<=M.sz:=by unfold MS.sz;omega
  omega
 clear h
 by_cases m:M.pos<K.E.s.length
 ·obtain⟨x,g⟩:∃x,K.E.s[M.pos]? =some x:=⟨_,Jd m⟩
  obtain⟨b,o,rfl,hb,y,h64⟩:=hs.get g;rw[Nk] at y;have hI:(M.pos:Int)<(K.E.s.length:Int):=Zo;have hv:tkV K.E M n=(x%(n:Int)).toNat:=by unfold tkV;rw[Jj,g];rfl
  have e1:=rK x n k d;rw[hv];have t:=Ja e1;clear hs g hb e1 hv;go_enter Tryz.func55,Tryz.ntmps55;go_wp2;go_quiet (fail);go_wp2;go_quiet (fail);go_wp2;go_ret;exact⟨zh t.out,(c.out _).1,(c.out _).2⟩
 ·have hI:¬(M.pos:Int)<(K.E.s.length:Int):=Zo;have hv:tkV K.E M n=((0:Int)%(n:Int)).toNat:=by unfold tkV;rw[Jj,Of Zo];rfl
  have e1:=rK 0 n k d;rw[hv];have t:=Ja e1;clear hs hv e1;go_enter Tryz.func55,Tryz.ntmps55;go_wp2;go_quiet (fail);go_wp2;go_ret;exact⟨zh Zs,(c.out _).1,(c.out _).2⟩
theorem m8(h:wW w K X M){n:Nat}(g:0<n)(c:n<=1000000)(d:M.sz+1<=1000000):
 G 55 #[Q K.pm,U n] w (yk K X w M.tick (U (tkV K.E M n:Nat))):=by
 obtain⟨fv,vv,l,h⟩:=h;refine(uD h g c d).mono ?_;rintro e w' ⟨rfl,h1,h2⟩;exact⟨rfl,X,h1.at,h2⟩
theorem ot{fv:Value}(h:MkIn w K X M fv vv l)(d:M.sz+1<=1000000):
 G 110 #[Q K.pm] w fun e w'=>e=.returned (U (M.next:Int))/\w'=w.setCell ⟨K.pm,6,none⟩ (U ((M.next+1:Nat):Int)):=by
 have c6:=h.c6;have f6:=h.free 6
 have g:(M.next:Int)+1<=1000000:=by
  have:M.next<=M.sz:=by unfold MS.sz;omega
  omega
 have hb:=h.blk;have c:A (w.setCell ⟨K.pm,6,none⟩ (U ((M.next:Int)+1))) K.pm 6 (U ((M.next:Int)+1)):=World.cell?_setCell_same _ _ _ c6;clear h hb;go_enter Tryz.func110,Tryz.ntmps110;go_wp2;go_ret;refine⟨zh Zo,?_⟩;rfl
theorem yr (q:BM):(xG q).length=5:=rfl
section
variable {w:World} {K:MKC} {X:Nat->Prop} {M:MS} {fv vv:Value} {l:List BM} (h:MkIn w K X M fv vv l)
include h
theorem MkIn.getB{b:IBlk}(hb:M.f[i]? =some b):∃q,l[i]? =some q/\q.b=b/\BMOk w K X q:=by
 rw[h.fl,Jr,Oz] at hb;obtain⟨q,c,rfl⟩:=hb;exact⟨q,c,rfl,h.bok q (Ji c)⟩
theorem MkIn.len:l.length=M.f.length:=by rw[h.fl,Nr]
theorem MkIn.flen:M.f.length<=1000000:=by have:=h.bnd;unfold MS.sz at this;omega
theorem MkIn.fblk{q:BM}(j:l[i]? =some q):∃g c,fv=F g l.length c/\X g/\g<w.heap.size/\g≠K.pm:=by
 have k:=(Jh.1 j).1;obtain⟨a,c,e⟩:=zG h.own;rw[e];have ho:=h.own;rw[e] at ho;obtain⟨g,m,e2,hg,d⟩:=ho.form Zo;cases e2;exact⟨g,_,rfl,h.xf g (by rw[e];rfl),d,fun e3=>zC ho h.blk (.inr Zd) (by rw[<-e3];rfl)⟩
end
theorem MkIn.only{fv:Value}(h:MkIn w K X M fv vv l)(d:w.heap.size<=W.heap.size)(ho:W.os=w.os/\W.tape=w.tape/\W.output=w.output)
 (hk:∀k,k<w.heap.size->k≠K.pm->W.heap[k]? =w.heap[k]?) (i:O W K.pm (uC K M' fv vv) 128) (hf:M'.f=M.f) (hv:M'.vals=M.vals) (g:M'.sz<=1000000) (hl:6<=M'.left+M'.pos/\M'.left<=6):
 MkIn W K X M' fv vv l/\Stp X w X W:=by
 have hs:Stp X w X W:=⟨ho.1,ho.2.1,ho.2.2,d,fun _ h=> .inl h,fun k hk' hx=>hk k hk' (fun e=>hx (by rw[e];exact h.xm))⟩
 have c:∀ {v:Value} {e:TypeId} {sz n:Nat} {xs:List Value},w.ownsRow K.B e sz v n xs->e≠128->∀k,v.ownBlock=some k->W.heap[k]? =w.heap[k]?:=fun ho he k hk'=>
  hk k (ho.lt k hk').2 (fun e=>zC ho h.blk (.inr he) (by rw[hk',e]))
 exact⟨⟨i,yD h.own (c h.own Zd),hf.trans h.fl,fun q hq=>(h.bok q hq).step hs (c (h.bok q hq).own Zd) (fun _ e=>e),h.apart,by rw[hv];exact yD h.vown (c h.vown Zd),by rw[hv];exact h.v64,h.xm,h.xf,h.xv,h.xB,fun k e=>Jy (h.xl k e) d,
  h.env.step hs (hs.below h.xB h.size),g,hl⟩,hs⟩
theorem MkIn.turn{fv:Value}(h:MkIn w K X M fv vv l){q q':BM}{c g:Nat}(u:l[c]? =some q)(hg:fv.ownBlock=some g)
 (hs:Stp X w X' W) (m:∀k,X k->X' k) (a5:∀k,X' k->k<W.heap.size) (a6:∀k,X' k->K.B<=k)
 (hk:∀k,k<w.heap.size->X k->k≠g->q.ov.ownBlock≠some k->W.heap[k]? =w.heap[k]?)
 (a1:q.ov.ownBlock≠some K.pm) (x:W.ownsRow K.B 84 5 fv l.length ((l.set c q').flatMap xG)) (a0:BMOk W K X' q')
 (t:∀(j:Nat) (qj:BM) (k:Nat),l[j]? =some qj->q'.ov.ownBlock=some k->qj.ov.ownBlock=some k->j=c) (hf:M'.f=M.f.set c q'.b) (hM:M'.pos=M.pos/\M'.cur=M.cur/\M'.next=M.next/\M'.vals=M.vals/\M'.left=M.left) (hz:M'.sz<=1000000):
 MkIn W K X' M' fv vv (l.set c q'):=by
 have y:=(Jh.1 u).1;have a2:K.pm≠g:=fun e=>zC h.own h.blk (.inr Zd) (by rw[hg,e])
 obtain⟨m1,m2,m3,m4,m5⟩:=hM;have o:uC K M' fv vv=uC K M fv vv:=by unfold uC;rw[m1,m2,m3,m5]
 have a3:∀k,vv.ownBlock=some k->k≠g/\q.ov.ownBlock≠some k:=fun k hk=>by
  obtain⟨_,_,hx⟩:=zG h.vown;refine⟨fun e=>?_,fun e=>?_⟩
  ·rcases zo h.vown h.own Zd with h1|h1
   ·rw[h1] at hk;cases hk
   ·exact h1 (by rw[hk,hg,e])
  ·rcases zo h.vown (h.bok q (Ji u)).own Zd with h1|h1
   ·rw[h1] at hk;cases hk
   ·exact h1 (by rw[hk,e])
 have a4:∀j qj,l[j]? =some qj->j≠c->∀k,qj.ov.ownBlock=some k->k≠g/\q.ov.ownBlock≠some k:=fun j qj d hne k hk=>by
  refine⟨fun e=>?_,fun e=>hne (h.apart j c qj q k d u hk e)⟩;rcases zo (h.bok qj (Ji d)).own h.own Zd with h1|h1
  ·rw[h1] at hk;cases hk
  ·exact h1 (by rw[hk,hg,e])
 refine⟨?_,by rw[Nd];exact x,by rw[hf,h.fl,Ox],fun p hp=>?_,fun i j qi qj k hi d hqi hqj=>?_,?_,by rw[m4];exact h.v64,m _ h.xm,fun k hk=>m _ (h.xf k hk),fun k hk=>m _ (h.xv k hk),a6,a5,h.env.step hs (hs.below h.xB h.size),hz,by rw[m5,m1];exact h.lft⟩
 ·rw[o,hk K.pm (lt_of_block h.blk) h.xm a2 a1];exact h.blk
 ·obtain⟨j,d⟩:=Ny hp;rw[Ov] at d
  by_cases e:c=j
  ·subst e;rw[if_pos rfl,if_pos y] at d;cases d;exact a0
  ·rw[if_neg e] at d;refine(h.bok p (Ji d)).step hs (fun k hk'=>?_) m;obtain⟨h1,h2⟩:=a4 j p d (Ne.symm e) k hk';exact hk k (((h.bok p (Ji d)).own.lt k hk').2) ((h.bok p (Ji d)).inX k hk') h1 h2
 ·rw[Ov] at hi d
  by_cases ei:c=i
  ·rw[if_pos ei,if_pos y] at hi;cases hi
   by_cases ej:c=j
   ·omega
   ·rw[if_neg ej] at d;have:=t j qj k d hqi hqj;omega
  ·rw[if_neg ei] at hi
   by_cases ej:c=j
   ·rw[if_pos ej,if_pos y] at d;cases d;have:=t i qi k hi hqj hqi;omega
   ·rw[if_neg ej] at d;exact h.apart i j qi qj k hi d hqi hqj
 ·rw[m4];refine yD h.vown (fun k hk'=>?_);obtain⟨h1,h2⟩:=a3 k hk';exact hk k ((h.vown.lt k hk').2) (h.xv k hk') h1 h2
theorem MkIn.putV{fv vv':Value}(h:MkIn w K X M fv vv l){o:Obj}(hg:(w.alloc o).grownBy w3 vv.ownBlock){x:Int}
 (c:w3.ownsRow K.B 3 1 vv' (M.vals.length+1) (M.vals.map zN++ [zN x])) (t:∀k,vv'.ownBlock=some k->vv.ownBlock=some k∨w.heap.size<=k) (u:I64 x) (hz:M.sz+1<=1000000):
 MkIn (w3.setCell ⟨K.pm,7,none⟩ vv') K (fun k=>X k∨vv'.ownBlock=some k) {M with vals:=M.vals++ [x]} fv vv' l/\Stp X w (fun k=>X k∨vv'.ownBlock=some k) (w3.setCell ⟨K.pm,7,none⟩ vv'):=by
 have n1:=zC h.vown h.blk (.inr Zd);have i:=zL hg (zB h.blk) n1;have m:w.heap.size<=w3.heap.size:=by have:=hg.size;simp at this;omega
 have hk:∀k,k<w.heap.size->k≠K.pm->vv.ownBlock≠some k->(w3.setCell ⟨K.pm,7,none⟩ vv').heap[k]? =w.heap[k]?:=fun k hk hne hv=>
  (Below.heap_setCell w3 ⟨K.pm,7,none⟩ vv' k hne).trans ((hg.block k Zt (fun e=>hv e.symm)).trans (Below.heap_alloc w o k hk))
 have hs:Stp X w (fun k=>X k∨vv'.ownBlock=some k) (w3.setCell ⟨K.pm,7,none⟩ vv'):=
  ⟨hg.os,hg.tape,hg.output,by simpa using m,fun k hx'=>hx'.elim .inl (fun e=>(t k e).elim (fun e2=> .inl (h.xv k e2)) .inr),fun k hk' hxk=>hk k hk' (fun e=>hxk (by rw[e];exact h.xm)) (fun e=>hxk (h.xv k e))⟩
 have g:∀ {v:Value} {e:TypeId} {sz n:Nat} {xs:List Value},w.ownsRow K.B e sz v n xs->e≠3->e≠128->∀k,v.ownBlock=some k->(w3.setCell ⟨K.pm,7,none⟩ vv').heap[k]? =w.heap[k]?:=fun {v e sz n xs} ho h1 h2 k hk'=>by
  refine hk k (ho.lt k hk').2 (fun e3=>zC ho h.blk (.inr h2) (by rw[hk',e3])) (fun e3=>?_);rcases zo ho h.vown h1 with j|j
  ·rw[j] at hk';cases hk'
  ·exact j (by rw[hk',e3])
 refine⟨⟨?_,yD h.own (g h.own Zd Zd),h.fl,fun q hq=>(h.bok q hq).step hs (g (h.bok q hq).own Zd Zd) (fun _ e=> .inl e),h.apart,?_,?_,.inl h.xm,fun k e=> .inl (h.xf k e),fun k e=> .inr e,fun k e=>e.elim (h.xB k) (fun e2=>(c.lt k e2).1),fun k e=>?_,h.env.step hs (hs.below h.xB h.size),?_,h.lft⟩,hs⟩
 ·rw[zD i];rfl
 ·show(w3.setCell ⟨K.pm,7,none⟩ vv').ownsRow K.B 3 1 vv' (M.vals++ [x]).length ((M.vals++ [x]).map zN)
  rw[Jk,Ju,Js];exact ownsRow_setCell_other c (fun e=>zC c i (.inr Zd) (by simpa using e)) _
 ·intro y d;rcases Jl.1 d with d|d
  ·exact h.v64 y d
  ·rw[Jo] at d;subst d;exact u
 ·rcases e with e|e
  ·have:=h.xl k e;simp;omega
  ·have:=(c.lt k e).2;simpa using this
 ·unfold MS.sz at *;simp only[Jk,Ju];omega
theorem MkIn.putO{w6:World}{fv i:Value}(h:MkIn w K X M fv vv l){q:BM}{c g lb:Nat}(hq:l[c]? =some q)(hg:fv.ownBlock=some g)
 {W3:World} (m:N w W3) (t:W3.grownBy w6 q.ov.ownBlock)  {av:Value} (x:w6.ownsRow K.B 76 6 i (q.ol.length+1) (q.ol.flatMap zU++zU (o,av)))
 (y:∀k,i.ownBlock=some k->q.ov.ownBlock=some k∨w.heap.size<=k) (a6:w.heap.size<=lb) {cs:Array Value} (a2:O w6 lb cs 84)
 (hW:∃u,W=((w6.setCell ⟨lb,1,none⟩ u).drew.setCells g (c*5) (xG ⟨{q.b with ops:=q.b.ops++ [o]},q.pv,i,q.tv,q.ol++ [(o,av)]⟩)))
 (ho:qN o/\wm w (K.av X) av o.args) (hf:M'.f=M.f.set c {q.b with ops:=q.b.ops++ [o]}) (hM:M'.pos=M.pos/\M'.cur=M.cur/\M'.next=M.next/\M'.vals=M.vals/\M'.left=M.left) (hz:M'.sz<=1000000):
 ∃X',MkIn W K X' M' fv vv (l.set c ⟨{q.b with ops:=q.b.ops++ [o]},q.pv,i,q.tv,q.ol++ [(o,av)]⟩)/\Stp X w X' W:=by
 obtain⟨u,rfl⟩:=hW;have d:=h.bok q (Ji hq);have a0:=h.xf g hg;have a4:=h.xl g a0
 have hk:∀k,k<w.heap.size->k≠g->q.ov.ownBlock≠some k->((w6.setCell ⟨lb,1,none⟩ u).drew.setCells g (c*5) (xG ⟨{q.b with ops:=q.b.ops++ [o]},q.pv,i,q.tv,q.ol++ [(o,av)]⟩)).heap[k]? =w.heap[k]?:=fun k hk hne hv=>
  (ye g k hne _ _ _).trans ((Below.heap_setCell w6 ⟨lb,1,none⟩ u k (by show k≠lb;omega)).trans ((t.block k (by have:=m.size;omega) (fun e=>hv e.symm)).trans (m.block k hk)))
 have hs:Stp X w (fun k=>X k∨i.ownBlock=some k) ((w6.setCell ⟨lb,1,none⟩ u).drew.setCells g (c*5) (xG ⟨{q.b with ops:=q.b.ops++ [o]},q.pv,i,q.tv,q.ol++ [(o,av)]⟩)):=
  ⟨(ze g _ _ _).1.trans (t.os.trans m.os),(ze g _ _ _).2.1.trans (t.tape.trans m.tape),(ze g _ _ _).2.2.trans (t.output.trans m.output),by rw[y8];have:=m.size;have:=t.size;simp;omega,
   fun k hx'=>hx'.elim .inl (fun e=>(y k e).elim (fun e2=> .inl (d.inX k e2)) .inr),fun k hk' hxk=>hk k hk' (fun e=>hxk (by rw[e];exact a0)) (fun e=>hxk (d.inX k e))⟩
 have a1:∀k,i.ownBlock=some k->k≠lb/\k≠g:=fun k e=>⟨fun e2=>zC x a2 (.inr Zd) (by rw[e,e2]),fun e2=>by
  rcases y k e with e3|e3
  ·rcases zo d.own h.own Zd with h1|h1
   ·rw[h1] at e3;cases e3
   ·exact h1 (by rw[e3,hg,e2])
  ·omega⟩
 have a3:q.ov.ownBlock≠some g:=fun e=>by
  rcases zo d.own h.own Zd with h1|h1
  ·rw[h1] at e;cases e
  ·exact h1 (by rw[e,hg])
 have a5:(w6.setCell ⟨lb,1,none⟩ u).drew.ownsRow K.B 84 5 fv l.length (l.flatMap xG):=yD h.own (fun k e=>by
  have e2:k=g:=by rw[hg] at e;cases e;rfl
  subst e2
  exact(Below.heap_setCell w6 ⟨lb,1,none⟩ u k (by show k≠lb;omega)).trans ((t.block k (by have:=m.size;omega) (fun e3=>a3 e3.symm)).trans (m.block k a4)))
 refine⟨_,h.turn (M':=M') hq hg hs (fun k e=> .inl e) (fun k e=>?_) (fun k e=>e.elim (h.xB k) (fun e2=>(x.lt k e2).1)) (fun k hk' _ hne hv=>hk k hk' hne hv) (fun e=>zC d.own h.blk (.inr Zd) e) (uZ yr a5 hg hq _) ?_ (fun j qj k hj h1 h2=>?_) hf hM hz,hs⟩
 ·rcases e with e|e
  ·exact Jy (h.xl k e) hs.size
  ·rw[y8];have:=(x.lt k e).2;simpa using this
 ·refine⟨d.k64,d.par.step wb (hs.av K),by rw[Js,<-d.ops];rfl,?_,fun p hp=>?_,d.tos.step yq (hs.av K),fun k e=> .inr e⟩
  ·rw[Jk,Ju,Nx];refine yD (show w6.ownsRow K.B 76 6 i (q.ol.length+1) (q.ol.flatMap zU++ [(o,av)].flatMap zU) from x) (fun k e=>?_);obtain⟨e1,e2⟩:=a1 k e;exact(ye g k e2 _ _ _).trans (Below.heap_setCell w6 ⟨lb,1,none⟩ u k e1)
  ·rcases Jl.1 hp with hp|hp
   ·exact⟨(d.arg p hp).1,(d.arg p hp).2.step wb (hs.av K)⟩
   ·rw[Jo] at hp;subst hp;exact⟨ho.1,ho.2.step wb (hs.av K)⟩
 ·rcases y k h1 with e|e
  ·exact h.apart j c qj q k hj hq h2 e
  ·have:=((h.bok qj (Ji hj)).own.lt k h2).2;omega
theorem MkIn.putB{fv fv':Value}(h:MkIn w K X M fv vv l){o:Obj}(hg:(w.alloc o).grownBy w3 fv.ownBlock){b:IBlk}{pv:Value}(hb:b.ops=[]/\b.term=⟨0,0,[]⟩)
 (c:w3.ownsRow K.B 84 5 fv' (l.length+1) (l.flatMap xG++xG ⟨b,pv,L,L,[]⟩)) (a1:∀k,fv'.ownBlock=some k->fv.ownBlock=some k∨w.heap.size<=k) (x:wm w (K.av X) pv b.params) (hz:M.sz+1<=1000000):
 MkIn (w3.setCell ⟨K.pm,4,none⟩ fv') K (fun k=>X k∨fv'.ownBlock=some k) {M with f:=M.f++ [b]} fv' vv (l++ [⟨b,pv,.slice none 0 0,.slice none 0 0,[]⟩])/\Stp X w (fun k=>X k∨fv'.ownBlock=some k) (w3.setCell ⟨K.pm,4,none⟩ fv'):=by
 have n1:=zC h.own h.blk (.inr Zd);have u:=zL hg (zB h.blk) n1;have a0:w.heap.size<=w3.heap.size:=by have:=hg.size;simp at this;omega
 have hk:∀k,k<w.heap.size->k≠K.pm->fv.ownBlock≠some k->(w3.setCell ⟨K.pm,4,none⟩ fv').heap[k]? =w.heap[k]?:=fun k hk hne hv=>
  (Below.heap_setCell w3 ⟨K.pm,4,none⟩ fv' k hne).trans ((hg.block k Zt (fun e=>hv e.symm)).trans (Below.heap_alloc w o k hk))
 have hs:Stp X w (fun k=>X k∨fv'.ownBlock=some k) (w3.setCell ⟨K.pm,4,none⟩ fv'):=
  ⟨hg.os,hg.tape,hg.output,by simpa using a0,fun k hx'=>hx'.elim .inl (fun e=>(a1 k e).elim (fun e2=> .inl (h.xf k e2)) .inr),fun k hk' hxk=>hk k hk' (fun e=>hxk (by rw[e];exact h.xm)) (fun e=>hxk (h.xf k e))⟩
 have g:∀ {v:Value} {e:TypeId} {sz n:Nat} {xs:List Value},w.ownsRow K.B e sz v n xs->e≠84->e≠128->∀k,v.ownBlock=some k->(w3.setCell ⟨K.pm,4,none⟩ fv').heap[k]? =w.heap[k]?:=fun {v e sz n xs} ho h1 h2 k hk'=>by
  refine hk k (ho.lt k hk').2 (fun e3=>zC ho h.blk (.inr h2) (by rw[hk',e3])) (fun e3=>?_);rcases zo ho h.own h1 with y|y
  ·rw[y] at hk';cases hk'
  ·exact y (by rw[hk',e3])
 refine⟨⟨?_,?_,?_,fun q d=>?_,fun i j qi qj k hi hj hqi hqj=>?_,yD h.vown (g h.vown Zd Zd),h.v64,.inl h.xm,fun k e=> .inr e,fun k e=> .inl (h.xv k e),fun k e=>e.elim (h.xB k) (fun e2=>(c.lt k e2).1),fun k e=>?_,h.env.step hs (hs.below h.xB h.size),?_,h.lft⟩,hs⟩
 ·rw[zD u];rfl
 ·rw[Jk,Ju,Nx];exact ownsRow_setCell_other (show w3.ownsRow K.B 84 5 fv' (l.length+1) (l.flatMap xG++ [(⟨b,pv,.slice none 0 0,.slice none 0 0,[]⟩:BM)].flatMap xG) from c) (fun e=>zC c u (.inr Zd) (by simpa using e)) _
 ·rw[Js,<-h.fl];rfl
 ·rcases Jl.1 d with d|d
  ·exact(h.bok q d).step hs (g (h.bok q d).own Zd Zd) (fun _ e=> .inl e)
  ·rw[Jo] at d;subst d;refine⟨?_,x.step wb (hs.av K),hb.1,Jv _ _ _ _,(fun o ho=>by cases ho),?_,(fun k e=>by simp[Value.ownBlock] at e)⟩
   ·rw[hb.2];exact⟨⟨by decide,by decide⟩,⟨by decide,by decide⟩⟩
   ·rw[hb.2];exact yE.nil
 ·have t:∀(m:Nat) (qm:BM),(l++ [(⟨b,pv,.slice none 0 0,.slice none 0 0,[]⟩:BM)])[m]? =some qm->qm.ov.ownBlock=some k->l[m]? =some qm:=fun m qm hm hqm=>by
   by_cases e:m<l.length
   ·rwa [Np e] at hm
   ·rw[Nc Zo] at hm;have:m-l.length=0:=by have:=(Jh.1 hm).1;simp at this;omega
    rw[this] at hm;cases hm;simp[Value.ownBlock] at hqm
  exact h.apart i j qi qj k (t i qi hi hqi) (t j qj hj hqj) hqi hqj
 ·rcases e with e|e
  ·have:=h.xl k e;simp;omega
  ·have:=(c.lt k e).2;simpa using this
 ·have e:opsN [b]=0:=by unfold opsN;simp[hb.1]
  unfold MS.sz at *;simp only[Jk,Ju,ry,e];omega
theorem nW (c:Int):((zi c).res=true/\uc c=true)∨((zi c).res=false/\c=26/\uc c=true)∨((zi c).res=false/\c≠26/\uc c=false):=by
 unfold uc
 by_cases h:(zi c).res=true
 ·exact .inl ⟨h,by rw[h];rfl⟩
 ·have d:(zi c).res=false:=by simpa using h
  by_cases e:c=26
  ·exact .inr (.inl ⟨d,e,by rw[decide_eq_true e,Bool.or_true]⟩)
  ·exact .inr (.inr ⟨d,e,by rw[d,decide_eq_false e];rfl⟩)
def uN (M:MS)(c:Int):Nat:=if uc c then M.next+1 else M.next
def sB (M:MS)(c:Int):Int:=if uc c then(M.next:Int) else -1
def EmMid (w:World)(K:MKC)(X:Nat->Prop)(M:MS)(fv vv:Value)(l:List BM)(o:IOp)(av:Value)(wx:World):Prop:=
 O wx w.heap.size #[U o.code,U (sB M o.code),U o.a,U o.b,Y (o.n:Int),av] 76/\MkIn wx K X {M with next:=uN M o.code } fv vv l/\Stp X w X wx
theorem rD(h:wW w K X M)(ho:qN o){av:Value}(f1:wm w (K.av X) av o.args)(hcur:M.cur<M.f.length)(hz:M.sz+3<=1000000):
 G 132 #[Q K.pm,.agg #[U o.code,U o.res,U o.a,U o.b,Y (o.n:Int),av]] w (yk K X w (M.emit o) (U (sB M o.code))):=by
 obtain⟨fv,vv,l,h⟩:=h;obtain⟨aa,ac,f0,_,_⟩:=f1.form;have b8:=lt_of_block h.blk;have H:=Ja (Jb h (Jb ho (Jb f1 (Jb f0 (Jb hcur hz)))));clear h ho f1 hcur hz;subst f0;go_enter Tryz.func132,Tryz.ntmps132;go_upto_region 3 with(go_at_call 52;go_must (refine(aaK o.code _).mono ?_;rintro e w1 ⟨rfl,e9⟩;unfold acg;have bx:O w1 w.heap.size (C o aa ac) 76:=zH e9 (zI rfl) Zs;have y0:=zA (i:=0) bx rfl;have y1:=zA (i:=1) bx rfl;have k7:D w1 w.heap.size 1:=zE bx;have m2:=lt_of_block bx))
 have d2:N w w1:=(((Below.refl w.heap.size w).alloc (Je _) _).trans (e9.mono Zs))
 have a2:N w ((w1.setCell ⟨w.heap.size,1,none⟩ (U (-1))).alloc (I #[.bool (zi o.code).is,.bool (zi o.code).res,.bool (zi o.code).a,.bool (zi o.code).b,.bool (zi o.code).n] 120)):=(d2.setCell (Je _) _).alloc (by have:=d2.size;simp;omega) _;have d1:O ((w1.setCell ⟨w.heap.size,1,none⟩ (U (-1))).alloc (I #[.bool (zi o.code).is,.bool (zi o.code).res,.bool (zi o.code).a,.bool (zi o.code).b,.bool (zi o.code).n] 120)) w.heap.size #[U o.code,U (-1),U o.a,U o.b,Y (o.n:Int),.slice aa o.args.length ac] 76:=zB (zD bx _);have e7:O ((w1.setCell ⟨w.heap.size,1,none⟩ (U (-1))).alloc (I #[.bool (zi o.code).is,.bool (zi o.code).res,.bool (zi o.code).a,.bool (zi o.code).b,.bool (zi o.code).n] 120)) w1.heap.size #[.bool (zi o.code).is,.bool (zi o.code).res,.bool (zi o.code).a,.bool (zi o.code).b,.bool (zi o.code).n] 120:=zI Zs;generalize k4:(w1.setCell ⟨w.heap.size,1,none⟩ (U (-1))).alloc (I #[.bool (zi o.code).is,.bool (zi o.code).res,.bool (zi o.code).a,.bool (zi o.code).b,.bool (zi o.code).n] 120)=W2 at *;generalize m5:w1.heap.size=c2 at *;have z0:=zA (i:=0) d1 rfl;have z1:=zA (i:=1) e7 rfl;have H2:=Ja (Jb a2 (Jb d1 e7));clear e9 bx y0 y1 k7 d2 a2 d1 e7 k4
 go_cut [17] (fun v wx=>v=.bool (uc o.code)/\wx=W2)
 case first=>
  rcases nW o.code with⟨e1,e2⟩|⟨e1,e3,e2⟩|⟨e1,e3,e2⟩
  all_goals rw[e1] at z1
  all_goals have E2:=Ja e2
  ·clear e1 e2;go_wp2;go_meet;exact⟨by rw[E2.out],rfl⟩
  ·have i1:(o.code==26)=true:=by rw[e3];rfl
   clear e1 e2 e3;go_wp2;go_meet;exact⟨by rw[E2.out],rfl⟩
  ·have i1:(o.code==26)=false:=by rw[beq_eq_false_iff_ne];exact e3
   clear e1 e2 e3;go_wp2;go_meet;exact⟨by rw[E2.out],rfl⟩
 case rest=>
  obtain⟨rfl,l9⟩:=hcut;subst wc;have a3:=H.out.1.keep H2.out.1;have g3:=ot a3 (by have:=H.out.2.2.2.2.2;omega)
  have c1:uc o.code=false->EmMid w K X M fv vv l o (.slice aa o.args.length ac) W2:=fun e=>by
   have e1:sB M o.code=-1:=by unfold sB;rw[e];rfl
   have e2:uN M o.code=M.next:=by unfold uN;rw[e];rfl
   exact⟨by rw[e1];exact H2.out.2.1,by rw[e2];exact a3,Stp.of_below H2.out.1⟩
  have c0:uc o.code=true->EmMid w K X M fv vv l o (.slice aa o.args.length ac) ((W2.setCell ⟨K.pm,6,none⟩ (U ((M.next+1:Nat):Int))).setCell ⟨w.heap.size,1,none⟩ (U (M.next:Int))):=fun e=>by
   have e1:sB M o.code=(M.next:Int):=by unfold sB;rw[e];rfl
   have e2:uN M o.code=M.next+1:=by unfold uN;rw[e];rfl
   have m1:=lt_of_block H.out.1.blk;have j0:=(a3.blk)
   have g0:=H.out.1.only (W:=((W2.setCell ⟨K.pm,6,none⟩ (U ((M.next+1:Nat):Int))).setCell ⟨w.heap.size,1,none⟩ (U (M.next:Int)))) (M':= {M with next:=M.next+1 }) (by simpa using H2.out.1.size) ⟨H2.out.1.os,H2.out.1.tape,H2.out.1.output⟩ (fun k hk hne=>(Below.heap_setCell _ ⟨w.heap.size,1,none⟩ _ k (by show k≠w.heap.size;omega)).trans ((Below.heap_setCell _ ⟨K.pm,6,none⟩ _ k hne).trans (H2.out.1.block k hk)))
    (zR (zD j0 _) (by show K.pm≠w.heap.size;omega)) rfl rfl (by have:=H.out.2.2.2.2.2;unfold MS.sz at *;simp only at *;omega) H.out.1.lft
   refine⟨?_,by rw[e2];exact g0.1,g0.2⟩;rw[e1];exact zD (zR H2.out.2.1 (by show w.heap.size≠K.pm;omega)) _
  have h8:∀(u:Value),D (W2.setCell ⟨K.pm,6,none⟩ u) w.heap.size 1:=fun u=>(World.frozen?_setCell ..).trans (zE H2.out.2.1)
  have h9:∀(u:Value),A (W2.setCell ⟨K.pm,6,none⟩ u) w.heap.size 1 (U (-1)):=fun u=>zA (i:=1) (zR (a:=⟨K.pm,6,none⟩) (u:=u) H2.out.2.1 (by show w.heap.size≠K.pm;omega)) rfl
  have y:=Ja (Jb g3 (Jb c1 c0));clear g3 c1 c0 a3
  go_upto_if 17 with fail
  go_cut [] (fun wx=>Hid (EmMid w K X M fv vv l o (.slice aa o.args.length ac) wx))
  case first=>
   obtain⟨r,hr⟩:∃r,uc o.code=r:=⟨_,rfl⟩
   have HR:=Ja hr;rw[hr];clear hr;cases r
   ·go_wp2;go_meet;exact Ja (y.out.2.1 HR.out)
   ·go_wp2_with (go_at_call 110;go_must (refine y.out.1.mono ?_;rintro e w3 ⟨rfl,rfl⟩))
    go_meet;exact Ja (y.out.2.2 HR.out)
  case rest=>
   obtain⟨b1,h,hs⟩:=hcut.out;have hcur:=H.out.2.2.2.2.1;obtain⟨b,hb⟩:∃b,M.f[M.cur]? =some b:=⟨_,Jd hcur⟩
   obtain⟨q,hq,rfl,a6⟩:=h.getB (i:=M.cur) hb;obtain⟨g,c,rfl,n1,b0,m3⟩:=h.fblk hq;obtain⟨pa,pc,b7,_,_⟩:=a6.par.form;obtain⟨oa,oc,b3⟩:=zG a6.own;obtain⟨ea,ec,b6,_,_⟩:=a6.tos.form;have c4:=h.c4;have c5:A wc K.pm 5 (U (M.cur:Int)):=h.c5;have a5:=z9 yr h.own rfl hq;have e0:A wc g (M.cur*5) q.pv:=a5 0 _ rfl;have e1:=a5 1 _ rfl;have e2:=a5 2 _ rfl;have e3:=a5 3 _ rfl;have e4:=a5 4 _ rfl;have b8:=lt_of_block h.blk;have j1:l.length=M.f.length:=h.len;have m4:(M.cur:Int)<(l.length:Int):=Zo;have n0:(0:Int)<=(M.cur:Int):=Zo;have k2:=lt_of_block b1;rw[b7] at e0;rw[b3] at e1;rw[b6] at e4;have f2:∀w',N wc w'->A w' K.pm 4 (F g l.length c)/\A w' K.pm 5 (U (M.cur:Int))/\A w' g (M.cur*5) (.slice pa q.b.params.length pc)/\A w' g (M.cur*5+1) (.slice oa q.ol.length oc)/\A w' g (M.cur*5+2) (U q.b.term.kind)/\A w' g (M.cur*5+3) (U q.b.term.a)/\A w' g (M.cur*5+4) (.slice ea q.b.term.to.length ec):=fun w' hb=>⟨zV hb b8 c4,zV hb b8 c5,zV hb b0 e0,zV hb b0 e1,zV hb b0 e2,zV hb b0 e3,zV hb b0 e4⟩
   have f5:=Ja f2;have HC:=Ja (Jb h (Jb hq (Jb a6 (Jb hb (Jb b7 (Jb b3 (Jb b6 (Jb b1 hs))))))));obtain⟨R,hR⟩:∃R,sB M o.code=R:=⟨_,rfl⟩
   rw[hR] at b1;have HR:=Ja hR;clear f2 c4 c5 e0 e1 e2 e3 e4 h hs hq a6 hb a5 b7 b3 b6 j1 hcut y h8 h9 z0 z1 hR;go_upto_region 5 with fail
   go_region_held3 (fun w'=>A w' K.pm 4 (F g l.length c)/\A w' K.pm 5 (U (M.cur:Int))/\A w' g (M.cur*5) (.slice pa q.b.params.length pc)/\A w' g (M.cur*5+1) (.slice oa q.ol.length oc)/\A w' g (M.cur*5+2) (U q.b.term.kind)/\A w' g (M.cur*5+3) (U q.b.term.a)/\A w' g (M.cur*5+4) (.slice ea q.b.term.to.length ec))
    ((refine f5.out _ ?_;repeat' (first|exact Below.refl _ _|refine Below.drew ?_|refine Below.alloc ?_ (by simp<;>omega) _|refine Below.setCell ?_ (by simp<;>omega) _)))
    (fail)
   go_upto_region 6 with fail;have a2:N wc ((wc.alloc (I #[.slice pa q.b.params.length pc,.slice oa q.ol.length oc,U q.b.term.kind,U q.b.term.a,.slice ea q.b.term.to.length ec] 84)).drew):=((Below.refl _ _).alloc (Je _) _).drew;have c3:O ((wc.alloc (I #[.slice pa q.b.params.length pc,.slice oa q.ol.length oc,U q.b.term.kind,U q.b.term.a,.slice ea q.b.term.to.length ec] 84)).drew) wc.heap.size #[.slice pa q.b.params.length pc,.slice oa q.ol.length oc,U q.b.term.kind,U q.b.term.a,.slice ea q.b.term.to.length ec] 84:=zI rfl;generalize k5:(wc.alloc (I #[.slice pa q.b.params.length pc,.slice oa q.ol.length oc,U q.b.term.kind,U q.b.term.a,.slice ea q.b.term.to.length ec] 84)).drew=V2 at *;have a3:=HC.out.1.keep a2;have d9:=HC.out.2.2.1.step (Stp.of_below a2) (fun k hk=>a2.block k (HC.out.2.2.1.own.lt k hk).2) (fun _ e=>e);have a0:=zH a2 b1 k2;have l1:=zA (i:=1) c3 rfl;have x0:=zA (i:=0) a0 rfl;have x1:=zA (i:=1) a0 rfl;have x2:=zA (i:=2) a0 rfl;have x3:=zA (i:=3) a0 rfl;have x4:=zA (i:=4) a0 rfl;have x5:=zA (i:=5) a0 rfl;have j2:=lt_of_block c3;have b2:=d9.own;rw[HC.out.2.2.2.2.2.1] at b2;have d7:yM (V2.alloc (I #[U o.code,U R,U o.a,U o.b,Y (o.n:Int),.slice aa o.args.length ac] 76)) 6 (F V2.heap.size 1 1) 1 (zU ({o with res:=R },.slice aa o.args.length ac)):=yM.cells (zI rfl) rfl (by simp[zU,Value.oneCell'])
   have hn:q.ol.length<=1000000:=by
    have h1:=opsN_le HC.out.2.2.2.1;rw[HC.out.2.2.1.ops,Nr] at h1;have h2:=HC.out.1.bnd;unfold MS.sz at h2;simp only at h2;omega
   have HV:=Ja (Jb a2 (Jb c3 (Jb a3 (Jb d9 (Jb a0 (Jb b2 (Jb d7 hn)))))));have k6:K.B<=V2.heap.size:=a3.size;obtain⟨ii,k1,h5,h4,h0⟩:=info_parts Tryz.info_irop;clear a2 c3 a3 d9 a0 b2 d7 k5 b1 f5 hn;go_upto_region 7 with(at_builtin;go_must (refine zK _ rfl (.tmp 33) (.tmp 35) 77 rfl K.B 76 ii (.agg #[U 0,U 0,U 0,U 0,Y 0,L]) 6 64 Tryz.underlying77 k1 h5 h4 h0 rfl Zd (.slice oa q.ol.length oc) q.ol.length (q.ol.flatMap zU) rfl (HV.out.2.2.2.2.2.1.alloc _) _ 1 (zU ({o with res:=R },.slice aa o.args.length ac)) rfl HV.out.2.2.2.2.2.2.1 (by have:=HV.out.2.2.2.2.2.2.2;unfold maxLen;omega) (by have:=HV.out.2.2.2.2.2.2.2;omega) Zt ?_;intro v9 w9 j d a4;obtain⟨oa9,oc9,rfl⟩:=zG j;have hz:=zL d (zB HV.out.2.1) (by have:=zC HV.out.2.2.2.2.2.1 HV.out.2.1 (.inr Zd);exact this);have d0:=zA (i:=1) hz rfl;have i8:D w9 wc.heap.size 1:=zE hz))
   have f9:q.ov.ownBlock≠some g:=fun e=>by
    rcases zo HC.out.2.2.1.own HC.out.1.own Zd with h1|h1
    ·rw[h1] at e;cases e
    ·exact h1 (by rw[e];rfl)
   have d8:(Value.slice oa q.ol.length oc).ownBlock=q.ov.ownBlock:=by rw[HC.out.2.2.2.2.2.1]
   rw[d8] at d a4
   have c8:(w9.setCell ⟨wc.heap.size,1,none⟩ (.slice oa9 (q.ol.length+1) oc9)).ownsRow K.B 84 5 (F g l.length c) l.length (l.flatMap xG):=yD HC.out.1.own (fun k e=>by
    have e2:k=g:=by simp[Value.ownBlock] at e;exact e.symm
    subst e2
    exact(Below.heap_setCell w9 ⟨wc.heap.size,1,none⟩ _ k (by show k≠wc.heap.size;omega)).trans ((d.block k (by have:=HV.out.1.size;simp;omega) (fun e3=>f9 e3.symm)).trans ((Below.heap_alloc V2 _ k (by have:=HV.out.1.size;omega)).trans (HV.out.1.block k b0))))
   have e6:q.ov.ownBlock≠some K.pm:=fun e=>zC HC.out.2.2.1.own HC.out.1.blk (.inr Zd) e
   have b9:=zR (a:=⟨wc.heap.size,1,none⟩) (u:=.slice oa9 (q.ol.length+1) oc9) (zL d (zB HV.out.2.2.1.blk) e6) (by show K.pm≠wc.heap.size;omega);have a8:=zD hz (i:=1) (.slice oa9 (q.ol.length+1) oc9);have c4:A (w9.setCell ⟨wc.heap.size,1,none⟩ (.slice oa9 (q.ol.length+1) oc9)) K.pm 4 (F g l.length c):=zA (i:=4) b9 rfl;have c5:A (w9.setCell ⟨wc.heap.size,1,none⟩ (.slice oa9 (q.ol.length+1) oc9)) K.pm 5 (U (M.cur:Int)):=zA (i:=5) b9 rfl;have l0:=zA (i:=0) a8 rfl;have l1:=zA (i:=1) a8 rfl;have l2:=zA (i:=2) a8 rfl;have l3:=zA (i:=3) a8 rfl;have l4:=zA (i:=4) a8 rfl;have HG:=Ja (Jb j (Jb d (Jb a4 (Jb hz c8))));have d4:=zq Zd yr c8 rfl HC.out.2.1;generalize f3:w9.setCell ⟨wc.heap.size,1,none⟩ (.slice oa9 (q.ol.length+1) oc9)=W10 at c4 c5 l0 l1 l2 l3 l4 d4 ⊢;have f4:=Ja f3;have g4:=Ja d4;clear j d a4 hz d0 i8 b9 a8 f9 d8 c8 e6 d4 f3 x0 x1 x2 x3 x4 x5 k6;refine zt 11 Zk Zk ?_;simp only[Qo,Uc,Qp,Ui]
   repeat (go_big_quiet_step (fail))
   refine wpQuiet_nil ?_;refine wpList_store_mid rfl 84 (.tmp 48) (.tmp 47) rfl g (M.cur*5) #[.slice pa q.b.params.length pc,.slice oa9 (q.ol.length+1) oc9,U q.b.term.kind,U q.b.term.a,.slice ea q.b.term.to.length ec] rfl rfl g4.out Zk (by simp[Value.oneCell']) ?_;go_upto_region 8 with fail
   have h6:∃X',MkIn (W10.drew.setCells g (M.cur*5) [.slice pa q.b.params.length pc,.slice oa9 (q.ol.length+1) oc9,U q.b.term.kind,U q.b.term.a,.slice ea q.b.term.to.length ec]) K X' {M with next:=uN M o.code,f:=M.f.set M.cur {q.b with ops:=q.b.ops++ [{o with res:=R }]}} (F g l.length c) vv (l.set M.cur ⟨{q.b with ops:=q.b.ops++ [{o with res:=R }]},q.pv,.slice oa9 (q.ol.length+1) oc9,q.tv,q.ol++ [({o with res:=R },.slice aa o.args.length ac)]⟩)
    /\Stp X wc X' (W10.drew.setCells g (M.cur*5) [.slice pa q.b.params.length pc,.slice oa9 (q.ol.length+1) oc9,U q.b.term.kind,U q.b.term.a,.slice ea q.b.term.to.length ec]):=by
    obtain⟨h,hq,a6,hb,b7,b3,b6,b1,hs⟩:=HC.out;obtain⟨j,d,a4,hz,c8⟩:=HG.out;refine h.putO (M':= {M with next:=uN M o.code,f:=M.f.set M.cur {q.b with ops:=q.b.ops++ [{o with res:=R }]}}) hq rfl (HV.out.1.alloc HV.out.1.size _) d j (fun k e=>?_) (Je _) hz ⟨.slice oa9 (q.ol.length+1) oc9,?_⟩ ⟨?_,H.out.2.2.1.step wb (hs.av K)⟩ rfl ⟨rfl,rfl,rfl,rfl,rfl⟩ ?_
    ·rcases a4 with e2|e2
     ·exact .inl (by rw[<-e2];exact e)
     ·right;have e3:=e2.symm.trans e;have:=HV.out.1.size;simp at e3;omega
    ·rw[<-f4.out];unfold xG;rw[b7,b6]
    ·obtain⟨o1,o2,o3,o4,o5⟩:=H.out.2.1;refine⟨o1,?_,o3,o4,o5⟩;rw[<-HR.out];unfold sB;have:M.next<=M.sz:=by unfold MS.sz;omega
     have:=H.out.2.2.2.2.2
     show I64 (if uc o.code then(M.next:Int) else -1)
     split<;>exact⟨by omega,by omega⟩
    ·have h1:=sN M.f M.cur q.b {q.b with ops:=q.b.ops++ [{o with res:=R }]} hb;simp at h1;have h2:=H.out.2.2.2.2.2;unfold MS.sz at h2 ⊢;unfold uN;simp only[Nd]
     split<;>omega
   obtain⟨X',hm,d6⟩:=h6;have d5:=HC.out.2.2.2.2.2.2.2.2.trans d6;have b4:=d6.blk HC.out.2.2.2.2.2.2.2.1 (fun e=>by have:=H.out.1.xl _ e;omega);generalize k3:W10.drew.setCells g (M.cur*5) [.slice pa q.b.params.length pc,.slice oa9 (q.ol.length+1) oc9,U q.b.term.kind,U q.b.term.a,.slice ea q.b.term.to.length ec]=WF at *;generalize l.set M.cur ⟨{q.b with ops:=q.b.ops++ [{o with res:=R }]},q.pv,.slice oa9 (q.ol.length+1) oc9,q.tv,q.ol++ [({o with res:=R },.slice aa o.args.length ac)]⟩=lst at *;rw[HR.out] at b4;have x1:=zA (i:=1) b4 rfl;have y:=Ja (Jb hm (Jb d5 b4))
   have g1: {M with next:=uN M o.code,f:=M.f.set M.cur {q.b with ops:=q.b.ops++ [{o with res:=R }]}}= {M.emit o with vals:=M.vals }:=by
    unfold MS.emit;rw[xI HC.out.2.2.2.1,<-HR.out];rfl
   have g5:=Ja g1;clear hm d6 d5 b4 k3 g1 c4 c5 l0 l1 l2 l3 l4 HG g4 f4 HV j2;obtain⟨r,hr⟩:∃r,uc o.code=r:=⟨_,rfl⟩
   have c9:=Ja hr;clear hr;cases r
   ·obtain rfl:R=-1:=by rw[<-HR.out];unfold sB;rw[c9.out];rfl
    go_wp2;go_ret;have a1:=y.out.1;rw[g5.out] at a1;have e: {M.emit o with vals:=M.vals }=M.emit o:=by unfold MS.emit;rw[c9.out];rfl
    rw[e] at a1;exact⟨zh HR.out.symm,X',⟨_,_,_,a1⟩,y.out.2.1⟩
   ·obtain rfl:R=(M.next:Int):=by rw[<-HR.out];unfold sB;rw[c9.out];rfl
    obtain⟨va,vc,d3⟩:=zG y.out.1.vown;have j:=y.out.1.vown;have c7:=y.out.1.c7;have f7:=y.out.1.free 7;have f8:=lt_of_block y.out.1.blk;have nb:=zC j y.out.1.blk (.inr Zd);rw[d3] at j c7 nb;have h7:=Ja j;have l6:=Ja d3
    have m0:M.vals.length<=1000000:=by
     have h2:=H.out.2.2.2.2.2;unfold MS.sz at h2;omega
    have l5:∀o,A (WF.alloc o) K.pm 7 (.slice va M.vals.length vc):=fun o=>(Oo (w:=WF) (Below.heap_alloc _ _ _ f8)).trans c7
    have k9:∀o,D (WF.alloc o) K.pm 7:=fun o=>(Qm (w:=WF) (Below.heap_alloc _ _ _ f8)).trans f7
    have i0:∀o,A (WF.alloc o) w.heap.size 1 (U (M.next:Int)):=fun o=>(Oo (w:=WF) (Below.heap_alloc _ _ _ (lt_of_block y.out.2.2))).trans x1
    have i2:=zC j y.out.2.2 (.inr Zd);have n2:K.B<=WF.heap.size:=y.out.1.size;have l8:=lt_of_block y.out.2.2;obtain⟨ij,k0,g9,g8,g6⟩:=info_parts Tryz.info_int;clear j d3;go_upto_region 9 with fail
    go_region_law (first|(refine step_append_lies _ (by rfl) (.tmp 56) (.tmp 59) _ (by rfl) K.B 3 ij (U 0) 1 8 Tryz.underlying22 k0 g9 g8 g6 rfl Zo (.slice va M.vals.length vc) M.vals.length (M.vals.map zN) (by rfl) ((h7.out.alloc _).drew) ⟨WF.heap.size,0,none⟩ 1 1 [U (M.next:Int)] (by rfl) (by rfl) (Oi (cs:=#[U (M.next:Int)]) (t:=3) (fr:=(0,0)) (heap_alloc_new WF _)) (by simp[Value.oneCell']) Zo (by unfold maxLen;omega) Zo Zt (WF.heap.size+1) Zs ?_;intro gg b5 w3 f6 d a4 l7;have n4:=(d.cell_far ⟨K.pm,7,none⟩ Zt (Ne.symm nb)).trans (l5 _);have n3:=(d.frozen_far ⟨K.pm,7,none⟩ Zt (Ne.symm nb)).trans (k9 _);have bp3:=(d.cell_far ⟨w.heap.size,1,none⟩ Zt (Ne.symm i2)).trans (i0 _)))
    all_goals go_wp2_with fail
    all_goals go_ret
    all_goals (
     have d0:(show MS from {M with next:=uN M o.code,f:=M.f.set M.cur {q.b with ops:=q.b.ops++ [{o with res:=(M.next:Int)}]}}).sz+1<=1000000:=by
      have h1:=sN M.f M.cur q.b {q.b with ops:=q.b.ops++ [{o with res:=(M.next:Int)}]} HC.out.2.2.2.1;simp at h1;have h2:=H.out.2.2.2.2.2;unfold MS.sz at h2 ⊢;unfold uN;simp only[Nd]
      split<;>omega
     have g2:=xN d;rw[<-l6.out] at g2 a4
     have hP:=y.out.1.putV (vv':=F gg (M.vals.length+1) b5) (x:=(M.next:Int)) g2 f6 (fun k e=>by
      have e2:gg=k:=by simpa[Value.ownBlock] using e
      subst e2;rcases a4 with e3|e3
      ·exact .inl e3
      ·right;omega) (by have:=H.out.2.2.2.2.2;have:M.next<=M.sz:=by(unfold MS.sz;omega)
                        exact⟨by omega,by omega⟩) d0
     have a1:=hP.1
     have e:(show MS from {(show MS from {M with next:=uN M o.code,f:=M.f.set M.cur {q.b with ops:=q.b.ops++ [{o with res:=(M.next:Int)}]}}) with vals:=M.vals++ [(M.next:Int)]})=M.emit o:=by
      have:=g5.out;have h3:(M.emit o).vals=M.vals++ [(M.next:Int)]:=by unfold MS.emit;rw[c9.out];rfl
      rw[<-h3];exact congrArg (fun m:MS=> {m with vals:=(M.emit o).vals }) this
     have e5:=congrArg (fun m=>MkIn (w3.setCell ⟨K.pm,7,none⟩ (F gg (M.vals.length+1) b5)) K (fun k=>X' k∨(Value.slice (some ⟨gg,0,none⟩) (M.vals.length+1) b5).ownBlock=some k) m (F g l.length c) (F gg (M.vals.length+1) b5) lst) e
     exact⟨zh HR.out.symm,_,⟨_,_,_,cast e5 a1⟩,y.out.2.1.trans hP.2⟩)
theorem rX (s:List Int)(pos:Nat){n:Nat}(c:0<n):tk0 s pos n<n:=by
 unfold tk0;have h1:=Ob (s.getD pos 0) (show(n:Int)≠0 by omega);have h2:=Int.emod_lt_of_pos (s.getD pos 0) (show(0:Int)<n by omega);omega
theorem sm (s:List Int):1<=mdN s/\mdN s<=4:=by
 have:=rX s 0 (n:=4) Zo;unfold mdN;omega
theorem yY (s:List Int):∀n,(yS s n).length=n
 |0=>rfl
 |n+1=>by unfold yS;rw[Jk,yY s n];rfl
theorem xy (s:List Int):∀n,∀x∈yS s n,0<=x/\x<4
 |0,x,h=>by unfold yS at h;simp at h
 |n+1,x,h=>by
  unfold yS at h;rcases Jl.1 h with h|h
  ·exact xy s n x h
  ·have:=rX s n (n:=4) Zo;rw[Jo] at h;subst h
   split<;>omega
theorem yx (s:List Int):∀k,(zg s k).1.length=k
 |0=>rfl
 |k+1=>by
  show((zg s k).1++ [_]).length=_
  rw[Jk,yx s k];rfl
theorem eP {E:ME}(d:∀x∈E.args,0<=x/\x<4)(f:Nat):(E.args.getD f 0).toNat<=3:=by
 rw[Jj]
 cases c:E.args[f]? with
 |none=>simp
 |some x=>have:=d x (Ji c);simp only[Ot];omega
theorem sd (n p:Nat):(wJ n p).params.length=p:=by unfold wJ;simp
theorem sQ {E:ME}(c:∀x∈E.args,0<=x/\x<4)(pos:Nat):(xD E pos).sz<=pos+40:=by
 have h1:=eP c E.me;have h2:=aaE E ⟨pos,[],0,0,[],6⟩ (n:=3) Zo;unfold xD;simp only;unfold MS.sz MS.block MS.tick;simp only[sd,Op,bT,Ju];omega
theorem rx {E:ME}(c:∀x∈E.args,0<=x/\x<4)(pos:Nat):GrowP 2829 (xD E pos) (xR E pos):=by
 have h:=(xw E c 2 (xD E pos)).trans (xw E c 1 (zp E 2 (xD E pos)));have e:pC 2+pC 1=2824:=rfl;rw[e] at h;unfold xR;simp only;have ht:=h.trans (zT (zp E 1 (zp E 2 (xD E pos)))).p
 split
 ·exact(ht.trans (zv _ _).p).mono Zo
 split
 ·exact(ht.trans (zv _ _).p).mono Zo
 ·exact((ht.trans (yU E _).p).trans (zv _ _).p).mono Zo
theorem lN {E:ME}(c:∀x∈E.args,0<=x/\x<4)(pos:Nat):(xR E pos).pos<=pos+3000:=by
 have h1:=(rx c pos).sz;have h2:=sQ c pos;have h3:(xR E pos).pos<=(xR E pos).sz:=by unfold MS.sz;omega
 omega
theorem mdPos_le (s:List Int):sP s<=5:=by
 have:=sm s;unfold sP
 split<;>omega
theorem pos_step{x y:Nat}(h1:y<=5+k*3000)(h2:x<=y+3000):x<=5+(k+1)*3000:=by omega
theorem tU (s:List Int)(k:Nat):(zg s k).2<=5+k*3000:=by
 induction k with
 |zero=>exact mdPos_le s
 |succ k ih=>exact pos_step ih (lN (E:=xC s k) (xy s _) (zg s k).2)
def rp (k:Nat):Nat:=(k*k+k/256)%256
def iu:List Nat:=(List.range 4096).map rp
def uQ (k:Nat):List Nat:=(List.range 4096).map fun j=>if j<k then rp j else 0
theorem pM (k:Nat):(uQ k).length=4096:=by simp[uQ]
theorem mM:uQ 0=List.replicate 4096 0:=by
 apply Oq;intro j;unfold uQ;rw[Jr,Nm]
 by_cases h:j<4096
 ·rw[Oh h,if_pos h];rfl
 ·rw[Of (by simpa using h),if_neg h];rfl
theorem nu:uQ 4096=iu:=Up fun j hj=>if_pos (Ol.1 hj)
theorem kC(h:k<4096):(uQ k).set k (rp k)=uQ (k+1):=by
 apply Oq;intro j;rw[Ov,pM];unfold uQ;rw[Jr,Jr]
 by_cases e:k=j
 ·subst e;rw[if_pos rfl,if_pos h,Oh h]
  show some _=some (if k<k+1 then rp k else 0)
  rw[if_pos Zo]
 ·rw[if_neg e]
  by_cases c:j<4096
  ·rw[Oh c]
   show some (if j<k then rp j else 0)=some (if j<k+1 then rp j else 0)
   by_cases h2:j<k
   ·rw[if_pos h2,if_pos Zo]
   ·rw[if_neg h2,if_neg Zo]
  ·rw[Of (by simpa using c)];rfl
theorem ll (n:Nat):(((List.range n).map rp).map fun(n:Nat)=>(n:Int)).map (fun n=>UInt8.ofNat n.toNat)=(List.range n).map fun k=>UInt8.ofNat (k*k+k/256):=by
 rw[List.map_map,List.map_map];apply Up;intro k hk
 show UInt8.ofNat (((rp k:Nat):Int).toNat)=_
 rw[Ni];unfold rp;apply UInt8.toNat_inj.1;simp
theorem mq:y9 iu=sG:=congrArg (fun l:List UInt8=>(⟨l.toArray⟩:ByteArray)) (ll 4096)
end Go.Proofs.YtoahcpkibpomcaaGreat
