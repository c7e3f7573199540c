/- Part of a proof. -/
import Derived.Test.YtojclalkfhoooaaISan
import Derived.Test.YtojclalkfhoooaaGApp
import Derived.Test.YtojclalkfhoooaaGVmD
import Derived.Deep.MidRow
import Derived.Test.YtojclalkfhoooaaIGraph
set_option linter.unusedSimpArgs false
set_option linter.unusedVariables false
set_option maxHeartbeats 2000000
set_option maxRecDepth 100000
namespace Go.Proofs.Ytojclalkfhoooaa
open Go.RowKit
theorem Try.info_irop:(Try.prog.info? 77).map (fun i=>(i.zero,i.size,i.bytes))=some (some (.agg #[.int .i64 0,.int .i64 0,.int .i64 0,.int .i64 0,.int .u16 0,.slice none 0 0]),6,64):=by kernel_rfl
theorem Try.info_irfunc:(Try.prog.info? 43).map (fun i=>(i.zero,i.size,i.bytes))=some (some (.agg #[.slice none 0 0]),1,24):=by kernel_rfl
theorem yD {w w':World}{base:Nat}{e:TypeId}{size n:Nat}{v:Value}{xs:List Value}(h:w.ownsRow base e size v n xs)(hk:∀k,v.ownBlock=some k->w'.heap[k]? =w.heap[k]?):w'.ownsRow base e size v n xs:=by
 refine⟨h.1,?_⟩
 rcases h.2 with h2|⟨g,cap,cur,rfl,hg,hh,r⟩
 ·exact .inl h2
 ·exact .inr ⟨g,cap,cur,rfl,hg,(hk g rfl).trans hh,r⟩
theorem yM.cells {w:World}{b n:Nat}{xs:List Value}{e:TypeId}(h:w.heap[b]? =some (.cells xs.toArray e (0,0)))(hn:xs.length=n)(hx:∀u∈xs,u.oneCell'=true):yM w n (.slice (some ⟨b,0,none⟩) 1 1) 1 xs:=
 ⟨_,_,rfl,by omega,hx,.inr ⟨_,rfl,World.news_of_block (cs:=xs.toArray) h⟩⟩
open Go.RowKit
structure Stp (X:Nat->Prop) (w:World) (X':Nat->Prop) (w':World):Prop where
 os:w'.os=w.os
 tape:w'.tape=w.tape
 output:w'.output=w.output
 size:w.heap.size<=w'.heap.size
 new:∀k,X' k->X k∨w.heap.size<=k
 kept:∀k,k<w.heap.size->¬X k->w'.heap[k]? =w.heap[k]?
theorem Stp.refl (X:Nat->Prop)(w:World):Stp X w X w:=⟨rfl,rfl,rfl,Nat.le_refl _,fun _ h=> .inl h,fun _ _ _=>rfl⟩
theorem Stp.trans {X X1 X2:Nat->Prop}{w w1 w2:World}(h:Stp X w X1 w1)(k:Stp X1 w1 X2 w2):Stp X w X2 w2:=
 ⟨k.os.trans h.os,k.tape.trans h.tape,k.output.trans h.output,Nat.le_trans h.size k.size,
  fun i hi=>(k.new i hi).elim (h.new i) (fun e=> .inr (Nat.le_trans h.size e)),
  fun i hi hx=>(k.kept i (Nat.lt_of_lt_of_le hi h.size) (fun e=>(h.new i e).elim hx (by omega))).trans (h.kept i hi hx)⟩
theorem Stp.of_below {X:Nat->Prop}{w w':World}(h:Below w.heap.size w w'):Stp X w X w':=
 ⟨h.os,h.tape,h.output,h.size,fun _ h=> .inl h,fun k hk _=>h.block k hk⟩
theorem Stp.below {X X':Nat->Prop}{w w':World}{B:Nat}(h:Stp X w X' w')(hX:∀k,X k->B<=k)(hB:B<=w.heap.size):Below B w w':=
 ⟨h.os,h.tape,h.output,h.size,fun k hk=>h.kept k (by omega) (fun e=>by have:=hX k e;omega)⟩
theorem Stp.blk {X X':Nat->Prop}{w w':World}(h:Stp X w X' w'){k:Nat}{o:Obj}(hk:w.heap[k]? =some o)(hx:¬X k):w'.heap[k]? =some o:=(h.kept k (lt_of_block hk) hx).trans hk
theorem Stp.cell {X X':Nat->Prop}{w w':World}(h:Stp X w X' w'){k i:Nat}{v:Value}(hk:w.cell? ⟨k,i,none⟩=some v)(hx:¬X k):w'.cell? ⟨k,i,none⟩=some v:=
 (World.cell?_of_block (h.kept k (jU hk) hx)).trans hk
theorem Stp.not {X X':Nat->Prop}{w w':World}(h:Stp X w X' w'){k:Nat}(hk:k<w.heap.size)(hx:¬X k):¬X' k:=fun e=>(h.new k e).elim hx (by omega)
def yE {α:Type}(sz:Nat)(R:World->(Nat->Prop)->Nat->Nat->α->Prop)(w:World)(X:Nat->Prop)(v:Value)(xs:List α):Prop:=
 ∃(a:Option Addr) (cap:Nat),v=.slice a xs.length cap/\xs.length<=cap/\cap<=9223372036854775807/\∀(k:Nat) (x:α),xs[k]? =some x->∃b o,a=some ⟨b,o,none⟩/\b<w.heap.size/\¬X b/\R w X b (o+k*sz) x
def rP {α:Type}(R:World->(Nat->Prop)->Nat->Nat->α->Prop):Prop:=∀X w X' w' b q x,b<w.heap.size->¬X b->Stp X w X' w'->R w X b q x->R w' X' b q x
theorem yE.step {α:Type}{sz:Nat}{R:World->(Nat->Prop)->Nat->Nat->α->Prop}(hR:rP R){X X':Nat->Prop}{w w':World}{v:Value}{xs:List α}(h:yE sz R w X v xs)(hs:Stp X w X' w'):yE sz R w' X' v xs:=by
 obtain⟨a,cap,rfl,h1,h2,h3⟩:=h
 refine⟨a,cap,rfl,h1,h2,fun k x hk=>?_⟩
 obtain⟨b,o,h4,h5,h6,h7⟩:=h3 k x hk
 exact⟨b,o,h4,Nat.lt_of_lt_of_le h5 hs.size,hs.not h5 h6,hR _ _ _ _ _ _ _ h5 h6 hs h7⟩
theorem yE.nil {α:Type}{sz:Nat}{R:World->(Nat->Prop)->Nat->Nat->α->Prop}{w:World}{X:Nat->Prop}:yE sz R w X (.slice none 0 0) []:=
 ⟨none,0,rfl,Nat.le_refl _,by omega,fun k x hk=>by simp at hk⟩
theorem yE.form {α:Type}{sz:Nat}{R:World->(Nat->Prop)->Nat->Nat->α->Prop}{w:World}{X:Nat->Prop}{v:Value}{xs:List α}(h:yE sz R w X v xs):∃a cap,v=.slice a xs.length cap/\xs.length<=cap/\cap<=9223372036854775807:=
 let⟨a,cap,e,h1,h2,_⟩:=h;⟨a,cap,e,h1,h2⟩
theorem yE.to {α:Type}{sz:Nat}{R:World->(Nat->Prop)->Nat->Nat->α->Prop}{S:World->Nat->Nat->Nat->α->Prop}{w:World}{X:Nat->Prop}{v:Value}{xs:List α}(h:yE sz R w X v xs)(hRS:∀b q x,R w X b q x->S w w.heap.size b q x):yN sz S w w.heap.size v xs:=by
 obtain⟨a,cap,rfl,h1,h2,h3⟩:=h
 refine⟨a,cap,rfl,h1,h2,fun k x hk=>?_⟩
 obtain⟨b,o,h4,h5,_,h7⟩:=h3 k x hk
 exact⟨b,o,h4,h5,hRS _ _ _ h7⟩
def IntG (w:World)(X:Nat->Prop)(b q:Nat)(x:Int):Prop:=w.cell? ⟨b,q,none⟩=some (.int .i64 x)/\I64 x
theorem zn:rP IntG:=fun X w X' w' b q x _ hx hs h=>⟨hs.cell h.1 hx,h.2⟩
abbrev wm:=yE 1 IntG
def EdgeG (w:World)(X:Nat->Prop)(b q:Nat)(x:IEdge):Prop:=w.cell? ⟨b,q,none⟩=some (.int .i64 x.block)/\I64 x.block/\∃av,w.cell? ⟨b,q+1,none⟩=some av/\wm w X av x.args
theorem yq:rP EdgeG:=fun X w X' w' b q x _ hx hs h=>by
 obtain⟨h1,h2,av,h3,h4⟩:=h
 exact⟨hs.cell h1 hx,h2,av,hs.cell h3 hx,h4.step zn hs⟩
abbrev vT:=yE 2 EdgeG
theorem wm.to {w:World}{X:Nat->Prop}{v:Value}{xs:List Int}(h:wm w X v xs):zY w w.heap.size v xs:=yE.to h fun _ _ _ h=>h
theorem vT.to {w:World}{X:Nat->Prop}{v:Value}{xs:List IEdge}(h:vT w X v xs):wH w w.heap.size v xs:=yE.to h fun _ _ _ h=>by
 obtain⟨h1,h2,av,h3,h4⟩:=h
 exact⟨h1,h2,av,h3,wm.to h4⟩
theorem rO {w:World}{X:Nat->Prop}{S:Nat}{v:Value}{n:Nat}{xs:List Int}(h:w.ownsRow S 3 1 v n (xs.map zN))(hn:xs.length=n)(hx:∀x∈xs,I64 x)(hX:∀k,v.ownBlock=some k->¬X k):wm w X v xs:=by
 subst hn
 obtain⟨a,c,rfl⟩:=zG h
 have hl:=zm h
 refine⟨a,c,rfl,hl.1,by omega,fun k x hk=>?_⟩
 have hkl:=(List.getElem?_eq_some_iff.1 hk).1
 obtain⟨g,cap,e,hg,hlt⟩:=h.form (by omega)
 cases e
 refine⟨g,0,rfl,hlt,hX g rfl,?_,hx x (List.mem_of_getElem? hk)⟩
 rw[Nat.mul_one,Nat.zero_add]
 exact(h.cellAt k (by omega)).trans (by rw[List.getElem?_map,hk];rfl)
theorem ki {w:World}{X:Nat->Prop}{b:Nat}{xs:List Int}{e:TypeId}(h:w.heap[b]? =some (.cells (xs.map fun x=>Value.int .i64 x).toArray e (0,0)))(hX:¬X b)(h64:∀x∈xs,I64 x)(hl:xs.length<=1000000):wm w X (.slice (some ⟨b,0,none⟩) xs.length xs.length) xs:=by
 refine⟨_,xs.length,rfl,Nat.le_refl _,by omega,fun k x hk=>⟨b,0,rfl,lt_of_block h,hX,?_,h64 x (List.mem_of_getElem? hk)⟩⟩
 rw[Nat.zero_add,Nat.mul_one]
 exact zA h (by simp[hk])
theorem ld {w:World}{X:Nat->Prop}{S:Nat}{v:Value}{l:List (IEdge×Value)}(h:w.ownsRow S 75 2 v l.length (l.flatMap za))(h64:∀q∈l,I64 q.1.block/\wm w X q.2 q.1.args)(hX:∀k,v.ownBlock=some k->¬X k):vT w X v (l.map (·.1)):=by
 obtain⟨a,c,rfl⟩:=zG h
 have hl:=zm h
 refine⟨a,c,by rw[List.length_map],by rw[List.length_map];exact hl.1,by omega,fun k o hk=>?_⟩
 rw[List.getElem?_map,Option.map_eq_some_iff] at hk
 obtain⟨q,hq,rfl⟩:=hk
 have hkl:=(List.getElem?_eq_some_iff.1 hq).1
 obtain⟨g,cap,e,hg,hb⟩:=h.form (by omega)
 cases e
 have hc:∀j v,(za q)[j]? =some v->w.cell? ⟨g,0+k*2+j,none⟩=some v:=fun j v hj=>by
  have hj6:j<2:=(List.getElem?_eq_some_iff.1 hj).1
  rw[Nat.zero_add]
  exact(h.cellAt (k*2+j) (by omega)).trans ((uB za 2 (fun _=>rfl) l k q hq j hj6).trans hj)
 obtain⟨h1,h2⟩:=h64 q (List.mem_of_getElem? hq)
 exact⟨g,0,rfl,hb,hX g rfl,hc 0 _ rfl,h1,q.2,hc 1 _ rfl,h2⟩
theorem qt {w:World}{X:Nat->Prop}{b:Nat}{l:List (IEdge×Value)}{e:TypeId}(h:w.heap[b]? =some (.cells (l.flatMap za).toArray e (0,0)))(hX:¬X b)(h64:∀q∈l,I64 q.1.block/\wm w X q.2 q.1.args)(hl:l.length<=1000000):
 vT w X (.slice (some ⟨b,0,none⟩) l.length l.length) (l.map (·.1)):=by
 refine⟨_,l.length,by rw[List.length_map],by rw[List.length_map];exact Nat.le_refl _,by omega,fun k o hk=>?_⟩
 rw[List.getElem?_map,Option.map_eq_some_iff] at hk
 obtain⟨q,hq,rfl⟩:=hk
 have hc:=fun j v (hj:(za q)[j]? =some v)=>oW (f:=za) (n:=2) (fun _=>rfl) h hq hj
 obtain⟨h1,h2⟩:=h64 q (List.mem_of_getElem? hq)
 exact⟨b,0,rfl,lt_of_block h,hX,hc 0 _ rfl,h1,q.2,hc 1 _ rfl,h2⟩
structure MKC where
 E:ME
 sv:Value
 fpv:Value
 apv:Value
 dv:Value
 bv:Value
 pm:Nat
 pp:Nat
 B:Nat
 Z:Nat->Prop
def MKC.av (K:MKC)(X:Nat->Prop):Nat->Prop:=fun k=>X k∨K.Z k
theorem Stp.av {X X':Nat->Prop}{w w':World}(h:Stp X w X' w')(K:MKC):Stp (K.av X) w (K.av X') w':=
 ⟨h.os,h.tape,h.output,h.size,fun k hk=>hk.elim (fun e=>(h.new k e).elim (fun e=> .inl (.inl e)) .inr) (fun e=> .inl (.inr e)),fun k hk hx=>h.kept k hk (fun e=>hx (.inl e))⟩
structure BM where
 b:IBlk
 pv:Value
 ov:Value
 tv:Value
 ol:List (IOp×Value)
def xG (q:BM):List Value:=[q.pv,q.ov,.int .i64 q.b.term.kind,.int .i64 q.b.term.a,q.tv]
structure BMOk (w:World) (K:MKC) (X:Nat->Prop) (q:BM):Prop where
 k64:I64 q.b.term.kind/\I64 q.b.term.a
 par:wm w (K.av X) q.pv q.b.params
 ops:q.b.ops=q.ol.map (·.1)
 own:w.ownsRow K.B 77 6 q.ov q.ol.length (q.ol.flatMap zU)
 arg:∀o∈q.ol,qN o.1/\wm w (K.av X) o.2 o.1.args
 tos:vT w (K.av X) q.tv q.b.term.to
 inX:∀k,q.ov.ownBlock=some k->X k
theorem BMOk.step {w w':World}{K:MKC}{X X':Nat->Prop}{q:BM}(h:BMOk w K X q)(hs:Stp X w X' w')(hk:∀k,q.ov.ownBlock=some k->w'.heap[k]? =w.heap[k]?)(hx:∀k,X k->X' k):BMOk w' K X' q:=
 ⟨h.k64,h.par.step zn (hs.av K),h.ops,yD h.own hk,fun o ho=>⟨(h.arg o ho).1,(h.arg o ho).2.step zn (hs.av K)⟩,h.tos.step yq (hs.av K),fun k hk=>hx k (h.inX k hk)⟩
def uC (K:MKC)(M:MS)(fv vv:Value):Array Value:=
 #[K.sv,.int .i64 (M.pos:Int),.pointer (some ⟨K.pp,0,none⟩),.int .i64 (K.E.me:Int),fv,.int .i64 (M.cur:Int),.int .i64 (M.next:Int),vv,.int .i64 M.left]
structure MkEnv (w:World) (K:MKC) (X:Nat->Prop):Prop where
 s:zY w K.B K.sv K.E.s
 fpv:∃a c,K.fpv=.slice a K.E.nf c
 prog:w.heap[K.pp]? =some (.cells #[K.fpv,K.apv,.int .i64 0,.int .i64 K.E.handler,K.dv,K.bv] 29 (0,0))
 args:wm w (K.av X) K.apv K.E.args
 data:∃b,K.dv=.slice (some ⟨b,0,none⟩) 3 3/\¬K.av X b/\w.heap[b]? =some (.cells #[.int .i64 (-1),.int .u16 16384,.int .u16 16,.int .i64 (-1),.int .u16 16640,.int .u16 7,.int .i64 0,.int .u16 128,.int .u16 32] 51 (0,0))
 ppX:¬K.av X K.pp
 h64:I64 K.E.handler
 len:K.E.args.length=K.E.nf
 nf:K.E.nf<=4/\K.E.me<K.E.nf
 alt:∀x∈K.E.args,0<=x/\x<4
 zx:∀k,X k->¬K.Z k
 zl:∀k,K.Z k->k<w.heap.size
theorem MkEnv.step {w w':World}{K:MKC}{X X':Nat->Prop}(h:MkEnv w K X)(hs:Stp X w X' w')(hb:Below K.B w w'):MkEnv w' K X':=by
 obtain⟨b,e1,e2,e3⟩:=h.data
 have ha:=hs.av K
 exact⟨h.s.below zO hb,h.fpv,ha.blk h.prog h.ppX,h.args.step zn ha,⟨b,e1,ha.not (lt_of_block e3) e2,ha.blk e3 e2⟩,ha.not (lt_of_block h.prog) h.ppX,h.h64,h.len,h.nf,h.alt,fun k e=>(hs.new k e).elim (h.zx k) (fun e2 e3=>by have:=h.zl k e3;omega),fun k e=>Nat.lt_of_lt_of_le (h.zl k e) hs.size⟩
structure MkIn (w:World) (K:MKC) (X:Nat->Prop) (M:MS) (fv vv:Value) (l:List BM):Prop where
 blk:w.heap[K.pm]? =some (.cells (uC K M fv vv) 120 (0,0))
 own:w.ownsRow K.B 49 5 fv l.length (l.flatMap xG)
 fl:M.f=l.map (·.b)
 bok:∀q∈l,BMOk w K X q
 apart:∀(i j:Nat) (qi qj:BM) (k:Nat),l[i]? =some qi->l[j]? =some qj->qi.ov.ownBlock=some k->qj.ov.ownBlock=some k->i=j
 vown:w.ownsRow K.B 3 1 vv M.vals.length (M.vals.map zN)
 v64:∀x∈M.vals,I64 x
 xm:X K.pm
 xf:∀k,fv.ownBlock=some k->X k
 xv:∀k,vv.ownBlock=some k->X k
 xB:∀k,X k->K.B<=k
 xl:∀k,X k->k<w.heap.size
 env:MkEnv w K X
 bnd:M.sz<=1000000
 lft:6<=M.left+M.pos/\M.left<=6
def wW (w:World)(K:MKC)(X:Nat->Prop)(M:MS):Prop:=∃fv vv l,MkIn w K X M fv vv l
section
variable {w:World} {K:MKC} {X:Nat->Prop} {M:MS} {fv vv:Value} {l:List BM} (h:MkIn w K X M fv vv l)
include h
theorem MkIn.c0:w.cell? ⟨K.pm,0,none⟩=some K.sv:=zA h.blk rfl
theorem MkIn.c1:w.cell? ⟨K.pm,1,none⟩=some (.int .i64 (M.pos:Int)):=zA h.blk rfl
theorem MkIn.c2:w.cell? ⟨K.pm,2,none⟩=some (.pointer (some ⟨K.pp,0,none⟩)):=zA h.blk rfl
theorem MkIn.c3:w.cell? ⟨K.pm,3,none⟩=some (.int .i64 (K.E.me:Int)):=zA h.blk rfl
theorem MkIn.c4:w.cell? ⟨K.pm,4,none⟩=some fv:=zA h.blk rfl
theorem MkIn.c5:w.cell? ⟨K.pm,5,none⟩=some (.int .i64 (M.cur:Int)):=zA h.blk rfl
theorem MkIn.c6:w.cell? ⟨K.pm,6,none⟩=some (.int .i64 (M.next:Int)):=zA h.blk rfl
theorem MkIn.c7:w.cell? ⟨K.pm,7,none⟩=some vv:=zA h.blk rfl
theorem MkIn.c8:w.cell? ⟨K.pm,8,none⟩=some (.int .i64 M.left):=zA h.blk rfl
theorem MkIn.free (i:Nat):w.frozen? ⟨K.pm,i,none⟩=false:=zE h.blk
theorem MkIn.size:K.B<=w.heap.size:=Nat.le_trans (h.xB _ h.xm) (Nat.le_of_lt (h.xl _ h.xm))
theorem MkIn.keep {w':World}(hb:Below w.heap.size w w'):MkIn w' K X M fv vv l:=
 have hs:Stp X w X w':=Stp.of_below hb
 have hk:∀ {v:Value} {e:TypeId} {sz n:Nat} {xs:List Value},w.ownsRow K.B e sz v n xs->∀k,v.ownBlock=some k->w'.heap[k]? =w.heap[k]?:=fun ho k hk=>hb.block k (ho.lt k hk).2
 ⟨zH hb h.blk (lt_of_block h.blk),yD h.own (hk h.own),h.fl,fun q hq=>(h.bok q hq).step hs (hk (h.bok q hq).own) (fun _ e=>e),h.apart,yD h.vown (hk h.vown),h.v64,h.xm,h.xf,h.xv,h.xB,fun k e=>Nat.lt_of_lt_of_le (h.xl k e) hb.size,
  h.env.step hs (hb.mono h.size),h.bnd,h.lft⟩
theorem MkIn.setC (i:Nat)(u:Value)(M':MS)(vv':Value)(hc:(uC K M fv vv).setIfInBounds i u=uC K M' fv vv')(hf:M'.f=M.f)(hv:w.ownsRow K.B 3 1 vv' M'.vals.length (M'.vals.map zN))(h64:∀x∈M'.vals,I64 x)(hxv:∀k,vv'.ownBlock=some k->X k)
 (hbnd:M'.sz<=1000000) (hl:6<=M'.left+M'.pos/\M'.left<=6):MkIn (w.setCell ⟨K.pm,i,none⟩ u) K X M' fv vv' l/\Stp X w X (w.setCell ⟨K.pm,i,none⟩ u):=by
 have hs:Stp X w X (w.setCell ⟨K.pm,i,none⟩ u):=⟨rfl,rfl,rfl,by simp,fun _ h=> .inl h,fun k hk hx=>Below.heap_setCell _ _ _ _ (fun e=>hx (by rw[e];exact h.xm))⟩
 have hne:∀ {v:Value} {e:TypeId} {sz n:Nat} {xs:List Value},w.ownsRow K.B e sz v n xs->e≠120->∀k,v.ownBlock=some k->(w.setCell ⟨K.pm,i,none⟩ u).heap[k]? =w.heap[k]?:=fun ho he k hk=>
  Below.heap_setCell _ _ _ _ (fun e=>zC ho h.blk (.inr he) (by rw[hk];exact congrArg some e))
 refine⟨⟨?_,yD h.own (hne h.own (by decide)),hf.trans h.fl,fun q hq=>(h.bok q hq).step hs (hne (h.bok q hq).own (by decide)) (fun _ e=>e),h.apart,yD hv (hne hv (by decide)),h64,h.xm,h.xf,hxv,h.xB,fun k e=>by simpa using h.xl k e,
  h.env.step hs ((Below.refl _ _).setCell (h.xB _ h.xm) _),hbnd,hl⟩,hs⟩
 rw[zD h.blk,hc]
end
open Go.RowKit
def i4 {α:Type}:List α->Nat->List α->List α
 |xs,_,[]=>xs
 |xs,o,v::vs=>i4 (xs.set o v) (o+1) vs
theorem mV {α:Type}:∀(vs:List α) (xs:List α) (o:Nat),(i4 xs o vs).length=xs.length
 | [],xs,o=>rfl
 |v::vs,xs,o=>(mV vs _ _).trans (by simp)
theorem oq {α:Type}(m:Nat):∀(vs:List α) (xs:List α) (o:Nat),(i4 xs o vs).take m=i4 (xs.take m) o vs
 | [],xs,o=>rfl
 |v::vs,xs,o=>(oq m vs _ _).trans (by rw[List.take_set];rfl)
theorem mg {α:Type}:∀(vs p q r:List α),q.length=vs.length->i4 (p++(q++r)) p.length vs=p++(vs++r)
 | [],p,[],r,_=>rfl
 |v::vs,p,x::q,r,h=>by
  have e:(p++(x::q++r)).set p.length v=(p++ [v])++(q++r):=by
   rw[List.set_append_right _ _ (Nat.le_refl _)]
   simp
  show i4 ((p++(x::q++r)).set p.length v) (p.length+1) vs=_
  rw[e]
  have:=mg vs (p++ [v]) q r (by simpa using h)
  rw[List.length_append,List.length_singleton] at this
  rw[this]
  simp
 | [],p,x::q,r,h=>by simp at h
 |v::vs,p,[],r,h=>by simp at h
theorem wq {α:Type}(f:α->List Value)(n:Nat)(hf:∀a,(f a).length=n):∀l:List α,(l.flatMap f).length=l.length*n
 | []=>by simp
 |a::l=>by rw[List.flatMap_cons,List.length_append,hf,wq f n hf l,List.length_cons,Nat.add_mul];omega
theorem js {α:Type}(f:α->List Value)(n:Nat)(hf:∀a,(f a).length=n)(l:List α)(k:Nat)(b a:α)(hk:l[k]? =some b):i4 (l.flatMap f) (k*n) (f a)=(l.set k a).flatMap f:=by
 have hlt:=(List.getElem?_eq_some_iff.1 hk).1
 have hb:l[k]=b:=(List.getElem?_eq_some_iff.1 hk).2
 have e1:l=l.take k++b::l.drop (k+1):=by
  rw[<-hb,List.getElem_cons_drop,List.take_append_drop]
 have hl:(l.take k).length=k:=by simp;omega
 have e2:l.set k a=l.take k++a::l.drop (k+1):=by
  rw[List.set_eq_take_append_cons_drop,if_pos hlt]
 rw[e2]
 have e3:l.flatMap f=(l.take k).flatMap f++(f b++(l.drop (k+1)).flatMap f):=by
  conv=>lhs;rw[e1]
  rw[List.flatMap_append,List.flatMap_cons]
 have h4:((l.take k).flatMap f).length=k*n:=by rw[wq f n hf,hl]
 rw[e3,List.flatMap_append,List.flatMap_cons,<-h4]
 exact mg _ _ _ _ (by rw[hf,hf])
theorem th (b:Nat)(t:TypeId):∀(vs:List Value) (o:Nat) (w:World) (cur:Array Value),w.heap[b]? =some (.cells cur t (0,0))->(w.setCells b o vs).heap[b]? =some (.cells (i4 cur.toList o vs).toArray t (0,0))
 | [],o,w,cur,h=>by simpa[i4,World.setCells] using h
 |v::vs,o,w,cur,h=>by
  have:=th b t vs (o+1) (w.setCell ⟨b,o,none⟩ v) _ (zD h v)
  rw[Array.toList_setIfInBounds] at this
  exact this
theorem ye (b k:Nat)(hne:k≠b):∀(vs:List Value) (o:Nat) (w:World),(w.setCells b o vs).heap[k]? =w.heap[k]?
 | [],o,w=>rfl
 |v::vs,o,w=>(ye b k hne vs (o+1) _).trans (Below.heap_setCell _ _ _ _ (by simpa using hne))
theorem y8 (b:Nat):∀(vs:List Value) (o:Nat) (w:World),(w.setCells b o vs).heap.size=w.heap.size
 | [],_,_=>rfl
 |v::vs,o,w=>(y8 b vs (o+1) _).trans (by simp)
theorem ze (b:Nat):∀(vs:List Value) (o:Nat) (w:World),(w.setCells b o vs).os=w.os/\(w.setCells b o vs).tape=w.tape/\(w.setCells b o vs).output=w.output
 | [],_,_=>⟨rfl,rfl,rfl⟩
 |v::vs,o,w=>ze b vs (o+1) _
section
variable {α:Type} {f:α->List Value} {n:Nat} {w:World} {base g:Nat} {e:TypeId} {v:Value} {l:List α} {k:Nat} {b:α}
theorem z9 (hf:∀a,(f a).length=n)(h:w.ownsRow base e n v l.length (l.flatMap f))(hg:v.ownBlock=some g)(hk:l[k]? =some b):w.rangeAt g (k*n) (f b):=fun j u hj=>by
 have hjn:j<n:=by rw[<-hf b];exact(List.getElem?_eq_some_iff.1 hj).1
 have h1:=h.cells hg (k*n+j) u ((uB f n hf l k b hk j hjn).trans hj)
 rw[Addr.add_mid,Nat.zero_add] at h1
 exact h1
theorem zq (hn:0<n)(hf:∀a,(f a).length=n)(h:w.ownsRow base e n v l.length (l.flatMap f))(hg:v.ownBlock=some g)(hk:l[k]? =some b):w.there g (k*n) n:=fun j hj=>by
 refine⟨?_,?_⟩
 ·obtain⟨u,hu⟩:∃u,(f b)[j]? =some u:=⟨_,List.getElem?_eq_getElem (by rw[hf];exact hj)⟩
  rw[z9 hf h hg hk j u hu];rfl
 ·rcases h.2 with⟨rfl,_⟩|⟨g',cap,cur,rfl,_,hh,_⟩
  ·simp[Value.ownBlock] at hg
  ·simp[Value.ownBlock] at hg
   subst hg
   exact zE hh
theorem uZ (hf:∀a,(f a).length=n)(h:w.ownsRow base e n v l.length (l.flatMap f))(hg:v.ownBlock=some g)(hk:l[k]? =some b)(a:α):(w.setCells g (k*n) (f a)).ownsRow base e n v l.length ((l.set k a).flatMap f):=by
 refine⟨by rw[wq f n hf,List.length_set],?_⟩
 rcases h.2 with⟨rfl,_⟩|⟨g',cap,cur,rfl,h1,h2,h3,h4,h5,h6⟩
 ·simp[Value.ownBlock] at hg
 ·simp[Value.ownBlock] at hg
  subst hg
  refine .inr ⟨g',cap,_,rfl,h1,th _ _ _ _ _ _ h2,h3,h4,?_,?_⟩
  ·rw[List.size_toArray,mV];simpa using h5
  ·rw[oq,h6]
   exact js f n hf l k b a hk
end
open Go.RowKit
def yk (K:MKC)(X:Nat->Prop)(w:World)(M':MS)(r:Value)(e:Ending)(w':World):Prop:=e=.returned r/\∃X',wW w' K X' M'/\Stp X w X' w'
theorem MkIn.at {w:World}{K:MKC}{X:Nat->Prop}{M:MS}{fv vv:Value}{l:List BM}(h:MkIn w K X M fv vv l):wW w K X M:=⟨fv,vv,l,h⟩
theorem MkIn.ticked {w:World}{K:MKC}{X:Nat->Prop}{M:MS}{fv vv:Value}{l:List BM}(h:MkIn w K X M fv vv l)(hz:M.sz+1<=1000000):MkIn (w.setCell ⟨K.pm,1,none⟩ (.int .i64 ((M.pos:Int)+1))) K X M.tick fv vv l/\Stp X w X (w.setCell ⟨K.pm,1,none⟩ (.int .i64 ((M.pos:Int)+1))):=
 h.setC 1 _ M.tick vv rfl rfl h.vown h.v64 h.xv (by have:=(zT M).sz;omega) (by have:=h.lft;show 6<=M.left+((M.pos+1:Nat):Int)/\M.left<=6;omega)
theorem rK (x:Int)(n:Nat)(hn:0<n)(hn2:n<=1000000):Int.tmod (wrap64 (Int.tmod x n+n)) n=((x%(n:Int)).toNat:Int):=by
 have h1:=Int.tmod_lt_of_pos x (show(0:Int)<n by omega)
 have h2:-(n:Int)<Int.tmod x n:=by
  have:=Int.lt_tmod_of_pos x (show(0:Int)<n by omega)
  omega
 have e:wrap64 (Int.tmod x n+n)=Int.tmod x n+n:=IntWalk.wrap64_in _ (by omega)
 rw[e]
 have h3:=Int.emod_nonneg x (show(n:Int)≠0 by omega)
 have h4:=Int.emod_lt_of_pos x (show(0:Int)<n by omega)
 have e2:Int.tmod (Int.tmod x n+n) n=x%(n:Int):=by
  rw[Int.tmod_eq_emod_of_nonneg (by omega),Int.add_emod_right]
  conv=>rhs;rw[<-Int.tmod_add_mul_tdiv x n]
  rw[Int.add_mul_emod_self_left]
 rw[e2]
 omega
theorem uD {w:World}{K:MKC}{X:Nat->Prop}{M:MS}{fv vv:Value}{l:List BM}(h:MkIn w K X M fv vv l){n:Nat}(hn:0<n)(hn2:n<=1000000)(hz:M.sz+1<=1000000):
 Calls Try.prog 59 #[.pointer (some ⟨K.pm,0,none⟩),.int .i64 (n:Int)] w fun e w'=>e=.returned (.int .i64 (tkV K.E M n:Nat))/\MkIn w' K X M.tick fv vv l/\Stp X w X w':=by
 have hs:=h.env.s
 have c0:=h.c0
 have c1:=h.c1
 obtain⟨sa,sc,hsv,hsl,hsm⟩:=hs.form
 rw[hsv] at c0 hs
 have f1:=h.free 1
 have HT:=Lib.hid (show ∀n,MkIn ((w.drewN n).setCell ⟨K.pm,1,none⟩ (.int .i64 ((M.pos:Int)+1))) K X M.tick fv vv l/\Stp X w X ((w.drewN n).setCell ⟨K.pm,1,none⟩ (.int .i64 ((M.pos:Int)+1))) from fun n=>⟨((h.keep (yL _ w n)).ticked hz).1,(Stp.of_below (yL _ w n)).trans ((h.keep (yL _ w n)).ticked hz).2⟩)
 have hpos:(M.pos:Int)+1<=1000000:=by
  have:M.pos<=M.sz:=by unfold MS.sz;omega
  omega
 clear h
 by_cases hlt:M.pos<K.E.s.length
 ·obtain⟨x,hx⟩:∃x,K.E.s[M.pos]? =some x:=⟨_,List.getElem?_eq_getElem hlt⟩
  obtain⟨b,o,rfl,hb,hc,h64⟩:=hs.get hx
  rw[Nat.mul_one] at hc
  have hI:(M.pos:Int)<(K.E.s.length:Int):=by omega
  have hv:tkV K.E M n=(x%(n:Int)).toNat:=by unfold tkV;rw[List.getD_eq_getElem?_getD,hx];rfl
  have e1:=rK x n hn hn2
  rw[hv]
  have HV:=Lib.hid e1
  clear hs hx hb e1 hv
  go_enter Try.func59,Try.ntmps59
  go_wp2
  go_quiet (fail)
  go_wp2
  go_quiet (fail)
  go_wp2
  go_ret
  exact⟨zh HV.out,(HT.out _).1,(HT.out _).2⟩
 ·have hI:¬(M.pos:Int)<(K.E.s.length:Int):=by omega
  have hv:tkV K.E M n=((0:Int)%(n:Int)).toNat:=by unfold tkV;rw[List.getD_eq_getElem?_getD,List.getElem?_eq_none (by omega)];rfl
  have e1:=rK 0 n hn hn2
  rw[hv]
  have HV:=Lib.hid e1
  clear hs hv e1
  go_enter Try.func59,Try.ntmps59
  go_wp2
  go_quiet (fail)
  go_wp2
  go_ret
  exact⟨zh (by simp),(HT.out _).1,(HT.out _).2⟩
theorem m8 {w:World}{K:MKC}{X:Nat->Prop}{M:MS}(h:wW w K X M){n:Nat}(hn:0<n)(hn2:n<=1000000)(hz:M.sz+1<=1000000):
 Calls Try.prog 59 #[.pointer (some ⟨K.pm,0,none⟩),.int .i64 (n:Int)] w (yk K X w M.tick (.int .i64 (tkV K.E M n:Nat))):=by
 obtain⟨fv,vv,l,h⟩:=h
 refine(uD h hn hn2 hz).mono ?_
 rintro e w' ⟨rfl,h1,h2⟩
 exact⟨rfl,X,h1.at,h2⟩
theorem ot {w:World}{K:MKC}{X:Nat->Prop}{M:MS}{fv vv:Value}{l:List BM}(h:MkIn w K X M fv vv l)(hz:M.sz+1<=1000000):
 Calls Try.prog 90 #[.pointer (some ⟨K.pm,0,none⟩)] w fun e w'=>e=.returned (.int .i64 (M.next:Int))/\w'=w.setCell ⟨K.pm,6,none⟩ (.int .i64 ((M.next+1:Nat):Int)):=by
 have c6:=h.c6
 have f6:=h.free 6
 have hn:(M.next:Int)+1<=1000000:=by
  have:M.next<=M.sz:=by unfold MS.sz;omega
  omega
 have hb:=h.blk
 have c6':(w.setCell ⟨K.pm,6,none⟩ (.int .i64 ((M.next:Int)+1))).cell? ⟨K.pm,6,none⟩=some (.int .i64 ((M.next:Int)+1)):=World.cell?_setCell_same _ _ _ c6
 clear h hb
 go_enter Try.func90,Try.ntmps90
 go_wp2
 go_ret
 refine⟨zh (by omega),?_⟩
 rfl
open Go.RowKit
structure Row where
 v:Value
 e:TypeId
 sz:Nat
 n:Nat
 cs:List Value
def Row.blk (r:Row):Option Nat:=r.v.ownBlock
structure Rows (w:World) (B:Nat) (rs:List Row):Prop where
 own:∀r∈rs,w.ownsRow B r.e r.sz r.v r.n r.cs
 nd:(rs.filterMap Row.blk).Nodup
theorem Rows.perm {w:World}{B:Nat}{rs rs':List Row}(h:Rows w B rs)(hp:rs.Perm rs'):Rows w B rs':=
 ⟨fun r hr=>h.own r (hp.mem_iff.2 hr),(hp.filterMap Row.blk).nodup_iff.1 h.nd⟩
theorem Rows.lt {w:World}{B:Nat}{rs:List Row}(h:Rows w B rs){k:Nat}(hk:k∈rs.filterMap Row.blk):B<=k/\k<w.heap.size:=by
 obtain⟨r,hr,e⟩:=List.mem_filterMap.1 hk
 exact(h.own r hr).lt k e
theorem Rows.keep {w w':World}{B:Nat}{rs:List Row}(h:Rows w B rs)(hk:∀k∈rs.filterMap Row.blk,w'.heap[k]? =w.heap[k]?):Rows w' B rs:=
 ⟨fun r hr=>yD (h.own r hr) (fun k e=>hk k (List.mem_filterMap.2 ⟨r,hr,e⟩)),h.nd⟩
theorem Rows.below {w w':World}{B:Nat}{rs:List Row}(h:Rows w B rs)(hb:Below w.heap.size w w'):Rows w' B rs:=h.keep fun k hk=>hb.block k (h.lt hk).2
theorem Rows.base {w:World}{B B':Nat}{rs:List Row}(h:Rows w B rs)(hB:B'<=B):Rows w B' rs:=⟨fun r hr=>vY (h.own r hr) hB,h.nd⟩
theorem Rows.tail {w:World}{B:Nat}{r:Row}{rs:List Row}(h:Rows w B (r::rs)):Rows w B rs:=by
 refine⟨fun x hx=>h.own x (List.mem_cons_of_mem _ hx),?_⟩
 have:=h.nd
 rw[List.filterMap_cons] at this
 split at this
 ·exact this
 ·exact(List.nodup_cons.1 this).2
theorem Rows.right {w:World}{B:Nat}{rs rs':List Row}(h:Rows w B (rs++rs')):Rows w B rs':=by
 induction rs with
 |nil=>exact h
 |cons r rs ih=>exact ih h.tail
theorem Rows.apart {w:World}{B:Nat}{r:Row}{rs:List Row}(h:Rows w B (r::rs)){g:Nat}(hg:r.blk=some g):g ∉ rs.filterMap Row.blk:=by
 have:=h.nd
 rw[List.filterMap_cons,hg] at this
 exact(List.nodup_cons.1 this).1
theorem Rows.cons {w:World}{B:Nat}{r:Row}{rs:List Row}(h:Rows w B rs)(hr:w.ownsRow B r.e r.sz r.v r.n r.cs)(hn:∀g,r.blk=some g->g ∉ rs.filterMap Row.blk):Rows w B (r::rs):=by
 refine⟨fun x hx=>?_,?_⟩
 ·rcases List.mem_cons.1 hx with rfl|hx
  ·exact hr
  ·exact h.own x hx
 ·rw[List.filterMap_cons]
  split
  ·exact h.nd
  ·rename_i g hg
   exact List.nodup_cons.2 ⟨hn g hg,h.nd⟩
theorem Rows.nil {w:World}{B:Nat}:Rows w B []:=⟨fun r hr=>by simp at hr,by simp⟩
theorem Rows.append {w w':World}{B:Nat}{rs rs':List Row}(h:Rows w B rs)(h':Rows w' w.heap.size rs')(hb:Below w.heap.size w w')(hB:B<=w.heap.size):Rows w' B (rs'++rs):=by
 have h1:=h.below hb
 have h2:=h'.base hB
 refine⟨fun r hr=>(List.mem_append.1 hr).elim (h2.own r) (h1.own r),?_⟩
 rw[List.filterMap_append]
 refine List.nodup_append.2 ⟨h'.nd,h.nd,fun a ha b hb' e=>?_⟩
 have e1:=(h'.lt ha).1
 have e2:=(h.lt hb').2
 omega
theorem Rows.grow {w w1 w':World}{B:Nat}{r r':Row}{rs:List Row}(h:Rows w B (r::rs))(hb:Below w.heap.size w w1)(hg:w1.grownBy w' r.blk)(hown:w'.ownsRow B r'.e r'.sz r'.v r'.n r'.cs)(hat:∀k,r'.blk=some k->r.blk=some k∨w.heap.size<=k):Rows w' B (r'::rs):=by
 have ht:Rows w' B rs:=h.tail.keep fun k hk=>(hg.block k (Nat.lt_of_lt_of_le (h.tail.lt hk).2 hb.size) (fun e=>h.apart e.symm hk)).trans (hb.block k (h.tail.lt hk).2)
 refine ht.cons hown fun g e hg2=>?_
 rcases hat g e with e2|e2
 ·exact h.apart e2 hg2
 ·have:=(h.tail.lt hg2).2
  omega
theorem Rows.put {w w':World}{B:Nat}{r r':Row}{rs:List Row}(h:Rows w B (r::rs)){g:Nat}(hg:r.blk=some g)(hk:∀k,k≠g->w'.heap[k]? =w.heap[k]?)(hown:w'.ownsRow B r'.e r'.sz r'.v r'.n r'.cs)(hv:r'.v=r.v):Rows w' B (r'::rs):=by
 have ht:Rows w' B rs:=h.tail.keep fun k hk2=>hk k (fun e=>h.apart hg (by rw[<-e];exact hk2))
 refine ht.cons hown fun g2 e hg2=>?_
 refine h.apart (g:=g2) ?_ hg2
 unfold Row.blk at e ⊢
 rw[<-hv]
 exact e
structure BT where
 params:List Int
 pv:Value
 ops:List (IOp×Value)
 ov:Value
 kind:Int
 a:Int
 tos:List (IEdge×Value)
 tv:Value
structure FT where
 blks:List BT
 bv:Value
structure PT where
 funcs:List FT
 fv:Value
 args:List Int
 av:Value
 data:List IObj
 dv:Value
 banks:List ByteArray
 bv:Value
 entry:Int
 handler:Int
def BT.blk (b:BT):IBlk:=⟨b.params,b.ops.map (·.1),⟨b.kind,b.a,b.tos.map (·.1)⟩⟩
def zz (b:BT):List Value:=[b.pv,b.ov,.int .i64 b.kind,.int .i64 b.a,b.tv]
def FT.fn (f:FT):List IBlk:=f.blks.map BT.blk
def PT.prog (t:PT):IProg:=⟨t.funcs.map FT.fn,t.args,t.entry,t.handler,t.data,t.banks⟩
def PT.V (t:PT):PV:=⟨t.fv,t.av,t.dv,t.bv⟩
def zP (v:Value)(xs:List Int):Row:=⟨v,3,1,xs.length,xs.map zN⟩
def yo (v:Value)(l:List (IOp×Value)):Row:=⟨v,77,6,l.length,l.flatMap zU⟩
def xg (v:Value)(l:List (IEdge×Value)):Row:=⟨v,75,2,l.length,l.flatMap za⟩
def zd (v:Value)(l:List BT):Row:=⟨v,49,5,l.length,l.flatMap zz⟩
def xP (o:IObj):List Value:=[.int .i64 o.bank,.int .u16 (o.addr:Int),.int .u16 (o.size:Int)]
def wY (v:Value)(l:List FT):Row:=⟨v,43,1,l.length,l.map (·.bv)⟩
def vK (v:Value)(l:List IObj):Row:=⟨v,51,3,l.length,l.flatMap xP⟩
def v8 (v:Value)(l:List ByteArray):Row:=⟨v,9,1,l.length,l.map .string⟩
def wI (l:List (IOp×Value)):List Row:=l.map fun o=>zP o.2 o.1.args
def ve (l:List (IEdge×Value)):List Row:=l.map fun o=>zP o.2 o.1.args
def BT.rows (b:BT):List Row:=zP b.pv b.params::yo b.ov b.ops::xg b.tv b.tos::(wI b.ops++ve b.tos)
def FT.rows (f:FT):List Row:=zd f.bv f.blks::f.blks.flatMap BT.rows
def PT.rows (t:PT):List Row:=wY t.fv t.funcs::zP t.av t.args::vK t.dv t.data::v8 t.bv t.banks::t.funcs.flatMap FT.rows
structure B64 (b:IBlk):Prop where
 par:∀x∈b.params,I64 x
 ops:∀o∈b.ops,qN o/\∀x∈o.args,I64 x
 term:I64 b.term.kind/\I64 b.term.a
 tos:∀e∈b.term.to,I64 e.block/\∀x∈e.args,I64 x
structure P64 (p:IProg):Prop where
 funcs:∀f∈p.funcs,∀b∈f,B64 b
 args:∀x∈p.args,I64 x
 data:∀o∈p.data,I64 o.bank/\o.addr<65536/\o.size<65536
 banks:∀s∈p.banks,s.size<=9223372036854775807
 ent:I64 p.entry
 hnd:I64 p.handler
theorem wC {α β:Type}{sz:Nat}{f:β->List Value}{g:β->α}{R:World->Nat->Nat->Nat->α->Prop}(hsz:0<sz)(hf:∀a,(f a).length=sz){w:World}{S:Nat}{e:TypeId}{v:Value}{l:List β}(h:w.ownsRow S e sz v l.length (l.flatMap f))
 (hR:∀q∈l,∀b o,(∀j u,(f q)[j]? =some u->w.cell? ⟨b,o+j,none⟩=some u)->R w w.heap.size b o (g q)):yN sz R w w.heap.size v (l.map g):=by
 obtain⟨a,c,rfl⟩:=zG h
 have hl:=zm h
 refine⟨a,c,by rw[List.length_map],by rw[List.length_map];exact hl.1,by omega,fun k o hk=>?_⟩
 rw[List.getElem?_map,Option.map_eq_some_iff] at hk
 obtain⟨q,hq,rfl⟩:=hk
 have hkl:=(List.getElem?_eq_some_iff.1 hq).1
 obtain⟨gg,cap,e,hg,hb⟩:=h.form (by omega)
 cases e
 refine⟨gg,0,rfl,hb,hR q (List.mem_of_getElem? hq) _ _ fun j u hj=>?_⟩
 have hjs:j<sz:=by rw[<-hf q];exact(List.getElem?_eq_some_iff.1 hj).1
 rw[Nat.zero_add]
 exact(h.cellAt (k*sz+j) (by
  have:(k+1)*sz<=l.length*sz:=Nat.mul_le_mul_right sz hkl
  rw[Nat.add_mul] at this
  omega)).trans ((uB f sz hf l k q hq j hjs).trans hj)
theorem pT {w:World}{B:Nat}{v:Value}{xs:List Int}(h:w.ownsRow B 3 1 v xs.length (xs.map zN))(h64:∀x∈xs,I64 x):zY w w.heap.size v xs:=by
 have h2:w.ownsRow B 3 1 v xs.length (xs.flatMap fun x=> [zN x]):=by rw[<-List.map_eq_flatMap];exact h
 have:=wC (sz:=1) (f:=fun x:Int=> [zN x]) (R:=IntR) (g:=fun x:Int=>x) (by decide) (fun _=>rfl) h2 (fun q hq b o hc=>⟨hc 0 _ rfl,h64 q hq⟩)
 rw[List.map_id'] at this
 exact this
theorem z7 (q:IOp×Value):(zU q).length=6:=rfl
theorem yd (q:IEdge×Value):(za q).length=2:=rfl
theorem zX (q:BT):(zz q).length=5:=rfl
theorem sk (q:IObj):(xP q).length=3:=rfl
theorem BT.in {w:World}{B:Nat}{b:BT}(h:∀r∈b.rows,w.ownsRow B r.e r.sz r.v r.n r.cs)(h64:B64 b.blk):zY w w.heap.size b.pv b.params/\mN w w.heap.size b.ov (b.ops.map (·.1))/\wH w w.heap.size b.tv (b.tos.map (·.1)):=by
 unfold BT.rows at h
 refine⟨pT (h _ (.head _)) h64.par,?_,?_⟩
 ·refine wC (by decide) z7 (h _ (.tail _ (.head _))) fun q hq b2 o hc=>?_
  have h1:=h64.ops q.1 (List.mem_map_of_mem hq)
  exact⟨hc 0 _ rfl,hc 1 _ rfl,hc 2 _ rfl,hc 3 _ rfl,hc 4 _ rfl,h1.1,q.2,hc 5 _ rfl,pT (h (zP q.2 q.1.args) (.tail _ (.tail _ (.tail _ (List.mem_append_left _ (List.mem_map_of_mem hq)))))) h1.2⟩
 ·refine wC (by decide) yd (h _ (.tail _ (.tail _ (.head _)))) fun q hq b2 o hc=>?_
  have h1:=h64.tos q.1 (List.mem_map_of_mem hq)
  exact⟨hc 0 _ rfl,h1.1,q.2,hc 1 _ rfl,pT (h (zP q.2 q.1.args) (.tail _ (.tail _ (.tail _ (List.mem_append_right _ (List.mem_map_of_mem hq)))))) h1.2⟩
theorem FT.in {w:World}{B:Nat}{f:FT}(h:∀r∈f.rows,w.ownsRow B r.e r.sz r.v r.n r.cs)(h64:∀b∈f.fn,B64 b):wX w w.heap.size f.bv f.fn:=by
 unfold FT.rows at h
 refine wC (by decide) zX (h _ (.head _)) fun q hq b2 o hc=>?_
 have hb:=h64 q.blk (List.mem_map_of_mem hq)
 have h1:=BT.in (w:=w) (B:=B) (b:=q) (fun r hr=>h r (.tail _ (List.mem_flatMap.2 ⟨q,hq,hr⟩))) hb
 exact⟨hc 2 _ rfl,hc 3 _ rfl,hb.term,q.pv,q.ov,q.tv,hc 0 _ rfl,hc 1 _ rfl,hc 4 _ rfl,h1.1,h1.2.1,h1.2.2⟩
theorem PT.in {w:World}{B:Nat}{t:PT}(h:Rows w B t.rows)(h64:P64 t.prog):ProgIn w w.heap.size t.V t.prog:=by
 have h:=h.own
 unfold PT.rows at h
 refine⟨?_,pT (h _ (.tail _ (.head _))) h64.args,?_,?_,h64.ent,h64.hnd⟩
 ·have h1:w.ownsRow B 43 1 t.fv t.funcs.length (t.funcs.flatMap fun f=> [f.bv]):=by rw[<-List.map_eq_flatMap];exact h _ (.head _)
  refine wC (sz:=1) (f:=fun f:FT=> [f.bv]) (g:=FT.fn) (by decide) (fun _=>rfl) h1 fun q hq b2 o hc=>?_
  exact⟨q.bv,hc 0 _ rfl,FT.in (B:=B) (fun r hr=>h r (.tail _ (.tail _ (.tail _ (.tail _ (List.mem_flatMap.2 ⟨q,hq,hr⟩)))))) (h64.funcs q.fn (List.mem_map_of_mem hq))⟩
 ·have:=wC (sz:=3) (f:=xP) (R:=ObjR) (g:=fun x:IObj=>x) (by decide) sk (h (vK t.dv t.data) (.tail _ (.tail _ (.head _)))) (fun q hq b o hc=>?_)
  ·rw[List.map_id'] at this
   exact this
  ·have h1:=h64.data q hq
   exact⟨hc 0 _ rfl,hc 1 _ rfl,hc 2 _ rfl,h1.1,h1.2.1,h1.2.2⟩
 ·have h1:w.ownsRow B 9 1 t.bv t.banks.length (t.banks.flatMap fun s=> [.string s]):=by rw[<-List.map_eq_flatMap];exact h _ (.tail _ (.tail _ (.tail _ (.head _))))
  have:=wC (sz:=1) (f:=fun s:ByteArray=> [.string s]) (R:=StrR) (g:=fun x:ByteArray=>x) (by decide) (fun _=>rfl) h1 (fun q hq b o hc=>⟨hc 0 _ rfl,h64.banks q hq⟩)
  rw[List.map_id'] at this
  exact this
open Go.RowKit
def ni (c:Int):Bool:=decide (1<=c) && (decide (c<=17) && decide (c≠8))
theorem om (c:Int):(¬1<=c/\ni c=false)∨(1<=c/\¬c<=17/\ni c=false)∨(1<=c/\c<=17/\c=8/\ni c=false)∨(1<=c/\c<=17/\c≠8/\ni c=true):=by
 unfold ni
 by_cases h1:1<=c
 ·by_cases h2:c<=17
  ·by_cases h3:c=8
   ·exact .inr (.inr (.inl ⟨h1,h2,h3,by simp[h3]⟩))
   ·exact .inr (.inr (.inr ⟨h1,h2,h3,by simp[h1,h2,h3]⟩))
  ·exact .inr (.inl ⟨h1,h2,by simp[h2]⟩)
 ·exact .inl ⟨h1,by simp[h1]⟩
theorem oM (w:World)(c r a b n:Value)(av:Value)(ci:Int)(hc:c=.int .i64 ci):Calls Try.prog 42 #[.agg #[c,r,a,b,n,av]] w (ym w (ni ci)):=by
 subst hc
 rcases om ci with⟨h1,hp⟩|⟨h1,h2,hp⟩|⟨h1,h2,h3,hp⟩|⟨h1,h2,h3,hp⟩
 ·rw[hp]
  have b1:decide (1<=ci)=false:=by rw[decide_eq_false_iff_not];exact h1
  clear hp
  go_enter Try.func42,Try.ntmps42
  go_wp2
  go_ret
  exact⟨rfl,(Below.refl _ _).alloc (Nat.le_refl _) _⟩
 ·rw[hp]
  have b1:decide (1<=ci)=true:=by rw[decide_eq_true_iff];exact h1
  have b2:decide (ci<=17)=false:=by rw[decide_eq_false_iff_not];exact h2
  clear hp
  go_enter Try.func42,Try.ntmps42
  go_wp2
  go_ret
  exact⟨rfl,(Below.refl _ _).alloc (Nat.le_refl _) _⟩
 ·rw[hp]
  subst h3
  clear hp
  go_enter Try.func42,Try.ntmps42
  go_wp2
  go_ret
  exact⟨rfl,(Below.refl _ _).alloc (Nat.le_refl _) _⟩
 ·rw[hp]
  have b1:decide (1<=ci)=true:=by rw[decide_eq_true_iff];exact h1
  have b2:decide (ci<=17)=true:=by rw[decide_eq_true_iff];exact h2
  have b3:(ci !=8)=true:=by rw[bne_iff_ne];exact h3
  have b4:(ci==8)=false:=by rw[beq_eq_false_iff_ne];exact h3
  clear hp
  go_enter Try.func42,Try.ntmps42
  go_wp2
  go_ret
  exact⟨rfl,(Below.refl _ _).alloc (Nat.le_refl _) _⟩
theorem mx (w:World)(c r a b n:Value)(av:Value)(ci:Int)(hc:c=.int .i64 ci):Calls Try.prog 43 #[.agg #[c,r,a,b,n,av]] w (ym w (ni ci)):=by
 subst hc
 rcases om ci with⟨h1,hp⟩|⟨h1,h2,hp⟩|⟨h1,h2,h3,hp⟩|⟨h1,h2,h3,hp⟩
 ·rw[hp]
  have b1:decide (1<=ci)=false:=by rw[decide_eq_false_iff_not];exact h1
  clear hp
  go_enter Try.func43,Try.ntmps43
  go_wp2
  go_ret
  exact⟨rfl,(Below.refl _ _).alloc (Nat.le_refl _) _⟩
 ·rw[hp]
  have b1:decide (1<=ci)=true:=by rw[decide_eq_true_iff];exact h1
  have b2:decide (ci<=17)=false:=by rw[decide_eq_false_iff_not];exact h2
  clear hp
  go_enter Try.func43,Try.ntmps43
  go_wp2
  go_ret
  exact⟨rfl,(Below.refl _ _).alloc (Nat.le_refl _) _⟩
 ·rw[hp]
  subst h3
  clear hp
  go_enter Try.func43,Try.ntmps43
  go_wp2
  go_ret
  exact⟨rfl,(Below.refl _ _).alloc (Nat.le_refl _) _⟩
 ·rw[hp]
  have b1:decide (1<=ci)=true:=by rw[decide_eq_true_iff];exact h1
  have b2:decide (ci<=17)=true:=by rw[decide_eq_true_iff];exact h2
  have b3:(ci !=8)=true:=by rw[bne_iff_ne];exact h3
  have b4:(ci==8)=false:=by rw[beq_eq_false_iff_ne];exact h3
  clear hp
  go_enter Try.func43,Try.ntmps43
  go_wp2
  go_ret
  exact⟨rfl,(Below.refl _ _).alloc (Nat.le_refl _) _⟩
def incI (x:Int):Int:=wrap64 (x+1)
def qK (n:Int)(l:List Int):Int:=l.foldl (fun n v=>max n (incI v)) n
def o8 (n:Int)(l:List IOp):Int:=l.foldl (fun n o=>max n (incI o.res)) n
def iL (n:Int)(b:IBlk):Int:=o8 (qK n b.params) b.ops
def countF (blocks:List IBlk):Int:=blocks.foldl iL 0
theorem wt {α β:Type}(f:β->α->β)(z:β){l:List α}{k:Nat}{x:α}(h:l[k]? =some x):(l.take (k+1)).foldl f z=f ((l.take k).foldl f z) x:=by
 rw[List.take_add_one,h,List.foldl_append];rfl
theorem mZ (a b:Int):(if a<b then b else a)=max a b:=by
 rw[Int.max_def]
 split<;>split<;>omega
def RetInt (w:World)(x:Int)(e:Ending)(w':World):Prop:=e=.returned (.int .i64 x)/\Below w.heap.size w w'
theorem jr {w:World}{B:Nat}{fbv:Value}{blocks:List IBlk}(hbl:wX w B fbv blocks)(hB:B<=w.heap.size)(hs:vZ blocks):
 Calls Try.prog 41 #[.agg #[fbv]] w (RetInt w (countF blocks)):=by
 obtain⟨fa,fc,rfl,hfc,hfm⟩:=hbl.form
 have hl0:=hs.1
 have HBL:=Lib.hid (And.intro hbl (And.intro hB hs))
 have hb1:Below w.heap.size w (w.alloc (.cells #[.slice fa blocks.length fc] 43)):=(Below.refl _ _).alloc (Nat.le_refl _) _
 have hx1:=zI (W:=w) (o:=.cells #[.slice fa blocks.length fc] 43) rfl
 obtain⟨fb,hfb⟩:∃fb,w.heap.size=fb:=⟨_,rfl⟩
 clear hbl hB hs
 go_enter Try.func41,Try.ntmps41
 go_upto_region 1 with fail
 generalize hW1:w.alloc (.cells #[.slice fa blocks.length fc] 43)=W1 at *
 rw[hfb] at hx1
 have H1:=Lib.hid (And.intro hb1 (And.intro hx1 hfb))
 clear hb1 hx1 hW1 hfb
 go_wp2
 go_loopw [3,4] (fun nv kv wx=>∃(k:Nat) (n:Int),k<=blocks.length/\nv=.int .i64 n/\kv=.int .i64 (k:Int)/\Hid (n=(blocks.take k).foldl iL 0/\Below W1.heap.size W1 wx)) (fun _ kv _=>blocks.length-(intOf kv).toNat)
 case atStart=>exact⟨0,0,Nat.zero_le _,rfl,rfl,Lib.hid ⟨rfl,Below.refl _ _⟩⟩
 case round=>
  obtain⟨k,n,hk,rfl,rfl,HK⟩:=hrel
  have hx2:=zH HK.out.2 H1.out.2.1 (lt_of_block H1.out.2.1)
  have c0:=zA (i:=0) hx2 rfl
  have hfl:=lt_of_block hx2
  by_cases hlt:k<blocks.length
  ·have hltI:(k:Int)<(blocks.length:Int):=by omega
   obtain⟨b,hb⟩:∃b,blocks[k]? =some b:=⟨_,List.getElem?_eq_getElem hlt⟩
   have hin:wX wr B (.slice fa blocks.length fc) blocks:=(HBL.out.1.below yT ((H1.out.1.trans (HK.out.2.mono H1.out.1.size)).mono HBL.out.2.1))
   obtain⟨bb,bo,hfa,hbB,g2,g3,h64,pv,ov,tv,g0,g1,g4,hpar,hops,htos⟩:=hin.get hb
   obtain⟨pa,pc,rfl,hpc,hpm⟩:=hpar.form
   obtain⟨oa,oc,rfl,hoc,hom⟩:=hops.form
   obtain⟨ta,tc,rfl,htc,htm⟩:=htos.form
   have hbl2:bb<wr.heap.size:=Nat.lt_of_lt_of_le hbB (by have:=HBL.out.2.1;have:=(H1.out.1.trans (HK.out.2.mono H1.out.1.size)).size;omega)
   have hbs:=HBL.out.2.2.2 b (List.mem_of_getElem? hb)
   have hba:Below wr.heap.size wr (wr.alloc (.cells #[.slice pa b.params.length pc,.slice oa b.ops.length oc,.int .i64 b.term.kind,.int .i64 b.term.a,.slice ta b.term.to.length tc] 49)):=(Below.refl _ _).alloc (Nat.le_refl _) _
   have hxa:=zI (W:=wr) (o:=.cells #[.slice pa b.params.length pc,.slice oa b.ops.length oc,.int .i64 b.term.kind,.int .i64 b.term.a,.slice ta b.term.to.length tc] 49) rfl
   subst hfa
   have hpl:=hbs.1
   have hol:=hbs.2.1
   obtain⟨tb,htb⟩:∃tb,wr.heap.size=tb:=⟨_,rfl⟩
   have HT:=Lib.hid htb
   clear hin hbs
   go_upto_region 6 with fail
   generalize hW5:wr.alloc (.cells #[.slice pa b.params.length pc,.slice oa b.ops.length oc,.int .i64 b.term.kind,.int .i64 b.term.a,.slice ta b.term.to.length tc] 49)=W5 at *
   rw[htb] at hxa
   have t0:=zA (i:=0) hxa rfl
   have t1:=zA (i:=1) hxa rfl
   have htl:=lt_of_block hxa
   have hcB:∀q,B<=q->Below q wr W5->True:=fun _ _ _=>trivial
   have hp5:=(hpar.below zO (hba.mono (show B<=wr.heap.size by have:=HBL.out.2.1;have:=(H1.out.1.trans (HK.out.2.mono H1.out.1.size)).size;omega)))
   have ho5:=(hops.below xA (hba.mono (show B<=wr.heap.size by have:=HBL.out.2.1;have:=(H1.out.1.trans (HK.out.2.mono H1.out.1.size)).size;omega)))
   have hb5:=HK.out.2.trans (hba.mono HK.out.2.size)
   have H5:=Lib.hid (And.intro hp5 (And.intro ho5 (And.intro hb5 hb)))
   have hBs:B<=wr.heap.size:=by have:=HBL.out.2.1;have:=(H1.out.1.trans (HK.out.2.mono H1.out.1.size)).size;omega
   have hsz5:wr.heap.size<=W5.heap.size:=hba.size
   clear hcB hp5 ho5 hb5 hb hpar hops htos hba hxa g0 g1 g2 g3 g4 h64 hx2 htb hW5
   go_wp2
   go_loop [3,6] (fun nv jv=>∃(j:Nat) (m:Int),j<=b.params.length/\nv=.int .i64 m/\jv=.int .i64 (j:Int)/\Hid (m=qK n (b.params.take j))) (fun _ jv=>b.params.length-(intOf jv).toNat)
   case atStart=>exact⟨0,n,Nat.zero_le _,rfl,rfl,Lib.hid rfl⟩
   case round=>
    obtain⟨j,m,hj,rfl,rfl,HM⟩:=hrel
    by_cases hjl:j<b.params.length
    ·have hjI:(j:Int)<(b.params.length:Int):=by omega
     obtain⟨x,hx⟩:∃x,b.params[j]? =some x:=⟨_,List.getElem?_eq_getElem hjl⟩
     obtain⟨pb,po,hpa,hpB,hxc,hx64⟩:=H5.out.1.get hx
     rw[Nat.mul_one] at hxc
     subst hpa
     have hpbl:pb<W5.heap.size:=by omega
     have HX:=Lib.hid hx
     clear hx hx64
     go_wp2
     go_round
     case rel=>
      refine⟨j+1,_,hjl,rfl,by go_num,Lib.hid ?_⟩
      unfold qK
      rw[wt _ _ HX.out,mZ,HM.out]
      rfl
     case measure=>simp[intOf];omega
    ·obtain rfl:j=b.params.length:=by omega
     have hjI:¬(b.params.length:Int)<(b.params.length:Int):=by omega
     have HM2:=Lib.hid (show m=qK n b.params by rw[HM.out,List.take_length])
     clear hj HM hjl
     go_wp2
     go_loop [3,7] (fun nv jv=>∃(j:Nat) (m2:Int),j<=b.ops.length/\nv=.int .i64 m2/\jv=.int .i64 (j:Int)/\Hid (m2=o8 m (b.ops.take j))) (fun _ jv=>b.ops.length-(intOf jv).toNat)
     case atStart=>exact⟨0,m,Nat.zero_le _,rfl,rfl,Lib.hid rfl⟩
     case round=>
      obtain⟨j,m2,hj,rfl,rfl,HM⟩:=hrel
      by_cases hjl:j<b.ops.length
      ·have hjI:(j:Int)<(b.ops.length:Int):=by omega
       obtain⟨x,hx⟩:∃x,b.ops[j]? =some x:=⟨_,List.getElem?_eq_getElem hjl⟩
       obtain⟨pb,po,hpa,hpB,_,hxc,_⟩:=H5.out.2.1.get hx
       subst hpa
       have hpbl:pb<W5.heap.size:=by omega
       have HX:=Lib.hid hx
       clear hx
       go_wp2
       go_round
       case rel=>
        refine⟨j+1,_,hjl,rfl,by go_num,Lib.hid ?_⟩
        unfold o8
        rw[wt _ _ HX.out,mZ,HM.out]
        rfl
       case measure=>simp[intOf];omega
      ·obtain rfl:j=b.ops.length:=by omega
       have hjI2:¬(b.ops.length:Int)<(b.ops.length:Int):=by omega
       clear hj hjl
       go_wp2
       go_roundw
       case rel=>
        refine⟨k+1,m2,hlt,rfl,by go_num,Lib.hid ⟨?_,H5.out.2.2.1⟩⟩
        rw[wt _ _ H5.out.2.2.2,<-HK.out.1,HM.out,List.take_length,HM2.out]
        rfl
       case measure=>simp[intOf];omega
  ·obtain rfl:k=blocks.length:=by omega
   have hltI:¬(blocks.length:Int)<(blocks.length:Int):=by omega
   clear hx2
   go_wp2
   go_ret
   refine⟨?_,H1.out.1.trans (HK.out.2.mono H1.out.1.size)⟩
   rw[HK.out.1,List.take_length]
   rfl
theorem ls {w:World}{B:Nat}{fbv:Value}{blocks:List IBlk}(hbl:wX w B fbv blocks)(hB:B<=w.heap.size)(hs:vZ blocks):
 Calls Try.prog 40 #[.agg #[fbv]] w (RetInt w (countF blocks)):=by
 obtain⟨fa,fc,rfl,hfc,hfm⟩:=hbl.form
 have hl0:=hs.1
 have HBL:=Lib.hid (And.intro hbl (And.intro hB hs))
 have hb1:Below w.heap.size w (w.alloc (.cells #[.slice fa blocks.length fc] 43)):=(Below.refl _ _).alloc (Nat.le_refl _) _
 have hx1:=zI (W:=w) (o:=.cells #[.slice fa blocks.length fc] 43) rfl
 obtain⟨fb,hfb⟩:∃fb,w.heap.size=fb:=⟨_,rfl⟩
 clear hbl hB hs
 go_enter Try.func40,Try.ntmps40
 go_upto_region 1 with fail
 generalize hW1:w.alloc (.cells #[.slice fa blocks.length fc] 43)=W1 at *
 rw[hfb] at hx1
 have H1:=Lib.hid (And.intro hb1 (And.intro hx1 hfb))
 have c1:=zA (i:=0) hx1 rfl
 have hfl1:=lt_of_block hx1
 clear hb1 hx1 hW1 hfb
 go_wp2
 go_loopw [3,13] (fun nv kv wx=>∃(k:Nat) (n:Int),k<=blocks.length/\nv=.int .i64 n/\kv=.int .i64 (k:Int)/\Hid (n=(blocks.take k).foldl iL 0/\Below W1.heap.size W1 wx)) (fun _ kv _=>blocks.length-(intOf kv).toNat)
 case atStart=>exact⟨0,0,Nat.zero_le _,rfl,rfl,Lib.hid ⟨rfl,Below.refl _ _⟩⟩
 case round=>
  obtain⟨k,n,hk,rfl,rfl,HK⟩:=hrel
  have hx2:=zH HK.out.2 H1.out.2.1 (lt_of_block H1.out.2.1)
  have c0:=zA (i:=0) hx2 rfl
  have hfl:=lt_of_block hx2
  by_cases hlt:k<blocks.length
  ·have hltI:(k:Int)<(blocks.length:Int):=by omega
   obtain⟨b,hb⟩:∃b,blocks[k]? =some b:=⟨_,List.getElem?_eq_getElem hlt⟩
   have hin:wX wr B (.slice fa blocks.length fc) blocks:=(HBL.out.1.below yT ((H1.out.1.trans (HK.out.2.mono H1.out.1.size)).mono HBL.out.2.1))
   obtain⟨bb,bo,hfa,hbB,g2,g3,h64,pv,ov,tv,g0,g1,g4,hpar,hops,htos⟩:=hin.get hb
   obtain⟨pa,pc,rfl,hpc,hpm⟩:=hpar.form
   obtain⟨oa,oc,rfl,hoc,hom⟩:=hops.form
   obtain⟨ta,tc,rfl,htc,htm⟩:=htos.form
   have hbl2:bb<wr.heap.size:=Nat.lt_of_lt_of_le hbB (by have:=HBL.out.2.1;have:=(H1.out.1.trans (HK.out.2.mono H1.out.1.size)).size;omega)
   have hbs:=HBL.out.2.2.2 b (List.mem_of_getElem? hb)
   have hba:Below wr.heap.size wr (wr.alloc (.cells #[.slice pa b.params.length pc,.slice oa b.ops.length oc,.int .i64 b.term.kind,.int .i64 b.term.a,.slice ta b.term.to.length tc] 49)):=(Below.refl _ _).alloc (Nat.le_refl _) _
   have hxa:=zI (W:=wr) (o:=.cells #[.slice pa b.params.length pc,.slice oa b.ops.length oc,.int .i64 b.term.kind,.int .i64 b.term.a,.slice ta b.term.to.length tc] 49) rfl
   subst hfa
   have hpl:=hbs.1
   have hol:=hbs.2.1
   obtain⟨tb,htb⟩:∃tb,wr.heap.size=tb:=⟨_,rfl⟩
   have HT:=Lib.hid htb
   clear hin hbs
   go_upto_region 5 with fail
   generalize hW5:wr.alloc (.cells #[.slice pa b.params.length pc,.slice oa b.ops.length oc,.int .i64 b.term.kind,.int .i64 b.term.a,.slice ta b.term.to.length tc] 49)=W5 at *
   rw[htb] at hxa
   have t0:=zA (i:=0) hxa rfl
   have t1:=zA (i:=1) hxa rfl
   have htl:=lt_of_block hxa
   have hcB:∀q,B<=q->Below q wr W5->True:=fun _ _ _=>trivial
   have hp5:=(hpar.below zO (hba.mono (show B<=wr.heap.size by have:=HBL.out.2.1;have:=(H1.out.1.trans (HK.out.2.mono H1.out.1.size)).size;omega)))
   have ho5:=(hops.below xA (hba.mono (show B<=wr.heap.size by have:=HBL.out.2.1;have:=(H1.out.1.trans (HK.out.2.mono H1.out.1.size)).size;omega)))
   have hb5:=HK.out.2.trans (hba.mono HK.out.2.size)
   have H5:=Lib.hid (And.intro hp5 (And.intro ho5 (And.intro hb5 hb)))
   have hBs:B<=wr.heap.size:=by have:=HBL.out.2.1;have:=(H1.out.1.trans (HK.out.2.mono H1.out.1.size)).size;omega
   have hsz5:wr.heap.size<=W5.heap.size:=hba.size
   have hBs5:B<=W5.heap.size:=by omega
   clear hcB hp5 ho5 hb5 hb hpar hops htos hba hxa g0 g1 g2 g3 g4 h64 hx2 htb hW5
   go_wp2
   go_loop [3,20] (fun nv jv=>∃(j:Nat) (m:Int),j<=b.params.length/\nv=.int .i64 m/\jv=.int .i64 (j:Int)/\Hid (m=qK n (b.params.take j))) (fun _ jv=>b.params.length-(intOf jv).toNat)
   case atStart=>exact⟨0,n,Nat.zero_le _,rfl,rfl,Lib.hid rfl⟩
   case round=>
    obtain⟨j,m,hj,rfl,rfl,HM⟩:=hrel
    by_cases hjl:j<b.params.length
    ·have hjI:(j:Int)<(b.params.length:Int):=by omega
     obtain⟨x,hx⟩:∃x,b.params[j]? =some x:=⟨_,List.getElem?_eq_getElem hjl⟩
     obtain⟨pb,po,hpa,hpB,hxc,hx64⟩:=H5.out.1.get hx
     rw[Nat.mul_one] at hxc
     subst hpa
     have hpbl:pb<W5.heap.size:=by omega
     have HX:=Lib.hid hx
     clear hx hx64
     go_wp2
     go_round
     case rel=>
      refine⟨j+1,_,hjl,rfl,by go_num,Lib.hid ?_⟩
      unfold qK
      rw[wt _ _ HX.out,mZ,HM.out]
      rfl
     case measure=>simp[intOf];omega
    ·obtain rfl:j=b.params.length:=by omega
     have hjI:¬(b.params.length:Int)<(b.params.length:Int):=by omega
     have HM2:=Lib.hid (show m=qK n b.params by rw[HM.out,List.take_length])
     clear hj HM hjl
     go_wp2
     go_loopw [3,32] (fun nv jv wx=>∃(j:Nat) (m2:Int),j<=b.ops.length/\nv=.int .i64 m2/\jv=.int .i64 (j:Int)/\Hid (m2=o8 m (b.ops.take j)/\Below W5.heap.size W5 wx)) (fun _ jv _=>b.ops.length-(intOf jv).toNat)
     case atStart=>exact⟨0,m,Nat.zero_le _,rfl,rfl,Lib.hid ⟨rfl,Below.refl _ _⟩⟩
     case round=>
      obtain⟨j,m2,hj,rfl,rfl,HM⟩:=hrel
      by_cases hjl:j<b.ops.length
      ·have hjI:(j:Int)<(b.ops.length:Int):=by omega
       obtain⟨x,hx⟩:∃x,b.ops[j]? =some x:=⟨_,List.getElem?_eq_getElem hjl⟩
       have hops2:=H5.out.2.1.below xA (HM.out.2.mono hBs5)
       obtain⟨pb,po,hpa,hpB,x0,x1,x2,x3,x4,x64,av,x5,hav⟩:=hops2.get hx
       obtain⟨aa,ac,rfl,_,_⟩:=hav.form
       subst hpa
       have hszr:=HM.out.2.size
       have hpbl:pb<wr.heap.size:=by omega
       have HX:=Lib.hid hx
       clear hx hops2 hav x64
       go_wp2
       go_roundw
       case rel=>
        refine⟨j+1,_,hjl,rfl,by go_num,Lib.hid ⟨?_,HM.out.2.alloc hszr _⟩⟩
        unfold o8
        rw[wt _ _ HX.out,mZ,HM.out.1]
        rfl
       case measure=>simp[intOf];omega
      ·obtain rfl:j=b.ops.length:=by omega
       have hjI2:¬(b.ops.length:Int)<(b.ops.length:Int):=by omega
       clear hj hjl
       go_wp2
       go_roundw
       case rel=>
        refine⟨k+1,m2,hlt,rfl,by go_num,Lib.hid ⟨?_,H5.out.2.2.1.trans (HM.out.2.mono H5.out.2.2.1.size)⟩⟩
        rw[wt _ _ H5.out.2.2.2,<-HK.out.1,HM.out.1,List.take_length,HM2.out]
        rfl
       case measure=>simp[intOf];omega
  ·obtain rfl:k=blocks.length:=by omega
   have hltI:¬(blocks.length:Int)<(blocks.length:Int):=by omega
   clear hx2
   go_wp2
   go_ret
   refine⟨?_,H1.out.1.trans (HK.out.2.mono H1.out.1.size)⟩
   rw[HK.out.1,List.take_length]
   rfl
open Go.RowKit
abbrev GR:=List Int×Value
def pU (v:Value)(l:List GR):Row:=⟨v,22,1,l.length,l.map (·.2)⟩
def sp (l:List GR):List Row:=l.map fun q=>zP q.2 q.1
def pV (w:World)(B:Nat)(v:Value)(rows:List (List Int)):Prop:=∃l:List GR,l.map (·.1)=rows/\Rows w B (pU v l::sp l)
def RetGraph (w:World)(rows:List (List Int))(e:Ending)(w':World):Prop:=∃a n c,e=.returned (.agg #[.slice a n c])/\pV w' w.heap.size (.slice a n c) rows/\Below w.heap.size w w'
theorem ne_type7 {w:World}{a b:Nat}{ca cb:Array Value}{ta tb:TypeId}(ha:w.heap[a]? =some (.cells ca ta (0,0)))(hb:w.heap[b]? =some (.cells cb tb (0,0)))(hne:ta≠tb):a≠b:=fun e=>by
 subst e
 rw[ha] at hb
 injection hb with h3
 injection h3 with _ h4
 exact hne h4
theorem rowI_get {b:IBlk}{k:Nat}{e:IEdge}(h:b.term.to[k]? =some e):(tW b).take (k+1)=(tW b).take k++ [e.block]:=by
 unfold tW
 rw[List.take_add_one,List.getElem?_map,h]
 rfl
theorem lZ {l:List IBlk}{k:Nat}{b:IBlk}(h:l[k]? =some b):(zk l).take (k+1)=(zk l).take k++ [tW b]:=by
 unfold zk
 rw[List.take_add_one,List.getElem?_map,h]
 rfl
structure GrMid (w:World) (fb g2 g3:Nat) (fv gv lv:Value) (l:List GR) (xs:List Int) (wx:World):Prop where
 h1:wx.heap[fb]? =some (.cells #[fv] 43 (0,0))
 h2:wx.heap[g2]? =some (.cells #[.slice none 0 0] 93 (0,0))
 h3:wx.heap[g3]? =some (.cells #[gv] 93 (0,0))
 bel:Below fb w wx
 rows:Rows wx fb (zP lv xs::pU gv l::sp l)
 ges:fb<=g2/\fb<=g3/\g2≠g3/\fb≠g3
 sz:fb<=wx.heap.size
theorem GrMid.next {w:World}{fb g2 g3:Nat}{fv gv lv lv':Value}{l:List GR}{xs:List Int}{wx w9:World}(h:GrMid w fb g2 g3 fv gv lv l xs wx){o:Obj}{x:Int}(hg:(wx.alloc o).grownBy w9 lv.ownBlock)
 (hown:w9.ownsRow fb 3 1 lv' (xs.length+1) (xs.map zN++ [zN x])) (hat:lv'.ownBlock=lv.ownBlock∨lv'.ownBlock=some (wx.alloc o).heap.size):GrMid w fb g2 g3 fv gv lv' l (xs++ [x]) w9:=by
 have ho:=h.rows.own _ (.head _)
 have hb:∀ {b:Nat} {cs:Array Value} {t:TypeId},wx.heap[b]? =some (.cells cs t (0,0))->3≠t->w9.heap[b]? =some (.cells cs t (0,0)):=fun hb hne=>zL hg (zB hb) (zC ho hb (.inr hne))
 have hba:Below wx.heap.size wx (wx.alloc o):=(Below.refl _ _).alloc (Nat.le_refl _) _
 have hsz:wx.heap.size<=w9.heap.size:=by have:=hg.size;simp at this;omega
 refine⟨hb h.h1 (by decide),hb h.h2 (by decide),hb h.h3 (by decide),?_,?_,h.ges,Nat.le_trans h.sz hsz⟩
 ·exact h.bel.trans ⟨hg.os,hg.tape,hg.output,hsz,fun k hk=>(hg.block k (by simp;have:=h.sz;omega) (fun e=>by have:=(ho.lt k e.symm).1;omega)).trans (hba.block k (by have:=h.sz;omega))⟩
 ·refine h.rows.grow (r':=zP lv' (xs++ [x])) hba hg ?_ (fun k e=>?_)
  ·show w9.ownsRow fb 3 1 lv' (xs++ [x]).length ((xs++ [x]).map zN)
   rw[List.length_append,List.length_singleton,List.map_append]
   exact hown
  ·rcases hat with e2|e2
   ·exact .inl (e2.symm.trans e)
   ·right
    have e3:=e2.symm.trans e
    simp at e3
    omega
theorem GrMid.close {w:World}{fb g2 g3:Nat}{fv gv gv' lv:Value}{l:List GR}{xs:List Int}{wx w9:World}(h:GrMid w fb g2 g3 fv gv lv l xs wx){o:Obj}(hg:(wx.alloc o).grownBy w9 gv.ownBlock)
 (hown:w9.ownsRow fb 22 1 gv' (l.length+1) (l.map (·.2)++ [lv])) (hat:gv'.ownBlock=gv.ownBlock∨gv'.ownBlock=some (wx.alloc o).heap.size) (u:Value):
 (w9.setCell ⟨g3,0,none⟩ u).heap[fb]? =some (.cells #[fv] 43 (0,0))/\(w9.setCell ⟨g3,0,none⟩ u).heap[g2]? =some (.cells #[.slice none 0 0] 93 (0,0))/\(w9.setCell ⟨g3,0,none⟩ u).heap[g3]? =some (.cells #[u] 93 (0,0))/\Below fb w (w9.setCell ⟨g3,0,none⟩ u)/\
  Rows (w9.setCell ⟨g3,0,none⟩ u) fb (pU gv' (l++ [(xs,lv)])::sp (l++ [(xs,lv)])):=by
 have ho:=h.rows.own (pU gv l) (.tail _ (.head _))
 have hb:∀ {b:Nat} {cs:Array Value} {t:TypeId},wx.heap[b]? =some (.cells cs t (0,0))->22≠t->w9.heap[b]? =some (.cells cs t (0,0)):=fun hb hne=>zL hg (zB hb) (zC ho hb (.inr hne))
 have hba:Below wx.heap.size wx (wx.alloc o):=(Below.refl _ _).alloc (Nat.le_refl _) _
 have hsz:wx.heap.size<=w9.heap.size:=by have:=hg.size;simp at this;omega
 have hb3:=hb h.h3 (by decide)
 refine⟨zR (hb h.h1 (by decide)) h.ges.2.2.2,zR (hb h.h2 (by decide)) h.ges.2.2.1,by rw[zD hb3];rfl,?_,?_⟩
 ·exact(h.bel.trans ⟨hg.os,hg.tape,hg.output,hsz,fun k hk=>(hg.block k (by simp;have:=h.sz;omega) (fun e=>by have:=(ho.lt k e.symm).1;omega)).trans (hba.block k (by have:=h.sz;omega))⟩).setCell h.ges.2.1 _
 ·have h1:=(h.rows.perm (List.Perm.swap _ _ _)).grow (r':=pU gv' (l++ [(xs,lv)])) hba hg (by
   show w9.ownsRow fb 22 1 gv' (l++ [(xs,lv)]).length ((l++ [(xs,lv)]).map (·.2))
   rw[List.length_append,List.length_singleton,List.map_append]
   exact hown) (fun k e=>by
   rcases hat with e2|e2
   ·exact .inl (e2.symm.trans e)
   ·right
    have e3:=e2.symm.trans e
    simp at e3
    omega)
  have h2:Rows w9 fb (pU gv' (l++ [(xs,lv)])::sp (l++ [(xs,lv)])):=h1.perm (List.Perm.cons _ (by
   unfold sp
   rw[List.map_append]
   exact(List.perm_append_singleton _ _).symm))
  refine h2.keep fun k hk=>Below.heap_setCell _ _ _ _ (fun e=>?_)
  obtain⟨r,hr,hrk⟩:=List.mem_filterMap.1 hk
  have e':k=g3:=e
  subst e'
  have hrt:93≠r.e:=by
   rcases List.mem_cons.1 hr with rfl|hr
   ·show 93≠22;decide
   ·unfold sp at hr
    obtain⟨q,_,rfl⟩:=List.mem_map.1 hr
    show 93≠3;decide
  exact zC (h2.own r hr) hb3 (.inr (fun e=>hrt e.symm)) hrk
theorem kn {w:World}{B:Nat}{fbv:Value}{blocks:List IBlk}(hbl:wX w B fbv blocks)(hB:B<=w.heap.size)(hs:vZ blocks):
 Calls Try.prog 39 #[.agg #[fbv]] w (RetGraph w (zk blocks)):=by
 obtain⟨fa,fc,rfl,hfc,hfm⟩:=hbl.form
 have hl0:=hs.1
 have HBL:=Lib.hid (And.intro hbl (And.intro hB hs))
 obtain⟨fb,hfb⟩:∃fb,w.heap.size=fb:=⟨_,rfl⟩
 have hb1:Below w.heap.size w (((w.alloc (.cells #[.slice fa blocks.length fc] 43)).alloc (.cells #[.slice none 0 0] 93)).alloc (.cells #[.slice none 0 0] 93)):=(((Below.refl _ _).alloc (Nat.le_refl _) _).alloc (by simp) _).alloc (by simp;omega) _
 have hx1:=zB (o:=.cells #[.slice none 0 0] 93) (zB (o:=.cells #[.slice none 0 0] 93) (zI (W:=w) (o:=.cells #[.slice fa blocks.length fc] 43) rfl))
 have hx2:=zB (o:=.cells #[.slice none 0 0] 93) (zI (W:=w.alloc (.cells #[.slice fa blocks.length fc] 43)) (o:=.cells #[.slice none 0 0] 93) rfl)
 have hx3:=zI (W:=(w.alloc (.cells #[.slice fa blocks.length fc] 43)).alloc (.cells #[.slice none 0 0] 93)) (o:=.cells #[.slice none 0 0] 93) rfl
 have hs1:(w.alloc (.cells #[.slice fa blocks.length fc] 43)).heap.size=w.heap.size+1:=by simp
 have hs2:((w.alloc (.cells #[.slice fa blocks.length fc] 43)).alloc (.cells #[.slice none 0 0] 93)).heap.size=w.heap.size+1+1:=by simp
 rw[hs1] at hx2
 rw[hs2] at hx3
 clear hbl hB hs hs1 hs2
 go_enter Try.func39,Try.ntmps39
 go_upto_region 2 with fail
 generalize hW1:((w.alloc (.cells #[.slice fa blocks.length fc] 43)).alloc (.cells #[.slice none 0 0] 93)).alloc (.cells #[.slice none 0 0] 93)=W1 at *
 rw[hfb] at hx1 hx2 hx3
 generalize hg3:fb+1+1=g3 at *
 generalize hg2:fb+1=g2 at *
 have hne:g2≠g3/\fb<=g2/\fb<=g3:=by omega
 have H1:=Lib.hid (And.intro hb1 (And.intro hx1 (And.intro hx2 (And.intro hx3 (And.intro hfb hne)))))
 clear hb1 hx1 hx2 hx3 hW1 hfb hg2 hg3 hne
 go_wp2
 go_loopw [4] (fun kv wx=>∃(k:Nat) (a:Option Addr) (n c:Nat),k<=blocks.length/\kv=.int .i64 (k:Int)/\Hid (wx.heap[fb]? =some (.cells #[.slice fa blocks.length fc] 43 (0,0))/\wx.heap[g2]? =some (.cells #[.slice none 0 0] 93 (0,0))/\wx.heap[g3]? =some (.cells #[.slice a n c] 93 (0,0))/\Below fb w wx/\pV wx fb (.slice a n c) ((zk blocks).take k))) (fun kv _=>blocks.length-(intOf kv).toNat)
 case atStart=>exact⟨0,none,0,0,Nat.zero_le _,rfl,Lib.hid ⟨H1.out.2.1,H1.out.2.2.1,H1.out.2.2.2.1,by rw[<-H1.out.2.2.2.2.1];exact H1.out.1,[],rfl,Rows.nil.cons (World.ownsRow_nil _ _ _ _) (fun g e=>by simp[Row.blk,pU,Value.ownBlock] at e)⟩⟩
 case round=>
  obtain⟨k,a,n,c,hk,rfl,HK⟩:=hrel
  have c0:=zA (i:=0) HK.out.1 rfl
  have hfl:=lt_of_block HK.out.1
  by_cases hlt:k<blocks.length
  ·have hltI:(k:Int)<(blocks.length:Int):=by omega
   obtain⟨b,hb⟩:∃b,blocks[k]? =some b:=⟨_,List.getElem?_eq_getElem hlt⟩
   obtain⟨l,hl,hrows⟩:=HK.out.2.2.2.2
   have hfw:fb=w.heap.size:=H1.out.2.2.2.2.1.symm
   have hgm:GrMid w fb g2 g3 (.slice fa blocks.length fc) (.slice a n c) (.slice none 0 0) l [] wr:=⟨HK.out.1,HK.out.2.1,HK.out.2.2.1,HK.out.2.2.2.1,hrows.cons (World.ownsRow_nil _ _ _ _) (fun g e=>by simp[Row.blk,zP,Value.ownBlock] at e),⟨H1.out.2.2.2.2.2.2.1,H1.out.2.2.2.2.2.2.2,H1.out.2.2.2.2.2.1,fun e=>ne_type7 HK.out.1 HK.out.2.2.1 (by decide) e⟩,Nat.le_of_lt hfl⟩
   have HG0:=Lib.hid hgm
   have HL:=Lib.hid (And.intro hl hb)
   have hbs:=HBL.out.2.2.2 b (List.mem_of_getElem? hb)
   have htl:=hbs.2.2
   have HIN:=Lib.hid (show ∀wx,Below fb w wx->wX wx B (.slice fa blocks.length fc) blocks/\B<=wx.heap.size from fun wx hbx=>⟨HBL.out.1.below yT (hbx.mono (by rw[hfw];exact HBL.out.2.1)),Nat.le_trans HBL.out.2.1 hbx.size⟩)
   clear hl hrows hgm hb hbs hfw
   go_wp2
   clear c0 hfl
   go_loopw [5,6] (fun lv jv wx=>∃(j:Nat) (la:Option Addr) (lc:Nat),j<=b.term.to.length/\lv=.slice la j lc/\jv=.int .i64 (j:Int)/\Hid (GrMid w fb g2 g3 (.slice fa blocks.length fc) (.slice a n c) (.slice la j lc) l ((tW b).take j) wx)) (fun _ jv _=>b.term.to.length-(intOf jv).toNat)
   case atStart=>exact⟨0,none,0,Nat.zero_le _,rfl,rfl,HG0⟩
   case round=>
    obtain⟨j,la,lc,hj,rfl,rfl,HM⟩:=hrel
    have c0:=zA (i:=0) HM.out.h1 rfl
    have hfl:=lt_of_block HM.out.h1
    obtain⟨hin,hBs⟩:=HIN.out _ HM.out.bel
    obtain⟨bb,bo,hfa,hbB,g2c,g3c,h64,pv,ov,tv,g0,g1,g4,hpar,hops,htos⟩:=hin.get HL.out.2
    obtain⟨ta,tc,rfl,htc,htm⟩:=htos.form
    subst hfa
    have hbl2:bb<wr.heap.size:=by omega
    by_cases hjl:j<b.term.to.length
    ·have hjI:(j:Int)<(b.term.to.length:Int):=by omega
     obtain⟨e,he⟩:∃e,b.term.to[j]? =some e:=⟨_,List.getElem?_eq_getElem hjl⟩
     obtain⟨eb,eo,hta,heB,hec,he64,_⟩:=htos.get he
     subst hta
     have hebl:eb<wr.heap.size:=by omega
     have hown:=HM.out.rows.own _ (.head _)
     have hlen:((tW b).take j).length=j:=te hj
     have hown2:wr.ownsRow fb 3 1 (.slice la j lc) j (((tW b).take j).map zN):=by
      have h:=hown
      show wr.ownsRow fb 3 1 (.slice la j lc) j _
      unfold zP at h
      simp only at h
      rw[hlen] at h
      exact h
     have HO:=Lib.hid (And.intro hown2 (And.intro hlen he))
     have hfs:fb<=wr.heap.size:=by omega
     obtain⟨ij,hij,hzj0,hzj1,hzj2⟩:=info_parts Try.info_int
     clear hown hlen hown2 he hpar hops htos hin he64 g0 g1 g2c g3c h64
     go_wp2_with (at_builtin;go_must (refine zK _ rfl (.tmp 26) (.tmp 38) 22 rfl fb 3 ij (.int .i64 0) 1 8 Try.underlying22 hij hzj0 hzj1 hzj2 rfl (by decide) (.slice la j lc) j (((tW b).take j).map zN) rfl (HO.out.1.alloc _) _ 1 [zN e.block] rfl (yM.one (zI rfl) rfl) (by unfold maxLen;omega) (by omega) (by simp;omega) ?_;intro v9 w9 hown9 hgrow9 hat9;obtain⟨ra9,rc9,rfl⟩:=zG hown9;have HG9:=Lib.hid (And.intro hown9 (And.intro hgrow9 hat9));clear hown9 hgrow9 hat9))
     go_roundw
     case rel=>
      refine⟨j+1,ra9,rc9,hjl,rfl,by go_num,Lib.hid ?_⟩
      rw[rowI_get HO.out.2.2]
      exact HM.out.next HG9.out.2.1 (by rw[HO.out.2.1];exact HG9.out.1) HG9.out.2.2
     case measure=>simp[intOf];omega
    ·obtain rfl:j=b.term.to.length:=by omega
     have hjI:¬(b.term.to.length:Int)<(b.term.to.length:Int):=by omega
     have hxs:(tW b).take b.term.to.length=tW b:=List.take_of_length_le (by unfold tW;simp)
     have hgm:=HM.out
     rw[hxs] at hgm
     have hl3:=zA (i:=0) hgm.h3 rfl
     have hl3l:=lt_of_block hgm.h3
     have hownh:=hgm.rows.own (pU (.slice a n c) l) (.tail _ (.head _))
     obtain⟨a',c',hac⟩:=zG hownh
     have hnl:n=l.length:=by
      simp only[pU] at hac
      cases hac
      rfl
     subst hnl
     have hown2:wr.ownsRow fb 22 1 (.slice a l.length c) l.length (l.map (·.2)):=hownh
     have hll:l.length<=2000000:=by
      have h1:=congrArg List.length HL.out.1
      rw[List.length_map,List.length_take] at h1
      omega
     have HO:=Lib.hid (And.intro hgm hown2)
     have hfs:fb<=wr.heap.size:=by omega
     obtain⟨ik,hik,hzk0,hzk1,hzk2⟩:=info_parts Try.info_ints
     clear hxs hgm hownh hac hown2 hpar hops htos hin g0 g1 g2c g3c h64
     go_wp2_with (at_builtin;go_must (refine zK _ rfl (.tmp 41) (.tmp 43) 91 rfl fb 22 ik (.slice none 0 0) 1 24 Try.underlying91 hik hzk0 hzk1 hzk2 rfl (by decide) (.slice a l.length c) l.length (l.map (·.2)) rfl (HO.out.2.alloc _) _ 1 [.slice la b.term.to.length lc] rfl (yM.one (zI rfl) rfl) (by unfold maxLen;omega) (by omega) (by simp;omega) ?_;intro v9 w9 hown9 hgrow9 hat9;obtain⟨ra9,rc9,rfl⟩:=zG hown9;have hp9:=zL hgrow9 (zB HO.out.1.h3) (zC HO.out.2 HO.out.1.h3 (.inr (by decide)));have p9c:=zA (i:=0) hp9 rfl;have p9f:w9.frozen? ⟨g3,0,none⟩=false:=zE hp9;have hp9l:=lt_of_block hp9;have HG9:=Lib.hid (And.intro hown9 (And.intro hgrow9 hat9));clear hown9 hgrow9 hat9 hp9))
     go_roundw
     case rel=>
      have hcl:=HO.out.1.close HG9.out.2.1 HG9.out.1 HG9.out.2.2 (.slice ra9 (l.length+1) rc9)
      refine⟨k+1,ra9,l.length+1,rc9,hlt,by go_num,Lib.hid ⟨hcl.1,hcl.2.1,hcl.2.2.1,hcl.2.2.2.1,l++ [(tW b,.slice la b.term.to.length lc)],?_,hcl.2.2.2.2⟩⟩
      rw[lZ HL.out.2,List.map_append,HL.out.1]
      rfl
     case measure=>simp[intOf];omega
  ·obtain rfl:k=blocks.length:=by omega
   have hltI:¬(blocks.length:Int)<(blocks.length:Int):=by omega
   have d0:=zA (i:=0) HK.out.2.2.1 rfl
   have hgl:=lt_of_block HK.out.2.2.1
   have e0:=zA (i:=0) HK.out.2.1 rfl
   have hgl2:=lt_of_block HK.out.2.1
   have ef:wr.frozen? ⟨g2,0,none⟩=false:=zE HK.out.2.1
   go_wp2
   have hbf:=HK.out.2.2.2.1
   have hgo:=HK.out.2.2.2.2
   have hfw:=H1.out.2.2.2.2.1
   have hxg:=zD (i:=0) HK.out.2.1 (.slice a n c)
   have x0:=zA (i:=0) hxg rfl
   have hxl:=lt_of_block hxg
   refine bodyPost_ret (v:=.agg #[.slice a n c]) ?_ rfl ?_
   ·rw[zM rfl]
    go_simp
   ·refine⟨a,n,c,rfl,?_,?_⟩
    ·obtain⟨l,hl,hr⟩:=hgo
     refine⟨l,by rw[hl,List.take_of_length_le (by unfold zk;simp)],?_⟩
     rw[hfw]
     refine hr.keep fun q hq=>Below.heap_setCell _ _ _ _ (fun e=>?_)
     obtain⟨r,hr2,hrk⟩:=List.mem_filterMap.1 hq
     have e':q=g2:=e
     subst e'
     have hrt:r.e≠93:=by
      rcases List.mem_cons.1 hr2 with rfl|hr2
      ·show 22≠93;decide
      ·unfold sp at hr2
       obtain⟨p,_,rfl⟩:=List.mem_map.1 hr2
       show 3≠93;decide
     exact zC (hr.own r hr2) HK.out.2.1 (.inr hrt) hrk
    ·rw[hfw]
     exact hbf.setCell H1.out.2.2.2.2.2.2.1 _
end Go.Proofs.Ytojclalkfhoooaa
