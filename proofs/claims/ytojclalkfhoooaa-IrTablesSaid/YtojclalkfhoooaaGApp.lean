/- Part of a proof. -/
import Derived.Test.YtojclalkfhoooaaGMap
import Derived.Test.YtojclalkfhoooaaIData
import Derived.Test.YtojclalkfhoooaaOrd2
import Derived.Maps.AppendAt
set_option linter.unusedSimpArgs false
set_option linter.unusedVariables false
namespace Go.Proofs.Ytojclalkfhoooaa
open Go.RowKit
def I64 (x:Int):Prop:=-9223372036854775808<=x/\x<=9223372036854775807
def wz (n:Nat):Value:=.int .u8 (n:Int)
def vL (n:Nat):Value:=.int .u16 (n:Int)
theorem p7 {w w':World}{base C:Nat}{e:TypeId}{size n:Nat}{v:Value}{xs:List Value}(h:w.ownsRow base e size v n xs)(hb:Below C w w')(hC:w.heap.size<=C):w'.ownsRow base e size v n xs:=by
 refine⟨h.1,?_⟩
 rcases h.2 with h2|⟨g,cap,cur,rfl,hg,hh,r⟩
 ·exact .inl h2
 ·exact .inr ⟨g,cap,cur,rfl,hg,zH hb hh (by have:=lt_of_block hh;omega),r⟩
def yN {α:Type}(sz:Nat)(R:World->Nat->Nat->Nat->α->Prop)(w:World)(B:Nat)(v:Value)(xs:List α):Prop:=
 ∃(a:Option Addr) (cap:Nat),v=.slice a xs.length cap/\xs.length<=cap/\cap<=9223372036854775807/\∀(k:Nat) (x:α),xs[k]? =some x->∃b o,a=some ⟨b,o,none⟩/\b<B/\R w B b (o+k*sz) x
def vV {α:Type}(R:World->Nat->Nat->Nat->α->Prop):Prop:=(∀w w' B b q x,b<B->Below B w w'->R w B b q x->R w' B b q x)/\∀w B B' b q x,B<=B'->R w B b q x->R w B' b q x
theorem yN.below {α:Type}{sz:Nat}{R:World->Nat->Nat->Nat->α->Prop}(hR:vV R){w w':World}{B:Nat}{v:Value}{xs:List α}(h:yN sz R w B v xs)(hb:Below B w w'):yN sz R w' B v xs:=by
 obtain⟨a,cap,rfl,h1,h2,h3⟩:=h
 refine⟨a,cap,rfl,h1,h2,fun k x hk=>?_⟩
 obtain⟨b,o,h4,h5,h6⟩:=h3 k x hk
 exact⟨b,o,h4,h5,hR.1 _ _ _ _ _ _ h5 hb h6⟩
theorem yN.mono {α:Type}{sz:Nat}{R:World->Nat->Nat->Nat->α->Prop}(hR:vV R){w:World}{B B':Nat}{v:Value}{xs:List α}(h:yN sz R w B v xs)(hb:B<=B'):yN sz R w B' v xs:=by
 obtain⟨a,cap,rfl,h1,h2,h3⟩:=h
 refine⟨a,cap,rfl,h1,h2,fun k x hk=>?_⟩
 obtain⟨b,o,h4,h5,h6⟩:=h3 k x hk
 exact⟨b,o,h4,by omega,hR.2 _ _ _ _ _ _ hb h6⟩
theorem yN.form {α:Type}{sz:Nat}{R:World->Nat->Nat->Nat->α->Prop}{w:World}{B:Nat}{v:Value}{xs:List α}(h:yN sz R w B v xs):∃a cap,v=.slice a xs.length cap/\xs.length<=cap/\cap<=9223372036854775807:=
 let⟨a,cap,e,h1,h2,_⟩:=h;⟨a,cap,e,h1,h2⟩
theorem yN.get {α:Type}{sz:Nat}{R:World->Nat->Nat->Nat->α->Prop}{w:World}{B:Nat}{a:Option Addr}{n cap:Nat}{xs:List α}(h:yN sz R w B (.slice a n cap) xs){k:Nat}{x:α}(hk:xs[k]? =some x):
 ∃b o,a=some ⟨b,o,none⟩/\b<B/\R w B b (o+k*sz) x:=by
 obtain⟨a',cap',e,_,_,h3⟩:=h
 cases e
 exact h3 k x hk
def IntR (w:World)(B b q:Nat)(x:Int):Prop:=w.cell? ⟨b,q,none⟩=some (.int .i64 x)/\I64 x
def U16R (w:World)(B b q:Nat)(x:Nat):Prop:=w.cell? ⟨b,q,none⟩=some (.int .u16 (x:Int))/\x<65536
def U8R (w:World)(B b q:Nat)(x:Nat):Prop:=w.cell? ⟨b,q,none⟩=some (.int .u8 (x:Int))/\x<256
def StrR (w:World)(B b q:Nat)(x:ByteArray):Prop:=w.cell? ⟨b,q,none⟩=some (.string x)/\x.size<=9223372036854775807
theorem zV {B:Nat}{w w':World}(hb:Below B w w'){b q:Nat}(hB:b<B){v:Value}(h:w.cell? ⟨b,q,none⟩=some v):w'.cell? ⟨b,q,none⟩=some v:=(hb.cell (p:=⟨b,q,none⟩) hB).trans h
theorem zO:vV IntR:=⟨fun w w' B b q x hB hb h=>⟨zV hb hB h.1,h.2⟩,fun w B B' b q x _ h=>h⟩
theorem zr:vV U16R:=⟨fun w w' B b q x hB hb h=>⟨zV hb hB h.1,h.2⟩,fun w B B' b q x _ h=>h⟩
theorem xQ:vV U8R:=⟨fun w w' B b q x hB hb h=>⟨zV hb hB h.1,h.2⟩,fun w B B' b q x _ h=>h⟩
theorem tN:vV StrR:=⟨fun w w' B b q x hB hb h=>⟨zV hb hB h.1,h.2⟩,fun w B B' b q x _ h=>h⟩
abbrev zY:=yN 1 IntR
abbrev wV:=yN 1 U16R
abbrev i5:=yN 1 U8R
abbrev ky:=yN 1 StrR
def ObjR (w:World)(B b q:Nat)(x:IObj):Prop:=
 w.cell? ⟨b,q,none⟩=some (.int .i64 x.bank)/\w.cell? ⟨b,q+1,none⟩=some (.int .u16 (x.addr:Int))/\w.cell? ⟨b,q+2,none⟩=some (.int .u16 (x.size:Int))/\I64 x.bank/\x.addr<65536/\x.size<65536
theorem tZ:vV ObjR:=⟨fun w w' B b q x hB hb h=>⟨zV hb hB h.1,zV hb hB h.2.1,zV hb hB h.2.2.1,h.2.2.2⟩,fun w B B' b q x _ h=>h⟩
abbrev kq:=yN 3 ObjR
def IEdgeR (w:World)(B b q:Nat)(x:IEdge):Prop:=
 w.cell? ⟨b,q,none⟩=some (.int .i64 x.block)/\I64 x.block/\∃av,w.cell? ⟨b,q+1,none⟩=some av/\zY w B av x.args
theorem xL:vV IEdgeR:=
 ⟨fun w w' B b q x hB hb h=>by obtain⟨h1,h2,av,h3,h4⟩:=h;exact⟨zV hb hB h1,h2,av,zV hb hB h3,h4.below zO hb⟩,
  fun w B B' b q x hB h=>by obtain⟨h1,h2,av,h3,h4⟩:=h;exact⟨h1,h2,av,h3,h4.mono zO hB⟩⟩
abbrev wH:=yN 2 IEdgeR
def OpR (w:World)(B b q:Nat)(x:IOp):Prop:=
 w.cell? ⟨b,q,none⟩=some (.int .i64 x.code)/\w.cell? ⟨b,q+1,none⟩=some (.int .i64 x.res)/\w.cell? ⟨b,q+2,none⟩=some (.int .i64 x.a)/\w.cell? ⟨b,q+3,none⟩=some (.int .i64 x.b)/\w.cell? ⟨b,q+4,none⟩=some (.int .u16 (x.n:Int))/\
  (I64 x.code/\I64 x.res/\I64 x.a/\I64 x.b/\x.n<65536)/\∃av,w.cell? ⟨b,q+5,none⟩=some av/\zY w B av x.args
theorem xA:vV OpR:=
 ⟨fun w w' B b q x hB hb h=>by obtain⟨h1,h2,h3,h4,h5,h6,av,h7,h8⟩:=h;exact⟨zV hb hB h1,zV hb hB h2,zV hb hB h3,zV hb hB h4,zV hb hB h5,h6,av,zV hb hB h7,h8.below zO hb⟩,
  fun w B B' b q x hB h=>by obtain⟨h1,h2,h3,h4,h5,h6,av,h7,h8⟩:=h;exact⟨h1,h2,h3,h4,h5,h6,av,h7,h8.mono zO hB⟩⟩
abbrev mN:=yN 6 OpR
def BlkR (w:World)(B b q:Nat)(x:IBlk):Prop:=
 w.cell? ⟨b,q+2,none⟩=some (.int .i64 x.term.kind)/\w.cell? ⟨b,q+3,none⟩=some (.int .i64 x.term.a)/\(I64 x.term.kind/\I64 x.term.a)/\
  ∃pv ov tv,w.cell? ⟨b,q,none⟩=some pv/\w.cell? ⟨b,q+1,none⟩=some ov/\w.cell? ⟨b,q+4,none⟩=some tv/\zY w B pv x.params/\mN w B ov x.ops/\wH w B tv x.term.to
theorem yT:vV BlkR:=
 ⟨fun w w' B b q x hB hb h=>by obtain⟨h1,h2,h3,pv,ov,tv,h4,h5,h6,h7,h8,h9⟩:=h;exact⟨zV hb hB h1,zV hb hB h2,h3,pv,ov,tv,zV hb hB h4,zV hb hB h5,zV hb hB h6,h7.below zO hb,h8.below xA hb,h9.below xL hb⟩,
  fun w B B' b q x hB h=>by obtain⟨h1,h2,h3,pv,ov,tv,h4,h5,h6,h7,h8,h9⟩:=h;exact⟨h1,h2,h3,pv,ov,tv,h4,h5,h6,h7.mono zO hB,h8.mono xA hB,h9.mono xL hB⟩⟩
abbrev wX:=yN 5 BlkR
def FuncR (w:World)(B b q:Nat)(x:List IBlk):Prop:=∃bv,w.cell? ⟨b,q,none⟩=some bv/\wX w B bv x
theorem vR:vV FuncR:=
 ⟨fun w w' B b q x hB hb h=>by obtain⟨bv,h1,h2⟩:=h;exact⟨bv,zV hb hB h1,h2.below yT hb⟩,
  fun w B B' b q x hB h=>by obtain⟨bv,h1,h2⟩:=h;exact⟨bv,h1,h2.mono yT hB⟩⟩
abbrev iS:=yN 1 FuncR
structure PV where
 fv:Value
 av:Value
 dv:Value
 bv:Value
structure ProgIn (w:World) (B:Nat) (V:PV) (p:IProg):Prop where
 funcs:iS w B V.fv p.funcs
 args:zY w B V.av p.args
 data:kq w B V.dv p.data
 banks:ky w B V.bv p.banks
 ent:I64 p.entry
 hnd:I64 p.handler
theorem ProgIn.below {w w':World}{B:Nat}{V:PV}{p:IProg}(h:ProgIn w B V p)(hb:Below B w w'):ProgIn w' B V p:=
 ⟨h.funcs.below vR hb,h.args.below zO hb,h.data.below tZ hb,h.banks.below tN hb,h.ent,h.hnd⟩
theorem ProgIn.mono {w:World}{B B':Nat}{V:PV}{p:IProg}(h:ProgIn w B V p)(hb:B<=B'):ProgIn w B' V p:=
 ⟨h.funcs.mono vR hb,h.args.mono zO hb,h.data.mono tZ hb,h.banks.mono tN hb,h.ent,h.hnd⟩
open Go.RowKit
def OwnRows {α:Type}(enc:α->Value)(e eS:TypeId)(w:World)(B bp:Nat)(rows:List (List α)):Prop:=
 ∃vs:List Value,w.heap[bp]? =some (.cells vs.toArray eS (0,0))/\vs.length=rows.length/\(∀(k:Nat) (row:List α) (v:Value),rows[k]? =some row->vs[k]? =some v->w.ownsRow B e 1 v row.length (row.map enc))/\
  ∀(i j:Nat) (vi vj:Value),i≠j->vs[i]? =some vi->vs[j]? =some vj->vi.ownBlock=none∨vi.ownBlock≠vj.ownBlock
section
variable {α:Type} {enc:α->Value} {e eS:TypeId} {w:World} {B bp:Nat} {rows:List (List α)}
theorem OwnRows.made (n:Nat)(h:w.heap[bp]? =some (.cells (List.replicate n (.slice none 0 0)).toArray eS (0,0))):OwnRows enc e eS w B bp (List.replicate n []):=by
 refine⟨_,h,by simp,fun k row v h1 h2=>?_,fun i j vi vj _ h1 _=>?_⟩
 ·simp only[List.getElem?_replicate] at h1 h2
  split at h1
  ·rw[if_pos ‹_›] at h2
   cases h1;cases h2
   exact World.ownsRow_nil _ _ _ _
  ·cases h1
 ·simp only[List.getElem?_replicate] at h1
  split at h1
  ·cases h1;exact .inl rfl
  ·cases h1
theorem OwnRows.blk (h:OwnRows enc e eS w B bp rows):∃c,w.heap[bp]? =some (.cells c eS (0,0)):=let⟨vs,h,_⟩:=h;⟨_,h⟩
theorem OwnRows.bplt (h:OwnRows enc e eS w B bp rows):bp<w.heap.size:=let⟨_,h⟩:=h.blk;lt_of_block h
theorem OwnRows.get (h:OwnRows enc e eS w B bp rows){s:Nat}{row:List α}(hs:rows[s]? =some row):
 ∃a cap,w.cell? ⟨bp,s,none⟩=some (.slice a row.length cap)/\w.ownsRow B e 1 (.slice a row.length cap) row.length (row.map enc)/\w.frozen? ⟨bp,s,none⟩=false:=by
 obtain⟨vs,h1,h2,h3,h4⟩:=h
 have hlt:s<vs.length:=by rw[h2];exact(List.getElem?_eq_some_iff.1 hs).1
 have hv:=List.getElem?_eq_getElem hlt
 have ho:=h3 s row _ hs hv
 obtain⟨a,cap,e1⟩:=zG ho
 refine⟨a,cap,zA h1 (by simp[hv,e1]),by rw[<-e1];exact ho,zE h1⟩
theorem OwnRows.kept (h:OwnRows enc e eS w B bp rows){w':World}{row:Option Nat}(hg:w.grownBy w' row)(hb:row≠some bp)(hr:∀k,row=some k->k<B):OwnRows enc e eS w' B bp rows:=by
 obtain⟨vs,h1,h2,h3,h4⟩:=h
 refine⟨vs,zL hg h1 hb,h2,fun k r v a b=>(h3 k r v a b).kept hg ?_,h4⟩
 cases hk:v.ownBlock with
 |none=>exact .inl rfl
 |some g=>
  right
  intro e1
  have:=(h3 k r v a b).lt g hk
  have:=hr g e1.symm
  omega
theorem OwnRows.put (h:OwnRows enc e eS w B bp rows)(hne:e≠eS){s:Nat}{row row':List α}(hs:rows[s]? =some row){a:Option Addr}{cap:Nat}(hc:w.cell? ⟨bp,s,none⟩=some (.slice a row.length cap))
 {o:Obj} {w2:World} {g cap' H:Nat} (hg:(w.alloc o).grownBy w2 (Value.slice a row.length cap).ownBlock) (hown:w2.ownsRow B e 1 (.slice (some ⟨g,0,none⟩) row'.length cap') row'.length (row'.map enc))
 (hat:(Value.slice a row.length cap).ownBlock=some g∨g=H) (hH:w.heap.size<=H):
 OwnRows enc e eS (w2.setCell ⟨bp,s,none⟩ (.slice (some ⟨g,0,none⟩) row'.length cap')) B bp (rows.set s row'):=by
 obtain⟨vs,h1,h2,h3,h4⟩:=h
 have hlt:s<vs.length:=by rw[h2];exact(List.getElem?_eq_some_iff.1 hs).1
 have hv:=List.getElem?_eq_getElem hlt
 have ho:=h3 s row _ hs hv
 have hsv:vs[s]=.slice a row.length cap:=by
  have h5:=zA (i:=s) h1 (v:=vs[s]) (by simp)
  rw[h5] at hc;exact Option.some.inj hc
 rw[hsv] at ho hv
 have hnb:=zC ho h1 (.inr hne)
 have h1':=zL hg (zB h1) hnb
 have hbg:∀(k:Nat) (v:Value),k≠s->vs[k]? =some v->v.ownBlock≠some bp/\(∀r,rows[k]? =some r->(w2.setCell ⟨bp,s,none⟩ (.slice (some ⟨g,0,none⟩) row'.length cap')).ownsRow B e 1 v r.length (r.map enc))/\(v.ownBlock=none∨v.ownBlock≠some g):=by
  intro k v hk hvk
  have hkl:k<rows.length:=by rw[<-h2];exact(List.getElem?_eq_some_iff.1 hvk).1
  have hok:=h3 k _ v (List.getElem?_eq_getElem hkl) hvk
  have hn:=zC hok h1 (.inr hne)
  refine⟨hn,fun r hr=>?_,?_⟩
  ·have hok2:=h3 k r v hr hvk
   have hk2:=(hok2.alloc o).kept hg (h4 k s v _ hk hvk hv)
   exact ownsRow_setCell_other hk2 (by simpa using hn) _
  ·rcases hat with hat|hat
   ·rw[<-hat];exact h4 k s v _ hk hvk hv
   ·right;intro e1
    have:=(hok.lt g e1).2
    omega
 refine⟨vs.set s (.slice (some ⟨g,0,none⟩) row'.length cap'),?_,by simp[h2],fun k r v hr hvk=>?_,fun i j vi vj hij hi hj=>?_⟩
 ·rw[zD h1'];simp
 ·by_cases hk:s=k
  ·subst hk
   rw[List.getElem?_set_self (by omega)] at hr
   rw[List.getElem?_set_self hlt] at hvk
   cases hr;cases hvk
   exact ownsRow_setCell_other hown (zC (b:=bp) hown h1' (.inr hne)) _
  ·rw[List.getElem?_set_ne hk] at hr hvk
   exact(hbg k v (Ne.symm hk) hvk).2.1 r hr
 ·by_cases hi':s=i
  ·subst hi'
   rw[List.getElem?_set_self hlt] at hi
   rw[List.getElem?_set_ne hij] at hj
   cases hi
   rcases(hbg j vj (Ne.symm hij) hj).2.2 with h5|h5
   ·right;rw[h5];simp[Value.ownBlock]
   ·right;exact Ne.symm h5
  ·rw[List.getElem?_set_ne hi'] at hi
   by_cases hj':s=j
   ·subst hj'
    rw[List.getElem?_set_self hlt] at hj
    cases hj
    exact(hbg i vi (Ne.symm hi') hi).2.2
   ·rw[List.getElem?_set_ne hj'] at hj
    exact h4 i j vi vj hij hi hj
theorem OwnRows.asRows (h:OwnRows enc e eS w B bp rows){C:Nat}(hC:w.heap.size<=C):y7 enc w C (.slice (some ⟨bp,0,none⟩) rows.length rows.length) rows:=by
 obtain⟨vs,h1,h2,h3,h4⟩:=h
 have hb:=lt_of_block h1
 refine⟨vs,⟨_,rows.length,by rw[h2],by omega,fun k x hk=>⟨bp,0,rfl,by omega,zA h1 (by simpa using hk)⟩⟩,h2,fun k rv row hk hr=>?_⟩
 have ho:=h3 k row rv hr hk
 rcases ho.2 with⟨rfl,h0⟩|⟨g,cap,cur,rfl,hg,hh,hle,hcm,hcs,htake⟩
 ·exact⟨none,0,by rw[h0],by omega,fun j x hj=>by rw[List.eq_nil_of_length_eq_zero h0] at hj;simp at hj⟩
 ·refine⟨_,cap,rfl,hle,fun j x hj=>⟨g,0,rfl,by have:=lt_of_block hh;omega,?_⟩⟩
  have hjl:=(List.getElem?_eq_some_iff.1 hj).1
  rw[Nat.zero_add]
  exact(ho.cellAt j (by omega)).trans (by simp[hj])
end
theorem rY {α:Type}{enc:α->Value}{e:TypeId}{w:World}{B C:Nat}{v:Value}{xs:List α}(ho:w.ownsRow B e 1 v xs.length (xs.map enc))(hC:w.heap.size<=C):xp enc w C v xs:=by
 rcases ho.2 with⟨rfl,h0⟩|⟨g,cap,cur,rfl,hg,hh,hle,hcm,hcs,htake⟩
 ·exact⟨none,0,by rw[h0],by omega,fun j x hj=>by rw[List.eq_nil_of_length_eq_zero h0] at hj;simp at hj⟩
 ·refine⟨_,cap,rfl,hle,fun j x hj=>⟨g,0,rfl,by have:=lt_of_block hh;omega,?_⟩⟩
  have hjl:=(List.getElem?_eq_some_iff.1 hj).1
  rw[Nat.zero_add]
  exact(ho.cellAt j (by omega)).trans (by simp[hj])
open Go.RowKit
theorem zM {fn:Func}{p:Tmp}{ty:TypeId}(h:fn.results=#[.cell p ty])(tmps:Array Value)(P:Program)(w:World):
 (results fn tmps).run P w=((asAddr (tmps.getD p undef)).run P w).andThen fun a w₁=>(loadVar ty a).run P w₁:=by
 simp only[results,h]
 simp[Sem.run_bind,Result.andThen]
structure GMem (V w:World) (bp bh n m:Nat) (R:List (List Int)):Prop where
 hg:w.heap[bh]? =some (.cells #[.slice (some ⟨bp,0,none⟩) n n] 93 (0,0))
 hr:OwnRows zN 3 22 w V.heap.size bp R
 hl:R.length=n
 hrl:∀row∈R,row.length<=m
 hb:Below V.heap.size V w
 gp:V.heap.size<=bp
 gh:V.heap.size<=bh
theorem GMem.start (V:World)(n m:Nat):GMem V ((V.alloc (.cells (madeCells #[.slice none 0 0] n) 22)).alloc (.cells #[.slice (some ⟨V.heap.size,0,none⟩) n n] 93)) V.heap.size (V.heap.size+1) n m (List.replicate n []):=by
 refine⟨zI (by simp),OwnRows.made n ?_,by simp,(by intro r hr;rw[(List.mem_replicate.1 hr).2];simp),((Below.refl _ V).alloc (Nat.le_refl _) _).alloc (by simp) _,Nat.le_refl _,by omega⟩
 rw[zB (zI rfl),yA]
theorem GMem.start' (V:World)(b:Nat)(hb:V.heap.size=b)(n m:Nat):GMem V ((V.alloc (.cells (madeCells #[.slice none 0 0] n) 22)).alloc (.cells #[.slice (some ⟨b,0,none⟩) n n] 93)) b (b+1) n m (List.replicate n []):=by
 subst hb;exact GMem.start V n m
theorem GMem.alloc {V w:World}{bp bh n m:Nat}{R:List (List Int)}(h:GMem V w bp bh n m R)(o:Obj):GMem V (w.alloc o) bp bh n m R:=
 ⟨zB h.hg,h.hr.kept (row:=none) ⟨rfl,rfl,rfl,by simp,fun k hk _=>Below.heap_alloc w o k hk⟩ (by simp) (by simp),h.hl,h.hrl,h.hb.alloc h.hb.size o,h.gp,h.gh⟩
theorem GMem.put {V w w2:World}{bp bh n m s g cap' H cap:Nat}{R:List (List Int)}{row row':List Int}{a:Option Addr}{o:Obj}(h:GMem V w bp bh n m R)(hs:R[s]? =some row)
 (hc:w.cell? ⟨bp,s,none⟩=some (.slice a row.length cap)) (hg:(w.alloc o).grownBy w2 (Value.slice a row.length cap).ownBlock)
 (hown:w2.ownsRow V.heap.size 3 1 (.slice (some ⟨g,0,none⟩) row'.length cap') row'.length (row'.map zN)) (hat:(Value.slice a row.length cap).ownBlock=some g∨g=H) (hH:w.heap.size<=H) (hm:row'.length<=m):
 GMem V (w2.setCell ⟨bp,s,none⟩ (.slice (some ⟨g,0,none⟩) row'.length cap')) bp bh n m (R.set s row'):=by
 obtain⟨h1,h2,h3,h3l,h4,h5,h6⟩:=h
 obtain⟨a',cap2,hc',hor,_⟩:=h2.get hs
 rw[hc] at hc'
 cases hc'
 have n1:=zC hor h1 (.inr (by decide))
 have hput:=h2.put (by decide) hs hc hg (row':=row') hown hat hH
 have l1:=lt_of_block h1
 obtain⟨cc,hcc⟩:=h2.blk
 have hne:bh≠bp:=fun e=>by subst e;rw[h1] at hcc;simp at hcc
 exact⟨zR (zL hg (zB h1) n1) (by simpa using hne),hput,by simpa using h3,fun r hr=>by(rcases List.mem_or_eq_of_mem_set hr with hr|rfl;exact h3l r hr;exact hm),((h4.alloc (by have:=h4.size;omega) o).grown hg (by have:=h4.size;simp;omega) (fun k hk=>(hor.lt k hk).1)).setCell h5 _,h5,h6⟩
section
variable {α:Type} {enc:α->Value} {e eS:TypeId} {w:World} {B bp:Nat} {rows:List (List α)}
theorem OwnRows.base (h:OwnRows enc e eS w B bp rows){B':Nat}(hB:B'<=B):OwnRows enc e eS w B' bp rows:=by
 obtain⟨vs,h1,h2,h3,h4⟩:=h
 exact⟨vs,h1,h2,fun k r v a b=>vY (h3 k r v a b) hB,h4⟩
theorem OwnRows.below (h:OwnRows enc e eS w B bp rows){w':World}(hb:Below w.heap.size w w'):OwnRows enc e eS w' B bp rows:=by
 obtain⟨vs,h1,h2,h3,h4⟩:=h
 exact⟨vs,zH hb h1 (lt_of_block h1),h2,fun k r v a b=>p7 (h3 k r v a b) hb (Nat.le_refl _),h4⟩
theorem OwnRows.set (h:OwnRows enc e eS w B bp rows){a:Addr}(hne:a.block≠bp)(hlt:a.block<B)(u:Value):OwnRows enc e eS (w.setCell a u) B bp rows:=
 h.kept (w':=w.setCell a u) (row:=some a.block) ⟨rfl,rfl,rfl,by simp[World.setCell],fun k _ hk=>Below.heap_setCell _ _ _ _ (fun e=>hk (by rw[e]))⟩ (fun e=>hne (by cases e;rfl)) (fun k hk=>by cases hk;exact hlt)
end
open Go.RowKit
def yM (w:World)(size:Nat)(xv:Value)(m:Nat)(news:List Value):Prop:=
 ∃a c,xv=.slice a m c/\news.length=m*size/\(∀u∈news,u.oneCell'=true)/\((a=none/\m=0)∨∃ad,a=some ad/\∀j u,news[j]? =some u->w.cell? (ad.add j)=some u)
theorem tE {P:Program}(w:World)(base:Nat)(t ty e:TypeId)(i:TypeInfo)(z:Value)(size bytes:Nat)(ht:P.underlying t=some (.slice e))(hi:P.info? e=some i)(hz:i.zero=some z)
 (hsize:i.size=size) (hby:i.bytes=bytes) (hzs:z.cells.size=size) (hsz:0<size) (v:Value) (n:Nat) (xs:List Value) (hown:w.ownsRow base e size v n xs)
 (xv:Value) (m:Nat) (news:List Value) (hsrc:yM w size xv m news) (h63:n+m<=maxLen) (hbytes:(n+m)*bytes<=140737488355328) (hbase:base<=w.heap.size):
 ∃v' w',(Builtin.append_ #[t,t] ty #[v,xv]).run P w=.ok v' w'/\w'.ownsRow base e size v' (n+m) (xs++news)/\w.grownBy w' v.ownBlock/\(v'.ownBlock=v.ownBlock∨v'.ownBlock=some w.heap.size):=by
 obtain⟨a,c,rfl,hl,h1,⟨rfl,rfl⟩|⟨ad,rfl,hnews⟩⟩:=hsrc
 ·have hn:news=[]:=List.eq_nil_of_length_eq_zero (by simpa using hl)
  subst hn
  refine⟨v,w,?_,by simpa using hown,⟨rfl,rfl,rfl,Nat.le_refl _,fun _ _ _=>rfl⟩,.inl rfl⟩
  rcases hown.2 with⟨rfl,rfl⟩|⟨g,cap,cur,rfl,hbg,hg,hnc,hcm,hcs,htake⟩
  ·simp[Builtin.append_,run_underlying ht,sizeOf,typeInfo,hi,Builtin.lenOf,run_firstCells_none]
  ·simp[Builtin.append_,run_underlying ht,sizeOf,typeInfo,hi,Builtin.lenOf,run_firstCells_none,hnc,storeCells]
 ·obtain⟨v',w',h2,h3,h4,_,h5⟩:=run_append_own_at (P:=P) w base t ty e i z size bytes ht hi hz hsize hby hzs hsz v n xs hown ad m c news hl hnews h1 h63 hbytes hbase
  exact⟨v',w',h2,h3,h4,h5⟩
theorem zK {P:Program}(w:World){ops:Array Oper}{rest:List Oper}{o:Oper}{a:Act}{Q:Exit->Act->World->Prop}(hgd:o.guard=none)(s x:Operand)(t:TypeId)
 (ho:o.op=.call {callee:=.builtin .append,args:=#[s,x],argTypes:=#[t,t]})
 (base:Nat) (e:TypeId) (i:TypeInfo) (z:Value) (size bytes:Nat) (ht:P.underlying t=some (.slice e)) (hi:P.info? e=some i) (hz:i.zero=some z)
 (hsize:i.size=size) (hby:i.bytes=bytes) (hzs:z.cells.size=size) (hsz:0<size)
 (v:Value) (n:Nat) (xs:List Value) (hs:a.eval s=v) (hown:w.ownsRow base e size v n xs)
 (xv:Value) (m:Nat) (news:List Value) (hx:a.eval x=xv) (hsrc:yM w size xv m news) (h63:n+m<=maxLen) (hbytes:(n+m)*bytes<=140737488355328) (hbase:base<=w.heap.size)
 (h:∀v' w',w'.ownsRow base e size v' (n+m) (xs++news)->w.grownBy w' v.ownBlock->(v'.ownBlock=v.ownBlock∨v'.ownBlock=some w.heap.size)->wpList P ops Q rest (a.put o.dst v') w'):
 wpList P ops Q (o::rest) a w:=by
 refine wpList_plain hgd fun K hK=>?_
 obtain⟨v',w',hr,h2,h3,h5⟩:=tE (P:=P) w base t o.type e i z size bytes ht hi hz hsize hby hzs hsz v n xs hown xv m news hsrc h63 hbytes hbase
 unfold Oper.wp execOp
 simp only[ho,resolve,invoke,builtin,Sem.run_bind,Sem.run_pure,Result.andThen_ok,List.map_toArray,List.map_cons,List.map_nil,hs,hx,hr]
 exact hK _ _ (h v' w' h2 h3 h5)
theorem yM.one {w:World}{b:Nat}{x:Value}{e:TypeId}(h:w.heap[b]? =some (.cells #[x] e (0,0)))(hx:x.oneCell'=true):yM w 1 (.slice (some ⟨b,0,none⟩) 1 1) 1 [x]:=
 ⟨_,_,rfl,rfl,by simpa using hx,.inr ⟨_,rfl,World.news_of_block (cs:=#[x]) h⟩⟩
theorem zY.src {w:World}{B:Nat}{v:Value}{xs:List Int}(h:zY w B v xs):yM w 1 v xs.length (xs.map zN):=by
 obtain⟨a,cap,rfl,h1,h2,h3⟩:=h
 refine⟨a,cap,rfl,by simp,by simp[zN,Value.oneCell'],?_⟩
 cases xs with
 |nil=>
  cases a with
  |none=>exact .inl ⟨rfl,rfl⟩
  |some ad=>exact .inr ⟨ad,rfl,fun j u hu=>by simp at hu⟩
 |cons x xs=>
  obtain⟨b,o,rfl,_,_⟩:=h3 0 x rfl
  refine .inr ⟨_,rfl,fun j u hu=>?_⟩
  rw[List.getElem?_map,Option.map_eq_some_iff] at hu
  obtain⟨y,hy,rfl⟩:=hu
  obtain⟨b',o',e,_,hc,_⟩:=h3 j y hy
  cases e
  rw[Nat.mul_one] at hc
  unfold Addr.add
  split
  ·rename_i h0;rw[h0] at hc;exact hc
  ·exact hc
theorem uA {w:World}{S:Nat}{v:Value}{n:Nat}{xs:List Int}(h:w.ownsRow S 3 1 v n (xs.map zN))(hn:xs.length=n)(hx:∀x∈xs,I64 x):zY w w.heap.size v xs:=by
 subst hn
 obtain⟨a,c,rfl⟩:=zG h
 have hl:=zm h
 refine⟨a,c,rfl,hl.1,by omega,fun k x hk=>?_⟩
 have hkl:=(List.getElem?_eq_some_iff.1 hk).1
 obtain⟨g,cap,e,hg,hlt⟩:=h.form (by omega)
 cases e
 refine⟨g,0,rfl,hlt,?_,hx x (List.mem_of_getElem? hk)⟩
 rw[Nat.mul_one,Nat.zero_add]
 exact(h.cellAt k (by omega)).trans (by rw[List.getElem?_map,hk];rfl)
theorem zY.all {w:World}{B:Nat}{v:Value}{xs:List Int}(h:zY w B v xs):∀x∈xs,I64 x:=by
 intro x hx
 obtain⟨k,hk⟩:=List.getElem?_of_mem hx
 obtain⟨_,_,_,_,_,h3⟩:=h
 obtain⟨_,_,_,_,_,h4⟩:=h3 k x hk
 exact h4
end Go.Proofs.Ytojclalkfhoooaa
