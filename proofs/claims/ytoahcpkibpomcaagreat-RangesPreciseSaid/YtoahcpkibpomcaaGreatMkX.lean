/- Part of a proof. -/
import Derived.Test.YtoahcpkibpomcaaGreatGMkR
set_option linter.all false
set_option maxHeartbeats 8000000
set_option maxRecDepth 100000
namespace Go.Proofs.YtoahcpkibpomcaaGreat
open Go.RowKit
variable {w w' w0 w1 wx:World}{o:Obj}{db i m:Nat}{K:MKC}{X:Nat->Prop}{M:MS}{vv:Value}{l:List BM}{C:MDC}
theorem mk_bank (W:World):(Instr.makeSlice 49 (I 4096) (I 4096)).run Tryz.prog W=.ok (Y W.heap.size 4096 4096) (W.alloc (G (madeCells #[.int .u8 0] 4096) 5)):=
 run_make_row' (P:=Tryz.prog) 49 5 (.int .u8 0) 1 Tryz.underlying49 Tryz.info_u8 rfl .i64 .i64 4096 Zd Zd W
def dataC:Array Value:=#[I (-1),U 16384,U 16,I (-1),U 16640,U 7,I 0,U 128,U 32]
structure MdHd (w:World) (sv av:Value) (rr sb pp db pm:Nat) (hnd:Int) (fpv:Value) (args:List Int) (pos:Nat) (wx:World):Prop where
 res:wx.heap[rr]? =some (.cells #[.slice none 0 0,.slice none 0 0,.int .i64 0,.int .i64 0,.slice none 0 0,.slice none 0 0] 29 (0,0))
 bank:wx.heap[sb]? =some (.cells #[.string sG] 9 (0,0))
 prog:wx.heap[pp]? =some (.cells #[fpv,av,.int .i64 0,.int .i64 hnd,.slice (some ⟨db,0,none⟩) 3 3,.slice (some ⟨sb,0,none⟩) 1 1] 29 (0,0))
 data:wx.heap[db]? =some (.cells dataC 89 (0,0))
 mkr:wx.heap[pm]? =some (.cells #[sv,.int .i64 (pos:Int),.pointer (some ⟨pp,0,none⟩),.int .i64 0,.slice none 0 0,.int .i64 0,.int .i64 0,.slice none 0 0,.int .i64 0] 128 (0,0))
 own:wx.ownsRow w.heap.size 3 1 av args.length (args.map zN)
 bel:Below w.heap.size w wx
 ges:w.heap.size<=rr/\w.heap.size<=sb/\w.heap.size<=pp/\w.heap.size<=db/\w.heap.size<=pm
 nes:rr≠sb/\rr≠pp/\rr≠db/\rr≠pm/\sb≠pp/\sb≠db/\sb≠pm/\pp≠db/\pp≠pm/\db≠pm
theorem md_setup{wr:World}{sv:Value}{rr:Nat}(c:w.heap.size=rr)(hr:L wr rr #[F,F,I 0,I 0,F,F] 29)(hb:Below rr w wr):
 MdHd w sv (F) rr wr.heap.size (wr.heap.size+1) (wr.heap.size+1+1) (wr.heap.size+1+1+1) (-1) (F) [] 0
  ((((wr.alloc (G #[.string sG] 9)).alloc (G #[F,F,I 0,I (-1),Y (wr.heap.size+1+1) 3 3,Y wr.heap.size 1 1] 29)).alloc (G #[I (-1),U 16384,U 16,I (-1),U 16640,U 7,I 0,U 128,U 32] 89)).alloc
    (G #[sv,I 0,Q (wr.heap.size+1),I 0,F,I 0,I 0,F,I 0] 128)):=by
 have hl:=lt_of_block hr;have d:rr<=wr.heap.size:=Zo;refine⟨zB (zB (zB (zB hr))),zB (zB (zB (zI rfl))),zB (zB (zI Zs)),zB (zI Zs),zI Zs,Jv _ _ _ _,?_,?_,?_⟩
 ·subst c;exact(((hb.alloc d _).alloc Zt _).alloc Zt _).alloc Zt _
 ·omega
 ·omega
section
variable {w:World} {sv av:Value} {rr sb pp db pm:Nat} {hnd:Int} {fpv:Value} {args:List Int} {pos:Nat} {wx:World} (h:MdHd w sv av rr sb pp db pm hnd fpv args pos wx)
include h
theorem MdHd.tick(hb:L w' pm (#[sv,I pos,Q pp,I 0,F,I 0,I 0,F,I 0].setIfInBounds 1 (I ((pos+1:Nat):Int))) 128)(hs:Stp (fun j=>j=pm) wx (fun j=>j=pm) w'):
 MdHd w sv av rr sb pp db pm hnd fpv args (pos+1) w':=by
 obtain⟨n1,n2,n3,n4,n5,n6,n7,n8,n9,c⟩:=h.nes;refine⟨hs.blk h.res n4,hs.blk h.bank n7,hs.blk h.prog n9,hs.blk h.data c,hb,yD h.own (fun k e=>hs.kept k (h.own.lt k e).2 (fun e2=>?_)),h.bel.trans ((hs.below (B:=w.heap.size) (fun k e=>by rw[e];exact h.ges.2.2.2.2) h.bel.size)),h.ges,h.nes⟩;exact zC h.own h.mkr (.inr Zd) (by rw[e,e2])
theorem MdHd.push{w3:World}{av':Value}{x:Int}(hg:(wx.alloc o).grownBy w3 av.ownBlock)(c:w3.ownsRow w.heap.size 3 1 av' (args.length+1) (args.map zN++ [zN x])):
 MdHd w sv av' rr sb pp db pm hnd fpv (args++ [x]) pos (w3.setCell ⟨pp,1,none⟩ av'):=by
 obtain⟨n1,n2,n3,n4,n5,n6,n7,n8,n9,i⟩:=h.nes;have hb:∀ {b:Nat} {cs:Array Value} {t:TypeId},L wx b cs t->3≠t->L w3 b cs t:=fun hb hne=>zL hg (zB hb) (zC h.own hb (.inr hne))
 have d:=hb h.prog Zd;have g:wx.heap.size<=w3.heap.size:=by have:=hg.size;simp at this;omega
 refine⟨zR (hb h.res Zd) n2,zR (hb h.bank Zd) n5,?_,zR (hb h.data Zd) (fun e=>n8 e.symm),zR (hb h.mkr Zd) (fun e=>n9 e.symm),?_,?_,h.ges,h.nes⟩
 ·rw[zD d];rfl
 ·rw[Jk,Ju,Js];exact ownsRow_setCell_other c (fun e=>zC c d (.inr Zd) (by simpa using e)) _
 ·have h1:Below w.heap.size wx w3:=by
   refine⟨hg.os,hg.tape,hg.output,g,fun k hk=>?_⟩;exact(hg.block k (by have:=h.bel.size;simp;omega) (fun e=>by have:=(h.own.lt k e.symm).1;omega)).trans (Below.heap_alloc wx o k (Jy hk h.bel.size))
  exact h.bel.trans (h1.setCell h.ges.2.2.1 _)
end
theorem mk_funcs (n:Nat)(j:n<=4)(W:World):(Instr.makeSlice 25 (I n) (I n)).run Tryz.prog W=.ok (Y W.heap.size n n) (W.alloc (G (List.replicate n (Value.slice none 0 0)).toArray 39)):=by
 obtain⟨i,hi,g,d,c⟩:=info_parts Tryz.info_irfunc;have h:=run_make (P:=Tryz.prog) W 25 39 i (.agg #[F]) Tryz.underlying25 hi g .i64 .i64 n n Zo (Og _) (by rw[c];omega) Zo;rw[Ni,d,Nk] at h;rw[h];have e:madeCells (Value.agg #[F]).cells n=(List.replicate n (Value.slice none 0 0)).toArray:=yA _ _;rw[e]
theorem MdHd.funcs{sv av:Value}{rr sb pp pm:Nat}{hnd:Int}{fpv:Value}{args:List Int}{pos:Nat}(h:MdHd w sv av rr sb pp db pm hnd fpv args pos wx)(o:Obj)(u:Value):
 MdHd w sv av rr sb pp db pm hnd u args pos ((wx.setCell ⟨pp,0,none⟩ u).alloc o):=by
 obtain⟨n1,n2,n3,n4,n5,n6,n7,n8,n9,c⟩:=h.nes;refine⟨zB (zR h.res n2),zB (zR h.bank n5),zB ?_,zB (zR h.data (fun e=>n8 e.symm)),zB (zR h.mkr (fun e=>n9 e.symm)),?_,(h.bel.setCell h.ges.2.2.1 _).alloc (by simpa using h.bel.size) _,h.ges,h.nes⟩
 ·rw[zD h.prog];rfl
 ·exact(ownsRow_setCell_other h.own (fun e=>zC h.own h.prog (.inr Zd) (by simpa using e)) _).alloc _
theorem MdHd.hnd{sv av:Value}{rr sb pp pm:Nat}{hnd:Int}{fpv:Value}{args:List Int}{pos:Nat}(h:MdHd w sv av rr sb pp db pm hnd fpv args pos wx)(x:Int):
 MdHd w sv av rr sb pp db pm x fpv args pos (wx.setCell ⟨pp,3,none⟩ (I x)):=by
 obtain⟨n1,n2,n3,n4,n5,n6,n7,n8,n9,c⟩:=h.nes;refine⟨zR h.res n2,zR h.bank n5,?_,zR h.data (fun e=>n8 e.symm),zR h.mkr (fun e=>n9 e.symm),?_,h.bel.setCell h.ges.2.2.1 _,h.ges,h.nes⟩
 ·rw[zD h.prog];rfl
 ·exact ownsRow_setCell_other h.own (fun e=>zC h.own h.prog (.inr Zd) (by simpa using e)) _
theorem ab1{a b:Nat}{ca cb:Array Value}{ta tb:TypeId}(d:L w a ca ta)(hb:L w b cb tb)(c:ta≠tb):a≠b:=fun e=>by
 subst e;rw[d] at hb
 injection hb with h3
 injection h3 with _ h4
 exact c h4
theorem bV (s:List Int):I64 (vw s):=by
 have:=sm s;unfold vw
 split
 ·exact vG _ Zo Zo
 ·exact yF _ rfl
theorem MdHd.at{s:List Int}{sv av:Value}{rr sb pp pm fb:Nat}(h:MdHd w sv av rr sb pp db pm (vw s) (Y fb (mdN s) (mdN s)) (yS s (mdN s)) (sP s) wx)
 (c:L wx fb (List.replicate (mdN s) (Value.slice none 0 0)).toArray 39) (hB:w.heap.size<=fb) (hs:zY w w.heap.size sv s):
 MdAt s ⟨sv,av,Y db 3 3,Y sb 1 1,pm,pp,fb,rr,w.heap.size⟩ w 0 wx:=by
 obtain⟨n1,n2,n3,n4,n5,n6,n7,n8,n9,l⟩:=h.nes;have g:pm≠fb:=ab1 h.mkr c Zd;have d:pp≠fb:=ab1 h.prog c Zd;have i:db≠fb:=ab1 h.data c Zd;have m:=sm s;refine⟨⟨hs.below zO h.bel,⟨_,_,rfl⟩,h.prog,?_,⟨db,rfl,fun e=>e.elim (fun e=>l e) (fun e=>e.elim (fun e=>e.elim (fun e=>i e) (fun e=>n3 e.symm)) (fun e=>by have h1:=h.ges.2.2.2.1;have e':db<w.heap.size:=e;omega)),h.data⟩,fun e=>e.elim (fun e=>n9 e) (fun e=>e.elim (fun e=>e.elim (fun e=>d e) (fun e=>n2 e.symm)) (fun e=>by have h1:=h.ges.2.2.1;have e':pp<w.heap.size:=e;omega)),bV s,yY s _,⟨m.2,m.1⟩,xy s _,fun k e e2=>e2.elim (fun e2=>e2.elim (fun e2=>g (e.symm.trans e2)) (fun e2=>n4 (e2.symm.trans e))) (fun e2=>by have h1:k=pm:=e;have h2:k<w.heap.size:=e2;have h3:=h.ges.2.2.2.2;omega),fun k e=>e.elim (fun e=>e.elim (fun e=>by rw[show k=fb from e];exact lt_of_block c) (fun e=>by rw[show k=rr from e];exact lt_of_block h.res)) (fun e=>by have h2:k<w.heap.size:=e;have h3:=h.bel.size;omega)⟩,⟨_,0,_,_,_,_,h.mkr⟩,⟨_,by simp,c,fun j x hj=>?_⟩,h.bel,rfl,h.ges.2.2.2.2,hB,h.ges.1⟩
 ·refine rO h.own rfl (fun x hx=>?_) (fun k e e2=>?_)
  ·have:=xy s _ x hx;exact vG _ Zo Zo
  ·rcases e2 with e2|(e2|e2)|e2
   ·exact zC h.own h.mkr (.inr Zd) (e.trans (congrArg some e2))
   ·exact zC h.own c (.inr Zd) (e.trans (congrArg some e2))
   ·exact zC h.own h.res (.inr Zd) (e.trans (congrArg some e2))
   ·have h1:=(h.own.lt k e).1;have h2:k<w.heap.size:=e2;omega
 ·have e:(zg s 0).1=[]:=rfl;rw[e] at hj;simp at hj
def qR (C:MDC)(w wx:World):Prop:=w.heap.size<=wx.heap.size/\∀b,b<w.heap.size->b≠C.pm->b≠C.fb->wx.heap[b]? =w.heap[b]?
theorem MkIn.parSrc{fv:Value}(h:MkIn w K X M fv vv l){b:IBlk}(hb:M.f[i]? =some b):
 ∃g c pa pc,fv=Y g l.length c/\g<w.heap.size/\T w g (i*5) (.slice pa b.params.length pc)/\yM w 1 (.slice pa b.params.length pc) b.params.length (b.params.map zN)/\∀x∈b.params,I64 x:=by
 obtain⟨q,o,rfl,d⟩:=h.getB hb;obtain⟨g,c,j,a1,u,a0⟩:=h.fblk o;have m:=z9 yr h.own (by rw[j];rfl) o;have e0:T w g (i*5) q.pv:=m 0 _ rfl;have hp:=wm.to d.par;obtain⟨pa,pc,t,h1,h2,h3⟩:=d.par;rw[t] at hp e0;refine⟨g,c,pa,pc,j,u,e0,zY.src hp,fun x hx=>?_⟩;obtain⟨k,hk⟩:=List.mem_iff_getElem?.1 hx;obtain⟨_,_,_,_,_,_,y⟩:=h3 k x hk;exact y
theorem Stp.setPm{pm:Nat}(u:Value):Stp (fun j=>j=pm) w (fun j=>j=pm) (w.setCell ⟨pm,i,none⟩ u):=
 ⟨rfl,rfl,rfl,by simp,fun _ h=> .inl h,fun k hk hx=>Below.heap_setCell _ _ _ _ (fun e=>hx (by rw[e]))⟩
theorem MkIn.started{W w9:World}{M':MS}{fv:Value}{va aa:Option Addr}{vc c n:Nat}{xs:List Int}(h:MkIn W K X M fv vv l)(g:vv=.slice va 0 vc)(hv:M.vals=[])(q:xs.length=n)
 (d:w9.ownsRow K.B 3 1 (.slice aa (0+n) c) (0+n) ([]++xs.map zN)) (hg:W.drew.grownBy w9 (Value.slice va 0 vc).ownBlock) (i:(Value.slice aa (0+n) c).ownBlock=(Value.slice va 0 vc).ownBlock∨(Value.slice aa (0+n) c).ownBlock=some W.drew.heap.size)
 (o:∀x∈xs,I64 x) (m:M.sz+n<=1000000) (t:M'= {M with vals:=xs }):∃X6 vv6,MkIn (w9.setCell ⟨K.pm,7,none⟩ (.slice aa n c)) K X6 M' fv vv6 l/\Stp X W X6 (w9.setCell ⟨K.pm,7,none⟩ (.slice aa n c)):=by
 rw[Ng,Op] at d;rw[Ng,<-g] at i;rw[<-g] at hg;subst q t;have k:=(h.keep (Below.refl _ _).drew).putVs hg (xs:=xs) (n:=xs.length) (by rw[hv];simp) (by rw[hv];exact d) (fun j e=>?_) o m
 ·rw[hv,Op] at k;exact⟨_,_,k.1,(Stp.of_below (Below.refl _ _).drew).trans k.2⟩
 ·rcases i with e2|e2
  ·exact .inl (e2.symm.trans e)
  ·right;have e3:=e2.symm.trans e;simp at e3;simp;omega
theorem Stp.setNew{X':Nat->Prop}(h:Stp X w X' w'){a:Addr}(c:w.heap.size<=a.block)(u:Value):Stp X w X' (w'.setCell a u):=
 ⟨h.os,h.tape,h.output,by simpa using h.size,h.new,fun k hk hx=>(Below.heap_setCell _ _ _ _ Zo).trans (h.kept k hk hx)⟩
theorem MkIn.setZ{fv:Value}(h:MkIn w K X M fv vv l){a:Addr}(c:K.Z a.block)(hB:K.B<=a.block)(u:Value):MkIn (w.setCell a u) K X M fv vv l:=
 h.off (Z2:=K.Z) Zs ⟨rfl,rfl,rfl⟩ (fun k _ hz=>Below.heap_setCell _ _ _ _ (fun e=>by have h1:=hz (by rw[e];exact c);omega)) (fun k e=> .inl e) (fun k e=>by simpa using h.env.zl k e)
structure MdFin (s:List Int) (C:MDC) (w0:World) (fs:List (List IBlk)) (wx:World):Prop where
 env:MkEnv wx (mdK s C 0) (fun j=>j=C.pm)
 row:∃hs:List Value,hs.length=mdN s/\wx.heap[C.fb]? =some (.cells hs.toArray 39 (0,0))/\∀(j:Nat) (x:List IBlk),fs[j]? =some x->∃v:Value,hs[j]? =some v/\pf wx (fun i=>i=C.pm∨((i=C.fb∨i=C.rr)∨i<C.B)) v x
 bel:Below w0.heap.size w0 wx
 len:fs.length=mdN s
 hB:C.B=w0.heap.size
 pmB:C.B<=C.pm
 fbB:C.B<=C.fb
 rrB:C.B<=C.rr
theorem MdAt.fin{s:List Int}(h:MdAt s C w0 (mdN s) wx):MdFin s C w0 (zg s (mdN s)).1 wx:=⟨h.env,h.row,h.bel,yx s _,h.hB,h.pmB,h.fbB,h.rrB⟩
theorem MdFin.step {s:List Int}{C:MDC}{w0 wx w':World}{fs:List (List IBlk)}(h:MdFin s C w0 fs wx)(hs:Stp (fun j=>j=C.pm) wx (fun j=>j=C.pm) w'):MdFin s C w0 fs w':=by
 obtain⟨row,h1,h2,h3⟩:=h.row;have hb:Below C.B wx w':=hs.below (fun k e=>by rw[e];exact h.pmB) (by rw[h.hB];exact h.bel.size);refine⟨h.env.step hs hb,⟨row,h1,hs.blk h2 (fun e=>h.env.zx C.pm rfl (.inl (.inl e.symm))),fun j x hj=>?_⟩,h.bel.trans (by rw[<-h.hB];exact hb),h.len,h.hB,h.pmB,h.fbB,h.rrB⟩;obtain⟨v,hv,c⟩:=h3 j x hj;exact⟨v,hv,yE.step (X:=(mdK s C 0).av fun j=>j=C.pm) xq c (hs.av (mdK s C 0))⟩
theorem MdFin.stepA{s:List Int}{fs:List (List IBlk)}(h:MdFin s C w0 fs wx){a:Addr}(d:a.block=C.rr)(l:C.fb≠C.rr)(u:Value):MdFin s C w0 fs (wx.setCell a u):=by
 obtain⟨row,h1,h2,h3⟩:=h.row;have g:=h.rrB;have hb:Below C.B wx (wx.setCell a u):=(Below.refl _ _).setCell (by rw[d];exact g) _;have c:Stp ((mdK s C 0).av fun j=>j=C.pm) wx ((mdK s C 0).av fun j=>j=C.pm) (wx.setCell a u):=⟨rfl,rfl,rfl,by simp,fun k e=> .inl e,fun i _ hx=>Below.heap_setCell _ _ _ _ (fun e=>hx (.inr (.inl (.inr (e.trans d)))))⟩
 refine⟨h.env.stepA c hb,⟨row,h1,zR h2 (by rw[d];exact l),fun j x hj=>?_⟩,h.bel.trans (by rw[<-h.hB];exact hb),h.len,h.hB,h.pmB,h.fbB,h.rrB⟩;obtain⟨v,hv,m⟩:=h3 j x hj;exact⟨v,hv,yE.step (X:=(mdK s C 0).av fun j=>j=C.pm) xq m c⟩
theorem MdFin.ext{s:List Int}{fs:List (List IBlk)}(h:MdFin s C w0 fs wx)(hm:m<mdN s):MdFin s C w0 (fs.set m []) (wx.setCell ⟨C.fb,m,none⟩ (F)):=by
 obtain⟨row,h1,h2,h3⟩:=h.row;have d:=h.fbB;have hb:Below C.B wx (wx.setCell ⟨C.fb,m,none⟩ (F)):=(Below.refl _ _).setCell d _;have c:Stp ((mdK s C 0).av fun j=>j=C.pm) wx ((mdK s C 0).av fun j=>j=C.pm) (wx.setCell ⟨C.fb,m,none⟩ (F)):=⟨rfl,rfl,rfl,by simp,fun k e=> .inl e,fun i _ hx=>Below.heap_setCell _ _ _ _ (fun e=>hx (.inr (.inl (.inl e))))⟩
 refine⟨h.env.stepA c hb,⟨row.set m (F),by rw[Nd];exact h1,by rw[zD h2];simp,fun j x hj=>?_⟩,h.bel.trans (by rw[<-h.hB];exact hb),by rw[Nd];exact h.len,h.hB,h.pmB,h.fbB,h.rrB⟩
 by_cases e:m=j
 ·subst e
  have e2:x=[]:=by
   rw[Nn (by rw[h.len];exact hm)] at hj;exact(Nt hj).symm
  subst e2;exact⟨F,Nn Zo,yE.nil⟩
 ·rw[Ns e] at hj;obtain⟨v,hv,g⟩:=h3 j x hj;exact⟨v,by rw[Ns e];exact hv,yE.step (X:=(mdK s C 0).av fun j=>j=C.pm) xq g c⟩
theorem qR.trans{w2:World}(h:qR C w w1)(k:qR C w1 w2):qR C w w2:=⟨Jn h.1 k.1,fun b hb h1 h2=>(k.2 b (Jy hb h.1) h1 h2).trans (h.2 b hb h1 h2)⟩
theorem qR.blk(h:qR C w w1){b:Nat}(hb:w.heap[b]? =some o)(h1:b≠C.pm)(h2:b≠C.fb):w1.heap[b]? =some o:=(h.2 b (lt_of_block hb) h1 h2).trans hb
theorem iB{b:Nat}(h:L w b #[I (-1),U 16384,U 16,I (-1),U 16640,U 7,I 0,U 128,U 32] 89):kq w w.heap.size (Y b 3 3) am:=by
 refine⟨_,3,rfl,by decide,by decide,fun k x hk=>⟨b,0,rfl,lt_of_block h,?_⟩⟩
 match k,hk with
 |0,hk=>cases hk;exact⟨zA h rfl,zA h rfl,zA h rfl,yF _ rfl,by decide,by decide⟩
 |1,hk=>cases hk;exact⟨zA h rfl,zA h rfl,zA h rfl,yF _ rfl,by decide,by decide⟩
 |2,hk=>cases hk;exact⟨zA h rfl,zA h rfl,zA h rfl,yF _ rfl,by decide,by decide⟩
 |k+3,hk=>exact absurd (Jh.1 hk).1 (by show ¬k+3<3;omega)
theorem jS:sG.size=4096:=by
 rw[<-mq,mG];simp[iu]
structure StaysL (L:Nat) (w W:World):Prop where
 size:w.heap.size<=W.heap.size
 rest:W.os=w.os/\W.tape=w.tape/\W.output=w.output
 kept:∀k,L<=k->k<w.heap.size->W.heap[k]? =w.heap[k]?
theorem StaysL.refl (L:Nat)(w:World):StaysL L w w:=⟨Je _,⟨rfl,rfl,rfl⟩,fun _ _ _=>rfl⟩
theorem MdFin.prog{s:List Int}{fs:List (List IBlk)}{sb:Nat}(h:MdFin s C w0 fs wx)(hb:L wx sb #[.string sG] 9)(i:C.B<=sb):∀W,StaysL C.B wx W->
 ProgIn W W.heap.size ⟨Y C.fb (mdN s) (mdN s),C.apv,C.dv,Y sb 1 1⟩ ⟨fs,yS s (mdN s),0,vw s,am,[sG]⟩:=fun W hW=>by
 obtain⟨row,h1,h2,h3⟩:=h.row;obtain⟨b,e1,e2,e3⟩:=h.env.data;have u:=sm s;have t:C.dv=Y b 3 3:=e1
 have c:Stp ((mdK s C 0).av fun j=>j=C.pm) wx ((mdK s C 0).av fun j=>j=C.pm) W:=⟨hW.rest.1,hW.rest.2.1,hW.rest.2.2,hW.size,fun k e=> .inl e,fun k hk hx=>hW.kept k (by
  rcases Nat.lt_or_ge k C.B with l|m
  ·exact absurd (.inr (.inr l)) hx
  ·exact m) hk⟩
 have g:=(hW.kept C.fb h.fbB (lt_of_block h2)).trans h2;have d:=(hW.kept sb i (lt_of_block hb)).trans hb;have q:=(c.kept b (lt_of_block e3) e2).trans e3;refine⟨⟨_,mdN s,by rw[h.len],by rw[h.len];exact Je _,by omega,fun k x hk=>?_⟩,wm.to (h.env.args.step zn c),by rw[t];exact iB q,⟨_,1,rfl,Je _,by decide,fun k x hk=>⟨sb,0,rfl,lt_of_block d,?_⟩⟩,yF _ rfl,bV s⟩
 ·obtain⟨v,hv,o⟩:=h3 k x hk;exact⟨C.fb,0,rfl,lt_of_block g,v,zA g (by simpa using hv),pf.to (yE.step (X:=(mdK s C 0).av fun j=>j=C.pm) xq o c)⟩
 ·match k,hk with
  |0,hk=>
   have e:sG=x:=Nt hk;subst e
   exact⟨zA d rfl,Jn (Ul jS) Zd⟩
  |k+1,hk=>simp at hk
def sw (k:Nat):Nat:=if k=0 then 1 else k
theorem qC (s:List Int)(k:Nat):yS s (k+1)=yS s k++ [if k=0 then 0 else((tk0 s k 4:Nat):Int)]:=rfl
def seqR:Nat->Code->Code
 |0,c=>c
 |n+1,.seq _ b=>seqR n b
 |_+1,c=>c
noncomputable def madeRest:Code:=(Tryz.f31.body.map (seqR 10)).getD .skip
theorem j9{wc:World}{s:List Int}{sa:Option Addr}{sc rr sb pp pm fb g ac:Nat}(HS:Hid (zY w w.heap.size (.slice sa s.length sc) s))
 (hcut:Hid (MdHd w (.slice sa s.length sc) (Y g (mdN s) ac) rr sb pp db pm (vw s) (Y fb (mdN s) (mdN s)) (yS s (mdN s)) (sP s) wc/\L wc fb (Array.replicate (mdN s) (Value.slice none 0 0)) 39))
 (hq:w.heap.size<=fb) (hm:mdN s-1=m) (u1 u3 u4 u8 u9 gn gl gk gg gd gc ga fz fy fx fr fq fp fo fk fj fi fh fe fd ez ex ew ev eu et es er ep ej ei eh ef ed ec eb ea dz dy dt ds dq dn dm dl dk dj di dh dg dc cz cy cx cw cv cu cr cq cp co cn cl ck cj ci ch cg ce cd cc cb ca bz bx bw bu bt bs br bq bp bo bn bm bl bk bj bi bh H9 H8 H7 H6 H5 H3 H2 H1 H0 G9 G8 G7 G6 G5 G4 G3 G2 G1 G0 F9 F8 F7 F6 F5 F4 F3 F2 F1 F0 E9 E8 E7 E6 E5 E4 E3 E2 E1 E0 D9 D8 D7 D6 D5 D4 D3 D2 D1 D0 C9 C8 C7 C6 C5 C4 C3 C2 C1 C0 B9 B8 B7 B6 B5 B4 B3 B2 B1 B0 A9 A8 A7 A6 A5 A4 A3 A2 A1 A0 z7 z6 z5 z4 z3 z2 z1 z0 y6 y5 y4 y3 y2 y1 y0 x8 x7 x6 w8 w7 w6 w5:Value):
 Code.wp Tryz.prog madeRest (bodyPost Tryz.prog Tryz.f31 (fun e w'=>∃V:PV,e=.returned (yH V (uR s))/\(∀W,StaysL w.heap.size w' W->ProgIn W W.heap.size V (uR s))/\O w w')) ⟨#[.slice sa s.length sc,u1,.pointer (some ⟨rr,0,none⟩),u3,u4,.pointer (some ⟨pp,0,none⟩),.pointer (some ⟨pm,0,none⟩),I (mdN s:Int),u8,u9,gn,gl,gk,gg,gd,gc,ga,fz,fy,fx,fr,fq,fp,fo,fk,fj,fi,fh,fe,fd,ez,ex,ew,ev,eu,et,es,er,ep,ej,ei,eh,ef,ed,ec,eb,ea,dz,dy,dt,ds,dq,dn,dm,dl,dk,dj,di,dh,dg,dc,cz,cy,cx,cw,cv,cu,cr,cq,cp,co,cn,cl,ck,cj,ci,ch,cg,ce,cd,cc,cb,ca,bz,bx,bw,bu,bt,bs,br,bq,bp,bo,bn,bm,bl,bk,bj,bi,bh,H9,H8,H7,H6,H5,H3,H2,H1,H0,G9,G8,G7,G6,G5,G4,G3,G2,G1,G0,F9,F8,F7,F6,F5,F4,F3,F2,F1,F0,E9,E8,E7,E6,E5,E4,E3,E2,E1,E0,D9,D8,D7,D6,D5,D4,D3,D2,D1,D0,C9,C8,C7,C6,C5,C4,C3,C2,C1,C0,B9,B8,B7,B6,B5,B4,B3,B2,B1,B0,A9,A8,A7,A6,A5,A4,A3,A2,A1,A0,z7,z6,z5,z4,z3,z2,z1,z0,y6,y5,y4,y3,y2,y1,y0,x8,x7,x6,w8,w7,w6,w5],[]⟩ wc:=by
 conv=>arg 2;whnf
 have kf:=sm s;have ke:(mdN s:Int)-1=(m:Int):=Zo;have hc:m<mdN s:=Zo;have io:=Ja (Jb trivial hm);clear hm;have n8:=hcut.out.1.at (by rw[hcut.out.2];simp) hq HS.out;have HW:=Ja (Jb hcut.out.1 (Jb (ab1 hcut.out.1.res hcut.out.2 Zd) (ab1 hcut.out.1.bank hcut.out.2 Zd)));obtain⟨C,hC⟩:∃C:MDC,(⟨.slice sa s.length sc,Y g (mdN s) ac,Y db 3 3,Y sb 1 1,pm,pp,fb,rr,w.heap.size⟩:MDC)=C:=⟨_,rfl⟩
 have ax:C.pm=pm:=by rw[<-hC]
 have aw:C.pp=pp:=by rw[<-hC]
 have ay:C.fb=fb:=by rw[<-hC]
 have t6:C.apv=Y g (mdN s) ac:=by rw[<-hC]
 rw[hC] at n8;have HC:=Ja (Jb hC t6);have it:=Ja (show MdAt s C w 0 wc/\qR C wc wc from⟨n8,Je _,fun _ _ _ _=>rfl⟩);subst ax;subst aw;subst ay;have ap:C.rr=rr:=by rw[<-hC]
 subst ap;clear n8 hC t6 hcut;go_wp2
 go_loopw [10] (fun kv wx=>∃k:Nat,k<=mdN s/\kv=I k/\Hid (MdAt s C w k wx/\qR C wc wx)) (fun kv _=>mdN s-(intOf kv).toNat)
 case atStart=>exact⟨0,Jt _,rfl,it⟩
 case round=>
  obtain⟨k,hk,rfl,HK⟩:=hrel
  by_cases e5:k<mdN s
  ·have an:(k:Int)<(mdN s:Int):=Zo;obtain⟨me,cur,id,p9,vv0,q6,a3⟩:=HK.out.1.mkr;have h9:=tU s k;obtain⟨pos,f9⟩:∃pos,(zg s k).2=pos:=⟨_,rfl⟩
   rw[f9] at a3 h9;have i0:pos<=12005:=Zo;have e0:=Ja f9;have c3:=zA (i:=3) a3 rfl;have c4:=zA (i:=4) a3 rfl;have f3:N wr C.pm 3:=zE a3;have f4:N wr C.pm 4:=zE a3;have ag:=lt_of_block a3;have t3:=zD (i:=4) (zD (i:=3) a3 (I k)) (F);have k5:=(Stp.setPm (w:=wr) (pm:=C.pm) (i:=3) (I k)).trans (Stp.setPm (i:=4) (F));have p8:=Ja (Jb t3 k5);clear a3 t3 k5 f9 h9;go_upto_region 25 with fail;generalize hy:(wr.setCell ⟨C.pm,3,none⟩ (I k)).setCell ⟨C.pm,4,none⟩ (F)=W1 at *;have k9:zY W1 C.B C.sv s:=HK.out.1.env.s.below zO (p8.out.2.below (B:=C.B) (fun j e=>by rw[e];exact HK.out.1.pmB) (by rw[HK.out.1.hB];exact HK.out.1.bel.size));have a7:=tf p8.out.1 rfl rfl k9 (n:=3) Zd Zd Zo;have la:=Ja k9;clear k9;clear c3 c4 f3 f4 ag hy;go_upto_region 25 with fail;have gs:=rX s pos (n:=3) Zd;obtain⟨z,hz⟩:∃z,tk0 s pos 3=z:=⟨_,rfl⟩
   rw[hz] at gs;obtain⟨nx,r8⟩:∃nx,z*10=nx:=⟨_,rfl⟩
   have jn:(z:Int)*10=(nx:Int):=Zo;have jb:nx<=20:=Zo;have HZ:=Ja (Jb hz r8);rw[hz] at a7;have j2:=Ja a7;clear hz r8 a7;go_upto_region 28 with(go_at_call 55;go_must (refine j2.out.mono ?_;rintro e W2 ⟨rfl,a9,r6⟩;have c6:=zA (i:=6) a9 rfl;have c7:=zA (i:=7) a9 rfl;have c8:=zA (i:=8) a9 rfl;have f6:N W2 C.pm 6:=zE a9;have f7:N W2 C.pm 7:=zE a9;have f8:N W2 C.pm 8:=zE a9;have q9:=lt_of_block a9;have w3:=Ja (Jb a9 r6);clear a9 r6))
   have s9:=zD (i:=8) (zD (i:=7) (zD (i:=6) w3.out.1 (I nx)) (F)) (I 6);have k4:=((Stp.setPm (w:=W2) (pm:=C.pm) (i:=6) (I nx)).trans (Stp.setPm (i:=7) (F))).trans (Stp.setPm (i:=8) (I 6));generalize hx:((W2.setCell ⟨C.pm,6,none⟩ (I nx)).setCell ⟨C.pm,7,none⟩ (F)).setCell ⟨C.pm,8,none⟩ (I 6)=W3 at *;have f1:=(p8.out.2.trans w3.out.2).trans k4;have d2:=HK.out.1.start e5 (cur:=cur) (next:=nx) (by rw[e0.out];omega) (by rw[e0.out];exact s9) f1;rw[e0.out] at d2
   have gv:∃na:Nat,(yS s (mdN s))[k]? =some (na:Int)/\na<=3:=by
    have hl:k<(yS s (mdN s)).length:=by rw[yY];exact e5
    have:=xy s (mdN s) _ (Uf hl);exact⟨((yS s (mdN s))[k]).toNat,by rw[Jd hl];congr 1;omega,by omega⟩
   obtain⟨na,l9,jv⟩:=gv;have c1:T W3 C.pp 1 (Y g (mdN s) ac):=by rw[<-HC.out.2];exact zA (i:=1) d2.env.prog rfl
   obtain⟨gb,go,s5,r1⟩:=jh d2.env.args (by rw[<-HC.out.2];rfl) l9;have n2:gb=g/\go=0:=by cases s5;exact⟨rfl,rfl⟩
   rw[n2.1,n2.2,Ng] at r1;have f2:C.pp<W3.heap.size:=lt_of_block d2.env.prog;have n6:=rU d2.at (n:=na) (by rw[show(⟨pos+1,[],cur,nx,[],6⟩:MS).sz=pos+1+nx+0+0+0 from rfl];omega);have w2:=Ja n6;have v9:=Ja (Jb f1 l9);clear c6 c7 c8 f6 f7 f8 q9 s9 k4 d2 f1 l9 s5 n2 n6 hx;go_upto_region 29 with(go_at_call 56;go_must (refine w2.out.mono ?_;rintro e W4 ⟨rfl,X4,⟨t7,vv4,l4,e6⟩,r5⟩;have c5:T W4 C.pm 5 (I cur):=e6.c5;have f5:N W4 C.pm 5:=e6.free 5;have al:C.pm<W4.heap.size:=lt_of_block e6.blk;have p4:=Ja (Jb e6 r5);clear e6 r5))
   have a4:MkIn (W4.setCell ⟨C.pm,5,none⟩ (I 0)) (mdK s C k) X4 {(⟨pos+1,[],cur,nx,[],6⟩:MS).block na with cur:=0 } t7 vv4 l4:=(p4.out.1.goto 0).1;have s4:Stp X4 W4 X4 (W4.setCell ⟨C.pm,5,none⟩ (I 0)):=(p4.out.1.goto 0).2;generalize hw:W4.setCell ⟨C.pm,5,none⟩ (I 0)=W5 at *;obtain⟨gf,cf,pa,pc,s6,hh,i2,f0,h64⟩:=a4.parSrc (i:=0) (b:=wJ nx na) rfl;rw[sd] at i2 f0;have s2:l4.length=1:=a4.len;have c4:T W5 C.pm 4 (Y gf 1 cf):=by have h:=a4.c4;rw[s6,s2] at h;exact h
   have c0:T W5 gf 0 (.slice pa na pc):=by rw[Nat.zero_mul] at i2;exact i2
   obtain⟨va,vc,h7⟩:=zG a4.vown;have h8:W5.ownsRow C.B 3 1 (.slice va 0 vc) 0 []:=by have h:=a4.vown;rw[h7] at h;exact h
   have c7:T W5 C.pm 7 (.slice va 0 vc):=by have h:=a4.c7;rw[h7] at h;exact h
   have f7:N W5 C.pm 7:=a4.free 7;have ah:C.pm<W5.heap.size:=lt_of_block a4.blk;have ia:C.B<=W5.heap.size:=a4.size;obtain⟨ij,he,ad,ab,aa⟩:=info_parts Tryz.info_int;have b3:=Ja (Jb a4 (Jb s4 (Jb h64 (Jb f0 (Jb h8 h7)))));clear c1 r1 f2 c5 f5 al a4 s4 h64 f0 h8 h7 s6 s2 i2 hw w2;have nb:=zC b3.out.2.2.2.2.1 b3.out.1.blk (.inr Zd)
   have s0:xD (xC s k) pos= {({(⟨pos+1,[],cur,nx,[],6⟩:MS).block na with cur:=0 }:MS) with vals:=(wJ nx na).params }:=by
    unfold xD;have e1:tkV (xC s k) ⟨pos,[],0,0,[],6⟩ 3*10=nx:=by show tk0 s pos 3*10=nx;rw[HZ.out.1,HZ.out.2]
    have e2:((xC s k).args.getD (xC s k).me 0).toNat=na:=by show((yS s (mdN s)).getD k 0).toNat=na;rw[Jj,v9.out.2];rfl
    simp only;rw[e1,e2];rfl
   have v8:=Ja s0
   have ik:=Ja (show({(⟨pos+1,[],cur,nx,[],6⟩:MS).block na with cur:=0 }:MS).sz+na<=1000000 by
    show pos+1+(nx+na)+1+0+0+na<=1000000
    omega)
   clear s0
   go_cut [] (fun wx=>Hid (∃X6 vv6,MkIn wx (mdK s C k) X6 (xD (xC s k) pos) t7 vv6 l4/\Stp X4 W5 X6 wx))
   case first=>
    go_region_law (first|(refine yG (by rfl) (.tmp 136) (.tmp 144) _ (by rfl) C.B 3 ij (I 0) 1 8 Tryz.underlying22 he ad ab aa rfl Zo (.slice va 0 vc) 0 [] (by rfl) (b3.out.2.2.2.2.1.drew) (.slice pa na pc) na ((wJ nx na).params.map zN) (by rfl) b3.out.2.2.2.1 (by unfold maxLen;omega) Zo Zt ?_;intro aa9 jy w9 r0 b7 ao;have kw:=(b7.cell_far ⟨C.pm,7,none⟩ Zt (Ne.symm nb)).trans c7;have kp:=(b7.frozen_far ⟨C.pm,7,none⟩ Zt (Ne.symm nb)).trans f7))
    all_goals go_wp2_with fail
    all_goals go_meet
    all_goals exact Ja (b3.out.1.started b3.out.2.2.2.2.2 rfl (sd nx na) r0 b7 ao b3.out.2.2.1 ik.out v8.out)
   case rest=>
   obtain⟨X6,vv6,s1,r4⟩:=hcut.out;have l0:Stp (fun j=>j=C.pm) wr X6 wc:=((v9.out.1.trans p4.out.2).trans b3.out.2.1).trans r4;have k3:=sQ (E:=xC s k) (xy s _) pos;have n5:(xD (xC s k) pos).cur<(xD (xC s k) pos).f.length:=by rw[v8.out];exact Nat.zero_lt_one
   have v6:=Ja (OpSt.start s1.at n5);have l2:pC 2=2286:=rfl;have l3:pC 1=538:=rfl;have b2:=Ja (Jb k3 (Jb l2 l3));have bg:=Ja l0;clear s1 r4 l0 k3 n5 l2 l3 c4 c0 c7 f7 ah ia nb hh hcut;go_upto_region 31 with(go_at_call 57;go_must (refine(v6.out.part (pW 2 Zd) (by have h1:=b2.out.1;have h2:=b2.out.2.1;omega)).mono ?_;rintro e W7 ⟨rfl,u6⟩))
   go_upto_region 32 with(go_at_call 57;go_must (refine(u6.out.part (pW 1 Zd) (by have h1:=b2.out.1;have h2:=b2.out.2.1;have h3:=b2.out.2.2;omega)).mono ?_;rintro e W8 ⟨rfl,u5⟩))
   obtain⟨M8,o2⟩:∃M8,zp (xC s k) 1 (zp (xC s k) 2 (xD (xC s k) pos))=M8:=⟨_,rfl⟩
   have l5:OpSt wc (mdK s C k) X6 (xD (xC s k) pos) (0+pC 2+pC 1) W8 M8:=by rw[<-o2];exact u5.out
   obtain⟨X8,ic,vv8,l8,s3,r3⟩:=l5.facts;obtain⟨tb,gx⟩:∃tb,W8.heap.size=tb:=⟨_,rfl⟩
   have d:=Ja (Jb l5 (Jb o2 (Jb s3 (Jb r3 gx))));clear l5 o2 s3 r3 u6 u5 v6;go_upto_region 33 with fail;have n7:=zI (W:=W8) (o:=G #[I 4,I (-1),F] 82) d.out.2.2.2.2;have a5:O W8 (W8.alloc (G #[I 4,I (-1),F] 82)):=(Below.refl _ _).alloc (Je _) _;generalize hu:W8.alloc (G #[I 4,I (-1),F] 82)=W9 at *;have m5:MkIn W9 ((mdK s C k).withZ fun j=>((j=C.fb∨j=C.rr)∨j<C.B)∨j=tb) X8 M8 ic vv8 l8:=d.out.2.2.1.off a5.size ⟨a5.os,a5.tape,a5.output⟩ (fun j hj _=>a5.block j hj) (fun j e=>e.elim .inl (fun e=> .inr (by rw[e,d.out.2.2.2.2];exact Je _))) (fun j e=>e.elim (fun e=>Jy (d.out.2.2.1.env.zl j e) a5.size) (fun e=>by rw[e];exact lt_of_block n7));have d3:C.B<=tb:=by rw[<-d.out.2.2.2.2];exact d.out.2.2.1.size
   have r2:Stp X8 W8 X8 W9:=Stp.of_below a5;have t5:¬X8 tb:=fun e=>by have h1:=d.out.2.2.1.xl _ e;have h2:=d.out.2.2.2.2;omega
   have af:=aaE (xC s k) M8 (n:=10) Zd;obtain⟨b5,b4⟩:∃z,tkV (xC s k) M8 10=z:=⟨_,rfl⟩
   rw[b4] at af
   have e4:xR (xC s k) pos=if b5=0 then M8.tick.endB ⟨5,0,[]⟩ else if b5=1 then M8.tick.endB ⟨4,-1,[]⟩ else(zJ (xC s k) M8.tick).2.endB ⟨4,(zJ (xC s k) M8.tick).1,[]⟩:=by
    unfold xR;simp only;rw[d.out.2.1,b4]
   have k2:M8.sz+10<=1000000:=by
    have h1:=d.out.1.gr.sz;have h2:=b2.out.1;have h3:=b2.out.2.1;have h4:=b2.out.2.2;omega
   have a7:=m8 m5.at (n:=10) Zd Zd Zo
   have k1:A 55 #[Q C.pm,I 10] W9 (yk ((mdK s C k).withZ fun j=>((j=C.fb∨j=C.rr)∨j<C.B)∨j=tb) X8 W9 M8.tick (I b5)):=by
    rw[<-b4];exact a7
   have bb:=Ja k1;have q:=Ja (Jb n7 (Jb m5 (Jb r2 (Jb t5 (Jb e4 (Jb k2 d.out.1.cur))))));clear n7 a5 m5 r2 t5 b4 e4 k2 a7 k1 hu
   go_upto_block 6 with(go_at_call 55;go_must (refine bb.out.mono ?_;rintro e W10 ⟨rfl,X10,⟨jw,vv10,kc,n1⟩,k7⟩;have a2:=Ja (Jb n1 k7);clear n1 k7))
   have a1:=a2.out.2.blk q.out.1 q.out.2.2.2.1;have o1:=a2.out.2.not (lt_of_block q.out.1) q.out.2.2.2.1;have t0:=zA (i:=0) a1 rfl;have t1:=zA (i:=1) a1 rfl;have t2:=zA (i:=2) a1 rfl;have g0:N W10 tb 0:=zE a1;have g1:N W10 tb 1:=zE a1;have g2:N W10 tb 2:=zE a1;have gw:=lt_of_block a1;have e3:=Ja (Jb a1 o1);clear a1 o1
   go_cut [] (fun wx=>Hid (∃(tk ta:Int) (M11:MS) (X11:Nat->Prop),wW wx ((mdK s C k).withZ fun j=>((j=C.fb∨j=C.rr)∨j<C.B)∨j=tb) X11 M11/\Stp X8 W8 X11 wx/\L wx tb #[I tk,I ta,F] 82/\I64 tk/\I64 ta/\M11.endB ⟨tk,ta,[]⟩=xR (xC s k) pos/\M11.cur<M11.f.length))
   case first=>
    by_cases h0:b5=0
    ·subst h0;go_wp2;go_meet;refine Ja ⟨5,0,M8.tick,X10,(((a2.out.1.setZ (a:=⟨tb,0,none⟩) (.inr rfl) d3 _).setZ (a:=⟨tb,1,none⟩) (.inr rfl) d3 _).setZ (a:=⟨tb,2,none⟩) (.inr rfl) d3 _).at,((((q.out.2.2.1.trans a2.out.2).setNew (a:=⟨tb,0,none⟩) (Ul d.out.2.2.2.2) _).setNew (a:=⟨tb,1,none⟩) (Ul d.out.2.2.2.2) _).setNew (a:=⟨tb,2,none⟩) (Ul d.out.2.2.2.2) _),?_,yF _ rfl,yF _ rfl,?_,q.out.2.2.2.2.2.2⟩
     ·rw[zD (zD (zD e3.out.1 _) _) _];rfl
     ·rw[q.out.2.2.2.2.1];simp
    ·by_cases h1:b5=1
     ·subst h1;go_wp2;go_meet;refine Ja ⟨4,-1,M8.tick,X10,a2.out.1.at,q.out.2.2.1.trans a2.out.2,e3.out.1,yF _ rfl,yF _ rfl,?_,q.out.2.2.2.2.2.2⟩;rw[q.out.2.2.2.2.1,if_neg h0];simp
     ·have kj:((b5:Int)==0)=false:=Ze;have kh:((b5:Int)==1)=false:=Ze;have t4:=pu a2.out.1.at q.out.2.2.2.2.2.2 (by have:=q.out.2.2.2.2.2.1;have h:=(zT M8).sz;omega);have k0:=oD a2.out.1.at;obtain⟨xa,h5⟩:∃x,(zJ (xC s k) M8.tick).1=x:=⟨_,rfl⟩
      obtain⟨Ma,j1⟩:∃M,(zJ (xC s k) M8.tick).2=M:=⟨_,rfl⟩
      have h6:I64 xa:=by rw[<-h5];exact k0
      have e8:Ma.cur<Ma.f.length:=by
       rw[<-j1,(yU (xC s k) M8.tick).cur,(yU (xC s k) M8.tick).len];exact q.out.2.2.2.2.2.2
      have n9:A 58 #[Q C.pm] W10 (yk ((mdK s C k).withZ fun j=>((j=C.fb∨j=C.rr)∨j<C.B)∨j=tb) X10 W10 Ma (I xa)):=by
       rw[<-h5,<-j1];exact t4
      have m1:Ma.endB ⟨4,xa,[]⟩=xR (xC s k) pos:=by rw[q.out.2.2.2.2.1,if_neg h0,if_neg h1,h5,j1]
      have iv:=Ja n9;have g4:=Ja (Jb m1 (Jb e8 h6));clear t4 k0 h5 j1 h6 e8 n9 m1;go_wp2_with (go_at_call 58;go_must (refine iv.out.mono ?_;rintro e W11 ⟨rfl,X11,m2,b0⟩;have l:=b0.blk e3.out.1 e3.out.2;have ka:=zA (i:=1) l rfl;have ko:N W11 tb 1:=zE l;have jf:=lt_of_block l;have g6:=Ja (Jb m2 (Jb b0 l));clear m2 b0 l))
      go_meet;obtain⟨az,vv11,gq,d5⟩:=g6.out.1;refine Ja ⟨4,xa,Ma,X11,(d5.setZ (a:=⟨tb,1,none⟩) (.inr rfl) d3 _).at,(((q.out.2.2.1.trans a2.out.2).trans g6.out.2.1).setNew (a:=⟨tb,1,none⟩) (Ul d.out.2.2.2.2) _),?_,yF _ rfl,g4.out.2.2,g4.out.1,g4.out.2.1⟩;rw[zD g6.out.2.2 _];rfl
   case rest=>
   obtain⟨tk,ta,M11,X11,⟨az,vv11,gq,d5⟩,b0,l,m4,o0,e4,e8⟩:=hcut.out;have u0:=zA (i:=0) l rfl;have u1:=zA (i:=1) l rfl;have u2:=zA (i:=2) l rfl;have q7:=lt_of_block l;have n4:=nt (t:=⟨tk,ta,[]⟩) d5.at m4 o0 (yE.nil (sz:=2)) e8;rw[e4] at n4;have ir:=Ja n4;have bc:=Ja b0;clear d5 b0 l m4 o0 e4 e8 n4 hcut t0 t1 t2 g0 g1 g2 gw;go_upto_region 39 with(go_at_call 59;go_must (refine ir.out.mono ?_;rintro e W12 ⟨rfl,X12,⟨g3,vv12,l12,n0⟩,k6⟩;have g5:=Ja (Jb n0 k6);clear n0 k6))
   have a6:MkIn W12 (mdK s C k) X12 (xR (xC s k) pos) g3 vv12 l12:=g5.out.1.off (Z2:=fun j=>(j=C.fb∨j=C.rr)∨j<C.B) (Je _) ⟨rfl,rfl,rfl⟩ (fun _ _ _=>rfl) (fun j e=> .inl (.inl e)) (fun j e=>g5.out.1.env.zl j (.inl e));have d4:Stp (fun j=>j=C.pm) wr X12 W12:=((bg.out.trans d.out.2.2.2.1).trans bc.out).trans g5.out.2;obtain⟨row,hrl,b6,_⟩:=HK.out.1.row;have l7:¬(C.fb=C.pm):=fun e=>HK.out.1.env.zx C.pm rfl (.inl (.inl e.symm))
   have a8:=d4.blk b6 l7;have p0:T W12 C.pp 0 (Y C.fb (mdN s) (mdN s)):=zA (i:=0) a6.env.prog rfl;obtain⟨fa,fc,d7⟩:=zG a6.own;have c4:T W12 C.pm 4 (.slice fa l12.length fc):=by rw[<-d7];exact a6.c4
   obtain⟨rk,d0⟩:∃v,row[k]? =some v:=⟨_,Jd Zo⟩
   have kx:T W12 C.fb k rk:=zA a8 (by simpa using d0);have kt:N W12 C.fb k:=zE a8;have gz:=lt_of_block a6.env.prog;have hn:=lt_of_block a8;have ha:C.pm<W12.heap.size:=lt_of_block a6.blk;have b9:=Ja (Jb a6 (Jb d4 (Jb d7 (Jb a8 d0))));clear a6 d4 d7 b6 a8 d0 u0 u1 u2 q7 l7;refine zt 10 Zk Zk ?_;simp only[Qo,Uc,Qp,Ui]
   repeat (go_big_quiet_step (fail))
   refine wpQuiet_nil ?_;go_wp2;refine⟨⟨k+1,e5,by go_num,Ja ⟨?_,?_⟩⟩,by simp[intOf];omega⟩
   ·rw[<-b9.out.2.2.1];exact HK.out.1.done e5 (by rw[e0.out];exact b9.out.1) b9.out.2.1 (yx s k) ⟨by simp,rfl,rfl,rfl⟩ (fun i hi=>Below.heap_setCell W12 ⟨C.fb,k,none⟩ g3 i hi) (fun cs hcs=>zD (i:=k) hcs g3)
   ·refine⟨Jn HK.out.2.1 (by have:=b9.out.2.1.size;simpa using this),fun b hb h1 h2=>?_⟩;exact(Below.heap_setCell W12 ⟨C.fb,k,none⟩ (.slice fa l12.length fc) b h2).trans ((b9.out.2.1.kept b (Jy hb HK.out.2.1) h1).trans (HK.out.2.2 b hb h1 h2))
  ·have hd:k=mdN s:=Zo;subst hd;have an:¬(mdN s:Int)<(mdN s:Int):=Zo;obtain⟨me,cur,id,p9,vv0,q6,a3⟩:=HK.out.1.mkr
   have i0:(zg s (mdN s)).2<=17005:=by
    have h1:=tU s (mdN s);generalize (zg s (mdN s)).2=y at h1 ⊢;omega
   have a7:A 55 #[Q C.pm,I 12] wr (fun e w'=>∃z:Nat,z<12/\Hid (tk0 s (zg s (mdN s)).2 12=z)/\e=.returned (I z)/\Hid (Stp (fun j=>j=C.pm) wr (fun j=>j=C.pm) w')):=
    (tf a3 rfl rfl (show zY wr C.B C.sv s from HK.out.1.env.s) (n:=12) Zd Zd Zo).mono (fun e w' ⟨h1,h2,h3⟩=>⟨_,rX s _ Zd,Ja rfl,h1,Ja h3⟩)
   have j2:=Ja a7;have c:=HK.out.1.env.prog;obtain⟨hnd,d6⟩:∃h,vw s=h:=⟨_,rfl⟩
   have p3:T wr C.pp 3 (I hnd):=by rw[<-d6];exact zA (i:=3) c rfl
   have f2:=lt_of_block c;have HH:=Ja d6;have n3:qV s=(decide (2<mdN s) && (decide (hnd<0) && decide (tk0 s (zg s (mdN s)).2 12=11))):=by unfold qV;rw[d6]
   have p5:=Ja n3;have o9:=Ja (Stp.refl (fun j=>j=C.pm) wr);clear a3 i0 a7 c d6 n3 e5;go_upto_region 40 with fail
   go_cut [189] (fun v wx=>∃b:Bool,v=.bool b/\Hid ((b=true↔qV s=true)/\Stp (fun j=>j=C.pm) wr (fun j=>j=C.pm) wx))
   case first=>
    by_cases h2:2<mdN s
    ·have o5:(2:Int)<(mdN s:Int):=Zo;have ib:decide ((2:Int)<(mdN s:Int))=true:=by rw[decide_eq_true_iff];exact o5
     have o4:decide (2<mdN s)=true:=by rw[decide_eq_true_iff];exact h2
     by_cases h3:hnd<0
     ·have o3:decide (hnd<0)=true:=by rw[decide_eq_true_iff];exact h3
      have s7:qV s=decide (tk0 s (zg s (mdN s)).2 12=11):=by rw[p5.out,o4,o3,Bool.true_and,Bool.true_and]
      have w1:=Ja s7;clear s7
      by_cases h4:tk0 s (zg s (mdN s)).2 12=11
      ·have H4:=Ja h4;clear h4;go_wp2_with (go_at_call 55;go_must (refine j2.out.mono ?_;rintro e w4 ⟨z,gu,HZ,rfl,p1⟩;obtain rfl:z=11:=HZ.out.symm.trans H4.out))
       go_meet;exact⟨true,rfl,Ja ⟨⟨(fun _=>by rw[w1.out];exact decide_eq_true H4.out),(fun _=>rfl)⟩,p1.out⟩⟩
      ·have H4:=Ja h4;clear h4;go_wp2_with (go_at_call 55;go_must (refine j2.out.mono ?_;rintro e w4 ⟨z,gu,HZ,rfl,p1⟩;have tz:((z:Int)==11)=false:=by rw[beq_eq_false_iff_ne];have:=HZ.out;have:=H4.out;omega))
       go_meet;exact⟨false,rfl,Ja ⟨⟨(fun e=>by cases e),(fun e=>by rw[w1.out] at e;exact absurd (of_decide_eq_true e) H4.out)⟩,p1.out⟩⟩
     ·have o3:decide (hnd<0)=false:=by rw[decide_eq_false_iff_not];exact h3
      go_wp2;go_meet;exact⟨false,rfl,Ja ⟨⟨(fun e=>by cases e),(fun e=>by rw[p5.out,o3] at e;simp at e)⟩,o9.out⟩⟩
    ·have o5:¬(2:Int)<(mdN s:Int):=Zo;have ib:decide ((2:Int)<(mdN s:Int))=false:=by rw[decide_eq_false_iff_not];exact o5
     have o4:decide (2<mdN s)=false:=by rw[decide_eq_false_iff_not];exact h2
     go_wp2;go_meet;exact⟨false,rfl,Ja ⟨⟨(fun e=>by cases e),(fun e=>by rw[p5.out,o4] at e;simp at e)⟩,o9.out⟩⟩
   case rest=>
   obtain⟨b,rfl,c2⟩:=hcut;have b8:=HK.out.1.fin.step c2.out.2;have i1:qR C wr wc:=⟨c2.out.2.size,fun b hb h1 _=>c2.out.2.kept b hb h1⟩
   obtain⟨row,hrl,b6,_⟩:=b8.row;have p0:T wc C.pp 0 (Y C.fb (mdN s) (mdN s)):=zA (i:=0) b8.env.prog rfl;obtain⟨rk,d0⟩:∃v,row[m]? =some v:=⟨_,Jd Zo⟩
   have ii:T wc C.fb m rk:=zA b6 (by simpa using d0);have ih:N wc C.fb m:=zE b6;have ix:=lt_of_block b8.env.prog;have je:=lt_of_block b6;have g8:=Ja (Jb b8 i1);clear b8 i1 hrl b6 d0 p3 f2
   go_upto_if 189 with fail
   go_cut [] (fun wx=>Hid (MdFin s C w (if qV s then(zg s (mdN s)).1.set (mdN s-1) [] else(zg s (mdN s)).1) wx/\qR C wr wx))
   case first=>
    cases b
    ·go_wp2;go_meet
     have e:qV s=false:=by
      cases h:qV s
      ·rfl
      ·exact absurd (c2.out.1.2 h) Zs
     rw[e];exact g8
    ·go_wp2;go_meet;have e:qV s=true:=c2.out.1.1 (by trivial);rw[e,io.out.2];exact Ja ⟨g8.out.1.ext hc,g8.out.2.trans ⟨by simp,fun b hb _ h2=>Below.heap_setCell _ _ _ _ h2⟩⟩
   case rest=>
   have HE:=hcut;have c:=HE.out.1.env.prog;have m3:=HK.out.2.trans HE.out.2;have a0:=m3.blk HW.out.1.res HW.out.1.nes.2.2.2.1 HW.out.2.1;have i9:=m3.blk HW.out.1.bank HW.out.1.nes.2.2.2.2.2.2.1 HW.out.2.2;have q0:T wc C.pp 0 (Y C.fb (mdN s) (mdN s)):=zA (i:=0) c rfl;have q1:T wc C.pp 1 (Y g (mdN s) ac):=by rw[<-HC.out.2];exact zA (i:=1) c rfl
   have q2:T wc C.pp 2 (I 0):=zA (i:=2) c rfl;have q3:T wc C.pp 3 (I (vw s)):=zA (i:=3) c rfl;have q4:T wc C.pp 4 (Y db 3 3):=(zA (i:=4) c rfl).trans (by rw[<-HC.out.1];rfl);have q5:T wc C.pp 5 (Y sb 1 1):=(zA (i:=5) c rfl).trans (by rw[<-HC.out.1];rfl);have jk:=lt_of_block c;have v0:=zA (i:=0) a0 rfl;have v1:=zA (i:=1) a0 rfl;have v2:=zA (i:=2) a0 rfl;have v3:=zA (i:=3) a0 rfl;have v4:=zA (i:=4) a0 rfl;have v5:=zA (i:=5) a0 rfl;have vf:∀i,N wc C.rr i:=fun i=>zE a0
   have jj:=lt_of_block a0;have t8:=Ja (Jb i9 a0);clear c m3 a0 i9 ii ih p0;go_wp2;have d1:C.fb≠C.rr:=fun e=>HW.out.2.1 e.symm
   have e7:=(((((HE.out.1.stepA (a:=⟨C.rr,0,none⟩) rfl d1 (Y C.fb (mdN s) (mdN s))).stepA (a:=⟨C.rr,1,none⟩) rfl d1 (Y g (mdN s) ac)).stepA (a:=⟨C.rr,2,none⟩) rfl d1 (I 0)).stepA (a:=⟨C.rr,3,none⟩) rfl d1 (I (vw s))).stepA (a:=⟨C.rr,4,none⟩) rfl d1 (Y db 3 3)).stepA (a:=⟨C.rr,5,none⟩) rfl d1 (Y sb 1 1);have b1:=zD (i:=5) (zD (i:=4) (zD (i:=3) (zD (i:=2) (zD (i:=1) (zD (i:=0) t8.out.2 (Y C.fb (mdN s) (mdN s))) (Y g (mdN s) ac)) (I 0)) (I (vw s))) (Y db 3 3)) (Y sb 1 1);have c9:sb≠C.rr:=fun e=>HW.out.1.nes.1 e.symm
   have s8:=zR (a:=⟨C.rr,5,none⟩) (u:=Y sb 1 1) (zR (a:=⟨C.rr,4,none⟩) (u:=Y db 3 3) (zR (a:=⟨C.rr,3,none⟩) (u:=I (vw s)) (zR (a:=⟨C.rr,2,none⟩) (u:=I 0) (zR (a:=⟨C.rr,1,none⟩) (u:=Y g (mdN s) ac) (zR (a:=⟨C.rr,0,none⟩) (u:=Y C.fb (mdN s) (mdN s)) t8.out.1 c9) c9) c9) c9) c9) c9;generalize ht:(((((wc.setCell ⟨C.rr,0,none⟩ (Y C.fb (mdN s) (mdN s))).setCell ⟨C.rr,1,none⟩ (Y g (mdN s) ac)).setCell ⟨C.rr,2,none⟩ (I 0)).setCell ⟨C.rr,3,none⟩ (I (vw s))).setCell ⟨C.rr,4,none⟩ (Y db 3 3)).setCell ⟨C.rr,5,none⟩ (Y sb 1 1)=WF at *;have x0:=zA (i:=0) b1 rfl;have x1:=zA (i:=1) b1 rfl;have x2:=zA (i:=2) b1 rfl;have x3:=zA (i:=3) b1 rfl;have x4:=zA (i:=4) b1 rfl;have x5:=zA (i:=5) b1 rfl;have kd:=lt_of_block b1;have l1:=e7.prog s8 (by rw[e7.hB];exact HW.out.1.ges.2.1);have eC:C.apv=Y g (mdN s) ac:=HC.out.2;have eD:C.dv=Y db 3 3:=by rw[<-HC.out.1]
   rw[eC,eD,e7.hB] at l1;have w0:=Ja (Jb e7.bel l1);clear e7 b1 s8 l1 eC eD ht v0 v1 v2 v3 v4 v5 vf q0 q1 q2 q3 q4 q5;refine bodyPost_ret (v:=.agg #[Y C.fb (mdN s) (mdN s),Y g (mdN s) ac,I 0,I (vw s),Y db 3 3,Y sb 1 1]) ?_ rfl ⟨⟨Y C.fb (mdN s) (mdN s),Y g (mdN s) ac,Y db 3 3,Y sb 1 1⟩,rfl,w0.out.2,w0.out.1⟩;rw[zM rfl];go_simp
end Go.Proofs.YtoahcpkibpomcaaGreat
