/- Part of a proof. -/
import Derived.Test.YtoahcpkibpomcaaGreatGVfw
set_option linter.all false
set_option maxHeartbeats 8000000
set_option maxRecDepth 100000
namespace Go.Proofs.YtoahcpkibpomcaaGreat
open Go.RowKit
variable {w w' w0 w1 wx:World}{o:Obj}{db i m:Nat}{K:MKC}{X:Nat->Prop}{M:MS}{vv:Value}{l:List BM}
theorem mk_bank (W:World):(Instr.makeSlice 49 (U 4096) (U 4096)).run Tryz.prog W=.ok (F W.heap.size 4096 4096) (W.alloc (I (madeCells #[.int .u8 0] 4096) 5)):=
 run_make_row' (P:=Tryz.prog) 49 5 (.int .u8 0) 1 Tryz.underlying49 Tryz.info_u8 rfl .i64 .i64 4096 Zd Zd W
def dataC:Array Value:=#[U (-1),Y 16384,Y 16,U (-1),Y 16640,Y 7,U 0,Y 128,Y 32]
structure MdHd (w:World) (sv av:Value) (rr sb pp db pm:Nat) (hnd:Int) (fpv:Value) (args:List Int) (pos:Nat) (wx:World):Prop where
 res:wx.heap[rr]? =some (.cells #[.slice none 0 0,.slice none 0 0,.int .i64 0,.int .i64 0,.slice none 0 0,.slice none 0 0] 29 (0,0))
 bank:wx.heap[sb]? =some (.cells #[.string sG] 9 (0,0))
 prog:wx.heap[pp]? =some (.cells #[fpv,av,.int .i64 0,.int .i64 hnd,.slice (some ⟨db,0,none⟩) 3 3,.slice (some ⟨sb,0,none⟩) 1 1] 29 (0,0))
 data:wx.heap[db]? =some (.cells dataC 89 (0,0))
 mkr:wx.heap[pm]? =some (.cells #[sv,.int .i64 (pos:Int),.pointer (some ⟨pp,0,none⟩),.int .i64 0,.slice none 0 0,.int .i64 0,.int .i64 0,.slice none 0 0,.int .i64 0] 128 (0,0))
 own:wx.ownsRow w.heap.size 3 1 av args.length (args.map zN)
 bel:Below w.heap.size w wx
 ges:w.heap.size<=rr/\w.heap.size<=sb/\w.heap.size<=pp/\w.heap.size<=db/\w.heap.size<=pm
 nes:rr≠sb/\rr≠pp/\rr≠db/\rr≠pm/\sb≠pp/\sb≠db/\sb≠pm/\pp≠db/\pp≠pm/\db≠pm
theorem md_setup{wr:World}{sv:Value}{rr:Nat}(c:w.heap.size=rr)(hr:O wr rr #[L,L,U 0,U 0,L,L] 29)(hb:Below rr w wr):
 MdHd w sv (L) rr wr.heap.size (wr.heap.size+1) (wr.heap.size+1+1) (wr.heap.size+1+1+1) (-1) (L) [] 0
  ((((wr.alloc (I #[.string sG] 9)).alloc (I #[L,L,U 0,U (-1),F (wr.heap.size+1+1) 3 3,F wr.heap.size 1 1] 29)).alloc (I #[U (-1),Y 16384,Y 16,U (-1),Y 16640,Y 7,U 0,Y 128,Y 32] 89)).alloc
    (I #[sv,U 0,Q (wr.heap.size+1),U 0,L,U 0,U 0,L,U 0] 128)):=by
 have hl:=lt_of_block hr;have d:rr<=wr.heap.size:=Zo;refine⟨zB (zB (zB (zB hr))),zB (zB (zB (zI rfl))),zB (zB (zI Zs)),zB (zI Zs),zI Zs,Jv _ _ _ _,?_,?_,?_⟩
 ·subst c;exact(((hb.alloc d _).alloc Zt _).alloc Zt _).alloc Zt _
 ·omega
 ·omega
section
variable {w:World} {sv av:Value} {rr sb pp db pm:Nat} {hnd:Int} {fpv:Value} {args:List Int} {pos:Nat} {wx:World} (h:MdHd w sv av rr sb pp db pm hnd fpv args pos wx)
include h
theorem MdHd.tick(hb:O w' pm (#[sv,U pos,Q pp,U 0,L,U 0,U 0,L,U 0].setIfInBounds 1 (U ((pos+1:Nat):Int))) 128)(hs:Stp (fun j=>j=pm) wx (fun j=>j=pm) w'):
 MdHd w sv av rr sb pp db pm hnd fpv args (pos+1) w':=by
 obtain⟨n1,n2,n3,n4,n5,n6,n7,n8,n9,c⟩:=h.nes;refine⟨hs.blk h.res n4,hs.blk h.bank n7,hs.blk h.prog n9,hs.blk h.data c,hb,yD h.own (fun k e=>hs.kept k (h.own.lt k e).2 (fun e2=>?_)),h.bel.trans ((hs.below (B:=w.heap.size) (fun k e=>by rw[e];exact h.ges.2.2.2.2) h.bel.size)),h.ges,h.nes⟩;exact zC h.own h.mkr (.inr Zd) (by rw[e,e2])
theorem MdHd.push{w3:World}{av':Value}{x:Int}(hg:(wx.alloc o).grownBy w3 av.ownBlock)(c:w3.ownsRow w.heap.size 3 1 av' (args.length+1) (args.map zN++ [zN x])):
 MdHd w sv av' rr sb pp db pm hnd fpv (args++ [x]) pos (w3.setCell ⟨pp,1,none⟩ av'):=by
 obtain⟨n1,n2,n3,n4,n5,n6,n7,n8,n9,i⟩:=h.nes;have hb:∀ {b:Nat} {cs:Array Value} {t:TypeId},O wx b cs t->3≠t->O w3 b cs t:=fun hb hne=>zL hg (zB hb) (zC h.own hb (.inr hne))
 have d:=hb h.prog Zd;have g:wx.heap.size<=w3.heap.size:=by have:=hg.size;simp at this;omega
 refine⟨zR (hb h.res Zd) n2,zR (hb h.bank Zd) n5,?_,zR (hb h.data Zd) (fun e=>n8 e.symm),zR (hb h.mkr Zd) (fun e=>n9 e.symm),?_,?_,h.ges,h.nes⟩
 ·rw[zD d];rfl
 ·rw[Jk,Ju,Js];exact ownsRow_setCell_other c (fun e=>zC c d (.inr Zd) (by simpa using e)) _
 ·have h1:Below w.heap.size wx w3:=by
   refine⟨hg.os,hg.tape,hg.output,g,fun k hk=>?_⟩;exact(hg.block k (by have:=h.bel.size;simp;omega) (fun e=>by have:=(h.own.lt k e.symm).1;omega)).trans (Below.heap_alloc wx o k (Jy hk h.bel.size))
  exact h.bel.trans (h1.setCell h.ges.2.2.1 _)
end
theorem mk_funcs (n:Nat)(j:n<=4)(W:World):(Instr.makeSlice 25 (U n) (U n)).run Tryz.prog W=.ok (F W.heap.size n n) (W.alloc (I (List.replicate n (Value.slice none 0 0)).toArray 39)):=by
 obtain⟨i,hi,g,d,c⟩:=info_parts Tryz.info_irfunc;have h:=run_make (P:=Tryz.prog) W 25 39 i (.agg #[L]) Tryz.underlying25 hi g .i64 .i64 n n Zo (Og _) (by rw[c];omega) Zo;rw[Ni,d,Nk] at h;rw[h];have e:madeCells (Value.agg #[L]).cells n=(List.replicate n (Value.slice none 0 0)).toArray:=yA _ _;rw[e]
theorem MdHd.funcs{sv av:Value}{rr sb pp pm:Nat}{hnd:Int}{fpv:Value}{args:List Int}{pos:Nat}(h:MdHd w sv av rr sb pp db pm hnd fpv args pos wx)(o:Obj)(u:Value):
 MdHd w sv av rr sb pp db pm hnd u args pos ((wx.setCell ⟨pp,0,none⟩ u).alloc o):=by
 obtain⟨n1,n2,n3,n4,n5,n6,n7,n8,n9,c⟩:=h.nes;refine⟨zB (zR h.res n2),zB (zR h.bank n5),zB ?_,zB (zR h.data (fun e=>n8 e.symm)),zB (zR h.mkr (fun e=>n9 e.symm)),?_,(h.bel.setCell h.ges.2.2.1 _).alloc (by simpa using h.bel.size) _,h.ges,h.nes⟩
 ·rw[zD h.prog];rfl
 ·exact(ownsRow_setCell_other h.own (fun e=>zC h.own h.prog (.inr Zd) (by simpa using e)) _).alloc _
theorem MdHd.hnd{sv av:Value}{rr sb pp pm:Nat}{hnd:Int}{fpv:Value}{args:List Int}{pos:Nat}(h:MdHd w sv av rr sb pp db pm hnd fpv args pos wx)(x:Int):
 MdHd w sv av rr sb pp db pm x fpv args pos (wx.setCell ⟨pp,3,none⟩ (U x)):=by
 obtain⟨n1,n2,n3,n4,n5,n6,n7,n8,n9,c⟩:=h.nes;refine⟨zR h.res n2,zR h.bank n5,?_,zR h.data (fun e=>n8 e.symm),zR h.mkr (fun e=>n9 e.symm),?_,h.bel.setCell h.ges.2.2.1 _,h.ges,h.nes⟩
 ·rw[zD h.prog];rfl
 ·exact ownsRow_setCell_other h.own (fun e=>zC h.own h.prog (.inr Zd) (by simpa using e)) _
theorem ab1{a b:Nat}{ca cb:Array Value}{ta tb:TypeId}(d:O w a ca ta)(hb:O w b cb tb)(c:ta≠tb):a≠b:=fun e=>by
 subst e;rw[d] at hb
 injection hb with h3
 injection h3 with _ h4
 exact c h4
theorem bV (s:List Int):I64 (vw s):=by
 have:=sm s;unfold vw
 split
 ·exact vG _ Zo Zo
 ·exact yF _ rfl
theorem MdHd.at{s:List Int}{sv av:Value}{rr sb pp pm fb:Nat}(h:MdHd w sv av rr sb pp db pm (vw s) (F fb (mdN s) (mdN s)) (yS s (mdN s)) (sP s) wx)
 (c:O wx fb (List.replicate (mdN s) (Value.slice none 0 0)).toArray 39) (hB:w.heap.size<=fb) (hs:zY w w.heap.size sv s):
 MdAt s ⟨sv,av,F db 3 3,F sb 1 1,pm,pp,fb,rr,w.heap.size⟩ w 0 wx:=by
 obtain⟨n1,n2,n3,n4,n5,n6,n7,n8,n9,l⟩:=h.nes;have g:pm≠fb:=ab1 h.mkr c Zd;have d:pp≠fb:=ab1 h.prog c Zd;have i:db≠fb:=ab1 h.data c Zd;have m:=sm s;refine⟨⟨hs.below zO h.bel,⟨_,_,rfl⟩,h.prog,?_,⟨db,rfl,fun e=>e.elim (fun e=>l e) (fun e=>e.elim (fun e=>e.elim (fun e=>i e) (fun e=>n3 e.symm)) (fun e=>by have h1:=h.ges.2.2.2.1;have e':db<w.heap.size:=e;omega)),h.data⟩,fun e=>e.elim (fun e=>n9 e) (fun e=>e.elim (fun e=>e.elim (fun e=>d e) (fun e=>n2 e.symm)) (fun e=>by have h1:=h.ges.2.2.1;have e':pp<w.heap.size:=e;omega)),bV s,yY s _,⟨m.2,m.1⟩,xy s _,fun k e e2=>e2.elim (fun e2=>e2.elim (fun e2=>g (e.symm.trans e2)) (fun e2=>n4 (e2.symm.trans e))) (fun e2=>by have h1:k=pm:=e;have h2:k<w.heap.size:=e2;have h3:=h.ges.2.2.2.2;omega),fun k e=>e.elim (fun e=>e.elim (fun e=>by rw[show k=fb from e];exact lt_of_block c) (fun e=>by rw[show k=rr from e];exact lt_of_block h.res)) (fun e=>by have h2:k<w.heap.size:=e;have h3:=h.bel.size;omega)⟩,⟨_,0,_,_,_,_,h.mkr⟩,⟨_,by simp,c,fun j x hj=>?_⟩,h.bel,rfl,h.ges.2.2.2.2,hB,h.ges.1⟩
 ·refine rO h.own rfl (fun x hx=>?_) (fun k e e2=>?_)
  ·have:=xy s _ x hx;exact vG _ Zo Zo
  ·rcases e2 with e2|(e2|e2)|e2
   ·exact zC h.own h.mkr (.inr Zd) (e.trans (congrArg some e2))
   ·exact zC h.own c (.inr Zd) (e.trans (congrArg some e2))
   ·exact zC h.own h.res (.inr Zd) (e.trans (congrArg some e2))
   ·have h1:=(h.own.lt k e).1;have h2:k<w.heap.size:=e2;omega
 ·have e:(zg s 0).1=[]:=rfl;rw[e] at hj;simp at hj
def qR (C:MDC)(w wx:World):Prop:=w.heap.size<=wx.heap.size/\∀b,b<w.heap.size->b≠C.pm->b≠C.fb->wx.heap[b]? =w.heap[b]?
theorem MkIn.parSrc{fv:Value}(h:MkIn w K X M fv vv l){b:IBlk}(hb:M.f[i]? =some b):
 ∃g c pa pc,fv=F g l.length c/\g<w.heap.size/\A w g (i*5) (.slice pa b.params.length pc)/\yM w 1 (.slice pa b.params.length pc) b.params.length (b.params.map zN)/\∀x∈b.params,I64 x:=by
 obtain⟨q,o,rfl,d⟩:=h.getB hb;obtain⟨g,c,j,a1,u,a0⟩:=h.fblk o;have m:=z9 yr h.own (by rw[j];rfl) o;have e0:A w g (i*5) q.pv:=m 0 _ rfl;have hp:=wm.to d.par;obtain⟨pa,pc,t,h1,h2,h3⟩:=d.par;rw[t] at hp e0;refine⟨g,c,pa,pc,j,u,e0,zY.src hp,fun x hx=>?_⟩;obtain⟨k,hk⟩:=List.mem_iff_getElem?.1 hx;obtain⟨_,_,_,_,_,_,y⟩:=h3 k x hk;exact y
theorem Stp.setPm{pm:Nat}(u:Value):Stp (fun j=>j=pm) w (fun j=>j=pm) (w.setCell ⟨pm,i,none⟩ u):=
 ⟨rfl,rfl,rfl,by simp,fun _ h=> .inl h,fun k hk hx=>Below.heap_setCell _ _ _ _ (fun e=>hx (by rw[e]))⟩
theorem MkIn.started{W w9:World}{M':MS}{fv:Value}{va aa:Option Addr}{vc c n:Nat}{xs:List Int}(h:MkIn W K X M fv vv l)(g:vv=.slice va 0 vc)(hv:M.vals=[])(t:xs.length=n)
 (d:w9.ownsRow K.B 3 1 (.slice aa (0+n) c) (0+n) ([]++xs.map zN)) (hg:W.drew.grownBy w9 (Value.slice va 0 vc).ownBlock) (i:(Value.slice aa (0+n) c).ownBlock=(Value.slice va 0 vc).ownBlock∨(Value.slice aa (0+n) c).ownBlock=some W.drew.heap.size)
 (o:∀x∈xs,I64 x) (m:M.sz+n<=1000000) (u:M'= {M with vals:=xs }):∃X6 vv6,MkIn (w9.setCell ⟨K.pm,7,none⟩ (.slice aa n c)) K X6 M' fv vv6 l/\Stp X W X6 (w9.setCell ⟨K.pm,7,none⟩ (.slice aa n c)):=by
 rw[Ng,Op] at d;rw[Ng,<-g] at i;rw[<-g] at hg;subst t u;have k:=(h.keep (Below.refl _ _).drew).putVs hg (xs:=xs) (n:=xs.length) (by rw[hv];simp) (by rw[hv];exact d) (fun j e=>?_) o m
 ·rw[hv,Op] at k;exact⟨_,_,k.1,(Stp.of_below (Below.refl _ _).drew).trans k.2⟩
 ·rcases i with e2|e2
  ·exact .inl (e2.symm.trans e)
  ·right;have e3:=e2.symm.trans e;simp at e3;simp;omega
theorem Stp.setNew{X':Nat->Prop}(h:Stp X w X' w'){a:Addr}(c:w.heap.size<=a.block)(u:Value):Stp X w X' (w'.setCell a u):=
 ⟨h.os,h.tape,h.output,by simpa using h.size,h.new,fun k hk hx=>(Below.heap_setCell _ _ _ _ Zo).trans (h.kept k hk hx)⟩
theorem MkIn.setZ{fv:Value}(h:MkIn w K X M fv vv l){a:Addr}(c:K.Z a.block)(hB:K.B<=a.block)(u:Value):MkIn (w.setCell a u) K X M fv vv l:=
 h.off (Z2:=K.Z) Zs ⟨rfl,rfl,rfl⟩ (fun k _ hz=>Below.heap_setCell _ _ _ _ (fun e=>by have h1:=hz (by rw[e];exact c);omega)) (fun k e=> .inl e) (fun k e=>by simpa using h.env.zl k e)
structure MdFin (s:List Int) (C:MDC) (w0:World) (fs:List (List IBlk)) (wx:World):Prop where
 env:MkEnv wx (mdK s C 0) (fun j=>j=C.pm)
 row:∃hs:List Value,hs.length=mdN s/\wx.heap[C.fb]? =some (.cells hs.toArray 39 (0,0))/\∀(j:Nat) (x:List IBlk),fs[j]? =some x->∃v:Value,hs[j]? =some v/\pf wx (fun i=>i=C.pm∨((i=C.fb∨i=C.rr)∨i<C.B)) v x
 bel:Below w0.heap.size w0 wx
 len:fs.length=mdN s
 hB:C.B=w0.heap.size
 pmB:C.B<=C.pm
 fbB:C.B<=C.fb
 rrB:C.B<=C.rr
theorem MdAt.fin{s:List Int}{C:MDC}(h:MdAt s C w0 (mdN s) wx):MdFin s C w0 (zg s (mdN s)).1 wx:=⟨h.env,h.row,h.bel,yx s _,h.hB,h.pmB,h.fbB,h.rrB⟩
theorem MdFin.step {s:List Int}{C:MDC}{w0 wx w':World}{fs:List (List IBlk)}(h:MdFin s C w0 fs wx)(hs:Stp (fun j=>j=C.pm) wx (fun j=>j=C.pm) w'):MdFin s C w0 fs w':=by
 obtain⟨row,h1,h2,h3⟩:=h.row;have hb:Below C.B wx w':=hs.below (fun k e=>by rw[e];exact h.pmB) (by rw[h.hB];exact h.bel.size);refine⟨h.env.step hs hb,⟨row,h1,hs.blk h2 (fun e=>h.env.zx C.pm rfl (.inl (.inl e.symm))),fun j x hj=>?_⟩,h.bel.trans (by rw[<-h.hB];exact hb),h.len,h.hB,h.pmB,h.fbB,h.rrB⟩;obtain⟨v,hv,c⟩:=h3 j x hj;exact⟨v,hv,yE.step (X:=(mdK s C 0).av fun j=>j=C.pm) xq c (hs.av (mdK s C 0))⟩
theorem MdFin.stepA{s:List Int}{C:MDC}{fs:List (List IBlk)}(h:MdFin s C w0 fs wx){a:Addr}(d:a.block=C.rr)(l:C.fb≠C.rr)(u:Value):MdFin s C w0 fs (wx.setCell a u):=by
 obtain⟨row,h1,h2,h3⟩:=h.row;have g:=h.rrB;have hb:Below C.B wx (wx.setCell a u):=(Below.refl _ _).setCell (by rw[d];exact g) _;have c:Stp ((mdK s C 0).av fun j=>j=C.pm) wx ((mdK s C 0).av fun j=>j=C.pm) (wx.setCell a u):=⟨rfl,rfl,rfl,by simp,fun k e=> .inl e,fun i _ hx=>Below.heap_setCell _ _ _ _ (fun e=>hx (.inr (.inl (.inr (e.trans d)))))⟩
 refine⟨h.env.stepA c hb,⟨row,h1,zR h2 (by rw[d];exact l),fun j x hj=>?_⟩,h.bel.trans (by rw[<-h.hB];exact hb),h.len,h.hB,h.pmB,h.fbB,h.rrB⟩;obtain⟨v,hv,m⟩:=h3 j x hj;exact⟨v,hv,yE.step (X:=(mdK s C 0).av fun j=>j=C.pm) xq m c⟩
theorem MdFin.ext{s:List Int}{C:MDC}{fs:List (List IBlk)}(h:MdFin s C w0 fs wx)(hm:m<mdN s):MdFin s C w0 (fs.set m []) (wx.setCell ⟨C.fb,m,none⟩ (L)):=by
 obtain⟨row,h1,h2,h3⟩:=h.row;have d:=h.fbB;have hb:Below C.B wx (wx.setCell ⟨C.fb,m,none⟩ (L)):=(Below.refl _ _).setCell d _;have c:Stp ((mdK s C 0).av fun j=>j=C.pm) wx ((mdK s C 0).av fun j=>j=C.pm) (wx.setCell ⟨C.fb,m,none⟩ (L)):=⟨rfl,rfl,rfl,by simp,fun k e=> .inl e,fun i _ hx=>Below.heap_setCell _ _ _ _ (fun e=>hx (.inr (.inl (.inl e))))⟩
 refine⟨h.env.stepA c hb,⟨row.set m (L),by rw[Nd];exact h1,by rw[zD h2];simp,fun j x hj=>?_⟩,h.bel.trans (by rw[<-h.hB];exact hb),by rw[Nd];exact h.len,h.hB,h.pmB,h.fbB,h.rrB⟩
 by_cases e:m=j
 ·subst e
  have e2:x=[]:=by
   rw[Nn (by rw[h.len];exact hm)] at hj;exact(Nt hj).symm
  subst e2;exact⟨L,Nn Zo,yE.nil⟩
 ·rw[Ns e] at hj;obtain⟨v,hv,g⟩:=h3 j x hj;exact⟨v,by rw[Ns e];exact hv,yE.step (X:=(mdK s C 0).av fun j=>j=C.pm) xq g c⟩
theorem qR.trans{C:MDC}{w2:World}(h:qR C w w1)(k:qR C w1 w2):qR C w w2:=⟨Jn h.1 k.1,fun b hb h1 h2=>(k.2 b (Jy hb h.1) h1 h2).trans (h.2 b hb h1 h2)⟩
theorem qR.blk{C:MDC}(h:qR C w w1){b:Nat}(hb:w.heap[b]? =some o)(h1:b≠C.pm)(h2:b≠C.fb):w1.heap[b]? =some o:=(h.2 b (lt_of_block hb) h1 h2).trans hb
theorem iB{b:Nat}(h:O w b #[U (-1),Y 16384,Y 16,U (-1),Y 16640,Y 7,U 0,Y 128,Y 32] 89):kq w w.heap.size (F b 3 3) am:=by
 refine⟨_,3,rfl,by decide,by decide,fun k x hk=>⟨b,0,rfl,lt_of_block h,?_⟩⟩
 match k,hk with
 |0,hk=>cases hk;exact⟨zA h rfl,zA h rfl,zA h rfl,yF _ rfl,by decide,by decide⟩
 |1,hk=>cases hk;exact⟨zA h rfl,zA h rfl,zA h rfl,yF _ rfl,by decide,by decide⟩
 |2,hk=>cases hk;exact⟨zA h rfl,zA h rfl,zA h rfl,yF _ rfl,by decide,by decide⟩
 |k+3,hk=>exact absurd (Jh.1 hk).1 (by show ¬k+3<3;omega)
theorem jS:sG.size=4096:=by
 rw[<-mq,mG];simp[iu]
structure StaysL (L:Nat) (w W:World):Prop where
 size:w.heap.size<=W.heap.size
 rest:W.os=w.os/\W.tape=w.tape/\W.output=w.output
 kept:∀k,L<=k->k<w.heap.size->W.heap[k]? =w.heap[k]?
theorem StaysL.refl (L:Nat)(w:World):StaysL L w w:=⟨Je _,⟨rfl,rfl,rfl⟩,fun _ _ _=>rfl⟩
theorem MdFin.prog{s:List Int}{C:MDC}{fs:List (List IBlk)}{sb:Nat}(h:MdFin s C w0 fs wx)(hb:O wx sb #[.string sG] 9)(i:C.B<=sb):∀W,StaysL C.B wx W->
 ProgIn W W.heap.size ⟨F C.fb (mdN s) (mdN s),C.apv,C.dv,F sb 1 1⟩ ⟨fs,yS s (mdN s),0,vw s,am,[sG]⟩:=fun W hW=>by
 obtain⟨row,h1,h2,h3⟩:=h.row;obtain⟨b,e1,e2,e3⟩:=h.env.data;have w:=sm s;have u:C.dv=F b 3 3:=e1
 have c:Stp ((mdK s C 0).av fun j=>j=C.pm) wx ((mdK s C 0).av fun j=>j=C.pm) W:=⟨hW.rest.1,hW.rest.2.1,hW.rest.2.2,hW.size,fun k e=> .inl e,fun k hk hx=>hW.kept k (by
  rcases Nat.lt_or_ge k C.B with l|m
  ·exact absurd (.inr (.inr l)) hx
  ·exact m) hk⟩
 have g:=(hW.kept C.fb h.fbB (lt_of_block h2)).trans h2;have d:=(hW.kept sb i (lt_of_block hb)).trans hb;have t:=(c.kept b (lt_of_block e3) e2).trans e3;refine⟨⟨_,mdN s,by rw[h.len],by rw[h.len];exact Je _,by omega,fun k x hk=>?_⟩,wm.to (h.env.args.step wb c),by rw[u];exact iB t,⟨_,1,rfl,Je _,by decide,fun k x hk=>⟨sb,0,rfl,lt_of_block d,?_⟩⟩,yF _ rfl,bV s⟩
 ·obtain⟨v,hv,o⟩:=h3 k x hk;exact⟨C.fb,0,rfl,lt_of_block g,v,zA g (by simpa using hv),pf.to (yE.step (X:=(mdK s C 0).av fun j=>j=C.pm) xq o c)⟩
 ·match k,hk with
  |0,hk=>
   have e:sG=x:=Nt hk;subst e
   exact⟨zA d rfl,Jn (Ul jS) Zd⟩
  |k+1,hk=>simp at hk
def sw (k:Nat):Nat:=if k=0 then 1 else k
theorem qC (s:List Int)(k:Nat):yS s (k+1)=yS s k++ [if k=0 then 0 else((tk0 s k 4:Nat):Int)]:=rfl
def seqR:Nat->Code->Code
 |0,c=>c
 |n+1,.seq _ b=>seqR n b
 |_+1,c=>c
noncomputable def madeRest:Code:=(Tryz.f31.body.map (seqR 10)).getD .skip
theorem j9{wc:World}{s:List Int}{sa:Option Addr}{sc rr sb pp pm fb g ac:Nat}(HS:Hid (zY w w.heap.size (.slice sa s.length sc) s))
 (hcut:Hid (MdHd w (.slice sa s.length sc) (F g (mdN s) ac) rr sb pp db pm (vw s) (F fb (mdN s) (mdN s)) (yS s (mdN s)) (sP s) wc/\O wc fb (Array.replicate (mdN s) (Value.slice none 0 0)) 39))
 (hx:w.heap.size<=fb) (hm:mdN s-1=m) (u1 u3 u4 u8 u9 gu gs gq gl gk gg gd gc ga fz fy fx fu ft fr fq fp fo fk fj fi fh fg ff fe fd ey ex ev eu er en ek ej ei eh ef ed ec eb ea dz dy dx ds dr dq dp dn dl dk dj dh dg de dc cz cy cx cv cu cr cq cp co cn cm cl ck cj ci ch cg cd cc cb ca bz bw bu bt bs bq bp bo bm bl bk bj bi H8 H7 H6 H5 H3 H2 H1 H0 G9 G8 G7 G6 G5 G4 G3 G2 G1 G0 F9 F8 F7 F6 F5 F4 F3 F2 F1 F0 E9 E8 E7 E6 E5 E4 E3 E2 E1 E0 D9 D8 D7 D6 D5 D4 D3 D2 D1 D0 C9 C8 C7 C6 C5 C4 C3 C2 C1 C0 B9 B8 B7 B6 B5 B4 B3 B2 B1 B0 A9 A8 A7 A6 A5 A4 A3 A2 A1 A0 z5 z4 z3 z2 z1 z0 y6 y5 y4 y3 y2 y1 y0 x9 x8 x7 x6 w8 w7 w6 w5 w3 w2:Value):
 Code.wp Tryz.prog madeRest (bodyPost Tryz.prog Tryz.f31 (fun e w'=>∃V:PV,e=.returned (yH V (uR s))/\(∀W,StaysL w.heap.size w' W->ProgIn W W.heap.size V (uR s))/\N w w')) ⟨#[.slice sa s.length sc,u1,.pointer (some ⟨rr,0,none⟩),u3,u4,.pointer (some ⟨pp,0,none⟩),.pointer (some ⟨pm,0,none⟩),U (mdN s:Int),u8,u9,gu,gs,gq,gl,gk,gg,gd,gc,ga,fz,fy,fx,fu,ft,fr,fq,fp,fo,fk,fj,fi,fh,fg,ff,fe,fd,ey,ex,ev,eu,er,en,ek,ej,ei,eh,ef,ed,ec,eb,ea,dz,dy,dx,ds,dr,dq,dp,dn,dl,dk,dj,dh,dg,de,dc,cz,cy,cx,cv,cu,cr,cq,cp,co,cn,cm,cl,ck,cj,ci,ch,cg,cd,cc,cb,ca,bz,bw,bu,bt,bs,bq,bp,bo,bm,bl,bk,bj,bi,H8,H7,H6,H5,H3,H2,H1,H0,G9,G8,G7,G6,G5,G4,G3,G2,G1,G0,F9,F8,F7,F6,F5,F4,F3,F2,F1,F0,E9,E8,E7,E6,E5,E4,E3,E2,E1,E0,D9,D8,D7,D6,D5,D4,D3,D2,D1,D0,C9,C8,C7,C6,C5,C4,C3,C2,C1,C0,B9,B8,B7,B6,B5,B4,B3,B2,B1,B0,A9,A8,A7,A6,A5,A4,A3,A2,A1,A0,z5,z4,z3,z2,z1,z0,y6,y5,y4,y3,y2,y1,y0,x9,x8,x7,x6,w8,w7,w6,w5,w3,w2],[]⟩ wc:=by
 conv=>arg 2;whnf
 have kj:=sm s;have kh:(mdN s:Int)-1=(m:Int):=Zo;have hn:m<mdN s:=Zo;have ja:=Ja (Jb trivial hm);clear hm;have n5:=hcut.out.1.at (by rw[hcut.out.2];simp) hx HS.out;have HW:=Ja (Jb hcut.out.1 (Jb (ab1 hcut.out.1.res hcut.out.2 Zd) (ab1 hcut.out.1.bank hcut.out.2 Zd)));obtain⟨C,hC⟩:∃C:MDC,(⟨.slice sa s.length sc,F g (mdN s) ac,F db 3 3,F sb 1 1,pm,pp,fb,rr,w.heap.size⟩:MDC)=C:=⟨_,rfl⟩
 have ay:C.pm=pm:=by rw[<-hC]
 have ax:C.pp=pp:=by rw[<-hC]
 have az:C.fb=fb:=by rw[<-hC]
 have t4:C.apv=F g (mdN s) ac:=by rw[<-hC]
 rw[hC] at n5;have HC:=Ja (Jb hC t4);have jc:=Ja (show MdAt s C w 0 wc/\qR C wc wc from⟨n5,Je _,fun _ _ _ _=>rfl⟩);subst ay;subst ax;subst az;have ap:C.rr=rr:=by rw[<-hC]
 subst ap;clear n5 hC t4 hcut;go_wp2
 go_loopw [10] (fun kv wx=>∃k:Nat,k<=mdN s/\kv=U k/\Hid (MdAt s C w k wx/\qR C wc wx)) (fun kv _=>mdN s-(intOf kv).toNat)
 case atStart=>exact⟨0,Jt _,rfl,jc⟩
 case round=>
  obtain⟨k,hk,rfl,HK⟩:=hrel
  by_cases e6:k<mdN s
  ·have an:(k:Int)<(mdN s:Int):=Zo;obtain⟨me,cur,ir,p1,vv0,p4,a4⟩:=HK.out.1.mkr;have h9:=tU s k;obtain⟨pos,g3⟩:∃pos,(zg s k).2=pos:=⟨_,rfl⟩
   rw[g3] at a4 h9;have i0:pos<=12005:=Zo;have e3:=Ja g3;have c3:=zA (i:=3) a4 rfl;have c4:=zA (i:=4) a4 rfl;have f3:D wr C.pm 3:=zE a4;have f4:D wr C.pm 4:=zE a4;have af:=lt_of_block a4;have s8:=zD (i:=4) (zD (i:=3) a4 (U k)) (L);have k4:=(Stp.setPm (w:=wr) (pm:=C.pm) (i:=3) (U k)).trans (Stp.setPm (i:=4) (L));have o9:=Ja (Jb s8 k4);clear a4 s8 k4 g3 h9;go_upto_region 25 with fail;generalize id:(wr.setCell ⟨C.pm,3,none⟩ (U k)).setCell ⟨C.pm,4,none⟩ (L)=W1 at *;have k7:zY W1 C.B C.sv s:=HK.out.1.env.s.below zO (o9.out.2.below (B:=C.B) (fun j e=>by rw[e];exact HK.out.1.pmB) (by rw[HK.out.1.hB];exact HK.out.1.bel.size));have b0:=tf o9.out.1 rfl rfl k7 (n:=3) Zd Zd Zo;have la:=Ja k7;clear k7;clear c3 c4 f3 f4 af id;go_upto_region 25 with fail;have gx:=rX s pos (n:=3) Zd;obtain⟨z,hz⟩:∃z,tk0 s pos 3=z:=⟨_,rfl⟩
   rw[hz] at gx;obtain⟨nx,r4⟩:∃nx,z*10=nx:=⟨_,rfl⟩
   have jw:(z:Int)*10=(nx:Int):=Zo;have jj:nx<=20:=Zo;have HZ:=Ja (Jb hz r4);rw[hz] at b0;have j1:=Ja b0;clear hz r4 b0;go_upto_region 28 with(go_at_call 55;go_must (refine j1.out.mono ?_;rintro e W2 ⟨rfl,b2,r3⟩;have c6:=zA (i:=6) b2 rfl;have c7:=zA (i:=7) b2 rfl;have c8:=zA (i:=8) b2 rfl;have f6:D W2 C.pm 6:=zE b2;have f7:D W2 C.pm 7:=zE b2;have f8:D W2 C.pm 8:=zE b2;have p8:=lt_of_block b2;have w1:=Ja (Jb b2 r3);clear b2 r3))
   have s7:=zD (i:=8) (zD (i:=7) (zD (i:=6) w1.out.1 (U nx)) (L)) (U 6);have k3:=((Stp.setPm (w:=W2) (pm:=C.pm) (i:=6) (U nx)).trans (Stp.setPm (i:=7) (L))).trans (Stp.setPm (i:=8) (U 6));generalize ic:((W2.setCell ⟨C.pm,6,none⟩ (U nx)).setCell ⟨C.pm,7,none⟩ (L)).setCell ⟨C.pm,8,none⟩ (U 6)=W3 at *;have f2:=(o9.out.2.trans w1.out.2).trans k3;have d5:=HK.out.1.start e6 (cur:=cur) (next:=nx) (by rw[e3.out];omega) (by rw[e3.out];exact s7) f2;rw[e3.out] at d5
   have ha:∃na:Nat,(yS s (mdN s))[k]? =some (na:Int)/\na<=3:=by
    have hl:k<(yS s (mdN s)).length:=by rw[yY];exact e6
    have:=xy s (mdN s) _ (Uf hl);exact⟨((yS s (mdN s))[k]).toNat,by rw[Jd hl];congr 1;omega,by omega⟩
   obtain⟨na,l6,jy⟩:=ha;have c1:A W3 C.pp 1 (F g (mdN s) ac):=by rw[<-HC.out.2];exact zA (i:=1) d5.env.prog rfl
   obtain⟨gb,go,s3,q7⟩:=jh d5.env.args (by rw[<-HC.out.2];rfl) l6;have m5:gb=g/\go=0:=by cases s3;exact⟨rfl,rfl⟩
   rw[m5.1,m5.2,Ng] at q7;have f9:C.pp<W3.heap.size:=lt_of_block d5.env.prog;have n3:=rU d5.at (n:=na) (by rw[show(⟨pos+1,[],cur,nx,[],6⟩:MS).sz=pos+1+nx+0+0+0 from rfl];omega);have w0:=Ja n3;have u7:=Ja (Jb f2 l6);clear c6 c7 c8 f6 f7 f8 p8 s7 k3 d5 f2 l6 s3 m5 n3 ic;go_upto_region 29 with(go_at_call 56;go_must (refine w0.out.mono ?_;rintro e W4 ⟨rfl,X4,⟨t5,vv4,l4,e7⟩,r2⟩;have c5:A W4 C.pm 5 (U cur):=e7.c5;have f5:D W4 C.pm 5:=e7.free 5;have ah:C.pm<W4.heap.size:=lt_of_block e7.blk;have o5:=Ja (Jb e7 r2);clear e7 r2))
   have a5:MkIn (W4.setCell ⟨C.pm,5,none⟩ (U 0)) (mdK s C k) X4 {(⟨pos+1,[],cur,nx,[],6⟩:MS).block na with cur:=0 } t5 vv4 l4:=(o5.out.1.goto 0).1;have s2:Stp X4 W4 X4 (W4.setCell ⟨C.pm,5,none⟩ (U 0)):=(o5.out.1.goto 0).2;generalize ib:W4.setCell ⟨C.pm,5,none⟩ (U 0)=W5 at *;obtain⟨gf,cf,pa,pc,s4,hu,i2,f1,h64⟩:=a5.parSrc (i:=0) (b:=wJ nx na) rfl;rw[sd] at i2 f1;have s0:l4.length=1:=a5.len;have c4:A W5 C.pm 4 (F gf 1 cf):=by have h:=a5.c4;rw[s4,s0] at h;exact h
   have c0:A W5 gf 0 (.slice pa na pc):=by rw[Nat.zero_mul] at i2;exact i2
   obtain⟨va,vc,h7⟩:=zG a5.vown;have h8:W5.ownsRow C.B 3 1 (.slice va 0 vc) 0 []:=by have h:=a5.vown;rw[h7] at h;exact h
   have c7:A W5 C.pm 7 (.slice va 0 vc):=by have h:=a5.c7;rw[h7] at h;exact h
   have f7:D W5 C.pm 7:=a5.free 7;have ag:C.pm<W5.heap.size:=lt_of_block a5.blk;have ih:C.B<=W5.heap.size:=a5.size;obtain⟨ij,ht,ab,aa,H9⟩:=info_parts Tryz.info_int;have b6:=Ja (Jb a5 (Jb s2 (Jb h64 (Jb f1 (Jb h8 h7)))));clear c1 q7 f9 c5 f5 ah a5 s2 h64 f1 h8 h7 s4 s0 i2 ib w0;have nb:=zC b6.out.2.2.2.2.1 b6.out.1.blk (.inr Zd)
   have r5:xD (xC s k) pos= {({(⟨pos+1,[],cur,nx,[],6⟩:MS).block na with cur:=0 }:MS) with vals:=(wJ nx na).params }:=by
    unfold xD;have e1:tkV (xC s k) ⟨pos,[],0,0,[],6⟩ 3*10=nx:=by show tk0 s pos 3*10=nx;rw[HZ.out.1,HZ.out.2]
    have e2:((xC s k).args.getD (xC s k).me 0).toNat=na:=by show((yS s (mdN s)).getD k 0).toNat=na;rw[Jj,u7.out.2];rfl
    simp only;rw[e1,e2];rfl
   have u6:=Ja r5
   have ix:=Ja (show({(⟨pos+1,[],cur,nx,[],6⟩:MS).block na with cur:=0 }:MS).sz+na<=1000000 by
    show pos+1+(nx+na)+1+0+0+na<=1000000
    omega)
   clear r5
   go_cut [] (fun wx=>Hid (∃X6 vv6,MkIn wx (mdK s C k) X6 (xD (xC s k) pos) t5 vv6 l4/\Stp X4 W5 X6 wx))
   case first=>
    go_region_law (first|(refine yG (by rfl) (.tmp 136) (.tmp 144) _ (by rfl) C.B 3 ij (U 0) 1 8 Tryz.underlying22 ht ab aa H9 rfl Zo (.slice va 0 vc) 0 [] (by rfl) (b6.out.2.2.2.2.1.drew) (.slice pa na pc) na ((wJ nx na).params.map zN) (by rfl) b6.out.2.2.2.1 (by unfold maxLen;omega) Zo Zt ?_;intro aa9 kc w9 q6 c2 ao;have kx:=(c2.cell_far ⟨C.pm,7,none⟩ Zt (Ne.symm nb)).trans c7;have kt:=(c2.frozen_far ⟨C.pm,7,none⟩ Zt (Ne.symm nb)).trans f7))
    all_goals go_wp2_with fail
    all_goals go_meet
    all_goals exact Ja (b6.out.1.started b6.out.2.2.2.2.2 rfl (sd nx na) q6 c2 ao b6.out.2.2.1 ix.out u6.out)
   case rest=>
   obtain⟨X6,vv6,r6,r1⟩:=hcut.out;have k9:Stp (fun j=>j=C.pm) wr X6 wc:=((u7.out.1.trans o5.out.2).trans b6.out.2.1).trans r1;have k2:=sQ (E:=xC s k) (xy s _) pos;have n2:(xD (xC s k) pos).cur<(xD (xC s k) pos).f.length:=by rw[u6.out];exact Nat.zero_lt_one
   have u5:=Ja (OpSt.start r6.at n2);have l1:pC 2=2286:=rfl;have l2:pC 1=538:=rfl;have b5:=Ja (Jb k2 (Jb l1 l2));have bh:=Ja k9;clear r6 r1 k9 k2 n2 l1 l2 c4 c0 c7 f7 ag ih nb hu hcut;go_upto_region 31 with(go_at_call 57;go_must (refine(u5.out.part (pW 2 Zd) (by have h1:=b5.out.1;have h2:=b5.out.2.1;omega)).mono ?_;rintro e W7 ⟨rfl,t8⟩))
   go_upto_region 32 with(go_at_call 57;go_must (refine(t8.out.part (pW 1 Zd) (by have h1:=b5.out.1;have h2:=b5.out.2.1;have h3:=b5.out.2.2;omega)).mono ?_;rintro e W8 ⟨rfl,t7⟩))
   obtain⟨M8,n9⟩:∃M8,zp (xC s k) 1 (zp (xC s k) 2 (xD (xC s k) pos))=M8:=⟨_,rfl⟩
   have l3:OpSt wc (mdK s C k) X6 (xD (xC s k) pos) (0+pC 2+pC 1) W8 M8:=by rw[<-n9];exact t7.out
   obtain⟨X8,ik,vv8,l8,s1,r0⟩:=l3.facts;obtain⟨tb,hd⟩:∃tb,W8.heap.size=tb:=⟨_,rfl⟩
   have d:=Ja (Jb l3 (Jb n9 (Jb s1 (Jb r0 hd))));clear l3 n9 s1 r0 t8 t7 u5;go_upto_region 33 with fail;have n4:=zI (W:=W8) (o:=I #[U 4,U (-1),L] 82) d.out.2.2.2.2;have a6:N W8 (W8.alloc (I #[U 4,U (-1),L] 82)):=(Below.refl _ _).alloc (Je _) _;generalize ia:W8.alloc (I #[U 4,U (-1),L] 82)=W9 at *;have m2:MkIn W9 ((mdK s C k).withZ fun j=>((j=C.fb∨j=C.rr)∨j<C.B)∨j=tb) X8 M8 ik vv8 l8:=d.out.2.2.1.off a6.size ⟨a6.os,a6.tape,a6.output⟩ (fun j hj _=>a6.block j hj) (fun j e=>e.elim .inl (fun e=> .inr (by rw[e,d.out.2.2.2.2];exact Je _))) (fun j e=>e.elim (fun e=>Jy (d.out.2.2.1.env.zl j e) a6.size) (fun e=>by rw[e];exact lt_of_block n4));have d6:C.B<=tb:=by rw[<-d.out.2.2.2.2];exact d.out.2.2.1.size
   have q9:Stp X8 W8 X8 W9:=Stp.of_below a6;have t3:¬X8 tb:=fun e=>by have h1:=d.out.2.2.1.xl _ e;have h2:=d.out.2.2.2.2;omega
   have ad:=aaE (xC s k) M8 (n:=10) Zd;obtain⟨b8,b7⟩:∃z,tkV (xC s k) M8 10=z:=⟨_,rfl⟩
   rw[b7] at ad
   have e5:xR (xC s k) pos=if b8=0 then M8.tick.endB ⟨5,0,[]⟩ else if b8=1 then M8.tick.endB ⟨4,-1,[]⟩ else(zJ (xC s k) M8.tick).2.endB ⟨4,(zJ (xC s k) M8.tick).1,[]⟩:=by
    unfold xR;simp only;rw[d.out.2.1,b7]
   have k1:M8.sz+10<=1000000:=by
    have h1:=d.out.1.gr.sz;have h2:=b5.out.1;have h3:=b5.out.2.1;have h4:=b5.out.2.2;omega
   have b0:=m8 m2.at (n:=10) Zd Zd Zo
   have k0:G 55 #[Q C.pm,U 10] W9 (yk ((mdK s C k).withZ fun j=>((j=C.fb∨j=C.rr)∨j<C.B)∨j=tb) X8 W9 M8.tick (U b8)):=by
    rw[<-b7];exact b0
   have bc:=Ja k0;have a0:=Ja (Jb n4 (Jb m2 (Jb q9 (Jb t3 (Jb e5 (Jb k1 d.out.1.cur))))));clear n4 a6 m2 q9 t3 b7 e5 k1 b0 k0 ia
   go_upto_block 6 with(go_at_call 55;go_must (refine bc.out.mono ?_;rintro e W10 ⟨rfl,X10,⟨ka,vv10,ke,m4⟩,k6⟩;have a3:=Ja (Jb m4 k6);clear m4 k6))
   have a2:=a3.out.2.blk a0.out.1 a0.out.2.2.2.1;have n8:=a3.out.2.not (lt_of_block a0.out.1) a0.out.2.2.2.1;have t0:=zA (i:=0) a2 rfl;have t1:=zA (i:=1) a2 rfl;have t2:=zA (i:=2) a2 rfl;have g0:D W10 tb 0:=zE a2;have g1:D W10 tb 1:=zE a2;have g2:D W10 tb 2:=zE a2;have hc:=lt_of_block a2;have e4:=Ja (Jb a2 n8);clear a2 n8
   go_cut [] (fun wx=>Hid (∃(tk ta:Int) (M11:MS) (X11:Nat->Prop),wW wx ((mdK s C k).withZ fun j=>((j=C.fb∨j=C.rr)∨j<C.B)∨j=tb) X11 M11/\Stp X8 W8 X11 wx/\O wx tb #[U tk,U ta,L] 82/\I64 tk/\I64 ta/\M11.endB ⟨tk,ta,[]⟩=xR (xC s k) pos/\M11.cur<M11.f.length))
   case first=>
    by_cases h0:b8=0
    ·subst h0;go_wp2;go_meet;refine Ja ⟨5,0,M8.tick,X10,(((a3.out.1.setZ (a:=⟨tb,0,none⟩) (.inr rfl) d6 _).setZ (a:=⟨tb,1,none⟩) (.inr rfl) d6 _).setZ (a:=⟨tb,2,none⟩) (.inr rfl) d6 _).at,((((a0.out.2.2.1.trans a3.out.2).setNew (a:=⟨tb,0,none⟩) (Ul d.out.2.2.2.2) _).setNew (a:=⟨tb,1,none⟩) (Ul d.out.2.2.2.2) _).setNew (a:=⟨tb,2,none⟩) (Ul d.out.2.2.2.2) _),?_,yF _ rfl,yF _ rfl,?_,a0.out.2.2.2.2.2.2⟩
     ·rw[zD (zD (zD e4.out.1 _) _) _];rfl
     ·rw[a0.out.2.2.2.2.1];simp
    ·by_cases h1:b8=1
     ·subst h1;go_wp2;go_meet;refine Ja ⟨4,-1,M8.tick,X10,a3.out.1.at,a0.out.2.2.1.trans a3.out.2,e4.out.1,yF _ rfl,yF _ rfl,?_,a0.out.2.2.2.2.2.2⟩;rw[a0.out.2.2.2.2.1,if_neg h0];simp
     ·have kp:((b8:Int)==0)=false:=Ze;have ko:((b8:Int)==1)=false:=Ze;have s9:=pu a3.out.1.at a0.out.2.2.2.2.2.2 (by have:=a0.out.2.2.2.2.2.1;have h:=(zT M8).sz;omega);have j2:=oD a3.out.1.at;obtain⟨xa,h5⟩:∃x,(zJ (xC s k) M8.tick).1=x:=⟨_,rfl⟩
      obtain⟨Ma,j0⟩:∃M,(zJ (xC s k) M8.tick).2=M:=⟨_,rfl⟩
      have h6:I64 xa:=by rw[<-h5];exact j2
      have f0:Ma.cur<Ma.f.length:=by
       rw[<-j0,(yU (xC s k) M8.tick).cur,(yU (xC s k) M8.tick).len];exact a0.out.2.2.2.2.2.2
      have n6:G 58 #[Q C.pm] W10 (yk ((mdK s C k).withZ fun j=>((j=C.fb∨j=C.rr)∨j<C.B)∨j=tb) X10 W10 Ma (U xa)):=by
       rw[<-h5,<-j0];exact s9
      have l7:Ma.endB ⟨4,xa,[]⟩=xR (xC s k) pos:=by rw[a0.out.2.2.2.2.1,if_neg h0,if_neg h1,h5,j0]
      have je:=Ja n6;have g5:=Ja (Jb l7 (Jb f0 h6));clear s9 j2 h5 j0 h6 f0 n6 l7;go_wp2_with (go_at_call 58;go_must (refine je.out.mono ?_;rintro e W11 ⟨rfl,X11,l9,b3⟩;have l:=b3.blk e4.out.1 e4.out.2;have kd:=zA (i:=1) l rfl;have kr:D W11 tb 1:=zE l;have jn:=lt_of_block l;have g8:=Ja (Jb l9 (Jb b3 l));clear l9 b3 l))
      go_meet;obtain⟨bb,vv11,gv,d8⟩:=g8.out.1;refine Ja ⟨4,xa,Ma,X11,(d8.setZ (a:=⟨tb,1,none⟩) (.inr rfl) d6 _).at,(((a0.out.2.2.1.trans a3.out.2).trans g8.out.2.1).setNew (a:=⟨tb,1,none⟩) (Ul d.out.2.2.2.2) _),?_,yF _ rfl,g5.out.2.2,g5.out.1,g5.out.2.1⟩;rw[zD g8.out.2.2 _];rfl
   case rest=>
   obtain⟨tk,ta,M11,X11,⟨bb,vv11,gv,d8⟩,b3,l,m1,n7,e5,f0⟩:=hcut.out;have u0:=zA (i:=0) l rfl;have u1:=zA (i:=1) l rfl;have u2:=zA (i:=2) l rfl;have p5:=lt_of_block l;have n1:=nt (t:=⟨tk,ta,[]⟩) d8.at m1 n7 (yE.nil (sz:=2)) f0;rw[e5] at n1;have jb:=Ja n1;have bg:=Ja b3;clear d8 b3 l m1 n7 e5 f0 n1 hcut t0 t1 t2 g0 g1 g2 hc;go_upto_region 39 with(go_at_call 59;go_must (refine jb.out.mono ?_;rintro e W12 ⟨rfl,X12,⟨g4,vv12,l12,m3⟩,k5⟩;have g6:=Ja (Jb m3 k5);clear m3 k5))
   have a8:MkIn W12 (mdK s C k) X12 (xR (xC s k) pos) g4 vv12 l12:=g6.out.1.off (Z2:=fun j=>(j=C.fb∨j=C.rr)∨j<C.B) (Je _) ⟨rfl,rfl,rfl⟩ (fun _ _ _=>rfl) (fun j e=> .inl (.inl e)) (fun j e=>g6.out.1.env.zl j (.inl e));have d7:Stp (fun j=>j=C.pm) wr X12 W12:=((bh.out.trans d.out.2.2.2.1).trans bg.out).trans g6.out.2;obtain⟨row,hrl,b9,_⟩:=HK.out.1.row;have l5:¬(C.fb=C.pm):=fun e=>HK.out.1.env.zx C.pm rfl (.inl (.inl e.symm))
   have b1:=d7.blk b9 l5;have p0:A W12 C.pp 0 (F C.fb (mdN s) (mdN s)):=zA (i:=0) a8.env.prog rfl;obtain⟨fa,fc,e0⟩:=zG a8.own;have c4:A W12 C.pm 4 (.slice fa l12.length fc):=by rw[<-e0];exact a8.c4
   obtain⟨rk,d3⟩:∃v,row[k]? =some v:=⟨_,Jd Zo⟩
   have ky:A W12 C.fb k rk:=zA b1 (by simpa using d3);have kw:D W12 C.fb k:=zE b1;have he:=lt_of_block a8.env.prog;have hw:=lt_of_block b1;have hh:C.pm<W12.heap.size:=lt_of_block a8.blk;have d0:=Ja (Jb a8 (Jb d7 (Jb e0 (Jb b1 d3))));clear a8 d7 e0 b9 b1 d3 u0 u1 u2 p5 l5;refine zt 10 Zk Zk ?_;simp only[Qo,Uc,Qp,Ui]
   repeat (go_big_quiet_step (fail))
   refine wpQuiet_nil ?_;go_wp2;refine⟨⟨k+1,e6,by go_num,Ja ⟨?_,?_⟩⟩,by simp[intOf];omega⟩
   ·rw[<-d0.out.2.2.1];exact HK.out.1.done e6 (by rw[e3.out];exact d0.out.1) d0.out.2.1 (yx s k) ⟨by simp,rfl,rfl,rfl⟩ (fun i hi=>Below.heap_setCell W12 ⟨C.fb,k,none⟩ g4 i hi) (fun cs hcs=>zD (i:=k) hcs g4)
   ·refine⟨Jn HK.out.2.1 (by have:=d0.out.2.1.size;simpa using this),fun b hb h1 h2=>?_⟩;exact(Below.heap_setCell W12 ⟨C.fb,k,none⟩ (.slice fa l12.length fc) b h2).trans ((d0.out.2.1.kept b (Jy hb HK.out.2.1) h1).trans (HK.out.2.2 b hb h1 h2))
  ·have hq:k=mdN s:=Zo;subst hq;have an:¬(mdN s:Int)<(mdN s:Int):=Zo;obtain⟨me,cur,ir,p1,vv0,p4,a4⟩:=HK.out.1.mkr
   have i0:(zg s (mdN s)).2<=17005:=by
    have h1:=tU s (mdN s);generalize (zg s (mdN s)).2=y at h1 ⊢;omega
   have b0:G 55 #[Q C.pm,U 12] wr (fun e w'=>∃z:Nat,z<12/\Hid (tk0 s (zg s (mdN s)).2 12=z)/\e=.returned (U z)/\Hid (Stp (fun j=>j=C.pm) wr (fun j=>j=C.pm) w')):=
    (tf a4 rfl rfl (show zY wr C.B C.sv s from HK.out.1.env.s) (n:=12) Zd Zd Zo).mono (fun e w' ⟨h1,h2,h3⟩=>⟨_,rX s _ Zd,Ja rfl,h1,Ja h3⟩)
   have j1:=Ja b0;have c:=HK.out.1.env.prog;obtain⟨hnd,d9⟩:∃h,vw s=h:=⟨_,rfl⟩
   have p3:A wr C.pp 3 (U hnd):=by rw[<-d9];exact zA (i:=3) c rfl
   have f9:=lt_of_block c;have HH:=Ja d9;have n0:qV s=(decide (2<mdN s) && (decide (hnd<0) && decide (tk0 s (zg s (mdN s)).2 12=11))):=by unfold qV;rw[d9]
   have o6:=Ja n0;have o3:=Ja (Stp.refl (fun j=>j=C.pm) wr);clear a4 i0 b0 c d9 n0 e6;go_upto_region 40 with fail
   go_cut [189] (fun v wx=>∃b:Bool,v=.bool b/\Hid ((b=true↔qV s=true)/\Stp (fun j=>j=C.pm) wr (fun j=>j=C.pm) wx))
   case first=>
    by_cases h2:2<mdN s
    ·have o2:(2:Int)<(mdN s:Int):=Zo;have ii:decide ((2:Int)<(mdN s:Int))=true:=by rw[decide_eq_true_iff];exact o2
     have o1:decide (2<mdN s)=true:=by rw[decide_eq_true_iff];exact h2
     by_cases h3:hnd<0
     ·have o0:decide (hnd<0)=true:=by rw[decide_eq_true_iff];exact h3
      have s5:qV s=decide (tk0 s (zg s (mdN s)).2 12=11):=by rw[o6.out,o1,o0,Bool.true_and,Bool.true_and]
      have v9:=Ja s5;clear s5
      by_cases h4:tk0 s (zg s (mdN s)).2 12=11
      ·have H4:=Ja h4;clear h4;go_wp2_with (go_at_call 55;go_must (refine j1.out.mono ?_;rintro e w4 ⟨z,gz,HZ,rfl,o4⟩;obtain rfl:z=11:=HZ.out.symm.trans H4.out))
       go_meet;exact⟨true,rfl,Ja ⟨⟨(fun _=>by rw[v9.out];exact decide_eq_true H4.out),(fun _=>rfl)⟩,o4.out⟩⟩
      ·have H4:=Ja h4;clear h4;go_wp2_with (go_at_call 55;go_must (refine j1.out.mono ?_;rintro e w4 ⟨z,gz,HZ,rfl,o4⟩;have tz:((z:Int)==11)=false:=by rw[beq_eq_false_iff_ne];have:=HZ.out;have:=H4.out;omega))
       go_meet;exact⟨false,rfl,Ja ⟨⟨(fun e=>by cases e),(fun e=>by rw[v9.out] at e;exact absurd (of_decide_eq_true e) H4.out)⟩,o4.out⟩⟩
     ·have o0:decide (hnd<0)=false:=by rw[decide_eq_false_iff_not];exact h3
      go_wp2;go_meet;exact⟨false,rfl,Ja ⟨⟨(fun e=>by cases e),(fun e=>by rw[o6.out,o0] at e;simp at e)⟩,o3.out⟩⟩
    ·have o2:¬(2:Int)<(mdN s:Int):=Zo;have ii:decide ((2:Int)<(mdN s:Int))=false:=by rw[decide_eq_false_iff_not];exact o2
     have o1:decide (2<mdN s)=false:=by rw[decide_eq_false_iff_not];exact h2
     go_wp2;go_meet;exact⟨false,rfl,Ja ⟨⟨(fun e=>by cases e),(fun e=>by rw[o6.out,o1] at e;simp at e)⟩,o3.out⟩⟩
   case rest=>
   obtain⟨b,rfl,d1⟩:=hcut;have c9:=HK.out.1.fin.step d1.out.2;have i1:qR C wr wc:=⟨d1.out.2.size,fun b hb h1 _=>d1.out.2.kept b hb h1⟩
   obtain⟨row,hrl,b9,_⟩:=c9.row;have p0:A wc C.pp 0 (F C.fb (mdN s) (mdN s)):=zA (i:=0) c9.env.prog rfl;obtain⟨rk,d3⟩:∃v,row[m]? =some v:=⟨_,Jd Zo⟩
   have iv:A wc C.fb m rk:=zA b9 (by simpa using d3);have it:D wc C.fb m:=zE b9;have jf:=lt_of_block c9.env.prog;have jk:=lt_of_block b9;have g9:=Ja (Jb c9 i1);clear c9 i1 hrl b9 d3 p3 f9
   go_upto_if 189 with fail
   go_cut [] (fun wx=>Hid (MdFin s C w (if qV s then(zg s (mdN s)).1.set (mdN s-1) [] else(zg s (mdN s)).1) wx/\qR C wr wx))
   case first=>
    cases b
    ·go_wp2;go_meet
     have e:qV s=false:=by
      cases h:qV s
      ·rfl
      ·exact absurd (d1.out.1.2 h) Zs
     rw[e];exact g9
    ·go_wp2;go_meet;have e:qV s=true:=d1.out.1.1 (by trivial);rw[e,ja.out.2];exact Ja ⟨g9.out.1.ext hn,g9.out.2.trans ⟨by simp,fun b hb _ h2=>Below.heap_setCell _ _ _ _ h2⟩⟩
   case rest=>
   have HE:=hcut;have c:=HE.out.1.env.prog;have m0:=HK.out.2.trans HE.out.2;have a1:=m0.blk HW.out.1.res HW.out.1.nes.2.2.2.1 HW.out.2.1;have i8:=m0.blk HW.out.1.bank HW.out.1.nes.2.2.2.2.2.2.1 HW.out.2.2;have q0:A wc C.pp 0 (F C.fb (mdN s) (mdN s)):=zA (i:=0) c rfl;have q1:A wc C.pp 1 (F g (mdN s) ac):=by rw[<-HC.out.2];exact zA (i:=1) c rfl
   have q2:A wc C.pp 2 (U 0):=zA (i:=2) c rfl;have q3:A wc C.pp 3 (U (vw s)):=zA (i:=3) c rfl;have q4:A wc C.pp 4 (F db 3 3):=(zA (i:=4) c rfl).trans (by rw[<-HC.out.1];rfl);have q5:A wc C.pp 5 (F sb 1 1):=(zA (i:=5) c rfl).trans (by rw[<-HC.out.1];rfl);have jv:=lt_of_block c;have v0:=zA (i:=0) a1 rfl;have v1:=zA (i:=1) a1 rfl;have v2:=zA (i:=2) a1 rfl;have v3:=zA (i:=3) a1 rfl;have v4:=zA (i:=4) a1 rfl;have v5:=zA (i:=5) a1 rfl;have vf:∀i,D wc C.rr i:=fun i=>zE a1
   have jo:=lt_of_block a1;have t6:=Ja (Jb i8 a1);clear c m0 a1 i8 iv it p0;go_wp2;have d4:C.fb≠C.rr:=fun e=>HW.out.2.1 e.symm
   have e9:=(((((HE.out.1.stepA (a:=⟨C.rr,0,none⟩) rfl d4 (F C.fb (mdN s) (mdN s))).stepA (a:=⟨C.rr,1,none⟩) rfl d4 (F g (mdN s) ac)).stepA (a:=⟨C.rr,2,none⟩) rfl d4 (U 0)).stepA (a:=⟨C.rr,3,none⟩) rfl d4 (U (vw s))).stepA (a:=⟨C.rr,4,none⟩) rfl d4 (F db 3 3)).stepA (a:=⟨C.rr,5,none⟩) rfl d4 (F sb 1 1);have b4:=zD (i:=5) (zD (i:=4) (zD (i:=3) (zD (i:=2) (zD (i:=1) (zD (i:=0) t6.out.2 (F C.fb (mdN s) (mdN s))) (F g (mdN s) ac)) (U 0)) (U (vw s))) (F db 3 3)) (F sb 1 1);have d2:sb≠C.rr:=fun e=>HW.out.1.nes.1 e.symm
   have s6:=zR (a:=⟨C.rr,5,none⟩) (u:=F sb 1 1) (zR (a:=⟨C.rr,4,none⟩) (u:=F db 3 3) (zR (a:=⟨C.rr,3,none⟩) (u:=U (vw s)) (zR (a:=⟨C.rr,2,none⟩) (u:=U 0) (zR (a:=⟨C.rr,1,none⟩) (u:=F g (mdN s) ac) (zR (a:=⟨C.rr,0,none⟩) (u:=F C.fb (mdN s) (mdN s)) t6.out.1 d2) d2) d2) d2) d2) d2;generalize hy:(((((wc.setCell ⟨C.rr,0,none⟩ (F C.fb (mdN s) (mdN s))).setCell ⟨C.rr,1,none⟩ (F g (mdN s) ac)).setCell ⟨C.rr,2,none⟩ (U 0)).setCell ⟨C.rr,3,none⟩ (U (vw s))).setCell ⟨C.rr,4,none⟩ (F db 3 3)).setCell ⟨C.rr,5,none⟩ (F sb 1 1)=WF at *;have x0:=zA (i:=0) b4 rfl;have x1:=zA (i:=1) b4 rfl;have x2:=zA (i:=2) b4 rfl;have x3:=zA (i:=3) b4 rfl;have x4:=zA (i:=4) b4 rfl;have x5:=zA (i:=5) b4 rfl;have kf:=lt_of_block b4;have l0:=e9.prog s6 (by rw[e9.hB];exact HW.out.1.ges.2.1);have eC:C.apv=F g (mdN s) ac:=HC.out.2;have eD:C.dv=F db 3 3:=by rw[<-HC.out.1]
   rw[eC,eD,e9.hB] at l0;have v6:=Ja (Jb e9.bel l0);clear e9 b4 s6 l0 eC eD hy v0 v1 v2 v3 v4 v5 vf q0 q1 q2 q3 q4 q5;refine bodyPost_ret (v:=.agg #[F C.fb (mdN s) (mdN s),F g (mdN s) ac,U 0,U (vw s),F db 3 3,F sb 1 1]) ?_ rfl ⟨⟨F C.fb (mdN s) (mdN s),F g (mdN s) ac,F db 3 3,F sb 1 1⟩,rfl,v6.out.2,v6.out.1⟩;rw[zM rfl];go_simp
end Go.Proofs.YtoahcpkibpomcaaGreat
