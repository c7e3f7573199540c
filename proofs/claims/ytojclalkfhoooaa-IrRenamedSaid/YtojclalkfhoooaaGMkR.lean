/- Part of a proof. -/
import Derived.Test.YtojclalkfhoooaaGVmG
set_option linter.all false
set_option maxHeartbeats 4000000
set_option maxRecDepth 100000
namespace Go.Proofs.Ytojclalkfhoooaa
open Go.RowKit
def iZ (next i:Nat):List Int:=(List.range i).map fun k=>((next+k:Nat):Int)
theorem jE (next i:Nat):iZ next (i+1)=iZ next i++ [((next+i:Nat):Int)]:=by unfold iZ;rw[List.range_succ,Js];rfl
theorem parL_len (next i:Nat):(iZ next i).length=i:=by unfold iZ;simp
structure BlkMid (w:World) (K:MKC) (M:MS) (fv vv:Value) (pv:Value) (i:Nat) (wx:World):Prop where
 box:wx.heap[w.heap.size]? =some (.cells #[pv,.slice none 0 0,.int .i64 0,.int .i64 0,.slice none 0 0] 49 (0,0))
 own:wx.ownsRow (w.heap.size+1) 3 1 pv i ((iZ M.next i).map zN)
 size:w.heap.size+1<=wx.heap.size
 rest:wx.os=w.os/\wx.tape=w.tape/\wx.output=w.output
 kept:∀k,k<w.heap.size->k≠K.pm->wx.heap[k]? =w.heap[k]?
 pm:wx.heap[K.pm]? =some (.cells (uC K {M with next:=M.next+i } fv vv) 120 (0,0))
theorem BlkMid.mk' {w wx:World}{K:MKC}{X:Nat->Prop}{M:MS}{fv vv pv:Value}{l:List BM}{i:Nat}(h:MkIn w K X M fv vv l)(hm:BlkMid w K M fv vv pv i wx)(c:M.sz+i<=1000000):MkIn wx K X {M with next:=M.next+i } fv vv l/\Stp X w X wx:=
 h.only (by have:=hm.size;omega) hm.rest hm.kept hm.pm rfl rfl (by unfold MS.sz at *;simp only at *;omega) h.lft
theorem BlkMid.start {w:World}{K:MKC}{X:Nat->Prop}{M:MS}{fv vv:Value}{l:List BM}(h:MkIn w K X M fv vv l):BlkMid w K M fv vv (O) 0 (w.alloc (U #[O,O,A 0,A 0,O] 49)):=
 ⟨zI rfl,Jv _ _ _ _,by simp,⟨rfl,rfl,rfl⟩,fun k hk _=>Below.heap_alloc w _ k hk,zB h.blk⟩
theorem BlkMid.next {w wr w3:World}{K:MKC}{X:Nat->Prop}{M:MS}{fv vv pv c:Value}{l:List BM}{i:Nat}(h:MkIn w K X M fv vv l)(hm:BlkMid w K M fv vv pv i wr){o:Obj}(hg:((wr.setCell ⟨K.pm,6,none⟩ (A ((M.next+i+1:Nat):Int))).alloc o).grownBy w3 pv.ownBlock)
 (d:w3.ownsRow (w.heap.size+1) 3 1 c (i+1) ((iZ M.next i).map zN++ [zN ((M.next+i:Nat):Int)])):BlkMid w K M fv vv c (i+1) (w3.setCell ⟨w.heap.size,0,none⟩ c):=by
 have g:=lt_of_block h.blk;have j:=lt_of_block hm.pm;have r:=lt_of_block hm.box;have n1:=zC hm.own hm.box (.inr Zd);have n2:=zC hm.own hm.pm (.inr Zd);have b1:=zL hg (zB (o:=o) (zR (a:=⟨K.pm,6,none⟩) (u:=A ((M.next+i+1:Nat):Int)) hm.box (by show w.heap.size≠K.pm;omega))) n1;have p1:=zL hg (zB (o:=o) (zD hm.pm (i:=6) (A ((M.next+i+1:Nat):Int)))) n2;have hs:=hg.size;have m:=hm.size;simp at hs;refine⟨zD b1 _,?_,by simp;omega,⟨hg.os.trans hm.rest.1,hg.tape.trans hm.rest.2.1,hg.output.trans hm.rest.2.2⟩,fun k hk hne=>?_,?_⟩
 ·rw[jE,Js];exact ownsRow_setCell_other d (fun e=>zC d b1 (.inr Zd) (by simpa using e)) _
 ·refine(Below.heap_setCell w3 ⟨w.heap.size,0,none⟩ _ k (by show k≠w.heap.size;omega)).trans ((hg.block k Zt (fun e=>?_)).trans ((Below.heap_alloc _ _ k Zt).trans ((Below.heap_setCell wr ⟨K.pm,6,none⟩ _ k hne).trans (hm.kept k hk hne))));have:=(hm.own.lt k e.symm).1;omega
 ·exact zR p1 (by show K.pm≠w.heap.size;omega)
theorem rU {w:World}{K:MKC}{X:Nat->Prop}{M:MS}(h:wW w K X M){n:Nat}(hz:M.sz+1+n<=1000000):
 Y 60 #[Q K.pm,A n] w (yk K X w (M.block n) (A (M.f.length:Int))):=by
 obtain⟨fv,vv,l,h⟩:=h;have H:=Ja (Jb h hz);have a0:=BlkMid.start h;have e0:=Ja a0;have e4:=lt_of_block h.blk;clear h hz a0;go_enter Try.func60,Try.ntmps60;go_wp2
 go_loopw [6] (fun iv wx=>∃(i:Nat) (pv:Value),i<=n/\iv=A i/\Hid (BlkMid w K M fv vv pv i wx)) (fun iv _=>n-(intOf iv).toNat)
 case atStart=>exact⟨0,_,Jt _,rfl,e0⟩
 case round=>
  obtain⟨i,pv,hi,rfl,c⟩:=hrel
  by_cases d1:i<n
  ·have c9:(i:Int)<n:=Zo;have a6:i+1<=n:=d1;obtain⟨pa,pc,j⟩:=zG c.out.own;have hk:=(BlkMid.mk' H.out.1 c.out (by have:=H.out.2;omega)).1;have b5:Y 90 #[Q K.pm] wr.drew fun e w'=>e=.returned (A ((M.next+i:Nat):Int))/\w'=(wr.setCell ⟨K.pm,6,none⟩ (A ((M.next+i+1:Nat):Int))).drew:=ot (hk.keep (Below.refl _ _).drew) (by have:=H.out.2;unfold MS.sz at *;simp only at *;omega)
   have d:=c.out.own;rw[j] at d;have c0:=zA (i:=0) c.out.box rfl;rw[j] at c0;have n1:=zC d c.out.box (.inr Zd);have e6:i<=1000000:=by have:=H.out.2;omega
   have d5:=lt_of_block c.out.box;have e1:=c.out.size;obtain⟨ij,d3,c8,c7,c5⟩:=info_parts Try.info_int;have a1:=lt_of_block c.out.pm;have HO:=Ja (Jb d (Jb b5 (Jb j (lt_of_block c.out.box))));have b8:∀(u:Value) (o:Obj),G ((wr.setCell ⟨K.pm,6,none⟩ u).alloc o) w.heap.size 0 (.slice pa i pc):=fun u o=>zA (i:=0) (zB (o:=o) (zR (a:=⟨K.pm,6,none⟩) (u:=u) c.out.box (by show w.heap.size≠K.pm;omega))) (by rw[j];rfl)
   have b7:∀(u:Value) (o:Obj),T ((wr.setCell ⟨K.pm,6,none⟩ u).alloc o) w.heap.size 0:=fun u o=>zE (zB (o:=o) (zR (a:=⟨K.pm,6,none⟩) (u:=u) c.out.box (by show w.heap.size≠K.pm;omega)))
   have a3:∀(u:Value) (o:Obj),((wr.setCell ⟨K.pm,6,none⟩ u).alloc o).ownsRow (w.heap.size+1) 3 1 (.slice pa i pc) i ((iZ M.next i).map zN):=fun u o=>(ownsRow_setCell_other d (fun e=>zC d c.out.pm (.inr Zd) (by simpa using e)) u).alloc o
   have a5:=Ja (Jb a3 (Jb b8 b7));clear j d b5 hk b8 b7 a3;go_upto_region 5 with fail
   go_region_law (first|(refine step_append_lies _ (by rfl) (.tmp 13) (.tmp 16) _ (by rfl) (w.heap.size+1) 3 ij (A 0) 1 8 Try.underlying22 d3 c8 c7 c5 rfl Zo (.slice pa i pc) i ((iZ M.next i).map zN) (by rfl) ((a5.out.1 _ _).drew) ⟨wr.heap.size,0,none⟩ 1 1 [A ((M.next+i:Nat):Int)] (by rfl) (by rfl) (Oi (cs:=#[A ((M.next+i:Nat):Int)]) (t:=3) (fr:=(0,0)) (zI Zs)) (by simp[Value.oneCell']) Zo (by unfold maxLen;omega) Zo Zt (wr.heap.size+1) Zs ?_;intro gg a2 w3 r g b6 d0;have d8:=(g.cell_far ⟨w.heap.size,0,none⟩ Zt (Ne.symm n1)).trans (a5.out.2.1 _ _);have d6:=(g.frozen_far ⟨w.heap.size,0,none⟩ Zt (Ne.symm n1)).trans (a5.out.2.2 _ _))|(go_simp;go_at_call 90;refine HO.out.2.1.mono ?_;rintro e w4 ⟨rfl,rfl⟩))
   all_goals go_wp2_with fail
   all_goals (
    refine⟨⟨i+1,N gg (i+1) a2,a6,by go_num,Ja (BlkMid.next H.out.1 c.out (by rw[HO.out.2.2.1];exact xN g) r)⟩,by simp[intOf];omega⟩)
  ·obtain rfl:i=n:=by omega
   have c9:¬(i:Int)<i:=Zo;obtain⟨hk,a0⟩:=BlkMid.mk' H.out.1 c.out (by have:=H.out.2;omega);obtain⟨pa,pc,j⟩:=zG c.out.own;subst j;obtain⟨fa,fc,d4⟩:=zG hk.own;subst d4
   have a4:wm wr (K.av X) (.slice pa i pc) (wJ M.next i).params:=by
    refine rO c.out.own (parL_len _ _) (fun x hx=>?_) (fun k e y=>?_)
    ·unfold iZ at hx;obtain⟨m,hm,rfl⟩:=Nu.1 hx;have h1:=H.out.2;have h2:=Ol.1 hm;unfold MS.sz at h1;exact⟨by omega,by omega⟩
    ·have h2:=(c.out.own.lt k e).1;rcases y with y|y
     ·have:=H.out.1.xl k y;omega
     ·have:=H.out.1.env.zl k y;omega
   have d:=hk.own;have nb:=zC d c.out.pm (.inr Zd);have c4:=hk.c4;have a1:=lt_of_block c.out.pm;have d5:=lt_of_block c.out.box;have b0:=zA (i:=0) c.out.box rfl;have b1:=zA (i:=1) c.out.box rfl;have b2:=zA (i:=2) c.out.box rfl;have b3:=zA (i:=3) c.out.box rfl;have b4:=zA (i:=4) c.out.box rfl;have d9:∀o,G (wr.alloc o) K.pm 4 (.slice fa l.length fc):=fun o=>(Oo (w:=wr) (Below.heap_alloc _ _ _ a1)).trans c4
   have d7:∀o,T (wr.alloc o) K.pm 4:=fun o=>(Qm (w:=wr) (Below.heap_alloc _ _ _ a1)).trans (hk.free 4)
   have a7:l.length=M.f.length:=H.out.1.len;have e5:l.length<=1000000:=by have:=H.out.1.flen;omega
   have e7:K.B<=wr.heap.size:=hk.size;obtain⟨ik,d2,c3,c2,b9⟩:=info_parts Try.info_irblock;have HO:=Ja (Jb hk (Jb a0 (Jb a4 (Jb d a7))));clear hk a0 a4 d a7;go_upto_region 6 with fail
   go_region_law (first|(refine step_append_lies _ (by rfl) (.tmp 24) (.tmp 26) _ (by rfl) K.B 49 ik (.agg #[O,O,A 0,A 0,O]) 5 88 Try.underlying35 d2 c3 c2 b9 rfl Zo (.slice fa l.length fc) l.length (l.flatMap xG) (by rfl) ((HO.out.2.2.2.1.alloc _).drew) ⟨wr.heap.size,0,none⟩ 1 1 [.slice pa i pc,O,A 0,A 0,O] (by rfl) (by rfl) (Oi (cs:=#[.slice pa i pc,O,A 0,A 0,O]) (t:=49) (fr:=(0,0)) (heap_alloc_new wr _)) (by simp[Value.oneCell']) Zo (by unfold maxLen;omega) Zo Zt (wr.heap.size+1) Zs ?_;intro gg a2 w3 r g b6 d0;have d8:=(g.cell_far ⟨K.pm,4,none⟩ Zt (Ne.symm nb)).trans (d9 _);have d6:=(g.frozen_far ⟨K.pm,4,none⟩ Zt (Ne.symm nb)).trans (d7 _)))
   all_goals go_wp2_with fail
   all_goals go_ret
   all_goals (
    have hP:=HO.out.1.putB (fv':=N gg (l.length+1) a2) (b:=wJ M.next i) (pv:=.slice pa i pc) (xN g) ⟨rfl,rfl⟩ r (fun k e=>by
     have e2:gg=k:=by simpa[Value.ownBlock] using e
     subst e2;rcases b6 with e3|e3
     ·exact .inl e3
     ·right;omega) HO.out.2.2.1 (by have:=H.out.2;unfold MS.sz at *;simp only at *;omega)
    refine⟨zh (by have:=HO.out.2.2.2.2;omega),_,⟨_,_,_,hP.1⟩,HO.out.2.1.trans hP.2⟩)
theorem addr_any {w:World}{K:MKC}{X:Nat->Prop}{M:MS}(h:wW w K X M)(a3:M.cur<M.f.length)(hz:M.sz+6<=1000000):
 Y 118 #[Q K.pm] w (yk K X w (yJ K.E M).2 (A (yJ K.E M).1)):=by
 obtain⟨fv,vv,l,h⟩:=h;have a6:=Ja (uD h (n:=24) Zd Zd Zo);have H:=Ja (Jb a3 hz);obtain⟨z1,x⟩:∃z,tkV K.E M 24=z:=⟨_,rfl⟩
 rw[x] at a6;have b2:=Ja x;clear h a3 hz x
 by_cases h0:z1=23
 ·have d:yJ K.E M=zJ K.E M.tick:=by unfold yJ;rw[if_pos (by rw[b2.out];exact h0)]
  have t:=Ja d;have t0:((z1:Int)==23)=true:=by rw[beq_iff_eq];omega
  have b6:(z1==23)=true:=by rw[beq_iff_eq];omega
  clear d h0;go_enter Try.func118,Try.ntmps118;go_wp2_with (first|(go_at_call 59;go_must (refine a6.out.mono ?_;rintro e w1 ⟨rfl,r,m⟩))|(go_at_call 62;go_must (refine(pu r.at H.out.1 (by have:=(zT M).sz;have:=H.out.2;omega)).mono ?_;rintro e w2 ⟨rfl,X2,c,j⟩)))
  go_ret;rw[t.out];exact⟨rfl,X2,c,m.trans j⟩
 ·have d:yJ K.E M=((M.next:Int),M.tick.tick.tick.emit ⟨2,0,(tkV K.E M.tick 2:Nat),0,tkV K.E M.tick.tick (sE (tkV K.E M.tick 2)),[]⟩):=by unfold yJ;rw[if_neg (by rw[b2.out];exact h0)]
  have t:=Ja d;have t0:((z1:Int)==23)=false:=Ze;have b6:(z1==23)=false:=by rw[beq_eq_false_iff_ne];omega
  clear d h0;go_enter Try.func118,Try.ntmps118;go_upto_region 3 with(go_at_call 59;go_must (refine a6.out.mono ?_;rintro e w1 ⟨rfl,r,m⟩))
  have b3:=Ja (uD r (n:=2) Zd Zd (by have:=(zT M).sz;have:=H.out.2;omega));have b7:=aaE K.E M.tick (n:=2) Zd;obtain⟨k,hk⟩:∃z,tkV K.E M.tick 2=z:=⟨_,rfl⟩
  rw[hk] at b3 b7;have HK:=Ja hk;clear hk;go_upto_region 4 with(go_at_call 59;go_must (refine b3.out.mono ?_;rintro e w2 ⟨rfl,c,j⟩))
  have g1:=(zT M).sz;have g2:=(zT M.tick).sz;have g3:=(zT M.tick.tick).sz;have a5:=Ja (uD c (n:=sE k) (by unfold sE;split<;>decide) (by unfold sE;split<;>decide) (by have:=H.out.2;omega));have a2:=aaE K.E M.tick.tick (n:=sE k) (by unfold sE;split<;>decide);obtain⟨z3,u⟩:∃z,tkV K.E M.tick.tick (sE k)=z:=⟨_,rfl⟩
  rw[u] at a5 a2;have b1:=Ja u;obtain⟨db,b8,b9,b0⟩:=c.env.data;have c2:=c.c2;have p4:=zA (i:=4) c.env.prog rfl;rw[b8] at p4;have c0:z3<15:=by unfold sE at a2;split at a2<;>omega
  have HS:=Ja (m.trans j)
  have a7:∀(w3:World),MkIn w3 K X M.tick.tick.tick fv vv l->Y 117 #[Q K.pm,.agg #[A 2,A 0,A k,A 0,I z3,O]] w3 (yk K X w3 (M.tick.tick.tick.emit ⟨2,0,(k:Int),0,z3,[]⟩) (A (M.next:Int))):=fun w3 g=>
   rD g.at (o:=⟨2,0,(k:Int),0,z3,[]⟩) ⟨yF _ rfl,yF _ rfl,vG (k:Int) Zo Zo,yF _ rfl,(by show z3<65536;omega)⟩ yE.nil H.out.1 (by have:=H.out.2;omega)
  have b4:=Ja a7;clear r m j u c b9 a7;have b5:k=0∨k=1:=Zo;rcases b5 with rfl|rfl
  ·have d2:G w2 db 2 (I 16):=zA b0 rfl;have a4:=Ja (show Y 59 #[Q K.pm,A 15] w2 _ from a5.out);go_wp2_with (first|(go_at_call 59;go_must (refine a4.out.mono ?_;rintro e w3 ⟨rfl,g,a0⟩))|(go_at_call 117;go_must (refine(b4.out _ g).mono ?_;rintro e w4 ⟨rfl,X4,a1,y⟩)))
   go_ret;rw[t.out,HK.out,b1.out];exact⟨rfl,X4,a1,HS.out.trans (a0.trans y)⟩
  ·have d2:G w2 db 5 (I 7):=zA b0 rfl;have a4:=Ja (show Y 59 #[Q K.pm,A 6] w2 _ from a5.out);go_wp2_with (first|(go_at_call 59;go_must (refine a4.out.mono ?_;rintro e w3 ⟨rfl,g,a0⟩))|(go_at_call 117;go_must (refine(b4.out _ g).mono ?_;rintro e w4 ⟨rfl,X4,a1,y⟩)))
   go_ret;rw[t.out,HK.out,b1.out];exact⟨rfl,X4,a1,HS.out.trans (a0.trans y)⟩
def MKC.withZ (K:MKC)(Z:Nat->Prop):MKC:= {K with Z:=Z }
theorem MkIn.off {w W:World}{K:MKC}{X Z2:Nat->Prop}{M:MS}{fv vv:Value}{l:List BM}(h:MkIn w K X M fv vv l)(g:w.heap.size<=W.heap.size)(ho:W.os=w.os/\W.tape=w.tape/\W.output=w.output)
 (hk:∀k,k<w.heap.size->(K.Z k->k<K.B)->W.heap[k]? =w.heap[k]?) (j:∀k,Z2 k->K.Z k∨w.heap.size<=k) (i:∀k,Z2 k->k<W.heap.size):MkIn W (K.withZ Z2) X M fv vv l:=by
 have c:Stp (K.av X) w ((K.withZ Z2).av X) W:=⟨ho.1,ho.2.1,ho.2.2,g,fun k e=>e.elim (fun e=> .inl (.inl e)) (fun e=>(j k e).elim (fun e=> .inl (.inr e)) .inr),fun k hk' d=>hk k hk' (fun e=>absurd (.inr e) d)⟩
 have d:∀k,X k->k<w.heap.size/\W.heap[k]? =w.heap[k]?:=fun k e=>⟨h.xl k e,hk k (h.xl k e) (fun e2=>absurd e2 (h.env.zx k e))⟩
 have hb:Below K.B w W:=⟨ho.1,ho.2.1,ho.2.2,g,fun k e=>hk k (Jy e h.size) (fun _=>e)⟩
 obtain⟨b,e1,e2,e3⟩:=h.env.data;refine⟨(d _ h.xm).2.trans h.blk,yD h.own (fun k e=>(d k (h.xf k e)).2),h.fl,fun q hq=>?_,h.apart,yD h.vown (fun k e=>(d k (h.xv k e)).2),h.v64,h.xm,h.xf,h.xv,h.xB,fun k e=>Jy (h.xl k e) g,?_,h.bnd,h.lft⟩
 ·have q1:=h.bok q hq;exact⟨q1.k64,q1.par.step zn c,q1.ops,yD q1.own (fun k e=>(d k (q1.inX k e)).2),fun o ho=>⟨(q1.arg o ho).1,(q1.arg o ho).2.step zn c⟩,q1.tos.step yq c,q1.inX⟩
 ·exact⟨h.env.s.below zO hb,h.env.fpv,c.blk h.env.prog h.env.ppX,h.env.args.step zn c,⟨b,e1,c.not (lt_of_block e3) e2,c.blk e3 e2⟩,c.not (lt_of_block h.env.prog) h.env.ppX,h.env.h64,h.env.len,h.env.nf,h.env.alt,
   fun k e1 e2=>(j k e2).elim (h.env.zx k e1) (fun e3=>by have:=h.xl k e1;omega),i⟩
theorem oD {w:World}{K:MKC}{X:Nat->Prop}{M:MS}(h:wW w K X M):I64 (zJ K.E M).1:=by
 obtain⟨fv,vv,l,h⟩:=h;have hb:=h.bnd
 have hv:∀i,I64 (M.vals.getD i 0):=fun i=>by
  rw[Jj]
  cases c:M.vals[i]? with
  |none=>exact yF _ rfl
  |some x=>exact h.v64 x (Ji c)
 unfold zJ
 split
 ·unfold MS.sz at hb;exact⟨by show -9223372036854775808<=(M.next:Int);omega,by show(M.next:Int)<=9223372036854775807;omega⟩
 split
 ·exact hv _
 ·exact hv _
structure ArgMid (w:World) (K:MKC) (X:Nat->Prop) (M:MS) (av:Value) (j:Nat) (wx:World):Prop where
 own:wx.ownsRow w.heap.size 3 1 av j ((yI K.E j M).1.map zN)
 i64:∀x∈(yI K.E j M).1,I64 x
 made:∃Xj,wW wx (K.withZ fun k=>K.Z k∨av.ownBlock=some k) Xj (yI K.E j M).2/\Stp X w Xj wx
theorem qw (E:ME):∀(n:Nat) (M:MS),(yI E n M).1.length=n
 |0,_=>rfl
 |n+1,M=>by show((yI E n M).1++ [_]).length=_;rw[Jk,qw E n M];rfl
theorem ArgMid.start {w:World}{K:MKC}{X:Nat->Prop}{M:MS}(h:wW w K X M):ArgMid w K X M (O) 0 w:=by
 refine⟨Jv _ _ _ _,(fun x hx=>by cases hx),X,?_,Stp.refl _ _⟩;obtain⟨fv,vv,l,h⟩:=h;exact⟨fv,vv,l,h.off (Je _) ⟨rfl,rfl,rfl⟩ (fun _ _ _=>rfl) (fun k e=>e.elim .inl (fun e=>by simp[Value.ownBlock] at e)) (fun k e=>e.elim (h.env.zl k) (fun e=>by simp[Value.ownBlock] at e))⟩
theorem ArgMid.next {w wx w2 w3:World}{K:MKC}{X X2:Nat->Prop}{M:MS}{av av':Value}{j:Nat}{o:Obj}(h:ArgMid w K X M av j wx)(h2:wW w2 (K.withZ fun k=>K.Z k∨av.ownBlock=some k) X2 (yI K.E (j+1) M).2)(d:Stp X w X2 w2)(m:w2.ownsRow w.heap.size 3 1 av j ((yI K.E j M).1.map zN))(t:I64 (zJ K.E (yI K.E j M).2).1)
 (u:∀k,X k->k<w.heap.size) (hB:K.B<=w.heap.size) (hg:(w2.alloc o).grownBy w3 av.ownBlock) (i:w3.ownsRow w.heap.size 3 1 av' (j+1) ((yI K.E j M).1.map zN++ [zN (zJ K.E (yI K.E j M).2).1])) (r:∀k,av'.ownBlock=some k->av.ownBlock=some k∨w2.heap.size<=k):ArgMid w K X M av' (j+1) w3:=by
 obtain⟨fv,vv,l,h2⟩:=h2;have g:w2.heap.size<=w3.heap.size:=by have:=hg.size;simp at this;omega
 have hk:∀k,k<w2.heap.size->av.ownBlock≠some k->w3.heap[k]? =w2.heap[k]?:=fun k hk hne=>(hg.block k Zt (fun e=>hne e.symm)).trans (Below.heap_alloc w2 o k hk)
 refine⟨?_,?_,X2,⟨fv,vv,l,h2.off (K:=K.withZ fun k=>K.Z k∨av.ownBlock=some k) g ⟨hg.os,hg.tape,hg.output⟩ (fun k hk' hz=>hk k hk' (fun e=>by have h1:k<K.B:=hz (.inr e);have:=(m.lt k e).1;omega)) (fun k e=>e.elim (fun e=> .inl (.inl e)) (fun e=>(r k e).elim (fun e=> .inl (.inr e)) .inr)) (fun k e=>e.elim (fun e=>Jy (h2.env.zl k (.inl e)) g) (fun e=>(i.lt k e).2))⟩,?_⟩
 ·show w3.ownsRow w.heap.size 3 1 av' (j+1) (((yI K.E j M).1++ [(zJ K.E (yI K.E j M).2).1]).map zN)
  rw[Js];exact i
 ·intro x c;rcases Jl.1 c with c|c
  ·exact h.i64 x c
  ·rw[Jo] at c;subst c;exact t
 ·refine⟨hg.os.trans d.os,hg.tape.trans d.tape,hg.output.trans d.output,Jn d.size g,d.new,fun k hk' c=>(hk k (Jy hk' d.size) (fun e=>?_)).trans (d.kept k hk' c)⟩;have:=(m.lt k e).1;omega
theorem ArgMid.done {w wx:World}{K:MKC}{X:Nat->Prop}{M:MS}{av:Value}{j:Nat}(h:ArgMid w K X M av j wx)(c:∀k,K.Z k->k<w.heap.size):∃Xj,wW wx K Xj (yI K.E j M).2/\Stp X w Xj wx/\wm wx (K.av Xj) av (yI K.E j M).1:=by
 obtain⟨Xj,⟨fv,vv,l,hm⟩,hs⟩:=h.made;refine⟨Xj,⟨fv,vv,l,hm.off (Z2:=K.Z) (Je _) ⟨rfl,rfl,rfl⟩ (fun _ _ _=>rfl) (fun k e=> .inl (.inl e)) (fun k e=>hm.env.zl k (.inl e))⟩,hs,?_⟩;refine rO h.own (qw _ _ _) h.i64 (fun k e hx=>hx.elim (fun e2=>hm.env.zx k e2 (.inr e)) (fun e2=>?_));have:=(h.own.lt k e).1;have:=c k e2;omega
theorem jh {w:World}{X:Nat->Prop}{v:Value}{xs:List Int}{a:Option Addr}{n c:Nat}(h:wm w X v xs)(hv:v=.slice a n c){k:Nat}{x:Int}(g:xs[k]? =some x):∃b o,a=some ⟨b,o,none⟩/\G w b (o+k) (A x):=by
 subst hv;obtain⟨a',c',e,_,_,h3⟩:=h;cases e;obtain⟨b,o,i,_,_,d,_⟩:=h3 k x g;rw[Nk] at d;exact⟨b,o,i,d⟩
theorem jN {w:World}{K:MKC}{X:Nat->Prop}{M:MS}(h:wW w K X M)(b3:M.cur<M.f.length)(hz:M.sz+16<=1000000):
 Y 119 #[Q K.pm] w (yk K X w (vN K.E M) (.tuple #[])):=by
 obtain⟨fv,vv,l,h⟩:=h;have H:=Ja (Jb h (Jb b3 hz));have c2:=h.c2;have c3:=h.c3;obtain⟨pa,pc,c7⟩:=h.env.fpv;have p0:=zA (i:=0) h.env.prog rfl;rw[c7] at p0;have i1:=h.env.nf;have i0:=lt_of_block h.env.prog;have h7:=lt_of_block h.blk;clear h b3 hz c7;have f5:IntKind.i64.wrap ((K.E.nf:Int)-(K.E.me:Int))=(K.E.nf:Int)-(K.E.me:Int):=Om _ Zo;have b9:IntKind.i64.wrap ((K.E.nf:Int)-(K.E.me:Int)-1)=(K.E.nf:Int)-(K.E.me:Int)-1:=Om _ Zo
 by_cases h0:K.E.nf<=K.E.me+1
 ·have r:vN K.E M=M:=by unfold vN;rw[if_pos h0]
  have a1:=Ja r;have b8:(K.E.nf:Int)-(K.E.me:Int)-1<1:=Zo;clear r;go_enter Try.func119,Try.ntmps119;go_upto_region 0 with fail;go_quiet (fail);go_wp2
  first|go_end0|refine bodyPost_ret (results_none rfl _ _ _) rfl ?_
  rw[a1.out];exact⟨rfl,X,⟨_,_,_,H.out.1.keep (yL _ _ _)⟩,Stp.of_below (yL _ _ _)⟩
 ·obtain⟨m,hm⟩:∃m:Nat,K.E.nf-K.E.me-1=m:=⟨_,rfl⟩
  have i3:1<=m:=Zo;have b8:¬(K.E.nf:Int)-(K.E.me:Int)-1<1:=Zo;have c8:(K.E.nf:Int)-(K.E.me:Int)-1=(m:Int):=Zo;have h9:¬(m:Int)<1:=Zo;rw[c8] at b9;clear b8;go_enter Try.func119,Try.ntmps119;go_upto_region 0 with fail
  go_cut [2] (fun v wx=>v=A m/\∃n,wx=w.drewN n)
  case first=>
   go_quiet (fail);go_wp2;go_meet;exact⟨by first|rfl|(rw[c8]),_,rfl⟩
  case rest=>
   obtain⟨rfl,n0,rfl⟩:=hcut;have a3:=H.out.1.keep (yL _ w n0);generalize d9:w.drewN n0=W1 at *;have c4:Stp X w X W1:=by rw[<-d9];exact Stp.of_below (yL _ _ _)
   have e1:=Ja (Jb a3 c4);have HT:=Ja (uD (a3.keep (Below.refl _ _).drew) (n:=m) Zo Zo (by have:=H.out.2.2;omega));have a2:=aaE K.E M (n:=m) Zo;obtain⟨z,hz⟩:∃z,tkV K.E M m=z:=⟨_,rfl⟩
   rw[hz] at HT a2;have HZ:=Ja (Jb hz hm);have d3:=a3.c3;clear a3 c4 hz hm d9 c2 c3 p0 f5 b9;go_upto_region 2 with fail;obtain⟨f,hf⟩:∃f:Nat,K.E.me+1+z=f:=⟨_,rfl⟩
   have d0:(K.E.me:Int)+1+(z:Int)=(f:Int):=Zo;have g9:=Ja (show IntKind.i64.wrap (IntKind.i64.wrap ((K.E.me:Int)+1)+(z:Int))=(f:Int) by rw[Om ((K.E.me:Int)+1) Zo,Om _ Zo];exact d0);clear d0
   go_cut [3] (fun v wx=>v=A f/\Hid (MkIn wx K X M.tick fv vv l/\Stp X w X wx))
   case first=>
    go_region_held3 (fun w'=>G w' K.pm 3 (A (K.E.me:Int))) (first|exact d3|assumption|(exact MkIn.c3 Zz))
     ((go_at_call 59;refine HT.out.mono ?_;rintro e w2 ⟨rfl,t,f7⟩))
    all_goals go_wp2_with fail
    go_meet;exact⟨by rw[g9.out],Ja ⟨t,e1.out.2.trans ((Stp.of_below (Below.refl _ _).drew).trans f7)⟩⟩
   obtain⟨rfl,d5⟩:=hcut;obtain⟨t,a6⟩:=d5.out;generalize g5:wc=w2 at *;clear d5 g5;have g2:f<K.E.nf:=by have:=HZ.out.2;omega
   have d2:=t.c2;have p3:=zA (i:=3) t.env.prog rfl;have d:=Ja (Jb t (Jb a6 hf));have h8:=lt_of_block t.env.prog;have h4:=lt_of_block t.blk;clear t a6 hf d3 e1 HT
   by_cases hh:(f:Int)=K.E.handler
   ·have t0:((f:Int)==K.E.handler)=true:=by rw[beq_iff_eq];exact hh
    have r:vN K.E M=M.tick:=by
     unfold vN;rw[if_neg h0];simp only;rw[HZ.out.2,HZ.out.1,d.out.2.2,if_pos hh]
    have a1:=Ja r;clear r hh;go_wp2
    first|go_end0|refine bodyPost_ret (results_none rfl _ _ _) rfl ?_
    rw[a1.out];exact⟨rfl,X,d.out.1.at,d.out.2.1⟩
   ·have t0:((f:Int)==K.E.handler)=false:=by rw[beq_eq_false_iff_ne];exact hh
    have r:vN K.E M=(yI K.E (K.E.args.getD f 0).toNat M.tick).2.emit ⟨26,0,(f:Nat),0,0,(yI K.E (K.E.args.getD f 0).toNat M.tick).1⟩:=by
     unfold vN;rw[if_neg h0];simp only;rw[HZ.out.2,HZ.out.1,d.out.2.2,if_neg hh]
    have a1:=Ja r;clear r hh;obtain⟨aa,ac,d6,_,_⟩:=d.out.1.env.args.form;have a4:=d.out.1.env.args;have f0:=d.out.1.env.len;have e5:=Ja (Jb d6 a4);obtain⟨x,hx⟩:∃x,K.E.args[f]? =some x:=⟨_,Jd (by rw[f0];exact g2)⟩
    obtain⟨f4,f3⟩:=d.out.1.env.alt x (Ji hx);have b7:K.E.args.getD f 0=x:=by rw[Jj,hx];rfl
    obtain⟨c,hc⟩:∃c:Nat,x.toNat=c:=⟨_,rfl⟩
    have d4:x=(c:Int):=Zo;have i2:=(zT M).sz;have HX:=Ja (Jb hx (Jb b7 (Jb hc d4)));have i6:c<=3:=Zo;have a7:=ArgMid.start d.out.1.at;have g6:=Ja a7;clear d6 a4 hx b7 hc d4 a7 f4 f3;go_upto_region 5 with fail;go_wp2;clear d2 p3
    go_loopw [4,5] (fun rv jv wx=>∃(j:Nat) (ra:Option Addr) (rc:Nat),j<=c/\rv=.slice ra j rc/\jv=A j/\Hid (ArgMid w2 K X M.tick (.slice ra j rc) j wx)) (fun _ jv _=>c-(intOf jv).toNat)
    case atStart=>exact⟨0,none,0,Jt _,rfl,rfl,g6⟩
    case round=>
     obtain⟨j,ra,rc,hj,rfl,rfl,HA⟩:=hrel
     have g1:∃Xj fv' vv' l',MkIn wr (K.withZ fun k=>K.Z k∨(Value.slice ra j rc).ownBlock=some k) Xj (yI K.E j M.tick).2 fv' vv' l'/\Stp X w2 Xj wr:=by
      obtain⟨Xj,⟨fv',vv',l',hm⟩,hs⟩:=HA.out.made;exact⟨Xj,fv',vv',l',hm,hs⟩
     obtain⟨Xj,fv',vv',l',hm,hs⟩:=g1;have e2:G wr K.pm 2 (Q K.pp):=hm.c2;have q1:G wr K.pp 1 K.apv:=zA (i:=1) hm.env.prog rfl;obtain⟨ab,ao,d8,g4⟩:=jh (show wm wr ((K.withZ fun k=>K.Z k∨(Value.slice ra j rc).ownBlock=some k).av Xj) K.apv K.E.args from hm.env.args) e5.out.1 HX.out.1;rw[e5.out.1,d8] at q1;rw[HX.out.2.2.2] at g4;have i5:(f:Int)<(K.E.args.length:Int):=Zo;have a0:=Ja (Jb hm hs);clear hm hs d8
     by_cases a2:j<c
     ·have e9:(j:Int)<(c:Int):=Zo;have g:=tj K.E j M.tick
      have b2:(yI K.E j M.tick).2.cur<(yI K.E j M.tick).2.f.length/\(yI K.E j M.tick).2.sz+4<=1000000:=by
       refine⟨?_,?_⟩
       ·rw[g.cur,g.len];exact H.out.2.1
       ·have:=g.sz;have:=H.out.2.2;omega
      have d7:=pu (K:=K.withZ fun k=>K.Z k∨(Value.slice ra j rc).ownBlock=some k) a0.out.1.at b2.1 b2.2;have a5:=oD a0.out.1.at;obtain⟨y,hy⟩:∃y,(zJ K.E (yI K.E j M.tick).2).1=y:=⟨_,rfl⟩
      have b5:Y 62 #[Q K.pm] wr (yk (K.withZ fun k=>K.Z k∨(Value.slice ra j rc).ownBlock=some k) Xj wr (yI K.E (j+1) M.tick).2 (A y)):=by rw[<-hy];exact d7
      have b1:∀(w4:World) (X4:Nat->Prop),Stp Xj wr X4 w4->w4.ownsRow w2.heap.size 3 1 (.slice ra j rc) j ((yI K.E j M.tick).1.map zN):=fun w4 X4 u=>yD HA.out.own (fun k e=>u.kept k (HA.out.own.lt k e).2 (fun e2=>a0.out.1.env.zx k e2 (.inr e)))
      obtain⟨ij,g0,e8,e7,e6⟩:=info_parts Try.info_int;have HN:=Ja (Jb b5 (Jb a5 (Jb hy b1)));have e0:=Ja a2;have i4:j<=3:=Zo;have h5:=a0.out.2.size;clear d7 b5 a5 hy b1 b2 g a2;go_wp2_with (first|(go_at_call 62;go_must (refine HN.out.1.mono ?_;rintro e w4 ⟨rfl,X4,f9,u⟩;have c5:=HN.out.2.2.2 w4 X4 u;have h6:=u.size))|(at_builtin;go_must (refine zK _ rfl (.tmp 54) (.tmp 57) 22 rfl w2.heap.size 3 ij (A 0) 1 8 Try.underlying22 g0 e8 e7 e6 rfl Zd (.slice ra j rc) j ((yI K.E j M.tick).1.map zN) rfl (c5.alloc _) _ 1 [A y] rfl (yM.one (zI rfl) rfl) (by unfold maxLen;omega) Zo Zt ?_;intro v9 w9 b0 b6 g3)))
      obtain⟨f2,f1,rfl⟩:=zG b0;go_roundw
      case rel=>
       refine⟨j+1,f2,f1,e0.out,rfl,by go_num,Ja (HA.out.next f9 (a0.out.2.trans u) c5 (by rw[HN.out.2.2.1];have:=HN.out.2.1;rw[<-HN.out.2.2.1];exact this) d.out.1.xl d.out.1.size b6 (by rw[HN.out.2.2.1];exact b0) (fun k e=>?_))⟩;rcases g3 with e2|e2
       ·exact .inl (by rw[<-e2];exact e)
       ·right;have e3:=e2.symm.trans e;simp at e3;omega
      case measure=>have:=e0.out;simp[intOf];omega
     ·obtain rfl:j=c:=by omega
      have e9:¬(j:Int)<(j:Int):=Zo;obtain⟨X9,c9,c0,b4⟩:=HA.out.done d.out.1.env.zl;have g:=tj K.E j M.tick;have d1:=rD (o:=⟨26,0,(f:Int),0,0,(yI K.E j M.tick).1⟩) c9 ⟨yF _ rfl,yF _ rfl,vG (f:Int) Zo Zo,yF _ rfl,(by show 0<65536;omega)⟩ b4 (by rw[g.cur,g.len];exact H.out.2.1) (by have:=g.sz;have:=H.out.2.2;omega);have e4:=Ja (Jb d1 (d.out.2.1.trans c0));clear c9 c0 b4 g d1;go_wp2_with (go_at_call 117;go_must (refine e4.out.1.mono ?_;rintro e w5 ⟨rfl,X5,f8,f6⟩))
      first|go_end0|refine bodyPost_ret (results_none rfl _ _ _) rfl ?_
      rw[a1.out,HX.out.2.1,HX.out.2.2.1];exact⟨rfl,X5,f8,e4.out.2.trans f6⟩
structure OpSt (w0:World) (K:MKC) (X0:Nat->Prop) (M0:MS) (c:Nat) (w:World) (M:MS):Prop where
 made:∃X,wW w K X M/\Stp X0 w0 X w
 gr:GrowP c M0 M
 cur:M.cur<M.f.length
section
variable {w0 w:World} {K:MKC} {X0:Nat->Prop} {M0 M:MS} {c:Nat} (h:OpSt w0 K X0 M0 c w M)
include h
theorem OpSt.take (n:Nat)(i:0<n)(g:n<=1000000)(k:M0.sz+(c+1)<=1000000):
 Y 59 #[Q K.pm,A n] w fun e w'=>∃z:Nat,z<n/\Hid (tkV K.E M n=z)/\e=.returned (A z)/\Hid (OpSt w0 K X0 M0 (c+1) w' M.tick):=by
 obtain⟨X,hm,hs⟩:=h.made;refine(m8 hm i g (by have:=h.gr.sz;omega)).mono ?_;rintro e w' ⟨rfl,X',j,d⟩;exact⟨_,aaE _ _ i,Ja rfl,rfl,Ja ⟨⟨X',j,hs.trans d⟩,h.gr.trans (zT M).p,h.cur⟩⟩
theorem OpSt.takeK (n k:Nat)(kI:Int)(g:(k:Int)=kI)(hk:tkV K.E M n=k)(i:0<n)(d:n<=1000000)(hz:M0.sz+(c+1)<=1000000):
 Y 59 #[Q K.pm,A n] w fun e w'=>e=.returned (A kI)/\Hid (OpSt w0 K X0 M0 (c+1) w' M.tick):=by
 refine(h.take n i d hz).mono ?_;rintro e w' ⟨z,_,hz,rfl,hm⟩;refine⟨?_,hm⟩;rw[<-g,<-hk,hz.out]
theorem OpSt.any (i:M0.sz+(c+4)<=1000000):
 Y 62 #[Q K.pm] w fun e w'=>∃x:Int,Hid (I64 x/\(zJ K.E M).1=x)/\e=.returned (A x)/\Hid (OpSt w0 K X0 M0 (c+4) w' (zJ K.E M).2):=by
 obtain⟨X,hm,hs⟩:=h.made;refine(pu hm h.cur (by have:=h.gr.sz;omega)).mono ?_;rintro e w' ⟨rfl,X',g,d⟩;exact⟨_,Ja ⟨oD hm,rfl⟩,rfl,Ja ⟨⟨X',g,hs.trans d⟩,h.gr.trans (yU K.E M).p,by rw[(yU K.E M).cur,(yU K.E M).len];exact h.cur⟩⟩
theorem OpSt.addr (i:M0.sz+(c+6)<=1000000):
 Y 118 #[Q K.pm] w fun e w'=>∃x:Int,Hid (I64 x/\(yJ K.E M).1=x)/\e=.returned (A x)/\Hid (OpSt w0 K X0 M0 (c+6) w' (yJ K.E M).2):=by
 obtain⟨X,hm,hs⟩:=h.made;refine(addr_any hm h.cur (by have:=h.gr.sz;omega)).mono ?_;rintro e w' ⟨rfl,X',g,d⟩;refine⟨_,Ja ⟨?_,rfl⟩,rfl,Ja ⟨⟨X',g,hs.trans d⟩,h.gr.trans (ue K.E M).p,by rw[(ue K.E M).cur,(ue K.E M).len];exact h.cur⟩⟩;unfold yJ
 split
 ·obtain⟨fv,vv,l,hi⟩:=hm;exact oD ((hi.ticked (by have:=h.gr.sz;omega)).1.at)
 ·obtain⟨fv,vv,l,hi⟩:=hm;have hb:=hi.bnd;unfold MS.sz at hb;exact vG _ (by show -1000000<=(M.next:Int);omega) (by show(M.next:Int)<=1000000;omega)
theorem OpSt.next:(M.next:Int)<=1000000:=by
 obtain⟨X,⟨fv,vv,l,hi⟩,hs⟩:=h.made;have hb:=hi.bnd;unfold MS.sz at hb;omega
theorem OpSt.n64:I64 (M.next:Int):=vG _ Zo h.next
theorem OpSt.num (n:Nat)(i:n<65536)(j:M0.sz+(c+3)<=1000000):
 Y 94 #[Q K.pm,I n] w fun e w'=>e=.returned (A (M.next:Int))/\Hid (OpSt w0 K X0 M0 (c+3) w' (M.num n)):=by
 obtain⟨X,hm,hs⟩:=h.made;refine(ks hm i h.cur (by have:=h.gr.sz;omega)).mono ?_;rintro e w' ⟨rfl,X',g,d⟩;exact⟨rfl,Ja ⟨⟨X',g,hs.trans d⟩,h.gr.trans (wT M n).p,by rw[(wT M n).cur,(wT M n).len];exact h.cur⟩⟩
theorem OpSt.emit (code a b:Int)(n:Nat)(h1:I64 code)(h2:I64 a)(h3:I64 b)(i:n<65536)(j:M0.sz+(c+3)<=1000000):
 Y 117 #[Q K.pm,.agg #[A code,A 0,A a,A b,I n,O]] w fun e w'=>e=.returned (A (sB M code))/\Hid (OpSt w0 K X0 M0 (c+3) w' (M.emit ⟨code,0,a,b,n,[]⟩)):=by
 obtain⟨X,hm,hs⟩:=h.made;refine(rD (o:=⟨code,0,a,b,n,[]⟩) hm ⟨h1,yF _ rfl,h2,h3,i⟩ yE.nil h.cur (by have:=h.gr.sz;omega)).mono ?_;rintro e w' ⟨rfl,X',g,d⟩;exact⟨rfl,Ja ⟨⟨X',g,hs.trans d⟩,h.gr.trans (yB M _).p,by rw[(yB M _).cur,(yB M _).len];exact h.cur⟩⟩
theorem OpSt.call (d:∀x∈K.E.args,0<=x/\x<4)(j:M0.sz+(c+16)<=1000000):
 Y 119 #[Q K.pm] w fun e w'=>e=.returned (.tuple #[])/\Hid (OpSt w0 K X0 M0 (c+16) w' (vN K.E M)):=by
 obtain⟨X,hm,hs⟩:=h.made;refine(jN hm h.cur (by have:=h.gr.sz;omega)).mono ?_;rintro e w' ⟨rfl,X',i,g⟩;exact⟨rfl,Ja ⟨⟨X',i,hs.trans g⟩,h.gr.trans (sI K.E d M).p,by rw[(sI K.E d M).cur,(sI K.E d M).len];exact h.cur⟩⟩
theorem OpSt.block (n:Nat)(i:M0.sz+(c+(1+n))<=1000000):
 Y 60 #[Q K.pm,A n] w fun e w'=>e=.returned (A (M.f.length:Int))/\Hid (OpSt w0 K X0 M0 (c+(1+n)) w' (M.block n)):=by
 obtain⟨X,hm,hs⟩:=h.made;refine(rU hm (n:=n) (by have:=h.gr.sz;omega)).mono ?_;rintro e w' ⟨rfl,X',g,d⟩;exact⟨rfl,Ja ⟨⟨X',g,hs.trans d⟩,h.gr.trans (xM M n),by have:=h.cur;rw[yz];show M.cur<_;omega⟩⟩
theorem OpSt.flen:(M.f.length:Int)<=1000000:=by
 obtain⟨X,⟨fv,vv,l,hi⟩,hs⟩:=h.made;have hb:=hi.bnd;unfold MS.sz at hb;omega
theorem OpSt.endB (k a:Int)(tos:List IEdge)(tv:Value)(hk:I64 k)(j:I64 a)(d:∀X,wW w K X M->Stp X0 w0 X w->vT w (K.av X) tv tos):
 Y 63 #[Q K.pm,.agg #[A k,A a,tv]] w fun e w'=>e=.returned (.tuple #[])/\Hid (OpSt w0 K X0 M0 c w' (M.endB ⟨k,a,tos⟩)):=by
 obtain⟨X,hm,hs⟩:=h.made;refine(nt (t:=⟨k,a,tos⟩) hm hk j (d X hm hs) h.cur).mono ?_;rintro e w' ⟨rfl,X',i,g⟩;exact⟨rfl,Ja ⟨⟨X',i,hs.trans g⟩,h.gr.trans (zv M _).p,by rw[(zv M _).cur,(zv M _).len];exact h.cur⟩⟩
theorem OpSt.endN {w2:World}(k a:Int)(tos:List IEdge)(tv:Value)(hk:I64 k)(j:I64 a)(hb:F w w2)(d:∀X:Nat->Prop,(∀k,X k->k<w.heap.size)->vT w2 X tv tos):
 Y 63 #[Q K.pm,.agg #[A k,A a,tv]] w2 fun e w'=>e=.returned (.tuple #[])/\Hid (OpSt w0 K X0 M0 c w' (M.endB ⟨k,a,tos⟩)):=by
 obtain⟨X,⟨fv,vv,l,hm⟩,hs⟩:=h.made;refine(nt (t:=⟨k,a,tos⟩) (hm.keep hb).at hk j (d (K.av X) (fun k e=>e.elim (hm.xl k) (hm.env.zl k))) h.cur).mono ?_;rintro e w' ⟨rfl,X',i,g⟩;exact⟨rfl,Ja ⟨⟨X',i,hs.trans ((Stp.of_below hb).trans g)⟩,h.gr.trans (zv M _).p,by rw[(zv M _).cur,(zv M _).len];exact h.cur⟩⟩
theorem OpSt.below {w':World}(hb:F w w'):OpSt w0 K X0 M0 c w' M:=by
 obtain⟨X,⟨fv,vv,l,hm⟩,hs⟩:=h.made;exact⟨⟨X,⟨fv,vv,l,hm.keep hb⟩,hs.trans (Stp.of_below hb)⟩,h.gr,h.cur⟩
end
theorem OpSt.start {w:World}{K:MKC}{X:Nat->Prop}{M:MS}(h:wW w K X M)(c:M.cur<M.f.length):OpSt w K X M 0 w M:=⟨⟨X,h,Stp.refl _ _⟩,GrowP.refl M,c⟩
theorem OpSt.ret {w w':World}{K:MKC}{X:Nat->Prop}{M M':MS}{c:Nat}{r:Value}(h:OpSt w K X M c w' M'):yk K X w M' r (.returned r) w':=⟨rfl,h.made⟩
theorem wW.alt {w:World}{K:MKC}{X:Nat->Prop}{M:MS}(h:wW w K X M):∀x∈K.E.args,0<=x/\x<4:=by
 obtain⟨fv,vv,l,hm⟩:=h;exact hm.env.alt
theorem mkOp_0 {E:ME}{M:MS}(h:tkV E M 14=0):xK E M=M.tick.tick.num (tkV E M.tick 65536):=by
 unfold xK;simp only[h];rfl
theorem op_0 {w:World}{K:MKC}{X:Nat->Prop}{M:MS}(h:wW w K X M)(c:M.cur<M.f.length)(k:M.sz+20<=1000000)(hk:tkV K.E M 14=0):
 Y 91 #[Q K.pm] w (yk K X w (xK K.E M) (.tuple #[])):=by
 have o:=Ja h.alt;have j:=Ja (OpSt.start h c);have d:=Ja (Jb k hk);clear h c k hk;go_enter Try.func91,Try.ntmps91
 go_wp2_with (first
  |(go_at_call 59;refine(j.out.takeK 14 0 0 rfl d.out.2 Zd Zd (by have:=d.out.1;omega)).mono ?_;clear j;rintro e w1 ⟨rfl,i⟩)
  |(go_at_call 59;refine(i.out.take 65536 Zd Zd (by have:=d.out.1;omega)).mono ?_;clear i;rintro e w2 ⟨z,qz,m,rfl,g⟩)
  |(go_at_call 94;refine(g.out.num z Zo (by have:=d.out.1;omega)).mono ?_;clear g;rintro e w3 ⟨rfl,l⟩))
 first|go_end0|refine bodyPost_ret (results_none rfl _ _ _) rfl ?_
 rw[mkOp_0 d.out.2]
 try rw[m.out]
 exact l.out.ret
theorem mkOp_1 {E:ME}{M:MS}(h:tkV E M 14=1):xK E M=(zJ E M.tick.tick).2.emit ⟨3+tkV E M.tick 2,0,(zJ E M.tick.tick).1,0,0,[]⟩:=by
 unfold xK;simp only[h];rfl
theorem op_1 {w:World}{K:MKC}{X:Nat->Prop}{M:MS}(h:wW w K X M)(d:M.cur<M.f.length)(l:M.sz+20<=1000000)(hk:tkV K.E M 14=1):
 Y 91 #[Q K.pm] w (yk K X w (xK K.E M) (.tuple #[])):=by
 have t:=Ja h.alt;have k:=Ja (OpSt.start h d);have c:=Ja (Jb l hk);clear h d l hk;go_enter Try.func91,Try.ntmps91
 go_wp2_with (first
  |(go_at_call 59;refine(k.out.takeK 14 1 1 rfl c.out.2 Zd Zd (by have:=c.out.1;omega)).mono ?_;clear k;rintro e w1 ⟨rfl,j⟩)
  |(go_at_call 59;refine(j.out.take 2 Zd Zd (by have:=c.out.1;omega)).mono ?_;clear j;rintro e w2 ⟨z,qz,r,rfl,i⟩)
  |(go_at_call 62;refine(i.out.any (by have:=c.out.1;omega)).mono ?_;clear i;rintro e w3 ⟨x,o,rfl,g⟩)
  |(go_at_call 117;refine(g.out.emit (3+(z:Int)) x 0 0 (vG _ Zo Zo) (o.out.1) (yF _ rfl) Zd (by have:=c.out.1;omega)).mono ?_;clear g;rintro e w4 ⟨rfl,m⟩))
 first|go_end0|refine bodyPost_ret (results_none rfl _ _ _) rfl ?_
 rw[mkOp_1 c.out.2]
 try rw[r.out]
 try rw[o.out.2]
 exact m.out.ret
theorem mkOp_2 {E:ME}{M:MS}(h:tkV E M 14=2):xK E M=(yJ E M.tick).2.tick.emit ⟨18+tkV E (yJ E M.tick).2 2,0,(yJ E M.tick).1,0,0,[]⟩:=by
 unfold xK;simp only[h];rfl
theorem op_2 {w:World}{K:MKC}{X:Nat->Prop}{M:MS}(h:wW w K X M)(d:M.cur<M.f.length)(l:M.sz+20<=1000000)(hk:tkV K.E M 14=2):
 Y 91 #[Q K.pm] w (yk K X w (xK K.E M) (.tuple #[])):=by
 have t:=Ja h.alt;have k:=Ja (OpSt.start h d);have c:=Ja (Jb l hk);clear h d l hk;go_enter Try.func91,Try.ntmps91
 go_wp2_with (first
  |(go_at_call 59;refine(k.out.takeK 14 2 2 rfl c.out.2 Zd Zd (by have:=c.out.1;omega)).mono ?_;clear k;rintro e w1 ⟨rfl,j⟩)
  |(go_at_call 118;refine(j.out.addr (by have:=c.out.1;omega)).mono ?_;clear j;rintro e w2 ⟨x,o,rfl,i⟩)
  |(go_at_call 59;refine(i.out.take 2 Zd Zd (by have:=c.out.1;omega)).mono ?_;clear i;rintro e w3 ⟨z,qz,r,rfl,g⟩)
  |(go_at_call 117;refine(g.out.emit (18+(z:Int)) x 0 0 (vG _ Zo Zo) (o.out.1) (yF _ rfl) Zd (by have:=c.out.1;omega)).mono ?_;clear g;rintro e w4 ⟨rfl,m⟩))
 first|go_end0|refine bodyPost_ret (results_none rfl _ _ _) rfl ?_
 rw[mkOp_2 c.out.2]
 try rw[o.out.2]
 try rw[r.out]
 exact m.out.ret
theorem mkOp_3 {E:ME}{M:MS}(h:tkV E M 14=3):xK E M=(yJ E M.tick).2.tick.emit ⟨18+tkV E (yJ E M.tick).2 2,0,(yJ E M.tick).1,0,0,[]⟩:=by
 unfold xK;simp only[h];rfl
theorem op_3 {w:World}{K:MKC}{X:Nat->Prop}{M:MS}(h:wW w K X M)(d:M.cur<M.f.length)(l:M.sz+20<=1000000)(hk:tkV K.E M 14=3):
 Y 91 #[Q K.pm] w (yk K X w (xK K.E M) (.tuple #[])):=by
 have t:=Ja h.alt;have k:=Ja (OpSt.start h d);have c:=Ja (Jb l hk);clear h d l hk;go_enter Try.func91,Try.ntmps91
 go_wp2_with (first
  |(go_at_call 59;refine(k.out.takeK 14 3 3 rfl c.out.2 Zd Zd (by have:=c.out.1;omega)).mono ?_;clear k;rintro e w1 ⟨rfl,j⟩)
  |(go_at_call 118;refine(j.out.addr (by have:=c.out.1;omega)).mono ?_;clear j;rintro e w2 ⟨x,o,rfl,i⟩)
  |(go_at_call 59;refine(i.out.take 2 Zd Zd (by have:=c.out.1;omega)).mono ?_;clear i;rintro e w3 ⟨z,qz,r,rfl,g⟩)
  |(go_at_call 117;refine(g.out.emit (18+(z:Int)) x 0 0 (vG _ Zo Zo) (o.out.1) (yF _ rfl) Zd (by have:=c.out.1;omega)).mono ?_;clear g;rintro e w4 ⟨rfl,m⟩))
 first|go_end0|refine bodyPost_ret (results_none rfl _ _ _) rfl ?_
 rw[mkOp_3 c.out.2]
 try rw[o.out.2]
 try rw[r.out]
 exact m.out.ret
theorem mkOp_4 {E:ME}{M:MS}(h:tkV E M 14=4):xK E M=(zJ E (yJ E M.tick).2).2.tick.emit ⟨20+tkV E (zJ E (yJ E M.tick).2).2 2,0,(yJ E M.tick).1,(zJ E (yJ E M.tick).2).1,0,[]⟩:=by
 unfold xK;simp only[h];rfl
theorem op_4 {w:World}{K:MKC}{X:Nat->Prop}{M:MS}(h:wW w K X M)(d:M.cur<M.f.length)(m:M.sz+20<=1000000)(hk:tkV K.E M 14=4):
 Y 91 #[Q K.pm] w (yk K X w (xK K.E M) (.tuple #[])):=by
 have HE:=Ja h.alt;have l:=Ja (OpSt.start h d);have c:=Ja (Jb m hk);clear h d m hk;go_enter Try.func91,Try.ntmps91
 go_wp2_with (first
  |(go_at_call 59;refine(l.out.takeK 14 4 4 rfl c.out.2 Zd Zd (by have:=c.out.1;omega)).mono ?_;clear l;rintro e w1 ⟨rfl,k⟩)
  |(go_at_call 118;refine(k.out.addr (by have:=c.out.1;omega)).mono ?_;clear k;rintro e w2 ⟨x,t,rfl,j⟩)
  |(go_at_call 62;refine(j.out.any (by have:=c.out.1;omega)).mono ?_;clear j;rintro e w3 ⟨y,r,rfl,i⟩)
  |(go_at_call 59;refine(i.out.take 2 Zd Zd (by have:=c.out.1;omega)).mono ?_;clear i;rintro e w4 ⟨z,qz,u,rfl,g⟩)
  |(go_at_call 117;refine(g.out.emit (20+(z:Int)) x y 0 (vG _ Zo Zo) (t.out.1) (r.out.1) Zd (by have:=c.out.1;omega)).mono ?_;clear g;rintro e w5 ⟨rfl,o⟩))
 first|go_end0|refine bodyPost_ret (results_none rfl _ _ _) rfl ?_
 rw[mkOp_4 c.out.2]
 try rw[t.out.2]
 try rw[r.out.2]
 try rw[u.out]
 exact o.out.ret
theorem mkOp_5 {E:ME}{M:MS}(h:tkV E M 14=5):xK E M=(zJ E (yJ E M.tick).2).2.tick.emit ⟨20+tkV E (zJ E (yJ E M.tick).2).2 2,0,(yJ E M.tick).1,(zJ E (yJ E M.tick).2).1,0,[]⟩:=by
 unfold xK;simp only[h];rfl
theorem op_5 {w:World}{K:MKC}{X:Nat->Prop}{M:MS}(h:wW w K X M)(d:M.cur<M.f.length)(m:M.sz+20<=1000000)(hk:tkV K.E M 14=5):
 Y 91 #[Q K.pm] w (yk K X w (xK K.E M) (.tuple #[])):=by
 have HE:=Ja h.alt;have l:=Ja (OpSt.start h d);have c:=Ja (Jb m hk);clear h d m hk;go_enter Try.func91,Try.ntmps91
 go_wp2_with (first
  |(go_at_call 59;refine(l.out.takeK 14 5 5 rfl c.out.2 Zd Zd (by have:=c.out.1;omega)).mono ?_;clear l;rintro e w1 ⟨rfl,k⟩)
  |(go_at_call 118;refine(k.out.addr (by have:=c.out.1;omega)).mono ?_;clear k;rintro e w2 ⟨x,t,rfl,j⟩)
  |(go_at_call 62;refine(j.out.any (by have:=c.out.1;omega)).mono ?_;clear j;rintro e w3 ⟨y,r,rfl,i⟩)
  |(go_at_call 59;refine(i.out.take 2 Zd Zd (by have:=c.out.1;omega)).mono ?_;clear i;rintro e w4 ⟨z,qz,u,rfl,g⟩)
  |(go_at_call 117;refine(g.out.emit (20+(z:Int)) x y 0 (vG _ Zo Zo) (t.out.1) (r.out.1) Zd (by have:=c.out.1;omega)).mono ?_;clear g;rintro e w5 ⟨rfl,o⟩))
 first|go_end0|refine bodyPost_ret (results_none rfl _ _ _) rfl ?_
 rw[mkOp_5 c.out.2]
 try rw[t.out.2]
 try rw[r.out.2]
 try rw[u.out]
 exact o.out.ret
theorem mkOp_6 {E:ME}{M:MS}(h:tkV E M 14=6):xK E M=M.tick.tick.emit ⟨24,0,0,0,1+tkV E M.tick 3,[]⟩:=by
 unfold xK;simp only[h];rfl
theorem op_6 {w:World}{K:MKC}{X:Nat->Prop}{M:MS}(h:wW w K X M)(c:M.cur<M.f.length)(k:M.sz+20<=1000000)(hk:tkV K.E M 14=6):
 Y 91 #[Q K.pm] w (yk K X w (xK K.E M) (.tuple #[])):=by
 have o:=Ja h.alt;have j:=Ja (OpSt.start h c);have d:=Ja (Jb k hk);clear h c k hk;go_enter Try.func91,Try.ntmps91
 go_wp2_with (first
  |(go_at_call 59;refine(j.out.takeK 14 6 6 rfl d.out.2 Zd Zd (by have:=d.out.1;omega)).mono ?_;clear j;rintro e w1 ⟨rfl,i⟩)
  |(go_at_call 59;refine(i.out.take 3 Zd Zd (by have:=d.out.1;omega)).mono ?_;clear i;rintro e w2 ⟨z,qz,m,rfl,g⟩)
  |(go_at_call 117;refine(g.out.emit 24 0 0 (1+z) (yF _ rfl) (yF _ rfl) (yF _ rfl) Zo (by have:=d.out.1;omega)).mono ?_;clear g;rintro e w3 ⟨rfl,l⟩))
 first|go_end0|refine bodyPost_ret (results_none rfl _ _ _) rfl ?_
 rw[mkOp_6 d.out.2]
 try rw[m.out]
 exact l.out.ret
theorem mkOp_7 {E:ME}{M:MS}(h:tkV E M 14=7):xK E M=(zJ E M.tick).2.tick.emit ⟨25,0,(zJ E M.tick).1,0,1+tkV E (zJ E M.tick).2 3,[]⟩:=by
 unfold xK;simp only[h];rfl
theorem op_7 {w:World}{K:MKC}{X:Nat->Prop}{M:MS}(h:wW w K X M)(d:M.cur<M.f.length)(l:M.sz+20<=1000000)(hk:tkV K.E M 14=7):
 Y 91 #[Q K.pm] w (yk K X w (xK K.E M) (.tuple #[])):=by
 have t:=Ja h.alt;have k:=Ja (OpSt.start h d);have c:=Ja (Jb l hk);clear h d l hk;go_enter Try.func91,Try.ntmps91
 go_wp2_with (first
  |(go_at_call 59;refine(k.out.takeK 14 7 7 rfl c.out.2 Zd Zd (by have:=c.out.1;omega)).mono ?_;clear k;rintro e w1 ⟨rfl,j⟩)
  |(go_at_call 62;refine(j.out.any (by have:=c.out.1;omega)).mono ?_;clear j;rintro e w2 ⟨x,o,rfl,i⟩)
  |(go_at_call 59;refine(i.out.take 3 Zd Zd (by have:=c.out.1;omega)).mono ?_;clear i;rintro e w3 ⟨z,qz,r,rfl,g⟩)
  |(go_at_call 117;refine(g.out.emit 25 x 0 (1+z) (yF _ rfl) (o.out.1) (yF _ rfl) Zo (by have:=c.out.1;omega)).mono ?_;clear g;rintro e w4 ⟨rfl,m⟩))
 first|go_end0|refine bodyPost_ret (results_none rfl _ _ _) rfl ?_
 rw[mkOp_7 c.out.2]
 try rw[o.out.2]
 try rw[r.out]
 exact m.out.ret
theorem mkOp_8 {E:ME}{M:MS}(h:tkV E M 14=8):xK E M=(M.tick.tick.num (tkV E M.tick 4096)).tick.emit ⟨22+tkV E (M.tick.tick.num (tkV E M.tick 4096)) 2,0,(M.tick.next:Nat),0,0,[]⟩:=by
 unfold xK;simp only[h];rfl
theorem op_8 {w:World}{K:MKC}{X:Nat->Prop}{M:MS}(h:wW w K X M)(g:M.cur<M.f.length)(m:M.sz+20<=1000000)(hk:tkV K.E M 14=8):
 Y 91 #[Q K.pm] w (yk K X w (xK K.E M) (.tuple #[])):=by
 have u:=Ja h.alt;have l:=Ja (OpSt.start h g);have c:=Ja (Jb m hk);clear h g m hk;go_enter Try.func91,Try.ntmps91
 go_wp2_with (first
  |(go_at_call 59;refine(l.out.takeK 14 8 8 rfl c.out.2 Zd Zd (by have:=c.out.1;omega)).mono ?_;clear l;rintro e w1 ⟨rfl,k⟩)
  |(go_at_call 59;refine(k.out.take 4096 Zd Zd (by have:=c.out.1;omega)).mono ?_;clear k;rintro e w2 ⟨y,qy,t,rfl,d⟩)
  |(go_at_call 94;refine(d.out.num y Zo (by have:=c.out.1;omega)).mono ?_;have N1:=Ja d.out.n64;clear d;rintro e w3 ⟨rfl,j⟩)
  |(go_at_call 59;refine(j.out.take 2 Zd Zd (by have:=c.out.1;omega)).mono ?_;clear j;rintro e w4 ⟨z,qz,r,rfl,i⟩)
  |(go_at_call 117;refine(i.out.emit (22+(z:Int)) (M.next:Int) 0 0 (vG _ Zo Zo) N1.out (yF _ rfl) Zd (by have:=c.out.1;omega)).mono ?_;clear i;rintro e w5 ⟨rfl,o⟩))
 first|go_end0|refine bodyPost_ret (results_none rfl _ _ _) rfl ?_
 rw[mkOp_8 c.out.2]
 try rw[t.out]
 try rw[r.out]
 exact o.out.ret
theorem mkOp_9 {E:ME}{M:MS}(h:tkV E M 14=9):xK E M=vN E M.tick:=by
 unfold xK;simp only[h];rfl
theorem op_9 {w:World}{K:MKC}{X:Nat->Prop}{M:MS}(h:wW w K X M)(c:M.cur<M.f.length)(j:M.sz+20<=1000000)(hk:tkV K.E M 14=9):
 Y 91 #[Q K.pm] w (yk K X w (xK K.E M) (.tuple #[])):=by
 have l:=Ja h.alt;have i:=Ja (OpSt.start h c);have d:=Ja (Jb j hk);clear h c j hk;go_enter Try.func91,Try.ntmps91
 go_wp2_with (first
  |(go_at_call 59;refine(i.out.takeK 14 9 9 rfl d.out.2 Zd Zd (by have:=d.out.1;omega)).mono ?_;clear i;rintro e w1 ⟨rfl,g⟩)
  |(go_at_call 119;refine(g.out.call l.out (by have:=d.out.1;omega)).mono ?_;clear g;rintro e w2 ⟨rfl,k⟩))
 first|go_end0|refine bodyPost_ret (results_none rfl _ _ _) rfl ?_
 rw[mkOp_9 d.out.2];exact k.out.ret
theorem mkOp_10a {E:ME}{M:MS}(h:tkV E M 14=10)(hq:tkV E M.tick 3=0):xK E M=M.tick.tick.emit ⟨27,0,0,0,0,[]⟩:=by
 unfold xK;simp only[h,hq];rfl
theorem op_10a {w:World}{K:MKC}{X:Nat->Prop}{M:MS}(h:wW w K X M)(c:M.cur<M.f.length)(l:M.sz+20<=1000000)(hk:tkV K.E M 14=10)(hq:tkV K.E M.tick 3=0):
 Y 91 #[Q K.pm] w (yk K X w (xK K.E M) (.tuple #[])):=by
 have o:=Ja h.alt;have k:=Ja (OpSt.start h c);have d:=Ja (Jb l hk);have j:=Ja hq;clear h c l hk hq;go_enter Try.func91,Try.ntmps91
 go_wp2_with (first
  |(go_at_call 59;refine(k.out.takeK 14 10 10 rfl d.out.2 Zd Zd (by have:=d.out.1;omega)).mono ?_;clear k;rintro e w1 ⟨rfl,i⟩)
  |(go_at_call 59;refine(i.out.takeK 3 0 0 rfl j.out Zd Zd (by have:=d.out.1;omega)).mono ?_;clear i;rintro e w2 ⟨rfl,g⟩)
  |(go_at_call 117;refine(g.out.emit 27 0 0 0 (yF _ rfl) (yF _ rfl) (yF _ rfl) Zd (by have:=d.out.1;omega)).mono ?_;clear g;rintro e w3 ⟨rfl,m⟩))
 first|go_end0|refine bodyPost_ret (results_none rfl _ _ _) rfl ?_
 rw[mkOp_10a d.out.2 j.out];exact m.out.ret
theorem mkOp_10b {E:ME}{M:MS}(h:tkV E M 14=10)(hq:¬tkV E M.tick 3=0):xK E M=M.tick.tick:=by
 unfold xK;simp only[h,hq];rfl
theorem op_10b {w:World}{K:MKC}{X:Nat->Prop}{M:MS}(h:wW w K X M)(c:M.cur<M.f.length)(k:M.sz+20<=1000000)(hk:tkV K.E M 14=10)(hq:¬tkV K.E M.tick 3=0):
 Y 91 #[Q K.pm] w (yk K X w (xK K.E M) (.tuple #[])):=by
 have o:=Ja h.alt;have j:=Ja (OpSt.start h c);have d:=Ja (Jb k hk);have i:=Ja hq;clear h c k hk hq;go_enter Try.func91,Try.ntmps91
 go_wp2_with (first
  |(go_at_call 59;refine(j.out.takeK 14 10 10 rfl d.out.2 Zd Zd (by have:=d.out.1;omega)).mono ?_;clear j;rintro e w1 ⟨rfl,g⟩)
  |(go_at_call 59;refine(g.out.take 3 Zd Zd (by have:=d.out.1;omega)).mono ?_;clear g;rintro e w2 ⟨z,qz,m,rfl,l⟩;have tz:((z:Int)==0)=false:=by rw[beq_eq_false_iff_ne];have:=m.out;have:=i.out;omega))
 first|go_end0|refine bodyPost_ret (results_none rfl _ _ _) rfl ?_
 rw[mkOp_10b d.out.2 i.out]
 try rw[m.out]
 exact l.out.ret
theorem mkOp_11a {E:ME}{M:MS}(h:tkV E M 14=11)(hq:¬tkV E (zJ E (zJ E M.tick).2).2 13=3):xK E M=(zJ E (zJ E M.tick).2).2.tick.emit ⟨((5+tkV E (zJ E (zJ E M.tick).2).2 13:Nat):Int),0,(zJ E M.tick).1,(zJ E (zJ E M.tick).2).1,0,[]⟩:=by
 unfold xK;simp only[h]
 show yR E M.tick=_
 unfold yR;simp only;rw[if_neg Zo]
theorem op_11a {w:World}{K:MKC}{X:Nat->Prop}{M:MS}(h:wW w K X M)(d:M.cur<M.f.length)(o:M.sz+20<=1000000)(hk:tkV K.E M 14=11)(hq:¬tkV K.E (zJ K.E (zJ K.E M.tick).2).2 13=3):
 Y 91 #[Q K.pm] w (yk K X w (xK K.E M) (.tuple #[])):=by
 have HE:=Ja h.alt;have m:=Ja (OpSt.start h d);have c:=Ja (Jb o hk);have l:=Ja hq;clear h d o hk hq;go_enter Try.func91,Try.ntmps91
 go_wp2_with (first
  |(go_at_call 59;refine(m.out.takeK 14 11 11 rfl c.out.2 Zd Zd (by have:=c.out.1;omega)).mono ?_;clear m;rintro e w1 ⟨rfl,k⟩)
  |(go_at_call 62;refine(k.out.any (by have:=c.out.1;omega)).mono ?_;clear k;rintro e w2 ⟨x,Hx,rfl,j⟩)
  |(go_at_call 62;refine(j.out.any (by have:=c.out.1;omega)).mono ?_;clear j;rintro e w3 ⟨y,u,rfl,i⟩)
  |(go_at_call 59;refine(i.out.take 13 Zd Zd (by have:=c.out.1;omega)).mono ?_;clear i;rintro e w4 ⟨z,qz,t,rfl,g⟩;have tz:((5+(z:Int))==8)=false:=by rw[beq_eq_false_iff_ne];have:=t.out;have:=l.out;omega)
  |(go_at_call 117;refine(g.out.emit (5+(z:Int)) x y 0 (vG _ Zo Zo) (Hx.out.1) (u.out.1) Zd (by have:=c.out.1;omega)).mono ?_;clear g;rintro e w5 ⟨rfl,r⟩))
 first|go_end0|refine bodyPost_ret (results_none rfl _ _ _) rfl ?_
 rw[mkOp_11a c.out.2 l.out]
 try rw[Hx.out.2]
 try rw[u.out.2]
 try rw[t.out]
 exact r.out.ret
theorem mkOp_11b {E:ME}{M:MS}(h:tkV E M 14=11)(hq:tkV E (zJ E (zJ E M.tick).2).2 13=3)(hp:tkV E (zJ E (zJ E M.tick).2).2.tick 8=0):xK E M=(zJ E (zJ E M.tick).2).2.tick.tick.emit ⟨8,0,(zJ E M.tick).1,(zJ E (zJ E M.tick).2).1,0,[]⟩:=by
 unfold xK;simp only[h]
 show yR E M.tick=_
 unfold yR;simp only;rw[if_pos Zo,if_neg Zo]
theorem op_11b {w:World}{K:MKC}{X:Nat->Prop}{M:MS}(h:wW w K X M)(d:M.cur<M.f.length)(t:M.sz+20<=1000000)(hk:tkV K.E M 14=11)(hq:tkV K.E (zJ K.E (zJ K.E M.tick).2).2 13=3)(hp:tkV K.E (zJ K.E (zJ K.E M.tick).2).2.tick 8=0):
 Y 91 #[Q K.pm] w (yk K X w (xK K.E M) (.tuple #[])):=by
 have HE:=Ja h.alt;have r:=Ja (OpSt.start h d);have c:=Ja (Jb t hk);have m:=Ja hq;have o:=Ja hp;clear h d t hk hq hp;go_enter Try.func91,Try.ntmps91
 go_wp2_with (first
  |(go_at_call 59;refine(r.out.takeK 14 11 11 rfl c.out.2 Zd Zd (by have:=c.out.1;omega)).mono ?_;clear r;rintro e w1 ⟨rfl,l⟩)
  |(go_at_call 62;refine(l.out.any (by have:=c.out.1;omega)).mono ?_;clear l;rintro e w2 ⟨x,Hx,rfl,k⟩)
  |(go_at_call 62;refine(k.out.any (by have:=c.out.1;omega)).mono ?_;clear k;rintro e w3 ⟨y,Hy,rfl,j⟩)
  |(go_at_call 59;refine(j.out.takeK 13 3 3 rfl m.out Zd Zd (by have:=c.out.1;omega)).mono ?_;clear j;rintro e w4 ⟨rfl,i⟩)
  |(go_at_call 59;refine(i.out.takeK 8 0 0 rfl o.out Zd Zd (by have:=c.out.1;omega)).mono ?_;clear i;rintro e w5 ⟨rfl,g⟩)
  |(go_at_call 117;refine(g.out.emit 8 x y 0 (yF _ rfl) (Hx.out.1) (Hy.out.1) Zd (by have:=c.out.1;omega)).mono ?_;clear g;rintro e w6 ⟨rfl,u⟩))
 first|go_end0|refine bodyPost_ret (results_none rfl _ _ _) rfl ?_
 rw[mkOp_11b c.out.2 m.out o.out]
 try rw[Hx.out.2]
 try rw[Hy.out.2]
 exact u.out.ret
theorem mkOp_11c {E:ME}{M:MS}(h:tkV E M 14=11)(hq:tkV E (zJ E (zJ E M.tick).2).2 13=3)(hp:0<tkV E (zJ E (zJ E M.tick).2).2.tick 8):xK E M=((((zJ E (zJ E M.tick).2).2.tick.tick.num 1).emit ⟨10,0,(zJ E (zJ E M.tick).2).1,((zJ E (zJ E M.tick).2).2.next:Nat),0,[]⟩).emit ⟨8,0,(zJ E M.tick).1,(((zJ E (zJ E M.tick).2).2.next+1:Nat):Int),0,[]⟩):=by
 unfold xK;simp only[h]
 show yR E M.tick=_
 unfold yR;simp only;rw[if_pos Zo,if_pos Zo];rfl
theorem op_11c {w:World}{K:MKC}{X:Nat->Prop}{M:MS}(h:wW w K X M)(i:M.cur<M.f.length)(hz:M.sz+20<=1000000)(hk:tkV K.E M 14=11)(hq:tkV K.E (zJ K.E (zJ K.E M.tick).2).2 13=3)(hp:0<tkV K.E (zJ K.E (zJ K.E M.tick).2).2.tick 8):
 Y 91 #[Q K.pm] w (yk K X w (xK K.E M) (.tuple #[])):=by
 have HE:=Ja h.alt;have u:=Ja (OpSt.start h i);have c:=Ja (Jb hz hk);have r:=Ja hq;have t:=Ja hp;clear h i hz hk hq hp;go_enter Try.func91,Try.ntmps91
 go_wp2_with (first
  |(go_at_call 59;refine(u.out.takeK 14 11 11 rfl c.out.2 Zd Zd (by have:=c.out.1;omega)).mono ?_;clear u;rintro e w1 ⟨rfl,o⟩)
  |(go_at_call 62;refine(o.out.any (by have:=c.out.1;omega)).mono ?_;clear o;rintro e w2 ⟨x,Hx,rfl,m⟩)
  |(go_at_call 62;refine(m.out.any (by have:=c.out.1;omega)).mono ?_;clear m;rintro e w3 ⟨y,Hy,rfl,l⟩)
  |(go_at_call 59;refine(l.out.takeK 13 3 3 rfl r.out Zd Zd (by have:=c.out.1;omega)).mono ?_;clear l;rintro e w4 ⟨rfl,k⟩)
  |(go_at_call 59;refine(k.out.take 8 Zd Zd (by have:=c.out.1;omega)).mono ?_;clear k;rintro e w5 ⟨z,qz,Hz,rfl,g⟩;have tz:(0:Int)<(z:Int):=by have:=Hz.out;have:=t.out;omega)
  |(go_at_call 94;refine(g.out.num 1 Zo (by have:=c.out.1;omega)).mono ?_;have N1:=Ja g.out.n64;clear g;rintro e w6 ⟨rfl,d⟩)
  |(go_at_call 117;refine(d.out.emit 10 y _ 0 (yF _ rfl) (Hy.out.1) N1.out Zd (by have:=c.out.1;omega)).mono ?_;have N2:=Ja d.out.n64;clear d;rintro e w7 ⟨rfl,j⟩)
  |(go_at_call 117;refine(j.out.emit 8 x _ 0 (yF _ rfl) (Hx.out.1) N2.out Zd (by have:=c.out.1;omega)).mono ?_;clear j;rintro e w8 ⟨rfl,a0⟩))
 first|go_end0|refine bodyPost_ret (results_none rfl _ _ _) rfl ?_
 rw[mkOp_11c c.out.2 r.out t.out]
 try rw[Hx.out.2]
 try rw[Hy.out.2]
 try rw[Hz.out]
 exact a0.out.ret
theorem mkOp_12a {E:ME}{M:MS}(h:tkV E M 14=12)(hq:¬tkV E (zJ E (zJ E M.tick).2).2 13=3):xK E M=(zJ E (zJ E M.tick).2).2.tick.emit ⟨((5+tkV E (zJ E (zJ E M.tick).2).2 13:Nat):Int),0,(zJ E M.tick).1,(zJ E (zJ E M.tick).2).1,0,[]⟩:=by
 unfold xK;simp only[h]
 show yR E M.tick=_
 unfold yR;simp only;rw[if_neg Zo]
theorem op_12a {w:World}{K:MKC}{X:Nat->Prop}{M:MS}(h:wW w K X M)(d:M.cur<M.f.length)(o:M.sz+20<=1000000)(hk:tkV K.E M 14=12)(hq:¬tkV K.E (zJ K.E (zJ K.E M.tick).2).2 13=3):
 Y 91 #[Q K.pm] w (yk K X w (xK K.E M) (.tuple #[])):=by
 have HE:=Ja h.alt;have m:=Ja (OpSt.start h d);have c:=Ja (Jb o hk);have l:=Ja hq;clear h d o hk hq;go_enter Try.func91,Try.ntmps91
 go_wp2_with (first
  |(go_at_call 59;refine(m.out.takeK 14 12 12 rfl c.out.2 Zd Zd (by have:=c.out.1;omega)).mono ?_;clear m;rintro e w1 ⟨rfl,k⟩)
  |(go_at_call 62;refine(k.out.any (by have:=c.out.1;omega)).mono ?_;clear k;rintro e w2 ⟨x,Hx,rfl,j⟩)
  |(go_at_call 62;refine(j.out.any (by have:=c.out.1;omega)).mono ?_;clear j;rintro e w3 ⟨y,u,rfl,i⟩)
  |(go_at_call 59;refine(i.out.take 13 Zd Zd (by have:=c.out.1;omega)).mono ?_;clear i;rintro e w4 ⟨z,qz,t,rfl,g⟩;have tz:((5+(z:Int))==8)=false:=by rw[beq_eq_false_iff_ne];have:=t.out;have:=l.out;omega)
  |(go_at_call 117;refine(g.out.emit (5+(z:Int)) x y 0 (vG _ Zo Zo) (Hx.out.1) (u.out.1) Zd (by have:=c.out.1;omega)).mono ?_;clear g;rintro e w5 ⟨rfl,r⟩))
 first|go_end0|refine bodyPost_ret (results_none rfl _ _ _) rfl ?_
 rw[mkOp_12a c.out.2 l.out]
 try rw[Hx.out.2]
 try rw[u.out.2]
 try rw[t.out]
 exact r.out.ret
theorem mkOp_12b {E:ME}{M:MS}(h:tkV E M 14=12)(hq:tkV E (zJ E (zJ E M.tick).2).2 13=3)(hp:tkV E (zJ E (zJ E M.tick).2).2.tick 8=0):xK E M=(zJ E (zJ E M.tick).2).2.tick.tick.emit ⟨8,0,(zJ E M.tick).1,(zJ E (zJ E M.tick).2).1,0,[]⟩:=by
 unfold xK;simp only[h]
 show yR E M.tick=_
 unfold yR;simp only;rw[if_pos Zo,if_neg Zo]
theorem op_12b {w:World}{K:MKC}{X:Nat->Prop}{M:MS}(h:wW w K X M)(d:M.cur<M.f.length)(t:M.sz+20<=1000000)(hk:tkV K.E M 14=12)(hq:tkV K.E (zJ K.E (zJ K.E M.tick).2).2 13=3)(hp:tkV K.E (zJ K.E (zJ K.E M.tick).2).2.tick 8=0):
 Y 91 #[Q K.pm] w (yk K X w (xK K.E M) (.tuple #[])):=by
 have HE:=Ja h.alt;have r:=Ja (OpSt.start h d);have c:=Ja (Jb t hk);have m:=Ja hq;have o:=Ja hp;clear h d t hk hq hp;go_enter Try.func91,Try.ntmps91
 go_wp2_with (first
  |(go_at_call 59;refine(r.out.takeK 14 12 12 rfl c.out.2 Zd Zd (by have:=c.out.1;omega)).mono ?_;clear r;rintro e w1 ⟨rfl,l⟩)
  |(go_at_call 62;refine(l.out.any (by have:=c.out.1;omega)).mono ?_;clear l;rintro e w2 ⟨x,Hx,rfl,k⟩)
  |(go_at_call 62;refine(k.out.any (by have:=c.out.1;omega)).mono ?_;clear k;rintro e w3 ⟨y,Hy,rfl,j⟩)
  |(go_at_call 59;refine(j.out.takeK 13 3 3 rfl m.out Zd Zd (by have:=c.out.1;omega)).mono ?_;clear j;rintro e w4 ⟨rfl,i⟩)
  |(go_at_call 59;refine(i.out.takeK 8 0 0 rfl o.out Zd Zd (by have:=c.out.1;omega)).mono ?_;clear i;rintro e w5 ⟨rfl,g⟩)
  |(go_at_call 117;refine(g.out.emit 8 x y 0 (yF _ rfl) (Hx.out.1) (Hy.out.1) Zd (by have:=c.out.1;omega)).mono ?_;clear g;rintro e w6 ⟨rfl,u⟩))
 first|go_end0|refine bodyPost_ret (results_none rfl _ _ _) rfl ?_
 rw[mkOp_12b c.out.2 m.out o.out]
 try rw[Hx.out.2]
 try rw[Hy.out.2]
 exact u.out.ret
theorem mkOp_12c {E:ME}{M:MS}(h:tkV E M 14=12)(hq:tkV E (zJ E (zJ E M.tick).2).2 13=3)(hp:0<tkV E (zJ E (zJ E M.tick).2).2.tick 8):xK E M=((((zJ E (zJ E M.tick).2).2.tick.tick.num 1).emit ⟨10,0,(zJ E (zJ E M.tick).2).1,((zJ E (zJ E M.tick).2).2.next:Nat),0,[]⟩).emit ⟨8,0,(zJ E M.tick).1,(((zJ E (zJ E M.tick).2).2.next+1:Nat):Int),0,[]⟩):=by
 unfold xK;simp only[h]
 show yR E M.tick=_
 unfold yR;simp only;rw[if_pos Zo,if_pos Zo];rfl
theorem op_12c {w:World}{K:MKC}{X:Nat->Prop}{M:MS}(h:wW w K X M)(i:M.cur<M.f.length)(hz:M.sz+20<=1000000)(hk:tkV K.E M 14=12)(hq:tkV K.E (zJ K.E (zJ K.E M.tick).2).2 13=3)(hp:0<tkV K.E (zJ K.E (zJ K.E M.tick).2).2.tick 8):
 Y 91 #[Q K.pm] w (yk K X w (xK K.E M) (.tuple #[])):=by
 have HE:=Ja h.alt;have u:=Ja (OpSt.start h i);have c:=Ja (Jb hz hk);have r:=Ja hq;have t:=Ja hp;clear h i hz hk hq hp;go_enter Try.func91,Try.ntmps91
 go_wp2_with (first
  |(go_at_call 59;refine(u.out.takeK 14 12 12 rfl c.out.2 Zd Zd (by have:=c.out.1;omega)).mono ?_;clear u;rintro e w1 ⟨rfl,o⟩)
  |(go_at_call 62;refine(o.out.any (by have:=c.out.1;omega)).mono ?_;clear o;rintro e w2 ⟨x,Hx,rfl,m⟩)
  |(go_at_call 62;refine(m.out.any (by have:=c.out.1;omega)).mono ?_;clear m;rintro e w3 ⟨y,Hy,rfl,l⟩)
  |(go_at_call 59;refine(l.out.takeK 13 3 3 rfl r.out Zd Zd (by have:=c.out.1;omega)).mono ?_;clear l;rintro e w4 ⟨rfl,k⟩)
  |(go_at_call 59;refine(k.out.take 8 Zd Zd (by have:=c.out.1;omega)).mono ?_;clear k;rintro e w5 ⟨z,qz,Hz,rfl,g⟩;have tz:(0:Int)<(z:Int):=by have:=Hz.out;have:=t.out;omega)
  |(go_at_call 94;refine(g.out.num 1 Zo (by have:=c.out.1;omega)).mono ?_;have N1:=Ja g.out.n64;clear g;rintro e w6 ⟨rfl,d⟩)
  |(go_at_call 117;refine(d.out.emit 10 y _ 0 (yF _ rfl) (Hy.out.1) N1.out Zd (by have:=c.out.1;omega)).mono ?_;have N2:=Ja d.out.n64;clear d;rintro e w7 ⟨rfl,j⟩)
  |(go_at_call 117;refine(j.out.emit 8 x _ 0 (yF _ rfl) (Hx.out.1) N2.out Zd (by have:=c.out.1;omega)).mono ?_;clear j;rintro e w8 ⟨rfl,a0⟩))
 first|go_end0|refine bodyPost_ret (results_none rfl _ _ _) rfl ?_
 rw[mkOp_12c c.out.2 r.out t.out]
 try rw[Hx.out.2]
 try rw[Hy.out.2]
 try rw[Hz.out]
 exact a0.out.ret
theorem mkOp_13a {E:ME}{M:MS}(h:tkV E M 14=13)(hq:¬tkV E (zJ E (zJ E M.tick).2).2 13=3):xK E M=(zJ E (zJ E M.tick).2).2.tick.emit ⟨((5+tkV E (zJ E (zJ E M.tick).2).2 13:Nat):Int),0,(zJ E M.tick).1,(zJ E (zJ E M.tick).2).1,0,[]⟩:=by
 unfold xK;simp only[h]
 show yR E M.tick=_
 unfold yR;simp only;rw[if_neg Zo]
theorem op_13a {w:World}{K:MKC}{X:Nat->Prop}{M:MS}(h:wW w K X M)(d:M.cur<M.f.length)(o:M.sz+20<=1000000)(hk:tkV K.E M 14=13)(hq:¬tkV K.E (zJ K.E (zJ K.E M.tick).2).2 13=3):
 Y 91 #[Q K.pm] w (yk K X w (xK K.E M) (.tuple #[])):=by
 have HE:=Ja h.alt;have m:=Ja (OpSt.start h d);have c:=Ja (Jb o hk);have l:=Ja hq;clear h d o hk hq;go_enter Try.func91,Try.ntmps91
 go_wp2_with (first
  |(go_at_call 59;refine(m.out.takeK 14 13 13 rfl c.out.2 Zd Zd (by have:=c.out.1;omega)).mono ?_;clear m;rintro e w1 ⟨rfl,k⟩)
  |(go_at_call 62;refine(k.out.any (by have:=c.out.1;omega)).mono ?_;clear k;rintro e w2 ⟨x,Hx,rfl,j⟩)
  |(go_at_call 62;refine(j.out.any (by have:=c.out.1;omega)).mono ?_;clear j;rintro e w3 ⟨y,u,rfl,i⟩)
  |(go_at_call 59;refine(i.out.take 13 Zd Zd (by have:=c.out.1;omega)).mono ?_;clear i;rintro e w4 ⟨z,qz,t,rfl,g⟩;have tz:((5+(z:Int))==8)=false:=by rw[beq_eq_false_iff_ne];have:=t.out;have:=l.out;omega)
  |(go_at_call 117;refine(g.out.emit (5+(z:Int)) x y 0 (vG _ Zo Zo) (Hx.out.1) (u.out.1) Zd (by have:=c.out.1;omega)).mono ?_;clear g;rintro e w5 ⟨rfl,r⟩))
 first|go_end0|refine bodyPost_ret (results_none rfl _ _ _) rfl ?_
 rw[mkOp_13a c.out.2 l.out]
 try rw[Hx.out.2]
 try rw[u.out.2]
 try rw[t.out]
 exact r.out.ret
theorem mkOp_13b {E:ME}{M:MS}(h:tkV E M 14=13)(hq:tkV E (zJ E (zJ E M.tick).2).2 13=3)(hp:tkV E (zJ E (zJ E M.tick).2).2.tick 8=0):xK E M=(zJ E (zJ E M.tick).2).2.tick.tick.emit ⟨8,0,(zJ E M.tick).1,(zJ E (zJ E M.tick).2).1,0,[]⟩:=by
 unfold xK;simp only[h]
 show yR E M.tick=_
 unfold yR;simp only;rw[if_pos Zo,if_neg Zo]
theorem op_13b {w:World}{K:MKC}{X:Nat->Prop}{M:MS}(h:wW w K X M)(d:M.cur<M.f.length)(t:M.sz+20<=1000000)(hk:tkV K.E M 14=13)(hq:tkV K.E (zJ K.E (zJ K.E M.tick).2).2 13=3)(hp:tkV K.E (zJ K.E (zJ K.E M.tick).2).2.tick 8=0):
 Y 91 #[Q K.pm] w (yk K X w (xK K.E M) (.tuple #[])):=by
 have HE:=Ja h.alt;have r:=Ja (OpSt.start h d);have c:=Ja (Jb t hk);have m:=Ja hq;have o:=Ja hp;clear h d t hk hq hp;go_enter Try.func91,Try.ntmps91
 go_wp2_with (first
  |(go_at_call 59;refine(r.out.takeK 14 13 13 rfl c.out.2 Zd Zd (by have:=c.out.1;omega)).mono ?_;clear r;rintro e w1 ⟨rfl,l⟩)
  |(go_at_call 62;refine(l.out.any (by have:=c.out.1;omega)).mono ?_;clear l;rintro e w2 ⟨x,Hx,rfl,k⟩)
  |(go_at_call 62;refine(k.out.any (by have:=c.out.1;omega)).mono ?_;clear k;rintro e w3 ⟨y,Hy,rfl,j⟩)
  |(go_at_call 59;refine(j.out.takeK 13 3 3 rfl m.out Zd Zd (by have:=c.out.1;omega)).mono ?_;clear j;rintro e w4 ⟨rfl,i⟩)
  |(go_at_call 59;refine(i.out.takeK 8 0 0 rfl o.out Zd Zd (by have:=c.out.1;omega)).mono ?_;clear i;rintro e w5 ⟨rfl,g⟩)
  |(go_at_call 117;refine(g.out.emit 8 x y 0 (yF _ rfl) (Hx.out.1) (Hy.out.1) Zd (by have:=c.out.1;omega)).mono ?_;clear g;rintro e w6 ⟨rfl,u⟩))
 first|go_end0|refine bodyPost_ret (results_none rfl _ _ _) rfl ?_
 rw[mkOp_13b c.out.2 m.out o.out]
 try rw[Hx.out.2]
 try rw[Hy.out.2]
 exact u.out.ret
theorem mkOp_13c {E:ME}{M:MS}(h:tkV E M 14=13)(hq:tkV E (zJ E (zJ E M.tick).2).2 13=3)(hp:0<tkV E (zJ E (zJ E M.tick).2).2.tick 8):xK E M=((((zJ E (zJ E M.tick).2).2.tick.tick.num 1).emit ⟨10,0,(zJ E (zJ E M.tick).2).1,((zJ E (zJ E M.tick).2).2.next:Nat),0,[]⟩).emit ⟨8,0,(zJ E M.tick).1,(((zJ E (zJ E M.tick).2).2.next+1:Nat):Int),0,[]⟩):=by
 unfold xK;simp only[h]
 show yR E M.tick=_
 unfold yR;simp only;rw[if_pos Zo,if_pos Zo];rfl
theorem op_13c {w:World}{K:MKC}{X:Nat->Prop}{M:MS}(h:wW w K X M)(i:M.cur<M.f.length)(hz:M.sz+20<=1000000)(hk:tkV K.E M 14=13)(hq:tkV K.E (zJ K.E (zJ K.E M.tick).2).2 13=3)(hp:0<tkV K.E (zJ K.E (zJ K.E M.tick).2).2.tick 8):
 Y 91 #[Q K.pm] w (yk K X w (xK K.E M) (.tuple #[])):=by
 have HE:=Ja h.alt;have u:=Ja (OpSt.start h i);have c:=Ja (Jb hz hk);have r:=Ja hq;have t:=Ja hp;clear h i hz hk hq hp;go_enter Try.func91,Try.ntmps91
 go_wp2_with (first
  |(go_at_call 59;refine(u.out.takeK 14 13 13 rfl c.out.2 Zd Zd (by have:=c.out.1;omega)).mono ?_;clear u;rintro e w1 ⟨rfl,o⟩)
  |(go_at_call 62;refine(o.out.any (by have:=c.out.1;omega)).mono ?_;clear o;rintro e w2 ⟨x,Hx,rfl,m⟩)
  |(go_at_call 62;refine(m.out.any (by have:=c.out.1;omega)).mono ?_;clear m;rintro e w3 ⟨y,Hy,rfl,l⟩)
  |(go_at_call 59;refine(l.out.takeK 13 3 3 rfl r.out Zd Zd (by have:=c.out.1;omega)).mono ?_;clear l;rintro e w4 ⟨rfl,k⟩)
  |(go_at_call 59;refine(k.out.take 8 Zd Zd (by have:=c.out.1;omega)).mono ?_;clear k;rintro e w5 ⟨z,qz,Hz,rfl,g⟩;have tz:(0:Int)<(z:Int):=by have:=Hz.out;have:=t.out;omega)
  |(go_at_call 94;refine(g.out.num 1 Zo (by have:=c.out.1;omega)).mono ?_;have N1:=Ja g.out.n64;clear g;rintro e w6 ⟨rfl,d⟩)
  |(go_at_call 117;refine(d.out.emit 10 y _ 0 (yF _ rfl) (Hy.out.1) N1.out Zd (by have:=c.out.1;omega)).mono ?_;have N2:=Ja d.out.n64;clear d;rintro e w7 ⟨rfl,j⟩)
  |(go_at_call 117;refine(j.out.emit 8 x _ 0 (yF _ rfl) (Hx.out.1) N2.out Zd (by have:=c.out.1;omega)).mono ?_;clear j;rintro e w8 ⟨rfl,a0⟩))
 first|go_end0|refine bodyPost_ret (results_none rfl _ _ _) rfl ?_
 rw[mkOp_13c c.out.2 r.out t.out]
 try rw[Hx.out.2]
 try rw[Hy.out.2]
 try rw[Hz.out]
 exact a0.out.ret
theorem op_any {w:World}{K:MKC}{X:Nat->Prop}{M:MS}(h:wW w K X M)(c:M.cur<M.f.length)(d:M.sz+20<=1000000):
 Y 91 #[Q K.pm] w (yk K X w (xK K.E M) (.tuple #[])):=by
 have i:=aaE K.E M (n:=14) Zo;have h3:=aaE K.E M.tick (n:=3) Zo;obtain⟨k,hk⟩:∃k,tkV K.E M 14=k:=⟨_,rfl⟩
 rw[hk] at i
 have l:∀j,j=11∨j=12∨j=13->k=j->Y 91 #[Q K.pm] w (yk K X w (xK K.E M) (.tuple #[])):=fun j hj e=>by
  by_cases hq:tkV K.E (zJ K.E (zJ K.E M.tick).2).2 13=3
  ·by_cases hp:0<tkV K.E (zJ K.E (zJ K.E M.tick).2).2.tick 8
   ·rcases hj with rfl|rfl|rfl
    ·exact op_11c h c d (hk.trans e) hq hp
    ·exact op_12c h c d (hk.trans e) hq hp
    ·exact op_13c h c d (hk.trans e) hq hp
   ·have g:tkV K.E (zJ K.E (zJ K.E M.tick).2).2.tick 8=0:=Zo;rcases hj with rfl|rfl|rfl
    ·exact op_11b h c d (hk.trans e) hq g
    ·exact op_12b h c d (hk.trans e) hq g
    ·exact op_13b h c d (hk.trans e) hq g
  ·rcases hj with rfl|rfl|rfl
   ·exact op_11a h c d (hk.trans e) hq
   ·exact op_12a h c d (hk.trans e) hq
   ·exact op_13a h c d (hk.trans e) hq
 match k,i with
 |0,_=>exact op_0 h c d hk
 |1,_=>exact op_1 h c d hk
 |2,_=>exact op_2 h c d hk
 |3,_=>exact op_3 h c d hk
 |4,_=>exact op_4 h c d hk
 |5,_=>exact op_5 h c d hk
 |6,_=>exact op_6 h c d hk
 |7,_=>exact op_7 h c d hk
 |8,_=>exact op_8 h c d hk
 |9,_=>exact op_9 h c d hk
 |10,_=>
  by_cases hq:tkV K.E M.tick 3=0
  ·exact op_10a h c d hk hq
  ·exact op_10b h c d hk hq
 |11,_=>exact l 11 Zo rfl
 |12,_=>exact l 12 Zo rfl
 |13,_=>exact l 13 Zo rfl
 |k+14,h=>exact absurd h Zo
theorem own_take {w:World}{S:Nat}{e:TypeId}{a:Option Addr}{n c k:Nat}{xs:List Value}(h:w.ownsRow S e 1 (.slice a n c) n xs)(hk:k<=n):w.ownsRow S e 1 (.slice a k c) k (xs.take k):=by
 obtain⟨h1,h2⟩:=h;refine⟨by rw[Oc,h1];omega,?_⟩;rcases h2 with⟨h3,d⟩|⟨g,cap,cur,h3,d,m,o,l,j,i⟩
 ·cases h3;left;have:k=0:=Zo;subst this;exact⟨rfl,rfl⟩
 ·cases h3;refine .inr ⟨g,_,cur,rfl,d,m,by omega,l,j,?_⟩;rw[<-i,List.take_take]
  congr 1
  omega
def toL (tg n:Nat):List (IEdge×Value):=(List.range n).map fun k=>(⟨((tg+k:Nat):Int),[]⟩,O)
theorem toL_succ (tg n:Nat):toL tg (n+1)=toL tg n++ [(⟨((tg+n:Nat):Int),[]⟩,.slice none 0 0)]:=by unfold toL;rw[List.range_succ,Js];rfl
theorem toL_len (tg n:Nat):(toL tg n).length=n:=by unfold toL;simp
theorem toL_fst (tg n:Nat):(toL tg n).map (·.1)=xk tg n:=by unfold toL xk;rw[List.map_map];rfl
structure ToMid (w:World) (K:MKC) (X:Nat->Prop) (M:MS) (tv:Value) (j:Nat) (wx:World):Prop where
 own:wx.ownsRow w.heap.size 75 2 tv j ((toL M.f.length j).flatMap za)
 made:∃Xj,wW wx (K.withZ fun k=>K.Z k∨tv.ownBlock=some k) Xj (xE j M)/\Stp X w Xj wx
theorem ToMid.start {w:World}{K:MKC}{X:Nat->Prop}{M:MS}(h:wW w K X M):ToMid w K X M (O) 0 w:=by
 refine⟨Jv _ _ _ _,X,?_,Stp.refl _ _⟩;obtain⟨fv,vv,l,h⟩:=h;exact⟨fv,vv,l,h.off (Je _) ⟨rfl,rfl,rfl⟩ (fun _ _ _=>rfl) (fun k e=>e.elim .inl (fun e=>by simp[Value.ownBlock] at e)) (fun k e=>e.elim (h.env.zl k) (fun e=>by simp[Value.ownBlock] at e))⟩
theorem ToMid.next {w wx w2 w3:World}{K:MKC}{X X2:Nat->Prop}{M:MS}{tv d:Value}{j:Nat}{o:Obj}(h:ToMid w K X M tv j wx)(h2:wW w2 (K.withZ fun k=>K.Z k∨tv.ownBlock=some k) X2 (xE (j+1) M))(c:Stp X w X2 w2)(m:w2.ownsRow w.heap.size 75 2 tv j ((toL M.f.length j).flatMap za))
 (t:∀k,X k->k<w.heap.size) (hB:K.B<=w.heap.size) (hg:(w2.alloc o).grownBy w3 tv.ownBlock) (i:w3.ownsRow w.heap.size 75 2 d (j+1) ((toL M.f.length j).flatMap za++za (⟨((M.f.length+j:Nat):Int),[]⟩,O))) (r:∀k,d.ownBlock=some k->tv.ownBlock=some k∨w2.heap.size<=k):ToMid w K X M d (j+1) w3:=by
 obtain⟨fv,vv,l,h2⟩:=h2;have g:w2.heap.size<=w3.heap.size:=by have:=hg.size;simp at this;omega
 have hk:∀k,k<w2.heap.size->tv.ownBlock≠some k->w3.heap[k]? =w2.heap[k]?:=fun k hk hne=>(hg.block k Zt (fun e=>hne e.symm)).trans (Below.heap_alloc w2 o k hk)
 refine⟨?_,X2,⟨fv,vv,l,h2.off (K:=K.withZ fun k=>K.Z k∨tv.ownBlock=some k) g ⟨hg.os,hg.tape,hg.output⟩ (fun k hk' hz=>hk k hk' (fun e=>by have h1:k<K.B:=hz (.inr e);have:=(m.lt k e).1;omega)) (fun k e=>e.elim (fun e=> .inl (.inl e)) (fun e=>(r k e).elim (fun e=> .inl (.inr e)) .inr)) (fun k e=>e.elim (fun e=>Jy (h2.env.zl k (.inl e)) g) (fun e=>(i.lt k e).2))⟩,?_⟩
 ·rw[toL_succ,Nx];exact i
 ·refine⟨hg.os.trans c.os,hg.tape.trans c.tape,hg.output.trans c.output,Jn c.size g,c.new,fun k hk' hx'=>(hk k (Jy hk' c.size) (fun e=>?_)).trans (c.kept k hk' hx')⟩;have:=(m.lt k e).1;omega
theorem ToMid.done {w wx:World}{K:MKC}{X:Nat->Prop}{M:MS}{tv:Value}{j:Nat}(h:ToMid w K X M tv j wx)(d:∀k,K.Z k->k<w.heap.size)(g:M.f.length+j<=1000000):∃Xj,wW wx K Xj (xE j M)/\Stp X w Xj wx/\vT wx (K.av Xj) tv (xk M.f.length j):=by
 obtain⟨Xj,⟨fv,vv,l,hm⟩,hs⟩:=h.made;refine⟨Xj,⟨fv,vv,l,hm.off (Z2:=K.Z) (Je _) ⟨rfl,rfl,rfl⟩ (fun _ _ _=>rfl) (fun k e=> .inl (.inl e)) (fun k e=>hm.env.zl k (.inl e))⟩,hs,?_⟩;rw[<-toL_fst];refine ld (by rw[toL_len];exact h.own) (fun q hq=>?_) (fun k e hx=>hx.elim (fun e2=>hm.env.zx k e2 (.inr e)) (fun e2=>?_))
 ·unfold toL at hq;obtain⟨m,c,rfl⟩:=Nu.1 hq;have:=Ol.1 c;exact⟨vG _ (by show -1000000<=((M.f.length+m:Nat):Int);omega) (by show((M.f.length+m:Nat):Int)<=1000000;omega),yE.nil⟩
 ·have:=(h.own.lt k e).1;have:=d k e2;omega
theorem pj {w:World}{xs:List Int}{blk:Int}(d:∀x∈xs,I64 x)(hl:xs.length<=1000)(hb:I64 blk)(X:Nat->Prop)(c:∀k,X k->k<w.heap.size):
 vT ((w.alloc (U (xs.map fun x=>A x).toArray 3)).alloc (U #[A blk,N w.heap.size xs.length xs.length] 75)) X (N (w.heap.size+1) 1 1) [⟨blk,xs⟩]:=by
 refine qt (l:=[((⟨blk,xs⟩:IEdge),N w.heap.size xs.length xs.length)]) (e:=75) (zI Zs) (fun e=>by have:=c _ e;omega) (fun q hq=>?_) Zs;rw[Jo] at hq;subst hq;exact⟨hb,ki (zB (zI rfl)) (fun e=>by have:=c _ e;omega) d Zo⟩
theorem edgeCell {w:World}{X:Nat->Prop}{v:Value}{xs:List IEdge}{a:Option Addr}{n c:Nat}(h:vT w X v xs)(hv:v=.slice a n c){k:Nat}{x:IEdge}(d:xs[k]? =some x):∃b o,a=some ⟨b,o,none⟩/\G w b (o+k*2) (A x.block):=by
 subst hv;obtain⟨a',c',e,_,_,h3⟩:=h;cases e;obtain⟨b,o,i,_,_,g,_⟩:=h3 k x d;exact⟨b,o,i,g⟩
theorem nl {tg n k:Nat}(h:k<n):(xk tg n)[k]? =some ⟨((tg+k:Nat):Int),[]⟩:=by unfold xk;rw[Jr,Oh h];rfl
theorem MkIn.cut {w:World}{K:MKC}{X:Nat->Prop}{M:MS}{fv:Value}{l:List BM}{a:Option Addr}{n c k:Nat}(h:MkIn w K X M fv (.slice a n c) l)(hk:k<=M.vals.length):
 MkIn (w.setCell ⟨K.pm,7,none⟩ (.slice a k c)) K X {M with vals:=M.vals.take k } fv (.slice a k c) l/\Stp X w X (w.setCell ⟨K.pm,7,none⟩ (.slice a k c)):=by
 have hv:=h.vown;obtain⟨a',c',e⟩:=zG hv;cases e;have d:(M.vals.take k).length=k:=by rw[Oc];omega
 refine h.setC 7 _ {M with vals:=M.vals.take k } (.slice a k c) rfl rfl ?_ (fun x hx=>h.v64 x (List.mem_of_mem_take hx)) ?_ ?_ h.lft
 ·show w.ownsRow K.B 3 1 (.slice a k c) (M.vals.take k).length ((M.vals.take k).map zN)
  rw[d,List.map_take];exact own_take hv hk
 ·intro j e;refine h.xv j ?_
  cases a with
  |none=>cases e
  |some a=>exact e
 ·have:=h.bnd;unfold MS.sz at this ⊢;simp only[d];omega
theorem MkIn.goto {w:World}{K:MKC}{X:Nat->Prop}{M:MS}{fv vv:Value}{l:List BM}(h:MkIn w K X M fv vv l)(k:Nat):
 MkIn (w.setCell ⟨K.pm,5,none⟩ (A k)) K X {M with cur:=k } fv vv l/\Stp X w X (w.setCell ⟨K.pm,5,none⟩ (A k)):=
 h.setC 5 _ {M with cur:=k } vv rfl rfl h.vown h.v64 h.xv h.bnd h.lft
theorem MkIn.parAt {w:World}{K:MKC}{X:Nat->Prop}{M:MS}{fv vv:Value}{l:List BM}(h:MkIn w K X M fv vv l){i:Nat}{b:IBlk}(hb:M.f[i]? =some b):
 ∃g c pa pc,fv=N g l.length c/\g<w.heap.size/\G w g (i*5) (.slice pa b.params.length pc)/\∀k x,b.params[k]? =some x->∃bb o,pa=some ⟨bb,o,none⟩/\bb<w.heap.size/\G w bb (o+k) (A x)/\I64 x:=by
 obtain⟨q,hq,rfl,r⟩:=h.getB hb;obtain⟨g,c,d,a1,t,a0⟩:=h.fblk hq;have j:=z9 yr h.own (by rw[d];rfl) hq;have e0:G w g (i*5) q.pv:=j 0 _ rfl;obtain⟨pa,pc,m,h1,h2,h3⟩:=r.par;refine⟨g,c,pa,pc,d,t,by rw[e0,m],fun k x hx=>?_⟩;obtain⟨bb,o,h4,h5,h6,u,y⟩:=h3 k x hx;rw[Nk] at u;exact⟨bb,o,h4,h5,u,y⟩
theorem Try.info_edge:(Try.prog.info? 75).map (fun i=>(i.zero,i.size,i.bytes))=some (some (.agg #[A 0,.slice none 0 0]),2,32):=by kernel_rfl
def sU (d:Nat):Prop:=∀(w:World) (K:MKC) (X:Nat->Prop) (M:MS),wW w K X M->M.cur<M.f.length->M.sz+pC d<=1000000->
 Y 61 #[Q K.pm,A d] w (yk K X w (zp K.E d M) (.tuple #[]))
theorem OpSt.part {w0 w:World}{K:MKC}{X0:Nat->Prop}{M0 M:MS}{c d:Nat}(h:OpSt w0 K X0 M0 c w M)(j:sU d)(k:M0.sz+(c+pC d)<=1000000):
 Y 61 #[Q K.pm,A d] w fun e w'=>e=.returned (.tuple #[])/\Hid (OpSt w0 K X0 M0 (c+pC d) w' (zp K.E d M)):=by
 obtain⟨X,hm,hs⟩:=h.made;refine(j w K X M hm h.cur (by have:=h.gr.sz;omega)).mono ?_;rintro e w' ⟨rfl,X',i,g⟩;have hg:=xw K.E hm.alt d M;exact⟨rfl,Ja ⟨⟨X',i,hs.trans g⟩,h.gr.trans hg,hg.cur h.cur⟩⟩
structure ArmMid (w:World) (K:MKC) (X:Nat->Prop) (M:MS) (d tg join n j:Nat) (wx:World) (Mj:MS):Prop where
 made:∃Xj,wW wx K Xj Mj/\Stp X w Xj wx
 rest:uV K.E (zp K.E d) tg join M.vals.length n 0 M=uV K.E (zp K.E d) tg join M.vals.length (n-j) j Mj
 vals:Mj.vals=M.vals
 gr:GrowP (j*(pC d+5)) M Mj
theorem ArmMid.next {w wx w2:World}{K:MKC}{X Xj:Nat->Prop}{M Mj:MS}{d tg c n j:Nat}(h:ArmMid w K X M d tg c n j wx Mj)(l:j<n)(hs:Stp X w Xj wx)(hf:tg+n<M.f.length)
 (h2:∃X2,wW w2 K X2 {wM K.E c j (zp K.E d {Mj with cur:=tg+j }) with vals:=(wM K.E c j (zp K.E d {Mj with cur:=tg+j })).vals.take M.vals.length }/\Stp Xj wx X2 w2):
 ArmMid w K X M d tg c n (j+1) w2 {wM K.E c j (zp K.E d {Mj with cur:=tg+j }) with vals:=(wM K.E c j (zp K.E d {Mj with cur:=tg+j })).vals.take M.vals.length }:=by
 obtain⟨X2,g,i⟩:=h2;have k:=g.alt;have h1:=((vk Mj (tg+j) (by have:=h.gr.len;omega)).trans ((xw K.E k d _).trans (su K.E c j (zp K.E d {Mj with cur:=tg+j })))).mono (show 0+(pC d+5)<=pC d+5 by omega);have h3:=sY h1;have hl:Mj.vals.length=M.vals.length:=by rw[h.vals]
 rw[hl] at h3;refine⟨⟨X2,g,hs.trans i⟩,?_,?_,?_⟩
 ·rw[h.rest,show n-j=(n-(j+1))+1 by omega,rg]
 ·have:=uF h1.pre;rw[hl] at this;exact this.trans h.vals
 ·have:=h.gr.trans h3;rw[Nat.succ_mul];exact this
theorem lH {d:Nat}(hd:d<=5)(hP:sU d){w:World}{K:MKC}{X:Nat->Prop}{M:MS}(h:wW w K X M)(c9:M.cur<M.f.length){n:Nat}(r0:2<=n)(n8:n<=4)(hz:M.sz+(31+4*pC d)<=1000000):
 Y 92 #[Q K.pm,A ((d:Int)+1),A n] w (yk K X w (xi K.E (zp K.E d) n M) (.tuple #[])):=by
 have HA:=Ja (OpSt.start h c9);have HZ:=Ja (Jb hz hP);have p3:=Ja c9
 have k4:K.B<=w.heap.size/\(∀k,K.Z k->k<w.heap.size):=by
  obtain⟨fv,vv,l,hi⟩:=h;exact⟨hi.size,hi.env.zl⟩
 have s1:=Ja k4;clear h c9 hz hP k4;go_enter Try.func92,Try.ntmps92;go_upto_region 1 with(go_at_call 62;go_must (refine(HA.out.any (by have:=HZ.out.1;omega)).mono ?_;rintro e w1 ⟨x,HX,rfl,b9⟩))
 obtain⟨M1,i0⟩:∃M1,(zJ K.E M).2=M1:=⟨_,rfl⟩
 rw[i0] at b9;obtain⟨X1,f8,k2⟩:=b9.out.made;have l8:=b9.out.gr.sz
 have j5:(∀k,X1 k->k<w1.heap.size)/\K.B<=w1.heap.size/\(∀k,K.Z k->k<w1.heap.size)/\M1.f.length<=999900:=by
  obtain⟨fv,vv,l,hi⟩:=f8;refine⟨hi.xl,hi.size,hi.env.zl,?_⟩;have h1:M1.f.length<=M1.sz:=by unfold MS.sz;omega
  have h2:=HZ.out.1;have h3:pC d≥101:=by cases d<;>unfold pC<;>omega
  omega
 have p1:=Ja (ToMid.start f8);have H1:=Ja (Jb k2 (Jb j5 i0));clear f8 k2 l8 j5 i0 HA;go_wp2
 go_loopw [7,8] (fun tv kv wx=>∃(j:Nat) (ta:Option Addr) (tc:Nat),j<=n/\tv=.slice ta j tc/\kv=A j/\Hid (ToMid w1 K X1 M1 (.slice ta j tc) j wx)) (fun _ kv _=>n-(intOf kv).toNat)
 case atStart=>exact⟨0,none,0,Jt _,rfl,rfl,p1⟩
 case round=>
  obtain⟨j,ta,tc,hj,rfl,rfl,HT⟩:=hrel
  by_cases a2:j<n
  ·have b4:(j:Int)<(n:Int):=Zo;obtain⟨Xj,f3,e9⟩:=HT.out.made;have d0:=rU f3 (n:=0) (by have h1:=(vW j M1).sz;have h2:=b9.out.gr.sz;have h3:=HZ.out.1;omega);rw[tB] at d0
   have g3:∀(w4:World) (X4:Nat->Prop),Stp Xj wr X4 w4->w4.ownsRow w1.heap.size 75 2 (.slice ta j tc) j ((toL M1.f.length j).flatMap za):=fun w4 X4 b6=>yD HT.out.own (fun k e=>b6.kept k (HT.out.own.lt k e).2 (fun e2=>by
    obtain⟨fv,vv,l,hi⟩:=f3
    exact hi.env.zx k e2 (.inr e)))
   obtain⟨ij,g2,c3,c2,c0⟩:=info_parts Try.info_edge;have HN:=Ja (Jb d0 (Jb e9 (Jb g3 a2)));have q3:=e9.size;clear f3 e9 d0 g3 a2;go_wp2_with (first|(go_at_call 60;go_must (refine HN.out.1.mono ?_;rintro e w4 ⟨rfl,X4,o0,b6⟩;have k3:=HN.out.2.2.1 w4 X4 b6;have q4:=b6.size;have m0:yM (w4.alloc (U #[A ((M1.f.length+j:Nat):Int),O] 75)) 2 (N w4.heap.size 1 1) 1 (za (⟨((M1.f.length+j:Nat):Int),[]⟩,O)):=yM.cells (zI rfl) rfl (by simp[za,Value.oneCell'])))|(at_builtin;go_must (refine zK _ rfl (.tmp 20) (.tmp 24) 45 rfl w1.heap.size 75 ij (.agg #[A 0,O]) 2 32 Try.underlying45 g2 c3 c2 c0 rfl Zd (.slice ta j tc) j ((toL M1.f.length j).flatMap za) rfl (k3.alloc _) _ 1 (za (⟨((M1.f.length+j:Nat):Int),[]⟩,O)) rfl m0 (by unfold maxLen;omega) Zo Zt ?_;intro v9 w9 u a0 d6)))
   obtain⟨n4,n3,rfl⟩:=zG u;go_roundw
   case rel=>
    refine⟨j+1,n4,n3,HN.out.2.2.2,rfl,by go_num,Ja (HT.out.next o0 (HN.out.2.1.trans b6) k3 H1.out.2.1.1 H1.out.2.1.2.1 a0 u (fun k e=>?_))⟩;rcases d6 with e2|e2
    ·exact .inl (by rw[<-e2];exact e)
    ·right;have e3:=e2.symm.trans e;simp at e3;omega
   case measure=>have:=HN.out.2.2.2;simp[intOf];omega
  ·obtain rfl:j=n:=by omega
   have b4:¬(j:Int)<(j:Int):=Zo;obtain⟨X2,f6,k1,g6⟩:=HT.out.done H1.out.2.1.2.2.1 (by have:=H1.out.2.1.2.2.2;omega);have a4:=b9.out.gr.trans (vW j M1);have a7:=tB j M1;obtain⟨tg,e8⟩:∃tg,M1.f.length=tg:=⟨_,rfl⟩
   rw[e8] at a7 g6;obtain⟨M2,h9⟩:∃M2,xE j M1=M2:=⟨_,rfl⟩
   rw[h9] at f6 a4 a7;have p5:=Ja (OpSt.start f6 (a4.cur p3.out));have j3:=a4.sz;have a5:=p5.out.block 1 (by have:=HZ.out.1;omega);rw[a7] at a5;obtain⟨jn,g1⟩:∃jn,tg+j=jn:=⟨_,rfl⟩
   rw[g1] at a5;have H2:=Ja (Jb (H1.out.1.trans k1) (Jb g6 (Jb j3 (Jb h9 (Jb e8 (Jb g1 (Jb a7 a4)))))));have n2:=Ja a5;clear f6 k1 g6 a4 a7 h9 e8 j3 a5 g1 HT;go_upto_region 7 with(go_at_call 60;go_must (refine n2.out.mono ?_;rintro e w3 ⟨rfl,p2⟩))
   obtain⟨kd,b7⟩:∃kd:Int,(if 2<j then 3 else 2)=kd:=⟨_,rfl⟩
   have d4:I64 kd:=by rw[<-b7];split<;>exact yF _ rfl
   have f9:2<j->kd=3:=fun e=>by rw[<-b7,if_pos e]
   have g0:¬2<j->kd=2:=fun e=>by rw[<-b7,if_neg e]
   have e4:=Ja (Jb b7 (Jb d4 (Jb f9 g0)));clear b7 d4 f9 g0
   go_upto_if 32 with fail
   go_cut [] (fun wx=>Hid (F w3 wx/\L wx w3.heap.size #[A kd,A x,.slice ta j tc] 47))
   case first=>
    by_cases h3:2<j
    ·have o3:(2:Int)<(j:Int):=Zo;have hk:=e4.out.2.2.1 h3;subst hk;go_wp2;go_meet;exact Ja ⟨(Below.refl _ _).alloc (Je _) _,zI rfl⟩
    ·have o3:¬(2:Int)<(j:Int):=Zo;have hk:=e4.out.2.2.2 h3;subst hk;go_wp2;go_meet;exact Ja ⟨(Below.refl _ _).alloc (Je _) _,zI rfl⟩
   case rest=>
   obtain⟨l2,d2⟩:=hcut.out;have t0:=zA (i:=0) d2 rfl;have t1:=zA (i:=1) d2 rfl;have t2:=zA (i:=2) d2 rfl;have n1:=Ja ((p2.out.below l2).endB kd x (xk tg j) (.slice ta j tc) e4.out.2.1 HX.out.1 (fun X hm hs=>H2.out.2.1.step yq (hs.av K)));clear l2 d2 hcut;go_upto_region 11 with(go_at_call 63;go_must (refine n1.out.mono ?_;rintro e w5 ⟨rfl,i3⟩))
   obtain⟨M3,d8⟩:∃M3,(M2.block 1).endB ⟨kd,x,xk tg j⟩=M3:=⟨_,rfl⟩
   rw[d8] at i3;obtain⟨X5,f4,f0⟩:=i3.out.made;have g5:=H2.out.2.1.step yq (f0.av K);have m4:∃l4 vv5 l5,MkIn w5 K X5 M3 l4 vv5 l5:=f4;obtain⟨l4,vv5,l5,d5⟩:=m4;have c7:=d5.c7;obtain⟨va5,vc5,e5⟩:=zG d5.vown;rw[e5] at c7;have m1:=lt_of_block d5.blk;have d3:M3.f.length=jn+1:=by rw[<-d8,(zv _ _).len,yz,<-H2.out.2.2.2.2.2.1];have:=H2.out.2.2.2.2.2.2.1;omega
   have j2:M3.sz<=M.sz+(6+j):=by have:=i3.out.gr.sz;have:=H2.out.2.2.1;omega
   have j4:6+j+j*(pC d+5)+1<=31+4*pC d:=by have:=Qw (pC d+5) n8;omega
   have H5:=Ja (Jb (H2.out.1.trans f0) (Jb g5 (Jb d8 (Jb d3 (Jb j2 j4)))));have p6:=Ja (show ArmMid w5 K X5 M3 d tg jn j 0 w5 M3 from⟨⟨X5,f4,Stp.refl _ _⟩,rfl,rfl,(GrowP.refl _).mono (Jt _)⟩);clear f4 f0 g5 d5 d8 d3 j2 j4 e5 t0 t1 t2;go_wp2;clear c7 m1
   go_loopw [12] (fun kv wx=>∃(i:Nat) (Mi:MS),i<=j/\kv=A i/\Hid (ArmMid w5 K X5 M3 d tg jn j i wx Mi)) (fun kv _=>j-(intOf kv).toNat)
   case atStart=>exact⟨0,M3,Jt _,rfl,p6⟩
   case round=>
    obtain⟨i,Mi,hi,rfl,a1⟩:=hrel;obtain⟨Xi,n9,b5⟩:=a1.out.made;obtain⟨fv,vv,l,r⟩:=n9
    by_cases a2:i<j
    ·have b4:(i:Int)<(j:Int):=Zo;have g4:=H5.out.2.1.step yq (b5.av K);obtain⟨eb,eo,n6,k6⟩:=edgeCell g4 rfl (nl a2);obtain⟨ti,e7⟩:∃ti,tg+i=ti:=⟨_,rfl⟩
     simp only[e7] at k6;have f5:=r.free 5;have f1:=lt_of_block r.blk;have c5:=r.c5;have b8:=r.goto ti;have n5:Mi.sz<=M3.sz+i*(pC d+5):=a1.out.gr.sz;have m3:i*(pC d+5)+(pC d+5)<=j*(pC d+5):=by have:=Qw (pC d+5) a2;rw[Nat.succ_mul] at this;exact this
     have l1:Mi.sz+(pC d+5)<=1000000:=by have h1:=HZ.out.1;have h2:=H5.out.2.2.2.2.1;have h3:=H5.out.2.2.2.2.2;omega
     have k7:ti<Mi.f.length:=by have h1:=a1.out.gr.len;have h2:=H5.out.2.2.2.1;have h3:=H2.out.2.2.2.2.2.1;omega
     have p0:=Ja e7;have m:=Ja (Jb b5 (Jb b8 (Jb l1 k7)));subst n6;clear e7 r b5 g4 b8 n5 m3 l1 k7;go_upto_region 16 with fail;generalize h7:wr.setCell ⟨K.pm,5,none⟩ (A ti)=W6 at *;obtain⟨M6,d7⟩:∃M6:MS,{Mi with cur:=ti }=M6:=⟨_,rfl⟩
     have j1:M6.sz+(pC d+5)<=1000000:=by rw[<-d7];exact m.out.2.2.1
     have l3:OpSt W6 K Xi M6 0 W6 M6:=by rw[<-d7];exact OpSt.start m.out.2.1.1.at m.out.2.2.2
     have b0:=Ja (Jb (l3.part HZ.out.2 Zo) (Jb d7 j1));have q8:IntKind.i64.wrap ((d:Int)+1-1)=(d:Int):=by rw[Om _ Zo];omega
     clear d7 j1 l3 h7 c5 f5 k6;go_upto_region 17 with(go_at_call 61;go_must (refine b0.out.1.mono ?_;rintro e w7 ⟨rfl,i2⟩))
     obtain⟨M7,h8⟩:∃M7,zp K.E d M6=M7:=⟨_,rfl⟩
     rw[h8] at i2;have n0:=Ja h8;clear h8
     go_cut [65] (fun v wx=>∃bb:Bool,v=.bool bb/\(bb=true↔(tkV K.E M7 12=11/\0<i))/\Hid (OpSt W6 K Xi M6 (0+pC d+1) wx M7.tick))
     case first=>
      by_cases ht:tkV K.E M7 12=11
      ·have d9:=Ja (i2.out.takeK 12 11 11 rfl ht Zd Zd (by have:=b0.out.2.2;omega));have HT:=Ja ht;clear ht
       by_cases h0:0<i
       ·have o4:(0:Int)<(i:Int):=Zo;go_wp2_with (go_at_call 59;go_must (refine d9.out.mono ?_;rintro e w8 ⟨rfl,a6⟩))
        go_meet;exact⟨true,rfl,⟨fun _=>⟨HT.out,h0⟩,fun _=>rfl⟩,a6⟩
       ·have o4:¬(0:Int)<(i:Int):=Zo;go_wp2_with (go_at_call 59;go_must (refine d9.out.mono ?_;rintro e w8 ⟨rfl,a6⟩))
        go_meet;exact⟨false,rfl,⟨(fun e=>by cases e),(fun e=>absurd e.2 h0)⟩,a6⟩
      ·have d9:=Ja (i2.out.take 12 Zd Zd (by have:=b0.out.2.2;omega));have HT:=Ja ht;clear ht;go_wp2_with (go_at_call 59;go_must (refine d9.out.mono ?_;rintro e w8 ⟨z,q2,m6,rfl,a6⟩;have tz:((z:Int)==11)=false:=by rw[beq_eq_false_iff_ne];have:=m6.out;have:=HT.out;omega))
       go_meet;exact⟨false,rfl,⟨(fun e=>by cases e),(fun e=>absurd e.1 HT.out)⟩,a6⟩
     case rest=>
     obtain⟨bb,rfl,h6,a6⟩:=hcut;have l6:=Ja h6;clear h6;have i5:=Ja (a6.out.any (by have:=b0.out.2.2;omega))
     go_upto_if 65 with fail
     go_cut [] (fun wx=>Hid (OpSt W6 K Xi M6 (0+pC d+1+4) wx (wM K.E jn i M7)))
     case first=>
      cases bb
      ·go_wp2_with (first|(go_at_call 62;go_must (refine i5.out.mono ?_;rintro e w9 ⟨y,HY,rfl,i1⟩;have p4:=Ja (i1.out.endN 1 0 [⟨(jn:Int),[y]⟩] (N (w9.heap.size+1) 1 1) (yF _ rfl) (yF _ rfl) (((Below.refl _ _).alloc (Je _) _).alloc Zs _) (pj (w:=w9) (xs:=[y]) (blk:=(jn:Int)) (fun x hx=>by rw[Jo] at hx;subst hx;exact HY.out.1) Zs (vG _ Zo (by have h1:=H5.out.2.2.2.1;have h2:=H5.out.2.2.2.2.1;have h3:=HZ.out.1;unfold MS.sz at *;omega))))))|(go_at_call 63;go_must (refine p4.out.mono ?_;rintro e w10 ⟨rfl,d1⟩)))
       go_meet;refine Ja ?_
       have e1:wM K.E jn i M7=(zJ K.E M7.tick).2.endB ⟨1,0,[⟨(jn:Nat),[(zJ K.E M7.tick).1]⟩]⟩:=by
        unfold wM;rw[if_neg (fun e=>by have:=l6.out.2 e;cases this)]
       rw[e1,HY.out.2];exact d1.out
      ·go_wp2_with (first|(go_at_call 62;go_must (refine i5.out.mono ?_;rintro e w9 ⟨y,HY,rfl,i1⟩))|(go_at_call 63;go_must (refine(i1.out.endB 4 y [] (O) (yF _ rfl) HY.out.1 (fun X _ _=>yE.nil)).mono ?_;rintro e w10 ⟨rfl,d1⟩)))
       go_meet;refine Ja ?_
       have e1:wM K.E jn i M7=(zJ K.E M7.tick).2.endB ⟨4,(zJ K.E M7.tick).1,[]⟩:=by
        unfold wM;rw[if_pos (l6.out.1 (by trivial))]
       rw[e1,HY.out.2];exact d1.out
     case rest=>
     obtain⟨X9,⟨r5,vv9,l9,a3⟩,k0⟩:=hcut.out.made;obtain⟨va9,vc9,l7⟩:=zG a3.vown;subst l7;have c7:=a3.c7;have f7:=a3.free 7;have q5:=lt_of_block a3.blk
     have c8:M3.vals.length<=(wM K.E jn i M7).vals.length:=by
      have h1:=dO hcut.out.gr.pre;rw[<-b0.out.2.1] at h1;have h2:({Mi with cur:=ti }:MS).vals=Mi.vals:=rfl;rw[h2,a1.out.vals] at h1;exact h1
     have q7:M3.vals.length<=vc9:=Jn c8 (zm a3.vown).1;have q1:vc9<=9223372036854775807:=by have:=(zm a3.vown).2;omega
     have k9:=a3.cut c8;have i4:=Ja (Jb k9 k0);clear a3 c8 k9 k0 hcut;go_wp2;go_roundw
     case rel=>
      have hq:=a1.out.next (w2:=wc.setCell ⟨K.pm,7,none⟩ (.slice va9 M3.vals.length vc9)) a2 m.out.1 (by have h1:=H5.out.2.2.2.1;have h2:=H2.out.2.2.2.2.2.1;omega) ⟨X9,?_,(m.out.2.1.2.trans i4.out.2).trans i4.out.1.2⟩
      ·exact⟨i+1,_,a2,by go_num,Ja hq⟩
      ·rw[p0.out,b0.out.2.1,n0.out];exact i4.out.1.1.at
     case measure=>have:=a2;simp[intOf];omega
    ·obtain rfl:i=j:=by omega
     have b4:¬(i:Int)<(i:Int):=Zo;have b3:=a1.out.rest;rw[show i-i=0 by omega] at b3
     have m2:∃b,Mi.f[jn]? =some b/\b.params=[(M2.next:Int)]:=by
      have a7:=H2.out.2.2.2.2.2.2.1;have r2:=H2.out.2.2.2.2.2.1
      have h0:(M2.block 1).f[jn]? =some (wJ M2.next 1):=by
       show(M2.f++ [wJ M2.next 1])[jn]? =_
       rw[Nc Zo,show jn-M2.f.length=0 by omega];rfl
      obtain⟨b1,h1,h2⟩:=(zv (M2.block 1) ⟨kd,x,xk tg i⟩).par _ _ h0;rw[H5.out.2.2.1] at h1;obtain⟨b2,h3,h4⟩:=a1.out.gr.par _ _ h1;exact⟨b2,h3,h4.trans (h2.trans rfl)⟩
     obtain⟨bj,g9,l0⟩:=m2;have b8:=r.goto jn;have c5:=r.c5;have f5:=r.free 5;have f1:=lt_of_block r.blk;have r1:jn<l.length:=by rw[r.len];exact(Jh.1 g9).1
     have o1:=r.flen;rw[<-r.len] at o1;have m:=Ja (Jb b5 (Jb b8 (Jb g9 (Jb l0 b3))));clear r b5 b8 g9 l0 b3;go_upto_region 22 with fail;generalize h7:wr.setCell ⟨K.pm,5,none⟩ (A jn)=W6 at *;obtain⟨g,c,pa,pc,k5,r3,o2,f2⟩:=m.out.2.1.1.parAt (i:=jn) m.out.2.2.1;have h0:=f2 0 (M2.next:Int) (by rw[m.out.2.2.2.1];rfl);obtain⟨bb,o,n7,h6,i7,h64⟩:=h0;rw[Uk] at i7;rw[m.out.2.2.2.1] at o2;obtain⟨va,vc,e6⟩:=zG m.out.2.1.1.vown;have u:=m.out.2.1.1.vown;have c4:=m.out.2.1.1.c4;have c7:=m.out.2.1.1.c7;have f7:=m.out.2.1.1.free 7;have j0:=lt_of_block m.out.2.1.1.blk;have nb:=zC u m.out.2.1.1.blk (.inr Zd);rw[e6] at u c7 nb;rw[k5] at c4;subst n7;have m7:=Ja u;have o9:=Ja e6;have q0:=Ja h64
     have q9:Mi.vals.length<=999999:=by
      have h1:=a1.out.vals;have h2:=H5.out.2.2.2.2.1;have h3:=HZ.out.1;have h4:M3.vals.length<=M3.sz:=by unfold MS.sz;omega
      have h5:pC d≥101:=by cases d<;>unfold pC<;>omega
      rw[h1];omega
     have o6:∀o,G (W6.alloc o) K.pm 7 (.slice va Mi.vals.length vc):=fun o=>(Oo (w:=W6) (Below.heap_alloc _ _ _ j0)).trans c7
     have o5:∀o,T (W6.alloc o) K.pm 7:=fun o=>(Qm (w:=W6) (Below.heap_alloc _ _ _ j0)).trans f7
     have r4:K.B<=W6.heap.size:=m.out.2.1.1.size;obtain⟨ij,g2,c3,c2,c0⟩:=info_parts Try.info_int;have HP:=Ja f2;clear u e6 h64 f2 k5 b4 c5 f5 f1 h7
     go_region_law (first|(refine step_append_lies _ (by rfl) (.tmp 97) (.tmp 109) _ (by rfl) K.B 3 ij (A 0) 1 8 Try.underlying22 g2 c3 c2 c0 rfl Zo (.slice va Mi.vals.length vc) Mi.vals.length (Mi.vals.map zN) (by rfl) ((m7.out.alloc _).drew) ⟨W6.heap.size,0,none⟩ 1 1 [A (M2.next:Int)] (by rfl) (by rfl) (Oi (cs:=#[A (M2.next:Int)]) (t:=3) (fr:=(0,0)) (heap_alloc_new W6 _)) (by simp[Value.oneCell']) Zo (by unfold maxLen;omega) Zo Zt (W6.heap.size+1) Zs ?_;intro gg m5 w3 i6 a0 d6 q6;have s0:=(a0.cell_far ⟨K.pm,7,none⟩ Zt (Ne.symm nb)).trans (o6 _);have r6:=(a0.frozen_far ⟨K.pm,7,none⟩ Zt (Ne.symm nb)).trans (o5 _)))
     all_goals go_wp2_with fail
     all_goals (first|go_end0|refine bodyPost_ret (results_none rfl _ _ _) rfl ?_)
     all_goals (
      have a4:=xN a0;rw[<-o9.out] at a4 d6
      have hP:=m.out.2.1.1.putV (vv':=N gg (Mi.vals.length+1) m5) (x:=(M2.next:Int)) a4 i6 (fun k e=>by
       have e2:gg=k:=by simpa[Value.ownBlock] using e
       subst e2;rcases d6 with e3|e3
       ·exact .inl e3
       ·right;omega) q0.out (by
       have h1:=a1.out.gr.sz;have h2:=H5.out.2.2.2.2.1;have h3:=H5.out.2.2.2.2.2;have h4:=HZ.out.1
       show Mi.sz+1<=1000000
       omega)
      refine⟨rfl,_,?_,(H5.out.1.trans m.out.1).trans (m.out.2.1.2.trans hP.2)⟩
      have e:xi K.E (zp K.E d) i M= {Mi with cur:=jn,vals:=Mi.vals++ [(M2.next:Int)]}:=by
       unfold xi;simp only;rw[H1.out.2.2,HX.out.2,H2.out.2.2.2.1,H2.out.2.2.2.2.1,H2.out.2.2.2.2.2.1,e4.out.1,H5.out.2.2.1,m.out.2.2.2.2];have e0:Mi.f.getD jn ⟨[],[],⟨0,0,[]⟩⟩=bj:=by rw[Jj,m.out.2.2.1];rfl
       show({Mi with cur:=jn,vals:=Mi.vals++ [((Mi.f.getD jn ⟨[],[],⟨0,0,[]⟩⟩).params).getD 0 0]}:MS)=_
       rw[e0,m.out.2.2.2.1];rfl
      rw[e]
      exact hP.1.at)
theorem iQ {α:Type}{x a b:α}(h:x∈ [a,b]):x=a∨x=b:=by simpa using h
theorem jq {a b:Int}(c:I64 a)(hb:I64 b):∀x∈ [a,b],I64 x:=fun x h=>by
 rcases iQ h with rfl|rfl
 ·exact c
 ·exact hb
theorem lit_two {w:World}{x y:Int}(d:I64 x)(c:I64 y)(X:Nat->Prop)(g:∀k,X k->k<w.heap.size):
 vT (w.alloc (U #[A x,O,A y,O] 75)) X (N w.heap.size 2 2) [⟨x,[]⟩,⟨y,[]⟩]:=by
 refine qt (l:=[((⟨x,[]⟩:IEdge),O),((⟨y,[]⟩:IEdge),O)]) (e:=75) (zI Zs) (fun e=>by have:=g _ e;omega) (fun q hq=>?_) Zs;rcases iQ hq with rfl|rfl
 ·exact⟨d,yE.nil⟩
 ·exact⟨c,yE.nil⟩
theorem OpSt.goto {w0 w:World}{K:MKC}{X0:Nat->Prop}{M0 M:MS}{c:Nat}(h:OpSt w0 K X0 M0 c w M)(k:Nat)(hk:k<M.f.length):OpSt w0 K X0 M0 c (w.setCell ⟨K.pm,5,none⟩ (A k)) {M with cur:=k }:=by
 obtain⟨X,⟨fv,vv,l,hi⟩,hs⟩:=h.made;exact⟨⟨X,(hi.goto k).1.at,hs.trans (hi.goto k).2⟩,h.gr.trans (vk M k hk),hk⟩
theorem OpSt.facts {w0 w:World}{K:MKC}{X0:Nat->Prop}{M0 M:MS}{c:Nat}(h:OpSt w0 K X0 M0 c w M):∃X fv vv l,MkIn w K X M fv vv l/\Stp X0 w0 X w:=by
 obtain⟨X,⟨fv,vv,l,hi⟩,hs⟩:=h.made;exact⟨X,fv,vv,l,hi,hs⟩
theorem OpSt.push {w0 w:World}{K:MKC}{X0:Nat->Prop}{M0 M:MS}{c:Nat}(h:OpSt w0 K X0 M0 c w M)(x:Int){w':World}(d:∃X',wW w' K X' {M with vals:=M.vals++ [x]}/\Stp X0 w0 X' w'):OpSt w0 K X0 M0 (c+1) w' {M with vals:=M.vals++ [x]}:=by
 refine⟨d,h.gr.trans ⟨Je _,?_,Je _,Je _,Qb _ _,fun e=>e,Og _,fun e=>e,xU.refl _⟩,h.cur⟩;unfold MS.sz;simp only[Jk,Ju];omega
theorem loop_any {d:Nat}(hd:d<=5)(hP:sU d){w:World}{K:MKC}{X:Nat->Prop}{M:MS}(h:wW w K X M)(g1:M.cur<M.f.length)(hz:M.sz+(24+pC d)<=1000000):
 Y 93 #[Q K.pm,A ((d:Int)+1)] w (yk K X w (tH K.E (zp K.E d) M) (.tuple #[])):=by
 have HA:=Ja (OpSt.start h g1);have r:=Ja (Jb hz hP);clear h g1 hz hP;go_enter Try.func93,Try.ntmps93;go_upto_region 1 with(first|(go_at_call 59;go_must (refine(HA.out.take 5 Zd Zd (by have:=r.out.1;omega)).mono ?_;rintro e w1 ⟨z,qz,Hz,rfl,i5⟩))|(go_at_call 94;go_must (refine(i5.out.num z Zo (by have:=r.out.1;omega)).mono ?_;rintro e w2 ⟨rfl,i2⟩)))
 generalize f6:((M.tick.next:Nat):Int)=n0 at *;have f2:I64 n0:=by rw[<-f6];exact i5.out.n64
 have HN:=Ja (Jb f6 (Jb f2 Hz.out));obtain⟨MA,g4⟩:∃MA,M.tick.num z=MA:=⟨_,rfl⟩
 rw[g4] at i2;have p4:=Ja g4;clear g4 f6 f2 i5 HA;go_upto_region 2 with(go_at_call 62;go_must (refine(i2.out.any (by have:=r.out.1;omega)).mono ?_;rintro e w3 ⟨x,HX,rfl,b6⟩))
 obtain⟨MB,g3⟩:∃MB,(zJ K.E MA).2=MB:=⟨_,rfl⟩
 rw[g3] at b6;obtain⟨tg,c0⟩:∃tg,MB.f.length=tg:=⟨_,rfl⟩
 obtain⟨b1,l2⟩:∃b1,tg+1=b1:=⟨_,rfl⟩
 obtain⟨b2,l1⟩:∃b2,tg+2=b2:=⟨_,rfl⟩
 have h6:=b6.out.block 2 (by have:=r.out.1;omega);rw[c0] at h6;have j1:=b6.out.flen;rw[c0] at j1;have m7:=Ja h6;have l:=Ja (Jb g3 (Jb c0 (Jb l2 l1)));clear h6 g3 c0 l2 l1 i2;go_upto_region 3 with(go_at_call 60;go_must (refine m7.out.mono ?_;rintro e w4 ⟨rfl,a3⟩))
 have d8:=a3.out.block 0 (by have:=r.out.1;omega);rw[yz,l.out.2.1,l.out.2.2.1] at d8;have m6:=Ja d8;clear d8 m7;go_upto_region 4 with(go_at_call 60;go_must (refine m6.out.mono ?_;rintro e w5 ⟨rfl,m0⟩))
 have h5:=m0.out.block 0 (by have:=r.out.1;omega);rw[yz,yz,l.out.2.1,show tg+1+1=tg+2 from rfl,l.out.2.2.2] at h5;have m5:=Ja h5;clear h5 m6;go_upto_region 5 with(go_at_call 60;go_must (refine m5.out.mono ?_;rintro e w6 ⟨rfl,l6⟩))
 have m4:=Ja (l6.out.endN 1 0 [⟨(tg:Int),[n0,x]⟩] (N (w6.heap.size+1) 1 1) (yF _ rfl) (yF _ rfl) (((Below.refl _ _).alloc (Je _) _).alloc Zs _) (pj (w:=w6) (xs:=[n0,x]) (blk:=(tg:Int)) (jq HN.out.2.1 HX.out.1) Zs (vG _ Zo Zo)));clear m5;go_upto_region 6 with(go_at_call 63;go_must (refine m4.out.mono ?_;rintro e w7 ⟨rfl,i1⟩))
 obtain⟨M2,b5⟩:∃M2,(((MB.block 2).block 0).block 0).endB ⟨1,0,[⟨(tg:Int),[n0,x]⟩]⟩=M2:=⟨_,rfl⟩
 rw[b5] at i1;have a7:M2.f.length=tg+3:=by rw[<-b5,(zv _ _).len,yz,yz,yz,l.out.2.1]
 have f0:∃b,M2.f[tg]? =some b/\b.params=[((MB.next:Nat):Int),((MB.next+1:Nat):Int)]:=by
  have h0:(MB.block 2).f[tg]? =some (wJ MB.next 2):=by
   show(MB.f++ [wJ MB.next 2])[tg]? =_
   rw[Nc (by have:=l.out.2.1;omega),l.out.2.1,Qy];rfl
  obtain⟨c1,k1,k2⟩:=(xM (MB.block 2) 0).par _ _ h0;obtain⟨c2,k3,k4⟩:=(xM ((MB.block 2).block 0) 0).par _ _ k1;obtain⟨c3,k5,k6⟩:=(zv (((MB.block 2).block 0).block 0) ⟨1,0,[⟨(tg:Int),[n0,x]⟩]⟩).par _ _ k3;rw[b5] at k5;exact⟨c3,k5,k6.trans (k4.trans (k2.trans rfl))⟩
 obtain⟨X7,r4,vv7,l7,d1,p0⟩:=i1.out.facts;have q0:=lt_of_block d1.blk;have c5:=d1.c5;have f5:=d1.free 5;have u:=i1.out.goto tg (by rw[a7];omega);have o0:=b6.out.next;have d3:=b6.out.n64;have d2:I64 ((MB.next+1:Nat):Int):=vG _ Zo (by have:=a3.out.next;show((MB.next+1:Nat):Int)<=1000000;have e:(MB.block 2).next=MB.next+2:=rfl;rw[e] at this;omega);have H2:=Ja (Jb b5 (Jb a7 (Jb u (Jb f0 (Jb d3 d2)))));clear b5 a7 f0 d1 p0 u o0 d3 d2 m4 a3 m0 l6;go_upto_region 7 with fail;generalize r1:w7.setCell ⟨K.pm,5,none⟩ (A tg)=W8 at *;obtain⟨M3,d7⟩:∃M3:MS,{M2 with cur:=tg }=M3:=⟨_,rfl⟩
 have H3:=H2.out.2.2.1;rw[d7] at H3;obtain⟨bk,g2,l0⟩:=H2.out.2.2.2.1;obtain⟨X8,r3,vv8,l8,j,j2⟩:=H3.facts;have g0:M3.f=M2.f:=by rw[<-d7]
 obtain⟨g,c,pa,pc,k7,q9,k9,c8⟩:=j.parAt (i:=tg) (b:=bk) (by rw[g0];exact g2);rw[l0] at k9 c8;obtain⟨bb,o,j3,r0,a0,_⟩:=c8 0 _ rfl;obtain⟨bb2,o2,f1,_,b4,_⟩:=c8 1 _ rfl;rw[j3] at f1;cases f1;rw[Uk] at a0;obtain⟨va,vc,e5⟩:=zG j.vown;have a6:=j.vown;have c4:=j.c4;have c7:=j.c7;have f7:=j.free 7;have e1:=lt_of_block j.blk;have q8:tg<l8.length:=by rw[j.len,g0];exact(Jh.1 g2).1
 have p1:=j.flen;rw[<-j.len] at p1;have nb:=zC a6 j.blk (.inr Zd);rw[e5] at a6 c7 nb;rw[k7] at c4;subst j3;generalize f4:((MB.next:Nat):Int)=n1 at a0;generalize f3:((MB.next+1:Nat):Int)=n2 at b4;have o3:=Ja a6;have p3:=Ja e5
 have q6:M3.vals.length<=999999:=by
  have h1:=j.bnd;have h2:M3.vals.length<=M3.sz:=by unfold MS.sz;omega
  have h3:=H3.gr.sz;have h4:=r.out.1;omega
 have l5:∀o,G (W8.alloc o) K.pm 7 (.slice va M3.vals.length vc):=fun o=>(Oo (w:=W8) (Below.heap_alloc _ _ _ e1)).trans c7
 have l4:∀o,T (W8.alloc o) K.pm 7:=fun o=>(Qm (w:=W8) (Below.heap_alloc _ _ _ e1)).trans f7
 have d8:K.B<=W8.heap.size:=j.size;obtain⟨ij,p2,n7,n6,n5⟩:=info_parts Try.info_int;have e8:I64 n2:=by rw[<-f3];exact H2.out.2.2.2.2.2
 have b9:I64 n1:=by rw[<-f4];exact H2.out.2.2.2.2.1
 have HP:=Ja (Jb d7 (Jb H3 (Jb j (Jb j2 (Jb f4 (Jb f3 (Jb b9 e8)))))));clear a6 e5 c8 k7 d7 H3 j j2 f4 f3 e8 b9 g2 l0 g0;go_upto_region 8 with fail
 go_cut [] (fun wx=>Hid (OpSt w K X M (1+3+4+(1+2)+(1+0)+(1+0)+1) wx {M3 with vals:=M3.vals++ [n2]}))
 case first=>
  go_region_law (first|(refine step_append_lies _ (by rfl) (.tmp 54) (.tmp 66) _ (by rfl) K.B 3 ij (A 0) 1 8 Try.underlying22 p2 n7 n6 n5 rfl Zo (.slice va M3.vals.length vc) M3.vals.length (M3.vals.map zN) (by rfl) ((o3.out.alloc _).drew) ⟨W8.heap.size,0,none⟩ 1 1 [A n2] (by rfl) (by rfl) (Oi (cs:=#[A n2]) (t:=3) (fr:=(0,0)) (heap_alloc_new W8 _)) (by simp[Value.oneCell']) Zo (by unfold maxLen;omega) Zo Zt (W8.heap.size+1) Zs ?_;intro gg o1 w3 j0 b0 l3 q1;have r6:=(b0.cell_far ⟨K.pm,7,none⟩ Zt (Ne.symm nb)).trans (l5 _);have r5:=(b0.frozen_far ⟨K.pm,7,none⟩ Zt (Ne.symm nb)).trans (l4 _)))
  all_goals go_wp2_with fail
  all_goals go_meet
  all_goals (
   have k0:=xN b0;rw[<-p3.out] at k0 l3
   have hP:=HP.out.2.2.1.putV (vv':=N gg (M3.vals.length+1) o1) (x:=n2) k0 j0 (fun k e=>by
    have e2:gg=k:=by simpa[Value.ownBlock] using e
    subst e2;rcases l3 with e3|e3
    ·exact .inl e3
    ·right;omega) HP.out.2.2.2.2.2.2.2 (by
    have h3:=HP.out.2.1.gr.sz;have h4:=r.out.1
    omega)
   exact Ja (HP.out.2.1.push n2 ⟨_,hP.1.at,HP.out.2.2.2.1.trans hP.2⟩))
 case rest=>
 obtain⟨M4,d6⟩:∃M4:MS,{M3 with vals:=M3.vals++ [n2]}=M4:=⟨_,rfl⟩
 rw[d6] at hcut;have d0:M4.f.length=tg+3:=by rw[<-d6,<-HP.out.1];exact H2.out.2.1
 have b7:I64 (b1:Int)/\I64 (b2:Int):=by
  have h1:=l.out.2.2.1;have h2:=l.out.2.2.2;exact⟨vG _ Zo (by have:=hcut.out.flen;omega),vG _ Zo (by have:=hcut.out.flen;omega)⟩
 have m3:=Ja (hcut.out.endN 2 n1 [⟨(b1:Int),[]⟩,⟨(b2:Int),[]⟩] (N wc.heap.size 2 2) (yF _ rfl) HP.out.2.2.2.2.2.2.1 ((Below.refl _ _).alloc (Je _) _) (lit_two b7.1 b7.2));have a3:=Ja (Jb d6 d0);clear d6 d0 b7 c4 c7 f7 l5 l4 nb e1 a0 b4 k9;go_upto_region 10 with(go_at_call 63;go_must (refine m3.out.mono ?_;rintro e w9 ⟨rfl,i0⟩))
 obtain⟨M5,d5⟩:∃M5,M4.endB ⟨2,n1,[⟨(b1:Int),[]⟩,⟨(b2:Int),[]⟩]⟩=M5:=⟨_,rfl⟩
 rw[d5] at i0;have c9:M5.f.length=tg+3:=by rw[<-d5,(zv _ _).len];exact a3.out.2
 obtain⟨X9,r2,vv9,l9,a1,o9⟩:=i0.out.facts;obtain⟨va9,vc9,e4⟩:=zG a1.vown;have c7:=a1.c7;rw[e4] at c7;have n8:=lt_of_block a1.blk;have c5:=a1.c5;have f5:=a1.free 5;have u:=i0.out.goto b1 (by have:=l.out.2.2.1;omega);have H5:=Ja (Jb d5 (Jb c9 u));clear d5 c9 a1 o9 e4 u m3;go_upto_region 12 with fail;generalize n9:w9.setCell ⟨K.pm,5,none⟩ (A b1)=W10 at *;obtain⟨M6,g9⟩:∃M6:MS,{M5 with cur:=b1 }=M6:=⟨_,rfl⟩
 have h8:=H5.out.2.2;rw[g9] at h8;have h7:=Ja (Jb (h8.part r.out.2 (by have:=r.out.1;omega)) g9);have o6:IntKind.i64.wrap ((d:Int)+1-1)=(d:Int):=by rw[Om _ Zo];omega
 clear g9 h8 n9 c5 f5 c7 n8;go_upto_region 13 with(go_at_call 61;go_must (refine h7.out.1.mono ?_;rintro e w11 ⟨rfl,b3⟩))
 clear o6;obtain⟨M7,g6⟩:∃M7,zp K.E d M6=M7:=⟨_,rfl⟩
 rw[g6] at b3;have h9:=Ja (b3.out.num 1 Zo (by have:=r.out.1;omega));have h64:=b3.out.n64;generalize j5:((M7.next:Nat):Int)=n3 at h9 h64;have e0:=Ja (Jb g6 (Jb j5 h64));clear g6 j5 h64;go_upto_region 14 with(go_at_call 94;go_must (refine h9.out.mono ?_;rintro e w12 ⟨rfl,b8⟩))
 have a4:=b8.out.emit 6 n1 n3 0 (yF _ rfl) HP.out.2.2.2.2.2.2.1 e0.out.2.2 Zo (by have:=r.out.1;omega);have e6:sB (M7.num 1) 6=((M7.next+1:Nat):Int):=rfl;rw[e6] at a4;have d9:=b8.out.n64;have e7:(M7.num 1).next=M7.next+1:=rfl;rw[e7] at d9;generalize j4:((M7.next+1:Nat):Int)=n4 at a4 d9;have a4:=Ja a4;have m2:=Ja (Jb j4 d9);clear j4 d9 e6 e7 h9 b3;go_upto_region 15 with(go_at_call 117;go_must (refine a4.out.mono ?_;rintro e w13 ⟨rfl,i4⟩))
 obtain⟨M8,g5⟩:∃M8,(M7.num 1).emit ⟨6,0,n1,n3,0,[]⟩=M8:=⟨_,rfl⟩
 rw[g5] at i4;have m1:=Ja g5;clear g5 a4 b8;have o5:=Ja (i4.out.any (by have:=r.out.1;omega));go_upto_region 16 with(first|(go_at_call 62;go_must (refine o5.out.mono ?_;rintro e w14 ⟨y,HY,rfl,o4⟩;have p5:=Ja (o4.out.endN 1 0 [⟨(tg:Int),[n4,y]⟩] (N (w14.heap.size+1) 1 1) (yF _ rfl) (yF _ rfl) (((Below.refl _ _).alloc (Je _) _).alloc Zs _) (pj (w:=w14) (xs:=[n4,y]) (blk:=(tg:Int)) (jq m2.out.2 HY.out.1) Zs (vG _ Zo Zo)))))|(go_at_call 63;go_must (refine p5.out.mono ?_;rintro e w15 ⟨rfl,i3⟩)))
 obtain⟨M9,d4⟩:∃M9,(zJ K.E M8).2.endB ⟨1,0,[⟨(tg:Int),[n4,y]⟩]⟩=M9:=⟨_,rfl⟩
 rw[d4] at i3;obtain⟨X15,q4,vv15,q5,m,e9⟩:=i3.out.facts;obtain⟨va15,vc15,i6⟩:=zG m.vown;subst i6;have c7:=m.c7;have f7:=m.free 7;have i7:=lt_of_block m.blk
 have f9:GrowP (0+pC d+3+3+4) M5 M9:=by
  have hE:=m.at.alt;have h1:=(vk M5 b1 (by have h1:=l.out.2.2.1;have h2:=H5.out.2.1;omega))
  rw[h7.out.2] at h1;have h2:=h1.trans (xw K.E hE d M6);rw[e0.out.1] at h2;have h3:=(h2.trans (wT M7 1).p).trans (yB (M7.num 1) ⟨6,0,n1,n3,0,[]⟩).p;rw[m1.out] at h3;have h4:=(h3.trans (yU K.E M8).p).trans (zv (zJ K.E M8).2 ⟨1,0,[⟨(tg:Int),[n4,y]⟩]⟩).p;rw[d4] at h4;exact h4
 have f8:M5.vals.length<=M9.vals.length:=dO f9.pre;have q7:M5.vals.length<=vc15:=Jn f8 (zm m.vown).1;have q2:vc15<=9223372036854775807:=by have:=(zm m.vown).2;omega
 have a2:=m.cut f8;have c5:=a2.1.c5;have f5:=a2.1.free 5;have u:=a2.1.goto b2;have a5:=Ja (Jb a2.1 (Jb a2.2 (Jb u (Jb e9 (Jb d4 f9)))));clear m f8 a2 e9 d4 f9 u;go_upto_region 17 with fail;generalize q3:w15.setCell ⟨K.pm,7,none⟩ (.slice va15 M5.vals.length vc15)=W16 at *;have p6:=lt_of_block a5.out.1.blk;clear c7 f7 i7;go_wp2
 first|go_end0|refine bodyPost_ret (results_none rfl _ _ _) rfl ?_
 refine⟨rfl,X15,?_,(a5.out.2.2.2.1.trans a5.out.2.1).trans a5.out.2.2.1.2⟩
 have e:tH K.E (zp K.E d) M= {M9 with vals:=M9.vals.take M5.vals.length,cur:=b2 }:=by
  unfold tH;simp only;have k1:((M.next:Nat):Int)=n0:=HN.out.1;have k4:({M2 with cur:=tg,vals:=M2.vals++ [n2]}:MS)=M4:=by rw[<-a3.out.1,<-HP.out.1]
  rw[HN.out.2.2,p4.out,HX.out.2,l.out.1,l.out.2.1,k1,H2.out.1,HP.out.2.2.2.2.2.1,k4,HP.out.2.2.2.2.1,l.out.2.2.1,l.out.2.2.2,H5.out.1,h7.out.2,e0.out.1,e0.out.2.1,m2.out.1,m1.out,HY.out.2,a5.out.2.2.2.2.1]
 rw[e];exact a5.out.2.2.1.1.at
theorem OpSt.op {w0 w:World}{K:MKC}{X0:Nat->Prop}{M0 M:MS}{c:Nat}(h:OpSt w0 K X0 M0 c w M)(i:M0.sz+(c+20)<=1000000):
 Y 91 #[Q K.pm] w fun e w'=>e=.returned (.tuple #[])/\Hid (OpSt w0 K X0 M0 (c+20) w' (xK K.E M)):=by
 obtain⟨X,hm,hs⟩:=h.made;refine(op_any hm h.cur (by have:=h.gr.sz;omega)).mono ?_;rintro e w' ⟨rfl,X',g,d⟩;have hg:=pX K.E hm.alt M;exact⟨rfl,Ja ⟨⟨X',g,hs.trans d⟩,h.gr.trans hg.p,by rw[hg.cur,hg.len];exact h.cur⟩⟩
theorem OpSt.mono {w0 w:World}{K:MKC}{X0:Nat->Prop}{M0 M:MS}{c c':Nat}(h:OpSt w0 K X0 M0 c w M)(d:c<=c'):OpSt w0 K X0 M0 c' w M:=⟨h.made,h.gr.mono d,h.cur⟩
theorem sU.of {d:Nat}(h:∀(w:World) (K:MKC) (X:Nat->Prop) (M:MS),OpSt w K X M 0 w M->M.sz+pC d<=1000000->Y 61 #[Q K.pm,A d] w (yk K X w (zp K.E d M) (.tuple #[]))):sU d:=
 fun w K X M hm hc hz=>h w K X M (OpSt.start hm hc) hz
theorem OpSt.choice {w0 w:World}{K:MKC}{X0:Nat->Prop}{M0 M:MS}{c d:Nat}(h:OpSt w0 K X0 M0 c w M)(m:d<=5)(o:sU d)(n:Nat)(nI:Int)(j:(n:Int)=nI)(k:2<=n)(g:n<=4)(r:M0.sz+(c+(31+4*pC d))<=1000000):
 Y 92 #[Q K.pm,A ((d:Int)+1),A nI] w fun e w'=>e=.returned (.tuple #[])/\Hid (OpSt w0 K X0 M0 (c+(31+4*pC d)) w' (xi K.E (zp K.E d) n M)):=by
 obtain⟨X,hm,hs⟩:=h.made;rw[<-j];refine(lH m o hm h.cur k g (by have:=h.gr.sz;omega)).mono ?_;rintro e w' ⟨rfl,X',l,i⟩;have hg:=uU K.E _ _ (xw K.E hm.alt d) n g M;exact⟨rfl,Ja ⟨⟨X',l,hs.trans i⟩,h.gr.trans hg,hg.cur h.cur⟩⟩
theorem OpSt.loop {w0 w:World}{K:MKC}{X0:Nat->Prop}{M0 M:MS}{c d:Nat}(h:OpSt w0 K X0 M0 c w M)(j:d<=5)(k:sU d)(l:M0.sz+(c+(24+pC d))<=1000000):
 Y 93 #[Q K.pm,A ((d:Int)+1)] w fun e w'=>e=.returned (.tuple #[])/\Hid (OpSt w0 K X0 M0 (c+(24+pC d)) w' (tH K.E (zp K.E d) M)):=by
 obtain⟨X,hm,hs⟩:=h.made;refine(loop_any j k hm h.cur (by have:=h.gr.sz;omega)).mono ?_;rintro e w' ⟨rfl,X',i,g⟩;have hg:=qg K.E _ _ (xw K.E hm.alt d) M;exact⟨rfl,Ja ⟨⟨X',i,hs.trans g⟩,h.gr.trans hg,hg.cur h.cur⟩⟩
theorem OpSt.counted {w0 w:World}{K:MKC}{X0:Nat->Prop}{M0 M:MS}{c:Nat}(h:OpSt w0 K X0 M0 c w M)(hp:M0.pos<M.pos)(hl:M.left=M0.left)(d:6<=M0.left+M0.pos):OpSt w0 K X0 M0 c (w.setCell ⟨K.pm,8,none⟩ (A (M.left-1))) {M with left:=M.left-1 }:=by
 obtain⟨X,⟨fv,vv,l,hi⟩,hs⟩:=h.made;have h1:6<=(M.left-1)+(M.pos:Int):=Zo;have h2:=hi.setC 8 (A (M.left-1)) {M with left:=M.left-1 } vv rfl rfl hi.vown hi.v64 hi.xv hi.bnd ⟨h1,by have:=hi.lft;show M.left-1<=6;omega⟩;have g:=h.gr;exact⟨⟨X,h2.1.at,hs.trans h2.2⟩,⟨g.pos,g.sz,g.len,g.nxt,g.pre,g.cur,by have:=g.left;show M.left-1<=_;omega,fun _=>h1,g.par⟩,h.cur⟩
theorem km:sU 0:=sU.of fun w K X M h hz=>by
 have d:=Ja (Jb h hz);clear h hz
 show Y 61 #[Q K.pm,A 0] w _
 go_enter Try.func61,Try.ntmps61;go_wp2_with (go_at_call 59;go_must (refine(d.out.1.take 5 Zd Zd (by have:=d.out.2;unfold pC at this;omega)).mono ?_;rintro e w1 ⟨t,ht,o,rfl,m⟩))
 go_loopw [4] (fun kv wx=>∃(kI:Int) (Mj:MS),-1<=kI/\kI<=(t:Int)/\kv=A kI/\Hid (OpSt w K X M (1+20*((t:Int)-kI).toNat) wx Mj/\qY K.E (t+1) M.tick=qY K.E (kI+1).toNat Mj/\Mj.left=M.left/\M.pos<Mj.pos)) (fun kv _=>(intOf kv+1).toNat)
 case atStart=>exact⟨_,_,by omega,by omega,rfl,Ja ⟨m.out.mono Zo,by congr 1,rfl,Nat.lt_succ_self _⟩⟩
 case round=>
  obtain⟨kI,Mj,a2,a1,rfl,c⟩:=hrel
  by_cases h0:0<=kI
  ·have r:=Ja (c.out.1.op (by have:=d.out.2;unfold pC at this;omega));go_wp2_with (go_at_call 91;go_must (refine r.out.mono ?_;rintro e w2 ⟨rfl,k⟩))
   go_roundw
   case rel=>
    have hg:=pX K.E (by obtain⟨X',hm,_⟩:=c.out.1.made;exact hm.alt) Mj;refine⟨kI-1,_,by omega,by omega,rfl,Ja ⟨k.out.mono Zo,?_,hg.left.trans c.out.2.2.1,Jy c.out.2.2.2 hg.pos⟩⟩;rw[c.out.2.1,show(kI+1).toNat=(kI-1+1).toNat+1 by omega];rfl
   case measure=>simp[intOf];omega
  ·obtain rfl:kI=-1:=by omega
   obtain⟨X',fv,vv,l,hi,hs⟩:=c.out.1.facts
   have g:6<=M.left+M.pos:=by
    obtain⟨_,_,_,_,j,_⟩:=d.out.1.facts;exact j.lft.1
   have i:=c.out.1.counted c.out.2.2.2 c.out.2.2.1 g;have c8:=hi.c8;have f8:=hi.free 8;have y:=lt_of_block hi.blk;have a0:=hi.lft;have a3:(Mj.pos:Int)<=1000000:=by have:=hi.bnd;unfold MS.sz at this;omega
   have x:IntKind.i64.wrap (Mj.left-1)=Mj.left-1:=Om _ Zo;have u:=Ja i;clear hi hs i g;go_wp2
   first|go_end0|refine bodyPost_ret (results_none rfl _ _ _) rfl ?_
   have e:zp K.E 0 M= {Mj with left:=Mj.left-1 }:=by
    show tR K.E M=_
    unfold tR;simp only;rw[o.out,c.out.2.1];rfl
   rw[e];exact u.out.ret
theorem jB {d:Nat}(hd:d<=5)(hP:sU d):sU (d+1):=sU.of fun w K X M h hz=>by
 have a1:pC (d+1)=134+4*pC d:=rfl;rw[a1] at hz;have i:=Ja (Jb h hz);have y:=Ja hP;clear h hz hP a1;have c3:¬((d:Int)+1<1):=Zo;have c4:decide ((d:Int)+1<1)=false:=by rw[decide_eq_false_iff_not];omega
 rw[show((d+1:Nat):Int)=(d:Int)+1 from Int.natCast_succ d];go_enter Try.func61,Try.ntmps61;go_wp2_with (go_at_call 59;go_must (refine(i.out.1.take 5 Zd Zd (by have:=i.out.2;omega)).mono ?_;rintro e w1 ⟨t,ht,HT,rfl,b7⟩))
 go_loopw [4] (fun kv wx=>∃(kI:Int) (Mj:MS),-1<=kI/\kI<=(t:Int)/\kv=A kI/\Hid (OpSt w K X M (1+20*((t:Int)-kI).toNat) wx Mj/\qY K.E (t+1) M.tick=qY K.E (kI+1).toNat Mj/\Mj.left=M.left/\M.pos<Mj.pos)) (fun kv _=>(intOf kv+1).toNat)
 case atStart=>exact⟨_,_,by omega,by omega,rfl,Ja ⟨b7.out.mono Zo,by congr 1,rfl,Nat.lt_succ_self _⟩⟩
 case round=>
  obtain⟨kI,Mj,c2,c0,rfl,m⟩:=hrel
  by_cases h0:0<=kI
  ·have HO:=Ja (m.out.1.op (by have:=i.out.2;omega));go_wp2_with (go_at_call 91;go_must (refine HO.out.mono ?_;rintro e w2 ⟨rfl,b6⟩))
   go_roundw
   case rel=>
    have hg:=pX K.E (by obtain⟨X',hm,_⟩:=m.out.1.made;exact hm.alt) Mj;refine⟨kI-1,_,by omega,by omega,rfl,Ja ⟨b6.out.mono Zo,?_,hg.left.trans m.out.2.2.1,Jy m.out.2.2.2 hg.pos⟩⟩;rw[m.out.2.1,show(kI+1).toNat=(kI-1+1).toNat+1 by omega];rfl
   case measure=>simp[intOf];omega
  ·obtain rfl:kI=-1:=by omega
   obtain⟨X',fv,vv,l,hi,hs⟩:=m.out.1.facts
   have a5:6<=M.left+M.pos:=by
    obtain⟨_,_,_,_,b0,_⟩:=i.out.1.facts;exact b0.lft.1
   have a0:=m.out.1.counted m.out.2.2.2 m.out.2.2.1 a5;have c8:=hi.c8;have f8:=hi.free 8;have b9:=lt_of_block hi.blk;have a7:=hi.lft;have b1:(Mj.pos:Int)<=1000000:=by have:=hi.bnd;unfold MS.sz at this;omega
   have a6:IntKind.i64.wrap (Mj.left-1)=Mj.left-1:=Om _ Zo;obtain⟨M2,u⟩:∃M2:MS,{Mj with left:=Mj.left-1 }=M2:=⟨_,rfl⟩
   rw[u] at a0
   have e2:tR K.E M=M2:=by
    rw[<-u];unfold tR;simp only;rw[HT.out,m.out.2.1];rfl
   have c5:=World.cell?_setCell_same _ _ (A (Mj.left-1)) c8;have a4:Mj.left-1=M2.left:=by rw[<-u]
   have o:=Ja (Jb (a0.mono (show 1+20*((t:Int) - -1).toNat<=101 by omega)) (Jb e2 a4));clear hi hs a0 a5 u e2 a4;go_upto_region 5 with fail;generalize b2:wr.setCell ⟨K.pm,8,none⟩ (A (Mj.left-1))=W2 at *;generalize hL:Mj.left-1=L at *;clear c8 f8 a6 a7 b1 b2 hL m
   by_cases x:L<1
   ·have b3:decide (L<1)=true:=by rw[decide_eq_true_iff];exact x
    go_wp2
    first|go_end0|refine bodyPost_ret (results_none rfl _ _ _) rfl ?_
    have e:zp K.E (d+1) M=M2:=by
     unfold zp;simp only;rw[o.out.2.1,if_pos (by rw[<-o.out.2.2];exact x)]
    rw[e];exact o.out.1.ret
   ·have b3:decide (L<1)=false:=by rw[decide_eq_false_iff_not];exact x
    have a3:zp K.E (d+1) M=if tkV K.E M2 5=1∨tkV K.E M2 5=2 then xi K.E (zp K.E d) 2 M2.tick else if tkV K.E M2 5=3 then tH K.E (zp K.E d) M2.tick else if tkV K.E M2 5=4 then xi K.E (zp K.E d) (2+tkV K.E M2.tick 3) M2.tick.tick else M2.tick:=by
     conv=>lhs;unfold zp
     simp only;rw[o.out.2.1,if_neg (by rw[<-o.out.2.2];exact x)]
    have r:=Ja a3;clear a3;have a2:=aaE K.E M2 (n:=5) Zo;obtain⟨k,hk⟩:∃k,tkV K.E M2 5=k:=⟨_,rfl⟩
    rw[hk] at a2;have c:=Ja hk;clear hk
    match k,a2,c with
    |0,_,c=>
     go_wp2_with (go_at_call 59;go_must (refine(o.out.1.takeK 5 0 0 rfl c.out Zd Zd (by have:=i.out.2;omega)).mono ?_;rintro e w3 ⟨rfl,g⟩))
     first|go_end0|refine bodyPost_ret (results_none rfl _ _ _) rfl ?_
     rw[r.out,c.out]
     exact g.out.ret
    |1,_,c=>
     go_wp2_with (first|(go_at_call 59;go_must (refine(o.out.1.takeK 5 1 1 rfl c.out Zd Zd (by have:=i.out.2;omega)).mono ?_;rintro e w3 ⟨rfl,g⟩))|(go_at_call 92;go_must (refine(g.out.choice hd y.out 2 2 rfl Zd Zd (by have:=i.out.2;omega)).mono ?_;rintro e w4 ⟨rfl,j⟩)))
     first|go_end0|refine bodyPost_ret (results_none rfl _ _ _) rfl ?_
     rw[r.out,c.out]
     exact j.out.ret
    |2,_,c=>
     go_wp2_with (first|(go_at_call 59;go_must (refine(o.out.1.takeK 5 2 2 rfl c.out Zd Zd (by have:=i.out.2;omega)).mono ?_;rintro e w3 ⟨rfl,g⟩))|(go_at_call 92;go_must (refine(g.out.choice hd y.out 2 2 rfl Zd Zd (by have:=i.out.2;omega)).mono ?_;rintro e w4 ⟨rfl,j⟩)))
     first|go_end0|refine bodyPost_ret (results_none rfl _ _ _) rfl ?_
     rw[r.out,c.out]
     exact j.out.ret
    |3,_,c=>
     go_wp2_with (first|(go_at_call 59;go_must (refine(o.out.1.takeK 5 3 3 rfl c.out Zd Zd (by have:=i.out.2;omega)).mono ?_;rintro e w3 ⟨rfl,g⟩))|(go_at_call 93;go_must (refine(g.out.loop hd y.out (by have:=i.out.2;omega)).mono ?_;rintro e w4 ⟨rfl,j⟩)))
     first|go_end0|refine bodyPost_ret (results_none rfl _ _ _) rfl ?_
     rw[r.out,c.out]
     exact j.out.ret
    |4,_,c=>
     have HG:=Ja o.out.1;go_wp2_with (first|(go_at_call 59;refine(HG.out.takeK 5 4 4 rfl c.out Zd Zd (by have:=i.out.2;omega)).mono ?_;clear HG;rintro e w3 ⟨rfl,g⟩)|(go_at_call 59;refine(g.out.take 3 Zd Zd (by have:=i.out.2;omega)).mono ?_;clear g;rintro e w4 ⟨z,b8,b4,rfl,j⟩)|(go_at_call 92;refine(j.out.choice hd y.out (2+z) (2+(z:Int)) Zo Zo Zo (by have:=i.out.2;omega)).mono ?_;rintro e w5 ⟨rfl,b5⟩))
     first|go_end0|refine bodyPost_ret (results_none rfl _ _ _) rfl ?_
     rw[r.out,c.out,b4.out]
     exact b5.out.ret
    |k+5,h,_=>exact absurd h Zo
theorem pW:∀d,d<=5->sU d
 |0,_=>km
 |d+1,h=>jB Zo (pW d Zo)
end Go.Proofs.Ytojclalkfhoooaa
