/- Part of a proof. -/
import Derived.Test.YtoahcpkibpomcaaGreatGVmFw
set_option linter.all false
set_option maxHeartbeats 4000000
set_option maxRecDepth 100000
namespace Go.Proofs.YtoahcpkibpomcaaGreat
open Go.RowKit
variable {w w' w0 w2 w3 wx:World}{K:MKC}{X X0:Nat->Prop}{M M0:MS}{vv:Value}{l:List BM}{c d i j k tg:Nat}{o:Obj}
def iZ (next i:Nat):List Int:=(List.range i).map fun k=>((next+k:Nat):Int)
theorem jE (next i:Nat):iZ next (i+1)=iZ next i++ [((next+i:Nat):Int)]:=by unfold iZ;rw[List.range_succ,Js];rfl
theorem parL_len (next i:Nat):(iZ next i).length=i:=by unfold iZ;simp
structure BlkMid (w:World) (K:MKC) (M:MS) (fv vv:Value) (pv:Value) (i:Nat) (wx:World):Prop where
 box:wx.heap[w.heap.size]? =some (.cells #[pv,.slice none 0 0,.int .i64 0,.int .i64 0,.slice none 0 0] 84 (0,0))
 own:wx.ownsRow (w.heap.size+1) 3 1 pv i ((iZ M.next i).map zN)
 size:w.heap.size+1<=wx.heap.size
 rest:wx.os=w.os/\wx.tape=w.tape/\wx.output=w.output
 kept:∀k,k<w.heap.size->k≠K.pm->wx.heap[k]? =w.heap[k]?
 pm:wx.heap[K.pm]? =some (.cells (uC K {M with next:=M.next+i } fv vv) 128 (0,0))
theorem BlkMid.mk'{fv pv:Value}(h:MkIn w K X M fv vv l)(hm:BlkMid w K M fv vv pv i wx)(c:M.sz+i<=1000000):MkIn wx K X {M with next:=M.next+i } fv vv l/\Stp X w X wx:=
 h.only (by have:=hm.size;omega) hm.rest hm.kept hm.pm rfl rfl (by unfold MS.sz at *;simp only at *;omega) h.lft
theorem BlkMid.start{fv:Value}(h:MkIn w K X M fv vv l):BlkMid w K M fv vv (L) 0 (w.alloc (I #[L,L,U 0,U 0,L] 84)):=
 ⟨zI rfl,Jv _ _ _ _,by simp,⟨rfl,rfl,rfl⟩,fun k hk _=>Below.heap_alloc w _ k hk,zB h.blk⟩
theorem BlkMid.next{wr:World}{fv pv c:Value}(h:MkIn w K X M fv vv l)(hm:BlkMid w K M fv vv pv i wr)(hg:((wr.setCell ⟨K.pm,6,none⟩ (U ((M.next+i+1:Nat):Int))).alloc o).grownBy w3 pv.ownBlock)
 (d:w3.ownsRow (w.heap.size+1) 3 1 c (i+1) ((iZ M.next i).map zN++ [zN ((M.next+i:Nat):Int)])):BlkMid w K M fv vv c (i+1) (w3.setCell ⟨w.heap.size,0,none⟩ c):=by
 have g:=lt_of_block h.blk;have j:=lt_of_block hm.pm;have t:=lt_of_block hm.box;have n1:=zC hm.own hm.box (.inr Zd);have n2:=zC hm.own hm.pm (.inr Zd);have b1:=zL hg (zB (o:=o) (zR (a:=⟨K.pm,6,none⟩) (u:=U ((M.next+i+1:Nat):Int)) hm.box (by show w.heap.size≠K.pm;omega))) n1;have p1:=zL hg (zB (o:=o) (zD hm.pm (i:=6) (U ((M.next+i+1:Nat):Int)))) n2;have hs:=hg.size;have m:=hm.size;simp at hs;refine⟨zD b1 _,?_,by simp;omega,⟨hg.os.trans hm.rest.1,hg.tape.trans hm.rest.2.1,hg.output.trans hm.rest.2.2⟩,fun k hk hne=>?_,?_⟩
 ·rw[jE,Js];exact ownsRow_setCell_other d (fun e=>zC d b1 (.inr Zd) (by simpa using e)) _
 ·refine(Below.heap_setCell w3 ⟨w.heap.size,0,none⟩ _ k (by show k≠w.heap.size;omega)).trans ((hg.block k Zt (fun e=>?_)).trans ((Below.heap_alloc _ _ k Zt).trans ((Below.heap_setCell wr ⟨K.pm,6,none⟩ _ k hne).trans (hm.kept k hk hne))));have:=(hm.own.lt k e.symm).1;omega
 ·exact zR p1 (by show K.pm≠w.heap.size;omega)
theorem rU(h:wW w K X M){n:Nat}(hz:M.sz+1+n<=1000000):
 G 56 #[Q K.pm,U n] w (yk K X w (M.block n) (U (M.f.length:Int))):=by
 obtain⟨fv,vv,l,h⟩:=h;have H:=Ja (Jb h hz);have a1:=BlkMid.start h;have e0:=Ja a1;have e4:=lt_of_block h.blk;clear h hz a1;go_enter Tryz.func56,Tryz.ntmps56;go_wp2
 go_loopw [6] (fun iv wx=>∃(i:Nat) (pv:Value),i<=n/\iv=U i/\Hid (BlkMid w K M fv vv pv i wx)) (fun iv _=>n-(intOf iv).toNat)
 case atStart=>exact⟨0,_,Jt _,rfl,e0⟩
 case round=>
  obtain⟨i,pv,hi,rfl,c⟩:=hrel
  by_cases d1:i<n
  ·have c9:(i:Int)<n:=Zo;have a8:i+1<=n:=d1;obtain⟨pa,pc,j⟩:=zG c.out.own;have hk:=(BlkMid.mk' H.out.1 c.out (by have:=H.out.2;omega)).1;have b6:G 110 #[Q K.pm] wr.drew fun e w'=>e=.returned (U ((M.next+i:Nat):Int))/\w'=(wr.setCell ⟨K.pm,6,none⟩ (U ((M.next+i+1:Nat):Int))).drew:=ot (hk.keep (Below.refl _ _).drew) (by have:=H.out.2;unfold MS.sz at *;simp only at *;omega)
   have d:=c.out.own;rw[j] at d;have c0:=zA (i:=0) c.out.box rfl;rw[j] at c0;have n1:=zC d c.out.box (.inr Zd);have e6:i<=1000000:=by have:=H.out.2;omega
   have d5:=lt_of_block c.out.box;have e1:=c.out.size;obtain⟨ij,d3,c8,c7,c5⟩:=info_parts Tryz.info_int;have a2:=lt_of_block c.out.pm;have HO:=Ja (Jb d (Jb b6 (Jb j (lt_of_block c.out.box))));have b9:∀(u:Value) (o:Obj),A ((wr.setCell ⟨K.pm,6,none⟩ u).alloc o) w.heap.size 0 (.slice pa i pc):=fun u o=>zA (i:=0) (zB (o:=o) (zR (a:=⟨K.pm,6,none⟩) (u:=u) c.out.box (by show w.heap.size≠K.pm;omega))) (by rw[j];rfl)
   have b8:∀(u:Value) (o:Obj),D ((wr.setCell ⟨K.pm,6,none⟩ u).alloc o) w.heap.size 0:=fun u o=>zE (zB (o:=o) (zR (a:=⟨K.pm,6,none⟩) (u:=u) c.out.box (by show w.heap.size≠K.pm;omega)))
   have a4:∀(u:Value) (o:Obj),((wr.setCell ⟨K.pm,6,none⟩ u).alloc o).ownsRow (w.heap.size+1) 3 1 (.slice pa i pc) i ((iZ M.next i).map zN):=fun u o=>(ownsRow_setCell_other d (fun e=>zC d c.out.pm (.inr Zd) (by simpa using e)) u).alloc o
   have a6:=Ja (Jb a4 (Jb b9 b8));clear j d b6 hk b9 b8 a4;go_upto_region 5 with fail
   go_region_law (first|(refine step_append_lies _ (by rfl) (.tmp 13) (.tmp 16) _ (by rfl) (w.heap.size+1) 3 ij (U 0) 1 8 Tryz.underlying22 d3 c8 c7 c5 rfl Zo (.slice pa i pc) i ((iZ M.next i).map zN) (by rfl) ((a6.out.1 _ _).drew) ⟨wr.heap.size,0,none⟩ 1 1 [U ((M.next+i:Nat):Int)] (by rfl) (by rfl) (Oi (cs:=#[U ((M.next+i:Nat):Int)]) (t:=3) (fr:=(0,0)) (zI Zs)) (by simp[Value.oneCell']) Zo (by unfold maxLen;omega) Zo Zt (wr.heap.size+1) Zs ?_;intro gg a3 w3 y g b7 d0;have d8:=(g.cell_far ⟨w.heap.size,0,none⟩ Zt (Ne.symm n1)).trans (a6.out.2.1 _ _);have d6:=(g.frozen_far ⟨w.heap.size,0,none⟩ Zt (Ne.symm n1)).trans (a6.out.2.2 _ _))|(go_simp;go_at_call 110;refine HO.out.2.1.mono ?_;rintro e w4 ⟨rfl,rfl⟩))
   all_goals go_wp2_with fail
   all_goals (
    refine⟨⟨i+1,F gg (i+1) a3,a8,by go_num,Ja (BlkMid.next H.out.1 c.out (by rw[HO.out.2.2.1];exact xN g) y)⟩,by simp[intOf];omega⟩)
  ·obtain rfl:i=n:=by omega
   have c9:¬(i:Int)<i:=Zo;obtain⟨hk,a1⟩:=BlkMid.mk' H.out.1 c.out (by have:=H.out.2;omega);obtain⟨pa,pc,j⟩:=zG c.out.own;subst j;obtain⟨fa,fc,d4⟩:=zG hk.own;subst d4
   have a5:wm wr (K.av X) (.slice pa i pc) (wJ M.next i).params:=by
    refine rO c.out.own (parL_len _ _) (fun x hx=>?_) (fun k e a0=>?_)
    ·unfold iZ at hx;obtain⟨m,hm,rfl⟩:=Nu.1 hx;have h1:=H.out.2;have h2:=Ol.1 hm;unfold MS.sz at h1;exact⟨by omega,by omega⟩
    ·have h2:=(c.out.own.lt k e).1;rcases a0 with a0|a0
     ·have:=H.out.1.xl k a0;omega
     ·have:=H.out.1.env.zl k a0;omega
   have d:=hk.own;have nb:=zC d c.out.pm (.inr Zd);have c4:=hk.c4;have a2:=lt_of_block c.out.pm;have d5:=lt_of_block c.out.box;have b0:=zA (i:=0) c.out.box rfl;have b1:=zA (i:=1) c.out.box rfl;have b2:=zA (i:=2) c.out.box rfl;have b3:=zA (i:=3) c.out.box rfl;have b4:=zA (i:=4) c.out.box rfl;have d9:∀o,A (wr.alloc o) K.pm 4 (.slice fa l.length fc):=fun o=>(Oo (w:=wr) (Below.heap_alloc _ _ _ a2)).trans c4
   have d7:∀o,D (wr.alloc o) K.pm 4:=fun o=>(Qm (w:=wr) (Below.heap_alloc _ _ _ a2)).trans (hk.free 4)
   have b5:l.length=M.f.length:=H.out.1.len;have e5:l.length<=1000000:=by have:=H.out.1.flen;omega
   have e7:K.B<=wr.heap.size:=hk.size;obtain⟨ik,d2,c3,c2,c1⟩:=info_parts Tryz.info_irblock;have HO:=Ja (Jb hk (Jb a1 (Jb a5 (Jb d b5))));clear hk a1 a5 d b5;go_upto_region 6 with fail
   go_region_law (first|(refine step_append_lies _ (by rfl) (.tmp 24) (.tmp 26) _ (by rfl) K.B 84 ik (.agg #[L,L,U 0,U 0,L]) 5 88 Tryz.underlying37 d2 c3 c2 c1 rfl Zo (.slice fa l.length fc) l.length (l.flatMap xG) (by rfl) ((HO.out.2.2.2.1.alloc _).drew) ⟨wr.heap.size,0,none⟩ 1 1 [.slice pa i pc,L,U 0,U 0,L] (by rfl) (by rfl) (Oi (cs:=#[.slice pa i pc,L,U 0,U 0,L]) (t:=84) (fr:=(0,0)) (heap_alloc_new wr _)) (by simp[Value.oneCell']) Zo (by unfold maxLen;omega) Zo Zt (wr.heap.size+1) Zs ?_;intro gg a3 w3 y g b7 d0;have d8:=(g.cell_far ⟨K.pm,4,none⟩ Zt (Ne.symm nb)).trans (d9 _);have d6:=(g.frozen_far ⟨K.pm,4,none⟩ Zt (Ne.symm nb)).trans (d7 _)))
   all_goals go_wp2_with fail
   all_goals go_ret
   all_goals (
    have hP:=HO.out.1.putB (fv':=F gg (l.length+1) a3) (b:=wJ M.next i) (pv:=.slice pa i pc) (xN g) ⟨rfl,rfl⟩ y (fun k e=>by
     have e2:gg=k:=by simpa[Value.ownBlock] using e
     subst e2;rcases b7 with e3|e3
     ·exact .inl e3
     ·right;omega) HO.out.2.2.1 (by have:=H.out.2;unfold MS.sz at *;simp only at *;omega)
    refine⟨zh (by have:=HO.out.2.2.2.2;omega),_,⟨_,_,_,hP.1⟩,HO.out.2.1.trans hP.2⟩)
theorem addr_any(h:wW w K X M)(a4:M.cur<M.f.length)(hz:M.sz+6<=1000000):
 G 133 #[Q K.pm] w (yk K X w (yJ K.E M).2 (U (yJ K.E M).1)):=by
 obtain⟨fv,vv,l,h⟩:=h;have a8:=Ja (uD h (n:=24) Zd Zd Zo);have H:=Ja (Jb a4 hz);obtain⟨z1,y⟩:∃z,tkV K.E M 24=z:=⟨_,rfl⟩
 rw[y] at a8;have b3:=Ja y;clear h a4 hz y
 by_cases h0:z1=23
 ·have d:yJ K.E M=zJ K.E M.tick:=by unfold yJ;rw[if_pos (by rw[b3.out];exact h0)]
  have u:=Ja d;have t0:((z1:Int)==23)=true:=by rw[beq_iff_eq];omega
  have b7:(z1==23)=true:=by rw[beq_iff_eq];omega
  clear d h0;go_enter Tryz.func133,Tryz.ntmps133;go_wp2_with (first|(go_at_call 55;go_must (refine a8.out.mono ?_;rintro e w1 ⟨rfl,t,m⟩))|(go_at_call 58;go_must (refine(pu t.at H.out.1 (by have:=(zT M).sz;have:=H.out.2;omega)).mono ?_;rintro e w2 ⟨rfl,X2,c,j⟩)))
  go_ret;rw[u.out];exact⟨rfl,X2,c,m.trans j⟩
 ·have d:yJ K.E M=((M.next:Int),M.tick.tick.tick.emit ⟨2,0,(tkV K.E M.tick 2:Nat),0,tkV K.E M.tick.tick (sE (tkV K.E M.tick 2)),[]⟩):=by unfold yJ;rw[if_neg (by rw[b3.out];exact h0)]
  have u:=Ja d;have t0:((z1:Int)==23)=false:=Ze;have b7:(z1==23)=false:=by rw[beq_eq_false_iff_ne];omega
  clear d h0;go_enter Tryz.func133,Tryz.ntmps133;go_upto_region 3 with(go_at_call 55;go_must (refine a8.out.mono ?_;rintro e w1 ⟨rfl,t,m⟩))
  have b4:=Ja (uD t (n:=2) Zd Zd (by have:=(zT M).sz;have:=H.out.2;omega));have b8:=aaE K.E M.tick (n:=2) Zd;obtain⟨k,hk⟩:∃z,tkV K.E M.tick 2=z:=⟨_,rfl⟩
  rw[hk] at b4 b8;have HK:=Ja hk;clear hk;go_upto_region 4 with(go_at_call 55;go_must (refine b4.out.mono ?_;rintro e w2 ⟨rfl,c,j⟩))
  have g1:=(zT M).sz;have g2:=(zT M.tick).sz;have g3:=(zT M.tick.tick).sz;have a6:=Ja (uD c (n:=sE k) (by unfold sE;split<;>decide) (by unfold sE;split<;>decide) (by have:=H.out.2;omega));have a3:=aaE K.E M.tick.tick (n:=sE k) (by unfold sE;split<;>decide);obtain⟨z3,x⟩:∃z,tkV K.E M.tick.tick (sE k)=z:=⟨_,rfl⟩
  rw[x] at a6 a3;have b2:=Ja x;obtain⟨db,b9,c0,b1⟩:=c.env.data;have c2:=c.c2;have p4:=zA (i:=4) c.env.prog rfl;rw[b9] at p4;have c1:z3<15:=by unfold sE at a3;split at a3<;>omega
  have HS:=Ja (m.trans j)
  have b0:∀(w3:World),MkIn w3 K X M.tick.tick.tick fv vv l->G 132 #[Q K.pm,.agg #[U 2,U 0,U k,U 0,Y z3,L]] w3 (yk K X w3 (M.tick.tick.tick.emit ⟨2,0,(k:Int),0,z3,[]⟩) (U (M.next:Int))):=fun w3 g=>
   rD g.at (o:=⟨2,0,(k:Int),0,z3,[]⟩) ⟨yF _ rfl,yF _ rfl,vG (k:Int) Zo Zo,yF _ rfl,(by show z3<65536;omega)⟩ yE.nil H.out.1 (by have:=H.out.2;omega)
  have b5:=Ja b0;clear t m j x c c0 b0;have b6:k=0∨k=1:=Zo;rcases b6 with rfl|rfl
  ·have d2:A w2 db 2 (Y 16):=zA b1 rfl;have a5:=Ja (show G 55 #[Q K.pm,U 15] w2 _ from a6.out);go_wp2_with (first|(go_at_call 55;go_must (refine a5.out.mono ?_;rintro e w3 ⟨rfl,g,a1⟩))|(go_at_call 132;go_must (refine(b5.out _ g).mono ?_;rintro e w4 ⟨rfl,X4,a2,a0⟩)))
   go_ret;rw[u.out,HK.out,b2.out];exact⟨rfl,X4,a2,HS.out.trans (a1.trans a0)⟩
  ·have d2:A w2 db 5 (Y 7):=zA b1 rfl;have a5:=Ja (show G 55 #[Q K.pm,U 6] w2 _ from a6.out);go_wp2_with (first|(go_at_call 55;go_must (refine a5.out.mono ?_;rintro e w3 ⟨rfl,g,a1⟩))|(go_at_call 132;go_must (refine(b5.out _ g).mono ?_;rintro e w4 ⟨rfl,X4,a2,a0⟩)))
   go_ret;rw[u.out,HK.out,b2.out];exact⟨rfl,X4,a2,HS.out.trans (a1.trans a0)⟩
structure OpSt (w0:World) (K:MKC) (X0:Nat->Prop) (M0:MS) (c:Nat) (w:World) (M:MS):Prop where
 made:∃X,wW w K X M/\Stp X0 w0 X w
 gr:GrowP c M0 M
 cur:M.cur<M.f.length
section
variable {w0 w:World} {K:MKC} {X0:Nat->Prop} {M0 M:MS} {c:Nat} (h:OpSt w0 K X0 M0 c w M)
include h
theorem OpSt.take (n:Nat)(i:0<n)(g:n<=1000000)(k:M0.sz+(c+1)<=1000000):
 G 55 #[Q K.pm,U n] w fun e w'=>∃z:Nat,z<n/\Hid (tkV K.E M n=z)/\e=.returned (U z)/\Hid (OpSt w0 K X0 M0 (c+1) w' M.tick):=by
 obtain⟨X,hm,hs⟩:=h.made;refine(m8 hm i g (by have:=h.gr.sz;omega)).mono ?_;rintro e w' ⟨rfl,X',j,d⟩;exact⟨_,aaE _ _ i,Ja rfl,rfl,Ja ⟨⟨X',j,hs.trans d⟩,h.gr.trans (zT M).p,h.cur⟩⟩
theorem OpSt.takeK (n k:Nat)(kI:Int)(g:(k:Int)=kI)(hk:tkV K.E M n=k)(i:0<n)(d:n<=1000000)(hz:M0.sz+(c+1)<=1000000):
 G 55 #[Q K.pm,U n] w fun e w'=>e=.returned (U kI)/\Hid (OpSt w0 K X0 M0 (c+1) w' M.tick):=by
 refine(h.take n i d hz).mono ?_;rintro e w' ⟨z,_,hz,rfl,hm⟩;refine⟨?_,hm⟩;rw[<-g,<-hk,hz.out]
theorem OpSt.any (i:M0.sz+(c+4)<=1000000):
 G 58 #[Q K.pm] w fun e w'=>∃x:Int,Hid (I64 x/\(zJ K.E M).1=x)/\e=.returned (U x)/\Hid (OpSt w0 K X0 M0 (c+4) w' (zJ K.E M).2):=by
 obtain⟨X,hm,hs⟩:=h.made;refine(pu hm h.cur (by have:=h.gr.sz;omega)).mono ?_;rintro e w' ⟨rfl,X',g,d⟩;exact⟨_,Ja ⟨oD hm,rfl⟩,rfl,Ja ⟨⟨X',g,hs.trans d⟩,h.gr.trans (yU K.E M).p,by rw[(yU K.E M).cur,(yU K.E M).len];exact h.cur⟩⟩
theorem OpSt.addr (i:M0.sz+(c+6)<=1000000):
 G 133 #[Q K.pm] w fun e w'=>∃x:Int,Hid (I64 x/\(yJ K.E M).1=x)/\e=.returned (U x)/\Hid (OpSt w0 K X0 M0 (c+6) w' (yJ K.E M).2):=by
 obtain⟨X,hm,hs⟩:=h.made;refine(addr_any hm h.cur (by have:=h.gr.sz;omega)).mono ?_;rintro e w' ⟨rfl,X',g,d⟩;refine⟨_,Ja ⟨?_,rfl⟩,rfl,Ja ⟨⟨X',g,hs.trans d⟩,h.gr.trans (ue K.E M).p,by rw[(ue K.E M).cur,(ue K.E M).len];exact h.cur⟩⟩;unfold yJ
 split
 ·obtain⟨fv,vv,l,hi⟩:=hm;exact oD ((hi.ticked (by have:=h.gr.sz;omega)).1.at)
 ·obtain⟨fv,vv,l,hi⟩:=hm;have hb:=hi.bnd;unfold MS.sz at hb;exact vG _ (by show -1000000<=(M.next:Int);omega) (by show(M.next:Int)<=1000000;omega)
theorem OpSt.next:(M.next:Int)<=1000000:=by
 obtain⟨X,⟨fv,vv,l,hi⟩,hs⟩:=h.made;have hb:=hi.bnd;unfold MS.sz at hb;omega
theorem OpSt.n64:I64 (M.next:Int):=vG _ Zo h.next
theorem OpSt.num (n:Nat)(i:n<65536)(j:M0.sz+(c+3)<=1000000):
 G 114 #[Q K.pm,Y n] w fun e w'=>e=.returned (U (M.next:Int))/\Hid (OpSt w0 K X0 M0 (c+3) w' (M.num n)):=by
 obtain⟨X,hm,hs⟩:=h.made;refine(ks hm i h.cur (by have:=h.gr.sz;omega)).mono ?_;rintro e w' ⟨rfl,X',g,d⟩;exact⟨rfl,Ja ⟨⟨X',g,hs.trans d⟩,h.gr.trans (wT M n).p,by rw[(wT M n).cur,(wT M n).len];exact h.cur⟩⟩
theorem OpSt.emit (code a b:Int)(n:Nat)(h1:I64 code)(h2:I64 a)(h3:I64 b)(i:n<65536)(j:M0.sz+(c+3)<=1000000):
 G 132 #[Q K.pm,.agg #[U code,U 0,U a,U b,Y n,L]] w fun e w'=>e=.returned (U (sB M code))/\Hid (OpSt w0 K X0 M0 (c+3) w' (M.emit ⟨code,0,a,b,n,[]⟩)):=by
 obtain⟨X,hm,hs⟩:=h.made;refine(rD (o:=⟨code,0,a,b,n,[]⟩) hm ⟨h1,yF _ rfl,h2,h3,i⟩ yE.nil h.cur (by have:=h.gr.sz;omega)).mono ?_;rintro e w' ⟨rfl,X',g,d⟩;exact⟨rfl,Ja ⟨⟨X',g,hs.trans d⟩,h.gr.trans (yB M _).p,by rw[(yB M _).cur,(yB M _).len];exact h.cur⟩⟩
theorem OpSt.call (d:∀x∈K.E.args,0<=x/\x<4)(j:M0.sz+(c+16)<=1000000):
 G 134 #[Q K.pm] w fun e w'=>e=.returned (.tuple #[])/\Hid (OpSt w0 K X0 M0 (c+16) w' (vN K.E M)):=by
 obtain⟨X,hm,hs⟩:=h.made;refine(jN hm h.cur (by have:=h.gr.sz;omega)).mono ?_;rintro e w' ⟨rfl,X',i,g⟩;exact⟨rfl,Ja ⟨⟨X',i,hs.trans g⟩,h.gr.trans (sI K.E d M).p,by rw[(sI K.E d M).cur,(sI K.E d M).len];exact h.cur⟩⟩
theorem OpSt.block (n:Nat)(i:M0.sz+(c+(1+n))<=1000000):
 G 56 #[Q K.pm,U n] w fun e w'=>e=.returned (U (M.f.length:Int))/\Hid (OpSt w0 K X0 M0 (c+(1+n)) w' (M.block n)):=by
 obtain⟨X,hm,hs⟩:=h.made;refine(rU hm (n:=n) (by have:=h.gr.sz;omega)).mono ?_;rintro e w' ⟨rfl,X',g,d⟩;exact⟨rfl,Ja ⟨⟨X',g,hs.trans d⟩,h.gr.trans (xM M n),by have:=h.cur;rw[yz];show M.cur<_;omega⟩⟩
theorem OpSt.flen:(M.f.length:Int)<=1000000:=by
 obtain⟨X,⟨fv,vv,l,hi⟩,hs⟩:=h.made;have hb:=hi.bnd;unfold MS.sz at hb;omega
theorem OpSt.endB (k a:Int)(tos:List IEdge)(tv:Value)(hk:I64 k)(j:I64 a)(d:∀X,wW w K X M->Stp X0 w0 X w->vT w (K.av X) tv tos):
 G 59 #[Q K.pm,.agg #[U k,U a,tv]] w fun e w'=>e=.returned (.tuple #[])/\Hid (OpSt w0 K X0 M0 c w' (M.endB ⟨k,a,tos⟩)):=by
 obtain⟨X,hm,hs⟩:=h.made;refine(nt (t:=⟨k,a,tos⟩) hm hk j (d X hm hs) h.cur).mono ?_;rintro e w' ⟨rfl,X',i,g⟩;exact⟨rfl,Ja ⟨⟨X',i,hs.trans g⟩,h.gr.trans (zv M _).p,by rw[(zv M _).cur,(zv M _).len];exact h.cur⟩⟩
theorem OpSt.endN(k a:Int)(tos:List IEdge)(tv:Value)(hk:I64 k)(j:I64 a)(hb:N w w2)(d:∀X:Nat->Prop,(∀k,X k->k<w.heap.size)->vT w2 X tv tos):
 G 59 #[Q K.pm,.agg #[U k,U a,tv]] w2 fun e w'=>e=.returned (.tuple #[])/\Hid (OpSt w0 K X0 M0 c w' (M.endB ⟨k,a,tos⟩)):=by
 obtain⟨X,⟨fv,vv,l,hm⟩,hs⟩:=h.made;refine(nt (t:=⟨k,a,tos⟩) (hm.keep hb).at hk j (d (K.av X) (fun k e=>e.elim (hm.xl k) (hm.env.zl k))) h.cur).mono ?_;rintro e w' ⟨rfl,X',i,g⟩;exact⟨rfl,Ja ⟨⟨X',i,hs.trans ((Stp.of_below hb).trans g)⟩,h.gr.trans (zv M _).p,by rw[(zv M _).cur,(zv M _).len];exact h.cur⟩⟩
theorem OpSt.below(hb:N w w'):OpSt w0 K X0 M0 c w' M:=by
 obtain⟨X,⟨fv,vv,l,hm⟩,hs⟩:=h.made;exact⟨⟨X,⟨fv,vv,l,hm.keep hb⟩,hs.trans (Stp.of_below hb)⟩,h.gr,h.cur⟩
end
theorem OpSt.start(h:wW w K X M)(c:M.cur<M.f.length):OpSt w K X M 0 w M:=⟨⟨X,h,Stp.refl _ _⟩,GrowP.refl M,c⟩
theorem OpSt.ret{M':MS}{r:Value}(h:OpSt w K X M c w' M'):yk K X w M' r (.returned r) w':=⟨rfl,h.made⟩
theorem wW.alt(h:wW w K X M):∀x∈K.E.args,0<=x/\x<4:=by
 obtain⟨fv,vv,l,hm⟩:=h;exact hm.env.alt
theorem mkOp_0{E:ME}(h:tkV E M 14=0):xK E M=M.tick.tick.num (tkV E M.tick 65536):=by
 unfold xK;simp only[h];rfl
theorem op_0(h:wW w K X M)(c:M.cur<M.f.length)(k:M.sz+20<=1000000)(hk:tkV K.E M 14=0):
 G 111 #[Q K.pm] w (yk K X w (xK K.E M) (.tuple #[])):=by
 have o:=Ja h.alt;have j:=Ja (OpSt.start h c);have d:=Ja (Jb k hk);clear h c k hk;go_enter Tryz.func111,Tryz.ntmps111
 go_wp2_with (first
  |(go_at_call 55;refine(j.out.takeK 14 0 0 rfl d.out.2 Zd Zd (by have:=d.out.1;omega)).mono ?_;clear j;rintro e w1 ⟨rfl,i⟩)
  |(go_at_call 55;refine(i.out.take 65536 Zd Zd (by have:=d.out.1;omega)).mono ?_;clear i;rintro e w2 ⟨z,qz,m,rfl,g⟩)
  |(go_at_call 114;refine(g.out.num z Zo (by have:=d.out.1;omega)).mono ?_;clear g;rintro e w3 ⟨rfl,l⟩))
 first|go_end0|refine bodyPost_ret (results_none rfl _ _ _) rfl ?_
 rw[mkOp_0 d.out.2]
 try rw[m.out]
 exact l.out.ret
theorem mkOp_1{E:ME}(h:tkV E M 14=1):xK E M=(zJ E M.tick.tick).2.emit ⟨3+tkV E M.tick 2,0,(zJ E M.tick.tick).1,0,0,[]⟩:=by
 unfold xK;simp only[h];rfl
theorem op_1(h:wW w K X M)(d:M.cur<M.f.length)(l:M.sz+20<=1000000)(hk:tkV K.E M 14=1):
 G 111 #[Q K.pm] w (yk K X w (xK K.E M) (.tuple #[])):=by
 have u:=Ja h.alt;have k:=Ja (OpSt.start h d);have c:=Ja (Jb l hk);clear h d l hk;go_enter Tryz.func111,Tryz.ntmps111
 go_wp2_with (first
  |(go_at_call 55;refine(k.out.takeK 14 1 1 rfl c.out.2 Zd Zd (by have:=c.out.1;omega)).mono ?_;clear k;rintro e w1 ⟨rfl,j⟩)
  |(go_at_call 55;refine(j.out.take 2 Zd Zd (by have:=c.out.1;omega)).mono ?_;clear j;rintro e w2 ⟨z,qz,t,rfl,i⟩)
  |(go_at_call 58;refine(i.out.any (by have:=c.out.1;omega)).mono ?_;clear i;rintro e w3 ⟨x,o,rfl,g⟩)
  |(go_at_call 132;refine(g.out.emit (3+(z:Int)) x 0 0 (vG _ Zo Zo) (o.out.1) (yF _ rfl) Zd (by have:=c.out.1;omega)).mono ?_;clear g;rintro e w4 ⟨rfl,m⟩))
 first|go_end0|refine bodyPost_ret (results_none rfl _ _ _) rfl ?_
 rw[mkOp_1 c.out.2]
 try rw[t.out]
 try rw[o.out.2]
 exact m.out.ret
theorem mkOp_2{E:ME}(h:tkV E M 14=2):xK E M=(yJ E M.tick).2.tick.emit ⟨18+tkV E (yJ E M.tick).2 2,0,(yJ E M.tick).1,0,0,[]⟩:=by
 unfold xK;simp only[h];rfl
theorem op_2(h:wW w K X M)(d:M.cur<M.f.length)(l:M.sz+20<=1000000)(hk:tkV K.E M 14=2):
 G 111 #[Q K.pm] w (yk K X w (xK K.E M) (.tuple #[])):=by
 have u:=Ja h.alt;have k:=Ja (OpSt.start h d);have c:=Ja (Jb l hk);clear h d l hk;go_enter Tryz.func111,Tryz.ntmps111
 go_wp2_with (first
  |(go_at_call 55;refine(k.out.takeK 14 2 2 rfl c.out.2 Zd Zd (by have:=c.out.1;omega)).mono ?_;clear k;rintro e w1 ⟨rfl,j⟩)
  |(go_at_call 133;refine(j.out.addr (by have:=c.out.1;omega)).mono ?_;clear j;rintro e w2 ⟨x,o,rfl,i⟩)
  |(go_at_call 55;refine(i.out.take 2 Zd Zd (by have:=c.out.1;omega)).mono ?_;clear i;rintro e w3 ⟨z,qz,t,rfl,g⟩)
  |(go_at_call 132;refine(g.out.emit (18+(z:Int)) x 0 0 (vG _ Zo Zo) (o.out.1) (yF _ rfl) Zd (by have:=c.out.1;omega)).mono ?_;clear g;rintro e w4 ⟨rfl,m⟩))
 first|go_end0|refine bodyPost_ret (results_none rfl _ _ _) rfl ?_
 rw[mkOp_2 c.out.2]
 try rw[o.out.2]
 try rw[t.out]
 exact m.out.ret
theorem mkOp_3{E:ME}(h:tkV E M 14=3):xK E M=(yJ E M.tick).2.tick.emit ⟨18+tkV E (yJ E M.tick).2 2,0,(yJ E M.tick).1,0,0,[]⟩:=by
 unfold xK;simp only[h];rfl
theorem op_3(h:wW w K X M)(d:M.cur<M.f.length)(l:M.sz+20<=1000000)(hk:tkV K.E M 14=3):
 G 111 #[Q K.pm] w (yk K X w (xK K.E M) (.tuple #[])):=by
 have u:=Ja h.alt;have k:=Ja (OpSt.start h d);have c:=Ja (Jb l hk);clear h d l hk;go_enter Tryz.func111,Tryz.ntmps111
 go_wp2_with (first
  |(go_at_call 55;refine(k.out.takeK 14 3 3 rfl c.out.2 Zd Zd (by have:=c.out.1;omega)).mono ?_;clear k;rintro e w1 ⟨rfl,j⟩)
  |(go_at_call 133;refine(j.out.addr (by have:=c.out.1;omega)).mono ?_;clear j;rintro e w2 ⟨x,o,rfl,i⟩)
  |(go_at_call 55;refine(i.out.take 2 Zd Zd (by have:=c.out.1;omega)).mono ?_;clear i;rintro e w3 ⟨z,qz,t,rfl,g⟩)
  |(go_at_call 132;refine(g.out.emit (18+(z:Int)) x 0 0 (vG _ Zo Zo) (o.out.1) (yF _ rfl) Zd (by have:=c.out.1;omega)).mono ?_;clear g;rintro e w4 ⟨rfl,m⟩))
 first|go_end0|refine bodyPost_ret (results_none rfl _ _ _) rfl ?_
 rw[mkOp_3 c.out.2]
 try rw[o.out.2]
 try rw[t.out]
 exact m.out.ret
theorem mkOp_4{E:ME}(h:tkV E M 14=4):xK E M=(zJ E (yJ E M.tick).2).2.tick.emit ⟨20+tkV E (zJ E (yJ E M.tick).2).2 2,0,(yJ E M.tick).1,(zJ E (yJ E M.tick).2).1,0,[]⟩:=by
 unfold xK;simp only[h];rfl
theorem op_4(h:wW w K X M)(d:M.cur<M.f.length)(m:M.sz+20<=1000000)(hk:tkV K.E M 14=4):
 G 111 #[Q K.pm] w (yk K X w (xK K.E M) (.tuple #[])):=by
 have HE:=Ja h.alt;have l:=Ja (OpSt.start h d);have c:=Ja (Jb m hk);clear h d m hk;go_enter Tryz.func111,Tryz.ntmps111
 go_wp2_with (first
  |(go_at_call 55;refine(l.out.takeK 14 4 4 rfl c.out.2 Zd Zd (by have:=c.out.1;omega)).mono ?_;clear l;rintro e w1 ⟨rfl,k⟩)
  |(go_at_call 133;refine(k.out.addr (by have:=c.out.1;omega)).mono ?_;clear k;rintro e w2 ⟨x,u,rfl,j⟩)
  |(go_at_call 58;refine(j.out.any (by have:=c.out.1;omega)).mono ?_;clear j;rintro e w3 ⟨y,t,rfl,i⟩)
  |(go_at_call 55;refine(i.out.take 2 Zd Zd (by have:=c.out.1;omega)).mono ?_;clear i;rintro e w4 ⟨z,qz,Hz,rfl,g⟩)
  |(go_at_call 132;refine(g.out.emit (20+(z:Int)) x y 0 (vG _ Zo Zo) (u.out.1) (t.out.1) Zd (by have:=c.out.1;omega)).mono ?_;clear g;rintro e w5 ⟨rfl,o⟩))
 first|go_end0|refine bodyPost_ret (results_none rfl _ _ _) rfl ?_
 rw[mkOp_4 c.out.2]
 try rw[u.out.2]
 try rw[t.out.2]
 try rw[Hz.out]
 exact o.out.ret
theorem mkOp_5{E:ME}(h:tkV E M 14=5):xK E M=(zJ E (yJ E M.tick).2).2.tick.emit ⟨20+tkV E (zJ E (yJ E M.tick).2).2 2,0,(yJ E M.tick).1,(zJ E (yJ E M.tick).2).1,0,[]⟩:=by
 unfold xK;simp only[h];rfl
theorem op_5(h:wW w K X M)(d:M.cur<M.f.length)(m:M.sz+20<=1000000)(hk:tkV K.E M 14=5):
 G 111 #[Q K.pm] w (yk K X w (xK K.E M) (.tuple #[])):=by
 have HE:=Ja h.alt;have l:=Ja (OpSt.start h d);have c:=Ja (Jb m hk);clear h d m hk;go_enter Tryz.func111,Tryz.ntmps111
 go_wp2_with (first
  |(go_at_call 55;refine(l.out.takeK 14 5 5 rfl c.out.2 Zd Zd (by have:=c.out.1;omega)).mono ?_;clear l;rintro e w1 ⟨rfl,k⟩)
  |(go_at_call 133;refine(k.out.addr (by have:=c.out.1;omega)).mono ?_;clear k;rintro e w2 ⟨x,u,rfl,j⟩)
  |(go_at_call 58;refine(j.out.any (by have:=c.out.1;omega)).mono ?_;clear j;rintro e w3 ⟨y,t,rfl,i⟩)
  |(go_at_call 55;refine(i.out.take 2 Zd Zd (by have:=c.out.1;omega)).mono ?_;clear i;rintro e w4 ⟨z,qz,Hz,rfl,g⟩)
  |(go_at_call 132;refine(g.out.emit (20+(z:Int)) x y 0 (vG _ Zo Zo) (u.out.1) (t.out.1) Zd (by have:=c.out.1;omega)).mono ?_;clear g;rintro e w5 ⟨rfl,o⟩))
 first|go_end0|refine bodyPost_ret (results_none rfl _ _ _) rfl ?_
 rw[mkOp_5 c.out.2]
 try rw[u.out.2]
 try rw[t.out.2]
 try rw[Hz.out]
 exact o.out.ret
theorem mkOp_6{E:ME}(h:tkV E M 14=6):xK E M=M.tick.tick.emit ⟨24,0,0,0,1+tkV E M.tick 3,[]⟩:=by
 unfold xK;simp only[h];rfl
theorem op_6(h:wW w K X M)(c:M.cur<M.f.length)(k:M.sz+20<=1000000)(hk:tkV K.E M 14=6):
 G 111 #[Q K.pm] w (yk K X w (xK K.E M) (.tuple #[])):=by
 have o:=Ja h.alt;have j:=Ja (OpSt.start h c);have d:=Ja (Jb k hk);clear h c k hk;go_enter Tryz.func111,Tryz.ntmps111
 go_wp2_with (first
  |(go_at_call 55;refine(j.out.takeK 14 6 6 rfl d.out.2 Zd Zd (by have:=d.out.1;omega)).mono ?_;clear j;rintro e w1 ⟨rfl,i⟩)
  |(go_at_call 55;refine(i.out.take 3 Zd Zd (by have:=d.out.1;omega)).mono ?_;clear i;rintro e w2 ⟨z,qz,m,rfl,g⟩)
  |(go_at_call 132;refine(g.out.emit 24 0 0 (1+z) (yF _ rfl) (yF _ rfl) (yF _ rfl) Zo (by have:=d.out.1;omega)).mono ?_;clear g;rintro e w3 ⟨rfl,l⟩))
 first|go_end0|refine bodyPost_ret (results_none rfl _ _ _) rfl ?_
 rw[mkOp_6 d.out.2]
 try rw[m.out]
 exact l.out.ret
theorem mkOp_7{E:ME}(h:tkV E M 14=7):xK E M=(zJ E M.tick).2.tick.emit ⟨25,0,(zJ E M.tick).1,0,1+tkV E (zJ E M.tick).2 3,[]⟩:=by
 unfold xK;simp only[h];rfl
theorem op_7(h:wW w K X M)(d:M.cur<M.f.length)(l:M.sz+20<=1000000)(hk:tkV K.E M 14=7):
 G 111 #[Q K.pm] w (yk K X w (xK K.E M) (.tuple #[])):=by
 have u:=Ja h.alt;have k:=Ja (OpSt.start h d);have c:=Ja (Jb l hk);clear h d l hk;go_enter Tryz.func111,Tryz.ntmps111
 go_wp2_with (first
  |(go_at_call 55;refine(k.out.takeK 14 7 7 rfl c.out.2 Zd Zd (by have:=c.out.1;omega)).mono ?_;clear k;rintro e w1 ⟨rfl,j⟩)
  |(go_at_call 58;refine(j.out.any (by have:=c.out.1;omega)).mono ?_;clear j;rintro e w2 ⟨x,o,rfl,i⟩)
  |(go_at_call 55;refine(i.out.take 3 Zd Zd (by have:=c.out.1;omega)).mono ?_;clear i;rintro e w3 ⟨z,qz,t,rfl,g⟩)
  |(go_at_call 132;refine(g.out.emit 25 x 0 (1+z) (yF _ rfl) (o.out.1) (yF _ rfl) Zo (by have:=c.out.1;omega)).mono ?_;clear g;rintro e w4 ⟨rfl,m⟩))
 first|go_end0|refine bodyPost_ret (results_none rfl _ _ _) rfl ?_
 rw[mkOp_7 c.out.2]
 try rw[o.out.2]
 try rw[t.out]
 exact m.out.ret
theorem mkOp_8{E:ME}(h:tkV E M 14=8):xK E M=(M.tick.tick.num (tkV E M.tick 4096)).tick.emit ⟨22+tkV E (M.tick.tick.num (tkV E M.tick 4096)) 2,0,(M.tick.next:Nat),0,0,[]⟩:=by
 unfold xK;simp only[h];rfl
theorem op_8(h:wW w K X M)(g:M.cur<M.f.length)(m:M.sz+20<=1000000)(hk:tkV K.E M 14=8):
 G 111 #[Q K.pm] w (yk K X w (xK K.E M) (.tuple #[])):=by
 have x:=Ja h.alt;have l:=Ja (OpSt.start h g);have c:=Ja (Jb m hk);clear h g m hk;go_enter Tryz.func111,Tryz.ntmps111
 go_wp2_with (first
  |(go_at_call 55;refine(l.out.takeK 14 8 8 rfl c.out.2 Zd Zd (by have:=c.out.1;omega)).mono ?_;clear l;rintro e w1 ⟨rfl,k⟩)
  |(go_at_call 55;refine(k.out.take 4096 Zd Zd (by have:=c.out.1;omega)).mono ?_;clear k;rintro e w2 ⟨y,qy,u,rfl,d⟩)
  |(go_at_call 114;refine(d.out.num y Zo (by have:=c.out.1;omega)).mono ?_;have N1:=Ja d.out.n64;clear d;rintro e w3 ⟨rfl,j⟩)
  |(go_at_call 55;refine(j.out.take 2 Zd Zd (by have:=c.out.1;omega)).mono ?_;clear j;rintro e w4 ⟨z,qz,t,rfl,i⟩)
  |(go_at_call 132;refine(i.out.emit (22+(z:Int)) (M.next:Int) 0 0 (vG _ Zo Zo) N1.out (yF _ rfl) Zd (by have:=c.out.1;omega)).mono ?_;clear i;rintro e w5 ⟨rfl,o⟩))
 first|go_end0|refine bodyPost_ret (results_none rfl _ _ _) rfl ?_
 rw[mkOp_8 c.out.2]
 try rw[u.out]
 try rw[t.out]
 exact o.out.ret
theorem mkOp_9{E:ME}(h:tkV E M 14=9):xK E M=vN E M.tick:=by
 unfold xK;simp only[h];rfl
theorem op_9(h:wW w K X M)(c:M.cur<M.f.length)(j:M.sz+20<=1000000)(hk:tkV K.E M 14=9):
 G 111 #[Q K.pm] w (yk K X w (xK K.E M) (.tuple #[])):=by
 have l:=Ja h.alt;have i:=Ja (OpSt.start h c);have d:=Ja (Jb j hk);clear h c j hk;go_enter Tryz.func111,Tryz.ntmps111
 go_wp2_with (first
  |(go_at_call 55;refine(i.out.takeK 14 9 9 rfl d.out.2 Zd Zd (by have:=d.out.1;omega)).mono ?_;clear i;rintro e w1 ⟨rfl,g⟩)
  |(go_at_call 134;refine(g.out.call l.out (by have:=d.out.1;omega)).mono ?_;clear g;rintro e w2 ⟨rfl,k⟩))
 first|go_end0|refine bodyPost_ret (results_none rfl _ _ _) rfl ?_
 rw[mkOp_9 d.out.2];exact k.out.ret
theorem mkOp_10a{E:ME}(h:tkV E M 14=10)(c:tkV E M.tick 3=0):xK E M=M.tick.tick.emit ⟨27,0,0,0,0,[]⟩:=by
 unfold xK;simp only[h,c];rfl
theorem op_10a(h:wW w K X M)(c:M.cur<M.f.length)(l:M.sz+20<=1000000)(hk:tkV K.E M 14=10)(m:tkV K.E M.tick 3=0):
 G 111 #[Q K.pm] w (yk K X w (xK K.E M) (.tuple #[])):=by
 have t:=Ja h.alt;have k:=Ja (OpSt.start h c);have d:=Ja (Jb l hk);have j:=Ja m;clear h c l hk m;go_enter Tryz.func111,Tryz.ntmps111
 go_wp2_with (first
  |(go_at_call 55;refine(k.out.takeK 14 10 10 rfl d.out.2 Zd Zd (by have:=d.out.1;omega)).mono ?_;clear k;rintro e w1 ⟨rfl,i⟩)
  |(go_at_call 55;refine(i.out.takeK 3 0 0 rfl j.out Zd Zd (by have:=d.out.1;omega)).mono ?_;clear i;rintro e w2 ⟨rfl,g⟩)
  |(go_at_call 132;refine(g.out.emit 27 0 0 0 (yF _ rfl) (yF _ rfl) (yF _ rfl) Zd (by have:=d.out.1;omega)).mono ?_;clear g;rintro e w3 ⟨rfl,o⟩))
 first|go_end0|refine bodyPost_ret (results_none rfl _ _ _) rfl ?_
 rw[mkOp_10a d.out.2 j.out];exact o.out.ret
theorem mkOp_10b{E:ME}(h:tkV E M 14=10)(c:¬tkV E M.tick 3=0):xK E M=M.tick.tick:=by
 unfold xK;simp only[h,c];rfl
theorem op_10b(h:wW w K X M)(c:M.cur<M.f.length)(k:M.sz+20<=1000000)(hk:tkV K.E M 14=10)(l:¬tkV K.E M.tick 3=0):
 G 111 #[Q K.pm] w (yk K X w (xK K.E M) (.tuple #[])):=by
 have t:=Ja h.alt;have j:=Ja (OpSt.start h c);have d:=Ja (Jb k hk);have i:=Ja l;clear h c k hk l;go_enter Tryz.func111,Tryz.ntmps111
 go_wp2_with (first
  |(go_at_call 55;refine(j.out.takeK 14 10 10 rfl d.out.2 Zd Zd (by have:=d.out.1;omega)).mono ?_;clear j;rintro e w1 ⟨rfl,g⟩)
  |(go_at_call 55;refine(g.out.take 3 Zd Zd (by have:=d.out.1;omega)).mono ?_;clear g;rintro e w2 ⟨z,qz,o,rfl,m⟩;have tz:((z:Int)==0)=false:=by rw[beq_eq_false_iff_ne];have:=o.out;have:=i.out;omega))
 first|go_end0|refine bodyPost_ret (results_none rfl _ _ _) rfl ?_
 rw[mkOp_10b d.out.2 i.out]
 try rw[o.out]
 exact m.out.ret
theorem mkOp_11a{E:ME}(h:tkV E M 14=11)(c:¬tkV E (zJ E (zJ E M.tick).2).2 13=3):xK E M=(zJ E (zJ E M.tick).2).2.tick.emit ⟨((5+tkV E (zJ E (zJ E M.tick).2).2 13:Nat):Int),0,(zJ E M.tick).1,(zJ E (zJ E M.tick).2).1,0,[]⟩:=by
 unfold xK;simp only[h]
 show yR E M.tick=_
 unfold yR;simp only;rw[if_neg Zo]
theorem op_11a(h:wW w K X M)(d:M.cur<M.f.length)(o:M.sz+20<=1000000)(hk:tkV K.E M 14=11)(t:¬tkV K.E (zJ K.E (zJ K.E M.tick).2).2 13=3):
 G 111 #[Q K.pm] w (yk K X w (xK K.E M) (.tuple #[])):=by
 have HE:=Ja h.alt;have m:=Ja (OpSt.start h d);have c:=Ja (Jb o hk);have l:=Ja t;clear h d o hk t;go_enter Tryz.func111,Tryz.ntmps111
 go_wp2_with (first
  |(go_at_call 55;refine(m.out.takeK 14 11 11 rfl c.out.2 Zd Zd (by have:=c.out.1;omega)).mono ?_;clear m;rintro e w1 ⟨rfl,k⟩)
  |(go_at_call 58;refine(k.out.any (by have:=c.out.1;omega)).mono ?_;clear k;rintro e w2 ⟨x,Hx,rfl,j⟩)
  |(go_at_call 58;refine(j.out.any (by have:=c.out.1;omega)).mono ?_;clear j;rintro e w3 ⟨y,Hy,rfl,i⟩)
  |(go_at_call 55;refine(i.out.take 13 Zd Zd (by have:=c.out.1;omega)).mono ?_;clear i;rintro e w4 ⟨z,qz,Hz,rfl,g⟩;have tz:((5+(z:Int))==8)=false:=by rw[beq_eq_false_iff_ne];have:=Hz.out;have:=l.out;omega)
  |(go_at_call 132;refine(g.out.emit (5+(z:Int)) x y 0 (vG _ Zo Zo) (Hx.out.1) (Hy.out.1) Zd (by have:=c.out.1;omega)).mono ?_;clear g;rintro e w5 ⟨rfl,u⟩))
 first|go_end0|refine bodyPost_ret (results_none rfl _ _ _) rfl ?_
 rw[mkOp_11a c.out.2 l.out]
 try rw[Hx.out.2]
 try rw[Hy.out.2]
 try rw[Hz.out]
 exact u.out.ret
theorem mkOp_11b{E:ME}(h:tkV E M 14=11)(c:tkV E (zJ E (zJ E M.tick).2).2 13=3)(hp:tkV E (zJ E (zJ E M.tick).2).2.tick 8=0):xK E M=(zJ E (zJ E M.tick).2).2.tick.tick.emit ⟨8,0,(zJ E M.tick).1,(zJ E (zJ E M.tick).2).1,0,[]⟩:=by
 unfold xK;simp only[h]
 show yR E M.tick=_
 unfold yR;simp only;rw[if_pos Zo,if_neg Zo]
theorem op_11b(h:wW w K X M)(d:M.cur<M.f.length)(u:M.sz+20<=1000000)(hk:tkV K.E M 14=11)(hq:tkV K.E (zJ K.E (zJ K.E M.tick).2).2 13=3)(hp:tkV K.E (zJ K.E (zJ K.E M.tick).2).2.tick 8=0):
 G 111 #[Q K.pm] w (yk K X w (xK K.E M) (.tuple #[])):=by
 have HE:=Ja h.alt;have t:=Ja (OpSt.start h d);have c:=Ja (Jb u hk);have m:=Ja hq;have o:=Ja hp;clear h d u hk hq hp;go_enter Tryz.func111,Tryz.ntmps111
 go_wp2_with (first
  |(go_at_call 55;refine(t.out.takeK 14 11 11 rfl c.out.2 Zd Zd (by have:=c.out.1;omega)).mono ?_;clear t;rintro e w1 ⟨rfl,l⟩)
  |(go_at_call 58;refine(l.out.any (by have:=c.out.1;omega)).mono ?_;clear l;rintro e w2 ⟨x,Hx,rfl,k⟩)
  |(go_at_call 58;refine(k.out.any (by have:=c.out.1;omega)).mono ?_;clear k;rintro e w3 ⟨y,Hy,rfl,j⟩)
  |(go_at_call 55;refine(j.out.takeK 13 3 3 rfl m.out Zd Zd (by have:=c.out.1;omega)).mono ?_;clear j;rintro e w4 ⟨rfl,i⟩)
  |(go_at_call 55;refine(i.out.takeK 8 0 0 rfl o.out Zd Zd (by have:=c.out.1;omega)).mono ?_;clear i;rintro e w5 ⟨rfl,g⟩)
  |(go_at_call 132;refine(g.out.emit 8 x y 0 (yF _ rfl) (Hx.out.1) (Hy.out.1) Zd (by have:=c.out.1;omega)).mono ?_;clear g;rintro e w6 ⟨rfl,a0⟩))
 first|go_end0|refine bodyPost_ret (results_none rfl _ _ _) rfl ?_
 rw[mkOp_11b c.out.2 m.out o.out]
 try rw[Hx.out.2]
 try rw[Hy.out.2]
 exact a0.out.ret
theorem mkOp_11c{E:ME}(h:tkV E M 14=11)(c:tkV E (zJ E (zJ E M.tick).2).2 13=3)(hp:0<tkV E (zJ E (zJ E M.tick).2).2.tick 8):xK E M=((((zJ E (zJ E M.tick).2).2.tick.tick.num 1).emit ⟨10,0,(zJ E (zJ E M.tick).2).1,((zJ E (zJ E M.tick).2).2.next:Nat),0,[]⟩).emit ⟨8,0,(zJ E M.tick).1,(((zJ E (zJ E M.tick).2).2.next+1:Nat):Int),0,[]⟩):=by
 unfold xK;simp only[h]
 show yR E M.tick=_
 unfold yR;simp only;rw[if_pos Zo,if_pos Zo];rfl
theorem op_11c(h:wW w K X M)(i:M.cur<M.f.length)(hz:M.sz+20<=1000000)(hk:tkV K.E M 14=11)(hq:tkV K.E (zJ K.E (zJ K.E M.tick).2).2 13=3)(hp:0<tkV K.E (zJ K.E (zJ K.E M.tick).2).2.tick 8):
 G 111 #[Q K.pm] w (yk K X w (xK K.E M) (.tuple #[])):=by
 have HE:=Ja h.alt;have a0:=Ja (OpSt.start h i);have c:=Ja (Jb hz hk);have t:=Ja hq;have u:=Ja hp;clear h i hz hk hq hp;go_enter Tryz.func111,Tryz.ntmps111
 go_wp2_with (first
  |(go_at_call 55;refine(a0.out.takeK 14 11 11 rfl c.out.2 Zd Zd (by have:=c.out.1;omega)).mono ?_;clear a0;rintro e w1 ⟨rfl,o⟩)
  |(go_at_call 58;refine(o.out.any (by have:=c.out.1;omega)).mono ?_;clear o;rintro e w2 ⟨x,Hx,rfl,m⟩)
  |(go_at_call 58;refine(m.out.any (by have:=c.out.1;omega)).mono ?_;clear m;rintro e w3 ⟨y,Hy,rfl,l⟩)
  |(go_at_call 55;refine(l.out.takeK 13 3 3 rfl t.out Zd Zd (by have:=c.out.1;omega)).mono ?_;clear l;rintro e w4 ⟨rfl,k⟩)
  |(go_at_call 55;refine(k.out.take 8 Zd Zd (by have:=c.out.1;omega)).mono ?_;clear k;rintro e w5 ⟨z,qz,Hz,rfl,g⟩;have tz:(0:Int)<(z:Int):=by have:=Hz.out;have:=u.out;omega)
  |(go_at_call 114;refine(g.out.num 1 Zo (by have:=c.out.1;omega)).mono ?_;have N1:=Ja g.out.n64;clear g;rintro e w6 ⟨rfl,d⟩)
  |(go_at_call 132;refine(d.out.emit 10 y _ 0 (yF _ rfl) (Hy.out.1) N1.out Zd (by have:=c.out.1;omega)).mono ?_;have N2:=Ja d.out.n64;clear d;rintro e w7 ⟨rfl,j⟩)
  |(go_at_call 132;refine(j.out.emit 8 x _ 0 (yF _ rfl) (Hx.out.1) N2.out Zd (by have:=c.out.1;omega)).mono ?_;clear j;rintro e w8 ⟨rfl,a1⟩))
 first|go_end0|refine bodyPost_ret (results_none rfl _ _ _) rfl ?_
 rw[mkOp_11c c.out.2 t.out u.out]
 try rw[Hx.out.2]
 try rw[Hy.out.2]
 try rw[Hz.out]
 exact a1.out.ret
theorem mkOp_12a{E:ME}(h:tkV E M 14=12)(c:¬tkV E (zJ E (zJ E M.tick).2).2 13=3):xK E M=(zJ E (zJ E M.tick).2).2.tick.emit ⟨((5+tkV E (zJ E (zJ E M.tick).2).2 13:Nat):Int),0,(zJ E M.tick).1,(zJ E (zJ E M.tick).2).1,0,[]⟩:=by
 unfold xK;simp only[h]
 show yR E M.tick=_
 unfold yR;simp only;rw[if_neg Zo]
theorem op_12a(h:wW w K X M)(d:M.cur<M.f.length)(o:M.sz+20<=1000000)(hk:tkV K.E M 14=12)(t:¬tkV K.E (zJ K.E (zJ K.E M.tick).2).2 13=3):
 G 111 #[Q K.pm] w (yk K X w (xK K.E M) (.tuple #[])):=by
 have HE:=Ja h.alt;have m:=Ja (OpSt.start h d);have c:=Ja (Jb o hk);have l:=Ja t;clear h d o hk t;go_enter Tryz.func111,Tryz.ntmps111
 go_wp2_with (first
  |(go_at_call 55;refine(m.out.takeK 14 12 12 rfl c.out.2 Zd Zd (by have:=c.out.1;omega)).mono ?_;clear m;rintro e w1 ⟨rfl,k⟩)
  |(go_at_call 58;refine(k.out.any (by have:=c.out.1;omega)).mono ?_;clear k;rintro e w2 ⟨x,Hx,rfl,j⟩)
  |(go_at_call 58;refine(j.out.any (by have:=c.out.1;omega)).mono ?_;clear j;rintro e w3 ⟨y,Hy,rfl,i⟩)
  |(go_at_call 55;refine(i.out.take 13 Zd Zd (by have:=c.out.1;omega)).mono ?_;clear i;rintro e w4 ⟨z,qz,Hz,rfl,g⟩;have tz:((5+(z:Int))==8)=false:=by rw[beq_eq_false_iff_ne];have:=Hz.out;have:=l.out;omega)
  |(go_at_call 132;refine(g.out.emit (5+(z:Int)) x y 0 (vG _ Zo Zo) (Hx.out.1) (Hy.out.1) Zd (by have:=c.out.1;omega)).mono ?_;clear g;rintro e w5 ⟨rfl,u⟩))
 first|go_end0|refine bodyPost_ret (results_none rfl _ _ _) rfl ?_
 rw[mkOp_12a c.out.2 l.out]
 try rw[Hx.out.2]
 try rw[Hy.out.2]
 try rw[Hz.out]
 exact u.out.ret
theorem mkOp_12b{E:ME}(h:tkV E M 14=12)(c:tkV E (zJ E (zJ E M.tick).2).2 13=3)(hp:tkV E (zJ E (zJ E M.tick).2).2.tick 8=0):xK E M=(zJ E (zJ E M.tick).2).2.tick.tick.emit ⟨8,0,(zJ E M.tick).1,(zJ E (zJ E M.tick).2).1,0,[]⟩:=by
 unfold xK;simp only[h]
 show yR E M.tick=_
 unfold yR;simp only;rw[if_pos Zo,if_neg Zo]
theorem op_12b(h:wW w K X M)(d:M.cur<M.f.length)(u:M.sz+20<=1000000)(hk:tkV K.E M 14=12)(hq:tkV K.E (zJ K.E (zJ K.E M.tick).2).2 13=3)(hp:tkV K.E (zJ K.E (zJ K.E M.tick).2).2.tick 8=0):
 G 111 #[Q K.pm] w (yk K X w (xK K.E M) (.tuple #[])):=by
 have HE:=Ja h.alt;have t:=Ja (OpSt.start h d);have c:=Ja (Jb u hk);have m:=Ja hq;have o:=Ja hp;clear h d u hk hq hp;go_enter Tryz.func111,Tryz.ntmps111
 go_wp2_with (first
  |(go_at_call 55;refine(t.out.takeK 14 12 12 rfl c.out.2 Zd Zd (by have:=c.out.1;omega)).mono ?_;clear t;rintro e w1 ⟨rfl,l⟩)
  |(go_at_call 58;refine(l.out.any (by have:=c.out.1;omega)).mono ?_;clear l;rintro e w2 ⟨x,Hx,rfl,k⟩)
  |(go_at_call 58;refine(k.out.any (by have:=c.out.1;omega)).mono ?_;clear k;rintro e w3 ⟨y,Hy,rfl,j⟩)
  |(go_at_call 55;refine(j.out.takeK 13 3 3 rfl m.out Zd Zd (by have:=c.out.1;omega)).mono ?_;clear j;rintro e w4 ⟨rfl,i⟩)
  |(go_at_call 55;refine(i.out.takeK 8 0 0 rfl o.out Zd Zd (by have:=c.out.1;omega)).mono ?_;clear i;rintro e w5 ⟨rfl,g⟩)
  |(go_at_call 132;refine(g.out.emit 8 x y 0 (yF _ rfl) (Hx.out.1) (Hy.out.1) Zd (by have:=c.out.1;omega)).mono ?_;clear g;rintro e w6 ⟨rfl,a0⟩))
 first|go_end0|refine bodyPost_ret (results_none rfl _ _ _) rfl ?_
 rw[mkOp_12b c.out.2 m.out o.out]
 try rw[Hx.out.2]
 try rw[Hy.out.2]
 exact a0.out.ret
theorem mkOp_12c{E:ME}(h:tkV E M 14=12)(c:tkV E (zJ E (zJ E M.tick).2).2 13=3)(hp:0<tkV E (zJ E (zJ E M.tick).2).2.tick 8):xK E M=((((zJ E (zJ E M.tick).2).2.tick.tick.num 1).emit ⟨10,0,(zJ E (zJ E M.tick).2).1,((zJ E (zJ E M.tick).2).2.next:Nat),0,[]⟩).emit ⟨8,0,(zJ E M.tick).1,(((zJ E (zJ E M.tick).2).2.next+1:Nat):Int),0,[]⟩):=by
 unfold xK;simp only[h]
 show yR E M.tick=_
 unfold yR;simp only;rw[if_pos Zo,if_pos Zo];rfl
theorem op_12c(h:wW w K X M)(i:M.cur<M.f.length)(hz:M.sz+20<=1000000)(hk:tkV K.E M 14=12)(hq:tkV K.E (zJ K.E (zJ K.E M.tick).2).2 13=3)(hp:0<tkV K.E (zJ K.E (zJ K.E M.tick).2).2.tick 8):
 G 111 #[Q K.pm] w (yk K X w (xK K.E M) (.tuple #[])):=by
 have HE:=Ja h.alt;have a0:=Ja (OpSt.start h i);have c:=Ja (Jb hz hk);have t:=Ja hq;have u:=Ja hp;clear h i hz hk hq hp;go_enter Tryz.func111,Tryz.ntmps111
 go_wp2_with (first
  |(go_at_call 55;refine(a0.out.takeK 14 12 12 rfl c.out.2 Zd Zd (by have:=c.out.1;omega)).mono ?_;clear a0;rintro e w1 ⟨rfl,o⟩)
  |(go_at_call 58;refine(o.out.any (by have:=c.out.1;omega)).mono ?_;clear o;rintro e w2 ⟨x,Hx,rfl,m⟩)
  |(go_at_call 58;refine(m.out.any (by have:=c.out.1;omega)).mono ?_;clear m;rintro e w3 ⟨y,Hy,rfl,l⟩)
  |(go_at_call 55;refine(l.out.takeK 13 3 3 rfl t.out Zd Zd (by have:=c.out.1;omega)).mono ?_;clear l;rintro e w4 ⟨rfl,k⟩)
  |(go_at_call 55;refine(k.out.take 8 Zd Zd (by have:=c.out.1;omega)).mono ?_;clear k;rintro e w5 ⟨z,qz,Hz,rfl,g⟩;have tz:(0:Int)<(z:Int):=by have:=Hz.out;have:=u.out;omega)
  |(go_at_call 114;refine(g.out.num 1 Zo (by have:=c.out.1;omega)).mono ?_;have N1:=Ja g.out.n64;clear g;rintro e w6 ⟨rfl,d⟩)
  |(go_at_call 132;refine(d.out.emit 10 y _ 0 (yF _ rfl) (Hy.out.1) N1.out Zd (by have:=c.out.1;omega)).mono ?_;have N2:=Ja d.out.n64;clear d;rintro e w7 ⟨rfl,j⟩)
  |(go_at_call 132;refine(j.out.emit 8 x _ 0 (yF _ rfl) (Hx.out.1) N2.out Zd (by have:=c.out.1;omega)).mono ?_;clear j;rintro e w8 ⟨rfl,a1⟩))
 first|go_end0|refine bodyPost_ret (results_none rfl _ _ _) rfl ?_
 rw[mkOp_12c c.out.2 t.out u.out]
 try rw[Hx.out.2]
 try rw[Hy.out.2]
 try rw[Hz.out]
 exact a1.out.ret
theorem mkOp_13a{E:ME}(h:tkV E M 14=13)(c:¬tkV E (zJ E (zJ E M.tick).2).2 13=3):xK E M=(zJ E (zJ E M.tick).2).2.tick.emit ⟨((5+tkV E (zJ E (zJ E M.tick).2).2 13:Nat):Int),0,(zJ E M.tick).1,(zJ E (zJ E M.tick).2).1,0,[]⟩:=by
 unfold xK;simp only[h]
 show yR E M.tick=_
 unfold yR;simp only;rw[if_neg Zo]
theorem op_13a(h:wW w K X M)(d:M.cur<M.f.length)(o:M.sz+20<=1000000)(hk:tkV K.E M 14=13)(t:¬tkV K.E (zJ K.E (zJ K.E M.tick).2).2 13=3):
 G 111 #[Q K.pm] w (yk K X w (xK K.E M) (.tuple #[])):=by
 have HE:=Ja h.alt;have m:=Ja (OpSt.start h d);have c:=Ja (Jb o hk);have l:=Ja t;clear h d o hk t;go_enter Tryz.func111,Tryz.ntmps111
 go_wp2_with (first
  |(go_at_call 55;refine(m.out.takeK 14 13 13 rfl c.out.2 Zd Zd (by have:=c.out.1;omega)).mono ?_;clear m;rintro e w1 ⟨rfl,k⟩)
  |(go_at_call 58;refine(k.out.any (by have:=c.out.1;omega)).mono ?_;clear k;rintro e w2 ⟨x,Hx,rfl,j⟩)
  |(go_at_call 58;refine(j.out.any (by have:=c.out.1;omega)).mono ?_;clear j;rintro e w3 ⟨y,Hy,rfl,i⟩)
  |(go_at_call 55;refine(i.out.take 13 Zd Zd (by have:=c.out.1;omega)).mono ?_;clear i;rintro e w4 ⟨z,qz,Hz,rfl,g⟩;have tz:((5+(z:Int))==8)=false:=by rw[beq_eq_false_iff_ne];have:=Hz.out;have:=l.out;omega)
  |(go_at_call 132;refine(g.out.emit (5+(z:Int)) x y 0 (vG _ Zo Zo) (Hx.out.1) (Hy.out.1) Zd (by have:=c.out.1;omega)).mono ?_;clear g;rintro e w5 ⟨rfl,u⟩))
 first|go_end0|refine bodyPost_ret (results_none rfl _ _ _) rfl ?_
 rw[mkOp_13a c.out.2 l.out]
 try rw[Hx.out.2]
 try rw[Hy.out.2]
 try rw[Hz.out]
 exact u.out.ret
theorem mkOp_13b{E:ME}(h:tkV E M 14=13)(c:tkV E (zJ E (zJ E M.tick).2).2 13=3)(hp:tkV E (zJ E (zJ E M.tick).2).2.tick 8=0):xK E M=(zJ E (zJ E M.tick).2).2.tick.tick.emit ⟨8,0,(zJ E M.tick).1,(zJ E (zJ E M.tick).2).1,0,[]⟩:=by
 unfold xK;simp only[h]
 show yR E M.tick=_
 unfold yR;simp only;rw[if_pos Zo,if_neg Zo]
theorem op_13b(h:wW w K X M)(d:M.cur<M.f.length)(u:M.sz+20<=1000000)(hk:tkV K.E M 14=13)(hq:tkV K.E (zJ K.E (zJ K.E M.tick).2).2 13=3)(hp:tkV K.E (zJ K.E (zJ K.E M.tick).2).2.tick 8=0):
 G 111 #[Q K.pm] w (yk K X w (xK K.E M) (.tuple #[])):=by
 have HE:=Ja h.alt;have t:=Ja (OpSt.start h d);have c:=Ja (Jb u hk);have m:=Ja hq;have o:=Ja hp;clear h d u hk hq hp;go_enter Tryz.func111,Tryz.ntmps111
 go_wp2_with (first
  |(go_at_call 55;refine(t.out.takeK 14 13 13 rfl c.out.2 Zd Zd (by have:=c.out.1;omega)).mono ?_;clear t;rintro e w1 ⟨rfl,l⟩)
  |(go_at_call 58;refine(l.out.any (by have:=c.out.1;omega)).mono ?_;clear l;rintro e w2 ⟨x,Hx,rfl,k⟩)
  |(go_at_call 58;refine(k.out.any (by have:=c.out.1;omega)).mono ?_;clear k;rintro e w3 ⟨y,Hy,rfl,j⟩)
  |(go_at_call 55;refine(j.out.takeK 13 3 3 rfl m.out Zd Zd (by have:=c.out.1;omega)).mono ?_;clear j;rintro e w4 ⟨rfl,i⟩)
  |(go_at_call 55;refine(i.out.takeK 8 0 0 rfl o.out Zd Zd (by have:=c.out.1;omega)).mono ?_;clear i;rintro e w5 ⟨rfl,g⟩)
  |(go_at_call 132;refine(g.out.emit 8 x y 0 (yF _ rfl) (Hx.out.1) (Hy.out.1) Zd (by have:=c.out.1;omega)).mono ?_;clear g;rintro e w6 ⟨rfl,a0⟩))
 first|go_end0|refine bodyPost_ret (results_none rfl _ _ _) rfl ?_
 rw[mkOp_13b c.out.2 m.out o.out]
 try rw[Hx.out.2]
 try rw[Hy.out.2]
 exact a0.out.ret
theorem mkOp_13c{E:ME}(h:tkV E M 14=13)(c:tkV E (zJ E (zJ E M.tick).2).2 13=3)(hp:0<tkV E (zJ E (zJ E M.tick).2).2.tick 8):xK E M=((((zJ E (zJ E M.tick).2).2.tick.tick.num 1).emit ⟨10,0,(zJ E (zJ E M.tick).2).1,((zJ E (zJ E M.tick).2).2.next:Nat),0,[]⟩).emit ⟨8,0,(zJ E M.tick).1,(((zJ E (zJ E M.tick).2).2.next+1:Nat):Int),0,[]⟩):=by
 unfold xK;simp only[h]
 show yR E M.tick=_
 unfold yR;simp only;rw[if_pos Zo,if_pos Zo];rfl
theorem op_13c(h:wW w K X M)(i:M.cur<M.f.length)(hz:M.sz+20<=1000000)(hk:tkV K.E M 14=13)(hq:tkV K.E (zJ K.E (zJ K.E M.tick).2).2 13=3)(hp:0<tkV K.E (zJ K.E (zJ K.E M.tick).2).2.tick 8):
 G 111 #[Q K.pm] w (yk K X w (xK K.E M) (.tuple #[])):=by
 have HE:=Ja h.alt;have a0:=Ja (OpSt.start h i);have c:=Ja (Jb hz hk);have t:=Ja hq;have u:=Ja hp;clear h i hz hk hq hp;go_enter Tryz.func111,Tryz.ntmps111
 go_wp2_with (first
  |(go_at_call 55;refine(a0.out.takeK 14 13 13 rfl c.out.2 Zd Zd (by have:=c.out.1;omega)).mono ?_;clear a0;rintro e w1 ⟨rfl,o⟩)
  |(go_at_call 58;refine(o.out.any (by have:=c.out.1;omega)).mono ?_;clear o;rintro e w2 ⟨x,Hx,rfl,m⟩)
  |(go_at_call 58;refine(m.out.any (by have:=c.out.1;omega)).mono ?_;clear m;rintro e w3 ⟨y,Hy,rfl,l⟩)
  |(go_at_call 55;refine(l.out.takeK 13 3 3 rfl t.out Zd Zd (by have:=c.out.1;omega)).mono ?_;clear l;rintro e w4 ⟨rfl,k⟩)
  |(go_at_call 55;refine(k.out.take 8 Zd Zd (by have:=c.out.1;omega)).mono ?_;clear k;rintro e w5 ⟨z,qz,Hz,rfl,g⟩;have tz:(0:Int)<(z:Int):=by have:=Hz.out;have:=u.out;omega)
  |(go_at_call 114;refine(g.out.num 1 Zo (by have:=c.out.1;omega)).mono ?_;have N1:=Ja g.out.n64;clear g;rintro e w6 ⟨rfl,d⟩)
  |(go_at_call 132;refine(d.out.emit 10 y _ 0 (yF _ rfl) (Hy.out.1) N1.out Zd (by have:=c.out.1;omega)).mono ?_;have N2:=Ja d.out.n64;clear d;rintro e w7 ⟨rfl,j⟩)
  |(go_at_call 132;refine(j.out.emit 8 x _ 0 (yF _ rfl) (Hx.out.1) N2.out Zd (by have:=c.out.1;omega)).mono ?_;clear j;rintro e w8 ⟨rfl,a1⟩))
 first|go_end0|refine bodyPost_ret (results_none rfl _ _ _) rfl ?_
 rw[mkOp_13c c.out.2 t.out u.out]
 try rw[Hx.out.2]
 try rw[Hy.out.2]
 try rw[Hz.out]
 exact a1.out.ret
theorem op_any(h:wW w K X M)(c:M.cur<M.f.length)(d:M.sz+20<=1000000):
 G 111 #[Q K.pm] w (yk K X w (xK K.E M) (.tuple #[])):=by
 have l:=aaE K.E M (n:=14) Zo;have h3:=aaE K.E M.tick (n:=3) Zo;obtain⟨k,hk⟩:∃k,tkV K.E M 14=k:=⟨_,rfl⟩
 rw[hk] at l
 have m:∀j,j=11∨j=12∨j=13->k=j->G 111 #[Q K.pm] w (yk K X w (xK K.E M) (.tuple #[])):=fun j hj e=>by
  by_cases g:tkV K.E (zJ K.E (zJ K.E M.tick).2).2 13=3
  ·by_cases hp:0<tkV K.E (zJ K.E (zJ K.E M.tick).2).2.tick 8
   ·rcases hj with rfl|rfl|rfl
    ·exact op_11c h c d (hk.trans e) g hp
    ·exact op_12c h c d (hk.trans e) g hp
    ·exact op_13c h c d (hk.trans e) g hp
   ·have i:tkV K.E (zJ K.E (zJ K.E M.tick).2).2.tick 8=0:=Zo;rcases hj with rfl|rfl|rfl
    ·exact op_11b h c d (hk.trans e) g i
    ·exact op_12b h c d (hk.trans e) g i
    ·exact op_13b h c d (hk.trans e) g i
  ·rcases hj with rfl|rfl|rfl
   ·exact op_11a h c d (hk.trans e) g
   ·exact op_12a h c d (hk.trans e) g
   ·exact op_13a h c d (hk.trans e) g
 match k,l with
 |0,_=>exact op_0 h c d hk
 |1,_=>exact op_1 h c d hk
 |2,_=>exact op_2 h c d hk
 |3,_=>exact op_3 h c d hk
 |4,_=>exact op_4 h c d hk
 |5,_=>exact op_5 h c d hk
 |6,_=>exact op_6 h c d hk
 |7,_=>exact op_7 h c d hk
 |8,_=>exact op_8 h c d hk
 |9,_=>exact op_9 h c d hk
 |10,_=>
  by_cases g:tkV K.E M.tick 3=0
  ·exact op_10a h c d hk g
  ·exact op_10b h c d hk g
 |11,_=>exact m 11 Zo rfl
 |12,_=>exact m 12 Zo rfl
 |13,_=>exact m 13 Zo rfl
 |k+14,h=>exact absurd h Zo
theorem own_take{S:Nat}{e:TypeId}{a:Option Addr}{n:Nat}{xs:List Value}(h:w.ownsRow S e 1 (.slice a n c) n xs)(hk:k<=n):w.ownsRow S e 1 (.slice a k c) k (xs.take k):=by
 obtain⟨h1,h2⟩:=h;refine⟨by rw[Oc,h1];omega,?_⟩;rcases h2 with⟨h3,d⟩|⟨g,o,cur,h3,d,m,t,l,j,i⟩
 ·cases h3;left;have:k=0:=Zo;subst this;exact⟨rfl,rfl⟩
 ·cases h3;refine .inr ⟨g,_,cur,rfl,d,m,by omega,l,j,?_⟩;rw[<-i,List.take_take]
  congr 1
  omega
def toL (tg n:Nat):List (IEdge×Value):=(List.range n).map fun k=>(⟨((tg+k:Nat):Int),[]⟩,L)
theorem toL_succ (tg n:Nat):toL tg (n+1)=toL tg n++ [(⟨((tg+n:Nat):Int),[]⟩,.slice none 0 0)]:=by unfold toL;rw[List.range_succ,Js];rfl
theorem toL_len (tg n:Nat):(toL tg n).length=n:=by unfold toL;simp
theorem toL_fst (tg n:Nat):(toL tg n).map (·.1)=xk tg n:=by unfold toL xk;rw[List.map_map];rfl
structure ToMid (w:World) (K:MKC) (X:Nat->Prop) (M:MS) (tv:Value) (j:Nat) (wx:World):Prop where
 own:wx.ownsRow w.heap.size 79 2 tv j ((toL M.f.length j).flatMap za)
 made:∃Xj,wW wx (K.withZ fun k=>K.Z k∨tv.ownBlock=some k) Xj (xE j M)/\Stp X w Xj wx
theorem ToMid.start(h:wW w K X M):ToMid w K X M (L) 0 w:=by
 refine⟨Jv _ _ _ _,X,?_,Stp.refl _ _⟩;obtain⟨fv,vv,l,h⟩:=h;exact⟨fv,vv,l,h.off (Je _) ⟨rfl,rfl,rfl⟩ (fun _ _ _=>rfl) (fun k e=>e.elim .inl (fun e=>by simp[Value.ownBlock] at e)) (fun k e=>e.elim (h.env.zl k) (fun e=>by simp[Value.ownBlock] at e))⟩
theorem ToMid.next{X2:Nat->Prop}{tv d:Value}(h:ToMid w K X M tv j wx)(h2:wW w2 (K.withZ fun k=>K.Z k∨tv.ownBlock=some k) X2 (xE (j+1) M))(c:Stp X w X2 w2)(m:w2.ownsRow w.heap.size 79 2 tv j ((toL M.f.length j).flatMap za))
 (u:∀k,X k->k<w.heap.size) (hB:K.B<=w.heap.size) (hg:(w2.alloc o).grownBy w3 tv.ownBlock) (i:w3.ownsRow w.heap.size 79 2 d (j+1) ((toL M.f.length j).flatMap za++za (⟨((M.f.length+j:Nat):Int),[]⟩,L))) (t:∀k,d.ownBlock=some k->tv.ownBlock=some k∨w2.heap.size<=k):ToMid w K X M d (j+1) w3:=by
 obtain⟨fv,vv,l,h2⟩:=h2;have g:w2.heap.size<=w3.heap.size:=by have:=hg.size;simp at this;omega
 have hk:∀k,k<w2.heap.size->tv.ownBlock≠some k->w3.heap[k]? =w2.heap[k]?:=fun k hk hne=>(hg.block k Zt (fun e=>hne e.symm)).trans (Below.heap_alloc w2 o k hk)
 refine⟨?_,X2,⟨fv,vv,l,h2.off (K:=K.withZ fun k=>K.Z k∨tv.ownBlock=some k) g ⟨hg.os,hg.tape,hg.output⟩ (fun k hk' hz=>hk k hk' (fun e=>by have h1:k<K.B:=hz (.inr e);have:=(m.lt k e).1;omega)) (fun k e=>e.elim (fun e=> .inl (.inl e)) (fun e=>(t k e).elim (fun e=> .inl (.inr e)) .inr)) (fun k e=>e.elim (fun e=>Jy (h2.env.zl k (.inl e)) g) (fun e=>(i.lt k e).2))⟩,?_⟩
 ·rw[toL_succ,Nx];exact i
 ·refine⟨hg.os.trans c.os,hg.tape.trans c.tape,hg.output.trans c.output,Jn c.size g,c.new,fun k hk' hx'=>(hk k (Jy hk' c.size) (fun e=>?_)).trans (c.kept k hk' hx')⟩;have:=(m.lt k e).1;omega
theorem ToMid.done{tv:Value}(h:ToMid w K X M tv j wx)(d:∀k,K.Z k->k<w.heap.size)(g:M.f.length+j<=1000000):∃Xj,wW wx K Xj (xE j M)/\Stp X w Xj wx/\vT wx (K.av Xj) tv (xk M.f.length j):=by
 obtain⟨Xj,⟨fv,vv,l,hm⟩,hs⟩:=h.made;refine⟨Xj,⟨fv,vv,l,hm.off (Z2:=K.Z) (Je _) ⟨rfl,rfl,rfl⟩ (fun _ _ _=>rfl) (fun k e=> .inl (.inl e)) (fun k e=>hm.env.zl k (.inl e))⟩,hs,?_⟩;rw[<-toL_fst];refine ld (by rw[toL_len];exact h.own) (fun q hq=>?_) (fun k e hx=>hx.elim (fun e2=>hm.env.zx k e2 (.inr e)) (fun e2=>?_))
 ·unfold toL at hq;obtain⟨m,c,rfl⟩:=Nu.1 hq;have:=Ol.1 c;exact⟨vG _ (by show -1000000<=((M.f.length+m:Nat):Int);omega) (by show((M.f.length+m:Nat):Int)<=1000000;omega),yE.nil⟩
 ·have:=(h.own.lt k e).1;have:=d k e2;omega
theorem pj{xs:List Int}{blk:Int}(d:∀x∈xs,I64 x)(hl:xs.length<=1000)(hb:I64 blk)(X:Nat->Prop)(c:∀k,X k->k<w.heap.size):
 vT ((w.alloc (I (xs.map fun x=>U x).toArray 3)).alloc (I #[U blk,F w.heap.size xs.length xs.length] 79)) X (F (w.heap.size+1) 1 1) [⟨blk,xs⟩]:=by
 refine qt (l:=[((⟨blk,xs⟩:IEdge),F w.heap.size xs.length xs.length)]) (e:=79) (zI Zs) (fun e=>by have:=c _ e;omega) (fun q hq=>?_) Zs;rw[Jo] at hq;subst hq;exact⟨hb,ki (zB (zI rfl)) (fun e=>by have:=c _ e;omega) d Zo⟩
theorem edgeCell{v:Value}{xs:List IEdge}{a:Option Addr}{n:Nat}(h:vT w X v xs)(hv:v=.slice a n c){x:IEdge}(d:xs[k]? =some x):∃b o,a=some ⟨b,o,none⟩/\A w b (o+k*2) (U x.block):=by
 subst hv;obtain⟨a',c',e,_,_,h3⟩:=h;cases e;obtain⟨b,o,i,_,_,g,_⟩:=h3 k x d;exact⟨b,o,i,g⟩
theorem ahp{n:Nat}(h:k<n):(xk tg n)[k]? =some ⟨((tg+k:Nat):Int),[]⟩:=by unfold xk;rw[Jr,Oh h];rfl
theorem MkIn.cut{fv:Value}{a:Option Addr}{n:Nat}(h:MkIn w K X M fv (.slice a n c) l)(hk:k<=M.vals.length):
 MkIn (w.setCell ⟨K.pm,7,none⟩ (.slice a k c)) K X {M with vals:=M.vals.take k } fv (.slice a k c) l/\Stp X w X (w.setCell ⟨K.pm,7,none⟩ (.slice a k c)):=by
 have hv:=h.vown;obtain⟨a',c',e⟩:=zG hv;cases e;have d:(M.vals.take k).length=k:=by rw[Oc];omega
 refine h.setC 7 _ {M with vals:=M.vals.take k } (.slice a k c) rfl rfl ?_ (fun x hx=>h.v64 x (List.mem_of_mem_take hx)) ?_ ?_ h.lft
 ·show w.ownsRow K.B 3 1 (.slice a k c) (M.vals.take k).length ((M.vals.take k).map zN)
  rw[d,List.map_take];exact own_take hv hk
 ·intro j e;refine h.xv j ?_
  cases a with
  |none=>cases e
  |some a=>exact e
 ·have:=h.bnd;unfold MS.sz at this ⊢;simp only[d];omega
theorem MkIn.goto{fv:Value}(h:MkIn w K X M fv vv l)(k:Nat):
 MkIn (w.setCell ⟨K.pm,5,none⟩ (U k)) K X {M with cur:=k } fv vv l/\Stp X w X (w.setCell ⟨K.pm,5,none⟩ (U k)):=
 h.setC 5 _ {M with cur:=k } vv rfl rfl h.vown h.v64 h.xv h.bnd h.lft
theorem MkIn.parAt{fv:Value}(h:MkIn w K X M fv vv l){b:IBlk}(hb:M.f[i]? =some b):
 ∃g c pa pc,fv=F g l.length c/\g<w.heap.size/\A w g (i*5) (.slice pa b.params.length pc)/\∀k x,b.params[k]? =some x->∃bb o,pa=some ⟨bb,o,none⟩/\bb<w.heap.size/\A w bb (o+k) (U x)/\I64 x:=by
 obtain⟨q,m,rfl,u⟩:=h.getB hb;obtain⟨g,c,d,a1,y,a0⟩:=h.fblk m;have j:=z9 yr h.own (by rw[d];rfl) m;have e0:A w g (i*5) q.pv:=j 0 _ rfl;obtain⟨pa,pc,t,h1,h2,h3⟩:=u.par;refine⟨g,c,pa,pc,d,y,by rw[e0,t],fun k x hx=>?_⟩;obtain⟨bb,o,h4,h5,h6,h7,h8⟩:=h3 k x hx;rw[Nk] at h7;exact⟨bb,o,h4,h5,h7,h8⟩
def sU (d:Nat):Prop:=∀(w:World) (K:MKC) (X:Nat->Prop) (M:MS),wW w K X M->M.cur<M.f.length->M.sz+pC d<=1000000->
 G 57 #[Q K.pm,U d] w (yk K X w (zp K.E d M) (.tuple #[]))
theorem OpSt.part(h:OpSt w0 K X0 M0 c w M)(j:sU d)(k:M0.sz+(c+pC d)<=1000000):
 G 57 #[Q K.pm,U d] w fun e w'=>e=.returned (.tuple #[])/\Hid (OpSt w0 K X0 M0 (c+pC d) w' (zp K.E d M)):=by
 obtain⟨X,hm,hs⟩:=h.made;refine(j w K X M hm h.cur (by have:=h.gr.sz;omega)).mono ?_;rintro e w' ⟨rfl,X',i,g⟩;have hg:=xw K.E hm.alt d M;exact⟨rfl,Ja ⟨⟨X',i,hs.trans g⟩,h.gr.trans hg,hg.cur h.cur⟩⟩
structure ArmMid (w:World) (K:MKC) (X:Nat->Prop) (M:MS) (d tg join n j:Nat) (wx:World) (Mj:MS):Prop where
 made:∃Xj,wW wx K Xj Mj/\Stp X w Xj wx
 rest:uV K.E (zp K.E d) tg join M.vals.length n 0 M=uV K.E (zp K.E d) tg join M.vals.length (n-j) j Mj
 vals:Mj.vals=M.vals
 gr:GrowP (j*(pC d+5)) M Mj
theorem ArmMid.next{Xj:Nat->Prop}{Mj:MS}{n:Nat}(h:ArmMid w K X M d tg c n j wx Mj)(l:j<n)(hs:Stp X w Xj wx)(hf:tg+n<M.f.length)
 (h2:∃X2,wW w2 K X2 {wM K.E c j (zp K.E d {Mj with cur:=tg+j }) with vals:=(wM K.E c j (zp K.E d {Mj with cur:=tg+j })).vals.take M.vals.length }/\Stp Xj wx X2 w2):
 ArmMid w K X M d tg c n (j+1) w2 {wM K.E c j (zp K.E d {Mj with cur:=tg+j }) with vals:=(wM K.E c j (zp K.E d {Mj with cur:=tg+j })).vals.take M.vals.length }:=by
 obtain⟨X2,g,i⟩:=h2;have k:=g.alt;have h1:=((vk Mj (tg+j) (by have:=h.gr.len;omega)).trans ((xw K.E k d _).trans (su K.E c j (zp K.E d {Mj with cur:=tg+j })))).mono (show 0+(pC d+5)<=pC d+5 by omega);have h3:=sY h1;have hl:Mj.vals.length=M.vals.length:=by rw[h.vals]
 rw[hl] at h3;refine⟨⟨X2,g,hs.trans i⟩,?_,?_,?_⟩
 ·rw[h.rest,show n-j=(n-(j+1))+1 by omega,rg]
 ·have:=uF h1.pre;rw[hl] at this;exact this.trans h.vals
 ·have:=h.gr.trans h3;rw[Nat.succ_mul];exact this
theorem lH(hd:d<=5)(hP:sU d)(h:wW w K X M)(c9:M.cur<M.f.length){n:Nat}(s4:2<=n)(o9:n<=4)(hz:M.sz+(31+4*pC d)<=1000000):
 G 112 #[Q K.pm,U ((d:Int)+1),U n] w (yk K X w (xi K.E (zp K.E d) n M) (.tuple #[])):=by
 have HA:=Ja (OpSt.start h c9);have HZ:=Ja (Jb hz hP);have q6:=Ja c9
 have l2:K.B<=w.heap.size/\(∀k,K.Z k->k<w.heap.size):=by
  obtain⟨fv,vv,l,hi⟩:=h;exact⟨hi.size,hi.env.zl⟩
 have t5:=Ja l2;clear h c9 hz hP l2;go_enter Tryz.func112,Tryz.ntmps112;go_upto_region 1 with(go_at_call 58;go_must (refine(HA.out.any (by have:=HZ.out.1;omega)).mono ?_;rintro e w1 ⟨x,HX,rfl,c0⟩))
 obtain⟨M1,i0⟩:∃M1,(zJ K.E M).2=M1:=⟨_,rfl⟩
 rw[i0] at c0;obtain⟨X1,f9,l0⟩:=c0.out.made;have n0:=c0.out.gr.sz
 have k6:(∀k,X1 k->k<w1.heap.size)/\K.B<=w1.heap.size/\(∀k,K.Z k->k<w1.heap.size)/\M1.f.length<=999900:=by
  obtain⟨fv,vv,l,hi⟩:=f9;refine⟨hi.xl,hi.size,hi.env.zl,?_⟩;have h1:M1.f.length<=M1.sz:=by unfold MS.sz;omega
  have h2:=HZ.out.1;have h3:pC d≥101:=by cases d<;>unfold pC<;>omega
  omega
 have q4:=Ja (ToMid.start f9);have H1:=Ja (Jb l0 (Jb k6 i0));clear f9 l0 n0 k6 i0 HA;go_wp2
 go_loopw [7,8] (fun tv kv wx=>∃(j:Nat) (ta:Option Addr) (tc:Nat),j<=n/\tv=.slice ta j tc/\kv=U j/\Hid (ToMid w1 K X1 M1 (.slice ta j tc) j wx)) (fun _ kv _=>n-(intOf kv).toNat)
 case atStart=>exact⟨0,none,0,Jt _,rfl,rfl,q4⟩
 case round=>
  obtain⟨j,ta,tc,hj,rfl,rfl,HT⟩:=hrel
  by_cases a3:j<n
  ·have b5:(j:Int)<(n:Int):=Zo;obtain⟨Xj,f4,f0⟩:=HT.out.made;have d0:=rU f4 (n:=0) (by have h1:=(vW j M1).sz;have h2:=c0.out.gr.sz;have h3:=HZ.out.1;omega);rw[tB] at d0
   have g4:∀(w4:World) (X4:Nat->Prop),Stp Xj wr X4 w4->w4.ownsRow w1.heap.size 79 2 (.slice ta j tc) j ((toL M1.f.length j).flatMap za):=fun w4 X4 b7=>yD HT.out.own (fun k e=>b7.kept k (HT.out.own.lt k e).2 (fun e2=>by
    obtain⟨fv,vv,l,hi⟩:=f4
    exact hi.env.zx k e2 (.inr e)))
   obtain⟨ij,g3,c3,c2,c1⟩:=info_parts Tryz.info_edge;have HN:=Ja (Jb d0 (Jb f0 (Jb g4 a3)));have r4:=f0.size;clear f4 f0 d0 g4 a3;go_wp2_with (first|(go_at_call 56;go_must (refine HN.out.1.mono ?_;rintro e w4 ⟨rfl,X4,p1,b7⟩;have l1:=HN.out.2.2.1 w4 X4 b7;have r5:=b7.size;have n1:yM (w4.alloc (I #[U ((M1.f.length+j:Nat):Int),L] 79)) 2 (F w4.heap.size 1 1) 1 (za (⟨((M1.f.length+j:Nat):Int),[]⟩,L)):=yM.cells (zI rfl) rfl (by simp[za,Value.oneCell'])))|(at_builtin;go_must (refine zK _ rfl (.tmp 20) (.tmp 24) 80 rfl w1.heap.size 79 ij (.agg #[U 0,L]) 2 32 Tryz.underlying80 g3 c3 c2 c1 rfl Zd (.slice ta j tc) j ((toL M1.f.length j).flatMap za) rfl (l1.alloc _) _ 1 (za (⟨((M1.f.length+j:Nat):Int),[]⟩,L)) rfl n1 (by unfold maxLen;omega) Zo Zt ?_;intro v9 w9 a0 a1 d6)))
   obtain⟨o3,o2,rfl⟩:=zG a0;go_roundw
   case rel=>
    refine⟨j+1,o3,o2,HN.out.2.2.2,rfl,by go_num,Ja (HT.out.next p1 (HN.out.2.1.trans b7) l1 H1.out.2.1.1 H1.out.2.1.2.1 a1 a0 (fun k e=>?_))⟩;rcases d6 with e2|e2
    ·exact .inl (by rw[<-e2];exact e)
    ·right;have e3:=e2.symm.trans e;simp at e3;omega
   case measure=>have:=HN.out.2.2.2;simp[intOf];omega
  ·obtain rfl:j=n:=by omega
   have b5:¬(j:Int)<(j:Int):=Zo;obtain⟨X2,f8,k9,g8⟩:=HT.out.done H1.out.2.1.2.2.1 (by have:=H1.out.2.1.2.2.2;omega);have a5:=c0.out.gr.trans (vW j M1);have b0:=tB j M1;obtain⟨tg,e9⟩:∃tg,M1.f.length=tg:=⟨_,rfl⟩
   rw[e9] at b0 g8;obtain⟨M2,h9⟩:∃M2,xE j M1=M2:=⟨_,rfl⟩
   rw[h9] at f8 a5 b0;have q9:=Ja (OpSt.start f8 (a5.cur q6.out));have k4:=a5.sz;have a6:=q9.out.block 1 (by have:=HZ.out.1;omega);rw[b0] at a6;obtain⟨jn,g2⟩:∃jn,tg+j=jn:=⟨_,rfl⟩
   rw[g2] at a6;have H2:=Ja (Jb (H1.out.1.trans k9) (Jb g8 (Jb k4 (Jb h9 (Jb e9 (Jb g2 (Jb b0 a5)))))));have o1:=Ja a6;clear f8 k9 g8 a5 b0 h9 e9 k4 a6 g2 HT;go_upto_region 7 with(go_at_call 56;go_must (refine o1.out.mono ?_;rintro e w3 ⟨rfl,q5⟩))
   obtain⟨kd,b8⟩:∃kd:Int,(if 2<j then 3 else 2)=kd:=⟨_,rfl⟩
   have d4:I64 kd:=by rw[<-b8];split<;>exact yF _ rfl
   have g0:2<j->kd=3:=fun e=>by rw[<-b8,if_pos e]
   have g1:¬2<j->kd=2:=fun e=>by rw[<-b8,if_neg e]
   have e4:=Ja (Jb b8 (Jb d4 (Jb g0 g1)));clear b8 d4 g0 g1
   go_upto_if 32 with fail
   go_cut [] (fun wx=>Hid (N w3 wx/\O wx w3.heap.size #[U kd,U x,.slice ta j tc] 82))
   case first=>
    by_cases h3:2<j
    ·have p5:(2:Int)<(j:Int):=Zo;have hk:=e4.out.2.2.1 h3;subst hk;go_wp2;go_meet;exact Ja ⟨(Below.refl _ _).alloc (Je _) _,zI rfl⟩
    ·have p5:¬(2:Int)<(j:Int):=Zo;have hk:=e4.out.2.2.2 h3;subst hk;go_wp2;go_meet;exact Ja ⟨(Below.refl _ _).alloc (Je _) _,zI rfl⟩
   case rest=>
   obtain⟨m1,d2⟩:=hcut.out;have t0:=zA (i:=0) d2 rfl;have t1:=zA (i:=1) d2 rfl;have t2:=zA (i:=2) d2 rfl;have o0:=Ja ((q5.out.below m1).endB kd x (xk tg j) (.slice ta j tc) e4.out.2.1 HX.out.1 (fun X hm hs=>H2.out.2.1.step yq (hs.av K)));clear m1 d2 hcut;go_upto_region 11 with(go_at_call 59;go_must (refine o0.out.mono ?_;rintro e w5 ⟨rfl,i8⟩))
   obtain⟨M3,d8⟩:∃M3,(M2.block 1).endB ⟨kd,x,xk tg j⟩=M3:=⟨_,rfl⟩
   rw[d8] at i8;obtain⟨X5,f6,f1⟩:=i8.out.made;have g6:=H2.out.2.1.step yq (f1.av K);have n5:∃m3 vv5 l5,MkIn w5 K X5 M3 m3 vv5 l5:=f6;obtain⟨m3,vv5,l5,d5⟩:=n5;have c7:=d5.c7;obtain⟨va5,vc5,e5⟩:=zG d5.vown;rw[e5] at c7;have n2:=lt_of_block d5.blk;have d3:M3.f.length=jn+1:=by rw[<-d8,(zv _ _).len,yz,<-H2.out.2.2.2.2.2.1];have:=H2.out.2.2.2.2.2.2.1;omega
   have k3:M3.sz<=M.sz+(6+j):=by have:=i8.out.gr.sz;have:=H2.out.2.2.1;omega
   have k5:6+j+j*(pC d+5)+1<=31+4*pC d:=by have:=Qw (pC d+5) o9;omega
   have H5:=Ja (Jb (H2.out.1.trans f1) (Jb g6 (Jb d8 (Jb d3 (Jb k3 k5)))));have r0:=Ja (show ArmMid w5 K X5 M3 d tg jn j 0 w5 M3 from⟨⟨X5,f6,Stp.refl _ _⟩,rfl,rfl,(GrowP.refl _).mono (Jt _)⟩);clear f6 f1 g6 d5 d8 d3 k3 k5 e5 t0 t1 t2;go_wp2;clear c7 n2
   go_loopw [12] (fun kv wx=>∃(i:Nat) (Mi:MS),i<=j/\kv=U i/\Hid (ArmMid w5 K X5 M3 d tg jn j i wx Mi)) (fun kv _=>j-(intOf kv).toNat)
   case atStart=>exact⟨0,M3,Jt _,rfl,r0⟩
   case round=>
    obtain⟨i,Mi,hi,rfl,a2⟩:=hrel;obtain⟨Xi,p0,b6⟩:=a2.out.made;obtain⟨fv,vv,l,u⟩:=p0
    by_cases a3:i<j
    ·have b5:(i:Int)<(j:Int):=Zo;have g5:=H5.out.2.1.step yq (b6.av K);obtain⟨eb,eo,o5,l4⟩:=edgeCell g5 rfl (ahp a3);obtain⟨ti,e7⟩:∃ti,tg+i=ti:=⟨_,rfl⟩
     simp only[e7] at l4;have f5:=u.free 5;have f2:=lt_of_block u.blk;have c5:=u.c5;have b9:=u.goto ti;have o4:Mi.sz<=M3.sz+i*(pC d+5):=a2.out.gr.sz;have n4:i*(pC d+5)+(pC d+5)<=j*(pC d+5):=by have:=Qw (pC d+5) a3;rw[Nat.succ_mul] at this;exact this
     have m0:Mi.sz+(pC d+5)<=1000000:=by have h1:=HZ.out.1;have h2:=H5.out.2.2.2.2.1;have h3:=H5.out.2.2.2.2.2;omega
     have l6:ti<Mi.f.length:=by have h1:=a2.out.gr.len;have h2:=H5.out.2.2.2.1;have h3:=H2.out.2.2.2.2.2.1;omega
     have q3:=Ja e7;have m:=Ja (Jb b6 (Jb b9 (Jb m0 l6)));subst o5;clear e7 u b6 g5 b9 o4 n4 m0 l6;go_upto_region 16 with fail;generalize h7:wr.setCell ⟨K.pm,5,none⟩ (U ti)=W6 at *;obtain⟨M6,d7⟩:∃M6:MS,{Mi with cur:=ti }=M6:=⟨_,rfl⟩
     have k2:M6.sz+(pC d+5)<=1000000:=by rw[<-d7];exact m.out.2.2.1
     have m2:OpSt W6 K Xi M6 0 W6 M6:=by rw[<-d7];exact OpSt.start m.out.2.1.1.at m.out.2.2.2
     have b3:=Ja (Jb (m2.part HZ.out.2 Zo) (Jb d7 k2));have s2:IntKind.i64.wrap ((d:Int)+1-1)=(d:Int):=by rw[Om _ Zo];omega
     clear d7 k2 m2 h7 c5 f5 l4;go_upto_region 17 with(go_at_call 57;go_must (refine b3.out.1.mono ?_;rintro e w7 ⟨rfl,i2⟩))
     obtain⟨M7,h8⟩:∃M7,zp K.E d M6=M7:=⟨_,rfl⟩
     rw[h8] at i2;have n9:=Ja h8;clear h8
     go_cut [65] (fun v wx=>∃bb:Bool,v=.bool bb/\(bb=true↔(tkV K.E M7 12=11/\0<i))/\Hid (OpSt W6 K Xi M6 (0+pC d+1) wx M7.tick))
     case first=>
      by_cases ht:tkV K.E M7 12=11
      ·have d9:=Ja (i2.out.takeK 12 11 11 rfl ht Zd Zd (by have:=b3.out.2.2;omega));have HT:=Ja ht;clear ht
       by_cases h0:0<i
       ·have p8:(0:Int)<(i:Int):=Zo;go_wp2_with (go_at_call 55;go_must (refine d9.out.mono ?_;rintro e w8 ⟨rfl,a8⟩))
        go_meet;exact⟨true,rfl,⟨fun _=>⟨HT.out,h0⟩,fun _=>rfl⟩,a8⟩
       ·have p8:¬(0:Int)<(i:Int):=Zo;go_wp2_with (go_at_call 55;go_must (refine d9.out.mono ?_;rintro e w8 ⟨rfl,a8⟩))
        go_meet;exact⟨false,rfl,⟨(fun e=>by cases e),(fun e=>absurd e.2 h0)⟩,a8⟩
      ·have d9:=Ja (i2.out.take 12 Zd Zd (by have:=b3.out.2.2;omega));have HT:=Ja ht;clear ht;go_wp2_with (go_at_call 55;go_must (refine d9.out.mono ?_;rintro e w8 ⟨z,r3,n7,rfl,a8⟩;have tz:((z:Int)==11)=false:=by rw[beq_eq_false_iff_ne];have:=n7.out;have:=HT.out;omega))
       go_meet;exact⟨false,rfl,⟨(fun e=>by cases e),(fun e=>absurd e.1 HT.out)⟩,a8⟩
     case rest=>
     obtain⟨bb,rfl,h6,a8⟩:=hcut;have m4:=Ja h6;clear h6;have j1:=Ja (a8.out.any (by have:=b3.out.2.2;omega))
     go_upto_if 65 with fail
     go_cut [] (fun wx=>Hid (OpSt W6 K Xi M6 (0+pC d+1+4) wx (wM K.E jn i M7)))
     case first=>
      cases bb
      ·go_wp2_with (first|(go_at_call 58;go_must (refine j1.out.mono ?_;rintro e w9 ⟨y,HY,rfl,i1⟩;have q7:=Ja (i1.out.endN 1 0 [⟨(jn:Int),[y]⟩] (F (w9.heap.size+1) 1 1) (yF _ rfl) (yF _ rfl) (((Below.refl _ _).alloc (Je _) _).alloc Zs _) (pj (w:=w9) (xs:=[y]) (blk:=(jn:Int)) (fun x hx=>by rw[Jo] at hx;subst hx;exact HY.out.1) Zs (vG _ Zo (by have h1:=H5.out.2.2.2.1;have h2:=H5.out.2.2.2.2.1;have h3:=HZ.out.1;unfold MS.sz at *;omega))))))|(go_at_call 59;go_must (refine q7.out.mono ?_;rintro e w10 ⟨rfl,d1⟩)))
       go_meet;refine Ja ?_
       have e1:wM K.E jn i M7=(zJ K.E M7.tick).2.endB ⟨1,0,[⟨(jn:Nat),[(zJ K.E M7.tick).1]⟩]⟩:=by
        unfold wM;rw[if_neg (fun e=>by have:=m4.out.2 e;cases this)]
       rw[e1,HY.out.2];exact d1.out
      ·go_wp2_with (first|(go_at_call 58;go_must (refine j1.out.mono ?_;rintro e w9 ⟨y,HY,rfl,i1⟩))|(go_at_call 59;go_must (refine(i1.out.endB 4 y [] (L) (yF _ rfl) HY.out.1 (fun X _ _=>yE.nil)).mono ?_;rintro e w10 ⟨rfl,d1⟩)))
       go_meet;refine Ja ?_
       have e1:wM K.E jn i M7=(zJ K.E M7.tick).2.endB ⟨4,(zJ K.E M7.tick).1,[]⟩:=by
        unfold wM;rw[if_pos (m4.out.1 (by trivial))]
       rw[e1,HY.out.2];exact d1.out
     case rest=>
     obtain⟨X9,⟨s9,vv9,l9,a4⟩,k7⟩:=hcut.out.made;obtain⟨va9,vc9,m5⟩:=zG a4.vown;subst m5;have c7:=a4.c7;have f7:=a4.free 7;have r6:=lt_of_block a4.blk
     have c8:M3.vals.length<=(wM K.E jn i M7).vals.length:=by
      have h1:=dO hcut.out.gr.pre;rw[<-b3.out.2.1] at h1;have h2:({Mi with cur:=ti }:MS).vals=Mi.vals:=rfl;rw[h2,a2.out.vals] at h1;exact h1
     have s1:M3.vals.length<=vc9:=Jn c8 (zm a4.vown).1;have r2:vc9<=9223372036854775807:=by have:=(zm a4.vown).2;omega
     have l7:=a4.cut c8;have j0:=Ja (Jb l7 k7);clear a4 c8 l7 k7 hcut;go_wp2;go_roundw
     case rel=>
      have hq:=a2.out.next (w2:=wc.setCell ⟨K.pm,7,none⟩ (.slice va9 M3.vals.length vc9)) a3 m.out.1 (by have h1:=H5.out.2.2.2.1;have h2:=H2.out.2.2.2.2.2.1;omega) ⟨X9,?_,(m.out.2.1.2.trans j0.out.2).trans j0.out.1.2⟩
      ·exact⟨i+1,_,a3,by go_num,Ja hq⟩
      ·rw[q3.out,b3.out.2.1,n9.out];exact j0.out.1.1.at
     case measure=>have:=a3;simp[intOf];omega
    ·obtain rfl:i=j:=by omega
     have b5:¬(i:Int)<(i:Int):=Zo;have b4:=a2.out.rest;rw[show i-i=0 by omega] at b4
     have n3:∃b,Mi.f[jn]? =some b/\b.params=[(M2.next:Int)]:=by
      have b0:=H2.out.2.2.2.2.2.2.1;have s6:=H2.out.2.2.2.2.2.1
      have h0:(M2.block 1).f[jn]? =some (wJ M2.next 1):=by
       show(M2.f++ [wJ M2.next 1])[jn]? =_
       rw[Nc Zo,show jn-M2.f.length=0 by omega];rfl
      obtain⟨b1,h1,h2⟩:=(zv (M2.block 1) ⟨kd,x,xk tg i⟩).par _ _ h0;rw[H5.out.2.2.1] at h1;obtain⟨b2,h3,h4⟩:=a2.out.gr.par _ _ h1;exact⟨b2,h3,h4.trans (h2.trans rfl)⟩
     obtain⟨bj,g9,l8⟩:=n3;have b9:=u.goto jn;have c5:=u.c5;have f5:=u.free 5;have f2:=lt_of_block u.blk;have s5:jn<l.length:=by rw[u.len];exact(Jh.1 g9).1
     have p3:=u.flen;rw[<-u.len] at p3;have m:=Ja (Jb b6 (Jb b9 (Jb g9 (Jb l8 b4))));clear u b6 b9 g9 l8 b4;go_upto_region 22 with fail;generalize h7:wr.setCell ⟨K.pm,5,none⟩ (U jn)=W6 at *;obtain⟨g,c,pa,pc,l3,s7,p4,f3⟩:=m.out.2.1.1.parAt (i:=jn) m.out.2.2.1;have h0:=f3 0 (M2.next:Int) (by rw[m.out.2.2.2.1];rfl);obtain⟨bb,o,o6,h6,k0,h64⟩:=h0;rw[Uk] at k0;rw[m.out.2.2.2.1] at p4;obtain⟨va,vc,e6⟩:=zG m.out.2.1.1.vown;have a0:=m.out.2.1.1.vown;have c4:=m.out.2.1.1.c4;have c7:=m.out.2.1.1.c7;have f7:=m.out.2.1.1.free 7;have k1:=lt_of_block m.out.2.1.1.blk;have nb:=zC a0 m.out.2.1.1.blk (.inr Zd);rw[e6] at a0 c7 nb;rw[l3] at c4;subst o6;have n8:=Ja a0;have q2:=Ja e6;have r1:=Ja h64
     have s3:Mi.vals.length<=999999:=by
      have h1:=a2.out.vals;have h2:=H5.out.2.2.2.2.1;have h3:=HZ.out.1;have h4:M3.vals.length<=M3.sz:=by unfold MS.sz;omega
      have h5:pC d≥101:=by cases d<;>unfold pC<;>omega
      rw[h1];omega
     have q1:∀o,A (W6.alloc o) K.pm 7 (.slice va Mi.vals.length vc):=fun o=>(Oo (w:=W6) (Below.heap_alloc _ _ _ k1)).trans c7
     have q0:∀o,D (W6.alloc o) K.pm 7:=fun o=>(Qm (w:=W6) (Below.heap_alloc _ _ _ k1)).trans f7
     have s8:K.B<=W6.heap.size:=m.out.2.1.1.size;obtain⟨ij,g3,c3,c2,c1⟩:=info_parts Tryz.info_int;have HP:=Ja f3;clear a0 e6 h64 f3 l3 b5 c5 f5 f2 h7
     go_region_law (first|(refine step_append_lies _ (by rfl) (.tmp 97) (.tmp 109) _ (by rfl) K.B 3 ij (U 0) 1 8 Tryz.underlying22 g3 c3 c2 c1 rfl Zo (.slice va Mi.vals.length vc) Mi.vals.length (Mi.vals.map zN) (by rfl) ((n8.out.alloc _).drew) ⟨W6.heap.size,0,none⟩ 1 1 [U (M2.next:Int)] (by rfl) (by rfl) (Oi (cs:=#[U (M2.next:Int)]) (t:=3) (fr:=(0,0)) (heap_alloc_new W6 _)) (by simp[Value.oneCell']) Zo (by unfold maxLen;omega) Zo Zt (W6.heap.size+1) Zs ?_;intro gg n6 w3 j2 a1 d6 s0;have t4:=(a1.cell_far ⟨K.pm,7,none⟩ Zt (Ne.symm nb)).trans (q1 _);have t3:=(a1.frozen_far ⟨K.pm,7,none⟩ Zt (Ne.symm nb)).trans (q0 _)))
     all_goals go_wp2_with fail
     all_goals (first|go_end0|refine bodyPost_ret (results_none rfl _ _ _) rfl ?_)
     all_goals (
      have a5:=xN a1;rw[<-q2.out] at a5 d6
      have hP:=m.out.2.1.1.putV (vv':=F gg (Mi.vals.length+1) n6) (x:=(M2.next:Int)) a5 j2 (fun k e=>by
       have e2:gg=k:=by simpa[Value.ownBlock] using e
       subst e2;rcases d6 with e3|e3
       ·exact .inl e3
       ·right;omega) r1.out (by
       have h1:=a2.out.gr.sz;have h2:=H5.out.2.2.2.2.1;have h3:=H5.out.2.2.2.2.2;have h4:=HZ.out.1
       show Mi.sz+1<=1000000
       omega)
      refine⟨rfl,_,?_,(H5.out.1.trans m.out.1).trans (m.out.2.1.2.trans hP.2)⟩
      have e:xi K.E (zp K.E d) i M= {Mi with cur:=jn,vals:=Mi.vals++ [(M2.next:Int)]}:=by
       unfold xi;simp only;rw[H1.out.2.2,HX.out.2,H2.out.2.2.2.1,H2.out.2.2.2.2.1,H2.out.2.2.2.2.2.1,e4.out.1,H5.out.2.2.1,m.out.2.2.2.2];have e0:Mi.f.getD jn ⟨[],[],⟨0,0,[]⟩⟩=bj:=by rw[Jj,m.out.2.2.1];rfl
       show({Mi with cur:=jn,vals:=Mi.vals++ [((Mi.f.getD jn ⟨[],[],⟨0,0,[]⟩⟩).params).getD 0 0]}:MS)=_
       rw[e0,m.out.2.2.2.1];rfl
      rw[e]
      exact hP.1.at)
theorem iQ {α:Type}{x a b:α}(h:x∈ [a,b]):x=a∨x=b:=by simpa using h
theorem jq {a b:Int}(c:I64 a)(hb:I64 b):∀x∈ [a,b],I64 x:=fun x h=>by
 rcases iQ h with rfl|rfl
 ·exact c
 ·exact hb
theorem lit_two{x y:Int}(d:I64 x)(c:I64 y)(X:Nat->Prop)(g:∀k,X k->k<w.heap.size):
 vT (w.alloc (I #[U x,L,U y,L] 79)) X (F w.heap.size 2 2) [⟨x,[]⟩,⟨y,[]⟩]:=by
 refine qt (l:=[((⟨x,[]⟩:IEdge),L),((⟨y,[]⟩:IEdge),L)]) (e:=79) (zI Zs) (fun e=>by have:=g _ e;omega) (fun q hq=>?_) Zs;rcases iQ hq with rfl|rfl
 ·exact⟨d,yE.nil⟩
 ·exact⟨c,yE.nil⟩
theorem OpSt.goto(h:OpSt w0 K X0 M0 c w M)(k:Nat)(hk:k<M.f.length):OpSt w0 K X0 M0 c (w.setCell ⟨K.pm,5,none⟩ (U k)) {M with cur:=k }:=by
 obtain⟨X,⟨fv,vv,l,hi⟩,hs⟩:=h.made;exact⟨⟨X,(hi.goto k).1.at,hs.trans (hi.goto k).2⟩,h.gr.trans (vk M k hk),hk⟩
theorem OpSt.facts(h:OpSt w0 K X0 M0 c w M):∃X fv vv l,MkIn w K X M fv vv l/\Stp X0 w0 X w:=by
 obtain⟨X,⟨fv,vv,l,hi⟩,hs⟩:=h.made;exact⟨X,fv,vv,l,hi,hs⟩
theorem OpSt.push(h:OpSt w0 K X0 M0 c w M)(x:Int)(d:∃X',wW w' K X' {M with vals:=M.vals++ [x]}/\Stp X0 w0 X' w'):OpSt w0 K X0 M0 (c+1) w' {M with vals:=M.vals++ [x]}:=by
 refine⟨d,h.gr.trans ⟨Je _,?_,Je _,Je _,Qb _ _,fun e=>e,Og _,fun e=>e,xU.refl _⟩,h.cur⟩;unfold MS.sz;simp only[Jk,Ju];omega
theorem loop_any(hd:d<=5)(hP:sU d)(h:wW w K X M)(g3:M.cur<M.f.length)(hz:M.sz+(24+pC d)<=1000000):
 G 113 #[Q K.pm,U ((d:Int)+1)] w (yk K X w (tH K.E (zp K.E d) M) (.tuple #[])):=by
 have HA:=Ja (OpSt.start h g3);have u:=Ja (Jb hz hP);clear h g3 hz hP;go_enter Tryz.func113,Tryz.ntmps113;go_upto_region 1 with(first|(go_at_call 55;go_must (refine(HA.out.take 5 Zd Zd (by have:=u.out.1;omega)).mono ?_;rintro e w1 ⟨z,qz,Hz,rfl,j2⟩))|(go_at_call 114;go_must (refine(j2.out.num z Zo (by have:=u.out.1;omega)).mono ?_;rintro e w2 ⟨rfl,i8⟩)))
 generalize f9:((M.tick.next:Nat):Int)=n0 at *;have f4:I64 n0:=by rw[<-f9];exact j2.out.n64
 have HN:=Ja (Jb f9 (Jb f4 Hz.out));obtain⟨MA,g6⟩:∃MA,M.tick.num z=MA:=⟨_,rfl⟩
 rw[g6] at i8;have q9:=Ja g6;clear g6 f9 f4 j2 HA;go_upto_region 2 with(go_at_call 58;go_must (refine(i8.out.any (by have:=u.out.1;omega)).mono ?_;rintro e w3 ⟨x,HX,rfl,b7⟩))
 obtain⟨MB,g5⟩:∃MB,(zJ K.E MA).2=MB:=⟨_,rfl⟩
 rw[g5] at b7;obtain⟨tg,c8⟩:∃tg,MB.f.length=tg:=⟨_,rfl⟩
 obtain⟨b1,m3⟩:∃b1,tg+1=b1:=⟨_,rfl⟩
 obtain⟨b2,m2⟩:∃b2,tg+2=b2:=⟨_,rfl⟩
 have h7:=b7.out.block 2 (by have:=u.out.1;omega);rw[c8] at h7;have l0:=b7.out.flen;rw[c8] at l0;have o5:=Ja h7;have l:=Ja (Jb g5 (Jb c8 (Jb m3 m2)));clear h7 g5 c8 m3 m2 i8;go_upto_region 3 with(go_at_call 56;go_must (refine o5.out.mono ?_;rintro e w4 ⟨rfl,a4⟩))
 have d9:=a4.out.block 0 (by have:=u.out.1;omega);rw[yz,l.out.2.1,l.out.2.2.1] at d9;have o4:=Ja d9;clear d9 o5;go_upto_region 4 with(go_at_call 56;go_must (refine o4.out.mono ?_;rintro e w5 ⟨rfl,n7⟩))
 have h6:=n7.out.block 0 (by have:=u.out.1;omega);rw[yz,yz,l.out.2.1,show tg+1+1=tg+2 from rfl,l.out.2.2.2] at h6;have o3:=Ja h6;clear h6 o4;go_upto_region 5 with(go_at_call 56;go_must (refine o3.out.mono ?_;rintro e w6 ⟨rfl,n6⟩))
 have o1:=Ja (n6.out.endN 1 0 [⟨(tg:Int),[n0,x]⟩] (F (w6.heap.size+1) 1 1) (yF _ rfl) (yF _ rfl) (((Below.refl _ _).alloc (Je _) _).alloc Zs _) (pj (w:=w6) (xs:=[n0,x]) (blk:=(tg:Int)) (jq HN.out.2.1 HX.out.1) Zs (vG _ Zo Zo)));clear o3;go_upto_region 6 with(go_at_call 59;go_must (refine o1.out.mono ?_;rintro e w7 ⟨rfl,i2⟩))
 obtain⟨M2,b6⟩:∃M2,(((MB.block 2).block 0).block 0).endB ⟨1,0,[⟨(tg:Int),[n0,x]⟩]⟩=M2:=⟨_,rfl⟩
 rw[b6] at i2;have b0:M2.f.length=tg+3:=by rw[<-b6,(zv _ _).len,yz,yz,yz,l.out.2.1]
 have f2:∃b,M2.f[tg]? =some b/\b.params=[((MB.next:Nat):Int),((MB.next+1:Nat):Int)]:=by
  have h0:(MB.block 2).f[tg]? =some (wJ MB.next 2):=by
   show(MB.f++ [wJ MB.next 2])[tg]? =_
   rw[Nc (by have:=l.out.2.1;omega),l.out.2.1,Qy];rfl
  obtain⟨c1,k1,k2⟩:=(xM (MB.block 2) 0).par _ _ h0;obtain⟨c2,k3,k4⟩:=(xM ((MB.block 2).block 0) 0).par _ _ k1;obtain⟨c3,k5,k6⟩:=(zv (((MB.block 2).block 0).block 0) ⟨1,0,[⟨(tg:Int),[n0,x]⟩]⟩).par _ _ k3;rw[b6] at k5;exact⟨c3,k5,k6.trans (k4.trans (k2.trans rfl))⟩
 obtain⟨X7,s9,vv7,l7,d2,q4⟩:=i2.out.facts;have r2:=lt_of_block d2.blk;have c5:=d2.c5;have f5:=d2.free 5;have a0:=i2.out.goto tg (by rw[b0];omega);have p4:=b7.out.next;have d4:=b7.out.n64;have d3:I64 ((MB.next+1:Nat):Int):=vG _ Zo (by have:=a4.out.next;show((MB.next+1:Nat):Int)<=1000000;have e:(MB.block 2).next=MB.next+2:=rfl;rw[e] at this;omega);have H2:=Ja (Jb b6 (Jb b0 (Jb a0 (Jb f2 (Jb d4 d3)))));clear b6 b0 f2 d2 q4 a0 p4 d4 d3 o1 a4 n7 n6;go_upto_region 7 with fail;generalize s6:w7.setCell ⟨K.pm,5,none⟩ (U tg)=W8 at *;obtain⟨M3,d8⟩:∃M3:MS,{M2 with cur:=tg }=M3:=⟨_,rfl⟩
 have H3:=H2.out.2.2.1;rw[d8] at H3;obtain⟨bk,g4,m1⟩:=H2.out.2.2.2.1;obtain⟨X8,s8,vv8,l8,j,l1⟩:=H3.facts;have g2:M3.f=M2.f:=by rw[<-d8]
 obtain⟨g,c,pa,pc,l6,s4,m0,c9⟩:=j.parAt (i:=tg) (b:=bk) (by rw[g2];exact g4);rw[m1] at m0 c9;obtain⟨bb,o,l2,s5,a1,_⟩:=c9 0 _ rfl;obtain⟨bb2,o2,f3,_,b5,_⟩:=c9 1 _ rfl;rw[l2] at f3;cases f3;rw[Uk] at a1;obtain⟨va,vc,e9⟩:=zG j.vown;have a8:=j.vown;have c4:=j.c4;have c7:=j.c7;have f7:=j.free 7;have e4:=lt_of_block j.blk;have s3:tg<l8.length:=by rw[j.len,g2];exact(Jh.1 g4).1
 have q5:=j.flen;rw[<-j.len] at q5;have nb:=zC a8 j.blk (.inr Zd);rw[e9] at a8 c7 nb;rw[l6] at c4;subst l2;generalize f8:((MB.next:Nat):Int)=n1 at a1;generalize f6:((MB.next+1:Nat):Int)=n2 at b5;have p8:=Ja a8;have q7:=Ja e9
 have s1:M3.vals.length<=999999:=by
  have h1:=j.bnd;have h2:M3.vals.length<=M3.sz:=by unfold MS.sz;omega
  have h3:=H3.gr.sz;have h4:=u.out.1;omega
 have n5:∀o,A (W8.alloc o) K.pm 7 (.slice va M3.vals.length vc):=fun o=>(Oo (w:=W8) (Below.heap_alloc _ _ _ e4)).trans c7
 have m5:∀o,D (W8.alloc o) K.pm 7:=fun o=>(Qm (w:=W8) (Below.heap_alloc _ _ _ e4)).trans f7
 have d9:K.B<=W8.heap.size:=j.size;obtain⟨ij,q6,p0,o9,o6⟩:=info_parts Tryz.info_int;have f0:I64 n2:=by rw[<-f6];exact H2.out.2.2.2.2.2
 have c0:I64 n1:=by rw[<-f8];exact H2.out.2.2.2.2.1
 have HP:=Ja (Jb d8 (Jb H3 (Jb j (Jb l1 (Jb f8 (Jb f6 (Jb c0 f0)))))));clear a8 e9 c9 l6 d8 H3 j l1 f8 f6 f0 c0 g4 m1 g2;go_upto_region 8 with fail
 go_cut [] (fun wx=>Hid (OpSt w K X M (1+3+4+(1+2)+(1+0)+(1+0)+1) wx {M3 with vals:=M3.vals++ [n2]}))
 case first=>
  go_region_law (first|(refine step_append_lies _ (by rfl) (.tmp 54) (.tmp 66) _ (by rfl) K.B 3 ij (U 0) 1 8 Tryz.underlying22 q6 p0 o9 o6 rfl Zo (.slice va M3.vals.length vc) M3.vals.length (M3.vals.map zN) (by rfl) ((p8.out.alloc _).drew) ⟨W8.heap.size,0,none⟩ 1 1 [U n2] (by rfl) (by rfl) (Oi (cs:=#[U n2]) (t:=3) (fr:=(0,0)) (heap_alloc_new W8 _)) (by simp[Value.oneCell']) Zo (by unfold maxLen;omega) Zo Zt (W8.heap.size+1) Zs ?_;intro gg p5 w3 k9 b3 m4 r3;have t3:=(b3.cell_far ⟨K.pm,7,none⟩ Zt (Ne.symm nb)).trans (n5 _);have t2:=(b3.frozen_far ⟨K.pm,7,none⟩ Zt (Ne.symm nb)).trans (m5 _)))
  all_goals go_wp2_with fail
  all_goals go_meet
  all_goals (
   have l5:=xN b3;rw[<-q7.out] at l5 m4
   have hP:=HP.out.2.2.1.putV (vv':=F gg (M3.vals.length+1) p5) (x:=n2) l5 k9 (fun k e=>by
    have e2:gg=k:=by simpa[Value.ownBlock] using e
    subst e2;rcases m4 with e3|e3
    ·exact .inl e3
    ·right;omega) HP.out.2.2.2.2.2.2.2 (by
    have h3:=HP.out.2.1.gr.sz;have h4:=u.out.1
    omega)
   exact Ja (HP.out.2.1.push n2 ⟨_,hP.1.at,HP.out.2.2.2.1.trans hP.2⟩))
 case rest=>
 obtain⟨M4,d7⟩:∃M4:MS,{M3 with vals:=M3.vals++ [n2]}=M4:=⟨_,rfl⟩
 rw[d7] at hcut;have d1:M4.f.length=tg+3:=by rw[<-d7,<-HP.out.1];exact H2.out.2.1
 have b8:I64 (b1:Int)/\I64 (b2:Int):=by
  have h1:=l.out.2.2.1;have h2:=l.out.2.2.2;exact⟨vG _ Zo (by have:=hcut.out.flen;omega),vG _ Zo (by have:=hcut.out.flen;omega)⟩
 have o0:=Ja (hcut.out.endN 2 n1 [⟨(b1:Int),[]⟩,⟨(b2:Int),[]⟩] (F wc.heap.size 2 2) (yF _ rfl) HP.out.2.2.2.2.2.2.1 ((Below.refl _ _).alloc (Je _) _) (lit_two b8.1 b8.2));have a4:=Ja (Jb d7 d1);clear d7 d1 b8 c4 c7 f7 n5 m5 nb e4 a1 b5 m0;go_upto_region 10 with(go_at_call 59;go_must (refine o0.out.mono ?_;rintro e w9 ⟨rfl,i1⟩))
 obtain⟨M5,d6⟩:∃M5,M4.endB ⟨2,n1,[⟨(b1:Int),[]⟩,⟨(b2:Int),[]⟩]⟩=M5:=⟨_,rfl⟩
 rw[d6] at i1;have d0:M5.f.length=tg+3:=by rw[<-d6,(zv _ _).len];exact a4.out.2
 obtain⟨X9,s7,vv9,l9,a2,q3⟩:=i1.out.facts;obtain⟨va9,vc9,e5⟩:=zG a2.vown;have c7:=a2.c7;rw[e5] at c7;have p1:=lt_of_block a2.blk;have c5:=a2.c5;have f5:=a2.free 5;have a0:=i1.out.goto b1 (by have:=l.out.2.2.1;omega);have H5:=Ja (Jb d6 (Jb d0 a0));clear d6 d0 a2 q3 e5 a0 o0;go_upto_region 12 with fail;generalize p3:w9.setCell ⟨K.pm,5,none⟩ (U b1)=W10 at *;obtain⟨M6,h5⟩:∃M6:MS,{M5 with cur:=b1 }=M6:=⟨_,rfl⟩
 have h9:=H5.out.2.2;rw[h5] at h9;have h8:=Ja (Jb (h9.part u.out.2 (by have:=u.out.1;omega)) h5);have q2:IntKind.i64.wrap ((d:Int)+1-1)=(d:Int):=by rw[Om _ Zo];omega
 clear h5 h9 p3 c5 f5 c7 p1;go_upto_region 13 with(go_at_call 57;go_must (refine h8.out.1.mono ?_;rintro e w11 ⟨rfl,b4⟩))
 clear q2;obtain⟨M7,g9⟩:∃M7,zp K.E d M6=M7:=⟨_,rfl⟩
 rw[g9] at b4;have i0:=Ja (b4.out.num 1 Zo (by have:=u.out.1;omega));have h64:=b4.out.n64;generalize l4:((M7.next:Nat):Int)=n3 at i0 h64;have e1:=Ja (Jb g9 (Jb l4 h64));clear g9 l4 h64;go_upto_region 14 with(go_at_call 114;go_must (refine i0.out.mono ?_;rintro e w12 ⟨rfl,b9⟩))
 have a5:=b9.out.emit 6 n1 n3 0 (yF _ rfl) HP.out.2.2.2.2.2.2.1 e1.out.2.2 Zo (by have:=u.out.1;omega);have e6:sB (M7.num 1) 6=((M7.next+1:Nat):Int):=rfl;rw[e6] at a5;have e0:=b9.out.n64;have e7:(M7.num 1).next=M7.next+1:=rfl;rw[e7] at e0;generalize l3:((M7.next+1:Nat):Int)=n4 at a5 e0;have a5:=Ja a5;have n9:=Ja (Jb l3 e0);clear l3 e0 e6 e7 i0 b4;go_upto_region 15 with(go_at_call 132;go_must (refine a5.out.mono ?_;rintro e w13 ⟨rfl,j1⟩))
 obtain⟨M8,g8⟩:∃M8,(M7.num 1).emit ⟨6,0,n1,n3,0,[]⟩=M8:=⟨_,rfl⟩
 rw[g8] at j1;have n8:=Ja g8;clear g8 a5 b9;have q1:=Ja (j1.out.any (by have:=u.out.1;omega));go_upto_region 16 with(first|(go_at_call 58;go_must (refine q1.out.mono ?_;rintro e w14 ⟨y,HY,rfl,q0⟩;have r0:=Ja (q0.out.endN 1 0 [⟨(tg:Int),[n4,y]⟩] (F (w14.heap.size+1) 1 1) (yF _ rfl) (yF _ rfl) (((Below.refl _ _).alloc (Je _) _).alloc Zs _) (pj (w:=w14) (xs:=[n4,y]) (blk:=(tg:Int)) (jq n9.out.2 HY.out.1) Zs (vG _ Zo Zo)))))|(go_at_call 59;go_must (refine r0.out.mono ?_;rintro e w15 ⟨rfl,j0⟩)))
 obtain⟨M9,d5⟩:∃M9,(zJ K.E M8).2.endB ⟨1,0,[⟨(tg:Int),[n4,y]⟩]⟩=M9:=⟨_,rfl⟩
 rw[d5] at j0;obtain⟨X15,r6,vv15,s0,m,f1⟩:=j0.out.facts;obtain⟨va15,vc15,k0⟩:=zG m.vown;subst k0;have c7:=m.c7;have f7:=m.free 7;have k7:=lt_of_block m.blk
 have g1:GrowP (0+pC d+3+3+4) M5 M9:=by
  have hE:=m.at.alt;have h1:=(vk M5 b1 (by have h1:=l.out.2.2.1;have h2:=H5.out.2.1;omega))
  rw[h8.out.2] at h1;have h2:=h1.trans (xw K.E hE d M6);rw[e1.out.1] at h2;have h3:=(h2.trans (wT M7 1).p).trans (yB (M7.num 1) ⟨6,0,n1,n3,0,[]⟩).p;rw[n8.out] at h3;have h4:=(h3.trans (yU K.E M8).p).trans (zv (zJ K.E M8).2 ⟨1,0,[⟨(tg:Int),[n4,y]⟩]⟩).p;rw[d5] at h4;exact h4
 have g0:M5.vals.length<=M9.vals.length:=dO g1.pre;have s2:M5.vals.length<=vc15:=Jn g0 (zm m.vown).1;have r4:vc15<=9223372036854775807:=by have:=(zm m.vown).2;omega
 have a3:=m.cut g0;have c5:=a3.1.c5;have f5:=a3.1.free 5;have a0:=a3.1.goto b2;have a6:=Ja (Jb a3.1 (Jb a3.2 (Jb a0 (Jb f1 (Jb d5 g1)))));clear m g0 a3 f1 d5 g1 a0;go_upto_region 17 with fail;generalize r5:w15.setCell ⟨K.pm,7,none⟩ (.slice va15 M5.vals.length vc15)=W16 at *;have r1:=lt_of_block a6.out.1.blk;clear c7 f7 k7;go_wp2
 first|go_end0|refine bodyPost_ret (results_none rfl _ _ _) rfl ?_
 refine⟨rfl,X15,?_,(a6.out.2.2.2.1.trans a6.out.2.1).trans a6.out.2.2.1.2⟩
 have e:tH K.E (zp K.E d) M= {M9 with vals:=M9.vals.take M5.vals.length,cur:=b2 }:=by
  unfold tH;simp only;have k1:((M.next:Nat):Int)=n0:=HN.out.1;have k4:({M2 with cur:=tg,vals:=M2.vals++ [n2]}:MS)=M4:=by rw[<-a4.out.1,<-HP.out.1]
  rw[HN.out.2.2,q9.out,HX.out.2,l.out.1,l.out.2.1,k1,H2.out.1,HP.out.2.2.2.2.2.1,k4,HP.out.2.2.2.2.1,l.out.2.2.1,l.out.2.2.2,H5.out.1,h8.out.2,e1.out.1,e1.out.2.1,n9.out.1,n8.out,HY.out.2,a6.out.2.2.2.2.1]
 rw[e];exact a6.out.2.2.1.1.at
theorem OpSt.op(h:OpSt w0 K X0 M0 c w M)(i:M0.sz+(c+20)<=1000000):
 G 111 #[Q K.pm] w fun e w'=>e=.returned (.tuple #[])/\Hid (OpSt w0 K X0 M0 (c+20) w' (xK K.E M)):=by
 obtain⟨X,hm,hs⟩:=h.made;refine(op_any hm h.cur (by have:=h.gr.sz;omega)).mono ?_;rintro e w' ⟨rfl,X',g,d⟩;have hg:=pX K.E hm.alt M;exact⟨rfl,Ja ⟨⟨X',g,hs.trans d⟩,h.gr.trans hg.p,by rw[hg.cur,hg.len];exact h.cur⟩⟩
theorem OpSt.mono{c':Nat}(h:OpSt w0 K X0 M0 c w M)(d:c<=c'):OpSt w0 K X0 M0 c' w M:=⟨h.made,h.gr.mono d,h.cur⟩
theorem sU.of(h:∀(w:World) (K:MKC) (X:Nat->Prop) (M:MS),OpSt w K X M 0 w M->M.sz+pC d<=1000000->G 57 #[Q K.pm,U d] w (yk K X w (zp K.E d M) (.tuple #[]))):sU d:=
 fun w K X M hm hc hz=>h w K X M (OpSt.start hm hc) hz
theorem OpSt.choice(h:OpSt w0 K X0 M0 c w M)(m:d<=5)(o:sU d)(n:Nat)(nI:Int)(j:(n:Int)=nI)(k:2<=n)(g:n<=4)(t:M0.sz+(c+(31+4*pC d))<=1000000):
 G 112 #[Q K.pm,U ((d:Int)+1),U nI] w fun e w'=>e=.returned (.tuple #[])/\Hid (OpSt w0 K X0 M0 (c+(31+4*pC d)) w' (xi K.E (zp K.E d) n M)):=by
 obtain⟨X,hm,hs⟩:=h.made;rw[<-j];refine(lH m o hm h.cur k g (by have:=h.gr.sz;omega)).mono ?_;rintro e w' ⟨rfl,X',l,i⟩;have hg:=uU K.E _ _ (xw K.E hm.alt d) n g M;exact⟨rfl,Ja ⟨⟨X',l,hs.trans i⟩,h.gr.trans hg,hg.cur h.cur⟩⟩
theorem OpSt.loop(h:OpSt w0 K X0 M0 c w M)(j:d<=5)(k:sU d)(l:M0.sz+(c+(24+pC d))<=1000000):
 G 113 #[Q K.pm,U ((d:Int)+1)] w fun e w'=>e=.returned (.tuple #[])/\Hid (OpSt w0 K X0 M0 (c+(24+pC d)) w' (tH K.E (zp K.E d) M)):=by
 obtain⟨X,hm,hs⟩:=h.made;refine(loop_any j k hm h.cur (by have:=h.gr.sz;omega)).mono ?_;rintro e w' ⟨rfl,X',i,g⟩;have hg:=qg K.E _ _ (xw K.E hm.alt d) M;exact⟨rfl,Ja ⟨⟨X',i,hs.trans g⟩,h.gr.trans hg,hg.cur h.cur⟩⟩
theorem OpSt.counted(h:OpSt w0 K X0 M0 c w M)(hp:M0.pos<M.pos)(hl:M.left=M0.left)(d:6<=M0.left+M0.pos):OpSt w0 K X0 M0 c (w.setCell ⟨K.pm,8,none⟩ (U (M.left-1))) {M with left:=M.left-1 }:=by
 obtain⟨X,⟨fv,vv,l,hi⟩,hs⟩:=h.made;have h1:6<=(M.left-1)+(M.pos:Int):=Zo;have h2:=hi.setC 8 (U (M.left-1)) {M with left:=M.left-1 } vv rfl rfl hi.vown hi.v64 hi.xv hi.bnd ⟨h1,by have:=hi.lft;show M.left-1<=6;omega⟩;have g:=h.gr;exact⟨⟨X,h2.1.at,hs.trans h2.2⟩,⟨g.pos,g.sz,g.len,g.nxt,g.pre,g.cur,by have:=g.left;show M.left-1<=_;omega,fun _=>h1,g.par⟩,h.cur⟩
theorem km:sU 0:=sU.of fun w K X M h hz=>by
 have d:=Ja (Jb h hz);clear h hz
 show G 57 #[Q K.pm,U 0] w _
 go_enter Tryz.func57,Tryz.ntmps57;go_wp2_with (go_at_call 55;go_must (refine(d.out.1.take 5 Zd Zd (by have:=d.out.2;unfold pC at this;omega)).mono ?_;rintro e w1 ⟨t,ht,o,rfl,m⟩))
 go_loopw [4] (fun kv wx=>∃(kI:Int) (Mj:MS),-1<=kI/\kI<=(t:Int)/\kv=U kI/\Hid (OpSt w K X M (1+20*((t:Int)-kI).toNat) wx Mj/\qY K.E (t+1) M.tick=qY K.E (kI+1).toNat Mj/\Mj.left=M.left/\M.pos<Mj.pos)) (fun kv _=>(intOf kv+1).toNat)
 case atStart=>exact⟨_,_,by omega,by omega,rfl,Ja ⟨m.out.mono Zo,by congr 1,rfl,Nat.lt_succ_self _⟩⟩
 case round=>
  obtain⟨kI,Mj,a3,a2,rfl,c⟩:=hrel
  by_cases h0:0<=kI
  ·have u:=Ja (c.out.1.op (by have:=d.out.2;unfold pC at this;omega));go_wp2_with (go_at_call 111;go_must (refine u.out.mono ?_;rintro e w2 ⟨rfl,k⟩))
   go_roundw
   case rel=>
    have hg:=pX K.E (by obtain⟨X',hm,_⟩:=c.out.1.made;exact hm.alt) Mj;refine⟨kI-1,_,by omega,by omega,rfl,Ja ⟨k.out.mono Zo,?_,hg.left.trans c.out.2.2.1,Jy c.out.2.2.2 hg.pos⟩⟩;rw[c.out.2.1,show(kI+1).toNat=(kI-1+1).toNat+1 by omega];rfl
   case measure=>simp[intOf];omega
  ·obtain rfl:kI=-1:=by omega
   obtain⟨X',fv,vv,l,hi,hs⟩:=c.out.1.facts
   have g:6<=M.left+M.pos:=by
    obtain⟨_,_,_,_,j,_⟩:=d.out.1.facts;exact j.lft.1
   have i:=c.out.1.counted c.out.2.2.2 c.out.2.2.1 g;have c8:=hi.c8;have f8:=hi.free 8;have a0:=lt_of_block hi.blk;have a1:=hi.lft;have a4:(Mj.pos:Int)<=1000000:=by have:=hi.bnd;unfold MS.sz at this;omega
   have y:IntKind.i64.wrap (Mj.left-1)=Mj.left-1:=Om _ Zo;have x:=Ja i;clear hi hs i g;go_wp2
   first|go_end0|refine bodyPost_ret (results_none rfl _ _ _) rfl ?_
   have e:zp K.E 0 M= {Mj with left:=Mj.left-1 }:=by
    show tR K.E M=_
    unfold tR;simp only;rw[o.out,c.out.2.1];rfl
   rw[e];exact x.out.ret
theorem jB(hd:d<=5)(hP:sU d):sU (d+1):=sU.of fun w K X M h hz=>by
 have a2:pC (d+1)=134+4*pC d:=rfl;rw[a2] at hz;have i:=Ja (Jb h hz);have a0:=Ja hP;clear h hz hP a2;have c3:¬((d:Int)+1<1):=Zo;have c4:decide ((d:Int)+1<1)=false:=by rw[decide_eq_false_iff_not];omega
 rw[show((d+1:Nat):Int)=(d:Int)+1 from Int.natCast_succ d];go_enter Tryz.func57,Tryz.ntmps57;go_wp2_with (go_at_call 55;go_must (refine(i.out.1.take 5 Zd Zd (by have:=i.out.2;omega)).mono ?_;rintro e w1 ⟨t,ht,HT,rfl,b8⟩))
 go_loopw [4] (fun kv wx=>∃(kI:Int) (Mj:MS),-1<=kI/\kI<=(t:Int)/\kv=U kI/\Hid (OpSt w K X M (1+20*((t:Int)-kI).toNat) wx Mj/\qY K.E (t+1) M.tick=qY K.E (kI+1).toNat Mj/\Mj.left=M.left/\M.pos<Mj.pos)) (fun kv _=>(intOf kv+1).toNat)
 case atStart=>exact⟨_,_,by omega,by omega,rfl,Ja ⟨b8.out.mono Zo,by congr 1,rfl,Nat.lt_succ_self _⟩⟩
 case round=>
  obtain⟨kI,Mj,c2,c1,rfl,m⟩:=hrel
  by_cases h0:0<=kI
  ·have HO:=Ja (m.out.1.op (by have:=i.out.2;omega));go_wp2_with (go_at_call 111;go_must (refine HO.out.mono ?_;rintro e w2 ⟨rfl,b7⟩))
   go_roundw
   case rel=>
    have hg:=pX K.E (by obtain⟨X',hm,_⟩:=m.out.1.made;exact hm.alt) Mj;refine⟨kI-1,_,by omega,by omega,rfl,Ja ⟨b7.out.mono Zo,?_,hg.left.trans m.out.2.2.1,Jy m.out.2.2.2 hg.pos⟩⟩;rw[m.out.2.1,show(kI+1).toNat=(kI-1+1).toNat+1 by omega];rfl
   case measure=>simp[intOf];omega
  ·obtain rfl:kI=-1:=by omega
   obtain⟨X',fv,vv,l,hi,hs⟩:=m.out.1.facts
   have a6:6<=M.left+M.pos:=by
    obtain⟨_,_,_,_,b1,_⟩:=i.out.1.facts;exact b1.lft.1
   have a1:=m.out.1.counted m.out.2.2.2 m.out.2.2.1 a6;have c8:=hi.c8;have f8:=hi.free 8;have c0:=lt_of_block hi.blk;have b0:=hi.lft;have b2:(Mj.pos:Int)<=1000000:=by have:=hi.bnd;unfold MS.sz at this;omega
   have a8:IntKind.i64.wrap (Mj.left-1)=Mj.left-1:=Om _ Zo;obtain⟨M2,x⟩:∃M2:MS,{Mj with left:=Mj.left-1 }=M2:=⟨_,rfl⟩
   rw[x] at a1
   have e2:tR K.E M=M2:=by
    rw[<-x];unfold tR;simp only;rw[HT.out,m.out.2.1];rfl
   have c5:=World.cell?_setCell_same _ _ (U (Mj.left-1)) c8;have a5:Mj.left-1=M2.left:=by rw[<-x]
   have o:=Ja (Jb (a1.mono (show 1+20*((t:Int) - -1).toNat<=101 by omega)) (Jb e2 a5));clear hi hs a1 a6 x e2 a5;go_upto_region 5 with fail;generalize b3:wr.setCell ⟨K.pm,8,none⟩ (U (Mj.left-1))=W2 at *;generalize hL:Mj.left-1=L at *;clear c8 f8 a8 b0 b2 b3 hL m
   by_cases y:L<1
   ·have b4:decide (L<1)=true:=by rw[decide_eq_true_iff];exact y
    go_wp2
    first|go_end0|refine bodyPost_ret (results_none rfl _ _ _) rfl ?_
    have e:zp K.E (d+1) M=M2:=by
     unfold zp;simp only;rw[o.out.2.1,if_pos (by rw[<-o.out.2.2];exact y)]
    rw[e];exact o.out.1.ret
   ·have b4:decide (L<1)=false:=by rw[decide_eq_false_iff_not];exact y
    have a4:zp K.E (d+1) M=if tkV K.E M2 5=1∨tkV K.E M2 5=2 then xi K.E (zp K.E d) 2 M2.tick else if tkV K.E M2 5=3 then tH K.E (zp K.E d) M2.tick else if tkV K.E M2 5=4 then xi K.E (zp K.E d) (2+tkV K.E M2.tick 3) M2.tick.tick else M2.tick:=by
     conv=>lhs;unfold zp
     simp only;rw[o.out.2.1,if_neg (by rw[<-o.out.2.2];exact y)]
    have u:=Ja a4;clear a4;have a3:=aaE K.E M2 (n:=5) Zo;obtain⟨k,hk⟩:∃k,tkV K.E M2 5=k:=⟨_,rfl⟩
    rw[hk] at a3;have c:=Ja hk;clear hk
    match k,a3,c with
    |0,_,c=>
     go_wp2_with (go_at_call 55;go_must (refine(o.out.1.takeK 5 0 0 rfl c.out Zd Zd (by have:=i.out.2;omega)).mono ?_;rintro e w3 ⟨rfl,g⟩))
     first|go_end0|refine bodyPost_ret (results_none rfl _ _ _) rfl ?_
     rw[u.out,c.out]
     exact g.out.ret
    |1,_,c=>
     go_wp2_with (first|(go_at_call 55;go_must (refine(o.out.1.takeK 5 1 1 rfl c.out Zd Zd (by have:=i.out.2;omega)).mono ?_;rintro e w3 ⟨rfl,g⟩))|(go_at_call 112;go_must (refine(g.out.choice hd a0.out 2 2 rfl Zd Zd (by have:=i.out.2;omega)).mono ?_;rintro e w4 ⟨rfl,j⟩)))
     first|go_end0|refine bodyPost_ret (results_none rfl _ _ _) rfl ?_
     rw[u.out,c.out]
     exact j.out.ret
    |2,_,c=>
     go_wp2_with (first|(go_at_call 55;go_must (refine(o.out.1.takeK 5 2 2 rfl c.out Zd Zd (by have:=i.out.2;omega)).mono ?_;rintro e w3 ⟨rfl,g⟩))|(go_at_call 112;go_must (refine(g.out.choice hd a0.out 2 2 rfl Zd Zd (by have:=i.out.2;omega)).mono ?_;rintro e w4 ⟨rfl,j⟩)))
     first|go_end0|refine bodyPost_ret (results_none rfl _ _ _) rfl ?_
     rw[u.out,c.out]
     exact j.out.ret
    |3,_,c=>
     go_wp2_with (first|(go_at_call 55;go_must (refine(o.out.1.takeK 5 3 3 rfl c.out Zd Zd (by have:=i.out.2;omega)).mono ?_;rintro e w3 ⟨rfl,g⟩))|(go_at_call 113;go_must (refine(g.out.loop hd a0.out (by have:=i.out.2;omega)).mono ?_;rintro e w4 ⟨rfl,j⟩)))
     first|go_end0|refine bodyPost_ret (results_none rfl _ _ _) rfl ?_
     rw[u.out,c.out]
     exact j.out.ret
    |4,_,c=>
     have HG:=Ja o.out.1;go_wp2_with (first|(go_at_call 55;refine(HG.out.takeK 5 4 4 rfl c.out Zd Zd (by have:=i.out.2;omega)).mono ?_;clear HG;rintro e w3 ⟨rfl,g⟩)|(go_at_call 55;refine(g.out.take 3 Zd Zd (by have:=i.out.2;omega)).mono ?_;clear g;rintro e w4 ⟨z,b9,b5,rfl,j⟩)|(go_at_call 112;refine(j.out.choice hd a0.out (2+z) (2+(z:Int)) Zo Zo Zo (by have:=i.out.2;omega)).mono ?_;rintro e w5 ⟨rfl,b6⟩))
     first|go_end0|refine bodyPost_ret (results_none rfl _ _ _) rfl ?_
     rw[u.out,c.out,b5.out]
     exact b6.out.ret
    |k+5,h,_=>exact absurd h Zo
theorem pW:∀d,d<=5->sU d
 |0,_=>km
 |d+1,h=>jB Zo (pW d Zo)
def KnS (f:List IBlk)(v:Int)(i:Nat)(k:Int):Prop:=∃(b:Nat) (a:Int),fB f v b a/\Dom (GE (zy f)) b i/\(b=i->a<k)
structure FnOk (p:IProg) (f:List IBlk):Prop where
 ne:f≠ []
 ops:∀b∈f,∀o∈b.ops,opF p o=true
 term:∀b∈f,mb f b.term=true
 nd:(aaI f).Nodup
 rng:∀v∈aaI f,0<=v/\v<=65535
 reach:∀i,i<f.length->Reach (GE (zy f)) i
 use:∀(i:Nat) (b:IBlk),f[i]? =some b->∀(j:Nat) (o:IOp),b.ops[j]? =some o->∀v∈rR o,KnS f v i j
 tuse:∀(i:Nat) (b:IBlk),f[i]? =some b->∀v∈mE b.term,KnS f v i b.ops.length
theorem ack.fn {p:IProg}{f:List IBlk}{next:Nat}{pl:List Nat}(h:ack p f next pl)(g:next<=65536):FnOk p f:=by
 have hk:∀ {v:Int} {i:Nat} {k:Int},Kn f pl v i k->KnS f v i k:=fun⟨b,a,h1,h2,h3⟩=>⟨b,a,h1,h.dom h2,h3⟩
 have d:=h;obtain⟨cur,vals,c⟩:=d;exact⟨h.ne,h.ops,h.term,c.nd,fun v hv=>by have:=c.rng v hv;omega,fun i hi=>h.reach hi,fun i b hb j o ho v hv=>hk ((c.ops i b hb j o ho).2 v hv),fun i b hb v hv=>hk ((c.term i b hb (fun e=>e)).2.2 v hv)⟩
section
variable {p:IProg} {f:List IBlk} (h:FnOk p f)
include h
theorem FnOk.valid:zw (zy f):=nO h.ne h.term
theorem FnOk.shapes:∃d,wg p f=some d/\∀v i k,fB f v i k->d.1 v=some (i:Int)/\d.2 v=some k:=by
 have c:DOk ((fun _=>none,fun _=>none):wO) [] (fun _ _ _=>False):=⟨fun v=>by simp,fun v i k e=>e.elim⟩
 obtain⟨d,h1,h2⟩:=DOk.blks (p:=p) (blocks:=f) f 0 _ _ _ c (by rw[Op];exact h.nd) h.rng (fun b hb=>⟨h.ops b hb,h.term b hb⟩);exact⟨d,h1,fun v i k hd=>h2.val v i k (.inr ⟨i,by rw[Ng],hd⟩)⟩
theorem FnOk.known{d:wO}(g:∀v i k,fB f v i k->d.1 v=some (i:Int)/\d.2 v=some k){v:Int}{k:Int}(hi:i<f.length)(hk:KnS f v i k):yy d (zy f) i k v=true:=by
 obtain⟨b,a,h1,h2,h3⟩:=hk;obtain⟨e1,e2⟩:=g v b a h1;have hb:b<f.length:=by obtain⟨x,c,_⟩:=h1;exact(Jh.1 c).1
 unfold yy;rw[e1,e2];simp only[Jm,Bool.not_eq_true',Ni];refine⟨?_,(yO h.valid b i).2 ⟨h.reach b hb,h.reach i hi,h2⟩⟩;rw[Bool.and_eq_false_iff]
 by_cases e:b=i
 ·right;have:=h3 e;simp;omega
 ·left;simp;omega
theorem FnOk.rest {d:wO}(g:∀v i k,fB f v i k->d.1 v=some (i:Int)/\d.2 v=some k):iM f d=true:=by
 unfold iM;rw[Jm,decide_eq_true_eq];refine⟨?_,?_⟩
 ·rw[acd h.valid (fun i hi=>h.reach i (by rw[xu] at hi;exact hi)),xu]
 ·refine fR f 0 (fun q b hb=>?_);rw[Ng];have c:=(Jh.1 hb).1;unfold aaC;rw[Jm];refine⟨gM b.ops 0 (fun j o ho=>?_),?_⟩
  ·rw[Oe];intro v hv;rw[Ng];exact h.known g c (h.use q b hb j o ho v hv)
  ·rw[Oe];intro v hv;exact h.known g c (h.tuse q b hb v hv)
theorem FnOk.function {n:Nat}(hf:p.funcs[n]? =some f){b0:IBlk}(c:f[0]? =some b0)(g:(b0.params.length:Int)=p.args.getD n 0):yi p n=true:=by
 obtain⟨d,h1,h2⟩:=h.shapes;have h3:=h.rest h2;unfold yi;rw[Jj,hf,Ot]
 match f,h1,h3,c with
 | [],_,_,c=>simp at c
 |b::bs,h1,h3,c=>
  cases c;simp only[Jm,decide_eq_true_eq];refine⟨g,?_⟩;rw[h1];exact h3
end
theorem acF(s:List Int){f:List IBlk}(hk:(uR s).funcs[k]? =some f):f=[]∨(FnOk (uR s) f/\(∃b0,f[0]? =some b0/\(b0.params.length:Int)=(uR s).args.getD k 0)/\∀v∈aaI f,v<=5000):=by
 have c:=(Jh.1 hk).1;rw[qA] at c;rcases kz s c with⟨h,_⟩|h
 ·rw[hk] at h;cases h;exact .inl rfl
 ·rw[hk] at h;cases h;obtain⟨pl,h1,b0,h2,h3⟩:=gJ (gi s k) (zg s k).2;have d:=lz s k c
  refine .inr ⟨h1.fn (by unfold MS.sz at d;omega),⟨b0,h2,?_⟩,fun v hv=>by
   obtain⟨_,_,g⟩:=h1;have l:=g.rng v hv;have i:=jm (E:=xC s k) (xy s _) (zg s k).2;have j:(zg s k).2+1<=(xR (xC s k) (zg s k).2).pos:=(rx (E:=xC s k) (xy s _) (zg s k).2).pos;unfold MS.sz at i
   omega⟩
  rw[h3]
  show(((yS s (mdN s)).getD k 0).toNat:Int)=(yS s (mdN s)).getD k 0
  have:=gP s k;omega
end Go.Proofs.YtoahcpkibpomcaaGreat
