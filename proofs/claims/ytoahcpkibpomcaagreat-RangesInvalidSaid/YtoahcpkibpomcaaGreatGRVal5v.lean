/- Part of a proof. -/
import Derived.Test.YtoahcpkibpomcaaGreatGZw4v
import Derived.Test.YtoahcpkibpomcaaGreatRVal2v
set_option linter.all false
set_option maxHeartbeats 3200000
set_option maxRecDepth 100000
namespace Go.Proofs.YtoahcpkibpomcaaGreat
open Go.RowKit
def aam (o:IOp)(av:Value):Value:=.agg #[I o.code,I o.res,I o.a,I o.b,U (o.n:Int),av]
end Go.Proofs.YtoahcpkibpomcaaGreat
set_option maxRecDepth 8000
namespace Go.Proofs.YtoahcpkibpomcaaGreat
open Go.RowKit
theorem UpN.lt {c:List Int}{f:Int->Int}{t:Int}:∀ {k a a':Nat},UpN c f t k a a'->a<c.length->a'<c.length
 |0,_,_,h,ha=>by rw[h.2];exact ha
 |k+1,_,_,h,_=>by obtain⟨_,a1,h1,_,h2⟩:=h;exact UpN.lt h2 h1
theorem nj {w:World}{b n:Nat}{f:Int->Int}(h:ud w b n f){x:Int}(c:-9223372036854775808<=x/\x<=9223372036854775807)(k:Nat):
 (Instr.lookup 171 (.map (some b)) (I x) false).run Tryz.prog (w.drewN k)=.ok (I (f x)) (w.drewN k):=
 (ud.look (h.same (w':=w.drewN k) rfl) c).1
theorem meet_any (w:World)(Bv Bi bv bm nm bi:Nat)(f:Int->Int)(c:List Int)(hn:c.length<=2000000)
 (c1:A w Bv 0 (Y bv)) (c2:A w bv 1 (.map (some bm))) (hm:ud w bm nm f)
 (c3:A w Bi 0 (F bi c.length c.length)) (hi:Q w bi (c.map (Value.int .i64)).toArray 3)
 (k0 a b r:Nat) (ha:a<c.length) (hb:b<c.length) (hM:qZ c f k0 a b r):
 G 146 #[I a,I b,Y Bv,Y Bi] w fun e w'=>e=.returned (I r)/\∃n,w'=w.drewN n:=by
 have m:=Ja hM;have HI:=Ja hi;have i:=Ja hm;clear hM hi hm;go_enter Tryz.func146,Tryz.ntmps146;go_wp2
 go_loopg [0,1] k0 (fun k x y wr=>∃a b:Nat,a<c.length/\b<c.length/\x=I a/\y=I b/\Hid (qZ c f k a b r)/\∃n,wr=w.drewN n)
 case atStart=>exact⟨a,b,ha,hb,rfl,rfl,m,0,rfl⟩
 case round=>
  clear ha hb m a b;obtain⟨a,b,ha,hb,rfl,rfl,m,n,rfl⟩:=hrel
  cases gk with
  |zero=>
   obtain⟨rfl,rfl⟩:=m.out;have a0:((r:Int) !=(r:Int))=false:=by simp
   go_wp2;go_ret
   exact⟨rfl,n,rfl⟩
  |succ k=>
   obtain⟨a2,j,a',h,j',b',o,hM⟩:=m.out;have a0:((a:Int) !=(b:Int))=true:=by simp;omega
   have l:=Ja h;have g:=Ja o;have a3:=Ja hM;have u:=UpN.lt h ha;have t:=UpN.lt o hb;clear a2 h o hM m;go_wp2
   go_loopg [0] j (fun j x wr=>∃a:Nat,a<c.length/\x=I a/\Hid (UpN c f (f b) j a a')/\∃n,wr=w.drewN n)
   case atStart=>exact⟨a,ha,rfl,l,n,rfl⟩
   case round=>
    clear l;obtain⟨x,a7,rfl,l,n2,rfl⟩:=hrel;have la:=nj i.out (x:=(x:Int)) Zo;have lb:=nj i.out (x:=(b:Int)) Zo
    cases gk with
    |zero=>
     obtain⟨ht,rfl⟩:=l.out;have d:decide (f b<f a')=false:=by simpa using ht
     go_wp2;go_quiet (fail);go_wp2
     go_loopg [1] j' (fun j y wr=>∃y0:Nat,y0<c.length/\y=I y0/\Hid (UpN c f (f a') j y0 b')/\∃n,wr=w.drewN n)
     case atStart=>exact⟨b,hb,rfl,g,_,World.drewN_drewN _ _ _⟩
     case round=>
      clear g d;obtain⟨y,a6,rfl,g,n3,rfl⟩:=hrel;have lc:=nj i.out (x:=(y:Int)) Zo
      cases gk with
      |zero=>
       obtain⟨ht,rfl⟩:=g.out;have d:decide (f a'<f b')=false:=by simpa using ht
       go_wp2;go_quiet (fail);go_wp2
       go_roundg k
       case measure=>omega
       case rel=>exact⟨a',b',u,t,rfl,rfl,a3,_,World.drewN_drewN _ _ _⟩
      |succ j2=>
       obtain⟨ht,y1,h1,hy,h⟩:=g.out;have d:decide (f a'<f y)=true:=by simpa using ht
       have cy:A w bi y (I y1):=zA HI.out (by simp[hy]);have a4:(y:Int)<c.length:=Zo;have q:=Ja h;clear hy h g;go_wp2;go_quiet (fail);go_wp2
       go_roundg j2
       case measure=>omega
       case rel=>exact⟨y1,h1,rfl,q,_,rfl⟩
    |succ j2=>
     obtain⟨ht,a1,h1,hx,h⟩:=l.out;have d:decide (f b<f x)=true:=by simpa using ht
     have cx:A w bi x (I a1):=zA HI.out (by simp[hx]);have a5:(x:Int)<c.length:=Zo;have q:=Ja h;clear hx h l;go_wp2;go_quiet (fail);go_wp2
     go_roundg j2
     case measure=>omega
     case rel=>exact⟨a1,h1,rfl,q,_,rfl⟩
theorem Tryz.info_irblock:(Tryz.prog.info? 84).map (fun i=>(i.zero,i.size,i.bytes))=some (some (.agg #[.slice none 0 0,.slice none 0 0,I 0,I 0,.slice none 0 0]),5,88):=by kernel_rfl
def iZ (next i:Nat):List Int:=(List.range i).map fun k=>((next+k:Nat):Int)
theorem jE (next i:Nat):iZ next (i+1)=iZ next i++ [((next+i:Nat):Int)]:=by unfold iZ;rw[List.range_succ,Js];rfl
theorem parL_len (next i:Nat):(iZ next i).length=i:=by unfold iZ;simp
structure BlkMid (w:World) (K:MKC) (M:MS) (fv vv:Value) (pv:Value) (i:Nat) (wx:World):Prop where
 box:wx.heap[w.heap.size]? =some (.cells #[pv,.slice none 0 0,.int .i64 0,.int .i64 0,.slice none 0 0] 84 (0,0))
 own:wx.ownsRow (w.heap.size+1) 3 1 pv i ((iZ M.next i).map zN)
 size:w.heap.size+1<=wx.heap.size
 rest:wx.os=w.os/\wx.tape=w.tape/\wx.output=w.output
 kept:∀k,k<w.heap.size->k≠K.pm->wx.heap[k]? =w.heap[k]?
 pm:wx.heap[K.pm]? =some (.cells (uC K {M with next:=M.next+i } fv vv) 128 (0,0))
theorem BlkMid.mk' {w wx:World}{K:MKC}{X:Nat->Prop}{M:MS}{fv vv pv:Value}{l:List BM}{i:Nat}(h:MkIn w K X M fv vv l)(hm:BlkMid w K M fv vv pv i wx)(c:M.sz+i<=1000000):MkIn wx K X {M with next:=M.next+i } fv vv l/\Stp X w X wx:=
 h.only (by have:=hm.size;omega) hm.rest hm.kept hm.pm rfl rfl (by unfold MS.sz at *;simp only at *;omega) h.lft
theorem BlkMid.start {w:World}{K:MKC}{X:Nat->Prop}{M:MS}{fv vv:Value}{l:List BM}(h:MkIn w K X M fv vv l):BlkMid w K M fv vv (L) 0 (w.alloc (T #[L,L,I 0,I 0,L] 84)):=
 ⟨zI rfl,Jv _ _ _ _,by simp,⟨rfl,rfl,rfl⟩,fun k hk _=>Below.heap_alloc w _ k hk,zB h.blk⟩
theorem BlkMid.next {w wr w3:World}{K:MKC}{X:Nat->Prop}{M:MS}{fv vv pv c:Value}{l:List BM}{i:Nat}(h:MkIn w K X M fv vv l)(hm:BlkMid w K M fv vv pv i wr){o:Obj}(hg:((wr.setCell ⟨K.pm,6,none⟩ (I ((M.next+i+1:Nat):Int))).alloc o).grownBy w3 pv.ownBlock)
 (d:w3.ownsRow (w.heap.size+1) 3 1 c (i+1) ((iZ M.next i).map zN++ [zN ((M.next+i:Nat):Int)])):BlkMid w K M fv vv c (i+1) (w3.setCell ⟨w.heap.size,0,none⟩ c):=by
 have g:=lt_of_block h.blk;have j:=lt_of_block hm.pm;have q:=lt_of_block hm.box;have n1:=zC hm.own hm.box (.inr Zd);have n2:=zC hm.own hm.pm (.inr Zd);have b1:=zL hg (zB (o:=o) (zR (a:=⟨K.pm,6,none⟩) (u:=I ((M.next+i+1:Nat):Int)) hm.box (by show w.heap.size≠K.pm;omega))) n1;have p1:=zL hg (zB (o:=o) (zD hm.pm (i:=6) (I ((M.next+i+1:Nat):Int)))) n2;have hs:=hg.size;have m:=hm.size;simp at hs;refine⟨zD b1 _,?_,by simp;omega,⟨hg.os.trans hm.rest.1,hg.tape.trans hm.rest.2.1,hg.output.trans hm.rest.2.2⟩,fun k hk hne=>?_,?_⟩
 ·rw[jE,Js];exact ownsRow_setCell_other d (fun e=>zC d b1 (.inr Zd) (by simpa using e)) _
 ·refine(Below.heap_setCell w3 ⟨w.heap.size,0,none⟩ _ k (by show k≠w.heap.size;omega)).trans ((hg.block k Zt (fun e=>?_)).trans ((Below.heap_alloc _ _ k Zt).trans ((Below.heap_setCell wr ⟨K.pm,6,none⟩ _ k hne).trans (hm.kept k hk hne))));have:=(hm.own.lt k e.symm).1;omega
 ·exact zR p1 (by show K.pm≠w.heap.size;omega)
theorem rU {w:World}{K:MKC}{X:Nat->Prop}{M:MS}(h:wW w K X M){n:Nat}(hz:M.sz+1+n<=1000000):
 G 56 #[Y K.pm,I n] w (yk K X w (M.block n) (I (M.f.length:Int))):=by
 obtain⟨fv,vv,l,h⟩:=h;have H:=Ja (Jb h hz);have a0:=BlkMid.start h;have e0:=Ja a0;have e4:=lt_of_block h.blk;clear h hz a0;go_enter Tryz.func56,Tryz.ntmps56;go_wp2
 go_loopw [6] (fun iv wx=>∃(i:Nat) (pv:Value),i<=n/\iv=I i/\Hid (BlkMid w K M fv vv pv i wx)) (fun iv _=>n-(intOf iv).toNat)
 case atStart=>exact⟨0,_,Jt _,rfl,e0⟩
 case round=>
  obtain⟨i,pv,hi,rfl,c⟩:=hrel
  by_cases c9:i<n
  ·have c7:(i:Int)<n:=Zo;have a6:i+1<=n:=c9;obtain⟨pa,pc,j⟩:=zG c.out.own;have hk:=(BlkMid.mk' H.out.1 c.out (by have:=H.out.2;omega)).1;have a8:G 110 #[Y K.pm] wr.drew fun e w'=>e=.returned (I ((M.next+i:Nat):Int))/\w'=(wr.setCell ⟨K.pm,6,none⟩ (I ((M.next+i+1:Nat):Int))).drew:=ot (hk.keep (Below.refl _ _).drew) (by have:=H.out.2;unfold MS.sz at *;simp only at *;omega)
   have d:=c.out.own;rw[j] at d;have c0:=zA (i:=0) c.out.box rfl;rw[j] at c0;have n1:=zC d c.out.box (.inr Zd);have e6:i<=1000000:=by have:=H.out.2;omega
   have d3:=lt_of_block c.out.box;have e1:=c.out.size;obtain⟨ij,d1,c5,c3,c2⟩:=info_parts Tryz.info_int;have a1:=lt_of_block c.out.pm;have HO:=Ja (Jb d (Jb a8 (Jb j (lt_of_block c.out.box))));have b6:∀(u:Value) (o:Obj),A ((wr.setCell ⟨K.pm,6,none⟩ u).alloc o) w.heap.size 0 (.slice pa i pc):=fun u o=>zA (i:=0) (zB (o:=o) (zR (a:=⟨K.pm,6,none⟩) (u:=u) c.out.box (by show w.heap.size≠K.pm;omega))) (by rw[j];rfl)
   have b5:∀(u:Value) (o:Obj),N ((wr.setCell ⟨K.pm,6,none⟩ u).alloc o) w.heap.size 0:=fun u o=>zE (zB (o:=o) (zR (a:=⟨K.pm,6,none⟩) (u:=u) c.out.box (by show w.heap.size≠K.pm;omega)))
   have a3:∀(u:Value) (o:Obj),((wr.setCell ⟨K.pm,6,none⟩ u).alloc o).ownsRow (w.heap.size+1) 3 1 (.slice pa i pc) i ((iZ M.next i).map zN):=fun u o=>(ownsRow_setCell_other d (fun e=>zC d c.out.pm (.inr Zd) (by simpa using e)) u).alloc o
   have a5:=Ja (Jb a3 (Jb b6 b5));clear j d a8 hk b6 b5 a3;go_upto_region 5 with fail
   go_region_law (first|(refine step_append_lies _ (by rfl) (.tmp 13) (.tmp 16) _ (by rfl) (w.heap.size+1) 3 ij (I 0) 1 8 Tryz.underlying22 d1 c5 c3 c2 rfl Zo (.slice pa i pc) i ((iZ M.next i).map zN) (by rfl) ((a5.out.1 _ _).drew) ⟨wr.heap.size,0,none⟩ 1 1 [I ((M.next+i:Nat):Int)] (by rfl) (by rfl) (Oi (cs:=#[I ((M.next+i:Nat):Int)]) (t:=3) (fr:=(0,0)) (zI Zs)) (by simp[Value.oneCell']) Zo (by unfold maxLen;omega) Zo Zt (wr.heap.size+1) Zs ?_;intro gg a2 w3 q g a9 c8;have d6:=(g.cell_far ⟨w.heap.size,0,none⟩ Zt (Ne.symm n1)).trans (a5.out.2.1 _ _);have d4:=(g.frozen_far ⟨w.heap.size,0,none⟩ Zt (Ne.symm n1)).trans (a5.out.2.2 _ _))|(go_simp;go_at_call 110;refine HO.out.2.1.mono ?_;rintro e w4 ⟨rfl,rfl⟩))
   all_goals go_wp2_with fail
   all_goals (
    refine⟨⟨i+1,F gg (i+1) a2,a6,by go_num,Ja (BlkMid.next H.out.1 c.out (by rw[HO.out.2.2.1];exact xN g) q)⟩,by simp[intOf];omega⟩)
  ·obtain rfl:i=n:=by omega
   have c7:¬(i:Int)<i:=Zo;obtain⟨hk,a0⟩:=BlkMid.mk' H.out.1 c.out (by have:=H.out.2;omega);obtain⟨pa,pc,j⟩:=zG c.out.own;subst j;obtain⟨fa,fc,d2⟩:=zG hk.own;subst d2
   have a4:wm wr (K.av X) (.slice pa i pc) (wJ M.next i).params:=by
    refine rO c.out.own (parL_len _ _) (fun x hx=>?_) (fun k e y=>?_)
    ·unfold iZ at hx;obtain⟨m,hm,rfl⟩:=Nu.1 hx;have h1:=H.out.2;have h2:=Ol.1 hm;unfold MS.sz at h1;exact⟨by omega,by omega⟩
    ·have h2:=(c.out.own.lt k e).1;rcases y with y|y
     ·have:=H.out.1.xl k y;omega
     ·have:=H.out.1.env.zl k y;omega
   have d:=hk.own;have nb:=zC d c.out.pm (.inr Zd);have c4:=hk.c4;have a1:=lt_of_block c.out.pm;have d3:=lt_of_block c.out.box;have b0:=zA (i:=0) c.out.box rfl;have b1:=zA (i:=1) c.out.box rfl;have b2:=zA (i:=2) c.out.box rfl;have b3:=zA (i:=3) c.out.box rfl;have b4:=zA (i:=4) c.out.box rfl;have d7:∀o,A (wr.alloc o) K.pm 4 (.slice fa l.length fc):=fun o=>(Oo (w:=wr) (Below.heap_alloc _ _ _ a1)).trans c4
   have d5:∀o,N (wr.alloc o) K.pm 4:=fun o=>(Qm (w:=wr) (Below.heap_alloc _ _ _ a1)).trans (hk.free 4)
   have a7:l.length=M.f.length:=H.out.1.len;have e5:l.length<=1000000:=by have:=H.out.1.flen;omega
   have e7:K.B<=wr.heap.size:=hk.size;obtain⟨ik,d0,b9,b8,b7⟩:=info_parts Tryz.info_irblock;have HO:=Ja (Jb hk (Jb a0 (Jb a4 (Jb d a7))));clear hk a0 a4 d a7;go_upto_region 6 with fail
   go_region_law (first|(refine step_append_lies _ (by rfl) (.tmp 24) (.tmp 26) _ (by rfl) K.B 84 ik (.agg #[L,L,I 0,I 0,L]) 5 88 Tryz.underlying37 d0 b9 b8 b7 rfl Zo (.slice fa l.length fc) l.length (l.flatMap xG) (by rfl) ((HO.out.2.2.2.1.alloc _).drew) ⟨wr.heap.size,0,none⟩ 1 1 [.slice pa i pc,L,I 0,I 0,L] (by rfl) (by rfl) (Oi (cs:=#[.slice pa i pc,L,I 0,I 0,L]) (t:=84) (fr:=(0,0)) (heap_alloc_new wr _)) (by simp[Value.oneCell']) Zo (by unfold maxLen;omega) Zo Zt (wr.heap.size+1) Zs ?_;intro gg a2 w3 q g a9 c8;have d6:=(g.cell_far ⟨K.pm,4,none⟩ Zt (Ne.symm nb)).trans (d7 _);have d4:=(g.frozen_far ⟨K.pm,4,none⟩ Zt (Ne.symm nb)).trans (d5 _)))
   all_goals go_wp2_with fail
   all_goals go_ret
   all_goals (
    have hP:=HO.out.1.putB (fv':=F gg (l.length+1) a2) (b:=wJ M.next i) (pv:=.slice pa i pc) (xN g) ⟨rfl,rfl⟩ q (fun k e=>by
     have e2:gg=k:=by simpa[Value.ownBlock] using e
     subst e2;rcases a9 with e3|e3
     ·exact .inl e3
     ·right;omega) HO.out.2.2.1 (by have:=H.out.2;unfold MS.sz at *;simp only at *;omega)
    refine⟨zh (by have:=HO.out.2.2.2.2;omega),_,⟨_,_,_,hP.1⟩,HO.out.2.1.trans hP.2⟩)
theorem addr_any {w:World}{K:MKC}{X:Nat->Prop}{M:MS}(h:wW w K X M)(a3:M.cur<M.f.length)(hz:M.sz+6<=1000000):
 G 133 #[Y K.pm] w (yk K X w (yJ K.E M).2 (I (yJ K.E M).1)):=by
 obtain⟨fv,vv,l,h⟩:=h;have a6:=Ja (uD h (n:=24) Zd Zd Zo);have H:=Ja (Jb a3 hz);obtain⟨z1,x⟩:∃z,tkV K.E M 24=z:=⟨_,rfl⟩
 rw[x] at a6;have b0:=Ja x;clear h a3 hz x
 by_cases h0:z1=23
 ·have d:yJ K.E M=zJ K.E M.tick:=by unfold yJ;rw[if_pos (by rw[b0.out];exact h0)]
  have t:=Ja d;have t0:((z1:Int)==23)=true:=by rw[beq_iff_eq];omega
  have b4:(z1==23)=true:=by rw[beq_iff_eq];omega
  clear d h0;go_enter Tryz.func133,Tryz.ntmps133;go_wp2_with (first|(go_at_call 55;go_must (refine a6.out.mono ?_;rintro e w1 ⟨rfl,q,m⟩))|(go_at_call 58;go_must (refine(pu q.at H.out.1 (by have:=(zT M).sz;have:=H.out.2;omega)).mono ?_;rintro e w2 ⟨rfl,X2,c,j⟩)))
  go_ret;rw[t.out];exact⟨rfl,X2,c,m.trans j⟩
 ·have d:yJ K.E M=((M.next:Int),M.tick.tick.tick.emit ⟨2,0,(tkV K.E M.tick 2:Nat),0,tkV K.E M.tick.tick (sE (tkV K.E M.tick 2)),[]⟩):=by unfold yJ;rw[if_neg (by rw[b0.out];exact h0)]
  have t:=Ja d;have t0:((z1:Int)==23)=false:=Ze;have b4:(z1==23)=false:=by rw[beq_eq_false_iff_ne];omega
  clear d h0;go_enter Tryz.func133,Tryz.ntmps133;go_upto_region 3 with(go_at_call 55;go_must (refine a6.out.mono ?_;rintro e w1 ⟨rfl,q,m⟩))
  have b1:=Ja (uD q (n:=2) Zd Zd (by have:=(zT M).sz;have:=H.out.2;omega));have b5:=aaE K.E M.tick (n:=2) Zd;obtain⟨k,hk⟩:∃z,tkV K.E M.tick 2=z:=⟨_,rfl⟩
  rw[hk] at b1 b5;have HK:=Ja hk;clear hk;go_upto_region 4 with(go_at_call 55;go_must (refine b1.out.mono ?_;rintro e w2 ⟨rfl,c,j⟩))
  have g1:=(zT M).sz;have g2:=(zT M.tick).sz;have g3:=(zT M.tick.tick).sz;have a5:=Ja (uD c (n:=sE k) (by unfold sE;split<;>decide) (by unfold sE;split<;>decide) (by have:=H.out.2;omega));have a2:=aaE K.E M.tick.tick (n:=sE k) (by unfold sE;split<;>decide);obtain⟨z3,u⟩:∃z,tkV K.E M.tick.tick (sE k)=z:=⟨_,rfl⟩
  rw[u] at a5 a2;have a9:=Ja u;obtain⟨db,b6,b7,a8⟩:=c.env.data;have c2:=c.c2;have p4:=zA (i:=4) c.env.prog rfl;rw[b6] at p4;have b8:z3<15:=by unfold sE at a2;split at a2<;>omega
  have HS:=Ja (m.trans j)
  have a7:∀(w3:World),MkIn w3 K X M.tick.tick.tick fv vv l->G 132 #[Y K.pm,.agg #[I 2,I 0,I k,I 0,U z3,L]] w3 (yk K X w3 (M.tick.tick.tick.emit ⟨2,0,(k:Int),0,z3,[]⟩) (I (M.next:Int))):=fun w3 g=>
   rD g.at (o:=⟨2,0,(k:Int),0,z3,[]⟩) ⟨yF _ rfl,yF _ rfl,vG (k:Int) Zo Zo,yF _ rfl,(by show z3<65536;omega)⟩ yE.nil H.out.1 (by have:=H.out.2;omega)
  have b2:=Ja a7;clear q m j u c b7 a7;have b3:k=0∨k=1:=Zo;rcases b3 with rfl|rfl
  ·have d2:A w2 db 2 (U 16):=zA a8 rfl;have a4:=Ja (show G 55 #[Y K.pm,I 15] w2 _ from a5.out);go_wp2_with (first|(go_at_call 55;go_must (refine a4.out.mono ?_;rintro e w3 ⟨rfl,g,a0⟩))|(go_at_call 132;go_must (refine(b2.out _ g).mono ?_;rintro e w4 ⟨rfl,X4,a1,y⟩)))
   go_ret;rw[t.out,HK.out,a9.out];exact⟨rfl,X4,a1,HS.out.trans (a0.trans y)⟩
  ·have d2:A w2 db 5 (U 7):=zA a8 rfl;have a4:=Ja (show G 55 #[Y K.pm,I 6] w2 _ from a5.out);go_wp2_with (first|(go_at_call 55;go_must (refine a4.out.mono ?_;rintro e w3 ⟨rfl,g,a0⟩))|(go_at_call 132;go_must (refine(b2.out _ g).mono ?_;rintro e w4 ⟨rfl,X4,a1,y⟩)))
   go_ret;rw[t.out,HK.out,a9.out];exact⟨rfl,X4,a1,HS.out.trans (a0.trans y)⟩
def MKC.withZ (K:MKC)(Z:Nat->Prop):MKC:= {K with Z:=Z }
theorem MkIn.off {w W:World}{K:MKC}{X Z2:Nat->Prop}{M:MS}{fv vv:Value}{l:List BM}(h:MkIn w K X M fv vv l)(g:w.heap.size<=W.heap.size)(ho:W.os=w.os/\W.tape=w.tape/\W.output=w.output)
 (hk:∀k,k<w.heap.size->(K.Z k->k<K.B)->W.heap[k]? =w.heap[k]?) (j:∀k,Z2 k->K.Z k∨w.heap.size<=k) (i:∀k,Z2 k->k<W.heap.size):MkIn W (K.withZ Z2) X M fv vv l:=by
 have c:Stp (K.av X) w ((K.withZ Z2).av X) W:=⟨ho.1,ho.2.1,ho.2.2,g,fun k e=>e.elim (fun e=> .inl (.inl e)) (fun e=>(j k e).elim (fun e=> .inl (.inr e)) .inr),fun k hk' d=>hk k hk' (fun e=>absurd (.inr e) d)⟩
 have d:∀k,X k->k<w.heap.size/\W.heap[k]? =w.heap[k]?:=fun k e=>⟨h.xl k e,hk k (h.xl k e) (fun e2=>absurd e2 (h.env.zx k e))⟩
 have hb:Below K.B w W:=⟨ho.1,ho.2.1,ho.2.2,g,fun k e=>hk k (Jy e h.size) (fun _=>e)⟩
 obtain⟨b,e1,e2,e3⟩:=h.env.data;refine⟨(d _ h.xm).2.trans h.blk,yD h.own (fun k e=>(d k (h.xf k e)).2),h.fl,fun q hq=>?_,h.apart,yD h.vown (fun k e=>(d k (h.xv k e)).2),h.v64,h.xm,h.xf,h.xv,h.xB,fun k e=>Jy (h.xl k e) g,?_,h.bnd,h.lft⟩
 ·have q1:=h.bok q hq;exact⟨q1.k64,q1.par.step zn c,q1.ops,yD q1.own (fun k e=>(d k (q1.inX k e)).2),fun o ho=>⟨(q1.arg o ho).1,(q1.arg o ho).2.step zn c⟩,q1.tos.step yq c,q1.inX⟩
 ·exact⟨h.env.s.below zO hb,h.env.fpv,c.blk h.env.prog h.env.ppX,h.env.args.step zn c,⟨b,e1,c.not (lt_of_block e3) e2,c.blk e3 e2⟩,c.not (lt_of_block h.env.prog) h.env.ppX,h.env.h64,h.env.len,h.env.nf,h.env.alt,
   fun k e1 e2=>(j k e2).elim (h.env.zx k e1) (fun e3=>by have:=h.xl k e1;omega),i⟩
theorem oD {w:World}{K:MKC}{X:Nat->Prop}{M:MS}(h:wW w K X M):I64 (zJ K.E M).1:=by
 obtain⟨fv,vv,l,h⟩:=h;have hb:=h.bnd
 have hv:∀i,I64 (M.vals.getD i 0):=fun i=>by
  rw[Jj]
  cases c:M.vals[i]? with
  |none=>exact yF _ rfl
  |some x=>exact h.v64 x (Ji c)
 unfold zJ
 split
 ·unfold MS.sz at hb;exact⟨by show -9223372036854775808<=(M.next:Int);omega,by show(M.next:Int)<=9223372036854775807;omega⟩
 split
 ·exact hv _
 ·exact hv _
structure ArgMid (w:World) (K:MKC) (X:Nat->Prop) (M:MS) (av:Value) (j:Nat) (wx:World):Prop where
 own:wx.ownsRow w.heap.size 3 1 av j ((yI K.E j M).1.map zN)
 i64:∀x∈(yI K.E j M).1,I64 x
 made:∃Xj,wW wx (K.withZ fun k=>K.Z k∨av.ownBlock=some k) Xj (yI K.E j M).2/\Stp X w Xj wx
theorem qw (E:ME):∀(n:Nat) (M:MS),(yI E n M).1.length=n
 |0,_=>rfl
 |n+1,M=>by show((yI E n M).1++ [_]).length=_;rw[Jk,qw E n M];rfl
theorem ArgMid.start {w:World}{K:MKC}{X:Nat->Prop}{M:MS}(h:wW w K X M):ArgMid w K X M (L) 0 w:=by
 refine⟨Jv _ _ _ _,(fun x hx=>by cases hx),X,?_,Stp.refl _ _⟩;obtain⟨fv,vv,l,h⟩:=h;exact⟨fv,vv,l,h.off (Je _) ⟨rfl,rfl,rfl⟩ (fun _ _ _=>rfl) (fun k e=>e.elim .inl (fun e=>by simp[Value.ownBlock] at e)) (fun k e=>e.elim (h.env.zl k) (fun e=>by simp[Value.ownBlock] at e))⟩
theorem ArgMid.next {w wx w2 w3:World}{K:MKC}{X X2:Nat->Prop}{M:MS}{av av':Value}{j:Nat}{o:Obj}(h:ArgMid w K X M av j wx)(h2:wW w2 (K.withZ fun k=>K.Z k∨av.ownBlock=some k) X2 (yI K.E (j+1) M).2)(d:Stp X w X2 w2)(m:w2.ownsRow w.heap.size 3 1 av j ((yI K.E j M).1.map zN))(t:I64 (zJ K.E (yI K.E j M).2).1)
 (u:∀k,X k->k<w.heap.size) (hB:K.B<=w.heap.size) (hg:(w2.alloc o).grownBy w3 av.ownBlock) (i:w3.ownsRow w.heap.size 3 1 av' (j+1) ((yI K.E j M).1.map zN++ [zN (zJ K.E (yI K.E j M).2).1])) (q:∀k,av'.ownBlock=some k->av.ownBlock=some k∨w2.heap.size<=k):ArgMid w K X M av' (j+1) w3:=by
 obtain⟨fv,vv,l,h2⟩:=h2;have g:w2.heap.size<=w3.heap.size:=by have:=hg.size;simp at this;omega
 have hk:∀k,k<w2.heap.size->av.ownBlock≠some k->w3.heap[k]? =w2.heap[k]?:=fun k hk hne=>(hg.block k Zt (fun e=>hne e.symm)).trans (Below.heap_alloc w2 o k hk)
 refine⟨?_,?_,X2,⟨fv,vv,l,h2.off (K:=K.withZ fun k=>K.Z k∨av.ownBlock=some k) g ⟨hg.os,hg.tape,hg.output⟩ (fun k hk' hz=>hk k hk' (fun e=>by have h1:k<K.B:=hz (.inr e);have:=(m.lt k e).1;omega)) (fun k e=>e.elim (fun e=> .inl (.inl e)) (fun e=>(q k e).elim (fun e=> .inl (.inr e)) .inr)) (fun k e=>e.elim (fun e=>Jy (h2.env.zl k (.inl e)) g) (fun e=>(i.lt k e).2))⟩,?_⟩
 ·show w3.ownsRow w.heap.size 3 1 av' (j+1) (((yI K.E j M).1++ [(zJ K.E (yI K.E j M).2).1]).map zN)
  rw[Js];exact i
 ·intro x c;rcases Jl.1 c with c|c
  ·exact h.i64 x c
  ·rw[Jo] at c;subst c;exact t
 ·refine⟨hg.os.trans d.os,hg.tape.trans d.tape,hg.output.trans d.output,Jn d.size g,d.new,fun k hk' c=>(hk k (Jy hk' d.size) (fun e=>?_)).trans (d.kept k hk' c)⟩;have:=(m.lt k e).1;omega
theorem ArgMid.done {w wx:World}{K:MKC}{X:Nat->Prop}{M:MS}{av:Value}{j:Nat}(h:ArgMid w K X M av j wx)(c:∀k,K.Z k->k<w.heap.size):∃Xj,wW wx K Xj (yI K.E j M).2/\Stp X w Xj wx/\wm wx (K.av Xj) av (yI K.E j M).1:=by
 obtain⟨Xj,⟨fv,vv,l,hm⟩,hs⟩:=h.made;refine⟨Xj,⟨fv,vv,l,hm.off (Z2:=K.Z) (Je _) ⟨rfl,rfl,rfl⟩ (fun _ _ _=>rfl) (fun k e=> .inl (.inl e)) (fun k e=>hm.env.zl k (.inl e))⟩,hs,?_⟩;refine rO h.own (qw _ _ _) h.i64 (fun k e hx=>hx.elim (fun e2=>hm.env.zx k e2 (.inr e)) (fun e2=>?_));have:=(h.own.lt k e).1;have:=c k e2;omega
theorem jh {w:World}{X:Nat->Prop}{v:Value}{xs:List Int}{a:Option Addr}{n c:Nat}(h:wm w X v xs)(hv:v=.slice a n c){k:Nat}{x:Int}(g:xs[k]? =some x):∃b o,a=some ⟨b,o,none⟩/\A w b (o+k) (I x):=by
 subst hv;obtain⟨a',c',e,_,_,h3⟩:=h;cases e;obtain⟨b,o,i,_,_,d,_⟩:=h3 k x g;rw[Nk] at d;exact⟨b,o,i,d⟩
theorem jN {w:World}{K:MKC}{X:Nat->Prop}{M:MS}(h:wW w K X M)(b1:M.cur<M.f.length)(hz:M.sz+16<=1000000):
 G 134 #[Y K.pm] w (yk K X w (vN K.E M) (.tuple #[])):=by
 obtain⟨fv,vv,l,h⟩:=h;have H:=Ja (Jb h (Jb b1 hz));have c2:=h.c2;have c3:=h.c3;obtain⟨pa,pc,c4⟩:=h.env.fpv;have p0:=zA (i:=0) h.env.prog rfl;rw[c4] at p0;have i1:=h.env.nf;have i0:=lt_of_block h.env.prog;have h7:=lt_of_block h.blk;clear h b1 hz c4;have f5:IntKind.i64.wrap ((K.E.nf:Int)-(K.E.me:Int))=(K.E.nf:Int)-(K.E.me:Int):=Om _ Zo;have b7:IntKind.i64.wrap ((K.E.nf:Int)-(K.E.me:Int)-1)=(K.E.nf:Int)-(K.E.me:Int)-1:=Om _ Zo
 by_cases h0:K.E.nf<=K.E.me+1
 ·have q:vN K.E M=M:=by unfold vN;rw[if_pos h0]
  have a1:=Ja q;have b6:(K.E.nf:Int)-(K.E.me:Int)-1<1:=Zo;clear q;go_enter Tryz.func134,Tryz.ntmps134;go_upto_region 0 with fail;go_quiet (fail);go_wp2
  first|go_end0|refine bodyPost_ret (results_none rfl _ _ _) rfl ?_
  rw[a1.out];exact⟨rfl,X,⟨_,_,_,H.out.1.keep (yL _ _ _)⟩,Stp.of_below (yL _ _ _)⟩
 ·obtain⟨m,hm⟩:∃m:Nat,K.E.nf-K.E.me-1=m:=⟨_,rfl⟩
  have i3:1<=m:=Zo;have b6:¬(K.E.nf:Int)-(K.E.me:Int)-1<1:=Zo;have c5:(K.E.nf:Int)-(K.E.me:Int)-1=(m:Int):=Zo;have h9:¬(m:Int)<1:=Zo;rw[c5] at b7;clear b6;go_enter Tryz.func134,Tryz.ntmps134;go_upto_region 0 with fail
  go_cut [2] (fun v wx=>v=I m/\∃n,wx=w.drewN n)
  case first=>
   go_quiet (fail);go_wp2;go_meet;exact⟨by first|rfl|(rw[c5]),_,rfl⟩
  case rest=>
   obtain⟨rfl,n0,rfl⟩:=hcut;have a3:=H.out.1.keep (yL _ w n0);generalize d7:w.drewN n0=W1 at *;have b9:Stp X w X W1:=by rw[<-d7];exact Stp.of_below (yL _ _ _)
   have e1:=Ja (Jb a3 b9);have HT:=Ja (uD (a3.keep (Below.refl _ _).drew) (n:=m) Zo Zo (by have:=H.out.2.2;omega));have a2:=aaE K.E M (n:=m) Zo;obtain⟨z,hz⟩:∃z,tkV K.E M m=z:=⟨_,rfl⟩
   rw[hz] at HT a2;have HZ:=Ja (Jb hz hm);have d3:=a3.c3;clear a3 b9 hz hm d7 c2 c3 p0 f5 b7;go_upto_region 2 with fail;obtain⟨f,hf⟩:∃f:Nat,K.E.me+1+z=f:=⟨_,rfl⟩
   have c8:(K.E.me:Int)+1+(z:Int)=(f:Int):=Zo;have g8:=Ja (show IntKind.i64.wrap (IntKind.i64.wrap ((K.E.me:Int)+1)+(z:Int))=(f:Int) by rw[Om ((K.E.me:Int)+1) Zo,Om _ Zo];exact c8);clear c8
   go_cut [3] (fun v wx=>v=I f/\Hid (MkIn wx K X M.tick fv vv l/\Stp X w X wx))
   case first=>
    go_region_held3 (fun w'=>A w' K.pm 3 (I (K.E.me:Int))) (first|exact d3|assumption|(exact MkIn.c3 Zz))
     ((go_at_call 55;refine HT.out.mono ?_;rintro e w2 ⟨rfl,t,f7⟩))
    all_goals go_wp2_with fail
    go_meet;exact⟨by rw[g8.out],Ja ⟨t,e1.out.2.trans ((Stp.of_below (Below.refl _ _).drew).trans f7)⟩⟩
   obtain⟨rfl,d1⟩:=hcut;obtain⟨t,a6⟩:=d1.out;generalize g5:wc=w2 at *;clear d1 g5;have g2:f<K.E.nf:=by have:=HZ.out.2;omega
   have d2:=t.c2;have p3:=zA (i:=3) t.env.prog rfl;have d:=Ja (Jb t (Jb a6 hf));have h8:=lt_of_block t.env.prog;have h4:=lt_of_block t.blk;clear t a6 hf d3 e1 HT
   by_cases hh:(f:Int)=K.E.handler
   ·have t0:((f:Int)==K.E.handler)=true:=by rw[beq_iff_eq];exact hh
    have q:vN K.E M=M.tick:=by
     unfold vN;rw[if_neg h0];simp only;rw[HZ.out.2,HZ.out.1,d.out.2.2,if_pos hh]
    have a1:=Ja q;clear q hh;go_wp2
    first|go_end0|refine bodyPost_ret (results_none rfl _ _ _) rfl ?_
    rw[a1.out];exact⟨rfl,X,d.out.1.at,d.out.2.1⟩
   ·have t0:((f:Int)==K.E.handler)=false:=by rw[beq_eq_false_iff_ne];exact hh
    have q:vN K.E M=(yI K.E (K.E.args.getD f 0).toNat M.tick).2.emit ⟨26,0,(f:Nat),0,0,(yI K.E (K.E.args.getD f 0).toNat M.tick).1⟩:=by
     unfold vN;rw[if_neg h0];simp only;rw[HZ.out.2,HZ.out.1,d.out.2.2,if_neg hh]
    have a1:=Ja q;clear q hh;obtain⟨aa,ac,d4,_,_⟩:=d.out.1.env.args.form;have a4:=d.out.1.env.args;have f0:=d.out.1.env.len;have e5:=Ja (Jb d4 a4);obtain⟨x,hx⟩:∃x,K.E.args[f]? =some x:=⟨_,Jd (by rw[f0];exact g2)⟩
    obtain⟨f4,f3⟩:=d.out.1.env.alt x (Ji hx);have b5:K.E.args.getD f 0=x:=by rw[Jj,hx];rfl
    obtain⟨c,hc⟩:∃c:Nat,x.toNat=c:=⟨_,rfl⟩
    have d0:x=(c:Int):=Zo;have i2:=(zT M).sz;have HX:=Ja (Jb hx (Jb b5 (Jb hc d0)));have i6:c<=3:=Zo;have a7:=ArgMid.start d.out.1.at;have g6:=Ja a7;clear d4 a4 hx b5 hc d0 a7 f4 f3;go_upto_region 5 with fail;go_wp2;clear d2 p3
    go_loopw [4,5] (fun rv jv wx=>∃(j:Nat) (ra:Option Addr) (rc:Nat),j<=c/\rv=.slice ra j rc/\jv=I j/\Hid (ArgMid w2 K X M.tick (.slice ra j rc) j wx)) (fun _ jv _=>c-(intOf jv).toNat)
    case atStart=>exact⟨0,none,0,Jt _,rfl,rfl,g6⟩
    case round=>
     obtain⟨j,ra,rc,hj,rfl,rfl,HA⟩:=hrel
     have g1:∃Xj fv' vv' l',MkIn wr (K.withZ fun k=>K.Z k∨(Value.slice ra j rc).ownBlock=some k) Xj (yI K.E j M.tick).2 fv' vv' l'/\Stp X w2 Xj wr:=by
      obtain⟨Xj,⟨fv',vv',l',hm⟩,hs⟩:=HA.out.made;exact⟨Xj,fv',vv',l',hm,hs⟩
     obtain⟨Xj,fv',vv',l',hm,hs⟩:=g1;have e2:A wr K.pm 2 (Y K.pp):=hm.c2;have q1:A wr K.pp 1 K.apv:=zA (i:=1) hm.env.prog rfl;obtain⟨ab,ao,d6,g4⟩:=jh (show wm wr ((K.withZ fun k=>K.Z k∨(Value.slice ra j rc).ownBlock=some k).av Xj) K.apv K.E.args from hm.env.args) e5.out.1 HX.out.1;rw[e5.out.1,d6] at q1;rw[HX.out.2.2.2] at g4;have i5:(f:Int)<(K.E.args.length:Int):=Zo;have a0:=Ja (Jb hm hs);clear hm hs d6
     by_cases a2:j<c
     ·have e9:(j:Int)<(c:Int):=Zo;have g:=tj K.E j M.tick
      have b0:(yI K.E j M.tick).2.cur<(yI K.E j M.tick).2.f.length/\(yI K.E j M.tick).2.sz+4<=1000000:=by
       refine⟨?_,?_⟩
       ·rw[g.cur,g.len];exact H.out.2.1
       ·have:=g.sz;have:=H.out.2.2;omega
      have d5:=pu (K:=K.withZ fun k=>K.Z k∨(Value.slice ra j rc).ownBlock=some k) a0.out.1.at b0.1 b0.2;have a5:=oD a0.out.1.at;obtain⟨y,hy⟩:∃y,(zJ K.E (yI K.E j M.tick).2).1=y:=⟨_,rfl⟩
      have b3:G 58 #[Y K.pm] wr (yk (K.withZ fun k=>K.Z k∨(Value.slice ra j rc).ownBlock=some k) Xj wr (yI K.E (j+1) M.tick).2 (I y)):=by rw[<-hy];exact d5
      have a9:∀(w4:World) (X4:Nat->Prop),Stp Xj wr X4 w4->w4.ownsRow w2.heap.size 3 1 (.slice ra j rc) j ((yI K.E j M.tick).1.map zN):=fun w4 X4 u=>yD HA.out.own (fun k e=>u.kept k (HA.out.own.lt k e).2 (fun e2=>a0.out.1.env.zx k e2 (.inr e)))
      obtain⟨ij,g0,e8,e7,e6⟩:=info_parts Tryz.info_int;have HN:=Ja (Jb b3 (Jb a5 (Jb hy a9)));have e0:=Ja a2;have i4:j<=3:=Zo;have h5:=a0.out.2.size;clear d5 b3 a5 hy a9 b0 g a2;go_wp2_with (first|(go_at_call 58;go_must (refine HN.out.1.mono ?_;rintro e w4 ⟨rfl,X4,f9,u⟩;have c0:=HN.out.2.2.2 w4 X4 u;have h6:=u.size))|(at_builtin;go_must (refine zK _ rfl (.tmp 54) (.tmp 57) 22 rfl w2.heap.size 3 ij (I 0) 1 8 Tryz.underlying22 g0 e8 e7 e6 rfl Zd (.slice ra j rc) j ((yI K.E j M.tick).1.map zN) rfl (c0.alloc _) _ 1 [I y] rfl (yM.one (zI rfl) rfl) (by unfold maxLen;omega) Zo Zt ?_;intro v9 w9 a8 b4 g3)))
      obtain⟨f2,f1,rfl⟩:=zG a8;go_roundw
      case rel=>
       refine⟨j+1,f2,f1,e0.out,rfl,by go_num,Ja (HA.out.next f9 (a0.out.2.trans u) c0 (by rw[HN.out.2.2.1];have:=HN.out.2.1;rw[<-HN.out.2.2.1];exact this) d.out.1.xl d.out.1.size b4 (by rw[HN.out.2.2.1];exact a8) (fun k e=>?_))⟩;rcases g3 with e2|e2
       ·exact .inl (by rw[<-e2];exact e)
       ·right;have e3:=e2.symm.trans e;simp at e3;omega
      case measure=>have:=e0.out;simp[intOf];omega
     ·obtain rfl:j=c:=by omega
      have e9:¬(j:Int)<(j:Int):=Zo;obtain⟨X9,c7,b8,b2⟩:=HA.out.done d.out.1.env.zl;have g:=tj K.E j M.tick;have c9:=rD (o:=⟨26,0,(f:Int),0,0,(yI K.E j M.tick).1⟩) c7 ⟨yF _ rfl,yF _ rfl,vG (f:Int) Zo Zo,yF _ rfl,(by show 0<65536;omega)⟩ b2 (by rw[g.cur,g.len];exact H.out.2.1) (by have:=g.sz;have:=H.out.2.2;omega);have e4:=Ja (Jb c9 (d.out.2.1.trans b8));clear c7 b8 b2 g c9;go_wp2_with (go_at_call 132;go_must (refine e4.out.1.mono ?_;rintro e w5 ⟨rfl,X5,f8,f6⟩))
      first|go_end0|refine bodyPost_ret (results_none rfl _ _ _) rfl ?_
      rw[a1.out,HX.out.2.1,HX.out.2.2.1];exact⟨rfl,X5,f8,e4.out.2.trans f6⟩
theorem pN {w:World}{b n:Nat}{l:List Nat}(h:Q w b (l.map wz).toArray 5)(hl:l.length=n):
 (convert 49 9 (F b n n)).run Tryz.prog w=.ok (.string (y9 l)) w:=by
 refine run_convert_bytes_arg w 49 5 Tryz.underlying49 Tryz.underlying5 b 0 n n (l.map fun(n:Nat)=>(n:Int)) (by simpa using hl) (fun i hi=>?_) 9 Tryz.underlying9;rw[Ng];have c:i<l.length:=Zo;refine zA h ?_;simp[Jj,Jd c,wz]
theorem mG (l:List Nat):(y9 l).size=l.length:=by
 unfold y9 strOfNums
 show Array.size _=_
 simp
theorem abK (M:MS)(n:Nat):(M.block n).f[M.f.length]? =some (wJ M.next n):=by
 show(M.f++ [_])[M.f.length]? =_
 rw[Nc (Je _),Qy];rfl
theorem abg (M:MS)(n:Nat):ky M.f (M.block n).f:=abj _ _
theorem gL {t:ITerm}{v:Int}(h:v∈mE t):v=t.a∨v∈(t.to.map (·.args)).flatten:=by
 unfold mE at h;rcases Jl.1 h with h|h
 ·split at h
  ·exact .inl (Jo.1 h)
  ·cases h
 ·exact .inr h
theorem gI {p:IProg}{E:ME}{g:MS->MS}(a4:so p g){n:Nat}(hn:2<=n/\n<=4):so p (xi E g n):=fun M O P pl h hO hnP hPO=>by
 obtain⟨a1,a2⟩:=h.any E hO;have ag:=yU E M;have ax:=aaW E M;have ac:(zJ E M).2.cur=M.cur:=ag.cur;have al:(zJ E M).2.f.length=M.f.length:=ag.len;have av:=ag.pre;unfold xi;simp only;generalize c3:zJ E M=c at *;obtain⟨x,M0⟩:=c;simp only at a1 a2 ac al av ax ⊢;obtain⟨b1,b2,b3,b4,b5⟩:=gV n M0 O P pl a1;have bl:=tB n M0;have b6:M0.cur<M0.f.length:=a1.curl;have c1:aaz p ((xE n M0).block 1) _ _ _:=b1.block (n:=1) (u:=M0.cur) (by rw[bl];omega) Zd;have a7:(pl++List.replicate n M0.cur)++ [M0.cur]=pl++List.replicate (n+1) M0.cur:=by rw[List.replicate_succ',Nv]
 rw[a7] at c1;have c2:pl.length=M0.f.length:=a1.len
 have j:∀i,M0.f.length<=i->i<=M0.f.length+n->(pl++List.replicate (n+1) M0.cur)[i]? =some M0.cur:=fun i h1 h2=>by
  rw[Nc Zo,Nm,if_pos Zo]
 have a5:((xE n M0).block 1).f[M0.f.length+n]? =some (wJ (xE n M0).next 1):=by rw[<-bl];exact abK _ 1
 have cx:ky M0.f ((xE n M0).block 1).f:=b4.trans (abg _ 1);have cc:((xE n M0).block 1).cur=M0.cur:=b2;have cv:((xE n M0).block 1).vals=M0.vals:=b3
 have b0:∀k,k<n->∃b,((xE n M0).block 1).f[M0.f.length+k]? =some b/\b.params.length=0:=fun k hk=>by
  obtain⟨b,hb,y⟩:=b5 k hk;obtain⟨b',c0,b8,_⟩:=abg (xE n M0) 1 _ _ hb;exact⟨b',c0,by rw[b8];exact y⟩
 have a3:(fun i=>(O i∨(M0.f.length<=i/\i<M0.f.length+n))∨i=(xE n M0).f.length) ((xE n M0).block 1).cur:=.inl (.inl (by rw[cc,ac];exact hO));have a6:¬P M0.cur:=by rw[ac];exact hnP
 generalize (xE n M0).block 1=M2 at *
 have e1:=c1.endB (t:=⟨if 2<n then 3 else 2,x,xk M0.f.length n⟩) a3 (by
  have hl:(xk M0.f.length n).length=n:=by unfold xk;simp
  unfold gR;simp only[hl]
  by_cases h2:2<n
  ·rw[if_pos h2];simp;omega
  ·rw[if_neg h2];simp;omega) (by unfold xk;simp;omega) (fun e he=>by
  obtain⟨k,hk,rfl⟩:=gH he;obtain⟨b,hb,y⟩:=b0 k hk
  exact⟨M0.f.length+k,M0.cur,b,rfl,by omega,hb,by rw[y];rfl,j _ Zo Zo,by rw[cc];exact .refl _⟩) (fun v hv=>by
  have:v∈M2.vals:=by
   rcases gL hv with rfl|hv
   ·rw[cv];exact a2
   ·simp only[gm] at hv;cases hv
  exact c1.at this) (P':=fun i=>P i∨(0=0/\i=M0.f.length+n)) (by
  rw[cc];rintro((e|e)|e)
  ·exact a6 e
  ·omega
  ·rw[bl] at e;omega) (fun i e=>by
  rcases e with(e|e)|e
  ·exact .inl (.inl e)
  ·refine .inr ⟨⟨((M0.f.length+(i-M0.f.length):Nat):Int),[]⟩,?_,by show((M0.f.length+(i-M0.f.length):Nat):Int)=_;omega⟩;unfold xk;exact Nu.2 ⟨i-M0.f.length,Ol.2 Zo,rfl⟩
  ·exact .inl (.inr ⟨rfl,by rw[e,bl]⟩))
 have ex:=cx.trans (xd c1 a3 ⟨if 2<n then 3 else 2,x,xk M0.f.length n⟩);have ev:(M2.endB ⟨if 2<n then 3 else 2,x,xk M0.f.length n⟩).vals=M0.vals:=cv;have ec:(M2.endB ⟨if 2<n then 3 else 2,x,xk M0.f.length n⟩).cur=M0.cur:=cc;obtain⟨bj',w,o,_⟩:=(xd c1 a3 ⟨if 2<n then 3 else 2,x,xk M0.f.length n⟩) _ _ a5;rw[ev];generalize M2.endB ⟨if 2<n then 3 else 2,x,xk M0.f.length n⟩=M3 at *
 have e2:aaz p M3 (fun i=>(O i/\i≠M0.cur)∨(M0.f.length+0<=i/\i<=M0.f.length+n)) (fun i=>P i∨(0=0/\i=M0.f.length+n)) (pl++List.replicate (n+1) M0.cur):=e1.weak (fun i=>by
  rw[cc,bl];constructor
  ·rintro⟨(e|e)|e,e2⟩
   ·exact .inl ⟨e,e2⟩
   ·exact .inr Zo
   ·exact .inr Zo
  ·rintro(e|e)
   ·exact⟨.inl (.inl e.1),e.2⟩
   ·by_cases e3:i=M0.f.length+n
    ·exact⟨.inr e3,by omega⟩
    ·exact⟨.inl (.inr Zo),by omega⟩) (fun i e=>e)
 have d:∀v∈M0.vals,∃q,Kn M3.f (pl++List.replicate (n+1) M0.cur) v M0.cur q:=fun v hv=>by
  obtain⟨b,hb⟩:=a1.get;exact⟨_,(a1.known v hv b hb).ext ex (Qb _ _) (Og _)⟩
 obtain⟨pl',d1,d2,d3,d4⟩:=fA (E:=E) (n:=n) (V:=M0.vals) a4 (fun i hi=>by rw[al];exact h.lt i hi) hPO a6 b6 n 0 M3 _ Zo e2 ev d j ⟨bj',w,by rw[o];simp[wJ]⟩;generalize uV E g M0.f.length (M0.f.length+n) M0.vals.length n 0 M3=M4 at *;obtain⟨bk,l,a9,_⟩:=d3 _ _ w;have m:bk.params=[((xE n M0).next:Int)]:=by rw[a9,o];simp[wJ]
 have a8:((M4.f.getD (M0.f.length+n) ⟨[],[],⟨0,0,[]⟩⟩).params).getD 0 0=((xE n M0).next:Int):=by
  have e:M4.f.getD (M0.f.length+n) ⟨[],[],⟨0,0,[]⟩⟩=bk:=by rw[Jj,l];rfl
  rw[e,m];rfl
 rw[a8];have b7:pl'[M0.f.length+n]? =some M0.cur:=aaS d1 (j _ Zo Zo);have a0:Abv pl' M0.cur (M0.f.length+n):=.up b7 Zo (.refl _);have b9:M0.f.length+n<M4.f.length:=(Jh.1 l).1;refine⟨pl',(Qb _ _).trans d1,?_,by rw[<-ac];exact a0,.inr (by show M.f.length<=M0.f.length+n;omega),fun e=>?_,?_,ax.trans (ex.trans d3)⟩
 ·have f1:MInv p M4.f (M0.f.length+n) M4.next (M4.vals++ [((xE n M0).next:Int)]) _ _ pl':=d2.goto b9 (fun v hv b hb=>by
   rcases Jl.1 hv with hv|hv
   ·rw[d4] at hv;obtain⟨q,hq⟩:=d v hv;exact d2.below (hq.ext d3 d1 (Og _)) a0 Zo
   ·rw[Jo] at hv;subst hv;rw[l] at hb;cases hb
    exact⟨M0.f.length+n,-1,⟨bk,l,.inl ⟨rfl,by rw[m];simp⟩⟩,.refl _,fun _=>by omega⟩)
  refine f1.weak (fun i=>?_) (fun i e=>?_)
  ·rw[<-ac];constructor
   ·rintro(e|e)
    ·exact .inl e
    ·exact .inr (show i=M0.f.length+n by omega)
   ·rintro(e|e)
    ·exact .inl e
    ·have e':i=M0.f.length+n:=e;exact .inr Zo
  ·rcases e with e|⟨e,_⟩
   ·exact e
   ·omega
 ·have e':P (M0.f.length+n):=e;have:=h.lt _ (hPO _ e');omega
 ·show M.vals<+:M4.vals++_
  rw[d4];exact av.trans (Qb _ _)
theorem gQ (a:Int)(b:Int)(l:List Int):mE ⟨1,a,[⟨b,l⟩]⟩=l:=by unfold mE ut;simp
theorem ee {p:IProg}{E:ME}{a3:MS->MS}(c2:so p a3):so p (tH E a3):=fun M O P pl h hO hnP hPO=>by
 have d1:=h.lt;obtain⟨n1,n2⟩:=MInv.num (M:=M.tick) h hO (tkV E M 5);have ng:=wT M.tick (tkV E M 5);have d0:O (M.tick.num (tkV E M 5)).cur:=by rw[ng.cur];exact hO
 obtain⟨a1,a2⟩:=n1.any E d0;have ag:=yU E (M.tick.num (tkV E M 5));have ax:ky M.f (zJ E (M.tick.num (tkV E M 5))).2.f:=(abB M.tick _).trans (aaW E _);have ac:(zJ E (M.tick.num (tkV E M 5))).2.cur=M.cur:=ag.cur.trans ng.cur;have al:(zJ E (M.tick.num (tkV E M 5))).2.f.length=M.f.length:=ag.len.trans ng.len;have av:M.vals<+:(zJ E (M.tick.num (tkV E M 5))).2.vals:=ng.pre.trans ag.pre;have an:(M.next:Int)∈(zJ E (M.tick.num (tkV E M 5))).2.vals:=ag.pre.subset n2;unfold tH;simp only;generalize zJ E (M.tick.num (tkV E M 5))=x at *;obtain⟨xv,M0⟩:=x;simp only at a1 a2 ac al av ax an ⊢;clear n1 n2 ng d0 ag;have f5:M0.cur<M0.f.length:=a1.curl;have b1:aaz p (M0.block 2) _ _ _:=a1.block (n:=2) (u:=M0.cur) a1.curl Zd;have l1:(M0.block 2).f.length=M0.f.length+1:=yz M0 2;have b2:aaz p ((M0.block 2).block 0) _ _ _:=b1.block (n:=0) (u:=M0.f.length) (by rw[l1];omega) Zd;have l2:((M0.block 2).block 0).f.length=M0.f.length+2:=by rw[yz,l1]
 have b3:aaz p (((M0.block 2).block 0).block 0) _ _ _:=b2.block (n:=0) (u:=M0.f.length) (by rw[l2];omega) Zd;have l3:(((M0.block 2).block 0).block 0).f.length=M0.f.length+3:=by rw[yz,l2]
 rw[l1,l2] at b3
 have g0:(((M0.block 2).block 0).block 0).f[M0.f.length]? =some (wJ M0.next 2):=by
  have h1:=abK M0 2;obtain⟨y,hy,_⟩:=abg (M0.block 2) 0 _ _ h1
  show(((M0.block 2).f++ [_])++ [_])[M0.f.length]? =_
  rw[Np (by simp[l1];omega),Np (by rw[l1];omega)];exact h1
 have g1:(((M0.block 2).block 0).block 0).f[M0.f.length+1]? =some (wJ (M0.block 2).next 0):=by
  have h1:=abK (M0.block 2) 0;rw[l1] at h1
  show(((M0.block 2).block 0).f++ [_])[M0.f.length+1]? =_
  rw[Np (by rw[l2];omega)];exact h1
 have g2:(((M0.block 2).block 0).block 0).f[M0.f.length+2]? =some (wJ ((M0.block 2).block 0).next 0):=by
  have h1:=abK ((M0.block 2).block 0) 0;rw[l2] at h1;exact h1
 have bx:ky M0.f (((M0.block 2).block 0).block 0).f:=((abg _ _).trans (abg _ _)).trans (abg _ _);have bc:(((M0.block 2).block 0).block 0).cur=M0.cur:=rfl;have bv:(((M0.block 2).block 0).block 0).vals=M0.vals:=rfl;have j:pl.length=M0.f.length:=a1.len;have d6:((pl++ [M0.cur])++ [M0.f.length])++ [M0.f.length]=pl++ [M0.cur,M0.f.length,M0.f.length]:=by simp
 rw[d6] at b3;have q0:(pl++ [M0.cur,M0.f.length,M0.f.length])[M0.f.length]? =some M0.cur:=by rw[<-j];exact fH (i:=0) rfl
 have q1:(pl++ [M0.cur,M0.f.length,M0.f.length])[M0.f.length+1]? =some M0.f.length:=by
  have:=fH (l:=pl) (m:=[M0.cur,M0.f.length,M0.f.length]) (i:=1) rfl;rw[j] at this;exact this
 have q2:(pl++ [M0.cur,M0.f.length,M0.f.length])[M0.f.length+2]? =some M0.f.length:=by
  have:=fH (l:=pl) (m:=[M0.cur,M0.f.length,M0.f.length]) (i:=2) rfl;rw[j] at this;exact this
 have a0:(fun i=>((O i∨i=M0.f.length)∨i=M0.f.length+1)∨i=M0.f.length+2) (((M0.block 2).block 0).block 0).cur:=.inl (.inl (.inl (by rw[bc,ac];exact hO)));have c9:¬P M0.cur:=by rw[ac];exact hnP
 have a5:∀i,P i->i<M0.f.length:=fun i hi=>by rw[al];exact d1 i (hPO i hi)
 have d7:∀i,O i->i<M0.f.length:=fun i hi=>by rw[al];exact d1 i hi
 generalize ((M0.block 2).block 0).block 0=MB at *;generalize M0.f.length=hd at *;have o:pl<+:pl++ [M0.cur,hd,hd]:=Qb _ _;generalize (pl++ [M0.cur,hd,hd])=pl0 at *
 have e1:=b3.endB (t:=⟨1,0,[⟨(hd:Nat),[(M.next:Int),xv]⟩]⟩) a0 rfl (by show 1<=4;decide) (fun e d=>by
  rw[Jo] at d;subst d
  exact⟨hd,M0.cur,_,rfl,by omega,g0,by simp[wJ],q0,by rw[bc];exact .refl _⟩) (fun v hv=>by
  rw[gQ] at hv;refine b3.at ?_;rw[bv];rcases Jq.1 hv with rfl|hv
  ·exact an
  ·rw[Jo] at hv;subst hv;exact a2) (P':=fun i=>P i∨(i=hd+1∨i=hd+2)) (by
  rw[bc];rintro(((e|e)|e)|e)
  ·exact c9 e
  ·omega
  ·omega
  ·omega) (fun i e=>by
  rcases e with((e|e)|e)|e
  ·exact .inl (.inl e)
  ·exact .inr ⟨_,Jo.2 rfl,by subst e;rfl⟩
  ·exact .inl (.inr (.inl e))
  ·exact .inl (.inr (.inr e)))
 have d3:=bx.trans (xd b3 a0 ⟨1,0,[⟨(hd:Nat),[(M.next:Int),xv]⟩]⟩);obtain⟨y0,b0,a9,_⟩:=xd b3 a0 ⟨1,0,[⟨(hd:Nat),[(M.next:Int),xv]⟩]⟩ _ _ g0;obtain⟨y1,c4,a8,_⟩:=xd b3 a0 ⟨1,0,[⟨(hd:Nat),[(M.next:Int),xv]⟩]⟩ _ _ g1;obtain⟨y2,c3,a7,_⟩:=xd b3 a0 ⟨1,0,[⟨(hd:Nat),[(M.next:Int),xv]⟩]⟩ _ _ g2;have d4:(MB.endB ⟨1,0,[⟨(hd:Nat),[(M.next:Int),xv]⟩]⟩).vals=M0.vals:=bv;generalize MB.endB ⟨1,0,[⟨(hd:Nat),[(M.next:Int),xv]⟩]⟩=M2 at *;rw[bc] at e1;have b4:y0.params=[(M0.next:Int),((M0.next+1:Nat):Int)]:=by rw[a9];simp[wJ,List.range_succ]
 have e9:y1.params.length=0:=by rw[a8];simp[wJ]
 have e8:y2.params.length=0:=by rw[a7];simp[wJ]
 clear a9 a8 a7 g0 g1 g2;have l0:hd<M2.f.length:=(Jh.1 b0).1;have f7:hd+1<M2.f.length:=(Jh.1 c4).1;have f6:hd+2<M2.f.length:=(Jh.1 c3).1;have k:Abv pl0 M0.cur hd:=.up q0 Zo (.refl _)
 have w:∀v∈M0.vals,∃q,Kn M2.f pl0 v M0.cur q:=fun v hv=>by
  obtain⟨b,hb⟩:=a1.get;exact⟨_,(a1.known v hv b hb).ext d3 o (Og _)⟩
 have c0:aaz p M2 (fun i=>(O i/\i≠M0.cur)∨(hd<=i/\i<=hd+2)) (fun i=>P i∨(i=hd+1∨i=hd+2)) pl0:=e1.weak (fun i=>by
  constructor
  ·rintro⟨((e|e)|e)|e,e2⟩
   ·exact .inl ⟨e,e2⟩
   ·exact .inr Zo
   ·exact .inr Zo
   ·exact .inr Zo
  ·rintro(e|e)
   ·exact⟨.inl (.inl (.inl e.1)),e.2⟩
   ·refine⟨?_,by omega⟩
    by_cases e1:i=hd
    ·exact .inl (.inl (.inr e1))
    by_cases e2:i=hd+1
    ·exact .inl (.inr e2)
    ·exact .inr Zo) (fun i e=>e)
 have a6:∀ {f:List IBlk} {q:List Nat},ky M2.f f->∀v∈y0.params,Kn f q v hd 0:=fun hf v hv=>by
  obtain⟨z,hz,e5,_⟩:=hf _ _ b0;exact⟨hd,-1,⟨z,hz,.inl ⟨rfl,by rw[e5];exact hv⟩⟩,.refl _,fun _=>by decide⟩
 have c8:(M0.next:Int)∈y0.params:=by rw[b4];simp
 have c7:((M0.next+1:Nat):Int)∈y0.params:=by rw[b4];simp
 have f1:aaz p {M2 with cur:=hd,vals:=M2.vals++ [((M0.next+1:Nat):Int)]} (fun i=>(O i/\i≠M0.cur)∨(hd<=i/\i<=hd+2)) (fun i=>P i∨(i=hd+1∨i=hd+2)) pl0:=c0.goto l0 (fun v hv b hb=>by
  rcases Jl.1 hv with hv|hv
  ·rw[d4] at hv;obtain⟨q,hq⟩:=w v hv;exact c0.below hq k (show M0.cur≠hd by omega)
  ·rw[Jo] at hv;subst hv
   exact(a6 (ky.refl _) _ c7).ext (ky.refl _) Od Zo)
 have d2:(fun i=>(O i/\i≠M0.cur)∨(hd<=i/\i<=hd+2)) ({M2 with cur:=hd,vals:=M2.vals++ [((M0.next+1:Nat):Int)]}:MS).cur:=.inr ⟨Je _,by show hd<=hd+2;omega⟩
 have f2:=f1.endB (t:=⟨2,(M0.next:Nat),[⟨((hd+1:Nat):Int),[]⟩,⟨((hd+2:Nat):Int),[]⟩]⟩) d2 rfl (by show 2<=4;decide) (fun e d=>by
  rcases Jq.1 d with rfl|d
  ·exact⟨hd+1,hd,y1,rfl,by omega,c4,by rw[e9];rfl,q1,.refl _⟩
  ·rw[Jo] at d;subst d
   exact⟨hd+2,hd,y2,rfl,by omega,c3,by rw[e8];rfl,q2,.refl _⟩) (fun v hv b hb=>by
    rcases gL hv with rfl|hv
    ·exact(a6 (ky.refl _) _ c8).ext (ky.refl _) Od Zo
    ·cases hv) (P':=P) (by
    rintro(e|e)
    ·have e':P hd:=e;have:=a5 _ e';omega
    ·have e':hd=hd+1∨hd=hd+2:=e
     omega) (fun i e=>by
    rcases e with e|e|e
    ·exact .inl e
    ·exact .inr ⟨_,.head _,by subst e;rfl⟩
    ·exact .inr ⟨_,.tail _ (.head _),by subst e;rfl⟩)
 have fx:=xd f1 d2 ⟨2,(M0.next:Nat),[⟨((hd+1:Nat):Int),[]⟩,⟨((hd+2:Nat):Int),[]⟩]⟩
 have fv:(({M2 with cur:=hd,vals:=M2.vals++ [((M0.next+1:Nat):Int)]}:MS).endB ⟨2,(M0.next:Nat),[⟨((hd+1:Nat):Int),[]⟩,⟨((hd+2:Nat):Int),[]⟩]⟩).vals=M0.vals++ [((M0.next+1:Nat):Int)]:=by
  show M2.vals++_=_
  rw[d4]
 have fl:M2.f.length<=(({M2 with cur:=hd,vals:=M2.vals++ [((M0.next+1:Nat):Int)]}:MS).endB ⟨2,(M0.next:Nat),[⟨((hd+1:Nat):Int),[]⟩,⟨((hd+2:Nat):Int),[]⟩]⟩).f.length:=ja fx;generalize ({M2 with cur:=hd,vals:=M2.vals++ [((M0.next+1:Nat):Int)]}:MS).endB ⟨2,(M0.next:Nat),[⟨((hd+1:Nat):Int),[]⟩,⟨((hd+2:Nat):Int),[]⟩]⟩=M3 at *;have g:ky M2.f M3.f:=fx;have b7:Abv pl0 hd (hd+1):=.up q1 Zo (.refl _);have b6:Abv pl0 hd (hd+2):=.up q2 Zo (.refl _)
 have c5:∀v∈M3.vals,∃q,Kn M3.f pl0 v hd q:=fun v hv=>by
  rw[fv] at hv;rcases Jl.1 hv with hv|hv
  ·obtain⟨q,hq⟩:=w v hv;exact⟨0,c0.below hq k Zo|>.ext g Od (Og _)⟩
  ·rw[Jo] at hv;subst hv;exact⟨0,a6 g _ c7⟩
 have g1:aaz p {M3 with cur:=hd+1 } (fun i=>((O i/\i≠M0.cur)∨(hd<=i/\i<=hd+2))/\i≠hd) P pl0:=f2.goto (show hd+1<M3.f.length by omega) (fun v hv b hb=>by
  obtain⟨q,hq⟩:=c5 v hv
  exact f2.below hq b7 (show hd≠hd+1 by omega))
 obtain⟨pl4,hq⟩:=c2 _ _ _ pl0 g1 ⟨.inr ⟨by show hd<=hd+1;omega,by show hd+1<=hd+2;omega⟩,by show hd+1≠hd;omega⟩ (fun e=>by
  have e':P (hd+1):=e;have:=a5 _ e'
  omega) (fun i e=>⟨.inl ⟨hPO i e,fun e2=>c9 (by rw[<-e2];exact e)⟩,by have:=a5 i e;omega⟩)
 have f3:({M3 with cur:=hd+1 }:MS).cur=hd+1:=rfl;have f0:({M3 with cur:=hd+1 }:MS).f=M3.f:=rfl;have e7:({M3 with cur:=hd+1 }:MS).vals=M3.vals:=rfl;obtain⟨k1,k2,k3,k4,k5,k6,k7⟩:=hq;rw[f3] at k2 k3 k4;rw[f0] at k4 k7;rw[e7] at k6;generalize a3 {M3 with cur:=hd+1 }=M4 at *;have b5:Abv pl4 hd M4.cur:=(b7.ext k1).trans k3;have b9:(fun i=>((((O i/\i≠M0.cur)∨(hd<=i/\i<=hd+2))/\i≠hd)/\i≠hd+1)∨i=M4.cur) M4.cur:=.inr rfl;obtain⟨m1,m2⟩:=k2.num b9 1;have mg:=wT M4 1;have mx:ky M2.f (M4.num 1).f:=(g.trans k7).trans (abB M4 1)
 obtain⟨s1,s2⟩:=m1.emitK (c:=6) (by rw[mg.cur];exact b9) (F:=⟨true,true,true,true,false⟩) rfl ⟨rfl,rfl⟩ Zd Zd Zd (a:=(M0.next:Nat)) (b:=(M4.next:Nat)) (n:=0) (.inl ⟨rfl,fun x hx=>by
  have h1:=a6 (q:=pl4) mx _ c8
  by_cases e:hd=(M4.num 1).cur
  ·rw[<-e];exact h1.ext (ky.refl _) Od Zo
  ·exact m1.below h1 (by rw[mg.cur];exact b5) e⟩) (.inl ⟨rfl,m1.at m2⟩) (.inr rfl) (.inl Zd)
 have sg:=yB (M4.num 1) ⟨6,0,(M0.next:Nat),(M4.next:Nat),0,[]⟩;have sc:((M4.num 1).emit ⟨6,0,(M0.next:Nat),(M4.next:Nat),0,[]⟩).cur=M4.cur:=sg.cur.trans mg.cur;have sx:ky M4.f ((M4.num 1).emit ⟨6,0,(M0.next:Nat),(M4.next:Nat),0,[]⟩).f:=(abB M4 1).trans (aaD _ _);have sv:M4.vals<+:((M4.num 1).emit ⟨6,0,(M0.next:Nat),(M4.next:Nat),0,[]⟩).vals:=mg.pre.trans sg.pre;have sn:((M4.num 1).next:Int)=((M4.next+1:Nat):Int):=rfl;rw[sn] at s2;generalize (M4.num 1).emit ⟨6,0,(M0.next:Nat),(M4.next:Nat),0,[]⟩=M5 at *;obtain⟨t1,t2⟩:=s1.any E (by rw[sc];exact b9);have tg:=yU E M5;have tc:(zJ E M5).2.cur=M4.cur:=tg.cur.trans sc;have tx:=sx.trans (aaW E M5);have tv:=sv.trans tg.pre;have tn:((M4.next+1:Nat):Int)∈(zJ E M5).2.vals:=tg.pre.subset s2;generalize zJ E M5=y at *;obtain⟨yv,M6⟩:=y;simp only at t1 t2 tc tx tv tn ⊢;have b8:(fun i=>((((O i/\i≠M0.cur)∨(hd<=i/\i<=hd+2))/\i≠hd)/\i≠hd+1)∨i=M4.cur) M6.cur:=.inr tc;obtain⟨z0,e6,d5,_⟩:=(g.trans (k7.trans tx)) _ _ b0
 have u1:=t1.endB (t:=⟨1,0,[⟨(hd:Nat),[((M4.next+1:Nat):Int),yv]⟩]⟩) b8 rfl (by show 1<=4;decide) (fun e d=>by
  rw[Jo] at d;subst d
  exact⟨hd,M0.cur,z0,rfl,by omega,e6,by rw[d5,b4];rfl,aaS k1 q0,by rw[tc];exact(k.ext k1).trans b5⟩) (fun v hv=>by
  rw[gQ] at hv;refine t1.at ?_;rcases Jq.1 hv with rfl|hv
  ·exact tn
  ·rw[Jo] at hv;subst hv;exact t2) (P':=P) (by rw[tc];exact k5) (fun i e=> .inl e)
 have ux:=(g.trans (k7.trans tx)).trans (xd t1 b8 ⟨1,0,[⟨(hd:Nat),[((M4.next+1:Nat):Int),yv]⟩]⟩);have uv:M3.vals<+:(M6.endB ⟨1,0,[⟨(hd:Nat),[((M4.next+1:Nat):Int),yv]⟩]⟩).vals:=k6.trans tv;have e0:=(k7.trans tx).trans (xd t1 b8 ⟨1,0,[⟨(hd:Nat),[((M4.next+1:Nat):Int),yv]⟩]⟩);rw[tc] at u1;generalize M6.endB ⟨1,0,[⟨(hd:Nat),[((M4.next+1:Nat):Int),yv]⟩]⟩=M7 at *;have f8:=ja ux;have a4:M7.vals.take M3.vals.length=M3.vals:=uF uv;refine⟨pl4,o.trans k1,?_,?_,.inr (by show M.f.length<=hd+2;omega),fun e=>?_,?_,ax.trans (d3.trans ux)⟩
 ·have w1:MInv p M7.f (hd+2) M7.next (M7.vals.take M3.vals.length) _ P pl4:=u1.goto Zo (fun v hv b hb=>by
   rw[a4] at hv;obtain⟨q,hq⟩:=c5 v hv
   exact u1.below (hq.ext e0 k1 (Og _)) (b6.ext k1) Zo)
  refine w1.weak (fun i=>?_) (fun i e=>e);have f4:=ja g;rw[<-ac];constructor
  ·rintro⟨⟨⟨e|e,e2⟩,e3⟩|e,e4⟩
   ·exact .inl e
   ·exact .inr (show i=hd+2 by omega)
   ·exact absurd e e4
  ·rintro(e|e)
   ·have hi:=d7 i e.1;refine⟨.inl ⟨⟨.inl e,by omega⟩,by omega⟩,fun e2=>?_⟩;rcases k4 with k4|k4<;>omega
   ·have e':i=hd+2:=e;refine⟨.inl ⟨⟨.inr Zo,by omega⟩,by omega⟩,fun e2=>?_⟩;rcases k4 with k4|k4<;>omega
 ·rw[<-ac];exact(k.ext k1).trans (b6.ext k1)
 ·have e':P (hd+2):=e;have:=a5 _ e';omega
 ·show M.vals<+:M7.vals.take M3.vals.length
  rw[a4,fv];exact av.trans (Qb _ _)
section
variable {p:IProg} {E:ME} (hp:EnvOk p E)
include hp
theorem abq:∀d,so p (zp E d)
 |0=>fX hp
 |d+1=>fun M O P pl h hO hn hPO=>by
  obtain⟨pl1,h1⟩:=fX hp M O P pl h hO hn hPO;have hl:=ja (eO E M)
  have next:∀ {pt:MS->MS},so p pt->(∀M2:MS,M2.f=(tR E M).f->M2.cur=(tR E M).cur->M2.next=(tR E M).next->M2.vals=(tR E M).vals->∃pl',PartOut M O P pl p (pt M2) pl'):=fun {pt} hpt M2 e1 e2 e3 e4=>by
   have hi:aaz p M2 (fun i=>(O i/\i≠M.cur)∨i=(tR E M).cur) P pl1:=by
    have:=h1.inv;unfold aaz at this ⊢;rw[e1,e2,e3,e4];exact this
   obtain⟨g,h2⟩:=hpt M2 _ P pl1 hi (.inr e2) (by rw[e2];exact h1.np) (fun i e=> .inl ⟨hPO i e,fun e3=>hn (by rw[<-e3];exact e)⟩);have j:PartOut M O P pl p M2 pl1:=⟨h1.pre,by rw[e2];exact hi,by rw[e2];exact h1.abv,by rw[e2];exact h1.new,by rw[e2];exact h1.np,by rw[e4];exact h1.vals,by rw[e1];exact h1.ext⟩
   refine⟨g,j.trans ?_ (by rw[e1];exact hl) h.lt⟩;have e5:(fun i=>(O i/\i≠M.cur)∨i=(tR E M).cur)=(fun i=>(O i/\i≠M.cur)∨i=M2.cur):=by rw[e2]
   rw[<-e5];exact h2
  unfold zp;simp only
  have c:so p (fun M=>M):=fun M O P pl h hO hn hPO=>⟨pl,Od,h.weak (fun i=>⟨fun e=>by
   by_cases e2:i=M.cur
   ·exact .inr e2
   ·exact .inl ⟨e,e2⟩,fun e=>e.elim (·.1) (fun e=>by rw[e];exact hO)⟩) (fun i e=>e),.refl _,.inl rfl,hn,Od,ky.refl _⟩
  split
  ·exact next c _ rfl rfl rfl rfl
  split
  ·exact next (gI (abq d) (n:=2) ⟨by decide,by decide⟩) (tR E M).tick rfl rfl rfl rfl
  split
  ·exact next (ee (abq d)) (tR E M).tick rfl rfl rfl rfl
  split
  ·have:=aaE E (tR E M).tick (n:=3) Zo;exact next (gI (abq d) (n:=2+tkV E (tR E M).tick 3) ⟨by omega,by omega⟩) (tR E M).tick.tick rfl rfl rfl rfl
  ·exact next c (tR E M).tick rfl rfl rfl rfl
end
theorem tT {α β:Type}(f:α->β){l:List α}{k:Nat}{b:α}(hk:l[k]? =some b):(l.map f).Perm (f b::(l.eraseIdx k).map f):=by
 obtain⟨c,hb⟩:=Jh.1 hk
 have e1:l=l.take k++b::l.drop (k+1):=by
  rw[<-hb,Ue,Qi]
 rw[List.eraseIdx_eq_take_drop_succ]
 conv=>lhs;rw[e1]
 rw[Js,Js,Ql];exact List.perm_middle
theorem rM {α β:Type}(f:α->β){l:List α}{k:Nat}(hk:k<l.length)(a:α):((l.set k a).map f).Perm (f a::(l.eraseIdx k).map f):=by
 have h:=tT f (l:=l.set k a) (k:=k) (b:=a) (by rw[Nn hk]);rw[List.eraseIdx_set_eq] at h;exact h
section
variable {w:World} {B g i:Nat} {v:Value} {bt:BT} {l:List BT} {rs:List Row} (h:SpSt w B g i v bt l rs)
include h
theorem SpSt.growB {w1 w9:World}{r r':Row}{q:List Row}{j:Nat}{u:Value}{bt':BT}(hp:bt.rows.Perm (r::q))(d:O w w1)(hg:w1.grownBy w9 r.blk)(c:w9.ownsRow B r'.e r'.sz r'.v r'.n r'.cs)
 (m:∀k,r'.blk=some k->r.blk=some k∨w.heap.size<=k) (hq:(r'::q).Perm bt'.rows) (o:j<5) (t:(zz bt).set j u=zz bt'):SpSt (w9.setCell ⟨g,i*5+j,none⟩ u) B g i v bt' (l.set i bt') rs:=by
 have h1:(zd v l::(bt.rows++rs)).Perm (r::(zd v l::(q++rs))):=((hp.append_right rs).cons _).trans (List.Perm.swap _ _ _);have h2:=(h.rows.perm h1).grow d hg c m;have h3:Rows w9 B (zd v l::(bt'.rows++rs)):=h2.perm ((List.Perm.swap _ _ _).trans ((hq.append_right rs).cons _));refine⟨?_,h.set_at bt',h.gb⟩;refine h3.put (r':=zd v (l.set i bt')) h.gb (fun k hk=>Below.heap_setCell _ _ _ _ hk) ?_ rfl
 show(w9.setCell ⟨g,i*5+j,none⟩ u).ownsRow B 84 5 v (l.set i bt').length ((l.set i bt').flatMap zz)
 rw[Nd];exact yp zX (h3.own _ (.head _)) h.gb h.at' o t
theorem SpSt.growO {w1 w9:World}{ob k:Nat}{av av':Value}{o:IOp}{x:Int}(c:bt.ov.ownBlock=some ob)(hk:bt.ops[k]? =some (o,av))(m:O w w1)(hg:w1.grownBy w9 av.ownBlock)(d:w9.ownsRow B 3 1 av' (o.args.length+1) (o.args.map zN++ [zN x]))
 (q:∀k,av'.ownBlock=some k->av.ownBlock=some k∨w.heap.size<=k):
 SpSt (w9.setCell ⟨ob,k*6+5,none⟩ av') B g i v {bt with ops:=bt.ops.set k ({o with args:=o.args++ [x]},av')} (l.set i {bt with ops:=bt.ops.set k ({o with args:=o.args++ [x]},av')}) rs:=by
 have j:=(Jh.1 hk).1;have p1:(g9 bt.ops).Perm (zP av o.args::(bt.ops.eraseIdx k).map fun o=>zP o.2 o.1.args):=tT (fun o:IOp×Value=>zP o.2 o.1.args) hk;have p2:(g9 (bt.ops.set k ({o with args:=o.args++ [x]},av'))).Perm (zP av' (o.args++ [x])::(bt.ops.eraseIdx k).map fun o=>zP o.2 o.1.args):=rM (fun o:IOp×Value=>zP o.2 o.1.args) j ({o with args:=o.args++ [x]},av');refine h.sub rfl ?_;generalize (bt.ops.eraseIdx k).map (fun o=>zP o.2 o.1.args)=E at p1 p2
 classical
 have c1:=Jp.1 p1;have c2:=Jp.1 p2
 have hp:(zd v l::(bt.rows++rs)).Perm (zP av o.args::(re bt.ov bt.ops::(zd v l::zP bt.pv bt.params::xg bt.tv bt.tos::(E++ve bt.tos)++rs))):=by
  unfold BT.rows;refine Jp.2 fun r=>?_
  have:=c1 r;simp only[Nb,Nf] at this ⊢;omega
 have h2:=(h.rows.perm hp).grow (r':=zP av' (o.args++ [x])) m hg (by
  show w9.ownsRow B 3 1 av' (o.args++ [x]).length ((o.args++ [x]).map zN)
  rw[Jk,Ju,Js]
  exact d) q
 have h3:=h2.perm (List.Perm.swap _ _ _)
 have t:=h3.put (g:=ob) (r':=re bt.ov (bt.ops.set k ({o with args:=o.args++ [x]},av'))) (w':=w9.setCell ⟨ob,k*6+5,none⟩ av') c (fun k hk=>Below.heap_setCell _ _ _ _ hk) (by
  show(w9.setCell ⟨ob,k*6+5,none⟩ av').ownsRow B 76 6 bt.ov (bt.ops.set k ({o with args:=o.args++ [x]},av')).length _
  rw[Nd]
  exact yp z7 (h3.own _ (.head _)) c hk Zd rfl) rfl
 refine t.perm ?_;unfold BT.rows;refine Jp.2 fun r=>?_
 have:=c2 r;simp only[Nb,Nf] at this ⊢;omega
theorem SpSt.growE {w1 w9:World}{ob k:Nat}{av av':Value}{o:IEdge}{x:Int}(c:bt.tv.ownBlock=some ob)(hk:bt.tos[k]? =some (o,av))(m:O w w1)(hg:w1.grownBy w9 av.ownBlock)(d:w9.ownsRow B 3 1 av' (o.args.length+1) (o.args.map zN++ [zN x]))
 (q:∀k,av'.ownBlock=some k->av.ownBlock=some k∨w.heap.size<=k):
 SpSt (w9.setCell ⟨ob,k*2+1,none⟩ av') B g i v {bt with tos:=bt.tos.set k ({o with args:=o.args++ [x]},av')} (l.set i {bt with tos:=bt.tos.set k ({o with args:=o.args++ [x]},av')}) rs:=by
 have j:=(Jh.1 hk).1;have p1:(ve bt.tos).Perm (zP av o.args::(bt.tos.eraseIdx k).map fun o=>zP o.2 o.1.args):=tT (fun o:IEdge×Value=>zP o.2 o.1.args) hk;have p2:(ve (bt.tos.set k ({o with args:=o.args++ [x]},av'))).Perm (zP av' (o.args++ [x])::(bt.tos.eraseIdx k).map fun o=>zP o.2 o.1.args):=rM (fun o:IEdge×Value=>zP o.2 o.1.args) j ({o with args:=o.args++ [x]},av');refine h.sub rfl ?_;generalize (bt.tos.eraseIdx k).map (fun o=>zP o.2 o.1.args)=E at p1 p2
 classical
 have c1:=Jp.1 p1;have c2:=Jp.1 p2
 have hp:(zd v l::(bt.rows++rs)).Perm (zP av o.args::(xg bt.tv bt.tos::(zd v l::zP bt.pv bt.params::re bt.ov bt.ops::(g9 bt.ops++E)++rs))):=by
  unfold BT.rows;refine Jp.2 fun r=>?_
  have:=c1 r;simp only[Nb,Nf] at this ⊢;omega
 have h2:=(h.rows.perm hp).grow (r':=zP av' (o.args++ [x])) m hg (by
  show w9.ownsRow B 3 1 av' (o.args++ [x]).length ((o.args++ [x]).map zN)
  rw[Jk,Ju,Js]
  exact d) q
 have h3:=h2.perm (List.Perm.swap _ _ _)
 have t:=h3.put (g:=ob) (r':=xg bt.tv (bt.tos.set k ({o with args:=o.args++ [x]},av'))) (w':=w9.setCell ⟨ob,k*2+1,none⟩ av') c (fun k hk=>Below.heap_setCell _ _ _ _ hk) (by
  show(w9.setCell ⟨ob,k*2+1,none⟩ av').ownsRow B 79 2 bt.tv (bt.tos.set k ({o with args:=o.args++ [x]},av')).length _
  rw[Nd]
  exact yp yd (h3.own _ (.head _)) c hk Zd rfl) rfl
 refine t.perm ?_;unfold BT.rows;refine Jp.2 fun r=>?_
 have:=c2 r;simp only[Nb,Nf] at this ⊢;omega
theorem SpSt.cutO {k:Nat}{oa:Option Addr}{n c:Nat}(hv:bt.ov=.slice oa n c)(o:n=bt.ops.length)(hk:k<=bt.ops.length):
 SpSt (w.setCell ⟨g,i*5+1,none⟩ (.slice oa k c)) B g i v {bt with ops:=bt.ops.take k,ov:=.slice oa k c } (l.set i {bt with ops:=bt.ops.take k,ov:=.slice oa k c }) rs:=by
 classical
 subst o
 have e1:g9 bt.ops=g9 (bt.ops.take k)++g9 (bt.ops.drop k):=by
  unfold g9;rw[<-Js,Qi]
 have hp:(zd v l::(bt.rows++rs)).Perm (g9 (bt.ops.drop k)++(re bt.ov bt.ops::(zd v l::zP bt.pv bt.params::xg bt.tv bt.tos::(g9 (bt.ops.take k)++ve bt.tos)++rs))):=by
  unfold BT.rows;rw[e1];refine Jp.2 fun r=>?_
  simp only[Nb,Nf];omega
 have h2:=(h.rows.perm hp).right;have ho:=h2.own _ (.head _)
 have h3:Rows w B (re (.slice oa k c) (bt.ops.take k)::(zd v l::zP bt.pv bt.params::xg bt.tv bt.tos::(g9 (bt.ops.take k)++ve bt.tos)++rs)):=by
  refine h2.tail.cons ?_ (fun x e=>?_)
  ·have d:w.ownsRow B 76 6 (.slice oa bt.ops.length c) bt.ops.length (bt.ops.flatMap zU):=by rw[<-hv];exact ho
   have hl:(bt.ops.take k).length=k:=by rw[Oc];omega
   show w.ownsRow B 76 6 (.slice oa k c) (bt.ops.take k).length ((bt.ops.take k).flatMap zU)
   rw[hl];obtain⟨q1,q2⟩:=d;refine⟨by rw[wq zU 6 (fun _=>rfl),hl],?_⟩;rcases q2 with⟨q3,q4⟩|⟨gg,q,cur,q3,q4,q5,q6,q7,q8,q9⟩
   ·left
    injection q3 with z1 z2 z3
    have j:k=0:=Zo;subst z1 z3 j;exact⟨rfl,by simp⟩
   ·injection q3 with z1 z2 z3
    subst z1 z3;refine .inr ⟨gg,c,cur,rfl,q4,q5,by omega,q7,q8,?_⟩
    have e3:(bt.ops.take k).flatMap zU=(bt.ops.flatMap zU).take (k*6):=by
     have e4:((bt.ops.take k).flatMap zU).length=k*6:=by rw[wq zU 6 (fun _=>rfl),hl]
     have e5:=List.take_left (l₁:=(bt.ops.take k).flatMap zU) (l₂:=(bt.ops.drop k).flatMap zU);rw[e4,<-Nx,Qi] at e5;exact e5.symm
    rw[e3,<-q9,List.take_take]
    congr 1
    omega
  ·refine h2.apart (g:=x) ?_;have e2:(Value.slice oa k c).ownBlock=some x:=e
   show bt.ov.ownBlock=some x
   rw[hv]
   cases oa with
   |none=>cases e2
   |some ad=>exact e2
 have m:Rows w B (zd v l::(({bt with ops:=bt.ops.take k,ov:=.slice oa k c }:BT).rows++rs)):=h3.perm (by
  unfold BT.rows;simp only;refine Jp.2 fun r=>?_
  simp only[Nb,Nf]
  omega)
 refine⟨?_,h.set_at _,h.gb⟩;refine m.put (r':=zd v (l.set i {bt with ops:=bt.ops.take k,ov:=.slice oa k c })) h.gb (fun k hk=>Below.heap_setCell _ _ _ _ hk) ?_ rfl
 show(w.setCell ⟨g,i*5+1,none⟩ _).ownsRow B 84 5 v (l.set i _).length ((l.set i _).flatMap zz)
 rw[Nd];exact yp zX (m.own _ (.head _)) h.gb h.at' Zd rfl
end
theorem putO {bt:BT}{rs:List Row}{w:World}{B:Nat}{ob k:Nat}{c:List (IOp×Value)}{x:IOp×Value}{r0:IOp×Value}(d:bt.ov.ownBlock=some ob){ol:List (IOp×Value)}(hr:Rows w B (re bt.ov ol::rs))(hk:ol[k]? =some r0)(h:c=ol.set k x):
 Rows (w.setCells ob (k*6) (zU x)) B (re bt.ov c::rs):=by
 subst h;refine hr.put (g:=ob) (r':=re bt.ov (ol.set k x)) d (fun q hq=>ye ob q hq _ _ _) ?_ rfl
 show(w.setCells ob (k*6) (zU x)).ownsRow B 76 6 bt.ov (ol.set k x).length ((ol.set k x).flatMap zU)
 rw[Nd];exact uZ z7 (hr.own _ (.head _)) d hk x
def spO (what n:Nat)(o:IOp):IOp:=
 match what with
 |0=> {o with code:=(n:Int)/7%30 }
 |1=> {o with res:=(n:Int)/7%40-2 }
 |2=> {o with a:=(n:Int)/7%40-2 }
 |3=> {o with b:=(n:Int)/7%40 }
 |4=> {o with n:=n/7%300 }
 |5=> {o with args:=o.args++ [(n:Int)/7%20]}
 |_=>o
def xh (what n:Nat)(b:IBlk):IBlk:=
 if what<=7 then
  (if b.ops.length=0 then b
   else if what=6 then
    (match b.ops[n%b.ops.length]?,b.ops[n/7%b.ops.length]? with
     |some x,some y=> {b with ops:=(b.ops.set (n%b.ops.length) y).set (n/7%b.ops.length) x }
     |_,_=>b)
   else if what=7 then {b with ops:=b.ops.take (n%b.ops.length)}
   else {b with ops:=wD b.ops (n%b.ops.length) (spO what n)})
 else if what=8 then {b with params:=b.params++ [(n:Int)%40]}
 else if what=9 then {b with term:= {b.term with kind:=(n:Int)%7 }}
 else if what=10 then {b with term:= {b.term with a:=(n:Int)%40-2 }}
 else if what=11 then {b with term:=⟨b.term.kind,b.term.a,wD b.term.to 0 fun e=> {e with block:=(n:Int)%9-1 }⟩}
 else if what=12 then {b with term:=⟨b.term.kind,b.term.a,wD b.term.to (b.term.to.length-1) fun e=> {e with args:=e.args++ [(n:Int)%40]}⟩}
 else b
theorem Chg.refl (w:World)(rs:List Row):Chg w rs w:=⟨rfl,rfl,rfl,Je _,fun _ _ _=>rfl⟩
theorem Chg.trans {w w1 w2:World}{rs:List Row}(h:Chg w rs w1)(k:Chg w1 rs w2):Chg w rs w2:=
 ⟨k.os.trans h.os,k.tape.trans h.tape,k.output.trans h.output,Jn h.size k.size,fun x hx hn=>(k.kept x (Jy hx h.size) hn).trans (h.kept x hx hn)⟩
theorem Chg.below {w w1:World}{rs:List Row}(hb:O w w1):Chg w rs w1:=⟨hb.os,hb.tape,hb.output,hb.size,fun k hk _=>hb.block k hk⟩
theorem uY {w w1:World}{r:Row}(hg:w.grownBy w1 r.blk):Chg w [r] w1:=
 ⟨hg.os,hg.tape,hg.output,hg.size,fun k hk hn=>hg.block k hk (fun e=>hn (Nj.2 ⟨r,.head _,e.symm⟩))⟩
theorem Chg.one {w w1:World}{r:Row}{rs:List Row}(h:Chg w [r] w1)(hr:r∈rs):Chg w rs w1:=h.of fun k hk=>by
 obtain⟨x,c,e⟩:=Nj.1 hk;rw[Jo] at c;subst c;exact Nj.2 ⟨_,hr,e⟩
theorem aag {w:World}{V:PV}{p:IProg}(hp:ProgIn w w.heap.size V p){g oa ob:Int}{on:Nat}(ab:Option Addr)(an ac:Nat)(xs:List Int)(b0:xs.length=an)(b8:an<=9223372036854775807)(hl:p.args.length=p.funcs.length):
 G 61 #[yH V p,.agg #[I (26),I g,I oa,I ob,U on,.slice ab an ac]] w (ym w (opF p ⟨26,g,oa,ob,on,xs⟩)):=by
 obtain⟨Vf,Va,Vd,Vb⟩:=V;obtain⟨f1,f2,e1,b3,_⟩:=hp.funcs.form;obtain⟨a1,a2,e2,_,_⟩:=hp.args.form;obtain⟨d1,d2,e3,b4,_⟩:=hp.data.form;obtain⟨b1,b2,e4,_,_⟩:=hp.banks.form;simp only at e1 e2 e3 e4;subst e1 e2 e3 e4;unfold yH;simp only;have b6:p.funcs.length<=9223372036854775807:=Zo;have b7:p.data.length<=9223372036854775807:=Zo;have a8:=((Below.refl w.heap.size w).alloc (Je _) (T (R p f1 f2 a1 a2 d1 d2 b1 b2) 29)).alloc Zs (T #[I (26),I g,I oa,I ob,U on,.slice ab an ac] 76);have a5:=zB (o:=T #[I (26),I g,I oa,I ob,U on,.slice ab an ac] 76) (zI (W:=w) (o:=T (R p f1 f2 a1 a2 d1 d2 b1 b2) 29) rfl);have a4:=zI (W:=w.alloc (T (R p f1 f2 a1 a2 d1 d2 b1 b2) 29)) (o:=T #[I (26),I g,I oa,I ob,U on,.slice ab an ac] 76) (B:=w.heap.size+1) Zs;have t:=Ja (Jb a8 (Jb a5 a4));obtain⟨res,c⟩:∃r,opF p ⟨26,g,oa,ob,on,xs⟩=r:=⟨_,rfl⟩
 rw[c];unfold opF at c;simp only[show zi 26=⟨true,false,false,false,false⟩ from rfl,b0] at c;have HL:=Ja hl;clear hl;have HP:=Ja hp;clear a8 a5 a4 hp b3 b4;go_enter Tryz.func61,Tryz.ntmps61;go_upto_region 2 with(go_at_call 52;go_must (refine(shp_26 _).mono ?_;rintro e w1 ⟨he,q⟩;obtain rfl:e=.returned (.agg #[.bool true,.bool false,.bool false,.bool false,.bool false]):=he))
 have a7:=(t.out.1.trans (q.mono t.out.1.size)).alloc (Jn t.out.1.size q.size) (T #[.bool true,.bool false,.bool false,.bool false,.bool false] 120);have l:=zB (o:=(T #[.bool true,.bool false,.bool false,.bool false,.bool false] 120)) (zH q t.out.2.1 (lt_of_block t.out.2.1));have i:=zB (o:=(T #[.bool true,.bool false,.bool false,.bool false,.bool false] 120)) (zH q t.out.2.2 (lt_of_block t.out.2.2));have j:=zI (W:=w1) (o:=(T #[.bool true,.bool false,.bool false,.bool false,.bool false] 120)) rfl;generalize w1.alloc (T #[.bool true,.bool false,.bool false,.bool false,.bool false] 120)=W2 at *;generalize w1.heap.size=bs at *;have p0:=K0 l;have p1:=K1 l;have p4:=K4 l;have o0:=K0 i;have o1:=K1 i;have o2:=K2 i;have o3:=K3 i;have o4:=K4 i;have o5:=K5 i;have s0:=K0 j;have s1:=K1 j;have s2:=K2 j;have s3:=K3 j;have s4:=K4 j;have l0:=lt_of_block l;have l1:=lt_of_block i;have l2:=lt_of_block j;have d:=Ja a7;clear a7 l i j q t
 by_cases h1:0<=oa
 rotate_left
 ·skip
  have hr:res=false:=by rw[<-c];simp;try omega
  subst hr;have j1:decide (0<=oa)=false:=decide_eq_false h1;clear c;go_upto_region 5 with fail;go_quiet (fail);go_wp2;go_ret
  first|exact⟨rfl,yC d.out⟩|exact⟨uz Zt,yC d.out⟩
 by_cases h2:oa<p.funcs.length
 rotate_left
 ·skip
  have hr:res=false:=by rw[<-c];simp;try omega
  subst hr;have j1:decide (0<=oa)=true:=decide_eq_true h1;have j2:decide (oa<(p.funcs.length:Int))=false:=decide_eq_false h2;clear c;go_upto_region 5 with fail;go_quiet (fail);go_wp2;go_ret
  first|exact⟨rfl,yC d.out⟩|exact⟨uz Zt,yC d.out⟩
 obtain⟨ka,rfl⟩:∃ka:Nat,oa=(ka:Int):=⟨oa.toNat,by omega⟩
 have a6:ka<p.args.length:=by rw[HL.out];omega
 have b5:(ka:Int)<(p.args.length:Int):=Zo;obtain⟨aa,a0⟩:∃x,p.args[ka]? =some x:=⟨_,Jd a6⟩
 obtain⟨ba,oo,rfl,m,k,_⟩:=HP.out.args.get a0;rw[Nk] at k;rw[show p.args.getD ((ka:Nat):Int).toNat 0=aa by rw[Ni,Jj,a0];rfl] at c;clear a0 a6
 by_cases h3:(an:Int)=aa
 rotate_left
 ·skip
  have hr:res=false:=by rw[<-c];simp;try omega
  subst hr;have i3:((an:Int)==aa)=false:=Ze;have y:((an:Int) !=aa)=true:=by rw[bne_iff_ne];omega
  clear c h3;have h:=zV d.out m k;have u:ba<W2.heap.size:=Jw _ _ h;go_upto_region 5 with fail;go_quiet (fail);go_wp2;go_ret
  first|exact⟨rfl,yC d.out⟩|exact⟨uz Zt,yC d.out⟩
 by_cases h4:-1<=g
 rotate_left
 ·skip
  have hr:res=false:=by rw[<-c];simp;try omega
  subst hr;have j4:decide (-1<=g)=false:=decide_eq_false h4;have i3:((an:Int)==aa)=true:=by rw[beq_iff_eq];omega
  have y:((an:Int) !=aa)=false:=by rw[bne_eq_false_iff_eq];omega
  clear c h3;have h:=zV d.out m k;have u:ba<W2.heap.size:=Jw _ _ h;go_upto_region 5 with fail;go_quiet (fail);go_wp2;go_ret
  first|exact⟨rfl,yC d.out⟩|exact⟨uz Zt,yC d.out⟩
 by_cases h5:ob=0
 rotate_left
 ·skip
  have hr:res=false:=by rw[<-c];simp;try omega
  subst hr;have i3:((an:Int)==aa)=true:=by rw[beq_iff_eq];omega
  have y:((an:Int) !=aa)=false:=by rw[bne_eq_false_iff_eq];omega
  have i5:(ob==0)=false:=Ze;have a3:(ob !=0)=true:=by rw[bne_iff_ne];omega
  clear c h3 h5;have h:=zV d.out m k;have u:ba<W2.heap.size:=Jw _ _ h;go_upto_region 5 with fail;go_quiet (fail);go_wp2;go_ret
  first|exact⟨rfl,yC d.out⟩|exact⟨uz Zt,yC d.out⟩
 by_cases h6:on=0
 rotate_left
 ·skip
  have hr:res=false:=by rw[<-c];simp;try omega
  subst hr;have i3:((an:Int)==aa)=true:=by rw[beq_iff_eq];omega
  have y:((an:Int) !=aa)=false:=by rw[bne_eq_false_iff_eq];omega
  have i5:(ob==0)=true:=by rw[beq_iff_eq];omega
  have a3:(ob !=0)=false:=by rw[bne_eq_false_iff_eq];omega
  have i6:((on:Int)==0)=false:=Ze;have a9:((on:Int) !=0)=true:=by rw[bne_iff_ne];omega
  clear c h3 h5 h6;have h:=zV d.out m k;have u:ba<W2.heap.size:=Jw _ _ h;go_upto_region 5 with fail;go_quiet (fail);go_wp2;go_ret
  first|exact⟨rfl,yC d.out⟩|exact⟨uz Zt,yC d.out⟩
 have hr:res=true:=by rw[<-c];simp;try omega
 subst hr;have i3:((an:Int)==aa)=true:=by rw[beq_iff_eq];omega
 have y:((an:Int) !=aa)=false:=by rw[bne_eq_false_iff_eq];omega
 have i5:(ob==0)=true:=by rw[beq_iff_eq];omega
 have a3:(ob !=0)=false:=by rw[bne_eq_false_iff_eq];omega
 have i6:((on:Int)==0)=true:=by rw[beq_iff_eq];omega
 have a9:((on:Int) !=0)=false:=by rw[bne_eq_false_iff_eq];omega
 clear c h3 h5 h6;have h:=zV d.out m k;have u:ba<W2.heap.size:=Jw _ _ h;go_upto_region 5 with fail;go_quiet (fail);go_wp2;go_ret
 first|exact⟨rfl,yC d.out⟩|exact⟨uz Zt,yC d.out⟩
theorem formed_q {w:World}{V:PV}{p:IProg}(hp:ProgIn w w.heap.size V p)(hl:p.args.length=p.funcs.length)(o:IOp){av:Value}(d:zY w w.heap.size av o.args):
 G 61 #[yH V p,.agg #[I o.code,I o.res,I o.a,I o.b,U (o.n:Int),av]] w (ym w (opF p o)):=by
 obtain⟨code,res,oa,ob,on,xs⟩:=o;obtain⟨ab,ac,rfl,h1,h2⟩:=d.form;simp only at *;have c:xs.length<=9223372036854775807:=Zo;rcases rJ code with⟨h,e⟩|⟨h,e⟩|⟨h,e⟩|⟨h,e⟩|⟨h,e⟩|⟨h,e⟩|⟨h,e⟩|⟨h,e⟩
 ·rcases h with rfl|rfl|rfl
  ·exact formed_1 hp _ _ _ xs rfl c
  ·exact formed_2 hp _ _ _ xs rfl c
  ·exact aP hp _ _ _ xs rfl c
 ·exact aak hp _ _ _ xs rfl c e Zo
 ·exact aF hp _ _ _ xs rfl c e Zo
 ·exact aaa hp _ _ _ xs rfl c e Zo
 ·exact aG hp _ _ _ xs rfl c e Zo
 ·obtain rfl:=h;exact aR hp _ _ _ xs rfl c
 ·rcases h with rfl|rfl
  ·exact aag hp _ _ _ xs rfl c hl
  ·exact ah hp _ _ _ xs rfl c
 ·exact ay hp _ _ _ xs rfl c e Zo
end Go.Proofs.YtoahcpkibpomcaaGreat
