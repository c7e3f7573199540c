/- Part of a proof. -/
import Derived.Test.YtoahcpkibpomcaaGreatGZl0v
set_option linter.all false
set_option maxHeartbeats 4000000
set_option maxRecDepth 100000
namespace Go.Proofs.YtoahcpkibpomcaaGreat
open Go.RowKit
variable {blocks:List IBlk}{k u:Nat}
def tW (b:IBlk):List Int:=b.term.to.map (·.block)
def zk (blocks:List IBlk):List (List Int):=blocks.map tW
def sH (blocks:List IBlk)(u k:Nat):List (List Int):=(blocks.take u).map tW++(match blocks[u]? with|some b=> [(tW b).take k]|none=> [])++List.replicate (blocks.length-u-1) []
theorem sF{b:IBlk}(h:blocks[u]? =some b)(k:Nat):sH blocks u k=(blocks.take u).map tW++(tW b).take k::List.replicate (blocks.length-u-1) []:=by
 unfold sH;rw[h];simp
theorem lA (blocks:List IBlk):sH blocks 0 0=List.replicate blocks.length []:=by
 cases blocks with
 |nil=>rfl
 |cons b bs=>simp[sH,Qz]
theorem iD{b:IBlk}(h:blocks[u]? =some b)(k:Nat):(sH blocks u k)[u]? =some ((tW b).take k):=by
 have c:=(Jh.1 h).1;rw[sF h,Nc Zt];have:u-((blocks.take u).map tW).length=0:=by simp;omega
 rw[this];rfl
theorem jW{b:IBlk}(h:blocks[u]? =some b){e:IEdge}(c:b.term.to[k]? =some e):(sH blocks u k).set u ((tW b).take k++ [e.block])=sH blocks u (k+1):=by
 have d:=(Jh.1 h).1;have hr:(tW b)[k]? =some e.block:=by unfold tW;rw[Jr,c];rfl
 rw[sF h,sF h,Uj _ _ Zt];have:u-((blocks.take u).map tW).length=0:=by simp;omega
 rw[this,Jf,Nh (i:=k) (l:=tW b),hr];rfl
theorem li{b:IBlk}(h:blocks[u]? =some b):sH blocks u b.term.to.length=sH blocks (u+1) 0:=by
 have g:=(Jh.1 h).1;have hr:(tW b).take b.term.to.length=tW b:=by rw[Oy];unfold tW;simp
 rw[sF h,hr]
 cases h2:blocks[u+1]? with
 |some b2=>
  have c:=(Jh.1 h2).1;rw[sF h2,Uc,Nh,h,Js];have:blocks.length-u-1=blocks.length-(u+1)-1+1:=Zo;rw[this,Qz]
  simp
 |none=>
  have d:blocks.length<=u+1:=by simpa using h2
  have e1:blocks.length-u-1=0:=Zo;unfold sH;rw[h2,e1,Nh,h];simp;omega
theorem lE (blocks:List IBlk):sH blocks blocks.length 0=zk blocks:=by
 unfold sH zk;rw[Nl];simp
theorem te{b:IBlk}(h:k<=b.term.to.length):((tW b).take k).length=k:=by unfold tW;simp;omega
def RetRowsI (w:World)(rows:List (List Int))(e:Ending)(w':World):Prop:=∃bp,e=.returned (.agg #[F bp rows.length rows.length])/\OwnRows zN 3 22 w' w.heap.size bp rows/\w.heap.size<=bp/\O w w'
theorem ox{w:World}{B:Nat}{e8:Value}(b0:wX w B e8 blocks)(hB:B<=w.heap.size)(hs:blocks.length<=2000000/\∀b∈blocks,b.term.to.length<=2000000):
 G 41 #[.agg #[e8]] w (RetRowsI w (zk blocks)):=by
 obtain⟨fa,fc,rfl,g6,g5⟩:=b0.form;have j3:blocks.length<=9223372036854775807:=Zo;have j0:=run_make_row' (P:=Tryz.prog) 103 22 (L) 24 Tryz.underlying103 Tryz.info_ints rfl .i64 .i64 blocks.length Zo Zo;obtain⟨ii,g4,f2,f1,f0⟩:=info_parts Tryz.info_int;have m:=Ja (show wX w B (.slice fa blocks.length fc) blocks/\B<=w.heap.size/\blocks.length<=2000000/\∀b∈blocks,b.term.to.length<=2000000 from⟨b0,hB,hs⟩);have e6:O w ((w.alloc (T #[.slice fa blocks.length fc] 39)).alloc (T #[L] 105)):=((Below.refl _ _).alloc (Je _) _).alloc Zs _;have a5:Q ((w.alloc (T #[.slice fa blocks.length fc] 39)).alloc (T #[L] 105)) w.heap.size #[.slice fa blocks.length fc] 39:=zB (zI rfl);have l:Q ((w.alloc (T #[.slice fa blocks.length fc] 39)).alloc (T #[L] 105)) (w.heap.size+1) #[L] 105:=zI Zs;have a7:((w.alloc (T #[.slice fa blocks.length fc] 39)).alloc (T #[L] 105)).heap.size=w.heap.size+2:=by simp
 clear b0 hB hs g6 g5;go_enter Tryz.func41,Tryz.ntmps41;go_upto_region 1 with fail;generalize hV:(w.alloc (T #[.slice fa blocks.length fc] 39)).alloc (T #[L] 105)=V at *;have h9:=Ja (GMem.start' V (w.heap.size+2) a7 blocks.length 2000000);have j:=Ja (show O w V/\Q V w.heap.size #[.slice fa blocks.length fc] 39/\Q V (w.heap.size+1) #[L] 105/\V.heap.size=w.heap.size+2 from⟨e6,a5,l,a7⟩);have y0:=K0 a5;clear hV e6 a5 l;go_wp2
 go_loopw [16] (fun uv wx=>∃u:Nat,u<=blocks.length/\uv=I u/\Hid (GMem V wx (w.heap.size+2) (w.heap.size+2+1) blocks.length 2000000 (sH blocks u 0))) (fun uv _=>blocks.length-(intOf uv).toNat)
 case atStart=>exact⟨0,Jt _,rfl,by rw[lA];exact h9⟩
 case round=>
  obtain⟨u,hu,rfl,HU⟩:=hrel
  by_cases q:u<blocks.length
  ·have b8:(u:Int)<blocks.length:=Zo;have a2:=Ja q;obtain⟨bx,a4⟩:∃bx,blocks[u]? =some bx:=⟨_,Jd q⟩
   obtain⟨fb,fo,rfl,y,d5,d4,f3,pv,ov,tv,d2,d1,d0,c9,d3,a6⟩:=m.out.1.get a4;obtain⟨pa,pc,rfl,g0,f9⟩:=c9.form;obtain⟨oa,oc,rfl,g2,g1⟩:=d3.form;obtain⟨ta,tc,rfl,f8,f7⟩:=a6.form;have i9:bx.term.to.length<=9223372036854775807:=Zo;have c:Below B w wr:=(j.out.1.mono m.out.2.1).trans (HU.out.hb.mono (by have:=j.out.2.2.2;have:=m.out.2.1;omega));have e0:=zV c y d2;have e1:=zV c y d1;have e2:=zV c y d5;have e3:=zV c y d4;have e4:=zV c y d0;have a0:=Ja (show blocks[u]? =some bx/\wH w B (.slice ta bx.term.to.length tc) bx.term.to/\bx.term.to.length<=2000000 from⟨a4,a6,m.out.2.2.2 bx (Ji a4)⟩);have h:=zI (W:=wr) (o:=T #[.slice pa bx.params.length pc,.slice oa bx.ops.length oc,I bx.term.kind,I bx.term.a,.slice ta bx.term.to.length tc] 84) rfl;have d6:=HU.out.alloc (T #[.slice pa bx.params.length pc,.slice oa bx.ops.length oc,I bx.term.kind,I bx.term.a,.slice ta bx.term.to.length tc] 84);clear a4 d5 d4 f3 d2 d1 d0 c9 d3 a6 g0 f9 g2 g1 f8 f7 q c;go_upto_region 5 with fail;generalize h4:wr.alloc (T #[.slice pa bx.params.length pc,.slice oa bx.ops.length oc,I bx.term.kind,I bx.term.a,.slice ta bx.term.to.length tc] 84)=W1 at *;generalize j5:wr.heap.size=b5 at *;have z4:=K4 h;have i1:=Ja d6;clear h4 h d6 e0 e1 e2 e3 e4 y0;go_wp2
   go_loopw [25] (fun kv wx=>∃k:Nat,k<=bx.term.to.length/\kv=I k/\Hid (GMem V wx (w.heap.size+2) (w.heap.size+2+1) blocks.length 2000000 (sH blocks u k))) (fun kv _=>bx.term.to.length-(intOf kv).toNat)
   case atStart=>exact⟨0,Jt _,rfl,i1⟩
   case round=>
    obtain⟨k,hk,rfl,HK⟩:=hrel
    by_cases a1:k<bx.term.to.length
    ·have b9:(k:Int)<bx.term.to.length:=Zo;have b4:=Ja a1;obtain⟨e,he⟩:∃e,bx.term.to[k]? =some e:=⟨_,Jd a1⟩
     obtain⟨qb,qo,rfl,c4,c7,a9,av,c5,e7⟩:=a0.out.2.1.get he;obtain⟨aa,ac,rfl,_,_⟩:=e7.form;have c:Below B w wr:=(j.out.1.mono m.out.2.1).trans (HK.out.hb.mono (by have:=j.out.2.2.2;have:=m.out.2.1;omega));have c0:=zV c c4 c7;have c1:=zV c c4 c5;have h:=zI (W:=wr) (o:=T #[I e.block,.slice aa e.args.length ac] 79) rfl;have d:=HK.out.alloc (T #[I e.block,.slice aa e.args.length ac] 79);have HE:=Ja (show bx.term.to[k]? =some e/\I64 e.block from⟨he,a9⟩);clear he a9 c7 c5 e7 c a1 z4;go_upto_region 8 with fail;generalize h0:wr.alloc (T #[I e.block,.slice aa e.args.length ac] 79)=W2 at *;generalize j4:wr.heap.size=b7 at *;have hR:=iD a0.out.1 k;have hrl:=te (b:=bx) hk;have c8:=jW a0.out.1 HE.out.1;have h8:=Ja c8;generalize h5:(tW bx).take k=ur at *;obtain⟨ap,b1,cp,x,fp⟩:=d.hr.get hR;have f6:=lt_of_block d.hg;have c3:=d.hr.bplt;obtain⟨cc,d7⟩:=d.hr.blk;have f5:=zC x d.hg (.inr Zd);have c2:=zC x d7 (.inr Zd);have e9:=K0 d.hg;have n7:=zC x h (.inr Zd);have i6:=zA (i:=0) (v:=I e.block) h Zs;have l7:=lt_of_block h;have HR:=Ja (Jb hR x);have i0:=Ja d;have i2:=d.hb.size;have j1:=a2.out;have i7:=a0.out.2.2;have k3:=HE.out.2;have h6:∀o,N (W2.alloc o) (w.heap.size+2) u:=fun o=>(Qm (w:=W2) (Below.heap_alloc _ _ _ c3)).trans fp
     have h7:∀o,A (W2.alloc o) (w.heap.size+2) u (.slice ap ur.length b1):=fun o=>(Oo (w:=W2) (Below.heap_alloc _ _ _ c3)).trans cp
     have f4:∀o,A (W2.alloc o) (w.heap.size+2+1) 0 (F (w.heap.size+2) blocks.length blocks.length):=fun o=>(Oo (w:=W2) (Below.heap_alloc _ _ _ f6)).trans e9
     have b3:=Ja (Jb hrl hk);clear d7 hR x h5 h0 d c8 c0 c1 h hrl
     go_region_law (first|(refine step_append_lies _ (by rfl) (.tmp 36) (.tmp 39) _ (by rfl) V.heap.size 3 ii (I 0) 1 8 Tryz.underlying22 g4 f2 f1 f0 rfl Zo (.slice ap ur.length b1) ur.length (ur.map zN) (by rfl) ((HR.out.2.alloc _).drew) ⟨W2.heap.size,0,none⟩ 1 1 [I e.block] (by rfl) (by rfl) (Oi (cs:=#[I e.block]) (t:=3) (fr:=(0,0)) (heap_alloc_new W2 _)) (by simp[Value.oneCell']) Zo (by have:=b3.out;unfold maxLen;omega) (by have:=b3.out;omega) Zt (W2.heap.size+1) Zs ?_;intro gg i5 w3 b6 g g8 i4;have k2:=(g.cell_far ⟨w.heap.size+2+1,0,none⟩ Zt (Ne.symm f5)).trans (f4 _);have k1:=(g.cell_far ⟨w.heap.size+2,u,none⟩ Zt (Ne.symm c2)).trans (h7 _);have k0:=(g.frozen_far ⟨w.heap.size+2,u,none⟩ Zt (Ne.symm c2)).trans (h6 _)))
     all_goals go_wp2_with fail
     all_goals go_roundw
     all_goals first
      |(have:=b4.out;simp[intOf];omega)
      |(refine⟨k+1,b4.out,by go_num,?_⟩
        have a8:=i0.out.put (row':=ur++ [e.block]) HR.out.1 cp (uj g) (by simpa[zN] using b6) g8 Zo (by have:=b3.out;simp;omega);rw[h8.out] at a8
        simpa using Ja a8)
    ·obtain rfl:k=bx.term.to.length:=by omega
     have b9:¬(bx.term.to.length:Int)<bx.term.to.length:=Zo;clear z4;go_wp2;go_roundw
     case rel=>exact⟨u+1,a2.out,by go_num,by rw[<-li a0.out.1];exact HK⟩
     case measure=>have:=a2.out;simp[intOf];omega
  ·obtain rfl:u=blocks.length:=by omega
   have b8:¬(blocks.length:Int)<blocks.length:=Zo;have hG:=HU.out;rw[lE] at hG;have g3:(zk blocks).length=blocks.length:=by unfold zk;simp
   have e9:=K0 hG.hg;have l:=zH hG.hb j.out.2.2.1 (by have:=j.out.2.2.2;omega);have i3:=K0 l;have j2:=zE (i:=0) l;have e5:O w wr:=j.out.1.trans (hG.hb.mono (by have:=j.out.2.2.2;omega));have a3:=(hG.hr.set (a:=⟨w.heap.size+1,0,none⟩) Zs (by have:=j.out.2.2.2;simp;omega) (F (w.heap.size+2) blocks.length blocks.length)).base (B':=w.heap.size) (by have:=j.out.2.2.2;omega);have b2:=Ja (Jb a3 (e5.setCell (p:=⟨w.heap.size+1,0,none⟩) Zs (F (w.heap.size+2) blocks.length blocks.length)));clear a3 hG l q y0 e5;go_wp2;refine bodyPost_ret (v:=.agg #[F (w.heap.size+2) blocks.length blocks.length]) ?_ rfl ⟨_,by rw[g3],b2.out.1,by omega,b2.out.2⟩;rw[zM rfl];go_simp
end Go.Proofs.YtoahcpkibpomcaaGreat
