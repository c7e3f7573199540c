/- Part of a proof. -/
import Derived.Test.YtoahcpkibpomcaaGreatGIter
set_option linter.all false
set_option maxHeartbeats 4000000
set_option maxRecDepth 100000
namespace Go.Proofs.YtoahcpkibpomcaaGreat
open Go.RowKit
variable {blocks:List IBlk}{k u:Nat}
def tW (b:IBlk):List Int:=b.term.to.map (·.block)
def zk (blocks:List IBlk):List (List Int):=blocks.map tW
def sH (blocks:List IBlk)(u k:Nat):List (List Int):=(blocks.take u).map tW++(match blocks[u]? with|some b=> [(tW b).take k]|none=> [])++List.replicate (blocks.length-u-1) []
theorem sF{b:IBlk}(h:blocks[u]? =some b)(k:Nat):sH blocks u k=(blocks.take u).map tW++(tW b).take k::List.replicate (blocks.length-u-1) []:=by
 unfold sH;rw[h];simp
theorem lA (blocks:List IBlk):sH blocks 0 0=List.replicate blocks.length []:=by
 cases blocks with
 |nil=>rfl
 |cons b bs=>simp[sH,Qz]
theorem iD{b:IBlk}(h:blocks[u]? =some b)(k:Nat):(sH blocks u k)[u]? =some ((tW b).take k):=by
 have c:=(Jh.1 h).1;rw[sF h,Nc Zt];have:u-((blocks.take u).map tW).length=0:=by simp;omega
 rw[this];rfl
theorem jW{b:IBlk}(h:blocks[u]? =some b){e:IEdge}(c:b.term.to[k]? =some e):(sH blocks u k).set u ((tW b).take k++ [e.block])=sH blocks u (k+1):=by
 have d:=(Jh.1 h).1;have hr:(tW b)[k]? =some e.block:=by unfold tW;rw[Jr,c];rfl
 rw[sF h,sF h,Uj _ _ Zt];have:u-((blocks.take u).map tW).length=0:=by simp;omega
 rw[this,Jf,Nh (i:=k) (l:=tW b),hr];rfl
theorem li{b:IBlk}(h:blocks[u]? =some b):sH blocks u b.term.to.length=sH blocks (u+1) 0:=by
 have f:=(Jh.1 h).1;have hr:(tW b).take b.term.to.length=tW b:=by rw[Oy];unfold tW;simp
 rw[sF h,hr]
 cases h2:blocks[u+1]? with
 |some b2=>
  have c:=(Jh.1 h2).1;rw[sF h2,Uc,Nh,h,Js];have:blocks.length-u-1=blocks.length-(u+1)-1+1:=Zo;rw[this,Qz]
  simp
 |none=>
  have d:blocks.length<=u+1:=by simpa using h2
  have e1:blocks.length-u-1=0:=Zo;unfold sH;rw[h2,e1,Nh,h];simp;omega
theorem lE (blocks:List IBlk):sH blocks blocks.length 0=zk blocks:=by
 unfold sH zk;rw[Nl];simp
theorem te{b:IBlk}(h:k<=b.term.to.length):((tW b).take k).length=k:=by unfold tW;simp;omega
def RetRowsI (w:World)(rows:List (List Int))(e:Ending)(w':World):Prop:=∃bp,e=.returned (.agg #[L bp rows.length rows.length])/\OwnRows zN 3 22 w' w.heap.size bp rows/\w.heap.size<=bp/\Q w w'
theorem ox{w:World}{B:Nat}{e7:Value}(b1:wX w B e7 blocks)(hB:B<=w.heap.size)(hs:blocks.length<=2000000/\∀b∈blocks,b.term.to.length<=2000000):
 O 41 #[.agg #[e7]] w (RetRowsI w (zk blocks)):=by
 obtain⟨fa,fc,rfl,g7,g6⟩:=b1.form;have k6:blocks.length<=9223372036854775807:=Zo;have k3:=run_make_row' (P:=Tryz.prog) 103 22 (U) 24 Tryz.underlying103 Tryz.info_ints rfl .i64 .i64 blocks.length Zo Zo;obtain⟨ii,g5,f2,f1,f0⟩:=info_parts Tryz.info_int;have l:=Ja (show wX w B (.slice fa blocks.length fc) blocks/\B<=w.heap.size/\blocks.length<=2000000/\∀b∈blocks,b.term.to.length<=2000000 from⟨b1,hB,hs⟩);have e5:Q w ((w.alloc (G #[.slice fa blocks.length fc] 39)).alloc (G #[U] 105)):=((Below.refl _ _).alloc (Je _) _).alloc Zs _;have a4:A ((w.alloc (G #[.slice fa blocks.length fc] 39)).alloc (G #[U] 105)) w.heap.size #[.slice fa blocks.length fc] 39:=zB (zI rfl);have j:A ((w.alloc (G #[.slice fa blocks.length fc] 39)).alloc (G #[U] 105)) (w.heap.size+1) #[U] 105:=zI Zs;have a6:((w.alloc (G #[.slice fa blocks.length fc] 39)).alloc (G #[U] 105)).heap.size=w.heap.size+2:=by simp
 clear b1 hB hs g7 g6;go_enter Tryz.func41,Tryz.ntmps41;go_upto_region 1 with fail;generalize hV:(w.alloc (G #[.slice fa blocks.length fc] 39)).alloc (G #[U] 105)=V at *;have h9:=Ja (GMem.start' V (w.heap.size+2) a6 blocks.length 2000000);have h:=Ja (show Q w V/\A V w.heap.size #[.slice fa blocks.length fc] 39/\A V (w.heap.size+1) #[U] 105/\V.heap.size=w.heap.size+2 from⟨e5,a4,j,a6⟩);have y0:=K0 a4;clear hV e5 a4 j;go_wp2
 go_loopw [16] (fun uv wx=>∃u:Nat,u<=blocks.length/\uv=I u/\Hid (GMem V wx (w.heap.size+2) (w.heap.size+2+1) blocks.length 2000000 (sH blocks u 0))) (fun uv _=>blocks.length-(intOf uv).toNat)
 case atStart=>exact⟨0,Jt _,rfl,by rw[lA];exact h9⟩
 case round=>
  obtain⟨u,hu,rfl,HU⟩:=hrel
  by_cases m:u<blocks.length
  ·have b9:(u:Int)<blocks.length:=Zo;have a1:=Ja m;obtain⟨bx,a3⟩:∃bx,blocks[u]? =some bx:=⟨_,Jd m⟩
   obtain⟨fb,fo,rfl,x,d6,d5,f3,pv,ov,tv,d3,d2,d1,d0,d4,a5⟩:=l.out.1.get a3;obtain⟨pa,pc,rfl,g1,g0⟩:=d0.form;obtain⟨oa,oc,rfl,g3,g2⟩:=d4.form;obtain⟨ta,tc,rfl,f9,f8⟩:=a5.form;have k2:bx.term.to.length<=9223372036854775807:=Zo;have c:Below B w wr:=(h.out.1.mono l.out.2.1).trans (HU.out.hb.mono (by have:=h.out.2.2.2;have:=l.out.2.1;omega));have e0:=zV c x d3;have e1:=zV c x d2;have e2:=zV c x d6;have e3:=zV c x d5;have e4:=zV c x d1;have y:=Ja (show blocks[u]? =some bx/\wH w B (.slice ta bx.term.to.length tc) bx.term.to/\bx.term.to.length<=2000000 from⟨a3,a5,l.out.2.2.2 bx (Ji a3)⟩);have g:=zI (W:=wr) (o:=G #[.slice pa bx.params.length pc,.slice oa bx.ops.length oc,I bx.term.kind,I bx.term.a,.slice ta bx.term.to.length tc] 84) rfl;have d7:=HU.out.alloc (G #[.slice pa bx.params.length pc,.slice oa bx.ops.length oc,I bx.term.kind,I bx.term.a,.slice ta bx.term.to.length tc] 84);clear a3 d6 d5 f3 d3 d2 d1 d0 d4 a5 g1 g0 g3 g2 f9 f8 m c;go_upto_region 5 with fail;generalize h4:wr.alloc (G #[.slice pa bx.params.length pc,.slice oa bx.ops.length oc,I bx.term.kind,I bx.term.a,.slice ta bx.term.to.length tc] 84)=W1 at *;generalize k9:wr.heap.size=b5 at *;have z4:=K4 g;have i1:=Ja d7;clear h4 g d7 e0 e1 e2 e3 e4 y0;go_wp2
   go_loopw [25] (fun kv wx=>∃k:Nat,k<=bx.term.to.length/\kv=I k/\Hid (GMem V wx (w.heap.size+2) (w.heap.size+2+1) blocks.length 2000000 (sH blocks u k))) (fun kv _=>bx.term.to.length-(intOf kv).toNat)
   case atStart=>exact⟨0,Jt _,rfl,i1⟩
   case round=>
    obtain⟨k,hk,rfl,HK⟩:=hrel
    by_cases a0:k<bx.term.to.length
    ·have c2:(k:Int)<bx.term.to.length:=Zo;have b6:=Ja a0;obtain⟨e,he⟩:∃e,bx.term.to[k]? =some e:=⟨_,Jd a0⟩
     obtain⟨qb,qo,rfl,c5,c8,b0,av,c7,e6⟩:=y.out.2.1.get he;obtain⟨aa,ac,rfl,_,_⟩:=e6.form;have c:Below B w wr:=(h.out.1.mono l.out.2.1).trans (HK.out.hb.mono (by have:=h.out.2.2.2;have:=l.out.2.1;omega));have c0:=zV c c5 c8;have c1:=zV c c5 c7;have g:=zI (W:=wr) (o:=G #[I e.block,.slice aa e.args.length ac] 79) rfl;have d:=HK.out.alloc (G #[I e.block,.slice aa e.args.length ac] 79);have HE:=Ja (show bx.term.to[k]? =some e/\I64 e.block from⟨he,b0⟩);clear he b0 c8 c7 e6 c a0 z4;go_upto_region 8 with fail;generalize g9:wr.alloc (G #[I e.block,.slice aa e.args.length ac] 79)=W2 at *;generalize k7:wr.heap.size=b7 at *;have hR:=iD y.out.1 k;have hrl:=te (b:=bx) hk;have c9:=jW y.out.1 HE.out.1;have h8:=Ja c9;generalize h5:(tW bx).take k=ur at *;obtain⟨ap,b2,cp,q,fp⟩:=d.hr.get hR;have f6:=lt_of_block d.hg;have c4:=d.hr.bplt;obtain⟨cc,d8⟩:=d.hr.blk;have f5:=zC q d.hg (.inr Zd);have c3:=zC q d8 (.inr Zd);have e8:=K0 d.hg;have n7:=zC q g (.inr Zd);have k0:=zA (i:=0) (v:=I e.block) g Zs;have l7:=lt_of_block g;have HR:=Ja (Jb hR q);have i0:=Ja d;have i2:=d.hb.size;have k4:=a1.out;have k1:=y.out.2.2;have l3:=HE.out.2;have h6:∀o,Y (W2.alloc o) (w.heap.size+2) u:=fun o=>(Qm (w:=W2) (Below.heap_alloc _ _ _ c4)).trans fp
     have h7:∀o,T (W2.alloc o) (w.heap.size+2) u (.slice ap ur.length b2):=fun o=>(Oo (w:=W2) (Below.heap_alloc _ _ _ c4)).trans cp
     have f4:∀o,T (W2.alloc o) (w.heap.size+2+1) 0 (L (w.heap.size+2) blocks.length blocks.length):=fun o=>(Oo (w:=W2) (Below.heap_alloc _ _ _ f6)).trans e8
     have b4:=Ja (Jb hrl hk);clear d8 hR q h5 g9 d c9 c0 c1 g hrl
     go_region_law (first|(refine step_append_lies _ (by rfl) (.tmp 36) (.tmp 39) _ (by rfl) V.heap.size 3 ii (I 0) 1 8 Tryz.underlying22 g5 f2 f1 f0 rfl Zo (.slice ap ur.length b2) ur.length (ur.map zN) (by rfl) ((HR.out.2.alloc _).drew) ⟨W2.heap.size,0,none⟩ 1 1 [I e.block] (by rfl) (by rfl) (Oi (cs:=#[I e.block]) (t:=3) (fr:=(0,0)) (heap_alloc_new W2 _)) (by simp[Value.oneCell']) Zo (by have:=b4.out;unfold maxLen;omega) (by have:=b4.out;omega) Zt (W2.heap.size+1) Zs ?_;intro gg j9 w3 b8 f g8 j2;have l2:=(f.cell_far ⟨w.heap.size+2+1,0,none⟩ Zt (Ne.symm f5)).trans (f4 _);have l1:=(f.cell_far ⟨w.heap.size+2,u,none⟩ Zt (Ne.symm c3)).trans (h7 _);have l0:=(f.frozen_far ⟨w.heap.size+2,u,none⟩ Zt (Ne.symm c3)).trans (h6 _)))
     all_goals go_wp2_with fail
     all_goals go_roundw
     all_goals first
      |(have:=b6.out;simp[intOf];omega)
      |(refine⟨k+1,b6.out,by go_num,?_⟩
        have a7:=i0.out.put (row':=ur++ [e.block]) HR.out.1 cp (uj f) (by simpa[zN] using b8) g8 Zo (by have:=b4.out;simp;omega);rw[h8.out] at a7
        simpa using Ja a7)
    ·obtain rfl:k=bx.term.to.length:=by omega
     have c2:¬(bx.term.to.length:Int)<bx.term.to.length:=Zo;clear z4;go_wp2;go_roundw
     case rel=>exact⟨u+1,a1.out,by go_num,by rw[<-li y.out.1];exact HK⟩
     case measure=>have:=a1.out;simp[intOf];omega
  ·obtain rfl:u=blocks.length:=by omega
   have b9:¬(blocks.length:Int)<blocks.length:=Zo;have hG:=HU.out;rw[lE] at hG;have g4:(zk blocks).length=blocks.length:=by unfold zk;simp
   have e8:=K0 hG.hg;have j:=zH hG.hb h.out.2.2.1 (by have:=h.out.2.2.2;omega);have j1:=K0 j;have k5:=zE (i:=0) j;have d9:Q w wr:=h.out.1.trans (hG.hb.mono (by have:=h.out.2.2.2;omega));have a2:=(hG.hr.set (a:=⟨w.heap.size+1,0,none⟩) Zs (by have:=h.out.2.2.2;simp;omega) (L (w.heap.size+2) blocks.length blocks.length)).base (B':=w.heap.size) (by have:=h.out.2.2.2;omega);have b3:=Ja (Jb a2 (d9.setCell (p:=⟨w.heap.size+1,0,none⟩) Zs (L (w.heap.size+2) blocks.length blocks.length)));clear a2 hG j m y0 d9;go_wp2;refine bodyPost_ret (v:=.agg #[L (w.heap.size+2) blocks.length blocks.length]) ?_ rfl ⟨_,by rw[g4],b3.out.1,by omega,b3.out.2⟩;rw[zM rfl];go_simp
end Go.Proofs.YtoahcpkibpomcaaGreat
