/- Part of a proof. -/
import Derived.Test.YtojclalkfhoooaaGLw0
set_option linter.all false
set_option maxHeartbeats 4000000
set_option maxRecDepth 100000
namespace Go.Proofs.Ytojclalkfhoooaa
open Go.RowKit
variable {blocks:List IBlk}{k u:Nat}
def tW (b:IBlk):List Int:=b.term.to.map (·.block)
def zk (blocks:List IBlk):List (List Int):=blocks.map tW
def sH (blocks:List IBlk)(u k:Nat):List (List Int):=(blocks.take u).map tW++(match blocks[u]? with|some b=> [(tW b).take k]|none=> [])++List.replicate (blocks.length-u-1) []
theorem sF{b:IBlk}(h:blocks[u]? =some b)(k:Nat):sH blocks u k=(blocks.take u).map tW++(tW b).take k::List.replicate (blocks.length-u-1) []:=by
 unfold sH;rw[h];simp
theorem lA (blocks:List IBlk):sH blocks 0 0=List.replicate blocks.length []:=by
 cases blocks with
 |nil=>rfl
 |cons b bs=>simp[sH,Qz]
theorem iD{b:IBlk}(h:blocks[u]? =some b)(k:Nat):(sH blocks u k)[u]? =some ((tW b).take k):=by
 have c:=(Jh.1 h).1;rw[sF h,Nc Zt];have:u-((blocks.take u).map tW).length=0:=by simp;omega
 rw[this];rfl
theorem jW{b:IBlk}(h:blocks[u]? =some b){e:IEdge}(c:b.term.to[k]? =some e):(sH blocks u k).set u ((tW b).take k++ [e.block])=sH blocks u (k+1):=by
 have d:=(Jh.1 h).1;have hr:(tW b)[k]? =some e.block:=by unfold tW;rw[Jr,c];rfl
 rw[sF h,sF h,Uj _ _ Zt];have:u-((blocks.take u).map tW).length=0:=by simp;omega
 rw[this,Jf,Nh (i:=k) (l:=tW b),hr];rfl
theorem li{b:IBlk}(h:blocks[u]? =some b):sH blocks u b.term.to.length=sH blocks (u+1) 0:=by
 have g:=(Jh.1 h).1;have hr:(tW b).take b.term.to.length=tW b:=by rw[Oy];unfold tW;simp
 rw[sF h,hr]
 cases h2:blocks[u+1]? with
 |some b2=>
  have c:=(Jh.1 h2).1;rw[sF h2,Uc,Nh,h,Js];have:blocks.length-u-1=blocks.length-(u+1)-1+1:=Zo;rw[this,Qz]
  simp
 |none=>
  have d:blocks.length<=u+1:=by simpa using h2
  have e1:blocks.length-u-1=0:=Zo;unfold sH;rw[h2,e1,Nh,h];simp;omega
theorem lE (blocks:List IBlk):sH blocks blocks.length 0=zk blocks:=by
 unfold sH zk;rw[Nl];simp
theorem te{b:IBlk}(h:k<=b.term.to.length):((tW b).take k).length=k:=by unfold tW;simp;omega
def RetRowsI (w:World)(rows:List (List Int))(e:Ending)(w':World):Prop:=∃bp,e=.returned (.agg #[N bp rows.length rows.length])/\OwnRows zN 3 22 w' w.heap.size bp rows/\w.heap.size<=bp/\F w w'
theorem ox{w:World}{B:Nat}{e8:Value}(b2:wX w B e8 blocks)(hB:B<=w.heap.size)(hs:blocks.length<=2000000/\∀b∈blocks,b.term.to.length<=2000000):
 Y 38 #[.agg #[e8]] w (RetRowsI w (zk blocks)):=by
 obtain⟨fa,fc,rfl,g6,g5⟩:=b2.form;have j4:blocks.length<=9223372036854775807:=Zo;have j1:=run_make_row' (P:=Try.prog) 91 22 (O) 24 Try.underlying91 Try.info_ints rfl .i64 .i64 blocks.length Zo Zo;obtain⟨ii,g4,f2,f1,f0⟩:=info_parts Try.info_int;have m:=Ja (show wX w B (.slice fa blocks.length fc) blocks/\B<=w.heap.size/\blocks.length<=2000000/\∀b∈blocks,b.term.to.length<=2000000 from⟨b2,hB,hs⟩);have e6:F w ((w.alloc (U #[.slice fa blocks.length fc] 43)).alloc (U #[O] 93)):=((Below.refl _ _).alloc (Je _) _).alloc Zs _;have a5:L ((w.alloc (U #[.slice fa blocks.length fc] 43)).alloc (U #[O] 93)) w.heap.size #[.slice fa blocks.length fc] 43:=zB (zI rfl);have l:L ((w.alloc (U #[.slice fa blocks.length fc] 43)).alloc (U #[O] 93)) (w.heap.size+1) #[O] 93:=zI Zs;have a7:((w.alloc (U #[.slice fa blocks.length fc] 43)).alloc (U #[O] 93)).heap.size=w.heap.size+2:=by simp
 clear b2 hB hs g6 g5;go_enter Try.func38,Try.ntmps38;go_upto_region 1 with fail;generalize hV:(w.alloc (U #[.slice fa blocks.length fc] 43)).alloc (U #[O] 93)=V at *;have h9:=Ja (GMem.start' V (w.heap.size+2) a7 blocks.length 2000000);have j:=Ja (show F w V/\L V w.heap.size #[.slice fa blocks.length fc] 43/\L V (w.heap.size+1) #[O] 93/\V.heap.size=w.heap.size+2 from⟨e6,a5,l,a7⟩);have y0:=K0 a5;clear hV e6 a5 l;go_wp2
 go_loopw [16] (fun uv wx=>∃u:Nat,u<=blocks.length/\uv=A u/\Hid (GMem V wx (w.heap.size+2) (w.heap.size+2+1) blocks.length 2000000 (sH blocks u 0))) (fun uv _=>blocks.length-(intOf uv).toNat)
 case atStart=>exact⟨0,Jt _,rfl,by rw[lA];exact h9⟩
 case round=>
  obtain⟨u,hu,rfl,HU⟩:=hrel
  by_cases r:u<blocks.length
  ·have c2:(u:Int)<blocks.length:=Zo;have a2:=Ja r;obtain⟨bx,a4⟩:∃bx,blocks[u]? =some bx:=⟨_,Jd r⟩
   obtain⟨fb,fo,rfl,y,d7,d6,f3,pv,ov,tv,d4,d3,d2,d1,d5,a6⟩:=m.out.1.get a4;obtain⟨pa,pc,rfl,g0,f9⟩:=d1.form;obtain⟨oa,oc,rfl,g2,g1⟩:=d5.form;obtain⟨ta,tc,rfl,f8,f7⟩:=a6.form;have j0:bx.term.to.length<=9223372036854775807:=Zo;have c:Below B w wr:=(j.out.1.mono m.out.2.1).trans (HU.out.hb.mono (by have:=j.out.2.2.2;have:=m.out.2.1;omega));have e0:=zV c y d4;have e1:=zV c y d3;have e2:=zV c y d7;have e3:=zV c y d6;have e4:=zV c y d2;have a0:=Ja (show blocks[u]? =some bx/\wH w B (.slice ta bx.term.to.length tc) bx.term.to/\bx.term.to.length<=2000000 from⟨a4,a6,m.out.2.2.2 bx (Ji a4)⟩);have h:=zI (W:=wr) (o:=U #[.slice pa bx.params.length pc,.slice oa bx.ops.length oc,A bx.term.kind,A bx.term.a,.slice ta bx.term.to.length tc] 49) rfl;have d8:=HU.out.alloc (U #[.slice pa bx.params.length pc,.slice oa bx.ops.length oc,A bx.term.kind,A bx.term.a,.slice ta bx.term.to.length tc] 49);clear a4 d7 d6 f3 d4 d3 d2 d1 d5 a6 g0 f9 g2 g1 f8 f7 r c;go_upto_region 5 with fail;generalize h4:wr.alloc (U #[.slice pa bx.params.length pc,.slice oa bx.ops.length oc,A bx.term.kind,A bx.term.a,.slice ta bx.term.to.length tc] 49)=W1 at *;generalize k0:wr.heap.size=b5 at *;have z4:=K4 h;have i1:=Ja d8;clear h4 h d8 e0 e1 e2 e3 e4 y0;go_wp2
   go_loopw [25] (fun kv wx=>∃k:Nat,k<=bx.term.to.length/\kv=A k/\Hid (GMem V wx (w.heap.size+2) (w.heap.size+2+1) blocks.length 2000000 (sH blocks u k))) (fun kv _=>bx.term.to.length-(intOf kv).toNat)
   case atStart=>exact⟨0,Jt _,rfl,i1⟩
   case round=>
    obtain⟨k,hk,rfl,HK⟩:=hrel
    by_cases a1:k<bx.term.to.length
    ·have c3:(k:Int)<bx.term.to.length:=Zo;have b8:=Ja a1;obtain⟨e,he⟩:∃e,bx.term.to[k]? =some e:=⟨_,Jd a1⟩
     obtain⟨qb,qo,rfl,c7,c9,b1,av,c8,e7⟩:=a0.out.2.1.get he;obtain⟨aa,ac,rfl,_,_⟩:=e7.form;have c:Below B w wr:=(j.out.1.mono m.out.2.1).trans (HK.out.hb.mono (by have:=j.out.2.2.2;have:=m.out.2.1;omega));have c0:=zV c c7 c9;have c1:=zV c c7 c8;have h:=zI (W:=wr) (o:=U #[A e.block,.slice aa e.args.length ac] 75) rfl;have d:=HK.out.alloc (U #[A e.block,.slice aa e.args.length ac] 75);have HE:=Ja (show bx.term.to[k]? =some e/\I64 e.block from⟨he,b1⟩);clear he b1 c9 c8 e7 c a1 z4;go_upto_region 8 with fail;generalize h0:wr.alloc (U #[A e.block,.slice aa e.args.length ac] 75)=W2 at *;generalize j5:wr.heap.size=b7 at *;have hR:=iD a0.out.1 k;have hrl:=te (b:=bx) hk;have d0:=jW a0.out.1 HE.out.1;have h8:=Ja d0;generalize h5:(tW bx).take k=ur at *;obtain⟨ap,b3,cp,x,fp⟩:=d.hr.get hR;have f6:=lt_of_block d.hg;have c5:=d.hr.bplt;obtain⟨cc,d9⟩:=d.hr.blk;have f5:=zC x d.hg (.inr Zd);have c4:=zC x d9 (.inr Zd);have e9:=K0 d.hg;have n7:=zC x h (.inr Zd);have i6:=zA (i:=0) (v:=A e.block) h Zs;have l7:=lt_of_block h;have HR:=Ja (Jb hR x);have i0:=Ja d;have i2:=d.hb.size;have j2:=a2.out;have i7:=a0.out.2.2;have k4:=HE.out.2;have h6:∀o,T (W2.alloc o) (w.heap.size+2) u:=fun o=>(Qm (w:=W2) (Below.heap_alloc _ _ _ c5)).trans fp
     have h7:∀o,G (W2.alloc o) (w.heap.size+2) u (.slice ap ur.length b3):=fun o=>(Oo (w:=W2) (Below.heap_alloc _ _ _ c5)).trans cp
     have f4:∀o,G (W2.alloc o) (w.heap.size+2+1) 0 (N (w.heap.size+2) blocks.length blocks.length):=fun o=>(Oo (w:=W2) (Below.heap_alloc _ _ _ f6)).trans e9
     have b6:=Ja (Jb hrl hk);clear d9 hR x h5 h0 d d0 c0 c1 h hrl
     go_region_law (first|(refine step_append_lies _ (by rfl) (.tmp 36) (.tmp 39) _ (by rfl) V.heap.size 3 ii (A 0) 1 8 Try.underlying22 g4 f2 f1 f0 rfl Zo (.slice ap ur.length b3) ur.length (ur.map zN) (by rfl) ((HR.out.2.alloc _).drew) ⟨W2.heap.size,0,none⟩ 1 1 [A e.block] (by rfl) (by rfl) (Oi (cs:=#[A e.block]) (t:=3) (fr:=(0,0)) (heap_alloc_new W2 _)) (by simp[Value.oneCell']) Zo (by have:=b6.out;unfold maxLen;omega) (by have:=b6.out;omega) Zt (W2.heap.size+1) Zs ?_;intro gg i5 w3 b9 g g9 i4;have k3:=(g.cell_far ⟨w.heap.size+2+1,0,none⟩ Zt (Ne.symm f5)).trans (f4 _);have k2:=(g.cell_far ⟨w.heap.size+2,u,none⟩ Zt (Ne.symm c4)).trans (h7 _);have k1:=(g.frozen_far ⟨w.heap.size+2,u,none⟩ Zt (Ne.symm c4)).trans (h6 _)))
     all_goals go_wp2_with fail
     all_goals go_roundw
     all_goals first
      |(have:=b8.out;simp[intOf];omega)
      |(refine⟨k+1,b8.out,by go_num,?_⟩
        have b0:=i0.out.put (row':=ur++ [e.block]) HR.out.1 cp (uj g) (by simpa[zN] using b9) g9 Zo (by have:=b6.out;simp;omega);rw[h8.out] at b0
        simpa using Ja b0)
    ·obtain rfl:k=bx.term.to.length:=by omega
     have c3:¬(bx.term.to.length:Int)<bx.term.to.length:=Zo;clear z4;go_wp2;go_roundw
     case rel=>exact⟨u+1,a2.out,by go_num,by rw[<-li a0.out.1];exact HK⟩
     case measure=>have:=a2.out;simp[intOf];omega
  ·obtain rfl:u=blocks.length:=by omega
   have c2:¬(blocks.length:Int)<blocks.length:=Zo;have hG:=HU.out;rw[lE] at hG;have g3:(zk blocks).length=blocks.length:=by unfold zk;simp
   have e9:=K0 hG.hg;have l:=zH hG.hb j.out.2.2.1 (by have:=j.out.2.2.2;omega);have i3:=K0 l;have j3:=zE (i:=0) l;have e5:F w wr:=j.out.1.trans (hG.hb.mono (by have:=j.out.2.2.2;omega));have a3:=(hG.hr.set (a:=⟨w.heap.size+1,0,none⟩) Zs (by have:=j.out.2.2.2;simp;omega) (N (w.heap.size+2) blocks.length blocks.length)).base (B':=w.heap.size) (by have:=j.out.2.2.2;omega);have b4:=Ja (Jb a3 (e5.setCell (p:=⟨w.heap.size+1,0,none⟩) Zs (N (w.heap.size+2) blocks.length blocks.length)));clear a3 hG l r y0 e5;go_wp2;refine bodyPost_ret (v:=.agg #[N (w.heap.size+2) blocks.length blocks.length]) ?_ rfl ⟨_,by rw[g3],b4.out.1,by omega,b4.out.2⟩;rw[zM rfl];go_simp
end Go.Proofs.Ytojclalkfhoooaa
