/- Part of a proof. -/
import Derived.Test.YtoahcpkibpomcaaGIter
set_option linter.all false
set_option maxHeartbeats 4000000
set_option maxRecDepth 100000
namespace Go.Proofs.Ytoahcpkibpomcaa
open Go.RowKit
variable {blocks:List IBlk}{k u:Nat}
def tW (b:IBlk):List Int:=b.term.to.map (·.block)
def zk (blocks:List IBlk):List (List Int):=blocks.map tW
def sH (blocks:List IBlk)(u k:Nat):List (List Int):=(blocks.take u).map tW++(match blocks[u]? with|some b=> [(tW b).take k]|none=> [])++List.replicate (blocks.length-u-1) []
theorem sF{b:IBlk}(h:blocks[u]? =some b)(k:Nat):sH blocks u k=(blocks.take u).map tW++(tW b).take k::List.replicate (blocks.length-u-1) []:=by
 unfold sH;rw[h];simp
theorem lA (blocks:List IBlk):sH blocks 0 0=List.replicate blocks.length []:=by
 cases blocks with
 |nil=>rfl
 |cons b bs=>simp[sH,Qz]
theorem iD{b:IBlk}(h:blocks[u]? =some b)(k:Nat):(sH blocks u k)[u]? =some ((tW b).take k):=by
 have c:=(Jh.1 h).1;rw[sF h,Nc Zt];have:u-((blocks.take u).map tW).length=0:=by simp;omega
 rw[this];rfl
theorem jW{b:IBlk}(h:blocks[u]? =some b){e:IEdge}(c:b.term.to[k]? =some e):(sH blocks u k).set u ((tW b).take k++ [e.block])=sH blocks u (k+1):=by
 have d:=(Jh.1 h).1;have hr:(tW b)[k]? =some e.block:=by unfold tW;rw[Jr,c];rfl
 rw[sF h,sF h,Uj _ _ Zt];have:u-((blocks.take u).map tW).length=0:=by simp;omega
 rw[this,Jf,Nh (i:=k) (l:=tW b),hr];rfl
theorem li{b:IBlk}(h:blocks[u]? =some b):sH blocks u b.term.to.length=sH blocks (u+1) 0:=by
 have i:=(Jh.1 h).1;have hr:(tW b).take b.term.to.length=tW b:=by rw[Oy];unfold tW;simp
 rw[sF h,hr]
 cases c:blocks[u+1]? with
 |some b2=>
  have d:=(Jh.1 c).1;rw[sF c,Uc,Nh,h,Js];have:blocks.length-u-1=blocks.length-(u+1)-1+1:=Zo;rw[this,Qz]
  simp
 |none=>
  have g:blocks.length<=u+1:=by simpa using c
  have e1:blocks.length-u-1=0:=Zo;unfold sH;rw[c,e1,Nh,h];simp;omega
theorem lE (blocks:List IBlk):sH blocks blocks.length 0=zk blocks:=by
 unfold sH zk;rw[Nl];simp
theorem te{b:IBlk}(h:k<=b.term.to.length):((tW b).take k).length=k:=by unfold tW;simp;omega
def RetRowsI (w:World)(rows:List (List Int))(e:Ending)(w':World):Prop:=∃bp,e=.returned (.agg #[N bp rows.length rows.length])/\OwnRows zN 3 25 w' w.heap.size bp rows/\w.heap.size<=bp/\O w w'
theorem ox{w:World}{B:Nat}{e8:Value}(b1:wX w B e8 blocks)(hB:B<=w.heap.size)(hs:blocks.length<=2000000/\∀b∈blocks,b.term.to.length<=2000000):
 T 22 #[.agg #[e8]] w (RetRowsI w (zk blocks)):=by
 obtain⟨fa,fc,rfl,g8,g6⟩:=b1.form;have k4:blocks.length<=9223372036854775807:=Zo;have k1:=run_make_row' (P:=Try.prog) 73 25 (F) 24 Try.underlying73 Try.info_ints rfl .i64 .i64 blocks.length Zo Zo;obtain⟨ii,g5,f3,f2,f1⟩:=info_parts Try.info_int;have m:=Ja (show wX w B (.slice fa blocks.length fc) blocks/\B<=w.heap.size/\blocks.length<=2000000/\∀b∈blocks,b.term.to.length<=2000000 from⟨b1,hB,hs⟩);have e6:O w ((w.alloc (A #[.slice fa blocks.length fc] 39)).alloc (A #[F] 75)):=((Below.refl _ _).alloc (Je _) _).alloc Zs _;have a5:Q ((w.alloc (A #[.slice fa blocks.length fc] 39)).alloc (A #[F] 75)) w.heap.size #[.slice fa blocks.length fc] 39:=zB (zI rfl);have l:Q ((w.alloc (A #[.slice fa blocks.length fc] 39)).alloc (A #[F] 75)) (w.heap.size+1) #[F] 75:=zI Zs;have a8:((w.alloc (A #[.slice fa blocks.length fc] 39)).alloc (A #[F] 75)).heap.size=w.heap.size+2:=by simp
 clear b1 hB hs g8 g6;go_enter Try.func22,Try.ntmps22;go_upto_region 1 with fail;generalize hV:(w.alloc (A #[.slice fa blocks.length fc] 39)).alloc (A #[F] 75)=V at *;have h7:=Ja (GMem.start' V (w.heap.size+2) a8 blocks.length 2000000);have j:=Ja (show O w V/\Q V w.heap.size #[.slice fa blocks.length fc] 39/\Q V (w.heap.size+1) #[F] 75/\V.heap.size=w.heap.size+2 from⟨e6,a5,l,a8⟩);have y0:=K0 a5;clear hV e6 a5 l;go_wp2
 go_loopw [16] (fun uv wx=>∃u:Nat,u<=blocks.length/\uv=I u/\Hid (GMem V wx (w.heap.size+2) (w.heap.size+2+1) blocks.length 2000000 (sH blocks u 0))) (fun uv _=>blocks.length-(intOf uv).toNat)
 case atStart=>exact⟨0,Jt _,rfl,by rw[lA];exact h7⟩
 case round=>
  obtain⟨u,hu,rfl,HU⟩:=hrel
  by_cases q:u<blocks.length
  ·have b9:(u:Int)<blocks.length:=Zo;have a2:=Ja q;obtain⟨bx,a4⟩:∃bx,blocks[u]? =some bx:=⟨_,Jd q⟩
   obtain⟨fb,fo,rfl,y,d6,d5,f4,pv,ov,tv,d3,d2,d1,d0,d4,a6⟩:=m.out.1.get a4;obtain⟨pa,pc,rfl,g1,g0⟩:=d0.form;obtain⟨oa,oc,rfl,g3,g2⟩:=d4.form;obtain⟨ta,tc,rfl,f9,f8⟩:=a6.form;have k0:bx.term.to.length<=9223372036854775807:=Zo;have c:Below B w wr:=(j.out.1.mono m.out.2.1).trans (HU.out.hb.mono (by have:=j.out.2.2.2;have:=m.out.2.1;omega));have e0:=zV c y d3;have e1:=zV c y d2;have e2:=zV c y d6;have e3:=zV c y d5;have e4:=zV c y d1;have a0:=Ja (show blocks[u]? =some bx/\wH w B (.slice ta bx.term.to.length tc) bx.term.to/\bx.term.to.length<=2000000 from⟨a4,a6,m.out.2.2.2 bx (Ji a4)⟩);have h:=zI (W:=wr) (o:=A #[.slice pa bx.params.length pc,.slice oa bx.ops.length oc,I bx.term.kind,I bx.term.a,.slice ta bx.term.to.length tc] 36) rfl;have d7:=HU.out.alloc (A #[.slice pa bx.params.length pc,.slice oa bx.ops.length oc,I bx.term.kind,I bx.term.a,.slice ta bx.term.to.length tc] 36);clear a4 d6 d5 f4 d3 d2 d1 d0 d4 a6 g1 g0 g3 g2 f9 f8 q c;go_upto_region 5 with fail;generalize h2:wr.alloc (A #[.slice pa bx.params.length pc,.slice oa bx.ops.length oc,I bx.term.kind,I bx.term.a,.slice ta bx.term.to.length tc] 36)=W1 at *;generalize k6:wr.heap.size=b5 at *;have z4:=K4 h;have h9:=Ja d7;clear h2 h d7 e0 e1 e2 e3 e4 y0;go_wp2
   go_loopw [25] (fun kv wx=>∃k:Nat,k<=bx.term.to.length/\kv=I k/\Hid (GMem V wx (w.heap.size+2) (w.heap.size+2+1) blocks.length 2000000 (sH blocks u k))) (fun kv _=>bx.term.to.length-(intOf kv).toNat)
   case atStart=>exact⟨0,Jt _,rfl,h9⟩
   case round=>
    obtain⟨k,hk,rfl,HK⟩:=hrel
    by_cases a1:k<bx.term.to.length
    ·have c2:(k:Int)<bx.term.to.length:=Zo;have b6:=Ja a1;obtain⟨e,he⟩:∃e,bx.term.to[k]? =some e:=⟨_,Jd a1⟩
     obtain⟨qb,qo,rfl,c5,c8,b0,av,c7,e7⟩:=a0.out.2.1.get he;obtain⟨aa,ac,rfl,_,_⟩:=e7.form;have c:Below B w wr:=(j.out.1.mono m.out.2.1).trans (HK.out.hb.mono (by have:=j.out.2.2.2;have:=m.out.2.1;omega));have c0:=zV c c5 c8;have c1:=zV c c5 c7;have h:=zI (W:=wr) (o:=A #[I e.block,.slice aa e.args.length ac] 93) rfl;have d:=HK.out.alloc (A #[I e.block,.slice aa e.args.length ac] 93);have HE:=Ja (show bx.term.to[k]? =some e/\I64 e.block from⟨he,b0⟩);clear he b0 c8 c7 e7 c a1 z4;go_upto_region 8 with fail;generalize h1:wr.alloc (A #[I e.block,.slice aa e.args.length ac] 93)=W2 at *;generalize k5:wr.heap.size=b7 at *;have hR:=iD a0.out.1 k;have hrl:=te (b:=bx) hk;have c9:=jW a0.out.1 HE.out.1;have h6:=Ja c9;generalize h3:(tW bx).take k=ur at *;obtain⟨ap,b2,cp,x,fp⟩:=d.hr.get hR;have f7:=lt_of_block d.hg;have c4:=d.hr.bplt;obtain⟨cc,d8⟩:=d.hr.blk;have f6:=zC x d.hg (.inr Zd);have c3:=zC x d8 (.inr Zd);have f0:=K0 d.hg;have n7:=zC x h (.inr Zd);have j1:=zA (i:=0) (v:=I e.block) h Zs;have l7:=lt_of_block h;have HR:=Ja (Jb hR x);have h8:=Ja d;have i0:=d.hb.size;have k2:=a2.out;have j2:=a0.out.2.2;have l1:=HE.out.2;have h4:∀o,Y (W2.alloc o) (w.heap.size+2) u:=fun o=>(Qm (w:=W2) (Below.heap_alloc _ _ _ c4)).trans fp
     have h5:∀o,U (W2.alloc o) (w.heap.size+2) u (.slice ap ur.length b2):=fun o=>(Oo (w:=W2) (Below.heap_alloc _ _ _ c4)).trans cp
     have f5:∀o,U (W2.alloc o) (w.heap.size+2+1) 0 (N (w.heap.size+2) blocks.length blocks.length):=fun o=>(Oo (w:=W2) (Below.heap_alloc _ _ _ f7)).trans f0
     have b4:=Ja (Jb hrl hk);clear d8 hR x h3 h1 d c9 c0 c1 h hrl
     go_region_law (first|(refine step_append_lies _ (by rfl) (.tmp 36) (.tmp 39) _ (by rfl) V.heap.size 3 ii (I 0) 1 8 Try.underlying25 g5 f3 f2 f1 rfl Zo (.slice ap ur.length b2) ur.length (ur.map zN) (by rfl) ((HR.out.2.alloc _).drew) ⟨W2.heap.size,0,none⟩ 1 1 [I e.block] (by rfl) (by rfl) (Oi (cs:=#[I e.block]) (t:=3) (fr:=(0,0)) (heap_alloc_new W2 _)) (by simp[Value.oneCell']) Zo (by have:=b4.out;unfold maxLen;omega) (by have:=b4.out;omega) Zt (W2.heap.size+1) Zs ?_;intro gg i8 w3 b8 g h0 i2;have l0:=(g.cell_far ⟨w.heap.size+2+1,0,none⟩ Zt (Ne.symm f6)).trans (f5 _);have k9:=(g.cell_far ⟨w.heap.size+2,u,none⟩ Zt (Ne.symm c3)).trans (h5 _);have k7:=(g.frozen_far ⟨w.heap.size+2,u,none⟩ Zt (Ne.symm c3)).trans (h4 _)))
     all_goals go_wp2_with fail
     all_goals go_roundw
     all_goals first
      |(have:=b6.out;simp[intOf];omega)
      |(refine⟨k+1,b6.out,by go_num,?_⟩
        have a9:=h8.out.put (row':=ur++ [e.block]) HR.out.1 cp (uj g) (by simpa[zN] using b8) h0 Zo (by have:=b4.out;simp;omega);rw[h6.out] at a9
        simpa using Ja a9)
    ·obtain rfl:k=bx.term.to.length:=by omega
     have c2:¬(bx.term.to.length:Int)<bx.term.to.length:=Zo;clear z4;go_wp2;go_roundw
     case rel=>exact⟨u+1,a2.out,by go_num,by rw[<-li a0.out.1];exact HK⟩
     case measure=>have:=a2.out;simp[intOf];omega
  ·obtain rfl:u=blocks.length:=by omega
   have b9:¬(blocks.length:Int)<blocks.length:=Zo;have hG:=HU.out;rw[lE] at hG;have g4:(zk blocks).length=blocks.length:=by unfold zk;simp
   have f0:=K0 hG.hg;have l:=zH hG.hb j.out.2.2.1 (by have:=j.out.2.2.2;omega);have i1:=K0 l;have k3:=zE (i:=0) l;have e5:O w wr:=j.out.1.trans (hG.hb.mono (by have:=j.out.2.2.2;omega));have a3:=(hG.hr.set (a:=⟨w.heap.size+1,0,none⟩) Zs (by have:=j.out.2.2.2;simp;omega) (N (w.heap.size+2) blocks.length blocks.length)).base (B':=w.heap.size) (by have:=j.out.2.2.2;omega);have b3:=Ja (Jb a3 (e5.setCell (p:=⟨w.heap.size+1,0,none⟩) Zs (N (w.heap.size+2) blocks.length blocks.length)));clear a3 hG l q y0 e5;go_wp2;refine bodyPost_ret (v:=.agg #[N (w.heap.size+2) blocks.length blocks.length]) ?_ rfl ⟨_,by rw[g4],b3.out.1,by omega,b3.out.2⟩;rw[zM rfl];go_simp
end Go.Proofs.Ytoahcpkibpomcaa
