/- Part of a proof. -/
import Derived.Test.YtoahcpkibpomcaaGreatGZx1w
set_option linter.all false
set_option maxHeartbeats 4000000
set_option maxRecDepth 100000
namespace Go.Proofs.YtoahcpkibpomcaaGreat
open Go.RowKit
variable {blocks:List IBlk}{k u:Nat}
def tW (b:IBlk):List Int:=b.term.to.map (·.block)
def zk (blocks:List IBlk):List (List Int):=blocks.map tW
def sH (blocks:List IBlk)(u k:Nat):List (List Int):=(blocks.take u).map tW++(match blocks[u]? with|some b=> [(tW b).take k]|none=> [])++List.replicate (blocks.length-u-1) []
theorem sF{b:IBlk}(h:blocks[u]? =some b)(k:Nat):sH blocks u k=(blocks.take u).map tW++(tW b).take k::List.replicate (blocks.length-u-1) []:=by
 unfold sH;rw[h];simp
theorem lA (blocks:List IBlk):sH blocks 0 0=List.replicate blocks.length []:=by
 cases blocks with
 |nil=>rfl
 |cons b bs=>simp[sH,Qz]
theorem iD{b:IBlk}(h:blocks[u]? =some b)(k:Nat):(sH blocks u k)[u]? =some ((tW b).take k):=by
 have c:=(Jh.1 h).1;rw[sF h,Nc Zt];have:u-((blocks.take u).map tW).length=0:=by simp;omega
 rw[this];rfl
theorem jW{b:IBlk}(h:blocks[u]? =some b){e:IEdge}(c:b.term.to[k]? =some e):(sH blocks u k).set u ((tW b).take k++ [e.block])=sH blocks u (k+1):=by
 have d:=(Jh.1 h).1;have hr:(tW b)[k]? =some e.block:=by unfold tW;rw[Jr,c];rfl
 rw[sF h,sF h,Uj _ _ Zt];have:u-((blocks.take u).map tW).length=0:=by simp;omega
 rw[this,Jf,Nh (i:=k) (l:=tW b),hr];rfl
theorem li{b:IBlk}(h:blocks[u]? =some b):sH blocks u b.term.to.length=sH blocks (u+1) 0:=by
 have g:=(Jh.1 h).1;have hr:(tW b).take b.term.to.length=tW b:=by rw[Oy];unfold tW;simp
 rw[sF h,hr]
 cases h2:blocks[u+1]? with
 |some b2=>
  have c:=(Jh.1 h2).1;rw[sF h2,Uc,Nh,h,Js];have:blocks.length-u-1=blocks.length-(u+1)-1+1:=Zo;rw[this,Qz]
  simp
 |none=>
  have d:blocks.length<=u+1:=by simpa using h2
  have e1:blocks.length-u-1=0:=Zo;unfold sH;rw[h2,e1,Nh,h];simp;omega
theorem lE (blocks:List IBlk):sH blocks blocks.length 0=zk blocks:=by
 unfold sH zk;rw[Nl];simp
theorem te{b:IBlk}(h:k<=b.term.to.length):((tW b).take k).length=k:=by unfold tW;simp;omega
def RetRowsI (w:World)(rows:List (List Int))(e:Ending)(w':World):Prop:=∃bp,e=.returned (.agg #[F bp rows.length rows.length])/\OwnRows zN 3 22 w' w.heap.size bp rows/\w.heap.size<=bp/\N w w'
theorem ox{w:World}{B:Nat}{f0:Value}(b3:wX w B f0 blocks)(hB:B<=w.heap.size)(hs:blocks.length<=2000000/\∀b∈blocks,b.term.to.length<=2000000):
 G 41 #[.agg #[f0]] w (RetRowsI w (zk blocks)):=by
 obtain⟨fa,fc,rfl,g9,g8⟩:=b3.form;have k6:blocks.length<=9223372036854775807:=Zo;have k3:=run_make_row' (P:=Tryz.prog) 103 22 (L) 24 Tryz.underlying103 Tryz.info_ints rfl .i64 .i64 blocks.length Zo Zo;obtain⟨ii,g6,f4,f3,f2⟩:=info_parts Tryz.info_int;have m:=Ja (show wX w B (.slice fa blocks.length fc) blocks/\B<=w.heap.size/\blocks.length<=2000000/\∀b∈blocks,b.term.to.length<=2000000 from⟨b3,hB,hs⟩);have e7:N w ((w.alloc (I #[.slice fa blocks.length fc] 39)).alloc (I #[L] 105)):=((Below.refl _ _).alloc (Je _) _).alloc Zs _;have a6:O ((w.alloc (I #[.slice fa blocks.length fc] 39)).alloc (I #[L] 105)) w.heap.size #[.slice fa blocks.length fc] 39:=zB (zI rfl);have l:O ((w.alloc (I #[.slice fa blocks.length fc] 39)).alloc (I #[L] 105)) (w.heap.size+1) #[L] 105:=zI Zs;have b0:((w.alloc (I #[.slice fa blocks.length fc] 39)).alloc (I #[L] 105)).heap.size=w.heap.size+2:=by simp
 clear b3 hB hs g9 g8;go_enter Tryz.func41,Tryz.ntmps41;go_upto_region 1 with fail;generalize hV:(w.alloc (I #[.slice fa blocks.length fc] 39)).alloc (I #[L] 105)=V at *;have i0:=Ja (GMem.start' V (w.heap.size+2) b0 blocks.length 2000000);have j:=Ja (show N w V/\O V w.heap.size #[.slice fa blocks.length fc] 39/\O V (w.heap.size+1) #[L] 105/\V.heap.size=w.heap.size+2 from⟨e7,a6,l,b0⟩);have y0:=K0 a6;clear hV e7 a6 l;go_wp2
 go_loopw [16] (fun uv wx=>∃u:Nat,u<=blocks.length/\uv=U u/\Hid (GMem V wx (w.heap.size+2) (w.heap.size+2+1) blocks.length 2000000 (sH blocks u 0))) (fun uv _=>blocks.length-(intOf uv).toNat)
 case atStart=>exact⟨0,Jt _,rfl,by rw[lA];exact i0⟩
 case round=>
  obtain⟨u,hu,rfl,HU⟩:=hrel
  by_cases x:u<blocks.length
  ·have c3:(u:Int)<blocks.length:=Zo;have a3:=Ja x;obtain⟨bx,a5⟩:∃bx,blocks[u]? =some bx:=⟨_,Jd x⟩
   obtain⟨fb,fo,rfl,a0,d8,d7,f5,pv,ov,tv,d5,d4,d3,d2,d6,a8⟩:=m.out.1.get a5;obtain⟨pa,pc,rfl,g2,g1⟩:=d2.form;obtain⟨oa,oc,rfl,g4,g3⟩:=d6.form;obtain⟨ta,tc,rfl,g0,f9⟩:=a8.form;have k2:bx.term.to.length<=9223372036854775807:=Zo;have c:Below B w wr:=(j.out.1.mono m.out.2.1).trans (HU.out.hb.mono (by have:=j.out.2.2.2;have:=m.out.2.1;omega));have e0:=zV c a0 d5;have e1:=zV c a0 d4;have e2:=zV c a0 d8;have e3:=zV c a0 d7;have e4:=zV c a0 d3;have a1:=Ja (show blocks[u]? =some bx/\wH w B (.slice ta bx.term.to.length tc) bx.term.to/\bx.term.to.length<=2000000 from⟨a5,a8,m.out.2.2.2 bx (Ji a5)⟩);have h:=zI (W:=wr) (o:=I #[.slice pa bx.params.length pc,.slice oa bx.ops.length oc,U bx.term.kind,U bx.term.a,.slice ta bx.term.to.length tc] 84) rfl;have d9:=HU.out.alloc (I #[.slice pa bx.params.length pc,.slice oa bx.ops.length oc,U bx.term.kind,U bx.term.a,.slice ta bx.term.to.length tc] 84);clear a5 d8 d7 f5 d5 d4 d3 d2 d6 a8 g2 g1 g4 g3 g0 f9 x c;go_upto_region 5 with fail;generalize h5:wr.alloc (I #[.slice pa bx.params.length pc,.slice oa bx.ops.length oc,U bx.term.kind,U bx.term.a,.slice ta bx.term.to.length tc] 84)=W1 at *;generalize k9:wr.heap.size=b5 at *;have z4:=K4 h;have i2:=Ja d9;clear h5 h d9 e0 e1 e2 e3 e4 y0;go_wp2
   go_loopw [25] (fun kv wx=>∃k:Nat,k<=bx.term.to.length/\kv=U k/\Hid (GMem V wx (w.heap.size+2) (w.heap.size+2+1) blocks.length 2000000 (sH blocks u k))) (fun kv _=>bx.term.to.length-(intOf kv).toNat)
   case atStart=>exact⟨0,Jt _,rfl,i2⟩
   case round=>
    obtain⟨k,hk,rfl,HK⟩:=hrel
    by_cases a2:k<bx.term.to.length
    ·have c4:(k:Int)<bx.term.to.length:=Zo;have b9:=Ja a2;obtain⟨e,he⟩:∃e,bx.term.to[k]? =some e:=⟨_,Jd a2⟩
     obtain⟨qb,qo,rfl,c8,d0,b2,av,c9,e9⟩:=a1.out.2.1.get he;obtain⟨aa,ac,rfl,_,_⟩:=e9.form;have c:Below B w wr:=(j.out.1.mono m.out.2.1).trans (HK.out.hb.mono (by have:=j.out.2.2.2;have:=m.out.2.1;omega));have c0:=zV c c8 d0;have c1:=zV c c8 c9;have h:=zI (W:=wr) (o:=I #[U e.block,.slice aa e.args.length ac] 79) rfl;have d:=HK.out.alloc (I #[U e.block,.slice aa e.args.length ac] 79);have HE:=Ja (show bx.term.to[k]? =some e/\I64 e.block from⟨he,b2⟩);clear he b2 d0 c9 e9 c a2 z4;go_upto_region 8 with fail;generalize h4:wr.alloc (I #[U e.block,.slice aa e.args.length ac] 79)=W2 at *;generalize k7:wr.heap.size=b7 at *;have hR:=iD a1.out.1 k;have hrl:=te (b:=bx) hk;have d1:=jW a1.out.1 HE.out.1;have h9:=Ja d1;generalize h6:(tW bx).take k=ur at *;obtain⟨ap,b4,cp,y,fp⟩:=d.hr.get hR;have f8:=lt_of_block d.hg;have c7:=d.hr.bplt;obtain⟨cc,e5⟩:=d.hr.blk;have f7:=zC y d.hg (.inr Zd);have c5:=zC y e5 (.inr Zd);have f1:=K0 d.hg;have n7:=zC y h (.inr Zd);have k0:=zA (i:=0) (v:=U e.block) h Zs;have l7:=lt_of_block h;have HR:=Ja (Jb hR y);have i1:=Ja d;have i8:=d.hb.size;have k4:=a3.out;have k1:=a1.out.2.2;have l3:=HE.out.2;have h7:∀o,D (W2.alloc o) (w.heap.size+2) u:=fun o=>(Qm (w:=W2) (Below.heap_alloc _ _ _ c7)).trans fp
     have h8:∀o,A (W2.alloc o) (w.heap.size+2) u (.slice ap ur.length b4):=fun o=>(Oo (w:=W2) (Below.heap_alloc _ _ _ c7)).trans cp
     have f6:∀o,A (W2.alloc o) (w.heap.size+2+1) 0 (F (w.heap.size+2) blocks.length blocks.length):=fun o=>(Oo (w:=W2) (Below.heap_alloc _ _ _ f8)).trans f1
     have b8:=Ja (Jb hrl hk);clear e5 hR y h6 h4 d d1 c0 c1 h hrl
     go_region_law (first|(refine step_append_lies _ (by rfl) (.tmp 36) (.tmp 39) _ (by rfl) V.heap.size 3 ii (U 0) 1 8 Tryz.underlying22 g6 f4 f3 f2 rfl Zo (.slice ap ur.length b4) ur.length (ur.map zN) (by rfl) ((HR.out.2.alloc _).drew) ⟨W2.heap.size,0,none⟩ 1 1 [U e.block] (by rfl) (by rfl) (Oi (cs:=#[U e.block]) (t:=3) (fr:=(0,0)) (heap_alloc_new W2 _)) (by simp[Value.oneCell']) Zo (by have:=b8.out;unfold maxLen;omega) (by have:=b8.out;omega) Zt (W2.heap.size+1) Zs ?_;intro gg j2 w3 c2 g h0 j1;have l2:=(g.cell_far ⟨w.heap.size+2+1,0,none⟩ Zt (Ne.symm f7)).trans (f6 _);have l1:=(g.cell_far ⟨w.heap.size+2,u,none⟩ Zt (Ne.symm c5)).trans (h8 _);have l0:=(g.frozen_far ⟨w.heap.size+2,u,none⟩ Zt (Ne.symm c5)).trans (h7 _)))
     all_goals go_wp2_with fail
     all_goals go_roundw
     all_goals first
      |(have:=b9.out;simp[intOf];omega)
      |(refine⟨k+1,b9.out,by go_num,?_⟩
        have b1:=i1.out.put (row':=ur++ [e.block]) HR.out.1 cp (uj g) (by simpa[zN] using c2) h0 Zo (by have:=b8.out;simp;omega);rw[h9.out] at b1
        simpa using Ja b1)
    ·obtain rfl:k=bx.term.to.length:=by omega
     have c4:¬(bx.term.to.length:Int)<bx.term.to.length:=Zo;clear z4;go_wp2;go_roundw
     case rel=>exact⟨u+1,a3.out,by go_num,by rw[<-li a1.out.1];exact HK⟩
     case measure=>have:=a3.out;simp[intOf];omega
  ·obtain rfl:u=blocks.length:=by omega
   have c3:¬(blocks.length:Int)<blocks.length:=Zo;have hG:=HU.out;rw[lE] at hG;have g5:(zk blocks).length=blocks.length:=by unfold zk;simp
   have f1:=K0 hG.hg;have l:=zH hG.hb j.out.2.2.1 (by have:=j.out.2.2.2;omega);have j0:=K0 l;have k5:=zE (i:=0) l;have e6:N w wr:=j.out.1.trans (hG.hb.mono (by have:=j.out.2.2.2;omega));have a4:=(hG.hr.set (a:=⟨w.heap.size+1,0,none⟩) Zs (by have:=j.out.2.2.2;simp;omega) (F (w.heap.size+2) blocks.length blocks.length)).base (B':=w.heap.size) (by have:=j.out.2.2.2;omega);have b6:=Ja (Jb a4 (e6.setCell (p:=⟨w.heap.size+1,0,none⟩) Zs (F (w.heap.size+2) blocks.length blocks.length)));clear a4 hG l x y0 e6;go_wp2;refine bodyPost_ret (v:=.agg #[F (w.heap.size+2) blocks.length blocks.length]) ?_ rfl ⟨_,by rw[g5],b6.out.1,by omega,b6.out.2⟩;rw[zM rfl];go_simp
end Go.Proofs.YtoahcpkibpomcaaGreat
