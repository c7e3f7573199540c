/- Part of a proof. -/
import Derived.Test.YtoahcpkibpomcaaGreatGZw6v
set_option linter.all false
set_option maxHeartbeats 1000000
set_option maxRecDepth 100000
namespace Go.Proofs.YtoahcpkibpomcaaGreat
open Go.RowKit
theorem spoil_12 {w:World}{B g i:Nat}{v:Value}{bt:BT}{l:List BT}{rs:List Row}(h:SpSt w B g i v bt l rs){n:Nat}(hn:n<65536)(hz:SzB bt):
 G 32 #[.pointer (some ⟨g,i*5,none⟩),I 12,I n] w (uE w B g i v bt l rs 12 n):=by
 have a2:w.ownsRow B 76 6 bt.ov bt.ops.length (bt.ops.flatMap zU):=h.rows.own _ (.tail _ (Jz _ (.tail _ (.head _))));obtain⟨xa,oc,a6⟩:=zG a2;have a5:=z9 zX (h.rows.own _ (.head _)) h.gb h.at';have b5:=fun q (hq:q<5)=>(zq Zd zX (h.rows.own _ (.head _)) h.gb h.at' q hq).2
 have c1:A w g (i*5+1) (.slice xa bt.ops.length oc):=by rw[<-a6];exact a5 1 _ rfl
 have gl:=((h.rows.own _ (.head _)).lt g h.gb).2;have c9:=hz.ops;have d:w.ownsRow B 79 2 bt.tv bt.tos.length (bt.tos.flatMap za):=h.rows.own _ (.tail _ (Jz _ (.tail _ (.tail _ (.head _)))));obtain⟨ya,ec,a1⟩:=zG d;have c4:A w g (i*5+4) (.slice ya bt.tos.length ec):=by rw[<-a1];exact a5 4 _ rfl
 by_cases b1:0<bt.tos.length
 ·skip
  have u:=d;rw[a1] at u;obtain⟨eb,d7,c2,d1,d0⟩:=u.form b1;cases c2;have a0:bt.tv.ownBlock=some eb:=by rw[a1];rfl
  obtain⟨k,a9⟩:∃k,bt.tos.length=k+1:=⟨bt.tos.length-1,by omega⟩
  obtain⟨⟨o,av⟩,y⟩:∃x,bt.tos[k]? =some x:=⟨_,Jd Zo⟩
  have b4:=z9 yd d a0 y;have b3:w.ownsRow B 3 1 av o.args.length (o.args.map zN):=h.rows.own (zP av o.args) (.tail _ (Jz _ (.tail _ (.tail _ (.tail _ (Qf _ (Oj (Ji y))))))));obtain⟨aa,ac,t⟩:=zG b3;have d6:o.args.length<=2000000:=hz.earg _ (Ji y);have d3:=hz.tos;have c5:A w eb (k*2+1) (.slice aa o.args.length ac):=by rw[<-t];exact b4 1 _ rfl
  have c8:N w eb (k*2+1):=(zq Zd yd d a0 y 1 Zd).2;have a7:eb<w.heap.size:=(d.lt eb a0).2;have s1:∀o,A (w.drew.alloc o) g (i*5+4) (F eb bt.tos.length ec):=fun o=>(Ok w.drew _ _ gl).trans c4
  have s5:∀o,A (w.drew.alloc o) eb (k*2+1) _:=fun o=>(Ok w.drew _ _ a7).trans c5
  have f5:∀o,N (w.drew.alloc o) eb (k*2+1):=fun o=>(Below.frozen ((Below.refl w.heap.size w.drew).alloc (Je _) o) (p:=⟨eb,k*2+1,none⟩) a7).trans c8
  have a8:=fun x (hx:av.ownBlock=some x)=>h.farE y hx
  have hB:B<=w.heap.size:=by have:=(h.rows.own _ (.head _)).lt g h.gb;omega
  have HN:=Ja (show some g≠(Value.slice aa o.args.length ac).ownBlock/\some eb≠(Value.slice aa o.args.length ac).ownBlock by rw[<-t];exact⟨fun e=>(a8 g e.symm).1 rfl,fun e=>(a8 eb e.symm).2 a0⟩);have HR:=Ja (show(w.alloc (T #[I ((n:Int)%40)] 3)).drew.ownsRow B 3 1 (.slice aa o.args.length ac) o.args.length (o.args.map zN)/\yM (w.alloc (T #[I ((n:Int)%40)] 3)).drew 1 (F w.heap.size 1 1) 1 [I ((n:Int)%40)] by rw[<-t];exact⟨b3.alloc _,yM.one (w:=(w.alloc (T #[I ((n:Int)%40)] 3)).drew) (zI (W:=w) rfl) rfl⟩);obtain⟨ii,c7,b9,b8,b7⟩:=info_parts Tryz.info_int;have c0:(0:Int)<(bt.tos.length:Int):=Zo;have d4:(k:Int)<(bt.tos.length:Int):=Zo;have d2:IntKind.i64.wrap ((bt.tos.length:Int)-1)=(k:Int):=by rw[show(bt.tos.length:Int)-1=(k:Int) by omega];exact Om _ Zo
  have m:=Ja (Jb h (Jb a0 (Jb y (Jb t a9))));clear h a2 a6 a5 b5 hz d u a1 a0 y b4 b3 t a8 a9;go_enter Tryz.func32,Tryz.ntmps32
  go_upto_if 14 with fail
  go_cut [6,7,8] (fun a b c wx=>w=wx)
  case first=>
   by_cases c3:0<bt.ops.length
   ·have a3:(0:Int)<(bt.ops.length:Int):=Zo;go_wp2;go_meet;rfl
   ·have a3:¬(0:Int)<(bt.ops.length:Int):=Zo;go_wp2;go_meet;rfl
  case rest=>
  obtain rfl:=hcut;go_wp2;refine wp_region_noPanic ?_;refine yQ (S:=(fun w'=>A w' g (i*5+4) (F eb bt.tos.length ec)/\A w' eb (k*2+1) (.slice aa o.args.length ac))) 33 Zk ⟨c4,c5⟩ (fun hHeld=>?_);refine Tl 0 ?_
  try simp only[Yp]
  refine Tl 1 ?_
  try simp only[Yp]
  refine Tl 2 ?_
  try simp only[Yp]
  refine Tl 3 ?_
  try simp only[Yp]
  refine Tl 4 ?_
  try simp only[Yp]
  refine Tl 5 ?_
  try simp only[Yp]
  refine Tl 6 ?_
  try simp only[Yp]
  refine Tl 7 ?_
  try simp only[Yp]
  refine Tl 8 ?_
  try simp only[Yp]
  refine Tl 9 ?_
  try simp only[Yp]
  refine Tl 10 ?_
  try simp only[Yp]
  refine Tl 11 ?_
  try simp only[Yp]
  refine Tl 12 ?_
  try simp only[Yp]
  refine Tl 13 ?_
  try simp only[Yp]
  refine Tl 14 ?_
  try simp only[Yp]
  refine Tl 15 ?_
  try simp only[Yp]
  refine Tl 16 ?_
  try simp only[Yp]
  refine Tl 17 ?_
  try simp only[Yp]
  refine Tl 18 ?_
  try simp only[Yp]
  refine Tl 19 ?_
  try simp only[Yp]
  refine Tl 20 ?_
  try simp only[Yp]
  refine Tl 21 ?_
  try simp only[Yp]
  refine Tl 22 ?_
  try simp only[Yp]
  refine Tl 23 ?_
  try simp only[Yp]
  refine Tl 24 ?_
  try simp only[Yp]
  refine Tl 25 ?_
  try simp only[Yp]
  refine Tl 26 ?_
  try simp only[Yp]
  refine Tl 27 ?_
  try simp only[Yp]
  refine Tl 28 ?_
  try simp only[Yp]
  refine z8 (rs:=[29]) Zk Zs ?_;refine zS.cons (o:=_) rfl (fun K hK=>?_) ?_
  ·skip
   go_simp;refine hK.out _ _ ⟨s1 _,s5 _⟩ (fun hHeld=>?_);clear hK K
   try simp only[Yp]
   refine z8 (rs:=[30]) Zk Zs ?_;refine zS.cons (o:=_) rfl (fun K hK=>?_) ?_
   ·skip
    (refine yG (by rfl) (.tmp 241) (.tmp 244) _ (by rfl) B 3 ii (I 0) 1 8 Tryz.underlying22 c7 b9 b8 b7 rfl Zo (.slice aa o.args.length ac) o.args.length (o.args.map zN) (by rfl) HR.out.1 (F w.heap.size 1 1) 1 [I ((n:Int)%40)] (by rfl) HR.out.2 (by unfold maxLen;omega) Zo Zt ?_;intro ra rc w9 a4 j b2;have d5:N w9 eb (k*2+1):=(j.frozen_far _ Zt HN.out.2).trans (f5 _);(try dsimp only))
    refine hK.out _ _ ⟨(j.cell_far _ Zt HN.out.1).trans (s1 _),(j.cell_far _ Zt HN.out.2).trans (s5 _)⟩ (fun hHeld=>?_);clear hK K
    try simp only[Yp]
    refine z8 (rs:=[31]) Zk Zs ?_;refine zS.cons (o:=_) rfl (fun K hK=>?_) ?_
    ·skip
     go_simp;refine hK.out _ _ Zz (fun hHeld=>?_);clear hK K
     try simp only[Yp]
     refine Tl 32 ?_
     try simp only[Yp]
     refine z8 (rs:=[33]) Zk Zs ?_;refine zS.last (o:=_) rfl (fun K hK=>?_);go_simp;refine hK.out _ _ ?_;clear hK K
     try simp only[Yp]
     refine xj Zk (NoPanic.normal ?_) _;have HG:=Ja (Jb a4 (Jb j b2));clear a4 j b2;go_wp2
     first|go_end0|refine bodyPost_ret (results_none rfl _ _ _) rfl ?_
     have b6:O w (w.drew.alloc (T #[I ((n:Int)%40)] 3)):=((Below.refl w.heap.size w).drew).alloc Zs _;have t:=m.out.2.2.2.1;have b0:=HG.out.2.1;rw[<-t] at b0;refine⟨rfl,_,m.out.1.growE (w1:=w.drew.alloc (T #[I ((n:Int)%40)] 3)) (x:=(n:Int)%40) m.out.2.1 m.out.2.2.1 b6 b0 HG.out.1 (fun x e=>?_),?_,?_⟩
     ·rcases HG.out.2.2 with e2|e2
      ·left;rw[<-e,t];exact e2.symm
      ·right;have e3:=e2.symm.trans e;simp at e3;omega
     ·have a9:=m.out.2.2.2.2;unfold xh BT.blk;simp only[Nr];rw[if_neg Zo,if_neg Zo,if_neg Zo,if_neg Zo,if_neg Zo,if_pos (by trivial),show bt.tos.length-1=k by omega,xI (x:=o) (by rw[Jr,m.out.2.2.1];rfl),Ox]
     ·have hm:zP av o.args∈zd v l::bt.rows:=.tail _ (.tail _ (.tail _ (.tail _ (Qf _ (Oj (Ji m.out.2.2.1))))));exact((Chg.below b6).trans ((uY (r:=zP av o.args) b0).one hm)).trans ((xJ (a:=⟨eb,k*2+1,none⟩) (r:=xg bt.tv bt.tos) m.out.2.1).one (rS v l bt))
    exact zS.nil
   exact zS.nil
  exact zS.nil
 ·have c0:¬(0:Int)<(bt.tos.length:Int):=Zo;have m:=Ja (Jb h b1);clear h a2 a6 a5 b5 hz d a1 b1
  by_cases c3:0<bt.ops.length
  ·have a3:(0:Int)<(bt.ops.length:Int):=Zo;go_enter Tryz.func32,Tryz.ntmps32;go_wp2
   first|go_end0|refine bodyPost_ret (results_none rfl _ _ _) rfl ?_
   refine wP m.out.1 ?_;have e:bt.tos=[]:=Nz (by have:=m.out.2;omega);unfold xh BT.blk;rw[e];rfl
  ·have a3:¬(0:Int)<(bt.ops.length:Int):=Zo;go_enter Tryz.func32,Tryz.ntmps32;go_wp2
   first|go_end0|refine bodyPost_ret (results_none rfl _ _ _) rfl ?_
   refine wP m.out.1 ?_;have e:bt.tos=[]:=Nz (by have:=m.out.2;omega);unfold xh BT.blk;rw[e];rfl
end Go.Proofs.YtoahcpkibpomcaaGreat
