/- Part of a proof. -/
import Derived.Test.YtojclalkfhoooaaMkX
set_option linter.all false
set_option maxHeartbeats 4000000
set_option maxRecDepth 100000
namespace Go.Proofs.Ytojclalkfhoooaa
open Go.RowKit
def jx (blocks:List IBlk):Prop:=∀b∈blocks,(∀o∈b.ops,o.args.length<=2000000)/\∀e∈b.term.to,e.args.length<=2000000
theorem lG {v:Value}{l:List BT}:∀x∈zd v l::l.flatMap BT.rows,x.e≠43:=fun x c=>by
 rcases Jq.1 c with rfl|c
 ·show 49≠43;decide
 obtain⟨b,_,c⟩:=Qx.1 c;unfold BT.rows at c;rcases Jq.1 c with rfl|c
 ·show 3≠43;decide
 rcases Jq.1 c with rfl|c
 ·show 77≠43;decide
 rcases Jq.1 c with rfl|c
 ·show 75≠43;decide
 rcases Jl.1 c with c|c
 ·obtain⟨q,_,rfl⟩:=Nu.1 c
  show 3≠43;decide
 ·obtain⟨q,_,rfl⟩:=Nu.1 c
  show 3≠43;decide
theorem mA {w:World}{B:Nat}{n6:Value}{blocks:List IBlk}(l5:wX w B n6 blocks)(hB:B<=w.heap.size)(hs:vZ blocks)(ha:jx blocks):
 G 57 #[.agg #[n6]] w (fun e w'=>∃(f:FT) (a:Option Addr) (n c:Nat),f.bv=.slice a n c/\e=.returned (.agg #[.slice a n c])/\f.fn=blocks/\Rows w' w.heap.size f.rows/\L w w'):=by
 obtain⟨fa,fc,rfl,w7,w6⟩:=l5.form;have w1:=hs.1;have h4:=Ja (Jb l5 (Jb hB (Jb hs ha)));obtain⟨f1,d4⟩:∃f1,w.heap.size=f1:=⟨_,rfl⟩
 have n5:L w (((w.alloc (A #[.slice fa blocks.length fc] 43)).alloc (A #[F] 43)).alloc (A #[F] 43)):=(((Below.refl _ _).alloc (Je _) _).alloc Zs _).alloc Zt _;have f2:=zB (o:=A #[F] 43) (zB (o:=A #[F] 43) (zI (W:=w) (o:=A #[.slice fa blocks.length fc] 43) rfl));have e8:=zB (o:=A #[F] 43) (zI (W:=w.alloc (A #[.slice fa blocks.length fc] 43)) (o:=A #[F] 43) rfl);have i8:=zI (W:=(w.alloc (A #[.slice fa blocks.length fc] 43)).alloc (A #[F] 43)) (o:=A #[F] 43) rfl;have n0:(w.alloc (A #[.slice fa blocks.length fc] 43)).heap.size=w.heap.size+1:=by simp
 have m7:((w.alloc (A #[.slice fa blocks.length fc] 43)).alloc (A #[F] 43)).heap.size=w.heap.size+1+1:=by simp
 rw[n0] at e8;rw[m7] at i8;clear l5 hB hs n0 m7 ha;go_enter Try.func57,Try.ntmps57;go_upto_region 2 with fail;generalize s8:((w.alloc (A #[.slice fa blocks.length fc] 43)).alloc (A #[F] 43)).alloc (A #[F] 43)=W1 at *;rw[d4] at f2 e8 i8;generalize r4:f1+1+1=g3 at *;generalize q9:f1+1=r2 at *;have h7:f1<r2/\r2<g3:=Zo;have t5:=Ja (show OfTop w f1 r2 g3 (.slice fa blocks.length fc) (F) [] W1/\([]:List BT).map BT.blk=blocks.take 0 from⟨⟨f2,e8,i8,by rw[<-d4];exact n5,Rows.nil.cons (Jv _ _ _ _) (fun g e=>by simp[Row.blk,zd,Value.ownBlock] at e),h7⟩,rfl⟩);have j3:=Ja (show ∀wx,Below f1 w wx->wX wx B (.slice fa blocks.length fc) blocks/\B<=wx.heap.size from fun wx hbx=>⟨h4.out.1.below yT (hbx.mono (by rw[<-d4];exact h4.out.2.1)),Jn h4.out.2.1 hbx.size⟩);have u0:=Ja d4;clear n5 f2 e8 i8 s8 d4 q9 r4 h7;go_wp2
 go_loopw [4] (fun kv wx=>∃(k:Nat) (l:List BT) (ga:Option Addr) (gc:Nat),k<=blocks.length/\kv=O k/\Hid (OfTop w f1 r2 g3 (.slice fa blocks.length fc) (.slice ga k gc) l wx/\l.map BT.blk=blocks.take k)) (fun kv _=>blocks.length-(intOf kv).toNat)
 case atStart=>exact⟨0,[],none,0,Jt _,rfl,t5⟩
 case round=>
  obtain⟨k,l,ga,gc,hk,rfl,HK⟩:=hrel;have c0:=zA (i:=0) HK.out.1.h1 rfl;have r5:=lt_of_block HK.out.1.h1
  by_cases n3:k<blocks.length
  ·have o4:(k:Int)<(blocks.length:Int):=Zo;obtain⟨b,hb⟩:∃b,blocks[k]? =some b:=⟨_,Jd n3⟩
   have g8:=h4.out.2.2.1.2 b (Ji hb);have g9:=h4.out.2.2.2 b (Ji hb);obtain⟨tb,q8⟩:∃tb,wr.heap.size=tb:=⟨_,rfl⟩
   have b7:=HK.out.1.start q8;have HB:=Ja (Jb hb (Jb g8 g9));have v5:=g8.1;have w0:=g8.2.1;have v1:=g8.2.2;clear hb g8 g9;go_upto_region 6 with fail;generalize s7:wr.alloc (A #[F,F,O 0,O 0,F] 49)=W5 at *;obtain⟨b5,w8⟩:=j3.out _ b7.bel;obtain⟨bb,bo,r6,s6,t3,t2,h64,pv,ov,tv,g0,g1,g4,h6,o0,n8⟩:=b5.get HB.out.1;obtain⟨pa,pc,rfl,v6,v4⟩:=h6.form;subst r6;have o6:bb<W5.heap.size:=Zo;have d0:=zA (i:=0) b7.h1 rfl;have dl:=lt_of_block b7.h1;have t0:=zA (i:=0) b7.hb rfl;have m2:N W5 tb 0:=zE b7.hb;have tl:=lt_of_block b7.hb;have n9:=b7.sz;have k7:=zY.src h6;have n7:=Ja (Jb b7 k7);obtain⟨ij,f3,d2,d1,c9⟩:=info_parts Try.info_int;clear c0 r5 b7 b5 h6 o0 n8 g1 g4 t3 t2 h64 k7 s7
   go_cut [] (fun wx=>Hid (∃k3,OfMid w f1 r2 g3 tb (.slice (some ⟨bb,bo,none⟩) blocks.length fc) (.slice ga k gc) {bt0 with params:=b.params,pv:=k3 } l [] wx))
   case first=>
    go_region_law (first|(refine yG (by rfl) (.tmp 20) (.tmp 26) _ (by rfl) f1 3 ij (O 0) 1 8 Try.underlying22 f3 d2 d1 c9 rfl Zo (F) 0 [] (by rfl) (Jv _ _ _ _) (.slice pa b.params.length pc) b.params.length (b.params.map zN) (by rfl) n7.out.2 (by unfold maxLen;omega) Zo Zt ?_;intro aa9 u6 w9 d r t;have z4:=(r.cell_far ⟨tb,0,none⟩ Zt (by simp[Value.ownBlock])).trans t0;have z3:=(r.frozen_far ⟨tb,0,none⟩ Zt (by simp[Value.ownBlock])).trans m2))
    all_goals go_wp2_with fail
    all_goals go_meet
    all_goals (
     rw[Ng,Op] at d;rw[Ng] at t
     exact Ja ⟨_,n7.out.1.par rfl (Below.refl _ _).drew r d (fun q e=>t.elim (fun e2=> .inl (e2.symm.trans e)) (fun e2=> .inr (by have e3:=e2.symm.trans e;simp at e3;omega)))⟩)
   case rest=>
   obtain⟨k3,e9⟩:=hcut.out;obtain⟨bt1,f5⟩:∃bt1:BT,{bt0 with params:=b.params,pv:=k3 }=bt1:=⟨_,rfl⟩
   rw[f5] at e9;have t8:=Ja (show OfMid w f1 r2 g3 tb (.slice (some ⟨bb,bo,none⟩) blocks.length fc) (.slice ga k gc) {bt1 with ops:=[],ov:=F } l [] wc/\([]:List (IOp×Value)).map (·.1)=b.ops.take 0 from⟨by rw[<-f5] at e9 ⊢;exact e9,rfl⟩);have p0:=Ja f5;have e0:=zA (i:=0) e9.h1 rfl;have el:=lt_of_block e9.h1;clear f5 hcut d0 dl t0 m2 tl n9 f3 d2 d1 c9 ij o6 g0;have g7:Below f1 w wc:=e9.bel;have f6:bb<wc.heap.size:=Jy s6 (j3.out _ g7).2;clear e9 g7;go_wp2;clear e0 el f6
   go_loopw [6] (fun jv wx=>∃(j:Nat) (ol:List (IOp×Value)) (oa:Option Addr) (oc:Nat),j<=b.ops.length/\jv=O j/\Hid (OfMid w f1 r2 g3 tb (.slice (some ⟨bb,bo,none⟩) blocks.length fc) (.slice ga k gc) {bt1 with ops:=ol,ov:=.slice oa j oc } l [] wx/\ol.map (·.1)=b.ops.take j)) (fun jv _=>b.ops.length-(intOf jv).toNat)
   case atStart=>exact⟨0,[],none,0,Jt _,rfl,t8⟩
   case round=>
    obtain⟨j,ol,oa,oc,hj,rfl,HJ⟩:=hrel;have e0:=zA (i:=0) HJ.out.1.h1 rfl;have el:=lt_of_block HJ.out.1.h1;obtain⟨b5,o9⟩:=j3.out _ HJ.out.1.bel;obtain⟨b2,o2,h8,_,q2c,i3,g5,q3,ov2,p3,q0,q1,q4,c2,a9,a7⟩:=b5.get HB.out.1;cases h8;obtain⟨sa,sc,rfl,v3,v2⟩:=a9.form;have f6:bb<wr.heap.size:=Zo
    by_cases f0:j<b.ops.length
    ·have l2:(j:Int)<(b.ops.length:Int):=Zo;obtain⟨o,ho⟩:∃o,b.ops[j]? =some o:=⟨_,Jd f0⟩
     obtain⟨ob,oo,k9,o3,y0,y1,y2,y3,y4,f7,yv,y5,e7⟩:=a9.get ho;obtain⟨ya,yc,rfl,q6,q5⟩:=e7.form;subst k9;have o1:ob<wr.heap.size:=Zo;have m1:=(HB.out.2.2.1 o (Ji ho))
     obtain⟨q,hq⟩:∃q,wr.heap.size=q:=⟨_,rfl⟩
     have c5:L wr (wr.alloc (A (D o ya yc) 77)):=(Below.refl _ _).alloc (Je _) _;have b0:=zI (W:=wr) (o:=A (D o ya yc) 77) hq;have b9:=zY.src (e7.below zO (c5.mono o9));have h0:=Ja (Jb ho (Jb f7 hq));clear c2 a9 a7 b5 q0 q4 q2c i3 g5 ho f7 e7;go_upto_region 12 with fail;generalize l7:wr.alloc (A (D o ya yc) 77)=W6 at *;have z5:=zA (i:=5) b0 rfl;have p1:N W6 q 5:=zE b0;have zl:=lt_of_block b0;have c4:W6.ownsRow f1 3 1 (F) 0 []:=Jv _ _ _ _;have o5:f1<=W6.heap.size:=Jn HJ.out.1.sz c5.size;have b4:=Ja (Jb b0 (Jb b9 (Jb c4 c5)));obtain⟨ij,f3,d2,d1,c9⟩:=info_parts Try.info_int;clear b0 b9 c4 c5 l7 y0 y1 y2 y3 y4 y5;go_upto_region 13 with(at_builtin;go_must (refine zK _ rfl (.tmp 49) (.tmp 51) 22 rfl f1 3 ij (O 0) 1 8 Try.underlying22 f3 d2 d1 c9 rfl Zd (F) 0 [] rfl b4.out.2.2.1 (.slice ya o.args.length yc) o.args.length (o.args.map zN) rfl b4.out.2.1 (by unfold maxLen;omega) Zo Zo ?_;intro v9 w9 d r t;obtain⟨a1,a0,rfl⟩:=zG d;have b1:=zL r b4.out.1 (by simp[Value.ownBlock]);have k0:=zA (i:=5) b1 rfl;have j5:N w9 q 5:=zE b1;have h5:=lt_of_block b1;have c8:=Ja (Jb d (Jb r (Jb t b1)));clear d r t b1))
     have a6:OfMid w f1 r2 g3 tb (.slice (some ⟨bb,bo,none⟩) blocks.length fc) (.slice ga k gc) {bt1 with ops:=ol,ov:=.slice oa j oc } l [zP (.slice a1 o.args.length a0) o.args] (w9.setCell ⟨q,5,none⟩ (.slice a1 o.args.length a0)):=by
      have d:=c8.out.1;have t:=c8.out.2.2.1;rw[Ng,Op] at d;rw[Ng] at t;refine HJ.out.1.arg2 b4.out.2.2.2 c8.out.2.1 d (fun x e=>?_) ⟨by rw[h0.out.2.2];exact Je _,lt_of_block b4.out.1⟩ _;rcases t with e2|e2
      ·have e3:=e2.symm.trans e;simp[Value.ownBlock] at e3
      ·have e3:=e2.symm.trans e;simp at e3;omega
     have a5:=zD (i:=5) c8.out.2.2.2 (.slice a1 o.args.length a0);generalize i2:w9.setCell ⟨q,5,none⟩ (.slice a1 o.args.length a0)=W10 at *;have y0:=zA (i:=0) a5 rfl;have y1:=zA (i:=1) a5 rfl;have y2:=zA (i:=2) a5 rfl;have y3:=zA (i:=3) a5 rfl;have y4:=zA (i:=4) a5 rfl;have y5:=zA (i:=5) a5 rfl;have yl:=lt_of_block a5;have t1:=zA (i:=1) a6.hb rfl;have p4:=lt_of_block a6.hb
     have b6:ol.length=j:=by
      have h1:=congrArg List.length HJ.out.2;rw[Nr,Oc] at h1;omega
     have c3:W10.ownsRow f1 77 6 (.slice oa j oc) j (ol.flatMap zU):=by
      have h1:=a6.rows.own (yo (.slice oa j oc) ol) (.tail _ (.tail _ (.head _)));unfold yo at h1;simp only at h1;rw[b6] at h1;exact h1
     have l9:=a6.sz;have y:=Ja (Jb a6 (Jb c3 b6));obtain⟨ik,g6,e6,e5,e4⟩:=info_parts Try.info_irop;clear a6 c3 b6 a5 i2 z5 p1 k0 j5 h5;have b8:yM (W10.alloc (A (D o a1 a0) 77)) 6 (Q W10.heap.size 1 1) 1 (zU (o,.slice a1 o.args.length a0)):=yM.cells (zI rfl) rfl (by simp[zU,Value.oneCell']);have l8:=Ja b8;clear b8;go_wp2_with (at_builtin;go_must (refine zK _ rfl (.tmp 55) (.tmp 57) 44 rfl f1 77 ik (.agg #[O 0,O 0,O 0,O 0,U 0,F]) 6 64 Try.underlying44 g6 e6 e5 e4 rfl Zd (.slice oa j oc) j (ol.flatMap zU) rfl (y.out.2.1.alloc _) _ 1 (zU (o,.slice a1 o.args.length a0)) rfl l8.out (by unfold maxLen;omega) Zo Zt ?_;intro v11 w11 m h a4;obtain⟨e1,d8,rfl⟩:=zG m;have a2:=zL h (zB y.out.1.hb) (zC y.out.2.1 y.out.1.hb (.inr Zd));have u9:=zA (i:=1) a2 rfl;have q2:N w11 tb 1:=zE a2;have p5:=lt_of_block a2;have a3:=Ja (Jb m (Jb h a4));clear m h a4 a2))
     go_roundw
     case rel=>
      refine⟨j+1,ol++ [(o,.slice a1 o.args.length a0)],e1,d8,f0,by go_num,Ja ⟨?_,?_⟩⟩
      ·exact y.out.1.op ((Below.refl _ _).alloc (Je _) _) a3.out.2.1 (by show w11.ownsRow f1 77 6 _ (ol.length+1) _;rw[y.out.2.2];exact a3.out.1) (fun x e=>a3.out.2.2.elim (fun e2=> .inl (e2.symm.trans e)) (fun e2=> .inr (by have e3:=e2.symm.trans e;simp at e3;omega)))
      ·rw[Js,HJ.out.2,Nh,h0.out.1];rfl
     case measure=>simp[intOf];omega
    ·obtain rfl:j=b.ops.length:=by omega
     have l2:¬(b.ops.length:Int)<(b.ops.length:Int):=Zo;have n2:ol.map (·.1)=b.ops:=by rw[HJ.out.2,Nl]
     obtain⟨bt2,i1⟩:∃bt2:BT,{bt1 with ops:=ol,ov:=.slice oa b.ops.length oc }=bt2:=⟨_,rfl⟩
     have d3:=HJ.out.1;rw[i1] at d3;have j2:bt2.tos=[]/\bt2.tv=F/\bt2.params=b.params/\bt2.ops=ol:=by rw[<-i1,<-p0.out];exact⟨rfl,rfl,rfl,rfl⟩
     have w2:=zA (i:=2) d3.hb rfl;have w3:=zA (i:=3) d3.hb rfl;have w4:=zA (i:=4) d3.hb rfl;have wf:∀i,N wr tb i:=fun i=>zE d3.hb
     have wl:=lt_of_block d3.hb;have H2:=Ja (Jb d3 (Jb j2 n2));have r3:q2c=q2c:=rfl;clear hj HJ d3 i1 j2 n2 c2 a9 a7 b5 g5 f0 r3;go_upto_region 14 with fail
     go_cut [] (fun wx=>Hid (OfMid w f1 r2 g3 tb (.slice (some ⟨bb,bo,none⟩) blocks.length fc) (.slice ga k gc) {bt2 with kind:=b.term.kind,a:=b.term.a } l [] wx))
     case first=>
      refine zt 16 Zk Zk ?_;simp only[Qo,Uc,Qp,Ui]
      repeat (go_big_quiet_step (fail))
      refine wpQuiet_nil ?_;go_wp2;go_meet;refine Ja (OfMid.below ?_ (Below.refl _ _).drew);have k1:=H2.out.1.set (i:=2) (u:=O b.term.kind) (bt':= {bt2 with kind:=b.term.kind }) rfl rfl;have k2:=k1.set (i:=3) (u:=O b.term.a) (bt':= {bt2 with kind:=b.term.kind,a:=b.term.a }) rfl rfl;exact k2.set (i:=4) (u:=F) (bt':= {bt2 with kind:=b.term.kind,a:=b.term.a }) (by unfold zz;rw[H2.out.2.1.2.1];rfl) rfl
     case rest=>
     have l0:=hcut.out;obtain⟨bt3,i0⟩:∃bt3:BT,{bt2 with kind:=b.term.kind,a:=b.term.a }=bt3:=⟨_,rfl⟩
     rw[i0] at l0;have f4:bt3.tos=[]/\bt3.tv=F/\bt3.params=b.params/\bt3.ops=ol/\bt3.kind=b.term.kind/\bt3.a=b.term.a:=by rw[<-i0];exact⟨H2.out.2.1.1,H2.out.2.1.2.1,H2.out.2.1.2.2.1,H2.out.2.1.2.2.2,rfl,rfl⟩
     have t7:=Ja (show OfMid w f1 r2 g3 tb (.slice (some ⟨bb,bo,none⟩) blocks.length fc) (.slice ga k gc) {bt3 with tos:=[],tv:=F } l [] wc/\([]:List (IEdge×Value)).map (·.1)=b.term.to.take 0 from⟨by
      have e:({bt3 with tos:=[],tv:=F }:BT)=bt3:=by
       obtain⟨x1,x2,x3,x4,x5,x6,x7,x8⟩:=bt3;obtain⟨h1,h2,_⟩:=f4;simp only at h1 h2;rw[h1,h2]
      rw[e]
      exact l0,rfl⟩)
     have j4:=Ja f4;clear l0 i0 f4 hcut w2 w3 w4 wf wl e0 el q0 q1 q2c i3 q4 f6;go_wp2
     go_loopw [9] (fun jv wx=>∃(j:Nat) (tl:List (IEdge×Value)) (ta:Option Addr) (tc:Nat),j<=b.term.to.length/\jv=O j/\Hid (OfMid w f1 r2 g3 tb (.slice (some ⟨bb,bo,none⟩) blocks.length fc) (.slice ga k gc) {bt3 with tos:=tl,tv:=.slice ta j tc } l [] wx/\tl.map (·.1)=b.term.to.take j)) (fun jv _=>b.term.to.length-(intOf jv).toNat)
     case atStart=>exact⟨0,[],none,0,Jt _,rfl,t7⟩
     case round=>
      obtain⟨j,c7,ta,tc,hj,rfl,HJ⟩:=hrel;have e0:=zA (i:=0) HJ.out.1.h1 rfl;have el:=lt_of_block HJ.out.1.h1;obtain⟨b5,o8⟩:=j3.out _ HJ.out.1.bel;obtain⟨b2,o2,h8,_,q2c,i3,g5,q3,ov2,p3,q0,q1,q4,c2,a9,a7⟩:=b5.get HB.out.1;cases h8;obtain⟨sa2,sc2,rfl,u2,u1⟩:=a7.form;have f6:bb<wr.heap.size:=Zo
      by_cases f0:j<b.term.to.length
      ·have l2:(j:Int)<(b.term.to.length:Int):=Zo;obtain⟨o,ho⟩:∃o,b.term.to[j]? =some o:=⟨_,Jd f0⟩
       obtain⟨ob,oo,k9,o3,y0,f7,yv,y1,e7⟩:=a7.get ho;obtain⟨ya,yc,rfl,q6,q5⟩:=e7.form;subst k9;have o1:ob<wr.heap.size:=Zo;have m1:=(HB.out.2.2.2 o (Ji ho))
       obtain⟨q,hq⟩:∃q,wr.heap.size=q:=⟨_,rfl⟩
       have c5:L wr (wr.alloc (A #[O o.block,.slice ya o.args.length yc] 75)):=(Below.refl _ _).alloc (Je _) _;have b0:=zI (W:=wr) (o:=A #[O o.block,.slice ya o.args.length yc] 75) hq;have b9:=zY.src (e7.below zO (c5.mono o8));have h0:=Ja (Jb ho (Jb f7 hq));clear c2 a9 a7 b5 q0 q1 q2c i3 g5 ho f7 e7;go_upto_region 20 with fail;generalize l7:wr.alloc (A #[O o.block,.slice ya o.args.length yc] 75)=W6 at *;have z1:=zA (i:=1) b0 rfl;have p2:N W6 q 1:=zE b0;have zl:=lt_of_block b0;have c4:W6.ownsRow f1 3 1 (F) 0 []:=Jv _ _ _ _;have o5:f1<=W6.heap.size:=Jn HJ.out.1.sz c5.size;have b4:=Ja (Jb b0 (Jb b9 (Jb c4 c5)));obtain⟨ij,f3,d2,d1,c9⟩:=info_parts Try.info_int;clear b0 b9 c4 c5 l7 y0 y1;go_upto_region 21 with(at_builtin;go_must (refine zK _ rfl (.tmp 98) (.tmp 100) 22 rfl f1 3 ij (O 0) 1 8 Try.underlying22 f3 d2 d1 c9 rfl Zd (F) 0 [] rfl b4.out.2.2.1 (.slice ya o.args.length yc) o.args.length (o.args.map zN) rfl b4.out.2.1 (by unfold maxLen;omega) Zo Zo ?_;intro v9 w9 d r t;obtain⟨a1,a0,rfl⟩:=zG d;have b1:=zL r b4.out.1 (by simp[Value.ownBlock]);have k0:=zA (i:=1) b1 rfl;have j5:N w9 q 1:=zE b1;have h5:=lt_of_block b1;have c8:=Ja (Jb d (Jb r (Jb t b1)));clear d r t b1))
       have a6:OfMid w f1 r2 g3 tb (.slice (some ⟨bb,bo,none⟩) blocks.length fc) (.slice ga k gc) {bt3 with tos:=c7,tv:=.slice ta j tc } l [zP (.slice a1 o.args.length a0) o.args] (w9.setCell ⟨q,1,none⟩ (.slice a1 o.args.length a0)):=by
        have d:=c8.out.1;have t:=c8.out.2.2.1;rw[Ng,Op] at d;rw[Ng] at t;refine HJ.out.1.arg2 b4.out.2.2.2 c8.out.2.1 d (fun x e=>?_) ⟨by rw[h0.out.2.2];exact Je _,lt_of_block b4.out.1⟩ _;rcases t with e2|e2
        ·have e3:=e2.symm.trans e;simp[Value.ownBlock] at e3
        ·have e3:=e2.symm.trans e;simp at e3;omega
       have a5:=zD (i:=1) c8.out.2.2.2 (.slice a1 o.args.length a0);generalize i2:w9.setCell ⟨q,1,none⟩ (.slice a1 o.args.length a0)=W10 at *;have y0:=zA (i:=0) a5 rfl;have y1:=zA (i:=1) a5 rfl;have yl:=lt_of_block a5;have t4:=zA (i:=4) a6.hb rfl;have p4:=lt_of_block a6.hb
       have b6:c7.length=j:=by
        have h1:=congrArg List.length HJ.out.2;rw[Nr,Oc] at h1;omega
       have c3:W10.ownsRow f1 75 2 (.slice ta j tc) j (c7.flatMap za):=by
        have h1:=a6.rows.own (xg (.slice ta j tc) c7) (.tail _ (.tail _ (.tail _ (.head _))));unfold xg at h1;simp only at h1;rw[b6] at h1;exact h1
       have l9:=a6.sz;have y:=Ja (Jb a6 (Jb c3 b6));obtain⟨ik,g6,e6,e5,e4⟩:=info_parts Try.info_edge;clear a6 c3 b6 a5 i2 z1 p2 k0 j5 h5;have b8:yM (W10.alloc (A #[O o.block,.slice a1 o.args.length a0] 75)) 2 (Q W10.heap.size 1 1) 1 (za (o,.slice a1 o.args.length a0)):=yM.cells (zI rfl) rfl (by simp[za,Value.oneCell']);have l8:=Ja b8;clear b8;go_wp2_with (at_builtin;go_must (refine zK _ rfl (.tmp 105) (.tmp 107) 45 rfl f1 75 ik (.agg #[O 0,F]) 2 32 Try.underlying45 g6 e6 e5 e4 rfl Zd (.slice ta j tc) j (c7.flatMap za) rfl (y.out.2.1.alloc _) _ 1 (za (o,.slice a1 o.args.length a0)) rfl l8.out (by unfold maxLen;omega) Zo Zt ?_;intro v11 w11 m h a4;obtain⟨e1,d8,rfl⟩:=zG m;have a2:=zL h (zB y.out.1.hb) (zC y.out.2.1 y.out.1.hb (.inr Zd));have u8:=zA (i:=4) a2 rfl;have q2:N w11 tb 4:=zE a2;have p5:=lt_of_block a2;have a3:=Ja (Jb m (Jb h a4));clear m h a4 a2))
       go_roundw
       case rel=>
        refine⟨j+1,c7++ [(o,.slice a1 o.args.length a0)],e1,d8,f0,by go_num,Ja ⟨?_,?_⟩⟩
        ·exact y.out.1.edge ((Below.refl _ _).alloc (Je _) _) a3.out.2.1 (by show w11.ownsRow f1 75 2 _ (c7.length+1) _;rw[y.out.2.2];exact a3.out.1) (fun x e=>a3.out.2.2.elim (fun e2=> .inl (e2.symm.trans e)) (fun e2=> .inr (by have e3:=e2.symm.trans e;simp at e3;omega)))
        ·rw[Js,HJ.out.2,Nh,h0.out.1];rfl
       case measure=>simp[intOf];omega
      ·obtain rfl:j=b.term.to.length:=by omega
       have l2:¬(b.term.to.length:Int)<(b.term.to.length:Int):=Zo;have m6:c7.map (·.1)=b.term.to:=by rw[HJ.out.2,Nl]
       obtain⟨bt4,h9⟩:∃bt4:BT,{bt3 with tos:=c7,tv:=.slice ta b.term.to.length tc }=bt4:=⟨_,rfl⟩
       have b3:=HJ.out.1;rw[h9] at b3
       have l4:bt4.blk=b:=by
        rw[<-h9];unfold BT.blk;simp only;rw[j4.out.2.2.1,j4.out.2.2.2.1,j4.out.2.2.2.2.1,j4.out.2.2.2.2.2,H2.out.2.2,m6]
       have r0:=b3.rows.own (zP bt4.pv bt4.params) (.head _);have r1:=b3.rows.own (yo bt4.ov bt4.ops) (.tail _ (.head _));have m3:=b3.rows.own (xg bt4.tv bt4.tos) (.tail _ (.tail _ (.head _)));obtain⟨g2,xc0,m5⟩:=zG r0;obtain⟨f9,xc1,f2⟩:=zG r1;obtain⟨f8,xc2,e8⟩:=zG m3;have k6:bt4.pv=.slice g2 bt4.params.length xc0:=m5;have k5:bt4.ov=.slice f9 bt4.ops.length xc1:=f2;have k4:bt4.tv=.slice f8 bt4.tos.length xc2:=e8;have l3:zz bt4=[.slice g2 bt4.params.length xc0,.slice f9 bt4.ops.length xc1,O bt4.kind,O bt4.a,.slice f8 bt4.tos.length xc2]:=by unfold zz;rw[k6,k5,k4]
       have d5:=b3.hb;rw[l3] at d5;have s0:=zA (i:=0) d5 rfl;have s1:=zA (i:=1) d5 rfl;have s2:=zA (i:=2) d5 rfl;have s3:=zA (i:=3) d5 rfl;have s4:=zA (i:=4) d5 rfl;have sl:=lt_of_block d5;have u5:=zA (i:=0) b3.h3 rfl;have z2:=lt_of_block b3.h3
       have l1:l.length=k:=by
        have h1:=congrArg List.length HK.out.2;rw[Nr,Oc] at h1;omega
       have j1:wr.ownsRow f1 49 5 (.slice ga k gc) k (l.flatMap zz):=by
        have h1:=b3.rows.own (zd (.slice ga k gc) l) (Qf [] (Qf bt4.rows (.head _)));unfold zd at h1;simp only at h1;rw[l1] at h1;exact h1
       have u4:=b3.sz;have d6:=Ja (Jb b3 (Jb j1 (Jb l1 (Jb l4 l3))));obtain⟨ik,g6,e6,e5,e4⟩:=info_parts Try.info_irblock;have j0:yM (wr.alloc (A #[.slice g2 bt4.params.length xc0,.slice f9 bt4.ops.length xc1,O bt4.kind,O bt4.a,.slice f8 bt4.tos.length xc2] 49)) 5 (Q wr.heap.size 1 1) 1 [.slice g2 bt4.params.length xc0,.slice f9 bt4.ops.length xc1,O bt4.kind,O bt4.a,.slice f8 bt4.tos.length xc2]:=yM.cells (zI rfl) rfl (by simp[Value.oneCell']);have t6:=Ja j0;clear b3 j1 l1 l4 l3 d5 r0 r1 m3 m5 f2 e8 k6 k5 k4 h9 m6 hj HJ c2 a9 a7 b5 g5 f0 j0;go_wp2_with (at_builtin;go_must (refine zK _ rfl (.tmp 112) (.tmp 114) 35 rfl f1 49 ik (.agg #[F,F,O 0,O 0,F]) 5 88 Try.underlying35 g6 e6 e5 e4 rfl Zd (.slice ga k gc) k (l.flatMap zz) rfl (d6.out.2.1.alloc _) _ 1 [.slice g2 bt4.params.length xc0,.slice f9 bt4.ops.length xc1,O bt4.kind,O bt4.a,.slice f8 bt4.tos.length xc2] rfl t6.out (by unfold maxLen;omega) Zo Zt ?_;intro v11 w11 m h a4;obtain⟨e1,d8,rfl⟩:=zG m;have d7:=zL h (zB d6.out.1.h3) (zC d6.out.2.1 d6.out.1.h3 (.inr Zd));have z0:=zA (i:=0) d7 rfl;have y6:N w11 g3 0:=zE d7;have x9:=lt_of_block d7;have a3:=Ja (Jb m (Jb h a4));clear m h a4 d7))
       go_roundw
       case rel=>
        have s5:=d6.out.1.close ((Below.refl _ _).alloc (Je _) _) a3.out.2.1 (by rw[d6.out.2.2.1,d6.out.2.2.2.2];exact a3.out.1) (fun x e=>a3.out.2.2.elim (fun e2=> .inl (e2.symm.trans e)) (fun e2=> .inr (by have e3:=e2.symm.trans e;simp at e3;omega)));refine⟨k+1,l++ [bt4],e1,d8,n3,by go_num,Ja ⟨s5,?_⟩⟩;rw[Js,HK.out.2,Nh,HB.out.1]
        show _++ [bt4.blk]=_
        rw[d6.out.2.2.2.1];rfl
       case measure=>simp[intOf];omega
  ·obtain rfl:k=blocks.length:=by omega
   have o4:¬(blocks.length:Int)<(blocks.length:Int):=Zo;have d0:=zA (i:=0) HK.out.1.h3 rfl;have w5:=lt_of_block HK.out.1.h3;have e0:=zA (i:=0) HK.out.1.h2 rfl;have u3:=lt_of_block HK.out.1.h2;have ef:N wr r2 0:=zE HK.out.1.h2;go_wp2;have m4:=zD (i:=0) HK.out.1.h2 (.slice ga blocks.length gc);have x0:=zA (i:=0) m4 rfl;have v0:=lt_of_block m4;have n4:l.map BT.blk=blocks:=by rw[HK.out.2,Nl]
   have h7:=HK.out.1.ges
   have n1:Rows (wr.setCell ⟨r2,0,none⟩ (.slice ga blocks.length gc)) f1 (zd (.slice ga blocks.length gc) l::l.flatMap BT.rows):=by
    refine HK.out.1.rows.keep fun q hq=>Below.heap_setCell _ _ _ _ (fun e=>?_)
    obtain⟨x,hx,q7⟩:=Nj.1 hq;have e':q=r2:=e;subst e';exact zC (HK.out.1.rows.own x hx) HK.out.1.h2 (.inr (lG x hx)) q7
   have g7:Below f1 w (wr.setCell ⟨r2,0,none⟩ (.slice ga blocks.length gc)):=HK.out.1.bel.setCell (by show f1<=r2;omega) _;have HE:=Ja (Jb n4 (Jb n1 g7));have d4:=u0.out;clear n4 n1 g7;refine bodyPost_ret (v:=.agg #[.slice ga blocks.length gc]) ?_ rfl ?_
   ·rw[zM rfl];go_simp
   ·refine⟨⟨l,.slice ga blocks.length gc⟩,ga,blocks.length,gc,rfl,rfl,HE.out.1,?_,?_⟩
    ·rw[d4];exact HE.out.2.1
    ·rw[d4];exact HE.out.2.2
theorem spoil_9 {w:World}{B g i:Nat}{v:Value}{bt:BT}{l:List BT}{rs:List Row}(h:SpSt w B g i v bt l rs){n:Nat}(hn:n<65536)(u:SzB bt):
 G 45 #[.pointer (some ⟨g,i*5,none⟩),O 9,O n] w (uE w B g i v bt l rs 9 n):=by
 have c:w.ownsRow B 77 6 bt.ov bt.ops.length (bt.ops.flatMap zU):=h.rows.own _ (.tail _ (Jz _ (.tail _ (.head _))));obtain⟨xa,oc,m⟩:=zG c;have d:=wb zX (h.rows.own _ (.head _)) h.gb h.at';have o:=fun q (hq:q<5)=>(zq Zd zX (h.rows.own _ (.head _)) h.gb h.at' q hq).2
 have c1:T w g (i*5+1) (.slice xa bt.ops.length oc):=by rw[<-m];exact d 1 _ rfl
 have gl:=((h.rows.own _ (.head _)).lt g h.gb).2;have x:=u.ops;have cj:T w g (i*5+2) _:=d 2 _ rfl;have fj:N w g (i*5+2):=o 2 Zd;have k:=Ja h;clear h c m d o u
 by_cases y:0<bt.ops.length
 ·have t:(0:Int)<(bt.ops.length:Int):=Zo;go_enter Try.func45,Try.ntmps45;go_wp2
  first|go_end0|refine bodyPost_ret (results_none rfl _ _ _) rfl ?_
  refine⟨rfl,{bt with kind:=(n:Int)%7 },k.out.setB (j:=2) Zd rfl rfl,rfl,(xJ (a:=⟨g,i*5+2,none⟩) (r:=zd v l) k.out.gb).one (.head _)⟩
 ·have t:¬(0:Int)<(bt.ops.length:Int):=Zo;go_enter Try.func45,Try.ntmps45;go_wp2
  first|go_end0|refine bodyPost_ret (results_none rfl _ _ _) rfl ?_
  refine⟨rfl,{bt with kind:=(n:Int)%7 },k.out.setB (j:=2) Zd rfl rfl,rfl,(xJ (a:=⟨g,i*5+2,none⟩) (r:=zd v l) k.out.gb).one (.head _)⟩
theorem spoil_10 {w:World}{B g i:Nat}{v:Value}{bt:BT}{l:List BT}{rs:List Row}(h:SpSt w B g i v bt l rs){n:Nat}(hn:n<65536)(u:SzB bt):
 G 45 #[.pointer (some ⟨g,i*5,none⟩),O 10,O n] w (uE w B g i v bt l rs 10 n):=by
 have c:w.ownsRow B 77 6 bt.ov bt.ops.length (bt.ops.flatMap zU):=h.rows.own _ (.tail _ (Jz _ (.tail _ (.head _))));obtain⟨xa,oc,m⟩:=zG c;have d:=wb zX (h.rows.own _ (.head _)) h.gb h.at';have o:=fun q (hq:q<5)=>(zq Zd zX (h.rows.own _ (.head _)) h.gb h.at' q hq).2
 have c1:T w g (i*5+1) (.slice xa bt.ops.length oc):=by rw[<-m];exact d 1 _ rfl
 have gl:=((h.rows.own _ (.head _)).lt g h.gb).2;have x:=u.ops;have cj:T w g (i*5+3) _:=d 3 _ rfl;have fj:N w g (i*5+3):=o 3 Zd;have k:=Ja h;clear h c m d o u
 by_cases y:0<bt.ops.length
 ·have t:(0:Int)<(bt.ops.length:Int):=Zo;go_enter Try.func45,Try.ntmps45;go_wp2
  first|go_end0|refine bodyPost_ret (results_none rfl _ _ _) rfl ?_
  refine⟨rfl,{bt with a:=(n:Int)%40-2 },k.out.setB (j:=3) Zd rfl rfl,rfl,(xJ (a:=⟨g,i*5+3,none⟩) (r:=zd v l) k.out.gb).one (.head _)⟩
 ·have t:¬(0:Int)<(bt.ops.length:Int):=Zo;go_enter Try.func45,Try.ntmps45;go_wp2
  first|go_end0|refine bodyPost_ret (results_none rfl _ _ _) rfl ?_
  refine⟨rfl,{bt with a:=(n:Int)%40-2 },k.out.setB (j:=3) Zd rfl rfl,rfl,(xJ (a:=⟨g,i*5+3,none⟩) (r:=zd v l) k.out.gb).one (.head _)⟩
theorem spoil_19 {w:World}{B g i:Nat}{v:Value}{bt:BT}{l:List BT}{rs:List Row}(h:SpSt w B g i v bt l rs){n:Nat}(x:n<65536)(m:SzB bt):
 G 45 #[.pointer (some ⟨g,i*5,none⟩),O 19,O n] w (uE w B g i v bt l rs 19 n):=by
 have c:w.ownsRow B 77 6 bt.ov bt.ops.length (bt.ops.flatMap zU):=h.rows.own _ (.tail _ (Jz _ (.tail _ (.head _))));obtain⟨xa,oc,d⟩:=zG c;have j:=wb zX (h.rows.own _ (.head _)) h.gb h.at';have o:=fun q (hq:q<5)=>(zq Zd zX (h.rows.own _ (.head _)) h.gb h.at' q hq).2
 have c1:T w g (i*5+1) (.slice xa bt.ops.length oc):=by rw[<-d];exact j 1 _ rfl
 have gl:=((h.rows.own _ (.head _)).lt g h.gb).2;have t:=m.ops;have r:=Ja h;clear h c d j o m
 by_cases u:0<bt.ops.length
 ·have k:(0:Int)<(bt.ops.length:Int):=Zo;go_enter Try.func45,Try.ntmps45;go_wp2
  first|go_end0|refine bodyPost_ret (results_none rfl _ _ _) rfl ?_
  exact wP r.out rfl
 ·have k:¬(0:Int)<(bt.ops.length:Int):=Zo;go_enter Try.func45,Try.ntmps45;go_wp2
  first|go_end0|refine bodyPost_ret (results_none rfl _ _ _) rfl ?_
  exact wP r.out rfl
theorem mB {w:World}{B g i:Nat}{v:Value}{bt:BT}{l:List BT}{rs:List Row}(h:SpSt w B g i v bt l rs){n:Nat}(hn:n<65536)(o:SzB bt){what:Nat}(u:what<=7)(d:bt.ops.length=0):
 G 45 #[.pointer (some ⟨g,i*5,none⟩),O what,O n] w (uE w B g i v bt l rs what n):=by
 have c:w.ownsRow B 77 6 bt.ov bt.ops.length (bt.ops.flatMap zU):=h.rows.own _ (.tail _ (Jz _ (.tail _ (.head _))));obtain⟨xa,oc,j⟩:=zG c;have k:=wb zX (h.rows.own _ (.head _)) h.gb h.at';have r:=fun q (hq:q<5)=>(zq Zd zX (h.rows.own _ (.head _)) h.gb h.at' q hq).2
 have c1:T w g (i*5+1) (.slice xa bt.ops.length oc):=by rw[<-j];exact k 1 _ rfl
 have gl:=((h.rows.own _ (.head _)).lt g h.gb).2;have m:=o.ops;have t:=Ja (Jb h d);rw[d] at c1;have e8:((what:Int)==8)=false:=Ze;have e9:((what:Int)==9)=false:=Ze;have a0:((what:Int)==10)=false:=Ze;have y:((what:Int)==11)=false:=Ze;have x:((what:Int)==12)=false:=Ze;clear h c j k r o d m;go_enter Try.func45,Try.ntmps45;go_wp2
 first|go_end0|refine bodyPost_ret (results_none rfl _ _ _) rfl ?_
 refine wP t.out.1 ?_;unfold xh BT.blk;simp only[Nr];rw[if_pos u,if_pos t.out.2]
theorem spoil_7 {w:World}{B g i:Nat}{v:Value}{bt:BT}{l:List BT}{rs:List Row}(h:SpSt w B g i v bt l rs){n:Nat}(hn:n<65536)(hz:SzB bt)(t:0<bt.ops.length):
 G 45 #[.pointer (some ⟨g,i*5,none⟩),O 7,O n] w (uE w B g i v bt l rs 7 n):=by
 have d:w.ownsRow B 77 6 bt.ov bt.ops.length (bt.ops.flatMap zU):=h.rows.own _ (.tail _ (Jz _ (.tail _ (.head _))));obtain⟨xa,oc,j⟩:=zG d;have c:=d;rw[j] at c;have a3:=(zm c).1;obtain⟨ob,oc2,a1,a5,a4⟩:=c.form t;cases a1;have y:bt.ov.ownBlock=some ob:=by rw[j];rfl
 obtain⟨k,m⟩:∃k,n%bt.ops.length=k:=⟨_,rfl⟩
 have hk:k<bt.ops.length:=by rw[<-m];exact Qj _ t
 have a9:(n:Int)%(bt.ops.length:Int)=(k:Int):=by rw[<-m];exact(Ou _ _).symm
 obtain⟨⟨o,av⟩,u⟩:∃x,bt.ops[k]? =some x:=⟨_,Jd hk⟩
 have a0:=wb zX (h.rows.own _ (.head _)) h.gb h.at';have c1:T w g (i*5+1) (Q ob bt.ops.length oc):=by rw[<-j];exact a0 1 _ rfl
 have gl:=((h.rows.own _ (.head _)).lt g h.gb).2;have a2:=wb y7 d y u;have a6:=hz.ops;have f1:N w g (i*5+1):=(zq Zd zX (h.rows.own _ (.head _)) h.gb h.at' 1 Zd).2;have a7:(k:Int)<=(oc:Int):=Zo;have q:=Ja (Jb h (Jb j m));clear h d c j y u m a0 a2 hz a3;go_enter Try.func45,Try.ntmps45;go_wp2
 first|go_end0|refine bodyPost_ret (results_none rfl _ _ _) rfl ?_
 refine⟨rfl,_,q.out.1.cutO q.out.2.1 rfl (Qd hk),?_,(xJ (a:=⟨g,i*5+1,none⟩) (r:=zd v l) q.out.1.gb).one (.head _)⟩;unfold xh BT.blk;simp only[Nr];rw[if_pos Zo,if_neg Zo,if_neg Zo,if_pos (by trivial),q.out.2.2,List.map_take]
theorem spoil_8 {w:World}{B g i:Nat}{v:Value}{bt:BT}{l:List BT}{rs:List Row}(h:SpSt w B g i v bt l rs){n:Nat}(hn:n<65536)(hz:SzB bt):
 G 45 #[.pointer (some ⟨g,i*5,none⟩),O 8,O n] w (uE w B g i v bt l rs 8 n):=by
 have a3:w.ownsRow B 77 6 bt.ov bt.ops.length (bt.ops.flatMap zU):=h.rows.own _ (.tail _ (Jz _ (.tail _ (.head _))));obtain⟨xa,oc,a6⟩:=zG a3;have a5:=wb zX (h.rows.own _ (.head _)) h.gb h.at';have b0:=fun q (hq:q<5)=>(zq Zd zX (h.rows.own _ (.head _)) h.gb h.at' q hq).2
 have c1:T w g (i*5+1) (.slice xa bt.ops.length oc):=by rw[<-a6];exact a5 1 _ rfl
 have gl:=((h.rows.own _ (.head _)).lt g h.gb).2;have b2:=hz.ops;have a4:w.ownsRow B 3 1 bt.pv bt.params.length (bt.params.map zN):=h.rows.own (zP bt.pv bt.params) (.tail _ (Jz _ (.head _)));obtain⟨pa,pc,t⟩:=zG a4;have c0:T w g (i*5) (.slice pa bt.params.length pc):=by rw[<-t];exact a5 0 _ rfl
 have f0:N w g (i*5):=b0 0 Zd;have b3:=hz.par;have a7:some g≠(Value.slice pa bt.params.length pc).ownBlock:=by rw[<-t];exact fun e=>h.farP e.symm rfl
 have hB:B<=w.heap.size:=by have:=(h.rows.own _ (.head _)).lt g h.gb;omega
 obtain⟨ii,a9,a2,a1,a0⟩:=info_parts Try.info_int;have k:=Ja (Jb h (Jb (show w.ownsRow B 3 1 (.slice pa bt.params.length pc) bt.params.length (bt.params.map zN) by rw[<-t];exact a4) (Jb t a7)));clear h a3 a6 a5 b0 hz a4 t a7
 by_cases b4:0<bt.ops.length
 ·have b1:(0:Int)<(bt.ops.length:Int):=Zo;go_enter Try.func45,Try.ntmps45;go_wp2_with (at_builtin;go_must (refine zK _ rfl (.tmp 163) (.tmp 166) 22 rfl B 3 ii (O 0) 1 8 Try.underlying22 a9 a2 a1 a0 rfl Zd (.slice pa bt.params.length pc) bt.params.length (bt.params.map zN) rfl (k.out.2.1.alloc _) (Q w.heap.size 1 1) 1 [O ((n:Int)%40)] rfl (yM.one (zI rfl) rfl) (by unfold maxLen;omega) Zo Zt ?_;intro v9 w9 d c o;obtain⟨ra,rc,rfl⟩:=zG d;have d0:T w9 g (i*5) (.slice pa bt.params.length pc):=(c.cell_far _ Zt k.out.2.2.2).trans ((Ok _ _ _ gl).trans c0);have d1:N w9 g (i*5):=(c.frozen_far _ Zt k.out.2.2.2).trans ((Below.frozen ((Below.refl w.heap.size w).alloc (Je _) _) (p:=⟨g,i*5,none⟩) gl).trans f0);have HG:=Ja (Jb d (Jb c o));clear d c o))
  first|go_end0|refine bodyPost_ret (results_none rfl _ _ _) rfl ?_
  have u:(Value.slice pa bt.params.length pc)=bt.pv:=k.out.2.2.1.symm;have y:=(Below.refl w.heap.size w).alloc (Je _) (A #[O ((n:Int)%40)] 3);have m:=HG.out.2.1;rw[u] at m;refine⟨rfl,{bt with params:=bt.params++ [(n:Int)%40],pv:=.slice ra (bt.params.length+1) rc },k.out.1.growB (j:=0) (r:=zP bt.pv bt.params) (r':=zP (.slice ra (bt.params.length+1) rc) (bt.params++ [(n:Int)%40])) (Uq _) y m ?_ (fun x e=>?_) (Uq _) Zd rfl,rfl,?_⟩
  ·show w9.ownsRow B 3 1 _ (bt.params++ [(n:Int)%40]).length ((bt.params++ [(n:Int)%40]).map zN)
   rw[Jk,Ju,Js];exact HG.out.1
  ·rcases HG.out.2.2 with e2|e2
   ·left;rw[<-e,<-u];exact e2.symm
   ·right;have e3:=e2.symm.trans e;simp at e3;omega
  ·exact((Chg.below y).trans ((uY (r:=zP bt.pv bt.params) m).one (.tail _ (.head _)))).trans ((xJ (a:=⟨g,i*5,none⟩) (r:=zd v l) k.out.1.gb).one (.head _))
 ·have b1:¬(0:Int)<(bt.ops.length:Int):=Zo;go_enter Try.func45,Try.ntmps45;go_wp2_with (at_builtin;go_must (refine zK _ rfl (.tmp 163) (.tmp 166) 22 rfl B 3 ii (O 0) 1 8 Try.underlying22 a9 a2 a1 a0 rfl Zd (.slice pa bt.params.length pc) bt.params.length (bt.params.map zN) rfl (k.out.2.1.alloc _) (Q w.heap.size 1 1) 1 [O ((n:Int)%40)] rfl (yM.one (zI rfl) rfl) (by unfold maxLen;omega) Zo Zt ?_;intro v9 w9 d c o;obtain⟨ra,rc,rfl⟩:=zG d;have d0:T w9 g (i*5) (.slice pa bt.params.length pc):=(c.cell_far _ Zt k.out.2.2.2).trans ((Ok _ _ _ gl).trans c0);have d1:N w9 g (i*5):=(c.frozen_far _ Zt k.out.2.2.2).trans ((Below.frozen ((Below.refl w.heap.size w).alloc (Je _) _) (p:=⟨g,i*5,none⟩) gl).trans f0);have HG:=Ja (Jb d (Jb c o));clear d c o))
  first|go_end0|refine bodyPost_ret (results_none rfl _ _ _) rfl ?_
  have u:(Value.slice pa bt.params.length pc)=bt.pv:=k.out.2.2.1.symm;have y:=(Below.refl w.heap.size w).alloc (Je _) (A #[O ((n:Int)%40)] 3);have m:=HG.out.2.1;rw[u] at m;refine⟨rfl,{bt with params:=bt.params++ [(n:Int)%40],pv:=.slice ra (bt.params.length+1) rc },k.out.1.growB (j:=0) (r:=zP bt.pv bt.params) (r':=zP (.slice ra (bt.params.length+1) rc) (bt.params++ [(n:Int)%40])) (Uq _) y m ?_ (fun x e=>?_) (Uq _) Zd rfl,rfl,?_⟩
  ·show w9.ownsRow B 3 1 _ (bt.params++ [(n:Int)%40]).length ((bt.params++ [(n:Int)%40]).map zN)
   rw[Jk,Ju,Js];exact HG.out.1
  ·rcases HG.out.2.2 with e2|e2
   ·left;rw[<-e,<-u];exact e2.symm
   ·right;have e3:=e2.symm.trans e;simp at e3;omega
  ·exact((Chg.below y).trans ((uY (r:=zP bt.pv bt.params) m).one (.tail _ (.head _)))).trans ((xJ (a:=⟨g,i*5,none⟩) (r:=zd v l) k.out.1.gb).one (.head _))
theorem spoil_11 {w:World}{B g i:Nat}{v:Value}{bt:BT}{l:List BT}{rs:List Row}(h:SpSt w B g i v bt l rs){n:Nat}(hn:n<65536)(hz:SzB bt):
 G 45 #[.pointer (some ⟨g,i*5,none⟩),O 11,O n] w (uE w B g i v bt l rs 11 n):=by
 have u:w.ownsRow B 77 6 bt.ov bt.ops.length (bt.ops.flatMap zU):=h.rows.own _ (.tail _ (Jz _ (.tail _ (.head _))));obtain⟨xa,oc,a4⟩:=zG u;have a3:=wb zX (h.rows.own _ (.head _)) h.gb h.at';have a6:=fun q (hq:q<5)=>(zq Zd zX (h.rows.own _ (.head _)) h.gb h.at' q hq).2
 have c1:T w g (i*5+1) (.slice xa bt.ops.length oc):=by rw[<-a4];exact a3 1 _ rfl
 have gl:=((h.rows.own _ (.head _)).lt g h.gb).2;have b1:=hz.ops;have c:w.ownsRow B 75 2 bt.tv bt.tos.length (bt.tos.flatMap za):=h.rows.own _ (.tail _ (Jz _ (.tail _ (.tail _ (.head _)))));obtain⟨ya,ec,t⟩:=zG c;have c4:T w g (i*5+4) (.slice ya bt.tos.length ec):=by rw[<-t];exact a3 4 _ rfl
 by_cases a2:0<bt.tos.length
 ·skip
  have m:=c;rw[t] at m;obtain⟨eb,b4,a9,b3,b2⟩:=m.form a2;cases a9;have a1:bt.tv.ownBlock=some eb:=by rw[t];rfl
  obtain⟨⟨o,av⟩,a0⟩:∃x,bt.tos[0]? =some x:=⟨_,Jd a2⟩
  have a5:=wb yd c a1 a0;have e0:T w eb 0 _:=a5 0 _ rfl;have ef:N w eb 0:=(zq Zd yd c a1 a0 0 Zd).2;have a7:(0:Int)<(bt.tos.length:Int):=Zo;have d:=Ja (Jb h (Jb a1 a0));clear h u a4 a3 a6 hz c m t a1 a0 a5
  by_cases b0:0<bt.ops.length
  ·have y:(0:Int)<(bt.ops.length:Int):=Zo;go_enter Try.func45,Try.ntmps45;go_wp2
   first|go_end0|refine bodyPost_ret (results_none rfl _ _ _) rfl ?_
   refine⟨rfl,_,d.out.1.setE (k:=0) d.out.2.1 d.out.2.2 (j:=0) (o':= {o with block:=(n:Int)%9-1 }) Zd ?_ rfl,?_,(xJ (a:=⟨eb,0,none⟩) (r:=xg bt.tv bt.tos) d.out.2.1).one (rS v l bt)⟩
   ·rfl
   ·unfold xh BT.blk;simp only;rw[if_neg Zo,if_neg Zo,if_neg Zo,if_neg Zo,if_pos (by trivial),xI (x:=o) (by rw[Jr,d.out.2.2];rfl),Ox]
  ·have y:¬(0:Int)<(bt.ops.length:Int):=Zo;go_enter Try.func45,Try.ntmps45;go_wp2
   first|go_end0|refine bodyPost_ret (results_none rfl _ _ _) rfl ?_
   refine⟨rfl,_,d.out.1.setE (k:=0) d.out.2.1 d.out.2.2 (j:=0) (o':= {o with block:=(n:Int)%9-1 }) Zd ?_ rfl,?_,(xJ (a:=⟨eb,0,none⟩) (r:=xg bt.tv bt.tos) d.out.2.1).one (rS v l bt)⟩
   ·rfl
   ·unfold xh BT.blk;simp only;rw[if_neg Zo,if_neg Zo,if_neg Zo,if_neg Zo,if_pos (by trivial),xI (x:=o) (by rw[Jr,d.out.2.2];rfl),Ox]
 ·have a7:¬(0:Int)<(bt.tos.length:Int):=Zo;have d:=Ja (Jb h a2);clear h u a4 a3 a6 hz c t a2
  by_cases b0:0<bt.ops.length
  ·have y:(0:Int)<(bt.ops.length:Int):=Zo;go_enter Try.func45,Try.ntmps45;go_wp2
   first|go_end0|refine bodyPost_ret (results_none rfl _ _ _) rfl ?_
   refine wP d.out.1 ?_;have e:bt.tos=[]:=Nz (by have:=d.out.2;omega);unfold xh BT.blk;rw[e];rfl
  ·have y:¬(0:Int)<(bt.ops.length:Int):=Zo;go_enter Try.func45,Try.ntmps45;go_wp2
   first|go_end0|refine bodyPost_ret (results_none rfl _ _ _) rfl ?_
   refine wP d.out.1 ?_;have e:bt.tos=[]:=Nz (by have:=d.out.2;omega);unfold xh BT.blk;rw[e];rfl
def uS (q2:Int):Nat:=(q2%65536).toNat
def yn (q0:Int):Nat:=(q0%20).toNat
def uk (p:IProg)(q1:Int):Nat:=if 0<p.funcs.length then(q1%65536).toNat%p.funcs.length else 0
def turnK (q1:Int)(n len:Nat):Nat:=((q1/65536%65536).toNat+n/64)%len
def lY (r:Nat):Nat:=if r=0 then 16392 else if r=1 then 24575 else if r=2 then 512 else 16896
def xV (m:Nat):ByteArray:=y9 (List.replicate m 0)
def hltB:IBlk:=⟨[],[],⟨5,0,[]⟩⟩
def lW (what:Nat)(q1:Int)(n:Nat)(g:List IBlk):List IBlk:=wD g (turnK q1 n g.length) (xh what n)
def rA (p:IProg)(what n f:Nat)(q1:Int):IProg:=
 if what=13 then {p with args:=p.args++ [(n:Int)%10-1]}
 else if what=14 then {p with entry:=(n:Int)%7-1 }
 else if what=15 then {p with handler:=(n:Int)%7-2 }
 else if what=16 then {p with data:=p.data++ [⟨(n:Int)%4-2,lY (n/4%4),n/16%4⟩]}
 else if what=17 then {p with banks:=p.banks++ [xV (4096-n%3/2)]}
 else if what=18 then {p with funcs:=wD p.funcs f fun g=>if g.length=0 then g else g++ [hltB]}
 else {p with funcs:=wD p.funcs f (lW what q1 n)}
def wR (p:IProg)(q0 q1 q2:Int):IProg:=rA p (yn q0) (uS q2) (uk p q1) q1
theorem yt (n:Int):bits .and .i64 n 65535=n%65536:=by
 have h:(BitVec.ofInt 64 65535).toNat=2^16-1:=by decide
 have c:(BitVec.ofInt 64 n &&& BitVec.ofInt 64 65535).toNat=(n%((2^64:Nat):Int)).toNat%2^16:=by
  rw[BitVec.toNat_and,BitVec.toNat_ofInt,h,Nat.and_two_pow_sub_one_eq_mod]
 show IntKind.i64.wrap ((BitVec.ofInt 64 n &&& BitVec.ofInt 64 65535).toNat:Nat)=n%65536
 rw[c,IntKind.wrap_i64];omega
theorem turnN_lt (q2:Int):uS q2<65536:=by unfold uS;omega
theorem turnW_lt (q0:Int):yn q0<20:=by unfold yn;omega
structure TuMid (w:World) (p1 o5:Nat) (q0 q1 q2:Int) (t:PT) (wx:World):Prop where
 hq:wx.heap[p1+1]? =some (.cells #[.int .i64 q0,.int .i64 q1,.int .i64 q2] 23 (0,0))
 hr:wx.heap[p1+1+1]? =some (.cells #[.slice none 0 0,.slice none 0 0,.int .i64 0,.int .i64 0,.slice none 0 0,.slice none 0 0] 29 (0,0))
 ho:wx.heap[o5]? =some (.cells (zW t).toArray 29 (0,0))
 bel:Below p1 w wx
 base:p1=w.heap.size
 rows:Rows wx (p1+1+1+1) t.rows
 ge:p1+1+1<o5
section
variable {w:World} {p1 o5:Nat} {q0 q1 q2:Int} {t:PT} {wx:World} (h:TuMid w p1 o5 q0 q1 q2 t wx)
include h
theorem TuMid.lt:p1+1+1<wx.heap.size:=lt_of_block h.hr
theorem TuMid.far {b:Nat}{cs:Array Value}(hb:Y wx b cs 29):b ∉ t.rows.filterMap Row.blk:=fun hk=>by
 obtain⟨x,d,c⟩:=Nj.1 hk;exact zC (h.rows.own x d) hb (.inr (vr x d)) c
theorem TuMid.farO:o5 ∉ t.rows.filterMap Row.blk:=h.far h.ho
theorem TuMid.below {w':World}(hb:L wx w'):TuMid w p1 o5 q0 q1 q2 t w':=
 ⟨zH hb h.hq (lt_of_block h.hq),zH hb h.hr (lt_of_block h.hr),zH hb h.ho (lt_of_block h.ho),h.bel.trans (hb.mono (by have:=h.lt;omega)),h.base,h.rows.below hb,h.ge⟩
theorem TuMid.set {i:Nat}{u:Value}{t':PT}(c:(zW t).set i u=zW t')(hr:t'.rows=t.rows):TuMid w p1 o5 q0 q1 q2 t' (wx.setCell ⟨o5,i,none⟩ u):=by
 have hg:=h.ge;refine⟨zR h.hq (by show p1+1≠o5;omega),zR h.hr (by show p1+1+1≠o5;omega),by rw[zD h.ho,<-c];simp,h.bel.setCell (by show p1<=o5;omega) _,h.base,?_,h.ge⟩;rw[hr];exact h.rows.keep fun k hk=>Below.heap_setCell _ _ _ _ (fun e=>h.farO (by have e':k=o5:=e;rw[<-e'];exact hk))
theorem TuMid.sub {w':World}{t':PT}{rs:List Row}(c:Chg wx rs w')(hs:∀k,k∈rs.filterMap Row.blk->k∈t.rows.filterMap Row.blk)(g:zW t'=zW t)(hr:Rows w' (p1+1+1+1) t'.rows):TuMid w p1 o5 q0 q1 q2 t' w':=by
 have d:∀k,k∈t.rows.filterMap Row.blk->p1+1+1+1<=k:=fun k hk=>(h.rows.lt hk).1
 have i:=h.ge;have keep:∀k,k<wx.heap.size->k<p1+1+1+1->w'.heap[k]? =wx.heap[k]?:=fun k hk hl=>c.kept k hk (fun e=>by have:=d k (hs k e);omega)
 refine⟨(keep _ (lt_of_block h.hq) Zo).trans h.hq,(keep _ (lt_of_block h.hr) Zo).trans h.hr,?_,?_,h.base,hr,h.ge⟩
 ·rw[g];exact(c.kept _ (lt_of_block h.ho) (fun e=>h.farO (hs _ e))).trans h.ho
 ·have hl:=h.lt;exact h.bel.trans ⟨c.os,c.tape,c.output,c.size,fun k hk=>keep k Zo Zo⟩
theorem TuMid.grow {w1 w9:World}{r r':Row}{rs:List Row}{t':PT}{i:Nat}{u:Value}(hp:t.rows.Perm (r::rs))(c:L wx w1)(hg:w1.grownBy w9 r.blk)
 (g:w9.ownsRow (p1+1+1+1) r'.e r'.sz r'.v r'.n r'.cs) (o:∀k,r'.blk=some k->r.blk=some k∨wx.heap.size<=k) (hq:(r'::rs).Perm t'.rows) (y:(zW t).set i u=zW t'):TuMid w p1 o5 q0 q1 q2 t' (w9.setCell ⟨o5,i,none⟩ u):=by
 have a0:=h.ge;have hr:=h.rows.perm hp;have h2:=hr.grow c hg g o;have m:∀k,r.blk=some k->k∈t.rows.filterMap Row.blk:=fun k e=>Nj.2 ⟨r,hp.mem_iff.2 (.head _),e⟩
 have keep:∀k,k<wx.heap.size->(k<p1+1+1+1∨k=o5)->w9.heap[k]? =wx.heap[k]?:=fun k hk hl=>(hg.block k (Jy hk c.size) (fun e=>by
  have q:=m k e.symm;rcases hl with hl|rfl
  ·have:=(h.rows.lt q).1;omega
  ·exact h.farO q)).trans (c.block k hk)
 have d:Y w9 o5 (zW t).toArray 29:=(keep _ (lt_of_block h.ho) (.inr rfl)).trans h.ho;refine⟨(zR ((keep _ (lt_of_block h.hq) (.inl Zo)).trans h.hq) (by show p1+1≠o5;omega)),(zR ((keep _ (lt_of_block h.hr) (.inl Zo)).trans h.hr) (by show p1+1+1≠o5;omega)),by rw[zD d,<-y];simp,?_,h.base,?_,h.ge⟩
 ·have hl:=h.lt;refine Below.setCell (h.bel.trans ⟨hg.os.trans c.os,hg.tape.trans c.tape,hg.output.trans c.output,Jn c.size hg.size,fun k hk=>keep k Zo (.inl Zo)⟩) (by show p1<=o5;omega) _
 ·have h3:=h2.perm hq;refine h3.keep fun k hk=>Below.heap_setCell _ _ _ _ (fun e=>?_)
  have e':k=o5:=e;subst e';obtain⟨x,l,j⟩:=Nj.1 hk;exact zC (h3.own x l) d (.inr (vr x l)) j
end
theorem uf {α β:Type}(f:α->List β){l:List α}{k:Nat}{b:α}(hk:l[k]? =some b):(l.flatMap f).Perm (f b++(l.eraseIdx k).flatMap f):=by
 obtain⟨c,hb⟩:=Jh.1 hk
 have e1:l=l.take k++b::l.drop (k+1):=by
  rw[<-hb,Ue,Qi]
 rw[List.eraseIdx_eq_take_drop_succ]
 conv=>lhs;rw[e1]
 classical
 refine Jp.2 fun y=>?_
 simp only[Nx,Qa,Nb];omega
theorem abO {α β:Type}(f:α->List β){l:List α}{k:Nat}(hk:k<l.length)(a:α):((l.set k a).flatMap f).Perm (f a++(l.eraseIdx k).flatMap f):=by
 have h:=uf f (l:=l.set k a) (k:=k) (b:=a) (by rw[Nn hk]);rw[List.eraseIdx_set_eq] at h;exact h
def PT.but (t:PT)(f:Nat):List Row:=wY t.fv t.funcs::zP t.av t.args::vK t.dv t.data::v8 t.bv t.banks::(t.funcs.eraseIdx f).flatMap FT.rows
theorem PT.rows_at {t:PT}{f:Nat}{ft:FT}(hf:t.funcs[f]? =some ft):t.rows.Perm (ft.rows++t.but f):=by
 have h:=uf FT.rows hf
 classical
 have c:=Jp.1 h;unfold PT.rows PT.but;refine Jp.2 fun y=>?_
 have:=c y;simp only[Nb,Nf] at this ⊢;omega
theorem PT.rows_set {t:PT}{f:Nat}(hf:f<t.funcs.length)(ft:FT):({t with funcs:=t.funcs.set f ft }:PT).rows.Perm (ft.rows++(wY t.fv (t.funcs.set f ft)::zP t.av t.args::vK t.dv t.data::v8 t.bv t.banks::(t.funcs.eraseIdx f).flatMap FT.rows)):=by
 have h:=abO FT.rows hf ft
 classical
 have c:=Jp.1 h;unfold PT.rows;refine Jp.2 fun y=>?_
 have:=c y;simp only[Nb,Nf] at this ⊢;omega
theorem jY {t:PT}{f:Nat}{ft ft':FT}(hf:t.funcs[f]? =some ft)(hb:ft'.bv=ft.bv):wY t.fv (t.funcs.set f ft')=wY t.fv t.funcs:=by
 unfold wY;rw[Nd,vQ hf hb]
theorem FT.rows_at {ft:FT}{i:Nat}{bt:BT}(hi:ft.blks[i]? =some bt):ft.rows.Perm (zd ft.bv ft.blks::(bt.rows++(ft.blks.eraseIdx i).flatMap BT.rows)):=(uf BT.rows hi).cons _
theorem FT.rows_set {ft:FT}{i:Nat}(hi:i<ft.blks.length)(bt:BT):({ft with blks:=ft.blks.set i bt }:FT).rows.Perm (zd ft.bv (ft.blks.set i bt)::(bt.rows++(ft.blks.eraseIdx i).flatMap BT.rows)):=(abO BT.rows hi bt).cons _
theorem TuMid.block {w:World}{p1 o5:Nat}{q0 q1 q2:Int}{t:PT}{wx:World}(h:TuMid w p1 o5 q0 q1 q2 t wx){f i g:Nat}{ft:FT}{bt:BT}(hf:t.funcs[f]? =some ft)(hi:ft.blks[i]? =some bt)(hg:ft.bv.ownBlock=some g):
 SpSt wx (p1+1+1+1) g i ft.bv bt ft.blks ((ft.blks.eraseIdx i).flatMap BT.rows++t.but f):=by
 refine⟨h.rows.perm ?_,hi,hg⟩;refine(PT.rows_at hf).trans ?_;have h1:=(FT.rows_at hi).append_right (t.but f);refine h1.trans ?_;rw[List.cons_append,Nv]
theorem TuMid.unblock {w:World}{p1 o5:Nat}{q0 q1 q2:Int}{t:PT}{wx w':World}(h:TuMid w p1 o5 q0 q1 q2 t wx){f i g:Nat}{ft:FT}{bt bt':BT}(hf:t.funcs[f]? =some ft)(hi:ft.blks[i]? =some bt)
 (hs:SpSt w' (p1+1+1+1) g i ft.bv bt' (ft.blks.set i bt') ((ft.blks.eraseIdx i).flatMap BT.rows++t.but f)) (l:Chg wx (zd ft.bv ft.blks::bt.rows) w'):
 TuMid w p1 o5 q0 q1 q2 {t with funcs:=t.funcs.set f {ft with blks:=ft.blks.set i bt' }} w':=by
 have j:=(Jh.1 hf).1;have d:=(Jh.1 hi).1;have hp:=((PT.rows_at hf).trans ((FT.rows_at hi).append_right (t.but f)))
 refine h.sub (t':= {t with funcs:=t.funcs.set f {ft with blks:=ft.blks.set i bt' }}) l (fun k hk=>?_) rfl (hs.rows.perm ?_)
 ·obtain⟨x,c,e⟩:=Nj.1 hk;refine Nj.2 ⟨x,hp.mem_iff.2 ?_,e⟩;rw[List.cons_append,Nv];rcases Jq.1 c with rfl|c
  ·exact .head _
  ·exact .tail _ (Jz _ c)
 ·have h2:=PT.rows_set j ({ft with blks:=ft.blks.set i bt' }:FT);rw[jY hf (ft':= {ft with blks:=ft.blks.set i bt' }) rfl] at h2;have h3:=(FT.rows_set d bt').append_right (t.but f);rw[List.cons_append,Nv] at h3;exact(h2.trans h3).symm
theorem pD {α:Type}{l:List α}{i:Nat}{g:α->α}(h:∀x,l[i]? =some x->g x=x):wD l i g=l:=by
 unfold wD
 split
 ·rename_i x c
  rw[h x c];apply Oq;intro q;rw[Ov]
  split
  ·rename_i e
   subst e;rw[c,if_pos (Jh.1 c).1]
  ·rfl
 ·rfl
theorem uw {p:IProg}{what n f:Nat}{q1:Int}(c:what=18∨what<=12∨what=19)(h:∀g,p.funcs[f]? =some g->g.length=0):rA p what n f q1=p:=by
 unfold rA;rw[if_neg Zo,if_neg Zo,if_neg Zo,if_neg Zo,if_neg Zo]
 split
 ·rw[pD (fun g hg=>if_pos (h g hg))]
 ·rw[pD (fun g hg=>?_)];unfold lW;rw[Nz (h g hg)];rfl
def btH:BT:=⟨[],F,[],F,5,0,[],F⟩
theorem kZ {w:World}{B:Nat}{t:PT}(h:Rows w B t.rows):w.ownsRow B 43 1 t.fv t.funcs.length (t.funcs.flatMap fun f:FT=> [f.bv]):=by
 rw[<-Qh];exact h.own (wY t.fv t.funcs) (.head _)
theorem kj {w:World}{B:Nat}{t:PT}(h:Rows w B t.rows){fb f:Nat}{ft:FT}(hb:t.fv.ownBlock=some fb)(hf:t.funcs[f]? =some ft):T w fb f ft.bv/\N w fb f/\fb<w.heap.size:=by
 have h1:=kZ h;have h2:=wb (f:=fun f:FT=> [f.bv]) (n:=1) (fun _=>rfl) h1 hb hf 0 _ rfl;have h3:=zq (n:=1) Zd (f:=fun f:FT=> [f.bv]) (fun _=>rfl) h1 hb hf 0 Zd;rw[Nk] at h2 h3;exact⟨h2,h3.2,(h1.lt fb hb).2⟩
theorem TuMid.addB {w:World}{p1 o5:Nat}{q0 q1 q2:Int}{t:PT}{wx w1 w9:World}(h:TuMid w p1 o5 q0 q1 q2 t wx){f fb:Nat}{ft:FT}{v':Value}(hf:t.funcs[f]? =some ft)(c:t.fv.ownBlock=some fb)(i:L wx w1)(hg:w1.grownBy w9 ft.bv.ownBlock)
 (l:w9.ownsRow (p1+1+1+1) 49 5 v' (ft.blks.length+1) (ft.blks.flatMap zz++zz btH)) (x:∀k,v'.ownBlock=some k->ft.bv.ownBlock=some k∨wx.heap.size<=k):
 TuMid w p1 o5 q0 q1 q2 {t with funcs:=t.funcs.set f ⟨ft.blks++ [btH],v'⟩} (w9.setCell ⟨fb,f,none⟩ v'):=by
 have o:=(Jh.1 hf).1;have d:=PT.rows_at hf
 have h2:=(h.rows.perm d).grow (r':=zd v' (ft.blks++ [btH])) i hg (by
  show w9.ownsRow _ _ _ _ (ft.blks++ [btH]).length ((ft.blks++ [btH]).flatMap zz)
  rw[Jk,Nx]
  exact l) x
 have a0:∀(r:Row),r.blk=none->∀g,r.blk=some g->g ∉ (zd v' (ft.blks++ [btH])::(ft.blks.flatMap BT.rows++t.but f)).filterMap Row.blk:=fun r e g e2=>by rw[e] at e2;cases e2
 have h3:Rows w9 (p1+1+1+1) (zP (F) []::yo (F) []::xg (F) []::(zd v' (ft.blks++ [btH])::(ft.blks.flatMap BT.rows++t.but f))):=by
  refine((h2.cons (Jv _ _ _ _) ?_).cons (Jv _ _ _ _) ?_).cons (Jv _ _ _ _) ?_
  all_goals (intro g e;cases e)
 have h4:=h3.perm (rs':=wY t.fv t.funcs::(zd v' (ft.blks++ [btH])::((ft.blks++ [btH]).flatMap BT.rows++(zP t.av t.args::vK t.dv t.data::v8 t.bv t.banks::(t.funcs.eraseIdx f).flatMap FT.rows)))) (by
  classical
  unfold PT.but;rw[Nx]
  show List.Perm _ (_::_::((_++([zP (.slice none 0 0) [],yo (.slice none 0 0) [],xg (.slice none 0 0) []]++ []))++_))
  refine Jp.2 fun y=>?_
  simp only[Nb,Nf,List.count_nil]
  omega)
 have h5:=h4.put (g:=fb) (r':=wY t.fv (t.funcs.set f ⟨ft.blks++ [btH],v'⟩)) (w':=w9.setCell ⟨fb,f,none⟩ v') c (fun k hk=>Below.heap_setCell _ _ _ _ hk) (by
  have h6:w9.ownsRow (p1+1+1+1) 43 1 t.fv t.funcs.length (t.funcs.flatMap fun f:FT=> [f.bv]):=by
   rw[<-Qh];exact h4.own (wY t.fv t.funcs) (.head _)
  have h7:=yp (f:=fun f:FT=> [f.bv]) (n:=1) (fun _=>rfl) h6 c hf (j:=0) (u:=v') (a:=⟨ft.blks++ [btH],v'⟩) Zd rfl;rw[Nk,Uk,<-Qh] at h7
  show(w9.setCell ⟨fb,f,none⟩ v').ownsRow (p1+1+1+1) 43 1 t.fv (t.funcs.set f _).length _
  rw[Nd]
  exact h7) rfl
 have q:zd ft.bv ft.blks∈t.rows:=d.mem_iff.2 (.head _);have m:wY t.fv t.funcs∈t.rows:=.head _;refine h.sub (rs:=t.rows) (((Chg.below i).trans ((uY (r:=zd ft.bv ft.blks) hg).one q)).trans ((xJ (a:=⟨fb,f,none⟩) (r:=wY t.fv t.funcs) c).one m)) (fun k hk=>hk) rfl (h5.perm ?_);have h8:=PT.rows_set o (⟨ft.blks++ [btH],v'⟩:FT);refine List.Perm.trans ?_ h8.symm
 classical
 refine Jp.2 fun y=>?_
 unfold FT.rows;simp only[Nb,Nf];omega
theorem TuMid.farF {w:World}{p1 o5:Nat}{q0 q1 q2:Int}{t:PT}{wx:World}(h:TuMid w p1 o5 q0 q1 q2 t wx){f k:Nat}{ft:FT}(hf:t.funcs[f]? =some ft)(hk:ft.bv.ownBlock=some k):t.fv.ownBlock≠some k:=fun e=>by
 have h1:=(h.rows.perm (PT.rows_at hf)).apart (g:=k) hk;exact h1 (Nj.2 ⟨wY t.fv t.funcs,Qf _ (.head _),e⟩)
theorem szB_of {ft:FT}{bt:BT}(h1:bt.blk.params.length<=2000000/\bt.blk.ops.length<=2000000/\bt.blk.term.to.length<=2000000)(h2:jx ft.fn)(hm:bt.blk∈ft.fn):SzB bt:=by
 have h3:=h2 _ hm;refine⟨h1.1,by have:=h1.2.1;unfold BT.blk at this;simpa using this,by have:=h1.2.2;unfold BT.blk at this;simpa using this,fun o ho=>h3.1 o.1 (Oj ho),fun o ho=>h3.2 o.1 (Oj ho)⟩
end Go.Proofs.Ytojclalkfhoooaa
