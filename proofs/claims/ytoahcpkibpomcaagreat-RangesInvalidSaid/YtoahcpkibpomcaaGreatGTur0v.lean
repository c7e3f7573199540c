/- Part of a proof. -/
import Derived.Test.YtoahcpkibpomcaaGreatGSpo7v
set_option linter.all false
set_option maxHeartbeats 4000000
set_option maxRecDepth 100000
namespace Go.Proofs.YtoahcpkibpomcaaGreat
open Go.RowKit
theorem iQ {α:Type}{x a b:α}(h:x∈ [a,b]):x=a∨x=b:=by simpa using h
theorem jq {a b:Int}(c:I64 a)(hb:I64 b):∀x∈ [a,b],I64 x:=fun x h=>by
 rcases iQ h with rfl|rfl
 ·exact c
 ·exact hb
theorem lit_two {w:World}{x y:Int}(d:I64 x)(c:I64 y)(X:Nat->Prop)(g:∀k,X k->k<w.heap.size):
 vT (w.alloc (T #[I x,L,I y,L] 79)) X (F w.heap.size 2 2) [⟨x,[]⟩,⟨y,[]⟩]:=by
 refine qt (l:=[((⟨x,[]⟩:IEdge),L),((⟨y,[]⟩:IEdge),L)]) (e:=79) (zI Zs) (fun e=>by have:=g _ e;omega) (fun q hq=>?_) Zs;rcases iQ hq with rfl|rfl
 ·exact⟨d,yE.nil⟩
 ·exact⟨c,yE.nil⟩
theorem OpSt.goto {w0 w:World}{K:MKC}{X0:Nat->Prop}{M0 M:MS}{c:Nat}(h:OpSt w0 K X0 M0 c w M)(k:Nat)(hk:k<M.f.length):OpSt w0 K X0 M0 c (w.setCell ⟨K.pm,5,none⟩ (I k)) {M with cur:=k }:=by
 obtain⟨X,⟨fv,vv,l,hi⟩,hs⟩:=h.made;exact⟨⟨X,(hi.goto k).1.at,hs.trans (hi.goto k).2⟩,h.gr.trans (vk M k hk),hk⟩
theorem OpSt.facts {w0 w:World}{K:MKC}{X0:Nat->Prop}{M0 M:MS}{c:Nat}(h:OpSt w0 K X0 M0 c w M):∃X fv vv l,MkIn w K X M fv vv l/\Stp X0 w0 X w:=by
 obtain⟨X,⟨fv,vv,l,hi⟩,hs⟩:=h.made;exact⟨X,fv,vv,l,hi,hs⟩
theorem OpSt.push {w0 w:World}{K:MKC}{X0:Nat->Prop}{M0 M:MS}{c:Nat}(h:OpSt w0 K X0 M0 c w M)(x:Int){w':World}(d:∃X',wW w' K X' {M with vals:=M.vals++ [x]}/\Stp X0 w0 X' w'):OpSt w0 K X0 M0 (c+1) w' {M with vals:=M.vals++ [x]}:=by
 refine⟨d,h.gr.trans ⟨Je _,?_,Je _,Je _,Qb _ _,fun e=>e,Og _,fun e=>e,xU.refl _⟩,h.cur⟩;unfold MS.sz;simp only[Jk,Ju];omega
theorem loop_any {d:Nat}(hd:d<=5)(hP:sU d){w:World}{K:MKC}{X:Nat->Prop}{M:MS}(h:wW w K X M)(g1:M.cur<M.f.length)(hz:M.sz+(24+pC d)<=1000000):
 G 113 #[Y K.pm,I ((d:Int)+1)] w (yk K X w (tH K.E (zp K.E d) M) (.tuple #[])):=by
 have HA:=Ja (OpSt.start h g1);have q:=Ja (Jb hz hP);clear h g1 hz hP;go_enter Tryz.func113,Tryz.ntmps113;go_upto_region 1 with(first|(go_at_call 55;go_must (refine(HA.out.take 5 Zd Zd (by have:=q.out.1;omega)).mono ?_;rintro e w1 ⟨z,qz,Hz,rfl,i5⟩))|(go_at_call 114;go_must (refine(i5.out.num z Zo (by have:=q.out.1;omega)).mono ?_;rintro e w2 ⟨rfl,i2⟩)))
 generalize f6:((M.tick.next:Nat):Int)=n0 at *;have f2:I64 n0:=by rw[<-f6];exact i5.out.n64
 have HN:=Ja (Jb f6 (Jb f2 Hz.out));obtain⟨MA,g4⟩:∃MA,M.tick.num z=MA:=⟨_,rfl⟩
 rw[g4] at i2;have p8:=Ja g4;clear g4 f6 f2 i5 HA;go_upto_region 2 with(go_at_call 58;go_must (refine(i2.out.any (by have:=q.out.1;omega)).mono ?_;rintro e w3 ⟨x,HX,rfl,b4⟩))
 obtain⟨MB,g3⟩:∃MB,(zJ K.E MA).2=MB:=⟨_,rfl⟩
 rw[g3] at b4;obtain⟨tg,b8⟩:∃tg,MB.f.length=tg:=⟨_,rfl⟩
 obtain⟨b1,l1⟩:∃b1,tg+1=b1:=⟨_,rfl⟩
 obtain⟨b2,l0⟩:∃b2,tg+2=b2:=⟨_,rfl⟩
 have h6:=b4.out.block 2 (by have:=q.out.1;omega);rw[b8] at h6;have j0:=b4.out.flen;rw[b8] at j0;have m7:=Ja h6;have l:=Ja (Jb g3 (Jb b8 (Jb l1 l0)));clear h6 g3 b8 l1 l0 i2;go_upto_region 3 with(go_at_call 56;go_must (refine m7.out.mono ?_;rintro e w4 ⟨rfl,a3⟩))
 have d6:=a3.out.block 0 (by have:=q.out.1;omega);rw[yz,l.out.2.1,l.out.2.2.1] at d6;have m6:=Ja d6;clear d6 m7;go_upto_region 4 with(go_at_call 56;go_must (refine m6.out.mono ?_;rintro e w5 ⟨rfl,m0⟩))
 have h5:=m0.out.block 0 (by have:=q.out.1;omega);rw[yz,yz,l.out.2.1,show tg+1+1=tg+2 from rfl,l.out.2.2.2] at h5;have m5:=Ja h5;clear h5 m6;go_upto_region 5 with(go_at_call 56;go_must (refine m5.out.mono ?_;rintro e w6 ⟨rfl,l5⟩))
 have m4:=Ja (l5.out.endN 1 0 [⟨(tg:Int),[n0,x]⟩] (F (w6.heap.size+1) 1 1) (yF _ rfl) (yF _ rfl) (((Below.refl _ _).alloc (Je _) _).alloc Zs _) (pj (w:=w6) (xs:=[n0,x]) (blk:=(tg:Int)) (jq HN.out.2.1 HX.out.1) Zs (vG _ Zo Zo)));clear m5;go_upto_region 6 with(go_at_call 59;go_must (refine m4.out.mono ?_;rintro e w7 ⟨rfl,i1⟩))
 obtain⟨M2,b3⟩:∃M2,(((MB.block 2).block 0).block 0).endB ⟨1,0,[⟨(tg:Int),[n0,x]⟩]⟩=M2:=⟨_,rfl⟩
 rw[b3] at i1;have a7:M2.f.length=tg+3:=by rw[<-b3,(zv _ _).len,yz,yz,yz,l.out.2.1]
 have f0:∃b,M2.f[tg]? =some b/\b.params=[((MB.next:Nat):Int),((MB.next+1:Nat):Int)]:=by
  have h0:(MB.block 2).f[tg]? =some (wJ MB.next 2):=by
   show(MB.f++ [wJ MB.next 2])[tg]? =_
   rw[Nc (by have:=l.out.2.1;omega),l.out.2.1,Qy];rfl
  obtain⟨c1,k1,k2⟩:=(xM (MB.block 2) 0).par _ _ h0;obtain⟨c2,k3,k4⟩:=(xM ((MB.block 2).block 0) 0).par _ _ k1;obtain⟨c3,k5,k6⟩:=(zv (((MB.block 2).block 0).block 0) ⟨1,0,[⟨(tg:Int),[n0,x]⟩]⟩).par _ _ k3;rw[b3] at k5;exact⟨c3,k5,k6.trans (k4.trans (k2.trans rfl))⟩
 obtain⟨X7,r5,vv7,l7,c9,p1⟩:=i1.out.facts;have q1:=lt_of_block c9.blk;have c5:=c9.c5;have f5:=c9.free 5;have u:=i1.out.goto tg (by rw[a7];omega);have o0:=b4.out.next;have d1:=b4.out.n64;have d0:I64 ((MB.next+1:Nat):Int):=vG _ Zo (by have:=a3.out.next;show((MB.next+1:Nat):Int)<=1000000;have e:(MB.block 2).next=MB.next+2:=rfl;rw[e] at this;omega);have H2:=Ja (Jb b3 (Jb a7 (Jb u (Jb f0 (Jb d1 d0)))));clear b3 a7 f0 c9 p1 u o0 d1 d0 m4 a3 m0 l5;go_upto_region 7 with fail;generalize r2:w7.setCell ⟨K.pm,5,none⟩ (I tg)=W8 at *;obtain⟨M3,d5⟩:∃M3:MS,{M2 with cur:=tg }=M3:=⟨_,rfl⟩
 have H3:=H2.out.2.2.1;rw[d5] at H3;obtain⟨bk,g2,k9⟩:=H2.out.2.2.2.1;obtain⟨X8,r4,vv8,l8,j,j1⟩:=H3.facts;have g0:M3.f=M2.f:=by rw[<-d5]
 obtain⟨g,c,pa,pc,k0,r0,k7,b9⟩:=j.parAt (i:=tg) (b:=bk) (by rw[g0];exact g2);rw[k9] at k7 b9;obtain⟨bb,o,j2,r1,a0,_⟩:=b9 0 _ rfl;obtain⟨bb2,o2,f1,_,b0,_⟩:=b9 1 _ rfl;rw[j2] at f1;cases f1;rw[Uk] at a0;obtain⟨va,vc,e5⟩:=zG j.vown;have a6:=j.vown;have c4:=j.c4;have c7:=j.c7;have f7:=j.free 7;have e1:=lt_of_block j.blk;have q9:tg<l8.length:=by rw[j.len,g0];exact(Jh.1 g2).1
 have p3:=j.flen;rw[<-j.len] at p3;have nb:=zC a6 j.blk (.inr Zd);rw[e5] at a6 c7 nb;rw[k0] at c4;subst j2;generalize f4:((MB.next:Nat):Int)=n1 at a0;generalize f3:((MB.next+1:Nat):Int)=n2 at b0;have o3:=Ja a6;have p5:=Ja e5
 have q7:M3.vals.length<=999999:=by
  have h1:=j.bnd;have h2:M3.vals.length<=M3.sz:=by unfold MS.sz;omega
  have h3:=H3.gr.sz;have h4:=q.out.1;omega
 have l4:∀o,A (W8.alloc o) K.pm 7 (.slice va M3.vals.length vc):=fun o=>(Oo (w:=W8) (Below.heap_alloc _ _ _ e1)).trans c7
 have l3:∀o,N (W8.alloc o) K.pm 7:=fun o=>(Qm (w:=W8) (Below.heap_alloc _ _ _ e1)).trans f7
 have d6:K.B<=W8.heap.size:=j.size;obtain⟨ij,p4,n7,n6,n5⟩:=info_parts Tryz.info_int;have e8:I64 n2:=by rw[<-f3];exact H2.out.2.2.2.2.2
 have b7:I64 n1:=by rw[<-f4];exact H2.out.2.2.2.2.1
 have HP:=Ja (Jb d5 (Jb H3 (Jb j (Jb j1 (Jb f4 (Jb f3 (Jb b7 e8)))))));clear a6 e5 b9 k0 d5 H3 j j1 f4 f3 e8 b7 g2 k9 g0;go_upto_region 8 with fail
 go_cut [] (fun wx=>Hid (OpSt w K X M (1+3+4+(1+2)+(1+0)+(1+0)+1) wx {M3 with vals:=M3.vals++ [n2]}))
 case first=>
  go_region_law (first|(refine step_append_lies _ (by rfl) (.tmp 54) (.tmp 66) _ (by rfl) K.B 3 ij (I 0) 1 8 Tryz.underlying22 p4 n7 n6 n5 rfl Zo (.slice va M3.vals.length vc) M3.vals.length (M3.vals.map zN) (by rfl) ((o3.out.alloc _).drew) ⟨W8.heap.size,0,none⟩ 1 1 [I n2] (by rfl) (by rfl) (Oi (cs:=#[I n2]) (t:=3) (fr:=(0,0)) (heap_alloc_new W8 _)) (by simp[Value.oneCell']) Zo (by unfold maxLen;omega) Zo Zt (W8.heap.size+1) Zs ?_;intro gg o1 w3 i9 a8 l2 q2;have r8:=(a8.cell_far ⟨K.pm,7,none⟩ Zt (Ne.symm nb)).trans (l4 _);have r6:=(a8.frozen_far ⟨K.pm,7,none⟩ Zt (Ne.symm nb)).trans (l3 _)))
  all_goals go_wp2_with fail
  all_goals go_meet
  all_goals (
   have j5:=xN a8;rw[<-p5.out] at j5 l2
   have hP:=HP.out.2.2.1.putV (vv':=F gg (M3.vals.length+1) o1) (x:=n2) j5 i9 (fun k e=>by
    have e2:gg=k:=by simpa[Value.ownBlock] using e
    subst e2;rcases l2 with e3|e3
    ·exact .inl e3
    ·right;omega) HP.out.2.2.2.2.2.2.2 (by
    have h3:=HP.out.2.1.gr.sz;have h4:=q.out.1
    omega)
   exact Ja (HP.out.2.1.push n2 ⟨_,hP.1.at,HP.out.2.2.2.1.trans hP.2⟩))
 case rest=>
 obtain⟨M4,d4⟩:∃M4:MS,{M3 with vals:=M3.vals++ [n2]}=M4:=⟨_,rfl⟩
 rw[d4] at hcut;have c8:M4.f.length=tg+3:=by rw[<-d4,<-HP.out.1];exact H2.out.2.1
 have b5:I64 (b1:Int)/\I64 (b2:Int):=by
  have h1:=l.out.2.2.1;have h2:=l.out.2.2.2;exact⟨vG _ Zo (by have:=hcut.out.flen;omega),vG _ Zo (by have:=hcut.out.flen;omega)⟩
 have m3:=Ja (hcut.out.endN 2 n1 [⟨(b1:Int),[]⟩,⟨(b2:Int),[]⟩] (F wc.heap.size 2 2) (yF _ rfl) HP.out.2.2.2.2.2.2.1 ((Below.refl _ _).alloc (Je _) _) (lit_two b5.1 b5.2));have a3:=Ja (Jb d4 c8);clear d4 c8 b5 c4 c7 f7 l4 l3 nb e1 a0 b0 k7;go_upto_region 10 with(go_at_call 59;go_must (refine m3.out.mono ?_;rintro e w9 ⟨rfl,i0⟩))
 obtain⟨M5,d3⟩:∃M5,M4.endB ⟨2,n1,[⟨(b1:Int),[]⟩,⟨(b2:Int),[]⟩]⟩=M5:=⟨_,rfl⟩
 rw[d3] at i0;have c0:M5.f.length=tg+3:=by rw[<-d3,(zv _ _).len];exact a3.out.2
 obtain⟨X9,r3,vv9,l9,a1,p0⟩:=i0.out.facts;obtain⟨va9,vc9,e4⟩:=zG a1.vown;have c7:=a1.c7;rw[e4] at c7;have n8:=lt_of_block a1.blk;have c5:=a1.c5;have f5:=a1.free 5;have u:=i0.out.goto b1 (by have:=l.out.2.2.1;omega);have H5:=Ja (Jb d3 (Jb c0 u));clear d3 c0 a1 p0 e4 u m3;go_upto_region 12 with fail;generalize n9:w9.setCell ⟨K.pm,5,none⟩ (I b1)=W10 at *;obtain⟨M6,g8⟩:∃M6:MS,{M5 with cur:=b1 }=M6:=⟨_,rfl⟩
 have h8:=H5.out.2.2;rw[g8] at h8;have h7:=Ja (Jb (h8.part q.out.2 (by have:=q.out.1;omega)) g8);have o9:IntKind.i64.wrap ((d:Int)+1-1)=(d:Int):=by rw[Om _ Zo];omega
 clear g8 h8 n9 c5 f5 c7 n8;go_upto_region 13 with(go_at_call 57;go_must (refine h7.out.1.mono ?_;rintro e w11 ⟨rfl,a9⟩))
 clear o9;obtain⟨M7,g6⟩:∃M7,zp K.E d M6=M7:=⟨_,rfl⟩
 rw[g6] at a9;have h9:=Ja (a9.out.num 1 Zo (by have:=q.out.1;omega));have h64:=a9.out.n64;generalize j4:((M7.next:Nat):Int)=n3 at h9 h64;have e0:=Ja (Jb g6 (Jb j4 h64));clear g6 j4 h64;go_upto_region 14 with(go_at_call 114;go_must (refine h9.out.mono ?_;rintro e w12 ⟨rfl,b6⟩))
 have a4:=b6.out.emit 6 n1 n3 0 (yF _ rfl) HP.out.2.2.2.2.2.2.1 e0.out.2.2 Zo (by have:=q.out.1;omega);have e6:sB (M7.num 1) 6=((M7.next+1:Nat):Int):=rfl;rw[e6] at a4;have d7:=b6.out.n64;have e7:(M7.num 1).next=M7.next+1:=rfl;rw[e7] at d7;generalize j3:((M7.next+1:Nat):Int)=n4 at a4 d7;have a4:=Ja a4;have m2:=Ja (Jb j3 d7);clear j3 d7 e6 e7 h9 a9;go_upto_region 15 with(go_at_call 132;go_must (refine a4.out.mono ?_;rintro e w13 ⟨rfl,i4⟩))
 obtain⟨M8,g5⟩:∃M8,(M7.num 1).emit ⟨6,0,n1,n3,0,[]⟩=M8:=⟨_,rfl⟩
 rw[g5] at i4;have m1:=Ja g5;clear g5 a4 b6;have o5:=Ja (i4.out.any (by have:=q.out.1;omega));go_upto_region 16 with(first|(go_at_call 58;go_must (refine o5.out.mono ?_;rintro e w14 ⟨y,HY,rfl,o4⟩;have p9:=Ja (o4.out.endN 1 0 [⟨(tg:Int),[n4,y]⟩] (F (w14.heap.size+1) 1 1) (yF _ rfl) (yF _ rfl) (((Below.refl _ _).alloc (Je _) _).alloc Zs _) (pj (w:=w14) (xs:=[n4,y]) (blk:=(tg:Int)) (jq m2.out.2 HY.out.1) Zs (vG _ Zo Zo)))))|(go_at_call 59;go_must (refine p9.out.mono ?_;rintro e w15 ⟨rfl,i3⟩)))
 obtain⟨M9,d2⟩:∃M9,(zJ K.E M8).2.endB ⟨1,0,[⟨(tg:Int),[n4,y]⟩]⟩=M9:=⟨_,rfl⟩
 rw[d2] at i3;obtain⟨X15,q5,vv15,q6,m,e9⟩:=i3.out.facts;obtain⟨va15,vc15,i6⟩:=zG m.vown;subst i6;have c7:=m.c7;have f7:=m.free 7;have i7:=lt_of_block m.blk
 have f9:GrowP (0+pC d+3+3+4) M5 M9:=by
  have hE:=m.at.alt;have h1:=(vk M5 b1 (by have h1:=l.out.2.2.1;have h2:=H5.out.2.1;omega))
  rw[h7.out.2] at h1;have h2:=h1.trans (xw K.E hE d M6);rw[e0.out.1] at h2;have h3:=(h2.trans (wT M7 1).p).trans (yB (M7.num 1) ⟨6,0,n1,n3,0,[]⟩).p;rw[m1.out] at h3;have h4:=(h3.trans (yU K.E M8).p).trans (zv (zJ K.E M8).2 ⟨1,0,[⟨(tg:Int),[n4,y]⟩]⟩).p;rw[d2] at h4;exact h4
 have f8:M5.vals.length<=M9.vals.length:=dO f9.pre;have q8:M5.vals.length<=vc15:=Jn f8 (zm m.vown).1;have q3:vc15<=9223372036854775807:=by have:=(zm m.vown).2;omega
 have a2:=m.cut f8;have c5:=a2.1.c5;have f5:=a2.1.free 5;have u:=a2.1.goto b2;have a5:=Ja (Jb a2.1 (Jb a2.2 (Jb u (Jb e9 (Jb d2 f9)))));clear m f8 a2 e9 d2 f9 u;go_upto_region 17 with fail;generalize q4:w15.setCell ⟨K.pm,7,none⟩ (.slice va15 M5.vals.length vc15)=W16 at *;have q0:=lt_of_block a5.out.1.blk;clear c7 f7 i7;go_wp2
 first|go_end0|refine bodyPost_ret (results_none rfl _ _ _) rfl ?_
 refine⟨rfl,X15,?_,(a5.out.2.2.2.1.trans a5.out.2.1).trans a5.out.2.2.1.2⟩
 have e:tH K.E (zp K.E d) M= {M9 with vals:=M9.vals.take M5.vals.length,cur:=b2 }:=by
  unfold tH;simp only;have k1:((M.next:Nat):Int)=n0:=HN.out.1;have k4:({M2 with cur:=tg,vals:=M2.vals++ [n2]}:MS)=M4:=by rw[<-a3.out.1,<-HP.out.1]
  rw[HN.out.2.2,p8.out,HX.out.2,l.out.1,l.out.2.1,k1,H2.out.1,HP.out.2.2.2.2.2.1,k4,HP.out.2.2.2.2.1,l.out.2.2.1,l.out.2.2.2,H5.out.1,h7.out.2,e0.out.1,e0.out.2.1,m2.out.1,m1.out,HY.out.2,a5.out.2.2.2.2.1]
 rw[e];exact a5.out.2.2.1.1.at
def jx (blocks:List IBlk):Prop:=∀b∈blocks,(∀o∈b.ops,o.args.length<=2000000)/\∀e∈b.term.to,e.args.length<=2000000
theorem lG {v:Value}{l:List BT}:∀x∈zd v l::l.flatMap BT.rows,x.e≠39:=fun x c=>by
 rcases Jq.1 c with rfl|c
 ·show 84≠39;decide
 obtain⟨b,_,c⟩:=Qx.1 c;unfold BT.rows at c;rcases Jq.1 c with rfl|c
 ·show 3≠39;decide
 rcases Jq.1 c with rfl|c
 ·show 76≠39;decide
 rcases Jq.1 c with rfl|c
 ·show 79≠39;decide
 rcases Jl.1 c with c|c
 ·obtain⟨q,_,rfl⟩:=Nu.1 c
  show 3≠39;decide
 ·obtain⟨q,_,rfl⟩:=Nu.1 c
  show 3≠39;decide
theorem mA {w:World}{B:Nat}{n4:Value}{blocks:List IBlk}(l4:wX w B n4 blocks)(hB:B<=w.heap.size)(hs:vZ blocks)(ha:jx blocks):
 G 44 #[.agg #[n4]] w (fun e w'=>∃(f:FT) (a:Option Addr) (n c:Nat),f.bv=.slice a n c/\e=.returned (.agg #[.slice a n c])/\f.fn=blocks/\Rows w' w.heap.size f.rows/\O w w'):=by
 obtain⟨fa,fc,rfl,w0,v6⟩:=l4.form;have v4:=hs.1;have h7:=Ja (Jb l4 (Jb hB (Jb hs ha)));obtain⟨f1,d4⟩:∃f1,w.heap.size=f1:=⟨_,rfl⟩
 have n3:O w (((w.alloc (T #[.slice fa blocks.length fc] 39)).alloc (T #[L] 39)).alloc (T #[L] 39)):=(((Below.refl _ _).alloc (Je _) _).alloc Zs _).alloc Zt _;have f3:=zB (o:=T #[L] 39) (zB (o:=T #[L] 39) (zI (W:=w) (o:=T #[.slice fa blocks.length fc] 39) rfl));have e9:=zB (o:=T #[L] 39) (zI (W:=w.alloc (T #[.slice fa blocks.length fc] 39)) (o:=T #[L] 39) rfl);have i7:=zI (W:=(w.alloc (T #[.slice fa blocks.length fc] 39)).alloc (T #[L] 39)) (o:=T #[L] 39) rfl;have m6:(w.alloc (T #[.slice fa blocks.length fc] 39)).heap.size=w.heap.size+1:=by simp
 have m5:((w.alloc (T #[.slice fa blocks.length fc] 39)).alloc (T #[L] 39)).heap.size=w.heap.size+1+1:=by simp
 rw[m6] at e9;rw[m5] at i7;clear l4 hB hs m6 m5 ha;go_enter Tryz.func44,Tryz.ntmps44;go_upto_region 2 with fail;generalize s6:((w.alloc (T #[.slice fa blocks.length fc] 39)).alloc (T #[L] 39)).alloc (T #[L] 39)=W1 at *;rw[d4] at f3 e9 i7;generalize r3:f1+1+1=g3 at *;generalize q8:f1+1=r2 at *;have i0:f1<r2/\r2<g3:=Zo;have s9:=Ja (show OfTop w f1 r2 g3 (.slice fa blocks.length fc) (L) [] W1/\([]:List BT).map BT.blk=blocks.take 0 from⟨⟨f3,e9,i7,by rw[<-d4];exact n3,Rows.nil.cons (Jv _ _ _ _) (fun g e=>by simp[Row.blk,zd,Value.ownBlock] at e),i0⟩,rfl⟩);have j2:=Ja (show ∀wx,Below f1 w wx->wX wx B (.slice fa blocks.length fc) blocks/\B<=wx.heap.size from fun wx hbx=>⟨h7.out.1.below yT (hbx.mono (by rw[<-d4];exact h7.out.2.1)),Jn h7.out.2.1 hbx.size⟩);have t6:=Ja d4;clear n3 f3 e9 i7 s6 d4 q8 r3 i0;go_wp2
 go_loopw [4] (fun kv wx=>∃(k:Nat) (l:List BT) (ga:Option Addr) (gc:Nat),k<=blocks.length/\kv=I k/\Hid (OfTop w f1 r2 g3 (.slice fa blocks.length fc) (.slice ga k gc) l wx/\l.map BT.blk=blocks.take k)) (fun kv _=>blocks.length-(intOf kv).toNat)
 case atStart=>exact⟨0,[],none,0,Jt _,rfl,s9⟩
 case round=>
  obtain⟨k,l,ga,gc,hk,rfl,HK⟩:=hrel;have c0:=zA (i:=0) HK.out.1.h1 rfl;have r4:=lt_of_block HK.out.1.h1
  by_cases n1:k<blocks.length
  ·have o1:(k:Int)<(blocks.length:Int):=Zo;obtain⟨b,hb⟩:∃b,blocks[k]? =some b:=⟨_,Jd n1⟩
   have h4:=h7.out.2.2.1.2 b (Ji hb);have h5:=h7.out.2.2.2 b (Ji hb);obtain⟨tb,q7⟩:∃tb,wr.heap.size=tb:=⟨_,rfl⟩
   have b7:=HK.out.1.start q7;have HB:=Ja (Jb hb (Jb h4 h5));have v1:=h4.1;have v3:=h4.2.1;have u7:=h4.2.2;clear hb h4 h5;go_upto_region 6 with fail;generalize s5:wr.alloc (T #[L,L,I 0,I 0,L] 84)=W5 at *;obtain⟨b5,w1⟩:=j2.out _ b7.bel;obtain⟨bb,bo,r5,r8,s8,s7,h64,pv,ov,tv,g0,g1,g4,h9,n8,n6⟩:=b5.get HB.out.1;obtain⟨pa,pc,rfl,v2,v0⟩:=h9.form;subst r5;have o4:bb<W5.heap.size:=Zo;have d0:=zA (i:=0) b7.h1 rfl;have dl:=lt_of_block b7.h1;have t0:=zA (i:=0) b7.hb rfl;have m0:N W5 tb 0:=zE b7.hb;have tl:=lt_of_block b7.hb;have n7:=b7.sz;have k6:=zY.src h9;have n5:=Ja (Jb b7 k6);obtain⟨ij,f4,d2,d1,c9⟩:=info_parts Tryz.info_int;clear c0 r4 b7 b5 h9 n8 n6 g1 g4 s8 s7 h64 k6 s5
   go_cut [] (fun wx=>Hid (∃k0,OfMid w f1 r2 g3 tb (.slice (some ⟨bb,bo,none⟩) blocks.length fc) (.slice ga k gc) {bt0 with params:=b.params,pv:=k0 } l [] wx))
   case first=>
    go_region_law (first|(refine yG (by rfl) (.tmp 20) (.tmp 26) _ (by rfl) f1 3 ij (I 0) 1 8 Tryz.underlying22 f4 d2 d1 c9 rfl Zo (L) 0 [] (by rfl) (Jv _ _ _ _) (.slice pa b.params.length pc) b.params.length (b.params.map zN) (by rfl) n5.out.2 (by unfold maxLen;omega) Zo Zt ?_;intro aa9 u3 w9 d t y;have y6:=(t.cell_far ⟨tb,0,none⟩ Zt (by simp[Value.ownBlock])).trans t0;have x9:=(t.frozen_far ⟨tb,0,none⟩ Zt (by simp[Value.ownBlock])).trans m0))
    all_goals go_wp2_with fail
    all_goals go_meet
    all_goals (
     rw[Ng,Op] at d;rw[Ng] at y
     exact Ja ⟨_,n5.out.1.par rfl (Below.refl _ _).drew t d (fun q e=>y.elim (fun e2=> .inl (e2.symm.trans e)) (fun e2=> .inr (by have e3:=e2.symm.trans e;simp at e3;omega)))⟩)
   case rest=>
   obtain⟨k0,f0⟩:=hcut.out;obtain⟨bt1,f6⟩:∃bt1:BT,{bt0 with params:=b.params,pv:=k0 }=bt1:=⟨_,rfl⟩
   rw[f6] at f0;have t5:=Ja (show OfMid w f1 r2 g3 tb (.slice (some ⟨bb,bo,none⟩) blocks.length fc) (.slice ga k gc) {bt1 with ops:=[],ov:=L } l [] wc/\([]:List (IOp×Value)).map (·.1)=b.ops.take 0 from⟨by rw[<-f6] at f0 ⊢;exact f0,rfl⟩);have p0:=Ja f6;have e0:=zA (i:=0) f0.h1 rfl;have el:=lt_of_block f0.h1;clear f6 hcut d0 dl t0 m0 tl n7 f4 d2 d1 c9 ij o4 g0;have h0:Below f1 w wc:=f0.bel;have f7:bb<wc.heap.size:=Jy r8 (j2.out _ h0).2;clear f0 h0;go_wp2;clear e0 el f7
   go_loopw [6] (fun jv wx=>∃(j:Nat) (ol:List (IOp×Value)) (oa:Option Addr) (oc:Nat),j<=b.ops.length/\jv=I j/\Hid (OfMid w f1 r2 g3 tb (.slice (some ⟨bb,bo,none⟩) blocks.length fc) (.slice ga k gc) {bt1 with ops:=ol,ov:=.slice oa j oc } l [] wx/\ol.map (·.1)=b.ops.take j)) (fun jv _=>b.ops.length-(intOf jv).toNat)
   case atStart=>exact⟨0,[],none,0,Jt _,rfl,t5⟩
   case round=>
    obtain⟨j,ol,oa,oc,hj,rfl,HJ⟩:=hrel;have e0:=zA (i:=0) HJ.out.1.h1 rfl;have el:=lt_of_block HJ.out.1.h1;obtain⟨b5,o9⟩:=j2.out _ HJ.out.1.bel;obtain⟨b2,o2,i1,_,q2c,i6,g6,q2,ov2,p4,q0,q1,q4,c2,a9,a8⟩:=b5.get HB.out.1;cases i1;obtain⟨sa,sc,rfl,u9,u8⟩:=a9.form;have f7:bb<wr.heap.size:=Zo
    by_cases f2:j<b.ops.length
    ·have l1:(j:Int)<(b.ops.length:Int):=Zo;obtain⟨o,ho⟩:∃o,b.ops[j]? =some o:=⟨_,Jd f2⟩
     obtain⟨ob,oo,k7,o0,y0,y1,y2,y3,y4,f8,yv,y5,e8⟩:=a9.get ho;obtain⟨ya,yc,rfl,q5,q3⟩:=e8.form;subst k7;have n9:ob<wr.heap.size:=Zo;have l9:=(HB.out.2.2.1 o (Ji ho))
     obtain⟨q,hq⟩:∃q,wr.heap.size=q:=⟨_,rfl⟩
     have c5:O wr (wr.alloc (T (D o ya yc) 76)):=(Below.refl _ _).alloc (Je _) _;have b0:=zI (W:=wr) (o:=T (D o ya yc) 76) hq;have b9:=zY.src (e8.below zO (c5.mono o9));have h6:=Ja (Jb ho (Jb f8 hq));clear c2 a9 a8 b5 q0 q4 q2c i6 g6 ho f8 e8;go_upto_region 12 with fail;generalize l5:wr.alloc (T (D o ya yc) 76)=W6 at *;have z5:=zA (i:=5) b0 rfl;have p1:N W6 q 5:=zE b0;have zl:=lt_of_block b0;have c4:W6.ownsRow f1 3 1 (L) 0 []:=Jv _ _ _ _;have o3:f1<=W6.heap.size:=Jn HJ.out.1.sz c5.size;have b4:=Ja (Jb b0 (Jb b9 (Jb c4 c5)));obtain⟨ij,f4,d2,d1,c9⟩:=info_parts Tryz.info_int;clear b0 b9 c4 c5 l5 y0 y1 y2 y3 y4 y5;go_upto_region 13 with(at_builtin;go_must (refine zK _ rfl (.tmp 49) (.tmp 51) 22 rfl f1 3 ij (I 0) 1 8 Tryz.underlying22 f4 d2 d1 c9 rfl Zd (L) 0 [] rfl b4.out.2.2.1 (.slice ya o.args.length yc) o.args.length (o.args.map zN) rfl b4.out.2.1 (by unfold maxLen;omega) Zo Zo ?_;intro v9 w9 d t y;obtain⟨a2,a1,rfl⟩:=zG d;have b1:=zL t b4.out.1 (by simp[Value.ownBlock]);have j5:=zA (i:=5) b1 rfl;have j4:N w9 q 5:=zE b1;have h8:=lt_of_block b1;have c8:=Ja (Jb d (Jb t (Jb y b1)));clear d t y b1))
     have a7:OfMid w f1 r2 g3 tb (.slice (some ⟨bb,bo,none⟩) blocks.length fc) (.slice ga k gc) {bt1 with ops:=ol,ov:=.slice oa j oc } l [zP (.slice a2 o.args.length a1) o.args] (w9.setCell ⟨q,5,none⟩ (.slice a2 o.args.length a1)):=by
      have d:=c8.out.1;have y:=c8.out.2.2.1;rw[Ng,Op] at d;rw[Ng] at y;refine HJ.out.1.arg2 b4.out.2.2.2 c8.out.2.1 d (fun x e=>?_) ⟨by rw[h6.out.2.2];exact Je _,lt_of_block b4.out.1⟩ _;rcases y with e2|e2
      ·have e3:=e2.symm.trans e;simp[Value.ownBlock] at e3
      ·have e3:=e2.symm.trans e;simp at e3;omega
     have a6:=zD (i:=5) c8.out.2.2.2 (.slice a2 o.args.length a1);generalize i5:w9.setCell ⟨q,5,none⟩ (.slice a2 o.args.length a1)=W10 at *;have y0:=zA (i:=0) a6 rfl;have y1:=zA (i:=1) a6 rfl;have y2:=zA (i:=2) a6 rfl;have y3:=zA (i:=3) a6 rfl;have y4:=zA (i:=4) a6 rfl;have y5:=zA (i:=5) a6 rfl;have yl:=lt_of_block a6;have t1:=zA (i:=1) a7.hb rfl;have p5:=lt_of_block a7.hb
     have b6:ol.length=j:=by
      have h1:=congrArg List.length HJ.out.2;rw[Nr,Oc] at h1;omega
     have c3:W10.ownsRow f1 76 6 (.slice oa j oc) j (ol.flatMap zU):=by
      have h1:=a7.rows.own (re (.slice oa j oc) ol) (.tail _ (.tail _ (.head _)));unfold re at h1;simp only at h1;rw[b6] at h1;exact h1
     have l8:=a7.sz;have a0:=Ja (Jb a7 (Jb c3 b6));obtain⟨ik,g8,e7,e6,e5⟩:=info_parts Tryz.info_irop;clear a7 c3 b6 a6 i5 z5 p1 j5 j4 h8;have b8:yM (W10.alloc (T (D o a2 a1) 76)) 6 (F W10.heap.size 1 1) 1 (zU (o,.slice a2 o.args.length a1)):=yM.cells (zI rfl) rfl (by simp[zU,Value.oneCell']);have l7:=Ja b8;clear b8;go_wp2_with (at_builtin;go_must (refine zK _ rfl (.tmp 55) (.tmp 57) 77 rfl f1 76 ik (.agg #[I 0,I 0,I 0,I 0,U 0,L]) 6 64 Tryz.underlying77 g8 e7 e6 e5 rfl Zd (.slice oa j oc) j (ol.flatMap zU) rfl (a0.out.2.1.alloc _) _ 1 (zU (o,.slice a2 o.args.length a1)) rfl l7.out (by unfold maxLen;omega) Zo Zt ?_;intro v11 w11 m h a5;obtain⟨e4,e1,rfl⟩:=zG m;have a3:=zL h (zB a0.out.1.hb) (zC a0.out.2.1 a0.out.1.hb (.inr Zd));have u5:=zA (i:=1) a3 rfl;have p9:N w11 tb 1:=zE a3;have p8:=lt_of_block a3;have a4:=Ja (Jb m (Jb h a5));clear m h a5 a3))
     go_roundw
     case rel=>
      refine⟨j+1,ol++ [(o,.slice a2 o.args.length a1)],e4,e1,f2,by go_num,Ja ⟨?_,?_⟩⟩
      ·exact a0.out.1.op ((Below.refl _ _).alloc (Je _) _) a4.out.2.1 (by show w11.ownsRow f1 76 6 _ (ol.length+1) _;rw[a0.out.2.2];exact a4.out.1) (fun x e=>a4.out.2.2.elim (fun e2=> .inl (e2.symm.trans e)) (fun e2=> .inr (by have e3:=e2.symm.trans e;simp at e3;omega)))
      ·rw[Js,HJ.out.2,Nh,h6.out.1];rfl
     case measure=>simp[intOf];omega
    ·obtain rfl:j=b.ops.length:=by omega
     have l1:¬(b.ops.length:Int)<(b.ops.length:Int):=Zo;have n0:ol.map (·.1)=b.ops:=by rw[HJ.out.2,Nl]
     obtain⟨bt2,i4⟩:∃bt2:BT,{bt1 with ops:=ol,ov:=.slice oa b.ops.length oc }=bt2:=⟨_,rfl⟩
     have d3:=HJ.out.1;rw[i4] at d3;have j1:bt2.tos=[]/\bt2.tv=L/\bt2.params=b.params/\bt2.ops=ol:=by rw[<-i4,<-p0.out];exact⟨rfl,rfl,rfl,rfl⟩
     have w2:=zA (i:=2) d3.hb rfl;have w3:=zA (i:=3) d3.hb rfl;have w4:=zA (i:=4) d3.hb rfl;have wf:∀i,N wr tb i:=fun i=>zE d3.hb
     have wl:=lt_of_block d3.hb;have H2:=Ja (Jb d3 (Jb j1 n0));have q9:q2c=q2c:=rfl;clear hj HJ d3 i4 j1 n0 c2 a9 a8 b5 g6 f2 q9;go_upto_region 14 with fail
     go_cut [] (fun wx=>Hid (OfMid w f1 r2 g3 tb (.slice (some ⟨bb,bo,none⟩) blocks.length fc) (.slice ga k gc) {bt2 with kind:=b.term.kind,a:=b.term.a } l [] wx))
     case first=>
      refine zt 16 Zk Zk ?_;simp only[Qo,Uc,Qp,Ui]
      repeat (go_big_quiet_step (fail))
      refine wpQuiet_nil ?_;go_wp2;go_meet;refine Ja (OfMid.below ?_ (Below.refl _ _).drew);have k1:=H2.out.1.set (i:=2) (u:=I b.term.kind) (bt':= {bt2 with kind:=b.term.kind }) rfl rfl;have k2:=k1.set (i:=3) (u:=I b.term.a) (bt':= {bt2 with kind:=b.term.kind,a:=b.term.a }) rfl rfl;exact k2.set (i:=4) (u:=L) (bt':= {bt2 with kind:=b.term.kind,a:=b.term.a }) (by unfold zz;rw[H2.out.2.1.2.1];rfl) rfl
     case rest=>
     have k9:=hcut.out;obtain⟨bt3,i3⟩:∃bt3:BT,{bt2 with kind:=b.term.kind,a:=b.term.a }=bt3:=⟨_,rfl⟩
     rw[i3] at k9;have f5:bt3.tos=[]/\bt3.tv=L/\bt3.params=b.params/\bt3.ops=ol/\bt3.kind=b.term.kind/\bt3.a=b.term.a:=by rw[<-i3];exact⟨H2.out.2.1.1,H2.out.2.1.2.1,H2.out.2.1.2.2.1,H2.out.2.1.2.2.2,rfl,rfl⟩
     have t3:=Ja (show OfMid w f1 r2 g3 tb (.slice (some ⟨bb,bo,none⟩) blocks.length fc) (.slice ga k gc) {bt3 with tos:=[],tv:=L } l [] wc/\([]:List (IEdge×Value)).map (·.1)=b.term.to.take 0 from⟨by
      have e:({bt3 with tos:=[],tv:=L }:BT)=bt3:=by
       obtain⟨x1,x2,x3,x4,x5,x6,x7,x8⟩:=bt3;obtain⟨h1,h2,_⟩:=f5;simp only at h1 h2;rw[h1,h2]
      rw[e]
      exact k9,rfl⟩)
     have j3:=Ja f5;clear k9 i3 f5 hcut w2 w3 w4 wf wl e0 el q0 q1 q2c i6 q4 f7;go_wp2
     go_loopw [9] (fun jv wx=>∃(j:Nat) (tl:List (IEdge×Value)) (ta:Option Addr) (tc:Nat),j<=b.term.to.length/\jv=I j/\Hid (OfMid w f1 r2 g3 tb (.slice (some ⟨bb,bo,none⟩) blocks.length fc) (.slice ga k gc) {bt3 with tos:=tl,tv:=.slice ta j tc } l [] wx/\tl.map (·.1)=b.term.to.take j)) (fun jv _=>b.term.to.length-(intOf jv).toNat)
     case atStart=>exact⟨0,[],none,0,Jt _,rfl,t3⟩
     case round=>
      obtain⟨j,c7,ta,tc,hj,rfl,HJ⟩:=hrel;have e0:=zA (i:=0) HJ.out.1.h1 rfl;have el:=lt_of_block HJ.out.1.h1;obtain⟨b5,o5⟩:=j2.out _ HJ.out.1.bel;obtain⟨b2,o2,i1,_,q2c,i6,g6,q2,ov2,p4,q0,q1,q4,c2,a9,a8⟩:=b5.get HB.out.1;cases i1;obtain⟨sa2,sc2,rfl,t8,t7⟩:=a8.form;have f7:bb<wr.heap.size:=Zo
      by_cases f2:j<b.term.to.length
      ·have l1:(j:Int)<(b.term.to.length:Int):=Zo;obtain⟨o,ho⟩:∃o,b.term.to[j]? =some o:=⟨_,Jd f2⟩
       obtain⟨ob,oo,k7,o0,y0,f8,yv,y1,e8⟩:=a8.get ho;obtain⟨ya,yc,rfl,q5,q3⟩:=e8.form;subst k7;have n9:ob<wr.heap.size:=Zo;have l9:=(HB.out.2.2.2 o (Ji ho))
       obtain⟨q,hq⟩:∃q,wr.heap.size=q:=⟨_,rfl⟩
       have c5:O wr (wr.alloc (T #[I o.block,.slice ya o.args.length yc] 79)):=(Below.refl _ _).alloc (Je _) _;have b0:=zI (W:=wr) (o:=T #[I o.block,.slice ya o.args.length yc] 79) hq;have b9:=zY.src (e8.below zO (c5.mono o5));have h6:=Ja (Jb ho (Jb f8 hq));clear c2 a9 a8 b5 q0 q1 q2c i6 g6 ho f8 e8;go_upto_region 20 with fail;generalize l5:wr.alloc (T #[I o.block,.slice ya o.args.length yc] 79)=W6 at *;have z1:=zA (i:=1) b0 rfl;have p3:N W6 q 1:=zE b0;have zl:=lt_of_block b0;have c4:W6.ownsRow f1 3 1 (L) 0 []:=Jv _ _ _ _;have o3:f1<=W6.heap.size:=Jn HJ.out.1.sz c5.size;have b4:=Ja (Jb b0 (Jb b9 (Jb c4 c5)));obtain⟨ij,f4,d2,d1,c9⟩:=info_parts Tryz.info_int;clear b0 b9 c4 c5 l5 y0 y1;go_upto_region 21 with(at_builtin;go_must (refine zK _ rfl (.tmp 98) (.tmp 100) 22 rfl f1 3 ij (I 0) 1 8 Tryz.underlying22 f4 d2 d1 c9 rfl Zd (L) 0 [] rfl b4.out.2.2.1 (.slice ya o.args.length yc) o.args.length (o.args.map zN) rfl b4.out.2.1 (by unfold maxLen;omega) Zo Zo ?_;intro v9 w9 d t y;obtain⟨a2,a1,rfl⟩:=zG d;have b1:=zL t b4.out.1 (by simp[Value.ownBlock]);have j5:=zA (i:=1) b1 rfl;have j4:N w9 q 1:=zE b1;have h8:=lt_of_block b1;have c8:=Ja (Jb d (Jb t (Jb y b1)));clear d t y b1))
       have a7:OfMid w f1 r2 g3 tb (.slice (some ⟨bb,bo,none⟩) blocks.length fc) (.slice ga k gc) {bt3 with tos:=c7,tv:=.slice ta j tc } l [zP (.slice a2 o.args.length a1) o.args] (w9.setCell ⟨q,1,none⟩ (.slice a2 o.args.length a1)):=by
        have d:=c8.out.1;have y:=c8.out.2.2.1;rw[Ng,Op] at d;rw[Ng] at y;refine HJ.out.1.arg2 b4.out.2.2.2 c8.out.2.1 d (fun x e=>?_) ⟨by rw[h6.out.2.2];exact Je _,lt_of_block b4.out.1⟩ _;rcases y with e2|e2
        ·have e3:=e2.symm.trans e;simp[Value.ownBlock] at e3
        ·have e3:=e2.symm.trans e;simp at e3;omega
       have a6:=zD (i:=1) c8.out.2.2.2 (.slice a2 o.args.length a1);generalize i5:w9.setCell ⟨q,1,none⟩ (.slice a2 o.args.length a1)=W10 at *;have y0:=zA (i:=0) a6 rfl;have y1:=zA (i:=1) a6 rfl;have yl:=lt_of_block a6;have t4:=zA (i:=4) a7.hb rfl;have p5:=lt_of_block a7.hb
       have b6:c7.length=j:=by
        have h1:=congrArg List.length HJ.out.2;rw[Nr,Oc] at h1;omega
       have c3:W10.ownsRow f1 79 2 (.slice ta j tc) j (c7.flatMap za):=by
        have h1:=a7.rows.own (xg (.slice ta j tc) c7) (.tail _ (.tail _ (.tail _ (.head _))));unfold xg at h1;simp only at h1;rw[b6] at h1;exact h1
       have l8:=a7.sz;have a0:=Ja (Jb a7 (Jb c3 b6));obtain⟨ik,g8,e7,e6,e5⟩:=info_parts Tryz.info_edge;clear a7 c3 b6 a6 i5 z1 p3 j5 j4 h8;have b8:yM (W10.alloc (T #[I o.block,.slice a2 o.args.length a1] 79)) 2 (F W10.heap.size 1 1) 1 (za (o,.slice a2 o.args.length a1)):=yM.cells (zI rfl) rfl (by simp[za,Value.oneCell']);have l7:=Ja b8;clear b8;go_wp2_with (at_builtin;go_must (refine zK _ rfl (.tmp 105) (.tmp 107) 80 rfl f1 79 ik (.agg #[I 0,L]) 2 32 Tryz.underlying80 g8 e7 e6 e5 rfl Zd (.slice ta j tc) j (c7.flatMap za) rfl (a0.out.2.1.alloc _) _ 1 (za (o,.slice a2 o.args.length a1)) rfl l7.out (by unfold maxLen;omega) Zo Zt ?_;intro v11 w11 m h a5;obtain⟨e4,e1,rfl⟩:=zG m;have a3:=zL h (zB a0.out.1.hb) (zC a0.out.2.1 a0.out.1.hb (.inr Zd));have u4:=zA (i:=4) a3 rfl;have p9:N w11 tb 4:=zE a3;have p8:=lt_of_block a3;have a4:=Ja (Jb m (Jb h a5));clear m h a5 a3))
       go_roundw
       case rel=>
        refine⟨j+1,c7++ [(o,.slice a2 o.args.length a1)],e4,e1,f2,by go_num,Ja ⟨?_,?_⟩⟩
        ·exact a0.out.1.edge ((Below.refl _ _).alloc (Je _) _) a4.out.2.1 (by show w11.ownsRow f1 79 2 _ (c7.length+1) _;rw[a0.out.2.2];exact a4.out.1) (fun x e=>a4.out.2.2.elim (fun e2=> .inl (e2.symm.trans e)) (fun e2=> .inr (by have e3:=e2.symm.trans e;simp at e3;omega)))
        ·rw[Js,HJ.out.2,Nh,h6.out.1];rfl
       case measure=>simp[intOf];omega
      ·obtain rfl:j=b.term.to.length:=by omega
       have l1:¬(b.term.to.length:Int)<(b.term.to.length:Int):=Zo;have m4:c7.map (·.1)=b.term.to:=by rw[HJ.out.2,Nl]
       obtain⟨bt4,i2⟩:∃bt4:BT,{bt3 with tos:=c7,tv:=.slice ta b.term.to.length tc }=bt4:=⟨_,rfl⟩
       have b3:=HJ.out.1;rw[i2] at b3
       have l3:bt4.blk=b:=by
        rw[<-i2];unfold BT.blk;simp only;rw[j3.out.2.2.1,j3.out.2.2.2.1,j3.out.2.2.2.2.1,j3.out.2.2.2.2.2,H2.out.2.2,m4]
       have r0:=b3.rows.own (zP bt4.pv bt4.params) (.head _);have r1:=b3.rows.own (re bt4.ov bt4.ops) (.tail _ (.head _));have m1:=b3.rows.own (xg bt4.tv bt4.tos) (.tail _ (.tail _ (.head _)));obtain⟨g5,xc0,m3⟩:=zG r0;obtain⟨g2,xc1,f3⟩:=zG r1;obtain⟨f9,xc2,e9⟩:=zG m1;have k5:bt4.pv=.slice g5 bt4.params.length xc0:=m3;have k4:bt4.ov=.slice g2 bt4.ops.length xc1:=f3;have k3:bt4.tv=.slice f9 bt4.tos.length xc2:=e9;have l2:zz bt4=[.slice g5 bt4.params.length xc0,.slice g2 bt4.ops.length xc1,I bt4.kind,I bt4.a,.slice f9 bt4.tos.length xc2]:=by unfold zz;rw[k5,k4,k3]
       have d5:=b3.hb;rw[l2] at d5;have s0:=zA (i:=0) d5 rfl;have s1:=zA (i:=1) d5 rfl;have s2:=zA (i:=2) d5 rfl;have s3:=zA (i:=3) d5 rfl;have s4:=zA (i:=4) d5 rfl;have sl:=lt_of_block d5;have u2:=zA (i:=0) b3.h3 rfl;have w8:=lt_of_block b3.h3
       have l0:l.length=k:=by
        have h1:=congrArg List.length HK.out.2;rw[Nr,Oc] at h1;omega
       have j0:wr.ownsRow f1 84 5 (.slice ga k gc) k (l.flatMap zz):=by
        have h1:=b3.rows.own (zd (.slice ga k gc) l) (Qf [] (Qf bt4.rows (.head _)));unfold zd at h1;simp only at h1;rw[l0] at h1;exact h1
       have u1:=b3.sz;have d6:=Ja (Jb b3 (Jb j0 (Jb l0 (Jb l3 l2))));obtain⟨ik,g8,e7,e6,e5⟩:=info_parts Tryz.info_irblock;have i9:yM (wr.alloc (T #[.slice g5 bt4.params.length xc0,.slice g2 bt4.ops.length xc1,I bt4.kind,I bt4.a,.slice f9 bt4.tos.length xc2] 84)) 5 (F wr.heap.size 1 1) 1 [.slice g5 bt4.params.length xc0,.slice g2 bt4.ops.length xc1,I bt4.kind,I bt4.a,.slice f9 bt4.tos.length xc2]:=yM.cells (zI rfl) rfl (by simp[Value.oneCell']);have t2:=Ja i9;clear b3 j0 l0 l3 l2 d5 r0 r1 m1 m3 f3 e9 k5 k4 k3 i2 m4 hj HJ c2 a9 a8 b5 g6 f2 i9;go_wp2_with (at_builtin;go_must (refine zK _ rfl (.tmp 112) (.tmp 114) 37 rfl f1 84 ik (.agg #[L,L,I 0,I 0,L]) 5 88 Tryz.underlying37 g8 e7 e6 e5 rfl Zd (.slice ga k gc) k (l.flatMap zz) rfl (d6.out.2.1.alloc _) _ 1 [.slice g5 bt4.params.length xc0,.slice g2 bt4.ops.length xc1,I bt4.kind,I bt4.a,.slice f9 bt4.tos.length xc2] rfl t2.out (by unfold maxLen;omega) Zo Zt ?_;intro v11 w11 m h a5;obtain⟨e4,e1,rfl⟩:=zG m;have d7:=zL h (zB d6.out.1.h3) (zC d6.out.2.1 d6.out.1.h3 (.inr Zd));have w7:=zA (i:=0) d7 rfl;have w6:N w11 g3 0:=zE d7;have w5:=lt_of_block d7;have a4:=Ja (Jb m (Jb h a5));clear m h a5 d7))
       go_roundw
       case rel=>
        have r6:=d6.out.1.close ((Below.refl _ _).alloc (Je _) _) a4.out.2.1 (by rw[d6.out.2.2.1,d6.out.2.2.2.2];exact a4.out.1) (fun x e=>a4.out.2.2.elim (fun e2=> .inl (e2.symm.trans e)) (fun e2=> .inr (by have e3:=e2.symm.trans e;simp at e3;omega)));refine⟨k+1,l++ [bt4],e4,e1,n1,by go_num,Ja ⟨r6,?_⟩⟩;rw[Js,HK.out.2,Nh,HB.out.1]
        show _++ [bt4.blk]=_
        rw[d6.out.2.2.2.1];rfl
       case measure=>simp[intOf];omega
  ·obtain rfl:k=blocks.length:=by omega
   have o1:¬(blocks.length:Int)<(blocks.length:Int):=Zo;have d0:=zA (i:=0) HK.out.1.h3 rfl;have v5:=lt_of_block HK.out.1.h3;have e0:=zA (i:=0) HK.out.1.h2 rfl;have u0:=lt_of_block HK.out.1.h2;have ef:N wr r2 0:=zE HK.out.1.h2;go_wp2;have m2:=zD (i:=0) HK.out.1.h2 (.slice ga blocks.length gc);have x0:=zA (i:=0) m2 rfl;have u6:=lt_of_block m2;have n2:l.map BT.blk=blocks:=by rw[HK.out.2,Nl]
   have i0:=HK.out.1.ges
   have m7:Rows (wr.setCell ⟨r2,0,none⟩ (.slice ga blocks.length gc)) f1 (zd (.slice ga blocks.length gc) l::l.flatMap BT.rows):=by
    refine HK.out.1.rows.keep fun q hq=>Below.heap_setCell _ _ _ _ (fun e=>?_)
    obtain⟨x,hx,q6⟩:=Nj.1 hq;have e':q=r2:=e;subst e';exact zC (HK.out.1.rows.own x hx) HK.out.1.h2 (.inr (lG x hx)) q6
   have h0:Below f1 w (wr.setCell ⟨r2,0,none⟩ (.slice ga blocks.length gc)):=HK.out.1.bel.setCell (by show f1<=r2;omega) _;have HE:=Ja (Jb n2 (Jb m7 h0));have d4:=t6.out;clear n2 m7 h0;refine bodyPost_ret (v:=.agg #[.slice ga blocks.length gc]) ?_ rfl ?_
   ·rw[zM rfl];go_simp
   ·refine⟨⟨l,.slice ga blocks.length gc⟩,ga,blocks.length,gc,rfl,rfl,HE.out.1,?_,?_⟩
    ·rw[d4];exact HE.out.2.1
    ·rw[d4];exact HE.out.2.2
def uS (q2:Int):Nat:=(q2%65536).toNat
def l6 (q0:Int):Nat:=(q0%20).toNat
def uk (p:IProg)(q1:Int):Nat:=if 0<p.funcs.length then(q1%65536).toNat%p.funcs.length else 0
def turnK (q1:Int)(n len:Nat):Nat:=((q1/65536%65536).toNat+n/64)%len
def lY (r:Nat):Nat:=if r=0 then 16392 else if r=1 then 24575 else if r=2 then 512 else 16896
def xV (m:Nat):ByteArray:=y9 (List.replicate m 0)
def hltB:IBlk:=⟨[],[],⟨5,0,[]⟩⟩
def lW (what:Nat)(q1:Int)(n:Nat)(g:List IBlk):List IBlk:=wD g (turnK q1 n g.length) (xh what n)
def rA (p:IProg)(what n f:Nat)(q1:Int):IProg:=
 if what=13 then {p with args:=p.args++ [(n:Int)%10-1]}
 else if what=14 then {p with entry:=(n:Int)%7-1 }
 else if what=15 then {p with handler:=(n:Int)%7-2 }
 else if what=16 then {p with data:=p.data++ [⟨(n:Int)%4-2,lY (n/4%4),n/16%4⟩]}
 else if what=17 then {p with banks:=p.banks++ [xV (4096-n%3/2)]}
 else if what=18 then {p with funcs:=wD p.funcs f fun g=>if g.length=0 then g else g++ [hltB]}
 else {p with funcs:=wD p.funcs f (lW what q1 n)}
def wR (p:IProg)(q0 q1 q2:Int):IProg:=rA p (l6 q0) (uS q2) (uk p q1) q1
theorem yt (n:Int):bits .and .i64 n 65535=n%65536:=by
 have h:(BitVec.ofInt 64 65535).toNat=2^16-1:=by decide
 have c:(BitVec.ofInt 64 n &&& BitVec.ofInt 64 65535).toNat=(n%((2^64:Nat):Int)).toNat%2^16:=by
  rw[BitVec.toNat_and,BitVec.toNat_ofInt,h,Nat.and_two_pow_sub_one_eq_mod]
 show IntKind.i64.wrap ((BitVec.ofInt 64 n &&& BitVec.ofInt 64 65535).toNat:Nat)=n%65536
 rw[c,IntKind.wrap_i64];omega
theorem turnN_lt (q2:Int):uS q2<65536:=by unfold uS;omega
theorem turnW_lt (q0:Int):l6 q0<20:=by unfold l6;omega
structure TuMid (w:World) (p1 o5:Nat) (q0 q1 q2:Int) (t:PT) (wx:World):Prop where
 hq:wx.heap[p1+1]? =some (.cells #[.int .i64 q0,.int .i64 q1,.int .i64 q2] 23 (0,0))
 hr:wx.heap[p1+1+1]? =some (.cells #[.slice none 0 0,.slice none 0 0,.int .i64 0,.int .i64 0,.slice none 0 0,.slice none 0 0] 29 (0,0))
 ho:wx.heap[o5]? =some (.cells (zW t).toArray 29 (0,0))
 bel:Below p1 w wx
 base:p1=w.heap.size
 rows:Rows wx (p1+1+1+1) t.rows
 ge:p1+1+1<o5
section
variable {w:World} {p1 o5:Nat} {q0 q1 q2:Int} {t:PT} {wx:World} (h:TuMid w p1 o5 q0 q1 q2 t wx)
include h
theorem TuMid.lt:p1+1+1<wx.heap.size:=lt_of_block h.hr
theorem TuMid.far {b:Nat}{cs:Array Value}(hb:Q wx b cs 29):b ∉ t.rows.filterMap Row.blk:=fun hk=>by
 obtain⟨x,d,c⟩:=Nj.1 hk;exact zC (h.rows.own x d) hb (.inr (vr x d)) c
theorem TuMid.farO:o5 ∉ t.rows.filterMap Row.blk:=h.far h.ho
theorem TuMid.below {w':World}(hb:O wx w'):TuMid w p1 o5 q0 q1 q2 t w':=
 ⟨zH hb h.hq (lt_of_block h.hq),zH hb h.hr (lt_of_block h.hr),zH hb h.ho (lt_of_block h.ho),h.bel.trans (hb.mono (by have:=h.lt;omega)),h.base,h.rows.below hb,h.ge⟩
theorem TuMid.set {i:Nat}{u:Value}{t':PT}(c:(zW t).set i u=zW t')(hr:t'.rows=t.rows):TuMid w p1 o5 q0 q1 q2 t' (wx.setCell ⟨o5,i,none⟩ u):=by
 have hg:=h.ge;refine⟨zR h.hq (by show p1+1≠o5;omega),zR h.hr (by show p1+1+1≠o5;omega),by rw[zD h.ho,<-c];simp,h.bel.setCell (by show p1<=o5;omega) _,h.base,?_,h.ge⟩;rw[hr];exact h.rows.keep fun k hk=>Below.heap_setCell _ _ _ _ (fun e=>h.farO (by have e':k=o5:=e;rw[<-e'];exact hk))
theorem TuMid.sub {w':World}{t':PT}{rs:List Row}(c:Chg wx rs w')(hs:∀k,k∈rs.filterMap Row.blk->k∈t.rows.filterMap Row.blk)(g:zW t'=zW t)(hr:Rows w' (p1+1+1+1) t'.rows):TuMid w p1 o5 q0 q1 q2 t' w':=by
 have d:∀k,k∈t.rows.filterMap Row.blk->p1+1+1+1<=k:=fun k hk=>(h.rows.lt hk).1
 have i:=h.ge;have keep:∀k,k<wx.heap.size->k<p1+1+1+1->w'.heap[k]? =wx.heap[k]?:=fun k hk hl=>c.kept k hk (fun e=>by have:=d k (hs k e);omega)
 refine⟨(keep _ (lt_of_block h.hq) Zo).trans h.hq,(keep _ (lt_of_block h.hr) Zo).trans h.hr,?_,?_,h.base,hr,h.ge⟩
 ·rw[g];exact(c.kept _ (lt_of_block h.ho) (fun e=>h.farO (hs _ e))).trans h.ho
 ·have hl:=h.lt;exact h.bel.trans ⟨c.os,c.tape,c.output,c.size,fun k hk=>keep k Zo Zo⟩
theorem TuMid.grow {w1 w9:World}{r r':Row}{rs:List Row}{t':PT}{i:Nat}{u:Value}(hp:t.rows.Perm (r::rs))(c:O wx w1)(hg:w1.grownBy w9 r.blk)
 (g:w9.ownsRow (p1+1+1+1) r'.e r'.sz r'.v r'.n r'.cs) (o:∀k,r'.blk=some k->r.blk=some k∨wx.heap.size<=k) (hq:(r'::rs).Perm t'.rows) (y:(zW t).set i u=zW t'):TuMid w p1 o5 q0 q1 q2 t' (w9.setCell ⟨o5,i,none⟩ u):=by
 have a0:=h.ge;have hr:=h.rows.perm hp;have h2:=hr.grow c hg g o;have m:∀k,r.blk=some k->k∈t.rows.filterMap Row.blk:=fun k e=>Nj.2 ⟨r,hp.mem_iff.2 (.head _),e⟩
 have keep:∀k,k<wx.heap.size->(k<p1+1+1+1∨k=o5)->w9.heap[k]? =wx.heap[k]?:=fun k hk hl=>(hg.block k (Jy hk c.size) (fun e=>by
  have q:=m k e.symm;rcases hl with hl|rfl
  ·have:=(h.rows.lt q).1;omega
  ·exact h.farO q)).trans (c.block k hk)
 have d:Q w9 o5 (zW t).toArray 29:=(keep _ (lt_of_block h.ho) (.inr rfl)).trans h.ho;refine⟨(zR ((keep _ (lt_of_block h.hq) (.inl Zo)).trans h.hq) (by show p1+1≠o5;omega)),(zR ((keep _ (lt_of_block h.hr) (.inl Zo)).trans h.hr) (by show p1+1+1≠o5;omega)),by rw[zD d,<-y];simp,?_,h.base,?_,h.ge⟩
 ·have hl:=h.lt;refine Below.setCell (h.bel.trans ⟨hg.os.trans c.os,hg.tape.trans c.tape,hg.output.trans c.output,Jn c.size hg.size,fun k hk=>keep k Zo (.inl Zo)⟩) (by show p1<=o5;omega) _
 ·have h3:=h2.perm hq;refine h3.keep fun k hk=>Below.heap_setCell _ _ _ _ (fun e=>?_)
  have e':k=o5:=e;subst e';obtain⟨x,l,j⟩:=Nj.1 hk;exact zC (h3.own x l) d (.inr (vr x l)) j
end
theorem uf {α β:Type}(f:α->List β){l:List α}{k:Nat}{b:α}(hk:l[k]? =some b):(l.flatMap f).Perm (f b++(l.eraseIdx k).flatMap f):=by
 obtain⟨c,hb⟩:=Jh.1 hk
 have e1:l=l.take k++b::l.drop (k+1):=by
  rw[<-hb,Ue,Qi]
 rw[List.eraseIdx_eq_take_drop_succ]
 conv=>lhs;rw[e1]
 classical
 refine Jp.2 fun y=>?_
 simp only[Nx,Qa,Nb];omega
theorem abO {α β:Type}(f:α->List β){l:List α}{k:Nat}(hk:k<l.length)(a:α):((l.set k a).flatMap f).Perm (f a++(l.eraseIdx k).flatMap f):=by
 have h:=uf f (l:=l.set k a) (k:=k) (b:=a) (by rw[Nn hk]);rw[List.eraseIdx_set_eq] at h;exact h
def PT.but (t:PT)(f:Nat):List Row:=wY t.fv t.funcs::zP t.av t.args::vK t.dv t.data::v8 t.bv t.banks::(t.funcs.eraseIdx f).flatMap FT.rows
theorem PT.rows_at {t:PT}{f:Nat}{ft:FT}(hf:t.funcs[f]? =some ft):t.rows.Perm (ft.rows++t.but f):=by
 have h:=uf FT.rows hf
 classical
 have c:=Jp.1 h;unfold PT.rows PT.but;refine Jp.2 fun y=>?_
 have:=c y;simp only[Nb,Nf] at this ⊢;omega
theorem PT.rows_set {t:PT}{f:Nat}(hf:f<t.funcs.length)(ft:FT):({t with funcs:=t.funcs.set f ft }:PT).rows.Perm (ft.rows++(wY t.fv (t.funcs.set f ft)::zP t.av t.args::vK t.dv t.data::v8 t.bv t.banks::(t.funcs.eraseIdx f).flatMap FT.rows)):=by
 have h:=abO FT.rows hf ft
 classical
 have c:=Jp.1 h;unfold PT.rows;refine Jp.2 fun y=>?_
 have:=c y;simp only[Nb,Nf] at this ⊢;omega
theorem jY {t:PT}{f:Nat}{ft ft':FT}(hf:t.funcs[f]? =some ft)(hb:ft'.bv=ft.bv):wY t.fv (t.funcs.set f ft')=wY t.fv t.funcs:=by
 unfold wY;rw[Nd,vQ hf hb]
theorem FT.rows_at {ft:FT}{i:Nat}{bt:BT}(hi:ft.blks[i]? =some bt):ft.rows.Perm (zd ft.bv ft.blks::(bt.rows++(ft.blks.eraseIdx i).flatMap BT.rows)):=(uf BT.rows hi).cons _
theorem FT.rows_set {ft:FT}{i:Nat}(hi:i<ft.blks.length)(bt:BT):({ft with blks:=ft.blks.set i bt }:FT).rows.Perm (zd ft.bv (ft.blks.set i bt)::(bt.rows++(ft.blks.eraseIdx i).flatMap BT.rows)):=(abO BT.rows hi bt).cons _
theorem TuMid.block {w:World}{p1 o5:Nat}{q0 q1 q2:Int}{t:PT}{wx:World}(h:TuMid w p1 o5 q0 q1 q2 t wx){f i g:Nat}{ft:FT}{bt:BT}(hf:t.funcs[f]? =some ft)(hi:ft.blks[i]? =some bt)(hg:ft.bv.ownBlock=some g):
 SpSt wx (p1+1+1+1) g i ft.bv bt ft.blks ((ft.blks.eraseIdx i).flatMap BT.rows++t.but f):=by
 refine⟨h.rows.perm ?_,hi,hg⟩;refine(PT.rows_at hf).trans ?_;have h1:=(FT.rows_at hi).append_right (t.but f);refine h1.trans ?_;rw[List.cons_append,Nv]
theorem TuMid.unblock {w:World}{p1 o5:Nat}{q0 q1 q2:Int}{t:PT}{wx w':World}(h:TuMid w p1 o5 q0 q1 q2 t wx){f i g:Nat}{ft:FT}{bt bt':BT}(hf:t.funcs[f]? =some ft)(hi:ft.blks[i]? =some bt)
 (hs:SpSt w' (p1+1+1+1) g i ft.bv bt' (ft.blks.set i bt') ((ft.blks.eraseIdx i).flatMap BT.rows++t.but f)) (l:Chg wx (zd ft.bv ft.blks::bt.rows) w'):
 TuMid w p1 o5 q0 q1 q2 {t with funcs:=t.funcs.set f {ft with blks:=ft.blks.set i bt' }} w':=by
 have j:=(Jh.1 hf).1;have d:=(Jh.1 hi).1;have hp:=((PT.rows_at hf).trans ((FT.rows_at hi).append_right (t.but f)))
 refine h.sub (t':= {t with funcs:=t.funcs.set f {ft with blks:=ft.blks.set i bt' }}) l (fun k hk=>?_) rfl (hs.rows.perm ?_)
 ·obtain⟨x,c,e⟩:=Nj.1 hk;refine Nj.2 ⟨x,hp.mem_iff.2 ?_,e⟩;rw[List.cons_append,Nv];rcases Jq.1 c with rfl|c
  ·exact .head _
  ·exact .tail _ (Jz _ c)
 ·have h2:=PT.rows_set j ({ft with blks:=ft.blks.set i bt' }:FT);rw[jY hf (ft':= {ft with blks:=ft.blks.set i bt' }) rfl] at h2;have h3:=(FT.rows_set d bt').append_right (t.but f);rw[List.cons_append,Nv] at h3;exact(h2.trans h3).symm
theorem pD {α:Type}{l:List α}{i:Nat}{g:α->α}(h:∀x,l[i]? =some x->g x=x):wD l i g=l:=by
 unfold wD
 split
 ·rename_i x c
  rw[h x c];apply Oq;intro q;rw[Ov]
  split
  ·rename_i e
   subst e;rw[c,if_pos (Jh.1 c).1]
  ·rfl
 ·rfl
theorem uw {p:IProg}{what n f:Nat}{q1:Int}(c:what=18∨what<=12∨what=19)(h:∀g,p.funcs[f]? =some g->g.length=0):rA p what n f q1=p:=by
 unfold rA;rw[if_neg Zo,if_neg Zo,if_neg Zo,if_neg Zo,if_neg Zo]
 split
 ·rw[pD (fun g hg=>if_pos (h g hg))]
 ·rw[pD (fun g hg=>?_)];unfold lW;rw[Nz (h g hg)];rfl
def btH:BT:=⟨[],L,[],L,5,0,[],L⟩
theorem kZ {w:World}{B:Nat}{t:PT}(h:Rows w B t.rows):w.ownsRow B 39 1 t.fv t.funcs.length (t.funcs.flatMap fun f:FT=> [f.bv]):=by
 rw[<-Qh];exact h.own (wY t.fv t.funcs) (.head _)
theorem kj {w:World}{B:Nat}{t:PT}(h:Rows w B t.rows){fb f:Nat}{ft:FT}(hb:t.fv.ownBlock=some fb)(hf:t.funcs[f]? =some ft):A w fb f ft.bv/\N w fb f/\fb<w.heap.size:=by
 have h1:=kZ h;have h2:=z9 (f:=fun f:FT=> [f.bv]) (n:=1) (fun _=>rfl) h1 hb hf 0 _ rfl;have h3:=zq (n:=1) Zd (f:=fun f:FT=> [f.bv]) (fun _=>rfl) h1 hb hf 0 Zd;rw[Nk] at h2 h3;exact⟨h2,h3.2,(h1.lt fb hb).2⟩
theorem TuMid.addB {w:World}{p1 o5:Nat}{q0 q1 q2:Int}{t:PT}{wx w1 w9:World}(h:TuMid w p1 o5 q0 q1 q2 t wx){f fb:Nat}{ft:FT}{v':Value}(hf:t.funcs[f]? =some ft)(c:t.fv.ownBlock=some fb)(i:O wx w1)(hg:w1.grownBy w9 ft.bv.ownBlock)
 (l:w9.ownsRow (p1+1+1+1) 84 5 v' (ft.blks.length+1) (ft.blks.flatMap zz++zz btH)) (x:∀k,v'.ownBlock=some k->ft.bv.ownBlock=some k∨wx.heap.size<=k):
 TuMid w p1 o5 q0 q1 q2 {t with funcs:=t.funcs.set f ⟨ft.blks++ [btH],v'⟩} (w9.setCell ⟨fb,f,none⟩ v'):=by
 have o:=(Jh.1 hf).1;have d:=PT.rows_at hf
 have h2:=(h.rows.perm d).grow (r':=zd v' (ft.blks++ [btH])) i hg (by
  show w9.ownsRow _ _ _ _ (ft.blks++ [btH]).length ((ft.blks++ [btH]).flatMap zz)
  rw[Jk,Nx]
  exact l) x
 have a0:∀(r:Row),r.blk=none->∀g,r.blk=some g->g ∉ (zd v' (ft.blks++ [btH])::(ft.blks.flatMap BT.rows++t.but f)).filterMap Row.blk:=fun r e g e2=>by rw[e] at e2;cases e2
 have h3:Rows w9 (p1+1+1+1) (zP (L) []::re (L) []::xg (L) []::(zd v' (ft.blks++ [btH])::(ft.blks.flatMap BT.rows++t.but f))):=by
  refine((h2.cons (Jv _ _ _ _) ?_).cons (Jv _ _ _ _) ?_).cons (Jv _ _ _ _) ?_
  all_goals (intro g e;cases e)
 have h4:=h3.perm (rs':=wY t.fv t.funcs::(zd v' (ft.blks++ [btH])::((ft.blks++ [btH]).flatMap BT.rows++(zP t.av t.args::vK t.dv t.data::v8 t.bv t.banks::(t.funcs.eraseIdx f).flatMap FT.rows)))) (by
  classical
  unfold PT.but;rw[Nx]
  show List.Perm _ (_::_::((_++([zP (.slice none 0 0) [],re (.slice none 0 0) [],xg (.slice none 0 0) []]++ []))++_))
  refine Jp.2 fun y=>?_
  simp only[Nb,Nf,List.count_nil]
  omega)
 have h5:=h4.put (g:=fb) (r':=wY t.fv (t.funcs.set f ⟨ft.blks++ [btH],v'⟩)) (w':=w9.setCell ⟨fb,f,none⟩ v') c (fun k hk=>Below.heap_setCell _ _ _ _ hk) (by
  have h6:w9.ownsRow (p1+1+1+1) 39 1 t.fv t.funcs.length (t.funcs.flatMap fun f:FT=> [f.bv]):=by
   rw[<-Qh];exact h4.own (wY t.fv t.funcs) (.head _)
  have h7:=yp (f:=fun f:FT=> [f.bv]) (n:=1) (fun _=>rfl) h6 c hf (j:=0) (u:=v') (a:=⟨ft.blks++ [btH],v'⟩) Zd rfl;rw[Nk,Uk,<-Qh] at h7
  show(w9.setCell ⟨fb,f,none⟩ v').ownsRow (p1+1+1+1) 39 1 t.fv (t.funcs.set f _).length _
  rw[Nd]
  exact h7) rfl
 have q:zd ft.bv ft.blks∈t.rows:=d.mem_iff.2 (.head _);have m:wY t.fv t.funcs∈t.rows:=.head _;refine h.sub (rs:=t.rows) (((Chg.below i).trans ((uY (r:=zd ft.bv ft.blks) hg).one q)).trans ((xJ (a:=⟨fb,f,none⟩) (r:=wY t.fv t.funcs) c).one m)) (fun k hk=>hk) rfl (h5.perm ?_);have h8:=PT.rows_set o (⟨ft.blks++ [btH],v'⟩:FT);refine List.Perm.trans ?_ h8.symm
 classical
 refine Jp.2 fun y=>?_
 unfold FT.rows;simp only[Nb,Nf];omega
theorem TuMid.farF {w:World}{p1 o5:Nat}{q0 q1 q2:Int}{t:PT}{wx:World}(h:TuMid w p1 o5 q0 q1 q2 t wx){f k:Nat}{ft:FT}(hf:t.funcs[f]? =some ft)(hk:ft.bv.ownBlock=some k):t.fv.ownBlock≠some k:=fun e=>by
 have h1:=(h.rows.perm (PT.rows_at hf)).apart (g:=k) hk;exact h1 (Nj.2 ⟨wY t.fv t.funcs,Qf _ (.head _),e⟩)
theorem szB_of {ft:FT}{bt:BT}(h1:bt.blk.params.length<=2000000/\bt.blk.ops.length<=2000000/\bt.blk.term.to.length<=2000000)(h2:jx ft.fn)(hm:bt.blk∈ft.fn):SzB bt:=by
 have h3:=h2 _ hm;refine⟨h1.1,by have:=h1.2.1;unfold BT.blk at this;simpa using this,by have:=h1.2.2;unfold BT.blk at this;simpa using this,fun o ho=>h3.1 o.1 (Oj ho),fun o ho=>h3.2 o.1 (Oj ho)⟩
end Go.Proofs.YtoahcpkibpomcaaGreat
