/- Part of a proof. -/
import Derived.Test.YtoahcpkibpomcaaGreatGLw3
set_option linter.all false
set_option maxHeartbeats 16000000
set_option maxRecDepth 100000
namespace Go.Proofs.YtoahcpkibpomcaaGreat
open Go.RowKit
variable {w w0:World}{K:MKC}{X0:Nat->Prop}{M M0:MS}{c:Nat}
theorem iQ {α:Type}{x a b:α}(h:x∈ [a,b]):x=a∨x=b:=by simpa using h
theorem jq {a b:Int}(c:I64 a)(hb:I64 b):∀x∈ [a,b],I64 x:=fun x h=>by
 rcases iQ h with rfl|rfl
 ·exact c
 ·exact hb
theorem lit_two{x y:Int}(d:I64 x)(c:I64 y)(X:Nat->Prop)(g:∀k,X k->k<w.heap.size):
 vT (w.alloc (G #[U x,L,U y,L] 79)) X (T w.heap.size 2 2) [⟨x,[]⟩,⟨y,[]⟩]:=by
 refine qt (l:=[((⟨x,[]⟩:IEdge),L),((⟨y,[]⟩:IEdge),L)]) (e:=79) (zI Zs) (fun e=>by have:=g _ e;omega) (fun q hq=>?_) Zs;rcases iQ hq with rfl|rfl
 ·exact⟨d,yE.nil⟩
 ·exact⟨c,yE.nil⟩
theorem OpSt.goto(h:OpSt w0 K X0 M0 c w M)(k:Nat)(hk:k<M.f.length):OpSt w0 K X0 M0 c (w.setCell ⟨K.pm,5,none⟩ (U k)) {M with cur:=k }:=by
 obtain⟨X,⟨fv,vv,l,hi⟩,hs⟩:=h.made;exact⟨⟨X,(hi.goto k).1.at,hs.trans (hi.goto k).2⟩,h.gr.trans (vk M k hk),hk⟩
theorem OpSt.facts(h:OpSt w0 K X0 M0 c w M):∃X fv vv l,MkIn w K X M fv vv l/\Stp X0 w0 X w:=by
 obtain⟨X,⟨fv,vv,l,hi⟩,hs⟩:=h.made;exact⟨X,fv,vv,l,hi,hs⟩
theorem OpSt.push(h:OpSt w0 K X0 M0 c w M)(x:Int){w':World}(d:∃X',wW w' K X' {M with vals:=M.vals++ [x]}/\Stp X0 w0 X' w'):OpSt w0 K X0 M0 (c+1) w' {M with vals:=M.vals++ [x]}:=by
 refine⟨d,h.gr.trans ⟨Je _,?_,Je _,Je _,Qb _ _,fun e=>e,Og _,fun e=>e,xU.refl _⟩,h.cur⟩;unfold MS.sz;simp only[Jk,Ju];omega
theorem loop_any{d:Nat}(hd:d<=5)(hP:sU d){X:Nat->Prop}(h:wW w K X M)(g2:M.cur<M.f.length)(hz:M.sz+(24+pC d)<=1000000):
 I 113 #[F K.pm,U ((d:Int)+1)] w (yk K X w (tH K.E (zp K.E d) M) (.tuple #[])):=by
 have HA:=Ja (OpSt.start h g2);have u:=Ja (Jb hz hP);clear h g2 hz hP;go_enter Tryz.func113,Tryz.ntmps113;go_upto_region 1 with(first|(go_at_call 55;go_must (refine(HA.out.take 5 Zd Zd (by have:=u.out.1;omega)).mono ?_;rintro e w1 ⟨z,qz,Hz,rfl,j1⟩))|(go_at_call 114;go_must (refine(j1.out.num z Zo (by have:=u.out.1;omega)).mono ?_;rintro e w2 ⟨rfl,i8⟩)))
 generalize f8:((M.tick.next:Nat):Int)=n0 at *;have f3:I64 n0:=by rw[<-f8];exact j1.out.n64
 have HN:=Ja (Jb f8 (Jb f3 Hz.out));obtain⟨MA,g5⟩:∃MA,M.tick.num z=MA:=⟨_,rfl⟩
 rw[g5] at i8;have q2:=Ja g5;clear g5 f8 f3 j1 HA;go_upto_region 2 with(go_at_call 58;go_must (refine(i8.out.any (by have:=u.out.1;omega)).mono ?_;rintro e w3 ⟨x,HX,rfl,b7⟩))
 obtain⟨MB,g4⟩:∃MB,(zJ K.E MA).2=MB:=⟨_,rfl⟩
 rw[g4] at b7;obtain⟨tg,c8⟩:∃tg,MB.f.length=tg:=⟨_,rfl⟩
 obtain⟨b1,l6⟩:∃b1,tg+1=b1:=⟨_,rfl⟩
 obtain⟨b2,l5⟩:∃b2,tg+2=b2:=⟨_,rfl⟩
 have h7:=b7.out.block 2 (by have:=u.out.1;omega);rw[c8] at h7;have j5:=b7.out.flen;rw[c8] at j5;have n8:=Ja h7;have l:=Ja (Jb g4 (Jb c8 (Jb l6 l5)));clear h7 g4 c8 l6 l5 i8;go_upto_region 3 with(go_at_call 56;go_must (refine n8.out.mono ?_;rintro e w4 ⟨rfl,a4⟩))
 have d9:=a4.out.block 0 (by have:=u.out.1;omega);rw[yz,l.out.2.1,l.out.2.2.1] at d9;have n7:=Ja d9;clear d9 n8;go_upto_region 4 with(go_at_call 56;go_must (refine n7.out.mono ?_;rintro e w5 ⟨rfl,m4⟩))
 have h6:=m4.out.block 0 (by have:=u.out.1;omega);rw[yz,yz,l.out.2.1,show tg+1+1=tg+2 from rfl,l.out.2.2.2] at h6;have n6:=Ja h6;clear h6 n7;go_upto_region 5 with(go_at_call 56;go_must (refine n6.out.mono ?_;rintro e w6 ⟨rfl,m3⟩))
 have n5:=Ja (m3.out.endN 1 0 [⟨(tg:Int),[n0,x]⟩] (T (w6.heap.size+1) 1 1) (yF _ rfl) (yF _ rfl) (((Below.refl _ _).alloc (Je _) _).alloc Zs _) (pj (w:=w6) (xs:=[n0,x]) (blk:=(tg:Int)) (jq HN.out.2.1 HX.out.1) Zs (vG _ Zo Zo)));clear n6;go_upto_region 6 with(go_at_call 59;go_must (refine n5.out.mono ?_;rintro e w7 ⟨rfl,i2⟩))
 obtain⟨M2,b6⟩:∃M2,(((MB.block 2).block 0).block 0).endB ⟨1,0,[⟨(tg:Int),[n0,x]⟩]⟩=M2:=⟨_,rfl⟩
 rw[b6] at i2;have b0:M2.f.length=tg+3:=by rw[<-b6,(zv _ _).len,yz,yz,yz,l.out.2.1]
 have f1:∃b,M2.f[tg]? =some b/\b.params=[((MB.next:Nat):Int),((MB.next+1:Nat):Int)]:=by
  have h0:(MB.block 2).f[tg]? =some (wJ MB.next 2):=by
   show(MB.f++ [wJ MB.next 2])[tg]? =_
   rw[Nc (by have:=l.out.2.1;omega),l.out.2.1,Qy];rfl
  obtain⟨c1,k1,k2⟩:=(xM (MB.block 2) 0).par _ _ h0;obtain⟨c2,k3,k4⟩:=(xM ((MB.block 2).block 0) 0).par _ _ k1;obtain⟨c3,k5,k6⟩:=(zv (((MB.block 2).block 0).block 0) ⟨1,0,[⟨(tg:Int),[n0,x]⟩]⟩).par _ _ k3;rw[b6] at k5;exact⟨c3,k5,k6.trans (k4.trans (k2.trans rfl))⟩
 obtain⟨X7,s2,vv7,l7,d2,p5⟩:=i2.out.facts;have q5:=lt_of_block d2.blk;have c5:=d2.c5;have f5:=d2.free 5;have a0:=i2.out.goto tg (by rw[b0];omega);have o5:=b7.out.next;have d4:=b7.out.n64;have d3:I64 ((MB.next+1:Nat):Int):=vG _ Zo (by have:=a4.out.next;show((MB.next+1:Nat):Int)<=1000000;have e:(MB.block 2).next=MB.next+2:=rfl;rw[e] at this;omega);have H2:=Ja (Jb b6 (Jb b0 (Jb a0 (Jb f1 (Jb d4 d3)))));clear b6 b0 f1 d2 p5 a0 o5 d4 d3 n5 a4 m4 m3;go_upto_region 7 with fail;generalize r6:w7.setCell ⟨K.pm,5,none⟩ (U tg)=W8 at *;obtain⟨M3,d8⟩:∃M3:MS,{M2 with cur:=tg }=M3:=⟨_,rfl⟩
 have H3:=H2.out.2.2.1;rw[d8] at H3;obtain⟨bk,g3,l4⟩:=H2.out.2.2.2.1;obtain⟨X8,s1,vv8,l8,j,k0⟩:=H3.facts;have g1:M3.f=M2.f:=by rw[<-d8]
 obtain⟨g,c,pa,pc,l2,r4,l3,c9⟩:=j.parAt (i:=tg) (b:=bk) (by rw[g1];exact g3);rw[l4] at l3 c9;obtain⟨bb,o,k7,r5,a1,_⟩:=c9 0 _ rfl;obtain⟨bb2,o2,f2,_,b5,_⟩:=c9 1 _ rfl;rw[k7] at f2;cases f2;rw[Uk] at a1;obtain⟨va,vc,e8⟩:=zG j.vown;have a7:=j.vown;have c4:=j.c4;have c7:=j.c7;have f7:=j.free 7;have e4:=lt_of_block j.blk;have r3:tg<l8.length:=by rw[j.len,g1];exact(Jh.1 g3).1
 have p8:=j.flen;rw[<-j.len] at p8;have nb:=zC a7 j.blk (.inr Zd);rw[e8] at a7 c7 nb;rw[l2] at c4;subst k7;generalize f6:((MB.next:Nat):Int)=n1 at a1;generalize f4:((MB.next+1:Nat):Int)=n2 at b5;have o9:=Ja a7;have q1:=Ja e8
 have r1:M3.vals.length<=999999:=by
  have h1:=j.bnd;have h2:M3.vals.length<=M3.sz:=by unfold MS.sz;omega
  have h3:=H3.gr.sz;have h4:=u.out.1;omega
 have m2:∀o,A (W8.alloc o) K.pm 7 (.slice va M3.vals.length vc):=fun o=>(Oo (w:=W8) (Below.heap_alloc _ _ _ e4)).trans c7
 have m1:∀o,N (W8.alloc o) K.pm 7:=fun o=>(Qm (w:=W8) (Below.heap_alloc _ _ _ e4)).trans f7
 have d9:K.B<=W8.heap.size:=j.size;obtain⟨ij,q0,o1,o0,n9⟩:=info_parts Tryz.info_int;have e9:I64 n2:=by rw[<-f4];exact H2.out.2.2.2.2.2
 have c0:I64 n1:=by rw[<-f6];exact H2.out.2.2.2.2.1
 have HP:=Ja (Jb d8 (Jb H3 (Jb j (Jb k0 (Jb f6 (Jb f4 (Jb c0 e9)))))));clear a7 e8 c9 l2 d8 H3 j k0 f6 f4 e9 c0 g3 l4 g1;go_upto_region 8 with fail
 go_cut [] (fun wx=>Hid (OpSt w K X M (1+3+4+(1+2)+(1+0)+(1+0)+1) wx {M3 with vals:=M3.vals++ [n2]}))
 case first=>
  go_region_law (first|(refine step_append_lies _ (by rfl) (.tmp 54) (.tmp 66) _ (by rfl) K.B 3 ij (U 0) 1 8 Tryz.underlying22 q0 o1 o0 n9 rfl Zo (.slice va M3.vals.length vc) M3.vals.length (M3.vals.map zN) (by rfl) ((o9.out.alloc _).drew) ⟨W8.heap.size,0,none⟩ 1 1 [U n2] (by rfl) (by rfl) (Oi (cs:=#[U n2]) (t:=3) (fr:=(0,0)) (heap_alloc_new W8 _)) (by simp[Value.oneCell']) Zo (by unfold maxLen;omega) Zo Zt (W8.heap.size+1) Zs ?_;intro gg o6 w3 j4 b3 m0 q6;have s4:=(b3.cell_far ⟨K.pm,7,none⟩ Zt (Ne.symm nb)).trans (m2 _);have s3:=(b3.frozen_far ⟨K.pm,7,none⟩ Zt (Ne.symm nb)).trans (m1 _)))
  all_goals go_wp2_with fail
  all_goals go_meet
  all_goals (
   have l1:=xN b3;rw[<-q1.out] at l1 m0
   have hP:=HP.out.2.2.1.putV (vv':=T gg (M3.vals.length+1) o6) (x:=n2) l1 j4 (fun k e=>by
    have e2:gg=k:=by simpa[Value.ownBlock] using e
    subst e2;rcases m0 with e3|e3
    ·exact .inl e3
    ·right;omega) HP.out.2.2.2.2.2.2.2 (by
    have h3:=HP.out.2.1.gr.sz;have h4:=u.out.1
    omega)
   exact Ja (HP.out.2.1.push n2 ⟨_,hP.1.at,HP.out.2.2.2.1.trans hP.2⟩))
 case rest=>
 obtain⟨M4,d7⟩:∃M4:MS,{M3 with vals:=M3.vals++ [n2]}=M4:=⟨_,rfl⟩
 rw[d7] at hcut;have d1:M4.f.length=tg+3:=by rw[<-d7,<-HP.out.1];exact H2.out.2.1
 have b8:I64 (b1:Int)/\I64 (b2:Int):=by
  have h1:=l.out.2.2.1;have h2:=l.out.2.2.2;exact⟨vG _ Zo (by have:=hcut.out.flen;omega),vG _ Zo (by have:=hcut.out.flen;omega)⟩
 have m7:=Ja (hcut.out.endN 2 n1 [⟨(b1:Int),[]⟩,⟨(b2:Int),[]⟩] (T wc.heap.size 2 2) (yF _ rfl) HP.out.2.2.2.2.2.2.1 ((Below.refl _ _).alloc (Je _) _) (lit_two b8.1 b8.2));have a4:=Ja (Jb d7 d1);clear d7 d1 b8 c4 c7 f7 m2 m1 nb e4 a1 b5 l3;go_upto_region 10 with(go_at_call 59;go_must (refine m7.out.mono ?_;rintro e w9 ⟨rfl,i1⟩))
 obtain⟨M5,d6⟩:∃M5,M4.endB ⟨2,n1,[⟨(b1:Int),[]⟩,⟨(b2:Int),[]⟩]⟩=M5:=⟨_,rfl⟩
 rw[d6] at i1;have d0:M5.f.length=tg+3:=by rw[<-d6,(zv _ _).len];exact a4.out.2
 obtain⟨X9,s0,vv9,l9,a2,p4⟩:=i1.out.facts;obtain⟨va9,vc9,e5⟩:=zG a2.vown;have c7:=a2.c7;rw[e5] at c7;have o3:=lt_of_block a2.blk;have c5:=a2.c5;have f5:=a2.free 5;have a0:=i1.out.goto b1 (by have:=l.out.2.2.1;omega);have H5:=Ja (Jb d6 (Jb d0 a0));clear d6 d0 a2 p4 e5 a0 m7;go_upto_region 12 with fail;generalize o4:w9.setCell ⟨K.pm,5,none⟩ (U b1)=W10 at *;obtain⟨M6,h5⟩:∃M6:MS,{M5 with cur:=b1 }=M6:=⟨_,rfl⟩
 have h9:=H5.out.2.2;rw[h5] at h9;have h8:=Ja (Jb (h9.part u.out.2 (by have:=u.out.1;omega)) h5);have p3:IntKind.i64.wrap ((d:Int)+1-1)=(d:Int):=by rw[Om _ Zo];omega
 clear h5 h9 o4 c5 f5 c7 o3;go_upto_region 13 with(go_at_call 57;go_must (refine h8.out.1.mono ?_;rintro e w11 ⟨rfl,b4⟩))
 clear p3;obtain⟨M7,g9⟩:∃M7,zp K.E d M6=M7:=⟨_,rfl⟩
 rw[g9] at b4;have i0:=Ja (b4.out.num 1 Zo (by have:=u.out.1;omega));have h64:=b4.out.n64;generalize l0:((M7.next:Nat):Int)=n3 at i0 h64;have e1:=Ja (Jb g9 (Jb l0 h64));clear g9 l0 h64;go_upto_region 14 with(go_at_call 114;go_must (refine i0.out.mono ?_;rintro e w12 ⟨rfl,b9⟩))
 have a5:=b9.out.emit 6 n1 n3 0 (yF _ rfl) HP.out.2.2.2.2.2.2.1 e1.out.2.2 Zo (by have:=u.out.1;omega);have e6:sB (M7.num 1) 6=((M7.next+1:Nat):Int):=rfl;rw[e6] at a5;have e0:=b9.out.n64;have e7:(M7.num 1).next=M7.next+1:=rfl;rw[e7] at e0;generalize k9:((M7.next+1:Nat):Int)=n4 at a5 e0;have a5:=Ja a5;have m6:=Ja (Jb k9 e0);clear k9 e0 e6 e7 i0 b4;go_upto_region 15 with(go_at_call 132;go_must (refine a5.out.mono ?_;rintro e w13 ⟨rfl,j0⟩))
 obtain⟨M8,g6⟩:∃M8,(M7.num 1).emit ⟨6,0,n1,n3,0,[]⟩=M8:=⟨_,rfl⟩
 rw[g6] at j0;have m5:=Ja g6;clear g6 a5 b9;have p1:=Ja (j0.out.any (by have:=u.out.1;omega));go_upto_region 16 with(first|(go_at_call 58;go_must (refine p1.out.mono ?_;rintro e w14 ⟨y,HY,rfl,p0⟩;have q3:=Ja (p0.out.endN 1 0 [⟨(tg:Int),[n4,y]⟩] (T (w14.heap.size+1) 1 1) (yF _ rfl) (yF _ rfl) (((Below.refl _ _).alloc (Je _) _).alloc Zs _) (pj (w:=w14) (xs:=[n4,y]) (blk:=(tg:Int)) (jq m6.out.2 HY.out.1) Zs (vG _ Zo Zo)))))|(go_at_call 59;go_must (refine q3.out.mono ?_;rintro e w15 ⟨rfl,i9⟩)))
 obtain⟨M9,d5⟩:∃M9,(zJ K.E M8).2.endB ⟨1,0,[⟨(tg:Int),[n4,y]⟩]⟩=M9:=⟨_,rfl⟩
 rw[d5] at i9;obtain⟨X15,q9,vv15,r0,m,f0⟩:=i9.out.facts;obtain⟨va15,vc15,j2⟩:=zG m.vown;subst j2;have c7:=m.c7;have f7:=m.free 7;have j3:=lt_of_block m.blk
 have g0:GrowP (0+pC d+3+3+4) M5 M9:=by
  have hE:=m.at.alt;have h1:=(vk M5 b1 (by have h1:=l.out.2.2.1;have h2:=H5.out.2.1;omega))
  rw[h8.out.2] at h1;have h2:=h1.trans (xw K.E hE d M6);rw[e1.out.1] at h2;have h3:=(h2.trans (wT M7 1).p).trans (yB (M7.num 1) ⟨6,0,n1,n3,0,[]⟩).p;rw[m5.out] at h3;have h4:=(h3.trans (yU K.E M8).p).trans (zv (zJ K.E M8).2 ⟨1,0,[⟨(tg:Int),[n4,y]⟩]⟩).p;rw[d5] at h4;exact h4
 have f9:M5.vals.length<=M9.vals.length:=dO g0.pre;have r2:M5.vals.length<=vc15:=Jn f9 (zm m.vown).1;have q7:vc15<=9223372036854775807:=by have:=(zm m.vown).2;omega
 have a3:=m.cut f9;have c5:=a3.1.c5;have f5:=a3.1.free 5;have a0:=a3.1.goto b2;have a6:=Ja (Jb a3.1 (Jb a3.2 (Jb a0 (Jb f0 (Jb d5 g0)))));clear m f9 a3 f0 d5 g0 a0;go_upto_region 17 with fail;generalize q8:w15.setCell ⟨K.pm,7,none⟩ (.slice va15 M5.vals.length vc15)=W16 at *;have q4:=lt_of_block a6.out.1.blk;clear c7 f7 j3;go_wp2
 first|go_end0|refine bodyPost_ret (results_none rfl _ _ _) rfl ?_
 refine⟨rfl,X15,?_,(a6.out.2.2.2.1.trans a6.out.2.1).trans a6.out.2.2.1.2⟩
 have e:tH K.E (zp K.E d) M= {M9 with vals:=M9.vals.take M5.vals.length,cur:=b2 }:=by
  unfold tH;simp only;have k1:((M.next:Nat):Int)=n0:=HN.out.1;have k4:({M2 with cur:=tg,vals:=M2.vals++ [n2]}:MS)=M4:=by rw[<-a4.out.1,<-HP.out.1]
  rw[HN.out.2.2,q2.out,HX.out.2,l.out.1,l.out.2.1,k1,H2.out.1,HP.out.2.2.2.2.2.1,k4,HP.out.2.2.2.2.1,l.out.2.2.1,l.out.2.2.2,H5.out.1,h8.out.2,e1.out.1,e1.out.2.1,m6.out.1,m5.out,HY.out.2,a6.out.2.2.2.2.1]
 rw[e];exact a6.out.2.2.1.1.at
def jx (blocks:List IBlk):Prop:=∀b∈blocks,(∀o∈b.ops,o.args.length<=2000000)/\∀e∈b.term.to,e.args.length<=2000000
theorem lG {v:Value}{l:List BT}:∀x∈zd v l::l.flatMap BT.rows,x.e≠39:=fun x c=>by
 rcases Jq.1 c with rfl|c
 ·show 84≠39;decide
 obtain⟨b,_,c⟩:=Qx.1 c;unfold BT.rows at c;rcases Jq.1 c with rfl|c
 ·show 3≠39;decide
 rcases Jq.1 c with rfl|c
 ·show 76≠39;decide
 rcases Jq.1 c with rfl|c
 ·show 79≠39;decide
 rcases Jl.1 c with c|c
 ·obtain⟨q,_,rfl⟩:=Nu.1 c
  show 3≠39;decide
 ·obtain⟨q,_,rfl⟩:=Nu.1 c
  show 3≠39;decide
theorem mA{B:Nat}{n7:Value}{blocks:List IBlk}(l8:wX w B n7 blocks)(hB:B<=w.heap.size)(hs:vZ blocks)(ha:jx blocks):
 I 44 #[.agg #[n7]] w (fun e w'=>∃(f:FT) (a:Option Addr) (n c:Nat),f.bv=.slice a n c/\e=.returned (.agg #[.slice a n c])/\f.fn=blocks/\Rows w' w.heap.size f.rows/\Y w w'):=by
 obtain⟨fa,fc,rfl,w8,w7⟩:=l8.form;have w5:=hs.1;have h7:=Ja (Jb l8 (Jb hB (Jb hs ha)));obtain⟨f1,d6⟩:∃f1,w.heap.size=f1:=⟨_,rfl⟩
 have n6:Y w (((w.alloc (G #[.slice fa blocks.length fc] 39)).alloc (G #[L] 39)).alloc (G #[L] 39)):=(((Below.refl _ _).alloc (Je _) _).alloc Zs _).alloc Zt _;have f3:=zB (o:=G #[L] 39) (zB (o:=G #[L] 39) (zI (W:=w) (o:=G #[.slice fa blocks.length fc] 39) rfl));have e9:=zB (o:=G #[L] 39) (zI (W:=w.alloc (G #[.slice fa blocks.length fc] 39)) (o:=G #[L] 39) rfl);have j2:=zI (W:=(w.alloc (G #[.slice fa blocks.length fc] 39)).alloc (G #[L] 39)) (o:=G #[L] 39) rfl;have n1:(w.alloc (G #[.slice fa blocks.length fc] 39)).heap.size=w.heap.size+1:=by simp
 have n0:((w.alloc (G #[.slice fa blocks.length fc] 39)).alloc (G #[L] 39)).heap.size=w.heap.size+1+1:=by simp
 rw[n1] at e9;rw[n0] at j2;clear l8 hB hs n1 n0 ha;go_enter Tryz.func44,Tryz.ntmps44;go_upto_region 2 with fail;generalize t2:((w.alloc (G #[.slice fa blocks.length fc] 39)).alloc (G #[L] 39)).alloc (G #[L] 39)=W1 at *;rw[d6] at f3 e9 j2;generalize r6:f1+1+1=g3 at *;generalize r4:f1+1=r2 at *;have i0:f1<r2/\r2<g3:=Zo;have t6:=Ja (show OfTop w f1 r2 g3 (.slice fa blocks.length fc) (L) [] W1/\([]:List BT).map BT.blk=blocks.take 0 from⟨⟨f3,e9,j2,by rw[<-d6];exact n6,Rows.nil.cons (Jv _ _ _ _) (fun g e=>by simp[Row.blk,zd,Value.ownBlock] at e),i0⟩,rfl⟩);have k0:=Ja (show ∀wx,Below f1 w wx->wX wx B (.slice fa blocks.length fc) blocks/\B<=wx.heap.size from fun wx hbx=>⟨h7.out.1.below yT (hbx.mono (by rw[<-d6];exact h7.out.2.1)),Jn h7.out.2.1 hbx.size⟩);have u1:=Ja d6;clear n6 f3 e9 j2 t2 d6 r4 r6 i0;go_wp2
 go_loopw [4] (fun kv wx=>∃(k:Nat) (l:List BT) (ga:Option Addr) (gc:Nat),k<=blocks.length/\kv=U k/\Hid (OfTop w f1 r2 g3 (.slice fa blocks.length fc) (.slice ga k gc) l wx/\l.map BT.blk=blocks.take k)) (fun kv _=>blocks.length-(intOf kv).toNat)
 case atStart=>exact⟨0,[],none,0,Jt _,rfl,t6⟩
 case round=>
  obtain⟨k,l,ga,gc,hk,rfl,HK⟩:=hrel;have c0:=zA (i:=0) HK.out.1.h1 rfl;have s5:=lt_of_block HK.out.1.h1
  by_cases n4:k<blocks.length
  ·have o5:(k:Int)<(blocks.length:Int):=Zo;obtain⟨b,hb⟩:∃b,blocks[k]? =some b:=⟨_,Jd n4⟩
   have h4:=h7.out.2.2.1.2 b (Ji hb);have h5:=h7.out.2.2.2 b (Ji hb);obtain⟨tb,r3⟩:∃tb,wr.heap.size=tb:=⟨_,rfl⟩
   have b9:=HK.out.1.start r3;have HB:=Ja (Jb hb (Jb h4 h5));have v6:=h4.1;have w1:=h4.2.1;have v2:=h4.2.2;clear hb h4 h5;go_upto_region 6 with fail;generalize s9:wr.alloc (G #[L,L,U 0,U 0,L] 84)=W5 at *;obtain⟨b7,x9⟩:=k0.out _ b9.bel;obtain⟨bb,bo,s6,s8,t5,t3,h64,pv,ov,tv,g0,g1,g4,h9,o1,n9⟩:=b7.get HB.out.1;obtain⟨pa,pc,rfl,w0,v5⟩:=h9.form;subst s6;have o9:bb<W5.heap.size:=Zo;have d0:=zA (i:=0) b9.h1 rfl;have dl:=lt_of_block b9.h1;have t0:=zA (i:=0) b9.hb rfl;have m3:N W5 tb 0:=zE b9.hb;have tl:=lt_of_block b9.hb;have o0:=b9.sz;have l1:=zY.src h9;have n8:=Ja (Jb b9 l1);obtain⟨ij,f4,d4,d3,d2⟩:=info_parts Tryz.info_int;clear c0 s5 b9 b7 h9 o1 n9 g1 g4 t5 t3 h64 l1 s9
   go_cut [] (fun wx=>Hid (∃k6,OfMid w f1 r2 g3 tb (.slice (some ⟨bb,bo,none⟩) blocks.length fc) (.slice ga k gc) {bt0 with params:=b.params,pv:=k6 } l [] wx))
   case first=>
    go_region_law (first|(refine yG (by rfl) (.tmp 20) (.tmp 26) _ (by rfl) f1 3 ij (U 0) 1 8 Tryz.underlying22 f4 d4 d3 d2 rfl Zo (L) 0 [] (by rfl) (Jv _ _ _ _) (.slice pa b.params.length pc) b.params.length (b.params.map zN) (by rfl) n8.out.2 (by unfold maxLen;omega) Zo Zt ?_;intro aa9 u8 w9 d t y;have z6:=(t.cell_far ⟨tb,0,none⟩ Zt (by simp[Value.ownBlock])).trans t0;have z4:=(t.frozen_far ⟨tb,0,none⟩ Zt (by simp[Value.ownBlock])).trans m3))
    all_goals go_wp2_with fail
    all_goals go_meet
    all_goals (
     rw[Ng,Op] at d;rw[Ng] at y
     exact Ja ⟨_,n8.out.1.par rfl (Below.refl _ _).drew t d (fun q e=>y.elim (fun e2=> .inl (e2.symm.trans e)) (fun e2=> .inr (by have e3:=e2.symm.trans e;simp at e3;omega)))⟩)
   case rest=>
   obtain⟨k6,f0⟩:=hcut.out;obtain⟨bt1,f6⟩:∃bt1:BT,{bt0 with params:=b.params,pv:=k6 }=bt1:=⟨_,rfl⟩
   rw[f6] at f0;have u0:=Ja (show OfMid w f1 r2 g3 tb (.slice (some ⟨bb,bo,none⟩) blocks.length fc) (.slice ga k gc) {bt1 with ops:=[],ov:=L } l [] wc/\([]:List (IOp×Value)).map (·.1)=b.ops.take 0 from⟨by rw[<-f6] at f0 ⊢;exact f0,rfl⟩);have p3:=Ja f6;have e0:=zA (i:=0) f0.h1 rfl;have el:=lt_of_block f0.h1;clear f6 hcut d0 dl t0 m3 tl o0 f4 d4 d3 d2 ij o9 g0;have h0:Below f1 w wc:=f0.bel;have f7:bb<wc.heap.size:=Jy s8 (k0.out _ h0).2;clear f0 h0;go_wp2;clear e0 el f7
   go_loopw [6] (fun jv wx=>∃(j:Nat) (ol:List (IOp×Value)) (oa:Option Addr) (oc:Nat),j<=b.ops.length/\jv=U j/\Hid (OfMid w f1 r2 g3 tb (.slice (some ⟨bb,bo,none⟩) blocks.length fc) (.slice ga k gc) {bt1 with ops:=ol,ov:=.slice oa j oc } l [] wx/\ol.map (·.1)=b.ops.take j)) (fun jv _=>b.ops.length-(intOf jv).toNat)
   case atStart=>exact⟨0,[],none,0,Jt _,rfl,u0⟩
   case round=>
    obtain⟨j,ol,oa,oc,hj,rfl,HJ⟩:=hrel;have e0:=zA (i:=0) HJ.out.1.h1 rfl;have el:=lt_of_block HJ.out.1.h1;obtain⟨b7,p1⟩:=k0.out _ HJ.out.1.bel;obtain⟨b2,o2,i1,_,q2c,j1,g6,q6,ov2,p8,q0,q1,q4,c4,b1,b0⟩:=b7.get HB.out.1;cases i1;obtain⟨sa,sc,rfl,v4,v3⟩:=b1.form;have f7:bb<wr.heap.size:=Zo
    by_cases f2:j<b.ops.length
    ·have l5:(j:Int)<(b.ops.length:Int):=Zo;obtain⟨o,ho⟩:∃o,b.ops[j]? =some o:=⟨_,Jd f2⟩
     obtain⟨ob,oo,l2,o4,y0,y1,y2,y3,y4,f8,yv,y5,e8⟩:=b1.get ho;obtain⟨ya,yc,rfl,q8,q7⟩:=e8.form;subst l2;have o3:ob<wr.heap.size:=Zo;have m2:=(HB.out.2.2.1 o (Ji ho))
     obtain⟨q,hq⟩:∃q,wr.heap.size=q:=⟨_,rfl⟩
     have c8:Y wr (wr.alloc (G (P o ya yc) 76)):=(Below.refl _ _).alloc (Je _) _;have b3:=zI (W:=wr) (o:=G (P o ya yc) 76) hq;have c3:=zY.src (e8.below zO (c8.mono p1));have h6:=Ja (Jb ho (Jb f8 hq));clear c4 b1 b0 b7 q0 q4 q2c j1 g6 ho f8 e8;go_upto_region 12 with fail;generalize l9:wr.alloc (G (P o ya yc) 76)=W6 at *;have z5:=zA (i:=5) b3 rfl;have p4:N W6 q 5:=zE b3;have zl:=lt_of_block b3;have c7:W6.ownsRow f1 3 1 (L) 0 []:=Jv _ _ _ _;have o6:f1<=W6.heap.size:=Jn HJ.out.1.sz c8.size;have b6:=Ja (Jb b3 (Jb c3 (Jb c7 c8)));obtain⟨ij,f4,d4,d3,d2⟩:=info_parts Tryz.info_int;clear b3 c3 c7 c8 l9 y0 y1 y2 y3 y4 y5;go_upto_region 13 with(at_builtin;go_must (refine zK _ rfl (.tmp 49) (.tmp 51) 22 rfl f1 3 ij (U 0) 1 8 Tryz.underlying22 f4 d4 d3 d2 rfl Zd (L) 0 [] rfl b6.out.2.2.1 (.slice ya o.args.length yc) o.args.length (o.args.map zN) rfl b6.out.2.1 (by unfold maxLen;omega) Zo Zo ?_;intro v9 w9 d t y;obtain⟨a2,a1,rfl⟩:=zG d;have b4:=zL t b6.out.1 (by simp[Value.ownBlock]);have k5:=zA (i:=5) b4 rfl;have k4:N w9 q 5:=zE b4;have h8:=lt_of_block b4;have d1:=Ja (Jb d (Jb t (Jb y b4)));clear d t y b4))
     have a7:OfMid w f1 r2 g3 tb (.slice (some ⟨bb,bo,none⟩) blocks.length fc) (.slice ga k gc) {bt1 with ops:=ol,ov:=.slice oa j oc } l [zP (.slice a2 o.args.length a1) o.args] (w9.setCell ⟨q,5,none⟩ (.slice a2 o.args.length a1)):=by
      have d:=d1.out.1;have y:=d1.out.2.2.1;rw[Ng,Op] at d;rw[Ng] at y;refine HJ.out.1.arg2 b6.out.2.2.2 d1.out.2.1 d (fun x e=>?_) ⟨by rw[h6.out.2.2];exact Je _,lt_of_block b6.out.1⟩ _;rcases y with e2|e2
      ·have e3:=e2.symm.trans e;simp[Value.ownBlock] at e3
      ·have e3:=e2.symm.trans e;simp at e3;omega
     have a6:=zD (i:=5) d1.out.2.2.2 (.slice a2 o.args.length a1);generalize j0:w9.setCell ⟨q,5,none⟩ (.slice a2 o.args.length a1)=W10 at *;have y0:=zA (i:=0) a6 rfl;have y1:=zA (i:=1) a6 rfl;have y2:=zA (i:=2) a6 rfl;have y3:=zA (i:=3) a6 rfl;have y4:=zA (i:=4) a6 rfl;have y5:=zA (i:=5) a6 rfl;have yl:=lt_of_block a6;have t1:=zA (i:=1) a7.hb rfl;have q2:=lt_of_block a7.hb
     have b8:ol.length=j:=by
      have h1:=congrArg List.length HJ.out.2;rw[Nr,Oc] at h1;omega
     have c5:W10.ownsRow f1 76 6 (.slice oa j oc) j (ol.flatMap zU):=by
      have h1:=a7.rows.own (ma (.slice oa j oc) ol) (.tail _ (.tail _ (.head _)));unfold ma at h1;simp only at h1;rw[b8] at h1;exact h1
     have m1:=a7.sz;have a0:=Ja (Jb a7 (Jb c5 b8));obtain⟨ik,g9,e7,e6,e5⟩:=info_parts Tryz.info_irop;clear a7 c5 b8 a6 j0 z5 p4 k5 k4 h8;have c2:yM (W10.alloc (G (P o a2 a1) 76)) 6 (T W10.heap.size 1 1) 1 (zU (o,.slice a2 o.args.length a1)):=yM.cells (zI rfl) rfl (by simp[zU,Value.oneCell']);have m0:=Ja c2;clear c2;go_wp2_with (at_builtin;go_must (refine zK _ rfl (.tmp 55) (.tmp 57) 77 rfl f1 76 ik (.agg #[U 0,U 0,U 0,U 0,O 0,L]) 6 64 Tryz.underlying77 g9 e7 e6 e5 rfl Zd (.slice oa j oc) j (ol.flatMap zU) rfl (a0.out.2.1.alloc _) _ 1 (zU (o,.slice a2 o.args.length a1)) rfl m0.out (by unfold maxLen;omega) Zo Zt ?_;intro v11 w11 m h a5;obtain⟨e4,e1,rfl⟩:=zG m;have a3:=zL h (zB a0.out.1.hb) (zC a0.out.2.1 a0.out.1.hb (.inr Zd));have v0:=zA (i:=1) a3 rfl;have q5:N w11 tb 1:=zE a3;have q3:=lt_of_block a3;have a4:=Ja (Jb m (Jb h a5));clear m h a5 a3))
     go_roundw
     case rel=>
      refine⟨j+1,ol++ [(o,.slice a2 o.args.length a1)],e4,e1,f2,by go_num,Ja ⟨?_,?_⟩⟩
      ·exact a0.out.1.op ((Below.refl _ _).alloc (Je _) _) a4.out.2.1 (by show w11.ownsRow f1 76 6 _ (ol.length+1) _;rw[a0.out.2.2];exact a4.out.1) (fun x e=>a4.out.2.2.elim (fun e2=> .inl (e2.symm.trans e)) (fun e2=> .inr (by have e3:=e2.symm.trans e;simp at e3;omega)))
      ·rw[Js,HJ.out.2,Nh,h6.out.1];rfl
     case measure=>simp[intOf];omega
    ·obtain rfl:j=b.ops.length:=by omega
     have l5:¬(b.ops.length:Int)<(b.ops.length:Int):=Zo;have n3:ol.map (·.1)=b.ops:=by rw[HJ.out.2,Nl]
     obtain⟨bt2,i9⟩:∃bt2:BT,{bt1 with ops:=ol,ov:=.slice oa b.ops.length oc }=bt2:=⟨_,rfl⟩
     have d5:=HJ.out.1;rw[i9] at d5;have j5:bt2.tos=[]/\bt2.tv=L/\bt2.params=b.params/\bt2.ops=ol:=by rw[<-i9,<-p3.out];exact⟨rfl,rfl,rfl,rfl⟩
     have w2:=zA (i:=2) d5.hb rfl;have w3:=zA (i:=3) d5.hb rfl;have w4:=zA (i:=4) d5.hb rfl;have wf:∀i,N wr tb i:=fun i=>zE d5.hb
     have wl:=lt_of_block d5.hb;have H2:=Ja (Jb d5 (Jb j5 n3));have r5:q2c=q2c:=rfl;clear hj HJ d5 i9 j5 n3 c4 b1 b0 b7 g6 f2 r5;go_upto_region 14 with fail
     go_cut [] (fun wx=>Hid (OfMid w f1 r2 g3 tb (.slice (some ⟨bb,bo,none⟩) blocks.length fc) (.slice ga k gc) {bt2 with kind:=b.term.kind,a:=b.term.a } l [] wx))
     case first=>
      refine zt 16 Zk Zk ?_;simp only[Qo,Uc,Qp,Ui]
      repeat (go_big_quiet_step (fail))
      refine wpQuiet_nil ?_;go_wp2;go_meet;refine Ja (OfMid.below ?_ (Below.refl _ _).drew);have k1:=H2.out.1.set (i:=2) (u:=U b.term.kind) (bt':= {bt2 with kind:=b.term.kind }) rfl rfl;have k2:=k1.set (i:=3) (u:=U b.term.a) (bt':= {bt2 with kind:=b.term.kind,a:=b.term.a }) rfl rfl;exact k2.set (i:=4) (u:=L) (bt':= {bt2 with kind:=b.term.kind,a:=b.term.a }) (by unfold zz;rw[H2.out.2.1.2.1];rfl) rfl
     case rest=>
     have l3:=hcut.out;obtain⟨bt3,i8⟩:∃bt3:BT,{bt2 with kind:=b.term.kind,a:=b.term.a }=bt3:=⟨_,rfl⟩
     rw[i8] at l3;have f5:bt3.tos=[]/\bt3.tv=L/\bt3.params=b.params/\bt3.ops=ol/\bt3.kind=b.term.kind/\bt3.a=b.term.a:=by rw[<-i8];exact⟨H2.out.2.1.1,H2.out.2.1.2.1,H2.out.2.1.2.2.1,H2.out.2.1.2.2.2,rfl,rfl⟩
     have t8:=Ja (show OfMid w f1 r2 g3 tb (.slice (some ⟨bb,bo,none⟩) blocks.length fc) (.slice ga k gc) {bt3 with tos:=[],tv:=L } l [] wc/\([]:List (IEdge×Value)).map (·.1)=b.term.to.take 0 from⟨by
      have e:({bt3 with tos:=[],tv:=L }:BT)=bt3:=by
       obtain⟨x1,x2,x3,x4,x5,x6,x7,x8⟩:=bt3;obtain⟨h1,h2,_⟩:=f5;simp only at h1 h2;rw[h1,h2]
      rw[e]
      exact l3,rfl⟩)
     have k3:=Ja f5;clear l3 i8 f5 hcut w2 w3 w4 wf wl e0 el q0 q1 q2c j1 q4 f7;go_wp2
     go_loopw [9] (fun jv wx=>∃(j:Nat) (tl:List (IEdge×Value)) (ta:Option Addr) (tc:Nat),j<=b.term.to.length/\jv=U j/\Hid (OfMid w f1 r2 g3 tb (.slice (some ⟨bb,bo,none⟩) blocks.length fc) (.slice ga k gc) {bt3 with tos:=tl,tv:=.slice ta j tc } l [] wx/\tl.map (·.1)=b.term.to.take j)) (fun jv _=>b.term.to.length-(intOf jv).toNat)
     case atStart=>exact⟨0,[],none,0,Jt _,rfl,t8⟩
     case round=>
      obtain⟨j,c9,ta,tc,hj,rfl,HJ⟩:=hrel;have e0:=zA (i:=0) HJ.out.1.h1 rfl;have el:=lt_of_block HJ.out.1.h1;obtain⟨b7,p0⟩:=k0.out _ HJ.out.1.bel;obtain⟨b2,o2,i1,_,q2c,j1,g6,q6,ov2,p8,q0,q1,q4,c4,b1,b0⟩:=b7.get HB.out.1;cases i1;obtain⟨sa2,sc2,rfl,u3,u2⟩:=b0.form;have f7:bb<wr.heap.size:=Zo
      by_cases f2:j<b.term.to.length
      ·have l5:(j:Int)<(b.term.to.length:Int):=Zo;obtain⟨o,ho⟩:∃o,b.term.to[j]? =some o:=⟨_,Jd f2⟩
       obtain⟨ob,oo,l2,o4,y0,f8,yv,y1,e8⟩:=b0.get ho;obtain⟨ya,yc,rfl,q8,q7⟩:=e8.form;subst l2;have o3:ob<wr.heap.size:=Zo;have m2:=(HB.out.2.2.2 o (Ji ho))
       obtain⟨q,hq⟩:∃q,wr.heap.size=q:=⟨_,rfl⟩
       have c8:Y wr (wr.alloc (G #[U o.block,.slice ya o.args.length yc] 79)):=(Below.refl _ _).alloc (Je _) _;have b3:=zI (W:=wr) (o:=G #[U o.block,.slice ya o.args.length yc] 79) hq;have c3:=zY.src (e8.below zO (c8.mono p0));have h6:=Ja (Jb ho (Jb f8 hq));clear c4 b1 b0 b7 q0 q1 q2c j1 g6 ho f8 e8;go_upto_region 20 with fail;generalize l9:wr.alloc (G #[U o.block,.slice ya o.args.length yc] 79)=W6 at *;have z1:=zA (i:=1) b3 rfl;have p5:N W6 q 1:=zE b3;have zl:=lt_of_block b3;have c7:W6.ownsRow f1 3 1 (L) 0 []:=Jv _ _ _ _;have o6:f1<=W6.heap.size:=Jn HJ.out.1.sz c8.size;have b6:=Ja (Jb b3 (Jb c3 (Jb c7 c8)));obtain⟨ij,f4,d4,d3,d2⟩:=info_parts Tryz.info_int;clear b3 c3 c7 c8 l9 y0 y1;go_upto_region 21 with(at_builtin;go_must (refine zK _ rfl (.tmp 98) (.tmp 100) 22 rfl f1 3 ij (U 0) 1 8 Tryz.underlying22 f4 d4 d3 d2 rfl Zd (L) 0 [] rfl b6.out.2.2.1 (.slice ya o.args.length yc) o.args.length (o.args.map zN) rfl b6.out.2.1 (by unfold maxLen;omega) Zo Zo ?_;intro v9 w9 d t y;obtain⟨a2,a1,rfl⟩:=zG d;have b4:=zL t b6.out.1 (by simp[Value.ownBlock]);have k5:=zA (i:=1) b4 rfl;have k4:N w9 q 1:=zE b4;have h8:=lt_of_block b4;have d1:=Ja (Jb d (Jb t (Jb y b4)));clear d t y b4))
       have a7:OfMid w f1 r2 g3 tb (.slice (some ⟨bb,bo,none⟩) blocks.length fc) (.slice ga k gc) {bt3 with tos:=c9,tv:=.slice ta j tc } l [zP (.slice a2 o.args.length a1) o.args] (w9.setCell ⟨q,1,none⟩ (.slice a2 o.args.length a1)):=by
        have d:=d1.out.1;have y:=d1.out.2.2.1;rw[Ng,Op] at d;rw[Ng] at y;refine HJ.out.1.arg2 b6.out.2.2.2 d1.out.2.1 d (fun x e=>?_) ⟨by rw[h6.out.2.2];exact Je _,lt_of_block b6.out.1⟩ _;rcases y with e2|e2
        ·have e3:=e2.symm.trans e;simp[Value.ownBlock] at e3
        ·have e3:=e2.symm.trans e;simp at e3;omega
       have a6:=zD (i:=1) d1.out.2.2.2 (.slice a2 o.args.length a1);generalize j0:w9.setCell ⟨q,1,none⟩ (.slice a2 o.args.length a1)=W10 at *;have y0:=zA (i:=0) a6 rfl;have y1:=zA (i:=1) a6 rfl;have yl:=lt_of_block a6;have t4:=zA (i:=4) a7.hb rfl;have q2:=lt_of_block a7.hb
       have b8:c9.length=j:=by
        have h1:=congrArg List.length HJ.out.2;rw[Nr,Oc] at h1;omega
       have c5:W10.ownsRow f1 79 2 (.slice ta j tc) j (c9.flatMap za):=by
        have h1:=a7.rows.own (xg (.slice ta j tc) c9) (.tail _ (.tail _ (.tail _ (.head _))));unfold xg at h1;simp only at h1;rw[b8] at h1;exact h1
       have m1:=a7.sz;have a0:=Ja (Jb a7 (Jb c5 b8));obtain⟨ik,g9,e7,e6,e5⟩:=info_parts Tryz.info_edge;clear a7 c5 b8 a6 j0 z1 p5 k5 k4 h8;have c2:yM (W10.alloc (G #[U o.block,.slice a2 o.args.length a1] 79)) 2 (T W10.heap.size 1 1) 1 (za (o,.slice a2 o.args.length a1)):=yM.cells (zI rfl) rfl (by simp[za,Value.oneCell']);have m0:=Ja c2;clear c2;go_wp2_with (at_builtin;go_must (refine zK _ rfl (.tmp 105) (.tmp 107) 80 rfl f1 79 ik (.agg #[U 0,L]) 2 32 Tryz.underlying80 g9 e7 e6 e5 rfl Zd (.slice ta j tc) j (c9.flatMap za) rfl (a0.out.2.1.alloc _) _ 1 (za (o,.slice a2 o.args.length a1)) rfl m0.out (by unfold maxLen;omega) Zo Zt ?_;intro v11 w11 m h a5;obtain⟨e4,e1,rfl⟩:=zG m;have a3:=zL h (zB a0.out.1.hb) (zC a0.out.2.1 a0.out.1.hb (.inr Zd));have u9:=zA (i:=4) a3 rfl;have q5:N w11 tb 4:=zE a3;have q3:=lt_of_block a3;have a4:=Ja (Jb m (Jb h a5));clear m h a5 a3))
       go_roundw
       case rel=>
        refine⟨j+1,c9++ [(o,.slice a2 o.args.length a1)],e4,e1,f2,by go_num,Ja ⟨?_,?_⟩⟩
        ·exact a0.out.1.edge ((Below.refl _ _).alloc (Je _) _) a4.out.2.1 (by show w11.ownsRow f1 79 2 _ (c9.length+1) _;rw[a0.out.2.2];exact a4.out.1) (fun x e=>a4.out.2.2.elim (fun e2=> .inl (e2.symm.trans e)) (fun e2=> .inr (by have e3:=e2.symm.trans e;simp at e3;omega)))
        ·rw[Js,HJ.out.2,Nh,h6.out.1];rfl
       case measure=>simp[intOf];omega
      ·obtain rfl:j=b.term.to.length:=by omega
       have l5:¬(b.term.to.length:Int)<(b.term.to.length:Int):=Zo;have m7:c9.map (·.1)=b.term.to:=by rw[HJ.out.2,Nl]
       obtain⟨bt4,i2⟩:∃bt4:BT,{bt3 with tos:=c9,tv:=.slice ta b.term.to.length tc }=bt4:=⟨_,rfl⟩
       have b5:=HJ.out.1;rw[i2] at b5
       have l7:bt4.blk=b:=by
        rw[<-i2];unfold BT.blk;simp only;rw[k3.out.2.2.1,k3.out.2.2.2.1,k3.out.2.2.2.2.1,k3.out.2.2.2.2.2,H2.out.2.2,m7]
       have r0:=b5.rows.own (zP bt4.pv bt4.params) (.head _);have r1:=b5.rows.own (ma bt4.ov bt4.ops) (.tail _ (.head _));have m4:=b5.rows.own (xg bt4.tv bt4.tos) (.tail _ (.tail _ (.head _)));obtain⟨g5,xc0,m6⟩:=zG r0;obtain⟨g2,xc1,f3⟩:=zG r1;obtain⟨f9,xc2,e9⟩:=zG m4;have l0:bt4.pv=.slice g5 bt4.params.length xc0:=m6;have k9:bt4.ov=.slice g2 bt4.ops.length xc1:=f3;have k7:bt4.tv=.slice f9 bt4.tos.length xc2:=e9;have l6:zz bt4=[.slice g5 bt4.params.length xc0,.slice g2 bt4.ops.length xc1,U bt4.kind,U bt4.a,.slice f9 bt4.tos.length xc2]:=by unfold zz;rw[l0,k9,k7]
       have d7:=b5.hb;rw[l6] at d7;have s0:=zA (i:=0) d7 rfl;have s1:=zA (i:=1) d7 rfl;have s2:=zA (i:=2) d7 rfl;have s3:=zA (i:=3) d7 rfl;have s4:=zA (i:=4) d7 rfl;have sl:=lt_of_block d7;have u6:=zA (i:=0) b5.h3 rfl;have z3:=lt_of_block b5.h3
       have l4:l.length=k:=by
        have h1:=congrArg List.length HK.out.2;rw[Nr,Oc] at h1;omega
       have j4:wr.ownsRow f1 84 5 (.slice ga k gc) k (l.flatMap zz):=by
        have h1:=b5.rows.own (zd (.slice ga k gc) l) (Qf [] (Qf bt4.rows (.head _)));unfold zd at h1;simp only at h1;rw[l4] at h1;exact h1
       have u5:=b5.sz;have d8:=Ja (Jb b5 (Jb j4 (Jb l4 (Jb l7 l6))));obtain⟨ik,g9,e7,e6,e5⟩:=info_parts Tryz.info_irblock;have j3:yM (wr.alloc (G #[.slice g5 bt4.params.length xc0,.slice g2 bt4.ops.length xc1,U bt4.kind,U bt4.a,.slice f9 bt4.tos.length xc2] 84)) 5 (T wr.heap.size 1 1) 1 [.slice g5 bt4.params.length xc0,.slice g2 bt4.ops.length xc1,U bt4.kind,U bt4.a,.slice f9 bt4.tos.length xc2]:=yM.cells (zI rfl) rfl (by simp[Value.oneCell']);have t7:=Ja j3;clear b5 j4 l4 l7 l6 d7 r0 r1 m4 m6 f3 e9 l0 k9 k7 i2 m7 hj HJ c4 b1 b0 b7 g6 f2 j3;go_wp2_with (at_builtin;go_must (refine zK _ rfl (.tmp 112) (.tmp 114) 37 rfl f1 84 ik (.agg #[L,L,U 0,U 0,L]) 5 88 Tryz.underlying37 g9 e7 e6 e5 rfl Zd (.slice ga k gc) k (l.flatMap zz) rfl (d8.out.2.1.alloc _) _ 1 [.slice g5 bt4.params.length xc0,.slice g2 bt4.ops.length xc1,U bt4.kind,U bt4.a,.slice f9 bt4.tos.length xc2] rfl t7.out (by unfold maxLen;omega) Zo Zt ?_;intro v11 w11 m h a5;obtain⟨e4,e1,rfl⟩:=zG m;have d9:=zL h (zB d8.out.1.h3) (zC d8.out.2.1 d8.out.1.h3 (.inr Zd));have z2:=zA (i:=0) d9 rfl;have z0:N w11 g3 0:=zE d9;have y6:=lt_of_block d9;have a4:=Ja (Jb m (Jb h a5));clear m h a5 d9))
       go_roundw
       case rel=>
        have s7:=d8.out.1.close ((Below.refl _ _).alloc (Je _) _) a4.out.2.1 (by rw[d8.out.2.2.1,d8.out.2.2.2.2];exact a4.out.1) (fun x e=>a4.out.2.2.elim (fun e2=> .inl (e2.symm.trans e)) (fun e2=> .inr (by have e3:=e2.symm.trans e;simp at e3;omega)));refine⟨k+1,l++ [bt4],e4,e1,n4,by go_num,Ja ⟨s7,?_⟩⟩;rw[Js,HK.out.2,Nh,HB.out.1]
        show _++ [bt4.blk]=_
        rw[d8.out.2.2.2.1];rfl
       case measure=>simp[intOf];omega
  ·obtain rfl:k=blocks.length:=by omega
   have o5:¬(blocks.length:Int)<(blocks.length:Int):=Zo;have d0:=zA (i:=0) HK.out.1.h3 rfl;have w6:=lt_of_block HK.out.1.h3;have e0:=zA (i:=0) HK.out.1.h2 rfl;have u4:=lt_of_block HK.out.1.h2;have ef:N wr r2 0:=zE HK.out.1.h2;go_wp2;have m5:=zD (i:=0) HK.out.1.h2 (.slice ga blocks.length gc);have x0:=zA (i:=0) m5 rfl;have v1:=lt_of_block m5;have n5:l.map BT.blk=blocks:=by rw[HK.out.2,Nl]
   have i0:=HK.out.1.ges
   have n2:Rows (wr.setCell ⟨r2,0,none⟩ (.slice ga blocks.length gc)) f1 (zd (.slice ga blocks.length gc) l::l.flatMap BT.rows):=by
    refine HK.out.1.rows.keep fun q hq=>Below.heap_setCell _ _ _ _ (fun e=>?_)
    obtain⟨x,hx,q9⟩:=Nj.1 hq;have e':q=r2:=e;subst e';exact zC (HK.out.1.rows.own x hx) HK.out.1.h2 (.inr (lG x hx)) q9
   have h0:Below f1 w (wr.setCell ⟨r2,0,none⟩ (.slice ga blocks.length gc)):=HK.out.1.bel.setCell (by show f1<=r2;omega) _;have HE:=Ja (Jb n5 (Jb n2 h0));have d6:=u1.out;clear n5 n2 h0;refine bodyPost_ret (v:=.agg #[.slice ga blocks.length gc]) ?_ rfl ?_
   ·rw[zM rfl];go_simp
   ·refine⟨⟨l,.slice ga blocks.length gc⟩,ga,blocks.length,gc,rfl,rfl,HE.out.1,?_,?_⟩
    ·rw[d6];exact HE.out.2.1
    ·rw[d6];exact HE.out.2.2
theorem aht (w:World)(a b:Rg):I 92 #[.agg #[O (a.lo:Int),O (a.hi:Int)],.agg #[O (b.lo:Int),O (b.hi:Int)]] w (fun e w'=>e=.returned (.agg #[O ((aeM a b).lo:Int),O ((aeM a b).hi:Int)])/\Y w w'):=hull_any w a b
theorem akE{K:SK}{p:IProg}{a3:List IBlk}{k:Nat}{s:Slv}(h:SlvAt w K p a3 k s){v:Nat}(hv:v<K.n){a:Rg}(a1:s.knw v=true)(c:afd (aeM a (s.get v)) (s.get v)=true):
 I 38 #[F K.sb,U v,.agg #[O (a.lo:Int),O (a.hi:Int)]] w (afw w K p a3 k (s,false)):=by
 have a0:=aeC h hv;rw[a1] at a0;have l:=fun(W:World) (hW:Below w.heap.size w W)=>(h.below hW).rcell (v:=(v:Int)) Zo
 generalize hg:s.get (v:Int)=g at *;obtain⟨q,hq⟩:∃q,aeM a g=q:=⟨_,rfl⟩
 have HH:=Ja (fun W=>aht W a g);rw[hq] at HH c
 have y:q.lo=g.lo/\q.hi=g.hi:=by
  unfold afd at c
  simpa only[Jm,decide_eq_true_eq] using c
 rw[Ni] at l;have H:=Ja h;have hn:=h.n64;obtain⟨s4,s7,s8,s9,s10,s6⟩:=h.cells;have HC:=Ja (show ∀W:World,Below w.heap.size w W->A W K.sb 8 (T K.rb K.n K.n)/\A W K.rb (v*2) (O (g.lo:Int))/\A W K.rb (v*2+1) (O (g.hi:Int)) from fun W hb=>⟨(h.below hb).cells.2.2.1,(l W hb).1,(l W hb).2⟩);have l1:=lt_of_block h.cell;have l2:=lt_of_block h.row;have l3:=lt_of_block h.kn;have a4:=Ja y;clear h y a1 c s4 s7 s6 s8 s10 l hg hq;go_enter Tryz.func38,Tryz.ntmps38;go_upto_region 2 with(go_at_call 999999;skip)
 obtain⟨X,hX⟩:∃X,w.alloc (G #[O (a.lo:Int),O (a.hi:Int)] 45)=X:=⟨_,rfl⟩
 have d:=Ja (show Below w.heap.size w X/\Q X w.heap.size #[O (a.lo:Int),O (a.hi:Int)] 45/\w.heap.size<X.heap.size from by
  rw[<-hX];exact⟨Below.alloc (Below.refl _ _) (Je _) _,zI rfl,by simp⟩)
 rw[hX];clear hX a0 s9;have u:=Ja (show ∀W:World,Below w.heap.size X W->A W K.sb 8 (T K.rb K.n K.n)/\A W K.rb (v*2) (O (g.lo:Int))/\A W K.rb (v*2+1) (O (g.hi:Int)) from fun W hb=>HC.out W (d.out.1.trans hb));obtain⟨c0,c1,c2⟩:=u.out X (Below.refl _ _);have x0:=zA (i:=0) d.out.2.1 rfl;have x1:=zA (i:=1) d.out.2.1 rfl;have a6:=d.out.2.2;refine wp_region_noPanic ?_;refine yQ (S:=(fun w'=>A w' K.sb 8 (T K.rb K.n K.n)/\A w' K.rb (v*2) (O (g.lo:Int))/\A w' K.rb (v*2+1) (O (g.hi:Int))/\A w' w.heap.size 0 (O (a.lo:Int))/\A w' w.heap.size 1 (O (a.hi:Int)))) 9 Zk ⟨c0,c1,c2,x0,x1⟩ (fun hHeld=>?_);refine Tl 0 ?_
 try simp only[Yp]
 refine Tl 1 ?_
 try simp only[Yp]
 refine Tl 2 ?_
 try simp only[Yp]
 refine Tl 3 ?_
 try simp only[Yp]
 refine Tl 4 ?_
 try simp only[Yp]
 refine Tl 5 ?_
 try simp only[Yp]
 refine Tl 6 ?_
 try simp only[Yp]
 refine Tl 7 ?_
 try simp only[Yp]
 refine y7 (rs:=[8]) Zk Zs ?_;refine zS.cons (o:=_) rfl (fun K hK=>?_) ?_
 ·skip
  (go_simp;refine(HH.out _).mono ?_;rintro e w1 ⟨rfl,a2⟩;have m:Below X.heap.size X w1:=(Below.refl X.heap.size X).drew.trans a2;clear a2;have hk:=zH m d.out.2.1 (lt_of_block d.out.2.1);have f0:=zA (i:=0) hk rfl;have f1:=zA (i:=1) hk rfl;have g0:=zE (i:=0) hk;have g1:=zE (i:=1) hk;have a7:=lt_of_block hk;have t:=u.out w1 (m.mono (Qd d.out.2.2)))
  refine hK.out _ _ ⟨t.1,t.2.1,t.2.2,f0,f1⟩ (fun hHeld=>?_);clear hK K
  try simp only[Yp]
  refine y7 (rs:=[9]) Zk Zs ?_;refine zS.last (o:=_) rfl (fun K hK=>?_);go_simp;refine hK.out _ _ ?_;clear hK K
  try simp only[Yp]
  refine xj Zk (NoPanic.normal ?_) _;go_upto_region 3 with(go_at_call 999999;skip)
  obtain⟨Y,x⟩:∃Y,(w1.setCell ⟨w.heap.size,0,none⟩ (O (q.lo:Int))).setCell ⟨w.heap.size,1,none⟩ (O (q.hi:Int))=Y:=⟨_,rfl⟩
  have j:=Ja (show Below w.heap.size w Y/\Q Y w.heap.size #[O (q.lo:Int),O (q.hi:Int)] 45/\w.heap.size<Y.heap.size from by
   have hh:=zD (i:=1) (zD (i:=0) hk (O (q.lo:Int))) (O (q.hi:Int));rw[x] at hh
   exact⟨by rw[<-x];exact((d.out.1.trans (m.mono (Qd d.out.2.2))).setCell (Je _) _).setCell (Je _) _,hh,lt_of_block hh⟩)
  rw[x];clear x hk f0 f1 g0 g1 a7 m t u c0 c1 c2 x0 x1 a6;have a5:=Ja (show ∀W:World,Below Y.heap.size Y W->(A W K.sb 8 (T K.rb K.n K.n)/\A W K.rb (v*2) (O (g.lo:Int))/\A W K.rb (v*2+1) (O (g.hi:Int)))/\A W w.heap.size 0 (O (q.lo:Int))/\A W w.heap.size 1 (O (q.hi:Int)) from fun W hb=>⟨HC.out W (j.out.1.trans (hb.mono (Qd j.out.2.2))),zA (zH hb j.out.2.1 (lt_of_block j.out.2.1)) rfl,zA (zH hb j.out.2.1 (lt_of_block j.out.2.1)) rfl⟩);obtain⟨⟨c0,c1,c2⟩,x0,x1⟩:=a5.out Y (Below.refl _ _);have e0:((q.lo:Int)==(g.lo:Int))=true:=by rw[a4.out.1];exact beq_self_eq_true _
  have e1:((q.hi:Int)==(g.hi:Int))=true:=by rw[a4.out.2];exact beq_self_eq_true _
  go_region_held3 (fun w'=>(A w' K.sb 8 (T K.rb K.n K.n)/\A w' K.rb (v*2) (O (g.lo:Int))/\A w' K.rb (v*2+1) (O (g.hi:Int)))/\A w' w.heap.size 0 (O (q.lo:Int))/\A w' w.heap.size 1 (O (q.hi:Int)))
   ((refine a5.out _ ?_;repeat' (first|with_reducible exact Below.refl _ _|with_reducible assumption|with_reducible refine Below.drew ?_)))
   (fail)
  all_goals go_wp2
  all_goals go_ret
  all_goals exact⟨rfl,H.out.below j.out.1.drew,SlvTo.of_below j.out.1.drew⟩
 exact zS.nil
theorem ait{B:Nat}{V:PV}{p:IProg}(hp:ProgIn w B V p)(hB:B<=w.heap.size)(hs:∀f∈p.funcs,vZ f)(hv:vC p≠0)(f:Int):
 I 16 #[yH V p,U f] w (aeW w):=by
 obtain⟨z,t⟩:∃z,vC p=z:=⟨_,rfl⟩
 have j:¬ak2 p f:=fun h=>hv h.1
 have m:∀W,Y w W->I 35 #[yH V p] W (m9 W z):=fun W hb=>by
  have:=tu (hp.below (hb.mono hB)) (Jn hB hb.size) hs;rw[t] at this;exact this
 have o:∀W,Y w W->I 15 #[yH V p,U f] W (aeW W):=fun W hb=>afU (hp.below (hb.mono hB)) (Jn hB hb.size) hs f j
 have a2:(z !=0)=true:=by rw[t] at hv;simpa using hv
 obtain⟨Vf,Va,Vd,Vb⟩:=V;obtain⟨f1,f2,e1,a4,a3⟩:=hp.funcs.form;have a0:Vf=.slice f1 p.funcs.length f2:=e1;subst a0;obtain⟨X,hX⟩:∃X,w.alloc (G #[.slice f1 p.funcs.length f2,Va,U p.entry,U p.handler,Vd,Vb] 29)=X:=⟨_,rfl⟩
 have l:Y w X:=by rw[<-hX];exact(Below.refl _ _).alloc (Je _) _
 have c:Q X w.heap.size #[.slice f1 p.funcs.length f2,Va,U p.entry,U p.handler,Vd,Vb] 29:=by rw[<-hX];exact zI rfl
 have HC:=Ja (show(∀W,Y w W->I 35 #[.agg #[.slice f1 p.funcs.length f2,Va,U p.entry,U p.handler,Vd,Vb]] W (m9 W z))/\(∀W,Y w W->I 15 #[.agg #[.slice f1 p.funcs.length f2,Va,U p.entry,U p.handler,Vd,Vb],U f] W (aeW W)) from⟨m,o⟩);have x0:=zA (i:=0) c rfl;have x1:=zA (i:=1) c rfl;have x2:=zA (i:=2) c rfl;have x3:=zA (i:=3) c rfl;have x4:=zA (i:=4) c rfl;have x5:=zA (i:=5) c rfl;have u:=lt_of_block c;have k:=Ja (Jb l c);have hq:=fun W=>Lib.run_eql_slice_nil (P:=Tryz.prog) W 34 45 none 0 0 0 0 Tryz.underlying34
 clear hp hB hs m o l c j t hv;unfold yH;go_enter Tryz.func16,Tryz.ntmps16
 go_wp2_with (first
  |(go_at_call 15;go_must (refine(HC.out.2 _ k.out.1).mono ?_;rintro e w1 ⟨rfl,g⟩;have d:=zH g k.out.2 u;clear x0 x1 x2 x3 x4 x5;have x0:=zA (i:=0) d rfl;have x1:=zA (i:=1) d rfl;have x2:=zA (i:=2) d rfl;have x3:=zA (i:=3) d rfl;have x4:=zA (i:=4) d rfl;have x5:=zA (i:=5) d rfl;have a1:=lt_of_block d;have x:=Ja (Jb (k.out.1.trans (g.mono k.out.1.size)) d);clear g d))
  |(go_at_call 35;go_must (refine(HC.out.1 _ x.out.1).mono ?_;rintro e w2 ⟨rfl,y⟩)))
 go_ret;exact⟨rfl,x.out.1.trans (y.mono x.out.1.size)⟩
theorem aiA{B:Nat}{V:PV}{p:IProg}(hp:ProgIn w B V p)(hB:B<=w.heap.size)(hs:∀f∈p.funcs,vZ f)(x:vC p=0)(f:Int)(hf:f<0):
 I 16 #[yH V p,U f] w (aeW w):=by
 have j:¬ak2 p f:=fun h=>by have:=h.2.1.1;omega
 have m:∀W,Y w W->I 35 #[yH V p] W (m9 W 0):=fun W hb=>by
  have:=tu (hp.below (hb.mono hB)) (Jn hB hb.size) hs;rw[x] at this;exact this
 have o:∀W,Y w W->I 15 #[yH V p,U f] W (aeW W):=fun W hb=>afU (hp.below (hb.mono hB)) (Jn hB hb.size) hs f j
 have hd:decide (f<0)=true:=decide_eq_true hf;obtain⟨Vf,Va,Vd,Vb⟩:=V;obtain⟨f1,f2,e1,a3,a2⟩:=hp.funcs.form;have a0:Vf=.slice f1 p.funcs.length f2:=e1;subst a0;obtain⟨X,hX⟩:∃X,w.alloc (G #[.slice f1 p.funcs.length f2,Va,U p.entry,U p.handler,Vd,Vb] 29)=X:=⟨_,rfl⟩
 have l:Y w X:=by rw[<-hX];exact(Below.refl _ _).alloc (Je _) _
 have c:Q X w.heap.size #[.slice f1 p.funcs.length f2,Va,U p.entry,U p.handler,Vd,Vb] 29:=by rw[<-hX];exact zI rfl
 have HC:=Ja (show(∀W,Y w W->I 35 #[.agg #[.slice f1 p.funcs.length f2,Va,U p.entry,U p.handler,Vd,Vb]] W (m9 W 0))/\(∀W,Y w W->I 15 #[.agg #[.slice f1 p.funcs.length f2,Va,U p.entry,U p.handler,Vd,Vb],U f] W (aeW W)) from⟨m,o⟩);have x0:=zA (i:=0) c rfl;have x1:=zA (i:=1) c rfl;have x2:=zA (i:=2) c rfl;have x3:=zA (i:=3) c rfl;have x4:=zA (i:=4) c rfl;have x5:=zA (i:=5) c rfl;have t:=lt_of_block c;have k:=Ja (Jb l c);have hq:=fun W=>Lib.run_eql_slice_nil (P:=Tryz.prog) W 34 45 none 0 0 0 0 Tryz.underlying34
 clear hp hB hs m o l c j x hf;unfold yH;go_enter Tryz.func16,Tryz.ntmps16
 go_wp2_with (first
  |(go_at_call 15;go_must (refine(HC.out.2 _ k.out.1).mono ?_;rintro e w1 ⟨rfl,g⟩;have d:=zH g k.out.2 t;clear x0 x1 x2 x3 x4 x5;have x0:=zA (i:=0) d rfl;have x1:=zA (i:=1) d rfl;have x2:=zA (i:=2) d rfl;have x3:=zA (i:=3) d rfl;have x4:=zA (i:=4) d rfl;have x5:=zA (i:=5) d rfl;have a1:=lt_of_block d;have u:=Ja (Jb (k.out.1.trans (g.mono k.out.1.size)) d);clear g d))
  |(go_at_call 35;go_must (refine(HC.out.1 _ u.out.1).mono ?_;rintro e w2 ⟨rfl,y⟩)))
 go_ret;exact⟨rfl,u.out.1.trans (y.mono u.out.1.size)⟩
theorem aix{B:Nat}{V:PV}{p:IProg}(hp:ProgIn w B V p)(hB:B<=w.heap.size)(hs:∀f∈p.funcs,vZ f)(hz:vC p=0)(f:Int)(a1:0<=f)(hf:(p.funcs.length:Int)<=f):
 I 16 #[yH V p,U f] w (aeW w):=by
 have j:¬ak2 p f:=fun h=>by have:=h.2.1.2;omega
 have u:∀W,Y w W->I 35 #[yH V p] W (m9 W 0):=fun W hb=>by
  have:=tu (hp.below (hb.mono hB)) (Jn hB hb.size) hs;rw[hz] at this;exact this
 have x:∀W,Y w W->I 15 #[yH V p,U f] W (aeW W):=fun W hb=>afU (hp.below (hb.mono hB)) (Jn hB hb.size) hs f j
 have hd:decide (f<0)=false:=decide_eq_false Zo;have a6:decide ((p.funcs.length:Int)<=f)=true:=decide_eq_true hf;obtain⟨Vf,Va,Vd,Vb⟩:=V;obtain⟨f1,f2,e1,a5,a4⟩:=hp.funcs.form;have a2:Vf=.slice f1 p.funcs.length f2:=e1;subst a2;obtain⟨X,hX⟩:∃X,w.alloc (G #[.slice f1 p.funcs.length f2,Va,U p.entry,U p.handler,Vd,Vb] 29)=X:=⟨_,rfl⟩
 have o:Y w X:=by rw[<-hX];exact(Below.refl _ _).alloc (Je _) _
 have c:Q X w.heap.size #[.slice f1 p.funcs.length f2,Va,U p.entry,U p.handler,Vd,Vb] 29:=by rw[<-hX];exact zI rfl
 have HC:=Ja (show(∀W,Y w W->I 35 #[.agg #[.slice f1 p.funcs.length f2,Va,U p.entry,U p.handler,Vd,Vb]] W (m9 W 0))/\(∀W,Y w W->I 15 #[.agg #[.slice f1 p.funcs.length f2,Va,U p.entry,U p.handler,Vd,Vb],U f] W (aeW W)) from⟨u,x⟩);have x0:=zA (i:=0) c rfl;have x1:=zA (i:=1) c rfl;have x2:=zA (i:=2) c rfl;have x3:=zA (i:=3) c rfl;have x4:=zA (i:=4) c rfl;have x5:=zA (i:=5) c rfl;have y:=lt_of_block c;have k:=Ja (Jb o c);have hq:=fun W=>Lib.run_eql_slice_nil (P:=Tryz.prog) W 34 45 none 0 0 0 0 Tryz.underlying34
 clear hp hB hs u x o c j hz hf a1;unfold yH;go_enter Tryz.func16,Tryz.ntmps16
 go_wp2_with (first
  |(go_at_call 15;go_must (refine(HC.out.2 _ k.out.1).mono ?_;rintro e w1 ⟨rfl,g⟩;have d:=zH g k.out.2 y;clear x0 x1 x2 x3 x4 x5;have x0:=zA (i:=0) d rfl;have x1:=zA (i:=1) d rfl;have x2:=zA (i:=2) d rfl;have x3:=zA (i:=3) d rfl;have x4:=zA (i:=4) d rfl;have x5:=zA (i:=5) d rfl;have a0:=lt_of_block d;have l:=Ja (Jb (k.out.1.trans (g.mono k.out.1.size)) d);clear g d))
  |(go_at_call 35;go_must (refine(HC.out.1 _ l.out.1).mono ?_;rintro e w2 ⟨rfl,t⟩;have m:=zH t l.out.2 a0;have y0:=zA (i:=0) m rfl;have a3:=lt_of_block m)))
 go_ret;exact⟨rfl,l.out.1.trans (t.mono l.out.1.size)⟩
theorem ajy{B:Nat}{V:PV}{p:IProg}(hp:ProgIn w B V p)(hB:B<=w.heap.size)(hs:∀f∈p.funcs,vZ f)(f:Int)(h:¬(vC p=0/\0<=f/\f.toNat<p.funcs.length)):
 I 16 #[yH V p,U f] w (aeW w):=by
 by_cases hv:vC p=0
 ·by_cases h1:f<0
  ·exact aiA hp hB hs hv f h1
  ·exact aix hp hB hs hv f Zo (by
    by_cases h2:(p.funcs.length:Int)<=f
    ·exact h2
    ·exact absurd ⟨hv,by omega,by omega⟩ h)
 ·exact ait hp hB hs hv f
end Go.Proofs.YtoahcpkibpomcaaGreat
