/- Part of a proof. -/
import Derived.Test.YtojclalkfhoooaaGMkP
import Derived.Test.YtojclalkfhoooaaIEval
import Derived.Test.YtojclalkfhoooaaOrd2
import Derived.Test.YtojclalkfhoooaaISan
set_option linter.unusedSimpArgs false
set_option linter.unusedVariables false
set_option maxHeartbeats 8000000
set_option maxRecDepth 100000
namespace Go.Proofs.Ytojclalkfhoooaa
open Go.RowKit
theorem iQ {α:Type}{x a b:α}(h:x∈ [a,b]):x=a∨x=b:=by simpa using h
theorem jq {a b:Int}(ha:I64 a)(hb:I64 b):∀x∈ [a,b],I64 x:=fun x h=>by
 rcases iQ h with rfl|rfl
 ·exact ha
 ·exact hb
theorem lit_two {w:World}{x y:Int}(hx:I64 x)(hy:I64 y)(X:Nat->Prop)(hX:∀k,X k->k<w.heap.size):
 vT (w.alloc (.cells #[.int .i64 x,.slice none 0 0,.int .i64 y,.slice none 0 0] 75)) X (.slice (some ⟨w.heap.size,0,none⟩) 2 2) [⟨x,[]⟩,⟨y,[]⟩]:=by
 refine qt (l:=[((⟨x,[]⟩:IEdge),Value.slice none 0 0),((⟨y,[]⟩:IEdge),Value.slice none 0 0)]) (e:=75) (zI (by simp)) (fun e=>by have:=hX _ e;omega) (fun q hq=>?_) (by simp)
 rcases iQ hq with rfl|rfl
 ·exact⟨hx,yE.nil⟩
 ·exact⟨hy,yE.nil⟩
theorem OpSt.goto {w0 w:World}{K:MKC}{X0:Nat->Prop}{M0 M:MS}{c:Nat}(h:OpSt w0 K X0 M0 c w M)(k:Nat)(hk:k<M.f.length):OpSt w0 K X0 M0 c (w.setCell ⟨K.pm,5,none⟩ (.int .i64 (k:Int))) {M with cur:=k }:=by
 obtain⟨X,⟨fv,vv,l,hi⟩,hs⟩:=h.made
 exact⟨⟨X,(hi.goto k).1.at,hs.trans (hi.goto k).2⟩,h.gr.trans (vk M k hk),hk⟩
theorem OpSt.facts {w0 w:World}{K:MKC}{X0:Nat->Prop}{M0 M:MS}{c:Nat}(h:OpSt w0 K X0 M0 c w M):∃X fv vv l,MkIn w K X M fv vv l/\Stp X0 w0 X w:=by
 obtain⟨X,⟨fv,vv,l,hi⟩,hs⟩:=h.made
 exact⟨X,fv,vv,l,hi,hs⟩
theorem OpSt.push {w0 w:World}{K:MKC}{X0:Nat->Prop}{M0 M:MS}{c:Nat}(h:OpSt w0 K X0 M0 c w M)(x:Int){w':World}(h':∃X',wW w' K X' {M with vals:=M.vals++ [x]}/\Stp X0 w0 X' w'):OpSt w0 K X0 M0 (c+1) w' {M with vals:=M.vals++ [x]}:=by
 refine⟨h',h.gr.trans ⟨Nat.le_refl _,?_,Nat.le_refl _,Nat.le_refl _,List.prefix_append _ _,fun e=>e,Int.le_refl _,fun e=>e,xU.refl _⟩,h.cur⟩
 unfold MS.sz
 simp only[List.length_append,List.length_singleton]
 omega
theorem loop_any {d:Nat}(hd:d<=5)(hP:sU d){w:World}{K:MKC}{X:Nat->Prop}{M:MS}(h:wW w K X M)(hcur:M.cur<M.f.length)(hz:M.sz+(24+pC d)<=1000000):
 Calls Try.prog 93 #[.pointer (some ⟨K.pm,0,none⟩),.int .i64 ((d:Int)+1)] w (yk K X w (tH K.E (zp K.E d) M) (.tuple #[])):=by
 have HA:=Lib.hid (OpSt.start h hcur)
 have HZ:=Lib.hid (And.intro hz hP)
 clear h hcur hz hP
 go_enter Try.func93,Try.ntmps93
 go_upto_region 1 with(first|(go_at_call 59;go_must (refine(HA.out.take 5 (by decide) (by decide) (by have:=HZ.out.1;omega)).mono ?_;rintro e w1 ⟨z,qz,Hz,rfl,HM1⟩))|(go_at_call 94;go_must (refine(HM1.out.num z (by omega) (by have:=HZ.out.1;omega)).mono ?_;rintro e w2 ⟨rfl,HM2⟩)))
 generalize hn0:((M.tick.next:Nat):Int)=n0 at *
 have hn64:I64 n0:=by rw[<-hn0];exact HM1.out.n64
 have HN:=Lib.hid (And.intro hn0 (And.intro hn64 Hz.out))
 obtain⟨MA,hMA⟩:∃MA,M.tick.num z=MA:=⟨_,rfl⟩
 rw[hMA] at HM2
 have HMA:=Lib.hid hMA
 clear hMA hn0 hn64 HM1 HA
 go_upto_region 2 with(go_at_call 62;go_must (refine(HM2.out.any (by have:=HZ.out.1;omega)).mono ?_;rintro e w3 ⟨x,HX,rfl,HM3⟩))
 obtain⟨MB,hMB⟩:∃MB,(zJ K.E MA).2=MB:=⟨_,rfl⟩
 rw[hMB] at HM3
 obtain⟨tg,htg⟩:∃tg,MB.f.length=tg:=⟨_,rfl⟩
 obtain⟨b1,hb1⟩:∃b1,tg+1=b1:=⟨_,rfl⟩
 obtain⟨b2,hb2⟩:∃b2,tg+2=b2:=⟨_,rfl⟩
 have hB1:=HM3.out.block 2 (by have:=HZ.out.1;omega)
 rw[htg] at hB1
 have hflen:=HM3.out.flen
 rw[htg] at hflen
 have HB1:=Lib.hid hB1
 have HTG:=Lib.hid (And.intro hMB (And.intro htg (And.intro hb1 hb2)))
 clear hB1 hMB htg hb1 hb2 HM2
 go_upto_region 3 with(go_at_call 60;go_must (refine HB1.out.mono ?_;rintro e w4 ⟨rfl,HM4⟩))
 have hB2:=HM4.out.block 0 (by have:=HZ.out.1;omega)
 rw[yz,HTG.out.2.1,HTG.out.2.2.1] at hB2
 have HB2:=Lib.hid hB2
 clear hB2 HB1
 go_upto_region 4 with(go_at_call 60;go_must (refine HB2.out.mono ?_;rintro e w5 ⟨rfl,HM5⟩))
 have hB3:=HM5.out.block 0 (by have:=HZ.out.1;omega)
 rw[yz,yz,HTG.out.2.1,show tg+1+1=tg+2 from rfl,HTG.out.2.2.2] at hB3
 have HB3:=Lib.hid hB3
 clear hB3 HB2
 go_upto_region 5 with(go_at_call 60;go_must (refine HB3.out.mono ?_;rintro e w6 ⟨rfl,HM6⟩))
 have HE1:=Lib.hid (HM6.out.endN 1 0 [⟨(tg:Int),[n0,x]⟩] (.slice (some ⟨w6.heap.size+1,0,none⟩) 1 1) (yF _ rfl) (yF _ rfl) (((Below.refl _ _).alloc (Nat.le_refl _) _).alloc (by simp) _) (pj (w:=w6) (xs:=[n0,x]) (blk:=(tg:Int)) (jq HN.out.2.1 HX.out.1) (by simp) (vG _ (by omega) (by omega))))
 clear HB3
 go_upto_region 6 with(go_at_call 63;go_must (refine HE1.out.mono ?_;rintro e w7 ⟨rfl,HM7⟩))
 obtain⟨M2,hM2⟩:∃M2,(((MB.block 2).block 0).block 0).endB ⟨1,0,[⟨(tg:Int),[n0,x]⟩]⟩=M2:=⟨_,rfl⟩
 rw[hM2] at HM7
 have hlen2:M2.f.length=tg+3:=by rw[<-hM2,(zv _ _).len,yz,yz,yz,HTG.out.2.1]
 have hpar:∃b,M2.f[tg]? =some b/\b.params=[((MB.next:Nat):Int),((MB.next+1:Nat):Int)]:=by
  have h0:(MB.block 2).f[tg]? =some (wJ MB.next 2):=by
   show(MB.f++ [wJ MB.next 2])[tg]? =_
   rw[List.getElem?_append_right (by have:=HTG.out.2.1;omega),HTG.out.2.1,Nat.sub_self]
   rfl
  obtain⟨c1,k1,k2⟩:=(xM (MB.block 2) 0).par _ _ h0
  obtain⟨c2,k3,k4⟩:=(xM ((MB.block 2).block 0) 0).par _ _ k1
  obtain⟨c3,k5,k6⟩:=(zv (((MB.block 2).block 0).block 0) ⟨1,0,[⟨(tg:Int),[n0,x]⟩]⟩).par _ _ k3
  rw[hM2] at k5
  exact⟨c3,k5,k6.trans (k4.trans (k2.trans rfl))⟩
 obtain⟨X7,fv7,vv7,l7,hi7,hs7⟩:=HM7.out.facts
 have hpm7:=lt_of_block hi7.blk
 have c5:=hi7.c5
 have f5:=hi7.free 5
 have hgo:=HM7.out.goto tg (by rw[hlen2];omega)
 have hMBn:=HM3.out.next
 have hMB64:=HM3.out.n64
 have hMB65:I64 ((MB.next+1:Nat):Int):=vG _ (by omega) (by have:=HM4.out.next;show((MB.next+1:Nat):Int)<=1000000;have e:(MB.block 2).next=MB.next+2:=rfl;rw[e] at this;omega)
 have H2:=Lib.hid (And.intro hM2 (And.intro hlen2 (And.intro hgo (And.intro hpar (And.intro hMB64 hMB65)))))
 clear hM2 hlen2 hpar hi7 hs7 hgo hMBn hMB64 hMB65 HE1 HM4 HM5 HM6
 go_upto_region 7 with fail
 generalize hW8:w7.setCell ⟨K.pm,5,none⟩ (.int .i64 (tg:Int))=W8 at *
 obtain⟨M3,hM3⟩:∃M3:MS,{M2 with cur:=tg }=M3:=⟨_,rfl⟩
 have H3:=H2.out.2.2.1
 rw[hM3] at H3
 obtain⟨bk,hbk,hbp⟩:=H2.out.2.2.2.1
 obtain⟨X8,fv8,vv8,l8,hi8,hs8⟩:=H3.facts
 have hf3:M3.f=M2.f:=by rw[<-hM3]
 obtain⟨g,c,pa,pc,hfv,hgl,hcp,hpc⟩:=hi8.parAt (i:=tg) (b:=bk) (by rw[hf3];exact hbk)
 rw[hbp] at hcp hpc
 obtain⟨bb,o,hpa,hbb,hcell0,_⟩:=hpc 0 _ rfl
 obtain⟨bb2,o2,hpa2,_,hcell1,_⟩:=hpc 1 _ rfl
 rw[hpa] at hpa2
 cases hpa2
 rw[Nat.add_zero] at hcell0
 obtain⟨va,vc,hvv⟩:=zG hi8.vown
 have hown:=hi8.vown
 have c4:=hi8.c4
 have c7:=hi8.c7
 have f7:=hi8.free 7
 have lpm:=lt_of_block hi8.blk
 have hjl:tg<l8.length:=by rw[hi8.len,hf3];exact(List.getElem?_eq_some_iff.1 hbk).1
 have hlc:=hi8.flen
 rw[<-hi8.len] at hlc
 have nb:=zC hown hi8.blk (.inr (by decide))
 rw[hvv] at hown c7 nb
 rw[hfv] at c4
 subst hpa
 generalize hn1:((MB.next:Nat):Int)=n1 at hcell0
 generalize hn2:((MB.next+1:Nat):Int)=n2 at hcell1
 have HOWN:=Lib.hid hown
 have HVV:=Lib.hid hvv
 have hvl:M3.vals.length<=999999:=by
  have h1:=hi8.bnd
  have h2:M3.vals.length<=M3.sz:=by unfold MS.sz;omega
  have h3:=H3.gr.sz
  have h4:=HZ.out.1
  omega
 have c7':∀o,(W8.alloc o).cell? ⟨K.pm,7,none⟩=some (.slice va M3.vals.length vc):=fun o=>(World.cell?_of_block (w:=W8) (Below.heap_alloc _ _ _ lpm)).trans c7
 have f7':∀o,(W8.alloc o).frozen? ⟨K.pm,7,none⟩=false:=fun o=>(World.frozen?_of_block (w:=W8) (Below.heap_alloc _ _ _ lpm)).trans f7
 have hB2:K.B<=W8.heap.size:=hi8.size
 obtain⟨ij,hij,hzj0,hzj1,hzj2⟩:=info_parts Try.info_int
 have hv64:I64 n2:=by rw[<-hn2];exact H2.out.2.2.2.2.2
 have hv641:I64 n1:=by rw[<-hn1];exact H2.out.2.2.2.2.1
 have HP:=Lib.hid (And.intro hM3 (And.intro H3 (And.intro hi8 (And.intro hs8 (And.intro hn1 (And.intro hn2 (And.intro hv641 hv64)))))))
 clear hown hvv hpc hfv hM3 H3 hi8 hs8 hn1 hn2 hv64 hv641 hbk hbp hf3
 go_upto_region 8 with fail
 go_cut [] (fun wx=>Hid (OpSt w K X M (1+3+4+(1+2)+(1+0)+(1+0)+1) wx {M3 with vals:=M3.vals++ [n2]}))
 case first=>
  go_region_law (first|(refine step_append_lies _ (by rfl) (.tmp 54) (.tmp 66) _ (by rfl) K.B 3 ij (.int .i64 0) 1 8 Try.underlying22 hij hzj0 hzj1 hzj2 rfl (by omega) (.slice va M3.vals.length vc) M3.vals.length (M3.vals.map zN) (by rfl) ((HOWN.out.alloc _).drew) ⟨W8.heap.size,0,none⟩ 1 1 [.int .i64 n2] (by rfl) (by rfl) (World.news_of_block (cs:=#[.int .i64 n2]) (t:=3) (fr:=(0,0)) (heap_alloc_new W8 _)) (by simp[Value.oneCell']) (by omega) (by unfold maxLen;omega) (by omega) (by simp;omega) (W8.heap.size+1) (by simp) ?_;intro gg cap3 w3 hown3 hgrow hat hlt4;have cp3:=(hgrow.cell_far ⟨K.pm,7,none⟩ (by simp;omega) (Ne.symm nb)).trans (c7' _);have fp3:=(hgrow.frozen_far ⟨K.pm,7,none⟩ (by simp;omega) (Ne.symm nb)).trans (f7' _)))
  all_goals go_wp2_with fail
  all_goals go_meet
  all_goals (
   have hg2:=xN hgrow
   rw[<-HVV.out] at hg2 hat
   have hP:=HP.out.2.2.1.putV (vv':=.slice (some ⟨gg,0,none⟩) (M3.vals.length+1) cap3) (x:=n2) hg2 hown3 (fun k e=>by
    have e2:gg=k:=by simpa[Value.ownBlock] using e
    subst e2
    rcases hat with e3|e3
    ·exact .inl e3
    ·right;omega) HP.out.2.2.2.2.2.2.2 (by
    have h3:=HP.out.2.1.gr.sz
    have h4:=HZ.out.1
    omega)
   exact Lib.hid (HP.out.2.1.push n2 ⟨_,hP.1.at,HP.out.2.2.2.1.trans hP.2⟩))
 case rest=>
 obtain⟨M4,hM4⟩:∃M4:MS,{M3 with vals:=M3.vals++ [n2]}=M4:=⟨_,rfl⟩
 rw[hM4] at hcut
 have hlen4:M4.f.length=tg+3:=by rw[<-hM4,<-HP.out.1];exact H2.out.2.1
 have hb64:I64 (b1:Int)/\I64 (b2:Int):=by
  have h1:=HTG.out.2.2.1
  have h2:=HTG.out.2.2.2
  exact⟨vG _ (by omega) (by have:=hcut.out.flen;omega),vG _ (by omega) (by have:=hcut.out.flen;omega)⟩
 have HE2:=Lib.hid (hcut.out.endN 2 n1 [⟨(b1:Int),[]⟩,⟨(b2:Int),[]⟩] (.slice (some ⟨wc.heap.size,0,none⟩) 2 2) (yF _ rfl) HP.out.2.2.2.2.2.2.1 ((Below.refl _ _).alloc (Nat.le_refl _) _) (lit_two hb64.1 hb64.2))
 have HM4:=Lib.hid (And.intro hM4 hlen4)
 clear hM4 hlen4 hb64 c4 c7 f7 c7' f7' nb lpm hcell0 hcell1 hcp
 go_upto_region 10 with(go_at_call 63;go_must (refine HE2.out.mono ?_;rintro e w9 ⟨rfl,HM9⟩))
 obtain⟨M5,hM5⟩:∃M5,M4.endB ⟨2,n1,[⟨(b1:Int),[]⟩,⟨(b2:Int),[]⟩]⟩=M5:=⟨_,rfl⟩
 rw[hM5] at HM9
 have hlen5:M5.f.length=tg+3:=by rw[<-hM5,(zv _ _).len];exact HM4.out.2
 obtain⟨X9,fv9,vv9,l9,hi9,hs9⟩:=HM9.out.facts
 obtain⟨va9,vc9,hvv9⟩:=zG hi9.vown
 have c7:=hi9.c7
 rw[hvv9] at c7
 have hpm9:=lt_of_block hi9.blk
 have c5:=hi9.c5
 have f5:=hi9.free 5
 have hgo:=HM9.out.goto b1 (by have:=HTG.out.2.2.1;omega)
 have H5:=Lib.hid (And.intro hM5 (And.intro hlen5 hgo))
 clear hM5 hlen5 hi9 hs9 hvv9 hgo HE2
 go_upto_region 12 with fail
 generalize hW10:w9.setCell ⟨K.pm,5,none⟩ (.int .i64 (b1:Int))=W10 at *
 obtain⟨M6,hM6⟩:∃M6:MS,{M5 with cur:=b1 }=M6:=⟨_,rfl⟩
 have HP6:=H5.out.2.2
 rw[hM6] at HP6
 have HPT:=Lib.hid (And.intro (HP6.part HZ.out.2 (by have:=HZ.out.1;omega)) hM6)
 have hwd:IntKind.i64.wrap ((d:Int)+1-1)=(d:Int):=by rw[IntWalk.i64_in _ (by omega)];omega
 clear hM6 HP6 hW10 c5 f5 c7 hpm9
 go_upto_region 13 with(go_at_call 61;go_must (refine HPT.out.1.mono ?_;rintro e w11 ⟨rfl,HM11⟩))
 clear hwd
 obtain⟨M7,hM7⟩:∃M7,zp K.E d M6=M7:=⟨_,rfl⟩
 rw[hM7] at HM11
 have HN7:=Lib.hid (HM11.out.num 1 (by omega) (by have:=HZ.out.1;omega))
 have h64:=HM11.out.n64
 generalize hn3:((M7.next:Nat):Int)=n3 at HN7 h64
 have HH7:=Lib.hid (And.intro hM7 (And.intro hn3 h64))
 clear hM7 hn3 h64
 go_upto_region 14 with(go_at_call 94;go_must (refine HN7.out.mono ?_;rintro e w12 ⟨rfl,HM12⟩))
 have HEM:=HM12.out.emit 6 n1 n3 0 (yF _ rfl) HP.out.2.2.2.2.2.2.1 HH7.out.2.2 (by omega) (by have:=HZ.out.1;omega)
 have e6:sB (M7.num 1) 6=((M7.next+1:Nat):Int):=rfl
 rw[e6] at HEM
 have h65:=HM12.out.n64
 have e7:(M7.num 1).next=M7.next+1:=rfl
 rw[e7] at h65
 generalize hn4:((M7.next+1:Nat):Int)=n4 at HEM h65
 have HEM:=Lib.hid HEM
 have HH8:=Lib.hid (And.intro hn4 h65)
 clear hn4 h65 e6 e7 HN7 HM11
 go_upto_region 15 with(go_at_call 117;go_must (refine HEM.out.mono ?_;rintro e w13 ⟨rfl,HM13⟩))
 obtain⟨M8,hM8⟩:∃M8,(M7.num 1).emit ⟨6,0,n1,n3,0,[]⟩=M8:=⟨_,rfl⟩
 rw[hM8] at HM13
 have HH9:=Lib.hid hM8
 clear hM8 HEM HM12
 have HANY:=Lib.hid (HM13.out.any (by have:=HZ.out.1;omega))
 go_upto_region 16 with(first|(go_at_call 62;go_must (refine HANY.out.mono ?_;rintro e w14 ⟨y,HY,rfl,HM14⟩;have HE3:=Lib.hid (HM14.out.endN 1 0 [⟨(tg:Int),[n4,y]⟩] (.slice (some ⟨w14.heap.size+1,0,none⟩) 1 1) (yF _ rfl) (yF _ rfl) (((Below.refl _ _).alloc (Nat.le_refl _) _).alloc (by simp) _) (pj (w:=w14) (xs:=[n4,y]) (blk:=(tg:Int)) (jq HH8.out.2 HY.out.1) (by simp) (vG _ (by omega) (by omega))))))|(go_at_call 63;go_must (refine HE3.out.mono ?_;rintro e w15 ⟨rfl,HM15⟩)))
 obtain⟨M9,hM9⟩:∃M9,(zJ K.E M8).2.endB ⟨1,0,[⟨(tg:Int),[n4,y]⟩]⟩=M9:=⟨_,rfl⟩
 rw[hM9] at HM15
 obtain⟨X15,fv15,vv15,l15,hi15,hs15⟩:=HM15.out.facts
 obtain⟨va15,vc15,hvv15⟩:=zG hi15.vown
 subst hvv15
 have c7:=hi15.c7
 have f7:=hi15.free 7
 have hpm15:=lt_of_block hi15.blk
 have hg9:GrowP (0+pC d+3+3+4) M5 M9:=by
  have hE:=hi15.at.alt
  have h1:=(vk M5 b1 (by have h1:=HTG.out.2.2.1;have h2:=H5.out.2.1;omega))
  rw[HPT.out.2] at h1
  have h2:=h1.trans (xw K.E hE d M6)
  rw[HH7.out.1] at h2
  have h3:=(h2.trans (wT M7 1).p).trans (yB (M7.num 1) ⟨6,0,n1,n3,0,[]⟩).p
  rw[HH9.out] at h3
  have h4:=(h3.trans (yU K.E M8).p).trans (zv (zJ K.E M8).2 ⟨1,0,[⟨(tg:Int),[n4,y]⟩]⟩).p
  rw[hM9] at h4
  exact h4
 have hge:M5.vals.length<=M9.vals.length:=sg hg9.pre
 have hle:M5.vals.length<=vc15:=Nat.le_trans hge (zm hi15.vown).1
 have hleb:vc15<=9223372036854775807:=by have:=(zm hi15.vown).2;omega
 have hct:=hi15.cut hge
 have c5:=hct.1.c5
 have f5:=hct.1.free 5
 have hgo:=hct.1.goto b2
 have HCT:=Lib.hid (And.intro hct.1 (And.intro hct.2 (And.intro hgo (And.intro hs15 (And.intro hM9 hg9)))))
 clear hi15 hge hct hs15 hM9 hg9 hgo
 go_upto_region 17 with fail
 generalize hW16:w15.setCell ⟨K.pm,7,none⟩ (.slice va15 M5.vals.length vc15)=W16 at *
 have hpm16:=lt_of_block HCT.out.1.blk
 clear c7 f7 hpm15
 go_wp2
 first|go_end0|refine bodyPost_ret (results_none rfl _ _ _) rfl ?_
 refine⟨rfl,X15,?_,(HCT.out.2.2.2.1.trans HCT.out.2.1).trans HCT.out.2.2.1.2⟩
 have e:tH K.E (zp K.E d) M= {M9 with vals:=M9.vals.take M5.vals.length,cur:=b2 }:=by
  unfold tH
  simp only
  have k1:((M.next:Nat):Int)=n0:=HN.out.1
  have k4:({M2 with cur:=tg,vals:=M2.vals++ [n2]}:MS)=M4:=by rw[<-HM4.out.1,<-HP.out.1]
  rw[HN.out.2.2,HMA.out,HX.out.2,HTG.out.1,HTG.out.2.1,k1,H2.out.1,HP.out.2.2.2.2.2.1,k4,HP.out.2.2.2.2.1,HTG.out.2.2.1,HTG.out.2.2.2,H5.out.1,HPT.out.2,HH7.out.1,HH7.out.2.1,HH8.out.1,HH9.out,HY.out.2,HCT.out.2.2.2.2.1]
 rw[e]
 exact HCT.out.2.2.1.1.at
open Go.RowKit
theorem OpSt.op {w0 w:World}{K:MKC}{X0:Nat->Prop}{M0 M:MS}{c:Nat}(h:OpSt w0 K X0 M0 c w M)(hz:M0.sz+(c+20)<=1000000):
 Calls Try.prog 91 #[.pointer (some ⟨K.pm,0,none⟩)] w fun e w'=>e=.returned (.tuple #[])/\Hid (OpSt w0 K X0 M0 (c+20) w' (xK K.E M)):=by
 obtain⟨X,hm,hs⟩:=h.made
 refine(op_any hm h.cur (by have:=h.gr.sz;omega)).mono ?_
 rintro e w' ⟨rfl,X',hm',hs'⟩
 have hg:=pX K.E hm.alt M
 exact⟨rfl,Lib.hid ⟨⟨X',hm',hs.trans hs'⟩,h.gr.trans hg.p,by rw[hg.cur,hg.len];exact h.cur⟩⟩
theorem OpSt.mono {w0 w:World}{K:MKC}{X0:Nat->Prop}{M0 M:MS}{c c':Nat}(h:OpSt w0 K X0 M0 c w M)(hc:c<=c'):OpSt w0 K X0 M0 c' w M:=⟨h.made,h.gr.mono hc,h.cur⟩
theorem sU.of {d:Nat}(h:∀(w:World) (K:MKC) (X:Nat->Prop) (M:MS),OpSt w K X M 0 w M->M.sz+pC d<=1000000->Calls Try.prog 61 #[.pointer (some ⟨K.pm,0,none⟩),.int .i64 (d:Int)] w (yk K X w (zp K.E d M) (.tuple #[]))):sU d:=
 fun w K X M hm hc hz=>h w K X M (OpSt.start hm hc) hz
theorem OpSt.choice {w0 w:World}{K:MKC}{X0:Nat->Prop}{M0 M:MS}{c d:Nat}(h:OpSt w0 K X0 M0 c w M)(hd:d<=5)(hP:sU d)(n:Nat)(nI:Int)(hnI:(n:Int)=nI)(hn2:2<=n)(hn4:n<=4)(hz:M0.sz+(c+(31+4*pC d))<=1000000):
 Calls Try.prog 92 #[.pointer (some ⟨K.pm,0,none⟩),.int .i64 ((d:Int)+1),.int .i64 nI] w fun e w'=>e=.returned (.tuple #[])/\Hid (OpSt w0 K X0 M0 (c+(31+4*pC d)) w' (xi K.E (zp K.E d) n M)):=by
 obtain⟨X,hm,hs⟩:=h.made
 rw[<-hnI]
 refine(lH hd hP hm h.cur hn2 hn4 (by have:=h.gr.sz;omega)).mono ?_
 rintro e w' ⟨rfl,X',hm',hs'⟩
 have hg:=uU K.E _ _ (xw K.E hm.alt d) n hn4 M
 exact⟨rfl,Lib.hid ⟨⟨X',hm',hs.trans hs'⟩,h.gr.trans hg,hg.cur h.cur⟩⟩
theorem OpSt.loop {w0 w:World}{K:MKC}{X0:Nat->Prop}{M0 M:MS}{c d:Nat}(h:OpSt w0 K X0 M0 c w M)(hd:d<=5)(hP:sU d)(hz:M0.sz+(c+(24+pC d))<=1000000):
 Calls Try.prog 93 #[.pointer (some ⟨K.pm,0,none⟩),.int .i64 ((d:Int)+1)] w fun e w'=>e=.returned (.tuple #[])/\Hid (OpSt w0 K X0 M0 (c+(24+pC d)) w' (tH K.E (zp K.E d) M)):=by
 obtain⟨X,hm,hs⟩:=h.made
 refine(loop_any hd hP hm h.cur (by have:=h.gr.sz;omega)).mono ?_
 rintro e w' ⟨rfl,X',hm',hs'⟩
 have hg:=qg K.E _ _ (xw K.E hm.alt d) M
 exact⟨rfl,Lib.hid ⟨⟨X',hm',hs.trans hs'⟩,h.gr.trans hg,hg.cur h.cur⟩⟩
theorem OpSt.counted {w0 w:World}{K:MKC}{X0:Nat->Prop}{M0 M:MS}{c:Nat}(h:OpSt w0 K X0 M0 c w M)(hp:M0.pos<M.pos)(hl:M.left=M0.left)(h0:6<=M0.left+M0.pos):OpSt w0 K X0 M0 c (w.setCell ⟨K.pm,8,none⟩ (.int .i64 (M.left-1))) {M with left:=M.left-1 }:=by
 obtain⟨X,⟨fv,vv,l,hi⟩,hs⟩:=h.made
 have h1:6<=(M.left-1)+(M.pos:Int):=by omega
 have h2:=hi.setC 8 (.int .i64 (M.left-1)) {M with left:=M.left-1 } vv rfl rfl hi.vown hi.v64 hi.xv hi.bnd ⟨h1,by have:=hi.lft;show M.left-1<=6;omega⟩
 have g:=h.gr
 exact⟨⟨X,h2.1.at,hs.trans h2.2⟩,⟨g.pos,g.sz,g.len,g.nxt,g.pre,g.cur,by have:=g.left;show M.left-1<=_;omega,fun _=>h1,g.par⟩,h.cur⟩
theorem km:sU 0:=sU.of fun w K X M h hz=>by
 have HA:=Lib.hid (And.intro h hz)
 clear h hz
 show Calls Try.prog 61 #[.pointer (some ⟨K.pm,0,none⟩),.int .i64 0] w _
 go_enter Try.func61,Try.ntmps61
 go_wp2_with (go_at_call 59;go_must (refine(HA.out.1.take 5 (by decide) (by decide) (by have:=HA.out.2;unfold pC at this;omega)).mono ?_;rintro e w1 ⟨t,ht,HT,rfl,HM1⟩))
 go_loopw [4] (fun kv wx=>∃(kI:Int) (Mj:MS),-1<=kI/\kI<=(t:Int)/\kv=.int .i64 kI/\Hid (OpSt w K X M (1+20*((t:Int)-kI).toNat) wx Mj/\qY K.E (t+1) M.tick=qY K.E (kI+1).toNat Mj/\Mj.left=M.left/\M.pos<Mj.pos)) (fun kv _=>(intOf kv+1).toNat)
 case atStart=>exact⟨_,_,by omega,by omega,rfl,Lib.hid ⟨HM1.out.mono (by omega),by congr 1,rfl,Nat.lt_succ_self _⟩⟩
 case round=>
  obtain⟨kI,Mj,hk1,hk2,rfl,HJ⟩:=hrel
  by_cases h0:0<=kI
  ·have HO:=Lib.hid (HJ.out.1.op (by have:=HA.out.2;unfold pC at this;omega))
   go_wp2_with (go_at_call 91;go_must (refine HO.out.mono ?_;rintro e w2 ⟨rfl,HM2⟩))
   go_roundw
   case rel=>
    have hg:=pX K.E (by obtain⟨X',hm,_⟩:=HJ.out.1.made;exact hm.alt) Mj
    refine⟨kI-1,_,by omega,by omega,rfl,Lib.hid ⟨HM2.out.mono (by omega),?_,hg.left.trans HJ.out.2.2.1,Nat.lt_of_lt_of_le HJ.out.2.2.2 hg.pos⟩⟩
    rw[HJ.out.2.1,show(kI+1).toNat=(kI-1+1).toNat+1 by omega]
    rfl
   case measure=>simp[intOf];omega
  ·obtain rfl:kI=-1:=by omega
   obtain⟨X',fv,vv,l,hi,hs⟩:=HJ.out.1.facts
   have hl0:6<=M.left+M.pos:=by
    obtain⟨_,_,_,_,hi0,_⟩:=HA.out.1.facts
    exact hi0.lft.1
   have hcn:=HJ.out.1.counted HJ.out.2.2.2 HJ.out.2.2.1 hl0
   have c8:=hi.c8
   have f8:=hi.free 8
   have hpm:=lt_of_block hi.blk
   have hlf:=hi.lft
   have hbd:(Mj.pos:Int)<=1000000:=by have:=hi.bnd;unfold MS.sz at this;omega
   have hwl:IntKind.i64.wrap (Mj.left-1)=Mj.left-1:=IntWalk.i64_in _ (by omega)
   have HC:=Lib.hid hcn
   clear hi hs hcn hl0
   go_wp2
   first|go_end0|refine bodyPost_ret (results_none rfl _ _ _) rfl ?_
   have e:zp K.E 0 M= {Mj with left:=Mj.left-1 }:=by
    show tR K.E M=_
    unfold tR
    simp only
    rw[HT.out,HJ.out.2.1]
    rfl
   rw[e]
   exact HC.out.ret
theorem jB {d:Nat}(hd:d<=5)(hP:sU d):sU (d+1):=sU.of fun w K X M h hz=>by
 have hzz:pC (d+1)=134+4*pC d:=rfl
 rw[hzz] at hz
 have HA:=Lib.hid (And.intro h hz)
 have HPD:=Lib.hid hP
 clear h hz hP hzz
 have hdl:¬((d:Int)+1<1):=by omega
 have hdf:decide ((d:Int)+1<1)=false:=by rw[decide_eq_false_iff_not];omega
 rw[show((d+1:Nat):Int)=(d:Int)+1 from Int.natCast_succ d]
 go_enter Try.func61,Try.ntmps61
 go_wp2_with (go_at_call 59;go_must (refine(HA.out.1.take 5 (by decide) (by decide) (by have:=HA.out.2;omega)).mono ?_;rintro e w1 ⟨t,ht,HT,rfl,HM1⟩))
 go_loopw [4] (fun kv wx=>∃(kI:Int) (Mj:MS),-1<=kI/\kI<=(t:Int)/\kv=.int .i64 kI/\Hid (OpSt w K X M (1+20*((t:Int)-kI).toNat) wx Mj/\qY K.E (t+1) M.tick=qY K.E (kI+1).toNat Mj/\Mj.left=M.left/\M.pos<Mj.pos)) (fun kv _=>(intOf kv+1).toNat)
 case atStart=>exact⟨_,_,by omega,by omega,rfl,Lib.hid ⟨HM1.out.mono (by omega),by congr 1,rfl,Nat.lt_succ_self _⟩⟩
 case round=>
  obtain⟨kI,Mj,hk1,hk2,rfl,HJ⟩:=hrel
  by_cases h0:0<=kI
  ·have HO:=Lib.hid (HJ.out.1.op (by have:=HA.out.2;omega))
   go_wp2_with (go_at_call 91;go_must (refine HO.out.mono ?_;rintro e w2 ⟨rfl,HM2⟩))
   go_roundw
   case rel=>
    have hg:=pX K.E (by obtain⟨X',hm,_⟩:=HJ.out.1.made;exact hm.alt) Mj
    refine⟨kI-1,_,by omega,by omega,rfl,Lib.hid ⟨HM2.out.mono (by omega),?_,hg.left.trans HJ.out.2.2.1,Nat.lt_of_lt_of_le HJ.out.2.2.2 hg.pos⟩⟩
    rw[HJ.out.2.1,show(kI+1).toNat=(kI-1+1).toNat+1 by omega]
    rfl
   case measure=>simp[intOf];omega
  ·obtain rfl:kI=-1:=by omega
   obtain⟨X',fv,vv,l,hi,hs⟩:=HJ.out.1.facts
   have hl0:6<=M.left+M.pos:=by
    obtain⟨_,_,_,_,hi0,_⟩:=HA.out.1.facts
    exact hi0.lft.1
   have hcn:=HJ.out.1.counted HJ.out.2.2.2 HJ.out.2.2.1 hl0
   have c8:=hi.c8
   have f8:=hi.free 8
   have hpm:=lt_of_block hi.blk
   have hlf:=hi.lft
   have hbd:(Mj.pos:Int)<=1000000:=by have:=hi.bnd;unfold MS.sz at this;omega
   have hwl:IntKind.i64.wrap (Mj.left-1)=Mj.left-1:=IntWalk.i64_in _ (by omega)
   obtain⟨M2,hM2⟩:∃M2:MS,{Mj with left:=Mj.left-1 }=M2:=⟨_,rfl⟩
   rw[hM2] at hcn
   have e2:tR K.E M=M2:=by
    rw[<-hM2]
    unfold tR
    simp only
    rw[HT.out,HJ.out.2.1]
    rfl
   have hc8:=World.cell?_setCell_same _ _ (.int .i64 (Mj.left-1)) c8
   have hl2:Mj.left-1=M2.left:=by rw[<-hM2]
   have HC:=Lib.hid (And.intro (hcn.mono (show 1+20*((t:Int) - -1).toNat<=101 by omega)) (And.intro e2 hl2))
   clear hi hs hcn hl0 hM2 e2 hl2
   go_upto_region 5 with fail
   generalize hW2:wr.setCell ⟨K.pm,8,none⟩ (.int .i64 (Mj.left-1))=W2 at *
   generalize hL:Mj.left-1=L at *
   clear c8 f8 hwl hlf hbd hW2 hL HJ
   by_cases hL1:L<1
   ·have hLb:decide (L<1)=true:=by rw[decide_eq_true_iff];exact hL1
    go_wp2
    first|go_end0|refine bodyPost_ret (results_none rfl _ _ _) rfl ?_
    have e:zp K.E (d+1) M=M2:=by
     unfold zp
     simp only
     rw[HC.out.2.1,if_pos (by rw[<-HC.out.2.2];exact hL1)]
    rw[e]
    exact HC.out.1.ret
   ·have hLb:decide (L<1)=false:=by rw[decide_eq_false_iff_not];exact hL1
    have hmk:zp K.E (d+1) M=if tkV K.E M2 5=1∨tkV K.E M2 5=2 then xi K.E (zp K.E d) 2 M2.tick else if tkV K.E M2 5=3 then tH K.E (zp K.E d) M2.tick else if tkV K.E M2 5=4 then xi K.E (zp K.E d) (2+tkV K.E M2.tick 3) M2.tick.tick else M2.tick:=by
     conv=>lhs;unfold zp
     simp only
     rw[HC.out.2.1,if_neg (by rw[<-HC.out.2.2];exact hL1)]
    have HMK:=Lib.hid hmk
    clear hmk
    have hz5:=vO K.E M2 (n:=5) (by omega)
    obtain⟨k,hk⟩:∃k,tkV K.E M2 5=k:=⟨_,rfl⟩
    rw[hk] at hz5
    have HK:=Lib.hid hk
    clear hk
    match k,hz5,HK with
    |0,_,HK=>
     go_wp2_with (go_at_call 59;go_must (refine(HC.out.1.takeK 5 0 0 rfl HK.out (by decide) (by decide) (by have:=HA.out.2;omega)).mono ?_;rintro e w3 ⟨rfl,HM3⟩))
     first|go_end0|refine bodyPost_ret (results_none rfl _ _ _) rfl ?_
     rw[HMK.out,HK.out]
     exact HM3.out.ret
    |1,_,HK=>
     go_wp2_with (first|(go_at_call 59;go_must (refine(HC.out.1.takeK 5 1 1 rfl HK.out (by decide) (by decide) (by have:=HA.out.2;omega)).mono ?_;rintro e w3 ⟨rfl,HM3⟩))|(go_at_call 92;go_must (refine(HM3.out.choice hd HPD.out 2 2 rfl (by decide) (by decide) (by have:=HA.out.2;omega)).mono ?_;rintro e w4 ⟨rfl,HM4⟩)))
     first|go_end0|refine bodyPost_ret (results_none rfl _ _ _) rfl ?_
     rw[HMK.out,HK.out]
     exact HM4.out.ret
    |2,_,HK=>
     go_wp2_with (first|(go_at_call 59;go_must (refine(HC.out.1.takeK 5 2 2 rfl HK.out (by decide) (by decide) (by have:=HA.out.2;omega)).mono ?_;rintro e w3 ⟨rfl,HM3⟩))|(go_at_call 92;go_must (refine(HM3.out.choice hd HPD.out 2 2 rfl (by decide) (by decide) (by have:=HA.out.2;omega)).mono ?_;rintro e w4 ⟨rfl,HM4⟩)))
     first|go_end0|refine bodyPost_ret (results_none rfl _ _ _) rfl ?_
     rw[HMK.out,HK.out]
     exact HM4.out.ret
    |3,_,HK=>
     go_wp2_with (first|(go_at_call 59;go_must (refine(HC.out.1.takeK 5 3 3 rfl HK.out (by decide) (by decide) (by have:=HA.out.2;omega)).mono ?_;rintro e w3 ⟨rfl,HM3⟩))|(go_at_call 93;go_must (refine(HM3.out.loop hd HPD.out (by have:=HA.out.2;omega)).mono ?_;rintro e w4 ⟨rfl,HM4⟩)))
     first|go_end0|refine bodyPost_ret (results_none rfl _ _ _) rfl ?_
     rw[HMK.out,HK.out]
     exact HM4.out.ret
    |4,_,HK=>
     have HG:=Lib.hid HC.out.1
     go_wp2_with (first|(go_at_call 59;refine(HG.out.takeK 5 4 4 rfl HK.out (by decide) (by decide) (by have:=HA.out.2;omega)).mono ?_;clear HG;rintro e w3 ⟨rfl,HM3⟩)|(go_at_call 59;refine(HM3.out.take 3 (by decide) (by decide) (by have:=HA.out.2;omega)).mono ?_;clear HM3;rintro e w4 ⟨z,hz3,HZ3,rfl,HM4⟩)|(go_at_call 92;refine(HM4.out.choice hd HPD.out (2+z) (2+(z:Int)) (by omega) (by omega) (by omega) (by have:=HA.out.2;omega)).mono ?_;rintro e w5 ⟨rfl,HM5⟩))
     first|go_end0|refine bodyPost_ret (results_none rfl _ _ _) rfl ?_
     rw[HMK.out,HK.out,HZ3.out]
     exact HM5.out.ret
    |k+5,h,_=>exact absurd h (by omega)
theorem pW:∀d,d<=5->sU d
 |0,_=>km
 |d+1,h=>jB (by omega) (pW d (by omega))
open Go.RowKit
def jQ {α:Type}(R:World->(Nat->Prop)->Nat->Nat->α->Prop):Prop:=∀w X Y b q x,(∀k,Y k->X k)->R w X b q x->R w Y b q x
theorem yE.anti {α:Type}{sz:Nat}{R:World->(Nat->Prop)->Nat->Nat->α->Prop}(hR:jQ R){w:World}{X Y:Nat->Prop}{v:Value}{xs:List α}(h:yE sz R w X v xs)(hY:∀k,Y k->X k):yE sz R w Y v xs:=by
 obtain⟨a,cap,rfl,h1,h2,h3⟩:=h
 refine⟨a,cap,rfl,h1,h2,fun k x hk=>?_⟩
 obtain⟨b,o,h4,h5,h6,h7⟩:=h3 k x hk
 exact⟨b,o,h4,h5,fun e=>h6 (hY _ e),hR _ _ _ _ _ _ hY h7⟩
theorem vu:jQ IntG:=fun w X Y b q x hY h=>h
theorem qd:jQ EdgeG:=fun w X Y b q x hY h=>by
 obtain⟨h1,h2,av,h3,h4⟩:=h
 exact⟨h1,h2,av,h3,h4.anti vu hY⟩
def OpG (w:World)(X:Nat->Prop)(b q:Nat)(x:IOp):Prop:=
 w.cell? ⟨b,q,none⟩=some (.int .i64 x.code)/\w.cell? ⟨b,q+1,none⟩=some (.int .i64 x.res)/\w.cell? ⟨b,q+2,none⟩=some (.int .i64 x.a)/\w.cell? ⟨b,q+3,none⟩=some (.int .i64 x.b)/\w.cell? ⟨b,q+4,none⟩=some (.int .u16 (x.n:Int))/\
  (I64 x.code/\I64 x.res/\I64 x.a/\I64 x.b/\x.n<65536)/\∃av,w.cell? ⟨b,q+5,none⟩=some av/\wm w X av x.args
theorem lu:rP OpG:=fun X w X' w' b q x _ hx hs h=>by
 obtain⟨h1,h2,h3,h4,h5,h6,av,h7,h8⟩:=h
 exact⟨hs.cell h1 hx,hs.cell h2 hx,hs.cell h3 hx,hs.cell h4 hx,hs.cell h5 hx,h6,av,hs.cell h7 hx,h8.step zn hs⟩
theorem opG_anti:jQ OpG:=fun w X Y b q x hY h=>by
 obtain⟨h1,h2,h3,h4,h5,h6,av,h7,h8⟩:=h
 exact⟨h1,h2,h3,h4,h5,h6,av,h7,h8.anti vu hY⟩
abbrev OpsG:=yE 6 OpG
def BlkG (w:World)(X:Nat->Prop)(b q:Nat)(x:IBlk):Prop:=
 w.cell? ⟨b,q+2,none⟩=some (.int .i64 x.term.kind)/\w.cell? ⟨b,q+3,none⟩=some (.int .i64 x.term.a)/\(I64 x.term.kind/\I64 x.term.a)/\
  ∃pv ov tv,w.cell? ⟨b,q,none⟩=some pv/\w.cell? ⟨b,q+1,none⟩=some ov/\w.cell? ⟨b,q+4,none⟩=some tv/\wm w X pv x.params/\OpsG w X ov x.ops/\vT w X tv x.term.to
theorem xq:rP BlkG:=fun X w X' w' b q x _ hx hs h=>by
 obtain⟨h1,h2,h3,pv,ov,tv,h4,h5,h6,h7,h8,h9⟩:=h
 exact⟨hs.cell h1 hx,hs.cell h2 hx,h3,pv,ov,tv,hs.cell h4 hx,hs.cell h5 hx,hs.cell h6 hx,h7.step zn hs,h8.step lu hs,h9.step yq hs⟩
theorem jG:jQ BlkG:=fun w X Y b q x hY h=>by
 obtain⟨h1,h2,h3,pv,ov,tv,h4,h5,h6,h7,h8,h9⟩:=h
 exact⟨h1,h2,h3,pv,ov,tv,h4,h5,h6,h7.anti vu hY,h8.anti opG_anti hY,h9.anti qd hY⟩
abbrev pf:=yE 5 BlkG
theorem OpsG.to {w:World}{X:Nat->Prop}{v:Value}{xs:List IOp}(h:OpsG w X v xs):mN w w.heap.size v xs:=yE.to h fun _ _ _ h=>by
 obtain⟨h1,h2,h3,h4,h5,h6,av,h7,h8⟩:=h
 exact⟨h1,h2,h3,h4,h5,h6,av,h7,wm.to h8⟩
theorem pf.to {w:World}{X:Nat->Prop}{v:Value}{xs:List IBlk}(h:pf w X v xs):wX w w.heap.size v xs:=yE.to h fun _ _ _ h=>by
 obtain⟨h1,h2,h3,pv,ov,tv,h4,h5,h6,h7,h8,h9⟩:=h
 exact⟨h1,h2,h3,pv,ov,tv,h4,h5,h6,wm.to h7,OpsG.to h8,vT.to h9⟩
theorem qv {α β:Type}{sz:Nat}{f:β->List Value}{g:β->α}{R:World->(Nat->Prop)->Nat->Nat->α->Prop}(hsz:0<sz)(hf:∀a,(f a).length=sz){w:World}{X:Nat->Prop}{S:Nat}{e:TypeId}{v:Value}{l:List β}(h:w.ownsRow S e sz v l.length (l.flatMap f))(hX:∀k,v.ownBlock=some k->¬X k)
 (hR:∀q∈l,∀b o,(∀j u,(f q)[j]? =some u->w.cell? ⟨b,o+j,none⟩=some u)->R w X b o (g q)):yE sz R w X v (l.map g):=by
 obtain⟨a,c,rfl⟩:=zG h
 have hl:=zm h
 refine⟨a,c,by rw[List.length_map],by rw[List.length_map];exact hl.1,by omega,fun k o hk=>?_⟩
 rw[List.getElem?_map,Option.map_eq_some_iff] at hk
 obtain⟨q,hq,rfl⟩:=hk
 have hkl:=(List.getElem?_eq_some_iff.1 hq).1
 obtain⟨gg,cap,e,hg,hb⟩:=h.form (by omega)
 cases e
 refine⟨gg,0,rfl,hb,hX gg rfl,hR q (List.mem_of_getElem? hq) _ _ fun j u hj=>?_⟩
 have hjs:j<sz:=by rw[<-hf q];exact(List.getElem?_eq_some_iff.1 hj).1
 rw[Nat.zero_add]
 exact(h.cellAt (k*sz+j) (by
  have:(k+1)*sz<=l.length*sz:=Nat.mul_le_mul_right sz hkl
  rw[Nat.add_mul] at this
  omega)).trans ((uB f sz hf l k q hq j hjs).trans hj)
theorem mF (q:IOp×Value):(zU q).length=6:=rfl
theorem MkIn.blks {w:World}{K:MKC}{X:Nat->Prop}{M:MS}{fv vv:Value}{l:List BM}(h:MkIn w K X M fv vv l):pf w (fun k=>k=K.pm∨K.Z k) fv M.f:=by
 have hY:∀k,(k=K.pm∨K.Z k)->K.av X k:=fun k e=>e.elim (fun e=> .inl (by rw[e];exact h.xm)) .inr
 rw[h.fl]
 refine qv (by decide) yr h.own (fun k e e2=>?_) (fun q hq b o hc=>?_)
 ·rcases e2 with e2|e2
  ·exact zC h.own h.blk (.inr (by decide)) (by rw[e,e2])
  ·exact h.env.zx k (h.xf k e) e2
 ·have ok:=h.bok q hq
  refine⟨hc 2 _ rfl,hc 3 _ rfl,ok.k64,q.pv,q.ov,q.tv,hc 0 _ rfl,hc 1 _ rfl,hc 4 _ rfl,ok.par.anti vu hY,?_,ok.tos.anti qd hY⟩
  rw[ok.ops]
  refine qv (by decide) mF ok.own (fun k e e2=>?_) (fun p hp b2 o2 hc2=>?_)
  ·rcases e2 with e2|e2
   ·exact zC ok.own h.blk (.inr (by decide)) (by rw[e,e2])
   ·exact h.env.zx k (ok.inX k e) e2
  ·have oa:=ok.arg p hp
   exact⟨hc2 0 _ rfl,hc2 1 _ rfl,hc2 2 _ rfl,hc2 3 _ rfl,hc2 4 _ rfl,oa.1,p.2,hc2 5 _ rfl,oa.2.anti vu hY⟩
theorem MkIn.putVs {w w3:World}{K:MKC}{X:Nat->Prop}{M:MS}{fv vv vv':Value}{l:List BM}(h:MkIn w K X M fv vv l)(hg:w.grownBy w3 vv.ownBlock){xs:List Int}{n:Nat}(hn:n=M.vals.length+xs.length)
 (hown:w3.ownsRow K.B 3 1 vv' n (M.vals.map zN++xs.map zN)) (hat:∀k,vv'.ownBlock=some k->vv.ownBlock=some k∨w.heap.size<=k) (hx:∀x∈xs,I64 x) (hz:M.sz+xs.length<=1000000):
 MkIn (w3.setCell ⟨K.pm,7,none⟩ vv') K (fun k=>X k∨vv'.ownBlock=some k) {M with vals:=M.vals++xs } fv vv' l/\Stp X w (fun k=>X k∨vv'.ownBlock=some k) (w3.setCell ⟨K.pm,7,none⟩ vv'):=by
 subst hn
 have n1:=zC h.vown h.blk (.inr (by decide))
 have hb3:=zL hg h.blk n1
 have hsz:w.heap.size<=w3.heap.size:=hg.size
 have hk:∀k,k<w.heap.size->k≠K.pm->vv.ownBlock≠some k->(w3.setCell ⟨K.pm,7,none⟩ vv').heap[k]? =w.heap[k]?:=fun k hk hne hv=>
  (Below.heap_setCell w3 ⟨K.pm,7,none⟩ vv' k hne).trans (hg.block k hk (fun e=>hv e.symm))
 have hs:Stp X w (fun k=>X k∨vv'.ownBlock=some k) (w3.setCell ⟨K.pm,7,none⟩ vv'):=
  ⟨hg.os,hg.tape,hg.output,by simpa using hsz,fun k hx'=>hx'.elim .inl (fun e=>(hat k e).elim (fun e2=> .inl (h.xv k e2)) .inr),fun k hk' hxk=>hk k hk' (fun e=>hxk (by rw[e];exact h.xm)) (fun e=>hxk (h.xv k e))⟩
 have hoth:∀ {v:Value} {e:TypeId} {sz n:Nat} {xs:List Value},w.ownsRow K.B e sz v n xs->e≠3->e≠120->∀k,v.ownBlock=some k->(w3.setCell ⟨K.pm,7,none⟩ vv').heap[k]? =w.heap[k]?:=fun {v e sz n xs} ho h1 h2 k hk'=>by
  refine hk k (ho.lt k hk').2 (fun e3=>zC ho h.blk (.inr h2) (by rw[hk',e3])) (fun e3=>?_)
  rcases zo ho h.vown h1 with h4|h4
  ·rw[h4] at hk';cases hk'
  ·exact h4 (by rw[hk',e3])
 refine⟨⟨?_,yD h.own (hoth h.own (by decide) (by decide)),h.fl,fun q hq=>(h.bok q hq).step hs (hoth (h.bok q hq).own (by decide) (by decide)) (fun _ e=> .inl e),h.apart,?_,?_,.inl h.xm,fun k e=> .inl (h.xf k e),fun k e=> .inr e,fun k e=>e.elim (h.xB k) (fun e2=>(hown.lt k e2).1),fun k e=>?_,h.env.step hs (hs.below h.xB h.size),?_,h.lft⟩,hs⟩
 ·rw[zD hb3];rfl
 ·show(w3.setCell ⟨K.pm,7,none⟩ vv').ownsRow K.B 3 1 vv' (M.vals++xs).length ((M.vals++xs).map zN)
  rw[List.length_append,List.map_append]
  exact ownsRow_setCell_other hown (fun e=>zC hown hb3 (.inr (by decide)) (by simpa using e)) _
 ·intro y hy
  rcases List.mem_append.1 hy with hy|hy
  ·exact h.v64 y hy
  ·exact hx y hy
 ·rcases e with e|e
  ·have:=h.xl k e;simp;omega
  ·have:=(hown.lt k e).2;simpa using this
 ·unfold MS.sz at *;simp only[List.length_append];omega
open Go.RowKit
structure MDC where
 sv:Value
 apv:Value
 dv:Value
 bv:Value
 pm:Nat
 pp:Nat
 fb:Nat
 rr:Nat
 B:Nat
def mdK (s:List Int)(C:MDC)(k:Nat):MKC:=⟨xC s k,C.sv,.slice (some ⟨C.fb,0,none⟩) (mdN s) (mdN s),C.apv,C.dv,C.bv,C.pm,C.pp,C.B,fun j=>(j=C.fb∨j=C.rr)∨j<C.B⟩
theorem MkEnv.me {w:World}{s:List Int}{C:MDC}{j k:Nat}{X:Nat->Prop}(h:MkEnv w (mdK s C j) X)(hk:k<mdN s):MkEnv w (mdK s C k) X:=
 ⟨h.s,h.fpv,h.prog,h.args,h.data,h.ppX,h.h64,h.len,⟨h.nf.1,hk⟩,h.alt,h.zx,h.zl⟩
theorem MkEnv.anti {w:World}{K:MKC}{X Y:Nat->Prop}(h:MkEnv w K X)(hY:∀k,Y k->X k):MkEnv w K Y:=by
 have ha:∀k,K.av Y k->K.av X k:=fun k e=>e.elim (fun e=> .inl (hY k e)) .inr
 obtain⟨b,e1,e2,e3⟩:=h.data
 exact⟨h.s,h.fpv,h.prog,h.args.anti vu ha,⟨b,e1,fun e=>e2 (ha _ e),e3⟩,fun e=>h.ppX (ha _ e),h.h64,h.len,h.nf,h.alt,fun k e=>h.zx k (hY k e),h.zl⟩
theorem MkEnv.stepA {w w':World}{K:MKC}{X:Nat->Prop}(h:MkEnv w K X)(ha:Stp (K.av X) w (K.av X) w')(hb:Below K.B w w'):MkEnv w' K X:=by
 obtain⟨b,e1,e2,e3⟩:=h.data
 exact⟨h.s.below zO hb,h.fpv,ha.blk h.prog h.ppX,h.args.step zn ha,⟨b,e1,e2,ha.blk e3 e2⟩,h.ppX,h.h64,h.len,h.nf,h.alt,h.zx,fun k e=>Nat.lt_of_lt_of_le (h.zl k e) ha.size⟩
structure MdAt (s:List Int) (C:MDC) (w0:World) (k:Nat) (wx:World):Prop where
 env:MkEnv wx (mdK s C 0) (fun j=>j=C.pm)
 mkr:∃(me:Value) (cur:Nat) (fv next vv left:Value),wx.heap[C.pm]? =some (.cells #[C.sv,.int .i64 ((zg s k).2:Int),.pointer (some ⟨C.pp,0,none⟩),me,fv,.int .i64 (cur:Int),next,vv,left] 120 (0,0))
 row:∃hs:List Value,hs.length=mdN s/\wx.heap[C.fb]? =some (.cells hs.toArray 43 (0,0))/\∀(j:Nat) (x:List IBlk),(zg s k).1[j]? =some x->∃v:Value,hs[j]? =some v/\pf wx (fun i=>i=C.pm∨((i=C.fb∨i=C.rr)∨i<C.B)) v x
 bel:Below w0.heap.size w0 wx
 hB:C.B=w0.heap.size
 pmB:C.B<=C.pm
 fbB:C.B<=C.fb
 rrB:C.B<=C.rr
theorem MdAt.start {s:List Int}{C:MDC}{w0 wx W:World}{k:Nat}(h:MdAt s C w0 k wx)(hk:k<mdN s){cur next:Nat}(hpos:(zg s k).2+1+next<=900000)
 (hW:W.heap[C.pm]? =some (.cells (uC (mdK s C k) ⟨(zg s k).2+1,[],cur,next,[],6⟩ (.slice none 0 0) (.slice none 0 0)) 120 (0,0)))
 (hs:Stp (fun j=>j=C.pm) wx (fun j=>j=C.pm) W):MkIn W (mdK s C k) (fun j=>j=C.pm) ⟨(zg s k).2+1,[],cur,next,[],6⟩ (.slice none 0 0) (.slice none 0 0) []:=
 ⟨hW,World.ownsRow_nil _ _ _ _,rfl,fun q hq=>by simp at hq,fun i j qi qj k hi=>by simp at hi,World.ownsRow_nil _ _ _ _,fun x hx=>by simp at hx,rfl,fun k e=>by simp[Value.ownBlock] at e,fun k e=>by simp[Value.ownBlock] at e,
  fun k e=>by rw[e];exact h.pmB,fun k e=>by rw[e];exact lt_of_block hW,(h.env.step hs (hs.below (fun k e=>by rw[e];exact h.pmB) (by show C.B<=_;rw[h.hB];exact h.bel.size))).me hk,by unfold MS.sz;simp[nN];omega,⟨by show(6:Int)<=6+_;omega,by show(6:Int)<=6;omega⟩⟩
theorem MdAt.done {s:List Int}{C:MDC}{w0 wx W W2:World}{k:Nat}(h:MdAt s C w0 k wx)(hk:k<mdN s){X:Nat->Prop}{fv vv:Value}{l:List BM}(hm:MkIn W (mdK s C k) X (xR (xC s k) (zg s k).2) fv vv l)(hs:Stp (fun j=>j=C.pm) wx X W)(hlen:(zg s k).1.length=k)
 (hW2:W2.heap.size=W.heap.size/\W2.os=W.os/\W2.tape=W.tape/\W2.output=W.output) (hk2:∀i,i≠C.fb->W2.heap[i]? =W.heap[i]?) (hfb:∀cs:Array Value,W.heap[C.fb]? =some (.cells cs 43 (0,0))->W2.heap[C.fb]? =some (.cells (cs.setIfInBounds k fv) 43 (0,0))):MdAt s C w0 (k+1) W2:=by
 obtain⟨row,hrl,hrb,hrow⟩:=h.row
 have hzx:¬(C.fb=C.pm):=fun e=>h.env.zx C.pm rfl (.inl (.inl e.symm))
 have hzX:¬X C.fb:=fun e=>hm.env.zx C.fb e (.inl (.inl rfl))
 have hst2:Stp ((mdK s C k).av fun j=>j=C.pm) W ((mdK s C k).av fun j=>j=C.pm) W2:=⟨hW2.2.1,hW2.2.2.1,hW2.2.2.2,by rw[hW2.1];exact Nat.le_refl _,fun k e=> .inl e,fun i _ hx=>hk2 i (fun e=>hx (.inr (.inl (.inl e))))⟩
 have hBw:C.B<=wx.heap.size:=by rw[h.hB];exact h.bel.size
 have hb1:Below C.B wx W:=hs.below (fun k e=>by rw[e];exact h.pmB) hBw
 have hfbB:C.B<=C.fb:=h.fbB
 have hb2:Below C.B W W2:=⟨hW2.2.1,hW2.2.2.1,hW2.2.2.2,by rw[hW2.1];exact Nat.le_refl _,fun i hi=>hk2 i (by omega)⟩
 have henv:MkEnv W2 (mdK s C 0) (fun j=>j=C.pm):=((hm.env.anti (fun i e=>by rw[e];exact hm.xm)).stepA hst2 hb2).me (by have:=hk;omega)
 have hfl:C.fb<wx.heap.size:=lt_of_block hrb
 refine⟨henv,?_,?_,?_,h.hB,h.pmB,h.fbB,h.rrB⟩
 ·have h1:=hm.blk
  exact⟨_,_,_,_,_,_,(hk2 C.pm (fun e=>hzx e.symm)).trans h1⟩
 ·have hrb1:W.heap[C.fb]? =some (.cells row.toArray 43 (0,0)):=(hs.kept _ hfl (fun e=>hzx e)).trans hrb
  refine⟨row.set k fv,by rw[List.length_set];exact hrl,by rw[hfb _ hrb1];simp,fun j x hj=>?_⟩
  have e1:(zg s (k+1)).1=(zg s k).1++ [(xR (xC s k) (zg s k).2).f]:=rfl
  rw[e1] at hj
  by_cases hjk:j<k
  ·rw[List.getElem?_append_left (by omega)] at hj
   obtain⟨v,hv,hbl⟩:=hrow j x hj
   refine⟨v,by rw[List.getElem?_set_ne (by omega)];exact hv,?_⟩
   have h2:pf W ((mdK s C k).av X) v x:=yE.step (X:=(mdK s C k).av fun j=>j=C.pm) xq hbl (hs.av _)
   have h3:pf W ((mdK s C k).av fun j=>j=C.pm) v x:=h2.anti jG (fun i e=>e.elim (fun e=> .inl (by rw[e];exact hm.xm)) .inr)
   exact h3.step xq hst2
  ·have hj2:j=k:=by
    have:=(List.getElem?_eq_some_iff.1 hj).1
    simp at this
    omega
   subst hj2
   rw[List.getElem?_append_right (by omega),hlen,Nat.sub_self] at hj
   cases hj
   refine⟨fv,by rw[List.getElem?_set_self (by omega)],?_⟩
   have h2:pf W ((mdK s C j).av fun i=>i=C.pm) fv (xR (xC s j) (zg s j).2).f:=hm.blks
   exact h2.step xq hst2
 ·have e:C.B=w0.heap.size:=h.hB
  have:=h.bel.trans (B:=w0.heap.size) (by rw[<-e];exact hb1.trans hb2)
  exact this
theorem tf {w:World}{pm pos B:Nat}{cs:Array Value}{s:List Int}{sv:Value}(hb:w.heap[pm]? =some (.cells cs 120 (0,0)))(h0:cs[0]? =some sv)(h1:cs[1]? =some (.int .i64 (pos:Int)))(hs:zY w B sv s){n:Nat}(hn:0<n)(hn2:n<=1000000)(hpos:pos+1<=1000000):
 Calls Try.prog 59 #[.pointer (some ⟨pm,0,none⟩),.int .i64 (n:Int)] w fun e w'=>e=.returned (.int .i64 (tk0 s pos n:Nat))/\w'.heap[pm]? =some (.cells (cs.setIfInBounds 1 (.int .i64 ((pos+1:Nat):Int))) 120 (0,0))/\Stp (fun j=>j=pm) w (fun j=>j=pm) w':=by
 have c0:=zA hb h0
 have c1:=zA hb h1
 obtain⟨sa,sc,hsv,hsl,hsm⟩:=hs.form
 rw[hsv] at c0 hs
 have f1:w.frozen? ⟨pm,1,none⟩=false:=zE hb
 have hpm:=lt_of_block hb
 have HT:=Lib.hid (show ∀n,((w.drewN n).setCell ⟨pm,1,none⟩ (.int .i64 ((pos:Int)+1))).heap[pm]? =some (.cells (cs.setIfInBounds 1 (.int .i64 ((pos+1:Nat):Int))) 120 (0,0))/\Stp (fun j=>j=pm) w (fun j=>j=pm) ((w.drewN n).setCell ⟨pm,1,none⟩ (.int .i64 ((pos:Int)+1))) from fun n=>
  ⟨zD (w:=w.drewN n) hb _,⟨rfl,rfl,rfl,by simp,fun _ h=> .inl h,fun k hk hx=>Below.heap_setCell _ _ _ _ (fun e=>hx (by rw[e]))⟩⟩)
 have hp:(pos:Int)+1<=1000000:=by omega
 clear hb h0 h1
 by_cases hlt:pos<s.length
 ·obtain⟨x,hx⟩:∃x,s[pos]? =some x:=⟨_,List.getElem?_eq_getElem hlt⟩
  obtain⟨b,o,rfl,hb,hc,h64⟩:=hs.get hx
  rw[Nat.mul_one] at hc
  have hI:(pos:Int)<(s.length:Int):=by omega
  have hv:tk0 s pos n=(x%(n:Int)).toNat:=by unfold tk0;rw[List.getD_eq_getElem?_getD,hx];rfl
  have e1:=rK x n hn hn2
  rw[hv]
  have HV:=Lib.hid e1
  clear hs hx hb e1 hv
  go_enter Try.func59,Try.ntmps59
  go_wp2
  go_quiet (fail)
  go_wp2
  go_quiet (fail)
  go_wp2
  go_ret
  exact⟨zh HV.out,(HT.out _).1,(HT.out _).2⟩
 ·have hI:¬(pos:Int)<(s.length:Int):=by omega
  have hv:tk0 s pos n=((0:Int)%(n:Int)).toNat:=by unfold tk0;rw[List.getD_eq_getElem?_getD,List.getElem?_eq_none (by omega)];rfl
  have e1:=rK 0 n hn hn2
  rw[hv]
  have HV:=Lib.hid e1
  clear hs hv e1
  go_enter Try.func59,Try.ntmps59
  go_wp2
  go_quiet (fail)
  go_wp2
  go_ret
  exact⟨zh (by simp),(HT.out _).1,(HT.out _).2⟩
open Go.RowKit
theorem pN {w:World}{b n:Nat}{l:List Nat}(h:w.heap[b]? =some (.cells (l.map wz).toArray 5 (0,0)))(hl:l.length=n):
 (convert 37 9 (.slice (some ⟨b,0,none⟩) n n)).run Try.prog w=.ok (.string (y9 l)) w:=by
 refine run_convert_bytes_arg w 37 5 Try.underlying37 Try.underlying5 b 0 n n (l.map fun(n:Nat)=>(n:Int)) (by simpa using hl) (fun i hi=>?_) 9 Try.underlying9
 rw[Nat.zero_add]
 have hil:i<l.length:=by omega
 refine zA h ?_
 simp[List.getD_eq_getElem?_getD,List.getElem?_eq_getElem hil,wz]
open Go.RowKit
theorem rX (s:List Int)(pos:Nat){n:Nat}(hn:0<n):tk0 s pos n<n:=by
 unfold tk0
 have h1:=Int.emod_nonneg (s.getD pos 0) (show(n:Int)≠0 by omega)
 have h2:=Int.emod_lt_of_pos (s.getD pos 0) (show(0:Int)<n by omega)
 omega
theorem sm (s:List Int):1<=mdN s/\mdN s<=4:=by
 have:=rX s 0 (n:=4) (by omega)
 unfold mdN
 omega
theorem yY (s:List Int):∀n,(yS s n).length=n
 |0=>rfl
 |n+1=>by unfold yS;rw[List.length_append,yY s n];rfl
theorem xy (s:List Int):∀n,∀x∈yS s n,0<=x/\x<4
 |0,x,h=>by unfold yS at h;simp at h
 |n+1,x,h=>by
  unfold yS at h
  rcases List.mem_append.1 h with h|h
  ·exact xy s n x h
  ·have:=rX s n (n:=4) (by omega)
   rw[List.mem_singleton] at h
   subst h
   split<;>omega
theorem yx (s:List Int):∀k,(zg s k).1.length=k
 |0=>rfl
 |k+1=>by
  show((zg s k).1++ [_]).length=_
  rw[List.length_append,yx s k];rfl
theorem args_le {E:ME}(hE:∀x∈E.args,0<=x/\x<4)(f:Nat):(E.args.getD f 0).toNat<=3:=by
 rw[List.getD_eq_getElem?_getD]
 cases hx:E.args[f]? with
 |none=>simp
 |some x=>have:=hE x (List.mem_of_getElem? hx);simp only[Option.getD_some];omega
theorem sd (n p:Nat):(wJ n p).params.length=p:=by unfold wJ;simp
theorem sQ {E:ME}(hE:∀x∈E.args,0<=x/\x<4)(pos:Nat):(xD E pos).sz<=pos+40:=by
 have h1:=args_le hE E.me
 have h2:=vO E ⟨pos,[],0,0,[],6⟩ (n:=3) (by omega)
 unfold xD
 simp only
 unfold MS.sz MS.block MS.tick
 simp only[sd,List.nil_append,ma,List.length_singleton]
 omega
theorem rx {E:ME}(hE:∀x∈E.args,0<=x/\x<4)(pos:Nat):GrowP 2829 (xD E pos) (xR E pos):=by
 have h:=(xw E hE 2 (xD E pos)).trans (xw E hE 1 (zp E 2 (xD E pos)))
 have e:pC 2+pC 1=2824:=rfl
 rw[e] at h
 unfold xR
 simp only
 have ht:=h.trans (zT (zp E 1 (zp E 2 (xD E pos)))).p
 split
 ·exact(ht.trans (zv _ _).p).mono (by omega)
 split
 ·exact(ht.trans (zv _ _).p).mono (by omega)
 ·exact((ht.trans (yU E _).p).trans (zv _ _).p).mono (by omega)
theorem lN {E:ME}(hE:∀x∈E.args,0<=x/\x<4)(pos:Nat):(xR E pos).pos<=pos+3000:=by
 have h1:=(rx hE pos).sz
 have h2:=sQ hE pos
 have h3:(xR E pos).pos<=(xR E pos).sz:=by unfold MS.sz;omega
 omega
theorem mdPos_le (s:List Int):sP s<=5:=by
 have:=sm s
 unfold sP
 split<;>omega
theorem pos_step {x y k:Nat}(h1:y<=5+k*3000)(h2:x<=y+3000):x<=5+(k+1)*3000:=by omega
theorem tU (s:List Int)(k:Nat):(zg s k).2<=5+k*3000:=by
 induction k with
 |zero=>exact mdPos_le s
 |succ k ih=>exact pos_step ih (lN (E:=xC s k) (xy s _) (zg s k).2)
def rp (k:Nat):Nat:=(k*k+k/256)%256
def iu:List Nat:=(List.range 4096).map rp
def uQ (k:Nat):List Nat:=(List.range 4096).map fun j=>if j<k then rp j else 0
theorem pM (k:Nat):(uQ k).length=4096:=by simp[uQ]
theorem mM:uQ 0=List.replicate 4096 0:=by
 apply List.ext_getElem?
 intro j
 unfold uQ
 rw[List.getElem?_map,List.getElem?_replicate]
 by_cases h:j<4096
 ·rw[List.getElem?_range h,if_pos h];rfl
 ·rw[List.getElem?_eq_none (by simpa using h),if_neg h];rfl
theorem nu:uQ 4096=iu:=List.map_congr_left fun j hj=>if_pos (List.mem_range.1 hj)
theorem kC {k:Nat}(h:k<4096):(uQ k).set k (rp k)=uQ (k+1):=by
 apply List.ext_getElem?
 intro j
 rw[List.getElem?_set,pM]
 unfold uQ
 rw[List.getElem?_map,List.getElem?_map]
 by_cases e:k=j
 ·subst e
  rw[if_pos rfl,if_pos h,List.getElem?_range h]
  show some _=some (if k<k+1 then rp k else 0)
  rw[if_pos (by omega)]
 ·rw[if_neg e]
  by_cases hj:j<4096
  ·rw[List.getElem?_range hj]
   show some (if j<k then rp j else 0)=some (if j<k+1 then rp j else 0)
   by_cases h2:j<k
   ·rw[if_pos h2,if_pos (by omega)]
   ·rw[if_neg h2,if_neg (by omega)]
  ·rw[List.getElem?_eq_none (by simpa using hj)];rfl
theorem ll (n:Nat):(((List.range n).map rp).map fun(n:Nat)=>(n:Int)).map (fun n=>UInt8.ofNat n.toNat)=(List.range n).map fun k=>UInt8.ofNat (k*k+k/256):=by
 rw[List.map_map,List.map_map]
 apply List.map_congr_left
 intro k hk
 show UInt8.ofNat (((rp k:Nat):Int).toNat)=_
 rw[Int.toNat_natCast]
 unfold rp
 apply UInt8.toNat_inj.1
 simp
theorem mq:y9 iu=sG:=congrArg (fun l:List UInt8=>(⟨l.toArray⟩:ByteArray)) (ll 4096)
theorem mG (l:List Nat):(y9 l).size=l.length:=by
 unfold y9 strOfNums
 show Array.size _=_
 simp
open Go.RowKit
theorem mk_bank (W:World):(Instr.makeSlice 37 (.int .i64 4096) (.int .i64 4096)).run Try.prog W=.ok (.slice (some ⟨W.heap.size,0,none⟩) 4096 4096) (W.alloc (.cells (madeCells #[.int .u8 0] 4096) 5)):=
 run_make_row' (P:=Try.prog) 37 5 (.int .u8 0) 1 Try.underlying37 Try.info_u8 rfl .i64 .i64 4096 (by decide) (by decide) W
def dataC:Array Value:=#[.int .i64 (-1),.int .u16 16384,.int .u16 16,.int .i64 (-1),.int .u16 16640,.int .u16 7,.int .i64 0,.int .u16 128,.int .u16 32]
structure MdHd (w:World) (sv av:Value) (rr sb pp db pm:Nat) (hnd:Int) (fpv:Value) (args:List Int) (pos:Nat) (wx:World):Prop where
 res:wx.heap[rr]? =some (.cells #[.slice none 0 0,.slice none 0 0,.int .i64 0,.int .i64 0,.slice none 0 0,.slice none 0 0] 29 (0,0))
 bank:wx.heap[sb]? =some (.cells #[.string sG] 9 (0,0))
 prog:wx.heap[pp]? =some (.cells #[fpv,av,.int .i64 0,.int .i64 hnd,.slice (some ⟨db,0,none⟩) 3 3,.slice (some ⟨sb,0,none⟩) 1 1] 29 (0,0))
 data:wx.heap[db]? =some (.cells dataC 51 (0,0))
 mkr:wx.heap[pm]? =some (.cells #[sv,.int .i64 (pos:Int),.pointer (some ⟨pp,0,none⟩),.int .i64 0,.slice none 0 0,.int .i64 0,.int .i64 0,.slice none 0 0,.int .i64 0] 120 (0,0))
 own:wx.ownsRow w.heap.size 3 1 av args.length (args.map zN)
 bel:Below w.heap.size w wx
 ges:w.heap.size<=rr/\w.heap.size<=sb/\w.heap.size<=pp/\w.heap.size<=db/\w.heap.size<=pm
 nes:rr≠sb/\rr≠pp/\rr≠db/\rr≠pm/\sb≠pp/\sb≠db/\sb≠pm/\pp≠db/\pp≠pm/\db≠pm
theorem md_setup {w wr:World}{sv:Value}{rr:Nat}(hrr:w.heap.size=rr)(hr:wr.heap[rr]? =some (.cells #[.slice none 0 0,.slice none 0 0,.int .i64 0,.int .i64 0,.slice none 0 0,.slice none 0 0] 29 (0,0)))(hb:Below rr w wr):
 MdHd w sv (.slice none 0 0) rr wr.heap.size (wr.heap.size+1) (wr.heap.size+1+1) (wr.heap.size+1+1+1) (-1) (.slice none 0 0) [] 0
  ((((wr.alloc (.cells #[.string sG] 9)).alloc (.cells #[.slice none 0 0,.slice none 0 0,.int .i64 0,.int .i64 (-1),.slice (some ⟨wr.heap.size+1+1,0,none⟩) 3 3,.slice (some ⟨wr.heap.size,0,none⟩) 1 1] 29)).alloc (.cells #[.int .i64 (-1),.int .u16 16384,.int .u16 16,.int .i64 (-1),.int .u16 16640,.int .u16 7,.int .i64 0,.int .u16 128,.int .u16 32] 51)).alloc
    (.cells #[sv,.int .i64 0,.pointer (some ⟨wr.heap.size+1,0,none⟩),.int .i64 0,.slice none 0 0,.int .i64 0,.int .i64 0,.slice none 0 0,.int .i64 0] 120)):=by
 have hl:=lt_of_block hr
 have hge:rr<=wr.heap.size:=by omega
 refine⟨zB (zB (zB (zB hr))),zB (zB (zB (zI rfl))),zB (zB (zI (by simp))),zB (zI (by simp)),zI (by simp),World.ownsRow_nil _ _ _ _,?_,?_,?_⟩
 ·subst hrr
  exact(((hb.alloc hge _).alloc (by simp;omega) _).alloc (by simp;omega) _).alloc (by simp;omega) _
 ·omega
 ·omega
section
variable {w:World} {sv av:Value} {rr sb pp db pm:Nat} {hnd:Int} {fpv:Value} {args:List Int} {pos:Nat} {wx:World} (h:MdHd w sv av rr sb pp db pm hnd fpv args pos wx)
include h
theorem MdHd.tick {w':World}(hb:w'.heap[pm]? =some (.cells (#[sv,.int .i64 (pos:Int),.pointer (some ⟨pp,0,none⟩),.int .i64 0,.slice none 0 0,.int .i64 0,.int .i64 0,.slice none 0 0,.int .i64 0].setIfInBounds 1 (.int .i64 ((pos+1:Nat):Int))) 120 (0,0)))(hs:Stp (fun j=>j=pm) wx (fun j=>j=pm) w'):
 MdHd w sv av rr sb pp db pm hnd fpv args (pos+1) w':=by
 obtain⟨n1,n2,n3,n4,n5,n6,n7,n8,n9,n10⟩:=h.nes
 refine⟨hs.blk h.res n4,hs.blk h.bank n7,hs.blk h.prog n9,hs.blk h.data n10,hb,yD h.own (fun k e=>hs.kept k (h.own.lt k e).2 (fun e2=>?_)),h.bel.trans ((hs.below (B:=w.heap.size) (fun k e=>by rw[e];exact h.ges.2.2.2.2) h.bel.size)),h.ges,h.nes⟩
 exact zC h.own h.mkr (.inr (by decide)) (by rw[e,e2])
theorem MdHd.push {w3:World}{av':Value}{o:Obj}{x:Int}(hg:(wx.alloc o).grownBy w3 av.ownBlock)(hown:w3.ownsRow w.heap.size 3 1 av' (args.length+1) (args.map zN++ [zN x])):
 MdHd w sv av' rr sb pp db pm hnd fpv (args++ [x]) pos (w3.setCell ⟨pp,1,none⟩ av'):=by
 obtain⟨n1,n2,n3,n4,n5,n6,n7,n8,n9,n10⟩:=h.nes
 have hb:∀ {b:Nat} {cs:Array Value} {t:TypeId},wx.heap[b]? =some (.cells cs t (0,0))->3≠t->w3.heap[b]? =some (.cells cs t (0,0)):=fun hb hne=>zL hg (zB hb) (zC h.own hb (.inr hne))
 have hp3:=hb h.prog (by decide)
 have hsz:wx.heap.size<=w3.heap.size:=by have:=hg.size;simp at this;omega
 refine⟨zR (hb h.res (by decide)) n2,zR (hb h.bank (by decide)) n5,?_,zR (hb h.data (by decide)) (fun e=>n8 e.symm),zR (hb h.mkr (by decide)) (fun e=>n9 e.symm),?_,?_,h.ges,h.nes⟩
 ·rw[zD hp3];rfl
 ·rw[List.length_append,List.length_singleton,List.map_append]
  exact ownsRow_setCell_other hown (fun e=>zC hown hp3 (.inr (by decide)) (by simpa using e)) _
 ·have h1:Below w.heap.size wx w3:=by
   refine⟨hg.os,hg.tape,hg.output,hsz,fun k hk=>?_⟩
   exact(hg.block k (by have:=h.bel.size;simp;omega) (fun e=>by have:=(h.own.lt k e.symm).1;omega)).trans (Below.heap_alloc wx o k (Nat.lt_of_lt_of_le hk h.bel.size))
  exact h.bel.trans (h1.setCell h.ges.2.2.1 _)
end
theorem mk_funcs (n:Nat)(hn:n<=4)(W:World):(Instr.makeSlice 25 (.int .i64 (n:Int)) (.int .i64 (n:Int))).run Try.prog W=.ok (.slice (some ⟨W.heap.size,0,none⟩) n n) (W.alloc (.cells (List.replicate n (Value.slice none 0 0)).toArray 43)):=by
 obtain⟨i,hi,hz0,hz1,hz2⟩:=info_parts Try.info_irfunc
 have h:=run_make (P:=Try.prog) W 25 43 i (.agg #[.slice none 0 0]) Try.underlying25 hi hz0 .i64 .i64 n n (by omega) (Int.le_refl _) (by rw[hz2];omega) (by omega)
 rw[Int.toNat_natCast,hz1,Nat.mul_one] at h
 rw[h]
 have e:madeCells (Value.agg #[Value.slice none 0 0]).cells n=(List.replicate n (Value.slice none 0 0)).toArray:=yA _ _
 rw[e]
theorem MdHd.funcs {w:World}{sv av:Value}{rr sb pp db pm:Nat}{hnd:Int}{fpv:Value}{args:List Int}{pos:Nat}{wx:World}(h:MdHd w sv av rr sb pp db pm hnd fpv args pos wx)(o:Obj)(u:Value):
 MdHd w sv av rr sb pp db pm hnd u args pos ((wx.setCell ⟨pp,0,none⟩ u).alloc o):=by
 obtain⟨n1,n2,n3,n4,n5,n6,n7,n8,n9,n10⟩:=h.nes
 refine⟨zB (zR h.res n2),zB (zR h.bank n5),zB ?_,zB (zR h.data (fun e=>n8 e.symm)),zB (zR h.mkr (fun e=>n9 e.symm)),?_,(h.bel.setCell h.ges.2.2.1 _).alloc (by simpa using h.bel.size) _,h.ges,h.nes⟩
 ·rw[zD h.prog];rfl
 ·exact(ownsRow_setCell_other h.own (fun e=>zC h.own h.prog (.inr (by decide)) (by simpa using e)) _).alloc _
theorem MdHd.hnd {w:World}{sv av:Value}{rr sb pp db pm:Nat}{hnd:Int}{fpv:Value}{args:List Int}{pos:Nat}{wx:World}(h:MdHd w sv av rr sb pp db pm hnd fpv args pos wx)(x:Int):
 MdHd w sv av rr sb pp db pm x fpv args pos (wx.setCell ⟨pp,3,none⟩ (.int .i64 x)):=by
 obtain⟨n1,n2,n3,n4,n5,n6,n7,n8,n9,n10⟩:=h.nes
 refine⟨zR h.res n2,zR h.bank n5,?_,zR h.data (fun e=>n8 e.symm),zR h.mkr (fun e=>n9 e.symm),?_,h.bel.setCell h.ges.2.2.1 _,h.ges,h.nes⟩
 ·rw[zD h.prog];rfl
 ·exact ownsRow_setCell_other h.own (fun e=>zC h.own h.prog (.inr (by decide)) (by simpa using e)) _
theorem rm {w:World}{a b:Nat}{ca cb:Array Value}{ta tb:TypeId}(ha:w.heap[a]? =some (.cells ca ta (0,0)))(hb:w.heap[b]? =some (.cells cb tb (0,0)))(hne:ta≠tb):a≠b:=fun e=>by
 subst e
 rw[ha] at hb
 injection hb with h3
 injection h3 with _ h4
 exact hne h4
theorem mc (s:List Int):I64 (vw s):=by
 have:=sm s
 unfold vw
 split
 ·exact vG _ (by omega) (by omega)
 ·exact yF _ rfl
theorem MdHd.at {w:World}{s:List Int}{sv av:Value}{rr sb pp db pm fb:Nat}{wx:World}(h:MdHd w sv av rr sb pp db pm (vw s) (.slice (some ⟨fb,0,none⟩) (mdN s) (mdN s)) (yS s (mdN s)) (sP s) wx)
 (hfb:wx.heap[fb]? =some (.cells (List.replicate (mdN s) (Value.slice none 0 0)).toArray 43 (0,0))) (hB:w.heap.size<=fb) (hs:zY w w.heap.size sv s):
 MdAt s ⟨sv,av,.slice (some ⟨db,0,none⟩) 3 3,.slice (some ⟨sb,0,none⟩) 1 1,pm,pp,fb,rr,w.heap.size⟩ w 0 wx:=by
 obtain⟨n1,n2,n3,n4,n5,n6,n7,n8,n9,n10⟩:=h.nes
 have npf:pm≠fb:=rm h.mkr hfb (by decide)
 have npp:pp≠fb:=rm h.prog hfb (by decide)
 have ndf:db≠fb:=rm h.data hfb (by decide)
 have hN:=sm s
 refine⟨⟨hs.below zO h.bel,⟨_,_,rfl⟩,h.prog,?_,⟨db,rfl,fun e=>e.elim (fun e=>n10 e) (fun e=>e.elim (fun e=>e.elim (fun e=>ndf e) (fun e=>n3 e.symm)) (fun e=>by have h1:=h.ges.2.2.2.1;have e':db<w.heap.size:=e;omega)),h.data⟩,fun e=>e.elim (fun e=>n9 e) (fun e=>e.elim (fun e=>e.elim (fun e=>npp e) (fun e=>n2 e.symm)) (fun e=>by have h1:=h.ges.2.2.1;have e':pp<w.heap.size:=e;omega)),mc s,yY s _,⟨hN.2,hN.1⟩,xy s _,fun k e e2=>e2.elim (fun e2=>e2.elim (fun e2=>npf (e.symm.trans e2)) (fun e2=>n4 (e2.symm.trans e))) (fun e2=>by have h1:k=pm:=e;have h2:k<w.heap.size:=e2;have h3:=h.ges.2.2.2.2;omega),fun k e=>e.elim (fun e=>e.elim (fun e=>by rw[show k=fb from e];exact lt_of_block hfb) (fun e=>by rw[show k=rr from e];exact lt_of_block h.res)) (fun e=>by have h2:k<w.heap.size:=e;have h3:=h.bel.size;omega)⟩,⟨_,0,_,_,_,_,h.mkr⟩,⟨_,by simp,hfb,fun j x hj=>?_⟩,h.bel,rfl,h.ges.2.2.2.2,hB,h.ges.1⟩
 ·refine rO h.own rfl (fun x hx=>?_) (fun k e e2=>?_)
  ·have:=xy s _ x hx
   exact vG _ (by omega) (by omega)
  ·rcases e2 with e2|(e2|e2)|e2
   ·exact zC h.own h.mkr (.inr (by decide)) (e.trans (congrArg some e2))
   ·exact zC h.own hfb (.inr (by decide)) (e.trans (congrArg some e2))
   ·exact zC h.own h.res (.inr (by decide)) (e.trans (congrArg some e2))
   ·have h1:=(h.own.lt k e).1
    have h2:k<w.heap.size:=e2
    omega
 ·have e:(zg s 0).1=[]:=rfl
  rw[e] at hj
  simp at hj
def qR (C:MDC)(w wx:World):Prop:=w.heap.size<=wx.heap.size/\∀b,b<w.heap.size->b≠C.pm->b≠C.fb->wx.heap[b]? =w.heap[b]?
theorem MkIn.parSrc {w:World}{K:MKC}{X:Nat->Prop}{M:MS}{fv vv:Value}{l:List BM}(h:MkIn w K X M fv vv l){i:Nat}{b:IBlk}(hb:M.f[i]? =some b):
 ∃g c pa pc,fv=.slice (some ⟨g,0,none⟩) l.length c/\g<w.heap.size/\w.cell? ⟨g,i*5,none⟩=some (.slice pa b.params.length pc)/\yM w 1 (.slice pa b.params.length pc) b.params.length (b.params.map zN)/\∀x∈b.params,I64 x:=by
 obtain⟨q,hq,rfl,hok⟩:=h.getB hb
 obtain⟨g,c,hfv,hXg,hgl,hgp⟩:=h.fblk hq
 have hrg:=z9 yr h.own (by rw[hfv];rfl) hq
 have e0:w.cell? ⟨g,i*5,none⟩=some q.pv:=hrg 0 _ rfl
 have hp:=wm.to hok.par
 obtain⟨pa,pc,hpv,h1,h2,h3⟩:=hok.par
 rw[hpv] at hp e0
 refine⟨g,c,pa,pc,hfv,hgl,e0,zY.src hp,fun x hx=>?_⟩
 obtain⟨k,hk⟩:=List.mem_iff_getElem?.1 hx
 obtain⟨_,_,_,_,_,_,h8⟩:=h3 k x hk
 exact h8
theorem Stp.setPm {w:World}{pm i:Nat}(u:Value):Stp (fun j=>j=pm) w (fun j=>j=pm) (w.setCell ⟨pm,i,none⟩ u):=
 ⟨rfl,rfl,rfl,by simp,fun _ h=> .inl h,fun k hk hx=>Below.heap_setCell _ _ _ _ (fun e=>hx (by rw[e]))⟩
theorem yG {P:Program}{w:World}{ops:Array Oper}{o:Oper}{a:Act}{K:Act->World->Prop}{Q:Exit->Act->World->Prop}{E:Prop}(hgd:o.guard=none)(s x:Operand)(t:TypeId)
 (ho:o.op=.call {callee:=.builtin .append,args:=#[s,x],argTypes:=#[t,t]})
 (base:Nat) (e:TypeId) (i:TypeInfo) (z:Value) (size bytes:Nat) (ht:P.underlying t=some (.slice e)) (hi:P.info? e=some i) (hz:i.zero=some z)
 (hsize:i.size=size) (hby:i.bytes=bytes) (hzs:z.cells.size=size) (hsz:0<size)
 (v:Value) (n:Nat) (xs:List Value) (hs:a.eval s=v) (hown:w.ownsRow base e size v n xs)
 (xv:Value) (m:Nat) (news:List Value) (hx:a.eval x=xv) (hsrc:yM w size xv m news) (h63:n+m<=maxLen) (hbytes:(n+m)*bytes<=140737488355328) (hbase:base<=w.heap.size)
 (h:∀aa cap w',w'.ownsRow base e size (.slice aa (n+m) cap) (n+m) (xs++news)->w.grownBy w' v.ownBlock->((Value.slice aa (n+m) cap).ownBlock=v.ownBlock∨(Value.slice aa (n+m) cap).ownBlock=some w.heap.size)->K (a.put o.dst (.slice aa (n+m) cap)) w'):
 if Region.wanted o (yielded ops a.tmps)=true then Oper.wp P o a w K Q else E:=by
 have hw:Region.wanted o (yielded ops a.tmps)=true:=by simp[Region.wanted,hgd]
 rw[if_pos hw]
 obtain⟨v',w',hr,h2,h3,h5⟩:=tE (P:=P) w base t o.type e i z size bytes ht hi hz hsize hby hzs hsz v n xs hown xv m news hsrc h63 hbytes hbase
 obtain⟨aa,cap,rfl⟩:=zG h2
 unfold Oper.wp execOp
 simp only[ho,resolve,invoke,builtin,Sem.run_bind,Sem.run_pure,Result.andThen_ok,List.map_toArray,List.map_cons,List.map_nil,hs,hx,hr]
 exact h aa cap w' h2 h3 h5
theorem MkIn.started {W w9:World}{K:MKC}{X:Nat->Prop}{M M':MS}{fv vv:Value}{l:List BM}{va aa:Option Addr}{vc cap n:Nat}{xs:List Int}(h:MkIn W K X M fv vv l)(hvv:vv=.slice va 0 vc)(hv:M.vals=[])(hn:xs.length=n)
 (hown:w9.ownsRow K.B 3 1 (.slice aa (0+n) cap) (0+n) ([]++xs.map zN)) (hg:W.drew.grownBy w9 (Value.slice va 0 vc).ownBlock) (hat:(Value.slice aa (0+n) cap).ownBlock=(Value.slice va 0 vc).ownBlock∨(Value.slice aa (0+n) cap).ownBlock=some W.drew.heap.size)
 (hx:∀x∈xs,I64 x) (hz:M.sz+n<=1000000) (hM:M'= {M with vals:=xs }):∃X6 vv6,MkIn (w9.setCell ⟨K.pm,7,none⟩ (.slice aa n cap)) K X6 M' fv vv6 l/\Stp X W X6 (w9.setCell ⟨K.pm,7,none⟩ (.slice aa n cap)):=by
 rw[Nat.zero_add,List.nil_append] at hown
 rw[Nat.zero_add,<-hvv] at hat
 rw[<-hvv] at hg
 subst hn hM
 have hP:=(h.keep (Below.refl _ _).drew).putVs hg (xs:=xs) (n:=xs.length) (by rw[hv];simp) (by rw[hv];exact hown) (fun j e=>?_) hx hz
 ·rw[hv,List.nil_append] at hP
  exact⟨_,_,hP.1,(Stp.of_below (Below.refl _ _).drew).trans hP.2⟩
 ·rcases hat with e2|e2
  ·exact .inl (e2.symm.trans e)
  ·right
   have e3:=e2.symm.trans e
   simp at e3
   simp
   omega
theorem Stp.setNew {X X':Nat->Prop}{w w':World}(h:Stp X w X' w'){a:Addr}(ha:w.heap.size<=a.block)(u:Value):Stp X w X' (w'.setCell a u):=
 ⟨h.os,h.tape,h.output,by simpa using h.size,h.new,fun k hk hx=>(Below.heap_setCell _ _ _ _ (by omega)).trans (h.kept k hk hx)⟩
theorem MkIn.setZ {w:World}{K:MKC}{X:Nat->Prop}{M:MS}{fv vv:Value}{l:List BM}(h:MkIn w K X M fv vv l){a:Addr}(ha:K.Z a.block)(hB:K.B<=a.block)(u:Value):MkIn (w.setCell a u) K X M fv vv l:=
 h.off (Z2:=K.Z) (by simp) ⟨rfl,rfl,rfl⟩ (fun k _ hz=>Below.heap_setCell _ _ _ _ (fun e=>by have h1:=hz (by rw[e];exact ha);omega)) (fun k e=> .inl e) (fun k e=>by simpa using h.env.zl k e)
structure MdFin (s:List Int) (C:MDC) (w0:World) (fs:List (List IBlk)) (wx:World):Prop where
 env:MkEnv wx (mdK s C 0) (fun j=>j=C.pm)
 row:∃hs:List Value,hs.length=mdN s/\wx.heap[C.fb]? =some (.cells hs.toArray 43 (0,0))/\∀(j:Nat) (x:List IBlk),fs[j]? =some x->∃v:Value,hs[j]? =some v/\pf wx (fun i=>i=C.pm∨((i=C.fb∨i=C.rr)∨i<C.B)) v x
 bel:Below w0.heap.size w0 wx
 len:fs.length=mdN s
 hB:C.B=w0.heap.size
 pmB:C.B<=C.pm
 fbB:C.B<=C.fb
 rrB:C.B<=C.rr
theorem MdAt.fin {s:List Int}{C:MDC}{w0 wx:World}(h:MdAt s C w0 (mdN s) wx):MdFin s C w0 (zg s (mdN s)).1 wx:=⟨h.env,h.row,h.bel,yx s _,h.hB,h.pmB,h.fbB,h.rrB⟩
theorem MdFin.step {s:List Int}{C:MDC}{w0 wx w':World}{fs:List (List IBlk)}(h:MdFin s C w0 fs wx)(hs:Stp (fun j=>j=C.pm) wx (fun j=>j=C.pm) w'):MdFin s C w0 fs w':=by
 obtain⟨row,h1,h2,h3⟩:=h.row
 have hb:Below C.B wx w':=hs.below (fun k e=>by rw[e];exact h.pmB) (by rw[h.hB];exact h.bel.size)
 refine⟨h.env.step hs hb,⟨row,h1,hs.blk h2 (fun e=>h.env.zx C.pm rfl (.inl (.inl e.symm))),fun j x hj=>?_⟩,h.bel.trans (by rw[<-h.hB];exact hb),h.len,h.hB,h.pmB,h.fbB,h.rrB⟩
 obtain⟨v,hv,hbl⟩:=h3 j x hj
 exact⟨v,hv,yE.step (X:=(mdK s C 0).av fun j=>j=C.pm) xq hbl (hs.av (mdK s C 0))⟩
theorem MdFin.stepA {s:List Int}{C:MDC}{w0 wx:World}{fs:List (List IBlk)}(h:MdFin s C w0 fs wx){a:Addr}(ha:a.block=C.rr)(hne:C.fb≠C.rr)(u:Value):MdFin s C w0 fs (wx.setCell a u):=by
 obtain⟨row,h1,h2,h3⟩:=h.row
 have hrB:=h.rrB
 have hb:Below C.B wx (wx.setCell a u):=(Below.refl _ _).setCell (by rw[ha];exact hrB) _
 have hst:Stp ((mdK s C 0).av fun j=>j=C.pm) wx ((mdK s C 0).av fun j=>j=C.pm) (wx.setCell a u):=⟨rfl,rfl,rfl,by simp,fun k e=> .inl e,fun i _ hx=>Below.heap_setCell _ _ _ _ (fun e=>hx (.inr (.inl (.inr (e.trans ha)))))⟩
 refine⟨h.env.stepA hst hb,⟨row,h1,zR h2 (by rw[ha];exact hne),fun j x hj=>?_⟩,h.bel.trans (by rw[<-h.hB];exact hb),h.len,h.hB,h.pmB,h.fbB,h.rrB⟩
 obtain⟨v,hv,hbl⟩:=h3 j x hj
 exact⟨v,hv,yE.step (X:=(mdK s C 0).av fun j=>j=C.pm) xq hbl hst⟩
theorem MdFin.ext {s:List Int}{C:MDC}{w0 wx:World}{fs:List (List IBlk)}(h:MdFin s C w0 fs wx){m:Nat}(hm:m<mdN s):MdFin s C w0 (fs.set m []) (wx.setCell ⟨C.fb,m,none⟩ (.slice none 0 0)):=by
 obtain⟨row,h1,h2,h3⟩:=h.row
 have hrB:=h.fbB
 have hb:Below C.B wx (wx.setCell ⟨C.fb,m,none⟩ (.slice none 0 0)):=(Below.refl _ _).setCell hrB _
 have hst:Stp ((mdK s C 0).av fun j=>j=C.pm) wx ((mdK s C 0).av fun j=>j=C.pm) (wx.setCell ⟨C.fb,m,none⟩ (.slice none 0 0)):=⟨rfl,rfl,rfl,by simp,fun k e=> .inl e,fun i _ hx=>Below.heap_setCell _ _ _ _ (fun e=>hx (.inr (.inl (.inl e))))⟩
 refine⟨h.env.stepA hst hb,⟨row.set m (.slice none 0 0),by rw[List.length_set];exact h1,by rw[zD h2];simp,fun j x hj=>?_⟩,h.bel.trans (by rw[<-h.hB];exact hb),by rw[List.length_set];exact h.len,h.hB,h.pmB,h.fbB,h.rrB⟩
 by_cases e:m=j
 ·subst e
  have e2:x=[]:=by
   rw[List.getElem?_set_self (by rw[h.len];exact hm)] at hj
   exact(Option.some.inj hj).symm
  subst e2
  exact⟨.slice none 0 0,List.getElem?_set_self (by omega),yE.nil⟩
 ·rw[List.getElem?_set_ne e] at hj
  obtain⟨v,hv,hbl⟩:=h3 j x hj
  exact⟨v,by rw[List.getElem?_set_ne e];exact hv,yE.step (X:=(mdK s C 0).av fun j=>j=C.pm) xq hbl hst⟩
theorem qR.trans {C:MDC}{w w1 w2:World}(h:qR C w w1)(k:qR C w1 w2):qR C w w2:=⟨Nat.le_trans h.1 k.1,fun b hb h1 h2=>(k.2 b (Nat.lt_of_lt_of_le hb h.1) h1 h2).trans (h.2 b hb h1 h2)⟩
theorem qR.blk {C:MDC}{w w1:World}(h:qR C w w1){b:Nat}{o:Obj}(hb:w.heap[b]? =some o)(h1:b≠C.pm)(h2:b≠C.fb):w1.heap[b]? =some o:=(h.2 b (lt_of_block hb) h1 h2).trans hb
theorem iB {w:World}{b:Nat}(h:w.heap[b]? =some (.cells #[.int .i64 (-1),.int .u16 16384,.int .u16 16,.int .i64 (-1),.int .u16 16640,.int .u16 7,.int .i64 0,.int .u16 128,.int .u16 32] 51 (0,0))):kq w w.heap.size (.slice (some ⟨b,0,none⟩) 3 3) kr:=by
 refine⟨_,3,rfl,by decide,by decide,fun k x hk=>⟨b,0,rfl,lt_of_block h,?_⟩⟩
 match k,hk with
 |0,hk=>cases hk;exact⟨zA h rfl,zA h rfl,zA h rfl,yF _ rfl,by decide,by decide⟩
 |1,hk=>cases hk;exact⟨zA h rfl,zA h rfl,zA h rfl,yF _ rfl,by decide,by decide⟩
 |2,hk=>cases hk;exact⟨zA h rfl,zA h rfl,zA h rfl,yF _ rfl,by decide,by decide⟩
 |k+3,hk=>exact absurd (List.getElem?_eq_some_iff.1 hk).1 (by show ¬k+3<3;omega)
theorem jS:sG.size=4096:=by
 rw[<-mq,mG]
 simp[iu]
structure StaysL (L:Nat) (w W:World):Prop where
 size:w.heap.size<=W.heap.size
 rest:W.os=w.os/\W.tape=w.tape/\W.output=w.output
 kept:∀k,L<=k->k<w.heap.size->W.heap[k]? =w.heap[k]?
theorem StaysL.refl (L:Nat)(w:World):StaysL L w w:=⟨Nat.le_refl _,⟨rfl,rfl,rfl⟩,fun _ _ _=>rfl⟩
theorem MdFin.prog {s:List Int}{C:MDC}{w0 wx:World}{fs:List (List IBlk)}{sb:Nat}(h:MdFin s C w0 fs wx)(hb:wx.heap[sb]? =some (.cells #[.string sG] 9 (0,0)))(hsb:C.B<=sb):∀W,StaysL C.B wx W->
 ProgIn W W.heap.size ⟨.slice (some ⟨C.fb,0,none⟩) (mdN s) (mdN s),C.apv,C.dv,.slice (some ⟨sb,0,none⟩) 1 1⟩ ⟨fs,yS s (mdN s),0,vw s,kr,[sG]⟩:=fun W hW=>by
 obtain⟨row,h1,h2,h3⟩:=h.row
 obtain⟨b,e1,e2,e3⟩:=h.env.data
 have hN:=sm s
 have e1':C.dv=.slice (some ⟨b,0,none⟩) 3 3:=e1
 have hst:Stp ((mdK s C 0).av fun j=>j=C.pm) wx ((mdK s C 0).av fun j=>j=C.pm) W:=⟨hW.rest.1,hW.rest.2.1,hW.rest.2.2,hW.size,fun k e=> .inl e,fun k hk hx=>hW.kept k (by
  rcases Nat.lt_or_ge k C.B with hlt|hge
  ·exact absurd (.inr (.inr hlt)) hx
  ·exact hge) hk⟩
 have h2':=(hW.kept C.fb h.fbB (lt_of_block h2)).trans h2
 have hb':=(hW.kept sb hsb (lt_of_block hb)).trans hb
 have e3':=(hst.kept b (lt_of_block e3) e2).trans e3
 refine⟨⟨_,mdN s,by rw[h.len],by rw[h.len];exact Nat.le_refl _,by omega,fun k x hk=>?_⟩,wm.to (h.env.args.step zn hst),by rw[e1'];exact iB e3',⟨_,1,rfl,Nat.le_refl _,by decide,fun k x hk=>⟨sb,0,rfl,lt_of_block hb',?_⟩⟩,yF _ rfl,mc s⟩
 ·obtain⟨v,hv,hbl⟩:=h3 k x hk
  exact⟨C.fb,0,rfl,lt_of_block h2',v,zA h2' (by simpa using hv),pf.to (yE.step (X:=(mdK s C 0).av fun j=>j=C.pm) xq hbl hst)⟩
 ·match k,hk with
  |0,hk=>
   have e:sG=x:=Option.some.inj hk
   subst e
   exact⟨zA hb' rfl,Nat.le_trans (Nat.le_of_eq jS) (by decide)⟩
  |k+1,hk=>simp at hk
def sw (k:Nat):Nat:=if k=0 then 1 else k
theorem qC (s:List Int)(k:Nat):yS s (k+1)=yS s k++ [if k=0 then 0 else((tk0 s k 4:Nat):Int)]:=rfl
def seqR:Nat->Code->Code
 |0,c=>c
 |n+1,.seq _ b=>seqR n b
 |_+1,c=>c
noncomputable def madeRest:Code:=(Try.f44.body.map (seqR 10)).getD .skip
theorem j9 {w wc:World}{s:List Int}{sa:Option Addr}{sc rr sb pp db pm fb g ac m:Nat}(HS:Hid (zY w w.heap.size (.slice sa s.length sc) s))
 (hcut:Hid (MdHd w (.slice sa s.length sc) (.slice (some ⟨g,0,none⟩) (mdN s) ac) rr sb pp db pm (vw s) (.slice (some ⟨fb,0,none⟩) (mdN s) (mdN s)) (yS s (mdN s)) (sP s) wc/\wc.heap[fb]? =some (.cells (Array.replicate (mdN s) (Value.slice none 0 0)) 43 (0,0))))
 (hfB:w.heap.size<=fb) (hm:mdN s-1=m) (u1 u3 u4 u8 u9 u10 u11 u12 u13 u14 u15 u16 u17 u18 u19 u20 u21 u22 u23 u24 u25 u26 u27 u28 u29 u30 u31 u32 u33 u34 u35 u36 u37 u38 u39 u40 u41 u42 u43 u44 u45 u46 u47 u48 u49 u50 u51 u52 u53 u54 u55 u56 u57 u58 u59 u60 u61 u62 u63 u64 u65 u66 u67 u68 u69 u70 u71 u72 u73 u74 u75 u76 u77 u78 u79 u80 u81 u82 u83 u84 u85 u86 u87 u88 u89 u90 u91 u92 u93 u94 u95 u96 u97 u98 u99 u100 u101 u102 u103 u104 u105 u106 u107 u108 u109 u110 u111 u112 u113 u114 u115 u116 u117 u118 u119 u120 u121 u122 u123 u124 u125 u126 u127 u128 u129 u130 u131 u132 u133 u134 u135 u136 u137 u138 u139 u140 u141 u142 u143 u144 u145 u146 u147 u148 u149 u150 u151 u152 u153 u154 u155 u156 u157 u158 u159 u160 u161 u162 u163 u164 u165 u166 u167 u168 u169 u170 u171 u172 u173 u174 u175 u176 u177 u178 u179 u180 u181 u182 u183 u184 u185 u186 u187 u188 u189 u190 u191 u192 u193 u194 u195 u196 u197 u198 u199 u200:Value):
 Code.wp Try.prog madeRest (bodyPost Try.prog Try.f44 (fun e w'=>∃V:PV,e=.returned (yH V (uR s))/\(∀W,StaysL w.heap.size w' W->ProgIn W W.heap.size V (uR s))/\Below w.heap.size w w')) ⟨#[.slice sa s.length sc,u1,.pointer (some ⟨rr,0,none⟩),u3,u4,.pointer (some ⟨pp,0,none⟩),.pointer (some ⟨pm,0,none⟩),.int .i64 (mdN s:Int),u8,u9,u10,u11,u12,u13,u14,u15,u16,u17,u18,u19,u20,u21,u22,u23,u24,u25,u26,u27,u28,u29,u30,u31,u32,u33,u34,u35,u36,u37,u38,u39,u40,u41,u42,u43,u44,u45,u46,u47,u48,u49,u50,u51,u52,u53,u54,u55,u56,u57,u58,u59,u60,u61,u62,u63,u64,u65,u66,u67,u68,u69,u70,u71,u72,u73,u74,u75,u76,u77,u78,u79,u80,u81,u82,u83,u84,u85,u86,u87,u88,u89,u90,u91,u92,u93,u94,u95,u96,u97,u98,u99,u100,u101,u102,u103,u104,u105,u106,u107,u108,u109,u110,u111,u112,u113,u114,u115,u116,u117,u118,u119,u120,u121,u122,u123,u124,u125,u126,u127,u128,u129,u130,u131,u132,u133,u134,u135,u136,u137,u138,u139,u140,u141,u142,u143,u144,u145,u146,u147,u148,u149,u150,u151,u152,u153,u154,u155,u156,u157,u158,u159,u160,u161,u162,u163,u164,u165,u166,u167,u168,u169,u170,u171,u172,u173,u174,u175,u176,u177,u178,u179,u180,u181,u182,u183,u184,u185,u186,u187,u188,u189,u190,u191,u192,u193,u194,u195,u196,u197,u198,u199,u200],[]⟩ wc:=by
 conv=>arg 2;whnf
 have hn4:=sm s
 have hnm:(mdN s:Int)-1=(m:Int):=by omega
 have hmn:m<mdN s:=by omega
 have HMN:=Lib.hid (And.intro trivial hm)
 clear hm
 have hat:=hcut.out.1.at (by rw[hcut.out.2];simp) hfB HS.out
 have HW:=Lib.hid (And.intro hcut.out.1 (And.intro (rm hcut.out.1.res hcut.out.2 (by decide)) (rm hcut.out.1.bank hcut.out.2 (by decide))))
 obtain⟨C,hC⟩:∃C:MDC,(⟨.slice sa s.length sc,.slice (some ⟨g,0,none⟩) (mdN s) ac,.slice (some ⟨db,0,none⟩) 3 3,.slice (some ⟨sb,0,none⟩) 1 1,pm,pp,fb,rr,w.heap.size⟩:MDC)=C:=⟨_,rfl⟩
 have hCpm:C.pm=pm:=by rw[<-hC]
 have hCpp:C.pp=pp:=by rw[<-hC]
 have hCfb:C.fb=fb:=by rw[<-hC]
 have hCa:C.apv=.slice (some ⟨g,0,none⟩) (mdN s) ac:=by rw[<-hC]
 rw[hC] at hat
 have HC:=Lib.hid (And.intro hC hCa)
 have HAT:=Lib.hid (show MdAt s C w 0 wc/\qR C wc wc from⟨hat,Nat.le_refl _,fun _ _ _ _=>rfl⟩)
 subst hCpm
 subst hCpp
 subst hCfb
 have hCrr:C.rr=rr:=by rw[<-hC]
 subst hCrr
 clear hat hC hCa hcut
 go_wp2
 go_loopw [10] (fun kv wx=>∃k:Nat,k<=mdN s/\kv=.int .i64 (k:Int)/\Hid (MdAt s C w k wx/\qR C wc wx)) (fun kv _=>mdN s-(intOf kv).toNat)
 case atStart=>exact⟨0,Nat.zero_le _,rfl,HAT⟩
 case round=>
  obtain⟨k,hk,rfl,HK⟩:=hrel
  by_cases hlt:k<mdN s
  ·have hltI:(k:Int)<(mdN s:Int):=by omega
   obtain⟨me,cur,fv0,next0,vv0,left0,hmk⟩:=HK.out.1.mkr
   have hposb:=tU s k
   obtain⟨pos,hpos⟩:∃pos,(zg s k).2=pos:=⟨_,rfl⟩
   rw[hpos] at hmk hposb
   have hpos2:pos<=12005:=by omega
   have HPOS:=Lib.hid hpos
   have c3:=zA (i:=3) hmk rfl
   have c4:=zA (i:=4) hmk rfl
   have f3:wr.frozen? ⟨C.pm,3,none⟩=false:=zE hmk
   have f4:wr.frozen? ⟨C.pm,4,none⟩=false:=zE hmk
   have hpml:=lt_of_block hmk
   have hb1:=zD (i:=4) (zD (i:=3) hmk (.int .i64 (k:Int))) (.slice none 0 0)
   have hst1:=(Stp.setPm (w:=wr) (pm:=C.pm) (i:=3) (.int .i64 (k:Int))).trans (Stp.setPm (i:=4) (.slice none 0 0))
   have HB1:=Lib.hid (And.intro hb1 hst1)
   clear hmk hb1 hst1 hpos hposb
   go_upto_region 25 with fail
   generalize hW1:(wr.setCell ⟨C.pm,3,none⟩ (.int .i64 (k:Int))).setCell ⟨C.pm,4,none⟩ (.slice none 0 0)=W1 at *
   have hs1:zY W1 C.B C.sv s:=HK.out.1.env.s.below zO (HB1.out.2.below (B:=C.B) (fun j e=>by rw[e];exact HK.out.1.pmB) (by rw[HK.out.1.hB];exact HK.out.1.bel.size))
   have htk:=tf HB1.out.1 rfl rfl hs1 (n:=3) (by decide) (by decide) (by omega)
   have HS1:=Lib.hid hs1
   clear hs1
   clear c3 c4 f3 f4 hpml hW1
   go_upto_region 25 with fail
   have hz3:=rX s pos (n:=3) (by decide)
   obtain⟨z,hz⟩:∃z,tk0 s pos 3=z:=⟨_,rfl⟩
   rw[hz] at hz3
   obtain⟨nx,hnx⟩:∃nx,z*10=nx:=⟨_,rfl⟩
   have hnxI:(z:Int)*10=(nx:Int):=by omega
   have hnx20:nx<=20:=by omega
   have HZ:=Lib.hid (And.intro hz hnx)
   rw[hz] at htk
   have HTK:=Lib.hid htk
   clear hz hnx htk
   go_upto_region 28 with(go_at_call 59;go_must (refine HTK.out.mono ?_;rintro e W2 ⟨rfl,hb2,hs2⟩;have c6:=zA (i:=6) hb2 rfl;have c7:=zA (i:=7) hb2 rfl;have c8:=zA (i:=8) hb2 rfl;have f6:W2.frozen? ⟨C.pm,6,none⟩=false:=zE hb2;have f7:W2.frozen? ⟨C.pm,7,none⟩=false:=zE hb2;have f8:W2.frozen? ⟨C.pm,8,none⟩=false:=zE hb2;have hpml2:=lt_of_block hb2;have HB2:=Lib.hid (And.intro hb2 hs2);clear hb2 hs2))
   have hb3:=zD (i:=8) (zD (i:=7) (zD (i:=6) HB2.out.1 (.int .i64 (nx:Int))) (.slice none 0 0)) (.int .i64 6)
   have hst3:=((Stp.setPm (w:=W2) (pm:=C.pm) (i:=6) (.int .i64 (nx:Int))).trans (Stp.setPm (i:=7) (.slice none 0 0))).trans (Stp.setPm (i:=8) (.int .i64 6))
   generalize hW3:((W2.setCell ⟨C.pm,6,none⟩ (.int .i64 (nx:Int))).setCell ⟨C.pm,7,none⟩ (.slice none 0 0)).setCell ⟨C.pm,8,none⟩ (.int .i64 6)=W3 at *
   have hs03:=(HB1.out.2.trans HB2.out.2).trans hst3
   have hm0:=HK.out.1.start hlt (cur:=cur) (next:=nx) (by rw[HPOS.out];omega) (by rw[HPOS.out];exact hb3) hs03
   rw[HPOS.out] at hm0
   have hxk:∃na:Nat,(yS s (mdN s))[k]? =some (na:Int)/\na<=3:=by
    have hl:k<(yS s (mdN s)).length:=by rw[yY];exact hlt
    have:=xy s (mdN s) _ (List.getElem_mem hl)
    exact⟨((yS s (mdN s))[k]).toNat,by rw[List.getElem?_eq_getElem hl];congr 1;omega,by omega⟩
   obtain⟨na,hna,hna3⟩:=hxk
   have c1:W3.cell? ⟨C.pp,1,none⟩=some (.slice (some ⟨g,0,none⟩) (mdN s) ac):=by rw[<-HC.out.2];exact zA (i:=1) hm0.env.prog rfl
   obtain⟨gb,go,hge,hxc⟩:=jh hm0.env.args (by rw[<-HC.out.2];rfl) hna
   have hgg:gb=g/\go=0:=by cases hge;exact⟨rfl,rfl⟩
   rw[hgg.1,hgg.2,Nat.zero_add] at hxc
   have hppl:C.pp<W3.heap.size:=lt_of_block hm0.env.prog
   have hblk:=rU hm0.at (n:=na) (by rw[show(⟨pos+1,[],cur,nx,[],6⟩:MS).sz=pos+1+nx+0+0+0 from rfl];omega)
   have HBL:=Lib.hid hblk
   have HM0:=Lib.hid (And.intro hs03 hna)
   clear c6 c7 c8 f6 f7 f8 hpml2 hb3 hst3 hm0 hs03 hna hge hgg hblk hW3
   go_upto_region 29 with(go_at_call 60;go_must (refine HBL.out.mono ?_;rintro e W4 ⟨rfl,X4,⟨fv4,vv4,l4,hi4⟩,hs4⟩;have c5:W4.cell? ⟨C.pm,5,none⟩=some (.int .i64 (cur:Int)):=hi4.c5;have f5:W4.frozen? ⟨C.pm,5,none⟩=false:=hi4.free 5;have hpm4:C.pm<W4.heap.size:=lt_of_block hi4.blk;have HI4:=Lib.hid (And.intro hi4 hs4);clear hi4 hs4))
   have hgo:MkIn (W4.setCell ⟨C.pm,5,none⟩ (.int .i64 0)) (mdK s C k) X4 {(⟨pos+1,[],cur,nx,[],6⟩:MS).block na with cur:=0 } fv4 vv4 l4:=(HI4.out.1.goto 0).1
   have hgs:Stp X4 W4 X4 (W4.setCell ⟨C.pm,5,none⟩ (.int .i64 0)):=(HI4.out.1.goto 0).2
   generalize hW5:W4.setCell ⟨C.pm,5,none⟩ (.int .i64 0)=W5 at *
   obtain⟨gf,cf,pa,pc,hfv,hgl,hcp,hsrc,h64⟩:=hgo.parSrc (i:=0) (b:=wJ nx na) rfl
   rw[sd] at hcp hsrc
   have hll:l4.length=1:=hgo.len
   have c4:W5.cell? ⟨C.pm,4,none⟩=some (.slice (some ⟨gf,0,none⟩) 1 cf):=by have h:=hgo.c4;rw[hfv,hll] at h;exact h
   have c0:W5.cell? ⟨gf,0,none⟩=some (.slice pa na pc):=by rw[Nat.zero_mul] at hcp;exact hcp
   obtain⟨va,vc,hvv⟩:=zG hgo.vown
   have hvown:W5.ownsRow C.B 3 1 (.slice va 0 vc) 0 []:=by have h:=hgo.vown;rw[hvv] at h;exact h
   have c7:W5.cell? ⟨C.pm,7,none⟩=some (.slice va 0 vc):=by have h:=hgo.c7;rw[hvv] at h;exact h
   have f7:W5.frozen? ⟨C.pm,7,none⟩=false:=hgo.free 7
   have hpm5:C.pm<W5.heap.size:=lt_of_block hgo.blk
   have hB5:C.B<=W5.heap.size:=hgo.size
   obtain⟨ij,hij,hzj0,hzj1,hzj2⟩:=info_parts Try.info_int
   have HI5:=Lib.hid (And.intro hgo (And.intro hgs (And.intro h64 (And.intro hsrc (And.intro hvown hvv)))))
   clear c1 hxc hppl c5 f5 hpm4 hgo hgs h64 hsrc hvown hvv hfv hll hcp hW5 HBL
   have nb:=zC HI5.out.2.2.2.2.1 HI5.out.1.blk (.inr (by decide))
   have hms:xD (xC s k) pos= {({(⟨pos+1,[],cur,nx,[],6⟩:MS).block na with cur:=0 }:MS) with vals:=(wJ nx na).params }:=by
    unfold xD
    have e1:tkV (xC s k) ⟨pos,[],0,0,[],6⟩ 3*10=nx:=by show tk0 s pos 3*10=nx;rw[HZ.out.1,HZ.out.2]
    have e2:((xC s k).args.getD (xC s k).me 0).toNat=na:=by show((yS s (mdN s)).getD k 0).toNat=na;rw[List.getD_eq_getElem?_getD,HM0.out.2];rfl
    simp only
    rw[e1,e2]
    rfl
   have HMS:=Lib.hid hms
   have HSZ:=Lib.hid (show({(⟨pos+1,[],cur,nx,[],6⟩:MS).block na with cur:=0 }:MS).sz+na<=1000000 by
    show pos+1+(nx+na)+1+0+0+na<=1000000
    omega)
   clear hms
   go_cut [] (fun wx=>Hid (∃X6 vv6,MkIn wx (mdK s C k) X6 (xD (xC s k) pos) fv4 vv6 l4/\Stp X4 W5 X6 wx))
   case first=>
    go_region_law (first|(refine yG (by rfl) (.tmp 136) (.tmp 144) _ (by rfl) C.B 3 ij (.int .i64 0) 1 8 Try.underlying22 hij hzj0 hzj1 hzj2 rfl (by omega) (.slice va 0 vc) 0 [] (by rfl) (HI5.out.2.2.2.2.1.drew) (.slice pa na pc) na ((wJ nx na).params.map zN) (by rfl) HI5.out.2.2.2.1 (by unfold maxLen;omega) (by omega) (by simp;omega) ?_;intro aa9 cap9 w9 hown9 hgrow9 hat9;have cp9:=(hgrow9.cell_far ⟨C.pm,7,none⟩ (by simp;omega) (Ne.symm nb)).trans c7;have fp9:=(hgrow9.frozen_far ⟨C.pm,7,none⟩ (by simp;omega) (Ne.symm nb)).trans f7))
    all_goals go_wp2_with fail
    all_goals go_meet
    all_goals exact Lib.hid (HI5.out.1.started HI5.out.2.2.2.2.2 rfl (sd nx na) hown9 hgrow9 hat9 HI5.out.2.2.1 HSZ.out HMS.out)
   case rest=>
   obtain⟨X6,vv6,hm6,hs6⟩:=hcut.out
   have hs06:Stp (fun j=>j=C.pm) wr X6 wc:=((HM0.out.1.trans HI4.out.2).trans HI5.out.2.1).trans hs6
   have hsz6:=sQ (E:=xC s k) (xy s _) pos
   have hcu6:(xD (xC s k) pos).cur<(xD (xC s k) pos).f.length:=by rw[HMS.out];exact Nat.zero_lt_one
   have HP0:=Lib.hid (OpSt.start hm6.at hcu6)
   have hpc2:pC 2=2286:=rfl
   have hpc1:pC 1=538:=rfl
   have HZZ:=Lib.hid (And.intro hsz6 (And.intro hpc2 hpc1))
   have HS06:=Lib.hid hs06
   clear hm6 hs6 hs06 hsz6 hcu6 hpc2 hpc1 c4 c0 c7 f7 hpm5 hB5 nb hgl hcut
   go_upto_region 31 with(go_at_call 61;go_must (refine(HP0.out.part (pW 2 (by decide)) (by have h1:=HZZ.out.1;have h2:=HZZ.out.2.1;omega)).mono ?_;rintro e W7 ⟨rfl,HP1⟩))
   go_upto_region 32 with(go_at_call 61;go_must (refine(HP1.out.part (pW 1 (by decide)) (by have h1:=HZZ.out.1;have h2:=HZZ.out.2.1;have h3:=HZZ.out.2.2;omega)).mono ?_;rintro e W8 ⟨rfl,HP2⟩))
   obtain⟨M8,hM8⟩:∃M8,zp (xC s k) 1 (zp (xC s k) 2 (xD (xC s k) pos))=M8:=⟨_,rfl⟩
   have hp2:OpSt wc (mdK s C k) X6 (xD (xC s k) pos) (0+pC 2+pC 1) W8 M8:=by rw[<-hM8];exact HP2.out
   obtain⟨X8,fv8,vv8,l8,hi8,hs8⟩:=hp2.facts
   obtain⟨tb,htb⟩:∃tb,W8.heap.size=tb:=⟨_,rfl⟩
   have HP3:=Lib.hid (And.intro hp2 (And.intro hM8 (And.intro hi8 (And.intro hs8 htb))))
   clear hp2 hM8 hi8 hs8 HP1 HP2 HP0
   go_upto_region 33 with fail
   have hb9:=zI (W:=W8) (o:=.cells #[.int .i64 4,.int .i64 (-1),.slice none 0 0] 47) HP3.out.2.2.2.2
   have hbw9:Below W8.heap.size W8 (W8.alloc (.cells #[.int .i64 4,.int .i64 (-1),.slice none 0 0] 47)):=(Below.refl _ _).alloc (Nat.le_refl _) _
   generalize hW9:W8.alloc (.cells #[.int .i64 4,.int .i64 (-1),.slice none 0 0] 47)=W9 at *
   have hi9:MkIn W9 ((mdK s C k).withZ fun j=>((j=C.fb∨j=C.rr)∨j<C.B)∨j=tb) X8 M8 fv8 vv8 l8:=HP3.out.2.2.1.off hbw9.size ⟨hbw9.os,hbw9.tape,hbw9.output⟩ (fun j hj _=>hbw9.block j hj) (fun j e=>e.elim .inl (fun e=> .inr (by rw[e,HP3.out.2.2.2.2];exact Nat.le_refl _))) (fun j e=>e.elim (fun e=>Nat.lt_of_lt_of_le (HP3.out.2.2.1.env.zl j e) hbw9.size) (fun e=>by rw[e];exact lt_of_block hb9))
   have htbB:C.B<=tb:=by rw[<-HP3.out.2.2.2.2];exact HP3.out.2.2.1.size
   have hs9:Stp X8 W8 X8 W9:=Stp.of_below hbw9
   have hXt:¬X8 tb:=fun e=>by have h1:=HP3.out.2.2.1.xl _ e;have h2:=HP3.out.2.2.2.2;omega
   have hz10:=vO (xC s k) M8 (n:=10) (by decide)
   obtain⟨z10,hz10e⟩:∃z,tkV (xC s k) M8 10=z:=⟨_,rfl⟩
   rw[hz10e] at hz10
   have hmf:xR (xC s k) pos=if z10=0 then M8.tick.endB ⟨5,0,[]⟩ else if z10=1 then M8.tick.endB ⟨4,-1,[]⟩ else(zJ (xC s k) M8.tick).2.endB ⟨4,(zJ (xC s k) M8.tick).1,[]⟩:=by
    unfold xR
    simp only
    rw[HP3.out.2.1,hz10e]
   have hszb:M8.sz+10<=1000000:=by
    have h1:=HP3.out.1.gr.sz
    have h2:=HZZ.out.1
    have h3:=HZZ.out.2.1
    have h4:=HZZ.out.2.2
    omega
   have htk:=m8 hi9.at (n:=10) (by decide) (by decide) (by omega)
   have htk2:Calls Try.prog 59 #[.pointer (some ⟨C.pm,0,none⟩),.int .i64 10] W9 (yk ((mdK s C k).withZ fun j=>((j=C.fb∨j=C.rr)∨j<C.B)∨j=tb) X8 W9 M8.tick (.int .i64 (z10:Int))):=by
    rw[<-hz10e]
    exact htk
   have HT10:=Lib.hid htk2
   have HI9:=Lib.hid (And.intro hb9 (And.intro hi9 (And.intro hs9 (And.intro hXt (And.intro hmf (And.intro hszb HP3.out.1.cur))))))
   clear hb9 hbw9 hi9 hs9 hXt hz10e hmf hszb htk htk2 hW9
   go_upto_block 6 with(go_at_call 59;go_must (refine HT10.out.mono ?_;rintro e W10 ⟨rfl,X10,⟨fv10,vv10,l10,hi10⟩,hs10⟩;have HI10:=Lib.hid (And.intro hi10 hs10);clear hi10 hs10))
   have hb10:=HI10.out.2.blk HI9.out.1 HI9.out.2.2.2.1
   have hX10:=HI10.out.2.not (lt_of_block HI9.out.1) HI9.out.2.2.2.1
   have t0:=zA (i:=0) hb10 rfl
   have t1:=zA (i:=1) hb10 rfl
   have t2:=zA (i:=2) hb10 rfl
   have g0:W10.frozen? ⟨tb,0,none⟩=false:=zE hb10
   have g1:W10.frozen? ⟨tb,1,none⟩=false:=zE hb10
   have g2:W10.frozen? ⟨tb,2,none⟩=false:=zE hb10
   have htl:=lt_of_block hb10
   have HB10:=Lib.hid (And.intro hb10 hX10)
   clear hb10 hX10
   go_cut [] (fun wx=>Hid (∃(tk ta:Int) (M11:MS) (X11:Nat->Prop),wW wx ((mdK s C k).withZ fun j=>((j=C.fb∨j=C.rr)∨j<C.B)∨j=tb) X11 M11/\Stp X8 W8 X11 wx/\wx.heap[tb]? =some (.cells #[.int .i64 tk,.int .i64 ta,.slice none 0 0] 47 (0,0))/\I64 tk/\I64 ta/\M11.endB ⟨tk,ta,[]⟩=xR (xC s k) pos/\M11.cur<M11.f.length))
   case first=>
    by_cases h0:z10=0
    ·subst h0
     go_wp2
     go_meet
     refine Lib.hid ⟨5,0,M8.tick,X10,(((HI10.out.1.setZ (a:=⟨tb,0,none⟩) (.inr rfl) htbB _).setZ (a:=⟨tb,1,none⟩) (.inr rfl) htbB _).setZ (a:=⟨tb,2,none⟩) (.inr rfl) htbB _).at,((((HI9.out.2.2.1.trans HI10.out.2).setNew (a:=⟨tb,0,none⟩) (Nat.le_of_eq HP3.out.2.2.2.2) _).setNew (a:=⟨tb,1,none⟩) (Nat.le_of_eq HP3.out.2.2.2.2) _).setNew (a:=⟨tb,2,none⟩) (Nat.le_of_eq HP3.out.2.2.2.2) _),?_,yF _ rfl,yF _ rfl,?_,HI9.out.2.2.2.2.2.2⟩
     ·rw[zD (zD (zD HB10.out.1 _) _) _]
      rfl
     ·rw[HI9.out.2.2.2.2.1];simp
    ·by_cases h1:z10=1
     ·subst h1
      go_wp2
      go_meet
      refine Lib.hid ⟨4,-1,M8.tick,X10,HI10.out.1.at,HI9.out.2.2.1.trans HI10.out.2,HB10.out.1,yF _ rfl,yF _ rfl,?_,HI9.out.2.2.2.2.2.2⟩
      rw[HI9.out.2.2.2.2.1,if_neg h0];simp
     ·have h0b:((z10:Int)==0)=false:=by rw[beq_eq_false_iff_ne];omega
      have h1b:((z10:Int)==1)=false:=by rw[beq_eq_false_iff_ne];omega
      have han:=pu HI10.out.1.at HI9.out.2.2.2.2.2.2 (by have:=HI9.out.2.2.2.2.2.1;have h:=(zT M8).sz;omega)
      have hx64:=oD HI10.out.1.at
      obtain⟨xa,hxa⟩:∃x,(zJ (xC s k) M8.tick).1=x:=⟨_,rfl⟩
      obtain⟨Ma,hMa⟩:∃M,(zJ (xC s k) M8.tick).2=M:=⟨_,rfl⟩
      have hx642:I64 xa:=by rw[<-hxa];exact hx64
      have hcu:Ma.cur<Ma.f.length:=by
       rw[<-hMa,(yU (xC s k) M8.tick).cur,(yU (xC s k) M8.tick).len]
       exact HI9.out.2.2.2.2.2.2
      have han2:Calls Try.prog 62 #[.pointer (some ⟨C.pm,0,none⟩)] W10 (yk ((mdK s C k).withZ fun j=>((j=C.fb∨j=C.rr)∨j<C.B)∨j=tb) X10 W10 Ma (.int .i64 xa)):=by
       rw[<-hxa,<-hMa]
       exact han
      have hmf2:Ma.endB ⟨4,xa,[]⟩=xR (xC s k) pos:=by rw[HI9.out.2.2.2.2.1,if_neg h0,if_neg h1,hxa,hMa]
      have HAN:=Lib.hid han2
      have HMF2:=Lib.hid (And.intro hmf2 (And.intro hcu hx642))
      clear han hx64 hxa hMa hx642 hcu han2 hmf2
      go_wp2_with (go_at_call 62;go_must (refine HAN.out.mono ?_;rintro e W11 ⟨rfl,X11,hm11,hs11⟩;have hb11:=hs11.blk HB10.out.1 HB10.out.2;have t11:=zA (i:=1) hb11 rfl;have g11:W11.frozen? ⟨tb,1,none⟩=false:=zE hb11;have htl1:=lt_of_block hb11;have HI11:=Lib.hid (And.intro hm11 (And.intro hs11 hb11));clear hm11 hs11 hb11))
      go_meet
      obtain⟨fv11,vv11,l11,hi11⟩:=HI11.out.1
      refine Lib.hid ⟨4,xa,Ma,X11,(hi11.setZ (a:=⟨tb,1,none⟩) (.inr rfl) htbB _).at,(((HI9.out.2.2.1.trans HI10.out.2).trans HI11.out.2.1).setNew (a:=⟨tb,1,none⟩) (Nat.le_of_eq HP3.out.2.2.2.2) _),?_,yF _ rfl,HMF2.out.2.2,HMF2.out.1,HMF2.out.2.1⟩
      rw[zD HI11.out.2.2 _]
      rfl
   case rest=>
   obtain⟨tk,ta,M11,X11,⟨fv11,vv11,l11,hi11⟩,hs11,hb11,hk64,ha64,hmf,hcu⟩:=hcut.out
   have u0:=zA (i:=0) hb11 rfl
   have u1:=zA (i:=1) hb11 rfl
   have u2:=zA (i:=2) hb11 rfl
   have htl11:=lt_of_block hb11
   have hen:=nt (t:=⟨tk,ta,[]⟩) hi11.at hk64 ha64 (yE.nil (sz:=2)) hcu
   rw[hmf] at hen
   have HEN:=Lib.hid hen
   have HS11:=Lib.hid hs11
   clear hi11 hs11 hb11 hk64 ha64 hmf hcu hen hcut t0 t1 t2 g0 g1 g2 htl
   go_upto_region 39 with(go_at_call 63;go_must (refine HEN.out.mono ?_;rintro e W12 ⟨rfl,X12,⟨fv12,vv12,l12,hi12⟩,hs12⟩;have HI12:=Lib.hid (And.intro hi12 hs12);clear hi12 hs12))
   have hi13:MkIn W12 (mdK s C k) X12 (xR (xC s k) pos) fv12 vv12 l12:=HI12.out.1.off (Z2:=fun j=>(j=C.fb∨j=C.rr)∨j<C.B) (Nat.le_refl _) ⟨rfl,rfl,rfl⟩ (fun _ _ _=>rfl) (fun j e=> .inl (.inl e)) (fun j e=>HI12.out.1.env.zl j (.inl e))
   have hs012:Stp (fun j=>j=C.pm) wr X12 W12:=((HS06.out.trans HP3.out.2.2.2.1).trans HS11.out).trans HI12.out.2
   obtain⟨row,hrl,hrb,_⟩:=HK.out.1.row
   have hnfb:¬(C.fb=C.pm):=fun e=>HK.out.1.env.zx C.pm rfl (.inl (.inl e.symm))
   have hrb12:=hs012.blk hrb hnfb
   have p0:W12.cell? ⟨C.pp,0,none⟩=some (.slice (some ⟨C.fb,0,none⟩) (mdN s) (mdN s)):=zA (i:=0) hi13.env.prog rfl
   obtain⟨fa,fc,hfv12⟩:=zG hi13.own
   have c4:W12.cell? ⟨C.pm,4,none⟩=some (.slice fa l12.length fc):=by rw[<-hfv12];exact hi13.c4
   obtain⟨rk,hrk⟩:∃v,row[k]? =some v:=⟨_,List.getElem?_eq_getElem (by omega)⟩
   have cfk:W12.cell? ⟨C.fb,k,none⟩=some rk:=zA hrb12 (by simpa using hrk)
   have ffk:W12.frozen? ⟨C.fb,k,none⟩=false:=zE hrb12
   have hppl12:=lt_of_block hi13.env.prog
   have hfbl12:=lt_of_block hrb12
   have hpml12:C.pm<W12.heap.size:=lt_of_block hi13.blk
   have HI13:=Lib.hid (And.intro hi13 (And.intro hs012 (And.intro hfv12 (And.intro hrb12 hrk))))
   clear hi13 hs012 hfv12 hrb hrb12 hrk u0 u1 u2 htl11 hnfb
   refine zt 10 (by kernel_rfl) (by kernel_rfl) ?_
   simp only[List.take_succ_cons,List.take_zero,List.drop_succ_cons,List.drop_zero]
   repeat (go_big_quiet_step (fail))
   refine wpQuiet_nil ?_
   go_wp2
   refine⟨⟨k+1,hlt,by go_num,Lib.hid ⟨?_,?_⟩⟩,by simp[intOf];omega⟩
   ·rw[<-HI13.out.2.2.1]
    exact HK.out.1.done hlt (by rw[HPOS.out];exact HI13.out.1) HI13.out.2.1 (yx s k) ⟨by simp,rfl,rfl,rfl⟩ (fun i hi=>Below.heap_setCell W12 ⟨C.fb,k,none⟩ fv12 i hi) (fun cs hcs=>zD (i:=k) hcs fv12)
   ·refine⟨Nat.le_trans HK.out.2.1 (by have:=HI13.out.2.1.size;simpa using this),fun b hb h1 h2=>?_⟩
    exact(Below.heap_setCell W12 ⟨C.fb,k,none⟩ (.slice fa l12.length fc) b h2).trans ((HI13.out.2.1.kept b (Nat.lt_of_lt_of_le hb HK.out.2.1) h1).trans (HK.out.2.2 b hb h1 h2))
  ·have hkn:k=mdN s:=by omega
   subst hkn
   have hltI:¬(mdN s:Int)<(mdN s:Int):=by omega
   obtain⟨me,cur,fv0,next0,vv0,left0,hmk⟩:=HK.out.1.mkr
   have hpos2:(zg s (mdN s)).2<=17005:=by
    have h1:=tU s (mdN s)
    generalize (zg s (mdN s)).2=y at h1 ⊢
    omega
   have htk:Calls Try.prog 59 #[.pointer (some ⟨C.pm,0,none⟩),.int .i64 12] wr (fun e w'=>∃z:Nat,z<12/\Hid (tk0 s (zg s (mdN s)).2 12=z)/\e=.returned (.int .i64 (z:Int))/\Hid (Stp (fun j=>j=C.pm) wr (fun j=>j=C.pm) w')):=
    (tf hmk rfl rfl (show zY wr C.B C.sv s from HK.out.1.env.s) (n:=12) (by decide) (by decide) (by omega)).mono (fun e w' ⟨h1,h2,h3⟩=>⟨_,rX s _ (by decide),Lib.hid rfl,h1,Lib.hid h3⟩)
   have HTK:=Lib.hid htk
   have hprog:=HK.out.1.env.prog
   obtain⟨hnd,hhnd⟩:∃h,vw s=h:=⟨_,rfl⟩
   have p3:wr.cell? ⟨C.pp,3,none⟩=some (.int .i64 hnd):=by rw[<-hhnd];exact zA (i:=3) hprog rfl
   have hppl:=lt_of_block hprog
   have HH:=Lib.hid hhnd
   have hext:qV s=(decide (2<mdN s) && (decide (hnd<0) && decide (tk0 s (zg s (mdN s)).2 12=11))):=by unfold qV;rw[hhnd]
   have HEX:=Lib.hid hext
   have HST0:=Lib.hid (Stp.refl (fun j=>j=C.pm) wr)
   clear hmk hpos2 htk hprog hhnd hext hlt
   go_upto_region 40 with fail
   go_cut [189] (fun v wx=>∃b:Bool,v=.bool b/\Hid ((b=true↔qV s=true)/\Stp (fun j=>j=C.pm) wr (fun j=>j=C.pm) wx))
   case first=>
    by_cases h2:2<mdN s
    ·have h2I:(2:Int)<(mdN s:Int):=by omega
     have h2a:decide ((2:Int)<(mdN s:Int))=true:=by rw[decide_eq_true_iff];exact h2I
     have h2b:decide (2<mdN s)=true:=by rw[decide_eq_true_iff];exact h2
     by_cases h3:hnd<0
     ·have h3b:decide (hnd<0)=true:=by rw[decide_eq_true_iff];exact h3
      have he2:qV s=decide (tk0 s (zg s (mdN s)).2 12=11):=by rw[HEX.out,h2b,h3b,Bool.true_and,Bool.true_and]
      have HE2:=Lib.hid he2
      clear he2
      by_cases h4:tk0 s (zg s (mdN s)).2 12=11
      ·have H4:=Lib.hid h4
       clear h4
       go_wp2_with (go_at_call 59;go_must (refine HTK.out.mono ?_;rintro e w4 ⟨z,hz2,HZ,rfl,HM4⟩;obtain rfl:z=11:=HZ.out.symm.trans H4.out))
       go_meet
       exact⟨true,rfl,Lib.hid ⟨⟨(fun _=>by rw[HE2.out];exact decide_eq_true H4.out),(fun _=>rfl)⟩,HM4.out⟩⟩
      ·have H4:=Lib.hid h4
       clear h4
       go_wp2_with (go_at_call 59;go_must (refine HTK.out.mono ?_;rintro e w4 ⟨z,hz2,HZ,rfl,HM4⟩;have tz:((z:Int)==11)=false:=by rw[beq_eq_false_iff_ne];have:=HZ.out;have:=H4.out;omega))
       go_meet
       exact⟨false,rfl,Lib.hid ⟨⟨(fun e=>by cases e),(fun e=>by rw[HE2.out] at e;exact absurd (of_decide_eq_true e) H4.out)⟩,HM4.out⟩⟩
     ·have h3b:decide (hnd<0)=false:=by rw[decide_eq_false_iff_not];exact h3
      go_wp2
      go_meet
      exact⟨false,rfl,Lib.hid ⟨⟨(fun e=>by cases e),(fun e=>by rw[HEX.out,h3b] at e;simp at e)⟩,HST0.out⟩⟩
    ·have h2I:¬(2:Int)<(mdN s:Int):=by omega
     have h2a:decide ((2:Int)<(mdN s:Int))=false:=by rw[decide_eq_false_iff_not];exact h2I
     have h2b:decide (2<mdN s)=false:=by rw[decide_eq_false_iff_not];exact h2
     go_wp2
     go_meet
     exact⟨false,rfl,Lib.hid ⟨⟨(fun e=>by cases e),(fun e=>by rw[HEX.out,h2b] at e;simp at e)⟩,HST0.out⟩⟩
   case rest=>
   obtain⟨b,rfl,HB40⟩:=hcut
   have hfin:=HK.out.1.fin.step HB40.out.2
   have hkeep:qR C wr wc:=⟨HB40.out.2.size,fun b hb h1 _=>HB40.out.2.kept b hb h1⟩
   obtain⟨row,hrl,hrb,_⟩:=hfin.row
   have p0:wc.cell? ⟨C.pp,0,none⟩=some (.slice (some ⟨C.fb,0,none⟩) (mdN s) (mdN s)):=zA (i:=0) hfin.env.prog rfl
   obtain⟨rk,hrk⟩:∃v,row[m]? =some v:=⟨_,List.getElem?_eq_getElem (by omega)⟩
   have cfm:wc.cell? ⟨C.fb,m,none⟩=some rk:=zA hrb (by simpa using hrk)
   have ffm:wc.frozen? ⟨C.fb,m,none⟩=false:=zE hrb
   have hppl2:=lt_of_block hfin.env.prog
   have hfbl2:=lt_of_block hrb
   have HFIN:=Lib.hid (And.intro hfin hkeep)
   clear hfin hkeep hrl hrb hrk p3 hppl
   go_upto_if 189 with fail
   go_cut [] (fun wx=>Hid (MdFin s C w (if qV s then(zg s (mdN s)).1.set (mdN s-1) [] else(zg s (mdN s)).1) wx/\qR C wr wx))
   case first=>
    cases b
    ·go_wp2
     go_meet
     have e:qV s=false:=by
      cases h:qV s
      ·rfl
      ·exact absurd (HB40.out.1.2 h) (by simp)
     rw[e]
     exact HFIN
    ·go_wp2
     go_meet
     have e:qV s=true:=HB40.out.1.1 (by trivial)
     rw[e,HMN.out.2]
     exact Lib.hid ⟨HFIN.out.1.ext hmn,HFIN.out.2.trans ⟨by simp,fun b hb _ h2=>Below.heap_setCell _ _ _ _ h2⟩⟩
   case rest=>
   have HE:=hcut
   have hprog:=HE.out.1.env.prog
   have hkb:=HK.out.2.trans HE.out.2
   have hres:=hkb.blk HW.out.1.res HW.out.1.nes.2.2.2.1 HW.out.2.1
   have hbank:=hkb.blk HW.out.1.bank HW.out.1.nes.2.2.2.2.2.2.1 HW.out.2.2
   have q0:wc.cell? ⟨C.pp,0,none⟩=some (.slice (some ⟨C.fb,0,none⟩) (mdN s) (mdN s)):=zA (i:=0) hprog rfl
   have q1:wc.cell? ⟨C.pp,1,none⟩=some (.slice (some ⟨g,0,none⟩) (mdN s) ac):=by rw[<-HC.out.2];exact zA (i:=1) hprog rfl
   have q2:wc.cell? ⟨C.pp,2,none⟩=some (.int .i64 0):=zA (i:=2) hprog rfl
   have q3:wc.cell? ⟨C.pp,3,none⟩=some (.int .i64 (vw s)):=zA (i:=3) hprog rfl
   have q4:wc.cell? ⟨C.pp,4,none⟩=some (.slice (some ⟨db,0,none⟩) 3 3):=(zA (i:=4) hprog rfl).trans (by rw[<-HC.out.1];rfl)
   have q5:wc.cell? ⟨C.pp,5,none⟩=some (.slice (some ⟨sb,0,none⟩) 1 1):=(zA (i:=5) hprog rfl).trans (by rw[<-HC.out.1];rfl)
   have hpl5:=lt_of_block hprog
   have v0:=zA (i:=0) hres rfl
   have v1:=zA (i:=1) hres rfl
   have v2:=zA (i:=2) hres rfl
   have v3:=zA (i:=3) hres rfl
   have v4:=zA (i:=4) hres rfl
   have v5:=zA (i:=5) hres rfl
   have vf:∀i,wc.frozen? ⟨C.rr,i,none⟩=false:=fun i=>zE hres
   have hrl5:=lt_of_block hres
   have HR5:=Lib.hid (And.intro hbank hres)
   clear hprog hkb hres hbank cfm ffm p0
   go_wp2
   have hne:C.fb≠C.rr:=fun e=>HW.out.2.1 e.symm
   have hfw:=(((((HE.out.1.stepA (a:=⟨C.rr,0,none⟩) rfl hne (.slice (some ⟨C.fb,0,none⟩) (mdN s) (mdN s))).stepA (a:=⟨C.rr,1,none⟩) rfl hne (.slice (some ⟨g,0,none⟩) (mdN s) ac)).stepA (a:=⟨C.rr,2,none⟩) rfl hne (.int .i64 0)).stepA (a:=⟨C.rr,3,none⟩) rfl hne (.int .i64 (vw s))).stepA (a:=⟨C.rr,4,none⟩) rfl hne (.slice (some ⟨db,0,none⟩) 3 3)).stepA (a:=⟨C.rr,5,none⟩) rfl hne (.slice (some ⟨sb,0,none⟩) 1 1)
   have hrw:=zD (i:=5) (zD (i:=4) (zD (i:=3) (zD (i:=2) (zD (i:=1) (zD (i:=0) HR5.out.2 (.slice (some ⟨C.fb,0,none⟩) (mdN s) (mdN s))) (.slice (some ⟨g,0,none⟩) (mdN s) ac)) (.int .i64 0)) (.int .i64 (vw s))) (.slice (some ⟨db,0,none⟩) 3 3)) (.slice (some ⟨sb,0,none⟩) 1 1)
   have hsr:sb≠C.rr:=fun e=>HW.out.1.nes.1 e.symm
   have hbw:=zR (a:=⟨C.rr,5,none⟩) (u:=.slice (some ⟨sb,0,none⟩) 1 1) (zR (a:=⟨C.rr,4,none⟩) (u:=.slice (some ⟨db,0,none⟩) 3 3) (zR (a:=⟨C.rr,3,none⟩) (u:=.int .i64 (vw s)) (zR (a:=⟨C.rr,2,none⟩) (u:=.int .i64 0) (zR (a:=⟨C.rr,1,none⟩) (u:=.slice (some ⟨g,0,none⟩) (mdN s) ac) (zR (a:=⟨C.rr,0,none⟩) (u:=.slice (some ⟨C.fb,0,none⟩) (mdN s) (mdN s)) HR5.out.1 hsr) hsr) hsr) hsr) hsr) hsr
   generalize hWF:(((((wc.setCell ⟨C.rr,0,none⟩ (.slice (some ⟨C.fb,0,none⟩) (mdN s) (mdN s))).setCell ⟨C.rr,1,none⟩ (.slice (some ⟨g,0,none⟩) (mdN s) ac)).setCell ⟨C.rr,2,none⟩ (.int .i64 0)).setCell ⟨C.rr,3,none⟩ (.int .i64 (vw s))).setCell ⟨C.rr,4,none⟩ (.slice (some ⟨db,0,none⟩) 3 3)).setCell ⟨C.rr,5,none⟩ (.slice (some ⟨sb,0,none⟩) 1 1)=WF at *
   have x0:=zA (i:=0) hrw rfl
   have x1:=zA (i:=1) hrw rfl
   have x2:=zA (i:=2) hrw rfl
   have x3:=zA (i:=3) hrw rfl
   have x4:=zA (i:=4) hrw rfl
   have x5:=zA (i:=5) hrw rfl
   have hwl:=lt_of_block hrw
   have hpr:=hfw.prog hbw (by rw[hfw.hB];exact HW.out.1.ges.2.1)
   have eC:C.apv=.slice (some ⟨g,0,none⟩) (mdN s) ac:=HC.out.2
   have eD:C.dv=.slice (some ⟨db,0,none⟩) 3 3:=by rw[<-HC.out.1]
   rw[eC,eD,hfw.hB] at hpr
   have HFW:=Lib.hid (And.intro hfw.bel hpr)
   clear hfw hrw hbw hpr eC eD hWF v0 v1 v2 v3 v4 v5 vf q0 q1 q2 q3 q4 q5
   refine bodyPost_ret (v:=.agg #[.slice (some ⟨C.fb,0,none⟩) (mdN s) (mdN s),.slice (some ⟨g,0,none⟩) (mdN s) ac,.int .i64 0,.int .i64 (vw s),.slice (some ⟨db,0,none⟩) 3 3,.slice (some ⟨sb,0,none⟩) 1 1]) ?_ rfl ⟨⟨.slice (some ⟨C.fb,0,none⟩) (mdN s) (mdN s),.slice (some ⟨g,0,none⟩) (mdN s) ac,.slice (some ⟨db,0,none⟩) 3 3,.slice (some ⟨sb,0,none⟩) 1 1⟩,rfl,HFW.out.2,HFW.out.1⟩
   rw[zM rfl]
   go_simp
end Go.Proofs.Ytojclalkfhoooaa
