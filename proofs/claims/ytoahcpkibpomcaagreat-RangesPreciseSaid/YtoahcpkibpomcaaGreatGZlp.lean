/- Part of a proof. -/
import Derived.Test.YtoahcpkibpomcaaGreatGZx3
set_option linter.all false
set_option maxHeartbeats 16000000
set_option maxRecDepth 100000
namespace Go.Proofs.YtoahcpkibpomcaaGreat
open Go.RowKit
variable {bl:List IBlk}{w:World}{o:IOp}
def ag6 (N v:Nat):List Rg:=List.replicate v y7++List.replicate (N-v) ⟨0,0⟩
theorem fulR_set {N v:Nat}(h:v<N):(ag6 N v).set v y7=ag6 N (v+1):=by
 unfold ag6;rw[Uj _ _ Zs,Qr,Qy,show N-v=(N-(v+1))+1 by omega,Qz,Jf,List.replicate_succ',Nv];rfl
theorem fulR_ok {N v:Nat}(h:v<=N):OkS N ⟨ag6 N v,List.replicate N false⟩:=by
 refine⟨by show(ag6 N v).length=N;unfold ag6;simp;omega,by simp,fun a c=>?_⟩;rcases Jl.1 c with c|c
 ·rw[(List.mem_replicate.1 c).2];exact vu
 ·rw[(List.mem_replicate.1 c).2];exact⟨Je _,Jt _⟩
theorem evL_take{c:List Nat}{k i:Nat}(h:c[k]? =some i):evL bl (c.take (k+1))=evL bl (c.take k)++evB bl (xz bl (i:Int)):=by
 unfold evL;rw[Nh,h,Nx]
 show _++(evB bl (xz bl (i:Int))++ [])=_
 rw[Ua]
theorem afz (w:World):A 50 #[] w (fun e w'=>e=.returned (.agg #[U 0,U 65535])/\O w w'):=afP w
theorem afv{sv:Value}{g:List (List Nat)}(h:GraphIn w sv g):A 51 #[.agg #[sv]] w (fJ w (vD g)):=
 afr w sv g w.heap.size (Je _) h.rows h.valid h.len h.row
theorem aeN{p:IProg}{s:Slv}{rn:Nat}(h0:0<=o.res)(hr:o.res.toNat=rn){a:Rg}(h:ft p s o=some a):opQ p s o=⟨s.r.set rn a,s.kn⟩:=by
 unfold opQ;rw[if_pos h0,h,hr]
theorem opQ_none{p:IProg}{s:Slv}(h:ft p s o=none):opQ p s o=s:=by
 unfold opQ;rw[h]
 split<;>rfl
def edgQ (bl:List IBlk)(t:Slv)(e:IEdge):Slv:=((xz bl e.block).params.zip e.args).foldl (fun t x=>agM t x.1 x.2) t
theorem evB_q (p:IProg)(bl:List IBlk)(b:IBlk)(s:Slv):(evB bl b).foldl (evQ p) s=b.term.to.foldl (edgQ bl) (b.ops.foldl (opQ p) s):=by
 unfold evB;rw[List.foldl_append,List.foldl_map,List.foldl_flatMap]
 congr 1
 funext q e
 unfold edgQ;rw[List.foldl_map];rfl
theorem shape_ab {c:Int}(h:(zi c).b=true):(zi c).a=true/\3<=c:=by
 rcases rJ c with⟨h1,e⟩|⟨h1,e⟩|⟨h1,e⟩|⟨h1,e⟩|⟨h1,e⟩|⟨h1,e⟩|⟨h1,e⟩|⟨h1,e⟩<;>rw[e] at h ⊢<;>first|(cases h;done)|exact⟨rfl,by omega⟩
theorem ahn{V:PV}{p:IProg}(hp:ProgIn w w.heap.size V p){n:Nat}(hn:p.funcs[n]? =some bl)(h0:bl≠ [])(hv:vC p=0)(hs:∀f∈p.funcs,vZ f):
 Calls Tryz.prog 27 #[yH V p,I n] w (ags w (afe p bl (vD (zy bl))).r):=by
 have hF:=ae6 hv hs hp.p64 hn h0;have hU:=ahP hv hn;have n4:=hs bl (Ji hn);obtain⟨Vf,Va,Vd,Vb⟩:=V;obtain⟨f1,f2,e1,F7,F6⟩:=hp.funcs.form;have D0:Vf=.slice f1 p.funcs.length f2:=e1;subst D0;obtain⟨da,dc,e2,C2,F9⟩:=hp.data.form;have C9:Vd=.slice da p.data.length dc:=e2;subst C9;obtain⟨gb,go,rfl,p5,bv,g0,c9⟩:=hp.funcs.get hn;obtain⟨ka,kc,rfl,F2,F1⟩:=c9.form;rw[Nk] at g0;have F5:=(Jh.1 hn).1;have D2:=hF.pos;obtain⟨N,hN⟩:∃N:Nat,aaG bl=N:=⟨(aaG bl).toNat,by have:=hF.cnt;omega⟩
 have G4:N<=65536:=by have:=hF.cnt;omega
 have v1:(aaG bl).toNat=N:=by rw[hN];rfl
 obtain⟨t2,i9⟩:∃t,w.heap.size=t:=⟨_,rfl⟩
 obtain⟨X,hX⟩:∃X,w.alloc (.cells #[.slice (some ⟨gb,go,none⟩) p.funcs.length f2,Va,I p.entry,I p.handler,.slice da p.data.length dc,Vb] 29)=X:=⟨_,rfl⟩
 obtain⟨Y,hY⟩:∃Y,X.alloc (.cells #[.slice ka bl.length kc] 39)=Y:=⟨_,rfl⟩
 have y:Below t2 w X:=by rw[<-hX];exact(Below.refl _ _).alloc Zo _
 have C6:X.heap.size=t2+1:=by rw[<-hX,<-i9];simp
 have u8:Below t2 w Y:=by rw[<-hY];exact y.alloc Zo _
 have l4:L X t2 #[.slice (some ⟨gb,go,none⟩) p.funcs.length f2,Va,I p.entry,I p.handler,.slice da p.data.length dc,Vb] 29:=by rw[<-hX];exact zI i9
 have s9:L Y t2 #[.slice (some ⟨gb,go,none⟩) p.funcs.length f2,Va,I p.entry,I p.handler,.slice da p.data.length dc,Vb] 29:=by rw[<-hY];exact zB l4
 have s8:L Y (t2+1) #[.slice ka bl.length kc] 39:=by rw[<-hY];exact zI C6
 have h7:=Ja (show ∀W,Below t2 w W->ProgIn W t2 ⟨.slice (some ⟨gb,go,none⟩) p.funcs.length f2,Va,.slice da p.data.length dc,Vb⟩ p/\wX W t2 (.slice ka bl.length kc) bl/\T W gb (go+n) (.slice ka bl.length kc) from fun W hb=>by rw[<-i9] at hb ⊢;exact⟨hp.below hb,c9.below yT hb,zV hb p5 g0⟩);have HF:=Ja (Jb hF (Jb hU (Jb hs (Jb hv (Jb n4 (Jb h0 v1))))));have HY:=Ja (Jb u8 (Jb s9 s8))
 have v9:=Ja (show ∀W,Below t2 w W->t2<=W.heap.size->Calls Tryz.prog 17 #[.agg #[.slice ka bl.length kc]] W (df W (N:Int)) from fun W hb hl=>by
  have:=jr (h7.out W hb).2.1 hl n4;rw[hN] at this
  exact this)
 have F4:gb<w.heap.size:=p5;have B9:T X gb (go+n) (.slice ka bl.length kc):=(h7.out X y).2.2;have F0:(n:Int)<(p.funcs.length:Int):=Zo;have x0:=zA (i:=0) l4 rfl;have xl:=lt_of_block l4;have gl:gb<X.heap.size:=Zo;clear hp hs hv hn h0 hF hU c9 n4 y u8 l4 s9 s8 g0 p5 hN v1;unfold yH;go_enter Tryz.func27,Tryz.ntmps27;go_upto_region 1 with fail;go_upto_region 2 with fail;clear hX hY x0 xl gl B9;have y5:=zA (i:=0) HY.out.2.2 rfl;have yl:=lt_of_block HY.out.2.2;have o4:=agE N Zo;have l2:=run_make_row' (P:=Tryz.prog) 97 4 (.bool false) 1 Tryz.underlying97 Tryz.info_bool rfl .i64 .i64 N Zo Zo;rw[agr] at l2;obtain⟨ZR,q7⟩:∃Z,((List.replicate N (⟨0,0⟩:Rg)).flatMap wb).toArray=Z:=⟨_,rfl⟩
 obtain⟨ZB,q9⟩:∃Z,((List.replicate N false).map Value.bool).toArray=Z:=⟨_,rfl⟩
 rw[q7] at o4;rw[q9] at l2;have HZ:=Ja (Jb q7 q9);clear q7 q9;go_upto_region 4 with(go_at_call 17;go_must (refine(v9.out _ HY.out.1 Zo).mono ?_;rintro e w2 ⟨rfl,u9⟩;have H2:=Ja u9;clear u9))
 clear o4 l2 y5 yl;have j2:=zH H2.out HY.out.2.1 (lt_of_block HY.out.2.1);have a7:=zH H2.out HY.out.2.2 (lt_of_block HY.out.2.2);have B7:=lt_of_block a7;have q3:Below t2 w w2:=HY.out.1.trans (H2.out.mono (by have:=lt_of_block HY.out.2.1;omega));obtain⟨rb,n7⟩:∃r,w2.heap.size=r:=⟨_,rfl⟩
 rw[n7];obtain⟨W0,k4⟩:∃W,(w2.alloc (.cells ZR 45)).alloc (.cells ZB 4)=W:=⟨_,rfl⟩
 have v0:Below rb w2 W0:=by rw[<-k4];exact((Below.refl _ _).alloc Zo _).alloc Zt _
 have n2:RuAt W0 rb (rb+1) N ⟨ag6 N 0,List.replicate N false⟩:=by
  refine⟨?_,?_,fulR_ok (Jt _),by omega,by omega⟩
  ·rw[show(ag6 N 0)=List.replicate N ⟨0,0⟩ from by unfold ag6;simp,HZ.out.1,<-k4];exact zB (zI n7)
  ·rw[HZ.out.2,<-k4];exact zI Zt
 have H0:=Ja (show Below t2 w w2/\Below rb w2 W0/\L w2 t2 #[.slice (some ⟨gb,go,none⟩) p.funcs.length f2,Va,I p.entry,I p.handler,.slice da p.data.length dc,Vb] 29/\L w2 (t2+1) #[.slice ka bl.length kc] 39/\t2+1<rb/\rb+1<W0.heap.size from⟨q3,v0,j2,a7,by omega,n2.lt.2⟩);have v3:=Ja n2;rw[k4];clear j2 a7 B7 q3 n7 k4 v0 n2 HY H2 v9 HZ;go_wp2
 go_loopw [8] (fun vv wx=>∃v:Nat,v<=N/\vv=I v/\Hid (RuAt wx rb (rb+1) N ⟨ag6 N v,List.replicate N false⟩/\RuTo rb (rb+1) W0 wx)) (fun vv _=>N-(intOf vv).toNat)
 case atStart=>exact⟨0,Jt _,rfl,Ja ⟨v3.out,RuTo.refl _ _ _⟩⟩
 case round=>
  obtain⟨v,c4,rfl,HV⟩:=hrel
  by_cases a4:v<N
  ·have c3:(v:Int)<(N:Int):=Zo;obtain⟨r0,r1⟩:=HV.out.1.rcell a4;have q0:=(HV.out.1.free (v*2)).1;have q1:=(HV.out.1.free (v*2+1)).1;have rl:=HV.out.1.lt.1;clear a4;go_wp2_with (go_at_call 50;go_must (refine(afz _).mono ?_;rintro e w5 ⟨rfl,d6⟩;have f7:=HV.out.1.below d6;have t4:=HV.out.2.trans (RuTo.of_below d6);clear d6 r0 r1 q0 q1 rl;obtain⟨r0,r1⟩:=f7.rcell (show v<N by omega);have q0:=(f7.free (v*2)).1;have q1:=(f7.free (v*2+1)).1;have rl:=f7.lt.1;have H5:=Ja (Jb f7 t4);clear f7 t4))
   go_roundw
   case rel=>
    have h:=H5.out.1.setR (v:=v) (a:=y7) Zo vu rfl
    dsimp only at h
    rw[fulR_set Zo] at h;exact⟨v+1,by omega,by go_num,Ja ⟨h.1,H5.out.2.trans h.2⟩⟩
   case measure=>simp[intOf];omega
  ·obtain rfl:N=v:=by omega
   have c3:¬(N:Int)<(N:Int):=Zo;clear a4 c4 v3;have w8:=H0.out.2.2.2.2;have m1:Below rb w2 wr:=H0.out.2.1.trans (HV.out.2.below ⟨Je _,by omega,by omega⟩);have a2:Below t2 w wr:=H0.out.1.trans (m1.mono Zo);have a7:L wr (t2+1) #[.slice ka bl.length kc] 39:=zH m1 H0.out.2.2.2.1 Zo;have j2:L wr t2 #[.slice (some ⟨gb,go,none⟩) p.funcs.length f2,Va,I p.entry,I p.handler,.slice da p.data.length dc,Vb] 29:=zH m1 H0.out.2.2.1 Zo;have A2:rb+1<wr.heap.size:=HV.out.1.lt.2;have hF:=HF.out.1;have e7:=HF.out.2.2.2.2.2.1
   have n3:∀b∈bl,ro bl b.term=true:=fun b hb=>by
    obtain⟨i,hi⟩:=Ny hb;have:=hF.st.trm i (Jh.1 hi).1;rw[zf hi] at this;exact this
   have u4:=afH (h7.out wr a2).2.1 Zo HF.out.2.2.2.2.1;have t8:∀W sv B',pV W B' sv (zk bl)->Calls Tryz.prog 51 #[.agg #[sv]] W (fJ W (vD (zy bl))):=fun W sv B' h=>afv (ahD HF.out.2.2.2.2.1 e7 n3 h)
   have HG:=Ja u4;have s5:=Ja t8;obtain⟨os,f9⟩:∃os,vD (zy bl)=os:=⟨_,rfl⟩
   rw[f9] at s5
   have B5:0<os.length:=by
    obtain⟨ns,hO⟩:=adR hF.st.vg;rw[<-f9,hO.eq];simp
   have v5:=Ja (Jb f9 (show ∀i∈os,i<bl.length from fun i hi=>by rw[<-f9] at hi;exact(hF.ord i).1 hi));rw[f9];have HW:=Ja (Jb a2 (Jb j2 a7));have y5:=zA (i:=0) a7 rfl;have yl:=lt_of_block a7;clear f9 u4 t8 n3 hF e7 a2 m1 j2 a7 w8;go_upto_region 9 with(first|(go_at_call 48;go_must (refine HG.out.mono ?_;rintro e w6 ⟨ga,gn,gc,rfl,u5,a6⟩))|(go_at_call 51;go_must (refine(s5.out _ _ _ u5).mono ?_;rintro e w7 ⟨ov,rfl,t7,k3⟩)))
   obtain⟨ob,oc,rfl,D5,D4,x1,w9⟩:=ahc t7 rfl B5;have d5:=a6.trans (k3.mono a6.size);have q2:Below t2 w w7:=HW.out.1.trans (d5.mono Zo);have A7:=d5.size;obtain⟨oc0,j1,ho2⟩:=w9;have E8:=lt_of_block j1;have HO:=Ja (show Below t2 w w7/\L w7 t2 #[.slice (some ⟨gb,go,none⟩) p.funcs.length f2,Va,I p.entry,I p.handler,.slice da p.data.length dc,Vb] 29/\L w7 (t2+1) #[.slice ka bl.length kc] 39/\L w7 ob oc0 3/\(∀(k x:Nat),os[k]? =some x->oc0[k]? =some (I x))/\(t2+1<rb/\rb+1<ob) from⟨q2,zH d5 HW.out.2.1 (lt_of_block HW.out.2.1),zH d5 HW.out.2.2 (lt_of_block HW.out.2.2),j1,ho2,H0.out.2.2.2.2.1,by have:=a6.size;omega⟩);have b5:=HV.out.1.below d5
   have t5:(⟨ag6 N N,List.replicate N false⟩:Slv)=ff N:=by
    unfold ag6 ff;simp
   rw[t5] at b5;have l:=Ja b5;clear u5 a6 k3 t7 d5 q2 j1 ho2 b5 t5 y5 yl H0 HV HW HG s5 A2 x1;go_wp2
   go_loopw [10] (fun kv wx=>∃(k:Nat) (s:Slv),k<=os.length/\kv=I k/\Hid ((evL bl (os.take k)).foldl (evQ p) (ff N)=s/\RuAt wx rb (rb+1) N s/\RuTo rb (rb+1) w7 wx)) (fun kv _=>os.length-(intOf kv).toNat)
   case atStart=>exact⟨0,_,Jt _,rfl,Ja ⟨rfl,l.out,RuTo.refl _ _ _⟩⟩
   case round=>
    clear l;obtain⟨k,s,hk,rfl,HK⟩:=hrel
    by_cases a4:k<os.length
    ·have c3:(k:Int)<(os.length:Int):=Zo;obtain⟨i,hi⟩:∃i,os[k]? =some i:=⟨_,Jd a4⟩
     have c7:=v5.out.2 i (Ji hi);have F3:(i:Int)<(bl.length:Int):=Zo;obtain⟨bx,p9⟩:∃bx,bl[i]? =some bx:=⟨_,Jd c7⟩
     have h5:=HK.out.2.2.blk HO.out.2.2.1 (lt_of_block HO.out.2.2.1) (by have:=HO.out.2.2.2.2.2.1;omega);have ho:=HK.out.2.2.blk HO.out.2.2.2.1 (lt_of_block HO.out.2.2.2.1) (by have:=HO.out.2.2.2.2.2.2;omega);have o1:T wr ob k (I i):=zA ho (HO.out.2.2.2.2.1 k i hi);have y5:=zA (i:=0) h5 rfl;have yl:=lt_of_block h5;have ol:=lt_of_block ho;have a2:Below t2 w wr:=HO.out.1.trans (HK.out.2.2.below (by have:=HO.out.2.2.2.2.2;omega));obtain⟨bb,bo,B8,C4,g2,g3,h64,pv,ov,tv,g0,g1,g4,o2,l1,k7⟩:=(h7.out wr a2).2.1.get p9;obtain⟨pa,pc,rfl,B4,B3⟩:=o2.form;obtain⟨oa,oc',rfl,E9,E7⟩:=l1.form;obtain⟨ta,tc,rfl,E5,n3⟩:=k7.form;subst B8;have f0:bb<wr.heap.size:=Zo
     have v8:=Ja (show ∀W,Below wr.heap.size wr W->(T W ob k (I i)/\T W (t2+1) 0 (.slice (some ⟨bb,bo,none⟩) bl.length kc))/\T W bb (bo+i*5) (.slice pa bx.params.length pc)/\T W bb (bo+i*5+1) (.slice oa bx.ops.length oc')/\T W bb (bo+i*5+2) (I bx.term.kind)/\T W bb (bo+i*5+3) (I bx.term.a)/\T W bb (bo+i*5+4) (.slice ta bx.term.to.length tc) from fun W hb=>
      ⟨⟨(hb.cell ol).trans o1,(hb.cell yl).trans y5⟩,(hb.cell f0).trans g0,(hb.cell f0).trans g1,(hb.cell f0).trans g2,(hb.cell f0).trans g3,(hb.cell f0).trans g4⟩)
     obtain⟨Z,hZ⟩:∃Z,(wr.alloc (.cells #[.slice pa bx.params.length pc,.slice oa bx.ops.length oc',I bx.term.kind,I bx.term.a,.slice ta bx.term.to.length tc] 84)).drew=Z:=⟨_,rfl⟩
     have d0:Below wr.heap.size wr Z:=by rw[<-hZ];exact((Below.refl _ _).alloc (Je _) _).drew
     have m2:L Z wr.heap.size #[.slice pa bx.params.length pc,.slice oa bx.ops.length oc',I bx.term.kind,I bx.term.a,.slice ta bx.term.to.length tc] 84:=by rw[<-hZ];exact zI (W:=wr) rfl
     have l5:t2<=wr.heap.size:=Zo
     have HZ:=Ja (show RuAt Z rb (rb+1) N s/\RuTo rb (rb+1) w7 Z/\L Z wr.heap.size #[.slice pa bx.params.length pc,.slice oa bx.ops.length oc',I bx.term.kind,I bx.term.a,.slice ta bx.term.to.length tc] 84/\mN Z t2 (.slice oa bx.ops.length oc') bx.ops/\wH Z t2 (.slice ta bx.term.to.length tc) bx.term.to/\rb+1<wr.heap.size/\Below t2 w Z/\t2+1<rb/\L Z t2 #[.slice (some ⟨gb,go,none⟩) p.funcs.length f2,Va,I p.entry,I p.handler,.slice da p.data.length dc,Vb] 29/\L Z (t2+1) #[.slice (some ⟨bb,bo,none⟩) bl.length kc] 39 from
      ⟨HK.out.2.1.below d0,HK.out.2.2.trans (RuTo.of_below d0),m2,l1.below xA (d0.mono l5),k7.below xL (d0.mono l5),HK.out.2.1.lt.2,a2.trans (d0.mono l5),HO.out.2.2.2.2.2.1,zH d0 (HK.out.2.2.blk HO.out.2.1 (lt_of_block HO.out.2.1) (by have:=HO.out.2.2.2.2.2.1;omega)) Zo,zH d0 h5 Zo⟩)
     have HB:=Ja (Jb p9 (Jb hi (Jb HK.out.1 a4)));clear p9 hi a2 h64 o2 l1 k7 m2 h5 ho a4 c7 B4 B3 C4;go_upto_region 12 with fail
     go_region_held3 (fun w'=>(T w' ob k (I i)/\T w' (t2+1) 0 (.slice (some ⟨bb,bo,none⟩) bl.length kc))/\T w' bb (bo+i*5) (.slice pa bx.params.length pc)/\T w' bb (bo+i*5+1) (.slice oa bx.ops.length oc')/\T w' bb (bo+i*5+2) (I bx.term.kind)/\T w' bb (bo+i*5+3) (I bx.term.a)/\T w' bb (bo+i*5+4) (.slice ta bx.term.to.length tc))
      ((refine v8.out _ ?_;repeat' (first|with_reducible exact Below.refl _ _|with_reducible exact d0|with_reducible refine Below.drew ?_|with_reducible refine Below.alloc ?_ (by first|exact Je _|(simp;done)) _|with_reducible refine Below.setCell ?_ (by first|exact Je _|(simp;done)) _)))
      (fail)
     clear o1 y5 yl ol d0 v8;go_upto_region 13 with fail;clear hZ g0 g1 g2 g3 g4;obtain⟨f6,w4⟩:∃t,wr.heap.size=t:=⟨_,rfl⟩
     rw[w4] at HZ l5 ⊢;have d1:T Z f6 1 (.slice oa bx.ops.length oc'):=zA HZ.out.2.2.1 rfl;have dl:=lt_of_block HZ.out.2.2.1;go_wp2;clear d1 dl
     go_loopw [12] (fun jv wx=>∃(j:Nat) (s':Slv),j<=bx.ops.length/\jv=I j/\Hid ((bx.ops.take j).foldl (opQ p) s=s'/\RuAt wx rb (rb+1) N s'/\RuTo rb (rb+1) Z wx)) (fun jv _=>bx.ops.length-(intOf jv).toNat)
     case atStart=>exact⟨0,s,Jt _,rfl,Ja ⟨rfl,HZ.out.1,RuTo.refl _ _ _⟩⟩
     case round=>
      obtain⟨j,s',hj,rfl,HJ⟩:=hrel
      by_cases a4:j<bx.ops.length
      ·have c3:(j:Int)<(bx.ops.length:Int):=Zo;obtain⟨o,ho⟩:∃o,bx.ops[j]? =some o:=⟨_,Jd a4⟩
       have s7:=HZ.out.2.2.2.2.2.2.2.1;have y2:=HZ.out.2.2.2.2.2.1;have i2:=lt_of_block HZ.out.2.2.1;have a2:Below t2 Z wr:=HJ.out.2.2.below ⟨by omega,by omega,by omega⟩;obtain⟨qb,qo,n9,o0,e0,e1,e2,e3,e4,h64,av,e5,g6⟩:=(HZ.out.2.2.2.1.below xA a2).get ho;obtain⟨aa,ac,rfl,_,_⟩:=g6.form;subst n9;have a3:=HJ.out.2.2.blk HZ.out.2.2.1 i2 Zo;have d1:T wr f6 1 (.slice (some ⟨qb,qo,none⟩) bx.ops.length oc'):=zA a3 rfl;have dl:=lt_of_block a3;have n8:qb<wr.heap.size:=Zo;obtain⟨c,hc⟩:∃c,o.code=c:=⟨_,rfl⟩
       obtain⟨rs,l7⟩:∃r,o.res=r:=⟨_,rfl⟩
       rw[hc] at e0;rw[l7] at e1;obtain⟨O,hO⟩:∃O,wr.alloc (.cells #[I c,I rs,I o.a,I o.b,.int .u16 (o.n:Int),.slice aa o.args.length ac] 76)=O:=⟨_,rfl⟩
       have b8:Below wr.heap.size wr O:=by rw[<-hO];exact(Below.refl _ _).alloc (Je _) _
       have m4:L O wr.heap.size #[I c,I rs,I o.a,I o.b,.int .u16 (o.n:Int),.slice aa o.args.length ac] 76:=by rw[<-hO];exact zI rfl
       have e6:=HJ.out.2.1.lt;have a8:=Ja (show RuAt O rb (rb+1) N s'/\RuTo rb (rb+1) Z O/\L O wr.heap.size #[I c,I rs,I o.a,I o.b,.int .u16 (o.n:Int),.slice aa o.args.length ac] 76/\rb+1<wr.heap.size/\Below t2 w O from⟨HJ.out.2.1.below b8,HJ.out.2.2.trans (RuTo.of_below b8),m4,e6.2,HZ.out.2.2.2.2.2.2.1.trans (a2.trans (b8.mono Zo))⟩)
       have b9:=Ja (show((1<=c/\c<=27)/\(c=2->0<=o.a/\o.a.toNat<p.data.length))/\cS N o/\(0<=rs->rs.toNat<N)/\o.n<65536 from by
        have c7:=(Jh.1 HB.out.1).1;have o3:o∈(xz bl i).ops:=by rw[zf HB.out.1];exact Ji ho
        have h1:=agz (HF.out.1.st.opok i c7 o o3);have h2:=(HF.out.1.rng i c7).2 o o3;rw[HF.out.2.2.2.2.2.2] at h2;rw[<-hc,<-l7]
        exact⟨⟨h1.1,h1.2.1⟩,h2.1,h2.2,HF.out.1.num i c7 o o3⟩)
       have g:=Ja (Jb ho (Jb hc (Jb l7 (Jb a4 HJ.out.1))));clear ho h64 g6 a2 b8 m4 a4 a3 l7 e6;go_upto_region 17 with fail;clear hO e0 e1 e2 e3 e4 e5 n8 o0 d1 dl hc;obtain⟨d,w3⟩:∃t,wr.heap.size=t:=⟨_,rfl⟩
       rw[w3] at a8 ⊢;have z0:T O d 0 (I c):=zA a8.out.2.2.1 rfl;have z1:T O d 1 (I rs):=zA a8.out.2.2.1 rfl;have zl:=lt_of_block a8.out.2.2.1
       by_cases hr:0<=rs
       ·have B2:decide (rs<0)=false:=decide_eq_false Zo;obtain⟨rn,B1⟩:∃rn:Nat,rs=rn:=⟨rs.toNat,by omega⟩
        have c5:rn<N:=by have:=b9.out.2.2.1 hr;omega
        subst B1;obtain⟨sh,n5⟩:∃f,zi c=f:=⟨_,rfl⟩
        have v4:=Ja (show ∀W,Calls Tryz.prog 52 #[I c] W (fun e w'=>e=.returned (.agg #[.bool sh.is,.bool sh.res,.bool sh.a,.bool sh.b,.bool sh.n])/\Below W.heap.size W w') from fun W=>by rw[<-n5];exact aaK c W);go_upto_region 19 with(go_at_call 52;go_must (refine(v4.out _).mono ?_;rintro e w5 ⟨rfl,d6⟩))
        obtain⟨i1,k9⟩:∃t,w5.heap.size=t:=⟨_,rfl⟩
        obtain⟨U,hU⟩:∃U,w5.alloc (.cells #[.bool sh.is,.bool sh.res,.bool sh.a,.bool sh.b,.bool sh.n] 120)=U:=⟨_,rfl⟩
        have d2:Below O.heap.size O U:=by rw[<-hU];exact d6.alloc d6.size _
        have n1:L U i1 #[.bool sh.is,.bool sh.res,.bool sh.a,.bool sh.b,.bool sh.n] 120:=by rw[<-hU];exact zI k9
        have l:=Ja (show RuAt U rb (rb+1) N s'/\RuTo rb (rb+1) Z U/\L U d #[I c,I rn,I o.a,I o.b,.int .u16 (o.n:Int),.slice aa o.args.length ac] 76/\L U i1 #[.bool sh.is,.bool sh.res,.bool sh.a,.bool sh.b,.bool sh.n] 120/\rb+1<d/\Below t2 w U/\d<i1/\t2+1<rb from
         ⟨a8.out.1.below d2,a8.out.2.1.trans (RuTo.of_below d2),zH d2 a8.out.2.2.1 zl,n1,a8.out.2.2.2.1,a8.out.2.2.2.2.trans (d2.mono (by have:=a8.out.2.2.2.1;omega)),by have:=d6.size;omega,s7⟩)
        rw[k9,hU];clear k9 hU d2 n1 d6 z0 z1 zl v4;have HC:=Ja (show ∀W:World,W.heap[d]? =U.heap[d]?->T W d 0 (I c)/\T W d 1 (I rn)/\T W d 2 (I o.a)/\T W d 3 (I o.b)/\T W d 4 (.int .u16 (o.n:Int)) from fun W h=>⟨zA (h.trans l.out.2.2.1) rfl,zA (h.trans l.out.2.2.1) rfl,zA (h.trans l.out.2.2.1) rfl,zA (h.trans l.out.2.2.1) rfl,zA (h.trans l.out.2.2.1) rfl⟩);obtain⟨z0,z1,z2,z3,z4⟩:=HC.out U rfl;have zl:=lt_of_block l.out.2.2.1;have xl:=lt_of_block l.out.2.2.2.1;have x2:T U i1 2 (.bool sh.a):=zA l.out.2.2.2.1 rfl;have x3:T U i1 3 (.bool sh.b):=zA l.out.2.2.2.1 rfl;have e7:d≠rb:=by have:=l.out.2.2.2.2.1;omega
        have D1:(rn:Int)<(N:Int):=Zo;have h4:=Ja n5;have wn:IntKind.i64.wrap (o.n:Int)=(o.n:Int):=Om _ (by have:=b9.out.2.2.2;omega);clear n5
        by_cases c1:c=1
        ·subst c1;go_upto_region 20 with fail
         go_region_held3 (fun w'=>T w' d 0 (I 1)/\T w' d 1 (I rn)/\T w' d 2 (I o.a)/\T w' d 3 (I o.b)/\T w' d 4 (.int .u16 (o.n:Int)))
          ((refine HC.out _ ?_;first|with_reducible rfl|exact rfl|exact c8|exact(Below.heap_setCell _ _ _ _ e7).trans ((Below.heap_setCell _ _ _ _ e7).trans c8)))
          ((go_at_call 53;refine(xr _ (a:=o.n) (b:=o.n) (by have:=b9.out.2.2.2;omega) (by have:=b9.out.2.2.2;omega)).mono ?_;rintro e w6 ⟨rfl,a6⟩;have y:Below U.heap.size U w6:=Below.trans (show Below U.heap.size U _ from by repeat' (first|with_reducible exact Below.refl _ _|with_reducible refine Below.drew ?_)) (a6.mono (Je _));have c8:w6.heap[d]? =U.heap[d]?:=y.block _ zl;have u:=l.out.1.below y;obtain⟨r0,r1⟩:=u.rcell c5;have q0:=(u.free (rn*2)).1;have q1:=(u.free (rn*2+1)).1;have rl:=u.lt.1;have H6:=Ja (Jb u (l.out.2.1.trans (RuTo.of_below y)));clear u a6 y))
         all_goals go_wp2_with fail
         all_goals (
          go_roundw
          case rel=>
           have h:=H6.out.1.setR c5 (a:=afw o.n) ⟨Je _,by show o.n<=65535;have:=b9.out.2.2.2;omega⟩ rfl;exact⟨j+1,_,g.out.2.2.2.1,by go_num,Ja ⟨by rw[xe g.out.1,g.out.2.2.2.2];exact aeN (by rw[g.out.2.2.1];omega) (by rw[g.out.2.2.1];rfl) (by unfold ft;rw[g.out.2.1,if_pos rfl]),h.1.below (by first|exact Below.refl _ _|exact(Below.refl _ _).drew),(H6.out.2.trans h.2).trans (RuTo.of_below (by first|exact Below.refl _ _|exact(Below.refl _ _).drew))⟩⟩
          case measure=>have:=g.out.2.2.2.1;simp[intOf];omega)
        ·have e1:(c==1)=false:=by rw[beq_eq_false_iff_ne];exact c1
         by_cases c2:c=2
         ·subst c2;obtain⟨j1,ho2⟩:=b9.out.1.2 rfl;obtain⟨an,b2⟩:∃an:Nat,o.a=an:=⟨o.a.toNat,by omega⟩
          have y1:an<p.data.length:=Zo;obtain⟨x',m5⟩:∃x',p.data[an]? =some x':=⟨_,Jd y1⟩
          have t6:=(h7.out U l.out.2.2.2.2.2.1).1;obtain⟨db,dq,C0,C1,k0,k1,k2,x8,G0,C2⟩:=t6.data.get m5;obtain⟨vv,t3⟩:∃vv,(x'.addr+o.n)%65536=vv:=⟨_,rfl⟩
          have E3:vv<65536:=Zo;have u1:IntKind.u16.wrap ((x'.addr:Int)+(o.n:Int))=(vv:Int):=by rw[xY];omega
          have u2:(vv:Int).tmod 65536=(vv:Int):=by rw[Qc Zo];omega
          have u3:IntKind.i64.wrap (vv:Int)=(vv:Int):=Om _ Zo;have D7:(an:Int)<(p.data.length:Int):=Zo;have y4:T U t2 4 (.slice da p.data.length dc):=zA (l.out.2.1.blk HZ.out.2.2.2.2.2.2.2.2.1 (lt_of_block HZ.out.2.2.2.2.2.2.2.2.1) Zo) rfl;have D9:=lt_of_block (l.out.2.1.blk HZ.out.2.2.2.2.2.2.2.2.1 (lt_of_block HZ.out.2.2.2.2.2.2.2.2.1) Zo);have F8:db<U.heap.size:=Zo;subst C0;rw[b2] at z2 HC;have s6:=Ja (Jb b2 (Jb m5 t3));clear b2 m5 t6 k0 k2 x8 j1 ho2 C1 t3 c1;go_upto_region 22 with fail;go_quiet (fail);go_upto_region 23 with fail
          go_region_held3 (fun w'=>T w' d 0 (I 2)/\T w' d 1 (I rn)/\T w' d 2 (I an)/\T w' d 3 (I o.b)/\T w' d 4 (.int .u16 (o.n:Int)))
           ((refine HC.out _ ?_;first|with_reducible rfl|exact rfl|exact c8|exact(Below.heap_setCell _ _ _ _ e7).trans ((Below.heap_setCell _ _ _ _ e7).trans c8)))
           ((go_at_call 53;refine(xr _ (a:=vv) (b:=vv) Zo Zo).mono ?_;rintro e w6 ⟨rfl,a6⟩;have y:Below U.heap.size U w6:=Below.trans (show Below U.heap.size U _ from by repeat' (first|with_reducible exact Below.refl _ _|with_reducible refine Below.drew ?_|with_reducible exact yC (Below.refl _ _))) (a6.mono (Je _));have c8:w6.heap[d]? =U.heap[d]?:=y.block _ zl;have u:=l.out.1.below y;obtain⟨r0,r1⟩:=u.rcell c5;have q0:=(u.free (rn*2)).1;have q1:=(u.free (rn*2+1)).1;have rl:=u.lt.1;have H6:=Ja (Jb u (l.out.2.1.trans (RuTo.of_below y)));clear u a6 y))
          all_goals go_wp2_with fail
          all_goals (
           go_roundw
           case rel=>
            have h:=H6.out.1.setR c5 (a:=afw vv) ⟨Je _,by show vv<=65535;omega⟩ rfl;exact⟨j+1,_,g.out.2.2.2.1,by go_num,Ja ⟨by rw[xe g.out.1,g.out.2.2.2.2];exact aeN (by rw[g.out.2.2.1];omega) (by rw[g.out.2.2.1];rfl) (by unfold ft;rw[g.out.2.1,if_neg Zd,if_pos rfl,s6.out.1,Ni,Jj,s6.out.2.1];exact congrArg (fun z=>some (afw z)) s6.out.2.2),h.1.below (by first|exact Below.refl _ _|exact(Below.refl _ _).drew),(H6.out.2.trans h.2).trans (RuTo.of_below (by first|exact Below.refl _ _|exact(Below.refl _ _).drew))⟩⟩
           case measure=>have:=g.out.2.2.2.1;simp[intOf];omega)
         ·have e2:(c==2)=false:=by rw[beq_eq_false_iff_ne];exact c2
          have g5:=b9.out.1.1
          by_cases b6:sh.b=true
          ·obtain⟨b7,e8⟩:=shape_ab (by rw[h4.out];exact b6);have f8:=b9.out.2.1.a (by rw[g.out.2.1];exact b7);have A5:=b9.out.2.1.b (by rw[g.out.2.1,h4.out];exact b6);obtain⟨an,b2⟩:∃an:Nat,o.a=an:=⟨o.a.toNat,by omega⟩
           obtain⟨bn,q5⟩:∃bn:Nat,o.b=bn:=⟨o.b.toNat,by omega⟩
           have q6:an<N:=Zo;have C3:bn<N:=Zo;have C5:(an:Int)<(N:Int):=Zo;have G1:(bn:Int)<(N:Int):=Zo;rw[b2] at z2 HC;rw[q5] at z3 HC;rw[b6] at x3;obtain⟨A,hA⟩:∃A,s'.get (an:Int)=A:=⟨_,rfl⟩
           obtain⟨B,hB⟩:∃B,s'.get (bn:Int)=B:=⟨_,rfl⟩
           have a5:A.ok:=by rw[<-hA];exact l.out.1.oks.get _
           have i0:B.ok:=by rw[<-hB];exact l.out.1.oks.get _
           obtain⟨R,hR⟩:∃R,ac1 c A B=R:=⟨_,rfl⟩
           have f4:R.ok:=by rw[<-hR,aeM ⟨e8,g5.2⟩ a5 i0];exact ahy g5.1 a5 i0
           have s1:=Ja (show ∀W,Calls Tryz.prog 54 #[I c,.agg #[.int .u16 (A.lo:Int),.int .u16 (A.hi:Int)],.agg #[.int .u16 (B.lo:Int),.int .u16 (B.hi:Int)]] W (fun e w'=>e=.returned (.agg #[.int .u16 (R.lo:Int),.int .u16 (R.hi:Int)])/\Below W.heap.size W w') from fun W=>by
            have:=afU W ⟨e8,g5.2⟩ a5 i0;rw[hR] at this
            exact this)
           have h6:=Ja (show ∀W,RuAt W rb (rb+1) N s'->(T W rb (an*2) (.int .u16 (A.lo:Int))/\T W rb (an*2+1) (.int .u16 (A.hi:Int)))/\T W rb (bn*2) (.int .u16 (B.lo:Int))/\T W rb (bn*2+1) (.int .u16 (B.hi:Int)) from fun W h=>by
            have h1:=h.rcell q6;have h2:=h.rcell C3;rw[hA] at h1;rw[hB] at h2
            exact⟨h1,h2⟩)
           have k6:=Ja (show ft p s' o=some R from by
            unfold ft
            rw[g.out.2.1,if_neg c1,if_neg c2,h4.out,if_pos b6,b2,q5,hA,hB,hR])
           obtain⟨⟨a0,a1⟩,b0,b1⟩:=h6.out U l.out.1;have s4:=Ja f4;clear hA hB hR a5 i0 f4 b2 q5 f8 A5 b7 b6 c1 c2 e8;go_upto_region 25 with fail;refine wp_region_noPanic ?_;refine yQ (S:=(fun w'=>T w' d 0 (I c)/\T w' d 1 (I rn)/\T w' d 2 (I an)/\T w' d 3 (I bn)/\T w' d 4 (.int .u16 (o.n:Int))/\T w' rb (an*2) (.int .u16 (A.lo:Int))/\T w' rb (an*2+1) (.int .u16 (A.hi:Int))/\T w' rb (bn*2) (.int .u16 (B.lo:Int))/\T w' rb (bn*2+1) (.int .u16 (B.hi:Int)))) 17 Zk ⟨z0,z1,z2,z3,z4,a0,a1,b0,b1⟩ (fun hHeld=>?_);refine Tl 0 ?_
           try simp only[Yp]
           refine Tl 1 ?_
           try simp only[Yp]
           refine Tl 2 ?_
           try simp only[Yp]
           refine Tl 3 ?_
           try simp only[Yp]
           refine Tl 4 ?_
           try simp only[Yp]
           refine Tl 5 ?_
           try simp only[Yp]
           refine Tl 6 ?_
           try simp only[Yp]
           refine Tl 7 ?_
           try simp only[Yp]
           refine Tl 8 ?_
           try simp only[Yp]
           refine Tl 9 ?_
           try simp only[Yp]
           refine Tl 10 ?_
           try simp only[Yp]
           refine Tl 11 ?_
           try simp only[Yp]
           refine Tl 12 ?_
           try simp only[Yp]
           refine Tl 13 ?_
           try simp only[Yp]
           refine Tl 14 ?_
           try simp only[Yp]
           refine z8 (rs:=[15]) Zk Zs ?_;refine zS.cons (o:=_) rfl (fun K hK=>?_) ?_
           ·skip
            (go_simp;refine(s1.out _).mono ?_;rintro e w6 ⟨rfl,a6⟩;have y:Below U.heap.size U w6:=Below.trans (show Below U.heap.size U _ from by repeat' (first|with_reducible exact Below.refl _ _|with_reducible refine Below.drew ?_|with_reducible exact yC (Below.refl _ _))) (a6.mono (by first|exact Je _|omega));have c8:w6.heap[d]? =U.heap[d]?:=y.block _ zl;have u:=l.out.1.below y;obtain⟨r0,r1⟩:=u.rcell c5;have q0:=(u.free (rn*2)).1;have q1:=(u.free (rn*2+1)).1;have rl:=u.lt.1;have b3:=HC.out w6 c8;have f5:=h6.out w6 u;have H6:=Ja (Jb u (l.out.2.1.trans (RuTo.of_below y)));clear u a6 y)
            refine hK.out _ _ ⟨b3.1,b3.2.1,b3.2.2.1,b3.2.2.2.1,b3.2.2.2.2,f5.1.1,f5.1.2,f5.2.1,f5.2.2⟩ (fun hHeld=>?_);clear hK K
            try simp only[Yp]
            refine Tl 16 ?_
            try simp only[Yp]
            refine z8 (rs:=[17]) Zk Zs ?_;refine zS.last (o:=_) rfl (fun K hK=>?_);go_simp;refine hK.out _ _ ?_;clear hK K
            try simp only[Yp]
            refine xj Zk (NoPanic.normal ?_) _;go_wp2_with fail;go_roundw
            case rel=>
             have h:=H6.out.1.setR c5 (a:=R) s4.out rfl;exact⟨j+1,_,g.out.2.2.2.1,by go_num,Ja ⟨by rw[xe g.out.1,g.out.2.2.2.2];exact aeN (by rw[g.out.2.2.1];omega) (by rw[g.out.2.2.1];rfl) k6.out,h.1.below (by first|exact Below.refl _ _|exact(Below.refl _ _).drew),(H6.out.2.trans h.2).trans (RuTo.of_below (by first|exact Below.refl _ _|exact(Below.refl _ _).drew))⟩⟩
            case measure=>have:=g.out.2.2.2.1;simp[intOf];omega
           exact zS.nil
          ·have l0:sh.b=false:=by simpa using b6
           rw[l0] at x3
           by_cases b7:sh.a=true
           ·have e8:3<=c:=Zo;have f8:=b9.out.2.1.a (by rw[g.out.2.1,h4.out];exact b7);obtain⟨an,b2⟩:∃an:Nat,o.a=an:=⟨o.a.toNat,by omega⟩
            have q6:an<N:=Zo;have C5:(an:Int)<(N:Int):=Zo;rw[b2] at z2 HC;rw[b7] at x2;obtain⟨A,hA⟩:∃A,s'.get (an:Int)=A:=⟨_,rfl⟩
            have a5:A.ok:=by rw[<-hA];exact l.out.1.oks.get _
            obtain⟨R,hR⟩:∃R,ac1 c A y7=R:=⟨_,rfl⟩
            have f4:R.ok:=by rw[<-hR,aeM ⟨e8,g5.2⟩ a5 vu];exact ahy g5.1 a5 vu
            have s1:=Ja (show ∀W,Calls Tryz.prog 54 #[I c,.agg #[.int .u16 (A.lo:Int),.int .u16 (A.hi:Int)],.agg #[.int .u16 0,.int .u16 65535]] W (fun e w'=>e=.returned (.agg #[.int .u16 (R.lo:Int),.int .u16 (R.hi:Int)])/\Below W.heap.size W w') from fun W=>by
             have:=afU W ⟨e8,g5.2⟩ a5 vu;rw[hR] at this
             exact this)
            have h6:=Ja (show ∀W,RuAt W rb (rb+1) N s'->T W rb (an*2) (.int .u16 (A.lo:Int))/\T W rb (an*2+1) (.int .u16 (A.hi:Int)) from fun W h=>by
             have h1:=h.rcell q6;rw[hA] at h1
             exact h1)
            have k6:=Ja (show ft p s' o=some R from by
             unfold ft
             rw[g.out.2.1,if_neg c1,if_neg c2,h4.out,if_neg b6,if_pos b7,b2,hA,hR])
            obtain⟨a0,a1⟩:=h6.out U l.out.1;have s4:=Ja f4;clear hA hR a5 f4 b2 f8 b7 b6 l0 c1 c2 e8;go_upto_region 27 with fail;refine wp_region_noPanic ?_;refine yQ (S:=(fun w'=>T w' d 0 (I c)/\T w' d 1 (I rn)/\T w' d 2 (I an)/\T w' d 3 (I o.b)/\T w' d 4 (.int .u16 (o.n:Int))/\T w' rb (an*2) (.int .u16 (A.lo:Int))/\T w' rb (an*2+1) (.int .u16 (A.hi:Int)))) 13 Zk ⟨z0,z1,z2,z3,z4,a0,a1⟩ (fun hHeld=>?_);refine Tl 0 ?_
            try simp only[Yp]
            refine Tl 1 ?_
            try simp only[Yp]
            refine Tl 2 ?_
            try simp only[Yp]
            refine Tl 3 ?_
            try simp only[Yp]
            refine Tl 4 ?_
            try simp only[Yp]
            refine Tl 5 ?_
            try simp only[Yp]
            refine Tl 6 ?_
            try simp only[Yp]
            refine Tl 7 ?_
            try simp only[Yp]
            refine Tl 8 ?_
            try simp only[Yp]
            refine Tl 9 ?_
            try simp only[Yp]
            refine z8 (rs:=[10]) Zk Zs ?_;refine zS.cons (o:=_) rfl (fun K hK=>?_) ?_
            ·skip
             (go_simp;refine(afz _).mono ?_;rintro e w7 ⟨rfl,k3⟩;have f3:Below U.heap.size U w7:=Below.trans (show Below U.heap.size U _ from by repeat' (first|with_reducible exact Below.refl _ _|with_reducible refine Below.drew ?_|with_reducible exact yC (Below.refl _ _))) (k3.mono (by first|exact Je _|omega));have b5:=l.out.1.below f3;have A7:=f3.size;have g8:=HC.out w7 (f3.block _ zl);have r2:=h6.out w7 b5;obtain⟨r0,r1⟩:=b5.rcell c5;have q0:=(b5.free (rn*2)).1;have q1:=(b5.free (rn*2+1)).1;have rl:=b5.lt.1;clear b5 k3)
             refine hK.out _ _ ⟨g8.1,g8.2.1,g8.2.2.1,g8.2.2.2.1,g8.2.2.2.2,r2.1,r2.2⟩ (fun hHeld=>?_);clear hK K
             try simp only[Yp]
             refine z8 (rs:=[11]) Zk Zs ?_;refine zS.cons (o:=_) rfl (fun K hK=>?_) ?_
             ·skip
              (go_simp;refine(s1.out _).mono ?_;clear r0 r1 q0 q1 rl;rintro e w6 ⟨rfl,a6⟩;have y:Below U.heap.size U w6:=Below.trans (show Below U.heap.size U _ from by repeat' (first|with_reducible exact Below.refl _ _|with_reducible exact f3|with_reducible refine Below.drew ?_|with_reducible exact yC (Below.refl _ _))) (a6.mono (by first|exact Je _|omega));have c8:w6.heap[d]? =U.heap[d]?:=y.block _ zl;have u:=l.out.1.below y;obtain⟨r0,r1⟩:=u.rcell c5;have q0:=(u.free (rn*2)).1;have q1:=(u.free (rn*2+1)).1;have rl:=u.lt.1;have b3:=HC.out w6 c8;have f5:=h6.out w6 u;have H6:=Ja (Jb u (l.out.2.1.trans (RuTo.of_below y)));clear u a6 y f3 g8 r2)
              refine hK.out _ _ ⟨b3.1,b3.2.1,b3.2.2.1,b3.2.2.2.1,b3.2.2.2.2,f5.1,f5.2⟩ (fun hHeld=>?_);clear hK K
              try simp only[Yp]
              refine Tl 12 ?_
              try simp only[Yp]
              refine z8 (rs:=[13]) Zk Zs ?_;refine zS.last (o:=_) rfl (fun K hK=>?_);go_simp;refine hK.out _ _ ?_;clear hK K
              try simp only[Yp]
              refine xj Zk (NoPanic.normal ?_) _;go_wp2_with fail;go_roundw
              case rel=>
               have h:=H6.out.1.setR c5 (a:=R) s4.out rfl;exact⟨j+1,_,g.out.2.2.2.1,by go_num,Ja ⟨by rw[xe g.out.1,g.out.2.2.2.2];exact aeN (by rw[g.out.2.2.1];omega) (by rw[g.out.2.2.1];rfl) k6.out,h.1.below (by first|exact Below.refl _ _|exact(Below.refl _ _).drew),(H6.out.2.trans h.2).trans (RuTo.of_below (by first|exact Below.refl _ _|exact(Below.refl _ _).drew))⟩⟩
              case measure=>have:=g.out.2.2.2.1;simp[intOf];omega
             exact zS.nil
            exact zS.nil
           ·have n6:sh.a=false:=by simpa using b7
            rw[n6] at x2
            have k6:=Ja (show ft p s' o=none from by
             unfold ft
             rw[g.out.2.1,if_neg c1,if_neg c2,h4.out,if_neg b6,if_neg b7])
            clear b7 b6 n6 l0 c1 c2;go_wp2;go_roundw
            case rel=>exact⟨j+1,s',g.out.2.2.2.1,by go_num,Ja ⟨by rw[xe g.out.1,g.out.2.2.2.2];exact opQ_none k6.out,l.out.1,l.out.2.1⟩⟩
            case measure=>have:=g.out.2.2.2.1;simp[intOf];omega
       ·have B2:decide (rs<0)=true:=decide_eq_true Zo;go_wp2;go_roundw
        case rel=>exact⟨j+1,s',g.out.2.2.2.1,by go_num,Ja ⟨by rw[xe g.out.1,g.out.2.2.2.2];unfold opQ;rw[g.out.2.2.1,if_neg hr],a8.out.1,a8.out.2.1⟩⟩
        case measure=>have:=g.out.2.2.2.1;simp[intOf];omega
      ·obtain rfl:j=bx.ops.length:=by omega
       have c3:¬(bx.ops.length:Int)<(bx.ops.length:Int):=Zo;have s7:=HZ.out.2.2.2.2.2.2.2.1;have y2:=HZ.out.2.2.2.2.2.1;have i2:=lt_of_block HZ.out.2.2.1;have a3:=HJ.out.2.2.blk HZ.out.2.2.1 i2 Zo;have d1:T wr f6 1 (.slice oa bx.ops.length oc'):=zA a3 rfl;have d4:T wr f6 4 (.slice ta bx.term.to.length tc):=zA a3 rfl;have dl:=lt_of_block a3;have v6:=Ja (show bx.ops.foldl (opQ p) s=s'/\RuAt wr rb (rb+1) N s'/\RuTo rb (rb+1) Z wr from⟨by have:=HJ.out.1;rw[Nl] at this;exact this,HJ.out.2⟩);clear a3 hj a4 HJ;go_wp2;clear d1 d4 dl
       go_loopw [16] (fun jv wx=>∃(j:Nat) (s2:Slv),j<=bx.term.to.length/\jv=I j/\Hid ((bx.term.to.take j).foldl (edgQ bl) s'=s2/\RuAt wx rb (rb+1) N s2/\RuTo rb (rb+1) Z wx)) (fun jv _=>bx.term.to.length-(intOf jv).toNat)
       case atStart=>exact⟨0,s',Jt _,rfl,Ja ⟨rfl,v6.out.2⟩⟩
       case round=>
        obtain⟨j,s2,hj,rfl,HJ⟩:=hrel
        by_cases a4:j<bx.term.to.length
        ·have c3:(j:Int)<(bx.term.to.length:Int):=Zo;obtain⟨e,he⟩:∃e,bx.term.to[j]? =some e:=⟨_,Jd a4⟩
         have a2:Below t2 Z wr:=HJ.out.2.2.below ⟨by omega,by omega,by omega⟩;obtain⟨qb,qo,n9,o0,e0,h64,av,e1,g6⟩:=(HZ.out.2.2.2.2.1.below xL a2).get he;obtain⟨aa,ac,rfl,G3,G2⟩:=g6.form;subst n9;have a3:=HJ.out.2.2.blk HZ.out.2.2.1 i2 Zo;have d4:T wr f6 4 (.slice (some ⟨qb,qo,none⟩) bx.term.to.length tc):=zA a3 rfl;have dl:=lt_of_block a3;have n8:qb<wr.heap.size:=Zo;have c7:=(Jh.1 HB.out.1).1;have r8:=ahT HF.out.1 HF.out.2.1 c7;rw[HF.out.2.2.2.2.2.2,zf HB.out.1] at r8;obtain⟨C8,r6,v2,r5⟩:=r8.tos e (Ji he);obtain⟨eb,l9⟩:∃eb:Nat,e.block=eb:=⟨e.block.toNat,by omega⟩
         have x7:eb<bl.length:=Zo;have D6:(eb:Int)<(bl.length:Int):=Zo;obtain⟨bq,q4⟩:∃bq,bl[eb]? =some bq:=⟨_,Jd x7⟩
         rw[l9,zf q4] at r6 r5;rw[l9] at e0;have e6:=HJ.out.2.1.lt;obtain⟨O,hO⟩:∃O,wr.alloc (.cells #[I eb,.slice aa e.args.length ac] 79)=O:=⟨_,rfl⟩
         have b8:Below wr.heap.size wr O:=by rw[<-hO];exact(Below.refl _ _).alloc (Je _) _
         have m3:L O wr.heap.size #[I eb,.slice aa e.args.length ac] 79:=by rw[<-hO];exact zI rfl
         have HE:=Ja (show RuAt O rb (rb+1) N s2/\RuTo rb (rb+1) Z O/\L O wr.heap.size #[I eb,.slice aa e.args.length ac] 79/\rb+1<wr.heap.size/\Below t2 w O/\zY O t2 (.slice aa e.args.length ac) e.args from⟨HJ.out.2.1.below b8,HJ.out.2.2.trans (RuTo.of_below b8),m3,e6.2,HZ.out.2.2.2.2.2.2.1.trans (a2.trans (b8.mono Zo)),g6.below zO (b8.mono Zo)⟩);have b4:=Ja (Jb he (Jb l9 (Jb q4 (Jb r6 (Jb v2 (Jb r5 (Jb a4 HJ.out.1)))))));clear he h64 g6 a2 b8 m3 a4 a3 e6 l9 q4 C8 r6 v2 r5 r8 c7;go_upto_region 32 with fail;clear hO e0 e1 d4 dl n8 o0;obtain⟨l3,w1⟩:∃t,wr.heap.size=t:=⟨_,rfl⟩
         rw[w1] at HE ⊢;have z1:T O l3 1 (.slice aa e.args.length ac):=zA HE.out.2.2.1 rfl;have zl:=lt_of_block HE.out.2.2.1;go_wp2;clear z1 zl
         go_loopw [18] (fun mv wx=>∃(m:Nat) (s3:Slv),m<=e.args.length/\mv=I m/\Hid (((bq.params.zip e.args).take m).foldl (fun t x=>agM t x.1 x.2) s2=s3/\RuAt wx rb (rb+1) N s3/\RuTo rb (rb+1) O wx)) (fun mv _=>e.args.length-(intOf mv).toNat)
         case atStart=>exact⟨0,s2,Jt _,rfl,Ja ⟨rfl,HE.out.1,RuTo.refl _ _ _⟩⟩
         case round=>
          obtain⟨m,s3,hm,rfl,HM⟩:=hrel
          by_cases l8:m<e.args.length
          ·have B6:(m:Int)<(e.args.length:Int):=Zo;obtain⟨x,hx⟩:∃x,e.args[m]? =some x:=⟨_,Jd l8⟩
           obtain⟨v,hv⟩:∃v,bq.params[m]? =some v:=⟨_,Jd (by have:=b4.out.2.2.2.1;omega)⟩
           have hz:(bq.params.zip e.args)[m]? =some (v,x):=List.getElem?_zip_eq_some.2 ⟨hv,hx⟩;have z6:=b4.out.2.2.2.2.1 x (Ji hx);have A3:=b4.out.2.2.2.2.2.1 v (Ji hv);have r3:=lt_of_block HE.out.2.2.1;have C7:=HE.out.2.2.2.1;have a2:Below t2 O wr:=HM.out.2.2.below ⟨by omega,by omega,by omega⟩;obtain⟨xb,xo,z7,A1,xc,_⟩:=(HE.out.2.2.2.2.2.below zO a2).get hx;subst z7;obtain⟨ub,uo,f8,A6,_,_,_,E0,_,_,u0,_,_,h8,_,_⟩:=(h7.out wr (HE.out.2.2.2.2.1.trans a2)).2.1.get b4.out.2.2.1;simp only[Option.some.injEq,Addr.mk.injEq,and_true] at f8;obtain⟨rfl,rfl⟩:=f8;obtain⟨ya,yc,rfl,y3,E1⟩:=h8.form;obtain⟨yb,yo,y6,z5,y0,_⟩:=h8.get hv;subst y6;rw[Nk] at xc y0;obtain⟨xn,rfl⟩:∃xn:Nat,x=xn:=⟨x.toNat,by omega⟩
           obtain⟨vn,rfl⟩:∃vn:Nat,v=vn:=⟨v.toNat,by omega⟩
           have A0:xn<N:=Zo;have c4:vn<N:=Zo;have E2:(xn:Int)<(N:Int):=Zo;have E4:(vn:Int)<(N:Int):=Zo;obtain⟨r0,r1⟩:=HM.out.2.1.rcell A0;obtain⟨A,hA⟩:∃A,s3.get (xn:Int)=A:=⟨_,rfl⟩
           obtain⟨G,hG⟩:∃G,s3.get (vn:Int)=G:=⟨_,rfl⟩
           obtain⟨q,hq⟩:∃q,s3.knw (vn:Int)=q:=⟨_,rfl⟩
           rw[hA] at r0 r1;have a5:A.ok:=by rw[<-hA];exact HM.out.2.1.oks.get _
           have r4:G.ok:=by rw[<-hG];exact HM.out.2.1.oks.get _
           have a7:=HM.out.2.2.blk (HE.out.2.1.blk HZ.out.2.2.2.2.2.2.2.2.2 (lt_of_block HZ.out.2.2.2.2.2.2.2.2.2) Zo) (by have:=a2.size;have:=(HE.out.2.1.size);have:=lt_of_block HZ.out.2.2.2.2.2.2.2.2.2;omega) Zo;have y5:T wr (t2+1) 0 (.slice (some ⟨bb,bo,none⟩) bl.length kc):=zA a7 rfl;have yl:=lt_of_block a7;have a9:=HM.out.2.2.blk HE.out.2.2.1 r3 Zo;have z0:T wr l3 0 (I eb):=zA a9 rfl;have z1:T wr l3 1 (.slice (some ⟨xb,xo,none⟩) e.args.length ac):=zA a9 rfl;have zl:=lt_of_block a9;have e6:=HM.out.2.1.lt;have E6:m<bq.params.length:=(Jh.1 hv).1;have D3:(m:Int)<(bq.params.length:Int):=Zo;have B0:xb<wr.heap.size:=Zo;have A9:bb<wr.heap.size:=Zo;have A8:yb<wr.heap.size:=Zo;obtain⟨U,hU⟩:∃U,wr.alloc (.cells #[.int .u16 (A.lo:Int),.int .u16 (A.hi:Int)] 45)=U:=⟨_,rfl⟩
           have d2:Below wr.heap.size wr U:=by rw[<-hU];exact(Below.refl _ _).alloc (Je _) _
           have n0:L U wr.heap.size #[.int .u16 (A.lo:Int),.int .u16 (A.hi:Int)] 45:=by rw[<-hU];exact zI rfl
           have l:=Ja (show RuAt U rb (rb+1) N s3/\RuTo rb (rb+1) O U/\L U wr.heap.size #[.int .u16 (A.lo:Int),.int .u16 (A.hi:Int)] 45/\rb+1<wr.heap.size from⟨HM.out.2.1.below d2,HM.out.2.2.trans (RuTo.of_below d2),n0,e6.2⟩);have HQ:=Ja (Jb hA (Jb hG (Jb hq (Jb hz (Jb a5 (Jb r4 (Jb l8 HM.out.1)))))));clear hA hG hq hz a5 r4 hx hv z6 A3 a2 A1 A6 h8 z5 y3 a7 a9 d2 n0 l8;go_upto_region 37 with fail;clear hU r0 r1 y5 yl z0 z1 zl u0 xc y0 B0 A9 A8;obtain⟨t20,w0⟩:∃t,wr.heap.size=t:=⟨_,rfl⟩
           rw[w0] at l ⊢;have d7:=l.out.1.kcell c4;rw[HQ.out.2.2.1] at d7;have A4:=l.out.1.lt;have a0:T U t20 0 (.int .u16 (A.lo:Int)):=zA l.out.2.2.1 rfl;have a1:T U t20 1 (.int .u16 (A.hi:Int)):=zA l.out.2.2.1 rfl;have al:=lt_of_block l.out.2.2.1;have p0:U.frozen? ⟨t20,0,none⟩=false:=zE l.out.2.2.1;have p1:U.frozen? ⟨t20,1,none⟩=false:=zE l.out.2.2.1;obtain⟨g0,g1⟩:=l.out.1.rcell c4;rw[HQ.out.2.1] at g0 g1;have q0:=(l.out.1.free (vn*2)).1;have q1:=(l.out.1.free (vn*2+1)).1;cases q
           ·skip
            go_upto_region 39 with fail;obtain⟨V,hV⟩:∃V,(U.setCell ⟨rb,vn*2,none⟩ (.int .u16 (A.lo:Int))).setCell ⟨rb,vn*2+1,none⟩ (.int .u16 (A.hi:Int))=V:=⟨_,rfl⟩
            have c0:=l.out.1.setR c4 HQ.out.2.2.2.2.1 hV;have p8:(U.setCell ⟨rb,vn*2,none⟩ (.int .u16 (A.lo:Int))).setCell ⟨rb,vn*2+1,none⟩ (.int .u16 (A.hi:Int))=V:=hV;have HV:=Ja (Jb c0.1 (l.out.2.1.trans c0.2));clear c0;go_upto_region 40 with fail
            try rw[hV]
            clear hV p8 d7 a0 a1 al g0 g1 q0 q1 p0 p1;have d7:T V (rb+1) vn (.bool (s3.knw (vn:Int))):=HV.out.1.kcell c4;have kf:=(HV.out.1.free vn).2;have kl:=HV.out.1.lt.2;go_wp2;go_roundw
            case rel=>
             have h:=HV.out.1.setK (v:=vn);exact⟨m+1,_,HQ.out.2.2.2.2.2.2.1,by go_num,Ja ⟨by rw[xe HQ.out.2.2.2.1,HQ.out.2.2.2.2.2.2.2];unfold agM;rw[HQ.out.2.2.1];rw[if_neg Zd,HQ.out.1];rfl,h.1,HV.out.2.trans h.2⟩⟩
            case measure=>have:=HQ.out.2.2.2.2.2.2.1;simp[intOf];omega
           ·skip
            obtain⟨lo,p3⟩:∃z,min A.lo G.lo=z:=⟨_,rfl⟩
            obtain⟨hi,p4⟩:∃z,max A.hi G.hi=z:=⟨_,rfl⟩
            have o5:=min16 A.lo G.lo;have o9:=ahR A.hi G.hi;rw[p3] at o5;rw[p4] at o9;obtain⟨H,hH⟩:∃H:Rg,H=⟨lo,hi⟩:=⟨_,rfl⟩
            have HH:=Ja (show sq A G=H/\H.ok from by
             have h1:sq A G=H:=by rw[hH];unfold sq;rw[p3,p4]
             exact⟨h1,by rw[<-h1];exact aeE HQ.out.2.2.2.2.1 HQ.out.2.2.2.2.2.1⟩)
            clear p3 p4;go_upto_region 38 with fail;refine zt 17 Zk Zk ?_;simp only[Qo,Uc,Qp,Ui]
            repeat (go_big_quiet_step (fail))
            refine wpQuiet_nil ?_;go_upto_region 39 with fail;obtain⟨U2,k5⟩:∃U2,((U.setCell ⟨t20,0,none⟩ (.int .u16 (lo:Int))).setCell ⟨t20,1,none⟩ (.int .u16 (hi:Int))).drew=U2:=⟨_,rfl⟩
            have x5:rb≠t20:=by have:=l.out.2.2.2;omega
            have x4:rb+1≠t20:=by have:=l.out.2.2.2;omega
            have u6:∀W:World,W.drew.heap=W.heap:=fun _=>rfl
            have s0:=zD (w:=U.setCell ⟨t20,0,none⟩ (.int .u16 (lo:Int))) (i:=1) (zD (w:=U) (i:=0) l.out.2.2.1 (.int .u16 (lo:Int))) (.int .u16 (hi:Int));rw[<-u6,k5] at s0;have h9:∀i,i≠t20->U2.heap[i]? =U.heap[i]?:=fun i h1=>by rw[<-k5,u6,Below.heap_setCell _ _ _ _ h1,Below.heap_setCell _ _ _ _ h1]
            have c9:Below t20 U U2:=by rw[<-k5];exact(((Below.refl t20 U).setCell (show t20<=t20 from Je _) _).setCell (show t20<=t20 from Je _) _).drew
            have D8:=lt_of_block HE.out.2.2.1
            have d3:=Ja (show RuAt U2 rb (rb+1) N s3/\RuTo rb (rb+1) O U2/\L U2 t20 #[.int .u16 (H.lo:Int),.int .u16 (H.hi:Int)] 45 from
             ⟨l.out.1.same (h9 rb x5) (h9 _ x4),⟨c9.os.trans l.out.2.1.os,c9.tape.trans l.out.2.1.tape,c9.output.trans l.out.2.1.output,Jn l.out.2.1.size c9.size,fun i hi h1 h2=>(h9 i (by have:=HM.out.2.2.size;omega)).trans (l.out.2.1.block i hi h1 h2)⟩,by rw[s0,hH];rfl⟩)
            try rw[k5]
            clear k5 s0 h9 c9 hH d7 a0 a1 al g0 g1 q0 q1 p0 p1 o5 o9;have a0:T U2 t20 0 (.int .u16 (H.lo:Int)):=zA d3.out.2.2 rfl;have a1:T U2 t20 1 (.int .u16 (H.hi:Int)):=zA d3.out.2.2 rfl;have al:=lt_of_block d3.out.2.2;have A4:=d3.out.1.lt;obtain⟨g0,g1⟩:=d3.out.1.rcell c4;have q0:=(d3.out.1.free (vn*2)).1;have q1:=(d3.out.1.free (vn*2+1)).1;have d7:True:=trivial;have p0:True:=trivial;have p1:True:=trivial;obtain⟨V,hV⟩:∃V,(U2.setCell ⟨rb,vn*2,none⟩ (.int .u16 (H.lo:Int))).setCell ⟨rb,vn*2+1,none⟩ (.int .u16 (H.hi:Int))=V:=⟨_,rfl⟩
            have c0:=d3.out.1.setR c4 HH.out.2 hV;have p8:(U2.setCell ⟨rb,vn*2,none⟩ (.int .u16 (H.lo:Int))).setCell ⟨rb,vn*2+1,none⟩ (.int .u16 (H.hi:Int))=V:=hV;have HV:=Ja (Jb c0.1 (d3.out.2.1.trans c0.2));clear c0;go_upto_region 40 with fail
            try rw[hV]
            clear hV p8 d7 a0 a1 al g0 g1 q0 q1 p0 p1;have d7:T V (rb+1) vn (.bool (s3.knw (vn:Int))):=HV.out.1.kcell c4;have kf:=(HV.out.1.free vn).2;have kl:=HV.out.1.lt.2;go_wp2;go_roundw
            case rel=>
             have h:=HV.out.1.setK (v:=vn);exact⟨m+1,_,HQ.out.2.2.2.2.2.2.1,by go_num,Ja ⟨by rw[xe HQ.out.2.2.2.1,HQ.out.2.2.2.2.2.2.2];unfold agM;rw[HQ.out.2.2.1];rw[if_pos rfl,HQ.out.1,HQ.out.2.1,HH.out.1];rfl,h.1,HV.out.2.trans h.2⟩⟩
            case measure=>have:=HQ.out.2.2.2.2.2.2.1;simp[intOf];omega
          ·obtain rfl:m=e.args.length:=by omega
           have B6:¬(e.args.length:Int)<(e.args.length:Int):=Zo;have r3:=lt_of_block HE.out.2.2.1;have C7:=HE.out.2.2.2.1;have a9:=HM.out.2.2.blk HE.out.2.2.1 r3 Zo;have z1:T wr l3 1 (.slice aa e.args.length ac):=zA a9 rfl;have zl:=lt_of_block a9;clear hm l8 a9;go_wp2;go_roundw
           case rel=>
            refine⟨j+1,s3,b4.out.2.2.2.2.2.2.1,by go_num,Ja ⟨?_,HM.out.2.1,HE.out.2.1.trans HM.out.2.2⟩⟩;rw[xe b4.out.1,b4.out.2.2.2.2.2.2.2,<-HM.out.1];unfold edgQ;rw[b4.out.2.1,zf b4.out.2.2.1,Oy (by rw[List.length_zip,b4.out.2.2.2.1];omega)]
           case measure=>have:=b4.out.2.2.2.2.2.2.1;simp[intOf];omega
        ·obtain rfl:j=bx.term.to.length:=by omega
         have c3:¬(bx.term.to.length:Int)<(bx.term.to.length:Int):=Zo;have a3:=HJ.out.2.2.blk HZ.out.2.2.1 i2 Zo;have d4:T wr f6 4 (.slice ta bx.term.to.length tc):=zA a3 rfl;have dl:=lt_of_block a3;clear hj a4 a3;go_wp2;go_roundw
         case rel=>
          refine⟨k+1,s2,HB.out.2.2.2,by go_num,Ja ⟨?_,HJ.out.2.1,HZ.out.2.1.trans HJ.out.2.2⟩⟩;rw[evL_take HB.out.2.1,List.foldl_append,HB.out.2.2.1,zf HB.out.1,evB_q,v6.out.1,<-HJ.out.1,Nl]
         case measure=>have:=HB.out.2.2.2;simp[intOf];omega
    ·obtain rfl:k=os.length:=by omega
     have c3:¬(os.length:Int)<(os.length:Int):=Zo;clear hk a4;go_wp2;go_ret
     have x6:afe p bl (vD (zy bl))=s:=by
      unfold afe;rw[HF.out.2.2.2.2.2.2,v5.out.1,<-HK.out.1,Nl]
     have hrl:s.r.length=N:=HK.out.2.1.oks.rl;have G5:=HO.out.2.2.2.2.2;have a2:Below t2 w wr:=HO.out.1.trans (HK.out.2.2.below Zo);rw[x6];refine⟨some ⟨rb,0,none⟩,by rw[hrl];rfl,fun _=>⟨rb,rfl,HK.out.2.1.row,by rw[i9];omega⟩,by rw[i9];exact a2⟩
theorem agT{p:IProg}{n:Nat}(hv:vC p=0)(hs:∀f∈p.funcs,vZ f)(h64:P64 p)(c:p.funcs[n]? =some bl)(g:bl≠ [])(j:ah0 (zy bl)):tr p bl=(afe p bl (vD (zy bl))).r:=by
 have h:=ae6 hv hs h64 c g;obtain⟨_,hf⟩:=rz hv;obtain⟨d,k⟩:=loc_of c g (hf n (Jh.1 c).1);exact rules_eq h k j (fun i hi o ho=>((agz (h.st.opok i hi o ho)).1).2) (ahP hv c)
theorem fn_terms{p:IProg}(c:FnS p bl):∀b∈bl,ro bl b.term=true:=fun b hb=>by
 obtain⟨i,hi⟩:=Ny hb;have:=c.st.trm i (Jh.1 hi).1
 rwa [zf hi] at this
theorem af6 (w:World)(sv:Value)(s:List Int)(x:Nat)(hs:zY w w.heap.size sv s)(hx:x<256):
 A 7 #[sv,.int .u8 (x:Int)] w fun e w'=>e=.returned (.bool true)/\O w w':=by
 obtain⟨sa,sc,rfl,d4,d3⟩:=hs.form;have HS:=Ja hs;clear hs d4 d3;go_enter Tryz.func7,Tryz.ntmps7;go_upto_region 2 with(go_at_call 11;go_must (refine(sanity10 _).mono ?_;rintro e w0 ⟨rfl,u⟩))
 have H1:=Ja u;clear u;have HM:=Ja (ag3 ((HS.out.below zO H1.out).mono zO H1.out.size));have b4:=acK (s.take 200);have a8:=fm (s.take 200);generalize uR (s.take 200)=p at *;go_upto_region 3 with(go_at_call 12;go_must (refine HM.out.mono ?_;rintro e w1 ⟨fa,fc,aa,ac,da,dc,ba,bc,rfl,hp,u⟩))
 have b5:=u.alloc u.size (G #[.slice fa p.funcs.length fc,.slice aa p.args.length ac,I p.entry,I p.handler,.slice da p.data.length dc,.slice ba p.banks.length bc] 29);have l:=Ja (Jb (H1.out.trans (b5.mono H1.out.size)) (PBx.new hp));clear u hp b5 HM H1;generalize w1.alloc (G #[.slice fa p.funcs.length fc,.slice aa p.args.length ac,I p.entry,I p.handler,.slice da p.data.length dc,.slice ba p.banks.length bc] 29)=X at *;generalize w1.heap.size=b8 at *;have e0:=ahi a8;obtain⟨n,hn,d5⟩:∃n:Nat,(x:Int)%(p.funcs.length:Int)=(n:Int)/\n<p.funcs.length:=⟨x%p.funcs.length,by omega,Qj _ e0.1⟩
 obtain⟨bl,b6⟩:∃bl,p.funcs[n]? =some bl:=⟨_,Jd d5⟩
 have c:=Ja (Jb b6 (Jb a8 (show ∀f∈p.funcs,vZ f from fun f hf=>(b4.sized Zd f hf).1)));have c0:=l.out.2.c0;have c1:=l.out.2.c1;have c2:=l.out.2.c2;have c3:=l.out.2.c3;have c4:=l.out.2.c4;have c5:=l.out.2.c5;have cl:=l.out.2.lt;clear b4 a8 b6;go_upto_region 4 with fail;rw[hn];clear hn;obtain⟨R,hR⟩:∃R,rgsP p (n:Int)=R:=⟨_,rfl⟩
 have h64:=l.out.2.prog.p64;have b7:(R.length:Int)=aaG bl:=by rw[<-hR];exact rgsP_len c.out.2.1 c.out.2.2 h64 c.out.1
 have b0:R.length<=65536/\∀a∈R,a.ok:=by
  by_cases h0:bl=[]
  ·subst h0;have h1:R.length=0:=by have:aaG []=0:=rfl;omega
   rw[Nz h1];exact⟨by decide,fun a g=>by cases g⟩
  ·have hF:=ae6 c.out.2.1 c.out.2.2 h64 c.out.1 h0;refine⟨by have:=hF.cnt;omega,fun a g=>?_⟩;rw[<-hR,afX c.out.2.1 c.out.1 h0] at g;exact(lx hF).1 a g
 have b1:=Ja (Jb b7 b0.2);have e4:=b0.1
 have b9:=Ja (show ∀W,O X W->A 15 #[.agg #[.slice fa p.funcs.length fc,.slice aa p.args.length ac,I p.entry,I p.handler,.slice da p.data.length dc,.slice ba p.banks.length bc],I n] W (ags W R) from fun W hb=>by
  have:=agQ (l.out.2.below hb).prog (Je _) c.out.2.2 (n:Int)
  rwa [hR] at this)
 have e2:=Ja (show bl≠ []->ah0 (zy bl)->∀W,O X W->A 27 #[.agg #[.slice fa p.funcs.length fc,.slice aa p.args.length ac,I p.entry,I p.handler,.slice da p.data.length dc,.slice ba p.banks.length bc],I n] W (ags W R) from fun h0 g W hb=>by
  have:=ahn (l.out.2.below hb).prog c.out.1 h0 c.out.2.1 c.out.2.2;rw[<-agT c.out.2.1 c.out.2.2 h64 c.out.1 h0 g,<-afX c.out.2.1 c.out.1 h0,hR] at this
  exact this)
 clear hR b7 b0 h64;go_upto_region 5 with(go_at_call 15;go_must (refine(b9.out _ (Below.refl _ _)).mono ?_;rintro e w2 ⟨ra,rfl,b2,a4⟩))
 clear c0 c1 c2 c3 c4 c5 cl b9;have k2:=l.out.2.below a4;obtain⟨gb,go,rfl,a2,fv,g0,a9⟩:=k2.prog.funcs.get c.out.1;rw[Nk] at g0;obtain⟨ka,kc,rfl,d7,d6⟩:=a9.form;have e3:(n:Int)<(p.funcs.length:Int):=Zo;have i:=Ja (show PBx w2 b8 p (some ⟨gb,go,none⟩) fc aa ac da dc ba bc/\wX w2 w2.heap.size (.slice ka bl.length kc) bl/\(gb<w2.heap.size/\T w2 gb (go+n) (.slice ka bl.length kc))/\O w w2/\O X w2 from⟨k2,a9,⟨a2,g0⟩,l.out.1.trans (a4.mono l.out.1.size),a4⟩);have c7:=Ja b2;have c9:=Ja (show ∀W,O w2 W->T W b8 0 (.slice (some ⟨gb,go,none⟩) p.funcs.length fc)/\T W gb (go+n) (.slice ka bl.length kc)/\b8<W.heap.size/\gb<W.heap.size from fun W hb=>⟨(i.out.1.below hb).c0,zV hb a2 g0,(i.out.1.below hb).lt,Jy a2 hb.size⟩);clear k2 a2 g0 a9 a4 b2 d7 d6;go_wp2
 go_loopw [27] (fun kv wx=>∃k:Nat,k<=R.length/\kv=I k/\Hid (O w2 wx)) (fun kv _=>R.length-(intOf kv).toNat)
 case atStart=>exact⟨0,Jt _,rfl,Ja (Below.refl _ _)⟩
 case round=>
  obtain⟨k,hk,rfl,HK⟩:=hrel
  by_cases d:k<R.length
  ·have a1:(k:Int)<(R.length:Int):=Zo;have a0:=Ja d;have y:R≠ []:=fun e=>by rw[e] at d;exact absurd d (Nat.not_lt_zero _)
   obtain⟨rb,rfl,t,_⟩:=c7.out y;obtain⟨a,g⟩:∃a,R[k]? =some a:=⟨_,Jd d⟩
   have a7:=b1.out.2 a (Ji g);have o:=zH HK.out t (lt_of_block t);have r0:T wr rb (k*2) (U (a.lo:Int)):=by have:=oW (f:=wb) (n:=2) (fun _=>rfl) o g (j:=0) rfl;rw[Ng,Uk] at this;exact this
   have r1:T wr rb (k*2+1) (U (a.hi:Int)):=by have:=oW (f:=wb) (n:=2) (fun _=>rfl) o g (j:=1) rfl;rw[Ng] at this;exact this
   have rl:=lt_of_block o;have d0:decide ((a.hi:Int)<(a.lo:Int))=false:=decide_eq_false (by have:=a7.1;omega);have d1:decide (a.hi<a.lo)=false:=decide_eq_false (by have:=a7.1;omega);clear d y t g a7 o;go_wp2;go_roundw
   case rel=>exact⟨k+1,a0.out,by go_num,Ja (HK.out.alloc HK.out.size _)⟩
   case measure=>have:=a0.out;simp[intOf];omega
  ·obtain rfl:k=R.length:=by omega
   have a1:¬(R.length:Int)<(R.length:Int):=Zo;obtain⟨c0,g0,cl,gl⟩:=c9.out wr HK.out
   by_cases h0:bl=[]
   ·have h1:bl.length=0:=by rw[h0];rfl
    have t0:((bl.length:Int)==0)=true:=by rw[beq_iff_eq];omega
    have h2:R.length=0:=by have:aaG []=0:=rfl;have:=b1.out.1;rw[h0] at this;omega
    have t1:((R.length:Int)==0)=true:=by rw[beq_iff_eq];omega
    clear hk d h0 h1 h2;go_wp2;go_ret;exact⟨rfl,i.out.2.2.2.1.trans (HK.out.mono i.out.2.2.2.1.size)⟩
   ·have hF:=ae6 c.out.2.1 c.out.2.2 i.out.1.prog.p64 c.out.1 h0
    have t0:((bl.length:Int)==0)=false:=by
     rw[beq_eq_false_iff_ne];have:=hF.pos;omega
    have d2:=Ja (show ∀W,O w2 W->A 26 #[.agg #[.slice ka bl.length kc]] W (AcyRet W (zy bl)) from fun W hb=>af7 ((i.out.2.1.below yT hb).mono yT hb.size) (c.out.2.2 bl (Ji c.out.1)) h0 (fn_terms hF))
    have c8:=Ja (show ∀W,O w2 W->A 17 #[.agg #[.slice ka bl.length kc]] W (df W (R.length:Int)) from fun W hb=>by
     rw[b1.out.1]
     exact jr ((i.out.2.1.below yT hb).mono yT hb.size) (Je _) (c.out.2.2 bl (Ji c.out.1)))
    have H0:=Ja h0;clear hk d h0 hF;go_upto_region 11 with fail
    go_cut [53] (fun s wx=>∃b q,s=.bool q/\q=!b/\Hid ((b=true->ah0 (zy bl))/\O w2 wx))
    case first=>
     go_wp2_with (go_at_call 26;go_must (refine(d2.out _ HK.out).mono ?_;rintro e w3 ⟨b,rfl,hA,e1⟩))
     go_meet;exact⟨b,_,rfl,rfl,Ja ⟨hA,HK.out.trans (e1.mono HK.out.size)⟩⟩
    case rest=>
     obtain⟨b,q,rfl,hq,HC⟩:=hcut
     rename World=>wc
     clear c0 g0 cl gl d2;obtain⟨c0,g0,cl,gl⟩:=c9.out wc HC.out.2;cases b
     ·obtain rfl:q=true:=hq;obtain⟨z,hz⟩:∃z,((R.length:Int)==0)=z:=⟨_,rfl⟩
      cases z
      all_goals (
       go_wp2_with (go_at_call 17;go_must (refine(c8.out _ HC.out.2).mono ?_;rintro e w4 ⟨rfl,a3⟩))
       go_ret
       exact⟨rfl,i.out.2.2.2.1.trans ((HC.out.2.trans (a3.mono HC.out.2.size)).mono i.out.2.2.2.1.size)⟩)
     ·obtain rfl:q=false:=hq;clear c0 g0 cl gl c8;have m:=i.out.1.below HC.out.2;have c0:=m.c0;have c1:=m.c1;have c2:=m.c2;have c3:=m.c3;have c4:=m.c4;have c5:=m.c5;have cl:=m.lt;clear m;go_upto_region 14 with(go_at_call 27;go_must (refine(e2.out H0.out (HC.out.1 rfl) _ (i.out.2.2.2.2.trans (HC.out.2.mono i.out.2.2.2.2.size))).mono ?_;rintro e w4 ⟨qa,rfl,b3,a3⟩))
      clear c0 c1 c2 c3 c4 c5 cl;have HQ:=Ja (Jb b3 (HC.out.2.trans (a3.mono HC.out.2.size)));clear b3 a3;go_wp2
      go_loopw [88] (fun kv wx=>∃k:Nat,k<=R.length/\kv=I k/\Hid (O w4 wx)) (fun kv _=>R.length-(intOf kv).toNat)
      case atStart=>exact⟨0,Jt _,rfl,Ja (Below.refl _ _)⟩
      case round=>
       rename World=>wq
       obtain⟨k,hk,rfl,HJ⟩:=hrel;have hw:=i.out.2.2.2.1.trans ((HQ.out.2.trans (HJ.out.mono HQ.out.2.size)).mono i.out.2.2.2.1.size)
       by_cases d:k<R.length
       ·have a1:(k:Int)<(R.length:Int):=Zo;have a0:=Ja d;have y:R≠ []:=fun e=>by rw[e] at d;exact absurd d (Nat.not_lt_zero _)
        obtain⟨rb,rfl,t,_⟩:=c7.out y;obtain⟨qb,rfl,a6,_⟩:=HQ.out.1 y;obtain⟨a,g⟩:∃a,R[k]? =some a:=⟨_,Jd d⟩
        have o:=zH (HQ.out.2.trans (HJ.out.mono HQ.out.2.size)) t (lt_of_block t);have a5:=zH HJ.out a6 (lt_of_block a6);have cr:∀(W:World) (bb:Nat),L W bb (R.flatMap wb).toArray 45->T W bb (k*2) (U (a.lo:Int))/\T W bb (k*2+1) (U (a.hi:Int)):=fun W bb h=>⟨by have:=oW (f:=wb) (n:=2) (fun _=>rfl) h g (j:=0) rfl;rw[Ng,Uk] at this;exact this,by have:=oW (f:=wb) (n:=2) (fun _=>rfl) h g (j:=1) rfl;rw[Ng] at this;exact this⟩
        obtain⟨r0,r1⟩:=cr wq rb o;obtain⟨q0,q1⟩:=cr wq qb a5;have rl:=lt_of_block o;have ql:=lt_of_block a5;have d0:decide ((a.lo:Int)<(a.lo:Int))=false:=decide_eq_false Zo;have d1:decide ((a.hi:Int)<(a.hi:Int))=false:=decide_eq_false Zo;have e6:decide (a.lo<a.lo)=false:=decide_eq_false Zo;have e5:decide (a.hi<a.hi)=false:=decide_eq_false Zo;clear d y t a6 g o a5 cr hw;go_upto_region 19 with fail;go_quiet (fail);go_wp2;go_roundw
        case rel=>exact⟨k+1,a0.out,by go_num,Ja (yC HJ.out)⟩
        case measure=>have:=a0.out;simp[intOf];omega
       ·obtain rfl:k=R.length:=by omega
        have a1:¬(R.length:Int)<(R.length:Int):=Zo;clear d hk;go_wp2;go_ret;exact⟨rfl,hw⟩
end Go.Proofs.YtoahcpkibpomcaaGreat
