/- Part of a proof. -/
import Derived.Test.YtoahcpkibpomcaaGreatGZlf
import Derived.Test.YtoahcpkibpomcaaGreatQCall
set_option linter.all false
set_option maxHeartbeats 16000000
set_option maxRecDepth 100000
namespace Go.Proofs.YtoahcpkibpomcaaGreat
open Go.RowKit
variable {N:Nat}{bl:List IBlk}{c:Int}{w:World}{o:IOp}
def agD (N v:Nat):List Rg:=List.replicate v zx++List.replicate (N-v) ⟨0,0⟩
theorem fulR_set{v:Nat}(h:v<N):(agD N v).set v zx=agD N (v+1):=by
 unfold agD;rw[Uj _ _ Zs,Qr,Qy,show N-v=(N-(v+1))+1 by omega,Qz,Jf,List.replicate_succ',Nv];rfl
theorem fulR_ok{v:Nat}(h:v<=N):OkS N ⟨agD N v,List.replicate N false⟩:=by
 refine⟨by show(agD N v).length=N;unfold agD;simp;omega,by simp,fun a c=>?_⟩;rcases Jl.1 c with c|c
 ·rw[(List.mem_replicate.1 c).2];exact xr
 ·rw[(List.mem_replicate.1 c).2];exact⟨Je _,Jt _⟩
theorem evL_take{c:List Nat}{k i:Nat}(h:c[k]? =some i):evL bl (c.take (k+1))=evL bl (c.take k)++evB bl (xz bl (i:Int)):=by
 unfold evL;rw[Nh,h,Nx]
 show _++(evB bl (xz bl (i:Int))++ [])=_
 rw[Ua]
theorem afd (w:World):O 50 #[] w (fun e w'=>e=.returned (.agg #[M 0,M 65535])/\Q w w'):=afs w
theorem aeQ{sv:Value}{g:List (List Nat)}(h:GraphIn w sv g):O 51 #[.agg #[sv]] w (fJ w (vD g)):=
 ae0 w sv g w.heap.size (Je _) h.rows h.valid h.len h.row
theorem df{p:IProg}{s:Slv}{rn:Nat}(h0:0<=o.res)(hr:o.res.toNat=rn){a:Rg}(h:mb p s o=some a):opQ p s o=⟨s.r.set rn a,s.kn⟩:=by
 unfold opQ;rw[if_pos h0,h,hr]
theorem opQ_none{p:IProg}{s:Slv}(h:mb p s o=none):opQ p s o=s:=by
 unfold opQ;rw[h]
 split<;>rfl
def edgQ (bl:List IBlk)(t:Slv)(e:IEdge):Slv:=((xz bl e.block).params.zip e.args).foldl (fun t x=>agf t x.1 x.2) t
theorem evB_q (p:IProg)(bl:List IBlk)(b:IBlk)(s:Slv):(evB bl b).foldl (evQ p) s=b.term.to.foldl (edgQ bl) (b.ops.foldl (opQ p) s):=by
 unfold evB;rw[List.foldl_append,List.foldl_map,List.foldl_flatMap]
 congr 1
 funext q e
 unfold edgQ;rw[List.foldl_map];rfl
theorem shape_ab(h:(zi c).b=true):(zi c).a=true/\3<=c:=by
 rcases rJ c with⟨h1,e⟩|⟨h1,e⟩|⟨h1,e⟩|⟨h1,e⟩|⟨h1,e⟩|⟨h1,e⟩|⟨h1,e⟩|⟨h1,e⟩<;>rw[e] at h ⊢<;>first|(cases h;done)|exact⟨rfl,by omega⟩
theorem agH{V:PV}{p:IProg}(hp:ProgIn w w.heap.size V p){n:Nat}(hn:p.funcs[n]? =some bl)(h0:bl≠ [])(hv:vC p=0)(hs:∀f∈p.funcs,vZ f):
 Calls Tryz.prog 27 #[yH V p,I n] w (RgsAny w (bf p bl (vD (zy bl))).r):=by
 have hF:=afR hv hs hp.p64 hn h0;have hU:=ahk hv hn;have n7:=hs bl (Ji hn);obtain⟨Vf,Va,Vd,Vb⟩:=V;obtain⟨f1,f2,e1,G5,G4⟩:=hp.funcs.form;have D8:Vf=.slice f1 p.funcs.length f2:=e1;subst D8;obtain⟨da,dc,e2,D0,G7⟩:=hp.data.form;have D7:Vd=.slice da p.data.length dc:=e2;subst D7;obtain⟨gb,go,rfl,r2,bv,g0,d2⟩:=hp.funcs.get hn;obtain⟨ka,kc,rfl,G0,F9⟩:=d2.form;rw[Nk] at g0;have G3:=(Jh.1 hn).1;have E0:=hF.pos;obtain⟨N,hN⟩:∃N:Nat,aaG bl=N:=⟨(aaG bl).toNat,by have:=hF.cnt;omega⟩
 have H4:N<=65536:=by have:=hF.cnt;omega
 have w3:(aaG bl).toNat=N:=by rw[hN];rfl
 obtain⟨t2,i2⟩:∃t,w.heap.size=t:=⟨_,rfl⟩
 obtain⟨X,hX⟩:∃X,w.alloc (.cells #[.slice (some ⟨gb,go,none⟩) p.funcs.length f2,Va,I p.entry,I p.handler,.slice da p.data.length dc,Vb] 29)=X:=⟨_,rfl⟩
 obtain⟨Y,hY⟩:∃Y,X.alloc (.cells #[.slice ka bl.length kc] 39)=Y:=⟨_,rfl⟩
 have y:Below t2 w X:=by rw[<-hX];exact(Below.refl _ _).alloc Zo _
 have D4:X.heap.size=t2+1:=by rw[<-hX,<-i2];simp
 have v9:Below t2 w Y:=by rw[<-hY];exact y.alloc Zo _
 have l4:X.heap[t2]? =some (.cells #[.slice (some ⟨gb,go,none⟩) p.funcs.length f2,Va,I p.entry,I p.handler,.slice da p.data.length dc,Vb] 29 (0,0)):=by rw[<-hX];exact zI i2
 have u8:Y.heap[t2]? =some (.cells #[.slice (some ⟨gb,go,none⟩) p.funcs.length f2,Va,I p.entry,I p.handler,.slice da p.data.length dc,Vb] 29 (0,0)):=by rw[<-hY];exact zB l4
 have u6:Y.heap[t2+1]? =some (.cells #[.slice ka bl.length kc] 39 (0,0)):=by rw[<-hY];exact zI D4
 have h6:=Ja (show ∀W,Below t2 w W->ProgIn W t2 ⟨.slice (some ⟨gb,go,none⟩) p.funcs.length f2,Va,.slice da p.data.length dc,Vb⟩ p/\wX W t2 (.slice ka bl.length kc) bl/\T W gb (go+n) (.slice ka bl.length kc) from fun W hb=>by rw[<-i2] at hb ⊢;exact⟨hp.below hb,d2.below yT hb,zV hb r2 g0⟩);have HF:=Ja (Jb hF (Jb hU (Jb hs (Jb hv (Jb n7 (Jb h0 w3))))));have HY:=Ja (Jb v9 (Jb u8 u6))
 have x6:=Ja (show ∀W,Below t2 w W->t2<=W.heap.size->Calls Tryz.prog 17 #[.agg #[.slice ka bl.length kc]] W (pn W (N:Int)) from fun W hb hl=>by
  have:=jr (h6.out W hb).2.1 hl n7;rw[hN] at this
  exact this)
 have G2:gb<w.heap.size:=r2;have C7:T X gb (go+n) (.slice ka bl.length kc):=(h6.out X y).2.2;have F8:(n:Int)<(p.funcs.length:Int):=Zo;have x0:=zA (i:=0) l4 rfl;have xl:=lt_of_block l4;have gl:gb<X.heap.size:=Zo;clear hp hs hv hn h0 hF hU d2 n7 y v9 l4 u8 u6 g0 r2 hN w3;unfold yH;go_enter Tryz.func27,Tryz.ntmps27;go_upto_region 1 with fail;go_upto_region 2 with fail;clear hX hY x0 xl gl C7;have y5:=zA (i:=0) HY.out.2.2 rfl;have yl:=lt_of_block HY.out.2.2;have q2:=afQ N Zo;have l2:=run_make_row' (P:=Tryz.prog) 97 4 (.bool false) 1 Tryz.underlying97 Tryz.info_bool rfl .i64 .i64 N Zo Zo;rw[aga] at l2;obtain⟨ZR,s5⟩:∃Z,((List.replicate N (⟨0,0⟩:Rg)).flatMap xB).toArray=Z:=⟨_,rfl⟩
 obtain⟨ZB,s6⟩:∃Z,((List.replicate N false).map Value.bool).toArray=Z:=⟨_,rfl⟩
 rw[s5] at q2;rw[s6] at l2;have HZ:=Ja (Jb s5 s6);clear s5 s6;go_upto_region 4 with(go_at_call 17;go_must (refine(x6.out _ HY.out.1 Zo).mono ?_;rintro e w2 ⟨rfl,w0⟩;have H2:=Ja w0;clear w0))
 clear q2 l2 y5 yl;have j2:=zH H2.out HY.out.2.1 (lt_of_block HY.out.2.1);have a7:=zH H2.out HY.out.2.2 (lt_of_block HY.out.2.2);have C5:=lt_of_block a7;have r6:Below t2 w w2:=HY.out.1.trans (H2.out.mono (by have:=lt_of_block HY.out.2.1;omega));obtain⟨rb,o3⟩:∃r,w2.heap.size=r:=⟨_,rfl⟩
 rw[o3];obtain⟨W0,k3⟩:∃W,(w2.alloc (.cells ZR 45)).alloc (.cells ZB 4)=W:=⟨_,rfl⟩
 have w1:Below rb w2 W0:=by rw[<-k3];exact((Below.refl _ _).alloc Zo _).alloc Zt _
 have n3:RuAt W0 rb (rb+1) N ⟨agD N 0,List.replicate N false⟩:=by
  refine⟨?_,?_,fulR_ok (Jt _),by omega,by omega⟩
  ·rw[show(agD N 0)=List.replicate N ⟨0,0⟩ from by unfold agD;simp,HZ.out.1,<-k3];exact zB (zI o3)
  ·rw[HZ.out.2,<-k3];exact zI Zt
 have H0:=Ja (show Below t2 w w2/\Below rb w2 W0/\w2.heap[t2]? =some (.cells #[.slice (some ⟨gb,go,none⟩) p.funcs.length f2,Va,I p.entry,I p.handler,.slice da p.data.length dc,Vb] 29 (0,0))/\w2.heap[t2+1]? =some (.cells #[.slice ka bl.length kc] 39 (0,0))/\t2+1<rb/\rb+1<W0.heap.size from⟨r6,w1,j2,a7,by omega,n3.lt.2⟩);have w8:=Ja n3;rw[k3];clear j2 a7 C5 r6 o3 k3 w1 n3 HY H2 x6 HZ;go_wp2
 go_loopw [8] (fun vv wx=>∃v:Nat,v<=N/\vv=I v/\Hid (RuAt wx rb (rb+1) N ⟨agD N v,List.replicate N false⟩/\RuTo rb (rb+1) W0 wx)) (fun vv _=>N-(intOf vv).toNat)
 case atStart=>exact⟨0,Jt _,rfl,Ja ⟨w8.out,RuTo.refl _ _ _⟩⟩
 case round=>
  obtain⟨v,c7,rfl,HV⟩:=hrel
  by_cases a4:v<N
  ·have c5:(v:Int)<(N:Int):=Zo;obtain⟨r0,r1⟩:=HV.out.1.rcell a4;have q0:=(HV.out.1.free (v*2)).1;have q1:=(HV.out.1.free (v*2+1)).1;have rl:=HV.out.1.lt.1;clear a4;go_wp2_with (go_at_call 50;go_must (refine(afd _).mono ?_;rintro e w5 ⟨rfl,d8⟩;have f8:=HV.out.1.below d8;have v0:=HV.out.2.trans (RuTo.of_below d8);clear d8 r0 r1 q0 q1 rl;obtain⟨r0,r1⟩:=f8.rcell (show v<N by omega);have q0:=(f8.free (v*2)).1;have q1:=(f8.free (v*2+1)).1;have rl:=f8.lt.1;have H5:=Ja (Jb f8 v0);clear f8 v0))
   go_roundw
   case rel=>
    have h:=H5.out.1.setR (v:=v) (a:=zx) Zo xr rfl
    dsimp only at h
    rw[fulR_set Zo] at h;exact⟨v+1,by omega,by go_num,Ja ⟨h.1,H5.out.2.trans h.2⟩⟩
   case measure=>simp[intOf];omega
  ·obtain rfl:N=v:=by omega
   have c5:¬(N:Int)<(N:Int):=Zo;clear a4 c7 w8;have y3:=H0.out.2.2.2.2;have m1:Below rb w2 wr:=H0.out.2.1.trans (HV.out.2.below ⟨Je _,by omega,by omega⟩);have a2:Below t2 w wr:=H0.out.1.trans (m1.mono Zo);have a7:wr.heap[t2+1]? =some (.cells #[.slice ka bl.length kc] 39 (0,0)):=zH m1 H0.out.2.2.2.1 Zo;have j2:wr.heap[t2]? =some (.cells #[.slice (some ⟨gb,go,none⟩) p.funcs.length f2,Va,I p.entry,I p.handler,.slice da p.data.length dc,Vb] 29 (0,0)):=zH m1 H0.out.2.2.1 Zo;have B0:rb+1<wr.heap.size:=HV.out.1.lt.2;have hF:=HF.out.1;have e7:=HF.out.2.2.2.2.2.1
   have n4:∀b∈bl,tz bl b.term=true:=fun b hb=>by
    obtain⟨i,hi⟩:=Ny hb;have:=hF.st.trm i (Jh.1 hi).1;rw[y7 hi] at this;exact this
   have v5:=agZ (h6.out wr a2).2.1 Zo HF.out.2.2.2.2.1;have v4:∀W sv B',pV W B' sv (zk bl)->Calls Tryz.prog 51 #[.agg #[sv]] W (fJ W (vD (zy bl))):=fun W sv B' h=>aeQ (graph_q HF.out.2.2.2.2.1 e7 n4 h)
   have HG:=Ja v5;have t9:=Ja v4;obtain⟨os,g5⟩:∃os,vD (zy bl)=os:=⟨_,rfl⟩
   rw[g5] at t9
   have C3:0<os.length:=by
    obtain⟨ns,hO⟩:=adR hF.st.vg;rw[<-g5,hO.eq];simp
   have x1:=Ja (Jb g5 (show ∀i∈os,i<bl.length from fun i hi=>by rw[<-g5] at hi;exact(hF.ord i).1 hi));rw[g5];have HW:=Ja (Jb a2 (Jb j2 a7));have y5:=zA (i:=0) a7 rfl;have yl:=lt_of_block a7;clear g5 v5 v4 n4 hF e7 a2 m1 j2 a7 y3;go_upto_region 9 with(first|(go_at_call 48;go_must (refine HG.out.mono ?_;rintro e w6 ⟨ga,gn,gc,rfl,v6,a6⟩))|(go_at_call 51;go_must (refine(t9.out _ _ _ v6).mono ?_;rintro e w7 ⟨ov,rfl,v3,j9⟩)))
   obtain⟨ob,oc,rfl,E3,E2,y8,y6⟩:=ahr v3 rfl C3;have d7:=a6.trans (j9.mono a6.size);have r5:Below t2 w w7:=HW.out.1.trans (d7.mono Zo);have B5:=d7.size;obtain⟨oc0,j1,ho2⟩:=y6;have F6:=lt_of_block j1;have HO:=Ja (show Below t2 w w7/\w7.heap[t2]? =some (.cells #[.slice (some ⟨gb,go,none⟩) p.funcs.length f2,Va,I p.entry,I p.handler,.slice da p.data.length dc,Vb] 29 (0,0))/\w7.heap[t2+1]? =some (.cells #[.slice ka bl.length kc] 39 (0,0))/\w7.heap[ob]? =some (.cells oc0 3 (0,0))/\(∀(k x:Nat),os[k]? =some x->oc0[k]? =some (I x))/\(t2+1<rb/\rb+1<ob) from⟨r5,zH d7 HW.out.2.1 (lt_of_block HW.out.2.1),zH d7 HW.out.2.2 (lt_of_block HW.out.2.2),j1,ho2,H0.out.2.2.2.2.1,by have:=a6.size;omega⟩);have b7:=HV.out.1.below d7
   have v1:(⟨agD N N,List.replicate N false⟩:Slv)=ma N:=by
    unfold agD ma;simp
   rw[v1] at b7;have l:=Ja b7;clear v6 a6 j9 v3 d7 r5 j1 ho2 b7 v1 y5 yl H0 HV HW HG t9 B0 y8;go_wp2
   go_loopw [10] (fun kv wx=>∃(k:Nat) (s:Slv),k<=os.length/\kv=I k/\Hid ((evL bl (os.take k)).foldl (evQ p) (ma N)=s/\RuAt wx rb (rb+1) N s/\RuTo rb (rb+1) w7 wx)) (fun kv _=>os.length-(intOf kv).toNat)
   case atStart=>exact⟨0,_,Jt _,rfl,Ja ⟨rfl,l.out,RuTo.refl _ _ _⟩⟩
   case round=>
    clear l;obtain⟨k,s,hk,rfl,HK⟩:=hrel
    by_cases a4:k<os.length
    ·have c5:(k:Int)<(os.length:Int):=Zo;obtain⟨i,hi⟩:∃i,os[k]? =some i:=⟨_,Jd a4⟩
     have c9:=x1.out.2 i (Ji hi);have G1:(i:Int)<(bl.length:Int):=Zo;obtain⟨bx,r4⟩:∃bx,bl[i]? =some bx:=⟨_,Jd c9⟩
     have h5:=HK.out.2.2.blk HO.out.2.2.1 (lt_of_block HO.out.2.2.1) (by have:=HO.out.2.2.2.2.2.1;omega);have ho:=HK.out.2.2.blk HO.out.2.2.2.1 (lt_of_block HO.out.2.2.2.1) (by have:=HO.out.2.2.2.2.2.2;omega);have o1:T wr ob k (I i):=zA ho (HO.out.2.2.2.2.1 k i hi);have y5:=zA (i:=0) h5 rfl;have yl:=lt_of_block h5;have ol:=lt_of_block ho;have a2:Below t2 w wr:=HO.out.1.trans (HK.out.2.2.below (by have:=HO.out.2.2.2.2.2;omega));obtain⟨bb,bo,C6,D2,g2,g3,k5,pv,ov,tv,g0,g1,g4,p4,l1,k7⟩:=(h6.out wr a2).2.1.get r4;obtain⟨pa,pc,rfl,C2,C1⟩:=p4.form;obtain⟨oa,oc',rfl,F7,F5⟩:=l1.form;obtain⟨ta,tc,rfl,F3,n4⟩:=k7.form;subst C6;have f0:bb<wr.heap.size:=Zo
     have x5:=Ja (show ∀W,Q wr W->(T W ob k (I i)/\T W (t2+1) 0 (.slice (some ⟨bb,bo,none⟩) bl.length kc))/\T W bb (bo+i*5) (.slice pa bx.params.length pc)/\T W bb (bo+i*5+1) (.slice oa bx.ops.length oc')/\T W bb (bo+i*5+2) (I bx.term.kind)/\T W bb (bo+i*5+3) (I bx.term.a)/\T W bb (bo+i*5+4) (.slice ta bx.term.to.length tc) from fun W hb=>
      ⟨⟨(hb.cell ol).trans o1,(hb.cell yl).trans y5⟩,(hb.cell f0).trans g0,(hb.cell f0).trans g1,(hb.cell f0).trans g2,(hb.cell f0).trans g3,(hb.cell f0).trans g4⟩)
     obtain⟨Z,hZ⟩:∃Z,(wr.alloc (.cells #[.slice pa bx.params.length pc,.slice oa bx.ops.length oc',I bx.term.kind,I bx.term.a,.slice ta bx.term.to.length tc] 84)).drew=Z:=⟨_,rfl⟩
     have d3:Q wr Z:=by rw[<-hZ];exact((Below.refl _ _).alloc (Je _) _).drew
     have m2:Z.heap[wr.heap.size]? =some (.cells #[.slice pa bx.params.length pc,.slice oa bx.ops.length oc',I bx.term.kind,I bx.term.a,.slice ta bx.term.to.length tc] 84 (0,0)):=by rw[<-hZ];exact zI (W:=wr) rfl
     have l6:t2<=wr.heap.size:=Zo
     have HZ:=Ja (show RuAt Z rb (rb+1) N s/\RuTo rb (rb+1) w7 Z/\Z.heap[wr.heap.size]? =some (.cells #[.slice pa bx.params.length pc,.slice oa bx.ops.length oc',I bx.term.kind,I bx.term.a,.slice ta bx.term.to.length tc] 84 (0,0))/\mN Z t2 (.slice oa bx.ops.length oc') bx.ops/\wH Z t2 (.slice ta bx.term.to.length tc) bx.term.to/\rb+1<wr.heap.size/\Below t2 w Z/\t2+1<rb/\Z.heap[t2]? =some (.cells #[.slice (some ⟨gb,go,none⟩) p.funcs.length f2,Va,I p.entry,I p.handler,.slice da p.data.length dc,Vb] 29 (0,0))/\Z.heap[t2+1]? =some (.cells #[.slice (some ⟨bb,bo,none⟩) bl.length kc] 39 (0,0)) from
      ⟨HK.out.2.1.below d3,HK.out.2.2.trans (RuTo.of_below d3),m2,l1.below xA (d3.mono l6),k7.below xL (d3.mono l6),HK.out.2.1.lt.2,a2.trans (d3.mono l6),HO.out.2.2.2.2.2.1,zH d3 (HK.out.2.2.blk HO.out.2.1 (lt_of_block HO.out.2.1) (by have:=HO.out.2.2.2.2.2.1;omega)) Zo,zH d3 h5 Zo⟩)
     have HB:=Ja (Jb r4 (Jb hi (Jb HK.out.1 a4)));clear r4 hi a2 k5 p4 l1 k7 m2 h5 ho a4 c9 C2 C1 D2;go_upto_region 12 with fail
     go_region_held3 (fun w'=>(T w' ob k (I i)/\T w' (t2+1) 0 (.slice (some ⟨bb,bo,none⟩) bl.length kc))/\T w' bb (bo+i*5) (.slice pa bx.params.length pc)/\T w' bb (bo+i*5+1) (.slice oa bx.ops.length oc')/\T w' bb (bo+i*5+2) (I bx.term.kind)/\T w' bb (bo+i*5+3) (I bx.term.a)/\T w' bb (bo+i*5+4) (.slice ta bx.term.to.length tc))
      ((refine x5.out _ ?_;repeat' (first|with_reducible exact Below.refl _ _|with_reducible exact d3|with_reducible refine Below.drew ?_|with_reducible refine Below.alloc ?_ (by first|exact Je _|(simp;done)) _|with_reducible refine Below.setCell ?_ (by first|exact Je _|(simp;done)) _)))
      (fail)
     clear o1 y5 yl ol d3 x5;go_upto_region 13 with fail;clear hZ g0 g1 g2 g3 g4;obtain⟨f6,y2⟩:∃t,wr.heap.size=t:=⟨_,rfl⟩
     rw[y2] at HZ l6 ⊢;have d1:T Z f6 1 (.slice oa bx.ops.length oc'):=zA HZ.out.2.2.1 rfl;have dl:=lt_of_block HZ.out.2.2.1;go_wp2;clear d1 dl
     go_loopw [12] (fun jv wx=>∃(j:Nat) (s':Slv),j<=bx.ops.length/\jv=I j/\Hid ((bx.ops.take j).foldl (opQ p) s=s'/\RuAt wx rb (rb+1) N s'/\RuTo rb (rb+1) Z wx)) (fun jv _=>bx.ops.length-(intOf jv).toNat)
     case atStart=>exact⟨0,s,Jt _,rfl,Ja ⟨rfl,HZ.out.1,RuTo.refl _ _ _⟩⟩
     case round=>
      obtain⟨j,s',hj,rfl,HJ⟩:=hrel
      by_cases a4:j<bx.ops.length
      ·have c5:(j:Int)<(bx.ops.length:Int):=Zo;obtain⟨o,ho⟩:∃o,bx.ops[j]? =some o:=⟨_,Jd a4⟩
       have u5:=HZ.out.2.2.2.2.2.2.2.1;have A2:=HZ.out.2.2.2.2.2.1;have i1:=lt_of_block HZ.out.2.2.1;have a2:Below t2 Z wr:=HJ.out.2.2.below ⟨by omega,by omega,by omega⟩;obtain⟨qb,qo,o9,p3,e0,e1,e2,e3,e4,k5,av,e5,g7⟩:=(HZ.out.2.2.2.1.below xA a2).get ho;obtain⟨aa,ac,rfl,_,_⟩:=g7.form;subst o9;have a3:=HJ.out.2.2.blk HZ.out.2.2.1 i1 Zo;have d1:T wr f6 1 (.slice (some ⟨qb,qo,none⟩) bx.ops.length oc'):=zA a3 rfl;have dl:=lt_of_block a3;have o6:qb<wr.heap.size:=Zo;obtain⟨c,hc⟩:∃c,o.code=c:=⟨_,rfl⟩
       obtain⟨rs,l7⟩:∃r,o.res=r:=⟨_,rfl⟩
       rw[hc] at e0;rw[l7] at e1;obtain⟨O,hO⟩:∃O,wr.alloc (.cells #[I c,I rs,I o.a,I o.b,M (o.n:Int),.slice aa o.args.length ac] 76)=O:=⟨_,rfl⟩
       have c0:Q wr O:=by rw[<-hO];exact(Below.refl _ _).alloc (Je _) _
       have m4:O.heap[wr.heap.size]? =some (.cells #[I c,I rs,I o.a,I o.b,M (o.n:Int),.slice aa o.args.length ac] 76 (0,0)):=by rw[<-hO];exact zI rfl
       have e6:=HJ.out.2.1.lt;have b2:=Ja (show RuAt O rb (rb+1) N s'/\RuTo rb (rb+1) Z O/\O.heap[wr.heap.size]? =some (.cells #[I c,I rs,I o.a,I o.b,M (o.n:Int),.slice aa o.args.length ac] 76 (0,0))/\rb+1<wr.heap.size/\Below t2 w O from⟨HJ.out.2.1.below c0,HJ.out.2.2.trans (RuTo.of_below c0),m4,e6.2,HZ.out.2.2.2.2.2.2.1.trans (a2.trans (c0.mono Zo))⟩)
       have c3:=Ja (show((1<=c/\c<=27)/\(c=2->0<=o.a/\o.a.toNat<p.data.length))/\cS N o/\(0<=rs->rs.toNat<N)/\o.n<65536 from by
        have c9:=(Jh.1 HB.out.1).1;have p5:o∈(xz bl i).ops:=by rw[y7 HB.out.1];exact Ji ho
        have h1:=afl (HF.out.1.st.opok i c9 o p5);have h2:=(HF.out.1.rng i c9).2 o p5;rw[HF.out.2.2.2.2.2.2] at h2;rw[<-hc,<-l7]
        exact⟨⟨h1.1,h1.2.1⟩,h2.1,h2.2,HF.out.1.num i c9 o p5⟩)
       have g:=Ja (Jb ho (Jb hc (Jb l7 (Jb a4 HJ.out.1))));clear ho k5 g7 a2 c0 m4 a4 a3 l7 e6;go_upto_region 17 with fail;clear hO e0 e1 e2 e3 e4 e5 o6 p3 d1 dl hc;obtain⟨d,y1⟩:∃t,wr.heap.size=t:=⟨_,rfl⟩
       rw[y1] at b2 ⊢;have z0:T O d 0 (I c):=zA b2.out.2.2.1 rfl;have z1:T O d 1 (I rs):=zA b2.out.2.2.1 rfl;have zl:=lt_of_block b2.out.2.2.1
       by_cases hr:0<=rs
       ·have C0:decide (rs<0)=false:=decide_eq_false Zo;obtain⟨rn,B9⟩:∃rn:Nat,rs=rn:=⟨rs.toNat,by omega⟩
        have c8:rn<N:=by have:=c3.out.2.2.1 hr;omega
        subst B9;obtain⟨sh,o0⟩:∃f,zi c=f:=⟨_,rfl⟩
        have w9:=Ja (show ∀W,Calls Tryz.prog 52 #[I c] W (fun e w'=>e=.returned (.agg #[.bool sh.is,.bool sh.res,.bool sh.a,.bool sh.b,.bool sh.n])/\Q W w') from fun W=>by rw[<-o0];exact aaK c W);go_upto_region 19 with(go_at_call 52;go_must (refine(w9.out _).mono ?_;rintro e w5 ⟨rfl,d8⟩))
        obtain⟨i0,k9⟩:∃t,w5.heap.size=t:=⟨_,rfl⟩
        obtain⟨U,hU⟩:∃U,w5.alloc (.cells #[.bool sh.is,.bool sh.res,.bool sh.a,.bool sh.b,.bool sh.n] 120)=U:=⟨_,rfl⟩
        have d5:Q O U:=by rw[<-hU];exact d8.alloc d8.size _
        have n2:U.heap[i0]? =some (.cells #[.bool sh.is,.bool sh.res,.bool sh.a,.bool sh.b,.bool sh.n] 120 (0,0)):=by rw[<-hU];exact zI k9
        have l:=Ja (show RuAt U rb (rb+1) N s'/\RuTo rb (rb+1) Z U/\U.heap[d]? =some (.cells #[I c,I rn,I o.a,I o.b,M (o.n:Int),.slice aa o.args.length ac] 76 (0,0))/\U.heap[i0]? =some (.cells #[.bool sh.is,.bool sh.res,.bool sh.a,.bool sh.b,.bool sh.n] 120 (0,0))/\rb+1<d/\Below t2 w U/\d<i0/\t2+1<rb from
         ⟨b2.out.1.below d5,b2.out.2.1.trans (RuTo.of_below d5),zH d5 b2.out.2.2.1 zl,n2,b2.out.2.2.2.1,b2.out.2.2.2.2.trans (d5.mono (by have:=b2.out.2.2.2.1;omega)),by have:=d8.size;omega,u5⟩)
        rw[k9,hU];clear k9 hU d5 n2 d8 z0 z1 zl w9;have HC:=Ja (show ∀W:World,W.heap[d]? =U.heap[d]?->T W d 0 (I c)/\T W d 1 (I rn)/\T W d 2 (I o.a)/\T W d 3 (I o.b)/\T W d 4 (M (o.n:Int)) from fun W h=>⟨zA (h.trans l.out.2.2.1) rfl,zA (h.trans l.out.2.2.1) rfl,zA (h.trans l.out.2.2.1) rfl,zA (h.trans l.out.2.2.1) rfl,zA (h.trans l.out.2.2.1) rfl⟩);obtain⟨z0,z1,z2,z3,z4⟩:=HC.out U rfl;have zl:=lt_of_block l.out.2.2.1;have xl:=lt_of_block l.out.2.2.2.1;have x2:T U i0 2 (.bool sh.a):=zA l.out.2.2.2.1 rfl;have x3:T U i0 3 (.bool sh.b):=zA l.out.2.2.2.1 rfl;have e7:d≠rb:=by have:=l.out.2.2.2.2.1;omega
        have D9:(rn:Int)<(N:Int):=Zo;have g9:=Ja o0;have wn:IntKind.i64.wrap (o.n:Int)=(o.n:Int):=Om _ (by have:=c3.out.2.2.2;omega);clear o0
        by_cases c1:c=1
        ·subst c1;go_upto_region 20 with fail
         go_region_held3 (fun w'=>T w' d 0 (I 1)/\T w' d 1 (I rn)/\T w' d 2 (I o.a)/\T w' d 3 (I o.b)/\T w' d 4 (M (o.n:Int)))
          ((refine HC.out _ ?_;first|with_reducible rfl|exact rfl|exact d0|exact(Below.heap_setCell _ _ _ _ e7).trans ((Below.heap_setCell _ _ _ _ e7).trans d0)))
          ((go_at_call 53;refine(xm _ (a:=o.n) (b:=o.n) (by have:=c3.out.2.2.2;omega) (by have:=c3.out.2.2.2;omega)).mono ?_;rintro e w6 ⟨rfl,a6⟩;have y:Q U w6:=Below.trans (show Q U _ from by repeat' (first|with_reducible exact Below.refl _ _|with_reducible refine Below.drew ?_)) (a6.mono (Je _));have d0:w6.heap[d]? =U.heap[d]?:=y.block _ zl;have u:=l.out.1.below y;obtain⟨r0,r1⟩:=u.rcell c8;have q0:=(u.free (rn*2)).1;have q1:=(u.free (rn*2+1)).1;have rl:=u.lt.1;have H6:=Ja (Jb u (l.out.2.1.trans (RuTo.of_below y)));clear u a6 y))
         all_goals go_wp2_with fail
         all_goals (
          go_roundw
          case rel=>
           have h:=H6.out.1.setR c8 (a:=pt o.n) ⟨Je _,by show o.n<=65535;have:=c3.out.2.2.2;omega⟩ rfl;exact⟨j+1,_,g.out.2.2.2.1,by go_num,Ja ⟨by rw[x9 g.out.1,g.out.2.2.2.2];exact df (by rw[g.out.2.2.1];omega) (by rw[g.out.2.2.1];rfl) (by unfold mb;rw[g.out.2.1,if_pos rfl]),h.1.below (by first|exact Below.refl _ _|exact(Below.refl _ _).drew),(H6.out.2.trans h.2).trans (RuTo.of_below (by first|exact Below.refl _ _|exact(Below.refl _ _).drew))⟩⟩
          case measure=>have:=g.out.2.2.2.1;simp[intOf];omega)
        ·have e1:(c==1)=false:=by rw[beq_eq_false_iff_ne];exact c1
         by_cases c2:c=2
         ·subst c2;obtain⟨j1,ho2⟩:=c3.out.1.2 rfl;obtain⟨an,b4⟩:∃an:Nat,o.a=an:=⟨o.a.toNat,by omega⟩
          have A1:an<p.data.length:=Zo;obtain⟨x',m8⟩:∃x',p.data[an]? =some x':=⟨_,Jd A1⟩
          have v2:=(h6.out U l.out.2.2.2.2.2.1).1;obtain⟨db,dq,C8,C9,k0,k1,k2,A0,G8,D0⟩:=v2.data.get m8;obtain⟨vv,u9⟩:∃vv,(x'.addr+o.n)%65536=vv:=⟨_,rfl⟩
          have F1:vv<65536:=Zo;have u1:IntKind.u16.wrap ((x'.addr:Int)+(o.n:Int))=(vv:Int):=by rw[xY];omega
          have u2:(vv:Int).tmod 65536=(vv:Int):=by rw[Qc Zo];omega
          have u3:IntKind.i64.wrap (vv:Int)=(vv:Int):=Om _ Zo;have E5:(an:Int)<(p.data.length:Int):=Zo;have y4:T U t2 4 (.slice da p.data.length dc):=zA (l.out.2.1.blk HZ.out.2.2.2.2.2.2.2.2.1 (lt_of_block HZ.out.2.2.2.2.2.2.2.2.1) Zo) rfl;have E7:=lt_of_block (l.out.2.1.blk HZ.out.2.2.2.2.2.2.2.2.1 (lt_of_block HZ.out.2.2.2.2.2.2.2.2.1) Zo);have G6:db<U.heap.size:=Zo;subst C8;rw[b4] at z2 HC;have u4:=Ja (Jb b4 (Jb m8 u9));clear b4 m8 v2 k0 k2 A0 j1 ho2 C9 u9 c1;go_upto_region 22 with fail;go_quiet (fail);go_upto_region 23 with fail
          go_region_held3 (fun w'=>T w' d 0 (I 2)/\T w' d 1 (I rn)/\T w' d 2 (I an)/\T w' d 3 (I o.b)/\T w' d 4 (M (o.n:Int)))
           ((refine HC.out _ ?_;first|with_reducible rfl|exact rfl|exact d0|exact(Below.heap_setCell _ _ _ _ e7).trans ((Below.heap_setCell _ _ _ _ e7).trans d0)))
           ((go_at_call 53;refine(xm _ (a:=vv) (b:=vv) Zo Zo).mono ?_;rintro e w6 ⟨rfl,a6⟩;have y:Q U w6:=Below.trans (show Q U _ from by repeat' (first|with_reducible exact Below.refl _ _|with_reducible refine Below.drew ?_|with_reducible exact yC (Below.refl _ _))) (a6.mono (Je _));have d0:w6.heap[d]? =U.heap[d]?:=y.block _ zl;have u:=l.out.1.below y;obtain⟨r0,r1⟩:=u.rcell c8;have q0:=(u.free (rn*2)).1;have q1:=(u.free (rn*2+1)).1;have rl:=u.lt.1;have H6:=Ja (Jb u (l.out.2.1.trans (RuTo.of_below y)));clear u a6 y))
          all_goals go_wp2_with fail
          all_goals (
           go_roundw
           case rel=>
            have h:=H6.out.1.setR c8 (a:=pt vv) ⟨Je _,by show vv<=65535;omega⟩ rfl;exact⟨j+1,_,g.out.2.2.2.1,by go_num,Ja ⟨by rw[x9 g.out.1,g.out.2.2.2.2];exact df (by rw[g.out.2.2.1];omega) (by rw[g.out.2.2.1];rfl) (by unfold mb;rw[g.out.2.1,if_neg Zd,if_pos rfl,u4.out.1,Ni,Jj,u4.out.2.1];exact congrArg (fun z=>some (pt z)) u4.out.2.2),h.1.below (by first|exact Below.refl _ _|exact(Below.refl _ _).drew),(H6.out.2.trans h.2).trans (RuTo.of_below (by first|exact Below.refl _ _|exact(Below.refl _ _).drew))⟩⟩
           case measure=>have:=g.out.2.2.2.1;simp[intOf];omega)
         ·have e2:(c==2)=false:=by rw[beq_eq_false_iff_ne];exact c2
          have g6:=c3.out.1.1
          by_cases b8:sh.b=true
          ·obtain⟨b9,e8⟩:=shape_ab (by rw[g9.out];exact b8);have f9:=c3.out.2.1.a (by rw[g.out.2.1];exact b9);have B3:=c3.out.2.1.b (by rw[g.out.2.1,g9.out];exact b8);obtain⟨an,b4⟩:∃an:Nat,o.a=an:=⟨o.a.toNat,by omega⟩
           obtain⟨bn,s1⟩:∃bn:Nat,o.b=bn:=⟨o.b.toNat,by omega⟩
           have s4:an<N:=Zo;have D1:bn<N:=Zo;have D3:(an:Int)<(N:Int):=Zo;have G9:(bn:Int)<(N:Int):=Zo;rw[b4] at z2 HC;rw[s1] at z3 HC;rw[b8] at x3;obtain⟨A,hA⟩:∃A,s'.get (an:Int)=A:=⟨_,rfl⟩
           obtain⟨B,hB⟩:∃B,s'.get (bn:Int)=B:=⟨_,rfl⟩
           have a5:A.ok:=by rw[<-hA];exact l.out.1.oks.get _
           have h9:B.ok:=by rw[<-hB];exact l.out.1.oks.get _
           obtain⟨R,hR⟩:∃R,qs c A B=R:=⟨_,rfl⟩
           have f4:R.ok:=by rw[<-hR,p6 ⟨e8,g6.2⟩ a5 h9];exact afg g6.1 a5 h9
           have t7:=Ja (show ∀W,Calls Tryz.prog 54 #[I c,.agg #[M (A.lo:Int),M (A.hi:Int)],.agg #[M (B.lo:Int),M (B.hi:Int)]] W (fun e w'=>e=.returned (.agg #[M (R.lo:Int),M (R.hi:Int)])/\Q W w') from fun W=>by
            have:=ae7 W ⟨e8,g6.2⟩ a5 h9;rw[hR] at this
            exact this)
           have h4:=Ja (show ∀W,RuAt W rb (rb+1) N s'->(T W rb (an*2) (M (A.lo:Int))/\T W rb (an*2+1) (M (A.hi:Int)))/\T W rb (bn*2) (M (B.lo:Int))/\T W rb (bn*2+1) (M (B.hi:Int)) from fun W h=>by
            have h1:=h.rcell s4;have h2:=h.rcell D1;rw[hA] at h1;rw[hB] at h2
            exact⟨h1,h2⟩)
           have k6:=Ja (show mb p s' o=some R from by
            unfold mb
            rw[g.out.2.1,if_neg c1,if_neg c2,g9.out,if_pos b8,b4,s1,hA,hB,hR])
           obtain⟨⟨a0,a1⟩,b0,b1⟩:=h4.out U l.out.1;have t8:=Ja f4;clear hA hB hR a5 h9 f4 b4 s1 f9 B3 b9 b8 c1 c2 e8;go_upto_region 25 with fail;refine wp_region_noPanic ?_;refine yQ (S:=(fun w'=>T w' d 0 (I c)/\T w' d 1 (I rn)/\T w' d 2 (I an)/\T w' d 3 (I bn)/\T w' d 4 (M (o.n:Int))/\T w' rb (an*2) (M (A.lo:Int))/\T w' rb (an*2+1) (M (A.hi:Int))/\T w' rb (bn*2) (M (B.lo:Int))/\T w' rb (bn*2+1) (M (B.hi:Int)))) 17 Zk ⟨z0,z1,z2,z3,z4,a0,a1,b0,b1⟩ (fun hHeld=>?_);refine Tl 0 ?_
           try simp only[Yp]
           refine Tl 1 ?_
           try simp only[Yp]
           refine Tl 2 ?_
           try simp only[Yp]
           refine Tl 3 ?_
           try simp only[Yp]
           refine Tl 4 ?_
           try simp only[Yp]
           refine Tl 5 ?_
           try simp only[Yp]
           refine Tl 6 ?_
           try simp only[Yp]
           refine Tl 7 ?_
           try simp only[Yp]
           refine Tl 8 ?_
           try simp only[Yp]
           refine Tl 9 ?_
           try simp only[Yp]
           refine Tl 10 ?_
           try simp only[Yp]
           refine Tl 11 ?_
           try simp only[Yp]
           refine Tl 12 ?_
           try simp only[Yp]
           refine Tl 13 ?_
           try simp only[Yp]
           refine Tl 14 ?_
           try simp only[Yp]
           refine z8 (rs:=[15]) Zk Zs ?_;refine zS.cons (o:=_) rfl (fun K hK=>?_) ?_
           ·skip
            (go_simp;refine(t7.out _).mono ?_;rintro e w6 ⟨rfl,a6⟩;have y:Q U w6:=Below.trans (show Q U _ from by repeat' (first|with_reducible exact Below.refl _ _|with_reducible refine Below.drew ?_|with_reducible exact yC (Below.refl _ _))) (a6.mono (by first|exact Je _|omega));have d0:w6.heap[d]? =U.heap[d]?:=y.block _ zl;have u:=l.out.1.below y;obtain⟨r0,r1⟩:=u.rcell c8;have q0:=(u.free (rn*2)).1;have q1:=(u.free (rn*2+1)).1;have rl:=u.lt.1;have b5:=HC.out w6 d0;have f5:=h4.out w6 u;have H6:=Ja (Jb u (l.out.2.1.trans (RuTo.of_below y)));clear u a6 y)
            refine hK.out _ _ ⟨b5.1,b5.2.1,b5.2.2.1,b5.2.2.2.1,b5.2.2.2.2,f5.1.1,f5.1.2,f5.2.1,f5.2.2⟩ (fun hHeld=>?_);clear hK K
            try simp only[Yp]
            refine Tl 16 ?_
            try simp only[Yp]
            refine z8 (rs:=[17]) Zk Zs ?_;refine zS.last (o:=_) rfl (fun K hK=>?_);go_simp;refine hK.out _ _ ?_;clear hK K
            try simp only[Yp]
            refine xj Zk (NoPanic.normal ?_) _;go_wp2_with fail;go_roundw
            case rel=>
             have h:=H6.out.1.setR c8 (a:=R) t8.out rfl;exact⟨j+1,_,g.out.2.2.2.1,by go_num,Ja ⟨by rw[x9 g.out.1,g.out.2.2.2.2];exact df (by rw[g.out.2.2.1];omega) (by rw[g.out.2.2.1];rfl) k6.out,h.1.below (by first|exact Below.refl _ _|exact(Below.refl _ _).drew),(H6.out.2.trans h.2).trans (RuTo.of_below (by first|exact Below.refl _ _|exact(Below.refl _ _).drew))⟩⟩
            case measure=>have:=g.out.2.2.2.1;simp[intOf];omega
           exact zS.nil
          ·have l0:sh.b=false:=by simpa using b8
           rw[l0] at x3
           by_cases b9:sh.a=true
           ·have e8:3<=c:=Zo;have f9:=c3.out.2.1.a (by rw[g.out.2.1,g9.out];exact b9);obtain⟨an,b4⟩:∃an:Nat,o.a=an:=⟨o.a.toNat,by omega⟩
            have s4:an<N:=Zo;have D3:(an:Int)<(N:Int):=Zo;rw[b4] at z2 HC;rw[b9] at x2;obtain⟨A,hA⟩:∃A,s'.get (an:Int)=A:=⟨_,rfl⟩
            have a5:A.ok:=by rw[<-hA];exact l.out.1.oks.get _
            obtain⟨R,hR⟩:∃R,qs c A zx=R:=⟨_,rfl⟩
            have f4:R.ok:=by rw[<-hR,p6 ⟨e8,g6.2⟩ a5 xr];exact afg g6.1 a5 xr
            have t7:=Ja (show ∀W,Calls Tryz.prog 54 #[I c,.agg #[M (A.lo:Int),M (A.hi:Int)],.agg #[M 0,M 65535]] W (fun e w'=>e=.returned (.agg #[M (R.lo:Int),M (R.hi:Int)])/\Q W w') from fun W=>by
             have:=ae7 W ⟨e8,g6.2⟩ a5 xr;rw[hR] at this
             exact this)
            have h4:=Ja (show ∀W,RuAt W rb (rb+1) N s'->T W rb (an*2) (M (A.lo:Int))/\T W rb (an*2+1) (M (A.hi:Int)) from fun W h=>by
             have h1:=h.rcell s4;rw[hA] at h1
             exact h1)
            have k6:=Ja (show mb p s' o=some R from by
             unfold mb
             rw[g.out.2.1,if_neg c1,if_neg c2,g9.out,if_neg b8,if_pos b9,b4,hA,hR])
            obtain⟨a0,a1⟩:=h4.out U l.out.1;have t8:=Ja f4;clear hA hR a5 f4 b4 f9 b9 b8 l0 c1 c2 e8;go_upto_region 27 with fail;refine wp_region_noPanic ?_;refine yQ (S:=(fun w'=>T w' d 0 (I c)/\T w' d 1 (I rn)/\T w' d 2 (I an)/\T w' d 3 (I o.b)/\T w' d 4 (M (o.n:Int))/\T w' rb (an*2) (M (A.lo:Int))/\T w' rb (an*2+1) (M (A.hi:Int)))) 13 Zk ⟨z0,z1,z2,z3,z4,a0,a1⟩ (fun hHeld=>?_);refine Tl 0 ?_
            try simp only[Yp]
            refine Tl 1 ?_
            try simp only[Yp]
            refine Tl 2 ?_
            try simp only[Yp]
            refine Tl 3 ?_
            try simp only[Yp]
            refine Tl 4 ?_
            try simp only[Yp]
            refine Tl 5 ?_
            try simp only[Yp]
            refine Tl 6 ?_
            try simp only[Yp]
            refine Tl 7 ?_
            try simp only[Yp]
            refine Tl 8 ?_
            try simp only[Yp]
            refine Tl 9 ?_
            try simp only[Yp]
            refine z8 (rs:=[10]) Zk Zs ?_;refine zS.cons (o:=_) rfl (fun K hK=>?_) ?_
            ·skip
             (go_simp;refine(afd _).mono ?_;rintro e w7 ⟨rfl,j9⟩;have f3:Q U w7:=Below.trans (show Q U _ from by repeat' (first|with_reducible exact Below.refl _ _|with_reducible refine Below.drew ?_|with_reducible exact yC (Below.refl _ _))) (j9.mono (by first|exact Je _|omega));have b7:=l.out.1.below f3;have B5:=f3.size;have g8:=HC.out w7 (f3.block _ zl);have s7:=h4.out w7 b7;obtain⟨r0,r1⟩:=b7.rcell c8;have q0:=(b7.free (rn*2)).1;have q1:=(b7.free (rn*2+1)).1;have rl:=b7.lt.1;clear b7 j9)
             refine hK.out _ _ ⟨g8.1,g8.2.1,g8.2.2.1,g8.2.2.2.1,g8.2.2.2.2,s7.1,s7.2⟩ (fun hHeld=>?_);clear hK K
             try simp only[Yp]
             refine z8 (rs:=[11]) Zk Zs ?_;refine zS.cons (o:=_) rfl (fun K hK=>?_) ?_
             ·skip
              (go_simp;refine(t7.out _).mono ?_;clear r0 r1 q0 q1 rl;rintro e w6 ⟨rfl,a6⟩;have y:Q U w6:=Below.trans (show Q U _ from by repeat' (first|with_reducible exact Below.refl _ _|with_reducible exact f3|with_reducible refine Below.drew ?_|with_reducible exact yC (Below.refl _ _))) (a6.mono (by first|exact Je _|omega));have d0:w6.heap[d]? =U.heap[d]?:=y.block _ zl;have u:=l.out.1.below y;obtain⟨r0,r1⟩:=u.rcell c8;have q0:=(u.free (rn*2)).1;have q1:=(u.free (rn*2+1)).1;have rl:=u.lt.1;have b5:=HC.out w6 d0;have f5:=h4.out w6 u;have H6:=Ja (Jb u (l.out.2.1.trans (RuTo.of_below y)));clear u a6 y f3 g8 s7)
              refine hK.out _ _ ⟨b5.1,b5.2.1,b5.2.2.1,b5.2.2.2.1,b5.2.2.2.2,f5.1,f5.2⟩ (fun hHeld=>?_);clear hK K
              try simp only[Yp]
              refine Tl 12 ?_
              try simp only[Yp]
              refine z8 (rs:=[13]) Zk Zs ?_;refine zS.last (o:=_) rfl (fun K hK=>?_);go_simp;refine hK.out _ _ ?_;clear hK K
              try simp only[Yp]
              refine xj Zk (NoPanic.normal ?_) _;go_wp2_with fail;go_roundw
              case rel=>
               have h:=H6.out.1.setR c8 (a:=R) t8.out rfl;exact⟨j+1,_,g.out.2.2.2.1,by go_num,Ja ⟨by rw[x9 g.out.1,g.out.2.2.2.2];exact df (by rw[g.out.2.2.1];omega) (by rw[g.out.2.2.1];rfl) k6.out,h.1.below (by first|exact Below.refl _ _|exact(Below.refl _ _).drew),(H6.out.2.trans h.2).trans (RuTo.of_below (by first|exact Below.refl _ _|exact(Below.refl _ _).drew))⟩⟩
              case measure=>have:=g.out.2.2.2.1;simp[intOf];omega
             exact zS.nil
            exact zS.nil
           ·have o2:sh.a=false:=by simpa using b9
            rw[o2] at x2
            have k6:=Ja (show mb p s' o=none from by
             unfold mb
             rw[g.out.2.1,if_neg c1,if_neg c2,g9.out,if_neg b8,if_neg b9])
            clear b9 b8 o2 l0 c1 c2;go_wp2;go_roundw
            case rel=>exact⟨j+1,s',g.out.2.2.2.1,by go_num,Ja ⟨by rw[x9 g.out.1,g.out.2.2.2.2];exact opQ_none k6.out,l.out.1,l.out.2.1⟩⟩
            case measure=>have:=g.out.2.2.2.1;simp[intOf];omega
       ·have C0:decide (rs<0)=true:=decide_eq_true Zo;go_wp2;go_roundw
        case rel=>exact⟨j+1,s',g.out.2.2.2.1,by go_num,Ja ⟨by rw[x9 g.out.1,g.out.2.2.2.2];unfold opQ;rw[g.out.2.2.1,if_neg hr],b2.out.1,b2.out.2.1⟩⟩
        case measure=>have:=g.out.2.2.2.1;simp[intOf];omega
      ·obtain rfl:j=bx.ops.length:=by omega
       have c5:¬(bx.ops.length:Int)<(bx.ops.length:Int):=Zo;have u5:=HZ.out.2.2.2.2.2.2.2.1;have A2:=HZ.out.2.2.2.2.2.1;have i1:=lt_of_block HZ.out.2.2.1;have a3:=HJ.out.2.2.blk HZ.out.2.2.1 i1 Zo;have d1:T wr f6 1 (.slice oa bx.ops.length oc'):=zA a3 rfl;have d4:T wr f6 4 (.slice ta bx.term.to.length tc):=zA a3 rfl;have dl:=lt_of_block a3;have x4:=Ja (show bx.ops.foldl (opQ p) s=s'/\RuAt wr rb (rb+1) N s'/\RuTo rb (rb+1) Z wr from⟨by have:=HJ.out.1;rw[Nl] at this;exact this,HJ.out.2⟩);clear a3 hj a4 HJ;go_wp2;clear d1 d4 dl
       go_loopw [16] (fun jv wx=>∃(j:Nat) (s2:Slv),j<=bx.term.to.length/\jv=I j/\Hid ((bx.term.to.take j).foldl (edgQ bl) s'=s2/\RuAt wx rb (rb+1) N s2/\RuTo rb (rb+1) Z wx)) (fun jv _=>bx.term.to.length-(intOf jv).toNat)
       case atStart=>exact⟨0,s',Jt _,rfl,Ja ⟨rfl,x4.out.2⟩⟩
       case round=>
        obtain⟨j,s2,hj,rfl,HJ⟩:=hrel
        by_cases a4:j<bx.term.to.length
        ·have c5:(j:Int)<(bx.term.to.length:Int):=Zo;obtain⟨e,he⟩:∃e,bx.term.to[j]? =some e:=⟨_,Jd a4⟩
         have a2:Below t2 Z wr:=HJ.out.2.2.below ⟨by omega,by omega,by omega⟩;obtain⟨qb,qo,o9,p3,e0,k5,av,e1,g7⟩:=(HZ.out.2.2.2.2.1.below xL a2).get he;obtain⟨aa,ac,rfl,H3,H1⟩:=g7.form;subst o9;have a3:=HJ.out.2.2.blk HZ.out.2.2.1 i1 Zo;have d4:T wr f6 4 (.slice (some ⟨qb,qo,none⟩) bx.term.to.length tc):=zA a3 rfl;have dl:=lt_of_block a3;have o6:qb<wr.heap.size:=Zo;have c9:=(Jh.1 HB.out.1).1;have t5:=ahb HF.out.1 HF.out.2.1 c9;rw[HF.out.2.2.2.2.2.2,y7 HB.out.1] at t5;obtain⟨D6,t4,w4,t3⟩:=t5.tos e (Ji he);obtain⟨eb,m0⟩:∃eb:Nat,e.block=eb:=⟨e.block.toNat,by omega⟩
         have z9:eb<bl.length:=Zo;have E4:(eb:Int)<(bl.length:Int):=Zo;obtain⟨bq,s0⟩:∃bq,bl[eb]? =some bq:=⟨_,Jd z9⟩
         rw[m0,y7 s0] at t4 t3;rw[m0] at e0;have e6:=HJ.out.2.1.lt;obtain⟨O,hO⟩:∃O,wr.alloc (.cells #[I eb,.slice aa e.args.length ac] 79)=O:=⟨_,rfl⟩
         have c0:Q wr O:=by rw[<-hO];exact(Below.refl _ _).alloc (Je _) _
         have m3:O.heap[wr.heap.size]? =some (.cells #[I eb,.slice aa e.args.length ac] 79 (0,0)):=by rw[<-hO];exact zI rfl
         have HE:=Ja (show RuAt O rb (rb+1) N s2/\RuTo rb (rb+1) Z O/\O.heap[wr.heap.size]? =some (.cells #[I eb,.slice aa e.args.length ac] 79 (0,0))/\rb+1<wr.heap.size/\Below t2 w O/\zY O t2 (.slice aa e.args.length ac) e.args from⟨HJ.out.2.1.below c0,HJ.out.2.2.trans (RuTo.of_below c0),m3,e6.2,HZ.out.2.2.2.2.2.2.1.trans (a2.trans (c0.mono Zo)),g7.below zO (c0.mono Zo)⟩);have b6:=Ja (Jb he (Jb m0 (Jb s0 (Jb t4 (Jb w4 (Jb t3 (Jb a4 HJ.out.1)))))));clear he k5 g7 a2 c0 m3 a4 a3 e6 m0 s0 D6 t4 w4 t3 t5 c9;go_upto_region 32 with fail;clear hO e0 e1 d4 dl o6 p3;obtain⟨l3,x8⟩:∃t,wr.heap.size=t:=⟨_,rfl⟩
         rw[x8] at HE ⊢;have z1:T O l3 1 (.slice aa e.args.length ac):=zA HE.out.2.2.1 rfl;have zl:=lt_of_block HE.out.2.2.1;go_wp2;clear z1 zl
         go_loopw [18] (fun mv wx=>∃(m:Nat) (s3:Slv),m<=e.args.length/\mv=I m/\Hid (((bq.params.zip e.args).take m).foldl (fun t x=>agf t x.1 x.2) s2=s3/\RuAt wx rb (rb+1) N s3/\RuTo rb (rb+1) O wx)) (fun mv _=>e.args.length-(intOf mv).toNat)
         case atStart=>exact⟨0,s2,Jt _,rfl,Ja ⟨rfl,HE.out.1,RuTo.refl _ _ _⟩⟩
         case round=>
          obtain⟨m,s3,hm,rfl,HM⟩:=hrel
          by_cases l9:m<e.args.length
          ·have C4:(m:Int)<(e.args.length:Int):=Zo;obtain⟨x,hx⟩:∃x,e.args[m]? =some x:=⟨_,Jd l9⟩
           obtain⟨v,hv⟩:∃v,bq.params[m]? =some v:=⟨_,Jd (by have:=b6.out.2.2.2.1;omega)⟩
           have hz:(bq.params.zip e.args)[m]? =some (v,x):=List.getElem?_zip_eq_some.2 ⟨hv,hx⟩;have A6:=b6.out.2.2.2.2.1 x (Ji hx);have B1:=b6.out.2.2.2.2.2.1 v (Ji hv);have s8:=lt_of_block HE.out.2.2.1;have D5:=HE.out.2.2.2.1;have a2:Below t2 O wr:=HM.out.2.2.below ⟨by omega,by omega,by omega⟩;obtain⟨xb,xo,A7,A9,xc,_⟩:=(HE.out.2.2.2.2.2.below zO a2).get hx;subst A7;obtain⟨ub,uo,f9,B4,_,_,_,E8,_,_,u0,_,_,h7,_,_⟩:=(h6.out wr (HE.out.2.2.2.2.1.trans a2)).2.1.get b6.out.2.2.1;simp only[Option.some.injEq,Addr.mk.injEq,and_true] at f9;obtain⟨rfl,rfl⟩:=f9;obtain⟨ya,yc,rfl,A3,E9⟩:=h7.form;obtain⟨yb,yo,A4,A5,y0,_⟩:=h7.get hv;subst A4;rw[Nk] at xc y0;obtain⟨xn,rfl⟩:∃xn:Nat,x=xn:=⟨x.toNat,by omega⟩
           obtain⟨vn,rfl⟩:∃vn:Nat,v=vn:=⟨v.toNat,by omega⟩
           have A8:xn<N:=Zo;have c7:vn<N:=Zo;have F0:(xn:Int)<(N:Int):=Zo;have F2:(vn:Int)<(N:Int):=Zo;obtain⟨r0,r1⟩:=HM.out.2.1.rcell A8;obtain⟨A,hA⟩:∃A,s3.get (xn:Int)=A:=⟨_,rfl⟩
           obtain⟨G,hG⟩:∃G,s3.get (vn:Int)=G:=⟨_,rfl⟩
           obtain⟨q,hq⟩:∃q,s3.knw (vn:Int)=q:=⟨_,rfl⟩
           rw[hA] at r0 r1;have a5:A.ok:=by rw[<-hA];exact HM.out.2.1.oks.get _
           have s9:G.ok:=by rw[<-hG];exact HM.out.2.1.oks.get _
           have a7:=HM.out.2.2.blk (HE.out.2.1.blk HZ.out.2.2.2.2.2.2.2.2.2 (lt_of_block HZ.out.2.2.2.2.2.2.2.2.2) Zo) (by have:=a2.size;have:=(HE.out.2.1.size);have:=lt_of_block HZ.out.2.2.2.2.2.2.2.2.2;omega) Zo;have y5:T wr (t2+1) 0 (.slice (some ⟨bb,bo,none⟩) bl.length kc):=zA a7 rfl;have yl:=lt_of_block a7;have b3:=HM.out.2.2.blk HE.out.2.2.1 s8 Zo;have z0:T wr l3 0 (I eb):=zA b3 rfl;have z1:T wr l3 1 (.slice (some ⟨xb,xo,none⟩) e.args.length ac):=zA b3 rfl;have zl:=lt_of_block b3;have e6:=HM.out.2.1.lt;have F4:m<bq.params.length:=(Jh.1 hv).1;have E1:(m:Int)<(bq.params.length:Int):=Zo;have B8:xb<wr.heap.size:=Zo;have B7:bb<wr.heap.size:=Zo;have B6:yb<wr.heap.size:=Zo;obtain⟨U,hU⟩:∃U,wr.alloc (.cells #[M (A.lo:Int),M (A.hi:Int)] 45)=U:=⟨_,rfl⟩
           have d5:Q wr U:=by rw[<-hU];exact(Below.refl _ _).alloc (Je _) _
           have n1:U.heap[wr.heap.size]? =some (.cells #[M (A.lo:Int),M (A.hi:Int)] 45 (0,0)):=by rw[<-hU];exact zI rfl
           have l:=Ja (show RuAt U rb (rb+1) N s3/\RuTo rb (rb+1) O U/\U.heap[wr.heap.size]? =some (.cells #[M (A.lo:Int),M (A.hi:Int)] 45 (0,0))/\rb+1<wr.heap.size from⟨HM.out.2.1.below d5,HM.out.2.2.trans (RuTo.of_below d5),n1,e6.2⟩);have HQ:=Ja (Jb hA (Jb hG (Jb hq (Jb hz (Jb a5 (Jb s9 (Jb l9 HM.out.1)))))));clear hA hG hq hz a5 s9 hx hv A6 B1 a2 A9 B4 h7 A5 A3 a7 b3 d5 n1 l9;go_upto_region 37 with fail;clear hU r0 r1 y5 yl z0 z1 zl u0 xc y0 B8 B7 B6;obtain⟨t20,x7⟩:∃t,wr.heap.size=t:=⟨_,rfl⟩
           rw[x7] at l ⊢;have d9:=l.out.1.kcell c7;rw[HQ.out.2.2.1] at d9;have B2:=l.out.1.lt;have a0:T U t20 0 (M (A.lo:Int)):=zA l.out.2.2.1 rfl;have a1:T U t20 1 (M (A.hi:Int)):=zA l.out.2.2.1 rfl;have al:=lt_of_block l.out.2.2.1;have p0:U.frozen? ⟨t20,0,none⟩=false:=zE l.out.2.2.1;have p1:U.frozen? ⟨t20,1,none⟩=false:=zE l.out.2.2.1;obtain⟨g0,g1⟩:=l.out.1.rcell c7;rw[HQ.out.2.1] at g0 g1;have q0:=(l.out.1.free (vn*2)).1;have q1:=(l.out.1.free (vn*2+1)).1;cases q
           ·skip
            go_upto_region 39 with fail;obtain⟨V,hV⟩:∃V,(U.setCell ⟨rb,vn*2,none⟩ (M (A.lo:Int))).setCell ⟨rb,vn*2+1,none⟩ (M (A.hi:Int))=V:=⟨_,rfl⟩
            have c4:=l.out.1.setR c7 HQ.out.2.2.2.2.1 hV;have r3:(U.setCell ⟨rb,vn*2,none⟩ (M (A.lo:Int))).setCell ⟨rb,vn*2+1,none⟩ (M (A.hi:Int))=V:=hV;have HV:=Ja (Jb c4.1 (l.out.2.1.trans c4.2));clear c4;go_upto_region 40 with fail
            try rw[hV]
            clear hV r3 d9 a0 a1 al g0 g1 q0 q1 p0 p1;have d9:T V (rb+1) vn (.bool (s3.knw (vn:Int))):=HV.out.1.kcell c7;have kf:=(HV.out.1.free vn).2;have kl:=HV.out.1.lt.2;go_wp2;go_roundw
            case rel=>
             have h:=HV.out.1.setK (v:=vn);exact⟨m+1,_,HQ.out.2.2.2.2.2.2.1,by go_num,Ja ⟨by rw[x9 HQ.out.2.2.2.1,HQ.out.2.2.2.2.2.2.2];unfold agf;rw[HQ.out.2.2.1];rw[if_neg Zd,HQ.out.1];rfl,h.1,HV.out.2.trans h.2⟩⟩
            case measure=>have:=HQ.out.2.2.2.2.2.2.1;simp[intOf];omega
           ·skip
            obtain⟨lo,q5⟩:∃z,min A.lo G.lo=z:=⟨_,rfl⟩
            obtain⟨hi,q9⟩:∃z,max A.hi G.hi=z:=⟨_,rfl⟩
            have q3:=ahd A.lo G.lo;have q4:=afI A.hi G.hi;rw[q5] at q3;rw[q9] at q4;obtain⟨H,hH⟩:∃H:Rg,H=⟨lo,hi⟩:=⟨_,rfl⟩
            have HH:=Ja (show tn A G=H/\H.ok from by
             have h1:tn A G=H:=by rw[hH];unfold tn;rw[q5,q9]
             exact⟨h1,by rw[<-h1];exact i7 HQ.out.2.2.2.2.1 HQ.out.2.2.2.2.2.1⟩)
            clear q5 q9;go_upto_region 38 with fail;refine zt 17 Zk Zk ?_;simp only[Qo,Uc,Qp,Ui]
            repeat (go_big_quiet_step (fail))
            refine wpQuiet_nil ?_;go_upto_region 39 with fail;obtain⟨U2,k4⟩:∃U2,((U.setCell ⟨t20,0,none⟩ (M lo)).setCell ⟨t20,1,none⟩ (M hi)).drew=U2:=⟨_,rfl⟩
            have z6:rb≠t20:=by have:=l.out.2.2.2;omega
            have z5:rb+1≠t20:=by have:=l.out.2.2.2;omega
            have v8:∀W:World,W.drew.heap=W.heap:=fun _=>rfl
            have t6:=zD (w:=U.setCell ⟨t20,0,none⟩ (M lo)) (i:=1) (zD (w:=U) (i:=0) l.out.2.2.1 (M lo)) (M hi);rw[<-v8,k4] at t6;have h8:∀i,i≠t20->U2.heap[i]? =U.heap[i]?:=fun i h1=>by rw[<-k4,v8,Below.heap_setCell _ _ _ _ h1,Below.heap_setCell _ _ _ _ h1]
            have d2:Below t20 U U2:=by rw[<-k4];exact(((Below.refl t20 U).setCell (show t20<=t20 from Je _) _).setCell (show t20<=t20 from Je _) _).drew
            have E6:=lt_of_block HE.out.2.2.1
            have d6:=Ja (show RuAt U2 rb (rb+1) N s3/\RuTo rb (rb+1) O U2/\U2.heap[t20]? =some (.cells #[M (H.lo:Int),M (H.hi:Int)] 45 (0,0)) from
             ⟨l.out.1.same (h8 rb z6) (h8 _ z5),⟨d2.os.trans l.out.2.1.os,d2.tape.trans l.out.2.1.tape,d2.output.trans l.out.2.1.output,Jn l.out.2.1.size d2.size,fun i hi h1 h2=>(h8 i (by have:=HM.out.2.2.size;omega)).trans (l.out.2.1.block i hi h1 h2)⟩,by rw[t6,hH];rfl⟩)
            try rw[k4]
            clear k4 t6 h8 d2 hH d9 a0 a1 al g0 g1 q0 q1 p0 p1 q3 q4;have a0:T U2 t20 0 (M (H.lo:Int)):=zA d6.out.2.2 rfl;have a1:T U2 t20 1 (M (H.hi:Int)):=zA d6.out.2.2 rfl;have al:=lt_of_block d6.out.2.2;have B2:=d6.out.1.lt;obtain⟨g0,g1⟩:=d6.out.1.rcell c7;have q0:=(d6.out.1.free (vn*2)).1;have q1:=(d6.out.1.free (vn*2+1)).1;have d9:True:=trivial;have p0:True:=trivial;have p1:True:=trivial;obtain⟨V,hV⟩:∃V,(U2.setCell ⟨rb,vn*2,none⟩ (M (H.lo:Int))).setCell ⟨rb,vn*2+1,none⟩ (M (H.hi:Int))=V:=⟨_,rfl⟩
            have c4:=d6.out.1.setR c7 HH.out.2 hV;have r3:(U2.setCell ⟨rb,vn*2,none⟩ (M (H.lo:Int))).setCell ⟨rb,vn*2+1,none⟩ (M (H.hi:Int))=V:=hV;have HV:=Ja (Jb c4.1 (d6.out.2.1.trans c4.2));clear c4;go_upto_region 40 with fail
            try rw[hV]
            clear hV r3 d9 a0 a1 al g0 g1 q0 q1 p0 p1;have d9:T V (rb+1) vn (.bool (s3.knw (vn:Int))):=HV.out.1.kcell c7;have kf:=(HV.out.1.free vn).2;have kl:=HV.out.1.lt.2;go_wp2;go_roundw
            case rel=>
             have h:=HV.out.1.setK (v:=vn);exact⟨m+1,_,HQ.out.2.2.2.2.2.2.1,by go_num,Ja ⟨by rw[x9 HQ.out.2.2.2.1,HQ.out.2.2.2.2.2.2.2];unfold agf;rw[HQ.out.2.2.1];rw[if_pos rfl,HQ.out.1,HQ.out.2.1,HH.out.1];rfl,h.1,HV.out.2.trans h.2⟩⟩
            case measure=>have:=HQ.out.2.2.2.2.2.2.1;simp[intOf];omega
          ·obtain rfl:m=e.args.length:=by omega
           have C4:¬(e.args.length:Int)<(e.args.length:Int):=Zo;have s8:=lt_of_block HE.out.2.2.1;have D5:=HE.out.2.2.2.1;have b3:=HM.out.2.2.blk HE.out.2.2.1 s8 Zo;have z1:T wr l3 1 (.slice aa e.args.length ac):=zA b3 rfl;have zl:=lt_of_block b3;clear hm l9 b3;go_wp2;go_roundw
           case rel=>
            refine⟨j+1,s3,b6.out.2.2.2.2.2.2.1,by go_num,Ja ⟨?_,HM.out.2.1,HE.out.2.1.trans HM.out.2.2⟩⟩;rw[x9 b6.out.1,b6.out.2.2.2.2.2.2.2,<-HM.out.1];unfold edgQ;rw[b6.out.2.1,y7 b6.out.2.2.1,Oy (by rw[List.length_zip,b6.out.2.2.2.1];omega)]
           case measure=>have:=b6.out.2.2.2.2.2.2.1;simp[intOf];omega
        ·obtain rfl:j=bx.term.to.length:=by omega
         have c5:¬(bx.term.to.length:Int)<(bx.term.to.length:Int):=Zo;have a3:=HJ.out.2.2.blk HZ.out.2.2.1 i1 Zo;have d4:T wr f6 4 (.slice ta bx.term.to.length tc):=zA a3 rfl;have dl:=lt_of_block a3;clear hj a4 a3;go_wp2;go_roundw
         case rel=>
          refine⟨k+1,s2,HB.out.2.2.2,by go_num,Ja ⟨?_,HJ.out.2.1,HZ.out.2.1.trans HJ.out.2.2⟩⟩;rw[evL_take HB.out.2.1,List.foldl_append,HB.out.2.2.1,y7 HB.out.1,evB_q,x4.out.1,<-HJ.out.1,Nl]
         case measure=>have:=HB.out.2.2.2;simp[intOf];omega
    ·obtain rfl:k=os.length:=by omega
     have c5:¬(os.length:Int)<(os.length:Int):=Zo;clear hk a4;go_wp2;go_ret
     have z7:bf p bl (vD (zy bl))=s:=by
      unfold bf;rw[HF.out.2.2.2.2.2.2,x1.out.1,<-HK.out.1,Nl]
     have hrl:s.r.length=N:=HK.out.2.1.oks.rl;have H7:=HO.out.2.2.2.2.2;have a2:Below t2 w wr:=HO.out.1.trans (HK.out.2.2.below Zo);rw[z7];refine⟨some ⟨rb,0,none⟩,by rw[hrl];rfl,fun _=>⟨rb,rfl,HK.out.2.1.row,by rw[i2];omega⟩,by rw[i2];exact a2⟩
abbrev cR:Array Value:=#[M 0,U,I 0,M 0,.string ⟨#[]⟩,I 0,I 0]
theorem quick_q{V:PV}{p:IProg}(hp:ProgIn w w.heap.size V p)(f4:OkProg p)(hu:UseProg p)(f:Int)(hf:0<=f/\f.toNat<p.funcs.length){args:List Nat}{av:Value}(ha:wV w w.heap.size av args)(hl:(args.length:Int)=p.args.getD f.toNat 0)
 (s:ByteArray) (hs:s.size<=9223372036854775807) {inv irqv:Value} {inn irq:List Nat} (d5:wV w w.heap.size inv inn) (d4:dL w w.heap.size irqv irq) (fuel:Int) (f5:0<=fuel/\fuel<=4000000):
 O 20 #[yH V p,I f,av,.string s,.agg #[inv,irqv],I fuel] w (abr w (bQ ⟨p,inn,irq⟩ f args s fuel)):=by
 obtain⟨Vf,Va,Vd,Vb⟩:=V;obtain⟨f1,f2,e1,_,_⟩:=hp.funcs.form;obtain⟨a1,a2,e2,_,_⟩:=hp.args.form;obtain⟨d1,d2,e3,_,_⟩:=hp.data.form;obtain⟨b1,b2,e4,_,_⟩:=hp.banks.form;obtain⟨v1,v2,rfl,_,_⟩:=ha.form;obtain⟨i1,i2,rfl,_,_⟩:=d5.form;obtain⟨q1,q2,rfl,_,_⟩:=d4.form;simp only at e1 e2 e3 e4;subst e1 e2 e3 e4;unfold yH;simp only;have HP:=Ja hp;have HA:=Ja (Jb ha hl);have e8:=Ja (Jb d5 d4);have c2:=Ja f5;have e7:=Ja (Jb f4 hu);have HF:=Ja hf;clear hp ha hl d5 d4 f5 f4 hu hf;have f8:Q w (((w.alloc (G (Z p f1 f2 a1 a2 d1 d2 b1 b2) 29)).alloc (G #[.slice i1 inn.length i2,.slice q1 irq.length q2] 62)).alloc (G cR 57)):=(((Below.refl _ _).alloc (Je _) _).alloc Zs _).alloc Zt _;have d0:=zB (o:=G cR 57) (zB (o:=G #[.slice i1 inn.length i2,.slice q1 irq.length q2] 62) (zI (W:=w) (o:=G (Z p f1 f2 a1 a2 d1 d2 b1 b2) 29) rfl));have b9:=zB (o:=G cR 57) (zI (W:=w.alloc (G (Z p f1 f2 a1 a2 d1 d2 b1 b2) 29)) (o:=G #[.slice i1 inn.length i2,.slice q1 irq.length q2] 62) rfl);have b8:=zI (W:=(w.alloc (G (Z p f1 f2 a1 a2 d1 d2 b1 b2) 29)).alloc (G #[.slice i1 inn.length i2,.slice q1 irq.length q2] 62)) (o:=G cR 57) rfl;go_enter Tryz.func20,Tryz.ntmps20;go_upto_region 1 with fail;have d3:(w.alloc (G (Z p f1 f2 a1 a2 d1 d2 b1 b2) 29)).heap.size=w.heap.size+1:=by simp
 have f0:((w.alloc (G (Z p f1 f2 a1 a2 d1 d2 b1 b2) 29)).alloc (G #[.slice i1 inn.length i2,.slice q1 irq.length q2] 62)).heap.size=w.heap.size+1+1:=by simp
 rw[d3] at b9;rw[f0] at b8;generalize ((w.alloc (G (Z p f1 f2 a1 a2 d1 d2 b1 b2) 29)).alloc (G #[.slice i1 inn.length i2,.slice q1 irq.length q2] 62)).alloc (G cR 57)=W1 at *
 have f9:=Ja (show ∀W:World,Q W1 W->T W w.heap.size 0 (.slice f1 p.funcs.length f2)/\T W w.heap.size 1 (.slice a1 p.args.length a2)/\T W w.heap.size 2 (I p.entry)/\T W w.heap.size 3 (I p.handler)/\T W w.heap.size 4 (.slice d1 p.data.length d2)/\T W w.heap.size 5 (.slice b1 p.banks.length b2)/\T W (w.heap.size+1) 0 (.slice i1 inn.length i2)/\T W (w.heap.size+1) 1 (.slice q1 irq.length q2) from fun W hb=>by
  have h0:=zH hb d0 (lt_of_block d0);have h1:=zH hb b9 (lt_of_block b9)
  exact⟨zA h0 Zs,zA h0 Zs,zA h0 Zs,zA h0 Zs,zA h0 Zs,zA h0 Zs,zA h1 Zs,zA h1 Zs⟩)
 have e0:=Ja (Jb b8 (lt_of_block b8));have c4:=Ja f8;have g2:=lt_of_block b9;have g1:=Ja (fun W=>ram_q W s hs);clear d3 f0 d0 b9 b8 f8 hs
 go_cut [13] (fun pv wx=>∃pm rb:Nat,pv=F pm/\Hid (A wx pm #[.slice f1 p.funcs.length f2,.slice a1 p.args.length a2,I p.entry,I p.handler,.slice d1 p.data.length d2,.slice b1 p.banks.length b2,L rb 8192 8192,.slice i1 inn.length i2,.slice q1 irq.length q2,I fuel,.bool false,I 0,M 0,U,I 0,M 0,.string ⟨#[]⟩,I 0,I 0] 114/\A wx rb ((v7 s).map q8).toArray 5/\Q W1 wx/\W1.heap.size<=pm/\W1.heap.size<=rb))
 case first=>
  go_region_held3 (fun w'=>T w' w.heap.size 0 (.slice f1 p.funcs.length f2)/\T w' w.heap.size 1 (.slice a1 p.args.length a2)/\T w' w.heap.size 2 (I p.entry)/\T w' w.heap.size 3 (I p.handler)/\T w' w.heap.size 4 (.slice d1 p.data.length d2)/\T w' w.heap.size 5 (.slice b1 p.banks.length b2)/\T w' (w.heap.size+1) 0 (.slice i1 inn.length i2)/\T w' (w.heap.size+1) 1 (.slice q1 irq.length q2))
   ((refine f9.out _ ?_;repeat' (first|with_reducible exact Below.refl _ _|with_reducible assumption|with_reducible refine Below.drew ?_|with_reducible refine Below.alloc ?_ Zn _|with_reducible refine Below.setCell ?_ Zn _)))
   (first
     |(go_at_call 46
       refine(g1.out _).mono ?_;rintro e y1 ⟨rb,rfl,f3,g3,f6⟩;have c8:Q W1 y1:=Below.trans (by repeat' (first|with_reducible exact Below.refl _ _|with_reducible assumption|with_reducible refine Below.drew ?_|with_reducible refine Below.alloc ?_ Zn _|with_reducible refine Below.setCell ?_ Zn _)) (f6.mono Zn);have d3:=c8.size;have g0:W1.heap.size<=rb:=by first|exact f3|(simp at f3;omega)
       clear f6))
  all_goals go_wp2_with fail
  all_goals go_meet
  all_goals exact⟨y1.heap.size,rb,rfl,Ja ⟨zI rfl,zB g3,c8.alloc c8.size _,c8.size,g0⟩⟩
 case rest=>
  obtain⟨pm,rb,rfl,HM⟩:=hcut;have b4:=c4.out.trans (HM.out.2.2.1.mono c4.out.size);obtain⟨K,hK⟩:∃K:MK,K=⟨⟨p,inn,irq⟩,⟨.slice f1 p.funcs.length f2,.slice a1 p.args.length a2,.slice d1 p.data.length d2,.slice b1 p.banks.length b2⟩,.slice i1 inn.length i2,.slice q1 irq.length q2,pm,rb,w.heap.size⟩:=⟨_,rfl⟩
  have hm:MachQ wc K ⟨v7 s,fuel,[],0,0⟩ none 0 (U):=by
   subst hK;have hB:=c4.out.size;exact⟨HM.out.1,HM.out.2.1,iG s,bY s,Jv _ _ _ _,(fun q hq=>by cases hq),by show 0+fuel.toNat<=4000000;have:=c2.out;omega,⟨by have:=c2.out;show -1<=fuel;omega,c2.out.2,fun _=>c2.out.1⟩,Jt _,Jt _,by have:=HM.out.2.2.2.1;show w.heap.size<=pm;omega,by have:=HM.out.2.2.2.2;show w.heap.size<=rb;omega,HP.out.below b4,e8.out.1.below zr b4,e8.out.2.below xQ b4⟩
  have b6:K.E=⟨p,inn,irq⟩:=by rw[hK]
  have c7:K.pm=pm:=by rw[hK]
  have a4:=cN K (by rw[b6];exact e7.out.1) (by rw[b6];exact e7.out.2) 100 (Je _) wc _ _ _ (.slice v1 args.length v2) f args hm HF.out.1 (by rw[b6];exact HF.out.2) ((HA.out.1.below zr b4).mono zr b4.size) (by rw[b6];exact HA.out.2) (fun b o n c e hn=>by
   cases e;obtain⟨x,xs,rfl⟩:∃x xs,args=x::xs:=by cases args with|nil=>exact absurd rfl hn|cons x xs=>exact⟨x,xs,rfl⟩
   obtain⟨b',o',e',h8,_⟩:=HA.out.1.get (k:=0) (x:=x) rfl;cases e';have:=HM.out.2.2.2.1;have:=c4.out.size;rw[c7]
   omega)
  rw[c7,show(101-((100:Nat):Int))=1 from rfl] at a4;have c5:bQ ⟨p,inn,irq⟩ f args s fuel=adO (xW K.E 100 f args ⟨v7 s,fuel,[],0,0⟩):=by rw[b6];rfl
  obtain⟨R,hR⟩:∃R,xW K.E 100 f args ⟨v7 s,fuel,[],0,0⟩=R:=⟨_,rfl⟩
  rw[hR] at a4 c5;have e5:=Ja c5;have c9:=zH HM.out.2.2.1 e0.out.1 e0.out.2;have HZ:=Ja (Jb c9 (Jb b4 hm));have d7:K.B=w.heap.size/\K.rb=rb:=by rw[hK];exact⟨rfl,rfl⟩
  have d:=Ja (Jb c7 (Jb d7.1 (Jb d7.2 (Jb HM.out.2.2.2.1 c4.out.size))));clear hm c5 c9 b4 d7 b6 HP HA e8 c2 e7 HF hR HM e0 f9 g2 hK
  cases R with
  |ok x m'=>
   have HC:=Ja a4;clear a4;go_upto_region 3 with(go_at_call 47;go_must (refine HC.out.mono ?_;rintro e w2 ⟨he,⟨h5,ov2,g⟩,b3,b8⟩;obtain rfl:e=.returned (M x):=he))
   obtain⟨oa,oc,rfl⟩:=zG g.out;have c10:T w2 pm 10 (.bool false):=by rw[<-d.out.1];exact g.c10
   have c12:T w2 pm 12 (M 0):=by rw[<-d.out.1];exact g.cell rfl
   have h7:T w2 pm 14 (I 0):=by rw[<-d.out.1];exact g.cell rfl
   have h6:T w2 pm 15 (M 0):=by rw[<-d.out.1];exact g.cell rfl
   have cf:∀i,Y w2 pm i:=fun i=>by rw[<-d.out.1];exact g.free i
   have cl:pm<w2.heap.size:=by rw[<-d.out.1];exact g.lt
   have t:=b3.kept _ _ HZ.out.1 (by simp[di]);have b5:=b3.below;rw[d.out.2.1] at b5;have a0:=g.blk;rw[d.out.1] at a0;have a5:=zC g.out g.blk (.inr Zd);have b0:=zC g.out t (.inr Zd);have y:w.heap.size+1+1≠pm:=by rintro rfl;rw[t] at a0;simp at a0
   have a3:=g.ne;have a6:=g.ram;rw[d.out.1] at a5 a3;rw[d.out.2.2.1] at a3 a6;have a7:=g.out;rw[d.out.2.1] at a7;have z1:=zD (i:=14) a0 (I 6);have z2:=zD (i:=15) z1 (M 0);have z3:=zD (i:=12) z2 (M x);have c3:=Ja (Jb z3 (Jb (zR (a:=⟨pm,12,none⟩) (u:=M x) (zR (a:=⟨pm,15,none⟩) (u:=M 0) (zR (a:=⟨pm,14,none⟩) (u:=I 6) a6 a3) a3) a3) (Jb g.rlen (Jb (ownsRow_setCell_other (a:=⟨pm,12,none⟩) (ownsRow_setCell_other (a:=⟨pm,15,none⟩) (ownsRow_setCell_other (a:=⟨pm,14,none⟩) a7 (fun e=>a5 (by simpa using e)) (I 6)) (fun e=>a5 (by simpa using e)) (M 0)) (fun e=>a5 (by simpa using e)) (M x)) (Jb (zR (a:=⟨pm,12,none⟩) (u:=M x) (zR (a:=⟨pm,15,none⟩) (u:=M 0) (zR (a:=⟨pm,14,none⟩) (u:=I 6) t y) y) y) (Jb y (Jb a5 (Jb (Jb b0 g.olt) ((((HZ.out.2.1.trans b5).setCell (p:=⟨pm,14,none⟩) (Jn d.out.2.2.2.2 d.out.2.2.2.1) (I 6)).setCell (p:=⟨pm,15,none⟩) (Jn d.out.2.2.2.2 d.out.2.2.2.1) (M 0)).setCell (p:=⟨pm,12,none⟩) (Jn d.out.2.2.2.2 d.out.2.2.2.1) (M x))))))))));clear g b3 t b5 a0 a5 b0 y a3 a6 a7 z1 z2 z3;go_upto_region 6 with fail;generalize d6:((w2.setCell ⟨pm,14,none⟩ (I 6)).setCell ⟨pm,15,none⟩ (M 0)).setCell ⟨pm,12,none⟩ (M x)=W6 at *;have l:=c3;clear c3 d6 c10 c12 h7 h6 cf cl;have e6:T W6 pm 6 (L rb 8192 8192):=zA l.out.1 (by simp[ep,d.out.2.2.1]);have d9:T W6 pm 16 (.string ⟨#[]⟩):=zA l.out.1 (by simp[ep,d.out.2.2.1]);have d8:∀i,Y W6 pm i:=fun i=>zE l.out.1
   have l6:=lt_of_block l.out.1;have b7:=mp l.out.2.1 l.out.2.2.1;go_upto_region 7 with fail;have j:=zD (i:=16) l.out.1 (.string (y9 m'.ram));have h:=zR (a:=⟨pm,16,none⟩) (u:=.string (y9 m'.ram)) l.out.2.2.2.2.1 l.out.2.2.2.2.2.1;have c0:=ownsRow_setCell_other (a:=⟨pm,16,none⟩) l.out.2.2.2.1 (fun e=>l.out.2.2.2.2.2.2.1 (by simpa using e)) (.string (y9 m'.ram));have c1:=l.out.2.2.2.2.2.2.2.2.setCell (p:=⟨pm,16,none⟩) (Jn d.out.2.2.2.2 d.out.2.2.2.1) (.string (y9 m'.ram));generalize W6.setCell ⟨pm,16,none⟩ (.string (y9 m'.ram))=W7 at *;have h4:T W7 pm 12 (M x):=zA j (by simp[ep,trK,trI]);have g9:T W7 pm 13 (.slice oa m'.out.length oc):=zA j (by simp[ep,trK,trI]);have g8:T W7 pm 14 (I (6)):=zA j (by simp[ep,trK,trI]);have g7:T W7 pm 15 (M (0)):=zA j (by simp[ep,trK,trI]);have g6:T W7 pm 16 (.string (y9 m'.ram)):=zA j (by simp[ep,trK,trI]);have g5:T W7 pm 17 (I (m'.inputs:Int)):=zA j (by simp[ep,trK,trI]);have g4:T W7 pm 18 (I (m'.polls:Int)):=zA j (by simp[ep,trK,trI]);have gl:=lt_of_block j;have x0:=zA (i:=0) h rfl;have x1:=zA (i:=1) h rfl;have x2:=zA (i:=2) h rfl;have x3:=zA (i:=3) h rfl;have x4:=zA (i:=4) h rfl;have x5:=zA (i:=5) h rfl;have x6:=zA (i:=6) h rfl;have xf:∀i,Y W7 (w.heap.size+1+1) i:=fun i=>zE h
   have xl:=lt_of_block h;have m:=Ja (Jb c0 (Jb c1 l.out.2.2.2.2.2.2.2.1));clear e6 d9 d8 l6 b7 j h c0 c1;go_wp2;refine bodyPost_ret (v:=.agg #[M x,.slice oa m'.out.length oc,I (6),M (0),.string (y9 m'.ram),I (m'.inputs:Int),I (m'.polls:Int)]) ?_ rfl ?_
   ·rw[zM rfl];go_simp
   ·rw[e5.out]
    exact⟨.slice oa m'.out.length oc,rfl,kP (ownsRow_setCell_other (a:=⟨w.heap.size+1+1,6,none⟩) (ownsRow_setCell_other (a:=⟨w.heap.size+1+1,5,none⟩) (ownsRow_setCell_other (a:=⟨w.heap.size+1+1,4,none⟩) (ownsRow_setCell_other (a:=⟨w.heap.size+1+1,3,none⟩) (ownsRow_setCell_other (a:=⟨w.heap.size+1+1,2,none⟩) (ownsRow_setCell_other (a:=⟨w.heap.size+1+1,1,none⟩) (ownsRow_setCell_other (a:=⟨w.heap.size+1+1,0,none⟩) m.out.1 (fun e=>m.out.2.2.1 (by simpa using e)) (M x)) (fun e=>m.out.2.2.1 (by simpa using e)) (.slice oa m'.out.length oc)) (fun e=>m.out.2.2.1 (by simpa using e)) (I (6))) (fun e=>m.out.2.2.1 (by simpa using e)) (M (0))) (fun e=>m.out.2.2.1 (by simpa using e)) (.string (y9 m'.ram))) (fun e=>m.out.2.2.1 (by simpa using e)) (I (m'.inputs:Int))) (fun e=>m.out.2.2.1 (by simpa using e)) (I (m'.polls:Int))) m.out.2.2.2,(((((((m.out.2.1.setCell (p:=⟨w.heap.size+1+1,0,none⟩) (show w.heap.size<=w.heap.size+1+1 by omega) (M x)).setCell (p:=⟨w.heap.size+1+1,1,none⟩) (show w.heap.size<=w.heap.size+1+1 by omega) (.slice oa m'.out.length oc)).setCell (p:=⟨w.heap.size+1+1,2,none⟩) (show w.heap.size<=w.heap.size+1+1 by omega) (I (6))).setCell (p:=⟨w.heap.size+1+1,3,none⟩) (show w.heap.size<=w.heap.size+1+1 by omega) (M (0))).setCell (p:=⟨w.heap.size+1+1,4,none⟩) (show w.heap.size<=w.heap.size+1+1 by omega) (.string (y9 m'.ram))).setCell (p:=⟨w.heap.size+1+1,5,none⟩) (show w.heap.size<=w.heap.size+1+1 by omega) (I (m'.inputs:Int))).setCell (p:=⟨w.heap.size+1+1,6,none⟩) (show w.heap.size<=w.heap.size+1+1 by omega) (I (m'.polls:Int)))⟩
  |trap k i m'=>
   have HC:=Ja a4;clear a4;go_upto_region 3 with(go_at_call 47;go_must (refine HC.out.mono ?_;rintro e w2 ⟨he,⟨h5,ov2,h9,g⟩,b3⟩;obtain rfl:e=.returned (M 0):=he))
   obtain⟨oa,oc,rfl⟩:=zG g.out;have c10:T w2 pm 10 (.bool true):=by rw[<-d.out.1];exact g.c10
   have cl:pm<w2.heap.size:=by rw[<-d.out.1];exact g.lt
   have t:=b3.kept _ _ HZ.out.1 (by simp[di]);have b5:=b3.below;rw[d.out.2.1] at b5;have a0:=g.blk;rw[d.out.1] at a0;have a5:=zC g.out g.blk (.inr Zd);have b0:=zC g.out t (.inr Zd);have y:w.heap.size+1+1≠pm:=by rintro rfl;rw[t] at a0;simp at a0
   have a6:=g.ram;rw[d.out.1] at a5;rw[d.out.2.2.1] at a6;have a7:=g.out;rw[d.out.2.1] at a7;have c3:=Ja (Jb a0 (Jb a6 (Jb g.rlen (Jb a7 (Jb t (Jb y (Jb a5 (Jb (Jb b0 g.olt) (HZ.out.2.1.trans b5)))))))));clear g b3 t b5 a0 a5 b0 y a6 a7;go_upto_region 6 with fail;generalize d6:w2=W6 at *;have l:=c3;clear c3 d6 c10 cl;have e6:T W6 pm 6 (L rb 8192 8192):=zA l.out.1 (by simp[ep,d.out.2.2.1]);have d9:T W6 pm 16 (.string ⟨#[]⟩):=zA l.out.1 (by simp[ep,d.out.2.2.1]);have d8:∀i,Y W6 pm i:=fun i=>zE l.out.1
   have l6:=lt_of_block l.out.1;have b7:=mp l.out.2.1 l.out.2.2.1;go_upto_region 7 with fail;have j:=zD (i:=16) l.out.1 (.string (y9 m'.ram));have h:=zR (a:=⟨pm,16,none⟩) (u:=.string (y9 m'.ram)) l.out.2.2.2.2.1 l.out.2.2.2.2.2.1;have c0:=ownsRow_setCell_other (a:=⟨pm,16,none⟩) l.out.2.2.2.1 (fun e=>l.out.2.2.2.2.2.2.1 (by simpa using e)) (.string (y9 m'.ram));have c1:=l.out.2.2.2.2.2.2.2.2.setCell (p:=⟨pm,16,none⟩) (Jn d.out.2.2.2.2 d.out.2.2.2.1) (.string (y9 m'.ram));generalize W6.setCell ⟨pm,16,none⟩ (.string (y9 m'.ram))=W7 at *;have h4:T W7 pm 12 (M (0)):=zA j (by simp[ep,trK,trI]);have g9:T W7 pm 13 (.slice oa m'.out.length oc):=zA j (by simp[ep,trK,trI]);have g8:T W7 pm 14 (I k):=zA j (by simp[ep,trK,trI]);have g7:T W7 pm 15 (M i):=zA j (by simp[ep,trK,trI]);have g6:T W7 pm 16 (.string (y9 m'.ram)):=zA j (by simp[ep,trK,trI]);have g5:T W7 pm 17 (I (m'.inputs:Int)):=zA j (by simp[ep,trK,trI]);have g4:T W7 pm 18 (I (m'.polls:Int)):=zA j (by simp[ep,trK,trI]);have gl:=lt_of_block j;have x0:=zA (i:=0) h rfl;have x1:=zA (i:=1) h rfl;have x2:=zA (i:=2) h rfl;have x3:=zA (i:=3) h rfl;have x4:=zA (i:=4) h rfl;have x5:=zA (i:=5) h rfl;have x6:=zA (i:=6) h rfl;have xf:∀i,Y W7 (w.heap.size+1+1) i:=fun i=>zE h
   have xl:=lt_of_block h;have m:=Ja (Jb c0 (Jb c1 l.out.2.2.2.2.2.2.2.1));clear e6 d9 d8 l6 b7 j h c0 c1;go_wp2;refine bodyPost_ret (v:=.agg #[M (0),.slice oa m'.out.length oc,I k,M i,.string (y9 m'.ram),I (m'.inputs:Int),I (m'.polls:Int)]) ?_ rfl ?_
   ·rw[zM rfl];go_simp
   ·rw[e5.out];exact⟨.slice oa m'.out.length oc,rfl,kP (ownsRow_setCell_other (a:=⟨w.heap.size+1+1,6,none⟩) (ownsRow_setCell_other (a:=⟨w.heap.size+1+1,5,none⟩) (ownsRow_setCell_other (a:=⟨w.heap.size+1+1,4,none⟩) (ownsRow_setCell_other (a:=⟨w.heap.size+1+1,3,none⟩) (ownsRow_setCell_other (a:=⟨w.heap.size+1+1,2,none⟩) (ownsRow_setCell_other (a:=⟨w.heap.size+1+1,1,none⟩) (ownsRow_setCell_other (a:=⟨w.heap.size+1+1,0,none⟩) m.out.1 (fun e=>m.out.2.2.1 (by simpa using e)) (M (0))) (fun e=>m.out.2.2.1 (by simpa using e)) (.slice oa m'.out.length oc)) (fun e=>m.out.2.2.1 (by simpa using e)) (I k)) (fun e=>m.out.2.2.1 (by simpa using e)) (M i)) (fun e=>m.out.2.2.1 (by simpa using e)) (.string (y9 m'.ram))) (fun e=>m.out.2.2.1 (by simpa using e)) (I (m'.inputs:Int))) (fun e=>m.out.2.2.1 (by simpa using e)) (I (m'.polls:Int))) m.out.2.2.2,(((((((m.out.2.1.setCell (p:=⟨w.heap.size+1+1,0,none⟩) (show w.heap.size<=w.heap.size+1+1 by omega) (M (0))).setCell (p:=⟨w.heap.size+1+1,1,none⟩) (show w.heap.size<=w.heap.size+1+1 by omega) (.slice oa m'.out.length oc)).setCell (p:=⟨w.heap.size+1+1,2,none⟩) (show w.heap.size<=w.heap.size+1+1 by omega) (I k)).setCell (p:=⟨w.heap.size+1+1,3,none⟩) (show w.heap.size<=w.heap.size+1+1 by omega) (M i)).setCell (p:=⟨w.heap.size+1+1,4,none⟩) (show w.heap.size<=w.heap.size+1+1 by omega) (.string (y9 m'.ram))).setCell (p:=⟨w.heap.size+1+1,5,none⟩) (show w.heap.size<=w.heap.size+1+1 by omega) (I (m'.inputs:Int))).setCell (p:=⟨w.heap.size+1+1,6,none⟩) (show w.heap.size<=w.heap.size+1+1 by omega) (I (m'.polls:Int)))⟩
def RgsL (w:World)(R:List Rg)(e:Ending)(w':World):Prop:=∃b,e=.returned (L b 21 21)/\A w' b (R.flatMap xB).toArray 45/\Q w w'
theorem afb{m l m' l':Nat}{f1 a1:Option Addr}(d:3<=c/\c<=17)(hp:ProgIn w w.heap.size ⟨.slice f1 2 2,.slice a1 2 2,U,U⟩ (mg c m l m' l')):
 ∃R:List Rg,R=[zx,zx,pt m,qs 9 zx (pt m),pt l,pt m',qs 9 zx (pt m'),pt l',zx,zx,afv m l,afv m' l',zx,zx,zx,zx,zx,zx,zx,zx,qs c (afv m l) (if c=3∨c=4 then zx else afv m' l')]/\
  O 15 #[.agg #[.slice f1 2 2,.slice a1 2 2,I 0,I (-1),U,U],I 1] w (RgsL w R)/\O 27 #[.agg #[.slice f1 2 2,.slice a1 2 2,I 0,I (-1),U,U],I 1] w (RgsL w R):=by
 have hv:=aff (c:=c) (m:=m) (l:=l) (m':=m') (l':=l') d;have hr:ux (mg c m l m' l') [ahw c m l m' l']=_:=(ahj (n:=1) hv n6 hp.p64 rfl rfl).trans (aeE d);refine⟨_,rfl,?_,?_⟩
 ·refine(ac1 (f:=1) hp (Je _) n6 hv rfl (fun h=>by cases h)).mono ?_;rintro e w' ⟨b,rfl,h1,h2,h3⟩;rw[hr] at h1 ⊢;exact⟨b,rfl,h1,h3⟩
 ·refine(agH (n:=1) hp (bl:=[ahw c m l m' l']) rfl (fun h=>by cases h) hv n6).mono ?_;rintro e w' ⟨ra,rfl,h1,h2⟩;rw[aeE d] at h1 ⊢;obtain⟨b,rfl,h3,_⟩:=h1 (fun h=>by cases h);exact⟨b,rfl,h3,h2⟩
theorem agL (w:World)(x l0 l1 l2 l3 y0 y1:Nat)(hx:x<256)(hl:l0<65536/\l1<65536/\l2<65536/\l3<65536)(hy:y0<65536/\y1<65536):
 O 8 #[.int .u8 (x:Int),.agg #[.int .u16 (l0:Int),.int .u16 (l1:Int),.int .u16 (l2:Int),.int .u16 (l3:Int)],.agg #[.int .u16 (y0:Int),.int .u16 (y1:Int)]] w fun e w'=>e=.returned (.bool true)/\Below w.heap.size w w':=by
 obtain⟨i0,h9,h8,h7⟩:=hl;obtain⟨g9,g8⟩:=hy;obtain⟨c,g0,a4⟩:∃c:Int,3+(x:Int)%15=c/\3<=c/\c<=17:=⟨_,rfl,by omega,by omega⟩
 have e6:Below w.heap.size w ((w.alloc (G #[.int .u16 (l0:Int),.int .u16 (l1:Int),.int .u16 (l2:Int),.int .u16 (l3:Int)] 71)).alloc (G #[.int .u16 (y0:Int),.int .u16 (y1:Int)] 72)):=((Below.refl _ _).alloc (Je _) _).alloc Zs _;go_enter Tryz.func8,Tryz.ntmps8;go_upto_region 1 with fail;obtain⟨t4,d4⟩:∃t,w.heap.size=t:=⟨_,rfl⟩
 generalize hW:World.alloc _ _=X0
 have a0:=Ja (show Below t4 w X0/\A X0 t4 #[.int .u16 (l0:Int),.int .u16 (l1:Int),.int .u16 (l2:Int),.int .u16 (l3:Int)] 71/\A X0 (t4+1) #[.int .u16 (y0:Int),.int .u16 (y1:Int)] 72 from by
  rw[<-hW,<-d4]
  exact⟨e6,zB (zI rfl),zI Zs⟩)
 rw[d4];clear hW e6;go_upto_region 2 with(go_at_call 11;go_must (refine(sanity10 _).mono ?_;rintro e w1 ⟨rfl,b1⟩))
 have H1:=Ja (show Below t4 w w1/\A w1 t4 #[.int .u16 (l0:Int),.int .u16 (l1:Int),.int .u16 (l2:Int),.int .u16 (l3:Int)] 71/\A w1 (t4+1) #[.int .u16 (y0:Int),.int .u16 (y1:Int)] 72 from
  ⟨a0.out.1.trans (b1.mono (by have:=lt_of_block a0.out.2.1;omega)),zH b1 a0.out.2.1 (lt_of_block a0.out.2.1),zH b1 a0.out.2.2 (lt_of_block a0.out.2.2)⟩)
 clear b1 a0;obtain⟨a,ha,c7⟩:∃a:Rg,a=⟨min l0 l1,max l0 l1⟩/\a.ok:=⟨_,rfl,by constructor<;>(dsimp only;omega)⟩
 obtain⟨b,hb,b8⟩:∃b:Rg,b=⟨min l2 l3,max l2 l3⟩/\b.ok:=⟨_,rfl,by constructor<;>(dsimp only;omega)⟩
 have n1:=ahd l0 l1;have n2:=afI l0 l1;have n3:=ahd l2 l3;have n4:=afI l2 l3;rw[show min l0 l1=a.lo by rw[ha]] at n1;rw[show max l0 l1=a.hi by rw[ha]] at n2;rw[show min l2 l3=b.lo by rw[hb]] at n3;rw[show max l2 l3=b.hi by rw[hb]] at n4;clear ha hb;have c0:w1.cell? ⟨t4,0,none⟩=some (.int .u16 (l0:Int)):=zA H1.out.2.1 rfl;have c1:w1.cell? ⟨t4,1,none⟩=some (.int .u16 (l1:Int)):=zA H1.out.2.1 rfl;have c2:w1.cell? ⟨t4,2,none⟩=some (.int .u16 (l2:Int)):=zA H1.out.2.1 rfl;have c3:w1.cell? ⟨t4,3,none⟩=some (.int .u16 (l3:Int)):=zA H1.out.2.1 rfl;have cl:=lt_of_block H1.out.2.1;go_upto_region 3 with fail;have f3:=Ja (fun W=>agy W a4 c7 b8);clear g0;go_upto_region 6 with(go_at_call 28;go_must (refine(f3.out _).mono ?_;rintro e w2 ⟨m,m',f1,a1,hm,rfl,hp,e5⟩;have c5:Below w1.heap.size w1 w2:=Below.trans (show Below w1.heap.size w1 _ from by repeat' (first|exact Below.refl _ _|refine Below.alloc ?_ (by first|exact Je _|(simp;done)|(simp;omega)) _)) (e5.mono (by first|(simp;done)|(simp;omega)));have b2:=Ja (Jb hp c5);clear hp e5 c5))
 obtain⟨c9,a7⟩:∃t,w2.heap.size=t:=⟨_,rfl⟩
 obtain⟨X,hX⟩:∃X,w2.alloc (G #[.slice f1 2 2,.slice a1 2 2,I 0,I (-1),U,U] 29)=X:=⟨_,rfl⟩
 have d:Below w2.heap.size w2 X:=by rw[<-hX];exact(Below.refl _ _).alloc (Je _) _
 have b0:=b2.out.2.trans (d.mono b2.out.2.size);have b4:A X c9 #[.slice f1 2 2,.slice a1 2 2,I 0,I (-1),U,U] 29:=by rw[<-hX];exact zI a7
 have g:=Ja (show Below t4 w X/\A X (t4+1) #[.int .u16 (y0:Int),.int .u16 (y1:Int)] 72/\A X c9 #[.slice f1 2 2,.slice a1 2 2,I 0,I (-1),U,U] 29/\ProgIn X X.heap.size ⟨.slice f1 2 2,.slice a1 2 2,U,U⟩ (mg c m a.lo m' b.lo) from
  ⟨H1.out.1.trans (b0.mono (by have:=lt_of_block H1.out.2.1;omega)),zH b0 H1.out.2.2 (lt_of_block H1.out.2.2),b4,(b2.out.1.below d).mono d.size⟩)
 try rw[hX,a7]
 clear hX a7 d b0 b4 b2 H1 c0 c1 c2 c3 cl n1 n2 n3 n4 f3;obtain⟨R,hR,_,_⟩:=afb a4 g.out.2.2.2
 have c8:=Ja (show ∀W,Below X.heap.size X W->O 15 #[.agg #[.slice f1 2 2,.slice a1 2 2,I 0,I (-1),U,U],I 1] W (RgsL W R)/\O 27 #[.agg #[.slice f1 2 2,.slice a1 2 2,I 0,I (-1),U,U],I 1] W (RgsL W R) from fun W h=>by
  obtain⟨R',f0,h1,h2⟩:=afb a4 ((g.out.2.2.2.below h).mono h.size);rw[<-hR] at f0;subst f0
  exact⟨h1,h2⟩)
 obtain⟨T,hT⟩:∃T,R[20]? =some T:=⟨_,by rw[hR];rfl⟩
 obtain⟨M,hM⟩:∃M,R[10]? =some M:=⟨_,by rw[hR];rfl⟩
 have e8:T=qs c (afv m a.lo) (if c=3∨c=4 then zx else afv m' b.lo):=by rw[hR] at hT;exact(Nt hT).symm
 have HT:=Ja (Jb hT (Jb hM e8));clear hT hM e8 hR;have x0:=zA (i:=0) g.out.2.2.1 rfl;have x1:=zA (i:=1) g.out.2.2.1 rfl;have x2:=zA (i:=2) g.out.2.2.1 rfl;have x3:=zA (i:=3) g.out.2.2.1 rfl;have x4:=zA (i:=4) g.out.2.2.1 rfl;have x5:=zA (i:=5) g.out.2.2.1 rfl;have xl:=lt_of_block g.out.2.2.1;go_upto_region 7 with(go_at_call 15;go_must (refine(c8.out _ (Below.refl _ _)).1.mono ?_;rintro e w3 ⟨b5,rfl,h5,c4⟩))
 have H3:=Ja (Jb h5 c4);have y:=zH c4 g.out.2.2.1 xl;clear h5 c4 x0 x1 x2 x3 x4 x5 xl;have x0:=zA (i:=0) y rfl;have x1:=zA (i:=1) y rfl;have x2:=zA (i:=2) y rfl;have x3:=zA (i:=3) y rfl;have x4:=zA (i:=4) y rfl;have x5:=zA (i:=5) y rfl;have xl:=lt_of_block y;go_upto_region 8 with(go_at_call 27;go_must (refine(c8.out _ H3.out.2).2.mono ?_;rintro e w4 ⟨b6,rfl,h6,b9⟩))
 clear x0 x1 x2 x3 x4 x5 xl y;have h5:=zH b9 H3.out.1 (lt_of_block H3.out.1);have e7:=H3.out.2.trans (b9.mono H3.out.2.size);have H4:=Ja (Jb h5 (Jb h6 e7));clear b9 e7 h5 h6 c8
 have cr:∀(W:World) (bb:Nat),A W bb (R.flatMap xB).toArray 45->(W.cell? ⟨bb,40,none⟩=some (.int .u16 (T.lo:Int))/\W.cell? ⟨bb,41,none⟩=some (.int .u16 (T.hi:Int)))/\W.cell? ⟨bb,20,none⟩=some (.int .u16 (M.lo:Int))/\W.cell? ⟨bb,21,none⟩=some (.int .u16 (M.hi:Int)):=fun W bb h=>
  ⟨⟨oW (f:=xB) (n:=2) (fun _=>rfl) h HT.out.1 (j:=0) rfl,oW (f:=xB) (n:=2) (fun _=>rfl) h HT.out.1 (j:=1) rfl⟩,oW (f:=xB) (n:=2) (fun _=>rfl) h HT.out.2.1 (j:=0) rfl,oW (f:=xB) (n:=2) (fun _=>rfl) h HT.out.2.1 (j:=1) rfl⟩
 have g7:=Ja cr;obtain⟨⟨r0,r1⟩,r2,r3⟩:=cr w4 b5 H4.out.1;obtain⟨⟨q0,q1⟩,q2,q3⟩:=cr w4 b6 H4.out.2.1;have rl:=lt_of_block H4.out.1;have ql:=lt_of_block H4.out.2.1;clear cr
 have g6:=Ja (show ∀u v:Nat,u<65536->v<65536->(bQ ⟨mg c m a.lo m' b.lo,[],[]⟩ 1 [u,v] ⟨#[]⟩ 100).kind=6->T.has (bQ ⟨mg c m a.lo m' b.lo,[],[]⟩ 1 [u,v] ⟨#[]⟩ 100).value from fun u v hu hv hk=>by
  rw[HT.out.2.2]
  exact msk_law a4 ⟨hm.1,by have:=c7.1;have:=c7.2;omega,hm.2,by have:=b8.1;have:=b8.2;omega⟩ hu hv hk)
 have a3:=aff (c:=c) (m:=m) (l:=a.lo) (m':=m') (l':=b.lo) a4
 have d7:OkProg (mg c m a.lo m' b.lo):=jM a3 (fun bl hbl bx hbx=>by
  have:=((n6 bl hbl).2 bx hbx).1;simp only[mg,Jq,List.not_mem_nil,or_false] at hbl;rcases hbl with rfl|rfl
  ·simp only[ag4,Jo] at hbx;subst hbx;exact Zd
  ·simp only[Jo] at hbx;subst hbx;exact(by show(2:Nat)<=_;decide))
 have d3:UseProg (mg c m a.lo m' b.lo):=aM a3 n6
 have HQ:=Ja (show ∀W bk (u v:Nat),u<65536->v<65536->Below X.heap.size X W->A W bk #[.int .u16 (u:Int),.int .u16 (v:Int)] 43->∃(qv qk qi qn qp:Nat) (S:ByteArray),(qk=6->T.has qv)/\O 20 #[.agg #[.slice f1 2 2,.slice a1 2 2,I 0,I (-1),U,U],I 1,L bk 2 2,.string ⟨#[]⟩,.agg #[U,U],I 100] W (fun e w'=>∃(oa:Option Addr) (on oc:Nat),e=.returned (.agg #[.int .u16 (qv:Int),.slice oa on oc,I qk,.int .u16 (qi:Int),.string S,I qn,I qp])/\Below W.heap.size W w') from fun W bk u v hu hv hb hk=>by
  have:=lt_of_block hk;have hq:=quick_q ((g.out.2.2.2.below hb).mono hb.size) d7 d3 1 ⟨by decide,by show(1:Nat)<2;decide⟩ (yN.two Zo ⟨zA hk rfl,hu⟩ ⟨zA hk rfl,hv⟩) rfl ⟨#[]⟩ Zd yN.nil yN.nil 100 Zd;have d8:=g6.out u v hu hv;obtain⟨Q,hQ⟩:∃Q,bQ ⟨mg c m a.lo m' b.lo,[],[]⟩ 1 [u,v] ⟨#[]⟩ 100=Q:=⟨_,rfl⟩
  rw[hQ] at hq d8;refine⟨Q.value,Q.kind,Q.info,Q.inputs,Q.polls,y9 Q.ram,d8,hq.mono ?_⟩;rintro e w' ⟨ov,rfl,ho,g4⟩;obtain⟨oa,oc,rfl,_⟩:=ho.form
  exact⟨oa,_,oc,rfl,g4⟩)
 clear a3 d7 d3;go_quiet (fail);generalize hy:w4.drewN _=w5;have H5:=Ja (show A w5 b5 (R.flatMap xB).toArray 45/\Below X.heap.size X w5 from by rw[<-hy];exact⟨H4.out.1,yC H4.out.2.2⟩);clear hy r0 r1 r2 r3 q0 q1 q2 q3 rl ql H4 H3;go_wp2
 go_loopw [14] (fun kv wx=>∃k:Nat,k<=4/\kv=.int .u16 (k:Int)/\Hid (Below w5.heap.size w5 wx)) (fun kv _=>4-(intOf kv).toNat)
 case atStart=>exact⟨0,by decide,rfl,Ja (Below.refl _ _)⟩
 case round=>
  obtain⟨k,hk,rfl,HK⟩:=hrel;have d:=H5.out.2.trans (HK.out.mono H5.out.2.size)
  by_cases b7:k<4
  ·have f4:(k:Int)<4:=Zo;obtain⟨u,hu⟩:∃u,(y0*(k+1))%65536=u:=⟨_,rfl⟩
   obtain⟨v,hv⟩:∃v,(y1+k*13)%65536=v:=⟨_,rfl⟩
   have f9:u<65536:=Zo;have a3:v<65536:=Zo;have e1:IntKind.u16.wrap ((k:Int)+1)=(k:Int)+1:=by rw[xY];omega
   have e2:IntKind.u16.wrap ((y0:Int)*((k:Int)+1))=(u:Int):=by
    rw[xY,<-hu,show(y0:Int)*((k:Int)+1)=((y0*(k+1):Nat):Int) by rw[Int.natCast_mul];rfl];omega
   have e3:IntKind.u16.wrap ((k:Int)*13)=(k:Int)*13:=by rw[xY];omega
   have e4:IntKind.u16.wrap ((y1:Int)+(k:Int)*13)=(v:Int):=by rw[xY,<-hv];omega
   have o:=zH d g.out.2.2.1 (lt_of_block g.out.2.2.1);have q:=zH d g.out.2.1 (lt_of_block g.out.2.1);have x0:=zA (i:=0) o rfl;have x1:=zA (i:=1) o rfl;have x2:=zA (i:=2) o rfl;have x3:=zA (i:=3) o rfl;have x4:=zA (i:=4) o rfl;have x5:=zA (i:=5) o rfl;have xl:=lt_of_block o;have f6:wr.cell? ⟨t4+1,0,none⟩=some (.int .u16 (y0:Int)):=zA q rfl;have f5:wr.cell? ⟨t4+1,1,none⟩=some (.int .u16 (y1:Int)):=zA q rfl;have yl:=lt_of_block q;obtain⟨qv,qk,qi,qn,qp,S,d5,d6⟩:=HQ.out (wr.alloc (G #[.int .u16 (u:Int),.int .u16 (v:Int)] 43)) wr.heap.size u v f9 a3 (d.alloc d.size _) (zI rfl);have f2:=Ja d6;have g5:=Ja d5;have b3:=Ja b7;clear hu hv o q b7 d6 d5;have h4:=d.size;have g3:=HK.out;have j1:=Ja d;clear d;go_upto_region 14 with(go_at_call 20;go_must (refine f2.out.mono ?_;rintro e w6 ⟨oa,on,oc,rfl,e0⟩;have H6:=Ja (show Below wr.heap.size wr w6 from Below.trans ((Below.refl _ _).alloc (Je _) _) (e0.mono Zs));clear e0))
   clear x0 x1 x2 x3 x4 x5 xl f6 f5 yl e1 e2 e3 e4;obtain⟨V,hV⟩:∃V,w6.alloc (G #[.int .u16 (qv:Int),.slice oa on oc,I qk,.int .u16 (qi:Int),.string S,I qn,I qp] 57)=V:=⟨_,rfl⟩
   obtain⟨f8,a6⟩:∃t,w6.heap.size=t:=⟨_,rfl⟩
   have a2:A V f8 #[.int .u16 (qv:Int),.slice oa on oc,I qk,.int .u16 (qi:Int),.string S,I qn,I qp] 57:=by rw[<-hV];exact zI a6
   have d9:Below wr.heap.size wr V:=by rw[<-hV];exact H6.out.alloc H6.out.size _
   try rw[hV,a6]
   have s0:=zA (i:=0) a2 rfl;have s2:=zA (i:=2) a2 rfl;have sl:=lt_of_block a2;have a5:=HK.out.trans (d9.mono HK.out.size);have q:=zH a5 H5.out.1 (lt_of_block H5.out.1);obtain⟨⟨r0,r1⟩,_,_⟩:=g7.out V b5 q;have rl:=lt_of_block q;have HV:=Ja a5;clear hV a6 a2 d9 q a5 f2 H6 g3
   by_cases h6:qk=6
   ·obtain⟨g1,g2⟩:=g5.out h6;have d0:((qk:Int)==6)=true:=by rw[beq_iff_eq];omega
    have d1:decide ((qv:Int)<(T.lo:Int))=false:=decide_eq_false Zo;have i2:decide (qv<T.lo)=false:=decide_eq_false Zo;have d2:decide ((T.hi:Int)<(qv:Int))=false:=decide_eq_false Zo;have i1:decide (T.hi<qv)=false:=decide_eq_false Zo;clear h6 g1 g2;go_quiet (fail);go_wp2;go_roundw
    case rel=>exact⟨k+1,b3.out,by go_num,Ja (yC HV.out)⟩
    case measure=>have:=b3.out;simp[intOf];omega
   ·have d0:((qk:Int)==6)=false:=Ze;clear h6;go_quiet (fail);go_wp2;go_roundw
    case rel=>exact⟨k+1,b3.out,by go_num,Ja (yC HV.out)⟩
    case measure=>have:=b3.out;simp[intOf];omega
  ·obtain rfl:k=4:=by omega
   have f4:¬((4:Nat):Int)<4:=Zo;have hw:=g.out.1.trans (d.mono (by have:=lt_of_block g.out.2.2.1;have:=lt_of_block g.out.2.1;omega));clear b7 d;go_wp2;go_ret;exact⟨rfl,hw⟩
end Go.Proofs.YtoahcpkibpomcaaGreat
