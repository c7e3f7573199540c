/- Part of a proof. -/
import Derived.Test.YtojclalkfhoooaaGIFun
import Derived.Carry
set_option linter.unusedSimpArgs false
set_option linter.unusedVariables false
set_option maxHeartbeats 8000000
set_option maxRecDepth 100000
namespace Go.Proofs.Ytojclalkfhoooaa
open Go.RowKit
theorem jT {g:List (List Nat)}(hv:zw g)(h:g.length<=9000000):∀x∈wQ g,I64 x:=by
 intro x hx
 unfold wQ at hx
 obtain⟨c,hc,rfl⟩:=List.mem_map.1 hx
 rcases idomOf hv c with⟨h1,_⟩|⟨c',h1,_,h3,_⟩
 ·rw[h1];exact⟨by omega,by omega⟩
 ·have:=(pn hv h3).1
  rw[h1];exact⟨by omega,by omega⟩
theorem lp {α:Type}:∀l:List α,l=[]∨∃a m,l=a::m
 | []=> .inl rfl
 |a::m=> .inr ⟨a,m,rfl⟩
theorem nA {w:World}{B:Nat}{V:PV}{p:IProg}(hp:ProgIn w B V p)(hB:B<=w.heap.size)(hl:p.args.length=p.funcs.length)(ha:p.args.all tX=true)(hs:∀f∈p.funcs,vZ f){n:Nat}(hn:n<p.funcs.length):
 Calls Try.prog 47 #[yH V p,.int .i64 (n:Int)] w (ym w (yi p n)):=by
 have HP:=Lib.hid (show ProgIn w B V p/\B<=w.heap.size/\p.args.length=p.funcs.length/\p.args.all tX=true/\∀f∈p.funcs,vZ f from⟨hp,hB,hl,ha,hs⟩)
 have hmm:=@run_makeMap Try.prog
 obtain⟨Vf,Va,Vd,Vb⟩:=V
 obtain⟨f1,f2,e1,hfc,hfm⟩:=hp.funcs.form
 have hpf:=hp.funcs
 have hpa:=hp.args
 obtain⟨a1,a2,e2,hac,ham⟩:=hp.args.form
 obtain⟨d1,d2,e3,hdc,hdm⟩:=hp.data.form
 obtain⟨b1,b2,e4,hbc,hbm⟩:=hp.banks.form
 simp only at e1 e2 e3 e4 hpf hpa
 subst e1 e2 e3 e4
 have hfl:p.funcs.length<=9223372036854775807:=by omega
 have hal:p.args.length<=9223372036854775807:=by omega
 obtain⟨blocks,hbk⟩:∃bl,p.funcs[n]? =some bl:=⟨_,List.getElem?_eq_getElem hn⟩
 obtain⟨x,hx⟩:∃x,p.args[n]? =some x:=⟨_,List.getElem?_eq_getElem (by omega)⟩
 obtain⟨fb,fo,rfl,hfb,bv,hfc1,hbl⟩:=hpf.get hbk
 obtain⟨ab,ao,rfl,hab,hac1,hx64⟩:=hpa.get hx
 rw[Nat.mul_one] at hfc1 hac1
 obtain⟨ba,bc,rfl,hbac,hbam⟩:=hbl.form
 have hbll:blocks.length<=9223372036854775807:=by omega
 unfold yH
 simp only
 obtain⟨res,hres⟩:∃x,yi p n=x:=⟨_,rfl⟩
 rw[hres]
 have HRES:=Lib.hid hres
 have HBL:=Lib.hid (show p.funcs[n]? =some blocks/\wX w B (.slice ba blocks.length bc) blocks/\vZ blocks/\p.args[n]? =some x from⟨hbk,hbl,hs _ (List.mem_of_getElem? hbk),hx⟩)
 have hbP:Below w.heap.size w (w.alloc (.cells #[.slice (some ⟨fb,fo,none⟩) p.funcs.length f2,.slice (some ⟨ab,ao,none⟩) p.args.length a2,.int .i64 p.entry,.int .i64 p.handler,.slice d1 p.data.length d2,.slice b1 p.banks.length b2] 29)):=(Below.refl _ _).alloc (Nat.le_refl _) _
 have cf:=zV hbP (Nat.lt_of_lt_of_le hfb hB) hfc1
 have hnI:(n:Int)<p.funcs.length:=by omega
 have hnA:(n:Int)<p.args.length:=by omega
 have HAC:=Lib.hid (show ab<B/\w.cell? ⟨ab,ao+n,none⟩=some (.int .i64 x) from⟨hab,hac1⟩)
 have hxP:(w.alloc (.cells #[.slice (some ⟨fb,fo,none⟩) p.funcs.length f2,.slice (some ⟨ab,ao,none⟩) p.args.length a2,.int .i64 p.entry,.int .i64 p.handler,.slice d1 p.data.length d2,.slice b1 p.banks.length b2] 29)).heap[w.heap.size]? =some (.cells #[.slice (some ⟨fb,fo,none⟩) p.funcs.length f2,.slice (some ⟨ab,ao,none⟩) p.args.length a2,.int .i64 p.entry,.int .i64 p.handler,.slice d1 p.data.length d2,.slice b1 p.banks.length b2] 29 (0,0)):=zI rfl
 have hsP:(w.alloc (.cells #[.slice (some ⟨fb,fo,none⟩) p.funcs.length f2,.slice (some ⟨ab,ao,none⟩) p.args.length a2,.int .i64 p.entry,.int .i64 p.handler,.slice d1 p.data.length d2,.slice b1 p.banks.length b2] 29)).heap.size=w.heap.size+1:=by simp
 clear hp hpf hpa hB hl ha hs hn hfc hfm hac ham hdc hdm hbc hbm hbk hx hres hbl hbac hbam hfc1 hac1 hfb hab
 go_enter Try.func47,Try.ntmps47
 go_upto_region 1 with fail
 generalize hWP:w.alloc (.cells #[.slice (some ⟨fb,fo,none⟩) p.funcs.length f2,.slice (some ⟨ab,ao,none⟩) p.args.length a2,.int .i64 p.entry,.int .i64 p.handler,.slice d1 p.data.length d2,.slice b1 p.banks.length b2] 29)=WP at *
 have p0:WP.cell? ⟨w.heap.size,0,none⟩=some (.slice (some ⟨fb,fo,none⟩) p.funcs.length f2):=zA hxP (by simp)
 have hbF:Below w.heap.size w (WP.alloc (.cells #[.slice ba blocks.length bc] 43)):=hbP.alloc (by omega) _
 have hxP2:=zB (o:=.cells #[.slice ba blocks.length bc] 43) hxP
 have hxF:(WP.alloc (.cells #[.slice ba blocks.length bc] 43)).heap[w.heap.size+1]? =some (.cells #[.slice ba blocks.length bc] 43 (0,0)):=zI hsP
 have hsF:(WP.alloc (.cells #[.slice ba blocks.length bc] 43)).heap.size=w.heap.size+2:=by simp[hsP]
 clear hWP hbP hxP
 go_upto_region 2 with fail
 generalize hWF:WP.alloc (.cells #[.slice ba blocks.length bc] 43)=WF at *
 have q0:WF.cell? ⟨w.heap.size+1,0,none⟩=some (.slice ba blocks.length bc):=zA hxF (by simp)
 clear hWF hsP p0 cf
 have HF0:=Lib.hid (show Below w.heap.size w WF from hbF)
 clear hbF
 rcases lp blocks with hbe|⟨b0,bs,hbe⟩
 ·have hr:res=true:=by rw[<-HRES.out];unfold yi;rw[List.getD_eq_getElem?_getD,HBL.out.1,hbe];rfl
  have t0:((blocks.length:Int)==0)=true:=by rw[hbe];rfl
  clear hbe
  go_wp2
  go_ret
  exact⟨uz hr,HF0.out⟩
 ·have t0:((blocks.length:Int)==0)=false:=by rw[beq_eq_false_iff_ne,hbe,List.length_cons];omega
  have HBE:=Lib.hid hbe
  have hpos:(0:Int)<blocks.length:=by rw[hbe,List.length_cons];omega
  have h0:blocks[0]? =some b0:=by rw[hbe];rfl
  obtain⟨kb,ko,rfl,hkb,_,_,_,pv,ov,tv,hp0,_,_,hpi,_,_⟩:=HBL.out.2.1.get h0
  obtain⟨pa,pc,rfl,hpc,hpm⟩:=hpi.form
  have hpl0:b0.params.length<=9223372036854775807:=by omega
  have HP0:=Lib.hid (And.intro hkb hp0)
  clear hbe h0 hkb hp0 hpi hpc hpm
  have p0:WF.cell? ⟨w.heap.size,0,none⟩=some (.slice (some ⟨fb,fo,none⟩) p.funcs.length f2):=zA hxP2 (by simp)
  have p1:WF.cell? ⟨w.heap.size,1,none⟩=some (.slice (some ⟨ab,ao,none⟩) p.args.length a2):=zA hxP2 (by simp)
  have p2:WF.cell? ⟨w.heap.size,2,none⟩=some (.int .i64 p.entry):=zA hxP2 (by simp)
  have p3:WF.cell? ⟨w.heap.size,3,none⟩=some (.int .i64 p.handler):=zA hxP2 (by simp)
  have p4:WF.cell? ⟨w.heap.size,4,none⟩=some (.slice d1 p.data.length d2):=zA hxP2 (by simp)
  have p5:WF.cell? ⟨w.heap.size,5,none⟩=some (.slice b1 p.banks.length b2):=zA hxP2 (by simp)
  go_upto_region 5 with fail
  have hC2:(((WF.alloc (.map #[] 0)).alloc (.map #[] 0)).alloc (.cells #[.slice (some ⟨fb,fo,none⟩) p.funcs.length f2,.slice (some ⟨ab,ao,none⟩) p.args.length a2,.int .i64 p.entry,.int .i64 p.handler,.slice d1 p.data.length d2,.slice b1 p.banks.length b2,.slice (some ⟨kb,ko,none⟩) blocks.length bc,.map (some (w.heap.size+2)),.map (some (w.heap.size+2+1)),.slice none 0 0] 128)).heap[w.heap.size+2+1+1]? =some (.cells #[.slice (some ⟨fb,fo,none⟩) p.funcs.length f2,.slice (some ⟨ab,ao,none⟩) p.args.length a2,.int .i64 p.entry,.int .i64 p.handler,.slice d1 p.data.length d2,.slice b1 p.banks.length b2,.slice (some ⟨kb,ko,none⟩) blocks.length bc,.map (some (w.heap.size+2)),.map (some (w.heap.size+2+1)),.slice none 0 0] 128 (0,0)):=zI (by simp[hsF])
  have hm1:(((WF.alloc (.map #[] 0)).alloc (.map #[] 0)).alloc (.cells #[.slice (some ⟨fb,fo,none⟩) p.funcs.length f2,.slice (some ⟨ab,ao,none⟩) p.args.length a2,.int .i64 p.entry,.int .i64 p.handler,.slice d1 p.data.length d2,.slice b1 p.banks.length b2,.slice (some ⟨kb,ko,none⟩) blocks.length bc,.map (some (w.heap.size+2)),.map (some (w.heap.size+2+1)),.slice none 0 0] 128)).heap[w.heap.size+2]? =some (.map #[] 0):=zB (zB (zI hsF))
  have hm2:(((WF.alloc (.map #[] 0)).alloc (.map #[] 0)).alloc (.cells #[.slice (some ⟨fb,fo,none⟩) p.funcs.length f2,.slice (some ⟨ab,ao,none⟩) p.args.length a2,.int .i64 p.entry,.int .i64 p.handler,.slice d1 p.data.length d2,.slice b1 p.banks.length b2,.slice (some ⟨kb,ko,none⟩) blocks.length bc,.map (some (w.heap.size+2)),.map (some (w.heap.size+2+1)),.slice none 0 0] 128)).heap[w.heap.size+2+1]? =some (.map #[] 0):=zB (zI (by simp[hsF]))
  have hb2:Below w.heap.size w (((WF.alloc (.map #[] 0)).alloc (.map #[] 0)).alloc (.cells #[.slice (some ⟨fb,fo,none⟩) p.funcs.length f2,.slice (some ⟨ab,ao,none⟩) p.args.length a2,.int .i64 p.entry,.int .i64 p.handler,.slice d1 p.data.length d2,.slice b1 p.banks.length b2,.slice (some ⟨kb,ko,none⟩) blocks.length bc,.map (some (w.heap.size+2)),.map (some (w.heap.size+2+1)),.slice none 0 0] 128)):=((HF0.out.alloc (by omega) _).alloc (by simp;omega) _).alloc (by simp;omega) _
  have hx2:(((WF.alloc (.map #[] 0)).alloc (.map #[] 0)).alloc (.cells #[.slice (some ⟨fb,fo,none⟩) p.funcs.length f2,.slice (some ⟨ab,ao,none⟩) p.args.length a2,.int .i64 p.entry,.int .i64 p.handler,.slice d1 p.data.length d2,.slice b1 p.banks.length b2,.slice (some ⟨kb,ko,none⟩) blocks.length bc,.map (some (w.heap.size+2)),.map (some (w.heap.size+2+1)),.slice none 0 0] 128)).heap[w.heap.size]? =some (.cells #[.slice (some ⟨fb,fo,none⟩) p.funcs.length f2,.slice (some ⟨ab,ao,none⟩) p.args.length a2,.int .i64 p.entry,.int .i64 p.handler,.slice d1 p.data.length d2,.slice b1 p.banks.length b2] 29 (0,0)):=zB (zB (zB hxP2))
  have hf2:(((WF.alloc (.map #[] 0)).alloc (.map #[] 0)).alloc (.cells #[.slice (some ⟨fb,fo,none⟩) p.funcs.length f2,.slice (some ⟨ab,ao,none⟩) p.args.length a2,.int .i64 p.entry,.int .i64 p.handler,.slice d1 p.data.length d2,.slice b1 p.banks.length b2,.slice (some ⟨kb,ko,none⟩) blocks.length bc,.map (some (w.heap.size+2)),.map (some (w.heap.size+2+1)),.slice none 0 0] 128)).heap[w.heap.size+1]? =some (.cells #[.slice (some ⟨kb,ko,none⟩) blocks.length bc] 43 (0,0)):=zB (zB (zB hxF))
  have hs2:(((WF.alloc (.map #[] 0)).alloc (.map #[] 0)).alloc (.cells #[.slice (some ⟨fb,fo,none⟩) p.funcs.length f2,.slice (some ⟨ab,ao,none⟩) p.args.length a2,.int .i64 p.entry,.int .i64 p.handler,.slice d1 p.data.length d2,.slice b1 p.banks.length b2,.slice (some ⟨kb,ko,none⟩) blocks.length bc,.map (some (w.heap.size+2)),.map (some (w.heap.size+2+1)),.slice none 0 0] 128)).heap.size=w.heap.size+2+1+1+1:=by simp[hsF]
  generalize hW2:((WF.alloc (.map #[] 0)).alloc (.map #[] 0)).alloc (.cells #[.slice (some ⟨fb,fo,none⟩) p.funcs.length f2,.slice (some ⟨ab,ao,none⟩) p.args.length a2,.int .i64 p.entry,.int .i64 p.handler,.slice d1 p.data.length d2,.slice b1 p.banks.length b2,.slice (some ⟨kb,ko,none⟩) blocks.length bc,.map (some (w.heap.size+2)),.map (some (w.heap.size+2+1)),.slice none 0 0] 128)=W2 at *
  generalize hCe:w.heap.size+2+1+1=C at *
  generalize hm2e:w.heap.size+2+1=m2 at *
  generalize hm1e:w.heap.size+2=m1 at *
  have hchk:ChkAt W2 C m1 m2 (rC ⟨.slice (some ⟨fb,fo,none⟩) p.funcs.length f2,.slice (some ⟨ab,ao,none⟩) p.args.length a2,.slice d1 p.data.length d2,.slice b1 p.banks.length b2⟩ p) (.slice (some ⟨kb,ko,none⟩) blocks.length bc) (.slice none 0 0) 0 sy:=ChkAt.made hC2 rfl hm1 hm2 (by omega)
  have HCHK:=Lib.hid hchk
  have H2:=Lib.hid (show Below w.heap.size w W2/\W2.heap[w.heap.size+1]? =some (.cells #[.slice (some ⟨kb,ko,none⟩) blocks.length bc] 43 (0,0))/\W2.heap.size=C+1/\w.heap.size+2=m1/\m1+1=m2/\m2+1=C from⟨hb2,hf2,hs2,by omega,by omega,by omega⟩)
  have c0:W2.cell? ⟨w.heap.size+1,0,none⟩=some (.slice (some ⟨kb,ko,none⟩) blocks.length bc):=zA hf2 (by simp)
  have c1:W2.cell? ⟨w.heap.size,1,none⟩=some (.slice (some ⟨ab,ao,none⟩) p.args.length a2):=zA hx2 (by simp)
  have c2:W2.cell? ⟨kb,ko,none⟩=some (.slice pa b0.params.length pc):=by have:=zV (hb2.mono HP.out.2.1) HP0.out.1 HP0.out.2;simpa using this
  have c3:W2.cell? ⟨ab,ao+n,none⟩=some (.int .i64 x):=zV (hb2.mono HP.out.2.1) HAC.out.1 HAC.out.2
  obtain⟨qe,hqe⟩:∃q,decide ((b0.params.length:Int)=x)=q:=⟨_,rfl⟩
  have t1:((b0.params.length:Int) !=x)=!qe:=by rw[bne,zf hqe]
  have hgetd:p.args.getD n 0=x:=by rw[List.getD_eq_getElem?_getD,HBL.out.2.2.2];rfl
  have hfd:yi p n=(qe && ((wg p blocks).map (iM blocks)).getD false):=by
   unfold yi
   rw[List.getD_eq_getElem?_getD,HBL.out.1,Option.getD_some,HBE.out]
   simp only
   rw[hgetd,hqe]
  rw[HRES.out] at hfd
  have HFD:=Lib.hid hfd
  clear hW2 hCe hm2e hm1e hchk hb2 hC2 hm1 hm2 hx2 hf2 hs2 hxP2 hxF hsF q0 p0 p1 p2 p3 p4 p5 hqe hgetd hfd
  cases qe with
  |false=>
   go_quiet (fail)
   go_wp2
   go_ret
   exact⟨uz HFD.out,yC H2.out.1⟩
  |true=>
   have hbd:Below w.heap.size w W2.drew:=H2.out.1.drew
   have hbB:=hbd.mono HP.out.2.1
   have hsh:=lM (HP.out.1.below hbB) (HBL.out.2.1.below yT hbB) (Nat.le_trans HP.out.2.1 hbd.size) (by have:=HP.out.2.1;have:=H2.out.2.2.2;omega) (by have:=HP.out.2.1;have:=H2.out.2.2.2;omega) HP.out.2.2.1 HBL.out.2.2.1 (HCHK.out.below ((Below.refl W2.heap.size W2).drew))
   have HSH:=Lib.hid hsh
   have HBD:=Lib.hid hbd
   clear hsh hbd hbB
   obtain⟨r,hr⟩:∃r,wg p blocks=r:=⟨_,rfl⟩
   rw[hr] at HSH HFD
   have HR:=Lib.hid hr
   clear hr
   cases r with
   |none=>
    refine zt 14 (by kernel_rfl) (by kernel_rfl) ?_
    simp only[List.take_succ_cons,List.take_zero,List.drop_succ_cons,List.drop_zero]
    repeat (go_big_quiet_step (fail))
    refine wpQuiet_nil ?_
    go_wp2_with (first|(go_at_call 66;go_must (refine HSH.out.mono ?_;rintro e w3 ⟨rfl,hk3,_⟩))|go_in)
    go_ret
    exact⟨uz HFD.out,HBD.out.trans (hk3.below (by have:=H2.out.2.2.2;omega) (by have:=H2.out.2.2.2;omega) HBD.out.size)⟩
   |some d=>
    refine zt 14 (by kernel_rfl) (by kernel_rfl) ?_
    simp only[List.take_succ_cons,List.take_zero,List.drop_succ_cons,List.drop_zero]
    repeat (go_big_quiet_step (fail))
    refine wpQuiet_nil ?_
    go_upto_region 7 with(first|(go_at_call 66;go_must (refine HSH.out.mono ?_;rintro e w3 ⟨rfl,hk3,hd3⟩))|go_in)
    obtain⟨N,hN,hchk⟩:=hd3 d rfl
    have hb3:=HBD.out.trans (hk3.below (by have:=H2.out.2.2.2;omega) (by have:=H2.out.2.2.2;omega) HBD.out.size)
    have hf3:=hk3.blk (b:=w.heap.size+1) H2.out.2.1 (by have:=H2.out.2.2.2;omega) (by have:=H2.out.2.2.2;omega)
    have hterm:∀b∈blocks,(∀o∈b.ops,opF p o=true)/\wn blocks b.term=true:=rV blocks 0 sy d (by rw[<-wS];exact HR.out)
    have hsz3:C<w3.heap.size:=lt_of_block hchk.blk
    have hgr:=ox (HBL.out.2.1.below yT (hb3.mono HP.out.2.1)) (Nat.le_trans HP.out.2.1 hb3.size) ⟨HBL.out.2.2.1.1,fun b hb=>(HBL.out.2.2.1.2 b hb).2.2⟩
    have HG:=Lib.hid hgr
    have H3:=Lib.hid (show Below w.heap.size w w3/\w3.heap[w.heap.size+1]? =some (.cells #[.slice (some ⟨kb,ko,none⟩) blocks.length bc] 43 (0,0))/\ChkAt w3 C m1 m2 (rC ⟨.slice (some ⟨fb,fo,none⟩) p.funcs.length f2,.slice (some ⟨ab,ao,none⟩) p.args.length a2,.slice d1 p.data.length d2,.slice b1 p.banks.length b2⟩ p) (.slice (some ⟨kb,ko,none⟩) blocks.length bc) (.slice none 0 0) N d/\(∀b∈blocks,(∀o∈b.ops,opF p o=true)/\wn blocks b.term=true)/\C<w3.heap.size/\blocks≠ [] from⟨hb3,hf3,hchk,hterm,hsz3,by rw[HBE.out];simp⟩)
    have u0:w3.cell? ⟨w.heap.size+1,0,none⟩=some (.slice (some ⟨kb,ko,none⟩) blocks.length bc):=zA hf3 (by simp)
    clear hk3 hd3 hN hchk hb3 hf3 hterm hsz3 hgr c0 c1 c2 c3 t1
    have hgil:(zk blocks).length=blocks.length:=by unfold zk;simp
    clear hgil
    go_upto_region 8 with(first|(go_at_call 38;go_must (refine HG.out.mono ?_;rintro e w4 ⟨gb,rfl,hrows,hgb,hb4⟩))|go_in)
    have hgl:(zk blocks).length=blocks.length:=by unfold zk;simp
    have hb45:=(Below.refl w4.heap.size w4).alloc (Nat.le_refl _) (.cells #[.slice (some ⟨gb,0,none⟩) (zk blocks).length (zk blocks).length] 93)
    have hr5:=hrows.below hb45
    have hb35:=hb4.trans (hb45.mono hb4.size)
    have hb5:Below w.heap.size w (w4.alloc (.cells #[.slice (some ⟨gb,0,none⟩) (zk blocks).length (zk blocks).length] 93)):=H3.out.1.trans (hb35.mono H3.out.1.size)
    have hf5:=zH hb35 H3.out.2.1 (lt_of_block H3.out.2.1)
    have hchk5:=H3.out.2.2.1.below hb35
    have hg5:(w4.alloc (.cells #[.slice (some ⟨gb,0,none⟩) (zk blocks).length (zk blocks).length] 93)).heap[w4.heap.size]? =some (.cells #[.slice (some ⟨gb,0,none⟩) (zk blocks).length (zk blocks).length] 93 (0,0)):=zI rfl
    have hlt4:C<w4.heap.size:=Nat.lt_of_lt_of_le H3.out.2.2.2.2.1 hb4.size
    have hlt3:=H3.out.2.2.2.2.1
    generalize hW5:w4.alloc (.cells #[.slice (some ⟨gb,0,none⟩) (zk blocks).length (zk blocks).length] 93)=W5 at *
    generalize hg4:w4.heap.size=g4 at *
    generalize hgle:(zk blocks).length=gl at *
    have hfacts:∀W:World,OwnRows zN 3 22 W w3.heap.size gb (zk blocks)->GraphIn W (.slice (some ⟨gb,0,none⟩) gl gl) (zy blocks):=fun W hW=>by
     have:=hW.asRows (Nat.le_refl _)
     rw[hgle] at this
     exact graph_in HBL.out.2.2.1 H3.out.2.2.2.2.2 (fun b hb=>(H3.out.2.2.2.1 b hb).2) this
    have HFA:=Lib.hid (show(∀W:World,OwnRows zN 3 22 W w3.heap.size gb (zk blocks)->GraphIn W (.slice (some ⟨gb,0,none⟩) gl gl) (zy blocks))/\OwnRows zN 3 22 W5 w3.heap.size gb (zk blocks)/\w3.heap.size<=gb from⟨hfacts,hr5,hgb⟩)
    have HGI:=Lib.hid (hfacts _ hr5)
    have H5:=Lib.hid (show Below w.heap.size w W5/\W5.heap[w.heap.size+1]? =some (.cells #[.slice (some ⟨kb,ko,none⟩) blocks.length bc] 43 (0,0))/\ChkAt W5 C m1 m2 (rC ⟨.slice (some ⟨fb,fo,none⟩) p.funcs.length f2,.slice (some ⟨ab,ao,none⟩) p.args.length a2,.slice d1 p.data.length d2,.slice b1 p.banks.length b2⟩ p) (.slice (some ⟨kb,ko,none⟩) blocks.length bc) (.slice none 0 0) N d/\W5.heap[g4]? =some (.cells #[.slice (some ⟨gb,0,none⟩) gl gl] 93 (0,0))/\C<g4/\C<w3.heap.size from⟨hb5,hf5,hchk5,hg5,hlt4,hlt3⟩)
    have u5:W5.cell? ⟨g4,0,none⟩=some (.slice (some ⟨gb,0,none⟩) gl gl):=zA hg5 (by simp)
    clear hb45 hr5 hb35 hb5 hf5 hchk5 hg5 hlt4 hlt3 hW5 hg4 hrows hb4 u0 hgb hfacts hgle hgl
    go_upto_region 9 with(first|(go_at_call 67;go_must (refine(qP HGI.out).mono ?_;rintro e w6 ⟨iv,rfl,hown,hb6⟩;obtain⟨ia,ic,rfl⟩:=zG hown;have hk6:=H5.out.2.2.1.below hb6;have v9:w6.cell? ⟨C,9,none⟩=some (.slice none 0 0):=zA hk6.blk rfl;have vf:w6.frozen? ⟨C,9,none⟩=false:=zE hk6.blk))|go_in)
    have hv:=HGI.out.valid
    have nC:=zC hown hk6.blk (.inr (by decide))
    have hown7:=ownsRow_setCell_other (a:=⟨C,9,none⟩) hown nC (.slice ia (wQ (zy blocks)).length ic)
    have hid7:zY (w6.setCell ⟨C,9,none⟩ (.slice ia (wQ (zy blocks)).length ic)) (w6.setCell ⟨C,9,none⟩ (.slice ia (wQ (zy blocks)).length ic)).heap.size (.slice ia (wQ (zy blocks)).length ic) (wQ (zy blocks)):=uA hown7 rfl (jT hv (by rw[xu];have:=HBL.out.2.2.1.1;omega))
    have hchk7:=hk6.idom (.slice ia (wQ (zy blocks)).length ic)
    have hb7:Below w.heap.size w (w6.setCell ⟨C,9,none⟩ (.slice ia (wQ (zy blocks)).length ic)):=(H5.out.1.trans (hb6.mono H5.out.1.size)).setCell (by have:=H2.out.2.2.2;simp;omega) _
    have hf7:=zR (a:=⟨C,9,none⟩) (u:=.slice ia (wQ (zy blocks)).length ic) (zH hb6 H5.out.2.1 (lt_of_block H5.out.2.1)) (by have:=H2.out.2.2.2;simp;omega)
    have hg7:=zR (a:=⟨C,9,none⟩) (u:=.slice ia (wQ (zy blocks)).length ic) (zH hb6 H5.out.2.2.2.1 (lt_of_block H5.out.2.2.2.1)) (by have:=H5.out.2.2.2.2;simp;omega)
    have hgi7:=HFA.out.1 _ ((HFA.out.2.1.below hb6).set (a:=⟨C,9,none⟩) (by have:=HFA.out.2.2;have:=H5.out.2.2.2.2.2;simp;omega) (by have:=H5.out.2.2.2.2.2;simp;omega) (.slice ia (wQ (zy blocks)).length ic))
    generalize hW7:w6.setCell ⟨C,9,none⟩ (.slice ia (wQ (zy blocks)).length ic)=W7 at *
    have H7:=Lib.hid (show Below w.heap.size w W7/\ChkAt W7 C m1 m2 (rC ⟨.slice (some ⟨fb,fo,none⟩) p.funcs.length f2,.slice (some ⟨ab,ao,none⟩) p.args.length a2,.slice d1 p.data.length d2,.slice b1 p.banks.length b2⟩ p) (.slice (some ⟨kb,ko,none⟩) blocks.length bc) (.slice ia (wQ (zy blocks)).length ic) N d/\zY W7 W7.heap.size (.slice ia (wQ (zy blocks)).length ic) (wQ (zy blocks))/\W7.heap[w.heap.size+1]? =some (.cells #[.slice (some ⟨kb,ko,none⟩) blocks.length bc] 43 (0,0))/\zw (zy blocks) from⟨hb7,hchk7,hid7,hf7,hv⟩)
    have hord:∀W,Below W7.heap.size W7 W->Calls Try.prog 68 #[.agg #[.slice (some ⟨gb,0,none⟩) gl gl]] W fun e w'=>∃a c,e=.returned (.slice a (vD (zy blocks)).length c)/\Below W.heap.size W w':=fun W hb=>by
     refine(iJ (hgi7.below hb)).mono ?_
     rintro e w' ⟨ov,rfl,ho,hb⟩
     obtain⟨a,c,rfl⟩:=zG ho
     exact⟨a,c,rfl,hb⟩
    have HORD:=Lib.hid hord
    have y0:W7.cell? ⟨w.heap.size+1,0,none⟩=some (.slice (some ⟨kb,ko,none⟩) blocks.length bc):=zA hf7 (by simp)
    have y1:W7.cell? ⟨g4,0,none⟩=some (.slice (some ⟨gb,0,none⟩) gl gl):=zA hg7 (by simp)
    have l0:=lt_of_block hf7
    have l1:=lt_of_block hg7
    have k7:=Below.refl W7.heap.size W7
    clear hown hb6 hk6 v9 vf hown7 nC hid7 hchk7 hb7 hf7 hg7 hgi7 hord u5 hv hW7
    obtain⟨qo,hqo⟩:∃q,decide ((vD (zy blocks)).length=blocks.length)=q:=⟨_,rfl⟩
    have t1:(((vD (zy blocks)).length:Int) !=(blocks.length:Int))=!qo:=by rw[bne,zf (q:=qo) (zZ hqo (by omega))]
    have HQO:=Lib.hid hqo
    clear hqo
    generalize hole:(vD (zy blocks)).length=ol at *
    go_cut [57] (fun s wx=>s=.bool (!qo)/\Hid (Below W7.heap.size W7 wx))
    case first=>
     go_region_held3 (fun w'=>w'.cell? ⟨w.heap.size+1,0,none⟩=some (.slice (some ⟨kb,ko,none⟩) blocks.length bc)/\w'.cell? ⟨g4,0,none⟩=some (.slice (some ⟨gb,0,none⟩) gl gl)/\Below W7.heap.size W7 w')
      (first
        |(go_split_ands;refine⟨?_,?_,?_⟩<;>assumption)
        |(go_split_ands;refine⟨?_,?_,uG ?_⟩<;>assumption))
      (first|(go_at_call 68;go_must (refine(HORD.out _ (by repeat' (first|assumption|(with_reducible refine Below.drew ?_)))).mono ?_;rintro e w2 ⟨qa,qc,rfl,hb2⟩;have hb3:Below W7.heap.size W7 w2:=Below.trans (by repeat' (first|assumption|(with_reducible refine Below.drew ?_))) (hb2.mono (Below.size (B:=W7.heap.size) (w:=W7) (by repeat' (first|assumption|(with_reducible refine Below.drew ?_)))));have y0':w2.cell? ⟨w.heap.size+1,0,none⟩=some (.slice (some ⟨kb,ko,none⟩) blocks.length bc):=zV hb3 l0 y0;have y1':w2.cell? ⟨g4,0,none⟩=some (.slice (some ⟨gb,0,none⟩) gl gl):=zV hb3 l1 y1)))
     all_goals
      go_wp2_with fail
      go_meet
      exact⟨rfl,Lib.hid (by repeat' (first|assumption|(with_reducible refine Below.drew ?_)))⟩
    case rest=>
     obtain⟨rfl,HB⟩:=hcut
     cases qo with
     |false=>
      have hr:res=false:=by
       rw[HFD.out,Option.map_some,Option.getD_some]
       unfold iM
       rw[hole,HQO.out];rfl
      go_wp2
      go_ret
      exact⟨uz hr,H7.out.1.trans (HB.out.mono H7.out.1.size)⟩
     |true=>
      have hr:res=tO d (zy blocks) blocks 0:=by
       rw[HFD.out,Option.map_some,Option.getD_some]
       unfold iM
       rw[hole,HQO.out];rfl
      have hall:=jl H7.out.2.2.2.2 (by rw[hole,xu];exact of_decide_eq_true HQO.out)
      have HRB:=Lib.hid (And.intro hr hall)
      have y2:wc.cell? ⟨w.heap.size+1,0,none⟩=some (.slice (some ⟨kb,ko,none⟩) blocks.length bc):=zV HB.out l0 y0
      clear hr hall y0 y1 k7 t1 hole
      go_wp2
      go_loopw [61] (fun iv wx=>∃i:Nat,i<=blocks.length/\iv=.int .i64 (i:Int)/\Hid (Below W7.heap.size W7 wx/\tO d (zy blocks) (blocks.take i) 0=true)) (fun iv _=>blocks.length-(intOf iv).toNat)
      case atStart=>exact⟨0,Nat.zero_le _,rfl,Lib.hid ⟨HB.out,rfl⟩⟩
      case round=>
       obtain⟨i,hi,rfl,HI⟩:=hrel
       by_cases hlt:i<blocks.length
       ·have hltI:(i:Int)<blocks.length:=by omega
        have HLT:=Lib.hid hlt
        obtain⟨bx,hbx⟩:∃bx,blocks[i]? =some bx:=⟨_,List.getElem?_eq_getElem hlt⟩
        obtain⟨b',o',e',hfb,hk0,hk1,hk64,pv2,ov2,tv2,hp0,hp1,hp2,hpi,hoi,hti⟩:=HBL.out.2.1.get hbx
        cases e'
        obtain⟨pa2,pc2,rfl,hpc,hpm⟩:=hpi.form
        obtain⟨oa,oc,rfl,hoc,hom⟩:=hoi.form
        obtain⟨ta,tc,rfl,htc,htm⟩:=hti.form
        have hol:bx.ops.length<=9223372036854775807:=by omega
        have hbw:Below B w wr:=(H7.out.1.mono HP.out.2.1).trans (HI.out.1.mono (Nat.le_trans HP.out.2.1 H7.out.1.size))
        have e0:=zV hbw hfb hp0
        have e1:=zV hbw hfb hp1
        have e2:=zV hbw hfb hk0
        have e3:=zV hbw hfb hk1
        have e4:=zV hbw hfb hp2
        have HBX:=Lib.hid (show blocks[i]? =some bx/\mN w B (.slice oa bx.ops.length oc) bx.ops/\wH w B (.slice ta bx.term.to.length tc) bx.term.to/\(I64 bx.term.kind/\I64 bx.term.a)/\(bx.params.length<=2000000/\bx.ops.length<=2000000/\bx.term.to.length<=2000000)/\(∀o∈bx.ops,opF p o=true)/\wn blocks bx.term=true from⟨hbx,hoi,hti,hk64,HBL.out.2.2.1.2 bx (List.mem_of_getElem? hbx),(H3.out.2.2.2.1 bx (List.mem_of_getElem? hbx)).1,(H3.out.2.2.2.1 bx (List.mem_of_getElem? hbx)).2⟩)
        have hz0:(wr.alloc (.cells #[.slice pa2 bx.params.length pc2,.slice oa bx.ops.length oc,.int .i64 bx.term.kind,.int .i64 bx.term.a,.slice ta bx.term.to.length tc] 49)).heap[wr.heap.size]? =some (.cells #[.slice pa2 bx.params.length pc2,.slice oa bx.ops.length oc,.int .i64 bx.term.kind,.int .i64 bx.term.a,.slice ta bx.term.to.length tc] 49 (0,0)):=zI rfl
        have hb1:=HI.out.1.alloc HI.out.1.size (.cells #[.slice pa2 bx.params.length pc2,.slice oa bx.ops.length oc,.int .i64 bx.term.kind,.int .i64 bx.term.a,.slice ta bx.term.to.length tc] 49)
        clear hbx hk0 hk1 hk64 hp0 hp1 hp2 hpi hoi hti hpc hpm hoc hom htc htm hbw hlt y2
        go_upto_region 14 with fail
        generalize hW9:wr.alloc (.cells #[.slice pa2 bx.params.length pc2,.slice oa bx.ops.length oc,.int .i64 bx.term.kind,.int .i64 bx.term.a,.slice ta bx.term.to.length tc] 49)=W9 at *
        generalize hb9:wr.heap.size=b9 at *
        have z1:W9.cell? ⟨b9,1,none⟩=some (.slice oa bx.ops.length oc):=zA hz0 (by simp)
        have H9:=Lib.hid (show Below W7.heap.size W7 W9/\W9.heap[b9]? =some (.cells #[.slice pa2 bx.params.length pc2,.slice oa bx.ops.length oc,.int .i64 bx.term.kind,.int .i64 bx.term.a,.slice ta bx.term.to.length tc] 49 (0,0)) from⟨hb1,hz0⟩)
        clear hW9 hb9 hz0 hb1 e0 e1 e2 e3 e4
        go_wp2
        go_loopw [69] (fun kv wx=>∃k:Nat,k<=bx.ops.length/\kv=.int .i64 (k:Int)/\Hid (Below W9.heap.size W9 wx/\xF d (zy blocks) i (bx.ops.take k) 0=true)) (fun kv _=>bx.ops.length-(intOf kv).toNat)
        case atStart=>exact⟨0,Nat.zero_le _,rfl,Lib.hid ⟨Below.refl _ _,rfl⟩⟩
        case round=>
         obtain⟨k,hk,rfl,HK⟩:=hrel
         by_cases hltk:k<bx.ops.length
         ·have hltkI:(k:Int)<bx.ops.length:=by omega
          have HLTK:=Lib.hid hltk
          obtain⟨o,ho⟩:∃o,bx.ops[k]? =some o:=⟨_,List.getElem?_eq_getElem hltk⟩
          obtain⟨qb,qo,rfl,hqb,hq0,hq1,hq2,hq3,hq4,ho64,av,hq5,hai⟩:=HBX.out.2.1.get ho
          obtain⟨aa,ac,rfl,hac,ham⟩:=hai.form
          have hb7r:Below W7.heap.size W7 wr:=H9.out.1.trans (HK.out.1.mono H9.out.1.size)
          have hbw:Below B w wr:=(H7.out.1.mono HP.out.2.1).trans (hb7r.mono (Nat.le_trans HP.out.2.1 H7.out.1.size))
          have c0:=zV hbw hqb hq0
          have c1:=zV hbw hqb hq1
          have c2:=zV hbw hqb hq2
          have c3:=zV hbw hqb hq3
          have c4:=zV hbw hqb hq4
          have c5:=zV hbw hqb hq5
          have hz5:(wr.alloc (.cells #[.int .i64 o.code,.int .i64 o.res,.int .i64 o.a,.int .i64 o.b,.int .u16 (o.n:Int),.slice aa o.args.length ac] 77)).heap[wr.heap.size]? =some (.cells #[.int .i64 o.code,.int .i64 o.res,.int .i64 o.a,.int .i64 o.b,.int .u16 (o.n:Int),.slice aa o.args.length ac] 77 (0,0)):=zI rfl
          have hbn:=HK.out.1.alloc HK.out.1.size (.cells #[.int .i64 o.code,.int .i64 o.res,.int .i64 o.a,.int .i64 o.b,.int .u16 (o.n:Int),.slice aa o.args.length ac] 77)
          have hbB:=hbw.alloc (Nat.le_trans HP.out.2.1 (Nat.le_trans H7.out.1.size hb7r.size)) (.cells #[.int .i64 o.code,.int .i64 o.res,.int .i64 o.a,.int .i64 o.b,.int .u16 (o.n:Int),.slice aa o.args.length ac] 77)
          have hus:=uses_any o ho64 (Nat.le_trans (Nat.le_trans HP.out.2.1 (Nat.le_trans H7.out.1.size hb7r.size)) (by simp)) (hai.below zO hbB) (op_args HP.out.2.2.2.1 (HBX.out.2.2.2.2.2.1 o (List.mem_of_getElem? ho)))
          have HO:=Lib.hid ho
          clear ho hq0 hq1 hq2 hq3 hq4 hq5 ho64 hai hac ham hbw hb7r hltk hbB z1
          go_upto_region 17 with fail
          generalize hWA:wr.alloc (.cells #[.int .i64 o.code,.int .i64 o.res,.int .i64 o.a,.int .i64 o.b,.int .u16 (o.n:Int),.slice aa o.args.length ac] 77)=WA at *
          generalize hbA:wr.heap.size=bA at *
          have z80:WA.cell? ⟨bA,0,none⟩=some (.int .i64 o.code):=zA hz5 (by simp)
          have z81:WA.cell? ⟨bA,1,none⟩=some (.int .i64 o.res):=zA hz5 (by simp)
          have z82:WA.cell? ⟨bA,2,none⟩=some (.int .i64 o.a):=zA hz5 (by simp)
          have z83:WA.cell? ⟨bA,3,none⟩=some (.int .i64 o.b):=zA hz5 (by simp)
          have z84:WA.cell? ⟨bA,4,none⟩=some (.int .u16 (o.n:Int)):=zA hz5 (by simp)
          have z85:WA.cell? ⟨bA,5,none⟩=some (.slice aa o.args.length ac):=zA hz5 (by simp)
          have HUS:=Lib.hid hus
          have HBN:=Lib.hid hbn
          clear hus hbn hz5 hWA hbA c0 c1 c2 c3 c4 c5
          obtain⟨q,hq⟩:∃q,(rR o).all (yy d (zy blocks) i k)=q:=⟨_,rfl⟩
          have HQ:=Lib.hid hq
          clear hq
          have hdf:∀W lv,Below WA.heap.size WA W->zY W W.heap.size lv (rR o)->Calls Try.prog 69 #[.pointer (some ⟨C,0,none⟩),lv,.int .i64 (i:Int),.int .i64 (k:Int)] W (ym W q):=fun W lv hb hin=>by
           have hb7:Below W7.heap.size W7 W:=H9.out.1.trans ((HBN.out.trans (hb.mono HBN.out.size)).mono H9.out.1.size)
           rw[<-HQ.out]
           exact qI (H7.out.2.1.below hb7) H7.out.2.2.2.2 HRB.out.2 (by rw[xu];exact HBL.out.2.2.1.1) ((H7.out.2.2.1.below zO hb7).mono zO hb7.size) (fun v b hv=>by rw[xu];exact rN HR.out v b hv) hin i (by rw[xu];exact HLT.out) k (qL (Nat.le_trans hk (Nat.le_trans HBX.out.2.2.2.2.1.2.1 (by decide))))
          have HDF:=Lib.hid hdf
          clear hdf
          cases q with
          |false=>
           go_wp2_with (first|(go_at_call 70;go_must (refine HUS.out.mono ?_;rintro e wu ⟨uv,rfl,hui,hub⟩))|(go_at_call 69;go_must (refine(HDF.out _ _ hub hui).mono ?_;rintro e wd ⟨rfl,hbd⟩))|go_in)
           go_ret
           have hr:res=false:=by
            rw[HRB.out.1]
            refine pH HBX.out.1 ?_
            unfold wk
            rw[oA HO.out HQ.out];rfl
           have h7d:Below W7.heap.size W7 wd:=H9.out.1.trans ((HBN.out.trans ((hub.trans (hbd.mono hub.size)).mono HBN.out.size)).mono H9.out.1.size)
           exact⟨uz hr,H7.out.1.trans (h7d.mono H7.out.1.size)⟩
          |true=>
           go_wp2_with (first|(go_at_call 70;go_must (refine HUS.out.mono ?_;rintro e wu ⟨uv,rfl,hui,hub⟩))|(go_at_call 69;go_must (refine(HDF.out _ _ hub hui).mono ?_;rintro e wd ⟨rfl,hbd⟩))|go_in)
           have HN:=Lib.hid (HBN.out.trans ((hub.trans (hbd.mono hub.size)).mono HBN.out.size))
           clear hub hbd hui
           go_roundw
           case rel=>
            have HREL:=Lib.hid (show Below W9.heap.size W9 wd/\xF d (zy blocks) i (bx.ops.take (k+1)) 0=true from⟨HN.out,by rw[p6 HO.out,HK.out.2,HQ.out];rfl⟩)
            (repeat apply Exists.intro);exact⟨⟨k+1,HLTK.out,by go_num,HREL⟩,rfl⟩
           case measure=>have:=HLTK.out;simp[intOf];omega
         ·obtain rfl:k=bx.ops.length:=by omega
          have hltkI:¬(bx.ops.length:Int)<bx.ops.length:=by omega
          have hb7r:Below W7.heap.size W7 wr:=H9.out.1.trans (HK.out.1.mono H9.out.1.size)
          have hbB:Below B w wr:=(H7.out.1.mono HP.out.2.1).trans (hb7r.mono (Nat.le_trans HP.out.2.1 H7.out.1.size))
          have hzr:=zH HK.out.1 H9.out.2 (lt_of_block H9.out.2)
          have hops:=HK.out.2
          rw[List.take_length] at hops
          have z2:wr.cell? ⟨b9,1,none⟩=some (.slice oa bx.ops.length oc):=zA hzr (by simp)
          have z3:wr.cell? ⟨b9,2,none⟩=some (.int .i64 bx.term.kind):=zA hzr (by simp)
          have z4:wr.cell? ⟨b9,3,none⟩=some (.int .i64 bx.term.a):=zA hzr (by simp)
          have z5:wr.cell? ⟨b9,4,none⟩=some (.slice ta bx.term.to.length tc):=zA hzr (by simp)
          have l9:=lt_of_block hzr
          have k9:=Below.refl wr.heap.size wr
          obtain⟨q,hq⟩:∃q,(mE bx.term).all (yy d (zy blocks) i bx.ops.length)=q:=⟨_,rfl⟩
          have hen:∀W,Below wr.heap.size wr W->Calls Try.prog 71 #[.agg #[.int .i64 bx.term.kind,.int .i64 bx.term.a,.slice ta bx.term.to.length tc]] W (wG W (mE bx.term)):=fun W hb=>
           ends_any bx.term HBX.out.2.2.2.1 (Nat.le_trans (Nat.le_trans HP.out.2.1 (Nat.le_trans H7.out.1.size hb7r.size)) hb.size) (HBX.out.2.2.1.below xL (hbB.trans (hb.mono (Nat.le_trans HP.out.2.1 (Nat.le_trans H7.out.1.size hb7r.size))))) ⟨HBX.out.2.2.2.2.1.2.2,lD HBL.out.2.2.1 HBX.out.2.2.2.2.2.2⟩
          have hdf:∀W lv,Below wr.heap.size wr W->zY W W.heap.size lv (mE bx.term)->Calls Try.prog 69 #[.pointer (some ⟨C,0,none⟩),lv,.int .i64 (i:Int),.int .i64 (bx.ops.length:Int)] W (ym W q):=fun W lv hb hin=>by
           have hb7:Below W7.heap.size W7 W:=hb7r.trans (hb.mono hb7r.size)
           rw[<-hq]
           exact qI (H7.out.2.1.below hb7) H7.out.2.2.2.2 HRB.out.2 (by rw[xu];exact HBL.out.2.2.1.1) ((H7.out.2.2.1.below zO hb7).mono zO hb7.size) (fun v b hv=>by rw[xu];exact rN HR.out v b hv) hin i (by rw[xu];exact HLT.out) _ (qL (Nat.le_trans HBX.out.2.2.2.2.1.2.1 (by decide)))
          have HEN:=Lib.hid hen
          have HDF:=Lib.hid hdf
          have HQ:=Lib.hid (show wk d (zy blocks) bx i=q from by unfold wk;rw[hops,hq];rfl)
          have H7R:=Lib.hid hb7r
          clear hq hen hdf hops hzr hbB hb7r hltk z1
          go_wp2_with fail
          go_cut [91] (fun s wx=>s=.bool (!q)/\Hid (Below wr.heap.size wr wx))
          case first=>
           go_region_held3 (fun w'=>w'.cell? ⟨b9,1,none⟩=some (.slice oa bx.ops.length oc)/\w'.cell? ⟨b9,2,none⟩=some (.int .i64 bx.term.kind)/\w'.cell? ⟨b9,3,none⟩=some (.int .i64 bx.term.a)/\w'.cell? ⟨b9,4,none⟩=some (.slice ta bx.term.to.length tc)/\Below wr.heap.size wr w')
            (first
              |(go_split_ands;refine⟨?_,?_,?_,?_,?_⟩<;>assumption)
              |(go_split_ands;refine⟨?_,?_,?_,?_,uG ?_⟩<;>assumption))
            (first
              |(go_at_call 71;go_must (refine(HEN.out _ (by repeat' (first|assumption|(with_reducible refine Below.drew ?_)))).mono ?_;rintro e w2 ⟨ev,rfl,hei,hb2⟩;have hb3:Below wr.heap.size wr w2:=Below.trans (by repeat' (first|assumption|(with_reducible refine Below.drew ?_))) (hb2.mono (Below.size (B:=wr.heap.size) (w:=wr) (by repeat' (first|assumption|(with_reducible refine Below.drew ?_)))));have z2':=zV hb3 l9 z2;have z3':=zV hb3 l9 z3;have z4':=zV hb3 l9 z4;have z5':=zV hb3 l9 z5))
              |(go_at_call 69;go_must (refine(HDF.out _ _ (by repeat' (first|assumption|(with_reducible refine Below.drew ?_))) hei).mono ?_;rintro e w4 ⟨rfl,hb4⟩;have hb5:Below wr.heap.size wr w4:=Below.trans (by repeat' (first|assumption|(with_reducible refine Below.drew ?_))) (hb4.mono (Below.size (B:=wr.heap.size) (w:=wr) (by repeat' (first|assumption|(with_reducible refine Below.drew ?_)))));have y2':=zV hb5 l9 z2;have y3':=zV hb5 l9 z3;have y4':=zV hb5 l9 z4;have y5':=zV hb5 l9 z5)))
           all_goals
            go_wp2_with fail
            go_meet
            exact⟨rfl,Lib.hid (by repeat' (first|assumption|(with_reducible refine Below.drew ?_)))⟩
          case rest=>
           obtain⟨rfl,HB9⟩:=hcut
           cases q with
           |false=>
            have hr:=Lib.hid (show res=false by rw[HRB.out.1];exact pH HBX.out.1 HQ.out)
            go_wp2
            go_ret
            exact⟨uz hr.out,H7.out.1.trans ((H7R.out.trans (HB9.out.mono H7R.out.size)).mono H7.out.1.size)⟩
           |true=>
            go_wp2
            go_roundw
            case rel=>
             have HREL:=Lib.hid (show Below W7.heap.size W7 wc/\tO d (zy blocks) (blocks.take (i+1)) 0=true from⟨H7R.out.trans (HB9.out.mono H7R.out.size),by rw[mz HBX.out.1,HI.out.2,HQ.out];rfl⟩)
             (repeat apply Exists.intro);exact⟨⟨i+1,HLT.out,by go_num,HREL⟩,rfl⟩
            case measure=>have:=HLT.out;simp[intOf];omega
       ·obtain rfl:i=blocks.length:=by omega
        have hltI:¬(blocks.length:Int)<blocks.length:=by omega
        have hall:=HI.out.2
        rw[List.take_length] at hall
        have hr:=Lib.hid (HRB.out.1.trans hall)
        clear hall hlt y2
        go_wp2
        go_ret
        exact⟨uz hr.out,H7.out.1.trans (HI.out.1.mono H7.out.1.size)⟩
end Go.Proofs.Ytojclalkfhoooaa
