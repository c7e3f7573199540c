/- Part of a proof. -/
import Derived.Test.YtojclalkfhoooaaIStep3
import Derived.Test.YtojclalkfhoooaaIData
import Derived.Test.YtojclalkfhoooaaView
set_option linter.unusedSimpArgs false
set_option linter.unusedVariables false
set_option maxHeartbeats 3200000
set_option maxRecDepth 100000
namespace Go.Proofs.Ytojclalkfhoooaa
open Go.RowKit
def pq (K:MK)(r:Nat):Prop:=
 ∀(w:World) (m:Mach) (ov av:Value) (f:Int) (args:List Nat),MachAt w K m ov->0<=f->f.toNat<K.E.p.funcs.length->wV w w.heap.size av args->(args.length:Int)=K.E.p.args.getD f.toNat 0->
  Calls Try.prog 52 #[.pointer (some ⟨K.pm,0,none⟩),.int .i64 f,av,.int .i64 (101-(r:Int))] w (zQ K w (xW K.E r f args m))
theorem Try.info_u16:(Try.prog.info? 39).map (fun i=>(i.zero,i.size,i.bytes))=some (some (.int .u16 0),1,2):=by kernel_rfl
theorem ms {w:World}{S:Nat}{av:Value}{n:Nat}{xs:List Nat}(h:w.ownsRow S 39 1 av n (xs.map vL))(hn:xs.length=n)(hx:∀x∈xs,x<65536):wV w w.heap.size av xs:=by
 subst hn
 obtain⟨a,c,rfl⟩:=zG h
 have hl:=zm h
 refine⟨a,c,rfl,hl.1,by omega,fun k x hk=>?_⟩
 have hkl:=(List.getElem?_eq_some_iff.1 hk).1
 obtain⟨g,cap,e,hg,hlt⟩:=h.form (by omega)
 cases e
 refine⟨g,0,rfl,hlt,?_,hx x (List.mem_of_getElem? hk)⟩
 rw[Nat.mul_one,Nat.zero_add]
 exact(h.cellAt k (by omega)).trans (by rw[List.getElem?_map,hk];rfl)
def uT (v:Int->Nat)(xs:List Int)(k:Nat):List Nat:=(xs.take k).map v
theorem qH {v:Int->Nat}{xs:List Int}{k:Nat}{x:Int}(h:xs[k]? =some x):uT v xs (k+1)=uT v xs k++ [v x]:=by unfold uT;rw[List.take_add_one,h,List.map_append];rfl
theorem pA {v:Int->Nat}{xs:List Int}{k:Nat}(h:k<=xs.length):(uT v xs k).length=k:=by unfold uT;rw[List.length_map,List.length_take];omega
theorem r8 {v:Int->Nat}{xs:List Int}:uT v xs xs.length=xs.map v:=by unfold uT;rw[List.take_length]
theorem step_26 {w:World}{K:MK}{m:Mach}{ov:Value}(h:MachAt w K m ov){ores oa ob:Int}{on:Nat}(hra:I64 oa)(hrb:I64 ob)(hon:on<65536){av:Value}{xs:List Int}(hxs:zY w w.heap.size av xs)(hxl:xs.length<=65536)
 {vb vn:Nat} {v:Int->Nat} (hv:xO w vb vn v) {r:Nat} (hr:r<=100) (hC:pq K r) (hf:0<=oa/\oa.toNat<K.E.p.funcs.length/\(xs.length:Int)=K.E.p.args.getD oa.toNat 0):
 Calls Try.prog 82 #[.pointer (some ⟨K.pm,0,none⟩),.agg #[.int .i64 26,.int .i64 ores,.int .i64 oa,.int .i64 ob,.int .u16 (on:Int),av],.map (some vb),.int .i64 (100-(r:Int))] w (zQ K w (xW K.E r oa (xs.map v) m)):=by
 obtain⟨ab,ac,rfl,hac,hacm⟩:=hxs.form
 have hla:=fun(W:World) (hW:Frm K.B w W)=>(hv.kept hW).look hra
 have hlb:=fun(W:World) (hW:Frm K.B w W)=>(hv.kept hW).look hrb
 have hbs:=h.size
 have HW1:=Lib.hid (h.keep ((Below.refl _ _).alloc (Nat.le_refl _) (.cells #[.int .i64 26,.int .i64 ores,.int .i64 oa,.int .i64 ob,.int .u16 (on:Int),.slice ab xs.length ac] 77)))
 have HF1:=Lib.hid ((Frm.refl K.B w).alloc (by omega) (.cells #[.int .i64 26,.int .i64 ores,.int .i64 oa,.int .i64 ob,.int .u16 (on:Int),.slice ab xs.length ac] 77))
 have hX1:=Lib.hid (hxs.below zO ((Below.refl w.heap.size w).alloc (Nat.le_refl _) (.cells #[.int .i64 26,.int .i64 ores,.int .i64 oa,.int .i64 ob,.int .u16 (on:Int),.slice ab xs.length ac] 77)))
 have la:=fun n:Nat=>hla _ (HF1.out.drewN (n:=n))
 have lb:=fun n:Nat=>hlb _ (HF1.out.drewN (n:=n))
 have hnew:(w.alloc (.cells #[.int .i64 26,.int .i64 ores,.int .i64 oa,.int .i64 ob,.int .u16 (on:Int),.slice ab xs.length ac] 77)).heap[w.heap.size]? =some (.cells #[.int .i64 26,.int .i64 ores,.int .i64 oa,.int .i64 ob,.int .u16 (on:Int),.slice ab xs.length ac] 77 (0,0)):=zI rfl
 have hv1:=Lib.hid (hv.kept HF1.out)
 have HC:=Lib.hid hC
 have HFN:=Lib.hid hf
 have hsz1:w.heap.size<(w.alloc (.cells #[.int .i64 26,.int .i64 ores,.int .i64 oa,.int .i64 ob,.int .u16 (on:Int),.slice ab xs.length ac] 77)).heap.size:=by simp
 clear h hv hla hlb hxs hC hf
 obtain⟨xa,hxa⟩:∃xa,v oa=xa:=⟨_,rfl⟩
 obtain⟨xb,hxb⟩:∃xb,v ob=xb:=⟨_,rfl⟩
 rw[hxa] at la
 rw[hxb] at lb
 clear hxa hxb
 go_enter Try.func82,Try.ntmps82
 go_upto_region 1 with fail
 generalize hW1:w.alloc (.cells #[.int .i64 26,.int .i64 ores,.int .i64 oa,.int .i64 ob,.int .u16 (on:Int),.slice ab xs.length ac] 77)=W1 at *
 clear hW1
 have p0:W1.cell? ⟨w.heap.size,0,none⟩=some (.int .i64 26):=zA hnew (by simp)
 have p2:W1.cell? ⟨w.heap.size,2,none⟩=some (.int .i64 oa):=zA hnew (by simp)
 have p3:W1.cell? ⟨w.heap.size,3,none⟩=some (.int .i64 ob):=zA hnew (by simp)
 have p5:W1.cell? ⟨w.heap.size,5,none⟩=some (.slice ab xs.length ac):=zA hnew (by simp)
 go_cut [9,10] (fun x y wx=>x=.int .u16 (xa:Int)/\y=.int .u16 (xb:Int)/\∃n,wx=W1.drewN n)
 case first=>
  go_quiet (fail)
  go_wp2
  go_meet
  exact⟨rfl,rfl,_,rfl⟩
 case rest=>
  obtain⟨rfl,rfl,n,rfl⟩:=hcut
  have HM:=Lib.hid (HW1.out.drewN n)
  have HF:=Lib.hid (HF1.out.drewN (n:=n))
  have HV2:=Lib.hid ((hv1.out.kept (Frm.refl K.B W1).drewN:xO (W1.drewN n) vb vn v))
  have HX2:=Lib.hid (hX1.out.below zO (yL w.heap.size W1 n))
  have q0:(W1.drewN n).cell? ⟨w.heap.size,0,none⟩=_:=p0
  have q2:(W1.drewN n).cell? ⟨w.heap.size,2,none⟩=_:=p2
  have q5:(W1.drewN n).cell? ⟨w.heap.size,5,none⟩=_:=p5
  have hsz2:w.heap.size<(W1.drewN n).heap.size:=hsz1
  clear la lb p0 p2 p3 p5 hnew HW1 HF1 hv1 hX1 hsz1
  generalize W1.drewN n=W2 at *
  go_wp2
  go_loopw [15,159] (fun rv kv wx=>∃k:Nat,k<=xs.length/\kv=.int .i64 (k:Int)/\Hid (wx.ownsRow W2.heap.size 39 1 rv k ((uT v xs k).map vL)/\Below W2.heap.size W2 wx)) (fun _ kv _=>xs.length-(intOf kv).toNat)
  case atStart=>exact⟨0,Nat.zero_le _,rfl,World.ownsRow_nil _ _ _ _,Below.refl _ _⟩
  case round=>
   obtain⟨k,hk,rfl,HK⟩:=hrel
   obtain⟨ra,rc,rfl⟩:=zG HK.out.1
   have hFx:Frm K.B W2 wr:=⟨HK.out.2.mono (by have:=HM.out.size;omega),fun i o hi _=>zH HK.out.2 hi (lt_of_block hi)⟩
   by_cases hlt:k<xs.length
   ·have hltI:(k:Int)<xs.length:=by omega
    have HLT:=Lib.hid hlt
    obtain⟨x,hx⟩:∃x,xs[k]? =some x:=⟨_,List.getElem?_eq_getElem hlt⟩
    obtain⟨b,o,rfl,hb,hcx,hx64⟩:=HX2.out.get hx
    rw[Nat.mul_one] at hcx
    have cx:=(HK.out.2.cell (p:=⟨b,o+k,none⟩) (by show b<W2.heap.size;omega)).trans hcx
    have lx:=(HV2.out.kept hFx).look hx64
    have hvx:=HV2.out.2 x
    have HXS:=Lib.hid (qH (v:=v) hx)
    have hal:=pA (v:=v) (show k<=xs.length by omega)
    obtain⟨ii,hii,hzi0,hzi1,hzi2⟩:=info_parts Try.info_u16
    have hszx:=HK.out.2.size
    clear hx hcx hlt
    generalize v x=vx at *
    go_wp2_with (at_builtin;go_must (refine wpList_append_lies _ rfl (.tmp 163) (.tmp 167) 36 rfl W2.heap.size 39 ii (.int .u16 0) 1 2 Try.underlying36 hii hzi0 hzi1 hzi2 rfl (by decide) _ k ((uT v xs k).map vL) rfl (HK.out.1.alloc _) ⟨wr.heap.size,0,none⟩ 1 1 [.int .u16 (vx:Int)] rfl rfl (World.news_of_block (cs:=#[.int .u16 (vx:Int)]) (zI (by simp))) (by simp[Value.oneCell']) (by decide) (by unfold maxLen;omega) (by omega) (by simp;omega) (wr.heap.size+1) (by simp) ?_;intro gq capq w6 hown6 hgrow6 hat6 hlt6;have HO6:=Lib.hid (And.intro hown6 hgrow6);clear hown6 hgrow6))
    go_roundw
    case rel=>
     refine⟨k+1,HLT.out,by go_num,?_,(HK.out.2.alloc (by omega) _).grown HO6.out.2 (by simp;omega) (fun k hk=>(HK.out.1.lt k hk).1)⟩
     rw[HXS.out,List.map_append]
     exact HO6.out.1
    case measure=>have:=HLT.out;simp[intOf];omega
   ·obtain rfl:k=xs.length:=by omega
    have hltI:¬(xs.length:Int)<xs.length:=by omega
    have hown:=HK.out.1
    rw[r8] at hown
    have hcell:wr.cell? ⟨w.heap.size,2,none⟩=_:=(HK.out.2.cell (p:=⟨w.heap.size,2,none⟩) hsz2).trans q2
    have hMr:=HM.out.keep HK.out.2
    have hcall:=HC.out wr m ov (.slice ra xs.length rc) oa (xs.map v) hMr HFN.out.1 HFN.out.2.1 (ms hown (by simp) (fun y hy=>by obtain⟨z,_,rfl⟩:=List.mem_map.1 hy;exact HV2.out.2 z)) (by simpa using HFN.out.2.2)
    have HFF:=Lib.hid (HF.out.trans hFx)
    cases hres:xW K.E r oa (xs.map v) m with
    |ok x m'=>
     have hc2:Calls Try.prog 52 #[.pointer (some ⟨K.pm,0,none⟩),.int .i64 oa,.slice ra xs.length rc,.int .i64 (101-(r:Int))] wr fun e w'=>e=.returned (.int .u16 (x:Int))/\(∃ov',MachAt w' K m' ov')/\Frm K.B wr w'/\x<65536:=by rw[hres] at hcall;exact hcall
     have HC2:=Lib.hid hc2
     have HR:=Lib.hid hres
     clear hcall hc2 hres hown hMr hFx hltI
     have hltI:¬(xs.length:Int)<xs.length:=by omega
     have hdp:(100-(r:Int))+1=101-(r:Int):=by omega
     go_wp2_with (go_at_call 52;go_must (refine HC2.out.mono ?_;rintro e w' ⟨rfl,⟨ov',hm'⟩,hf',hx'⟩))
     go_ret
     rw[HR.out]
     exact zQ.ok hm' (HFF.out.trans hf') hx'
    |trap k i m'=>
     have hc2:Calls Try.prog 52 #[.pointer (some ⟨K.pm,0,none⟩),.int .i64 oa,.slice ra xs.length rc,.int .i64 (101-(r:Int))] wr fun e w'=>e=.panicked [oE k i]/\(∃ov',MachAt w' K m' ov')/\Frm K.B wr w'/\True:=by rw[hres] at hcall;exact hcall
     have HC2:=Lib.hid hc2
     have HR:=Lib.hid hres
     clear hcall hc2 hres hown hMr hFx hltI
     have hltI:¬(xs.length:Int)<xs.length:=by omega
     have hdp:(100-(r:Int))+1=101-(r:Int):=by omega
     go_wp2_with (go_at_call 52;go_must (refine HC2.out.mono ?_;rintro e w' ⟨rfl,⟨ov',hm'⟩,hf',hx'⟩))
     exact⟨rfl,by rw[HR.out];exact zQ.trap hm' (HFF.out.trans hf')⟩
def mT (call:Int->List Nat->Mach->Res Nat):Prop:=∀f args m x m',call f args m=.ok x m'->m'.fuel<=m.fuel
theorem nV {E:IEnv}{o:IOp}{a b:Nat}{m m':Mach}{x:Nat}(h:mU E o a b m=.ok x m'):m'.fuel<=m.fuel:=by
 unfold mU at h
 have key:∀ {y:Nat} {m1:Mach},(Res.ok y m1:Res Nat)=.ok x m'->m1.fuel=m.fuel->m'.fuel<=m.fuel:=fun h e=>by cases h;omega
 by_cases c1:o.code=1;· rw[if_pos c1] at h;exact key h rfl
 rw[if_neg c1] at h;by_cases c2:o.code=2;· rw[if_pos c2] at h;exact key h rfl
 rw[if_neg c2] at h;by_cases c3:o.code=3;· rw[if_pos c3] at h;exact key h rfl
 rw[if_neg c3] at h;by_cases c4:o.code=4;· rw[if_pos c4] at h;exact key h rfl
 rw[if_neg c4] at h;by_cases c18:o.code=18
 ·rw[if_pos c18] at h;unfold pR at h;split at h
  ·split at h
   ·exact key h rfl
   ·cases h
  ·cases h
 rw[if_neg c18] at h;by_cases c19:o.code=19
 ·rw[if_pos c19] at h;unfold rl at h;split at h
  ·exact key h rfl
  ·cases h
 rw[if_neg c19] at h;by_cases c20:o.code=20
 ·rw[if_pos c20] at h;unfold sK at h;split at h
  ·split at h
   ·exact key h rfl
   ·cases h
  ·cases h
 rw[if_neg c20] at h;by_cases c21:o.code=21
 ·rw[if_pos c21] at h;unfold td at h;split at h
  ·exact key h rfl
  ·cases h
 rw[if_neg c21] at h;by_cases c22:o.code=22
 ·rw[if_pos c22] at h;unfold im at h;split at h
  ·split at h
   ·exact key h rfl
   ·cases h
  ·cases h
 rw[if_neg c22] at h;by_cases c23:o.code=23
 ·rw[if_pos c23] at h;unfold nX at h;split at h
  ·exact key h rfl
  ·cases h
 rw[if_neg c23] at h;by_cases c24:o.code=24
 ·rw[if_pos c24] at h;unfold uq at h;split at h
  ·exact key h rfl
  ·exact key h rfl
 rw[if_neg c24] at h;by_cases c25:o.code=25
 ·rw[if_pos c25] at h;exact key h rfl
 rw[if_neg c25] at h;unfold iy at h;split at h
 ·cases h
 ·exact key h rfl
theorem pI {E:IEnv}{call:Int->List Nat->Mach->Res Nat}(hc:mT call){o:IOp}{v:Int->Nat}{m m':Mach}{x:Nat}(h:oV E call o v m=.ok x m'):m'.fuel<=m.fuel:=by
 unfold oV at h
 by_cases c26:o.code=26
 ·rw[if_pos c26] at h;exact hc _ _ _ _ _ h
 ·rw[if_neg c26] at h
  by_cases c27:o.code=27
  ·rw[if_pos c27] at h
   unfold tY at h
   split at h
   ·split at h
    ·split at h
     ·rename_i h2;cases h;have:=hc _ _ _ _ _ h2;exact this
     ·cases h
    ·cases h;exact Int.le_refl _
   ·cases h;exact Int.le_refl _
  ·rw[if_neg c27] at h;exact nV h
theorem nK {E:IEnv}{call:Int->List Nat->Mach->Res Nat}(hc:mT call):∀ {ops:List IOp} {v v':Int->Nat} {m m':Mach},iq E call ops v m=.ok v' m'->m'.fuel<=m.fuel
 | [],v,v',m,m',h=>by cases h;exact Int.le_refl _
 |o::os,v,v',m,m',h=>by
  unfold iq at h
  split at h
  ·cases h
  ·split at h
   ·rename_i h2
    have h3:=pI hc h2
    have h4:=nK hc h
    simp only[Mach.pay] at h3
    omega
   ·cases h
theorem rt {E:IEnv}{call:Int->List Nat->Mach->Res Nat}(hc:mT call){blocks:List IBlk}:∀ {n:Nat} {a:Int} {args:List Nat} {v:Int->Nat} {m m':Mach} {x:Nat},tJ E call blocks n a args v m=.ok x m'->m'.fuel<=m.fuel
 |0,a,args,v,m,m',x,h=>by cases h
 |n+1,a,args,v,m,m',x,h=>by
  unfold tJ at h
  split at h
  ·cases h
  ·rename_i h2
   have h3:=nK hc h2
   split at h
   ·cases h
   ·split at h
    ·cases h;simp only[Mach.pay];omega
    ·split at h
     ·cases h
     ·have h4:=rt hc h
      simp only[Mach.pay] at h4
      omega
theorem pO (E:IEnv):∀r,mT (xW E r)
 |0=>fun f args m x m' h=>by cases h
 |r+1=>fun f args m x m' h=>by
  unfold xW at h
  split at h
  ·cases h
  ·exact rt (pO E r) h
end Go.Proofs.Ytojclalkfhoooaa
set_option maxRecDepth 8000
namespace Go.Proofs.Ytojclalkfhoooaa
open Go.RowKit
theorem UpN.lt {idom:List Int}{f:Int->Int}{t:Int}:∀ {k a a':Nat},UpN idom f t k a a'->a<idom.length->a'<idom.length
 |0,_,_,h,ha=>by rw[h.2];exact ha
 |k+1,_,_,h,_=>by obtain⟨_,a1,h1,_,h2⟩:=h;exact UpN.lt h2 h1
theorem nj {w:World}{b n:Nat}{f:Int->Int}(h:ud w b n f){x:Int}(hx:-9223372036854775808<=x/\x<=9223372036854775807)(k:Nat):
 (Instr.lookup 126 (.map (some b)) (.int .i64 x) false).run Try.prog (w.drewN k)=.ok (.int .i64 (f x)) (w.drewN k):=
 (ud.look (h.same (w':=w.drewN k) rfl) hx).1
theorem meet_any (w:World)(Bv Bi bv bm nm bi:Nat)(f:Int->Int)(idom:List Int)(hn:idom.length<=2000000)
 (c1:w.cell? ⟨Bv,0,none⟩=some (.pointer (some ⟨bv,0,none⟩))) (c2:w.cell? ⟨bv,1,none⟩=some (.map (some bm))) (hm:ud w bm nm f)
 (c3:w.cell? ⟨Bi,0,none⟩=some (.slice (some ⟨bi,0,none⟩) idom.length idom.length)) (hi:w.heap[bi]? =some (.cells (idom.map (Value.int .i64)).toArray 3 (0,0)))
 (k0 a b r:Nat) (ha:a<idom.length) (hb:b<idom.length) (hM:qZ idom f k0 a b r):
 Calls Try.prog 121 #[.int .i64 (a:Int),.int .i64 (b:Int),.pointer (some ⟨Bv,0,none⟩),.pointer (some ⟨Bi,0,none⟩)] w fun e w'=>e=.returned (.int .i64 (r:Int))/\∃n,w'=w.drewN n:=by
 have HM:=Lib.hid hM
 have HI:=Lib.hid hi
 have HMAP:=Lib.hid hm
 clear hM hi hm
 go_enter Try.func121,Try.ntmps121
 go_wp2
 go_loopg [0,1] k0 (fun k x y wr=>∃a b:Nat,a<idom.length/\b<idom.length/\x=.int .i64 (a:Int)/\y=.int .i64 (b:Int)/\Hid (qZ idom f k a b r)/\∃n,wr=w.drewN n)
 case atStart=>exact⟨a,b,ha,hb,rfl,rfl,HM,0,rfl⟩
 case round=>
  clear ha hb HM a b
  obtain⟨a,b,ha,hb,rfl,rfl,HM,n,rfl⟩:=hrel
  cases gk with
  |zero=>
   obtain⟨rfl,rfl⟩:=HM.out
   have hne:((r:Int) !=(r:Int))=false:=by simp
   go_wp2
   go_ret
   exact⟨rfl,n,rfl⟩
  |succ k=>
   obtain⟨hab,j,a',hu,j',b',hu',hM⟩:=HM.out
   have hne:((a:Int) !=(b:Int))=true:=by simp;omega
   have HU:=Lib.hid hu
   have HU':=Lib.hid hu'
   have HM2:=Lib.hid hM
   have la':=UpN.lt hu ha
   have lb':=UpN.lt hu' hb
   clear hab hu hu' hM HM
   go_wp2
   go_loopg [0] j (fun j x wr=>∃a:Nat,a<idom.length/\x=.int .i64 (a:Int)/\Hid (UpN idom f (f b) j a a')/\∃n,wr=w.drewN n)
   case atStart=>exact⟨a,ha,rfl,HU,n,rfl⟩
   case round=>
    clear HU
    obtain⟨x,hxl,rfl,HU,n2,rfl⟩:=hrel
    have la:=nj HMAP.out (x:=(x:Int)) (by omega)
    have lb:=nj HMAP.out (x:=(b:Int)) (by omega)
    cases gk with
    |zero=>
     obtain⟨ht,rfl⟩:=HU.out
     have htest:decide (f b<f a')=false:=by simpa using ht
     go_wp2
     go_quiet (fail)
     go_wp2
     go_loopg [1] j' (fun j y wr=>∃y0:Nat,y0<idom.length/\y=.int .i64 (y0:Int)/\Hid (UpN idom f (f a') j y0 b')/\∃n,wr=w.drewN n)
     case atStart=>exact⟨b,hb,rfl,HU',_,World.drewN_drewN _ _ _⟩
     case round=>
      clear HU' htest
      obtain⟨y,hyl,rfl,HU',n3,rfl⟩:=hrel
      have lc:=nj HMAP.out (x:=(y:Int)) (by omega)
      cases gk with
      |zero=>
       obtain⟨ht,rfl⟩:=HU'.out
       have htest:decide (f a'<f b')=false:=by simpa using ht
       go_wp2
       go_quiet (fail)
       go_wp2
       go_roundg k
       case measure=>omega
       case rel=>exact⟨a',b',la',lb',rfl,rfl,HM2,_,World.drewN_drewN _ _ _⟩
      |succ j2=>
       obtain⟨ht,y1,h1,hy,hu⟩:=HU'.out
       have htest:decide (f a'<f y)=true:=by simpa using ht
       have cy:w.cell? ⟨bi,y,none⟩=some (.int .i64 (y1:Int)):=zA HI.out (by simp[hy])
       have hyl1:(y:Int)<idom.length:=by omega
       have HU2:=Lib.hid hu
       clear hy hu HU'
       go_wp2
       go_quiet (fail)
       go_wp2
       go_roundg j2
       case measure=>omega
       case rel=>exact⟨y1,h1,rfl,HU2,_,rfl⟩
    |succ j2=>
     obtain⟨ht,a1,h1,hx,hu⟩:=HU.out
     have htest:decide (f b<f x)=true:=by simpa using ht
     have cx:w.cell? ⟨bi,x,none⟩=some (.int .i64 (a1:Int)):=zA HI.out (by simp[hx])
     have hxl1:(x:Int)<idom.length:=by omega
     have HU2:=Lib.hid hu
     clear hx hu HU
     go_wp2
     go_quiet (fail)
     go_wp2
     go_roundg j2
     case measure=>omega
     case rel=>exact⟨a1,h1,rfl,HU2,_,rfl⟩
end Go.Proofs.Ytojclalkfhoooaa
