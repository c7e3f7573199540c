/- Part of a proof. -/
import Derived.Test.YtojclalkfhoooaaIStep4
import Derived.Test.YtojclalkfhoooaaGMeet
set_option linter.unusedSimpArgs false
set_option linter.unusedVariables false
set_option maxHeartbeats 6400000
set_option maxRecDepth 100000
namespace Go.Proofs.Ytojclalkfhoooaa
open Go.RowKit
theorem nQ {w:World}{b q vb:Nat}{v:Value}{es:Array _}{c:Nat}(hc:w.cell? ⟨b,q,none⟩=some v)(hm:w.heap[vb]? =some (.map es c)):b≠vb:=by
 rintro rfl
 simp[World.cell?,hm] at hc
theorem MachAt.grownMap {w w':World}{K:MK}{m:Mach}{ov:Value}(h:MachAt w K m ov){vb:Nat}{es:Array _}{c:Nat}(hm:w.heap[vb]? =some (.map es c))(hB:K.B<=vb)(hg:w.grownBy w' (some vb)):MachAt w' K m ov:=by
 have n1:vb≠K.pm:=by rintro rfl;rw[h.blk] at hm;cases hm
 have n2:vb≠K.rb:=by rintro rfl;rw[h.ram] at hm;cases hm
 have hb:Below K.B w w':=(Below.refl _ _).grown hg (Nat.le_of_lt h.size) (fun k hk=>by simp at hk;omega)
 refine⟨zL hg h.blk (by simpa using n1),zL hg h.ram (by simpa using n2),h.rlen,h.rlt,h.out.kept hg ?_,h.olt,h.obd,h.fuel,h.inp,h.pol,h.gpm,h.grb,h.prog.below hb,h.inn.below zr hb,h.irq.below xQ hb⟩
 rcases h.out.2 with⟨hv,_⟩|⟨g,cap,cur,hv,_,hh,_⟩
 ·left;rw[hv];rfl
 ·right
  rw[hv]
  intro e
  simp only[Value.ownBlock,Option.some.injEq] at e
  subst e
  rw[hh] at hm;cases hm
theorem Frm.grownMap {B:Nat}{w0 w w':World}(h:Frm B w0 w){vb:Nat}(hn:w0.heap.size<=vb)(hB:B<=w0.heap.size)(hg:w.grownBy w' (some vb)):Frm B w0 w':=
 ⟨h.below.grown hg (Nat.le_trans hB h.below.size) (fun k hk=>by simp at hk;omega),fun k o hk hs=>zL hg (h.kept k o hk hs) (by have:=lt_of_block hk;simp;omega)⟩
theorem U16s.grownMap {w w':World}{B:Nat}{v:Value}{xs:List Nat}(h:wV w B v xs){vb:Nat}{es:Array _}{c:Nat}(hm:w.heap[vb]? =some (.map es c))(hg:w.grownBy w' (some vb)):wV w' B v xs:=by
 obtain⟨a,cap,rfl,h1,h2,h3⟩:=h
 refine⟨a,cap,rfl,h1,h2,fun k x hk=>?_⟩
 obtain⟨b,o,h4,h5,h6,h7⟩:=h3 k x hk
 exact⟨b,o,h4,h5,hg.cell h6 (by simpa using nQ h6 hm),h7⟩
structure CSt (K:MK) (w0 w:World) (m:Mach) (vb vn:Nat) (v:Int->Nat):Prop where
 mach:∃ov,MachAt w K m ov
 frm:Frm K.B w0 w
 map:xO w vb vn v
 new:w0.heap.size<=vb
 gb:K.B<w0.heap.size
theorem CSt.alloc {K:MK}{w0 w:World}{m:Mach}{vb vn:Nat}{v:Int->Nat}(h:CSt K w0 w m vb vn v)(o:Obj):CSt K w0 (w.alloc o) m vb vn v:=by
 obtain⟨ov,hm⟩:=h.mach
 exact⟨⟨ov,hm.keep ((Below.refl _ _).alloc (Nat.le_refl _) o)⟩,h.frm.trans ((Frm.refl _ _).alloc (by have:=hm.size;omega) o),h.map.kept ((Frm.refl K.B w).alloc (by have:=hm.size;omega) o),h.new,h.gb⟩
theorem CSt.store {K:MK}{w0 w w':World}{m:Mach}{vb vn n':Nat}{v v':Int->Nat}(h:CSt K w0 w m vb vn v)(hm:xO w' vb n' v')(hg:w.grownBy w' (some vb)):CSt K w0 w' m vb n' v':=by
 obtain⟨ov,hM⟩:=h.mach
 obtain⟨es,c,hb⟩:=h.map.blk
 exact⟨⟨ov,hM.grownMap hb (by have:=h.new;have:=h.gb;omega) hg⟩,h.frm.grownMap h.new (Nat.le_of_lt h.gb) hg,hm,h.new,h.gb⟩
theorem CSt.step {K:MK}{w0 w w':World}{m m':Mach}{vb vn:Nat}{v:Int->Nat}{ov':Value}(h:CSt K w0 w m vb vn v)(hM:MachAt w' K m' ov')(hF:Frm K.B w w'):CSt K w0 w' m' vb vn v:=
 ⟨⟨ov',hM⟩,h.frm.trans hF,h.map.kept hF,h.new,h.gb⟩
theorem CSt.keep {K:MK}{w0 w w':World}{m:Mach}{vb vn:Nat}{v:Int->Nat}(h:CSt K w0 w m vb vn v)(hb:Below w.heap.size w w'):CSt K w0 w' m vb vn v:=by
 obtain⟨ov,hm⟩:=h.mach
 exact h.step (hm.keep hb) ⟨hb.mono (Nat.le_of_lt hm.size),fun i o hi _=>zH hb hi (lt_of_block hi)⟩
theorem iA (K:MK):pq K 0:=by
 intro w m ov av f args h hf1 hf2 ha hl
 obtain⟨aa,ac,rfl,_,_⟩:=ha.form
 have hI:(100:Int)<101:=by omega
 have HM:=Lib.hid h
 clear h ha hl hf1 hf2
 go_enter Try.func52,Try.ntmps52
 go_wp2_with (go_at_call 80;go_must (refine(wj 5 0 _).mono ?_;rintro e w' ⟨rfl,rfl⟩))
 exact⟨rfl,zQ.trap HM.out (Frm.refl _ _)⟩
def jw (K:MK)(w0 wx:World)(r n:Nat)(blocks:List IBlk)(vb:Nat)(at':Nat)(av:Value)(R:Res Nat):Prop:=
 ∃(args:List Nat) (v:Int->Nat) (m:Mach) (vn:Nat),CSt K w0 wx m vb vn v/\wV wx wx.heap.size av args/\args.length=(xz blocks at').params.length/\at'<blocks.length/\m.fuel.toNat<n/\vn+m.fuel.toNat*70000<=300000000000/\tJ K.E (xW K.E r) blocks n at' args v m=R
theorem rh {blocks:List IBlk}{a:Nat}(h:a<blocks.length):blocks[a]? =some (xz blocks a):=by
 unfold xz;rw[Int.toNat_natCast,List.getD_eq_getElem?_getD,List.getElem?_eq_getElem h];rfl
theorem ru (E:IEnv)(call:Int->List Nat->Mach->Res Nat)(blocks:List IBlk)(n:Nat)(a:Int)(args:List Nat)(v:Int->Nat)(m:Mach):tJ E call blocks (n+1) a args v m=
 match iq E call (xz blocks a).ops (r7 (xz blocks a).params args v) m with
 |.trap k i m'=> .trap k i m'
 |.ok v2 m2=>
  if m2.fuel<=0 then .trap 7 0 m2
  else if(xz blocks a).term.kind=4 then .ok (if(xz blocks a).term.a=-1 then 0 else v2 (xz blocks a).term.a) m2.pay
  else if(xz blocks a).term.kind=5 then .trap 1 0 m2.pay
  else tJ E call blocks n (wK (xz blocks a).term (v2 (xz blocks a).term.a)).block ((wK (xz blocks a).term (v2 (xz blocks a).term.a)).args.map v2) v2 m2.pay:=rfl
theorem j7 (E:IEnv)(call:Int->List Nat->Mach->Res Nat)(o:IOp)(os:List IOp)(v:Int->Nat)(m:Mach):iq E call (o::os) v m=
 if m.fuel<=0 then .trap 7 0 m
 else match oV E call o v m.pay with
  |.ok r m'=>iq E call os (setV v o.res r) m'
  |.trap k i m'=> .trap k i m':=rfl
theorem bd_next {vn p1 p2:Nat}(h1:vn+p2*70000<=300000065536)(h4:p1+1=p2):vn+p1*70000<=300000000000:=by
 subst h4
 rw[Nat.add_mul,<-Nat.add_assoc] at h1
 exact Nat.le_trans (Nat.le_of_add_le_add_right (b:=70000) (show vn+p1*70000+70000<=299999995536+70000 from h1)) (by decide)
def OpsSt (K:MK)(w0 wx:World)(r:Nat)(vb b12:Nat)(cs:Array Value)(m1:Mach)(os:List IOp)(R:Res (Int->Nat)):Prop:=
 ∃(v:Int->Nat) (m:Mach) (vn:Nat),CSt K w0 wx m vb vn v/\wx.heap[b12]? =some (.cells cs 49 (0,0))/\vn+m.fuel.toNat*70000<=300000065536/\m.fuel<=m1.fuel/\iq K.E (xW K.E r) os v m=R
theorem jC (K:MK)(hok:OkProg K.E.p)(r:Nat)(hr:r+1<=100)(hC:pq K r):pq K (r+1):=by
 intro w m ov av f args h hf1 hf2 ha hl
 obtain⟨aa,ac,rfl,_,_⟩:=ha.form
 obtain⟨k,rfl⟩:∃k:Nat,f=(k:Int):=⟨f.toNat,by omega⟩
 have hfs:=h.prog.funcs
 obtain⟨fa,fc,hfv,_,_⟩:=hfs.form
 have c0:=h.c0
 rw[hfv] at hfs c0
 have hkl:k<K.E.p.funcs.length:=by omega
 obtain⟨blocks,hbl⟩:∃bl,K.E.p.funcs[k]? =some bl:=⟨_,List.getElem?_eq_getElem hkl⟩
 obtain⟨fb,fo,rfl,_,bv,hbv,hbk⟩:=hfs.get hbl
 rw[Nat.mul_one] at hbv
 obtain⟨ba,bc,rfl,_,hbcm⟩:=hbk.form
 have hgd:K.E.p.funcs.getD (k:Int).toNat []=blocks:=by rw[Int.toNat_natCast,List.getD_eq_getElem?_getD,hbl];rfl
 have hkI:(k:Int)<K.E.p.funcs.length:=by omega
 have hdep:(101-((r+1:Nat):Int))=100-(r:Int):=by omega
 have hd1:¬(100:Int)<100-(r:Int):=by omega
 have hunf:xW K.E (r+1) k args m=if blocks.isEmpty then .trap 8 ((k:Int)%65536).toNat m else tJ K.E (xW K.E r) blocks (m.fuel.toNat+1) 0 args (fun _=>0) m:=by
  show(if(K.E.p.funcs.getD (k:Int).toNat []).isEmpty then _ else _)=_
  rw[hgd]
 have HM:=Lib.hid h
 have HBK:=Lib.hid hbk
 have HC:=Lib.hid hC
 have HOK:=Lib.hid hok
 have HBL:=Lib.hid hbl
 have HA:=Lib.hid (And.intro ha hl)
 have hB:=h.size
 rw[hdep]
 have HUN:=Lib.hid hunf
 clear h hfs hfv hkl hf1 hf2 hgd hbk hC hok hbl ha hl hdep hunf
 by_cases hbe:blocks.length=0
 ·have t1:((blocks.length:Int)==0)=true:=by rw[beq_iff_eq];omega
  have EE:=Lib.hid (show xW K.E (r+1) k args m=.trap 8 ((k:Int)%65536).toNat m by rw[HUN.out,if_pos (by rw[List.isEmpty_iff];exact List.eq_nil_of_length_eq_zero hbe)])
  obtain⟨q,hq⟩:∃q:Nat,((k:Int)%65536).toNat=q:=⟨_,rfl⟩
  have hwr:IntKind.u16.wrap (k:Int)=(q:Int):=by rw[xY];omega
  rw[hq] at EE
  clear hbe hq
  go_enter Try.func52,Try.ntmps52
  go_wp2_with (go_at_call 80;go_must (refine(wj 8 q _).mono ?_;rintro e w' ⟨rfl,rfl⟩))
  exact⟨rfl,by rw[EE.out];exact zQ.trap HM.out (Frm.refl _ _)⟩
 ·have t1:((blocks.length:Int)==0)=false:=by rw[beq_eq_false_iff_ne];omega
  have EE:=Lib.hid (show xW K.E (r+1) k args m=tJ K.E (xW K.E r) blocks (m.fuel.toNat+1) 0 args (fun _=>0) m by rw[HUN.out,if_neg (by rw[List.isEmpty_iff];intro e;exact hbe (by rw[e];rfl))])
  obtain⟨RES,hRES⟩:∃R,xW K.E (r+1) k args m=R:=⟨_,rfl⟩
  have hst:Hid (jw K w (w.alloc (.map #[] 0)) r (m.fuel.toNat+1) blocks w.heap.size 0 (.slice aa args.length ac) RES):=by
   refine⟨args,fun _=>0,m,0,⟨⟨ov,HM.out.keep ((Below.refl _ _).alloc (Nat.le_refl _) _)⟩,(Frm.refl _ _).alloc (Nat.le_of_lt hB) _,xO.made w,Nat.le_refl _,hB⟩,?_,?_,by omega,by omega,?_,?_⟩
   ·exact(HA.out.1.below zr ((Below.refl _ _).alloc (Nat.le_refl _) _)).mono zr (by simp)
   ·obtain⟨b,bs,rfl⟩:∃b bs,blocks=b::bs:=by
     cases blocks with
     |nil=>exact absurd rfl hbe
     |cons b bs=>exact⟨b,bs,rfl⟩
    have h1:=HOK.out.par k b bs HBL.out
    have h2:=HA.out.2
    rw[Int.toNat_natCast] at h2
    show args.length=b.params.length
    omega
   ·have:=HM.out.obd;omega
   ·rw[<-hRES,EE.out];rfl
  rw[hRES]
  have HBS:=Lib.hid (show ∀b∈blocks,OkBlk K.E.p blocks b from HOK.out.blk blocks (List.mem_of_getElem? HBL.out))
  have hnz:0<blocks.length:=by omega
  have HNZ:=Lib.hid hnz
  clear hbe hRES EE HUN hnz HA
  generalize hgas:m.fuel.toNat+1=gas at hst
  clear hgas
  have hmm:=@run_makeMap Try.prog
  go_enter Try.func52,Try.ntmps52
  go_wp2
  go_loopg [2,11] gas (fun n sv atv wx=>∃(at':Nat) (sa:Option Addr) (sn sc:Nat),sv=.slice sa sn sc/\atv=.int .i64 (at':Int)/\Hid (jw K w wx r n blocks w.heap.size at' (.slice sa sn sc) RES))
  case atStart=>exact⟨0,aa,args.length,ac,rfl,rfl,hst⟩
  case round=>
   obtain⟨at',sa,sn,sc,rfl,rfl,HS⟩:=hrel
   cases gk with
   |zero=>obtain⟨_,_,m1,_,_,_,_,_,hlt,_⟩:=HS.out;exact absurd hlt (Nat.not_lt_zero _)
   |succ n=>
    obtain⟨args1,v1,m1,vn1,hcs,hargs,hal,hat,hfl,hbd,hbr⟩:=HS.out
    obtain⟨sa',sc',e1,_,_⟩:=hargs.form
    cases e1
    have hblk:=HBK.out.get (rh hat)
    have hok1:=HBS.out _ (List.mem_of_getElem? (rh hat))
    generalize hbeq:xz blocks at'=bk at *
    have HBEQ:=Lib.hid hbeq
    obtain⟨bb,bo,rfl,hbbB,k2,k3,hki,pv,ov1,tv,kp,ko,kt,hpv,hov,htv⟩:=hblk
    have k2:=zV hcs.frm.below hbbB k2
    have k3:=zV hcs.frm.below hbbB k3
    have kp:=zV hcs.frm.below hbbB kp
    have ko:=zV hcs.frm.below hbbB ko
    have kt:=zV hcs.frm.below hbbB kt
    obtain⟨pa,pc,rfl,_,_⟩:=hpv.form
    obtain⟨oa,oc,rfl,_,_⟩:=hov.form
    obtain⟨ta,tc,rfl,_,_⟩:=htv.form
    have hatI:(at':Int)<blocks.length:=by omega
    have HCS:=Lib.hid hcs
    have HARGS:=Lib.hid (And.intro hargs hal)
    have HBR:=Lib.hid (And.intro hbr (And.intro hfl hbd))
    have HOK1:=Lib.hid hok1
    have HPV:=Lib.hid (And.intro hpv (And.intro hov (And.intro htv hki)))
    clear hst HS hcs hargs hal hfl hbd hbr hok1 hbeq hpv hov htv hki hat
    go_upto_region 9 with fail
    have hcs1:=HCS.out.alloc (.cells #[.slice pa bk.params.length pc,.slice oa bk.ops.length oc,.int .i64 bk.term.kind,.int .i64 bk.term.a,.slice ta bk.term.to.length tc] 49)
    have hb12:(wr.alloc (.cells #[.slice pa bk.params.length pc,.slice oa bk.ops.length oc,.int .i64 bk.term.kind,.int .i64 bk.term.a,.slice ta bk.term.to.length tc] 49)).heap[wr.heap.size]? =some (.cells #[.slice pa bk.params.length pc,.slice oa bk.ops.length oc,.int .i64 bk.term.kind,.int .i64 bk.term.a,.slice ta bk.term.to.length tc] 49 (0,0)):=zI rfl
    have hargs1:=(HARGS.out.1.below zr ((Below.refl _ _).alloc (Nat.le_refl _) (.cells #[.slice pa bk.params.length pc,.slice oa bk.ops.length oc,.int .i64 bk.term.kind,.int .i64 bk.term.a,.slice ta bk.term.to.length tc] 49))).mono zr (B':=(wr.alloc (.cells #[.slice pa bk.params.length pc,.slice oa bk.ops.length oc,.int .i64 bk.term.kind,.int .i64 bk.term.a,.slice ta bk.term.to.length tc] 49)).heap.size) (by simp)
    generalize hW1:wr.alloc (.cells #[.slice pa bk.params.length pc,.slice oa bk.ops.length oc,.int .i64 bk.term.kind,.int .i64 bk.term.a,.slice ta bk.term.to.length tc] 49)=W1 at *
    generalize wr.heap.size=b12 at *
    have c121:W1.cell? ⟨b12,0,none⟩=some (.slice pa bk.params.length pc):=zA hb12 (by simp)
    have HP0:=Lib.hid (show CSt K w W1 m1 w.heap.size vn1 v1/\wV W1 W1.heap.size (.slice sa args1.length sc) args1/\W1.heap[b12]? =some (.cells #[.slice pa bk.params.length pc,.slice oa bk.ops.length oc,.int .i64 bk.term.kind,.int .i64 bk.term.a,.slice ta bk.term.to.length tc] 49 (0,0)) from⟨hcs1,hargs1,hb12⟩)
    have hpl:=HOK1.out.2.2
    clear hW1 hcs1 hargs1 hb12 k2 k3 kp ko kt
    go_wp2
    go_loopw [47] (fun jv wx=>∃j:Nat,j<=bk.params.length/\jv=.int .i64 (j:Int)/\Hid (CSt K w wx m1 w.heap.size (vn1+j) (r7 (bk.params.take j) (args1.take j) v1)/\wV wx wx.heap.size (.slice sa args1.length sc) args1/\wx.heap[b12]? =some (.cells #[.slice pa bk.params.length pc,.slice oa bk.ops.length oc,.int .i64 bk.term.kind,.int .i64 bk.term.a,.slice ta bk.term.to.length tc] 49 (0,0)))) (fun jv _=>bk.params.length-(intOf jv).toNat)
    case atStart=>exact⟨0,Nat.zero_le _,rfl,HP0.out⟩
    case round=>
     obtain⟨j,hj,rfl,HJ⟩:=hrel
     by_cases hltj:j<bk.params.length
     ·skip
      have hltjI:(j:Int)<bk.params.length:=by omega
      have HLTJ:=Lib.hid hltj
      obtain⟨x,hx⟩:∃x,bk.params[j]? =some x:=⟨_,List.getElem?_eq_getElem hltj⟩
      obtain⟨y,hy⟩:∃y,args1[j]? =some y:=⟨_,List.getElem?_eq_getElem (by rw[HARGS.out.2];exact hltj)⟩
      obtain⟨b1,o1,rfl,hb1,hc1,hx64⟩:=HPV.out.1.get hx
      rw[Nat.mul_one] at hc1
      have cp:=zV HJ.out.1.frm.below hb1 hc1
      obtain⟨b2,o2,rfl,hb2,hc2,hy16⟩:=HJ.out.2.1.get hy
      rw[Nat.mul_one] at hc2
      have hyI:(j:Int)<args1.length:=by have:=HARGS.out.2;omega
      have hsn:=qq (bk.params.take j) (args1.take j) v1 x y (by have:=HARGS.out.2;rw[List.length_take,List.length_take];omega)
      have e1:bk.params.take (j+1)=bk.params.take j++ [x]:=by rw[List.take_add_one,hx];rfl
      have e2:args1.take (j+1)=args1.take j++ [y]:=by rw[List.take_add_one,hy];rfl
      rw[<-e1,<-e2] at hsn
      have HSN:=Lib.hid hsn
      have hvn:vn1+j<9000000000000000000:=by have:=HBR.out.2.2;omega
      obtain⟨es,ec,hmb⟩:=HJ.out.1.map.blk
      have HMB:=Lib.hid hmb
      clear hx hy hc1 hsn e1 e2 hb1 hb2 hltj hmb
      go_wp2_with (at_mapUpdate;go_must (refine us rfl (.tmp 52) (.tmp 53) (.tmp 57) rfl HJ.out.1.map hvn x y rfl rfl rfl hx64 hy16 ?_;intro w5 hm5 hg5;have HG5:=Lib.hid (And.intro hm5 hg5);clear hm5 hg5))
      go_roundw
      case rel=>
       refine⟨j+1,HLTJ.out,by go_num,?_,?_,?_⟩
       ·rw[HSN.out];exact HJ.out.1.store HG5.out.1 HG5.out.2
       ·exact(U16s.grownMap HJ.out.2.1 HMB.out HG5.out.2).mono zr HG5.out.2.size
       ·refine zL HG5.out.2 HJ.out.2.2 ?_
        intro e
        have hmb:=HMB.out
        rw[Option.some.inj e,HJ.out.2.2] at hmb
        cases hmb
      case measure=>have:=HLTJ.out;simp[intOf];omega
     ·skip
      obtain rfl:j=bk.params.length:=by omega
      have hltjI:¬(bk.params.length:Int)<bk.params.length:=by omega
      have hfull:r7 (bk.params.take bk.params.length) (args1.take bk.params.length) v1=r7 bk.params args1 v1:=by rw[List.take_length,<-HARGS.out.2,List.take_length]
      have HQ:=HJ.out
      rw[hfull] at HQ
      have HV0:=Lib.hid HQ
      have c122:wr.cell? ⟨b12,1,none⟩=some (.slice oa bk.ops.length oc):=zA HQ.2.2 (by simp)
      obtain⟨OR,hOR⟩:∃R,iq K.E (xW K.E r) bk.ops (r7 bk.params args1 v1) m1=R:=⟨_,rfl⟩
      have HOR:=Lib.hid hOR
      generalize hcse:(#[.slice pa bk.params.length pc,.slice oa bk.ops.length oc,.int .i64 bk.term.kind,.int .i64 bk.term.a,.slice ta bk.term.to.length tc]:Array Value)=cs at *
      have HCE:=Lib.hid hcse
      have hst0:Hid (OpsSt K w wr r w.heap.size b12 cs m1 (bk.ops.drop 0) OR):=⟨_,m1,_,HQ.1,HQ.2.2,by have:=HBR.out.2.2;have:=HOK1.out.2.2;omega,Int.le_refl _,hOR⟩
      clear HQ hfull HJ hOR HV0 hcse HP0
      go_wp2
      go_loopw [62] (fun jv wx=>∃j:Nat,j<=bk.ops.length/\jv=.int .i64 (j:Int)/\Hid (OpsSt K w wx r w.heap.size b12 cs m1 (bk.ops.drop j) OR)) (fun jv _=>bk.ops.length-(intOf jv).toNat)
      case atStart=>exact⟨0,Nat.zero_le _,rfl,hst0⟩
      case round=>
       obtain⟨j,hj,rfl,HJ⟩:=hrel
       by_cases hltj:j<bk.ops.length
       ·skip
        have hltjI:(j:Int)<bk.ops.length:=by omega
        have HLTJ:=Lib.hid hltj
        obtain⟨o,ho⟩:∃o,bk.ops[j]? =some o:=⟨_,List.getElem?_eq_getElem hltj⟩
        have hdrop:bk.ops.drop j=o::bk.ops.drop (j+1):=by rw[List.drop_eq_getElem_cons hltj];rw[List.getElem?_eq_getElem hltj] at ho;rw[Option.some.inj ho]
        obtain⟨v2,m2,vn2,hcs2,hb12,hbd2,hf2,hor2⟩:=HJ.out
        rw[hdrop,j7] at hor2
        obtain⟨b1,o1,rfl,hb1,g0,g1,g2,g3,g4,hint,av3,g5,hxs⟩:=HPV.out.2.1.get ho
        obtain⟨xa,xc,rfl,_,_⟩:=hxs.form
        have d0:=zV hcs2.frm.below hb1 g0
        have d1:=zV hcs2.frm.below hb1 g1
        have d2:=zV hcs2.frm.below hb1 g2
        have d3:=zV hcs2.frm.below hb1 g3
        have d4:=zV hcs2.frm.below hb1 g4
        have d5:=zV hcs2.frm.below hb1 g5
        have HCS2:=Lib.hid hcs2
        have HB12:=Lib.hid hb12
        have HBD2:=Lib.hid (And.intro hbd2 (And.intro hf2 hor2))
        have HXS:=Lib.hid (And.intro hxs hint)
        have HOO:=Lib.hid (HOK1.out.1 o (List.mem_of_getElem? ho))
        clear hcs2 hb12 hbd2 hf2 hor2 hxs hint hdrop g0 g1 g2 g3 g4 g5 hb1 hltj ho
        go_upto_region 17 with fail
        have hcs3:=HCS2.out.alloc (.cells #[.int .i64 o.code,.int .i64 o.res,.int .i64 o.a,.int .i64 o.b,.int .u16 (o.n:Int),.slice xa o.args.length xc] 77)
        have hb16:(wr.alloc (.cells #[.int .i64 o.code,.int .i64 o.res,.int .i64 o.a,.int .i64 o.b,.int .u16 (o.n:Int),.slice xa o.args.length xc] 77)).heap[wr.heap.size]? =some (.cells #[.int .i64 o.code,.int .i64 o.res,.int .i64 o.a,.int .i64 o.b,.int .u16 (o.n:Int),.slice xa o.args.length xc] 77 (0,0)):=zI rfl
        have hb12a:=zB (o:=.cells #[.int .i64 o.code,.int .i64 o.res,.int .i64 o.a,.int .i64 o.b,.int .u16 (o.n:Int),.slice xa o.args.length xc] 77) HB12.out
        generalize hW2:wr.alloc (.cells #[.int .i64 o.code,.int .i64 o.res,.int .i64 o.a,.int .i64 o.b,.int .u16 (o.n:Int),.slice xa o.args.length xc] 77)=W2 at *
        generalize wr.heap.size=b16 at *
        obtain⟨ov2,hM2⟩:=hcs3.mach
        have HM2:=Lib.hid hM2
        have HCS3:=Lib.hid hcs3
        have HB16:=Lib.hid (And.intro hb16 hb12a)
        clear hW2 hcs3 hb16 hb12a hM2 d0 d1 d2 d3 d4 d5
        by_cases hfu:m2.fuel<=0
        ·skip
         have hor:=HBD2.out.2.2
         rw[if_pos hfu] at hor
         have hbr:=HBR.out.1
         rw[ru,HBEQ.out,HOR.out,<-hor] at hbr
         have HRS:=Lib.hid hbr
         have HFU:=Lib.hid hfu
         clear hor hbr hfu
         go_wp2_with (go_at_call 81;go_must (refine(pay_no HM2.out HFU.out).mono ?_;rintro e w3 ⟨rfl,rfl⟩))
         exact⟨rfl,by rw[<-HRS.out];exact zQ.trap HM2.out HCS3.out.frm⟩
        ·skip
         have hor:=HBD2.out.2.2
         rw[if_neg hfu] at hor
         have HOR2:=Lib.hid hor
         have HFU:=Lib.hid (show 0<m2.fuel by omega)
         clear hor hfu
         go_upto_region 18 with(go_at_call 81;go_must (refine(iN HM2.out HFU.out).mono ?_;rintro e w3 ⟨rfl,hM3,hF3⟩))
         have hcs4:=HCS3.out.step hM3 hF3
         have hb16:=hF3.kept _ _ HB16.out.1 (by simp[sA])
         have hb12:=hF3.kept _ _ HB16.out.2 (by simp[sA])
         have q0:w3.cell? ⟨b16,0,none⟩=some (.int .i64 o.code):=zA hb16 (by simp)
         have q1:w3.cell? ⟨b16,1,none⟩=some (.int .i64 o.res):=zA hb16 (by simp)
         have q2:w3.cell? ⟨b16,2,none⟩=some (.int .i64 o.a):=zA hb16 (by simp)
         have q3:w3.cell? ⟨b16,3,none⟩=some (.int .i64 o.b):=zA hb16 (by simp)
         have q4:w3.cell? ⟨b16,4,none⟩=some (.int .u16 (o.n:Int)):=zA hb16 (by simp)
         have q5:w3.cell? ⟨b16,5,none⟩=some (.slice xa o.args.length xc):=zA hb16 (by simp)
         have hstep:=step_any hM3 HOK.out HOO.out HXS.out.2 ((HXS.out.1.below zO hcs4.frm.below).mono zO (Nat.le_of_lt hM3.size)) hcs4.map (show r<=100 by omega) HC.out (by have:=HM2.out.obd;have:=HFU.out;simp only[Mach.pay];omega)
         have HCS4:=Lib.hid hcs4
         have HB4:=Lib.hid (And.intro hb16 hb12)
         clear hcs4 hb16 hb12 hM3 hF3
         cases hres:oV K.E (xW K.E r) o v2 m2.pay with
         |ok x m4=>
          have hs2:Calls Try.prog 82 #[.pointer (some ⟨K.pm,0,none⟩),.agg #[.int .i64 o.code,.int .i64 o.res,.int .i64 o.a,.int .i64 o.b,.int .u16 (o.n:Int),.slice xa o.args.length xc],.map (some w.heap.size),.int .i64 (100-(r:Int))] w3 fun e w'=>e=.returned (.int .u16 (x:Int))/\(∃ov',MachAt w' K m4 ov')/\Frm K.B w3 w'/\x<65536:=by rw[hres] at hstep;exact hstep
          have HS2:=Lib.hid hs2
          have hor:=HOR2.out
          rw[hres] at hor
          have hfu4:=pI (pO K.E r) hres
          have HX:=Lib.hid (And.intro hor hfu4)
          clear hs2 hor hfu4 hres hstep
          go_upto_region 19 with(go_at_call 82;go_must (refine HS2.out.mono ?_;rintro e w4 ⟨rfl,⟨ov4,hM4⟩,hF4,hx4⟩))
          have hcs5:=HCS4.out.step hM4 hF4
          have hb16:=hF4.kept _ _ HB4.out.1 (by simp[sA])
          have hb12:=hF4.kept _ _ HB4.out.2 (by simp[sA])
          have s1:w4.cell? ⟨b16,1,none⟩=some (.int .i64 o.res):=zA hb16 (by simp)
          have HB12b:=Lib.hid hb12
          have hbd5:vn2+1+m4.fuel.toNat*70000<=300000065536:=by
           have h1:=HBD2.out.1;have h2:=HX.out.2;have h3:=HFU.out
           simp only[Mach.pay] at h2
           have h4:m4.fuel.toNat+1<=m2.fuel.toNat:=by omega
           omega
          have hf5:m4.fuel<=m1.fuel:=by have h1:=HBD2.out.2.1;have h2:=HX.out.2;simp only[Mach.pay] at h2;omega
          have HCS5:=Lib.hid hcs5
          have HBF:=Lib.hid (And.intro hbd5 hf5)
          have hvn:vn2<9000000000000000000:=by omega
          have hmp:=hcs5.map
          have hri:=HXS.out.2.2.1
          clear hcs5 hb16 hb12 hbd5 hf5 q0 q1 q2 q3 q4 q5
          by_cases hre:0<=o.res
          ·have hno:=HX.out.1
           unfold setV at hno
           rw[if_pos hre] at hno
           have HNO:=Lib.hid hno
           clear hno
           go_wp2_with (at_mapUpdate;go_must (refine us rfl (.tmp 76) (.tmp 78) (.tmp 79) rfl hmp hvn o.res x rfl rfl rfl hri hx4 ?_;intro w5 hm5 hg5;have HG5:=Lib.hid (And.intro hm5 hg5);clear hm5 hg5))
           go_roundw
           case rel=>
            refine⟨j+1,HLTJ.out,by go_num,_,m4,vn2+1,HCS5.out.store HG5.out.1 HG5.out.2,?_,HBF.out.1,HBF.out.2,HNO.out⟩
            refine zL HG5.out.2 HB12b.out ?_
            intro e
            obtain⟨es,ec,hmb⟩:=HCS5.out.map.blk
            rw[Option.some.inj e,HB12b.out] at hmb
            cases hmb
           case measure=>have:=HLTJ.out;simp[intOf];omega
          ·have hno:=HX.out.1
           unfold setV at hno
           rw[if_neg hre] at hno
           have HNO:=Lib.hid hno
           clear hno
           go_wp2
           go_roundw
           case rel=>exact⟨j+1,HLTJ.out,by go_num,_,m4,vn2,HCS5.out,HB12b.out,by have:=HBF.out.1;omega,HBF.out.2,HNO.out⟩
           case measure=>have:=HLTJ.out;simp[intOf];omega
         |trap k2 i2 m4=>
          have hs2:Calls Try.prog 82 #[.pointer (some ⟨K.pm,0,none⟩),.agg #[.int .i64 o.code,.int .i64 o.res,.int .i64 o.a,.int .i64 o.b,.int .u16 (o.n:Int),.slice xa o.args.length xc],.map (some w.heap.size),.int .i64 (100-(r:Int))] w3 fun e w'=>e=.panicked [oE k2 i2]/\(∃ov',MachAt w' K m4 ov')/\Frm K.B w3 w'/\True:=by rw[hres] at hstep;exact hstep
          have HS2:=Lib.hid hs2
          have hor:=HOR2.out
          rw[hres] at hor
          have hbr:=HBR.out.1
          rw[ru,HBEQ.out,HOR.out,<-hor] at hbr
          have HRS:=Lib.hid hbr
          clear hs2 hor hbr hres hstep
          go_wp2_with (go_at_call 82;go_must (refine HS2.out.mono ?_;rintro e w4 ⟨rfl,⟨ov4,hM4⟩,hF4,hx4⟩))
          exact⟨rfl,by rw[<-HRS.out];exact zQ.trap hM4 (HCS4.out.frm.trans hF4)⟩
       ·skip
        obtain rfl:j=bk.ops.length:=by omega
        have hltjI:¬(bk.ops.length:Int)<bk.ops.length:=by omega
        obtain⟨v2,m2,vn2,hcs2,hb12,hbd2,hf2,hor2⟩:=HJ.out
        rw[List.drop_length] at hor2
        have hbr:=HBR.out.1
        rw[ru,HBEQ.out,HOR.out,<-hor2] at hbr
        have hbr':(if m2.fuel<=0 then .trap 7 0 m2 else if bk.term.kind=4 then .ok (if bk.term.a=-1 then 0 else v2 bk.term.a) m2.pay else if bk.term.kind=5 then .trap 1 0 m2.pay else tJ K.E (xW K.E r) blocks n (wK bk.term (v2 bk.term.a)).block ((wK bk.term (v2 bk.term.a)).args.map v2) v2 m2.pay)=RES:=hbr
        obtain⟨ov2,hM2⟩:=hcs2.mach
        have HM2:=Lib.hid hM2
        have HCS2:=Lib.hid hcs2
        have HB2:=Lib.hid (And.intro hb12 (And.intro hbd2 hf2))
        have HBR2:=Lib.hid hbr'
        clear hor2 hbr hbr' hcs2 hb12 hbd2 hf2 HJ hM2 hst0
        by_cases hfu:m2.fuel<=0
        ·skip
         have hbr:=HBR2.out
         rw[if_pos hfu] at hbr
         have HRS:=Lib.hid hbr
         have HFU:=Lib.hid hfu
         clear hbr hfu
         go_wp2_with (go_at_call 81;go_must (refine(pay_no HM2.out HFU.out).mono ?_;rintro e w3 ⟨rfl,rfl⟩))
         exact⟨rfl,by rw[<-HRS.out];exact zQ.trap HM2.out HCS2.out.frm⟩
        ·have hbr:=HBR2.out
         rw[if_neg hfu] at hbr
         have HBR3:=Lib.hid hbr
         have HFU:=Lib.hid (show 0<m2.fuel by omega)
         clear hbr hfu
         go_upto_region 23 with(go_at_call 81;go_must (refine(iN HM2.out HFU.out).mono ?_;rintro e w3 ⟨rfl,hM3,hF3⟩))
         have hcs3:=HCS2.out.step hM3 hF3
         have hb12:=hF3.kept _ _ HB2.out.1 (by simp[sA])
         rw[<-HCE.out] at hb12
         have q2:w3.cell? ⟨b12,2,none⟩=some (.int .i64 bk.term.kind):=zA hb12 (by simp)
         have q3:w3.cell? ⟨b12,3,none⟩=some (.int .i64 bk.term.a):=zA hb12 (by simp)
         have q4:w3.cell? ⟨b12,4,none⟩=some (.slice ta bk.term.to.length tc):=zA hb12 (by simp)
         have lk:=hcs3.map.look (x:=bk.term.a) HPV.out.2.2.2.2
         have hv16:=hcs3.map.2 bk.term.a
         have HCS3:=Lib.hid hcs3
         have HM3:=Lib.hid hM3
         clear hcs3 hb12 hM3 hF3
         by_cases h4:bk.term.kind=4
         ·skip
          have hbr:=HBR3.out
          rw[if_pos h4] at hbr
          rw[h4] at q2
          by_cases ha1:bk.term.a=-1
          ·rw[if_pos ha1] at hbr
           have t2:(bk.term.a==-1)=true:=by rw[beq_iff_eq];exact ha1
           have HRS:=Lib.hid hbr
           clear hbr h4 ha1
           go_wp2
           go_ret
           rw[<-HRS.out]
           exact zQ.ok (x:=0) HM3.out HCS3.out.frm (by decide)
          ·rw[if_neg ha1] at hbr
           have t2:(bk.term.a==-1)=false:=by rw[beq_eq_false_iff_ne];exact ha1
           have HRS:=Lib.hid hbr
           clear hbr h4 ha1
           go_wp2
           go_ret
           rw[<-HRS.out]
           exact zQ.ok HM3.out HCS3.out.frm hv16
         ·by_cases h5:bk.term.kind=5
          ·skip
           have hbr:=HBR3.out
           rw[if_neg h4,if_pos h5] at hbr
           rw[h5] at q2
           have HRS:=Lib.hid hbr
           clear hbr h4 h5
           go_wp2_with (go_at_call 80;go_must (refine(wj 1 0 _).mono ?_;rintro e w' ⟨rfl,rfl⟩))
           exact⟨rfl,by rw[<-HRS.out];exact zQ.trap HM3.out HCS3.out.frm⟩
          ·skip
           have hbr:=HBR3.out
           rw[if_neg h4,if_neg h5] at hbr
           have t4:(bk.term.kind==4)=false:=by rw[beq_eq_false_iff_ne];exact h4
           have t5:(bk.term.kind==5)=false:=by rw[beq_eq_false_iff_ne];exact h5
           have hmem:=lL HOK1.out.2.1 h4 h5 (v2 bk.term.a)
           have hedge:=HOK1.out.2.1.2.2.2.2 _ hmem
           have hcall:=edge_any (w:=w3) (B:=K.B) (t:=bk.term) (blocks:=blocks) (tv:=.slice ta bk.term.to.length tc) (HPV.out.2.2.1.below xL HCS3.out.frm.below) HPV.out.2.2.2.1 (Nat.le_of_lt HM3.out.size) HOK1.out.2.1 h4 h5 (v2 bk.term.a) hv16
           obtain⟨x,hxe⟩:∃x,wK bk.term (v2 bk.term.a)=x:=⟨_,rfl⟩
           rw[hxe] at hbr hmem hedge hcall
           have HCL:=Lib.hid hcall
           have HRS:=Lib.hid (And.intro hbr hedge)
           have hpl2:x.args.length<=65536:=by
            rw[hedge.2.2]
            have h1:=hedge.1
            have hq:x.block=((x.block.toNat:Nat):Int):=by omega
            rw[hq]
            exact(HBS.out _ (List.mem_of_getElem? (rh hedge.2.1))).2.2
           clear hbr h4 h5 hmem hedge hcall hxe
           generalize v2 bk.term.a=va at *
           go_upto_region 31 with(go_at_call 83;go_must (refine HCL.out.mono ?_;rintro e w4 ⟨av4,rfl,hi4,h64,hb4⟩;obtain⟨ea,ec,rfl,_,_⟩:=hi4.form))
           have hcs5:=(HCS3.out.keep hb4).alloc (.cells #[.int .i64 x.block,.slice ea x.args.length ec] 75)
           have hb18:(w4.alloc (.cells #[.int .i64 x.block,.slice ea x.args.length ec] 75)).heap[w4.heap.size]? =some (.cells #[.int .i64 x.block,.slice ea x.args.length ec] 75 (0,0)):=zI rfl
           have hi5:zY (w4.alloc (.cells #[.int .i64 x.block,.slice ea x.args.length ec] 75)) K.B (.slice ea x.args.length ec) x.args:=hi4.below zO ((hb4.mono (Nat.le_of_lt HM3.out.size)).alloc (by have:=HM3.out.size;have:=hb4.size;omega) _)
           have hl18:w4.heap.size<(w4.alloc (.cells #[.int .i64 x.block,.slice ea x.args.length ec] 75)).heap.size:=by simp
           generalize hW5:w4.alloc (.cells #[.int .i64 x.block,.slice ea x.args.length ec] 75)=W5 at *
           generalize w4.heap.size=b18 at *
           have q180:W5.cell? ⟨b18,0,none⟩=some (.int .i64 x.block):=zA hb18 (by simp)
           have q181:W5.cell? ⟨b18,1,none⟩=some (.slice ea x.args.length ec):=zA hb18 (by simp)
           have HCS5:=Lib.hid hcs5
           have HI5:=Lib.hid hi5
           clear hW5 hcs5 hi5 hb18 hb4 hi4 q2 q3 q4 lk t4 t5 HCL
           go_wp2
           go_loopw [2,111] (fun rv kv wx=>∃k:Nat,k<=x.args.length/\kv=.int .i64 (k:Int)/\Hid (wx.ownsRow W5.heap.size 39 1 rv k ((uT v2 x.args k).map vL)/\Below W5.heap.size W5 wx)) (fun _ kv _=>x.args.length-(intOf kv).toNat)
           case atStart=>exact⟨0,Nat.zero_le _,rfl,World.ownsRow_nil _ _ _ _,Below.refl _ _⟩
           case round=>
            obtain⟨k6,hk6,rfl,HK6⟩:=hrel
            obtain⟨ra,rc,rfl⟩:=zG HK6.out.1
            have hcs6:=HCS5.out.keep HK6.out.2
            by_cases hlt6:k6<x.args.length
            ·skip
             have hlt6I:(k6:Int)<x.args.length:=by omega
             have HLT6:=Lib.hid hlt6
             obtain⟨y,hy⟩:∃y,x.args[k6]? =some y:=⟨_,List.getElem?_eq_getElem hlt6⟩
             obtain⟨b6,o6,rfl,hb6,hcy,hy64⟩:=HI5.out.get hy
             rw[Nat.mul_one] at hcy
             have hBW:K.B<W5.heap.size:=by obtain⟨ov5,hM5⟩:=HCS5.out.mach;exact hM5.size
             have cy:=(HK6.out.2.cell (p:=⟨b6,o6+k6,none⟩) (by show b6<W5.heap.size;omega)).trans hcy
             have ly:=hcs6.map.look hy64
             have hvy:=hcs6.map.2 y
             have HXS6:=Lib.hid (qH (v:=v2) hy)
             have hal6:=pA (v:=v2) (show k6<=x.args.length by omega)
             obtain⟨ii,hii,hzi0,hzi1,hzi2⟩:=info_parts Try.info_u16
             have hsz6:=HK6.out.2.size
             clear hy hcy hlt6 hcs6 hb6
             generalize v2 y=vy at *
             go_wp2_with (at_builtin;go_must (refine wpList_append_lies _ rfl (.tmp 115) (.tmp 119) 36 rfl W5.heap.size 39 ii (.int .u16 0) 1 2 Try.underlying36 hii hzi0 hzi1 hzi2 rfl (by decide) _ k6 ((uT v2 x.args k6).map vL) rfl (HK6.out.1.alloc _) ⟨wr.heap.size,0,none⟩ 1 1 [.int .u16 (vy:Int)] rfl rfl (World.news_of_block (cs:=#[.int .u16 (vy:Int)]) (zI (by simp))) (by simp[Value.oneCell']) (by decide) (by unfold maxLen;omega) (by omega) (by simp;omega) (wr.heap.size+1) (by simp) ?_;intro gq capq w6 hown6 hgrow6 hat6 hlt6;have HO6:=Lib.hid (And.intro hown6 hgrow6);clear hown6 hgrow6))
             go_roundw
             case rel=>
              refine⟨k6+1,HLT6.out,by go_num,?_,(HK6.out.2.alloc (by omega) _).grown HO6.out.2 (by simp;omega) (fun k hk=>(HK6.out.1.lt k hk).1)⟩
              rw[HXS6.out,List.map_append]
              exact HO6.out.1
             case measure=>have:=HLT6.out;simp[intOf];omega
            ·skip
             obtain rfl:k6=x.args.length:=by omega
             have hlt6I:¬(x.args.length:Int)<x.args.length:=by omega
             have hown:=HK6.out.1
             rw[r8] at hown
             have q180x:=(HK6.out.2.cell (p:=⟨b18,0,none⟩) hl18).trans q180
             have huin:=ms hown (by simp) (fun y hy=>by obtain⟨z,_,rfl⟩:=List.mem_map.1 hy;exact hcs6.map.2 z)
             obtain⟨q,hq⟩:∃q:Nat,x.block=(q:Int):=⟨x.block.toNat,by have:=HRS.out.2.1;omega⟩
             rw[hq] at q180x
             have HH:=HRS.out
             rw[hq] at HH
             have hnext:Hid (jw K w wr r n blocks w.heap.size q (.slice ra x.args.length rc) RES):=by
              refine⟨x.args.map v2,v2,m2.pay,vn2,hcs6,huin,?_,?_,?_,?_,HH.1⟩
              ·rw[List.length_map];exact HH.2.2.2
              ·have:=HH.2.2.1;rw[Int.toNat_natCast] at this;exact this
              ·have h1:=HBR.out.2.1;have h2:=HB2.out.2.2;have h3:=HFU.out;simp only[Mach.pay];omega
              ·exact bd_next HB2.out.2.1 (by have:=HFU.out;show(m2.fuel-1).toNat+1=m2.fuel.toNat;omega)
             clear hown huin hcs6 HH hq
             go_wp2
             go_roundg n
             case measure=>omega
             case rel=>exact⟨q,ra,x.args.length,rc,rfl,rfl,hnext⟩
theorem mi (K:MK)(hok:OkProg K.E.p):∀r,r<=100->pq K r
 |0,_=>iA K
 |r+1,h=>jC K hok r h (mi K hok r (by omega))
end Go.Proofs.Ytojclalkfhoooaa
