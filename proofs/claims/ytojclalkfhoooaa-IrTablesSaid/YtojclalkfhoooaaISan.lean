/- Part of a proof. -/
import Derived.Test.YtojclalkfhoooaaGLift8
set_option linter.unusedSimpArgs false
set_option linter.unusedVariables false
set_option maxHeartbeats 4000000
set_option maxRecDepth 100000
namespace Go.Proofs.Ytojclalkfhoooaa
open Go.RowKit
def sanP:IProg:=rd ⟨4,2,[]⟩ [⟨1,0,0,0,7,[]⟩,⟨24,1,0,0,3,[]⟩,⟨6,2,0,1,0,[]⟩,⟨25,-1,2,0,9,[]⟩]
def sanQ:IProg:=rd ⟨4,-1,[]⟩ [⟨1,0,0,0,16383,[]⟩,⟨18,1,0,0,0,[]⟩]
def sanB:IProg:=rd ⟨4,-1,[]⟩ [⟨3,1,0,0,0,[]⟩,⟨1,0,0,0,1,[]⟩]
theorem kS:vC sanP=0:=by decide+kernel
theorem lh:vC sanB=51:=by decide+kernel
theorem sanP_run:i9 ⟨sanP,[9],[]⟩ 0 [] ⟨#[]⟩ 50=⟨65534,[(9,65534)],6,0,v7 ⟨#[]⟩,1,0⟩:=by
 have h:io sanP 0 []=true:=by decide+kernel
 have e:i6 ⟨sanP,[9],[]⟩ 0 [] ⟨#[]⟩ 50=⟨65534,[(9,65534)],6,0,v7 ⟨#[]⟩,1,0⟩:=rfl
 exact(if_pos h).trans e
theorem sanQ_run:i9 ⟨sanQ,[],[]⟩ 0 [] ⟨#[]⟩ 50=⟨0,[],2,16383,v7 ⟨#[]⟩,0,0⟩:=by
 have h:io sanQ 0 []=true:=by decide+kernel
 have e:i6 ⟨sanQ,[],[]⟩ 0 [] ⟨#[]⟩ 50=⟨0,[],2,16383,v7 ⟨#[]⟩,0,0⟩:=rfl
 exact(if_pos h).trans e
def sanPl:List (IOp×Value):=[(⟨1,0,0,0,7,[]⟩,.slice none 0 0),(⟨24,1,0,0,3,[]⟩,.slice none 0 0),(⟨6,2,0,1,0,[]⟩,.slice none 0 0),(⟨25,-1,2,0,9,[]⟩,.slice none 0 0)]
def sanQl:List (IOp×Value):=[(⟨1,0,0,0,16383,[]⟩,.slice none 0 0),(⟨18,1,0,0,0,[]⟩,.slice none 0 0)]
def sanBl:List (IOp×Value):=[(⟨3,1,0,0,0,[]⟩,.slice none 0 0),(⟨1,0,0,0,1,[]⟩,.slice none 0 0)]
def oz (l:List (IOp×Value)):Prop:=∀q∈l,qN q.1/\q.1.args=[]/\q.2=.slice none 0 0
theorem ka {l:List (IOp×Value)}(h:oz l)(w:World)(B:Nat):∀q∈l,qN q.1/\zY w B q.2 q.1.args:=fun q hq=>by
 obtain⟨h1,h2,h3⟩:=h q hq
 rw[h2,h3]
 exact⟨h1,yN.nil⟩
theorem sanPl_ok:oz sanPl:=by
 intro q hq
 simp only[sanPl,List.mem_cons,List.not_mem_nil,or_false] at hq
 rcases hq with rfl|rfl|rfl|rfl<;>exact⟨⟨⟨by decide,by decide⟩,⟨by decide,by decide⟩,⟨by decide,by decide⟩,⟨by decide,by decide⟩,by decide⟩,rfl,rfl⟩
theorem sanQl_ok:oz sanQl:=by
 intro q hq
 simp only[sanQl,List.mem_cons,List.not_mem_nil,or_false] at hq
 rcases hq with rfl|rfl<;>exact⟨⟨⟨by decide,by decide⟩,⟨by decide,by decide⟩,⟨by decide,by decide⟩,⟨by decide,by decide⟩,by decide⟩,rfl,rfl⟩
theorem sanBl_ok:oz sanBl:=by
 intro q hq
 simp only[sanBl,List.mem_cons,List.not_mem_nil,or_false] at hq
 rcases hq with rfl|rfl<;>exact⟨⟨⟨by decide,by decide⟩,⟨by decide,by decide⟩,⟨by decide,by decide⟩,⟨by decide,by decide⟩,by decide⟩,rfl,rfl⟩
def RetSmall (w:World)(p:IProg)(e:Ending)(w':World):Prop:=
 ∃f1 f2 a1 a2 d1 d2 b1 b2,e=.returned (.agg #[.slice f1 1 f2,.slice a1 1 a2,.int .i64 0,.int .i64 (-1),.slice d1 0 d2,.slice b1 0 b2])/\
  ProgIn w' w'.heap.size ⟨.slice f1 1 f2,.slice a1 1 a2,.slice d1 0 d2,.slice b1 0 b2⟩ p/\Below w.heap.size w w'
theorem qF {W:World}{b:Nat}{l:List (IOp×Value)}{e:TypeId}(h:W.heap[b]? =some (.cells (l.flatMap zU).toArray e (0,0)))(hl:oz l)(hlen:l.length<=1000000){tk ta:Int}(ht:I64 tk/\I64 ta){n:Nat}(hn:n=l.length):
 Calls Try.prog 32 #[.agg #[.int .i64 tk,.int .i64 ta,.slice none 0 0],.slice (some ⟨b,0,none⟩) n n] W (RetSmall W (rd ⟨tk,ta,[]⟩ (l.map (·.1)))):=by
 subst hn
 exact(kW ht yN.nil (ops_lit h (lt_of_block h) (ka hl W _) hlen)).mono (fun e w' h=>h.open)
theorem ln (w:World):Calls Try.prog 17 #[] w fun e w'=>e=.returned (.bool true)/\Below w.heap.size w w':=by
 obtain⟨S,hS⟩:∃S,y9 (v7 ⟨#[]⟩)=S:=⟨_,rfl⟩
 go_enter Try.func17,Try.ntmps17
 have HB0:=Lib.hid (Below.refl w.heap.size w)
 have HS:=Lib.hid hS
 clear hS
 go_upto_region 2 with(go_at_call 32;go_must (refine(qF (l:=sanPl) (zI rfl) sanPl_ok (by decide) ⟨⟨by decide,by decide⟩,⟨by decide,by decide⟩⟩ rfl).mono ?_;rintro e w1 ⟨f1,g1,a1,b1,d1,e1,h1,i1,rfl,hp,hb⟩))
 have hx:(w1.alloc (.cells #[.slice f1 1 g1,.slice a1 1 b1,.int .i64 0,.int .i64 (-1),.slice d1 0 e1,.slice h1 0 i1] 29)).heap[w1.heap.size]? =some (.cells #[.slice f1 1 g1,.slice a1 1 b1,.int .i64 0,.int .i64 (-1),.slice d1 0 e1,.slice h1 0 i1] 29 (0,0)):=zI rfl
 have hba:=(Below.refl w1.heap.size w1).alloc (Nat.le_refl _) (.cells #[.slice f1 1 g1,.slice a1 1 b1,.int .i64 0,.int .i64 (-1),.slice d1 0 e1,.slice h1 0 i1] 29)
 have hpx:=(hp.below hba).mono hba.size
 have hbx:=((Below.refl w.heap.size w).alloc (Nat.le_refl _) _).trans ((hb.trans (hba.mono hb.size)).mono (by simp))
 generalize hW:w1.alloc (.cells #[.slice f1 1 g1,.slice a1 1 b1,.int .i64 0,.int .i64 (-1),.slice d1 0 e1,.slice h1 0 i1] 29)=P1 at *
 generalize hc:w1.heap.size=c1 at *
 have HP1:=Lib.hid (show Below w.heap.size w P1/\ProgIn P1 P1.heap.size ⟨.slice f1 1 g1,.slice a1 1 b1,.slice d1 0 e1,.slice h1 0 i1⟩ sanP/\P1.heap[c1]? =some (.cells #[.slice f1 1 g1,.slice a1 1 b1,.int .i64 0,.int .i64 (-1),.slice d1 0 e1,.slice h1 0 i1] 29 (0,0)) from⟨hbx,hpx,hx⟩)
 clear hb hp hx hba hpx hbx hW hc
 have hev:∀(W:World) (b:Nat),Below P1.heap.size P1 W->W.heap[b]? =some (.cells #[.int .u16 9] 39 (0,0))->Calls Try.prog 23 #[.agg #[.slice f1 1 g1,.slice a1 1 b1,.int .i64 0,.int .i64 (-1),.slice d1 0 e1,.slice h1 0 i1],.int .i64 0,.slice none 0 0,.string ⟨#[]⟩,.agg #[.slice (some ⟨b,0,none⟩) 1 1,.slice none 0 0],.int .i64 50] W (fun e w'=>∃oa1 oc1,e=.returned (.agg #[.int .u16 65534,.slice oa1 1 oc1,.int .i64 6,.int .u16 0,.string S,.int .i64 1,.int .i64 0])/\vM w' w'.heap.size (.slice oa1 1 oc1) [(9,65534)]/\Below W.heap.size W w'):=fun W b hb hc=>by
  have:=(mX ((HP1.out.2.1.below hb).mono hb.size) (uL (by decide) (by decide)) 0 pZ yN.nil ⟨#[]⟩ (by decide) (u16s_lit (xs:=[9]) hc (lt_of_block hc) (by decide) (by decide)) yN.nil 50 ⟨by decide,by decide⟩ (by decide)).mono (fun e w' h=>h.open)
  rw[sanP_run] at this
  rw[<-HS.out]
  exact this
 have HEV:=Lib.hid hev
 clear hev
 have x0:P1.cell? ⟨c1,0,none⟩=some (.slice f1 1 g1):=zA HP1.out.2.2 (by simp)
 have x1:P1.cell? ⟨c1,1,none⟩=some (.slice a1 1 b1):=zA HP1.out.2.2 (by simp)
 have x2:P1.cell? ⟨c1,2,none⟩=some (.int .i64 0):=zA HP1.out.2.2 (by simp)
 have x3:P1.cell? ⟨c1,3,none⟩=some (.int .i64 (-1)):=zA HP1.out.2.2 (by simp)
 have x4:P1.cell? ⟨c1,4,none⟩=some (.slice d1 0 e1):=zA HP1.out.2.2 (by simp)
 have x5:P1.cell? ⟨c1,5,none⟩=some (.slice h1 0 i1):=zA HP1.out.2.2 (by simp)
 go_upto_region 3 with(go_at_call 23;go_must (refine(HEV.out _ _ ((Below.refl _ _).alloc (Nat.le_refl _) _) (zI rfl)).mono ?_;rintro e w1 ⟨oa1,oc1,rfl,ho,hb⟩))
 clear x0 x1 x2 x3 x4 x5
 have hx:(w1.alloc (.cells #[.int .u16 65534,.slice oa1 1 oc1,.int .i64 6,.int .u16 0,.string S,.int .i64 1,.int .i64 0] 57)).heap[w1.heap.size]? =some (.cells #[.int .u16 65534,.slice oa1 1 oc1,.int .i64 6,.int .u16 0,.string S,.int .i64 1,.int .i64 0] 57 (0,0)):=zI rfl
 have hba:=(Below.refl w1.heap.size w1).alloc (Nat.le_refl _) (.cells #[.int .u16 65534,.slice oa1 1 oc1,.int .i64 6,.int .u16 0,.string S,.int .i64 1,.int .i64 0] 57)
 have hox:=(ho.below vo hba).mono vo hba.size
 have hbx:Below P1.heap.size P1 _:=((Below.refl _ _).alloc (Nat.le_refl _) _).trans ((hb.trans (hba.mono hb.size)).mono (by simp))
 generalize hW:w1.alloc (.cells #[.int .u16 65534,.slice oa1 1 oc1,.int .i64 6,.int .u16 0,.string S,.int .i64 1,.int .i64 0] 57)=R1 at *
 generalize hc:w1.heap.size=r1 at *
 have HR1:=Lib.hid (show Below P1.heap.size P1 R1/\vM R1 R1.heap.size (.slice oa1 1 oc1) [(9,65534)]/\R1.heap[r1]? =some (.cells #[.int .u16 65534,.slice oa1 1 oc1,.int .i64 6,.int .u16 0,.string S,.int .i64 1,.int .i64 0] 57 (0,0)) from⟨hbx,hox,hx⟩)
 clear hb ho hx hba hox hbx hW hc HEV
 go_upto_region 4 with(go_at_call 32;go_must (refine(qF (l:=sanQl) (zI rfl) sanQl_ok (by decide) ⟨⟨by decide,by decide⟩,⟨by decide,by decide⟩⟩ rfl).mono ?_;rintro e w1 ⟨f2,g2,a2,b2,d2,e2,h2,i2,rfl,hp,hb⟩))
 have hx:(w1.alloc (.cells #[.slice f2 1 g2,.slice a2 1 b2,.int .i64 0,.int .i64 (-1),.slice d2 0 e2,.slice h2 0 i2] 29)).heap[w1.heap.size]? =some (.cells #[.slice f2 1 g2,.slice a2 1 b2,.int .i64 0,.int .i64 (-1),.slice d2 0 e2,.slice h2 0 i2] 29 (0,0)):=zI rfl
 have hba:=(Below.refl w1.heap.size w1).alloc (Nat.le_refl _) (.cells #[.slice f2 1 g2,.slice a2 1 b2,.int .i64 0,.int .i64 (-1),.slice d2 0 e2,.slice h2 0 i2] 29)
 have hpx:=(hp.below hba).mono hba.size
 have hbx:=((Below.refl R1.heap.size R1).alloc (Nat.le_refl _) _).trans ((hb.trans (hba.mono hb.size)).mono (by simp))
 generalize hW:w1.alloc (.cells #[.slice f2 1 g2,.slice a2 1 b2,.int .i64 0,.int .i64 (-1),.slice d2 0 e2,.slice h2 0 i2] 29)=P2 at *
 generalize hc:w1.heap.size=c2 at *
 have HP2:=Lib.hid (show Below R1.heap.size R1 P2/\ProgIn P2 P2.heap.size ⟨.slice f2 1 g2,.slice a2 1 b2,.slice d2 0 e2,.slice h2 0 i2⟩ sanQ/\P2.heap[c2]? =some (.cells #[.slice f2 1 g2,.slice a2 1 b2,.int .i64 0,.int .i64 (-1),.slice d2 0 e2,.slice h2 0 i2] 29 (0,0)) from⟨hbx,hpx,hx⟩)
 clear hb hp hx hba hpx hbx hW hc
 have hev:∀(W:World),Below P2.heap.size P2 W->Calls Try.prog 23 #[.agg #[.slice f2 1 g2,.slice a2 1 b2,.int .i64 0,.int .i64 (-1),.slice d2 0 e2,.slice h2 0 i2],.int .i64 0,.slice none 0 0,.string ⟨#[]⟩,.agg #[.slice none 0 0,.slice none 0 0],.int .i64 50] W (fun e w'=>∃oa2 oc2,e=.returned (.agg #[.int .u16 0,.slice oa2 0 oc2,.int .i64 2,.int .u16 16383,.string S,.int .i64 0,.int .i64 0])/\vM w' w'.heap.size (.slice oa2 0 oc2) []/\Below W.heap.size W w'):=fun W hb=>by
  have:=(mX ((HP2.out.2.1.below hb).mono hb.size) (uL (by decide) (by decide)) 0 pZ yN.nil ⟨#[]⟩ (by decide) yN.nil yN.nil 50 ⟨by decide,by decide⟩ (by decide)).mono (fun e w' h=>h.open)
  rw[sanQ_run] at this
  rw[<-HS.out]
  exact this
 have HEV:=Lib.hid hev
 clear hev
 have x0:P2.cell? ⟨c2,0,none⟩=some (.slice f2 1 g2):=zA HP2.out.2.2 (by simp)
 have x1:P2.cell? ⟨c2,1,none⟩=some (.slice a2 1 b2):=zA HP2.out.2.2 (by simp)
 have x2:P2.cell? ⟨c2,2,none⟩=some (.int .i64 0):=zA HP2.out.2.2 (by simp)
 have x3:P2.cell? ⟨c2,3,none⟩=some (.int .i64 (-1)):=zA HP2.out.2.2 (by simp)
 have x4:P2.cell? ⟨c2,4,none⟩=some (.slice d2 0 e2):=zA HP2.out.2.2 (by simp)
 have x5:P2.cell? ⟨c2,5,none⟩=some (.slice h2 0 i2):=zA HP2.out.2.2 (by simp)
 go_upto_region 5 with(go_at_call 23;go_must (refine(HEV.out _ (Below.refl _ _)).mono ?_;rintro e w1 ⟨oa2,oc2,rfl,ho,hb⟩))
 clear x0 x1 x2 x3 x4 x5
 have hx:(w1.alloc (.cells #[.int .u16 0,.slice oa2 0 oc2,.int .i64 2,.int .u16 16383,.string S,.int .i64 0,.int .i64 0] 57)).heap[w1.heap.size]? =some (.cells #[.int .u16 0,.slice oa2 0 oc2,.int .i64 2,.int .u16 16383,.string S,.int .i64 0,.int .i64 0] 57 (0,0)):=zI rfl
 have hba:=(Below.refl w1.heap.size w1).alloc (Nat.le_refl _) (.cells #[.int .u16 0,.slice oa2 0 oc2,.int .i64 2,.int .u16 16383,.string S,.int .i64 0,.int .i64 0] 57)
 have hox:=(ho.below vo hba).mono vo hba.size
 have hbx:Below P2.heap.size P2 _:=hb.trans (hba.mono hb.size)
 generalize hW:w1.alloc (.cells #[.int .u16 0,.slice oa2 0 oc2,.int .i64 2,.int .u16 16383,.string S,.int .i64 0,.int .i64 0] 57)=R2 at *
 generalize hc:w1.heap.size=r2 at *
 have HR2:=Lib.hid (show Below P2.heap.size P2 R2/\vM R2 R2.heap.size (.slice oa2 0 oc2) []/\R2.heap[r2]? =some (.cells #[.int .u16 0,.slice oa2 0 oc2,.int .i64 2,.int .u16 16383,.string S,.int .i64 0,.int .i64 0] 57 (0,0)) from⟨hbx,hox,hx⟩)
 clear hb ho hx hba hox hbx hW hc HEV
 go_upto_region 6 with(go_at_call 32;go_must (refine(qF (l:=sanBl) (zI rfl) sanBl_ok (by decide) ⟨⟨by decide,by decide⟩,⟨by decide,by decide⟩⟩ rfl).mono ?_;rintro e w1 ⟨f3,g3,a3,b3,d3,e3,h3,i3,rfl,hp,hb⟩))
 have hx:(w1.alloc (.cells #[.slice f3 1 g3,.slice a3 1 b3,.int .i64 0,.int .i64 (-1),.slice d3 0 e3,.slice h3 0 i3] 29)).heap[w1.heap.size]? =some (.cells #[.slice f3 1 g3,.slice a3 1 b3,.int .i64 0,.int .i64 (-1),.slice d3 0 e3,.slice h3 0 i3] 29 (0,0)):=zI rfl
 have hba:=(Below.refl w1.heap.size w1).alloc (Nat.le_refl _) (.cells #[.slice f3 1 g3,.slice a3 1 b3,.int .i64 0,.int .i64 (-1),.slice d3 0 e3,.slice h3 0 i3] 29)
 have hpx:=(hp.below hba).mono hba.size
 have hbx:=((Below.refl R2.heap.size R2).alloc (Nat.le_refl _) _).trans ((hb.trans (hba.mono hb.size)).mono (by simp))
 generalize hW:w1.alloc (.cells #[.slice f3 1 g3,.slice a3 1 b3,.int .i64 0,.int .i64 (-1),.slice d3 0 e3,.slice h3 0 i3] 29)=P3 at *
 generalize hc:w1.heap.size=c3 at *
 have HP3:=Lib.hid (show Below R2.heap.size R2 P3/\ProgIn P3 P3.heap.size ⟨.slice f3 1 g3,.slice a3 1 b3,.slice d3 0 e3,.slice h3 0 i3⟩ sanB/\P3.heap[c3]? =some (.cells #[.slice f3 1 g3,.slice a3 1 b3,.int .i64 0,.int .i64 (-1),.slice d3 0 e3,.slice h3 0 i3] 29 (0,0)) from⟨hbx,hpx,hx⟩)
 clear hb hp hx hba hpx hbx hW hc
 have k23:Below R2.heap.size R2 P3:=HP3.out.1
 have k13:Below R1.heap.size R1 P3:=HP2.out.1.trans ((HR2.out.1.trans (k23.mono HR2.out.1.size)).mono HP2.out.1.size)
 have k03:Below P1.heap.size P1 P3:=HR1.out.1.trans (k13.mono HR1.out.1.size)
 have kw3:Below w.heap.size w P3:=HP1.out.1.trans (k03.mono HP1.out.1.size)
 have hr1:=zH k13 HR1.out.2.2 (lt_of_block HR1.out.2.2)
 have hr2:=zH k23 HR2.out.2.2 (lt_of_block HR2.out.2.2)
 have hp1:=zH k03 HP1.out.2.2 (lt_of_block HP1.out.2.2)
 have hp3:=HP3.out.2.2
 obtain⟨eb,eo,he,heb,hev⟩:=(HR1.out.2.1.below vo k13).get (k:=0) (x:=(9,65534)) rfl
 subst he
 have ev0:P3.cell? ⟨eb,eo,none⟩=some (.int .u16 9):=by simpa using hev.1
 have ev1:P3.cell? ⟨eb,eo+1,none⟩=some (.int .u16 65534):=by simpa using hev.2.1
 have hv3:∀W,Below P3.heap.size P3 W->Calls Try.prog 20 #[.agg #[.slice f3 1 g3,.slice a3 1 b3,.int .i64 0,.int .i64 (-1),.slice d3 0 e3,.slice h3 0 i3]] W fun e w'=>e=.returned (.int .i64 51)/\Below W.heap.size W w':=fun W hb=>by
  have:=tu ((HP3.out.2.1.below hb).mono hb.size) (Nat.le_refl _) (fun f hf=>(uL (t:=⟨4,-1,[]⟩) (by decide) (by decide) f hf).1)
  rw[lh] at this
  exact this
 have hv1:∀W,Below P3.heap.size P3 W->Calls Try.prog 20 #[.agg #[.slice f1 1 g1,.slice a1 1 b1,.int .i64 0,.int .i64 (-1),.slice d1 0 e1,.slice h1 0 i1]] W fun e w'=>e=.returned (.int .i64 0)/\Below W.heap.size W w':=fun W hb=>by
  have hb2:=k03.trans (hb.mono k03.size)
  have:=tu ((HP1.out.2.1.below hb2).mono hb2.size) (Nat.le_refl _) (fun f hf=>(uL (t:=⟨4,2,[]⟩) (by decide) (by decide) f hf).1)
  rw[kS] at this
  exact this
 have HV3:=Lib.hid hv3
 have HV1:=Lib.hid hv1
 have HKW:=Lib.hid kw3
 have y0:P3.cell? ⟨r1,0,none⟩=some (.int .u16 65534):=zA hr1 (by simp)
 have y1:P3.cell? ⟨r1,1,none⟩=some (.slice (some ⟨eb,eo,none⟩) 1 oc1):=zA hr1 (by simp)
 have y2:P3.cell? ⟨r1,2,none⟩=some (.int .i64 6):=zA hr1 (by simp)
 have y3:P3.cell? ⟨r1,3,none⟩=some (.int .u16 0):=zA hr1 (by simp)
 have y4:P3.cell? ⟨r1,4,none⟩=some (.string S):=zA hr1 (by simp)
 have y5:P3.cell? ⟨r1,5,none⟩=some (.int .i64 1):=zA hr1 (by simp)
 have y6:P3.cell? ⟨r1,6,none⟩=some (.int .i64 0):=zA hr1 (by simp)
 have z0:P3.cell? ⟨r2,0,none⟩=some (.int .u16 0):=zA hr2 (by simp)
 have z1:P3.cell? ⟨r2,1,none⟩=some (.slice oa2 0 oc2):=zA hr2 (by simp)
 have z2:P3.cell? ⟨r2,2,none⟩=some (.int .i64 2):=zA hr2 (by simp)
 have z3:P3.cell? ⟨r2,3,none⟩=some (.int .u16 16383):=zA hr2 (by simp)
 have z4:P3.cell? ⟨r2,4,none⟩=some (.string S):=zA hr2 (by simp)
 have z5:P3.cell? ⟨r2,5,none⟩=some (.int .i64 0):=zA hr2 (by simp)
 have z6:P3.cell? ⟨r2,6,none⟩=some (.int .i64 0):=zA hr2 (by simp)
 have u0:P3.cell? ⟨c3,0,none⟩=some (.slice f3 1 g3):=zA hp3 (by simp)
 have u1:P3.cell? ⟨c3,1,none⟩=some (.slice a3 1 b3):=zA hp3 (by simp)
 have u2:P3.cell? ⟨c3,2,none⟩=some (.int .i64 0):=zA hp3 (by simp)
 have u3:P3.cell? ⟨c3,3,none⟩=some (.int .i64 (-1)):=zA hp3 (by simp)
 have u4:P3.cell? ⟨c3,4,none⟩=some (.slice d3 0 e3):=zA hp3 (by simp)
 have u5:P3.cell? ⟨c3,5,none⟩=some (.slice h3 0 i3):=zA hp3 (by simp)
 have v0:P3.cell? ⟨c1,0,none⟩=some (.slice f1 1 g1):=zA hp1 (by simp)
 have v1:P3.cell? ⟨c1,1,none⟩=some (.slice a1 1 b1):=zA hp1 (by simp)
 have v2:P3.cell? ⟨c1,2,none⟩=some (.int .i64 0):=zA hp1 (by simp)
 have v3:P3.cell? ⟨c1,3,none⟩=some (.int .i64 (-1)):=zA hp1 (by simp)
 have v4:P3.cell? ⟨c1,4,none⟩=some (.slice d1 0 e1):=zA hp1 (by simp)
 have v5:P3.cell? ⟨c1,5,none⟩=some (.slice h1 0 i1):=zA hp1 (by simp)
 have HC1:=Lib.hid hp1
 clear k23 k13 k03 kw3 hr1 hr2 hp1 hp3 hev heb hv3 hv1 HR1 HR2 HP1 HP2 HP3 HB0 HS
 have m1:True:=trivial
 go_wp2_with (first|(go_at_call 20;have gate:=m1;clear m1;go_must (refine(HV3.out _ (Below.refl _ _)).mono ?_;rintro e w5 ⟨rfl,hb5⟩;have hq1:=zH hb5 HC1.out (lt_of_block HC1.out);have q0:w5.cell? ⟨c1,0,none⟩=some (.slice f1 1 g1):=zA hq1 (by simp);have q1:w5.cell? ⟨c1,1,none⟩=some (.slice a1 1 b1):=zA hq1 (by simp);have q2:w5.cell? ⟨c1,2,none⟩=some (.int .i64 0):=zA hq1 (by simp);have q3:w5.cell? ⟨c1,3,none⟩=some (.int .i64 (-1)):=zA hq1 (by simp);have q4:w5.cell? ⟨c1,4,none⟩=some (.slice d1 0 e1):=zA hq1 (by simp);have q5:w5.cell? ⟨c1,5,none⟩=some (.slice h1 0 i1):=zA hq1 (by simp)))|(go_at_call 20;go_must (refine(HV1.out _ hb5).mono ?_;rintro e w6 ⟨rfl,hb6⟩)))
 go_ret
 exact⟨rfl,HKW.out.trans ((hb5.trans (hb6.mono hb5.size)).mono HKW.out.size)⟩
end Go.Proofs.Ytojclalkfhoooaa
