/- Part of a proof. -/
import Derived.Test.YtojclalkfhoooaaGIter
import Derived.Lib.BufferWrite
import Derived.Deep.OwnRows
set_option linter.unusedSimpArgs false
set_option linter.unusedVariables false
set_option maxHeartbeats 3200000
set_option maxRecDepth 100000
namespace Go.Proofs.Ytojclalkfhoooaa
open Go.RowKit Go.Lib
theorem Try.info_u8:(Try.prog.info? 5).map (fun i=>(i.zero,i.size,i.bytes))=some (some (.int .u8 0),1,1):=by kernel_rfl
theorem tQ {P:Program}(w:World)(dT sT ty elem:TypeId)(g dLen dCap:Nat)(s:ByteArray)(cur:Array Value)(t:TypeId)
 (hu:P.underlying dT=some (.slice elem)) (hs:(P.info? elem).map (·.size)=some 1) (hg:w.heap[g]? =some (.cells cur t (0,0))) (hfit:dLen<=cur.size):
 (Builtin.copy_ #[dT,sT] ty #[.slice (some ⟨g,0,none⟩) dLen dCap,.string s]).run P w=
  .ok (goInt (Nat.min s.size dLen)) (w.setRow g (byteCells (s.data.toList.take (Nat.min s.size dLen))++cur.toList.drop (Nat.min s.size dLen)).toArray):=by
 obtain⟨n,hn⟩:∃n,Nat.min s.size dLen=n:=⟨_,rfl⟩
 have hns:n<=s.size:=by rw[<-hn];exact Nat.min_le_left _ _
 have hnd:n<=dLen:=by rw[<-hn];exact Nat.min_le_right _ _
 have hlen:(byteCells (s.data.toList.take n)).length=n:=by rw[byteCells_length,List.length_take,<-size_eq];omega
 have hst:=run_storeCells_at P g 0 t (byteCells (s.data.toList.take n)) 0 cur w hg (by rw[hlen];omega) (byteCells_one _)
 have htk:List.take n (List.map (fun b:UInt8=>Value.int IntKind.u8 (b.toNat:Int)) s.data.toList)=byteCells (s.data.toList.take n):=by
  rw[<-List.map_take];rfl
 rw[hlen] at hst
 simp only[Nat.add_zero] at hst
 rw[hn]
 cases hq:P.info? elem with
 |none=>simp[hq] at hs
 |some i=>
  simp[Builtin.copy_,run_underlying hu,Builtin.lenOf,Builtin.firstCells,sizeOf,typeInfo,hq,hn]
  rw[htk,hst]
  simp[Result.andThen]
theorem ram_init (s:ByteArray):byteCells (s.data.toList.take (Nat.min s.size 8192))++(List.replicate 8192 (Value.int .u8 0)).drop (Nat.min s.size 8192)=(v7 s).map wz:=by
 apply List.ext_getElem?
 intro k
 have hsz:s.data.toList.length=s.size:=(size_eq s).symm
 have hl:(byteCells (s.data.toList.take (Nat.min s.size 8192))).length=Nat.min s.size 8192:=by rw[byteCells_length,List.length_take,hsz];exact Nat.min_eq_left (Nat.min_le_left _ _)
 unfold v7
 rw[List.map_map,List.getElem?_map]
 obtain⟨n,hn⟩:∃n,Nat.min s.size 8192=n:=⟨_,rfl⟩
 have hn1:n<=s.size:=by rw[<-hn];exact Nat.min_le_left _ _
 have hn2:n<=8192:=by rw[<-hn];exact Nat.min_le_right _ _
 have hn3:n=s.size∨n=8192:=by rcases Nat.le_total s.size 8192 with h|h;exact .inl (by rw[<-hn];exact Nat.min_eq_left h);exact .inr (by rw[<-hn];exact Nat.min_eq_right h)
 rw[hn] at hl ⊢
 by_cases h1:k<n
 ·rw[List.getElem?_append_left (by omega),List.getElem?_range (by omega)]
  unfold byteCells
  rw[List.getElem?_map,List.getElem?_take,if_pos h1]
  have hks:k<s.data.toList.length:=by omega
  rw[List.getElem?_eq_getElem hks]
  have hks2:k<s.data.size:=by simpa using hks
  simp[wz,Array.getD_eq_getD_getElem?,Array.getElem?_eq_getElem hks2]
 ·rw[List.getElem?_append_right (by omega),hl,List.getElem?_drop,show n+(k-n)=k by omega,List.getElem?_replicate]
  by_cases h2:k<8192
  ·rw[if_pos h2,List.getElem?_range h2]
   have hge:¬k<s.data.size:=by have:s.data.size=s.size:=rfl;omega
   simp[wz,Array.getD_eq_getD_getElem?,Array.getElem?_eq_none (Nat.le_of_not_lt hge)]
  ·rw[if_neg h2,List.getElem?_eq_none (by simpa using h2)];rfl
def EvR (w:World)(B b q:Nat)(x:Nat×Nat):Prop:=w.cell? ⟨b,q,none⟩=some (.int .u16 (x.1:Int))/\w.cell? ⟨b,q+1,none⟩=some (.int .u16 (x.2:Int))/\x.1<65536/\x.2<65536
theorem vo:vV EvR:=⟨fun w w' B b q x hB hb h=>⟨zV hb hB h.1,zV hb hB h.2.1,h.2.2⟩,fun w B B' b q x _ h=>h⟩
abbrev vM:=yN 2 EvR
def runVal (R:IRun)(ov:Value):Value:=.agg (yV R.value ov R.kind R.info (y9 R.ram) R.inputs R.polls)
def rf (w:World)(R:IRun)(e:Ending)(w':World):Prop:=∃ov,e=.returned (runVal R ov)/\vM w' w'.heap.size ov R.out/\Below w.heap.size w w'
def sZ (V:PV)(p:IProg):Value:=.agg #[V.fv,V.av,.int .i64 p.entry,.int .i64 p.handler,V.dv,V.bv]
theorem iG (s:ByteArray):(v7 s).length=8192:=by simp[v7]
theorem ramOf_lt (s:ByteArray):∀x∈v7 s,x<256:=by
 intro x hx
 unfold v7 at hx
 obtain⟨k,_,rfl⟩:=List.mem_map.1 hx
 exact UInt8.toNat_lt _
theorem tM (w:World)(b k:Nat)(cs:Array Value)(h:k≠b):(w.setRow b cs).heap[k]? =w.heap[k]?:=by
 unfold World.setRow
 simp only[Array.getElem?_modify]
 rw[if_neg (fun e=>h e.symm)]
theorem below_setRow {B:Nat}{w w':World}(h:Below B w w'){b:Nat}(hb:B<=b)(cs:Array Value):Below B w (w'.setRow b cs):=
 h.trans ⟨rfl,rfl,rfl,by unfold World.setRow;simp,fun k hk=>tM _ _ _ _ (by omega)⟩
theorem nZ {w:World}{b:Nat}{cs cs':Array Value}{t:TypeId}(h:w.heap[b]? =some (.cells cs t (0,0))):(w.setRow b cs').heap[b]? =some (.cells cs' t (0,0)):=setRow_heap w b cs cs' t (0,0) h
theorem ss {w:World}{b b':Nat}{cs':Array Value}{o:Obj}(h:w.heap[b']? =some o)(hne:b'≠b):(w.setRow b cs').heap[b']? =some o:=(tM _ _ _ _ hne).trans h
theorem sf (W:World)(A B C:Obj):(((W.alloc A).alloc B).alloc C).drew.heap[W.heap.size]? =some A/\(((W.alloc A).alloc B).alloc C).drew.heap[W.heap.size+1]? =some B/\(((W.alloc A).alloc B).alloc C).drew.heap[W.heap.size+1+1]? =some C/\Below W.heap.size W (((W.alloc A).alloc B).alloc C).drew:=
 ⟨zB (zB (zI rfl)),zB (zI (by simp)),zI (by simp),((((Below.refl _ _).alloc (Nat.le_refl _) _).alloc (by simp) _).alloc (by simp<;>omega) _).drew⟩
theorem oG:∀ {l:List (Nat×Nat)} {k:Nat} {p:Nat×Nat},l[k]? =some p->(qO l)[k*2]? =some (vL p.1)/\(qO l)[k*2+1]? =some (vL p.2)
 | [],k,p,h=>by simp at h
 |a::l,0,p,h=>by simp at h;subst h;exact⟨rfl,rfl⟩
 |a::l,k+1,p,h=>by
  have:=oG (l:=l) (k:=k) (by simpa using h)
  rw[show(k+1)*2=k*2+1+1 by omega]
  exact this
theorem kP {w:World}{S:Nat}{ov:Value}{l:List (Nat×Nat)}(h:w.ownsRow S 87 2 ov l.length (qO l))(hlt:∀p∈l,p.1<65536/\p.2<65536):vM w w.heap.size ov l:=by
 obtain⟨a,c,rfl⟩:=zG h
 have hl:=zm h
 refine⟨a,c,rfl,hl.1,by omega,fun k x hk=>?_⟩
 have hkl:=(List.getElem?_eq_some_iff.1 hk).1
 obtain⟨g,cap,e,hg,hb⟩:=h.form (by omega)
 cases e
 obtain⟨h1,h2⟩:=oG hk
 have hx:=hlt x (List.mem_of_getElem? hk)
 refine⟨g,0,rfl,hb,?_,?_,hx.1,hx.2⟩
 ·rw[Nat.zero_add];exact(h.cellAt (k*2) (by omega)).trans h1
 ·rw[Nat.zero_add];exact(h.cellAt (k*2+1) (by omega)).trans h2
theorem ku {w w4 w5:World}{K:MK}{m:Mach}{ov:Value}{b:Nat}{r0:Array Value}(hM:MachAt w4 K m ov)(z12:w4.heap[b]? =some (.cells r0 57 (0,0)))(hb:w.heap.size<=b)(zb:Below w.heap.size w w4)(hg:w4.grownBy w5 (some b)):vM w5 w5.heap.size ov m.out/\Below w.heap.size w w5:=by
 have hne:=zC hM.out z12 (.inr (by decide))
 exact⟨kP (hM.out.kept hg (.inr hne)) hM.olt,zb.grown hg zb.size (fun k hk=>by simp at hk;omega)⟩
theorem mk_ram (W:World):(Instr.makeSlice 37 (.int .i64 8192) (.int .i64 8192)).run Try.prog W=.ok (.slice (some ⟨W.heap.size,0,none⟩) 8192 8192) (W.alloc (.cells (madeCells #[.int .u8 0] 8192) 5)):=
 run_make_row' (P:=Try.prog) 37 5 (.int .u8 0) 1 Try.underlying37 Try.info_u8 rfl .i64 .i64 8192 (by decide) (by decide) W
theorem eval_ok {w:World}{V:PV}{p:IProg}(hp:ProgIn w w.heap.size V p)(hok:OkProg p)(hV:∀W,Below w.heap.size w W->Calls Try.prog 20 #[sZ V p] W fun e W'=>e=.returned (.int .i64 0)/\Below W.heap.size W W')
 (f:Int) (hf:0<=f/\f.toNat<p.funcs.length) {args:List Nat} {av:Value} (ha:wV w w.heap.size av args) (hl:(args.length:Int)=p.args.getD f.toNat 0) (s:ByteArray) (hs:s.size<=9223372036854775807)
 {inv irqv:Value} {inn irq:List Nat} (hin:wV w w.heap.size inv inn) (hiq:i5 w w.heap.size irqv irq) (fuel:Int) (hfu:I64 fuel) (hfb:fuel.toNat<=4000000):
 Calls Try.prog 23 #[sZ V p,.int .i64 f,av,.string s,.agg #[inv,irqv],.int .i64 fuel] w (rf w (i6 ⟨p,inn,irq⟩ f args s fuel)):=by
 obtain⟨Vf,Va,Vd,Vb⟩:=V
 have hpf:=hp.funcs;have hpa:=hp.args;have hpd:=hp.data;have hpb:=hp.banks
 obtain⟨f1,f2,e1,_,_⟩:=hp.funcs.form
 obtain⟨a1,a2,e2,_,_⟩:=hp.args.form
 obtain⟨d1,d2,e3,_,_⟩:=hp.data.form
 obtain⟨b1,b2,e4,_,_⟩:=hp.banks.form
 obtain⟨v1,v2,rfl,_,_⟩:=ha.form
 obtain⟨i1,i2,rfl,_,_⟩:=hin.form
 obtain⟨q1,q2,rfl,_,_⟩:=hiq.form
 simp only at e1 e2 e3 e4
 subst e1 e2 e3 e4
 obtain⟨k,rfl⟩:∃k:Nat,f=(k:Int):=⟨f.toNat,by omega⟩
 have hkl:(k:Int)<p.funcs.length:=by omega
 unfold sZ at hV ⊢
 simp only at hV hpa ⊢
 have hd1:decide ((k:Int)<0)=false:=by rw[decide_eq_false_iff_not];omega
 have hd2:decide (p.funcs.length<=k)=false:=by rw[decide_eq_false_iff_not];omega
 have hmk:=mk_ram
 obtain⟨Z,hZ⟩:∃Z,madeCells #[Value.int .u8 0] 8192=Z:=⟨_,rfl⟩
 rw[hZ] at hmk
 have HZ:=Lib.hid hZ
 clear hZ
 have HP:=Lib.hid hp
 have HV:=Lib.hid hV
 have HOK:=Lib.hid hok
 have HA:=Lib.hid (And.intro ha hl)
 have HIN:=Lib.hid (And.intro hin hiq)
 have HFU:=Lib.hid (And.intro hfu hfb)
 obtain⟨aa,ha0⟩:∃x,p.args[k]? =some x:=⟨_,List.getElem?_eq_getElem (by rw[hok.alen];omega)⟩
 have haa:(args.length:Int)=aa:=by rw[hl,Int.toNat_natCast,List.getD_eq_getElem?_getD,ha0];rfl
 have hne:((args.length:Int) !=aa)=false:=by rw[bne_eq_false_iff_eq];exact haa
 have hkal:(k:Int)<p.args.length:=by rw[hok.alen];omega
 obtain⟨ba,oa,rfl,hba,hca,_⟩:=hpa.get ha0
 rw[Nat.mul_one] at hca
 clear hp hV hok ha hl hin hiq hfu hfb hpf hpa hpd hpb hf ha0 haa
 go_enter_defers Try.func23,Try.ntmps23
 go_upto_region 1 with fail
 have hb0:Below w.heap.size w (((w.alloc (.cells #[.slice f1 p.funcs.length f2,.slice (some ⟨ba,oa,none⟩) p.args.length a2,.int .i64 p.entry,.int .i64 p.handler,.slice d1 p.data.length d2,.slice b1 p.banks.length b2] 29)).alloc (.cells #[.slice i1 inn.length i2,.slice q1 irq.length q2] 61)).alloc (.cells #[.int .u16 0,.slice none 0 0,.int .i64 0,.int .u16 0,.string {data:=#[]},.int .i64 0,.int .i64 0] 57)):=(((Below.refl _ _).alloc (Nat.le_refl _) _).alloc (by simp) _).alloc (by simp<;>omega) _
 have hx0:(((w.alloc (.cells #[.slice f1 p.funcs.length f2,.slice (some ⟨ba,oa,none⟩) p.args.length a2,.int .i64 p.entry,.int .i64 p.handler,.slice d1 p.data.length d2,.slice b1 p.banks.length b2] 29)).alloc (.cells #[.slice i1 inn.length i2,.slice q1 irq.length q2] 61)).alloc (.cells #[.int .u16 0,.slice none 0 0,.int .i64 0,.int .u16 0,.string {data:=#[]},.int .i64 0,.int .i64 0] 57)).heap[w.heap.size]? =some (.cells #[.slice f1 p.funcs.length f2,.slice (some ⟨ba,oa,none⟩) p.args.length a2,.int .i64 p.entry,.int .i64 p.handler,.slice d1 p.data.length d2,.slice b1 p.banks.length b2] 29 (0,0)):=zB (zB (zI rfl))
 have hx1:(((w.alloc (.cells #[.slice f1 p.funcs.length f2,.slice (some ⟨ba,oa,none⟩) p.args.length a2,.int .i64 p.entry,.int .i64 p.handler,.slice d1 p.data.length d2,.slice b1 p.banks.length b2] 29)).alloc (.cells #[.slice i1 inn.length i2,.slice q1 irq.length q2] 61)).alloc (.cells #[.int .u16 0,.slice none 0 0,.int .i64 0,.int .u16 0,.string {data:=#[]},.int .i64 0,.int .i64 0] 57)).heap[w.heap.size+1]? =some (.cells #[.slice i1 inn.length i2,.slice q1 irq.length q2] 61 (0,0)):=zB (zI (by simp))
 have hx2:(((w.alloc (.cells #[.slice f1 p.funcs.length f2,.slice (some ⟨ba,oa,none⟩) p.args.length a2,.int .i64 p.entry,.int .i64 p.handler,.slice d1 p.data.length d2,.slice b1 p.banks.length b2] 29)).alloc (.cells #[.slice i1 inn.length i2,.slice q1 irq.length q2] 61)).alloc (.cells #[.int .u16 0,.slice none 0 0,.int .i64 0,.int .u16 0,.string {data:=#[]},.int .i64 0,.int .i64 0] 57)).heap[w.heap.size+2]? =some (.cells #[.int .u16 0,.slice none 0 0,.int .i64 0,.int .u16 0,.string {data:=#[]},.int .i64 0,.int .i64 0] 57 (0,0)):=zI (by simp)
 generalize hW0:((w.alloc (.cells #[.slice f1 p.funcs.length f2,.slice (some ⟨ba,oa,none⟩) p.args.length a2,.int .i64 p.entry,.int .i64 p.handler,.slice d1 p.data.length d2,.slice b1 p.banks.length b2] 29)).alloc (.cells #[.slice i1 inn.length i2,.slice q1 irq.length q2] 61)).alloc (.cells #[.int .u16 0,.slice none 0 0,.int .i64 0,.int .u16 0,.string {data:=#[]},.int .i64 0,.int .i64 0] 57)=W0 at *
 have HB0:=Lib.hid hb0
 have HX0:=Lib.hid (And.intro hx0 (And.intro hx1 hx2))
 have p0:W0.cell? ⟨w.heap.size,0,none⟩=some (.slice f1 p.funcs.length f2):=zA hx0 (by simp)
 have p1:W0.cell? ⟨w.heap.size,1,none⟩=some (.slice (some ⟨ba,oa,none⟩) p.args.length a2):=zA hx0 (by simp)
 have p2:W0.cell? ⟨w.heap.size,2,none⟩=some (.int .i64 p.entry):=zA hx0 (by simp)
 have p3:W0.cell? ⟨w.heap.size,3,none⟩=some (.int .i64 p.handler):=zA hx0 (by simp)
 have p4:W0.cell? ⟨w.heap.size,4,none⟩=some (.slice d1 p.data.length d2):=zA hx0 (by simp)
 have p5:W0.cell? ⟨w.heap.size,5,none⟩=some (.slice b1 p.banks.length b2):=zA hx0 (by simp)
 clear hx0 hx1 hx2 hb0 hW0
 go_upto_region 3 with(go_at_call 20;go_must (refine(HV.out _ HB0.out).mono ?_;rintro e W1 ⟨rfl,hb1⟩;have q0:=(hb1.cell (p:=⟨w.heap.size,0,none⟩) (World.block_lt_of_cell? W0 _ p0)).trans p0;have q1':=(hb1.cell (p:=⟨w.heap.size,1,none⟩) (World.block_lt_of_cell? W0 _ p1)).trans p1;have cx:=zV (HB0.out.trans (hb1.mono HB0.out.size)) hba hca))
 have y0:=zH hb1 HX0.out.1 (lt_of_block HX0.out.1)
 have y1:=zH hb1 HX0.out.2.1 (lt_of_block HX0.out.2.1)
 have y2:=zH hb1 HX0.out.2.2 (lt_of_block HX0.out.2.2)
 have hl2:=lt_of_block y2
 have HW1:=Lib.hid (HB0.out.trans (hb1.mono HB0.out.size))
 have HY:=Lib.hid y2
 have hall:∀w',Below W1.heap.size W1 w'->(w'.cell? ⟨w.heap.size,0,none⟩=some (.slice f1 p.funcs.length f2)/\w'.cell? ⟨w.heap.size,1,none⟩=some (.slice (some ⟨ba,oa,none⟩) p.args.length a2)/\w'.cell? ⟨w.heap.size,2,none⟩=some (.int .i64 p.entry)/\w'.cell? ⟨w.heap.size,3,none⟩=some (.int .i64 p.handler)/\w'.cell? ⟨w.heap.size,4,none⟩=some (.slice d1 p.data.length d2)/\w'.cell? ⟨w.heap.size,5,none⟩=some (.slice b1 p.banks.length b2)/\w'.cell? ⟨w.heap.size+1,0,none⟩=some (.slice i1 inn.length i2)/\w'.cell? ⟨w.heap.size+1,1,none⟩=some (.slice q1 irq.length q2)):=fun w' hb=>by
  have z0:=zH hb y0 (by omega)
  have z1:=zH hb y1 (by omega)
  exact⟨zA z0 (by simp),zA z0 (by simp),zA z0 (by simp),zA z0 (by simp),zA z0 (by simp),zA z0 (by simp),zA z1 (by simp),zA z1 (by simp)⟩
 have HALL:=Lib.hid hall
 clear q0 q1' p0 p1 p2 p3 p4 p5 HB0 HX0 hb1 y0 y1 y2 hall cx
 go_cut [13] from 41 to 47 (fun v wx=>∃rb pm b13:Nat,v=.pointer (some ⟨b13,0,none⟩)/\Hid (wx.heap[b13]? =some (.cells #[.pointer (some ⟨pm,0,none⟩)] 102 (0,0))/\wx.heap[rb]? =some (.cells Z 5 (0,0))/\wx.heap[pm]? =some (.cells #[.slice f1 p.funcs.length f2,.slice (some ⟨ba,oa,none⟩) p.args.length a2,.int .i64 p.entry,.int .i64 p.handler,.slice d1 p.data.length d2,.slice b1 p.banks.length b2,.slice (some ⟨rb,0,none⟩) 8192 8192,.slice i1 inn.length i2,.slice q1 irq.length q2,.int .i64 fuel,.slice none 0 0,.int .i64 0,.int .i64 0] 104 (0,0))/\Below W1.heap.size W1 wx/\W1.heap.size<=rb/\W1.heap.size<=pm/\W1.heap.size<=b13))
 case first=>
  go_region_held3 (fun w'=>w'.cell? ⟨w.heap.size,0,none⟩=some (.slice f1 p.funcs.length f2)/\w'.cell? ⟨w.heap.size,1,none⟩=some (.slice (some ⟨ba,oa,none⟩) p.args.length a2)/\w'.cell? ⟨w.heap.size,2,none⟩=some (.int .i64 p.entry)/\w'.cell? ⟨w.heap.size,3,none⟩=some (.int .i64 p.handler)/\w'.cell? ⟨w.heap.size,4,none⟩=some (.slice d1 p.data.length d2)/\w'.cell? ⟨w.heap.size,5,none⟩=some (.slice b1 p.banks.length b2)/\w'.cell? ⟨w.heap.size+1,0,none⟩=some (.slice i1 inn.length i2)/\w'.cell? ⟨w.heap.size+1,1,none⟩=some (.slice q1 irq.length q2))
   ((refine HALL.out _ ?_;repeat' (first|exact Below.refl _ _|refine Below.drew ?_|refine Below.alloc ?_ (by simp<;>omega) _|refine Below.setCell ?_ (by simp<;>omega) _)))
   (fail)
  all_goals go_wp2_with fail
  all_goals go_meet
  ·exact⟨W1.heap.size,W1.heap.size+1,W1.heap.size+1+1,rfl,(sf _ _ _ _).2.2.1,(sf _ _ _ _).1,(sf _ _ _ _).2.1,(sf _ _ _ _).2.2.2,by omega,by omega,by omega⟩
  ·exact⟨W1.heap.size,W1.heap.size+1+1,W1.heap.size+1,rfl,(sf _ _ _ _).2.1,(sf _ _ _ _).1,(sf _ _ _ _).2.2.1,(sf _ _ _ _).2.2.2,by omega,by omega,by omega⟩
  ·exact⟨W1.heap.size+1,W1.heap.size+1+1,W1.heap.size,rfl,(sf _ _ _ _).1,(sf _ _ _ _).2.1,(sf _ _ _ _).2.2.1,(sf _ _ _ _).2.2.2,by omega,by omega,by omega⟩
 case rest=>
  obtain⟨rb,pm,b13,rfl,HK⟩:=hcut
  have k1:wc.cell? ⟨b13,0,none⟩=some (.pointer (some ⟨pm,0,none⟩)):=zA HK.out.1 (by simp)
  have k2:wc.cell? ⟨pm,6,none⟩=some (.slice (some ⟨rb,0,none⟩) 8192 8192):=zA HK.out.2.2.1 (by simp)
  have hzl:Z.toList=List.replicate 8192 (Value.int .u8 0):=by rw[<-HZ.out];exact toList_madeCells_one _ _
  have hzs:8192<=Z.size:=by have:=congrArg List.length hzl;rw[List.length_replicate] at this;simp at this;omega
  have hcp:=fun ty:TypeId=>tQ (P:=Try.prog) wc 37 9 ty 5 rb 8192 8192 s Z 5 Try.underlying37 (by kernel_rfl) HK.out.2.1 hzs
  obtain⟨n,hn⟩:∃n,goInt (Nat.min s.size 8192)=n:=⟨_,rfl⟩
  have hrow:(byteCells (s.data.toList.take (Nat.min s.size 8192))++Z.toList.drop (Nat.min s.size 8192)).toArray=((v7 s).map wz).toArray:=by
   rw[<-ram_init s,hzl]
  rw[hn,hrow] at hcp
  clear hzl hzs hrow hn
  have hb2:Below W1.heap.size W1 (wc.setRow rb ((v7 s).map wz).toArray):=below_setRow HK.out.2.2.2.1 HK.out.2.2.2.2.1 _
  have hr2:(wc.setRow rb ((v7 s).map wz).toArray).heap[rb]? =some (.cells ((v7 s).map wz).toArray 5 (0,0)):=nZ HK.out.2.1
  have hm2:(wc.setRow rb ((v7 s).map wz).toArray).heap[pm]? =_:=ss HK.out.2.2.1 (by rintro rfl;have h1:=HK.out.2.1;rw[HK.out.2.2.1] at h1;simp at h1)
  have h13:(wc.setRow rb ((v7 s).map wz).toArray).heap[b13]? =_:=ss HK.out.1 (by rintro rfl;have h1:=HK.out.2.1;rw[HK.out.1] at h1;simp at h1)
  go_upto_region 5 with fail
  generalize hW2:wc.setRow rb ((v7 s).map wz).toArray=W2 at *
  have hmf:∀(fn:Fn) (first cap:Array Value) (W:World),(Instr.makeFunc fn first cap).run Try.prog W=.ok (.func fn first cap) W:=fun _ _ _ _=>rfl
  obtain⟨K,hK⟩:∃K:MK,K=⟨⟨p,inn,irq⟩,⟨.slice f1 p.funcs.length f2,.slice (some ⟨ba,oa,none⟩) p.args.length a2,.slice d1 p.data.length d2,.slice b1 p.banks.length b2⟩,.slice i1 inn.length i2,.slice q1 irq.length q2,pm,rb,W1.heap.size⟩:=⟨_,rfl⟩
  have hbw2:Below w.heap.size w W2:=HW1.out.trans (hb2.mono HW1.out.size)
  have hM2:MachAt W2 K ⟨v7 s,fuel,[],0,0⟩ (.slice none 0 0):=by
   subst hK
   exact⟨hm2,hr2,iG s,ramOf_lt s,World.ownsRow_nil _ _ _ _,fun p hp=>by simp at hp,by have:=HFU.out.2;show 0+fuel.toNat<=4000000;omega,HFU.out.1,Nat.zero_le _,Nat.zero_le _,HK.out.2.2.2.2.2.1,HK.out.2.2.2.2.1,(HP.out.below hbw2).mono HW1.out.size,(HIN.out.1.below zr hbw2).mono zr HW1.out.size,(HIN.out.2.below xQ hbw2).mono xQ HW1.out.size⟩
  have hy2:W2.heap[w.heap.size+2]? =_:=zH hb2 HY.out (lt_of_block HY.out)
  have HM2:=Lib.hid hM2
  have HX2:=Lib.hid (And.intro h13 (And.intro hy2 (And.intro hb2 hbw2)))
  clear hW2 hM2 hy2 h13 hr2 hm2 hb2 hbw2 hcp k1 k2 HK
  go_upto_region 6 with fail
  have hx14:(W2.alloc (.cells #[.func (.func 50) #[] #[.pointer (some ⟨b13,0,none⟩),.pointer (some ⟨w.heap.size+1+1,0,none⟩)]] 105)).heap[W2.heap.size]? =some (.cells #[.func (.func 50) #[] #[.pointer (some ⟨b13,0,none⟩),.pointer (some ⟨w.heap.size+1+1,0,none⟩)]] 105 (0,0)):=zI rfl
  have hb3:=(Below.refl W2.heap.size W2).alloc (Nat.le_refl _) (.cells #[.func (.func 50) #[] #[.pointer (some ⟨b13,0,none⟩),.pointer (some ⟨w.heap.size+1+1,0,none⟩)]] 105)
  have hM3:=HM2.out.keep hb3
  have hx13:=zH hb3 HX2.out.1 (lt_of_block HX2.out.1)
  have hx12:=zH hb3 HX2.out.2.1 (lt_of_block HX2.out.2.1)
  have hbw3:Below w.heap.size w _:=HX2.out.2.2.2.trans (hb3.mono HX2.out.2.2.2.size)
  have hW12:Below W1.heap.size W1 _:=HX2.out.2.2.1.trans (hb3.mono HX2.out.2.2.1.size)
  generalize hW3:W2.alloc (.cells #[.func (.func 50) #[] #[.pointer (some ⟨b13,0,none⟩),.pointer (some ⟨w.heap.size+1+1,0,none⟩)]] 105)=W3 at *
  generalize W2.heap.size=b14 at *
  have hKp:K.E=⟨p,inn,irq⟩/\K.pm=pm/\K.B=W1.heap.size:=by rw[hK];exact⟨rfl,rfl,rfl⟩
  have hcall:=mi K (by rw[hKp.1];exact HOK.out) 100 (Nat.le_refl _) W3 _ _ (.slice v1 args.length v2) (k:Int) args hM3 (by omega) (by rw[hKp.1];show(k:Int).toNat<p.funcs.length;omega) ((HA.out.1.below zr hbw3).mono zr hbw3.size) (by rw[hKp.1];exact HA.out.2)
  obtain⟨RES,hRES⟩:∃R,xW K.E 100 (k:Int) args ⟨v7 s,fuel,[],0,0⟩=R:=⟨_,rfl⟩
  have hrun:i6 ⟨p,inn,irq⟩ (k:Int) args s fuel=runOf RES:=by rw[<-hRES,hKp.1];rfl
  rw[hRES,hKp.2.1] at hcall
  have e1:(101:Int)-((100:Nat):Int)=1:=by decide
  rw[e1] at hcall
  have g13:W3.cell? ⟨b13,0,none⟩=some (.pointer (some ⟨pm,0,none⟩)):=zA hx13 (by simp)
  have HRUN:=Lib.hid hrun
  have HKP:=Lib.hid hKp
  have H3:=Lib.hid (And.intro hx13 (And.intro hx12 (And.intro hx14 (And.intro hbw3 hW12))))
  clear hW3 hM3 hx13 hx12 hx14 hb3 hbw3 hW12 hK hrun hRES HX2 HM2 e1 hKp
  have hpost:∀(w4:World) (ov4:Value) (m4:Mach),MachAt w4 K m4 ov4->Frm K.B W3 w4->
   w4.heap[b13]? =some (.cells #[.pointer (some ⟨K.pm,0,none⟩)] 102 (0,0))/\w4.heap[w.heap.size+1+1]? =some (.cells #[.int .u16 0,.slice none 0 0,.int .i64 0,.int .u16 0,.string {data:=#[]},.int .i64 0,.int .i64 0] 57 (0,0))/\w4.cell? ⟨b14,0,none⟩=some (.func (.func 50) #[] #[.pointer (some ⟨b13,0,none⟩),.pointer (some ⟨w.heap.size+1+1,0,none⟩)])/\Below w.heap.size w w4:=fun w4 ov4 m4 hM4 hF4=>by
   refine⟨by rw[HKP.out.2.1];exact hF4.kept _ _ H3.out.1 (by simp[sA]),hF4.kept _ _ H3.out.2.1 (by simp[sA]),zA (hF4.kept _ _ H3.out.2.2.1 (by simp[sA])) (by simp),H3.out.2.2.2.1.trans (hF4.below.mono ?_)⟩
   rw[HKP.out.2.2];exact HW1.out.size
  have HPOST:=Lib.hid hpost
  clear hpost
  cases RES with
  |ok x m4=>
   have hc2:Calls Try.prog 52 #[.pointer (some ⟨pm,0,none⟩),.int .i64 (k:Int),.slice v1 args.length v2,.int .i64 1] W3 fun e w'=>e=.returned (.int .u16 (x:Int))/\(∃ov',MachAt w' K m4 ov')/\Frm K.B W3 w'/\x<65536:=hcall
   have HC2:=Lib.hid hc2
   clear hcall hc2
   go_upto_region 8 with(go_at_call 52;go_must (refine HC2.out.mono ?_;rintro e w4 ⟨rfl,⟨ov4,hM4⟩,hF4,hx4⟩))
   obtain⟨z13,z12,z14,zb⟩:=HPOST.out w4 ov4 m4 hM4 hF4
   obtain⟨oa4,oc4,rfl⟩:=zG hM4.out
   have hfin:Calls Try.prog 50 #[.agg #[.int .i64 6,.int .u16 0],.int .u16 (x:Int),.pointer (some ⟨b13,0,none⟩),.pointer (some ⟨w.heap.size+1+1,0,none⟩)] w4 fun e w'=>
    e=.returned (.tuple #[])/\w'.heap[w.heap.size+1+1]? =some (.cells (yV x (.slice oa4 m4.out.length oc4) 6 0 (y9 m4.ram) m4.inputs m4.polls) 57 (0,0))/\w4.grownBy w' (some (w.heap.size+1+1)):=pE hM4 z13 z12 6 0 x
   have hne14:w4.heap[b14]? =_:=hF4.kept _ _ H3.out.2.2.1 (by simp[sA])
   have HFIN:=Lib.hid hfin
   have HZ4:=Lib.hid (And.intro hM4 (And.intro z12 (And.intro zb hne14)))
   clear hfin z13 z12 zb hM4 hF4 hne14
   go_upto_region 9 with(go_at_call 50;go_must (refine HFIN.out.mono ?_;rintro e w5 ⟨rfl,h5,h6⟩))
   have r0:w5.cell? ⟨w.heap.size+1+1,0,none⟩=some (.int .u16 (x:Int)):=zA h5 (by simp[yV])
   have s0:w5.frozen? ⟨w.heap.size+1+1,0,none⟩=false:=zE h5
   have r1:w5.cell? ⟨w.heap.size+1+1,1,none⟩=some (.slice oa4 m4.out.length oc4):=zA h5 (by simp[yV])
   have s1:w5.frozen? ⟨w.heap.size+1+1,1,none⟩=false:=zE h5
   have r2:w5.cell? ⟨w.heap.size+1+1,2,none⟩=some (.int .i64 6):=zA h5 (by simp[yV])
   have s2:w5.frozen? ⟨w.heap.size+1+1,2,none⟩=false:=zE h5
   have r3:w5.cell? ⟨w.heap.size+1+1,3,none⟩=some (.int .u16 0):=zA h5 (by simp[yV])
   have s3:w5.frozen? ⟨w.heap.size+1+1,3,none⟩=false:=zE h5
   have r4:w5.cell? ⟨w.heap.size+1+1,4,none⟩=some (.string (y9 m4.ram)):=zA h5 (by simp[yV])
   have s4:w5.frozen? ⟨w.heap.size+1+1,4,none⟩=false:=zE h5
   have r5:w5.cell? ⟨w.heap.size+1+1,5,none⟩=some (.int .i64 (m4.inputs:Int)):=zA h5 (by simp[yV])
   have s5:w5.frozen? ⟨w.heap.size+1+1,5,none⟩=false:=zE h5
   have r6:w5.cell? ⟨w.heap.size+1+1,6,none⟩=some (.int .i64 (m4.polls:Int)):=zA h5 (by simp[yV])
   have s6:w5.frozen? ⟨w.heap.size+1+1,6,none⟩=false:=zE h5
   have hE:=ku HZ4.out.1 HZ4.out.2.1 (by omega) HZ4.out.2.2.1 (zu (zu (zu (zu (zu (zu (zu h6 0 (.int .u16 (x:Int))) 1 (.slice oa4 m4.out.length oc4)) 2 (.int .i64 6)) 3 (.int .u16 0)) 4 (.string (y9 m4.ram))) 5 (.int .i64 (m4.inputs:Int))) 6 (.int .i64 (m4.polls:Int)))
   have hres:rf w (i6 ⟨p,inn,irq⟩ (k:Int) args s fuel) (.returned (.agg #[.int .u16 (x:Int),.slice oa4 m4.out.length oc4,.int .i64 6,.int .u16 0,.string (y9 m4.ram),.int .i64 (m4.inputs:Int),.int .i64 (m4.polls:Int)])) (((((((w5.setCell ⟨w.heap.size+1+1,0,none⟩ (.int .u16 (x:Int))).setCell ⟨w.heap.size+1+1,1,none⟩ (.slice oa4 m4.out.length oc4)).setCell ⟨w.heap.size+1+1,2,none⟩ (.int .i64 6)).setCell ⟨w.heap.size+1+1,3,none⟩ (.int .u16 0)).setCell ⟨w.heap.size+1+1,4,none⟩ (.string (y9 m4.ram))).setCell ⟨w.heap.size+1+1,5,none⟩ (.int .i64 (m4.inputs:Int))).setCell ⟨w.heap.size+1+1,6,none⟩ (.int .i64 (m4.polls:Int))):=by
    rw[HRUN.out]
    exact⟨_,rfl,hE.1,hE.2⟩
   have HRES:=Lib.hid hres
   clear hres hE
   go_wp2
   refine leaves_cons (f:=51) (args:=#[.pointer (some ⟨b14,0,none⟩)]) (by simp) (by simp[go_sem]) ?_
   refine(rec_idle _ _).mono ?_
   rintro e u' w6 ⟨rfl,rfl,rfl⟩
   simp[Leaves,settle,results,Try.results23,go_sem,r0,r1,r2,r3,r4,r5,r6]
   exact HRES.out
  |trap k2 i2 m4=>
   have hc2:Calls Try.prog 52 #[.pointer (some ⟨pm,0,none⟩),.int .i64 (k:Int),.slice v1 args.length v2,.int .i64 1] W3 fun e w'=>e=.panicked [oE k2 i2]/\(∃ov',MachAt w' K m4 ov')/\Frm K.B W3 w'/\True:=hcall
   have HC2:=Lib.hid hc2
   clear hcall hc2
   go_wp2_with (go_at_call 52;go_must (refine HC2.out.mono ?_;rintro e w4 ⟨rfl,⟨ov4,hM4⟩,hF4,_⟩))
   obtain⟨z13,z12,z14,zb⟩:=HPOST.out w4 ov4 m4 hM4 hF4
   have hd:=pi hM4 z13 z12 z14 k2 i2 []
   obtain⟨oa4,oc4,rfl⟩:=zG hM4.out
   refine leaves_cons (f:=51) (args:=#[.pointer (some ⟨b14,0,none⟩)]) (by simp) (by simp[go_sem]) ?_
   refine hd.mono ?_
   rintro e u' w5 ⟨rfl,rfl,h5,h6⟩
   have hE:=ku hM4 z12 (by omega) zb h6
   have r0:w5.cell? ⟨w.heap.size+1+1,0,none⟩=some (.int .u16 ((0:Nat):Int)):=zA h5 (by simp[yV])
   have r1:w5.cell? ⟨w.heap.size+1+1,1,none⟩=some (.slice oa4 m4.out.length oc4):=zA h5 (by simp[yV])
   have r2:w5.cell? ⟨w.heap.size+1+1,2,none⟩=some (.int .i64 (k2:Int)):=zA h5 (by simp[yV])
   have r3:w5.cell? ⟨w.heap.size+1+1,3,none⟩=some (.int .u16 (i2:Int)):=zA h5 (by simp[yV])
   have r4:w5.cell? ⟨w.heap.size+1+1,4,none⟩=some (.string (y9 m4.ram)):=zA h5 (by simp[yV])
   have r5:w5.cell? ⟨w.heap.size+1+1,5,none⟩=some (.int .i64 (m4.inputs:Int)):=zA h5 (by simp[yV])
   have r6:w5.cell? ⟨w.heap.size+1+1,6,none⟩=some (.int .i64 (m4.polls:Int)):=zA h5 (by simp[yV])
   have hfin:rf w (i6 ⟨p,inn,irq⟩ (k:Int) args s fuel) (.returned (.agg #[.int .u16 ((0:Nat):Int),.slice oa4 m4.out.length oc4,.int .i64 (k2:Int),.int .u16 (i2:Int),.string (y9 m4.ram),.int .i64 (m4.inputs:Int),.int .i64 (m4.polls:Int)])) w5:=by
    rw[HRUN.out]
    exact⟨_,rfl,hE.1,hE.2⟩
   simp[Leaves,settle,results,Try.results23,go_sem,r0,r1,r2,r3,r4,r5,r6]
   exact hfin
end Go.Proofs.Ytojclalkfhoooaa
