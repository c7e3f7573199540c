/- Part of a proof. -/
import Derived.Test.YtojclalkfhoooaaGIFun2
set_option linter.all false
set_option maxHeartbeats 4000000
set_option maxRecDepth 100000
namespace Go.Proofs.Ytojclalkfhoooaa
open Go.RowKit Go.Lib
variable {w w':World}{l:List (IOp×Value)}
theorem Try.info_u8:(Try.prog.info? 5).map (fun i=>(i.zero,i.size,i.bytes))=some (some (.int .u8 0),1,1):=by kernel_rfl
theorem tQ {P:Program}(w:World)(dT sT ty c:TypeId)(g dLen k:Nat)(s:ByteArray)(cur:Array Value)(t:TypeId)
 (m:P.underlying dT=some (.slice c)) (hs:(P.info? c).map (·.size)=some 1) (hg:L w g cur t) (o:dLen<=cur.size):
 (Builtin.copy_ #[dT,sT] ty #[.slice (some ⟨g,0,none⟩) dLen k,.string s]).run P w=
  .ok (goInt (Nat.min s.size dLen)) (w.setRow g (byteCells (s.data.toList.take (Nat.min s.size dLen))++cur.toList.drop (Nat.min s.size dLen)).toArray):=by
 obtain⟨n,j⟩:∃n,Nat.min s.size dLen=n:=⟨_,rfl⟩
 have r:n<=s.size:=by rw[<-j];exact Nat.min_le_left _ _
 have hnd:n<=dLen:=by rw[<-j];exact Nat.min_le_right _ _
 have h:(byteCells (s.data.toList.take n)).length=n:=by rw[byteCells_length,Oc,<-size_eq];omega
 have d:=run_storeCells_at P g 0 t (byteCells (s.data.toList.take n)) 0 cur w hg (by rw[h];omega) (byteCells_one _)
 have l:List.take n (List.map (fun b:UInt8=>Value.int IntKind.u8 (b.toNat:Int)) s.data.toList)=byteCells (s.data.toList.take n):=by
  rw[<-List.map_take];rfl
 rw[h] at d;simp only[Uk] at d;rw[j]
 cases hq:P.info? c with
 |none=>simp[hq] at hs
 |some i=>
  simp[Builtin.copy_,run_underlying m,Builtin.lenOf,Builtin.firstCells,sizeOf,typeInfo,hq,j];rw[l,d];simp[Result.andThen]
theorem ram_init (s:ByteArray):byteCells (s.data.toList.take (Nat.min s.size 8192))++(List.replicate 8192 (Value.int .u8 0)).drop (Nat.min s.size 8192)=(v7 s).map wz:=by
 apply Oq;intro k;have i:s.data.toList.length=s.size:=(size_eq s).symm;have hl:(byteCells (s.data.toList.take (Nat.min s.size 8192))).length=Nat.min s.size 8192:=by rw[byteCells_length,Oc,i];exact Ud (Nat.min_le_left _ _)
 unfold v7;rw[List.map_map,Jr];obtain⟨n,c⟩:∃n,Nat.min s.size 8192=n:=⟨_,rfl⟩
 have o:n<=s.size:=by rw[<-c];exact Nat.min_le_left _ _
 have m:n<=8192:=by rw[<-c];exact Nat.min_le_right _ _
 have l:n=s.size∨n=8192:=by rcases Nat.le_total s.size 8192 with h|h;exact .inl (by rw[<-c];exact Ud h);exact .inr (by rw[<-c];exact Nat.min_eq_right h)
 rw[c] at hl ⊢
 by_cases h1:k<n
 ·rw[Np Zo,Oh Zo];unfold byteCells;rw[Jr,Ug,if_pos h1];have d:k<s.data.toList.length:=Zo;rw[Jd d];have g:k<s.data.size:=by simpa using d
  simp[wz,Array.getD_eq_getD_getElem?,Array.getElem?_eq_getElem g]
 ·rw[Nc Zo,hl,List.getElem?_drop,show n+(k-n)=k by omega,Nm]
  by_cases h2:k<8192
  ·rw[if_pos h2,Oh h2];have j:¬k<s.data.size:=by have:s.data.size=s.size:=rfl;omega
   simp[wz,Array.getD_eq_getD_getElem?,Array.getElem?_eq_none (Nat.le_of_not_lt j)]
  ·rw[if_neg h2,Of (by simpa using h2)];rfl
def EvR (w:World)(B b q:Nat)(x:Nat×Nat):Prop:=G w b q (I (x.1:Int))/\G w b (q+1) (I (x.2:Int))/\x.1<65536/\x.2<65536
theorem vo:vV EvR:=⟨fun w w' B b q x hB hb h=>⟨zV hb hB h.1,zV hb hB h.2.1,h.2.2⟩,fun w B B' b q x _ h=>h⟩
abbrev vM:=yN 2 EvR
def runVal (R:IRun)(ov:Value):Value:=.agg (yV R.value ov R.kind R.info (y9 R.ram) R.inputs R.polls)
def abr (w:World)(R:IRun)(e:Ending)(w':World):Prop:=∃ov,e=.returned (runVal R ov)/\vM w' w'.heap.size ov R.out/\F w w'
def sZ (V:PV)(p:IProg):Value:=.agg #[V.fv,V.av,A p.entry,A p.handler,V.dv,V.bv]
theorem iG (s:ByteArray):(v7 s).length=8192:=by simp[v7]
theorem bY (s:ByteArray):∀x∈v7 s,x<256:=by
 intro x c;unfold v7 at c;obtain⟨k,_,rfl⟩:=Nu.1 c;exact UInt8.toNat_lt _
theorem tM (w:World)(b k:Nat)(cs:Array Value)(h:k≠b):(w.setRow b cs).heap[k]? =w.heap[k]?:=by
 unfold World.setRow;simp only[Array.getElem?_modify];rw[if_neg (fun e=>h e.symm)]
theorem below_setRow{B:Nat}(h:Below B w w'){b:Nat}(hb:B<=b)(cs:Array Value):Below B w (w'.setRow b cs):=
 h.trans ⟨rfl,rfl,rfl,by unfold World.setRow;simp,fun k hk=>tM _ _ _ _ Zo⟩
theorem nZ{b:Nat}{cs c:Array Value}{t:TypeId}(h:L w b cs t):L (w.setRow b c) b c t:=setRow_heap w b cs c t (0,0) h
theorem ss{b b':Nat}{d:Array Value}{o:Obj}(h:w.heap[b']? =some o)(c:b'≠b):(w.setRow b d).heap[b']? =some o:=(tM _ _ _ _ c).trans h
theorem sf (W:World)(A B C:Obj):(((W.alloc A).alloc B).alloc C).drew.heap[W.heap.size]? =some A/\(((W.alloc A).alloc B).alloc C).drew.heap[W.heap.size+1]? =some B/\(((W.alloc A).alloc B).alloc C).drew.heap[W.heap.size+1+1]? =some C/\F W (((W.alloc A).alloc B).alloc C).drew:=
 ⟨zB (zB (zI rfl)),zB (zI Zs),zI Zs,((((Below.refl _ _).alloc (Je _) _).alloc Zs _).alloc (by simp<;>omega) _).drew⟩
theorem oG:∀ {l:List (Nat×Nat)} {k:Nat} {p:Nat×Nat},l[k]? =some p->(qO l)[k*2]? =some (vL p.1)/\(qO l)[k*2+1]? =some (vL p.2)
 | [],k,p,h=>by simp at h
 |a::l,0,p,h=>by simp at h;subst h;exact⟨rfl,rfl⟩
 |a::l,k+1,p,h=>by
  have:=oG (l:=l) (k:=k) (by simpa using h);rw[show(k+1)*2=k*2+1+1 by omega];exact this
theorem kP{S:Nat}{ov:Value}{l:List (Nat×Nat)}(h:w.ownsRow S 87 2 ov l.length (qO l))(i:∀p∈l,p.1<65536/\p.2<65536):vM w w.heap.size ov l:=by
 obtain⟨a,c,rfl⟩:=zG h;have hl:=zm h;refine⟨a,c,rfl,hl.1,by omega,fun k x hk=>?_⟩;have j:=(Jh.1 hk).1;obtain⟨g,cap,e,hg,hb⟩:=h.form Zo;cases e;obtain⟨h1,h2⟩:=oG hk;have d:=i x (Ji hk);refine⟨g,0,rfl,hb,?_,?_,d.1,d.2⟩
 ·rw[Ng];exact(h.cellAt (k*2) Zo).trans h1
 ·rw[Ng];exact(h.cellAt (k*2+1) Zo).trans h2
theorem ku{w4 w5:World}{K:MK}{m:Mach}{ov:Value}{b:Nat}{r0:Array Value}(c:MachAt w4 K m ov)(d:L w4 b r0 57)(hb:w.heap.size<=b)(zb:F w w4)(hg:w4.grownBy w5 (some b)):vM w5 w5.heap.size ov m.out/\F w w5:=by
 have g:=zC c.out d (.inr Zd);exact⟨kP (c.out.kept hg (.inr g)) c.olt,zb.grown hg zb.size (fun k hk=>by simp at hk;omega)⟩
theorem mk_ram (W:World):(Instr.makeSlice 37 (A 8192) (A 8192)).run Try.prog W=.ok (N W.heap.size 8192 8192) (W.alloc (U (madeCells #[.int .u8 0] 8192) 5)):=
 run_make_row' (P:=Try.prog) 37 5 (.int .u8 0) 1 Try.underlying37 Try.info_u8 rfl .i64 .i64 8192 Zd Zd W
theorem eval_ok{V:PV}{p:IProg}(hp:ProgIn w w.heap.size V p)(b6:OkProg p)(hV:∀W,F w W->Y 20 #[sZ V p] W fun e W'=>e=.returned (A 0)/\F W W')
 (f:Int) (hf:0<=f/\f.toNat<p.funcs.length) {args:List Nat} {av:Value} (ha:wV w w.heap.size av args) (hl:(args.length:Int)=p.args.getD f.toNat 0) (s:ByteArray) (hs:s.size<=9223372036854775807)
 {inv irqv:Value} {inn irq:List Nat} (d0:wV w w.heap.size inv inn) (c9:dL w w.heap.size irqv irq) (fuel:Int) (f0:I64 fuel) (f3:fuel.toNat<=4000000):
 Y 23 #[sZ V p,A f,av,.string s,.agg #[inv,irqv],A fuel] w (abr w (bQ ⟨p,inn,irq⟩ f args s fuel)):=by
 obtain⟨Vf,Va,Vd,Vb⟩:=V;have h4:=hp.funcs;have c8:=hp.args;have h7:=hp.data;have h8:=hp.banks;obtain⟨f1,f2,e1,_,_⟩:=hp.funcs.form;obtain⟨a1,a2,e2,_,_⟩:=hp.args.form;obtain⟨d1,d2,e3,_,_⟩:=hp.data.form;obtain⟨b1,b2,e4,_,_⟩:=hp.banks.form;obtain⟨v1,v2,rfl,_,_⟩:=ha.form;obtain⟨i1,i2,rfl,_,_⟩:=d0.form;obtain⟨q1,q2,rfl,_,_⟩:=c9.form;simp only at e1 e2 e3 e4;subst e1 e2 e3 e4;obtain⟨k,rfl⟩:∃k:Nat,f=(k:Int):=⟨f.toNat,by omega⟩
 have j4:(k:Int)<p.funcs.length:=Zo;unfold sZ at hV ⊢;simp only at hV c8 ⊢;have k0:decide ((k:Int)<0)=false:=by rw[decide_eq_false_iff_not];omega
 have j5:decide (p.funcs.length<=k)=false:=by rw[decide_eq_false_iff_not];omega
 have h9:=mk_ram;obtain⟨Z,hZ⟩:∃Z,madeCells #[Value.int .u8 0] 8192=Z:=⟨_,rfl⟩
 rw[hZ] at h9;have HZ:=Ja hZ;clear hZ;have HP:=Ja hp;have HV:=Ja hV;have i6:=Ja b6;have HA:=Ja (Jb ha hl);have g3:=Ja (Jb d0 c9);have g4:=Ja (Jb f0 f3);obtain⟨aa,d4⟩:∃x,p.args[k]? =some x:=⟨_,Jd (by rw[b6.alen];omega)⟩
 have f7:(args.length:Int)=aa:=by rw[hl,Ni,Jj,d4];rfl
 have j1:((args.length:Int) !=aa)=false:=by rw[bne_eq_false_iff_eq];exact f7
 have i7:(k:Int)<p.args.length:=by rw[b6.alen];omega
 obtain⟨ba,oa,rfl,i0,f5,_⟩:=c8.get d4;rw[Nk] at f5;clear hp hV b6 ha hl d0 c9 f0 f3 h4 c8 h7 h8 hf d4 f7
 go_enter_defers Try.func23,Try.ntmps23
 go_upto_region 1 with fail;have f6:F w (((w.alloc (U #[.slice f1 p.funcs.length f2,.slice (some ⟨ba,oa,none⟩) p.args.length a2,A p.entry,A p.handler,.slice d1 p.data.length d2,.slice b1 p.banks.length b2] 29)).alloc (U #[.slice i1 inn.length i2,.slice q1 irq.length q2] 61)).alloc (U #[I 0,O,A 0,I 0,.string {data:=#[]},A 0,A 0] 57)):=(((Below.refl _ _).alloc (Je _) _).alloc Zs _).alloc (by simp<;>omega) _;have l:L (((w.alloc (U #[.slice f1 p.funcs.length f2,.slice (some ⟨ba,oa,none⟩) p.args.length a2,A p.entry,A p.handler,.slice d1 p.data.length d2,.slice b1 p.banks.length b2] 29)).alloc (U #[.slice i1 inn.length i2,.slice q1 irq.length q2] 61)).alloc (U #[I 0,O,A 0,I 0,.string {data:=#[]},A 0,A 0] 57)) w.heap.size #[.slice f1 p.funcs.length f2,.slice (some ⟨ba,oa,none⟩) p.args.length a2,A p.entry,A p.handler,.slice d1 p.data.length d2,.slice b1 p.banks.length b2] 29:=zB (zB (zI rfl));have e7:L (((w.alloc (U #[.slice f1 p.funcs.length f2,.slice (some ⟨ba,oa,none⟩) p.args.length a2,A p.entry,A p.handler,.slice d1 p.data.length d2,.slice b1 p.banks.length b2] 29)).alloc (U #[.slice i1 inn.length i2,.slice q1 irq.length q2] 61)).alloc (U #[I 0,O,A 0,I 0,.string {data:=#[]},A 0,A 0] 57)) (w.heap.size+1) #[.slice i1 inn.length i2,.slice q1 irq.length q2] 61:=zB (zI Zs);have e6:L (((w.alloc (U #[.slice f1 p.funcs.length f2,.slice (some ⟨ba,oa,none⟩) p.args.length a2,A p.entry,A p.handler,.slice d1 p.data.length d2,.slice b1 p.banks.length b2] 29)).alloc (U #[.slice i1 inn.length i2,.slice q1 irq.length q2] 61)).alloc (U #[I 0,O,A 0,I 0,.string {data:=#[]},A 0,A 0] 57)) (w.heap.size+2) #[I 0,O,A 0,I 0,.string {data:=#[]},A 0,A 0] 57:=zI Zs;generalize i5:((w.alloc (U #[.slice f1 p.funcs.length f2,.slice (some ⟨ba,oa,none⟩) p.args.length a2,A p.entry,A p.handler,.slice d1 p.data.length d2,.slice b1 p.banks.length b2] 29)).alloc (U #[.slice i1 inn.length i2,.slice q1 irq.length q2] 61)).alloc (U #[I 0,O,A 0,I 0,.string {data:=#[]},A 0,A 0] 57)=W0 at *;have a4:=Ja f6;have u:=Ja (Jb l (Jb e7 e6));have p0:=K0 l;have p1:=K1 l;have p2:=K2 l;have p3:=K3 l;have p4:=K4 l;have p5:=K5 l;clear l e7 e6 f6 i5;go_upto_region 3 with(go_at_call 20;go_must (refine(HV.out _ a4.out).mono ?_;rintro e W1 ⟨rfl,m⟩;have q0:=(m.cell (p:=⟨w.heap.size,0,none⟩) (Jw W0 _ p0)).trans p0;have h0:=(m.cell (p:=⟨w.heap.size,1,none⟩) (Jw W0 _ p1)).trans p1;have cx:=zV (a4.out.trans (m.mono a4.out.size)) i0 f5))
 have y0:=zH m u.out.1 (lt_of_block u.out.1);have y1:=zH m u.out.2.1 (lt_of_block u.out.2.1);have y2:=zH m u.out.2.2 (lt_of_block u.out.2.2);have j3:=lt_of_block y2;have a3:=Ja (a4.out.trans (m.mono a4.out.size));have HY:=Ja y2
 have d3:∀w',F W1 w'->(G w' w.heap.size 0 (.slice f1 p.funcs.length f2)/\G w' w.heap.size 1 (.slice (some ⟨ba,oa,none⟩) p.args.length a2)/\G w' w.heap.size 2 (A p.entry)/\G w' w.heap.size 3 (A p.handler)/\G w' w.heap.size 4 (.slice d1 p.data.length d2)/\G w' w.heap.size 5 (.slice b1 p.banks.length b2)/\G w' (w.heap.size+1) 0 (.slice i1 inn.length i2)/\G w' (w.heap.size+1) 1 (.slice q1 irq.length q2)):=fun w' hb=>by
  have z0:=zH hb y0 Zo;have z1:=zH hb y1 Zo;exact⟨zA z0 Zs,zA z0 Zs,zA z0 Zs,zA z0 Zs,zA z0 Zs,zA z0 Zs,zA z1 Zs,zA z1 Zs⟩
 have g9:=Ja d3;clear q0 h0 p0 p1 p2 p3 p4 p5 a4 u m y0 y1 y2 d3 cx
 go_cut [13] from 41 to 47 (fun v wx=>∃rb pm b13:Nat,v=Q b13/\Hid (L wx b13 #[Q pm] 102/\L wx rb Z 5/\L wx pm #[.slice f1 p.funcs.length f2,.slice (some ⟨ba,oa,none⟩) p.args.length a2,A p.entry,A p.handler,.slice d1 p.data.length d2,.slice b1 p.banks.length b2,N rb 8192 8192,.slice i1 inn.length i2,.slice q1 irq.length q2,A fuel,O,A 0,A 0] 104/\F W1 wx/\W1.heap.size<=rb/\W1.heap.size<=pm/\W1.heap.size<=b13))
 case first=>
  go_region_held3 (fun w'=>G w' w.heap.size 0 (.slice f1 p.funcs.length f2)/\G w' w.heap.size 1 (.slice (some ⟨ba,oa,none⟩) p.args.length a2)/\G w' w.heap.size 2 (A p.entry)/\G w' w.heap.size 3 (A p.handler)/\G w' w.heap.size 4 (.slice d1 p.data.length d2)/\G w' w.heap.size 5 (.slice b1 p.banks.length b2)/\G w' (w.heap.size+1) 0 (.slice i1 inn.length i2)/\G w' (w.heap.size+1) 1 (.slice q1 irq.length q2))
   ((refine g9.out _ ?_;repeat' (first|exact Below.refl _ _|refine Below.drew ?_|refine Below.alloc ?_ (by simp<;>omega) _|refine Below.setCell ?_ (by simp<;>omega) _)))
   (fail)
  all_goals go_wp2_with fail
  all_goals go_meet
  ·exact⟨W1.heap.size,W1.heap.size+1,W1.heap.size+1+1,rfl,(sf _ _ _ _).2.2.1,(sf _ _ _ _).1,(sf _ _ _ _).2.1,(sf _ _ _ _).2.2.2,by omega,by omega,by omega⟩
  ·exact⟨W1.heap.size,W1.heap.size+1+1,W1.heap.size+1,rfl,(sf _ _ _ _).2.1,(sf _ _ _ _).1,(sf _ _ _ _).2.2.1,(sf _ _ _ _).2.2.2,by omega,by omega,by omega⟩
  ·exact⟨W1.heap.size+1,W1.heap.size+1+1,W1.heap.size,rfl,(sf _ _ _ _).1,(sf _ _ _ _).2.1,(sf _ _ _ _).2.2.1,(sf _ _ _ _).2.2.2,by omega,by omega,by omega⟩
 case rest=>
  obtain⟨rb,pm,b13,rfl,i⟩:=hcut;have k1:=K0 i.out.1;have k2:=K6 i.out.2.2.1;have c0:Z.toList=List.replicate 8192 (Value.int .u8 0):=by rw[<-HZ.out];exact toList_madeCells_one _ _
  have e0:8192<=Z.size:=by have:=congrArg List.length c0;rw[Qr] at this;simp at this;omega
  have f4:=fun ty:TypeId=>tQ (P:=Try.prog) wc 37 9 ty 5 rb 8192 8192 s Z 5 Try.underlying37 Zk i.out.2.1 e0
  obtain⟨n,hn⟩:∃n,goInt (Nat.min s.size 8192)=n:=⟨_,rfl⟩
  have c5:(byteCells (s.data.toList.take (Nat.min s.size 8192))++Z.toList.drop (Nat.min s.size 8192)).toArray=((v7 s).map wz).toArray:=by
   rw[<-ram_init s,c0]
  rw[hn,c5] at f4;clear c0 e0 c5 hn;have b8:F W1 (wc.setRow rb ((v7 s).map wz).toArray):=below_setRow i.out.2.2.2.1 i.out.2.2.2.2.1 _;have e8:L (wc.setRow rb ((v7 s).map wz).toArray) rb ((v7 s).map wz).toArray 5:=nZ i.out.2.1;have e9:(wc.setRow rb ((v7 s).map wz).toArray).heap[pm]? =_:=ss i.out.2.2.1 (by rintro rfl;have h1:=i.out.2.1;rw[i.out.2.2.1] at h1;simp at h1);have g0:(wc.setRow rb ((v7 s).map wz).toArray).heap[b13]? =_:=ss i.out.1 (by rintro rfl;have h1:=i.out.2.1;rw[i.out.1] at h1;simp at h1);go_upto_region 5 with fail;generalize i4:wc.setRow rb ((v7 s).map wz).toArray=W2 at *;have j2:∀(fn:Fn) (first cap:Array Value) (W:World),(Instr.makeFunc fn first cap).run Try.prog W=.ok (.func fn first cap) W:=fun _ _ _ _=>rfl
  obtain⟨K,hK⟩:∃K:MK,K=⟨⟨p,inn,irq⟩,⟨.slice f1 p.funcs.length f2,.slice (some ⟨ba,oa,none⟩) p.args.length a2,.slice d1 p.data.length d2,.slice b1 p.banks.length b2⟩,.slice i1 inn.length i2,.slice q1 irq.length q2,pm,rb,W1.heap.size⟩:=⟨_,rfl⟩
  have r:F w W2:=a3.out.trans (b8.mono a3.out.size)
  have f9:MachAt W2 K ⟨v7 s,fuel,[],0,0⟩ (O):=by
   subst hK;exact⟨e9,e8,iG s,bY s,Jv _ _ _ _,fun p hp=>by simp at hp,by have:=g4.out.2;show 0+fuel.toNat<=4000000;omega,g4.out.1,Jt _,Jt _,i.out.2.2.2.2.2.1,i.out.2.2.2.2.1,(HP.out.below r).mono a3.out.size,(g3.out.1.below zr r).mono zr a3.out.size,(g3.out.2.below xQ r).mono xQ a3.out.size⟩
  have e5:W2.heap[w.heap.size+2]? =_:=zH b8 HY.out (lt_of_block HY.out);have g1:=Ja f9;have j:=Ja (Jb g0 (Jb e5 (Jb b8 r)));clear i4 f9 e5 g0 e8 e9 b8 r f4 k1 k2 i;go_upto_region 6 with fail;have c2:=zI (W:=W2) (o:=U #[.func (.func 50) #[] #[Q b13,Q (w.heap.size+1+1)]] 105) rfl;have a0:=(Below.refl W2.heap.size W2).alloc (Je _) (U #[.func (.func 50) #[] #[Q b13,Q (w.heap.size+1+1)]] 105);have f8:=g1.out.keep a0;have b0:=zH a0 j.out.1 (lt_of_block j.out.1);have c3:=zH a0 j.out.2.1 (lt_of_block j.out.2.1);have a6:F w _:=j.out.2.2.2.trans (a0.mono j.out.2.2.2.size);have d5:F W1 _:=j.out.2.2.1.trans (a0.mono j.out.2.2.1.size);generalize i3:W2.alloc (U #[.func (.func 50) #[] #[Q b13,Q (w.heap.size+1+1)]] 105)=W3 at *;generalize W2.heap.size=b14 at *;have t:K.E=⟨p,inn,irq⟩/\K.pm=pm/\K.B=W1.heap.size:=by rw[hK];exact⟨rfl,rfl,rfl⟩
  have g:=mi K (by rw[t.1];exact i6.out) 100 (Je _) W3 _ _ (.slice v1 args.length v2) (k:Int) args f8 Zo (by rw[t.1];show(k:Int).toNat<p.funcs.length;omega) ((HA.out.1.below zr a6).mono zr a6.size) (by rw[t.1];exact HA.out.2);obtain⟨RES,b3⟩:∃R,xW K.E 100 (k:Int) args ⟨v7 s,fuel,[],0,0⟩=R:=⟨_,rfl⟩
  have c4:bQ ⟨p,inn,irq⟩ (k:Int) args s fuel=adO RES:=by rw[<-b3,t.1];rfl
  rw[b3,t.2.1] at g;have e1:(101:Int)-((100:Nat):Int)=1:=by decide
  rw[e1] at g;have k3:=K0 b0;have d7:=Ja c4;have g2:=Ja t;have H3:=Ja (Jb b0 (Jb c3 (Jb c2 (Jb a6 d5))));clear i3 f8 b0 c3 c2 a0 a6 d5 hK c4 b3 j g1 e1 t
  have b5:∀(w4:World) (ov4:Value) (m4:Mach),MachAt w4 K m4 ov4->Frm K.B W3 w4->
   L w4 b13 #[Q K.pm] 102/\L w4 (w.heap.size+1+1) #[I 0,O,A 0,I 0,.string {data:=#[]},A 0,A 0] 57/\G w4 b14 0 (.func (.func 50) #[] #[Q b13,Q (w.heap.size+1+1)])/\F w w4:=fun w4 ov4 m4 d h=>by
   refine⟨by rw[g2.out.2.1];exact h.kept _ _ H3.out.1 (by simp[sA]),h.kept _ _ H3.out.2.1 (by simp[sA]),zA (h.kept _ _ H3.out.2.2.1 (by simp[sA])) Zs,H3.out.2.2.2.1.trans (h.below.mono ?_)⟩;rw[g2.out.2.2];exact a3.out.size
  have b9:=Ja b5;clear b5
  cases RES with
  |ok x m4=>
   have a7:Y 52 #[Q pm,A k,.slice v1 args.length v2,A 1] W3 fun e w'=>e=.returned (I x)/\(∃ov',MachAt w' K m4 ov')/\Frm K.B W3 w'/\x<65536:=g
   have d8:=Ja a7;clear g a7;go_upto_region 8 with(go_at_call 52;go_must (refine d8.out.mono ?_;rintro e w4 ⟨rfl,⟨ov4,d⟩,h,j0⟩))
   obtain⟨b4,y,d9,zb⟩:=b9.out w4 ov4 m4 d h;obtain⟨oa4,oc4,rfl⟩:=zG d.out
   have a5:Y 50 #[.agg #[A 6,I 0],I x,Q b13,Q (w.heap.size+1+1)] w4 fun e w'=>
    e=.returned (.tuple #[])/\L w' (w.heap.size+1+1) (yV x (.slice oa4 m4.out.length oc4) 6 0 (y9 m4.ram) m4.inputs m4.polls) 57/\w4.grownBy w' (some (w.heap.size+1+1)):=pE d b4 y 6 0 x
   have b7:w4.heap[b14]? =_:=h.kept _ _ H3.out.2.2.1 (by simp[sA]);have g6:=Ja a5;have d6:=Ja (Jb d (Jb y (Jb zb b7)));clear a5 b4 y zb d h b7;go_upto_region 9 with(go_at_call 50;go_must (refine g6.out.mono ?_;rintro e w5 ⟨rfl,c,h6⟩))
   have r0:G w5 (w.heap.size+1+1) 0 (I x):=zA c (by simp[yV]);have s0:T w5 (w.heap.size+1+1) 0:=zE c;have r1:G w5 (w.heap.size+1+1) 1 (.slice oa4 m4.out.length oc4):=zA c (by simp[yV]);have s1:T w5 (w.heap.size+1+1) 1:=zE c;have r2:G w5 (w.heap.size+1+1) 2 (A 6):=zA c (by simp[yV]);have s2:T w5 (w.heap.size+1+1) 2:=zE c;have r3:G w5 (w.heap.size+1+1) 3 (I 0):=zA c (by simp[yV]);have s3:T w5 (w.heap.size+1+1) 3:=zE c;have r4:G w5 (w.heap.size+1+1) 4 (.string (y9 m4.ram)):=zA c (by simp[yV]);have s4:T w5 (w.heap.size+1+1) 4:=zE c;have r5:G w5 (w.heap.size+1+1) 5 (A (m4.inputs:Int)):=zA c (by simp[yV]);have s5:T w5 (w.heap.size+1+1) 5:=zE c;have r6:G w5 (w.heap.size+1+1) 6 (A (m4.polls:Int)):=zA c (by simp[yV]);have s6:T w5 (w.heap.size+1+1) 6:=zE c;have hE:=ku d6.out.1 d6.out.2.1 Zo d6.out.2.2.1 (zu (zu (zu (zu (zu (zu (zu h6 0 (I x)) 1 (.slice oa4 m4.out.length oc4)) 2 (A 6)) 3 (I 0)) 4 (.string (y9 m4.ram))) 5 (A (m4.inputs:Int))) 6 (A (m4.polls:Int)))
   have c7:abr w (bQ ⟨p,inn,irq⟩ (k:Int) args s fuel) (.returned (.agg #[I x,.slice oa4 m4.out.length oc4,A 6,I 0,.string (y9 m4.ram),A (m4.inputs:Int),A (m4.polls:Int)])) (((((((w5.setCell ⟨w.heap.size+1+1,0,none⟩ (I x)).setCell ⟨w.heap.size+1+1,1,none⟩ (.slice oa4 m4.out.length oc4)).setCell ⟨w.heap.size+1+1,2,none⟩ (A 6)).setCell ⟨w.heap.size+1+1,3,none⟩ (I 0)).setCell ⟨w.heap.size+1+1,4,none⟩ (.string (y9 m4.ram))).setCell ⟨w.heap.size+1+1,5,none⟩ (A (m4.inputs:Int))).setCell ⟨w.heap.size+1+1,6,none⟩ (A (m4.polls:Int))):=by
    rw[d7.out];exact⟨_,rfl,hE.1,hE.2⟩
   have g5:=Ja c7;clear c7 hE;go_wp2;refine leaves_cons (f:=51) (args:=#[Q b14]) Zs (by simp[go_sem]) ?_;refine(rec_idle _ _).mono ?_;rintro e u' w6 ⟨rfl,rfl,rfl⟩;simp[Leaves,settle,results,Try.results23,go_sem,r0,r1,r2,r3,r4,r5,r6]
   exact g5.out
  |trap k2 i2 m4=>
   have a7:Y 52 #[Q pm,A k,.slice v1 args.length v2,A 1] W3 fun e w'=>e=.panicked [oE k2 i2]/\(∃ov',MachAt w' K m4 ov')/\Frm K.B W3 w'/\True:=g
   have d8:=Ja a7;clear g a7;go_wp2_with (go_at_call 52;go_must (refine d8.out.mono ?_;rintro e w4 ⟨rfl,⟨ov4,d⟩,h,_⟩))
   obtain⟨b4,y,d9,zb⟩:=b9.out w4 ov4 m4 d h;have hd:=pi d b4 y d9 k2 i2 [];obtain⟨oa4,oc4,rfl⟩:=zG d.out;refine leaves_cons (f:=51) (args:=#[Q b14]) Zs (by simp[go_sem]) ?_;refine hd.mono ?_;rintro e u' w5 ⟨rfl,rfl,c,h6⟩;have hE:=ku d y Zo zb h6;have r0:G w5 (w.heap.size+1+1) 0 (I ((0:Nat):Int)):=zA c (by simp[yV]);have r1:G w5 (w.heap.size+1+1) 1 (.slice oa4 m4.out.length oc4):=zA c (by simp[yV]);have r2:G w5 (w.heap.size+1+1) 2 (A k2):=zA c (by simp[yV]);have r3:G w5 (w.heap.size+1+1) 3 (I i2):=zA c (by simp[yV]);have r4:G w5 (w.heap.size+1+1) 4 (.string (y9 m4.ram)):=zA c (by simp[yV]);have r5:G w5 (w.heap.size+1+1) 5 (A (m4.inputs:Int)):=zA c (by simp[yV]);have r6:G w5 (w.heap.size+1+1) 6 (A (m4.polls:Int)):=zA c (by simp[yV])
   have a5:abr w (bQ ⟨p,inn,irq⟩ (k:Int) args s fuel) (.returned (.agg #[I ((0:Nat):Int),.slice oa4 m4.out.length oc4,A k2,I i2,.string (y9 m4.ram),A (m4.inputs:Int),A (m4.polls:Int)])) w5:=by
    rw[d7.out];exact⟨_,rfl,hE.1,hE.2⟩
   simp[Leaves,settle,results,Try.results23,go_sem,r0,r1,r2,r3,r4,r5,r6];exact a5
open Go.RowKit
theorem tu{B:Nat}{V:PV}{p:IProg}(hp:ProgIn w B V p)(hB:B<=w.heap.size)(hs:∀f∈p.funcs,vZ f):
 Y 20 #[yH V p] w (m9 w (vC p)):=by
 have d:∀W,F w W->Y 46 #[yH V p] W (m9 W (sR p)):=fun W hb=>kB ((hp.below (hb.mono hB)).mono (Jn hB hb.size))
 have k:∀W n,F w W->sR p=0->n<p.funcs.length->Y 47 #[yH V p,A n] W (ym W (yi p n)):=fun W n hb h0 hn=>by
  obtain⟨_,h1,h2,_⟩:=se h0;exact nA (hp.below (hb.mono hB)) (Jn hB hb.size) h1 h2 hs hn
 obtain⟨Vf,Va,Vd,Vb⟩:=V;obtain⟨f1,f2,e1,_,_⟩:=hp.funcs.form;obtain⟨a1,a2,e2,_,_⟩:=hp.args.form;obtain⟨d1,d2,e3,_,_⟩:=hp.data.form;obtain⟨b1,b2,e4,_,_⟩:=hp.banks.form;simp only at e1 e2 e3 e4;subst e1 e2 e3 e4;have b5:p.funcs.length<=9223372036854775807:=Zo;unfold yH at d k ⊢;simp only at d k ⊢;have HH:=Ja d;have HF:=Ja k;have a7:F w (w.alloc (U (R p f1 f2 a1 a2 d1 d2 b1 b2) 29)):=(Below.refl _ _).alloc (Je _) _;have c:=zI (W:=w) (o:=U (R p f1 f2 a1 a2 d1 d2 b1 b2) 29) rfl;obtain⟨res,r⟩:∃x,vC p=x:=⟨_,rfl⟩
 rw[r];have t:=Ja r;obtain⟨eh,a3⟩:∃x,sR p=x:=⟨_,rfl⟩
 rw[a3] at HH;have m:=Ja a3;clear hp hB hs d k r a3;go_enter Try.func20,Try.ntmps20;go_upto_region 1 with fail;generalize b4:w.alloc (U (R p f1 f2 a1 a2 d1 d2 b1 b2) 29)=W0 at *;have y0:=K0 c;have y1:=K1 c;have y2:=K2 c;have y3:=K3 c;have y4:=K4 c;have y5:=K5 c;have H0:=Ja (show F w W0/\L W0 w.heap.size (R p f1 f2 a1 a2 d1 d2 b1 b2) 29 from⟨a7,c⟩);clear a7 c b4;go_upto_region 2 with(first|(go_at_call 46;go_must (refine(HH.out _ H0.out.1).mono ?_;rintro e w1 ⟨rfl,a4⟩))|go_in)
 have j:=Ja (show F w w1/\L w1 w.heap.size (R p f1 f2 a1 a2 d1 d2 b1 b2) 29 from⟨H0.out.1.trans (a4.mono H0.out.1.size),zH a4 H0.out.2 (lt_of_block H0.out.2)⟩);clear a4 y0 y1 y2 y3 y4 y5
 by_cases hz:eh=0
 ·subst hz;have y0:=K0 j.out.2;go_wp2
  go_loopw [13] (fun iv wx=>∃i:Nat,i<=p.funcs.length/\iv=A i/\Hid (F w1 wx/\∀n,n<i->yi p n=true)) (fun iv _=>p.funcs.length-(intOf iv).toNat)
  case atStart=>exact⟨0,Jt _,rfl,Ja ⟨Below.refl _ _,fun n hn=>by omega⟩⟩
  case round=>
   obtain⟨i,hi,rfl,l⟩:=hrel
   by_cases u:i<p.funcs.length
   ·have b0:(i:Int)<p.funcs.length:=Zo;have a0:=Ja u;have g:=zH l.out.1 j.out.2 (lt_of_block j.out.2);have z0:=K0 g;have z1:=K1 g;have z2:=K2 g;have z3:=K3 g;have z4:=K4 g;have z5:=K5 g;have a6:=Ja (HF.out wr i (j.out.1.trans (l.out.1.mono j.out.1.size)) m.out u);obtain⟨q,hq⟩:∃q,yi p i=q:=⟨_,rfl⟩
    rw[hq] at a6;have HQ:=Ja hq;clear hq g u y0
    cases q with
    |false=>
     go_wp2_with (first|(go_at_call 47;go_must (refine a6.out.mono ?_;rintro e w2 ⟨rfl,y⟩))|go_in)
     go_ret
     have hr:res=51:=by
      rw[<-t.out];unfold vC;rw[if_neg (by rw[m.out];simp),if_neg];intro b3;have:=Oe.1 b3 i (Ol.2 a0.out);rw[HQ.out] at this;cases this
     exact⟨zh hr.symm,j.out.1.trans ((l.out.1.trans (y.mono l.out.1.size)).mono j.out.1.size)⟩
    |true=>
     go_wp2_with (first|(go_at_call 47;go_must (refine a6.out.mono ?_;rintro e w2 ⟨rfl,y⟩))|go_in)
     have a5:=Ja (show F w1 w2/\∀n,n<i+1->yi p n=true from⟨l.out.1.trans (y.mono l.out.1.size),fun n hn=>by
      rcases Nat.lt_succ_iff_lt_or_eq.1 hn with h|rfl
      ·exact l.out.2 n h
      ·exact HQ.out⟩)
     clear y;go_roundw
     case rel=>first|exact⟨i+1,a0.out,by go_num,a5⟩|((repeat apply Exists.intro);exact⟨⟨i+1,a0.out,by go_num,a5⟩,rfl⟩)
     case measure=>have:=a0.out;simp[intOf];omega
   ·obtain rfl:i=p.funcs.length:=by omega
    have b0:¬(p.funcs.length:Int)<p.funcs.length:=Zo
    have hr:=Ja (show res=0 by
     rw[<-t.out];unfold vC;rw[if_neg (by rw[m.out];simp),if_pos]
     exact Oe.2 fun n hn=>l.out.2 n (Ol.1 hn))
    clear u y0;go_wp2;go_ret;exact⟨zh hr.out.symm,j.out.1.trans (l.out.1.mono j.out.1.size)⟩
 ·have t1:(eh !=0)=true:=by rw[bne_iff_ne];exact hz
  have hr:=Ja (show res=eh by
   rw[<-t.out];unfold vC
   rw[if_pos (by rw[m.out];exact hz),m.out])
  clear hz;go_wp2;go_ret;exact⟨zh hr.out.symm,j.out.1⟩
def sV:IRun:=⟨0,[],0,0,[],0,0⟩
def io (p:IProg)(f:Int)(args:List Nat):Bool:=decide (vC p=0) && decide (0<=f) && decide (f<p.funcs.length) && decide ((args.length:Int)=p.args.getD f.toNat 0)
def i9 (E:IEnv)(f:Int)(args:List Nat)(s:ByteArray)(fuel:Int):IRun:=if io E.p f args then bQ E f args s fuel else sV
def mW (p:IProg):Prop:=∀f∈p.funcs,vZ f/\∀b∈f,b.params.length<=65536
theorem dX:runVal sV (O)=.agg #[I 0,O,A 0,I 0,.string ⟨#[]⟩,A 0,A 0]:=by kernel_rfl
theorem bJ:∀a b c d:Bool,(a && b && c && d)=false->(a=false)∨(a=true/\b=false)∨(a=true/\b=true/\c=false)∨(a=true/\b=true/\c=true/\d=false)
 |false,_,_,_,_=> .inl rfl
 |true,false,_,_,_=> .inr (.inl ⟨rfl,rfl⟩)
 |true,true,false,_,_=> .inr (.inr (.inl ⟨rfl,rfl,rfl⟩))
 |true,true,true,false,_=> .inr (.inr (.inr ⟨rfl,rfl,rfl,rfl⟩))
theorem iV{V:PV}{p:IProg}(hp:ProgIn w w.heap.size V p)(hs:mW p)(f:Int)(b8:I64 f){args:List Nat}{av:Value}(ha:wV w w.heap.size av args)(s:ByteArray)
 {inv irqv:Value} {inn irq:List Nat} (a6:wV w w.heap.size inv inn) (a5:dL w w.heap.size irqv irq) (fuel:Int) (l:io p f args=false):
 Y 23 #[sZ V p,A f,av,.string s,.agg #[inv,irqv],A fuel] w (abr w sV):=by
 have hV:∀W,F w W->Y 20 #[sZ V p] W (m9 W (vC p)):=fun W hb=>tu ((hp.below hb).mono hb.size) (Je _) (fun f hf=>(hs f hf).1)
 have a0:vC p=0->p.args.length=p.funcs.length:=fun h=>(se (rz h).1).2.1
 obtain⟨Vf,Va,Vd,Vb⟩:=V;have t:=hp.args;obtain⟨f1,f2,e1,_,_⟩:=hp.funcs.form;obtain⟨a1,a2,e2,_,_⟩:=hp.args.form;obtain⟨d1,d2,e3,_,_⟩:=hp.data.form;obtain⟨b1,b2,e4,_,_⟩:=hp.banks.form;obtain⟨v1,v2,rfl,_,_⟩:=ha.form;obtain⟨i1,i2,rfl,_,_⟩:=a6.form;obtain⟨q1,q2,rfl,_,_⟩:=a5.form;simp only at e1 e2 e3 e4 t;subst e1 e2 e3 e4;unfold sZ at hV ⊢;simp only at hV ⊢;have c3:p.funcs.length<=9223372036854775807:=Zo;have b9:args.length<=9223372036854775807:=Zo;unfold io at l;obtain⟨x1,h1⟩:∃q,decide (vC p=0)=q:=⟨_,rfl⟩
 obtain⟨x2,h2⟩:∃q,decide (0<=f)=q:=⟨_,rfl⟩
 obtain⟨x3,h3⟩:∃q,decide (f<p.funcs.length)=q:=⟨_,rfl⟩
 obtain⟨x4,h4⟩:∃q,decide ((args.length:Int)=p.args.getD f.toNat 0)=q:=⟨_,rfl⟩
 rw[h1,h2,h3,h4] at l;obtain⟨vp,a4⟩:∃x,vC p=x:=⟨_,rfl⟩
 rw[a4] at hV h1 a0;have t1:(vp !=0)=!x1:=by rw[bne,vg h1]
 have t2:decide (f<0)=!x2:=by rw[<-h2];by_cases h:0<=f<;>simp[h]<;>omega
 have t3:decide ((p.funcs.length:Int)<=f)=!x3:=by rw[<-h3];by_cases h:f<p.funcs.length<;>simp[h]<;>omega
 have HV:=Ja hV;have b5:=bJ x1 x2 x3 x4 l;have o:F w (((w.alloc (U (R p f1 f2 a1 a2 d1 d2 b1 b2) 29)).alloc (U #[.slice i1 inn.length i2,.slice q1 irq.length q2] 61)).alloc (U #[I 0,O,A 0,I 0,.string ⟨#[]⟩,A 0,A 0] 57)):=(((Below.refl _ _).alloc (Je _) _).alloc Zs _).alloc Zt _;have d:L (((w.alloc (U (R p f1 f2 a1 a2 d1 d2 b1 b2) 29)).alloc (U #[.slice i1 inn.length i2,.slice q1 irq.length q2] 61)).alloc (U #[I 0,O,A 0,I 0,.string ⟨#[]⟩,A 0,A 0] 57)) w.heap.size (R p f1 f2 a1 a2 d1 d2 b1 b2) 29:=zB (zB (zI rfl));have m:L (((w.alloc (U (R p f1 f2 a1 a2 d1 d2 b1 b2) 29)).alloc (U #[.slice i1 inn.length i2,.slice q1 irq.length q2] 61)).alloc (U #[I 0,O,A 0,I 0,.string ⟨#[]⟩,A 0,A 0] 57)) (w.heap.size+1+1) #[I 0,O,A 0,I 0,.string ⟨#[]⟩,A 0,A 0] 57:=zI Zs;have b6:=Ja (show zY w w.heap.size (.slice a1 p.args.length a2) p.args from t);have b3:=Ja (show x1=true->p.args.length=p.funcs.length from fun h=>a0 (of_decide_eq_true (h1.trans h)));clear hp hs ha a6 a5 hV a0 t l h1 a4;rcases b5 with rfl|⟨rfl,rfl⟩|⟨rfl,rfl,rfl⟩|⟨rfl,rfl,rfl,rfl⟩
 case inr.inr.inr=>
  obtain⟨k,rfl⟩:∃k:Nat,f=(k:Int):=⟨f.toNat,by have:=of_decide_eq_true h2;omega⟩
  have c2:(k:Int)<p.funcs.length:=of_decide_eq_true h3;obtain⟨x,hx⟩:∃x,p.args[k]? =some x:=⟨_,Jd (by have:=b3.out rfl;omega)⟩
  obtain⟨ba,oa,rfl,a7,u,_⟩:=b6.out.get hx;rw[Nk] at u;have b7:(k:Int)<p.args.length:=by have:=b3.out rfl;omega
  have c4:decide (p.funcs.length<=k)=false:=by rw[decide_eq_false_iff_not];omega
  have t4:((args.length:Int) !=x)=true:=by
   rw[Ni,Jj,hx,Ot] at h4;rw[bne,vg h4];rfl
  have b0:=Ja (Jb a7 u);clear h2 h3 h4 hx a7 u
  go_enter_defers Try.func23,Try.ntmps23
  go_upto_region 1 with fail;generalize a3:((w.alloc (U (R p f1 f2 (some ⟨ba,oa,none⟩) a2 d1 d2 b1 b2) 29)).alloc (U #[.slice i1 inn.length i2,.slice q1 irq.length q2] 61)).alloc (U #[I 0,O,A 0,I 0,.string ⟨#[]⟩,A 0,A 0] 57)=W0 at *;have g:=Ja (Jb o (Jb d m));have p0:=K0 d;have p1:=K1 d;have p2:=K2 d;have p3:=K3 d;have p4:=K4 d;have p5:=K5 d;clear o d m a3;go_wp2_with (go_at_call 20;go_must (refine(HV.out _ g.out.1).mono ?_;rintro e W1 ⟨rfl,i⟩;have j:=zH i g.out.2.1 (lt_of_block g.out.2.1);have c:=zH i g.out.2.2 (lt_of_block g.out.2.2);have q0:=K0 j;have b4:=K1 j;have r0:=K0 c;have s0:T W1 (w.heap.size+1+1) 0:=zE c;have r1:=K1 c;have s1:T W1 (w.heap.size+1+1) 1:=zE c;have r2:=K2 c;have s2:T W1 (w.heap.size+1+1) 2:=zE c;have r3:=K3 c;have s3:T W1 (w.heap.size+1+1) 3:=zE c;have r4:=K4 c;have s4:T W1 (w.heap.size+1+1) 4:=zE c;have r5:=K5 c;have s5:T W1 (w.heap.size+1+1) 5:=zE c;have r6:=K6 c;have s6:T W1 (w.heap.size+1+1) 6:=zE c;have r:=Ja (g.out.1.trans (i.mono g.out.1.size));have c0:=zV r.out b0.out.1 b0.out.2;clear i j c))
  have y:=((((((r.out.setCell (p:=⟨w.heap.size+1+1,0,none⟩) Zt (I 0)).setCell (p:=⟨w.heap.size+1+1,1,none⟩) Zt (O)).setCell (p:=⟨w.heap.size+1+1,2,none⟩) Zt (A 0)).setCell (p:=⟨w.heap.size+1+1,3,none⟩) Zt (I 0)).setCell (p:=⟨w.heap.size+1+1,4,none⟩) Zt (.string ⟨#[]⟩)).setCell (p:=⟨w.heap.size+1+1,5,none⟩) Zt (A 0)).setCell (p:=⟨w.heap.size+1+1,6,none⟩) Zt (A 0);refine⟨.agg #[I 0,O,A 0,I 0,.string ⟨#[]⟩,A 0,A 0],?_,O,by rw[dX],⟨none,0,rfl,Je _,by omega,fun k x hk=>by simp[sV] at hk⟩,y⟩;rw[zM rfl];go_simp
 all_goals clear h4
 all_goals (
  go_enter_defers Try.func23,Try.ntmps23
  go_upto_region 1 with fail;generalize a3:((w.alloc (U (R p f1 f2 a1 a2 d1 d2 b1 b2) 29)).alloc (U #[.slice i1 inn.length i2,.slice q1 irq.length q2] 61)).alloc (U #[I 0,O,A 0,I 0,.string ⟨#[]⟩,A 0,A 0] 57)=W0 at *;have g:=Ja (Jb o (Jb d m));have p0:=K0 d;have p1:=K1 d;have p2:=K2 d;have p3:=K3 d;have p4:=K4 d;have p5:=K5 d;clear o d m a3;go_wp2_with (go_at_call 20;go_must (refine(HV.out _ g.out.1).mono ?_;rintro e W1 ⟨rfl,i⟩;have j:=zH i g.out.2.1 (lt_of_block g.out.2.1);have c:=zH i g.out.2.2 (lt_of_block g.out.2.2);have q0:=K0 j;have b4:=K1 j;have r0:=K0 c;have s0:T W1 (w.heap.size+1+1) 0:=zE c;have r1:=K1 c;have s1:T W1 (w.heap.size+1+1) 1:=zE c;have r2:=K2 c;have s2:T W1 (w.heap.size+1+1) 2:=zE c;have r3:=K3 c;have s3:T W1 (w.heap.size+1+1) 3:=zE c;have r4:=K4 c;have s4:T W1 (w.heap.size+1+1) 4:=zE c;have r5:=K5 c;have s5:T W1 (w.heap.size+1+1) 5:=zE c;have r6:=K6 c;have s6:T W1 (w.heap.size+1+1) 6:=zE c;have r:=Ja (g.out.1.trans (i.mono g.out.1.size));clear i j c))
  have y:=((((((r.out.setCell (p:=⟨w.heap.size+1+1,0,none⟩) Zt (I 0)).setCell (p:=⟨w.heap.size+1+1,1,none⟩) Zt (O)).setCell (p:=⟨w.heap.size+1+1,2,none⟩) Zt (A 0)).setCell (p:=⟨w.heap.size+1+1,3,none⟩) Zt (I 0)).setCell (p:=⟨w.heap.size+1+1,4,none⟩) Zt (.string ⟨#[]⟩)).setCell (p:=⟨w.heap.size+1+1,5,none⟩) Zt (A 0)).setCell (p:=⟨w.heap.size+1+1,6,none⟩) Zt (A 0);refine⟨.agg #[I 0,O,A 0,I 0,.string ⟨#[]⟩,A 0,A 0],?_,O,by rw[dX],⟨none,0,rfl,Je _,by omega,fun k x hk=>by simp[sV] at hk⟩,y⟩;rw[zM rfl]
  go_simp)
theorem mX{V:PV}{p:IProg}(hp:ProgIn w w.heap.size V p)(hs:mW p)(f:Int)(g:I64 f){args:List Nat}{av:Value}(m:wV w w.heap.size av args)(s:ByteArray)(i:s.size<=9223372036854775807)
 {inv irqv:Value} {inn irq:List Nat} (d:wV w w.heap.size inv inn) (c:dL w w.heap.size irqv irq) (fuel:Int) (k:I64 fuel) (l:fuel.toNat<=4000000):
 Y 23 #[yH V p,A f,av,.string s,.agg #[inv,irqv],A fuel] w (abr w (i9 ⟨p,inn,irq⟩ f args s fuel)):=by
 unfold i9
 cases h:io p f args with
 |false=>exact iV hp hs f g m s d c fuel h
 |true=>
  unfold io at h;simp only[Jm,decide_eq_true_eq] at h;obtain⟨⟨⟨h1,h2⟩,h3⟩,o⟩:=h;have j:=jM h1 (fun f hf b hb=>(hs f hf).2 b hb)
  have r:(if io p f args=true then bQ ⟨p,inn,irq⟩ f args s fuel else sV)=bQ ⟨p,inn,irq⟩ f args s fuel:=by
   rw[if_pos];unfold io;simp only[Jm,decide_eq_true_eq];exact⟨⟨⟨h1,h2⟩,h3⟩,o⟩
  refine eval_ok hp j (fun W hb=>?_) f ⟨h2,by omega⟩ m o s i d c fuel k l;have:=tu ((hp.below hb).mono hb.size) (Je _) (fun f hf=>(hs f hf).1);rw[h1] at this;exact this
theorem uB {α:Type}(f:α->List Value)(n:Nat)(hf:∀a,(f a).length=n):∀(l:List α) (k:Nat) (a:α),l[k]? =some a->∀j,j<n->(l.flatMap f)[k*n+j]? =(f a)[j]?
 | [],k,a,hk,_,_=>by simp at hk
 |x::l,0,a,hk,j,hj=>by
  cases hk
  rw[Qa,Nat.zero_mul,Ng,Np (by rw[hf];exact hj)]
 |x::l,k+1,a,hk,j,hj=>by
  rw[Qa,Nc (by rw[hf,Nat.add_mul];omega),hf];have e:(k+1)*n+j-n=k*n+j:=by rw[Nat.add_mul];omega
  rw[e];exact uB f n hf l k a (by simpa using hk) j hj
theorem oW{α:Type}{f:α->List Value}{n:Nat}(hf:∀a,(f a).length=n){b:Nat}{l:List α}{e:TypeId}(h:L w b (l.flatMap f).toArray e){k:Nat}{a:α}(hk:l[k]? =some a){j:Nat}{v:Value}(d:(f a)[j]? =some v):
 G w b (0+k*n+j) v:=by
 refine zA h ?_;have c:j<n:=by rw[<-hf a];exact(Jh.1 d).1
 rw[Ng,List.getElem?_toArray,uB f n hf l k a hk j c];exact d
def zU (q:IOp×Value):List Value:=[A q.1.code,A q.1.res,A q.1.a,A q.1.b,I (q.1.n:Int),q.2]
theorem ops_lit{B b:Nat}{e:TypeId}(h:L w b (l.flatMap zU).toArray e)(hb:b<B)(h64:∀q∈l,qN q.1/\zY w B q.2 q.1.args)(hl:l.length<=1000000):
 mN w B (N b l.length l.length) (l.map (·.1)):=by
 refine⟨_,l.length,by rw[Nr],by rw[Nr];exact Je _,by omega,fun k o hk=>?_⟩;rw[Jr,Oz] at hk;obtain⟨q,hq,rfl⟩:=hk;have c:=fun j v (hj:(zU q)[j]? =some v)=>oW (f:=zU) (n:=6) (fun _=>rfl) h hq hj
 obtain⟨h1,h2⟩:=h64 q (Ji hq);exact⟨b,0,rfl,hb,c 0 _ rfl,c 1 _ rfl,c 2 _ rfl,c 3 _ rfl,c 4 _ rfl,h1,q.2,c 5 _ rfl,h2⟩
def za (q:IEdge×Value):List Value:=[A q.1.block,q.2]
theorem acC{α:Type}{R:World->Nat->Nat->Nat->α->Prop}{B b:Nat}{vs:List Value}{xs:List α}{e:TypeId}(h:L w b vs.toArray e)(hb:b<B)(c:vs.length=xs.length)(hl:xs.length<=1000000)
 (d:∀(k:Nat) (v:Value) (x:α),vs[k]? =some v->xs[k]? =some x->G w b k v->R w B b k x):yN 1 R w B (N b xs.length xs.length) xs:=by
 refine⟨_,xs.length,rfl,Je _,by omega,fun k x hk=>⟨b,0,rfl,hb,?_⟩⟩;obtain⟨v,hv⟩:∃v,vs[k]? =some v:=⟨_,Jd (by rw[c];exact(Jh.1 hk).1)⟩
 rw[Ng,Nk];exact d k v x hv hk (zA h (by simpa using hv))
theorem acW{B b:Nat}{xs:List Nat}{e:TypeId}(h:L w b (xs.map fun(x:Nat)=>I x).toArray e)(hb:b<B)(h64:∀x∈xs,x<65536)(hl:xs.length<=1000000):wV w B (N b xs.length xs.length) xs:=
 acC h hb Zs hl (fun k v x hv hx hc=>by
  rw[Jr,hx] at hv;cases hv
  exact⟨hc,h64 x (Ji hx)⟩)
def RetProgO (w:World)(p:IProg)(e:Ending)(w':World):Prop:=
 ∃f1 f2 a1 a2 d1 d2 b1 b2,e=.returned (.agg (R p f1 f2 a1 a2 d1 d2 b1 b2))/\
  ProgIn w' w'.heap.size ⟨.slice f1 p.funcs.length f2,.slice a1 p.args.length a2,.slice d1 p.data.length d2,.slice b1 p.banks.length b2⟩ p/\F w w'
theorem mL.open{p:IProg}{e:Ending}(h:mL w p e w'):RetProgO w p e w':=by
 obtain⟨⟨Vf,Va,Vd,Vb⟩,rfl,hp,hb⟩:=h;obtain⟨f1,f2,e1,_,_⟩:=hp.funcs.form;obtain⟨a1,a2,e2,_,_⟩:=hp.args.form;obtain⟨d1,d2,e3,_,_⟩:=hp.data.form;obtain⟨b1,b2,e4,_,_⟩:=hp.banks.form;simp only at e1 e2 e3 e4;subst e1 e2 e3 e4;exact⟨f1,f2,a1,a2,d1,d2,b1,b2,rfl,hp,hb⟩
def eM (w:World)(R:IRun)(e:Ending)(w':World):Prop:=
 ∃oa oc,e=.returned (.agg #[I (R.value:Int),.slice oa R.out.length oc,A (R.kind:Int),I (R.info:Int),.string (y9 R.ram),A (R.inputs:Int),A (R.polls:Int)])/\vM w' w'.heap.size (.slice oa R.out.length oc) R.out/\F w w'
theorem abr.open{R:IRun}{e:Ending}(h:abr w R e w'):eM w R e w':=by
 obtain⟨ov,rfl,ho,hb⟩:=h;obtain⟨oa,oc,rfl,_,_⟩:=ho.form;exact⟨oa,oc,rfl,ho,hb⟩
theorem uL {t:ITerm}{ops:List IOp}(h1:ops.length<=2000000)(h2:t.to.length<=2000000):mW (rd t ops):=by
 intro f hf;simp only[rd,Jo] at hf;subst hf;refine⟨⟨by simp,fun b hb=>?_⟩,fun b hb=>?_⟩
 ·rw[Jo] at hb;subst hb;exact⟨by simp,h1,h2⟩
 ·rw[Jo] at hb;subst hb;simp
def sanP:IProg:=rd ⟨4,2,[]⟩ [⟨1,0,0,0,7,[]⟩,⟨24,1,0,0,3,[]⟩,⟨6,2,0,1,0,[]⟩,⟨25,-1,2,0,9,[]⟩]
def sanQ:IProg:=rd ⟨4,-1,[]⟩ [⟨1,0,0,0,16383,[]⟩,⟨18,1,0,0,0,[]⟩]
def sanB:IProg:=rd ⟨4,-1,[]⟩ [⟨3,1,0,0,0,[]⟩,⟨1,0,0,0,1,[]⟩]
theorem kS:vC sanP=0:=by decide+kernel
theorem lh:vC sanB=51:=by decide+kernel
theorem sanP_run:i9 ⟨sanP,[9],[]⟩ 0 [] ⟨#[]⟩ 50=⟨65534,[(9,65534)],6,0,v7 ⟨#[]⟩,1,0⟩:=by
 have h:io sanP 0 []=true:=by decide+kernel
 have e:bQ ⟨sanP,[9],[]⟩ 0 [] ⟨#[]⟩ 50=⟨65534,[(9,65534)],6,0,v7 ⟨#[]⟩,1,0⟩:=rfl;exact(if_pos h).trans e
theorem sanQ_run:i9 ⟨sanQ,[],[]⟩ 0 [] ⟨#[]⟩ 50=⟨0,[],2,16383,v7 ⟨#[]⟩,0,0⟩:=by
 have h:io sanQ 0 []=true:=by decide+kernel
 have e:bQ ⟨sanQ,[],[]⟩ 0 [] ⟨#[]⟩ 50=⟨0,[],2,16383,v7 ⟨#[]⟩,0,0⟩:=rfl;exact(if_pos h).trans e
def sanPl:List (IOp×Value):=[(⟨1,0,0,0,7,[]⟩,O),(⟨24,1,0,0,3,[]⟩,O),(⟨6,2,0,1,0,[]⟩,O),(⟨25,-1,2,0,9,[]⟩,O)]
def sanQl:List (IOp×Value):=[(⟨1,0,0,0,16383,[]⟩,O),(⟨18,1,0,0,0,[]⟩,O)]
def sanBl:List (IOp×Value):=[(⟨3,1,0,0,0,[]⟩,O),(⟨1,0,0,0,1,[]⟩,O)]
def oz (l:List (IOp×Value)):Prop:=∀q∈l,qN q.1/\q.1.args=[]/\q.2=O
theorem eV(h:oz l)(w:World)(B:Nat):∀q∈l,qN q.1/\zY w B q.2 q.1.args:=fun q hq=>by
 obtain⟨h1,h2,h3⟩:=h q hq;rw[h2,h3];exact⟨h1,yN.nil⟩
theorem sanPl_ok:oz sanPl:=by
 intro q hq;simp only[sanPl,Jq,List.not_mem_nil,or_false] at hq;rcases hq with rfl|rfl|rfl|rfl<;>exact⟨⟨⟨by decide,by decide⟩,⟨by decide,by decide⟩,⟨by decide,by decide⟩,⟨by decide,by decide⟩,by decide⟩,rfl,rfl⟩
theorem sanQl_ok:oz sanQl:=by
 intro q hq;simp only[sanQl,Jq,List.not_mem_nil,or_false] at hq;rcases hq with rfl|rfl<;>exact⟨⟨⟨by decide,by decide⟩,⟨by decide,by decide⟩,⟨by decide,by decide⟩,⟨by decide,by decide⟩,by decide⟩,rfl,rfl⟩
theorem sanBl_ok:oz sanBl:=by
 intro q hq;simp only[sanBl,Jq,List.not_mem_nil,or_false] at hq;rcases hq with rfl|rfl<;>exact⟨⟨⟨by decide,by decide⟩,⟨by decide,by decide⟩,⟨by decide,by decide⟩,⟨by decide,by decide⟩,by decide⟩,rfl,rfl⟩
def RetSmall (w:World)(p:IProg)(e:Ending)(w':World):Prop:=
 ∃f1 f2 a1 a2 d1 d2 b1 b2,e=.returned (.agg #[.slice f1 1 f2,.slice a1 1 a2,A 0,A (-1),.slice d1 0 d2,.slice b1 0 b2])/\
  ProgIn w' w'.heap.size ⟨.slice f1 1 f2,.slice a1 1 a2,.slice d1 0 d2,.slice b1 0 b2⟩ p/\F w w'
theorem qF{W:World}{b:Nat}{e:TypeId}(h:L W b (l.flatMap zU).toArray e)(hl:oz l)(c:l.length<=1000000){tk ta:Int}(d:I64 tk/\I64 ta){n:Nat}(g:n=l.length):
 Y 32 #[.agg #[A tk,A ta,O],N b n n] W (RetSmall W (rd ⟨tk,ta,[]⟩ (l.map (·.1)))):=by
 subst g;exact(kW d yN.nil (ops_lit h (lt_of_block h) (eV hl W _) c)).mono (fun e w' h=>h.open)
theorem ln (w:World):Y 17 #[] w fun e w'=>e=.returned (.bool true)/\F w w':=by
 obtain⟨S,hS⟩:∃S,y9 (v7 ⟨#[]⟩)=S:=⟨_,rfl⟩
 go_enter Try.func17,Try.ntmps17;have d7:=Ja (Below.refl w.heap.size w);have HS:=Ja hS;clear hS;go_upto_region 2 with(go_at_call 32;go_must (refine(qF (l:=sanPl) (zI rfl) sanPl_ok Zd ⟨⟨by decide,by decide⟩,⟨by decide,by decide⟩⟩ rfl).mono ?_;rintro e w1 ⟨f1,g1,a1,b1,d1,e1,h1,i1,rfl,hp,hb⟩))
 have j:=zI (W:=w1) (o:=U #[.slice f1 1 g1,.slice a1 1 b1,A 0,A (-1),.slice d1 0 e1,.slice h1 0 i1] 29) rfl;have c:=(Below.refl w1.heap.size w1).alloc (Je _) (U #[.slice f1 1 g1,.slice a1 1 b1,A 0,A (-1),.slice d1 0 e1,.slice h1 0 i1] 29);have y:=(hp.below c).mono c.size;have d:=((Below.refl w.heap.size w).alloc (Je _) _).trans ((hb.trans (c.mono hb.size)).mono Zs);generalize hW:w1.alloc (U #[.slice f1 1 g1,.slice a1 1 b1,A 0,A (-1),.slice d1 0 e1,.slice h1 0 i1] 29)=P1 at *;generalize hc:w1.heap.size=c1 at *;have g:=Ja (show F w P1/\ProgIn P1 P1.heap.size ⟨.slice f1 1 g1,.slice a1 1 b1,.slice d1 0 e1,.slice h1 0 i1⟩ sanP/\L P1 c1 #[.slice f1 1 g1,.slice a1 1 b1,A 0,A (-1),.slice d1 0 e1,.slice h1 0 i1] 29 from⟨d,y,j⟩);clear hb hp j c y d hW hc
 have m:∀(W:World) (b:Nat),F P1 W->L W b #[I 9] 39->Y 23 #[.agg #[.slice f1 1 g1,.slice a1 1 b1,A 0,A (-1),.slice d1 0 e1,.slice h1 0 i1],A 0,O,.string ⟨#[]⟩,.agg #[N b 1 1,O],A 50] W (fun e w'=>∃oa1 oc1,e=.returned (.agg #[I 65534,.slice oa1 1 oc1,A 6,I 0,.string S,A 1,A 0])/\vM w' w'.heap.size (.slice oa1 1 oc1) [(9,65534)]/\F W w'):=fun W b hb hc=>by
  have:=(mX ((g.out.2.1.below hb).mono hb.size) (uL Zd Zd) 0 pZ yN.nil ⟨#[]⟩ Zd (acW (xs:=[9]) hc (lt_of_block hc) Zd Zd) yN.nil 50 ⟨by decide,by decide⟩ Zd).mono (fun e w' h=>h.open);rw[sanP_run] at this;rw[<-HS.out];exact this
 have b5:=Ja m;clear m;have x0:=K0 g.out.2.2;have x1:=K1 g.out.2.2;have x2:=K2 g.out.2.2;have x3:=K3 g.out.2.2;have x4:=K4 g.out.2.2;have x5:=K5 g.out.2.2;go_upto_region 3 with(go_at_call 23;go_must (refine(b5.out _ _ ((Below.refl _ _).alloc (Je _) _) (zI rfl)).mono ?_;rintro e w1 ⟨oa1,oc1,rfl,ho,hb⟩))
 clear x0 x1 x2 x3 x4 x5;have j:=zI (W:=w1) (o:=U #[I 65534,.slice oa1 1 oc1,A 6,I 0,.string S,A 1,A 0] 57) rfl;have c:=(Below.refl w1.heap.size w1).alloc (Je _) (U #[I 65534,.slice oa1 1 oc1,A 6,I 0,.string S,A 1,A 0] 57);have b0:=(ho.below vo c).mono vo c.size;have d:F P1 _:=((Below.refl _ _).alloc (Je _) _).trans ((hb.trans (c.mono hb.size)).mono Zs);generalize hW:w1.alloc (U #[I 65534,.slice oa1 1 oc1,A 6,I 0,.string S,A 1,A 0] 57)=R1 at *;generalize hc:w1.heap.size=r1 at *;have a6:=Ja (show F P1 R1/\vM R1 R1.heap.size (.slice oa1 1 oc1) [(9,65534)]/\L R1 r1 #[I 65534,.slice oa1 1 oc1,A 6,I 0,.string S,A 1,A 0] 57 from⟨d,b0,j⟩);clear hb ho j c b0 d hW hc b5;go_upto_region 4 with(go_at_call 32;go_must (refine(qF (l:=sanQl) (zI rfl) sanQl_ok Zd ⟨⟨by decide,by decide⟩,⟨by decide,by decide⟩⟩ rfl).mono ?_;rintro e w1 ⟨f2,g2,a2,b2,d2,e2,h2,i2,rfl,hp,hb⟩))
 have j:=zI (W:=w1) (o:=U #[.slice f2 1 g2,.slice a2 1 b2,A 0,A (-1),.slice d2 0 e2,.slice h2 0 i2] 29) rfl;have c:=(Below.refl w1.heap.size w1).alloc (Je _) (U #[.slice f2 1 g2,.slice a2 1 b2,A 0,A (-1),.slice d2 0 e2,.slice h2 0 i2] 29);have y:=(hp.below c).mono c.size;have d:=((Below.refl R1.heap.size R1).alloc (Je _) _).trans ((hb.trans (c.mono hb.size)).mono Zs);generalize hW:w1.alloc (U #[.slice f2 1 g2,.slice a2 1 b2,A 0,A (-1),.slice d2 0 e2,.slice h2 0 i2] 29)=P2 at *;generalize hc:w1.heap.size=c2 at *;have i:=Ja (show F R1 P2/\ProgIn P2 P2.heap.size ⟨.slice f2 1 g2,.slice a2 1 b2,.slice d2 0 e2,.slice h2 0 i2⟩ sanQ/\L P2 c2 #[.slice f2 1 g2,.slice a2 1 b2,A 0,A (-1),.slice d2 0 e2,.slice h2 0 i2] 29 from⟨d,y,j⟩);clear hb hp j c y d hW hc
 have m:∀(W:World),F P2 W->Y 23 #[.agg #[.slice f2 1 g2,.slice a2 1 b2,A 0,A (-1),.slice d2 0 e2,.slice h2 0 i2],A 0,O,.string ⟨#[]⟩,.agg #[O,O],A 50] W (fun e w'=>∃oa2 oc2,e=.returned (.agg #[I 0,.slice oa2 0 oc2,A 2,I 16383,.string S,A 0,A 0])/\vM w' w'.heap.size (.slice oa2 0 oc2) []/\F W w'):=fun W hb=>by
  have:=(mX ((i.out.2.1.below hb).mono hb.size) (uL Zd Zd) 0 pZ yN.nil ⟨#[]⟩ Zd yN.nil yN.nil 50 ⟨by decide,by decide⟩ Zd).mono (fun e w' h=>h.open);rw[sanQ_run] at this;rw[<-HS.out];exact this
 have b5:=Ja m;clear m;have x0:=K0 i.out.2.2;have x1:=K1 i.out.2.2;have x2:=K2 i.out.2.2;have x3:=K3 i.out.2.2;have x4:=K4 i.out.2.2;have x5:=K5 i.out.2.2;go_upto_region 5 with(go_at_call 23;go_must (refine(b5.out _ (Below.refl _ _)).mono ?_;rintro e w1 ⟨oa2,oc2,rfl,ho,hb⟩))
 clear x0 x1 x2 x3 x4 x5;have j:=zI (W:=w1) (o:=U #[I 0,.slice oa2 0 oc2,A 2,I 16383,.string S,A 0,A 0] 57) rfl;have c:=(Below.refl w1.heap.size w1).alloc (Je _) (U #[I 0,.slice oa2 0 oc2,A 2,I 16383,.string S,A 0,A 0] 57);have b0:=(ho.below vo c).mono vo c.size;have d:F P2 _:=hb.trans (c.mono hb.size);generalize hW:w1.alloc (U #[I 0,.slice oa2 0 oc2,A 2,I 16383,.string S,A 0,A 0] 57)=R2 at *;generalize hc:w1.heap.size=r2 at *;have b4:=Ja (show F P2 R2/\vM R2 R2.heap.size (.slice oa2 0 oc2) []/\L R2 r2 #[I 0,.slice oa2 0 oc2,A 2,I 16383,.string S,A 0,A 0] 57 from⟨d,b0,j⟩);clear hb ho j c b0 d hW hc b5;go_upto_region 6 with(go_at_call 32;go_must (refine(qF (l:=sanBl) (zI rfl) sanBl_ok Zd ⟨⟨by decide,by decide⟩,⟨by decide,by decide⟩⟩ rfl).mono ?_;rintro e w1 ⟨f3,g3,a3,b3,d3,e3,h3,i3,rfl,hp,hb⟩))
 have j:=zI (W:=w1) (o:=U #[.slice f3 1 g3,.slice a3 1 b3,A 0,A (-1),.slice d3 0 e3,.slice h3 0 i3] 29) rfl;have c:=(Below.refl w1.heap.size w1).alloc (Je _) (U #[.slice f3 1 g3,.slice a3 1 b3,A 0,A (-1),.slice d3 0 e3,.slice h3 0 i3] 29);have y:=(hp.below c).mono c.size;have d:=((Below.refl R2.heap.size R2).alloc (Je _) _).trans ((hb.trans (c.mono hb.size)).mono Zs);generalize hW:w1.alloc (U #[.slice f3 1 g3,.slice a3 1 b3,A 0,A (-1),.slice d3 0 e3,.slice h3 0 i3] 29)=P3 at *;generalize hc:w1.heap.size=c3 at *;have b8:=Ja (show F R2 P3/\ProgIn P3 P3.heap.size ⟨.slice f3 1 g3,.slice a3 1 b3,.slice d3 0 e3,.slice h3 0 i3⟩ sanB/\L P3 c3 #[.slice f3 1 g3,.slice a3 1 b3,A 0,A (-1),.slice d3 0 e3,.slice h3 0 i3] 29 from⟨d,y,j⟩);clear hb hp j c y d hW hc;have b9:F R2 P3:=b8.out.1;have b6:F R1 P3:=i.out.1.trans ((b4.out.1.trans (b9.mono b4.out.1.size)).mono i.out.1.size);have a7:F P1 P3:=a6.out.1.trans (b6.mono a6.out.1.size);have c0:F w P3:=g.out.1.trans (a7.mono g.out.1.size);have u:=zH b6 a6.out.2.2 (lt_of_block a6.out.2.2);have r:=zH b9 b4.out.2.2 (lt_of_block b4.out.2.2);have a0:=zH a7 g.out.2.2 (lt_of_block g.out.2.2);have a4:=b8.out.2.2;obtain⟨eb,eo,he,d0,m⟩:=(a6.out.2.1.below vo b6).get (k:=0) (x:=(9,65534)) rfl;subst he;have e0:G P3 eb eo (I 9):=by simpa using m.1
 have d9:G P3 eb (eo+1) (I 65534):=by simpa using m.2.1
 have c4:∀W,F P3 W->Y 20 #[.agg #[.slice f3 1 g3,.slice a3 1 b3,A 0,A (-1),.slice d3 0 e3,.slice h3 0 i3]] W fun e w'=>e=.returned (A 51)/\F W w':=fun W hb=>by
  have:=tu ((b8.out.2.1.below hb).mono hb.size) (Je _) (fun f hf=>(uL (t:=⟨4,-1,[]⟩) Zd Zd f hf).1);rw[lh] at this;exact this
 have c5:∀W,F P3 W->Y 20 #[.agg #[.slice f1 1 g1,.slice a1 1 b1,A 0,A (-1),.slice d1 0 e1,.slice h1 0 i1]] W fun e w'=>e=.returned (A 0)/\F W w':=fun W hb=>by
  have c7:=a7.trans (hb.mono a7.size);have:=tu ((g.out.2.1.below c7).mono c7.size) (Je _) (fun f hf=>(uL (t:=⟨4,2,[]⟩) Zd Zd f hf).1);rw[kS] at this;exact this
 have d5:=Ja c4;have d6:=Ja c5;have c8:=Ja c0;have y0:=K0 u;have y1:=K1 u;have y2:=K2 u;have y3:=K3 u;have y4:=K4 u;have y5:=K5 u;have y6:=K6 u;have z0:=K0 r;have z1:=K1 r;have z2:=K2 r;have z3:=K3 r;have z4:=K4 r;have z5:=K5 r;have z6:=K6 r;have u0:=K0 a4;have u1:=K1 a4;have u2:=K2 a4;have u3:=K3 a4;have u4:=K4 a4;have u5:=K5 a4;have v0:=K0 a0;have v1:=K1 a0;have v2:=K2 a0;have v3:=K3 a0;have v4:=K4 a0;have v5:=K5 a0;have c9:=Ja a0;clear b9 b6 a7 c0 u r a0 a4 m d0 c4 c5 a6 b4 g i b8 d7 HS;have m1:True:=trivial;go_wp2_with (first|(go_at_call 20;have d8:=m1;clear m1;go_must (refine(d5.out _ (Below.refl _ _)).mono ?_;rintro e w5 ⟨rfl,b7⟩;have a5:=zH b7 c9.out (lt_of_block c9.out);have q0:=K0 a5;have q1:=K1 a5;have q2:=K2 a5;have q3:=K3 a5;have q4:=K4 a5;have q5:=K5 a5))|(go_at_call 20;go_must (refine(d6.out _ b7).mono ?_;rintro e w6 ⟨rfl,d4⟩)))
 go_ret;exact⟨rfl,c8.out.trans ((b7.trans (d4.mono b7.size)).mono c8.out.size)⟩
def acg (f:Flds):Value:=.agg #[.bool f.is,.bool f.res,.bool f.a,.bool f.b,.bool f.n]
def wL (w:World)(f:Flds)(e:Ending)(w':World):Prop:=e=.returned (acg f)/\F w w'
theorem shp_1 (w:World):Y 54 #[A 1] w (wL w ⟨true,true,false,false,true⟩):=by
 go_enter Try.func54,Try.ntmps54;go_wp2;refine bodyPost_ret (v:=.agg #[.bool true,.bool true,.bool false,.bool false,.bool true]) ?_ rfl ?_
 ·rw[zM rfl];go_simp
 ·exact⟨rfl,Zr⟩
theorem shp_2 (w:World):Y 54 #[A 2] w (wL w ⟨true,true,false,false,true⟩):=by
 go_enter Try.func54,Try.ntmps54;go_wp2;refine bodyPost_ret (v:=.agg #[.bool true,.bool true,.bool false,.bool false,.bool true]) ?_ rfl ?_
 ·rw[zM rfl];go_simp
 ·exact⟨rfl,Zr⟩
theorem shp_3 (w:World):Y 54 #[A 3] w (wL w ⟨true,true,true,false,false⟩):=by
 go_enter Try.func54,Try.ntmps54;go_wp2;refine bodyPost_ret (v:=.agg #[.bool true,.bool true,.bool true,.bool false,.bool false]) ?_ rfl ?_
 ·rw[zM rfl];go_simp
 ·exact⟨rfl,Zr⟩
theorem shp_4 (w:World):Y 54 #[A 4] w (wL w ⟨true,true,true,false,false⟩):=by
 go_enter Try.func54,Try.ntmps54;go_wp2;refine bodyPost_ret (v:=.agg #[.bool true,.bool true,.bool true,.bool false,.bool false]) ?_ rfl ?_
 ·rw[zM rfl];go_simp
 ·exact⟨rfl,Zr⟩
theorem shp_18 (w:World):Y 54 #[A 18] w (wL w ⟨true,true,true,false,false⟩):=by
 go_enter Try.func54,Try.ntmps54;go_wp2;refine bodyPost_ret (v:=.agg #[.bool true,.bool true,.bool true,.bool false,.bool false]) ?_ rfl ?_
 ·rw[zM rfl];go_simp
 ·exact⟨rfl,Zr⟩
theorem shp_19 (w:World):Y 54 #[A 19] w (wL w ⟨true,true,true,false,false⟩):=by
 go_enter Try.func54,Try.ntmps54;go_wp2;refine bodyPost_ret (v:=.agg #[.bool true,.bool true,.bool true,.bool false,.bool false]) ?_ rfl ?_
 ·rw[zM rfl];go_simp
 ·exact⟨rfl,Zr⟩
theorem shp_20 (w:World):Y 54 #[A 20] w (wL w ⟨true,false,true,true,false⟩):=by
 go_enter Try.func54,Try.ntmps54;go_wp2;refine bodyPost_ret (v:=.agg #[.bool true,.bool false,.bool true,.bool true,.bool false]) ?_ rfl ?_
 ·rw[zM rfl];go_simp
 ·exact⟨rfl,Zr⟩
theorem shp_21 (w:World):Y 54 #[A 21] w (wL w ⟨true,false,true,true,false⟩):=by
 go_enter Try.func54,Try.ntmps54;go_wp2;refine bodyPost_ret (v:=.agg #[.bool true,.bool false,.bool true,.bool true,.bool false]) ?_ rfl ?_
 ·rw[zM rfl];go_simp
 ·exact⟨rfl,Zr⟩
theorem shp_22 (w:World):Y 54 #[A 22] w (wL w ⟨true,true,true,false,true⟩):=by
 go_enter Try.func54,Try.ntmps54;go_wp2;refine bodyPost_ret (v:=.agg #[.bool true,.bool true,.bool true,.bool false,.bool true]) ?_ rfl ?_
 ·rw[zM rfl];go_simp
 ·exact⟨rfl,Zr⟩
theorem shp_23 (w:World):Y 54 #[A 23] w (wL w ⟨true,true,true,false,true⟩):=by
 go_enter Try.func54,Try.ntmps54;go_wp2;refine bodyPost_ret (v:=.agg #[.bool true,.bool true,.bool true,.bool false,.bool true]) ?_ rfl ?_
 ·rw[zM rfl];go_simp
 ·exact⟨rfl,Zr⟩
theorem shp_24 (w:World):Y 54 #[A 24] w (wL w ⟨true,true,false,false,true⟩):=by
 go_enter Try.func54,Try.ntmps54;go_wp2;refine bodyPost_ret (v:=.agg #[.bool true,.bool true,.bool false,.bool false,.bool true]) ?_ rfl ?_
 ·rw[zM rfl];go_simp
 ·exact⟨rfl,Zr⟩
theorem shp_25 (w:World):Y 54 #[A 25] w (wL w ⟨true,false,true,false,true⟩):=by
 go_enter Try.func54,Try.ntmps54;go_wp2;refine bodyPost_ret (v:=.agg #[.bool true,.bool false,.bool true,.bool false,.bool true]) ?_ rfl ?_
 ·rw[zM rfl];go_simp
 ·exact⟨rfl,Zr⟩
theorem shp_26 (w:World):Y 54 #[A 26] w (wL w ⟨true,false,false,false,false⟩):=by
 go_enter Try.func54,Try.ntmps54;go_wp2;refine bodyPost_ret (v:=.agg #[.bool true,.bool false,.bool false,.bool false,.bool false]) ?_ rfl ?_
 ·rw[zM rfl];go_simp
 ·exact⟨rfl,Zr⟩
theorem shp_27 (w:World):Y 54 #[A 27] w (wL w ⟨true,false,false,false,false⟩):=by
 go_enter Try.func54,Try.ntmps54;go_wp2;refine bodyPost_ret (v:=.agg #[.bool true,.bool false,.bool false,.bool false,.bool false]) ?_ rfl ?_
 ·rw[zM rfl];go_simp
 ·exact⟨rfl,Zr⟩
theorem aao (c:Int)(h:5<=c/\c<=17)(w:World):Y 54 #[A c] w (wL w ⟨true,true,true,true,false⟩):=by
 have t1:((c:Int)==1)=false:=Ze;have t2:((c:Int)==2)=false:=Ze;have t3:((c:Int)==3)=false:=Ze;have t4:((c:Int)==4)=false:=Ze;have t:((c:Int)==18)=false:=Ze;have r:((c:Int)==19)=false:=Ze;have o:((c:Int)==20)=false:=Ze;have m:((c:Int)==21)=false:=Ze;have l:((c:Int)==22)=false:=Ze;have k:((c:Int)==23)=false:=Ze;have j:((c:Int)==24)=false:=Ze;have i:((c:Int)==25)=false:=Ze;have g:((c:Int)==26)=false:=Ze;have d:((c:Int)==27)=false:=Ze;have d1:decide (5<=c)=true:=by rw[decide_eq_true_eq];omega
 have d2:decide (c<=17)=true:=by rw[decide_eq_true_eq];omega
 clear h;go_enter Try.func54,Try.ntmps54;go_wp2;refine bodyPost_ret (v:=.agg #[.bool true,.bool true,.bool true,.bool true,.bool false]) ?_ rfl ?_
 ·rw[zM rfl];go_simp
 ·exact⟨rfl,Zr⟩
theorem shp_low (c:Int)(h:c<1)(w:World):Y 54 #[A c] w (wL w ⟨false,false,false,false,false⟩):=by
 have t1:((c:Int)==1)=false:=Ze;have t2:((c:Int)==2)=false:=Ze;have t3:((c:Int)==3)=false:=Ze;have t4:((c:Int)==4)=false:=Ze;have t:((c:Int)==18)=false:=Ze;have r:((c:Int)==19)=false:=Ze;have o:((c:Int)==20)=false:=Ze;have m:((c:Int)==21)=false:=Ze;have l:((c:Int)==22)=false:=Ze;have k:((c:Int)==23)=false:=Ze;have j:((c:Int)==24)=false:=Ze;have i:((c:Int)==25)=false:=Ze;have g:((c:Int)==26)=false:=Ze;have d:((c:Int)==27)=false:=Ze;have d1:decide (5<=c)=false:=by rw[decide_eq_false_iff_not];omega
 have d2:decide (c<=17)=true:=by rw[decide_eq_true_eq];omega
 clear h;go_enter Try.func54,Try.ntmps54;go_wp2;refine bodyPost_ret (v:=.agg #[.bool false,.bool false,.bool false,.bool false,.bool false]) ?_ rfl ?_
 ·rw[zM rfl];go_simp
 ·exact⟨rfl,Zr⟩
theorem shp_high (c:Int)(h:27<c)(w:World):Y 54 #[A c] w (wL w ⟨false,false,false,false,false⟩):=by
 have t1:((c:Int)==1)=false:=Ze;have t2:((c:Int)==2)=false:=Ze;have t3:((c:Int)==3)=false:=Ze;have t4:((c:Int)==4)=false:=Ze;have t:((c:Int)==18)=false:=Ze;have r:((c:Int)==19)=false:=Ze;have o:((c:Int)==20)=false:=Ze;have m:((c:Int)==21)=false:=Ze;have l:((c:Int)==22)=false:=Ze;have k:((c:Int)==23)=false:=Ze;have j:((c:Int)==24)=false:=Ze;have i:((c:Int)==25)=false:=Ze;have g:((c:Int)==26)=false:=Ze;have d:((c:Int)==27)=false:=Ze;have d1:decide (5<=c)=true:=by rw[decide_eq_true_eq];omega
 have d2:decide (c<=17)=false:=by rw[decide_eq_false_iff_not];omega
 clear h;go_enter Try.func54,Try.ntmps54;go_wp2;refine bodyPost_ret (v:=.agg #[.bool false,.bool false,.bool false,.bool false,.bool false]) ?_ rfl ?_
 ·rw[zM rfl];go_simp
 ·exact⟨rfl,Zr⟩
theorem aaK (c:Int)(w:World):Y 54 #[A c] w (wL w (zi c)):=by
 rcases rJ c with⟨h,e⟩|⟨h,e⟩|⟨h,e⟩|⟨h,e⟩|⟨h,e⟩|⟨h,e⟩|⟨h,e⟩|⟨h,e⟩<;>rw[e]
 ·rcases h with rfl|rfl|rfl
  ·exact shp_1 w
  ·exact shp_2 w
  ·exact shp_24 w
 ·rcases h with rfl|rfl|rfl|rfl
  ·exact shp_3 w
  ·exact shp_4 w
  ·exact shp_18 w
  ·exact shp_19 w
 ·exact aao c h w
 ·rcases h with rfl|rfl
  ·exact shp_20 w
  ·exact shp_21 w
 ·rcases h with rfl|rfl
  ·exact shp_22 w
  ·exact shp_23 w
 ·subst h;exact shp_25 w
 ·rcases h with rfl|rfl
  ·exact shp_26 w
  ·exact shp_27 w
 ·rcases h with h|h
  ·exact shp_low c h w
  ·exact shp_high c h w
end Go.Proofs.Ytojclalkfhoooaa
