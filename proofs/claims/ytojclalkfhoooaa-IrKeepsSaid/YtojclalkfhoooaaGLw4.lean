/- Part of a proof. -/
import Derived.Test.YtojclalkfhoooaaGRowMem
import Derived.Deep.MidRow
set_option linter.all false
set_option maxHeartbeats 4000000
set_option maxRecDepth 100000
namespace Go.Proofs.Ytojclalkfhoooaa
open Go.RowKit Go.Lib
variable {w w':World}{c:Value}{o:Obj}{l:List (Nat×Nat)}{C bh bp k m m1 m2:Nat}{g:Int->Option Int}{i x:Int}{blocks:List IBlk}{R:List (List Int)}{xs:List Value}
theorem Try.info_u8:(Try.prog.info? 5).map (fun i=>(i.zero,i.size,i.bytes))=some (some (.int .u8 0),1,1):=by kernel_rfl
theorem tQ {P:Program}(w:World)(dT sT ty c:TypeId)(g dLen k:Nat)(s:ByteArray)(cur:Array Value)(t:TypeId)
 (m:P.underlying dT=some (.slice c)) (hs:(P.info? c).map (·.size)=some 1) (hg:Y w g cur t) (o:dLen<=cur.size):
 (Builtin.copy_ #[dT,sT] ty #[.slice (some ⟨g,0,none⟩) dLen k,.string s]).run P w=
  .ok (goInt (Nat.min s.size dLen)) (w.setRow g (byteCells (s.data.toList.take (Nat.min s.size dLen))++cur.toList.drop (Nat.min s.size dLen)).toArray):=by
 obtain⟨n,j⟩:∃n,Nat.min s.size dLen=n:=⟨_,rfl⟩
 have q:n<=s.size:=by rw[<-j];exact Nat.min_le_left _ _
 have hnd:n<=dLen:=by rw[<-j];exact Nat.min_le_right _ _
 have h:(byteCells (s.data.toList.take n)).length=n:=by rw[byteCells_length,Oc,<-size_eq];omega
 have d:=run_storeCells_at P g 0 t (byteCells (s.data.toList.take n)) 0 cur w hg (by rw[h];omega) (byteCells_one _)
 have l:List.take n (List.map (fun b:UInt8=>Value.int IntKind.u8 (b.toNat:Int)) s.data.toList)=byteCells (s.data.toList.take n):=by
  rw[<-List.map_take];rfl
 rw[h] at d;simp only[Uk] at d;rw[j]
 cases hq:P.info? c with
 |none=>simp[hq] at hs
 |some i=>
  simp[Builtin.copy_,run_underlying m,Builtin.lenOf,Builtin.firstCells,sizeOf,typeInfo,hq,j];rw[l,d];simp[Result.andThen]
theorem aeB (s:ByteArray):byteCells (s.data.toList.take (Nat.min s.size 8192))++(List.replicate 8192 (Value.int .u8 0)).drop (Nat.min s.size 8192)=(v7 s).map wz:=by
 apply Oq;intro k;have i:s.data.toList.length=s.size:=(size_eq s).symm;have hl:(byteCells (s.data.toList.take (Nat.min s.size 8192))).length=Nat.min s.size 8192:=by rw[byteCells_length,Oc,i];exact Ud (Nat.min_le_left _ _)
 unfold v7;rw[List.map_map,Jr];obtain⟨n,c⟩:∃n,Nat.min s.size 8192=n:=⟨_,rfl⟩
 have o:n<=s.size:=by rw[<-c];exact Nat.min_le_left _ _
 have m:n<=8192:=by rw[<-c];exact Nat.min_le_right _ _
 have l:n=s.size∨n=8192:=by rcases Nat.le_total s.size 8192 with h|h;exact .inl (by rw[<-c];exact Ud h);exact .inr (by rw[<-c];exact Nat.min_eq_right h)
 rw[c] at hl ⊢
 by_cases h1:k<n
 ·rw[Np Zo,Oh Zo];unfold byteCells;rw[Jr,Ug,if_pos h1];have d:k<s.data.toList.length:=Zo;rw[Jd d];have g:k<s.data.size:=by simpa using d
  simp[wz,Array.getD_eq_getD_getElem?,Array.getElem?_eq_getElem g]
 ·rw[Nc Zo,hl,List.getElem?_drop,show n+(k-n)=k by omega,Nm]
  by_cases h2:k<8192
  ·rw[if_pos h2,Oh h2];have j:¬k<s.data.size:=by have:s.data.size=s.size:=rfl;omega
   simp[wz,Array.getD_eq_getD_getElem?,Array.getElem?_eq_none (Nat.le_of_not_lt j)]
  ·rw[if_neg h2,Of (by simpa using h2)];rfl
def EvR (w:World)(B b q:Nat)(x:Nat×Nat):Prop:=T w b q (U (x.1:Int))/\T w b (q+1) (U (x.2:Int))/\x.1<65536/\x.2<65536
theorem vo:vV EvR:=⟨fun w w' B b q x hB hb h=>⟨zV hb hB h.1,zV hb hB h.2.1,h.2.2⟩,fun w B B' b q x _ h=>h⟩
abbrev vM:=yN 2 EvR
def aeF (R:IRun)(ov:Value):Value:=.agg (yV R.value ov R.kind R.info (y9 R.ram) R.inputs R.polls)
def abr (w:World)(R:IRun)(e:Ending)(w':World):Prop:=∃ov,e=.returned (aeF R ov)/\vM w' w'.heap.size ov R.out/\L w w'
def sZ (V:PV)(p:IProg):Value:=.agg #[V.fv,V.av,O p.entry,O p.handler,V.dv,V.bv]
theorem iG (s:ByteArray):(v7 s).length=8192:=by simp[v7]
theorem bY (s:ByteArray):∀x∈v7 s,x<256:=by
 intro x c;unfold v7 at c;obtain⟨k,_,rfl⟩:=Nu.1 c;exact UInt8.toNat_lt _
theorem tM (w:World)(b k:Nat)(cs:Array Value)(h:k≠b):(w.setRow b cs).heap[k]? =w.heap[k]?:=by
 unfold World.setRow;simp only[Array.getElem?_modify];rw[if_neg (fun e=>h e.symm)]
theorem py{B:Nat}(h:Below B w w'){b:Nat}(hb:B<=b)(cs:Array Value):Below B w (w'.setRow b cs):=
 h.trans ⟨rfl,rfl,rfl,by unfold World.setRow;simp,fun k hk=>tM _ _ _ _ Zo⟩
theorem nZ{b:Nat}{cs c:Array Value}{t:TypeId}(h:Y w b cs t):Y (w.setRow b c) b c t:=setRow_heap w b cs c t (0,0) h
theorem ss{b b':Nat}{d:Array Value}(h:w.heap[b']? =some o)(c:b'≠b):(w.setRow b d).heap[b']? =some o:=(tM _ _ _ _ c).trans h
theorem sf (W:World)(A B C:Obj):(((W.alloc A).alloc B).alloc C).drew.heap[W.heap.size]? =some A/\(((W.alloc A).alloc B).alloc C).drew.heap[W.heap.size+1]? =some B/\(((W.alloc A).alloc B).alloc C).drew.heap[W.heap.size+1+1]? =some C/\L W (((W.alloc A).alloc B).alloc C).drew:=
 ⟨zB (zB (zI rfl)),zB (zI Zs),zI Zs,((((Below.refl _ _).alloc (Je _) _).alloc Zs _).alloc (by simp<;>omega) _).drew⟩
theorem oG:∀ {l:List (Nat×Nat)} {k:Nat} {p:Nat×Nat},l[k]? =some p->(qO l)[k*2]? =some (vL p.1)/\(qO l)[k*2+1]? =some (vL p.2)
 | [],k,p,h=>by simp at h
 |a::l,0,p,h=>by simp at h;subst h;exact⟨rfl,rfl⟩
 |a::l,k+1,p,h=>by
  have:=oG (l:=l) (k:=k) (by simpa using h);rw[show(k+1)*2=k*2+1+1 by omega];exact this
theorem kP{S:Nat}{ov:Value}(h:w.ownsRow S 87 2 ov l.length (qO l))(i:∀p∈l,p.1<65536/\p.2<65536):vM w w.heap.size ov l:=by
 obtain⟨a,c,rfl⟩:=zG h;have hl:=zm h;refine⟨a,c,rfl,hl.1,by omega,fun k x hk=>?_⟩;have j:=(Jh.1 hk).1;obtain⟨g,m,e,hg,hb⟩:=h.form Zo;cases e;obtain⟨h1,h2⟩:=oG hk;have d:=i x (Ji hk);refine⟨g,0,rfl,hb,?_,?_,d.1,d.2⟩
 ·rw[Ng];exact(h.cellAt (k*2) Zo).trans h1
 ·rw[Ng];exact(h.cellAt (k*2+1) Zo).trans h2
theorem ku{w4 w5:World}{K:MK}{m:Mach}{ov:Value}{b:Nat}{r0:Array Value}(c:MachAt w4 K m ov)(d:Y w4 b r0 57)(hb:w.heap.size<=b)(zb:L w w4)(hg:w4.grownBy w5 (some b)):vM w5 w5.heap.size ov m.out/\L w w5:=by
 have g:=zC c.out d (.inr Zd);exact⟨kP (c.out.kept hg (.inr g)) c.olt,zb.grown hg zb.size (fun k hk=>by simp at hk;omega)⟩
theorem mk_ram (W:World):(Instr.makeSlice 37 (O 8192) (O 8192)).run Try.prog W=.ok (Q W.heap.size 8192 8192) (W.alloc (A (madeCells #[.int .u8 0] 8192) 5)):=
 run_make_row' (P:=Try.prog) 37 5 (.int .u8 0) 1 Try.underlying37 Try.info_u8 rfl .i64 .i64 8192 Zd Zd W
theorem eval_ok{V:PV}{p:IProg}(hp:ProgIn w w.heap.size V p)(b4:OkProg p)(hV:∀W,L w W->G 20 #[sZ V p] W fun e W'=>e=.returned (O 0)/\L W W')
 (f:Int) (hf:0<=f/\f.toNat<p.funcs.length) {args:List Nat} {av:Value} (ha:wV w w.heap.size av args) (hl:(args.length:Int)=p.args.getD f.toNat 0) (s:ByteArray) (hs:s.size<=9223372036854775807)
 {inv irqv:Value} {inn irq:List Nat} (c8:wV w w.heap.size inv inn) (c7:dL w w.heap.size irqv irq) (fuel:Int) (e9:I64 fuel) (f0:fuel.toNat<=4000000):
 G 23 #[sZ V p,O f,av,.string s,.agg #[inv,irqv],O fuel] w (abr w (bQ ⟨p,inn,irq⟩ f args s fuel)):=by
 obtain⟨Vf,Va,Vd,Vb⟩:=V;have g8:=hp.funcs;have c5:=hp.args;have g9:=hp.data;have h0:=hp.banks;obtain⟨f1,f2,e1,_,_⟩:=hp.funcs.form;obtain⟨a1,a2,e2,_,_⟩:=hp.args.form;obtain⟨d1,d2,e3,_,_⟩:=hp.data.form;obtain⟨b1,b2,e4,_,_⟩:=hp.banks.form;obtain⟨v1,v2,rfl,_,_⟩:=ha.form;obtain⟨i1,i2,rfl,_,_⟩:=c8.form;obtain⟨q1,q2,rfl,_,_⟩:=c7.form;simp only at e1 e2 e3 e4;subst e1 e2 e3 e4;obtain⟨k,rfl⟩:∃k:Nat,f=(k:Int):=⟨f.toNat,by omega⟩
 have j4:(k:Int)<p.funcs.length:=Zo;unfold sZ at hV ⊢;simp only at hV c5 ⊢;have k0:decide ((k:Int)<0)=false:=by rw[decide_eq_false_iff_not];omega
 have j5:decide (p.funcs.length<=k)=false:=by rw[decide_eq_false_iff_not];omega
 have h4:=mk_ram;obtain⟨Z,hZ⟩:∃Z,madeCells #[Value.int .u8 0] 8192=Z:=⟨_,rfl⟩
 rw[hZ] at h4;have HZ:=Ja hZ;clear hZ;have HP:=Ja hp;have HV:=Ja hV;have i3:=Ja b4;have HA:=Ja (Jb ha hl);have g2:=Ja (Jb c8 c7);have g3:=Ja (Jb e9 f0);obtain⟨aa,d0⟩:∃x,p.args[k]? =some x:=⟨_,Jd (by rw[b4.alen];omega)⟩
 have f6:(args.length:Int)=aa:=by rw[hl,Ni,Jj,d0];rfl
 have j1:((args.length:Int) !=aa)=false:=by rw[bne_eq_false_iff_eq];exact f6
 have i8:(k:Int)<p.args.length:=by rw[b4.alen];omega
 obtain⟨ba,oa,rfl,h7,f4,_⟩:=c5.get d0;rw[Nk] at f4;clear hp hV b4 ha hl c8 c7 e9 f0 g8 c5 g9 h0 hf d0 f6
 go_enter_defers Try.func23,Try.ntmps23
 go_upto_region 1 with fail;have f5:L w (((w.alloc (A #[.slice f1 p.funcs.length f2,.slice (some ⟨ba,oa,none⟩) p.args.length a2,O p.entry,O p.handler,.slice d1 p.data.length d2,.slice b1 p.banks.length b2] 29)).alloc (A #[.slice i1 inn.length i2,.slice q1 irq.length q2] 61)).alloc (A #[U 0,F,O 0,U 0,.string {data:=#[]},O 0,O 0] 57)):=(((Below.refl _ _).alloc (Je _) _).alloc Zs _).alloc (by simp<;>omega) _;have l:Y (((w.alloc (A #[.slice f1 p.funcs.length f2,.slice (some ⟨ba,oa,none⟩) p.args.length a2,O p.entry,O p.handler,.slice d1 p.data.length d2,.slice b1 p.banks.length b2] 29)).alloc (A #[.slice i1 inn.length i2,.slice q1 irq.length q2] 61)).alloc (A #[U 0,F,O 0,U 0,.string {data:=#[]},O 0,O 0] 57)) w.heap.size #[.slice f1 p.funcs.length f2,.slice (some ⟨ba,oa,none⟩) p.args.length a2,O p.entry,O p.handler,.slice d1 p.data.length d2,.slice b1 p.banks.length b2] 29:=zB (zB (zI rfl));have e6:Y (((w.alloc (A #[.slice f1 p.funcs.length f2,.slice (some ⟨ba,oa,none⟩) p.args.length a2,O p.entry,O p.handler,.slice d1 p.data.length d2,.slice b1 p.banks.length b2] 29)).alloc (A #[.slice i1 inn.length i2,.slice q1 irq.length q2] 61)).alloc (A #[U 0,F,O 0,U 0,.string {data:=#[]},O 0,O 0] 57)) (w.heap.size+1) #[.slice i1 inn.length i2,.slice q1 irq.length q2] 61:=zB (zI Zs);have e5:Y (((w.alloc (A #[.slice f1 p.funcs.length f2,.slice (some ⟨ba,oa,none⟩) p.args.length a2,O p.entry,O p.handler,.slice d1 p.data.length d2,.slice b1 p.banks.length b2] 29)).alloc (A #[.slice i1 inn.length i2,.slice q1 irq.length q2] 61)).alloc (A #[U 0,F,O 0,U 0,.string {data:=#[]},O 0,O 0] 57)) (w.heap.size+2) #[U 0,F,O 0,U 0,.string {data:=#[]},O 0,O 0] 57:=zI Zs;generalize i0:((w.alloc (A #[.slice f1 p.funcs.length f2,.slice (some ⟨ba,oa,none⟩) p.args.length a2,O p.entry,O p.handler,.slice d1 p.data.length d2,.slice b1 p.banks.length b2] 29)).alloc (A #[.slice i1 inn.length i2,.slice q1 irq.length q2] 61)).alloc (A #[U 0,F,O 0,U 0,.string {data:=#[]},O 0,O 0] 57)=W0 at *;have a3:=Ja f5;have t:=Ja (Jb l (Jb e6 e5));have p0:=K0 l;have p1:=K1 l;have p2:=K2 l;have p3:=K3 l;have p4:=K4 l;have p5:=K5 l;clear l e6 e5 f5 i0;go_upto_region 3 with(go_at_call 20;go_must (refine(HV.out _ a3.out).mono ?_;rintro e W1 ⟨rfl,m⟩;have q0:=(m.cell (p:=⟨w.heap.size,0,none⟩) (Jw W0 _ p0)).trans p0;have g7:=(m.cell (p:=⟨w.heap.size,1,none⟩) (Jw W0 _ p1)).trans p1;have cx:=zV (a3.out.trans (m.mono a3.out.size)) h7 f4))
 have y0:=zH m t.out.1 (lt_of_block t.out.1);have y1:=zH m t.out.2.1 (lt_of_block t.out.2.1);have y2:=zH m t.out.2.2 (lt_of_block t.out.2.2);have j3:=lt_of_block y2;have a0:=Ja (a3.out.trans (m.mono a3.out.size));have HY:=Ja y2
 have c9:∀w',L W1 w'->(T w' w.heap.size 0 (.slice f1 p.funcs.length f2)/\T w' w.heap.size 1 (.slice (some ⟨ba,oa,none⟩) p.args.length a2)/\T w' w.heap.size 2 (O p.entry)/\T w' w.heap.size 3 (O p.handler)/\T w' w.heap.size 4 (.slice d1 p.data.length d2)/\T w' w.heap.size 5 (.slice b1 p.banks.length b2)/\T w' (w.heap.size+1) 0 (.slice i1 inn.length i2)/\T w' (w.heap.size+1) 1 (.slice q1 irq.length q2)):=fun w' hb=>by
  have z0:=zH hb y0 Zo;have z1:=zH hb y1 Zo;exact⟨zA z0 Zs,zA z0 Zs,zA z0 Zs,zA z0 Zs,zA z0 Zs,zA z0 Zs,zA z1 Zs,zA z1 Zs⟩
 have g6:=Ja c9;clear q0 g7 p0 p1 p2 p3 p4 p5 a3 t m y0 y1 y2 c9 cx
 go_cut [13] from 41 to 47 (fun v wx=>∃rb pm b13:Nat,v=I b13/\Hid (Y wx b13 #[I pm] 102/\Y wx rb Z 5/\Y wx pm #[.slice f1 p.funcs.length f2,.slice (some ⟨ba,oa,none⟩) p.args.length a2,O p.entry,O p.handler,.slice d1 p.data.length d2,.slice b1 p.banks.length b2,Q rb 8192 8192,.slice i1 inn.length i2,.slice q1 irq.length q2,O fuel,F,O 0,O 0] 104/\L W1 wx/\W1.heap.size<=rb/\W1.heap.size<=pm/\W1.heap.size<=b13))
 case first=>
  go_region_held3 (fun w'=>T w' w.heap.size 0 (.slice f1 p.funcs.length f2)/\T w' w.heap.size 1 (.slice (some ⟨ba,oa,none⟩) p.args.length a2)/\T w' w.heap.size 2 (O p.entry)/\T w' w.heap.size 3 (O p.handler)/\T w' w.heap.size 4 (.slice d1 p.data.length d2)/\T w' w.heap.size 5 (.slice b1 p.banks.length b2)/\T w' (w.heap.size+1) 0 (.slice i1 inn.length i2)/\T w' (w.heap.size+1) 1 (.slice q1 irq.length q2))
   ((refine g6.out _ ?_;repeat' (first|exact Below.refl _ _|refine Below.drew ?_|refine Below.alloc ?_ (by simp<;>omega) _|refine Below.setCell ?_ (by simp<;>omega) _)))
   (fail)
  all_goals go_wp2_with fail
  all_goals go_meet
  ·exact⟨W1.heap.size,W1.heap.size+1,W1.heap.size+1+1,rfl,(sf _ _ _ _).2.2.1,(sf _ _ _ _).1,(sf _ _ _ _).2.1,(sf _ _ _ _).2.2.2,by omega,by omega,by omega⟩
  ·exact⟨W1.heap.size,W1.heap.size+1+1,W1.heap.size+1,rfl,(sf _ _ _ _).2.1,(sf _ _ _ _).1,(sf _ _ _ _).2.2.1,(sf _ _ _ _).2.2.2,by omega,by omega,by omega⟩
  ·exact⟨W1.heap.size+1,W1.heap.size+1+1,W1.heap.size,rfl,(sf _ _ _ _).1,(sf _ _ _ _).2.1,(sf _ _ _ _).2.2.1,(sf _ _ _ _).2.2.2,by omega,by omega,by omega⟩
 case rest=>
  obtain⟨rb,pm,b13,rfl,i⟩:=hcut;have k1:=K0 i.out.1;have k2:=K6 i.out.2.2.1;have b8:Z.toList=List.replicate 8192 (Value.int .u8 0):=by rw[<-HZ.out];exact toList_madeCells_one _ _
  have d8:8192<=Z.size:=by have:=congrArg List.length b8;rw[Qr] at this;simp at this;omega
  have f3:=fun ty:TypeId=>tQ (P:=Try.prog) wc 37 9 ty 5 rb 8192 8192 s Z 5 Try.underlying37 Zk i.out.2.1 d8
  obtain⟨n,hn⟩:∃n,goInt (Nat.min s.size 8192)=n:=⟨_,rfl⟩
  have c3:(byteCells (s.data.toList.take (Nat.min s.size 8192))++Z.toList.drop (Nat.min s.size 8192)).toArray=((v7 s).map wz).toArray:=by
   rw[<-aeB s,b8]
  rw[hn,c3] at f3;clear b8 d8 c3 hn;have b6:L W1 (wc.setRow rb ((v7 s).map wz).toArray):=py i.out.2.2.2.1 i.out.2.2.2.2.1 _;have e7:Y (wc.setRow rb ((v7 s).map wz).toArray) rb ((v7 s).map wz).toArray 5:=nZ i.out.2.1;have e8:(wc.setRow rb ((v7 s).map wz).toArray).heap[pm]? =_:=ss i.out.2.2.1 (by rintro rfl;have h1:=i.out.2.1;rw[i.out.2.2.1] at h1;simp at h1);have f9:(wc.setRow rb ((v7 s).map wz).toArray).heap[b13]? =_:=ss i.out.1 (by rintro rfl;have h1:=i.out.2.1;rw[i.out.1] at h1;simp at h1);go_upto_region 5 with fail;generalize h9:wc.setRow rb ((v7 s).map wz).toArray=W2 at *;have j2:∀(fn:Fn) (first cap:Array Value) (W:World),(Instr.makeFunc fn first cap).run Try.prog W=.ok (.func fn first cap) W:=fun _ _ _ _=>rfl
  obtain⟨K,hK⟩:∃K:MK,K=⟨⟨p,inn,irq⟩,⟨.slice f1 p.funcs.length f2,.slice (some ⟨ba,oa,none⟩) p.args.length a2,.slice d1 p.data.length d2,.slice b1 p.banks.length b2⟩,.slice i1 inn.length i2,.slice q1 irq.length q2,pm,rb,W1.heap.size⟩:=⟨_,rfl⟩
  have q:L w W2:=a0.out.trans (b6.mono a0.out.size)
  have f8:MachAt W2 K ⟨v7 s,fuel,[],0,0⟩ (F):=by
   subst hK;exact⟨e8,e7,iG s,bY s,Jv _ _ _ _,fun p hp=>by simp at hp,by have:=g3.out.2;show 0+fuel.toNat<=4000000;omega,g3.out.1,Jt _,Jt _,i.out.2.2.2.2.2.1,i.out.2.2.2.2.1,(HP.out.below q).mono a0.out.size,(g2.out.1.below zr q).mono zr a0.out.size,(g2.out.2.below xQ q).mono xQ a0.out.size⟩
  have e0:W2.heap[w.heap.size+2]? =_:=zH b6 HY.out (lt_of_block HY.out);have g0:=Ja f8;have j:=Ja (Jb f9 (Jb e0 (Jb b6 q)));clear h9 f8 e0 f9 e7 e8 b6 q f3 k1 k2 i;go_upto_region 6 with fail;have b9:=zI (W:=W2) (o:=A #[.func (.func 50) #[] #[I b13,I (w.heap.size+1+1)]] 105) rfl;have y:=(Below.refl W2.heap.size W2).alloc (Je _) (A #[.func (.func 50) #[] #[I b13,I (w.heap.size+1+1)]] 105);have f7:=g0.out.keep y;have a7:=zH y j.out.1 (lt_of_block j.out.1);have c0:=zH y j.out.2.1 (lt_of_block j.out.2.1);have a5:L w _:=j.out.2.2.2.trans (y.mono j.out.2.2.2.size);have d3:L W1 _:=j.out.2.2.1.trans (y.mono j.out.2.2.1.size);generalize h8:W2.alloc (A #[.func (.func 50) #[] #[I b13,I (w.heap.size+1+1)]] 105)=W3 at *;generalize W2.heap.size=b14 at *;have r:K.E=⟨p,inn,irq⟩/\K.pm=pm/\K.B=W1.heap.size:=by rw[hK];exact⟨rfl,rfl,rfl⟩
  have g:=mi K (by rw[r.1];exact i3.out) 100 (Je _) W3 _ _ (.slice v1 args.length v2) (k:Int) args f7 Zo (by rw[r.1];show(k:Int).toNat<p.funcs.length;omega) ((HA.out.1.below zr a5).mono zr a5.size) (by rw[r.1];exact HA.out.2);obtain⟨RES,a9⟩:∃R,xW K.E 100 (k:Int) args ⟨v7 s,fuel,[],0,0⟩=R:=⟨_,rfl⟩
  have c2:bQ ⟨p,inn,irq⟩ (k:Int) args s fuel=adO RES:=by rw[<-a9,r.1];rfl
  rw[a9,r.2.1] at g;have e1:(101:Int)-((100:Nat):Int)=1:=by decide
  rw[e1] at g;have k3:=K0 a7;have d5:=Ja c2;have g1:=Ja r;have H3:=Ja (Jb a7 (Jb c0 (Jb b9 (Jb a5 d3))));clear h8 f7 a7 c0 b9 y a5 d3 hK c2 a9 j g0 e1 r
  have b3:∀(w4:World) (ov4:Value) (m4:Mach),MachAt w4 K m4 ov4->Frm K.B W3 w4->
   Y w4 b13 #[I K.pm] 102/\Y w4 (w.heap.size+1+1) #[U 0,F,O 0,U 0,.string {data:=#[]},O 0,O 0] 57/\T w4 b14 0 (.func (.func 50) #[] #[I b13,I (w.heap.size+1+1)])/\L w w4:=fun w4 ov4 m4 d h=>by
   refine⟨by rw[g1.out.2.1];exact h.kept _ _ H3.out.1 (by simp[sA]),h.kept _ _ H3.out.2.1 (by simp[sA]),zA (h.kept _ _ H3.out.2.2.1 (by simp[sA])) Zs,H3.out.2.2.2.1.trans (h.below.mono ?_)⟩;rw[g1.out.2.2];exact a0.out.size
  have b7:=Ja b3;clear b3
  cases RES with
  |ok x m4=>
   have a6:G 52 #[I pm,O k,.slice v1 args.length v2,O 1] W3 fun e w'=>e=.returned (U x)/\(∃ov',MachAt w' K m4 ov')/\Frm K.B W3 w'/\x<65536:=g
   have d6:=Ja a6;clear g a6;go_upto_region 8 with(go_at_call 52;go_must (refine d6.out.mono ?_;rintro e w4 ⟨rfl,⟨ov4,d⟩,h,j0⟩))
   obtain⟨b0,u,d7,zb⟩:=b7.out w4 ov4 m4 d h;obtain⟨oa4,oc4,rfl⟩:=zG d.out
   have a4:G 50 #[.agg #[O 6,U 0],U x,I b13,I (w.heap.size+1+1)] w4 fun e w'=>
    e=.returned (.tuple #[])/\Y w' (w.heap.size+1+1) (yV x (.slice oa4 m4.out.length oc4) 6 0 (y9 m4.ram) m4.inputs m4.polls) 57/\w4.grownBy w' (some (w.heap.size+1+1)):=pE d b0 u 6 0 x
   have b5:w4.heap[b14]? =_:=h.kept _ _ H3.out.2.2.1 (by simp[sA]);have g5:=Ja a4;have d4:=Ja (Jb d (Jb u (Jb zb b5)));clear a4 b0 u zb d h b5;go_upto_region 9 with(go_at_call 50;go_must (refine g5.out.mono ?_;rintro e w5 ⟨rfl,c,h6⟩))
   have r0:T w5 (w.heap.size+1+1) 0 (U x):=zA c (by simp[yV]);have s0:N w5 (w.heap.size+1+1) 0:=zE c;have r1:T w5 (w.heap.size+1+1) 1 (.slice oa4 m4.out.length oc4):=zA c (by simp[yV]);have s1:N w5 (w.heap.size+1+1) 1:=zE c;have r2:T w5 (w.heap.size+1+1) 2 (O 6):=zA c (by simp[yV]);have s2:N w5 (w.heap.size+1+1) 2:=zE c;have r3:T w5 (w.heap.size+1+1) 3 (U 0):=zA c (by simp[yV]);have s3:N w5 (w.heap.size+1+1) 3:=zE c;have r4:T w5 (w.heap.size+1+1) 4 (.string (y9 m4.ram)):=zA c (by simp[yV]);have s4:N w5 (w.heap.size+1+1) 4:=zE c;have r5:T w5 (w.heap.size+1+1) 5 (O (m4.inputs:Int)):=zA c (by simp[yV]);have s5:N w5 (w.heap.size+1+1) 5:=zE c;have r6:T w5 (w.heap.size+1+1) 6 (O (m4.polls:Int)):=zA c (by simp[yV]);have s6:N w5 (w.heap.size+1+1) 6:=zE c;have hE:=ku d4.out.1 d4.out.2.1 Zo d4.out.2.2.1 (zu (zu (zu (zu (zu (zu (zu h6 0 (U x)) 1 (.slice oa4 m4.out.length oc4)) 2 (O 6)) 3 (U 0)) 4 (.string (y9 m4.ram))) 5 (O (m4.inputs:Int))) 6 (O (m4.polls:Int)))
   have c4:abr w (bQ ⟨p,inn,irq⟩ (k:Int) args s fuel) (.returned (.agg #[U x,.slice oa4 m4.out.length oc4,O 6,U 0,.string (y9 m4.ram),O (m4.inputs:Int),O (m4.polls:Int)])) (((((((w5.setCell ⟨w.heap.size+1+1,0,none⟩ (U x)).setCell ⟨w.heap.size+1+1,1,none⟩ (.slice oa4 m4.out.length oc4)).setCell ⟨w.heap.size+1+1,2,none⟩ (O 6)).setCell ⟨w.heap.size+1+1,3,none⟩ (U 0)).setCell ⟨w.heap.size+1+1,4,none⟩ (.string (y9 m4.ram))).setCell ⟨w.heap.size+1+1,5,none⟩ (O (m4.inputs:Int))).setCell ⟨w.heap.size+1+1,6,none⟩ (O (m4.polls:Int))):=by
    rw[d5.out];exact⟨_,rfl,hE.1,hE.2⟩
   have g4:=Ja c4;clear c4 hE;go_wp2;refine leaves_cons (f:=51) (args:=#[I b14]) Zs (by simp[go_sem]) ?_;refine(aeA _ _).mono ?_;rintro e u' w6 ⟨rfl,rfl,rfl⟩;simp[Leaves,settle,results,Try.results23,go_sem,r0,r1,r2,r3,r4,r5,r6]
   exact g4.out
  |trap k2 i2 m4=>
   have a6:G 52 #[I pm,O k,.slice v1 args.length v2,O 1] W3 fun e w'=>e=.panicked [oE k2 i2]/\(∃ov',MachAt w' K m4 ov')/\Frm K.B W3 w'/\True:=g
   have d6:=Ja a6;clear g a6;go_wp2_with (go_at_call 52;go_must (refine d6.out.mono ?_;rintro e w4 ⟨rfl,⟨ov4,d⟩,h,_⟩))
   obtain⟨b0,u,d7,zb⟩:=b7.out w4 ov4 m4 d h;have hd:=pi d b0 u d7 k2 i2 [];obtain⟨oa4,oc4,rfl⟩:=zG d.out;refine leaves_cons (f:=51) (args:=#[I b14]) Zs (by simp[go_sem]) ?_;refine hd.mono ?_;rintro e u' w5 ⟨rfl,rfl,c,h6⟩;have hE:=ku d u Zo zb h6;have r0:T w5 (w.heap.size+1+1) 0 (U ((0:Nat):Int)):=zA c (by simp[yV]);have r1:T w5 (w.heap.size+1+1) 1 (.slice oa4 m4.out.length oc4):=zA c (by simp[yV]);have r2:T w5 (w.heap.size+1+1) 2 (O k2):=zA c (by simp[yV]);have r3:T w5 (w.heap.size+1+1) 3 (U i2):=zA c (by simp[yV]);have r4:T w5 (w.heap.size+1+1) 4 (.string (y9 m4.ram)):=zA c (by simp[yV]);have r5:T w5 (w.heap.size+1+1) 5 (O (m4.inputs:Int)):=zA c (by simp[yV]);have r6:T w5 (w.heap.size+1+1) 6 (O (m4.polls:Int)):=zA c (by simp[yV])
   have a4:abr w (bQ ⟨p,inn,irq⟩ (k:Int) args s fuel) (.returned (.agg #[U ((0:Nat):Int),.slice oa4 m4.out.length oc4,O k2,U i2,.string (y9 m4.ram),O (m4.inputs:Int),O (m4.polls:Int)])) w5:=by
    rw[d5.out];exact⟨_,rfl,hE.1,hE.2⟩
   simp[Leaves,settle,results,Try.results23,go_sem,r0,r1,r2,r3,r4,r5,r6];exact a4
open Go.RowKit
structure Flds where
 is:Bool
 res:Bool
 a:Bool
 b:Bool
 n:Bool
def zi (c:Int):Flds:=
 if c=1∨c=2∨c=24 then⟨true,true,false,false,true⟩
 else if c=3∨c=4∨c=18∨c=19 then⟨true,true,true,false,false⟩
 else if 5<=c/\c<=17 then⟨true,true,true,true,false⟩
 else if c=20∨c=21 then⟨true,false,true,true,false⟩
 else if c=22∨c=23 then⟨true,true,true,false,true⟩
 else if c=25 then⟨true,false,true,false,true⟩
 else if c=26∨c=27 then⟨true,false,false,false,false⟩
 else⟨false,false,false,false,false⟩
theorem rJ (c:Int):
 ((c=1∨c=2∨c=24)/\zi c=⟨true,true,false,false,true⟩)∨((c=3∨c=4∨c=18∨c=19)/\zi c=⟨true,true,true,false,false⟩)∨((5<=c/\c<=17)/\zi c=⟨true,true,true,true,false⟩)∨((c=20∨c=21)/\zi c=⟨true,false,true,true,false⟩)∨
 ((c=22∨c=23)/\zi c=⟨true,true,true,false,true⟩)∨(c=25/\zi c=⟨true,false,true,false,true⟩)∨((c=26∨c=27)/\zi c=⟨true,false,false,false,false⟩)∨((c<1∨27<c)/\zi c=⟨false,false,false,false,false⟩):=by
 unfold zi
 by_cases h1:c=1∨c=2∨c=24
 ·exact .inl ⟨h1,if_pos h1⟩
 rw[if_neg h1]
 by_cases h2:c=3∨c=4∨c=18∨c=19
 ·exact .inr (.inl ⟨h2,if_pos h2⟩)
 rw[if_neg h2]
 by_cases h3:5<=c/\c<=17
 ·exact .inr (.inr (.inl ⟨h3,if_pos h3⟩))
 rw[if_neg h3]
 by_cases i:c=20∨c=21
 ·exact .inr (.inr (.inr (.inl ⟨i,if_pos i⟩)))
 rw[if_neg i]
 by_cases h:c=22∨c=23
 ·exact .inr (Zi (.inl ⟨h,if_pos h⟩))
 rw[if_neg h]
 by_cases g:c=25
 ·exact .inr (.inr (Zi (.inl ⟨g,if_pos g⟩)))
 rw[if_neg g]
 by_cases d:c=26∨c=27
 ·exact .inr (.inr (.inr (Zi (.inl ⟨d,if_pos d⟩))))
 rw[if_neg d];exact .inr (.inr (.inr (Zi (.inr ⟨by omega,rfl⟩))))
def nL (f:Flds):Value:=.tuple #[.agg #[.bool f.res,.bool f.a,.bool f.b,.bool f.n],.bool f.is]
def yX (w:World)(f:Flds)(e:Ending)(w':World):Prop:=e=.returned (nL f)/\L w w'
theorem flds_1 (w:World):G 105 #[O 1] w (yX w ⟨true,true,false,false,true⟩):=by
 go_enter Try.func105,Try.ntmps105;go_wp2;exact bodyPost_ret (v:=.tuple #[.agg #[.bool true,.bool false,.bool false,.bool true],.bool true]) (by simp[results,Try.results105,go_sem]) rfl ⟨rfl,Zr⟩
theorem flds_2 (w:World):G 105 #[O 2] w (yX w ⟨true,true,false,false,true⟩):=by
 go_enter Try.func105,Try.ntmps105;go_wp2;exact bodyPost_ret (v:=.tuple #[.agg #[.bool true,.bool false,.bool false,.bool true],.bool true]) (by simp[results,Try.results105,go_sem]) rfl ⟨rfl,Zr⟩
theorem flds_3 (w:World):G 105 #[O 3] w (yX w ⟨true,true,true,false,false⟩):=by
 go_enter Try.func105,Try.ntmps105;go_wp2;exact bodyPost_ret (v:=.tuple #[.agg #[.bool true,.bool true,.bool false,.bool false],.bool true]) (by simp[results,Try.results105,go_sem]) rfl ⟨rfl,Zr⟩
theorem flds_4 (w:World):G 105 #[O 4] w (yX w ⟨true,true,true,false,false⟩):=by
 go_enter Try.func105,Try.ntmps105;go_wp2;exact bodyPost_ret (v:=.tuple #[.agg #[.bool true,.bool true,.bool false,.bool false],.bool true]) (by simp[results,Try.results105,go_sem]) rfl ⟨rfl,Zr⟩
theorem flds_18 (w:World):G 105 #[O 18] w (yX w ⟨true,true,true,false,false⟩):=by
 go_enter Try.func105,Try.ntmps105;go_wp2;exact bodyPost_ret (v:=.tuple #[.agg #[.bool true,.bool true,.bool false,.bool false],.bool true]) (by simp[results,Try.results105,go_sem]) rfl ⟨rfl,Zr⟩
theorem flds_19 (w:World):G 105 #[O 19] w (yX w ⟨true,true,true,false,false⟩):=by
 go_enter Try.func105,Try.ntmps105;go_wp2;exact bodyPost_ret (v:=.tuple #[.agg #[.bool true,.bool true,.bool false,.bool false],.bool true]) (by simp[results,Try.results105,go_sem]) rfl ⟨rfl,Zr⟩
theorem flds_20 (w:World):G 105 #[O 20] w (yX w ⟨true,false,true,true,false⟩):=by
 go_enter Try.func105,Try.ntmps105;go_wp2;exact bodyPost_ret (v:=.tuple #[.agg #[.bool false,.bool true,.bool true,.bool false],.bool true]) (by simp[results,Try.results105,go_sem]) rfl ⟨rfl,Zr⟩
theorem flds_21 (w:World):G 105 #[O 21] w (yX w ⟨true,false,true,true,false⟩):=by
 go_enter Try.func105,Try.ntmps105;go_wp2;exact bodyPost_ret (v:=.tuple #[.agg #[.bool false,.bool true,.bool true,.bool false],.bool true]) (by simp[results,Try.results105,go_sem]) rfl ⟨rfl,Zr⟩
theorem flds_22 (w:World):G 105 #[O 22] w (yX w ⟨true,true,true,false,true⟩):=by
 go_enter Try.func105,Try.ntmps105;go_wp2;exact bodyPost_ret (v:=.tuple #[.agg #[.bool true,.bool true,.bool false,.bool true],.bool true]) (by simp[results,Try.results105,go_sem]) rfl ⟨rfl,Zr⟩
theorem flds_23 (w:World):G 105 #[O 23] w (yX w ⟨true,true,true,false,true⟩):=by
 go_enter Try.func105,Try.ntmps105;go_wp2;exact bodyPost_ret (v:=.tuple #[.agg #[.bool true,.bool true,.bool false,.bool true],.bool true]) (by simp[results,Try.results105,go_sem]) rfl ⟨rfl,Zr⟩
theorem flds_24 (w:World):G 105 #[O 24] w (yX w ⟨true,true,false,false,true⟩):=by
 go_enter Try.func105,Try.ntmps105;go_wp2;exact bodyPost_ret (v:=.tuple #[.agg #[.bool true,.bool false,.bool false,.bool true],.bool true]) (by simp[results,Try.results105,go_sem]) rfl ⟨rfl,Zr⟩
theorem flds_25 (w:World):G 105 #[O 25] w (yX w ⟨true,false,true,false,true⟩):=by
 go_enter Try.func105,Try.ntmps105;go_wp2;exact bodyPost_ret (v:=.tuple #[.agg #[.bool false,.bool true,.bool false,.bool true],.bool true]) (by simp[results,Try.results105,go_sem]) rfl ⟨rfl,Zr⟩
theorem flds_26 (w:World):G 105 #[O 26] w (yX w ⟨true,false,false,false,false⟩):=by
 go_enter Try.func105,Try.ntmps105;go_wp2;exact bodyPost_ret (v:=.tuple #[.agg #[.bool false,.bool false,.bool false,.bool false],.bool true]) (by simp[results,Try.results105,go_sem]) rfl ⟨rfl,Zr⟩
theorem flds_27 (w:World):G 105 #[O 27] w (yX w ⟨true,false,false,false,false⟩):=by
 go_enter Try.func105,Try.ntmps105;go_wp2;exact bodyPost_ret (v:=.tuple #[.agg #[.bool false,.bool false,.bool false,.bool false],.bool true]) (by simp[results,Try.results105,go_sem]) rfl ⟨rfl,Zr⟩
theorem flds_mid (c:Int)(h:5<=c/\c<=17)(w:World):G 105 #[O c] w (yX w ⟨true,true,true,true,false⟩):=by
 have t1:((c:Int)==1)=false:=Ze;have t2:((c:Int)==2)=false:=Ze;have t3:((c:Int)==3)=false:=Ze;have t4:((c:Int)==4)=false:=Ze;have g:((c:Int)==18)=false:=Ze;have d:((c:Int)==19)=false:=Ze;have d1:decide (5<=c)=true:=by rw[decide_eq_true_eq];omega
 have d2:decide (c<=17)=true:=by rw[decide_eq_true_eq];omega
 clear h;go_enter Try.func105,Try.ntmps105;go_wp2;exact bodyPost_ret (v:=.tuple #[.agg #[.bool true,.bool true,.bool true,.bool false],.bool true]) (by simp[results,Try.results105,go_sem]) rfl ⟨rfl,Zr⟩
theorem flds_low (c:Int)(h:c<1)(w:World):G 105 #[O c] w (yX w ⟨false,false,false,false,false⟩):=by
 have t1:((c:Int)==1)=false:=Ze;have t2:((c:Int)==2)=false:=Ze;have t3:((c:Int)==3)=false:=Ze;have t4:((c:Int)==4)=false:=Ze;have r:((c:Int)==18)=false:=Ze;have q:((c:Int)==19)=false:=Ze;have o:((c:Int)==20)=false:=Ze;have m:((c:Int)==21)=false:=Ze;have l:((c:Int)==22)=false:=Ze;have k:((c:Int)==23)=false:=Ze;have j:((c:Int)==24)=false:=Ze;have i:((c:Int)==25)=false:=Ze;have g:((c:Int)==26)=false:=Ze;have d:((c:Int)==27)=false:=Ze;have d1:decide (5<=c)=false:=by rw[decide_eq_false_iff_not];omega
 clear h;go_enter Try.func105,Try.ntmps105;go_wp2;exact bodyPost_ret (v:=.tuple #[.agg #[.bool false,.bool false,.bool false,.bool false],.bool false]) (by simp[results,Try.results105,go_sem]) rfl ⟨rfl,Zr⟩
theorem iU (c:Int)(h:27<c)(w:World):G 105 #[O c] w (yX w ⟨false,false,false,false,false⟩):=by
 have t1:((c:Int)==1)=false:=Ze;have t2:((c:Int)==2)=false:=Ze;have t3:((c:Int)==3)=false:=Ze;have t4:((c:Int)==4)=false:=Ze;have r:((c:Int)==18)=false:=Ze;have q:((c:Int)==19)=false:=Ze;have o:((c:Int)==20)=false:=Ze;have m:((c:Int)==21)=false:=Ze;have l:((c:Int)==22)=false:=Ze;have k:((c:Int)==23)=false:=Ze;have j:((c:Int)==24)=false:=Ze;have i:((c:Int)==25)=false:=Ze;have g:((c:Int)==26)=false:=Ze;have d:((c:Int)==27)=false:=Ze;have d1:decide (5<=c)=true:=by rw[decide_eq_true_eq];omega
 have d2:decide (c<=17)=false:=by rw[decide_eq_false_iff_not];omega
 clear h;go_enter Try.func105,Try.ntmps105;go_wp2;exact bodyPost_ret (v:=.tuple #[.agg #[.bool false,.bool false,.bool false,.bool false],.bool false]) (by simp[results,Try.results105,go_sem]) rfl ⟨rfl,Zr⟩
theorem yu (c:Int)(w:World):G 105 #[O c] w (yX w (zi c)):=by
 rcases rJ c with⟨h,e⟩|⟨h,e⟩|⟨h,e⟩|⟨h,e⟩|⟨h,e⟩|⟨h,e⟩|⟨h,e⟩|⟨h,e⟩<;>rw[e]
 ·rcases h with rfl|rfl|rfl
  ·exact flds_1 w
  ·exact flds_2 w
  ·exact flds_24 w
 ·rcases h with rfl|rfl|rfl|rfl
  ·exact flds_3 w
  ·exact flds_4 w
  ·exact flds_18 w
  ·exact flds_19 w
 ·exact flds_mid c h w
 ·rcases h with rfl|rfl
  ·exact flds_20 w
  ·exact flds_21 w
 ·rcases h with rfl|rfl
  ·exact flds_22 w
  ·exact flds_23 w
 ·subst h;exact flds_25 w
 ·rcases h with rfl|rfl
  ·exact flds_26 w
  ·exact flds_27 w
 ·rcases h with h|h
  ·exact flds_low c h w
  ·exact iU c h w
open Go.RowKit Go.Maps
theorem px (w:World):(zeroValue 3).run Try.prog w=.ok (O 0) w:=by kernel_rfl
def wA (w:World)(b n:Nat)(g:Int->Option Int):Prop:=
 ∃D:DataW Unit,w.ownsMap Try.prog 3 (plainElem Try.prog 3) b n D/\∀x,I64 x->D.atKey (.int .i64 x) (.lit (.int .i64 0))=.lit (.int .i64 ((g x).getD 0))/\Maps.has D (.int .i64 x)=(g x).isSome
theorem wA.made (w:World):wA (w.alloc (.map #[] 0)) w.heap.size 0 (fun _=>none):=⟨_,World.ownsMap_made _ _ _ _,fun _ _=>⟨rfl,rfl⟩⟩
theorem wA.blk{b n:Nat}(h:wA w b n g):∃es clock,w.heap[b]? =some (.map es clock):=by
 obtain⟨D,⟨es,clock,h1,h2⟩,h3⟩:=h;exact⟨es,clock,h1⟩
theorem wA.same{b n:Nat}(h:wA w b n g)(hb:w'.heap[b]? =w.heap[b]?):wA w' b n g:=by
 obtain⟨D,⟨es,c,h1,h2⟩,h3⟩:=h;exact⟨D,⟨es,c,hb.trans h1,h2⟩,h3⟩
theorem wA.look{b n:Nat}(h:wA w b n g)(j:I64 x):
 (Instr.lookup 126 (.map (some b)) (.int .i64 x) false).run Try.prog w=.ok (.int .i64 ((g x).getD 0)) w:=by
 obtain⟨D,h,hf⟩:=h;obtain⟨c,i,d,k⟩:=h.lookup_int xH Try.underlying126 Try.underlying3 (px w) (vB j);rw[(hf x j).1] at d;simp only[DataW.lit.injEq,Lit.int.injEq,true_and] at d;subst d;exact i
theorem wA.lookOk{b n:Nat}(h:wA w b n g)(i:I64 x):
 (Instr.lookup 126 (.map (some b)) (.int .i64 x) true).run Try.prog w=.ok (.tuple #[.int .i64 ((g x).getD 0),.bool (g x).isSome]) w:=by
 obtain⟨D,h,hf⟩:=h;obtain⟨v,ps,d,hv⟩:=h.look_ok xH Try.underlying126 (px w) (plainElem_int Try.underlying3 Zd) (vB i);rw[(hf x i).1] at hv;obtain⟨c,rfl,j,_⟩:=plainElem_int_inv Try.underlying3 hv;simp only[Prod.mk.injEq,DataW.lit.injEq,Lit.int.injEq,true_and] at j;rw[(hf x i).2,<-j.1] at d;exact d
def lS (g:Int->Option Int)(x v:Int):Int->Option Int:=fun y=>if y=x then some v else g y
def opF (p:IProg)(o:IOp):Bool:=
 (zi o.code).is &&
  (if o.code=26 then decide (0<=o.a) && decide (o.a<p.funcs.length) && decide ((o.args.length:Int)=p.args.getD o.a.toNat 0) && decide (-1<=o.res) && decide (o.b=0) && decide (o.n=0)
   else if o.code=2 then decide (0<=o.a) && decide (o.a<p.data.length) && decide (0<=o.res) && decide (o.b=0) && decide (o.args.length=0)
   else decide ((zi o.code).res=decide (0<=o.res)) && decide (-1<=o.res) && ((zi o.code).a||decide (o.a=0)) && ((zi o.code).b||decide (o.b=0)) && ((zi o.code).n||decide (o.n=0)) && decide (o.args.length=0) &&
    (decide (o.code≠24) && decide (o.code≠25)||decide (1<=o.n) && decide (o.n<=255)))
def uM (blocks:List IBlk)(e:IEdge):Bool:=decide (1<=e.block) && decide (e.block<blocks.length) && decide (e.args.length=(xz blocks e.block).params.length)
def wn (blocks:List IBlk)(t:ITerm):Bool:=
 t.to.all (uM blocks) &&
  (if t.kind=1 then decide (t.to.length=1) && decide (t.a=0)
   else if t.kind=2 then decide (t.to.length=2)
   else if t.kind=3 then decide (1<=t.to.length)
   else if t.kind=4 then decide (t.to.length=0)
   else if t.kind=5 then decide (t.to.length=0) && decide (t.a=0)
   else false)
abbrev wO:=(Int->Option Int)×(Int->Option Int)
variable {d:wO}
def rB (d:wO)(v i k:Int):Option wO:=if(d.1 v).isSome∨v<0∨65535<v then none else some (lS d.1 v i,lS d.2 v k)
def vJ (i:Int):List Int->wO->Option wO
 | [],d=>some d
 |v::vs,d=>(rB d v i (-1)).bind (vJ i vs)
def sS (p:IProg)(i:Int):List IOp->Int->wO->Option wO
 | [],_,d=>some d
 |o::os,k,d=>if opF p o then(if 0<=o.res then(rB d o.res i k).bind (sS p i os (k+1)) else sS p i os (k+1) d) else none
def pS (p:IProg)(blocks:List IBlk)(i:Int)(b:IBlk)(d:wO):Option wO:=
 ((vJ i b.params d).bind (sS p i b.ops 0)).bind fun d'=>if wn blocks b.term then some d' else none
def uH (p:IProg)(blocks:List IBlk):List IBlk->Int->wO->Option wO
 | [],_,d=>some d
 |b::bs,i,d=>(pS p blocks i b d).bind (uH p blocks bs (i+1))
def wg (p:IProg)(blocks:List IBlk):Option wO:=uH p blocks blocks 0 (fun _=>none,fun _=>none)
theorem opF_ok {p:IProg}{o:IOp}(h:opF p o=true):OkOp p o:=by
 unfold opF at h;rw[Jm] at h;obtain⟨h1,h2⟩:=h;refine⟨?_,?_,?_⟩
 ·have:=rJ o.code;rcases this with⟨h,e⟩|⟨h,e⟩|⟨h,e⟩|⟨h,e⟩|⟨h,e⟩|⟨h,e⟩|⟨h,e⟩|⟨h,e⟩
  all_goals first|omega|(rw[e] at h1;exact absurd h1 Zd)
 ·intro h;rw[if_neg Zo,if_pos h] at h2;simp only[Jm,decide_eq_true_eq] at h2;omega
 ·intro h;rw[if_pos h] at h2;simp only[Jm,decide_eq_true_eq] at h2;omega
theorem acV{t:ITerm}(h:wn blocks t=true):bS blocks t:=by
 unfold wn at h;rw[Jm,Oe] at h;obtain⟨h1,h2⟩:=h
 have hk:t.kind=1/\t.to.length=1∨t.kind=2/\t.to.length=2∨t.kind=3/\1<=t.to.length∨t.kind=4∨t.kind=5:=by
  by_cases k1:t.kind=1
  ·rw[if_pos k1] at h2;simp only[Jm,decide_eq_true_eq] at h2;exact .inl ⟨k1,h2.1⟩
  by_cases k2:t.kind=2
  ·rw[if_neg k1,if_pos k2] at h2;simp only[decide_eq_true_eq] at h2;exact .inr (.inl ⟨k2,h2⟩)
  by_cases k3:t.kind=3
  ·rw[if_neg k1,if_neg k2,if_pos k3] at h2;simp only[decide_eq_true_eq] at h2;exact .inr (.inr (.inl ⟨k3,h2⟩))
  by_cases k4:t.kind=4
  ·exact .inr (.inr (.inr (.inl k4)))
  by_cases k5:t.kind=5
  ·exact .inr (Zi k5)
  rw[if_neg k1,if_neg k2,if_neg k3,if_neg k4,if_neg k5] at h2;cases h2
 refine⟨by omega,by omega,by omega,by omega,fun e he=>?_⟩;have:=h1 e he;unfold uM at this;simp only[Jm,decide_eq_true_eq] at this;omega
structure ChkAt (w:World) (C m1 m2:Nat) (pv:List Value) (blv idv:Value) (n:Nat) (d:wO):Prop where
 blk:w.heap[C]? =some (.cells (pv++ [blv,.map (some m1),.map (some m2),idv]).toArray 128 (0,0))
 plen:pv.length=6
 map1:wA w m1 n d.1
 map2:wA w m2 n d.2
 ne:m1≠m2
 dom:∀x,(d.1 x).isSome=(d.2 x).isSome
structure Kept (m1 m2:Nat) (w w':World):Prop where
 os:w'.os=w.os
 tape:w'.tape=w.tape
 output:w'.output=w.output
 size:w.heap.size<=w'.heap.size
 block:∀k,k<w.heap.size->k≠m1->k≠m2->w'.heap[k]? =w.heap[k]?
theorem Kept.refl (m1 m2:Nat)(w:World):Kept m1 m2 w w:=⟨rfl,rfl,rfl,Je _,fun _ _ _ _=>rfl⟩
theorem Kept.trans{a b c:World}(h:Kept m1 m2 a b)(k:Kept m1 m2 b c):Kept m1 m2 a c:=
 ⟨k.os.trans h.os,k.tape.trans h.tape,k.output.trans h.output,Jn h.size k.size,fun i hi x1 x2=>(k.block i (Jy hi h.size) x1 x2).trans (h.block i hi x1 x2)⟩
theorem Kept.of(h:L w w'):Kept m1 m2 w w':=⟨h.os,h.tape,h.output,h.size,fun i hi _ _=>h.block i hi⟩
theorem Kept.below{B:Nat}(h:Kept m1 m2 w w')(h1:B<=m1)(h2:B<=m2)(hB:B<=w.heap.size):Below B w w':=
 ⟨h.os,h.tape,h.output,h.size,fun i hi=>h.block i Zo Zo Zo⟩
theorem Kept.blk{b:Nat}(h:Kept m1 m2 w w')(hb:w.heap[b]? =some o)(h1:b≠m1)(h2:b≠m2):w'.heap[b]? =some o:=(h.block b (lt_of_block hb) h1 h2).trans hb
theorem wA.lt{b n:Nat}(h:wA w b n g):b<w.heap.size:=by
 obtain⟨es,ck,hb⟩:=h.blk;exact lt_of_block hb
theorem ChkAt.below{pv:List Value}{g:Value}{n:Nat}(h:ChkAt w C m1 m2 pv g c n d)(hb:L w w'):ChkAt w' C m1 m2 pv g c n d:=
 ⟨zH hb h.blk (lt_of_block h.blk),h.plen,h.map1.same (hb.block m1 h.map1.lt),h.map2.same (hb.block m2 h.map2.lt),h.ne,h.dom⟩
theorem ChkAt.ne1{pv:List Value}{g:Value}{n:Nat}(h:ChkAt w C m1 m2 pv g c n d):C≠m1/\C≠m2:=by
 obtain⟨j,l,h1⟩:=h.map1.blk;obtain⟨i,k,h2⟩:=h.map2.blk;have:=h.blk;exact⟨fun e=>(by rw[e,h1] at this;cases this),fun e=>(by rw[e,h2] at this;cases this)⟩
theorem oK{n:Nat}{pv:List Value}{r l:Value}(h:ChkAt w C m1 m2 pv r l n d)(v i k:Int)(hv:I64 v)(hi:I64 i)(hk:I64 k)(g:rB d v i k=none):
 G 97 #[I C,O v,O i,O k] w fun e w'=>e=.returned (.bool false)/\w'=w:=by
 obtain⟨hb,hl,m,u,t,y⟩:=h
 obtain⟨p0,p1,p2,p3,p4,p5,rfl⟩:∃a b c d e f,pv=[a,b,c,d,e,f]:=by
  match pv,hl with
  | [a,b,c,d,e,f],_=>exact⟨a,b,c,d,e,f,rfl⟩
 have o:=m.lookOk hv;have x:T w C 7 (.map (some m1)):=zA hb rfl;obtain⟨q0,q⟩:∃b,(d.1 v).isSome=b:=⟨_,rfl⟩
 obtain⟨q1,h1⟩:∃b,decide (v<0)=b:=⟨_,rfl⟩
 obtain⟨q2,h2⟩:∃b,decide (65535<v)=b:=⟨_,rfl⟩
 rw[q] at o
 have hq:(q0||q1||q2)=true:=by
  unfold rB at g;rw[q] at g
  split at g
  ·rename_i j
   rcases j with j|j|j
   ·rw[j];rfl
   ·rw[<-h1,decide_eq_true j];simp
   ·rw[<-h2,decide_eq_true j];simp
  ·cases g
 clear g hb;cases q0<;>cases q1<;>cases q2
 all_goals first|(cases hq;done)|skip
 all_goals go_enter Try.func97,Try.ntmps97
 all_goals go_wp2
 all_goals go_ret
 all_goals exact⟨rfl,rfl⟩
def rR (o:IOp):List Int:=(if(zi o.code).a then [o.a] else [])++(if(zi o.code).b then [o.b] else [])++o.args
def ut (t:ITerm):Bool:=decide (t.kind=2)||(decide (t.kind=3)||decide (t.kind=4) && decide (t.a≠-1))
def mE (t:ITerm):List Int:=(if ut t then [t.a] else [])++(t.to.map (·.args)).flatten
def zy (blocks:List IBlk):List (List Nat):=blocks.map fun b=>b.term.to.map fun e=>e.block.toNat
def yy (d:wO)(g:List (List Nat))(i k:Int)(v:Int):Bool:=
 match d.1 v,d.2 v with
 |some b,some a=>!(decide (b=i) && decide (k<=a)) && wE g b.toNat i.toNat
 |_,_=>false
def xF (d:wO)(g:List (List Nat))(i:Int):List IOp->Int->Bool
 | [],_=>true
 |o::os,k=>(rR o).all (yy d g i k) && xF d g i os (k+1)
def aaC (d:wO)(g:List (List Nat))(b:IBlk)(i:Int):Bool:=xF d g i b.ops 0 && (mE b.term).all (yy d g i b.ops.length)
def tO (d:wO)(g:List (List Nat)):List IBlk->Int->Bool
 | [],_=>true
 |b::bs,i=>aaC d g b i && tO d g bs (i+1)
def iM (blocks:List IBlk)(d:wO):Bool:=decide ((vD (zy blocks)).length=blocks.length) && tO d (zy blocks) blocks 0
def yi (p:IProg)(n:Nat):Bool:=
 match p.funcs.getD n [] with
 | []=>true
 |b::bs=>decide ((b.params.length:Int)=p.args.getD n 0) && ((wg p (b::bs)).map (iM (b::bs))).getD false
def vC (p:IProg):Int:=if sR p≠0 then sR p else if(List.range p.funcs.length).all (yi p) then 0 else 51
theorem uX:∀(l m:List Int) (d:wO),vJ i (l++m) d=(vJ i l d).bind (vJ i m)
 | [],m,d=>rfl
 |v::l,m,d=>by
  show(rB d v i (-1)).bind (vJ i (l++m))=((rB d v i (-1)).bind (vJ i l)).bind (vJ i m)
  cases rB d v i (-1) with
  |none=>rfl
  |some d'=>exact uX l m d'
theorem nF{p:IProg}{b:IBlk}{d':wO}(h:pS p blocks i b d=some d'):wn blocks b.term=true/\∃d1,vJ i b.params d=some d1/\sS p i b.ops 0 d1=some d':=by
 unfold pS at h
 cases h1:vJ i b.params d with
 |none=>rw[h1] at h;cases h
 |some d1=>
  rw[h1,Nw] at h
  cases h2:sS p i b.ops 0 d1 with
  |none=>rw[h2] at h;cases h
  |some d2=>
   rw[h2,Nw] at h
   split at h
   ·cases h;exact⟨‹_›,d1,rfl,h2⟩
   ·cases h
theorem nk{p:IProg}:∀(os:List IOp) (k:Int) (d d':wO),sS p i os k d=some d'->∀o∈os,opF p o=true
 | [],_,_,_,_,o,ho=>by cases ho
 |x::os,k,d,d',h,o,ho=>by
  unfold sS at h
  split at h
  ·rename_i hx
   rcases Jq.1 ho with rfl|ho
   ·exact hx
   ·split at h
    ·cases h1:rB d x.res i k with
     |none=>rw[h1] at h;cases h
     |some d1=>rw[h1,Nw] at h;exact nk os _ _ _ h o ho
    ·exact nk os _ _ _ h o ho
  ·cases h
theorem rV{p:IProg}:∀(bs:List IBlk) (i:Int) (d d':wO),uH p blocks bs i d=some d'->∀b∈bs,(∀o∈b.ops,opF p o=true)/\wn blocks b.term=true
 | [],_,_,_,_,b,hb=>by cases hb
 |x::bs,i,d,d',h,b,hb=>by
  unfold uH at h
  cases h1:pS p blocks i x d with
  |none=>rw[h1] at h;cases h
  |some d1=>
   rw[h1,Nw] at h;rcases Jq.1 hb with rfl|hb
   ·obtain⟨h2,d2,_,h3⟩:=nF h1;exact⟨nk _ _ _ _ h3,h2⟩
   ·exact rV bs _ _ _ h b hb
theorem tF {p:IProg}{n:Nat}{b:IBlk}{bs:List IBlk}(hf:p.funcs[n]? =some (b::bs))(h:yi p n=true):
 (b.params.length:Int)=p.args.getD n 0/\∃d,wg p (b::bs)=some d/\iM (b::bs) d=true:=by
 unfold yi at h;rw[Jj,hf,Ot] at h;simp only[Jm,decide_eq_true_eq] at h;obtain⟨h1,h2⟩:=h;refine⟨h1,?_⟩
 cases h3:wg p (b::bs) with
 |none=>rw[h3] at h2;cases h2
 |some d=>rw[h3] at h2;exact⟨d,rfl,h2⟩
theorem se {p:IProg}(h:sR p=0):(p.funcs.length<=2000/\p.data.length<=512/\p.banks.length<=64)/\p.args.length=p.funcs.length/\p.args.all tX=true/\yw p p.entry=true/\(p.handler≠-1->yw p p.handler=true)/\wB p=true:=by
 unfold sR at h
 split at h
 ·omega
 split at h
 ·omega
 split at h
 ·omega
 split at h
 ·omega
 split at h
 ·omega
 rename_i h1 h2 h3 c g
 refine⟨by omega,by simpa using h2,by simpa using h3,?_,?_,by simpa using g⟩
 ·simpa using fun e=>c (.inl e)
 ·intro d
  simpa using fun e=>c (.inr ⟨d,e⟩)
theorem rz {p:IProg}(h:vC p=0):sR p=0/\∀n,n<p.funcs.length->yi p n=true:=by
 unfold vC at h
 split at h
 ·rename_i h1;exact absurd h h1
 ·rename_i h1
  refine⟨by omega,?_⟩
  split at h
  ·rename_i h2
   intro n c;exact Oe.1 h2 n (Ol.2 c)
  ·omega
theorem jM {p:IProg}(h:vC p=0)(m:∀blocks∈p.funcs,∀b∈blocks,b.params.length<=65536):OkProg p:=by
 obtain⟨h0,l⟩:=rz h;obtain⟨_,t,k,_,w,j⟩:=se h0
 have q:∀i,0<=p.args.getD i 0/\p.args.getD i 0<=8:=by
  intro i;rw[Jj]
  cases u:p.args[i]? with
  |none=>simp
  |some x=>
   have:=Oe.1 k x (Ji u);unfold tX at this;simp only[Jm,decide_eq_true_eq] at this;exact this
 refine⟨fun blocks hb b hbb=>?_,fun i b bs hi=>?_,fun g=>?_,?_,fun i=>?_,t⟩
 ·obtain⟨n,g⟩:=Ny hb;have r:=(Jh.1 g).1;have y:=l n r
  match blocks,hbb,g with
  |b0::bs,hbb,g=>
   obtain⟨_,d,hs,_⟩:=tF g y;obtain⟨k1,k2⟩:=rV _ _ _ _ hs b hbb;exact⟨fun o ho=>opF_ok (k1 o ho),acV k2,m _ hb b hbb⟩
 ·exact(tF hi (l i (Jh.1 hi).1)).1
 ·have:=w g;unfold yw at this;simp only[Jm,decide_eq_true_eq,beq_iff_eq] at this;obtain⟨a,b,c⟩:=this;exact⟨a,by omega,c⟩
 ·intro s hs;unfold wB at j;rw[Jm] at j;have:=j.1;unfold mh at this
  simpa using Oe.1 this s hs
 ·have:=q i;omega
theorem zM {fn:Func}{p:Tmp}{ty:TypeId}(h:fn.results=#[.cell p ty])(c:Array Value)(P:Program)(w:World):
 (results fn c).run P w=((asAddr (c.getD p undef)).run P w).andThen fun a w₁=>(loadVar ty a).run P w₁:=by
 simp only[results,h];simp[Sem.run_bind,Result.andThen]
structure GMem (V w:World) (bp bh n m:Nat) (R:List (List Int)):Prop where
 hg:w.heap[bh]? =some (.cells #[.slice (some ⟨bp,0,none⟩) n n] 93 (0,0))
 hr:OwnRows zN 3 22 w V.heap.size bp R
 hl:R.length=n
 hrl:∀row∈R,row.length<=m
 hb:Below V.heap.size V w
 gp:V.heap.size<=bp
 gh:V.heap.size<=bh
theorem GMem.start (V:World)(n m:Nat):GMem V ((V.alloc (A (madeCells #[F] n) 22)).alloc (A #[Q V.heap.size n n] 93)) V.heap.size (V.heap.size+1) n m (List.replicate n []):=by
 refine⟨zI Zs,OwnRows.made n ?_,by simp,(by intro r hr;rw[(List.mem_replicate.1 hr).2];simp),((Below.refl _ V).alloc (Je _) _).alloc Zs _,Je _,by omega⟩;rw[zB (zI rfl),yA]
theorem GMem.start' (V:World)(b:Nat)(hb:V.heap.size=b)(n m:Nat):GMem V ((V.alloc (A (madeCells #[F] n) 22)).alloc (A #[Q b n n] 93)) b (b+1) n m (List.replicate n []):=by
 subst hb;exact GMem.start V n m
theorem GMem.alloc{V:World}{n:Nat}(h:GMem V w bp bh n m R)(o:Obj):GMem V (w.alloc o) bp bh n m R:=
 ⟨zB h.hg,h.hr.kept (row:=none) ⟨rfl,rfl,rfl,by simp,fun k hk _=>Below.heap_alloc w o k hk⟩ Zs Zs,h.hl,h.hrl,h.hb.alloc h.hb.size o,h.gp,h.gh⟩
theorem GMem.put{V w2:World}{n s g c H d:Nat}{row row':List Int}{a:Option Addr}(h:GMem V w bp bh n m R)(hs:R[s]? =some row)
 (y:T w bp s (.slice a row.length d)) (hg:(w.alloc o).grownBy w2 (Value.slice a row.length d).ownBlock)
 (t:w2.ownsRow V.heap.size 3 1 (Q g row'.length c) row'.length (row'.map zN)) (a0:(Value.slice a row.length d).ownBlock=some g∨g=H) (hH:w.heap.size<=H) (hm:row'.length<=m):
 GMem V (w2.setCell ⟨bp,s,none⟩ (Q g row'.length c)) bp bh n m (R.set s row'):=by
 obtain⟨h1,h2,h3,a1,u,h5,h6⟩:=h;obtain⟨a',a2,l,i,_⟩:=h2.get hs;rw[y] at l;cases l;have n1:=zC i h1 (.inr Zd);have q:=h2.put Zd hs y hg (row':=row') t a0 hH;have l1:=lt_of_block h1;obtain⟨cc,j⟩:=h2.blk;have x:bh≠bp:=fun e=>by subst e;rw[h1] at j;simp at j
 exact⟨zR (zL hg (zB h1) n1) (by simpa using x),q,by simpa using h3,fun r hr=>by(rcases Qe hr with hr|rfl;exact a1 r hr;exact hm),((u.alloc (by have:=u.size;omega) o).grown hg (by have:=u.size;simp;omega) (fun k hk=>(i.lt k hk).1)).setCell h5 _,h5,h6⟩
section
variable {α:Type} {enc:α->Value} {e eS:TypeId} {w:World} {B bp:Nat} {rows:List (List α)}
theorem OwnRows.base (h:OwnRows enc e eS w B bp rows){B':Nat}(hB:B'<=B):OwnRows enc e eS w B' bp rows:=by
 obtain⟨vs,h1,h2,h3,c⟩:=h;exact⟨vs,h1,h2,fun k r v a b=>vY (h3 k r v a b) hB,c⟩
theorem OwnRows.below(h:OwnRows enc e eS w B bp rows)(hb:L w w'):OwnRows enc e eS w' B bp rows:=by
 obtain⟨vs,h1,h2,h3,c⟩:=h;exact⟨vs,zH hb h1 (lt_of_block h1),h2,fun k r v a b=>p7 (h3 k r v a b) hb (Je _),c⟩
theorem OwnRows.set (h:OwnRows enc e eS w B bp rows){a:Addr}(c:a.block≠bp)(d:a.block<B)(u:Value):OwnRows enc e eS (w.setCell a u) B bp rows:=
 h.kept (w':=w.setCell a u) (row:=some a.block) ⟨rfl,rfl,rfl,by simp[World.setCell],fun k _ hk=>Below.heap_setCell _ _ _ _ (fun e=>hk (by rw[e]))⟩ (fun e=>c (by cases e;rfl)) (fun k hk=>by cases hk;exact d)
end
def wN (N m:Nat)(z:Value):List Value:=List.replicate m z++List.replicate (N-m) (O 0)
theorem nY (N:Nat)(z:Value):wN N 0 z=List.replicate N (O 0):=by simp[wN]
theorem mI (N:Nat)(z:Value):wN N N z=List.replicate N z:=by simp[wN]
theorem kK{N j:Nat}(z:Value)(h:j<m):(wN N m z)[j]? =some z:=by
 unfold wN;rw[Np (by simpa using h)];simp[h]
theorem sL{N:Nat}(z:Value)(h:m+k<=N):splice (wN N m z) m (List.replicate k z)=wN N (m+k) z:=by
 unfold splice wN
 have e1:List.take m (List.replicate m z++List.replicate (N-m) (O 0))=List.replicate m z:=by
  rw[List.take_append_of_le_length Zs,Oy Zs]
 have e2:List.drop (m+(List.replicate k z).length) (List.replicate m z++List.replicate (N-m) (O 0))=List.replicate (N-(m+k)) (O 0):=by
  rw[List.drop_append,List.drop_eq_nil_of_le Zs,Op,List.drop_replicate]
  congr 1;simp;omega
 rw[e1,e2,<-Nv,List.replicate_append_replicate]
theorem qW{N:Nat}(z:Value)(h:k<=N):splice (List.replicate N (O 0)) 0 (List.replicate k z)=wN N k z:=by
 have:=sL (m:=0) z (by omega:0+k<=N);rw[nY] at this
 simpa using this
theorem lr (w:World)(s o a1 N:Nat)(hc:T w s o (O (-1)))(h1:1<=N)(hN:N<=4000000):
 G 120 #[.slice (some ⟨s,o,none⟩) 1 a1,O N] w fun e w'=>e=.returned (.slice (some ⟨w.heap.size,0,none⟩) N N)/\Y w' w.heap.size (List.replicate N (O (-1))).toArray 3/\L w w':=by
 obtain⟨ii,a5,a9,a2,a7⟩:=info_parts Try.info_int;have a3:=run_make_row' (P:=Try.prog) 22 3 (O 0) 8 Try.underlying22 Try.info_int rfl .i64 .i64 N Zo Zo;go_enter Try.func120,Try.ntmps120
 have t:G 128 #[.int .u64 1,.int .u64 (N:Int)] w fun e w'=>e=.returned (.tuple #[.int .u64 0,.int .u64 (N:Int)])/\w'=w:=by
  refine(Try.bits_Mul 1 N Zo Zo w).mono ?_;rintro e w1 ⟨rfl,rfl⟩;refine⟨?_,rfl⟩;rw[show 1*N/18446744073709551616=0 by omega,show 1*N%18446744073709551616=N by omega];rfl
 have hs:=jU hc;have b4:(N:Int)<=9223372036854775807:=Zo;have b3:¬(N:Int)<0:=Zo;have u: [O (-1)].length=Nat.min 1 N:=(Ud h1).symm;have l:Y (w.alloc (.cells (madeCells #[O 0] N) 3)) w.heap.size (List.replicate N (O 0)).toArray 3:=by rw[zI rfl,yA]
 have k:∀(j:Nat) (v:Value),[O (-1)][j]? =some v->(w.alloc (.cells (madeCells #[O 0] N) 3)).cell? ((⟨s,o,none⟩:Addr).add j)=some v:=by
  intro j v g
  cases j with
  |zero=>simp at g;subst g;exact(Ok _ _ _ hs).trans hc
  |succ j=>simp at g
 have q:L w (w.alloc (.cells (madeCells #[O 0] N) 3)):=(Below.refl _ _).alloc (Je _) _;have r:(Try.prog.info? 3).map (·.size)=some 1:=by rw[a5];simp[a2]
 go_wp2_with (first|(go_at_call 128;refine t.mono ?_;rintro e w1 ⟨rfl,rfl⟩)|(with_reducible refine wpList_copy_splice rfl (.tmp 31) (.tmp 32) 22 22 rfl 3 Try.underlying22 r (some ⟨w1.heap.size,0,none⟩) (some ⟨s,o,none⟩) N N 1 a1 rfl rfl w1.heap.size 0 (List.replicate N (O 0)) 3 l [O (-1)] u (fun _=>⟨rfl,_,rfl,k⟩) Zt (by simp[Value.oneCell']) w1.heap.size w1 q (Je _) ?_;intro w2 c a6))
 have a0:Hid (Y w2 w1.heap.size (wN N 1 (O (-1))).toArray 3):=by
  have:=c.out;rw[show([O (-1)]:List Value)=List.replicate 1 (O (-1)) from rfl,qW _ h1] at this;exact Ja this
 clear t c q k l u a3
 go_loopw [8] (fun i wr=>∃m:Nat,i=O m/\1<=m/\(m:Int)<=N/\Hid (Y wr w1.heap.size (wN N m (O (-1))).toArray 3)/\L w1 wr) (fun i _=>N-(intOf i).toNat)
 case atStart=>exact⟨1,rfl,by omega,by omega,a0,a6⟩
 case round=>
  obtain⟨m,rfl,u,b1,c,x⟩:=hrel
  by_cases b2:(m:Int)<N
  ·have e1:(m:Int)<=N:=Zo;have e2:(0:Int)<=m:=Zo;go_wp2
   obtain⟨w3,b0,y,d⟩:∃w3:World,(Sem.run Try.prog (Builtin.copy_ #[22,22] 3 #[.slice (some ⟨w1.heap.size,m,none⟩) (N-m) (N-m),.slice (some ⟨w1.heap.size,0,none⟩) m N]) wr.drew=.ok (O ((min m (N-m):Nat):Int)) w3.drew)/\Hid (Y w3 w1.heap.size (wN N (m+min m (N-m)) (O (-1))).toArray 3)/\L w1 w3:=by
    refine⟨wr.setRow w1.heap.size (splice (wN N m (O (-1))) m (List.replicate (min m (N-m)) (O (-1)))).toArray,?_,?_,py x (Je _) _⟩
    ·have:=run_copy_row (P:=Try.prog) wr.drew 22 22 3 3 w1.heap.size m (N-m) (N-m) ⟨w1.heap.size,0,none⟩ m N (wN N m (O (-1))).toArray 3 (List.replicate (min m (N-m)) (O (-1))) Try.underlying22 r c.out
      (by rw[Qr]) (fun j v g=>by
       have a4:j<min m (N-m):=by
        have:=(Jh.1 g).1;simpa using this
       rw[Nm,if_pos a4] at g;cases g;have ea:(⟨w1.heap.size,0,none⟩:Addr).add j=⟨w1.heap.size,j,none⟩:=by by_cases h:j=0<;>simp[Addr.add,h]
       rw[ea];refine zA (w:=wr.drew) (b:=w1.heap.size) (cs:=(wN N m (O (-1))).toArray) c.out ?_;simp only[List.getElem?_toArray]
       exact kK _ Zo) (by simp[wN];omega) (by intro v hv;rw[List.eq_of_mem_replicate hv];rfl)
     rw[Qr] at this;refine(this.trans ?_);unfold splice;simp only[Nv,Qr];rfl
    ·have:=setRow_heap wr w1.heap.size _ (splice (wN N m (O (-1))) m (List.replicate (min m (N-m)) (O (-1)))).toArray _ _ c.out;rw[sL _ Zo] at this ⊢;exact Ja this
   clear c x;go_wp2
   go_region
   go_wp2;go_roundw
   case rel=>exact⟨m+min m (N-m),by rw[Int.natCast_add],by omega,by omega,y,⟨d.os,d.tape,d.output,d.size,d.block⟩⟩
   case measure=>simp[intOf];omega
  ·go_wp2;go_ret;have:m=N:=Zo;subst this;refine⟨rfl,?_,x⟩;have:=c.out;rw[mI] at this
   simpa using this
structure ME where
 s:List Int
 args:List Int
 handler:Int
 me:Nat
 nf:Nat
structure MS where
 pos:Nat
 f:List IBlk
 cur:Nat
 next:Nat
 vals:List Int
 left:Int
def tkV (E:ME)(M:MS)(n:Nat):Nat:=(E.s.getD M.pos 0%(n:Int)).toNat
def MS.tick (M:MS):MS:= {M with pos:=M.pos+1 }
def wJ (next params:Nat):IBlk:=⟨(List.range params).map fun k=>((next+k:Nat):Int),[],⟨0,0,[]⟩⟩
def MS.block (M:MS)(params:Nat):MS:= {M with f:=M.f++ [wJ M.next params],next:=M.next+params }
def sx (c:Int):Bool:=(zi c).res||decide (c=26)
def wD {α:Type}(l:List α)(i:Nat)(g:α->α):List α:=match l[i]? with|some x=>l.set i (g x)|none=>l
def eg (M:MS)(o:IOp):IOp:= {o with res:=if sx o.code then(M.next:Int) else -1 }
def MS.emit (M:MS)(o:IOp):MS:=
 {M with f:=wD M.f M.cur fun b=> {b with ops:=b.ops++ [eg M o]},next:=if sx o.code then M.next+1 else M.next,vals:=if sx o.code then M.vals++ [(M.next:Int)] else M.vals }
def MS.endB (M:MS)(t:ITerm):MS:= {M with f:=wD M.f M.cur fun b=> {b with term:=t }}
def conOp (n:Nat):IOp:=⟨1,0,0,0,n,[]⟩
def MS.num (M:MS)(n:Nat):MS:=M.emit (conOp n)
def zJ (E:ME)(M:MS):Int×MS:=
 if M.vals.length=0 then((M.next:Int),M.tick.num (tkV E M 9))
 else if 0<tkV E M.tick 3 then(M.vals.getD (M.vals.length-1-tkV E M.tick.tick (min 4 M.vals.length)) 0,M.tick.tick.tick)
 else(M.vals.getD (tkV E M M.vals.length) 0,M.tick.tick)
def sE (k:Nat):Nat:=if k=0 then 15 else 6
def yJ (E:ME)(M:MS):Int×MS:=
 if tkV E M 24=23 then zJ E M.tick
 else((M.next:Int),M.tick.tick.tick.emit ⟨2,0,(tkV E M.tick 2:Nat),0,tkV E M.tick.tick (sE (tkV E M.tick 2)),[]⟩)
def yI (E:ME):Nat->MS->List Int×MS
 |0,M=>([],M)
 |n+1,M=>((yI E n M).1++ [(zJ E (yI E n M).2).1],(zJ E (yI E n M).2).2)
def vN (E:ME)(M:MS):MS:=
 if E.nf<=E.me+1 then M
 else
  let f:=E.me+1+tkV E M (E.nf-E.me-1)
  if(f:Int)=E.handler then M.tick
  else(yI E (E.args.getD f 0).toNat M.tick).2.emit ⟨26,0,(f:Nat),0,0,(yI E (E.args.getD f 0).toNat M.tick).1⟩
def yR (E:ME)(M:MS):MS:=
 let a:=zJ E M
 let b:=zJ E a.2
 let c:Nat:=5+tkV E b.2 13
 let M3:=b.2.tick
 if c=8 then
  (if 0<tkV E M3 8 then
    ((M3.tick.num 1).emit ⟨10,0,b.1,(M3.next:Nat),0,[]⟩).emit ⟨8,0,a.1,((M3.next+1:Nat):Int),0,[]⟩
  else M3.tick.emit ⟨8,0,a.1,b.1,0,[]⟩)
 else M3.emit ⟨(c:Nat),0,a.1,b.1,0,[]⟩
def xK (E:ME)(M0:MS):MS:=
 let k:=tkV E M0 14
 let M:=M0.tick
 if k=0 then M.tick.num (tkV E M 65536)
 else if k=1 then(zJ E M.tick).2.emit ⟨3+tkV E M 2,0,(zJ E M.tick).1,0,0,[]⟩
 else if k=2∨k=3 then(yJ E M).2.tick.emit ⟨18+tkV E (yJ E M).2 2,0,(yJ E M).1,0,0,[]⟩
 else if k=4∨k=5 then
  let b:=zJ E (yJ E M).2
  b.2.tick.emit ⟨20+tkV E b.2 2,0,(yJ E M).1,b.1,0,[]⟩
 else if k=6 then M.tick.emit ⟨24,0,0,0,1+tkV E M 3,[]⟩
 else if k=7 then(zJ E M).2.tick.emit ⟨25,0,(zJ E M).1,0,1+tkV E (zJ E M).2 3,[]⟩
 else if k=8 then(M.tick.num (tkV E M 4096)).tick.emit ⟨22+tkV E (M.tick.num (tkV E M 4096)) 2,0,(M.next:Nat),0,0,[]⟩
 else if k=9 then vN E M
 else if k=10 then(if tkV E M 3=0 then M.tick.emit ⟨27,0,0,0,0,[]⟩ else M.tick)
 else yR E M
def qY (E:ME):Nat->MS->MS
 |0,M=>M
 |n+1,M=>qY E n (xK E M)
def xE:Nat->MS->MS
 |0,M=>M
 |n+1,M=>(xE n M).block 0
def uV (E:ME)(part:MS->MS)(tg:Nat)(join keep:Nat):Nat->Nat->MS->MS
 |0,_,M=>M
 |n+1,k,M0=>
  let M1:=part {M0 with cur:=tg+k }
  let v:=zJ E M1.tick
  let M3:=if tkV E M1 12=11/\0<k then v.2.endB ⟨4,v.1,[]⟩ else v.2.endB ⟨1,0,[⟨(join:Nat),[v.1]⟩]⟩
  uV E part tg join keep n (k+1) {M3 with vals:=M3.vals.take keep }
def xk (tg n:Nat):List IEdge:=(List.range n).map fun k=>⟨((tg+k:Nat):Int),[]⟩
def xi (E:ME)(part:MS->MS)(n:Nat)(M:MS):MS:=
 let c:=zJ E M
 let tg:=c.2.f.length
 let M2:=(xE n c.2).block 1
 let join:=tg+n
 let M3:=M2.endB ⟨if 2<n then 3 else 2,c.1,xk tg n⟩
 let M4:=uV E part tg join M3.vals.length n 0 M3
 {M4 with cur:=join,vals:=M4.vals++ [(((M4.f.getD join ⟨[],[],⟨0,0,[]⟩⟩).params).getD 0 0)]}
def tH (E:ME)(part:MS->MS)(M:MS):MS:=
 let n:=(M.next:Int)
 let x:=zJ E (M.tick.num (tkV E M 5))
 let head:=x.2.f.length
 let i:Int:=(x.2.next:Nat)
 let j:Int:=((x.2.next+1:Nat):Int)
 let M2:=(((x.2.block 2).block 0).block 0).endB ⟨1,0,[⟨(head:Nat),[n,x.1]⟩]⟩
 let M3:=({M2 with cur:=head,vals:=M2.vals++ [j]}:MS).endB ⟨2,i,[⟨((head+1:Nat):Int),[]⟩,⟨((head+2:Nat):Int),[]⟩]⟩
 let M4:=part {M3 with cur:=head+1 }
 let M5:=(M4.num 1).emit ⟨6,0,i,(M4.next:Nat),0,[]⟩
 let y:=zJ E M5
 let M6:=y.2.endB ⟨1,0,[⟨(head:Nat),[((M4.next+1:Nat):Int),y.1]⟩]⟩
 {M6 with vals:=M6.vals.take M3.vals.length,cur:=head+2 }
def tR (E:ME)(M:MS):MS:=
 let M1:=qY E (tkV E M 5+1) M.tick
 {M1 with left:=M1.left-1 }
def zp (E:ME):Nat->MS->MS
 |0,M=>tR E M
 |d+1,M=>
  let M2:=tR E M
  if M2.left<1 then M2
  else
   let k:=tkV E M2 5
   if k=1∨k=2 then xi E (zp E d) 2 M2.tick
   else if k=3 then tH E (zp E d) M2.tick
   else if k=4 then xi E (zp E d) (2+tkV E M2.tick 3) M2.tick.tick
   else M2.tick
def xD (E:ME)(pos:Nat):MS:=
 let M0:MS:=⟨pos,[],0,0,[],6⟩
 let M1:MS:=({M0.tick with next:=tkV E M0 3*10 }:MS).block (E.args.getD E.me 0).toNat
 {M1 with vals:=(wJ (tkV E M0 3*10) (E.args.getD E.me 0).toNat).params }
def xR (E:ME)(pos:Nat):MS:=
 let M1:=zp E 1 (zp E 2 (xD E pos))
 let k:=tkV E M1 10
 if k=0 then M1.tick.endB ⟨5,0,[]⟩
 else if k=1 then M1.tick.endB ⟨4,-1,[]⟩
 else(zJ E M1.tick).2.endB ⟨4,(zJ E M1.tick).1,[]⟩
def tk0 (s:List Int)(pos n:Nat):Nat:=(s.getD pos 0%(n:Int)).toNat
def mdN (s:List Int):Nat:=1+tk0 s 0 4
def yS (s:List Int):Nat->List Int
 |0=> []
 |n+1=>yS s n++ [if n=0 then 0 else((tk0 s n 4:Nat):Int)]
def oJ (s:List Int):Bool:=decide (1<mdN s) && decide ((yS s (mdN s)).getD (mdN s-1) 0=0)
def vw (s:List Int):Int:=if oJ s=true/\tk0 s (mdN s) 2=0 then((mdN s-1:Nat):Int) else -1
def sP (s:List Int):Nat:=if oJ s then mdN s+1 else mdN s
def xC (s:List Int)(k:Nat):ME:=⟨s,yS s (mdN s),vw s,k,mdN s⟩
def zg (s:List Int):Nat->List (List IBlk)×Nat
 |0=>([],sP s)
 |n+1=>((zg s n).1++ [(xR (xC s n) (zg s n).2).f],(xR (xC s n) (zg s n).2).pos)
def qV (s:List Int):Bool:=decide (2<mdN s) && (decide (vw s<0) && decide (tk0 s (zg s (mdN s)).2 12=11))
def sG:ByteArray:=⟨((List.range 4096).map fun k=>UInt8.ofNat (k*k+k/256)).toArray⟩
def am:List IObj:=[⟨-1,16384,16⟩,⟨-1,16640,7⟩,⟨0,128,32⟩]
def uR (s:List Int):IProg:=
 ⟨if qV s then(zg s (mdN s)).1.set (mdN s-1) [] else(zg s (mdN s)).1,yS s (mdN s),0,vw s,am,[sG]⟩
theorem Try.info_irop:(Try.prog.info? 77).map (fun i=>(i.zero,i.size,i.bytes))=some (some (.agg #[O 0,O 0,O 0,O 0,U 0,.slice none 0 0]),6,64):=by kernel_rfl
theorem Try.info_irfunc:(Try.prog.info? 43).map (fun i=>(i.zero,i.size,i.bytes))=some (some (.agg #[.slice none 0 0]),1,24):=by kernel_rfl
theorem yD{base:Nat}{e:TypeId}{size n:Nat}{v:Value}(h:w.ownsRow base e size v n xs)(hk:∀k,v.ownBlock=some k->w'.heap[k]? =w.heap[k]?):w'.ownsRow base e size v n xs:=by
 refine⟨h.1,?_⟩;rcases h.2 with h2|⟨g,c,cur,rfl,hg,d,r⟩
 ·exact .inl h2
 ·exact .inr ⟨g,c,cur,rfl,hg,(hk g rfl).trans d,r⟩
theorem yM.cells{b n:Nat}{e:TypeId}(h:Y w b xs.toArray e)(d:xs.length=n)(c:∀u∈xs,u.oneCell'=true):yM w n (Q b 1 1) 1 xs:=
 ⟨_,_,rfl,by omega,c,.inr ⟨_,rfl,Oi (cs:=xs.toArray) h⟩⟩
theorem mG (l:List Nat):(y9 l).size=l.length:=by
 unfold y9 strOfNums
 show Array.size _=_
 simp
def dq (w:World)(x:Int)(e:Ending)(w':World):Prop:=e=.returned (O x)/\L w w'
theorem ev_len{B:Nat}{o:Option Addr}{c:Nat}(h:vM w B (.slice o l.length c) l):l.length<=9223372036854775807:=by
 obtain⟨_,_,_,h1,h2⟩:=h.form;omega
end Go.Proofs.Ytojclalkfhoooaa
