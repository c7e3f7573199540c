/- Part of a proof. -/
import Derived.Test.YtoahcpkibpomcaaGZPb
set_option linter.all false
set_option maxHeartbeats 16000000
set_option maxRecDepth 100000
namespace Go.Proofs.Ytoahcpkibpomcaa
open Go.RowKit Go.Lib
variable {w w':World}{c:Int}{d:Array Bool}{o:IOp}{ov:Value}{f i j k:Nat}{oi:Oper}{rs:List Nat}
theorem Try.info_u8:(Try.prog.info? 5).map (fun i=>(i.zero,i.size,i.bytes))=some (some (.int .u8 0),1,1):=by kernel_rfl
theorem tQ {P:Program}(w:World)(dT sT ty c:TypeId)(g dLen k:Nat)(s:ByteArray)(d:Array Value)(t:TypeId)
 (o:P.underlying dT=some (.slice c)) (hs:(P.info? c).map (·.size)=some 1) (hg:T w g d t) (q:dLen<=d.size):
 (Builtin.copy_ #[dT,sT] ty #[.slice (some ⟨g,0,none⟩) dLen k,.string s]).run P w=
  .ok (goInt (Nat.min s.size dLen)) (w.setRow g (byteCells (s.data.toList.take (Nat.min s.size dLen))++d.toList.drop (Nat.min s.size dLen)).toArray):=by
 obtain⟨n,j⟩:∃n,Nat.min s.size dLen=n:=⟨_,rfl⟩
 have u:n<=s.size:=by rw[<-j];exact Nat.min_le_left _ _
 have hnd:n<=dLen:=by rw[<-j];exact Nat.min_le_right _ _
 have h:(byteCells (s.data.toList.take n)).length=n:=by rw[byteCells_length,Oc,<-size_eq];omega
 have f:=run_storeCells_at P g 0 t (byteCells (s.data.toList.take n)) 0 d w hg (by rw[h];omega) (byteCells_one _)
 have l:List.take n (List.map (fun b:UInt8=>Value.int IntKind.u8 (b.toNat:Int)) s.data.toList)=byteCells (s.data.toList.take n):=by
  rw[<-List.map_take];rfl
 rw[h] at f;simp only[Uk] at f;rw[j]
 cases m:P.info? c with
 |none=>simp[m] at hs
 |some i=>
  simp[Builtin.copy_,run_underlying o,Builtin.lenOf,Builtin.firstCells,sizeOf,typeInfo,m,j];rw[l,f];simp[Result.andThen]
theorem ram_init (s:ByteArray):byteCells (s.data.toList.take (Nat.min s.size 8192))++(List.replicate 8192 (Value.int .u8 0)).drop (Nat.min s.size 8192)=(v7 s).map wz:=by
 apply Oq;intro k;have i:s.data.toList.length=s.size:=(size_eq s).symm;have hl:(byteCells (s.data.toList.take (Nat.min s.size 8192))).length=Nat.min s.size 8192:=by rw[byteCells_length,Oc,i];exact Ud (Nat.min_le_left _ _)
 unfold v7;rw[List.map_map,Jr];obtain⟨n,c⟩:∃n,Nat.min s.size 8192=n:=⟨_,rfl⟩
 have q:n<=s.size:=by rw[<-c];exact Nat.min_le_left _ _
 have o:n<=8192:=by rw[<-c];exact Nat.min_le_right _ _
 have m:n=s.size∨n=8192:=by rcases Nat.le_total s.size 8192 with h|h;exact .inl (by rw[<-c];exact Ud h);exact .inr (by rw[<-c];exact Nat.min_eq_right h)
 rw[c] at hl ⊢
 by_cases l:k<n
 ·rw[Np Zo,Oh Zo];unfold byteCells;rw[Jr,Ug,if_pos l];have f:k<s.data.toList.length:=Zo;rw[Jd f];have g:k<s.data.size:=by simpa using f
  simp[wz,Array.getD_eq_getD_getElem?,Array.getElem?_eq_getElem g]
 ·rw[Nc Zo,hl,List.getElem?_drop,show n+(k-n)=k by omega,Nm]
  by_cases d:k<8192
  ·rw[if_pos d,Oh d];have j:¬k<s.data.size:=by have:s.data.size=s.size:=rfl;omega
   simp[wz,Array.getD_eq_getD_getElem?,Array.getElem?_eq_none (Nat.le_of_not_lt j)]
  ·rw[if_neg d,Of (by simpa using d)];rfl
def EvR (w:World)(B b q:Nat)(x:Nat×Nat):Prop:=O w b q (M (x.1:Int))/\O w b (q+1) (M (x.2:Int))/\x.1<65536/\x.2<65536
abbrev vM:=yN 2 EvR
def runVal (R:IRun)(ov:Value):Value:=.agg (yV R.value ov R.kind R.info (y9 R.ram) R.inputs R.polls)
def abr (w:World)(R:IRun)(e:Ending)(w':World):Prop:=∃ov,e=.returned (runVal R ov)/\vM w' w'.heap.size ov R.out/\Q w w'
def sZ (V:PV)(p:IProg):Value:=.agg #[V.fv,V.av,I p.entry,I p.handler,V.dv,V.bv]
theorem iG (s:ByteArray):(v7 s).length=8192:=by simp[v7]
theorem bY (s:ByteArray):∀x∈v7 s,x<256:=by
 intro x c;unfold v7 at c;obtain⟨k,_,rfl⟩:=Nu.1 c;exact UInt8.toNat_lt _
theorem tM (w:World)(b k:Nat)(cs:Array Value)(h:k≠b):(w.setRow b cs).heap[k]? =w.heap[k]?:=by
 unfold World.setRow;simp only[Array.getElem?_modify];rw[if_neg (fun e=>h e.symm)]
theorem below_setRow{B:Nat}(h:Below B w w'){b:Nat}(hb:B<=b)(cs:Array Value):Below B w (w'.setRow b cs):=
 h.trans ⟨rfl,rfl,rfl,by unfold World.setRow;simp,fun k hk=>tM _ _ _ _ Zo⟩
theorem nZ{b:Nat}{cs c:Array Value}{t:TypeId}(h:T w b cs t):T (w.setRow b c) b c t:=setRow_heap w b cs c t (0,0) h
theorem ss{b b':Nat}{d:Array Value}{o:Obj}(h:w.heap[b']? =some o)(c:b'≠b):(w.setRow b d).heap[b']? =some o:=(tM _ _ _ _ c).trans h
theorem sf (W:World)(A B C:Obj):(((W.alloc A).alloc B).alloc C).drew.heap[W.heap.size]? =some A/\(((W.alloc A).alloc B).alloc C).drew.heap[W.heap.size+1]? =some B/\(((W.alloc A).alloc B).alloc C).drew.heap[W.heap.size+1+1]? =some C/\Q W (((W.alloc A).alloc B).alloc C).drew:=
 ⟨zB (zB (zI rfl)),zB (zI Zs),zI Zs,((((Below.refl _ _).alloc (Je _) _).alloc Zs _).alloc (by simp<;>omega) _).drew⟩
theorem oG:∀ {l:List (Nat×Nat)} {k:Nat} {p:Nat×Nat},l[k]? =some p->(qO l)[k*2]? =some (vL p.1)/\(qO l)[k*2+1]? =some (vL p.2)
 | [],k,p,h=>by simp at h
 |a::l,0,p,h=>by simp at h;subst h;exact⟨rfl,rfl⟩
 |a::l,k+1,p,h=>by
  have:=oG (l:=l) (k:=k) (by simpa using h);rw[show(k+1)*2=k*2+1+1 by omega];exact this
theorem kP{S:Nat}{l:List (Nat×Nat)}(h:w.ownsRow S 173 2 ov l.length (qO l))(f:∀p∈l,p.1<65536/\p.2<65536):vM w w.heap.size ov l:=by
 obtain⟨a,c,rfl⟩:=zG h;have hl:=zm h;refine⟨a,c,rfl,hl.1,by omega,fun k x hk=>?_⟩;have m:=(Jh.1 hk).1;obtain⟨g,o,e,hg,hb⟩:=h.form Zo;cases e;obtain⟨j,i⟩:=oG hk;have d:=f x (Ji hk);refine⟨g,0,rfl,hb,?_,?_,d.1,d.2⟩
 ·rw[Ng];exact(h.cellAt (k*2) Zo).trans j
 ·rw[Ng];exact(h.cellAt (k*2+1) Zo).trans i
theorem ku{w4 w5:World}{K:MK}{m:Mach}{b:Nat}{r0:Array Value}(c:MachAt w4 K m ov)(d:T w4 b r0 134)(hb:w.heap.size<=b)(zb:Q w w4)(hg:w4.grownBy w5 (some b)):vM w5 w5.heap.size ov m.out/\Q w w5:=by
 have f:=zC c.out d (.inr Zd);exact⟨kP (c.out.kept hg (.inr f)) c.olt,zb.grown hg zb.size (fun k hk=>by simp at hk;omega)⟩
theorem mk_ram (W:World):(Instr.makeSlice 95 (I 8192) (I 8192)).run Try.prog W=.ok (L W.heap.size 8192 8192) (W.alloc (U (madeCells #[.int .u8 0] 8192) 5)):=
 run_make_row' (P:=Try.prog) 95 5 (.int .u8 0) 1 Try.underlying95 Try.info_u8 rfl .i64 .i64 8192 Zd Zd W
theorem eval_ok{V:PV}{p:IProg}(hp:ProgIn w w.heap.size V p)(b6:OkProg p)(hV:∀W,Q w W->A 16 #[sZ V p] W fun e W'=>e=.returned (I 0)/\Q W W')
 (f:Int) (hf:0<=f/\f.toNat<p.funcs.length) {args:List Nat} {av:Value} (ha:wV w w.heap.size av args) (hl:(args.length:Int)=p.args.getD f.toNat 0) (s:ByteArray) (hs:s.size<=9223372036854775807)
 {inv irqv:Value} {inn irq:List Nat} (c9:wV w w.heap.size inv inn) (c8:dL w w.heap.size irqv irq) (fuel:Int) (f3:I64 fuel) (f4:fuel.toNat<=4000000):
 A 82 #[sZ V p,I f,av,.string s,.agg #[inv,irqv],I fuel] w (abr w (bQ ⟨p,inn,irq⟩ f args s fuel)):=by
 obtain⟨Vf,Va,Vd,Vb⟩:=V;have h4:=hp.funcs;have c7:=hp.args;have h7:=hp.data;have h8:=hp.banks;obtain⟨f1,f2,e1,_,_⟩:=hp.funcs.form;obtain⟨a1,a2,e2,_,_⟩:=hp.args.form;obtain⟨d1,d2,e3,_,_⟩:=hp.data.form;obtain⟨b1,b2,e4,_,_⟩:=hp.banks.form;obtain⟨v1,v2,rfl,_,_⟩:=ha.form;obtain⟨i1,i2,rfl,_,_⟩:=c9.form;obtain⟨q1,q2,rfl,_,_⟩:=c8.form;simp only at e1 e2 e3 e4;subst e1 e2 e3 e4;obtain⟨k,rfl⟩:∃k:Nat,f=(k:Int):=⟨f.toNat,by omega⟩
 have k7:(k:Int)<p.funcs.length:=Zo;unfold sZ at hV ⊢;simp only at hV c7 ⊢;have l0:decide ((k:Int)<0)=false:=by rw[decide_eq_false_iff_not];omega
 have k9:decide (p.funcs.length<=k)=false:=by rw[decide_eq_false_iff_not];omega
 have h9:=mk_ram;obtain⟨Z,hZ⟩:∃Z,madeCells #[Value.int .u8 0] 8192=Z:=⟨_,rfl⟩
 rw[hZ] at h9;have HZ:=Ja hZ;clear hZ;have HP:=Ja hp;have HV:=Ja hV;have j9:=Ja b6;have HA:=Ja (Jb ha hl);have g6:=Ja (Jb c9 c8);have g7:=Ja (Jb f3 f4);obtain⟨aa,d3⟩:∃x,p.args[k]? =some x:=⟨_,Jd (by rw[b6.alen];omega)⟩
 have g0:(args.length:Int)=aa:=by rw[hl,Ni,Jj,d3];rfl
 have k4:((args.length:Int) !=aa)=false:=by rw[bne_eq_false_iff_eq];exact g0
 have k0:(k:Int)<p.args.length:=by rw[b6.alen];omega
 obtain⟨ba,oa,rfl,i0,f6,_⟩:=c7.get d3;rw[Nk] at f6;clear hp hV b6 ha hl c9 c8 f3 f4 h4 c7 h7 h8 hf d3 g0
 go_enter_defers Try.func82,Try.ntmps82
 go_upto_region 1 with fail;have f9:Q w (((w.alloc (U #[.slice f1 p.funcs.length f2,.slice (some ⟨ba,oa,none⟩) p.args.length a2,I p.entry,I p.handler,.slice d1 p.data.length d2,.slice b1 p.banks.length b2] 44)).alloc (U #[.slice i1 inn.length i2,.slice q1 irq.length q2] 137)).alloc (U #[M 0,F,I 0,M 0,.string {data:=#[]},I 0,I 0] 134)):=(((Below.refl _ _).alloc (Je _) _).alloc Zs _).alloc (by simp<;>omega) _;have l:T (((w.alloc (U #[.slice f1 p.funcs.length f2,.slice (some ⟨ba,oa,none⟩) p.args.length a2,I p.entry,I p.handler,.slice d1 p.data.length d2,.slice b1 p.banks.length b2] 44)).alloc (U #[.slice i1 inn.length i2,.slice q1 irq.length q2] 137)).alloc (U #[M 0,F,I 0,M 0,.string {data:=#[]},I 0,I 0] 134)) w.heap.size #[.slice f1 p.funcs.length f2,.slice (some ⟨ba,oa,none⟩) p.args.length a2,I p.entry,I p.handler,.slice d1 p.data.length d2,.slice b1 p.banks.length b2] 44:=zB (zB (zI rfl));have e7:T (((w.alloc (U #[.slice f1 p.funcs.length f2,.slice (some ⟨ba,oa,none⟩) p.args.length a2,I p.entry,I p.handler,.slice d1 p.data.length d2,.slice b1 p.banks.length b2] 44)).alloc (U #[.slice i1 inn.length i2,.slice q1 irq.length q2] 137)).alloc (U #[M 0,F,I 0,M 0,.string {data:=#[]},I 0,I 0] 134)) (w.heap.size+1) #[.slice i1 inn.length i2,.slice q1 irq.length q2] 137:=zB (zI Zs);have e6:T (((w.alloc (U #[.slice f1 p.funcs.length f2,.slice (some ⟨ba,oa,none⟩) p.args.length a2,I p.entry,I p.handler,.slice d1 p.data.length d2,.slice b1 p.banks.length b2] 44)).alloc (U #[.slice i1 inn.length i2,.slice q1 irq.length q2] 137)).alloc (U #[M 0,F,I 0,M 0,.string {data:=#[]},I 0,I 0] 134)) (w.heap.size+2) #[M 0,F,I 0,M 0,.string {data:=#[]},I 0,I 0] 134:=zI Zs;generalize j2:((w.alloc (U #[.slice f1 p.funcs.length f2,.slice (some ⟨ba,oa,none⟩) p.args.length a2,I p.entry,I p.handler,.slice d1 p.data.length d2,.slice b1 p.banks.length b2] 44)).alloc (U #[.slice i1 inn.length i2,.slice q1 irq.length q2] 137)).alloc (U #[M 0,F,I 0,M 0,.string {data:=#[]},I 0,I 0] 134)=W0 at *;have a4:=Ja f9;have u:=Ja (Jb l (Jb e7 e6));have p0:=K0 l;have p1:=K1 l;have p2:=K2 l;have p3:=K3 l;have p4:=K4 l;have p5:=K5 l;clear l e7 e6 f9 j2;go_upto_region 3 with(go_at_call 16;go_must (refine(HV.out _ a4.out).mono ?_;rintro e W1 ⟨rfl,m⟩;have q0:=(m.cell (p:=⟨w.heap.size,0,none⟩) (Jw W0 _ p0)).trans p0;have h3:=(m.cell (p:=⟨w.heap.size,1,none⟩) (Jw W0 _ p1)).trans p1;have cx:=zV (a4.out.trans (m.mono a4.out.size)) i0 f6))
 have y0:=zH m u.out.1 (lt_of_block u.out.1);have y1:=zH m u.out.2.1 (lt_of_block u.out.2.1);have y2:=zH m u.out.2.2 (lt_of_block u.out.2.2);have k6:=lt_of_block y2;have a3:=Ja (a4.out.trans (m.mono a4.out.size));have HY:=Ja y2
 have d0:∀w',Q W1 w'->(O w' w.heap.size 0 (.slice f1 p.funcs.length f2)/\O w' w.heap.size 1 (.slice (some ⟨ba,oa,none⟩) p.args.length a2)/\O w' w.heap.size 2 (I p.entry)/\O w' w.heap.size 3 (I p.handler)/\O w' w.heap.size 4 (.slice d1 p.data.length d2)/\O w' w.heap.size 5 (.slice b1 p.banks.length b2)/\O w' (w.heap.size+1) 0 (.slice i1 inn.length i2)/\O w' (w.heap.size+1) 1 (.slice q1 irq.length q2)):=fun w' hb=>by
  have z0:=zH hb y0 Zo;have z1:=zH hb y1 Zo;exact⟨zA z0 Zs,zA z0 Zs,zA z0 Zs,zA z0 Zs,zA z0 Zs,zA z0 Zs,zA z1 Zs,zA z1 Zs⟩
 have h2:=Ja d0;clear q0 h3 p0 p1 p2 p3 p4 p5 a4 u m y0 y1 y2 d0 cx
 go_cut [13] from 41 to 47 (fun v wx=>∃rb pm b13:Nat,v=G b13/\Hid (T wx b13 #[G pm] 146/\T wx rb Z 5/\T wx pm #[.slice f1 p.funcs.length f2,.slice (some ⟨ba,oa,none⟩) p.args.length a2,I p.entry,I p.handler,.slice d1 p.data.length d2,.slice b1 p.banks.length b2,L rb 8192 8192,.slice i1 inn.length i2,.slice q1 irq.length q2,I fuel,F,I 0,I 0] 148/\Q W1 wx/\W1.heap.size<=rb/\W1.heap.size<=pm/\W1.heap.size<=b13))
 case first=>
  go_region_held3 (fun w'=>O w' w.heap.size 0 (.slice f1 p.funcs.length f2)/\O w' w.heap.size 1 (.slice (some ⟨ba,oa,none⟩) p.args.length a2)/\O w' w.heap.size 2 (I p.entry)/\O w' w.heap.size 3 (I p.handler)/\O w' w.heap.size 4 (.slice d1 p.data.length d2)/\O w' w.heap.size 5 (.slice b1 p.banks.length b2)/\O w' (w.heap.size+1) 0 (.slice i1 inn.length i2)/\O w' (w.heap.size+1) 1 (.slice q1 irq.length q2))
   ((refine h2.out _ ?_;repeat' (first|exact Below.refl _ _|refine Below.drew ?_|refine Below.alloc ?_ (by simp<;>omega) _|refine Below.setCell ?_ (by simp<;>omega) _)))
   (fail)
  all_goals go_wp2_with fail
  all_goals go_meet
  ·exact⟨W1.heap.size,W1.heap.size+1,W1.heap.size+1+1,rfl,(sf _ _ _ _).2.2.1,(sf _ _ _ _).1,(sf _ _ _ _).2.1,(sf _ _ _ _).2.2.2,by omega,by omega,by omega⟩
  ·exact⟨W1.heap.size,W1.heap.size+1+1,W1.heap.size+1,rfl,(sf _ _ _ _).2.1,(sf _ _ _ _).1,(sf _ _ _ _).2.2.1,(sf _ _ _ _).2.2.2,by omega,by omega,by omega⟩
  ·exact⟨W1.heap.size+1,W1.heap.size+1+1,W1.heap.size,rfl,(sf _ _ _ _).1,(sf _ _ _ _).2.1,(sf _ _ _ _).2.2.1,(sf _ _ _ _).2.2.2,by omega,by omega,by omega⟩
 case rest=>
  obtain⟨rb,pm,b13,rfl,i⟩:=hcut;have k1:=K0 i.out.1;have k2:=K6 i.out.2.2.1;have c0:Z.toList=List.replicate 8192 (Value.int .u8 0):=by rw[<-HZ.out];exact toList_madeCells_one _ _
  have e0:8192<=Z.size:=by have:=congrArg List.length c0;rw[Qr] at this;simp at this;omega
  have f5:=fun ty:TypeId=>tQ (P:=Try.prog) wc 95 9 ty 5 rb 8192 8192 s Z 5 Try.underlying95 Zk i.out.2.1 e0
  obtain⟨n,hn⟩:∃n,goInt (Nat.min s.size 8192)=n:=⟨_,rfl⟩
  have c4:(byteCells (s.data.toList.take (Nat.min s.size 8192))++Z.toList.drop (Nat.min s.size 8192)).toArray=((v7 s).map wz).toArray:=by
   rw[<-ram_init s,c0]
  rw[hn,c4] at f5;clear c0 e0 c4 hn;have b8:Q W1 (wc.setRow rb ((v7 s).map wz).toArray):=below_setRow i.out.2.2.2.1 i.out.2.2.2.2.1 _;have e8:T (wc.setRow rb ((v7 s).map wz).toArray) rb ((v7 s).map wz).toArray 5:=nZ i.out.2.1;have f0:(wc.setRow rb ((v7 s).map wz).toArray).heap[pm]? =_:=ss i.out.2.2.1 (by rintro rfl;have h1:=i.out.2.1;rw[i.out.2.2.1] at h1;simp at h1);have g3:(wc.setRow rb ((v7 s).map wz).toArray).heap[b13]? =_:=ss i.out.1 (by rintro rfl;have h1:=i.out.2.1;rw[i.out.1] at h1;simp at h1);go_upto_region 5 with fail;generalize j1:wc.setRow rb ((v7 s).map wz).toArray=W2 at *;have k5:∀(fn:Fn) (first cap:Array Value) (W:World),(Instr.makeFunc fn first cap).run Try.prog W=.ok (.func fn first cap) W:=fun _ _ _ _=>rfl
  obtain⟨K,hK⟩:∃K:MK,K=⟨⟨p,inn,irq⟩,⟨.slice f1 p.funcs.length f2,.slice (some ⟨ba,oa,none⟩) p.args.length a2,.slice d1 p.data.length d2,.slice b1 p.banks.length b2⟩,.slice i1 inn.length i2,.slice q1 irq.length q2,pm,rb,W1.heap.size⟩:=⟨_,rfl⟩
  have q:Q w W2:=a3.out.trans (b8.mono a3.out.size)
  have g2:MachAt W2 K ⟨v7 s,fuel,[],0,0⟩ (F):=by
   subst hK;exact⟨f0,e8,iG s,bY s,Jv _ _ _ _,fun p hp=>by simp at hp,by have:=g7.out.2;show 0+fuel.toNat<=4000000;omega,g7.out.1,Jt _,Jt _,i.out.2.2.2.2.2.1,i.out.2.2.2.2.1,(HP.out.below q).mono a3.out.size,(g6.out.1.below zr q).mono zr a3.out.size,(g6.out.2.below xQ q).mono xQ a3.out.size⟩
  have e5:W2.heap[w.heap.size+2]? =_:=zH b8 HY.out (lt_of_block HY.out);have g4:=Ja g2;have j:=Ja (Jb g3 (Jb e5 (Jb b8 q)));clear j1 g2 e5 g3 e8 f0 b8 q f5 k1 k2 i;go_upto_region 6 with fail;have c1:=zI (W:=W2) (o:=U #[.func (.func 89) #[] #[G b13,G (w.heap.size+1+1)]] 149) rfl;have a0:=(Below.refl W2.heap.size W2).alloc (Je _) (U #[.func (.func 89) #[] #[G b13,G (w.heap.size+1+1)]] 149);have g1:=g4.out.keep a0;have b0:=zH a0 j.out.1 (lt_of_block j.out.1);have c2:=zH a0 j.out.2.1 (lt_of_block j.out.2.1);have a6:Q w _:=j.out.2.2.2.trans (a0.mono j.out.2.2.2.size);have d4:Q W1 _:=j.out.2.2.1.trans (a0.mono j.out.2.2.1.size);generalize i8:W2.alloc (U #[.func (.func 89) #[] #[G b13,G (w.heap.size+1+1)]] 149)=W3 at *;generalize W2.heap.size=b14 at *;have t:K.E=⟨p,inn,irq⟩/\K.pm=pm/\K.B=W1.heap.size:=by rw[hK];exact⟨rfl,rfl,rfl⟩
  have g:=mi K (by rw[t.1];exact j9.out) 100 (Je _) W3 _ _ (.slice v1 args.length v2) (k:Int) args g1 Zo (by rw[t.1];show(k:Int).toNat<p.funcs.length;omega) ((HA.out.1.below zr a6).mono zr a6.size) (by rw[t.1];exact HA.out.2);obtain⟨RES,b3⟩:∃R,xW K.E 100 (k:Int) args ⟨v7 s,fuel,[],0,0⟩=R:=⟨_,rfl⟩
  have c3:bQ ⟨p,inn,irq⟩ (k:Int) args s fuel=adO RES:=by rw[<-b3,t.1];rfl
  rw[b3,t.2.1] at g;have e1:(101:Int)-((100:Nat):Int)=1:=by decide
  rw[e1] at g;have l1:=K0 b0;have d6:=Ja c3;have g5:=Ja t;have H3:=Ja (Jb b0 (Jb c2 (Jb c1 (Jb a6 d4))));clear i8 g1 b0 c2 c1 a0 a6 d4 hK c3 b3 j g4 e1 t
  have b5:∀(w4:World) (ov4:Value) (m4:Mach),MachAt w4 K m4 ov4->Frm K.B W3 w4->
   T w4 b13 #[G K.pm] 146/\T w4 (w.heap.size+1+1) #[M 0,F,I 0,M 0,.string {data:=#[]},I 0,I 0] 134/\O w4 b14 0 (.func (.func 89) #[] #[G b13,G (w.heap.size+1+1)])/\Q w w4:=fun w4 ov4 m4 d h=>by
   refine⟨by rw[g5.out.2.1];exact h.kept _ _ H3.out.1 (by simp[sA]),h.kept _ _ H3.out.2.1 (by simp[sA]),zA (h.kept _ _ H3.out.2.2.1 (by simp[sA])) Zs,H3.out.2.2.2.1.trans (h.below.mono ?_)⟩;rw[g5.out.2.2];exact a3.out.size
  have b9:=Ja b5;clear b5
  cases RES with
  |ok x m4=>
   have a9:A 91 #[G pm,I k,.slice v1 args.length v2,I 1] W3 fun e w'=>e=.returned (M x)/\(∃ov',MachAt w' K m4 ov')/\Frm K.B W3 w'/\x<65536:=g
   have d7:=Ja a9;clear g a9;go_upto_region 8 with(go_at_call 91;go_must (refine d7.out.mono ?_;rintro e w4 ⟨rfl,⟨ov4,d⟩,h,k3⟩))
   obtain⟨b4,y,d8,zb⟩:=b9.out w4 ov4 m4 d h;obtain⟨oa4,oc4,rfl⟩:=zG d.out
   have a5:A 89 #[.agg #[I 6,M 0],M x,G b13,G (w.heap.size+1+1)] w4 fun e w'=>
    e=.returned (.tuple #[])/\T w' (w.heap.size+1+1) (yV x (.slice oa4 m4.out.length oc4) 6 0 (y9 m4.ram) m4.inputs m4.polls) 134/\w4.grownBy w' (some (w.heap.size+1+1)):=pE d b4 y 6 0 x
   have b7:w4.heap[b14]? =_:=h.kept _ _ H3.out.2.2.1 (by simp[sA]);have h0:=Ja a5;have d5:=Ja (Jb d (Jb y (Jb zb b7)));clear a5 b4 y zb d h b7;go_upto_region 9 with(go_at_call 89;go_must (refine h0.out.mono ?_;rintro e w5 ⟨rfl,c,h6⟩))
   have r0:O w5 (w.heap.size+1+1) 0 (M x):=zA c (by simp[yV]);have s0:Y w5 (w.heap.size+1+1) 0:=zE c;have r1:O w5 (w.heap.size+1+1) 1 (.slice oa4 m4.out.length oc4):=zA c (by simp[yV]);have s1:Y w5 (w.heap.size+1+1) 1:=zE c;have r2:O w5 (w.heap.size+1+1) 2 (I 6):=zA c (by simp[yV]);have s2:Y w5 (w.heap.size+1+1) 2:=zE c;have r3:O w5 (w.heap.size+1+1) 3 (M 0):=zA c (by simp[yV]);have s3:Y w5 (w.heap.size+1+1) 3:=zE c;have r4:O w5 (w.heap.size+1+1) 4 (.string (y9 m4.ram)):=zA c (by simp[yV]);have s4:Y w5 (w.heap.size+1+1) 4:=zE c;have r5:O w5 (w.heap.size+1+1) 5 (I (m4.inputs:Int)):=zA c (by simp[yV]);have s5:Y w5 (w.heap.size+1+1) 5:=zE c;have r6:O w5 (w.heap.size+1+1) 6 (I (m4.polls:Int)):=zA c (by simp[yV]);have s6:Y w5 (w.heap.size+1+1) 6:=zE c;have hE:=ku d5.out.1 d5.out.2.1 Zo d5.out.2.2.1 (zu (zu (zu (zu (zu (zu (zu h6 0 (M x)) 1 (.slice oa4 m4.out.length oc4)) 2 (I 6)) 3 (M 0)) 4 (.string (y9 m4.ram))) 5 (I (m4.inputs:Int))) 6 (I (m4.polls:Int)))
   have c5:abr w (bQ ⟨p,inn,irq⟩ (k:Int) args s fuel) (.returned (.agg #[M x,.slice oa4 m4.out.length oc4,I 6,M 0,.string (y9 m4.ram),I (m4.inputs:Int),I (m4.polls:Int)])) (((((((w5.setCell ⟨w.heap.size+1+1,0,none⟩ (M x)).setCell ⟨w.heap.size+1+1,1,none⟩ (.slice oa4 m4.out.length oc4)).setCell ⟨w.heap.size+1+1,2,none⟩ (I 6)).setCell ⟨w.heap.size+1+1,3,none⟩ (M 0)).setCell ⟨w.heap.size+1+1,4,none⟩ (.string (y9 m4.ram))).setCell ⟨w.heap.size+1+1,5,none⟩ (I (m4.inputs:Int))).setCell ⟨w.heap.size+1+1,6,none⟩ (I (m4.polls:Int))):=by
    rw[d6.out];exact⟨_,rfl,hE.1,hE.2⟩
   have g8:=Ja c5;clear c5 hE;go_wp2;refine leaves_cons (f:=90) (args:=#[G b14]) Zs (by simp[go_sem]) ?_;refine(rec_idle _ _).mono ?_;rintro e u' w6 ⟨rfl,rfl,rfl⟩;simp[Leaves,settle,results,Try.results82,go_sem,r0,r1,r2,r3,r4,r5,r6]
   exact g8.out
  |trap k2 i2 m4=>
   have a9:A 91 #[G pm,I k,.slice v1 args.length v2,I 1] W3 fun e w'=>e=.panicked [oE k2 i2]/\(∃ov',MachAt w' K m4 ov')/\Frm K.B W3 w'/\True:=g
   have d7:=Ja a9;clear g a9;go_wp2_with (go_at_call 91;go_must (refine d7.out.mono ?_;rintro e w4 ⟨rfl,⟨ov4,d⟩,h,_⟩))
   obtain⟨b4,y,d8,zb⟩:=b9.out w4 ov4 m4 d h;have hd:=pi d b4 y d8 k2 i2 [];obtain⟨oa4,oc4,rfl⟩:=zG d.out;refine leaves_cons (f:=90) (args:=#[G b14]) Zs (by simp[go_sem]) ?_;refine hd.mono ?_;rintro e u' w5 ⟨rfl,rfl,c,h6⟩;have hE:=ku d y Zo zb h6;have r0:O w5 (w.heap.size+1+1) 0 (M ((0:Nat):Int)):=zA c (by simp[yV]);have r1:O w5 (w.heap.size+1+1) 1 (.slice oa4 m4.out.length oc4):=zA c (by simp[yV]);have r2:O w5 (w.heap.size+1+1) 2 (I k2):=zA c (by simp[yV]);have r3:O w5 (w.heap.size+1+1) 3 (M i2):=zA c (by simp[yV]);have r4:O w5 (w.heap.size+1+1) 4 (.string (y9 m4.ram)):=zA c (by simp[yV]);have r5:O w5 (w.heap.size+1+1) 5 (I (m4.inputs:Int)):=zA c (by simp[yV]);have r6:O w5 (w.heap.size+1+1) 6 (I (m4.polls:Int)):=zA c (by simp[yV])
   have a5:abr w (bQ ⟨p,inn,irq⟩ (k:Int) args s fuel) (.returned (.agg #[M ((0:Nat):Int),.slice oa4 m4.out.length oc4,I k2,M i2,.string (y9 m4.ram),I (m4.inputs:Int),I (m4.polls:Int)])) w5:=by
    rw[d6.out];exact⟨_,rfl,hE.1,hE.2⟩
   simp[Leaves,settle,results,Try.results82,go_sem,r0,r1,r2,r3,r4,r5,r6];exact a5
open Go.RowKit
def sV:IRun:=⟨0,[],0,0,[],0,0⟩
def io (p:IProg)(f:Int)(args:List Nat):Bool:=decide (vC p=0) && decide (0<=f) && decide (f<p.funcs.length) && decide ((args.length:Int)=p.args.getD f.toNat 0)
def i9 (E:IEnv)(f:Int)(args:List Nat)(s:ByteArray)(fuel:Int):IRun:=if io E.p f args then bQ E f args s fuel else sV
def mW (p:IProg):Prop:=∀f∈p.funcs,vZ f/\∀b∈f,b.params.length<=65536
theorem dX:runVal sV (F)=.agg #[M 0,F,I 0,M 0,.string ⟨#[]⟩,I 0,I 0]:=by kernel_rfl
theorem bJ:∀a b c d:Bool,(a && b && c && d)=false->(a=false)∨(a=true/\b=false)∨(a=true/\b=true/\c=false)∨(a=true/\b=true/\c=true/\d=false)
 |false,_,_,_,_=> .inl rfl
 |true,false,_,_,_=> .inr (.inl ⟨rfl,rfl⟩)
 |true,true,false,_,_=> .inr (.inr (.inl ⟨rfl,rfl,rfl⟩))
 |true,true,true,false,_=> .inr (.inr (.inr ⟨rfl,rfl,rfl,rfl⟩))
theorem iV{V:PV}{p:IProg}(hp:ProgIn w w.heap.size V p)(hs:mW p)(f:Int)(b9:I64 f){args:List Nat}{av:Value}(ha:wV w w.heap.size av args)(s:ByteArray)
 {inv irqv:Value} {inn irq:List Nat} (a9:wV w w.heap.size inv inn) (a6:dL w w.heap.size irqv irq) (fuel:Int) (l:io p f args=false):
 A 82 #[sZ V p,I f,av,.string s,.agg #[inv,irqv],I fuel] w (abr w sV):=by
 have hV:∀W,Q w W->A 16 #[sZ V p] W (m9 W (vC p)):=fun W hb=>tu ((hp.below hb).mono hb.size) (Je _) (fun f hf=>(hs f hf).1)
 have a3:vC p=0->p.args.length=p.funcs.length:=fun h=>(se (rz h).1).2.1
 obtain⟨Vf,Va,Vd,Vb⟩:=V;have u:=hp.args;obtain⟨f1,f2,e1,_,_⟩:=hp.funcs.form;obtain⟨a1,a2,e2,_,_⟩:=hp.args.form;obtain⟨d1,d2,e3,_,_⟩:=hp.data.form;obtain⟨b1,b2,e4,_,_⟩:=hp.banks.form;obtain⟨v1,v2,rfl,_,_⟩:=ha.form;obtain⟨i1,i2,rfl,_,_⟩:=a9.form;obtain⟨q1,q2,rfl,_,_⟩:=a6.form;simp only at e1 e2 e3 e4 u;subst e1 e2 e3 e4;unfold sZ at hV ⊢;simp only at hV ⊢;have c3:p.funcs.length<=9223372036854775807:=Zo;have c0:args.length<=9223372036854775807:=Zo;unfold io at l;obtain⟨x1,h1⟩:∃q,decide (vC p=0)=q:=⟨_,rfl⟩
 obtain⟨x2,h2⟩:∃q,decide (0<=f)=q:=⟨_,rfl⟩
 obtain⟨x3,h3⟩:∃q,decide (f<p.funcs.length)=q:=⟨_,rfl⟩
 obtain⟨x4,h4⟩:∃q,decide ((args.length:Int)=p.args.getD f.toNat 0)=q:=⟨_,rfl⟩
 rw[h1,h2,h3,h4] at l;obtain⟨vp,a5⟩:∃x,vC p=x:=⟨_,rfl⟩
 rw[a5] at hV h1 a3;have t1:(vp !=0)=!x1:=by rw[bne,zl h1]
 have t2:decide (f<0)=!x2:=by rw[<-h2];by_cases h:0<=f<;>simp[h]<;>omega
 have t3:decide ((p.funcs.length:Int)<=f)=!x3:=by rw[<-h3];by_cases h:f<p.funcs.length<;>simp[h]<;>omega
 have HV:=Ja hV;have b6:=bJ x1 x2 x3 x4 l;have o:Q w (((w.alloc (U (Z p f1 f2 a1 a2 d1 d2 b1 b2) 44)).alloc (U #[.slice i1 inn.length i2,.slice q1 irq.length q2] 137)).alloc (U #[M 0,F,I 0,M 0,.string ⟨#[]⟩,I 0,I 0] 134)):=(((Below.refl _ _).alloc (Je _) _).alloc Zs _).alloc Zt _;have d:T (((w.alloc (U (Z p f1 f2 a1 a2 d1 d2 b1 b2) 44)).alloc (U #[.slice i1 inn.length i2,.slice q1 irq.length q2] 137)).alloc (U #[M 0,F,I 0,M 0,.string ⟨#[]⟩,I 0,I 0] 134)) w.heap.size (Z p f1 f2 a1 a2 d1 d2 b1 b2) 44:=zB (zB (zI rfl));have m:T (((w.alloc (U (Z p f1 f2 a1 a2 d1 d2 b1 b2) 44)).alloc (U #[.slice i1 inn.length i2,.slice q1 irq.length q2] 137)).alloc (U #[M 0,F,I 0,M 0,.string ⟨#[]⟩,I 0,I 0] 134)) (w.heap.size+1+1) #[M 0,F,I 0,M 0,.string ⟨#[]⟩,I 0,I 0] 134:=zI Zs;have b7:=Ja (show zY w w.heap.size (.slice a1 p.args.length a2) p.args from u);have b4:=Ja (show x1=true->p.args.length=p.funcs.length from fun h=>a3 (of_decide_eq_true (h1.trans h)));clear hp hs ha a9 a6 hV a3 u l h1 a5;rcases b6 with rfl|⟨rfl,rfl⟩|⟨rfl,rfl,rfl⟩|⟨rfl,rfl,rfl,rfl⟩
 case inr.inr.inr=>
  obtain⟨k,rfl⟩:∃k:Nat,f=(k:Int):=⟨f.toNat,by have:=of_decide_eq_true h2;omega⟩
  have c2:(k:Int)<p.funcs.length:=of_decide_eq_true h3;obtain⟨x,hx⟩:∃x,p.args[k]? =some x:=⟨_,Jd (by have:=b4.out rfl;omega)⟩
  obtain⟨ba,oa,rfl,b0,y,_⟩:=b7.out.get hx;rw[Nk] at y;have b8:(k:Int)<p.args.length:=by have:=b4.out rfl;omega
  have c4:decide (p.funcs.length<=k)=false:=by rw[decide_eq_false_iff_not];omega
  have t4:((args.length:Int) !=x)=true:=by
   rw[Ni,Jj,hx,Ot] at h4;rw[bne,zl h4];rfl
  have b3:=Ja (Jb b0 y);clear h2 h3 h4 hx b0 y
  go_enter_defers Try.func82,Try.ntmps82
  go_upto_region 1 with fail;generalize a4:((w.alloc (U (Z p f1 f2 (some ⟨ba,oa,none⟩) a2 d1 d2 b1 b2) 44)).alloc (U #[.slice i1 inn.length i2,.slice q1 irq.length q2] 137)).alloc (U #[M 0,F,I 0,M 0,.string ⟨#[]⟩,I 0,I 0] 134)=W0 at *;have g:=Ja (Jb o (Jb d m));have p0:=K0 d;have p1:=K1 d;have p2:=K2 d;have p3:=K3 d;have p4:=K4 d;have p5:=K5 d;clear o d m a4;go_wp2_with (go_at_call 16;go_must (refine(HV.out _ g.out.1).mono ?_;rintro e W1 ⟨rfl,i⟩;have j:=zH i g.out.2.1 (lt_of_block g.out.2.1);have c:=zH i g.out.2.2 (lt_of_block g.out.2.2);have q0:=K0 j;have b5:=K1 j;have r0:=K0 c;have s0:Y W1 (w.heap.size+1+1) 0:=zE c;have r1:=K1 c;have s1:Y W1 (w.heap.size+1+1) 1:=zE c;have r2:=K2 c;have s2:Y W1 (w.heap.size+1+1) 2:=zE c;have r3:=K3 c;have s3:Y W1 (w.heap.size+1+1) 3:=zE c;have r4:=K4 c;have s4:Y W1 (w.heap.size+1+1) 4:=zE c;have r5:=K5 c;have s5:Y W1 (w.heap.size+1+1) 5:=zE c;have r6:=K6 c;have s6:Y W1 (w.heap.size+1+1) 6:=zE c;have t:=Ja (g.out.1.trans (i.mono g.out.1.size));have c1:=zV t.out b3.out.1 b3.out.2;clear i j c))
  have a0:=((((((t.out.setCell (p:=⟨w.heap.size+1+1,0,none⟩) Zt (M 0)).setCell (p:=⟨w.heap.size+1+1,1,none⟩) Zt (F)).setCell (p:=⟨w.heap.size+1+1,2,none⟩) Zt (I 0)).setCell (p:=⟨w.heap.size+1+1,3,none⟩) Zt (M 0)).setCell (p:=⟨w.heap.size+1+1,4,none⟩) Zt (.string ⟨#[]⟩)).setCell (p:=⟨w.heap.size+1+1,5,none⟩) Zt (I 0)).setCell (p:=⟨w.heap.size+1+1,6,none⟩) Zt (I 0);refine⟨.agg #[M 0,F,I 0,M 0,.string ⟨#[]⟩,I 0,I 0],?_,F,by rw[dX],⟨none,0,rfl,Je _,by omega,fun k x hk=>by simp[sV] at hk⟩,a0⟩;rw[zM rfl];go_simp
 all_goals clear h4
 all_goals (
  go_enter_defers Try.func82,Try.ntmps82
  go_upto_region 1 with fail;generalize a4:((w.alloc (U (Z p f1 f2 a1 a2 d1 d2 b1 b2) 44)).alloc (U #[.slice i1 inn.length i2,.slice q1 irq.length q2] 137)).alloc (U #[M 0,F,I 0,M 0,.string ⟨#[]⟩,I 0,I 0] 134)=W0 at *;have g:=Ja (Jb o (Jb d m));have p0:=K0 d;have p1:=K1 d;have p2:=K2 d;have p3:=K3 d;have p4:=K4 d;have p5:=K5 d;clear o d m a4;go_wp2_with (go_at_call 16;go_must (refine(HV.out _ g.out.1).mono ?_;rintro e W1 ⟨rfl,i⟩;have j:=zH i g.out.2.1 (lt_of_block g.out.2.1);have c:=zH i g.out.2.2 (lt_of_block g.out.2.2);have q0:=K0 j;have b5:=K1 j;have r0:=K0 c;have s0:Y W1 (w.heap.size+1+1) 0:=zE c;have r1:=K1 c;have s1:Y W1 (w.heap.size+1+1) 1:=zE c;have r2:=K2 c;have s2:Y W1 (w.heap.size+1+1) 2:=zE c;have r3:=K3 c;have s3:Y W1 (w.heap.size+1+1) 3:=zE c;have r4:=K4 c;have s4:Y W1 (w.heap.size+1+1) 4:=zE c;have r5:=K5 c;have s5:Y W1 (w.heap.size+1+1) 5:=zE c;have r6:=K6 c;have s6:Y W1 (w.heap.size+1+1) 6:=zE c;have t:=Ja (g.out.1.trans (i.mono g.out.1.size));clear i j c))
  have a0:=((((((t.out.setCell (p:=⟨w.heap.size+1+1,0,none⟩) Zt (M 0)).setCell (p:=⟨w.heap.size+1+1,1,none⟩) Zt (F)).setCell (p:=⟨w.heap.size+1+1,2,none⟩) Zt (I 0)).setCell (p:=⟨w.heap.size+1+1,3,none⟩) Zt (M 0)).setCell (p:=⟨w.heap.size+1+1,4,none⟩) Zt (.string ⟨#[]⟩)).setCell (p:=⟨w.heap.size+1+1,5,none⟩) Zt (I 0)).setCell (p:=⟨w.heap.size+1+1,6,none⟩) Zt (I 0);refine⟨.agg #[M 0,F,I 0,M 0,.string ⟨#[]⟩,I 0,I 0],?_,F,by rw[dX],⟨none,0,rfl,Je _,by omega,fun k x hk=>by simp[sV] at hk⟩,a0⟩;rw[zM rfl]
  go_simp)
theorem mX{V:PV}{p:IProg}(hp:ProgIn w w.heap.size V p)(hs:mW p)(f:Int)(g:I64 f){args:List Nat}{av:Value}(o:wV w w.heap.size av args)(s:ByteArray)(j:s.size<=9223372036854775807)
 {inv irqv:Value} {inn irq:List Nat} (d:wV w w.heap.size inv inn) (c:dL w w.heap.size irqv irq) (fuel:Int) (l:I64 fuel) (m:fuel.toNat<=4000000):
 A 82 #[yH V p,I f,av,.string s,.agg #[inv,irqv],I fuel] w (abr w (i9 ⟨p,inn,irq⟩ f args s fuel)):=by
 unfold i9
 cases h:io p f args with
 |false=>exact iV hp hs f g o s d c fuel h
 |true=>
  unfold io at h;simp only[Jm,decide_eq_true_eq] at h;obtain⟨⟨⟨i,t⟩,u⟩,q⟩:=h;have k:=jM i (fun f hf b hb=>(hs f hf).2 b hb)
  have x:(if io p f args=true then bQ ⟨p,inn,irq⟩ f args s fuel else sV)=bQ ⟨p,inn,irq⟩ f args s fuel:=by
   rw[if_pos];unfold io;simp only[Jm,decide_eq_true_eq];exact⟨⟨⟨i,t⟩,u⟩,q⟩
  refine eval_ok hp k (fun W hb=>?_) f ⟨t,by omega⟩ o q s j d c fuel l m;have:=tu ((hp.below hb).mono hb.size) (Je _) (fun f hf=>(hs f hf).1);rw[i] at this;exact this
theorem uB {α:Type}(f:α->List Value)(n:Nat)(hf:∀a,(f a).length=n):∀(l:List α) (k:Nat) (a:α),l[k]? =some a->∀j,j<n->(l.flatMap f)[k*n+j]? =(f a)[j]?
 | [],k,a,hk,_,_=>by simp at hk
 |x::l,0,a,hk,j,hj=>by
  cases hk
  rw[Qa,Nat.zero_mul,Ng,Np (by rw[hf];exact hj)]
 |x::l,k+1,a,hk,j,hj=>by
  rw[Qa,Nc (by rw[hf,Nat.add_mul];omega),hf];have e:(k+1)*n+j-n=k*n+j:=by rw[Nat.add_mul];omega
  rw[e];exact uB f n hf l k a (by simpa using hk) j hj
theorem oW{α:Type}{f:α->List Value}{n:Nat}(hf:∀a,(f a).length=n){b:Nat}{l:List α}{e:TypeId}(h:T w b (l.flatMap f).toArray e){a:α}(hk:l[k]? =some a){v:Value}(d:(f a)[j]? =some v):
 O w b (0+k*n+j) v:=by
 refine zA h ?_;have c:j<n:=by rw[<-hf a];exact(Jh.1 d).1
 rw[Ng,List.getElem?_toArray,uB f n hf l k a hk j c];exact d
def zU (q:IOp×Value):List Value:=[I q.1.code,I q.1.res,I q.1.a,I q.1.b,M (q.1.n:Int),q.2]
theorem afj{B b:Nat}{l:List (IOp×Value)}{e:TypeId}(h:T w b (l.flatMap zU).toArray e)(hb:b<B)(g:∀q∈l,qN q.1/\zY w B q.2 q.1.args)(hl:l.length<=1000000):
 mN w B (L b l.length l.length) (l.map (·.1)):=by
 refine⟨_,l.length,by rw[Nr],by rw[Nr];exact Je _,by omega,fun k o hk=>?_⟩;rw[Jr,Oz] at hk;obtain⟨q,d,rfl⟩:=hk;have c:=fun j v (hj:(zU q)[j]? =some v)=>oW (f:=zU) (n:=6) (fun _=>rfl) h d hj
 obtain⟨m,i⟩:=g q (Ji d);exact⟨b,0,rfl,hb,c 0 _ rfl,c 1 _ rfl,c 2 _ rfl,c 3 _ rfl,c 4 _ rfl,m,q.2,c 5 _ rfl,i⟩
def RetProgO (w:World)(p:IProg)(e:Ending)(w':World):Prop:=
 ∃f1 f2 a1 a2 d1 d2 b1 b2,e=.returned (.agg (Z p f1 f2 a1 a2 d1 d2 b1 b2))/\
  ProgIn w' w'.heap.size ⟨.slice f1 p.funcs.length f2,.slice a1 p.args.length a2,.slice d1 p.data.length d2,.slice b1 p.banks.length b2⟩ p/\Q w w'
theorem mL.open{p:IProg}{e:Ending}(h:mL w p e w'):RetProgO w p e w':=by
 obtain⟨⟨Vf,Va,Vd,Vb⟩,rfl,hp,hb⟩:=h;obtain⟨f1,f2,e1,_,_⟩:=hp.funcs.form;obtain⟨a1,a2,e2,_,_⟩:=hp.args.form;obtain⟨d1,d2,e3,_,_⟩:=hp.data.form;obtain⟨b1,b2,e4,_,_⟩:=hp.banks.form;simp only at e1 e2 e3 e4;subst e1 e2 e3 e4;exact⟨f1,f2,a1,a2,d1,d2,b1,b2,rfl,hp,hb⟩
def eM (w:World)(R:IRun)(e:Ending)(w':World):Prop:=
 ∃oa oc,e=.returned (.agg #[M (R.value:Int),.slice oa R.out.length oc,I (R.kind:Int),M (R.info:Int),.string (y9 R.ram),I (R.inputs:Int),I (R.polls:Int)])/\vM w' w'.heap.size (.slice oa R.out.length oc) R.out/\Q w w'
theorem abr.open{R:IRun}{e:Ending}(h:abr w R e w'):eM w R e w':=by
 obtain⟨ov,rfl,ho,hb⟩:=h;obtain⟨oa,oc,rfl,_,_⟩:=ho.form;exact⟨oa,oc,rfl,ho,hb⟩
theorem uL {t:ITerm}{ops:List IOp}(d:ops.length<=2000000)(c:t.to.length<=2000000):mW (rd t ops):=by
 intro f hf;simp only[rd,Jo] at hf;subst hf;refine⟨⟨by simp,fun b hb=>?_⟩,fun b hb=>?_⟩
 ·rw[Jo] at hb;subst hb;exact⟨by simp,d,c⟩
 ·rw[Jo] at hb;subst hb;simp
theorem ro (x:Int)(h:(decide (-100<=x) && decide (x<=100))=true):I64 x:=by
 simp only[Jm,decide_eq_true_eq] at h;exact⟨by omega,by omega⟩
def afe (c:Int)(a b:Nat)(j:Int):List (IOp×Value):=[(⟨1,0,0,0,a,[]⟩,F),(⟨1,1,0,0,b,[]⟩,F),(⟨c,2,0,j,0,[]⟩,F)]
def exP (c:Int)(a b:Nat)(j:Int):IProg:=rd ⟨4,2,[]⟩ ((afe c a b j).map (·.1))
theorem exOps_ok(h:3<=c/\c<=17){a b:Nat}(f:a<65536)(hb:b<65536){j:Int}(g:0<=j/\j<=1):oz (afe c a b j):=by
 intro q d;simp only[afe,Jq,List.not_mem_nil,or_false] at d;rcases d with rfl|rfl|rfl
 ·exact⟨⟨ro _ rfl,ro _ rfl,ro _ rfl,ro _ rfl,f⟩,rfl,rfl⟩
 ·exact⟨⟨ro _ rfl,ro _ rfl,ro _ rfl,ro _ rfl,hb⟩,rfl,rfl⟩
 ·exact⟨⟨⟨by show _<=c;omega,by show c<=_;omega⟩,ro _ rfl,ro _ rfl,⟨by show _<=j;omega,by show j<=_;omega⟩,by show 0<65536;omega⟩,rfl,rfl⟩
def exJ (c:Int):Int:=if c=3∨c=4 then 0 else 1
theorem afy(d:3<=c/\c<=17)(a b:Nat):vC (exP c a b (exJ c))=0:=by
 have h:c=3∨c=4∨c=5∨c=6∨c=7∨c=8∨c=9∨c=10∨c=11∨c=12∨c=13∨c=14∨c=15∨c=16∨c=17:=Zo;rcases h with rfl|rfl|rfl|rfl|rfl|rfl|rfl|rfl|rfl|rfl|rfl|rfl|rfl|rfl|rfl<;>rfl
def exV (c:Int)(a b:Nat):Nat:=if c=8/\b=0 then 0 else rr c a b
def exF (c:Int)(b:Nat):Bool:=decide (¬(c=8/\b=0))
def exR (c:Int)(a b:Nat):IRun:=if c=8/\b=0 then⟨0,[],4,0,v7 ⟨#[]⟩,0,0⟩ else⟨rr c a b,[],6,0,v7 ⟨#[]⟩,0,0⟩
theorem exP_run(f:3<=c/\c<=17)(a b:Nat):i9 ⟨exP c a b (exJ c),[],[]⟩ 0 [] ⟨#[]⟩ 10=exR c a b:=by
 have d:io (exP c a b (exJ c)) 0 []=true:=by
  unfold io;rw[afy f a b];rfl
 refine(if_pos d).trans ?_;unfold exR;have h:c=3∨c=4∨c=5∨c=6∨c=7∨c=8∨c=9∨c=10∨c=11∨c=12∨c=13∨c=14∨c=15∨c=16∨c=17:=Zo;rcases h with rfl|rfl|rfl|rfl|rfl|rfl|rfl|rfl|rfl|rfl|rfl|rfl|rfl|rfl|rfl
 case inr.inr.inr.inr.inr.inl=>
  cases b with
  |zero=>rfl
  |succ b=>rfl
 all_goals rfl
theorem ex_prog{a b:Nat}{j:Int}(g:oz (afe c a b j)){W:World}(m:(((((w.alloc (U #[I 1,I 0,I 0,I 0,M a,F,I 1,I 1,I 0,I 0,M b,F,I c,I 2,I 0,I j,M 0,F] 27)).alloc (U #[F,L w.heap.size 3 3,I 4,I 2,F] 36)).alloc (U #[L (w.heap.size+1) 1 1] 39)).alloc (U #[I 0] 3)).alloc (U #[L (w.heap.size+1+1) 1 1,L (w.heap.size+1+1+1) 1 1,I 0,I (-1),F,F] 44))=W):
 Q w W/\ProgIn W W.heap.size ⟨L (w.heap.size+1+1) 1 1,L (w.heap.size+1+1+1) 1 1,F,F⟩ (exP c a b j)/\T W (w.heap.size+1+1+1+1) #[L (w.heap.size+1+1) 1 1,L (w.heap.size+1+1+1) 1 1,I 0,I (-1),F,F] 44:=by
 have hb:Q w (((((w.alloc (U #[I 1,I 0,I 0,I 0,M a,F,I 1,I 1,I 0,I 0,M b,F,I c,I 2,I 0,I j,M 0,F] 27)).alloc (U #[F,L w.heap.size 3 3,I 4,I 2,F] 36)).alloc (U #[L (w.heap.size+1) 1 1] 39)).alloc (U #[I 0] 3)).alloc (U #[L (w.heap.size+1+1) 1 1,L (w.heap.size+1+1+1) 1 1,I 0,I (-1),F,F] 44)):=(((((Below.refl _ _).alloc (Je _) _).alloc Zs _).alloc Zt _).alloc Zt _).alloc Zt _;have k:T (((((w.alloc (U #[I 1,I 0,I 0,I 0,M a,F,I 1,I 1,I 0,I 0,M b,F,I c,I 2,I 0,I j,M 0,F] 27)).alloc (U #[F,L w.heap.size 3 3,I 4,I 2,F] 36)).alloc (U #[L (w.heap.size+1) 1 1] 39)).alloc (U #[I 0] 3)).alloc (U #[L (w.heap.size+1+1) 1 1,L (w.heap.size+1+1+1) 1 1,I 0,I (-1),F,F] 44)) w.heap.size ((afe c a b j).flatMap zU).toArray 27:=zB (zB (zB (zB (zI rfl))));have d:T (((((w.alloc (U #[I 1,I 0,I 0,I 0,M a,F,I 1,I 1,I 0,I 0,M b,F,I c,I 2,I 0,I j,M 0,F] 27)).alloc (U #[F,L w.heap.size 3 3,I 4,I 2,F] 36)).alloc (U #[L (w.heap.size+1) 1 1] 39)).alloc (U #[I 0] 3)).alloc (U #[L (w.heap.size+1+1) 1 1,L (w.heap.size+1+1+1) 1 1,I 0,I (-1),F,F] 44)) (w.heap.size+1) #[F,L w.heap.size 3 3,I 4,I 2,F] 36:=zB (zB (zB (zI Zs)));have i:T (((((w.alloc (U #[I 1,I 0,I 0,I 0,M a,F,I 1,I 1,I 0,I 0,M b,F,I c,I 2,I 0,I j,M 0,F] 27)).alloc (U #[F,L w.heap.size 3 3,I 4,I 2,F] 36)).alloc (U #[L (w.heap.size+1) 1 1] 39)).alloc (U #[I 0] 3)).alloc (U #[L (w.heap.size+1+1) 1 1,L (w.heap.size+1+1+1) 1 1,I 0,I (-1),F,F] 44)) (w.heap.size+1+1) #[L (w.heap.size+1) 1 1] 39:=zB (zB (zI Zs));have h:T (((((w.alloc (U #[I 1,I 0,I 0,I 0,M a,F,I 1,I 1,I 0,I 0,M b,F,I c,I 2,I 0,I j,M 0,F] 27)).alloc (U #[F,L w.heap.size 3 3,I 4,I 2,F] 36)).alloc (U #[L (w.heap.size+1) 1 1] 39)).alloc (U #[I 0] 3)).alloc (U #[L (w.heap.size+1+1) 1 1,L (w.heap.size+1+1+1) 1 1,I 0,I (-1),F,F] 44)) (w.heap.size+1+1+1) #[I 0] 3:=zB (zI Zs);have f:T (((((w.alloc (U #[I 1,I 0,I 0,I 0,M a,F,I 1,I 1,I 0,I 0,M b,F,I c,I 2,I 0,I j,M 0,F] 27)).alloc (U #[F,L w.heap.size 3 3,I 4,I 2,F] 36)).alloc (U #[L (w.heap.size+1) 1 1] 39)).alloc (U #[I 0] 3)).alloc (U #[L (w.heap.size+1+1) 1 1,L (w.heap.size+1+1+1) 1 1,I 0,I (-1),F,F] 44)) (w.heap.size+1+1+1+1) #[L (w.heap.size+1+1) 1 1,L (w.heap.size+1+1+1) 1 1,I 0,I (-1),F,F] 44:=zI Zs;rw[m] at hb k d i h f;have o:=lt_of_block f;refine⟨hb,⟨?_,?_,yN.nil,yN.nil,ro _ rfl,ro _ rfl⟩,f⟩
 ·refine yN.one Zo ⟨L (w.heap.size+1) 1 1,zA i Zs,yN.one Zo ?_⟩;exact⟨zA d Zs,zA d Zs,⟨ro _ rfl,ro _ rfl⟩,F,L w.heap.size 3 3,F,zA d Zs,zA d Zs,zA d Zs,yN.nil,afj (l:=afe c a b j) k Zo (eV g _ _) (by show 3<=1000000;decide),yN.nil⟩
 ·exact yN.one Zo ⟨zA h Zs,ro _ rfl⟩
theorem exR_form (c:Int)(a b:Nat):∃k:Nat,exR c a b=⟨exV c a b,[],k,0,v7 ⟨#[]⟩,0,0⟩/\((k:Int)==6)=exF c b:=by
 unfold exR exV exF
 by_cases h:c=8/\b=0
 ·rw[if_pos h,if_pos h];exact⟨4,rfl,by rw[decide_eq_false (fun k=>k h)];rfl⟩
 ·rw[if_neg h,if_neg h];exact⟨6,rfl,by rw[decide_eq_true h];rfl⟩
theorem afQ(hc:3<=c/\c<=17){a b:Nat}(ha:a<65536)(hb:b<65536)(w:World):
 A 68 #[I c,M a,M b] w (fun e w'=>e=.returned (.tuple #[M (exV c a b:Int),.bool (exF c b)])/\Q w w'):=by
 obtain⟨S,hS⟩:∃S,y9 (v7 ⟨#[]⟩)=S:=⟨_,rfl⟩
 obtain⟨k,hk,hf⟩:=exR_form c a b;have y:=exP_run hc a b;rw[hk] at y;have a0:=exOps_ok hc ha hb (j:=exJ c) (by unfold exJ;split<;>omega);obtain⟨v,hv⟩:∃v,exV c a b=v:=⟨_,rfl⟩
 obtain⟨f,a2⟩:∃f,exF c b=f:=⟨_,rfl⟩
 rw[hv] at y ⊢;rw[a2] at hf ⊢
 have a3:∀(j:Int),exJ c=j->∀(W:World),(((((w.alloc (U #[I 1,I 0,I 0,I 0,M a,F,I 1,I 1,I 0,I 0,M b,F,I c,I 2,I 0,I j,M 0,F] 27)).alloc (U #[F,L w.heap.size 3 3,I 4,I 2,F] 36)).alloc (U #[L (w.heap.size+1) 1 1] 39)).alloc (U #[I 0] 3)).alloc (U #[L (w.heap.size+1+1) 1 1,L (w.heap.size+1+1+1) 1 1,I 0,I (-1),F,F] 44))=W->Q w W/\T W (w.heap.size+1+1+1+1) #[L (w.heap.size+1+1) 1 1,L (w.heap.size+1+1+1) 1 1,I 0,I (-1),F,F] 44/\A 82 #[.agg #[L (w.heap.size+1+1) 1 1,L (w.heap.size+1+1+1) 1 1,I 0,I (-1),F,F],I 0,F,.string ⟨#[]⟩,.agg #[F,F],I 10] W (fun e w'=>∃oa1 oc1,e=.returned (.agg #[M v,.slice oa1 0 oc1,I k,M 0,.string S,I 0,I 0])/\Q W w'):=fun j hj W hW=>by
  subst hj;obtain⟨h1,h2,h3⟩:=ex_prog a0 hW;refine⟨h1,h3,?_⟩;have:=(mX h2 (uL (t:=⟨4,2,[]⟩) (by show 3<=2000000;decide) Zd) 0 (ro _ rfl) yN.nil ⟨#[]⟩ Zd yN.nil yN.nil 10 (ro _ rfl) Zd).mono (fun e w' h=>h.open);rw[y] at this;rw[<-hS];exact this.mono (fun e w' ⟨oa1,oc1,h1,_,h3⟩=>⟨oa1,oc1,h1,h3⟩)
 have x:=Ja a3;have HF:=Ja hf;obtain⟨q3,h3⟩:∃q,(c==3)=q:=⟨_,rfl⟩
 obtain⟨q4,h4⟩:∃q,(c==4)=q:=⟨_,rfl⟩
 have hj:exJ c=if q3||q4 then 0 else 1:=by
  unfold exJ;rw[<-h3,<-h4];simp only[Bool.or_eq_true,beq_iff_eq]
 have HJ:=Ja hj;clear hj a3 hf y a0 hv a2 hk hS ha hb hc;go_enter Try.func68,Try.ntmps68;cases q3;cases q4
 ·go_upto_region 5 with(go_at_call 999999;skip)
  obtain⟨P1,i⟩:∃P1,(((((w.alloc (U #[I 1,I 0,I 0,I 0,M a,F,I 1,I 1,I 0,I 0,M b,F,I c,I 2,I 0,I 1,M 0,F] 27)).alloc (U #[F,L w.heap.size 3 3,I 4,I 2,F] 36)).alloc (U #[L (w.heap.size+1) 1 1] 39)).alloc (U #[I 0] 3)).alloc (U #[L (w.heap.size+1+1) 1 1,L (w.heap.size+1+1+1) 1 1,I 0,I (-1),F,F] 44))=P1:=⟨_,rfl⟩
  have d:=Ja (x.out 1 (HJ.out) P1 i);rw[i];clear i x HJ;have x0:=K0 d.out.2.1;have x1:=K1 d.out.2.1;have x2:=K2 d.out.2.1;have x3:=K3 d.out.2.1;have x4:=K4 d.out.2.1;have x5:=K5 d.out.2.1;go_upto_region 6 with(go_at_call 82;go_must (refine(d.out.2.2).mono ?_;rintro e w1 ⟨oa1,oc1,rfl,hb⟩))
  clear x0 x1 x2 x3 x4 x5;have hx:=zI (W:=w1) (o:=U #[M v,.slice oa1 0 oc1,I k,M 0,.string S,I 0,I 0] 134) rfl;have u:=(Below.refl w1.heap.size w1).alloc (Je _) (U #[M v,.slice oa1 0 oc1,I k,M 0,.string S,I 0,I 0] 134);have m:=(d.out.1.trans ((hb.trans (u.mono hb.size)).mono d.out.1.size))
  generalize hW:w1.alloc (U #[M v,.slice oa1 0 oc1,I k,M 0,.string S,I 0,I 0] 134)=R1 at *;generalize hc:w1.heap.size=r1 at *;have g:=Ja (Jb m hx);clear hb hx u m hW hc d;have y0:=K0 g.out.2;have y2:=K2 g.out.2;have l:=lt_of_block g.out.2;have HC:=Ja (show ∀W',Q R1 W'->O W' r1 0 (M v)/\O W' r1 2 (I k) from fun W' hb=>⟨(hb.cell (p:=⟨r1,0,none⟩) l).trans y0,(hb.cell (p:=⟨r1,2,none⟩) l).trans y2⟩);have a1:=HF.out
  go_region_held3 (fun w'=>O w' r1 0 (M v)/\O w' r1 2 (I k)) ((refine HC.out _ ?_;repeat' (first|with_reducible exact Below.refl _ _|with_reducible assumption|with_reducible refine Below.drew ?_))) (fail)
  all_goals go_wp2
  all_goals refine bodyPost_ret (v:=.tuple #[M v,.bool f]) (by simp[results,Try.results68,go_sem]) rfl ?_
  all_goals (refine⟨rfl,g.out.1.trans (Below.mono (B:=R1.heap.size) ?_ g.out.1.size)⟩;repeat' (first|with_reducible exact Below.refl _ _|with_reducible assumption|with_reducible refine Below.drew ?_))
 ·go_upto_region 5 with(go_at_call 999999;skip)
  obtain⟨P1,i⟩:∃P1,(((((w.alloc (U #[I 1,I 0,I 0,I 0,M a,F,I 1,I 1,I 0,I 0,M b,F,I c,I 2,I 0,I 0,M 0,F] 27)).alloc (U #[F,L w.heap.size 3 3,I 4,I 2,F] 36)).alloc (U #[L (w.heap.size+1) 1 1] 39)).alloc (U #[I 0] 3)).alloc (U #[L (w.heap.size+1+1) 1 1,L (w.heap.size+1+1+1) 1 1,I 0,I (-1),F,F] 44))=P1:=⟨_,rfl⟩
  have d:=Ja (x.out 0 (HJ.out) P1 i);rw[i];clear i x HJ;have x0:=K0 d.out.2.1;have x1:=K1 d.out.2.1;have x2:=K2 d.out.2.1;have x3:=K3 d.out.2.1;have x4:=K4 d.out.2.1;have x5:=K5 d.out.2.1;go_upto_region 6 with(go_at_call 82;go_must (refine(d.out.2.2).mono ?_;rintro e w1 ⟨oa1,oc1,rfl,hb⟩))
  clear x0 x1 x2 x3 x4 x5;have hx:=zI (W:=w1) (o:=U #[M v,.slice oa1 0 oc1,I k,M 0,.string S,I 0,I 0] 134) rfl;have u:=(Below.refl w1.heap.size w1).alloc (Je _) (U #[M v,.slice oa1 0 oc1,I k,M 0,.string S,I 0,I 0] 134);have m:=(d.out.1.trans ((hb.trans (u.mono hb.size)).mono d.out.1.size))
  generalize hW:w1.alloc (U #[M v,.slice oa1 0 oc1,I k,M 0,.string S,I 0,I 0] 134)=R1 at *;generalize hc:w1.heap.size=r1 at *;have g:=Ja (Jb m hx);clear hb hx u m hW hc d;have y0:=K0 g.out.2;have y2:=K2 g.out.2;have l:=lt_of_block g.out.2;have HC:=Ja (show ∀W',Q R1 W'->O W' r1 0 (M v)/\O W' r1 2 (I k) from fun W' hb=>⟨(hb.cell (p:=⟨r1,0,none⟩) l).trans y0,(hb.cell (p:=⟨r1,2,none⟩) l).trans y2⟩);have a1:=HF.out
  go_region_held3 (fun w'=>O w' r1 0 (M v)/\O w' r1 2 (I k)) ((refine HC.out _ ?_;repeat' (first|with_reducible exact Below.refl _ _|with_reducible assumption|with_reducible refine Below.drew ?_))) (fail)
  all_goals go_wp2
  all_goals refine bodyPost_ret (v:=.tuple #[M v,.bool f]) (by simp[results,Try.results68,go_sem]) rfl ?_
  all_goals (refine⟨rfl,g.out.1.trans (Below.mono (B:=R1.heap.size) ?_ g.out.1.size)⟩;repeat' (first|with_reducible exact Below.refl _ _|with_reducible assumption|with_reducible refine Below.drew ?_))
 ·go_upto_region 5 with(go_at_call 999999;skip)
  obtain⟨P1,i⟩:∃P1,(((((w.alloc (U #[I 1,I 0,I 0,I 0,M a,F,I 1,I 1,I 0,I 0,M b,F,I c,I 2,I 0,I 0,M 0,F] 27)).alloc (U #[F,L w.heap.size 3 3,I 4,I 2,F] 36)).alloc (U #[L (w.heap.size+1) 1 1] 39)).alloc (U #[I 0] 3)).alloc (U #[L (w.heap.size+1+1) 1 1,L (w.heap.size+1+1+1) 1 1,I 0,I (-1),F,F] 44))=P1:=⟨_,rfl⟩
  have d:=Ja (x.out 0 (HJ.out) P1 i);rw[i];clear i x HJ;have x0:=K0 d.out.2.1;have x1:=K1 d.out.2.1;have x2:=K2 d.out.2.1;have x3:=K3 d.out.2.1;have x4:=K4 d.out.2.1;have x5:=K5 d.out.2.1;go_upto_region 6 with(go_at_call 82;go_must (refine(d.out.2.2).mono ?_;rintro e w1 ⟨oa1,oc1,rfl,hb⟩))
  clear x0 x1 x2 x3 x4 x5;have hx:=zI (W:=w1) (o:=U #[M v,.slice oa1 0 oc1,I k,M 0,.string S,I 0,I 0] 134) rfl;have u:=(Below.refl w1.heap.size w1).alloc (Je _) (U #[M v,.slice oa1 0 oc1,I k,M 0,.string S,I 0,I 0] 134);have m:=(d.out.1.trans ((hb.trans (u.mono hb.size)).mono d.out.1.size))
  generalize hW:w1.alloc (U #[M v,.slice oa1 0 oc1,I k,M 0,.string S,I 0,I 0] 134)=R1 at *;generalize hc:w1.heap.size=r1 at *;have g:=Ja (Jb m hx);clear hb hx u m hW hc d;have y0:=K0 g.out.2;have y2:=K2 g.out.2;have l:=lt_of_block g.out.2;have HC:=Ja (show ∀W',Q R1 W'->O W' r1 0 (M v)/\O W' r1 2 (I k) from fun W' hb=>⟨(hb.cell (p:=⟨r1,0,none⟩) l).trans y0,(hb.cell (p:=⟨r1,2,none⟩) l).trans y2⟩);have a1:=HF.out
  go_region_held3 (fun w'=>O w' r1 0 (M v)/\O w' r1 2 (I k)) ((refine HC.out _ ?_;repeat' (first|with_reducible exact Below.refl _ _|with_reducible assumption|with_reducible refine Below.drew ?_))) (fail)
  all_goals go_wp2
  all_goals refine bodyPost_ret (v:=.tuple #[M v,.bool f]) (by simp[results,Try.results68,go_sem]) rfl ?_
  all_goals (refine⟨rfl,g.out.1.trans (Below.mono (B:=R1.heap.size) ?_ g.out.1.size)⟩;repeat' (first|with_reducible exact Below.refl _ _|with_reducible assumption|with_reducible refine Below.drew ?_))
structure SK where
 sb:Nat
 rb:Nat
 kb:Nat
 rm:Nat
 n:Nat
 B:Nat
 V:PV
 fv:Value
variable {K:SK}
def slCells (K:SK)(p:IProg)(k:Nat):Array Value:=#[K.V.fv,K.V.av,I p.entry,I p.handler,K.V.dv,K.V.bv,K.fv,.map (some K.rm),L K.rb K.n K.n,L K.kb K.n K.n,I k]
def xe (a:Rg):List Value:=[M (a.lo:Int),M (a.hi:Int)]
structure SlvAt (w:World) (K:SK) (p:IProg) (bls:List IBlk) (k:Nat) (s:Slv):Prop where
 prog:ProgIn w K.B K.V p
 blks:wX w K.B K.fv bls
 map:tt w K.rm 17 ruG
 cell:w.heap[K.sb]? =some (.cells (slCells K p k) 69 (0,0))
 row:w.heap[K.rb]? =some (.cells (s.r.flatMap xe).toArray 48 (0,0))
 kn:w.heap[K.kb]? =some (.cells (s.kn.map Value.bool).toArray 4 (0,0))
 oks:OkS K.n s
 n64:K.n<=1000000
 lt:K.B<=K.sb/\K.B<=K.rb/\K.B<=K.kb/\K.B<=K.rm
 ne:K.sb≠K.rb/\K.sb≠K.kb/\K.sb≠K.rm/\K.rb≠K.kb/\K.rb≠K.rm/\K.kb≠K.rm
theorem SlvAt.below{p:IProg}{c:List IBlk}{s:Slv}(h:SlvAt w K p c k s)(hb:Q w w'):SlvAt w' K p c k s:=by
 have f:=lt_of_block h.cell;have d:K.B<=w.heap.size:=Qd (Nat.lt_of_le_of_lt h.lt.1 f);exact⟨h.prog.below (hb.mono d),h.blks.below yT (hb.mono d),h.map.below hb,(hb.block _ f).trans h.cell,(hb.block _ (lt_of_block h.row)).trans h.row,(hb.block _ (lt_of_block h.kn)).trans h.kn,h.oks,h.n64,h.lt,h.ne⟩
theorem SlvAt.rcell{p:IProg}{c:List IBlk}{s:Slv}(h:SlvAt w K p c k s){v:Int}(d:0<=v/\v<K.n):
 O w K.rb (v.toNat*2) (M ((s.get v).lo:Int))/\O w K.rb (v.toNat*2+1) (M ((s.get v).hi:Int)):=by
 have hl:v.toNat<s.r.length:=by rw[h.oks.rl];omega
 have hg:s.r[v.toNat]? =some (s.get v):=by
  unfold Slv.get;rw[Jj,Jd hl];rfl
 exact⟨by have:=oW (f:=xe) (n:=2) (fun _=>rfl) h.row hg (j:=0) rfl;rw[Ng,Uk] at this;exact this,by have:=oW (f:=xe) (n:=2) (fun _=>rfl) h.row hg (j:=1) rfl;rw[Ng] at this;exact this⟩
theorem lf (w:World)(n:Nat):A 67 #[M n] w (fun e w'=>e=.returned (.agg #[M n,M n])/\Q w w'):=ag w n
theorem ce(sv:Value)(av:Value)(g:o.code=1)(p:IProg)(s:Slv):
 A 54 #[sv,aam o av] w (wb w (rk p s o)):=by
 rw[show rk p s o=qm o.n from if_pos g];obtain⟨c,d,a,b,x,al⟩:=o;subst g;unfold aam;have h:=Ja (fun W=>lf W x);go_enter Try.func54,Try.ntmps54;go_wp2_with (go_at_call 67;go_must (refine(h.out _).mono ?_;rintro e w1 ⟨rfl,f⟩;have hk:T w1 (w.heap.size+1) #[M 0,M 0] 48:=zH f (zI Zs) Zs;have f0:=zA (i:=0) hk rfl;have f1:=zA (i:=1) hk rfl;have g0:=zE (i:=0) hk;have g1:=zE (i:=1) hk;have j:=lt_of_block hk;have k:=Below.trans (show Q w _ from by repeat' (first|exact Below.refl _ _|(refine Below.alloc ?_ (by first|(simp;done)|(simp;omega)) _))) (f.mono (by first|(simp;done)|(simp;omega)));clear f hk))
 refine bodyPost_ret (v:=.agg #[M x,M x]) ?_ rfl ⟨rfl,by repeat' (first|exact Below.refl _ _|assumption|(refine Below.drew ?_)|(refine Below.alloc ?_ (by first|(simp;done)|(simp;omega)) _)|(refine Below.setCell ?_ (by first|(simp;done)|(simp;omega)) _))⟩;rw[zM rfl];go_simp
theorem SlvAt.cells{p:IProg}{c:List IBlk}{s:Slv}(h:SlvAt w K p c k s):
 O w K.sb 4 K.V.dv/\O w K.sb 7 (.map (some K.rm))/\O w K.sb 8 (L K.rb K.n K.n)/\O w K.sb 9 (L K.kb K.n K.n)/\O w K.sb 10 (I k)/\O w K.sb 6 K.fv:=
 ⟨zA h.cell rfl,zA h.cell rfl,zA h.cell rfl,zA h.cell rfl,zA h.cell rfl,zA h.cell rfl⟩
theorem ae5{p:IProg}{a4:List IBlk}{s:Slv}(h:SlvAt w K p a4 k s)(av:Value)(h2:o.code=2)(ha:0<=o.a/\o.a<p.data.length)(hn:o.n<65536):
 A 54 #[G K.sb,aam o av] w (wb w (rk p s o)):=by
 obtain⟨c,d,a,b,n,al⟩:=o;have ha:0<=a/\a<p.data.length:=ha;have hn:n<65536:=hn;obtain⟨j,rfl⟩:∃j:Nat,a=j:=⟨a.toNat,by omega⟩
 have h2:c=2:=h2;subst h2;rw[show rk p s ⟨2,d,j,b,n,al⟩=qm (((p.data.getD j ⟨0,0,0⟩).addr+n)%65536) from rfl];unfold aam;obtain⟨x,hx⟩:∃x,p.data[j]? =some x:=⟨_,Jd Zo⟩
 obtain⟨da,dc,m,a0,a1⟩:=h.prog.data.form;have l:=h.prog.data;rw[m] at l;obtain⟨db,dq,rfl,a2,g⟩:=l.get hx;obtain⟨y,hy⟩:∃y,(x.addr+n)%65536=y:=⟨_,rfl⟩
 rw[show(p.data.getD j ⟨0,0,0⟩)=x by rw[Jj,hx];rfl,hy];have a5:IntKind.u16.wrap ((x.addr:Int)+n)=(y:Int):=by rw[xY];omega
 have a3:K.B<=w.heap.size:=Qd (Nat.lt_of_le_of_lt h.lt.1 (lt_of_block h.cell));have a6:=lt_of_block h.cell;have hj:j<p.data.length:=Zo;have HC:=Ja (show ∀W,Q w W->O W K.sb 4 (.slice (some ⟨db,dq,none⟩) p.data.length dc)/\O W db (dq+j*3+1) (M (x.addr:Int)) from fun W hb=>⟨by rw[<-m];exact(h.below hb).cells.1,(hb.cell (p:=⟨db,dq+j*3+1,none⟩) (Jy a2 a3)).trans g.2.1⟩);have HO:=Ja (fun W=>lf W y);obtain⟨c0,c1⟩:=HC.out w (Below.refl _ _);clear h g l m hx hy ha hn a1 a0;go_enter Try.func54,Try.ntmps54;go_upto_region 5 with(go_at_call 999999;skip)
 obtain⟨X,hX⟩:∃X,(w.alloc (U #[I 2,I d,I j,I b,M n,av] 27)).alloc (U #[M 0,M 0] 48)=X:=⟨_,rfl⟩
 have f:=Ja (show Q w X/\T X w.heap.size #[I 2,I d,I j,I b,M n,av] 27/\T X (w.heap.size+1) #[M 0,M 0] 48 from by
  rw[<-hX];exact⟨by repeat' (first|exact Below.refl _ _|(refine Below.alloc ?_ (by first|(simp;done)|(simp;omega)) _)),zB (zI rfl),zI Zs⟩)
 rw[hX];clear hX c0 c1;have u:=Ja (show ∀W,Below (w.heap.size+1) X W->(O W K.sb 4 (.slice (some ⟨db,dq,none⟩) p.data.length dc)/\O W db (dq+j*3+1) (M (x.addr:Int)))/\O W w.heap.size 2 (I j)/\O W w.heap.size 4 (M n) from fun W hb=>⟨HC.out W (f.out.1.trans (hb.mono (Nat.le_succ _))),zA ((hb.block _ (Nat.lt_succ_self _)).trans f.out.2.1) rfl,zA ((hb.block _ (Nat.lt_succ_self _)).trans f.out.2.1) rfl⟩);obtain⟨⟨c0,c1⟩,c2,c3⟩:=u.out X (Below.refl _ _)
 go_region_held3 (fun w'=>(O w' K.sb 4 (.slice (some ⟨db,dq,none⟩) p.data.length dc)/\O w' db (dq+j*3+1) (M (x.addr:Int)))/\O w' w.heap.size 2 (I j)/\O w' w.heap.size 4 (M n))
  ((refine u.out _ ?_;repeat' (first|with_reducible exact Below.refl _ _|with_reducible assumption|with_reducible refine Below.drew ?_|refine Below.setCell ?_ (by first|exact Je _|(show w.heap.size+1<=w.heap.size+1;omega)) _)))
  ((go_at_call 67;(refine(HO.out _).mono ?_;rintro e w1 ⟨rfl,t⟩;have q:Q X w1:=Below.trans (show Q X _ from by repeat' (first|with_reducible exact Below.refl _ _|with_reducible refine Below.drew ?_)) (t.mono (Je _));clear t;have b1:Below (w.heap.size+1) X w1:=q.mono (Qd (lt_of_block f.out.2.2));have hk:=zH q f.out.2.2 (lt_of_block f.out.2.2);have f0:=zA (i:=0) hk rfl;have f1:=zA (i:=1) hk rfl;have g0:=zE (i:=0) hk;have g1:=zE (i:=1) hk;have a9:=lt_of_block hk;have b0:=f.out.1.trans (q.mono f.out.1.size))))
 all_goals go_wp2
 all_goals (refine bodyPost_ret (v:=.agg #[M y,M y]) ?_ rfl ⟨rfl,by repeat' (first|exact Below.refl _ _|assumption|(refine Below.drew ?_)|(refine Below.alloc ?_ (by first|(simp;done)|(simp;omega)) _)|(refine Below.setCell ?_ (by first|(simp;done)|(simp;omega)) _))⟩;rw[zM rfl];go_simp)
theorem ruG_ge(h:ruG c=some f):3<=c:=by
 by_cases d:3<=c
 ·exact d
 ·simp only[ruG,putR] at h
  iterate 17 rw[if_neg Zo] at h
  cases h
theorem abv{p:IProg}{t:List IBlk}{s:Slv}(h:SlvAt w K p t k s)(av:Value)(h1:o.code≠1)(h2:o.code≠2)(l:I64 o.code)(hr:ruG o.code=none):
 A 54 #[G K.sb,aam o av] w (wb w (rk p s o)):=by
 rw[show rk p s o=zf by unfold rk;rw[if_neg h1,if_neg h2];unfold gr;rw[ruG_none hr]];obtain⟨c,d,a,b,n,al⟩:=o;have h1:c≠1:=h1;have h2:c≠2:=h2;have e1:(c==1)=false:=by simpa using h1
 have e2:(c==2)=false:=by simpa using h2
 have hr:ruG c=none:=hr
 have u:=Ja (show ∀W,Q w W->(Instr.lookup 65 (.map (some K.rm)) (I c) true).run Try.prog W=.ok (.tuple #[.nilFunc,.bool false]) W from fun W hb=>by
  have:=(h.below hb).map.lookOk l
  rw[hr] at this;exact this)
 have x:=Ja (show ∀W,Q w W->O W K.sb 7 (.map (some K.rm)) from fun W hb=>(h.below hb).cells.2.1);unfold aam;clear h h1 h2 l hr;go_enter Try.func54,Try.ntmps54;go_upto_region 6 with(go_at_call 999999;skip)
 obtain⟨X,q⟩:∃X,(w.alloc (U #[I c,I d,I a,I b,M n,av] 27)).alloc (U #[M 0,M 0] 48)=X:=⟨_,rfl⟩
 have f:=Ja (show Q w X/\T X w.heap.size #[I c,I d,I a,I b,M n,av] 27/\T X (w.heap.size+1) #[M 0,M 0] 48 from by
  rw[<-q];exact⟨by repeat' (first|exact Below.refl _ _|(refine Below.alloc ?_ (by first|(simp;done)|(simp;omega)) _)),zB (zI rfl),zI Zs⟩)
 rw[q];clear q;have m:=Ja (show ∀W,Q X W->O W K.sb 7 (.map (some K.rm))/\O W w.heap.size 0 (I c) from fun W hb=>⟨x.out W (f.out.1.trans (hb.mono f.out.1.size)),zA (zH hb f.out.2.1 (lt_of_block f.out.2.1)) rfl⟩);obtain⟨c0,c1⟩:=m.out X (Below.refl _ _);have hl:=u.out X.drew f.out.1.drew
 go_region_held3 (fun w'=>O w' K.sb 7 (.map (some K.rm))/\O w' w.heap.size 0 (I c)) ((refine m.out _ ?_;repeat' (first|with_reducible exact Below.refl _ _|with_reducible assumption|with_reducible refine Below.drew ?_)))
  (fail)
 all_goals go_wp2_with (go_at_call 20;go_must (refine(vt _).mono ?_;rintro e w1 ⟨rfl,j⟩;have g:Q X w1:=Below.trans (show Q X _ from by repeat' (first|with_reducible exact Below.refl _ _|with_reducible refine Below.drew ?_)) (j.mono (Je _));clear j;have hk:=zH g f.out.2.2 (lt_of_block f.out.2.2);have f0:=zA (i:=0) hk rfl;have f1:=zA (i:=1) hk rfl;have g0:=zE (i:=0) hk;have g1:=zE (i:=1) hk;have y:=lt_of_block hk;have a0:=f.out.1.trans (g.mono f.out.1.size)))
 all_goals (refine bodyPost_ret (v:=.agg #[M 0,M 65535]) ?_ rfl ⟨rfl,by repeat' (first|exact Below.refl _ _|assumption|(refine Below.drew ?_)|(refine Below.alloc ?_ (by first|(simp;done)|(simp;omega)) _)|(refine Below.setCell ?_ (by first|(simp;done)|(simp;omega)) _))⟩;rw[zM rfl];go_simp)
theorem ruG_mem(h:ruG c=some f):f=28∨f=30∨f=31∨f=32∨f=33∨f=35∨f=36∨f=37∨f=39∨f=40∨f=42∨f=43∨f=44∨f=46∨f=47∨f=48∨f=49:=by
 simp only[ruG,putR] at h
 by_cases d:c=23
 ·rw[if_pos d] at h;cases h;simp
 rw[if_neg d] at h
 by_cases g:c=19
 ·rw[if_pos g] at h;cases h;simp
 rw[if_neg g] at h
 by_cases i:c=17
 ·rw[if_pos i] at h;cases h;simp
 rw[if_neg i] at h
 by_cases j:c=16
 ·rw[if_pos j] at h;cases h;simp
 rw[if_neg j] at h
 by_cases k:c=15
 ·rw[if_pos k] at h;cases h;simp
 rw[if_neg k] at h
 by_cases l:c=14
 ·rw[if_pos l] at h;cases h;simp
 rw[if_neg l] at h
 by_cases m:c=13
 ·rw[if_pos m] at h;cases h;simp
 rw[if_neg m] at h
 by_cases o:c=12
 ·rw[if_pos o] at h;cases h;simp
 rw[if_neg o] at h
 by_cases q:c=11
 ·rw[if_pos q] at h;cases h;simp
 rw[if_neg q] at h
 by_cases t:c=10
 ·rw[if_pos t] at h;cases h;simp
 rw[if_neg t] at h
 by_cases u:c=9
 ·rw[if_pos u] at h;cases h;simp
 rw[if_neg u] at h
 by_cases w:c=8
 ·rw[if_pos w] at h;cases h;simp
 rw[if_neg w] at h
 by_cases x:c=7
 ·rw[if_pos x] at h;cases h;simp
 rw[if_neg x] at h
 by_cases y:c=6
 ·rw[if_pos y] at h;cases h;simp
 rw[if_neg y] at h
 by_cases h5:c=5
 ·rw[if_pos h5] at h;cases h;simp
 rw[if_neg h5] at h
 by_cases h4:c=4
 ·rw[if_pos h4] at h;cases h;simp
 rw[if_neg h4] at h
 by_cases h3:c=3
 ·rw[if_pos h3] at h;cases h;simp
 rw[if_neg h3] at h;cases h
theorem appF_by{x y r:Rg}(hr:sl c x y=some r):gr c x y=if(decide (c<=17) && (zx x && (((c==3)||(c==4))||zx y)))=true then(if exF c y.lo=true then qm (exV c x.lo y.lo) else zf) else r:=by
 unfold gr;rw[hr];simp only[Jm,Bool.or_eq_true,decide_eq_true_eq,beq_iff_eq]
 split
 ·unfold exF exV;simp only[decide_eq_true_eq]
  by_cases h:c=8/\y.lo=0
  ·rw[if_pos h,if_neg (fun k=>k h)]
  ·rw[if_neg h,if_pos h,if_neg h]
 ·rfl
theorem bf{p:IProg}{e0:List IBlk}{s:Slv}(h:SlvAt w K p e0 k s)(av:Value)(h1:o.code≠1)(h2:o.code≠2)(h64:I64 o.code)(hr:ruG o.code=some f)
 (ha:0<=o.a/\o.a<K.n) (hb:0<=o.b/\o.b<K.n):
 A 54 #[G K.sb,aam o av] w (wb w (rk p s o)):=by
 rw[show rk p s o=gr o.code (s.get o.a) (s.get o.b) by unfold rk;rw[if_neg h1,if_neg h2]];obtain⟨c,d,a,b,n,al⟩:=o;have h1:c≠1:=h1;have h2:c≠2:=h2;have e1:(c==1)=false:=by simpa using h1
 have e2:(c==2)=false:=by simpa using h2
 have hr:ruG c=some f:=hr;have h64:I64 c:=h64;have ha:0<=a/\a<K.n:=ha;have hb:0<=b/\b<K.n:=hb
 show Calls _ _ _ _ (wb w (gr c (s.get a) (s.get b)))
 have b5:=fun(W:World) (hW:Below w.heap.size w W)=>(h.below hW).rcell ha
 have b4:=fun(W:World) (hW:Below w.heap.size w W)=>(h.below hW).rcell hb
 have c9:=h.oks.get a;have c8:=h.oks.get b;obtain⟨u,rfl⟩:∃u:Nat,a=u:=⟨a.toNat,by omega⟩
 obtain⟨v,rfl⟩:∃v:Nat,b=v:=⟨b.toNat,by omega⟩
 generalize s.get (u:Int)=x at *;generalize s.get (v:Int)=y at *;have hn:=h.n64;have hu:u<K.n:=Zo;have hv:v<K.n:=Zo
 have HL:=Ja (show ∀W,Below w.heap.size w W->(Instr.lookup 65 (.map (some K.rm)) (I c) true).run Try.prog W=.ok (.tuple #[.func (.func f) #[] #[],.bool true]) W from fun W hb=>by
  have:=(h.below hb).map.lookOk h64
  rw[hr] at this;exact this)
 have HC:=Ja (show ∀W,Below w.heap.size w W->O W K.sb 7 (.map (some K.rm))/\O W K.sb 8 (L K.rb K.n K.n)/\O W K.rb (u*2) (M (x.lo:Int))/\O W K.rb (u*2+1) (M (x.hi:Int))/\O W K.rb (v*2) (M (y.lo:Int))/\O W K.rb (v*2+1) (M (y.hi:Int)) from fun W hb=>⟨(h.below hb).cells.2.1,(h.below hb).cells.2.2.1,(b5 W hb).1,(b5 W hb).2,(b4 W hb).1,(b4 W hb).2⟩);obtain⟨R,hR⟩:∃R,gr c x y=R:=⟨_,rfl⟩
 have HP:=Ja (Jb hr (Jb c9 (Jb c8 hR)));rw[hR];unfold aam;clear h h1 h2 h64 hr b5 b4 c9 c8 ha hb hR;go_enter Try.func54,Try.ntmps54;go_upto_region 6 with(go_at_call 999999;skip)
 obtain⟨X,hX⟩:∃X,(w.alloc (U #[I c,I d,I u,I v,M n,av] 27)).alloc (U #[M 0,M 0] 48)=X:=⟨_,rfl⟩
 have HX:=Ja (show Below w.heap.size w X/\T X w.heap.size #[I c,I d,I u,I v,M n,av] 27/\T X (w.heap.size+1) #[M 0,M 0] 48 from by
  rw[<-hX];exact⟨by repeat' (first|exact Below.refl _ _|(refine Below.alloc ?_ (by first|(simp;done)|(simp;omega)) _)),zB (zI rfl),zI Zs⟩)
 rw[hX];clear hX;have b9:=Ja (show ∀W,Below X.heap.size X W->O W K.sb 7 (.map (some K.rm))/\O W w.heap.size 0 (I c) from fun W hb=>⟨(HC.out W (HX.out.1.trans (hb.mono HX.out.1.size))).1,zA (zH hb HX.out.2.1 (lt_of_block HX.out.2.1)) rfl⟩);have b6:=Ja (show ∀W,Below X.heap.size X W->(O W w.heap.size 2 (I u)/\O W w.heap.size 3 (I v))/\(O W K.sb 8 (L K.rb K.n K.n)/\O W K.rb (u*2) (M (x.lo:Int))/\O W K.rb (u*2+1) (M (x.hi:Int))/\O W K.rb (v*2) (M (y.lo:Int))/\O W K.rb (v*2+1) (M (y.hi:Int))) from fun W hb=>⟨⟨zA (zH hb HX.out.2.1 (lt_of_block HX.out.2.1)) rfl,zA (zH hb HX.out.2.1 (lt_of_block HX.out.2.1)) rfl⟩,(HC.out W (HX.out.1.trans (hb.mono HX.out.1.size))).2⟩);obtain⟨c0,c1⟩:=b9.out X (Below.refl _ _);have hl:=HL.out X.drew HX.out.1.drew
 go_region_held3 (fun w'=>O w' K.sb 7 (.map (some K.rm))/\O w' w.heap.size 0 (I c)) ((refine b9.out _ ?_;repeat' (first|with_reducible exact Below.refl _ _|with_reducible assumption|with_reducible refine Below.drew ?_)))
  (fail)
 all_goals go_upto_region 9 with(go_at_call 999999;skip)
 all_goals clear c0 c1 hl
 go_cut [7,8] (fun s t wx=>∃b7 b8,s=G b7/\t=G b8/\Hid (T wx b7 #[M (x.lo:Int),M (x.hi:Int)] 48/\T wx b8 #[M (y.lo:Int),M (y.hi:Int)] 48/\Below X.heap.size X wx))
 case first=>
  obtain⟨⟨c0,c1⟩,c2,c3,c4,c5,c6⟩:=b6.out X.drew (Below.refl _ _).drew
  go_region_held3 (fun w'=>(O w' w.heap.size 2 (I u)/\O w' w.heap.size 3 (I v))/\(O w' K.sb 8 (L K.rb K.n K.n)/\O w' K.rb (u*2) (M (x.lo:Int))/\O w' K.rb (u*2+1) (M (x.hi:Int))/\O w' K.rb (v*2) (M (y.lo:Int))/\O w' K.rb (v*2+1) (M (y.hi:Int)))) ((refine b6.out _ ?_;repeat' (first|with_reducible exact Below.refl _ _|with_reducible assumption|with_reducible refine Below.drew ?_|with_reducible refine Below.alloc ?_ Zn _|with_reducible refine Below.setCell ?_ Zn _)))
  (fail)
  all_goals go_wp2_with fail
  all_goals go_meet
  all_goals exact⟨_,_,rfl,rfl,by first|exact zB (zI rfl)|exact zI Zs,by first|exact zB (zI rfl)|exact zI Zs,by repeat' (first|with_reducible exact Below.refl _ _|with_reducible assumption|with_reducible refine Below.drew ?_|with_reducible refine Below.alloc ?_ Zn _|with_reducible refine Below.setCell ?_ Zn _)⟩
 case rest=>
  obtain⟨b7,b8,rfl,rfl,HY⟩:=hcut
  rename World=>Y
  have d0:=HX.out.1.trans (HY.out.2.2.mono HX.out.1.size);have d1:=zH HY.out.2.2 HX.out.2.2 (lt_of_block HX.out.2.2);have d2:=zH HY.out.2.2 HX.out.2.1 (lt_of_block HX.out.2.1);have HB:=Ja (Jb d0 (Jb d2 d1));clear d0 d1 d2 b6 b9 HC HL;have HZ:=Ja (show ∀W,Below Y.heap.size Y W->O W b7 0 (M (x.lo:Int))/\O W b7 1 (M (x.hi:Int))/\O W b8 0 (M (y.lo:Int))/\O W b8 1 (M (y.hi:Int))/\O W w.heap.size 0 (I c) from fun W hb=>⟨zA (zH hb HY.out.1 (lt_of_block HY.out.1)) rfl,zA (zH hb HY.out.1 (lt_of_block HY.out.1)) rfl,zA (zH hb HY.out.2.1 (lt_of_block HY.out.2.1)) rfl,zA (zH hb HY.out.2.1 (lt_of_block HY.out.2.1)) rfl,zA (zH hb HB.out.2.1 (lt_of_block HB.out.2.1)) rfl⟩);obtain⟨q3,h3⟩:∃q,(c==3)=q:=⟨_,rfl⟩
  obtain⟨q4,h4⟩:∃q,(c==4)=q:=⟨_,rfl⟩
  obtain⟨z0,z1,z2,z3,z4⟩:=HZ.out Y (Below.refl _ _);go_upto_region 10 with(go_at_call 999999;skip)
  go_cut [9] (fun s wx=>s=.bool (q3||q4)/\wx=Y)
  case first=>
   cases q3;cases q4
   all_goals go_wp2_with fail
   all_goals go_meet
   all_goals exact⟨rfl,rfl⟩
  case rest=>
   obtain⟨rfl,c7⟩:=hcut;rw[c7];clear c7;obtain⟨q9,h9⟩:∃q,(q3||q4)=q:=⟨_,rfl⟩
   obtain⟨sx,a9⟩:∃q,zx x=q:=⟨_,rfl⟩
   obtain⟨sy,a6⟩:∃q,zx y=q:=⟨_,rfl⟩
   obtain⟨Q,hQ⟩:∃Q,(decide (c<=17) && (sx && (q9||sy)))=Q:=⟨_,rfl⟩
   have a5:=Ja (fun W=>q6 W x);have d6:=Ja (fun W=>q6 W y);rw[a9] at a5;rw[a6] at d6;rw[h9];go_upto_region 11 with(go_at_call 999999;skip)
   have HQ:=Ja (Jb h3 (Jb h4 (Jb h9 (Jb a9 (Jb a6 hQ)))));clear h3 h4 h9 a9 a6
   go_cut [85] (fun s wx=>s=.bool Q/\Hid (Below Y.heap.size Y wx))
   case first=>
    by_cases d4:c<=17
    ·rw[decide_eq_true d4,Bool.true_and] at hQ;cases sx
     ·go_wp2_with (go_at_call 41;go_must (refine(a5.out _).mono ?_;rintro e w1 ⟨rfl,g⟩))
      go_meet;exact⟨by rw[<-hQ];rfl,g⟩
     ·cases q9
      ·go_wp2_with (go_at_call 41;go_must (first|(refine(a5.out Y).mono ?_;rintro e w1 ⟨rfl,g⟩;obtain⟨z0,z1,z2,z3,z4⟩:=HZ.out w1 g)|(refine(d6.out _).mono ?_;rintro e w2 ⟨rfl,a2⟩)))
       go_meet;exact⟨by rw[<-hQ];rfl,g.trans (a2.mono g.size)⟩
      ·go_wp2_with (go_at_call 41;go_must (refine(a5.out _).mono ?_;rintro e w1 ⟨rfl,g⟩))
       go_meet;exact⟨by rw[<-hQ];rfl,g⟩
    ·rw[decide_eq_false d4,Bool.false_and] at hQ;subst hQ;go_wp2_with fail;go_meet;exact⟨rfl,Below.refl _ _⟩
   case rest=>
    obtain⟨rfl,HW⟩:=hcut
    rename World=>Z
    have d3:=HB.out.1.trans (HW.out.mono HB.out.1.size);have b0:=zH HW.out HB.out.2.2 (lt_of_block HB.out.2.2);have l:=Ja (Jb d3 b0);clear d3 b0;obtain⟨r,a3,_⟩:=aeH HP.out.1 HP.out.2.1 HP.out.2.2.1 Z
    have HF:=Ja (show ∀W,A f #[.agg #[M (x.lo:Int),M (x.hi:Int)],.agg #[M (y.lo:Int),M (y.hi:Int)]] W (fun e w'=>e=.returned (.agg #[M (r.lo:Int),M (r.hi:Int)])/\Below W.heap.size W w') from fun W=>by
     obtain⟨r',h1,h2⟩:=aeH HP.out.1 HP.out.2.1 HP.out.2.2.1 W;rw[a3] at h1;cases h1
     exact h2)
    have hR:=appF_by a3;rw[HP.out.2.2.2,HQ.out.1,HQ.out.2.1,HQ.out.2.2.1,HQ.out.2.2.2.1,HQ.out.2.2.2.2.1,HQ.out.2.2.2.2.2] at hR;have d8:=ruG_ge HP.out.1;clear z0 z1 z2 z3 z4;obtain⟨z0,z1,z2,z3,z4⟩:=HZ.out Z HW.out;cases Q
    ·rw[if_neg Zd] at hR;subst hR;clear a3;rcases ruG_mem HP.out.1 with rfl|rfl|rfl|rfl|rfl|rfl|rfl|rfl|rfl|rfl|rfl|rfl|rfl|rfl|rfl|rfl|rfl
     ·go_wp2_with (go_at_call 28;go_must (refine(HF.out _).mono ?_;rintro e w1 ⟨rfl,g⟩;have j:Below Z.heap.size Z w1:=Below.trans (show Below Z.heap.size Z _ from by repeat' (first|with_reducible exact Below.refl _ _|with_reducible refine Below.drew ?_)) (g.mono (Je _));clear g;have hk:=zH j l.out.2 (lt_of_block l.out.2);have f0:=zA (i:=0) hk rfl;have f1:=zA (i:=1) hk rfl;have g0:=zE (i:=0) hk;have g1:=zE (i:=1) hk;have m:=lt_of_block hk;have a0:=l.out.1.trans (j.mono l.out.1.size)))
      refine bodyPost_ret (v:=.agg #[M (R.lo:Int),M (R.hi:Int)]) ?_ rfl ⟨rfl,by repeat' (first|exact Below.refl _ _|assumption|(refine Below.drew ?_)|(refine Below.alloc ?_ (by first|(simp;done)|(simp;omega)) _)|(refine Below.setCell ?_ (by first|(simp;done)|(simp;omega)) _))⟩;rw[zM rfl];go_simp
     ·go_wp2_with (go_at_call 30;go_must (refine(HF.out _).mono ?_;rintro e w1 ⟨rfl,g⟩;have j:Below Z.heap.size Z w1:=Below.trans (show Below Z.heap.size Z _ from by repeat' (first|with_reducible exact Below.refl _ _|with_reducible refine Below.drew ?_)) (g.mono (Je _));clear g;have hk:=zH j l.out.2 (lt_of_block l.out.2);have f0:=zA (i:=0) hk rfl;have f1:=zA (i:=1) hk rfl;have g0:=zE (i:=0) hk;have g1:=zE (i:=1) hk;have m:=lt_of_block hk;have a0:=l.out.1.trans (j.mono l.out.1.size)))
      refine bodyPost_ret (v:=.agg #[M (R.lo:Int),M (R.hi:Int)]) ?_ rfl ⟨rfl,by repeat' (first|exact Below.refl _ _|assumption|(refine Below.drew ?_)|(refine Below.alloc ?_ (by first|(simp;done)|(simp;omega)) _)|(refine Below.setCell ?_ (by first|(simp;done)|(simp;omega)) _))⟩;rw[zM rfl];go_simp
     ·go_wp2_with (go_at_call 31;go_must (refine(HF.out _).mono ?_;rintro e w1 ⟨rfl,g⟩;have j:Below Z.heap.size Z w1:=Below.trans (show Below Z.heap.size Z _ from by repeat' (first|with_reducible exact Below.refl _ _|with_reducible refine Below.drew ?_)) (g.mono (Je _));clear g;have hk:=zH j l.out.2 (lt_of_block l.out.2);have f0:=zA (i:=0) hk rfl;have f1:=zA (i:=1) hk rfl;have g0:=zE (i:=0) hk;have g1:=zE (i:=1) hk;have m:=lt_of_block hk;have a0:=l.out.1.trans (j.mono l.out.1.size)))
      refine bodyPost_ret (v:=.agg #[M (R.lo:Int),M (R.hi:Int)]) ?_ rfl ⟨rfl,by repeat' (first|exact Below.refl _ _|assumption|(refine Below.drew ?_)|(refine Below.alloc ?_ (by first|(simp;done)|(simp;omega)) _)|(refine Below.setCell ?_ (by first|(simp;done)|(simp;omega)) _))⟩;rw[zM rfl];go_simp
     ·go_wp2_with (go_at_call 32;go_must (refine(HF.out _).mono ?_;rintro e w1 ⟨rfl,g⟩;have j:Below Z.heap.size Z w1:=Below.trans (show Below Z.heap.size Z _ from by repeat' (first|with_reducible exact Below.refl _ _|with_reducible refine Below.drew ?_)) (g.mono (Je _));clear g;have hk:=zH j l.out.2 (lt_of_block l.out.2);have f0:=zA (i:=0) hk rfl;have f1:=zA (i:=1) hk rfl;have g0:=zE (i:=0) hk;have g1:=zE (i:=1) hk;have m:=lt_of_block hk;have a0:=l.out.1.trans (j.mono l.out.1.size)))
      refine bodyPost_ret (v:=.agg #[M (R.lo:Int),M (R.hi:Int)]) ?_ rfl ⟨rfl,by repeat' (first|exact Below.refl _ _|assumption|(refine Below.drew ?_)|(refine Below.alloc ?_ (by first|(simp;done)|(simp;omega)) _)|(refine Below.setCell ?_ (by first|(simp;done)|(simp;omega)) _))⟩;rw[zM rfl];go_simp
     ·go_wp2_with (go_at_call 33;go_must (refine(HF.out _).mono ?_;rintro e w1 ⟨rfl,g⟩;have j:Below Z.heap.size Z w1:=Below.trans (show Below Z.heap.size Z _ from by repeat' (first|with_reducible exact Below.refl _ _|with_reducible refine Below.drew ?_)) (g.mono (Je _));clear g;have hk:=zH j l.out.2 (lt_of_block l.out.2);have f0:=zA (i:=0) hk rfl;have f1:=zA (i:=1) hk rfl;have g0:=zE (i:=0) hk;have g1:=zE (i:=1) hk;have m:=lt_of_block hk;have a0:=l.out.1.trans (j.mono l.out.1.size)))
      refine bodyPost_ret (v:=.agg #[M (R.lo:Int),M (R.hi:Int)]) ?_ rfl ⟨rfl,by repeat' (first|exact Below.refl _ _|assumption|(refine Below.drew ?_)|(refine Below.alloc ?_ (by first|(simp;done)|(simp;omega)) _)|(refine Below.setCell ?_ (by first|(simp;done)|(simp;omega)) _))⟩;rw[zM rfl];go_simp
     ·go_wp2_with (go_at_call 35;go_must (refine(HF.out _).mono ?_;rintro e w1 ⟨rfl,g⟩;have j:Below Z.heap.size Z w1:=Below.trans (show Below Z.heap.size Z _ from by repeat' (first|with_reducible exact Below.refl _ _|with_reducible refine Below.drew ?_)) (g.mono (Je _));clear g;have hk:=zH j l.out.2 (lt_of_block l.out.2);have f0:=zA (i:=0) hk rfl;have f1:=zA (i:=1) hk rfl;have g0:=zE (i:=0) hk;have g1:=zE (i:=1) hk;have m:=lt_of_block hk;have a0:=l.out.1.trans (j.mono l.out.1.size)))
      refine bodyPost_ret (v:=.agg #[M (R.lo:Int),M (R.hi:Int)]) ?_ rfl ⟨rfl,by repeat' (first|exact Below.refl _ _|assumption|(refine Below.drew ?_)|(refine Below.alloc ?_ (by first|(simp;done)|(simp;omega)) _)|(refine Below.setCell ?_ (by first|(simp;done)|(simp;omega)) _))⟩;rw[zM rfl];go_simp
     ·go_wp2_with (go_at_call 36;go_must (refine(HF.out _).mono ?_;rintro e w1 ⟨rfl,g⟩;have j:Below Z.heap.size Z w1:=Below.trans (show Below Z.heap.size Z _ from by repeat' (first|with_reducible exact Below.refl _ _|with_reducible refine Below.drew ?_)) (g.mono (Je _));clear g;have hk:=zH j l.out.2 (lt_of_block l.out.2);have f0:=zA (i:=0) hk rfl;have f1:=zA (i:=1) hk rfl;have g0:=zE (i:=0) hk;have g1:=zE (i:=1) hk;have m:=lt_of_block hk;have a0:=l.out.1.trans (j.mono l.out.1.size)))
      refine bodyPost_ret (v:=.agg #[M (R.lo:Int),M (R.hi:Int)]) ?_ rfl ⟨rfl,by repeat' (first|exact Below.refl _ _|assumption|(refine Below.drew ?_)|(refine Below.alloc ?_ (by first|(simp;done)|(simp;omega)) _)|(refine Below.setCell ?_ (by first|(simp;done)|(simp;omega)) _))⟩;rw[zM rfl];go_simp
     ·go_wp2_with (go_at_call 37;go_must (refine(HF.out _).mono ?_;rintro e w1 ⟨rfl,g⟩;have j:Below Z.heap.size Z w1:=Below.trans (show Below Z.heap.size Z _ from by repeat' (first|with_reducible exact Below.refl _ _|with_reducible refine Below.drew ?_)) (g.mono (Je _));clear g;have hk:=zH j l.out.2 (lt_of_block l.out.2);have f0:=zA (i:=0) hk rfl;have f1:=zA (i:=1) hk rfl;have g0:=zE (i:=0) hk;have g1:=zE (i:=1) hk;have m:=lt_of_block hk;have a0:=l.out.1.trans (j.mono l.out.1.size)))
      refine bodyPost_ret (v:=.agg #[M (R.lo:Int),M (R.hi:Int)]) ?_ rfl ⟨rfl,by repeat' (first|exact Below.refl _ _|assumption|(refine Below.drew ?_)|(refine Below.alloc ?_ (by first|(simp;done)|(simp;omega)) _)|(refine Below.setCell ?_ (by first|(simp;done)|(simp;omega)) _))⟩;rw[zM rfl];go_simp
     ·go_wp2_with (go_at_call 39;go_must (refine(HF.out _).mono ?_;rintro e w1 ⟨rfl,g⟩;have j:Below Z.heap.size Z w1:=Below.trans (show Below Z.heap.size Z _ from by repeat' (first|with_reducible exact Below.refl _ _|with_reducible refine Below.drew ?_)) (g.mono (Je _));clear g;have hk:=zH j l.out.2 (lt_of_block l.out.2);have f0:=zA (i:=0) hk rfl;have f1:=zA (i:=1) hk rfl;have g0:=zE (i:=0) hk;have g1:=zE (i:=1) hk;have m:=lt_of_block hk;have a0:=l.out.1.trans (j.mono l.out.1.size)))
      refine bodyPost_ret (v:=.agg #[M (R.lo:Int),M (R.hi:Int)]) ?_ rfl ⟨rfl,by repeat' (first|exact Below.refl _ _|assumption|(refine Below.drew ?_)|(refine Below.alloc ?_ (by first|(simp;done)|(simp;omega)) _)|(refine Below.setCell ?_ (by first|(simp;done)|(simp;omega)) _))⟩;rw[zM rfl];go_simp
     ·go_wp2_with (go_at_call 40;go_must (refine(HF.out _).mono ?_;rintro e w1 ⟨rfl,g⟩;have j:Below Z.heap.size Z w1:=Below.trans (show Below Z.heap.size Z _ from by repeat' (first|with_reducible exact Below.refl _ _|with_reducible refine Below.drew ?_)) (g.mono (Je _));clear g;have hk:=zH j l.out.2 (lt_of_block l.out.2);have f0:=zA (i:=0) hk rfl;have f1:=zA (i:=1) hk rfl;have g0:=zE (i:=0) hk;have g1:=zE (i:=1) hk;have m:=lt_of_block hk;have a0:=l.out.1.trans (j.mono l.out.1.size)))
      refine bodyPost_ret (v:=.agg #[M (R.lo:Int),M (R.hi:Int)]) ?_ rfl ⟨rfl,by repeat' (first|exact Below.refl _ _|assumption|(refine Below.drew ?_)|(refine Below.alloc ?_ (by first|(simp;done)|(simp;omega)) _)|(refine Below.setCell ?_ (by first|(simp;done)|(simp;omega)) _))⟩;rw[zM rfl];go_simp
     ·go_wp2_with (go_at_call 42;go_must (refine(HF.out _).mono ?_;rintro e w1 ⟨rfl,g⟩;have j:Below Z.heap.size Z w1:=Below.trans (show Below Z.heap.size Z _ from by repeat' (first|with_reducible exact Below.refl _ _|with_reducible refine Below.drew ?_)) (g.mono (Je _));clear g;have hk:=zH j l.out.2 (lt_of_block l.out.2);have f0:=zA (i:=0) hk rfl;have f1:=zA (i:=1) hk rfl;have g0:=zE (i:=0) hk;have g1:=zE (i:=1) hk;have m:=lt_of_block hk;have a0:=l.out.1.trans (j.mono l.out.1.size)))
      refine bodyPost_ret (v:=.agg #[M (R.lo:Int),M (R.hi:Int)]) ?_ rfl ⟨rfl,by repeat' (first|exact Below.refl _ _|assumption|(refine Below.drew ?_)|(refine Below.alloc ?_ (by first|(simp;done)|(simp;omega)) _)|(refine Below.setCell ?_ (by first|(simp;done)|(simp;omega)) _))⟩;rw[zM rfl];go_simp
     ·go_wp2_with (go_at_call 43;go_must (refine(HF.out _).mono ?_;rintro e w1 ⟨rfl,g⟩;have j:Below Z.heap.size Z w1:=Below.trans (show Below Z.heap.size Z _ from by repeat' (first|with_reducible exact Below.refl _ _|with_reducible refine Below.drew ?_)) (g.mono (Je _));clear g;have hk:=zH j l.out.2 (lt_of_block l.out.2);have f0:=zA (i:=0) hk rfl;have f1:=zA (i:=1) hk rfl;have g0:=zE (i:=0) hk;have g1:=zE (i:=1) hk;have m:=lt_of_block hk;have a0:=l.out.1.trans (j.mono l.out.1.size)))
      refine bodyPost_ret (v:=.agg #[M (R.lo:Int),M (R.hi:Int)]) ?_ rfl ⟨rfl,by repeat' (first|exact Below.refl _ _|assumption|(refine Below.drew ?_)|(refine Below.alloc ?_ (by first|(simp;done)|(simp;omega)) _)|(refine Below.setCell ?_ (by first|(simp;done)|(simp;omega)) _))⟩;rw[zM rfl];go_simp
     ·go_wp2_with (go_at_call 44;go_must (refine(HF.out _).mono ?_;rintro e w1 ⟨rfl,g⟩;have j:Below Z.heap.size Z w1:=Below.trans (show Below Z.heap.size Z _ from by repeat' (first|with_reducible exact Below.refl _ _|with_reducible refine Below.drew ?_)) (g.mono (Je _));clear g;have hk:=zH j l.out.2 (lt_of_block l.out.2);have f0:=zA (i:=0) hk rfl;have f1:=zA (i:=1) hk rfl;have g0:=zE (i:=0) hk;have g1:=zE (i:=1) hk;have m:=lt_of_block hk;have a0:=l.out.1.trans (j.mono l.out.1.size)))
      refine bodyPost_ret (v:=.agg #[M (R.lo:Int),M (R.hi:Int)]) ?_ rfl ⟨rfl,by repeat' (first|exact Below.refl _ _|assumption|(refine Below.drew ?_)|(refine Below.alloc ?_ (by first|(simp;done)|(simp;omega)) _)|(refine Below.setCell ?_ (by first|(simp;done)|(simp;omega)) _))⟩;rw[zM rfl];go_simp
     ·go_wp2_with (go_at_call 46;go_must (refine(HF.out _).mono ?_;rintro e w1 ⟨rfl,g⟩;have j:Below Z.heap.size Z w1:=Below.trans (show Below Z.heap.size Z _ from by repeat' (first|with_reducible exact Below.refl _ _|with_reducible refine Below.drew ?_)) (g.mono (Je _));clear g;have hk:=zH j l.out.2 (lt_of_block l.out.2);have f0:=zA (i:=0) hk rfl;have f1:=zA (i:=1) hk rfl;have g0:=zE (i:=0) hk;have g1:=zE (i:=1) hk;have m:=lt_of_block hk;have a0:=l.out.1.trans (j.mono l.out.1.size)))
      refine bodyPost_ret (v:=.agg #[M (R.lo:Int),M (R.hi:Int)]) ?_ rfl ⟨rfl,by repeat' (first|exact Below.refl _ _|assumption|(refine Below.drew ?_)|(refine Below.alloc ?_ (by first|(simp;done)|(simp;omega)) _)|(refine Below.setCell ?_ (by first|(simp;done)|(simp;omega)) _))⟩;rw[zM rfl];go_simp
     ·go_wp2_with (go_at_call 47;go_must (refine(HF.out _).mono ?_;rintro e w1 ⟨rfl,g⟩;have j:Below Z.heap.size Z w1:=Below.trans (show Below Z.heap.size Z _ from by repeat' (first|with_reducible exact Below.refl _ _|with_reducible refine Below.drew ?_)) (g.mono (Je _));clear g;have hk:=zH j l.out.2 (lt_of_block l.out.2);have f0:=zA (i:=0) hk rfl;have f1:=zA (i:=1) hk rfl;have g0:=zE (i:=0) hk;have g1:=zE (i:=1) hk;have m:=lt_of_block hk;have a0:=l.out.1.trans (j.mono l.out.1.size)))
      refine bodyPost_ret (v:=.agg #[M (R.lo:Int),M (R.hi:Int)]) ?_ rfl ⟨rfl,by repeat' (first|exact Below.refl _ _|assumption|(refine Below.drew ?_)|(refine Below.alloc ?_ (by first|(simp;done)|(simp;omega)) _)|(refine Below.setCell ?_ (by first|(simp;done)|(simp;omega)) _))⟩;rw[zM rfl];go_simp
     ·go_wp2_with (go_at_call 48;go_must (refine(HF.out _).mono ?_;rintro e w1 ⟨rfl,g⟩;have j:Below Z.heap.size Z w1:=Below.trans (show Below Z.heap.size Z _ from by repeat' (first|with_reducible exact Below.refl _ _|with_reducible refine Below.drew ?_)) (g.mono (Je _));clear g;have hk:=zH j l.out.2 (lt_of_block l.out.2);have f0:=zA (i:=0) hk rfl;have f1:=zA (i:=1) hk rfl;have g0:=zE (i:=0) hk;have g1:=zE (i:=1) hk;have m:=lt_of_block hk;have a0:=l.out.1.trans (j.mono l.out.1.size)))
      refine bodyPost_ret (v:=.agg #[M (R.lo:Int),M (R.hi:Int)]) ?_ rfl ⟨rfl,by repeat' (first|exact Below.refl _ _|assumption|(refine Below.drew ?_)|(refine Below.alloc ?_ (by first|(simp;done)|(simp;omega)) _)|(refine Below.setCell ?_ (by first|(simp;done)|(simp;omega)) _))⟩;rw[zM rfl];go_simp
     ·go_wp2_with (go_at_call 49;go_must (refine(HF.out _).mono ?_;rintro e w1 ⟨rfl,g⟩;have j:Below Z.heap.size Z w1:=Below.trans (show Below Z.heap.size Z _ from by repeat' (first|with_reducible exact Below.refl _ _|with_reducible refine Below.drew ?_)) (g.mono (Je _));clear g;have hk:=zH j l.out.2 (lt_of_block l.out.2);have f0:=zA (i:=0) hk rfl;have f1:=zA (i:=1) hk rfl;have g0:=zE (i:=0) hk;have g1:=zE (i:=1) hk;have m:=lt_of_block hk;have a0:=l.out.1.trans (j.mono l.out.1.size)))
      refine bodyPost_ret (v:=.agg #[M (R.lo:Int),M (R.hi:Int)]) ?_ rfl ⟨rfl,by repeat' (first|exact Below.refl _ _|assumption|(refine Below.drew ?_)|(refine Below.alloc ?_ (by first|(simp;done)|(simp;omega)) _)|(refine Below.setCell ?_ (by first|(simp;done)|(simp;omega)) _))⟩;rw[zM rfl];go_simp
    ·rw[if_pos rfl] at hR
     have d7:c<=17:=by
      have:=HQ.out.2.2.2.2.2;simp only[Jm,decide_eq_true_eq] at this;exact this.1
     obtain⟨fv,b1⟩:∃q,exF c y.lo=q:=⟨_,rfl⟩
     obtain⟨ev,b2⟩:∃q,exV c x.lo y.lo=q:=⟨_,rfl⟩
     have b3:=fun W=>afQ ⟨d8,d7⟩ (Nat.lt_of_le_of_lt (Jn HP.out.2.1.1 HP.out.2.1.2) Zd) (Nat.lt_of_le_of_lt (Jn HP.out.2.2.1.1 HP.out.2.2.1.2) Zd) W (a:=x.lo) (b:=y.lo)
     have a4:R=if fv=true then qm ev else zf:=by rw[<-b1,<-b2];exact hR
     rw[b1,b2] at b3;have d5:=Ja b3;have HO:=Ja (fun W=>lf W ev);clear b3 hR b1 b2 a3;cases fv
     ·rw[if_neg Zd] at a4;subst a4
      go_wp2_with (first
       |(go_at_call 68;go_must (refine(d5.out _).mono ?_;rintro e w1 ⟨rfl,g⟩;have a1:Below Z.heap.size Z w1:=Below.trans (show Below Z.heap.size Z _ from by repeat' (first|with_reducible exact Below.refl _ _|with_reducible refine Below.drew ?_)) (g.mono (Je _));clear g))
       |(go_at_call 20;go_must (refine(vt _).mono ?_;rintro e w2 ⟨rfl,a2⟩;have j:=a1.trans (a2.mono a1.size);clear a2 a1;have hk:=zH j l.out.2 (lt_of_block l.out.2);have f0:=zA (i:=0) hk rfl;have f1:=zA (i:=1) hk rfl;have g0:=zE (i:=0) hk;have g1:=zE (i:=1) hk;have m:=lt_of_block hk;have a0:=l.out.1.trans (j.mono l.out.1.size))))
      refine bodyPost_ret (v:=.agg #[M 0,M 65535]) ?_ rfl ⟨rfl,by repeat' (first|exact Below.refl _ _|assumption|(refine Below.drew ?_)|(refine Below.alloc ?_ (by first|(simp;done)|(simp;omega)) _)|(refine Below.setCell ?_ (by first|(simp;done)|(simp;omega)) _))⟩;rw[zM rfl];go_simp
     ·rw[if_pos rfl] at a4;subst a4
      go_wp2_with (first
       |(go_at_call 68;go_must (refine(d5.out _).mono ?_;rintro e w1 ⟨rfl,g⟩;have a1:Below Z.heap.size Z w1:=Below.trans (show Below Z.heap.size Z _ from by repeat' (first|with_reducible exact Below.refl _ _|with_reducible refine Below.drew ?_)) (g.mono (Je _));clear g))
       |(go_at_call 67;go_must (refine(HO.out _).mono ?_;rintro e w2 ⟨rfl,a2⟩;have j:=a1.trans (a2.mono a1.size);clear a2 a1;have hk:=zH j l.out.2 (lt_of_block l.out.2);have f0:=zA (i:=0) hk rfl;have f1:=zA (i:=1) hk rfl;have g0:=zE (i:=0) hk;have g1:=zE (i:=1) hk;have m:=lt_of_block hk;have a0:=l.out.1.trans (j.mono l.out.1.size))))
      refine bodyPost_ret (v:=.agg #[M ev,M ev]) ?_ rfl ⟨rfl,by repeat' (first|exact Below.refl _ _|assumption|(refine Below.drew ?_)|(refine Below.alloc ?_ (by first|(simp;done)|(simp;omega)) _)|(refine Below.setCell ?_ (by first|(simp;done)|(simp;omega)) _))⟩;rw[zM rfl];go_simp
section
variable {P:Program} {ops:Array Oper} {Q:Exit->Act->World->Prop} {md:Region.Mode} {S:World->Prop} {L:Nat}
def uO (P:Program)(md:Region.Mode)(ops:Array Oper)(Q:Exit->Act->World->Prop)(S:World->Prop)(L:Nat):Nat->Array Bool->Act->World->Prop
 |0,listed,a,w=>Region.ready md ops listed=[]/\Q .normal a w
 |fuel+1,listed,a,w=>
  (Region.ready md ops listed=[]->Q .normal a w)/\
  ∀i∈Region.ready md ops listed,wpOp P ops Q i (fun a' w'=>(i≠L->S w')/\uO P md ops Q S L fuel (listed.setIfInBounds i true) a' w') a w
theorem pL:∀(fuel:Nat) (listed:Array Bool) (a:Act) (w:World),uO P md ops Q S L fuel listed a w->wpAny P md ops Q fuel listed a w
 |0,_,_,_,h=>h
 |fuel+1,_,_,_,h=>⟨h.1,fun i hi=>wpOp_mono (fun a' w' h'=>pL fuel _ a' w' h'.2) (h.2 i hi)⟩
def mw (md:Region.Mode)(ops:Array Oper)(L i:Nat):Bool:=((ops[L]?).map fun o=>o.after.any fun e=>Region.binds md e && e.on==i).getD false
theorem waits_ne{c:Array Bool}(f:mw md ops L i=true)(hi:c.getD i true=false)(l:j∈Region.ready md ops c):j≠L:=by
 rintro rfl;obtain⟨_,oj,k,g⟩:=mem_ready.1 l;unfold mw at f;rw[k] at f;obtain⟨e,m,hb⟩:=Array.any_eq_true'.1 f;simp only[Jm,beq_iff_eq] at hb;have d:=g e m hb.1;rw[hb.2] at d;rcases Nat.lt_or_ge i c.size with h|h
 ·simp[h] at hi d;rw[hi] at d;cases d
 ·simp[Array.getElem?_eq_none h] at d
theorem nD{v:Value}(hi:ops[i]? =some oi)(a2:mw md ops L i=true)(l:∀(j:Nat) (o:Oper) cs b,ops[j]? =some o->o.op≠ .select cs b)
 (hQ:∀c a w,Q (.panic c) (a.put oi.dst v) w->Q (.panic c) a w):
 ∀(fuel:Nat) (listed:Array Bool) (a:Act) (w:World),
  (∀j oj,ops[j]? =some oj->j≠i->listed.getD j true=false->(∀e∈oj.after,Region.binds md e=true->e.on≠i)->oi.apart ops oj=true)->
  i∈Region.ready md ops listed->YieldsIf P ops S oi v a->S w->
  uO P md ops Q S L fuel (listed.setIfInBounds i true) (a.put oi.dst v) w->uO P md ops Q S L (fuel+1) listed a w:=by
 intro fuel
 induction fuel with
 |zero=>
  intro listed a w _ hr x u H;refine⟨fun h=>(by rw[h] at hr;cases hr),fun j hj=>?_⟩
  by_cases d:j=i
  ·subst d;exact x.wpOp hi u ⟨fun _=>u,H⟩
  ·have:=ready_mono hj d;rw[H.1] at this
   cases this
 |succ fuel ih=>
  intro listed a w g hr x u H;refine⟨fun h=>(by rw[h] at hr;cases hr),fun j hj=>?_⟩
  by_cases d:j=i
  ·subst d;exact x.wpOp hi u ⟨fun _=>u,H⟩
  ·have f:=H.2 j (ready_mono hj d);have a3:j≠L:=waits_ne a2 (mem_ready.1 hr).1 hj;obtain⟨q,oj,m,a1⟩:=mem_ready.1 hj
   have a0:∀e∈oj.after,Region.binds md e=true->e.on≠i:=fun e he hb heq=>by
    have f:=a1 e he hb;have h0:=(mem_ready.1 hr).1;rw[heq] at f;rcases Nat.lt_or_ge i listed.size with h'|h'
    ·simp[h'] at h0 f;rw[h0] at f;cases f
    ·simp[Array.getElem?_eq_none h'] at f
   have h2:=wpOp_putIf m (g j oj m d q a0) (fun cs b=>l i oi cs b hi) (fun cs b=>l j oj cs b m) hQ x f
   have t:∀k ok,ops[k]? =some ok->k≠i->(listed.setIfInBounds j true).getD k true=false->
    (∀e∈ok.after,Region.binds md e=true->e.on≠i)->oi.apart ops ok=true:=fun k ok hk hki hun hno=>by
    refine g k ok hk hki ?_ hno
    by_cases y:j=k
    ·subst y;exact q
    ·rw[getD_set_ne true y] at hun;exact hun
   refine wpOp_mono (fun a' w' h3=>⟨h3.2.1,ih (listed.setIfInBounds j true) a' w' t (ready_mono hr (Ne.symm d)) h3.1 (h3.2.1 a3) ?_⟩) h2;rw[Array.setIfInBounds_comm _ _ d];exact h3.2.2
theorem zF{v:Value}{fuel:Nat}{a:Act}(hi:ops[i]? =some oi)(f:mw md ops L i=true)
 (hs:Region.noSelect ops=true) (hf:Region.free md ops d i=true) (hr:(Region.ready md ops d).contains i=true)
 (k:∀c a w,Q (.panic c) (a.put oi.dst v) w->Q (.panic c) a w) (g:YieldsIf P ops S oi v a) (j:S w)
 (h:uO P md ops Q S L fuel (d.setIfInBounds i true) (a.put oi.dst v) w):uO P md ops Q S L (fuel+1) d a w:=
 nD hi f (Region.noSelect_spec hs) k fuel d a w (Region.free_spec hi hf) (by simpa using hr) g j h
theorem Tl(i:Nat){v:Value}{fuel:Nat}{a:Act}(h:uO P md ops Q S L fuel (d.setIfInBounds i true) (a.put oi.dst v) w)(hi:ops[i]? =some oi:=by rfl)(f:mw md ops L i=true:=by kernel_rfl)
 (hs:Region.noSelect ops=true:=by kernel_rfl) (hf:Region.free md ops d i=true:=by kernel_rfl) (hr:(Region.ready md ops d).contains i=true:=by kernel_rfl)
 (k:∀c a w,Q (.panic c) (a.put oi.dst v) w->Q (.panic c) a w:=by exact fun _ _ _ h=>h) (g:YieldsIf P ops S oi v a:=by exact Or.inl ⟨by rfl,by intro w hSw;(try dsimp only at hSw);go_simp;try with_reducible rfl⟩) (j:S w:=by assumption):uO P md ops Q S L (fuel+1) d a w:=
 zF hi f hs hf hr k g j h
def zS (P:Program)(md:Region.Mode)(ops:Array Oper)(Q:Exit->Act->World->Prop)(S:World->Prop)(L:Nat)(fuel:Nat)(listed:Array Bool)(a:Act)(w:World)(rs:List Nat):Prop:=
 ∀i∈rs,wpOp P ops Q i (fun a' w'=>(i≠L->S w')/\uO P md ops Q S L fuel (listed.setIfInBounds i true) a' w') a w
theorem zS.nil{fuel:Nat}{c:Array Bool}{a:Act}:zS P md ops Q S L fuel c a w []:=fun _ h=>by cases h
theorem zS.cons{fuel:Nat}{c:Array Bool}{a:Act}{o:Oper}(ho:ops[i]? =some o)
 (h:∀K':Act->World->Prop,Shut (∀a w,S w->(S w->uO P md ops Q S L fuel (c.setIfInBounds i true) a w)->K' a w)->if Region.wanted o (yielded ops a.tmps)=true then Oper.wp P o a w K' Q else K' (a.put o.dst undef) w)
 (hs:zS P md ops Q S L fuel c a w rs):zS P md ops Q S L fuel c a w (i::rs):=fun j d=>by
 rcases Jq.1 d with rfl|d
 ·exact wpOp_step ho (fun K' hK=>h K' (fun a w hS hW=>hK a w ⟨fun _=>hS,hW hS⟩))
 ·exact hs j d
theorem zS.last{fuel:Nat}{c:Array Bool}{a:Act}{o:Oper}(ho:ops[L]? =some o)
 (h:∀K':Act->World->Prop,Shut (∀a w,uO P md ops Q S L fuel (c.setIfInBounds L true) a w->K' a w)->if Region.wanted o (yielded ops a.tmps)=true then Oper.wp P o a w K' Q else K' (a.put o.dst undef) w):
 zS P md ops Q S L fuel c a w [L]:=fun j d=>by
 rcases Jq.1 d with rfl|d
 ·exact wpOp_step ho (fun K' hK=>h K' (fun a w hW=>hK a w ⟨fun e=>absurd rfl e,hW⟩))
 ·cases d
theorem z8{fuel:Nat}{c:Array Bool}{a:Act}(hr:Region.ready md ops c=rs)(d:rs≠ [])
 (h:zS P md ops Q S L fuel c a w rs):uO P md ops Q S L (fuel+1) c a w:=⟨fun h0=>absurd (hr ▸ h0) d,hr ▸ h⟩
theorem xj{listed:Array Bool}{a:Act}(hr:Region.ready md ops listed=[])(h:Q .normal a w):∀fuel,uO P md ops Q S L fuel listed a w
 |0=>⟨hr,h⟩
 |_+1=>⟨fun _=>h,by rw[hr];simp⟩
theorem yQ{id:Nat}{a:Act}(L:Nat)(hm:P.follows .mixedOrders=true)(c:S w.drew)
 (h:S w.drew->uO P .any ops Q S L ops.size (Array.replicate ops.size false) a w.drew):(Code.region id ops true).wp P Q a w:=
 wp_region_any hm (pL _ _ _ _ (h c))
end
end Go.Proofs.Ytoahcpkibpomcaa
