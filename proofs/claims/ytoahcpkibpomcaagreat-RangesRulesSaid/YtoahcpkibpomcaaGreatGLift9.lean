/- Part of a proof. -/
import Derived.Test.YtoahcpkibpomcaaGreatGZr1
import Derived.Deep.Slices
import Derived.OpenShut
import Derived.ProofKit
set_option linter.all false
set_option maxHeartbeats 4000000
set_option maxRecDepth 100000
namespace Go.Proofs.YtoahcpkibpomcaaGreat
open Go.RowKit Go.Lib
variable {P:Program}{w w':World}{ov:Value}{l:List (IOp×Value)}{K:MK}{m:Mach}{k on vb x:Nat}{blocks:List IBlk}{dp f oa ob:Int}
theorem Tryz.info_u8:(Tryz.prog.info? 5).map (fun i=>(i.zero,i.size,i.bytes))=some (some (.int .u8 0),1,1):=by kernel_rfl
theorem tQ(w:World)(dT sT ty c:TypeId)(g dLen k:Nat)(s:ByteArray)(d:Array Value)(t:TypeId)
 (o:P.underlying dT=some (.slice c)) (hs:(P.info? c).map (·.size)=some 1) (hg:A w g d t) (q:dLen<=d.size):
 (Builtin.copy_ #[dT,sT] ty #[.slice (some ⟨g,0,none⟩) dLen k,.string s]).run P w=
  .ok (goInt (Nat.min s.size dLen)) (w.setRow g (byteCells (s.data.toList.take (Nat.min s.size dLen))++d.toList.drop (Nat.min s.size dLen)).toArray):=by
 obtain⟨n,j⟩:∃n,Nat.min s.size dLen=n:=⟨_,rfl⟩
 have u:n<=s.size:=by rw[<-j];exact Nat.min_le_left _ _
 have hnd:n<=dLen:=by rw[<-j];exact Nat.min_le_right _ _
 have h:(byteCells (s.data.toList.take n)).length=n:=by rw[byteCells_length,Oc,<-size_eq];omega
 have f:=run_storeCells_at P g 0 t (byteCells (s.data.toList.take n)) 0 d w hg (by rw[h];omega) (byteCells_one _)
 have l:List.take n (List.map (fun b:UInt8=>Value.int IntKind.u8 (b.toNat:Int)) s.data.toList)=byteCells (s.data.toList.take n):=by
  rw[<-List.map_take];rfl
 rw[h] at f;simp only[Uk] at f;rw[j]
 cases m:P.info? c with
 |none=>simp[m] at hs
 |some i=>
  simp[Builtin.copy_,run_underlying o,Builtin.lenOf,Builtin.firstCells,sizeOf,typeInfo,m,j];rw[l,f];simp[Result.andThen]
theorem ram_init (s:ByteArray):byteCells (s.data.toList.take (Nat.min s.size 8192))++(List.replicate 8192 (Value.int .u8 0)).drop (Nat.min s.size 8192)=(v7 s).map q8:=by
 apply Oq;intro k;have g:s.data.toList.length=s.size:=(size_eq s).symm;have hl:(byteCells (s.data.toList.take (Nat.min s.size 8192))).length=Nat.min s.size 8192:=by rw[byteCells_length,Oc,g];exact Ud (Nat.min_le_left _ _)
 unfold v7;rw[List.map_map,Jr];obtain⟨n,c⟩:∃n,Nat.min s.size 8192=n:=⟨_,rfl⟩
 have m:n<=s.size:=by rw[<-c];exact Nat.min_le_left _ _
 have l:n<=8192:=by rw[<-c];exact Nat.min_le_right _ _
 have j:n=s.size∨n=8192:=by rcases Nat.le_total s.size 8192 with h|h;exact .inl (by rw[<-c];exact Ud h);exact .inr (by rw[<-c];exact Nat.min_eq_right h)
 rw[c] at hl ⊢
 by_cases h1:k<n
 ·rw[Np Zo,Oh Zo];unfold byteCells;rw[Jr,Ug,if_pos h1];have d:k<s.data.toList.length:=Zo;rw[Jd d];have f:k<s.data.size:=by simpa using d
  simp[q8,Array.getD_eq_getD_getElem?,Array.getElem?_eq_getElem f]
 ·rw[Nc Zo,hl,List.getElem?_drop,show n+(k-n)=k by omega,Nm]
  by_cases h2:k<8192
  ·rw[if_pos h2,Oh h2];have i:¬k<s.data.size:=by have:s.data.size=s.size:=rfl;omega
   simp[q8,Array.getD_eq_getD_getElem?,Array.getElem?_eq_none (Nat.le_of_not_lt i)]
  ·rw[if_neg h2,Of (by simpa using h2)];rfl
def EvR (w:World)(B b q:Nat)(x:Nat×Nat):Prop:=T w b q (M (x.1:Int))/\T w b (q+1) (M (x.2:Int))/\x.1<65536/\x.2<65536
abbrev vM:=yN 2 EvR
def runVal (R:IRun)(ov:Value):Value:=.agg (yV R.value ov R.kind R.info (y9 R.ram) R.inputs R.polls)
def abr (w:World)(R:IRun)(e:Ending)(w':World):Prop:=∃ov,e=.returned (runVal R ov)/\vM w' w'.heap.size ov R.out/\Q w w'
def sZ (V:PV)(p:IProg):Value:=.agg #[V.fv,V.av,I p.entry,I p.handler,V.dv,V.bv]
theorem iG (s:ByteArray):(v7 s).length=8192:=by simp[v7]
theorem bY (s:ByteArray):∀x∈v7 s,x<256:=by
 intro x c;unfold v7 at c;obtain⟨k,_,rfl⟩:=Nu.1 c;exact UInt8.toNat_lt _
theorem tM (w:World)(b k:Nat)(cs:Array Value)(h:k≠b):(w.setRow b cs).heap[k]? =w.heap[k]?:=by
 unfold World.setRow;simp only[Array.getElem?_modify];rw[if_neg (fun e=>h e.symm)]
theorem below_setRow{B:Nat}(h:Below B w w'){b:Nat}(hb:B<=b)(cs:Array Value):Below B w (w'.setRow b cs):=
 h.trans ⟨rfl,rfl,rfl,by unfold World.setRow;simp,fun k hk=>tM _ _ _ _ Zo⟩
theorem nZ{b:Nat}{cs c:Array Value}{t:TypeId}(h:A w b cs t):A (w.setRow b c) b c t:=setRow_heap w b cs c t (0,0) h
theorem ss{b b':Nat}{d:Array Value}{o:Obj}(h:w.heap[b']? =some o)(c:b'≠b):(w.setRow b d).heap[b']? =some o:=(tM _ _ _ _ c).trans h
theorem sf (W:World)(A B C:Obj):(((W.alloc A).alloc B).alloc C).drew.heap[W.heap.size]? =some A/\(((W.alloc A).alloc B).alloc C).drew.heap[W.heap.size+1]? =some B/\(((W.alloc A).alloc B).alloc C).drew.heap[W.heap.size+1+1]? =some C/\Q W (((W.alloc A).alloc B).alloc C).drew:=
 ⟨zB (zB (zI rfl)),zB (zI Zs),zI Zs,((((Below.refl _ _).alloc (Je _) _).alloc Zs _).alloc (by simp<;>omega) _).drew⟩
theorem oG:∀ {l:List (Nat×Nat)} {k:Nat} {p:Nat×Nat},l[k]? =some p->(qO l)[k*2]? =some (vL p.1)/\(qO l)[k*2+1]? =some (vL p.2)
 | [],k,p,h=>by simp at h
 |a::l,0,p,h=>by simp at h;subst h;exact⟨rfl,rfl⟩
 |a::l,k+1,p,h=>by
  have:=oG (l:=l) (k:=k) (by simpa using h);rw[show(k+1)*2=k*2+1+1 by omega];exact this
theorem kP{S:Nat}{l:List (Nat×Nat)}(h:w.ownsRow S 117 2 ov l.length (qO l))(f:∀p∈l,p.1<65536/\p.2<65536):vM w w.heap.size ov l:=by
 obtain⟨a,c,rfl⟩:=zG h;have hl:=zm h;refine⟨a,c,rfl,hl.1,by omega,fun k x hk=>?_⟩;have i:=(Jh.1 hk).1;obtain⟨g,j,e,hg,hb⟩:=h.form Zo;cases e;obtain⟨h1,h2⟩:=oG hk;have d:=f x (Ji hk);refine⟨g,0,rfl,hb,?_,?_,d.1,d.2⟩
 ·rw[Ng];exact(h.cellAt (k*2) Zo).trans h1
 ·rw[Ng];exact(h.cellAt (k*2+1) Zo).trans h2
theorem ku{w4 w5:World}{b:Nat}{r0:Array Value}(c:MachAt w4 K m ov)(d:A w4 b r0 57)(hb:w.heap.size<=b)(zb:Q w w4)(hg:w4.grownBy w5 (some b)):vM w5 w5.heap.size ov m.out/\Q w w5:=by
 have f:=zC c.out d (.inr Zd);exact⟨kP (c.out.kept hg (.inr f)) c.olt,zb.grown hg zb.size (fun k hk=>by simp at hk;omega)⟩
theorem mk_ram (W:World):(Instr.makeSlice 49 (I 8192) (I 8192)).run Tryz.prog W=.ok (L W.heap.size 8192 8192) (W.alloc (G (madeCells #[.int .u8 0] 8192) 5)):=
 run_make_row' (P:=Tryz.prog) 49 5 (.int .u8 0) 1 Tryz.underlying49 Tryz.info_u8 rfl .i64 .i64 8192 Zd Zd W
theorem eval_ok{V:PV}{p:IProg}(hp:ProgIn w w.heap.size V p)(b6:OkProg p)(hV:∀W,Q w W->O 35 #[sZ V p] W fun e W'=>e=.returned (I 0)/\Q W W')
 (f:Int) (hf:0<=f/\f.toNat<p.funcs.length) {args:List Nat} {av:Value} (ha:wV w w.heap.size av args) (hl:(args.length:Int)=p.args.getD f.toNat 0) (s:ByteArray) (hs:s.size<=9223372036854775807)
 {inv irqv:Value} {inn irq:List Nat} (c9:wV w w.heap.size inv inn) (c8:dL w w.heap.size irqv irq) (fuel:Int) (f0:I64 fuel) (f3:fuel.toNat<=4000000):
 O 143 #[sZ V p,I f,av,.string s,.agg #[inv,irqv],I fuel] w (abr w (bQ ⟨p,inn,irq⟩ f args s fuel)):=by
 obtain⟨Vf,Va,Vd,Vb⟩:=V;have h4:=hp.funcs;have c7:=hp.args;have h7:=hp.data;have h8:=hp.banks;obtain⟨f1,f2,e1,_,_⟩:=hp.funcs.form;obtain⟨a1,a2,e2,_,_⟩:=hp.args.form;obtain⟨d1,d2,e3,_,_⟩:=hp.data.form;obtain⟨b1,b2,e4,_,_⟩:=hp.banks.form;obtain⟨v1,v2,rfl,_,_⟩:=ha.form;obtain⟨i1,i2,rfl,_,_⟩:=c9.form;obtain⟨q1,q2,rfl,_,_⟩:=c8.form;simp only at e1 e2 e3 e4;subst e1 e2 e3 e4;obtain⟨k,rfl⟩:∃k:Nat,f=(k:Int):=⟨f.toNat,by omega⟩
 have k9:(k:Int)<p.funcs.length:=Zo;unfold sZ at hV ⊢;simp only at hV c7 ⊢;have l1:decide ((k:Int)<0)=false:=by rw[decide_eq_false_iff_not];omega
 have l0:decide (p.funcs.length<=k)=false:=by rw[decide_eq_false_iff_not];omega
 have h9:=mk_ram;obtain⟨Z,hZ⟩:∃Z,madeCells #[Value.int .u8 0] 8192=Z:=⟨_,rfl⟩
 rw[hZ] at h9;have HZ:=Ja hZ;clear hZ;have HP:=Ja hp;have HV:=Ja hV;have k0:=Ja b6;have HA:=Ja (Jb ha hl);have g4:=Ja (Jb c9 c8);have g5:=Ja (Jb f0 f3);obtain⟨aa,d3⟩:∃x,p.args[k]? =some x:=⟨_,Jd (by rw[b6.alen];omega)⟩
 have f8:(args.length:Int)=aa:=by rw[hl,Ni,Jj,d3];rfl
 have k5:((args.length:Int) !=aa)=false:=by rw[bne_eq_false_iff_eq];exact f8
 have k3:(k:Int)<p.args.length:=by rw[b6.alen];omega
 obtain⟨ba,oa,rfl,i0,f5,_⟩:=c7.get d3;rw[Nk] at f5;clear hp hV b6 ha hl c9 c8 f0 f3 h4 c7 h7 h8 hf d3 f8
 go_enter_defers Tryz.func143,Tryz.ntmps143
 go_upto_region 1 with fail;have f6:Q w (((w.alloc (G #[.slice f1 p.funcs.length f2,.slice (some ⟨ba,oa,none⟩) p.args.length a2,I p.entry,I p.handler,.slice d1 p.data.length d2,.slice b1 p.banks.length b2] 29)).alloc (G #[.slice i1 inn.length i2,.slice q1 irq.length q2] 62)).alloc (G #[M 0,U,I 0,M 0,.string {data:=#[]},I 0,I 0] 57)):=(((Below.refl _ _).alloc (Je _) _).alloc Zs _).alloc (by simp<;>omega) _;have l:A (((w.alloc (G #[.slice f1 p.funcs.length f2,.slice (some ⟨ba,oa,none⟩) p.args.length a2,I p.entry,I p.handler,.slice d1 p.data.length d2,.slice b1 p.banks.length b2] 29)).alloc (G #[.slice i1 inn.length i2,.slice q1 irq.length q2] 62)).alloc (G #[M 0,U,I 0,M 0,.string {data:=#[]},I 0,I 0] 57)) w.heap.size #[.slice f1 p.funcs.length f2,.slice (some ⟨ba,oa,none⟩) p.args.length a2,I p.entry,I p.handler,.slice d1 p.data.length d2,.slice b1 p.banks.length b2] 29:=zB (zB (zI rfl));have e6:A (((w.alloc (G #[.slice f1 p.funcs.length f2,.slice (some ⟨ba,oa,none⟩) p.args.length a2,I p.entry,I p.handler,.slice d1 p.data.length d2,.slice b1 p.banks.length b2] 29)).alloc (G #[.slice i1 inn.length i2,.slice q1 irq.length q2] 62)).alloc (G #[M 0,U,I 0,M 0,.string {data:=#[]},I 0,I 0] 57)) (w.heap.size+1) #[.slice i1 inn.length i2,.slice q1 irq.length q2] 62:=zB (zI Zs);have e5:A (((w.alloc (G #[.slice f1 p.funcs.length f2,.slice (some ⟨ba,oa,none⟩) p.args.length a2,I p.entry,I p.handler,.slice d1 p.data.length d2,.slice b1 p.banks.length b2] 29)).alloc (G #[.slice i1 inn.length i2,.slice q1 irq.length q2] 62)).alloc (G #[M 0,U,I 0,M 0,.string {data:=#[]},I 0,I 0] 57)) (w.heap.size+2) #[M 0,U,I 0,M 0,.string {data:=#[]},I 0,I 0] 57:=zI Zs;generalize j9:((w.alloc (G #[.slice f1 p.funcs.length f2,.slice (some ⟨ba,oa,none⟩) p.args.length a2,I p.entry,I p.handler,.slice d1 p.data.length d2,.slice b1 p.banks.length b2] 29)).alloc (G #[.slice i1 inn.length i2,.slice q1 irq.length q2] 62)).alloc (G #[M 0,U,I 0,M 0,.string {data:=#[]},I 0,I 0] 57)=W0 at *;have a4:=Ja f6;have u:=Ja (Jb l (Jb e6 e5));have p0:=K0 l;have p1:=K1 l;have p2:=K2 l;have p3:=K3 l;have p4:=K4 l;have p5:=K5 l;clear l e6 e5 f6 j9;go_upto_region 3 with(go_at_call 35;go_must (refine(HV.out _ a4.out).mono ?_;rintro e W1 ⟨rfl,m⟩;have q0:=(m.cell (p:=⟨w.heap.size,0,none⟩) (Jw W0 _ p0)).trans p0;have g9:=(m.cell (p:=⟨w.heap.size,1,none⟩) (Jw W0 _ p1)).trans p1;have cx:=zV (a4.out.trans (m.mono a4.out.size)) i0 f5))
 have y0:=zH m u.out.1 (lt_of_block u.out.1);have y1:=zH m u.out.2.1 (lt_of_block u.out.2.1);have y2:=zH m u.out.2.2 (lt_of_block u.out.2.2);have k7:=lt_of_block y2;have a3:=Ja (a4.out.trans (m.mono a4.out.size));have HY:=Ja y2
 have d0:∀w',Q W1 w'->(T w' w.heap.size 0 (.slice f1 p.funcs.length f2)/\T w' w.heap.size 1 (.slice (some ⟨ba,oa,none⟩) p.args.length a2)/\T w' w.heap.size 2 (I p.entry)/\T w' w.heap.size 3 (I p.handler)/\T w' w.heap.size 4 (.slice d1 p.data.length d2)/\T w' w.heap.size 5 (.slice b1 p.banks.length b2)/\T w' (w.heap.size+1) 0 (.slice i1 inn.length i2)/\T w' (w.heap.size+1) 1 (.slice q1 irq.length q2)):=fun w' hb=>by
  have z0:=zH hb y0 Zo;have z1:=zH hb y1 Zo;exact⟨zA z0 Zs,zA z0 Zs,zA z0 Zs,zA z0 Zs,zA z0 Zs,zA z0 Zs,zA z1 Zs,zA z1 Zs⟩
 have g8:=Ja d0;clear q0 g9 p0 p1 p2 p3 p4 p5 a4 u m y0 y1 y2 d0 cx
 go_cut [13] from 41 to 47 (fun v wx=>∃rb pm b13:Nat,v=F b13/\Hid (A wx b13 #[F pm] 208/\A wx rb Z 5/\A wx pm #[.slice f1 p.funcs.length f2,.slice (some ⟨ba,oa,none⟩) p.args.length a2,I p.entry,I p.handler,.slice d1 p.data.length d2,.slice b1 p.banks.length b2,L rb 8192 8192,.slice i1 inn.length i2,.slice q1 irq.length q2,I fuel,U,I 0,I 0] 210/\Q W1 wx/\W1.heap.size<=rb/\W1.heap.size<=pm/\W1.heap.size<=b13))
 case first=>
  go_region_held3 (fun w'=>T w' w.heap.size 0 (.slice f1 p.funcs.length f2)/\T w' w.heap.size 1 (.slice (some ⟨ba,oa,none⟩) p.args.length a2)/\T w' w.heap.size 2 (I p.entry)/\T w' w.heap.size 3 (I p.handler)/\T w' w.heap.size 4 (.slice d1 p.data.length d2)/\T w' w.heap.size 5 (.slice b1 p.banks.length b2)/\T w' (w.heap.size+1) 0 (.slice i1 inn.length i2)/\T w' (w.heap.size+1) 1 (.slice q1 irq.length q2))
   ((refine g8.out _ ?_;repeat' (first|exact Below.refl _ _|refine Below.drew ?_|refine Below.alloc ?_ (by simp<;>omega) _|refine Below.setCell ?_ (by simp<;>omega) _)))
   (fail)
  all_goals go_wp2_with fail
  all_goals go_meet
  ·exact⟨W1.heap.size,W1.heap.size+1,W1.heap.size+1+1,rfl,(sf _ _ _ _).2.2.1,(sf _ _ _ _).1,(sf _ _ _ _).2.1,(sf _ _ _ _).2.2.2,by omega,by omega,by omega⟩
  ·exact⟨W1.heap.size,W1.heap.size+1+1,W1.heap.size+1,rfl,(sf _ _ _ _).2.1,(sf _ _ _ _).1,(sf _ _ _ _).2.2.1,(sf _ _ _ _).2.2.2,by omega,by omega,by omega⟩
  ·exact⟨W1.heap.size+1,W1.heap.size+1+1,W1.heap.size,rfl,(sf _ _ _ _).1,(sf _ _ _ _).2.1,(sf _ _ _ _).2.2.1,(sf _ _ _ _).2.2.2,by omega,by omega,by omega⟩
 case rest=>
  obtain⟨rb,pm,b13,rfl,i⟩:=hcut;have k1:=K0 i.out.1;have k2:=K6 i.out.2.2.1;have c0:Z.toList=List.replicate 8192 (Value.int .u8 0):=by rw[<-HZ.out];exact toList_madeCells_one _ _
  have d9:8192<=Z.size:=by have:=congrArg List.length c0;rw[Qr] at this;simp at this;omega
  have f4:=fun ty:TypeId=>tQ (P:=Tryz.prog) wc 49 9 ty 5 rb 8192 8192 s Z 5 Tryz.underlying49 Zk i.out.2.1 d9
  obtain⟨n,hn⟩:∃n,goInt (Nat.min s.size 8192)=n:=⟨_,rfl⟩
  have c4:(byteCells (s.data.toList.take (Nat.min s.size 8192))++Z.toList.drop (Nat.min s.size 8192)).toArray=((v7 s).map q8).toArray:=by
   rw[<-ram_init s,c0]
  rw[hn,c4] at f4;clear c0 d9 c4 hn;have b8:Q W1 (wc.setRow rb ((v7 s).map q8).toArray):=below_setRow i.out.2.2.2.1 i.out.2.2.2.2.1 _;have e7:A (wc.setRow rb ((v7 s).map q8).toArray) rb ((v7 s).map q8).toArray 5:=nZ i.out.2.1;have e8:(wc.setRow rb ((v7 s).map q8).toArray).heap[pm]? =_:=ss i.out.2.2.1 (by rintro rfl;have h1:=i.out.2.1;rw[i.out.2.2.1] at h1;simp at h1);have g1:(wc.setRow rb ((v7 s).map q8).toArray).heap[b13]? =_:=ss i.out.1 (by rintro rfl;have h1:=i.out.2.1;rw[i.out.1] at h1;simp at h1);go_upto_region 5 with fail;generalize j2:wc.setRow rb ((v7 s).map q8).toArray=W2 at *;have k6:∀(fn:Fn) (first cap:Array Value) (W:World),(Instr.makeFunc fn first cap).run Tryz.prog W=.ok (.func fn first cap) W:=fun _ _ _ _=>rfl
  obtain⟨K,hK⟩:∃K:MK,K=⟨⟨p,inn,irq⟩,⟨.slice f1 p.funcs.length f2,.slice (some ⟨ba,oa,none⟩) p.args.length a2,.slice d1 p.data.length d2,.slice b1 p.banks.length b2⟩,.slice i1 inn.length i2,.slice q1 irq.length q2,pm,rb,W1.heap.size⟩:=⟨_,rfl⟩
  have q:Q w W2:=a3.out.trans (b8.mono a3.out.size)
  have g0:MachAt W2 K ⟨v7 s,fuel,[],0,0⟩ (U):=by
   subst hK;exact⟨e8,e7,iG s,bY s,Jv _ _ _ _,fun p hp=>by simp at hp,by have:=g5.out.2;show 0+fuel.toNat<=4000000;omega,g5.out.1,Jt _,Jt _,i.out.2.2.2.2.2.1,i.out.2.2.2.2.1,(HP.out.below q).mono a3.out.size,(g4.out.1.below zr q).mono zr a3.out.size,(g4.out.2.below xQ q).mono xQ a3.out.size⟩
  have e0:W2.heap[w.heap.size+2]? =_:=zH b8 HY.out (lt_of_block HY.out);have g2:=Ja g0;have j:=Ja (Jb g1 (Jb e0 (Jb b8 q)));clear j2 g0 e0 g1 e7 e8 b8 q f4 k1 k2 i;go_upto_region 6 with fail;have c1:=zI (W:=W2) (o:=G #[.func (.func 148) #[] #[F b13,F (w.heap.size+1+1)]] 211) rfl;have a0:=(Below.refl W2.heap.size W2).alloc (Je _) (G #[.func (.func 148) #[] #[F b13,F (w.heap.size+1+1)]] 211);have f9:=g2.out.keep a0;have b0:=zH a0 j.out.1 (lt_of_block j.out.1);have c2:=zH a0 j.out.2.1 (lt_of_block j.out.2.1);have a6:Q w _:=j.out.2.2.2.trans (a0.mono j.out.2.2.2.size);have d4:Q W1 _:=j.out.2.2.1.trans (a0.mono j.out.2.2.1.size);generalize j1:W2.alloc (G #[.func (.func 148) #[] #[F b13,F (w.heap.size+1+1)]] 211)=W3 at *;generalize W2.heap.size=b14 at *;have t:K.E=⟨p,inn,irq⟩/\K.pm=pm/\K.B=W1.heap.size:=by rw[hK];exact⟨rfl,rfl,rfl⟩
  have g:=mi K (by rw[t.1];exact k0.out) 100 (Je _) W3 _ _ (.slice v1 args.length v2) (k:Int) args f9 Zo (by rw[t.1];show(k:Int).toNat<p.funcs.length;omega) ((HA.out.1.below zr a6).mono zr a6.size) (by rw[t.1];exact HA.out.2);obtain⟨RES,b3⟩:∃R,xW K.E 100 (k:Int) args ⟨v7 s,fuel,[],0,0⟩=R:=⟨_,rfl⟩
  have c3:bQ ⟨p,inn,irq⟩ (k:Int) args s fuel=adO RES:=by rw[<-b3,t.1];rfl
  rw[b3,t.2.1] at g;have e1:(101:Int)-((100:Nat):Int)=1:=by decide
  rw[e1] at g;have l2:=K0 b0;have d6:=Ja c3;have g3:=Ja t;have H3:=Ja (Jb b0 (Jb c2 (Jb c1 (Jb a6 d4))));clear j1 f9 b0 c2 c1 a0 a6 d4 hK c3 b3 j g2 e1 t
  have b5:∀(w4:World) (ov4:Value) (m4:Mach),MachAt w4 K m4 ov4->Frm K.B W3 w4->
   A w4 b13 #[F K.pm] 208/\A w4 (w.heap.size+1+1) #[M 0,U,I 0,M 0,.string {data:=#[]},I 0,I 0] 57/\T w4 b14 0 (.func (.func 148) #[] #[F b13,F (w.heap.size+1+1)])/\Q w w4:=fun w4 ov4 m4 d h=>by
   refine⟨by rw[g3.out.2.1];exact h.kept _ _ H3.out.1 (by simp[sA]),h.kept _ _ H3.out.2.1 (by simp[sA]),zA (h.kept _ _ H3.out.2.2.1 (by simp[sA])) Zs,H3.out.2.2.2.1.trans (h.below.mono ?_)⟩;rw[g3.out.2.2];exact a3.out.size
  have b9:=Ja b5;clear b5
  cases RES with
  |ok x m4=>
   have a7:O 150 #[F pm,I k,.slice v1 args.length v2,I 1] W3 fun e w'=>e=.returned (M x)/\(∃ov',MachAt w' K m4 ov')/\Frm K.B W3 w'/\x<65536:=g
   have d7:=Ja a7;clear g a7;go_upto_region 8 with(go_at_call 150;go_must (refine d7.out.mono ?_;rintro e w4 ⟨rfl,⟨ov4,d⟩,h,k4⟩))
   obtain⟨b4,y,d8,zb⟩:=b9.out w4 ov4 m4 d h;obtain⟨oa4,oc4,rfl⟩:=zG d.out
   have a5:O 148 #[.agg #[I 6,M 0],M x,F b13,F (w.heap.size+1+1)] w4 fun e w'=>
    e=.returned (.tuple #[])/\A w' (w.heap.size+1+1) (yV x (.slice oa4 m4.out.length oc4) 6 0 (y9 m4.ram) m4.inputs m4.polls) 57/\w4.grownBy w' (some (w.heap.size+1+1)):=pE d b4 y 6 0 x
   have b7:w4.heap[b14]? =_:=h.kept _ _ H3.out.2.2.1 (by simp[sA]);have g7:=Ja a5;have d5:=Ja (Jb d (Jb y (Jb zb b7)));clear a5 b4 y zb d h b7;go_upto_region 9 with(go_at_call 148;go_must (refine g7.out.mono ?_;rintro e w5 ⟨rfl,c,h6⟩))
   have r0:T w5 (w.heap.size+1+1) 0 (M x):=zA c (by simp[yV]);have s0:Y w5 (w.heap.size+1+1) 0:=zE c;have r1:T w5 (w.heap.size+1+1) 1 (.slice oa4 m4.out.length oc4):=zA c (by simp[yV]);have s1:Y w5 (w.heap.size+1+1) 1:=zE c;have r2:T w5 (w.heap.size+1+1) 2 (I 6):=zA c (by simp[yV]);have s2:Y w5 (w.heap.size+1+1) 2:=zE c;have r3:T w5 (w.heap.size+1+1) 3 (M 0):=zA c (by simp[yV]);have s3:Y w5 (w.heap.size+1+1) 3:=zE c;have r4:T w5 (w.heap.size+1+1) 4 (.string (y9 m4.ram)):=zA c (by simp[yV]);have s4:Y w5 (w.heap.size+1+1) 4:=zE c;have r5:T w5 (w.heap.size+1+1) 5 (I (m4.inputs:Int)):=zA c (by simp[yV]);have s5:Y w5 (w.heap.size+1+1) 5:=zE c;have r6:T w5 (w.heap.size+1+1) 6 (I (m4.polls:Int)):=zA c (by simp[yV]);have s6:Y w5 (w.heap.size+1+1) 6:=zE c;have hE:=ku d5.out.1 d5.out.2.1 Zo d5.out.2.2.1 (zu (zu (zu (zu (zu (zu (zu h6 0 (M x)) 1 (.slice oa4 m4.out.length oc4)) 2 (I 6)) 3 (M 0)) 4 (.string (y9 m4.ram))) 5 (I (m4.inputs:Int))) 6 (I (m4.polls:Int)))
   have c5:abr w (bQ ⟨p,inn,irq⟩ (k:Int) args s fuel) (.returned (.agg #[M x,.slice oa4 m4.out.length oc4,I 6,M 0,.string (y9 m4.ram),I (m4.inputs:Int),I (m4.polls:Int)])) (((((((w5.setCell ⟨w.heap.size+1+1,0,none⟩ (M x)).setCell ⟨w.heap.size+1+1,1,none⟩ (.slice oa4 m4.out.length oc4)).setCell ⟨w.heap.size+1+1,2,none⟩ (I 6)).setCell ⟨w.heap.size+1+1,3,none⟩ (M 0)).setCell ⟨w.heap.size+1+1,4,none⟩ (.string (y9 m4.ram))).setCell ⟨w.heap.size+1+1,5,none⟩ (I (m4.inputs:Int))).setCell ⟨w.heap.size+1+1,6,none⟩ (I (m4.polls:Int))):=by
    rw[d6.out];exact⟨_,rfl,hE.1,hE.2⟩
   have g6:=Ja c5;clear c5 hE;go_wp2;refine leaves_cons (f:=149) (args:=#[F b14]) Zs (by simp[go_sem]) ?_;refine(rec_idle _ _).mono ?_;rintro e u' w6 ⟨rfl,rfl,rfl⟩;simp[Leaves,settle,results,Tryz.results143,go_sem,r0,r1,r2,r3,r4,r5,r6]
   exact g6.out
  |trap k2 i2 m4=>
   have a7:O 150 #[F pm,I k,.slice v1 args.length v2,I 1] W3 fun e w'=>e=.panicked [oE k2 i2]/\(∃ov',MachAt w' K m4 ov')/\Frm K.B W3 w'/\True:=g
   have d7:=Ja a7;clear g a7;go_wp2_with (go_at_call 150;go_must (refine d7.out.mono ?_;rintro e w4 ⟨rfl,⟨ov4,d⟩,h,_⟩))
   obtain⟨b4,y,d8,zb⟩:=b9.out w4 ov4 m4 d h;have hd:=pi d b4 y d8 k2 i2 [];obtain⟨oa4,oc4,rfl⟩:=zG d.out;refine leaves_cons (f:=149) (args:=#[F b14]) Zs (by simp[go_sem]) ?_;refine hd.mono ?_;rintro e u' w5 ⟨rfl,rfl,c,h6⟩;have hE:=ku d y Zo zb h6;have r0:T w5 (w.heap.size+1+1) 0 (M ((0:Nat):Int)):=zA c (by simp[yV]);have r1:T w5 (w.heap.size+1+1) 1 (.slice oa4 m4.out.length oc4):=zA c (by simp[yV]);have r2:T w5 (w.heap.size+1+1) 2 (I k2):=zA c (by simp[yV]);have r3:T w5 (w.heap.size+1+1) 3 (M i2):=zA c (by simp[yV]);have r4:T w5 (w.heap.size+1+1) 4 (.string (y9 m4.ram)):=zA c (by simp[yV]);have r5:T w5 (w.heap.size+1+1) 5 (I (m4.inputs:Int)):=zA c (by simp[yV]);have r6:T w5 (w.heap.size+1+1) 6 (I (m4.polls:Int)):=zA c (by simp[yV])
   have a5:abr w (bQ ⟨p,inn,irq⟩ (k:Int) args s fuel) (.returned (.agg #[M ((0:Nat):Int),.slice oa4 m4.out.length oc4,I k2,M i2,.string (y9 m4.ram),I (m4.inputs:Int),I (m4.polls:Int)])) w5:=by
    rw[d6.out];exact⟨_,rfl,hE.1,hE.2⟩
   simp[Leaves,settle,results,Tryz.results143,go_sem,r0,r1,r2,r3,r4,r5,r6];exact a5
open Go.RowKit
def sV:IRun:=⟨0,[],0,0,[],0,0⟩
def io (p:IProg)(f:Int)(args:List Nat):Bool:=decide (vC p=0) && decide (0<=f) && decide (f<p.funcs.length) && decide ((args.length:Int)=p.args.getD f.toNat 0)
def i9 (E:IEnv)(f:Int)(args:List Nat)(s:ByteArray)(fuel:Int):IRun:=if io E.p f args then bQ E f args s fuel else sV
def mW (p:IProg):Prop:=∀f∈p.funcs,vZ f/\∀b∈f,b.params.length<=65536
theorem dX:runVal sV (U)=.agg #[M 0,U,I 0,M 0,.string ⟨#[]⟩,I 0,I 0]:=by kernel_rfl
theorem bJ:∀a b c d:Bool,(a && b && c && d)=false->(a=false)∨(a=true/\b=false)∨(a=true/\b=true/\c=false)∨(a=true/\b=true/\c=true/\d=false)
 |false,_,_,_,_=> .inl rfl
 |true,false,_,_,_=> .inr (.inl ⟨rfl,rfl⟩)
 |true,true,false,_,_=> .inr (.inr (.inl ⟨rfl,rfl,rfl⟩))
 |true,true,true,false,_=> .inr (.inr (.inr ⟨rfl,rfl,rfl,rfl⟩))
theorem iV{V:PV}{p:IProg}(hp:ProgIn w w.heap.size V p)(hs:mW p)(f:Int)(b9:I64 f){args:List Nat}{av:Value}(ha:wV w w.heap.size av args)(s:ByteArray)
 {inv irqv:Value} {inn irq:List Nat} (a7:wV w w.heap.size inv inn) (a6:dL w w.heap.size irqv irq) (fuel:Int) (l:io p f args=false):
 O 143 #[sZ V p,I f,av,.string s,.agg #[inv,irqv],I fuel] w (abr w sV):=by
 have hV:∀W,Q w W->O 35 #[sZ V p] W (m9 W (vC p)):=fun W hb=>tu ((hp.below hb).mono hb.size) (Je _) (fun f hf=>(hs f hf).1)
 have a3:vC p=0->p.args.length=p.funcs.length:=fun h=>(se (rz h).1).2.1
 obtain⟨Vf,Va,Vd,Vb⟩:=V;have u:=hp.args;obtain⟨f1,f2,e1,_,_⟩:=hp.funcs.form;obtain⟨a1,a2,e2,_,_⟩:=hp.args.form;obtain⟨d1,d2,e3,_,_⟩:=hp.data.form;obtain⟨b1,b2,e4,_,_⟩:=hp.banks.form;obtain⟨v1,v2,rfl,_,_⟩:=ha.form;obtain⟨i1,i2,rfl,_,_⟩:=a7.form;obtain⟨q1,q2,rfl,_,_⟩:=a6.form;simp only at e1 e2 e3 e4 u;subst e1 e2 e3 e4;unfold sZ at hV ⊢;simp only at hV ⊢;have c3:p.funcs.length<=9223372036854775807:=Zo;have c0:args.length<=9223372036854775807:=Zo;unfold io at l;obtain⟨x1,h1⟩:∃q,decide (vC p=0)=q:=⟨_,rfl⟩
 obtain⟨x2,h2⟩:∃q,decide (0<=f)=q:=⟨_,rfl⟩
 obtain⟨x3,h3⟩:∃q,decide (f<p.funcs.length)=q:=⟨_,rfl⟩
 obtain⟨x4,h4⟩:∃q,decide ((args.length:Int)=p.args.getD f.toNat 0)=q:=⟨_,rfl⟩
 rw[h1,h2,h3,h4] at l;obtain⟨vp,a5⟩:∃x,vC p=x:=⟨_,rfl⟩
 rw[a5] at hV h1 a3;have t1:(vp !=0)=!x1:=by rw[bne,yv h1]
 have t2:decide (f<0)=!x2:=by rw[<-h2];by_cases h:0<=f<;>simp[h]<;>omega
 have t3:decide ((p.funcs.length:Int)<=f)=!x3:=by rw[<-h3];by_cases h:f<p.funcs.length<;>simp[h]<;>omega
 have HV:=Ja hV;have b6:=bJ x1 x2 x3 x4 l;have o:Q w (((w.alloc (G (Z p f1 f2 a1 a2 d1 d2 b1 b2) 29)).alloc (G #[.slice i1 inn.length i2,.slice q1 irq.length q2] 62)).alloc (G #[M 0,U,I 0,M 0,.string ⟨#[]⟩,I 0,I 0] 57)):=(((Below.refl _ _).alloc (Je _) _).alloc Zs _).alloc Zt _;have d:A (((w.alloc (G (Z p f1 f2 a1 a2 d1 d2 b1 b2) 29)).alloc (G #[.slice i1 inn.length i2,.slice q1 irq.length q2] 62)).alloc (G #[M 0,U,I 0,M 0,.string ⟨#[]⟩,I 0,I 0] 57)) w.heap.size (Z p f1 f2 a1 a2 d1 d2 b1 b2) 29:=zB (zB (zI rfl));have m:A (((w.alloc (G (Z p f1 f2 a1 a2 d1 d2 b1 b2) 29)).alloc (G #[.slice i1 inn.length i2,.slice q1 irq.length q2] 62)).alloc (G #[M 0,U,I 0,M 0,.string ⟨#[]⟩,I 0,I 0] 57)) (w.heap.size+1+1) #[M 0,U,I 0,M 0,.string ⟨#[]⟩,I 0,I 0] 57:=zI Zs;have b7:=Ja (show zY w w.heap.size (.slice a1 p.args.length a2) p.args from u);have b4:=Ja (show x1=true->p.args.length=p.funcs.length from fun h=>a3 (of_decide_eq_true (h1.trans h)));clear hp hs ha a7 a6 hV a3 u l h1 a5;rcases b6 with rfl|⟨rfl,rfl⟩|⟨rfl,rfl,rfl⟩|⟨rfl,rfl,rfl,rfl⟩
 case inr.inr.inr=>
  obtain⟨k,rfl⟩:∃k:Nat,f=(k:Int):=⟨f.toNat,by have:=of_decide_eq_true h2;omega⟩
  have c2:(k:Int)<p.funcs.length:=of_decide_eq_true h3;obtain⟨x,hx⟩:∃x,p.args[k]? =some x:=⟨_,Jd (by have:=b4.out rfl;omega)⟩
  obtain⟨ba,oa,rfl,b0,y,_⟩:=b7.out.get hx;rw[Nk] at y;have b8:(k:Int)<p.args.length:=by have:=b4.out rfl;omega
  have c4:decide (p.funcs.length<=k)=false:=by rw[decide_eq_false_iff_not];omega
  have t4:((args.length:Int) !=x)=true:=by
   rw[Ni,Jj,hx,Ot] at h4;rw[bne,yv h4];rfl
  have b3:=Ja (Jb b0 y);clear h2 h3 h4 hx b0 y
  go_enter_defers Tryz.func143,Tryz.ntmps143
  go_upto_region 1 with fail;generalize a4:((w.alloc (G (Z p f1 f2 (some ⟨ba,oa,none⟩) a2 d1 d2 b1 b2) 29)).alloc (G #[.slice i1 inn.length i2,.slice q1 irq.length q2] 62)).alloc (G #[M 0,U,I 0,M 0,.string ⟨#[]⟩,I 0,I 0] 57)=W0 at *;have g:=Ja (Jb o (Jb d m));have p0:=K0 d;have p1:=K1 d;have p2:=K2 d;have p3:=K3 d;have p4:=K4 d;have p5:=K5 d;clear o d m a4;go_wp2_with (go_at_call 35;go_must (refine(HV.out _ g.out.1).mono ?_;rintro e W1 ⟨rfl,i⟩;have j:=zH i g.out.2.1 (lt_of_block g.out.2.1);have c:=zH i g.out.2.2 (lt_of_block g.out.2.2);have q0:=K0 j;have b5:=K1 j;have r0:=K0 c;have s0:Y W1 (w.heap.size+1+1) 0:=zE c;have r1:=K1 c;have s1:Y W1 (w.heap.size+1+1) 1:=zE c;have r2:=K2 c;have s2:Y W1 (w.heap.size+1+1) 2:=zE c;have r3:=K3 c;have s3:Y W1 (w.heap.size+1+1) 3:=zE c;have r4:=K4 c;have s4:Y W1 (w.heap.size+1+1) 4:=zE c;have r5:=K5 c;have s5:Y W1 (w.heap.size+1+1) 5:=zE c;have r6:=K6 c;have s6:Y W1 (w.heap.size+1+1) 6:=zE c;have t:=Ja (g.out.1.trans (i.mono g.out.1.size));have c1:=zV t.out b3.out.1 b3.out.2;clear i j c))
  have a0:=((((((t.out.setCell (p:=⟨w.heap.size+1+1,0,none⟩) Zt (M 0)).setCell (p:=⟨w.heap.size+1+1,1,none⟩) Zt (U)).setCell (p:=⟨w.heap.size+1+1,2,none⟩) Zt (I 0)).setCell (p:=⟨w.heap.size+1+1,3,none⟩) Zt (M 0)).setCell (p:=⟨w.heap.size+1+1,4,none⟩) Zt (.string ⟨#[]⟩)).setCell (p:=⟨w.heap.size+1+1,5,none⟩) Zt (I 0)).setCell (p:=⟨w.heap.size+1+1,6,none⟩) Zt (I 0);refine⟨.agg #[M 0,U,I 0,M 0,.string ⟨#[]⟩,I 0,I 0],?_,U,by rw[dX],⟨none,0,rfl,Je _,by omega,fun k x hk=>by simp[sV] at hk⟩,a0⟩;rw[zM rfl];go_simp
 all_goals clear h4
 all_goals (
  go_enter_defers Tryz.func143,Tryz.ntmps143
  go_upto_region 1 with fail;generalize a4:((w.alloc (G (Z p f1 f2 a1 a2 d1 d2 b1 b2) 29)).alloc (G #[.slice i1 inn.length i2,.slice q1 irq.length q2] 62)).alloc (G #[M 0,U,I 0,M 0,.string ⟨#[]⟩,I 0,I 0] 57)=W0 at *;have g:=Ja (Jb o (Jb d m));have p0:=K0 d;have p1:=K1 d;have p2:=K2 d;have p3:=K3 d;have p4:=K4 d;have p5:=K5 d;clear o d m a4;go_wp2_with (go_at_call 35;go_must (refine(HV.out _ g.out.1).mono ?_;rintro e W1 ⟨rfl,i⟩;have j:=zH i g.out.2.1 (lt_of_block g.out.2.1);have c:=zH i g.out.2.2 (lt_of_block g.out.2.2);have q0:=K0 j;have b5:=K1 j;have r0:=K0 c;have s0:Y W1 (w.heap.size+1+1) 0:=zE c;have r1:=K1 c;have s1:Y W1 (w.heap.size+1+1) 1:=zE c;have r2:=K2 c;have s2:Y W1 (w.heap.size+1+1) 2:=zE c;have r3:=K3 c;have s3:Y W1 (w.heap.size+1+1) 3:=zE c;have r4:=K4 c;have s4:Y W1 (w.heap.size+1+1) 4:=zE c;have r5:=K5 c;have s5:Y W1 (w.heap.size+1+1) 5:=zE c;have r6:=K6 c;have s6:Y W1 (w.heap.size+1+1) 6:=zE c;have t:=Ja (g.out.1.trans (i.mono g.out.1.size));clear i j c))
  have a0:=((((((t.out.setCell (p:=⟨w.heap.size+1+1,0,none⟩) Zt (M 0)).setCell (p:=⟨w.heap.size+1+1,1,none⟩) Zt (U)).setCell (p:=⟨w.heap.size+1+1,2,none⟩) Zt (I 0)).setCell (p:=⟨w.heap.size+1+1,3,none⟩) Zt (M 0)).setCell (p:=⟨w.heap.size+1+1,4,none⟩) Zt (.string ⟨#[]⟩)).setCell (p:=⟨w.heap.size+1+1,5,none⟩) Zt (I 0)).setCell (p:=⟨w.heap.size+1+1,6,none⟩) Zt (I 0);refine⟨.agg #[M 0,U,I 0,M 0,.string ⟨#[]⟩,I 0,I 0],?_,U,by rw[dX],⟨none,0,rfl,Je _,by omega,fun k x hk=>by simp[sV] at hk⟩,a0⟩;rw[zM rfl]
  go_simp)
theorem mX{V:PV}{p:IProg}(hp:ProgIn w w.heap.size V p)(hs:mW p)(f:Int)(g:I64 f){args:List Nat}{av:Value}(m:wV w w.heap.size av args)(s:ByteArray)(i:s.size<=9223372036854775807)
 {inv irqv:Value} {inn irq:List Nat} (d:wV w w.heap.size inv inn) (c:dL w w.heap.size irqv irq) (fuel:Int) (k:I64 fuel) (l:fuel.toNat<=4000000):
 O 143 #[yH V p,I f,av,.string s,.agg #[inv,irqv],I fuel] w (abr w (i9 ⟨p,inn,irq⟩ f args s fuel)):=by
 unfold i9
 cases h:io p f args with
 |false=>exact iV hp hs f g m s d c fuel h
 |true=>
  unfold io at h;simp only[Jm,decide_eq_true_eq] at h;obtain⟨⟨⟨h1,h2⟩,h3⟩,o⟩:=h;have j:=jM h1 (fun f hf b hb=>(hs f hf).2 b hb)
  have q:(if io p f args=true then bQ ⟨p,inn,irq⟩ f args s fuel else sV)=bQ ⟨p,inn,irq⟩ f args s fuel:=by
   rw[if_pos];unfold io;simp only[Jm,decide_eq_true_eq];exact⟨⟨⟨h1,h2⟩,h3⟩,o⟩
  refine eval_ok hp j (fun W hb=>?_) f ⟨h2,by omega⟩ m o s i d c fuel k l;have:=tu ((hp.below hb).mono hb.size) (Je _) (fun f hf=>(hs f hf).1);rw[h1] at this;exact this
theorem uB {α:Type}(f:α->List Value)(n:Nat)(hf:∀a,(f a).length=n):∀(l:List α) (k:Nat) (a:α),l[k]? =some a->∀j,j<n->(l.flatMap f)[k*n+j]? =(f a)[j]?
 | [],k,a,hk,_,_=>by simp at hk
 |x::l,0,a,hk,j,hj=>by
  cases hk
  rw[Qa,Nat.zero_mul,Ng,Np (by rw[hf];exact hj)]
 |x::l,k+1,a,hk,j,hj=>by
  rw[Qa,Nc (by rw[hf,Nat.add_mul];omega),hf];have e:(k+1)*n+j-n=k*n+j:=by rw[Nat.add_mul];omega
  rw[e];exact uB f n hf l k a (by simpa using hk) j hj
theorem oW{α:Type}{f:α->List Value}{n:Nat}(hf:∀a,(f a).length=n){b:Nat}{l:List α}{e:TypeId}(h:A w b (l.flatMap f).toArray e){a:α}(hk:l[k]? =some a){j:Nat}{v:Value}(d:(f a)[j]? =some v):
 T w b (0+k*n+j) v:=by
 refine zA h ?_;have c:j<n:=by rw[<-hf a];exact(Jh.1 d).1
 rw[Ng,List.getElem?_toArray,uB f n hf l k a hk j c];exact d
def zU (q:IOp×Value):List Value:=[I q.1.code,I q.1.res,I q.1.a,I q.1.b,M (q.1.n:Int),q.2]
theorem agO{B b:Nat}{e:TypeId}(h:A w b (l.flatMap zU).toArray e)(hb:b<B)(g:∀q∈l,qN q.1/\zY w B q.2 q.1.args)(hl:l.length<=1000000):
 mN w B (L b l.length l.length) (l.map (·.1)):=by
 refine⟨_,l.length,by rw[Nr],by rw[Nr];exact Je _,by omega,fun k o hk=>?_⟩;rw[Jr,Oz] at hk;obtain⟨q,d,rfl⟩:=hk;have c:=fun j v (hj:(zU q)[j]? =some v)=>oW (f:=zU) (n:=6) (fun _=>rfl) h d hj
 obtain⟨h1,h2⟩:=g q (Ji d);exact⟨b,0,rfl,hb,c 0 _ rfl,c 1 _ rfl,c 2 _ rfl,c 3 _ rfl,c 4 _ rfl,h1,q.2,c 5 _ rfl,h2⟩
def RetProgO (w:World)(p:IProg)(e:Ending)(w':World):Prop:=
 ∃f1 f2 a1 a2 d1 d2 b1 b2,e=.returned (.agg (Z p f1 f2 a1 a2 d1 d2 b1 b2))/\
  ProgIn w' w'.heap.size ⟨.slice f1 p.funcs.length f2,.slice a1 p.args.length a2,.slice d1 p.data.length d2,.slice b1 p.banks.length b2⟩ p/\Q w w'
theorem mL.open{p:IProg}{e:Ending}(h:mL w p e w'):RetProgO w p e w':=by
 obtain⟨⟨Vf,Va,Vd,Vb⟩,rfl,hp,hb⟩:=h;obtain⟨f1,f2,e1,_,_⟩:=hp.funcs.form;obtain⟨a1,a2,e2,_,_⟩:=hp.args.form;obtain⟨d1,d2,e3,_,_⟩:=hp.data.form;obtain⟨b1,b2,e4,_,_⟩:=hp.banks.form;simp only at e1 e2 e3 e4;subst e1 e2 e3 e4;exact⟨f1,f2,a1,a2,d1,d2,b1,b2,rfl,hp,hb⟩
def eM (w:World)(R:IRun)(e:Ending)(w':World):Prop:=
 ∃oa oc,e=.returned (.agg #[M (R.value:Int),.slice oa R.out.length oc,I (R.kind:Int),M (R.info:Int),.string (y9 R.ram),I (R.inputs:Int),I (R.polls:Int)])/\vM w' w'.heap.size (.slice oa R.out.length oc) R.out/\Q w w'
theorem abr.open{R:IRun}{e:Ending}(h:abr w R e w'):eM w R e w':=by
 obtain⟨ov,rfl,ho,hb⟩:=h;obtain⟨oa,oc,rfl,_,_⟩:=ho.form;exact⟨oa,oc,rfl,ho,hb⟩
theorem uL {t:ITerm}{ops:List IOp}(h1:ops.length<=2000000)(h2:t.to.length<=2000000):mW (rd t ops):=by
 intro f hf;simp only[rd,Jo] at hf;subst hf;refine⟨⟨by simp,fun b hb=>?_⟩,fun b hb=>?_⟩
 ·rw[Jo] at hb;subst hb;exact⟨by simp,h1,h2⟩
 ·rw[Jo] at hb;subst hb;simp
def cG (x:Int):Int:=wrap64 (x+1)
def qK (n:Int)(l:List Int):Int:=l.foldl (fun n v=>max n (cG v)) n
def o8 (n:Int)(l:List IOp):Int:=l.foldl (fun n o=>max n (cG o.res)) n
def iL (n:Int)(b:IBlk):Int:=o8 (qK n b.params) b.ops
def aaG (blocks:List IBlk):Int:=blocks.foldl iL 0
theorem wt{α β:Type}(f:β->α->β)(z:β){l:List α}{x:α}(h:l[k]? =some x):(l.take (k+1)).foldl f z=f ((l.take k).foldl f z) x:=by
 rw[Nh,h,List.foldl_append];rfl
theorem mZ (a b:Int):(if a<b then b else a)=max a b:=by
 rw[Int.max_def]
 split<;>split<;>omega
def pn (w:World)(x:Int)(e:Ending)(w':World):Prop:=e=.returned (I x)/\Q w w'
theorem jr{B:Nat}{b8:Value}(a7:wX w B b8 blocks)(hB:B<=w.heap.size)(hs:vZ blocks):
 O 17 #[.agg #[b8]] w (pn w (aaG blocks)):=by
 obtain⟨fa,fc,rfl,e7,e5⟩:=a7.form;have e4:=hs.1;have g:=Ja (Jb a7 (Jb hB hs));have b7:Q w (w.alloc (G #[.slice fa blocks.length fc] 39)):=(Below.refl _ _).alloc (Je _) _;have a1:=zI (W:=w) (o:=G #[.slice fa blocks.length fc] 39) rfl;obtain⟨fb,a5⟩:∃fb,w.heap.size=fb:=⟨_,rfl⟩
 clear a7 hB hs;go_enter Tryz.func17,Tryz.ntmps17;go_upto_region 1 with fail;generalize c9:w.alloc (G #[.slice fa blocks.length fc] 39)=W1 at *;rw[a5] at a1;have c:=Ja (Jb b7 (Jb a1 a5));clear b7 a1 c9 a5;go_wp2
 go_loopw [3,4] (fun nv kv wx=>∃(k:Nat) (n:Int),k<=blocks.length/\nv=I n/\kv=I k/\Hid (n=(blocks.take k).foldl iL 0/\Q W1 wx)) (fun _ kv _=>blocks.length-(intOf kv).toNat)
 case atStart=>exact⟨0,0,Jt _,rfl,rfl,Ja ⟨rfl,Below.refl _ _⟩⟩
 case round=>
  obtain⟨k,n,hk,rfl,rfl,f⟩:=hrel;have a0:=zH f.out.2 c.out.2.1 (lt_of_block c.out.2.1);have c0:=zA (i:=0) a0 rfl;have e6:=lt_of_block a0
  by_cases b3:k<blocks.length
  ·have c2:(k:Int)<(blocks.length:Int):=Zo;obtain⟨b,hb⟩:∃b,blocks[k]? =some b:=⟨_,Jd b3⟩
   have b5:wX wr B (.slice fa blocks.length fc) blocks:=(g.out.1.below yT ((c.out.1.trans (f.out.2.mono c.out.1.size)).mono g.out.2.1))
   obtain⟨bb,bo,c4,c7,g2,g3,d0,pv,ov,tv,g0,g1,g4,u,y,a2⟩:=b5.get hb;obtain⟨pa,pc,rfl,e0,d8⟩:=u.form;obtain⟨oa,oc,rfl,e3,e1⟩:=y.form;obtain⟨ta,tc,rfl,d7,d5⟩:=a2.form;have d4:bb<wr.heap.size:=Jy c7 (by have:=g.out.2.1;have:=(c.out.1.trans (f.out.2.mono c.out.1.size)).size;omega);have a6:=g.out.2.2.2 b (Ji hb);have l:Q wr (wr.alloc (G #[.slice pa b.params.length pc,.slice oa b.ops.length oc,I b.term.kind,I b.term.a,.slice ta b.term.to.length tc] 84)):=(Below.refl _ _).alloc (Je _) _;have h:=zI (W:=wr) (o:=G #[.slice pa b.params.length pc,.slice oa b.ops.length oc,I b.term.kind,I b.term.a,.slice ta b.term.to.length tc] 84) rfl;subst c4;have d9:=a6.1;have e2:=a6.2.1;obtain⟨tb,a3⟩:∃tb,wr.heap.size=tb:=⟨_,rfl⟩
   have HT:=Ja a3;clear b5 a6;go_upto_region 6 with fail;generalize c8:wr.alloc (G #[.slice pa b.params.length pc,.slice oa b.ops.length oc,I b.term.kind,I b.term.a,.slice ta b.term.to.length tc] 84)=W5 at *;rw[a3] at h;have t0:=zA (i:=0) h rfl;have t1:=zA (i:=1) h rfl;have d6:=lt_of_block h;have c5:∀q,B<=q->Below q wr W5->True:=fun _ _ _=>trivial
   have b1:=(u.below zO (l.mono (show B<=wr.heap.size by have:=g.out.2.1;have:=(c.out.1.trans (f.out.2.mono c.out.1.size)).size;omega)))
   have b2:=(y.below xA (l.mono (show B<=wr.heap.size by have:=g.out.2.1;have:=(c.out.1.trans (f.out.2.mono c.out.1.size)).size;omega)))
   have b6:=f.out.2.trans (l.mono f.out.2.size);have H5:=Ja (Jb b1 (Jb b2 (Jb b6 hb)));have e8:B<=wr.heap.size:=by have:=g.out.2.1;have:=(c.out.1.trans (f.out.2.mono c.out.1.size)).size;omega
   have d2:wr.heap.size<=W5.heap.size:=l.size;clear c5 b1 b2 b6 hb u y a2 l h g0 g1 g2 g3 g4 d0 a0 a3 c8;go_wp2
   go_loop [3,6] (fun nv jv=>∃(j:Nat) (m:Int),j<=b.params.length/\nv=I m/\jv=I j/\Hid (m=qK n (b.params.take j))) (fun _ jv=>b.params.length-(intOf jv).toNat)
   case atStart=>exact⟨0,n,Jt _,rfl,rfl,Ja rfl⟩
   case round=>
    obtain⟨j,m,hj,rfl,rfl,HM⟩:=hrel
    by_cases d:j<b.params.length
    ·have b4:(j:Int)<(b.params.length:Int):=Zo;obtain⟨x,t⟩:∃x,b.params[j]? =some x:=⟨_,Jd d⟩
     obtain⟨pb,po,a4,c3,b0,b9⟩:=H5.out.1.get t;rw[Nk] at b0;subst a4;have c1:pb<W5.heap.size:=Zo;have HX:=Ja t;clear t b9;go_wp2
     go_round
     case rel=>
      refine⟨j+1,_,d,rfl,by go_num,Ja ?_⟩;unfold qK;rw[wt _ _ HX.out,mZ,HM.out];rfl
     case measure=>simp[intOf];omega
    ·obtain rfl:j=b.params.length:=by omega
     have b4:¬(b.params.length:Int)<(b.params.length:Int):=Zo;have d1:=Ja (show m=qK n b.params by rw[HM.out,Nl]);clear hj HM d;go_wp2
     go_loop [3,7] (fun nv jv=>∃(j:Nat) (m2:Int),j<=b.ops.length/\nv=I m2/\jv=I j/\Hid (m2=o8 m (b.ops.take j))) (fun _ jv=>b.ops.length-(intOf jv).toNat)
     case atStart=>exact⟨0,m,Jt _,rfl,rfl,Ja rfl⟩
     case round=>
      obtain⟨j,m2,hj,rfl,rfl,HM⟩:=hrel
      by_cases d:j<b.ops.length
      ·have b4:(j:Int)<(b.ops.length:Int):=Zo;obtain⟨x,t⟩:∃x,b.ops[j]? =some x:=⟨_,Jd d⟩
       obtain⟨pb,po,a4,c3,_,b0,_⟩:=H5.out.2.1.get t;subst a4;have c1:pb<W5.heap.size:=Zo;have HX:=Ja t;clear t;go_wp2
       go_round
       case rel=>
        refine⟨j+1,_,d,rfl,by go_num,Ja ?_⟩;unfold o8;rw[wt _ _ HX.out,mZ,HM.out];rfl
       case measure=>simp[intOf];omega
      ·obtain rfl:j=b.ops.length:=by omega
       have d3:¬(b.ops.length:Int)<(b.ops.length:Int):=Zo;clear hj d;go_wp2;go_roundw
       case rel=>
        refine⟨k+1,m2,b3,rfl,by go_num,Ja ⟨?_,H5.out.2.2.1⟩⟩;rw[wt _ _ H5.out.2.2.2,<-f.out.1,HM.out,Nl,d1.out];rfl
       case measure=>simp[intOf];omega
  ·obtain rfl:k=blocks.length:=by omega
   have c2:¬(blocks.length:Int)<(blocks.length:Int):=Zo;clear a0;go_wp2;go_ret;refine⟨?_,c.out.1.trans (f.out.2.mono c.out.1.size)⟩;rw[f.out.1,Nl];rfl
theorem ls{B:Nat}{c2:Value}(b1:wX w B c2 blocks)(hB:B<=w.heap.size)(hs:vZ blocks):
 O 36 #[.agg #[c2]] w (pn w (aaG blocks)):=by
 obtain⟨fa,fc,rfl,f6,f4⟩:=b1.form;have f3:=hs.1;have g:=Ja (Jb b1 (Jb hB hs));have b8:Q w (w.alloc (G #[.slice fa blocks.length fc] 39)):=(Below.refl _ _).alloc (Je _) _;have t:=zI (W:=w) (o:=G #[.slice fa blocks.length fc] 39) rfl;obtain⟨fb,a7⟩:∃fb,w.heap.size=fb:=⟨_,rfl⟩
 clear b1 hB hs;go_enter Tryz.func36,Tryz.ntmps36;go_upto_region 1 with fail;generalize d6:w.alloc (G #[.slice fa blocks.length fc] 39)=W1 at *;rw[a7] at t;have c:=Ja (Jb b8 (Jb t a7));have c1:=zA (i:=0) t rfl;have e1:=lt_of_block t;clear b8 t d6 a7;go_wp2
 go_loopw [3,13] (fun nv kv wx=>∃(k:Nat) (n:Int),k<=blocks.length/\nv=I n/\kv=I k/\Hid (n=(blocks.take k).foldl iL 0/\Q W1 wx)) (fun _ kv _=>blocks.length-(intOf kv).toNat)
 case atStart=>exact⟨0,0,Jt _,rfl,rfl,Ja ⟨rfl,Below.refl _ _⟩⟩
 case round=>
  obtain⟨k,n,hk,rfl,rfl,f⟩:=hrel;have a2:=zH f.out.2 c.out.2.1 (lt_of_block c.out.2.1);have c0:=zA (i:=0) a2 rfl;have f5:=lt_of_block a2
  by_cases b4:k<blocks.length
  ·have c7:(k:Int)<(blocks.length:Int):=Zo;obtain⟨b,hb⟩:∃b,blocks[k]? =some b:=⟨_,Jd b4⟩
   have b6:wX wr B (.slice fa blocks.length fc) blocks:=(g.out.1.below yT ((c.out.1.trans (f.out.2.mono c.out.1.size)).mono g.out.2.1))
   obtain⟨bb,bo,d2,d4,g2,g3,d7,pv,ov,tv,g0,g1,g4,a0,a1,a4⟩:=b6.get hb;obtain⟨pa,pc,rfl,e8,e6⟩:=a0.form;obtain⟨oa,oc,rfl,f2,f0⟩:=a1.form;obtain⟨ta,tc,rfl,e5,e3⟩:=a4.form;have e2:bb<wr.heap.size:=Jy d4 (by have:=g.out.2.1;have:=(c.out.1.trans (f.out.2.mono c.out.1.size)).size;omega);have b0:=g.out.2.2.2 b (Ji hb);have u:Q wr (wr.alloc (G #[.slice pa b.params.length pc,.slice oa b.ops.length oc,I b.term.kind,I b.term.a,.slice ta b.term.to.length tc] 84)):=(Below.refl _ _).alloc (Je _) _;have l:=zI (W:=wr) (o:=G #[.slice pa b.params.length pc,.slice oa b.ops.length oc,I b.term.kind,I b.term.a,.slice ta b.term.to.length tc] 84) rfl;subst d2;have e7:=b0.1;have f1:=b0.2.1;obtain⟨tb,a5⟩:∃tb,wr.heap.size=tb:=⟨_,rfl⟩
   have HT:=Ja a5;clear b6 b0;go_upto_region 5 with fail;generalize d5:wr.alloc (G #[.slice pa b.params.length pc,.slice oa b.ops.length oc,I b.term.kind,I b.term.a,.slice ta b.term.to.length tc] 84)=W5 at *;rw[a5] at l;have t0:=zA (i:=0) l rfl;have t1:=zA (i:=1) l rfl;have e4:=lt_of_block l;have d3:∀q,B<=q->Below q wr W5->True:=fun _ _ _=>trivial
   have b2:=(a0.below zO (u.mono (show B<=wr.heap.size by have:=g.out.2.1;have:=(c.out.1.trans (f.out.2.mono c.out.1.size)).size;omega)))
   have b3:=(a1.below xA (u.mono (show B<=wr.heap.size by have:=g.out.2.1;have:=(c.out.1.trans (f.out.2.mono c.out.1.size)).size;omega)))
   have b7:=f.out.2.trans (u.mono f.out.2.size);have H5:=Ja (Jb b2 (Jb b3 (Jb b7 hb)));have f8:B<=wr.heap.size:=by have:=g.out.2.1;have:=(c.out.1.trans (f.out.2.mono c.out.1.size)).size;omega
   have d9:wr.heap.size<=W5.heap.size:=u.size;have c8:B<=W5.heap.size:=Zo;clear d3 b2 b3 b7 hb a0 a1 a4 u l g0 g1 g2 g3 g4 d7 a2 a5 d5;go_wp2
   go_loop [3,20] (fun nv jv=>∃(j:Nat) (m:Int),j<=b.params.length/\nv=I m/\jv=I j/\Hid (m=qK n (b.params.take j))) (fun _ jv=>b.params.length-(intOf jv).toNat)
   case atStart=>exact⟨0,n,Jt _,rfl,rfl,Ja rfl⟩
   case round=>
    obtain⟨j,m,hj,rfl,rfl,h⟩:=hrel
    by_cases d:j<b.params.length
    ·have b5:(j:Int)<(b.params.length:Int):=Zo;obtain⟨x,y⟩:∃x,b.params[j]? =some x:=⟨_,Jd d⟩
     obtain⟨pb,po,a6,d1,d0,c3⟩:=H5.out.1.get y;rw[Nk] at d0;subst a6;have c5:pb<W5.heap.size:=Zo;have HX:=Ja y;clear y c3;go_wp2
     go_round
     case rel=>
      refine⟨j+1,_,d,rfl,by go_num,Ja ?_⟩;unfold qK;rw[wt _ _ HX.out,mZ,h.out];rfl
     case measure=>simp[intOf];omega
    ·obtain rfl:j=b.params.length:=by omega
     have b5:¬(b.params.length:Int)<(b.params.length:Int):=Zo;have d8:=Ja (show m=qK n b.params by rw[h.out,Nl]);clear hj h d;go_wp2
     go_loopw [3,32] (fun nv jv wx=>∃(j:Nat) (m2:Int),j<=b.ops.length/\nv=I m2/\jv=I j/\Hid (m2=o8 m (b.ops.take j)/\Q W5 wx)) (fun _ jv _=>b.ops.length-(intOf jv).toNat)
     case atStart=>exact⟨0,m,Jt _,rfl,rfl,Ja ⟨rfl,Below.refl _ _⟩⟩
     case round=>
      obtain⟨j,m2,hj,rfl,rfl,h⟩:=hrel
      by_cases d:j<b.ops.length
      ·have b5:(j:Int)<(b.ops.length:Int):=Zo;obtain⟨x,y⟩:∃x,b.ops[j]? =some x:=⟨_,Jd d⟩
       have a3:=H5.out.2.1.below xA (h.out.2.mono c8);obtain⟨pb,po,a6,d1,x0,x1,x2,x3,x4,c9,av,x5,b9⟩:=a3.get y;obtain⟨aa,ac,rfl,_,_⟩:=b9.form;subst a6;have c4:=h.out.2.size;have c5:pb<wr.heap.size:=Zo;have HX:=Ja y;clear y a3 b9 c9;go_wp2;go_roundw
       case rel=>
        refine⟨j+1,_,d,rfl,by go_num,Ja ⟨?_,h.out.2.alloc c4 _⟩⟩;unfold o8;rw[wt _ _ HX.out,mZ,h.out.1];rfl
       case measure=>simp[intOf];omega
      ·obtain rfl:j=b.ops.length:=by omega
       have e0:¬(b.ops.length:Int)<(b.ops.length:Int):=Zo;clear hj d;go_wp2;go_roundw
       case rel=>
        refine⟨k+1,m2,b4,rfl,by go_num,Ja ⟨?_,H5.out.2.2.1.trans (h.out.2.mono H5.out.2.2.1.size)⟩⟩;rw[wt _ _ H5.out.2.2.2,<-f.out.1,h.out.1,Nl,d8.out];rfl
       case measure=>simp[intOf];omega
  ·obtain rfl:k=blocks.length:=by omega
   have c7:¬(blocks.length:Int)<(blocks.length:Int):=Zo;clear a2;go_wp2;go_ret;refine⟨?_,c.out.1.trans (f.out.2.mono c.out.1.size)⟩;rw[f.out.1,Nl];rfl
theorem Tryz.info_irop:(Tryz.prog.info? 76).map (fun i=>(i.zero,i.size,i.bytes))=some (some (.agg #[I 0,I 0,I 0,I 0,M 0,.slice none 0 0]),6,64):=by kernel_rfl
theorem ops_own{S:Nat}{v:Value}(h:w.ownsRow S 76 6 v l.length (l.flatMap zU))(m:∀q∈l,qN q.1/\zY w w.heap.size q.2 q.1.args):mN w w.heap.size v (l.map (·.1)):=by
 obtain⟨a,c,rfl⟩:=zG h;have hl:=zm h;refine⟨a,c,by rw[Nr],by rw[Nr];exact hl.1,by omega,fun k o hk=>?_⟩;rw[Jr,Oz] at hk;obtain⟨q,f,rfl⟩:=hk;have t:=(Jh.1 f).1;obtain⟨g,u,e,hg,hb⟩:=h.form Zo;cases e
 have d:∀j v,(zU q)[j]? =some v->T w g (0+k*6+j) v:=fun j v hj=>by
  have i:j<6:=(Jh.1 hj).1;rw[Ng];exact(h.cellAt (k*6+j) Zo).trans ((uB zU 6 (fun _=>rfl) l k q f j i).trans hj)
 obtain⟨h1,h2⟩:=m q (Ji f);exact⟨g,0,rfl,hb,d 0 _ rfl,d 1 _ rfl,d 2 _ rfl,d 3 _ rfl,d 4 _ rfl,h1,q.2,d 5 _ rfl,h2⟩
theorem yD{c:Nat}{e:TypeId}{size n:Nat}{v:Value}{xs:List Value}(h:w.ownsRow c e size v n xs)(hk:∀k,v.ownBlock=some k->w'.heap[k]? =w.heap[k]?):w'.ownsRow c e size v n xs:=by
 refine⟨h.1,?_⟩;rcases h.2 with h2|⟨g,f,d,rfl,hg,i,r⟩
 ·exact .inl h2
 ·exact .inr ⟨g,f,d,rfl,hg,(hk g rfl).trans i,r⟩
def aa0 (m:Mach)(a n x:Nat):Res Nat:=if n=1 then td m a x else sK m a x
def stN (m:Mach)(a x:Nat):Nat->Mach
 |0=>m
 |1=>m.put a (x%256)
 |_=>(m.put a (x%256)).put (xe a) (x/256)
theorem wrapU8 (n:Int):IntKind.u8.wrap n=n%256:=by rw[IntKind.wrap_u8]
theorem aY(h:MachQ w K m none dp ov){a n:Nat}(b8:a<65536)(hx:x<65536)(hn:n=1∨n=2):O 126 #[F K.pm,M a,I n,M x] w (et K w (aa0 m a n x)):=by
 have hl:=h.lt;have H:=Ja h;have HN:=Ja hn;clear h hn;go_enter Tryz.func126,Tryz.ntmps126;go_wp2
 go_loopw [8] (fun kv wx=>∃k:Nat,k<=n/\kv=I k/\wx=w/\Hid ((1<=k->wo a=true)/\(2<=k->wo (xe a)=true))) (fun kv _=>n-(intOf kv).toNat)
 case atStart=>exact⟨0,Jt _,rfl,rfl,Ja ⟨fun h=>by omega,fun h=>by omega⟩⟩
 case round=>
  obtain⟨k,hk,rfl,hw,HK⟩:=hrel;subst hw
  by_cases d:k<n
  ·have b0:(k:Int)<n:=Zo;have b2:k=0∨k=1:=by have:=HN.out;omega
   have q:=Ja d;rcases b2 with rfl|rfl
   ·have a1:IntKind.u16.wrap (a:Int)=(a:Int):=by rw[xY];omega
    clear d
    by_cases f:wo a=true
    ·have c:=Ja f;clear f;go_wp2_with (go_at_call 144;go_must (refine(cC c.out).mono ?_;rintro e w1 ⟨rfl,rfl⟩))
     go_roundw
     case rel=>exact⟨1,q.out,rfl,trivial,Ja ⟨fun _=>c.out,fun h=>by omega⟩⟩
     case measure=>have:=q.out;simp[intOf];omega
    ·have c:=Ja f;clear f;go_wp2_with (go_at_call 144;go_must (refine(bW H.out c.out).mono ?_;rintro e w1 ⟨rfl,a3,a4⟩))
     go_end0
     have g:aa0 m a n x=.trap 2 a m:=by
      unfold aa0 td sK;rw[if_neg c.out,if_neg c.out,ite_self]
     rw[g];exact et.trap a3 a4
   ·obtain⟨p,hp⟩:∃p,xe a=p:=⟨_,rfl⟩
    have a1:IntKind.u16.wrap ((a:Int)+1)=(p:Int):=by rw[xY,<-hp];unfold xe;omega
    have i:=Ja (show n=2 from by have:=HN.out;omega);have HP:=Ja hp;clear d hp
    by_cases f:wo p=true
    ·have c:=Ja f;clear f;go_wp2_with (go_at_call 144;go_must (refine(cC c.out).mono ?_;rintro e w1 ⟨rfl,rfl⟩))
     go_roundw
     case rel=>exact⟨2,by rw[i.out];exact Je _,rfl,trivial,Ja ⟨fun _=>HK.out.1 Zd,fun _=>by rw[HP.out];exact c.out⟩⟩
     case measure=>have:=i.out;simp[intOf];omega
    ·have c:=Ja f;clear f;go_wp2_with (go_at_call 144;go_must (refine(bW H.out c.out).mono ?_;rintro e w1 ⟨rfl,a3,a4⟩))
     go_end0
     have g:aa0 m a n x=.trap 2 p m:=by
      unfold aa0 sK;rw[if_neg (by rw[i.out];decide),if_pos (HK.out.1 Zd),HP.out,if_neg c.out]
     rw[g];exact et.trap a3 a4
  ·obtain rfl:k=n:=by omega
   have b0:¬(k:Int)<(k:Int):=Zo;have t:=HK.out.1 (by have:=HN.out;omega)
   have g:aa0 m a k x=.ok 0 (stN m a x k):=by
    unfold aa0 td sK;rcases HN.out with rfl|rfl
    ·rw[if_pos rfl,if_pos t];rfl
    ·rw[if_neg Zd,if_pos t,if_pos (HK.out.2 Zd)];rfl
   have EE:=Ja g;have a5:=Ja t;clear d g t;go_wp2
   go_loopw [10] (fun jv wx=>∃j:Nat,j<=k/\jv=I j/\Hid (MachQ wx K (stN m a x j) none dp ov/\FrmQ K.B wr wx)) (fun jv _=>k-(intOf jv).toNat)
   case atStart=>exact⟨0,Jt _,rfl,Ja ⟨H.out,FrmQ.refl _ _⟩⟩
   case round=>
    obtain⟨j,hj,rfl,l⟩:=hrel
    by_cases d:j<k
    ·have a6:(j:Int)<k:=Zo;have b3:j=0∨j=1:=by have:=HN.out;omega
     have q:=Ja d;have c6:=l.out.1.c6;have b6:=l.out.1.lt;have b5:=lt_of_block l.out.1.ram;rcases b3 with rfl|rfl
     ·have a1:IntKind.u16.wrap (a:Int)=(a:Int):=by rw[xY];omega
      have a7:=dV a5.out;have a2:=(qG a).1 a5.out;obtain⟨cr,hr,b1⟩:=l.out.1.ramCell a5.out;have b4:((a-16384:Nat):Int)<8192:=Zo;have hb:IntKind.u8.wrap (x:Int)=((x%256:Nat):Int):=by rw[wrapU8];omega
      have HS:=Ja (l.out.1.setR a (x%256) (Qj _ Zd));have a0:x%256<256:=Qj _ Zd;obtain⟨y,u⟩:∃y,x%256=y:=⟨_,rfl⟩
      rw[u] at hb HS a0;have HY:=Ja u;clear d a2 u;go_wp2;go_roundw
      case rel=>exact⟨1,q.out,rfl,Ja ⟨by rw[show stN m a x 1=(stN m a x 0).put a y from by rw[<-HY.out];rfl];exact HS.out.1,l.out.2.trans HS.out.2⟩⟩
      case measure=>have:=q.out;simp[intOf];omega
     ·have i:=Ja (show k=2 from by have:=HN.out;omega);have o:=HK.out.2 (by have:=i.out;omega);obtain⟨p,hp⟩:∃p,xe a=p:=⟨_,rfl⟩
      have a1:IntKind.u16.wrap ((a:Int)+1)=(p:Int):=by rw[xY,<-hp];unfold xe;omega
      have HP:=Ja hp;rw[hp] at o;have a7:=dV o;have a2:=(qG p).1 o;obtain⟨cr,hr,b1⟩:=l.out.1.ramCell o;have b4:((p-16384:Nat):Int)<8192:=Zo;obtain⟨y,u⟩:∃y,x/256=y:=⟨_,rfl⟩
      have a0:y<256:=Zo;have b7:(x:Int)/256=(y:Int):=Zo;have hb:IntKind.u8.wrap (y:Int)=(y:Int):=by rw[wrapU8];omega
      have HS:=Ja (l.out.1.setR p y a0);have HY:=Ja u;clear d a2 u hp o;go_wp2;go_roundw
      case rel=>exact⟨2,by rw[i.out];exact Je _,rfl,Ja ⟨by rw[show stN m a x 2=(stN m a x 1).put p y from by rw[<-HY.out,<-HP.out];rfl];exact HS.out.1,l.out.2.trans HS.out.2⟩⟩
      case measure=>have:=i.out;simp[intOf];omega
    ·obtain rfl:j=k:=by omega
     have a6:¬(j:Int)<(j:Int):=Zo;clear d;go_wp2
     go_end0
     rw[EE.out];exact et.ok l.out.1 l.out.2 Zd
def aI (E:IEnv)(m:Mach)(bank a n:Nat):Res Nat:=if n=1 then nX E m bank a else im E m bank a
def aay (E:IEnv)(bank a:Nat):Nat->Nat
 |0=>0
 |1=>tS E bank a
 |_=>tS E bank a+256*tS E bank (xe a)
theorem dt {s:ByteArray}{a:Nat}(h:a<s.size):s[a]=s.data.getD a 0:=by
 have c:a<s.data.size:=h;rw[Array.getD_eq_getD_getElem?,Array.getElem?_eq_getElem c];rfl
theorem rom_q(h:MachQ w K m none dp ov)(a4:∀s∈K.E.p.banks,s.size=4096){bank a n:Nat}(c4:bank<65536)(c8:a<65536)(hn:n=1∨n=2):O 127 #[F K.pm,M bank,M a,I n] w (vh K w (aI K.E m bank a n)):=by
 have c5:=h.c5;have u:=h.prog.banks;obtain⟨ba,bc,a3,c7,c3⟩:=u.form;rw[a3] at c5 u;have hl:=h.lt;have H:=Ja h;have HN:=Ja hn
 have a1:∀p,sJ K.E bank p=true->∃(s:ByteArray) (b o:Nat),ba=some ⟨b,o,none⟩/\T w b (o+bank) (.string s)/\s.size=4096/\tS K.E bank p=(s.data.getD p 0).toNat:=by
  intro p hr;obtain⟨h1,h2⟩:=(iH _ _ _).1 hr;obtain⟨s,hs⟩:∃s,K.E.p.banks[bank]? =some s:=⟨_,Jd h1⟩
  obtain⟨b,o,b6,_,f,_⟩:=u.get hs;rw[Nk] at f;exact⟨s,b,o,b6,f,a4 s (Ji hs),by unfold tS;rw[Jj,hs];rfl⟩
 have HG:=Ja a1;have a6:=Ja (show ∀p,¬sJ K.E bank p=true->(K.E.p.banks.length:Int)<=(bank:Int)∨((bank:Int)<K.E.p.banks.length/\(4095:Int)<(p:Int)) from fun p hp=>by rw[iH] at hp;omega);have a5:=Ja (show ∀p,sJ K.E bank p=true->¬(K.E.p.banks.length:Int)<=(bank:Int)/\(bank:Int)<K.E.p.banks.length/\¬(4095:Int)<(p:Int)/\p<4096/\(p:Int)<4096 from fun p hp=>by rw[iH] at hp;omega);have c0:IntKind.i64.wrap (bank:Int)=(bank:Int):=by rw[IntKind.wrap_i64];omega
 clear h hn u a4 a1 a3;go_enter Tryz.func127,Tryz.ntmps127;go_wp2
 go_loopw [9,10] (fun xv kv wx=>∃k:Nat,k<=n/\xv=M (aay K.E bank a k:Nat)/\kv=I k/\wx=w/\Hid ((1<=k->sJ K.E bank a=true)/\(2<=k->sJ K.E bank (xe a)=true))) (fun _ kv _=>n-(intOf kv).toNat)
 case atStart=>exact⟨0,Jt _,rfl,rfl,rfl,Ja ⟨fun h=>by omega,fun h=>by omega⟩⟩
 case round=>
  obtain⟨k,hk,rfl,rfl,hw,HK⟩:=hrel;subst hw
  by_cases t:k<n
  ·have b0:(k:Int)<n:=Zo;have b4:k=0∨k=1:=by have:=HN.out;omega
   have a7:=Ja t;rcases b4 with rfl|rfl
   ·have b2:IntKind.u16.wrap (a:Int)=(a:Int):=by rw[xY];omega
    have H0:aay K.E bank a 0=0:=rfl;rw[H0] at *;clear H0 t
    by_cases c:sJ K.E bank a=true
    ·obtain⟨s,b,o,rfl,f,l,j⟩:=HG.out a c;obtain⟨y1,y2,y3,y4,y5⟩:=a5.out a c;have a2:a<s.size:=Zo;have b1:(a:Int)<s.size:=Zo
     have b5:IntKind.u16.wrap ((s[a].toNat:Nat):Int)=((tS K.E bank a:Nat):Int):=by
      rw[xY,j,dt a2];have:=(s.data.getD a 0).toNat_lt;omega
     have hrl:=p9 K.E bank a;have b9:IntKind.u16.wrap ((tS K.E bank a:Nat):Int)=((tS K.E bank a:Nat):Int):=by rw[xY];omega
     have q:=Ja c;have b7:=Ja (Jb l j);clear c l j y4 y5;go_wp2;go_roundw
     case rel=>exact⟨1,a7.out,rfl,rfl,trivial,Ja ⟨fun _=>q.out,fun h=>by omega⟩⟩
     case measure=>have:=a7.out;simp[intOf];omega
    ·have q:=Ja c
     have d:aI K.E m bank a n=.trap 2 a m:=by
      unfold aI nX im;rw[if_neg c,if_neg c,ite_self]
     have EE:=Ja d;have y:=a6.out a c;clear c d;rcases y with y1|⟨y1,y2⟩
     ·go_wp2_with (go_at_call 101;go_must (refine(ew H.out 2 a).mono ?_;rintro e w1 ⟨rfl,g,i⟩))
      go_ret;rw[EE.out];exact vh.trap g i
     ·have y3:¬(K.E.p.banks.length:Int)<=(bank:Int):=Zo;go_wp2_with (go_at_call 101;go_must (refine(ew H.out 2 a).mono ?_;rintro e w1 ⟨rfl,g,i⟩))
      go_ret;rw[EE.out];exact vh.trap g i
   ·obtain⟨p,hp⟩:∃p,xe a=p:=⟨_,rfl⟩
    have x:p<65536:=by rw[<-hp];unfold xe;omega
    have b2:IntKind.u16.wrap ((a:Int)+1)=(p:Int):=by rw[xY,<-hp];unfold xe;omega
    have a0:=Ja (show n=2 from by have:=HN.out;omega);have H0:aay K.E bank a 1=tS K.E bank a:=rfl;rw[H0] at *;have b3:=p9 K.E bank a;have HP:=Ja hp;clear H0 t
    by_cases c:sJ K.E bank p=true
    ·obtain⟨s,b,o,rfl,f,l,j⟩:=HG.out p c;obtain⟨y1,y2,y3,y4,y5⟩:=a5.out p c;have a2:p<s.size:=Zo;have b1:(p:Int)<s.size:=Zo
     have b5:IntKind.u16.wrap ((s[p].toNat:Nat):Int)=((tS K.E bank p:Nat):Int):=by
      rw[xY,j,dt a2];have:=(s.data.getD p 0).toNat_lt;omega
     have hrl:=p9 K.E bank p;have c2:IntKind.u16.wrap ((tS K.E bank p:Int)*256)=((tS K.E bank p:Nat):Int)*256:=by rw[xY];omega
     have c1:IntKind.u16.wrap ((tS K.E bank a:Int)+(tS K.E bank p:Int)*256)=((tS K.E bank a+256*tS K.E bank p:Nat):Int):=by rw[xY];omega
     have q:=Ja c;have b7:=Ja (Jb l j);clear c l j y4 y5 hp;go_wp2;go_roundw
     case rel=>exact⟨2,by rw[a0.out];exact Je _,by rw[show aay K.E bank a 2=tS K.E bank a+256*tS K.E bank (xe a) from rfl,HP.out];go_num,rfl,trivial,Ja ⟨fun _=>HK.out.1 Zd,fun _=>by rw[HP.out];exact q.out⟩⟩
     case measure=>have:=a0.out;simp[intOf];omega
    ·have q:=Ja c
     have d:aI K.E m bank a n=.trap 2 p m:=by
      unfold aI im;rw[if_neg (by rw[a0.out];decide),if_pos (HK.out.1 Zd),HP.out,if_neg c]
     have EE:=Ja d;have y:=a6.out p c;clear c d hp b3;rcases y with y1|⟨y1,y2⟩
     ·go_wp2_with (go_at_call 101;go_must (refine(ew H.out 2 p).mono ?_;rintro e w1 ⟨rfl,g,i⟩))
      go_ret;rw[EE.out];exact vh.trap g i
     ·have y3:¬(K.E.p.banks.length:Int)<=(bank:Int):=Zo;go_wp2_with (go_at_call 101;go_must (refine(ew H.out 2 p).mono ?_;rintro e w1 ⟨rfl,g,i⟩))
      go_ret;rw[EE.out];exact vh.trap g i
  ·obtain rfl:k=n:=by omega
   have b0:¬(k:Int)<(k:Int):=Zo
   have d:aI K.E m bank a k=.ok (aay K.E bank a k) m:=by
    unfold aI nX im;rcases HN.out with rfl|rfl
    ·rw[if_pos rfl,if_pos (HK.out.1 Zd)];rfl
    ·rw[if_neg Zd,if_pos (HK.out.1 Zd),if_pos (HK.out.2 Zd)];rfl
   have x:aay K.E bank a k<65536:=by
    have h1:=p9 K.E bank a;have h2:=p9 K.E bank (xe a);rcases HN.out with rfl|rfl
    ·show tS K.E bank a<_;omega
    ·show tS K.E bank a+256*tS K.E bank (xe a)<_;omega
   have EE:=Ja d;have b8:=Ja x;clear x t d;go_wp2;go_ret;rw[EE.out];exact vh.ok H.out (FrmQ.refl _ _) b8.out
def dA (w:World)(vb n:Nat)(v:Int->Nat):Prop:=A w vb ((List.range n).map fun i:Nat=>vL (v (i:Int))).toArray 43/\∀x,v x<65536
theorem dA.below{n:Nat}{v:Int->Nat}(h:dA w vb n v)(hb:A w' vb ((List.range n).map fun i:Nat=>vL (v (i:Int))).toArray 43):dA w' vb n v:=⟨hb,h.2⟩
theorem dA.kept{K:Nat}{n:Nat}{v:Int->Nat}(h:dA w vb n v)(hf:FrmQ K w w'):dA w' vb n v:=⟨hf.kept _ _ h.1 (by simp[di]),h.2⟩
theorem dA.cell {w:World}{vb n:Nat}{v:Int->Nat}(h:dA w vb n v){k:Nat}(hk:k<n):T w vb k (M (v (k:Int):Nat)):=zA h.1 (by simp[hk,vL])
theorem dA.free{n:Nat}{v:Int->Nat}(h:dA w vb n v)(k:Nat):Y w vb k:=zE h.1
theorem dA.set{n:Nat}{v:Int->Nat}(h:dA w vb n v){r:Nat}(hr:r<65536):dA (w.setCell ⟨vb,k,none⟩ (M r)) vb n (iY v k r):=by
 refine⟨?_,fun x=>by unfold iY;split;exact hr;exact h.2 x⟩;rw[zD h.1]
 congr 2
 rw[Jc]
 congr 1
 apply Oq;intro i;rw[Ov,Jr,Jr]
 by_cases hi:i<n
 ·rw[Oh hi]
  by_cases hk:k=i
  ·subst hk;simp[hi,iY,vL]
  ·have:¬(i:Int)=(k:Int):=Zo;simp[hk,iY,this]
 ·have c:(List.range n)[i]? =none:=Of (by simpa using hi);rw[c]
  by_cases hk:k=i
  ·subst hk;simp[hi]
  ·simp[hk]
theorem qstep_1(h:MachQ w K m none dp ov)(a0:on<65536)(ab:Option Addr)(an ac:Nat){n:Nat}{v:Int->Nat}(hv:dA w vb n v)(a1:Int):
 O 103 #[F K.pm,.agg #[I 1,I f,I oa,I ob,M on,.slice ab an ac],L vb n n,I a1] w (vh K w (.ok on m)):=by
 have a6:=hv.2 oa;have a5:=hv.2 ob;have k:=zI (W:=w) (o:=G #[I 1,I f,I oa,I ob,M on,.slice ab an ac] 76) rfl;have u:Q w (w.alloc (G #[I 1,I f,I oa,I ob,M on,.slice ab an ac] 76)):=(Below.refl _ _).alloc (Je _) _;have H:=Ja h;have x:=Ja hv;have j:=Ja (Jb k u);clear h hv k u;generalize t:v oa=xa at *;generalize q:v ob=xb at *;have HX:=Ja (Jb t q);clear t q;go_enter Tryz.func103,Tryz.ntmps103;go_upto_region 4 with(go_at_call 52;go_must (refine(aaK 1 _).mono ?_;rintro e w1 ⟨he,d⟩;obtain rfl:e=.returned (.agg #[.bool true,.bool true,.bool false,.bool false,.bool true]):=he))
 have i:Q w (w1.alloc (G #[.bool true,.bool true,.bool false,.bool false,.bool true] 120)):=(j.out.2.trans (d.mono j.out.2.size)).alloc (Jn j.out.2.size d.size) _;have c:=zB (o:=(G #[.bool true,.bool true,.bool false,.bool false,.bool true] 120)) (zH d j.out.1 (lt_of_block j.out.1));have g:=zI (W:=w1) (o:=(G #[.bool true,.bool true,.bool false,.bool false,.bool true] 120)) rfl;have a7:w1.heap.size≠w.heap.size:=by have:=d.size;simp at this;omega
 generalize w1.alloc (G #[.bool true,.bool true,.bool false,.bool false,.bool true] 120)=W2 at *;generalize w1.heap.size=bs at *;have l:=H.out.keep i;have y:=x.out.below (zH i x.out.1 (lt_of_block x.out.1));have p0:=K0 c;have p2:=K2 c;have p3:=K3 c;have p4:=K4 c;have p5:=K5 c;have s2:=K2 g;have s3:=K3 g;have a4:=lt_of_block c;have a3:=lt_of_block g;have HM:=Ja l;have HF:=Ja (FrmQ.ofBelow i (Qd H.out.size));have a2:=l.lt;clear i c g d j l y;go_wp2;go_ret;exact vh.ok HM.out HF.out a0
theorem qstep_3(h:MachQ w K m none dp ov)(b0:on<65536)(ab:Option Addr)(an ac:Nat){n:Nat}{v:Int->Nat}(hv:dA w vb n v)(a7:0<=oa/\oa.toNat<n)(a0:Int):
 O 103 #[F K.pm,.agg #[I 3,I f,I oa,I ob,M on,.slice ab an ac],L vb n n,I a0] w (vh K w (.ok ((65536-v oa)%65536) m)):=by
 have a6:=hv.2 oa;have a5:=hv.2 ob;obtain⟨ka,rfl⟩:∃ka:Nat,oa=(ka:Int):=⟨oa.toNat,by omega⟩
 have y:ka<n:=Zo;have b1:(ka:Int)<(n:Int):=Zo;have l:=zI (W:=w) (o:=G #[I 3,I f,I ka,I ob,M on,.slice ab an ac] 76) rfl;have x:Q w (w.alloc (G #[I 3,I f,I ka,I ob,M on,.slice ab an ac] 76)):=(Below.refl _ _).alloc (Je _) _;have H:=Ja h;have HV:=Ja hv;have j:=Ja (Jb l x);clear h hv l x;generalize u:v (ka:Int)=xa at *;generalize t:v ob=xb at *;have HX:=Ja (Jb u t);clear u t;go_enter Tryz.func103,Tryz.ntmps103;go_upto_region 4 with(go_at_call 52;go_must (refine(aaK 3 _).mono ?_;rintro e w1 ⟨he,d⟩;obtain rfl:e=.returned (.agg #[.bool true,.bool true,.bool true,.bool false,.bool false]):=he))
 have i:Q w (w1.alloc (G #[.bool true,.bool true,.bool true,.bool false,.bool false] 120)):=(j.out.2.trans (d.mono j.out.2.size)).alloc (Jn j.out.2.size d.size) _;have c:=zB (o:=(G #[.bool true,.bool true,.bool true,.bool false,.bool false] 120)) (zH d j.out.1 (lt_of_block j.out.1));have g:=zI (W:=w1) (o:=(G #[.bool true,.bool true,.bool true,.bool false,.bool false] 120)) rfl;have b2:w1.heap.size≠w.heap.size:=by have:=d.size;simp at this;omega
 generalize w1.alloc (G #[.bool true,.bool true,.bool true,.bool false,.bool false] 120)=W2 at *;generalize w1.heap.size=bs at *;have q:=H.out.keep i;have k:=HV.out.below (zH i HV.out.1 (lt_of_block HV.out.1));have p0:=K0 c;have p2:=K2 c;have p3:=K3 c;have p4:=K4 c;have p5:=K5 c;have s2:=K2 g;have s3:=K3 g;have a4:=lt_of_block c;have a3:=lt_of_block g;have ca:T W2 vb ka (M xa):=by rw[<-HX.out.1];exact k.cell y
 have a1:=lt_of_block k.1;have HM:=Ja q;have HF:=Ja (FrmQ.ofBelow i (Qd H.out.size));have a2:=q.lt;clear i c g d j q k;have hw:IntKind.u16.wrap (-(xa:Int))=(((65536-xa)%65536:Nat):Int):=by rw[xY];omega
 go_wp2;go_ret;exact vh.ok HM.out HF.out (Qj _ Zd)
theorem qstep_4(h:MachQ w K m none dp ov)(b0:on<65536)(ab:Option Addr)(an ac:Nat){n:Nat}{v:Int->Nat}(hv:dA w vb n v)(a7:0<=oa/\oa.toNat<n)(a0:Int):
 O 103 #[F K.pm,.agg #[I 4,I f,I oa,I ob,M on,.slice ab an ac],L vb n n,I a0] w (vh K w (.ok (65535-v oa) m)):=by
 have a6:=hv.2 oa;have a5:=hv.2 ob;obtain⟨ka,rfl⟩:∃ka:Nat,oa=(ka:Int):=⟨oa.toNat,by omega⟩
 have y:ka<n:=Zo;have b1:(ka:Int)<(n:Int):=Zo;have l:=zI (W:=w) (o:=G #[I 4,I f,I ka,I ob,M on,.slice ab an ac] 76) rfl;have x:Q w (w.alloc (G #[I 4,I f,I ka,I ob,M on,.slice ab an ac] 76)):=(Below.refl _ _).alloc (Je _) _;have H:=Ja h;have HV:=Ja hv;have j:=Ja (Jb l x);clear h hv l x;generalize u:v (ka:Int)=xa at *;generalize t:v ob=xb at *;have HX:=Ja (Jb u t);clear u t;go_enter Tryz.func103,Tryz.ntmps103;go_upto_region 4 with(go_at_call 52;go_must (refine(aaK 4 _).mono ?_;rintro e w1 ⟨he,d⟩;obtain rfl:e=.returned (.agg #[.bool true,.bool true,.bool true,.bool false,.bool false]):=he))
 have i:Q w (w1.alloc (G #[.bool true,.bool true,.bool true,.bool false,.bool false] 120)):=(j.out.2.trans (d.mono j.out.2.size)).alloc (Jn j.out.2.size d.size) _;have c:=zB (o:=(G #[.bool true,.bool true,.bool true,.bool false,.bool false] 120)) (zH d j.out.1 (lt_of_block j.out.1));have g:=zI (W:=w1) (o:=(G #[.bool true,.bool true,.bool true,.bool false,.bool false] 120)) rfl;have b2:w1.heap.size≠w.heap.size:=by have:=d.size;simp at this;omega
 generalize w1.alloc (G #[.bool true,.bool true,.bool true,.bool false,.bool false] 120)=W2 at *;generalize w1.heap.size=bs at *;have q:=H.out.keep i;have k:=HV.out.below (zH i HV.out.1 (lt_of_block HV.out.1));have p0:=K0 c;have p2:=K2 c;have p3:=K3 c;have p4:=K4 c;have p5:=K5 c;have s2:=K2 g;have s3:=K3 g;have a4:=lt_of_block c;have a3:=lt_of_block g;have ca:T W2 vb ka (M xa):=by rw[<-HX.out.1];exact k.cell y
 have a1:=lt_of_block k.1;have HM:=Ja q;have HF:=Ja (FrmQ.ofBelow i (Qd H.out.size));have a2:=q.lt;clear i c g d j q k;have hw:IntKind.u16.wrap (65535-(xa:Int))=((65535-xa:Nat):Int):=by rw[xY];omega
 go_wp2;go_ret;exact vh.ok HM.out HF.out Zo
theorem qstep_18(h:MachQ w K m none dp ov)(b8:on<65536)(ab:Option Addr)(an ac:Nat){n:Nat}{v:Int->Nat}(hv:dA w vb n v)(b7:0<=oa/\oa.toNat<n)(b1:Int):
 O 103 #[F K.pm,.agg #[I 18,I f,I oa,I ob,M on,.slice ab an ac],L vb n n,I b1] w (vh K w (dQ m (v oa) 2)):=by
 have a7:=hv.2 oa;have b6:=hv.2 ob;obtain⟨ka,rfl⟩:∃ka:Nat,oa=(ka:Int):=⟨oa.toNat,by omega⟩
 have a5:ka<n:=Zo;have b9:(ka:Int)<(n:Int):=Zo;have t:=zI (W:=w) (o:=G #[I 18,I f,I ka,I ob,M on,.slice ab an ac] 76) rfl;have a3:Q w (w.alloc (G #[I 18,I f,I ka,I ob,M on,.slice ab an ac] 76)):=(Below.refl _ _).alloc (Je _) _;have H:=Ja h;have HV:=Ja hv;have l:=Ja (Jb t a3);clear h hv t a3;generalize a2:v (ka:Int)=xa at *;generalize a1:v ob=xb at *;have HX:=Ja (Jb a2 a1);clear a2 a1;go_enter Tryz.func103,Tryz.ntmps103;go_upto_region 4 with(go_at_call 52;go_must (refine(aaK 18 _).mono ?_;rintro e w1 ⟨he,d⟩;obtain rfl:e=.returned (.agg #[.bool true,.bool true,.bool true,.bool false,.bool false]):=he))
 have j:Q w (w1.alloc (G #[.bool true,.bool true,.bool true,.bool false,.bool false] 120)):=(l.out.2.trans (d.mono l.out.2.size)).alloc (Jn l.out.2.size d.size) _;have c:=zB (o:=(G #[.bool true,.bool true,.bool true,.bool false,.bool false] 120)) (zH d l.out.1 (lt_of_block l.out.1));have g:=zI (W:=w1) (o:=(G #[.bool true,.bool true,.bool true,.bool false,.bool false] 120)) rfl;have c0:w1.heap.size≠w.heap.size:=by have:=d.size;simp at this;omega
 generalize w1.alloc (G #[.bool true,.bool true,.bool true,.bool false,.bool false] 120)=W2 at *;generalize w1.heap.size=bs at *;have a0:=H.out.keep j;have q:=HV.out.below (zH j HV.out.1 (lt_of_block HV.out.1));have p0:=K0 c;have p2:=K2 c;have p3:=K3 c;have p4:=K4 c;have p5:=K5 c;have s2:=K2 g;have s3:=K3 g;have b5:=lt_of_block c;have b4:=lt_of_block g;have ca:T W2 vb ka (M xa):=by rw[<-HX.out.1];exact q.cell a5
 have b2:=lt_of_block q.1;have HM:=Ja a0;have HF:=Ja (FrmQ.ofBelow j (Qd H.out.size));have b3:=a0.lt;clear j c g d l a0 q;obtain⟨R,hR⟩:∃R,dQ m xa 2=R:=⟨_,rfl⟩
 have hc:=load_q HM.out a7 (n:=2) (.inr rfl);have EE:=Ja hR;rw[show dQ m xa 2=R from hR] at hc
 cases R with
 |ok x m'=>
  have HC:=Ja hc;clear hc hR;go_wp2_with (go_at_call 125;go_must (refine HC.out.mono ?_;rintro e w3 ⟨he,⟨a4,ov3,u⟩,y,a6⟩;obtain rfl:e=.returned (M x):=he))
  go_ret;rw[EE.out]
  exact vh.ok u (HF.out.trans y) a6
 |trap k i m'=>
  have HC:=Ja hc;clear hc hR;go_wp2_with (go_at_call 125;go_must (refine HC.out.mono ?_;rintro e w3 ⟨he,⟨a4,ov3,b0,u⟩,y⟩;obtain rfl:e=.returned (M 0):=he))
  go_ret;rw[EE.out];exact⟨rfl,⟨a4,ov3,b0,u⟩,HF.out.trans y⟩
theorem qstep_19(h:MachQ w K m none dp ov)(b8:on<65536)(ab:Option Addr)(an ac:Nat){n:Nat}{v:Int->Nat}(hv:dA w vb n v)(b7:0<=oa/\oa.toNat<n)(b1:Int):
 O 103 #[F K.pm,.agg #[I 19,I f,I oa,I ob,M on,.slice ab an ac],L vb n n,I b1] w (vh K w (dQ m (v oa) 1)):=by
 have a7:=hv.2 oa;have b6:=hv.2 ob;obtain⟨ka,rfl⟩:∃ka:Nat,oa=(ka:Int):=⟨oa.toNat,by omega⟩
 have a5:ka<n:=Zo;have b9:(ka:Int)<(n:Int):=Zo;have t:=zI (W:=w) (o:=G #[I 19,I f,I ka,I ob,M on,.slice ab an ac] 76) rfl;have a3:Q w (w.alloc (G #[I 19,I f,I ka,I ob,M on,.slice ab an ac] 76)):=(Below.refl _ _).alloc (Je _) _;have H:=Ja h;have HV:=Ja hv;have l:=Ja (Jb t a3);clear h hv t a3;generalize a2:v (ka:Int)=xa at *;generalize a1:v ob=xb at *;have HX:=Ja (Jb a2 a1);clear a2 a1;go_enter Tryz.func103,Tryz.ntmps103;go_upto_region 4 with(go_at_call 52;go_must (refine(aaK 19 _).mono ?_;rintro e w1 ⟨he,d⟩;obtain rfl:e=.returned (.agg #[.bool true,.bool true,.bool true,.bool false,.bool false]):=he))
 have j:Q w (w1.alloc (G #[.bool true,.bool true,.bool true,.bool false,.bool false] 120)):=(l.out.2.trans (d.mono l.out.2.size)).alloc (Jn l.out.2.size d.size) _;have c:=zB (o:=(G #[.bool true,.bool true,.bool true,.bool false,.bool false] 120)) (zH d l.out.1 (lt_of_block l.out.1));have g:=zI (W:=w1) (o:=(G #[.bool true,.bool true,.bool true,.bool false,.bool false] 120)) rfl;have c0:w1.heap.size≠w.heap.size:=by have:=d.size;simp at this;omega
 generalize w1.alloc (G #[.bool true,.bool true,.bool true,.bool false,.bool false] 120)=W2 at *;generalize w1.heap.size=bs at *;have a0:=H.out.keep j;have q:=HV.out.below (zH j HV.out.1 (lt_of_block HV.out.1));have p0:=K0 c;have p2:=K2 c;have p3:=K3 c;have p4:=K4 c;have p5:=K5 c;have s2:=K2 g;have s3:=K3 g;have b5:=lt_of_block c;have b4:=lt_of_block g;have ca:T W2 vb ka (M xa):=by rw[<-HX.out.1];exact q.cell a5
 have b2:=lt_of_block q.1;have HM:=Ja a0;have HF:=Ja (FrmQ.ofBelow j (Qd H.out.size));have b3:=a0.lt;clear j c g d l a0 q;obtain⟨R,hR⟩:∃R,dQ m xa 1=R:=⟨_,rfl⟩
 have hc:=load_q HM.out a7 (n:=1) (.inl rfl);have EE:=Ja hR;rw[show dQ m xa 1=R from hR] at hc
 cases R with
 |ok x m'=>
  have HC:=Ja hc;clear hc hR;go_wp2_with (go_at_call 125;go_must (refine HC.out.mono ?_;rintro e w3 ⟨he,⟨a4,ov3,u⟩,y,a6⟩;obtain rfl:e=.returned (M x):=he))
  go_ret;rw[EE.out]
  exact vh.ok u (HF.out.trans y) a6
 |trap k i m'=>
  have HC:=Ja hc;clear hc hR;go_wp2_with (go_at_call 125;go_must (refine HC.out.mono ?_;rintro e w3 ⟨he,⟨a4,ov3,b0,u⟩,y⟩;obtain rfl:e=.returned (M 0):=he))
  go_ret;rw[EE.out];exact⟨rfl,⟨a4,ov3,b0,u⟩,HF.out.trans y⟩
theorem dk{m':Mach}{a n r:Nat}(h:aa0 m a n x=.ok r m'):r=0:=by
 unfold aa0 td sK at h
 split at h
 ·split at h
  ·cases h;rfl
  ·cases h
 ·split at h
  ·split at h
   ·cases h;rfl
   ·cases h
  ·cases h
theorem qstep_20(h:MachQ w K m none dp ov)(c1:on<65536)(ab:Option Addr)(an ac:Nat){n:Nat}{v:Int->Nat}(hv:dA w vb n v)(c0:0<=oa/\oa.toNat<n)(b9:0<=ob/\ob.toNat<n)(b3:Int):
 O 103 #[F K.pm,.agg #[I 20,I f,I oa,I ob,M on,.slice ab an ac],L vb n n,I b3] w (vh K w (aa0 m (v oa) 2 (v ob))):=by
 have b1:=hv.2 oa;have b0:=hv.2 ob;obtain⟨ka,rfl⟩:∃ka:Nat,oa=(ka:Int):=⟨oa.toNat,by omega⟩
 have a6:ka<n:=Zo;have c3:(ka:Int)<(n:Int):=Zo;obtain⟨kb,rfl⟩:∃kb:Nat,ob=(kb:Int):=⟨ob.toNat,by omega⟩
 have a5:kb<n:=Zo;have c2:(kb:Int)<(n:Int):=Zo;have t:=zI (W:=w) (o:=G #[I 20,I f,I ka,I kb,M on,.slice ab an ac] 76) rfl;have a3:Q w (w.alloc (G #[I 20,I f,I ka,I kb,M on,.slice ab an ac] 76)):=(Below.refl _ _).alloc (Je _) _;have H:=Ja h;have HV:=Ja hv;have q:=Ja (Jb t a3);clear h hv t a3;generalize a2:v (ka:Int)=xa at *;generalize a1:v (kb:Int)=xb at *;have HX:=Ja (Jb a2 a1);clear a2 a1;go_enter Tryz.func103,Tryz.ntmps103;go_upto_region 4 with(go_at_call 52;go_must (refine(aaK 20 _).mono ?_;rintro e w1 ⟨he,d⟩;obtain rfl:e=.returned (.agg #[.bool true,.bool false,.bool true,.bool true,.bool false]):=he))
 have l:Q w (w1.alloc (G #[.bool true,.bool false,.bool true,.bool true,.bool false] 120)):=(q.out.2.trans (d.mono q.out.2.size)).alloc (Jn q.out.2.size d.size) _;have c:=zB (o:=(G #[.bool true,.bool false,.bool true,.bool true,.bool false] 120)) (zH d q.out.1 (lt_of_block q.out.1));have j:=zI (W:=w1) (o:=(G #[.bool true,.bool false,.bool true,.bool true,.bool false] 120)) rfl;have c4:w1.heap.size≠w.heap.size:=by have:=d.size;simp at this;omega
 generalize w1.alloc (G #[.bool true,.bool false,.bool true,.bool true,.bool false] 120)=W2 at *;generalize w1.heap.size=bs at *;have a0:=H.out.keep l;have g:=HV.out.below (zH l HV.out.1 (lt_of_block HV.out.1));have p0:=K0 c;have p2:=K2 c;have p3:=K3 c;have p4:=K4 c;have p5:=K5 c;have s2:=K2 j;have s3:=K3 j;have b7:=lt_of_block c;have b6:=lt_of_block j;have ca:T W2 vb ka (M xa):=by rw[<-HX.out.1];exact g.cell a6
 have cb:T W2 vb kb (M xb):=by rw[<-HX.out.2];exact g.cell a5
 have b4:=lt_of_block g.1;have HM:=Ja a0;have HF:=Ja (FrmQ.ofBelow l (Qd H.out.size));have b5:=a0.lt;clear l c j d q a0 g;obtain⟨R,hR⟩:∃R,aa0 m xa 2 xb=R:=⟨_,rfl⟩
 have hc:=aY HM.out b1 b0 (n:=2) (.inr rfl);have EE:=Ja hR;rw[show aa0 m xa 2 xb=R from hR] at hc
 cases R with
 |ok x m'=>
  have HC:=Ja hc;have a7:x=0:=by exact dk EE.out
  clear hc hR;subst a7;go_wp2_with (go_at_call 126;go_must (refine HC.out.mono ?_;rintro e w3 ⟨he,⟨a4,ov3,u⟩,y,b8⟩;subst he))
  go_ret;rw[EE.out]
  exact vh.ok (x:=0) u (HF.out.trans y) Zd
 |trap k i m'=>
  have HC:=Ja hc;clear hc hR;go_wp2_with (go_at_call 126;go_must (refine HC.out.mono ?_;rintro e w3 ⟨he,⟨a4,ov3,b2,u⟩,y⟩;subst he))
  go_ret;rw[EE.out];exact⟨rfl,⟨a4,ov3,b2,u⟩,HF.out.trans y⟩
theorem qstep_21(h:MachQ w K m none dp ov)(c1:on<65536)(ab:Option Addr)(an ac:Nat){n:Nat}{v:Int->Nat}(hv:dA w vb n v)(c0:0<=oa/\oa.toNat<n)(b9:0<=ob/\ob.toNat<n)(b3:Int):
 O 103 #[F K.pm,.agg #[I 21,I f,I oa,I ob,M on,.slice ab an ac],L vb n n,I b3] w (vh K w (aa0 m (v oa) 1 (v ob))):=by
 have b1:=hv.2 oa;have b0:=hv.2 ob;obtain⟨ka,rfl⟩:∃ka:Nat,oa=(ka:Int):=⟨oa.toNat,by omega⟩
 have a6:ka<n:=Zo;have c3:(ka:Int)<(n:Int):=Zo;obtain⟨kb,rfl⟩:∃kb:Nat,ob=(kb:Int):=⟨ob.toNat,by omega⟩
 have a5:kb<n:=Zo;have c2:(kb:Int)<(n:Int):=Zo;have t:=zI (W:=w) (o:=G #[I 21,I f,I ka,I kb,M on,.slice ab an ac] 76) rfl;have a3:Q w (w.alloc (G #[I 21,I f,I ka,I kb,M on,.slice ab an ac] 76)):=(Below.refl _ _).alloc (Je _) _;have H:=Ja h;have HV:=Ja hv;have q:=Ja (Jb t a3);clear h hv t a3;generalize a2:v (ka:Int)=xa at *;generalize a1:v (kb:Int)=xb at *;have HX:=Ja (Jb a2 a1);clear a2 a1;go_enter Tryz.func103,Tryz.ntmps103;go_upto_region 4 with(go_at_call 52;go_must (refine(aaK 21 _).mono ?_;rintro e w1 ⟨he,d⟩;obtain rfl:e=.returned (.agg #[.bool true,.bool false,.bool true,.bool true,.bool false]):=he))
 have l:Q w (w1.alloc (G #[.bool true,.bool false,.bool true,.bool true,.bool false] 120)):=(q.out.2.trans (d.mono q.out.2.size)).alloc (Jn q.out.2.size d.size) _;have c:=zB (o:=(G #[.bool true,.bool false,.bool true,.bool true,.bool false] 120)) (zH d q.out.1 (lt_of_block q.out.1));have j:=zI (W:=w1) (o:=(G #[.bool true,.bool false,.bool true,.bool true,.bool false] 120)) rfl;have c4:w1.heap.size≠w.heap.size:=by have:=d.size;simp at this;omega
 generalize w1.alloc (G #[.bool true,.bool false,.bool true,.bool true,.bool false] 120)=W2 at *;generalize w1.heap.size=bs at *;have a0:=H.out.keep l;have g:=HV.out.below (zH l HV.out.1 (lt_of_block HV.out.1));have p0:=K0 c;have p2:=K2 c;have p3:=K3 c;have p4:=K4 c;have p5:=K5 c;have s2:=K2 j;have s3:=K3 j;have b7:=lt_of_block c;have b6:=lt_of_block j;have ca:T W2 vb ka (M xa):=by rw[<-HX.out.1];exact g.cell a6
 have cb:T W2 vb kb (M xb):=by rw[<-HX.out.2];exact g.cell a5
 have b4:=lt_of_block g.1;have HM:=Ja a0;have HF:=Ja (FrmQ.ofBelow l (Qd H.out.size));have b5:=a0.lt;clear l c j d q a0 g;obtain⟨R,hR⟩:∃R,aa0 m xa 1 xb=R:=⟨_,rfl⟩
 have hc:=aY HM.out b1 b0 (n:=1) (.inl rfl);have EE:=Ja hR;rw[show aa0 m xa 1 xb=R from hR] at hc
 cases R with
 |ok x m'=>
  have HC:=Ja hc;have a7:x=0:=by exact dk EE.out
  clear hc hR;subst a7;go_wp2_with (go_at_call 126;go_must (refine HC.out.mono ?_;rintro e w3 ⟨he,⟨a4,ov3,u⟩,y,b8⟩;subst he))
  go_ret;rw[EE.out]
  exact vh.ok (x:=0) u (HF.out.trans y) Zd
 |trap k i m'=>
  have HC:=Ja hc;clear hc hR;go_wp2_with (go_at_call 126;go_must (refine HC.out.mono ?_;rintro e w3 ⟨he,⟨a4,ov3,b2,u⟩,y⟩;subst he))
  go_ret;rw[EE.out];exact⟨rfl,⟨a4,ov3,b2,u⟩,HF.out.trans y⟩
theorem qstep_22(h:MachQ w K m none dp ov)(b0:on<65536)(ab:Option Addr)(an ac:Nat){n:Nat}{v:Int->Nat}(hv:dA w vb n v)(b9:0<=oa/\oa.toNat<n)(b3:Int)(b1:Hid (∀s∈K.E.p.banks,s.size=4096)):
 O 103 #[F K.pm,.agg #[I 22,I f,I oa,I ob,M on,.slice ab an ac],L vb n n,I b3] w (vh K w (aI K.E m on (v oa) 2)):=by
 have a7:=hv.2 oa;have b8:=hv.2 ob;obtain⟨ka,rfl⟩:∃ka:Nat,oa=(ka:Int):=⟨oa.toNat,by omega⟩
 have a5:ka<n:=Zo;have c0:(ka:Int)<(n:Int):=Zo;have t:=zI (W:=w) (o:=G #[I 22,I f,I ka,I ob,M on,.slice ab an ac] 76) rfl;have a3:Q w (w.alloc (G #[I 22,I f,I ka,I ob,M on,.slice ab an ac] 76)):=(Below.refl _ _).alloc (Je _) _;have H:=Ja h;have HV:=Ja hv;have l:=Ja (Jb t a3);clear h hv t a3;generalize a2:v (ka:Int)=xa at *;generalize a1:v ob=xb at *;have HX:=Ja (Jb a2 a1);clear a2 a1;go_enter Tryz.func103,Tryz.ntmps103;go_upto_region 4 with(go_at_call 52;go_must (refine(aaK 22 _).mono ?_;rintro e w1 ⟨he,d⟩;obtain rfl:e=.returned (.agg #[.bool true,.bool true,.bool true,.bool false,.bool true]):=he))
 have j:Q w (w1.alloc (G #[.bool true,.bool true,.bool true,.bool false,.bool true] 120)):=(l.out.2.trans (d.mono l.out.2.size)).alloc (Jn l.out.2.size d.size) _;have c:=zB (o:=(G #[.bool true,.bool true,.bool true,.bool false,.bool true] 120)) (zH d l.out.1 (lt_of_block l.out.1));have g:=zI (W:=w1) (o:=(G #[.bool true,.bool true,.bool true,.bool false,.bool true] 120)) rfl;have c1:w1.heap.size≠w.heap.size:=by have:=d.size;simp at this;omega
 generalize w1.alloc (G #[.bool true,.bool true,.bool true,.bool false,.bool true] 120)=W2 at *;generalize w1.heap.size=bs at *;have a0:=H.out.keep j;have q:=HV.out.below (zH j HV.out.1 (lt_of_block HV.out.1));have p0:=K0 c;have p2:=K2 c;have p3:=K3 c;have p4:=K4 c;have p5:=K5 c;have s2:=K2 g;have s3:=K3 g;have b7:=lt_of_block c;have b6:=lt_of_block g;have ca:T W2 vb ka (M xa):=by rw[<-HX.out.1];exact q.cell a5
 have b4:=lt_of_block q.1;have HM:=Ja a0;have HF:=Ja (FrmQ.ofBelow j (Qd H.out.size));have b5:=a0.lt;clear j c g d l a0 q;obtain⟨R,hR⟩:∃R,aI K.E m on xa 2=R:=⟨_,rfl⟩
 have hc:=rom_q HM.out b1.out b0 a7 (n:=2) (.inr rfl);have EE:=Ja hR;rw[show aI K.E m on xa 2=R from hR] at hc
 cases R with
 |ok x m'=>
  have HC:=Ja hc;clear hc hR;go_wp2_with (go_at_call 127;go_must (refine HC.out.mono ?_;rintro e w3 ⟨he,⟨a4,ov3,u⟩,y,a6⟩;obtain rfl:e=.returned (M x):=he))
  go_ret;rw[EE.out]
  exact vh.ok u (HF.out.trans y) a6
 |trap k i m'=>
  have HC:=Ja hc;clear hc hR;go_wp2_with (go_at_call 127;go_must (refine HC.out.mono ?_;rintro e w3 ⟨he,⟨a4,ov3,b2,u⟩,y⟩;obtain rfl:e=.returned (M 0):=he))
  go_ret;rw[EE.out];exact⟨rfl,⟨a4,ov3,b2,u⟩,HF.out.trans y⟩
theorem qstep_23(h:MachQ w K m none dp ov)(b0:on<65536)(ab:Option Addr)(an ac:Nat){n:Nat}{v:Int->Nat}(hv:dA w vb n v)(b9:0<=oa/\oa.toNat<n)(b3:Int)(b1:Hid (∀s∈K.E.p.banks,s.size=4096)):
 O 103 #[F K.pm,.agg #[I 23,I f,I oa,I ob,M on,.slice ab an ac],L vb n n,I b3] w (vh K w (aI K.E m on (v oa) 1)):=by
 have a7:=hv.2 oa;have b8:=hv.2 ob;obtain⟨ka,rfl⟩:∃ka:Nat,oa=(ka:Int):=⟨oa.toNat,by omega⟩
 have a5:ka<n:=Zo;have c0:(ka:Int)<(n:Int):=Zo;have t:=zI (W:=w) (o:=G #[I 23,I f,I ka,I ob,M on,.slice ab an ac] 76) rfl;have a3:Q w (w.alloc (G #[I 23,I f,I ka,I ob,M on,.slice ab an ac] 76)):=(Below.refl _ _).alloc (Je _) _;have H:=Ja h;have HV:=Ja hv;have l:=Ja (Jb t a3);clear h hv t a3;generalize a2:v (ka:Int)=xa at *;generalize a1:v ob=xb at *;have HX:=Ja (Jb a2 a1);clear a2 a1;go_enter Tryz.func103,Tryz.ntmps103;go_upto_region 4 with(go_at_call 52;go_must (refine(aaK 23 _).mono ?_;rintro e w1 ⟨he,d⟩;obtain rfl:e=.returned (.agg #[.bool true,.bool true,.bool true,.bool false,.bool true]):=he))
 have j:Q w (w1.alloc (G #[.bool true,.bool true,.bool true,.bool false,.bool true] 120)):=(l.out.2.trans (d.mono l.out.2.size)).alloc (Jn l.out.2.size d.size) _;have c:=zB (o:=(G #[.bool true,.bool true,.bool true,.bool false,.bool true] 120)) (zH d l.out.1 (lt_of_block l.out.1));have g:=zI (W:=w1) (o:=(G #[.bool true,.bool true,.bool true,.bool false,.bool true] 120)) rfl;have c1:w1.heap.size≠w.heap.size:=by have:=d.size;simp at this;omega
 generalize w1.alloc (G #[.bool true,.bool true,.bool true,.bool false,.bool true] 120)=W2 at *;generalize w1.heap.size=bs at *;have a0:=H.out.keep j;have q:=HV.out.below (zH j HV.out.1 (lt_of_block HV.out.1));have p0:=K0 c;have p2:=K2 c;have p3:=K3 c;have p4:=K4 c;have p5:=K5 c;have s2:=K2 g;have s3:=K3 g;have b7:=lt_of_block c;have b6:=lt_of_block g;have ca:T W2 vb ka (M xa):=by rw[<-HX.out.1];exact q.cell a5
 have b4:=lt_of_block q.1;have HM:=Ja a0;have HF:=Ja (FrmQ.ofBelow j (Qd H.out.size));have b5:=a0.lt;clear j c g d l a0 q;obtain⟨R,hR⟩:∃R,aI K.E m on xa 1=R:=⟨_,rfl⟩
 have hc:=rom_q HM.out b1.out b0 a7 (n:=1) (.inl rfl);have EE:=Ja hR;rw[show aI K.E m on xa 1=R from hR] at hc
 cases R with
 |ok x m'=>
  have HC:=Ja hc;clear hc hR;go_wp2_with (go_at_call 127;go_must (refine HC.out.mono ?_;rintro e w3 ⟨he,⟨a4,ov3,u⟩,y,a6⟩;obtain rfl:e=.returned (M x):=he))
  go_ret;rw[EE.out]
  exact vh.ok u (HF.out.trans y) a6
 |trap k i m'=>
  have HC:=Ja hc;clear hc hR;go_wp2_with (go_at_call 127;go_must (refine HC.out.mono ?_;rintro e w3 ⟨he,⟨a4,ov3,b2,u⟩,y⟩;obtain rfl:e=.returned (M 0):=he))
  go_ret;rw[EE.out];exact⟨rfl,⟨a4,ov3,b2,u⟩,HF.out.trans y⟩
theorem qstep_ar(h:MachQ w K m none dp ov){oc:Int}(c8:on<65536)(ab:Option Addr)(an ac:Nat){n:Nat}{v:Int->Nat}(hv:dA w vb n v)(c7:0<=oa/\oa.toNat<n)(c5:0<=ob/\ob.toNat<n)(b0:Int)(u:5<=oc/\oc<=17):
 O 103 #[F K.pm,.agg #[I oc,I f,I oa,I ob,M on,.slice ab an ac],L vb n n,I b0] w (vh K w (iy m oc (v oa) (v ob))):=by
 have a1:=hv.2 oa;have a0:=hv.2 ob;obtain⟨ka,rfl⟩:∃ka:Nat,oa=(ka:Int):=⟨oa.toNat,by omega⟩
 have a5:ka<n:=Zo;have d0:(ka:Int)<(n:Int):=Zo;obtain⟨kb,rfl⟩:∃kb:Nat,ob=(kb:Int):=⟨ob.toNat,by omega⟩
 have a4:kb<n:=Zo;have c9:(kb:Int)<(n:Int):=Zo;have l:=zI (W:=w) (o:=G #[I oc,I f,I ka,I kb,M on,.slice ab an ac] 76) rfl;have a2:Q w (w.alloc (G #[I oc,I f,I ka,I kb,M on,.slice ab an ac] 76)):=(Below.refl _ _).alloc (Je _) _;have H:=Ja h;have HV:=Ja hv;have k:=Ja (Jb l a2);clear h hv l a2;generalize y:v (ka:Int)=xa at *;generalize x:v (kb:Int)=xb at *;have HX:=Ja (Jb y x);clear y x;go_enter Tryz.func103,Tryz.ntmps103;go_upto_region 4 with(go_at_call 52;go_must (refine(aao oc u _).mono ?_;rintro e w1 ⟨he,d⟩;obtain rfl:e=.returned (.agg #[.bool true,.bool true,.bool true,.bool true,.bool false]):=he))
 have j:Q w (w1.alloc (G #[.bool true,.bool true,.bool true,.bool true,.bool false] 120)):=(k.out.2.trans (d.mono k.out.2.size)).alloc (Jn k.out.2.size d.size) _;have c:=zB (o:=(G #[.bool true,.bool true,.bool true,.bool true,.bool false] 120)) (zH d k.out.1 (lt_of_block k.out.1));have i:=zI (W:=w1) (o:=(G #[.bool true,.bool true,.bool true,.bool true,.bool false] 120)) rfl;have d1:w1.heap.size≠w.heap.size:=by have:=d.size;simp at this;omega
 generalize w1.alloc (G #[.bool true,.bool true,.bool true,.bool true,.bool false] 120)=W2 at *;generalize w1.heap.size=bs at *;have q:=H.out.keep j;have g:=HV.out.below (zH j HV.out.1 (lt_of_block HV.out.1));have p0:=K0 c;have p2:=K2 c;have p3:=K3 c;have p4:=K4 c;have p5:=K5 c;have s2:=K2 i;have s3:=K3 i;have c4:=lt_of_block c;have c3:=lt_of_block i;have ca:T W2 vb ka (M xa):=by rw[<-HX.out.1];exact g.cell a5
 have cb:T W2 vb kb (M xb):=by rw[<-HX.out.2];exact g.cell a4
 have c1:=lt_of_block g.1;have HM:=Ja q;have HF:=Ja (FrmQ.ofBelow j (Qd H.out.size));have c2:=q.lt;clear j c i d k q g;have t1:(oc==1)=false:=Ze;have t2:(oc==2)=false:=Ze;have t3:(oc==3)=false:=Ze;have t4:(oc==4)=false:=Ze;have c0:(oc==18)=false:=Ze;have b9:(oc==19)=false:=Ze;have b8:(oc==20)=false:=Ze;have b7:(oc==21)=false:=Ze;have b6:(oc==22)=false:=Ze;have b5:(oc==23)=false:=Ze;have b4:(oc==24)=false:=Ze;have b3:(oc==25)=false:=Ze;have b2:(oc==26)=false:=Ze;have b1:(oc==27)=false:=Ze
 by_cases h8:oc=8/\xb=0
 ·obtain⟨t,a3⟩:=h8;have EE:=Ja (show iy m oc xa xb=.trap 4 0 m by unfold iy;rw[if_pos ⟨t,a3⟩]);have t8:(oc==8)=true:=by rw[beq_iff_eq];exact t
  have tb:((xb:Int)==0)=true:=by rw[beq_iff_eq];omega
  clear u t a3;go_wp2_with (go_at_call 101;go_must (refine(ew HM.out 4 0).mono ?_;rintro e w3 ⟨rfl,a6,a7⟩))
  go_ret;rw[EE.out];exact vh.trap a6 (HF.out.trans a7)
 ·have EE:=Ja (show iy m oc xa xb=.ok (yW oc xa xb) m by unfold iy;rw[if_neg h8]);have HC:=Ja (fun W=>aeN oc u xa xb a1 a0 (fun e=>by omega) W)
  have hq:(oc==8)=false∨((oc==8)=true/\((xb:Int)==0)=false):=by
   by_cases e:oc=8
   ·right;exact⟨by rw[beq_iff_eq];exact e,by rw[beq_eq_false_iff_ne];omega⟩
   ·left;rw[beq_eq_false_iff_ne];exact e
  clear u h8;rcases hq with t8|⟨t8,tb⟩
  all_goals go_wp2_with (go_at_call 107;go_must (refine(HC.out _).mono ?_;rintro e w' ⟨rfl,rfl⟩))
  all_goals go_ret
  all_goals rw[EE.out]
  all_goals exact vh.ok HM.out HF.out (jz _ _ _ a1 a0)
def ahp (a:Int):List IOp:=[⟨1,1,0,0,15,[]⟩,⟨9,2,0,1,0,[]⟩,⟨2,3,0,0,0,[]⟩,⟨5,4,2,3,0,[]⟩,⟨a,5,4,0,0,[]⟩]
def ag4:List IBlk:=[⟨[],[],⟨5,0,[]⟩⟩]
def ahs (a:Int):List IBlk:=[⟨[0],ahp a,⟨4,5,[]⟩⟩]
def afu (a:Int):IProg:=⟨[ag4,ahs a],[0,1],0,-1,[⟨-1,16384,16⟩],[]⟩
theorem yN.two{α:Type}{sz:Nat}{R:World->Nat->Nat->Nat->α->Prop}{B b:Nat}{x y:α}(hb:b<B)(h0:R w B b 0 x)(h1:R w B b sz y):yN sz R w B (L b 2 2) [x,y]:=by
 refine⟨_,2,rfl,Je _,by omega,fun k z hk=>⟨b,0,rfl,hb,?_⟩⟩
 match k,hk with
 |0,hk=>cases hk;rw[Ng,Nat.zero_mul];exact h0
 |1,hk=>cases hk;rw[Ng,Nat.one_mul];exact h1
def ge (o:IOp):IOp×Value:=(o,U)
theorem ops_nil{B b n:Nat}{l:List IOp}{e:TypeId}(h:A w b ((l.map ge).flatMap zU).toArray e)(hb:b<B)(c:∀o∈l,qN o/\o.args=[])(d:n=l.length)(hl:l.length<=1000000):
 mN w B (L b n n) l:=by
 have:=agO (l:=l.map ge) h hb (fun q hq=>by
  obtain⟨o,ho,rfl⟩:=Nu.1 hq;obtain⟨h1,h2⟩:=c o ho;refine⟨h1,?_⟩
  show zY w B (U) o.args
  rw[h2]
  exact yN.nil) (by rw[Nr];exact hl)
 rw[Nr,List.map_map,show((fun q:IOp×Value=>q.1) ∘ ge)=id from rfl,List.map_id] at this;rw[d];exact this
theorem afJ (w:World)(a:Int)(g:I64 a):O 30 #[I a] w (mL w (afu a)):=by
 have l:=Ja g;clear g;obtain⟨s,hs⟩:∃s,w.heap.size=s:=⟨_,rfl⟩
 go_enter Tryz.func30,Tryz.ntmps30;go_wp2;generalize c:World.alloc _ _=W;have hb:Below s w W:=by rw[<-c,<-hs];repeat' (first|exact Below.refl _ _|refine Below.alloc ?_ (by first|exact Je _|(simp;done)|(simp;omega)) _)
 have h0:A W s #[L (s+1+1+1+1+1+1+1) 2 2,L (s+1+1+1+1+1+1+1+1) 2 2,I 0,I (-1),L (s+1+1+1+1+1+1+1+1+1) 1 1,U] 29:=by rw[<-c];repeat' (first|exact zI (by first|exact hs|rfl|(simp;done)|(simp;omega))|refine zB ?_)
 have h1:A W (s+1) (((ahp a).map ge).flatMap zU).toArray 76:=by rw[<-c];repeat' (first|exact zI (by first|exact hs|rfl|(simp;done)|(simp;omega))|refine zB ?_)
 have h2:A W (s+1+1) #[U,U,I 5,I 0,U] 84:=by rw[<-c];repeat' (first|exact zI (by first|exact hs|rfl|(simp;done)|(simp;omega))|refine zB ?_)
 have k:A W (s+1+1+1+1) #[I 0] 3:=by rw[<-c];repeat' (first|exact zI (by first|exact hs|rfl|(simp;done)|(simp;omega))|refine zB ?_)
 have d:A W (s+1+1+1+1+1) #[L (s+1+1+1+1) 1 1,L (s+1) 5 5,I 4,I 5,U] 84:=by rw[<-c];repeat' (first|exact zI (by first|exact hs|rfl|(simp;done)|(simp;omega))|refine zB ?_)
 have j:A W (s+1+1+1+1+1+1+1) #[L (s+1+1) 1 1,L (s+1+1+1+1+1) 1 1] 39:=by rw[<-c];repeat' (first|exact zI (by first|exact hs|rfl|(simp;done)|(simp;omega))|refine zB ?_)
 have h:A W (s+1+1+1+1+1+1+1+1) #[I 0,I 1] 3:=by rw[<-c];repeat' (first|exact zI (by first|exact hs|rfl|(simp;done)|(simp;omega))|refine zB ?_)
 have f:A W (s+1+1+1+1+1+1+1+1+1) #[I (-1),M 16384,M 16] 89:=by rw[<-c];repeat' (first|exact zI (by first|exact hs|rfl|(simp;done)|(simp;omega))|refine zB ?_)
 clear c;have q:=lt_of_block f;refine bodyPost_ret (v:=.agg #[L (s+1+1+1+1+1+1+1) 2 2,L (s+1+1+1+1+1+1+1+1) 2 2,I 0,I (-1),L (s+1+1+1+1+1+1+1+1+1) 1 1,U]) ?_ rfl ?_
 ·have x0:=zA (i:=0) h0 rfl;have x1:=zA (i:=1) h0 rfl;have x2:=zA (i:=2) h0 rfl;have x3:=zA (i:=3) h0 rfl;have x4:=zA (i:=4) h0 rfl;have x5:=zA (i:=5) h0 rfl;have m:=lt_of_block h0;rw[zM rfl];go_simp
 ·refine⟨⟨_,_,_,_⟩,rfl,⟨?_,?_,?_,yN.nil,pZ,agF⟩,by rw[hs];exact hb⟩
  ·refine yN.two Zo ⟨_,zA j rfl,yN.one Zo ?_⟩ ⟨_,zA j rfl,yN.one Zo ?_⟩
   ·exact⟨zA h2 rfl,zA h2 rfl,⟨⟨by decide,by decide⟩,⟨by decide,by decide⟩⟩,_,_,_,zA h2 rfl,zA h2 rfl,zA h2 rfl,yN.nil,yN.nil,yN.nil⟩
   ·refine⟨zA d rfl,zA d rfl,⟨(show I64 (4) from⟨by decide,by decide⟩),(show I64 (5) from⟨by decide,by decide⟩)⟩,_,_,_,zA d rfl,zA d rfl,zA d rfl,yN.one Zo ⟨zA k rfl,⟨by decide,by decide⟩⟩,ops_nil h1 Zo (fun o ho=>?_) rfl (by show(5:Nat)<=_;omega),yN.nil⟩;simp only[ahp,Jq,List.not_mem_nil,or_false] at ho;rcases ho with rfl|rfl|rfl|rfl|rfl
    ·exact⟨⟨⟨by decide,by decide⟩,⟨by decide,by decide⟩,⟨by decide,by decide⟩,⟨by decide,by decide⟩,by decide⟩,rfl⟩
    ·exact⟨⟨⟨by decide,by decide⟩,⟨by decide,by decide⟩,⟨by decide,by decide⟩,⟨by decide,by decide⟩,by decide⟩,rfl⟩
    ·exact⟨⟨⟨by decide,by decide⟩,⟨by decide,by decide⟩,⟨by decide,by decide⟩,⟨by decide,by decide⟩,by decide⟩,rfl⟩
    ·exact⟨⟨⟨by decide,by decide⟩,⟨by decide,by decide⟩,⟨by decide,by decide⟩,⟨by decide,by decide⟩,by decide⟩,rfl⟩
    ·exact⟨⟨l.out,(show I64 (5) from⟨by decide,by decide⟩),(show I64 (4) from⟨by decide,by decide⟩),(show I64 (0) from⟨by decide,by decide⟩),(show(0:Nat)<65536 by decide)⟩,rfl⟩
  ·exact yN.two Zo ⟨zA h rfl,⟨by decide,by decide⟩⟩ ⟨zA h rfl,⟨by decide,by decide⟩⟩
  ·exact yN.one Zo ⟨zA f rfl,zA f rfl,zA f rfl,⟨by decide,by decide⟩,by decide,by decide⟩
end Go.Proofs.YtoahcpkibpomcaaGreat
set_option maxRecDepth 100000
namespace Go.Proofs.YtoahcpkibpomcaaGreat
open Go.ChangeShapes Go.WideShapes Go.ChangeAt Go.RowKit
variable {P:Program}{w w':World}{ov:Value}{l:List (IOp×Value)}{K:MK}{m:Mach}{k on vb x:Nat}{blocks:List IBlk}{dp f oa ob:Int}
theorem acP{H:Type}{enc:TypeId×Value->H}{W:World}{fuel:Nat}{n:Nat}{t e:TypeId}{q:IntKind}{cs:List Value}{x:DataW H×List MemPlace}(ht:P.underlying t=some (.array n e))(o:P.underlying e=some (.int q))(c1:P.cellsOf e=1)(hl:cs.length=n)
 (hf:DataW.trod enc P W 0 (fun _=>true) true fuel t cs=some x):∃zs:List Int,cs=zs.map (.int q)/\zs.length=n/\∀z∈zs,(Lit.int q z).wf=true:=by
 obtain⟨xs,k,_,_,_,u,j⟩:=DataW.trod_array ht hf
 have d:∀i,i<n->∃z:Int,cs[i]? =some (.int q z)/\(Lit.int q z).wf=true:=by
  intro i hi;have g:=j i hi;rw[c1,Jd Zo] at g;obtain⟨z,e0,_,w0⟩:=DataW.trod_int o g;refine⟨z,?_,w0⟩;rw[Nk] at e0;have h:=congrArg (fun l:List Value=>l[0]?) e0
  simpa using h
 obtain⟨f,c⟩:=Go.Deep.choose_lt d;refine⟨(List.range n).map f,?_,by simp,?_⟩
 ·apply Oq;intro i
  by_cases hi:i<n
  ·rw[(c i hi).1];simp[hi]
  ·rw[Of Zo,Of Zt]
 ·intro z m;obtain⟨i,hi,rfl⟩:=Nu.1 m;exact(c i (Ol.1 hi)).2
theorem a8 {z:Int}(h:(Lit.int .u16 z).wf=true):∃x:Nat,z=(x:Int)/\x<65536:=by
 have h:0<=z/\z<=65535:=by simpa[Lit.wf,IntKind.min,IntKind.max,IntKind.signed,IntKind.bits] using h
 exact⟨z.toNat,by rw[Oa h.1],by omega⟩
end Go.Proofs.YtoahcpkibpomcaaGreat
