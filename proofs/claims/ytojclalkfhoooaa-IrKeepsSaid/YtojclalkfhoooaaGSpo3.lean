/- Part of a proof. -/
import Derived.Test.YtojclalkfhoooaaGLift8
set_option linter.all false
set_option maxHeartbeats 4000000
set_option maxRecDepth 100000
namespace Go.Proofs.Ytojclalkfhoooaa
open Go.RowKit Go.Lib
variable {w w' w0 w1 w9 wx:World}{xs:List Int}{K:MKC}{M M0:MS}{X X0:Nat->Prop}{c d f1 g g3 i k r2 tb what x:Nat}{rs:List Row}{bt bt':BT}{o:IOp}{gv:Value}{l:List BT}
theorem bK{B C:Nat}{e:TypeId}{size n:Nat}{v:Value}{xs:List Value}(h:w.ownsRow C e size v n xs)(hB:B<=C):w.ownsRow B e size v n xs:=by
 obtain⟨h1,h2⟩:=h;refine⟨h1,?_⟩;rcases h2 with h2|⟨g,c,cur,e1,h3,d⟩
 ·exact .inl h2
 ·exact .inr ⟨g,c,cur,e1,Jn hB h3,d⟩
def og (w:World)(R:IRun)(e:Ending)(w':World):Prop:=∃ov,e=.returned (aeF R ov)/\vM w' w'.heap.size ov R.out/\L w w'/\(R.out=[]∨w'.ownsRow w.heap.size 87 2 ov R.out.length (qO R.out))
theorem aa1{w4 w5:World}{K:MK}{m:Mach}{ov:Value}{b:Nat}{r0:Array Value}(hB:w.heap.size<=K.B)(c:MachAt w4 K m ov)(g:Y w4 b r0 57)(hb:w.heap.size<=b)(zb:L w w4)(hg:w4.grownBy w5 (some b)):vM w5 w5.heap.size ov m.out/\L w w5/\w5.ownsRow w.heap.size 87 2 ov m.out.length (qO m.out):=by
 have d:=zC c.out g (.inr Zd);exact⟨kP (c.out.kept hg (.inr d)) c.olt,zb.grown hg zb.size (fun k hk=>by simp at hk;omega),bK (c.out.kept hg (.inr d)) hB⟩
theorem eval_okF{V:PV}{p:IProg}(hp:ProgIn w w.heap.size V p)(b4:OkProg p)(hV:∀W,L w W->G 20 #[sZ V p] W fun e W'=>e=.returned (O 0)/\L W W')
 (f:Int) (hf:0<=f/\f.toNat<p.funcs.length) {args:List Nat} {av:Value} (ha:wV w w.heap.size av args) (hl:(args.length:Int)=p.args.getD f.toNat 0) (s:ByteArray) (hs:s.size<=9223372036854775807)
 {inv irqv:Value} {inn irq:List Nat} (c9:wV w w.heap.size inv inn) (c8:dL w w.heap.size irqv irq) (fuel:Int) (f0:I64 fuel) (f3:fuel.toNat<=4000000):
 G 23 #[sZ V p,O f,av,.string s,.agg #[inv,irqv],O fuel] w (og w (bQ ⟨p,inn,irq⟩ f args s fuel)):=by
 obtain⟨Vf,Va,Vd,Vb⟩:=V;have g8:=hp.funcs;have c7:=hp.args;have g9:=hp.data;have h0:=hp.banks;obtain⟨f1,f2,e1,_,_⟩:=hp.funcs.form;obtain⟨a1,a2,e2,_,_⟩:=hp.args.form;obtain⟨d1,d2,e3,_,_⟩:=hp.data.form;obtain⟨b1,b2,e4,_,_⟩:=hp.banks.form;obtain⟨v1,v2,rfl,_,_⟩:=ha.form;obtain⟨i1,i2,rfl,_,_⟩:=c9.form;obtain⟨q1,q2,rfl,_,_⟩:=c8.form;simp only at e1 e2 e3 e4;subst e1 e2 e3 e4;obtain⟨k,rfl⟩:∃k:Nat,f=(k:Int):=⟨f.toNat,by omega⟩
 have j4:(k:Int)<p.funcs.length:=Zo;unfold sZ at hV ⊢;simp only at hV c7 ⊢;have k0:decide ((k:Int)<0)=false:=by rw[decide_eq_false_iff_not];omega
 have j5:decide (p.funcs.length<=k)=false:=by rw[decide_eq_false_iff_not];omega
 have h4:=mk_ram;obtain⟨Z,hZ⟩:∃Z,madeCells #[Value.int .u8 0] 8192=Z:=⟨_,rfl⟩
 rw[hZ] at h4;have HZ:=Ja hZ;clear hZ;have HP:=Ja hp;have HV:=Ja hV;have i3:=Ja b4;have HA:=Ja (Jb ha hl);have g2:=Ja (Jb c9 c8);have g3:=Ja (Jb f0 f3);obtain⟨aa,d3⟩:∃x,p.args[k]? =some x:=⟨_,Jd (by rw[b4.alen];omega)⟩
 have f7:(args.length:Int)=aa:=by rw[hl,Ni,Jj,d3];rfl
 have j1:((args.length:Int) !=aa)=false:=by rw[bne_eq_false_iff_eq];exact f7
 have i8:(k:Int)<p.args.length:=by rw[b4.alen];omega
 obtain⟨ba,oa,rfl,h7,f5,_⟩:=c7.get d3;rw[Nk] at f5;clear hp hV b4 ha hl c9 c8 f0 f3 g8 c7 g9 h0 hf d3 f7
 go_enter_defers Try.func23,Try.ntmps23
 go_upto_region 1 with fail;have f6:L w (((w.alloc (A #[.slice f1 p.funcs.length f2,.slice (some ⟨ba,oa,none⟩) p.args.length a2,O p.entry,O p.handler,.slice d1 p.data.length d2,.slice b1 p.banks.length b2] 29)).alloc (A #[.slice i1 inn.length i2,.slice q1 irq.length q2] 61)).alloc (A #[U 0,F,O 0,U 0,.string {data:=#[]},O 0,O 0] 57)):=(((Below.refl _ _).alloc (Je _) _).alloc Zs _).alloc (by simp<;>omega) _;have l:Y (((w.alloc (A #[.slice f1 p.funcs.length f2,.slice (some ⟨ba,oa,none⟩) p.args.length a2,O p.entry,O p.handler,.slice d1 p.data.length d2,.slice b1 p.banks.length b2] 29)).alloc (A #[.slice i1 inn.length i2,.slice q1 irq.length q2] 61)).alloc (A #[U 0,F,O 0,U 0,.string {data:=#[]},O 0,O 0] 57)) w.heap.size #[.slice f1 p.funcs.length f2,.slice (some ⟨ba,oa,none⟩) p.args.length a2,O p.entry,O p.handler,.slice d1 p.data.length d2,.slice b1 p.banks.length b2] 29:=zB (zB (zI rfl));have e7:Y (((w.alloc (A #[.slice f1 p.funcs.length f2,.slice (some ⟨ba,oa,none⟩) p.args.length a2,O p.entry,O p.handler,.slice d1 p.data.length d2,.slice b1 p.banks.length b2] 29)).alloc (A #[.slice i1 inn.length i2,.slice q1 irq.length q2] 61)).alloc (A #[U 0,F,O 0,U 0,.string {data:=#[]},O 0,O 0] 57)) (w.heap.size+1) #[.slice i1 inn.length i2,.slice q1 irq.length q2] 61:=zB (zI Zs);have e6:Y (((w.alloc (A #[.slice f1 p.funcs.length f2,.slice (some ⟨ba,oa,none⟩) p.args.length a2,O p.entry,O p.handler,.slice d1 p.data.length d2,.slice b1 p.banks.length b2] 29)).alloc (A #[.slice i1 inn.length i2,.slice q1 irq.length q2] 61)).alloc (A #[U 0,F,O 0,U 0,.string {data:=#[]},O 0,O 0] 57)) (w.heap.size+2) #[U 0,F,O 0,U 0,.string {data:=#[]},O 0,O 0] 57:=zI Zs;generalize i0:((w.alloc (A #[.slice f1 p.funcs.length f2,.slice (some ⟨ba,oa,none⟩) p.args.length a2,O p.entry,O p.handler,.slice d1 p.data.length d2,.slice b1 p.banks.length b2] 29)).alloc (A #[.slice i1 inn.length i2,.slice q1 irq.length q2] 61)).alloc (A #[U 0,F,O 0,U 0,.string {data:=#[]},O 0,O 0] 57)=W0 at *;have a3:=Ja f6;have u:=Ja (Jb l (Jb e7 e6));have p0:=K0 l;have p1:=K1 l;have p2:=K2 l;have p3:=K3 l;have p4:=K4 l;have p5:=K5 l;clear l e7 e6 f6 i0;go_upto_region 3 with(go_at_call 20;go_must (refine(HV.out _ a3.out).mono ?_;rintro e W1 ⟨rfl,m⟩;have q0:=(m.cell (p:=⟨w.heap.size,0,none⟩) (Jw W0 _ p0)).trans p0;have g7:=(m.cell (p:=⟨w.heap.size,1,none⟩) (Jw W0 _ p1)).trans p1;have cx:=zV (a3.out.trans (m.mono a3.out.size)) h7 f5))
 have y0:=zH m u.out.1 (lt_of_block u.out.1);have y1:=zH m u.out.2.1 (lt_of_block u.out.2.1);have y2:=zH m u.out.2.2 (lt_of_block u.out.2.2);have j3:=lt_of_block y2;have q:=Ja (a3.out.trans (m.mono a3.out.size));have HY:=Ja y2
 have d0:∀w',L W1 w'->(T w' w.heap.size 0 (.slice f1 p.funcs.length f2)/\T w' w.heap.size 1 (.slice (some ⟨ba,oa,none⟩) p.args.length a2)/\T w' w.heap.size 2 (O p.entry)/\T w' w.heap.size 3 (O p.handler)/\T w' w.heap.size 4 (.slice d1 p.data.length d2)/\T w' w.heap.size 5 (.slice b1 p.banks.length b2)/\T w' (w.heap.size+1) 0 (.slice i1 inn.length i2)/\T w' (w.heap.size+1) 1 (.slice q1 irq.length q2)):=fun w' hb=>by
  have z0:=zH hb y0 Zo;have z1:=zH hb y1 Zo;exact⟨zA z0 Zs,zA z0 Zs,zA z0 Zs,zA z0 Zs,zA z0 Zs,zA z0 Zs,zA z1 Zs,zA z1 Zs⟩
 have g6:=Ja d0;clear q0 g7 p0 p1 p2 p3 p4 p5 a3 u m y0 y1 y2 d0 cx
 go_cut [13] from 41 to 47 (fun v wx=>∃rb pm b13:Nat,v=I b13/\Hid (Y wx b13 #[I pm] 102/\Y wx rb Z 5/\Y wx pm #[.slice f1 p.funcs.length f2,.slice (some ⟨ba,oa,none⟩) p.args.length a2,O p.entry,O p.handler,.slice d1 p.data.length d2,.slice b1 p.banks.length b2,Q rb 8192 8192,.slice i1 inn.length i2,.slice q1 irq.length q2,O fuel,F,O 0,O 0] 104/\L W1 wx/\W1.heap.size<=rb/\W1.heap.size<=pm/\W1.heap.size<=b13))
 case first=>
  go_region_held3 (fun w'=>T w' w.heap.size 0 (.slice f1 p.funcs.length f2)/\T w' w.heap.size 1 (.slice (some ⟨ba,oa,none⟩) p.args.length a2)/\T w' w.heap.size 2 (O p.entry)/\T w' w.heap.size 3 (O p.handler)/\T w' w.heap.size 4 (.slice d1 p.data.length d2)/\T w' w.heap.size 5 (.slice b1 p.banks.length b2)/\T w' (w.heap.size+1) 0 (.slice i1 inn.length i2)/\T w' (w.heap.size+1) 1 (.slice q1 irq.length q2))
   ((refine g6.out _ ?_;repeat' (first|exact Below.refl _ _|refine Below.drew ?_|refine Below.alloc ?_ (by simp<;>omega) _|refine Below.setCell ?_ (by simp<;>omega) _)))
   (fail)
  all_goals go_wp2_with fail
  all_goals go_meet
  ·exact⟨W1.heap.size,W1.heap.size+1,W1.heap.size+1+1,rfl,(sf _ _ _ _).2.2.1,(sf _ _ _ _).1,(sf _ _ _ _).2.1,(sf _ _ _ _).2.2.2,by omega,by omega,by omega⟩
  ·exact⟨W1.heap.size,W1.heap.size+1+1,W1.heap.size+1,rfl,(sf _ _ _ _).2.1,(sf _ _ _ _).1,(sf _ _ _ _).2.2.1,(sf _ _ _ _).2.2.2,by omega,by omega,by omega⟩
  ·exact⟨W1.heap.size+1,W1.heap.size+1+1,W1.heap.size,rfl,(sf _ _ _ _).1,(sf _ _ _ _).2.1,(sf _ _ _ _).2.2.1,(sf _ _ _ _).2.2.2,by omega,by omega,by omega⟩
 case rest=>
  obtain⟨rb,pm,b13,rfl,i⟩:=hcut;have k1:=K0 i.out.1;have k2:=K6 i.out.2.2.1;have b9:Z.toList=List.replicate 8192 (Value.int .u8 0):=by rw[<-HZ.out];exact toList_madeCells_one _ _
  have e0:8192<=Z.size:=by have:=congrArg List.length b9;rw[Qr] at this;simp at this;omega
  have f4:=fun ty:TypeId=>tQ (P:=Try.prog) wc 37 9 ty 5 rb 8192 8192 s Z 5 Try.underlying37 Zk i.out.2.1 e0
  obtain⟨n,hn⟩:∃n,goInt (Nat.min s.size 8192)=n:=⟨_,rfl⟩
  have c4:(byteCells (s.data.toList.take (Nat.min s.size 8192))++Z.toList.drop (Nat.min s.size 8192)).toArray=((v7 s).map wz).toArray:=by
   rw[<-aeB s,b9]
  rw[hn,c4] at f4;clear b9 e0 c4 hn;have b6:L W1 (wc.setRow rb ((v7 s).map wz).toArray):=py i.out.2.2.2.1 i.out.2.2.2.2.1 _;have e8:Y (wc.setRow rb ((v7 s).map wz).toArray) rb ((v7 s).map wz).toArray 5:=nZ i.out.2.1;have e9:(wc.setRow rb ((v7 s).map wz).toArray).heap[pm]? =_:=ss i.out.2.2.1 (by rintro rfl;have h1:=i.out.2.1;rw[i.out.2.2.1] at h1;simp at h1);have g0:(wc.setRow rb ((v7 s).map wz).toArray).heap[b13]? =_:=ss i.out.1 (by rintro rfl;have h1:=i.out.2.1;rw[i.out.1] at h1;simp at h1);go_upto_region 5 with fail;generalize h9:wc.setRow rb ((v7 s).map wz).toArray=W2 at *;have j2:∀(fn:Fn) (first cap:Array Value) (W:World),(Instr.makeFunc fn first cap).run Try.prog W=.ok (.func fn first cap) W:=fun _ _ _ _=>rfl
  obtain⟨K,hK⟩:∃K:MK,K=⟨⟨p,inn,irq⟩,⟨.slice f1 p.funcs.length f2,.slice (some ⟨ba,oa,none⟩) p.args.length a2,.slice d1 p.data.length d2,.slice b1 p.banks.length b2⟩,.slice i1 inn.length i2,.slice q1 irq.length q2,pm,rb,W1.heap.size⟩:=⟨_,rfl⟩
  have r:L w W2:=q.out.trans (b6.mono q.out.size)
  have f9:MachAt W2 K ⟨v7 s,fuel,[],0,0⟩ (F):=by
   subst hK;exact⟨e9,e8,iG s,bY s,Jv _ _ _ _,fun p hp=>by simp at hp,by have:=g3.out.2;show 0+fuel.toNat<=4000000;omega,g3.out.1,Jt _,Jt _,i.out.2.2.2.2.2.1,i.out.2.2.2.2.1,(HP.out.below r).mono q.out.size,(g2.out.1.below zr r).mono zr q.out.size,(g2.out.2.below xQ r).mono xQ q.out.size⟩
  have e5:W2.heap[w.heap.size+2]? =_:=zH b6 HY.out (lt_of_block HY.out);have g1:=Ja f9;have j:=Ja (Jb g0 (Jb e5 (Jb b6 r)));clear h9 f9 e5 g0 e8 e9 b6 r f4 k1 k2 i;go_upto_region 6 with fail;have c0:=zI (W:=W2) (o:=A #[.func (.func 50) #[] #[I b13,I (w.heap.size+1+1)]] 105) rfl;have a0:=(Below.refl W2.heap.size W2).alloc (Je _) (A #[.func (.func 50) #[] #[I b13,I (w.heap.size+1+1)]] 105);have f8:=g1.out.keep a0;have a7:=zH a0 j.out.1 (lt_of_block j.out.1);have c2:=zH a0 j.out.2.1 (lt_of_block j.out.2.1);have a5:L w _:=j.out.2.2.2.trans (a0.mono j.out.2.2.2.size);have d4:L W1 _:=j.out.2.2.1.trans (a0.mono j.out.2.2.1.size);generalize h8:W2.alloc (A #[.func (.func 50) #[] #[I b13,I (w.heap.size+1+1)]] 105)=W3 at *;generalize W2.heap.size=b14 at *;have t:K.E=⟨p,inn,irq⟩/\K.pm=pm/\K.B=W1.heap.size:=by rw[hK];exact⟨rfl,rfl,rfl⟩
  have g:=mi K (by rw[t.1];exact i3.out) 100 (Je _) W3 _ _ (.slice v1 args.length v2) (k:Int) args f8 Zo (by rw[t.1];show(k:Int).toNat<p.funcs.length;omega) ((HA.out.1.below zr a5).mono zr a5.size) (by rw[t.1];exact HA.out.2);obtain⟨RES,a9⟩:∃R,xW K.E 100 (k:Int) args ⟨v7 s,fuel,[],0,0⟩=R:=⟨_,rfl⟩
  have c3:bQ ⟨p,inn,irq⟩ (k:Int) args s fuel=adO RES:=by rw[<-a9,t.1];rfl
  rw[a9,t.2.1] at g;have e1:(101:Int)-((100:Nat):Int)=1:=by decide
  rw[e1] at g;have k3:=K0 a7;have d6:=Ja c3;have b8:=Ja t;have H3:=Ja (Jb a7 (Jb c2 (Jb c0 (Jb a5 d4))));clear h8 f8 a7 c2 c0 a0 a5 d4 hK c3 a9 j g1 e1 t
  have b3:∀(w4:World) (ov4:Value) (m4:Mach),MachAt w4 K m4 ov4->Frm K.B W3 w4->
   Y w4 b13 #[I K.pm] 102/\Y w4 (w.heap.size+1+1) #[U 0,F,O 0,U 0,.string {data:=#[]},O 0,O 0] 57/\T w4 b14 0 (.func (.func 50) #[] #[I b13,I (w.heap.size+1+1)])/\L w w4:=fun w4 ov4 m4 d h=>by
   refine⟨by rw[b8.out.2.1];exact h.kept _ _ H3.out.1 (by simp[sA]),h.kept _ _ H3.out.2.1 (by simp[sA]),zA (h.kept _ _ H3.out.2.2.1 (by simp[sA])) Zs,H3.out.2.2.2.1.trans (h.below.mono ?_)⟩;rw[b8.out.2.2];exact q.out.size
  have b7:=Ja b3;clear b3
  cases RES with
  |ok x m4=>
   have a6:G 52 #[I pm,O k,.slice v1 args.length v2,O 1] W3 fun e w'=>e=.returned (U x)/\(∃ov',MachAt w' K m4 ov')/\Frm K.B W3 w'/\x<65536:=g
   have d7:=Ja a6;clear g a6;go_upto_region 8 with(go_at_call 52;go_must (refine d7.out.mono ?_;rintro e w4 ⟨rfl,⟨ov4,d⟩,h,j0⟩))
   obtain⟨b0,y,d8,zb⟩:=b7.out w4 ov4 m4 d h;obtain⟨oa4,oc4,rfl⟩:=zG d.out
   have a4:G 50 #[.agg #[O 6,U 0],U x,I b13,I (w.heap.size+1+1)] w4 fun e w'=>
    e=.returned (.tuple #[])/\Y w' (w.heap.size+1+1) (yV x (.slice oa4 m4.out.length oc4) 6 0 (y9 m4.ram) m4.inputs m4.polls) 57/\w4.grownBy w' (some (w.heap.size+1+1)):=pE d b0 y 6 0 x
   have b5:w4.heap[b14]? =_:=h.kept _ _ H3.out.2.2.1 (by simp[sA]);have g5:=Ja a4;have d5:=Ja (Jb d (Jb y (Jb zb b5)));clear a4 b0 y zb d h b5;go_upto_region 9 with(go_at_call 50;go_must (refine g5.out.mono ?_;rintro e w5 ⟨rfl,c,h6⟩))
   have r0:T w5 (w.heap.size+1+1) 0 (U x):=zA c (by simp[yV]);have s0:N w5 (w.heap.size+1+1) 0:=zE c;have r1:T w5 (w.heap.size+1+1) 1 (.slice oa4 m4.out.length oc4):=zA c (by simp[yV]);have s1:N w5 (w.heap.size+1+1) 1:=zE c;have r2:T w5 (w.heap.size+1+1) 2 (O 6):=zA c (by simp[yV]);have s2:N w5 (w.heap.size+1+1) 2:=zE c;have r3:T w5 (w.heap.size+1+1) 3 (U 0):=zA c (by simp[yV]);have s3:N w5 (w.heap.size+1+1) 3:=zE c;have r4:T w5 (w.heap.size+1+1) 4 (.string (y9 m4.ram)):=zA c (by simp[yV]);have s4:N w5 (w.heap.size+1+1) 4:=zE c;have r5:T w5 (w.heap.size+1+1) 5 (O (m4.inputs:Int)):=zA c (by simp[yV]);have s5:N w5 (w.heap.size+1+1) 5:=zE c;have r6:T w5 (w.heap.size+1+1) 6 (O (m4.polls:Int)):=zA c (by simp[yV]);have s6:N w5 (w.heap.size+1+1) 6:=zE c;have hE:=aa1 (by rw[b8.out.2.2];exact q.out.size) d5.out.1 d5.out.2.1 Zo d5.out.2.2.1 (zu (zu (zu (zu (zu (zu (zu h6 0 (U x)) 1 (.slice oa4 m4.out.length oc4)) 2 (O 6)) 3 (U 0)) 4 (.string (y9 m4.ram))) 5 (O (m4.inputs:Int))) 6 (O (m4.polls:Int)))
   have c5:og w (bQ ⟨p,inn,irq⟩ (k:Int) args s fuel) (.returned (.agg #[U x,.slice oa4 m4.out.length oc4,O 6,U 0,.string (y9 m4.ram),O (m4.inputs:Int),O (m4.polls:Int)])) (((((((w5.setCell ⟨w.heap.size+1+1,0,none⟩ (U x)).setCell ⟨w.heap.size+1+1,1,none⟩ (.slice oa4 m4.out.length oc4)).setCell ⟨w.heap.size+1+1,2,none⟩ (O 6)).setCell ⟨w.heap.size+1+1,3,none⟩ (U 0)).setCell ⟨w.heap.size+1+1,4,none⟩ (.string (y9 m4.ram))).setCell ⟨w.heap.size+1+1,5,none⟩ (O (m4.inputs:Int))).setCell ⟨w.heap.size+1+1,6,none⟩ (O (m4.polls:Int))):=by
    rw[d6.out];exact⟨_,rfl,hE.1,hE.2.1,.inr hE.2.2⟩
   have g4:=Ja c5;clear c5 hE;go_wp2;refine leaves_cons (f:=51) (args:=#[I b14]) Zs (by simp[go_sem]) ?_;refine(aeA _ _).mono ?_;rintro e u' w6 ⟨rfl,rfl,rfl⟩;simp[Leaves,settle,results,Try.results23,go_sem,r0,r1,r2,r3,r4,r5,r6]
   exact g4.out
  |trap k2 i2 m4=>
   have a6:G 52 #[I pm,O k,.slice v1 args.length v2,O 1] W3 fun e w'=>e=.panicked [oE k2 i2]/\(∃ov',MachAt w' K m4 ov')/\Frm K.B W3 w'/\True:=g
   have d7:=Ja a6;clear g a6;go_wp2_with (go_at_call 52;go_must (refine d7.out.mono ?_;rintro e w4 ⟨rfl,⟨ov4,d⟩,h,_⟩))
   obtain⟨b0,y,d8,zb⟩:=b7.out w4 ov4 m4 d h;have hd:=pi d b0 y d8 k2 i2 [];obtain⟨oa4,oc4,rfl⟩:=zG d.out;refine leaves_cons (f:=51) (args:=#[I b14]) Zs (by simp[go_sem]) ?_;refine hd.mono ?_;rintro e u' w5 ⟨rfl,rfl,c,h6⟩;have hE:=aa1 (by rw[b8.out.2.2];exact q.out.size) d y Zo zb h6;have r0:T w5 (w.heap.size+1+1) 0 (U ((0:Nat):Int)):=zA c (by simp[yV]);have r1:T w5 (w.heap.size+1+1) 1 (.slice oa4 m4.out.length oc4):=zA c (by simp[yV]);have r2:T w5 (w.heap.size+1+1) 2 (O k2):=zA c (by simp[yV]);have r3:T w5 (w.heap.size+1+1) 3 (U i2):=zA c (by simp[yV]);have r4:T w5 (w.heap.size+1+1) 4 (.string (y9 m4.ram)):=zA c (by simp[yV]);have r5:T w5 (w.heap.size+1+1) 5 (O (m4.inputs:Int)):=zA c (by simp[yV]);have r6:T w5 (w.heap.size+1+1) 6 (O (m4.polls:Int)):=zA c (by simp[yV])
   have a4:og w (bQ ⟨p,inn,irq⟩ (k:Int) args s fuel) (.returned (.agg #[U ((0:Nat):Int),.slice oa4 m4.out.length oc4,O k2,U i2,.string (y9 m4.ram),O (m4.inputs:Int),O (m4.polls:Int)])) w5:=by
    rw[d6.out];exact⟨_,rfl,hE.1,hE.2.1,.inr hE.2.2⟩
   simp[Leaves,settle,results,Try.results23,go_sem,r0,r1,r2,r3,r4,r5,r6];exact a4
theorem lo{V:PV}{p:IProg}(hp:ProgIn w w.heap.size V p)(hs:mW p)(f:Int)(g:I64 f){args:List Nat}{av:Value}(m:wV w w.heap.size av args)(s:ByteArray)(i:s.size<=9223372036854775807)
 {inv irqv:Value} {inn irq:List Nat} (d:wV w w.heap.size inv inn) (c:dL w w.heap.size irqv irq) (fuel:Int) (k:I64 fuel) (l:fuel.toNat<=4000000):
 G 23 #[yH V p,O f,av,.string s,.agg #[inv,irqv],O fuel] w (og w (i9 ⟨p,inn,irq⟩ f args s fuel)):=by
 unfold i9
 cases h:io p f args with
 |false=>exact(iV hp hs f g m s d c fuel h).mono fun e w' ⟨ov,h1,h2,h3⟩=>⟨ov,h1,h2,h3,.inl rfl⟩
 |true=>
  unfold io at h;simp only[Jm,decide_eq_true_eq] at h;obtain⟨⟨⟨h1,h2⟩,h3⟩,o⟩:=h;have j:=jM h1 (fun f hf b hb=>(hs f hf).2 b hb)
  have q:(if io p f args=true then bQ ⟨p,inn,irq⟩ f args s fuel else sV)=bQ ⟨p,inn,irq⟩ f args s fuel:=by
   rw[if_pos];unfold io;simp only[Jm,decide_eq_true_eq];exact⟨⟨⟨h1,h2⟩,h3⟩,o⟩
  refine eval_okF hp j (fun W hb=>?_) f ⟨h2,by omega⟩ m o s i d c fuel k l;have:=tu ((hp.below hb).mono hb.size) (Je _) (fun f hf=>(hs f hf).1);rw[h1] at this;exact this
open Go.RowKit
theorem mkOp_0{E:ME}(h:tkV E M 14=0):xK E M=M.tick.tick.num (tkV E M.tick 65536):=by
 unfold xK;simp only[h];rfl
theorem op_0(h:wW w K X M)(c:M.cur<M.f.length)(k:M.sz+20<=1000000)(hk:tkV K.E M 14=0):
 G 91 #[I K.pm] w (yk K X w (xK K.E M) (.tuple #[])):=by
 have o:=Ja h.alt;have j:=Ja (OpSt.start h c);have d:=Ja (Jb k hk);clear h c k hk;go_enter Try.func91,Try.ntmps91
 go_wp2_with (first
  |(go_at_call 59;refine(j.out.takeK 14 0 0 rfl d.out.2 Zd Zd (by have:=d.out.1;omega)).mono ?_;clear j;rintro e w1 ⟨rfl,i⟩)
  |(go_at_call 59;refine(i.out.take 65536 Zd Zd (by have:=d.out.1;omega)).mono ?_;clear i;rintro e w2 ⟨z,qz,m,rfl,g⟩)
  |(go_at_call 94;refine(g.out.num z Zo (by have:=d.out.1;omega)).mono ?_;clear g;rintro e w3 ⟨rfl,l⟩))
 first|go_end0|refine bodyPost_ret (results_none rfl _ _ _) rfl ?_
 rw[mkOp_0 d.out.2]
 try rw[m.out]
 exact l.out.ret
theorem mkOp_1{E:ME}(h:tkV E M 14=1):xK E M=(zJ E M.tick.tick).2.emit ⟨3+tkV E M.tick 2,0,(zJ E M.tick.tick).1,0,0,[]⟩:=by
 unfold xK;simp only[h];rfl
theorem op_1(h:wW w K X M)(d:M.cur<M.f.length)(l:M.sz+20<=1000000)(hk:tkV K.E M 14=1):
 G 91 #[I K.pm] w (yk K X w (xK K.E M) (.tuple #[])):=by
 have r:=Ja h.alt;have k:=Ja (OpSt.start h d);have c:=Ja (Jb l hk);clear h d l hk;go_enter Try.func91,Try.ntmps91
 go_wp2_with (first
  |(go_at_call 59;refine(k.out.takeK 14 1 1 rfl c.out.2 Zd Zd (by have:=c.out.1;omega)).mono ?_;clear k;rintro e w1 ⟨rfl,j⟩)
  |(go_at_call 59;refine(j.out.take 2 Zd Zd (by have:=c.out.1;omega)).mono ?_;clear j;rintro e w2 ⟨z,qz,q,rfl,i⟩)
  |(go_at_call 62;refine(i.out.any (by have:=c.out.1;omega)).mono ?_;clear i;rintro e w3 ⟨x,o,rfl,g⟩)
  |(go_at_call 117;refine(g.out.emit (3+(z:Int)) x 0 0 (vG _ Zo Zo) (o.out.1) (yF _ rfl) Zd (by have:=c.out.1;omega)).mono ?_;clear g;rintro e w4 ⟨rfl,m⟩))
 first|go_end0|refine bodyPost_ret (results_none rfl _ _ _) rfl ?_
 rw[mkOp_1 c.out.2]
 try rw[q.out]
 try rw[o.out.2]
 exact m.out.ret
theorem mkOp_2{E:ME}(h:tkV E M 14=2):xK E M=(yJ E M.tick).2.tick.emit ⟨18+tkV E (yJ E M.tick).2 2,0,(yJ E M.tick).1,0,0,[]⟩:=by
 unfold xK;simp only[h];rfl
theorem op_2(h:wW w K X M)(d:M.cur<M.f.length)(l:M.sz+20<=1000000)(hk:tkV K.E M 14=2):
 G 91 #[I K.pm] w (yk K X w (xK K.E M) (.tuple #[])):=by
 have r:=Ja h.alt;have k:=Ja (OpSt.start h d);have c:=Ja (Jb l hk);clear h d l hk;go_enter Try.func91,Try.ntmps91
 go_wp2_with (first
  |(go_at_call 59;refine(k.out.takeK 14 2 2 rfl c.out.2 Zd Zd (by have:=c.out.1;omega)).mono ?_;clear k;rintro e w1 ⟨rfl,j⟩)
  |(go_at_call 118;refine(j.out.addr (by have:=c.out.1;omega)).mono ?_;clear j;rintro e w2 ⟨x,o,rfl,i⟩)
  |(go_at_call 59;refine(i.out.take 2 Zd Zd (by have:=c.out.1;omega)).mono ?_;clear i;rintro e w3 ⟨z,qz,q,rfl,g⟩)
  |(go_at_call 117;refine(g.out.emit (18+(z:Int)) x 0 0 (vG _ Zo Zo) (o.out.1) (yF _ rfl) Zd (by have:=c.out.1;omega)).mono ?_;clear g;rintro e w4 ⟨rfl,m⟩))
 first|go_end0|refine bodyPost_ret (results_none rfl _ _ _) rfl ?_
 rw[mkOp_2 c.out.2]
 try rw[o.out.2]
 try rw[q.out]
 exact m.out.ret
theorem mkOp_3{E:ME}(h:tkV E M 14=3):xK E M=(yJ E M.tick).2.tick.emit ⟨18+tkV E (yJ E M.tick).2 2,0,(yJ E M.tick).1,0,0,[]⟩:=by
 unfold xK;simp only[h];rfl
theorem op_3(h:wW w K X M)(d:M.cur<M.f.length)(l:M.sz+20<=1000000)(hk:tkV K.E M 14=3):
 G 91 #[I K.pm] w (yk K X w (xK K.E M) (.tuple #[])):=by
 have r:=Ja h.alt;have k:=Ja (OpSt.start h d);have c:=Ja (Jb l hk);clear h d l hk;go_enter Try.func91,Try.ntmps91
 go_wp2_with (first
  |(go_at_call 59;refine(k.out.takeK 14 3 3 rfl c.out.2 Zd Zd (by have:=c.out.1;omega)).mono ?_;clear k;rintro e w1 ⟨rfl,j⟩)
  |(go_at_call 118;refine(j.out.addr (by have:=c.out.1;omega)).mono ?_;clear j;rintro e w2 ⟨x,o,rfl,i⟩)
  |(go_at_call 59;refine(i.out.take 2 Zd Zd (by have:=c.out.1;omega)).mono ?_;clear i;rintro e w3 ⟨z,qz,q,rfl,g⟩)
  |(go_at_call 117;refine(g.out.emit (18+(z:Int)) x 0 0 (vG _ Zo Zo) (o.out.1) (yF _ rfl) Zd (by have:=c.out.1;omega)).mono ?_;clear g;rintro e w4 ⟨rfl,m⟩))
 first|go_end0|refine bodyPost_ret (results_none rfl _ _ _) rfl ?_
 rw[mkOp_3 c.out.2]
 try rw[o.out.2]
 try rw[q.out]
 exact m.out.ret
theorem mkOp_4{E:ME}(h:tkV E M 14=4):xK E M=(zJ E (yJ E M.tick).2).2.tick.emit ⟨20+tkV E (zJ E (yJ E M.tick).2).2 2,0,(yJ E M.tick).1,(zJ E (yJ E M.tick).2).1,0,[]⟩:=by
 unfold xK;simp only[h];rfl
theorem op_4(h:wW w K X M)(d:M.cur<M.f.length)(m:M.sz+20<=1000000)(hk:tkV K.E M 14=4):
 G 91 #[I K.pm] w (yk K X w (xK K.E M) (.tuple #[])):=by
 have u:=Ja h.alt;have l:=Ja (OpSt.start h d);have c:=Ja (Jb m hk);clear h d m hk;go_enter Try.func91,Try.ntmps91
 go_wp2_with (first
  |(go_at_call 59;refine(l.out.takeK 14 4 4 rfl c.out.2 Zd Zd (by have:=c.out.1;omega)).mono ?_;clear l;rintro e w1 ⟨rfl,k⟩)
  |(go_at_call 118;refine(k.out.addr (by have:=c.out.1;omega)).mono ?_;clear k;rintro e w2 ⟨x,r,rfl,j⟩)
  |(go_at_call 62;refine(j.out.any (by have:=c.out.1;omega)).mono ?_;clear j;rintro e w3 ⟨y,q,rfl,i⟩)
  |(go_at_call 59;refine(i.out.take 2 Zd Zd (by have:=c.out.1;omega)).mono ?_;clear i;rintro e w4 ⟨z,qz,t,rfl,g⟩)
  |(go_at_call 117;refine(g.out.emit (20+(z:Int)) x y 0 (vG _ Zo Zo) (r.out.1) (q.out.1) Zd (by have:=c.out.1;omega)).mono ?_;clear g;rintro e w5 ⟨rfl,o⟩))
 first|go_end0|refine bodyPost_ret (results_none rfl _ _ _) rfl ?_
 rw[mkOp_4 c.out.2]
 try rw[r.out.2]
 try rw[q.out.2]
 try rw[t.out]
 exact o.out.ret
theorem mkOp_5{E:ME}(h:tkV E M 14=5):xK E M=(zJ E (yJ E M.tick).2).2.tick.emit ⟨20+tkV E (zJ E (yJ E M.tick).2).2 2,0,(yJ E M.tick).1,(zJ E (yJ E M.tick).2).1,0,[]⟩:=by
 unfold xK;simp only[h];rfl
theorem op_5(h:wW w K X M)(d:M.cur<M.f.length)(m:M.sz+20<=1000000)(hk:tkV K.E M 14=5):
 G 91 #[I K.pm] w (yk K X w (xK K.E M) (.tuple #[])):=by
 have u:=Ja h.alt;have l:=Ja (OpSt.start h d);have c:=Ja (Jb m hk);clear h d m hk;go_enter Try.func91,Try.ntmps91
 go_wp2_with (first
  |(go_at_call 59;refine(l.out.takeK 14 5 5 rfl c.out.2 Zd Zd (by have:=c.out.1;omega)).mono ?_;clear l;rintro e w1 ⟨rfl,k⟩)
  |(go_at_call 118;refine(k.out.addr (by have:=c.out.1;omega)).mono ?_;clear k;rintro e w2 ⟨x,r,rfl,j⟩)
  |(go_at_call 62;refine(j.out.any (by have:=c.out.1;omega)).mono ?_;clear j;rintro e w3 ⟨y,q,rfl,i⟩)
  |(go_at_call 59;refine(i.out.take 2 Zd Zd (by have:=c.out.1;omega)).mono ?_;clear i;rintro e w4 ⟨z,qz,t,rfl,g⟩)
  |(go_at_call 117;refine(g.out.emit (20+(z:Int)) x y 0 (vG _ Zo Zo) (r.out.1) (q.out.1) Zd (by have:=c.out.1;omega)).mono ?_;clear g;rintro e w5 ⟨rfl,o⟩))
 first|go_end0|refine bodyPost_ret (results_none rfl _ _ _) rfl ?_
 rw[mkOp_5 c.out.2]
 try rw[r.out.2]
 try rw[q.out.2]
 try rw[t.out]
 exact o.out.ret
theorem mkOp_6{E:ME}(h:tkV E M 14=6):xK E M=M.tick.tick.emit ⟨24,0,0,0,1+tkV E M.tick 3,[]⟩:=by
 unfold xK;simp only[h];rfl
theorem op_6(h:wW w K X M)(c:M.cur<M.f.length)(k:M.sz+20<=1000000)(hk:tkV K.E M 14=6):
 G 91 #[I K.pm] w (yk K X w (xK K.E M) (.tuple #[])):=by
 have o:=Ja h.alt;have j:=Ja (OpSt.start h c);have d:=Ja (Jb k hk);clear h c k hk;go_enter Try.func91,Try.ntmps91
 go_wp2_with (first
  |(go_at_call 59;refine(j.out.takeK 14 6 6 rfl d.out.2 Zd Zd (by have:=d.out.1;omega)).mono ?_;clear j;rintro e w1 ⟨rfl,i⟩)
  |(go_at_call 59;refine(i.out.take 3 Zd Zd (by have:=d.out.1;omega)).mono ?_;clear i;rintro e w2 ⟨z,qz,m,rfl,g⟩)
  |(go_at_call 117;refine(g.out.emit 24 0 0 (1+z) (yF _ rfl) (yF _ rfl) (yF _ rfl) Zo (by have:=d.out.1;omega)).mono ?_;clear g;rintro e w3 ⟨rfl,l⟩))
 first|go_end0|refine bodyPost_ret (results_none rfl _ _ _) rfl ?_
 rw[mkOp_6 d.out.2]
 try rw[m.out]
 exact l.out.ret
theorem mkOp_7{E:ME}(h:tkV E M 14=7):xK E M=(zJ E M.tick).2.tick.emit ⟨25,0,(zJ E M.tick).1,0,1+tkV E (zJ E M.tick).2 3,[]⟩:=by
 unfold xK;simp only[h];rfl
theorem op_7(h:wW w K X M)(d:M.cur<M.f.length)(l:M.sz+20<=1000000)(hk:tkV K.E M 14=7):
 G 91 #[I K.pm] w (yk K X w (xK K.E M) (.tuple #[])):=by
 have r:=Ja h.alt;have k:=Ja (OpSt.start h d);have c:=Ja (Jb l hk);clear h d l hk;go_enter Try.func91,Try.ntmps91
 go_wp2_with (first
  |(go_at_call 59;refine(k.out.takeK 14 7 7 rfl c.out.2 Zd Zd (by have:=c.out.1;omega)).mono ?_;clear k;rintro e w1 ⟨rfl,j⟩)
  |(go_at_call 62;refine(j.out.any (by have:=c.out.1;omega)).mono ?_;clear j;rintro e w2 ⟨x,o,rfl,i⟩)
  |(go_at_call 59;refine(i.out.take 3 Zd Zd (by have:=c.out.1;omega)).mono ?_;clear i;rintro e w3 ⟨z,qz,q,rfl,g⟩)
  |(go_at_call 117;refine(g.out.emit 25 x 0 (1+z) (yF _ rfl) (o.out.1) (yF _ rfl) Zo (by have:=c.out.1;omega)).mono ?_;clear g;rintro e w4 ⟨rfl,m⟩))
 first|go_end0|refine bodyPost_ret (results_none rfl _ _ _) rfl ?_
 rw[mkOp_7 c.out.2]
 try rw[o.out.2]
 try rw[q.out]
 exact m.out.ret
theorem mkOp_8{E:ME}(h:tkV E M 14=8):xK E M=(M.tick.tick.num (tkV E M.tick 4096)).tick.emit ⟨22+tkV E (M.tick.tick.num (tkV E M.tick 4096)) 2,0,(M.tick.next:Nat),0,0,[]⟩:=by
 unfold xK;simp only[h];rfl
theorem op_8(h:wW w K X M)(g:M.cur<M.f.length)(m:M.sz+20<=1000000)(hk:tkV K.E M 14=8):
 G 91 #[I K.pm] w (yk K X w (xK K.E M) (.tuple #[])):=by
 have t:=Ja h.alt;have l:=Ja (OpSt.start h g);have c:=Ja (Jb m hk);clear h g m hk;go_enter Try.func91,Try.ntmps91
 go_wp2_with (first
  |(go_at_call 59;refine(l.out.takeK 14 8 8 rfl c.out.2 Zd Zd (by have:=c.out.1;omega)).mono ?_;clear l;rintro e w1 ⟨rfl,k⟩)
  |(go_at_call 59;refine(k.out.take 4096 Zd Zd (by have:=c.out.1;omega)).mono ?_;clear k;rintro e w2 ⟨y,qy,r,rfl,d⟩)
  |(go_at_call 94;refine(d.out.num y Zo (by have:=c.out.1;omega)).mono ?_;have N1:=Ja d.out.n64;clear d;rintro e w3 ⟨rfl,j⟩)
  |(go_at_call 59;refine(j.out.take 2 Zd Zd (by have:=c.out.1;omega)).mono ?_;clear j;rintro e w4 ⟨z,qz,q,rfl,i⟩)
  |(go_at_call 117;refine(i.out.emit (22+(z:Int)) (M.next:Int) 0 0 (vG _ Zo Zo) N1.out (yF _ rfl) Zd (by have:=c.out.1;omega)).mono ?_;clear i;rintro e w5 ⟨rfl,o⟩))
 first|go_end0|refine bodyPost_ret (results_none rfl _ _ _) rfl ?_
 rw[mkOp_8 c.out.2]
 try rw[r.out]
 try rw[q.out]
 exact o.out.ret
theorem mkOp_9{E:ME}(h:tkV E M 14=9):xK E M=vN E M.tick:=by
 unfold xK;simp only[h];rfl
theorem op_9(h:wW w K X M)(c:M.cur<M.f.length)(j:M.sz+20<=1000000)(hk:tkV K.E M 14=9):
 G 91 #[I K.pm] w (yk K X w (xK K.E M) (.tuple #[])):=by
 have l:=Ja h.alt;have i:=Ja (OpSt.start h c);have d:=Ja (Jb j hk);clear h c j hk;go_enter Try.func91,Try.ntmps91
 go_wp2_with (first
  |(go_at_call 59;refine(i.out.takeK 14 9 9 rfl d.out.2 Zd Zd (by have:=d.out.1;omega)).mono ?_;clear i;rintro e w1 ⟨rfl,g⟩)
  |(go_at_call 119;refine(g.out.call l.out (by have:=d.out.1;omega)).mono ?_;clear g;rintro e w2 ⟨rfl,k⟩))
 first|go_end0|refine bodyPost_ret (results_none rfl _ _ _) rfl ?_
 rw[mkOp_9 d.out.2];exact k.out.ret
theorem mkOp_10a{E:ME}(h:tkV E M 14=10)(hq:tkV E M.tick 3=0):xK E M=M.tick.tick.emit ⟨27,0,0,0,0,[]⟩:=by
 unfold xK;simp only[h,hq];rfl
theorem op_10a(h:wW w K X M)(c:M.cur<M.f.length)(l:M.sz+20<=1000000)(hk:tkV K.E M 14=10)(hq:tkV K.E M.tick 3=0):
 G 91 #[I K.pm] w (yk K X w (xK K.E M) (.tuple #[])):=by
 have o:=Ja h.alt;have k:=Ja (OpSt.start h c);have d:=Ja (Jb l hk);have j:=Ja hq;clear h c l hk hq;go_enter Try.func91,Try.ntmps91
 go_wp2_with (first
  |(go_at_call 59;refine(k.out.takeK 14 10 10 rfl d.out.2 Zd Zd (by have:=d.out.1;omega)).mono ?_;clear k;rintro e w1 ⟨rfl,i⟩)
  |(go_at_call 59;refine(i.out.takeK 3 0 0 rfl j.out Zd Zd (by have:=d.out.1;omega)).mono ?_;clear i;rintro e w2 ⟨rfl,g⟩)
  |(go_at_call 117;refine(g.out.emit 27 0 0 0 (yF _ rfl) (yF _ rfl) (yF _ rfl) Zd (by have:=d.out.1;omega)).mono ?_;clear g;rintro e w3 ⟨rfl,m⟩))
 first|go_end0|refine bodyPost_ret (results_none rfl _ _ _) rfl ?_
 rw[mkOp_10a d.out.2 j.out];exact m.out.ret
theorem mkOp_10b{E:ME}(h:tkV E M 14=10)(hq:¬tkV E M.tick 3=0):xK E M=M.tick.tick:=by
 unfold xK;simp only[h,hq];rfl
theorem op_10b(h:wW w K X M)(c:M.cur<M.f.length)(k:M.sz+20<=1000000)(hk:tkV K.E M 14=10)(hq:¬tkV K.E M.tick 3=0):
 G 91 #[I K.pm] w (yk K X w (xK K.E M) (.tuple #[])):=by
 have o:=Ja h.alt;have j:=Ja (OpSt.start h c);have d:=Ja (Jb k hk);have i:=Ja hq;clear h c k hk hq;go_enter Try.func91,Try.ntmps91
 go_wp2_with (first
  |(go_at_call 59;refine(j.out.takeK 14 10 10 rfl d.out.2 Zd Zd (by have:=d.out.1;omega)).mono ?_;clear j;rintro e w1 ⟨rfl,g⟩)
  |(go_at_call 59;refine(g.out.take 3 Zd Zd (by have:=d.out.1;omega)).mono ?_;clear g;rintro e w2 ⟨z,qz,m,rfl,l⟩;have tz:((z:Int)==0)=false:=by rw[beq_eq_false_iff_ne];have:=m.out;have:=i.out;omega))
 first|go_end0|refine bodyPost_ret (results_none rfl _ _ _) rfl ?_
 rw[mkOp_10b d.out.2 i.out]
 try rw[m.out]
 exact l.out.ret
theorem mkOp_11a{E:ME}(h:tkV E M 14=11)(hq:¬tkV E (zJ E (zJ E M.tick).2).2 13=3):xK E M=(zJ E (zJ E M.tick).2).2.tick.emit ⟨((5+tkV E (zJ E (zJ E M.tick).2).2 13:Nat):Int),0,(zJ E M.tick).1,(zJ E (zJ E M.tick).2).1,0,[]⟩:=by
 unfold xK;simp only[h]
 show yR E M.tick=_
 unfold yR;simp only;rw[if_neg Zo]
theorem op_11a(h:wW w K X M)(d:M.cur<M.f.length)(o:M.sz+20<=1000000)(hk:tkV K.E M 14=11)(hq:¬tkV K.E (zJ K.E (zJ K.E M.tick).2).2 13=3):
 G 91 #[I K.pm] w (yk K X w (xK K.E M) (.tuple #[])):=by
 have HE:=Ja h.alt;have m:=Ja (OpSt.start h d);have c:=Ja (Jb o hk);have l:=Ja hq;clear h d o hk hq;go_enter Try.func91,Try.ntmps91
 go_wp2_with (first
  |(go_at_call 59;refine(m.out.takeK 14 11 11 rfl c.out.2 Zd Zd (by have:=c.out.1;omega)).mono ?_;clear m;rintro e w1 ⟨rfl,k⟩)
  |(go_at_call 62;refine(k.out.any (by have:=c.out.1;omega)).mono ?_;clear k;rintro e w2 ⟨x,u,rfl,j⟩)
  |(go_at_call 62;refine(j.out.any (by have:=c.out.1;omega)).mono ?_;clear j;rintro e w3 ⟨y,t,rfl,i⟩)
  |(go_at_call 59;refine(i.out.take 13 Zd Zd (by have:=c.out.1;omega)).mono ?_;clear i;rintro e w4 ⟨z,qz,r,rfl,g⟩;have tz:((5+(z:Int))==8)=false:=by rw[beq_eq_false_iff_ne];have:=r.out;have:=l.out;omega)
  |(go_at_call 117;refine(g.out.emit (5+(z:Int)) x y 0 (vG _ Zo Zo) (u.out.1) (t.out.1) Zd (by have:=c.out.1;omega)).mono ?_;clear g;rintro e w5 ⟨rfl,q⟩))
 first|go_end0|refine bodyPost_ret (results_none rfl _ _ _) rfl ?_
 rw[mkOp_11a c.out.2 l.out]
 try rw[u.out.2]
 try rw[t.out.2]
 try rw[r.out]
 exact q.out.ret
theorem mkOp_11b{E:ME}(h:tkV E M 14=11)(hq:tkV E (zJ E (zJ E M.tick).2).2 13=3)(hp:tkV E (zJ E (zJ E M.tick).2).2.tick 8=0):xK E M=(zJ E (zJ E M.tick).2).2.tick.tick.emit ⟨8,0,(zJ E M.tick).1,(zJ E (zJ E M.tick).2).1,0,[]⟩:=by
 unfold xK;simp only[h]
 show yR E M.tick=_
 unfold yR;simp only;rw[if_pos Zo,if_neg Zo]
theorem op_11b(h:wW w K X M)(d:M.cur<M.f.length)(r:M.sz+20<=1000000)(hk:tkV K.E M 14=11)(hq:tkV K.E (zJ K.E (zJ K.E M.tick).2).2 13=3)(hp:tkV K.E (zJ K.E (zJ K.E M.tick).2).2.tick 8=0):
 G 91 #[I K.pm] w (yk K X w (xK K.E M) (.tuple #[])):=by
 have HE:=Ja h.alt;have q:=Ja (OpSt.start h d);have c:=Ja (Jb r hk);have m:=Ja hq;have o:=Ja hp;clear h d r hk hq hp;go_enter Try.func91,Try.ntmps91
 go_wp2_with (first
  |(go_at_call 59;refine(q.out.takeK 14 11 11 rfl c.out.2 Zd Zd (by have:=c.out.1;omega)).mono ?_;clear q;rintro e w1 ⟨rfl,l⟩)
  |(go_at_call 62;refine(l.out.any (by have:=c.out.1;omega)).mono ?_;clear l;rintro e w2 ⟨x,Hx,rfl,k⟩)
  |(go_at_call 62;refine(k.out.any (by have:=c.out.1;omega)).mono ?_;clear k;rintro e w3 ⟨y,u,rfl,j⟩)
  |(go_at_call 59;refine(j.out.takeK 13 3 3 rfl m.out Zd Zd (by have:=c.out.1;omega)).mono ?_;clear j;rintro e w4 ⟨rfl,i⟩)
  |(go_at_call 59;refine(i.out.takeK 8 0 0 rfl o.out Zd Zd (by have:=c.out.1;omega)).mono ?_;clear i;rintro e w5 ⟨rfl,g⟩)
  |(go_at_call 117;refine(g.out.emit 8 x y 0 (yF _ rfl) (Hx.out.1) (u.out.1) Zd (by have:=c.out.1;omega)).mono ?_;clear g;rintro e w6 ⟨rfl,t⟩))
 first|go_end0|refine bodyPost_ret (results_none rfl _ _ _) rfl ?_
 rw[mkOp_11b c.out.2 m.out o.out]
 try rw[Hx.out.2]
 try rw[u.out.2]
 exact t.out.ret
theorem mkOp_11c{E:ME}(h:tkV E M 14=11)(hq:tkV E (zJ E (zJ E M.tick).2).2 13=3)(hp:0<tkV E (zJ E (zJ E M.tick).2).2.tick 8):xK E M=((((zJ E (zJ E M.tick).2).2.tick.tick.num 1).emit ⟨10,0,(zJ E (zJ E M.tick).2).1,((zJ E (zJ E M.tick).2).2.next:Nat),0,[]⟩).emit ⟨8,0,(zJ E M.tick).1,(((zJ E (zJ E M.tick).2).2.next+1:Nat):Int),0,[]⟩):=by
 unfold xK;simp only[h]
 show yR E M.tick=_
 unfold yR;simp only;rw[if_pos Zo,if_pos Zo];rfl
theorem op_11c(h:wW w K X M)(i:M.cur<M.f.length)(u:M.sz+20<=1000000)(hk:tkV K.E M 14=11)(hq:tkV K.E (zJ K.E (zJ K.E M.tick).2).2 13=3)(hp:0<tkV K.E (zJ K.E (zJ K.E M.tick).2).2.tick 8):
 G 91 #[I K.pm] w (yk K X w (xK K.E M) (.tuple #[])):=by
 have HE:=Ja h.alt;have t:=Ja (OpSt.start h i);have c:=Ja (Jb u hk);have q:=Ja hq;have r:=Ja hp;clear h i u hk hq hp;go_enter Try.func91,Try.ntmps91
 go_wp2_with (first
  |(go_at_call 59;refine(t.out.takeK 14 11 11 rfl c.out.2 Zd Zd (by have:=c.out.1;omega)).mono ?_;clear t;rintro e w1 ⟨rfl,o⟩)
  |(go_at_call 62;refine(o.out.any (by have:=c.out.1;omega)).mono ?_;clear o;rintro e w2 ⟨x,Hx,rfl,m⟩)
  |(go_at_call 62;refine(m.out.any (by have:=c.out.1;omega)).mono ?_;clear m;rintro e w3 ⟨y,Hy,rfl,l⟩)
  |(go_at_call 59;refine(l.out.takeK 13 3 3 rfl q.out Zd Zd (by have:=c.out.1;omega)).mono ?_;clear l;rintro e w4 ⟨rfl,k⟩)
  |(go_at_call 59;refine(k.out.take 8 Zd Zd (by have:=c.out.1;omega)).mono ?_;clear k;rintro e w5 ⟨z,qz,Hz,rfl,g⟩;have tz:(0:Int)<(z:Int):=by have:=Hz.out;have:=r.out;omega)
  |(go_at_call 94;refine(g.out.num 1 Zo (by have:=c.out.1;omega)).mono ?_;have N1:=Ja g.out.n64;clear g;rintro e w6 ⟨rfl,d⟩)
  |(go_at_call 117;refine(d.out.emit 10 y _ 0 (yF _ rfl) (Hy.out.1) N1.out Zd (by have:=c.out.1;omega)).mono ?_;have N2:=Ja d.out.n64;clear d;rintro e w7 ⟨rfl,j⟩)
  |(go_at_call 117;refine(j.out.emit 8 x _ 0 (yF _ rfl) (Hx.out.1) N2.out Zd (by have:=c.out.1;omega)).mono ?_;clear j;rintro e w8 ⟨rfl,a0⟩))
 first|go_end0|refine bodyPost_ret (results_none rfl _ _ _) rfl ?_
 rw[mkOp_11c c.out.2 q.out r.out]
 try rw[Hx.out.2]
 try rw[Hy.out.2]
 try rw[Hz.out]
 exact a0.out.ret
theorem mkOp_12a{E:ME}(h:tkV E M 14=12)(hq:¬tkV E (zJ E (zJ E M.tick).2).2 13=3):xK E M=(zJ E (zJ E M.tick).2).2.tick.emit ⟨((5+tkV E (zJ E (zJ E M.tick).2).2 13:Nat):Int),0,(zJ E M.tick).1,(zJ E (zJ E M.tick).2).1,0,[]⟩:=by
 unfold xK;simp only[h]
 show yR E M.tick=_
 unfold yR;simp only;rw[if_neg Zo]
theorem op_12a(h:wW w K X M)(d:M.cur<M.f.length)(o:M.sz+20<=1000000)(hk:tkV K.E M 14=12)(hq:¬tkV K.E (zJ K.E (zJ K.E M.tick).2).2 13=3):
 G 91 #[I K.pm] w (yk K X w (xK K.E M) (.tuple #[])):=by
 have HE:=Ja h.alt;have m:=Ja (OpSt.start h d);have c:=Ja (Jb o hk);have l:=Ja hq;clear h d o hk hq;go_enter Try.func91,Try.ntmps91
 go_wp2_with (first
  |(go_at_call 59;refine(m.out.takeK 14 12 12 rfl c.out.2 Zd Zd (by have:=c.out.1;omega)).mono ?_;clear m;rintro e w1 ⟨rfl,k⟩)
  |(go_at_call 62;refine(k.out.any (by have:=c.out.1;omega)).mono ?_;clear k;rintro e w2 ⟨x,u,rfl,j⟩)
  |(go_at_call 62;refine(j.out.any (by have:=c.out.1;omega)).mono ?_;clear j;rintro e w3 ⟨y,t,rfl,i⟩)
  |(go_at_call 59;refine(i.out.take 13 Zd Zd (by have:=c.out.1;omega)).mono ?_;clear i;rintro e w4 ⟨z,qz,r,rfl,g⟩;have tz:((5+(z:Int))==8)=false:=by rw[beq_eq_false_iff_ne];have:=r.out;have:=l.out;omega)
  |(go_at_call 117;refine(g.out.emit (5+(z:Int)) x y 0 (vG _ Zo Zo) (u.out.1) (t.out.1) Zd (by have:=c.out.1;omega)).mono ?_;clear g;rintro e w5 ⟨rfl,q⟩))
 first|go_end0|refine bodyPost_ret (results_none rfl _ _ _) rfl ?_
 rw[mkOp_12a c.out.2 l.out]
 try rw[u.out.2]
 try rw[t.out.2]
 try rw[r.out]
 exact q.out.ret
theorem mkOp_12b{E:ME}(h:tkV E M 14=12)(hq:tkV E (zJ E (zJ E M.tick).2).2 13=3)(hp:tkV E (zJ E (zJ E M.tick).2).2.tick 8=0):xK E M=(zJ E (zJ E M.tick).2).2.tick.tick.emit ⟨8,0,(zJ E M.tick).1,(zJ E (zJ E M.tick).2).1,0,[]⟩:=by
 unfold xK;simp only[h]
 show yR E M.tick=_
 unfold yR;simp only;rw[if_pos Zo,if_neg Zo]
theorem op_12b(h:wW w K X M)(d:M.cur<M.f.length)(r:M.sz+20<=1000000)(hk:tkV K.E M 14=12)(hq:tkV K.E (zJ K.E (zJ K.E M.tick).2).2 13=3)(hp:tkV K.E (zJ K.E (zJ K.E M.tick).2).2.tick 8=0):
 G 91 #[I K.pm] w (yk K X w (xK K.E M) (.tuple #[])):=by
 have HE:=Ja h.alt;have q:=Ja (OpSt.start h d);have c:=Ja (Jb r hk);have m:=Ja hq;have o:=Ja hp;clear h d r hk hq hp;go_enter Try.func91,Try.ntmps91
 go_wp2_with (first
  |(go_at_call 59;refine(q.out.takeK 14 12 12 rfl c.out.2 Zd Zd (by have:=c.out.1;omega)).mono ?_;clear q;rintro e w1 ⟨rfl,l⟩)
  |(go_at_call 62;refine(l.out.any (by have:=c.out.1;omega)).mono ?_;clear l;rintro e w2 ⟨x,Hx,rfl,k⟩)
  |(go_at_call 62;refine(k.out.any (by have:=c.out.1;omega)).mono ?_;clear k;rintro e w3 ⟨y,u,rfl,j⟩)
  |(go_at_call 59;refine(j.out.takeK 13 3 3 rfl m.out Zd Zd (by have:=c.out.1;omega)).mono ?_;clear j;rintro e w4 ⟨rfl,i⟩)
  |(go_at_call 59;refine(i.out.takeK 8 0 0 rfl o.out Zd Zd (by have:=c.out.1;omega)).mono ?_;clear i;rintro e w5 ⟨rfl,g⟩)
  |(go_at_call 117;refine(g.out.emit 8 x y 0 (yF _ rfl) (Hx.out.1) (u.out.1) Zd (by have:=c.out.1;omega)).mono ?_;clear g;rintro e w6 ⟨rfl,t⟩))
 first|go_end0|refine bodyPost_ret (results_none rfl _ _ _) rfl ?_
 rw[mkOp_12b c.out.2 m.out o.out]
 try rw[Hx.out.2]
 try rw[u.out.2]
 exact t.out.ret
theorem mkOp_12c{E:ME}(h:tkV E M 14=12)(hq:tkV E (zJ E (zJ E M.tick).2).2 13=3)(hp:0<tkV E (zJ E (zJ E M.tick).2).2.tick 8):xK E M=((((zJ E (zJ E M.tick).2).2.tick.tick.num 1).emit ⟨10,0,(zJ E (zJ E M.tick).2).1,((zJ E (zJ E M.tick).2).2.next:Nat),0,[]⟩).emit ⟨8,0,(zJ E M.tick).1,(((zJ E (zJ E M.tick).2).2.next+1:Nat):Int),0,[]⟩):=by
 unfold xK;simp only[h]
 show yR E M.tick=_
 unfold yR;simp only;rw[if_pos Zo,if_pos Zo];rfl
theorem op_12c(h:wW w K X M)(i:M.cur<M.f.length)(u:M.sz+20<=1000000)(hk:tkV K.E M 14=12)(hq:tkV K.E (zJ K.E (zJ K.E M.tick).2).2 13=3)(hp:0<tkV K.E (zJ K.E (zJ K.E M.tick).2).2.tick 8):
 G 91 #[I K.pm] w (yk K X w (xK K.E M) (.tuple #[])):=by
 have HE:=Ja h.alt;have t:=Ja (OpSt.start h i);have c:=Ja (Jb u hk);have q:=Ja hq;have r:=Ja hp;clear h i u hk hq hp;go_enter Try.func91,Try.ntmps91
 go_wp2_with (first
  |(go_at_call 59;refine(t.out.takeK 14 12 12 rfl c.out.2 Zd Zd (by have:=c.out.1;omega)).mono ?_;clear t;rintro e w1 ⟨rfl,o⟩)
  |(go_at_call 62;refine(o.out.any (by have:=c.out.1;omega)).mono ?_;clear o;rintro e w2 ⟨x,Hx,rfl,m⟩)
  |(go_at_call 62;refine(m.out.any (by have:=c.out.1;omega)).mono ?_;clear m;rintro e w3 ⟨y,Hy,rfl,l⟩)
  |(go_at_call 59;refine(l.out.takeK 13 3 3 rfl q.out Zd Zd (by have:=c.out.1;omega)).mono ?_;clear l;rintro e w4 ⟨rfl,k⟩)
  |(go_at_call 59;refine(k.out.take 8 Zd Zd (by have:=c.out.1;omega)).mono ?_;clear k;rintro e w5 ⟨z,qz,Hz,rfl,g⟩;have tz:(0:Int)<(z:Int):=by have:=Hz.out;have:=r.out;omega)
  |(go_at_call 94;refine(g.out.num 1 Zo (by have:=c.out.1;omega)).mono ?_;have N1:=Ja g.out.n64;clear g;rintro e w6 ⟨rfl,d⟩)
  |(go_at_call 117;refine(d.out.emit 10 y _ 0 (yF _ rfl) (Hy.out.1) N1.out Zd (by have:=c.out.1;omega)).mono ?_;have N2:=Ja d.out.n64;clear d;rintro e w7 ⟨rfl,j⟩)
  |(go_at_call 117;refine(j.out.emit 8 x _ 0 (yF _ rfl) (Hx.out.1) N2.out Zd (by have:=c.out.1;omega)).mono ?_;clear j;rintro e w8 ⟨rfl,a0⟩))
 first|go_end0|refine bodyPost_ret (results_none rfl _ _ _) rfl ?_
 rw[mkOp_12c c.out.2 q.out r.out]
 try rw[Hx.out.2]
 try rw[Hy.out.2]
 try rw[Hz.out]
 exact a0.out.ret
theorem mkOp_13a{E:ME}(h:tkV E M 14=13)(hq:¬tkV E (zJ E (zJ E M.tick).2).2 13=3):xK E M=(zJ E (zJ E M.tick).2).2.tick.emit ⟨((5+tkV E (zJ E (zJ E M.tick).2).2 13:Nat):Int),0,(zJ E M.tick).1,(zJ E (zJ E M.tick).2).1,0,[]⟩:=by
 unfold xK;simp only[h]
 show yR E M.tick=_
 unfold yR;simp only;rw[if_neg Zo]
theorem op_13a(h:wW w K X M)(d:M.cur<M.f.length)(o:M.sz+20<=1000000)(hk:tkV K.E M 14=13)(hq:¬tkV K.E (zJ K.E (zJ K.E M.tick).2).2 13=3):
 G 91 #[I K.pm] w (yk K X w (xK K.E M) (.tuple #[])):=by
 have HE:=Ja h.alt;have m:=Ja (OpSt.start h d);have c:=Ja (Jb o hk);have l:=Ja hq;clear h d o hk hq;go_enter Try.func91,Try.ntmps91
 go_wp2_with (first
  |(go_at_call 59;refine(m.out.takeK 14 13 13 rfl c.out.2 Zd Zd (by have:=c.out.1;omega)).mono ?_;clear m;rintro e w1 ⟨rfl,k⟩)
  |(go_at_call 62;refine(k.out.any (by have:=c.out.1;omega)).mono ?_;clear k;rintro e w2 ⟨x,u,rfl,j⟩)
  |(go_at_call 62;refine(j.out.any (by have:=c.out.1;omega)).mono ?_;clear j;rintro e w3 ⟨y,t,rfl,i⟩)
  |(go_at_call 59;refine(i.out.take 13 Zd Zd (by have:=c.out.1;omega)).mono ?_;clear i;rintro e w4 ⟨z,qz,r,rfl,g⟩;have tz:((5+(z:Int))==8)=false:=by rw[beq_eq_false_iff_ne];have:=r.out;have:=l.out;omega)
  |(go_at_call 117;refine(g.out.emit (5+(z:Int)) x y 0 (vG _ Zo Zo) (u.out.1) (t.out.1) Zd (by have:=c.out.1;omega)).mono ?_;clear g;rintro e w5 ⟨rfl,q⟩))
 first|go_end0|refine bodyPost_ret (results_none rfl _ _ _) rfl ?_
 rw[mkOp_13a c.out.2 l.out]
 try rw[u.out.2]
 try rw[t.out.2]
 try rw[r.out]
 exact q.out.ret
theorem mkOp_13b{E:ME}(h:tkV E M 14=13)(hq:tkV E (zJ E (zJ E M.tick).2).2 13=3)(hp:tkV E (zJ E (zJ E M.tick).2).2.tick 8=0):xK E M=(zJ E (zJ E M.tick).2).2.tick.tick.emit ⟨8,0,(zJ E M.tick).1,(zJ E (zJ E M.tick).2).1,0,[]⟩:=by
 unfold xK;simp only[h]
 show yR E M.tick=_
 unfold yR;simp only;rw[if_pos Zo,if_neg Zo]
theorem op_13b(h:wW w K X M)(d:M.cur<M.f.length)(r:M.sz+20<=1000000)(hk:tkV K.E M 14=13)(hq:tkV K.E (zJ K.E (zJ K.E M.tick).2).2 13=3)(hp:tkV K.E (zJ K.E (zJ K.E M.tick).2).2.tick 8=0):
 G 91 #[I K.pm] w (yk K X w (xK K.E M) (.tuple #[])):=by
 have HE:=Ja h.alt;have q:=Ja (OpSt.start h d);have c:=Ja (Jb r hk);have m:=Ja hq;have o:=Ja hp;clear h d r hk hq hp;go_enter Try.func91,Try.ntmps91
 go_wp2_with (first
  |(go_at_call 59;refine(q.out.takeK 14 13 13 rfl c.out.2 Zd Zd (by have:=c.out.1;omega)).mono ?_;clear q;rintro e w1 ⟨rfl,l⟩)
  |(go_at_call 62;refine(l.out.any (by have:=c.out.1;omega)).mono ?_;clear l;rintro e w2 ⟨x,Hx,rfl,k⟩)
  |(go_at_call 62;refine(k.out.any (by have:=c.out.1;omega)).mono ?_;clear k;rintro e w3 ⟨y,u,rfl,j⟩)
  |(go_at_call 59;refine(j.out.takeK 13 3 3 rfl m.out Zd Zd (by have:=c.out.1;omega)).mono ?_;clear j;rintro e w4 ⟨rfl,i⟩)
  |(go_at_call 59;refine(i.out.takeK 8 0 0 rfl o.out Zd Zd (by have:=c.out.1;omega)).mono ?_;clear i;rintro e w5 ⟨rfl,g⟩)
  |(go_at_call 117;refine(g.out.emit 8 x y 0 (yF _ rfl) (Hx.out.1) (u.out.1) Zd (by have:=c.out.1;omega)).mono ?_;clear g;rintro e w6 ⟨rfl,t⟩))
 first|go_end0|refine bodyPost_ret (results_none rfl _ _ _) rfl ?_
 rw[mkOp_13b c.out.2 m.out o.out]
 try rw[Hx.out.2]
 try rw[u.out.2]
 exact t.out.ret
theorem mkOp_13c{E:ME}(h:tkV E M 14=13)(hq:tkV E (zJ E (zJ E M.tick).2).2 13=3)(hp:0<tkV E (zJ E (zJ E M.tick).2).2.tick 8):xK E M=((((zJ E (zJ E M.tick).2).2.tick.tick.num 1).emit ⟨10,0,(zJ E (zJ E M.tick).2).1,((zJ E (zJ E M.tick).2).2.next:Nat),0,[]⟩).emit ⟨8,0,(zJ E M.tick).1,(((zJ E (zJ E M.tick).2).2.next+1:Nat):Int),0,[]⟩):=by
 unfold xK;simp only[h]
 show yR E M.tick=_
 unfold yR;simp only;rw[if_pos Zo,if_pos Zo];rfl
theorem op_13c(h:wW w K X M)(i:M.cur<M.f.length)(u:M.sz+20<=1000000)(hk:tkV K.E M 14=13)(hq:tkV K.E (zJ K.E (zJ K.E M.tick).2).2 13=3)(hp:0<tkV K.E (zJ K.E (zJ K.E M.tick).2).2.tick 8):
 G 91 #[I K.pm] w (yk K X w (xK K.E M) (.tuple #[])):=by
 have HE:=Ja h.alt;have t:=Ja (OpSt.start h i);have c:=Ja (Jb u hk);have q:=Ja hq;have r:=Ja hp;clear h i u hk hq hp;go_enter Try.func91,Try.ntmps91
 go_wp2_with (first
  |(go_at_call 59;refine(t.out.takeK 14 13 13 rfl c.out.2 Zd Zd (by have:=c.out.1;omega)).mono ?_;clear t;rintro e w1 ⟨rfl,o⟩)
  |(go_at_call 62;refine(o.out.any (by have:=c.out.1;omega)).mono ?_;clear o;rintro e w2 ⟨x,Hx,rfl,m⟩)
  |(go_at_call 62;refine(m.out.any (by have:=c.out.1;omega)).mono ?_;clear m;rintro e w3 ⟨y,Hy,rfl,l⟩)
  |(go_at_call 59;refine(l.out.takeK 13 3 3 rfl q.out Zd Zd (by have:=c.out.1;omega)).mono ?_;clear l;rintro e w4 ⟨rfl,k⟩)
  |(go_at_call 59;refine(k.out.take 8 Zd Zd (by have:=c.out.1;omega)).mono ?_;clear k;rintro e w5 ⟨z,qz,Hz,rfl,g⟩;have tz:(0:Int)<(z:Int):=by have:=Hz.out;have:=r.out;omega)
  |(go_at_call 94;refine(g.out.num 1 Zo (by have:=c.out.1;omega)).mono ?_;have N1:=Ja g.out.n64;clear g;rintro e w6 ⟨rfl,d⟩)
  |(go_at_call 117;refine(d.out.emit 10 y _ 0 (yF _ rfl) (Hy.out.1) N1.out Zd (by have:=c.out.1;omega)).mono ?_;have N2:=Ja d.out.n64;clear d;rintro e w7 ⟨rfl,j⟩)
  |(go_at_call 117;refine(j.out.emit 8 x _ 0 (yF _ rfl) (Hx.out.1) N2.out Zd (by have:=c.out.1;omega)).mono ?_;clear j;rintro e w8 ⟨rfl,a0⟩))
 first|go_end0|refine bodyPost_ret (results_none rfl _ _ _) rfl ?_
 rw[mkOp_13c c.out.2 q.out r.out]
 try rw[Hx.out.2]
 try rw[Hy.out.2]
 try rw[Hz.out]
 exact a0.out.ret
theorem op_any(h:wW w K X M)(c:M.cur<M.f.length)(d:M.sz+20<=1000000):
 G 91 #[I K.pm] w (yk K X w (xK K.E M) (.tuple #[])):=by
 have i:=aaE K.E M (n:=14) Zo;have h3:=aaE K.E M.tick (n:=3) Zo;obtain⟨k,hk⟩:∃k,tkV K.E M 14=k:=⟨_,rfl⟩
 rw[hk] at i
 have l:∀j,j=11∨j=12∨j=13->k=j->G 91 #[I K.pm] w (yk K X w (xK K.E M) (.tuple #[])):=fun j hj e=>by
  by_cases hq:tkV K.E (zJ K.E (zJ K.E M.tick).2).2 13=3
  ·by_cases hp:0<tkV K.E (zJ K.E (zJ K.E M.tick).2).2.tick 8
   ·rcases hj with rfl|rfl|rfl
    ·exact op_11c h c d (hk.trans e) hq hp
    ·exact op_12c h c d (hk.trans e) hq hp
    ·exact op_13c h c d (hk.trans e) hq hp
   ·have g:tkV K.E (zJ K.E (zJ K.E M.tick).2).2.tick 8=0:=Zo;rcases hj with rfl|rfl|rfl
    ·exact op_11b h c d (hk.trans e) hq g
    ·exact op_12b h c d (hk.trans e) hq g
    ·exact op_13b h c d (hk.trans e) hq g
  ·rcases hj with rfl|rfl|rfl
   ·exact op_11a h c d (hk.trans e) hq
   ·exact op_12a h c d (hk.trans e) hq
   ·exact op_13a h c d (hk.trans e) hq
 match k,i with
 |0,_=>exact op_0 h c d hk
 |1,_=>exact op_1 h c d hk
 |2,_=>exact op_2 h c d hk
 |3,_=>exact op_3 h c d hk
 |4,_=>exact op_4 h c d hk
 |5,_=>exact op_5 h c d hk
 |6,_=>exact op_6 h c d hk
 |7,_=>exact op_7 h c d hk
 |8,_=>exact op_8 h c d hk
 |9,_=>exact op_9 h c d hk
 |10,_=>
  by_cases hq:tkV K.E M.tick 3=0
  ·exact op_10a h c d hk hq
  ·exact op_10b h c d hk hq
 |11,_=>exact l 11 Zo rfl
 |12,_=>exact l 12 Zo rfl
 |13,_=>exact l 13 Zo rfl
 |k+14,h=>exact absurd h Zo
theorem Try.info_edge:(Try.prog.info? 75).map (fun i=>(i.zero,i.size,i.bytes))=some (some (.agg #[O 0,.slice none 0 0]),2,32):=by kernel_rfl
def sU (d:Nat):Prop:=∀(w:World) (K:MKC) (X:Nat->Prop) (M:MS),wW w K X M->M.cur<M.f.length->M.sz+pC d<=1000000->
 G 61 #[I K.pm,O d] w (yk K X w (zp K.E d M) (.tuple #[]))
theorem OpSt.part(h:OpSt w0 K X0 M0 c w M)(j:sU d)(k:M0.sz+(c+pC d)<=1000000):
 G 61 #[I K.pm,O d] w fun e w'=>e=.returned (.tuple #[])/\Hid (OpSt w0 K X0 M0 (c+pC d) w' (zp K.E d M)):=by
 obtain⟨X,hm,hs⟩:=h.made;refine(j w K X M hm h.cur (by have:=h.gr.sz;omega)).mono ?_;rintro e w' ⟨rfl,X',i,g⟩;have hg:=xw K.E hm.alt d M;exact⟨rfl,Ja ⟨⟨X',i,hs.trans g⟩,h.gr.trans hg,hg.cur h.cur⟩⟩
structure ArmMid (w:World) (K:MKC) (X:Nat->Prop) (M:MS) (d tg join n j:Nat) (wx:World) (Mj:MS):Prop where
 made:∃Xj,wW wx K Xj Mj/\Stp X w Xj wx
 rest:uV K.E (zp K.E d) tg join M.vals.length n 0 M=uV K.E (zp K.E d) tg join M.vals.length (n-j) j Mj
 vals:Mj.vals=M.vals
 gr:GrowP (j*(pC d+5)) M Mj
theorem ArmMid.next{w2:World}{Xj:Nat->Prop}{Mj:MS}{tg n j:Nat}(h:ArmMid w K X M d tg c n j wx Mj)(l:j<n)(hs:Stp X w Xj wx)(hf:tg+n<M.f.length)
 (h2:∃X2,wW w2 K X2 {wM K.E c j (zp K.E d {Mj with cur:=tg+j }) with vals:=(wM K.E c j (zp K.E d {Mj with cur:=tg+j })).vals.take M.vals.length }/\Stp Xj wx X2 w2):
 ArmMid w K X M d tg c n (j+1) w2 {wM K.E c j (zp K.E d {Mj with cur:=tg+j }) with vals:=(wM K.E c j (zp K.E d {Mj with cur:=tg+j })).vals.take M.vals.length }:=by
 obtain⟨X2,g,i⟩:=h2;have k:=g.alt;have h1:=((vk Mj (tg+j) (by have:=h.gr.len;omega)).trans ((xw K.E k d _).trans (su K.E c j (zp K.E d {Mj with cur:=tg+j })))).mono (show 0+(pC d+5)<=pC d+5 by omega);have h3:=sY h1;have hl:Mj.vals.length=M.vals.length:=by rw[h.vals]
 rw[hl] at h3;refine⟨⟨X2,g,hs.trans i⟩,?_,?_,?_⟩
 ·rw[h.rest,show n-j=(n-(j+1))+1 by omega,rg]
 ·have:=uF h1.pre;rw[hl] at this;exact this.trans h.vals
 ·have:=h.gr.trans h3;rw[Nat.succ_mul];exact this
theorem lH(hd:d<=5)(hP:sU d)(h:wW w K X M)(c3:M.cur<M.f.length){n:Nat}(r2:2<=n)(o0:n<=4)(hz:M.sz+(31+4*pC d)<=1000000):
 G 92 #[I K.pm,O ((d:Int)+1),O n] w (yk K X w (xi K.E (zp K.E d) n M) (.tuple #[])):=by
 have HA:=Ja (OpSt.start h c3);have HZ:=Ja (Jb hz hP);have p4:=Ja c3
 have k4:K.B<=w.heap.size/\(∀k,K.Z k->k<w.heap.size):=by
  obtain⟨fv,vv,l,hi⟩:=h;exact⟨hi.size,hi.env.zl⟩
 have s3:=Ja k4;clear h c3 hz hP k4;go_enter Try.func92,Try.ntmps92;go_upto_region 1 with(go_at_call 62;go_must (refine(HA.out.any (by have:=HZ.out.1;omega)).mono ?_;rintro e w1 ⟨x,HX,rfl,b7⟩))
 obtain⟨M1,h7⟩:∃M1,(zJ K.E M).2=M1:=⟨_,rfl⟩
 rw[h7] at b7;obtain⟨X1,f6,k2⟩:=b7.out.made;have m1:=b7.out.gr.sz
 have j5:(∀k,X1 k->k<w1.heap.size)/\K.B<=w1.heap.size/\(∀k,K.Z k->k<w1.heap.size)/\M1.f.length<=999900:=by
  obtain⟨fv,vv,l,hi⟩:=f6;refine⟨hi.xl,hi.size,hi.env.zl,?_⟩;have h1:M1.f.length<=M1.sz:=by unfold MS.sz;omega
  have h2:=HZ.out.1;have h3:pC d≥101:=by cases d<;>unfold pC<;>omega
  omega
 have p2:=Ja (ToMid.start f6);have H1:=Ja (Jb k2 (Jb j5 h7));clear f6 k2 m1 j5 h7 HA;go_wp2
 go_loopw [7,8] (fun tv kv wx=>∃(j:Nat) (ta:Option Addr) (tc:Nat),j<=n/\tv=.slice ta j tc/\kv=O j/\Hid (ToMid w1 K X1 M1 (.slice ta j tc) j wx)) (fun _ kv _=>n-(intOf kv).toNat)
 case atStart=>exact⟨0,none,0,Jt _,rfl,rfl,p2⟩
 case round=>
  obtain⟨j,ta,tc,hj,rfl,rfl,HT⟩:=hrel
  by_cases a1:j<n
  ·have b0:(j:Int)<(n:Int):=Zo;obtain⟨Xj,f2,e8⟩:=HT.out.made;have c8:=rU f2 (n:=0) (by have h1:=(vW j M1).sz;have h2:=b7.out.gr.sz;have h3:=HZ.out.1;omega);rw[tB] at c8
   have g2:∀(w4:World) (X4:Nat->Prop),Stp Xj wr X4 w4->w4.ownsRow w1.heap.size 75 2 (.slice ta j tc) j ((toL M1.f.length j).flatMap za):=fun w4 X4 b4=>yD HT.out.own (fun k e=>b4.kept k (HT.out.own.lt k e).2 (fun e2=>by
    obtain⟨fv,vv,l,hi⟩:=f2
    exact hi.env.zx k e2 (.inr e)))
   obtain⟨ij,g1,c0,b9,b8⟩:=info_parts Try.info_edge;have HN:=Ja (Jb c8 (Jb e8 (Jb g2 a1)));have q5:=e8.size;clear f2 e8 c8 g2 a1;go_wp2_with (first|(go_at_call 60;go_must (refine HN.out.1.mono ?_;rintro e w4 ⟨rfl,X4,o2,b4⟩;have k3:=HN.out.2.2.1 w4 X4 b4;have q6:=b4.size;have m2:yM (w4.alloc (A #[O ((M1.f.length+j:Nat):Int),F] 75)) 2 (Q w4.heap.size 1 1) 1 (za (⟨((M1.f.length+j:Nat):Int),[]⟩,F)):=yM.cells (zI rfl) rfl (by simp[za,Value.oneCell'])))|(at_builtin;go_must (refine zK _ rfl (.tmp 20) (.tmp 24) 45 rfl w1.heap.size 75 ij (.agg #[O 0,F]) 2 32 Try.underlying45 g1 c0 b9 b8 rfl Zd (.slice ta j tc) j ((toL M1.f.length j).flatMap za) rfl (k3.alloc _) _ 1 (za (⟨((M1.f.length+j:Nat):Int),[]⟩,F)) rfl m2 (by unfold maxLen;omega) Zo Zt ?_;intro v9 w9 r u d4)))
   obtain⟨n6,n5,rfl⟩:=zG r;go_roundw
   case rel=>
    refine⟨j+1,n6,n5,HN.out.2.2.2,rfl,by go_num,Ja (HT.out.next o2 (HN.out.2.1.trans b4) k3 H1.out.2.1.1 H1.out.2.1.2.1 u r (fun k e=>?_))⟩;rcases d4 with e2|e2
    ·exact .inl (by rw[<-e2];exact e)
    ·right;have e3:=e2.symm.trans e;simp at e3;omega
   case measure=>have:=HN.out.2.2.2;simp[intOf];omega
  ·obtain rfl:j=n:=by omega
   have b0:¬(j:Int)<(j:Int):=Zo;obtain⟨X2,f4,k1,g5⟩:=HT.out.done H1.out.2.1.2.2.1 (by have:=H1.out.2.1.2.2.2;omega);have a3:=b7.out.gr.trans (vW j M1);have a6:=tB j M1;obtain⟨tg,e7⟩:∃tg,M1.f.length=tg:=⟨_,rfl⟩
   rw[e7] at a6 g5;obtain⟨M2,h6⟩:∃M2,xE j M1=M2:=⟨_,rfl⟩
   rw[h6] at f4 a3 a6;have q0:=Ja (OpSt.start f4 (a3.cur p4.out));have j3:=a3.sz;have a4:=q0.out.block 1 (by have:=HZ.out.1;omega);rw[a6] at a4;obtain⟨jn,g0⟩:∃jn,tg+j=jn:=⟨_,rfl⟩
   rw[g0] at a4;have H2:=Ja (Jb (H1.out.1.trans k1) (Jb g5 (Jb j3 (Jb h6 (Jb e7 (Jb g0 (Jb a6 a3)))))));have n4:=Ja a4;clear f4 k1 g5 a3 a6 h6 e7 j3 a4 g0 HT;go_upto_region 7 with(go_at_call 60;go_must (refine n4.out.mono ?_;rintro e w3 ⟨rfl,p3⟩))
   obtain⟨kd,b5⟩:∃kd:Int,(if 2<j then 3 else 2)=kd:=⟨_,rfl⟩
   have d2:I64 kd:=by rw[<-b5];split<;>exact yF _ rfl
   have f8:2<j->kd=3:=fun e=>by rw[<-b5,if_pos e]
   have f9:¬2<j->kd=2:=fun e=>by rw[<-b5,if_neg e]
   have d8:=Ja (Jb b5 (Jb d2 (Jb f8 f9)));clear b5 d2 f8 f9
   go_upto_if 32 with fail
   go_cut [] (fun wx=>Hid (L w3 wx/\Y wx w3.heap.size #[O kd,O x,.slice ta j tc] 47))
   case first=>
    by_cases h3:2<j
    ·have o5:(2:Int)<(j:Int):=Zo;have hk:=d8.out.2.2.1 h3;subst hk;go_wp2;go_meet;exact Ja ⟨(Below.refl _ _).alloc (Je _) _,zI rfl⟩
    ·have o5:¬(2:Int)<(j:Int):=Zo;have hk:=d8.out.2.2.2 h3;subst hk;go_wp2;go_meet;exact Ja ⟨(Below.refl _ _).alloc (Je _) _,zI rfl⟩
   case rest=>
   obtain⟨l2,d0⟩:=hcut.out;have t0:=zA (i:=0) d0 rfl;have t1:=zA (i:=1) d0 rfl;have t2:=zA (i:=2) d0 rfl;have n3:=Ja ((p3.out.below l2).endB kd x (xk tg j) (.slice ta j tc) d8.out.2.1 HX.out.1 (fun X hm hs=>H2.out.2.1.step yq (hs.av K)));clear l2 d0 hcut;go_upto_region 11 with(go_at_call 63;go_must (refine n3.out.mono ?_;rintro e w5 ⟨rfl,i0⟩))
   obtain⟨M3,d6⟩:∃M3,(M2.block 1).endB ⟨kd,x,xk tg j⟩=M3:=⟨_,rfl⟩
   rw[d6] at i0;obtain⟨X5,f3,e9⟩:=i0.out.made;have g4:=H2.out.2.1.step yq (e9.av K);have m6:∃l4 vv5 l5,MkIn w5 K X5 M3 l4 vv5 l5:=f3;obtain⟨l4,vv5,l5,d3⟩:=m6;have c7:=d3.c7;obtain⟨va5,vc5,e4⟩:=zG d3.vown;rw[e4] at c7;have m3:=lt_of_block d3.blk;have d1:M3.f.length=jn+1:=by rw[<-d6,(zv _ _).len,yz,<-H2.out.2.2.2.2.2.1];have:=H2.out.2.2.2.2.2.2.1;omega
   have j2:M3.sz<=M.sz+(6+j):=by have:=i0.out.gr.sz;have:=H2.out.2.2.1;omega
   have j4:6+j+j*(pC d+5)+1<=31+4*pC d:=by have:=Qw (pC d+5) o0;omega
   have H5:=Ja (Jb (H2.out.1.trans e9) (Jb g4 (Jb d6 (Jb d1 (Jb j2 j4)))));have q1:=Ja (show ArmMid w5 K X5 M3 d tg jn j 0 w5 M3 from⟨⟨X5,f3,Stp.refl _ _⟩,rfl,rfl,(GrowP.refl _).mono (Jt _)⟩);clear f3 e9 g4 d3 d6 d1 j2 j4 e4 t0 t1 t2;go_wp2;clear c7 m3
   go_loopw [12] (fun kv wx=>∃(i:Nat) (Mi:MS),i<=j/\kv=O i/\Hid (ArmMid w5 K X5 M3 d tg jn j i wx Mi)) (fun kv _=>j-(intOf kv).toNat)
   case atStart=>exact⟨0,M3,Jt _,rfl,q1⟩
   case round=>
    obtain⟨i,Mi,hi,rfl,a0⟩:=hrel;obtain⟨Xi,o1,b3⟩:=a0.out.made;obtain⟨fv,vv,l,q⟩:=o1
    by_cases a1:i<j
    ·have b0:(i:Int)<(j:Int):=Zo;have g3:=H5.out.2.1.step yq (b3.av K);obtain⟨eb,eo,n8,k6⟩:=edgeCell g3 rfl (nl a1);obtain⟨ti,e6⟩:∃ti,tg+i=ti:=⟨_,rfl⟩
     simp only[e6] at k6;have f5:=q.free 5;have f0:=lt_of_block q.blk;have c5:=q.c5;have b6:=q.goto ti;have n7:Mi.sz<=M3.sz+i*(pC d+5):=a0.out.gr.sz;have m5:i*(pC d+5)+(pC d+5)<=j*(pC d+5):=by have:=Qw (pC d+5) a1;rw[Nat.succ_mul] at this;exact this
     have l1:Mi.sz+(pC d+5)<=1000000:=by have h1:=HZ.out.1;have h2:=H5.out.2.2.2.2.1;have h3:=H5.out.2.2.2.2.2;omega
     have k7:ti<Mi.f.length:=by have h1:=a0.out.gr.len;have h2:=H5.out.2.2.2.1;have h3:=H2.out.2.2.2.2.2.1;omega
     have p1:=Ja e6;have m:=Ja (Jb b3 (Jb b6 (Jb l1 k7)));subst n8;clear e6 q b3 g3 b6 n7 m5 l1 k7;go_upto_region 16 with fail;generalize g8:wr.setCell ⟨K.pm,5,none⟩ (O ti)=W6 at *;obtain⟨M6,d5⟩:∃M6:MS,{Mi with cur:=ti }=M6:=⟨_,rfl⟩
     have j1:M6.sz+(pC d+5)<=1000000:=by rw[<-d5];exact m.out.2.2.1
     have l3:OpSt W6 K Xi M6 0 W6 M6:=by rw[<-d5];exact OpSt.start m.out.2.1.1.at m.out.2.2.2
     have a7:=Ja (Jb (l3.part HZ.out.2 Zo) (Jb d5 j1));have r0:IntKind.i64.wrap ((d:Int)+1-1)=(d:Int):=by rw[Om _ Zo];omega
     clear d5 j1 l3 g8 c5 f5 k6;go_upto_region 17 with(go_at_call 61;go_must (refine a7.out.1.mono ?_;rintro e w7 ⟨rfl,h9⟩))
     obtain⟨M7,g9⟩:∃M7,zp K.E d M6=M7:=⟨_,rfl⟩
     rw[g9] at h9;have n2:=Ja g9;clear g9
     go_cut [65] (fun v wx=>∃bb:Bool,v=.bool bb/\(bb=true↔(tkV K.E M7 12=11/\0<i))/\Hid (OpSt W6 K Xi M6 (0+pC d+1) wx M7.tick))
     case first=>
      by_cases ht:tkV K.E M7 12=11
      ·have d7:=Ja (h9.out.takeK 12 11 11 rfl ht Zd Zd (by have:=a7.out.2.2;omega));have HT:=Ja ht;clear ht
       by_cases h0:0<i
       ·have o6:(0:Int)<(i:Int):=Zo;go_wp2_with (go_at_call 59;go_must (refine d7.out.mono ?_;rintro e w8 ⟨rfl,a5⟩))
        go_meet;exact⟨true,rfl,⟨fun _=>⟨HT.out,h0⟩,fun _=>rfl⟩,a5⟩
       ·have o6:¬(0:Int)<(i:Int):=Zo;go_wp2_with (go_at_call 59;go_must (refine d7.out.mono ?_;rintro e w8 ⟨rfl,a5⟩))
        go_meet;exact⟨false,rfl,⟨(fun e=>by cases e),(fun e=>absurd e.2 h0)⟩,a5⟩
      ·have d7:=Ja (h9.out.take 12 Zd Zd (by have:=a7.out.2.2;omega));have HT:=Ja ht;clear ht;go_wp2_with (go_at_call 59;go_must (refine d7.out.mono ?_;rintro e w8 ⟨z,q4,n0,rfl,a5⟩;have tz:((z:Int)==11)=false:=by rw[beq_eq_false_iff_ne];have:=n0.out;have:=HT.out;omega))
       go_meet;exact⟨false,rfl,⟨(fun e=>by cases e),(fun e=>absurd e.1 HT.out)⟩,a5⟩
     case rest=>
     obtain⟨bb,rfl,g7,a5⟩:=hcut;have l7:=Ja g7;clear g7;have i2:=Ja (a5.out.any (by have:=a7.out.2.2;omega))
     go_upto_if 65 with fail
     go_cut [] (fun wx=>Hid (OpSt W6 K Xi M6 (0+pC d+1+4) wx (wM K.E jn i M7)))
     case first=>
      cases bb
      ·go_wp2_with (first|(go_at_call 62;go_must (refine i2.out.mono ?_;rintro e w9 ⟨y,HY,rfl,h8⟩;have p5:=Ja (h8.out.endN 1 0 [⟨(jn:Int),[y]⟩] (Q (w9.heap.size+1) 1 1) (yF _ rfl) (yF _ rfl) (((Below.refl _ _).alloc (Je _) _).alloc Zs _) (pj (w:=w9) (xs:=[y]) (blk:=(jn:Int)) (fun x hx=>by rw[Jo] at hx;subst hx;exact HY.out.1) Zs (vG _ Zo (by have h1:=H5.out.2.2.2.1;have h2:=H5.out.2.2.2.2.1;have h3:=HZ.out.1;unfold MS.sz at *;omega))))))|(go_at_call 63;go_must (refine p5.out.mono ?_;rintro e w10 ⟨rfl,c9⟩)))
       go_meet;refine Ja ?_
       have e1:wM K.E jn i M7=(zJ K.E M7.tick).2.endB ⟨1,0,[⟨(jn:Nat),[(zJ K.E M7.tick).1]⟩]⟩:=by
        unfold wM;rw[if_neg (fun e=>by have:=l7.out.2 e;cases this)]
       rw[e1,HY.out.2];exact c9.out
      ·go_wp2_with (first|(go_at_call 62;go_must (refine i2.out.mono ?_;rintro e w9 ⟨y,HY,rfl,h8⟩))|(go_at_call 63;go_must (refine(h8.out.endB 4 y [] (F) (yF _ rfl) HY.out.1 (fun X _ _=>yE.nil)).mono ?_;rintro e w10 ⟨rfl,c9⟩)))
       go_meet;refine Ja ?_
       have e1:wM K.E jn i M7=(zJ K.E M7.tick).2.endB ⟨4,(zJ K.E M7.tick).1,[]⟩:=by
        unfold wM;rw[if_pos (l7.out.1 (by trivial))]
       rw[e1,HY.out.2];exact c9.out
     case rest=>
     obtain⟨X9,⟨s0,vv9,l9,a2⟩,k0⟩:=hcut.out.made;obtain⟨va9,vc9,l8⟩:=zG a2.vown;subst l8;have c7:=a2.c7;have f7:=a2.free 7;have q7:=lt_of_block a2.blk
     have c2:M3.vals.length<=(wM K.E jn i M7).vals.length:=by
      have h1:=dO hcut.out.gr.pre;rw[<-a7.out.2.1] at h1;have h2:({Mi with cur:=ti }:MS).vals=Mi.vals:=rfl;rw[h2,a0.out.vals] at h1;exact h1
     have q9:M3.vals.length<=vc9:=Jn c2 (zm a2.vown).1;have q3:vc9<=9223372036854775807:=by have:=(zm a2.vown).2;omega
     have k9:=a2.cut c2;have i1:=Ja (Jb k9 k0);clear a2 c2 k9 k0 hcut;go_wp2;go_roundw
     case rel=>
      have hq:=a0.out.next (w2:=wc.setCell ⟨K.pm,7,none⟩ (.slice va9 M3.vals.length vc9)) a1 m.out.1 (by have h1:=H5.out.2.2.2.1;have h2:=H2.out.2.2.2.2.2.1;omega) ⟨X9,?_,(m.out.2.1.2.trans i1.out.2).trans i1.out.1.2⟩
      ·exact⟨i+1,_,a1,by go_num,Ja hq⟩
      ·rw[p1.out,a7.out.2.1,n2.out];exact i1.out.1.1.at
     case measure=>have:=a1;simp[intOf];omega
    ·obtain rfl:i=j:=by omega
     have b0:¬(i:Int)<(i:Int):=Zo;have a9:=a0.out.rest;rw[show i-i=0 by omega] at a9
     have m4:∃b,Mi.f[jn]? =some b/\b.params=[(M2.next:Int)]:=by
      have a6:=H2.out.2.2.2.2.2.2.1;have r4:=H2.out.2.2.2.2.2.1
      have h0:(M2.block 1).f[jn]? =some (wJ M2.next 1):=by
       show(M2.f++ [wJ M2.next 1])[jn]? =_
       rw[Nc Zo,show jn-M2.f.length=0 by omega];rfl
      obtain⟨b1,h1,h2⟩:=(zv (M2.block 1) ⟨kd,x,xk tg i⟩).par _ _ h0;rw[H5.out.2.2.1] at h1;obtain⟨b2,h3,h4⟩:=a0.out.gr.par _ _ h1;exact⟨b2,h3,h4.trans (h2.trans rfl)⟩
     obtain⟨bj,g6,l0⟩:=m4;have b6:=q.goto jn;have c5:=q.c5;have f5:=q.free 5;have f0:=lt_of_block q.blk;have r3:jn<l.length:=by rw[q.len];exact(Jh.1 g6).1
     have o3:=q.flen;rw[<-q.len] at o3;have m:=Ja (Jb b3 (Jb b6 (Jb g6 (Jb l0 a9))));clear q b3 b6 g6 l0 a9;go_upto_region 22 with fail;generalize g8:wr.setCell ⟨K.pm,5,none⟩ (O jn)=W6 at *;obtain⟨g,c,pa,pc,k5,r5,o4,f1⟩:=m.out.2.1.1.parAt (i:=jn) m.out.2.2.1;have h0:=f1 0 (M2.next:Int) (by rw[m.out.2.2.2.1];rfl);obtain⟨bb,o,n9,g7,i8,h64⟩:=h0;rw[Uk] at i8;rw[m.out.2.2.2.1] at o4;obtain⟨va,vc,e5⟩:=zG m.out.2.1.1.vown;have r:=m.out.2.1.1.vown;have c4:=m.out.2.1.1.c4;have c7:=m.out.2.1.1.c7;have f7:=m.out.2.1.1.free 7;have j0:=lt_of_block m.out.2.1.1.blk;have nb:=zC r m.out.2.1.1.blk (.inr Zd);rw[e5] at r c7 nb;rw[k5] at c4;subst n9;have n1:=Ja r;have p0:=Ja e5;have q2:=Ja h64
     have r1:Mi.vals.length<=999999:=by
      have h1:=a0.out.vals;have h2:=H5.out.2.2.2.2.1;have h3:=HZ.out.1;have h4:M3.vals.length<=M3.sz:=by unfold MS.sz;omega
      have h5:pC d≥101:=by cases d<;>unfold pC<;>omega
      rw[h1];omega
     have o9:∀o,T (W6.alloc o) K.pm 7 (.slice va Mi.vals.length vc):=fun o=>(Oo (w:=W6) (Below.heap_alloc _ _ _ j0)).trans c7
     have o8:∀o,N (W6.alloc o) K.pm 7:=fun o=>(Qm (w:=W6) (Below.heap_alloc _ _ _ j0)).trans f7
     have r6:K.B<=W6.heap.size:=m.out.2.1.1.size;obtain⟨ij,g1,c0,b9,b8⟩:=info_parts Try.info_int;have HP:=Ja f1;clear r e5 h64 f1 k5 b0 c5 f5 f0 g8
     go_region_law (first|(refine step_append_lies _ (by rfl) (.tmp 97) (.tmp 109) _ (by rfl) K.B 3 ij (O 0) 1 8 Try.underlying22 g1 c0 b9 b8 rfl Zo (.slice va Mi.vals.length vc) Mi.vals.length (Mi.vals.map zN) (by rfl) ((n1.out.alloc _).drew) ⟨W6.heap.size,0,none⟩ 1 1 [O (M2.next:Int)] (by rfl) (by rfl) (Oi (cs:=#[O (M2.next:Int)]) (t:=3) (fr:=(0,0)) (heap_alloc_new W6 _)) (by simp[Value.oneCell']) Zo (by unfold maxLen;omega) Zo Zt (W6.heap.size+1) Zs ?_;intro gg m7 w3 i3 u d4 q8;have s2:=(u.cell_far ⟨K.pm,7,none⟩ Zt (Ne.symm nb)).trans (o9 _);have s1:=(u.frozen_far ⟨K.pm,7,none⟩ Zt (Ne.symm nb)).trans (o8 _)))
     all_goals go_wp2_with fail
     all_goals (first|go_end0|refine bodyPost_ret (results_none rfl _ _ _) rfl ?_)
     all_goals (
      have a3:=xN u;rw[<-p0.out] at a3 d4
      have hP:=m.out.2.1.1.putV (vv':=Q gg (Mi.vals.length+1) m7) (x:=(M2.next:Int)) a3 i3 (fun k e=>by
       have e2:gg=k:=by simpa[Value.ownBlock] using e
       subst e2;rcases d4 with e3|e3
       ·exact .inl e3
       ·right;omega) q2.out (by
       have h1:=a0.out.gr.sz;have h2:=H5.out.2.2.2.2.1;have h3:=H5.out.2.2.2.2.2;have h4:=HZ.out.1
       show Mi.sz+1<=1000000
       omega)
      refine⟨rfl,_,?_,(H5.out.1.trans m.out.1).trans (m.out.2.1.2.trans hP.2)⟩
      have e:xi K.E (zp K.E d) i M= {Mi with cur:=jn,vals:=Mi.vals++ [(M2.next:Int)]}:=by
       unfold xi;simp only;rw[H1.out.2.2,HX.out.2,H2.out.2.2.2.1,H2.out.2.2.2.2.1,H2.out.2.2.2.2.2.1,d8.out.1,H5.out.2.2.1,m.out.2.2.2.2];have e0:Mi.f.getD jn ⟨[],[],⟨0,0,[]⟩⟩=bj:=by rw[Jj,m.out.2.2.1];rfl
       show({Mi with cur:=jn,vals:=Mi.vals++ [((Mi.f.getD jn ⟨[],[],⟨0,0,[]⟩⟩).params).getD 0 0]}:MS)=_
       rw[e0,m.out.2.2.2.1];rfl
      rw[e]
      exact hP.1.at)
theorem iQ {α:Type}{x a b:α}(h:x∈ [a,b]):x=a∨x=b:=by simpa using h
theorem jq {a b:Int}(c:I64 a)(hb:I64 b):∀x∈ [a,b],I64 x:=fun x h=>by
 rcases iQ h with rfl|rfl
 ·exact c
 ·exact hb
theorem lit_two{x y:Int}(d:I64 x)(c:I64 y)(X:Nat->Prop)(g:∀k,X k->k<w.heap.size):
 vT (w.alloc (A #[O x,F,O y,F] 75)) X (Q w.heap.size 2 2) [⟨x,[]⟩,⟨y,[]⟩]:=by
 refine qt (l:=[((⟨x,[]⟩:IEdge),F),((⟨y,[]⟩:IEdge),F)]) (e:=75) (zI Zs) (fun e=>by have:=g _ e;omega) (fun q hq=>?_) Zs;rcases iQ hq with rfl|rfl
 ·exact⟨d,yE.nil⟩
 ·exact⟨c,yE.nil⟩
theorem OpSt.goto(h:OpSt w0 K X0 M0 c w M)(k:Nat)(hk:k<M.f.length):OpSt w0 K X0 M0 c (w.setCell ⟨K.pm,5,none⟩ (O k)) {M with cur:=k }:=by
 obtain⟨X,⟨fv,vv,l,hi⟩,hs⟩:=h.made;exact⟨⟨X,(hi.goto k).1.at,hs.trans (hi.goto k).2⟩,h.gr.trans (vk M k hk),hk⟩
theorem OpSt.facts(h:OpSt w0 K X0 M0 c w M):∃X fv vv l,MkIn w K X M fv vv l/\Stp X0 w0 X w:=by
 obtain⟨X,⟨fv,vv,l,hi⟩,hs⟩:=h.made;exact⟨X,fv,vv,l,hi,hs⟩
theorem OpSt.push(h:OpSt w0 K X0 M0 c w M)(x:Int)(d:∃X',wW w' K X' {M with vals:=M.vals++ [x]}/\Stp X0 w0 X' w'):OpSt w0 K X0 M0 (c+1) w' {M with vals:=M.vals++ [x]}:=by
 refine⟨d,h.gr.trans ⟨Je _,?_,Je _,Je _,Qb _ _,fun e=>e,Og _,fun e=>e,xU.refl _⟩,h.cur⟩;unfold MS.sz;simp only[Jk,Ju];omega
theorem loop_any(hd:d<=5)(hP:sU d)(h:wW w K X M)(g0:M.cur<M.f.length)(hz:M.sz+(24+pC d)<=1000000):
 G 93 #[I K.pm,O ((d:Int)+1)] w (yk K X w (tH K.E (zp K.E d) M) (.tuple #[])):=by
 have HA:=Ja (OpSt.start h g0);have q:=Ja (Jb hz hP);clear h g0 hz hP;go_enter Try.func93,Try.ntmps93;go_upto_region 1 with(first|(go_at_call 59;go_must (refine(HA.out.take 5 Zd Zd (by have:=q.out.1;omega)).mono ?_;rintro e w1 ⟨z,qz,Hz,rfl,i2⟩))|(go_at_call 94;go_must (refine(i2.out.num z Zo (by have:=q.out.1;omega)).mono ?_;rintro e w2 ⟨rfl,h9⟩)))
 generalize f4:((M.tick.next:Nat):Int)=n0 at *;have f1:I64 n0:=by rw[<-f4];exact i2.out.n64
 have HN:=Ja (Jb f4 (Jb f1 Hz.out));obtain⟨MA,g3⟩:∃MA,M.tick.num z=MA:=⟨_,rfl⟩
 rw[g3] at h9;have p5:=Ja g3;clear g3 f4 f1 i2 HA;go_upto_region 2 with(go_at_call 62;go_must (refine(h9.out.any (by have:=q.out.1;omega)).mono ?_;rintro e w3 ⟨x,HX,rfl,b4⟩))
 obtain⟨MB,g2⟩:∃MB,(zJ K.E MA).2=MB:=⟨_,rfl⟩
 rw[g2] at b4;obtain⟨tg,b8⟩:∃tg,MB.f.length=tg:=⟨_,rfl⟩
 obtain⟨b1,l2⟩:∃b1,tg+1=b1:=⟨_,rfl⟩
 obtain⟨b2,l1⟩:∃b2,tg+2=b2:=⟨_,rfl⟩
 have g8:=b4.out.block 2 (by have:=q.out.1;omega);rw[b8] at g8;have j1:=b4.out.flen;rw[b8] at j1;have n6:=Ja g8;have l:=Ja (Jb g2 (Jb b8 (Jb l2 l1)));clear g8 g2 b8 l2 l1 h9;go_upto_region 3 with(go_at_call 60;go_must (refine n6.out.mono ?_;rintro e w4 ⟨rfl,a2⟩))
 have d6:=a2.out.block 0 (by have:=q.out.1;omega);rw[yz,l.out.2.1,l.out.2.2.1] at d6;have n5:=Ja d6;clear d6 n6;go_upto_region 4 with(go_at_call 60;go_must (refine n5.out.mono ?_;rintro e w5 ⟨rfl,m2⟩))
 have g7:=m2.out.block 0 (by have:=q.out.1;omega);rw[yz,yz,l.out.2.1,show tg+1+1=tg+2 from rfl,l.out.2.2.2] at g7;have m7:=Ja g7;clear g7 n5;go_upto_region 5 with(go_at_call 60;go_must (refine m7.out.mono ?_;rintro e w6 ⟨rfl,m1⟩))
 have m6:=Ja (m1.out.endN 1 0 [⟨(tg:Int),[n0,x]⟩] (Q (w6.heap.size+1) 1 1) (yF _ rfl) (yF _ rfl) (((Below.refl _ _).alloc (Je _) _).alloc Zs _) (pj (w:=w6) (xs:=[n0,x]) (blk:=(tg:Int)) (jq HN.out.2.1 HX.out.1) Zs (vG _ Zo Zo)));clear m7;go_upto_region 6 with(go_at_call 63;go_must (refine m6.out.mono ?_;rintro e w7 ⟨rfl,h8⟩))
 obtain⟨M2,b3⟩:∃M2,(((MB.block 2).block 0).block 0).endB ⟨1,0,[⟨(tg:Int),[n0,x]⟩]⟩=M2:=⟨_,rfl⟩
 rw[b3] at h8;have a6:M2.f.length=tg+3:=by rw[<-b3,(zv _ _).len,yz,yz,yz,l.out.2.1]
 have e9:∃b,M2.f[tg]? =some b/\b.params=[((MB.next:Nat):Int),((MB.next+1:Nat):Int)]:=by
  have h0:(MB.block 2).f[tg]? =some (wJ MB.next 2):=by
   show(MB.f++ [wJ MB.next 2])[tg]? =_
   rw[Nc (by have:=l.out.2.1;omega),l.out.2.1,Qy];rfl
  obtain⟨c1,k1,k2⟩:=(xM (MB.block 2) 0).par _ _ h0;obtain⟨c2,k3,k4⟩:=(xM ((MB.block 2).block 0) 0).par _ _ k1;obtain⟨c3,k5,k6⟩:=(zv (((MB.block 2).block 0).block 0) ⟨1,0,[⟨(tg:Int),[n0,x]⟩]⟩).par _ _ k3;rw[b3] at k5;exact⟨c3,k5,k6.trans (k4.trans (k2.trans rfl))⟩
 obtain⟨X7,r6,vv7,l7,c9,p1⟩:=h8.out.facts;have q2:=lt_of_block c9.blk;have c5:=c9.c5;have f5:=c9.free 5;have r:=h8.out.goto tg (by rw[a6];omega);have o3:=b4.out.next;have d1:=b4.out.n64;have d0:I64 ((MB.next+1:Nat):Int):=vG _ Zo (by have:=a2.out.next;show((MB.next+1:Nat):Int)<=1000000;have e:(MB.block 2).next=MB.next+2:=rfl;rw[e] at this;omega);have H2:=Ja (Jb b3 (Jb a6 (Jb r (Jb e9 (Jb d1 d0)))));clear b3 a6 e9 c9 p1 r o3 d1 d0 m6 a2 m2 m1;go_upto_region 7 with fail;generalize r3:w7.setCell ⟨K.pm,5,none⟩ (O tg)=W8 at *;obtain⟨M3,d5⟩:∃M3:MS,{M2 with cur:=tg }=M3:=⟨_,rfl⟩
 have H3:=H2.out.2.2.1;rw[d5] at H3;obtain⟨bk,g1,l0⟩:=H2.out.2.2.2.1;obtain⟨X8,r5,vv8,l8,j,j2⟩:=H3.facts;have f9:M3.f=M2.f:=by rw[<-d5]
 obtain⟨g,c,pa,pc,k7,r1,k9,b9⟩:=j.parAt (i:=tg) (b:=bk) (by rw[f9];exact g1);rw[l0] at k9 b9;obtain⟨bb,o,j3,r2,u,_⟩:=b9 0 _ rfl;obtain⟨bb2,o2,f0,_,b0,_⟩:=b9 1 _ rfl;rw[j3] at f0;cases f0;rw[Uk] at u;obtain⟨va,vc,e4⟩:=zG j.vown;have a5:=j.vown;have c4:=j.c4;have c7:=j.c7;have f7:=j.free 7;have e0:=lt_of_block j.blk;have r0:tg<l8.length:=by rw[j.len,f9];exact(Jh.1 g1).1
 have p2:=j.flen;rw[<-j.len] at p2;have nb:=zC a5 j.blk (.inr Zd);rw[e4] at a5 c7 nb;rw[k7] at c4;subst j3;generalize f3:((MB.next:Nat):Int)=n1 at u;generalize f2:((MB.next+1:Nat):Int)=n2 at b0;have o5:=Ja a5;have p4:=Ja e4
 have q8:M3.vals.length<=999999:=by
  have h1:=j.bnd;have h2:M3.vals.length<=M3.sz:=by unfold MS.sz;omega
  have h3:=H3.gr.sz;have h4:=q.out.1;omega
 have l5:∀o,T (W8.alloc o) K.pm 7 (.slice va M3.vals.length vc):=fun o=>(Oo (w:=W8) (Below.heap_alloc _ _ _ e0)).trans c7
 have l4:∀o,N (W8.alloc o) K.pm 7:=fun o=>(Qm (w:=W8) (Below.heap_alloc _ _ _ e0)).trans f7
 have d6:K.B<=W8.heap.size:=j.size;obtain⟨ij,p3,n9,n8,n7⟩:=info_parts Try.info_int;have e5:I64 n2:=by rw[<-f2];exact H2.out.2.2.2.2.2
 have b7:I64 n1:=by rw[<-f3];exact H2.out.2.2.2.2.1
 have HP:=Ja (Jb d5 (Jb H3 (Jb j (Jb j2 (Jb f3 (Jb f2 (Jb b7 e5)))))));clear a5 e4 b9 k7 d5 H3 j j2 f3 f2 e5 b7 g1 l0 f9;go_upto_region 8 with fail
 go_cut [] (fun wx=>Hid (OpSt w K X M (1+3+4+(1+2)+(1+0)+(1+0)+1) wx {M3 with vals:=M3.vals++ [n2]}))
 case first=>
  go_region_law (first|(refine step_append_lies _ (by rfl) (.tmp 54) (.tmp 66) _ (by rfl) K.B 3 ij (O 0) 1 8 Try.underlying22 p3 n9 n8 n7 rfl Zo (.slice va M3.vals.length vc) M3.vals.length (M3.vals.map zN) (by rfl) ((o5.out.alloc _).drew) ⟨W8.heap.size,0,none⟩ 1 1 [O n2] (by rfl) (by rfl) (Oi (cs:=#[O n2]) (t:=3) (fr:=(0,0)) (heap_alloc_new W8 _)) (by simp[Value.oneCell']) Zo (by unfold maxLen;omega) Zo Zt (W8.heap.size+1) Zs ?_;intro gg o4 w3 j0 a7 l3 q3;have s1:=(a7.cell_far ⟨K.pm,7,none⟩ Zt (Ne.symm nb)).trans (l5 _);have s0:=(a7.frozen_far ⟨K.pm,7,none⟩ Zt (Ne.symm nb)).trans (l4 _)))
  all_goals go_wp2_with fail
  all_goals go_meet
  all_goals (
   have k0:=xN a7;rw[<-p4.out] at k0 l3
   have hP:=HP.out.2.2.1.putV (vv':=Q gg (M3.vals.length+1) o4) (x:=n2) k0 j0 (fun k e=>by
    have e2:gg=k:=by simpa[Value.ownBlock] using e
    subst e2;rcases l3 with e3|e3
    ·exact .inl e3
    ·right;omega) HP.out.2.2.2.2.2.2.2 (by
    have h3:=HP.out.2.1.gr.sz;have h4:=q.out.1
    omega)
   exact Ja (HP.out.2.1.push n2 ⟨_,hP.1.at,HP.out.2.2.2.1.trans hP.2⟩))
 case rest=>
 obtain⟨M4,d4⟩:∃M4:MS,{M3 with vals:=M3.vals++ [n2]}=M4:=⟨_,rfl⟩
 rw[d4] at hcut;have c8:M4.f.length=tg+3:=by rw[<-d4,<-HP.out.1];exact H2.out.2.1
 have b5:I64 (b1:Int)/\I64 (b2:Int):=by
  have h1:=l.out.2.2.1;have h2:=l.out.2.2.2;exact⟨vG _ Zo (by have:=hcut.out.flen;omega),vG _ Zo (by have:=hcut.out.flen;omega)⟩
 have m5:=Ja (hcut.out.endN 2 n1 [⟨(b1:Int),[]⟩,⟨(b2:Int),[]⟩] (Q wc.heap.size 2 2) (yF _ rfl) HP.out.2.2.2.2.2.2.1 ((Below.refl _ _).alloc (Je _) _) (lit_two b5.1 b5.2));have a2:=Ja (Jb d4 c8);clear d4 c8 b5 c4 c7 f7 l5 l4 nb e0 u b0 k9;go_upto_region 10 with(go_at_call 63;go_must (refine m5.out.mono ?_;rintro e w9 ⟨rfl,h7⟩))
 obtain⟨M5,d3⟩:∃M5,M4.endB ⟨2,n1,[⟨(b1:Int),[]⟩,⟨(b2:Int),[]⟩]⟩=M5:=⟨_,rfl⟩
 rw[d3] at h7;have c0:M5.f.length=tg+3:=by rw[<-d3,(zv _ _).len];exact a2.out.2
 obtain⟨X9,r4,vv9,l9,a0,p0⟩:=h7.out.facts;obtain⟨va9,vc9,e1⟩:=zG a0.vown;have c7:=a0.c7;rw[e1] at c7;have o0:=lt_of_block a0.blk;have c5:=a0.c5;have f5:=a0.free 5;have r:=h7.out.goto b1 (by have:=l.out.2.2.1;omega);have H5:=Ja (Jb d3 (Jb c0 r));clear d3 c0 a0 p0 e1 r m5;go_upto_region 12 with fail;generalize o1:w9.setCell ⟨K.pm,5,none⟩ (O b1)=W10 at *;obtain⟨M6,g6⟩:∃M6:MS,{M5 with cur:=b1 }=M6:=⟨_,rfl⟩
 have h5:=H5.out.2.2;rw[g6] at h5;have g9:=Ja (Jb (h5.part q.out.2 (by have:=q.out.1;omega)) g6);have o9:IntKind.i64.wrap ((d:Int)+1-1)=(d:Int):=by rw[Om _ Zo];omega
 clear g6 h5 o1 c5 f5 c7 o0;go_upto_region 13 with(go_at_call 61;go_must (refine g9.out.1.mono ?_;rintro e w11 ⟨rfl,a9⟩))
 clear o9;obtain⟨M7,g5⟩:∃M7,zp K.E d M6=M7:=⟨_,rfl⟩
 rw[g5] at a9;have h6:=Ja (a9.out.num 1 Zo (by have:=q.out.1;omega));have h64:=a9.out.n64;generalize j5:((M7.next:Nat):Int)=n3 at h6 h64;have d8:=Ja (Jb g5 (Jb j5 h64));clear g5 j5 h64;go_upto_region 14 with(go_at_call 94;go_must (refine h6.out.mono ?_;rintro e w12 ⟨rfl,b6⟩))
 have a3:=b6.out.emit 6 n1 n3 0 (yF _ rfl) HP.out.2.2.2.2.2.2.1 d8.out.2.2 Zo (by have:=q.out.1;omega);have e6:sB (M7.num 1) 6=((M7.next+1:Nat):Int):=rfl;rw[e6] at a3;have d7:=b6.out.n64;have e7:(M7.num 1).next=M7.next+1:=rfl;rw[e7] at d7;generalize j4:((M7.next+1:Nat):Int)=n4 at a3 d7;have a3:=Ja a3;have m4:=Ja (Jb j4 d7);clear j4 d7 e6 e7 h6 a9;go_upto_region 15 with(go_at_call 117;go_must (refine a3.out.mono ?_;rintro e w13 ⟨rfl,i1⟩))
 obtain⟨M8,g4⟩:∃M8,(M7.num 1).emit ⟨6,0,n1,n3,0,[]⟩=M8:=⟨_,rfl⟩
 rw[g4] at i1;have m3:=Ja g4;clear g4 a3 b6;have o8:=Ja (i1.out.any (by have:=q.out.1;omega));go_upto_region 16 with(first|(go_at_call 62;go_must (refine o8.out.mono ?_;rintro e w14 ⟨y,HY,rfl,o6⟩;have q0:=Ja (o6.out.endN 1 0 [⟨(tg:Int),[n4,y]⟩] (Q (w14.heap.size+1) 1 1) (yF _ rfl) (yF _ rfl) (((Below.refl _ _).alloc (Je _) _).alloc Zs _) (pj (w:=w14) (xs:=[n4,y]) (blk:=(tg:Int)) (jq m4.out.2 HY.out.1) Zs (vG _ Zo Zo)))))|(go_at_call 63;go_must (refine q0.out.mono ?_;rintro e w15 ⟨rfl,i0⟩)))
 obtain⟨M9,d2⟩:∃M9,(zJ K.E M8).2.endB ⟨1,0,[⟨(tg:Int),[n4,y]⟩]⟩=M9:=⟨_,rfl⟩
 rw[d2] at i0;obtain⟨X15,q6,vv15,q7,m,e8⟩:=i0.out.facts;obtain⟨va15,vc15,i3⟩:=zG m.vown;subst i3;have c7:=m.c7;have f7:=m.free 7;have i8:=lt_of_block m.blk
 have f8:GrowP (0+pC d+3+3+4) M5 M9:=by
  have hE:=m.at.alt;have h1:=(vk M5 b1 (by have h1:=l.out.2.2.1;have h2:=H5.out.2.1;omega))
  rw[g9.out.2] at h1;have h2:=h1.trans (xw K.E hE d M6);rw[d8.out.1] at h2;have h3:=(h2.trans (wT M7 1).p).trans (yB (M7.num 1) ⟨6,0,n1,n3,0,[]⟩).p;rw[m3.out] at h3;have h4:=(h3.trans (yU K.E M8).p).trans (zv (zJ K.E M8).2 ⟨1,0,[⟨(tg:Int),[n4,y]⟩]⟩).p;rw[d2] at h4;exact h4
 have f6:M5.vals.length<=M9.vals.length:=dO f8.pre;have q9:M5.vals.length<=vc15:=Jn f6 (zm m.vown).1;have q4:vc15<=9223372036854775807:=by have:=(zm m.vown).2;omega
 have a1:=m.cut f6;have c5:=a1.1.c5;have f5:=a1.1.free 5;have r:=a1.1.goto b2;have a4:=Ja (Jb a1.1 (Jb a1.2 (Jb r (Jb e8 (Jb d2 f8)))));clear m f6 a1 e8 d2 f8 r;go_upto_region 17 with fail;generalize q5:w15.setCell ⟨K.pm,7,none⟩ (.slice va15 M5.vals.length vc15)=W16 at *;have q1:=lt_of_block a4.out.1.blk;clear c7 f7 i8;go_wp2
 first|go_end0|refine bodyPost_ret (results_none rfl _ _ _) rfl ?_
 refine⟨rfl,X15,?_,(a4.out.2.2.2.1.trans a4.out.2.1).trans a4.out.2.2.1.2⟩
 have e:tH K.E (zp K.E d) M= {M9 with vals:=M9.vals.take M5.vals.length,cur:=b2 }:=by
  unfold tH;simp only;have k1:((M.next:Nat):Int)=n0:=HN.out.1;have k4:({M2 with cur:=tg,vals:=M2.vals++ [n2]}:MS)=M4:=by rw[<-a2.out.1,<-HP.out.1]
  rw[HN.out.2.2,p5.out,HX.out.2,l.out.1,l.out.2.1,k1,H2.out.1,HP.out.2.2.2.2.2.1,k4,HP.out.2.2.2.2.1,l.out.2.2.1,l.out.2.2.2,H5.out.1,g9.out.2,d8.out.1,d8.out.2.1,m4.out.1,m3.out,HY.out.2,a4.out.2.2.2.2.1]
 rw[e];exact a4.out.2.2.1.1.at
theorem OpSt.op(h:OpSt w0 K X0 M0 c w M)(i:M0.sz+(c+20)<=1000000):
 G 91 #[I K.pm] w fun e w'=>e=.returned (.tuple #[])/\Hid (OpSt w0 K X0 M0 (c+20) w' (xK K.E M)):=by
 obtain⟨X,hm,hs⟩:=h.made;refine(op_any hm h.cur (by have:=h.gr.sz;omega)).mono ?_;rintro e w' ⟨rfl,X',g,d⟩;have hg:=pX K.E hm.alt M;exact⟨rfl,Ja ⟨⟨X',g,hs.trans d⟩,h.gr.trans hg.p,by rw[hg.cur,hg.len];exact h.cur⟩⟩
theorem OpSt.mono{c':Nat}(h:OpSt w0 K X0 M0 c w M)(d:c<=c'):OpSt w0 K X0 M0 c' w M:=⟨h.made,h.gr.mono d,h.cur⟩
theorem sU.of(h:∀(w:World) (K:MKC) (X:Nat->Prop) (M:MS),OpSt w K X M 0 w M->M.sz+pC d<=1000000->G 61 #[I K.pm,O d] w (yk K X w (zp K.E d M) (.tuple #[]))):sU d:=
 fun w K X M hm hc hz=>h w K X M (OpSt.start hm hc) hz
theorem OpSt.choice(h:OpSt w0 K X0 M0 c w M)(m:d<=5)(o:sU d)(n:Nat)(nI:Int)(j:(n:Int)=nI)(k:2<=n)(g:n<=4)(q:M0.sz+(c+(31+4*pC d))<=1000000):
 G 92 #[I K.pm,O ((d:Int)+1),O nI] w fun e w'=>e=.returned (.tuple #[])/\Hid (OpSt w0 K X0 M0 (c+(31+4*pC d)) w' (xi K.E (zp K.E d) n M)):=by
 obtain⟨X,hm,hs⟩:=h.made;rw[<-j];refine(lH m o hm h.cur k g (by have:=h.gr.sz;omega)).mono ?_;rintro e w' ⟨rfl,X',l,i⟩;have hg:=uU K.E _ _ (xw K.E hm.alt d) n g M;exact⟨rfl,Ja ⟨⟨X',l,hs.trans i⟩,h.gr.trans hg,hg.cur h.cur⟩⟩
theorem OpSt.loop(h:OpSt w0 K X0 M0 c w M)(j:d<=5)(k:sU d)(l:M0.sz+(c+(24+pC d))<=1000000):
 G 93 #[I K.pm,O ((d:Int)+1)] w fun e w'=>e=.returned (.tuple #[])/\Hid (OpSt w0 K X0 M0 (c+(24+pC d)) w' (tH K.E (zp K.E d) M)):=by
 obtain⟨X,hm,hs⟩:=h.made;refine(loop_any j k hm h.cur (by have:=h.gr.sz;omega)).mono ?_;rintro e w' ⟨rfl,X',i,g⟩;have hg:=qg K.E _ _ (xw K.E hm.alt d) M;exact⟨rfl,Ja ⟨⟨X',i,hs.trans g⟩,h.gr.trans hg,hg.cur h.cur⟩⟩
theorem OpSt.counted(h:OpSt w0 K X0 M0 c w M)(hp:M0.pos<M.pos)(hl:M.left=M0.left)(d:6<=M0.left+M0.pos):OpSt w0 K X0 M0 c (w.setCell ⟨K.pm,8,none⟩ (O (M.left-1))) {M with left:=M.left-1 }:=by
 obtain⟨X,⟨fv,vv,l,hi⟩,hs⟩:=h.made;have h1:6<=(M.left-1)+(M.pos:Int):=Zo;have h2:=hi.setC 8 (O (M.left-1)) {M with left:=M.left-1 } vv rfl rfl hi.vown hi.v64 hi.xv hi.bnd ⟨h1,by have:=hi.lft;show M.left-1<=6;omega⟩;have g:=h.gr;exact⟨⟨X,h2.1.at,hs.trans h2.2⟩,⟨g.pos,g.sz,g.len,g.nxt,g.pre,g.cur,by have:=g.left;show M.left-1<=_;omega,fun _=>h1,g.par⟩,h.cur⟩
theorem km:sU 0:=sU.of fun w K X M h hz=>by
 have d:=Ja (Jb h hz);clear h hz
 show G 61 #[I K.pm,O 0] w _
 go_enter Try.func61,Try.ntmps61;go_wp2_with (go_at_call 59;go_must (refine(d.out.1.take 5 Zd Zd (by have:=d.out.2;unfold pC at this;omega)).mono ?_;rintro e w1 ⟨t,ht,o,rfl,m⟩))
 go_loopw [4] (fun kv wx=>∃(kI:Int) (Mj:MS),-1<=kI/\kI<=(t:Int)/\kv=O kI/\Hid (OpSt w K X M (1+20*((t:Int)-kI).toNat) wx Mj/\qY K.E (t+1) M.tick=qY K.E (kI+1).toNat Mj/\Mj.left=M.left/\M.pos<Mj.pos)) (fun kv _=>(intOf kv+1).toNat)
 case atStart=>exact⟨_,_,by omega,by omega,rfl,Ja ⟨m.out.mono Zo,by congr 1,rfl,Nat.lt_succ_self _⟩⟩
 case round=>
  obtain⟨kI,Mj,a1,a0,rfl,c⟩:=hrel
  by_cases h0:0<=kI
  ·have q:=Ja (c.out.1.op (by have:=d.out.2;unfold pC at this;omega));go_wp2_with (go_at_call 91;go_must (refine q.out.mono ?_;rintro e w2 ⟨rfl,k⟩))
   go_roundw
   case rel=>
    have hg:=pX K.E (by obtain⟨X',hm,_⟩:=c.out.1.made;exact hm.alt) Mj;refine⟨kI-1,_,by omega,by omega,rfl,Ja ⟨k.out.mono Zo,?_,hg.left.trans c.out.2.2.1,Jy c.out.2.2.2 hg.pos⟩⟩;rw[c.out.2.1,show(kI+1).toNat=(kI-1+1).toNat+1 by omega];rfl
   case measure=>simp[intOf];omega
  ·obtain rfl:kI=-1:=by omega
   obtain⟨X',fv,vv,l,hi,hs⟩:=c.out.1.facts
   have g:6<=M.left+M.pos:=by
    obtain⟨_,_,_,_,j,_⟩:=d.out.1.facts;exact j.lft.1
   have i:=c.out.1.counted c.out.2.2.2 c.out.2.2.1 g;have c8:=hi.c8;have f8:=hi.free 8;have x:=lt_of_block hi.blk;have y:=hi.lft;have a2:(Mj.pos:Int)<=1000000:=by have:=hi.bnd;unfold MS.sz at this;omega
   have u:IntKind.i64.wrap (Mj.left-1)=Mj.left-1:=Om _ Zo;have r:=Ja i;clear hi hs i g;go_wp2
   first|go_end0|refine bodyPost_ret (results_none rfl _ _ _) rfl ?_
   have e:zp K.E 0 M= {Mj with left:=Mj.left-1 }:=by
    show tR K.E M=_
    unfold tR;simp only;rw[o.out,c.out.2.1];rfl
   rw[e];exact r.out.ret
theorem jB(hd:d<=5)(hP:sU d):sU (d+1):=sU.of fun w K X M h hz=>by
 have a0:pC (d+1)=134+4*pC d:=rfl;rw[a0] at hz;have i:=Ja (Jb h hz);have x:=Ja hP;clear h hz hP a0;have c0:¬((d:Int)+1<1):=Zo;have c2:decide ((d:Int)+1<1)=false:=by rw[decide_eq_false_iff_not];omega
 rw[show((d+1:Nat):Int)=(d:Int)+1 from Int.natCast_succ d];go_enter Try.func61,Try.ntmps61;go_wp2_with (go_at_call 59;go_must (refine(i.out.1.take 5 Zd Zd (by have:=i.out.2;omega)).mono ?_;rintro e w1 ⟨t,ht,HT,rfl,b5⟩))
 go_loopw [4] (fun kv wx=>∃(kI:Int) (Mj:MS),-1<=kI/\kI<=(t:Int)/\kv=O kI/\Hid (OpSt w K X M (1+20*((t:Int)-kI).toNat) wx Mj/\qY K.E (t+1) M.tick=qY K.E (kI+1).toNat Mj/\Mj.left=M.left/\M.pos<Mj.pos)) (fun kv _=>(intOf kv+1).toNat)
 case atStart=>exact⟨_,_,by omega,by omega,rfl,Ja ⟨b5.out.mono Zo,by congr 1,rfl,Nat.lt_succ_self _⟩⟩
 case round=>
  obtain⟨kI,Mj,b9,b8,rfl,m⟩:=hrel
  by_cases h0:0<=kI
  ·have HO:=Ja (m.out.1.op (by have:=i.out.2;omega));go_wp2_with (go_at_call 91;go_must (refine HO.out.mono ?_;rintro e w2 ⟨rfl,b4⟩))
   go_roundw
   case rel=>
    have hg:=pX K.E (by obtain⟨X',hm,_⟩:=m.out.1.made;exact hm.alt) Mj;refine⟨kI-1,_,by omega,by omega,rfl,Ja ⟨b4.out.mono Zo,?_,hg.left.trans m.out.2.2.1,Jy m.out.2.2.2 hg.pos⟩⟩;rw[m.out.2.1,show(kI+1).toNat=(kI-1+1).toNat+1 by omega];rfl
   case measure=>simp[intOf];omega
  ·obtain rfl:kI=-1:=by omega
   obtain⟨X',fv,vv,l,hi,hs⟩:=m.out.1.facts
   have a4:6<=M.left+M.pos:=by
    obtain⟨_,_,_,_,a7,_⟩:=i.out.1.facts;exact a7.lft.1
   have y:=m.out.1.counted m.out.2.2.2 m.out.2.2.1 a4;have c8:=hi.c8;have f8:=hi.free 8;have b7:=lt_of_block hi.blk;have a6:=hi.lft;have a9:(Mj.pos:Int)<=1000000:=by have:=hi.bnd;unfold MS.sz at this;omega
   have a5:IntKind.i64.wrap (Mj.left-1)=Mj.left-1:=Om _ Zo;obtain⟨M2,r⟩:∃M2:MS,{Mj with left:=Mj.left-1 }=M2:=⟨_,rfl⟩
   rw[r] at y
   have e2:tR K.E M=M2:=by
    rw[<-r];unfold tR;simp only;rw[HT.out,m.out.2.1];rfl
   have c3:=World.cell?_setCell_same _ _ (O (Mj.left-1)) c8;have a3:Mj.left-1=M2.left:=by rw[<-r]
   have o:=Ja (Jb (y.mono (show 1+20*((t:Int) - -1).toNat<=101 by omega)) (Jb e2 a3));clear hi hs y a4 r e2 a3;go_upto_region 5 with fail;generalize b0:wr.setCell ⟨K.pm,8,none⟩ (O (Mj.left-1))=W2 at *;generalize hL:Mj.left-1=L at *;clear c8 f8 a5 a6 a9 b0 hL m
   by_cases u:L<1
   ·have b1:decide (L<1)=true:=by rw[decide_eq_true_iff];exact u
    go_wp2
    first|go_end0|refine bodyPost_ret (results_none rfl _ _ _) rfl ?_
    have e:zp K.E (d+1) M=M2:=by
     unfold zp;simp only;rw[o.out.2.1,if_pos (by rw[<-o.out.2.2];exact u)]
    rw[e];exact o.out.1.ret
   ·have b1:decide (L<1)=false:=by rw[decide_eq_false_iff_not];exact u
    have a2:zp K.E (d+1) M=if tkV K.E M2 5=1∨tkV K.E M2 5=2 then xi K.E (zp K.E d) 2 M2.tick else if tkV K.E M2 5=3 then tH K.E (zp K.E d) M2.tick else if tkV K.E M2 5=4 then xi K.E (zp K.E d) (2+tkV K.E M2.tick 3) M2.tick.tick else M2.tick:=by
     conv=>lhs;unfold zp
     simp only;rw[o.out.2.1,if_neg (by rw[<-o.out.2.2];exact u)]
    have q:=Ja a2;clear a2;have a1:=aaE K.E M2 (n:=5) Zo;obtain⟨k,hk⟩:∃k,tkV K.E M2 5=k:=⟨_,rfl⟩
    rw[hk] at a1;have c:=Ja hk;clear hk
    match k,a1,c with
    |0,_,c=>
     go_wp2_with (go_at_call 59;go_must (refine(o.out.1.takeK 5 0 0 rfl c.out Zd Zd (by have:=i.out.2;omega)).mono ?_;rintro e w3 ⟨rfl,g⟩))
     first|go_end0|refine bodyPost_ret (results_none rfl _ _ _) rfl ?_
     rw[q.out,c.out]
     exact g.out.ret
    |1,_,c=>
     go_wp2_with (first|(go_at_call 59;go_must (refine(o.out.1.takeK 5 1 1 rfl c.out Zd Zd (by have:=i.out.2;omega)).mono ?_;rintro e w3 ⟨rfl,g⟩))|(go_at_call 92;go_must (refine(g.out.choice hd x.out 2 2 rfl Zd Zd (by have:=i.out.2;omega)).mono ?_;rintro e w4 ⟨rfl,j⟩)))
     first|go_end0|refine bodyPost_ret (results_none rfl _ _ _) rfl ?_
     rw[q.out,c.out]
     exact j.out.ret
    |2,_,c=>
     go_wp2_with (first|(go_at_call 59;go_must (refine(o.out.1.takeK 5 2 2 rfl c.out Zd Zd (by have:=i.out.2;omega)).mono ?_;rintro e w3 ⟨rfl,g⟩))|(go_at_call 92;go_must (refine(g.out.choice hd x.out 2 2 rfl Zd Zd (by have:=i.out.2;omega)).mono ?_;rintro e w4 ⟨rfl,j⟩)))
     first|go_end0|refine bodyPost_ret (results_none rfl _ _ _) rfl ?_
     rw[q.out,c.out]
     exact j.out.ret
    |3,_,c=>
     go_wp2_with (first|(go_at_call 59;go_must (refine(o.out.1.takeK 5 3 3 rfl c.out Zd Zd (by have:=i.out.2;omega)).mono ?_;rintro e w3 ⟨rfl,g⟩))|(go_at_call 93;go_must (refine(g.out.loop hd x.out (by have:=i.out.2;omega)).mono ?_;rintro e w4 ⟨rfl,j⟩)))
     first|go_end0|refine bodyPost_ret (results_none rfl _ _ _) rfl ?_
     rw[q.out,c.out]
     exact j.out.ret
    |4,_,c=>
     have HG:=Ja o.out.1;go_wp2_with (first|(go_at_call 59;refine(HG.out.takeK 5 4 4 rfl c.out Zd Zd (by have:=i.out.2;omega)).mono ?_;clear HG;rintro e w3 ⟨rfl,g⟩)|(go_at_call 59;refine(g.out.take 3 Zd Zd (by have:=i.out.2;omega)).mono ?_;clear g;rintro e w4 ⟨z,b6,b2,rfl,j⟩)|(go_at_call 92;refine(j.out.choice hd x.out (2+z) (2+(z:Int)) Zo Zo Zo (by have:=i.out.2;omega)).mono ?_;rintro e w5 ⟨rfl,b3⟩))
     first|go_end0|refine bodyPost_ret (results_none rfl _ _ _) rfl ?_
     rw[q.out,c.out,b2.out]
     exact b3.out.ret
    |k+5,h,_=>exact absurd h Zo
theorem pW:∀d,d<=5->sU d
 |0,_=>km
 |d+1,h=>jB Zo (pW d Zo)
structure OfMid (w:World) (f1 r2 g3 tb:Nat) (fv gv:Value) (bt:BT) (l:List BT) (xr:List Row) (wx:World):Prop where
 h1:wx.heap[f1]? =some (.cells #[fv] 43 (0,0))
 h2:wx.heap[r2]? =some (.cells #[.slice none 0 0] 43 (0,0))
 h3:wx.heap[g3]? =some (.cells #[gv] 43 (0,0))
 hb:wx.heap[tb]? =some (.cells (zz bt).toArray 49 (0,0))
 bel:Below f1 w wx
 rows:Rows wx f1 (xr++(bt.rows++(zd gv l::l.flatMap BT.rows)))
 ges:f1<r2/\r2<g3/\g3<tb
 hgt:gv.ownBlock≠some tb
 xe:∀r∈xr,r.e=3
section
variable {w:World} {f1 r2 g3 tb:Nat} {fv gv:Value} {bt:BT} {l:List BT} {xr:List Row} {wx:World} (h:OfMid w f1 r2 g3 tb fv gv bt l xr wx)
include h
theorem OfMid.sz:f1<=wx.heap.size:=Qd (lt_of_block h.h1)
theorem OfMid.below(hb:L wx w'):OfMid w f1 r2 g3 tb fv gv bt l xr w':=
 ⟨zH hb h.h1 (lt_of_block h.h1),zH hb h.h2 (lt_of_block h.h2),zH hb h.h3 (lt_of_block h.h3),zH hb h.hb (lt_of_block h.hb),h.bel.trans (hb.mono h.sz),h.rows.below hb,h.ges,h.hgt,h.xe⟩
theorem OfMid.noTb:∀x∈xr++(bt.rows++(zd gv l::l.flatMap BT.rows)),x.blk≠some tb:=by
 have d:∀(b:BT),∀x∈b.rows,x.e≠49:=fun b x c=>by
  unfold BT.rows at c;rcases Jq.1 c with rfl|c
  ·show 3≠49;decide
  rcases Jq.1 c with rfl|c
  ·show 77≠49;decide
  rcases Jq.1 c with rfl|c
  ·show 75≠49;decide
  rcases Jl.1 c with c|c
  ·obtain⟨q,_,rfl⟩:=Nu.1 c
   show 3≠49;decide
  ·obtain⟨q,_,rfl⟩:=Nu.1 c
   show 3≠49;decide
 intro x c;have ho:=h.rows.own x c;rcases Jl.1 c with c|c
 ·exact zC ho h.hb (.inr (by rw[h.xe x c];decide))
 rcases Jl.1 c with c|c
 ·exact zC ho h.hb (.inr (d bt x c))
 rcases Jq.1 c with rfl|c
 ·exact h.hgt
 ·obtain⟨b,_,hb⟩:=Qx.1 c;exact zC ho h.hb (.inr (d b x hb))
theorem OfMid.grow{r r':Row}{j:List Row}(hp:(xr++(bt.rows++(zd gv l::l.flatMap BT.rows))).Perm (r::rs))(d:L wx w1)(hg:w1.grownBy w' r.blk)
 (o:w'.ownsRow f1 r'.e r'.sz r'.v r'.n r'.cs) (a5:∀k,r'.blk=some k->r.blk=some k∨wx.heap.size<=k) (g:r.e≠43/\r.e≠49) (a4:r'.e≠49) {W:World} (hW:W=w'∨∃i u,W=w'.setCell ⟨tb,i,none⟩ u)
 (a2:∀c:Array Value,Y w' tb c 49->c=(zz bt).toArray->Y W tb (zz bt').toArray 49)
 (hq:(r'::rs).Perm (j++(bt'.rows++(zd gv l::l.flatMap BT.rows)))) (a1:∀r∈j,r.e=3):OfMid w f1 r2 g3 tb fv gv bt' l j W:=by
 have hr:=h.rows.perm hp;have ho:=hr.own r (.head _);have keep:∀ {b:Nat} {cs:Array Value} {t:TypeId},Y wx b cs t->r.e≠t->Y w' b cs t:=fun hb hne=>zL hg (zH d hb (lt_of_block hb)) (zC ho hb (.inr hne))
 have a3:wx.heap.size<=w'.heap.size:=Jn d.size hg.size;have y:Below f1 w w':=h.bel.trans ⟨hg.os.trans d.os,hg.tape.trans d.tape,hg.output.trans d.output,a3,fun k hk=>(hg.block k (by have:=h.sz;have:=d.size;omega) (fun e=>by have:=(ho.lt k e.symm).1;omega)).trans (d.block k (by have:=h.sz;omega))⟩;have q:Rows w' f1 (r'::rs):=hr.grow d hg o a5;have m:=keep h.hb g.2;rcases hW with rfl|⟨i,u,rfl⟩
 ·exact⟨keep h.h1 g.1,keep h.h2 g.1,keep h.h3 g.1,a2 _ m rfl,y,q.perm hq,h.ges,h.hgt,a1⟩
 ·have a6:=h.ges;refine⟨zR (keep h.h1 g.1) (by show f1≠tb;omega),zR (keep h.h2 g.1) (by show r2≠tb;omega),zR (keep h.h3 g.1) (by show g3≠tb;omega),a2 _ m rfl,y.setCell (by show f1<=tb;omega) _,(q.keep fun k hk=>Below.heap_setCell _ _ _ _ (fun e=>?_)).perm hq,h.ges,h.hgt,a1⟩;obtain⟨x,hx,a0⟩:=Nj.1 hk;have e':k=tb:=e;subst e';rcases Jq.1 hx with rfl|hx
  ·exact zC o m (.inr a4) a0
  ·exact h.noTb x (hp.mem_iff.2 (.tail _ hx)) a0
end
section
variable {w:World} {f1 r2 g3 tb:Nat} {fv gv:Value} {bt:BT} {l:List BT} {wx:World}
theorem OfMid.par{d:Value}(h:OfMid w f1 r2 g3 tb fv gv bt l [] wx)(hp:bt.params=[])(i:L wx w1)(hg:w1.grownBy w9 bt.pv.ownBlock)(g:w9.ownsRow f1 3 1 d xs.length (xs.map zN))
 (j:∀k,d.ownBlock=some k->bt.pv.ownBlock=some k∨wx.heap.size<=k):OfMid w f1 r2 g3 tb fv gv {bt with params:=xs,pv:=d } l [] (w9.setCell ⟨tb,0,none⟩ d):=
 h.grow (r:=zP bt.pv bt.params) (r':=zP d xs) (Uq _) i hg g j ⟨by show 3≠_;decide,by show 3≠_;decide⟩ (by show 3≠_;decide) (.inr ⟨0,d,rfl⟩)
  (fun c hc e=>by subst e;rw[zD hc];rfl) (Uq _) (fun r hr=>by simp at hr)
theorem OfMid.arg2{av:Value}(h:OfMid w f1 r2 g3 tb fv gv bt l [] wx)(c:L wx w1)(hg:w1.grownBy w9 none)(o:w9.ownsRow f1 3 1 av xs.length (xs.map zN))(m:∀k,av.ownBlock=some k->w1.heap.size<=k)
 {q:Nat} (hq:wx.heap.size<=q/\q<w1.heap.size) (u:Value):OfMid w f1 r2 g3 tb fv gv bt l [zP av xs] (w9.setCell ⟨q,i,none⟩ u):=by
 have t:L wx (w9.setCell ⟨q,i,none⟩ u):=Below.setCell ⟨hg.os.trans c.os,hg.tape.trans c.tape,hg.output.trans c.output,Jn c.size hg.size,fun k hk=>(hg.block k (Jy hk c.size) (fun e=>by cases e)).trans (c.block k hk)⟩ hq.1 _;have d:=h.below t;have j:(w9.setCell ⟨q,i,none⟩ u).ownsRow f1 3 1 av xs.length (xs.map zN):=yD o (fun k e=>Below.heap_setCell _ _ _ _ (fun e2=>by have:=m k e;have e3:k=q:=e2;omega));exact⟨d.h1,d.h2,d.h3,d.hb,d.bel,d.rows.cons j (fun g e hm=>by have:=m g e;have:=(h.rows.lt hm).2;omega),d.ges,d.hgt,fun r hr=>by rw[Jo] at hr;subst hr;rfl⟩
theorem OfMid.op{d av:Value}(h:OfMid w f1 r2 g3 tb fv gv bt l [zP av o.args] wx)(i:L wx w1)(hg:w1.grownBy w9 bt.ov.ownBlock)
 (g:w9.ownsRow f1 77 6 d (bt.ops.length+1) (bt.ops.flatMap zU++zU (o,av))) (j:∀k,d.ownBlock=some k->bt.ov.ownBlock=some k∨wx.heap.size<=k):
 OfMid w f1 r2 g3 tb fv gv {bt with ops:=bt.ops++ [(o,av)],ov:=d } l [] (w9.setCell ⟨tb,1,none⟩ d):=
 h.grow (r:=yo bt.ov bt.ops) (r':=yo d (bt.ops++ [(o,av)])) (rs:=zP av o.args::zP bt.pv bt.params::xg bt.tv bt.tos::(wI bt.ops++ve bt.tos)++(zd gv l::l.flatMap BT.rows)) (by
  classical
  unfold BT.rows;refine Jp.2 fun r=>?_
  simp only[Nb,Nf,List.count_nil]
  omega) i hg (by
  show w9.ownsRow f1 77 6 d (bt.ops++ [(o,av)]).length ((bt.ops++ [(o,av)]).flatMap zU)
  rw[Jk,Ju,Nx]
  simpa using g) j ⟨by show 77≠_;decide,by show 77≠_;decide⟩ (by show 77≠_;decide) (.inr ⟨1,d,rfl⟩)
  (fun c hc e=>by subst e;rw[zD hc];rfl) (by
   classical
   unfold BT.rows wI;refine Jp.2 fun r=>?_
   simp only[Nb,Nf,List.count_nil,Js,Ql,List.map_nil]
   omega) (fun r hr=>by simp at hr)
theorem OfMid.edge{d av:Value}{o:IEdge}(h:OfMid w f1 r2 g3 tb fv gv bt l [zP av o.args] wx)(i:L wx w1)(hg:w1.grownBy w9 bt.tv.ownBlock)
 (g:w9.ownsRow f1 75 2 d (bt.tos.length+1) (bt.tos.flatMap za++za (o,av))) (j:∀k,d.ownBlock=some k->bt.tv.ownBlock=some k∨wx.heap.size<=k):
 OfMid w f1 r2 g3 tb fv gv {bt with tos:=bt.tos++ [(o,av)],tv:=d } l [] (w9.setCell ⟨tb,4,none⟩ d):=
 h.grow (r:=xg bt.tv bt.tos) (r':=xg d (bt.tos++ [(o,av)])) (rs:=zP av o.args::zP bt.pv bt.params::yo bt.ov bt.ops::(wI bt.ops++ve bt.tos)++(zd gv l::l.flatMap BT.rows)) (by
  classical
  unfold BT.rows;refine Jp.2 fun r=>?_
  simp only[Nb,Nf,List.count_nil]
  omega) i hg (by
  show w9.ownsRow f1 75 2 d (bt.tos++ [(o,av)]).length ((bt.tos++ [(o,av)]).flatMap za)
  rw[Jk,Ju,Nx]
  simpa using g) j ⟨by show 75≠_;decide,by show 75≠_;decide⟩ (by show 75≠_;decide) (.inr ⟨4,d,rfl⟩)
  (fun c hc e=>by subst e;rw[zD hc];rfl) (by
   classical
   unfold BT.rows ve;refine Jp.2 fun r=>?_
   simp only[Nb,Nf,List.count_nil,Js,Ql,List.map_nil]
   omega) (fun r hr=>by simp at hr)
theorem OfMid.set{u:Value}(h:OfMid w f1 r2 g3 tb fv gv bt l [] wx)(g:((zz bt).toArray).setIfInBounds i u=(zz bt').toArray)(hr:bt'.rows=bt.rows):OfMid w f1 r2 g3 tb fv gv bt' l [] (wx.setCell ⟨tb,i,none⟩ u):=by
 have hg:=h.ges;refine⟨zR h.h1 (by show f1≠tb;omega),zR h.h2 (by show r2≠tb;omega),zR h.h3 (by show g3≠tb;omega),by rw[zD h.hb,g],h.bel.setCell (by show f1<=tb;omega) _,?_,h.ges,h.hgt,h.xe⟩;rw[hr];refine h.rows.keep fun k hk=>Below.heap_setCell _ _ _ _ (fun e=>?_)
 obtain⟨x,d,c⟩:=Nj.1 hk;have e':k=tb:=e;subst e';exact h.noTb x d c
end
structure OfTop (w:World) (f1 r2 g3:Nat) (fv gv:Value) (l:List BT) (wx:World):Prop where
 h1:wx.heap[f1]? =some (.cells #[fv] 43 (0,0))
 h2:wx.heap[r2]? =some (.cells #[.slice none 0 0] 43 (0,0))
 h3:wx.heap[g3]? =some (.cells #[gv] 43 (0,0))
 bel:Below f1 w wx
 rows:Rows wx f1 (zd gv l::l.flatMap BT.rows)
 ges:f1<r2/\r2<g3
def bt0:BT:=⟨[],F,[],F,0,0,[],F⟩
theorem OfTop.start{fv:Value}(h:OfTop w f1 r2 g3 fv gv l wx)(d:wx.heap.size=tb):
 OfMid w f1 r2 g3 tb fv gv bt0 l [] (wx.alloc (A #[F,F,O 0,O 0,F] 49)):=by
 have i:L wx (wx.alloc (A #[F,F,O 0,O 0,F] 49)):=(Below.refl _ _).alloc (Je _) _;have hl:=lt_of_block h.h3;have j:=lt_of_block h.h1;have c:∀(e:TypeId) (W:World) (sz:Nat),W.ownsRow f1 e sz (F) 0 []:=fun e W sz=>Jv _ _ _ _
 refine⟨zB h.h1,zB h.h2,zB h.h3,zI d,h.bel.alloc Zo _,?_,⟨h.ges.1,h.ges.2,by omega⟩,fun e=>?_,fun r hr=>by simp at hr⟩
 ·show Rows _ f1 (zP (F) []::yo (F) []::xg (F) []::(zd gv l::l.flatMap BT.rows))
  have hr:=h.rows.below i;exact((hr.cons (c _ _ _) (fun g e=>by simp[Row.blk,xg,Value.ownBlock] at e)).cons (c _ _ _) (fun g e=>by simp[Row.blk,yo,Value.ownBlock] at e)).cons (c _ _ _) (fun g e=>by simp[Row.blk,zP,Value.ownBlock] at e)
 ·have:=((h.rows.own _ (.head _)).lt tb e).2;omega
theorem OfMid.close{fv g:Value}(h:OfMid w f1 r2 g3 tb fv gv bt l [] wx)(d:L wx w1)(hg:w1.grownBy w9 gv.ownBlock)
 (j:w9.ownsRow f1 49 5 g (l.length+1) (l.flatMap zz++zz bt)) (a0:∀k,g.ownBlock=some k->gv.ownBlock=some k∨wx.heap.size<=k):OfTop w f1 r2 g3 fv g (l++ [bt]) (w9.setCell ⟨g3,0,none⟩ g):=by
 have hp:(bt.rows++(zd gv l::l.flatMap BT.rows)).Perm (zd gv l::(bt.rows++l.flatMap BT.rows)):=List.perm_middle;have hr:Rows wx f1 (zd gv l::(bt.rows++l.flatMap BT.rows)):=h.rows.perm hp;have ho:=hr.own _ (.head _);have keep:∀ {b:Nat} {cs:Array Value} {t:TypeId},Y wx b cs t->49≠t->Y w9 b cs t:=fun hb hne=>zL hg (zH d hb (lt_of_block hb)) (zC ho hb (.inr hne))
 have y:wx.heap.size<=w9.heap.size:=Jn d.size hg.size;have o:Below f1 w w9:=h.bel.trans ⟨hg.os.trans d.os,hg.tape.trans d.tape,hg.output.trans d.output,y,fun k hk=>(hg.block k (by have:=h.sz;have:=d.size;omega) (fun e=>by have:=(ho.lt k e.symm).1;omega)).trans (d.block k (by have:=h.sz;omega))⟩
 have m:Rows w9 f1 (zd g (l++ [bt])::(bt.rows++l.flatMap BT.rows)):=hr.grow d hg (by
  show w9.ownsRow f1 49 5 g (l++ [bt]).length ((l++ [bt]).flatMap zz)
  rw[Jk,Ju,Nx]
  simpa using j) a0
 have h3:=keep h.h3 Zd;have a1:=h.ges;refine⟨zR (keep h.h1 Zd) (by show f1≠g3;omega),zR (keep h.h2 Zd) (by show r2≠g3;omega),by rw[zD h3];rfl,o.setCell (by show f1<=g3;omega) _,?_,⟨h.ges.1,h.ges.2.1⟩⟩;have i:Rows w9 f1 (zd g (l++ [bt])::(l++ [bt]).flatMap BT.rows):=m.perm (List.Perm.cons _ (by rw[Nx];simpa using List.perm_append_comm));refine i.keep fun k hk=>Below.heap_setCell _ _ _ _ (fun e=>?_)
 obtain⟨x,c,r⟩:=Nj.1 hk;have e':k=g3:=e;subst e'
 have u:x.e≠43:=by
  rcases Jq.1 c with rfl|c
  ·show 49≠43;decide
  obtain⟨b,_,c⟩:=Qx.1 c;unfold BT.rows at c;rcases Jq.1 c with rfl|c
  ·show 3≠43;decide
  rcases Jq.1 c with rfl|c
  ·show 77≠43;decide
  rcases Jq.1 c with rfl|c
  ·show 75≠43;decide
  rcases Jl.1 c with c|c
  ·obtain⟨q,_,rfl⟩:=Nu.1 c
   show 3≠43;decide
  ·obtain⟨q,_,rfl⟩:=Nu.1 c
   show 3≠43;decide
 exact zC (i.own x c) h3 (.inr u) r
def uE (w:World)(B g i:Nat)(v:Value)(bt:BT)(l:List BT)(rs:List Row)(what n:Nat)(e:Ending)(w':World):Prop:=
 e=.returned (.tuple #[])/\∃bt',SpSt w' B g i v bt' (l.set i bt') rs/\bt'.blk=xh what n bt.blk/\Chg w (zd v l::bt.rows) w'
structure SzB (bt:BT):Prop where
 par:bt.params.length<=2000000
 ops:bt.ops.length<=2000000
 tos:bt.tos.length<=2000000
 oarg:∀o∈bt.ops,o.1.args.length<=2000000
 earg:∀o∈bt.tos,o.1.args.length<=2000000
theorem ws{n:Nat}{av:Value}(g:what<=5)(hk:bt.ops[k]? =some (o,av))(c:n%bt.ops.length=k):({bt with ops:=bt.ops.set k (spO what n o,av)}:BT).blk=xh what n bt.blk:=by
 have d:=(Jh.1 hk).1;unfold xh BT.blk;simp only[Nr];rw[if_pos Zo,if_neg Zo,if_neg Zo,if_neg Zo,c,xI (x:=o) (by rw[Jr,hk];rfl),Ox]
theorem wZ (v:Value)(l:List BT)(bt:BT):yo bt.ov bt.ops∈zd v l::bt.rows:=.tail _ (.tail _ (.head _))
theorem rS (v:Value)(l:List BT)(bt:BT):xg bt.tv bt.tos∈zd v l::bt.rows:=.tail _ (.tail _ (.tail _ (.head _)))
theorem set_same(c:l[i]? =some bt):l.set i bt=l:=by
 apply Oq;intro q;rw[Ov]
 split
 ·rename_i e
  subst e;rw[c,if_pos (Jh.1 c).1]
 ·rfl
theorem wP{B:Nat}{v:Value}{n:Nat}(h:SpSt w B g i v bt l rs)(hs:xh what n bt.blk=bt.blk):uE w B g i v bt l rs what n (.returned (.tuple #[])) w:=
 ⟨rfl,bt,by rw[set_same h.at'];exact h,hs.symm,Chg.refl _ _⟩
section
variable {w:World} {B g i:Nat} {v:Value} {bt:BT} {l:List BT} {rs:List Row} (h:SpSt w B g i v bt l rs)
include h
theorem SpSt.farP(c:bt.pv.ownBlock=some x):x≠g:=by
 have hp:(zd v l::(bt.rows++rs)).Perm (zP bt.pv bt.params::(zd v l::(yo bt.ov bt.ops::xg bt.tv bt.tos::(wI bt.ops++ve bt.tos)++rs))):=List.Perm.swap _ _ _;have h1:=(h.rows.perm hp).apart (g:=x) c;rintro rfl;exact h1 (Nj.2 ⟨zd v l,.head _,h.gb⟩)
theorem SpSt.farO{av:Value}(hk:bt.ops[k]? =some (o,av))(c:av.ownBlock=some x):x≠g/\bt.ov.ownBlock≠some x:=by
 have p1:(wI bt.ops).Perm (zP av o.args::(bt.ops.eraseIdx k).map fun o=>zP o.2 o.1.args):=tT (fun o:IOp×Value=>zP o.2 o.1.args) hk;generalize (bt.ops.eraseIdx k).map (fun o=>zP o.2 o.1.args)=E at p1
 classical
 have c1:=Jp.1 p1
 have hp:(zd v l::(bt.rows++rs)).Perm (zP av o.args::(yo bt.ov bt.ops::(zd v l::zP bt.pv bt.params::xg bt.tv bt.tos::(E++ve bt.tos)++rs))):=by
  unfold BT.rows;refine Jp.2 fun r=>?_
  have:=c1 r;simp only[Nb,Nf] at this ⊢;omega
 have h1:=(h.rows.perm hp).apart (g:=x) c;refine⟨?_,fun e=>h1 (Nj.2 ⟨yo bt.ov bt.ops,.head _,e⟩)⟩;rintro rfl;exact h1 (Nj.2 ⟨zd v l,.tail _ (.head _),h.gb⟩)
theorem SpSt.farE{o:IEdge}{av:Value}(hk:bt.tos[k]? =some (o,av))(c:av.ownBlock=some x):x≠g/\bt.tv.ownBlock≠some x:=by
 have p1:(ve bt.tos).Perm (zP av o.args::(bt.tos.eraseIdx k).map fun o=>zP o.2 o.1.args):=tT (fun o:IEdge×Value=>zP o.2 o.1.args) hk;generalize (bt.tos.eraseIdx k).map (fun o=>zP o.2 o.1.args)=E at p1
 classical
 have c1:=Jp.1 p1
 have hp:(zd v l::(bt.rows++rs)).Perm (zP av o.args::(xg bt.tv bt.tos::(zd v l::zP bt.pv bt.params::yo bt.ov bt.ops::(wI bt.ops++E)++rs))):=by
  unfold BT.rows;refine Jp.2 fun r=>?_
  have:=c1 r;simp only[Nb,Nf] at this ⊢;omega
 have h1:=(h.rows.perm hp).apart (g:=x) c;refine⟨?_,fun e=>h1 (Nj.2 ⟨xg bt.tv bt.tos,.head _,e⟩)⟩;rintro rfl;exact h1 (Nj.2 ⟨zd v l,.tail _ (.head _),h.gb⟩)
end
theorem spoil_0{B:Nat}{v:Value}(h:SpSt w B g i v bt l rs){n:Nat}(hn:n<65536)(hz:SzB bt)(a1:0<bt.ops.length):
 G 45 #[.pointer (some ⟨g,i*5,none⟩),O 0,O n] w (uE w B g i v bt l rs 0 n):=by
 have d:w.ownsRow B 77 6 bt.ov bt.ops.length (bt.ops.flatMap zU):=h.rows.own _ (.tail _ (Jz _ (.tail _ (.head _))));obtain⟨xa,oc,m⟩:=zG d;have c:=d;rw[m] at c;have a4:=(zm c).1;obtain⟨ob,oc2,a3,a6,a5⟩:=c.form a1;cases a3;have u:bt.ov.ownBlock=some ob:=by rw[m];rfl
 obtain⟨k,t⟩:∃k,n%bt.ops.length=k:=⟨_,rfl⟩
 have hk:k<bt.ops.length:=by rw[<-t];exact Qj _ a1
 have a9:(n:Int)%(bt.ops.length:Int)=(k:Int):=by rw[<-t];exact(Ou _ _).symm
 obtain⟨⟨o,av⟩,q⟩:∃x,bt.ops[k]? =some x:=⟨_,Jd hk⟩
 have a2:=wb zX (h.rows.own _ (.head _)) h.gb h.at';have c1:T w g (i*5+1) (Q ob bt.ops.length oc):=by rw[<-m];exact a2 1 _ rfl
 have gl:=((h.rows.own _ (.head _)).lt g h.gb).2;have a0:=wb y7 d u q;have a7:=hz.ops;have oc':T w ob (k*6) _:=a0 0 _ rfl;have of:N w ob (k*6):=(zq Zd y7 d u q 0 Zd).2;have y:=Ja (Jb h (Jb u (Jb q t)));clear h d c m u q t a2 a0 hz a4;go_enter Try.func45,Try.ntmps45;go_wp2
 first|go_end0|refine bodyPost_ret (results_none rfl _ _ _) rfl ?_
 refine⟨rfl,_,y.out.1.setO y.out.2.1 y.out.2.2.1 (j:=0) (o':=spO 0 n o) Zd ?_ rfl,ws Zd y.out.2.2.1 y.out.2.2.2,(xJ (a:=⟨ob,k*6,none⟩) (r:=yo bt.ov bt.ops) y.out.2.1).one (wZ v l bt)⟩;rfl
theorem spoil_1{B:Nat}{v:Value}(h:SpSt w B g i v bt l rs){n:Nat}(hn:n<65536)(hz:SzB bt)(a1:0<bt.ops.length):
 G 45 #[.pointer (some ⟨g,i*5,none⟩),O 1,O n] w (uE w B g i v bt l rs 1 n):=by
 have d:w.ownsRow B 77 6 bt.ov bt.ops.length (bt.ops.flatMap zU):=h.rows.own _ (.tail _ (Jz _ (.tail _ (.head _))));obtain⟨xa,oc,m⟩:=zG d;have c:=d;rw[m] at c;have a4:=(zm c).1;obtain⟨ob,oc2,a3,a6,a5⟩:=c.form a1;cases a3;have u:bt.ov.ownBlock=some ob:=by rw[m];rfl
 obtain⟨k,t⟩:∃k,n%bt.ops.length=k:=⟨_,rfl⟩
 have hk:k<bt.ops.length:=by rw[<-t];exact Qj _ a1
 have a9:(n:Int)%(bt.ops.length:Int)=(k:Int):=by rw[<-t];exact(Ou _ _).symm
 obtain⟨⟨o,av⟩,q⟩:∃x,bt.ops[k]? =some x:=⟨_,Jd hk⟩
 have a2:=wb zX (h.rows.own _ (.head _)) h.gb h.at';have c1:T w g (i*5+1) (Q ob bt.ops.length oc):=by rw[<-m];exact a2 1 _ rfl
 have gl:=((h.rows.own _ (.head _)).lt g h.gb).2;have a0:=wb y7 d u q;have a7:=hz.ops;have oc':T w ob (k*6+1) _:=a0 1 _ rfl;have of:N w ob (k*6+1):=(zq Zd y7 d u q 1 Zd).2;have y:=Ja (Jb h (Jb u (Jb q t)));clear h d c m u q t a2 a0 hz a4;go_enter Try.func45,Try.ntmps45;go_wp2
 first|go_end0|refine bodyPost_ret (results_none rfl _ _ _) rfl ?_
 refine⟨rfl,_,y.out.1.setO y.out.2.1 y.out.2.2.1 (j:=1) (o':=spO 1 n o) Zd ?_ rfl,ws Zd y.out.2.2.1 y.out.2.2.2,(xJ (a:=⟨ob,k*6+1,none⟩) (r:=yo bt.ov bt.ops) y.out.2.1).one (wZ v l bt)⟩;rfl
theorem spoil_2{B:Nat}{v:Value}(h:SpSt w B g i v bt l rs){n:Nat}(hn:n<65536)(hz:SzB bt)(a1:0<bt.ops.length):
 G 45 #[.pointer (some ⟨g,i*5,none⟩),O 2,O n] w (uE w B g i v bt l rs 2 n):=by
 have d:w.ownsRow B 77 6 bt.ov bt.ops.length (bt.ops.flatMap zU):=h.rows.own _ (.tail _ (Jz _ (.tail _ (.head _))));obtain⟨xa,oc,m⟩:=zG d;have c:=d;rw[m] at c;have a4:=(zm c).1;obtain⟨ob,oc2,a3,a6,a5⟩:=c.form a1;cases a3;have u:bt.ov.ownBlock=some ob:=by rw[m];rfl
 obtain⟨k,t⟩:∃k,n%bt.ops.length=k:=⟨_,rfl⟩
 have hk:k<bt.ops.length:=by rw[<-t];exact Qj _ a1
 have a9:(n:Int)%(bt.ops.length:Int)=(k:Int):=by rw[<-t];exact(Ou _ _).symm
 obtain⟨⟨o,av⟩,q⟩:∃x,bt.ops[k]? =some x:=⟨_,Jd hk⟩
 have a2:=wb zX (h.rows.own _ (.head _)) h.gb h.at';have c1:T w g (i*5+1) (Q ob bt.ops.length oc):=by rw[<-m];exact a2 1 _ rfl
 have gl:=((h.rows.own _ (.head _)).lt g h.gb).2;have a0:=wb y7 d u q;have a7:=hz.ops;have oc':T w ob (k*6+2) _:=a0 2 _ rfl;have of:N w ob (k*6+2):=(zq Zd y7 d u q 2 Zd).2;have y:=Ja (Jb h (Jb u (Jb q t)));clear h d c m u q t a2 a0 hz a4;go_enter Try.func45,Try.ntmps45;go_wp2
 first|go_end0|refine bodyPost_ret (results_none rfl _ _ _) rfl ?_
 refine⟨rfl,_,y.out.1.setO y.out.2.1 y.out.2.2.1 (j:=2) (o':=spO 2 n o) Zd ?_ rfl,ws Zd y.out.2.2.1 y.out.2.2.2,(xJ (a:=⟨ob,k*6+2,none⟩) (r:=yo bt.ov bt.ops) y.out.2.1).one (wZ v l bt)⟩;rfl
theorem spoil_3{B:Nat}{v:Value}(h:SpSt w B g i v bt l rs){n:Nat}(hn:n<65536)(hz:SzB bt)(a1:0<bt.ops.length):
 G 45 #[.pointer (some ⟨g,i*5,none⟩),O 3,O n] w (uE w B g i v bt l rs 3 n):=by
 have d:w.ownsRow B 77 6 bt.ov bt.ops.length (bt.ops.flatMap zU):=h.rows.own _ (.tail _ (Jz _ (.tail _ (.head _))));obtain⟨xa,oc,m⟩:=zG d;have c:=d;rw[m] at c;have a4:=(zm c).1;obtain⟨ob,oc2,a3,a6,a5⟩:=c.form a1;cases a3;have u:bt.ov.ownBlock=some ob:=by rw[m];rfl
 obtain⟨k,t⟩:∃k,n%bt.ops.length=k:=⟨_,rfl⟩
 have hk:k<bt.ops.length:=by rw[<-t];exact Qj _ a1
 have a9:(n:Int)%(bt.ops.length:Int)=(k:Int):=by rw[<-t];exact(Ou _ _).symm
 obtain⟨⟨o,av⟩,q⟩:∃x,bt.ops[k]? =some x:=⟨_,Jd hk⟩
 have a2:=wb zX (h.rows.own _ (.head _)) h.gb h.at';have c1:T w g (i*5+1) (Q ob bt.ops.length oc):=by rw[<-m];exact a2 1 _ rfl
 have gl:=((h.rows.own _ (.head _)).lt g h.gb).2;have a0:=wb y7 d u q;have a7:=hz.ops;have oc':T w ob (k*6+3) _:=a0 3 _ rfl;have of:N w ob (k*6+3):=(zq Zd y7 d u q 3 Zd).2;have y:=Ja (Jb h (Jb u (Jb q t)));clear h d c m u q t a2 a0 hz a4;go_enter Try.func45,Try.ntmps45;go_wp2
 first|go_end0|refine bodyPost_ret (results_none rfl _ _ _) rfl ?_
 refine⟨rfl,_,y.out.1.setO y.out.2.1 y.out.2.2.1 (j:=3) (o':=spO 3 n o) Zd ?_ rfl,ws Zd y.out.2.2.1 y.out.2.2.2,(xJ (a:=⟨ob,k*6+3,none⟩) (r:=yo bt.ov bt.ops) y.out.2.1).one (wZ v l bt)⟩;rfl
theorem spoil_4{B:Nat}{v:Value}(h:SpSt w B g i v bt l rs){n:Nat}(hn:n<65536)(hz:SzB bt)(a1:0<bt.ops.length):
 G 45 #[.pointer (some ⟨g,i*5,none⟩),O 4,O n] w (uE w B g i v bt l rs 4 n):=by
 have d:w.ownsRow B 77 6 bt.ov bt.ops.length (bt.ops.flatMap zU):=h.rows.own _ (.tail _ (Jz _ (.tail _ (.head _))));obtain⟨xa,oc,m⟩:=zG d;have c:=d;rw[m] at c;have a4:=(zm c).1;obtain⟨ob,oc2,a3,a6,a5⟩:=c.form a1;cases a3;have u:bt.ov.ownBlock=some ob:=by rw[m];rfl
 obtain⟨k,t⟩:∃k,n%bt.ops.length=k:=⟨_,rfl⟩
 have hk:k<bt.ops.length:=by rw[<-t];exact Qj _ a1
 have a9:(n:Int)%(bt.ops.length:Int)=(k:Int):=by rw[<-t];exact(Ou _ _).symm
 obtain⟨⟨o,av⟩,q⟩:∃x,bt.ops[k]? =some x:=⟨_,Jd hk⟩
 have a2:=wb zX (h.rows.own _ (.head _)) h.gb h.at';have c1:T w g (i*5+1) (Q ob bt.ops.length oc):=by rw[<-m];exact a2 1 _ rfl
 have gl:=((h.rows.own _ (.head _)).lt g h.gb).2;have a0:=wb y7 d u q;have a7:=hz.ops;have oc':T w ob (k*6+4) _:=a0 4 _ rfl;have of:N w ob (k*6+4):=(zq Zd y7 d u q 4 Zd).2;have y:=Ja (Jb h (Jb u (Jb q t)));clear h d c m u q t a2 a0 hz a4;go_enter Try.func45,Try.ntmps45;go_wp2
 first|go_end0|refine bodyPost_ret (results_none rfl _ _ _) rfl ?_
 refine⟨rfl,_,y.out.1.setO y.out.2.1 y.out.2.2.1 (j:=4) (o':=spO 4 n o) Zd ?_ rfl,ws Zd y.out.2.2.1 y.out.2.2.2,(xJ (a:=⟨ob,k*6+4,none⟩) (r:=yo bt.ov bt.ops) y.out.2.1).one (wZ v l bt)⟩;rfl
end Go.Proofs.Ytojclalkfhoooaa
