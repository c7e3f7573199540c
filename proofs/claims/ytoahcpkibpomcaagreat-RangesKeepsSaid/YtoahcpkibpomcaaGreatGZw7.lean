/- Part of a proof. -/
import Derived.Test.YtoahcpkibpomcaaGreatGZw6
set_option linter.all false
set_option maxHeartbeats 16000000
set_option maxRecDepth 100000
namespace Go.Proofs.YtoahcpkibpomcaaGreat
open Go.RowKit
variable {w:World}{K:MK}{m:Mach}{call:Int->List Nat->Mach->Res Nat}{o:IOp}{c j:Int}{k:Nat}
theorem rec_idle (p:Addr)(w:World):
 CallsD Tryz.prog 149 #[.pointer (some p)] .returning w fun e u' w'=>e=.returned (.tuple #[])/\u'=.returning/\w=w':=by
 refine callsD_of_wpS Tryz.func149 rfl fun c₀ cs hu=>?_
 apply wpS_seq;apply wpS_region;simp[wpOpsS,go_sem,recoverD,hu,Tryz.ntmps149,Exit.thenS];apply wpS_seq;apply wpS_seq;apply wpS_region;simp[wpOpsS,go_sem,recoverD,hu,Tryz.ntmps149,Exit.thenS];refine wpS_cond (t:=true) (by simp[Act.eval,Array.replicate]) ?_;simp only[if_true];refine wpS_of_wp (wp_ret ?_);cases c₀
 simp_all [Exit.thenS,bodyPostS,results,Tryz.results149]
theorem kA (v:Value)(w:World):(Instr.typeAssert (.iface 213 v) 20 213 true).run Tryz.prog w=.ok (.tuple #[v,.bool true]) w:=by kernel_rfl
theorem pi{ov:Value}(h:MachAt w K m ov){b12 b13 d:Nat}(u:Q w b13 #[F K.pm] 208)(x:Q w b12 #[O 0,L,U 0,O 0,.string {data:=#[]},U 0,U 0] 57)
 (o:A w d 0 (.func (.func 148) #[] #[F b13,F b12])) (k i:Nat) (j:List PanicEntry):
 CallsD Tryz.prog 149 #[F d] (.panicking (oE k i::j)) w fun e u' w'=>
  e=.returned (.tuple #[])/\u'=.panicking ({oE k i with recovered:=true }::j)/\Q w' b12 (yV 0 ov k i (y9 m.ram) m.inputs m.polls) 57/\w.grownBy w' (some b12):=by
 refine callsD_of_wpS Tryz.func149 rfl fun c₀ cs g=>?_
 unfold oE at g ⊢;apply wpS_seq;apply wpS_region;simp[wpOpsS,go_sem,recoverD,g,Tryz.ntmps149,Exit.thenS];apply wpS_seq;apply wpS_seq;apply wpS_region;simp[wpOpsS,go_sem,recoverD,g,Tryz.ntmps149,Exit.thenS];refine wpS_cond (t:=false) (by simp[Act.eval,Array.replicate]) ?_;simp only[Bool.false_eq_true,if_false];refine wpS_of_wp (wp_skip ?_);simp only[Exit.thenS];refine wpS_of_wp ?_;have a1:=kA (.agg #[U k,O i]);have HH:=Ja h;have HU:=Ja g;have H2:=Ja (Jb u x);clear h g u x
 have e:(#[Value.pointer (some ⟨d,0,none⟩)]++(((((Array.replicate 18 undef).setIfInBounds 3 (Value.iface 213 (.agg #[U k,O i]))).setIfInBounds 0 (Value.iface 213 (.agg #[U k,O i]))).setIfInBounds 4 (Value.iface 213 (.agg #[U k,O i]))).setIfInBounds 5 (Value.bool false)):Array Value)=#[.pointer (some ⟨d,0,none⟩),.iface 213 (.agg #[U k,O i]),undef,undef,.iface 213 (.agg #[U k,O i]),.iface 213 (.agg #[U k,O i]),.bool false,undef,undef,undef,undef,undef,undef,undef,undef,undef,undef,undef,undef]:=by
  simp[Array.replicate,List.replicate]
 rw[e];clear e;have y:=Jw w _ o;have a0:(w.alloc (G #[U k,O i] 213)).cell? ⟨d,0,none⟩=_:=(Oo (w:=w) (Below.heap_alloc _ _ _ y)).trans o;have hM:=HH.out.keep ((Below.refl _ _).alloc (Je _) (G #[U k,O i] 213));have hF:=Ja (pE hM (b12:=b12) (b13:=b13) (zB H2.out.1) (zB H2.out.2) k i 0);clear hM;go_wp2_with (go_at_call 148;go_must (refine hF.out.mono ?_;rintro e w4 ⟨rfl,h5,l⟩))
 have hg:w.grownBy w4 (some b12):=⟨l.os,l.tape,l.output,Jn Zs l.size,fun q hq hn=>(l.block q Zt hn).trans (Below.heap_alloc _ _ _ hq)⟩
 have g:=HU.out;cases c₀;simp only at g;simp[bodyPostS,results,Tryz.results149,h5,hg]
def agZ (c:Int):Prop:=c=1∨c=3∨c=4∨(5<=c/\c<=17)
theorem ai9{E:IEnv}(h:5<=o.code/\o.code<=17)(v:Int->Nat)(m:Mach):oV E call o v m=iy m o.code (v o.a) (v o.b):=by
 unfold oV mU;rw[if_neg Zo,if_neg Zo,if_neg Zo,if_neg Zo,if_neg Zo,if_neg Zo,if_neg Zo,if_neg Zo,if_neg Zo,if_neg Zo,if_neg Zo,if_neg Zo,if_neg Zo,if_neg Zo]
theorem stepR_ex{E:IEnv}(hc:agZ o.code)(v:Int->Nat)(m:Mach):(∃x,oV E call o v m=.ok x m)∨oV E call o v m=.trap 4 0 m:=by
 obtain⟨c,r,a,b,n,l⟩:=o;have hc:agZ c:=hc;rcases hc with rfl|rfl|rfl|h
 ·exact .inl ⟨_,rfl⟩
 ·exact .inl ⟨_,rfl⟩
 ·exact .inl ⟨_,rfl⟩
 ·rw[ai9 h];unfold iy
  split
  ·exact .inr rfl
  ·exact .inl ⟨_,rfl⟩
theorem step_ex{ov:Value}(h:MachAt w K m ov)(hc:agZ o.code)(hb:I64 o.code/\I64 o.res/\I64 o.a/\I64 o.b/\o.n<65536)(ab:Option Addr)(an ac:Nat){vb vn:Nat}{v:Int->Nat}(hv:xO w vb vn v)(d:Int):
 I 155 #[F K.pm,.agg #[U o.code,U o.res,U o.a,U o.b,O (o.n:Int),.slice ab an ac],.map (some vb),U d] w (zQ K w (oV K.E call o v m)):=by
 obtain⟨c,r,a,b,n,l⟩:=o;obtain⟨_,t,i,g,j⟩:=hb;have hc:agZ c:=hc;rcases hc with rfl|rfl|rfl|k
 ·exact step_1 h i g j _ _ _ hv _
 ·exact step_3 h i g j _ _ _ hv _
 ·exact step_4 h i g j _ _ _ hv _
 ·rw[ai9 k];exact step_ar h i g j _ _ _ hv _ k
theorem call_ex(K:MK){bk:IBlk}(c3:K.E.p.funcs[0]? =some [bk])(d8:bk.params=[])(h7:bk.term.kind=4)(i0:bk.term.a=2)(e0:∀o∈bk.ops,agZ o.code/\0<=o.res)(h5:bk.ops.length<=3){ov:Value}(h:MachAt w K m ov)(hfu:m.fuel=10):
 I 150 #[F K.pm,U 0,L,U 1] w (zQ K w (xW K.E 100 0 [] m)):=by
 have c2:=h.prog.funcs;obtain⟨fa,fc,h9,_,_⟩:=c2.form;have c0:=h.c0;rw[h9] at c2 c0;obtain⟨fb,fo,rfl,_,bv,e4,e5⟩:=c2.get c3;obtain⟨ba,bc,rfl,_,k9⟩:=e5.form;have e4:A w fb fo (.slice ba 1 bc):=by rw[Nk,Uk] at e4;exact e4
 have l3:(0:Int)<K.E.p.funcs.length:=by have:=(Jh.1 c3).1;omega
 have d6:xW K.E 100 0 [] m=tJ K.E (xW K.E 99) [bk] 11 0 [] (fun _=>0) m:=by
  show(if(K.E.p.funcs.getD (0:Int).toNat []).isEmpty then _ else _)=_
  rw[show(0:Int).toNat=0 from rfl,Jj,c3,hfu];rfl
 rw[d6];obtain⟨RES,a6⟩:∃R,tJ K.E (xW K.E 99) [bk] 11 0 [] (fun _=>0) m=R:=⟨_,rfl⟩
 rw[a6];obtain⟨OR,e6⟩:∃R,iq K.E (xW K.E 99) bk.ops (fun _=>0) m=R:=⟨_,rfl⟩
 rw[ru,show xz [bk] 0=bk from rfl,show r7 bk.params [] (fun _=>0)=(fun _=>0) by rw[d8];rfl,e6] at a6;have f0:=Ja a6;have hB:=h.size;have j5:=Ja (show CSt K w (w.alloc (.map #[] 0)) m w.heap.size 0 (fun _=>0) from⟨⟨ov,h.keep ((Below.refl _ _).alloc (Je _) _)⟩,(Frm.refl _ _).alloc (Qd hB) _,xO.made w,Je _,hB⟩);have k6:=Ja e5;have HP:=Ja (Jb d8 (Jb e0 e6));have HF:=Ja (Jb hfu h5);have b2:=Ja (Jb h7 i0);clear h c2 h9 c3 e5 d6 d8 e0 h5 e6 a6 hfu h7 i0;have l2:=@run_makeMap Tryz.prog;go_enter Tryz.func150,Tryz.ntmps150;go_wp2
 go_loopw [2,11] (fun sv atv wx=>sv=L/\atv=U 0/\Hid (CSt K w wx m w.heap.size 0 (fun _=>0))) (fun _ _ _=>0)
 case atStart=>exact⟨rfl,rfl,j5⟩
 case round=>
  obtain⟨rfl,rfl,HS⟩:=hrel;have a5:=HS.out;obtain⟨bb,bo,rfl,a1,k2,k3,h6,pv,ov1,tv,kp,ko,kt,g9,d9,g6⟩:=k6.out.get (k:=0) (x:=bk) rfl;simp only[Nat.zero_mul,Uk] at k2 k3 kp ko kt;have k2:=zV a5.frm.below a1 k2;have k3:=zV a5.frm.below a1 k3;have kp:=zV a5.frm.below a1 kp;have ko:=zV a5.frm.below a1 ko;have kt:=zV a5.frm.below a1 kt;obtain⟨pa,pc,rfl,_,_⟩:=g9.form;obtain⟨oa,oc,rfl,_,_⟩:=d9.form;obtain⟨ta,tc,rfl,_,_⟩:=g6.form;have k0:=Ja (Jb d9 h6);clear a5 g9 d9 g6 h6;go_upto_region 9 with fail;have e3:=HS.out.alloc (G #[.slice pa bk.params.length pc,.slice oa bk.ops.length oc,U bk.term.kind,U bk.term.a,.slice ta bk.term.to.length tc] 84);have c:=zI (W:=wr) (o:=G #[.slice pa bk.params.length pc,.slice oa bk.ops.length oc,U bk.term.kind,U bk.term.a,.slice ta bk.term.to.length tc] 84) rfl;generalize j4:wr.alloc (G #[.slice pa bk.params.length pc,.slice oa bk.ops.length oc,U bk.term.kind,U bk.term.a,.slice ta bk.term.to.length tc] 84)=W1 at *;generalize wr.heap.size=b12 at *;have l0:=K0 c;have c7:=Ja (Jb e3 c);clear j4 e3 c k2 k3 kp ko kt;go_wp2
  go_loopw [47] (fun jv wx=>jv=U 0/\wx=W1) (fun _ _=>0)
  case atStart=>exact⟨rfl,rfl⟩
  case round=>
   obtain⟨rfl,f9⟩:=hrel;have b9:¬(0:Int)<bk.params.length:=by rw[HP.out.1];exact Int.lt_irrefl _
   rw[f9];clear f9;generalize b3:(#[.slice pa bk.params.length pc,.slice oa bk.ops.length oc,U bk.term.kind,U bk.term.a,.slice ta bk.term.to.length tc]:Array Value)=cs at *;have l1:A W1 b12 1 (.slice oa bk.ops.length oc):=by have:=c7.out.2;rw[<-b3] at this;exact zA this Zs
   have k5:=Ja b3;have d7:Hid (∃(v:Int->Nat) (m2:Mach),CSt K w W1 m2 w.heap.size 0 v/\Q W1 b12 cs 84/\m2.fuel=10-((0:Nat):Int)/\iq K.E (xW K.E 99) (bk.ops.drop 0) v m2=OR):=⟨_,m,c7.out.1,c7.out.2,HF.out.1,HP.out.2.2⟩
   clear b3 c7;go_wp2
   go_loopw [62] (fun jv wx=>∃j:Nat,j<=bk.ops.length/\jv=U j/\Hid (∃(v:Int->Nat) (m2:Mach),CSt K w wx m2 w.heap.size j v/\Q wx b12 cs 84/\m2.fuel=10-(j:Int)/\iq K.E (xW K.E 99) (bk.ops.drop j) v m2=OR)) (fun jv _=>bk.ops.length-(intOf jv).toNat)
   case atStart=>exact⟨0,Jt _,rfl,d7⟩
   case round=>
    obtain⟨j,hj,rfl,HJ⟩:=hrel;have l4:j<=3:=Jn hj HF.out.2;obtain⟨v2,m2,g,c,e2,i⟩:=HJ.out
    by_cases a0:j<bk.ops.length
    ·have b9:(j:Int)<bk.ops.length:=Zo;have f2:=Ja a0;obtain⟨o,ho⟩:∃o,bk.ops[j]? =some o:=⟨_,Jd a0⟩
     have c4:bk.ops.drop j=o::bk.ops.drop (j+1):=by rw[Qn a0];rw[Jd a0] at ho;rw[Nt ho]
     have hfu:0<m2.fuel:=Zo;rw[c4,j7,if_neg Zo] at i;obtain⟨b1,o1,rfl,a2,g0,g1,g2,g3,g4,e1,av3,g5,f7⟩:=k0.out.1.get ho;obtain⟨xa,xc,rfl,_,_⟩:=f7.form;have d0:=zV g.frm.below a2 g0;have d1:=zV g.frm.below a2 g1;have d2:=zV g.frm.below a2 g2;have d3:=zV g.frm.below a2 g3;have d4:=zV g.frm.below a2 g4;have d5:=zV g.frm.below a2 g5;have b7:=Ja g;have i8:=Ja c;have a4:=Ja (Jb e2 (Jb i (Jb hfu e1)));have f1:=Ja (HP.out.2.1 o (Ji ho));clear g c e2 i f7 e1 c4 g0 g1 g2 g3 g4 g5 a2 a0 ho hfu;go_upto_region 17 with fail;have l:=b7.out.alloc (G (P o xa xc) 76);have d:=zI (W:=wr) (o:=G (P o xa xc) 76) rfl;have c5:=zB (o:=G (P o xa xc) 76) i8.out;generalize j3:wr.alloc (G (P o xa xc) 76)=W2 at *;generalize wr.heap.size=b16 at *;obtain⟨ov2,a7⟩:=l.mach;have c8:=Ja a7;have b6:=Ja l;have f6:=Ja (Jb d c5);clear j3 l d c5 a7 d0 d1 d2 d3 d4 d5;go_upto_region 18 with(go_at_call 154;go_must (refine(iN c8.out a4.out.2.2.1).mono ?_;rintro e w3 ⟨rfl,a3,u⟩))
     have b5:=b6.out.step a3 u;have d:=u.kept _ _ f6.out.1 (by simp[sA]);have c:=u.kept _ _ f6.out.2 (by simp[sA]);have q0:=K0 d;have q1:=K1 d;have q2:=K2 d;have q3:=K3 d;have q4:=K4 d;have q5:=K5 d;have t:=step_ex a3 (call:=xW K.E 99) f1.out.1 a4.out.2.2.2 xa o.args.length xc b5.map 1;have f5:=Ja b5;have i1:=Ja (Jb d c);clear b5 d c a3 u;have i:=a4.out.2.1;rcases stepR_ex (E:=K.E) (call:=xW K.E 99) f1.out.1 v2 m2.pay with⟨x,y⟩|y
     ·rw[y] at i t;have HX:=Ja i;have e8:=Ja (show I 155 #[F K.pm,.agg (P o xa xc),.map (some w.heap.size),U 1] w3 fun e w'=>e=.returned (O x)/\(∃ov',MachAt w' K m2.pay ov')/\Frm K.B w3 w'/\x<65536 from t);clear i y t;go_upto_region 19 with(go_at_call 155;go_must (refine e8.out.mono ?_;rintro e w4 ⟨rfl,⟨ov4,e7⟩,b0,f8⟩))
      have b4:=f5.out.step e7 b0;have d:=b0.kept _ _ i1.out.1 (by simp[sA]);have c:=b0.kept _ _ i1.out.2 (by simp[sA]);have s1:=K1 d;have c9:=Ja c;have f4:=Ja b4;have i9:j<9000000000000000000:=Zo;have j2:=b4.map;have j0:=a4.out.2.2.2.2.1;have j1:=f1.out.2;have b8:=HX.out;unfold setV at b8;rw[if_pos j1] at b8;have k1:=Ja b8;clear b4 d c q0 q1 q2 q3 q4 q5 b8;go_wp2_with (at_mapUpdate;go_must (refine us rfl (.tmp 76) (.tmp 78) (.tmp 79) rfl j2 i9 o.res x rfl rfl rfl j0 f8 ?_;intro w5 h4 h8;have f3:=Ja (Jb h4 h8);clear h4 h8))
      go_roundw
      case rel=>
       refine⟨j+1,f2.out,by go_num,_,m2.pay,f4.out.store f3.out.1 f3.out.2,?_,by show m2.fuel-1=_;rw[a4.out.1];omega,k1.out⟩;refine zL f3.out.2 c9.out ?_;intro e;obtain⟨es,ec,h0⟩:=f4.out.map.blk;rw[Nt e,c9.out] at h0;cases h0
      case measure=>have:=f2.out;simp[intOf];omega
     ·rw[y] at i t;have e9:=Ja (show Res.trap 4 0 m2.pay=RES by rw[<-f0.out,<-i]);have e8:=Ja (show I 155 #[F K.pm,.agg (P o xa xc),.map (some w.heap.size),U 1] w3 fun e w'=>e=.panicked [oE 4 0]/\(∃ov',MachAt w' K m2.pay ov')/\Frm K.B w3 w'/\True from t);clear i y t;go_wp2_with (go_at_call 155;go_must (refine e8.out.mono ?_;rintro e w4 ⟨rfl,⟨ov4,e7⟩,b0,f8⟩))
      exact⟨rfl,by rw[<-e9.out];exact zQ.trap e7 (f5.out.frm.trans b0)⟩
    ·obtain rfl:j=bk.ops.length:=by omega
     have b9:¬(bk.ops.length:Int)<bk.ops.length:=Zo;rw[List.drop_length] at i;have hfu:0<m2.fuel:=Zo;obtain⟨ov2,a7⟩:=g.mach
     have e9:=Ja (show Res.ok (v2 2) m2.pay=RES by
      rw[<-f0.out,<-i]
      show _=(if m2.fuel<=0 then _ else _)
      rw[if_neg Zo,if_pos b2.out.1,if_neg (by rw[b2.out.2];decide),b2.out.2])
     have c8:=Ja (Jb a7 hfu);have b7:=Ja g;have k7:=Ja c;clear i g c e2 HJ a7 d7 hfu;go_upto_region 23 with(go_at_call 154;go_must (refine(iN c8.out.1 c8.out.2).mono ?_;rintro e w3 ⟨rfl,a3,u⟩))
     have l:=b7.out.step a3 u;have c:=u.kept _ _ k7.out (by simp[sA]);rw[<-k5.out] at c;have q2:A w3 b12 2 (U 4):=by rw[<-b2.out.1];exact zA c Zs
     have q3:A w3 b12 3 (U 2):=by rw[<-b2.out.2];exact zA c Zs
     have lk:=l.map.look (x:=2) ⟨by decide,by decide⟩;have i2:=l.map.2 2;have b6:=Ja l;have k4:=Ja a3;clear l c a3 u;go_wp2;go_ret;rw[<-e9.out];exact zQ.ok k4.out b6.out.frm i2
open Go.RowKit Go.Lib
theorem eval_ex{V:PV}{p:IProg}(hp:ProgIn w w.heap.size V p)(c8:p.args.length=p.funcs.length)(hV:∀W,Y w W->I 35 #[sZ V p] W fun e W'=>e=.returned (U 0)/\Y W W')
 (f:Int) (hf:0<=f/\f.toNat<p.funcs.length) {args:List Nat} {av:Value} (ha:wV w w.heap.size av args) (hl:(args.length:Int)=p.args.getD f.toNat 0) (s:ByteArray) (hs:s.size<=9223372036854775807)
 {inv irqv:Value} {inn irq:List Nat} (d0:wV w w.heap.size inv inn) (c9:dL w w.heap.size irqv irq) (fuel:Int) (f3:I64 fuel) (f4:fuel.toNat<=4000000)
 (hC:∀(K:MK) (W:World) (ov:Value),K.E=⟨p,inn,irq⟩->MachAt W K ⟨v7 s,fuel,[],0,0⟩ ov->I 150 #[F K.pm,U f,av,U 1] W (zQ K W (xW K.E 100 f args ⟨v7 s,fuel,[],0,0⟩))):
 I 143 #[sZ V p,U f,av,.string s,.agg #[inv,irqv],U fuel] w (abr w (bQ ⟨p,inn,irq⟩ f args s fuel)):=by
 obtain⟨Vf,Va,Vd,Vb⟩:=V;have h7:=hp.funcs;have c7:=hp.args;have h8:=hp.data;have h9:=hp.banks;obtain⟨f1,f2,e1,_,_⟩:=hp.funcs.form;obtain⟨a1,a2,e2,_,_⟩:=hp.args.form;obtain⟨d1,d2,e3,_,_⟩:=hp.data.form;obtain⟨b1,b2,e4,_,_⟩:=hp.banks.form;obtain⟨v1,v2,rfl,_,_⟩:=ha.form;obtain⟨i1,i2,rfl,_,_⟩:=d0.form;obtain⟨q1,q2,rfl,_,_⟩:=c9.form;simp only at e1 e2 e3 e4;subst e1 e2 e3 e4;obtain⟨k,rfl⟩:∃k:Nat,f=(k:Int):=⟨f.toNat,by omega⟩
 have k4:(k:Int)<p.funcs.length:=Zo;unfold sZ at hV ⊢;simp only at hV c7 ⊢;have k6:decide ((k:Int)<0)=false:=by rw[decide_eq_false_iff_not];omega
 have k5:decide (p.funcs.length<=k)=false:=by rw[decide_eq_false_iff_not];omega
 have i0:=mk_ram;obtain⟨Z,hZ⟩:∃Z,madeCells #[Value.int .u8 0] 8192=Z:=⟨_,rfl⟩
 rw[hZ] at i0;have HZ:=Ja hZ;clear hZ;have HP:=Ja hp;have HV:=Ja hV;have j2:=Ja hC;have HA:=Ja (Jb ha hl);have g4:=Ja (Jb d0 c9);have g5:=Ja (Jb f3 f4);obtain⟨aa,d5⟩:∃x,p.args[k]? =some x:=⟨_,Jd (by rw[c8];omega)⟩
 have f8:(args.length:Int)=aa:=by rw[hl,Ni,Jj,d5];rfl
 have j5:((args.length:Int) !=aa)=false:=by rw[bne_eq_false_iff_eq];exact f8
 have j3:(k:Int)<p.args.length:=by rw[c8];omega
 obtain⟨ba,oa,rfl,i8,f6,_⟩:=c7.get d5;rw[Nk] at f6;clear hp hV c8 hC ha hl d0 c9 f3 f4 h7 c7 h8 h9 hf d5 f8
 go_enter_defers Tryz.func143,Tryz.ntmps143
 go_upto_region 1 with fail;have f7:Y w (((w.alloc (G (D p f1 f2 (some ⟨ba,oa,none⟩) a2 d1 d2 b1 b2) 29)).alloc (G #[.slice i1 inn.length i2,.slice q1 irq.length q2] 62)).alloc (G #[O 0,L,U 0,O 0,.string {data:=#[]},U 0,U 0] 57)):=(((Below.refl _ _).alloc (Je _) _).alloc Zs _).alloc (by simp<;>omega) _;have l:Q (((w.alloc (G (D p f1 f2 (some ⟨ba,oa,none⟩) a2 d1 d2 b1 b2) 29)).alloc (G #[.slice i1 inn.length i2,.slice q1 irq.length q2] 62)).alloc (G #[O 0,L,U 0,O 0,.string {data:=#[]},U 0,U 0] 57)) w.heap.size (D p f1 f2 (some ⟨ba,oa,none⟩) a2 d1 d2 b1 b2) 29:=zB (zB (zI rfl));have e8:Q (((w.alloc (G (D p f1 f2 (some ⟨ba,oa,none⟩) a2 d1 d2 b1 b2) 29)).alloc (G #[.slice i1 inn.length i2,.slice q1 irq.length q2] 62)).alloc (G #[O 0,L,U 0,O 0,.string {data:=#[]},U 0,U 0] 57)) (w.heap.size+1) #[.slice i1 inn.length i2,.slice q1 irq.length q2] 62:=zB (zI Zs);have e7:Q (((w.alloc (G (D p f1 f2 (some ⟨ba,oa,none⟩) a2 d1 d2 b1 b2) 29)).alloc (G #[.slice i1 inn.length i2,.slice q1 irq.length q2] 62)).alloc (G #[O 0,L,U 0,O 0,.string {data:=#[]},U 0,U 0] 57)) (w.heap.size+2) #[O 0,L,U 0,O 0,.string {data:=#[]},U 0,U 0] 57:=zI Zs;generalize j1:((w.alloc (G (D p f1 f2 (some ⟨ba,oa,none⟩) a2 d1 d2 b1 b2) 29)).alloc (G #[.slice i1 inn.length i2,.slice q1 irq.length q2] 62)).alloc (G #[O 0,L,U 0,O 0,.string {data:=#[]},U 0,U 0] 57)=W0 at *;have a4:=Ja f7;have u:=Ja (Jb l (Jb e8 e7));have p0:=K0 l;have p1:=K1 l;have p2:=K2 l;have p3:=K3 l;have p4:=K4 l;have p5:=K5 l;clear l e8 e7 f7 j1;go_upto_region 3 with(go_at_call 35;go_must (refine(HV.out _ a4.out).mono ?_;rintro e W1 ⟨rfl,m⟩;have q0:=(m.cell (p:=⟨w.heap.size,0,none⟩) (Jw W0 _ p0)).trans p0;have h4:=(m.cell (p:=⟨w.heap.size,1,none⟩) (Jw W0 _ p1)).trans p1;have cx:=zV (a4.out.trans (m.mono a4.out.size)) i8 f6))
 have y0:=zH m u.out.1 (lt_of_block u.out.1);have y1:=zH m u.out.2.1 (lt_of_block u.out.2.1);have y2:=zH m u.out.2.2 (lt_of_block u.out.2.2);have k3:=lt_of_block y2;have a3:=Ja (a4.out.trans (m.mono a4.out.size));have HY:=Ja y2
 have d4:∀w',Y W1 w'->(A w' w.heap.size 0 (.slice f1 p.funcs.length f2)/\A w' w.heap.size 1 (.slice (some ⟨ba,oa,none⟩) p.args.length a2)/\A w' w.heap.size 2 (U p.entry)/\A w' w.heap.size 3 (U p.handler)/\A w' w.heap.size 4 (.slice d1 p.data.length d2)/\A w' w.heap.size 5 (.slice b1 p.banks.length b2)/\A w' (w.heap.size+1) 0 (.slice i1 inn.length i2)/\A w' (w.heap.size+1) 1 (.slice q1 irq.length q2)):=fun w' hb=>by
  have z0:=zH hb y0 Zo;have z1:=zH hb y1 Zo;exact⟨zA z0 Zs,zA z0 Zs,zA z0 Zs,zA z0 Zs,zA z0 Zs,zA z0 Zs,zA z1 Zs,zA z1 Zs⟩
 have h0:=Ja d4;clear q0 h4 p0 p1 p2 p3 p4 p5 a4 u m y0 y1 y2 d4 cx
 go_cut [13] from 41 to 47 (fun v wx=>∃rb pm b13:Nat,v=F b13/\Hid (Q wx b13 #[F pm] 208/\Q wx rb Z 5/\Q wx pm #[.slice f1 p.funcs.length f2,.slice (some ⟨ba,oa,none⟩) p.args.length a2,U p.entry,U p.handler,.slice d1 p.data.length d2,.slice b1 p.banks.length b2,T rb 8192 8192,.slice i1 inn.length i2,.slice q1 irq.length q2,U fuel,L,U 0,U 0] 210/\Y W1 wx/\W1.heap.size<=rb/\W1.heap.size<=pm/\W1.heap.size<=b13))
 case first=>
  go_region_held3 (fun w'=>A w' w.heap.size 0 (.slice f1 p.funcs.length f2)/\A w' w.heap.size 1 (.slice (some ⟨ba,oa,none⟩) p.args.length a2)/\A w' w.heap.size 2 (U p.entry)/\A w' w.heap.size 3 (U p.handler)/\A w' w.heap.size 4 (.slice d1 p.data.length d2)/\A w' w.heap.size 5 (.slice b1 p.banks.length b2)/\A w' (w.heap.size+1) 0 (.slice i1 inn.length i2)/\A w' (w.heap.size+1) 1 (.slice q1 irq.length q2))
   ((refine h0.out _ ?_;repeat' (first|exact Below.refl _ _|refine Below.drew ?_|refine Below.alloc ?_ (by simp<;>omega) _|refine Below.setCell ?_ (by simp<;>omega) _)))
   (fail)
  all_goals go_wp2_with fail
  all_goals go_meet
  ·exact⟨W1.heap.size,W1.heap.size+1,W1.heap.size+1+1,rfl,(three _ _ _ _).2.2.1,(three _ _ _ _).1,(three _ _ _ _).2.1,(three _ _ _ _).2.2.2,by omega,by omega,by omega⟩
  ·exact⟨W1.heap.size,W1.heap.size+1+1,W1.heap.size+1,rfl,(three _ _ _ _).2.1,(three _ _ _ _).1,(three _ _ _ _).2.2.1,(three _ _ _ _).2.2.2,by omega,by omega,by omega⟩
  ·exact⟨W1.heap.size+1,W1.heap.size+1+1,W1.heap.size,rfl,(three _ _ _ _).1,(three _ _ _ _).2.1,(three _ _ _ _).2.2.1,(three _ _ _ _).2.2.2,by omega,by omega,by omega⟩
 case rest=>
  obtain⟨rb,pm,b13,rfl,h⟩:=hcut;have k1:=K0 h.out.1;have k2:=K6 h.out.2.2.1;have b9:Z.toList=List.replicate 8192 (Value.int .u8 0):=by rw[<-HZ.out];exact toList_madeCells_one _ _
  have e5:8192<=Z.size:=by have:=congrArg List.length b9;rw[Qr] at this;simp at this;omega
  have f5:=fun ty:TypeId=>tQ (P:=Tryz.prog) wc 49 9 ty 5 rb 8192 8192 s Z 5 Tryz.underlying49 Zk h.out.2.1 e5
  obtain⟨n,hn⟩:∃n,goInt (Nat.min s.size 8192)=n:=⟨_,rfl⟩
  have c4:(byteCells (s.data.toList.take (Nat.min s.size 8192))++Z.toList.drop (Nat.min s.size 8192)).toArray=((v7 s).map bd).toArray:=by
   rw[<-ram_init s,b9]
  rw[hn,c4] at f5;clear b9 e5 c4 hn;have b7:Y W1 (wc.setRow rb ((v7 s).map bd).toArray):=py h.out.2.2.2.1 h.out.2.2.2.2.1 _;have e9:Q (wc.setRow rb ((v7 s).map bd).toArray) rb ((v7 s).map bd).toArray 5:=nZ h.out.2.1;have f0:(wc.setRow rb ((v7 s).map bd).toArray).heap[pm]? =_:=ss h.out.2.2.1 (by rintro rfl;have h1:=h.out.2.1;rw[h.out.2.2.1] at h1;simp at h1);have g1:(wc.setRow rb ((v7 s).map bd).toArray).heap[b13]? =_:=ss h.out.1 (by rintro rfl;have h1:=h.out.2.1;rw[h.out.1] at h1;simp at h1);go_upto_region 5 with fail;generalize j0:wc.setRow rb ((v7 s).map bd).toArray=W2 at *;have k0:∀(fn:Fn) (first cap:Array Value) (W:World),(Instr.makeFunc fn first cap).run Tryz.prog W=.ok (.func fn first cap) W:=fun _ _ _ _=>rfl
  obtain⟨K,hK⟩:∃K:MK,K=⟨⟨p,inn,irq⟩,⟨.slice f1 p.funcs.length f2,.slice (some ⟨ba,oa,none⟩) p.args.length a2,.slice d1 p.data.length d2,.slice b1 p.banks.length b2⟩,.slice i1 inn.length i2,.slice q1 irq.length q2,pm,rb,W1.heap.size⟩:=⟨_,rfl⟩
  have t:Y w W2:=a3.out.trans (b7.mono a3.out.size)
  have g0:MachAt W2 K ⟨v7 s,fuel,[],0,0⟩ (L):=by
   subst hK;exact⟨f0,e9,iG s,bY s,Jv _ _ _ _,fun p hp=>by simp at hp,by have:=g5.out.2;show 0+fuel.toNat<=4000000;omega,g5.out.1,Jt _,Jt _,h.out.2.2.2.2.2.1,h.out.2.2.2.2.1,(HP.out.below t).mono a3.out.size,(g4.out.1.below zr t).mono zr a3.out.size,(g4.out.2.below xQ t).mono xQ a3.out.size⟩
  have e6:W2.heap[w.heap.size+2]? =_:=zH b7 HY.out (lt_of_block HY.out);have g2:=Ja g0;have j:=Ja (Jb g1 (Jb e6 (Jb b7 t)));clear j0 g0 e6 g1 e9 f0 b7 t f5 k1 k2 h;go_upto_region 6 with fail;have c0:=zI (W:=W2) (o:=G #[.func (.func 148) #[] #[F b13,F (w.heap.size+1+1)]] 211) rfl;have a0:=(Below.refl W2.heap.size W2).alloc (Je _) (G #[.func (.func 148) #[] #[F b13,F (w.heap.size+1+1)]] 211);have f9:=g2.out.keep a0;have b0:=zH a0 j.out.1 (lt_of_block j.out.1);have c2:=zH a0 j.out.2.1 (lt_of_block j.out.2.1);have d3:Y w _:=j.out.2.2.2.trans (a0.mono j.out.2.2.2.size);have d6:Y W1 _:=j.out.2.2.1.trans (a0.mono j.out.2.2.1.size);generalize i9:W2.alloc (G #[.func (.func 148) #[] #[F b13,F (w.heap.size+1+1)]] 211)=W3 at *;generalize W2.heap.size=b14 at *;have a7:K.E=⟨p,inn,irq⟩/\K.pm=pm/\K.B=W1.heap.size:=by rw[hK];exact⟨rfl,rfl,rfl⟩
  have i:=j2.out K W3 _ a7.1 f9;obtain⟨RES,b3⟩:∃R,xW K.E 100 (k:Int) args ⟨v7 s,fuel,[],0,0⟩=R:=⟨_,rfl⟩
  have c3:bQ ⟨p,inn,irq⟩ (k:Int) args s fuel=adO RES:=by rw[<-b3,a7.1];rfl
  rw[b3,a7.2.1] at i;have k7:=K0 b0;have d8:=Ja c3;have g3:=Ja a7;have H3:=Ja (Jb b0 (Jb c2 (Jb c0 (Jb d3 d6))));clear i9 f9 b0 c2 c0 a0 d3 d6 hK c3 b3 j g2 a7
  have b5:∀(w4:World) (ov4:Value) (m4:Mach),MachAt w4 K m4 ov4->Frm K.B W3 w4->
   Q w4 b13 #[F K.pm] 208/\Q w4 (w.heap.size+1+1) #[O 0,L,U 0,O 0,.string {data:=#[]},U 0,U 0] 57/\A w4 b14 0 (.func (.func 148) #[] #[F b13,F (w.heap.size+1+1)])/\Y w w4:=fun w4 ov4 m4 d g=>by
   refine⟨by rw[g3.out.2.1];exact g.kept _ _ H3.out.1 (by simp[sA]),g.kept _ _ H3.out.2.1 (by simp[sA]),zA (g.kept _ _ H3.out.2.2.1 (by simp[sA])) Zs,H3.out.2.2.2.1.trans (g.below.mono ?_)⟩;rw[g3.out.2.2];exact a3.out.size
  have b8:=Ja b5;clear b5
  cases RES with
  |ok x m4=>
   have a6:I 150 #[F pm,U k,.slice v1 args.length v2,U 1] W3 fun e w'=>e=.returned (O x)/\(∃ov',MachAt w' K m4 ov')/\Frm K.B W3 w'/\x<65536:=i
   have d9:=Ja a6;clear i a6;go_upto_region 8 with(go_at_call 150;go_must (refine d9.out.mono ?_;rintro e w4 ⟨rfl,⟨ov4,d⟩,g,j4⟩))
   obtain⟨b4,y,e0,zb⟩:=b8.out w4 ov4 m4 d g;obtain⟨oa4,oc4,rfl⟩:=zG d.out
   have a5:I 148 #[.agg #[U 6,O 0],O x,F b13,F (w.heap.size+1+1)] w4 fun e w'=>
    e=.returned (.tuple #[])/\Q w' (w.heap.size+1+1) (yV x (.slice oa4 m4.out.length oc4) 6 0 (y9 m4.ram) m4.inputs m4.polls) 57/\w4.grownBy w' (some (w.heap.size+1+1)):=pE d b4 y 6 0 x
   have b6:w4.heap[b14]? =_:=g.kept _ _ H3.out.2.2.1 (by simp[sA]);have g9:=Ja a5;have d7:=Ja (Jb d (Jb y (Jb zb b6)));clear a5 b4 y zb d g b6;go_upto_region 9 with(go_at_call 148;go_must (refine g9.out.mono ?_;rintro e w5 ⟨rfl,c,h6⟩))
   have r0:A w5 (w.heap.size+1+1) 0 (O x):=zA c (by simp[yV]);have s0:N w5 (w.heap.size+1+1) 0:=zE c;have r1:A w5 (w.heap.size+1+1) 1 (.slice oa4 m4.out.length oc4):=zA c (by simp[yV]);have s1:N w5 (w.heap.size+1+1) 1:=zE c;have r2:A w5 (w.heap.size+1+1) 2 (U 6):=zA c (by simp[yV]);have s2:N w5 (w.heap.size+1+1) 2:=zE c;have r3:A w5 (w.heap.size+1+1) 3 (O 0):=zA c (by simp[yV]);have s3:N w5 (w.heap.size+1+1) 3:=zE c;have r4:A w5 (w.heap.size+1+1) 4 (.string (y9 m4.ram)):=zA c (by simp[yV]);have s4:N w5 (w.heap.size+1+1) 4:=zE c;have r5:A w5 (w.heap.size+1+1) 5 (U (m4.inputs:Int)):=zA c (by simp[yV]);have s5:N w5 (w.heap.size+1+1) 5:=zE c;have r6:A w5 (w.heap.size+1+1) 6 (U (m4.polls:Int)):=zA c (by simp[yV]);have s6:N w5 (w.heap.size+1+1) 6:=zE c;have hE:=ku d7.out.1 d7.out.2.1 Zo d7.out.2.2.1 (zu (zu (zu (zu (zu (zu (zu h6 0 (O x)) 1 (.slice oa4 m4.out.length oc4)) 2 (U 6)) 3 (O 0)) 4 (.string (y9 m4.ram))) 5 (U (m4.inputs:Int))) 6 (U (m4.polls:Int)))
   have c5:abr w (bQ ⟨p,inn,irq⟩ (k:Int) args s fuel) (.returned (.agg #[O x,.slice oa4 m4.out.length oc4,U 6,O 0,.string (y9 m4.ram),U (m4.inputs:Int),U (m4.polls:Int)])) (((((((w5.setCell ⟨w.heap.size+1+1,0,none⟩ (O x)).setCell ⟨w.heap.size+1+1,1,none⟩ (.slice oa4 m4.out.length oc4)).setCell ⟨w.heap.size+1+1,2,none⟩ (U 6)).setCell ⟨w.heap.size+1+1,3,none⟩ (O 0)).setCell ⟨w.heap.size+1+1,4,none⟩ (.string (y9 m4.ram))).setCell ⟨w.heap.size+1+1,5,none⟩ (U (m4.inputs:Int))).setCell ⟨w.heap.size+1+1,6,none⟩ (U (m4.polls:Int))):=by
    rw[d8.out];exact⟨_,rfl,hE.1,hE.2⟩
   have g6:=Ja c5;clear c5 hE;go_wp2;refine leaves_cons (f:=149) (args:=#[F b14]) Zs (by simp[go_sem]) ?_;refine(rec_idle _ _).mono ?_;rintro e u' w6 ⟨rfl,rfl,rfl⟩;simp[Leaves,settle,results,Tryz.results143,go_sem,r0,r1,r2,r3,r4,r5,r6]
   exact g6.out
  |trap k2 i2 m4=>
   have a6:I 150 #[F pm,U k,.slice v1 args.length v2,U 1] W3 fun e w'=>e=.panicked [oE k2 i2]/\(∃ov',MachAt w' K m4 ov')/\Frm K.B W3 w'/\True:=i
   have d9:=Ja a6;clear i a6;go_wp2_with (go_at_call 150;go_must (refine d9.out.mono ?_;rintro e w4 ⟨rfl,⟨ov4,d⟩,g,_⟩))
   obtain⟨b4,y,e0,zb⟩:=b8.out w4 ov4 m4 d g;have hd:=pi d b4 y e0 k2 i2 [];obtain⟨oa4,oc4,rfl⟩:=zG d.out;refine leaves_cons (f:=149) (args:=#[F b14]) Zs (by simp[go_sem]) ?_;refine hd.mono ?_;rintro e u' w5 ⟨rfl,rfl,c,h6⟩;have hE:=ku d y Zo zb h6;have r0:A w5 (w.heap.size+1+1) 0 (O ((0:Nat):Int)):=zA c (by simp[yV]);have r1:A w5 (w.heap.size+1+1) 1 (.slice oa4 m4.out.length oc4):=zA c (by simp[yV]);have r2:A w5 (w.heap.size+1+1) 2 (U k2):=zA c (by simp[yV]);have r3:A w5 (w.heap.size+1+1) 3 (O i2):=zA c (by simp[yV]);have r4:A w5 (w.heap.size+1+1) 4 (.string (y9 m4.ram)):=zA c (by simp[yV]);have r5:A w5 (w.heap.size+1+1) 5 (U (m4.inputs:Int)):=zA c (by simp[yV]);have r6:A w5 (w.heap.size+1+1) 6 (U (m4.polls:Int)):=zA c (by simp[yV])
   have a5:abr w (bQ ⟨p,inn,irq⟩ (k:Int) args s fuel) (.returned (.agg #[O ((0:Nat):Int),.slice oa4 m4.out.length oc4,U k2,O i2,.string (y9 m4.ram),U (m4.inputs:Int),U (m4.polls:Int)])) w5:=by
    rw[d8.out];exact⟨_,rfl,hE.1,hE.2⟩
   simp[Leaves,settle,results,Tryz.results143,go_sem,r0,r1,r2,r3,r4,r5,r6];exact a5
theorem tu{B:Nat}{V:PV}{p:IProg}(hp:ProgIn w B V p)(hB:B<=w.heap.size)(hs:∀f∈p.funcs,vZ f):
 I 35 #[yH V p] w (m9 w (vC p)):=by
 have d:∀W,Y w W->I 68 #[yH V p] W (m9 W (sR p)):=fun W hb=>kB ((hp.below (hb.mono hB)).mono (Jn hB hb.size))
 have k:∀W n,Y w W->sR p=0->n<p.funcs.length->I 69 #[yH V p,U n] W (ym W (yi p n)):=fun W n hb h0 hn=>by
  obtain⟨_,h1,h2,_⟩:=se h0;exact nA (hp.below (hb.mono hB)) (Jn hB hb.size) h1 h2 hs hn
 obtain⟨Vf,Va,Vd,Vb⟩:=V;obtain⟨f1,f2,e1,_,_⟩:=hp.funcs.form;obtain⟨a1,a2,e2,_,_⟩:=hp.args.form;obtain⟨d1,d2,e3,_,_⟩:=hp.data.form;obtain⟨b1,b2,e4,_,_⟩:=hp.banks.form;simp only at e1 e2 e3 e4;subst e1 e2 e3 e4;have b6:p.funcs.length<=9223372036854775807:=Zo;unfold yH at d k ⊢;simp only at d k ⊢;have HH:=Ja d;have HF:=Ja k;have b0:Y w (w.alloc (G (D p f1 f2 a1 a2 d1 d2 b1 b2) 29)):=(Below.refl _ _).alloc (Je _) _;have c:=zI (W:=w) (o:=G (D p f1 f2 a1 a2 d1 d2 b1 b2) 29) rfl;obtain⟨res,t⟩:∃x,vC p=x:=⟨_,rfl⟩
 rw[t];have u:=Ja t;obtain⟨eh,a4⟩:∃x,sR p=x:=⟨_,rfl⟩
 rw[a4] at HH;have m:=Ja a4;clear hp hB hs d k t a4;go_enter Tryz.func35,Tryz.ntmps35;go_upto_region 1 with fail;generalize b5:w.alloc (G (D p f1 f2 a1 a2 d1 d2 b1 b2) 29)=W0 at *;have y0:=K0 c;have y1:=K1 c;have y2:=K2 c;have y3:=K3 c;have y4:=K4 c;have y5:=K5 c;have H0:=Ja (show Y w W0/\Q W0 w.heap.size (D p f1 f2 a1 a2 d1 d2 b1 b2) 29 from⟨b0,c⟩);clear b0 c b5;go_upto_region 2 with(first|(go_at_call 68;go_must (refine(HH.out _ H0.out.1).mono ?_;rintro e w1 ⟨rfl,a5⟩))|go_in)
 have j:=Ja (show Y w w1/\Q w1 w.heap.size (D p f1 f2 a1 a2 d1 d2 b1 b2) 29 from⟨H0.out.1.trans (a5.mono H0.out.1.size),zH a5 H0.out.2 (lt_of_block H0.out.2)⟩);clear a5 y0 y1 y2 y3 y4 y5
 by_cases hz:eh=0
 ·subst hz;have y0:=K0 j.out.2;go_wp2
  go_loopw [13] (fun iv wx=>∃i:Nat,i<=p.funcs.length/\iv=U i/\Hid (Y w1 wx/\∀n,n<i->yi p n=true)) (fun iv _=>p.funcs.length-(intOf iv).toNat)
  case atStart=>exact⟨0,Jt _,rfl,Ja ⟨Below.refl _ _,fun n hn=>by omega⟩⟩
  case round=>
   obtain⟨i,hi,rfl,l⟩:=hrel
   by_cases y:i<p.funcs.length
   ·have b3:(i:Int)<p.funcs.length:=Zo;have a3:=Ja y;have g:=zH l.out.1 j.out.2 (lt_of_block j.out.2);have z0:=K0 g;have z1:=K1 g;have z2:=K2 g;have z3:=K3 g;have z4:=K4 g;have z5:=K5 g;have a7:=Ja (HF.out wr i (j.out.1.trans (l.out.1.mono j.out.1.size)) m.out y);obtain⟨q,hq⟩:∃q,yi p i=q:=⟨_,rfl⟩
    rw[hq] at a7;have HQ:=Ja hq;clear hq g y y0
    cases q with
    |false=>
     go_wp2_with (first|(go_at_call 69;go_must (refine a7.out.mono ?_;rintro e w2 ⟨rfl,a0⟩))|go_in)
     go_ret
     have hr:res=51:=by
      rw[<-u.out];unfold vC;rw[if_neg (by rw[m.out];simp),if_neg];intro b4;have:=Oe.1 b4 i (Ol.2 a3.out);rw[HQ.out] at this;cases this
     exact⟨zh hr.symm,j.out.1.trans ((l.out.1.trans (a0.mono l.out.1.size)).mono j.out.1.size)⟩
    |true=>
     go_wp2_with (first|(go_at_call 69;go_must (refine a7.out.mono ?_;rintro e w2 ⟨rfl,a0⟩))|go_in)
     have a6:=Ja (show Y w1 w2/\∀n,n<i+1->yi p n=true from⟨l.out.1.trans (a0.mono l.out.1.size),fun n hn=>by
      rcases Nat.lt_succ_iff_lt_or_eq.1 hn with h|rfl
      ·exact l.out.2 n h
      ·exact HQ.out⟩)
     clear a0;go_roundw
     case rel=>first|exact⟨i+1,a3.out,by go_num,a6⟩|((repeat apply Exists.intro);exact⟨⟨i+1,a3.out,by go_num,a6⟩,rfl⟩)
     case measure=>have:=a3.out;simp[intOf];omega
   ·obtain rfl:i=p.funcs.length:=by omega
    have b3:¬(p.funcs.length:Int)<p.funcs.length:=Zo
    have hr:=Ja (show res=0 by
     rw[<-u.out];unfold vC;rw[if_neg (by rw[m.out];simp),if_pos]
     exact Oe.2 fun n hn=>l.out.2 n (Ol.1 hn))
    clear y y0;go_wp2;go_ret;exact⟨zh hr.out.symm,j.out.1.trans (l.out.1.mono j.out.1.size)⟩
 ·have t1:(eh !=0)=true:=by rw[bne_iff_ne];exact hz
  have hr:=Ja (show res=eh by
   rw[<-u.out];unfold vC
   rw[if_pos (by rw[m.out];exact hz),m.out])
  clear hz;go_wp2;go_ret;exact⟨zh hr.out.symm,j.out.1⟩
theorem afH (x:Int)(h:(decide (-100<=x) && decide (x<=100))=true):I64 x:=by
 simp only[Jm,decide_eq_true_eq] at h;exact⟨by omega,by omega⟩
def ahq (c:Int)(a b:Nat)(j:Int):List (IOp×Value):=[(⟨1,0,0,0,a,[]⟩,L),(⟨1,1,0,0,b,[]⟩,L),(⟨c,2,0,j,0,[]⟩,L)]
def exP (c:Int)(a b:Nat)(j:Int):IProg:=rd ⟨4,2,[]⟩ ((ahq c a b j).map (·.1))
theorem exOps_ok(h:3<=c/\c<=17){a b:Nat}(d:a<65536)(hb:b<65536)(g:0<=j/\j<=1):oz (ahq c a b j):=by
 intro q hq;simp only[ahq,Jq,List.not_mem_nil,or_false] at hq;rcases hq with rfl|rfl|rfl
 ·exact⟨⟨afH _ rfl,afH _ rfl,afH _ rfl,afH _ rfl,d⟩,rfl,rfl⟩
 ·exact⟨⟨afH _ rfl,afH _ rfl,afH _ rfl,afH _ rfl,hb⟩,rfl,rfl⟩
 ·exact⟨⟨⟨by show _<=c;omega,by show c<=_;omega⟩,afH _ rfl,afH _ rfl,⟨by show _<=j;omega,by show j<=_;omega⟩,by show 0<65536;omega⟩,rfl,rfl⟩
def exJ (c:Int):Int:=if c=3∨c=4 then 0 else 1
theorem akM(d:3<=c/\c<=17)(a b:Nat):vC (exP c a b (exJ c))=0:=by
 have h:c=3∨c=4∨c=5∨c=6∨c=7∨c=8∨c=9∨c=10∨c=11∨c=12∨c=13∨c=14∨c=15∨c=16∨c=17:=Zo;rcases h with rfl|rfl|rfl|rfl|rfl|rfl|rfl|rfl|rfl|rfl|rfl|rfl|rfl|rfl|rfl<;>rfl
def exV (c:Int)(a b:Nat):Nat:=if c=8/\b=0 then 0 else aeR c a b
def exF (c:Int)(b:Nat):Bool:=decide (¬(c=8/\b=0))
def exR (c:Int)(a b:Nat):IRun:=if c=8/\b=0 then⟨0,[],4,0,v7 ⟨#[]⟩,0,0⟩ else⟨aeR c a b,[],6,0,v7 ⟨#[]⟩,0,0⟩
theorem exP_run(d:3<=c/\c<=17)(a b:Nat):bQ ⟨exP c a b (exJ c),[],[]⟩ 0 [] ⟨#[]⟩ 10=exR c a b:=by
 unfold exR;have h:c=3∨c=4∨c=5∨c=6∨c=7∨c=8∨c=9∨c=10∨c=11∨c=12∨c=13∨c=14∨c=15∨c=16∨c=17:=Zo;rcases h with rfl|rfl|rfl|rfl|rfl|rfl|rfl|rfl|rfl|rfl|rfl|rfl|rfl|rfl|rfl
 case inr.inr.inr.inr.inr.inl=>
  cases b with
  |zero=>rfl
  |succ b=>rfl
 all_goals rfl
theorem ex_prog{a b:Nat}(g:oz (ahq c a b j)){W:World}(i:(((((w.alloc (G #[U 1,U 0,U 0,U 0,O a,L,U 1,U 1,U 0,U 0,O b,L,U c,U 2,U 0,U j,O 0,L] 76)).alloc (G #[L,T w.heap.size 3 3,U 4,U 2,L] 84)).alloc (G #[T (w.heap.size+1) 1 1] 39)).alloc (G #[U 0] 3)).alloc (G #[T (w.heap.size+1+1) 1 1,T (w.heap.size+1+1+1) 1 1,U 0,U (-1),L,L] 29))=W):
 Y w W/\ProgIn W W.heap.size ⟨T (w.heap.size+1+1) 1 1,T (w.heap.size+1+1+1) 1 1,L,L⟩ (exP c a b j)/\Q W (w.heap.size+1+1+1+1) #[T (w.heap.size+1+1) 1 1,T (w.heap.size+1+1+1) 1 1,U 0,U (-1),L,L] 29:=by
 have hb:Y w (((((w.alloc (G #[U 1,U 0,U 0,U 0,O a,L,U 1,U 1,U 0,U 0,O b,L,U c,U 2,U 0,U j,O 0,L] 76)).alloc (G #[L,T w.heap.size 3 3,U 4,U 2,L] 84)).alloc (G #[T (w.heap.size+1) 1 1] 39)).alloc (G #[U 0] 3)).alloc (G #[T (w.heap.size+1+1) 1 1,T (w.heap.size+1+1+1) 1 1,U 0,U (-1),L,L] 29)):=(((((Below.refl _ _).alloc (Je _) _).alloc Zs _).alloc Zt _).alloc Zt _).alloc Zt _;have h:Q (((((w.alloc (G #[U 1,U 0,U 0,U 0,O a,L,U 1,U 1,U 0,U 0,O b,L,U c,U 2,U 0,U j,O 0,L] 76)).alloc (G #[L,T w.heap.size 3 3,U 4,U 2,L] 84)).alloc (G #[T (w.heap.size+1) 1 1] 39)).alloc (G #[U 0] 3)).alloc (G #[T (w.heap.size+1+1) 1 1,T (w.heap.size+1+1+1) 1 1,U 0,U (-1),L,L] 29)) w.heap.size ((ahq c a b j).flatMap zU).toArray 76:=zB (zB (zB (zB (zI rfl))));have h1:Q (((((w.alloc (G #[U 1,U 0,U 0,U 0,O a,L,U 1,U 1,U 0,U 0,O b,L,U c,U 2,U 0,U j,O 0,L] 76)).alloc (G #[L,T w.heap.size 3 3,U 4,U 2,L] 84)).alloc (G #[T (w.heap.size+1) 1 1] 39)).alloc (G #[U 0] 3)).alloc (G #[T (w.heap.size+1+1) 1 1,T (w.heap.size+1+1+1) 1 1,U 0,U (-1),L,L] 29)) (w.heap.size+1) #[L,T w.heap.size 3 3,U 4,U 2,L] 84:=zB (zB (zB (zI Zs)));have h2:Q (((((w.alloc (G #[U 1,U 0,U 0,U 0,O a,L,U 1,U 1,U 0,U 0,O b,L,U c,U 2,U 0,U j,O 0,L] 76)).alloc (G #[L,T w.heap.size 3 3,U 4,U 2,L] 84)).alloc (G #[T (w.heap.size+1) 1 1] 39)).alloc (G #[U 0] 3)).alloc (G #[T (w.heap.size+1+1) 1 1,T (w.heap.size+1+1+1) 1 1,U 0,U (-1),L,L] 29)) (w.heap.size+1+1) #[T (w.heap.size+1) 1 1] 39:=zB (zB (zI Zs));have h3:Q (((((w.alloc (G #[U 1,U 0,U 0,U 0,O a,L,U 1,U 1,U 0,U 0,O b,L,U c,U 2,U 0,U j,O 0,L] 76)).alloc (G #[L,T w.heap.size 3 3,U 4,U 2,L] 84)).alloc (G #[T (w.heap.size+1) 1 1] 39)).alloc (G #[U 0] 3)).alloc (G #[T (w.heap.size+1+1) 1 1,T (w.heap.size+1+1+1) 1 1,U 0,U (-1),L,L] 29)) (w.heap.size+1+1+1) #[U 0] 3:=zB (zI Zs);have d:Q (((((w.alloc (G #[U 1,U 0,U 0,U 0,O a,L,U 1,U 1,U 0,U 0,O b,L,U c,U 2,U 0,U j,O 0,L] 76)).alloc (G #[L,T w.heap.size 3 3,U 4,U 2,L] 84)).alloc (G #[T (w.heap.size+1) 1 1] 39)).alloc (G #[U 0] 3)).alloc (G #[T (w.heap.size+1+1) 1 1,T (w.heap.size+1+1+1) 1 1,U 0,U (-1),L,L] 29)) (w.heap.size+1+1+1+1) #[T (w.heap.size+1+1) 1 1,T (w.heap.size+1+1+1) 1 1,U 0,U (-1),L,L] 29:=zI Zs;rw[i] at hb h h1 h2 h3 d;have k:=lt_of_block d;refine⟨hb,⟨?_,?_,yN.nil,yN.nil,afH _ rfl,afH _ rfl⟩,d⟩
 ·refine yN.one Zo ⟨T (w.heap.size+1) 1 1,zA h2 Zs,yN.one Zo ?_⟩;exact⟨zA h1 Zs,zA h1 Zs,⟨afH _ rfl,afH _ rfl⟩,L,T w.heap.size 3 3,L,zA h1 Zs,zA h1 Zs,zA h1 Zs,yN.nil,aki (l:=ahq c a b j) h Zo (eV g _ _) (by show 3<=1000000;decide),yN.nil⟩
 ·exact yN.one Zo ⟨zA h3 Zs,afH _ rfl⟩
theorem exR_form (c:Int)(a b:Nat):∃k:Nat,exR c a b=⟨exV c a b,[],k,0,v7 ⟨#[]⟩,0,0⟩/\((k:Int)==6)=exF c b:=by
 unfold exR exV exF
 by_cases h:c=8/\b=0
 ·rw[if_pos h,if_pos h];exact⟨4,rfl,by rw[decide_eq_false (fun k=>k h)];rfl⟩
 ·rw[if_neg h,if_neg h];exact⟨6,rfl,by rw[decide_eq_true h];rfl⟩
theorem akH(hc:3<=c/\c<=17){a b:Nat}(ha:a<65536)(hb:b<65536)(w:World):
 I 123 #[U c,O a,O b] w (fun e w'=>e=.returned (.tuple #[O (exV c a b:Int),.bool (exF c b)])/\Y w w'):=by
 obtain⟨S,hS⟩:∃S,y9 (v7 ⟨#[]⟩)=S:=⟨_,rfl⟩
 obtain⟨k,hk,hf⟩:=exR_form c a b;have g:=exP_run hc a b;rw[hk] at g;have a0:=hc;have m:=exOps_ok hc ha hb (j:=exJ c) (by unfold exJ;split<;>omega);obtain⟨v,hv⟩:∃v,exV c a b=v:=⟨_,rfl⟩
 obtain⟨f,x⟩:∃f,exF c b=f:=⟨_,rfl⟩
 rw[hv] at g ⊢;rw[x] at hf ⊢
 have y:∀(j:Int),exJ c=j->∀(W:World),(((((w.alloc (G #[U 1,U 0,U 0,U 0,O a,L,U 1,U 1,U 0,U 0,O b,L,U c,U 2,U 0,U j,O 0,L] 76)).alloc (G #[L,T w.heap.size 3 3,U 4,U 2,L] 84)).alloc (G #[T (w.heap.size+1) 1 1] 39)).alloc (G #[U 0] 3)).alloc (G #[T (w.heap.size+1+1) 1 1,T (w.heap.size+1+1+1) 1 1,U 0,U (-1),L,L] 29))=W->Y w W/\Q W (w.heap.size+1+1+1+1) #[T (w.heap.size+1+1) 1 1,T (w.heap.size+1+1+1) 1 1,U 0,U (-1),L,L] 29/\I 143 #[.agg #[T (w.heap.size+1+1) 1 1,T (w.heap.size+1+1+1) 1 1,U 0,U (-1),L,L],U 0,L,.string ⟨#[]⟩,.agg #[L,L],U 10] W (fun e w'=>∃oa1 oc1,e=.returned (.agg #[O v,.slice oa1 0 oc1,U k,O 0,.string S,U 0,U 0])/\Y W w'):=fun j l W hW=>by
  subst l;obtain⟨h1,h2,h3⟩:=ex_prog m hW;refine⟨h1,h3,?_⟩;have a5:=uL (t:=⟨4,2,[]⟩) (ops:=(ahq c a b (exJ c)).map (·.1)) (by show 3<=2000000;decide) Zd
  have:=(eval_ex h2 rfl (fun W hb=>by have:=tu ((h2.below hb).mono hb.size) (Je _) (fun f hf=>(a5 f hf).1);rw[akM a0 a b] at this;exact this) 0 ⟨by decide,by show 0<1;decide⟩ yN.nil rfl ⟨#[]⟩ Zd yN.nil yN.nil 10 (afH _ rfl) Zd
   (fun K W ov hK hM=>by
     refine call_ex K (bk:=⟨[],(ahq c a b (exJ c)).map (·.1),⟨4,2,[]⟩⟩) (by rw[hK];rfl) rfl rfl rfl (fun o ho=>?_) (by show 3<=3;decide) hM rfl;simp only[ahq,Ql,List.map_nil,Jq,List.not_mem_nil,or_false] at ho;rcases ho with rfl|rfl|rfl
     ·exact⟨.inl rfl,by show(0:Int)<=0;decide⟩
     ·exact⟨.inl rfl,by show(0:Int)<=1;decide⟩
     ·refine⟨?_,by show(0:Int)<=2;decide⟩
      show agZ c
      unfold agZ
      omega)).mono (fun e w' h=>h.open)
  rw[g] at this;rw[<-hS];exact this.mono (fun e w' ⟨oa1,oc1,h1,_,h3⟩=>⟨oa1,oc1,h1,h3⟩)
 have a4:=Ja y;have HF:=Ja hf;obtain⟨q3,h3⟩:∃q,(c==3)=q:=⟨_,rfl⟩
 obtain⟨q4,h4⟩:∃q,(c==4)=q:=⟨_,rfl⟩
 have l:exJ c=if q3||q4 then 0 else 1:=by
  unfold exJ;rw[<-h3,<-h4];simp only[Bool.or_eq_true,beq_iff_eq]
 have HJ:=Ja l;clear l y hf g m hv x hk hS ha hb hc a0;go_enter Tryz.func123,Tryz.ntmps123;cases q3;cases q4
 all_goals (
  go_upto_region 5 with(go_at_call 999999;skip)
  generalize a3:World.alloc _ _=P1;have d:=Ja (a4.out _ HJ.out P1 a3);clear a3 a4 HJ;have x0:=K0 d.out.2.1;have x1:=K1 d.out.2.1;have x2:=K2 d.out.2.1;have x3:=K3 d.out.2.1;have x4:=K4 d.out.2.1;have x5:=K5 d.out.2.1;go_upto_region 6 with(go_at_call 143;go_must (refine(d.out.2.2).mono ?_;rintro e w1 ⟨oa1,oc1,rfl,hb⟩))
  clear x0 x1 x2 x3 x4 x5;have hx:=zI (W:=w1) (o:=G #[O v,.slice oa1 0 oc1,U k,O 0,.string S,U 0,U 0] 57) rfl;have a2:=(Below.refl w1.heap.size w1).alloc (Je _) (G #[O v,.slice oa1 0 oc1,U k,O 0,.string S,U 0,U 0] 57);have a1:=(d.out.1.trans ((hb.trans (a2.mono hb.size)).mono d.out.1.size))
  generalize hW:w1.alloc (G #[O v,.slice oa1 0 oc1,U k,O 0,.string S,U 0,U 0] 57)=R1 at *;generalize hc:w1.heap.size=r1 at *;have i:=Ja (Jb a1 hx);clear hb hx a2 a1 hW hc d;have y0:=K0 i.out.2;have y2:=K2 i.out.2;have u:=lt_of_block i.out.2;have HC:=Ja (show ∀W',Y R1 W'->A W' r1 0 (O v)/\A W' r1 2 (U k) from fun W' hb=>⟨(hb.cell (p:=⟨r1,0,none⟩) u).trans y0,(hb.cell (p:=⟨r1,2,none⟩) u).trans y2⟩);have a6:=HF.out
  go_region_held3 (fun w'=>A w' r1 0 (O v)/\A w' r1 2 (U k)) ((refine HC.out _ ?_;repeat' (first|with_reducible exact Below.refl _ _|with_reducible assumption|with_reducible refine Below.drew ?_))) (fail)
  all_goals go_wp2
  all_goals refine bodyPost_ret (v:=.tuple #[O v,.bool f]) (by simp[results,Tryz.results123,go_sem]) rfl ?_
  all_goals (refine⟨rfl,i.out.1.trans (Below.mono (B:=R1.heap.size) ?_ i.out.1.size)⟩;repeat' (first|with_reducible exact Below.refl _ _|with_reducible assumption|with_reducible refine Below.drew ?_)))
def zW (t:PT):List Value:=[t.fv,t.av,U t.entry,U t.handler,t.dv,t.bv]
theorem vr {t:PT}:∀x∈t.rows,x.e≠29:=fun x c=>by
 unfold PT.rows at c;rcases Jq.1 c with rfl|c
 ·show 39≠29;decide
 rcases Jq.1 c with rfl|c
 ·show 3≠29;decide
 rcases Jq.1 c with rfl|c
 ·show 89≠29;decide
 rcases Jq.1 c with rfl|c
 ·show 9≠29;decide
 obtain⟨f,_,c⟩:=Qx.1 c;unfold FT.rows at c;rcases Jq.1 c with rfl|c
 ·show 84≠29;decide
 obtain⟨b,_,c⟩:=Qx.1 c;unfold BT.rows at c;rcases Jq.1 c with rfl|c
 ·show 3≠29;decide
 rcases Jq.1 c with rfl|c
 ·show 76≠29;decide
 rcases Jq.1 c with rfl|c
 ·show 79≠29;decide
 rcases Jl.1 c with c|c
 ·obtain⟨q,_,rfl⟩:=Nu.1 c
  show 3≠29;decide
 ·obtain⟨q,_,rfl⟩:=Nu.1 c
  show 3≠29;decide
structure OwMid (w:World) (p1 r2 q3:Nat) (V:PV) (p:IProg) (t:PT) (wx:World):Prop where
 h1:wx.heap[p1]? =some (.cells #[V.fv,V.av,.int .i64 p.entry,.int .i64 p.handler,V.dv,V.bv] 29 (0,0))
 h2:wx.heap[r2]? =some (.cells #[.slice none 0 0,.slice none 0 0,.int .i64 0,.int .i64 0,.slice none 0 0,.slice none 0 0] 29 (0,0))
 h3:wx.heap[q3]? =some (.cells (zW t).toArray 29 (0,0))
 bel:Below p1 w wx
 rows:Rows wx p1 t.rows
 ges:p1<r2/\r2<q3
section
variable {w:World} {p1 r2 q3:Nat} {V:PV} {p:IProg} {t:PT} {wx:World} (h:OwMid w p1 r2 q3 V p t wx)
include h
theorem OwMid.sz:p1<=wx.heap.size:=Qd (lt_of_block h.h1)
theorem OwMid.grow {w1 w':World}{r r':Row}{rs ns:List Row}{t':PT}{i:Nat}{u:Value}(hp:t.rows.Perm (r::rs))(c:Y wx w1)(a1:Rows w1 wx.heap.size ns)(hg:w1.grownBy w' r.blk)
 (g:w'.ownsRow p1 r'.e r'.sz r'.v r'.n r'.cs) (a2:∀k,r'.blk=some k->r.blk=some k∨w1.heap.size<=k) (hq:(r'::(ns++rs)).Perm t'.rows) (hc:((zW t).toArray).setIfInBounds i u=(zW t').toArray):OwMid w p1 r2 q3 V p t' (w'.setCell ⟨q3,i,none⟩ u):=by
 have hr:=h.rows.perm hp;have ho:=hr.own r (.head _);have a0:r.e≠29:=vr r (hp.mem_iff.2 (.head _));have keep:∀ {b:Nat} {cs:Array Value},Q wx b cs 29->Q w' b cs 29:=fun hb=>zL hg (zH c hb (lt_of_block hb)) (zC ho hb (.inr a0))
 have y:wx.heap.size<=w'.heap.size:=Jn c.size hg.size;have l:Below p1 w w':=h.bel.trans ⟨hg.os.trans c.os,hg.tape.trans c.tape,hg.output.trans c.output,y,fun k hk=>(hg.block k (by have:=h.sz;have:=c.size;omega) (fun e=>by have:=(ho.lt k e.symm).1;omega)).trans (c.block k (by have:=h.sz;omega))⟩;have h1:Rows w1 p1 (r::(ns++rs)):=(hr.append a1 c h.sz).perm List.perm_middle;have j:Rows w' p1 (r'::(ns++rs)):=h1.grow (Below.refl _ _) hg g a2;have h3:=keep h.h3;have a3:=h.ges;refine⟨zR (keep h.h1) (by show p1≠q3;omega),zR (keep h.h2) (by show r2≠q3;omega),by rw[zD h3,hc],l.setCell (by show p1<=q3;omega) _,?_,h.ges⟩;have d:=j.perm hq;refine d.keep fun k hk=>Below.heap_setCell _ _ _ _ (fun e=>?_)
 obtain⟨x,o,m⟩:=Nj.1 hk;have e':k=q3:=e;subst e';exact zC (d.own x o) h3 (.inr (vr x o)) m
end
theorem ruG_ge{f:Nat}(h:ruG c=some f):3<=c:=by
 by_cases d:3<=c
 ·exact d
 ·simp only[ruG,putR] at h
  iterate 17 rw[if_neg Zo] at h
  cases h
theorem aip{K:SK}{p:IProg}{u:List IBlk}{s:Slv}(h:SlvAt w K p u k s)(av:Value)(h1:o.code≠1)(h2:o.code≠2)(h64:I64 o.code)(hr:ruG o.code=none):
 I 96 #[F K.sb,aam o av] w (be w (ag2 p s o)):=by
 rw[show ag2 p s o=lf by unfold ag2;rw[if_neg h1,if_neg h2];unfold ahG;rw[ruG_none hr]];obtain⟨c,d,a,b,n,al⟩:=o;have h1:c≠1:=h1;have h2:c≠2:=h2;have e1:(c==1)=false:=by simpa using h1
 have e2:(c==2)=false:=by simpa using h2
 have hr:ruG c=none:=hr
 have x:=Ja (show ∀W,Y w W->(Instr.lookup 95 (.map (some K.rm)) (U c) true).run Tryz.prog W=.ok (.tuple #[.nilFunc,.bool false]) W from fun W hb=>by
  have:=(h.below hb).map.lookOk h64
  rw[hr] at this;exact this)
 have y:=Ja (show ∀W,Y w W->A W K.sb 7 (.map (some K.rm)) from fun W hb=>(h.below hb).cells.2.1);unfold aam;clear h h1 h2 h64 hr;go_enter Tryz.func96,Tryz.ntmps96;go_upto_region 6 with(go_at_call 999999;skip)
 obtain⟨X,t⟩:∃X,(w.alloc (G #[U c,U d,U a,U b,O n,av] 76)).alloc (G #[O 0,O 0] 45)=X:=⟨_,rfl⟩
 have g:=Ja (show Y w X/\Q X w.heap.size #[U c,U d,U a,U b,O n,av] 76/\Q X (w.heap.size+1) #[O 0,O 0] 45 from by
  rw[<-t];exact⟨Zv,zB (zI rfl),zI Zs⟩)
 rw[t];clear t;have m:=Ja (show ∀W,Y X W->A W K.sb 7 (.map (some K.rm))/\A W w.heap.size 0 (U c) from fun W hb=>⟨y.out W (g.out.1.trans (hb.mono g.out.1.size)),zA (zH hb g.out.2.1 (lt_of_block g.out.2.1)) rfl⟩);obtain⟨c0,c1⟩:=m.out X (Below.refl _ _);have hl:=x.out X.drew g.out.1.drew
 go_region_held3 (fun w'=>A w' K.sb 7 (.map (some K.rm))/\A w' w.heap.size 0 (U c)) ((refine m.out _ ?_;repeat' (first|with_reducible exact Below.refl _ _|with_reducible assumption|with_reducible refine Below.drew ?_)))
  (fail)
 all_goals go_wp2_with (go_at_call 39;go_must (refine(aeH _).mono ?_;rintro e w1 ⟨rfl,l⟩;have j:Y X w1:=Below.trans (show Y X _ from Zf) (l.mono (Je _));clear l;have hk:=zH j g.out.2.2 (lt_of_block g.out.2.2);have f0:=zA (i:=0) hk rfl;have f1:=zA (i:=1) hk rfl;have g0:=zE (i:=0) hk;have g1:=zE (i:=1) hk;have a0:=lt_of_block hk;have a1:=g.out.1.trans (j.mono g.out.1.size)))
 all_goals (refine bodyPost_ret (v:=.agg #[O 0,O 65535]) ?_ rfl ⟨rfl,Zj⟩;rw[zM rfl];go_simp)
theorem ruG_mem{f:Nat}(h:ruG c=some f):f=70∨f=72∨f=73∨f=74∨f=75∨f=77∨f=78∨f=79∨f=81∨f=82∨f=84∨f=85∨f=86∨f=88∨f=89∨f=90∨f=91:=by
 simp only[ruG,putR] at h
 by_cases d:c=23
 ·rw[if_pos d] at h;cases h;simp
 rw[if_neg d] at h
 by_cases g:c=19
 ·rw[if_pos g] at h;cases h;simp
 rw[if_neg g] at h
 by_cases i:c=17
 ·rw[if_pos i] at h;cases h;simp
 rw[if_neg i] at h
 by_cases j:c=16
 ·rw[if_pos j] at h;cases h;simp
 rw[if_neg j] at h
 by_cases k:c=15
 ·rw[if_pos k] at h;cases h;simp
 rw[if_neg k] at h
 by_cases l:c=14
 ·rw[if_pos l] at h;cases h;simp
 rw[if_neg l] at h
 by_cases m:c=13
 ·rw[if_pos m] at h;cases h;simp
 rw[if_neg m] at h
 by_cases o:c=12
 ·rw[if_pos o] at h;cases h;simp
 rw[if_neg o] at h
 by_cases t:c=11
 ·rw[if_pos t] at h;cases h;simp
 rw[if_neg t] at h
 by_cases u:c=10
 ·rw[if_pos u] at h;cases h;simp
 rw[if_neg u] at h
 by_cases w:c=9
 ·rw[if_pos w] at h;cases h;simp
 rw[if_neg w] at h
 by_cases x:c=8
 ·rw[if_pos x] at h;cases h;simp
 rw[if_neg x] at h
 by_cases y:c=7
 ·rw[if_pos y] at h;cases h;simp
 rw[if_neg y] at h
 by_cases h6:c=6
 ·rw[if_pos h6] at h;cases h;simp
 rw[if_neg h6] at h
 by_cases h5:c=5
 ·rw[if_pos h5] at h;cases h;simp
 rw[if_neg h5] at h
 by_cases h4:c=4
 ·rw[if_pos h4] at h;cases h;simp
 rw[if_neg h4] at h
 by_cases h3:c=3
 ·rw[if_pos h3] at h;cases h;simp
 rw[if_neg h3] at h;cases h
theorem appF_by{x y r:Rg}(hr:af6 c x y=some r):ahG c x y=if(decide (c<=17) && (i7 x && (((c==3)||(c==4))||i7 y)))=true then(if exF c y.lo=true then ahH (exV c x.lo y.lo) else lf) else r:=by
 unfold ahG;rw[hr];simp only[Jm,Bool.or_eq_true,decide_eq_true_eq,beq_iff_eq]
 split
 ·unfold exF exV;simp only[decide_eq_true_eq]
  by_cases h:c=8/\y.lo=0
  ·rw[if_pos h,if_neg (fun k=>k h)]
  ·rw[if_neg h,if_pos h,if_neg h]
 ·rfl
theorem aiF{K:SK}{p:IProg}{e0:List IBlk}{s:Slv}(h:SlvAt w K p e0 k s)(av:Value)(h1:o.code≠1)(h2:o.code≠2)(h64:I64 o.code){f:Nat}(hr:ruG o.code=some f)
 (ha:0<=o.a/\o.a<K.n) (hb:0<=o.b/\o.b<K.n):
 I 96 #[F K.sb,aam o av] w (be w (ag2 p s o)):=by
 rw[show ag2 p s o=ahG o.code (s.get o.a) (s.get o.b) by unfold ag2;rw[if_neg h1,if_neg h2]];obtain⟨c,d,a,b,n,al⟩:=o;have h1:c≠1:=h1;have h2:c≠2:=h2;have e1:(c==1)=false:=by simpa using h1
 have e2:(c==2)=false:=by simpa using h2
 have hr:ruG c=some f:=hr;have h64:I64 c:=h64;have ha:0<=a/\a<K.n:=ha;have hb:0<=b/\b<K.n:=hb
 show Calls _ _ _ _ (be w (ahG c (s.get a) (s.get b)))
 have b4:=fun(W:World) (hW:Below w.heap.size w W)=>(h.below hW).rcell ha
 have b3:=fun(W:World) (hW:Below w.heap.size w W)=>(h.below hW).rcell hb
 have c8:=h.oks.get a;have c7:=h.oks.get b;obtain⟨u,rfl⟩:∃u:Nat,a=u:=⟨a.toNat,by omega⟩
 obtain⟨v,rfl⟩:∃v:Nat,b=v:=⟨b.toNat,by omega⟩
 generalize s.get (u:Int)=x at *;generalize s.get (v:Int)=y at *;have hn:=h.n64;have hu:u<K.n:=Zo;have hv:v<K.n:=Zo
 have HL:=Ja (show ∀W,Below w.heap.size w W->(Instr.lookup 95 (.map (some K.rm)) (U c) true).run Tryz.prog W=.ok (.tuple #[.func (.func f) #[] #[],.bool true]) W from fun W hb=>by
  have:=(h.below hb).map.lookOk h64
  rw[hr] at this;exact this)
 have HC:=Ja (show ∀W,Below w.heap.size w W->A W K.sb 7 (.map (some K.rm))/\A W K.sb 8 (T K.rb K.n K.n)/\A W K.rb (u*2) (O (x.lo:Int))/\A W K.rb (u*2+1) (O (x.hi:Int))/\A W K.rb (v*2) (O (y.lo:Int))/\A W K.rb (v*2+1) (O (y.hi:Int)) from fun W hb=>⟨(h.below hb).cells.2.1,(h.below hb).cells.2.2.1,(b4 W hb).1,(b4 W hb).2,(b3 W hb).1,(b3 W hb).2⟩);obtain⟨R,hR⟩:∃R,ahG c x y=R:=⟨_,rfl⟩
 have l:=Ja (Jb hr (Jb c8 (Jb c7 hR)));rw[hR];unfold aam;clear h h1 h2 h64 hr b4 b3 c8 c7 ha hb hR;go_enter Tryz.func96,Tryz.ntmps96;go_upto_region 6 with(go_at_call 999999;skip)
 obtain⟨X,hX⟩:∃X,(w.alloc (G #[U c,U d,U u,U v,O n,av] 76)).alloc (G #[O 0,O 0] 45)=X:=⟨_,rfl⟩
 have j:=Ja (show Below w.heap.size w X/\X.heap[w.heap.size]? =some (G #[U c,U d,U u,U v,O n,av] 76)/\X.heap[w.heap.size+1]? =some (G #[O 0,O 0] 45) from by
  rw[<-hX];exact⟨Zv,zB (zI rfl),zI Zs⟩)
 rw[hX];clear hX;have b6:=Ja (show ∀W,Below X.heap.size X W->A W K.sb 7 (.map (some K.rm))/\A W w.heap.size 0 (U c) from fun W hb=>⟨(HC.out W (j.out.1.trans (hb.mono j.out.1.size))).1,zA (zH hb j.out.2.1 (lt_of_block j.out.2.1)) rfl⟩);have b5:=Ja (show ∀W,Below X.heap.size X W->(A W w.heap.size 2 (U u)/\A W w.heap.size 3 (U v))/\(A W K.sb 8 (T K.rb K.n K.n)/\A W K.rb (u*2) (O (x.lo:Int))/\A W K.rb (u*2+1) (O (x.hi:Int))/\A W K.rb (v*2) (O (y.lo:Int))/\A W K.rb (v*2+1) (O (y.hi:Int))) from fun W hb=>⟨⟨zA (zH hb j.out.2.1 (lt_of_block j.out.2.1)) rfl,zA (zH hb j.out.2.1 (lt_of_block j.out.2.1)) rfl⟩,(HC.out W (j.out.1.trans (hb.mono j.out.1.size))).2⟩);obtain⟨c0,c1⟩:=b6.out X (Below.refl _ _);have hl:=HL.out X.drew j.out.1.drew
 go_region_held3 (fun w'=>A w' K.sb 7 (.map (some K.rm))/\A w' w.heap.size 0 (U c)) ((refine b6.out _ ?_;repeat' (first|with_reducible exact Below.refl _ _|with_reducible assumption|with_reducible refine Below.drew ?_)))
  (fail)
 all_goals go_upto_region 9 with(go_at_call 999999;skip)
 all_goals clear c0 c1 hl
 go_cut [7,8] (fun s t wx=>∃b7 b8,s=F b7/\t=F b8/\Hid (wx.heap[b7]? =some (G #[O (x.lo:Int),O (x.hi:Int)] 45)/\wx.heap[b8]? =some (G #[O (y.lo:Int),O (y.hi:Int)] 45)/\Below X.heap.size X wx))
 case first=>
  obtain⟨⟨c0,c1⟩,c2,c3,c4,c5,c6⟩:=b5.out X.drew (Below.refl _ _).drew
  go_region_held3 (fun w'=>(A w' w.heap.size 2 (U u)/\A w' w.heap.size 3 (U v))/\(A w' K.sb 8 (T K.rb K.n K.n)/\A w' K.rb (u*2) (O (x.lo:Int))/\A w' K.rb (u*2+1) (O (x.hi:Int))/\A w' K.rb (v*2) (O (y.lo:Int))/\A w' K.rb (v*2+1) (O (y.hi:Int)))) ((refine b5.out _ ?_;repeat' (first|with_reducible exact Below.refl _ _|with_reducible assumption|with_reducible refine Below.drew ?_|with_reducible refine Below.alloc ?_ Zn _|with_reducible refine Below.setCell ?_ Zn _)))
  (fail)
  all_goals go_wp2_with fail
  all_goals go_meet
  all_goals exact⟨_,_,rfl,rfl,by first|exact zB (zI rfl)|exact zI Zs,by first|exact zB (zI rfl)|exact zI Zs,by repeat' (first|with_reducible exact Below.refl _ _|with_reducible assumption|with_reducible refine Below.drew ?_|with_reducible refine Below.alloc ?_ Zn _|with_reducible refine Below.setCell ?_ Zn _)⟩
 case rest=>
  obtain⟨b7,b8,rfl,rfl,HY⟩:=hcut
  rename World=>Y
  have d1:=j.out.1.trans (HY.out.2.2.mono j.out.1.size);have d2:=zH HY.out.2.2 j.out.2.2 (lt_of_block j.out.2.2);have d3:=zH HY.out.2.2 j.out.2.1 (lt_of_block j.out.2.1);have HB:=Ja (Jb d1 (Jb d3 d2));clear d1 d2 d3 b5 b6 HC HL;have HZ:=Ja (show ∀W,Below Y.heap.size Y W->A W b7 0 (O (x.lo:Int))/\A W b7 1 (O (x.hi:Int))/\A W b8 0 (O (y.lo:Int))/\A W b8 1 (O (y.hi:Int))/\A W w.heap.size 0 (U c) from fun W hb=>⟨zA (zH hb HY.out.1 (lt_of_block HY.out.1)) rfl,zA (zH hb HY.out.1 (lt_of_block HY.out.1)) rfl,zA (zH hb HY.out.2.1 (lt_of_block HY.out.2.1)) rfl,zA (zH hb HY.out.2.1 (lt_of_block HY.out.2.1)) rfl,zA (zH hb HB.out.2.1 (lt_of_block HB.out.2.1)) rfl⟩);obtain⟨q3,h3⟩:∃q,(c==3)=q:=⟨_,rfl⟩
  obtain⟨q4,h4⟩:∃q,(c==4)=q:=⟨_,rfl⟩
  obtain⟨z0,z1,z2,z3,z4⟩:=HZ.out Y (Below.refl _ _);go_upto_region 10 with(go_at_call 999999;skip)
  go_cut [9] (fun s wx=>s=.bool (q3||q4)/\wx=Y)
  case first=>
   cases q3;cases q4
   all_goals go_wp2_with fail
   all_goals go_meet
   all_goals exact⟨rfl,rfl⟩
  case rest=>
   obtain⟨rfl,b9⟩:=hcut;rw[b9];clear b9;obtain⟨q9,h9⟩:∃q,(q3||q4)=q:=⟨_,rfl⟩
   obtain⟨sx,a6⟩:∃q,i7 x=q:=⟨_,rfl⟩
   obtain⟨sy,a5⟩:∃q,i7 y=q:=⟨_,rfl⟩
   obtain⟨Q,hQ⟩:∃Q,(decide (c<=17) && (sx && (q9||sy)))=Q:=⟨_,rfl⟩
   have a4:=Ja (fun W=>afD W x);have d7:=Ja (fun W=>afD W y);rw[a6] at a4;rw[a5] at d7;rw[h9];go_upto_region 11 with(go_at_call 999999;skip)
   have HQ:=Ja (Jb h3 (Jb h4 (Jb h9 (Jb a6 (Jb a5 hQ)))));clear h3 h4 h9 a6 a5
   go_cut [85] (fun s wx=>s=.bool Q/\Hid (Below Y.heap.size Y wx))
   case first=>
    by_cases d5:c<=17
    ·rw[decide_eq_true d5,Bool.true_and] at hQ;cases sx
     ·go_wp2_with (go_at_call 83;go_must (refine(a4.out _).mono ?_;rintro e w1 ⟨rfl,g⟩))
      go_meet;exact⟨by rw[<-hQ];rfl,g⟩
     ·cases q9
      ·go_wp2_with (go_at_call 83;go_must (first|(refine(a4.out Y).mono ?_;rintro e w1 ⟨rfl,g⟩;obtain⟨z0,z1,z2,z3,z4⟩:=HZ.out w1 g)|(refine(d7.out _).mono ?_;rintro e w2 ⟨rfl,a1⟩)))
       go_meet;exact⟨by rw[<-hQ];rfl,g.trans (a1.mono g.size)⟩
      ·go_wp2_with (go_at_call 83;go_must (refine(a4.out _).mono ?_;rintro e w1 ⟨rfl,g⟩))
       go_meet;exact⟨by rw[<-hQ];rfl,g⟩
    ·rw[decide_eq_false d5,Bool.false_and] at hQ;subst hQ;go_wp2_with fail;go_meet;exact⟨rfl,Below.refl _ _⟩
   case rest=>
    obtain⟨rfl,HW⟩:=hcut
    rename World=>Z
    have d4:=HB.out.1.trans (HW.out.mono HB.out.1.size);have a7:=zH HW.out HB.out.2.2 (lt_of_block HB.out.2.2);have HR:=Ja (Jb d4 a7);clear d4 a7;obtain⟨r,a2,_⟩:=ai2 l.out.1 l.out.2.1 l.out.2.2.1 Z
    have HF:=Ja (show ∀W,I f #[.agg #[O (x.lo:Int),O (x.hi:Int)],.agg #[O (y.lo:Int),O (y.hi:Int)]] W (fun e w'=>e=.returned (.agg #[O (r.lo:Int),O (r.hi:Int)])/\Below W.heap.size W w') from fun W=>by
     obtain⟨r',h1,h2⟩:=ai2 l.out.1 l.out.2.1 l.out.2.2.1 W;rw[a2] at h1;cases h1
     exact h2)
    have hR:=appF_by a2;rw[l.out.2.2.2,HQ.out.1,HQ.out.2.1,HQ.out.2.2.1,HQ.out.2.2.2.1,HQ.out.2.2.2.2.1,HQ.out.2.2.2.2.2] at hR;have d9:=ruG_ge l.out.1;clear z0 z1 z2 z3 z4;obtain⟨z0,z1,z2,z3,z4⟩:=HZ.out Z HW.out;cases Q
    ·rw[if_neg Zd] at hR;subst hR;clear a2;rcases ruG_mem l.out.1 with rfl|rfl|rfl|rfl|rfl|rfl|rfl|rfl|rfl|rfl|rfl|rfl|rfl|rfl|rfl|rfl|rfl
     all_goals go_wp2_with ((first|go_at_call 70|go_at_call 72|go_at_call 73|go_at_call 74|go_at_call 75|go_at_call 77|go_at_call 78|go_at_call 79|go_at_call 81|go_at_call 82|go_at_call 84|go_at_call 85|go_at_call 86|go_at_call 88|go_at_call 89|go_at_call 90|go_at_call 91);go_must (refine(HF.out _).mono ?_;rintro e w1 ⟨rfl,g⟩;have m:Below Z.heap.size Z w1:=Below.trans (show Below Z.heap.size Z _ from Zf) (g.mono (Je _));clear g;have hk:=zH m HR.out.2 (lt_of_block HR.out.2);have f0:=zA (i:=0) hk rfl;have f1:=zA (i:=1) hk rfl;have g0:=zE (i:=0) hk;have g1:=zE (i:=1) hk;have c9:=lt_of_block hk;have d0:=HR.out.1.trans (m.mono HR.out.1.size)))
     all_goals (refine bodyPost_ret (v:=.agg #[O (R.lo:Int),O (R.hi:Int)]) ?_ rfl ⟨rfl,Zj⟩;rw[zM rfl];go_simp)
    ·rw[if_pos rfl] at hR
     have d8:c<=17:=by
      have:=HQ.out.2.2.2.2.2;simp only[Jm,decide_eq_true_eq] at this;exact this.1
     obtain⟨fv,b0⟩:∃q,exF c y.lo=q:=⟨_,rfl⟩
     obtain⟨ev,b1⟩:∃q,exV c x.lo y.lo=q:=⟨_,rfl⟩
     have b2:=fun W=>akH ⟨d9,d8⟩ (Nat.lt_of_le_of_lt (Jn l.out.2.1.1 l.out.2.1.2) Zd) (Nat.lt_of_le_of_lt (Jn l.out.2.2.1.1 l.out.2.2.1.2) Zd) W (a:=x.lo) (b:=y.lo)
     have a3:R=if fv=true then ahH ev else lf:=by rw[<-b0,<-b1];exact hR
     rw[b0,b1] at b2;have d6:=Ja b2;have HO:=Ja (fun W=>agN W ev);clear b2 hR b0 b1 a2;cases fv
     ·rw[if_neg Zd] at a3;subst a3
      go_wp2_with (first
       |(go_at_call 123;go_must (refine(d6.out _).mono ?_;rintro e w1 ⟨rfl,g⟩;have a0:Below Z.heap.size Z w1:=Below.trans (show Below Z.heap.size Z _ from Zf) (g.mono (Je _));clear g))
       |(go_at_call 39;go_must (refine(aeH _).mono ?_;rintro e w2 ⟨rfl,a1⟩;have m:=a0.trans (a1.mono a0.size);clear a1 a0;have hk:=zH m HR.out.2 (lt_of_block HR.out.2);have f0:=zA (i:=0) hk rfl;have f1:=zA (i:=1) hk rfl;have g0:=zE (i:=0) hk;have g1:=zE (i:=1) hk;have c9:=lt_of_block hk;have d0:=HR.out.1.trans (m.mono HR.out.1.size))))
      refine bodyPost_ret (v:=.agg #[O 0,O 65535]) ?_ rfl ⟨rfl,Zj⟩;rw[zM rfl];go_simp
     ·rw[if_pos rfl] at a3;subst a3
      go_wp2_with (first
       |(go_at_call 123;go_must (refine(d6.out _).mono ?_;rintro e w1 ⟨rfl,g⟩;have a0:Below Z.heap.size Z w1:=Below.trans (show Below Z.heap.size Z _ from Zf) (g.mono (Je _));clear g))
       |(go_at_call 122;go_must (refine(HO.out _).mono ?_;rintro e w2 ⟨rfl,a1⟩;have m:=a0.trans (a1.mono a0.size);clear a1 a0;have hk:=zH m HR.out.2 (lt_of_block HR.out.2);have f0:=zA (i:=0) hk rfl;have f1:=zA (i:=1) hk rfl;have g0:=zE (i:=0) hk;have g1:=zE (i:=1) hk;have c9:=lt_of_block hk;have d0:=HR.out.1.trans (m.mono HR.out.1.size))))
      refine bodyPost_ret (v:=.agg #[O ev,O ev]) ?_ rfl ⟨rfl,Zj⟩;rw[zM rfl];go_simp
end Go.Proofs.YtoahcpkibpomcaaGreat
