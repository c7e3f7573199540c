/- Part of a proof. -/
import Derived.Test.YtojclalkfhoooaaGLift8
set_option linter.all false
set_option maxHeartbeats 8000000
set_option maxRecDepth 100000
namespace Go.Proofs.Ytojclalkfhoooaa
open Go.RowKit
variable {w w' w0:World}{c vb vn:Nat}{es:Array _}{K:MK}{m:Mach}
theorem nQ{b q:Nat}{v:Value}(d:G w b q v)(hm:w.heap[vb]? =some (.map es c)):b≠vb:=by
 rintro rfl;simp[World.cell?,hm] at d
theorem MachAt.grownMap{ov:Value}(h:MachAt w K m ov)(hm:w.heap[vb]? =some (.map es c))(hB:K.B<=vb)(hg:w.grownBy w' (some vb)):MachAt w' K m ov:=by
 have n1:vb≠K.pm:=by rintro rfl;rw[h.blk] at hm;cases hm
 have n2:vb≠K.rb:=by rintro rfl;rw[h.ram] at hm;cases hm
 have hb:Below K.B w w':=(Below.refl _ _).grown hg (Qd h.size) (fun k hk=>by simp at hk;omega);refine⟨zL hg h.blk (by simpa using n1),zL hg h.ram (by simpa using n2),h.rlen,h.rlt,h.out.kept hg ?_,h.olt,h.obd,h.fuel,h.inp,h.pol,h.gpm,h.grb,h.prog.below hb,h.inn.below zr hb,h.irq.below xQ hb⟩;rcases h.out.2 with⟨hv,_⟩|⟨g,cap,cur,hv,_,d,_⟩
 ·left;rw[hv];rfl
 ·right;rw[hv];intro e;simp only[Value.ownBlock,Option.some.injEq] at e;subst e;rw[d] at hm;cases hm
theorem Frm.grownMap{B:Nat}(h:Frm B w0 w)(c:w0.heap.size<=vb)(hB:B<=w0.heap.size)(hg:w.grownBy w' (some vb)):Frm B w0 w':=
 ⟨h.below.grown hg (Jn hB h.below.size) (fun k hk=>by simp at hk;omega),fun k o hk hs=>zL hg (h.kept k o hk hs) (by have:=lt_of_block hk;simp;omega)⟩
theorem U16s.grownMap{B:Nat}{v:Value}{xs:List Nat}(h:wV w B v xs)(hm:w.heap[vb]? =some (.map es c))(hg:w.grownBy w' (some vb)):wV w' B v xs:=by
 obtain⟨a,cap,rfl,h1,h2,h3⟩:=h;refine⟨a,cap,rfl,h1,h2,fun k x hk=>?_⟩;obtain⟨b,o,j,i,d,g⟩:=h3 k x hk;exact⟨b,o,j,i,hg.cell d (by simpa using nQ d hm),g⟩
structure CSt (K:MK) (w0 w:World) (m:Mach) (vb vn:Nat) (v:Int->Nat):Prop where
 mach:∃ov,MachAt w K m ov
 frm:Frm K.B w0 w
 map:xO w vb vn v
 new:w0.heap.size<=vb
 gb:K.B<w0.heap.size
theorem CSt.alloc{v:Int->Nat}(h:CSt K w0 w m vb vn v)(o:Obj):CSt K w0 (w.alloc o) m vb vn v:=by
 obtain⟨ov,hm⟩:=h.mach;exact⟨⟨ov,hm.keep ((Below.refl _ _).alloc (Je _) o)⟩,h.frm.trans ((Frm.refl _ _).alloc (by have:=hm.size;omega) o),h.map.kept ((Frm.refl K.B w).alloc (by have:=hm.size;omega) o),h.new,h.gb⟩
theorem CSt.store{n':Nat}{v v':Int->Nat}(h:CSt K w0 w m vb vn v)(hm:xO w' vb n' v')(hg:w.grownBy w' (some vb)):CSt K w0 w' m vb n' v':=by
 obtain⟨ov,d⟩:=h.mach;obtain⟨es,c,hb⟩:=h.map.blk;exact⟨⟨ov,d.grownMap hb (by have:=h.new;have:=h.gb;omega) hg⟩,h.frm.grownMap h.new (Qd h.gb) hg,hm,h.new,h.gb⟩
theorem CSt.step {K:MK}{w0 w w':World}{m m':Mach}{vb vn:Nat}{v:Int->Nat}{c:Value}(h:CSt K w0 w m vb vn v)(g:MachAt w' K m' c)(d:Frm K.B w w'):CSt K w0 w' m' vb vn v:=
 ⟨⟨c,g⟩,h.frm.trans d,h.map.kept d,h.new,h.gb⟩
theorem CSt.keep{v:Int->Nat}(h:CSt K w0 w m vb vn v)(hb:F w w'):CSt K w0 w' m vb vn v:=by
 obtain⟨ov,hm⟩:=h.mach;exact h.step (hm.keep hb) ⟨hb.mono (Qd hm.size),fun i o hi _=>zH hb hi (lt_of_block hi)⟩
theorem iA (K:MK):pq K 0:=by
 intro w m ov av f args h d c g hl;obtain⟨aa,ac,rfl,_,_⟩:=g.form;have j:(100:Int)<101:=Zo;have i:=Ja h;clear h g hl d c;go_enter Try.func52,Try.ntmps52;go_wp2_with (go_at_call 80;go_must (refine(wj 5 0 _).mono ?_;rintro e w' ⟨rfl,rfl⟩))
 exact⟨rfl,zQ.trap i.out (Frm.refl _ _)⟩
def jw (K:MK)(w0 wx:World)(r n:Nat)(blocks:List IBlk)(vb:Nat)(at':Nat)(av:Value)(R:Res Nat):Prop:=
 ∃(args:List Nat) (v:Int->Nat) (m:Mach) (vn:Nat),CSt K w0 wx m vb vn v/\wV wx wx.heap.size av args/\args.length=(xz blocks at').params.length/\at'<blocks.length/\m.fuel.toNat<n/\vn+m.fuel.toNat*70000<=300000000000/\tJ K.E (xW K.E r) blocks n at' args v m=R
theorem rh {blocks:List IBlk}{a:Nat}(h:a<blocks.length):blocks[a]? =some (xz blocks a):=by
 unfold xz;rw[Ni,Jj,Jd h];rfl
theorem ru (E:IEnv)(call:Int->List Nat->Mach->Res Nat)(blocks:List IBlk)(n:Nat)(a:Int)(args:List Nat)(v:Int->Nat)(m:Mach):tJ E call blocks (n+1) a args v m=
 match iq E call (xz blocks a).ops (r7 (xz blocks a).params args v) m with
 |.trap k i m'=> .trap k i m'
 |.ok v2 m2=>
  if m2.fuel<=0 then .trap 7 0 m2
  else if(xz blocks a).term.kind=4 then .ok (if(xz blocks a).term.a=-1 then 0 else v2 (xz blocks a).term.a) m2.pay
  else if(xz blocks a).term.kind=5 then .trap 1 0 m2.pay
  else tJ E call blocks n (wK (xz blocks a).term (v2 (xz blocks a).term.a)).block ((wK (xz blocks a).term (v2 (xz blocks a).term.a)).args.map v2) v2 m2.pay:=rfl
theorem j7 (E:IEnv)(call:Int->List Nat->Mach->Res Nat)(o:IOp)(os:List IOp)(v:Int->Nat)(m:Mach):iq E call (o::os) v m=
 if m.fuel<=0 then .trap 7 0 m
 else match oV E call o v m.pay with
  |.ok r m'=>iq E call os (setV v o.res r) m'
  |.trap k i m'=> .trap k i m':=rfl
theorem bd_next{p1 p2:Nat}(h1:vn+p2*70000<=300000065536)(c:p1+1=p2):vn+p1*70000<=300000000000:=by
 subst c;rw[Nat.add_mul,<-Nat.add_assoc] at h1;exact Jn (Nat.le_of_add_le_add_right (b:=70000) (show vn+p1*70000+70000<=299999995536+70000 from h1)) Zd
def OpsSt (K:MK)(w0 wx:World)(r:Nat)(vb b12:Nat)(cs:Array Value)(m1:Mach)(os:List IOp)(R:Res (Int->Nat)):Prop:=
 ∃(v:Int->Nat) (m:Mach) (vn:Nat),CSt K w0 wx m vb vn v/\L wx b12 cs 49/\vn+m.fuel.toNat*70000<=300000065536/\m.fuel<=m1.fuel/\iq K.E (xW K.E r) os v m=R
theorem jC (K:MK)(p6:OkProg K.E.p)(r:Nat)(hr:r+1<=100)(hC:pq K r):pq K (r+1):=by
 intro w m ov av f args h v3 d7 ha hl;obtain⟨aa,ac,rfl,_,_⟩:=ha.form;obtain⟨k,rfl⟩:∃k:Nat,f=(k:Int):=⟨f.toNat,by omega⟩
 have i5:=h.prog.funcs;obtain⟨fa,fc,r1,_,_⟩:=i5.form;have c0:=h.c0;rw[r1] at i5 c0;have q7:k<K.E.p.funcs.length:=Zo;obtain⟨blocks,i7⟩:∃bl,K.E.p.funcs[k]? =some bl:=⟨_,Jd q7⟩
 obtain⟨fb,fo,rfl,_,bv,v5,m5⟩:=i5.get i7;rw[Nk] at v5;obtain⟨ba,bc,rfl,_,x8⟩:=m5.form;have r0:K.E.p.funcs.getD (k:Int).toNat []=blocks:=by rw[Ni,Jj,i7];rfl
 have z2:(k:Int)<K.E.p.funcs.length:=Zo;have l6:(101-((r+1:Nat):Int))=100-(r:Int):=Zo;have z4:¬(100:Int)<100-(r:Int):=Zo
 have k0:xW K.E (r+1) k args m=if blocks.isEmpty then .trap 8 ((k:Int)%65536).toNat m else tJ K.E (xW K.E r) blocks (m.fuel.toNat+1) 0 args (fun _=>0) m:=by
  show(if(K.E.p.funcs.getD (k:Int).toNat []).isEmpty then _ else _)=_
  rw[r0]
 have HM:=Ja h;have x4:=Ja m5;have HC:=Ja hC;have n8:=Ja p6;have s5:=Ja i7;have HA:=Ja (Jb ha hl);have hB:=h.size;rw[l6];have n4:=Ja k0;clear h i5 r1 q7 v3 d7 r0 m5 hC p6 i7 ha hl l6 k0
 by_cases f8:blocks.length=0
 ·have t1:((blocks.length:Int)==0)=true:=by rw[beq_iff_eq];omega
  have EE:=Ja (show xW K.E (r+1) k args m=.trap 8 ((k:Int)%65536).toNat m by rw[n4.out,if_pos (by rw[List.isEmpty_iff];exact Nz f8)]);obtain⟨q,hq⟩:∃q:Nat,((k:Int)%65536).toNat=q:=⟨_,rfl⟩
  have y6:IntKind.u16.wrap (k:Int)=(q:Int):=by rw[xY];omega
  rw[hq] at EE;clear f8 hq;go_enter Try.func52,Try.ntmps52;go_wp2_with (go_at_call 80;go_must (refine(wj 8 q _).mono ?_;rintro e w' ⟨rfl,rfl⟩))
  exact⟨rfl,by rw[EE.out];exact zQ.trap HM.out (Frm.refl _ _)⟩
 ·have t1:((blocks.length:Int)==0)=false:=Ze;have EE:=Ja (show xW K.E (r+1) k args m=tJ K.E (xW K.E r) blocks (m.fuel.toNat+1) 0 args (fun _=>0) m by rw[n4.out,if_neg (by rw[List.isEmpty_iff];intro e;exact f8 (by rw[e];rfl))]);obtain⟨RES,h9⟩:∃R,xW K.E (r+1) k args m=R:=⟨_,rfl⟩
  have k7:Hid (jw K w (w.alloc (.map #[] 0)) r (m.fuel.toNat+1) blocks w.heap.size 0 (.slice aa args.length ac) RES):=by
   refine⟨args,fun _=>0,m,0,⟨⟨ov,HM.out.keep ((Below.refl _ _).alloc (Je _) _)⟩,(Frm.refl _ _).alloc (Qd hB) _,xO.made w,Je _,hB⟩,?_,?_,by omega,by omega,?_,?_⟩
   ·exact(HA.out.1.below zr ((Below.refl _ _).alloc (Je _) _)).mono zr Zs
   ·obtain⟨b,bs,rfl⟩:∃b bs,blocks=b::bs:=by
     cases blocks with
     |nil=>exact absurd rfl f8
     |cons b bs=>exact⟨b,bs,rfl⟩
    have h1:=n8.out.par k b bs s5.out;have h2:=HA.out.2;rw[Ni] at h2
    show args.length=b.params.length
    omega
   ·have:=HM.out.obd;omega
   ·rw[<-h9,EE.out];rfl
  rw[h9];have s4:=Ja (show ∀b∈blocks,OkBlk K.E.p blocks b from n8.out.blk blocks (Ji s5.out));have q6:0<blocks.length:=Zo;have z6:=Ja q6;clear f8 h9 EE n4 q6 HA;generalize u2:m.fuel.toNat+1=gas at k7;clear u2;have z1:=@run_makeMap Try.prog;go_enter Try.func52,Try.ntmps52;go_wp2
  go_loopg [2,11] gas (fun n sv atv wx=>∃(at':Nat) (sa:Option Addr) (sn sc:Nat),sv=.slice sa sn sc/\atv=A at'/\Hid (jw K w wx r n blocks w.heap.size at' (.slice sa sn sc) RES))
  case atStart=>exact⟨0,aa,args.length,ac,rfl,rfl,k7⟩
  case round=>
   obtain⟨at',sa,sn,sc,rfl,rfl,HS⟩:=hrel
   cases gk with
   |zero=>obtain⟨_,_,m1,_,_,_,_,_,u9,_⟩:=HS.out;exact absurd u9 (Nat.not_lt_zero _)
   |succ n=>
    obtain⟨args1,v1,m1,vn1,d8,f0,r5,n0,r2,r4,c⟩:=HS.out;obtain⟨sa',sc',e1,_,_⟩:=f0.form;cases e1;have u3:=x4.out.get (rh n0);have l2:=s4.out _ (Ji (rh n0));generalize m6:xz blocks at'=bk at *;have i1:=Ja m6;obtain⟨bb,bo,rfl,e0,k2,k3,q8,pv,ov1,tv,kp,ko,kt,l0,l1,k4⟩:=u3;have k2:=zV d8.frm.below e0 k2;have k3:=zV d8.frm.below e0 k3;have kp:=zV d8.frm.below e0 kp;have ko:=zV d8.frm.below e0 ko;have kt:=zV d8.frm.below e0 kt;obtain⟨pa,pc,rfl,_,_⟩:=l0.form;obtain⟨oa,oc,rfl,_,_⟩:=l1.form;obtain⟨ta,tc,rfl,_,_⟩:=k4.form;have x9:(at':Int)<blocks.length:=Zo;have x2:=Ja d8;have b9:=Ja (Jb f0 r5);have e5:=Ja (Jb c (Jb r2 r4));have c4:=Ja l2;have h0:=Ja (Jb l0 (Jb l1 (Jb k4 q8)));clear k7 HS d8 f0 r5 r2 r4 c l2 m6 l0 l1 k4 q8 n0;go_upto_region 9 with fail;have l9:=x2.out.alloc (U #[.slice pa bk.params.length pc,.slice oa bk.ops.length oc,A bk.term.kind,A bk.term.a,.slice ta bk.term.to.length tc] 49);have d:=zI (W:=wr) (o:=U #[.slice pa bk.params.length pc,.slice oa bk.ops.length oc,A bk.term.kind,A bk.term.a,.slice ta bk.term.to.length tc] 49) rfl;have f9:=(b9.out.1.below zr ((Below.refl _ _).alloc (Je _) (U #[.slice pa bk.params.length pc,.slice oa bk.ops.length oc,A bk.term.kind,A bk.term.a,.slice ta bk.term.to.length tc] 49))).mono zr (B':=(wr.alloc (U #[.slice pa bk.params.length pc,.slice oa bk.ops.length oc,A bk.term.kind,A bk.term.a,.slice ta bk.term.to.length tc] 49)).heap.size) Zs;generalize w2:wr.alloc (U #[.slice pa bk.params.length pc,.slice oa bk.ops.length oc,A bk.term.kind,A bk.term.a,.slice ta bk.term.to.length tc] 49)=W1 at *;generalize wr.heap.size=b12 at *;have y4:=K0 d;have r6:=Ja (show CSt K w W1 m1 w.heap.size vn1 v1/\wV W1 W1.heap.size (.slice sa args1.length sc) args1/\L W1 b12 #[.slice pa bk.params.length pc,.slice oa bk.ops.length oc,A bk.term.kind,A bk.term.a,.slice ta bk.term.to.length tc] 49 from⟨l9,f9,d⟩);have z0:=c4.out.2.2;clear w2 l9 f9 d k2 k3 kp ko kt;go_wp2
    go_loopw [47] (fun jv wx=>∃j:Nat,j<=bk.params.length/\jv=A j/\Hid (CSt K w wx m1 w.heap.size (vn1+j) (r7 (bk.params.take j) (args1.take j) v1)/\wV wx wx.heap.size (.slice sa args1.length sc) args1/\L wx b12 #[.slice pa bk.params.length pc,.slice oa bk.ops.length oc,A bk.term.kind,A bk.term.a,.slice ta bk.term.to.length tc] 49)) (fun jv _=>bk.params.length-(intOf jv).toNat)
    case atStart=>exact⟨0,Jt _,rfl,r6.out⟩
    case round=>
     obtain⟨j,hj,rfl,HJ⟩:=hrel
     by_cases a0:j<bk.params.length
     ·skip
      have e6:(j:Int)<bk.params.length:=Zo;have b4:=Ja a0;obtain⟨x,hx⟩:∃x,bk.params[j]? =some x:=⟨_,Jd a0⟩
      obtain⟨y,hy⟩:∃y,args1[j]? =some y:=⟨_,Jd (by rw[b9.out.2];exact a0)⟩
      obtain⟨b1,o1,rfl,a7,m0,u0⟩:=h0.out.1.get hx;rw[Nk] at m0;have cp:=zV HJ.out.1.frm.below a7 m0;obtain⟨b2,o2,rfl,v9,v4,t8⟩:=HJ.out.2.1.get hy;rw[Nk] at v4;have y5:(j:Int)<args1.length:=by have:=b9.out.2;omega
      have k9:=qq (bk.params.take j) (args1.take j) v1 x y (by have:=b9.out.2;rw[Oc,Oc];omega);have e1:bk.params.take (j+1)=bk.params.take j++ [x]:=by rw[Nh,hx];rfl
      have e2:args1.take (j+1)=args1.take j++ [y]:=by rw[Nh,hy];rfl
      rw[<-e1,<-e2] at k9;have w9:=Ja k9;have j4:vn1+j<9000000000000000000:=by have:=e5.out.2.2;omega
      obtain⟨es,ec,c7⟩:=HJ.out.1.map.blk;have s2:=Ja c7;clear hx hy m0 k9 e1 e2 a7 v9 a0 c7;go_wp2_with (at_mapUpdate;go_must (refine us rfl (.tmp 52) (.tmp 53) (.tmp 57) rfl HJ.out.1.map j4 x y rfl rfl rfl u0 t8 ?_;intro w5 f5 f7;have b8:=Ja (Jb f5 f7);clear f5 f7))
      go_roundw
      case rel=>
       refine⟨j+1,b4.out,by go_num,?_,?_,?_⟩
       ·rw[w9.out];exact HJ.out.1.store b8.out.1 b8.out.2
       ·exact(U16s.grownMap HJ.out.2.1 s2.out b8.out.2).mono zr b8.out.2.size
       ·refine zL b8.out.2 HJ.out.2.2 ?_;intro e;have c7:=s2.out;rw[Nt e,HJ.out.2.2] at c7;cases c7
      case measure=>have:=b4.out;simp[intOf];omega
     ·skip
      obtain rfl:j=bk.params.length:=by omega
      have e6:¬(bk.params.length:Int)<bk.params.length:=Zo;have i4:r7 (bk.params.take bk.params.length) (args1.take bk.params.length) v1=r7 bk.params args1 v1:=by rw[Nl,<-b9.out.2,Nl]
      have HQ:=HJ.out;rw[i4] at HQ;have w8:=Ja HQ;have y3:=K1 HQ.2.2;obtain⟨OR,n1⟩:∃R,iq K.E (xW K.E r) bk.ops (r7 bk.params args1 v1) m1=R:=⟨_,rfl⟩
      have n7:=Ja n1;generalize l8:(#[.slice pa bk.params.length pc,.slice oa bk.ops.length oc,A bk.term.kind,A bk.term.a,.slice ta bk.term.to.length tc]:Array Value)=cs at *;have x3:=Ja l8;have k5:Hid (OpsSt K w wr r w.heap.size b12 cs m1 (bk.ops.drop 0) OR):=⟨_,m1,_,HQ.1,HQ.2.2,by have:=e5.out.2.2;have:=c4.out.2.2;omega,Og _,n1⟩
      clear HQ i4 HJ n1 w8 l8 r6;go_wp2
      go_loopw [62] (fun jv wx=>∃j:Nat,j<=bk.ops.length/\jv=A j/\Hid (OpsSt K w wx r w.heap.size b12 cs m1 (bk.ops.drop j) OR)) (fun jv _=>bk.ops.length-(intOf jv).toNat)
      case atStart=>exact⟨0,Jt _,rfl,k5⟩
      case round=>
       obtain⟨j,hj,rfl,HJ⟩:=hrel
       by_cases a0:j<bk.ops.length
       ·skip
        have e6:(j:Int)<bk.ops.length:=Zo;have b4:=Ja a0;obtain⟨o,ho⟩:∃o,bk.ops[j]? =some o:=⟨_,Jd a0⟩
        have i6:bk.ops.drop j=o::bk.ops.drop (j+1):=by rw[Qn a0];rw[Jd a0] at ho;rw[Nt ho]
        obtain⟨v2,m2,vn2,i,d,d9,d7,b3⟩:=HJ.out;rw[i6,j7] at b3;obtain⟨b1,o1,rfl,a7,g0,g1,g2,g3,g4,l3,av3,g5,j3⟩:=h0.out.2.1.get ho;obtain⟨xa,xc,rfl,_,_⟩:=j3.form;have d0:=zV i.frm.below a7 g0;have d1:=zV i.frm.below a7 g1;have d2:=zV i.frm.below a7 g2;have d3:=zV i.frm.below a7 g3;have d4:=zV i.frm.below a7 g4;have d5:=zV i.frm.below a7 g5;have f1:=Ja i;have u5:=Ja d;have f2:=Ja (Jb d9 (Jb d7 b3));have n3:=Ja (Jb j3 l3);have x0:=Ja (c4.out.1 o (Ji ho));clear i d d9 d7 b3 j3 l3 i6 g0 g1 g2 g3 g4 g5 a7 a0 ho;go_upto_region 17 with fail;have a2:=f1.out.alloc (U (D o xa xc) 77);have g:=zI (W:=wr) (o:=U (D o xa xc) 77) rfl;have j1:=zB (o:=U (D o xa xc) 77) u5.out;generalize w1:wr.alloc (U (D o xa xc) 77)=W2 at *;generalize wr.heap.size=b16 at *;obtain⟨ov2,g6⟩:=a2.mach;have d6:=Ja g6;have a4:=Ja a2;have o9:=Ja (Jb g j1);clear w1 a2 g j1 g6 d0 d1 d2 d3 d4 d5
        by_cases a1:m2.fuel<=0
        ·skip
         have l:=f2.out.2.2;rw[if_pos a1] at l;have c:=e5.out.1;rw[ru,i1.out,n7.out,<-l] at c;have u:=Ja c;have a3:=Ja a1;clear l c a1;go_wp2_with (go_at_call 81;go_must (refine(pay_no d6.out a3.out).mono ?_;rintro e w3 ⟨rfl,rfl⟩))
         exact⟨rfl,by rw[<-u.out];exact zQ.trap d6.out a4.out.frm⟩
        ·skip
         have l:=f2.out.2.2;rw[if_neg a1] at l;have n6:=Ja l;have a3:=Ja (show 0<m2.fuel by omega);clear l a1;go_upto_region 18 with(go_at_call 81;go_must (refine(iN d6.out a3.out).mono ?_;rintro e w3 ⟨rfl,c8,c9⟩))
         have e8:=a4.out.step c8 c9;have g:=c9.kept _ _ o9.out.1 (by simp[sA]);have d:=c9.kept _ _ o9.out.2 (by simp[sA]);have q0:=K0 g;have q1:=K1 g;have q2:=K2 g;have q3:=K3 g;have q4:=K4 g;have q5:=K5 g;have a5:=step_any c8 n8.out x0.out n3.out.2 ((n3.out.1.below zO e8.frm.below).mono zO (Qd c8.size)) e8.map (show r<=100 by omega) HC.out (by have:=d6.out.obd;have:=a3.out;simp only[Mach.pay];omega);have o3:=Ja e8;have s6:=Ja (Jb g d);clear e8 g d c8 c9
         cases b0:oV K.E (xW K.E r) o v2 m2.pay with
         |ok x m4=>
          have f4:Y 82 #[Q K.pm,.agg (D o xa xc),.map (some w.heap.size),A (100-(r:Int))] w3 fun e w'=>e=.returned (I x)/\(∃ov',MachAt w' K m4 ov')/\Frm K.B w3 w'/\x<65536:=by rw[b0] at a5;exact a5
          have n5:=Ja f4;have l:=n6.out;rw[b0] at l;have l5:=pI (pO K.E r) b0;have HX:=Ja (Jb l l5);clear f4 l l5 b0 a5;go_upto_region 19 with(go_at_call 82;go_must (refine n5.out.mono ?_;rintro e w4 ⟨rfl,⟨ov4,n2⟩,g9,p4⟩))
          have c3:=o3.out.step n2 g9;have g:=g9.kept _ _ s6.out.1 (by simp[sA]);have d:=g9.kept _ _ s6.out.2 (by simp[sA]);have s1:=K1 g;have f3:=Ja d
          have m7:vn2+1+m4.fuel.toNat*70000<=300000065536:=by
           have h1:=f2.out.1;have h2:=HX.out.2;have h3:=a3.out;simp only[Mach.pay] at h2;have h4:m4.fuel.toNat+1<=m2.fuel.toNat:=Zo;omega
          have r3:m4.fuel<=m1.fuel:=by have h1:=f2.out.2.1;have h2:=HX.out.2;simp only[Mach.pay] at h2;omega
          have c5:=Ja c3;have j2:=Ja (Jb m7 r3);have j4:vn2<9000000000000000000:=Zo;have u8:=c3.map;have u6:=n3.out.2.2.1;clear c3 g d m7 r3 q0 q1 q2 q3 q4 q5
          by_cases p5:0<=o.res
          ·have b5:=HX.out.1;unfold setV at b5;rw[if_pos p5] at b5;have n9:=Ja b5;clear b5;go_wp2_with (at_mapUpdate;go_must (refine us rfl (.tmp 76) (.tmp 78) (.tmp 79) rfl u8 j4 o.res x rfl rfl rfl u6 p4 ?_;intro w5 f5 f7;have b8:=Ja (Jb f5 f7);clear f5 f7))
           go_roundw
           case rel=>
            refine⟨j+1,b4.out,by go_num,_,m4,vn2+1,c5.out.store b8.out.1 b8.out.2,?_,j2.out.1,j2.out.2,n9.out⟩;refine zL b8.out.2 f3.out ?_;intro e;obtain⟨es,ec,c7⟩:=c5.out.map.blk;rw[Nt e,f3.out] at c7;cases c7
           case measure=>have:=b4.out;simp[intOf];omega
          ·have b5:=HX.out.1;unfold setV at b5;rw[if_neg p5] at b5;have n9:=Ja b5;clear b5;go_wp2;go_roundw
           case rel=>exact⟨j+1,b4.out,by go_num,_,m4,vn2,c5.out,f3.out,by have:=j2.out.1;omega,j2.out.2,n9.out⟩
           case measure=>have:=b4.out;simp[intOf];omega
         |trap k2 i2 m4=>
          have f4:Y 82 #[Q K.pm,.agg (D o xa xc),.map (some w.heap.size),A (100-(r:Int))] w3 fun e w'=>e=.panicked [oE k2 i2]/\(∃ov',MachAt w' K m4 ov')/\Frm K.B w3 w'/\True:=by rw[b0] at a5;exact a5
          have n5:=Ja f4;have l:=n6.out;rw[b0] at l;have c:=e5.out.1;rw[ru,i1.out,n7.out,<-l] at c;have u:=Ja c;clear f4 l c b0 a5;go_wp2_with (go_at_call 82;go_must (refine n5.out.mono ?_;rintro e w4 ⟨rfl,⟨ov4,n2⟩,g9,p4⟩))
          exact⟨rfl,by rw[<-u.out];exact zQ.trap n2 (o3.out.frm.trans g9)⟩
       ·skip
        obtain rfl:j=bk.ops.length:=by omega
        have e6:¬(bk.ops.length:Int)<bk.ops.length:=Zo;obtain⟨v2,m2,vn2,i,d,d9,d7,b3⟩:=HJ.out;rw[List.drop_length] at b3;have c:=e5.out.1;rw[ru,i1.out,n7.out,<-b3] at c;have m3:(if m2.fuel<=0 then .trap 7 0 m2 else if bk.term.kind=4 then .ok (if bk.term.a=-1 then 0 else v2 bk.term.a) m2.pay else if bk.term.kind=5 then .trap 1 0 m2.pay else tJ K.E (xW K.E r) blocks n (wK bk.term (v2 bk.term.a)).block ((wK bk.term (v2 bk.term.a)).args.map v2) v2 m2.pay)=RES:=c;obtain⟨ov2,g6⟩:=i.mach;have d6:=Ja g6;have f1:=Ja i;have o5:=Ja (Jb d (Jb d9 d7));have o4:=Ja m3;clear b3 c m3 i d d9 d7 HJ g6 k5
        by_cases a1:m2.fuel<=0
        ·skip
         have c:=o4.out;rw[if_pos a1] at c;have u:=Ja c;have a3:=Ja a1;clear c a1;go_wp2_with (go_at_call 81;go_must (refine(pay_no d6.out a3.out).mono ?_;rintro e w3 ⟨rfl,rfl⟩))
         exact⟨rfl,by rw[<-u.out];exact zQ.trap d6.out f1.out.frm⟩
        ·have c:=o4.out;rw[if_neg a1] at c;have i0:=Ja c;have a3:=Ja (show 0<m2.fuel by omega);clear c a1;go_upto_region 23 with(go_at_call 81;go_must (refine(iN d6.out a3.out).mono ?_;rintro e w3 ⟨rfl,c8,c9⟩))
         have a2:=f1.out.step c8 c9;have d:=c9.kept _ _ o5.out.1 (by simp[sA]);rw[<-x3.out] at d;have q2:=K2 d;have q3:=K3 d;have q4:=K4 d;have lk:=a2.map.look (x:=bk.term.a) h0.out.2.2.2.2;have j5:=a2.map.2 bk.term.a;have a4:=Ja a2;have e4:=Ja c8;clear a2 d c8 c9
         by_cases h4:bk.term.kind=4
         ·skip
          have c:=i0.out;rw[if_pos h4] at c;rw[h4] at q2
          by_cases e3:bk.term.a=-1
          ·rw[if_pos e3] at c;have t2:(bk.term.a==-1)=true:=by rw[beq_iff_eq];exact e3
           have u:=Ja c;clear c h4 e3;go_wp2;go_ret;rw[<-u.out];exact zQ.ok (x:=0) e4.out a4.out.frm Zd
          ·rw[if_neg e3] at c;have t2:(bk.term.a==-1)=false:=by rw[beq_eq_false_iff_ne];exact e3
           have u:=Ja c;clear c h4 e3;go_wp2;go_ret;rw[<-u.out];exact zQ.ok e4.out a4.out.frm j5
         ·by_cases h5:bk.term.kind=5
          ·skip
           have c:=i0.out;rw[if_neg h4,if_pos h5] at c;rw[h5] at q2;have u:=Ja c;clear c h4 h5;go_wp2_with (go_at_call 80;go_must (refine(wj 1 0 _).mono ?_;rintro e w' ⟨rfl,rfl⟩))
           exact⟨rfl,by rw[<-u.out];exact zQ.trap e4.out a4.out.frm⟩
          ·skip
           have c:=i0.out;rw[if_neg h4,if_neg h5] at c;have t4:(bk.term.kind==4)=false:=by rw[beq_eq_false_iff_ne];exact h4
           have t5:(bk.term.kind==5)=false:=by rw[beq_eq_false_iff_ne];exact h5
           have h7:=lL c4.out.2.1 h4 h5 (v2 bk.term.a);have a6:=c4.out.2.1.2.2.2.2 _ h7;have e9:=edge_any (w:=w3) (B:=K.B) (t:=bk.term) (blocks:=blocks) (tv:=.slice ta bk.term.to.length tc) (h0.out.2.2.1.below xL a4.out.frm.below) h0.out.2.2.2.1 (Qd e4.out.size) c4.out.2.1 h4 h5 (v2 bk.term.a) j5;obtain⟨x,p3⟩:∃x,wK bk.term (v2 bk.term.a)=x:=⟨_,rfl⟩
           rw[p3] at c h7 a6 e9;have s3:=Ja e9;have u:=Ja (Jb c a6)
           have x7:x.args.length<=65536:=by
            rw[a6.2.2];have h1:=a6.1;have hq:x.block=((x.block.toNat:Nat):Int):=Zo;rw[hq];exact(s4.out _ (Ji (rh a6.2.1))).2.2
           clear c h4 h5 h7 a6 e9 p3;generalize v2 bk.term.a=va at *;go_upto_region 31 with(go_at_call 83;go_must (refine s3.out.mono ?_;rintro e w4 ⟨av4,rfl,l4,h64,j0⟩;obtain⟨ea,ec,rfl,_,_⟩:=l4.form))
           have c3:=(a4.out.keep j0).alloc (U #[A x.block,.slice ea x.args.length ec] 75);have h8:=zI (W:=w4) (o:=U #[A x.block,.slice ea x.args.length ec] 75) rfl;have q9:zY (w4.alloc (U #[A x.block,.slice ea x.args.length ec] 75)) K.B (.slice ea x.args.length ec) x.args:=l4.below zO ((j0.mono (Qd e4.out.size)).alloc (by have:=e4.out.size;have:=j0.size;omega) _);have u1:w4.heap.size<(w4.alloc (U #[A x.block,.slice ea x.args.length ec] 75)).heap.size:=by simp
           generalize w0:w4.alloc (U #[A x.block,.slice ea x.args.length ec] 75)=W5 at *;generalize w4.heap.size=b18 at *;have s7:=K0 h8;have x5:=K1 h8;have c5:=Ja c3;have x1:=Ja q9;clear w0 c3 q9 h8 j0 l4 q2 q3 q4 lk t4 t5 s3;go_wp2
           go_loopw [2,111] (fun rv kv wx=>∃k:Nat,k<=x.args.length/\kv=A k/\Hid (wx.ownsRow W5.heap.size 39 1 rv k ((uT v2 x.args k).map vL)/\F W5 wx)) (fun _ kv _=>x.args.length-(intOf kv).toNat)
           case atStart=>exact⟨0,Jt _,rfl,Jv _ _ _ _,Below.refl _ _⟩
           case round=>
            obtain⟨k6,z3,rfl,b7⟩:=hrel;obtain⟨ra,rc,rfl⟩:=zG b7.out.1;have c2:=c5.out.keep b7.out.2
            by_cases e7:k6<x.args.length
            ·skip
             have p2:(k6:Int)<x.args.length:=Zo;have o0:=Ja e7;obtain⟨y,hy⟩:∃y,x.args[k6]? =some y:=⟨_,Jd e7⟩
             obtain⟨b6,o6,rfl,v6,l7,t7⟩:=x1.out.get hy;rw[Nk] at l7;have z5:K.B<W5.heap.size:=by obtain⟨ov5,w7⟩:=c5.out.mach;exact w7.size
             have cy:=(b7.out.2.cell (p:=⟨b6,o6+k6,none⟩) (by show b6<W5.heap.size;omega)).trans l7;have ly:=c2.map.look t7;have y7:=c2.map.2 y;have u4:=Ja (qH (v:=v2) hy);have y1:=pA (v:=v2) (show k6<=x.args.length by omega);obtain⟨ii,v0,t6,t3,s8⟩:=info_parts Try.info_u16;have x6:=b7.out.2.size;clear hy l7 e7 c2 v6;generalize v2 y=vy at *;go_wp2_with (at_builtin;go_must (refine wpList_append_lies _ rfl (.tmp 115) (.tmp 119) 36 rfl W5.heap.size 39 ii (I 0) 1 2 Try.underlying36 v0 t6 t3 s8 rfl Zd _ k6 ((uT v2 x.args k6).map vL) rfl (b7.out.1.alloc _) ⟨wr.heap.size,0,none⟩ 1 1 [I vy] rfl rfl (Oi (cs:=#[I vy]) (zI Zs)) (by simp[Value.oneCell']) Zd (by unfold maxLen;omega) Zo Zt (wr.heap.size+1) Zs ?_;intro gq y2 w6 i3 f6 y0 e7;have s0:=Ja (Jb i3 f6);clear i3 f6))
             go_roundw
             case rel=>
              refine⟨k6+1,o0.out,by go_num,?_,(b7.out.2.alloc Zo _).grown s0.out.2 Zt (fun k hk=>(b7.out.1.lt k hk).1)⟩;rw[u4.out,Js];exact s0.out.1
             case measure=>have:=o0.out;simp[intOf];omega
            ·skip
             obtain rfl:k6=x.args.length:=by omega
             have p2:¬(x.args.length:Int)<x.args.length:=Zo;have h6:=b7.out.1;rw[r8] at h6;have p0:=(b7.out.2.cell (p:=⟨b18,0,none⟩) u1).trans s7;have k1:=ms h6 Zs (fun y hy=>by obtain⟨z,_,rfl⟩:=Nu.1 hy;exact c2.map.2 z);obtain⟨q,hq⟩:∃q:Nat,x.block=(q:Int):=⟨x.block.toNat,by have:=u.out.2.1;omega⟩
             rw[hq] at p0;have HH:=u.out;rw[hq] at HH
             have p1:Hid (jw K w wr r n blocks w.heap.size q (.slice ra x.args.length rc) RES):=by
              refine⟨x.args.map v2,v2,m2.pay,vn2,c2,k1,?_,?_,?_,?_,HH.1⟩
              ·rw[Nr];exact HH.2.2.2
              ·have:=HH.2.2.1;rw[Ni] at this;exact this
              ·have h1:=e5.out.2.1;have h2:=o5.out.2.2;have h3:=a3.out;simp only[Mach.pay];omega
              ·exact bd_next o5.out.2.1 (by have:=a3.out;show(m2.fuel-1).toNat+1=m2.fuel.toNat;omega)
             clear h6 k1 c2 HH hq;go_wp2
             go_roundg n
             case measure=>omega
             case rel=>exact⟨q,ra,x.args.length,rc,rfl,rfl,p1⟩
theorem mi (K:MK)(hok:OkProg K.E.p):∀r,r<=100->pq K r
 |0,_=>iA K
 |r+1,h=>jC K hok r h (mi K hok r Zo)
theorem jT {g:List (List Nat)}(hv:zw g)(h:g.length<=9000000):∀x∈wQ g,I64 x:=by
 intro x d;unfold wQ at d;obtain⟨c,i,rfl⟩:=Nu.1 d;rcases idomOf hv c with⟨h1,_⟩|⟨c',h1,_,h3,_⟩
 ·rw[h1];exact⟨by omega,by omega⟩
 ·have:=(cA hv h3).1;rw[h1];exact⟨by omega,by omega⟩
theorem lp {α:Type}:∀l:List α,l=[]∨∃a m,l=a::m
 | []=> .inl rfl
 |a::m=> .inr ⟨a,m,rfl⟩
theorem nA{B:Nat}{V:PV}{p:IProg}(hp:ProgIn w B V p)(hB:B<=w.heap.size)(hl:p.args.length=p.funcs.length)(ha:p.args.all tX=true)(hs:∀f∈p.funcs,vZ f){n:Nat}(hn:n<p.funcs.length):
 Y 47 #[yH V p,A n] w (ym w (yi p n)):=by
 have m:=Ja (show ProgIn w B V p/\B<=w.heap.size/\p.args.length=p.funcs.length/\p.args.all tX=true/\∀f∈p.funcs,vZ f from⟨hp,hB,hl,ha,hs⟩);have B2:=@run_makeMap Try.prog;obtain⟨Vf,Va,Vd,Vb⟩:=V;obtain⟨f1,f2,e1,u9,u8⟩:=hp.funcs.form;have k0:=hp.funcs;have k2:=hp.args;obtain⟨a1,a2,e2,n1,m7⟩:=hp.args.form;obtain⟨d1,d2,e3,v2,v1⟩:=hp.data.form;obtain⟨b1,b2,e4,v4,v3⟩:=hp.banks.form;simp only at e1 e2 e3 e4 k0 k2;subst e1 e2 e3 e4;have B3:p.funcs.length<=9223372036854775807:=Zo;have B4:p.args.length<=9223372036854775807:=Zo;obtain⟨blocks,h9⟩:∃bl,p.funcs[n]? =some bl:=⟨_,Jd hn⟩
 obtain⟨x,hx⟩:∃x,p.args[n]? =some x:=⟨_,Jd Zo⟩
 obtain⟨fb,fo,rfl,b5,bv,f7,m5⟩:=k0.get h9;obtain⟨ab,ao,rfl,r5,f9,x4⟩:=k2.get hx;rw[Nk] at f7 f9;obtain⟨ba,bc,rfl,t5,t4⟩:=m5.form;have x7:blocks.length<=9223372036854775807:=Zo;unfold yH;simp only;obtain⟨res,f5⟩:∃x,yi p n=x:=⟨_,rfl⟩
 rw[f5];have n3:=Ja f5;have j:=Ja (show p.funcs[n]? =some blocks/\wX w B (.slice ba blocks.length bc) blocks/\vZ blocks/\p.args[n]? =some x from⟨h9,m5,hs _ (Ji h9),hx⟩);have m6:F w (w.alloc (U (R p (some ⟨fb,fo,none⟩) f2 (some ⟨ab,ao,none⟩) a2 d1 d2 b1 b2) 29)):=(Below.refl _ _).alloc (Je _) _;have cf:=zV m6 (Jy b5 hB) f7;have B0:(n:Int)<p.funcs.length:=Zo;have B1:(n:Int)<p.args.length:=Zo;have s6:=Ja (show ab<B/\G w ab (ao+n) (A x) from⟨r5,f9⟩);have i5:=zI (W:=w) (o:=U (R p (some ⟨fb,fo,none⟩) f2 (some ⟨ab,ao,none⟩) a2 d1 d2 b1 b2) 29) rfl;have j1:(w.alloc (U (R p (some ⟨fb,fo,none⟩) f2 (some ⟨ab,ao,none⟩) a2 d1 d2 b1 b2) 29)).heap.size=w.heap.size+1:=by simp
 clear hp k0 k2 hB hl ha hs hn u9 u8 n1 m7 v2 v1 v4 v3 h9 hx f5 m5 t5 t4 f7 f9 b5 r5;go_enter Try.func47,Try.ntmps47;go_upto_region 1 with fail;generalize w0:w.alloc (U (R p (some ⟨fb,fo,none⟩) f2 (some ⟨ab,ao,none⟩) a2 d1 d2 b1 b2) 29)=WP at *;have p0:=K0 i5;have r3:F w (WP.alloc (U #[.slice ba blocks.length bc] 43)):=m6.alloc Zo _;have y:=zB (o:=U #[.slice ba blocks.length bc] 43) i5;have i6:L (WP.alloc (U #[.slice ba blocks.length bc] 43)) (w.heap.size+1) #[.slice ba blocks.length bc] 43:=zI j1;have e5:(WP.alloc (U #[.slice ba blocks.length bc] 43)).heap.size=w.heap.size+2:=by simp[j1]
 clear w0 m6 i5;go_upto_region 2 with fail;generalize w1:WP.alloc (U #[.slice ba blocks.length bc] 43)=WF at *;have q0:=K0 i6;clear w1 j1 p0 cf;have s3:=Ja (show F w WF from r3);clear r3;rcases lp blocks with a4|⟨b0,bs,a4⟩
 ·have hr:res=true:=by rw[<-n3.out];unfold yi;rw[Jj,j.out.1,a4];rfl
  have t0:((blocks.length:Int)==0)=true:=by rw[a4];rfl
  clear a4;go_wp2;go_ret;exact⟨uz hr,s3.out⟩
 ·have t0:((blocks.length:Int)==0)=false:=by rw[beq_eq_false_iff_ne,a4,Nq];omega
  have s4:=Ja a4;have x5:(0:Int)<blocks.length:=by rw[a4,Nq];omega
  have h0:blocks[0]? =some b0:=by rw[a4];rfl
  obtain⟨kb,ko,rfl,q4,_,_,_,pv,ov,tv,e7,_,_,e6,_,_⟩:=j.out.2.1.get h0;obtain⟨pa,pc,rfl,k1,j5⟩:=e6.form;have x6:b0.params.length<=9223372036854775807:=Zo;have s1:=Ja (Jb q4 e7);clear a4 h0 q4 e7 e6 k1 j5;have p0:=K0 y;have p1:=K1 y;have p2:=K2 y;have p3:=K3 y;have p4:=K4 y;have p5:=K5 y;go_upto_region 5 with fail;have r6:L (((WF.alloc (.map #[] 0)).alloc (.map #[] 0)).alloc (U #[.slice (some ⟨fb,fo,none⟩) p.funcs.length f2,.slice (some ⟨ab,ao,none⟩) p.args.length a2,A p.entry,A p.handler,.slice d1 p.data.length d2,.slice b1 p.banks.length b2,.slice (some ⟨kb,ko,none⟩) blocks.length bc,.map (some (w.heap.size+2)),.map (some (w.heap.size+2+1)),O] 128)) (w.heap.size+2+1+1) #[.slice (some ⟨fb,fo,none⟩) p.funcs.length f2,.slice (some ⟨ab,ao,none⟩) p.args.length a2,A p.entry,A p.handler,.slice d1 p.data.length d2,.slice b1 p.banks.length b2,.slice (some ⟨kb,ko,none⟩) blocks.length bc,.map (some (w.heap.size+2)),.map (some (w.heap.size+2+1)),O] 128:=zI (by simp[e5]);have q3:(((WF.alloc (.map #[] 0)).alloc (.map #[] 0)).alloc (U #[.slice (some ⟨fb,fo,none⟩) p.funcs.length f2,.slice (some ⟨ab,ao,none⟩) p.args.length a2,A p.entry,A p.handler,.slice d1 p.data.length d2,.slice b1 p.banks.length b2,.slice (some ⟨kb,ko,none⟩) blocks.length bc,.map (some (w.heap.size+2)),.map (some (w.heap.size+2+1)),O] 128)).heap[w.heap.size+2]? =some (.map #[] 0):=zB (zB (zI e5));have q2:(((WF.alloc (.map #[] 0)).alloc (.map #[] 0)).alloc (U #[.slice (some ⟨fb,fo,none⟩) p.funcs.length f2,.slice (some ⟨ab,ao,none⟩) p.args.length a2,A p.entry,A p.handler,.slice d1 p.data.length d2,.slice b1 p.banks.length b2,.slice (some ⟨kb,ko,none⟩) blocks.length bc,.map (some (w.heap.size+2)),.map (some (w.heap.size+2+1)),O] 128)).heap[w.heap.size+2+1]? =some (.map #[] 0):=zB (zI (by simp[e5]));have b6:F w (((WF.alloc (.map #[] 0)).alloc (.map #[] 0)).alloc (U #[.slice (some ⟨fb,fo,none⟩) p.funcs.length f2,.slice (some ⟨ab,ao,none⟩) p.args.length a2,A p.entry,A p.handler,.slice d1 p.data.length d2,.slice b1 p.banks.length b2,.slice (some ⟨kb,ko,none⟩) blocks.length bc,.map (some (w.heap.size+2)),.map (some (w.heap.size+2+1)),O] 128)):=((s3.out.alloc Zo _).alloc Zt _).alloc Zt _;have n8:L (((WF.alloc (.map #[] 0)).alloc (.map #[] 0)).alloc (U #[.slice (some ⟨fb,fo,none⟩) p.funcs.length f2,.slice (some ⟨ab,ao,none⟩) p.args.length a2,A p.entry,A p.handler,.slice d1 p.data.length d2,.slice b1 p.banks.length b2,.slice (some ⟨kb,ko,none⟩) blocks.length bc,.map (some (w.heap.size+2)),.map (some (w.heap.size+2+1)),O] 128)) w.heap.size (R p (some ⟨fb,fo,none⟩) f2 (some ⟨ab,ao,none⟩) a2 d1 d2 b1 b2) 29:=zB (zB (zB y));have m4:L (((WF.alloc (.map #[] 0)).alloc (.map #[] 0)).alloc (U #[.slice (some ⟨fb,fo,none⟩) p.funcs.length f2,.slice (some ⟨ab,ao,none⟩) p.args.length a2,A p.entry,A p.handler,.slice d1 p.data.length d2,.slice b1 p.banks.length b2,.slice (some ⟨kb,ko,none⟩) blocks.length bc,.map (some (w.heap.size+2)),.map (some (w.heap.size+2+1)),O] 128)) (w.heap.size+1) #[.slice (some ⟨kb,ko,none⟩) blocks.length bc] 43:=zB (zB (zB i6));have o1:(((WF.alloc (.map #[] 0)).alloc (.map #[] 0)).alloc (U #[.slice (some ⟨fb,fo,none⟩) p.funcs.length f2,.slice (some ⟨ab,ao,none⟩) p.args.length a2,A p.entry,A p.handler,.slice d1 p.data.length d2,.slice b1 p.banks.length b2,.slice (some ⟨kb,ko,none⟩) blocks.length bc,.map (some (w.heap.size+2)),.map (some (w.heap.size+2+1)),O] 128)).heap.size=w.heap.size+2+1+1+1:=by simp[e5]
  generalize x0:((WF.alloc (.map #[] 0)).alloc (.map #[] 0)).alloc (U #[.slice (some ⟨fb,fo,none⟩) p.funcs.length f2,.slice (some ⟨ab,ao,none⟩) p.args.length a2,A p.entry,A p.handler,.slice d1 p.data.length d2,.slice b1 p.banks.length b2,.slice (some ⟨kb,ko,none⟩) blocks.length bc,.map (some (w.heap.size+2)),.map (some (w.heap.size+2+1)),O] 128)=W2 at *;generalize x1:w.heap.size+2+1+1=C at *;generalize s7:w.heap.size+2+1=m2 at *;generalize s8:w.heap.size+2=m1 at *;have a7:ChkAt W2 C m1 m2 (rC ⟨.slice (some ⟨fb,fo,none⟩) p.funcs.length f2,.slice (some ⟨ab,ao,none⟩) p.args.length a2,.slice d1 p.data.length d2,.slice b1 p.banks.length b2⟩ p) (.slice (some ⟨kb,ko,none⟩) blocks.length bc) (O) 0 sy:=ChkAt.made r6 rfl q3 q2 Zo;have t7:=Ja a7;have H2:=Ja (show F w W2/\L W2 (w.heap.size+1) #[.slice (some ⟨kb,ko,none⟩) blocks.length bc] 43/\W2.heap.size=C+1/\w.heap.size+2=m1/\m1+1=m2/\m2+1=C from⟨b6,m4,o1,by omega,by omega,by omega⟩);have c0:=K0 m4;have c1:=K1 n8;have c2:G W2 kb ko (.slice pa b0.params.length pc):=by have:=zV (b6.mono m.out.2.1) s1.out.1 s1.out.2;simpa using this
  have c3:G W2 ab (ao+n) (A x):=zV (b6.mono m.out.2.1) s6.out.1 s6.out.2;obtain⟨qe,j4⟩:∃q,decide ((b0.params.length:Int)=x)=q:=⟨_,rfl⟩
  have t1:((b0.params.length:Int) !=x)=!qe:=by rw[bne,vg j4]
  have h5:p.args.getD n 0=x:=by rw[Jj,j.out.2.2.2];rfl
  have m0:yi p n=(qe && ((wg p blocks).map (iM blocks)).getD false):=by
   unfold yi;rw[Jj,j.out.1,Ot,s4.out];simp only;rw[h5,j4]
  rw[n3.out] at m0;have f4:=Ja m0;clear x0 x1 s7 s8 a7 b6 r6 q3 q2 n8 m4 o1 y i6 e5 q0 p0 p1 p2 p3 p4 p5 j4 h5 m0
  cases qe with
  |false=>
   go_quiet (fail);go_wp2;go_ret
   exact⟨uz f4.out,yC H2.out.1⟩
  |true=>
   have a5:F w W2.drew:=H2.out.1.drew;have a6:=a5.mono m.out.2.1;have o0:=lM (m.out.1.below a6) (j.out.2.1.below yT a6) (Jn m.out.2.1 a5.size) (by have:=m.out.2.1;have:=H2.out.2.2.2;omega) (by have:=m.out.2.1;have:=H2.out.2.2.2;omega) m.out.2.2.1 j.out.2.2.1 (t7.out.below ((Below.refl W2.heap.size W2).drew));have n2:=Ja o0;have i2:=Ja a5;clear o0 a5 a6;obtain⟨r,hr⟩:∃r,wg p blocks=r:=⟨_,rfl⟩
   rw[hr] at n2 f4;have HR:=Ja hr;clear hr
   cases r with
   |none=>
    refine zt 14 Zk Zk ?_;simp only[Qo,Uc,Qp,Ui]
    repeat (go_big_quiet_step (fail))
    refine wpQuiet_nil ?_;go_wp2_with (first|(go_at_call 66;go_must (refine n2.out.mono ?_;rintro e w3 ⟨rfl,e9,_⟩))|go_in)
    go_ret
    exact⟨uz f4.out,i2.out.trans (e9.below (by have:=H2.out.2.2.2;omega) (by have:=H2.out.2.2.2;omega) i2.out.size)⟩
   |some d=>
    refine zt 14 Zk Zk ?_;simp only[Qo,Uc,Qp,Ui]
    repeat (go_big_quiet_step (fail))
    refine wpQuiet_nil ?_;go_upto_region 7 with(first|(go_at_call 66;go_must (refine n2.out.mono ?_;rintro e w3 ⟨rfl,e9,r1⟩))|go_in)
    obtain⟨N,hN,a7⟩:=r1 d rfl;have t:=i2.out.trans (e9.below (by have:=H2.out.2.2.2;omega) (by have:=H2.out.2.2.2;omega) i2.out.size);have m3:=e9.blk (b:=w.heap.size+1) H2.out.2.1 (by have:=H2.out.2.2.2;omega) (by have:=H2.out.2.2.2;omega);have g5:∀b∈blocks,(∀o∈b.ops,opF p o=true)/\wn blocks b.term=true:=rV blocks 0 sy d (by rw[<-wS];exact HR.out);have j0:C<w3.heap.size:=lt_of_block a7.blk;have q7:=ox (j.out.2.1.below yT (t.mono m.out.2.1)) (Jn m.out.2.1 t.size) ⟨j.out.2.2.1.1,fun b hb=>(j.out.2.2.1.2 b hb).2.2⟩;have HG:=Ja q7;have H3:=Ja (show F w w3/\L w3 (w.heap.size+1) #[.slice (some ⟨kb,ko,none⟩) blocks.length bc] 43/\ChkAt w3 C m1 m2 (rC ⟨.slice (some ⟨fb,fo,none⟩) p.funcs.length f2,.slice (some ⟨ab,ao,none⟩) p.args.length a2,.slice d1 p.data.length d2,.slice b1 p.banks.length b2⟩ p) (.slice (some ⟨kb,ko,none⟩) blocks.length bc) (O) N d/\(∀b∈blocks,(∀o∈b.ops,opF p o=true)/\wn blocks b.term=true)/\C<w3.heap.size/\blocks≠ [] from⟨t,m3,a7,g5,j0,by rw[s4.out];simp⟩);have u0:=K0 m3;clear e9 r1 hN a7 t m3 g5 j0 q7 c0 c1 c2 c3 t1;have t3:(zk blocks).length=blocks.length:=by unfold zk;simp
    clear t3;go_upto_region 8 with(first|(go_at_call 38;go_must (refine HG.out.mono ?_;rintro e w4 ⟨gb,rfl,g6,q8,d4⟩))|go_in)
    have u4:(zk blocks).length=blocks.length:=by unfold zk;simp
    have f8:=(Below.refl w4.heap.size w4).alloc (Je _) (U #[.slice (some ⟨gb,0,none⟩) (zk blocks).length (zk blocks).length] 93);have j2:=g6.below f8;have d9:=d4.trans (f8.mono d4.size);have c7:F w (w4.alloc (U #[.slice (some ⟨gb,0,none⟩) (zk blocks).length (zk blocks).length] 93)):=H3.out.1.trans (d9.mono H3.out.1.size);have q9:=zH d9 H3.out.2.1 (lt_of_block H3.out.2.1);have h8:=H3.out.2.2.1.below d9;have l8:=zI (W:=w4) (o:=U #[.slice (some ⟨gb,0,none⟩) (zk blocks).length (zk blocks).length] 93) rfl;have k6:C<w4.heap.size:=Jy H3.out.2.2.2.2.1 d4.size;have l2:=H3.out.2.2.2.2.1;generalize w9:w4.alloc (U #[.slice (some ⟨gb,0,none⟩) (zk blocks).length (zk blocks).length] 93)=W5 at *;generalize u6:w4.heap.size=g4 at *;generalize l5:(zk blocks).length=gl at *
    have b8:∀W:World,OwnRows zN 3 22 W w3.heap.size gb (zk blocks)->GraphIn W (.slice (some ⟨gb,0,none⟩) gl gl) (zy blocks):=fun W hW=>by
     have:=hW.asRows (Je _);rw[l5] at this;exact bU j.out.2.2.1 H3.out.2.2.2.2.2 (fun b hb=>(H3.out.2.2.2.1 b hb).2) this
    have n6:=Ja (show(∀W:World,OwnRows zN 3 22 W w3.heap.size gb (zk blocks)->GraphIn W (.slice (some ⟨gb,0,none⟩) gl gl) (zy blocks))/\OwnRows zN 3 22 W5 w3.heap.size gb (zk blocks)/\w3.heap.size<=gb from⟨b8,j2,q8⟩);have s2:=Ja (b8 _ j2);have H5:=Ja (show F w W5/\L W5 (w.heap.size+1) #[.slice (some ⟨kb,ko,none⟩) blocks.length bc] 43/\ChkAt W5 C m1 m2 (rC ⟨.slice (some ⟨fb,fo,none⟩) p.funcs.length f2,.slice (some ⟨ab,ao,none⟩) p.args.length a2,.slice d1 p.data.length d2,.slice b1 p.banks.length b2⟩ p) (.slice (some ⟨kb,ko,none⟩) blocks.length bc) (O) N d/\L W5 g4 #[.slice (some ⟨gb,0,none⟩) gl gl] 93/\C<g4/\C<w3.heap.size from⟨c7,q9,h8,l8,k6,l2⟩);have u5:=K0 l8;clear f8 j2 d9 c7 q9 h8 l8 k6 l2 w9 u6 g6 d4 u0 q8 b8 l5 u4;go_upto_region 9 with(first|(go_at_call 67;go_must (refine(qP s2.out).mono ?_;rintro e w6 ⟨iv,rfl,d6,d3⟩;obtain⟨ia,ic,rfl⟩:=zG d6;have e8:=H5.out.2.2.1.below d3;have v9:G w6 C 9 (O):=zA e8.blk rfl;have vf:T w6 C 9:=zE e8.blk))|go_in)
    have hv:=s2.out.valid;have nC:=zC d6 e8.blk (.inr Zd);have g9:=ownsRow_setCell_other (a:=⟨C,9,none⟩) d6 nC (.slice ia (wQ (zy blocks)).length ic);have l4:zY (w6.setCell ⟨C,9,none⟩ (.slice ia (wQ (zy blocks)).length ic)) (w6.setCell ⟨C,9,none⟩ (.slice ia (wQ (zy blocks)).length ic)).heap.size (.slice ia (wQ (zy blocks)).length ic) (wQ (zy blocks)):=uA g9 rfl (jT hv (by rw[xu];have:=j.out.2.2.1.1;omega));have h7:=e8.idom (.slice ia (wQ (zy blocks)).length ic);have a3:F w (w6.setCell ⟨C,9,none⟩ (.slice ia (wQ (zy blocks)).length ic)):=(H5.out.1.trans (d3.mono H5.out.1.size)).setCell (by have:=H2.out.2.2.2;simp;omega) _;have h6:=zR (a:=⟨C,9,none⟩) (u:=.slice ia (wQ (zy blocks)).length ic) (zH d3 H5.out.2.1 (lt_of_block H5.out.2.1)) (by have:=H2.out.2.2.2;simp;omega);have l7:=zR (a:=⟨C,9,none⟩) (u:=.slice ia (wQ (zy blocks)).length ic) (zH d3 H5.out.2.2.2.1 (lt_of_block H5.out.2.2.2.1)) (by have:=H5.out.2.2.2.2;simp;omega);have l6:=n6.out.1 _ ((n6.out.2.1.below d3).set (a:=⟨C,9,none⟩) (by have:=n6.out.2.2;have:=H5.out.2.2.2.2.2;simp;omega) (by have:=H5.out.2.2.2.2.2;simp;omega) (.slice ia (wQ (zy blocks)).length ic));generalize w8:w6.setCell ⟨C,9,none⟩ (.slice ia (wQ (zy blocks)).length ic)=W7 at *;have h:=Ja (show F w W7/\ChkAt W7 C m1 m2 (rC ⟨.slice (some ⟨fb,fo,none⟩) p.funcs.length f2,.slice (some ⟨ab,ao,none⟩) p.args.length a2,.slice d1 p.data.length d2,.slice b1 p.banks.length b2⟩ p) (.slice (some ⟨kb,ko,none⟩) blocks.length bc) (.slice ia (wQ (zy blocks)).length ic) N d/\zY W7 W7.heap.size (.slice ia (wQ (zy blocks)).length ic) (wQ (zy blocks))/\L W7 (w.heap.size+1) #[.slice (some ⟨kb,ko,none⟩) blocks.length bc] 43/\zw (zy blocks) from⟨a3,h7,l4,h6,hv⟩)
    have k3:∀W,F W7 W->Y 68 #[.agg #[.slice (some ⟨gb,0,none⟩) gl gl]] W fun e w'=>∃a c,e=.returned (.slice a (vD (zy blocks)).length c)/\F W w':=fun W hb=>by
     refine(iJ (l6.below hb)).mono ?_;rintro e w' ⟨ov,rfl,ho,hb⟩;obtain⟨a,c,rfl⟩:=zG ho;exact⟨a,c,rfl,hb⟩
    have t6:=Ja k3;have y0:=K0 h6;have y1:=K0 l7;have l0:=lt_of_block h6;have l1:=lt_of_block l7;have k7:=Below.refl W7.heap.size W7;clear d6 d3 e8 v9 vf g9 nC l4 h7 a3 h6 l7 l6 k3 u5 hv w8;obtain⟨qo,j3⟩:∃q,decide ((vD (zy blocks)).length=blocks.length)=q:=⟨_,rfl⟩
    have t1:(((vD (zy blocks)).length:Int) !=(blocks.length:Int))=!qo:=by rw[bne,vg (q:=qo) (zZ j3 Zo)]
    have n4:=Ja j3;clear j3;generalize d7:(vD (zy blocks)).length=ol at *
    go_cut [57] (fun s wx=>s=.bool (!qo)/\Hid (F W7 wx))
    case first=>
     go_region_held3 (fun w'=>G w' (w.heap.size+1) 0 (.slice (some ⟨kb,ko,none⟩) blocks.length bc)/\G w' g4 0 (.slice (some ⟨gb,0,none⟩) gl gl)/\F W7 w')
      (first
        |(go_split_ands;refine⟨?_,?_,?_⟩<;>assumption)
        |(go_split_ands;refine⟨?_,?_,uG ?_⟩<;>assumption))
      (first|(go_at_call 68;go_must (refine(t6.out _ (by repeat' (first|assumption|(with_reducible refine Below.drew ?_)))).mono ?_;rintro e w2 ⟨qa,qc,rfl,b6⟩;have t:F W7 w2:=Below.trans (by repeat' (first|assumption|(with_reducible refine Below.drew ?_))) (b6.mono (Below.size (B:=W7.heap.size) (w:=W7) (by repeat' (first|assumption|(with_reducible refine Below.drew ?_)))));have A6:G w2 (w.heap.size+1) 0 (.slice (some ⟨kb,ko,none⟩) blocks.length bc):=zV t l0 y0;have A5:G w2 g4 0 (.slice (some ⟨gb,0,none⟩) gl gl):=zV t l1 y1)))
     all_goals
      go_wp2_with fail;go_meet;exact⟨rfl,Ja (by repeat' (first|assumption|(with_reducible refine Below.drew ?_)))⟩
    case rest=>
     obtain⟨rfl,HB⟩:=hcut
     cases qo with
     |false=>
      have hr:res=false:=by
       rw[f4.out,Option.map_some,Ot];unfold iM;rw[d7,n4.out];rfl
      go_wp2;go_ret
      exact⟨uz hr,h.out.1.trans (HB.out.mono h.out.1.size)⟩
     |true=>
      have hr:res=tO d (zy blocks) blocks 0:=by
       rw[f4.out,Option.map_some,Ot];unfold iM;rw[d7,n4.out];rfl
      have b3:=jl h.out.2.2.2.2 (by rw[d7,xu];exact of_decide_eq_true n4.out);have f3:=Ja (Jb hr b3);have y2:G wc (w.heap.size+1) 0 (.slice (some ⟨kb,ko,none⟩) blocks.length bc):=zV HB.out l0 y0;clear hr b3 y0 y1 k7 t1 d7;go_wp2
      go_loopw [61] (fun iv wx=>∃i:Nat,i<=blocks.length/\iv=A i/\Hid (F W7 wx/\tO d (zy blocks) (blocks.take i) 0=true)) (fun iv _=>blocks.length-(intOf iv).toNat)
      case atStart=>exact⟨0,Jt _,rfl,Ja ⟨HB.out,rfl⟩⟩
      case round=>
       obtain⟨i,hi,rfl,HI⟩:=hrel
       by_cases h4:i<blocks.length
       ·have t2:(i:Int)<blocks.length:=Zo;have i0:=Ja h4;obtain⟨bx,d0⟩:∃bx,blocks[i]? =some bx:=⟨_,Jd h4⟩
        obtain⟨b',o',e',b5,q6,q5,l3,A8,ov2,A7,e7,q1,p6,e6,k4,i7⟩:=j.out.2.1.get d0;cases e';obtain⟨g2,g1,rfl,k1,j5⟩:=e6.form;obtain⟨oa,oc,rfl,u3,u2⟩:=k4.form;obtain⟨ta,tc,rfl,u1,t8⟩:=i7.form;have A9:bx.ops.length<=9223372036854775807:=Zo;have l:Below B w wr:=(h.out.1.mono m.out.2.1).trans (HI.out.1.mono (Jn m.out.2.1 h.out.1.size));have e0:=zV l b5 e7;have e1:=zV l b5 q1;have e2:=zV l b5 q6;have e3:=zV l b5 q5;have e4:=zV l b5 p6;have a0:=Ja (show blocks[i]? =some bx/\mN w B (.slice oa bx.ops.length oc) bx.ops/\wH w B (.slice ta bx.term.to.length tc) bx.term.to/\(I64 bx.term.kind/\I64 bx.term.a)/\(bx.params.length<=2000000/\bx.ops.length<=2000000/\bx.term.to.length<=2000000)/\(∀o∈bx.ops,opF p o=true)/\wn blocks bx.term=true from⟨d0,k4,i7,l3,j.out.2.2.1.2 bx (Ji d0),(H3.out.2.2.2.1 bx (Ji d0)).1,(H3.out.2.2.2.1 bx (Ji d0)).2⟩);have i4:=zI (W:=wr) (o:=U #[.slice g2 bx.params.length g1,.slice oa bx.ops.length oc,A bx.term.kind,A bx.term.a,.slice ta bx.term.to.length tc] 49) rfl;have r4:=HI.out.1.alloc HI.out.1.size (U #[.slice g2 bx.params.length g1,.slice oa bx.ops.length oc,A bx.term.kind,A bx.term.a,.slice ta bx.term.to.length tc] 49);clear d0 q6 q5 l3 e7 q1 p6 e6 k4 i7 k1 j5 u3 u2 u1 t8 l h4 y2;go_upto_region 14 with fail;generalize w7:wr.alloc (U #[.slice g2 bx.params.length g1,.slice oa bx.ops.length oc,A bx.term.kind,A bx.term.a,.slice ta bx.term.to.length tc] 49)=W9 at *;generalize v6:wr.heap.size=b9 at *;have z1:=K1 i4;have H9:=Ja (show F W7 W9/\L W9 b9 #[.slice g2 bx.params.length g1,.slice oa bx.ops.length oc,A bx.term.kind,A bx.term.a,.slice ta bx.term.to.length tc] 49 from⟨r4,i4⟩);clear w7 v6 i4 r4 e0 e1 e2 e3 e4;go_wp2
        go_loopw [69] (fun kv wx=>∃k:Nat,k<=bx.ops.length/\kv=A k/\Hid (F W9 wx/\xF d (zy blocks) i (bx.ops.take k) 0=true)) (fun kv _=>bx.ops.length-(intOf kv).toNat)
        case atStart=>exact⟨0,Jt _,rfl,Ja ⟨Below.refl _ _,rfl⟩⟩
        case round=>
         obtain⟨k,hk,rfl,HK⟩:=hrel
         by_cases d8:k<bx.ops.length
         ·have n7:(k:Int)<bx.ops.length:=Zo;have n5:=Ja d8;obtain⟨o,ho⟩:∃o,bx.ops[k]? =some o:=⟨_,Jd d8⟩
          obtain⟨qb,qo,rfl,c9,o9,o6,o5,o4,o3,k5,av,o2,n0⟩:=a0.out.2.1.get ho;obtain⟨aa,ac,rfl,n1,m7⟩:=n0.form;have g:F W7 wr:=H9.out.1.trans (HK.out.1.mono H9.out.1.size);have l:Below B w wr:=(h.out.1.mono m.out.2.1).trans (g.mono (Jn m.out.2.1 h.out.1.size));have c0:=zV l c9 o9;have c1:=zV l c9 o6;have c2:=zV l c9 o5;have c3:=zV l c9 o4;have c4:=zV l c9 o3;have c5:=zV l c9 o2;have b7:=zI (W:=wr) (o:=U (D o aa ac) 77) rfl;have r2:=HK.out.1.alloc HK.out.1.size (U (D o aa ac) 77);have a6:=l.alloc (Jn m.out.2.1 (Jn h.out.1.size g.size)) (U (D o aa ac) 77);have n9:=uses_any o k5 (Jn (Jn m.out.2.1 (Jn h.out.1.size g.size)) Zs) (n0.below zO a6) (aU m.out.2.2.2.1 (a0.out.2.2.2.2.2.1 o (Ji ho)));have HO:=Ja ho;clear ho o9 o6 o5 o4 o3 o2 k5 n0 n1 m7 l g d8 a6 z1;go_upto_region 17 with fail;generalize w5:wr.alloc (U (D o aa ac) 77)=WA at *;generalize v5:wr.heap.size=bA at *;have y6:=K0 b7;have y5:=K1 b7;have y4:=K2 b7;have y3:=K3 b7;have x9:=K4 b7;have x8:=K5 b7;have s0:=Ja n9;have d5:=Ja r2;clear n9 r2 b7 w5 v5 c0 c1 c2 c3 c4 c5;obtain⟨q,hq⟩:∃q,(rR o).all (yy d (zy blocks) i k)=q:=⟨_,rfl⟩
          have HQ:=Ja hq;clear hq
          have f0:∀W lv,F WA W->zY W W.heap.size lv (rR o)->Y 69 #[Q C,lv,A i,A k] W (ym W q):=fun W lv hb hin=>by
           have a3:F W7 W:=H9.out.1.trans ((d5.out.trans (hb.mono d5.out.size)).mono H9.out.1.size);rw[<-HQ.out];exact qI (h.out.2.1.below a3) h.out.2.2.2.2 f3.out.2 (by rw[xu];exact j.out.2.2.1.1) ((h.out.2.2.1.below zO a3).mono zO a3.size) (fun v b hv=>by rw[xu];exact rN HR.out v b hv) hin i (by rw[xu];exact i0.out) k (qL (Jn hk (Jn a0.out.2.2.2.2.1.2.1 Zd)))
          have i1:=Ja f0;clear f0
          cases q with
          |false=>
           go_wp2_with (first|(go_at_call 70;go_must (refine s0.out.mono ?_;rintro e wu ⟨uv,rfl,g3,b4⟩))|(go_at_call 69;go_must (refine(i1.out _ _ b4 g3).mono ?_;rintro e wd ⟨rfl,a5⟩))|go_in)
           go_ret
           have hr:res=false:=by
            rw[f3.out.1];refine pH a0.out.1 ?_;unfold aaC;rw[oA HO.out HQ.out];rfl
           have x2:F W7 wd:=H9.out.1.trans ((d5.out.trans ((b4.trans (a5.mono b4.size)).mono d5.out.size)).mono H9.out.1.size)
           exact⟨uz hr,h.out.1.trans (x2.mono h.out.1.size)⟩
          |true=>
           go_wp2_with (first|(go_at_call 70;go_must (refine s0.out.mono ?_;rintro e wu ⟨uv,rfl,g3,b4⟩))|(go_at_call 69;go_must (refine(i1.out _ _ b4 g3).mono ?_;rintro e wd ⟨rfl,a5⟩))|go_in)
           have HN:=Ja (d5.out.trans ((b4.trans (a5.mono b4.size)).mono d5.out.size));clear b4 a5 g3;go_roundw
           case rel=>
            have g0:=Ja (show F W9 wd/\xF d (zy blocks) i (bx.ops.take (k+1)) 0=true from⟨HN.out,by rw[gZ HO.out,HK.out.2,HQ.out];rfl⟩)
            (repeat apply Exists.intro);exact⟨⟨k+1,n5.out,by go_num,g0⟩,rfl⟩
           case measure=>have:=n5.out;simp[intOf];omega
         ·obtain rfl:k=bx.ops.length:=by omega
          have n7:¬(bx.ops.length:Int)<bx.ops.length:=Zo;have g:F W7 wr:=H9.out.1.trans (HK.out.1.mono H9.out.1.size);have a6:Below B w wr:=(h.out.1.mono m.out.2.1).trans (g.mono (Jn m.out.2.1 h.out.1.size));have c8:=zH HK.out.1 H9.out.2 (lt_of_block H9.out.2);have f6:=HK.out.2;rw[Nl] at f6;have z2:=K1 c8;have z3:=K2 c8;have z4:=K3 c8;have z5:=K4 c8;have l9:=lt_of_block c8;have k9:=Below.refl wr.heap.size wr;obtain⟨q,hq⟩:∃q,(mE bx.term).all (yy d (zy blocks) i bx.ops.length)=q:=⟨_,rfl⟩
          have r0:∀W,F wr W->Y 71 #[.agg #[A bx.term.kind,A bx.term.a,.slice ta bx.term.to.length tc]] W (wG W (mE bx.term)):=fun W hb=>
           ends_any bx.term a0.out.2.2.2.1 (Jn (Jn m.out.2.1 (Jn h.out.1.size g.size)) hb.size) (a0.out.2.2.1.below xL (a6.trans (hb.mono (Jn m.out.2.1 (Jn h.out.1.size g.size))))) ⟨a0.out.2.2.2.2.1.2.2,lD j.out.2.2.1 a0.out.2.2.2.2.2.2⟩
          have f0:∀W lv,F wr W->zY W W.heap.size lv (mE bx.term)->Y 69 #[Q C,lv,A i,A (bx.ops.length:Int)] W (ym W q):=fun W lv hb hin=>by
           have a3:F W7 W:=g.trans (hb.mono g.size);rw[<-hq];exact qI (h.out.2.1.below a3) h.out.2.2.2.2 f3.out.2 (by rw[xu];exact j.out.2.2.1.1) ((h.out.2.2.1.below zO a3).mono zO a3.size) (fun v b hv=>by rw[xu];exact rN HR.out v b hv) hin i (by rw[xu];exact i0.out) _ (qL (Jn a0.out.2.2.2.2.1.2.1 Zd))
          have x3:=Ja r0;have i1:=Ja f0;have HQ:=Ja (show aaC d (zy blocks) bx i=q from by unfold aaC;rw[f6,hq];rfl);have i3:=Ja g;clear hq r0 f0 f6 c8 a6 g d8 z1;go_wp2_with fail
          go_cut [91] (fun s wx=>s=.bool (!q)/\Hid (F wr wx))
          case first=>
           go_region_held3 (fun w'=>G w' b9 1 (.slice oa bx.ops.length oc)/\G w' b9 2 (A bx.term.kind)/\G w' b9 3 (A bx.term.a)/\G w' b9 4 (.slice ta bx.term.to.length tc)/\F wr w')
            (first
              |(go_split_ands;refine⟨?_,?_,?_,?_,?_⟩<;>assumption)
              |(go_split_ands;refine⟨?_,?_,?_,?_,uG ?_⟩<;>assumption))
            (first
              |(go_at_call 71;go_must (refine(x3.out _ (by repeat' (first|assumption|(with_reducible refine Below.drew ?_)))).mono ?_;rintro e w2 ⟨ev,rfl,v0,b6⟩;have t:Below wr.heap.size wr w2:=Below.trans (by repeat' (first|assumption|(with_reducible refine Below.drew ?_))) (b6.mono (Below.size (B:=wr.heap.size) (w:=wr) (by repeat' (first|assumption|(with_reducible refine Below.drew ?_)))));have A0:=zV t l9 z2;have z6:=zV t l9 z3;have z0:=zV t l9 z4;have y7:=zV t l9 z5))
              |(go_at_call 69;go_must (refine(i1.out _ _ (by repeat' (first|assumption|(with_reducible refine Below.drew ?_))) v0).mono ?_;rintro e w4 ⟨rfl,d4⟩;have c7:Below wr.heap.size wr w4:=Below.trans (by repeat' (first|assumption|(with_reducible refine Below.drew ?_))) (d4.mono (Below.size (B:=wr.heap.size) (w:=wr) (by repeat' (first|assumption|(with_reducible refine Below.drew ?_)))));have A4:=zV c7 l9 z2;have A3:=zV c7 l9 z3;have A2:=zV c7 l9 z4;have A1:=zV c7 l9 z5)))
           all_goals
            go_wp2_with fail;go_meet;exact⟨rfl,Ja (by repeat' (first|assumption|(with_reducible refine Below.drew ?_)))⟩
          case rest=>
           obtain⟨rfl,s5⟩:=hcut
           cases q with
           |false=>
            have hr:=Ja (show res=false by rw[f3.out.1];exact pH a0.out.1 HQ.out);go_wp2;go_ret
            exact⟨uz hr.out,h.out.1.trans ((i3.out.trans (s5.out.mono i3.out.size)).mono h.out.1.size)⟩
           |true=>
            go_wp2;go_roundw
            case rel=>
             have g0:=Ja (show F W7 wc/\tO d (zy blocks) (blocks.take (i+1)) 0=true from⟨i3.out.trans (s5.out.mono i3.out.size),by rw[mz a0.out.1,HI.out.2,HQ.out];rfl⟩)
             (repeat apply Exists.intro);exact⟨⟨i+1,i0.out,by go_num,g0⟩,rfl⟩
            case measure=>have:=i0.out;simp[intOf];omega
       ·obtain rfl:i=blocks.length:=by omega
        have t2:¬(blocks.length:Int)<blocks.length:=Zo;have b3:=HI.out.2;rw[Nl] at b3;have hr:=Ja (f3.out.1.trans b3);clear b3 h4 y2;go_wp2;go_ret;exact⟨uz hr.out,h.out.1.trans (HI.out.1.mono h.out.1.size)⟩
end Go.Proofs.Ytojclalkfhoooaa
