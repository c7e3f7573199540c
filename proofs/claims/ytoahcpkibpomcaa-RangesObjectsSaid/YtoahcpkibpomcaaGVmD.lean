/- Part of a proof. -/
import Derived.Test.YtoahcpkibpomcaaGMkS2
set_option linter.all false
set_option maxHeartbeats 6400000
set_option maxRecDepth 100000
namespace Go.Proofs.Ytoahcpkibpomcaa
open Go.RowKit
variable {c i tg vb vn:Nat}{m:Mach}{w w' w0:World}{K:MK}{g:List IBlk}{xs:List Nat}{es:Array _}{P:Nat->Prop}{M:MS}{t:ITerm}
theorem lU{E:IEnv}{c:Int->List Nat->Mach->Res Nat}{m':Mach}{x:Nat}(h:tY E c m=.ok x m'):x=0:=by
 unfold tY at h
 split at h
 ·split at h
  ·split at h
   ·cases h;rfl
   ·cases h
  ·cases h;rfl
 ·cases h;rfl
theorem step_27{ov:Value}(h:MachAt w K m ov){g oa ob:Int}{on:Nat}(a6:I64 oa)(a5:I64 ob)(b2:on<65536)(ab:Option Addr)(an ac:Nat){v:Int->Nat}(hv:xO w vb vn v)(a8:Hid (OkProg K.E.p)){r:Nat}(hr:r<=100)(hC:Hid (pq K r)):
 T 97 #[L K.pm,.agg #[I 27,I g,I oa,I ob,G on,.slice ab an ac],.map (some vb),I (100-(r:Int))] w (zQ K w (tY K.E (xW K.E r) m)):=by
 have a2:=fun(W:World) (hW:Frm K.B w W)=>(hv.kept hW).look a6
 have a1:=fun(W:World) (hW:Frm K.B w W)=>(hv.kept hW).look a5
 have b1:=hv.2 oa;have b0:=hv.2 ob;have b3:=h.size;have a3:=Ja (h.keep ((Below.refl _ _).alloc (Je _) (A #[I 27,I g,I oa,I ob,G on,.slice ab an ac] 27)));have q:=Ja ((Frm.refl K.B w).alloc Zo (A #[I 27,I g,I oa,I ob,G on,.slice ab an ac] 27));have la:=fun n:Nat=>a2 _ (q.out.drewN (n:=n))
 have lb:=fun n:Nat=>a1 _ (q.out.drewN (n:=n))
 have j:=zI (W:=w) (o:=A #[I 27,I g,I oa,I ob,G on,.slice ab an ac] 27) rfl;clear h hv a2 a1;generalize v oa=xa at *;generalize v ob=xb at *;go_enter Try.func97,Try.ntmps97;go_upto_region 1 with fail;generalize a9:w.alloc (A #[I 27,I g,I oa,I ob,G on,.slice ab an ac] 27)=W1 at *;clear a9;have p0:=K0 j;have p2:=K2 j;have p3:=K3 j;have p4:=K4 j
 go_cut [9,10] (fun x y wx=>x=G xa/\y=G xb/\∃n,wx=W1.drewN n)
 case first=>
  go_quiet (fail);go_wp2;go_meet;exact⟨rfl,rfl,_,rfl⟩
 case rest=>
  obtain⟨rfl,rfl,n,rfl⟩:=hcut;have HM:=Ja (a3.out.drewN n);have HF:=Ja (q.out.drewN (n:=n));have q0:(W1.drewN n).cell? ⟨w.heap.size,0,none⟩=_:=p0;have q2:(W1.drewN n).cell? ⟨w.heap.size,2,none⟩=_:=p2;have q4:(W1.drewN n).cell? ⟨w.heap.size,4,none⟩=_:=p4;clear la lb p0 p2 p3 p4 j a3 q;generalize W1.drewN n=W2 at *;have c:=poll_any HM.out a8.out hr hC.out
  cases d:tY K.E (xW K.E r) m with
  |ok x m'=>
   have a4:=lU d;subst a4;have l:T 104 #[L K.pm,I (100-(r:Int))] W2 fun e w'=>e=.returned (.tuple #[])/\(∃ov',MachAt w' K m' ov')/\Frm K.B W2 w':=by rw[d] at c;exact c
   have a0:=Ja l;have EE:=Ja d;clear c l d;go_wp2_with (go_at_call 104;go_must (refine a0.out.mono ?_;rintro e w' ⟨rfl,⟨ov',t⟩,u⟩))
   go_ret;rw[EE.out]
   exact zQ.ok (x:=0) t (HF.out.trans u) Zd
  |trap k i m'=>
   have l:T 104 #[L K.pm,I (100-(r:Int))] W2 fun e w'=>e=.panicked [oE k i]/\(∃ov',MachAt w' K m' ov')/\Frm K.B W2 w':=by rw[d] at c;exact c
   have a0:=Ja l;have EE:=Ja d;clear c l d;go_wp2_with (go_at_call 104;go_must (refine a0.out.mono ?_;rintro e w' ⟨rfl,⟨ov',t⟩,u⟩))
   exact⟨rfl,by rw[EE.out];exact zQ.trap t (HF.out.trans u)⟩
theorem u16s_lt{B:Nat}{v:Value}(h:wV w B v xs):∀x∈xs,x<65536:=by
 intro x c;obtain⟨k,hk⟩:=Ny c;obtain⟨a,g,rfl,_,_,_⟩:=id h;obtain⟨b,o,_,_,d⟩:=h.get hk;exact d.2
def aam (o:IOp)(av:Value):Value:=.agg #[I o.code,I o.res,I o.a,I o.b,G (o.n:Int),av]
theorem step_any{ov:Value}(h:MachAt w K m ov)(j:OkProg K.E.p){o:IOp}(ho:OkOp K.E.p o)(hb:I64 o.code/\I64 o.res/\I64 o.a/\I64 o.b/\o.n<65536){av:Value}(k:zY w w.heap.size av o.args)
  {v:Int->Nat} (hv:xO w vb vn v) {r:Nat} (hr:r<=100) (y:pq K r) (q:m.out.length+1+m.fuel.toNat<=4000000):
 T 97 #[L K.pm,aam o av,.map (some vb),I (100-(r:Int))] w (zQ K w (oV K.E (xW K.E r) o v m)):=by
 obtain⟨code,res,oa,ob,on,xs⟩:=o;obtain⟨⟨a1,a0⟩,h2,l⟩:=ho;obtain⟨_,a2,d,c,g⟩:=hb;obtain⟨aa,ac,i,_,_⟩:=k.form;simp only at *;unfold aam;have u:code=1∨code=2∨code=3∨code=4∨(5<=code/\code<=17)∨code=18∨code=19∨code=20∨code=21∨code=22∨code=23∨code=24∨code=25∨code=26∨code=27:=Zo;have t:∀x∈K.E.inn,x<65536:=u16s_lt h.inn;rcases u with rfl|rfl|rfl|rfl|hc|rfl|rfl|rfl|rfl|rfl|rfl|rfl|rfl|rfl|rfl
 ·subst i;exact step_1 h d c g _ _ _ hv _
 ·subst i;exact step_2 h d c g _ _ _ hv _ (h2 rfl)
 ·subst i;exact step_3 h d c g _ _ _ hv _
 ·subst i;exact step_4 h d c g _ _ _ hv _
 ·subst i
  have e:oV K.E (xW K.E r) ⟨code,res,oa,ob,on,xs⟩ v m=iy m code (v oa) (v ob):=by
   unfold oV mU;simp only;rw[if_neg Zo,if_neg Zo,if_neg Zo,if_neg Zo,if_neg Zo,if_neg Zo,if_neg Zo,if_neg Zo,if_neg Zo,if_neg Zo,if_neg Zo,if_neg Zo,if_neg Zo,if_neg Zo]
  rw[e];exact step_ar h d c g _ _ _ hv _ hc
 ·subst i;exact step_18 h d c g _ _ _ hv _
 ·subst i;exact step_19 h d c g _ _ _ hv _
 ·subst i;exact step_20 h d c g _ _ _ hv _
 ·subst i;exact step_21 h d c g _ _ _ hv _
 ·subst i;exact step_22 h d c g _ _ _ hv _ (Ja j.bank)
 ·subst i;exact step_23 h d c g _ _ _ hv _ (Ja j.bank)
 ·subst i;exact step_24 h d c g _ _ _ hv _ (Ja t)
 ·subst i;exact step_25 h d c g _ _ _ hv _ q
 ·exact step_26 h d c g k (by have:=j.argle oa.toNat;have:=(l rfl).2.2;omega) hv hr y (l rfl)
 ·subst i;exact step_27 h d c g _ _ _ hv (Ja j) hr (Ja y)
theorem nQ{b q:Nat}{v:Value}(d:U w b q v)(hm:w.heap[vb]? =some (.map es c)):b≠vb:=by
 rintro rfl;simp[World.cell?,hm] at d
theorem MachAt.grownMap{ov:Value}(h:MachAt w K m ov)(hm:w.heap[vb]? =some (.map es c))(hB:K.B<=vb)(hg:w.grownBy w' (some vb)):MachAt w' K m ov:=by
 have n1:vb≠K.pm:=by rintro rfl;rw[h.blk] at hm;cases hm
 have n2:vb≠K.rb:=by rintro rfl;rw[h.ram] at hm;cases hm
 have hb:Below K.B w w':=(Below.refl _ _).grown hg (Qd h.size) (fun k hk=>by simp at hk;omega);refine⟨zL hg h.blk (by simpa using n1),zL hg h.ram (by simpa using n2),h.rlen,h.rlt,h.out.kept hg ?_,h.olt,h.obd,h.fuel,h.inp,h.pol,h.gpm,h.grb,h.prog.below hb,h.inn.below zr hb,h.irq.below xQ hb⟩;rcases h.out.2 with⟨hv,_⟩|⟨g,i,cur,hv,_,d,_⟩
 ·left;rw[hv];rfl
 ·right;rw[hv];intro e;simp only[Value.ownBlock,Option.some.injEq] at e;subst e;rw[d] at hm;cases hm
theorem Frm.grownMap{B:Nat}(h:Frm B w0 w)(c:w0.heap.size<=vb)(hB:B<=w0.heap.size)(hg:w.grownBy w' (some vb)):Frm B w0 w':=
 ⟨h.below.grown hg (Jn hB h.below.size) (fun k hk=>by simp at hk;omega),fun k o hk hs=>zL hg (h.kept k o hk hs) (by have:=lt_of_block hk;simp;omega)⟩
theorem U16s.grownMap{B:Nat}{v:Value}(h:wV w B v xs)(hm:w.heap[vb]? =some (.map es c))(hg:w.grownBy w' (some vb)):wV w' B v xs:=by
 obtain⟨a,g,rfl,t,q,m⟩:=h;refine⟨a,g,rfl,t,q,fun k x hk=>?_⟩;obtain⟨b,o,l,j,d,i⟩:=m k x hk;exact⟨b,o,l,j,hg.cell d (by simpa using nQ d hm),i⟩
structure CSt (K:MK) (w0 w:World) (m:Mach) (vb vn:Nat) (v:Int->Nat):Prop where
 mach:∃ov,MachAt w K m ov
 frm:Frm K.B w0 w
 map:xO w vb vn v
 new:w0.heap.size<=vb
 gb:K.B<w0.heap.size
theorem CSt.alloc{v:Int->Nat}(h:CSt K w0 w m vb vn v)(o:Obj):CSt K w0 (w.alloc o) m vb vn v:=by
 obtain⟨ov,hm⟩:=h.mach;exact⟨⟨ov,hm.keep ((Below.refl _ _).alloc (Je _) o)⟩,h.frm.trans ((Frm.refl _ _).alloc (by have:=hm.size;omega) o),h.map.kept ((Frm.refl K.B w).alloc (by have:=hm.size;omega) o),h.new,h.gb⟩
theorem CSt.store{n':Nat}{v v':Int->Nat}(h:CSt K w0 w m vb vn v)(hm:xO w' vb n' v')(hg:w.grownBy w' (some vb)):CSt K w0 w' m vb n' v':=by
 obtain⟨ov,d⟩:=h.mach;obtain⟨es,c,hb⟩:=h.map.blk;exact⟨⟨ov,d.grownMap hb (by have:=h.new;have:=h.gb;omega) hg⟩,h.frm.grownMap h.new (Qd h.gb) hg,hm,h.new,h.gb⟩
theorem CSt.step {K:MK}{w0 w w':World}{m m':Mach}{vb vn:Nat}{v:Int->Nat}{c:Value}(h:CSt K w0 w m vb vn v)(g:MachAt w' K m' c)(d:Frm K.B w w'):CSt K w0 w' m' vb vn v:=
 ⟨⟨c,g⟩,h.frm.trans d,h.map.kept d,h.new,h.gb⟩
theorem CSt.keep{v:Int->Nat}(h:CSt K w0 w m vb vn v)(hb:O w w'):CSt K w0 w' m vb vn v:=by
 obtain⟨ov,hm⟩:=h.mach;exact h.step (hm.keep hb) ⟨hb.mono (Qd hm.size),fun i o hi _=>zH hb hi (lt_of_block hi)⟩
theorem iA (K:MK):pq K 0:=by
 intro w m ov av f args h d c g hl;obtain⟨aa,ac,rfl,_,_⟩:=g.form;have j:(100:Int)<101:=Zo;have i:=Ja h;clear h g hl d c;go_enter Try.func91,Try.ntmps91;go_wp2_with (go_at_call 95;go_must (refine(wj 5 0 _).mono ?_;rintro e w' ⟨rfl,rfl⟩))
 exact⟨rfl,zQ.trap i.out (Frm.refl _ _)⟩
def jw (K:MK)(w0 wx:World)(r n:Nat)(blocks:List IBlk)(vb:Nat)(at':Nat)(av:Value)(R:Res Nat):Prop:=
 ∃(args:List Nat) (v:Int->Nat) (m:Mach) (vn:Nat),CSt K w0 wx m vb vn v/\wV wx wx.heap.size av args/\args.length=(xz blocks at').params.length/\at'<blocks.length/\m.fuel.toNat<n/\vn+m.fuel.toNat*70000<=300000000000/\tJ K.E (xW K.E r) blocks n at' args v m=R
theorem rh {blocks:List IBlk}{a:Nat}(h:a<blocks.length):blocks[a]? =some (xz blocks a):=by
 unfold xz;rw[Ni,Jj,Jd h];rfl
theorem ru (E:IEnv)(c:Int->List Nat->Mach->Res Nat)(blocks:List IBlk)(n:Nat)(a:Int)(args:List Nat)(v:Int->Nat)(m:Mach):tJ E c blocks (n+1) a args v m=
 match iq E c (xz blocks a).ops (r7 (xz blocks a).params args v) m with
 |.trap k i m'=> .trap k i m'
 |.ok v2 m2=>
  if m2.fuel<=0 then .trap 7 0 m2
  else if(xz blocks a).term.kind=4 then .ok (if(xz blocks a).term.a=-1 then 0 else v2 (xz blocks a).term.a) m2.pay
  else if(xz blocks a).term.kind=5 then .trap 1 0 m2.pay
  else tJ E c blocks n (wK (xz blocks a).term (v2 (xz blocks a).term.a)).block ((wK (xz blocks a).term (v2 (xz blocks a).term.a)).args.map v2) v2 m2.pay:=rfl
theorem j7 (E:IEnv)(c:Int->List Nat->Mach->Res Nat)(o:IOp)(os:List IOp)(v:Int->Nat)(m:Mach):iq E c (o::os) v m=
 if m.fuel<=0 then .trap 7 0 m
 else match oV E c o v m.pay with
  |.ok r m'=>iq E c os (setV v o.res r) m'
  |.trap k i m'=> .trap k i m':=rfl
theorem bd_next{p1 p2:Nat}(c:vn+p2*70000<=300000065536)(d:p1+1=p2):vn+p1*70000<=300000000000:=by
 subst d;rw[Nat.add_mul,<-Nat.add_assoc] at c;exact Jn (Nat.le_of_add_le_add_right (b:=70000) (show vn+p1*70000+70000<=299999995536+70000 from c)) Zd
def OpsSt (K:MK)(w0 wx:World)(r:Nat)(vb b12:Nat)(cs:Array Value)(m1:Mach)(os:List IOp)(R:Res (Int->Nat)):Prop:=
 ∃(v:Int->Nat) (m:Mach) (vn:Nat),CSt K w0 wx m vb vn v/\Q wx b12 cs 36/\vn+m.fuel.toNat*70000<=300000065536/\m.fuel<=m1.fuel/\iq K.E (xW K.E r) os v m=R
theorem jC (K:MK)(s4:OkProg K.E.p)(r:Nat)(hr:r+1<=100)(hC:pq K r):pq K (r+1):=by
 intro w m ov av f args h x2 c9 ha hl;obtain⟨aa,ac,rfl,_,_⟩:=ha.form;obtain⟨k,rfl⟩:∃k:Nat,f=(k:Int):=⟨f.toNat,by omega⟩
 have j2:=h.prog.funcs;obtain⟨fa,fc,t3,_,_⟩:=j2.form;have c0:=h.c0;rw[t3] at j2 c0;have s6:k<K.E.p.funcs.length:=Zo;obtain⟨blocks,k1⟩:∃bl,K.E.p.funcs[k]? =some bl:=⟨_,Jd s6⟩
 obtain⟨fb,fo,rfl,_,bv,x4,n9⟩:=j2.get k1;rw[Nk] at x4;obtain⟨ba,bc,rfl,_,z5⟩:=n9.form;have s9:K.E.p.funcs.getD (k:Int).toNat []=blocks:=by rw[Ni,Jj,k1];rfl
 have B0:(k:Int)<K.E.p.funcs.length:=Zo;have n3:(101-((r+1:Nat):Int))=100-(r:Int):=Zo;have B2:¬(100:Int)<100-(r:Int):=Zo
 have l2:xW K.E (r+1) k args m=if blocks.isEmpty then .trap 8 ((k:Int)%65536).toNat m else tJ K.E (xW K.E r) blocks (m.fuel.toNat+1) 0 args (fun _=>0) m:=by
  show(if(K.E.p.funcs.getD (k:Int).toNat []).isEmpty then _ else _)=_
  rw[s9]
 have HM:=Ja h;have z1:=Ja n9;have HC:=Ja hC;have q6:=Ja s4;have u6:=Ja k1;have HA:=Ja (Jb ha hl);have hB:=h.size;rw[n3];have p1:=Ja l2;clear h j2 t3 s6 x2 c9 s9 n9 hC s4 k1 ha hl n3 l2
 by_cases f8:blocks.length=0
 ·have t1:((blocks.length:Int)==0)=true:=by rw[beq_iff_eq];omega
  have EE:=Ja (show xW K.E (r+1) k args m=.trap 8 ((k:Int)%65536).toNat m by rw[p1.out,if_pos (by rw[List.isEmpty_iff];exact Nz f8)]);obtain⟨q,hq⟩:∃q:Nat,((k:Int)%65536).toNat=q:=⟨_,rfl⟩
  have A6:IntKind.u16.wrap (k:Int)=(q:Int):=by rw[xY];omega
  rw[hq] at EE;clear f8 hq;go_enter Try.func91,Try.ntmps91;go_wp2_with (go_at_call 95;go_must (refine(wj 8 q _).mono ?_;rintro e w' ⟨rfl,rfl⟩))
  exact⟨rfl,by rw[EE.out];exact zQ.trap HM.out (Frm.refl _ _)⟩
 ·have t1:((blocks.length:Int)==0)=false:=Ze;have EE:=Ja (show xW K.E (r+1) k args m=tJ K.E (xW K.E r) blocks (m.fuel.toNat+1) 0 args (fun _=>0) m by rw[p1.out,if_neg (by rw[List.isEmpty_iff];intro e;exact f8 (by rw[e];rfl))]);obtain⟨RES,h9⟩:∃R,xW K.E (r+1) k args m=R:=⟨_,rfl⟩
  have l7:Hid (jw K w (w.alloc (.map #[] 0)) r (m.fuel.toNat+1) blocks w.heap.size 0 (.slice aa args.length ac) RES):=by
   refine⟨args,fun _=>0,m,0,⟨⟨ov,HM.out.keep ((Below.refl _ _).alloc (Je _) _)⟩,(Frm.refl _ _).alloc (Qd hB) _,xO.made w,Je _,hB⟩,?_,?_,by omega,by omega,?_,?_⟩
   ·exact(HA.out.1.below zr ((Below.refl _ _).alloc (Je _) _)).mono zr Zs
   ·obtain⟨b,bs,rfl⟩:∃b bs,blocks=b::bs:=by
     cases blocks with
     |nil=>exact absurd rfl f8
     |cons b bs=>exact⟨b,bs,rfl⟩
    have h1:=q6.out.par k b bs u6.out;have h2:=HA.out.2;rw[Ni] at h2
    show args.length=b.params.length
    omega
   ·have:=HM.out.obd;omega
   ·rw[<-h9,EE.out];rfl
  rw[h9];have u5:=Ja (show ∀b∈blocks,OkBlk K.E.p blocks b from q6.out.blk blocks (Ji u6.out));have s5:0<blocks.length:=Zo;have B4:=Ja s5;clear f8 h9 EE p1 s5 HA;generalize w0:m.fuel.toNat+1=gas at l7;clear w0;have A9:=@run_makeMap Try.prog;go_enter Try.func91,Try.ntmps91;go_wp2
  go_loopg [2,11] gas (fun n sv atv wx=>∃(at':Nat) (sa:Option Addr) (sn sc:Nat),sv=.slice sa sn sc/\atv=I at'/\Hid (jw K w wx r n blocks w.heap.size at' (.slice sa sn sc) RES))
  case atStart=>exact⟨0,aa,args.length,ac,rfl,rfl,l7⟩
  case round=>
   obtain⟨at',sa,sn,sc,rfl,rfl,HS⟩:=hrel
   cases gk with
   |zero=>obtain⟨_,_,m1,_,_,_,_,_,x0,_⟩:=HS.out;exact absurd x0 (Nat.not_lt_zero _)
   |succ n=>
    obtain⟨args1,v1,m1,vn1,d6,f0,u0,o4,t6,t8,c⟩:=HS.out;obtain⟨sa',sc',e1,_,_⟩:=f0.form;cases e1;have w1:=z1.out.get (rh o4);have m5:=u5.out _ (Ji (rh o4));generalize o0:xz blocks at'=bk at *;have i1:=Ja o0;obtain⟨bb,bo,rfl,d8,k2,k3,s7,pv,ov1,tv,kp,ko,kt,l9,m3,l4⟩:=w1;have k2:=zV d6.frm.below d8 k2;have k3:=zV d6.frm.below d8 k3;have kp:=zV d6.frm.below d8 kp;have ko:=zV d6.frm.below d8 ko;have kt:=zV d6.frm.below d8 kt;obtain⟨pa,pc,rfl,_,_⟩:=l9.form;obtain⟨oa,oc,rfl,_,_⟩:=m3.form;obtain⟨ta,tc,rfl,_,_⟩:=l4.form;have z7:(at':Int)<blocks.length:=Zo;have y6:=Ja d6;have b8:=Ja (Jb f0 u0);have e4:=Ja (Jb c (Jb t6 t8));have c2:=Ja m5;have h0:=Ja (Jb l9 (Jb m3 (Jb l4 s7)));clear l7 HS d6 f0 u0 t6 t8 c m5 o0 l9 m3 l4 s7 o4;go_upto_region 9 with fail;have n6:=y6.out.alloc (A #[.slice pa bk.params.length pc,.slice oa bk.ops.length oc,I bk.term.kind,I bk.term.a,.slice ta bk.term.to.length tc] 36);have d:=zI (W:=wr) (o:=A #[.slice pa bk.params.length pc,.slice oa bk.ops.length oc,I bk.term.kind,I bk.term.a,.slice ta bk.term.to.length tc] 36) rfl;have f9:=(b8.out.1.below zr ((Below.refl _ _).alloc (Je _) (A #[.slice pa bk.params.length pc,.slice oa bk.ops.length oc,I bk.term.kind,I bk.term.a,.slice ta bk.term.to.length tc] 36))).mono zr (B':=(wr.alloc (A #[.slice pa bk.params.length pc,.slice oa bk.ops.length oc,I bk.term.kind,I bk.term.a,.slice ta bk.term.to.length tc] 36)).heap.size) Zs;generalize y0:wr.alloc (A #[.slice pa bk.params.length pc,.slice oa bk.ops.length oc,I bk.term.kind,I bk.term.a,.slice ta bk.term.to.length tc] 36)=W1 at *;generalize wr.heap.size=b12 at *;have A4:=K0 d;have u1:=Ja (show CSt K w W1 m1 w.heap.size vn1 v1/\wV W1 W1.heap.size (.slice sa args1.length sc) args1/\Q W1 b12 #[.slice pa bk.params.length pc,.slice oa bk.ops.length oc,I bk.term.kind,I bk.term.a,.slice ta bk.term.to.length tc] 36 from⟨n6,f9,d⟩);have A8:=c2.out.2.2;clear y0 n6 f9 d k2 k3 kp ko kt;go_wp2
    go_loopw [47] (fun jv wx=>∃j:Nat,j<=bk.params.length/\jv=I j/\Hid (CSt K w wx m1 w.heap.size (vn1+j) (r7 (bk.params.take j) (args1.take j) v1)/\wV wx wx.heap.size (.slice sa args1.length sc) args1/\Q wx b12 #[.slice pa bk.params.length pc,.slice oa bk.ops.length oc,I bk.term.kind,I bk.term.a,.slice ta bk.term.to.length tc] 36)) (fun jv _=>bk.params.length-(intOf jv).toNat)
    case atStart=>exact⟨0,Jt _,rfl,u1.out⟩
    case round=>
     obtain⟨j,hj,rfl,HJ⟩:=hrel
     by_cases a0:j<bk.params.length
     ·skip
      have e5:(j:Int)<bk.params.length:=Zo;have b3:=Ja a0;obtain⟨x,hx⟩:∃x,bk.params[j]? =some x:=⟨_,Jd a0⟩
      obtain⟨y,hy⟩:∃y,args1[j]? =some y:=⟨_,Jd (by rw[b8.out.2];exact a0)⟩
      obtain⟨b1,o1,rfl,a8,n7,v8⟩:=h0.out.1.get hx;rw[Nk] at n7;have cp:=zV HJ.out.1.frm.below a8 n7;obtain⟨b2,o2,rfl,x6,x3,v6⟩:=HJ.out.2.1.get hy;rw[Nk] at x3;have A5:(j:Int)<args1.length:=by have:=b8.out.2;omega
      have l8:=qq (bk.params.take j) (args1.take j) v1 x y (by have:=b8.out.2;rw[Oc,Oc];omega);have e1:bk.params.take (j+1)=bk.params.take j++ [x]:=by rw[Nh,hx];rfl
      have e2:args1.take (j+1)=args1.take j++ [y]:=by rw[Nh,hy];rfl
      rw[<-e1,<-e2] at l8;have y3:=Ja l8;have l0:vn1+j<9000000000000000000:=by have:=e4.out.2.2;omega
      obtain⟨es,ec,c4⟩:=HJ.out.1.map.blk;have u3:=Ja c4;clear hx hy n7 l8 e1 e2 a8 x6 a0 c4;go_wp2_with (at_mapUpdate;go_must (refine us rfl (.tmp 52) (.tmp 53) (.tmp 57) rfl HJ.out.1.map l0 x y rfl rfl rfl v8 v6 ?_;intro w5 f5 f7;have b7:=Ja (Jb f5 f7);clear f5 f7))
      go_roundw
      case rel=>
       refine⟨j+1,b3.out,by go_num,?_,?_,?_⟩
       ·rw[y3.out];exact HJ.out.1.store b7.out.1 b7.out.2
       ·exact(U16s.grownMap HJ.out.2.1 u3.out b7.out.2).mono zr b7.out.2.size
       ·refine zL b7.out.2 HJ.out.2.2 ?_;intro e;have c4:=u3.out;rw[Nt e,HJ.out.2.2] at c4;cases c4
      case measure=>have:=b3.out;simp[intOf];omega
     ·skip
      obtain rfl:j=bk.params.length:=by omega
      have e5:¬(bk.params.length:Int)<bk.params.length:=Zo;have j1:r7 (bk.params.take bk.params.length) (args1.take bk.params.length) v1=r7 bk.params args1 v1:=by rw[Nl,<-b8.out.2,Nl]
      have HQ:=HJ.out;rw[j1] at HQ;have y2:=Ja HQ;have A3:=K1 HQ.2.2;obtain⟨OR,o5⟩:∃R,iq K.E (xW K.E r) bk.ops (r7 bk.params args1 v1) m1=R:=⟨_,rfl⟩
      have p5:=Ja o5;generalize n5:(#[.slice pa bk.params.length pc,.slice oa bk.ops.length oc,I bk.term.kind,I bk.term.a,.slice ta bk.term.to.length tc]:Array Value)=cs at *;have z0:=Ja n5;have l5:Hid (OpsSt K w wr r w.heap.size b12 cs m1 (bk.ops.drop 0) OR):=⟨_,m1,_,HQ.1,HQ.2.2,by have:=e4.out.2.2;have:=c2.out.2.2;omega,Og _,o5⟩
      clear HQ j1 HJ o5 y2 n5 u1;go_wp2
      go_loopw [62] (fun jv wx=>∃j:Nat,j<=bk.ops.length/\jv=I j/\Hid (OpsSt K w wx r w.heap.size b12 cs m1 (bk.ops.drop j) OR)) (fun jv _=>bk.ops.length-(intOf jv).toNat)
      case atStart=>exact⟨0,Jt _,rfl,l5⟩
      case round=>
       obtain⟨j,hj,rfl,HJ⟩:=hrel
       by_cases a0:j<bk.ops.length
       ·skip
        have e5:(j:Int)<bk.ops.length:=Zo;have b3:=Ja a0;obtain⟨o,ho⟩:∃o,bk.ops[j]? =some o:=⟨_,Jd a0⟩
        have k0:bk.ops.drop j=o::bk.ops.drop (j+1):=by rw[Qn a0];rw[Jd a0] at ho;rw[Nt ho]
        obtain⟨v2,m2,vn2,i,d,d7,c9,b0⟩:=HJ.out;rw[k0,j7] at b0;obtain⟨b1,o1,rfl,a8,g0,g1,g2,g3,g4,n0,av3,g5,k9⟩:=h0.out.2.1.get ho;obtain⟨xa,xc,rfl,_,_⟩:=k9.form;have d0:=zV i.frm.below a8 g0;have d1:=zV i.frm.below a8 g1;have d2:=zV i.frm.below a8 g2;have d3:=zV i.frm.below a8 g3;have d4:=zV i.frm.below a8 g4;have d5:=zV i.frm.below a8 g5;have f1:=Ja i;have w7:=Ja d;have f2:=Ja (Jb d7 (Jb c9 b0));have p0:=Ja (Jb k9 n0);have y4:=Ja (c2.out.1 o (Ji ho));clear i d d7 c9 b0 k9 n0 k0 g0 g1 g2 g3 g4 g5 a8 a0 ho;go_upto_region 17 with fail;have a2:=f1.out.alloc (A (D o xa xc) 27);have g:=zI (W:=wr) (o:=A (D o xa xc) 27) rfl;have k5:=zB (o:=A (D o xa xc) 27) w7.out;generalize x8:wr.alloc (A (D o xa xc) 27)=W2 at *;generalize wr.heap.size=b16 at *;obtain⟨ov2,g6⟩:=a2.mach;have c8:=Ja g6;have a4:=Ja a2;have r3:=Ja (Jb g k5);clear x8 a2 g k5 g6 d0 d1 d2 d3 d4 d5
        by_cases a1:m2.fuel<=0
        ·skip
         have l:=f2.out.2.2;rw[if_pos a1] at l;have c:=e4.out.1;rw[ru,i1.out,p5.out,<-l] at c;have u:=Ja c;have a3:=Ja a1;clear l c a1;go_wp2_with (go_at_call 96;go_must (refine(pay_no c8.out a3.out).mono ?_;rintro e w3 ⟨rfl,rfl⟩))
         exact⟨rfl,by rw[<-u.out];exact zQ.trap c8.out a4.out.frm⟩
        ·skip
         have l:=f2.out.2.2;rw[if_neg a1] at l;have p4:=Ja l;have a3:=Ja (show 0<m2.fuel by omega);clear l a1;go_upto_region 18 with(go_at_call 96;go_must (refine(iN c8.out a3.out).mono ?_;rintro e w3 ⟨rfl,c5,c7⟩))
         have e7:=a4.out.step c5 c7;have g:=c7.kept _ _ r3.out.1 (by simp[sA]);have d:=c7.kept _ _ r3.out.2 (by simp[sA]);have q0:=K0 g;have q1:=K1 g;have q2:=K2 g;have q3:=K3 g;have q4:=K4 g;have q5:=K5 g;have a5:=step_any c5 q6.out y4.out p0.out.2 ((p0.out.1.below zO e7.frm.below).mono zO (Qd c5.size)) e7.map (show r<=100 by omega) HC.out (by have:=c8.out.obd;have:=a3.out;simp only[Mach.pay];omega);have r0:=Ja e7;have u8:=Ja (Jb g d);clear e7 g d c5 c7
         cases a9:oV K.E (xW K.E r) o v2 m2.pay with
         |ok x m4=>
          have f4:T 97 #[L K.pm,.agg (D o xa xc),.map (some w.heap.size),I (100-(r:Int))] w3 fun e w'=>e=.returned (G x)/\(∃ov',MachAt w' K m4 ov')/\Frm K.B w3 w'/\x<65536:=by rw[a9] at a5;exact a5
          have p3:=Ja f4;have l:=p4.out;rw[a9] at l;have n2:=pI (pO K.E r) a9;have HX:=Ja (Jb l n2);clear f4 l n2 a9 a5;go_upto_region 19 with(go_at_call 97;go_must (refine p3.out.mono ?_;rintro e w4 ⟨rfl,⟨ov4,o9⟩,g8,s2⟩))
          have c1:=r0.out.step o9 g8;have g:=g8.kept _ _ u8.out.1 (by simp[sA]);have d:=g8.kept _ _ u8.out.2 (by simp[sA]);have s1:=K1 g;have f3:=Ja d
          have o3:vn2+1+m4.fuel.toNat*70000<=300000065536:=by
           have h1:=f2.out.1;have h2:=HX.out.2;have h3:=a3.out;simp only[Mach.pay] at h2;have h4:m4.fuel.toNat+1<=m2.fuel.toNat:=Zo;omega
          have t7:m4.fuel<=m1.fuel:=by have h1:=f2.out.2.1;have h2:=HX.out.2;simp only[Mach.pay] at h2;omega
          have c3:=Ja c1;have k7:=Ja (Jb o3 t7);have l0:vn2<9000000000000000000:=Zo;have w9:=c1.map;have w8:=p0.out.2.2.1;clear c1 g d o3 t7 q0 q1 q2 q3 q4 q5
          by_cases s3:0<=o.res
          ·have b4:=HX.out.1;unfold setV at b4;rw[if_pos s3] at b4;have q7:=Ja b4;clear b4;go_wp2_with (at_mapUpdate;go_must (refine us rfl (.tmp 76) (.tmp 78) (.tmp 79) rfl w9 l0 o.res x rfl rfl rfl w8 s2 ?_;intro w5 f5 f7;have b7:=Ja (Jb f5 f7);clear f5 f7))
           go_roundw
           case rel=>
            refine⟨j+1,b3.out,by go_num,_,m4,vn2+1,c3.out.store b7.out.1 b7.out.2,?_,k7.out.1,k7.out.2,q7.out⟩;refine zL b7.out.2 f3.out ?_;intro e;obtain⟨es,ec,c4⟩:=c3.out.map.blk;rw[Nt e,f3.out] at c4;cases c4
           case measure=>have:=b3.out;simp[intOf];omega
          ·have b4:=HX.out.1;unfold setV at b4;rw[if_neg s3] at b4;have q7:=Ja b4;clear b4;go_wp2;go_roundw
           case rel=>exact⟨j+1,b3.out,by go_num,_,m4,vn2,c3.out,f3.out,by have:=k7.out.1;omega,k7.out.2,q7.out⟩
           case measure=>have:=b3.out;simp[intOf];omega
         |trap k2 i2 m4=>
          have f4:T 97 #[L K.pm,.agg (D o xa xc),.map (some w.heap.size),I (100-(r:Int))] w3 fun e w'=>e=.panicked [oE k2 i2]/\(∃ov',MachAt w' K m4 ov')/\Frm K.B w3 w'/\True:=by rw[a9] at a5;exact a5
          have p3:=Ja f4;have l:=p4.out;rw[a9] at l;have c:=e4.out.1;rw[ru,i1.out,p5.out,<-l] at c;have u:=Ja c;clear f4 l c a9 a5;go_wp2_with (go_at_call 97;go_must (refine p3.out.mono ?_;rintro e w4 ⟨rfl,⟨ov4,o9⟩,g8,s2⟩))
          exact⟨rfl,by rw[<-u.out];exact zQ.trap o9 (r0.out.frm.trans g8)⟩
       ·skip
        obtain rfl:j=bk.ops.length:=by omega
        have e5:¬(bk.ops.length:Int)<bk.ops.length:=Zo;obtain⟨v2,m2,vn2,i,d,d7,c9,b0⟩:=HJ.out;rw[List.drop_length] at b0;have c:=e4.out.1;rw[ru,i1.out,p5.out,<-b0] at c;have n8:(if m2.fuel<=0 then .trap 7 0 m2 else if bk.term.kind=4 then .ok (if bk.term.a=-1 then 0 else v2 bk.term.a) m2.pay else if bk.term.kind=5 then .trap 1 0 m2.pay else tJ K.E (xW K.E r) blocks n (wK bk.term (v2 bk.term.a)).block ((wK bk.term (v2 bk.term.a)).args.map v2) v2 m2.pay)=RES:=c;obtain⟨ov2,g6⟩:=i.mach;have c8:=Ja g6;have f1:=Ja i;have r2:=Ja (Jb d (Jb d7 c9));have r1:=Ja n8;clear b0 c n8 i d d7 c9 HJ g6 l5
        by_cases a1:m2.fuel<=0
        ·skip
         have c:=r1.out;rw[if_pos a1] at c;have u:=Ja c;have a3:=Ja a1;clear c a1;go_wp2_with (go_at_call 96;go_must (refine(pay_no c8.out a3.out).mono ?_;rintro e w3 ⟨rfl,rfl⟩))
         exact⟨rfl,by rw[<-u.out];exact zQ.trap c8.out f1.out.frm⟩
        ·have c:=r1.out;rw[if_neg a1] at c;have i0:=Ja c;have a3:=Ja (show 0<m2.fuel by omega);clear c a1;go_upto_region 23 with(go_at_call 96;go_must (refine(iN c8.out a3.out).mono ?_;rintro e w3 ⟨rfl,c5,c7⟩))
         have a2:=f1.out.step c5 c7;have d:=c7.kept _ _ r2.out.1 (by simp[sA]);rw[<-z0.out] at d;have q2:=K2 d;have q3:=K3 d;have q4:=K4 d;have lk:=a2.map.look (x:=bk.term.a) h0.out.2.2.2.2;have l1:=a2.map.2 bk.term.a;have a4:=Ja a2;have e3:=Ja c5;clear a2 d c5 c7
         by_cases h4:bk.term.kind=4
         ·skip
          have c:=i0.out;rw[if_pos h4] at c;rw[h4] at q2
          by_cases e0:bk.term.a=-1
          ·rw[if_pos e0] at c;have t2:(bk.term.a==-1)=true:=by rw[beq_iff_eq];exact e0
           have u:=Ja c;clear c h4 e0;go_wp2;go_ret;rw[<-u.out];exact zQ.ok (x:=0) e3.out a4.out.frm Zd
          ·rw[if_neg e0] at c;have t2:(bk.term.a==-1)=false:=by rw[beq_eq_false_iff_ne];exact e0
           have u:=Ja c;clear c h4 e0;go_wp2;go_ret;rw[<-u.out];exact zQ.ok e3.out a4.out.frm l1
         ·by_cases h5:bk.term.kind=5
          ·skip
           have c:=i0.out;rw[if_neg h4,if_pos h5] at c;rw[h5] at q2;have u:=Ja c;clear c h4 h5;go_wp2_with (go_at_call 95;go_must (refine(wj 1 0 _).mono ?_;rintro e w' ⟨rfl,rfl⟩))
           exact⟨rfl,by rw[<-u.out];exact zQ.trap e3.out a4.out.frm⟩
          ·skip
           have c:=i0.out;rw[if_neg h4,if_neg h5] at c;have t4:(bk.term.kind==4)=false:=by rw[beq_eq_false_iff_ne];exact h4
           have t5:(bk.term.kind==5)=false:=by rw[beq_eq_false_iff_ne];exact h5
           have h7:=lL c2.out.2.1 h4 h5 (v2 bk.term.a);have a6:=c2.out.2.1.2.2.2.2 _ h7;have e8:=edge_any (w:=w3) (B:=K.B) (t:=bk.term) (blocks:=blocks) (tv:=.slice ta bk.term.to.length tc) (h0.out.2.2.1.below xL a4.out.frm.below) h0.out.2.2.2.1 (Qd e3.out.size) c2.out.2.1 h4 h5 (v2 bk.term.a) l1;obtain⟨x,s0⟩:∃x,wK bk.term (v2 bk.term.a)=x:=⟨_,rfl⟩
           rw[s0] at c h7 a6 e8;have u4:=Ja e8;have u:=Ja (Jb c a6)
           have z4:x.args.length<=65536:=by
            rw[a6.2.2];have h1:=a6.1;have hq:x.block=((x.block.toNat:Nat):Int):=Zo;rw[hq];exact(u5.out _ (Ji (rh a6.2.1))).2.2
           clear c h4 h5 h7 a6 e8 s0;generalize v2 bk.term.a=va at *;go_upto_region 31 with(go_at_call 98;go_must (refine u4.out.mono ?_;rintro e w4 ⟨av4,rfl,n1,h64,k4⟩;obtain⟨ea,ec,rfl,_,_⟩:=n1.form))
           have c1:=(a4.out.keep k4).alloc (A #[I x.block,.slice ea x.args.length ec] 93);have h8:=zI (W:=w4) (o:=A #[I x.block,.slice ea x.args.length ec] 93) rfl;have s8:zY (w4.alloc (A #[I x.block,.slice ea x.args.length ec] 93)) K.B (.slice ea x.args.length ec) x.args:=n1.below zO ((k4.mono (Qd e3.out.size)).alloc (by have:=e3.out.size;have:=k4.size;omega) _);have v9:w4.heap.size<(w4.alloc (A #[I x.block,.slice ea x.args.length ec] 93)).heap.size:=by simp
           generalize x7:w4.alloc (A #[I x.block,.slice ea x.args.length ec] 93)=W5 at *;generalize w4.heap.size=b18 at *;have u9:=K0 h8;have z2:=K1 h8;have c3:=Ja c1;have y5:=Ja s8;clear x7 c1 s8 h8 k4 n1 q2 q3 q4 lk t4 t5 u4;go_wp2
           go_loopw [2,111] (fun rv kv wx=>∃k:Nat,k<=x.args.length/\kv=I k/\Hid (wx.ownsRow W5.heap.size 22 1 rv k ((uT v2 x.args k).map vL)/\O W5 wx)) (fun _ kv _=>x.args.length-(intOf kv).toNat)
           case atStart=>exact⟨0,Jt _,rfl,Jv _ _ _ _,Below.refl _ _⟩
           case round=>
            obtain⟨k6,B1,rfl,b5⟩:=hrel;obtain⟨ra,rc,rfl⟩:=zG b5.out.1;have b9:=c3.out.keep b5.out.2
            by_cases e6:k6<x.args.length
            ·skip
             have r6:(k6:Int)<x.args.length:=Zo;have q9:=Ja e6;obtain⟨y,hy⟩:∃y,x.args[k6]? =some y:=⟨_,Jd e6⟩
             obtain⟨b6,o6,rfl,x5,n4,v5⟩:=y5.out.get hy;rw[Nk] at n4;have B3:K.B<W5.heap.size:=by obtain⟨ov5,y1⟩:=c3.out.mach;exact y1.size
             have cy:=(b5.out.2.cell (p:=⟨b6,o6+k6,none⟩) (by show b6<W5.heap.size;omega)).trans n4;have ly:=b9.map.look v5;have A7:=b9.map.2 y;have w2:=Ja (qH (v:=v2) hy);have A1:=pA (v:=v2) (show k6<=x.args.length by omega);obtain⟨ii,x1,v4,v3,v0⟩:=info_parts Try.info_u16;have z3:=b5.out.2.size;clear hy n4 e6 b9 x5;generalize v2 y=vy at *;go_wp2_with (at_builtin;go_must (refine wpList_append_lies _ rfl (.tmp 115) (.tmp 119) 29 rfl W5.heap.size 22 ii (G 0) 1 2 Try.underlying29 x1 v4 v3 v0 rfl Zd _ k6 ((uT v2 x.args k6).map vL) rfl (b5.out.1.alloc _) ⟨wr.heap.size,0,none⟩ 1 1 [G vy] rfl rfl (Oi (cs:=#[G vy]) (zI Zs)) (by simp[Value.oneCell']) Zd (by unfold maxLen;omega) Zo Zt (wr.heap.size+1) Zs ?_;intro gq A2 w6 i8 f6 A0 e6;have u2:=Ja (Jb i8 f6);clear i8 f6))
             go_roundw
             case rel=>
              refine⟨k6+1,q9.out,by go_num,?_,(b5.out.2.alloc Zo _).grown u2.out.2 Zt (fun k hk=>(b5.out.1.lt k hk).1)⟩;rw[w2.out,Js];exact u2.out.1
             case measure=>have:=q9.out;simp[intOf];omega
            ·skip
             obtain rfl:k6=x.args.length:=by omega
             have r6:¬(x.args.length:Int)<x.args.length:=Zo;have h6:=b5.out.1;rw[r8] at h6;have r4:=(b5.out.2.cell (p:=⟨b18,0,none⟩) v9).trans u9;have l3:=ms h6 Zs (fun y hy=>by obtain⟨z,_,rfl⟩:=Nu.1 hy;exact b9.map.2 z);obtain⟨q,hq⟩:∃q:Nat,x.block=(q:Int):=⟨x.block.toNat,by have:=u.out.2.1;omega⟩
             rw[hq] at r4;have HH:=u.out;rw[hq] at HH
             have r5:Hid (jw K w wr r n blocks w.heap.size q (.slice ra x.args.length rc) RES):=by
              refine⟨x.args.map v2,v2,m2.pay,vn2,b9,l3,?_,?_,?_,?_,HH.1⟩
              ·rw[Nr];exact HH.2.2.2
              ·have:=HH.2.2.1;rw[Ni] at this;exact this
              ·have h1:=e4.out.2.1;have h2:=r2.out.2.2;have h3:=a3.out;simp only[Mach.pay];omega
              ·exact bd_next r2.out.2.1 (by have:=a3.out;show(m2.fuel-1).toNat+1=m2.fuel.toNat;omega)
             clear h6 l3 b9 HH hq;go_wp2
             go_roundg n
             case measure=>omega
             case rel=>exact⟨q,ra,x.args.length,rc,rfl,rfl,r5⟩
theorem mi (K:MK)(hok:OkProg K.E.p):∀r,r<=100->pq K r
 |0,_=>iA K
 |r+1,h=>jC K hok r h (mi K hok r Zo)
open Go.RowKit Go.Lib
theorem Try.info_u8:(Try.prog.info? 5).map (fun i=>(i.zero,i.size,i.bytes))=some (some (.int .u8 0),1,1):=by kernel_rfl
theorem tQ {P:Program}(w:World)(dT sT ty c:TypeId)(g dLen k:Nat)(s:ByteArray)(cur:Array Value)(t:TypeId)
 (o:P.underlying dT=some (.slice c)) (hs:(P.info? c).map (·.size)=some 1) (hg:Q w g cur t) (q:dLen<=cur.size):
 (Builtin.copy_ #[dT,sT] ty #[.slice (some ⟨g,0,none⟩) dLen k,.string s]).run P w=
  .ok (goInt (Nat.min s.size dLen)) (w.setRow g (byteCells (s.data.toList.take (Nat.min s.size dLen))++cur.toList.drop (Nat.min s.size dLen)).toArray):=by
 obtain⟨n,j⟩:∃n,Nat.min s.size dLen=n:=⟨_,rfl⟩
 have u:n<=s.size:=by rw[<-j];exact Nat.min_le_left _ _
 have hnd:n<=dLen:=by rw[<-j];exact Nat.min_le_right _ _
 have h:(byteCells (s.data.toList.take n)).length=n:=by rw[byteCells_length,Oc,<-size_eq];omega
 have d:=run_storeCells_at P g 0 t (byteCells (s.data.toList.take n)) 0 cur w hg (by rw[h];omega) (byteCells_one _)
 have l:List.take n (List.map (fun b:UInt8=>Value.int IntKind.u8 (b.toNat:Int)) s.data.toList)=byteCells (s.data.toList.take n):=by
  rw[<-List.map_take];rfl
 rw[h] at d;simp only[Uk] at d;rw[j]
 cases m:P.info? c with
 |none=>simp[m] at hs
 |some i=>
  simp[Builtin.copy_,run_underlying o,Builtin.lenOf,Builtin.firstCells,sizeOf,typeInfo,m,j];rw[l,d];simp[Result.andThen]
theorem ram_init (s:ByteArray):byteCells (s.data.toList.take (Nat.min s.size 8192))++(List.replicate 8192 (Value.int .u8 0)).drop (Nat.min s.size 8192)=(v7 s).map wz:=by
 apply Oq;intro k;have j:s.data.toList.length=s.size:=(size_eq s).symm;have hl:(byteCells (s.data.toList.take (Nat.min s.size 8192))).length=Nat.min s.size 8192:=by rw[byteCells_length,Oc,j];exact Ud (Nat.min_le_left _ _)
 unfold v7;rw[List.map_map,Jr];obtain⟨n,c⟩:∃n,Nat.min s.size 8192=n:=⟨_,rfl⟩
 have t:n<=s.size:=by rw[<-c];exact Nat.min_le_left _ _
 have q:n<=8192:=by rw[<-c];exact Nat.min_le_right _ _
 have o:n=s.size∨n=8192:=by rcases Nat.le_total s.size 8192 with h|h;exact .inl (by rw[<-c];exact Ud h);exact .inr (by rw[<-c];exact Nat.min_eq_right h)
 rw[c] at hl ⊢
 by_cases m:k<n
 ·rw[Np Zo,Oh Zo];unfold byteCells;rw[Jr,Ug,if_pos m];have g:k<s.data.toList.length:=Zo;rw[Jd g];have i:k<s.data.size:=by simpa using g
  simp[wz,Array.getD_eq_getD_getElem?,Array.getElem?_eq_getElem i]
 ·rw[Nc Zo,hl,List.getElem?_drop,show n+(k-n)=k by omega,Nm]
  by_cases d:k<8192
  ·rw[if_pos d,Oh d];have l:¬k<s.data.size:=by have:s.data.size=s.size:=rfl;omega
   simp[wz,Array.getD_eq_getD_getElem?,Array.getElem?_eq_none (Nat.le_of_not_lt l)]
  ·rw[if_neg d,Of (by simpa using d)];rfl
def EvR (w:World)(B b q:Nat)(x:Nat×Nat):Prop:=U w b q (G (x.1:Int))/\U w b (q+1) (G (x.2:Int))/\x.1<65536/\x.2<65536
abbrev vM:=yN 2 EvR
def runVal (R:IRun)(ov:Value):Value:=.agg (yV R.value ov R.kind R.info (y9 R.ram) R.inputs R.polls)
def abr (w:World)(R:IRun)(e:Ending)(w':World):Prop:=∃ov,e=.returned (runVal R ov)/\vM w' w'.heap.size ov R.out/\O w w'
def sZ (V:PV)(p:IProg):Value:=.agg #[V.fv,V.av,I p.entry,I p.handler,V.dv,V.bv]
theorem iG (s:ByteArray):(v7 s).length=8192:=by simp[v7]
theorem bY (s:ByteArray):∀x∈v7 s,x<256:=by
 intro x c;unfold v7 at c;obtain⟨k,_,rfl⟩:=Nu.1 c;exact UInt8.toNat_lt _
theorem tM (w:World)(b k:Nat)(cs:Array Value)(h:k≠b):(w.setRow b cs).heap[k]? =w.heap[k]?:=by
 unfold World.setRow;simp only[Array.getElem?_modify];rw[if_neg (fun e=>h e.symm)]
theorem below_setRow{B:Nat}(h:Below B w w'){b:Nat}(hb:B<=b)(cs:Array Value):Below B w (w'.setRow b cs):=
 h.trans ⟨rfl,rfl,rfl,by unfold World.setRow;simp,fun k hk=>tM _ _ _ _ Zo⟩
theorem nZ{b:Nat}{cs c:Array Value}{t:TypeId}(h:Q w b cs t):Q (w.setRow b c) b c t:=setRow_heap w b cs c t (0,0) h
theorem ss{b b':Nat}{d:Array Value}{o:Obj}(h:w.heap[b']? =some o)(c:b'≠b):(w.setRow b d).heap[b']? =some o:=(tM _ _ _ _ c).trans h
theorem sf (W:World)(A B C:Obj):(((W.alloc A).alloc B).alloc C).drew.heap[W.heap.size]? =some A/\(((W.alloc A).alloc B).alloc C).drew.heap[W.heap.size+1]? =some B/\(((W.alloc A).alloc B).alloc C).drew.heap[W.heap.size+1+1]? =some C/\O W (((W.alloc A).alloc B).alloc C).drew:=
 ⟨zB (zB (zI rfl)),zB (zI Zs),zI Zs,((((Below.refl _ _).alloc (Je _) _).alloc Zs _).alloc (by simp<;>omega) _).drew⟩
theorem oG:∀ {l:List (Nat×Nat)} {k:Nat} {p:Nat×Nat},l[k]? =some p->(qO l)[k*2]? =some (vL p.1)/\(qO l)[k*2+1]? =some (vL p.2)
 | [],k,p,h=>by simp at h
 |a::l,0,p,h=>by simp at h;subst h;exact⟨rfl,rfl⟩
 |a::l,k+1,p,h=>by
  have:=oG (l:=l) (k:=k) (by simpa using h);rw[show(k+1)*2=k*2+1+1 by omega];exact this
theorem kP{S:Nat}{ov:Value}{l:List (Nat×Nat)}(h:w.ownsRow S 173 2 ov l.length (qO l))(i:∀p∈l,p.1<65536/\p.2<65536):vM w w.heap.size ov l:=by
 obtain⟨a,c,rfl⟩:=zG h;have hl:=zm h;refine⟨a,c,rfl,hl.1,by omega,fun k x hk=>?_⟩;have o:=(Jh.1 hk).1;obtain⟨g,q,e,hg,hb⟩:=h.form Zo;cases e;obtain⟨m,j⟩:=oG hk;have d:=i x (Ji hk);refine⟨g,0,rfl,hb,?_,?_,d.1,d.2⟩
 ·rw[Ng];exact(h.cellAt (k*2) Zo).trans m
 ·rw[Ng];exact(h.cellAt (k*2+1) Zo).trans j
theorem ku{w4 w5:World}{ov:Value}{b:Nat}{r0:Array Value}(c:MachAt w4 K m ov)(d:Q w4 b r0 134)(hb:w.heap.size<=b)(zb:O w w4)(hg:w4.grownBy w5 (some b)):vM w5 w5.heap.size ov m.out/\O w w5:=by
 have g:=zC c.out d (.inr Zd);exact⟨kP (c.out.kept hg (.inr g)) c.olt,zb.grown hg zb.size (fun k hk=>by simp at hk;omega)⟩
theorem mk_ram (W:World):(Instr.makeSlice 95 (I 8192) (I 8192)).run Try.prog W=.ok (N W.heap.size 8192 8192) (W.alloc (A (madeCells #[.int .u8 0] 8192) 5)):=
 run_make_row' (P:=Try.prog) 95 5 (.int .u8 0) 1 Try.underlying95 Try.info_u8 rfl .i64 .i64 8192 Zd Zd W
theorem eval_ok{V:PV}{p:IProg}(hp:ProgIn w w.heap.size V p)(b5:OkProg p)(hV:∀W,O w W->T 16 #[sZ V p] W fun e W'=>e=.returned (I 0)/\O W W')
 (f:Int) (hf:0<=f/\f.toNat<p.funcs.length) {args:List Nat} {av:Value} (ha:wV w w.heap.size av args) (hl:(args.length:Int)=p.args.getD f.toNat 0) (s:ByteArray) (hs:s.size<=9223372036854775807)
 {inv irqv:Value} {inn irq:List Nat} (c8:wV w w.heap.size inv inn) (c7:dL w w.heap.size irqv irq) (fuel:Int) (f0:I64 fuel) (f3:fuel.toNat<=4000000):
 T 82 #[sZ V p,I f,av,.string s,.agg #[inv,irqv],I fuel] w (abr w (bQ ⟨p,inn,irq⟩ f args s fuel)):=by
 obtain⟨Vf,Va,Vd,Vb⟩:=V;have h2:=hp.funcs;have c5:=hp.args;have h3:=hp.data;have h4:=hp.banks;obtain⟨f1,f2,e1,_,_⟩:=hp.funcs.form;obtain⟨a1,a2,e2,_,_⟩:=hp.args.form;obtain⟨d1,d2,e3,_,_⟩:=hp.data.form;obtain⟨b1,b2,e4,_,_⟩:=hp.banks.form;obtain⟨v1,v2,rfl,_,_⟩:=ha.form;obtain⟨i1,i2,rfl,_,_⟩:=c8.form;obtain⟨q1,q2,rfl,_,_⟩:=c7.form;simp only at e1 e2 e3 e4;subst e1 e2 e3 e4;obtain⟨k,rfl⟩:∃k:Nat,f=(k:Int):=⟨f.toNat,by omega⟩
 have k6:(k:Int)<p.funcs.length:=Zo;unfold sZ at hV ⊢;simp only at hV c5 ⊢;have k9:decide ((k:Int)<0)=false:=by rw[decide_eq_false_iff_not];omega
 have k7:decide (p.funcs.length<=k)=false:=by rw[decide_eq_false_iff_not];omega
 have h7:=mk_ram;obtain⟨Z,hZ⟩:∃Z,madeCells #[Value.int .u8 0] 8192=Z:=⟨_,rfl⟩
 rw[hZ] at h7;have HZ:=Ja hZ;clear hZ;have HP:=Ja hp;have HV:=Ja hV;have j1:=Ja b5;have HA:=Ja (Jb ha hl);have g3:=Ja (Jb c8 c7);have g4:=Ja (Jb f0 f3);obtain⟨aa,d0⟩:∃x,p.args[k]? =some x:=⟨_,Jd (by rw[b5.alen];omega)⟩
 have f7:(args.length:Int)=aa:=by rw[hl,Ni,Jj,d0];rfl
 have k3:((args.length:Int) !=aa)=false:=by rw[bne_eq_false_iff_eq];exact f7
 have j2:(k:Int)<p.args.length:=by rw[b5.alen];omega
 obtain⟨ba,oa,rfl,h8,f5,_⟩:=c5.get d0;rw[Nk] at f5;clear hp hV b5 ha hl c8 c7 f0 f3 h2 c5 h3 h4 hf d0 f7
 go_enter_defers Try.func82,Try.ntmps82
 go_upto_region 1 with fail;have f6:O w (((w.alloc (A #[.slice f1 p.funcs.length f2,.slice (some ⟨ba,oa,none⟩) p.args.length a2,I p.entry,I p.handler,.slice d1 p.data.length d2,.slice b1 p.banks.length b2] 44)).alloc (A #[.slice i1 inn.length i2,.slice q1 irq.length q2] 137)).alloc (A #[G 0,F,I 0,G 0,.string {data:=#[]},I 0,I 0] 134)):=(((Below.refl _ _).alloc (Je _) _).alloc Zs _).alloc (by simp<;>omega) _;have l:Q (((w.alloc (A #[.slice f1 p.funcs.length f2,.slice (some ⟨ba,oa,none⟩) p.args.length a2,I p.entry,I p.handler,.slice d1 p.data.length d2,.slice b1 p.banks.length b2] 44)).alloc (A #[.slice i1 inn.length i2,.slice q1 irq.length q2] 137)).alloc (A #[G 0,F,I 0,G 0,.string {data:=#[]},I 0,I 0] 134)) w.heap.size #[.slice f1 p.funcs.length f2,.slice (some ⟨ba,oa,none⟩) p.args.length a2,I p.entry,I p.handler,.slice d1 p.data.length d2,.slice b1 p.banks.length b2] 44:=zB (zB (zI rfl));have e6:Q (((w.alloc (A #[.slice f1 p.funcs.length f2,.slice (some ⟨ba,oa,none⟩) p.args.length a2,I p.entry,I p.handler,.slice d1 p.data.length d2,.slice b1 p.banks.length b2] 44)).alloc (A #[.slice i1 inn.length i2,.slice q1 irq.length q2] 137)).alloc (A #[G 0,F,I 0,G 0,.string {data:=#[]},I 0,I 0] 134)) (w.heap.size+1) #[.slice i1 inn.length i2,.slice q1 irq.length q2] 137:=zB (zI Zs);have e5:Q (((w.alloc (A #[.slice f1 p.funcs.length f2,.slice (some ⟨ba,oa,none⟩) p.args.length a2,I p.entry,I p.handler,.slice d1 p.data.length d2,.slice b1 p.banks.length b2] 44)).alloc (A #[.slice i1 inn.length i2,.slice q1 irq.length q2] 137)).alloc (A #[G 0,F,I 0,G 0,.string {data:=#[]},I 0,I 0] 134)) (w.heap.size+2) #[G 0,F,I 0,G 0,.string {data:=#[]},I 0,I 0] 134:=zI Zs;generalize i8:((w.alloc (A #[.slice f1 p.funcs.length f2,.slice (some ⟨ba,oa,none⟩) p.args.length a2,I p.entry,I p.handler,.slice d1 p.data.length d2,.slice b1 p.banks.length b2] 44)).alloc (A #[.slice i1 inn.length i2,.slice q1 irq.length q2] 137)).alloc (A #[G 0,F,I 0,G 0,.string {data:=#[]},I 0,I 0] 134)=W0 at *;have a4:=Ja f6;have u:=Ja (Jb l (Jb e6 e5));have p0:=K0 l;have p1:=K1 l;have p2:=K2 l;have p3:=K3 l;have p4:=K4 l;have p5:=K5 l;clear l e6 e5 f6 i8;go_upto_region 3 with(go_at_call 16;go_must (refine(HV.out _ a4.out).mono ?_;rintro e W1 ⟨rfl,m⟩;have q0:=(m.cell (p:=⟨w.heap.size,0,none⟩) (Jw W0 _ p0)).trans p0;have h0:=(m.cell (p:=⟨w.heap.size,1,none⟩) (Jw W0 _ p1)).trans p1;have cx:=zV (a4.out.trans (m.mono a4.out.size)) h8 f5))
 have y0:=zH m u.out.1 (lt_of_block u.out.1);have y1:=zH m u.out.2.1 (lt_of_block u.out.2.1);have y2:=zH m u.out.2.2 (lt_of_block u.out.2.2);have k5:=lt_of_block y2;have a3:=Ja (a4.out.trans (m.mono a4.out.size));have HY:=Ja y2
 have c9:∀w',O W1 w'->(U w' w.heap.size 0 (.slice f1 p.funcs.length f2)/\U w' w.heap.size 1 (.slice (some ⟨ba,oa,none⟩) p.args.length a2)/\U w' w.heap.size 2 (I p.entry)/\U w' w.heap.size 3 (I p.handler)/\U w' w.heap.size 4 (.slice d1 p.data.length d2)/\U w' w.heap.size 5 (.slice b1 p.banks.length b2)/\U w' (w.heap.size+1) 0 (.slice i1 inn.length i2)/\U w' (w.heap.size+1) 1 (.slice q1 irq.length q2)):=fun w' hb=>by
  have z0:=zH hb y0 Zo;have z1:=zH hb y1 Zo;exact⟨zA z0 Zs,zA z0 Zs,zA z0 Zs,zA z0 Zs,zA z0 Zs,zA z0 Zs,zA z1 Zs,zA z1 Zs⟩
 have g8:=Ja c9;clear q0 h0 p0 p1 p2 p3 p4 p5 a4 u m y0 y1 y2 c9 cx
 go_cut [13] from 41 to 47 (fun v wx=>∃rb pm b13:Nat,v=L b13/\Hid (Q wx b13 #[L pm] 146/\Q wx rb Z 5/\Q wx pm #[.slice f1 p.funcs.length f2,.slice (some ⟨ba,oa,none⟩) p.args.length a2,I p.entry,I p.handler,.slice d1 p.data.length d2,.slice b1 p.banks.length b2,N rb 8192 8192,.slice i1 inn.length i2,.slice q1 irq.length q2,I fuel,F,I 0,I 0] 148/\O W1 wx/\W1.heap.size<=rb/\W1.heap.size<=pm/\W1.heap.size<=b13))
 case first=>
  go_region_held3 (fun w'=>U w' w.heap.size 0 (.slice f1 p.funcs.length f2)/\U w' w.heap.size 1 (.slice (some ⟨ba,oa,none⟩) p.args.length a2)/\U w' w.heap.size 2 (I p.entry)/\U w' w.heap.size 3 (I p.handler)/\U w' w.heap.size 4 (.slice d1 p.data.length d2)/\U w' w.heap.size 5 (.slice b1 p.banks.length b2)/\U w' (w.heap.size+1) 0 (.slice i1 inn.length i2)/\U w' (w.heap.size+1) 1 (.slice q1 irq.length q2))
   ((refine g8.out _ ?_;repeat' (first|exact Below.refl _ _|refine Below.drew ?_|refine Below.alloc ?_ (by simp<;>omega) _|refine Below.setCell ?_ (by simp<;>omega) _)))
   (fail)
  all_goals go_wp2_with fail
  all_goals go_meet
  ·exact⟨W1.heap.size,W1.heap.size+1,W1.heap.size+1+1,rfl,(sf _ _ _ _).2.2.1,(sf _ _ _ _).1,(sf _ _ _ _).2.1,(sf _ _ _ _).2.2.2,by omega,by omega,by omega⟩
  ·exact⟨W1.heap.size,W1.heap.size+1+1,W1.heap.size+1,rfl,(sf _ _ _ _).2.1,(sf _ _ _ _).1,(sf _ _ _ _).2.2.1,(sf _ _ _ _).2.2.2,by omega,by omega,by omega⟩
  ·exact⟨W1.heap.size+1,W1.heap.size+1+1,W1.heap.size,rfl,(sf _ _ _ _).1,(sf _ _ _ _).2.1,(sf _ _ _ _).2.2.1,(sf _ _ _ _).2.2.2,by omega,by omega,by omega⟩
 case rest=>
  obtain⟨rb,pm,b13,rfl,i⟩:=hcut;have k1:=K0 i.out.1;have k2:=K6 i.out.2.2.1;have b9:Z.toList=List.replicate 8192 (Value.int .u8 0):=by rw[<-HZ.out];exact toList_madeCells_one _ _
  have d8:8192<=Z.size:=by have:=congrArg List.length b9;rw[Qr] at this;simp at this;omega
  have f4:=fun ty:TypeId=>tQ (P:=Try.prog) wc 95 9 ty 5 rb 8192 8192 s Z 5 Try.underlying95 Zk i.out.2.1 d8
  obtain⟨n,hn⟩:∃n,goInt (Nat.min s.size 8192)=n:=⟨_,rfl⟩
  have c3:(byteCells (s.data.toList.take (Nat.min s.size 8192))++Z.toList.drop (Nat.min s.size 8192)).toArray=((v7 s).map wz).toArray:=by
   rw[<-ram_init s,b9]
  rw[hn,c3] at f4;clear b9 d8 c3 hn;have b7:O W1 (wc.setRow rb ((v7 s).map wz).toArray):=below_setRow i.out.2.2.2.1 i.out.2.2.2.2.1 _;have e7:Q (wc.setRow rb ((v7 s).map wz).toArray) rb ((v7 s).map wz).toArray 5:=nZ i.out.2.1;have e8:(wc.setRow rb ((v7 s).map wz).toArray).heap[pm]? =_:=ss i.out.2.2.1 (by rintro rfl;have h1:=i.out.2.1;rw[i.out.2.2.1] at h1;simp at h1);have g0:(wc.setRow rb ((v7 s).map wz).toArray).heap[b13]? =_:=ss i.out.1 (by rintro rfl;have h1:=i.out.2.1;rw[i.out.1] at h1;simp at h1);go_upto_region 5 with fail;generalize i0:wc.setRow rb ((v7 s).map wz).toArray=W2 at *;have k4:∀(fn:Fn) (first cap:Array Value) (W:World),(Instr.makeFunc fn first cap).run Try.prog W=.ok (.func fn first cap) W:=fun _ _ _ _=>rfl
  obtain⟨K,hK⟩:∃K:MK,K=⟨⟨p,inn,irq⟩,⟨.slice f1 p.funcs.length f2,.slice (some ⟨ba,oa,none⟩) p.args.length a2,.slice d1 p.data.length d2,.slice b1 p.banks.length b2⟩,.slice i1 inn.length i2,.slice q1 irq.length q2,pm,rb,W1.heap.size⟩:=⟨_,rfl⟩
  have q:O w W2:=a3.out.trans (b7.mono a3.out.size)
  have f9:MachAt W2 K ⟨v7 s,fuel,[],0,0⟩ (F):=by
   subst hK;exact⟨e8,e7,iG s,bY s,Jv _ _ _ _,fun p hp=>by simp at hp,by have:=g4.out.2;show 0+fuel.toNat<=4000000;omega,g4.out.1,Jt _,Jt _,i.out.2.2.2.2.2.1,i.out.2.2.2.2.1,(HP.out.below q).mono a3.out.size,(g3.out.1.below zr q).mono zr a3.out.size,(g3.out.2.below xQ q).mono xQ a3.out.size⟩
  have e0:W2.heap[w.heap.size+2]? =_:=zH b7 HY.out (lt_of_block HY.out);have g1:=Ja f9;have j:=Ja (Jb g0 (Jb e0 (Jb b7 q)));clear i0 f9 e0 g0 e7 e8 b7 q f4 k1 k2 i;go_upto_region 6 with fail;have c0:=zI (W:=W2) (o:=A #[.func (.func 89) #[] #[L b13,L (w.heap.size+1+1)]] 149) rfl;have a0:=(Below.refl W2.heap.size W2).alloc (Je _) (A #[.func (.func 89) #[] #[L b13,L (w.heap.size+1+1)]] 149);have f8:=g1.out.keep a0;have a9:=zH a0 j.out.1 (lt_of_block j.out.1);have c1:=zH a0 j.out.2.1 (lt_of_block j.out.2.1);have a6:O w _:=j.out.2.2.2.trans (a0.mono j.out.2.2.2.size);have d3:O W1 _:=j.out.2.2.1.trans (a0.mono j.out.2.2.1.size);generalize h9:W2.alloc (A #[.func (.func 89) #[] #[L b13,L (w.heap.size+1+1)]] 149)=W3 at *;generalize W2.heap.size=b14 at *;have t:K.E=⟨p,inn,irq⟩/\K.pm=pm/\K.B=W1.heap.size:=by rw[hK];exact⟨rfl,rfl,rfl⟩
  have g:=mi K (by rw[t.1];exact j1.out) 100 (Je _) W3 _ _ (.slice v1 args.length v2) (k:Int) args f8 Zo (by rw[t.1];show(k:Int).toNat<p.funcs.length;omega) ((HA.out.1.below zr a6).mono zr a6.size) (by rw[t.1];exact HA.out.2);obtain⟨RES,b0⟩:∃R,xW K.E 100 (k:Int) args ⟨v7 s,fuel,[],0,0⟩=R:=⟨_,rfl⟩
  have c2:bQ ⟨p,inn,irq⟩ (k:Int) args s fuel=adO RES:=by rw[<-b0,t.1];rfl
  rw[b0,t.2.1] at g;have e1:(101:Int)-((100:Nat):Int)=1:=by decide
  rw[e1] at g;have l0:=K0 a9;have d5:=Ja c2;have g2:=Ja t;have H3:=Ja (Jb a9 (Jb c1 (Jb c0 (Jb a6 d3))));clear h9 f8 a9 c1 c0 a0 a6 d3 hK c2 b0 j g1 e1 t
  have b4:∀(w4:World) (ov4:Value) (m4:Mach),MachAt w4 K m4 ov4->Frm K.B W3 w4->
   Q w4 b13 #[L K.pm] 146/\Q w4 (w.heap.size+1+1) #[G 0,F,I 0,G 0,.string {data:=#[]},I 0,I 0] 134/\U w4 b14 0 (.func (.func 89) #[] #[L b13,L (w.heap.size+1+1)])/\O w w4:=fun w4 ov4 m4 d h=>by
   refine⟨by rw[g2.out.2.1];exact h.kept _ _ H3.out.1 (by simp[sA]),h.kept _ _ H3.out.2.1 (by simp[sA]),zA (h.kept _ _ H3.out.2.2.1 (by simp[sA])) Zs,H3.out.2.2.2.1.trans (h.below.mono ?_)⟩;rw[g2.out.2.2];exact a3.out.size
  have b8:=Ja b4;clear b4
  cases RES with
  |ok x m4=>
   have a8:T 91 #[L pm,I k,.slice v1 args.length v2,I 1] W3 fun e w'=>e=.returned (G x)/\(∃ov',MachAt w' K m4 ov')/\Frm K.B W3 w'/\x<65536:=g
   have d6:=Ja a8;clear g a8;go_upto_region 8 with(go_at_call 91;go_must (refine d6.out.mono ?_;rintro e w4 ⟨rfl,⟨ov4,d⟩,h,k0⟩))
   obtain⟨b3,y,d7,zb⟩:=b8.out w4 ov4 m4 d h;obtain⟨oa4,oc4,rfl⟩:=zG d.out
   have a5:T 89 #[.agg #[I 6,G 0],G x,L b13,L (w.heap.size+1+1)] w4 fun e w'=>
    e=.returned (.tuple #[])/\Q w' (w.heap.size+1+1) (yV x (.slice oa4 m4.out.length oc4) 6 0 (y9 m4.ram) m4.inputs m4.polls) 134/\w4.grownBy w' (some (w.heap.size+1+1)):=pE d b3 y 6 0 x
   have b6:w4.heap[b14]? =_:=h.kept _ _ H3.out.2.2.1 (by simp[sA]);have g6:=Ja a5;have d4:=Ja (Jb d (Jb y (Jb zb b6)));clear a5 b3 y zb d h b6;go_upto_region 9 with(go_at_call 89;go_must (refine g6.out.mono ?_;rintro e w5 ⟨rfl,c,h6⟩))
   have r0:U w5 (w.heap.size+1+1) 0 (G x):=zA c (by simp[yV]);have s0:Y w5 (w.heap.size+1+1) 0:=zE c;have r1:U w5 (w.heap.size+1+1) 1 (.slice oa4 m4.out.length oc4):=zA c (by simp[yV]);have s1:Y w5 (w.heap.size+1+1) 1:=zE c;have r2:U w5 (w.heap.size+1+1) 2 (I 6):=zA c (by simp[yV]);have s2:Y w5 (w.heap.size+1+1) 2:=zE c;have r3:U w5 (w.heap.size+1+1) 3 (G 0):=zA c (by simp[yV]);have s3:Y w5 (w.heap.size+1+1) 3:=zE c;have r4:U w5 (w.heap.size+1+1) 4 (.string (y9 m4.ram)):=zA c (by simp[yV]);have s4:Y w5 (w.heap.size+1+1) 4:=zE c;have r5:U w5 (w.heap.size+1+1) 5 (I (m4.inputs:Int)):=zA c (by simp[yV]);have s5:Y w5 (w.heap.size+1+1) 5:=zE c;have r6:U w5 (w.heap.size+1+1) 6 (I (m4.polls:Int)):=zA c (by simp[yV]);have s6:Y w5 (w.heap.size+1+1) 6:=zE c;have hE:=ku d4.out.1 d4.out.2.1 Zo d4.out.2.2.1 (zu (zu (zu (zu (zu (zu (zu h6 0 (G x)) 1 (.slice oa4 m4.out.length oc4)) 2 (I 6)) 3 (G 0)) 4 (.string (y9 m4.ram))) 5 (I (m4.inputs:Int))) 6 (I (m4.polls:Int)))
   have c4:abr w (bQ ⟨p,inn,irq⟩ (k:Int) args s fuel) (.returned (.agg #[G x,.slice oa4 m4.out.length oc4,I 6,G 0,.string (y9 m4.ram),I (m4.inputs:Int),I (m4.polls:Int)])) (((((((w5.setCell ⟨w.heap.size+1+1,0,none⟩ (G x)).setCell ⟨w.heap.size+1+1,1,none⟩ (.slice oa4 m4.out.length oc4)).setCell ⟨w.heap.size+1+1,2,none⟩ (I 6)).setCell ⟨w.heap.size+1+1,3,none⟩ (G 0)).setCell ⟨w.heap.size+1+1,4,none⟩ (.string (y9 m4.ram))).setCell ⟨w.heap.size+1+1,5,none⟩ (I (m4.inputs:Int))).setCell ⟨w.heap.size+1+1,6,none⟩ (I (m4.polls:Int))):=by
    rw[d5.out];exact⟨_,rfl,hE.1,hE.2⟩
   have g5:=Ja c4;clear c4 hE;go_wp2;refine leaves_cons (f:=90) (args:=#[L b14]) Zs (by simp[go_sem]) ?_;refine(rec_idle _ _).mono ?_;rintro e u' w6 ⟨rfl,rfl,rfl⟩;simp[Leaves,settle,results,Try.results82,go_sem,r0,r1,r2,r3,r4,r5,r6]
   exact g5.out
  |trap k2 i2 m4=>
   have a8:T 91 #[L pm,I k,.slice v1 args.length v2,I 1] W3 fun e w'=>e=.panicked [oE k2 i2]/\(∃ov',MachAt w' K m4 ov')/\Frm K.B W3 w'/\True:=g
   have d6:=Ja a8;clear g a8;go_wp2_with (go_at_call 91;go_must (refine d6.out.mono ?_;rintro e w4 ⟨rfl,⟨ov4,d⟩,h,_⟩))
   obtain⟨b3,y,d7,zb⟩:=b8.out w4 ov4 m4 d h;have hd:=pi d b3 y d7 k2 i2 [];obtain⟨oa4,oc4,rfl⟩:=zG d.out;refine leaves_cons (f:=90) (args:=#[L b14]) Zs (by simp[go_sem]) ?_;refine hd.mono ?_;rintro e u' w5 ⟨rfl,rfl,c,h6⟩;have hE:=ku d y Zo zb h6;have r0:U w5 (w.heap.size+1+1) 0 (G ((0:Nat):Int)):=zA c (by simp[yV]);have r1:U w5 (w.heap.size+1+1) 1 (.slice oa4 m4.out.length oc4):=zA c (by simp[yV]);have r2:U w5 (w.heap.size+1+1) 2 (I k2):=zA c (by simp[yV]);have r3:U w5 (w.heap.size+1+1) 3 (G i2):=zA c (by simp[yV]);have r4:U w5 (w.heap.size+1+1) 4 (.string (y9 m4.ram)):=zA c (by simp[yV]);have r5:U w5 (w.heap.size+1+1) 5 (I (m4.inputs:Int)):=zA c (by simp[yV]);have r6:U w5 (w.heap.size+1+1) 6 (I (m4.polls:Int)):=zA c (by simp[yV])
   have a5:abr w (bQ ⟨p,inn,irq⟩ (k:Int) args s fuel) (.returned (.agg #[G ((0:Nat):Int),.slice oa4 m4.out.length oc4,I k2,G i2,.string (y9 m4.ram),I (m4.inputs:Int),I (m4.polls:Int)])) w5:=by
    rw[d5.out];exact⟨_,rfl,hE.1,hE.2⟩
   simp[Leaves,settle,results,Try.results82,go_sem,r0,r1,r2,r3,r4,r5,r6];exact a5
theorem tu{B:Nat}{V:PV}{p:IProg}(hp:ProgIn w B V p)(hB:B<=w.heap.size)(hs:∀f∈p.funcs,vZ f):
 T 16 #[yH V p] w (m9 w (vC p)):=by
 have d:∀W,O w W->T 26 #[yH V p] W (m9 W (sR p)):=fun W hb=>kB ((hp.below (hb.mono hB)).mono (Jn hB hb.size))
 have k:∀W n,O w W->sR p=0->n<p.funcs.length->T 27 #[yH V p,I n] W (ym W (yi p n)):=fun W n hb h0 hn=>by
  obtain⟨_,h1,h2,_⟩:=se h0;exact nA (hp.below (hb.mono hB)) (Jn hB hb.size) h1 h2 hs hn
 obtain⟨Vf,Va,Vd,Vb⟩:=V;obtain⟨f1,f2,e1,_,_⟩:=hp.funcs.form;obtain⟨a1,a2,e2,_,_⟩:=hp.args.form;obtain⟨d1,d2,e3,_,_⟩:=hp.data.form;obtain⟨b1,b2,e4,_,_⟩:=hp.banks.form;simp only at e1 e2 e3 e4;subst e1 e2 e3 e4;have b5:p.funcs.length<=9223372036854775807:=Zo;unfold yH at d k ⊢;simp only at d k ⊢;have HH:=Ja d;have HF:=Ja k;have a9:O w (w.alloc (A (R p f1 f2 a1 a2 d1 d2 b1 b2) 44)):=(Below.refl _ _).alloc (Je _) _;have c:=zI (W:=w) (o:=A (R p f1 f2 a1 a2 d1 d2 b1 b2) 44) rfl;obtain⟨res,t⟩:∃x,vC p=x:=⟨_,rfl⟩
 rw[t];have u:=Ja t;obtain⟨eh,a4⟩:∃x,sR p=x:=⟨_,rfl⟩
 rw[a4] at HH;have m:=Ja a4;clear hp hB hs d k t a4;go_enter Try.func16,Try.ntmps16;go_upto_region 1 with fail;generalize b4:w.alloc (A (R p f1 f2 a1 a2 d1 d2 b1 b2) 44)=W0 at *;have y0:=K0 c;have y1:=K1 c;have y2:=K2 c;have y3:=K3 c;have y4:=K4 c;have y5:=K5 c;have H0:=Ja (show O w W0/\Q W0 w.heap.size (R p f1 f2 a1 a2 d1 d2 b1 b2) 44 from⟨a9,c⟩);clear a9 c b4;go_upto_region 2 with(first|(go_at_call 26;go_must (refine(HH.out _ H0.out.1).mono ?_;rintro e w1 ⟨rfl,a5⟩))|go_in)
 have j:=Ja (show O w w1/\Q w1 w.heap.size (R p f1 f2 a1 a2 d1 d2 b1 b2) 44 from⟨H0.out.1.trans (a5.mono H0.out.1.size),zH a5 H0.out.2 (lt_of_block H0.out.2)⟩);clear a5 y0 y1 y2 y3 y4 y5
 by_cases hz:eh=0
 ·subst hz;have y0:=K0 j.out.2;go_wp2
  go_loopw [13] (fun iv wx=>∃i:Nat,i<=p.funcs.length/\iv=I i/\Hid (O w1 wx/\∀n,n<i->yi p n=true)) (fun iv _=>p.funcs.length-(intOf iv).toNat)
  case atStart=>exact⟨0,Jt _,rfl,Ja ⟨Below.refl _ _,fun n hn=>by omega⟩⟩
  case round=>
   obtain⟨i,hi,rfl,l⟩:=hrel
   by_cases y:i<p.funcs.length
   ·have b0:(i:Int)<p.funcs.length:=Zo;have a3:=Ja y;have g:=zH l.out.1 j.out.2 (lt_of_block j.out.2);have z0:=K0 g;have z1:=K1 g;have z2:=K2 g;have z3:=K3 g;have z4:=K4 g;have z5:=K5 g;have a8:=Ja (HF.out wr i (j.out.1.trans (l.out.1.mono j.out.1.size)) m.out y);obtain⟨q,hq⟩:∃q,yi p i=q:=⟨_,rfl⟩
    rw[hq] at a8;have HQ:=Ja hq;clear hq g y y0
    cases q with
    |false=>
     go_wp2_with (first|(go_at_call 27;go_must (refine a8.out.mono ?_;rintro e w2 ⟨rfl,a0⟩))|go_in)
     go_ret
     have hr:res=51:=by
      rw[<-u.out];unfold vC;rw[if_neg (by rw[m.out];simp),if_neg];intro b3;have:=Oe.1 b3 i (Ol.2 a3.out);rw[HQ.out] at this;cases this
     exact⟨zh hr.symm,j.out.1.trans ((l.out.1.trans (a0.mono l.out.1.size)).mono j.out.1.size)⟩
    |true=>
     go_wp2_with (first|(go_at_call 27;go_must (refine a8.out.mono ?_;rintro e w2 ⟨rfl,a0⟩))|go_in)
     have a6:=Ja (show O w1 w2/\∀n,n<i+1->yi p n=true from⟨l.out.1.trans (a0.mono l.out.1.size),fun n hn=>by
      rcases Nat.lt_succ_iff_lt_or_eq.1 hn with h|rfl
      ·exact l.out.2 n h
      ·exact HQ.out⟩)
     clear a0;go_roundw
     case rel=>first|exact⟨i+1,a3.out,by go_num,a6⟩|((repeat apply Exists.intro);exact⟨⟨i+1,a3.out,by go_num,a6⟩,rfl⟩)
     case measure=>have:=a3.out;simp[intOf];omega
   ·obtain rfl:i=p.funcs.length:=by omega
    have b0:¬(p.funcs.length:Int)<p.funcs.length:=Zo
    have hr:=Ja (show res=0 by
     rw[<-u.out];unfold vC;rw[if_neg (by rw[m.out];simp),if_pos]
     exact Oe.2 fun n hn=>l.out.2 n (Ol.1 hn))
    clear y y0;go_wp2;go_ret;exact⟨zh hr.out.symm,j.out.1.trans (l.out.1.mono j.out.1.size)⟩
 ·have t1:(eh !=0)=true:=by rw[bne_iff_ne];exact hz
  have hr:=Ja (show res=eh by
   rw[<-u.out];unfold vC
   rw[if_pos (by rw[m.out];exact hz),m.out])
  clear hz;go_wp2;go_ret;exact⟨zh hr.out.symm,j.out.1⟩
theorem rf.trans{f h:List IBlk}(a:rf f g)(b:rf g h):rf f h:=fun i x hx=>by
 obtain⟨y,d,p1,o1,t1⟩:=a i x hx;obtain⟨z,c,p2,o2,t2⟩:=b i y d;refine⟨z,c,p2.trans p1,o1.trans o2,?_⟩;rcases t1 with t1|t1
 ·exact .inl t1
 ·rcases t2 with t2|t2
  ·left;rw[<-t1];exact t2
  ·exact .inr (t2.trans t1)
theorem acr{f:List IBlk}{g:IBlk->IBlk}(h:∀b,f[c]? =some b->(g b).params=b.params/\b.ops<+:(g b).ops/\(b.term.to=[]∨(g b).term=b.term)):rf f (wD f c g):=by
 unfold wD
 split
 ·rename_i x d
  obtain⟨k,j,i⟩:=h x d;exact g7 d k j i
 ·exact rf.refl f
theorem aaD (M:MS)(o:IOp):rf M.f (M.emit o).f:=acr fun b _=>⟨rfl,Qb _ _,.inr rfl⟩
theorem abB (M:MS)(n:Nat):rf M.f (M.num n).f:=aaD M _
theorem aaW (E:ME)(M:MS):rf M.f (zJ E M).2.f:=by
 unfold zJ
 split
 ·exact abB M.tick _
 split<;>exact rf.refl _
theorem fU (E:ME)(M:MS):rf M.f (yJ E M).2.f:=by
 unfold yJ
 split
 ·exact aaW E M.tick
 ·exact aaD M.tick.tick.tick _
theorem fW (E:ME)(M:MS):∀n,rf M.f (yI E n M).2.f
 |0=>rf.refl _
 |n+1=>(fW E M n).trans (aaW E _)
theorem call_ext (E:ME)(M:MS):rf M.f (vN E M).f:=by
 unfold vN
 split
 ·exact rf.refl _
 ·simp only
  split
  ·exact rf.refl _
  ·exact(fW E M.tick _).trans (aaD _ _)
theorem eX (E:ME)(M:MS):rf M.f (yR E M).f:=by
 have h:=(aaW E M).trans (aaW E (zJ E M).2);unfold yR;simp only
 split
 ·split
  ·exact h.trans (((abB _ _).trans (aaD _ _)).trans (aaD _ _))
  ·exact h.trans (aaD (M:=(zJ E (zJ E M).2).2.tick.tick) _)
 ·exact h.trans (aaD (M:=(zJ E (zJ E M).2).2.tick) _)
theorem op_ext (E:ME)(M:MS):rf M.f (xK E M).f:=by
 unfold xK;simp only
 split
 ·exact abB M.tick.tick _
 split
 ·exact(aaW E M.tick.tick).trans (aaD _ _)
 split
 ·exact(fU E M.tick).trans (aaD (M:=(yJ E M.tick).2.tick) _)
 split
 ·exact((fU E M.tick).trans (aaW E _)).trans (aaD (M:=(zJ E (yJ E M.tick).2).2.tick) _)
 split
 ·exact aaD M.tick.tick _
 split
 ·exact(aaW E M.tick).trans (aaD (M:=(zJ E M.tick).2.tick) _)
 split
 ·exact(abB M.tick.tick _).trans (aaD (M:=(M.tick.tick.num (tkV E M.tick 4096)).tick) _)
 split
 ·exact call_ext E M.tick
 split
 ·split
  ·exact aaD M.tick.tick _
  ·exact rf.refl _
 ·exact eX E M.tick
theorem eN (E:ME):∀(n:Nat) (M:MS),rf M.f (qY E n M).f
 |0,M=>rf.refl _
 |n+1,M=>(op_ext E M).trans (eN E n _)
theorem eO (E:ME)(M:MS):rf M.f (tR E M).f:=eN E _ M.tick
theorem run_vals (E:ME)(c:∀x∈E.args,0<=x/\x<4)(M:MS):M.vals<+:(tR E M).vals:=(oL E c M).pre
structure PartOut (M:MS) (O P:Nat->Prop) (pl:List Nat) (p:IProg) (M':MS) (pl':List Nat):Prop where
 pre:pl<+:pl'
 inv:aaz p M' (fun i=>(O i/\i≠M.cur)∨i=M'.cur) P pl'
 abv:Abv pl' M.cur M'.cur
 new:M'.cur=M.cur∨M.f.length<=M'.cur
 np:¬P M'.cur
 vals:M.vals<+:M'.vals
 ext:rf M.f M'.f
def so (p:IProg)(pt:MS->MS):Prop:=∀(M:MS) (O P:Nat->Prop) (pl:List Nat),aaz p M O P pl->O M.cur->¬P M.cur->(∀i,P i->O i)->∃pl',PartOut M O P pl p (pt M) pl'
theorem PartOut.trans{M1 M2:MS}{O:Nat->Prop}{pl g pl2:List Nat}{p:IProg}(h:PartOut M O P pl p M1 g)(k:PartOut M1 (fun i=>(O i/\i≠M.cur)∨i=M1.cur) P g p M2 pl2)(l:M.f.length<=M1.f.length)(j:∀i,O i->i<M.f.length):PartOut M O P pl p M2 pl2:=by
 refine⟨h.pre.trans k.pre,k.inv.weak (fun i=>?_) (fun i e=>e),(h.abv.ext k.pre).trans k.abv,?_,k.np,h.vals.trans k.vals,h.ext.trans k.ext⟩
 ·constructor
  ·rintro(⟨c|c,d⟩|c)
   ·exact .inl c
   ·exact absurd c d
   ·exact .inr c
  ·rintro(c|c)
   ·refine .inl ⟨.inl c,fun e=>?_⟩;rcases h.new with d|d
    ·exact c.2 (by rw[e,d])
    ·have:=j i c.1;omega
   ·exact .inr c
 ·rcases k.new with c|c
  ·rcases h.new with d|d
   ·left;rw[c,d]
   ·right;omega
  ·right;omega
theorem ja{f:List IBlk}(h:rf f g):f.length<=g.length:=by
 rcases Nat.lt_or_ge g.length f.length with c|d
 ·obtain⟨x,j⟩:∃x,f[g.length]? =some x:=⟨_,Jd c⟩
  obtain⟨b',i,_⟩:=h _ _ j;have:=(Jh.1 i).1;omega
 ·exact d
section
variable {p:IProg} {E:ME} (hp:EnvOk p E)
include hp
theorem fX:so p (tR E):=fun M O P pl h hO hn hPO=>by
 obtain⟨g,c⟩:=h.run E hp hO;refine⟨pl,Od,g.weak (fun i=>?_) (fun i e=>e),by rw[c];exact .refl _,.inl c,by rw[c];exact hn,run_vals E hp.alt M,eO E M⟩;rw[c];constructor
 ·intro hi
  by_cases e:i=M.cur
  ·exact .inr e
  ·exact .inl ⟨hi,e⟩
 ·rintro(d|rfl)
  ·exact d.1
  ·exact hO
end
theorem eQ{Q:Prop}{a n:Nat}:((Q∨(a<=i/\i<a+n))∨i=a+n)↔(Q∨(a<=i/\i<a+(n+1))):=by
 constructor
 ·rintro((h|h)|h)
  ·exact .inl h
  ·exact .inr Zo
  ·exact .inr Zo
 ·rintro(h|h)
  ·exact .inl (.inl h)
  ·by_cases e:i=a+n
   ·exact .inr e
   ·exact .inl (.inr Zo)
theorem gV {p:IProg}:∀(n:Nat) (M:MS) (O P:Nat->Prop) (pl:List Nat),aaz p M O P pl->
 aaz p (xE n M) (fun i=>O i∨(M.f.length<=i/\i<M.f.length+n)) (fun i=>P i∨(M.f.length<=i/\i<M.f.length+n)) (pl++List.replicate n M.cur)/\(xE n M).cur=M.cur/\(xE n M).vals=M.vals/\rf M.f (xE n M).f/\∀k,k<n->∃b,(xE n M).f[M.f.length+k]? =some b/\b.params.length=0
 |0,M,O,P,pl,h=>⟨by
  rw[List.replicate_zero,Ua]
  exact h.weak (fun i=>⟨.inl,fun e=>e.elim (fun e=>e) (fun e=>by omega)⟩) (fun i e=> .inl e),rfl,rfl,rf.refl _,fun k hk=>by omega⟩
 |n+1,M,O,P,pl,h=>by
  obtain⟨h1,h2,h3,h4,h5⟩:=gV n M O P pl h;have hl:=tB n M;have l:=h1.block (n:=0) (u:=M.cur) (by rw[hl];have:=h.curl;omega) Zd;rw[hl] at l;refine⟨?_,h2,h3,h4.trans (abj _ _),fun k hk=>?_⟩
  ·have e:pl++List.replicate (n+1) M.cur=(pl++List.replicate n M.cur)++ [M.cur]:=by rw[List.replicate_succ',Nv]
   rw[e];exact l.weak (fun i=>eQ) (fun i e=>eQ.1 e)
  ·by_cases d:k<n
   ·obtain⟨b,hb,g⟩:=h5 k d;obtain⟨b',j,c,_⟩:=abj (xE n M).f [wJ (xE n M).next 0] _ _ hb;exact⟨b',j,by rw[c];exact g⟩
   ·have e:k=n:=Zo;subst e;refine⟨wJ (xE k M).next 0,?_,by simp[wJ]⟩
    show((xE k M).f++ [_])[M.f.length+k]? =_
    rw[Nc Zo,hl,Qy];rfl
theorem xd{p:IProg}{O:Nat->Prop}{pl:List Nat}(h:aaz p M O P pl)(c:O M.cur)(t:ITerm):rf M.f (M.endB t).f:=acr fun b hb=>⟨rfl,Od,.inl (h.opn _ b hb c)⟩
theorem MInv.endB{p:IProg}{O:Nat->Prop}{pl:List Nat}(h:aaz p M O P pl)(j:O M.cur)(hk:gR t=true)(k:t.to.length<=4)(c:∀e∈t.to,gB M.f pl M.cur e)(hv:∀v∈mE t,∀b,M.f[M.cur]? =some b->Kn M.f pl v M.cur b.ops.length){P':Nat->Prop}(d:¬P M.cur)
 (g:∀i,P i->P' i∨∃e∈t.to,e.block=(i:Int)):aaz p (M.endB t) (fun i=>O i/\i≠M.cur) P' pl:=by
 obtain⟨b,hb⟩:=h.get
 show MInv p (wD M.f M.cur _) M.cur _ _ _ P' pl
 rw[xI hb];exact h.close hb j hk k c (fun v hv'=>hv v hv' b hb) d g
theorem fH{α:Type}{l m:List α}{x:α}(h:m[i]? =some x):(l++m)[l.length+i]? =some x:=by
 rw[Nc Zo,Nat.add_sub_cancel_left];exact h
theorem gH{n:Nat}{e:IEdge}(h:e∈xk tg n):∃k,k<n/\e=⟨((tg+k:Nat):Int),[]⟩:=by
 unfold xk at h;obtain⟨k,hk,rfl⟩:=Nu.1 h;exact⟨k,Ol.1 hk,rfl⟩
theorem gm (tg n:Nat):((xk tg n).map (·.args)).flatten=[]:=by
 rw[List.flatten_eq_nil_iff];intro l hl;obtain⟨e,c,rfl⟩:=Nu.1 hl;obtain⟨k,_,rfl⟩:=gH c;rfl
theorem fA{p:IProg}{E:ME}{d:MS->MS}(u:so p d){O:Nat->Prop}{n:Nat}{V:List Int}(a4:∀i,O i->i<tg)(a3:∀i,P i->O i)(a6:¬P c)(c0:c<tg):∀(m k:Nat) (M:MS) (pl:List Nat),k+m=n->
 aaz p M (fun i=>(O i/\i≠c)∨(tg+k<=i/\i<=tg+n)) (fun i=>P i∨(k=0/\i=tg+n)) pl->M.vals=V->(∀v∈V,∃q,Kn M.f pl v c q)->(∀i,tg<=i->i<=tg+n->pl[i]? =some c)->(∃b,M.f[tg+n]? =some b/\b.params.length=1)->
 ∃pl',pl<+:pl'/\aaz p (uV E d tg (tg+n) V.length m k M) (fun i=>(O i/\i≠c)∨(tg+n<=i/\i<=tg+n)) (fun i=>P i∨(n=0/\i=tg+n)) pl'/\rf M.f (uV E d tg (tg+n) V.length m k M).f/\(uV E d tg (tg+n) V.length m k M).vals=V
 |0,k,M,pl,hk,h,hv,hV,hpl,hj=>by
  obtain rfl:k=n:=by omega
  exact⟨pl,Od,h,rf.refl _,hv⟩
 |m+1,k,M,pl,hk,h,hv,hV,hpl,hj=>by
  have c9:k<n:=Zo;have d0:tg+n<M.f.length:=by obtain⟨b,hb,_⟩:=hj;exact(Jh.1 hb).1
  have b7:pl[tg+k]? =some c:=hpl _ Zo Zo;have a5:Abv pl c (tg+k):=.up b7 Zo (.refl _)
  have h0:aaz p {M with cur:=tg+k } (fun i=>(O i/\i≠c)∨(tg+k<=i/\i<=tg+n)) (fun i=>P i∨(k=0/\i=tg+n)) pl:=h.goto (show tg+k<M.f.length by omega) (fun v hv' b hb=>by
   rw[hv] at hv';obtain⟨q,w⟩:=hV v hv'
   exact h.below w a5 (show c≠tg+k by omega))
  obtain⟨pl1,w⟩:=u _ _ _ pl h0 (.inr ⟨Je _,by show tg+k<=tg+n;omega⟩) (fun e=>by
   rcases e with e|⟨_,e⟩
   ·have e2:tg+k<tg:=a4 _ (a3 _ e);omega
   ·have e2:tg+k=tg+n:=e
    omega) (fun i e=>by
     rcases e with e|⟨_,e⟩
     ·exact .inl ⟨a3 i e,fun e2=>a6 (by rw[<-e2];exact e)⟩
     ·exact .inr Zo)
  have c8:({M with cur:=tg+k }:MS).cur=tg+k:=rfl;have c7:({M with cur:=tg+k }:MS).f=M.f:=rfl;obtain⟨q1,q2,q3,q4,q5,q6,q7⟩:=w;rw[c8] at q2 q3 q4;rw[c7] at q4 q7;have b6:V<+:(d {M with cur:=tg+k }).vals:=by have e:({M with cur:=tg+k }:MS).vals=V:=hv;rw[<-e];exact q6
  rw[rg];generalize hM:d {M with cur:=tg+k }=M1 at *;have r0:aaz p M1.tick _ _ pl1:=q2;obtain⟨r1,r2⟩:=r0.any E (.inr rfl);have g1:=yU E M1.tick;have gc:(zJ E M1.tick).2.cur=M1.cur:=g1.cur;have ge:=q7.trans (aaW E M1.tick);have gv:V<+:(zJ E M1.tick).2.vals:=b6.trans g1.pre;have d1:(zJ E M1.tick).2.f.length=M1.f.length:=g1.len;have d3:=ja q7
  have x:∀(t:ITerm),gR t=true->t.to.length<=4->(∀e∈t.to,gB (zJ E M1.tick).2.f pl1 M1.cur e)->mE t=[(zJ E M1.tick).1]->(∀i,(P i∨(k=0/\i=tg+n))->(P i∨(k+1=0/\i=tg+n))∨∃e∈t.to,e.block=(i:Int))->
   aaz p ((zJ E M1.tick).2.endB t) (fun i=>(O i/\i≠c)∨(tg+(k+1)<=i/\i<=tg+n)) (fun i=>P i∨(k+1=0/\i=tg+n)) pl1/\rf M.f ((zJ E M1.tick).2.endB t).f:=fun t t1 t2 t3 t4 t5=>by
   have a8:(fun i=>(((O i/\i≠c)∨(tg+k<=i/\i<=tg+n))/\i≠tg+k)∨i=M1.cur) (zJ E M1.tick).2.cur:=.inr gc
   have:=r1.endB (P':=fun i=>P i∨(k+1=0/\i=tg+n)) a8 t1 t2 (by rw[gc];exact t3) (fun v hv'=>by
    rw[t4,Jo] at hv';subst hv'
    exact r1.at r2) (by rw[gc];exact q5) t5
   refine⟨this.weak (fun i=>?_) (fun i e=>e),ge.trans (xd r1 a8 t)⟩;rw[gc];constructor
   ·rintro⟨(⟨e1|e1,e2⟩|e1),e3⟩
    ·exact .inl e1
    ·exact .inr Zo
    ·exact absurd e1 e3
   ·rintro(e1|e1)
    ·have hi:=a4 i e1.1;refine⟨.inl ⟨.inl e1,by omega⟩,fun e=>?_⟩;rcases q4 with q4|q4<;>omega
    ·refine⟨.inl ⟨.inr Zo,by omega⟩,fun e=>?_⟩;rcases q4 with q4|q4<;>omega
  have b0:aaz p (wM E (tg+n) k M1) (fun i=>(O i/\i≠c)∨(tg+(k+1)<=i/\i<=tg+n)) (fun i=>P i∨(k+1=0/\i=tg+n)) pl1/\rf M.f (wM E (tg+n) k M1).f/\V<+:(wM E (tg+n) k M1).vals:=by
   unfold wM
   split
   ·rename_i d2
    obtain⟨a1,a2⟩:=x ⟨4,(zJ E M1.tick).1,[]⟩ rfl (by show 0<=4;decide) (fun e he=>by cases he) (by
     have b9:(zJ E M1.tick).1≠-1:=fun e=>by
      have h1:=r1.at r2;obtain⟨b,hb⟩:=r1.get;obtain⟨i,a,⟨b2,c5,hd⟩,_⟩:=h1 b hb;rcases hd with⟨_,hd⟩|⟨j,o,_,_,_,h0⟩
      ·have:=(r1.rng _ (Qx.2 ⟨b2,Ji c5,Jz _ hd⟩)).1;omega
      ·omega
     unfold mE ut
     simp[b9]) (fun i e=>by
     rcases e with e|⟨e,_⟩
     ·exact .inl (.inl e)
     ·omega)
    exact⟨a1,a2,gv⟩
   ·obtain⟨bj,a0,y⟩:=hj;obtain⟨bj',l,g,_⟩:=ge _ _ a0;have b8:pl1[tg+n]? =some c:=aaS q1 (hpl _ Zo Zo)
    obtain⟨a1,a2⟩:=x ⟨1,0,[⟨((tg+n:Nat):Int),[(zJ E M1.tick).1]⟩]⟩ rfl (by show 1<=4;decide) (fun e he=>by
     rw[Jo] at he;subst he
     exact⟨tg+n,c,bj',rfl,by omega,l,by rw[g,y];rfl,b8,(a5.ext q1).trans q3⟩) rfl (fun i e=>by
     rcases e with e|⟨_,e⟩
     ·exact .inl (.inl e)
     ·exact .inr ⟨_,Jo.2 rfl,by subst e;rfl⟩)
    exact⟨a1,a2,gv⟩
  obtain⟨b1,b2,b3⟩:=b0;generalize wM E (tg+n) k M1=M3 at *;have b4:M3.vals.take V.length=V:=uF b3;have b5:aaz p {M3 with vals:=M3.vals.take V.length } (fun i=>(O i/\i≠c)∨(tg+(k+1)<=i/\i<=tg+n)) (fun i=>P i∨(k+1=0/\i=tg+n)) pl1:=b1.goto b1.curl (fun v hv' b hb=>b1.known v (List.mem_of_mem_take hv') b hb);obtain⟨bj,a0,y⟩:=hj;obtain⟨bj',l,g,_⟩:=b2 _ _ a0
  obtain⟨a9,c1,c2,c3,c4⟩:=fA u a4 a3 a6 c0 m (k+1) {M3 with vals:=M3.vals.take V.length } pl1 Zo b5 b4 (fun v hv'=>by
   obtain⟨q,w⟩:=hV v hv'
   exact⟨q,w.ext b2 q1 (Og _)⟩) (fun i h1 h2=>aaS q1 (hpl i h1 h2)) ⟨bj',l,by rw[g];exact y⟩
  exact⟨a9,q1.trans c1,c2,b2.trans c3,c4⟩
theorem abK (M:MS)(n:Nat):(M.block n).f[M.f.length]? =some (wJ M.next n):=by
 show(M.f++ [_])[M.f.length]? =_
 rw[Nc (Je _),Qy];rfl
theorem abg (M:MS)(n:Nat):rf M.f (M.block n).f:=abj _ _
theorem gL{v:Int}(h:v∈mE t):v=t.a∨v∈(t.to.map (·.args)).flatten:=by
 unfold mE at h;rcases Jl.1 h with h|h
 ·split at h
  ·exact .inl (Jo.1 h)
  ·cases h
 ·exact .inr h
theorem gI {p:IProg}{E:ME}{g:MS->MS}(a4:so p g){n:Nat}(hn:2<=n/\n<=4):so p (xi E g n):=fun M O P pl h hO hnP hPO=>by
 obtain⟨a1,a2⟩:=h.any E hO;have ag:=yU E M;have ax:=aaW E M;have ac:(zJ E M).2.cur=M.cur:=ag.cur;have al:(zJ E M).2.f.length=M.f.length:=ag.len;have av:=ag.pre;unfold xi;simp only;generalize c4:zJ E M=c at *;obtain⟨x,M0⟩:=c;simp only at a1 a2 ac al av ax ⊢;obtain⟨b1,b2,b3,b4,b5⟩:=gV n M0 O P pl a1;have bl:=tB n M0;have b7:M0.cur<M0.f.length:=a1.curl;have c1:aaz p ((xE n M0).block 1) _ _ _:=b1.block (n:=1) (u:=M0.cur) (by rw[bl];omega) Zd;have a8:(pl++List.replicate n M0.cur)++ [M0.cur]=pl++List.replicate (n+1) M0.cur:=by rw[List.replicate_succ',Nv]
 rw[a8] at c1;have c3:pl.length=M0.f.length:=a1.len
 have j:∀i,M0.f.length<=i->i<=M0.f.length+n->(pl++List.replicate (n+1) M0.cur)[i]? =some M0.cur:=fun i h1 h2=>by
  rw[Nc Zo,Nm,if_pos Zo]
 have a5:((xE n M0).block 1).f[M0.f.length+n]? =some (wJ (xE n M0).next 1):=by rw[<-bl];exact abK _ 1
 have cx:rf M0.f ((xE n M0).block 1).f:=b4.trans (abg _ 1);have cc:((xE n M0).block 1).cur=M0.cur:=b2;have cv:((xE n M0).block 1).vals=M0.vals:=b3
 have b6:∀k,k<n->∃b,((xE n M0).block 1).f[M0.f.length+k]? =some b/\b.params.length=0:=fun k hk=>by
  obtain⟨b,hb,y⟩:=b5 k hk;obtain⟨b',c2,b9,_⟩:=abg (xE n M0) 1 _ _ hb;exact⟨b',c2,by rw[b9];exact y⟩
 have a3:(fun i=>(O i∨(M0.f.length<=i/\i<M0.f.length+n))∨i=(xE n M0).f.length) ((xE n M0).block 1).cur:=.inl (.inl (by rw[cc,ac];exact hO));have a6:¬P M0.cur:=by rw[ac];exact hnP
 generalize (xE n M0).block 1=M2 at *
 have e1:=c1.endB (t:=⟨if 2<n then 3 else 2,x,xk M0.f.length n⟩) a3 (by
  have hl:(xk M0.f.length n).length=n:=by unfold xk;simp
  unfold gR;simp only[hl]
  by_cases h2:2<n
  ·rw[if_pos h2];simp;omega
  ·rw[if_neg h2];simp;omega) (by unfold xk;simp;omega) (fun e he=>by
  obtain⟨k,hk,rfl⟩:=gH he;obtain⟨b,hb,y⟩:=b6 k hk
  exact⟨M0.f.length+k,M0.cur,b,rfl,by omega,hb,by rw[y];rfl,j _ Zo Zo,by rw[cc];exact .refl _⟩) (fun v hv=>by
  have:v∈M2.vals:=by
   rcases gL hv with rfl|hv
   ·rw[cv];exact a2
   ·simp only[gm] at hv;cases hv
  exact c1.at this) (P':=fun i=>P i∨(0=0/\i=M0.f.length+n)) (by
  rw[cc];rintro((e|e)|e)
  ·exact a6 e
  ·omega
  ·rw[bl] at e;omega) (fun i e=>by
  rcases e with(e|e)|e
  ·exact .inl (.inl e)
  ·refine .inr ⟨⟨((M0.f.length+(i-M0.f.length):Nat):Int),[]⟩,?_,by show((M0.f.length+(i-M0.f.length):Nat):Int)=_;omega⟩;unfold xk;exact Nu.2 ⟨i-M0.f.length,Ol.2 Zo,rfl⟩
  ·exact .inl (.inr ⟨rfl,by rw[e,bl]⟩))
 have ex:=cx.trans (xd c1 a3 ⟨if 2<n then 3 else 2,x,xk M0.f.length n⟩);have ev:(M2.endB ⟨if 2<n then 3 else 2,x,xk M0.f.length n⟩).vals=M0.vals:=cv;have ec:(M2.endB ⟨if 2<n then 3 else 2,x,xk M0.f.length n⟩).cur=M0.cur:=cc;obtain⟨bj',w,o,_⟩:=(xd c1 a3 ⟨if 2<n then 3 else 2,x,xk M0.f.length n⟩) _ _ a5;rw[ev];generalize M2.endB ⟨if 2<n then 3 else 2,x,xk M0.f.length n⟩=M3 at *
 have e2:aaz p M3 (fun i=>(O i/\i≠M0.cur)∨(M0.f.length+0<=i/\i<=M0.f.length+n)) (fun i=>P i∨(0=0/\i=M0.f.length+n)) (pl++List.replicate (n+1) M0.cur):=e1.weak (fun i=>by
  rw[cc,bl];constructor
  ·rintro⟨(e|e)|e,e2⟩
   ·exact .inl ⟨e,e2⟩
   ·exact .inr Zo
   ·exact .inr Zo
  ·rintro(e|e)
   ·exact⟨.inl (.inl e.1),e.2⟩
   ·by_cases e3:i=M0.f.length+n
    ·exact⟨.inr e3,by omega⟩
    ·exact⟨.inl (.inr Zo),by omega⟩) (fun i e=>e)
 have d:∀v∈M0.vals,∃q,Kn M3.f (pl++List.replicate (n+1) M0.cur) v M0.cur q:=fun v hv=>by
  obtain⟨b,hb⟩:=a1.get;exact⟨_,(a1.known v hv b hb).ext ex (Qb _ _) (Og _)⟩
 obtain⟨pl',d1,d2,d3,d4⟩:=fA (E:=E) (n:=n) (V:=M0.vals) a4 (fun i hi=>by rw[al];exact h.lt i hi) hPO a6 b7 n 0 M3 _ Zo e2 ev d j ⟨bj',w,by rw[o];simp[wJ]⟩;generalize uV E g M0.f.length (M0.f.length+n) M0.vals.length n 0 M3=M4 at *;obtain⟨bk,l,b0,_⟩:=d3 _ _ w;have m:bk.params=[((xE n M0).next:Int)]:=by rw[b0,o];simp[wJ]
 have a9:((M4.f.getD (M0.f.length+n) ⟨[],[],⟨0,0,[]⟩⟩).params).getD 0 0=((xE n M0).next:Int):=by
  have e:M4.f.getD (M0.f.length+n) ⟨[],[],⟨0,0,[]⟩⟩=bk:=by rw[Jj,l];rfl
  rw[e,m];rfl
 rw[a9];have b8:pl'[M0.f.length+n]? =some M0.cur:=aaS d1 (j _ Zo Zo);have a0:Abv pl' M0.cur (M0.f.length+n):=.up b8 Zo (.refl _);have c0:M0.f.length+n<M4.f.length:=(Jh.1 l).1;refine⟨pl',(Qb _ _).trans d1,?_,by rw[<-ac];exact a0,.inr (by show M.f.length<=M0.f.length+n;omega),fun e=>?_,?_,ax.trans (ex.trans d3)⟩
 ·have f1:MInv p M4.f (M0.f.length+n) M4.next (M4.vals++ [((xE n M0).next:Int)]) _ _ pl':=d2.goto c0 (fun v hv b hb=>by
   rcases Jl.1 hv with hv|hv
   ·rw[d4] at hv;obtain⟨q,hq⟩:=d v hv;exact d2.below (hq.ext d3 d1 (Og _)) a0 Zo
   ·rw[Jo] at hv;subst hv;rw[l] at hb;cases hb
    exact⟨M0.f.length+n,-1,⟨bk,l,.inl ⟨rfl,by rw[m];simp⟩⟩,.refl _,fun _=>by omega⟩)
  refine f1.weak (fun i=>?_) (fun i e=>?_)
  ·rw[<-ac];constructor
   ·rintro(e|e)
    ·exact .inl e
    ·exact .inr (show i=M0.f.length+n by omega)
   ·rintro(e|e)
    ·exact .inl e
    ·have e':i=M0.f.length+n:=e;exact .inr Zo
  ·rcases e with e|⟨e,_⟩
   ·exact e
   ·omega
 ·have e':P (M0.f.length+n):=e;have:=h.lt _ (hPO _ e');omega
 ·show M.vals<+:M4.vals++_
  rw[d4];exact av.trans (Qb _ _)
theorem gQ (a:Int)(b:Int)(l:List Int):mE ⟨1,a,[⟨b,l⟩]⟩=l:=by unfold mE ut;simp
theorem ee {p:IProg}{E:ME}{a5:MS->MS}(c4:so p a5):so p (tH E a5):=fun M O P pl h hO hnP hPO=>by
 have d3:=h.lt;obtain⟨n1,n2⟩:=MInv.num (M:=M.tick) h hO (tkV E M 5);have ng:=wT M.tick (tkV E M 5);have d2:O (M.tick.num (tkV E M 5)).cur:=by rw[ng.cur];exact hO
 obtain⟨a1,a2⟩:=n1.any E d2;have ag:=yU E (M.tick.num (tkV E M 5));have ax:rf M.f (zJ E (M.tick.num (tkV E M 5))).2.f:=(abB M.tick _).trans (aaW E _);have ac:(zJ E (M.tick.num (tkV E M 5))).2.cur=M.cur:=ag.cur.trans ng.cur;have al:(zJ E (M.tick.num (tkV E M 5))).2.f.length=M.f.length:=ag.len.trans ng.len;have av:M.vals<+:(zJ E (M.tick.num (tkV E M 5))).2.vals:=ng.pre.trans ag.pre;have an:(M.next:Int)∈(zJ E (M.tick.num (tkV E M 5))).2.vals:=ag.pre.subset n2;unfold tH;simp only;generalize zJ E (M.tick.num (tkV E M 5))=x at *;obtain⟨xv,M0⟩:=x;simp only at a1 a2 ac al av ax an ⊢;clear n1 n2 ng d2 ag;have f7:M0.cur<M0.f.length:=a1.curl;have b1:aaz p (M0.block 2) _ _ _:=a1.block (n:=2) (u:=M0.cur) a1.curl Zd;have l1:(M0.block 2).f.length=M0.f.length+1:=yz M0 2;have b2:aaz p ((M0.block 2).block 0) _ _ _:=b1.block (n:=0) (u:=M0.f.length) (by rw[l1];omega) Zd;have l2:((M0.block 2).block 0).f.length=M0.f.length+2:=by rw[yz,l1]
 have b3:aaz p (((M0.block 2).block 0).block 0) _ _ _:=b2.block (n:=0) (u:=M0.f.length) (by rw[l2];omega) Zd;have l3:(((M0.block 2).block 0).block 0).f.length=M0.f.length+3:=by rw[yz,l2]
 rw[l1,l2] at b3
 have g0:(((M0.block 2).block 0).block 0).f[M0.f.length]? =some (wJ M0.next 2):=by
  have d:=abK M0 2;obtain⟨y,hy,_⟩:=abg (M0.block 2) 0 _ _ d
  show(((M0.block 2).f++ [_])++ [_])[M0.f.length]? =_
  rw[Np (by simp[l1];omega),Np (by rw[l1];omega)];exact d
 have g1:(((M0.block 2).block 0).block 0).f[M0.f.length+1]? =some (wJ (M0.block 2).next 0):=by
  have d:=abK (M0.block 2) 0;rw[l1] at d
  show(((M0.block 2).block 0).f++ [_])[M0.f.length+1]? =_
  rw[Np (by rw[l2];omega)];exact d
 have g2:(((M0.block 2).block 0).block 0).f[M0.f.length+2]? =some (wJ ((M0.block 2).block 0).next 0):=by
  have d:=abK ((M0.block 2).block 0) 0;rw[l2] at d;exact d
 have bx:rf M0.f (((M0.block 2).block 0).block 0).f:=((abg _ _).trans (abg _ _)).trans (abg _ _);have bc:(((M0.block 2).block 0).block 0).cur=M0.cur:=rfl;have bv:(((M0.block 2).block 0).block 0).vals=M0.vals:=rfl;have o:pl.length=M0.f.length:=a1.len;have d8:((pl++ [M0.cur])++ [M0.f.length])++ [M0.f.length]=pl++ [M0.cur,M0.f.length,M0.f.length]:=by simp
 rw[d8] at b3;have q0:(pl++ [M0.cur,M0.f.length,M0.f.length])[M0.f.length]? =some M0.cur:=by rw[<-o];exact fH (i:=0) rfl
 have q1:(pl++ [M0.cur,M0.f.length,M0.f.length])[M0.f.length+1]? =some M0.f.length:=by
  have:=fH (l:=pl) (m:=[M0.cur,M0.f.length,M0.f.length]) (i:=1) rfl;rw[o] at this;exact this
 have q2:(pl++ [M0.cur,M0.f.length,M0.f.length])[M0.f.length+2]? =some M0.f.length:=by
  have:=fH (l:=pl) (m:=[M0.cur,M0.f.length,M0.f.length]) (i:=2) rfl;rw[o] at this;exact this
 have a4:(fun i=>((O i∨i=M0.f.length)∨i=M0.f.length+1)∨i=M0.f.length+2) (((M0.block 2).block 0).block 0).cur:=.inl (.inl (.inl (by rw[bc,ac];exact hO)));have d1:¬P M0.cur:=by rw[ac];exact hnP
 have a8:∀i,P i->i<M0.f.length:=fun i hi=>by rw[al];exact d3 i (hPO i hi)
 have e0:∀i,O i->i<M0.f.length:=fun i hi=>by rw[al];exact d3 i hi
 generalize ((M0.block 2).block 0).block 0=MB at *;generalize M0.f.length=hd at *;have a0:pl<+:pl++ [M0.cur,hd,hd]:=Qb _ _;generalize (pl++ [M0.cur,hd,hd])=pl0 at *
 have e1:=b3.endB (t:=⟨1,0,[⟨(hd:Nat),[(M.next:Int),xv]⟩]⟩) a4 rfl (by show 1<=4;decide) (fun e g=>by
  rw[Jo] at g;subst g
  exact⟨hd,M0.cur,_,rfl,by omega,g0,by simp[wJ],q0,by rw[bc];exact .refl _⟩) (fun v hv=>by
  rw[gQ] at hv;refine b3.at ?_;rw[bv];rcases Jq.1 hv with rfl|hv
  ·exact an
  ·rw[Jo] at hv;subst hv;exact a2) (P':=fun i=>P i∨(i=hd+1∨i=hd+2)) (by
  rw[bc];rintro(((e|e)|e)|e)
  ·exact d1 e
  ·omega
  ·omega
  ·omega) (fun i e=>by
  rcases e with((e|e)|e)|e
  ·exact .inl (.inl e)
  ·exact .inr ⟨_,Jo.2 rfl,by subst e;rfl⟩
  ·exact .inl (.inr (.inl e))
  ·exact .inl (.inr (.inr e)))
 have d5:=bx.trans (xd b3 a4 ⟨1,0,[⟨(hd:Nat),[(M.next:Int),xv]⟩]⟩);obtain⟨y0,b6,b5,_⟩:=xd b3 a4 ⟨1,0,[⟨(hd:Nat),[(M.next:Int),xv]⟩]⟩ _ _ g0;obtain⟨y1,c7,b4,_⟩:=xd b3 a4 ⟨1,0,[⟨(hd:Nat),[(M.next:Int),xv]⟩]⟩ _ _ g1;obtain⟨y2,c5,b0,_⟩:=xd b3 a4 ⟨1,0,[⟨(hd:Nat),[(M.next:Int),xv]⟩]⟩ _ _ g2;have d6:(MB.endB ⟨1,0,[⟨(hd:Nat),[(M.next:Int),xv]⟩]⟩).vals=M0.vals:=bv;generalize MB.endB ⟨1,0,[⟨(hd:Nat),[(M.next:Int),xv]⟩]⟩=M2 at *;rw[bc] at e1;have b7:y0.params=[(M0.next:Int),((M0.next+1:Nat):Int)]:=by rw[b5];simp[wJ,List.range_succ]
 have f3:y1.params.length=0:=by rw[b4];simp[wJ]
 have f0:y2.params.length=0:=by rw[b0];simp[wJ]
 clear b5 b4 b0 g0 g1 g2;have l0:hd<M2.f.length:=(Jh.1 b6).1;have f9:hd+1<M2.f.length:=(Jh.1 c7).1;have f8:hd+2<M2.f.length:=(Jh.1 c5).1;have w:Abv pl0 M0.cur hd:=.up q0 Zo (.refl _)
 have a3:∀v∈M0.vals,∃q,Kn M2.f pl0 v M0.cur q:=fun v hv=>by
  obtain⟨b,hb⟩:=a1.get;exact⟨_,(a1.known v hv b hb).ext d5 a0 (Og _)⟩
 have c3:aaz p M2 (fun i=>(O i/\i≠M0.cur)∨(hd<=i/\i<=hd+2)) (fun i=>P i∨(i=hd+1∨i=hd+2)) pl0:=e1.weak (fun i=>by
  constructor
  ·rintro⟨((e|e)|e)|e,e2⟩
   ·exact .inl ⟨e,e2⟩
   ·exact .inr Zo
   ·exact .inr Zo
   ·exact .inr Zo
  ·rintro(e|e)
   ·exact⟨.inl (.inl (.inl e.1)),e.2⟩
   ·refine⟨?_,by omega⟩
    by_cases e1:i=hd
    ·exact .inl (.inl (.inr e1))
    by_cases e2:i=hd+1
    ·exact .inl (.inr e2)
    ·exact .inr Zo) (fun i e=>e)
 have a9:∀ {f:List IBlk} {q:List Nat},rf M2.f f->∀v∈y0.params,Kn f q v hd 0:=fun hf v hv=>by
  obtain⟨z,hz,e6,_⟩:=hf _ _ b6;exact⟨hd,-1,⟨z,hz,.inl ⟨rfl,by rw[e6];exact hv⟩⟩,.refl _,fun _=>by decide⟩
 have d0:(M0.next:Int)∈y0.params:=by rw[b7];simp
 have c9:((M0.next+1:Nat):Int)∈y0.params:=by rw[b7];simp
 have f1:aaz p {M2 with cur:=hd,vals:=M2.vals++ [((M0.next+1:Nat):Int)]} (fun i=>(O i/\i≠M0.cur)∨(hd<=i/\i<=hd+2)) (fun i=>P i∨(i=hd+1∨i=hd+2)) pl0:=c3.goto l0 (fun v hv b hb=>by
  rcases Jl.1 hv with hv|hv
  ·rw[d6] at hv;obtain⟨q,k⟩:=a3 v hv;exact c3.below k w (show M0.cur≠hd by omega)
  ·rw[Jo] at hv;subst hv
   exact(a9 (rf.refl _) _ c9).ext (rf.refl _) Od Zo)
 have d4:(fun i=>(O i/\i≠M0.cur)∨(hd<=i/\i<=hd+2)) ({M2 with cur:=hd,vals:=M2.vals++ [((M0.next+1:Nat):Int)]}:MS).cur:=.inr ⟨Je _,by show hd<=hd+2;omega⟩
 have f2:=f1.endB (t:=⟨2,(M0.next:Nat),[⟨((hd+1:Nat):Int),[]⟩,⟨((hd+2:Nat):Int),[]⟩]⟩) d4 rfl (by show 2<=4;decide) (fun e g=>by
  rcases Jq.1 g with rfl|g
  ·exact⟨hd+1,hd,y1,rfl,by omega,c7,by rw[f3];rfl,q1,.refl _⟩
  ·rw[Jo] at g;subst g
   exact⟨hd+2,hd,y2,rfl,by omega,c5,by rw[f0];rfl,q2,.refl _⟩) (fun v hv b hb=>by
    rcases gL hv with rfl|hv
    ·exact(a9 (rf.refl _) _ d0).ext (rf.refl _) Od Zo
    ·cases hv) (P':=P) (by
    rintro(e|e)
    ·have e':P hd:=e;have:=a8 _ e';omega
    ·have e':hd=hd+1∨hd=hd+2:=e
     omega) (fun i e=>by
    rcases e with e|e|e
    ·exact .inl e
    ·exact .inr ⟨_,.head _,by subst e;rfl⟩
    ·exact .inr ⟨_,.tail _ (.head _),by subst e;rfl⟩)
 have fx:=xd f1 d4 ⟨2,(M0.next:Nat),[⟨((hd+1:Nat):Int),[]⟩,⟨((hd+2:Nat):Int),[]⟩]⟩
 have fv:(({M2 with cur:=hd,vals:=M2.vals++ [((M0.next+1:Nat):Int)]}:MS).endB ⟨2,(M0.next:Nat),[⟨((hd+1:Nat):Int),[]⟩,⟨((hd+2:Nat):Int),[]⟩]⟩).vals=M0.vals++ [((M0.next+1:Nat):Int)]:=by
  show M2.vals++_=_
  rw[d6]
 have fl:M2.f.length<=(({M2 with cur:=hd,vals:=M2.vals++ [((M0.next+1:Nat):Int)]}:MS).endB ⟨2,(M0.next:Nat),[⟨((hd+1:Nat):Int),[]⟩,⟨((hd+2:Nat):Int),[]⟩]⟩).f.length:=ja fx;generalize ({M2 with cur:=hd,vals:=M2.vals++ [((M0.next+1:Nat):Int)]}:MS).endB ⟨2,(M0.next:Nat),[⟨((hd+1:Nat):Int),[]⟩,⟨((hd+2:Nat):Int),[]⟩]⟩=M3 at *;have j:rf M2.f M3.f:=fx;have c0:Abv pl0 hd (hd+1):=.up q1 Zo (.refl _);have b9:Abv pl0 hd (hd+2):=.up q2 Zo (.refl _)
 have c8:∀v∈M3.vals,∃q,Kn M3.f pl0 v hd q:=fun v hv=>by
  rw[fv] at hv;rcases Jl.1 hv with hv|hv
  ·obtain⟨q,k⟩:=a3 v hv;exact⟨0,c3.below k w Zo|>.ext j Od (Og _)⟩
  ·rw[Jo] at hv;subst hv;exact⟨0,a9 j _ c9⟩
 have g1:aaz p {M3 with cur:=hd+1 } (fun i=>((O i/\i≠M0.cur)∨(hd<=i/\i<=hd+2))/\i≠hd) P pl0:=f2.goto (show hd+1<M3.f.length by omega) (fun v hv b hb=>by
  obtain⟨q,k⟩:=c8 v hv
  exact f2.below k c0 (show hd≠hd+1 by omega))
 obtain⟨pl4,k⟩:=c4 _ _ _ pl0 g1 ⟨.inr ⟨by show hd<=hd+1;omega,by show hd+1<=hd+2;omega⟩,by show hd+1≠hd;omega⟩ (fun e=>by
  have e':P (hd+1):=e;have:=a8 _ e'
  omega) (fun i e=>⟨.inl ⟨hPO i e,fun e2=>d1 (by rw[<-e2];exact e)⟩,by have:=a8 i e;omega⟩)
 have f5:({M3 with cur:=hd+1 }:MS).cur=hd+1:=rfl;have f4:({M3 with cur:=hd+1 }:MS).f=M3.f:=rfl;have e8:({M3 with cur:=hd+1 }:MS).vals=M3.vals:=rfl;obtain⟨k1,k2,k3,k4,k5,k6,k7⟩:=k;rw[f5] at k2 k3 k4;rw[f4] at k4 k7;rw[e8] at k6;generalize a5 {M3 with cur:=hd+1 }=M4 at *;have b8:Abv pl4 hd M4.cur:=(c0.ext k1).trans k3;have c2:(fun i=>((((O i/\i≠M0.cur)∨(hd<=i/\i<=hd+2))/\i≠hd)/\i≠hd+1)∨i=M4.cur) M4.cur:=.inr rfl;obtain⟨m1,m2⟩:=k2.num c2 1;have mg:=wT M4 1;have mx:rf M2.f (M4.num 1).f:=(j.trans k7).trans (abB M4 1)
 obtain⟨s1,s2⟩:=m1.emitK (c:=6) (by rw[mg.cur];exact c2) (F:=⟨true,true,true,true,false⟩) rfl ⟨rfl,rfl⟩ Zd Zd Zd (a:=(M0.next:Nat)) (b:=(M4.next:Nat)) (n:=0) (.inl ⟨rfl,fun x hx=>by
  have d:=a9 (q:=pl4) mx _ d0
  by_cases e:hd=(M4.num 1).cur
  ·rw[<-e];exact d.ext (rf.refl _) Od Zo
  ·exact m1.below d (by rw[mg.cur];exact b8) e⟩) (.inl ⟨rfl,m1.at m2⟩) (.inr rfl) (.inl Zd)
 have sg:=yB (M4.num 1) ⟨6,0,(M0.next:Nat),(M4.next:Nat),0,[]⟩;have sc:((M4.num 1).emit ⟨6,0,(M0.next:Nat),(M4.next:Nat),0,[]⟩).cur=M4.cur:=sg.cur.trans mg.cur;have sx:rf M4.f ((M4.num 1).emit ⟨6,0,(M0.next:Nat),(M4.next:Nat),0,[]⟩).f:=(abB M4 1).trans (aaD _ _);have sv:M4.vals<+:((M4.num 1).emit ⟨6,0,(M0.next:Nat),(M4.next:Nat),0,[]⟩).vals:=mg.pre.trans sg.pre;have sn:((M4.num 1).next:Int)=((M4.next+1:Nat):Int):=rfl;rw[sn] at s2;generalize (M4.num 1).emit ⟨6,0,(M0.next:Nat),(M4.next:Nat),0,[]⟩=M5 at *;obtain⟨t1,t2⟩:=s1.any E (by rw[sc];exact c2);have tg:=yU E M5;have tc:(zJ E M5).2.cur=M4.cur:=tg.cur.trans sc;have tx:=sx.trans (aaW E M5);have tv:=sv.trans tg.pre;have tn:((M4.next+1:Nat):Int)∈(zJ E M5).2.vals:=tg.pre.subset s2;generalize zJ E M5=y at *;obtain⟨yv,M6⟩:=y;simp only at t1 t2 tc tx tv tn ⊢;have c1:(fun i=>((((O i/\i≠M0.cur)∨(hd<=i/\i<=hd+2))/\i≠hd)/\i≠hd+1)∨i=M4.cur) M6.cur:=.inr tc;obtain⟨z0,e7,d7,_⟩:=(j.trans (k7.trans tx)) _ _ b6
 have u1:=t1.endB (t:=⟨1,0,[⟨(hd:Nat),[((M4.next+1:Nat):Int),yv]⟩]⟩) c1 rfl (by show 1<=4;decide) (fun e g=>by
  rw[Jo] at g;subst g
  exact⟨hd,M0.cur,z0,rfl,by omega,e7,by rw[d7,b7];rfl,aaS k1 q0,by rw[tc];exact(w.ext k1).trans b8⟩) (fun v hv=>by
  rw[gQ] at hv;refine t1.at ?_;rcases Jq.1 hv with rfl|hv
  ·exact tn
  ·rw[Jo] at hv;subst hv;exact t2) (P':=P) (by rw[tc];exact k5) (fun i e=> .inl e)
 have ux:=(j.trans (k7.trans tx)).trans (xd t1 c1 ⟨1,0,[⟨(hd:Nat),[((M4.next+1:Nat):Int),yv]⟩]⟩);have uv:M3.vals<+:(M6.endB ⟨1,0,[⟨(hd:Nat),[((M4.next+1:Nat):Int),yv]⟩]⟩).vals:=k6.trans tv;have e5:=(k7.trans tx).trans (xd t1 c1 ⟨1,0,[⟨(hd:Nat),[((M4.next+1:Nat):Int),yv]⟩]⟩);rw[tc] at u1;generalize M6.endB ⟨1,0,[⟨(hd:Nat),[((M4.next+1:Nat):Int),yv]⟩]⟩=M7 at *;have g3:=ja ux;have a6:M7.vals.take M3.vals.length=M3.vals:=uF uv;refine⟨pl4,a0.trans k1,?_,?_,.inr (by show M.f.length<=hd+2;omega),fun e=>?_,?_,ax.trans (d5.trans ux)⟩
 ·have w1:MInv p M7.f (hd+2) M7.next (M7.vals.take M3.vals.length) _ P pl4:=u1.goto Zo (fun v hv b hb=>by
   rw[a6] at hv;obtain⟨q,k⟩:=c8 v hv
   exact u1.below (k.ext e5 k1 (Og _)) (b9.ext k1) Zo)
  refine w1.weak (fun i=>?_) (fun i e=>e);have f6:=ja j;rw[<-ac];constructor
  ·rintro⟨⟨⟨e|e,e2⟩,e3⟩|e,e4⟩
   ·exact .inl e
   ·exact .inr (show i=hd+2 by omega)
   ·exact absurd e e4
  ·rintro(e|e)
   ·have hi:=e0 i e.1;refine⟨.inl ⟨⟨.inl e,by omega⟩,by omega⟩,fun e2=>?_⟩;rcases k4 with k4|k4<;>omega
   ·have e':i=hd+2:=e;refine⟨.inl ⟨⟨.inr Zo,by omega⟩,by omega⟩,fun e2=>?_⟩;rcases k4 with k4|k4<;>omega
 ·rw[<-ac];exact(w.ext k1).trans (b9.ext k1)
 ·have e':P (hd+2):=e;have:=a8 _ e';omega
 ·show M.vals<+:M7.vals.take M3.vals.length
  rw[a6,fv];exact av.trans (Qb _ _)
section
variable {p:IProg} {E:ME} (hp:EnvOk p E)
include hp
theorem abq:∀d,so p (zp E d)
 |0=>fX hp
 |d+1=>fun M O P pl h hO hn hPO=>by
  obtain⟨pl1,h1⟩:=fX hp M O P pl h hO hn hPO;have hl:=ja (eO E M)
  have next:∀ {pt:MS->MS},so p pt->(∀M2:MS,M2.f=(tR E M).f->M2.cur=(tR E M).cur->M2.next=(tR E M).next->M2.vals=(tR E M).vals->∃pl',PartOut M O P pl p (pt M2) pl'):=fun {pt} hpt M2 e1 e2 e3 e4=>by
   have hi:aaz p M2 (fun i=>(O i/\i≠M.cur)∨i=(tR E M).cur) P pl1:=by
    have:=h1.inv;unfold aaz at this ⊢;rw[e1,e2,e3,e4];exact this
   obtain⟨g,k⟩:=hpt M2 _ P pl1 hi (.inr e2) (by rw[e2];exact h1.np) (fun i e=> .inl ⟨hPO i e,fun e3=>hn (by rw[<-e3];exact e)⟩);have j:PartOut M O P pl p M2 pl1:=⟨h1.pre,by rw[e2];exact hi,by rw[e2];exact h1.abv,by rw[e2];exact h1.new,by rw[e2];exact h1.np,by rw[e4];exact h1.vals,by rw[e1];exact h1.ext⟩
   refine⟨g,j.trans ?_ (by rw[e1];exact hl) h.lt⟩;have e5:(fun i=>(O i/\i≠M.cur)∨i=(tR E M).cur)=(fun i=>(O i/\i≠M.cur)∨i=M2.cur):=by rw[e2]
   rw[<-e5];exact k
  unfold zp;simp only
  have c:so p (fun M=>M):=fun M O P pl h hO hn hPO=>⟨pl,Od,h.weak (fun i=>⟨fun e=>by
   by_cases e2:i=M.cur
   ·exact .inr e2
   ·exact .inl ⟨e,e2⟩,fun e=>e.elim (·.1) (fun e=>by rw[e];exact hO)⟩) (fun i e=>e),.refl _,.inl rfl,hn,Od,rf.refl _⟩
  split
  ·exact next c _ rfl rfl rfl rfl
  split
  ·exact next (gI (abq d) (n:=2) ⟨by decide,by decide⟩) (tR E M).tick rfl rfl rfl rfl
  split
  ·exact next (ee (abq d)) (tR E M).tick rfl rfl rfl rfl
  split
  ·have:=aaE E (tR E M).tick (n:=3) Zo;exact next (gI (abq d) (n:=2+tkV E (tR E M).tick 3) ⟨by omega,by omega⟩) (tR E M).tick.tick rfl rfl rfl rfl
  ·exact next c (tR E M).tick rfl rfl rfl rfl
end
end Go.Proofs.Ytoahcpkibpomcaa
