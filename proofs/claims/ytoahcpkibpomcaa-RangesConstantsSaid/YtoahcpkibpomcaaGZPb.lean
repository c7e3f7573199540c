/- Part of a proof. -/
import Derived.Test.YtoahcpkibpomcaaGIFun2
set_option linter.all false
set_option maxHeartbeats 6400000
set_option maxRecDepth 100000
namespace Go.Proofs.Ytoahcpkibpomcaa
open Go.RowKit
variable {c k vb vn:Nat}{m:Mach}{w w' w0:World}{K:MK}{ov:Value}{xs:List Nat}{o:IOp}{es:Array _}{u:Int}{t:Slv}
theorem lU{E:IEnv}{c:Int->List Nat->Mach->Res Nat}{m':Mach}{x:Nat}(h:tY E c m=.ok x m'):x=0:=by
 unfold tY at h
 split at h
 ·split at h
  ·split at h
   ·cases h;rfl
   ·cases h
  ·cases h;rfl
 ·cases h;rfl
theorem step_27(h:MachAt w K m ov){f oa ob:Int}{on:Nat}(a5:I64 oa)(a4:I64 ob)(b2:on<65536)(ab:Option Addr)(an ac:Nat){v:Int->Nat}(hv:xO w vb vn v)(a6:Hid (OkProg K.E.p)){r:Nat}(hr:r<=100)(hC:Hid (pq K r)):
 A 97 #[G K.pm,.agg #[I 27,I f,I oa,I ob,M on,.slice ab an ac],.map (some vb),I (100-(r:Int))] w (zQ K w (tY K.E (xW K.E r) m)):=by
 have a1:=fun(W:World) (hW:Frm K.B w W)=>(hv.kept hW).look a5
 have a0:=fun(W:World) (hW:Frm K.B w W)=>(hv.kept hW).look a4
 have b1:=hv.2 oa;have b0:=hv.2 ob;have b3:=h.size;have a2:=Ja (h.keep ((Below.refl _ _).alloc (Je _) (U #[I 27,I f,I oa,I ob,M on,.slice ab an ac] 27)));have l:=Ja ((Frm.refl K.B w).alloc Zo (U #[I 27,I f,I oa,I ob,M on,.slice ab an ac] 27));have la:=fun n:Nat=>a1 _ (l.out.drewN (n:=n))
 have lb:=fun n:Nat=>a0 _ (l.out.drewN (n:=n))
 have g:=zI (W:=w) (o:=U #[I 27,I f,I oa,I ob,M on,.slice ab an ac] 27) rfl;clear h hv a1 a0;generalize v oa=xa at *;generalize v ob=xb at *;go_enter Try.func97,Try.ntmps97;go_upto_region 1 with fail;generalize a9:w.alloc (U #[I 27,I f,I oa,I ob,M on,.slice ab an ac] 27)=W1 at *;clear a9;have p0:=K0 g;have p2:=K2 g;have p3:=K3 g;have p4:=K4 g
 go_cut [9,10] (fun x y wx=>x=M xa/\y=M xb/\∃n,wx=W1.drewN n)
 case first=>
  go_quiet (fail);go_wp2;go_meet;exact⟨rfl,rfl,_,rfl⟩
 case rest=>
  obtain⟨rfl,rfl,n,rfl⟩:=hcut;have HM:=Ja (a2.out.drewN n);have HF:=Ja (l.out.drewN (n:=n));have q0:(W1.drewN n).cell? ⟨w.heap.size,0,none⟩=_:=p0;have q2:(W1.drewN n).cell? ⟨w.heap.size,2,none⟩=_:=p2;have q4:(W1.drewN n).cell? ⟨w.heap.size,4,none⟩=_:=p4;clear la lb p0 p2 p3 p4 g a2 l;generalize W1.drewN n=W2 at *;have c:=poll_any HM.out a6.out hr hC.out
  cases d:tY K.E (xW K.E r) m with
  |ok x m'=>
   have a3:=lU d;subst a3;have j:A 104 #[G K.pm,I (100-(r:Int))] W2 fun e w'=>e=.returned (.tuple #[])/\(∃ov',MachAt w' K m' ov')/\Frm K.B W2 w':=by rw[d] at c;exact c
   have u:=Ja j;have EE:=Ja d;clear c j d;go_wp2_with (go_at_call 104;go_must (refine u.out.mono ?_;rintro e w' ⟨rfl,⟨ov',q⟩,t⟩))
   go_ret;rw[EE.out]
   exact zQ.ok (x:=0) q (HF.out.trans t) Zd
  |trap k i m'=>
   have j:A 104 #[G K.pm,I (100-(r:Int))] W2 fun e w'=>e=.panicked [oE k i]/\(∃ov',MachAt w' K m' ov')/\Frm K.B W2 w':=by rw[d] at c;exact c
   have u:=Ja j;have EE:=Ja d;clear c j d;go_wp2_with (go_at_call 104;go_must (refine u.out.mono ?_;rintro e w' ⟨rfl,⟨ov',q⟩,t⟩))
   exact⟨rfl,by rw[EE.out];exact zQ.trap q (HF.out.trans t)⟩
theorem u16s_lt{B:Nat}{v:Value}(h:wV w B v xs):∀x∈xs,x<65536:=by
 intro x c;obtain⟨k,hk⟩:=Ny c;obtain⟨a,f,rfl,_,_,_⟩:=id h;obtain⟨b,o,_,_,d⟩:=h.get hk;exact d.2
def aam (o:IOp)(av:Value):Value:=.agg #[I o.code,I o.res,I o.a,I o.b,M (o.n:Int),av]
theorem step_any(h:MachAt w K m ov)(i:OkProg K.E.p)(ho:OkOp K.E.p o)(hb:I64 o.code/\I64 o.res/\I64 o.a/\I64 o.b/\o.n<65536){av:Value}(j:zY w w.heap.size av o.args)
  {v:Int->Nat} (hv:xO w vb vn v) {r:Nat} (hr:r<=100) (u:pq K r) (l:m.out.length+1+m.fuel.toNat<=4000000):
 A 97 #[G K.pm,aam o av,.map (some vb),I (100-(r:Int))] w (zQ K w (oV K.E (xW K.E r) o v m)):=by
 obtain⟨code,res,oa,ob,on,xs⟩:=o;obtain⟨⟨a1,a0⟩,h2,k⟩:=ho;obtain⟨_,a2,d,c,f⟩:=hb;obtain⟨aa,ac,g,_,_⟩:=j.form;simp only at *;unfold aam;have t:code=1∨code=2∨code=3∨code=4∨(5<=code/\code<=17)∨code=18∨code=19∨code=20∨code=21∨code=22∨code=23∨code=24∨code=25∨code=26∨code=27:=Zo;have q:∀x∈K.E.inn,x<65536:=u16s_lt h.inn;rcases t with rfl|rfl|rfl|rfl|y|rfl|rfl|rfl|rfl|rfl|rfl|rfl|rfl|rfl|rfl
 ·subst g;exact step_1 h d c f _ _ _ hv _
 ·subst g;exact step_2 h d c f _ _ _ hv _ (h2 rfl)
 ·subst g;exact step_3 h d c f _ _ _ hv _
 ·subst g;exact step_4 h d c f _ _ _ hv _
 ·subst g
  have e:oV K.E (xW K.E r) ⟨code,res,oa,ob,on,xs⟩ v m=iy m code (v oa) (v ob):=by
   unfold oV mU;simp only;rw[if_neg Zo,if_neg Zo,if_neg Zo,if_neg Zo,if_neg Zo,if_neg Zo,if_neg Zo,if_neg Zo,if_neg Zo,if_neg Zo,if_neg Zo,if_neg Zo,if_neg Zo,if_neg Zo]
  rw[e];exact step_ar h d c f _ _ _ hv _ y
 ·subst g;exact step_18 h d c f _ _ _ hv _
 ·subst g;exact step_19 h d c f _ _ _ hv _
 ·subst g;exact step_20 h d c f _ _ _ hv _
 ·subst g;exact step_21 h d c f _ _ _ hv _
 ·subst g;exact step_22 h d c f _ _ _ hv _ (Ja i.bank)
 ·subst g;exact step_23 h d c f _ _ _ hv _ (Ja i.bank)
 ·subst g;exact step_24 h d c f _ _ _ hv _ (Ja q)
 ·subst g;exact step_25 h d c f _ _ _ hv _ l
 ·exact step_26 h d c f j (by have:=i.argle oa.toNat;have:=(k rfl).2.2;omega) hv hr u (k rfl)
 ·subst g;exact step_27 h d c f _ _ _ hv (Ja i) hr (Ja u)
theorem nQ{b q:Nat}{v:Value}(d:O w b q v)(hm:w.heap[vb]? =some (.map es c)):b≠vb:=by
 rintro rfl;simp[World.cell?,hm] at d
theorem MachAt.grownMap(h:MachAt w K m ov)(hm:w.heap[vb]? =some (.map es c))(j:K.B<=vb)(hg:w.grownBy w' (some vb)):MachAt w' K m ov:=by
 have n1:vb≠K.pm:=by rintro rfl;rw[h.blk] at hm;cases hm
 have n2:vb≠K.rb:=by rintro rfl;rw[h.ram] at hm;cases hm
 have hb:Below K.B w w':=(Below.refl _ _).grown hg (Qd h.size) (fun k hk=>by simp at hk;omega);refine⟨zL hg h.blk (by simpa using n1),zL hg h.ram (by simpa using n2),h.rlen,h.rlt,h.out.kept hg ?_,h.olt,h.obd,h.fuel,h.inp,h.pol,h.gpm,h.grb,h.prog.below hb,h.inn.below zr hb,h.irq.below xQ hb⟩;rcases h.out.2 with⟨hv,_⟩|⟨g,i,f,hv,_,d,_⟩
 ·left;rw[hv];rfl
 ·right;rw[hv];intro e;simp only[Value.ownBlock,Option.some.injEq] at e;subst e;rw[d] at hm;cases hm
theorem Frm.grownMap{B:Nat}(h:Frm B w0 w)(d:w0.heap.size<=vb)(c:B<=w0.heap.size)(hg:w.grownBy w' (some vb)):Frm B w0 w':=
 ⟨h.below.grown hg (Jn c h.below.size) (fun k hk=>by simp at hk;omega),fun k o hk hs=>zL hg (h.kept k o hk hs) (by have:=lt_of_block hk;simp;omega)⟩
theorem U16s.grownMap{B:Nat}{v:Value}(h:wV w B v xs)(hm:w.heap[vb]? =some (.map es c))(hg:w.grownBy w' (some vb)):wV w' B v xs:=by
 obtain⟨a,f,rfl,q,m,l⟩:=h;refine⟨a,f,rfl,q,m,fun k x hk=>?_⟩;obtain⟨b,o,j,i,d,g⟩:=l k x hk;exact⟨b,o,j,i,hg.cell d (by simpa using nQ d hm),g⟩
structure CSt (K:MK) (w0 w:World) (m:Mach) (vb vn:Nat) (v:Int->Nat):Prop where
 mach:∃ov,MachAt w K m ov
 frm:Frm K.B w0 w
 map:xO w vb vn v
 new:w0.heap.size<=vb
 gb:K.B<w0.heap.size
theorem CSt.alloc{v:Int->Nat}(h:CSt K w0 w m vb vn v)(o:Obj):CSt K w0 (w.alloc o) m vb vn v:=by
 obtain⟨ov,hm⟩:=h.mach;exact⟨⟨ov,hm.keep ((Below.refl _ _).alloc (Je _) o)⟩,h.frm.trans ((Frm.refl _ _).alloc (by have:=hm.size;omega) o),h.map.kept ((Frm.refl K.B w).alloc (by have:=hm.size;omega) o),h.new,h.gb⟩
theorem CSt.store{n':Nat}{v v':Int->Nat}(h:CSt K w0 w m vb vn v)(hm:xO w' vb n' v')(hg:w.grownBy w' (some vb)):CSt K w0 w' m vb n' v':=by
 obtain⟨ov,d⟩:=h.mach;obtain⟨es,c,hb⟩:=h.map.blk;exact⟨⟨ov,d.grownMap hb (by have:=h.new;have:=h.gb;omega) hg⟩,h.frm.grownMap h.new (Qd h.gb) hg,hm,h.new,h.gb⟩
theorem CSt.step {K:MK}{w0 w w':World}{m m':Mach}{vb vn:Nat}{v:Int->Nat}{c:Value}(h:CSt K w0 w m vb vn v)(f:MachAt w' K m' c)(d:Frm K.B w w'):CSt K w0 w' m' vb vn v:=
 ⟨⟨c,f⟩,h.frm.trans d,h.map.kept d,h.new,h.gb⟩
theorem CSt.keep{v:Int->Nat}(h:CSt K w0 w m vb vn v)(hb:Q w w'):CSt K w0 w' m vb vn v:=by
 obtain⟨ov,hm⟩:=h.mach;exact h.step (hm.keep hb) ⟨hb.mono (Qd hm.size),fun i o hi _=>zH hb hi (lt_of_block hi)⟩
theorem iA (K:MK):pq K 0:=by
 intro w m ov av f args h d c g hl;obtain⟨aa,ac,rfl,_,_⟩:=g.form;have j:(100:Int)<101:=Zo;have i:=Ja h;clear h g hl d c;go_enter Try.func91,Try.ntmps91;go_wp2_with (go_at_call 95;go_must (refine(wj 5 0 _).mono ?_;rintro e w' ⟨rfl,rfl⟩))
 exact⟨rfl,zQ.trap i.out (Frm.refl _ _)⟩
def jw (K:MK)(w0 wx:World)(r n:Nat)(blocks:List IBlk)(vb:Nat)(at':Nat)(av:Value)(R:Res Nat):Prop:=
 ∃(args:List Nat) (v:Int->Nat) (m:Mach) (vn:Nat),CSt K w0 wx m vb vn v/\wV wx wx.heap.size av args/\args.length=(xz blocks at').params.length/\at'<blocks.length/\m.fuel.toNat<n/\vn+m.fuel.toNat*70000<=300000000000/\tJ K.E (xW K.E r) blocks n at' args v m=R
theorem rh {blocks:List IBlk}{a:Nat}(h:a<blocks.length):blocks[a]? =some (xz blocks a):=by
 unfold xz;rw[Ni,Jj,Jd h];rfl
theorem ru (E:IEnv)(c:Int->List Nat->Mach->Res Nat)(blocks:List IBlk)(n:Nat)(a:Int)(args:List Nat)(v:Int->Nat)(m:Mach):tJ E c blocks (n+1) a args v m=
 match iq E c (xz blocks a).ops (r7 (xz blocks a).params args v) m with
 |.trap k i m'=> .trap k i m'
 |.ok v2 m2=>
  if m2.fuel<=0 then .trap 7 0 m2
  else if(xz blocks a).term.kind=4 then .ok (if(xz blocks a).term.a=-1 then 0 else v2 (xz blocks a).term.a) m2.pay
  else if(xz blocks a).term.kind=5 then .trap 1 0 m2.pay
  else tJ E c blocks n (wK (xz blocks a).term (v2 (xz blocks a).term.a)).block ((wK (xz blocks a).term (v2 (xz blocks a).term.a)).args.map v2) v2 m2.pay:=rfl
theorem j7 (E:IEnv)(c:Int->List Nat->Mach->Res Nat)(o:IOp)(os:List IOp)(v:Int->Nat)(m:Mach):iq E c (o::os) v m=
 if m.fuel<=0 then .trap 7 0 m
 else match oV E c o v m.pay with
  |.ok r m'=>iq E c os (setV v o.res r) m'
  |.trap k i m'=> .trap k i m':=rfl
theorem bd_next{p1 p2:Nat}(c:vn+p2*70000<=300000065536)(d:p1+1=p2):vn+p1*70000<=300000000000:=by
 subst d;rw[Nat.add_mul,<-Nat.add_assoc] at c;exact Jn (Nat.le_of_add_le_add_right (b:=70000) (show vn+p1*70000+70000<=299999995536+70000 from c)) Zd
def OpsSt (K:MK)(w0 wx:World)(r:Nat)(vb b12:Nat)(cs:Array Value)(m1:Mach)(os:List IOp)(R:Res (Int->Nat)):Prop:=
 ∃(v:Int->Nat) (m:Mach) (vn:Nat),CSt K w0 wx m vb vn v/\T wx b12 cs 36/\vn+m.fuel.toNat*70000<=300000065536/\m.fuel<=m1.fuel/\iq K.E (xW K.E r) os v m=R
theorem jC (K:MK)(u3:OkProg K.E.p)(r:Nat)(hr:r+1<=100)(hC:pq K r):pq K (r+1):=by
 intro w m ov av f args h y6 d6 ha hl;obtain⟨aa,ac,rfl,_,_⟩:=ha.form;obtain⟨k,rfl⟩:∃k:Nat,f=(k:Int):=⟨f.toNat,by omega⟩
 have k0:=h.prog.funcs;obtain⟨fa,fc,v0,_,_⟩:=k0.form;have c0:=h.c0;rw[v0] at k0 c0;have u5:k<K.E.p.funcs.length:=Zo;obtain⟨blocks,k4⟩:∃bl,K.E.p.funcs[k]? =some bl:=⟨_,Jd u5⟩
 obtain⟨fb,fo,rfl,_,bv,z0,q9⟩:=k0.get k4;rw[Nk] at z0;obtain⟨ba,bc,rfl,_,A9⟩:=q9.form;have u9:K.E.p.funcs.getD (k:Int).toNat []=blocks:=by rw[Ni,Jj,k4];rfl
 have C1:(k:Int)<K.E.p.funcs.length:=Zo;have o9:(101-((r+1:Nat):Int))=100-(r:Int):=Zo;have C3:¬(100:Int)<100-(r:Int):=Zo
 have l3:xW K.E (r+1) k args m=if blocks.isEmpty then .trap 8 ((k:Int)%65536).toNat m else tJ K.E (xW K.E r) blocks (m.fuel.toNat+1) 0 args (fun _=>0) m:=by
  show(if(K.E.p.funcs.getD (k:Int).toNat []).isEmpty then _ else _)=_
  rw[u9]
 have HM:=Ja h;have A5:=Ja q9;have HC:=Ja hC;have s4:=Ja u3;have w7:=Ja k4;have HA:=Ja (Jb ha hl);have hB:=h.size;rw[o9];have r6:=Ja l3;clear h k0 v0 u5 y6 d6 u9 q9 hC u3 k4 ha hl o9 l3
 by_cases g7:blocks.length=0
 ·have t1:((blocks.length:Int)==0)=true:=by rw[beq_iff_eq];omega
  have EE:=Ja (show xW K.E (r+1) k args m=.trap 8 ((k:Int)%65536).toNat m by rw[r6.out,if_pos (by rw[List.isEmpty_iff];exact Nz g7)]);obtain⟨q,hq⟩:∃q:Nat,((k:Int)%65536).toNat=q:=⟨_,rfl⟩
  have B7:IntKind.u16.wrap (k:Int)=(q:Int):=by rw[xY];omega
  rw[hq] at EE;clear g7 hq;go_enter Try.func91,Try.ntmps91;go_wp2_with (go_at_call 95;go_must (refine(wj 8 q _).mono ?_;rintro e w' ⟨rfl,rfl⟩))
  exact⟨rfl,by rw[EE.out];exact zQ.trap HM.out (Frm.refl _ _)⟩
 ·have t1:((blocks.length:Int)==0)=false:=Ze;have EE:=Ja (show xW K.E (r+1) k args m=tJ K.E (xW K.E r) blocks (m.fuel.toNat+1) 0 args (fun _=>0) m by rw[r6.out,if_neg (by rw[List.isEmpty_iff];intro e;exact g7 (by rw[e];rfl))]);obtain⟨RES,i1⟩:∃R,xW K.E (r+1) k args m=R:=⟨_,rfl⟩
  have m8:Hid (jw K w (w.alloc (.map #[] 0)) r (m.fuel.toNat+1) blocks w.heap.size 0 (.slice aa args.length ac) RES):=by
   refine⟨args,fun _=>0,m,0,⟨⟨ov,HM.out.keep ((Below.refl _ _).alloc (Je _) _)⟩,(Frm.refl _ _).alloc (Qd hB) _,xO.made w,Je _,hB⟩,?_,?_,by omega,by omega,?_,?_⟩
   ·exact(HA.out.1.below zr ((Below.refl _ _).alloc (Je _) _)).mono zr Zs
   ·obtain⟨b,bs,rfl⟩:∃b bs,blocks=b::bs:=by
     cases blocks with
     |nil=>exact absurd rfl g7
     |cons b bs=>exact⟨b,bs,rfl⟩
    have h1:=s4.out.par k b bs w7.out;have h2:=HA.out.2;rw[Ni] at h2
    show args.length=b.params.length
    omega
   ·have:=HM.out.obd;omega
   ·rw[<-i1,EE.out];rfl
  rw[i1];have w2:=Ja (show ∀b∈blocks,OkBlk K.E.p blocks b from s4.out.blk blocks (Ji w7.out));have u4:0<blocks.length:=Zo;have C6:=Ja u4;clear g7 i1 EE r6 u4 HA;generalize x7:m.fuel.toNat+1=gas at m8;clear x7;have C0:=@run_makeMap Try.prog;go_enter Try.func91,Try.ntmps91;go_wp2
  go_loopg [2,11] gas (fun n sv atv wx=>∃(at':Nat) (sa:Option Addr) (sn sc:Nat),sv=.slice sa sn sc/\atv=I at'/\Hid (jw K w wx r n blocks w.heap.size at' (.slice sa sn sc) RES))
  case atStart=>exact⟨0,aa,args.length,ac,rfl,rfl,m8⟩
  case round=>
   obtain⟨at',sa,sn,sc,rfl,rfl,HS⟩:=hrel
   cases gk with
   |zero=>obtain⟨_,_,m1,_,_,_,_,_,y4,_⟩:=HS.out;exact absurd y4 (Nat.not_lt_zero _)
   |succ n=>
    obtain⟨args1,v1,m1,vn1,d7,f1,v6,r2,v3,v5,c⟩:=HS.out;obtain⟨sa',sc',e1,_,_⟩:=f1.form;cases e1;have x8:=A5.out.get (rh r2);have n4:=w2.out _ (Ji (rh r2));generalize r0:xz blocks at'=bk at *;have j1:=Ja r0;obtain⟨bb,bo,rfl,e0,k2,k3,u6,pv,ov1,tv,kp,ko,kt,n2,n3,l9⟩:=x8;have k2:=zV d7.frm.below e0 k2;have k3:=zV d7.frm.below e0 k3;have kp:=zV d7.frm.below e0 kp;have ko:=zV d7.frm.below e0 ko;have kt:=zV d7.frm.below e0 kt;obtain⟨pa,pc,rfl,_,_⟩:=n2.form;obtain⟨oa,oc,rfl,_,_⟩:=n3.form;obtain⟨ta,tc,rfl,_,_⟩:=l9.form;have B0:(at':Int)<blocks.length:=Zo;have A3:=Ja d7;have b9:=Ja (Jb f1 v6);have e5:=Ja (Jb c (Jb v3 v5));have c3:=Ja n4;have h7:=Ja (Jb n2 (Jb n3 (Jb l9 u6)));clear m8 HS d7 f1 v6 v3 v5 c n4 r0 n2 n3 l9 u6 r2;go_upto_region 9 with fail;have p3:=A3.out.alloc (U #[.slice pa bk.params.length pc,.slice oa bk.ops.length oc,I bk.term.kind,I bk.term.a,.slice ta bk.term.to.length tc] 36);have d:=zI (W:=wr) (o:=U #[.slice pa bk.params.length pc,.slice oa bk.ops.length oc,I bk.term.kind,I bk.term.a,.slice ta bk.term.to.length tc] 36) rfl;have g8:=(b9.out.1.below zr ((Below.refl _ _).alloc (Je _) (U #[.slice pa bk.params.length pc,.slice oa bk.ops.length oc,I bk.term.kind,I bk.term.a,.slice ta bk.term.to.length tc] 36))).mono zr (B':=(wr.alloc (U #[.slice pa bk.params.length pc,.slice oa bk.ops.length oc,I bk.term.kind,I bk.term.a,.slice ta bk.term.to.length tc] 36)).heap.size) Zs;generalize z5:wr.alloc (U #[.slice pa bk.params.length pc,.slice oa bk.ops.length oc,I bk.term.kind,I bk.term.a,.slice ta bk.term.to.length tc] 36)=W1 at *;generalize wr.heap.size=b12 at *;have B5:=K0 d;have v8:=Ja (show CSt K w W1 m1 w.heap.size vn1 v1/\wV W1 W1.heap.size (.slice sa args1.length sc) args1/\T W1 b12 #[.slice pa bk.params.length pc,.slice oa bk.ops.length oc,I bk.term.kind,I bk.term.a,.slice ta bk.term.to.length tc] 36 from⟨p3,g8,d⟩);have B9:=c3.out.2.2;clear z5 p3 g8 d k2 k3 kp ko kt;go_wp2
    go_loopw [47] (fun jv wx=>∃j:Nat,j<=bk.params.length/\jv=I j/\Hid (CSt K w wx m1 w.heap.size (vn1+j) (r7 (bk.params.take j) (args1.take j) v1)/\wV wx wx.heap.size (.slice sa args1.length sc) args1/\T wx b12 #[.slice pa bk.params.length pc,.slice oa bk.ops.length oc,I bk.term.kind,I bk.term.a,.slice ta bk.term.to.length tc] 36)) (fun jv _=>bk.params.length-(intOf jv).toNat)
    case atStart=>exact⟨0,Jt _,rfl,v8.out⟩
    case round=>
     obtain⟨j,hj,rfl,HJ⟩:=hrel
     by_cases a0:j<bk.params.length
     ·skip
      have e6:(j:Int)<bk.params.length:=Zo;have b4:=Ja a0;obtain⟨x,hx⟩:∃x,bk.params[j]? =some x:=⟨_,Jd a0⟩
      obtain⟨y,hy⟩:∃y,args1[j]? =some y:=⟨_,Jd (by rw[b9.out.2];exact a0)⟩
      obtain⟨b1,o1,rfl,a9,p4,x5⟩:=h7.out.1.get hx;rw[Nk] at p4;have cp:=zV HJ.out.1.frm.below a9 p4;obtain⟨b2,o2,rfl,z2,y8,x4⟩:=HJ.out.2.1.get hy;rw[Nk] at y8;have B6:(j:Int)<args1.length:=by have:=b9.out.2;omega
      have n1:=qq (bk.params.take j) (args1.take j) v1 x y (by have:=b9.out.2;rw[Oc,Oc];omega);have e1:bk.params.take (j+1)=bk.params.take j++ [x]:=by rw[Nh,hx];rfl
      have e2:args1.take (j+1)=args1.take j++ [y]:=by rw[Nh,hy];rfl
      rw[<-e1,<-e2] at n1;have A0:=Ja n1;have l1:vn1+j<9000000000000000000:=by have:=e5.out.2.2;omega
      obtain⟨es,ec,c5⟩:=HJ.out.1.map.blk;have w0:=Ja c5;clear hx hy p4 n1 e1 e2 a9 z2 a0 c5;go_wp2_with (at_mapUpdate;go_must (refine us rfl (.tmp 52) (.tmp 53) (.tmp 57) rfl HJ.out.1.map l1 x y rfl rfl rfl x5 x4 ?_;intro w5 f6 g6;have b8:=Ja (Jb f6 g6);clear f6 g6))
      go_roundw
      case rel=>
       refine⟨j+1,b4.out,by go_num,?_,?_,?_⟩
       ·rw[A0.out];exact HJ.out.1.store b8.out.1 b8.out.2
       ·exact(U16s.grownMap HJ.out.2.1 w0.out b8.out.2).mono zr b8.out.2.size
       ·refine zL b8.out.2 HJ.out.2.2 ?_;intro e;have c5:=w0.out;rw[Nt e,HJ.out.2.2] at c5;cases c5
      case measure=>have:=b4.out;simp[intOf];omega
     ·skip
      obtain rfl:j=bk.params.length:=by omega
      have e6:¬(bk.params.length:Int)<bk.params.length:=Zo;have j9:r7 (bk.params.take bk.params.length) (args1.take bk.params.length) v1=r7 bk.params args1 v1:=by rw[Nl,<-b9.out.2,Nl]
      have HQ:=HJ.out;rw[j9] at HQ;have z9:=Ja HQ;have B4:=K1 HQ.2.2;obtain⟨OR,r3⟩:∃R,iq K.E (xW K.E r) bk.ops (r7 bk.params args1 v1) m1=R:=⟨_,rfl⟩
      have s3:=Ja r3;generalize p1:(#[.slice pa bk.params.length pc,.slice oa bk.ops.length oc,I bk.term.kind,I bk.term.a,.slice ta bk.term.to.length tc]:Array Value)=cs at *;have A4:=Ja p1;have m3:Hid (OpsSt K w wr r w.heap.size b12 cs m1 (bk.ops.drop 0) OR):=⟨_,m1,_,HQ.1,HQ.2.2,by have:=e5.out.2.2;have:=c3.out.2.2;omega,Og _,r3⟩
      clear HQ j9 HJ r3 z9 p1 v8;go_wp2
      go_loopw [62] (fun jv wx=>∃j:Nat,j<=bk.ops.length/\jv=I j/\Hid (OpsSt K w wx r w.heap.size b12 cs m1 (bk.ops.drop j) OR)) (fun jv _=>bk.ops.length-(intOf jv).toNat)
      case atStart=>exact⟨0,Jt _,rfl,m3⟩
      case round=>
       obtain⟨j,hj,rfl,HJ⟩:=hrel
       by_cases a0:j<bk.ops.length
       ·skip
        have e6:(j:Int)<bk.ops.length:=Zo;have b4:=Ja a0;obtain⟨o,ho⟩:∃o,bk.ops[j]? =some o:=⟨_,Jd a0⟩
        have k1:bk.ops.drop j=o::bk.ops.drop (j+1):=by rw[Qn a0];rw[Jd a0] at ho;rw[Nt ho]
        obtain⟨v2,m2,vn2,i,d,d8,d6,b3⟩:=HJ.out;rw[k1,j7] at b3;obtain⟨b1,o1,rfl,a9,g0,g1,g2,g3,g4,n7,av3,g5,l0⟩:=h7.out.2.1.get ho;obtain⟨xa,xc,rfl,_,_⟩:=l0.form;have d0:=zV i.frm.below a9 g0;have d1:=zV i.frm.below a9 g1;have d2:=zV i.frm.below a9 g2;have d3:=zV i.frm.below a9 g3;have d4:=zV i.frm.below a9 g4;have d5:=zV i.frm.below a9 g5;have f2:=Ja i;have y1:=Ja d;have f3:=Ja (Jb d8 (Jb d6 b3));have r5:=Ja (Jb l0 n7);have A1:=Ja (c3.out.1 o (Ji ho));clear i d d8 d6 b3 l0 n7 k1 g0 g1 g2 g3 g4 g5 a9 a0 ho;go_upto_region 17 with fail;have a2:=f2.out.alloc (U (N o xa xc) 27);have g:=zI (W:=wr) (o:=U (N o xa xc) 27) rfl;have k7:=zB (o:=U (N o xa xc) 27) y1.out;generalize z4:wr.alloc (U (N o xa xc) 27)=W2 at *;generalize wr.heap.size=b16 at *;obtain⟨ov2,h0⟩:=a2.mach;have c9:=Ja h0;have a4:=Ja a2;have t3:=Ja (Jb g k7);clear z4 a2 g k7 h0 d0 d1 d2 d3 d4 d5
        by_cases a1:m2.fuel<=0
        ·skip
         have l:=f3.out.2.2;rw[if_pos a1] at l;have c:=e5.out.1;rw[ru,j1.out,s3.out,<-l] at c;have u:=Ja c;have a3:=Ja a1;clear l c a1;go_wp2_with (go_at_call 96;go_must (refine(pay_no c9.out a3.out).mono ?_;rintro e w3 ⟨rfl,rfl⟩))
         exact⟨rfl,by rw[<-u.out];exact zQ.trap c9.out a4.out.frm⟩
        ·skip
         have l:=f3.out.2.2;rw[if_neg a1] at l;have s2:=Ja l;have a3:=Ja (show 0<m2.fuel by omega);clear l a1;go_upto_region 18 with(go_at_call 96;go_must (refine(iN c9.out a3.out).mono ?_;rintro e w3 ⟨rfl,c7,c8⟩))
         have e8:=a4.out.step c7 c8;have g:=c8.kept _ _ t3.out.1 (by simp[sA]);have d:=c8.kept _ _ t3.out.2 (by simp[sA]);have q0:=K0 g;have q1:=K1 g;have q2:=K2 g;have q3:=K3 g;have q4:=K4 g;have q5:=K5 g;have a5:=step_any c7 s4.out A1.out r5.out.2 ((r5.out.1.below zO e8.frm.below).mono zO (Qd c7.size)) e8.map (show r<=100 by omega) HC.out (by have:=c9.out.obd;have:=a3.out;simp only[Mach.pay];omega);have s7:=Ja e8;have w8:=Ja (Jb g d);clear e8 g d c7 c8
         cases b0:oV K.E (xW K.E r) o v2 m2.pay with
         |ok x m4=>
          have f5:A 97 #[G K.pm,.agg (N o xa xc),.map (some w.heap.size),I (100-(r:Int))] w3 fun e w'=>e=.returned (M x)/\(∃ov',MachAt w' K m4 ov')/\Frm K.B w3 w'/\x<65536:=by rw[b0] at a5;exact a5
          have s0:=Ja f5;have l:=s2.out;rw[b0] at l;have o3:=pI (pO K.E r) b0;have HX:=Ja (Jb l o3);clear f5 l o3 b0 a5;go_upto_region 19 with(go_at_call 97;go_must (refine s0.out.mono ?_;rintro e w4 ⟨rfl,⟨ov4,r4⟩,h6,u1⟩))
          have c2:=s7.out.step r4 h6;have g:=h6.kept _ _ w8.out.1 (by simp[sA]);have d:=h6.kept _ _ w8.out.2 (by simp[sA]);have s1:=K1 g;have f4:=Ja d
          have r1:vn2+1+m4.fuel.toNat*70000<=300000065536:=by
           have h1:=f3.out.1;have h2:=HX.out.2;have h3:=a3.out;simp only[Mach.pay] at h2;have h4:m4.fuel.toNat+1<=m2.fuel.toNat:=Zo;omega
          have v4:m4.fuel<=m1.fuel:=by have h1:=f3.out.2.1;have h2:=HX.out.2;simp only[Mach.pay] at h2;omega
          have c4:=Ja c2;have k9:=Ja (Jb r1 v4);have l1:vn2<9000000000000000000:=Zo;have y3:=c2.map;have y2:=r5.out.2.2.1;clear c2 g d r1 v4 q0 q1 q2 q3 q4 q5
          by_cases u2:0<=o.res
          ·have b5:=HX.out.1;unfold setV at b5;rw[if_pos u2] at b5;have s5:=Ja b5;clear b5;go_wp2_with (at_mapUpdate;go_must (refine us rfl (.tmp 76) (.tmp 78) (.tmp 79) rfl y3 l1 o.res x rfl rfl rfl y2 u1 ?_;intro w5 f6 g6;have b8:=Ja (Jb f6 g6);clear f6 g6))
           go_roundw
           case rel=>
            refine⟨j+1,b4.out,by go_num,_,m4,vn2+1,c4.out.store b8.out.1 b8.out.2,?_,k9.out.1,k9.out.2,s5.out⟩;refine zL b8.out.2 f4.out ?_;intro e;obtain⟨es,ec,c5⟩:=c4.out.map.blk;rw[Nt e,f4.out] at c5;cases c5
           case measure=>have:=b4.out;simp[intOf];omega
          ·have b5:=HX.out.1;unfold setV at b5;rw[if_neg u2] at b5;have s5:=Ja b5;clear b5;go_wp2;go_roundw
           case rel=>exact⟨j+1,b4.out,by go_num,_,m4,vn2,c4.out,f4.out,by have:=k9.out.1;omega,k9.out.2,s5.out⟩
           case measure=>have:=b4.out;simp[intOf];omega
         |trap k2 i2 m4=>
          have f5:A 97 #[G K.pm,.agg (N o xa xc),.map (some w.heap.size),I (100-(r:Int))] w3 fun e w'=>e=.panicked [oE k2 i2]/\(∃ov',MachAt w' K m4 ov')/\Frm K.B w3 w'/\True:=by rw[b0] at a5;exact a5
          have s0:=Ja f5;have l:=s2.out;rw[b0] at l;have c:=e5.out.1;rw[ru,j1.out,s3.out,<-l] at c;have u:=Ja c;clear f5 l c b0 a5;go_wp2_with (go_at_call 97;go_must (refine s0.out.mono ?_;rintro e w4 ⟨rfl,⟨ov4,r4⟩,h6,u1⟩))
          exact⟨rfl,by rw[<-u.out];exact zQ.trap r4 (s7.out.frm.trans h6)⟩
       ·skip
        obtain rfl:j=bk.ops.length:=by omega
        have e6:¬(bk.ops.length:Int)<bk.ops.length:=Zo;obtain⟨v2,m2,vn2,i,d,d8,d6,b3⟩:=HJ.out;rw[List.drop_length] at b3;have c:=e5.out.1;rw[ru,j1.out,s3.out,<-b3] at c;have p5:(if m2.fuel<=0 then .trap 7 0 m2 else if bk.term.kind=4 then .ok (if bk.term.a=-1 then 0 else v2 bk.term.a) m2.pay else if bk.term.kind=5 then .trap 1 0 m2.pay else tJ K.E (xW K.E r) blocks n (wK bk.term (v2 bk.term.a)).block ((wK bk.term (v2 bk.term.a)).args.map v2) v2 m2.pay)=RES:=c;obtain⟨ov2,h0⟩:=i.mach;have c9:=Ja h0;have f2:=Ja i;have s9:=Ja (Jb d (Jb d8 d6));have s8:=Ja p5;clear b3 c p5 i d d8 d6 HJ h0 m3
        by_cases a1:m2.fuel<=0
        ·skip
         have c:=s8.out;rw[if_pos a1] at c;have u:=Ja c;have a3:=Ja a1;clear c a1;go_wp2_with (go_at_call 96;go_must (refine(pay_no c9.out a3.out).mono ?_;rintro e w3 ⟨rfl,rfl⟩))
         exact⟨rfl,by rw[<-u.out];exact zQ.trap c9.out f2.out.frm⟩
        ·have c:=s8.out;rw[if_neg a1] at c;have i8:=Ja c;have a3:=Ja (show 0<m2.fuel by omega);clear c a1;go_upto_region 23 with(go_at_call 96;go_must (refine(iN c9.out a3.out).mono ?_;rintro e w3 ⟨rfl,c7,c8⟩))
         have a2:=f2.out.step c7 c8;have d:=c8.kept _ _ s9.out.1 (by simp[sA]);rw[<-A4.out] at d;have q2:=K2 d;have q3:=K3 d;have q4:=K4 d;have lk:=a2.map.look (x:=bk.term.a) h7.out.2.2.2.2;have l2:=a2.map.2 bk.term.a;have a4:=Ja a2;have e4:=Ja c7;clear a2 d c7 c8
         by_cases h4:bk.term.kind=4
         ·skip
          have c:=i8.out;rw[if_pos h4] at c;rw[h4] at q2
          by_cases e3:bk.term.a=-1
          ·rw[if_pos e3] at c;have t2:(bk.term.a==-1)=true:=by rw[beq_iff_eq];exact e3
           have u:=Ja c;clear c h4 e3;go_wp2;go_ret;rw[<-u.out];exact zQ.ok (x:=0) e4.out a4.out.frm Zd
          ·rw[if_neg e3] at c;have t2:(bk.term.a==-1)=false:=by rw[beq_eq_false_iff_ne];exact e3
           have u:=Ja c;clear c h4 e3;go_wp2;go_ret;rw[<-u.out];exact zQ.ok e4.out a4.out.frm l2
         ·by_cases h5:bk.term.kind=5
          ·skip
           have c:=i8.out;rw[if_neg h4,if_pos h5] at c;rw[h5] at q2;have u:=Ja c;clear c h4 h5;go_wp2_with (go_at_call 95;go_must (refine(wj 1 0 _).mono ?_;rintro e w' ⟨rfl,rfl⟩))
           exact⟨rfl,by rw[<-u.out];exact zQ.trap e4.out a4.out.frm⟩
          ·skip
           have c:=i8.out;rw[if_neg h4,if_neg h5] at c;have t4:(bk.term.kind==4)=false:=by rw[beq_eq_false_iff_ne];exact h4
           have t5:(bk.term.kind==5)=false:=by rw[beq_eq_false_iff_ne];exact h5
           have h9:=lL c3.out.2.1 h4 h5 (v2 bk.term.a);have a6:=c3.out.2.1.2.2.2.2 _ h9;have f0:=edge_any (w:=w3) (B:=K.B) (t:=bk.term) (blocks:=blocks) (tv:=.slice ta bk.term.to.length tc) (h7.out.2.2.1.below xL a4.out.frm.below) h7.out.2.2.2.1 (Qd e4.out.size) c3.out.2.1 h4 h5 (v2 bk.term.a) l2;obtain⟨x,u0⟩:∃x,wK bk.term (v2 bk.term.a)=x:=⟨_,rfl⟩
           rw[u0] at c h9 a6 f0;have w1:=Ja f0;have u:=Ja (Jb c a6)
           have A8:x.args.length<=65536:=by
            rw[a6.2.2];have h1:=a6.1;have hq:x.block=((x.block.toNat:Nat):Int):=Zo;rw[hq];exact(w2.out _ (Ji (rh a6.2.1))).2.2
           clear c h4 h5 h9 a6 f0 u0;generalize v2 bk.term.a=va at *;go_upto_region 31 with(go_at_call 98;go_must (refine w1.out.mono ?_;rintro e w4 ⟨av4,rfl,o0,C5,k5⟩;obtain⟨ea,ec,rfl,_,_⟩:=o0.form))
           have c2:=(a4.out.keep k5).alloc (U #[I x.block,.slice ea x.args.length ec] 93);have i0:=zI (W:=w4) (o:=U #[I x.block,.slice ea x.args.length ec] 93) rfl;have u8:zY (w4.alloc (U #[I x.block,.slice ea x.args.length ec] 93)) K.B (.slice ea x.args.length ec) x.args:=o0.below zO ((k5.mono (Qd e4.out.size)).alloc (by have:=e4.out.size;have:=k5.size;omega) _);have x6:w4.heap.size<(w4.alloc (U #[I x.block,.slice ea x.args.length ec] 93)).heap.size:=by simp
           generalize z3:w4.alloc (U #[I x.block,.slice ea x.args.length ec] 93)=W5 at *;generalize w4.heap.size=b18 at *;have w9:=K0 i0;have A6:=K1 i0;have c4:=Ja c2;have A2:=Ja u8;clear z3 c2 u8 i0 k5 o0 q2 q3 q4 lk t4 t5 w1;go_wp2
           go_loopw [2,111] (fun rv kv wx=>∃k:Nat,k<=x.args.length/\kv=I k/\Hid (wx.ownsRow W5.heap.size 22 1 rv k ((uT v2 x.args k).map vL)/\Q W5 wx)) (fun _ kv _=>x.args.length-(intOf kv).toNat)
           case atStart=>exact⟨0,Jt _,rfl,Jv _ _ _ _,Below.refl _ _⟩
           case round=>
            obtain⟨k6,C2,rfl,b7⟩:=hrel;obtain⟨ra,rc,rfl⟩:=zG b7.out.1;have c1:=c4.out.keep b7.out.2
            by_cases e7:k6<x.args.length
            ·skip
             have t8:(k6:Int)<x.args.length:=Zo;have s6:=Ja e7;obtain⟨y,hy⟩:∃y,x.args[k6]? =some y:=⟨_,Jd e7⟩
             obtain⟨b6,o6,rfl,z1,p0,x3⟩:=A2.out.get hy;rw[Nk] at p0;have C4:K.B<W5.heap.size:=by obtain⟨ov5,z7⟩:=c4.out.mach;exact z7.size
             have cy:=(b7.out.2.cell (p:=⟨b6,o6+k6,none⟩) (by show b6<W5.heap.size;omega)).trans p0;have ly:=c1.map.look x3;have B8:=c1.map.2 y;have y0:=Ja (qH (v:=v2) hy);have B2:=pA (v:=v2) (show k6<=x.args.length by omega);obtain⟨ii,y5,x2,x1,x0⟩:=info_parts Try.info_u16;have A7:=b7.out.2.size;clear hy p0 e7 c1 z1;generalize v2 y=vy at *;go_wp2_with (at_builtin;go_must (refine wpList_append_lies _ rfl (.tmp 115) (.tmp 119) 29 rfl W5.heap.size 22 ii (M 0) 1 2 Try.underlying29 y5 x2 x1 x0 rfl Zd _ k6 ((uT v2 x.args k6).map vL) rfl (b7.out.1.alloc _) ⟨wr.heap.size,0,none⟩ 1 1 [M vy] rfl rfl (Oi (cs:=#[M vy]) (zI Zs)) (by simp[Value.oneCell']) Zd (by unfold maxLen;omega) Zo Zt (wr.heap.size+1) Zs ?_;intro gq B3 w6 j2 f9 B1 e7;have v9:=Ja (Jb j2 f9);clear j2 f9))
             go_roundw
             case rel=>
              refine⟨k6+1,s6.out,by go_num,?_,(b7.out.2.alloc Zo _).grown v9.out.2 Zt (fun k hk=>(b7.out.1.lt k hk).1)⟩;rw[y0.out,Js];exact v9.out.1
             case measure=>have:=s6.out;simp[intOf];omega
            ·skip
             obtain rfl:k6=x.args.length:=by omega
             have t8:¬(x.args.length:Int)<x.args.length:=Zo;have h8:=b7.out.1;rw[r8] at h8;have t6:=(b7.out.2.cell (p:=⟨b18,0,none⟩) x6).trans w9;have l7:=ms h8 Zs (fun y hy=>by obtain⟨z,_,rfl⟩:=Nu.1 hy;exact c1.map.2 z);obtain⟨q,hq⟩:∃q:Nat,x.block=(q:Int):=⟨x.block.toNat,by have:=u.out.2.1;omega⟩
             rw[hq] at t6;have HH:=u.out;rw[hq] at HH
             have t7:Hid (jw K w wr r n blocks w.heap.size q (.slice ra x.args.length rc) RES):=by
              refine⟨x.args.map v2,v2,m2.pay,vn2,c1,l7,?_,?_,?_,?_,HH.1⟩
              ·rw[Nr];exact HH.2.2.2
              ·have:=HH.2.2.1;rw[Ni] at this;exact this
              ·have h1:=e5.out.2.1;have h2:=s9.out.2.2;have h3:=a3.out;simp only[Mach.pay];omega
              ·exact bd_next s9.out.2.1 (by have:=a3.out;show(m2.fuel-1).toNat+1=m2.fuel.toNat;omega)
             clear h8 l7 c1 HH hq;go_wp2
             go_roundg n
             case measure=>omega
             case rel=>exact⟨q,ra,x.args.length,rc,rfl,rfl,t7⟩
theorem mi (K:MK)(hok:OkProg K.E.p):∀r,r<=100->pq K r
 |0,_=>iA K
 |r+1,h=>jC K hok r h (mi K hok r Zo)
theorem tu{B:Nat}{V:PV}{p:IProg}(hp:ProgIn w B V p)(hB:B<=w.heap.size)(hs:∀f∈p.funcs,vZ f):
 A 16 #[yH V p] w (m9 w (vC p)):=by
 have d:∀W,Q w W->A 26 #[yH V p] W (m9 W (sR p)):=fun W hb=>kB ((hp.below (hb.mono hB)).mono (Jn hB hb.size))
 have k:∀W n,Q w W->sR p=0->n<p.funcs.length->A 27 #[yH V p,I n] W (ym W (yi p n)):=fun W n hb h0 hn=>by
  obtain⟨_,h1,h2,_⟩:=se h0;exact nA (hp.below (hb.mono hB)) (Jn hB hb.size) h1 h2 hs hn
 obtain⟨Vf,Va,Vd,Vb⟩:=V;obtain⟨f1,f2,e1,_,_⟩:=hp.funcs.form;obtain⟨a1,a2,e2,_,_⟩:=hp.args.form;obtain⟨d1,d2,e3,_,_⟩:=hp.data.form;obtain⟨b1,b2,e4,_,_⟩:=hp.banks.form;simp only at e1 e2 e3 e4;subst e1 e2 e3 e4;have b6:p.funcs.length<=9223372036854775807:=Zo;unfold yH at d k ⊢;simp only at d k ⊢;have HH:=Ja d;have HF:=Ja k;have b0:Q w (w.alloc (U (Z p f1 f2 a1 a2 d1 d2 b1 b2) 44)):=(Below.refl _ _).alloc (Je _) _;have c:=zI (W:=w) (o:=U (Z p f1 f2 a1 a2 d1 d2 b1 b2) 44) rfl;obtain⟨res,t⟩:∃x,vC p=x:=⟨_,rfl⟩
 rw[t];have u:=Ja t;obtain⟨eh,a4⟩:∃x,sR p=x:=⟨_,rfl⟩
 rw[a4] at HH;have m:=Ja a4;clear hp hB hs d k t a4;go_enter Try.func16,Try.ntmps16;go_upto_region 1 with fail;generalize b5:w.alloc (U (Z p f1 f2 a1 a2 d1 d2 b1 b2) 44)=W0 at *;have y0:=K0 c;have y1:=K1 c;have y2:=K2 c;have y3:=K3 c;have y4:=K4 c;have y5:=K5 c;have H0:=Ja (show Q w W0/\T W0 w.heap.size (Z p f1 f2 a1 a2 d1 d2 b1 b2) 44 from⟨b0,c⟩);clear b0 c b5;go_upto_region 2 with(first|(go_at_call 26;go_must (refine(HH.out _ H0.out.1).mono ?_;rintro e w1 ⟨rfl,a5⟩))|go_in)
 have j:=Ja (show Q w w1/\T w1 w.heap.size (Z p f1 f2 a1 a2 d1 d2 b1 b2) 44 from⟨H0.out.1.trans (a5.mono H0.out.1.size),zH a5 H0.out.2 (lt_of_block H0.out.2)⟩);clear a5 y0 y1 y2 y3 y4 y5
 by_cases hz:eh=0
 ·subst hz;have y0:=K0 j.out.2;go_wp2
  go_loopw [13] (fun iv wx=>∃i:Nat,i<=p.funcs.length/\iv=I i/\Hid (Q w1 wx/\∀n,n<i->yi p n=true)) (fun iv _=>p.funcs.length-(intOf iv).toNat)
  case atStart=>exact⟨0,Jt _,rfl,Ja ⟨Below.refl _ _,fun n hn=>by omega⟩⟩
  case round=>
   obtain⟨i,hi,rfl,l⟩:=hrel
   by_cases y:i<p.funcs.length
   ·have b3:(i:Int)<p.funcs.length:=Zo;have a3:=Ja y;have g:=zH l.out.1 j.out.2 (lt_of_block j.out.2);have z0:=K0 g;have z1:=K1 g;have z2:=K2 g;have z3:=K3 g;have z4:=K4 g;have z5:=K5 g;have a9:=Ja (HF.out wr i (j.out.1.trans (l.out.1.mono j.out.1.size)) m.out y);obtain⟨q,hq⟩:∃q,yi p i=q:=⟨_,rfl⟩
    rw[hq] at a9;have HQ:=Ja hq;clear hq g y y0
    cases q with
    |false=>
     go_wp2_with (first|(go_at_call 27;go_must (refine a9.out.mono ?_;rintro e w2 ⟨rfl,a0⟩))|go_in)
     go_ret
     have hr:res=51:=by
      rw[<-u.out];unfold vC;rw[if_neg (by rw[m.out];simp),if_neg];intro b4;have:=Oe.1 b4 i (Ol.2 a3.out);rw[HQ.out] at this;cases this
     exact⟨zh hr.symm,j.out.1.trans ((l.out.1.trans (a0.mono l.out.1.size)).mono j.out.1.size)⟩
    |true=>
     go_wp2_with (first|(go_at_call 27;go_must (refine a9.out.mono ?_;rintro e w2 ⟨rfl,a0⟩))|go_in)
     have a6:=Ja (show Q w1 w2/\∀n,n<i+1->yi p n=true from⟨l.out.1.trans (a0.mono l.out.1.size),fun n hn=>by
      rcases Nat.lt_succ_iff_lt_or_eq.1 hn with h|rfl
      ·exact l.out.2 n h
      ·exact HQ.out⟩)
     clear a0;go_roundw
     case rel=>first|exact⟨i+1,a3.out,by go_num,a6⟩|((repeat apply Exists.intro);exact⟨⟨i+1,a3.out,by go_num,a6⟩,rfl⟩)
     case measure=>have:=a3.out;simp[intOf];omega
   ·obtain rfl:i=p.funcs.length:=by omega
    have b3:¬(p.funcs.length:Int)<p.funcs.length:=Zo
    have hr:=Ja (show res=0 by
     rw[<-u.out];unfold vC;rw[if_neg (by rw[m.out];simp),if_pos]
     exact Oe.2 fun n hn=>l.out.2 n (Ol.1 hn))
    clear y y0;go_wp2;go_ret;exact⟨zh hr.out.symm,j.out.1.trans (l.out.1.mono j.out.1.size)⟩
 ·have t1:(eh !=0)=true:=by rw[bne_iff_ne];exact hz
  have hr:=Ja (show res=eh by
   rw[<-u.out];unfold vC
   rw[if_pos (by rw[m.out];exact hz),m.out])
  clear hz;go_wp2;go_ret;exact⟨zh hr.out.symm,j.out.1⟩
inductive Evn where
 |op (o:IOp)
 |arg (v x:Int)
def Evn.out:Evn->Option Int
 |.op o=>if 0<=o.res then some o.res else none
 |.arg v _=>some v
def Evn.ins:Evn->List Int
 |.op o=>if 0<=o.res then(if(zi o.code).a=true then [o.a] else [])++(if(zi o.code).b=true then [o.b] else []) else []
 |.arg _ x=> [x]
def evS (p:IProg)(k:Nat)(q:Slv×Bool):Evn->Slv×Bool
 |.op o=>opS p k q o
 |.arg v x=>af3 k q (v,x)
def evB (bl:List IBlk)(b:IBlk):List Evn:=b.ops.map .op++b.term.to.flatMap fun e=>((xz bl e.block).params.zip e.args).map fun x=> .arg x.1 x.2
theorem evB_fold (p:IProg)(bl:List IBlk)(k:Nat)(b:IBlk)(q:Slv×Bool):dl p bl k q b=(evB bl b).foldl (evS p k) q:=by
 unfold evB dl;rw[List.foldl_append,List.foldl_map,List.foldl_flatMap]
 congr 1
 funext q e
 unfold afR;rw[List.foldl_map];rfl
def evL (bl:List IBlk)(order:List Nat):List Evn:=order.flatMap fun i:Nat=>evB bl (xz bl (i:Int))
theorem aeK{p:IProg}{n:Nat}{bl:List IBlk}{c:List Nat}(h:∀i∈c,tn n bl (xz bl i))(s:Slv):vu p bl c k s=(evL bl c).foldl (evS p k) (s,false):=by
 unfold vu evL;rw[List.foldl_flatMap];generalize (s,false)=q
 induction c generalizing q with
 |nil=>rfl
 |cons i l ih=>
  rw[Qk,Qk,aeG (h i (.head _)),evB_fold];exact ih (fun j hj=>h j (.tail _ hj)) _
def afI (p:IProg)(t:Slv)(o:IOp):Option Rg:=
 if o.code=1 then some (qm o.n)
 else if o.code=2 then some (qm (((p.data.getD o.a.toNat ⟨0,0,0⟩).addr+o.n)%65536))
 else if(zi o.code).b=true then some (np o.code (t.get o.a) (t.get o.b))
 else if(zi o.code).a=true then some (np o.code (t.get o.a) zf)
 else none
def opQ (p:IProg)(t:Slv)(o:IOp):Slv:=
 if 0<=o.res then(match afI p t o with|some a=>⟨t.r.set o.res.toNat a,t.kn⟩|none=>t) else t
def afY (t:Slv)(v x:Int):Slv:=t.put v (if t.knw v=true then xr (t.get x) (t.get v) else t.get x)
def evQ (p:IProg)(t:Slv):Evn->Slv
 |.op o=>opQ p t o
 |.arg v x=>afY t v x
def EvOk (n:Nat):Evn->Prop
 |.op o=>ae1 n o/\o.code<=27/\(0<=o.res->∀x∈Evn.ins (.op o),0<=x/\x.toNat<n)
 |.arg v x=>(0<=v/\v.toNat<n)/\0<=x/\x.toNat<n
def afv (Q:Int->Prop):(Int->Prop)->List Evn->Prop
 |_,[]=>True
 |kn,ev::es=>(∀x∈ev.ins,kn x/\∀e∈ev::es,e.out≠some x)/\(match ev with|.op o=>0<=o.res->¬kn o.res/\¬Q o.res/\∀e∈es,e.out≠some o.res|.arg v _=>Q v)/\afv Q (fun x=>kn x∨ev.out=some x) es
theorem afv.imp {Q:Int->Prop}:∀ {es:List Evn} {k k':Int->Prop},(∀x,k x↔k' x)->afv Q k es->afv Q k' es
 | [],_,_,_,_=>trivial
 |ev::es,k,k',h,⟨h1,h2,h3⟩=>by
  refine⟨fun x hx=>⟨(h x).1 (h1 x hx).1,(h1 x hx).2⟩,?_,afv.imp (fun x=>by rw[h x]) h3⟩
  cases ev with
  |op o=>exact fun h0=>⟨fun hk=>(h2 h0).1 ((h _).2 hk),(h2 h0).2⟩
  |arg v x=>exact h2
def FixEv (p:IProg)(s:Slv):Evn->Prop
 |.op o=>FixOp p o s
 |.arg v x=>afF (v,x) s
theorem vc {n:Nat}{s:Slv}(hs:OkS n s){v:Int}(hv:v.toNat<n)(a:Rg):(s.put v a).get v=a/\(s.put v a).knw v=true:=⟨(m7 hs hv a).2,(m7 hs hv a).1⟩
theorem n8{s:Slv}{v:Int}(h:v.toNat≠u.toNat)(a:Rg):(s.put v a).get u=s.get u/\(s.put v a).knw u=s.knw u:=by
 unfold Slv.get Slv.knw Slv.put;simp only[Jj];rw[Ns h,Ns h];exact⟨rfl,rfl⟩
theorem j3{n:Nat}{s:Slv}(hs:OkS n s)(hk:k<=4){v:Int}(hv:v.toNat<n)(a:Rg):
 ((setF k s v a).1.get v=if s.knw v=true then xr a (s.get v) else a)/\(setF k s v a).1.knw v=true/\∀u:Int,v.toNat≠u.toNat->(setF k s v a).1.get u=s.get u/\(setF k s v a).1.knw u=s.knw u:=by
 have f:∀b,afW k b=b:=fun b=>if_neg Zo
 unfold setF
 by_cases c:s.knw v=true
 ·rw[if_pos c]
  by_cases d:tx (xr a (s.get v)) (s.get v)=true
  ·rw[if_pos d,if_pos c];exact⟨(p6 d).symm,c,fun u _=>⟨rfl,rfl⟩⟩
  ·rw[if_neg d,if_pos c,f];exact⟨(vc hs hv _).1,(vc hs hv _).2,fun u hu=>n8 hu _⟩
 ·rw[if_neg c,if_neg c,f];exact⟨(vc hs hv _).1,(vc hs hv _).2,fun u hu=>n8 hu _⟩
theorem app_un {c:Int}(j:3<=c)(hb:(zi c).b=false)(a b b':Rg):gr c a b=gr c a b':=by
 by_cases h:c=3∨c=4
 ·unfold gr;rw[rule_un h a b b']
  cases sl c a b' with
  |none=>rfl
  |some r=>
   simp only;have e:(c<=17/\zx a=true/\((c=3∨c=4)∨zx b=true))↔(c<=17/\zx a=true/\((c=3∨c=4)∨zx b'=true)):=⟨fun k=>⟨k.1,k.2.1,.inl h⟩,fun k=>⟨k.1,k.2.1,.inl h⟩⟩
   by_cases d:c<=17/\zx a=true/\((c=3∨c=4)∨zx b=true)
   ·rw[if_pos d,if_pos (e.1 d),if_neg Zo,if_neg Zo,afp h a.lo b.lo b'.lo]
   ·rw[if_neg d,if_neg (fun k=>d (e.2 k))]
 ·have i:¬(5<=c/\c<=17):=fun k=>by
   unfold zi at hb;rw[if_neg Zo,if_neg Zo,if_pos k] at hb;cases hb
  have hr:∀x,sl c a x=if c=19 then some ⟨0,255⟩ else if c=23 then some ⟨0,255⟩ else none:=fun x=>by
   unfold sl
   iterate 15 rw[if_neg Zo]
  unfold gr;rw[hr b,hr b']
  by_cases g:c=19
  ·rw[if_pos g];simp only;rw[if_neg Zo,if_neg Zo]
  ·rw[if_neg g]
   by_cases f:c=23
   ·rw[if_pos f];simp only;rw[if_neg Zo,if_neg Zo]
   ·rw[if_neg f]
theorem ij {c:Int}(g:3<=c/\c<=27)(d:(zi c).a=false)(a b:Rg):gr c a b=zf:=by
 have h:c=24∨c=26∨c=27:=by
  have f:c=3∨c=4∨c=18∨c=19∨(5<=c/\c<=17)∨c=20∨c=21∨c=22∨c=23∨c=24∨c=25∨c=26∨c=27:=Zo;rcases f with rfl|rfl|rfl|rfl|h|rfl|rfl|rfl|rfl|h|rfl|h|h
  ·cases d
  ·cases d
  ·cases d
  ·cases d
  ·unfold zi at d;rw[if_neg Zo,if_neg Zo,if_pos h] at d;cases d
  ·cases d
  ·cases d
  ·cases d
  ·cases d
  ·exact .inl h
  ·cases d
  ·exact .inr (.inl h)
  ·exact .inr (.inr h)
 rcases h with rfl|rfl|rfl<;>rfl
structure Sim (n:Nat) (Q:Int->Prop) (s t:Slv):Prop where
 oks:OkS n s
 okt:OkS n t
 eq:∀v:Int,0<=v->s.knw v=true->s.get v=t.get v
 full:∀v:Int,0<=v->v.toNat<n->s.knw v=false->t.get v=zf
 kn:∀v:Int,0<=v->Q v->t.knw v=s.knw v
theorem val_eq{p:IProg}{n:Nat}{Q:Int->Prop}{s:Slv}(h:Sim n Q s t)(i:0<=o.res)(j:1<=o.code/\o.code<=27)(hk:∀x∈Evn.ins (.op o),0<=x/\s.knw x=true):(afI p t o).getD zf=rk p s o:=by
 unfold afI rk
 by_cases g:o.code=1
 ·rw[if_pos g,if_pos g];rfl
 rw[if_neg g,if_neg g]
 by_cases f:o.code=2
 ·rw[if_pos f,if_pos f];rfl
 rw[if_neg f,if_neg f];have c:3<=o.code/\o.code<=27:=Zo;have hi:Evn.ins (.op o)=(if(zi o.code).a=true then [o.a] else [])++(if(zi o.code).b=true then [o.b] else []):=if_pos i
 by_cases hb:(zi o.code).b=true
 ·have d:(zi o.code).a=true:=by
   have:=rJ o.code;rcases this with⟨_,e⟩|⟨_,e⟩|⟨_,e⟩|⟨_,e⟩|⟨_,e⟩|⟨_,e⟩|⟨_,e⟩|⟨_,e⟩
   all_goals first|(rw[e] at hb;cases hb;done)|(rw[e])
  have ka:=hk o.a (by rw[hi,if_pos d];exact Jz _ (.head _));have kb:=hk o.b (by rw[hi,if_pos hb];exact Qf _ (.head _));rw[if_pos hb]
  show np o.code (t.get o.a) (t.get o.b)=_
  rw[m6 c (h.okt.get _) (h.okt.get _),h.eq _ ka.1 ka.2,h.eq _ kb.1 kb.2]
 ·rw[if_neg hb]
  by_cases d:(zi o.code).a=true
  ·have ka:=hk o.a (by rw[hi,if_pos d];exact Jz _ (.head _));rw[if_pos d]
   show np o.code (t.get o.a) zf=_
   rw[m6 c (h.okt.get _) xf,h.eq _ ka.1 ka.2];exact app_un c.1 (by simpa using hb) _ _ _
  ·rw[if_neg d];exact(ij c (by simpa using d) _ _).symm
theorem yv{v:Int}(hv:0<=v)(c:0<=u)(h:v≠u):v.toNat≠u.toNat:=by omega
theorem OkS.setR{n:Nat}(h:OkS n t)(v:Nat){a:Rg}(d:a.ok):OkS n ⟨t.r.set v a,t.kn⟩:=
 ⟨by show(t.r.set v a).length=n;rw[Nd,h.rl],h.kl,fun x c=>by
   rcases Qe c with c|rfl
   ·exact h.ok x c
   ·exact d⟩
theorem afM{n:Nat}(h:OkS n t){v:Int}(hv:v.toNat<n)(a:Rg):(⟨t.r.set v.toNat a,t.kn⟩:Slv).get v=a:=by
 unfold Slv.get;simp only[Jj];rw[Nn (by rw[h.rl];exact hv)];rfl
theorem getR_ne{v:Int}(h:v.toNat≠u.toNat)(a:Rg):(⟨t.r.set v.toNat a,t.kn⟩:Slv).get u=t.get u:=by
 unfold Slv.get;simp only[Jj];rw[Ns h]
structure Pass (p:IProg) (n:Nat) (Q:Int->Prop) (es:List Evn) (s s' t':Slv):Prop where
 sim:Sim n Q s' t'
 fix:∀e∈es,FixEv p s' e
 grow:∀v:Int,0<=v->s.knw v=true->s'.knw v=true/\(s.get v).sub (s'.get v)
 stay:∀v:Int,0<=v->(∀e∈es,e.out≠some v)->s'.get v=s.get v/\s'.knw v=s.knw v
theorem ae9 (a b:Rg):a.sub (xr a b):=⟨Nat.min_le_left _ _,Nat.le_max_left _ _⟩
theorem ae8 (a b:Rg):b.sub (xr a b):=⟨Nat.min_le_right _ _,Nat.le_max_right _ _⟩
theorem Rg.sub.refl (a:Rg):a.sub a:=⟨Je _,Je _⟩
theorem Rg.sub.trans {a b c:Rg}(h:a.sub b)(k:b.sub c):a.sub c:=⟨Jn k.1 h.1,Jn h.2 k.2⟩
theorem mb {p:IProg}{n k:Nat}(a0:k<=4){Q:Int->Prop}:∀(es:List Evn) (s t:Slv) (c:Bool),(∀e∈es,EvOk n e)->afv Q (fun x=>0<=x/\s.knw x=true) es->Sim n Q s t->
 Pass p n Q es s (es.foldl (evS p k) (s,c)).1 (es.foldl (evQ p) t)
 | [],s,t,c,_,_,hS=>⟨hS,(fun e he=>by cases he),fun v _ hv=>⟨hv,Rg.sub.refl _⟩,fun v _ _=>⟨rfl,rfl⟩⟩
 |.op o::es,s,t,c,hE,hG,hS=>by
  obtain⟨g1,g2,g3⟩:=hG;have ho:=hE _ (.head _)
  by_cases f:0<=o.res
  ·obtain⟨h1,h2,h3⟩:=g2 f;obtain⟨hv,c2,_⟩:=ho.1 f
   have b1:s.knw o.res=false:=by
    cases e:s.knw o.res with
    |false=>rfl
    |true=>exact absurd ⟨f,e⟩ h1
   have g:=val_eq (p:=p) hS f ⟨c2,ho.2.1⟩ fun x hx=>(g1 x hx).1
   obtain⟨e1,e2,e3⟩:=j3 (k:=k) hS.oks a0 hv (rk p s o);rw[b1,if_neg Zd] at e1;have a9:=aeQ (p:=p) hS.oks ho.1 f
   have j:evS p k (s,c) (.op o)=((setF k s o.res (rk p s o)).1,c||(setF k s o.res (rk p s o)).2):=by
    show opS p k (s,c) o=_
    unfold opS;rw[if_pos f];rfl
   obtain⟨s1,i⟩:∃s1,(setF k s o.res (rk p s o)).1=s1:=⟨_,rfl⟩
   rw[i] at e1 e2 e3 j;have w:OkS n s1:=by rw[<-i];exact hS.oks.set _ a9
   have a5:∀v:Int,0<=v->(opQ p t o).get v=(if v=o.res then rk p s o else t.get v)/\(opQ p t o).knw v=t.knw v:=fun v d=>by
    unfold opQ;rw[if_pos f]
    cases m:afI p t o with
    |some a=>
     rw[m] at g;have g:a=rk p s o:=g;refine⟨?_,rfl⟩
     by_cases ev:v=o.res
     ·rw[if_pos ev,ev];simp only;rw[afM hS.okt hv,g]
     ·rw[if_neg ev];exact getR_ne (yv f d (Ne.symm ev)) _
    |none=>
     rw[m] at g;have g:zf=rk p s o:=g;refine⟨?_,rfl⟩
     by_cases ev:v=o.res
     ·rw[if_pos ev,ev];simp only;rw[hS.full _ f hv b1,g]
     ·rw[if_neg ev]
   have a2:OkS n (opQ p t o):=by
    unfold opQ;rw[if_pos f]
    cases m:afI p t o with
    |some a=>
     rw[m] at g;have g:a=rk p s o:=g
     exact hS.okt.setR _ (by rw[g];exact a9)
    |none=>exact hS.okt
   have b2:Sim n Q s1 (opQ p t o):=⟨w,a2,fun v d hk=>by
    rw[(a5 v d).1]
    by_cases ev:v=o.res
    ·rw[if_pos ev,ev,e1]
    ·have:=e3 v (yv f d (Ne.symm ev));rw[if_neg ev,this.1]
     exact hS.eq v d (by rw[<-this.2];exact hk),
    fun v d y hk=>by
     rw[(a5 v d).1]
     by_cases ev:v=o.res
     ·rw[ev,e2] at hk;cases hk
     ·have:=e3 v (yv f d (Ne.symm ev));rw[if_neg ev]
      exact hS.full v d y (by rw[<-this.2];exact hk),
    fun v d m=>by
     have ev:v≠o.res:=fun e=>h2 (by rw[<-e];exact m)
     have:=e3 v (yv f d (Ne.symm ev));rw[(a5 v d).2,this.2]
     exact hS.kn v d m⟩
   have a1:afv Q (fun x=>0<=x/\s1.knw x=true) es:=g3.imp fun x=>by
    show((0<=x/\s.knw x=true)∨(if 0<=o.res then some o.res else none)=some x)↔_
    rw[if_pos f]
    by_cases ev:x=o.res
    ·rw[ev];exact⟨fun _=>⟨f,e2⟩,fun _=> .inr rfl⟩
    ·constructor
     ·rintro(⟨a,b⟩|e)
      ·exact⟨a,by rw[(e3 x (yv f a (Ne.symm ev))).2];exact b⟩
      ·exact absurd (Nt e).symm ev
     ·rintro⟨a,b⟩;exact .inl ⟨a,by rw[<-(e3 x (yv f a (Ne.symm ev))).2];exact b⟩
   have ih:=mb (p:=p) a0 es s1 (opQ p t o) (c||(setF k s o.res (rk p s o)).2) (fun e he=>hE e (.tail _ he)) a1 b2;rw[Qk,Qk,j]
   show Pass p n Q (.op o::es) s (es.foldl (evS p k) (s1,c||(setF k s o.res (rk p s o)).2)).1 (es.foldl (evQ p) (opQ p t o))
   generalize (es.foldl (evS p k) (s1,c||(setF k s o.res (rk p s o)).2)).1=s' at ih ⊢;have b0:=ih.stay o.res f h3;refine⟨ih.sim,fun e he=>?_,fun v d hk=>?_,fun v d hn=>?_⟩
   ·rcases Jq.1 he with rfl|he
    ·intro _;refine⟨by rw[b0.2];exact e2,?_⟩;rw[b0.1,e1]
     have b5:∀x∈Evn.ins (.op o),s'.get x=s.get x:=fun x hx=>by
      obtain⟨⟨q1,q2⟩,q3⟩:=g1 x hx;have l:x≠o.res:=fun e=>q3 (.op o) (.head _) (by show(if 0<=o.res then some o.res else none)=some x;rw[if_pos f,e])
      rw[(ih.stay x q1 fun e he=>q3 e (.tail _ he)).1];exact(e3 x (yv f q1 (Ne.symm l))).1
     have hi:Evn.ins (.op o)=(if(zi o.code).a=true then [o.a] else [])++(if(zi o.code).b=true then [o.b] else []):=if_pos f
     have:rk p s' o=rk p s o:=by
      unfold rk
      by_cases k1:o.code=1
      ·rw[if_pos k1,if_pos k1]
      rw[if_neg k1,if_neg k1]
      by_cases k2:o.code=2
      ·rw[if_pos k2,if_pos k2]
      rw[if_neg k2,if_neg k2];have c3:=ho.2.1
      by_cases ha:(zi o.code).a=true
      ·rw[b5 o.a (by rw[hi,if_pos ha];exact Jz _ (.head _))]
       by_cases hb:(zi o.code).b=true
       ·rw[b5 o.b (by rw[hi,if_pos hb];exact Qf _ (.head _))]
       ·exact app_un Zo (by simpa using hb) _ _ _
      ·rw[ij Zo (by simpa using ha),ij Zo (by simpa using ha)]
     rw[this];exact Rg.sub.refl _
    ·exact ih.fix e he
   ·have l:v≠o.res:=fun e=>by rw[e,b1] at hk;cases hk
    have q:=e3 v (yv f d (Ne.symm l));have:=ih.grow v d (by rw[q.2];exact hk);rw[q.1] at this;exact this
   ·have l:v≠o.res:=fun e=>hn (.op o) (.head _) (by show(if 0<=o.res then some o.res else none)=some v;rw[if_pos f,e])
    have q:=e3 v (yv f d (Ne.symm l));have:=ih.stay v d fun e he=>hn e (.tail _ he)
    rw[q.1,q.2] at this;exact this
  ·have j:evS p k (s,c) (.op o)=(s,c):=if_neg f;have b9:evQ p t (.op o)=t:=if_neg f
   have a1:afv Q (fun x=>0<=x/\s.knw x=true) es:=g3.imp fun x=>by
    show((0<=x/\s.knw x=true)∨(if 0<=o.res then some o.res else none)=some x)↔_
    rw[if_neg f];exact⟨fun h=>(by rcases h with h|h;exact h;cases h),.inl⟩
   have ih:=mb (p:=p) a0 es s t c (fun e he=>hE e (.tail _ he)) a1 hS;rw[Qk,Qk,j,b9];refine⟨ih.sim,fun e he=>?_,ih.grow,fun v d hn=>ih.stay v d fun e he=>hn e (.tail _ he)⟩;rcases Jq.1 he with rfl|he
   ·exact fun h=>absurd h f
   ·exact ih.fix e he
 |.arg v x::es,s,t,c,hE,hG,hS=>by
  obtain⟨g1,g2,g3⟩:=hG;obtain⟨⟨d,y⟩,a4,c4⟩:=hE _ (.head _);obtain⟨⟨_,b7⟩,b3⟩:=g1 x (.head _);have b6:x≠v:=fun e=>b3 (.arg v x) (.head _) (by rw[e];rfl)
  obtain⟨e1,e2,e3⟩:=j3 (k:=k) hS.oks a0 y (s.get x);have j:evS p k (s,c) (.arg v x)=((setF k s v (s.get x)).1,c||(setF k s v (s.get x)).2):=rfl;obtain⟨s1,i⟩:∃s1,(setF k s v (s.get x)).1=s1:=⟨_,rfl⟩
  rw[i] at e1 e2 e3 j;have w:OkS n s1:=by rw[<-i];exact hS.oks.set _ (hS.oks.get _)
  have c1:=hS.kn v d g2;have b4:=hS.eq x a4 b7
  have b8:(afY t v x).get v=s1.get v:=by
   unfold afY;rw[(vc hS.okt y _).1,e1,c1]
   by_cases h:s.knw v=true
   ·rw[if_pos h,if_pos h,b4,hS.eq v d h]
   ·rw[if_neg h,if_neg h,b4]
  have a6:∀u:Int,0<=u->u≠v->(afY t v x).get u=t.get u/\(afY t v x).knw u=t.knw u:=fun u hu l=>n8 (yv d hu (Ne.symm l)) _
  have a2:OkS n (afY t v x):=hS.okt.put _ (by split;exact kr (hS.okt.get _) (hS.okt.get _);exact hS.okt.get _)
  have b2:Sim n Q s1 (afY t v x):=⟨w,a2,fun u hu hk=>by
   by_cases ev:u=v
   ·rw[ev,b8]
   ·have q:=e3 u (yv d hu (Ne.symm ev));rw[(a6 u hu ev).1,q.1]
    exact hS.eq u hu (by rw[<-q.2];exact hk),
   fun u hu hun hk=>by
    by_cases ev:u=v
    ·rw[ev,e2] at hk;cases hk
    ·have q:=e3 u (yv d hu (Ne.symm ev));rw[(a6 u hu ev).1]
     exact hS.full u hu hun (by rw[<-q.2];exact hk),
   fun u hu m=>by
    by_cases ev:u=v
    ·rw[ev,e2];exact(vc hS.okt y _).2
    ·have q:=e3 u (yv d hu (Ne.symm ev));rw[(a6 u hu ev).2,q.2]
     exact hS.kn u hu m⟩
  have a1:afv Q (fun x=>0<=x/\s1.knw x=true) es:=g3.imp fun u=>by
   show((0<=u/\s.knw u=true)∨some v=some u)↔_
   by_cases ev:u=v
   ·rw[ev];exact⟨fun _=>⟨d,e2⟩,fun _=> .inr rfl⟩
   ·constructor
    ·rintro(⟨a,b⟩|e)
     ·exact⟨a,by rw[(e3 u (yv d a (Ne.symm ev))).2];exact b⟩
     ·exact absurd (Nt e).symm ev
    ·rintro⟨a,b⟩;exact .inl ⟨a,by rw[<-(e3 u (yv d a (Ne.symm ev))).2];exact b⟩
  have ih:=mb (p:=p) a0 es s1 (afY t v x) (c||(setF k s v (s.get x)).2) (fun e he=>hE e (.tail _ he)) a1 b2;rw[Qk,Qk,j]
  show Pass p n Q (.arg v x::es) s (es.foldl (evS p k) (s1,c||(setF k s v (s.get x)).2)).1 (es.foldl (evQ p) (afY t v x))
  generalize (es.foldl (evS p k) (s1,c||(setF k s v (s.get x)).2)).1=s' at ih ⊢;have a3:=ih.grow v d e2
  have c0:(s.get x).sub (s1.get v):=by
   rw[e1]
   split
   ·exact ae9 _ _
   ·exact Rg.sub.refl _
  refine⟨ih.sim,fun e he=>?_,fun u hu hk=>?_,fun u hu hn=>?_⟩
  ·rcases Jq.1 he with rfl|he
   ·refine⟨a3.1,?_⟩;have q:=ih.stay x a4 fun e he=>b3 e (.tail _ he)
    show(s'.get x).sub (s'.get v)
    rw[q.1,(e3 x (yv d a4 (Ne.symm b6))).1];exact c0.trans a3.2
   ·exact ih.fix e he
  ·by_cases ev:u=v
   ·rw[ev] at hk ⊢;refine⟨a3.1,Rg.sub.trans ?_ a3.2⟩;rw[e1,if_pos hk];exact ae8 _ _
   ·have q:=e3 u (yv d hu (Ne.symm ev));have:=ih.grow u hu (by rw[q.2];exact hk);rw[q.1] at this;exact this
  ·have ev:u≠v:=fun e=>hn (.arg v x) (.head _) (by rw[e];rfl)
   have q:=e3 u (yv d hu (Ne.symm ev));have:=ih.stay u hu fun e he=>hn e (.tail _ he)
   rw[q.1,q.2] at this;exact this
theorem hull_in {a g:Rg}(h:a.sub g):tx (xr a g) g=true:=by
 have d:min a.lo g.lo=g.lo:=Nat.min_eq_right h.1;have c:max a.hi g.hi=g.hi:=Nat.max_eq_right h.2;unfold tx xr;simp[d,c]
theorem set_in{s:Slv}{v:Int}{a:Rg}(hk:s.knw v=true)(h:a.sub (s.get v)):setF k s v a=(s,false):=by
 unfold setF;rw[if_pos hk,if_pos (hull_in h)]
theorem gn{p:IProg}:∀(es:List Evn) (s:Slv),(∀e∈es,FixEv p s e)->es.foldl (evS p k) (s,false)=(s,false)
 | [],_,_=>rfl
 |.op o::es,s,h=>by
  have h1:evS p k (s,false) (.op o)=(s,false):=by
   show opS p k (s,false) o=_
   unfold opS
   by_cases c:0<=o.res
   ·have:=h _ (.head _) c;rw[if_pos c];unfold tg;rw[set_in this.1 this.2];rfl
   ·rw[if_neg c]
  rw[Qk,h1]
  exact gn es s fun e he=>h e (.tail _ he)
 |.arg v x::es,s,h=>by
  have h1:evS p k (s,false) (.arg v x)=(s,false):=by
   have:=h _ (.head _)
   show tg k v (s.get x) (s,false)=_
   unfold tg;rw[set_in this.1 this.2];rfl
  rw[Qk,h1];exact gn es s fun e he=>h e (.tail _ he)
end Go.Proofs.Ytoahcpkibpomcaa
