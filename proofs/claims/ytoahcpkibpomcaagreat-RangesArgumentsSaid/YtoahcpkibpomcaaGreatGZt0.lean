/- Part of a proof. -/
import Derived.Test.YtoahcpkibpomcaaGreatGZu1
set_option linter.all false
set_option maxHeartbeats 8000000
set_option maxRecDepth 100000
namespace Go.Proofs.YtoahcpkibpomcaaGreat
variable {w w' w0 w1 w9:World}{ac g i j k o5 p1 vb:Nat}{o:IOp}{K:MK}{m:Mach}{call:gO}{nx x y:Int}{t:Slv}{r':Row}{X rs:List Row}{c u:Value}{ps xs:List Int}{qs:List (IOp×Value)}
theorem jM {p:IProg}(h:vC p=0)(m:∀blocks∈p.funcs,∀b∈blocks,b.params.length<=65536):OkProg p:=by
 obtain⟨h0,l⟩:=rz h;obtain⟨_,w,k,_,hh,j⟩:=se h0
 have t:∀i,0<=p.args.getD i 0/\p.args.getD i 0<=8:=by
  intro i;rw[Jj]
  cases y:p.args[i]? with
  |none=>simp
  |some x=>
   have:=Oe.1 k x (Ji y);unfold tX at this;simp only[Jm,decide_eq_true_eq] at this;exact this
 refine⟨fun blocks hb b hbb=>?_,fun i b bs hi=>?_,fun g=>?_,?_,fun i=>?_,w⟩
 ·obtain⟨n,g⟩:=Ny hb;have u:=(Jh.1 g).1;have hF:=l n u
  match blocks,hbb,g with
  |b0::bs,hbb,g=>
   obtain⟨_,d,hs,_⟩:=tF g hF;obtain⟨k1,k2⟩:=rV _ _ _ _ hs b hbb;exact⟨fun o ho=>ajc (k1 o ho),acV k2,m _ hb b hbb⟩
 ·exact(tF hi (l i (Jh.1 hi).1)).1
 ·have:=hh g;unfold yw at this;simp only[Jm,decide_eq_true_eq,beq_iff_eq] at this;obtain⟨a,b,c⟩:=this;exact⟨a,by omega,c⟩
 ·intro s hs;unfold wB at j;rw[Jm] at j;have:=j.1;unfold mh at this
  simpa using Oe.1 this s hs
 ·have:=t i;omega
open Go.RowKit
theorem fin_at {T:RepF}:∀(l:List (Nat×Nat)) (k:Nat) (a b:Nat×Nat),aeQ T l->l[k]? =some a->l[k+1]? =some b->afv T a b
 | [],k,a,b,_,h,_=>by simp at h
 | [x],0,a,b,_,_,h=>by simp at h
 | [x],k+1,a,b,_,h,_=>by simp at h
 |x::y::l,0,a,b,h,h1,h2=>by
  simp at h1 h2;subst h1 h2
  exact h.1
 |x::y::l,k+1,a,b,h,h1,h2=>fin_at (y::l) k a b h.2 (by simpa using h1) (by simpa using h2)
def akU (w:World)(ra:Option Addr)(R:List Rg):Prop:=R≠ []->∃b,ra=some ⟨b,0,none⟩/\Q w b (R.flatMap pn).toArray 45
theorem akC{V:PV}{p:IProg}(hp:ProgIn w w.heap.size V p){ov jv sv:Value}{out:List (Nat×Nat)}(ho:vM w w.heap.size ov out){ra:Option Addr}{R:List Rg}(hr:akU w ra R){O S:List Int}(hO:zY w w.heap.size jv O)(hS:zY w w.heap.size sv S)
 (k4:p.data.length<=1000000000000) (hb:∀z∈S,z<=100) (b6:aeQ ⟨R,O,S,p.data⟩ out):
 I 24 #[yH V p,ov,.slice ra R.length R.length,jv,sv] w fun e w'=>e=.returned (.bool true)/\Below w.heap.size w w':=by
 obtain⟨oa,oc,rfl,c8,c7⟩:=ho.form;have k2:out.length<=9223372036854775807:=Jn c8 c7;obtain⟨ja,jc,rfl,f8,f7⟩:=hO.form;obtain⟨sa,sc,rfl,f5,f4⟩:=hS.form;obtain⟨Vf,Va,Vd,Vb⟩:=V;obtain⟨da,dc,b7,g4,g3⟩:=hp.data.form;have b7:Vd=.slice da p.data.length dc:=b7;subst b7;unfold yH;obtain⟨X,hX⟩:∃X,w.alloc (G #[Vf,Va,U p.entry,U p.handler,.slice da p.data.length dc,Vb] 29)=X:=⟨_,rfl⟩
 have d8:Below w.heap.size w X:=by rw[<-hX];exact(Below.refl _ _).alloc (Je _) _
 have c5:Q X w.heap.size #[Vf,Va,U p.entry,U p.handler,.slice da p.data.length dc,Vb] 29:=by rw[<-hX];exact zI rfl
 have HX:=Ja (Jb d8 c5);have HI:=Ja (Jb ho (Jb hO (Jb hS (Jb hp.data (Jb hr (Jb b6 hb))))));clear hp ho hO hS hr b6 hb d8 c5 c8 c7 f8 f7 f5 f4 g4 g3;go_enter Tryz.func24,Tryz.ntmps24;go_upto_region 1 with fail
 try rw[hX]
 clear hX;go_wp2
 go_loopw [11] (fun kv wx=>∃k:Nat,k<=out.length-1/\kv=U k/\Hid (Below X.heap.size X wx)) (fun kv _=>out.length-(intOf kv).toNat)
 case atStart=>exact⟨0,Jt _,rfl,Ja (Below.refl _ _)⟩
 case round=>
  obtain⟨k,hk,rfl,l⟩:=hrel;have wk:IntKind.i64.wrap ((k:Int)+1)=(k:Int)+1:=Om _ Zo
  by_cases a6:k+1<out.length
  ·have a0:(k:Int)+1<(out.length:Int):=Zo;have dk:decide ((k:Int)+1<(out.length:Int))=true:=decide_eq_true a0;obtain⟨a,ha⟩:∃a,out[k]? =some a:=⟨_,Jd Zo⟩
   obtain⟨b,hb⟩:∃b,out[k+1]? =some b:=⟨_,Jd a6⟩
   have a5:=fin_at out k a b HI.out.2.2.2.2.2.1 ha hb;have y:=HX.out.1.trans (l.out.mono HX.out.1.size);obtain⟨eb,eo,rfl,g2,e0,e1,g9,e3⟩:=(HI.out.1.below vo y).get ha;obtain⟨k9,k7,h0,f3,f0,f1,g6,e2⟩:=(HI.out.1.below vo y).get hb;cases h0;have k3:(k:Int)<(out.length:Int):=Zo;have d:eb<wr.heap.size:=by have:=y.size;omega
   have el:=f0;obtain⟨pa,va⟩:=a;obtain⟨pb,vb⟩:=b;have e0:A wr eb (eo+k*2) (.int .u16 (pa:Int)):=e0;have e1:A wr eb (eo+k*2+1) (.int .u16 (va:Int)):=e1;have f0:A wr eb (eo+(k+1)*2) (.int .u16 (pb:Int)):=f0;have f1:A wr eb (eo+(k+1)*2+1) (.int .u16 (vb:Int)):=f1;have e3:va<65536:=e3;have e2:vb<65536:=e2;have e8:=Ja a5;have g:=Ja a6;have b1:=Ja y;have HE:=Ja (show ∀W,Below wr.heap.size wr W->(A W eb (eo+k*2) (.int .u16 (pa:Int))/\A W eb (eo+(k+1)*2) (.int .u16 (pb:Int)))/\eb<W.heap.size from fun W h=>⟨⟨(h.cell (p:=⟨eb,eo+k*2,none⟩) d).trans e0,(h.cell (p:=⟨eb,eo+(k+1)*2,none⟩) d).trans f0⟩,Jy d h.size⟩);clear ha hb a5 y el a6 g2 f3 g9 g6;go_upto_region 4 with fail;go_quiet (fail);generalize hy:wr.drewN _=Y;have d7:Below wr.heap.size wr Y:=by rw[<-hy];exact yL _ _ _
   have u:=Ja d7;clear hy e0 e1 f0 f1 d d7;obtain⟨⟨e0,f0⟩,d⟩:=HE.out Y u.out
   by_cases o:pa=254
   ·have hq:=e8.out.1 o;have h1:va<R.length:=hq.1;have h2:pb=255:=hq.2.1;have h3:(R.getD va ⟨0,0⟩).lo<=vb:=hq.2.2.1;have h4:vb<=(R.getD va ⟨0,0⟩).hi:=hq.2.2.2;clear hq;have d9:R≠ []:=fun e=>by rw[e] at h1;exact absurd h1 (Nat.not_lt_zero _)
    obtain⟨rb,rfl,b3⟩:=HI.out.2.2.2.2.1 d9;obtain⟨x,hx⟩:∃x,R[va]? =some x:=⟨_,Jd h1⟩
    have d4:R.getD va ⟨0,0⟩=x:=by rw[Jj,hx];rfl
    rw[d4] at h3 h4;have a4:=zH (b1.out.trans (u.out.mono b1.out.size)) b3 (lt_of_block b3);have r0:A Y rb (va*2) (.int .u16 (x.lo:Int)):=by have:=oW (f:=pn) (n:=2) (fun _=>rfl) a4 hx (j:=0) rfl;rw[Ng,Uk] at this;exact this
    have r1:A Y rb (va*2+1) (.int .u16 (x.hi:Int)):=by have:=oW (f:=pn) (n:=2) (fun _=>rfl) a4 hx (j:=1) rfl;rw[Ng] at this;exact this
    have rl:=lt_of_block a4;subst o h2;have d0:decide ((R.length:Int)<=(va:Int))=false:=decide_eq_false Zo;have h9:decide (R.length<=va)=false:=decide_eq_false Zo;have d2:decide ((vb:Int)<(x.lo:Int))=false:=decide_eq_false Zo;have l3:decide (vb<x.lo)=false:=decide_eq_false Zo;have d3:decide ((x.hi:Int)<(vb:Int))=false:=decide_eq_false Zo;have l2:decide (x.hi<vb)=false:=decide_eq_false Zo;have k0:(va:Int)<(R.length:Int):=Zo;clear d9 b3 hx d4 h3 h4 a4;go_wp2;go_roundw
    case rel=>exact⟨k+1,by have:=g.out;omega,by go_num,Ja (l.out.trans (u.out.mono l.out.size))⟩
    case measure=>have:=g.out;simp[intOf];omega
   ·have i2:((pa:Int)==254)=false:=Ze
    by_cases a2:pa=253
    ·have hq:=e8.out.2 a2;have h1:va<O.length:=hq.1;have h2:va<S.length:=hq.2.1;have h3:pb=252:=hq.2.2.1;have h4:O.getD va 0=-1∨((0<=O.getD va 0/\(O.getD va 0).toNat<p.data.length)/\(p.data.getD (O.getD va 0).toNat ⟨0,0,0⟩).bank=-1/\(p.data.getD (O.getD va 0).toNat ⟨0,0,0⟩).addr<=vb/\(vb:Int)+S.getD va 0<=(p.data.getD (O.getD va 0).toNat ⟨0,0,0⟩).addr+(p.data.getD (O.getD va 0).toNat ⟨0,0,0⟩).size):=hq.2.2.2;clear hq;have c:=b1.out.trans (u.out.mono b1.out.size);obtain⟨z,hz⟩:∃z,O[va]? =some z:=⟨_,Jd h1⟩
     obtain⟨s,hs⟩:∃s,S[va]? =some s:=⟨_,Jd h2⟩
     obtain⟨jb,jo,rfl,f9,j0,f2⟩:=(HI.out.2.1.below zO c).get hz;obtain⟨sb,so,rfl,f6,s0,b2⟩:=(HI.out.2.2.1.below zO c).get hs;rw[Nk] at j0 s0;have c9:jb<Y.heap.size:=by have:=c.size;omega
     have a3:sb<Y.heap.size:=by have:=c.size;omega
     have b4:O.getD va 0=z:=by rw[Jj,hz];rfl
     have b5:S.getD va 0=s:=by rw[Jj,hs];rfl
     rw[b4,b5] at h4;have k1:s<=100:=HI.out.2.2.2.2.2.2 s (Ji hs);subst a2 h3;have d0:decide ((O.length:Int)<=(va:Int))=false:=decide_eq_false Zo;have h9:decide (O.length<=va)=false:=decide_eq_false Zo;have d1:decide ((S.length:Int)<=(va:Int))=false:=decide_eq_false Zo;have l4:decide (S.length<=va)=false:=decide_eq_false Zo;have j5:(va:Int)<(O.length:Int):=Zo;have j4:(va:Int)<(S.length:Int):=Zo;rcases h4 with h4|⟨⟨h4,h5⟩,h6,h7,h8⟩
     ·subst h4;clear hz hs b4 b5 b2 f2 o;go_wp2;go_roundw
      case rel=>exact⟨k+1,by have:=g.out;omega,by go_num,Ja (l.out.trans (u.out.mono l.out.size))⟩
      case measure=>have:=g.out;simp[intOf];omega
     ·have tz:(z==-1)=false:=Ze;obtain⟨zn,rfl⟩:∃zn:Nat,z=(zn:Int):=⟨z.toNat,by omega⟩
      rw[Ni] at h5 h6 h7 h8;obtain⟨D,hD⟩:∃D,p.data[zn]? =some D:=⟨_,Jd h5⟩
      have d5:p.data.getD zn ⟨0,0,0⟩=D:=by rw[Jj,hD];rfl
      rw[d5] at h6 h7 h8;obtain⟨db,dq,rfl,g5,e6,e5,e4,i9,k6,k5⟩:=(HI.out.2.2.2.1.below tZ c).get hD;have t:db<Y.heap.size:=by have:=c.size;omega
      have a7:=zH (l.out.trans (u.out.mono l.out.size)) HX.out.2 (lt_of_block HX.out.2);have HC:=Ja (show ∀W,Below Y.heap.size Y W->A W w.heap.size 4 (.slice (some ⟨db,dq,none⟩) p.data.length dc)/\A W jb (jo+va) (U zn)/\A W db (dq+zn*3) (U D.bank)/\A W db (dq+zn*3+1) (.int .u16 (D.addr:Int))/\A W db (dq+zn*3+2) (.int .u16 (D.size:Int)) from fun W h=>⟨zA (zH h a7 (lt_of_block a7)) rfl,(h.cell (p:=⟨jb,jo+va,none⟩) c9).trans j0,(h.cell (p:=⟨db,dq+zn*3,none⟩) t).trans e6,(h.cell (p:=⟨db,dq+zn*3+1,none⟩) t).trans e5,(h.cell (p:=⟨db,dq+zn*3+2,none⟩) t).trans e4⟩);have e7:=Ja (show ∀W,Below Y.heap.size Y W->A W sb (so+va) (U s)/\sb<W.heap.size from fun W h=>⟨(h.cell (p:=⟨sb,so+va,none⟩) a3).trans s0,Jy a3 h.size⟩);obtain⟨g0,_⟩:=HC.out Y (Below.refl _ _);have g1:=lt_of_block a7;have l1:decide ((zn:Int)<0)=false:=decide_eq_false Zo;have l0:decide ((p.data.length:Int)<=(zn:Int))=false:=decide_eq_false Zo;have j1:decide (p.data.length<=zn)=false:=decide_eq_false Zo;have j3:(zn:Int)<(p.data.length:Int):=Zo;clear hz hs b4 b5 o hD d5 a7 c f9 f6 g5;go_upto_region 13 with fail;go_quiet (fail);generalize b9:Y.drewN _=Y2;have a1:Below Y.heap.size Y Y2:=by rw[<-b9];exact yL _ _ _
      have b0:=Ja a1;have hc:=HC.out Y2 a1;obtain⟨c0,c1,c2,c3,c4⟩:=hc;have e9:=Ja (show ∀W,Below Y2.heap.size Y2 W->A W w.heap.size 4 (.slice (some ⟨db,dq,none⟩) p.data.length dc)/\A W jb (jo+va) (U zn)/\A W db (dq+zn*3) (U D.bank)/\A W db (dq+zn*3+1) (.int .u16 (D.addr:Int))/\A W db (dq+zn*3+2) (.int .u16 (D.size:Int)) from fun W h=>HC.out W (b0.out.trans (h.mono b0.out.size)));clear b9 e0 f0 d j0 s0 c9 a3 e6 e5 e4 t a1 g0 g1;have i1:=Ja h6;clear h6;go_upto_region 15 with fail
      go_region_held3 (fun w'=>A w' w.heap.size 4 (.slice (some ⟨db,dq,none⟩) p.data.length dc)/\A w' jb (jo+va) (U zn)/\A w' db (dq+zn*3) (U D.bank)/\A w' db (dq+zn*3+1) (.int .u16 (D.addr:Int))/\A w' db (dq+zn*3+2) (.int .u16 (D.size:Int)))
       ((refine e9.out _ ?_;repeat' (first|with_reducible exact Below.refl _ _|with_reducible assumption|with_reducible refine Below.drew ?_|with_reducible refine Below.alloc ?_ Zn _|with_reducible refine Below.setCell ?_ Zn _)))
       (fail)
      all_goals (
       first
        |(obtain⟨Z,hZ⟩:∃Z,(Y2.alloc (.cells #[.int .i64 D.bank,.int .u16 (D.addr:Int),.int .u16 (D.size:Int)] 89)).drew=Z:=⟨_,rfl⟩;rw[hZ])
        |(obtain⟨Z,hZ⟩:∃Z,Y2.drew.alloc (.cells #[.int .i64 D.bank,.int .u16 (D.addr:Int),.int .u16 (D.size:Int)] 89)=Z:=⟨_,rfl⟩;rw[hZ])
       have d6:Below Y2.heap.size Y2 Z:=by rw[<-hZ];repeat' (first|exact Below.refl _ _|refine Below.drew ?_|refine Below.alloc ?_ (Je _) _)
       have m:Q Z Y2.heap.size #[U D.bank,.int .u16 (D.addr:Int),.int .u16 (D.size:Int)] 89:=by rw[<-hZ];exact zI rfl
       have b8:=b0.out.trans (d6.mono b0.out.size);obtain⟨s0,a3⟩:=e7.out Z b8;have z0:=zA (i:=0) m rfl;have z1:=zA (i:=1) m rfl;have z2:=zA (i:=2) m rfl;have zl:=lt_of_block m;rw[i1.out] at z0;have i0:=Ja b8;have u0:decide ((vb:Int)<(D.addr:Int))=false:=decide_eq_false Zo;have j2:decide (vb<D.addr)=false:=decide_eq_false Zo;have w1:IntKind.i64.wrap ((vb:Int)+s)=(vb:Int)+s:=Om _ (by have:=b2.1;omega);have w2:IntKind.i64.wrap ((D.addr:Int)+(D.size:Int))=(D.addr:Int)+(D.size:Int):=Om _ Zo;have u1:decide ((D.addr:Int)+(D.size:Int)<(vb:Int)+s)=false:=decide_eq_false Zo;clear hZ m d6 b8 h7 h8 c0 c1 c2 c3 c4 e9 HC e7;go_upto_region 16 with fail;go_quiet (fail);go_wp2;go_roundw
       case rel=>exact⟨k+1,by have:=g.out;omega,by go_num,Ja (yC (l.out.trans ((u.out.trans (i0.out.mono u.out.size)).mono l.out.size)))⟩
       case measure=>have:=g.out;simp[intOf];omega)
    ·have i8:((pa:Int)==253)=false:=Ze;clear o a2;go_wp2;go_roundw
     case rel=>exact⟨k+1,by have:=g.out;omega,by go_num,Ja (l.out.trans (u.out.mono l.out.size))⟩
     case measure=>have:=g.out;simp[intOf];omega
  ·have a0:¬(k:Int)+1<(out.length:Int):=Zo;have dk:decide ((k:Int)+1<(out.length:Int))=false:=decide_eq_false a0;clear a6;go_wp2;go_ret;exact⟨rfl,HX.out.1.trans (l.out.mono HX.out.1.size)⟩
def g8 (s:Nat):Nat:=(s*1664525+1013904223)%4294967296
def gx (s:Nat):Nat->Nat
 |0=>s
 |k+1=>g8 (gx s k)
def gF (s k:Nat):Nat:=gx s (k+1)/16777216
def gD (s n:Nat):List Nat:=(List.range n).map (gF s)
theorem nextS_lt (s:Nat):g8 s<4294967296:=Qj _ Zd
theorem eT {s:Nat}(h:s<4294967296):∀k,gx s k<4294967296
 |0=>h
 |k+1=>nextS_lt _
theorem gT (s n:Nat):(gD s n).length=n:=by simp[gD]
def aaU (s n k:Nat):List Nat:=(List.range n).map fun j=>if j<k then gF s j else 0
theorem gz (s n:Nat):aaU s n 0=List.replicate n 0:=by
 apply Oq;intro j;unfold aaU;rw[Jr,Nm]
 by_cases h:j<n
 ·rw[Oh h,if_pos h];rfl
 ·rw[Of (by simpa using h),if_neg h];rfl
theorem gt (s n:Nat):aaU s n n=gD s n:=by
 unfold aaU gD;exact Up fun j hj=>if_pos (Ol.1 hj)
theorem gG (s n k:Nat):(aaU s n k).length=n:=by simp[aaU]
theorem fL(s n:Nat)(h:k<n):(aaU s n k).set k (gF s k)=aaU s n (k+1):=by
 apply Oq;intro j;rw[Ov,gG];unfold aaU;rw[Jr,Jr]
 by_cases e:k=j
 ·subst e;rw[if_pos rfl,if_pos h,Oh h]
  show some _=some (if k<k+1 then gF s k else 0)
  rw[if_pos Zo]
 ·rw[if_neg e]
  by_cases c:j<n
  ·rw[Oh c]
   show some (if j<k then gF s j else 0)=some (if j<k+1 then gF s j else 0)
   by_cases h2:j<k
   ·rw[if_pos h2,if_pos Zo]
   ·rw[if_neg h2,if_neg Zo]
  ·rw[Of (by simpa using c)];rfl
theorem eR (w:World)(s n:Nat)(hs:s<4294967296)(y:n<=1000000):I 22 #[.int .u32 (s:Int),U n] w (aap w (y9 (gD s n))):=by
 have a0:=run_make_row' (P:=Tryz.prog) 49 5 (.int .u8 0) 1 Tryz.underlying49 Tryz.info_u8 rfl .i64 .i64 n Zo Zo
 have m:∀(ts:Array TypeId) (t:TypeId) (W:World),(Builtin.max_ ts t #[U 0,U n]).run Tryz.prog W=.ok (U n) W:=fun ts t W=>by
  rw[run_max_int2]
  split
  ·rfl
  ·have:n=0:=Zo;subst this;rfl
 have a5:n<=9223372036854775807:=Zo;have HN:=Ja (Jb hs y)
 have l:Q (w.alloc (G (madeCells #[.int .u8 0] n) 5)) w.heap.size ((aaU s n 0).map bd).toArray 5:=by
  rw[zI rfl,yA,gz,List.map_replicate];rfl
 have j:Y w (w.alloc (G (madeCells #[.int .u8 0] n) 5)):=(Below.refl _ _).alloc (Je _) _;have a4:(w.alloc (G (madeCells #[.int .u8 0] n) 5)).heap.size=w.heap.size+1:=by simp
 clear hs y;go_enter Tryz.func22,Tryz.ntmps22;go_upto_region 2 with fail;generalize a3:w.alloc (G (madeCells #[.int .u8 0] n) 5)=W0 at *;generalize a2:w.heap.size=bb at *;have H0:=Ja (Jb l j);clear l j a3 a0 m;go_wp2
 go_loopw [0,6] (fun sv kv wx=>∃(k z:Nat),k<=n/\sv=.int .u32 (z:Int)/\kv=U k/\Hid (z=gx s k/\Q wx bb ((aaU s n k).map bd).toArray 5/\Below bb w wx)) (fun _ kv _=>n-(intOf kv).toNat)
 case atStart=>exact⟨0,s,Jt _,rfl,rfl,Ja ⟨rfl,H0.out.1,H0.out.2⟩⟩
 case round=>
  obtain⟨k,z,hk,rfl,rfl,c⟩:=hrel
  by_cases g:k<n
  ·have o:(k:Int)<n:=Zo;have h:=Ja g;have hz:z<4294967296:=by rw[c.out.1];exact eT HN.out.1 k
   obtain⟨x,u⟩:∃x,(aaU s n k)[k]? =some x:=⟨_,Jd (by rw[gG];exact g)⟩
   have cx:A wr bb k (.int .u8 (x:Int)):=zA c.out.2.1 (by simp[u,bd]);have fx:N wr bb k:=zE c.out.2.1;clear g u;go_wp2;have e1:((z:Int)*1664525%4294967296+1013904223)%4294967296=((g8 z:Nat):Int):=by unfold g8;omega
   have e2:((z:Int)*1664525+1013904223)%4294967296/16777216=((g8 z/16777216:Nat):Int):=by unfold g8;omega
   have i:g8 z=gx s (k+1):=by rw[c.out.1];rfl
   have a1:g8 z/16777216=gF s k:=by rw[i];rfl
   rw[e1,e2];refine⟨⟨k+1,g8 z,h.out,rfl,by go_num,Ja ⟨i,?_,c.out.2.2.setCell Zs _⟩⟩,by have:=h.out;simp[intOf];omega⟩;rw[zD c.out.2.1,a1,<-fL s n h.out];simp[Ox,bd]
  ·obtain rfl:k=n:=by omega
   have o:¬(k:Int)<k:=Zo;have d:=c.out.2.1;rw[gt] at d;have a6:=pN d (gT s k);have HC:=Ja c.out.2.2;clear g d;go_wp2;go_ret;exact⟨rfl,by rw[a2];exact HC.out⟩
theorem eE {p:IProg}{E:ME}(hp:EnvOk p E)(pos:Nat):aaz p (xD E pos) (fun i=>i=0) (fun _=>False) [0]:=by
 have g:=eP hp.alt E.me
 show MInv p [wJ (tkV E ⟨pos,[],0,0,[],6⟩ 3*10) (E.args.getD E.me 0).toNat] 0 (tkV E ⟨pos,[],0,0,[],6⟩ 3*10+(E.args.getD E.me 0).toNat) (wJ (tkV E ⟨pos,[],0,0,[],6⟩ 3*10) (E.args.getD E.me 0).toNat).params _ _ _
 generalize tkV E ⟨pos,[],0,0,[],6⟩ 3*10=nx;generalize (E.args.getD E.me 0).toNat=n at *
 have c:∀(i:Nat) (b:IBlk),[wJ nx n][i]? =some b->i=0/\b=wJ nx n:=fun i b h=>by
  cases i with
  |zero=>cases h;exact⟨rfl,rfl⟩
  |succ i=>simp at h
 have d:aaI [wJ nx n]=(List.range n).map fun k=>((nx+k:Nat):Int):=by
  unfold aaI abu wJ;simp[abo]
 refine⟨rfl,by show 0<1;decide,?_,?_,?_,?_,?_,?_,?_,?_,?_,?_⟩
 ·intro i u hi m;have:=(Jh.1 hi).1;simp at this;omega
 ·intro i b hb j o ho;obtain⟨rfl,rfl⟩:=c i b hb;simp[wJ] at ho
 ·intro i b hb l;exact absurd (c i b hb).1 l
 ·intro i b hb _;obtain⟨rfl,rfl⟩:=c i b hb;rfl
 ·intro i hi;rw[hi]
  show 0<1
  decide
 ·intro v hv b hb;obtain⟨_,rfl⟩:=c 0 b hb;exact⟨0,-1,⟨_,rfl,.inl ⟨rfl,hv⟩⟩,.refl _,fun _=>by show(-1:Int)<0;decide⟩
 ·rw[d];refine List.pairwise_map.2 (List.nodup_range.imp fun hab e=>hab ?_);omega
 ·intro v hv;rw[d] at hv;obtain⟨k,hk,rfl⟩:=Nu.1 hv;have:=Ol.1 hk;omega
 ·intro i hi _;have:i=0:=by simp at hi;exact hi
  subst this;exact .zero
 ·intro i b hb;obtain⟨rfl,rfl⟩:=c i b hb;exact⟨by rw[sd];exact g,by show 0<=4;decide⟩
theorem gJ {p:IProg}{E:ME}(hp:EnvOk p E)(pos:Nat):∃pl,ack p (xR E pos).f (xR E pos).next pl/\∃b0,(xR E pos).f[0]? =some b0/\b0.params.length=(E.args.getD E.me 0).toNat:=by
 have l:=eE hp pos;obtain⟨d,h1⟩:=abq hp 2 (xD E pos) _ _ [0] l rfl (fun e=>e) (fun i e=>e.elim);obtain⟨pl2,h2⟩:=abq hp 1 (zp E 2 (xD E pos)) _ _ d h1.inv (.inr rfl) h1.np (fun i e=>e.elim);have h3:=h1.trans h2 (agi h1.ext) l.lt;have hb:(xD E pos).f[0]? =some (wJ (tkV E ⟨pos,[],0,0,[],6⟩ 3*10) (E.args.getD E.me 0).toNat):=rfl;have c:=h3.ext;have hi:aaz p (zp E 1 (zp E 2 (xD E pos))) (fun i=>i=(zp E 1 (zp E 2 (xD E pos))).cur) (fun _=>False) pl2:=h3.inv.weak (fun i=>⟨fun e=>e.elim (fun e=>absurd e.1 e.2) (fun e=>e),.inr⟩) (fun i e=>e);unfold xR;simp only;generalize zp E 1 (zp E 2 (xD E pos))=M1 at *
 have fin:∀(M:MS) (t:ITerm),aaz p M (fun i=>i=M1.cur) (fun _=>False) pl2->M.cur=M1.cur->aeI (xD E pos).f M.f->gR t=true->t.to=[]->(∀v∈mE t,v∈M.vals)->
  ∃pl,ack p (M.endB t).f (M.endB t).next pl/\∃b0,(M.endB t).f[0]? =some b0/\b0.params.length=(E.args.getD E.me 0).toNat:=fun M t hM hc hxx hk ht hv=>by
  have k:(fun i=>i=M1.cur) M.cur:=hc;have o:=hM.endB (t:=t) k hk (by rw[ht];show 0<=4;decide) (fun e he=>by rw[ht] at he;cases he) (fun v h=>hM.at (hv v h)) (P':=fun _=>False) (fun e=>e) (fun i e=> .inl e);have m:=hxx.trans (xd hM k t);obtain⟨b',j,g,_⟩:=m _ _ hb;refine⟨pl2,⟨_,_,o.weak (fun i=>⟨fun e=>e.2 (by rw[hc];exact e.1),fun e=>e.elim⟩) (fun i e=>e)⟩,b',j,by rw[g,sd]⟩
 split
 ·exact fin M1.tick ⟨5,0,[]⟩ hi rfl c rfl rfl (fun v hv=>by cases hv)
 split
 ·exact fin M1.tick ⟨4,-1,[]⟩ hi rfl c rfl rfl (fun v hv=>by cases hv)
 ·obtain⟨a1,a2⟩:=MInv.any (M:=M1.tick) E hi rfl
  exact fin (zJ E M1.tick).2 ⟨4,(zJ E M1.tick).1,[]⟩ a1 (yU E M1.tick).cur (c.trans (aaW E M1.tick)) rfl rfl (fun v hv=>by
   rcases gL hv with rfl|hv
   ·exact a2
   ·cases hv)
theorem gi (s:List Int)(k:Nat):EnvOk (uR s) (xC s k):=⟨qA s,rfl,rfl,xy s _⟩
theorem gP (s:List Int)(k:Nat):0<=(yS s (mdN s)).getD k 0/\(yS s (mdN s)).getD k 0<4:=by
 rw[Jj]
 cases c:(yS s (mdN s))[k]? with
 |none=>simp
 |some x=>exact xy s _ x (Ji c)
theorem no (s:List Int):∀n,0<n->(yS s n).getD 0 0=0
 |1,_=>rfl
 |n+2,_=>by
  have h:=no s (n+1) Zo;rw[Jj] at h ⊢
  show((yS s (n+1)++ [_])[0]?).getD 0=0
  rw[Np (by rw[yY];omega)];exact h
theorem eH (s:List Int):sR (uR s)=0:=by
 have m:=sm s;have hl:=qA s;have l:=no s (mdN s) Zo
 have k:wB (uR s)=true:=by
  have hb:sG.size=4096:=by
   unfold sG ByteArray.size;simp only[List.size_toArray,Nr,Un]
  unfold wB;rw[Jm];refine⟨?_,by show ig 1 am=true;decide⟩
  show [sG].all _=true
  simp[hb]
 have g:∀f:Nat,f<mdN s->(yS s (mdN s)).getD f 0=0->yw (uR s) (f:Int)=true:=fun f hf h=>by
  unfold yw;rw[Jm,Jm,decide_eq_true_eq,decide_eq_true_eq,beq_iff_eq,hl,Ni];exact⟨by omega,by omega,h⟩
 unfold sR;rw[if_neg (by rw[hl];show ¬(2000<mdN s∨512<3∨64<1);omega),if_neg (by rw[hl];show ¬((yS s (mdN s)).length≠mdN s);rw[yY];simp),if_neg,if_neg,if_neg (by rw[k];decide)]
 ·rintro(e|⟨e1,e2⟩)
  ·have:=g 0 Zo l;have e':yw (uR s) ((0:Nat):Int)=false:=e;rw[this] at e';cases e'
  ·have d:vw s≠-1:=e1;have c:yw (uR s) (vw s)=false:=e2;unfold vw at d c
   split at c
   ·rename_i i
    have j:=i.1;unfold oJ at j;simp only[Jm,decide_eq_true_eq] at j;rw[g _ Zo j.2] at c;cases c
   ·rename_i i
    rw[if_neg i] at d;exact d rfl
 ·have:∀x∈yS s (mdN s),tX x=true:=fun x hx=>by
   have:=xy s _ x hx;unfold tX;rw[Jm,decide_eq_true_eq,decide_eq_true_eq];omega
  intro e;have e':(yS s (mdN s)).all tX=false:=e;rw[Oe.2 this] at e';cases e'
theorem fm (s:List Int):vC (uR s)=0:=by
 unfold vC;rw[if_neg (by rw[eH];simp),if_pos];rw[Oe];intro k hk;rw[Ol,qA] at hk;rcases kz s hk with⟨h,_⟩|h
 ·unfold yi;rw[Jj,h];rfl
 ·obtain⟨pl,h1,b0,h2,h3⟩:=gJ (gi s k) (zg s k).2;have c:=lz s k hk;refine h1.function (by unfold MS.sz at c;omega) h h2 ?_;rw[h3]
  show(((yS s (mdN s)).getD k 0).toNat:Int)=(yS s (mdN s)).getD k 0
  exact Oa (gP s k).1
theorem opF_args{p:IProg}(c:∀i,p.args.getD i 0<=8)(h:opF p o=true):o.args.length<=8:=by
 unfold opF at h;rw[Jm] at h;have h2:=h.2
 split at h2
 ·simp only[Jm,decide_eq_true_eq] at h2;have:=c o.a.toNat;omega
 ·split at h2
  ·simp only[Jm,decide_eq_true_eq] at h2;omega
  ·simp only[Jm,decide_eq_true_eq] at h2;omega
theorem acK (s:List Int):SmP 15000 (uR s):=by
 have j:=sm s;refine⟨by rw[qA];omega,fun f hf=>?_,by show(yS s (mdN s)).length<=_;rw[yY];omega,by show 3<=15000;decide,by show 1<=15000;decide⟩;obtain⟨k,hk⟩:=Ny hf;have c:=(Jh.1 hk).1;rw[qA] at c;rcases kz s c with⟨h,_⟩|h
 ·rw[hk] at h;cases h;exact⟨by simp,fun b hb=>by cases hb⟩
 ·rw[hk] at h;cases h;obtain⟨pl,h1,_⟩:=gJ (gi s k) (zg s k).2;have g:=lz s k c;have ho:=h1.ops;obtain⟨cur,vals,d⟩:=h1;generalize xR (xC s k) (zg s k).2=M at *;unfold MS.sz at g;refine⟨by omega,fun b hb=>?_⟩;obtain⟨i,hi⟩:=Ny hb;have h3:=d.sml i b hi;have l:=acZ hb;refine⟨by omega,by omega,by omega,fun o hoo=>?_,fun e he=>?_⟩
  ·have:=opF_args (fun i=>by have:=gP s i;show(yS s (mdN s)).getD i 0<=8;omega) (ho b hb o hoo);omega
  ·obtain⟨s',u,bs,_,_,e3,e4,_⟩:=(d.term i b hi (fun e=>e)).2.1 e he;have:=(d.sml s' bs e3).1;omega
theorem FrmQ.setNew{B:Nat}{a:World}(h:FrmQ B a w){b:Nat}(hb:a.heap.size<=b)(hB:B<=a.heap.size)(u:Value):FrmQ B a (w.setCell ⟨b,i,none⟩ u):=
 ⟨h.below.setCell (Jn hB hb) u,fun k o hk hs=>zR (h.kept k o hk hs) (by have:=lt_of_block hk;show k≠b;omega)⟩
theorem MachQ.setV{tr:Tr}{dp:Int}{ov:Value}(h:MachQ w K m tr dp ov){n:Nat}{v:Int->Nat}(hv:dA w vb n v)(hB:K.B<=vb)(i:Nat)(u:Value):MachQ (w.setCell ⟨vb,i,none⟩ u) K m tr dp ov:=by
 have n1:K.pm≠vb:=by rintro e;have:=h.blk;rw[e,hv.1] at this;simp at this
 have n2:K.rb≠vb:=by rintro e;have:=h.ram;rw[e,hv.1] at this;simp at this
 have hb:Below K.B w (w.setCell ⟨vb,i,none⟩ u):=(Below.refl _ _).setCell hB _;refine⟨zR h.blk n1,zR h.ram n2,h.rlen,h.rlt,ownsRow_setCell_other h.out ?_ _,h.olt,h.obd,h.fuel,h.inp,h.pol,h.gpm,h.grb,h.prog.below hb,h.inn.below zr hb,h.irq.below xQ hb⟩;intro e;exact zC h.out hv.1 (.inr Zd) (by simpa using e)
structure CStQ (K:MK) (w0 w:World) (m:Mach) (vb N:Nat) (v:Int->Nat):Prop where
 mach:∃dp ov,MachQ w K m none dp ov
 frm:FrmQ K.B w0 w
 row:dA w vb N v
 new:w0.heap.size<=vb
 gb:K.B<w0.heap.size
theorem CStQ.alloc{N:Nat}{v:Int->Nat}(h:CStQ K w0 w m vb N v)(o:Obj):CStQ K w0 (w.alloc o) m vb N v:=by
 obtain⟨dp,ov,hm⟩:=h.mach;exact⟨⟨dp,ov,hm.keep ((Below.refl _ _).alloc (Je _) o)⟩,h.frm.trans ((FrmQ.refl _ _).alloc (Qd hm.size) o),h.row.kept ((FrmQ.refl K.B w).alloc (Qd hm.size) o),h.new,h.gb⟩
theorem CStQ.step {K:MK}{w0 w w':World}{m m':Mach}{vb N:Nat}{v:Int->Nat}{dp:Int}{ov:Value}(h:CStQ K w0 w m vb N v)(d:MachQ w' K m' none dp ov)(c:FrmQ K.B w w'):CStQ K w0 w' m' vb N v:=
 ⟨⟨dp,ov,d⟩,h.frm.trans c,h.row.kept c,h.new,h.gb⟩
theorem CStQ.keep{N:Nat}{v:Int->Nat}(h:CStQ K w0 w m vb N v)(hb:Y w w'):CStQ K w0 w' m vb N v:=by
 obtain⟨dp,ov,hm⟩:=h.mach;exact h.step (hm.keep hb) (FrmQ.ofBelow hb (Qd hm.size))
theorem CStQ.set{N:Nat}{v:Int->Nat}(h:CStQ K w0 w m vb N v){r:Nat}(hr:r<65536):CStQ K w0 (w.setCell ⟨vb,k,none⟩ (O r)) m vb N (iY v k r):=by
 obtain⟨dp,ov,hm⟩:=h.mach;have:=h.new;have:=h.gb;exact⟨⟨dp,ov,hm.setV h.row Zo _ _⟩,h.frm.setNew h.new Zo _,h.row.set hr,h.new,h.gb⟩
theorem dA.made{N:Nat}{b:Nat}(hb:Q w b (madeCells #[O 0] N) 43):dA w b N (fun _=>0):=by
 refine⟨?_,fun _=>by show 0<65536;omega⟩;rw[hb,yA]
 congr 3
 apply Oq;intro i
 by_cases hi:i<N
 ·simp[hi,vL]
 ·simp[hi]
def ez (t:ITerm)(a:Nat):Nat:=if t.kind=2/\a=0 then 1 else if t.kind=3 then min a (t.to.length-1) else 0
theorem cT (t:ITerm)(a:Nat):wK t a=t.to.getD (ez t a) ⟨0,[]⟩:=by
 unfold wK ez
 split
 ·rfl
 ·split<;>rfl
theorem taken_q (w:World)(t:ITerm)(ta:Option Addr)(tc:Nat)(a:Nat)(l:a<65536)(hl:1<=t.to.length/\t.to.length<=2000000)(hk:t.kind=1∨t.kind=2∨t.kind=3):
 I 104 #[.agg #[U t.kind,U t.a,.slice ta t.to.length tc],O a] w (afl w (ez t a:Nat)):=by
 have d:=(Below.refl w.heap.size w).alloc (Je _) (G #[U t.kind,U t.a,.slice ta t.to.length tc] 82);have c:=Ja d;clear d;generalize hq:ez t a=q;unfold ez at hq;generalize t.to.length=n at *;rcases hk with hk|hk|hk
 ·rw[if_neg Zo,if_neg Zo] at hq;subst hq;rw[hk] at c ⊢;go_enter Tryz.func104,Tryz.ntmps104;go_wp2;go_ret;exact⟨rfl,c.out⟩
 ·by_cases h:a=0
  ·subst h;rw[if_pos ⟨hk,rfl⟩] at hq;subst hq;rw[hk] at c ⊢;go_enter Tryz.func104,Tryz.ntmps104;go_wp2;go_ret;exact⟨rfl,c.out⟩
  ·rw[if_neg Zo,if_neg Zo] at hq;subst hq;have k:((a:Int)==0)=false:=Ze;have i:¬(a:Int)=0:=Zo;rw[hk] at c ⊢;go_enter Tryz.func104,Tryz.ntmps104;go_wp2;go_ret;exact⟨rfl,c.out⟩
 ·rw[if_neg Zo,if_pos hk] at hq;have j:IntKind.i64.wrap (a:Int)=(a:Int):=Om _ Zo
  have g:∀(ts:Array TypeId) (t:TypeId) (W:World),(Builtin.min_ ts t #[U a,U ((n:Int)-1)]).run Tryz.prog W=.ok (U q) W:=fun ts t W=>by
   rw[run_min_int2];have:(q:Int)=if(n:Int)-1<(a:Int) then(n:Int)-1 else(a:Int):=by split<;>omega
   rw[this]
  have m:=Ja hq;rw[hk] at c ⊢;clear hq;go_enter Tryz.func104,Tryz.ntmps104;go_wp2;go_ret;exact⟨rfl,c.out⟩
def grp (nx:Int)(n:Nat)(P:Nat)(x:Int)(Q:Nat):List IOp:=[⟨1,nx,0,0,n,[]⟩,⟨25,-1,nx,0,P,[]⟩,⟨25,-1,x,0,Q,[]⟩]
def ae4 (nx v:Int):List IOp:=if 0<=v then grp nx (v%65536).toNat 254 v 255 else []
def aeP (nx v:Int):Int:=if 0<=v then nx+1 else nx
def afF (nx:Int)(ac:Nat)(o:IOp):List IOp:=if gw o=true then grp nx (ac%65536) 253 o.a 252 else []
def aeU (nx:Int)(o:IOp):Int:=if gw o=true then nx+1 else nx
def af5 (ac:Nat)(o:IOp):Nat:=if gw o=true then ac+1 else ac
def aeO:Int->List Int->List IOp
 |_,[]=> []
 |nx,v::vs=>ae4 nx v++aeO (aeP nx v) vs
def aeB:Int->List Int->Int
 |nx,[]=>nx
 |nx,v::vs=>aeB (aeP nx v) vs
def ak1 (nx:Int)(ac:Nat)(o:IOp):List IOp:=afF nx ac o++o::ae4 (aeU nx o) o.res
def akO (nx:Int)(o:IOp):Int:=aeP (aeU nx o) o.res
def afn:Int->Nat->List IOp->List IOp
 |_,_,[]=> []
 |nx,ac,o::os=>ak1 nx ac o++afn (akO nx o) (af5 ac o) os
def agD:Int->List IOp->Int
 |nx,[]=>nx
 |nx,o::os=>agD (akO nx o) os
def aeJ:Nat->List IOp->Nat
 |ac,[]=>ac
 |ac,o::os=>aeJ (af5 ac o) os
def ah0 (nx:Int)(ac:Nat)(b:IBlk):IBlk:=⟨b.params,aeO nx b.params++afn (aeB nx b.params) ac b.ops,b.term⟩
def ah4 (nx:Int)(b:IBlk):Int:=agD (aeB nx b.params) b.ops
def i5:Int->Nat->List IBlk->List IBlk
 |_,_,[]=> []
 |nx,ac,b::bs=>ah0 nx ac b::i5 (ah4 nx b) (aeJ ac b.ops) bs
def mc (p:IProg)(n:Nat):IProg:= {p with funcs:=p.funcs.set n (i5 (aaG (p.funcs.getD n [])) 0 (p.funcs.getD n []))}
theorem afR (nx v:Int):nx<=aeP nx v:=by unfold aeP;split<;>omega
theorem ahy (nx:Int)(o:IOp):nx<=aeU nx o:=by unfold aeU;split<;>omega
theorem afu:∀(vs:List Int) (nx:Int),nx<=aeB nx vs
 | [],nx=>Og _
 |v::vs,nx=>Int.le_trans (afR nx v) (afu vs _)
theorem aiG (nx:Int)(o:IOp):nx<=akO nx o:=Int.le_trans (ahy nx o) (afR _ _)
theorem agy:∀(os:List IOp) (nx:Int),nx<=agD nx os
 | [],nx=>Og _
 |o::os,nx=>Int.le_trans (aiG nx o) (agy os _)
theorem ahl (nx:Int)(b:IBlk):nx<=ah4 nx b:=Int.le_trans (afu _ _) (agy _ _)
theorem aga:∀(bs:List IBlk) (nx:Int) (ac i:Nat) (b:IBlk),bs[i]? =some b->∃nx':Int,nx<=nx'/\(i5 nx ac bs)[i]? =some (ah0 nx' (aeJ ac ((bs.take i).flatMap (·.ops))) b)
 | [],nx,ac,i,b,h=>by simp at h
 |x::bs,nx,ac,0,b,h=>by simp at h;subst h;exact⟨nx,Og _,rfl⟩
 |x::bs,nx,ac,i+1,b,h=>by
  obtain⟨nx',h1,h2⟩:=aga bs (ah4 nx x) (aeJ ac x.ops) i b (by simpa using h);refine⟨nx',Int.le_trans (ahl nx x) h1,?_⟩
  have e:∀(l l':List IOp) (ac:Nat),aeJ ac (l++l')=aeJ (aeJ ac l) l':=by
   intro l
   induction l with
   |nil=>intro l' ac;rfl
   |cons o l ih=>intro l' ac;exact ih l' _
  rw[Qo,Qa,e]
  simpa[i5] using h2
theorem aky{T:RepF}{E:IEnv}{n P Q:Nat}{v:Int->Nat}(h:MG T m)(g:0<=nx)(c:x≠nx)(i:n<65536)(hp:afv T (P,n) (Q,v x))(d:Q≠254/\Q≠253):
 match iq E call (grp nx n P x Q) v m with
 |.ok v' m'=>v'=iY v nx n/\MG T m'
 |.trap _ _ m'=>aeQ T m'.out:=by
 have e1:oV E call ⟨1,nx,0,0,n,[]⟩ v m.pay=.ok n m.pay:=rfl;have s1:setV v nx n=iY v nx n:=by unfold setV;rw[if_pos g]
 have v1:iY v nx n nx=n:=by unfold iY;rw[if_pos rfl]
 have v2:iY v nx n x=v x:=by unfold iY;rw[if_neg c]
 have e2:∀m:Mach,oV E call ⟨25,-1,nx,0,P,[]⟩ (iY v nx n) m=.ok 0 {m with out:=m.out++ [(P,n)]}:=fun m=>by
  show Res.ok 0 {m with out:=m.out++ [(P,iY v nx n nx)]}=_
  rw[v1]
 have e3:∀m:Mach,oV E call ⟨25,-1,x,0,Q,[]⟩ (iY v nx n) m=.ok 0 {m with out:=m.out++ [(Q,v x)]}:=fun m=>by
  show Res.ok 0 {m with out:=m.out++ [(Q,iY v nx n x)]}=_
  rw[v2]
 have s2:∀u:Int->Nat,setV u (-1) 0=u:=fun u=>by unfold setV;rw[if_neg Zd]
 unfold grp;unfold iq
 by_cases f1:m.fuel<=0
 ·rw[if_pos f1];exact h.out.1
 rw[if_neg f1,e1];simp only;unfold iq
 by_cases f2:m.pay.fuel<=0
 ·rw[if_pos f2];exact h.out.1
 rw[if_neg f2];simp only[s1,e2,s2];unfold iq
 by_cases f3:m.pay.pay.fuel<=0
 ·rw[if_pos f3];exact ahm h.out _
 ·rw[if_neg f3];simp only[e3,s2];unfold iq;exact⟨rfl,akf h.out hp d,h.ram⟩
def agS (T:RepF)(call:gO):Prop:=∀g args m,(∀a∈args,a<65536)->MG T m->afa T akA (call g args m)
def OpP (o:IOp):Prop:=(1<=o.code/\o.code<=27)/\(o.code=25->o.n≠254/\o.n≠253)/\o.n<65536
def resG (E:IEnv)(o:IOp)(A B:Rg):Rg:=if o.code=1 then ahH o.n else if o.code=2 then ahH (((E.p.data.getD o.a.toNat ⟨0,0,0⟩).addr+o.n)%65536) else ahG o.code A B
theorem aj8{T:RepF}{E:IEnv}(y:akX E)(g:agS T call)(ho:OpP o){v:Int->Nat}(hv:∀x,v x<65536)(h:MG T m){A B:Rg}(hA:A.ok)(hB:B.ok)
 (j:(zi o.code).a=true->A.has (v o.a)) (w:(zi o.code).b=true->B.has (v o.b)):
 afa T (fun x=>x<65536/\(resG E o A B).has x) (oV E call o v m):=by
 have d:o.code=26∨o.code=27->∀x,x<65536->(resG E o A B).has x:=fun c x j=>by
  unfold resG;rw[if_neg Zo,if_neg Zo];have:ahG o.code A B=lf:=by rcases c with c|c<;>rw[c]<;>rfl
  rw[this];exact aeG j
 unfold oV
 by_cases t:o.code=26
 ·rw[if_pos t];exact(g o.a (o.args.map v) m (fun a ha=>by obtain⟨x,_,rfl⟩:=Nu.1 ha;exact hv x) h).mono fun x j=>⟨j,d (.inl t) x j⟩
 rw[if_neg t]
 by_cases l:o.code=27
 ·rw[if_pos l];unfold tY;have u:=d (.inr l) 0 Zd
  split
  ·split
   ·have c:=g E.p.handler [] {m with polls:=m.polls+1 } (fun a ha=>by cases ha) ⟨h.out,h.ram⟩
    cases hr:call E.p.handler [] {m with polls:=m.polls+1 } with
    |ok x m'=>rw[hr] at c;exact⟨⟨by decide,u⟩,c.2⟩
    |trap k i m'=>rw[hr] at c;exact c
   ·exact⟨⟨by decide,u⟩,⟨h.out,h.ram⟩⟩
  ·exact⟨⟨by decide,u⟩,h⟩
 rw[if_neg l];exact plain_in y h (by have:=ho.1;omega) ho.2.1 (hv _) (hv _) hA hB j w ho.2.2
theorem afX{v:Int->Nat}(hv:∀x,v x<65536){r:Nat}(hr:r<65536):∀x,iY v y r x<65536:=fun x=>by
 unfold iY
 split
 ·exact hr
 ·exact hv x
theorem ahS{v:Int->Nat}(hv:∀x,v x<65536){r:Nat}(hr:r<65536):∀x,setV v y r x<65536:=by
 unfold setV
 split
 ·exact afX hv hr
 ·exact hv
def afh (T:RepF)(P:(Int->Nat)->Prop):Res (Int->Nat)->Prop
 |.ok v m=>(∀x,v x<65536)/\P v/\MG T m
 |.trap _ _ m=>aeQ T m.out
theorem agv{T:RepF}{E:IEnv}{P Q:(Int->Nat)->Prop}{l l':List IOp}{v:Int->Nat}(h1:afh T P (iq E call l v m))(h2:∀v' m',(∀x,v' x<65536)->P v'->MG T m'->afh T Q (iq E call l' v' m')):afh T Q (iq E call (l++l') v m):=by
 rw[abD]
 cases h:iq E call l v m with
 |ok v' m'=>rw[h] at h1;exact h2 v' m' h1.1 h1.2.1 h1.2.2
 |trap k i m'=>rw[h] at h1;exact h1
theorem aif{T:RepF}{E:IEnv}(d:akX E)(c:agS T call):∀(os:List IOp) (v:Int->Nat) (m:Mach),(∀x,v x<65536)->MG T m->(∀o∈os,OpP o)->afh T (fun _=>True) (iq E call os v m)
 | [],v,m,hv,h,_=>⟨hv,trivial,h⟩
 |o::os,v,m,hv,h,ho=>by
  unfold iq
  split
  ·exact h.out.1
  ·have hs:=aj8 d c (ho o (.head _)) hv h.pay cw cw (fun _=>aeG (hv _)) (fun _=>aeG (hv _))
   cases hr:oV E call o v m.pay with
   |ok x m'=>rw[hr] at hs;exact aif d c os _ m' (ahS hv hs.1.1) hs.2 fun o' ho'=>ho o' (.tail _ ho')
   |trap k i m'=>rw[hr] at hs;exact hs
def DI (t:Slv)(N:Nat)(D:Int->Prop)(v:Int->Nat):Prop:=∀x,D x->(0<=x/\x.toNat<N)/\t.knw x=true/\(t.get x).has (v x)
structure RepOk (T:RepF) (t:Slv) (N:Nat):Prop where
 eq:T.R=afG t
 ok:OkS N t
 n:N<=65536
theorem RepOk.get{T:RepF}{N:Nat}(h:RepOk T t N)(c:0<=x/\x.toNat<N)(hk:t.knw x=true):(x%65536).toNat=x.toNat/\x.toNat<T.R.length/\T.R.getD x.toNat ⟨0,0⟩=t.get x:=by
 have:=h.n;have h1:=fill_get h.ok c.2;rw[show((x.toNat:Nat):Int)=x by omega,if_pos hk] at h1;refine⟨by omega,by rw[h.eq,fill_len h.ok];exact c.2,?_⟩;rw[h.eq,Jj,h1];rfl
theorem di_upd{N:Nat}{D:Int->Prop}{v:Int->Nat}(h:DI t N D v)(c:(N:Int)<=nx)(r:Nat):DI t N D (iY v nx r):=fun x hx=>by
 have:=h x hx;refine⟨this.1,this.2.1,?_⟩;unfold iY;rw[if_neg (by have:=this.1;omega)];exact this.2.2
theorem akl{T:RepF}{N:Nat}(j:RepOk T t N){E:IEnv}{D:Int->Prop}(d:(N:Int)<=nx){v:Int->Nat}(hv:∀x,v x<65536)(h:MG T m)(c:DI t N D v)(g:0<=x->D x):
 afh T (DI t N D) (iq E call (ae4 nx x) v m):=by
 unfold ae4
 split
 ·rename_i o
  obtain⟨h1,h2,h3⟩:=c x (g o);obtain⟨e1,e2,e3⟩:=j.get h1 h2
  have:=aky (T:=T) (E:=E) (call:=call) (nx:=nx) (x:=x) (n:=(x%65536).toNat) (P:=254) (Q:=255) (v:=v) h Zo Zo Zo
   ⟨fun _=>⟨by show(x%65536).toNat<_;omega,rfl,by show(T.R.getD (x%65536).toNat ⟨0,0⟩).has (v x);rw[e1,e3];exact h3⟩,fun e=>absurd (show(254:Nat)=253 from e) Zd⟩ ⟨by decide,by decide⟩
  cases hr:iq E call (grp nx (x%65536).toNat 254 x 255) v m with
  |ok v' m'=>rw[hr] at this;obtain⟨rfl,l⟩:=this;exact⟨afX hv Zo,di_upd c d _,l⟩
  |trap k i m'=>rw[hr] at this;exact this
 ·exact⟨hv,c,h⟩
theorem run_acc{T:RepF}{N:Nat}{E:IEnv}{D:Int->Prop}(d:(N:Int)<=nx){v:Int->Nat}(hv:∀x,v x<65536)(h:MG T m)(c:DI t N D v)
 (g:gw o=true->D o.a/\afv T (253,ac%65536) (252,v o.a)):afh T (DI t N D) (iq E call (afF nx ac o) v m):=by
 unfold afF
 split
 ·rename_i l
  obtain⟨h1,h2⟩:=g l;have h3:=(c o.a h1).1;have:=aky (T:=T) (E:=E) (call:=call) (nx:=nx) (x:=o.a) (n:=ac%65536) (P:=253) (Q:=252) (v:=v) h Zo Zo Zo h2 ⟨by decide,by decide⟩
  cases hr:iq E call (grp nx (ac%65536) 253 o.a 252) v m with
  |ok v' m'=>rw[hr] at this;obtain⟨rfl,j⟩:=this;exact⟨afX hv Zo,di_upd c d _,j⟩
  |trap k i m'=>rw[hr] at this;exact this
 ·exact⟨hv,c,h⟩
theorem ajG(h:(zi o.code).a=true):o.a∈rR o:=by
 unfold rR;rw[if_pos h];simp
theorem mem_b(h:(zi o.code).b=true):o.b∈rR o:=by
 unfold rR;rw[if_pos h];simp
theorem run_op{T:RepF}{N:Nat}(hT:RepOk T t N){p:IProg}{E:IEnv}(hp:E.p.data=p.data)(hE:akX E)(j:agS T call){D:Int->Prop}(a0:(N:Int)<=nx)(ho:OpP o)
 (hf:akS p o t) (hr:0<=o.res->o.res.toNat<N) (g:∀x∈rR o,D x) (a1:gw o=true->((0<=o.a/\o.a.toNat<N)/\t.knw o.a=true)->∀w,(t.get o.a).has w->afv T (253,ac%65536) (252,w)) {v:Int->Nat} (hv:∀x,v x<65536)  (h:MG T m) (l:DI t N D v):
 afh T (DI t N (fun x=>D x∨(x=o.res/\0<=o.res))) (iq E call (ak1 nx ac o) v m):=by
 unfold ak1;refine agv (run_acc a0 hv h l fun ha=>⟨g _ (ajG (ajE ha)),a1 ha ⟨(l _ (g _ (ajG (ajE ha)))).1,(l _ (g _ (ajG (ajE ha)))).2.1⟩ _ (l _ (g _ (ajG (ajE ha)))).2.2⟩) fun v1 m1 hv1 hD1 h1=>?_
 rw[aco]
 split
 ·exact h1.out.1
 ·have hs:=aj8 hE j ho hv1 h1.pay (hT.ok.get o.a) (hT.ok.get o.b) (fun e=>(hD1 _ (g _ (ajG e))).2.2) (fun e=>(hD1 _ (g _ (mem_b e))).2.2);have hg:resG E o (t.get o.a) (t.get o.b)=ag2 p t o:=by unfold resG ag2;rw[hp]
  rw[hg] at hs
  cases u:oV E call o v1 m1.pay with
  |trap k i m'=>rw[u] at hs;exact hs
  |ok x m'=>
   rw[u] at hs
   have a2:DI t N (fun x=>D x∨(x=o.res/\0<=o.res)) (setV v1 o.res x):=fun y c=>by
    unfold setV
    by_cases d:0<=o.res
    ·rw[if_pos d];unfold iY
     by_cases e:y=o.res
     ·rw[if_pos e];obtain⟨k1,k2⟩:=hf d;rw[e];exact⟨⟨d,hr d⟩,k1,k2.has hs.1.2⟩
     ·rw[if_neg e];rcases c with c|c
      ·exact hD1 y c
      ·exact absurd c.1 e
    ·rw[if_neg d];rcases c with c|c
     ·exact hD1 y c
     ·exact absurd c.2 d
   exact akl hT (Int.le_trans a0 (ahy nx o)) (ahS hv1 hs.1.1) hs.2 a2 fun d=> .inr ⟨rfl,d⟩
theorem afh.mono {T:RepF}{P Q:(Int->Nat)->Prop}{r:Res (Int->Nat)}(h:afh T P r)(c:∀v,P v->Q v):afh T Q r:=by
 cases r with
 |ok v m=>exact⟨h.1,c v h.2.1,h.2.2⟩
 |trap k i m=>exact h
structure TrcIn (T:RepF) (t:Slv) (N:Nat) (p:IProg) (D:Int->Prop) (ac:Nat) (os:List IOp):Prop where
 op:∀o∈os,OpP o/\akS p o t/\(0<=o.res->o.res.toNat<N)
 use:∀(k:Nat) o,os[k]? =some o->∀x∈rR o,D x∨∃j o',j<k/\os[j]? =some o'/\o'.res=x/\0<=x
 acc:∀(k:Nat) o,os[k]? =some o->gw o=true->((0<=o.a/\o.a.toNat<N)/\t.knw o.a=true)->∀w,(t.get o.a).has w->afv T (253,aeJ ac (os.take k)%65536) (252,w)
theorem akc{T:RepF}{N:Nat}(hT:RepOk T t N){p:IProg}{E:IEnv}(hp:E.p.data=p.data)(hE:akX E)(d:agS T call):∀(os:List IOp) (D:Int->Prop) (nx:Int) (ac:Nat) (v:Int->Nat) (m:Mach),(N:Int)<=nx->TrcIn T t N p D ac os->(∀x,v x<65536)->MG T m->DI t N D v->
 afh T (DI t N (fun x=>D x∨∃o∈os,o.res=x/\0<=x)) (iq E call (afn nx ac os) v m)
 | [],D,nx,ac,v,m,hnx,hO,hv,h,hD=>⟨hv,(fun x hx=>by
  rcases hx with hx|⟨o,ho,_⟩
  ·exact hD x hx
  ·cases ho),h⟩
 |o::os,D,nx,ac,v,m,hnx,hO,hv,h,hD=>by
  unfold afn;obtain⟨h1,h2,h3⟩:=hO.op o (.head _);refine agv (run_op hT hp hE d hnx h1 h2 h3 (fun x hx=>?_) (fun ha hk w hw=>hO.acc 0 o rfl ha hk w hw) hv h hD) fun v1 m1 hv1 hD1 hm1=>?_
  ·rcases hO.use 0 o rfl x hx with u|⟨j,_,y,_⟩
   ·exact u
   ·exact absurd y (Nat.not_lt_zero _)
  ·refine(akc hT hp hE d os _ (akO nx o) (af5 ac o) v1 m1 (Int.le_trans hnx (aiG nx o)) ⟨fun o' c=>hO.op o' (.tail _ c),fun k o' hk x hx=>?_,fun k o' hk ha hkn w hw=>?_⟩ hv1 hm1 hD1).mono fun v2 hv2 x hx=>hv2 x ?_
   ·rcases hO.use (k+1) o' (by simpa using hk) x hx with u|⟨j,o2,y,l,g,i⟩
    ·exact .inl (.inl u)
    ·cases j with
     |zero=>simp at l;subst l;exact .inl (.inr ⟨g.symm,by omega⟩)
     |succ j=>exact .inr ⟨j,o2,by omega,by simpa using l,g,i⟩
   ·exact hO.acc (k+1) o' (by simpa using hk) ha hkn w hw
   ·rcases hx with hx|⟨o',c,g,i⟩
    ·exact .inl (.inl hx)
    ·rcases Jq.1 c with rfl|c
     ·exact .inl (.inr ⟨g.symm,by omega⟩)
     ·exact .inr ⟨o',c,g,i⟩
theorem aja{T:RepF}{N:Nat}(hT:RepOk T t N){E:IEnv}:∀(ps:List Int) (D:Int->Prop) (nx:Int) (v:Int->Nat) (m:Mach),(N:Int)<=nx->(∀x∈ps,D x)->(∀x,v x<65536)->MG T m->DI t N D v->
 afh T (DI t N D) (iq E call (aeO nx ps) v m)
 | [],D,nx,v,m,hnx,hp,hv,h,hD=>⟨hv,hD,h⟩
 |x::ps,D,nx,v,m,hnx,hp,hv,h,hD=>by
  unfold aeO;exact agv (akl hT hnx hv h hD fun _=>hp x (.head _)) fun v1 m1 hv1 hD1 hm1=>aja hT ps D (aeP nx x) v1 m1 (Int.le_trans hnx (afR nx x)) (fun y hy=>hp y (.tail _ hy)) hv1 hm1 hD1
theorem aef{α β:Type}(f:α->List β){l:List α}{b:α}(hk:l[k]? =some b):(l.flatMap f).Perm (f b++(l.eraseIdx k).flatMap f):=by
 obtain⟨c,hb⟩:=Jh.1 hk
 have e1:l=l.take k++b::l.drop (k+1):=by
  rw[<-hb,Ue,Qi]
 rw[List.eraseIdx_eq_take_drop_succ]
 conv=>lhs;rw[e1]
 classical
 refine Jp.2 fun y=>?_
 simp only[Nx,Qa,Nb];omega
structure RwMid (w:World) (p1 o5:Nat) (pc:List Value) (BX:List (Nat×List Value×TypeId)) (RS:List Row) (wx:World):Prop where
 hr:wx.heap[p1+1]? =some (.cells #[.slice none 0 0,.slice none 0 0,.int .i64 0,.int .i64 0,.slice none 0 0,.slice none 0 0] 29 (0,0))
 ho:wx.heap[o5]? =some (.cells pc.toArray 29 (0,0))
 bx:∀x∈BX,wx.heap[x.1]? =some (.cells x.2.1.toArray x.2.2 (0,0))/\o5<x.1/\x.1 ∉ RS.filterMap Row.blk
 bel:Below p1 w wx
 base:p1=w.heap.size
 rows:Rows wx (p1+1+1) RS
 far:o5 ∉ RS.filterMap Row.blk
 nd:(BX.map (·.1)).Nodup
 ge:p1+1<o5
section
variable {w:World} {p1 o5:Nat} {pc:List Value} {BX:List (Nat×List Value×TypeId)} {RS:List Row} {wx:World} (h:RwMid w p1 o5 pc BX RS wx)
include h
theorem RwMid.lt:p1+1<o5/\o5<wx.heap.size:=⟨h.ge,lt_of_block h.ho⟩
theorem RwMid.perm {RS':List Row}(hp:RS.Perm RS'):RwMid w p1 o5 pc BX RS' wx:=
 ⟨h.hr,h.ho,fun x hx=>⟨(h.bx x hx).1,(h.bx x hx).2.1,fun e=>(h.bx x hx).2.2 ((hp.filterMap Row.blk).mem_iff.2 e)⟩,h.bel,h.base,h.rows.perm hp,fun e=>h.far ((hp.filterMap Row.blk).mem_iff.2 e),h.nd,h.ge⟩
theorem RwMid.below(hb:Y wx w'):RwMid w p1 o5 pc BX RS w':=
 ⟨zH hb h.hr (lt_of_block h.hr),zH hb h.ho (lt_of_block h.ho),fun x hx=>⟨zH hb (h.bx x hx).1 (lt_of_block (h.bx x hx).1),(h.bx x hx).2⟩,h.bel.trans (hb.mono (by have:=h.lt;omega)),h.base,h.rows.below hb,h.far,h.nd,h.ge⟩
theorem RwMid.box (cs:List Value)(t:TypeId):RwMid w p1 o5 pc ((wx.heap.size,cs,t)::BX) RS (wx.alloc (G cs.toArray t)):=by
 have h1:=h.below ((Below.refl _ _).alloc (Je _) (G cs.toArray t));refine⟨h1.hr,h1.ho,fun x c=>?_,h1.bel,h1.base,h1.rows,h1.far,?_,h1.ge⟩
 ·rcases Jq.1 c with rfl|c
  ·exact⟨zI rfl,h.lt.2,fun e=>by have:=(h.rows.lt e).2;simp at this⟩
  ·exact h1.bx x c
 ·rw[Ql];refine Qt.2 ⟨fun e=>?_,h.nd⟩;obtain⟨x,c,e2⟩:=Nu.1 e;have:=lt_of_block (h.bx x c).1;have e3:x.1=wx.heap.size:=e2;omega
theorem RwMid.few {B1 B2:List (Nat×List Value×TypeId)}(e:BX=B1++B2):RwMid w p1 o5 pc B2 RS wx:=by
 subst e;exact⟨h.hr,h.ho,fun x hx=>h.bx x (Qf _ hx),h.bel,h.base,h.rows,h.far,by have:=h.nd;rw[Js] at this;exact(Qq.1 this).2.1,h.ge⟩
theorem RwMid.put{r:Row}(hp:RS.Perm (r::rs))(hg:r.blk=some g)(hv:r'.v=r.v)(j:(wx.setCell ⟨g,i,none⟩ u).ownsRow (p1+1+1) r'.e r'.sz r'.v r'.n r'.cs):RwMid w p1 o5 pc BX (r'::rs) (wx.setCell ⟨g,i,none⟩ u):=by
 have h1:=h.perm hp;have c:g∈(r::rs).filterMap Row.blk:=Nj.2 ⟨r,.head _,hg⟩;have l:=(h1.rows.lt c).1
 have d:(r'::rs).filterMap Row.blk=(r::rs).filterMap Row.blk:=by
  rw[List.filterMap_cons,List.filterMap_cons];have:r'.blk=r.blk:=by unfold Row.blk;rw[hv]
  rw[this]
 have hl:=h.lt;refine⟨zR h.hr (by show p1+1≠g;omega),zR h.ho (fun e=>h1.far (by have e':o5=g:=e;rw[e'];exact c)),fun x hx=>?_,h.bel.setCell (by show p1<=g;omega) _,h.base,?_,by rw[d];exact h1.far,h.nd,h.ge⟩
 ·obtain⟨k1,k2,k3⟩:=h1.bx x hx;exact⟨zR k1 (fun e=>k3 (by have e':x.1=g:=e;rw[e'];exact c)),k2,by rw[d];exact k3⟩
 ·exact h1.rows.put hg (fun k hk=>Below.heap_setCell _ _ _ _ hk) j hv
theorem RwMid.grow{r:Row}(hp:RS.Perm (r::rs))(c:Y wx w1)(hg:w1.grownBy w9 r.blk)
 (l:w9.ownsRow (p1+1+1) r'.e r'.sz r'.v r'.n r'.cs) (j:∀k,r'.blk=some k->r.blk=some k∨wx.heap.size<=k):RwMid w p1 o5 pc BX (r'::rs) w9:=by
 have hl:=h.lt;have h1:=h.perm hp;have g:∀k,r.blk=some k->k∈(r::rs).filterMap Row.blk:=fun k e=>Nj.2 ⟨r,.head _,e⟩
 have keep:∀ {k:Nat} {o:Obj},wx.heap[k]? =some o->(k<p1+1+1∨k ∉ (r::rs).filterMap Row.blk)->w9.heap[k]? =some o:=fun {k o} hk hq=>((hg.block k (Jy (lt_of_block hk) c.size) (fun e=>by
  have m:=g k e.symm;rcases hq with hq|hq
  ·have:=(h1.rows.lt m).1;omega
  ·exact hq m)).trans (c.block k (lt_of_block hk))).trans hk
 have i:∀b,b<wx.heap.size->b ∉ (r::rs).filterMap Row.blk->b ∉ (r'::rs).filterMap Row.blk:=fun b hb hn he=>by
  obtain⟨x,d,e⟩:=Nj.1 he;rcases Jq.1 d with rfl|d
  ·rcases j b e with e2|e2
   ·exact hn (g b e2)
   ·omega
  ·exact hn (Nj.2 ⟨x,.tail _ d,e⟩)
 refine⟨keep h.hr (.inl Zo),keep h.ho (.inr h1.far),fun x d=>?_,?_,h.base,h1.rows.grow c hg l j,i _ Zo h1.far,h.nd,h.ge⟩
 ·obtain⟨k1,k2,k3⟩:=h1.bx x d;exact⟨keep k1 (.inr k3),k2,i _ (lt_of_block k1) k3⟩
 ·refine h.bel.trans ⟨hg.os.trans c.os,hg.tape.trans c.tape,hg.output.trans c.output,Jn c.size hg.size,fun k hk=>?_⟩;exact(hg.block k (by have:=c.size;omega) (fun e=>by have:=(h1.rows.lt (g k e.symm)).1;omega)).trans (c.block k Zo)
theorem RwMid.nil {r:Row}(hr:wx.ownsRow (p1+1+1) r.e r.sz r.v r.n r.cs)(hk:r.blk=none):RwMid w p1 o5 pc BX (r::RS) wx:=by
 refine⟨h.hr,h.ho,fun x hx=>⟨(h.bx x hx).1,(h.bx x hx).2.1,?_⟩,h.bel,h.base,h.rows.cons hr (fun g e=>by rw[hk] at e;cases e),?_,h.nd,h.ge⟩
 ·rw[List.filterMap_cons,hk];exact(h.bx x hx).2.2
 ·rw[List.filterMap_cons,hk];exact h.far
theorem RwMid.getI{v:Value}(hm:zP v xs∈RS)(hk:xs[k]? =some x):∃g c,v=T g xs.length c/\A wx g k (U x)/\N wx g k/\g<wx.heap.size/\v.ownBlock=some g:=by
 have h1:=h.rows.own _ hm;unfold zP at h1;have h2:wx.ownsRow (p1+1+1) 3 1 v xs.length (xs.flatMap fun x=> [zN x]):=by rw[<-Qh];exact h1
 have j:=(Jh.1 hk).1;obtain⟨g,c,e,hg,hb⟩:=h2.form Zo;have d:v.ownBlock=some g:=by rw[e];rfl
 have h3:=wb (f:=fun x:Int=> [zN x]) (n:=1) (fun _=>rfl) h2 d hk 0 _ rfl;have i:=zq (n:=1) Zd (f:=fun x:Int=> [zN x]) (fun _=>rfl) h2 d hk 0 Zd;rw[Nk] at h3 i;exact⟨g,c,e,h3,i.2,hb,d⟩
theorem RwMid.getS{α:Type}{f:α->List Value}{n:Nat}(i:0<n)(hf:∀a,(f a).length=n){r:Row}{l:List α}(hm:r∈RS)(hr:r.sz=n/\r.n=l.length/\r.cs=l.flatMap f){b:α}(hk:l[k]? =some b):∃g c,r.v=T g l.length c/\(∀j u,(f b)[j]? =some u->A wx g (k*n+j) u)/\(∀j,j<n->N wx g (k*n+j))/\g<wx.heap.size/\r.v.ownBlock=some g:=by
 have h1:=h.rows.own _ hm;rw[hr.1,hr.2.1,hr.2.2] at h1;have m:=(Jh.1 hk).1;obtain⟨g,c,e,hg,hb⟩:=h1.form Zo;have d:r.v.ownBlock=some g:=by rw[e];rfl
 exact⟨g,c,e,wb hf h1 d hk,fun j hj=>(zq i hf h1 d hk j hj).2,hb,d⟩
theorem RwMid.readS{α:Type}{f:α->List Value}{n:Nat}(c:0<n)(hf:∀a,(f a).length=n){r:Row}{l:List α}(hm:r∈RS)(hr:r.sz=n/\r.n=l.length/\r.cs=l.flatMap f)(hg:r.v.ownBlock=some g){b:α}(hk:l[k]? =some b):(∀j u,(f b)[j]? =some u->A wx g (k*n+j) u)/\(∀j,j<n->N wx g (k*n+j))/\g<wx.heap.size:=by
 have h1:=h.rows.own _ hm;rw[hr.1,hr.2.1,hr.2.2] at h1;exact⟨wb hf h1 hg hk,fun j hj=>(zq c hf h1 hg hk j hj).2,(h1.lt g hg).2⟩
theorem RwMid.formI{v:Value}(hm:zP v xs∈RS):∃a c,v=.slice a xs.length c:=zG (h.rows.own _ hm)
theorem RwMid.putS{α:Type}{f:α->List Value}{n:Nat}(hf:∀a,(f a).length=n){r:Row}{l:List α}{a b:α}(hp:RS.Perm (r::rs))(hr:r.sz=n/\r.n=l.length/\r.cs=l.flatMap f)(hg:r.v.ownBlock=some g)(hk:l[k]? =some b)(c:j<n)(d:(f b).set j u=f a):
 RwMid w p1 o5 pc BX (⟨r.v,r.e,n,(l.set k a).length,(l.set k a).flatMap f⟩::rs) (wx.setCell ⟨g,k*n+j,none⟩ u):=by
 refine h.put hp hg rfl ?_;have h1:=(h.perm hp).rows.own _ (.head _);rw[hr.1,hr.2.1,hr.2.2] at h1;have h3:=yp hf h1 hg hk c d
 show(wx.setCell ⟨g,k*n+j,none⟩ u).ownsRow (p1+1+1) r.e n r.v (l.set k a).length ((l.set k a).flatMap f)
 rw[Nd];exact h3
end
theorem RwMid.start{w2:World}{t:PT}{o:Obj}(d:w.heap.size=p1)(g:w2.heap.size=o5)
 (hr:Rows w2 ((w.alloc o).alloc (G #[L,L,U 0,U 0,L,L] 29)).heap.size t.rows)
 (hb:Y ((w.alloc o).alloc (G #[L,L,U 0,U 0,L,L] 29)) w2):
 RwMid w p1 o5 (zW t) [] t.rows (w2.alloc (G (zW t).toArray 29)):=by
 subst d g;have hs:((w.alloc o).alloc (G #[L,L,U 0,U 0,L,L] 29)).heap.size=w.heap.size+1+1:=by simp
 have h1:=zI (W:=w.alloc o) (o:=G #[L,L,U 0,U 0,L,L] 29) (B:=w.heap.size+1) Zs;have h3:Y w ((w.alloc o).alloc (G #[L,L,U 0,U 0,L,L] 29)):=((Below.refl _ _).alloc (Je _) _).alloc Zs _;have c:=hb.size;rw[hs] at hr hb c;have h:∀k,k∈t.rows.filterMap Row.blk->k<w2.heap.size:=fun k hk=>(hr.lt hk).2
 refine⟨zB (zH hb h1 Zo),zI rfl,fun x hx=>(List.not_mem_nil hx).elim,?_,rfl,?_,fun e=>by have:=h _ e;omega,List.nodup_nil,by omega⟩
 ·exact(h3.trans (hb.mono Zo)).alloc Zo _
 ·exact hr.below ((Below.refl _ _).alloc (Je _) _)
theorem RwMid.ret{pc:List Value}{BX:List (Nat×List Value×TypeId)}{t:PT}{RS:List Row}{wx:World}(h:RwMid w p1 o5 pc BX RS wx)(i:∃RX,RS.Perm (t.rows++RX))(j:pc=zW t){v0 v1 v2 v3 v4 v5:Value}(g:(zW t).toArray=#[v0,v1,v2,v3,v4,v5]){p:IProg}(hp:t.prog=p):
 PtRet w p (.returned (.agg #[v0,v1,v2,v3,v4,v5])) ((((((wx.setCell ⟨p1+1,0,none⟩ v0).setCell ⟨p1+1,1,none⟩ v1).setCell ⟨p1+1,2,none⟩ v2).setCell ⟨p1+1,3,none⟩ v3).setCell ⟨p1+1,4,none⟩ v4).setCell ⟨p1+1,5,none⟩ v5):=by
 have e:zW t=[v0,v1,v2,v3,v4,v5]:=congrArg Array.toList g;unfold zW at e;simp only[List.cons.injEq,and_true] at e;obtain⟨rfl,rfl,rfl,rfl,rfl,rfl⟩:=e;obtain⟨RX,d⟩:=i;refine⟨t,rfl,hp,?_,?_⟩
 ·have hb:=h.base;refine((h.rows.perm d).left.base (show w.heap.size<=p1+1+1 by omega)).keep fun k hk=>?_
  have c:k≠p1+1:=fun e=>by have:=((h.rows.perm d).left.lt hk).1;omega
  exact(Below.heap_setCell _ _ _ _ c).trans ((Below.heap_setCell _ _ _ _ c).trans ((Below.heap_setCell _ _ _ _ c).trans ((Below.heap_setCell _ _ _ _ c).trans ((Below.heap_setCell _ _ _ _ c).trans (Below.heap_setCell _ _ _ _ c)))))
 ·have hb:=h.bel;rw[h.base] at hb ⊢;exact(((((hb.setCell (by show w.heap.size<=w.heap.size+1;omega) _).setCell (by show w.heap.size<=w.heap.size+1;omega) _).setCell (by show w.heap.size<=w.heap.size+1;omega) _).setCell (by show w.heap.size<=w.heap.size+1;omega) _).setCell (by show w.heap.size<=w.heap.size+1;omega) _).setCell (by show w.heap.size<=w.heap.size+1;omega) _
def aho (o:IOp):IOp×Value:=(o,L)
abbrev ak0:=List (IOp×Value)×Int×Nat
def tqI (S:ak0):Int ⊕ (IOp×Value)->ak0
 |.inl v=>(S.1++(ae4 S.2.1 v).map aho,aeP S.2.1 v,S.2.2)
 |.inr q=>(S.1++(afF S.2.1 S.2.2 q.1).map aho++ [q]++(ae4 (aeU S.2.1 q.1) q.1.res).map aho,aeP (aeU S.2.1 q.1) q.1.res,af5 S.2.2 q.1)
def tqS (ps:List Int)(qs:List (IOp×Value))(nx:Int)(ac j:Nat):ak0:=((ps.map Sum.inl++qs.map Sum.inr).take j).foldl tqI ([],nx,ac)
theorem tqS_par{v:Int}(h:ps[j]? =some v):tqS ps qs nx ac (j+1)=tqI (tqS ps qs nx ac j) (.inl v):=by
 have hl:=(Jh.1 h).1;unfold tqS;rw[Nh,Np (by rw[Nr];exact hl),Jr,h,List.foldl_append];rfl
theorem tqS_op{q:IOp×Value}(c:ps.length<=j)(h:qs[j-ps.length]? =some q):tqS ps qs nx ac (j+1)=tqI (tqS ps qs nx ac j) (.inr q):=by
 unfold tqS;rw[Nh,Nc (by rw[Nr];exact c),Nr,Jr,h,List.foldl_append];rfl
theorem aiW:∀(ps:List Int) (S:ak0),(ps.map Sum.inl).foldl tqI S=(S.1++(aeO S.2.1 ps).map aho,aeB S.2.1 ps,S.2.2)
 | [],S=>by obtain⟨a,b,c⟩:=S;simp[aeO,aeB]
 |v::ps,S=>by
  rw[Ql,Qk,aiW ps];obtain⟨a,b,c⟩:=S;simp[tqI,aeO,aeB]
theorem aiU (l:List IOp):(l.map aho).map (·.1)=l:=by
 rw[List.map_map];exact List.map_id _
theorem aj9:∀(qs:List (IOp×Value)) (S:ak0),(((qs.map Sum.inr).foldl tqI S).1.map (·.1)=S.1.map (·.1)++afn S.2.1 S.2.2 (qs.map (·.1)))/\((qs.map Sum.inr).foldl tqI S).2=(agD S.2.1 (qs.map (·.1)),aeJ S.2.2 (qs.map (·.1)))
 | [],S=>by obtain⟨a,b,c⟩:=S;simp[afn,agD,aeJ]
 |q::qs,S=>by
  rw[Ql,Qk];obtain⟨h1,h2⟩:=aj9 qs (tqI S (.inr q));obtain⟨a,b,c⟩:=S;refine⟨h1.trans ?_,h2.trans rfl⟩;simp only[tqI,Js,aiU,Ql,List.map_nil,afn,ak1,akO];simp
theorem tqS_full{n:Nat}(c:n=ps.length+qs.length):(tqS ps qs nx ac n).1.map (·.1)=aeO nx ps++afn (aeB nx ps) ac (qs.map (·.1))/\(tqS ps qs nx ac n).2=(agD (aeB nx ps) (qs.map (·.1)),aeJ ac (qs.map (·.1))):=by
 subst c;unfold tqS;rw[Oy (by rw[Jk,Nr,Nr];omega),List.foldl_append,aiW];obtain⟨h1,h2⟩:=aj9 qs (([]:List (IOp×Value))++(aeO nx ps).map aho,aeB nx ps,ac);refine⟨h1.trans ?_,h2⟩;rw[Op,aiU]
theorem ah8 (nx v:Int):(ae4 nx v).length<=3/\nx<=aeP nx v/\aeP nx v<=nx+1:=by
 unfold ae4 aeP
 split
 ·exact⟨Je _,by omega,by omega⟩
 ·exact⟨Jt _,by omega,by omega⟩
theorem ahI (nx:Int)(ac:Nat)(o:IOp):(afF nx ac o).length<=3/\(nx<=aeU nx o/\aeU nx o<=nx+1)/\af5 ac o<=ac+1:=by
 unfold afF aeU af5
 split
 ·exact⟨Je _,by omega,by omega⟩
 ·exact⟨Jt _,by omega,by omega⟩
theorem tqI_len (S:ak0)(x:Int ⊕ (IOp×Value)):(tqI S x).1.length<=S.1.length+7/\(S.2.1<=(tqI S x).2.1/\(tqI S x).2.1<=S.2.1+2)/\(tqI S x).2.2<=S.2.2+1:=by
 obtain⟨a,b,c⟩:=S
 cases x with
 |inl v=>
  have h:=ah8 b v;refine⟨?_,⟨h.2.1,?_⟩,?_⟩
  ·show(a++(ae4 b v).map aho).length<=a.length+7
   rw[Jk,Nr];omega
  ·show aeP b v<=b+2
   omega
  ·show c<=c+1
   omega
 |inr q=>
  have h:=ahI b c q.1;have h2:=ah8 (aeU b q.1) q.1.res;refine⟨?_,⟨?_,?_⟩,h.2.2⟩
  ·show(a++(afF b c q.1).map aho++ [q]++(ae4 (aeU b q.1) q.1.res).map aho).length<=a.length+7
   simp only[Jk,Nr,Ju];omega
  ·show b<=aeP (aeU b q.1) q.1.res
   omega
  ·show aeP (aeU b q.1) q.1.res<=b+2
   omega
theorem akI:∀(l:List (Int ⊕ (IOp×Value))) (S:ak0),(l.foldl tqI S).1.length<=S.1.length+l.length*7/\(S.2.1<=(l.foldl tqI S).2.1/\(l.foldl tqI S).2.1<=S.2.1+l.length*2)/\(l.foldl tqI S).2.2<=S.2.2+l.length
 | [],S=>⟨by simp,⟨Og _,by simp⟩,by simp⟩
 |x::l,S=>by
  have h1:=akI l (tqI S x);have h2:=tqI_len S x;rw[Qk,Nq];refine⟨?_,⟨?_,?_⟩,?_⟩<;>omega
theorem tqS_len (ps:List Int)(qs:List (IOp×Value))(nx:Int)(ac j:Nat):(tqS ps qs nx ac j).1.length<=j*7/\(nx<=(tqS ps qs nx ac j).2.1/\(tqS ps qs nx ac j).2.1<=nx+j*2)/\(tqS ps qs nx ac j).2.2<=ac+j:=by
 unfold tqS;have h:=akI ((ps.map Sum.inl++qs.map Sum.inr).take j) ([],nx,ac);have hl:((ps.map Sum.inl++qs.map Sum.inr).take j).length<=j:=by rw[Oc];omega
 have h1:(([]:List (IOp×Value)),nx,ac).1.length=0:=rfl;have h2:(([]:List (IOp×Value)),nx,ac).2.1=nx:=rfl;have h3:(([]:List (IOp×Value)),nx,ac).2.2=ac:=rfl;rw[h1,h2,h3] at h;refine⟨?_,⟨h.2.1.1,?_⟩,?_⟩<;>omega
theorem grp_args (nx:Int)(n P:Nat)(x:Int)(Q:Nat):∀o∈grp nx n P x Q,o.args=[]:=by
 intro o ho;simp only[grp,Jq,List.not_mem_nil,or_false] at ho;rcases ho with rfl|rfl|rfl<;>rfl
theorem ag1{α β:Type}(f:α->List β){l:List α}(hk:k<l.length)(a:α):((l.set k a).flatMap f).Perm (f a++(l.eraseIdx k).flatMap f):=by
 have h:=aef f (l:=l.set k a) (k:=k) (b:=a) (by rw[Nn hk]);rw[List.eraseIdx_set_eq] at h;exact h
section
variable {w:World} {p1 o5:Nat} {pc:List Value} {BX:List (Nat×List Value×TypeId)} {wx:World}
theorem RwMid.addO{L M:List (IOp×Value)}{ov:Value}(h:RwMid w p1 o5 pc BX (ma ov L::X) wx)(d:Y wx w1)(hg:w1.grownBy w9 ov.ownBlock)
 (g:w9.ownsRow (p1+1+1) 76 6 c (L.length+M.length) (L.flatMap zU++M.flatMap zU)) (i:c.ownBlock=ov.ownBlock∨c.ownBlock=some w1.heap.size):RwMid w p1 o5 pc BX (ma c (L++M)::X) w9:=by
 refine h.grow (r':=ma c (L++M)) (Uq _) d hg ?_ fun k e=>?_
 ·show w9.ownsRow _ _ 6 c (L++M).length ((L++M).flatMap zU)
  rw[Jk,Nx];exact g
 ·have e:c.ownBlock=some k:=e;rcases i with h1|h1
  ·exact .inl (h1.symm.trans e)
  ·rw[h1] at e;cases e;exact .inr d.size
theorem RwMid.nils:∀(l:List IOp) {RS:List Row},(∀o∈l,o.args=[])->RwMid w p1 o5 pc BX RS wx->RwMid w p1 o5 pc BX (wI (l.map aho)++RS) wx
 | [],_,_,h=>h
 |o::l,RS,ha,h=>by
  have h1:=RwMid.nils l (fun x hx=>ha x (.tail _ hx)) h;refine h1.nil (r:=zP (L) o.args) ?_ rfl;rw[ha o (.head _)];exact Jv _ _ _ _
theorem RwMid.addG{L:List (IOp×Value)}{ov:Value}{n P Q:Nat}(h:RwMid w p1 o5 pc BX (ma ov L::(wI L++X)) wx)(g:Y wx w1)(hg:w1.grownBy w9 ov.ownBlock)
 (d:w9.ownsRow (p1+1+1) 76 6 c (L.length+3) (L.flatMap zU++ [U 1,U nx,U 0,U 0,O n,.slice none 0 0,U 25,U (-1),U nx,U 0,O P,.slice none 0 0,U 25,U (-1),U x,U 0,O Q,.slice none 0 0])) (i:c.ownBlock=ov.ownBlock∨c.ownBlock=some w1.heap.size):
 RwMid w p1 o5 pc BX (ma c (L++(grp nx n P x Q).map aho)::(wI (L++(grp nx n P x Q).map aho)++X)) w9:=by
 have h1:=h.addO (M:=(grp nx n P x Q).map aho) g hg d i;refine(RwMid.nils (grp nx n P x Q) (grp_args _ _ _ _ _) h1).perm ?_
 classical
 refine Jp.2 fun y=>?_
 simp only[wI,Js,Nb,Nf];omega
theorem RwMid.add1{L:List (IOp×Value)}{ov:Value}{q:IOp×Value}(h:RwMid w p1 o5 pc BX (ma ov L::(wI L++(wI (q::qs)++X))) wx)(g:Y wx w1)(hg:w1.grownBy w9 ov.ownBlock)
 (d:w9.ownsRow (p1+1+1) 76 6 c (L.length+1) (L.flatMap zU++zU q)) (i:c.ownBlock=ov.ownBlock∨c.ownBlock=some w1.heap.size):
 RwMid w p1 o5 pc BX (ma c (L++ [q])::(wI (L++ [q])++(wI qs++X))) w9:=by
 refine(h.addO (M:=[q]) g hg (by rw[Qa,List.flatMap_nil,Ua];exact d) i).perm ?_
 classical
 refine Jp.2 fun y=>?_
 simp only[wI,Js,Ql,List.map_nil,Nb,Nf,List.count_nil];omega
end
end Go.Proofs.YtoahcpkibpomcaaGreat
