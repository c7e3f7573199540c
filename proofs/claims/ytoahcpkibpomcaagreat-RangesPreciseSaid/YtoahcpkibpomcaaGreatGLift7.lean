/- Part of a proof. -/
import Derived.Test.YtoahcpkibpomcaaGreatGRFun0
import Derived.Deep.Slices
import Derived.OpenShut
import Derived.ProofKit
set_option linter.all false
set_option maxHeartbeats 6400000
set_option maxRecDepth 100000
namespace Go.Proofs.YtoahcpkibpomcaaGreat
open Go.RowKit
variable {w w3:World}{K:MKC}{m:Mach}{g:List (List Nat)}{i k vb vn:Nat}{l:List BM}{bl blocks:List IBlk}{Df W:Int->Int->Int->Prop}{d:wO}{q:BM}{X:Nat->Prop}{M M':MS}{vv:Value}{c j:Int}{o:IOp}{call:Int->List Nat->Mach->Res Nat}
theorem xN{w':World}{row:Option Nat}(h:w.drew.grownBy w' row):w.grownBy w' row:=⟨h.os,h.tape,h.output,h.size,h.block⟩
theorem step_ar{K:MK}{ov:Value}(h:MachAt w K m ov){oc g oa ob:Int}{on:Nat}(a2:I64 oa)(a1:I64 ob)(b4:on<65536)(ab:Option Addr)(an ac:Nat){v:Int->Nat}(hv:xO w vb vn v)(d:Int)(hc:5<=oc/\oc<=17):
 A 155 #[Q K.pm,.agg #[I oc,I g,I oa,I ob,U on,.slice ab an ac],.map (some vb),I d] w (zQ K w (iy m oc (v oa) (v ob))):=by
 have u:=fun(W:World) (hW:Frm K.B w W)=>(hv.kept hW).look a2
 have t:=fun(W:World) (hW:Frm K.B w W)=>(hv.kept hW).look a1
 have q:=hv.2 oa;have l:=hv.2 ob;have b5:=h.size;have a0:=Ja (h.keep ((Below.refl _ _).alloc (Je _) (G #[I oc,I g,I oa,I ob,U on,.slice ab an ac] 76)));have j:=Ja ((Frm.refl K.B w).alloc Zo (G #[I oc,I g,I oa,I ob,U on,.slice ab an ac] 76));have la:=fun n:Nat=>u _ (j.out.drewN (n:=n))
 have lb:=fun n:Nat=>t _ (j.out.drewN (n:=n))
 have i:=zI (W:=w) (o:=G #[I oc,I g,I oa,I ob,U on,.slice ab an ac] 76) rfl;clear h hv u t;generalize v oa=xa at *;generalize v ob=xb at *;go_enter Tryz.func155,Tryz.ntmps155;go_upto_region 1 with fail;generalize a3:w.alloc (G #[I oc,I g,I oa,I ob,U on,.slice ab an ac] 76)=W1 at *;clear a3;have p0:=K0 i;have p2:=K2 i;have p3:=K3 i;have p4:=K4 i
 go_cut [9,10] (fun x y wx=>x=U xa/\y=U xb/\∃n,wx=W1.drewN n)
 case first=>
  go_quiet (fail);go_wp2;go_meet;exact⟨rfl,rfl,_,rfl⟩
 case rest=>
  obtain⟨rfl,rfl,n,rfl⟩:=hcut;have HM:=Ja (a0.out.drewN n);have HF:=Ja (j.out.drewN (n:=n));have q0:(W1.drewN n).cell? ⟨w.heap.size,0,none⟩=_:=p0;have q2:(W1.drewN n).cell? ⟨w.heap.size,2,none⟩=_:=p2;have q4:(W1.drewN n).cell? ⟨w.heap.size,4,none⟩=_:=p4;clear la lb p0 p2 p3 p4 i a0 j;generalize W1.drewN n=W2 at *;have t1:((oc:Int)==1)=false:=Ze;have t2:((oc:Int)==2)=false:=Ze;have t3:((oc:Int)==3)=false:=Ze;have t4:((oc:Int)==4)=false:=Ze;have b3:((oc:Int)==18)=false:=Ze;have b2:((oc:Int)==19)=false:=Ze;have b1:((oc:Int)==20)=false:=Ze;have b0:((oc:Int)==21)=false:=Ze;have a9:((oc:Int)==22)=false:=Ze;have a8:((oc:Int)==23)=false:=Ze;have a7:((oc:Int)==24)=false:=Ze;have a6:((oc:Int)==25)=false:=Ze;have a5:((oc:Int)==26)=false:=Ze;have a4:((oc:Int)==27)=false:=Ze;have c:=jD oc hc xa xb q l;unfold rq at c
  by_cases k:oc=8/\xb=0
  ·have EE:=Ja (show iy m oc xa xb=.trap 4 0 m by unfold iy;rw[if_pos k]);simp only[if_pos k] at c;have HC:=Ja c;clear hc c k;go_wp2_with (go_at_call 163;go_must (refine(HC.out _).mono ?_;rintro e w' ⟨rfl,rfl⟩))
   exact⟨rfl,by rw[EE.out];exact zQ.trap HM.out HF.out⟩
  ·have EE:=Ja (show iy m oc xa xb=.ok (yW oc xa xb) m by unfold iy;rw[if_neg k]);simp only[if_neg k] at c;have HC:=Ja c;clear hc c k;go_wp2_with (go_at_call 163;go_must (refine(HC.out _).mono ?_;rintro e w' ⟨rfl,rfl⟩))
   go_ret;rw[EE.out];exact zQ.ok HM.out HF.out (jz _ _ _ q l)
theorem tu{B:Nat}{V:PV}{p:IProg}(hp:ProgIn w B V p)(hB:B<=w.heap.size)(hs:∀f∈p.funcs,vZ f):
 A 35 #[yH V p] w (m9 w (vC p)):=by
 have d:∀W,O w W->A 68 #[yH V p] W (m9 W (sR p)):=fun W hb=>kB ((hp.below (hb.mono hB)).mono (Jn hB hb.size))
 have k:∀W n,O w W->sR p=0->n<p.funcs.length->A 69 #[yH V p,I n] W (ym W (yi p n)):=fun W n hb h0 hn=>by
  obtain⟨_,h1,h2,_⟩:=se h0;exact nA (hp.below (hb.mono hB)) (Jn hB hb.size) h1 h2 hs hn
 obtain⟨Vf,Va,Vd,Vb⟩:=V;obtain⟨f1,f2,e1,_,_⟩:=hp.funcs.form;obtain⟨a1,a2,e2,_,_⟩:=hp.args.form;obtain⟨d1,d2,e3,_,_⟩:=hp.data.form;obtain⟨b1,b2,e4,_,_⟩:=hp.banks.form;simp only at e1 e2 e3 e4;subst e1 e2 e3 e4;have b4:p.funcs.length<=9223372036854775807:=Zo;unfold yH at d k ⊢;simp only at d k ⊢;have HH:=Ja d;have HF:=Ja k;have a8:O w (w.alloc (G (R p f1 f2 a1 a2 d1 d2 b1 b2) 29)):=(Below.refl _ _).alloc (Je _) _;have c:=zI (W:=w) (o:=G (R p f1 f2 a1 a2 d1 d2 b1 b2) 29) rfl;obtain⟨res,t⟩:∃x,vC p=x:=⟨_,rfl⟩
 rw[t];have u:=Ja t;obtain⟨eh,a4⟩:∃x,sR p=x:=⟨_,rfl⟩
 rw[a4] at HH;have m:=Ja a4;clear hp hB hs d k t a4;go_enter Tryz.func35,Tryz.ntmps35;go_upto_region 1 with fail;generalize b3:w.alloc (G (R p f1 f2 a1 a2 d1 d2 b1 b2) 29)=W0 at *;have y0:=K0 c;have y1:=K1 c;have y2:=K2 c;have y3:=K3 c;have y4:=K4 c;have y5:=K5 c;have H0:=Ja (show O w W0/\L W0 w.heap.size (R p f1 f2 a1 a2 d1 d2 b1 b2) 29 from⟨a8,c⟩);clear a8 c b3;go_upto_region 2 with(first|(go_at_call 68;go_must (refine(HH.out _ H0.out.1).mono ?_;rintro e w1 ⟨rfl,a5⟩))|go_in)
 have j:=Ja (show O w w1/\L w1 w.heap.size (R p f1 f2 a1 a2 d1 d2 b1 b2) 29 from⟨H0.out.1.trans (a5.mono H0.out.1.size),zH a5 H0.out.2 (lt_of_block H0.out.2)⟩);clear a5 y0 y1 y2 y3 y4 y5
 by_cases hz:eh=0
 ·subst hz;have y0:=K0 j.out.2;go_wp2
  go_loopw [13] (fun iv wx=>∃i:Nat,i<=p.funcs.length/\iv=I i/\Hid (O w1 wx/\∀n,n<i->yi p n=true)) (fun iv _=>p.funcs.length-(intOf iv).toNat)
  case atStart=>exact⟨0,Jt _,rfl,Ja ⟨Below.refl _ _,fun n hn=>by omega⟩⟩
  case round=>
   obtain⟨i,hi,rfl,l⟩:=hrel
   by_cases y:i<p.funcs.length
   ·have a9:(i:Int)<p.funcs.length:=Zo;have a3:=Ja y;have g:=zH l.out.1 j.out.2 (lt_of_block j.out.2);have z0:=K0 g;have z1:=K1 g;have z2:=K2 g;have z3:=K3 g;have z4:=K4 g;have z5:=K5 g;have a7:=Ja (HF.out wr i (j.out.1.trans (l.out.1.mono j.out.1.size)) m.out y);obtain⟨q,hq⟩:∃q,yi p i=q:=⟨_,rfl⟩
    rw[hq] at a7;have HQ:=Ja hq;clear hq g y y0
    cases q with
    |false=>
     go_wp2_with (first|(go_at_call 69;go_must (refine a7.out.mono ?_;rintro e w2 ⟨rfl,a0⟩))|go_in)
     go_ret
     have hr:res=51:=by
      rw[<-u.out];unfold vC;rw[if_neg (by rw[m.out];simp),if_neg];intro b0;have:=Oe.1 b0 i (Ol.2 a3.out);rw[HQ.out] at this;cases this
     exact⟨zh hr.symm,j.out.1.trans ((l.out.1.trans (a0.mono l.out.1.size)).mono j.out.1.size)⟩
    |true=>
     go_wp2_with (first|(go_at_call 69;go_must (refine a7.out.mono ?_;rintro e w2 ⟨rfl,a0⟩))|go_in)
     have a6:=Ja (show O w1 w2/\∀n,n<i+1->yi p n=true from⟨l.out.1.trans (a0.mono l.out.1.size),fun n hn=>by
      rcases Nat.lt_succ_iff_lt_or_eq.1 hn with h|rfl
      ·exact l.out.2 n h
      ·exact HQ.out⟩)
     clear a0;go_roundw
     case rel=>first|exact⟨i+1,a3.out,by go_num,a6⟩|((repeat apply Exists.intro);exact⟨⟨i+1,a3.out,by go_num,a6⟩,rfl⟩)
     case measure=>have:=a3.out;simp[intOf];omega
   ·obtain rfl:i=p.funcs.length:=by omega
    have a9:¬(p.funcs.length:Int)<p.funcs.length:=Zo
    have hr:=Ja (show res=0 by
     rw[<-u.out];unfold vC;rw[if_neg (by rw[m.out];simp),if_pos]
     exact Oe.2 fun n hn=>l.out.2 n (Ol.1 hn))
    clear y y0;go_wp2;go_ret;exact⟨zh hr.out.symm,j.out.1.trans (l.out.1.mono j.out.1.size)⟩
 ·have t1:(eh !=0)=true:=by rw[bne_iff_ne];exact hz
  have hr:=Ja (show res=eh by
   rw[<-u.out];unfold vC
   rw[if_pos (by rw[m.out];exact hz),m.out])
  clear hz;go_wp2;go_ret;exact⟨zh hr.out.symm,j.out.1⟩
def oz (l:List (IOp×Value)):Prop:=∀q∈l,qN q.1/\q.1.args=[]/\q.2=F
theorem eV {l:List (IOp×Value)}(h:oz l)(w:World)(B:Nat):∀q∈l,qN q.1/\zY w B q.2 q.1.args:=fun q hq=>by
 obtain⟨h1,h2,h3⟩:=h q hq;rw[h2,h3];exact⟨h1,yN.nil⟩
def cG (x:Int):Int:=wrap64 (x+1)
def qK (n:Int)(l:List Int):Int:=l.foldl (fun n v=>max n (cG v)) n
def o8 (n:Int)(l:List IOp):Int:=l.foldl (fun n o=>max n (cG o.res)) n
def iL (n:Int)(b:IBlk):Int:=o8 (qK n b.params) b.ops
def aaG (blocks:List IBlk):Int:=blocks.foldl iL 0
theorem wt{α β:Type}(f:β->α->β)(z:β){l:List α}{x:α}(h:l[k]? =some x):(l.take (k+1)).foldl f z=f ((l.take k).foldl f z) x:=by
 rw[Nh,h,List.foldl_append];rfl
theorem mZ (a b:Int):(if a<b then b else a)=max a b:=by
 rw[Int.max_def]
 split<;>split<;>omega
def df (w:World)(x:Int)(e:Ending)(w':World):Prop:=e=.returned (I x)/\O w w'
theorem jr{B:Nat}{b7:Value}(a8:wX w B b7 blocks)(hB:B<=w.heap.size)(hs:vZ blocks):
 A 17 #[.agg #[b7]] w (df w (aaG blocks)):=by
 obtain⟨fa,fc,rfl,e7,e5⟩:=a8.form;have e4:=hs.1;have h:=Ja (Jb a8 (Jb hB hs));have b6:O w (w.alloc (G #[.slice fa blocks.length fc] 39)):=(Below.refl _ _).alloc (Je _) _;have a2:=zI (W:=w) (o:=G #[.slice fa blocks.length fc] 39) rfl;obtain⟨fb,a6⟩:∃fb,w.heap.size=fb:=⟨_,rfl⟩
 clear a8 hB hs;go_enter Tryz.func17,Tryz.ntmps17;go_upto_region 1 with fail;generalize c8:w.alloc (G #[.slice fa blocks.length fc] 39)=W1 at *;rw[a6] at a2;have c:=Ja (Jb b6 (Jb a2 a6));clear b6 a2 c8 a6;go_wp2
 go_loopw [3,4] (fun nv kv wx=>∃(k:Nat) (n:Int),k<=blocks.length/\nv=I n/\kv=I k/\Hid (n=(blocks.take k).foldl iL 0/\O W1 wx)) (fun _ kv _=>blocks.length-(intOf kv).toNat)
 case atStart=>exact⟨0,0,Jt _,rfl,rfl,Ja ⟨rfl,Below.refl _ _⟩⟩
 case round=>
  obtain⟨k,n,hk,rfl,rfl,g⟩:=hrel;have a1:=zH g.out.2 c.out.2.1 (lt_of_block c.out.2.1);have c0:=zA (i:=0) a1 rfl;have e6:=lt_of_block a1
  by_cases b2:k<blocks.length
  ·have c1:(k:Int)<(blocks.length:Int):=Zo;obtain⟨b,hb⟩:∃b,blocks[k]? =some b:=⟨_,Jd b2⟩
   have b4:wX wr B (.slice fa blocks.length fc) blocks:=(h.out.1.below yT ((c.out.1.trans (g.out.2.mono c.out.1.size)).mono h.out.2.1))
   obtain⟨bb,bo,c3,c5,g2,g3,h64,pv,ov,tv,g0,g1,g4,y,a0,a3⟩:=b4.get hb;obtain⟨pa,pc,rfl,e0,d6⟩:=y.form;obtain⟨oa,oc,rfl,e3,e1⟩:=a0.form;obtain⟨ta,tc,rfl,d5,d3⟩:=a3.form;have d2:bb<wr.heap.size:=Jy c5 (by have:=h.out.2.1;have:=(c.out.1.trans (g.out.2.mono c.out.1.size)).size;omega);have a7:=h.out.2.2.2 b (Ji hb);have t:O wr (wr.alloc (G #[.slice pa b.params.length pc,.slice oa b.ops.length oc,I b.term.kind,I b.term.a,.slice ta b.term.to.length tc] 84)):=(Below.refl _ _).alloc (Je _) _;have l:=zI (W:=wr) (o:=G #[.slice pa b.params.length pc,.slice oa b.ops.length oc,I b.term.kind,I b.term.a,.slice ta b.term.to.length tc] 84) rfl;subst c3;have d7:=a7.1;have e2:=a7.2.1;obtain⟨tb,a4⟩:∃tb,wr.heap.size=tb:=⟨_,rfl⟩
   have HT:=Ja a4;clear b4 a7;go_upto_region 6 with fail;generalize c7:wr.alloc (G #[.slice pa b.params.length pc,.slice oa b.ops.length oc,I b.term.kind,I b.term.a,.slice ta b.term.to.length tc] 84)=W5 at *;rw[a4] at l;have t0:=zA (i:=0) l rfl;have t1:=zA (i:=1) l rfl;have d4:=lt_of_block l;have c4:∀q,B<=q->Below q wr W5->True:=fun _ _ _=>trivial
   have b0:=(y.below zO (t.mono (show B<=wr.heap.size by have:=h.out.2.1;have:=(c.out.1.trans (g.out.2.mono c.out.1.size)).size;omega)))
   have b1:=(a0.below xA (t.mono (show B<=wr.heap.size by have:=h.out.2.1;have:=(c.out.1.trans (g.out.2.mono c.out.1.size)).size;omega)))
   have b5:=g.out.2.trans (t.mono g.out.2.size);have H5:=Ja (Jb b0 (Jb b1 (Jb b5 hb)));have e8:B<=wr.heap.size:=by have:=h.out.2.1;have:=(c.out.1.trans (g.out.2.mono c.out.1.size)).size;omega
   have d0:wr.heap.size<=W5.heap.size:=t.size;clear c4 b0 b1 b5 hb y a0 a3 t l g0 g1 g2 g3 g4 h64 a1 a4 c7;go_wp2
   go_loop [3,6] (fun nv jv=>∃(j:Nat) (m:Int),j<=b.params.length/\nv=I m/\jv=I j/\Hid (m=qK n (b.params.take j))) (fun _ jv=>b.params.length-(intOf jv).toNat)
   case atStart=>exact⟨0,n,Jt _,rfl,rfl,Ja rfl⟩
   case round=>
    obtain⟨j,m,hj,rfl,rfl,HM⟩:=hrel
    by_cases d:j<b.params.length
    ·have b3:(j:Int)<(b.params.length:Int):=Zo;obtain⟨x,u⟩:∃x,b.params[j]? =some x:=⟨_,Jd d⟩
     obtain⟨pb,po,a5,c2,a9,b8⟩:=H5.out.1.get u;rw[Nk] at a9;subst a5;have b9:pb<W5.heap.size:=Zo;have HX:=Ja u;clear u b8;go_wp2
     go_round
     case rel=>
      refine⟨j+1,_,d,rfl,by go_num,Ja ?_⟩;unfold qK;rw[wt _ _ HX.out,mZ,HM.out];rfl
     case measure=>simp[intOf];omega
    ·obtain rfl:j=b.params.length:=by omega
     have b3:¬(b.params.length:Int)<(b.params.length:Int):=Zo;have c9:=Ja (show m=qK n b.params by rw[HM.out,Nl]);clear hj HM d;go_wp2
     go_loop [3,7] (fun nv jv=>∃(j:Nat) (m2:Int),j<=b.ops.length/\nv=I m2/\jv=I j/\Hid (m2=o8 m (b.ops.take j))) (fun _ jv=>b.ops.length-(intOf jv).toNat)
     case atStart=>exact⟨0,m,Jt _,rfl,rfl,Ja rfl⟩
     case round=>
      obtain⟨j,m2,hj,rfl,rfl,HM⟩:=hrel
      by_cases d:j<b.ops.length
      ·have b3:(j:Int)<(b.ops.length:Int):=Zo;obtain⟨x,u⟩:∃x,b.ops[j]? =some x:=⟨_,Jd d⟩
       obtain⟨pb,po,a5,c2,_,a9,_⟩:=H5.out.2.1.get u;subst a5;have b9:pb<W5.heap.size:=Zo;have HX:=Ja u;clear u;go_wp2
       go_round
       case rel=>
        refine⟨j+1,_,d,rfl,by go_num,Ja ?_⟩;unfold o8;rw[wt _ _ HX.out,mZ,HM.out];rfl
       case measure=>simp[intOf];omega
      ·obtain rfl:j=b.ops.length:=by omega
       have d1:¬(b.ops.length:Int)<(b.ops.length:Int):=Zo;clear hj d;go_wp2;go_roundw
       case rel=>
        refine⟨k+1,m2,b2,rfl,by go_num,Ja ⟨?_,H5.out.2.2.1⟩⟩;rw[wt _ _ H5.out.2.2.2,<-g.out.1,HM.out,Nl,c9.out];rfl
       case measure=>simp[intOf];omega
  ·obtain rfl:k=blocks.length:=by omega
   have c1:¬(blocks.length:Int)<(blocks.length:Int):=Zo;clear a1;go_wp2;go_ret;refine⟨?_,c.out.1.trans (g.out.2.mono c.out.1.size)⟩;rw[g.out.1,Nl];rfl
theorem ls{B:Nat}{b8:Value}(a9:wX w B b8 blocks)(hB:B<=w.heap.size)(hs:vZ blocks):
 A 36 #[.agg #[b8]] w (df w (aaG blocks)):=by
 obtain⟨fa,fc,rfl,f5,f3⟩:=a9.form;have f2:=hs.1;have h:=Ja (Jb a9 (Jb hB hs));have b6:O w (w.alloc (G #[.slice fa blocks.length fc] 39)):=(Below.refl _ _).alloc (Je _) _;have u:=zI (W:=w) (o:=G #[.slice fa blocks.length fc] 39) rfl;obtain⟨fb,a7⟩:∃fb,w.heap.size=fb:=⟨_,rfl⟩
 clear a9 hB hs;go_enter Tryz.func36,Tryz.ntmps36;go_upto_region 1 with fail;generalize d4:w.alloc (G #[.slice fa blocks.length fc] 39)=W1 at *;rw[a7] at u;have c:=Ja (Jb b6 (Jb u a7));have c1:=zA (i:=0) u rfl;have e0:=lt_of_block u;clear b6 u d4 a7;go_wp2
 go_loopw [3,13] (fun nv kv wx=>∃(k:Nat) (n:Int),k<=blocks.length/\nv=I n/\kv=I k/\Hid (n=(blocks.take k).foldl iL 0/\O W1 wx)) (fun _ kv _=>blocks.length-(intOf kv).toNat)
 case atStart=>exact⟨0,0,Jt _,rfl,rfl,Ja ⟨rfl,Below.refl _ _⟩⟩
 case round=>
  obtain⟨k,n,hk,rfl,rfl,g⟩:=hrel;have a2:=zH g.out.2 c.out.2.1 (lt_of_block c.out.2.1);have c0:=zA (i:=0) a2 rfl;have f4:=lt_of_block a2
  by_cases b2:k<blocks.length
  ·have c4:(k:Int)<(blocks.length:Int):=Zo;obtain⟨b,hb⟩:∃b,blocks[k]? =some b:=⟨_,Jd b2⟩
   have b4:wX wr B (.slice fa blocks.length fc) blocks:=(h.out.1.below yT ((c.out.1.trans (g.out.2.mono c.out.1.size)).mono h.out.2.1))
   obtain⟨bb,bo,d0,d2,g2,g3,h64,pv,ov,tv,g0,g1,g4,a0,a1,a4⟩:=b4.get hb;obtain⟨pa,pc,rfl,e7,e5⟩:=a0.form;obtain⟨oa,oc,rfl,f1,e8⟩:=a1.form;obtain⟨ta,tc,rfl,e4,e2⟩:=a4.form;have e1:bb<wr.heap.size:=Jy d2 (by have:=h.out.2.1;have:=(c.out.1.trans (g.out.2.mono c.out.1.size)).size;omega);have a8:=h.out.2.2.2 b (Ji hb);have y:O wr (wr.alloc (G #[.slice pa b.params.length pc,.slice oa b.ops.length oc,I b.term.kind,I b.term.a,.slice ta b.term.to.length tc] 84)):=(Below.refl _ _).alloc (Je _) _;have t:=zI (W:=wr) (o:=G #[.slice pa b.params.length pc,.slice oa b.ops.length oc,I b.term.kind,I b.term.a,.slice ta b.term.to.length tc] 84) rfl;subst d0;have e6:=a8.1;have f0:=a8.2.1;obtain⟨tb,a5⟩:∃tb,wr.heap.size=tb:=⟨_,rfl⟩
   have HT:=Ja a5;clear b4 a8;go_upto_region 5 with fail;generalize d3:wr.alloc (G #[.slice pa b.params.length pc,.slice oa b.ops.length oc,I b.term.kind,I b.term.a,.slice ta b.term.to.length tc] 84)=W5 at *;rw[a5] at t;have t0:=zA (i:=0) t rfl;have t1:=zA (i:=1) t rfl;have e3:=lt_of_block t;have d1:∀q,B<=q->Below q wr W5->True:=fun _ _ _=>trivial
   have b0:=(a0.below zO (y.mono (show B<=wr.heap.size by have:=h.out.2.1;have:=(c.out.1.trans (g.out.2.mono c.out.1.size)).size;omega)))
   have b1:=(a1.below xA (y.mono (show B<=wr.heap.size by have:=h.out.2.1;have:=(c.out.1.trans (g.out.2.mono c.out.1.size)).size;omega)))
   have b5:=g.out.2.trans (y.mono g.out.2.size);have H5:=Ja (Jb b0 (Jb b1 (Jb b5 hb)));have f6:B<=wr.heap.size:=by have:=h.out.2.1;have:=(c.out.1.trans (g.out.2.mono c.out.1.size)).size;omega
   have d6:wr.heap.size<=W5.heap.size:=y.size;have c5:B<=W5.heap.size:=Zo;clear d1 b0 b1 b5 hb a0 a1 a4 y t g0 g1 g2 g3 g4 h64 a2 a5 d3;go_wp2
   go_loop [3,20] (fun nv jv=>∃(j:Nat) (m:Int),j<=b.params.length/\nv=I m/\jv=I j/\Hid (m=qK n (b.params.take j))) (fun _ jv=>b.params.length-(intOf jv).toNat)
   case atStart=>exact⟨0,n,Jt _,rfl,rfl,Ja rfl⟩
   case round=>
    obtain⟨j,m,hj,rfl,rfl,l⟩:=hrel
    by_cases d:j<b.params.length
    ·have b3:(j:Int)<(b.params.length:Int):=Zo;obtain⟨x,hx⟩:∃x,b.params[j]? =some x:=⟨_,Jd d⟩
     obtain⟨pb,po,a6,c9,c8,b9⟩:=H5.out.1.get hx;rw[Nk] at c8;subst a6;have c3:pb<W5.heap.size:=Zo;have HX:=Ja hx;clear hx b9;go_wp2
     go_round
     case rel=>
      refine⟨j+1,_,d,rfl,by go_num,Ja ?_⟩;unfold qK;rw[wt _ _ HX.out,mZ,l.out];rfl
     case measure=>simp[intOf];omega
    ·obtain rfl:j=b.params.length:=by omega
     have b3:¬(b.params.length:Int)<(b.params.length:Int):=Zo;have d5:=Ja (show m=qK n b.params by rw[l.out,Nl]);clear hj l d;go_wp2
     go_loopw [3,32] (fun nv jv wx=>∃(j:Nat) (m2:Int),j<=b.ops.length/\nv=I m2/\jv=I j/\Hid (m2=o8 m (b.ops.take j)/\O W5 wx)) (fun _ jv _=>b.ops.length-(intOf jv).toNat)
     case atStart=>exact⟨0,m,Jt _,rfl,rfl,Ja ⟨rfl,Below.refl _ _⟩⟩
     case round=>
      obtain⟨j,m2,hj,rfl,rfl,l⟩:=hrel
      by_cases d:j<b.ops.length
      ·have b3:(j:Int)<(b.ops.length:Int):=Zo;obtain⟨x,hx⟩:∃x,b.ops[j]? =some x:=⟨_,Jd d⟩
       have a3:=H5.out.2.1.below xA (l.out.2.mono c5);obtain⟨pb,po,a6,c9,x0,x1,x2,x3,x4,c7,av,x5,b7⟩:=a3.get hx;obtain⟨aa,ac,rfl,_,_⟩:=b7.form;subst a6;have c2:=l.out.2.size;have c3:pb<wr.heap.size:=Zo;have HX:=Ja hx;clear hx a3 b7 c7;go_wp2;go_roundw
       case rel=>
        refine⟨j+1,_,d,rfl,by go_num,Ja ⟨?_,l.out.2.alloc c2 _⟩⟩;unfold o8;rw[wt _ _ HX.out,mZ,l.out.1];rfl
       case measure=>simp[intOf];omega
      ·obtain rfl:j=b.ops.length:=by omega
       have d7:¬(b.ops.length:Int)<(b.ops.length:Int):=Zo;clear hj d;go_wp2;go_roundw
       case rel=>
        refine⟨k+1,m2,b2,rfl,by go_num,Ja ⟨?_,H5.out.2.2.1.trans (l.out.2.mono H5.out.2.2.1.size)⟩⟩;rw[wt _ _ H5.out.2.2.2,<-g.out.1,l.out.1,Nl,d5.out];rfl
       case measure=>simp[intOf];omega
  ·obtain rfl:k=blocks.length:=by omega
   have c4:¬(blocks.length:Int)<(blocks.length:Int):=Zo;clear a2;go_wp2;go_ret;refine⟨?_,c.out.1.trans (g.out.2.mono c.out.1.size)⟩;rw[g.out.1,Nl];rfl
theorem ahL{d':wO}{v i k:Int}(h:rB d v i k=some d')(c:∀x b a,d.1 x=some b->d.2 x=some a->W x b a)(hv:W v i k):∀x b a,d'.1 x=some b->d'.2 x=some a->W x b a:=by
 unfold rB at h
 split at h
 ·cases h
 ·cases h;intro x b a h1 h2
  change lS d.1 v i x=some b at h1
  change lS d.2 v k x=some a at h2
  unfold lS at h1 h2
  by_cases e:x=v
  ·rw[if_pos e] at h1 h2;cases h1;cases h2;rw[e];exact hv
  ·rw[if_neg e] at h1 h2;exact c x b a h1 h2
theorem agA{i:Int}:∀(l:List Int) (d d':wO),vJ i l d=some d'->(∀x b a,d.1 x=some b->d.2 x=some a->W x b a)->(∀v∈l,W v i (-1))->∀x b a,d'.1 x=some b->d'.2 x=some a->W x b a
 | [],d,d',h,hW,_=>by cases h;exact hW
 |v::l,d,d',h,hW,hl=>by
  unfold vJ at h
  cases h1:rB d v i (-1) with
  |none=>rw[h1] at h;cases h
  |some d1=>
   rw[h1,Nw] at h;exact agA l d1 d' h (ahL h1 hW (hl v (.head _))) fun u hu=>hl u (.tail _ hu)
theorem afY{p:IProg}{i:Int}:∀(l:List IOp) (k:Int) (d d':wO),sS p i l k d=some d'->(∀x b a,d.1 x=some b->d.2 x=some a->W x b a)->(∀(j:Nat) o,l[j]? =some o->0<=o.res->W o.res i (k+j))->∀x b a,d'.1 x=some b->d'.2 x=some a->W x b a
 | [],k,d,d',h,hW,_=>by cases h;exact hW
 |o::l,k,d,d',h,hW,hl=>by
  unfold sS at h
  split at h
  ·split at h
   ·rename_i h0
    cases h1:rB d o.res i k with
    |none=>rw[h1] at h;cases h
    |some d1=>
     rw[h1,Nw] at h;refine afY l (k+1) d1 d' h (ahL h1 hW ?_) fun j x hx h2=>?_
     ·have:=hl 0 o rfl h0
      simpa using this
     ·have:=hl (j+1) x hx h2
      rwa [show k+((j+1:Nat):Int)=k+1+(j:Int) by omega] at this
   ·refine afY l (k+1) d d' h hW fun j x hx h2=>?_
    have:=hl (j+1) x hx h2
    rwa [show k+((j+1:Nat):Int)=k+1+(j:Int) by omega] at this
  ·cases h
theorem agj{p:IProg}:∀(l:List IBlk) (i:Int) (d d':wO),uH p bl l i d=some d'->(∀x b a,d.1 x=some b->d.2 x=some a->W x b a)->
 (∀(j:Nat) b,l[j]? =some b->(∀v∈b.params,W v (i+j) (-1))/\∀(k:Nat) o,b.ops[k]? =some o->0<=o.res->W o.res (i+j) k)->∀x b a,d'.1 x=some b->d'.2 x=some a->W x b a
 | [],i,d,d',h,hW,_=>by cases h;exact hW
 |b::l,i,d,d',h,hW,hl=>by
  unfold uH at h
  cases h1:pS p bl i b d with
  |none=>rw[h1] at h;cases h
  |some d1=>
   rw[h1,Nw] at h;have h0:=hl 0 b rfl;rw[show i+((0:Nat):Int)=i by omega] at h0;refine agj l (i+1) d1 d' h ?_ fun j x hx=>?_
   ·unfold pS at h1
    cases h2:vJ i b.params d with
    |none=>rw[h2] at h1;cases h1
    |some d2=>
     rw[h2,Nw] at h1
     cases h3:sS p i b.ops 0 d2 with
     |none=>rw[h3] at h1;cases h1
     |some d3=>
      rw[h3,Nw] at h1
      split at h1
      ·cases h1
       exact afY b.ops 0 d2 _ h3 (agA b.params d d2 h2 hW h0.1) fun j o ho h4=>by
        rw[Ub];exact h0.2 j o ho h4
      ·cases h1
   ·have:=hl (j+1) x hx
    rwa [show i+((j+1:Nat):Int)=i+1+(j:Int) by omega] at this
def DefIn (b:IBlk)(v:Int):Prop:=v∈b.params∨∃o∈b.ops,o.res=v/\0<=v
def ahq (bl:List IBlk)(i k:Nat)(v:Int):Prop:=
 ((xz bl i).params.contains v=true∨∃j o,j<k/\(xz bl i).ops[j]? =some o/\o.res=v/\0<=v)∨∃c:Nat,c≠i/\c<bl.length/\Dom (GE (zy bl)) c i/\DefIn (xz bl c) v
theorem zf{b:IBlk}(h:bl[i]? =some b):xz bl (i:Int)=b:=by
 unfold xz;rw[Ni,Jj,h];rfl
structure StF (p:IProg) (bl:List IBlk):Prop where
 vg:zw (zy bl)
 all:∀i,i<bl.length->Reach (GE (zy bl)) i
 use:∀(i k:Nat) o,i<bl.length->(xz bl i).ops[k]? =some o->∀v∈rR o,ahq bl i k v
 ends:∀i:Nat,i<bl.length->∀v∈mE (xz bl i).term,ahq bl i (xz bl i).ops.length v
 opok:∀i:Nat,i<bl.length->∀o∈(xz bl i).ops,opF p o=true
 trm:∀i:Nat,i<bl.length->ro bl (xz bl i).term=true
theorem agq{p:IProg}(hv:zw (zy bl))(hd:wg p bl=some d)(hi:i<bl.length){v:Int}(h:yy d (zy bl) i k v=true):ahq bl i k v:=by
 have a0:=agj (W:=fun v b a=>∃blk,bl[b.toNat]? =some blk/\0<=b/\((a=-1/\v∈blk.params)∨(0<=a/\∃o,blk.ops[a.toNat]? =some o/\o.res=v/\0<=v))) bl 0 _ d hd (fun x b a h1 _=>by cases h1) fun j b hb=>by
  refine⟨fun u hu=>⟨b,?_,by omega,.inl ⟨rfl,hu⟩⟩,fun m o ho h0=>⟨b,?_,by omega,.inr ⟨by omega,o,?_,rfl,h0⟩⟩⟩
  ·rw[show(0+(j:Int)).toNat=j by omega];exact hb
  ·rw[show(0+(j:Int)).toNat=j by omega];exact hb
  ·rw[Ni];exact ho
 unfold yy at h
 split at h
 ·rename_i b a h1 h2
  simp only[Jm,Bool.not_eq_true',Bool.and_eq_false_iff,decide_eq_false_iff_not] at h;obtain⟨h3,h4⟩:=h;obtain⟨blk,hb,h0,c⟩:=a0 v b a h1 h2;have y:=(Jh.1 hb).1
  by_cases e:b=(i:Int)
  ·subst e;rw[Ni] at hb;have hk:a<(k:Int):=Zo;refine .inl ?_;rw[zf hb];rcases c with⟨_,g⟩|⟨g,o,t,q,l⟩
   ·exact .inl (by simpa using g)
   ·exact .inr ⟨a.toNat,o,by omega,t,q,l⟩
  ·have w:=(yO hv b.toNat i).1 (by simpa using h4);refine .inr ⟨b.toNat,by omega,y,w.2.2,?_⟩;rw[zf hb];rcases c with⟨_,g⟩|⟨g,o,t,q,l⟩
   ·exact .inl g
   ·exact .inr ⟨o,Ji t,q,l⟩
 ·cases h
theorem stF_of{p:IProg}{n:Nat}(w:p.funcs[n]? =some bl)(h0:bl≠ [])(h:yi p n=true):StF p bl:=by
 cases bl with
 |nil=>exact absurd rfl h0
 |cons b0 bs=>
  obtain⟨_,d,m,hr⟩:=tF w h;have g:=rV (b0::bs) 0 _ d (show uH p (b0::bs) (b0::bs) 0 _=some d from m);have hv:zw (zy (b0::bs)):=nO h0 fun b hb=>(g b hb).2
  unfold iM at hr;simp only[Jm,decide_eq_true_eq] at hr;obtain⟨u,t⟩:=hr;have q:=(aj hv).1 (by rw[u,xu])
  have c:∀i:Nat,i<(b0::bs).length->(b0::bs)[i]? =some (xz (b0::bs) i)/\xz (b0::bs) i∈(b0::bs):=fun i hi=>by
   obtain⟨x,l⟩:∃x,(b0::bs)[i]? =some x:=⟨_,Jd hi⟩
   rw[zf l];exact⟨l,Ji l⟩
  have j:∀i:Nat,i<(b0::bs).length->aaC d (zy (b0::bs)) (xz (b0::bs) i) i=true:=fun i hi=>by
   have:=(cB (b0::bs) 0).1 t i _ (c i hi).1
   rwa [Ub] at this
  refine⟨hv,fun i hi=>?_,fun i k o hi ho v hvu=>?_,fun i hi v hve=>?_,fun i hi o ho=>?_,fun i hi=>(g _ (c i hi).2).2⟩
  ·exact((yO hv 0 i).1 (q i (by rw[xu];exact hi))).2.1
  ·have h1:=j i hi;unfold aaC at h1;rw[Jm] at h1;have h2:=(dF _ 0).1 h1.1 k o ho;rw[Ub] at h2;exact agq hv m hi (Oe.1 h2 v hvu)
  ·have h1:=j i hi;unfold aaC at h1;rw[Jm] at h1;exact agq hv m hi (Oe.1 h1.2 v hve)
  ·exact(g _ (c i hi).2).1 o ho
theorem agi(hi:i<bl.length):succ (zy bl) i=(xz bl i).term.to.map fun e=>e.block.toNat:=by
 obtain⟨b,hb⟩:∃b,bl[i]? =some b:=⟨_,Jd hi⟩
 rw[zf hb];unfold succ zy;rw[Jj,Jr,hb];rfl
theorem yr (q:BM):(xG q).length=5:=rfl
section
variable {w:World} {K:MKC} {X:Nat->Prop} {M:MS} {fv vv:Value} {l:List BM} (h:MkIn w K X M fv vv l)
include h
theorem MkIn.getB{b:IBlk}(hb:M.f[i]? =some b):∃q,l[i]? =some q/\q.b=b/\BMOk w K X q:=by
 rw[h.fl,Jr,Oz] at hb;obtain⟨q,c,rfl⟩:=hb;exact⟨q,c,rfl,h.bok q (Ji c)⟩
theorem MkIn.len:l.length=M.f.length:=by rw[h.fl,Nr]
theorem MkIn.flen:M.f.length<=1000000:=by have:=h.bnd;unfold MS.sz at this;omega
theorem MkIn.fblk(j:l[i]? =some q):∃g c,fv=Y g l.length c/\X g/\g<w.heap.size/\g≠K.pm:=by
 have k:=(Jh.1 j).1;obtain⟨a,c,e⟩:=zG h.own;rw[e];have ho:=h.own;rw[e] at ho;obtain⟨g,m,e2,hg,d⟩:=ho.form Zo;cases e2;exact⟨g,_,rfl,h.xf g (by rw[e];rfl),d,fun e3=>zC ho h.blk (.inr Zd) (by rw[<-e3];rfl)⟩
end
theorem MkIn.only{W:World}{fv:Value}(h:MkIn w K X M fv vv l)(d:w.heap.size<=W.heap.size)(ho:W.os=w.os/\W.tape=w.tape/\W.output=w.output)
 (hk:∀k,k<w.heap.size->k≠K.pm->W.heap[k]? =w.heap[k]?) (i:L W K.pm (uC K M' fv vv) 128) (hf:M'.f=M.f) (hv:M'.vals=M.vals) (g:M'.sz<=1000000) (hl:6<=M'.left+M'.pos/\M'.left<=6):
 MkIn W K X M' fv vv l/\Stp X w X W:=by
 have hs:Stp X w X W:=⟨ho.1,ho.2.1,ho.2.2,d,fun _ h=> .inl h,fun k hk' hx=>hk k hk' (fun e=>hx (by rw[e];exact h.xm))⟩
 have c:∀ {v:Value} {e:TypeId} {sz n:Nat} {xs:List Value},w.ownsRow K.B e sz v n xs->e≠128->∀k,v.ownBlock=some k->W.heap[k]? =w.heap[k]?:=fun ho he k hk'=>
  hk k (ho.lt k hk').2 (fun e=>zC ho h.blk (.inr he) (by rw[hk',e]))
 exact⟨⟨i,yD h.own (c h.own Zd),hf.trans h.fl,fun q hq=>(h.bok q hq).step hs (c (h.bok q hq).own Zd) (fun _ e=>e),h.apart,by rw[hv];exact yD h.vown (c h.vown Zd),by rw[hv];exact h.v64,h.xm,h.xf,h.xv,h.xB,fun k e=>Jy (h.xl k e) d,
  h.env.step hs (hs.below h.xB h.size),g,hl⟩,hs⟩
theorem MkIn.turn{W:World}{X':Nat->Prop}{fv:Value}(h:MkIn w K X M fv vv l){q':BM}{c g:Nat}(u:l[c]? =some q)(hg:fv.ownBlock=some g)
 (hs:Stp X w X' W) (m:∀k,X k->X' k) (a5:∀k,X' k->k<W.heap.size) (a6:∀k,X' k->K.B<=k)
 (hk:∀k,k<w.heap.size->X k->k≠g->q.ov.ownBlock≠some k->W.heap[k]? =w.heap[k]?)
 (a1:q.ov.ownBlock≠some K.pm) (x:W.ownsRow K.B 84 5 fv l.length ((l.set c q').flatMap xG)) (a0:BMOk W K X' q')
 (t:∀(j:Nat) (qj:BM) (k:Nat),l[j]? =some qj->q'.ov.ownBlock=some k->qj.ov.ownBlock=some k->j=c) (hf:M'.f=M.f.set c q'.b) (hM:M'.pos=M.pos/\M'.cur=M.cur/\M'.next=M.next/\M'.vals=M.vals/\M'.left=M.left) (hz:M'.sz<=1000000):
 MkIn W K X' M' fv vv (l.set c q'):=by
 have y:=(Jh.1 u).1;have a2:K.pm≠g:=fun e=>zC h.own h.blk (.inr Zd) (by rw[hg,e])
 obtain⟨m1,m2,m3,m4,m5⟩:=hM;have o:uC K M' fv vv=uC K M fv vv:=by unfold uC;rw[m1,m2,m3,m5]
 have a3:∀k,vv.ownBlock=some k->k≠g/\q.ov.ownBlock≠some k:=fun k hk=>by
  obtain⟨_,_,hx⟩:=zG h.vown;refine⟨fun e=>?_,fun e=>?_⟩
  ·rcases zo h.vown h.own Zd with h1|h1
   ·rw[h1] at hk;cases hk
   ·exact h1 (by rw[hk,hg,e])
  ·rcases zo h.vown (h.bok q (Ji u)).own Zd with h1|h1
   ·rw[h1] at hk;cases hk
   ·exact h1 (by rw[hk,e])
 have a4:∀j qj,l[j]? =some qj->j≠c->∀k,qj.ov.ownBlock=some k->k≠g/\q.ov.ownBlock≠some k:=fun j qj d hne k hk=>by
  refine⟨fun e=>?_,fun e=>hne (h.apart j c qj q k d u hk e)⟩;rcases zo (h.bok qj (Ji d)).own h.own Zd with h1|h1
  ·rw[h1] at hk;cases hk
  ·exact h1 (by rw[hk,hg,e])
 refine⟨?_,by rw[Nd];exact x,by rw[hf,h.fl,Ox],fun p hp=>?_,fun i j qi qj k hi d hqi hqj=>?_,?_,by rw[m4];exact h.v64,m _ h.xm,fun k hk=>m _ (h.xf k hk),fun k hk=>m _ (h.xv k hk),a6,a5,h.env.step hs (hs.below h.xB h.size),hz,by rw[m5,m1];exact h.lft⟩
 ·rw[o,hk K.pm (lt_of_block h.blk) h.xm a2 a1];exact h.blk
 ·obtain⟨j,d⟩:=Ny hp;rw[Ov] at d
  by_cases e:c=j
  ·subst e;rw[if_pos rfl,if_pos y] at d;cases d;exact a0
  ·rw[if_neg e] at d;refine(h.bok p (Ji d)).step hs (fun k hk'=>?_) m;obtain⟨h1,h2⟩:=a4 j p d (Ne.symm e) k hk';exact hk k (((h.bok p (Ji d)).own.lt k hk').2) ((h.bok p (Ji d)).inX k hk') h1 h2
 ·rw[Ov] at hi d
  by_cases ei:c=i
  ·rw[if_pos ei,if_pos y] at hi;cases hi
   by_cases ej:c=j
   ·omega
   ·rw[if_neg ej] at d;have:=t j qj k d hqi hqj;omega
  ·rw[if_neg ei] at hi
   by_cases ej:c=j
   ·rw[if_pos ej,if_pos y] at d;cases d;have:=t i qi k hi hqj hqi;omega
   ·rw[if_neg ej] at d;exact h.apart i j qi qj k hi d hqi hqj
 ·rw[m4];refine yD h.vown (fun k hk'=>?_);obtain⟨h1,h2⟩:=a3 k hk';exact hk k ((h.vown.lt k hk').2) (h.xv k hk') h1 h2
theorem MkIn.putV{fv vv':Value}(h:MkIn w K X M fv vv l){o:Obj}(hg:(w.alloc o).grownBy w3 vv.ownBlock){x:Int}
 (c:w3.ownsRow K.B 3 1 vv' (M.vals.length+1) (M.vals.map zN++ [zN x])) (t:∀k,vv'.ownBlock=some k->vv.ownBlock=some k∨w.heap.size<=k) (u:I64 x) (hz:M.sz+1<=1000000):
 MkIn (w3.setCell ⟨K.pm,7,none⟩ vv') K (fun k=>X k∨vv'.ownBlock=some k) {M with vals:=M.vals++ [x]} fv vv' l/\Stp X w (fun k=>X k∨vv'.ownBlock=some k) (w3.setCell ⟨K.pm,7,none⟩ vv'):=by
 have n1:=zC h.vown h.blk (.inr Zd);have i:=zL hg (zB h.blk) n1;have m:w.heap.size<=w3.heap.size:=by have:=hg.size;simp at this;omega
 have hk:∀k,k<w.heap.size->k≠K.pm->vv.ownBlock≠some k->(w3.setCell ⟨K.pm,7,none⟩ vv').heap[k]? =w.heap[k]?:=fun k hk hne hv=>
  (Below.heap_setCell w3 ⟨K.pm,7,none⟩ vv' k hne).trans ((hg.block k Zt (fun e=>hv e.symm)).trans (Below.heap_alloc w o k hk))
 have hs:Stp X w (fun k=>X k∨vv'.ownBlock=some k) (w3.setCell ⟨K.pm,7,none⟩ vv'):=
  ⟨hg.os,hg.tape,hg.output,by simpa using m,fun k hx'=>hx'.elim .inl (fun e=>(t k e).elim (fun e2=> .inl (h.xv k e2)) .inr),fun k hk' hxk=>hk k hk' (fun e=>hxk (by rw[e];exact h.xm)) (fun e=>hxk (h.xv k e))⟩
 have g:∀ {v:Value} {e:TypeId} {sz n:Nat} {xs:List Value},w.ownsRow K.B e sz v n xs->e≠3->e≠128->∀k,v.ownBlock=some k->(w3.setCell ⟨K.pm,7,none⟩ vv').heap[k]? =w.heap[k]?:=fun {v e sz n xs} ho h1 h2 k hk'=>by
  refine hk k (ho.lt k hk').2 (fun e3=>zC ho h.blk (.inr h2) (by rw[hk',e3])) (fun e3=>?_);rcases zo ho h.vown h1 with j|j
  ·rw[j] at hk';cases hk'
  ·exact j (by rw[hk',e3])
 refine⟨⟨?_,yD h.own (g h.own Zd Zd),h.fl,fun q hq=>(h.bok q hq).step hs (g (h.bok q hq).own Zd Zd) (fun _ e=> .inl e),h.apart,?_,?_,.inl h.xm,fun k e=> .inl (h.xf k e),fun k e=> .inr e,fun k e=>e.elim (h.xB k) (fun e2=>(c.lt k e2).1),fun k e=>?_,h.env.step hs (hs.below h.xB h.size),?_,h.lft⟩,hs⟩
 ·rw[zD i];rfl
 ·show(w3.setCell ⟨K.pm,7,none⟩ vv').ownsRow K.B 3 1 vv' (M.vals++ [x]).length ((M.vals++ [x]).map zN)
  rw[Jk,Ju,Js];exact ownsRow_setCell_other c (fun e=>zC c i (.inr Zd) (by simpa using e)) _
 ·intro y d;rcases Jl.1 d with d|d
  ·exact h.v64 y d
  ·rw[Jo] at d;subst d;exact u
 ·rcases e with e|e
  ·have:=h.xl k e;simp;omega
  ·have:=(c.lt k e).2;simpa using this
 ·unfold MS.sz at *;simp only[Jk,Ju];omega
theorem MkIn.putO{w6 W:World}{fv i:Value}(h:MkIn w K X M fv vv l){c g lb:Nat}(hq:l[c]? =some q)(hg:fv.ownBlock=some g)
 {W3:World} (m:O w W3) (t:W3.grownBy w6 q.ov.ownBlock)  {av:Value} (x:w6.ownsRow K.B 76 6 i (q.ol.length+1) (q.ol.flatMap zU++zU (o,av)))
 (y:∀k,i.ownBlock=some k->q.ov.ownBlock=some k∨w.heap.size<=k) (a6:w.heap.size<=lb) {cs:Array Value} (a2:L w6 lb cs 84)
 (hW:∃u,W=((w6.setCell ⟨lb,1,none⟩ u).drew.setCells g (c*5) (xG ⟨{q.b with ops:=q.b.ops++ [o]},q.pv,i,q.tv,q.ol++ [(o,av)]⟩)))
 (ho:qN o/\wm w (K.av X) av o.args) (hf:M'.f=M.f.set c {q.b with ops:=q.b.ops++ [o]}) (hM:M'.pos=M.pos/\M'.cur=M.cur/\M'.next=M.next/\M'.vals=M.vals/\M'.left=M.left) (hz:M'.sz<=1000000):
 ∃X',MkIn W K X' M' fv vv (l.set c ⟨{q.b with ops:=q.b.ops++ [o]},q.pv,i,q.tv,q.ol++ [(o,av)]⟩)/\Stp X w X' W:=by
 obtain⟨u,rfl⟩:=hW;have d:=h.bok q (Ji hq);have a0:=h.xf g hg;have a4:=h.xl g a0
 have hk:∀k,k<w.heap.size->k≠g->q.ov.ownBlock≠some k->((w6.setCell ⟨lb,1,none⟩ u).drew.setCells g (c*5) (xG ⟨{q.b with ops:=q.b.ops++ [o]},q.pv,i,q.tv,q.ol++ [(o,av)]⟩)).heap[k]? =w.heap[k]?:=fun k hk hne hv=>
  (ye g k hne _ _ _).trans ((Below.heap_setCell w6 ⟨lb,1,none⟩ u k (by show k≠lb;omega)).trans ((t.block k (by have:=m.size;omega) (fun e=>hv e.symm)).trans (m.block k hk)))
 have hs:Stp X w (fun k=>X k∨i.ownBlock=some k) ((w6.setCell ⟨lb,1,none⟩ u).drew.setCells g (c*5) (xG ⟨{q.b with ops:=q.b.ops++ [o]},q.pv,i,q.tv,q.ol++ [(o,av)]⟩)):=
  ⟨(ze g _ _ _).1.trans (t.os.trans m.os),(ze g _ _ _).2.1.trans (t.tape.trans m.tape),(ze g _ _ _).2.2.trans (t.output.trans m.output),by rw[y8];have:=m.size;have:=t.size;simp;omega,
   fun k hx'=>hx'.elim .inl (fun e=>(y k e).elim (fun e2=> .inl (d.inX k e2)) .inr),fun k hk' hxk=>hk k hk' (fun e=>hxk (by rw[e];exact a0)) (fun e=>hxk (d.inX k e))⟩
 have a1:∀k,i.ownBlock=some k->k≠lb/\k≠g:=fun k e=>⟨fun e2=>zC x a2 (.inr Zd) (by rw[e,e2]),fun e2=>by
  rcases y k e with e3|e3
  ·rcases zo d.own h.own Zd with h1|h1
   ·rw[h1] at e3;cases e3
   ·exact h1 (by rw[e3,hg,e2])
  ·omega⟩
 have a3:q.ov.ownBlock≠some g:=fun e=>by
  rcases zo d.own h.own Zd with h1|h1
  ·rw[h1] at e;cases e
  ·exact h1 (by rw[e,hg])
 have a5:(w6.setCell ⟨lb,1,none⟩ u).drew.ownsRow K.B 84 5 fv l.length (l.flatMap xG):=yD h.own (fun k e=>by
  have e2:k=g:=by rw[hg] at e;cases e;rfl
  subst e2
  exact(Below.heap_setCell w6 ⟨lb,1,none⟩ u k (by show k≠lb;omega)).trans ((t.block k (by have:=m.size;omega) (fun e3=>a3 e3.symm)).trans (m.block k a4)))
 refine⟨_,h.turn (M':=M') hq hg hs (fun k e=> .inl e) (fun k e=>?_) (fun k e=>e.elim (h.xB k) (fun e2=>(x.lt k e2).1)) (fun k hk' _ hne hv=>hk k hk' hne hv) (fun e=>zC d.own h.blk (.inr Zd) e) (uZ yr a5 hg hq _) ?_ (fun j qj k hj h1 h2=>?_) hf hM hz,hs⟩
 ·rcases e with e|e
  ·exact Jy (h.xl k e) hs.size
  ·rw[y8];have:=(x.lt k e).2;simpa using this
 ·refine⟨d.k64,d.par.step zn (hs.av K),by rw[Js,<-d.ops];rfl,?_,fun p hp=>?_,d.tos.step yq (hs.av K),fun k e=> .inr e⟩
  ·rw[Jk,Ju,Nx];refine yD (show w6.ownsRow K.B 76 6 i (q.ol.length+1) (q.ol.flatMap zU++ [(o,av)].flatMap zU) from x) (fun k e=>?_);obtain⟨e1,e2⟩:=a1 k e;exact(ye g k e2 _ _ _).trans (Below.heap_setCell w6 ⟨lb,1,none⟩ u k e1)
  ·rcases Jl.1 hp with hp|hp
   ·exact⟨(d.arg p hp).1,(d.arg p hp).2.step zn (hs.av K)⟩
   ·rw[Jo] at hp;subst hp;exact⟨ho.1,ho.2.step zn (hs.av K)⟩
 ·rcases y k h1 with e|e
  ·exact h.apart j c qj q k hj hq h2 e
  ·have:=((h.bok qj (Ji hj)).own.lt k h2).2;omega
theorem MkIn.putB{fv fv':Value}(h:MkIn w K X M fv vv l){o:Obj}(hg:(w.alloc o).grownBy w3 fv.ownBlock){b:IBlk}{pv:Value}(hb:b.ops=[]/\b.term=⟨0,0,[]⟩)
 (c:w3.ownsRow K.B 84 5 fv' (l.length+1) (l.flatMap xG++xG ⟨b,pv,F,F,[]⟩)) (a1:∀k,fv'.ownBlock=some k->fv.ownBlock=some k∨w.heap.size<=k) (x:wm w (K.av X) pv b.params) (hz:M.sz+1<=1000000):
 MkIn (w3.setCell ⟨K.pm,4,none⟩ fv') K (fun k=>X k∨fv'.ownBlock=some k) {M with f:=M.f++ [b]} fv' vv (l++ [⟨b,pv,.slice none 0 0,.slice none 0 0,[]⟩])/\Stp X w (fun k=>X k∨fv'.ownBlock=some k) (w3.setCell ⟨K.pm,4,none⟩ fv'):=by
 have n1:=zC h.own h.blk (.inr Zd);have u:=zL hg (zB h.blk) n1;have a0:w.heap.size<=w3.heap.size:=by have:=hg.size;simp at this;omega
 have hk:∀k,k<w.heap.size->k≠K.pm->fv.ownBlock≠some k->(w3.setCell ⟨K.pm,4,none⟩ fv').heap[k]? =w.heap[k]?:=fun k hk hne hv=>
  (Below.heap_setCell w3 ⟨K.pm,4,none⟩ fv' k hne).trans ((hg.block k Zt (fun e=>hv e.symm)).trans (Below.heap_alloc w o k hk))
 have hs:Stp X w (fun k=>X k∨fv'.ownBlock=some k) (w3.setCell ⟨K.pm,4,none⟩ fv'):=
  ⟨hg.os,hg.tape,hg.output,by simpa using a0,fun k hx'=>hx'.elim .inl (fun e=>(a1 k e).elim (fun e2=> .inl (h.xf k e2)) .inr),fun k hk' hxk=>hk k hk' (fun e=>hxk (by rw[e];exact h.xm)) (fun e=>hxk (h.xf k e))⟩
 have g:∀ {v:Value} {e:TypeId} {sz n:Nat} {xs:List Value},w.ownsRow K.B e sz v n xs->e≠84->e≠128->∀k,v.ownBlock=some k->(w3.setCell ⟨K.pm,4,none⟩ fv').heap[k]? =w.heap[k]?:=fun {v e sz n xs} ho h1 h2 k hk'=>by
  refine hk k (ho.lt k hk').2 (fun e3=>zC ho h.blk (.inr h2) (by rw[hk',e3])) (fun e3=>?_);rcases zo ho h.own h1 with y|y
  ·rw[y] at hk';cases hk'
  ·exact y (by rw[hk',e3])
 refine⟨⟨?_,?_,?_,fun q d=>?_,fun i j qi qj k hi hj hqi hqj=>?_,yD h.vown (g h.vown Zd Zd),h.v64,.inl h.xm,fun k e=> .inr e,fun k e=> .inl (h.xv k e),fun k e=>e.elim (h.xB k) (fun e2=>(c.lt k e2).1),fun k e=>?_,h.env.step hs (hs.below h.xB h.size),?_,h.lft⟩,hs⟩
 ·rw[zD u];rfl
 ·rw[Jk,Ju,Nx];exact ownsRow_setCell_other (show w3.ownsRow K.B 84 5 fv' (l.length+1) (l.flatMap xG++ [(⟨b,pv,.slice none 0 0,.slice none 0 0,[]⟩:BM)].flatMap xG) from c) (fun e=>zC c u (.inr Zd) (by simpa using e)) _
 ·rw[Js,<-h.fl];rfl
 ·rcases Jl.1 d with d|d
  ·exact(h.bok q d).step hs (g (h.bok q d).own Zd Zd) (fun _ e=> .inl e)
  ·rw[Jo] at d;subst d;refine⟨?_,x.step zn (hs.av K),hb.1,Jv _ _ _ _,(fun o ho=>by cases ho),?_,(fun k e=>by simp[Value.ownBlock] at e)⟩
   ·rw[hb.2];exact⟨⟨by decide,by decide⟩,⟨by decide,by decide⟩⟩
   ·rw[hb.2];exact yE.nil
 ·have t:∀(m:Nat) (qm:BM),(l++ [(⟨b,pv,.slice none 0 0,.slice none 0 0,[]⟩:BM)])[m]? =some qm->qm.ov.ownBlock=some k->l[m]? =some qm:=fun m qm hm hqm=>by
   by_cases e:m<l.length
   ·rwa [Np e] at hm
   ·rw[Nc Zo] at hm;have:m-l.length=0:=by have:=(Jh.1 hm).1;simp at this;omega
    rw[this] at hm;cases hm;simp[Value.ownBlock] at hqm
  exact h.apart i j qi qj k (t i qi hi hqi) (t j qj hj hqj) hqi hqj
 ·rcases e with e|e
  ·have:=h.xl k e;simp;omega
  ·have:=(c.lt k e).2;simpa using this
 ·have e:opsN [b]=0:=by unfold opsN;simp[hb.1]
  unfold MS.sz at *;simp only[Jk,Ju,ry,e];omega
structure DOk (d:wO) (done:List Int) (Df:Int->Int->Int->Prop):Prop where
 dom:∀v,(d.1 v).isSome=true↔v∈done
 val:∀v i k,Df v i k->d.1 v=some i/\d.2 v=some k
theorem DOk.def{c:List Int}(h:DOk d c Df){v i k:Int}(l:v ∉ c)(hr:0<=v/\v<=65535):
 ∃d',rB d v i k=some d'/\DOk d' (c++ [v]) (fun v' i' k'=>Df v' i' k'∨(v'=v/\i'=i/\k'=k)):=by
 have h0:¬((d.1 v).isSome=true∨v<0∨65535<v):=by
  rintro(e|e|e)
  ·exact l ((h.dom v).1 e)
  ·omega
  ·omega
 refine⟨(lS d.1 v i,lS d.2 v k),?_,fun w=>?_,fun w i' k' g=>?_⟩
 ·unfold rB;rw[if_neg h0]
 ·unfold lS;simp only[Jl,Jo]
  by_cases e:w=v
  ·rw[if_pos e];simp[e]
  ·rw[if_neg e,h.dom w];simp[e]
 ·unfold lS;rcases g with g|⟨rfl,rfl,rfl⟩
  ·have h1:=h.val w i' k' g;have j:w≠v:=fun e=>l (by rw[<-e];exact(h.dom w).1 (by rw[h1.1];rfl))
   simp only[if_neg j];exact h1
  ·simp
theorem DOk.weak{c:List Int}{Dg:Int->Int->Int->Prop}(h:DOk d c Df)(hg:∀v i k,Dg v i k->Df v i k):DOk d c Dg:=⟨h.dom,fun v i k e=>h.val v i k (hg v i k e)⟩
theorem DOk.pars {i:Int}:∀(vs:List Int) (d:wO) (done:List Int) (Df:Int->Int->Int->Prop),DOk d done Df->(done++vs).Nodup->(∀v∈vs,0<=v/\v<=65535)->
 ∃d',vJ i vs d=some d'/\DOk d' (done++vs) (fun v' i' k'=>Df v' i' k'∨(v'∈vs/\i'=i/\k'=-1))
 | [],d,done,Df,h,_,_=>⟨d,rfl,by rw[Ua];exact h.weak (fun v i k e=>e.elim (fun e=>e) (fun e=>by cases e.1))⟩
 |v::vs,d,done,Df,h,hn,hr=>by
  have hv:v ∉ done:=fun e=>(Qq.1 hn).2.2 v e v (.head _) rfl
  obtain⟨d1,h1,h2⟩:=h.def (i:=i) (k:=-1) hv (hr v (.head _));have c:((done++ [v])++vs).Nodup:=by rw[Nv];exact hn
  obtain⟨d2,h3,g⟩:=DOk.pars vs d1 _ _ h2 c (fun w hw=>hr w (.tail _ hw));refine⟨d2,by unfold vJ;rw[h1];exact h3,?_⟩;rw[Nv] at g;refine g.weak (fun w i' k' e=>?_);rcases e with e|⟨e1,e2,e3⟩
  ·exact .inl (.inl e)
  ·rcases Jq.1 e1 with rfl|e1
   ·exact .inl (.inr ⟨rfl,e2,e3⟩)
   ·exact .inr ⟨e1,e2,e3⟩
theorem gY{os:List IOp}(h:0<=o.res):abo (o::os)=o.res::abo os:=by unfold abo;rw[List.filter_cons_of_pos (by simpa using h)];rfl
theorem abm{os:List IOp}(h:¬0<=o.res):abo (o::os)=abo os:=by unfold abo;rw[List.filter_cons_of_neg (by simpa using h)]
theorem DOk.ops {p:IProg}{i:Int}:∀(os:List IOp) (k:Int) (d:wO) (done:List Int) (Df:Int->Int->Int->Prop),DOk d done Df->(done++abo os).Nodup->(∀v∈abo os,0<=v/\v<=65535)->(∀o∈os,opF p o=true)->
 ∃d',sS p i os k d=some d'/\DOk d' (done++abo os) (fun v' i' k'=>Df v' i' k'∨(i'=i/\∃(j:Nat) (o:IOp),os[j]? =some o/\o.res=v'/\0<=v'/\k'=k+(j:Int)))
 | [],k,d,done,Df,h,_,_,_=>⟨d,rfl,by
  rw[show abo []=[] from rfl,Ua]
  exact h.weak (fun v i k e=>e.elim (fun e=>e) (fun e=>by obtain⟨_,j,o,h1,_⟩:=e;simp at h1))⟩
 |o::os,k,d,done,Df,h,hn,hr,ho=>by
  by_cases h0:0<=o.res
  ·rw[gY h0] at hn hr ⊢;have hv:o.res ∉ done:=fun e=>(Qq.1 hn).2.2 _ e _ (.head _) rfl
   obtain⟨d1,h1,h2⟩:=h.def (i:=i) (k:=k) hv (hr _ (.head _));have g:((done++ [o.res])++abo os).Nodup:=by rw[Nv];exact hn
   obtain⟨d2,h3,c⟩:=DOk.ops os (k+1) d1 _ _ h2 g (fun w hw=>hr w (.tail _ hw)) (fun x hx=>ho x (.tail _ hx));refine⟨d2,by unfold sS;rw[if_pos (ho o (.head _)),if_pos h0,h1];exact h3,?_⟩;rw[Nv] at c;refine c.weak (fun w i' k' e=>?_);rcases e with e|⟨e1,j,x,e2,e3,e4,e5⟩
   ·exact .inl (.inl e)
   ·cases j with
    |zero=>
     cases e2
     exact .inl (.inr ⟨e3.symm,e1,by omega⟩)
    |succ j=>exact .inr ⟨e1,j,x,e2,e3,e4,by omega⟩
  ·rw[abm h0] at hn hr ⊢;obtain⟨d2,h3,c⟩:=DOk.ops os (k+1) d done Df h hn hr (fun x hx=>ho x (.tail _ hx));refine⟨d2,by unfold sS;rw[if_pos (ho o (.head _)),if_neg h0];exact h3,c.weak (fun w i' k' e=>?_)⟩;rcases e with e|⟨e1,j,x,e2,e3,e4,e5⟩
   ·exact .inl e
   ·cases j with
    |zero=>cases e2;omega
    |succ j=>exact .inr ⟨e1,j,x,e2,e3,e4,by omega⟩
theorem DOk.blks{p:IProg}:∀(bs:List IBlk) (i:Nat) (d:wO) (done:List Int) (Df:Int->Int->Int->Prop),DOk d done Df->(done++aaI bs).Nodup->(∀v∈aaI bs,0<=v/\v<=65535)->(∀b∈bs,(∀o∈b.ops,opF p o=true)/\ro blocks b.term=true)->
 ∃d',uH p blocks bs i d=some d'/\DOk d' (done++aaI bs) (fun v' i' k'=>Df v' i' k'∨∃q:Nat,i'=((i+q:Nat):Int)/\fB bs v' q k')
 | [],i,d,done,Df,h,_,_,_=>⟨d,rfl,by
  rw[show aaI []=[] from rfl,Ua]
  exact h.weak (fun v i k e=>e.elim (fun e=>e) (fun e=>by obtain⟨q,_,b,hb,_⟩:=e;simp at hb))⟩
 |b::bs,i,d,done,Df,h,hn,hr,ho=>by
  have hd:aaI (b::bs)=b.params++(abo b.ops++aaI bs):=by
   show abu b++aaI bs=_
   unfold abu;rw[Nv]
  rw[hd] at hn hr ⊢;have n1:(done++b.params).Nodup:=by rw[<-Nv] at hn;exact(Qq.1 hn).1
  obtain⟨d1,a1,a2⟩:=DOk.pars (i:=i) b.params d done Df h n1 (fun v hv=>hr v (Jz _ hv));have n2:((done++b.params)++abo b.ops).Nodup:=by rw[<-Nv,<-Nv] at hn;exact(Qq.1 hn).1
  obtain⟨d2,b1,b2⟩:=DOk.ops (p:=p) (i:=i) b.ops 0 d1 _ _ a2 n2 (fun v hv=>hr v (Qf _ (Jz _ hv))) (ho b (.head _)).1;have n3:(((done++b.params)++abo b.ops)++aaI bs).Nodup:=by rw[Nv,Nv];exact hn
  obtain⟨d3,c1,c2⟩:=DOk.blks bs (i+1) d2 _ _ b2 n3 (fun v hv=>hr v (Qf _ (Qf _ hv))) (fun x hx=>ho x (.tail _ hx));refine⟨d3,?_,?_⟩
  ·unfold uH pS;rw[a1,Nw,b1,Nw,if_pos (ho b (.head _)).2,Nw];exact c1
  ·rw[Nv,Nv] at c2;refine c2.weak (fun w i' k' e=>?_);rcases e with e|⟨q,e1,x,e2,e3⟩
   ·exact .inl (.inl (.inl e))
   ·cases q with
    |zero=>
     cases e2;rcases e3 with⟨e3,e4⟩|⟨j,o,e3,e4,e5,e6⟩
     ·exact .inl (.inl (.inr ⟨e4,by rw[e1];rfl,e3⟩))
     ·exact .inl (.inr ⟨by rw[e1];rfl,j,o,e4,e5,e6,by omega⟩)
    |succ q=>exact .inr ⟨q,by rw[e1];omega,x,e2,e3⟩
abbrev ack (p:IProg)(f:List IBlk)(next:Nat)(pl:List Nat):Prop:=∃cur vals,MInv p f cur next vals (fun _=>False) (fun _=>False) pl
section
variable {p:IProg} {f:List IBlk} {next:Nat} {pl:List Nat} (h:ack p f next pl)
include h
theorem ack.term:∀b∈f,ro f b.term=true:=by
 obtain⟨cur,vals,h⟩:=h;intro b hb;obtain⟨i,hi⟩:=Ny hb;obtain⟨h1,h2,_⟩:=h.term i b hi (fun e=>e);unfold ro;rw[Jm,Oe];refine⟨fun e he=>?_,h1⟩;obtain⟨s,u,bs,e1,e2,e3,e4,_⟩:=h2 e he;have hs:=(Jh.1 e3).1
 have hb:xz f e.block=bs:=by
  unfold xz;rw[e1,Ni,Jj,e3];rfl
 unfold uM;simp only[Jm,decide_eq_true_eq];exact⟨⟨by omega,by omega⟩,by rw[hb];exact e4⟩
theorem ack.ne:f≠ []:=by
 obtain⟨cur,vals,h⟩:=h;intro e;have:=h.curl;rw[e] at this;simp at this
theorem ack.valid:zw (zy f):=nO h.ne h.term
theorem ack.ops:∀b∈f,∀o∈b.ops,opF p o=true:=by
 obtain⟨cur,vals,h⟩:=h;intro b hb o ho;obtain⟨i,hi⟩:=Ny hb;obtain⟨j,c⟩:=Ny ho;exact(h.ops i b hi j o c).1
end
theorem gK {f:List IBlk}{u:Nat}{b:IBlk}(hb:f[u]? =some b):succ (zy f) u=b.term.to.map fun e=>e.block.toNat:=by
 unfold succ zy;rw[Jj,Jr,hb];rfl
section
variable {p:IProg} {f:List IBlk} {next:Nat} {pl:List Nat} (h:ack p f next pl)
include h
theorem ack.reach(hi:i<f.length):Reach (GE (zy f)) i:=by
 obtain⟨cur,vals,h⟩:=h;have hr:=h.rch i hi (fun e=>e);clear hi
 induction hr with
 |zero=>exact .refl trivial
 |step _ h2 h3 h4 ih=>
  refine .snoc ih ?_ trivial
  show _∈succ _ _
  rw[gK h2];exact Nu.2 ⟨_,h3,by rw[h4];rfl⟩
theorem ack.dom{b:Nat}(o:Abv pl b i):Dom (GE (zy f)) b i:=by
 obtain⟨cur,vals,h⟩:=h;intro q
 induction q with
 |refl hne=>
  cases o with
  |refl=>exact hne rfl
  |up _ h0 _=>omega
 |@snoc u s _ he hne ih=>
  cases o with
  |refl=>exact hne rfl
  |up h0 h1 h2=>
   have c:s∈succ (zy f) u:=he
   have j:u<f.length:=by
    rcases Nat.lt_or_ge u f.length with k|l
    ·exact k
    ·unfold succ at c;rw[Jj,Of (by rw[xu];exact l)] at c;cases c
   obtain⟨x,g⟩:∃x,f[u]? =some x:=⟨_,Jd j⟩
   rw[gK g] at c;obtain⟨e,m,d⟩:=Nu.1 c;obtain⟨_,t2,_⟩:=h.term u x g (fun e=>e);obtain⟨s',u',bs,e1,_,_,_,e5,e6⟩:=t2 e m;rw[e1,Ni] at d;subst d;rw[h0] at e5;cases e5;exact ih (h2.trans e6)
theorem ack.doms{b:Nat}(c:Abv pl b i)(hi:i<f.length):wE (zy f) b i=true:=by
 have hp:∀i u,pl[i]? =some u->0<i->u<i:=by obtain⟨cur,vals,h⟩:=h;exact h.par
 have hb:b<f.length:=by have:=c.le hp;omega
 exact(yO h.valid b i).2 ⟨h.reach hb,h.reach hi,h.dom c⟩
theorem ack.shapes (c:next<=65536):∃d,wg p f=some d/\∀v i k,fB f v i k->d.1 v=some (i:Int)/\d.2 v=some k:=by
 have ht:=h.term;have ho:=h.ops;obtain⟨cur,vals,h⟩:=h;have h0:DOk ((fun _=>none,fun _=>none):wO) [] (fun _ _ _=>False):=⟨fun v=>by simp,fun v i k e=>e.elim⟩
 obtain⟨d,h1,h2⟩:=DOk.blks (p:=p) (blocks:=f) f 0 _ _ _ h0 (by rw[Op];exact h.nd) (fun v hv=>by have:=h.rng v hv;omega) (fun b hb=>⟨ho b hb,ht b hb⟩);refine⟨d,h1,fun v i k hd=>h2.val v i k (.inr ⟨i,by rw[Ng],hd⟩)⟩
theorem ack.known(c:∀v i k,fB f v i k->d.1 v=some (i:Int)/\d.2 v=some k){v:Int}{k:Int}(hi:i<f.length)(hk:Kn f pl v i k):yy d (zy f) i k v=true:=by
 obtain⟨b,a,h1,h2,h3⟩:=hk;obtain⟨e1,e2⟩:=c v b a h1;unfold yy;rw[e1,e2];simp only[Jm,Bool.not_eq_true',Ni];refine⟨?_,h.doms h2 hi⟩;rw[Bool.and_eq_false_iff]
 by_cases e:b=i
 ·right;have:=h3 e;simp;omega
 ·left;simp;omega
end
theorem gM{i:Int}:∀(os:List IOp) (k:Nat),(∀(j:Nat) (o:IOp),os[j]? =some o->(rR o).all (yy d g i ((k+j:Nat):Int))=true)->xF d g i os k=true
 | [],k,h=>rfl
 |o::os,k,h=>by
  unfold xF;rw[Jm];refine⟨h 0 o rfl,?_⟩
  have:=gM os (k+1) (fun j x hx=>by
   have:=h (j+1) x hx;rw[show k+1+j=k+(j+1) by omega]
   exact this)
  rw[show((k+1:Nat):Int)=(k:Int)+1 by omega] at this;exact this
theorem fR:∀(bs:List IBlk) (i:Nat),(∀(q:Nat) (b:IBlk),bs[q]? =some b->aaC d g b ((i+q:Nat):Int)=true)->tO d g bs i=true
 | [],i,h=>rfl
 |b::bs,i,h=>by
  unfold tO;rw[Jm];refine⟨h 0 b rfl,?_⟩
  have:=fR bs (i+1) (fun q x hx=>by
   have:=h (q+1) x hx;rw[show i+1+q=i+(q+1) by omega]
   exact this)
  rw[show((i+1:Nat):Int)=(i:Int)+1 by omega] at this;exact this
theorem acd(hv:zw g)(hr:∀i,i<g.length->Reach (GE g) i):(vD g).length=g.length:=by
 obtain⟨ns,c⟩:=adR hv;rw[c.eq]
 have:=fg c.nodup (List.nodup_range (n:=g.length)) (fun x=>by
  rw[Ol]
  exact⟨fun hx=>c.lt x hx,fun hx=>(c.mem x).2 (hr x hx)⟩)
 rw[this,Un]
theorem ack.rest{p:IProg}{f:List IBlk}{next:Nat}{pl:List Nat}(h:ack p f next pl)(g:∀v i k,fB f v i k->d.1 v=some (i:Int)/\d.2 v=some k):iM f d=true:=by
 unfold iM;rw[Jm,decide_eq_true_eq];refine⟨?_,?_⟩
 ·rw[acd h.valid (fun i hi=>h.reach (by rw[xu] at hi;exact hi)),xu]
 ·refine fR f 0 (fun q b hb=>?_);rw[Ng];have c:=(Jh.1 hb).1;unfold aaC;rw[Jm];have h0:=h;obtain⟨cur,vals,l⟩:=h0;refine⟨gM b.ops 0 (fun j o ho=>?_),?_⟩
  ·rw[Oe];intro v hv;rw[Ng];exact h.known g c ((l.ops q b hb j o ho).2 v hv)
  ·rw[Oe];intro v hv;exact h.known g c ((l.term q b hb (fun e=>e)).2.2 v hv)
theorem ack.function {p:IProg}{f:List IBlk}{next:Nat}{pl:List Nat}(h:ack p f next pl)(i:next<=65536){n:Nat}(hf:p.funcs[n]? =some f){b0:IBlk}(c:f[0]? =some b0)(g:(b0.params.length:Int)=p.args.getD n 0):yi p n=true:=by
 obtain⟨d,h1,h2⟩:=h.shapes i;have h3:=h.rest h2;unfold yi;rw[Jj,hf,Ot]
 match f,h1,h3,c with
 | [],_,_,c=>simp at c
 |b::bs,h1,h3,c=>
  cases c;simp only[Jm,decide_eq_true_eq];refine⟨g,?_⟩;rw[h1];exact h3
theorem eE {p:IProg}{E:ME}(hp:EnvOk p E)(pos:Nat):aaz p (xD E pos) (fun i=>i=0) (fun _=>False) [0]:=by
 have g:=eP hp.alt E.me
 show MInv p [wJ (tkV E ⟨pos,[],0,0,[],6⟩ 3*10) (E.args.getD E.me 0).toNat] 0 (tkV E ⟨pos,[],0,0,[],6⟩ 3*10+(E.args.getD E.me 0).toNat) (wJ (tkV E ⟨pos,[],0,0,[],6⟩ 3*10) (E.args.getD E.me 0).toNat).params _ _ _
 generalize tkV E ⟨pos,[],0,0,[],6⟩ 3*10=nx;generalize (E.args.getD E.me 0).toNat=n at *
 have c:∀(i:Nat) (b:IBlk),[wJ nx n][i]? =some b->i=0/\b=wJ nx n:=fun i b h=>by
  cases i with
  |zero=>cases h;exact⟨rfl,rfl⟩
  |succ i=>simp at h
 have d:aaI [wJ nx n]=(List.range n).map fun k=>((nx+k:Nat):Int):=by
  unfold aaI abu wJ;simp[abo]
 refine⟨rfl,by show 0<1;decide,?_,?_,?_,?_,?_,?_,?_,?_,?_,?_⟩
 ·intro i u hi h0;have:=(Jh.1 hi).1;simp at this;omega
 ·intro i b hb j o ho;obtain⟨rfl,rfl⟩:=c i b hb;simp[wJ] at ho
 ·intro i b hb l;exact absurd (c i b hb).1 l
 ·intro i b hb _;obtain⟨rfl,rfl⟩:=c i b hb;rfl
 ·intro i hi;rw[hi]
  show 0<1
  decide
 ·intro v hv b hb;obtain⟨_,rfl⟩:=c 0 b hb;exact⟨0,-1,⟨_,rfl,.inl ⟨rfl,hv⟩⟩,.refl _,fun _=>by show(-1:Int)<0;decide⟩
 ·rw[d];refine List.pairwise_map.2 (List.nodup_range.imp fun hab e=>hab ?_);omega
 ·intro v hv;rw[d] at hv;obtain⟨k,hk,rfl⟩:=Nu.1 hv;have:=Ol.1 hk;omega
 ·intro i hi _;have:i=0:=by simp at hi;exact hi
  subst this;exact .zero
 ·intro i b hb;obtain⟨rfl,rfl⟩:=c i b hb;exact⟨by rw[sd];exact g,by show 0<=4;decide⟩
theorem gJ {p:IProg}{E:ME}(hp:EnvOk p E)(pos:Nat):∃pl,ack p (xR E pos).f (xR E pos).next pl/\∃b0,(xR E pos).f[0]? =some b0/\b0.params.length=(E.args.getD E.me 0).toNat:=by
 have h0:=eE hp pos;obtain⟨d,h1⟩:=abq hp 2 (xD E pos) _ _ [0] h0 rfl (fun e=>e) (fun i e=>e.elim);obtain⟨pl2,h2⟩:=abq hp 1 (zp E 2 (xD E pos)) _ _ d h1.inv (.inr rfl) h1.np (fun i e=>e.elim);have h3:=h1.trans h2 (ja h1.ext) h0.lt;have hb:(xD E pos).f[0]? =some (wJ (tkV E ⟨pos,[],0,0,[],6⟩ 3*10) (E.args.getD E.me 0).toNat):=rfl;have c:=h3.ext;have hi:aaz p (zp E 1 (zp E 2 (xD E pos))) (fun i=>i=(zp E 1 (zp E 2 (xD E pos))).cur) (fun _=>False) pl2:=h3.inv.weak (fun i=>⟨fun e=>e.elim (fun e=>absurd e.1 e.2) (fun e=>e),.inr⟩) (fun i e=>e);unfold xR;simp only;generalize zp E 1 (zp E 2 (xD E pos))=M1 at *
 have fin:∀(M:MS) (t:ITerm),aaz p M (fun i=>i=M1.cur) (fun _=>False) pl2->M.cur=M1.cur->m6 (xD E pos).f M.f->gR t=true->t.to=[]->(∀v∈mE t,v∈M.vals)->
  ∃pl,ack p (M.endB t).f (M.endB t).next pl/\∃b0,(M.endB t).f[0]? =some b0/\b0.params.length=(E.args.getD E.me 0).toNat:=fun M t hM hc hxx hk ht hv=>by
  have k:(fun i=>i=M1.cur) M.cur:=hc;have m:=hM.endB (t:=t) k hk (by rw[ht];show 0<=4;decide) (fun e he=>by rw[ht] at he;cases he) (fun v h=>hM.at (hv v h)) (P':=fun _=>False) (fun e=>e) (fun i e=> .inl e);have l:=hxx.trans (xd hM k t);obtain⟨b',j,g,_⟩:=l _ _ hb;refine⟨pl2,⟨_,_,m.weak (fun i=>⟨fun e=>e.2 (by rw[hc];exact e.1),fun e=>e.elim⟩) (fun i e=>e)⟩,b',j,by rw[g,sd]⟩
 split
 ·exact fin M1.tick ⟨5,0,[]⟩ hi rfl c rfl rfl (fun v hv=>by cases hv)
 split
 ·exact fin M1.tick ⟨4,-1,[]⟩ hi rfl c rfl rfl (fun v hv=>by cases hv)
 ·obtain⟨a1,a2⟩:=MInv.any (M:=M1.tick) E hi rfl
  exact fin (zJ E M1.tick).2 ⟨4,(zJ E M1.tick).1,[]⟩ a1 (yU E M1.tick).cur (c.trans (aaW E M1.tick)) rfl rfl (fun v hv=>by
   rcases gL hv with rfl|hv
   ·exact a2
   ·cases hv)
theorem jm {E:ME}(c:∀x∈E.args,0<=x/\x<4)(pos:Nat):(xR E pos).sz<=pos+2869:=by
 have h1:=(rx c pos).sz;have h2:=sQ c pos;omega
theorem qJ (s:List Int):∀(n k:Nat),k<n->(zg s n).1[k]? =some (xR (xC s k) (zg s k).2).f
 |n+1,k,h=>by
  show((zg s n).1++ [_])[k]? =_
  by_cases hk:k<n
  ·rw[Np (by rw[yx];exact hk)];exact qJ s n k hk
  ·have e:k=n:=Zo;subst e;rw[Nc (by rw[yx];exact Je _),yx,Qy];rfl
theorem qA (s:List Int):(uR s).funcs.length=mdN s:=by
 unfold uR;simp only
 split
 ·rw[Nd,yx]
 ·exact yx s _
theorem kz(s:List Int)(hk:k<mdN s):(uR s).funcs[k]? =some []/\qV s=true/\k=mdN s-1∨(uR s).funcs[k]? =some (xR (xC s k) (zg s k).2).f:=by
 have h:=qJ s (mdN s) k hk;unfold uR;simp only
 split
 ·rename_i c
  by_cases e:k=mdN s-1
  ·left;subst e;exact⟨Nn (by rw[yx];exact hk),c,rfl⟩
  ·right;rw[Ns (fun e2=>e e2.symm)];exact h
 ·exact .inr h
theorem gi (s:List Int)(k:Nat):EnvOk (uR s) (xC s k):=⟨qA s,rfl,rfl,xy s _⟩
theorem gP (s:List Int)(k:Nat):0<=(yS s (mdN s)).getD k 0/\(yS s (mdN s)).getD k 0<4:=by
 rw[Jj]
 cases c:(yS s (mdN s))[k]? with
 |none=>simp
 |some x=>exact xy s _ x (Ji c)
theorem lz (s:List Int)(k:Nat)(hk:k<mdN s):(xR (xC s k) (zg s k).2).sz<=15000:=by
 have h1:=tU s k;have h2:=jm (E:=xC s k) (xy s _) (zg s k).2;have:=sm s;omega
theorem no (s:List Int):∀n,0<n->(yS s n).getD 0 0=0
 |1,_=>rfl
 |n+2,_=>by
  have h:=no s (n+1) Zo;rw[Jj] at h ⊢
  show((yS s (n+1)++ [_])[0]?).getD 0=0
  rw[Np (by rw[yY];omega)];exact h
theorem eH (s:List Int):sR (uR s)=0:=by
 have l:=sm s;have hl:=qA s;have h0:=no s (mdN s) Zo
 have k:wB (uR s)=true:=by
  have hb:sG.size=4096:=by
   unfold sG ByteArray.size;simp only[List.size_toArray,Nr,Un]
  unfold wB;rw[Jm];refine⟨?_,by show ig 1 am=true;decide⟩
  show [sG].all _=true
  simp[hb]
 have g:∀f:Nat,f<mdN s->(yS s (mdN s)).getD f 0=0->yw (uR s) (f:Int)=true:=fun f hf h=>by
  unfold yw;rw[Jm,Jm,decide_eq_true_eq,decide_eq_true_eq,beq_iff_eq,hl,Ni];exact⟨by omega,by omega,h⟩
 unfold sR;rw[if_neg (by rw[hl];show ¬(2000<mdN s∨512<3∨64<1);omega),if_neg (by rw[hl];show ¬((yS s (mdN s)).length≠mdN s);rw[yY];simp),if_neg,if_neg,if_neg (by rw[k];decide)]
 ·rintro(e|⟨e1,e2⟩)
  ·have:=g 0 Zo h0;have e':yw (uR s) ((0:Nat):Int)=false:=e;rw[this] at e';cases e'
  ·have d:vw s≠-1:=e1;have c:yw (uR s) (vw s)=false:=e2;unfold vw at d c
   split at c
   ·rename_i i
    have j:=i.1;unfold oJ at j;simp only[Jm,decide_eq_true_eq] at j;rw[g _ Zo j.2] at c;cases c
   ·rename_i i
    rw[if_neg i] at d;exact d rfl
 ·have:∀x∈yS s (mdN s),tX x=true:=fun x hx=>by
   have:=xy s _ x hx;unfold tX;rw[Jm,decide_eq_true_eq,decide_eq_true_eq];omega
  intro e;have e':(yS s (mdN s)).all tX=false:=e;rw[Oe.2 this] at e';cases e'
theorem fm (s:List Int):vC (uR s)=0:=by
 unfold vC;rw[if_neg (by rw[eH];simp),if_pos];rw[Oe];intro k hk;rw[Ol,qA] at hk;rcases kz s hk with⟨h,_⟩|h
 ·unfold yi;rw[Jj,h];rfl
 ·obtain⟨pl,h1,b0,h2,h3⟩:=gJ (gi s k) (zg s k).2;have c:=lz s k hk;refine h1.function (by unfold MS.sz at c;omega) h h2 ?_;rw[h3]
  show(((yS s (mdN s)).getD k 0).toNat:Int)=(yS s (mdN s)).getD k 0
  exact Oa (gP s k).1
def ae2 (c:Int):Prop:=c=1∨c=3∨c=4∨(5<=c/\c<=17)
theorem agn{E:IEnv}(h:5<=o.code/\o.code<=17)(v:Int->Nat)(m:Mach):oV E call o v m=iy m o.code (v o.a) (v o.b):=by
 unfold oV mU;rw[if_neg Zo,if_neg Zo,if_neg Zo,if_neg Zo,if_neg Zo,if_neg Zo,if_neg Zo,if_neg Zo,if_neg Zo,if_neg Zo,if_neg Zo,if_neg Zo,if_neg Zo,if_neg Zo]
theorem stepR_ex{E:IEnv}(hc:ae2 o.code)(v:Int->Nat)(m:Mach):(∃x,oV E call o v m=.ok x m)∨oV E call o v m=.trap 4 0 m:=by
 obtain⟨c,r,a,b,n,l⟩:=o;have hc:ae2 c:=hc;rcases hc with rfl|rfl|rfl|h
 ·exact .inl ⟨_,rfl⟩
 ·exact .inl ⟨_,rfl⟩
 ·exact .inl ⟨_,rfl⟩
 ·rw[agn h];unfold iy
  split
  ·exact .inr rfl
  ·exact .inl ⟨_,rfl⟩
theorem step_ex{K:MK}{ov:Value}(h:MachAt w K m ov)(hc:ae2 o.code)(hb:I64 o.code/\I64 o.res/\I64 o.a/\I64 o.b/\o.n<65536)(ab:Option Addr)(an ac:Nat){v:Int->Nat}(hv:xO w vb vn v)(d:Int):
 A 155 #[Q K.pm,.agg #[I o.code,I o.res,I o.a,I o.b,U (o.n:Int),.slice ab an ac],.map (some vb),I d] w (zQ K w (oV K.E call o v m)):=by
 obtain⟨c,r,a,b,n,l⟩:=o;obtain⟨_,q,i,g,j⟩:=hb;have hc:ae2 c:=hc;rcases hc with rfl|rfl|rfl|k
 ·exact step_1 h i g j _ _ _ hv _
 ·exact step_3 h i g j _ _ _ hv _
 ·exact step_4 h i g j _ _ _ hv _
 ·rw[agn k];exact step_ar h i g j _ _ _ hv _ k
theorem call_ex(K:MK){bk:IBlk}(b8:K.E.p.funcs[0]? =some [bk])(c8:bk.params=[])(h7:bk.term.kind=4)(i0:bk.term.a=2)(d6:∀o∈bk.ops,ae2 o.code/\0<=o.res)(h5:bk.ops.length<=3){ov:Value}(h:MachAt w K m ov)(hfu:m.fuel=10):
 A 150 #[Q K.pm,I 0,F,I 1] w (zQ K w (xW K.E 100 0 [] m)):=by
 have b7:=h.prog.funcs;obtain⟨fa,fc,h9,_,_⟩:=b7.form;have c0:=h.c0;rw[h9] at b7 c0;obtain⟨fb,fo,rfl,_,bv,e2,e3⟩:=b7.get b8;obtain⟨ba,bc,rfl,_,l4⟩:=e3.form;have e2:T w fb fo (.slice ba 1 bc):=by rw[Nk,Uk] at e2;exact e2
 have l9:(0:Int)<K.E.p.funcs.length:=by have:=(Jh.1 b8).1;omega
 have c5:xW K.E 100 0 [] m=tJ K.E (xW K.E 99) [bk] 11 0 [] (fun _=>0) m:=by
  show(if(K.E.p.funcs.getD (0:Int).toNat []).isEmpty then _ else _)=_
  rw[show(0:Int).toNat=0 from rfl,Jj,b8,hfu];rfl
 rw[c5];obtain⟨RES,a5⟩:∃R,tJ K.E (xW K.E 99) [bk] 11 0 [] (fun _=>0) m=R:=⟨_,rfl⟩
 rw[a5];obtain⟨OR,e4⟩:∃R,iq K.E (xW K.E 99) bk.ops (fun _=>0) m=R:=⟨_,rfl⟩
 rw[ru,show xz [bk] 0=bk from rfl,show r7 bk.params [] (fun _=>0)=(fun _=>0) by rw[c8];rfl,e4] at a5;have e8:=Ja a5;have hB:=h.size;have k6:=Ja (show CSt K w (w.alloc (.map #[] 0)) m w.heap.size 0 (fun _=>0) from⟨⟨ov,h.keep ((Below.refl _ _).alloc (Je _) _)⟩,(Frm.refl _ _).alloc (Qd hB) _,xO.made w,Je _,hB⟩);have l2:=Ja e3;have HP:=Ja (Jb c8 (Jb d6 e4));have HF:=Ja (Jb hfu h5);have a8:=Ja (Jb h7 i0);clear h b7 h9 b8 e3 c5 c8 d6 h5 e4 a5 hfu h7 i0;have l8:=@run_makeMap Tryz.prog;go_enter Tryz.func150,Tryz.ntmps150;go_wp2
 go_loopw [2,11] (fun sv atv wx=>sv=F/\atv=I 0/\Hid (CSt K w wx m w.heap.size 0 (fun _=>0))) (fun _ _ _=>0)
 case atStart=>exact⟨rfl,rfl,k6⟩
 case round=>
  obtain⟨rfl,rfl,HS⟩:=hrel;have a4:=HS.out;obtain⟨bb,bo,rfl,a0,k2,k3,h6,pv,ov1,tv,kp,ko,kt,g6,c9,f9⟩:=l2.out.get (k:=0) (x:=bk) rfl;simp only[Nat.zero_mul,Uk] at k2 k3 kp ko kt;have k2:=zV a4.frm.below a0 k2;have k3:=zV a4.frm.below a0 k3;have kp:=zV a4.frm.below a0 kp;have ko:=zV a4.frm.below a0 ko;have kt:=zV a4.frm.below a0 kt;obtain⟨pa,pc,rfl,_,_⟩:=g6.form;obtain⟨oa,oc,rfl,_,_⟩:=c9.form;obtain⟨ta,tc,rfl,_,_⟩:=f9.form;have k7:=Ja (Jb c9 h6);clear a4 g6 c9 f9 h6;go_upto_region 9 with fail;have e1:=HS.out.alloc (G #[.slice pa bk.params.length pc,.slice oa bk.ops.length oc,I bk.term.kind,I bk.term.a,.slice ta bk.term.to.length tc] 84);have c:=zI (W:=wr) (o:=G #[.slice pa bk.params.length pc,.slice oa bk.ops.length oc,I bk.term.kind,I bk.term.a,.slice ta bk.term.to.length tc] 84) rfl;generalize k5:wr.alloc (G #[.slice pa bk.params.length pc,.slice oa bk.ops.length oc,I bk.term.kind,I bk.term.a,.slice ta bk.term.to.length tc] 84)=W1 at *;generalize wr.heap.size=b12 at *;have l5:=K0 c;have c2:=Ja (Jb e1 c);clear k5 e1 c k2 k3 kp ko kt;go_wp2
  go_loopw [47] (fun jv wx=>jv=I 0/\wx=W1) (fun _ _=>0)
  case atStart=>exact⟨rfl,rfl⟩
  case round=>
   obtain⟨rfl,f8⟩:=hrel;have b6:¬(0:Int)<bk.params.length:=by rw[HP.out.1];exact Int.lt_irrefl _
   rw[f8];clear f8;generalize a9:(#[.slice pa bk.params.length pc,.slice oa bk.ops.length oc,I bk.term.kind,I bk.term.a,.slice ta bk.term.to.length tc]:Array Value)=cs at *;have l7:T W1 b12 1 (.slice oa bk.ops.length oc):=by have:=c2.out.2;rw[<-a9] at this;exact zA this Zs
   have l1:=Ja a9;have c7:Hid (∃(v:Int->Nat) (m2:Mach),CSt K w W1 m2 w.heap.size 0 v/\L W1 b12 cs 84/\m2.fuel=10-((0:Nat):Int)/\iq K.E (xW K.E 99) (bk.ops.drop 0) v m2=OR):=⟨_,m,c2.out.1,c2.out.2,HF.out.1,HP.out.2.2⟩
   clear a9 c2;go_wp2
   go_loopw [62] (fun jv wx=>∃j:Nat,j<=bk.ops.length/\jv=I j/\Hid (∃(v:Int->Nat) (m2:Mach),CSt K w wx m2 w.heap.size j v/\L wx b12 cs 84/\m2.fuel=10-(j:Int)/\iq K.E (xW K.E 99) (bk.ops.drop j) v m2=OR)) (fun jv _=>bk.ops.length-(intOf jv).toNat)
   case atStart=>exact⟨0,Jt _,rfl,c7⟩
   case round=>
    obtain⟨j,hj,rfl,HJ⟩:=hrel;have m1:j<=3:=Jn hj HF.out.2;obtain⟨v2,m2,g,c,e0,i⟩:=HJ.out
    by_cases y:j<bk.ops.length
    ·have b6:(j:Int)<bk.ops.length:=Zo;have f1:=Ja y;obtain⟨o,ho⟩:∃o,bk.ops[j]? =some o:=⟨_,Jd y⟩
     have b9:bk.ops.drop j=o::bk.ops.drop (j+1):=by rw[Qn y];rw[Jd y] at ho;rw[Nt ho]
     have hfu:0<m2.fuel:=Zo;rw[b9,j7,if_neg Zo] at i;obtain⟨b1,o1,rfl,a1,g0,g1,g2,g3,g4,d7,av3,g5,f6⟩:=k7.out.1.get ho;obtain⟨xa,xc,rfl,_,_⟩:=f6.form;have d0:=zV g.frm.below a1 g0;have d1:=zV g.frm.below a1 g1;have d2:=zV g.frm.below a1 g2;have d3:=zV g.frm.below a1 g3;have d4:=zV g.frm.below a1 g4;have d5:=zV g.frm.below a1 g5;have b4:=Ja g;have i9:=Ja c;have a3:=Ja (Jb e0 (Jb i (Jb hfu d7)));have f0:=Ja (HP.out.2.1 o (Ji ho));clear g c e0 i f6 d7 b9 g0 g1 g2 g3 g4 g5 a1 y ho hfu;go_upto_region 17 with fail;have l:=b4.out.alloc (G (D o xa xc) 76);have d:=zI (W:=wr) (o:=G (D o xa xc) 76) rfl;have c1:=zB (o:=G (D o xa xc) 76) i9.out;generalize k4:wr.alloc (G (D o xa xc) 76)=W2 at *;generalize wr.heap.size=b16 at *;obtain⟨ov2,a6⟩:=l.mach;have c3:=Ja a6;have b3:=Ja l;have f5:=Ja (Jb d c1);clear k4 l d c1 a6 d0 d1 d2 d3 d4 d5;go_upto_region 18 with(go_at_call 154;go_must (refine(iN c3.out a3.out.2.2.1).mono ?_;rintro e w3 ⟨rfl,a2,t⟩))
     have b2:=b3.out.step a2 t;have d:=t.kept _ _ f5.out.1 (by simp[sA]);have c:=t.kept _ _ f5.out.2 (by simp[sA]);have q0:=K0 d;have q1:=K1 d;have q2:=K2 d;have q3:=K3 d;have q4:=K4 d;have q5:=K5 d;have q:=step_ex a2 (call:=xW K.E 99) f0.out.1 a3.out.2.2.2 xa o.args.length xc b2.map 1;have f4:=Ja b2;have i1:=Ja (Jb d c);clear b2 d c a2 t;have i:=a3.out.2.1;rcases stepR_ex (E:=K.E) (call:=xW K.E 99) f0.out.1 v2 m2.pay with⟨x,u⟩|u
     ·rw[u] at i q;have HX:=Ja i;have e6:=Ja (show A 155 #[Q K.pm,.agg (D o xa xc),.map (some w.heap.size),I 1] w3 fun e w'=>e=.returned (U x)/\(∃ov',MachAt w' K m2.pay ov')/\Frm K.B w3 w'/\x<65536 from q);clear i u q;go_upto_region 19 with(go_at_call 155;go_must (refine e6.out.mono ?_;rintro e w4 ⟨rfl,⟨ov4,e5⟩,a7,f7⟩))
      have b0:=f4.out.step e5 a7;have d:=a7.kept _ _ i1.out.1 (by simp[sA]);have c:=a7.kept _ _ i1.out.2 (by simp[sA]);have s1:=K1 d;have c4:=Ja c;have f3:=Ja b0;have j1:j<9000000000000000000:=Zo;have k1:=b0.map;have j2:=a3.out.2.2.2.2.1;have k0:=f0.out.2;have b5:=HX.out;unfold setV at b5;rw[if_pos k0] at b5;have k9:=Ja b5;clear b0 d c q0 q1 q2 q3 q4 q5 b5;go_wp2_with (at_mapUpdate;go_must (refine us rfl (.tmp 76) (.tmp 78) (.tmp 79) rfl k1 j1 o.res x rfl rfl rfl j2 f7 ?_;intro w5 h4 h8;have f2:=Ja (Jb h4 h8);clear h4 h8))
      go_roundw
      case rel=>
       refine⟨j+1,f1.out,by go_num,_,m2.pay,f3.out.store f2.out.1 f2.out.2,?_,by show m2.fuel-1=_;rw[a3.out.1];omega,k9.out⟩;refine zL f2.out.2 c4.out ?_;intro e;obtain⟨es,ec,g8⟩:=f3.out.map.blk;rw[Nt e,c4.out] at g8;cases g8
      case measure=>have:=f1.out;simp[intOf];omega
     ·rw[u] at i q;have e7:=Ja (show Res.trap 4 0 m2.pay=RES by rw[<-e8.out,<-i]);have e6:=Ja (show A 155 #[Q K.pm,.agg (D o xa xc),.map (some w.heap.size),I 1] w3 fun e w'=>e=.panicked [oE 4 0]/\(∃ov',MachAt w' K m2.pay ov')/\Frm K.B w3 w'/\True from q);clear i u q;go_wp2_with (go_at_call 155;go_must (refine e6.out.mono ?_;rintro e w4 ⟨rfl,⟨ov4,e5⟩,a7,f7⟩))
      exact⟨rfl,by rw[<-e7.out];exact zQ.trap e5 (f4.out.frm.trans a7)⟩
    ·obtain rfl:j=bk.ops.length:=by omega
     have b6:¬(bk.ops.length:Int)<bk.ops.length:=Zo;rw[List.drop_length] at i;have hfu:0<m2.fuel:=Zo;obtain⟨ov2,a6⟩:=g.mach
     have e7:=Ja (show Res.ok (v2 2) m2.pay=RES by
      rw[<-e8.out,<-i]
      show _=(if m2.fuel<=0 then _ else _)
      rw[if_neg Zo,if_pos a8.out.1,if_neg (by rw[a8.out.2];decide),a8.out.2])
     have c3:=Ja (Jb a6 hfu);have b4:=Ja g;have l3:=Ja c;clear i g c e0 HJ a6 c7 hfu;go_upto_region 23 with(go_at_call 154;go_must (refine(iN c3.out.1 c3.out.2).mono ?_;rintro e w3 ⟨rfl,a2,t⟩))
     have l:=b4.out.step a2 t;have c:=t.kept _ _ l3.out (by simp[sA]);rw[<-l1.out] at c;have q2:T w3 b12 2 (I 4):=by rw[<-a8.out.1];exact zA c Zs
     have q3:T w3 b12 3 (I 2):=by rw[<-a8.out.2];exact zA c Zs
     have lk:=l.map.look (x:=2) ⟨by decide,by decide⟩;have i2:=l.map.2 2;have b3:=Ja l;have l0:=Ja a2;clear l c a2 t;go_wp2;go_ret;rw[<-e7.out];exact zQ.ok l0.out b3.out.frm i2
open Go.RowKit Go.Lib
theorem eval_ex{V:PV}{p:IProg}(hp:ProgIn w w.heap.size V p)(c3:p.args.length=p.funcs.length)(hV:∀W,O w W->A 35 #[sZ V p] W fun e W'=>e=.returned (I 0)/\O W W')
 (f:Int) (hf:0<=f/\f.toNat<p.funcs.length) {args:List Nat} {av:Value} (ha:wV w w.heap.size av args) (hl:(args.length:Int)=p.args.getD f.toNat 0) (s:ByteArray) (hs:s.size<=9223372036854775807)
 {inv irqv:Value} {inn irq:List Nat} (c5:wV w w.heap.size inv inn) (c4:dL w w.heap.size irqv irq) (fuel:Int) (f0:I64 fuel) (f3:fuel.toNat<=4000000)
 (hC:∀(K:MK) (W:World) (ov:Value),K.E=⟨p,inn,irq⟩->MachAt W K ⟨v7 s,fuel,[],0,0⟩ ov->A 150 #[Q K.pm,I f,av,I 1] W (zQ K W (xW K.E 100 f args ⟨v7 s,fuel,[],0,0⟩))):
 A 143 #[sZ V p,I f,av,.string s,.agg #[inv,irqv],I fuel] w (abr w (bQ ⟨p,inn,irq⟩ f args s fuel)):=by
 obtain⟨Vf,Va,Vd,Vb⟩:=V;have h7:=hp.funcs;have c2:=hp.args;have h8:=hp.data;have h9:=hp.banks;obtain⟨f1,f2,e1,_,_⟩:=hp.funcs.form;obtain⟨a1,a2,e2,_,_⟩:=hp.args.form;obtain⟨d1,d2,e3,_,_⟩:=hp.data.form;obtain⟨b1,b2,e4,_,_⟩:=hp.banks.form;obtain⟨v1,v2,rfl,_,_⟩:=ha.form;obtain⟨i1,i2,rfl,_,_⟩:=c5.form;obtain⟨q1,q2,rfl,_,_⟩:=c4.form;simp only at e1 e2 e3 e4;subst e1 e2 e3 e4;obtain⟨k,rfl⟩:∃k:Nat,f=(k:Int):=⟨f.toNat,by omega⟩
 have l0:(k:Int)<p.funcs.length:=Zo;unfold sZ at hV ⊢;simp only at hV c2 ⊢;have l2:decide ((k:Int)<0)=false:=by rw[decide_eq_false_iff_not];omega
 have l1:decide (p.funcs.length<=k)=false:=by rw[decide_eq_false_iff_not];omega
 have i0:=mk_ram;obtain⟨Z,hZ⟩:∃Z,madeCells #[Value.int .u8 0] 8192=Z:=⟨_,rfl⟩
 rw[hZ] at i0;have HZ:=Ja hZ;clear hZ;have HP:=Ja hp;have HV:=Ja hV;have k3:=Ja hC;have HA:=Ja (Jb ha hl);have g3:=Ja (Jb c5 c4);have g4:=Ja (Jb f0 f3);obtain⟨aa,c9⟩:∃x,p.args[k]? =some x:=⟨_,Jd (by rw[c3];omega)⟩
 have f7:(args.length:Int)=aa:=by rw[hl,Ni,Jj,c9];rfl
 have k6:((args.length:Int) !=aa)=false:=by rw[bne_eq_false_iff_eq];exact f7
 have k4:(k:Int)<p.args.length:=by rw[c3];omega
 obtain⟨ba,oa,rfl,i9,f5,_⟩:=c2.get c9;rw[Nk] at f5;clear hp hV c3 hC ha hl c5 c4 f0 f3 h7 c2 h8 h9 hf c9 f7
 go_enter_defers Tryz.func143,Tryz.ntmps143
 go_upto_region 1 with fail;have f6:O w (((w.alloc (G #[.slice f1 p.funcs.length f2,.slice (some ⟨ba,oa,none⟩) p.args.length a2,I p.entry,I p.handler,.slice d1 p.data.length d2,.slice b1 p.banks.length b2] 29)).alloc (G #[.slice i1 inn.length i2,.slice q1 irq.length q2] 62)).alloc (G #[U 0,F,I 0,U 0,.string {data:=#[]},I 0,I 0] 57)):=(((Below.refl _ _).alloc (Je _) _).alloc Zs _).alloc (by simp<;>omega) _;have l:L (((w.alloc (G #[.slice f1 p.funcs.length f2,.slice (some ⟨ba,oa,none⟩) p.args.length a2,I p.entry,I p.handler,.slice d1 p.data.length d2,.slice b1 p.banks.length b2] 29)).alloc (G #[.slice i1 inn.length i2,.slice q1 irq.length q2] 62)).alloc (G #[U 0,F,I 0,U 0,.string {data:=#[]},I 0,I 0] 57)) w.heap.size #[.slice f1 p.funcs.length f2,.slice (some ⟨ba,oa,none⟩) p.args.length a2,I p.entry,I p.handler,.slice d1 p.data.length d2,.slice b1 p.banks.length b2] 29:=zB (zB (zI rfl));have e6:L (((w.alloc (G #[.slice f1 p.funcs.length f2,.slice (some ⟨ba,oa,none⟩) p.args.length a2,I p.entry,I p.handler,.slice d1 p.data.length d2,.slice b1 p.banks.length b2] 29)).alloc (G #[.slice i1 inn.length i2,.slice q1 irq.length q2] 62)).alloc (G #[U 0,F,I 0,U 0,.string {data:=#[]},I 0,I 0] 57)) (w.heap.size+1) #[.slice i1 inn.length i2,.slice q1 irq.length q2] 62:=zB (zI Zs);have e5:L (((w.alloc (G #[.slice f1 p.funcs.length f2,.slice (some ⟨ba,oa,none⟩) p.args.length a2,I p.entry,I p.handler,.slice d1 p.data.length d2,.slice b1 p.banks.length b2] 29)).alloc (G #[.slice i1 inn.length i2,.slice q1 irq.length q2] 62)).alloc (G #[U 0,F,I 0,U 0,.string {data:=#[]},I 0,I 0] 57)) (w.heap.size+2) #[U 0,F,I 0,U 0,.string {data:=#[]},I 0,I 0] 57:=zI Zs;generalize k0:((w.alloc (G #[.slice f1 p.funcs.length f2,.slice (some ⟨ba,oa,none⟩) p.args.length a2,I p.entry,I p.handler,.slice d1 p.data.length d2,.slice b1 p.banks.length b2] 29)).alloc (G #[.slice i1 inn.length i2,.slice q1 irq.length q2] 62)).alloc (G #[U 0,F,I 0,U 0,.string {data:=#[]},I 0,I 0] 57)=W0 at *;have a3:=Ja f6;have t:=Ja (Jb l (Jb e6 e5));have p0:=K0 l;have p1:=K1 l;have p2:=K2 l;have p3:=K3 l;have p4:=K4 l;have p5:=K5 l;clear l e6 e5 f6 k0;go_upto_region 3 with(go_at_call 35;go_must (refine(HV.out _ a3.out).mono ?_;rintro e W1 ⟨rfl,m⟩;have q0:=(m.cell (p:=⟨w.heap.size,0,none⟩) (Jw W0 _ p0)).trans p0;have h4:=(m.cell (p:=⟨w.heap.size,1,none⟩) (Jw W0 _ p1)).trans p1;have cx:=zV (a3.out.trans (m.mono a3.out.size)) i9 f5))
 have y0:=zH m t.out.1 (lt_of_block t.out.1);have y1:=zH m t.out.2.1 (lt_of_block t.out.2.1);have y2:=zH m t.out.2.2 (lt_of_block t.out.2.2);have k9:=lt_of_block y2;have a0:=Ja (a3.out.trans (m.mono a3.out.size));have HY:=Ja y2
 have c8:∀w',O W1 w'->(T w' w.heap.size 0 (.slice f1 p.funcs.length f2)/\T w' w.heap.size 1 (.slice (some ⟨ba,oa,none⟩) p.args.length a2)/\T w' w.heap.size 2 (I p.entry)/\T w' w.heap.size 3 (I p.handler)/\T w' w.heap.size 4 (.slice d1 p.data.length d2)/\T w' w.heap.size 5 (.slice b1 p.banks.length b2)/\T w' (w.heap.size+1) 0 (.slice i1 inn.length i2)/\T w' (w.heap.size+1) 1 (.slice q1 irq.length q2)):=fun w' hb=>by
  have z0:=zH hb y0 Zo;have z1:=zH hb y1 Zo;exact⟨zA z0 Zs,zA z0 Zs,zA z0 Zs,zA z0 Zs,zA z0 Zs,zA z0 Zs,zA z1 Zs,zA z1 Zs⟩
 have g8:=Ja c8;clear q0 h4 p0 p1 p2 p3 p4 p5 a3 t m y0 y1 y2 c8 cx
 go_cut [13] from 41 to 47 (fun v wx=>∃rb pm b13:Nat,v=Q b13/\Hid (L wx b13 #[Q pm] 208/\L wx rb Z 5/\L wx pm #[.slice f1 p.funcs.length f2,.slice (some ⟨ba,oa,none⟩) p.args.length a2,I p.entry,I p.handler,.slice d1 p.data.length d2,.slice b1 p.banks.length b2,Y rb 8192 8192,.slice i1 inn.length i2,.slice q1 irq.length q2,I fuel,F,I 0,I 0] 210/\O W1 wx/\W1.heap.size<=rb/\W1.heap.size<=pm/\W1.heap.size<=b13))
 case first=>
  go_region_held3 (fun w'=>T w' w.heap.size 0 (.slice f1 p.funcs.length f2)/\T w' w.heap.size 1 (.slice (some ⟨ba,oa,none⟩) p.args.length a2)/\T w' w.heap.size 2 (I p.entry)/\T w' w.heap.size 3 (I p.handler)/\T w' w.heap.size 4 (.slice d1 p.data.length d2)/\T w' w.heap.size 5 (.slice b1 p.banks.length b2)/\T w' (w.heap.size+1) 0 (.slice i1 inn.length i2)/\T w' (w.heap.size+1) 1 (.slice q1 irq.length q2))
   ((refine g8.out _ ?_;repeat' (first|exact Below.refl _ _|refine Below.drew ?_|refine Below.alloc ?_ (by simp<;>omega) _|refine Below.setCell ?_ (by simp<;>omega) _)))
   (fail)
  all_goals go_wp2_with fail
  all_goals go_meet
  ·exact⟨W1.heap.size,W1.heap.size+1,W1.heap.size+1+1,rfl,(sf _ _ _ _).2.2.1,(sf _ _ _ _).1,(sf _ _ _ _).2.1,(sf _ _ _ _).2.2.2,by omega,by omega,by omega⟩
  ·exact⟨W1.heap.size,W1.heap.size+1+1,W1.heap.size+1,rfl,(sf _ _ _ _).2.1,(sf _ _ _ _).1,(sf _ _ _ _).2.2.1,(sf _ _ _ _).2.2.2,by omega,by omega,by omega⟩
  ·exact⟨W1.heap.size+1,W1.heap.size+1+1,W1.heap.size,rfl,(sf _ _ _ _).1,(sf _ _ _ _).2.1,(sf _ _ _ _).2.2.1,(sf _ _ _ _).2.2.2,by omega,by omega,by omega⟩
 case rest=>
  obtain⟨rb,pm,b13,rfl,h⟩:=hcut;have k1:=K0 h.out.1;have k2:=K6 h.out.2.2.1;have b6:Z.toList=List.replicate 8192 (Value.int .u8 0):=by rw[<-HZ.out];exact toList_madeCells_one _ _
  have d7:8192<=Z.size:=by have:=congrArg List.length b6;rw[Qr] at this;simp at this;omega
  have f4:=fun ty:TypeId=>tQ (P:=Tryz.prog) wc 49 9 ty 5 rb 8192 8192 s Z 5 Tryz.underlying49 Zk h.out.2.1 d7
  obtain⟨n,hn⟩:∃n,goInt (Nat.min s.size 8192)=n:=⟨_,rfl⟩
  have c0:(byteCells (s.data.toList.take (Nat.min s.size 8192))++Z.toList.drop (Nat.min s.size 8192)).toArray=((v7 s).map wz).toArray:=by
   rw[<-ram_init s,b6]
  rw[hn,c0] at f4;clear b6 d7 c0 hn;have b4:O W1 (wc.setRow rb ((v7 s).map wz).toArray):=py h.out.2.2.2.1 h.out.2.2.2.2.1 _;have e7:L (wc.setRow rb ((v7 s).map wz).toArray) rb ((v7 s).map wz).toArray 5:=nZ h.out.2.1;have e8:(wc.setRow rb ((v7 s).map wz).toArray).heap[pm]? =_:=ss h.out.2.2.1 (by rintro rfl;have h1:=h.out.2.1;rw[h.out.2.2.1] at h1;simp at h1);have g0:(wc.setRow rb ((v7 s).map wz).toArray).heap[b13]? =_:=ss h.out.1 (by rintro rfl;have h1:=h.out.2.1;rw[h.out.1] at h1;simp at h1);go_upto_region 5 with fail;generalize j2:wc.setRow rb ((v7 s).map wz).toArray=W2 at *;have k7:∀(fn:Fn) (first cap:Array Value) (W:World),(Instr.makeFunc fn first cap).run Tryz.prog W=.ok (.func fn first cap) W:=fun _ _ _ _=>rfl
  obtain⟨K,hK⟩:∃K:MK,K=⟨⟨p,inn,irq⟩,⟨.slice f1 p.funcs.length f2,.slice (some ⟨ba,oa,none⟩) p.args.length a2,.slice d1 p.data.length d2,.slice b1 p.banks.length b2⟩,.slice i1 inn.length i2,.slice q1 irq.length q2,pm,rb,W1.heap.size⟩:=⟨_,rfl⟩
  have q:O w W2:=a0.out.trans (b4.mono a0.out.size)
  have f9:MachAt W2 K ⟨v7 s,fuel,[],0,0⟩ (F):=by
   subst hK;exact⟨e8,e7,iG s,bY s,Jv _ _ _ _,fun p hp=>by simp at hp,by have:=g4.out.2;show 0+fuel.toNat<=4000000;omega,g4.out.1,Jt _,Jt _,h.out.2.2.2.2.2.1,h.out.2.2.2.2.1,(HP.out.below q).mono a0.out.size,(g3.out.1.below zr q).mono zr a0.out.size,(g3.out.2.below xQ q).mono xQ a0.out.size⟩
  have e0:W2.heap[w.heap.size+2]? =_:=zH b4 HY.out (lt_of_block HY.out);have g1:=Ja f9;have j:=Ja (Jb g0 (Jb e0 (Jb b4 q)));clear j2 f9 e0 g0 e7 e8 b4 q f4 k1 k2 h;go_upto_region 6 with fail;have b7:=zI (W:=W2) (o:=G #[.func (.func 148) #[] #[Q b13,Q (w.heap.size+1+1)]] 211) rfl;have y:=(Below.refl W2.heap.size W2).alloc (Je _) (G #[.func (.func 148) #[] #[Q b13,Q (w.heap.size+1+1)]] 211);have f8:=g1.out.keep y;have a7:=zH y j.out.1 (lt_of_block j.out.1);have b8:=zH y j.out.2.1 (lt_of_block j.out.2.1);have c7:O w _:=j.out.2.2.2.trans (y.mono j.out.2.2.2.size);have d0:O W1 _:=j.out.2.2.1.trans (y.mono j.out.2.2.1.size);generalize j1:W2.alloc (G #[.func (.func 148) #[] #[Q b13,Q (w.heap.size+1+1)]] 211)=W3 at *;generalize W2.heap.size=b14 at *;have a6:K.E=⟨p,inn,irq⟩/\K.pm=pm/\K.B=W1.heap.size:=by rw[hK];exact⟨rfl,rfl,rfl⟩
  have i:=k3.out K W3 _ a6.1 f8;obtain⟨RES,a8⟩:∃R,xW K.E 100 (k:Int) args ⟨v7 s,fuel,[],0,0⟩=R:=⟨_,rfl⟩
  have b9:bQ ⟨p,inn,irq⟩ (k:Int) args s fuel=adO RES:=by rw[<-a8,a6.1];rfl
  rw[a8,a6.2.1] at i;have l3:=K0 a7;have d4:=Ja b9;have g2:=Ja a6;have H3:=Ja (Jb a7 (Jb b8 (Jb b7 (Jb c7 d0))));clear j1 f8 a7 b8 b7 y c7 d0 hK b9 a8 j g1 a6
  have b0:∀(w4:World) (ov4:Value) (m4:Mach),MachAt w4 K m4 ov4->Frm K.B W3 w4->
   L w4 b13 #[Q K.pm] 208/\L w4 (w.heap.size+1+1) #[U 0,F,I 0,U 0,.string {data:=#[]},I 0,I 0] 57/\T w4 b14 0 (.func (.func 148) #[] #[Q b13,Q (w.heap.size+1+1)])/\O w w4:=fun w4 ov4 m4 d g=>by
   refine⟨by rw[g2.out.2.1];exact g.kept _ _ H3.out.1 (by simp[sA]),g.kept _ _ H3.out.2.1 (by simp[sA]),zA (g.kept _ _ H3.out.2.2.1 (by simp[sA])) Zs,H3.out.2.2.2.1.trans (g.below.mono ?_)⟩;rw[g2.out.2.2];exact a0.out.size
  have b5:=Ja b0;clear b0
  cases RES with
  |ok x m4=>
   have a5:A 150 #[Q pm,I k,.slice v1 args.length v2,I 1] W3 fun e w'=>e=.returned (U x)/\(∃ov',MachAt w' K m4 ov')/\Frm K.B W3 w'/\x<65536:=i
   have d5:=Ja a5;clear i a5;go_upto_region 8 with(go_at_call 150;go_must (refine d5.out.mono ?_;rintro e w4 ⟨rfl,⟨ov4,d⟩,g,k5⟩))
   obtain⟨a9,u,d6,zb⟩:=b5.out w4 ov4 m4 d g;obtain⟨oa4,oc4,rfl⟩:=zG d.out
   have a4:A 148 #[.agg #[I 6,U 0],U x,Q b13,Q (w.heap.size+1+1)] w4 fun e w'=>
    e=.returned (.tuple #[])/\L w' (w.heap.size+1+1) (yV x (.slice oa4 m4.out.length oc4) 6 0 (y9 m4.ram) m4.inputs m4.polls) 57/\w4.grownBy w' (some (w.heap.size+1+1)):=pE d a9 u 6 0 x
   have b3:w4.heap[b14]? =_:=g.kept _ _ H3.out.2.2.1 (by simp[sA]);have g6:=Ja a4;have d3:=Ja (Jb d (Jb u (Jb zb b3)));clear a4 a9 u zb d g b3;go_upto_region 9 with(go_at_call 148;go_must (refine g6.out.mono ?_;rintro e w5 ⟨rfl,c,h6⟩))
   have r0:T w5 (w.heap.size+1+1) 0 (U x):=zA c (by simp[yV]);have s0:N w5 (w.heap.size+1+1) 0:=zE c;have r1:T w5 (w.heap.size+1+1) 1 (.slice oa4 m4.out.length oc4):=zA c (by simp[yV]);have s1:N w5 (w.heap.size+1+1) 1:=zE c;have r2:T w5 (w.heap.size+1+1) 2 (I 6):=zA c (by simp[yV]);have s2:N w5 (w.heap.size+1+1) 2:=zE c;have r3:T w5 (w.heap.size+1+1) 3 (U 0):=zA c (by simp[yV]);have s3:N w5 (w.heap.size+1+1) 3:=zE c;have r4:T w5 (w.heap.size+1+1) 4 (.string (y9 m4.ram)):=zA c (by simp[yV]);have s4:N w5 (w.heap.size+1+1) 4:=zE c;have r5:T w5 (w.heap.size+1+1) 5 (I (m4.inputs:Int)):=zA c (by simp[yV]);have s5:N w5 (w.heap.size+1+1) 5:=zE c;have r6:T w5 (w.heap.size+1+1) 6 (I (m4.polls:Int)):=zA c (by simp[yV]);have s6:N w5 (w.heap.size+1+1) 6:=zE c;have hE:=ku d3.out.1 d3.out.2.1 Zo d3.out.2.2.1 (zu (zu (zu (zu (zu (zu (zu h6 0 (U x)) 1 (.slice oa4 m4.out.length oc4)) 2 (I 6)) 3 (U 0)) 4 (.string (y9 m4.ram))) 5 (I (m4.inputs:Int))) 6 (I (m4.polls:Int)))
   have c1:abr w (bQ ⟨p,inn,irq⟩ (k:Int) args s fuel) (.returned (.agg #[U x,.slice oa4 m4.out.length oc4,I 6,U 0,.string (y9 m4.ram),I (m4.inputs:Int),I (m4.polls:Int)])) (((((((w5.setCell ⟨w.heap.size+1+1,0,none⟩ (U x)).setCell ⟨w.heap.size+1+1,1,none⟩ (.slice oa4 m4.out.length oc4)).setCell ⟨w.heap.size+1+1,2,none⟩ (I 6)).setCell ⟨w.heap.size+1+1,3,none⟩ (U 0)).setCell ⟨w.heap.size+1+1,4,none⟩ (.string (y9 m4.ram))).setCell ⟨w.heap.size+1+1,5,none⟩ (I (m4.inputs:Int))).setCell ⟨w.heap.size+1+1,6,none⟩ (I (m4.polls:Int))):=by
    rw[d4.out];exact⟨_,rfl,hE.1,hE.2⟩
   have g5:=Ja c1;clear c1 hE;go_wp2;refine leaves_cons (f:=149) (args:=#[Q b14]) Zs (by simp[go_sem]) ?_;refine(rec_idle _ _).mono ?_;rintro e u' w6 ⟨rfl,rfl,rfl⟩;simp[Leaves,settle,results,Tryz.results143,go_sem,r0,r1,r2,r3,r4,r5,r6]
   exact g5.out
  |trap k2 i2 m4=>
   have a5:A 150 #[Q pm,I k,.slice v1 args.length v2,I 1] W3 fun e w'=>e=.panicked [oE k2 i2]/\(∃ov',MachAt w' K m4 ov')/\Frm K.B W3 w'/\True:=i
   have d5:=Ja a5;clear i a5;go_wp2_with (go_at_call 150;go_must (refine d5.out.mono ?_;rintro e w4 ⟨rfl,⟨ov4,d⟩,g,_⟩))
   obtain⟨a9,u,d6,zb⟩:=b5.out w4 ov4 m4 d g;have hd:=pi d a9 u d6 k2 i2 [];obtain⟨oa4,oc4,rfl⟩:=zG d.out;refine leaves_cons (f:=149) (args:=#[Q b14]) Zs (by simp[go_sem]) ?_;refine hd.mono ?_;rintro e u' w5 ⟨rfl,rfl,c,h6⟩;have hE:=ku d u Zo zb h6;have r0:T w5 (w.heap.size+1+1) 0 (U ((0:Nat):Int)):=zA c (by simp[yV]);have r1:T w5 (w.heap.size+1+1) 1 (.slice oa4 m4.out.length oc4):=zA c (by simp[yV]);have r2:T w5 (w.heap.size+1+1) 2 (I k2):=zA c (by simp[yV]);have r3:T w5 (w.heap.size+1+1) 3 (U i2):=zA c (by simp[yV]);have r4:T w5 (w.heap.size+1+1) 4 (.string (y9 m4.ram)):=zA c (by simp[yV]);have r5:T w5 (w.heap.size+1+1) 5 (I (m4.inputs:Int)):=zA c (by simp[yV]);have r6:T w5 (w.heap.size+1+1) 6 (I (m4.polls:Int)):=zA c (by simp[yV])
   have a4:abr w (bQ ⟨p,inn,irq⟩ (k:Int) args s fuel) (.returned (.agg #[U ((0:Nat):Int),.slice oa4 m4.out.length oc4,I k2,U i2,.string (y9 m4.ram),I (m4.inputs:Int),I (m4.polls:Int)])) w5:=by
    rw[d4.out];exact⟨_,rfl,hE.1,hE.2⟩
   simp[Leaves,settle,results,Tryz.results143,go_sem,r0,r1,r2,r3,r4,r5,r6];exact a4
theorem g9 (x:Int)(h:(decide (-100<=x) && decide (x<=100))=true):I64 x:=by
 simp only[Jm,decide_eq_true_eq] at h;exact⟨by omega,by omega⟩
def afn (c:Int)(a b:Nat)(j:Int):List (IOp×Value):=[(⟨1,0,0,0,a,[]⟩,F),(⟨1,1,0,0,b,[]⟩,F),(⟨c,2,0,j,0,[]⟩,F)]
def exP (c:Int)(a b:Nat)(j:Int):IProg:=rd ⟨4,2,[]⟩ ((afn c a b j).map (·.1))
theorem exOps_ok(i:3<=c/\c<=17){a b:Nat}(g:a<65536)(hb:b<65536)(h:0<=j/\j<=1):oz (afn c a b j):=by
 intro q d;simp only[afn,Jq,List.not_mem_nil,or_false] at d;rcases d with rfl|rfl|rfl
 ·exact⟨⟨g9 _ rfl,g9 _ rfl,g9 _ rfl,g9 _ rfl,g⟩,rfl,rfl⟩
 ·exact⟨⟨g9 _ rfl,g9 _ rfl,g9 _ rfl,g9 _ rfl,hb⟩,rfl,rfl⟩
 ·exact⟨⟨⟨by show _<=c;omega,by show c<=_;omega⟩,g9 _ rfl,g9 _ rfl,⟨by show _<=j;omega,by show j<=_;omega⟩,by show 0<65536;omega⟩,rfl,rfl⟩
def exJ (c:Int):Int:=if c=3∨c=4 then 0 else 1
theorem ahk(d:3<=c/\c<=17)(a b:Nat):vC (exP c a b (exJ c))=0:=by
 have h:c=3∨c=4∨c=5∨c=6∨c=7∨c=8∨c=9∨c=10∨c=11∨c=12∨c=13∨c=14∨c=15∨c=16∨c=17:=Zo;rcases h with rfl|rfl|rfl|rfl|rfl|rfl|rfl|rfl|rfl|rfl|rfl|rfl|rfl|rfl|rfl<;>rfl
def exV (c:Int)(a b:Nat):Nat:=if c=8/\b=0 then 0 else j4 c a b
def exF (c:Int)(b:Nat):Bool:=decide (¬(c=8/\b=0))
def exR (c:Int)(a b:Nat):IRun:=if c=8/\b=0 then⟨0,[],4,0,v7 ⟨#[]⟩,0,0⟩ else⟨j4 c a b,[],6,0,v7 ⟨#[]⟩,0,0⟩
theorem exP_run(d:3<=c/\c<=17)(a b:Nat):bQ ⟨exP c a b (exJ c),[],[]⟩ 0 [] ⟨#[]⟩ 10=exR c a b:=by
 unfold exR;have h:c=3∨c=4∨c=5∨c=6∨c=7∨c=8∨c=9∨c=10∨c=11∨c=12∨c=13∨c=14∨c=15∨c=16∨c=17:=Zo;rcases h with rfl|rfl|rfl|rfl|rfl|rfl|rfl|rfl|rfl|rfl|rfl|rfl|rfl|rfl|rfl
 case inr.inr.inr.inr.inr.inl=>
  cases b with
  |zero=>rfl
  |succ b=>rfl
 all_goals rfl
theorem ex_prog{a b:Nat}(g:oz (afn c a b j)){W:World}(h:(((((w.alloc (G #[I 1,I 0,I 0,I 0,U a,F,I 1,I 1,I 0,I 0,U b,F,I c,I 2,I 0,I j,U 0,F] 76)).alloc (G #[F,Y w.heap.size 3 3,I 4,I 2,F] 84)).alloc (G #[Y (w.heap.size+1) 1 1] 39)).alloc (G #[I 0] 3)).alloc (G #[Y (w.heap.size+1+1) 1 1,Y (w.heap.size+1+1+1) 1 1,I 0,I (-1),F,F] 29))=W):
 O w W/\ProgIn W W.heap.size ⟨Y (w.heap.size+1+1) 1 1,Y (w.heap.size+1+1+1) 1 1,F,F⟩ (exP c a b j)/\L W (w.heap.size+1+1+1+1) #[Y (w.heap.size+1+1) 1 1,Y (w.heap.size+1+1+1) 1 1,I 0,I (-1),F,F] 29:=by
 have hb:O w (((((w.alloc (G #[I 1,I 0,I 0,I 0,U a,F,I 1,I 1,I 0,I 0,U b,F,I c,I 2,I 0,I j,U 0,F] 76)).alloc (G #[F,Y w.heap.size 3 3,I 4,I 2,F] 84)).alloc (G #[Y (w.heap.size+1) 1 1] 39)).alloc (G #[I 0] 3)).alloc (G #[Y (w.heap.size+1+1) 1 1,Y (w.heap.size+1+1+1) 1 1,I 0,I (-1),F,F] 29)):=(((((Below.refl _ _).alloc (Je _) _).alloc Zs _).alloc Zt _).alloc Zt _).alloc Zt _;have h0:L (((((w.alloc (G #[I 1,I 0,I 0,I 0,U a,F,I 1,I 1,I 0,I 0,U b,F,I c,I 2,I 0,I j,U 0,F] 76)).alloc (G #[F,Y w.heap.size 3 3,I 4,I 2,F] 84)).alloc (G #[Y (w.heap.size+1) 1 1] 39)).alloc (G #[I 0] 3)).alloc (G #[Y (w.heap.size+1+1) 1 1,Y (w.heap.size+1+1+1) 1 1,I 0,I (-1),F,F] 29)) w.heap.size ((afn c a b j).flatMap zU).toArray 76:=zB (zB (zB (zB (zI rfl))));have h1:L (((((w.alloc (G #[I 1,I 0,I 0,I 0,U a,F,I 1,I 1,I 0,I 0,U b,F,I c,I 2,I 0,I j,U 0,F] 76)).alloc (G #[F,Y w.heap.size 3 3,I 4,I 2,F] 84)).alloc (G #[Y (w.heap.size+1) 1 1] 39)).alloc (G #[I 0] 3)).alloc (G #[Y (w.heap.size+1+1) 1 1,Y (w.heap.size+1+1+1) 1 1,I 0,I (-1),F,F] 29)) (w.heap.size+1) #[F,Y w.heap.size 3 3,I 4,I 2,F] 84:=zB (zB (zB (zI Zs)));have h2:L (((((w.alloc (G #[I 1,I 0,I 0,I 0,U a,F,I 1,I 1,I 0,I 0,U b,F,I c,I 2,I 0,I j,U 0,F] 76)).alloc (G #[F,Y w.heap.size 3 3,I 4,I 2,F] 84)).alloc (G #[Y (w.heap.size+1) 1 1] 39)).alloc (G #[I 0] 3)).alloc (G #[Y (w.heap.size+1+1) 1 1,Y (w.heap.size+1+1+1) 1 1,I 0,I (-1),F,F] 29)) (w.heap.size+1+1) #[Y (w.heap.size+1) 1 1] 39:=zB (zB (zI Zs));have h3:L (((((w.alloc (G #[I 1,I 0,I 0,I 0,U a,F,I 1,I 1,I 0,I 0,U b,F,I c,I 2,I 0,I j,U 0,F] 76)).alloc (G #[F,Y w.heap.size 3 3,I 4,I 2,F] 84)).alloc (G #[Y (w.heap.size+1) 1 1] 39)).alloc (G #[I 0] 3)).alloc (G #[Y (w.heap.size+1+1) 1 1,Y (w.heap.size+1+1+1) 1 1,I 0,I (-1),F,F] 29)) (w.heap.size+1+1+1) #[I 0] 3:=zB (zI Zs);have d:L (((((w.alloc (G #[I 1,I 0,I 0,I 0,U a,F,I 1,I 1,I 0,I 0,U b,F,I c,I 2,I 0,I j,U 0,F] 76)).alloc (G #[F,Y w.heap.size 3 3,I 4,I 2,F] 84)).alloc (G #[Y (w.heap.size+1) 1 1] 39)).alloc (G #[I 0] 3)).alloc (G #[Y (w.heap.size+1+1) 1 1,Y (w.heap.size+1+1+1) 1 1,I 0,I (-1),F,F] 29)) (w.heap.size+1+1+1+1) #[Y (w.heap.size+1+1) 1 1,Y (w.heap.size+1+1+1) 1 1,I 0,I (-1),F,F] 29:=zI Zs;rw[h] at hb h0 h1 h2 h3 d;have i:=lt_of_block d;refine⟨hb,⟨?_,?_,yN.nil,yN.nil,g9 _ rfl,g9 _ rfl⟩,d⟩
 ·refine yN.one Zo ⟨Y (w.heap.size+1) 1 1,zA h2 Zs,yN.one Zo ?_⟩;exact⟨zA h1 Zs,zA h1 Zs,⟨g9 _ rfl,g9 _ rfl⟩,F,Y w.heap.size 3 3,F,zA h1 Zs,zA h1 Zs,zA h1 Zs,yN.nil,ahQ (l:=afn c a b j) h0 Zo (eV g _ _) (by show 3<=1000000;decide),yN.nil⟩
 ·exact yN.one Zo ⟨zA h3 Zs,g9 _ rfl⟩
theorem exR_form (c:Int)(a b:Nat):∃k:Nat,exR c a b=⟨exV c a b,[],k,0,v7 ⟨#[]⟩,0,0⟩/\((k:Int)==6)=exF c b:=by
 unfold exR exV exF
 by_cases h:c=8/\b=0
 ·rw[if_pos h,if_pos h];exact⟨4,rfl,by rw[decide_eq_false (fun k=>k h)];rfl⟩
 ·rw[if_neg h,if_neg h];exact⟨6,rfl,by rw[decide_eq_true h];rfl⟩
theorem aha(hc:3<=c/\c<=17){a b:Nat}(ha:a<65536)(hb:b<65536)(w:World):
 A 123 #[I c,U a,U b] w (fun e w'=>e=.returned (.tuple #[U (exV c a b:Int),.bool (exF c b)])/\O w w'):=by
 obtain⟨S,hS⟩:∃S,y9 (v7 ⟨#[]⟩)=S:=⟨_,rfl⟩
 obtain⟨k,hk,hf⟩:=exR_form c a b;have g:=exP_run hc a b;rw[hk] at g;have a0:=hc;have m:=exOps_ok hc ha hb (j:=exJ c) (by unfold exJ;split<;>omega);obtain⟨v,hv⟩:∃v,exV c a b=v:=⟨_,rfl⟩
 obtain⟨f,x⟩:∃f,exF c b=f:=⟨_,rfl⟩
 rw[hv] at g ⊢;rw[x] at hf ⊢
 have y:∀(j:Int),exJ c=j->∀(W:World),(((((w.alloc (G #[I 1,I 0,I 0,I 0,U a,F,I 1,I 1,I 0,I 0,U b,F,I c,I 2,I 0,I j,U 0,F] 76)).alloc (G #[F,Y w.heap.size 3 3,I 4,I 2,F] 84)).alloc (G #[Y (w.heap.size+1) 1 1] 39)).alloc (G #[I 0] 3)).alloc (G #[Y (w.heap.size+1+1) 1 1,Y (w.heap.size+1+1+1) 1 1,I 0,I (-1),F,F] 29))=W->O w W/\L W (w.heap.size+1+1+1+1) #[Y (w.heap.size+1+1) 1 1,Y (w.heap.size+1+1+1) 1 1,I 0,I (-1),F,F] 29/\A 143 #[.agg #[Y (w.heap.size+1+1) 1 1,Y (w.heap.size+1+1+1) 1 1,I 0,I (-1),F,F],I 0,F,.string ⟨#[]⟩,.agg #[F,F],I 10] W (fun e w'=>∃oa1 oc1,e=.returned (.agg #[U v,.slice oa1 0 oc1,I k,U 0,.string S,I 0,I 0])/\O W w'):=fun j l W hW=>by
  subst l;obtain⟨h1,h2,h3⟩:=ex_prog m hW;refine⟨h1,h3,?_⟩;have a5:=uL (t:=⟨4,2,[]⟩) (ops:=(afn c a b (exJ c)).map (·.1)) (by show 3<=2000000;decide) Zd
  have:=(eval_ex h2 rfl (fun W hb=>by have:=tu ((h2.below hb).mono hb.size) (Je _) (fun f hf=>(a5 f hf).1);rw[ahk a0 a b] at this;exact this) 0 ⟨by decide,by show 0<1;decide⟩ yN.nil rfl ⟨#[]⟩ Zd yN.nil yN.nil 10 (g9 _ rfl) Zd
   (fun K W ov hK hM=>by
     refine call_ex K (bk:=⟨[],(afn c a b (exJ c)).map (·.1),⟨4,2,[]⟩⟩) (by rw[hK];rfl) rfl rfl rfl (fun o ho=>?_) (by show 3<=3;decide) hM rfl;simp only[afn,Ql,List.map_nil,Jq,List.not_mem_nil,or_false] at ho;rcases ho with rfl|rfl|rfl
     ·exact⟨.inl rfl,by show(0:Int)<=0;decide⟩
     ·exact⟨.inl rfl,by show(0:Int)<=1;decide⟩
     ·refine⟨?_,by show(0:Int)<=2;decide⟩
      show ae2 c
      unfold ae2
      omega)).mono (fun e w' h=>h.open)
  rw[g] at this;rw[<-hS];exact this.mono (fun e w' ⟨oa1,oc1,h1,_,h3⟩=>⟨oa1,oc1,h1,h3⟩)
 have a4:=Ja y;have HF:=Ja hf;obtain⟨q3,h3⟩:∃q,(c==3)=q:=⟨_,rfl⟩
 obtain⟨q4,h4⟩:∃q,(c==4)=q:=⟨_,rfl⟩
 have l:exJ c=if q3||q4 then 0 else 1:=by
  unfold exJ;rw[<-h3,<-h4];simp only[Bool.or_eq_true,beq_iff_eq]
 have HJ:=Ja l;clear l y hf g m hv x hk hS ha hb hc a0;go_enter Tryz.func123,Tryz.ntmps123;cases q3;cases q4
 all_goals (
  go_upto_region 5 with(go_at_call 999999;skip)
  generalize a3:World.alloc _ _=P1;have d:=Ja (a4.out _ HJ.out P1 a3);clear a3 a4 HJ;have x0:=K0 d.out.2.1;have x1:=K1 d.out.2.1;have x2:=K2 d.out.2.1;have x3:=K3 d.out.2.1;have x4:=K4 d.out.2.1;have x5:=K5 d.out.2.1;go_upto_region 6 with(go_at_call 143;go_must (refine(d.out.2.2).mono ?_;rintro e w1 ⟨oa1,oc1,rfl,hb⟩))
  clear x0 x1 x2 x3 x4 x5;have hx:=zI (W:=w1) (o:=G #[U v,.slice oa1 0 oc1,I k,U 0,.string S,I 0,I 0] 57) rfl;have a2:=(Below.refl w1.heap.size w1).alloc (Je _) (G #[U v,.slice oa1 0 oc1,I k,U 0,.string S,I 0,I 0] 57);have a1:=(d.out.1.trans ((hb.trans (a2.mono hb.size)).mono d.out.1.size))
  generalize hW:w1.alloc (G #[U v,.slice oa1 0 oc1,I k,U 0,.string S,I 0,I 0] 57)=R1 at *;generalize hc:w1.heap.size=r1 at *;have i:=Ja (Jb a1 hx);clear hb hx a2 a1 hW hc d;have y0:=K0 i.out.2;have y2:=K2 i.out.2;have u:=lt_of_block i.out.2;have HC:=Ja (show ∀W',O R1 W'->T W' r1 0 (U v)/\T W' r1 2 (I k) from fun W' hb=>⟨(hb.cell (p:=⟨r1,0,none⟩) u).trans y0,(hb.cell (p:=⟨r1,2,none⟩) u).trans y2⟩);have a6:=HF.out
  go_region_held3 (fun w'=>T w' r1 0 (U v)/\T w' r1 2 (I k)) ((refine HC.out _ ?_;repeat' (first|with_reducible exact Below.refl _ _|with_reducible assumption|with_reducible refine Below.drew ?_))) (fail)
  all_goals go_wp2
  all_goals refine bodyPost_ret (v:=.tuple #[U v,.bool f]) (by simp[results,Tryz.results123,go_sem]) rfl ?_
  all_goals (refine⟨rfl,i.out.1.trans (Below.mono (B:=R1.heap.size) ?_ i.out.1.size)⟩;repeat' (first|with_reducible exact Below.refl _ _|with_reducible assumption|with_reducible refine Below.drew ?_)))
abbrev aZ (p:IProg)(fa:Option Addr)(fc:Nat)(aa:Option Addr)(ac:Nat)(da:Option Addr)(dc:Nat)(ba:Option Addr)(bc:Nat):Array Value:=R p fa fc aa ac da dc ba bc
structure PBx (W:World) (b:Nat) (p:IProg) (fa:Option Addr) (fc:Nat) (aa:Option Addr) (ac:Nat) (da:Option Addr) (dc:Nat) (ba:Option Addr) (bc:Nat):Prop where
 blk:W.heap[b]? =some (.cells (aZ p fa fc aa ac da dc ba bc) 29 (0,0))
 prog:ProgIn W W.heap.size ⟨.slice fa p.funcs.length fc,.slice aa p.args.length ac,.slice da p.data.length dc,.slice ba p.banks.length bc⟩ p
section
variable {W W':World} {b:Nat} {p:IProg} {fa aa da ba:Option Addr} {fc ac dc bc:Nat}
theorem PBx.below (h:PBx W b p fa fc aa ac da dc ba bc)(hb:O W W'):PBx W' b p fa fc aa ac da dc ba bc:=
 ⟨zH hb h.blk (lt_of_block h.blk),(h.prog.below hb).mono hb.size⟩
theorem PBx.new (h:ProgIn W W.heap.size ⟨.slice fa p.funcs.length fc,.slice aa p.args.length ac,.slice da p.data.length dc,.slice ba p.banks.length bc⟩ p):PBx (W.alloc (G (aZ p fa fc aa ac da dc ba bc) 29)) W.heap.size p fa fc aa ac da dc ba bc:=
 ⟨zI rfl,(h.below ((Below.refl _ _).alloc (Je _) _)).mono Zs⟩
theorem PBx.lt (h:PBx W b p fa fc aa ac da dc ba bc):b<W.heap.size:=lt_of_block h.blk
theorem PBx.c0 (h:PBx W b p fa fc aa ac da dc ba bc):T W b 0 (.slice fa p.funcs.length fc):=zA h.blk Zs
theorem PBx.c1 (h:PBx W b p fa fc aa ac da dc ba bc):T W b 1 (.slice aa p.args.length ac):=zA h.blk Zs
theorem PBx.c2 (h:PBx W b p fa fc aa ac da dc ba bc):T W b 2 (I p.entry):=zA h.blk Zs
theorem PBx.c3 (h:PBx W b p fa fc aa ac da dc ba bc):T W b 3 (I p.handler):=zA h.blk Zs
theorem PBx.c4 (h:PBx W b p fa fc aa ac da dc ba bc):T W b 4 (.slice da p.data.length dc):=zA h.blk Zs
theorem PBx.c5 (h:PBx W b p fa fc aa ac da dc ba bc):T W b 5 (.slice ba p.banks.length bc):=zA h.blk Zs
end
end Go.Proofs.YtoahcpkibpomcaaGreat
set_option maxRecDepth 100000
namespace Go.Proofs.YtoahcpkibpomcaaGreat
open Go.ChangeShapes Go.WideShapes Go.ChangeAt Go.RowKit
variable {w w3:World}{K:MKC}{m:Mach}{g:List (List Nat)}{i k vb vn:Nat}{l:List BM}{bl blocks:List IBlk}{Df W:Int->Int->Int->Prop}{d:wO}{q:BM}{X:Nat->Prop}{M M':MS}{vv:Value}{c j:Int}{o:IOp}{call:Int->List Nat->Mach->Res Nat}
section
variable {H:Type} {enc:TypeId×Value->H} {W:World} {v:Value} {d:DataW H} {p:List MemPlace} {r:Go.Reach} {base:Nat}
theorem u8_open (hv:Value.okWide Tryz.prog W r base 5 v)(h0:DataW.Trod enc Tryz.prog W 0 (fun _=>true) true 5 v d p):∃x:Nat,v=.int .u8 (x:Int)/\x<256:=by
 obtain⟨n,rfl,_,_,c⟩:=open_int Tryz.underlying5 hv h0;have h:0<=n/\n<=255:=by simpa[Lit.wf,IntKind.min,IntKind.max,IntKind.signed,IntKind.bits] using c
 exact⟨n.toNat,by rw[Oa h.1],by omega⟩
end
end Go.Proofs.YtoahcpkibpomcaaGreat
