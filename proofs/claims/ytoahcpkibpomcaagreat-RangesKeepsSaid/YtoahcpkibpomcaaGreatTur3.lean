/- Part of a proof. -/
import Derived.Test.YtoahcpkibpomcaaGreatGLift9
set_option linter.all false
set_option maxHeartbeats 2000000
set_option maxRecDepth 100000
namespace Go.Proofs.YtoahcpkibpomcaaGreat
open Go.RowKit
variable {w:World}{q0 q1 q2:Int}
theorem je{V:PV}{p:IProg}(hp:ProgIn w w.heap.size V p)(hs:SmallP p)(hq:I64 q0/\I64 q1/\I64 q2)(hw:gn q0=16):
 I 13 #[yH V p,.agg #[U q0,U q1,U q2]] w (pd w (wR p q0 q1 q2)):=by
 obtain⟨fa,fc,b5,f0,e8⟩:=hp.funcs.form;obtain⟨aa,ac,b8,g6,g5⟩:=hp.args.form;obtain⟨da,dc,b6,g2,g1⟩:=hp.data.form;obtain⟨ba,bc,b7,g4,g3⟩:=hp.banks.form;obtain⟨p1,e4⟩:∃p1,w.heap.size=p1:=⟨_,rfl⟩
 have b2:∀W,Y w W->I 18 #[.agg (D p fa fc aa ac da dc ba bc)] W _:=fun W hb=>by
  have h:=uJ ((hp.below hb).mono hb.size) hs;unfold yH at h;rw[b5,b8,b6,b7] at h;exact h
 unfold yH;rw[b5,b8,b6,b7];obtain⟨n,hn⟩:∃n,uS q2=n:=⟨_,rfl⟩
 have e5:q2%65536=(n:Int):=by rw[<-hn];unfold uS;omega
 have j3:n<65536:=Zo;obtain⟨what,c2⟩:∃k,gn q0=k:=⟨_,rfl⟩
 have j2:-20<q0.tmod 20/\q0.tmod 20<20:=⟨by have:=Qu q0 (show(0:Int)<20 by decide);omega,Qv q0 Zd⟩
 have c3:(q0.tmod 20+20)%20=(what:Int):=by
  rw[<-c2];unfold gn;have h1:=Ob q0 (show(20:Int)≠0 by decide);rw[Oa h1];have h2:=Qs q0 20;omega
 have a65:=yt q2;rw[e5] at a65;have a65b:=yt q1;have j5:=hs.fn.1;have c8:Y w (((w.alloc (G (D p fa fc aa ac da dc ba bc) 29)).alloc (G #[U q0,U q1,U q2] 23)).alloc (G #[L,L,U 0,U 0,L,L] 29)):=(((Below.refl _ _).alloc (Je _) _).alloc Zs _).alloc Zt _;have c0:=Ja b2;have d3:=Ja c8;have HP:=Ja (Jb hs (Jb hn c2));clear b2 c8 hp hs b5 b8 b6 b7 f0 e8 g6 g5 g2 g1 g4 g3 hn hq;have d9:=HP.out.2.2.symm.trans hw;subst d9;have b0:(q0.tmod 20+20)%20=16:=c3;clear c3;go_enter Tryz.func13,Tryz.ntmps13;go_upto_region 2 with(go_at_call 18;go_must (refine(c0.out _ d3.out).mono ?_;rintro e w2 ⟨t,a1,a0,aa2,ac2,g,d,ba2,bc2,rfl,hV,ht,hr,hb⟩;have l:=Ja (Jb hV (Jb ht (Jb hr hb)));clear hV ht hr hb))
 have y:t.entry=p.entry/\t.handler=p.handler:=by rw[<-l.out.2.1];exact⟨rfl,rfl⟩
 have m:(zW t).toArray=D p a1 a0 aa2 ac2 g d ba2 bc2:=by
  unfold zW;rw[l.out.1.1,l.out.1.2.1,l.out.1.2.2.1,l.out.1.2.2.2,y.1,y.2]
 obtain⟨o5,b4⟩:∃o5,w2.heap.size=o5:=⟨_,rfl⟩
 have hm:TuMid w p1 o5 q0 q1 q2 t (w2.alloc (G (zW t).toArray 29)):=TuMid.start e4 b4 l.out.2.2.1 l.out.2.2.2;rw[m] at hm;generalize h4:w2.alloc (G (D p a1 a0 aa2 ac2 g d ba2 bc2) 29)=W3 at *;clear h4;rw[b4];clear b4;have ho:=hm.ho;rw[m] at ho;have h7:=zA (i:=0) hm.hq rfl;have h6:=zA (i:=1) hm.hq rfl;have h5:=zA (i:=2) hm.hq rfl;have i8:=zA (i:=0) ho rfl;have i2:=zA (i:=1) ho rfl;have c9:=zA (i:=4) ho rfl;have h8:=zA (i:=5) ho rfl;have of:∀i,N W3 o5 i:=fun i=>zE ho
 have i1:=zA (i:=2) ho rfl;have i0:=zA (i:=3) ho rfl;have ol:=lt_of_block ho;have HM:=Ja (Jb hm (Jb ho (Jb m y)));have HV:=Ja l.out.1;have d0:=Ja l.out.2.1;clear hm ho m y l c0 d3;obtain⟨f,hf⟩:∃f,uk p q1=f:=⟨_,rfl⟩
 have HF:=Ja hf;clear hf
 go_upto_if 23 with fail
 go_cut [7,8] (fun s7 s8 wx=>s7=U 16/\s8=U f/\W3=wx)
 case first=>
  have hf:=HF.out;unfold uk at hf
  by_cases a5:0<p.funcs.length
  ·rw[if_pos a5] at hf;have d7:(0:Int)<(p.funcs.length:Int):=Zo
   have f9:(q1%65536)%(p.funcs.length:Int)=(f:Int):=by
    rw[<-hf,Ou,Oa (Ob _ Zd)]
   have h0:0<=q1%65536:=Ob _ Zd;clear hf a5;go_wp2;go_meet;exact⟨by first|rfl|rw[b0],by first|rfl|rw[f9],rfl⟩
  ·rw[if_neg a5] at hf;have d7:¬(0:Int)<(p.funcs.length:Int):=Zo;subst hf;clear a5;go_wp2;go_meet;exact⟨by first|rfl|rw[b0],rfl,rfl⟩
 case rest=>
 obtain⟨rfl,rfl,rfl⟩:=hcut;have j4:=HM.out.1.ge;have i9:=HP.out.1.da;have a3:t.data=p.data:=by rw[<-d0.out];rfl
 have a2:W3.ownsRow (p1+1+1+1) 89 3 (.slice g p.data.length d) (p.data.length) (p.data.flatMap xP):=by
  have h1:=HM.out.1.rows.own (vK t.dv t.data) (row_data t).1;have e:=HV.out.2.2.1;rw[e] at h1;have h2:W3.ownsRow (p1+1+1+1) 89 3 (.slice g p.data.length d) (t.data.length) _:=h1;rw[a3] at h2;exact h2
 have c5:(Value.slice g p.data.length d).ownBlock≠some o5:=zC a2 HM.out.2.1 (.inr Zd);have HR:=Ja (Jb a2 (Jb c5 a3));obtain⟨ii,e7,d6,d5,d4⟩:=info_parts Tryz.info_obj;clear a2 c5 a3;obtain⟨r,hr⟩:∃r,n/4%4=r:=⟨_,rfl⟩
 obtain⟨sz,b1⟩:∃s,n/16%4=s:=⟨_,rfl⟩
 obtain⟨ad,a6⟩:∃a,lY r=a:=⟨_,rfl⟩
 have c4:r<4:=Zo
 have j0:∀w,(Instr.index 87 (.agg #[U 16392,U 24575,U 512,U 16896]) (U r)).run Tryz.prog w=.ok (U ad) w:=fun w=>by
  rw[<-a6];exact turn_idx r c4 w
 have j1:ad<65536:=by rw[<-a6];unfold lY;split<;>(try split)<;>(try split)<;>omega
 have f1:(n:Int).tmod 4=(n:Int)%4:=Qc Zo;have f2:IntKind.i64.wrap ((n:Int)%4-2)=(n:Int)%4-2:=Om _ Zo;have f3:IntKind.i64.wrap ((n:Int)/4)=(n:Int)/4:=Om _ Zo;have f4:((n:Int)/4).tmod 4=(r:Int):=by rw[Qc Zo,<-hr];simp
 have f5:IntKind.i64.wrap ((n:Int)/16)=(n:Int)/16:=Om _ Zo;have f6:((n:Int)/16).tmod 4=(sz:Int):=by rw[Qc Zo,<-b1];simp
 have f7:IntKind.u16.wrap (ad:Int)=(ad:Int):=by rw[IntKind.wrap_u16];omega
 have f8:IntKind.u16.wrap (sz:Int)=(sz:Int):=by rw[IntKind.wrap_u16];omega
 have a7:=Ja (show((W3.alloc (G #[U ((n:Int)%4-2),O ad,O sz] 89)).drew).ownsRow (p1+1+1+1) 89 3 (.slice g p.data.length d) p.data.length (p.data.flatMap xP)/\yM ((W3.alloc (G #[U ((n:Int)%4-2),O ad,O sz] 89)).drew) 3 (T W3.heap.size 1 1) 1 [U ((n:Int)%4-2),O ad,O sz]/\Q ((W3.alloc (G #[U ((n:Int)%4-2),O ad,O sz] 89)).drew) o5 (D p a1 a0 aa2 ac2 g d ba2 bc2) 29 from⟨HR.out.1.alloc _,yM.cells (w:=(W3.alloc (G #[U ((n:Int)%4-2),O ad,O sz] 89)).drew) (zI (W:=W3) rfl) rfl (by simp[Value.oneCell']),zB HM.out.2.1⟩);have HI:=Ja (Jb hr (Jb b1 a6));clear hr b1 a6 c4;go_upto_region 18 with fail;refine wp_region_noPanic ?_;refine yQ (S:=(fun w'=>A w' o5 4 (.slice g p.data.length d))) 19 Zk c9 (fun hHeld=>?_);refine Tl 0 ?_
 try simp only[Yp]
 refine Tl 1 ?_
 try simp only[Yp]
 refine Tl 2 ?_
 try simp only[Yp]
 refine Tl 3 ?_
 try simp only[Yp]
 refine Tl 4 ?_
 try simp only[Yp]
 refine Tl 5 ?_
 try simp only[Yp]
 refine Tl 6 ?_
 try simp only[Yp]
 refine Tl 7 ?_
 try simp only[Yp]
 refine Tl 8 ?_
 try simp only[Yp]
 refine Tl 9 ?_
 try simp only[Yp]
 refine Tl 10 ?_
 try simp only[Yp]
 refine Tl 11 ?_
 try simp only[Yp]
 refine Tl 12 ?_
 try simp only[Yp]
 refine Tl 13 ?_
 try simp only[Yp]
 refine Tl 14 ?_
 try simp only[Yp]
 refine Tl 15 ?_
 try simp only[Yp]
 refine y7 (rs:=[16]) Zk Zs ?_;refine zS.cons (o:=_) rfl (fun K hK=>?_) ?_
 ·skip
  go_simp;refine hK.out _ _ (zA (i:=4) a7.out.2.2 rfl) (fun hHeld=>?_);clear hK K
  try simp only[Yp]
  refine y7 (rs:=[17]) Zk Zs ?_;refine zS.cons (o:=_) rfl (fun K hK=>?_) ?_
  ·skip
   (refine yG (by rfl) (.tmp 93) (.tmp 108) _ (by rfl) (p1+1+1+1) 89 ii (.agg #[U 0,O 0,O 0]) 3 16 Tryz.underlying26 e7 d6 d5 d4 rfl Zo (.slice g p.data.length d) (p.data.length) (p.data.flatMap xP) (by rfl) a7.out.1 (T W3.heap.size 1 1) 1 [U ((n:Int)%4-2),O ad,O sz] (by rfl) a7.out.2.1 (by unfold maxLen;omega) Zo Zt ?_;intro ra rc w9 a4 j b9;have b3:=zL j a7.out.2.2 HR.out.2.1;have d1:=zA (i:=4) b3 rfl;have df:N w9 o5 4:=zE b3;have dl:=lt_of_block b3;have HG:=Ja (Jb a4 (Jb j b9));clear a4 j b9;(try dsimp only))
   refine hK.out _ _ d1 (fun hHeld=>?_);clear hK K
   try simp only[Yp]
   refine Tl 18 ?_
   try simp only[Yp]
   refine y7 (rs:=[19]) Zk Zs ?_;refine zS.last (o:=_) rfl (fun K hK=>?_);go_simp;refine hK.out _ _ ?_;clear hK K
   try simp only[Yp]
   refine xj Zk (NoPanic.normal ?_) _;go_upto_region 24 with fail
   have c:=(by
    have c7:=HG.out.2.1;have e9:=HV.out.2.2.1;rw[<-e9] at c7;refine HM.out.1.grow (r:=vK t.dv t.data) (r':=vK (.slice ra (p.data.length+1) rc) (t.data++ [(⟨(n:Int)%4-2,ad,sz⟩:IObj)])) (rs:=sC t) (i:=4) (u:=.slice ra (p.data.length+1) rc) (t':= {t with data:=t.data++ [(⟨(n:Int)%4-2,ad,sz⟩:IObj)],dv:=.slice ra (p.data.length+1) rc }) (abI t).2 (((Below.refl W3.heap.size W3).alloc (Je _) (G #[U ((n:Int)%4-2),O ad,O sz] 89)).drew) c7 ?_ (fun x e=>?_) ?_ ?_
    ·show w9.ownsRow (p1+1+1+1) 89 3 _ (t.data++ [(⟨(n:Int)%4-2,ad,sz⟩:IObj)]).length _
     rw[Jk,Ju,HR.out.2.2];have h9:=HG.out.1
     show w9.ownsRow _ _ _ _ _ ((p.data++ [(⟨(n:Int)%4-2,ad,sz⟩:IObj)]).flatMap xP)
     rw[Nx];exact h9
    ·rcases HG.out.2.2 with e2|e2
     ·left;have e3:=e2.symm.trans e
      show t.dv.ownBlock=some x
      rw[e9];exact e3
     ·right;have e3:=e2.symm.trans e;simp at e3;omega
    ·exact(qS t _ _).symm
    ·rfl)
   generalize g9:w9.setCell ⟨o5,4,none⟩ (.slice ra (p.data.length+1) rc)=WF at *;have ho2:=c.ho
   have e0:(zW ({t with data:=t.data++ [(⟨(n:Int)%4-2,ad,sz⟩:IObj)],dv:=.slice ra (p.data.length+1) rc }:PT)).toArray=#[.slice a1 p.funcs.length a0,.slice aa2 p.args.length ac2,U p.entry,U p.handler,.slice ra (p.data.length+1) rc,.slice ba2 p.banks.length bc2]:=by
    unfold zW
    first|(simp only;done)|(simp only[HV.out.1,HV.out.2.1,HV.out.2.2.1,HV.out.2.2.2,HM.out.2.2.2.1,HM.out.2.2.2.2])
   rw[e0] at ho2;clear g9 h7 h6 h5 i8 i2 i1 i0 c9 h8 of ol;have x0:=zA (i:=0) ho2 rfl;have x1:=zA (i:=1) ho2 rfl;have x2:=zA (i:=2) ho2 rfl;have x3:=zA (i:=3) ho2 rfl;have x4:=zA (i:=4) ho2 rfl;have x5:=zA (i:=5) ho2 rfl;have xl:=lt_of_block ho2;have y0:=zA (i:=0) c.hr rfl;have y1:=zA (i:=1) c.hr rfl;have y2:=zA (i:=2) c.hr rfl;have y3:=zA (i:=3) c.hr rfl;have y4:=zA (i:=4) c.hr rfl;have y5:=zA (i:=5) c.hr rfl;have yf:∀i,N WF (p1+1+1) i:=fun i=>zE c.hr
   have yl:=lt_of_block c.hr;have d2:=Ja (Jb c e0);clear c ho2 e0;go_wp2;refine bodyPost_ret (v:=.agg #[.slice a1 p.funcs.length a0,.slice aa2 p.args.length ac2,U p.entry,U p.handler,.slice ra (p.data.length+1) rc,.slice ba2 p.banks.length bc2]) ?_ rfl (d2.out.1.ret d2.out.2 ?_)
   ·rw[zM rfl];go_simp
   ·have d8:=HP.out.2.2;have e6:=HP.out.2.1;have g0:=HF.out;have e1:=d0.out;unfold wR rA;rw[e6,g0,show gn q0=16 from d8];rw[<-e1];simp only[HI.out.1,HI.out.2.1,HI.out.2.2];rfl
  exact zS.nil
 exact zS.nil
theorem jX{V:PV}{p:IProg}(hp:ProgIn w w.heap.size V p)(hs:SmallP p)(hq:I64 q0/\I64 q1/\I64 q2)(hw:gn q0=17):
 I 13 #[yH V p,.agg #[U q0,U q1,U q2]] w (pd w (wR p q0 q1 q2)):=by
 obtain⟨fa,fc,b5,f4,e8⟩:=hp.funcs.form;obtain⟨aa,ac,b8,g2,g1⟩:=hp.args.form;obtain⟨da,dc,b6,f8,f7⟩:=hp.data.form;obtain⟨ba,bc,b7,g0,f9⟩:=hp.banks.form;obtain⟨p1,e4⟩:∃p1,w.heap.size=p1:=⟨_,rfl⟩
 have b2:∀W,Y w W->I 18 #[.agg (D p fa fc aa ac da dc ba bc)] W _:=fun W hb=>by
  have h:=uJ ((hp.below hb).mono hb.size) hs;unfold yH at h;rw[b5,b8,b6,b7] at h;exact h
 unfold yH;rw[b5,b8,b6,b7];obtain⟨n,hn⟩:∃n,uS q2=n:=⟨_,rfl⟩
 have e5:q2%65536=(n:Int):=by rw[<-hn];unfold uS;omega
 have i2:n<65536:=Zo;obtain⟨what,c2⟩:∃k,gn q0=k:=⟨_,rfl⟩
 have i1:-20<q0.tmod 20/\q0.tmod 20<20:=⟨by have:=Qu q0 (show(0:Int)<20 by decide);omega,Qv q0 Zd⟩
 have c3:(q0.tmod 20+20)%20=(what:Int):=by
  rw[<-c2];unfold gn;have h1:=Ob q0 (show(20:Int)≠0 by decide);rw[Oa h1];have h2:=Qs q0 20;omega
 have a65:=yt q2;rw[e5] at a65;have a65b:=yt q1;have j2:=hs.fn.1;have c8:Y w (((w.alloc (G (D p fa fc aa ac da dc ba bc) 29)).alloc (G #[U q0,U q1,U q2] 23)).alloc (G #[L,L,U 0,U 0,L,L] 29)):=(((Below.refl _ _).alloc (Je _) _).alloc Zs _).alloc Zt _;have c0:=Ja b2;have d3:=Ja c8;have HP:=Ja (Jb hs (Jb hn c2));clear b2 c8 hp hs b5 b8 b6 b7 f4 e8 g2 g1 f8 f7 g0 f9 hn hq;have d9:=HP.out.2.2.symm.trans hw;subst d9;have b1:(q0.tmod 20+20)%20=17:=c3;clear c3;go_enter Tryz.func13,Tryz.ntmps13;go_upto_region 2 with(go_at_call 18;go_must (refine(c0.out _ d3.out).mono ?_;rintro e w2 ⟨t,y,j,aa2,ac2,a1,a0,ba2,bc2,rfl,hV,ht,hr,hb⟩;have g:=Ja (Jb hV (Jb ht (Jb hr hb)));clear hV ht hr hb))
 have a3:t.entry=p.entry/\t.handler=p.handler:=by rw[<-g.out.2.1];exact⟨rfl,rfl⟩
 have a2:(zW t).toArray=D p y j aa2 ac2 a1 a0 ba2 bc2:=by
  unfold zW;rw[g.out.1.1,g.out.1.2.1,g.out.1.2.2.1,g.out.1.2.2.2,a3.1,a3.2]
 obtain⟨o5,b4⟩:∃o5,w2.heap.size=o5:=⟨_,rfl⟩
 have hm:TuMid w p1 o5 q0 q1 q2 t (w2.alloc (G (zW t).toArray 29)):=TuMid.start e4 b4 g.out.2.2.1 g.out.2.2.2;rw[a2] at hm;generalize g4:w2.alloc (G (D p y j aa2 ac2 a1 a0 ba2 bc2) 29)=W3 at *;clear g4;rw[b4];clear b4;have ho:=hm.ho;rw[a2] at ho;have g9:=zA (i:=0) hm.hq rfl;have g6:=zA (i:=1) hm.hq rfl;have g5:=zA (i:=2) hm.hq rfl;have h8:=zA (i:=0) ho rfl;have h7:=zA (i:=1) ho rfl;have h4:=zA (i:=4) ho rfl;have c9:=zA (i:=5) ho rfl;have of:∀i,N W3 o5 i:=fun i=>zE ho
 have h6:=zA (i:=2) ho rfl;have h5:=zA (i:=3) ho rfl;have ol:=lt_of_block ho;have HM:=Ja (Jb hm (Jb ho (Jb a2 a3)));have HV:=Ja g.out.1;have d0:=Ja g.out.2.1;clear hm ho a2 a3 g c0 d3;obtain⟨f,hf⟩:∃f,uk p q1=f:=⟨_,rfl⟩
 have HF:=Ja hf;clear hf
 go_upto_if 23 with fail
 go_cut [7,8] (fun s7 s8 wx=>s7=U 17/\s8=U f/\W3=wx)
 case first=>
  have hf:=HF.out;unfold uk at hf
  by_cases b0:0<p.funcs.length
  ·rw[if_pos b0] at hf;have d7:(0:Int)<(p.funcs.length:Int):=Zo
   have f5:(q1%65536)%(p.funcs.length:Int)=(f:Int):=by
    rw[<-hf,Ou,Oa (Ob _ Zd)]
   have h0:0<=q1%65536:=Ob _ Zd;clear hf b0;go_wp2;go_meet;exact⟨by first|rfl|rw[b1],by first|rfl|rw[f5],rfl⟩
  ·rw[if_neg b0] at hf;have d7:¬(0:Int)<(p.funcs.length:Int):=Zo;subst hf;clear b0;go_wp2;go_meet;exact⟨by first|rfl|rw[b1],rfl,rfl⟩
 case rest=>
 obtain⟨rfl,rfl,rfl⟩:=hcut;have j1:=HM.out.1.ge;have i0:=HP.out.1.ba;have a6:t.banks=p.banks:=by rw[<-d0.out];rfl
 have a5:W3.ownsRow (p1+1+1+1) 9 1 (.slice ba2 p.banks.length bc2) (p.banks.length) (p.banks.map .string):=by
  have h1:=HM.out.1.rows.own (v8 t.bv t.banks) (jI t).1;have e:=HV.out.2.2.2;rw[e] at h1;have h2:W3.ownsRow (p1+1+1+1) 9 1 (.slice ba2 p.banks.length bc2) (t.banks.length) _:=h1;rw[a6] at h2;exact h2
 have c4:(Value.slice ba2 p.banks.length bc2).ownBlock≠some o5:=zC a5 HM.out.2.1 (.inr Zd);have HR:=Ja (Jb a5 (Jb c4 a6));obtain⟨ii,e7,d6,d5,d4⟩:=info_parts Tryz.info_str;clear a5 c4 a6;obtain⟨m,c5⟩:∃m,4096-n%3/2=m:=⟨_,rfl⟩
 have f1:(n:Int).tmod 3=(n:Int)%3:=Qc Zo;have f0:((n:Int)%3).tdiv 2=(n:Int)%3/2:=Int.tdiv_eq_ediv_of_nonneg Zo;have f2:IntKind.i64.wrap ((n:Int)%3/2)=(n:Int)%3/2:=Om _ Zo;have f3:IntKind.i64.wrap (4096-(n:Int)%3/2)=(m:Int):=by rw[Om _ Zo];omega
 have i8:m<=4096:=Zo;have j0:(0:Int)<=(m:Int):=Zo;have i9:=run_make_row' (P:=Tryz.prog) 49 5 (.int .u8 0) 1 Tryz.underlying49 Tryz.info_u8 rfl .i64 .i64 m Zo Zo
 have j3:(convert 49 9 (T W3.heap.size m m)).run Tryz.prog (W3.alloc (G (madeCells #[.int .u8 0] m) 5)).drew=.ok (.string (xV m)) (W3.alloc (G (madeCells #[.int .u8 0] m) 5)).drew:=pN (w:=(W3.alloc (G (madeCells #[.int .u8 0] m) 5)).drew) (l:=List.replicate m 0) (by
  have e:=zI (W:=W3) (o:=G (madeCells #[.int .u8 0] m) 5) rfl;rw[yA] at e;rw[List.map_replicate];rw[yA]
  exact e) Zs
 have a4:=Ja (show(((W3.alloc (G (madeCells #[.int .u8 0] m) 5)).alloc (G #[.string (xV m)] 9)).drew).ownsRow (p1+1+1+1) 9 1 (.slice ba2 p.banks.length bc2) p.banks.length (p.banks.map .string)/\yM (((W3.alloc (G (madeCells #[.int .u8 0] m) 5)).alloc (G #[.string (xV m)] 9)).drew) 1 (T (W3.heap.size+1) 1 1) 1 [.string (xV m)]/\Q (((W3.alloc (G (madeCells #[.int .u8 0] m) 5)).alloc (G #[.string (xV m)] 9)).drew) o5 (D p y j aa2 ac2 a1 a0 ba2 bc2) 29/\(W3.alloc (G (madeCells #[.int .u8 0] m) 5)).drew.heap[o5]? =some (G (D p y j aa2 ac2 a1 a0 ba2 bc2) 29) from⟨(HR.out.1.alloc _).alloc _,yM.one (w:=((W3.alloc (G (madeCells #[.int .u8 0] m) 5)).alloc (G #[.string (xV m)] 9)).drew) (zI (W:=W3.alloc (G (madeCells #[.int .u8 0] m) 5)) Zs) rfl,zB (zB HM.out.2.1),zB HM.out.2.1⟩);have HI:=Ja c5;clear c5;go_upto_region 20 with fail;refine wp_region_noPanic ?_;refine yQ (S:=(fun w'=>A w' o5 5 (.slice ba2 p.banks.length bc2))) 11 Zk c9 (fun hHeld=>?_);refine Tl 0 ?_
 try simp only[Yp]
 refine Tl 1 ?_
 try simp only[Yp]
 refine Tl 2 ?_
 try simp only[Yp]
 refine Tl 3 ?_
 try simp only[Yp]
 refine Tl 4 ?_
 try simp only[Yp]
 refine Tl 5 ?_
 try simp only[Yp]
 refine y7 (rs:=[6]) Zk Zs ?_;refine zS.cons (o:=_) rfl (fun K hK=>?_) ?_
 ·skip
  go_simp;refine hK.out _ _ (zA (i:=5) a4.out.2.2.2 rfl) (fun hHeld=>?_);clear hK K
  try simp only[Yp]
  refine y7 (rs:=[7]) Zk Zs ?_;refine zS.cons (o:=_) rfl (fun K hK=>?_) ?_
  ·skip
   go_simp;refine hK.out _ _ Zz (fun hHeld=>?_);clear hK K
   try simp only[Yp]
   refine y7 (rs:=[8]) Zk Zs ?_;refine zS.cons (o:=_) rfl (fun K hK=>?_) ?_
   ·skip
    go_simp;refine hK.out _ _ (zA (i:=5) a4.out.2.2.1 rfl) (fun hHeld=>?_);clear hK K
    try simp only[Yp]
    refine y7 (rs:=[9]) Zk Zs ?_;refine zS.cons (o:=_) rfl (fun K hK=>?_) ?_
    ·skip
     (refine yG (by rfl) (.tmp 114) (.tmp 121) _ (by rfl) (p1+1+1+1) 9 ii (.string ⟨#[]⟩) 1 16 Tryz.underlying27 e7 d6 d5 d4 rfl Zo (.slice ba2 p.banks.length bc2) (p.banks.length) (p.banks.map .string) (by rfl) a4.out.1 (T (W3.heap.size+1) 1 1) 1 [.string (xV m)] (by rfl) a4.out.2.1 (by unfold maxLen;omega) Zo Zt ?_;intro ra rc w9 a7 d b9;have b3:=zL d a4.out.2.2.1 HR.out.2.1;have d1:=zA (i:=5) b3 rfl;have df:N w9 o5 5:=zE b3;have dl:=lt_of_block b3;have HG:=Ja (Jb a7 (Jb d b9));clear a7 d b9;(try dsimp only))
     refine hK.out _ _ d1 (fun hHeld=>?_);clear hK K
     try simp only[Yp]
     refine Tl 10 ?_
     try simp only[Yp]
     refine y7 (rs:=[11]) Zk Zs ?_;refine zS.last (o:=_) rfl (fun K hK=>?_);go_simp;refine hK.out _ _ ?_;clear hK K
     try simp only[Yp]
     refine xj Zk (NoPanic.normal ?_) _;go_upto_region 24 with fail
     have c:=(by
      have c7:=HG.out.2.1;have e9:=HV.out.2.2.2;rw[<-e9] at c7;refine HM.out.1.grow (r:=v8 t.bv t.banks) (r':=v8 (.slice ra (p.banks.length+1) rc) (t.banks++ [(xV m)])) (rs:=uy t) (i:=5) (u:=.slice ra (p.banks.length+1) rc) (t':= {t with banks:=t.banks++ [(xV m)],bv:=.slice ra (p.banks.length+1) rc }) (tL t).2 ((((Below.refl W3.heap.size W3).alloc (Je _) (G (madeCells #[.int .u8 0] m) 5)).alloc Zs (G #[.string (xV m)] 9)).drew) c7 ?_ (fun x e=>?_) ?_ ?_
      ·show w9.ownsRow (p1+1+1+1) 9 1 _ (t.banks++ [(xV m)]).length _
       rw[Jk,Ju,HR.out.2.2];have h9:=HG.out.1
       show w9.ownsRow _ _ _ _ _ ((p.banks++ [(xV m)]).map .string)
       rw[Js];exact h9
      ·rcases HG.out.2.2 with e2|e2
       ·left;have e3:=e2.symm.trans e
        show t.bv.ownBlock=some x
        rw[e9];exact e3
       ·right;have e3:=e2.symm.trans e;simp at e3;omega
      ·exact(qE t _ _).symm
      ·rfl)
     generalize g3:w9.setCell ⟨o5,5,none⟩ (.slice ra (p.banks.length+1) rc)=WF at *;have ho2:=c.ho
     have e0:(zW ({t with banks:=t.banks++ [(xV m)],bv:=.slice ra (p.banks.length+1) rc }:PT)).toArray=#[.slice y p.funcs.length j,.slice aa2 p.args.length ac2,U p.entry,U p.handler,.slice a1 p.data.length a0,.slice ra (p.banks.length+1) rc]:=by
      unfold zW
      first|(simp only;done)|(simp only[HV.out.1,HV.out.2.1,HV.out.2.2.1,HV.out.2.2.2,HM.out.2.2.2.1,HM.out.2.2.2.2])
     rw[e0] at ho2;clear g3 g9 g6 g5 h8 h7 h6 h5 h4 c9 of ol;have x0:=zA (i:=0) ho2 rfl;have x1:=zA (i:=1) ho2 rfl;have x2:=zA (i:=2) ho2 rfl;have x3:=zA (i:=3) ho2 rfl;have x4:=zA (i:=4) ho2 rfl;have x5:=zA (i:=5) ho2 rfl;have xl:=lt_of_block ho2;have y0:=zA (i:=0) c.hr rfl;have y1:=zA (i:=1) c.hr rfl;have y2:=zA (i:=2) c.hr rfl;have y3:=zA (i:=3) c.hr rfl;have y4:=zA (i:=4) c.hr rfl;have y5:=zA (i:=5) c.hr rfl;have yf:∀i,N WF (p1+1+1) i:=fun i=>zE c.hr
     have yl:=lt_of_block c.hr;have d2:=Ja (Jb c e0);clear c ho2 e0;go_wp2;refine bodyPost_ret (v:=.agg #[.slice y p.funcs.length j,.slice aa2 p.args.length ac2,U p.entry,U p.handler,.slice a1 p.data.length a0,.slice ra (p.banks.length+1) rc]) ?_ rfl (d2.out.1.ret d2.out.2 ?_)
     ·rw[zM rfl];go_simp
     ·have d8:=HP.out.2.2;have e6:=HP.out.2.1;have f6:=HF.out;have e1:=d0.out;unfold wR rA;rw[e6,f6,show gn q0=17 from d8];rw[<-e1];simp only[HI.out];rfl
    exact zS.nil
   exact zS.nil
  exact zS.nil
 exact zS.nil
end Go.Proofs.YtoahcpkibpomcaaGreat
