/- Part of a proof. -/
import Derived.Test.YtojclalkfhoooaaGTur1
set_option linter.all false
set_option maxHeartbeats 2000000
set_option maxRecDepth 100000
namespace Go.Proofs.Ytojclalkfhoooaa
open Go.RowKit
variable {w:World}{q0 q1 q2:Int}
theorem je{V:PV}{p:IProg}(hp:ProgIn w w.heap.size V p)(hs:SmallP p)(hq:I64 q0/\I64 q1/\I64 q2)(hw:yn q0=16):
 G 19 #[yH V p,.agg #[O q0,O q1,O q2]] w (pd w (wR p q0 q1 q2)):=by
 obtain⟨fa,fc,b3,e8,e7⟩:=hp.funcs.form;obtain⟨aa,ac,b6,g5,g4⟩:=hp.args.form;obtain⟨da,dc,b4,g1,g0⟩:=hp.data.form;obtain⟨ba,bc,b5,g3,g2⟩:=hp.banks.form;obtain⟨p1,e1⟩:∃p1,w.heap.size=p1:=⟨_,rfl⟩
 have b0:∀W,L w W->G 36 #[.agg (P p fa fc aa ac da dc ba bc)] W _:=fun W hb=>by
  have h:=uJ ((hp.below hb).mono hb.size) hs;unfold yH at h;rw[b3,b6,b4,b5] at h;exact h
 unfold yH;rw[b3,b6,b4,b5];obtain⟨n,hn⟩:∃n,uS q2=n:=⟨_,rfl⟩
 have e4:q2%65536=(n:Int):=by rw[<-hn];unfold uS;omega
 have j0:n<65536:=Zo;obtain⟨what,b9⟩:∃k,yn q0=k:=⟨_,rfl⟩
 have i8:-20<q0.tmod 20/\q0.tmod 20<20:=⟨by have:=Qu q0 (show(0:Int)<20 by decide);omega,Qv q0 Zd⟩
 have c0:(q0.tmod 20+20)%20=(what:Int):=by
  rw[<-b9];unfold yn;have h1:=Ob q0 (show(20:Int)≠0 by decide);rw[Oa h1];have h2:=Qs q0 20;omega
 have a65:=yt q2;rw[e4] at a65;have a65b:=yt q1;have j2:=hs.fn.1;have c5:L w (((w.alloc (A (P p fa fc aa ac da dc ba bc) 29)).alloc (A #[O q0,O q1,O q2] 23)).alloc (A #[F,F,O 0,O 0,F,F] 29)):=(((Below.refl _ _).alloc (Je _) _).alloc Zs _).alloc Zt _;have b8:=Ja b0;have d0:=Ja c5;have HP:=Ja (Jb hs (Jb hn b9));clear b0 c5 hp hs b3 b6 b4 b5 e8 e7 g5 g4 g1 g0 g3 g2 hn hq;have d7:=HP.out.2.2.symm.trans hw;subst d7;have a7:(q0.tmod 20+20)%20=16:=c0;clear c0;go_enter Try.func19,Try.ntmps19;go_upto_region 2 with(go_at_call 36;go_must (refine(b8.out _ d0.out).mono ?_;rintro e w2 ⟨t,a0,y,aa2,ac2,g,d,ba2,bc2,rfl,hV,ht,hr,hb⟩;have l:=Ja (Jb hV (Jb ht (Jb hr hb)));clear hV ht hr hb))
 have q:t.entry=p.entry/\t.handler=p.handler:=by rw[<-l.out.2.1];exact⟨rfl,rfl⟩
 have m:(zW t).toArray=P p a0 y aa2 ac2 g d ba2 bc2:=by
  unfold zW;rw[l.out.1.1,l.out.1.2.1,l.out.1.2.2.1,l.out.1.2.2.2,q.1,q.2]
 obtain⟨o5,b2⟩:∃o5,w2.heap.size=o5:=⟨_,rfl⟩
 have hm:TuMid w p1 o5 q0 q1 q2 t (w2.alloc (A (zW t).toArray 29)):=TuMid.start e1 b2 l.out.2.2.1 l.out.2.2.2;rw[m] at hm;generalize g7:w2.alloc (A (P p a0 y aa2 ac2 g d ba2 bc2) 29)=W3 at *;clear g7;rw[b2];clear b2;have ho:=hm.ho;rw[m] at ho;have h4:=zA (i:=0) hm.hq rfl;have g9:=zA (i:=1) hm.hq rfl;have g8:=zA (i:=2) hm.hq rfl;have i0:=zA (i:=0) ho rfl;have h8:=zA (i:=1) ho rfl;have c7:=zA (i:=4) ho rfl;have h5:=zA (i:=5) ho rfl;have of:∀i,N W3 o5 i:=fun i=>zE ho
 have h7:=zA (i:=2) ho rfl;have h6:=zA (i:=3) ho rfl;have ol:=lt_of_block ho;have HM:=Ja (Jb hm (Jb ho (Jb m q)));have HV:=Ja l.out.1;have c8:=Ja l.out.2.1;clear hm ho m q l b8 d0;obtain⟨f,hf⟩:∃f,uk p q1=f:=⟨_,rfl⟩
 have HF:=Ja hf;clear hf
 go_upto_if 23 with fail
 go_cut [7,8] (fun s7 s8 wx=>s7=O 16/\s8=O f/\W3=wx)
 case first=>
  have hf:=HF.out;unfold uk at hf
  by_cases a4:0<p.funcs.length
  ·rw[if_pos a4] at hf;have d5:(0:Int)<(p.funcs.length:Int):=Zo
   have f0:(q1%65536)%(p.funcs.length:Int)=(f:Int):=by
    rw[<-hf,Ou,Oa (Ob _ Zd)]
   have h0:0<=q1%65536:=Ob _ Zd;clear hf a4;go_wp2;go_meet;exact⟨by first|rfl|rw[a7],by first|rfl|rw[f0],rfl⟩
  ·rw[if_neg a4] at hf;have d5:¬(0:Int)<(p.funcs.length:Int):=Zo;subst hf;clear a4;go_wp2;go_meet;exact⟨by first|rfl|rw[a7],rfl,rfl⟩
 case rest=>
 obtain⟨rfl,rfl,rfl⟩:=hcut;have j1:=HM.out.1.ge;have i1:=HP.out.1.da;have a2:t.data=p.data:=by rw[<-c8.out];rfl
 have a1:W3.ownsRow (p1+1+1+1) 51 3 (.slice g p.data.length d) (p.data.length) (p.data.flatMap xP):=by
  have h1:=HM.out.1.rows.own (vK t.dv t.data) (row_data t).1;have e:=HV.out.2.2.1;rw[e] at h1;have h2:W3.ownsRow (p1+1+1+1) 51 3 (.slice g p.data.length d) (t.data.length) _:=h1;rw[a2] at h2;exact h2
 have c3:(Value.slice g p.data.length d).ownBlock≠some o5:=zC a1 HM.out.2.1 (.inr Zd);have HR:=Ja (Jb a1 (Jb c3 a2));obtain⟨ii,e6,d4,d3,d2⟩:=info_parts Try.info_obj;clear a1 c3 a2;obtain⟨r,hr⟩:∃r,n/4%4=r:=⟨_,rfl⟩
 obtain⟨sz,a9⟩:∃s,n/16%4=s:=⟨_,rfl⟩
 obtain⟨ad,a5⟩:∃a,lY r=a:=⟨_,rfl⟩
 have c2:r<4:=Zo
 have i2:∀w,(Instr.index 98 (.agg #[O 16392,O 24575,O 512,O 16896]) (O r)).run Try.prog w=.ok (O ad) w:=fun w=>by
  rw[<-a5];exact turn_idx r c2 w
 have i3:ad<65536:=by rw[<-a5];unfold lY;split<;>(try split)<;>(try split)<;>omega
 have f1:(n:Int).tmod 4=(n:Int)%4:=Qc Zo;have f2:IntKind.i64.wrap ((n:Int)%4-2)=(n:Int)%4-2:=Om _ Zo;have f3:IntKind.i64.wrap ((n:Int)/4)=(n:Int)/4:=Om _ Zo;have f4:((n:Int)/4).tmod 4=(r:Int):=by rw[Qc Zo,<-hr];simp
 have f5:IntKind.i64.wrap ((n:Int)/16)=(n:Int)/16:=Om _ Zo;have f6:((n:Int)/16).tmod 4=(sz:Int):=by rw[Qc Zo,<-a9];simp
 have f7:IntKind.u16.wrap (ad:Int)=(ad:Int):=by rw[IntKind.wrap_u16];omega
 have f8:IntKind.u16.wrap (sz:Int)=(sz:Int):=by rw[IntKind.wrap_u16];omega
 have a6:=Ja (show((W3.alloc (A #[O ((n:Int)%4-2),U ad,U sz] 51)).drew).ownsRow (p1+1+1+1) 51 3 (.slice g p.data.length d) p.data.length (p.data.flatMap xP)/\yM ((W3.alloc (A #[O ((n:Int)%4-2),U ad,U sz] 51)).drew) 3 (Q W3.heap.size 1 1) 1 [O ((n:Int)%4-2),U ad,U sz]/\Y ((W3.alloc (A #[O ((n:Int)%4-2),U ad,U sz] 51)).drew) o5 (P p a0 y aa2 ac2 g d ba2 bc2) 29 from⟨HR.out.1.alloc _,yM.cells (w:=(W3.alloc (A #[O ((n:Int)%4-2),U ad,U sz] 51)).drew) (zI (W:=W3) rfl) rfl (by simp[Value.oneCell']),zB HM.out.2.1⟩);have HI:=Ja (Jb hr (Jb a9 a5));clear hr a9 a5 c2;go_upto_region 18 with fail;refine wp_region_noPanic ?_;refine yQ (S:=(fun w'=>T w' o5 4 (.slice g p.data.length d))) 19 Zk c7 (fun hHeld=>?_);refine Tl 0 ?_
 try simp only[Yp]
 refine Tl 1 ?_
 try simp only[Yp]
 refine Tl 2 ?_
 try simp only[Yp]
 refine Tl 3 ?_
 try simp only[Yp]
 refine Tl 4 ?_
 try simp only[Yp]
 refine Tl 5 ?_
 try simp only[Yp]
 refine Tl 6 ?_
 try simp only[Yp]
 refine Tl 7 ?_
 try simp only[Yp]
 refine Tl 8 ?_
 try simp only[Yp]
 refine Tl 9 ?_
 try simp only[Yp]
 refine Tl 10 ?_
 try simp only[Yp]
 refine Tl 11 ?_
 try simp only[Yp]
 refine Tl 12 ?_
 try simp only[Yp]
 refine Tl 13 ?_
 try simp only[Yp]
 refine Tl 14 ?_
 try simp only[Yp]
 refine Tl 15 ?_
 try simp only[Yp]
 refine zf (rs:=[16]) Zk Zs ?_;refine zS.cons (o:=_) rfl (fun K hK=>?_) ?_
 ·skip
  go_simp;refine hK.out _ _ (zA (i:=4) a6.out.2.2 rfl) (fun hHeld=>?_);clear hK K
  try simp only[Yp]
  refine zf (rs:=[17]) Zk Zs ?_;refine zS.cons (o:=_) rfl (fun K hK=>?_) ?_
  ·skip
   (refine yG (by rfl) (.tmp 93) (.tmp 108) _ (by rfl) (p1+1+1+1) 51 ii (.agg #[O 0,U 0,U 0]) 3 16 Try.underlying26 e6 d4 d3 d2 rfl Zo (.slice g p.data.length d) (p.data.length) (p.data.flatMap xP) (by rfl) a6.out.1 (Q W3.heap.size 1 1) 1 [O ((n:Int)%4-2),U ad,U sz] (by rfl) a6.out.2.1 (by unfold maxLen;omega) Zo Zt ?_;intro ra rc w9 a3 j b7;have b1:=zL j a6.out.2.2 HR.out.2.1;have d1:=zA (i:=4) b1 rfl;have df:N w9 o5 4:=zE b1;have dl:=lt_of_block b1;have HG:=Ja (Jb a3 (Jb j b7));clear a3 j b7;(try dsimp only))
   refine hK.out _ _ d1 (fun hHeld=>?_);clear hK K
   try simp only[Yp]
   refine Tl 18 ?_
   try simp only[Yp]
   refine zf (rs:=[19]) Zk Zs ?_;refine zS.last (o:=_) rfl (fun K hK=>?_);go_simp;refine hK.out _ _ ?_;clear hK K
   try simp only[Yp]
   refine xj Zk (NoPanic.normal ?_) _;go_upto_region 24 with fail
   have c:=(by
    have c4:=HG.out.2.1;have e9:=HV.out.2.2.1;rw[<-e9] at c4;refine HM.out.1.grow (r:=vK t.dv t.data) (r':=vK (.slice ra (p.data.length+1) rc) (t.data++ [(⟨(n:Int)%4-2,ad,sz⟩:IObj)])) (rs:=sC t) (i:=4) (u:=.slice ra (p.data.length+1) rc) (t':= {t with data:=t.data++ [(⟨(n:Int)%4-2,ad,sz⟩:IObj)],dv:=.slice ra (p.data.length+1) rc }) (abI t).2 (((Below.refl W3.heap.size W3).alloc (Je _) (A #[O ((n:Int)%4-2),U ad,U sz] 51)).drew) c4 ?_ (fun x e=>?_) ?_ ?_
    ·show w9.ownsRow (p1+1+1+1) 51 3 _ (t.data++ [(⟨(n:Int)%4-2,ad,sz⟩:IObj)]).length _
     rw[Jk,Ju,HR.out.2.2];have h9:=HG.out.1
     show w9.ownsRow _ _ _ _ _ ((p.data++ [(⟨(n:Int)%4-2,ad,sz⟩:IObj)]).flatMap xP)
     rw[Nx];exact h9
    ·rcases HG.out.2.2 with e2|e2
     ·left;have e3:=e2.symm.trans e
      show t.dv.ownBlock=some x
      rw[e9];exact e3
     ·right;have e3:=e2.symm.trans e;simp at e3;omega
    ·exact(qS t _ _).symm
    ·rfl)
   generalize g6:w9.setCell ⟨o5,4,none⟩ (.slice ra (p.data.length+1) rc)=WF at *;have ho2:=c.ho
   have e0:(zW ({t with data:=t.data++ [(⟨(n:Int)%4-2,ad,sz⟩:IObj)],dv:=.slice ra (p.data.length+1) rc }:PT)).toArray=#[.slice a0 p.funcs.length y,.slice aa2 p.args.length ac2,O p.entry,O p.handler,.slice ra (p.data.length+1) rc,.slice ba2 p.banks.length bc2]:=by
    unfold zW
    first|(simp only;done)|(simp only[HV.out.1,HV.out.2.1,HV.out.2.2.1,HV.out.2.2.2,HM.out.2.2.2.1,HM.out.2.2.2.2])
   rw[e0] at ho2;clear g6 h4 g9 g8 i0 h8 h7 h6 c7 h5 of ol;have x0:=zA (i:=0) ho2 rfl;have x1:=zA (i:=1) ho2 rfl;have x2:=zA (i:=2) ho2 rfl;have x3:=zA (i:=3) ho2 rfl;have x4:=zA (i:=4) ho2 rfl;have x5:=zA (i:=5) ho2 rfl;have xl:=lt_of_block ho2;have y0:=zA (i:=0) c.hr rfl;have y1:=zA (i:=1) c.hr rfl;have y2:=zA (i:=2) c.hr rfl;have y3:=zA (i:=3) c.hr rfl;have y4:=zA (i:=4) c.hr rfl;have y5:=zA (i:=5) c.hr rfl;have yf:∀i,N WF (p1+1+1) i:=fun i=>zE c.hr
   have yl:=lt_of_block c.hr;have c9:=Ja (Jb c e0);clear c ho2 e0;go_wp2;refine bodyPost_ret (v:=.agg #[.slice a0 p.funcs.length y,.slice aa2 p.args.length ac2,O p.entry,O p.handler,.slice ra (p.data.length+1) rc,.slice ba2 p.banks.length bc2]) ?_ rfl (c9.out.1.ret c9.out.2 ?_)
   ·rw[zM rfl];go_simp
   ·have d6:=HP.out.2.2;have e5:=HP.out.2.1;have f9:=HF.out;have d8:=c8.out;unfold wR rA;rw[e5,f9,show yn q0=16 from d6];rw[<-d8];simp only[HI.out.1,HI.out.2.1,HI.out.2.2];rfl
  exact zS.nil
 exact zS.nil
theorem jX{V:PV}{p:IProg}(hp:ProgIn w w.heap.size V p)(hs:SmallP p)(hq:I64 q0/\I64 q1/\I64 q2)(hw:yn q0=17):
 G 19 #[yH V p,.agg #[O q0,O q1,O q2]] w (pd w (wR p q0 q1 q2)):=by
 obtain⟨fa,fc,b3,e8,e7⟩:=hp.funcs.form;obtain⟨aa,ac,b6,g1,g0⟩:=hp.args.form;obtain⟨da,dc,b4,f7,f6⟩:=hp.data.form;obtain⟨ba,bc,b5,f9,f8⟩:=hp.banks.form;obtain⟨p1,e1⟩:∃p1,w.heap.size=p1:=⟨_,rfl⟩
 have b0:∀W,L w W->G 36 #[.agg #[.slice fa p.funcs.length fc,.slice aa p.args.length ac,O p.entry,O p.handler,.slice da p.data.length dc,.slice ba p.banks.length bc]] W _:=fun W hb=>by
  have h:=uJ ((hp.below hb).mono hb.size) hs;unfold yH at h;rw[b3,b6,b4,b5] at h;exact h
 unfold yH;rw[b3,b6,b4,b5];obtain⟨n,hn⟩:∃n,uS q2=n:=⟨_,rfl⟩
 have e4:q2%65536=(n:Int):=by rw[<-hn];unfold uS;omega
 have h8:n<65536:=Zo;obtain⟨what,b9⟩:∃k,yn q0=k:=⟨_,rfl⟩
 have h7:-20<q0.tmod 20/\q0.tmod 20<20:=⟨by have:=Qu q0 (show(0:Int)<20 by decide);omega,Qv q0 Zd⟩
 have c0:(q0.tmod 20+20)%20=(what:Int):=by
  rw[<-b9];unfold yn;have h1:=Ob q0 (show(20:Int)≠0 by decide);rw[Oa h1];have h2:=Qs q0 20;omega
 have a65:=yt q2;rw[e4] at a65;have a65b:=yt q1;have i8:=hs.fn.1;have c5:L w (((w.alloc (A #[.slice fa p.funcs.length fc,.slice aa p.args.length ac,O p.entry,O p.handler,.slice da p.data.length dc,.slice ba p.banks.length bc] 29)).alloc (A #[O q0,O q1,O q2] 23)).alloc (A #[F,F,O 0,O 0,F,F] 29)):=(((Below.refl _ _).alloc (Je _) _).alloc Zs _).alloc Zt _;have b8:=Ja b0;have d0:=Ja c5;have HP:=Ja (Jb hs (Jb hn b9));clear b0 c5 hp hs b3 b6 b4 b5 e8 e7 g1 g0 f7 f6 f9 f8 hn hq;have d7:=HP.out.2.2.symm.trans hw;subst d7;have a9:(q0.tmod 20+20)%20=17:=c0;clear c0;go_enter Try.func19,Try.ntmps19;go_upto_region 2 with(go_at_call 36;go_must (refine(b8.out _ d0.out).mono ?_;rintro e w2 ⟨t,q,j,aa2,ac2,a0,y,ba2,bc2,rfl,hV,ht,hr,hb⟩;have g:=Ja (Jb hV (Jb ht (Jb hr hb)));clear hV ht hr hb))
 have a2:t.entry=p.entry/\t.handler=p.handler:=by rw[<-g.out.2.1];exact⟨rfl,rfl⟩
 have a1:(zW t).toArray=#[.slice q p.funcs.length j,.slice aa2 p.args.length ac2,O p.entry,O p.handler,.slice a0 p.data.length y,.slice ba2 p.banks.length bc2]:=by
  unfold zW;rw[g.out.1.1,g.out.1.2.1,g.out.1.2.2.1,g.out.1.2.2.2,a2.1,a2.2]
 obtain⟨o5,b2⟩:∃o5,w2.heap.size=o5:=⟨_,rfl⟩
 have hm:TuMid w p1 o5 q0 q1 q2 t (w2.alloc (A (zW t).toArray 29)):=TuMid.start e1 b2 g.out.2.2.1 g.out.2.2.2;rw[a1] at hm;generalize g3:w2.alloc (A #[.slice q p.funcs.length j,.slice aa2 p.args.length ac2,O p.entry,O p.handler,.slice a0 p.data.length y,.slice ba2 p.banks.length bc2] 29)=W3 at *;clear g3;rw[b2];clear b2;have ho:=hm.ho;rw[a1] at ho;have g6:=zA (i:=0) hm.hq rfl;have g5:=zA (i:=1) hm.hq rfl;have g4:=zA (i:=2) hm.hq rfl;have h5:=zA (i:=0) ho rfl;have h4:=zA (i:=1) ho rfl;have g7:=zA (i:=4) ho rfl;have c7:=zA (i:=5) ho rfl;have of:∀i,N W3 o5 i:=fun i=>zE ho
 have g9:=zA (i:=2) ho rfl;have g8:=zA (i:=3) ho rfl;have ol:=lt_of_block ho;have HM:=Ja (Jb hm (Jb ho (Jb a1 a2)));have HV:=Ja g.out.1;have c8:=Ja g.out.2.1;clear hm ho a1 a2 g b8 d0;obtain⟨f,hf⟩:∃f,uk p q1=f:=⟨_,rfl⟩
 have HF:=Ja hf;clear hf
 go_upto_if 23 with fail
 go_cut [7,8] (fun s7 s8 wx=>s7=O 17/\s8=O f/\W3=wx)
 case first=>
  have hf:=HF.out;unfold uk at hf
  by_cases a7:0<p.funcs.length
  ·rw[if_pos a7] at hf;have d5:(0:Int)<(p.funcs.length:Int):=Zo
   have f4:(q1%65536)%(p.funcs.length:Int)=(f:Int):=by
    rw[<-hf,Ou,Oa (Ob _ Zd)]
   have h0:0<=q1%65536:=Ob _ Zd;clear hf a7;go_wp2;go_meet;exact⟨by first|rfl|rw[a9],by first|rfl|rw[f4],rfl⟩
  ·rw[if_neg a7] at hf;have d5:¬(0:Int)<(p.funcs.length:Int):=Zo;subst hf;clear a7;go_wp2;go_meet;exact⟨by first|rfl|rw[a9],rfl,rfl⟩
 case rest=>
 obtain⟨rfl,rfl,rfl⟩:=hcut;have i3:=HM.out.1.ge;have h6:=HP.out.1.ba;have a5:t.banks=p.banks:=by rw[<-c8.out];rfl
 have a4:W3.ownsRow (p1+1+1+1) 9 1 (.slice ba2 p.banks.length bc2) (p.banks.length) (p.banks.map .string):=by
  have h1:=HM.out.1.rows.own (v8 t.bv t.banks) (jI t).1;have e:=HV.out.2.2.2;rw[e] at h1;have h2:W3.ownsRow (p1+1+1+1) 9 1 (.slice ba2 p.banks.length bc2) (t.banks.length) _:=h1;rw[a5] at h2;exact h2
 have c2:(Value.slice ba2 p.banks.length bc2).ownBlock≠some o5:=zC a4 HM.out.2.1 (.inr Zd);have HR:=Ja (Jb a4 (Jb c2 a5));obtain⟨ii,e6,d4,d3,d2⟩:=info_parts Try.info_str;clear a4 c2 a5;obtain⟨m,c3⟩:∃m,4096-n%3/2=m:=⟨_,rfl⟩
 have f1:(n:Int).tmod 3=(n:Int)%3:=Qc Zo;have f0:((n:Int)%3).tdiv 2=(n:Int)%3/2:=Int.tdiv_eq_ediv_of_nonneg Zo;have f2:IntKind.i64.wrap ((n:Int)%3/2)=(n:Int)%3/2:=Om _ Zo;have f3:IntKind.i64.wrap (4096-(n:Int)%3/2)=(m:Int):=by rw[Om _ Zo];omega
 have i0:m<=4096:=Zo;have i2:(0:Int)<=(m:Int):=Zo;have i1:=run_make_row' (P:=Try.prog) 37 5 (.int .u8 0) 1 Try.underlying37 Try.info_u8 rfl .i64 .i64 m Zo Zo
 have j0:(convert 37 9 (Q W3.heap.size m m)).run Try.prog (W3.alloc (A (madeCells #[.int .u8 0] m) 5)).drew=.ok (.string (xV m)) (W3.alloc (A (madeCells #[.int .u8 0] m) 5)).drew:=pN (w:=(W3.alloc (A (madeCells #[.int .u8 0] m) 5)).drew) (l:=List.replicate m 0) (by
  have e:=zI (W:=W3) (o:=A (madeCells #[.int .u8 0] m) 5) rfl;rw[yA] at e;rw[List.map_replicate];rw[yA]
  exact e) Zs
 have a3:=Ja (show(((W3.alloc (A (madeCells #[.int .u8 0] m) 5)).alloc (A #[.string (xV m)] 9)).drew).ownsRow (p1+1+1+1) 9 1 (.slice ba2 p.banks.length bc2) p.banks.length (p.banks.map .string)/\yM (((W3.alloc (A (madeCells #[.int .u8 0] m) 5)).alloc (A #[.string (xV m)] 9)).drew) 1 (Q (W3.heap.size+1) 1 1) 1 [.string (xV m)]/\Y (((W3.alloc (A (madeCells #[.int .u8 0] m) 5)).alloc (A #[.string (xV m)] 9)).drew) o5 #[.slice q p.funcs.length j,.slice aa2 p.args.length ac2,O p.entry,O p.handler,.slice a0 p.data.length y,.slice ba2 p.banks.length bc2] 29/\(W3.alloc (A (madeCells #[.int .u8 0] m) 5)).drew.heap[o5]? =some (A #[.slice q p.funcs.length j,.slice aa2 p.args.length ac2,O p.entry,O p.handler,.slice a0 p.data.length y,.slice ba2 p.banks.length bc2] 29) from⟨(HR.out.1.alloc _).alloc _,yM.one (w:=((W3.alloc (A (madeCells #[.int .u8 0] m) 5)).alloc (A #[.string (xV m)] 9)).drew) (zI (W:=W3.alloc (A (madeCells #[.int .u8 0] m) 5)) Zs) rfl,zB (zB HM.out.2.1),zB HM.out.2.1⟩);have HI:=Ja c3;clear c3;go_upto_region 20 with fail;refine wp_region_noPanic ?_;refine yQ (S:=(fun w'=>T w' o5 5 (.slice ba2 p.banks.length bc2))) 11 Zk c7 (fun hHeld=>?_);refine Tl 0 ?_
 try simp only[Yp]
 refine Tl 1 ?_
 try simp only[Yp]
 refine Tl 2 ?_
 try simp only[Yp]
 refine Tl 3 ?_
 try simp only[Yp]
 refine Tl 4 ?_
 try simp only[Yp]
 refine Tl 5 ?_
 try simp only[Yp]
 refine zf (rs:=[6]) Zk Zs ?_;refine zS.cons (o:=_) rfl (fun K hK=>?_) ?_
 ·skip
  go_simp;refine hK.out _ _ (zA (i:=5) a3.out.2.2.2 rfl) (fun hHeld=>?_);clear hK K
  try simp only[Yp]
  refine zf (rs:=[7]) Zk Zs ?_;refine zS.cons (o:=_) rfl (fun K hK=>?_) ?_
  ·skip
   go_simp;refine hK.out _ _ Zz (fun hHeld=>?_);clear hK K
   try simp only[Yp]
   refine zf (rs:=[8]) Zk Zs ?_;refine zS.cons (o:=_) rfl (fun K hK=>?_) ?_
   ·skip
    go_simp;refine hK.out _ _ (zA (i:=5) a3.out.2.2.1 rfl) (fun hHeld=>?_);clear hK K
    try simp only[Yp]
    refine zf (rs:=[9]) Zk Zs ?_;refine zS.cons (o:=_) rfl (fun K hK=>?_) ?_
    ·skip
     (refine yG (by rfl) (.tmp 114) (.tmp 121) _ (by rfl) (p1+1+1+1) 9 ii (.string ⟨#[]⟩) 1 16 Try.underlying27 e6 d4 d3 d2 rfl Zo (.slice ba2 p.banks.length bc2) (p.banks.length) (p.banks.map .string) (by rfl) a3.out.1 (Q (W3.heap.size+1) 1 1) 1 [.string (xV m)] (by rfl) a3.out.2.1 (by unfold maxLen;omega) Zo Zt ?_;intro ra rc w9 a6 d b7;have b1:=zL d a3.out.2.2.1 HR.out.2.1;have d1:=zA (i:=5) b1 rfl;have df:N w9 o5 5:=zE b1;have dl:=lt_of_block b1;have HG:=Ja (Jb a6 (Jb d b7));clear a6 d b7;(try dsimp only))
     refine hK.out _ _ d1 (fun hHeld=>?_);clear hK K
     try simp only[Yp]
     refine Tl 10 ?_
     try simp only[Yp]
     refine zf (rs:=[11]) Zk Zs ?_;refine zS.last (o:=_) rfl (fun K hK=>?_);go_simp;refine hK.out _ _ ?_;clear hK K
     try simp only[Yp]
     refine xj Zk (NoPanic.normal ?_) _;go_upto_region 24 with fail
     have c:=(by
      have c4:=HG.out.2.1;have e9:=HV.out.2.2.2;rw[<-e9] at c4;refine HM.out.1.grow (r:=v8 t.bv t.banks) (r':=v8 (.slice ra (p.banks.length+1) rc) (t.banks++ [(xV m)])) (rs:=uy t) (i:=5) (u:=.slice ra (p.banks.length+1) rc) (t':= {t with banks:=t.banks++ [(xV m)],bv:=.slice ra (p.banks.length+1) rc }) (tL t).2 ((((Below.refl W3.heap.size W3).alloc (Je _) (A (madeCells #[.int .u8 0] m) 5)).alloc Zs (A #[.string (xV m)] 9)).drew) c4 ?_ (fun x e=>?_) ?_ ?_
      ·show w9.ownsRow (p1+1+1+1) 9 1 _ (t.banks++ [(xV m)]).length _
       rw[Jk,Ju,HR.out.2.2];have h9:=HG.out.1
       show w9.ownsRow _ _ _ _ _ ((p.banks++ [(xV m)]).map .string)
       rw[Js];exact h9
      ·rcases HG.out.2.2 with e2|e2
       ·left;have e3:=e2.symm.trans e
        show t.bv.ownBlock=some x
        rw[e9];exact e3
       ·right;have e3:=e2.symm.trans e;simp at e3;omega
      ·exact(qE t _ _).symm
      ·rfl)
     generalize g2:w9.setCell ⟨o5,5,none⟩ (.slice ra (p.banks.length+1) rc)=WF at *;have ho2:=c.ho
     have e0:(zW ({t with banks:=t.banks++ [(xV m)],bv:=.slice ra (p.banks.length+1) rc }:PT)).toArray=#[.slice q p.funcs.length j,.slice aa2 p.args.length ac2,O p.entry,O p.handler,.slice a0 p.data.length y,.slice ra (p.banks.length+1) rc]:=by
      unfold zW
      first|(simp only;done)|(simp only[HV.out.1,HV.out.2.1,HV.out.2.2.1,HV.out.2.2.2,HM.out.2.2.2.1,HM.out.2.2.2.2])
     rw[e0] at ho2;clear g2 g6 g5 g4 h5 h4 g9 g8 g7 c7 of ol;have x0:=zA (i:=0) ho2 rfl;have x1:=zA (i:=1) ho2 rfl;have x2:=zA (i:=2) ho2 rfl;have x3:=zA (i:=3) ho2 rfl;have x4:=zA (i:=4) ho2 rfl;have x5:=zA (i:=5) ho2 rfl;have xl:=lt_of_block ho2;have y0:=zA (i:=0) c.hr rfl;have y1:=zA (i:=1) c.hr rfl;have y2:=zA (i:=2) c.hr rfl;have y3:=zA (i:=3) c.hr rfl;have y4:=zA (i:=4) c.hr rfl;have y5:=zA (i:=5) c.hr rfl;have yf:∀i,N WF (p1+1+1) i:=fun i=>zE c.hr
     have yl:=lt_of_block c.hr;have c9:=Ja (Jb c e0);clear c ho2 e0;go_wp2;refine bodyPost_ret (v:=.agg #[.slice q p.funcs.length j,.slice aa2 p.args.length ac2,O p.entry,O p.handler,.slice a0 p.data.length y,.slice ra (p.banks.length+1) rc]) ?_ rfl (c9.out.1.ret c9.out.2 ?_)
     ·rw[zM rfl];go_simp
     ·have d6:=HP.out.2.2;have e5:=HP.out.2.1;have f5:=HF.out;have d8:=c8.out;unfold wR rA;rw[e5,f5,show yn q0=17 from d6];rw[<-d8];simp only[HI.out];rfl
    exact zS.nil
   exact zS.nil
  exact zS.nil
 exact zS.nil
end Go.Proofs.Ytojclalkfhoooaa
