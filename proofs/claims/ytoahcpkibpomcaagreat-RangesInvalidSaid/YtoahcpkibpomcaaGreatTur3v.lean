/- Part of a proof. -/
import Derived.Test.YtoahcpkibpomcaaGreatGRDefs2v
set_option linter.all false
set_option maxHeartbeats 2000000
set_option maxRecDepth 100000
namespace Go.Proofs.YtoahcpkibpomcaaGreat
open Go.RowKit
theorem turned_b {w:World}{V:PV}{p:IProg}(hp:ProgIn w w.heap.size V p)(hs:SmallP p){q0 q1 q2:Int}(hq:I64 q0/\I64 q1/\I64 q2)(hw:l6 q0=16∨l6 q0=17):
 G 13 #[yH V p,.agg #[I q0,I q1,I q2]] w (pd w (wR p q0 q1 q2)):=by
 obtain⟨fa,fc,d0,i0,h8⟩:=hp.funcs.form;obtain⟨aa,ac,d5,i7,i6⟩:=hp.args.form;obtain⟨da,dc,d3,i3,i2⟩:=hp.data.form;obtain⟨ba,bc,d4,i5,i4⟩:=hp.banks.form;obtain⟨p1,h5⟩:∃p1,w.heap.size=p1:=⟨_,rfl⟩
 have c5:∀W,O w W->G 18 #[.agg (R p fa fc aa ac da dc ba bc)] W _:=fun W hb=>by
  have h:=uJ ((hp.below hb).mono hb.size) hs;unfold yH at h;rw[d0,d5,d3,d4] at h;exact h
 unfold yH;rw[d0,d5,d3,d4];obtain⟨n,hn⟩:∃n,uS q2=n:=⟨_,rfl⟩
 have h6:q2%65536=(n:Int):=by rw[<-hn];unfold uS;omega
 have j3:n<65536:=Zo;obtain⟨what,e5⟩:∃k,l6 q0=k:=⟨_,rfl⟩
 have j2:-20<q0.tmod 20/\q0.tmod 20<20:=⟨by have:=Qu q0 (show(0:Int)<20 by decide);omega,Qv q0 Zd⟩
 have b5:(q0.tmod 20+20)%20=(what:Int):=by
  rw[<-e5];unfold l6;have h1:=Ob q0 (show(20:Int)≠0 by decide);rw[Oa h1];have h2:=Qs q0 20;omega
 have a65:=yt q2;rw[h6] at a65;have a65b:=yt q1;have k1:=hs.fn.1;have e8:O w (((w.alloc (T (R p fa fc aa ac da dc ba bc) 29)).alloc (T #[I q0,I q1,I q2] 23)).alloc (T #[L,L,I 0,I 0,L,L] 29)):=(((Below.refl _ _).alloc (Je _) _).alloc Zs _).alloc Zt _;have e4:=Ja c5;have g6:=Ja e8;have HP:=Ja (Jb hs (Jb hn e5));clear c5 e8 hp hs d0 d5 d3 d4 i0 h8 i7 i6 i3 i2 i5 i4 hn hq;obtain⟨wI,b9⟩:∃wI:Int,(what:Int)=wI:=⟨_,rfl⟩
 rw[b9] at b5;have b0:=Ja (Jb b9 hw);clear b9 hw;go_enter Tryz.func13,Tryz.ntmps13;go_upto_region 2 with(go_at_call 18;go_must (refine(e4.out _ g6.out).mono ?_;rintro e w2 ⟨t,a3,a2,aa2,ac2,j,g,ba2,bc2,rfl,hV,ht,hr,hb⟩;have HT:=Ja (Jb hV (Jb ht (Jb hr hb)));clear hV ht hr hb))
 have a7:t.entry=p.entry/\t.handler=p.handler:=by rw[<-HT.out.2.1];exact⟨rfl,rfl⟩
 have a6:(zW t).toArray=R p a3 a2 aa2 ac2 j g ba2 bc2:=by
  unfold zW;rw[HT.out.1.1,HT.out.1.2.1,HT.out.1.2.2.1,HT.out.1.2.2.2,a7.1,a7.2]
 obtain⟨o5,c7⟩:∃o5,w2.heap.size=o5:=⟨_,rfl⟩
 have hm:TuMid w p1 o5 q0 q1 q2 t (w2.alloc (T (zW t).toArray 29)):=TuMid.start h5 c7 HT.out.2.2.1 HT.out.2.2.2;rw[a6] at hm;generalize i9:w2.alloc (T (R p a3 a2 aa2 ac2 j g ba2 bc2) 29)=W3 at *;clear i9;rw[c7];clear c7;have ho:=hm.ho;rw[a6] at ho;have g1:=zA (i:=0) hm.hq rfl;have g0:=zA (i:=1) hm.hq rfl;have f9:=zA (i:=2) hm.hq rfl;have g5:=zA (i:=0) ho rfl;have g4:=zA (i:=1) ho rfl;have e1:=zA (i:=4) ho rfl;have d7:=zA (i:=5) ho rfl;have of:∀i,N W3 o5 i:=fun i=>zE ho
 have g3:=zA (i:=2) ho rfl;have g2:=zA (i:=3) ho rfl;have ol:=lt_of_block ho;have HM:=Ja (Jb hm (Jb ho (Jb a6 a7)));have HV:=Ja HT.out.1;have b8:=Ja HT.out.2.1;clear hm ho a6 a7 HT e4 g6;obtain⟨f,hf⟩:∃f,uk p q1=f:=⟨_,rfl⟩
 have HF:=Ja hf;clear hf
 go_upto_if 23 with fail
 go_cut [7,8] (fun s7 s8 wx=>s7=I wI/\s8=I f/\W3=wx)
 case first=>
  have hf:=HF.out;unfold uk at hf
  by_cases b6:0<p.funcs.length
  ·rw[if_pos b6] at hf;have g8:(0:Int)<(p.funcs.length:Int):=Zo
   have i1:(q1%65536)%(p.funcs.length:Int)=(f:Int):=by
    rw[<-hf,Ou,Oa (Ob _ Zd)]
   have h0:0<=q1%65536:=Ob _ Zd;clear hf b6;go_wp2;go_meet;exact⟨by first|rfl|rw[b5],by first|rfl|rw[i1],rfl⟩
  ·rw[if_neg b6] at hf;have g8:¬(0:Int)<(p.funcs.length:Int):=Zo;subst hf;clear b6;go_wp2;go_meet;exact⟨by first|rfl|rw[b5],rfl,rfl⟩
 case rest=>
 obtain⟨rfl,rfl,rfl⟩:=hcut;clear b5;rcases b0.out.2 with hw|hw
 ·have c2:=HP.out.2.2.symm.trans hw;subst c2;obtain rfl:wI=16:=b0.out.1.symm;clear b0;have h7:=HM.out.1.ge;have h4:=HP.out.1.da;have a0:t.data=p.data:=by rw[<-b8.out];rfl
  have y:W3.ownsRow (p1+1+1+1) 89 3 (.slice j p.data.length g) (p.data.length) (p.data.flatMap xP):=by
   have h1:=HM.out.1.rows.own (vK t.dv t.data) (row_data t).1;have e:=HV.out.2.2.1;rw[e] at h1;have h2:W3.ownsRow (p1+1+1+1) 89 3 (.slice j p.data.length g) (t.data.length) _:=h1;rw[a0] at h2;exact h2
  have a8:(Value.slice j p.data.length g).ownBlock≠some o5:=zC y HM.out.2.1 (.inr Zd);have HR:=Ja (Jb y (Jb a8 a0));obtain⟨ii,c9,b4,b3,b2⟩:=info_parts Tryz.info_obj;clear y a8 a0;obtain⟨r,hr⟩:∃r,n/4%4=r:=⟨_,rfl⟩
  obtain⟨sz,c3⟩:∃s,n/16%4=s:=⟨_,rfl⟩
  obtain⟨ad,b7⟩:∃a,lY r=a:=⟨_,rfl⟩
  have e6:r<4:=Zo
  have j0:∀w,(Instr.index 87 (.agg #[I 16392,I 24575,I 512,I 16896]) (I r)).run Tryz.prog w=.ok (I ad) w:=fun w=>by
   rw[<-b7];exact turn_idx r e6 w
  have j1:ad<65536:=by rw[<-b7];unfold lY;split<;>(try split)<;>(try split)<;>omega
  have f1:(n:Int).tmod 4=(n:Int)%4:=Qc Zo;have f2:IntKind.i64.wrap ((n:Int)%4-2)=(n:Int)%4-2:=Om _ Zo;have f3:IntKind.i64.wrap ((n:Int)/4)=(n:Int)/4:=Om _ Zo;have f4:((n:Int)/4).tmod 4=(r:Int):=by rw[Qc Zo,<-hr];simp
  have f5:IntKind.i64.wrap ((n:Int)/16)=(n:Int)/16:=Om _ Zo;have f6:((n:Int)/16).tmod 4=(sz:Int):=by rw[Qc Zo,<-c3];simp
  have f7:IntKind.u16.wrap (ad:Int)=(ad:Int):=by rw[IntKind.wrap_u16];omega
  have f8:IntKind.u16.wrap (sz:Int)=(sz:Int):=by rw[IntKind.wrap_u16];omega
  have q:=Ja (show((W3.alloc (T #[I ((n:Int)%4-2),U ad,U sz] 89)).drew).ownsRow (p1+1+1+1) 89 3 (.slice j p.data.length g) p.data.length (p.data.flatMap xP)/\yM ((W3.alloc (T #[I ((n:Int)%4-2),U ad,U sz] 89)).drew) 3 (F W3.heap.size 1 1) 1 [I ((n:Int)%4-2),U ad,U sz]/\Q ((W3.alloc (T #[I ((n:Int)%4-2),U ad,U sz] 89)).drew) o5 (R p a3 a2 aa2 ac2 j g ba2 bc2) 29 from⟨HR.out.1.alloc _,yM.cells (w:=(W3.alloc (T #[I ((n:Int)%4-2),U ad,U sz] 89)).drew) (zI (W:=W3) rfl) rfl (by simp[Value.oneCell']),zB HM.out.2.1⟩);have HI:=Ja (Jb hr (Jb c3 b7));clear hr c3 b7 e6;go_upto_region 18 with fail;refine wp_region_noPanic ?_;refine yQ (S:=(fun w'=>A w' o5 4 (.slice j p.data.length g))) 19 Zk e1 (fun hHeld=>?_);refine Tl 0 ?_
  try simp only[Yp]
  refine Tl 1 ?_
  try simp only[Yp]
  refine Tl 2 ?_
  try simp only[Yp]
  refine Tl 3 ?_
  try simp only[Yp]
  refine Tl 4 ?_
  try simp only[Yp]
  refine Tl 5 ?_
  try simp only[Yp]
  refine Tl 6 ?_
  try simp only[Yp]
  refine Tl 7 ?_
  try simp only[Yp]
  refine Tl 8 ?_
  try simp only[Yp]
  refine Tl 9 ?_
  try simp only[Yp]
  refine Tl 10 ?_
  try simp only[Yp]
  refine Tl 11 ?_
  try simp only[Yp]
  refine Tl 12 ?_
  try simp only[Yp]
  refine Tl 13 ?_
  try simp only[Yp]
  refine Tl 14 ?_
  try simp only[Yp]
  refine Tl 15 ?_
  try simp only[Yp]
  refine z8 (rs:=[16]) Zk Zs ?_;refine zS.cons (o:=_) rfl (fun K hK=>?_) ?_
  ·skip
   go_simp;refine hK.out _ _ (zA (i:=4) q.out.2.2 rfl) (fun hHeld=>?_);clear hK K
   try simp only[Yp]
   refine z8 (rs:=[17]) Zk Zs ?_;refine zS.cons (o:=_) rfl (fun K hK=>?_) ?_
   ·skip
    (refine yG (by rfl) (.tmp 93) (.tmp 108) _ (by rfl) (p1+1+1+1) 89 ii (.agg #[I 0,U 0,U 0]) 3 16 Tryz.underlying26 c9 b4 b3 b2 rfl Zo (.slice j p.data.length g) (p.data.length) (p.data.flatMap xP) (by rfl) q.out.1 (F W3.heap.size 1 1) 1 [I ((n:Int)%4-2),U ad,U sz] (by rfl) q.out.2.1 (by unfold maxLen;omega) Zo Zt ?_;intro ra rc w9 a1 d a5;have a4:=zL d q.out.2.2 HR.out.2.1;have d1:=zA (i:=4) a4 rfl;have df:N w9 o5 4:=zE a4;have dl:=lt_of_block a4;have HG:=Ja (Jb a1 (Jb d a5));clear a1 d a5;(try dsimp only))
    refine hK.out _ _ d1 (fun hHeld=>?_);clear hK K
    try simp only[Yp]
    refine Tl 18 ?_
    try simp only[Yp]
    refine z8 (rs:=[19]) Zk Zs ?_;refine zS.last (o:=_) rfl (fun K hK=>?_);go_simp;refine hK.out _ _ ?_;clear hK K
    try simp only[Yp]
    refine xj Zk (NoPanic.normal ?_) _;go_upto_region 24 with fail
    have c:=(by
     have a9:=HG.out.2.1;have e9:=HV.out.2.2.1;rw[<-e9] at a9;refine HM.out.1.grow (r:=vK t.dv t.data) (r':=vK (.slice ra (p.data.length+1) rc) (t.data++ [(⟨(n:Int)%4-2,ad,sz⟩:IObj)])) (rs:=sC t) (i:=4) (u:=.slice ra (p.data.length+1) rc) (t':= {t with data:=t.data++ [(⟨(n:Int)%4-2,ad,sz⟩:IObj)],dv:=.slice ra (p.data.length+1) rc }) (abI t).2 (((Below.refl W3.heap.size W3).alloc (Je _) (T #[I ((n:Int)%4-2),U ad,U sz] 89)).drew) a9 ?_ (fun x e=>?_) ?_ ?_
     ·show w9.ownsRow (p1+1+1+1) 89 3 _ (t.data++ [(⟨(n:Int)%4-2,ad,sz⟩:IObj)]).length _
      rw[Jk,Ju,HR.out.2.2];have h9:=HG.out.1
      show w9.ownsRow _ _ _ _ _ ((p.data++ [(⟨(n:Int)%4-2,ad,sz⟩:IObj)]).flatMap xP)
      rw[Nx];exact h9
     ·rcases HG.out.2.2 with e2|e2
      ·left;have e3:=e2.symm.trans e
       show t.dv.ownBlock=some x
       rw[e9];exact e3
      ·right;have e3:=e2.symm.trans e;simp at e3;omega
     ·exact(qS t _ _).symm
     ·rfl)
    generalize d6:w9.setCell ⟨o5,4,none⟩ (.slice ra (p.data.length+1) rc)=WF at *;have ho2:=c.ho
    have e0:(zW ({t with data:=t.data++ [(⟨(n:Int)%4-2,ad,sz⟩:IObj)],dv:=.slice ra (p.data.length+1) rc }:PT)).toArray=#[.slice a3 p.funcs.length a2,.slice aa2 p.args.length ac2,I p.entry,I p.handler,.slice ra (p.data.length+1) rc,.slice ba2 p.banks.length bc2]:=by
     unfold zW
     first|(simp only;done)|(simp only[HV.out.1,HV.out.2.1,HV.out.2.2.1,HV.out.2.2.2,HM.out.2.2.2.1,HM.out.2.2.2.2])
    rw[e0] at ho2;clear d6 g1 g0 f9 g5 g4 g3 g2 e1 d7 of ol;have x0:=zA (i:=0) ho2 rfl;have x1:=zA (i:=1) ho2 rfl;have x2:=zA (i:=2) ho2 rfl;have x3:=zA (i:=3) ho2 rfl;have x4:=zA (i:=4) ho2 rfl;have x5:=zA (i:=5) ho2 rfl;have xl:=lt_of_block ho2;have y0:=zA (i:=0) c.hr rfl;have y1:=zA (i:=1) c.hr rfl;have y2:=zA (i:=2) c.hr rfl;have y3:=zA (i:=3) c.hr rfl;have y4:=zA (i:=4) c.hr rfl;have y5:=zA (i:=5) c.hr rfl;have yf:∀i,N WF (p1+1+1) i:=fun i=>zE c.hr
    have yl:=lt_of_block c.hr;have b1:=Ja (Jb c e0);clear c ho2 e0;go_wp2;refine bodyPost_ret (v:=.agg #[.slice a3 p.funcs.length a2,.slice aa2 p.args.length ac2,I p.entry,I p.handler,.slice ra (p.data.length+1) rc,.slice ba2 p.banks.length bc2]) ?_ rfl (b1.out.1.ret b1.out.2 ?_)
    ·rw[zM rfl];go_simp
    ·have c0:=HP.out.2.2;have c8:=HP.out.2.1;have d2:=HF.out;have c4:=b8.out;unfold wR rA;rw[c8,d2,show l6 q0=16 from c0];rw[<-c4];simp only[HI.out.1,HI.out.2.1,HI.out.2.2];rfl
   exact zS.nil
  exact zS.nil
 ·have c2:=HP.out.2.2.symm.trans hw;subst c2;obtain rfl:wI=17:=b0.out.1.symm;clear b0;have h7:=HM.out.1.ge;have h4:=HP.out.1.ba;have a0:t.banks=p.banks:=by rw[<-b8.out];rfl
  have y:W3.ownsRow (p1+1+1+1) 9 1 (.slice ba2 p.banks.length bc2) (p.banks.length) (p.banks.map .string):=by
   have h1:=HM.out.1.rows.own (v8 t.bv t.banks) (jI t).1;have e:=HV.out.2.2.2;rw[e] at h1;have h2:W3.ownsRow (p1+1+1+1) 9 1 (.slice ba2 p.banks.length bc2) (t.banks.length) _:=h1;rw[a0] at h2;exact h2
  have a8:(Value.slice ba2 p.banks.length bc2).ownBlock≠some o5:=zC y HM.out.2.1 (.inr Zd);have HR:=Ja (Jb y (Jb a8 a0));obtain⟨ii,c9,b4,b3,b2⟩:=info_parts Tryz.info_str;clear y a8 a0;obtain⟨m,e7⟩:∃m,4096-n%3/2=m:=⟨_,rfl⟩
  have f1:(n:Int).tmod 3=(n:Int)%3:=Qc Zo;have f0:((n:Int)%3).tdiv 2=(n:Int)%3/2:=Int.tdiv_eq_ediv_of_nonneg Zo;have f2:IntKind.i64.wrap ((n:Int)%3/2)=(n:Int)%3/2:=Om _ Zo;have f3:IntKind.i64.wrap (4096-(n:Int)%3/2)=(m:Int):=by rw[Om _ Zo];omega
  have j4:m<=4096:=Zo;have k0:(0:Int)<=(m:Int):=Zo;have j5:=run_make_row' (P:=Tryz.prog) 49 5 (.int .u8 0) 1 Tryz.underlying49 Tryz.info_u8 rfl .i64 .i64 m Zo Zo
  have k2:(convert 49 9 (F W3.heap.size m m)).run Tryz.prog (W3.alloc (T (madeCells #[.int .u8 0] m) 5)).drew=.ok (.string (xV m)) (W3.alloc (T (madeCells #[.int .u8 0] m) 5)).drew:=pN (w:=(W3.alloc (T (madeCells #[.int .u8 0] m) 5)).drew) (l:=List.replicate m 0) (by
   have e:=zI (W:=W3) (o:=T (madeCells #[.int .u8 0] m) 5) rfl;rw[yA] at e;rw[List.map_replicate];rw[yA]
   exact e) Zs
  have q:=Ja (show(((W3.alloc (T (madeCells #[.int .u8 0] m) 5)).alloc (T #[.string (xV m)] 9)).drew).ownsRow (p1+1+1+1) 9 1 (.slice ba2 p.banks.length bc2) p.banks.length (p.banks.map .string)/\yM (((W3.alloc (T (madeCells #[.int .u8 0] m) 5)).alloc (T #[.string (xV m)] 9)).drew) 1 (F (W3.heap.size+1) 1 1) 1 [.string (xV m)]/\Q (((W3.alloc (T (madeCells #[.int .u8 0] m) 5)).alloc (T #[.string (xV m)] 9)).drew) o5 (R p a3 a2 aa2 ac2 j g ba2 bc2) 29/\(W3.alloc (T (madeCells #[.int .u8 0] m) 5)).drew.heap[o5]? =some (T (R p a3 a2 aa2 ac2 j g ba2 bc2) 29) from⟨(HR.out.1.alloc _).alloc _,yM.one (w:=((W3.alloc (T (madeCells #[.int .u8 0] m) 5)).alloc (T #[.string (xV m)] 9)).drew) (zI (W:=W3.alloc (T (madeCells #[.int .u8 0] m) 5)) Zs) rfl,zB (zB HM.out.2.1),zB HM.out.2.1⟩);have HI:=Ja e7;clear e7;go_upto_region 20 with fail;refine wp_region_noPanic ?_;refine yQ (S:=(fun w'=>A w' o5 5 (.slice ba2 p.banks.length bc2))) 11 Zk d7 (fun hHeld=>?_);refine Tl 0 ?_
  try simp only[Yp]
  refine Tl 1 ?_
  try simp only[Yp]
  refine Tl 2 ?_
  try simp only[Yp]
  refine Tl 3 ?_
  try simp only[Yp]
  refine Tl 4 ?_
  try simp only[Yp]
  refine Tl 5 ?_
  try simp only[Yp]
  refine z8 (rs:=[6]) Zk Zs ?_;refine zS.cons (o:=_) rfl (fun K hK=>?_) ?_
  ·skip
   go_simp;refine hK.out _ _ (zA (i:=5) q.out.2.2.2 rfl) (fun hHeld=>?_);clear hK K
   try simp only[Yp]
   refine z8 (rs:=[7]) Zk Zs ?_;refine zS.cons (o:=_) rfl (fun K hK=>?_) ?_
   ·skip
    go_simp;refine hK.out _ _ Zz (fun hHeld=>?_);clear hK K
    try simp only[Yp]
    refine z8 (rs:=[8]) Zk Zs ?_;refine zS.cons (o:=_) rfl (fun K hK=>?_) ?_
    ·skip
     go_simp;refine hK.out _ _ (zA (i:=5) q.out.2.2.1 rfl) (fun hHeld=>?_);clear hK K
     try simp only[Yp]
     refine z8 (rs:=[9]) Zk Zs ?_;refine zS.cons (o:=_) rfl (fun K hK=>?_) ?_
     ·skip
      (refine yG (by rfl) (.tmp 114) (.tmp 121) _ (by rfl) (p1+1+1+1) 9 ii (.string ⟨#[]⟩) 1 16 Tryz.underlying27 c9 b4 b3 b2 rfl Zo (.slice ba2 p.banks.length bc2) (p.banks.length) (p.banks.map .string) (by rfl) q.out.1 (F (W3.heap.size+1) 1 1) 1 [.string (xV m)] (by rfl) q.out.2.1 (by unfold maxLen;omega) Zo Zt ?_;intro ra rc w9 a1 d a5;have a4:=zL d q.out.2.2.1 HR.out.2.1;have d1:=zA (i:=5) a4 rfl;have df:N w9 o5 5:=zE a4;have dl:=lt_of_block a4;have HG:=Ja (Jb a1 (Jb d a5));clear a1 d a5;(try dsimp only))
      refine hK.out _ _ d1 (fun hHeld=>?_);clear hK K
      try simp only[Yp]
      refine Tl 10 ?_
      try simp only[Yp]
      refine z8 (rs:=[11]) Zk Zs ?_;refine zS.last (o:=_) rfl (fun K hK=>?_);go_simp;refine hK.out _ _ ?_;clear hK K
      try simp only[Yp]
      refine xj Zk (NoPanic.normal ?_) _;go_upto_region 24 with fail
      have c:=(by
       have a9:=HG.out.2.1;have e9:=HV.out.2.2.2;rw[<-e9] at a9;refine HM.out.1.grow (r:=v8 t.bv t.banks) (r':=v8 (.slice ra (p.banks.length+1) rc) (t.banks++ [(xV m)])) (rs:=uy t) (i:=5) (u:=.slice ra (p.banks.length+1) rc) (t':= {t with banks:=t.banks++ [(xV m)],bv:=.slice ra (p.banks.length+1) rc }) (tL t).2 ((((Below.refl W3.heap.size W3).alloc (Je _) (T (madeCells #[.int .u8 0] m) 5)).alloc Zs (T #[.string (xV m)] 9)).drew) a9 ?_ (fun x e=>?_) ?_ ?_
       ·show w9.ownsRow (p1+1+1+1) 9 1 _ (t.banks++ [(xV m)]).length _
        rw[Jk,Ju,HR.out.2.2];have h9:=HG.out.1
        show w9.ownsRow _ _ _ _ _ ((p.banks++ [(xV m)]).map .string)
        rw[Js];exact h9
       ·rcases HG.out.2.2 with e2|e2
        ·left;have e3:=e2.symm.trans e
         show t.bv.ownBlock=some x
         rw[e9];exact e3
        ·right;have e3:=e2.symm.trans e;simp at e3;omega
       ·exact(qE t _ _).symm
       ·rfl)
      generalize d6:w9.setCell ⟨o5,5,none⟩ (.slice ra (p.banks.length+1) rc)=WF at *;have ho2:=c.ho
      have e0:(zW ({t with banks:=t.banks++ [(xV m)],bv:=.slice ra (p.banks.length+1) rc }:PT)).toArray=#[.slice a3 p.funcs.length a2,.slice aa2 p.args.length ac2,I p.entry,I p.handler,.slice j p.data.length g,.slice ra (p.banks.length+1) rc]:=by
       unfold zW
       first|(simp only;done)|(simp only[HV.out.1,HV.out.2.1,HV.out.2.2.1,HV.out.2.2.2,HM.out.2.2.2.1,HM.out.2.2.2.2])
      rw[e0] at ho2;clear d6 g1 g0 f9 g5 g4 g3 g2 e1 d7 of ol;have x0:=zA (i:=0) ho2 rfl;have x1:=zA (i:=1) ho2 rfl;have x2:=zA (i:=2) ho2 rfl;have x3:=zA (i:=3) ho2 rfl;have x4:=zA (i:=4) ho2 rfl;have x5:=zA (i:=5) ho2 rfl;have xl:=lt_of_block ho2;have y0:=zA (i:=0) c.hr rfl;have y1:=zA (i:=1) c.hr rfl;have y2:=zA (i:=2) c.hr rfl;have y3:=zA (i:=3) c.hr rfl;have y4:=zA (i:=4) c.hr rfl;have y5:=zA (i:=5) c.hr rfl;have yf:∀i,N WF (p1+1+1) i:=fun i=>zE c.hr
      have yl:=lt_of_block c.hr;have b1:=Ja (Jb c e0);clear c ho2 e0;go_wp2;refine bodyPost_ret (v:=.agg #[.slice a3 p.funcs.length a2,.slice aa2 p.args.length ac2,I p.entry,I p.handler,.slice j p.data.length g,.slice ra (p.banks.length+1) rc]) ?_ rfl (b1.out.1.ret b1.out.2 ?_)
      ·rw[zM rfl];go_simp
      ·have c0:=HP.out.2.2;have c8:=HP.out.2.1;have d2:=HF.out;have c4:=b8.out;unfold wR rA;rw[c8,d2,show l6 q0=17 from c0];rw[<-c4];simp only[HI.out];rfl
     exact zS.nil
    exact zS.nil
   exact zS.nil
  exact zS.nil
end Go.Proofs.YtoahcpkibpomcaaGreat
