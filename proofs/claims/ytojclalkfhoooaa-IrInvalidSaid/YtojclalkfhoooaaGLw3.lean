/- Part of a proof. -/
import Derived.Test.YtojclalkfhoooaaGLift9
import Derived.Test.YtojclalkfhoooaaGLift9v2
import Derived.Test.YtojclalkfhoooaaTur3
set_option linter.all false
set_option maxHeartbeats 2000000
set_option maxRecDepth 100000
namespace Go.Proofs.Ytojclalkfhoooaa
open Go.RowKit
variable {w:World}{what:Nat}{o:IOp}{q0 q1 q2:Int}
theorem vF{α:Type}{sz:Nat}{R:World->Nat->Nat->Nat->α->Prop}{B:Nat}{v:Value}{xs:List α}(h:yN sz R w B v xs){x:α}(c:x∈xs):∃b o,R w B b o x:=by
 obtain⟨k,hk⟩:=Ny c;obtain⟨a,cap,rfl,_,_,h3⟩:=h;obtain⟨b,o,_,_,hr⟩:=h3 k x hk;exact⟨b,_,hr⟩
theorem rI{B:Nat}{v:Value}{xs:List Int}(h:zY w B v xs):∀x∈xs,I64 x:=fun x hx=>by
 obtain⟨b,o,hr⟩:=vF h hx;exact hr.2
theorem ProgIn.p64{B:Nat}{V:PV}{p:IProg}(h:ProgIn w B V p):P64 p:=by
 refine⟨fun f hf b hb=>?_,rI h.args,fun o ho=>?_,fun s hs=>?_,h.ent,h.hnd⟩
 ·obtain⟨x,y,bv,_,d⟩:=vF h.funcs hf;obtain⟨x,y,_,_,h3,pv,ov,tv,_,_,_,j,i,g⟩:=vF d hb;refine⟨rI j,fun o ho=>?_,h3,fun e he=>?_⟩
  ·obtain⟨x,y,_,_,_,_,_,k,av,_,c⟩:=vF i ho;exact⟨k,rI c⟩
  ·obtain⟨x,y,_,h2,av,_,c⟩:=vF g he;exact⟨h2,rI c⟩
 ·obtain⟨x,y,_,_,_,l⟩:=vF h.data ho;exact l
 ·obtain⟨x,y,h1,h2⟩:=vF h.banks hs;exact h2
theorem tD (x:Int)(h1:-1000000<=x)(h2:x<=1000000):I64 x:=⟨by omega,by omega⟩
theorem spO_sm{N n:Nat}(h:o.args.length<=N):(spO what n o).args.length<=N+1:=by
 unfold spO
 split<;>first|(show o.args.length<=_;omega)|(show(o.args++ [_]).length<=_;rw[Jk];show _+1<=_;omega)
theorem spoil_sm{N n:Nat}{b:IBlk}(h:SmB N b):SmB (N+1) (xh what n b):=by
 have hm:=h.mono (Nat.le_succ N);unfold xh
 split
 ·split
  ·exact hm
  split
  ·split
   ·rename_i x y d c
    refine⟨hm.par,by show((b.ops.set _ _).set _ _).length<=_;rw[Nd,Nd];exact hm.ops,hm.tos,fun o ho=>?_,hm.earg⟩;rcases Qe ho with ho|rfl
    ·rcases Qe ho with ho|rfl
     ·exact hm.oarg o ho
     ·exact hm.oarg _ (Ji c)
    ·exact hm.oarg _ (Ji d)
   ·exact hm
  split
  ·exact⟨hm.par,by show(b.ops.take _).length<=_;rw[Oc];have:=hm.ops;omega,hm.tos,fun o ho=>hm.oarg o (List.mem_of_mem_take ho),hm.earg⟩
  ·exact⟨hm.par,by show(wD b.ops _ _).length<=_;rw[xZ];exact hm.ops,hm.tos,yb hm.oarg (fun o ho=>spO_sm (h.oarg o ho)),hm.earg⟩
 split
 ·exact⟨by show(b.params++ [_]).length<=_;rw[Jk];have:=h.par;show _+1<=_;omega,hm.ops,hm.tos,hm.oarg,hm.earg⟩
 split
 ·exact⟨hm.par,hm.ops,hm.tos,hm.oarg,hm.earg⟩
 split
 ·exact⟨hm.par,hm.ops,hm.tos,hm.oarg,hm.earg⟩
 split
 ·exact⟨hm.par,hm.ops,by show(wD b.term.to _ _).length<=_;rw[xZ];exact hm.tos,hm.oarg,yb (P:=fun e:IEdge=>e.args.length<=N+1) hm.earg (fun e he=>hm.earg e he)⟩
 split
 ·exact⟨hm.par,hm.ops,by show(wD b.term.to _ _).length<=_;rw[xZ];exact hm.tos,hm.oarg,yb (P:=fun e:IEdge=>e.args.length<=N+1) hm.earg (fun e he=>by
   show(e.args++ [_]).length<=_
   rw[Jk];have:=h.earg e he
   show _+1<=_
   omega)⟩
 ·exact hm
theorem acA {N:Nat}{p:IProg}(h:SmP N p)(q0 q1 q2:Int):SmP (N+1) (wR p q0 q1 q2):=by
 have hm:=h.mono (Nat.le_succ N);unfold wR rA
 split
 ·exact⟨hm.fn,hm.fs,by show(p.args++ [_]).length<=_;rw[Jk];have:=h.ar;show _+1<=_;omega,hm.da,hm.ba⟩
 split
 ·exact⟨hm.fn,hm.fs,hm.ar,hm.da,hm.ba⟩
 split
 ·exact⟨hm.fn,hm.fs,hm.ar,hm.da,hm.ba⟩
 split
 ·exact⟨hm.fn,hm.fs,hm.ar,by show(p.data++ [_]).length<=_;rw[Jk];have:=h.da;show _+1<=_;omega,hm.ba⟩
 split
 ·exact⟨hm.fn,hm.fs,hm.ar,hm.da,by show(p.banks++ [_]).length<=_;rw[Jk];have:=h.ba;show _+1<=_;omega⟩
 split
 ·refine⟨by show(wD p.funcs _ _).length<=_;rw[xZ];exact hm.fn,yb hm.fs (fun f hf=>?_),hm.ar,hm.da,hm.ba⟩
  split
  ·exact hm.fs f hf
  ·refine⟨by rw[Jk];have:=(h.fs f hf).1;show _+1<=_;omega,fun b hb=>?_⟩;rcases Jl.1 hb with hb|hb
   ·exact(hm.fs f hf).2 b hb
   ·rw[Jo] at hb;subst hb;exact⟨Jt _,Jt _,Jt _,(fun o ho=>by cases ho),(fun e he=>by cases he)⟩
 ·refine⟨by show(wD p.funcs _ _).length<=_;rw[xZ];exact hm.fn,yb hm.fs (fun f hf=>?_),hm.ar,hm.da,hm.ba⟩;unfold lW;exact⟨by rw[xZ];exact(hm.fs f hf).1,yb (hm.fs f hf).2 (fun b hb=>spoil_sm ((h.fs f hf).2 b hb))⟩
theorem spO_64{n:Nat}(j:n<65536)(h:qN o/\∀x∈o.args,I64 x):qN (spO what n o)/\∀x∈(spO what n o).args,I64 x:=by
 obtain⟨⟨h1,h2,h3,i,g⟩,c⟩:=h;unfold spO
 split
 ·exact⟨⟨(show I64 ((n:Int)/7%30) from tD _ Zo Zo),h2,h3,i,g⟩,c⟩
 ·exact⟨⟨h1,(show I64 ((n:Int)/7%40-2) from tD _ Zo Zo),h3,i,g⟩,c⟩
 ·exact⟨⟨h1,h2,(show I64 ((n:Int)/7%40-2) from tD _ Zo Zo),i,g⟩,c⟩
 ·exact⟨⟨h1,h2,h3,(show I64 ((n:Int)/7%40) from tD _ Zo Zo),g⟩,c⟩
 ·exact⟨⟨h1,h2,h3,i,by show n/7%300<65536;omega⟩,c⟩
 ·refine⟨⟨h1,h2,h3,i,g⟩,fun x d=>?_⟩;rcases Jl.1 d with d|d
  ·exact c x d
  ·rw[Jo] at d;subst d;exact tD _ Zo Zo
 ·exact⟨⟨h1,h2,h3,i,g⟩,c⟩
theorem spoil_64{n:Nat}(g:n<65536){b:IBlk}(h:B64 b):B64 (xh what n b):=by
 unfold xh
 split
 ·split
  ·exact h
  split
  ·split
   ·rename_i x y c d
    refine⟨h.par,fun o ho=>?_,h.term,h.tos⟩;rcases Qe ho with ho|rfl
    ·rcases Qe ho with ho|rfl
     ·exact h.ops o ho
     ·exact h.ops _ (Ji d)
    ·exact h.ops _ (Ji c)
   ·exact h
  split
  ·exact⟨h.par,fun o ho=>h.ops o (List.mem_of_mem_take ho),h.term,h.tos⟩
  ·exact⟨h.par,yb h.ops (fun o ho=>spO_64 g (h.ops o ho)),h.term,h.tos⟩
 split
 ·refine⟨fun x c=>?_,h.ops,h.term,h.tos⟩;rcases Jl.1 c with c|c
  ·exact h.par x c
  ·rw[Jo] at c;subst c;exact tD _ Zo Zo
 split
 ·exact⟨h.par,h.ops,⟨tD _ (by show -1000000<=(n:Int)%7;omega) (by show(n:Int)%7<=1000000;omega),h.term.2⟩,h.tos⟩
 split
 ·exact⟨h.par,h.ops,⟨h.term.1,tD _ (by show -1000000<=(n:Int)%40-2;omega) (by show(n:Int)%40-2<=1000000;omega)⟩,h.tos⟩
 split
 ·exact⟨h.par,h.ops,h.term,yb (P:=fun e:IEdge=>I64 e.block/\∀x∈e.args,I64 x) h.tos (fun e he=>⟨tD _ (by show -1000000<=(n:Int)%9-1;omega) (by show(n:Int)%9-1<=1000000;omega),(h.tos e he).2⟩)⟩
 split
 ·exact⟨h.par,h.ops,h.term,yb (P:=fun e:IEdge=>I64 e.block/\∀x∈e.args,I64 x) h.tos (fun e he=>⟨(h.tos e he).1,fun x c=>by
   rcases Jl.1 c with c|c
   ·exact(h.tos e he).2 x c
   ·rw[Jo] at c;subst c;exact tD _ Zo Zo⟩)⟩
 ·exact h
theorem turn_64 {p:IProg}(h:P64 p)(q0 q1 q2:Int):P64 (wR p q0 q1 q2):=by
 have d:=turnN_lt q2;unfold wR rA;generalize uS q2=n at *
 split
 ·refine⟨h.funcs,fun x c=>?_,h.data,h.banks,h.ent,h.hnd⟩;rcases Jl.1 c with c|c
  ·exact h.args x c
  ·rw[Jo] at c;subst c;exact tD _ Zo Zo
 split
 ·exact⟨h.funcs,h.args,h.data,h.banks,tD _ (by show -1000000<=(n:Int)%7-1;omega) (by show(n:Int)%7-1<=1000000;omega),h.hnd⟩
 split
 ·exact⟨h.funcs,h.args,h.data,h.banks,h.ent,tD _ (by show -1000000<=(n:Int)%7-2;omega) (by show(n:Int)%7-2<=1000000;omega)⟩
 split
 ·refine⟨h.funcs,h.args,fun x c=>?_,h.banks,h.ent,h.hnd⟩;rcases Jl.1 c with c|c
  ·exact h.data x c
  ·rw[Jo] at c;subst c;refine⟨tD _ (by show -1000000<=(n:Int)%4-2;omega) (by show(n:Int)%4-2<=1000000;omega),?_,by show n/16%4<65536;omega⟩
   show lY _<65536
   unfold lY
   split<;>(try split)<;>(try split)<;>omega
 split
 ·refine⟨h.funcs,h.args,h.data,fun x c=>?_,h.ent,h.hnd⟩;rcases Jl.1 c with c|c
  ·exact h.banks x c
  ·rw[Jo] at c;subst c
   have:(xV (4096-n%3/2)).size<=4096:=by
    unfold xV y9;rw[strOfNums_size];simp<;>omega
   omega
 split
 ·refine⟨yb h.funcs (fun f hf=>?_),h.args,h.data,h.banks,h.ent,h.hnd⟩
  split
  ·exact h.funcs f hf
  ·intro b hb;rcases Jl.1 hb with hb|hb
   ·exact h.funcs f hf b hb
   ·rw[Jo] at hb;subst hb;exact⟨(fun x c=>by cases c),(fun o ho=>by cases ho),⟨tD _ Zd Zd,tD _ Zd Zd⟩,(fun e he=>by cases he)⟩
 ·refine⟨yb h.funcs (fun f hf=>?_),h.args,h.data,h.banks,h.ent,h.hnd⟩;unfold lW;exact yb (h.funcs f hf) (fun b hb=>spoil_64 d (h.funcs f hf b hb))
theorem jO{V:PV}{p:IProg}(hp:ProgIn w w.heap.size V p)(hs:SmallP p)(hq:I64 q0/\I64 q1/\I64 q2)(hw:yn q0=13):
 Y 19 #[yH V p,.agg #[A q0,A q1,A q2]] w (pd w (wR p q0 q1 q2)):=by
 obtain⟨fa,fc,b1,e4,e1⟩:=hp.funcs.form;obtain⟨aa,ac,b4,f3,f2⟩:=hp.args.form;obtain⟨da,dc,b2,e8,e7⟩:=hp.data.form;obtain⟨ba,bc,b3,f1,f0⟩:=hp.banks.form;obtain⟨p1,d6⟩:∃p1,w.heap.size=p1:=⟨_,rfl⟩
 have a7:∀W,F w W->Y 36 #[.agg (R p fa fc aa ac da dc ba bc)] W _:=fun W hb=>by
  have h:=uJ ((hp.below hb).mono hb.size) hs;unfold yH at h;rw[b1,b4,b2,b3] at h;exact h
 unfold yH;rw[b1,b4,b2,b3];obtain⟨n,hn⟩:∃n,uS q2=n:=⟨_,rfl⟩
 have d7:q2%65536=(n:Int):=by rw[<-hn];unfold uS;omega
 have g9:n<65536:=Zo;obtain⟨what,b7⟩:∃k,yn q0=k:=⟨_,rfl⟩
 have g6:-20<q0.tmod 20/\q0.tmod 20<20:=⟨by have:=Qu q0 (show(0:Int)<20 by decide);omega,Qv q0 Zd⟩
 have b8:(q0.tmod 20+20)%20=(what:Int):=by
  rw[<-b7];unfold yn;have h1:=Ob q0 (show(20:Int)≠0 by decide);rw[Oa h1];have h2:=Qs q0 20;omega
 have a65:=yt q2;rw[d7] at a65;have a65b:=yt q1;have h5:=hs.fn.1;have c2:F w (((w.alloc (U (R p fa fc aa ac da dc ba bc) 29)).alloc (U #[A q0,A q1,A q2] 23)).alloc (U #[O,O,A 0,A 0,O,O] 29)):=(((Below.refl _ _).alloc (Je _) _).alloc Zs _).alloc Zt _;have b6:=Ja a7;have c5:=Ja c2;have HP:=Ja (Jb hs (Jb hn b7));clear a7 c2 hp hs b1 b4 b2 b3 e4 e1 f3 f2 e8 e7 f1 f0 hn hq;have d4:=HP.out.2.2.symm.trans hw;subst d4;have a6:(q0.tmod 20+20)%20=13:=b8;clear b8;go_enter Try.func19,Try.ntmps19;go_upto_region 2 with(go_at_call 36;go_must (refine(b6.out _ c5.out).mono ?_;rintro e w2 ⟨t,a3,a2,aa2,ac2,a5,a4,ba2,bc2,rfl,hV,ht,hr,hb⟩;have g:=Ja (Jb hV (Jb ht (Jb hr hb)));clear hV ht hr hb))
 have m:t.entry=p.entry/\t.handler=p.handler:=by rw[<-g.out.2.1];exact⟨rfl,rfl⟩
 have j:(zW t).toArray=R p a3 a2 aa2 ac2 a5 a4 ba2 bc2:=by
  unfold zW;rw[g.out.1.1,g.out.1.2.1,g.out.1.2.2.1,g.out.1.2.2.2,m.1,m.2]
 obtain⟨o5,b0⟩:∃o5,w2.heap.size=o5:=⟨_,rfl⟩
 have hm:TuMid w p1 o5 q0 q1 q2 t (w2.alloc (U (zW t).toArray 29)):=TuMid.start d6 b0 g.out.2.2.1 g.out.2.2.2;rw[j] at hm;generalize f5:w2.alloc (U (R p a3 a2 aa2 ac2 a5 a4 ba2 bc2) 29)=W3 at *;clear f5;rw[b0];clear b0;have ho:=hm.ho;rw[j] at ho;have f8:=zA (i:=0) hm.hq rfl;have f7:=zA (i:=1) hm.hq rfl;have f6:=zA (i:=2) hm.hq rfl;have g4:=zA (i:=0) ho rfl;have g3:=zA (i:=1) ho rfl;have g0:=zA (i:=4) ho rfl;have f9:=zA (i:=5) ho rfl;have of:∀i,T W3 o5 i:=fun i=>zE ho
 have g2:=zA (i:=2) ho rfl;have g1:=zA (i:=3) ho rfl;have ol:=lt_of_block ho;have HM:=Ja (Jb hm (Jb ho (Jb j m)));have HV:=Ja g.out.1;have c3:=Ja g.out.2.1;clear hm ho j m g b6 c5;obtain⟨f,hf⟩:∃f,uk p q1=f:=⟨_,rfl⟩
 have HF:=Ja hf;clear hf
 go_upto_if 23 with fail
 go_cut [7,8] (fun s7 s8 wx=>s7=A 13/\s8=A f/\W3=wx)
 case first=>
  have hf:=HF.out;unfold uk at hf
  by_cases a1:0<p.funcs.length
  ·rw[if_pos a1] at hf;have d2:(0:Int)<(p.funcs.length:Int):=Zo
   have e5:(q1%65536)%(p.funcs.length:Int)=(f:Int):=by
    rw[<-hf,Ou,Oa (Ob _ Zd)]
   have h0:0<=q1%65536:=Ob _ Zd;clear hf a1;go_wp2;go_meet;exact⟨by first|rfl|rw[a6],by first|rfl|rw[e5],rfl⟩
  ·rw[if_neg a1] at hf;have d2:¬(0:Int)<(p.funcs.length:Int):=Zo;subst hf;clear a1;go_wp2;go_meet;exact⟨by first|rfl|rw[a6],rfl,rfl⟩
 case rest=>
 obtain⟨rfl,rfl,rfl⟩:=hcut;have h4:=HM.out.1.ge;have g5:=HP.out.1.ar;have a0:t.args=p.args:=by rw[<-c3.out];rfl
 have y:W3.ownsRow (p1+1+1+1) 3 1 (.slice aa2 p.args.length ac2) (p.args.length) (p.args.map zN):=by
  have h1:=HM.out.1.rows.own (zP t.av t.args) (row_args t).1;have e:=HV.out.2.1;rw[e] at h1;have h2:W3.ownsRow (p1+1+1+1) 3 1 (.slice aa2 p.args.length ac2) (t.args.length) _:=h1;rw[a0] at h2;exact h2
 have b9:(Value.slice aa2 p.args.length ac2).ownBlock≠some o5:=zC y HM.out.2.1 (.inr Zd);have HR:=Ja (Jb y (Jb b9 a0));obtain⟨ii,d9,c9,c8,c7⟩:=info_parts Try.info_int;clear y b9 a0;go_upto_region 24 with(at_builtin;go_must (refine zK _ rfl (.tmp 71) (.tmp 75) 22 (by rfl) (p1+1+1+1) 3 ii (A 0) 1 8 Try.underlying22 d9 c9 c8 c7 rfl Zo (.slice aa2 p.args.length ac2) (p.args.length) (p.args.map zN) (by rfl) (HR.out.1.alloc _) (N W3.heap.size 1 1) 1 [A ((n:Int)%10-1)] (by rfl) (yM.one (zI rfl) rfl) (by unfold maxLen;omega) Zo Zt ?_;intro v9 w9 l d b5;obtain⟨ra,rc,rfl⟩:=zG l;have o:=zL d (zB HM.out.2.1) HR.out.2.1;have d0:=zA (i:=0) o rfl;have d1:=zA (i:=1) o rfl;have df:T w9 o5 1:=zE o;have dl:=lt_of_block o;have HG:=Ja (Jb l (Jb d b5));clear l d b5 o))
 have c:=(by
  have c0:=HG.out.2.1;have e9:=HV.out.2.1;rw[<-e9] at c0;refine HM.out.1.grow (r:=zP t.av t.args) (r':=zP (.slice ra (p.args.length+1) rc) (t.args++ [((n:Int)%10-1)])) (rs:=tq t) (i:=1) (u:=.slice ra (p.args.length+1) rc) (t':= {t with args:=t.args++ [((n:Int)%10-1)],av:=.slice ra (p.args.length+1) rc }) (abG t).2 ((Below.refl W3.heap.size W3).alloc (Je _) (U #[A ((n:Int)%10-1)] 3)) c0 ?_ (fun x e=>?_) ?_ ?_
  ·show w9.ownsRow (p1+1+1+1) 3 1 _ (t.args++ [((n:Int)%10-1)]).length _
   rw[Jk,Ju,HR.out.2.2];have h9:=HG.out.1
   show w9.ownsRow _ _ _ _ _ ((p.args++ [((n:Int)%10-1)]).map zN)
   rw[Js];exact h9
  ·rcases HG.out.2.2 with e2|e2
   ·left;have e3:=e2.symm.trans e
    show t.av.ownBlock=some x
    rw[e9];exact e3
   ·right;have e3:=e2.symm.trans e;simp at e3;omega
  ·exact(qU t _ _).symm
  ·rfl)
 generalize f4:w9.setCell ⟨o5,1,none⟩ (.slice ra (p.args.length+1) rc)=WF at *;have ho2:=c.ho
 have e0:(zW ({t with args:=t.args++ [(n:Int)%10-1],av:=.slice ra (p.args.length+1) rc }:PT)).toArray=#[.slice a3 p.funcs.length a2,.slice ra (p.args.length+1) rc,A p.entry,A p.handler,.slice a5 p.data.length a4,.slice ba2 p.banks.length bc2]:=by
  unfold zW
  first|(simp only;done)|(simp only[HV.out.1,HV.out.2.1,HV.out.2.2.1,HV.out.2.2.2,HM.out.2.2.2.1,HM.out.2.2.2.2])
 rw[e0] at ho2;clear f4 f8 f7 f6 g4 g3 g2 g1 g0 f9 of ol;have x0:=zA (i:=0) ho2 rfl;have x1:=zA (i:=1) ho2 rfl;have x2:=zA (i:=2) ho2 rfl;have x3:=zA (i:=3) ho2 rfl;have x4:=zA (i:=4) ho2 rfl;have x5:=zA (i:=5) ho2 rfl;have xl:=lt_of_block ho2;have y0:=zA (i:=0) c.hr rfl;have y1:=zA (i:=1) c.hr rfl;have y2:=zA (i:=2) c.hr rfl;have y3:=zA (i:=3) c.hr rfl;have y4:=zA (i:=4) c.hr rfl;have y5:=zA (i:=5) c.hr rfl;have yf:∀i,T WF (p1+1+1) i:=fun i=>zE c.hr
 have yl:=lt_of_block c.hr;have c4:=Ja (Jb c e0);clear c ho2 e0;go_wp2;refine bodyPost_ret (v:=.agg #[.slice a3 p.funcs.length a2,.slice ra (p.args.length+1) rc,A p.entry,A p.handler,.slice a5 p.data.length a4,.slice ba2 p.banks.length bc2]) ?_ rfl (c4.out.1.ret c4.out.2 ?_)
 ·rw[zM rfl];go_simp
 ·have d3:=HP.out.2.2;have d8:=HP.out.2.1;have e6:=HF.out;have d5:=c3.out;unfold wR rA;rw[d8,e6,show yn q0=13 from d3];rw[<-d5];rfl
theorem iT{V:PV}{p:IProg}(hp:ProgIn w w.heap.size V p)(hs:SmallP p)(hq:I64 q0/\I64 q1/\I64 q2)(hw:yn q0=14):
 Y 19 #[yH V p,.agg #[A q0,A q1,A q2]] w (pd w (wR p q0 q1 q2)):=by
 obtain⟨fa,fc,a2,c3,c2⟩:=hp.funcs.form;obtain⟨aa,ac,a5,d2,d1⟩:=hp.args.form;obtain⟨da,dc,a3,c8,c7⟩:=hp.data.form;obtain⟨ba,bc,a4,d0,c9⟩:=hp.banks.form;obtain⟨p1,b8⟩:∃p1,w.heap.size=p1:=⟨_,rfl⟩
 have a0:∀W,F w W->Y 36 #[.agg (R p fa fc aa ac da dc ba bc)] W _:=fun W hb=>by
  have h:=uJ ((hp.below hb).mono hb.size) hs;unfold yH at h;rw[a2,a5,a3,a4] at h;exact h
 unfold yH;rw[a2,a5,a3,a4];obtain⟨n,hn⟩:∃n,uS q2=n:=⟨_,rfl⟩
 have b9:q2%65536=(n:Int):=by rw[<-hn];unfold uS;omega
 have e7:n<65536:=Zo;obtain⟨what,a7⟩:∃k,yn q0=k:=⟨_,rfl⟩
 have e6:-20<q0.tmod 20/\q0.tmod 20<20:=⟨by have:=Qu q0 (show(0:Int)<20 by decide);omega,Qv q0 Zd⟩
 have b0:(q0.tmod 20+20)%20=(what:Int):=by
  rw[<-a7];unfold yn;have h1:=Ob q0 (show(20:Int)≠0 by decide);rw[Oa h1];have h2:=Qs q0 20;omega
 have a65:=yt q2;rw[b9] at a65;have a65b:=yt q1;have e8:=hs.fn.1;have b1:F w (((w.alloc (U (R p fa fc aa ac da dc ba bc) 29)).alloc (U #[A q0,A q1,A q2] 23)).alloc (U #[O,O,A 0,A 0,O,O] 29)):=(((Below.refl _ _).alloc (Je _) _).alloc Zs _).alloc Zt _;have a6:=Ja a0;have b3:=Ja b1;have HP:=Ja (Jb hs (Jb hn a7));clear a0 b1 hp hs a2 a5 a3 a4 c3 c2 d2 d1 c8 c7 d0 c9 hn hq;have b6:=HP.out.2.2.symm.trans hw;subst b6;have y:(q0.tmod 20+20)%20=14:=b0;clear b0;go_enter Try.func19,Try.ntmps19;go_upto_region 2 with(go_at_call 36;go_must (refine(a6.out _ b3.out).mono ?_;rintro e w2 ⟨t,o,m,aa2,ac2,x,r,ba2,bc2,rfl,hV,ht,hr,hb⟩;have d:=Ja (Jb hV (Jb ht (Jb hr hb)));clear hV ht hr hb))
 have j:t.entry=p.entry/\t.handler=p.handler:=by rw[<-d.out.2.1];exact⟨rfl,rfl⟩
 have g:(zW t).toArray=R p o m aa2 ac2 x r ba2 bc2:=by
  unfold zW;rw[d.out.1.1,d.out.1.2.1,d.out.1.2.2.1,d.out.1.2.2.2,j.1,j.2]
 obtain⟨o5,a1⟩:∃o5,w2.heap.size=o5:=⟨_,rfl⟩
 have hm:TuMid w p1 o5 q0 q1 q2 t (w2.alloc (U (zW t).toArray 29)):=TuMid.start b8 a1 d.out.2.2.1 d.out.2.2.2;rw[g] at hm;generalize d4:w2.alloc (U (R p o m aa2 ac2 x r ba2 bc2) 29)=W3 at *;clear d4;rw[a1];clear a1;have ho:=hm.ho;rw[g] at ho;have d7:=zA (i:=0) hm.hq rfl;have d6:=zA (i:=1) hm.hq rfl;have d5:=zA (i:=2) hm.hq rfl;have e4:=zA (i:=0) ho rfl;have e3:=zA (i:=1) ho rfl;have d9:=zA (i:=4) ho rfl;have d8:=zA (i:=5) ho rfl;have of:∀i,T W3 o5 i:=fun i=>zE ho
 have e2:=zA (i:=2) ho rfl;have e1:=zA (i:=3) ho rfl;have ol:=lt_of_block ho;have HM:=Ja (Jb hm (Jb ho (Jb g j)));have HV:=Ja d.out.1;have e5:=Ja d.out.2.1;clear hm ho g j d a6 b3;obtain⟨f,hf⟩:∃f,uk p q1=f:=⟨_,rfl⟩
 have HF:=Ja hf;clear hf
 go_upto_if 23 with fail
 go_cut [7,8] (fun s7 s8 wx=>s7=A 14/\s8=A f/\W3=wx)
 case first=>
  have hf:=HF.out;unfold uk at hf
  by_cases l:0<p.funcs.length
  ·rw[if_pos l] at hf;have b4:(0:Int)<(p.funcs.length:Int):=Zo
   have c4:(q1%65536)%(p.funcs.length:Int)=(f:Int):=by
    rw[<-hf,Ou,Oa (Ob _ Zd)]
   have h0:0<=q1%65536:=Ob _ Zd;clear hf l;go_wp2;go_meet;exact⟨by first|rfl|rw[y],by first|rfl|rw[c4],rfl⟩
  ·rw[if_neg l] at hf;have b4:¬(0:Int)<(p.funcs.length:Int):=Zo;subst hf;clear l;go_wp2;go_meet;exact⟨by first|rfl|rw[y],rfl,rfl⟩
 case rest=>
 obtain⟨rfl,rfl,rfl⟩:=hcut;go_upto_region 24 with fail;have c:=HM.out.1.set (t':= {t with entry:=(n:Int)%7-1 }) (i:=2) (u:=A ((n:Int)%7-1)) rfl rfl;generalize d3:W3.setCell ⟨o5,2,none⟩ (A ((n:Int)%7-1))=WF at *;have ho2:=c.ho
 have e0:(zW ({t with entry:=(n:Int)%7-1 }:PT)).toArray=#[.slice o p.funcs.length m,.slice aa2 p.args.length ac2,A ((n:Int)%7-1),A p.handler,.slice x p.data.length r,.slice ba2 p.banks.length bc2]:=by
  unfold zW
  first|(simp only;done)|(simp only[HV.out.1,HV.out.2.1,HV.out.2.2.1,HV.out.2.2.2,HM.out.2.2.2.1,HM.out.2.2.2.2])
 rw[e0] at ho2;clear d3 d7 d6 d5 e4 e3 e2 e1 d9 d8 of ol;have x0:=zA (i:=0) ho2 rfl;have x1:=zA (i:=1) ho2 rfl;have x2:=zA (i:=2) ho2 rfl;have x3:=zA (i:=3) ho2 rfl;have x4:=zA (i:=4) ho2 rfl;have x5:=zA (i:=5) ho2 rfl;have xl:=lt_of_block ho2;have y0:=zA (i:=0) c.hr rfl;have y1:=zA (i:=1) c.hr rfl;have y2:=zA (i:=2) c.hr rfl;have y3:=zA (i:=3) c.hr rfl;have y4:=zA (i:=4) c.hr rfl;have y5:=zA (i:=5) c.hr rfl;have yf:∀i,T WF (p1+1+1) i:=fun i=>zE c.hr
 have yl:=lt_of_block c.hr;have b2:=Ja (Jb c e0);clear c ho2 e0;go_wp2;refine bodyPost_ret (v:=.agg #[.slice o p.funcs.length m,.slice aa2 p.args.length ac2,A ((n:Int)%7-1),A p.handler,.slice x p.data.length r,.slice ba2 p.banks.length bc2]) ?_ rfl (b2.out.1.ret b2.out.2 ?_)
 ·rw[zM rfl];go_simp
 ·have b5:=HP.out.2.2;have c0:=HP.out.2.1;have c5:=HF.out;have b7:=e5.out;unfold wR rA;rw[c0,c5,show yn q0=14 from b5];rw[<-b7];rfl
theorem jf{V:PV}{p:IProg}(hp:ProgIn w w.heap.size V p)(hs:SmallP p)(hq:I64 q0/\I64 q1/\I64 q2)(hw:yn q0=15):
 Y 19 #[yH V p,.agg #[A q0,A q1,A q2]] w (pd w (wR p q0 q1 q2)):=by
 obtain⟨fa,fc,a2,c3,c2⟩:=hp.funcs.form;obtain⟨aa,ac,a5,d2,d1⟩:=hp.args.form;obtain⟨da,dc,a3,c8,c7⟩:=hp.data.form;obtain⟨ba,bc,a4,d0,c9⟩:=hp.banks.form;obtain⟨p1,b8⟩:∃p1,w.heap.size=p1:=⟨_,rfl⟩
 have a0:∀W,F w W->Y 36 #[.agg (R p fa fc aa ac da dc ba bc)] W _:=fun W hb=>by
  have h:=uJ ((hp.below hb).mono hb.size) hs;unfold yH at h;rw[a2,a5,a3,a4] at h;exact h
 unfold yH;rw[a2,a5,a3,a4];obtain⟨n,hn⟩:∃n,uS q2=n:=⟨_,rfl⟩
 have b9:q2%65536=(n:Int):=by rw[<-hn];unfold uS;omega
 have e7:n<65536:=Zo;obtain⟨what,a7⟩:∃k,yn q0=k:=⟨_,rfl⟩
 have e6:-20<q0.tmod 20/\q0.tmod 20<20:=⟨by have:=Qu q0 (show(0:Int)<20 by decide);omega,Qv q0 Zd⟩
 have b0:(q0.tmod 20+20)%20=(what:Int):=by
  rw[<-a7];unfold yn;have h1:=Ob q0 (show(20:Int)≠0 by decide);rw[Oa h1];have h2:=Qs q0 20;omega
 have a65:=yt q2;rw[b9] at a65;have a65b:=yt q1;have e8:=hs.fn.1;have b1:F w (((w.alloc (U (R p fa fc aa ac da dc ba bc) 29)).alloc (U #[A q0,A q1,A q2] 23)).alloc (U #[O,O,A 0,A 0,O,O] 29)):=(((Below.refl _ _).alloc (Je _) _).alloc Zs _).alloc Zt _;have a6:=Ja a0;have b3:=Ja b1;have HP:=Ja (Jb hs (Jb hn a7));clear a0 b1 hp hs a2 a5 a3 a4 c3 c2 d2 d1 c8 c7 d0 c9 hn hq;have b6:=HP.out.2.2.symm.trans hw;subst b6;have y:(q0.tmod 20+20)%20=15:=b0;clear b0;go_enter Try.func19,Try.ntmps19;go_upto_region 2 with(go_at_call 36;go_must (refine(a6.out _ b3.out).mono ?_;rintro e w2 ⟨t,o,m,aa2,ac2,x,r,ba2,bc2,rfl,hV,ht,hr,hb⟩;have d:=Ja (Jb hV (Jb ht (Jb hr hb)));clear hV ht hr hb))
 have j:t.entry=p.entry/\t.handler=p.handler:=by rw[<-d.out.2.1];exact⟨rfl,rfl⟩
 have g:(zW t).toArray=R p o m aa2 ac2 x r ba2 bc2:=by
  unfold zW;rw[d.out.1.1,d.out.1.2.1,d.out.1.2.2.1,d.out.1.2.2.2,j.1,j.2]
 obtain⟨o5,a1⟩:∃o5,w2.heap.size=o5:=⟨_,rfl⟩
 have hm:TuMid w p1 o5 q0 q1 q2 t (w2.alloc (U (zW t).toArray 29)):=TuMid.start b8 a1 d.out.2.2.1 d.out.2.2.2;rw[g] at hm;generalize d4:w2.alloc (U (R p o m aa2 ac2 x r ba2 bc2) 29)=W3 at *;clear d4;rw[a1];clear a1;have ho:=hm.ho;rw[g] at ho;have d7:=zA (i:=0) hm.hq rfl;have d6:=zA (i:=1) hm.hq rfl;have d5:=zA (i:=2) hm.hq rfl;have e4:=zA (i:=0) ho rfl;have e3:=zA (i:=1) ho rfl;have d9:=zA (i:=4) ho rfl;have d8:=zA (i:=5) ho rfl;have of:∀i,T W3 o5 i:=fun i=>zE ho
 have e2:=zA (i:=2) ho rfl;have e1:=zA (i:=3) ho rfl;have ol:=lt_of_block ho;have HM:=Ja (Jb hm (Jb ho (Jb g j)));have HV:=Ja d.out.1;have e5:=Ja d.out.2.1;clear hm ho g j d a6 b3;obtain⟨f,hf⟩:∃f,uk p q1=f:=⟨_,rfl⟩
 have HF:=Ja hf;clear hf
 go_upto_if 23 with fail
 go_cut [7,8] (fun s7 s8 wx=>s7=A 15/\s8=A f/\W3=wx)
 case first=>
  have hf:=HF.out;unfold uk at hf
  by_cases l:0<p.funcs.length
  ·rw[if_pos l] at hf;have b4:(0:Int)<(p.funcs.length:Int):=Zo
   have c4:(q1%65536)%(p.funcs.length:Int)=(f:Int):=by
    rw[<-hf,Ou,Oa (Ob _ Zd)]
   have h0:0<=q1%65536:=Ob _ Zd;clear hf l;go_wp2;go_meet;exact⟨by first|rfl|rw[y],by first|rfl|rw[c4],rfl⟩
  ·rw[if_neg l] at hf;have b4:¬(0:Int)<(p.funcs.length:Int):=Zo;subst hf;clear l;go_wp2;go_meet;exact⟨by first|rfl|rw[y],rfl,rfl⟩
 case rest=>
 obtain⟨rfl,rfl,rfl⟩:=hcut;go_upto_region 24 with fail;have c:=HM.out.1.set (t':= {t with handler:=(n:Int)%7-2 }) (i:=3) (u:=A ((n:Int)%7-2)) rfl rfl;generalize d3:W3.setCell ⟨o5,3,none⟩ (A ((n:Int)%7-2))=WF at *;have ho2:=c.ho
 have e0:(zW ({t with handler:=(n:Int)%7-2 }:PT)).toArray=#[.slice o p.funcs.length m,.slice aa2 p.args.length ac2,A p.entry,A ((n:Int)%7-2),.slice x p.data.length r,.slice ba2 p.banks.length bc2]:=by
  unfold zW
  first|(simp only;done)|(simp only[HV.out.1,HV.out.2.1,HV.out.2.2.1,HV.out.2.2.2,HM.out.2.2.2.1,HM.out.2.2.2.2])
 rw[e0] at ho2;clear d3 d7 d6 d5 e4 e3 e2 e1 d9 d8 of ol;have x0:=zA (i:=0) ho2 rfl;have x1:=zA (i:=1) ho2 rfl;have x2:=zA (i:=2) ho2 rfl;have x3:=zA (i:=3) ho2 rfl;have x4:=zA (i:=4) ho2 rfl;have x5:=zA (i:=5) ho2 rfl;have xl:=lt_of_block ho2;have y0:=zA (i:=0) c.hr rfl;have y1:=zA (i:=1) c.hr rfl;have y2:=zA (i:=2) c.hr rfl;have y3:=zA (i:=3) c.hr rfl;have y4:=zA (i:=4) c.hr rfl;have y5:=zA (i:=5) c.hr rfl;have yf:∀i,T WF (p1+1+1) i:=fun i=>zE c.hr
 have yl:=lt_of_block c.hr;have b2:=Ja (Jb c e0);clear c ho2 e0;go_wp2;refine bodyPost_ret (v:=.agg #[.slice o p.funcs.length m,.slice aa2 p.args.length ac2,A p.entry,A ((n:Int)%7-2),.slice x p.data.length r,.slice ba2 p.banks.length bc2]) ?_ rfl (b2.out.1.ret b2.out.2 ?_)
 ·rw[zM rfl];go_simp
 ·have b5:=HP.out.2.2;have c0:=HP.out.2.1;have c5:=HF.out;have b7:=e5.out;unfold wR rA;rw[c0,c5,show yn q0=15 from b5];rw[<-b7];rfl
theorem turned_d{V:PV}{p:IProg}(hp:ProgIn w w.heap.size V p)(hs:SmallP p)(hq:I64 q0/\I64 q1/\I64 q2)(hw:yn q0<=12∨yn q0=19):
 Y 19 #[yH V p,.agg #[A q0,A q1,A q2]] w (pd w (wR p q0 q1 q2)):=by
 obtain⟨fa,fc,d8,i4,i3⟩:=hp.funcs.form;obtain⟨aa,ac,e8,j3,j2⟩:=hp.args.form;obtain⟨da,dc,e4,i7,i6⟩:=hp.data.form;obtain⟨ba,bc,e6,j1,j0⟩:=hp.banks.form;obtain⟨p1,h8⟩:∃p1,w.heap.size=p1:=⟨_,rfl⟩
 have d3:∀W,F w W->Y 36 #[.agg (R p fa fc aa ac da dc ba bc)] W _:=fun W hb=>by
  have h:=uJ ((hp.below hb).mono hb.size) hs;unfold yH at h;rw[d8,e8,e4,e6] at h;exact h
 unfold yH;rw[d8,e8,e4,e6];obtain⟨n,hn⟩:∃n,uS q2=n:=⟨_,rfl⟩
 have h9:q2%65536=(n:Int):=by rw[<-hn];unfold uS;omega
 have i0:n<65536:=Zo;obtain⟨what,f9⟩:∃k,yn q0=k:=⟨_,rfl⟩
 have k5:-20<q0.tmod 20/\q0.tmod 20<20:=⟨by have:=Qu q0 (show(0:Int)<20 by decide);omega,Qv q0 Zd⟩
 have g0:(q0.tmod 20+20)%20=(what:Int):=by
  rw[<-f9];unfold yn;have h1:=Ob q0 (show(20:Int)≠0 by decide);rw[Oa h1];have h2:=Qs q0 20;omega
 have a65:=yt q2;rw[h9] at a65;have a65b:=yt q1;have k7:=hs.fn.1;have g6:F w (((w.alloc (U (R p fa fc aa ac da dc ba bc) 29)).alloc (U #[A q0,A q1,A q2] 23)).alloc (U #[O,O,A 0,A 0,O,O] 29)):=(((Below.refl _ _).alloc (Je _) _).alloc Zs _).alloc Zt _;have f8:=Ja d3;have g9:=Ja g6;have HP:=Ja (Jb hs (Jb hn f9));clear d3 g6 hp hs d8 e8 e4 e6 i4 i3 j3 j2 i7 i6 j1 j0 hn hq;have c8:=Ja hw;have h4:what<=12∨what=19:=by have e:=HP.out.2.2;rw[<-e];exact hw
 have b13:((what:Int)==13)=false:=Ze;have b14:((what:Int)==14)=false:=Ze;have b15:((what:Int)==15)=false:=Ze;have b16:((what:Int)==16)=false:=Ze;have b17:((what:Int)==17)=false:=Ze;have b18:((what:Int)==18)=false:=Ze;clear hw h4;go_enter Try.func19,Try.ntmps19;go_upto_region 2 with(go_at_call 36;go_must (refine(f8.out _ g9.out).mono ?_;rintro e w2 ⟨t,c7,o,aa2,ac2,u,r,ba2,bc2,rfl,hV,ht,hr,hb⟩;have HT:=Ja (Jb hV (Jb ht (Jb hr hb)));clear hV ht hr hb))
 have b0:t.entry=p.entry/\t.handler=p.handler:=by rw[<-HT.out.2.1];exact⟨rfl,rfl⟩
 have a1:(zW t).toArray=R p c7 o aa2 ac2 u r ba2 bc2:=by
  unfold zW;rw[HT.out.1.1,HT.out.1.2.1,HT.out.1.2.2.1,HT.out.1.2.2.2,b0.1,b0.2]
 obtain⟨o5,d4⟩:∃o5,w2.heap.size=o5:=⟨_,rfl⟩
 have hm:TuMid w p1 o5 q0 q1 q2 t (w2.alloc (U (zW t).toArray 29)):=TuMid.start h8 d4 HT.out.2.2.1 HT.out.2.2.2;rw[a1] at hm;generalize j4:w2.alloc (U (R p c7 o aa2 ac2 u r ba2 bc2) 29)=W3 at *;clear j4;rw[d4];clear d4;have ho:=hm.ho;rw[a1] at ho;have f1:=zA (i:=0) hm.hq rfl;have f0:=zA (i:=1) hm.hq rfl;have e9:=zA (i:=2) hm.hq rfl;have f7:=zA (i:=0) ho rfl;have f6:=zA (i:=1) ho rfl;have f3:=zA (i:=4) ho rfl;have f2:=zA (i:=5) ho rfl;have of:∀i,T W3 o5 i:=fun i=>zE ho
 have f5:=zA (i:=2) ho rfl;have f4:=zA (i:=3) ho rfl;have ol:=lt_of_block ho;have l:=Ja (Jb hm (Jb ho (Jb a1 b0)));have j:=Ja HT.out.1;have b6:=Ja HT.out.2.1;clear hm ho a1 b0 HT f8 g9;obtain⟨f,hf⟩:∃f,uk p q1=f:=⟨_,rfl⟩
 have HF:=Ja hf;clear hf
 go_upto_if 23 with fail
 go_cut [7,8] (fun s7 s8 wx=>s7=A what/\s8=A f/\W3=wx)
 case first=>
  have hf:=HF.out;unfold uk at hf
  by_cases c0:0<p.funcs.length
  ·rw[if_pos c0] at hf;have h5:(0:Int)<(p.funcs.length:Int):=Zo
   have g4:(q1%65536)%(p.funcs.length:Int)=(f:Int):=by
    rw[<-hf,Ou,Oa (Ob _ Zd)]
   have h0:0<=q1%65536:=Ob _ Zd;clear hf c0;go_wp2;go_meet;exact⟨by first|rfl|rw[g0],by first|rfl|rw[g4],rfl⟩
  ·rw[if_neg c0] at hf;have h5:¬(0:Int)<(p.funcs.length:Int):=Zo;subst hf;clear c0;go_wp2;go_meet;exact⟨by first|rfl|rw[g0],rfl,rfl⟩
 case rest=>
 obtain⟨rfl,rfl,rfl⟩:=hcut;have a2:t.funcs.length=p.funcs.length:=by rw[<-b6.out];unfold PT.prog;simp
 by_cases c2:0<p.funcs.length
 ·have k1:f<p.funcs.length:=by
   have h:=HF.out;unfold uk at h;rw[if_pos c2] at h;rw[<-h];exact Qj _ c2
  obtain⟨ft,b3⟩:∃ft,t.funcs[f]? =some ft:=⟨_,Jd Zo⟩
  have d2:p.funcs[f]? =some ft.fn:=by
   rw[<-b6.out]
   show(t.funcs.map FT.fn)[f]? =_
   rw[Jr,b3];rfl
  have d9:=kZ l.out.1.rows;rw[j.out.1,a2] at d9;obtain⟨fb,l0,i5,k3,k2⟩:=d9.form c2;cases i5;have e3:t.fv.ownBlock=some fb:=by rw[j.out.1];rfl
  obtain⟨cf,ff,l1⟩:=kj l.out.1.rows e3 b3;have d6:W3.ownsRow (p1+1+1+1) 49 5 ft.bv ft.blks.length (ft.blks.flatMap zz):=l.out.1.rows.own (zd ft.bv ft.blks) ((PT.rows_at b3).mem_iff.2 (.head _));obtain⟨ga,gc,d5⟩:=zG d6;rw[d5] at cf;have g4:(f:Int)<(p.funcs.length:Int):=Zo;have h6:(0:Int)<(p.funcs.length:Int):=Zo;have b8:=(HP.out.1.fn.2 ft.fn (Ji d2))
  have c4:ft.fn.length=ft.blks.length:=by unfold FT.fn;simp
  have k4:ft.blks.length<=2000000:=by have:=b8.1.1;omega
  have d:=Ja (Jb b3 (Jb d2 (Jb e3 (Jb d5 (Jb d6 (Jb b8 c4))))));clear b3 d2 e3 d5 d6 d9 b8 c4 a2
  by_cases c5:0<ft.blks.length
  ·have h7:(0:Int)<(ft.blks.length:Int):=Zo;obtain⟨i,hi⟩:∃i,turnK q1 n ft.blks.length=i:=⟨_,rfl⟩
   have i1:i<ft.blks.length:=by rw[<-hi];exact Qj _ c5
   obtain⟨bt,c3⟩:∃bt,ft.blks[i]? =some bt:=⟨_,Jd i1⟩
   obtain⟨x,hx⟩:∃x:Nat,q1/65536%65536=(x:Int):=⟨(q1/65536%65536).toNat,by omega⟩
   have b9:(x:Int)<65536:=Zo;have d0:=Ja (Jb hi (Jb hx b9));have k6:(i:Int)<(ft.blks.length:Int):=Zo;have d7:=d.out.2.2.2.2.1;rw[d.out.2.2.2.1] at d7;obtain⟨gb,k9,i2,k0,j5⟩:=d7.form c5;cases i2;have g3:ft.bv.ownBlock=some gb:=by rw[d.out.2.2.2.1];rfl
   have g5:=d.out.2.2.2.2.2.1;have b7:bt.blk∈ft.fn:=Oj (Ji c3)
   have g1:SzB bt:=by
    obtain⟨h1,h2⟩:=g5;have h3:=h1.2 _ b7;exact szB_of h3 h2 b7
   have g2:∀W,F W3 W->Y 45 #[.pointer (some ⟨gb,i*5,none⟩),A what,A n] W (uE W (p1+1+1+1) gb i ft.bv bt ft.blks ((ft.blks.eraseIdx i).flatMap BT.rows++t.but f) what n):=fun W hW=>iF ((l.out.1.below hW).block d.out.1 c3 g3) i0 g1 (by have e:=HP.out.2.2;rw[<-e];exact c8.out)
   have c9:=Ja (Jb g2 (Jb c3 hi));have x0:G (W3.alloc (U #[N gb ft.blks.length gc] 43)) W3.heap.size 0 (N gb ft.blks.length gc):=zA (zI rfl) rfl;have x1:G (W3.alloc (U #[N gb ft.blks.length gc] 43)) (p1+1) 1 (A q1):=zA (zB l.out.1.hq) rfl;clear g2 c3 hi hx d7 g3 g5 b7 g1 c5 b9;go_upto_region 10 with fail;have b9:=d0.out.2.2;have a3:bits .and .i64 (q1/65536) 65535=(x:Int):=by rw[yt,d0.out.2.1]
   have a4:IntKind.i64.wrap ((n:Int)/64)=(n:Int)/64:=Om _ Zo;have a5:IntKind.i64.wrap ((x:Int)+(n:Int)/64)=(x:Int)+(n:Int)/64:=Om _ Zo
   have a6:((x:Int)+(n:Int)/64)%(ft.blks.length:Int)=(i:Int):=by
    rw[<-d0.out.1];unfold turnK;rw[d0.out.2.1,Ni];simp
   have a7:((x:Int)+(n:Int)/64).tmod (ft.blks.length:Int)=(i:Int):=by rw[Qc Zo];exact a6
   clear b9;refine zt 16 Zk Zk ?_;simp only[Qo,Uc,Qp,Ui]
   repeat (go_big_quiet_step (fail))
   refine wpQuiet_nil ?_;go_upto_region 24 with(go_at_call 45;go_must (refine(c9.out.1 _ (((Below.refl _ _).alloc (Je _) (U #[N gb ft.blks.length gc] 43)).drew)).mono ?_;rintro e w9 ⟨rfl,bt',d1,e7,e5⟩;have HG:=Ja (Jb d1 (Jb e7 e5));clear d1 e7 e5))
   have c:=((l.out.1.below (((Below.refl _ _).alloc (Je _) (U #[N gb ft.blks.length gc] 43)).drew)).unblock d.out.1 c9.out.2.1 HG.out.1 HG.out.2.2)
   generalize b5:w9=WF at *;have ho2:=c.ho
   have e0:(zW ({t with funcs:=t.funcs.set f {ft with blks:=ft.blks.set i bt' }}:PT)).toArray=R p (some ⟨fb,0,none⟩) o aa2 ac2 u r ba2 bc2:=by
    unfold zW
    first|(simp only;done)|(simp only[j.out.1,j.out.2.1,j.out.2.2.1,j.out.2.2.2,l.out.2.2.2.1,l.out.2.2.2.2])
   rw[e0] at ho2;clear b5 f1 f0 e9 f7 f6 f5 f4 f3 f2 of ol;have x0:=zA (i:=0) ho2 rfl;have x1:=zA (i:=1) ho2 rfl;have x2:=zA (i:=2) ho2 rfl;have x3:=zA (i:=3) ho2 rfl;have x4:=zA (i:=4) ho2 rfl;have x5:=zA (i:=5) ho2 rfl;have xl:=lt_of_block ho2;have y0:=zA (i:=0) c.hr rfl;have y1:=zA (i:=1) c.hr rfl;have y2:=zA (i:=2) c.hr rfl;have y3:=zA (i:=3) c.hr rfl;have y4:=zA (i:=4) c.hr rfl;have y5:=zA (i:=5) c.hr rfl;have yf:∀i,T WF (p1+1+1) i:=fun i=>zE c.hr
   have yl:=lt_of_block c.hr;have y:=Ja (Jb c e0);clear c ho2 e0;go_wp2;refine bodyPost_ret (v:=.agg (R p (some ⟨fb,0,none⟩) o aa2 ac2 u r ba2 bc2)) ?_ rfl (y.out.1.ret y.out.2 ?_)
   ·rw[zM rfl];go_simp
   ·have m:=HP.out.2.2;have b2:=HP.out.2.1;have b4:=HF.out;have b1:=b6.out;have a0:=c8.out;rw[m] at a0;unfold wR rA;rw[b2,b4,m,if_neg Zo,if_neg Zo,if_neg Zo,if_neg Zo,if_neg Zo,if_neg Zo]
    have e1:wD p.funcs f (lW what q1 n)=p.funcs.set f (wD ft.fn i (xh what n)):=by
     rw[xI d.out.2.1];unfold lW;rw[d.out.2.2.2.2.2.2,c9.out.2.2]
    rw[e1,<-b1];unfold PT.prog;simp only[Ox]
    have e2:wD ft.fn i (xh what n)=({ft with blks:=ft.blks.set i bt' }:FT).fn:=by
     unfold FT.fn;rw[xI (x:=bt.blk) (by rw[Jr,c9.out.2.1];rfl),Ox,HG.out.2.1]
    rw[e2]
  ·have h7:¬(0:Int)<(ft.blks.length:Int):=Zo
   have HN:=Ja (show ∀g,p.funcs[f]? =some g->g.length=0 from fun g hg=>by
    rw[d.out.2.1] at hg;cases hg;have:=d.out.2.2.2.2.2.2
    omega)
   clear c5;go_upto_region 24 with fail;have c:=l.out.1;generalize b5:W3=WF at *;have ho2:=c.ho
   have e0:(zW t).toArray=R p (some ⟨fb,0,none⟩) o aa2 ac2 u r ba2 bc2:=by
    unfold zW
    first|(simp only;done)|(simp only[j.out.1,j.out.2.1,j.out.2.2.1,j.out.2.2.2,l.out.2.2.2.1,l.out.2.2.2.2])
   rw[e0] at ho2;clear b5 f1 f0 e9 f7 f6 f5 f4 f3 f2 of ol;have x0:=zA (i:=0) ho2 rfl;have x1:=zA (i:=1) ho2 rfl;have x2:=zA (i:=2) ho2 rfl;have x3:=zA (i:=3) ho2 rfl;have x4:=zA (i:=4) ho2 rfl;have x5:=zA (i:=5) ho2 rfl;have xl:=lt_of_block ho2;have y0:=zA (i:=0) c.hr rfl;have y1:=zA (i:=1) c.hr rfl;have y2:=zA (i:=2) c.hr rfl;have y3:=zA (i:=3) c.hr rfl;have y4:=zA (i:=4) c.hr rfl;have y5:=zA (i:=5) c.hr rfl;have yf:∀i,T WF (p1+1+1) i:=fun i=>zE c.hr
   have yl:=lt_of_block c.hr;have y:=Ja (Jb c e0);clear c ho2 e0;go_wp2;refine bodyPost_ret (v:=.agg (R p (some ⟨fb,0,none⟩) o aa2 ac2 u r ba2 bc2)) ?_ rfl (y.out.1.ret y.out.2 ?_)
   ·rw[zM rfl];go_simp
   ·have m:=HP.out.2.2;have b2:=HP.out.2.1;have b4:=HF.out;have b1:=b6.out;have a0:=c8.out;rw[m] at a0;unfold wR;rw[b2,b4,m,uw (.inr a0) HN.out];exact b1
 ·have h6:¬(0:Int)<(p.funcs.length:Int):=Zo
  have HN:=Ja (show ∀g,p.funcs[f]? =some g->g.length=0 from fun g hg=>by
   have:=(Jh.1 hg).1
   omega)
  clear c2 a2;go_upto_region 24 with fail;have c:=l.out.1;generalize b5:W3=WF at *;have ho2:=c.ho
  have e0:(zW t).toArray=R p c7 o aa2 ac2 u r ba2 bc2:=by
   unfold zW
   first|(simp only;done)|(simp only[j.out.1,j.out.2.1,j.out.2.2.1,j.out.2.2.2,l.out.2.2.2.1,l.out.2.2.2.2])
  rw[e0] at ho2;clear b5 f1 f0 e9 f7 f6 f5 f4 f3 f2 of ol;have x0:=zA (i:=0) ho2 rfl;have x1:=zA (i:=1) ho2 rfl;have x2:=zA (i:=2) ho2 rfl;have x3:=zA (i:=3) ho2 rfl;have x4:=zA (i:=4) ho2 rfl;have x5:=zA (i:=5) ho2 rfl;have xl:=lt_of_block ho2;have y0:=zA (i:=0) c.hr rfl;have y1:=zA (i:=1) c.hr rfl;have y2:=zA (i:=2) c.hr rfl;have y3:=zA (i:=3) c.hr rfl;have y4:=zA (i:=4) c.hr rfl;have y5:=zA (i:=5) c.hr rfl;have yf:∀i,T WF (p1+1+1) i:=fun i=>zE c.hr
  have yl:=lt_of_block c.hr;have y:=Ja (Jb c e0);clear c ho2 e0;go_wp2;refine bodyPost_ret (v:=.agg (R p c7 o aa2 ac2 u r ba2 bc2)) ?_ rfl (y.out.1.ret y.out.2 ?_)
  ·rw[zM rfl];go_simp
  ·have m:=HP.out.2.2;have b2:=HP.out.2.1;have b4:=HF.out;have b1:=b6.out;have a0:=c8.out;rw[m] at a0;unfold wR;rw[b2,b4,m,uw (.inr a0) HN.out];exact b1
theorem iE{V:PV}{p:IProg}(hp:ProgIn w w.heap.size V p)(hs:SmallP p)(hq:I64 q0/\I64 q1/\I64 q2)(hw:yn q0=18):
 Y 19 #[yH V p,.agg #[A q0,A q1,A q2]] w (pd w (wR p q0 q1 q2)):=by
 obtain⟨fa,fc,d0,h9,h8⟩:=hp.funcs.form;obtain⟨aa,ac,d7,i6,i5⟩:=hp.args.form;obtain⟨da,dc,d5,i2,i1⟩:=hp.data.form;obtain⟨ba,bc,d6,i4,i3⟩:=hp.banks.form;obtain⟨p1,h5⟩:∃p1,w.heap.size=p1:=⟨_,rfl⟩
 have c4:∀W,F w W->Y 36 #[.agg (R p fa fc aa ac da dc ba bc)] W _:=fun W hb=>by
  have h:=uJ ((hp.below hb).mono hb.size) hs;unfold yH at h;rw[d0,d7,d5,d6] at h;exact h
 unfold yH;rw[d0,d7,d5,d6];obtain⟨n,hn⟩:∃n,uS q2=n:=⟨_,rfl⟩
 have h6:q2%65536=(n:Int):=by rw[<-hn];unfold uS;omega
 have j5:n<65536:=Zo;obtain⟨what,f3⟩:∃k,yn q0=k:=⟨_,rfl⟩
 have j4:-20<q0.tmod 20/\q0.tmod 20<20:=⟨by have:=Qu q0 (show(0:Int)<20 by decide);omega,Qv q0 Zd⟩
 have f4:(q0.tmod 20+20)%20=(what:Int):=by
  rw[<-f3];unfold yn;have h1:=Ob q0 (show(20:Int)≠0 by decide);rw[Oa h1];have h2:=Qs q0 20;omega
 have a65:=yt q2;rw[h6] at a65;have a65b:=yt q1;have k1:=hs.fn.1;have f9:F w (((w.alloc (U (R p fa fc aa ac da dc ba bc) 29)).alloc (U #[A q0,A q1,A q2] 23)).alloc (U #[O,O,A 0,A 0,O,O] 29)):=(((Below.refl _ _).alloc (Je _) _).alloc Zs _).alloc Zt _;have f2:=Ja c4;have g1:=Ja f9;have HP:=Ja (Jb hs (Jb hn f3));clear c4 f9 hp hs d0 d7 d5 d6 h9 h8 i6 i5 i2 i1 i4 i3 hn hq;have h4:=HP.out.2.2.symm.trans hw;subst h4;have c2:(q0.tmod 20+20)%20=18:=f4;clear f4;go_enter Try.func19,Try.ntmps19;go_upto_region 2 with(go_at_call 36;go_must (refine(f2.out _ g1.out).mono ?_;rintro e w2 ⟨t,b9,r,aa2,ac2,y,u,ba2,bc2,rfl,hV,ht,hr,hb⟩;have HT:=Ja (Jb hV (Jb ht (Jb hr hb)));clear hV ht hr hb))
 have a3:t.entry=p.entry/\t.handler=p.handler:=by rw[<-HT.out.2.1];exact⟨rfl,rfl⟩
 have a1:(zW t).toArray=R p b9 r aa2 ac2 y u ba2 bc2:=by
  unfold zW;rw[HT.out.1.1,HT.out.1.2.1,HT.out.1.2.2.1,HT.out.1.2.2.2,a3.1,a3.2]
 obtain⟨o5,c5⟩:∃o5,w2.heap.size=o5:=⟨_,rfl⟩
 have hm:TuMid w p1 o5 q0 q1 q2 t (w2.alloc (U (zW t).toArray 29)):=TuMid.start h5 c5 HT.out.2.2.1 HT.out.2.2.2;rw[a1] at hm;generalize i7:w2.alloc (U (R p b9 r aa2 ac2 y u ba2 bc2) 29)=W3 at *;clear i7;rw[c5];clear c5;have ho:=hm.ho;rw[a1] at ho;have e5:=zA (i:=0) hm.hq rfl;have e4:=zA (i:=1) hm.hq rfl;have d9:=zA (i:=2) hm.hq rfl;have c0:=zA (i:=0) ho rfl;have f1:=zA (i:=1) ho rfl;have e7:=zA (i:=4) ho rfl;have e6:=zA (i:=5) ho rfl;have of:∀i,T W3 o5 i:=fun i=>zE ho
 have f0:=zA (i:=2) ho rfl;have e8:=zA (i:=3) ho rfl;have ol:=lt_of_block ho;have l:=Ja (Jb hm (Jb ho (Jb a1 a3)));have HV:=Ja HT.out.1;have b2:=Ja HT.out.2.1;clear hm ho a1 a3 HT f2 g1;obtain⟨f,hf⟩:∃f,uk p q1=f:=⟨_,rfl⟩
 have HF:=Ja hf;clear hf
 go_upto_if 23 with fail
 go_cut [7,8] (fun s7 s8 wx=>s7=A 18/\s8=A f/\W3=wx)
 case first=>
  have hf:=HF.out;unfold uk at hf
  by_cases b6:0<p.funcs.length
  ·rw[if_pos b6] at hf;have g5:(0:Int)<(p.funcs.length:Int):=Zo
   have f7:(q1%65536)%(p.funcs.length:Int)=(f:Int):=by
    rw[<-hf,Ou,Oa (Ob _ Zd)]
   have h0:0<=q1%65536:=Ob _ Zd;clear hf b6;go_wp2;go_meet;exact⟨by first|rfl|rw[c2],by first|rfl|rw[f7],rfl⟩
  ·rw[if_neg b6] at hf;have g5:¬(0:Int)<(p.funcs.length:Int):=Zo;subst hf;clear b6;go_wp2;go_meet;exact⟨by first|rfl|rw[c2],rfl,rfl⟩
 case rest=>
 obtain⟨rfl,rfl,rfl⟩:=hcut;have a2:t.funcs.length=p.funcs.length:=by rw[<-b2.out];unfold PT.prog;simp
 by_cases b7:0<p.funcs.length
 ·have j0:f<p.funcs.length:=by
   have h:=HF.out;unfold uk at h;rw[if_pos b7] at h;rw[<-h];exact Qj _ b7
  obtain⟨ft,a7⟩:∃ft,t.funcs[f]? =some ft:=⟨_,Jd Zo⟩
  have c3:p.funcs[f]? =some ft.fn:=by
   rw[<-b2.out]
   show(t.funcs.map FT.fn)[f]? =_
   rw[Jr,a7];rfl
  have d3:=kZ l.out.1.rows;rw[HV.out.1,a2] at d3;obtain⟨fb,k3,i0,j2,j1⟩:=d3.form b7;cases i0;have d4:t.fv.ownBlock=some fb:=by rw[HV.out.1];rfl
  obtain⟨cf,ff,g0⟩:=kj l.out.1.rows d4 a7;have c9:W3.ownsRow (p1+1+1+1) 49 5 ft.bv ft.blks.length (ft.blks.flatMap zz):=l.out.1.rows.own (zd ft.bv ft.blks) ((PT.rows_at a7).mem_iff.2 (.head _));obtain⟨ga,gc,c8⟩:=zG c9;rw[c8] at cf;have f7:(f:Int)<(p.funcs.length:Int):=Zo;have g6:(0:Int)<(p.funcs.length:Int):=Zo;have b4:=(HP.out.1.fn.2 ft.fn (Ji c3))
  have b8:ft.fn.length=ft.blks.length:=by unfold FT.fn;simp
  have j3:ft.blks.length<=2000000:=by have:=b4.1.1;omega
  have d:=Ja (Jb a7 (Jb c3 (Jb d4 (Jb c8 (Jb c9 (Jb b4 b8))))));clear a7 c3 d4 c8 c9 d3 b4 b8 a2
  by_cases f8:0<ft.blks.length
  ·have g9:(0:Int)<(ft.blks.length:Int):=Zo;obtain⟨ii,h7,g4,g3,g2⟩:=info_parts Try.info_irblock;have c7:ft.bv.ownBlock≠some o5:=zC d.out.2.2.2.2.1 l.out.2.1 (.inr Zd);have b3:ft.bv.ownBlock≠some fb:=fun e=>l.out.1.farF d.out.1 e d.out.2.2.1
   have k0:=l.out.1.ge
   have m:=Ja (show((W3.alloc (U #[O,O,A 5,A 0,O] 49)).drew).ownsRow (p1+1+1+1) 49 5 (.slice ga ft.blks.length gc) ft.blks.length (ft.blks.flatMap zz)/\yM ((W3.alloc (U #[O,O,A 5,A 0,O] 49)).drew) 5 (N W3.heap.size 1 1) 1 [O,O,A 5,A 0,O]/\L ((W3.alloc (U #[O,O,A 5,A 0,O] 49)).drew) o5 (R p (some ⟨fb,0,none⟩) r aa2 ac2 y u ba2 bc2) 29/\G ((W3.alloc (U #[O,O,A 5,A 0,O] 49)).drew) fb f (.slice ga ft.blks.length gc)/\T ((W3.alloc (U #[O,O,A 5,A 0,O] 49)).drew) fb f/\some fb≠(Value.slice ga ft.blks.length gc).ownBlock/\(Value.slice ga ft.blks.length gc).ownBlock≠some o5 from by
    have h1:=d.out.2.2.2.2.1;rw[d.out.2.2.2.1] at h1 c7 b3
    exact⟨h1.alloc _,yM.cells (w:=(W3.alloc (U #[O,O,A 5,A 0,O] 49)).drew) (zI (W:=W3) rfl) rfl (by simp[Value.oneCell']),zB l.out.2.1,(Ok W3 _ _ g0).trans cf,(Below.frozen ((Below.refl W3.heap.size W3).alloc (Je _) _) (p:=⟨fb,f,none⟩) g0).trans ff,fun e=>b3 e.symm,c7⟩)
   clear c7 b3 f8;go_upto_region 23 with fail;refine wp_region_noPanic ?_;refine yQ (S:=(fun w'=>G w' o5 0 (N fb p.funcs.length r)/\G w' fb f (.slice ga ft.blks.length gc))) 15 Zk ⟨c0,cf⟩ (fun hHeld=>?_);refine Tl 0 ?_
   try simp only[Yp]
   refine Tl 1 ?_
   try simp only[Yp]
   refine Tl 2 ?_
   try simp only[Yp]
   refine Tl 3 ?_
   try simp only[Yp]
   refine Tl 4 ?_
   try simp only[Yp]
   refine Tl 5 ?_
   try simp only[Yp]
   refine Tl 6 ?_
   try simp only[Yp]
   refine Tl 7 ?_
   try simp only[Yp]
   refine Tl 8 ?_
   try simp only[Yp]
   refine Tl 9 ?_
   try simp only[Yp]
   refine Tl 10 ?_
   try simp only[Yp]
   refine z8 (rs:=[11]) Zk Zs ?_;refine zS.cons (o:=_) rfl (fun K hK=>?_) ?_
   ·skip
    go_simp;refine hK.out _ _ ⟨zA (i:=0) m.out.2.2.1 rfl,m.out.2.2.2.1⟩ (fun hHeld=>?_);clear hK K
    try simp only[Yp]
    refine z8 (rs:=[12]) Zk Zs ?_;refine zS.cons (o:=_) rfl (fun K hK=>?_) ?_
    ·skip
     (refine yG (by rfl) (.tmp 148) (.tmp 151) _ (by rfl) (p1+1+1+1) 49 ii (.agg #[O,O,A 0,A 0,O]) 5 88 Try.underlying35 h7 g4 g3 g2 rfl Zo (.slice ga ft.blks.length gc) (ft.blks.length) (ft.blks.flatMap zz) (by rfl) m.out.1 (N W3.heap.size 1 1) 1 [O,O,A 5,A 0,O] (by rfl) m.out.2.1 (by unfold maxLen;omega) Zo Zt ?_;intro ra rc w9 b5 j d8;have f5:=zL j m.out.2.2.1 m.out.2.2.2.2.2.2;have d1:=zA (i:=0) f5 rfl;have d2:=(j.cell_far ⟨fb,f,none⟩ Zt m.out.2.2.2.2.2.1).trans m.out.2.2.2.1;have df:=(j.frozen_far ⟨fb,f,none⟩ Zt m.out.2.2.2.2.2.1).trans m.out.2.2.2.2.1;have dl:=lt_of_block f5;have HG:=Ja (Jb b5 (Jb j d8));clear b5 j d8;(try dsimp only))
     refine hK.out _ _ ⟨d1,d2⟩ (fun hHeld=>?_);clear hK K
     try simp only[Yp]
     refine z8 (rs:=[13]) Zk Zs ?_;refine zS.cons (o:=_) rfl (fun K hK=>?_) ?_
     ·skip
      go_simp;refine hK.out _ _ Zz (fun hHeld=>?_);clear hK K
      try simp only[Yp]
      refine Tl 14 ?_
      try simp only[Yp]
      refine z8 (rs:=[15]) Zk Zs ?_;refine zS.last (o:=_) rfl (fun K hK=>?_);go_simp;refine hK.out _ _ ?_;clear hK K
      try simp only[Yp]
      refine xj Zk (NoPanic.normal ?_) _;go_upto_region 24 with fail
      have c:=(by
       have f6:=HG.out.2.1;have e9:=d.out.2.2.2.1;rw[<-e9] at f6;refine l.out.1.addB (v':=.slice ra (ft.blks.length+1) rc) d.out.1 d.out.2.2.1 (((Below.refl W3.heap.size W3).alloc (Je _) (U #[O,O,A 5,A 0,O] 49)).drew) f6 HG.out.1 (fun x e=>?_);rcases HG.out.2.2 with e2|e2
       ·left;have e3:=e2.symm.trans e;rw[e9];exact e3
       ·right;have e3:=e2.symm.trans e;simp at e3
        omega)
      generalize b1:w9.setCell ⟨fb,f,none⟩ (.slice ra (ft.blks.length+1) rc)=WF at *;have ho2:=c.ho
      have e0:(zW ({t with funcs:=t.funcs.set f ⟨ft.blks++ [btH],.slice ra (ft.blks.length+1) rc⟩}:PT)).toArray=R p (some ⟨fb,0,none⟩) r aa2 ac2 y u ba2 bc2:=by
       unfold zW
       first|(simp only;done)|(simp only[HV.out.1,HV.out.2.1,HV.out.2.2.1,HV.out.2.2.2,l.out.2.2.2.1,l.out.2.2.2.2])
      rw[e0] at ho2;clear b1 e5 e4 d9 c0 f1 f0 e8 e7 e6 of ol;have x0:=zA (i:=0) ho2 rfl;have x1:=zA (i:=1) ho2 rfl;have x2:=zA (i:=2) ho2 rfl;have x3:=zA (i:=3) ho2 rfl;have x4:=zA (i:=4) ho2 rfl;have x5:=zA (i:=5) ho2 rfl;have xl:=lt_of_block ho2;have y0:=zA (i:=0) c.hr rfl;have y1:=zA (i:=1) c.hr rfl;have y2:=zA (i:=2) c.hr rfl;have y3:=zA (i:=3) c.hr rfl;have y4:=zA (i:=4) c.hr rfl;have y5:=zA (i:=5) c.hr rfl;have yf:∀i,T WF (p1+1+1) i:=fun i=>zE c.hr
      have yl:=lt_of_block c.hr;have a0:=Ja (Jb c e0);clear c ho2 e0;go_wp2;refine bodyPost_ret (v:=.agg (R p (some ⟨fb,0,none⟩) r aa2 ac2 y u ba2 bc2)) ?_ rfl (a0.out.1.ret a0.out.2 ?_)
      ·rw[zM rfl];go_simp
      ·have a4:=HP.out.2.2;have a6:=HP.out.2.1;have b0:=HF.out;have a5:=b2.out;have k2:=d.out.2.2.2.2.2.2;unfold wR rA;rw[a6,b0,show yn q0=18 from a4]
       have e1:wD p.funcs f (fun g=>if g.length=0 then g else g++ [hltB])=p.funcs.set f (ft.fn++ [hltB]):=by
        rw[xI d.out.2.1,if_neg Zo]
       rw[e1,<-a5];unfold PT.prog;simp only[Ox];unfold FT.fn;rw[Js];rfl
     exact zS.nil
    exact zS.nil
   exact zS.nil
  ·have g9:¬(0:Int)<(ft.blks.length:Int):=Zo
   have HN:=Ja (show ∀g,p.funcs[f]? =some g->g.length=0 from fun g hg=>by
    rw[d.out.2.1] at hg;cases hg;have:=d.out.2.2.2.2.2.2
    omega)
   clear f8;go_upto_region 24 with fail;have c:=l.out.1;generalize b1:W3=WF at *;have ho2:=c.ho
   have e0:(zW t).toArray=R p (some ⟨fb,0,none⟩) r aa2 ac2 y u ba2 bc2:=by
    unfold zW
    first|(simp only;done)|(simp only[HV.out.1,HV.out.2.1,HV.out.2.2.1,HV.out.2.2.2,l.out.2.2.2.1,l.out.2.2.2.2])
   rw[e0] at ho2;clear b1 e5 e4 d9 c0 f1 f0 e8 e7 e6 of ol;have x0:=zA (i:=0) ho2 rfl;have x1:=zA (i:=1) ho2 rfl;have x2:=zA (i:=2) ho2 rfl;have x3:=zA (i:=3) ho2 rfl;have x4:=zA (i:=4) ho2 rfl;have x5:=zA (i:=5) ho2 rfl;have xl:=lt_of_block ho2;have y0:=zA (i:=0) c.hr rfl;have y1:=zA (i:=1) c.hr rfl;have y2:=zA (i:=2) c.hr rfl;have y3:=zA (i:=3) c.hr rfl;have y4:=zA (i:=4) c.hr rfl;have y5:=zA (i:=5) c.hr rfl;have yf:∀i,T WF (p1+1+1) i:=fun i=>zE c.hr
   have yl:=lt_of_block c.hr;have a0:=Ja (Jb c e0);clear c ho2 e0;go_wp2;refine bodyPost_ret (v:=.agg (R p (some ⟨fb,0,none⟩) r aa2 ac2 y u ba2 bc2)) ?_ rfl (a0.out.1.ret a0.out.2 ?_)
   ·rw[zM rfl];go_simp
   ·have a4:=HP.out.2.2;have a6:=HP.out.2.1;have b0:=HF.out;have a5:=b2.out;unfold wR;rw[a6,b0,show yn q0=18 from a4,uw (.inl rfl) HN.out];exact a5
 ·have g6:¬(0:Int)<(p.funcs.length:Int):=Zo
  have HN:=Ja (show ∀g,p.funcs[f]? =some g->g.length=0 from fun g hg=>by
   have:=(Jh.1 hg).1
   omega)
  clear b7 a2;go_upto_region 24 with fail;have c:=l.out.1;generalize b1:W3=WF at *;have ho2:=c.ho
  have e0:(zW t).toArray=R p b9 r aa2 ac2 y u ba2 bc2:=by
   unfold zW
   first|(simp only;done)|(simp only[HV.out.1,HV.out.2.1,HV.out.2.2.1,HV.out.2.2.2,l.out.2.2.2.1,l.out.2.2.2.2])
  rw[e0] at ho2;clear b1 e5 e4 d9 c0 f1 f0 e8 e7 e6 of ol;have x0:=zA (i:=0) ho2 rfl;have x1:=zA (i:=1) ho2 rfl;have x2:=zA (i:=2) ho2 rfl;have x3:=zA (i:=3) ho2 rfl;have x4:=zA (i:=4) ho2 rfl;have x5:=zA (i:=5) ho2 rfl;have xl:=lt_of_block ho2;have y0:=zA (i:=0) c.hr rfl;have y1:=zA (i:=1) c.hr rfl;have y2:=zA (i:=2) c.hr rfl;have y3:=zA (i:=3) c.hr rfl;have y4:=zA (i:=4) c.hr rfl;have y5:=zA (i:=5) c.hr rfl;have yf:∀i,T WF (p1+1+1) i:=fun i=>zE c.hr
  have yl:=lt_of_block c.hr;have a0:=Ja (Jb c e0);clear c ho2 e0;go_wp2;refine bodyPost_ret (v:=.agg (R p b9 r aa2 ac2 y u ba2 bc2)) ?_ rfl (a0.out.1.ret a0.out.2 ?_)
  ·rw[zM rfl];go_simp
  ·have a4:=HP.out.2.2;have a6:=HP.out.2.1;have b0:=HF.out;have a5:=b2.out;unfold wR;rw[a6,b0,show yn q0=18 from a4,uw (.inl rfl) HN.out];exact a5
theorem lO{V:PV}{p:IProg}(hp:ProgIn w w.heap.size V p)(hs:SmallP p)(hq:I64 q0/\I64 q1/\I64 q2):
 Y 19 #[yH V p,.agg #[A q0,A q1,A q2]] w (pd w (wR p q0 q1 q2)):=by
 have h:=turnW_lt q0
 by_cases h1:yn q0<=12∨yn q0=19
 ·exact turned_d hp hs hq h1
 by_cases h2:yn q0=13
 ·exact jO hp hs hq h2
 by_cases h3:yn q0=14
 ·exact iT hp hs hq h3
 by_cases g:yn q0=15
 ·exact jf hp hs hq g
 by_cases d:yn q0=16
 ·exact je hp hs hq d
 by_cases c:yn q0=17
 ·exact jX hp hs hq c
 ·exact iE hp hs hq Zo
def TuRet2 (w:World)(p:IProg)(e:Ending)(w':World):Prop:=∃(fa:Option Addr) (fc:Nat) (aa:Option Addr) (ac:Nat) (da:Option Addr) (dc:Nat) (ba:Option Addr) (bc:Nat),e=.returned (.agg (R p fa fc aa ac da dc ba bc))/\
 (∀U,StaysL w.heap.size w' U->ProgIn U U.heap.size ⟨.slice fa p.funcs.length fc,.slice aa p.args.length ac,.slice da p.data.length dc,.slice ba p.banks.length bc⟩ p)/\F w w'
theorem kU{V:PV}{p:IProg}(hp:ProgIn w w.heap.size V p)(hs:SmallP p)(hq:I64 q0/\I64 q1/\I64 q2):
 Y 19 #[yH V p,.agg #[A q0,A q1,A q2]] w (TuRet2 w (wR p q0 q1 q2)):=by
 have h64:=turn_64 hp.p64 q0 q1 q2;refine(lO hp hs hq).mono ?_;generalize wR p q0 q1 q2=p' at *;rintro e w' ⟨t,rfl,d,hr,hb⟩;subst d;obtain⟨fa,fc,h1,_,_⟩:=(PT.in hr h64).funcs.form;obtain⟨aa,ac,h2,_,_⟩:=(PT.in hr h64).args.form;obtain⟨da,dc,h3,_,_⟩:=(PT.in hr h64).data.form;obtain⟨ba,bc,c,_,_⟩:=(PT.in hr h64).banks.form;refine⟨fa,fc,aa,ac,da,dc,ba,bc,?_,fun U hU=>?_,hb⟩
 ·unfold yH;rw[h1,h2,h3,c]
 ·have:=PT.in (hr.keep (w':=U) fun k hk=>hU.kept k (hr.lt hk).1 (hr.lt hk).2) h64;rw[<-h1,<-h2,<-h3,<-c];exact this
theorem StaysL.alloc{L:Nat}{W:World}(h:StaysL L w W)(o:Obj):StaysL L w (W.alloc o):=
 ⟨by simp;exact Nat.le_succ_of_le h.size,h.rest,fun k h1 h2=>(Below.heap_alloc _ _ k (Jy h2 h.size)).trans (h.kept k h1 h2)⟩
end Go.Proofs.Ytojclalkfhoooaa
set_option maxRecDepth 100000
namespace Go.Proofs.Ytojclalkfhoooaa
open Go.ChangeShapes Go.WideShapes Go.ChangeAt Go.RowKit
variable {w:World}{what:Nat}{o:IOp}{q0 q1 q2:Int}
section
variable {H:Type} {enc:TypeId×Value->H} {W:World} {v:Value} {d:DataW H} {p:List MemPlace} {r:Go.Reach} {base:Nat}
theorem jy (hv:Value.okWide Try.prog W r base 23 v)(i:DataW.Trod enc Try.prog W 0 (fun _=>true) true 23 v d p):∃q0 q1 q2:Int,v=.agg #[.int .i64 q0,.int .i64 q1,.int .i64 q2]/\(I64 q0/\I64 q1/\I64 q2):=by
 have c2:Try.prog.cellsOf 23=3:=by kernel_rfl
 have c1:Try.prog.cellsOf 3=1:=by kernel_rfl
 simp only[Value.okWide,Try.underlying23] at hv;obtain⟨cs,rfl,g,_⟩:=hv;rw[c2] at g;obtain⟨fuel,hf⟩:=i;simp only[Value.cells] at hf;obtain⟨zs,e,hl,h⟩:=acP Try.underlying23 Try.underlying3 c1 (by simpa using g) hf
 obtain⟨a,b,c,rfl⟩:∃a b c,zs=[a,b,c]:=by
  match zs,hl with
  | [a,b,c],_=>exact⟨a,b,c,rfl⟩
 refine⟨a,b,c,?_,kX (h a Zs),kX (h b Zs),kX (h c Zs)⟩
 have e2:cs=#[.int .i64 a,.int .i64 b,.int .i64 c]:=by
  rw[<-Array.toArray_toList (xs:=cs),e];rfl
 rw[e2]
end
open Go.RowKit
section
variable {W W':World} {b:Nat} {p:IProg} {fa aa da ba:Option Addr} {fc ac dc bc:Nat}
theorem PBx.new2 {L:Nat}(h:∀U,StaysL L W U->ProgIn U U.heap.size ⟨.slice fa p.funcs.length fc,.slice aa p.args.length ac,.slice da p.data.length dc,.slice ba p.banks.length bc⟩ p):PBx (W.alloc (.cells (aZ p fa fc aa ac da dc ba bc) 29)) W.heap.size p fa fc aa ac da dc ba bc:=
 ⟨zI rfl,h _ ((StaysL.refl _ _).alloc _)⟩
end
structure QBx (W:World) (b:Nat) (q0 q1 q2:Int):Prop where
 blk:W.heap[b]? =some (.cells #[.int .i64 q0,.int .i64 q1,.int .i64 q2] 23 (0,0))
section
variable {W W':World} {b:Nat} {q0 q1 q2:Int}
theorem QBx.below (h:QBx W b q0 q1 q2)(hb:F W W'):QBx W' b q0 q1 q2:=⟨zH hb h.blk (lt_of_block h.blk)⟩
theorem QBx.c0 (h:QBx W b q0 q1 q2):G W b 0 (A q0):=zA h.blk Zs
theorem QBx.c1 (h:QBx W b q0 q1 q2):G W b 1 (A q1):=zA h.blk Zs
theorem QBx.c2 (h:QBx W b q0 q1 q2):G W b 2 (A q2):=zA h.blk Zs
end
end Go.Proofs.Ytojclalkfhoooaa
