/- Part of a proof. -/
import Derived.Test.YtoahcpkibpomcaaGreatGZwk
set_option linter.all false
set_option maxHeartbeats 16000000
set_option maxRecDepth 100000
namespace Go.Proofs.YtoahcpkibpomcaaGreat
open Go.RowKit
variable {w w' w0:World}{K:SK}{X0:Nat->Prop}{M M0:MS}{c d i k:Nat}{o:IOp}{a0:Rg}
theorem OpSt.op{K:MKC}(h:OpSt w0 K X0 M0 c w M)(i:M0.sz+(c+20)<=1000000):
 I 111 #[F K.pm] w fun e w'=>e=.returned (.tuple #[])/\Hid (OpSt w0 K X0 M0 (c+20) w' (xK K.E M)):=by
 obtain⟨X,hm,hs⟩:=h.made;refine(op_any hm h.cur (by have:=h.gr.sz;omega)).mono ?_;rintro e w' ⟨rfl,X',g,d⟩;have hg:=pX K.E hm.alt M;exact⟨rfl,Ja ⟨⟨X',g,hs.trans d⟩,h.gr.trans hg.p,by rw[hg.cur,hg.len];exact h.cur⟩⟩
theorem OpSt.mono{K:MKC}{c':Nat}(h:OpSt w0 K X0 M0 c w M)(d:c<=c'):OpSt w0 K X0 M0 c' w M:=⟨h.made,h.gr.mono d,h.cur⟩
theorem sU.of(h:∀(w:World) (K:MKC) (X:Nat->Prop) (M:MS),OpSt w K X M 0 w M->M.sz+pC d<=1000000->I 57 #[F K.pm,U d] w (yk K X w (zp K.E d M) (.tuple #[]))):sU d:=
 fun w K X M hm hc hz=>h w K X M (OpSt.start hm hc) hz
theorem OpSt.choice{K:MKC}(h:OpSt w0 K X0 M0 c w M)(m:d<=5)(o:sU d)(n:Nat)(nI:Int)(j:(n:Int)=nI)(k:2<=n)(g:n<=4)(t:M0.sz+(c+(31+4*pC d))<=1000000):
 I 112 #[F K.pm,U ((d:Int)+1),U nI] w fun e w'=>e=.returned (.tuple #[])/\Hid (OpSt w0 K X0 M0 (c+(31+4*pC d)) w' (xi K.E (zp K.E d) n M)):=by
 obtain⟨X,hm,hs⟩:=h.made;rw[<-j];refine(lH m o hm h.cur k g (by have:=h.gr.sz;omega)).mono ?_;rintro e w' ⟨rfl,X',l,i⟩;have hg:=uU K.E _ _ (xw K.E hm.alt d) n g M;exact⟨rfl,Ja ⟨⟨X',l,hs.trans i⟩,h.gr.trans hg,hg.cur h.cur⟩⟩
theorem OpSt.loop{K:MKC}(h:OpSt w0 K X0 M0 c w M)(j:d<=5)(k:sU d)(l:M0.sz+(c+(24+pC d))<=1000000):
 I 113 #[F K.pm,U ((d:Int)+1)] w fun e w'=>e=.returned (.tuple #[])/\Hid (OpSt w0 K X0 M0 (c+(24+pC d)) w' (tH K.E (zp K.E d) M)):=by
 obtain⟨X,hm,hs⟩:=h.made;refine(loop_any j k hm h.cur (by have:=h.gr.sz;omega)).mono ?_;rintro e w' ⟨rfl,X',i,g⟩;have hg:=qg K.E _ _ (xw K.E hm.alt d) M;exact⟨rfl,Ja ⟨⟨X',i,hs.trans g⟩,h.gr.trans hg,hg.cur h.cur⟩⟩
theorem OpSt.counted{K:MKC}(h:OpSt w0 K X0 M0 c w M)(hp:M0.pos<M.pos)(hl:M.left=M0.left)(d:6<=M0.left+M0.pos):OpSt w0 K X0 M0 c (w.setCell ⟨K.pm,8,none⟩ (U (M.left-1))) {M with left:=M.left-1 }:=by
 obtain⟨X,⟨fv,vv,l,hi⟩,hs⟩:=h.made;have h1:6<=(M.left-1)+(M.pos:Int):=Zo;have h2:=hi.setC 8 (U (M.left-1)) {M with left:=M.left-1 } vv rfl rfl hi.vown hi.v64 hi.xv hi.bnd ⟨h1,by have:=hi.lft;show M.left-1<=6;omega⟩;have g:=h.gr;exact⟨⟨X,h2.1.at,hs.trans h2.2⟩,⟨g.pos,g.sz,g.len,g.nxt,g.pre,g.cur,by have:=g.left;show M.left-1<=_;omega,fun _=>h1,g.par⟩,h.cur⟩
theorem km:sU 0:=sU.of fun w K X M h hz=>by
 have d:=Ja (Jb h hz);clear h hz
 show I 57 #[F K.pm,U 0] w _
 go_enter Tryz.func57,Tryz.ntmps57;go_wp2_with (go_at_call 55;go_must (refine(d.out.1.take 5 Zd Zd (by have:=d.out.2;unfold pC at this;omega)).mono ?_;rintro e w1 ⟨t,ht,o,rfl,m⟩))
 go_loopw [4] (fun kv wx=>∃(kI:Int) (Mj:MS),-1<=kI/\kI<=(t:Int)/\kv=U kI/\Hid (OpSt w K X M (1+20*((t:Int)-kI).toNat) wx Mj/\qY K.E (t+1) M.tick=qY K.E (kI+1).toNat Mj/\Mj.left=M.left/\M.pos<Mj.pos)) (fun kv _=>(intOf kv+1).toNat)
 case atStart=>exact⟨_,_,by omega,by omega,rfl,Ja ⟨m.out.mono Zo,by congr 1,rfl,Nat.lt_succ_self _⟩⟩
 case round=>
  obtain⟨kI,Mj,a3,a2,rfl,c⟩:=hrel
  by_cases h0:0<=kI
  ·have u:=Ja (c.out.1.op (by have:=d.out.2;unfold pC at this;omega));go_wp2_with (go_at_call 111;go_must (refine u.out.mono ?_;rintro e w2 ⟨rfl,k⟩))
   go_roundw
   case rel=>
    have hg:=pX K.E (by obtain⟨X',hm,_⟩:=c.out.1.made;exact hm.alt) Mj;refine⟨kI-1,_,by omega,by omega,rfl,Ja ⟨k.out.mono Zo,?_,hg.left.trans c.out.2.2.1,Jy c.out.2.2.2 hg.pos⟩⟩;rw[c.out.2.1,show(kI+1).toNat=(kI-1+1).toNat+1 by omega];rfl
   case measure=>simp[intOf];omega
  ·obtain rfl:kI=-1:=by omega
   obtain⟨X',fv,vv,l,hi,hs⟩:=c.out.1.facts
   have g:6<=M.left+M.pos:=by
    obtain⟨_,_,_,_,j,_⟩:=d.out.1.facts;exact j.lft.1
   have i:=c.out.1.counted c.out.2.2.2 c.out.2.2.1 g;have c8:=hi.c8;have f8:=hi.free 8;have a0:=lt_of_block hi.blk;have a1:=hi.lft;have a4:(Mj.pos:Int)<=1000000:=by have:=hi.bnd;unfold MS.sz at this;omega
   have y:IntKind.i64.wrap (Mj.left-1)=Mj.left-1:=Om _ Zo;have x:=Ja i;clear hi hs i g;go_wp2
   first|go_end0|refine bodyPost_ret (results_none rfl _ _ _) rfl ?_
   have e:zp K.E 0 M= {Mj with left:=Mj.left-1 }:=by
    show tR K.E M=_
    unfold tR;simp only;rw[o.out,c.out.2.1];rfl
   rw[e];exact x.out.ret
theorem jB(hd:d<=5)(hP:sU d):sU (d+1):=sU.of fun w K X M h hz=>by
 have a2:pC (d+1)=134+4*pC d:=rfl;rw[a2] at hz;have i:=Ja (Jb h hz);have a0:=Ja hP;clear h hz hP a2;have c4:¬((d:Int)+1<1):=Zo;have c5:decide ((d:Int)+1<1)=false:=by rw[decide_eq_false_iff_not];omega
 rw[show((d+1:Nat):Int)=(d:Int)+1 from Int.natCast_succ d];go_enter Tryz.func57,Tryz.ntmps57;go_wp2_with (go_at_call 55;go_must (refine(i.out.1.take 5 Zd Zd (by have:=i.out.2;omega)).mono ?_;rintro e w1 ⟨t,ht,HT,rfl,b8⟩))
 go_loopw [4] (fun kv wx=>∃(kI:Int) (Mj:MS),-1<=kI/\kI<=(t:Int)/\kv=U kI/\Hid (OpSt w K X M (1+20*((t:Int)-kI).toNat) wx Mj/\qY K.E (t+1) M.tick=qY K.E (kI+1).toNat Mj/\Mj.left=M.left/\M.pos<Mj.pos)) (fun kv _=>(intOf kv+1).toNat)
 case atStart=>exact⟨_,_,by omega,by omega,rfl,Ja ⟨b8.out.mono Zo,by congr 1,rfl,Nat.lt_succ_self _⟩⟩
 case round=>
  obtain⟨kI,Mj,c3,c2,rfl,m⟩:=hrel
  by_cases h0:0<=kI
  ·have HO:=Ja (m.out.1.op (by have:=i.out.2;omega));go_wp2_with (go_at_call 111;go_must (refine HO.out.mono ?_;rintro e w2 ⟨rfl,b7⟩))
   go_roundw
   case rel=>
    have hg:=pX K.E (by obtain⟨X',hm,_⟩:=m.out.1.made;exact hm.alt) Mj;refine⟨kI-1,_,by omega,by omega,rfl,Ja ⟨b7.out.mono Zo,?_,hg.left.trans m.out.2.2.1,Jy m.out.2.2.2 hg.pos⟩⟩;rw[m.out.2.1,show(kI+1).toNat=(kI-1+1).toNat+1 by omega];rfl
   case measure=>simp[intOf];omega
  ·obtain rfl:kI=-1:=by omega
   obtain⟨X',fv,vv,l,hi,hs⟩:=m.out.1.facts
   have a6:6<=M.left+M.pos:=by
    obtain⟨_,_,_,_,b1,_⟩:=i.out.1.facts;exact b1.lft.1
   have a1:=m.out.1.counted m.out.2.2.2 m.out.2.2.1 a6;have c8:=hi.c8;have f8:=hi.free 8;have c0:=lt_of_block hi.blk;have b0:=hi.lft;have b2:(Mj.pos:Int)<=1000000:=by have:=hi.bnd;unfold MS.sz at this;omega
   have a7:IntKind.i64.wrap (Mj.left-1)=Mj.left-1:=Om _ Zo;obtain⟨M2,x⟩:∃M2:MS,{Mj with left:=Mj.left-1 }=M2:=⟨_,rfl⟩
   rw[x] at a1
   have e2:tR K.E M=M2:=by
    rw[<-x];unfold tR;simp only;rw[HT.out,m.out.2.1];rfl
   have c7:=World.cell?_setCell_same _ _ (U (Mj.left-1)) c8;have a5:Mj.left-1=M2.left:=by rw[<-x]
   have o:=Ja (Jb (a1.mono (show 1+20*((t:Int) - -1).toNat<=101 by omega)) (Jb e2 a5));clear hi hs a1 a6 x e2 a5;go_upto_region 5 with fail;generalize b3:wr.setCell ⟨K.pm,8,none⟩ (U (Mj.left-1))=W2 at *;generalize hL:Mj.left-1=L at *;clear c8 f8 a7 b0 b2 b3 hL m
   by_cases y:L<1
   ·have b4:decide (L<1)=true:=by rw[decide_eq_true_iff];exact y
    go_wp2
    first|go_end0|refine bodyPost_ret (results_none rfl _ _ _) rfl ?_
    have e:zp K.E (d+1) M=M2:=by
     unfold zp;simp only;rw[o.out.2.1,if_pos (by rw[<-o.out.2.2];exact y)]
    rw[e];exact o.out.1.ret
   ·have b4:decide (L<1)=false:=by rw[decide_eq_false_iff_not];exact y
    have a4:zp K.E (d+1) M=if tkV K.E M2 5=1∨tkV K.E M2 5=2 then xi K.E (zp K.E d) 2 M2.tick else if tkV K.E M2 5=3 then tH K.E (zp K.E d) M2.tick else if tkV K.E M2 5=4 then xi K.E (zp K.E d) (2+tkV K.E M2.tick 3) M2.tick.tick else M2.tick:=by
     conv=>lhs;unfold zp
     simp only;rw[o.out.2.1,if_neg (by rw[<-o.out.2.2];exact y)]
    have u:=Ja a4;clear a4;have a3:=aaE K.E M2 (n:=5) Zo;obtain⟨k,hk⟩:∃k,tkV K.E M2 5=k:=⟨_,rfl⟩
    rw[hk] at a3;have c:=Ja hk;clear hk
    match k,a3,c with
    |0,_,c=>
     go_wp2_with (go_at_call 55;go_must (refine(o.out.1.takeK 5 0 0 rfl c.out Zd Zd (by have:=i.out.2;omega)).mono ?_;rintro e w3 ⟨rfl,g⟩))
     first|go_end0|refine bodyPost_ret (results_none rfl _ _ _) rfl ?_
     rw[u.out,c.out]
     exact g.out.ret
    |1,_,c=>
     go_wp2_with (first|(go_at_call 55;go_must (refine(o.out.1.takeK 5 1 1 rfl c.out Zd Zd (by have:=i.out.2;omega)).mono ?_;rintro e w3 ⟨rfl,g⟩))|(go_at_call 112;go_must (refine(g.out.choice hd a0.out 2 2 rfl Zd Zd (by have:=i.out.2;omega)).mono ?_;rintro e w4 ⟨rfl,j⟩)))
     first|go_end0|refine bodyPost_ret (results_none rfl _ _ _) rfl ?_
     rw[u.out,c.out]
     exact j.out.ret
    |2,_,c=>
     go_wp2_with (first|(go_at_call 55;go_must (refine(o.out.1.takeK 5 2 2 rfl c.out Zd Zd (by have:=i.out.2;omega)).mono ?_;rintro e w3 ⟨rfl,g⟩))|(go_at_call 112;go_must (refine(g.out.choice hd a0.out 2 2 rfl Zd Zd (by have:=i.out.2;omega)).mono ?_;rintro e w4 ⟨rfl,j⟩)))
     first|go_end0|refine bodyPost_ret (results_none rfl _ _ _) rfl ?_
     rw[u.out,c.out]
     exact j.out.ret
    |3,_,c=>
     go_wp2_with (first|(go_at_call 55;go_must (refine(o.out.1.takeK 5 3 3 rfl c.out Zd Zd (by have:=i.out.2;omega)).mono ?_;rintro e w3 ⟨rfl,g⟩))|(go_at_call 113;go_must (refine(g.out.loop hd a0.out (by have:=i.out.2;omega)).mono ?_;rintro e w4 ⟨rfl,j⟩)))
     first|go_end0|refine bodyPost_ret (results_none rfl _ _ _) rfl ?_
     rw[u.out,c.out]
     exact j.out.ret
    |4,_,c=>
     have HG:=Ja o.out.1;go_wp2_with (first|(go_at_call 55;refine(HG.out.takeK 5 4 4 rfl c.out Zd Zd (by have:=i.out.2;omega)).mono ?_;clear HG;rintro e w3 ⟨rfl,g⟩)|(go_at_call 55;refine(g.out.take 3 Zd Zd (by have:=i.out.2;omega)).mono ?_;clear g;rintro e w4 ⟨z,b9,b5,rfl,j⟩)|(go_at_call 112;refine(j.out.choice hd a0.out (2+z) (2+(z:Int)) Zo Zo Zo (by have:=i.out.2;omega)).mono ?_;rintro e w5 ⟨rfl,b6⟩))
     first|go_end0|refine bodyPost_ret (results_none rfl _ _ _) rfl ?_
     rw[u.out,c.out,b5.out]
     exact b6.out.ret
    |k+5,h,_=>exact absurd h Zo
theorem pW:∀d,d<=5->sU d
 |0,_=>km
 |d+1,h=>jB Zo (pW d Zo)
theorem mG (l:List Nat):(y9 l).size=l.length:=by
 unfold y9 strOfNums
 show Array.size _=_
 simp
theorem Tryz.info_obj:(Tryz.prog.info? 89).map (fun i=>(i.zero,i.size,i.bytes))=some (some (.agg #[U 0,O 0,O 0]),3,16):=by kernel_rfl
theorem Tryz.info_str:(Tryz.prog.info? 9).map (fun i=>(i.zero,i.size,i.bytes))=some (some (.string ⟨#[]⟩),1,16):=by kernel_rfl
theorem oe{α:Type}{sz:Nat}{R:World->Nat->Nat->Nat->α->Prop}{f:α->List Value}(c:0<sz)(hf:∀a,(f a).length=sz)(h1:∀a,∀u∈f a,u.oneCell'=true){B:Nat}{v:Value}{xs:List α}(h:yN sz R w B v xs)
 (hR:∀b q x,R w B b q x->∀j u,(f x)[j]? =some u->A w b (q+j) u):yM w sz v xs.length (xs.flatMap f):=by
 obtain⟨a,m,rfl,h2,h3,l⟩:=h;refine⟨a,m,rfl,aeS f sz hf xs,fun u hu=>?_,?_⟩
 ·obtain⟨x,_,t⟩:=Qx.1 hu;exact h1 x u t
 ·cases xs with
  |nil=>
   cases a with
   |none=>exact .inl ⟨rfl,rfl⟩
   |some ad=>exact .inr ⟨ad,rfl,fun j u hu=>by simp at hu⟩
  |cons x xs=>
   obtain⟨b,o,rfl,_,_⟩:=l 0 x rfl;refine .inr ⟨_,rfl,fun j u hu=>?_⟩
   have i:j<(x::xs).length*sz:=by
    have:=(Jh.1 hu).1;rw[aeS f sz hf] at this;exact this
   have hk:j/sz<(x::xs).length:=by
    rw[Nat.div_lt_iff_lt_mul c];exact i
   obtain⟨y,d⟩:∃y,(x::xs)[j/sz]? =some y:=⟨_,Jd hk⟩
   obtain⟨b',o',e,_,hr⟩:=l (j/sz) y d;cases e;have hm:=Qj j c;have hj:j=(j/sz)*sz+j%sz:=by rw[Nat.mul_comm];exact(Nat.div_add_mod j sz).symm
   have g:(f y)[j%sz]? =some u:=by
    have k:=uB f sz hf (x::xs) (j/sz) y d (j%sz) hm;rw[<-hj] at k;rw[<-k];exact hu
   have h6:=hR _ _ _ hr (j%sz) u g
   have e2:(⟨b,o,none⟩:Addr).add j=⟨b,o+j,none⟩:=by
    unfold Addr.add
    split
    ·rename_i h0;rw[h0];rfl
    ·rfl
   rw[e2,show o+j=o+(j/sz)*sz+j%sz by omega];exact h6
theorem kQ:∀(w:World) (B b q:Nat) (x:IObj),ObjR w B b q x->∀(j:Nat) (u:Value),(xP x)[j]? =some u->A w b (q+j) u:=fun w B b q x h j u hj=>by
 obtain⟨c,h1,h2,_⟩:=h
 match j,hj with
 |0,hj=>cases hj;exact c
 |1,hj=>cases hj;exact h1
 |2,hj=>cases hj;exact h2
 |j+3,hj=>simp[xP] at hj
theorem strs_src{B:Nat}{v:Value}{xs:List ByteArray}(h:adu w B v xs):yM w 1 v xs.length (xs.map .string):=by
 have h1:=oe (f:=fun s:ByteArray=> [Value.string s]) (sz:=1) Zd (fun _=>rfl) (fun a u hu=>by rw[Jo] at hu;subst hu;rfl) h (fun b q x hx j u hj=>by
  match j,hj with
  |0,hj=>cases hj;exact hx.1
  |j+1,hj=>simp at hj)
 rw[<-Qh] at h1;exact h1
theorem vz{B r2:Nat}{t:PT}{cs:Array Value}{u:Value}(h:Rows w B t.rows)(h2:Q w r2 cs 29):Rows (w.setCell ⟨r2,i,none⟩ u) B t.rows:=by
 refine h.keep fun k hk=>Below.heap_setCell _ _ _ _ (fun e=>?_)
 obtain⟨x,d,c⟩:=Nj.1 hk;have e':k=r2:=e;subst e';exact zC (h.own x d) h2 (.inr (vr x d)) c
def pt0 (en hn:Int):PT:=⟨[],L,[],L,[],L,[],L,en,hn⟩
theorem pt0_rows{B:Nat}{en c:Int}:Rows w B (pt0 en c).rows:=by
 show Rows w B [wY (L) [],zP (L) [],vK (L) [],v8 (L) []]
 refine(((Rows.nil.cons (Jv _ _ _ _) ?_).cons (Jv _ _ _ _) ?_).cons (Jv _ _ _ _) ?_).cons (Jv _ _ _ _) ?_
 all_goals (intro g e;simp[Row.blk,v8,vK,zP,wY,Value.ownBlock] at e)
structure SmallP (p:IProg):Prop where
 fn:p.funcs.length<=2000000/\∀f∈p.funcs,vZ f/\jx f
 ar:p.args.length<=2000000
 da:p.data.length<=2000000
 ba:p.banks.length<=2000000
theorem own_any{V:PV}{p:IProg}(hp:ProgIn w w.heap.size V p)(hs:SmallP p):
 I 18 #[yH V p] w (fun e w'=>∃t:PT,e=.returned (yH t.V p)/\t.prog=p/\Rows w' w.heap.size t.rows/\Y w w'):=by
 obtain⟨fa,fc,e9,m3,m1⟩:=hp.funcs.form;obtain⟨aa,ac,f3,n3,n1⟩:=hp.args.form;obtain⟨da,dc,f0,m6,m4⟩:=hp.data.form;obtain⟨ba,bc,f1,j3,m7⟩:=hp.banks.form;obtain⟨p1,d0⟩:∃p1,w.heap.size=p1:=⟨_,rfl⟩
 have m2:=hs.fn.1;have n2:=hs.ar;have m5:=hs.da;have f2:=hs.ba;have i8:ProgIn w w.heap.size ⟨.slice fa p.funcs.length fc,.slice aa p.args.length ac,.slice da p.data.length dc,.slice ba p.banks.length bc⟩ p:=⟨by show iS _ _ _ _;rw[<-e9];exact hp.funcs,by show zY _ _ _ _;rw[<-f3];exact hp.args,by show kq _ _ _ _;rw[<-f0];exact hp.data,by show adu _ _ _ _;rw[<-f1];exact hp.banks,hp.ent,hp.hnd⟩
 have HP:=Ja (Jb i8 (Jb hs (Jb d0 (Jb e9 (Jb f3 (Jb f0 f1))))));unfold yH;rw[e9,f3,f0,f1];clear hp i8 hs e9 f3 f0 f1;have j5:Y w (((w.alloc (G (D p fa fc aa ac da dc ba bc) 29)).alloc (G #[L,L,U 0,U 0,L,L] 29)).alloc (G #[L,L,U p.entry,U p.handler,L,L] 29)):=(((Below.refl _ _).alloc (Je _) _).alloc Zs _).alloc Zt _;have f4:=zB (o:=G #[L,L,U p.entry,U p.handler,L,L] 29) (zB (o:=G #[L,L,U 0,U 0,L,L] 29) (zI (W:=w) (o:=G (D p fa fc aa ac da dc ba bc) 29) rfl));have e1:=zB (o:=G #[L,L,U p.entry,U p.handler,L,L] 29) (zI (W:=w.alloc (G (D p fa fc aa ac da dc ba bc) 29)) (o:=G #[L,L,U 0,U 0,L,L] 29) rfl);have e0:=zI (W:=(w.alloc (G (D p fa fc aa ac da dc ba bc) 29)).alloc (G #[L,L,U 0,U 0,L,L] 29)) (o:=G #[L,L,U p.entry,U p.handler,L,L] 29) rfl;have i1:(w.alloc (G (D p fa fc aa ac da dc ba bc) 29)).heap.size=w.heap.size+1:=by simp
 have i0:((w.alloc (G (D p fa fc aa ac da dc ba bc) 29)).alloc (G #[L,L,U 0,U 0,L,L] 29)).heap.size=w.heap.size+1+1:=by simp
 rw[i1] at e1;rw[i0] at e0;clear i1 i0;go_enter Tryz.func18,Tryz.ntmps18;go_upto_region 2 with fail;generalize f9:((w.alloc (G (D p fa fc aa ac da dc ba bc) 29)).alloc (G #[L,L,U 0,U 0,L,L] 29)).alloc (G #[L,L,U p.entry,U p.handler,L,L] 29)=W1 at *;rw[d0] at f4 e1 e0;generalize k5:p1+1+1=q3 at *;generalize k4:p1+1=r2 at *;have f8:p1<r2/\r2<q3:=Zo;obtain⟨t0,f5⟩:∃t0,pt0 p.entry p.handler=t0:=⟨_,rfl⟩
 have c8:OwMid w p1 r2 q3 ⟨.slice fa p.funcs.length fc,.slice aa p.args.length ac,.slice da p.data.length dc,.slice ba p.banks.length bc⟩ p t0 W1:=⟨f4,e1,by rw[<-f5];exact e0,by rw[<-d0];exact j5,by rw[<-f5];exact pt0_rows,f8⟩
 have d6:=Ja f5;clear j5 f4 e1 e0 f9 k5 k4 f8;have c4:=HP.out.1;have a1:Y w W1:=by rw[d0];exact c8.bel
 have b8:yM W1 1 (.slice aa p.args.length ac) (p.args.length) (p.args.map zN):=zY.src (c4.args.below zO a1);have qc:=zA (i:=1) c8.h3 rfl;have qs:A W1 q3 1 (L):=by rw[qc];rw[<-d6.out];rfl
 have ql:=lt_of_block c8.h3;have pc:=zA (i:=1) c8.h1 rfl;have pl:=lt_of_block c8.h1;have d1:=c8.sz;have g5:=Ja (Jb c8 b8);have b9:W1.ownsRow p1 3 1 (L) 0 []:=Jv _ _ _ _;obtain⟨ij,c2,a5,a4,a3⟩:=info_parts Tryz.info_int;clear c8 b8 c4 a1 qc;go_upto_region 3 with(at_builtin;go_must (refine zK _ rfl (.tmp 11) (.tmp 13) 22 rfl p1 3 ij (U 0) 1 8 Tryz.underlying22 c2 a5 a4 a3 rfl Zd (L) 0 [] rfl b9 (.slice aa p.args.length ac) (p.args.length) (p.args.map zN) rfl g5.out.2 (by unfold maxLen;omega) Zo Zo ?_;intro v9 w9 d g h;obtain⟨a0,y,rfl⟩:=zG d;have a2:=zL g g5.out.1.h3 (by simp[Value.ownBlock]);have d3:=zA (i:=1) a2 rfl;have d2:N w9 q3 1:=zE a2;have c9:=lt_of_block a2;have l:=Ja (Jb d (Jb g h));clear d g h a2))
 have d:=l.out.1;have h:=l.out.2.2;rw[Ng,Op] at d;rw[Ng] at h;obtain⟨t1,e6⟩:∃t1:PT,{t0 with args:=p.args,av:=.slice a0 (p.args.length) y }=t1:=⟨_,rfl⟩
 have c7:OwMid w p1 r2 q3 ⟨.slice fa p.funcs.length fc,.slice aa p.args.length ac,.slice da p.data.length dc,.slice ba p.banks.length bc⟩ p t1 (w9.setCell ⟨q3,1,none⟩ (.slice a0 (p.args.length) y)):=by
  rw[<-e6];refine g5.out.1.grow (r:=zP t0.av t0.args) (r':=zP (.slice a0 (p.args.length) y) (p.args)) (ns:=[]) (rs:=wY t0.fv t0.funcs::vK t0.dv t0.data::v8 t0.bv t0.banks::t0.funcs.flatMap FT.rows) ?_ (Below.refl _ _) Rows.nil ?_ d (fun x e=>?_) ?_ rfl
  ·classical
   unfold PT.rows;refine Jp.2 fun r=>?_
   simp only[Nb,Nf,Op];omega
  ·rw[show(zP t0.av t0.args).blk=none by rw[<-d6.out];rfl];exact l.out.2.1
  ·rcases h with e2|e2
   ·have e3:=e2.symm.trans e;simp[Value.ownBlock] at e3
   ·right;have e3:=e2.symm.trans e;simp at e3;omega
  ·classical
   unfold PT.rows;refine Jp.2 fun r=>?_
   simp only[Nb,Nf,Op];omega
 generalize f9:w9.setCell ⟨q3,1,none⟩ (.slice a0 (p.args.length) y)=V1 at *;rw[<-d6.out] at e6;have g2:=Ja e6;clear l d h f9 d3 d2 c9 qs ql pc pl b9 d1 e6 c2 a5 a4 a3 ij;have c4:=HP.out.1;have a1:Y w V1:=by rw[d0];exact c7.bel
 have b8:yM V1 3 (.slice da p.data.length dc) (p.data.length) (p.data.flatMap xP):=oe (f:=xP) Zd sk (by simp[xP,Value.oneCell']) (c4.data.below tZ a1) (fun b q x hx=>kQ _ _ b q x hx);have qc:=zA (i:=4) c7.h3 rfl;have qs:A V1 q3 4 (L):=by rw[qc];rw[<-g2.out];rfl
 have ql:=lt_of_block c7.h3;have pc:=zA (i:=4) c7.h1 rfl;have pl:=lt_of_block c7.h1;have d1:=c7.sz;have g4:=Ja (Jb c7 b8);have b9:V1.ownsRow p1 89 3 (L) 0 []:=Jv _ _ _ _;obtain⟨ij,c2,a5,a4,a3⟩:=info_parts Tryz.info_obj;clear c7 b8 c4 a1 qc;go_upto_region 4 with(at_builtin;go_must (refine zK _ rfl (.tmp 17) (.tmp 19) 26 rfl p1 89 ij (.agg #[U 0,O 0,O 0]) 3 16 Tryz.underlying26 c2 a5 a4 a3 rfl Zd (L) 0 [] rfl b9 (.slice da p.data.length dc) (p.data.length) (p.data.flatMap xP) rfl g4.out.2 (by unfold maxLen;omega) Zo Zo ?_;intro v9 w9 d g h;obtain⟨a7,a6,rfl⟩:=zG d;have a2:=zL g g4.out.1.h3 (by simp[Value.ownBlock]);have d3:=zA (i:=4) a2 rfl;have d2:N w9 q3 4:=zE a2;have c9:=lt_of_block a2;have l:=Ja (Jb d (Jb g h));clear d g h a2))
 have d:=l.out.1;have h:=l.out.2.2;rw[Ng,Op] at d;rw[Ng] at h;obtain⟨t2,e5⟩:∃t2:PT,{t1 with data:=p.data,dv:=.slice a7 (p.data.length) a6 }=t2:=⟨_,rfl⟩
 have c5:OwMid w p1 r2 q3 ⟨.slice fa p.funcs.length fc,.slice aa p.args.length ac,.slice da p.data.length dc,.slice ba p.banks.length bc⟩ p t2 (w9.setCell ⟨q3,4,none⟩ (.slice a7 (p.data.length) a6)):=by
  rw[<-e5];refine g4.out.1.grow (r:=vK t1.dv t1.data) (r':=vK (.slice a7 (p.data.length) a6) (p.data)) (ns:=[]) (rs:=wY t1.fv t1.funcs::zP t1.av t1.args::v8 t1.bv t1.banks::t1.funcs.flatMap FT.rows) ?_ (Below.refl _ _) Rows.nil ?_ d (fun x e=>?_) ?_ rfl
  ·classical
   unfold PT.rows;refine Jp.2 fun r=>?_
   simp only[Nb,Nf,Op];omega
  ·rw[show(vK t1.dv t1.data).blk=none by rw[<-g2.out];rfl];exact l.out.2.1
  ·rcases h with e2|e2
   ·have e3:=e2.symm.trans e;simp[Value.ownBlock] at e3
   ·right;have e3:=e2.symm.trans e;simp at e3;omega
  ·classical
   unfold PT.rows;refine Jp.2 fun r=>?_
   simp only[Nb,Nf,Op];omega
 generalize k9:w9.setCell ⟨q3,4,none⟩ (.slice a7 (p.data.length) a6)=V2 at *;rw[<-g2.out] at e5;have g1:=Ja e5;clear l d h k9 d3 d2 c9 qs ql pc pl b9 d1 e5 c2 a5 a4 a3 ij;have c4:=HP.out.1;have a1:Y w V2:=by rw[d0];exact c5.bel
 have b8:yM V2 1 (.slice ba p.banks.length bc) (p.banks.length) (p.banks.map .string):=strs_src (c4.banks.below tN a1);have qc:=zA (i:=5) c5.h3 rfl;have qs:A V2 q3 5 (L):=by rw[qc];rw[<-g1.out];rfl
 have ql:=lt_of_block c5.h3;have pc:=zA (i:=5) c5.h1 rfl;have pl:=lt_of_block c5.h1;have d1:=c5.sz;have g3:=Ja (Jb c5 b8);have b9:V2.ownsRow p1 9 1 (L) 0 []:=Jv _ _ _ _;obtain⟨ij,c2,a5,a4,a3⟩:=info_parts Tryz.info_str;clear c5 b8 c4 a1 qc;go_upto_region 5 with(at_builtin;go_must (refine zK _ rfl (.tmp 23) (.tmp 25) 27 rfl p1 9 ij (.string ⟨#[]⟩) 1 16 Tryz.underlying27 c2 a5 a4 a3 rfl Zd (L) 0 [] rfl b9 (.slice ba p.banks.length bc) (p.banks.length) (p.banks.map .string) rfl g3.out.2 (by unfold maxLen;omega) Zo Zo ?_;intro v9 w9 d g h;obtain⟨b7,rc3,rfl⟩:=zG d;have a2:=zL g g3.out.1.h3 (by simp[Value.ownBlock]);have d3:=zA (i:=5) a2 rfl;have d2:N w9 q3 5:=zE a2;have c9:=lt_of_block a2;have l:=Ja (Jb d (Jb g h));clear d g h a2))
 have d:=l.out.1;have h:=l.out.2.2;rw[Ng,Op] at d;rw[Ng] at h;obtain⟨t3,e4⟩:∃t3:PT,{t2 with banks:=p.banks,bv:=.slice b7 (p.banks.length) rc3 }=t3:=⟨_,rfl⟩
 have j0:OwMid w p1 r2 q3 ⟨.slice fa p.funcs.length fc,.slice aa p.args.length ac,.slice da p.data.length dc,.slice ba p.banks.length bc⟩ p t3 (w9.setCell ⟨q3,5,none⟩ (.slice b7 (p.banks.length) rc3)):=by
  rw[<-e4];refine g3.out.1.grow (r:=v8 t2.bv t2.banks) (r':=v8 (.slice b7 (p.banks.length) rc3) (p.banks)) (ns:=[]) (rs:=wY t2.fv t2.funcs::zP t2.av t2.args::vK t2.dv t2.data::t2.funcs.flatMap FT.rows) ?_ (Below.refl _ _) Rows.nil ?_ d (fun x e=>?_) ?_ rfl
  ·classical
   unfold PT.rows;refine Jp.2 fun r=>?_
   simp only[Nb,Nf,Op];omega
  ·rw[show(v8 t2.bv t2.banks).blk=none by rw[<-g1.out];rfl];exact l.out.2.1
  ·rcases h with e2|e2
   ·have e3:=e2.symm.trans e;simp[Value.ownBlock] at e3
   ·right;have e3:=e2.symm.trans e;simp at e3;omega
  ·classical
   unfold PT.rows;refine Jp.2 fun r=>?_
   simp only[Nb,Nf,Op];omega
 generalize k7:w9.setCell ⟨q3,5,none⟩ (.slice b7 (p.banks.length) rc3)=V3 at *;rw[<-g1.out] at e4;have l0:=Ja e4;clear l d h k7 d3 d2 c9 qs ql pc pl b9 d1 e4 c2 a5 a4 a3 ij
 have d7:t3.funcs=[]/\t3.fv=L/\t3.args=p.args/\t3.data=p.data/\t3.banks=p.banks/\t3.entry=p.entry/\t3.handler=p.handler/\t3.av=.slice a0 p.args.length y/\t3.dv=.slice a7 p.data.length a6/\t3.bv=.slice b7 p.banks.length rc3:=by
  rw[<-l0.out];exact⟨rfl,rfl,rfl,rfl,rfl,rfl,rfl,rfl,rfl,rfl⟩
 have d6:=Ja (show OwMid w p1 r2 q3 ⟨.slice fa p.funcs.length fc,.slice aa p.args.length ac,.slice da p.data.length dc,.slice ba p.banks.length bc⟩ p {t3 with funcs:=[],fv:=L } V3/\([]:List FT).map FT.fn=p.funcs.take 0 from⟨by
  have e:({t3 with funcs:=[],fv:=L }:PT)=t3:=by
   obtain⟨x1,x2,x3,x4,x5,x6,x7,x8,x9,l3⟩:=t3;obtain⟨h1,h2,_⟩:=d7;simp only at h1 h2;rw[h1,h2]
  rw[e]
  exact j0,rfl⟩)
 have m:=Ja d7;clear j0 d7;go_wp2
 go_loopw [4] (fun kv wx=>∃(k:Nat) (fl:List FT) (ga:Option Addr) (gc:Nat),k<=p.funcs.length/\kv=U k/\Hid (OwMid w p1 r2 q3 ⟨.slice fa p.funcs.length fc,.slice aa p.args.length ac,.slice da p.data.length dc,.slice ba p.banks.length bc⟩ p {t3 with funcs:=fl,fv:=.slice ga k gc } wx/\fl.map FT.fn=p.funcs.take k)) (fun kv _=>p.funcs.length-(intOf kv).toNat)
 case atStart=>exact⟨0,[],none,0,Jt _,rfl,d6⟩
 case round=>
  obtain⟨k,fl,ga,gc,hk,rfl,j⟩:=hrel;have c0:A wr p1 0 (.slice fa p.funcs.length fc):=zA (i:=0) j.out.1.h1 rfl;have cl:=lt_of_block j.out.1.h1
  by_cases f7:k<p.funcs.length
  ·have k2:(k:Int)<(p.funcs.length:Int):=Zo;obtain⟨f,hf⟩:∃f,p.funcs[k]? =some f:=⟨_,Jd f7⟩
   have a1:Y w wr:=by rw[HP.out.2.2.1];exact j.out.1.bel
   have j2:=HP.out.1.funcs.below vR a1;obtain⟨bb,bo,k6,n0,bv,j3,f2⟩:=j2.get hf;rw[Nk] at j3;obtain⟨xa,xc,rfl,_,_⟩:=f2.form;subst k6;have f6:=HP.out.2.1.fn.2 f (Ji hf);have k0:=a1.size;have l2:bb<wr.heap.size:=Zo;have i9:∀W,Y wr W->I 44 #[.agg #[.slice xa f.length xc]] W (fun e w'=>∃(ft:FT) (a:Option Addr) (n c:Nat),ft.bv=.slice a n c/\e=.returned (.agg #[.slice a n c])/\ft.fn=f/\Rows w' W.heap.size ft.rows/\Y W w'):=fun W hW=>mA (f2.below yT (hW.mono k0)) (Jn k0 hW.size) f6.1 f6.2
   have q0:=zA (i:=0) j.out.1.h3 rfl;have qf:N wr q3 0:=zE j.out.1.h3;have ql:=lt_of_block j.out.1.h3;have k1:=Ja (Jb i9 hf);clear i9 hf f6 j2 f2 a1;go_upto_region 8 with fail
   have d8:fl.length=k:=by
    have h1:=congrArg List.length j.out.2;rw[Nr,Oc] at h1;omega
   have e7:wr.ownsRow p1 39 1 (.slice ga k gc) k (fl.map (·.bv)):=by
    have h1:=j.out.1.rows.own (wY (.slice ga k gc) fl) (.head _);unfold wY at h1;simp only at h1;rw[d8] at h1;exact h1
   have HO:=Ja (Jb e7 d8);have d1:=j.out.1.sz;obtain⟨ij,c2,a5,a4,a3⟩:=info_parts Tryz.info_irfunc;clear e7 d8
   go_region_law (first|(refine yG (by rfl) (.tmp 36) (.tmp 43) _ (by rfl) p1 39 ij (.agg #[L]) 1 24 Tryz.underlying25 c2 a5 a4 a3 rfl Zo (.slice ga k gc) k (fl.map (·.bv)) (by rfl) (c3.out.2.2.alloc _) (T w5.heap.size 1 1) 1 [.slice h4 g9 h0] (by rfl) (yM.one (zI rfl) rfl) (by unfold maxLen;omega) Zo Zt ?_;intro aa9 g0 w9 d g h;have d9:=zL g (zB c3.out.2.1) (zC c3.out.2.2 c3.out.2.1 (.inr Zd));have l8:=zA (i:=0) d9 rfl;have l6:N w9 q3 0:=zE d9;have l4:=lt_of_block d9;have l:=Ja (Jb d (Jb g h));clear d g h d9)|(go_simp;refine(k1.out.1 _ (Below.refl _ _).drew).mono ?_;rintro e w5 ⟨ft,h4,g9,h0,j1,rfl,g6⟩;have d5:Y wr w5:=(Below.refl _ _).drew.trans g6.2.2;have d4:=zH d5 j.out.1.h3 (lt_of_block j.out.1.h3);have e8:=p7 HO.out.1 d5 (Je _);have l9:=zA (i:=0) d4 rfl;have l7:N w5 q3 0:=zE d4;have l5:=lt_of_block d4;have l1:=d5.size;have c3:=Ja (Jb (Jb j1 (Jb g6 d5)) (Jb d4 e8));clear j1 g6 d5 d4 e8;dsimp only))
   all_goals go_wp2_with fail
   all_goals (
    refine⟨⟨k+1,fl++ [ft],aa9,g0,f7,by go_num,Ja ⟨?_,?_⟩⟩,by simp[intOf];omega⟩
    ·have j4:=(Below.refl w5.heap.size w5).alloc (Je _) (G #[.slice h4 g9 h0] 39);refine j.out.1.grow (r:=wY (.slice ga k gc) fl) (r':=wY (.slice aa9 (k+1) g0) (fl++ [ft])) (ns:=ft.rows) (rs:=zP t3.av t3.args::vK t3.dv t3.data::v8 t3.bv t3.banks::fl.flatMap FT.rows) (Uq _) (c3.out.1.2.2.trans (j4.mono c3.out.1.2.2.size)) (c3.out.1.2.1.2.1.below j4) l.out.2.1 ?_ (fun x e=>?_) ?_ rfl
     ·show w9.ownsRow p1 39 1 _ (fl++ [ft]).length ((fl++ [ft]).map (·.bv))
      rw[Jk,Ju,HO.out.2,Js]
      show w9.ownsRow p1 39 1 _ (k+1) (fl.map (·.bv)++ [ft.bv])
      rw[c3.out.1.1];exact l.out.1
     ·rcases l.out.2.2 with e2|e2
      ·exact .inl (e2.symm.trans e)
      ·right;have e3:=e2.symm.trans e;simp at e3;simp;omega
     ·classical
      unfold PT.rows;refine Jp.2 fun r=>?_
      simp only[Nb,Nf,Nx,Qa,List.flatMap_nil,Ua];omega
    ·rw[Js,j.out.2,Nh,k1.out.2]
     show _++ [ft.fn]=_
     rw[c3.out.1.2.1.1]
     rfl)
  ·obtain rfl:k=p.funcs.length:=by omega
   have k2:¬(p.funcs.length:Int)<(p.funcs.length:Int):=Zo;have q0:A wr q3 0 (.slice ga p.funcs.length gc):=zA (i:=0) j.out.1.h3 rfl;have q1:A wr q3 1 (.slice a0 p.args.length y):=(zA (i:=1) j.out.1.h3 rfl).trans (by rw[<-m.out.2.2.2.2.2.2.2.1];rfl);have q2:A wr q3 2 (U p.entry):=(zA (i:=2) j.out.1.h3 rfl).trans (by rw[<-m.out.2.2.2.2.2.1];rfl);have k3:A wr q3 3 (U p.handler):=(zA (i:=3) j.out.1.h3 rfl).trans (by rw[<-m.out.2.2.2.2.2.2.1];rfl);have q4:A wr q3 4 (.slice a7 p.data.length a6):=(zA (i:=4) j.out.1.h3 rfl).trans (by rw[<-m.out.2.2.2.2.2.2.2.2.1];rfl);have q5:A wr q3 5 (.slice b7 p.banks.length rc3):=(zA (i:=5) j.out.1.h3 rfl).trans (by rw[<-m.out.2.2.2.2.2.2.2.2.2];rfl);have ql:=lt_of_block j.out.1.h3;have v0:=zA (i:=0) j.out.1.h2 rfl;have v1:=zA (i:=1) j.out.1.h2 rfl;have v2:=zA (i:=2) j.out.1.h2 rfl;have v3:=zA (i:=3) j.out.1.h2 rfl;have v4:=zA (i:=4) j.out.1.h2 rfl;have v5:=zA (i:=5) j.out.1.h2 rfl;have vf:∀i,N wr r2 i:=fun i=>zE j.out.1.h2
   have vl:=lt_of_block j.out.1.h2;clear f7;go_wp2;have b0:=j.out.1.h2;have b1:=zD (i:=0) b0 (.slice ga p.funcs.length gc);have b2:=zD (i:=1) b1 (.slice a0 p.args.length y);have b3:=zD (i:=2) b2 (U p.entry);have b4:=zD (i:=3) b3 (U p.handler);have b5:=zD (i:=4) b4 (.slice a7 p.data.length a6);have b6:=zD (i:=5) b5 (.slice b7 p.banks.length rc3);have i2:=vz (i:=5) (u:=.slice b7 p.banks.length rc3) (vz (i:=4) (u:=.slice a7 p.data.length a6) (vz (i:=3) (u:=U p.handler) (vz (i:=2) (u:=U p.entry) (vz (i:=1) (u:=.slice a0 p.args.length y) (vz (i:=0) (u:=.slice ga p.funcs.length gc) j.out.1.rows b0) b1) b2) b3) b4) b5;have hg:=j.out.1.ges;have h9:Below p1 w (wr.setCell ⟨r2,0,none⟩ (.slice ga p.funcs.length gc)):=j.out.1.bel.setCell (by show p1<=r2;omega) _;have h8:Below p1 w ((wr.setCell ⟨r2,0,none⟩ (.slice ga p.funcs.length gc)).setCell ⟨r2,1,none⟩ (.slice a0 p.args.length y)):=h9.setCell (by show p1<=r2;omega) _;have h7:Below p1 w (((wr.setCell ⟨r2,0,none⟩ (.slice ga p.funcs.length gc)).setCell ⟨r2,1,none⟩ (.slice a0 p.args.length y)).setCell ⟨r2,2,none⟩ (U p.entry)):=h8.setCell (by show p1<=r2;omega) _;have h6:Below p1 w ((((wr.setCell ⟨r2,0,none⟩ (.slice ga p.funcs.length gc)).setCell ⟨r2,1,none⟩ (.slice a0 p.args.length y)).setCell ⟨r2,2,none⟩ (U p.entry)).setCell ⟨r2,3,none⟩ (U p.handler)):=h7.setCell (by show p1<=r2;omega) _;have h5:Below p1 w (((((wr.setCell ⟨r2,0,none⟩ (.slice ga p.funcs.length gc)).setCell ⟨r2,1,none⟩ (.slice a0 p.args.length y)).setCell ⟨r2,2,none⟩ (U p.entry)).setCell ⟨r2,3,none⟩ (U p.handler)).setCell ⟨r2,4,none⟩ (.slice a7 p.data.length a6)):=h6.setCell (by show p1<=r2;omega) _;have a1:Below p1 w ((((((wr.setCell ⟨r2,0,none⟩ (.slice ga p.funcs.length gc)).setCell ⟨r2,1,none⟩ (.slice a0 p.args.length y)).setCell ⟨r2,2,none⟩ (U p.entry)).setCell ⟨r2,3,none⟩ (U p.handler)).setCell ⟨r2,4,none⟩ (.slice a7 p.data.length a6)).setCell ⟨r2,5,none⟩ (.slice b7 p.banks.length rc3)):=h5.setCell (by show p1<=r2;omega) _;clear h9 h8 h7 h6 h5;have HE:=Ja (Jb i2 a1);generalize (((((wr.setCell ⟨r2,0,none⟩ (.slice ga p.funcs.length gc)).setCell ⟨r2,1,none⟩ (.slice a0 p.args.length y)).setCell ⟨r2,2,none⟩ (U p.entry)).setCell ⟨r2,3,none⟩ (U p.handler)).setCell ⟨r2,4,none⟩ (.slice a7 p.data.length a6)).setCell ⟨r2,5,none⟩ (.slice b7 p.banks.length rc3)=WF at *;have x0:=zA (i:=0) b6 rfl;have x1:=zA (i:=1) b6 rfl;have x2:=zA (i:=2) b6 rfl;have x3:=zA (i:=3) b6 rfl;have x4:=zA (i:=4) b6 rfl;have x5:=zA (i:=5) b6 rfl;have m0:=lt_of_block b6;clear b0 b1 b2 b3 b4 b5 b6 i2 a1 q0 q1 q2 k3 q4 q5 v0 v1 v2 v3 v4 v5 vf;refine bodyPost_ret (v:=.agg (D p ga gc a0 y a7 a6 b7 rc3)) ?_ rfl ?_
   ·rw[zM rfl];go_simp
   ·refine⟨{t3 with funcs:=fl,fv:=.slice ga p.funcs.length gc },?_,?_,?_,?_⟩
    ·unfold PT.V;simp only;rw[m.out.2.2.2.2.2.2.2.1,m.out.2.2.2.2.2.2.2.2.1,m.out.2.2.2.2.2.2.2.2.2]
    ·unfold PT.prog;simp only;rw[j.out.2,Nl,m.out.2.2.1,m.out.2.2.2.1,m.out.2.2.2.2.1,m.out.2.2.2.2.2.1,m.out.2.2.2.2.2.2.1]
    ·first|exact HE.out.1|(rw[HP.out.2.2.1];exact HE.out.1)
    ·first|exact HE.out.2|(rw[HP.out.2.2.1];exact HE.out.2)
structure SmB (N:Nat) (b:IBlk):Prop where
 par:b.params.length<=N
 ops:b.ops.length<=N
 tos:b.term.to.length<=N
 oarg:∀o∈b.ops,o.args.length<=N
 earg:∀e∈b.term.to,e.args.length<=N
structure SmP (N:Nat) (p:IProg):Prop where
 fn:p.funcs.length<=N
 fs:∀f∈p.funcs,f.length<=N/\∀b∈f,SmB N b
 ar:p.args.length<=N
 da:p.data.length<=N
 ba:p.banks.length<=N
theorem SmB.mono {N M:Nat}(c:N<=M){b:IBlk}(h:SmB N b):SmB M b:=⟨by have:=h.par;omega,by have:=h.ops;omega,by have:=h.tos;omega,fun o ho=>by have:=h.oarg o ho;omega,fun o ho=>by have:=h.earg o ho;omega⟩
theorem SmP.mono {N M:Nat}(c:N<=M){p:IProg}(h:SmP N p):SmP M p:=
 ⟨by have:=h.fn;omega,fun f hf=>⟨by have:=(h.fs f hf).1;omega,fun b hb=>((h.fs f hf).2 b hb).mono c⟩,by have:=h.ar;omega,by have:=h.da;omega,by have:=h.ba;omega⟩
theorem SmP.small {N:Nat}{p:IProg}(h:SmP N p)(c:N<=2000000):SmallP p:=by
 have h:=h.mono c;exact⟨⟨h.fn,fun f hf=>⟨⟨(h.fs f hf).1,fun b hb=>⟨((h.fs f hf).2 b hb).par,((h.fs f hf).2 b hb).ops,((h.fs f hf).2 b hb).tos⟩⟩,fun b hb=>⟨((h.fs f hf).2 b hb).oarg,((h.fs f hf).2 b hb).earg⟩⟩⟩,h.ar,h.da,h.ba⟩
theorem SmP.sized {N:Nat}{p:IProg}(h:SmP N p)(c:N<=65536):mW p:=fun f hf=>
 ⟨(((h.mono (show N<=2000000 by omega)).small (Je _)).fn.2 f hf).1,fun b hb=>by have:=((h.fs f hf).2 b hb).par;omega⟩
theorem acZ {f:List IBlk}{b:IBlk}(h:b∈f):b.ops.length<=opsN f:=by
 unfold opsN
 induction f with
 |nil=>cases h
 |cons x f ih=>
  rw[Ql,List.sum_cons];rcases Jq.1 h with rfl|h
  ·omega
  ·have:=ih h;omega
theorem i3{α:Type}{P:α->Prop}{l:List α}{g:α->α}(h:∀x∈l,P x)(hg:∀x∈l,P (g x)):∀x∈wD l i g,P x:=by
 unfold wD
 split
 ·rename_i y d
  intro x c;rcases Qe c with c|rfl
  ·exact h x c
  ·exact hg y (Ji d)
 ·exact h
theorem dC {d:wO}{g:List (List Nat)}{i k v:Int}(h:d.1 v=none):yy d g i k v=false:=by unfold yy;rw[h]
def cS (n:Nat)(o:IOp):Prop:=∀x∈rR o,0<=x/\x.toNat<n
theorem cS.a{n:Nat}(h:cS n o)(hs:(zi o.code).a=true):0<=o.a/\o.a.toNat<n:=h _ (by unfold rR;rw[hs];simp)
theorem cS.b{n:Nat}(h:cS n o)(hs:(zi o.code).b=true):0<=o.b/\o.b.toNat<n:=h _ (by unfold rR;rw[hs];simp)
theorem set_more{p:IProg}{b3:List IBlk}{s:Slv}(h:SlvAt w K p b3 k s){v:Nat}(hv:v<K.n)(a1:(aeM a0 (s.get v)).ok)(hk:¬4<k)(a6:s.knw v=true)(l:afd (aeM a0 (s.get v)) (s.get v)=false):
 I 38 #[F K.sb,U v,.agg #[O (a0.lo:Int),O (a0.hi:Int)]] w (afw w K p b3 k (s.put v (aeM a0 (s.get v)),true)):=by
 have a5:=aeC h hv;rw[a6] at a5;have u:=fun(W:World) (hW:Below w.heap.size w W)=>(h.below hW).rcell (v:=(v:Int)) Zo
 generalize hg:s.get (v:Int)=g at *;obtain⟨a,hq⟩:∃a,aeM a0 g=a:=⟨_,rfl⟩
 have HH:=Ja (fun W=>aht W a0 g);rw[hq] at HH l a1 ⊢;have c5:¬(4:Int)<(k:Int):=Zo;have c4:=h.ne
 have a4:(((a.lo:Int)==(g.lo:Int)) && ((a.hi:Int)==(g.hi:Int)))=false:=by
  rw[<-l];unfold afd;rw[Bool.eq_iff_iff];simp only[Jm,beq_iff_eq,decide_eq_true_eq];omega
 rw[Ni] at u;have H:=Ja (Jb h a1);have a7:=fun(W:World) (hW:Below w.heap.size w W)=>(h.below hW).cells.2.2.2.2.1
 have HK:=Ja a7;have hn:=h.n64;obtain⟨s4,s7,s8,s9,s10,s6⟩:=h.cells;have HC:=Ja (show ∀W:World,Below w.heap.size w W->A W K.sb 8 (T K.rb K.n K.n)/\A W K.rb (v*2) (O (g.lo:Int))/\A W K.rb (v*2+1) (O (g.hi:Int)) from fun W hb=>⟨(h.below hb).cells.2.2.1,(u W hb).1,(u W hb).2⟩);have l1:=lt_of_block h.cell;have l2:=lt_of_block h.row;have l3:=lt_of_block h.kn;have b5:=Ja a4;clear a7 hk a1 h a4 a6 l s4 s7 s6 s8 s10 u hg hq;go_enter Tryz.func38,Tryz.ntmps38;go_upto_region 2 with(go_at_call 999999;skip)
 obtain⟨X,t⟩:∃X,w.alloc (G #[O (a0.lo:Int),O (a0.hi:Int)] 45)=X:=⟨_,rfl⟩
 have c:=Ja (show Below w.heap.size w X/\Q X w.heap.size #[O (a0.lo:Int),O (a0.hi:Int)] 45/\w.heap.size<X.heap.size from by
  rw[<-t];exact⟨Below.alloc (Below.refl _ _) (Je _) _,zI rfl,by simp⟩)
 rw[t];clear t a5 s9;have a3:=Ja (show ∀W:World,Below w.heap.size X W->A W K.sb 8 (T K.rb K.n K.n)/\A W K.rb (v*2) (O (g.lo:Int))/\A W K.rb (v*2+1) (O (g.hi:Int)) from fun W hb=>HC.out W (c.out.1.trans hb));obtain⟨c0,c1,c2⟩:=a3.out X (Below.refl _ _);have x0:=zA (i:=0) c.out.2.1 rfl;have x1:=zA (i:=1) c.out.2.1 rfl;have b6:=c.out.2.2;refine wp_region_noPanic ?_;refine yQ (S:=(fun w'=>A w' K.sb 8 (T K.rb K.n K.n)/\A w' K.rb (v*2) (O (g.lo:Int))/\A w' K.rb (v*2+1) (O (g.hi:Int))/\A w' w.heap.size 0 (O (a0.lo:Int))/\A w' w.heap.size 1 (O (a0.hi:Int)))) 9 Zk ⟨c0,c1,c2,x0,x1⟩ (fun hHeld=>?_);refine Tl 0 ?_
 try simp only[Yp]
 refine Tl 1 ?_
 try simp only[Yp]
 refine Tl 2 ?_
 try simp only[Yp]
 refine Tl 3 ?_
 try simp only[Yp]
 refine Tl 4 ?_
 try simp only[Yp]
 refine Tl 5 ?_
 try simp only[Yp]
 refine Tl 6 ?_
 try simp only[Yp]
 refine Tl 7 ?_
 try simp only[Yp]
 refine y7 (rs:=[8]) Zk Zs ?_;refine zS.cons (o:=_) rfl (fun K hK=>?_) ?_
 ·skip
  (go_simp;refine(HH.out _).mono ?_;rintro e w1 ⟨rfl,b2⟩;have x:Below X.heap.size X w1:=(Below.refl X.heap.size X).drew.trans b2;clear b2;have hk:=zH x c.out.2.1 (lt_of_block c.out.2.1);have f0:=zA (i:=0) hk rfl;have f1:=zA (i:=1) hk rfl;have g0:=zE (i:=0) hk;have g1:=zE (i:=1) hk;have b7:=lt_of_block hk;have y:=a3.out w1 (x.mono (Qd c.out.2.2)))
  refine hK.out _ _ ⟨y.1,y.2.1,y.2.2,f0,f1⟩ (fun hHeld=>?_);clear hK K
  try simp only[Yp]
  refine y7 (rs:=[9]) Zk Zs ?_;refine zS.last (o:=_) rfl (fun K hK=>?_);go_simp;refine hK.out _ _ ?_;clear hK K
  try simp only[Yp]
  refine xj Zk (NoPanic.normal ?_) _;go_upto_region 3 with(go_at_call 999999;skip)
  obtain⟨Y,hY⟩:∃Y,(w1.setCell ⟨w.heap.size,0,none⟩ (O (a.lo:Int))).setCell ⟨w.heap.size,1,none⟩ (O (a.hi:Int))=Y:=⟨_,rfl⟩
  have j:=Ja (show Below w.heap.size w Y/\Q Y w.heap.size #[O (a.lo:Int),O (a.hi:Int)] 45/\w.heap.size<Y.heap.size from by
   have hh:=zD (i:=1) (zD (i:=0) hk (O (a.lo:Int))) (O (a.hi:Int));rw[hY] at hh
   exact⟨by rw[<-hY];exact((c.out.1.trans (x.mono (Qd c.out.2.2))).setCell (Je _) _).setCell (Je _) _,hh,lt_of_block hh⟩)
  rw[hY];clear hY hk f0 f1 g0 g1 b7 x y a3 c0 c1 c2 x0 x1 b6;have a2:=Ja (show ∀W:World,Below Y.heap.size Y W->(A W K.sb 8 (T K.rb K.n K.n)/\A W K.rb (v*2) (O (g.lo:Int))/\A W K.rb (v*2+1) (O (g.hi:Int)))/\A W w.heap.size 0 (O (a.lo:Int))/\A W w.heap.size 1 (O (a.hi:Int)) from fun W hb=>⟨HC.out W (j.out.1.trans (hb.mono (Qd j.out.2.2))),zA (zH hb j.out.2.1 (lt_of_block j.out.2.1)) rfl,zA (zH hb j.out.2.1 (lt_of_block j.out.2.1)) rfl⟩);obtain⟨⟨c0,c1,c2⟩,x0,x1⟩:=a2.out Y (Below.refl _ _);obtain⟨b0,e0⟩:∃b,((a.lo:Int)==(g.lo:Int))=b:=⟨_,rfl⟩
  obtain⟨b1,e1⟩:∃b,((a.hi:Int)==(g.hi:Int))=b:=⟨_,rfl⟩
  have m:=b5.out;rw[e0,e1] at m;clear b5;cases b0<;>cases b1
  all_goals first|(cases m;done)|skip
  all_goals clear m
  all_goals go_region_held3 (fun w'=>(A w' K.sb 8 (T K.rb K.n K.n)/\A w' K.rb (v*2) (O (g.lo:Int))/\A w' K.rb (v*2+1) (O (g.hi:Int)))/\A w' w.heap.size 0 (O (a.lo:Int))/\A w' w.heap.size 1 (O (a.hi:Int)))
   ((refine a2.out _ ?_;repeat' (first|with_reducible exact Below.refl _ _|with_reducible assumption|with_reducible refine Below.drew ?_)))
   (fail)
  all_goals clear c0 c1 c2 x0 x1 a2 e0 e1
  all_goals have s10:=HK.out Y.drew j.out.1.drew
  all_goals go_upto_region 7 with(go_at_call 999999;skip)
  all_goals (
   obtain⟨X,t⟩:∃X,Y.drew=X:=⟨_,rfl⟩
   have b4:=Ja (show Below w.heap.size w X/\Q X w.heap.size #[O (a.lo:Int),O (a.hi:Int)] 45/\w.heap.size<X.heap.size from by rw[<-t];exact⟨j.out.1.drew,j.out.2.1,j.out.2.2⟩);rw[t];clear t s10 c;have c:=b4;clear b4;have d:=Ja (H.out.1.below c.out.1);have HC:=Ja (show ∀W:World,W.heap[K.sb]? =X.heap[K.sb]?->W.heap[w.heap.size]? =X.heap[w.heap.size]?->A W K.sb 8 (T K.rb K.n K.n)/\A W K.sb 9 (T K.kb K.n K.n)/\A W w.heap.size 0 (O (a.lo:Int))/\A W w.heap.size 1 (O (a.hi:Int)) from fun W h1 h2=>⟨zA (h1.trans d.out.cell) rfl,zA (h1.trans d.out.cell) rfl,zA (h2.trans c.out.2.1) rfl,zA (h2.trans c.out.2.1) rfl⟩);obtain⟨c0,c1,c2,c3⟩:=HC.out X rfl rfl;have kx:=aeC d.out hv;have kf:=zE (i:=v) d.out.kn;obtain⟨r0,r1⟩:=d.out.rcell (v:=(v:Int)) Zo;rw[Ni] at r0 r1;have b9:=zE (i:=v*2) d.out.row;have b8:=zE (i:=v*2+1) d.out.row;have m1:=lt_of_block d.out.cell;have m2:=lt_of_block d.out.row;have m3:=lt_of_block d.out.kn;have m4:=c.out.2.2;go_region_held3 (fun w'=>A w' K.sb 8 (T K.rb K.n K.n)/\A w' K.sb 9 (T K.kb K.n K.n)/\A w' w.heap.size 0 (O (a.lo:Int))/\A w' w.heap.size 1 (O (a.hi:Int))) ((refine HC.out _ ?_ ?_<;>(repeat' (first|(rw[Below.heap_setCell _ _ _ _ (by first|(show K.sb≠K.kb;omega)|(show K.sb≠K.rb;omega)|(show w.heap.size≠K.kb;omega)|(show w.heap.size≠K.rb;omega))])|(rw[show ∀v:World,v.drew.heap=v.heap from fun _=>rfl])|exact rfl)))) (fail);go_wp2;obtain⟨W,hW⟩:∃W,((X.setCell ⟨K.kb,v,none⟩ (.bool true)).setCell ⟨K.rb,v*2,none⟩ (O (a.lo:Int))).setCell ⟨K.rb,v*2+1,none⟩ (O (a.hi:Int))=W:=⟨_,rfl⟩
   rw[hW];obtain⟨j1,j2⟩:=d.out.put hv H.out.2 hW;go_ret
   exact⟨rfl,j1.below (Below.refl _ _).drew,((SlvTo.of_below c.out.1).trans j2).trans (SlvTo.of_below (Below.refl _ _).drew)⟩)
 exact zS.nil
theorem ahr{p:IProg}{b7:List IBlk}{s:Slv}(h:SlvAt w K p b7 k s){v:Nat}(hv:v<K.n)(hk:4<k)(b3:s.knw v=true)(l:afd (aeM a0 (s.get v)) (s.get v)=false):
 I 38 #[F K.sb,U v,.agg #[O (a0.lo:Int),O (a0.hi:Int)]] w (afw w K p b7 k (s.put v lf,true)):=by
 have b2:=aeC h hv;rw[b3] at b2;have x:=fun(W:World) (hW:Below w.heap.size w W)=>(h.below hW).rcell (v:=(v:Int)) Zo
 generalize hg:s.get (v:Int)=g at *;obtain⟨q,hq⟩:∃q,aeM a0 g=q:=⟨_,rfl⟩
 have HH:=Ja (fun W=>aht W a0 g);rw[hq] at HH l;obtain⟨a,hz⟩:∃a,lf=a:=⟨_,rfl⟩
 have a7:a.ok:=hz ▸ cw;have HZ:=Ja hz;rw[hz];have c9:(4:Int)<(k:Int):=Zo;have c8:=h.ne
 have a6:(((q.lo:Int)==(g.lo:Int)) && ((q.hi:Int)==(g.hi:Int)))=false:=by
  rw[<-l];unfold afd;rw[Bool.eq_iff_iff];simp only[Jm,beq_iff_eq,decide_eq_true_eq];omega
 rw[Ni] at x;have H:=Ja (Jb h a7);have b4:=fun(W:World) (hW:Below w.heap.size w W)=>(h.below hW).cells.2.2.2.2.1
 have HK:=Ja b4;have hn:=h.n64;obtain⟨s4,s7,s8,s9,s10,s6⟩:=h.cells;have HC:=Ja (show ∀W:World,Below w.heap.size w W->A W K.sb 8 (T K.rb K.n K.n)/\A W K.rb (v*2) (O (g.lo:Int))/\A W K.rb (v*2+1) (O (g.hi:Int)) from fun W hb=>⟨(h.below hb).cells.2.2.1,(x W hb).1,(x W hb).2⟩);have l1:=lt_of_block h.cell;have l2:=lt_of_block h.row;have l3:=lt_of_block h.kn;have b9:=Ja a6;clear hz b4 hk a7 h a6 b3 l s4 s7 s6 s8 s10 x hg hq;go_enter Tryz.func38,Tryz.ntmps38;go_upto_region 2 with(go_at_call 999999;skip)
 obtain⟨X,m⟩:∃X,w.alloc (G #[O (a0.lo:Int),O (a0.hi:Int)] 45)=X:=⟨_,rfl⟩
 have c:=Ja (show Below w.heap.size w X/\Q X w.heap.size #[O (a0.lo:Int),O (a0.hi:Int)] 45/\w.heap.size<X.heap.size from by
  rw[<-m];exact⟨Below.alloc (Below.refl _ _) (Je _) _,zI rfl,by simp⟩)
 rw[m];clear m b2 s9;have a5:=Ja (show ∀W:World,Below w.heap.size X W->A W K.sb 8 (T K.rb K.n K.n)/\A W K.rb (v*2) (O (g.lo:Int))/\A W K.rb (v*2+1) (O (g.hi:Int)) from fun W hb=>HC.out W (c.out.1.trans hb));obtain⟨c0,c1,c2⟩:=a5.out X (Below.refl _ _);have x0:=zA (i:=0) c.out.2.1 rfl;have x1:=zA (i:=1) c.out.2.1 rfl;have c4:=c.out.2.2;refine wp_region_noPanic ?_;refine yQ (S:=(fun w'=>A w' K.sb 8 (T K.rb K.n K.n)/\A w' K.rb (v*2) (O (g.lo:Int))/\A w' K.rb (v*2+1) (O (g.hi:Int))/\A w' w.heap.size 0 (O (a0.lo:Int))/\A w' w.heap.size 1 (O (a0.hi:Int)))) 9 Zk ⟨c0,c1,c2,x0,x1⟩ (fun hHeld=>?_);refine Tl 0 ?_
 try simp only[Yp]
 refine Tl 1 ?_
 try simp only[Yp]
 refine Tl 2 ?_
 try simp only[Yp]
 refine Tl 3 ?_
 try simp only[Yp]
 refine Tl 4 ?_
 try simp only[Yp]
 refine Tl 5 ?_
 try simp only[Yp]
 refine Tl 6 ?_
 try simp only[Yp]
 refine Tl 7 ?_
 try simp only[Yp]
 refine y7 (rs:=[8]) Zk Zs ?_;refine zS.cons (o:=_) rfl (fun K hK=>?_) ?_
 ·skip
  (go_simp;refine(HH.out _).mono ?_;rintro e w1 ⟨rfl,b6⟩;have y:Below X.heap.size X w1:=(Below.refl X.heap.size X).drew.trans b6;clear b6;have hk:=zH y c.out.2.1 (lt_of_block c.out.2.1);have f0:=zA (i:=0) hk rfl;have f1:=zA (i:=1) hk rfl;have g0:=zE (i:=0) hk;have g1:=zE (i:=1) hk;have a2:=lt_of_block hk;have a1:=a5.out w1 (y.mono (Qd c.out.2.2)))
  refine hK.out _ _ ⟨a1.1,a1.2.1,a1.2.2,f0,f1⟩ (fun hHeld=>?_);clear hK K
  try simp only[Yp]
  refine y7 (rs:=[9]) Zk Zs ?_;refine zS.last (o:=_) rfl (fun K hK=>?_);go_simp;refine hK.out _ _ ?_;clear hK K
  try simp only[Yp]
  refine xj Zk (NoPanic.normal ?_) _;go_upto_region 3 with(go_at_call 999999;skip)
  obtain⟨Y,hY⟩:∃Y,(w1.setCell ⟨w.heap.size,0,none⟩ (O (q.lo:Int))).setCell ⟨w.heap.size,1,none⟩ (O (q.hi:Int))=Y:=⟨_,rfl⟩
  have j:=Ja (show Below w.heap.size w Y/\Q Y w.heap.size #[O (q.lo:Int),O (q.hi:Int)] 45/\w.heap.size<Y.heap.size from by
   have t:=zD (i:=1) (zD (i:=0) hk (O (q.lo:Int))) (O (q.hi:Int));rw[hY] at t
   exact⟨by rw[<-hY];exact((c.out.1.trans (y.mono (Qd c.out.2.2))).setCell (Je _) _).setCell (Je _) _,t,lt_of_block t⟩)
  rw[hY];clear hY hk f0 f1 g0 g1 a2 y a1 a5 c0 c1 c2 x0 x1 c4;have a4:=Ja (show ∀W:World,Below Y.heap.size Y W->(A W K.sb 8 (T K.rb K.n K.n)/\A W K.rb (v*2) (O (g.lo:Int))/\A W K.rb (v*2+1) (O (g.hi:Int)))/\A W w.heap.size 0 (O (q.lo:Int))/\A W w.heap.size 1 (O (q.hi:Int)) from fun W hb=>⟨HC.out W (j.out.1.trans (hb.mono (Qd j.out.2.2))),zA (zH hb j.out.2.1 (lt_of_block j.out.2.1)) rfl,zA (zH hb j.out.2.1 (lt_of_block j.out.2.1)) rfl⟩);obtain⟨⟨c0,c1,c2⟩,x0,x1⟩:=a4.out Y (Below.refl _ _);obtain⟨b0,e0⟩:∃b,((q.lo:Int)==(g.lo:Int))=b:=⟨_,rfl⟩
  obtain⟨b1,e1⟩:∃b,((q.hi:Int)==(g.hi:Int))=b:=⟨_,rfl⟩
  have u:=b9.out;rw[e0,e1] at u;clear b9;cases b0<;>cases b1
  all_goals first|(cases u;done)|skip
  all_goals clear u
  all_goals go_region_held3 (fun w'=>(A w' K.sb 8 (T K.rb K.n K.n)/\A w' K.rb (v*2) (O (g.lo:Int))/\A w' K.rb (v*2+1) (O (g.hi:Int)))/\A w' w.heap.size 0 (O (q.lo:Int))/\A w' w.heap.size 1 (O (q.hi:Int)))
   ((refine a4.out _ ?_;repeat' (first|with_reducible exact Below.refl _ _|with_reducible assumption|with_reducible refine Below.drew ?_)))
   (fail)
  all_goals clear c0 c1 c2 x0 x1 a4 e0 e1
  all_goals have s10:=HK.out Y.drew j.out.1.drew
  all_goals have HV:=Ja (show Below w.heap.size w Y.drew/\Q Y.drew w.heap.size #[O (q.lo:Int),O (q.hi:Int)] 45/\w.heap.size<Y.drew.heap.size from⟨j.out.1.drew,j.out.2.1,j.out.2.2⟩)
  all_goals go_upto_region 7 with(go_at_call 39;go_must (refine(aeH _).mono ?_;rintro e w2 ⟨rfl,a3⟩;have hk:=zH a3 HV.out.2.1 HV.out.2.2;have f0:=zA (i:=0) hk rfl;have f1:=zA (i:=1) hk rfl;have g0:=zE (i:=0) hk;have g1:=zE (i:=1) hk;have a2:=lt_of_block hk;have b5:=HV.out.1.trans (a3.mono HV.out.1.size)))
  all_goals (
   obtain⟨X,m⟩:∃X,(w2.setCell ⟨w.heap.size,0,none⟩ (O 0)).setCell ⟨w.heap.size,1,none⟩ (O 65535)=X:=⟨_,rfl⟩
   have b8:=Ja (show Below w.heap.size w X/\Q X w.heap.size #[O (a.lo:Int),O (a.hi:Int)] 45/\w.heap.size<X.heap.size from by
    have t:=zD (i:=1) (zD (i:=0) hk (O 0)) (O 65535);rw[m] at t;refine⟨by rw[<-m];exact(b5.setCell (Je _) _).setCell (Je _) _,?_,lt_of_block t⟩;rw[<-HZ.out]
    exact t)
   rw[m];clear m s10 c hk f0 f1 g0 g1 a2 b5 a3;have c:=b8;clear b8;have d:=Ja (H.out.1.below c.out.1);have HC:=Ja (show ∀W:World,W.heap[K.sb]? =X.heap[K.sb]?->W.heap[w.heap.size]? =X.heap[w.heap.size]?->A W K.sb 8 (T K.rb K.n K.n)/\A W K.sb 9 (T K.kb K.n K.n)/\A W w.heap.size 0 (O (a.lo:Int))/\A W w.heap.size 1 (O (a.hi:Int)) from fun W h1 h2=>⟨zA (h1.trans d.out.cell) rfl,zA (h1.trans d.out.cell) rfl,zA (h2.trans c.out.2.1) rfl,zA (h2.trans c.out.2.1) rfl⟩);obtain⟨c0,c1,c2,c3⟩:=HC.out X rfl rfl;have kx:=aeC d.out hv;have kf:=zE (i:=v) d.out.kn;obtain⟨r0,r1⟩:=d.out.rcell (v:=(v:Int)) Zo;rw[Ni] at r0 r1;have c7:=zE (i:=v*2) d.out.row;have c5:=zE (i:=v*2+1) d.out.row;have m1:=lt_of_block d.out.cell;have m2:=lt_of_block d.out.row;have m3:=lt_of_block d.out.kn;have m4:=c.out.2.2;go_region_held3 (fun w'=>A w' K.sb 8 (T K.rb K.n K.n)/\A w' K.sb 9 (T K.kb K.n K.n)/\A w' w.heap.size 0 (O (a.lo:Int))/\A w' w.heap.size 1 (O (a.hi:Int))) ((refine HC.out _ ?_ ?_<;>(repeat' (first|(rw[Below.heap_setCell _ _ _ _ (by first|(show K.sb≠K.kb;omega)|(show K.sb≠K.rb;omega)|(show w.heap.size≠K.kb;omega)|(show w.heap.size≠K.rb;omega))])|(rw[show ∀v:World,v.drew.heap=v.heap from fun _=>rfl])|exact rfl)))) (fail);go_wp2;obtain⟨W,hW⟩:∃W,((X.setCell ⟨K.kb,v,none⟩ (.bool true)).setCell ⟨K.rb,v*2,none⟩ (O (a.lo:Int))).setCell ⟨K.rb,v*2+1,none⟩ (O (a.hi:Int))=W:=⟨_,rfl⟩
   rw[hW];obtain⟨j1,j2⟩:=d.out.put hv H.out.2 hW;go_ret
   exact⟨rfl,j1.below (Below.refl _ _).drew,((SlvTo.of_below c.out.1).trans j2).trans (SlvTo.of_below (Below.refl _ _).drew)⟩)
 exact zS.nil
theorem aiz{p:IProg}{i:List IBlk}{s:Slv}(h:SlvAt w K p i k s){v:Nat}(hv:v<K.n){a:Rg}(l:a.ok)(j:(aeM a (s.get v)).ok):
 I 38 #[F K.sb,U v,.agg #[O (a.lo:Int),O (a.hi:Int)]] w (afw w K p i k (setF k s v a)):=by
 unfold setF
 by_cases c:s.knw v=true
 ·rw[if_pos c]
  by_cases hs:afd (aeM a (s.get v)) (s.get v)=true
  ·rw[if_pos hs];exact akE h hv c hs
  ·rw[if_neg hs];have g:afd (aeM a (s.get v)) (s.get v)=false:=by simpa using hs
   unfold akN
   by_cases hk:4<k
   ·rw[if_pos hk];exact ahr h hv hk c g
   ·rw[if_neg hk];exact set_more h hv j hk c g
 ·rw[if_neg c];have d:s.knw v=false:=by simpa using c
  unfold akN
  by_cases hk:4<k
  ·rw[if_pos hk];exact ahU h hv hk d
  ·rw[if_neg hk];exact set_new h hv l hk d
def BlkOp (n:Nat)(p:IProg)(o:IOp):Prop:=0<=o.res->aj5 n o/\(o.code=2->0<=o.a/\o.a<p.data.length)/\(o.code≠1->o.code≠2->ruG o.code≠none->(0<=o.a/\o.a<n)/\0<=o.b/\o.b<n)
def BlkEdge (n:Nat)(bls:List IBlk)(e:IEdge):Prop:=(0<=e.block/\e.block<bls.length)/\e.args.length=(xz bls e.block).params.length/\(∀x∈e.args,0<=x/\x<n)/\∀x∈(xz bls e.block).params,0<=x/\x<n
structure BlkW (n:Nat) (p:IProg) (bls:List IBlk) (b:IBlk):Prop where
 ops:∀o∈b.ops,BlkOp n p o
 tos:∀e∈b.term.to,BlkEdge n bls e
theorem SlvTo.blk(h:SlvTo w w' K){b:Nat}{o:_}(hb:w.heap[b]? =some o)(d:b<w.heap.size)(c:b≠K.rb/\b≠K.kb/\b≠K.sb):w'.heap[b]? =some o:=(h.block b d c.1 c.2.1 c.2.2).trans hb
theorem SlvAt.fresh{p:IProg}{c:List IBlk}{s:Slv}(h:SlvAt w K p c k s){b:Nat}(hb:w.heap.size<=b):b≠K.rb/\b≠K.kb/\b≠K.sb:=by
 have:=lt_of_block h.row;have:=lt_of_block h.kn;have:=lt_of_block h.cell;omega
theorem SlvAt.keepB{p:IProg}{c:List IBlk}{s:Slv}(h:SlvAt w K p c k s)(ht:SlvTo w w' K):Below K.B w w':=
 ht.below ⟨h.lt.2.1,h.lt.2.2.1,h.lt.1,Qd (Nat.lt_of_le_of_lt h.lt.1 (lt_of_block h.cell))⟩
theorem aeN{α β:Type}{f:β->α->β}{l:List α}{x:α}(h:l[k]? =some x)(b:β):(l.take (k+1)).foldl f b=f ((l.take k).foldl f b) x:=by
 rw[Nh,h,List.foldl_append];rfl
theorem ajl{p:IProg}{g:List IBlk}{s:Slv}(h:SlvAt w K p g k s){bx:IBlk}(c5:g[i]? =some bx)(f5:BlkW K.n p g bx):
 I 42 #[F K.sb,U i] w (afw w K p g k (ai0 p g k (s,false) bx)):=by
 obtain⟨fa,fc,c4,k0,j5⟩:=h.blks.form;have b0:=h.blks;rw[c4] at b0;obtain⟨bb,bo,rfl,k1,g2,g3,h64,pv,ov,tv,g0,g1,g4,a1,b7,b5⟩:=b0.get c5;obtain⟨pa,pc,rfl,j0,i9⟩:=a1.form;obtain⟨oa,oc,rfl,j1,l5⟩:=b7.form;obtain⟨ta,tc,rfl,i0,k9⟩:=b5.form;have l8:=(Jh.1 c5).1;have l6:bx.ops.length<=9223372036854775807:=Zo;have l0:bx.term.to.length<=9223372036854775807:=Zo;have c6:=h.cells.2.2.2.2.2;rw[c4] at c6;have f3:=lt_of_block h.cell;have k5:bb<w.heap.size:=Jy k1 (Qd (Nat.lt_of_le_of_lt h.lt.1 f3));obtain⟨X,hX⟩:∃X,w.alloc (G #[.slice pa bx.params.length pc,.slice oa bx.ops.length oc,U bx.term.kind,U bx.term.a,.slice ta bx.term.to.length tc] 84)=X:=⟨_,rfl⟩
 have a6:Below w.heap.size w X:=by rw[<-hX];exact(Below.refl _ _).alloc (Je _) _
 have c9:Q X w.heap.size #[.slice pa bx.params.length pc,.slice oa bx.ops.length oc,U bx.term.kind,U bx.term.a,.slice ta bx.term.to.length tc] 84:=by rw[<-hX];exact zI rfl
 have hB:K.B<=w.heap.size:=Qd (Nat.lt_of_le_of_lt h.lt.1 f3)
 have HX:=Ja (show SlvAt X K p g k s/\SlvTo w X K/\Q X w.heap.size #[.slice pa bx.params.length pc,.slice oa bx.ops.length oc,U bx.term.kind,U bx.term.a,.slice ta bx.term.to.length tc] 84/\mN X K.B (.slice oa bx.ops.length oc) bx.ops/\wH X K.B (.slice ta bx.term.to.length tc) bx.term.to/\Below w.heap.size w X/\w.heap.size<X.heap.size/\K.B<=w.heap.size from
  ⟨h.below a6,SlvTo.of_below a6,c9,b7.below xA (a6.mono hB),b5.below xL (a6.mono hB),a6,lt_of_block c9,hB⟩)
 have HW:=Ja (Jb h (Jb f5 (Jb c5 c4)));have m1:=j5;obtain⟨t6,f2⟩:∃t6,w.heap.size=t6:=⟨_,rfl⟩
 clear h f5 c5 c4 b0 h64 a1 b7 b5 a6 c9 k0 j0 i9 j1 i0 hB;go_enter Tryz.func42,Tryz.ntmps42;go_upto_region 3 with fail;clear hX c6 g0 g1 g2 g3 g4;rw[f2] at HX;have d1:A X t6 1 (.slice oa bx.ops.length oc):=zA HX.out.2.2.1 rfl;go_wp2;clear d1
 go_loopw [5,24] (fun cv jv wx=>∃(j:Nat) (s':Slv) (c:Bool),j<=bx.ops.length/\cv=.bool c/\jv=U j/\Hid ((bx.ops.take j).foldl (opS p k) (s,false)=(s',c)/\SlvAt wx K p g k s'/\SlvTo X wx K)) (fun _ jv _=>bx.ops.length-(intOf jv).toNat)
 case atStart=>exact⟨0,s,false,Jt _,rfl,rfl,Ja ⟨rfl,HX.out.1,SlvTo.refl _ _⟩⟩
 case round=>
  obtain⟨j,s',c,hj,rfl,rfl,l⟩:=hrel
  by_cases a0:j<bx.ops.length
  ·have b8:(j:Int)<(bx.ops.length:Int):=Zo;obtain⟨o,ho⟩:∃o,bx.ops[j]? =some o:=⟨_,Jd a0⟩
   have u:Below K.B X wr:=HX.out.1.keepB l.out.2.2;obtain⟨qb,qo,d5,b2,e0,e1,e2,e3,e4,h64,av,e5,a7⟩:=(HX.out.2.2.2.1.below xA u).get ho;obtain⟨aa,ac,rfl,_,_⟩:=a7.form;subst d5;have d3:qb<wr.heap.size:=Jy b2 (Jn HX.out.2.2.2.2.2.2.2 (Jn (Qd HX.out.2.2.2.2.2.2.1) u.size));obtain⟨Y,hY⟩:∃Y,wr.alloc (G (P o aa ac) 76)=Y:=⟨_,rfl⟩
   have a2:Below wr.heap.size wr Y:=by rw[<-hY];exact(Below.refl _ _).alloc (Je _) _
   have a4:Q Y wr.heap.size (P o aa ac) 76:=by rw[<-hY];exact zI rfl
   have d:=Ja (show SlvAt Y K p g k s'/\SlvTo X Y K/\Q Y wr.heap.size (P o aa ac) 76/\wr.heap.size≠K.rb/\wr.heap.size≠K.kb/\wr.heap.size≠K.sb from⟨l.out.2.1.below a2,l.out.2.2.trans (SlvTo.of_below a2),a4,l.out.2.1.fresh (Je _)⟩);have HO:=Ja (Jb ho (Jb h64 (HW.out.2.1.ops o (Ji ho))));have a3:=Ja a0;clear ho h64 a7 u a2 a4 a0;go_upto_region 6 with fail;clear hY e0 e1 e2 e3 e4 e5 d3 b2;obtain⟨t8,i1⟩:∃t8,wr.heap.size=t8:=⟨_,rfl⟩
   rw[i1] at d ⊢;have z0:A Y t8 0 (U o.code):=zA d.out.2.2.1 rfl;have z1:A Y t8 1 (U o.res):=zA d.out.2.2.1 rfl;have z2:A Y t8 2 (U o.a):=zA d.out.2.2.1 rfl;have z3:A Y t8 3 (U o.b):=zA d.out.2.2.1 rfl;have z4:A Y t8 4 (O (o.n:Int)):=zA d.out.2.2.1 rfl;have z5:A Y t8 5 (.slice aa o.args.length ac):=zA d.out.2.2.1 rfl
   by_cases hr:0<=o.res
   ·have i8:decide (0<=o.res)=true:=decide_eq_true hr;obtain⟨a,ha⟩:∃a,ag2 p s' o=a:=⟨_,rfl⟩
    obtain⟨s2,r,hq⟩:∃s2 r,setF k s' o.res a=(s2,r):=⟨_,_,rfl⟩
    obtain⟨d2,d6,f8⟩:=HO.out.2.2 hr;have y:a.ok:=by rw[<-ha];exact ajY d.out.1.oks d2 hr
    have c0:(aeM a (s'.get o.res)).ok:=ahu y (d.out.1.oks.get _)
    have k3:=Ja (show ∀W,Below Y.heap.size Y W->I 96 #[F K.sb,.agg (P o aa ac)] W (be W a) from fun W hb=>by
     rw[<-ha];exact ajr (d.out.1.below hb) (.slice aa o.args.length ac) HO.out.2.1.1 HO.out.2.1.2.2.2.2 d6 f8)
    have e7:=Ja (show ∀W,SlvAt W K p g k s'->I 38 #[F K.sb,U o.res,.agg #[O (a.lo:Int),O (a.hi:Int)]] W (afw W K p g k (s2,r)) from fun W hb=>by
     have:=aiz hb (v:=o.res.toNat) ((d2 hr).1) y (by rw[Oa hr];exact c0);rw[Oa hr,hq] at this
     exact this)
    have HQ:=Ja (Jb hq (Jb ha hr));clear hq ha d2 d6 f8 y c0;have HC:=Ja (show ∀w':World,w'.heap[t8]? =Y.heap[t8]?->A w' t8 0 (U o.code)/\A w' t8 1 (U o.res)/\A w' t8 2 (U o.a)/\A w' t8 3 (U o.b)/\A w' t8 4 (O (o.n:Int))/\A w' t8 5 (.slice aa o.args.length ac) from fun W h=>⟨zA (h.trans d.out.2.2.1) rfl,zA (h.trans d.out.2.2.1) rfl,zA (h.trans d.out.2.2.1) rfl,zA (h.trans d.out.2.2.1) rfl,zA (h.trans d.out.2.2.1) rfl,zA (h.trans d.out.2.2.1) rfl⟩);have f6:=lt_of_block d.out.2.2.1;cases r
    all_goals go_region_held3 (fun w'=>A w' t8 0 (U o.code)/\A w' t8 1 (U o.res)/\A w' t8 2 (U o.a)/\A w' t8 3 (U o.b)/\A w' t8 4 (O (o.n:Int))/\A w' t8 5 (.slice aa o.args.length ac))
     ((refine HC.out _ ?_;first|exact rfl|exact j4|exact j3))
     ((first
       |(go_at_call 96;refine(k3.out _ Zf).mono ?_;rintro e w1 ⟨rfl,f7⟩;have e6:Below Y.heap.size Y w1:=Below.trans (show Below Y.heap.size Y _ from Zf) (f7.mono (Je _));clear f7;have j4:w1.heap[t8]? =Y.heap[t8]?:=e6.block _ f6)
       |(go_at_call 38;refine(e7.out _ (d.out.1.below (by repeat' (first|with_reducible exact e6|with_reducible refine Below.drew ?_)))).mono ?_;rintro e w2 ⟨rfl,a5,b1⟩;have d0:SlvTo Y w2 K:=SlvTo.trans (SlvTo.of_below (show Below Y.heap.size Y _ from by repeat' (first|with_reducible exact e6|with_reducible refine Below.drew ?_))) b1;have j3:w2.heap[t8]? =Y.heap[t8]?:=d0.block _ f6 d.out.2.2.2.1 d.out.2.2.2.2.1 d.out.2.2.2.2.2;have H2:=Ja (Jb a5 d0);clear a5 b1 d0)))
    all_goals clear z0 z1 z2 z3 z4 z5
    all_goals go_wp2_with fail
    all_goals (
     go_roundw
     case rel=>exact⟨j+1,s2,_,a3.out,by first|rfl|(cases c<;>rfl),by go_num,Ja ⟨by rw[aeN HO.out.1,l.out.1];unfold opS;rw[if_pos HQ.out.2.2];unfold aeZ;rw[show ag2 p (s',c).1 o=a from HQ.out.2.1,HQ.out.1];first|rw[Bool.or_true]|rw[Bool.or_false],H2.out.1.below (by first|exact Below.refl _ _|exact(Below.refl _ _).drew),d.out.2.1.trans (H2.out.2.trans (SlvTo.of_below (by first|exact Below.refl _ _|exact(Below.refl _ _).drew)))⟩⟩
     case measure=>(try have h1:=a3.out);(try have h2:=b4.out);simp[intOf];omega)
   ·have i8:decide (0<=o.res)=false:=decide_eq_false hr;go_quiet (fail);go_wp2;go_roundw
    case rel=>exact⟨j+1,s',c,a3.out,rfl,by go_num,Ja ⟨by rw[aeN HO.out.1,l.out.1];unfold opS;rw[if_neg hr],d.out.1.below (by first|exact Below.refl _ _|exact yC (Below.refl _ _)),d.out.2.1.trans (SlvTo.of_below (by first|exact Below.refl _ _|exact yC (Below.refl _ _)))⟩⟩
    case measure=>(try have h1:=a3.out);(try have h2:=b4.out);simp[intOf];omega
  ·obtain rfl:j=bx.ops.length:=by omega
   have b8:¬(bx.ops.length:Int)<(bx.ops.length:Int):=Zo;have f0:=l.out.2.2.blk HX.out.2.2.1 HX.out.2.2.2.2.2.2.1 (by rw[<-f2];exact HW.out.1.fresh (Je _));have d4:A wr t6 4 (.slice ta bx.term.to.length tc):=zA f0 rfl;have HF:=Ja (show bx.ops.foldl (opS p k) (s,false)=(s',c) by have:=l.out.1;rw[Nl] at this;exact this);have e8:=Ja l.out.2;clear f0 hj a0 l;go_wp2;clear d4
   go_loopw [5,45] (fun cv jv wx=>∃(j:Nat) (s2:Slv) (c2:Bool),j<=bx.term.to.length/\cv=.bool c2/\jv=U j/\Hid ((bx.term.to.take j).foldl (akP g k) (s',c)=(s2,c2)/\SlvAt wx K p g k s2/\SlvTo X wx K)) (fun _ jv _=>bx.term.to.length-(intOf jv).toNat)
   case atStart=>exact⟨0,s',c,Jt _,rfl,rfl,Ja ⟨rfl,e8.out.1,e8.out.2⟩⟩
   case round=>
    clear e8;obtain⟨j,s2,c2,hj,rfl,rfl,l⟩:=hrel
    by_cases a0:j<bx.term.to.length
    ·have b8:(j:Int)<(bx.term.to.length:Int):=Zo;obtain⟨e,he⟩:∃e,bx.term.to[j]? =some e:=⟨_,Jd a0⟩
     have u:Below K.B X wr:=HX.out.1.keepB l.out.2.2;obtain⟨qb,qo,d5,b2,e0,h64,av,e1,a7⟩:=(HX.out.2.2.2.2.1.below xL u).get he;obtain⟨aa,ac,rfl,k2,m0⟩:=a7.form;have m2:e.args.length<=9223372036854775807:=Zo;subst d5;have d3:qb<wr.heap.size:=Jy b2 (Jn HX.out.2.2.2.2.2.2.2 (Jn (Qd HX.out.2.2.2.2.2.2.1) u.size));obtain⟨Y,hY⟩:∃Y,wr.alloc (G #[U e.block,.slice aa e.args.length ac] 79)=Y:=⟨_,rfl⟩
     have a2:Below wr.heap.size wr Y:=by rw[<-hY];exact(Below.refl _ _).alloc (Je _) _
     have a4:Q Y wr.heap.size #[U e.block,.slice aa e.args.length ac] 79:=by rw[<-hY];exact zI rfl
     have f9:K.B<=wr.heap.size:=Qd (Nat.lt_of_le_of_lt l.out.2.1.lt.1 (lt_of_block l.out.2.1.cell));have d:=Ja (show SlvAt Y K p g k s2/\SlvTo X Y K/\Q Y wr.heap.size #[U e.block,.slice aa e.args.length ac] 79/\(wr.heap.size≠K.rb/\wr.heap.size≠K.kb/\wr.heap.size≠K.sb)/\zY Y K.B (.slice aa e.args.length ac) e.args/\wr.heap.size<Y.heap.size from⟨l.out.2.1.below a2,l.out.2.2.trans (SlvTo.of_below a2),a4,l.out.2.1.fresh (Je _),a7.below zO (a2.mono f9),lt_of_block a4⟩);have HO:=Ja (Jb he (HW.out.2.1.tos e (Ji he)));have a3:=Ja a0;clear he h64 a7 u a2 a4 a0 k2 f9;go_upto_region 12 with fail;clear hY e0 e1 d3 b2;obtain⟨t10,g5⟩:∃t10,wr.heap.size=t10:=⟨_,rfl⟩
     rw[g5] at d ⊢;have z1:A Y t10 1 (.slice aa e.args.length ac):=zA d.out.2.2.1 rfl;obtain⟨eb,d8⟩:∃eb:Nat,e.block=eb:=⟨e.block.toNat,by have:=HO.out.2.1;omega⟩
     obtain⟨bq,c7⟩:∃bq,g[eb]? =some bq:=⟨_,Jd (by have:=HO.out.2.1;omega)⟩
     have b9:xz g e.block=bq:=by rw[d8];exact vt c7
     have b6:=HO.out.2.2;rw[b9] at b6;have l9:eb<g.length:=(Jh.1 c7).1;have HE:=Ja (Jb b6 (Jb b9 c7));have k4:=Ja d8;clear b6 b9 c7 d8;go_wp2;clear z1
     go_loopw [5,52] (fun cv jv wx=>∃(m:Nat) (s3:Slv) (c3:Bool),m<=e.args.length/\cv=.bool c3/\jv=U m/\Hid (((bq.params.zip e.args).take m).foldl (argS k) (s2,c2)=(s3,c3)/\SlvAt wx K p g k s3/\SlvTo Y wx K)) (fun _ jv _=>e.args.length-(intOf jv).toNat)
     case atStart=>exact⟨0,s2,c2,Jt _,rfl,rfl,Ja ⟨rfl,d.out.1,SlvTo.refl _ _⟩⟩
     case round=>
      obtain⟨m,s3,c3,hm,rfl,rfl,t⟩:=hrel
      by_cases b3:m<e.args.length
      ·have j2:(m:Int)<(e.args.length:Int):=Zo;obtain⟨x,hx⟩:∃x,e.args[m]? =some x:=⟨_,Jd b3⟩
       obtain⟨v,hv⟩:∃v,bq.params[m]? =some v:=⟨_,Jd (by rw[<-HE.out.1.1];exact b3)⟩
       have hz:(bq.params.zip e.args)[m]? =some (v,x):=List.getElem?_zip_eq_some.2 ⟨hv,hx⟩;have e9:=HE.out.1.2.1 x (Ji hx);have h7:=HE.out.1.2.2 v (Ji hv);have u:Below K.B Y wr:=d.out.1.keepB t.out.2.2;obtain⟨xb,xo,h5,h6,xc,_⟩:=(d.out.2.2.2.2.1.below zO u).get hx;subst h5;have d9:=t.out.2.1.blks;rw[HW.out.2.2.2] at d9;obtain⟨ub,uo,f1,h9,_,_,_,pv,_,_,u0,_,_,a1,_,_⟩:=d9.get HE.out.2.2;simp only[Option.some.injEq,Addr.mk.injEq,and_true] at f1;obtain⟨rfl,rfl⟩:=f1;obtain⟨ya,yc,rfl,g9,k6⟩:=a1.form;obtain⟨yb,yo,h0,h4,y0,_⟩:=a1.get hv;subst h0;rw[Nk] at xc y0;obtain⟨xn,rfl⟩:∃xn:Nat,x=xn:=⟨x.toNat,by omega⟩
       obtain⟨vn,rfl⟩:∃vn:Nat,v=vn:=⟨v.toNat,by omega⟩
       obtain⟨r0,r1⟩:=t.out.2.1.rcell e9;rw[Ni] at r0 r1;obtain⟨a,ha⟩:∃a,s3.get (xn:Int)=a:=⟨_,rfl⟩
       rw[ha] at r0 r1;have y:a.ok:=by rw[<-ha];exact t.out.2.1.oks.get _
       obtain⟨s4,r,hq⟩:∃s4 r,setF k s3 (vn:Int) a=(s4,r):=⟨_,_,rfl⟩
       have h8:vn<K.n:=Zo;have k7:xn<K.n:=Zo
       have e7:=Ja (show ∀W,SlvAt W K p g k s3->I 38 #[F K.sb,U vn,.agg #[O (a.lo:Int),O (a.hi:Int)]] W (afw W K p g k (s4,r)) from fun W hb=>by
        have:=aiz hb h8 y (ahu y (hb.oks.get _));rw[hq] at this
        exact this)
       have f4:bq.params.length=e.args.length:=HE.out.1.1.symm;have c6:=t.out.2.1.cells.2.2.2.2.2;rw[HW.out.2.2.2] at c6;have c8:=t.out.2.1.cells.2.2.1;have d7:=t.out.2.2.blk d.out.2.2.1 d.out.2.2.2.2.2 d.out.2.2.2.1;have z0:A wr t10 0 (U eb):=by rw[<-k4.out];exact zA d7 rfl
       have l7:=t.out.2.1.n64;have l4:m<bq.params.length:=Zo;have HQ:=Ja (Jb hq (Jb ha (Jb hz f4)));have i2:=lt_of_block t.out.2.1.cell;have a5:=lt_of_block t.out.2.1.row;have m3:K.B<=wr.heap.size:=Qd (Nat.lt_of_le_of_lt t.out.2.1.lt.1 i2);have l3:xb<wr.heap.size:=Zo;have l2:bb<wr.heap.size:=Zo;have l1:yb<wr.heap.size:=Zo;have b4:=Ja b3;clear hq ha hz hx hv f4 d9 a1 u d7 g9 y e9 h7 h6 h9 h4 b3;go_upto_region 15 with fail;refine zt 21 Zk Zk ?_;simp only[Qo,Uc,Qp,Ui]
       repeat (go_big_quiet_step (fail))
       refine wpQuiet_nil ?_;clear z0 c6 c8 y0 u0 xc r0 r1;cases r
       all_goals go_wp2_with (go_at_call 38;go_must (refine(e7.out _ (t.out.2.1.below (Below.refl _ _).drew)).mono ?_;rintro e w2 ⟨rfl,a5,b1⟩;have H2:=Ja (Jb a5 ((SlvTo.of_below (Below.refl wr.heap.size wr).drew).trans b1));clear a5 b1))
       all_goals (
        go_roundw
        case rel=>exact⟨m+1,s4,_,b4.out,by first|rfl|(cases c3<;>rfl),by go_num,Ja ⟨by rw[aeN HQ.out.2.2.1,t.out.1];unfold argS aeZ;rw[show(s3,c3).1.get ((vn:Int),(xn:Int)).2=a from HQ.out.2.1,HQ.out.1];first|rw[Bool.or_true]|rw[Bool.or_false],H2.out.1.below (by first|exact Below.refl _ _|exact(Below.refl _ _).drew),t.out.2.2.trans (H2.out.2.trans (SlvTo.of_below (by first|exact Below.refl _ _|exact(Below.refl _ _).drew)))⟩⟩
        case measure=>(try have h1:=a3.out);(try have h2:=b4.out);simp[intOf];omega)
      ·obtain rfl:m=e.args.length:=by omega
       have j2:¬(e.args.length:Int)<(e.args.length:Int):=Zo;clear hm b3;go_wp2;go_roundw
       case rel=>
        refine⟨j+1,s3,c3,a3.out,rfl,by go_num,Ja ⟨?_,t.out.2.1,d.out.2.1.trans t.out.2.2⟩⟩;rw[aeN HO.out.1,l.out.1];unfold akP;rw[HE.out.2.1,<-t.out.1,Oy (by rw[List.length_zip,HE.out.1.1];omega)]
       case measure=>(try have h1:=a3.out);(try have h2:=b4.out);simp[intOf];omega
    ·obtain rfl:j=bx.term.to.length:=by omega
     have b8:¬(bx.term.to.length:Int)<(bx.term.to.length:Int):=Zo;clear hj a0;go_wp2;go_ret
     have g6:ai0 p g k (s,false) bx=(s2,c2):=by
      unfold ai0;rw[HF.out,<-l.out.1,Nl]
     rw[g6];exact⟨rfl,l.out.2.1,HX.out.2.1.trans l.out.2.2⟩
def aj0 (a:Int):List IOp:=[⟨1,1,0,0,15,[]⟩,⟨9,2,0,1,0,[]⟩,⟨2,3,0,0,0,[]⟩,⟨5,4,2,3,0,[]⟩,⟨a,5,4,0,0,[]⟩]
def mainL:List IBlk:=[⟨[],[],⟨5,0,[]⟩⟩]
def akm (a:Int):List IBlk:=[⟨[0],aj0 a,⟨4,5,[]⟩⟩]
def aim (a:Int):IProg:=⟨[mainL,akm a],[0,1],0,-1,[⟨-1,16384,16⟩],[]⟩
theorem yN.two{α:Type}{sz:Nat}{R:World->Nat->Nat->Nat->α->Prop}{B b:Nat}{x y:α}(hb:b<B)(c:R w B b 0 x)(h1:R w B b sz y):yN sz R w B (T b 2 2) [x,y]:=by
 refine⟨_,2,rfl,Je _,by omega,fun k z hk=>⟨b,0,rfl,hb,?_⟩⟩
 match k,hk with
 |0,hk=>cases hk;rw[Ng,Nat.zero_mul];exact c
 |1,hk=>cases hk;rw[Ng,Nat.one_mul];exact h1
def akY (o:IOp):IOp×Value:=(o,L)
theorem ops_nil{B b n:Nat}{l:List IOp}{e:TypeId}(h:Q w b ((l.map akY).flatMap zU).toArray e)(hb:b<B)(h64:∀o∈l,qN o/\o.args=[])(c:n=l.length)(hl:l.length<=1000000):
 mN w B (T b n n) l:=by
 have:=aki (l:=l.map akY) h hb (fun q hq=>by
  obtain⟨o,ho,rfl⟩:=Nu.1 hq;obtain⟨h1,h2⟩:=h64 o ho;refine⟨h1,?_⟩
  show zY w B (L) o.args
  rw[h2]
  exact yN.nil) (by rw[Nr];exact hl)
 rw[Nr,List.map_map,show((fun q:IOp×Value=>q.1) ∘ akY)=id from rfl,List.map_id] at this;rw[c];exact this
theorem aiI (w:World)(a:Int)(j:I64 a):I 30 #[U a] w (mL w (aim a)):=by
 have t:=Ja j;clear j;obtain⟨s,hs⟩:∃s,w.heap.size=s:=⟨_,rfl⟩
 go_enter Tryz.func30,Tryz.ntmps30;go_wp2;generalize c:World.alloc _ _=W;have hb:Below s w W:=by rw[<-c,<-hs];repeat' (first|exact Below.refl _ _|refine Below.alloc ?_ (by first|exact Je _|(simp;done)|(simp;omega)) _)
 have d:Q W s #[T (s+1+1+1+1+1+1+1) 2 2,T (s+1+1+1+1+1+1+1+1) 2 2,U 0,U (-1),T (s+1+1+1+1+1+1+1+1+1) 1 1,L] 29:=by rw[<-c];repeat' (first|exact zI (by first|exact hs|rfl|(simp;done)|(simp;omega))|refine zB ?_)
 have h1:Q W (s+1) (((aj0 a).map akY).flatMap zU).toArray 76:=by rw[<-c];repeat' (first|exact zI (by first|exact hs|rfl|(simp;done)|(simp;omega))|refine zB ?_)
 have h2:Q W (s+1+1) #[L,L,U 5,U 0,L] 84:=by rw[<-c];repeat' (first|exact zI (by first|exact hs|rfl|(simp;done)|(simp;omega))|refine zB ?_)
 have m:Q W (s+1+1+1+1) #[U 0] 3:=by rw[<-c];repeat' (first|exact zI (by first|exact hs|rfl|(simp;done)|(simp;omega))|refine zB ?_)
 have g:Q W (s+1+1+1+1+1) #[T (s+1+1+1+1) 1 1,T (s+1) 5 5,U 4,U 5,L] 84:=by rw[<-c];repeat' (first|exact zI (by first|exact hs|rfl|(simp;done)|(simp;omega))|refine zB ?_)
 have l:Q W (s+1+1+1+1+1+1+1) #[T (s+1+1) 1 1,T (s+1+1+1+1+1) 1 1] 39:=by rw[<-c];repeat' (first|exact zI (by first|exact hs|rfl|(simp;done)|(simp;omega))|refine zB ?_)
 have k:Q W (s+1+1+1+1+1+1+1+1) #[U 0,U 1] 3:=by rw[<-c];repeat' (first|exact zI (by first|exact hs|rfl|(simp;done)|(simp;omega))|refine zB ?_)
 have h:Q W (s+1+1+1+1+1+1+1+1+1) #[U (-1),O 16384,O 16] 89:=by rw[<-c];repeat' (first|exact zI (by first|exact hs|rfl|(simp;done)|(simp;omega))|refine zB ?_)
 clear c;have x:=lt_of_block h;refine bodyPost_ret (v:=.agg #[T (s+1+1+1+1+1+1+1) 2 2,T (s+1+1+1+1+1+1+1+1) 2 2,U 0,U (-1),T (s+1+1+1+1+1+1+1+1+1) 1 1,L]) ?_ rfl ?_
 ·have x0:=zA (i:=0) d rfl;have x1:=zA (i:=1) d rfl;have x2:=zA (i:=2) d rfl;have x3:=zA (i:=3) d rfl;have x4:=zA (i:=4) d rfl;have x5:=zA (i:=5) d rfl;have u:=lt_of_block d;rw[zM rfl];go_simp
 ·refine⟨⟨_,_,_,_⟩,rfl,⟨?_,?_,?_,yN.nil,pZ,i64_neg⟩,by rw[hs];exact hb⟩
  ·refine yN.two Zo ⟨_,zA l rfl,yN.one Zo ?_⟩ ⟨_,zA l rfl,yN.one Zo ?_⟩
   ·exact⟨zA h2 rfl,zA h2 rfl,⟨⟨by decide,by decide⟩,⟨by decide,by decide⟩⟩,_,_,_,zA h2 rfl,zA h2 rfl,zA h2 rfl,yN.nil,yN.nil,yN.nil⟩
   ·refine⟨zA g rfl,zA g rfl,⟨(show I64 (4) from⟨by decide,by decide⟩),(show I64 (5) from⟨by decide,by decide⟩)⟩,_,_,_,zA g rfl,zA g rfl,zA g rfl,yN.one Zo ⟨zA m rfl,⟨by decide,by decide⟩⟩,ops_nil h1 Zo (fun o ho=>?_) rfl (by show(5:Nat)<=_;omega),yN.nil⟩;simp only[aj0,Jq,List.not_mem_nil,or_false] at ho;rcases ho with rfl|rfl|rfl|rfl|rfl
    ·exact⟨⟨⟨by decide,by decide⟩,⟨by decide,by decide⟩,⟨by decide,by decide⟩,⟨by decide,by decide⟩,by decide⟩,rfl⟩
    ·exact⟨⟨⟨by decide,by decide⟩,⟨by decide,by decide⟩,⟨by decide,by decide⟩,⟨by decide,by decide⟩,by decide⟩,rfl⟩
    ·exact⟨⟨⟨by decide,by decide⟩,⟨by decide,by decide⟩,⟨by decide,by decide⟩,⟨by decide,by decide⟩,by decide⟩,rfl⟩
    ·exact⟨⟨⟨by decide,by decide⟩,⟨by decide,by decide⟩,⟨by decide,by decide⟩,⟨by decide,by decide⟩,by decide⟩,rfl⟩
    ·exact⟨⟨t.out,(show I64 (5) from⟨by decide,by decide⟩),(show I64 (4) from⟨by decide,by decide⟩),(show I64 (0) from⟨by decide,by decide⟩),(show(0:Nat)<65536 by decide)⟩,rfl⟩
  ·exact yN.two Zo ⟨zA k rfl,⟨by decide,by decide⟩⟩ ⟨zA k rfl,⟨by decide,by decide⟩⟩
  ·exact yN.one Zo ⟨zA h rfl,zA h rfl,zA h rfl,⟨by decide,by decide⟩,by decide,by decide⟩
end Go.Proofs.YtoahcpkibpomcaaGreat
