/- Part of a proof. -/
import Derived.Test.YtoahcpkibpomcaaGreatGZwiw
set_option linter.all false
set_option maxHeartbeats 16000000
set_option maxRecDepth 100000
namespace Go.Proofs.YtoahcpkibpomcaaGreat
open Go.RowKit
variable {W w w' wx:World}{xs:List Nat}{M a2 b2 d2 f2 g i j k m o5 ob p1 t2:Nat}{t:Slv}{u:Value}{c:Int}{r':Row}{rs:List Row}{o:IOp}{oc pc:Array Value}{bl:List IBlk}{K:SK}{l:List IOp}{a1 b1 d1 f1:Option Addr}
theorem Tryz.info_obj:(Tryz.prog.info? 89).map (fun i=>(i.zero,i.size,i.bytes))=some (some (.agg #[U 0,Y 0,Y 0]),3,16):=by kernel_rfl
theorem Tryz.info_str:(Tryz.prog.info? 9).map (fun i=>(i.zero,i.size,i.bytes))=some (some (.string ⟨#[]⟩),1,16):=by kernel_rfl
theorem oe{α:Type}{sz:Nat}{R:World->Nat->Nat->Nat->α->Prop}{f:α->List Value}(c:0<sz)(hf:∀a,(f a).length=sz)(h1:∀a,∀u∈f a,u.oneCell'=true){B:Nat}{v:Value}{xs:List α}(h:yN sz R w B v xs)
 (hR:∀b q x,R w B b q x->∀j u,(f x)[j]? =some u->A w b (q+j) u):yM w sz v xs.length (xs.flatMap f):=by
 obtain⟨a,m,rfl,h2,h3,l⟩:=h;refine⟨a,m,rfl,wq f sz hf xs,fun u hu=>?_,?_⟩
 ·obtain⟨x,_,t⟩:=Qx.1 hu;exact h1 x u t
 ·cases xs with
  |nil=>
   cases a with
   |none=>exact .inl ⟨rfl,rfl⟩
   |some ad=>exact .inr ⟨ad,rfl,fun j u hu=>by simp at hu⟩
  |cons x xs=>
   obtain⟨b,o,rfl,_,_⟩:=l 0 x rfl;refine .inr ⟨_,rfl,fun j u hu=>?_⟩
   have i:j<(x::xs).length*sz:=by
    have:=(Jh.1 hu).1;rw[wq f sz hf] at this;exact this
   have hk:j/sz<(x::xs).length:=by
    rw[Nat.div_lt_iff_lt_mul c];exact i
   obtain⟨y,d⟩:∃y,(x::xs)[j/sz]? =some y:=⟨_,Jd hk⟩
   obtain⟨b',o',e,_,hr⟩:=l (j/sz) y d;cases e;have hm:=Qj j c;have hj:j=(j/sz)*sz+j%sz:=by rw[Nat.mul_comm];exact(Nat.div_add_mod j sz).symm
   have g:(f y)[j%sz]? =some u:=by
    have k:=uB f sz hf (x::xs) (j/sz) y d (j%sz) hm;rw[<-hj] at k;rw[<-k];exact hu
   have h6:=hR _ _ _ hr (j%sz) u g
   have e2:(⟨b,o,none⟩:Addr).add j=⟨b,o+j,none⟩:=by
    unfold Addr.add
    split
    ·rename_i h0;rw[h0];rfl
    ·rfl
   rw[e2,show o+j=o+(j/sz)*sz+j%sz by omega];exact h6
theorem kQ:∀(w:World) (B b q:Nat) (x:IObj),ObjR w B b q x->∀(j:Nat) (u:Value),(xP x)[j]? =some u->A w b (q+j) u:=fun w B b q x h j u hj=>by
 obtain⟨c,h1,h2,_⟩:=h
 match j,hj with
 |0,hj=>cases hj;exact c
 |1,hj=>cases hj;exact h1
 |2,hj=>cases hj;exact h2
 |j+3,hj=>simp[xP] at hj
theorem strs_src{B:Nat}{v:Value}{xs:List ByteArray}(h:adu w B v xs):yM w 1 v xs.length (xs.map .string):=by
 have h1:=oe (f:=fun s:ByteArray=> [Value.string s]) (sz:=1) Zd (fun _=>rfl) (fun a u hu=>by rw[Jo] at hu;subst hu;rfl) h (fun b q x hx j u hj=>by
  match j,hj with
  |0,hj=>cases hj;exact hx.1
  |j+1,hj=>simp at hj)
 rw[<-Qh] at h1;exact h1
theorem vz{B r2:Nat}{t:PT}{cs:Array Value}(h:Rows w B t.rows)(h2:O w r2 cs 29):Rows (w.setCell ⟨r2,i,none⟩ u) B t.rows:=by
 refine h.keep fun k hk=>Below.heap_setCell _ _ _ _ (fun e=>?_)
 obtain⟨x,d,c⟩:=Nj.1 hk;have e':k=r2:=e;subst e';exact zC (h.own x d) h2 (.inr (vr x d)) c
def pt0 (en hn:Int):PT:=⟨[],L,[],L,[],L,[],L,en,hn⟩
theorem pt0_rows{B:Nat}{en:Int}:Rows w B (pt0 en c).rows:=by
 show Rows w B [wY (L) [],zP (L) [],vK (L) [],v8 (L) []]
 refine(((Rows.nil.cons (Jv _ _ _ _) ?_).cons (Jv _ _ _ _) ?_).cons (Jv _ _ _ _) ?_).cons (Jv _ _ _ _) ?_
 all_goals (intro g e;simp[Row.blk,v8,vK,zP,wY,Value.ownBlock] at e)
structure SmallP (p:IProg):Prop where
 fn:p.funcs.length<=2000000/\∀f∈p.funcs,vZ f/\jx f
 ar:p.args.length<=2000000
 da:p.data.length<=2000000
 ba:p.banks.length<=2000000
theorem own_any{V:PV}{p:IProg}(hp:ProgIn w w.heap.size V p)(hs:SmallP p):
 G 18 #[yH V p] w (fun e w'=>∃t:PT,e=.returned (yH t.V p)/\t.prog=p/\Rows w' w.heap.size t.rows/\N w w'):=by
 obtain⟨fa,fc,e9,n0,m4⟩:=hp.funcs.form;obtain⟨aa,ac,f3,n8,n6⟩:=hp.args.form;obtain⟨da,dc,f0,n3,n1⟩:=hp.data.form;obtain⟨ba,bc,f1,k0,n4⟩:=hp.banks.form;obtain⟨p1,c9⟩:∃p1,w.heap.size=p1:=⟨_,rfl⟩
 have m5:=hs.fn.1;have n7:=hs.ar;have n2:=hs.da;have f2:=hs.ba;have i2:ProgIn w w.heap.size ⟨.slice fa p.funcs.length fc,.slice aa p.args.length ac,.slice da p.data.length dc,.slice ba p.banks.length bc⟩ p:=⟨by show iS _ _ _ _;rw[<-e9];exact hp.funcs,by show zY _ _ _ _;rw[<-f3];exact hp.args,by show kq _ _ _ _;rw[<-f0];exact hp.data,by show adu _ _ _ _;rw[<-f1];exact hp.banks,hp.ent,hp.hnd⟩
 have HP:=Ja (Jb i2 (Jb hs (Jb c9 (Jb e9 (Jb f3 (Jb f0 f1))))));unfold yH;rw[e9,f3,f0,f1];clear hp i2 hs e9 f3 f0 f1;have k2:N w (((w.alloc (I (P p fa fc aa ac da dc ba bc) 29)).alloc (I #[L,L,U 0,U 0,L,L] 29)).alloc (I #[L,L,U p.entry,U p.handler,L,L] 29)):=(((Below.refl _ _).alloc (Je _) _).alloc Zs _).alloc Zt _;have f4:=zB (o:=I #[L,L,U p.entry,U p.handler,L,L] 29) (zB (o:=I #[L,L,U 0,U 0,L,L] 29) (zI (W:=w) (o:=I (P p fa fc aa ac da dc ba bc) 29) rfl));have e0:=zB (o:=I #[L,L,U p.entry,U p.handler,L,L] 29) (zI (W:=w.alloc (I (P p fa fc aa ac da dc ba bc) 29)) (o:=I #[L,L,U 0,U 0,L,L] 29) rfl);have d9:=zI (W:=(w.alloc (I (P p fa fc aa ac da dc ba bc) 29)).alloc (I #[L,L,U 0,U 0,L,L] 29)) (o:=I #[L,L,U p.entry,U p.handler,L,L] 29) rfl;have i0:(w.alloc (I (P p fa fc aa ac da dc ba bc) 29)).heap.size=w.heap.size+1:=by simp
 have h9:((w.alloc (I (P p fa fc aa ac da dc ba bc) 29)).alloc (I #[L,L,U 0,U 0,L,L] 29)).heap.size=w.heap.size+1+1:=by simp
 rw[i0] at e0;rw[h9] at d9;clear i0 h9;go_enter Tryz.func18,Tryz.ntmps18;go_upto_region 2 with fail;generalize f9:((w.alloc (I (P p fa fc aa ac da dc ba bc) 29)).alloc (I #[L,L,U 0,U 0,L,L] 29)).alloc (I #[L,L,U p.entry,U p.handler,L,L] 29)=W1 at *;rw[c9] at f4 e0 d9;generalize k9:p1+1+1=q3 at *;generalize k7:p1+1=r2 at *;have f8:p1<r2/\r2<q3:=Zo;obtain⟨t0,f5⟩:∃t0,pt0 p.entry p.handler=t0:=⟨_,rfl⟩
 have c7:OwMid w p1 r2 q3 ⟨.slice fa p.funcs.length fc,.slice aa p.args.length ac,.slice da p.data.length dc,.slice ba p.banks.length bc⟩ p t0 W1:=⟨f4,e0,by rw[<-f5];exact d9,by rw[<-c9];exact k2,by rw[<-f5];exact pt0_rows,f8⟩
 have d5:=Ja f5;clear k2 f4 e0 d9 f9 k9 k7 f8;have c3:=HP.out.1;have a1:N w W1:=by rw[c9];exact c7.bel
 have b8:yM W1 1 (.slice aa p.args.length ac) (p.args.length) (p.args.map zN):=zY.src (c3.args.below zO a1);have qc:=zA (i:=1) c7.h3 rfl;have qs:A W1 q3 1 (L):=by rw[qc];rw[<-d5.out];rfl
 have ql:=lt_of_block c7.h3;have pc:=zA (i:=1) c7.h1 rfl;have pl:=lt_of_block c7.h1;have d0:=c7.sz;have g5:=Ja (Jb c7 b8);have b9:W1.ownsRow p1 3 1 (L) 0 []:=Jv _ _ _ _;obtain⟨ij,c1,a5,a4,a3⟩:=info_parts Tryz.info_int;clear c7 b8 c3 a1 qc;go_upto_region 3 with(at_builtin;go_must (refine zK _ rfl (.tmp 11) (.tmp 13) 22 rfl p1 3 ij (U 0) 1 8 Tryz.underlying22 c1 a5 a4 a3 rfl Zd (L) 0 [] rfl b9 (.slice aa p.args.length ac) (p.args.length) (p.args.map zN) rfl g5.out.2 (by unfold maxLen;omega) Zo Zo ?_;intro v9 w9 d g h;obtain⟨a0,y,rfl⟩:=zG d;have a2:=zL g g5.out.1.h3 (by simp[Value.ownBlock]);have d2:=zA (i:=1) a2 rfl;have d1:D w9 q3 1:=zE a2;have c8:=lt_of_block a2;have l:=Ja (Jb d (Jb g h));clear d g h a2))
 have d:=l.out.1;have h:=l.out.2.2;rw[Ng,Op] at d;rw[Ng] at h;obtain⟨t1,e5⟩:∃t1:PT,{t0 with args:=p.args,av:=.slice a0 (p.args.length) y }=t1:=⟨_,rfl⟩
 have c5:OwMid w p1 r2 q3 ⟨.slice fa p.funcs.length fc,.slice aa p.args.length ac,.slice da p.data.length dc,.slice ba p.banks.length bc⟩ p t1 (w9.setCell ⟨q3,1,none⟩ (.slice a0 (p.args.length) y)):=by
  rw[<-e5];refine g5.out.1.grow (r:=zP t0.av t0.args) (r':=zP (.slice a0 (p.args.length) y) (p.args)) (ns:=[]) (rs:=wY t0.fv t0.funcs::vK t0.dv t0.data::v8 t0.bv t0.banks::t0.funcs.flatMap FT.rows) ?_ (Below.refl _ _) Rows.nil ?_ d (fun x e=>?_) ?_ rfl
  ·classical
   unfold PT.rows;refine Jp.2 fun r=>?_
   simp only[Nb,Nf,Op];omega
  ·rw[show(zP t0.av t0.args).blk=none by rw[<-d5.out];rfl];exact l.out.2.1
  ·rcases h with e2|e2
   ·have e3:=e2.symm.trans e;simp[Value.ownBlock] at e3
   ·right;have e3:=e2.symm.trans e;simp at e3;omega
  ·classical
   unfold PT.rows;refine Jp.2 fun r=>?_
   simp only[Nb,Nf,Op];omega
 generalize f9:w9.setCell ⟨q3,1,none⟩ (.slice a0 (p.args.length) y)=V1 at *;rw[<-d5.out] at e5;have g2:=Ja e5;clear l d h f9 d2 d1 c8 qs ql pc pl b9 d0 e5 c1 a5 a4 a3 ij;have c3:=HP.out.1;have a1:N w V1:=by rw[c9];exact c5.bel
 have b8:yM V1 3 (.slice da p.data.length dc) (p.data.length) (p.data.flatMap xP):=oe (f:=xP) Zd sk (by simp[xP,Value.oneCell']) (c3.data.below tZ a1) (fun b q x hx=>kQ _ _ b q x hx);have qc:=zA (i:=4) c5.h3 rfl;have qs:A V1 q3 4 (L):=by rw[qc];rw[<-g2.out];rfl
 have ql:=lt_of_block c5.h3;have pc:=zA (i:=4) c5.h1 rfl;have pl:=lt_of_block c5.h1;have d0:=c5.sz;have g4:=Ja (Jb c5 b8);have b9:V1.ownsRow p1 89 3 (L) 0 []:=Jv _ _ _ _;obtain⟨ij,c1,a5,a4,a3⟩:=info_parts Tryz.info_obj;clear c5 b8 c3 a1 qc;go_upto_region 4 with(at_builtin;go_must (refine zK _ rfl (.tmp 17) (.tmp 19) 26 rfl p1 89 ij (.agg #[U 0,Y 0,Y 0]) 3 16 Tryz.underlying26 c1 a5 a4 a3 rfl Zd (L) 0 [] rfl b9 (.slice da p.data.length dc) (p.data.length) (p.data.flatMap xP) rfl g4.out.2 (by unfold maxLen;omega) Zo Zo ?_;intro v9 w9 d g h;obtain⟨a8,a6,rfl⟩:=zG d;have a2:=zL g g4.out.1.h3 (by simp[Value.ownBlock]);have d2:=zA (i:=4) a2 rfl;have d1:D w9 q3 4:=zE a2;have c8:=lt_of_block a2;have l:=Ja (Jb d (Jb g h));clear d g h a2))
 have d:=l.out.1;have h:=l.out.2.2;rw[Ng,Op] at d;rw[Ng] at h;obtain⟨t2,e4⟩:∃t2:PT,{t1 with data:=p.data,dv:=.slice a8 (p.data.length) a6 }=t2:=⟨_,rfl⟩
 have c4:OwMid w p1 r2 q3 ⟨.slice fa p.funcs.length fc,.slice aa p.args.length ac,.slice da p.data.length dc,.slice ba p.banks.length bc⟩ p t2 (w9.setCell ⟨q3,4,none⟩ (.slice a8 (p.data.length) a6)):=by
  rw[<-e4];refine g4.out.1.grow (r:=vK t1.dv t1.data) (r':=vK (.slice a8 (p.data.length) a6) (p.data)) (ns:=[]) (rs:=wY t1.fv t1.funcs::zP t1.av t1.args::v8 t1.bv t1.banks::t1.funcs.flatMap FT.rows) ?_ (Below.refl _ _) Rows.nil ?_ d (fun x e=>?_) ?_ rfl
  ·classical
   unfold PT.rows;refine Jp.2 fun r=>?_
   simp only[Nb,Nf,Op];omega
  ·rw[show(vK t1.dv t1.data).blk=none by rw[<-g2.out];rfl];exact l.out.2.1
  ·rcases h with e2|e2
   ·have e3:=e2.symm.trans e;simp[Value.ownBlock] at e3
   ·right;have e3:=e2.symm.trans e;simp at e3;omega
  ·classical
   unfold PT.rows;refine Jp.2 fun r=>?_
   simp only[Nb,Nf,Op];omega
 generalize l2:w9.setCell ⟨q3,4,none⟩ (.slice a8 (p.data.length) a6)=V2 at *;rw[<-g2.out] at e4;have g1:=Ja e4;clear l d h l2 d2 d1 c8 qs ql pc pl b9 d0 e4 c1 a5 a4 a3 ij;have c3:=HP.out.1;have a1:N w V2:=by rw[c9];exact c4.bel
 have b8:yM V2 1 (.slice ba p.banks.length bc) (p.banks.length) (p.banks.map .string):=strs_src (c3.banks.below tN a1);have qc:=zA (i:=5) c4.h3 rfl;have qs:A V2 q3 5 (L):=by rw[qc];rw[<-g1.out];rfl
 have ql:=lt_of_block c4.h3;have pc:=zA (i:=5) c4.h1 rfl;have pl:=lt_of_block c4.h1;have d0:=c4.sz;have g3:=Ja (Jb c4 b8);have b9:V2.ownsRow p1 9 1 (L) 0 []:=Jv _ _ _ _;obtain⟨ij,c1,a5,a4,a3⟩:=info_parts Tryz.info_str;clear c4 b8 c3 a1 qc;go_upto_region 5 with(at_builtin;go_must (refine zK _ rfl (.tmp 23) (.tmp 25) 27 rfl p1 9 ij (.string ⟨#[]⟩) 1 16 Tryz.underlying27 c1 a5 a4 a3 rfl Zd (L) 0 [] rfl b9 (.slice ba p.banks.length bc) (p.banks.length) (p.banks.map .string) rfl g3.out.2 (by unfold maxLen;omega) Zo Zo ?_;intro v9 w9 d g h;obtain⟨b7,rc3,rfl⟩:=zG d;have a2:=zL g g3.out.1.h3 (by simp[Value.ownBlock]);have d2:=zA (i:=5) a2 rfl;have d1:D w9 q3 5:=zE a2;have c8:=lt_of_block a2;have l:=Ja (Jb d (Jb g h));clear d g h a2))
 have d:=l.out.1;have h:=l.out.2.2;rw[Ng,Op] at d;rw[Ng] at h;obtain⟨t3,e1⟩:∃t3:PT,{t2 with banks:=p.banks,bv:=.slice b7 (p.banks.length) rc3 }=t3:=⟨_,rfl⟩
 have j0:OwMid w p1 r2 q3 ⟨.slice fa p.funcs.length fc,.slice aa p.args.length ac,.slice da p.data.length dc,.slice ba p.banks.length bc⟩ p t3 (w9.setCell ⟨q3,5,none⟩ (.slice b7 (p.banks.length) rc3)):=by
  rw[<-e1];refine g3.out.1.grow (r:=v8 t2.bv t2.banks) (r':=v8 (.slice b7 (p.banks.length) rc3) (p.banks)) (ns:=[]) (rs:=wY t2.fv t2.funcs::zP t2.av t2.args::vK t2.dv t2.data::t2.funcs.flatMap FT.rows) ?_ (Below.refl _ _) Rows.nil ?_ d (fun x e=>?_) ?_ rfl
  ·classical
   unfold PT.rows;refine Jp.2 fun r=>?_
   simp only[Nb,Nf,Op];omega
  ·rw[show(v8 t2.bv t2.banks).blk=none by rw[<-g1.out];rfl];exact l.out.2.1
  ·rcases h with e2|e2
   ·have e3:=e2.symm.trans e;simp[Value.ownBlock] at e3
   ·right;have e3:=e2.symm.trans e;simp at e3;omega
  ·classical
   unfold PT.rows;refine Jp.2 fun r=>?_
   simp only[Nb,Nf,Op];omega
 generalize l1:w9.setCell ⟨q3,5,none⟩ (.slice b7 (p.banks.length) rc3)=V3 at *;rw[<-g1.out] at e1;have l3:=Ja e1;clear l d h l1 d2 d1 c8 qs ql pc pl b9 d0 e1 c1 a5 a4 a3 ij
 have d6:t3.funcs=[]/\t3.fv=L/\t3.args=p.args/\t3.data=p.data/\t3.banks=p.banks/\t3.entry=p.entry/\t3.handler=p.handler/\t3.av=.slice a0 p.args.length y/\t3.dv=.slice a8 p.data.length a6/\t3.bv=.slice b7 p.banks.length rc3:=by
  rw[<-l3.out];exact⟨rfl,rfl,rfl,rfl,rfl,rfl,rfl,rfl,rfl,rfl⟩
 have d5:=Ja (show OwMid w p1 r2 q3 ⟨.slice fa p.funcs.length fc,.slice aa p.args.length ac,.slice da p.data.length dc,.slice ba p.banks.length bc⟩ p {t3 with funcs:=[],fv:=L } V3/\([]:List FT).map FT.fn=p.funcs.take 0 from⟨by
  have e:({t3 with funcs:=[],fv:=L }:PT)=t3:=by
   obtain⟨x1,x2,x3,x4,x5,x6,x7,x8,x9,l6⟩:=t3;obtain⟨h1,h2,_⟩:=d6;simp only at h1 h2;rw[h1,h2]
  rw[e]
  exact j0,rfl⟩)
 have m:=Ja d6;clear j0 d6;go_wp2
 go_loopw [4] (fun kv wx=>∃(k:Nat) (fl:List FT) (ga:Option Addr) (gc:Nat),k<=p.funcs.length/\kv=U k/\Hid (OwMid w p1 r2 q3 ⟨.slice fa p.funcs.length fc,.slice aa p.args.length ac,.slice da p.data.length dc,.slice ba p.banks.length bc⟩ p {t3 with funcs:=fl,fv:=.slice ga k gc } wx/\fl.map FT.fn=p.funcs.take k)) (fun kv _=>p.funcs.length-(intOf kv).toNat)
 case atStart=>exact⟨0,[],none,0,Jt _,rfl,d5⟩
 case round=>
  obtain⟨k,fl,ga,gc,hk,rfl,j⟩:=hrel;have c0:A wr p1 0 (.slice fa p.funcs.length fc):=zA (i:=0) j.out.1.h1 rfl;have cl:=lt_of_block j.out.1.h1
  by_cases f7:k<p.funcs.length
  ·have k5:(k:Int)<(p.funcs.length:Int):=Zo;obtain⟨f,hf⟩:∃f,p.funcs[k]? =some f:=⟨_,Jd f7⟩
   have a1:N w wr:=by rw[HP.out.2.2.1];exact j.out.1.bel
   have j2:=HP.out.1.funcs.below vR a1;obtain⟨bb,bo,l0,n5,bv,k0,f2⟩:=j2.get hf;rw[Nk] at k0;obtain⟨xa,xc,rfl,_,_⟩:=f2.form;subst l0;have f6:=HP.out.2.1.fn.2 f (Ji hf);have k3:=a1.size;have l5:bb<wr.heap.size:=Zo;have i8:∀W,N wr W->G 44 #[.agg #[.slice xa f.length xc]] W (fun e w'=>∃(ft:FT) (a:Option Addr) (n c:Nat),ft.bv=.slice a n c/\e=.returned (.agg #[.slice a n c])/\ft.fn=f/\Rows w' W.heap.size ft.rows/\N W w'):=fun W hW=>mA (f2.below yT (hW.mono k3)) (Jn k3 hW.size) f6.1 f6.2
   have q0:=zA (i:=0) j.out.1.h3 rfl;have qf:D wr q3 0:=zE j.out.1.h3;have ql:=lt_of_block j.out.1.h3;have k4:=Ja (Jb i8 hf);clear i8 hf f6 j2 f2 a1;go_upto_region 8 with fail
   have d7:fl.length=k:=by
    have h1:=congrArg List.length j.out.2;rw[Nr,Oc] at h1;omega
   have e6:wr.ownsRow p1 39 1 (.slice ga k gc) k (fl.map (·.bv)):=by
    have h1:=j.out.1.rows.own (wY (.slice ga k gc) fl) (.head _);unfold wY at h1;simp only at h1;rw[d7] at h1;exact h1
   have HO:=Ja (Jb e6 d7);have d0:=j.out.1.sz;obtain⟨ij,c1,a5,a4,a3⟩:=info_parts Tryz.info_irfunc;clear e6 d7
   go_region_law (first|(refine yG (by rfl) (.tmp 36) (.tmp 43) _ (by rfl) p1 39 ij (.agg #[L]) 1 24 Tryz.underlying25 c1 a5 a4 a3 rfl Zo (.slice ga k gc) k (fl.map (·.bv)) (by rfl) (c2.out.2.2.alloc _) (F w5.heap.size 1 1) 1 [.slice h0 g8 g9] (by rfl) (yM.one (zI rfl) rfl) (by unfold maxLen;omega) Zo Zt ?_;intro aa9 g0 w9 d g h;have d8:=zL g (zB c2.out.2.1) (zC c2.out.2.2 c2.out.2.1 (.inr Zd));have m1:=zA (i:=0) d8 rfl;have l9:D w9 q3 0:=zE d8;have l7:=lt_of_block d8;have l:=Ja (Jb d (Jb g h));clear d g h d8)|(go_simp;refine(k4.out.1 _ (Below.refl _ _).drew).mono ?_;rintro e w5 ⟨ft,h0,g8,g9,j1,rfl,g6⟩;have d4:N wr w5:=(Below.refl _ _).drew.trans g6.2.2;have d3:=zH d4 j.out.1.h3 (lt_of_block j.out.1.h3);have e7:=p7 HO.out.1 d4 (Je _);have m2:=zA (i:=0) d3 rfl;have m0:D w5 q3 0:=zE d3;have l8:=lt_of_block d3;have l4:=d4.size;have c2:=Ja (Jb (Jb j1 (Jb g6 d4)) (Jb d3 e7));clear j1 g6 d4 d3 e7;dsimp only))
   all_goals go_wp2_with fail
   all_goals (
    refine⟨⟨k+1,fl++ [ft],aa9,g0,f7,by go_num,Ja ⟨?_,?_⟩⟩,by simp[intOf];omega⟩
    ·have k1:=(Below.refl w5.heap.size w5).alloc (Je _) (I #[.slice h0 g8 g9] 39);refine j.out.1.grow (r:=wY (.slice ga k gc) fl) (r':=wY (.slice aa9 (k+1) g0) (fl++ [ft])) (ns:=ft.rows) (rs:=zP t3.av t3.args::vK t3.dv t3.data::v8 t3.bv t3.banks::fl.flatMap FT.rows) (Uq _) (c2.out.1.2.2.trans (k1.mono c2.out.1.2.2.size)) (c2.out.1.2.1.2.1.below k1) l.out.2.1 ?_ (fun x e=>?_) ?_ rfl
     ·show w9.ownsRow p1 39 1 _ (fl++ [ft]).length ((fl++ [ft]).map (·.bv))
      rw[Jk,Ju,HO.out.2,Js]
      show w9.ownsRow p1 39 1 _ (k+1) (fl.map (·.bv)++ [ft.bv])
      rw[c2.out.1.1];exact l.out.1
     ·rcases l.out.2.2 with e2|e2
      ·exact .inl (e2.symm.trans e)
      ·right;have e3:=e2.symm.trans e;simp at e3;simp;omega
     ·classical
      unfold PT.rows;refine Jp.2 fun r=>?_
      simp only[Nb,Nf,Nx,Qa,List.flatMap_nil,Ua];omega
    ·rw[Js,j.out.2,Nh,k4.out.2]
     show _++ [ft.fn]=_
     rw[c2.out.1.2.1.1]
     rfl)
  ·obtain rfl:k=p.funcs.length:=by omega
   have k5:¬(p.funcs.length:Int)<(p.funcs.length:Int):=Zo;have q0:A wr q3 0 (.slice ga p.funcs.length gc):=zA (i:=0) j.out.1.h3 rfl;have q1:A wr q3 1 (.slice a0 p.args.length y):=(zA (i:=1) j.out.1.h3 rfl).trans (by rw[<-m.out.2.2.2.2.2.2.2.1];rfl);have q2:A wr q3 2 (U p.entry):=(zA (i:=2) j.out.1.h3 rfl).trans (by rw[<-m.out.2.2.2.2.2.1];rfl);have k6:A wr q3 3 (U p.handler):=(zA (i:=3) j.out.1.h3 rfl).trans (by rw[<-m.out.2.2.2.2.2.2.1];rfl);have q4:A wr q3 4 (.slice a8 p.data.length a6):=(zA (i:=4) j.out.1.h3 rfl).trans (by rw[<-m.out.2.2.2.2.2.2.2.2.1];rfl);have q5:A wr q3 5 (.slice b7 p.banks.length rc3):=(zA (i:=5) j.out.1.h3 rfl).trans (by rw[<-m.out.2.2.2.2.2.2.2.2.2];rfl);have ql:=lt_of_block j.out.1.h3;have v0:=zA (i:=0) j.out.1.h2 rfl;have v1:=zA (i:=1) j.out.1.h2 rfl;have v2:=zA (i:=2) j.out.1.h2 rfl;have v3:=zA (i:=3) j.out.1.h2 rfl;have v4:=zA (i:=4) j.out.1.h2 rfl;have v5:=zA (i:=5) j.out.1.h2 rfl;have vf:∀i,D wr r2 i:=fun i=>zE j.out.1.h2
   have vl:=lt_of_block j.out.1.h2;clear f7;go_wp2;have b0:=j.out.1.h2;have b1:=zD (i:=0) b0 (.slice ga p.funcs.length gc);have b2:=zD (i:=1) b1 (.slice a0 p.args.length y);have b3:=zD (i:=2) b2 (U p.entry);have b4:=zD (i:=3) b3 (U p.handler);have b5:=zD (i:=4) b4 (.slice a8 p.data.length a6);have b6:=zD (i:=5) b5 (.slice b7 p.banks.length rc3);have i1:=vz (i:=5) (u:=.slice b7 p.banks.length rc3) (vz (i:=4) (u:=.slice a8 p.data.length a6) (vz (i:=3) (u:=U p.handler) (vz (i:=2) (u:=U p.entry) (vz (i:=1) (u:=.slice a0 p.args.length y) (vz (i:=0) (u:=.slice ga p.funcs.length gc) j.out.1.rows b0) b1) b2) b3) b4) b5;have hg:=j.out.1.ges;have h8:Below p1 w (wr.setCell ⟨r2,0,none⟩ (.slice ga p.funcs.length gc)):=j.out.1.bel.setCell (by show p1<=r2;omega) _;have h7:Below p1 w ((wr.setCell ⟨r2,0,none⟩ (.slice ga p.funcs.length gc)).setCell ⟨r2,1,none⟩ (.slice a0 p.args.length y)):=h8.setCell (by show p1<=r2;omega) _;have h6:Below p1 w (((wr.setCell ⟨r2,0,none⟩ (.slice ga p.funcs.length gc)).setCell ⟨r2,1,none⟩ (.slice a0 p.args.length y)).setCell ⟨r2,2,none⟩ (U p.entry)):=h7.setCell (by show p1<=r2;omega) _;have h5:Below p1 w ((((wr.setCell ⟨r2,0,none⟩ (.slice ga p.funcs.length gc)).setCell ⟨r2,1,none⟩ (.slice a0 p.args.length y)).setCell ⟨r2,2,none⟩ (U p.entry)).setCell ⟨r2,3,none⟩ (U p.handler)):=h6.setCell (by show p1<=r2;omega) _;have h4:Below p1 w (((((wr.setCell ⟨r2,0,none⟩ (.slice ga p.funcs.length gc)).setCell ⟨r2,1,none⟩ (.slice a0 p.args.length y)).setCell ⟨r2,2,none⟩ (U p.entry)).setCell ⟨r2,3,none⟩ (U p.handler)).setCell ⟨r2,4,none⟩ (.slice a8 p.data.length a6)):=h5.setCell (by show p1<=r2;omega) _;have a1:Below p1 w ((((((wr.setCell ⟨r2,0,none⟩ (.slice ga p.funcs.length gc)).setCell ⟨r2,1,none⟩ (.slice a0 p.args.length y)).setCell ⟨r2,2,none⟩ (U p.entry)).setCell ⟨r2,3,none⟩ (U p.handler)).setCell ⟨r2,4,none⟩ (.slice a8 p.data.length a6)).setCell ⟨r2,5,none⟩ (.slice b7 p.banks.length rc3)):=h4.setCell (by show p1<=r2;omega) _;clear h8 h7 h6 h5 h4;have HE:=Ja (Jb i1 a1);generalize (((((wr.setCell ⟨r2,0,none⟩ (.slice ga p.funcs.length gc)).setCell ⟨r2,1,none⟩ (.slice a0 p.args.length y)).setCell ⟨r2,2,none⟩ (U p.entry)).setCell ⟨r2,3,none⟩ (U p.handler)).setCell ⟨r2,4,none⟩ (.slice a8 p.data.length a6)).setCell ⟨r2,5,none⟩ (.slice b7 p.banks.length rc3)=WF at *;have x0:=zA (i:=0) b6 rfl;have x1:=zA (i:=1) b6 rfl;have x2:=zA (i:=2) b6 rfl;have x3:=zA (i:=3) b6 rfl;have x4:=zA (i:=4) b6 rfl;have x5:=zA (i:=5) b6 rfl;have m3:=lt_of_block b6;clear b0 b1 b2 b3 b4 b5 b6 i1 a1 q0 q1 q2 k6 q4 q5 v0 v1 v2 v3 v4 v5 vf;refine bodyPost_ret (v:=.agg (P p ga gc a0 y a8 a6 b7 rc3)) ?_ rfl ?_
   ·rw[zM rfl];go_simp
   ·refine⟨{t3 with funcs:=fl,fv:=.slice ga p.funcs.length gc },?_,?_,?_,?_⟩
    ·unfold PT.V;simp only;rw[m.out.2.2.2.2.2.2.2.1,m.out.2.2.2.2.2.2.2.2.1,m.out.2.2.2.2.2.2.2.2.2]
    ·unfold PT.prog;simp only;rw[j.out.2,Nl,m.out.2.2.1,m.out.2.2.2.1,m.out.2.2.2.2.1,m.out.2.2.2.2.2.1,m.out.2.2.2.2.2.2.1]
    ·first|exact HE.out.1|(rw[HP.out.2.2.1];exact HE.out.1)
    ·first|exact HE.out.2|(rw[HP.out.2.2.1];exact HE.out.2)
structure SmB (N:Nat) (b:IBlk):Prop where
 par:b.params.length<=N
 ops:b.ops.length<=N
 tos:b.term.to.length<=N
 oarg:∀o∈b.ops,o.args.length<=N
 earg:∀e∈b.term.to,e.args.length<=N
structure SmP (N:Nat) (p:IProg):Prop where
 fn:p.funcs.length<=N
 fs:∀f∈p.funcs,f.length<=N/\∀b∈f,SmB N b
 ar:p.args.length<=N
 da:p.data.length<=N
 ba:p.banks.length<=N
theorem SmB.mono{N:Nat}(c:N<=M){b:IBlk}(h:SmB N b):SmB M b:=⟨by have:=h.par;omega,by have:=h.ops;omega,by have:=h.tos;omega,fun o ho=>by have:=h.oarg o ho;omega,fun o ho=>by have:=h.earg o ho;omega⟩
theorem SmP.mono{N:Nat}(c:N<=M){p:IProg}(h:SmP N p):SmP M p:=
 ⟨by have:=h.fn;omega,fun f hf=>⟨by have:=(h.fs f hf).1;omega,fun b hb=>((h.fs f hf).2 b hb).mono c⟩,by have:=h.ar;omega,by have:=h.da;omega,by have:=h.ba;omega⟩
theorem SmP.small {N:Nat}{p:IProg}(h:SmP N p)(c:N<=2000000):SmallP p:=by
 have h:=h.mono c;exact⟨⟨h.fn,fun f hf=>⟨⟨(h.fs f hf).1,fun b hb=>⟨((h.fs f hf).2 b hb).par,((h.fs f hf).2 b hb).ops,((h.fs f hf).2 b hb).tos⟩⟩,fun b hb=>⟨((h.fs f hf).2 b hb).oarg,((h.fs f hf).2 b hb).earg⟩⟩⟩,h.ar,h.da,h.ba⟩
theorem SmP.sized {N:Nat}{p:IProg}(h:SmP N p)(c:N<=65536):mW p:=fun f hf=>
 ⟨(((h.mono (show N<=2000000 by omega)).small (Je _)).fn.2 f hf).1,fun b hb=>by have:=((h.fs f hf).2 b hb).par;omega⟩
theorem uJ{V:PV}{p:IProg}(hp:ProgIn w w.heap.size V p)(hs:SmallP p):
 G 18 #[yH V p] w (fun e w'=>∃(t:PT) (fa:Option Addr) (fc:Nat) (aa:Option Addr) (ac:Nat) (da:Option Addr) (dc:Nat) (ba:Option Addr) (bc:Nat),e=.returned (.agg (P p fa fc aa ac da dc ba bc))/\
  (t.fv=.slice fa p.funcs.length fc/\t.av=.slice aa p.args.length ac/\t.dv=.slice da p.data.length dc/\t.bv=.slice ba p.banks.length bc)/\t.prog=p/\Rows w' w.heap.size t.rows/\N w w'):=by
 refine(own_any hp hs).mono ?_;rintro e w' ⟨t,rfl,ht,hr,hb⟩;have e1:t.funcs.length=p.funcs.length:=by rw[<-ht];unfold PT.prog;simp
 have e2:t.args.length=p.args.length:=by rw[<-ht];rfl
 have e3:t.data.length=p.data.length:=by rw[<-ht];rfl
 have e4:t.banks.length=p.banks.length:=by rw[<-ht];rfl
 obtain⟨fa,fc,h1⟩:=zG (hr.own (wY t.fv t.funcs) (.head _));obtain⟨aa,ac,h2⟩:=zG (hr.own (zP t.av t.args) (.tail _ (.head _)));obtain⟨da,dc,h3⟩:=zG (hr.own (vK t.dv t.data) (.tail _ (.tail _ (.head _))));obtain⟨ba,bc,i⟩:=zG (hr.own (v8 t.bv t.banks) (.tail _ (.tail _ (.tail _ (.head _)))));have h:t.fv=.slice fa p.funcs.length fc:=by rw[<-e1];exact h1
 have g:t.av=.slice aa p.args.length ac:=by rw[<-e2];exact h2
 have d:t.dv=.slice da p.data.length dc:=by rw[<-e3];exact h3
 have c:t.bv=.slice ba p.banks.length bc:=by rw[<-e4];exact i
 refine⟨t,fa,fc,aa,ac,da,dc,ba,bc,?_,⟨h,g,d,c⟩,ht,hr,hb⟩;unfold yH PT.V;simp only;rw[h,g,d,c]
theorem aef{α β:Type}(f:α->List β){l:List α}{b:α}(hk:l[k]? =some b):(l.flatMap f).Perm (f b++(l.eraseIdx k).flatMap f):=by
 obtain⟨c,hb⟩:=Jh.1 hk
 have e1:l=l.take k++b::l.drop (k+1):=by
  rw[<-hb,Ue,Qi]
 rw[List.eraseIdx_eq_take_drop_succ]
 conv=>lhs;rw[e1]
 classical
 refine Jp.2 fun y=>?_
 simp only[Nx,Qa,Nb];omega
structure RwMid (w:World) (p1 o5:Nat) (pc:List Value) (BX:List (Nat×List Value×TypeId)) (RS:List Row) (wx:World):Prop where
 hr:wx.heap[p1+1]? =some (.cells #[.slice none 0 0,.slice none 0 0,.int .i64 0,.int .i64 0,.slice none 0 0,.slice none 0 0] 29 (0,0))
 ho:wx.heap[o5]? =some (.cells pc.toArray 29 (0,0))
 bx:∀x∈BX,wx.heap[x.1]? =some (.cells x.2.1.toArray x.2.2 (0,0))/\o5<x.1/\x.1 ∉ RS.filterMap Row.blk
 bel:Below p1 w wx
 base:p1=w.heap.size
 rows:Rows wx (p1+1+1) RS
 far:o5 ∉ RS.filterMap Row.blk
 nd:(BX.map (·.1)).Nodup
 ge:p1+1<o5
section
variable {w:World} {p1 o5:Nat} {pc:List Value} {BX:List (Nat×List Value×TypeId)} {RS:List Row} {wx:World} (h:RwMid w p1 o5 pc BX RS wx)
include h
theorem RwMid.lt:p1+1<o5/\o5<wx.heap.size:=⟨h.ge,lt_of_block h.ho⟩
theorem RwMid.perm {RS':List Row}(hp:RS.Perm RS'):RwMid w p1 o5 pc BX RS' wx:=
 ⟨h.hr,h.ho,fun x hx=>⟨(h.bx x hx).1,(h.bx x hx).2.1,fun e=>(h.bx x hx).2.2 ((hp.filterMap Row.blk).mem_iff.2 e)⟩,h.bel,h.base,h.rows.perm hp,fun e=>h.far ((hp.filterMap Row.blk).mem_iff.2 e),h.nd,h.ge⟩
theorem RwMid.below(hb:N wx w'):RwMid w p1 o5 pc BX RS w':=
 ⟨zH hb h.hr (lt_of_block h.hr),zH hb h.ho (lt_of_block h.ho),fun x hx=>⟨zH hb (h.bx x hx).1 (lt_of_block (h.bx x hx).1),(h.bx x hx).2⟩,h.bel.trans (hb.mono (by have:=h.lt;omega)),h.base,h.rows.below hb,h.far,h.nd,h.ge⟩
theorem RwMid.box (cs:List Value)(t:TypeId):RwMid w p1 o5 pc ((wx.heap.size,cs,t)::BX) RS (wx.alloc (I cs.toArray t)):=by
 have h1:=h.below ((Below.refl _ _).alloc (Je _) (I cs.toArray t));refine⟨h1.hr,h1.ho,fun x c=>?_,h1.bel,h1.base,h1.rows,h1.far,?_,h1.ge⟩
 ·rcases Jq.1 c with rfl|c
  ·exact⟨zI rfl,h.lt.2,fun e=>by have:=(h.rows.lt e).2;simp at this⟩
  ·exact h1.bx x c
 ·rw[Ql];refine Qt.2 ⟨fun e=>?_,h.nd⟩;obtain⟨x,c,e2⟩:=Nu.1 e;have:=lt_of_block (h.bx x c).1;have e3:x.1=wx.heap.size:=e2;omega
theorem RwMid.few {B1 B2:List (Nat×List Value×TypeId)}(e:BX=B1++B2):RwMid w p1 o5 pc B2 RS wx:=by
 subst e;exact⟨h.hr,h.ho,fun x hx=>h.bx x (Qf _ hx),h.bel,h.base,h.rows,h.far,by have:=h.nd;rw[Js] at this;exact(Qq.1 this).2.1,h.ge⟩
theorem RwMid.put{r:Row}(hp:RS.Perm (r::rs))(hg:r.blk=some g)(hv:r'.v=r.v)(j:(wx.setCell ⟨g,i,none⟩ u).ownsRow (p1+1+1) r'.e r'.sz r'.v r'.n r'.cs):RwMid w p1 o5 pc BX (r'::rs) (wx.setCell ⟨g,i,none⟩ u):=by
 have h1:=h.perm hp;have c:g∈(r::rs).filterMap Row.blk:=Nj.2 ⟨r,.head _,hg⟩;have l:=(h1.rows.lt c).1
 have d:(r'::rs).filterMap Row.blk=(r::rs).filterMap Row.blk:=by
  rw[List.filterMap_cons,List.filterMap_cons];have:r'.blk=r.blk:=by unfold Row.blk;rw[hv]
  rw[this]
 have hl:=h.lt;refine⟨zR h.hr (by show p1+1≠g;omega),zR h.ho (fun e=>h1.far (by have e':o5=g:=e;rw[e'];exact c)),fun x hx=>?_,h.bel.setCell (by show p1<=g;omega) _,h.base,?_,by rw[d];exact h1.far,h.nd,h.ge⟩
 ·obtain⟨k1,k2,k3⟩:=h1.bx x hx;exact⟨zR k1 (fun e=>k3 (by have e':x.1=g:=e;rw[e'];exact c)),k2,by rw[d];exact k3⟩
 ·exact h1.rows.put hg (fun k hk=>Below.heap_setCell _ _ _ _ hk) j hv
theorem RwMid.grow{w1 w9:World}{r:Row}(hp:RS.Perm (r::rs))(c:N wx w1)(hg:w1.grownBy w9 r.blk)
 (m:w9.ownsRow (p1+1+1) r'.e r'.sz r'.v r'.n r'.cs) (l:∀k,r'.blk=some k->r.blk=some k∨wx.heap.size<=k):RwMid w p1 o5 pc BX (r'::rs) w9:=by
 have hl:=h.lt;have h1:=h.perm hp;have g:∀k,r.blk=some k->k∈(r::rs).filterMap Row.blk:=fun k e=>Nj.2 ⟨r,.head _,e⟩
 have keep:∀ {k:Nat} {o:Obj},wx.heap[k]? =some o->(k<p1+1+1∨k ∉ (r::rs).filterMap Row.blk)->w9.heap[k]? =some o:=fun {k o} hk i=>((hg.block k (Jy (lt_of_block hk) c.size) (fun e=>by
  have t:=g k e.symm;rcases i with i|i
  ·have:=(h1.rows.lt t).1;omega
  ·exact i t)).trans (c.block k (lt_of_block hk))).trans hk
 have j:∀b,b<wx.heap.size->b ∉ (r::rs).filterMap Row.blk->b ∉ (r'::rs).filterMap Row.blk:=fun b hb hn he=>by
  obtain⟨x,d,e⟩:=Nj.1 he;rcases Jq.1 d with rfl|d
  ·rcases l b e with e2|e2
   ·exact hn (g b e2)
   ·omega
  ·exact hn (Nj.2 ⟨x,.tail _ d,e⟩)
 refine⟨keep h.hr (.inl Zo),keep h.ho (.inr h1.far),fun x d=>?_,?_,h.base,h1.rows.grow c hg m l,j _ Zo h1.far,h.nd,h.ge⟩
 ·obtain⟨k1,k2,k3⟩:=h1.bx x d;exact⟨keep k1 (.inr k3),k2,j _ (lt_of_block k1) k3⟩
 ·refine h.bel.trans ⟨hg.os.trans c.os,hg.tape.trans c.tape,hg.output.trans c.output,Jn c.size hg.size,fun k hk=>?_⟩;exact(hg.block k (by have:=c.size;omega) (fun e=>by have:=(h1.rows.lt (g k e.symm)).1;omega)).trans (c.block k Zo)
theorem RwMid.nil {r:Row}(hr:wx.ownsRow (p1+1+1) r.e r.sz r.v r.n r.cs)(hk:r.blk=none):RwMid w p1 o5 pc BX (r::RS) wx:=by
 refine⟨h.hr,h.ho,fun x hx=>⟨(h.bx x hx).1,(h.bx x hx).2.1,?_⟩,h.bel,h.base,h.rows.cons hr (fun g e=>by rw[hk] at e;cases e),?_,h.nd,h.ge⟩
 ·rw[List.filterMap_cons,hk];exact(h.bx x hx).2.2
 ·rw[List.filterMap_cons,hk];exact h.far
theorem RwMid.getI{v:Value}{xs:List Int}(hm:zP v xs∈RS){x:Int}(hk:xs[k]? =some x):∃g c,v=F g xs.length c/\A wx g k (U x)/\D wx g k/\g<wx.heap.size/\v.ownBlock=some g:=by
 have h1:=h.rows.own _ hm;unfold zP at h1;have h2:wx.ownsRow (p1+1+1) 3 1 v xs.length (xs.flatMap fun x=> [zN x]):=by rw[<-Qh];exact h1
 have j:=(Jh.1 hk).1;obtain⟨g,c,e,hg,hb⟩:=h2.form Zo;have d:v.ownBlock=some g:=by rw[e];rfl
 have h3:=z9 (f:=fun x:Int=> [zN x]) (n:=1) (fun _=>rfl) h2 d hk 0 _ rfl;have i:=zq (n:=1) Zd (f:=fun x:Int=> [zN x]) (fun _=>rfl) h2 d hk 0 Zd;rw[Nk] at h3 i;exact⟨g,c,e,h3,i.2,hb,d⟩
theorem RwMid.getS{α:Type}{f:α->List Value}{n:Nat}(i:0<n)(hf:∀a,(f a).length=n){r:Row}{l:List α}(hm:r∈RS)(hr:r.sz=n/\r.n=l.length/\r.cs=l.flatMap f){b:α}(hk:l[k]? =some b):∃g c,r.v=F g l.length c/\(∀j u,(f b)[j]? =some u->A wx g (k*n+j) u)/\(∀j,j<n->D wx g (k*n+j))/\g<wx.heap.size/\r.v.ownBlock=some g:=by
 have h1:=h.rows.own _ hm;rw[hr.1,hr.2.1,hr.2.2] at h1;have m:=(Jh.1 hk).1;obtain⟨g,c,e,hg,hb⟩:=h1.form Zo;have d:r.v.ownBlock=some g:=by rw[e];rfl
 exact⟨g,c,e,z9 hf h1 d hk,fun j hj=>(zq i hf h1 d hk j hj).2,hb,d⟩
theorem RwMid.readS{α:Type}{f:α->List Value}{n:Nat}(c:0<n)(hf:∀a,(f a).length=n){r:Row}{l:List α}(hm:r∈RS)(hr:r.sz=n/\r.n=l.length/\r.cs=l.flatMap f)(hg:r.v.ownBlock=some g){b:α}(hk:l[k]? =some b):(∀j u,(f b)[j]? =some u->A wx g (k*n+j) u)/\(∀j,j<n->D wx g (k*n+j))/\g<wx.heap.size:=by
 have h1:=h.rows.own _ hm;rw[hr.1,hr.2.1,hr.2.2] at h1;exact⟨z9 hf h1 hg hk,fun j hj=>(zq c hf h1 hg hk j hj).2,(h1.lt g hg).2⟩
theorem RwMid.formI {v:Value}{xs:List Int}(hm:zP v xs∈RS):∃a c,v=.slice a xs.length c:=zG (h.rows.own _ hm)
theorem RwMid.putS{α:Type}{f:α->List Value}{n:Nat}(hf:∀a,(f a).length=n){r:Row}{l:List α}{a b:α}(hp:RS.Perm (r::rs))(hr:r.sz=n/\r.n=l.length/\r.cs=l.flatMap f)(hg:r.v.ownBlock=some g)(hk:l[k]? =some b)(c:j<n)(d:(f b).set j u=f a):
 RwMid w p1 o5 pc BX (⟨r.v,r.e,n,(l.set k a).length,(l.set k a).flatMap f⟩::rs) (wx.setCell ⟨g,k*n+j,none⟩ u):=by
 refine h.put hp hg rfl ?_;have h1:=(h.perm hp).rows.own _ (.head _);rw[hr.1,hr.2.1,hr.2.2] at h1;have h3:=yp hf h1 hg hk c d
 show(wx.setCell ⟨g,k*n+j,none⟩ u).ownsRow (p1+1+1) r.e n r.v (l.set k a).length ((l.set k a).flatMap f)
 rw[Nd];exact h3
end
theorem RwMid.start{w2:World}{t:PT}{o:Obj}(d:w.heap.size=p1)(g:w2.heap.size=o5)
 (hr:Rows w2 ((w.alloc o).alloc (I #[L,L,U 0,U 0,L,L] 29)).heap.size t.rows)
 (hb:N ((w.alloc o).alloc (I #[L,L,U 0,U 0,L,L] 29)) w2):
 RwMid w p1 o5 (zW t) [] t.rows (w2.alloc (I (zW t).toArray 29)):=by
 subst d g;have hs:((w.alloc o).alloc (I #[L,L,U 0,U 0,L,L] 29)).heap.size=w.heap.size+1+1:=by simp
 have h1:=zI (W:=w.alloc o) (o:=I #[L,L,U 0,U 0,L,L] 29) (B:=w.heap.size+1) Zs;have h3:N w ((w.alloc o).alloc (I #[L,L,U 0,U 0,L,L] 29)):=((Below.refl _ _).alloc (Je _) _).alloc Zs _;have c:=hb.size;rw[hs] at hr hb c;have h:∀k,k∈t.rows.filterMap Row.blk->k<w2.heap.size:=fun k hk=>(hr.lt hk).2
 refine⟨zB (zH hb h1 Zo),zI rfl,fun x hx=>(List.not_mem_nil hx).elim,?_,rfl,?_,fun e=>by have:=h _ e;omega,List.nodup_nil,by omega⟩
 ·exact(h3.trans (hb.mono Zo)).alloc Zo _
 ·exact hr.below ((Below.refl _ _).alloc (Je _) _)
theorem RwMid.ret{pc:List Value}{BX:List (Nat×List Value×TypeId)}{t:PT}{RS:List Row}(h:RwMid w p1 o5 pc BX RS wx)(i:∃RX,RS.Perm (t.rows++RX))(j:pc=zW t){v0 v1 v2 v3 v4 v5:Value}(g:(zW t).toArray=#[v0,v1,v2,v3,v4,v5]){p:IProg}(hp:t.prog=p):
 ajB w p (.returned (.agg #[v0,v1,v2,v3,v4,v5])) ((((((wx.setCell ⟨p1+1,0,none⟩ v0).setCell ⟨p1+1,1,none⟩ v1).setCell ⟨p1+1,2,none⟩ v2).setCell ⟨p1+1,3,none⟩ v3).setCell ⟨p1+1,4,none⟩ v4).setCell ⟨p1+1,5,none⟩ v5):=by
 have e:zW t=[v0,v1,v2,v3,v4,v5]:=congrArg Array.toList g;unfold zW at e;simp only[List.cons.injEq,and_true] at e;obtain⟨rfl,rfl,rfl,rfl,rfl,rfl⟩:=e;obtain⟨RX,d⟩:=i;refine⟨t,rfl,hp,?_,?_⟩
 ·have hb:=h.base;refine((h.rows.perm d).left.base (show w.heap.size<=p1+1+1 by omega)).keep fun k hk=>?_
  have c:k≠p1+1:=fun e=>by have:=((h.rows.perm d).left.lt hk).1;omega
  exact(Below.heap_setCell _ _ _ _ c).trans ((Below.heap_setCell _ _ _ _ c).trans ((Below.heap_setCell _ _ _ _ c).trans ((Below.heap_setCell _ _ _ _ c).trans ((Below.heap_setCell _ _ _ _ c).trans (Below.heap_setCell _ _ _ _ c)))))
 ·have hb:=h.bel;rw[h.base] at hb ⊢;exact(((((hb.setCell (by show w.heap.size<=w.heap.size+1;omega) _).setCell (by show w.heap.size<=w.heap.size+1;omega) _).setCell (by show w.heap.size<=w.heap.size+1;omega) _).setCell (by show w.heap.size<=w.heap.size+1;omega) _).setCell (by show w.heap.size<=w.heap.size+1;omega) _).setCell (by show w.heap.size<=w.heap.size+1;omega) _
def RgsRet (w:World)(l:List Rg)(e:Ending)(w':World):Prop:=∃b,e=.returned (F b l.length l.length)/\O w' b (l.flatMap ro).toArray 45/\w.heap.size<=b/\N w w'
theorem use_of{p:IProg}(hv:vC p=0){n:Nat}(c:p.funcs[n]? =some bl):∀b∈bl,aq (aaG bl).toNat b:=
 (dw c ((rz hv).2 n (Jh.1 c).1)).2
theorem ajq(h:ruG c≠none):(c=3∨c=4∨c=19∨c=23)∨5<=c/\c<=17:=by
 by_cases d:(c=3∨c=4∨c=19∨c=23)∨5<=c/\c<=17
 ·exact d
 ·exfalso;apply h;simp only[ruG,putR]
  iterate 17 rw[if_neg Zo]
theorem blkW_of{p:IProg}(h:FnS p bl)(y:∀b∈bl,aq (aaG bl).toNat b)(hi:i<bl.length):BlkW (aaG bl).toNat p bl (xz bl i):=by
 obtain⟨b,hb⟩:∃b,bl[i]? =some b:=⟨_,Jd hi⟩
 have w:=z6 hb;have t:=y b (Ji hb);refine⟨fun o ho h0=>⟨(h.sol i hi).1 o ho,?_,?_⟩,fun e he=>?_⟩
 ·intro h2;have:=(ahl (h.st.opok i hi o ho)).2.1 h2;omega
 ·intro h1 h2 hr;have d:=h.st.opok i hi o ho;have k:=((h.rng i hi).2 o ho).1;have u:=ajq hr
  have ha:(zi o.code).a=true:=by
   rcases u with(e|e|e|e)|e
   ·rw[e];rfl
   ·rw[e];rfl
   ·rw[e];rfl
   ·rw[e];rfl
   ·unfold zi;rw[if_neg Zo,if_neg Zo,if_pos e]
  have h3:=k.a ha;refine⟨by omega,?_⟩
  by_cases l:(zi o.code).b=true
  ·have:=k.b l;omega
  ·unfold opF at d;rw[Jm] at d;have m:=d.2;rw[if_neg Zo,if_neg h2] at m;simp only[Jm,Bool.or_eq_true,decide_eq_true_eq] at m
   have j:o.b=0:=by
    rcases m.1.1.1.2 with j|j
    ·exact absurd j l
    ·exact j
   omega
 ·have c:=h.st.trm i hi;unfold mb at c;rw[Jm,Oe] at c;have g:=c.1 e he;unfold uM at g;simp only[Jm,decide_eq_true_eq] at g;refine⟨by omega,g.2,fun x hx=>?_,fun x hx=>?_⟩
  ·rw[w] at he;have:=t.2.2 x (by unfold mE;rw[Jl];exact .inr (List.mem_flatten.2 ⟨_,Nu.2 ⟨e,he,rfl⟩,hx⟩));omega
  ·have:=(h.rng e.block.toNat Zo).1 x (by rw[show((e.block.toNat:Nat):Int)=e.block by omega];exact hx);omega
theorem ru_cells (n:Nat):madeCells (#[Y 0,Y 0]:Array Value) (n*2)=((List.replicate n (⟨0,0⟩:Rg)).flatMap ro).toArray:=by
 apply Array.ext
 ·simp[madeCells,ro,List.length_flatMap]
 ·intro i h1 h2;have hi:i<n*2:=by simpa[madeCells] using h1
  have h3:((List.replicate n (⟨0,0⟩:Rg)).flatMap ro)=List.replicate (n*2) (Y 0):=by
   clear h1 h2 hi
   induction n with
   |zero=>rfl
   |succ n ih=>rw[Qz,Qa,ih,show(n+1)*2=n*2+1+1 by omega];rfl
  simp only[h3,List.getElem_toArray,List.getElem_replicate];simp only[madeCells,Array.getElem_map,Array.getElem_range];have c:i%2=0∨i%2=1:=Zo;rcases c with c|c
  ·show((#[Y 0,Y 0]:Array Value)[i%2]!)=_;rw[c];rfl
  ·show((#[Y 0,Y 0]:Array Value)[i%2]!)=_;rw[c];rfl
theorem afI{b:Nat}{o:Option Obj}(h:w.heap[b]? =o):w.drew.heap[b]? =o:=h
theorem kn_cells (n:Nat):madeCells (#[.bool false]:Array Value) n=((List.replicate n false).map Value.bool).toArray:=by rw[yA];simp
def aiV (w wx:World)(K:SK)(p:IProg)(bl:List IBlk):Prop:=SlvAt wx K p bl 0 ⟨List.replicate K.n ⟨0,0⟩,List.replicate K.n false⟩/\N w wx/\w.heap.size<=K.rb/\w.heap.size<=K.kb/\w.heap.size<=K.sb
theorem slvNew{B n sb rb kb rm:Nat}{V:PV}{fv:Value}{p:IProg}(hp:ProgIn wx B V p)(h:wX wx B fv bl)(hB:B<=w.heap.size)(i:n<=1000000)(g:N w wx)
 (hm:aeE wx rm 17 ruG) (hs:O wx sb #[V.fv,V.av,U p.entry,U p.handler,V.dv,V.bv,fv,.map (some rm),F rb n n,F kb n n,U 0] 99)
 (hr:O wx rb ((List.replicate n (⟨0,0⟩:Rg)).flatMap ro).toArray 45) (hk:O wx kb ((List.replicate n false).map Value.bool).toArray 4)
 (c:w.heap.size<=sb/\w.heap.size<=rb/\w.heap.size<=kb/\w.heap.size<=rm) (d:sb≠rb/\sb≠kb/\sb≠rm/\rb≠kb/\rb≠rm/\kb≠rm):aiV w wx ⟨sb,rb,kb,rm,n,B,V,fv⟩ p bl:=
 ⟨⟨hp,h,hm,hs,hr,hk,⟨by simp,by simp,fun a ha=>by rw[(List.mem_replicate.1 ha).2];exact⟨Je _,Jt _⟩⟩,i,⟨Jn hB c.1,Jn hB c.2.1,Jn hB c.2.2.1,Jn hB c.2.2.2⟩,d⟩,g,c.2.1,c.2.2.1,c.1⟩
theorem slvNew'{B n sb rb kb rm:Nat}{V:PV}{fv:Value}{p:IProg}(hs:O wx sb #[V.fv,V.av,U p.entry,U p.handler,V.dv,V.bv,fv,.map (some rm),F rb n n,F kb n n,U 0] 99)
 (hB:B<=w.heap.size) (i:n<=1000000) (hp:ProgIn wx B V p) (h:wX wx B fv bl) (g:N w wx) (hm:aeE wx rm 17 ruG)
 (hr:O wx rb ((List.replicate n (⟨0,0⟩:Rg)).flatMap ro).toArray 45) (hk:O wx kb ((List.replicate n false).map Value.bool).toArray 4)
 (d:w.heap.size<=sb/\w.heap.size<=rb/\w.heap.size<=kb/\w.heap.size<=rm) (c:sb≠rb/\sb≠kb/\sb≠rm/\rb≠kb/\rb≠rm/\kb≠rm):∃K:SK,Value.pointer (some ⟨sb,0,none⟩)=Q K.sb/\K.n=n/\Hid (aiV w wx K p bl):=
 ⟨_,rfl,rfl,Ja (slvNew hp h hB i g hm hs hr hk d c)⟩
theorem Tryz.info_range:(Tryz.prog.info? 45).map (fun i=>(i.zero,i.size,i.bytes))=some (some (.agg #[Y 0,Y 0]),2,4):=by kernel_rfl
theorem make_rgs (n:Nat)(d:n<=1000000)(w:World):(Instr.makeSlice 34 (U n) (U n)).run Tryz.prog w=.ok (F w.heap.size n n) (w.alloc (I ((List.replicate n (⟨0,0⟩:Rg)).flatMap ro).toArray 45)):=by
 obtain⟨i,hi,c,h1,h2⟩:=info_parts Tryz.info_range;have:=run_make (P:=Tryz.prog) w 34 45 i (.agg #[Y 0,Y 0]) Tryz.underlying34 hi c .i64 .i64 n n Zo (Og _) (by rw[h2];omega) Zo;rw[this,h1,Ni,<-ru_cells];rfl
def agM (w:World)(ob:Nat)(xs:List Nat):Prop:=∃cur,O w ob cur 3/\∀(k x:Nat),xs[k]? =some x->cur[k]? =some (U x)
theorem own_ord{base n:Nat}{v:Value}(h:w.ownsRow base 3 1 v n (xs.map zj))(m:n=xs.length)(o:0<xs.length):∃ob oc,v=F ob n oc/\n<=oc/\oc<=9223372036854775807/\base<=ob/\agM w ob xs:=by
 rcases h.2 with⟨_,e⟩|⟨g,d,cur,rfl,hg,i,h1,h2,h3,j⟩
 ·omega
 ·refine⟨g,d,rfl,h1,by unfold maxLen at h2;omega,hg,cur,i,fun k x hk=>?_⟩;have l:=(Jh.1 hk).1;have c:(cur.toList.take (n*1))[k]? =some (zj x):=by rw[j,Jr,hk];rfl
  rw[List.getElem?_take_of_lt Zo] at c
  simpa[zj] using c
theorem agM.to(h:agM w ob xs)(ht:SlvTo w w' K)(c:ob≠K.rb/\ob≠K.kb/\ob≠K.sb):agM w' ob xs:=by
 obtain⟨cur,h1,h2⟩:=h;exact⟨cur,ht.blk h1 (lt_of_block h1) c,h2⟩
theorem agM.lt(h:agM w ob xs):ob<w.heap.size:=by obtain⟨cur,h1,_⟩:=h;exact lt_of_block h1
theorem agM.cell {w:World}{ob:Nat}{xs:List Nat}(h:agM w ob xs){k x:Nat}(hk:xs[k]? =some x):A w ob k (U x):=by
 obtain⟨cur,h1,h2⟩:=h;exact zA h1 (h2 k x hk)
theorem SlvAt.round{p:IProg}{c:List IBlk}{s:Slv}(h:SlvAt w K p c k s)(d:w.setCell ⟨K.sb,10,none⟩ (U (((k+1:Nat)):Int))=W):SlvAt W K p c (k+1) s/\SlvTo w W K:=by
 have j:=h.ne;have hb:Below K.B w W:=by rw[<-d];exact(Below.refl K.B w).setCell h.lt.1 _
 have ho:∀i,i≠K.sb->W.heap[i]? =w.heap[i]?:=fun i h1=>by rw[<-d,Below.heap_setCell _ _ _ _ h1]
 have g:=zD (i:=10) h.cell (U (((k+1:Nat)):Int));rw[d] at g;exact⟨⟨h.prog.below hb,h.blks.below yT hb,h.map.same (ho _ Zo),g,(ho _ Zo).trans h.row,(ho _ Zo).trans h.kn,h.oks,h.n64,h.lt,h.ne⟩,⟨hb.os,hb.tape,hb.output,hb.size,fun i _ _ _ h3=>ho i h3⟩⟩
theorem SlvAt.putR{X:World}{p:IProg}{g:List IBlk}{s:Slv}(h:SlvAt X K p g k s){v:Nat}(hv:v<K.n){a:Rg}(o:a.ok)
 (l:(X.setCell ⟨K.rb,v*2,none⟩ (Y (a.lo:Int))).setCell ⟨K.rb,v*2+1,none⟩ (Y (a.hi:Int))=W):
 SlvAt W K p g k ⟨s.r.set v a,s.kn⟩/\SlvTo X W K:=by
 have m:=h.ne;have c:=h.lt;have d:=zD (i:=v*2+1) (zD (i:=v*2) h.row (Y (a.lo:Int))) (Y (a.hi:Int));rw[l] at d
 have hb:Below K.B X W:=by
  rw[<-l];exact((Below.refl K.B X).setCell c.2.1 _).setCell c.2.1 _
 have ho:∀i,i≠K.rb->W.heap[i]? =X.heap[i]?:=fun i h1=>by
  rw[<-l,Below.heap_setCell _ _ _ _ h1,Below.heap_setCell _ _ _ _ h1]
 refine⟨⟨h.prog.below hb,h.blks.below yT hb,h.map.same (ho _ Zo),(ho _ Zo).trans h.cell,?_,(ho _ Zo).trans h.kn,⟨by show(s.r.set _ _).length=_;rw[Nd,h.oks.rl],h.oks.kl,fun x j=>?_⟩,h.n64,c,m⟩,⟨hb.os,hb.tape,hb.output,hb.size,fun i _ h1 _ _=>ho i h1⟩⟩
 ·have:=ahM s.r v a (by rw[h.oks.rl];exact hv);rw[<-this];exact d
 ·rcases Qe j with j|rfl
  ·exact h.oks.ok x j
  ·exact o
def aeP (t:Slv)(m:Nat):Slv:=⟨(afa t).take m++t.r.drop m,t.kn⟩
theorem afj{n:Nat}(h:OkS n t):(afa t).length=n:=by unfold afa;rw[Nr,List.length_zip,h.rl,h.kl,Nat.min_self]
theorem aiq{n:Nat}(h:OkS n t):aeP t n=⟨afa t,t.kn⟩:=by
 unfold aeP;rw[Oy (by rw[afj h];exact Je _),List.drop_of_length_le (by rw[h.rl];exact Je _),Ua]
theorem ahb{n:Nat}(h:OkS n t)(hm:m<n):(afa t)[m]? =some (if t.knw (m:Int)=true then t.get (m:Int) else vu):=by
 have h1:m<t.r.length:=by rw[h.rl];exact hm
 have h2:m<t.kn.length:=by rw[h.kl];exact hm
 unfold afa Slv.knw Slv.get;rw[Jr,Jd (by rw[List.length_zip];omega)];simp[Jj,Jd h1,Jd h2]
theorem aie (t:Slv)(m:Nat)(v:Int):(aeP t m).knw v=t.knw v:=rfl
theorem aih{n:Nat}(h:OkS n t)(hm:m<n)(hk:t.knw (m:Int)=true):aeP t (m+1)=aeP t m:=by
 have h1:m<t.r.length:=by rw[h.rl];exact hm
 have hg:=ahb h hm;rw[if_pos hk] at hg;have h3:t.get (m:Int)=t.r[m]:=by unfold Slv.get;simp[Jj,Jd h1]
 unfold aeP;rw[Nh,hg,Qn h1,h3];simp
theorem ajl{n:Nat}(h:OkS n t)(hm:m<n)(hk:t.knw (m:Int)=false):aeP t (m+1)=⟨(aeP t m).r.set m vu,(aeP t m).kn⟩:=by
 have h1:m<t.r.length:=by rw[h.rl];exact hm
 have hg:=ahb h hm;rw[hk,if_neg Zd] at hg;have hl:((afa t).take m).length=m:=by rw[Oc,afj h];omega
 unfold aeP;simp only;rw[Nh,hg,Uj _ _ Zo,hl,Qy,Qn h1,Jf];simp
theorem af4{B:Nat}{V:PV}{p:IProg}(hp:ProgIn w B V p)(hB:B<=w.heap.size)(hs:∀f∈p.funcs,vZ f)(hv:vC p=0){f:Nat}(hf:p.funcs[f]? =some bl)(h0:bl≠ []):
 G 15 #[yH V p,U f] w (RgsRet w (vp p bl)):=by
 have hF:=agq hv hs hp.p64 hf h0;have hU:=use_of hv hf
 have i8:∀W,Below w.heap.size w W->G 35 #[yH V p] W (m9 W 0):=fun W hb=>by
  have:=tu (hp.below (hb.mono hB)) (Jn hB hb.size) hs;rw[hv] at this;exact this
 obtain⟨Vf,Va,Vd,Vb⟩:=V;obtain⟨f1,f2,e1,q4,q3⟩:=hp.funcs.form;have n0:Vf=.slice f1 p.funcs.length f2:=e1;subst n0;obtain⟨gb,go,rfl,i0,bv,g0,e9⟩:=hp.funcs.get hf;obtain⟨ka,kc,rfl,p5,p4⟩:=e9.form;rw[Nk] at g0;have q0:=(Jh.1 hf).1;have k5:=hF.pos;have g5:=hs bl (Ji hf);obtain⟨X,hX⟩:∃X,w.alloc (I #[.slice (some ⟨gb,go,none⟩) p.funcs.length f2,Va,U p.entry,U p.handler,Vd,Vb] 29)=X:=⟨_,rfl⟩
 have c3:Below w.heap.size w X:=by rw[<-hX];exact(Below.refl _ _).alloc (Je _) _
 have a0:O X w.heap.size #[.slice (some ⟨gb,go,none⟩) p.funcs.length f2,Va,U p.entry,U p.handler,Vd,Vb] 29:=by rw[<-hX];exact zI rfl
 have HX:=Ja (Jb c3 (Jb a0 (show ∀W,Below w.heap.size w W->ProgIn W B ⟨.slice (some ⟨gb,go,none⟩) p.funcs.length f2,Va,Vd,Vb⟩ p/\wX W B (.slice ka bl.length kc) bl/\A W gb (go+f) (.slice ka bl.length kc) from fun W hb=>⟨hp.below (hb.mono hB),e9.below yT (hb.mono hB),zV (hb.mono hB) i0 g0⟩)));have o:=Ja (Jb hF (Jb hU (Jb hs (Jb hv (Jb g5 (Jb hB (Jb h0 i0)))))));have n1:=Ja (show ∀W,Below X.heap.size X W->G 35 #[.agg #[.slice (some ⟨gb,go,none⟩) p.funcs.length f2,Va,U p.entry,U p.handler,Vd,Vb]] W (m9 W 0) from fun W hb=>i8 W (c3.trans (hb.mono c3.size)));have o9:decide ((f:Int)<0)=false:=decide_eq_false Zo;have o6:decide ((p.funcs.length:Int)<=(f:Int))=false:=decide_eq_false Zo;have o5:decide (p.funcs.length<=f)=false:=decide_eq_false Zo;have o4:((bl.length:Int)==0)=false:=Ze;have o3:(bl.length==0)=false:=beq_eq_false_iff_ne.2 Zo;have m2:gb<w.heap.size:=Zo;have x0:=zA (i:=0) a0 rfl;have x1:=zA (i:=1) a0 rfl;have x2:=zA (i:=2) a0 rfl;have x3:=zA (i:=3) a0 rfl;have x4:=zA (i:=4) a0 rfl;have x5:=zA (i:=5) a0 rfl;have k3:=lt_of_block a0;clear hp hB hs hv hf h0 hF hU i8 g0 e9 g5 c3 a0;unfold yH;go_enter Tryz.func15,Tryz.ntmps15;go_wp2_with fail
 go_step3
 go_upto_region 3 with(go_at_call 35;go_must (refine(n1.out _ (Below.refl _ _)).mono ?_;rintro e w1 ⟨rfl,c7⟩;have x:=zH c7 HX.out.2.1 k3;have y0:=zA (i:=0) x rfl;have yg:=(HX.out.2.2 w1 (HX.out.1.trans (c7.mono HX.out.1.size))).2.2;have m0:=lt_of_block x;have l9:gb<w1.heap.size:=by omega))
 clear hX x0 x1 x2 x3 x4 x5;obtain⟨N,hN⟩:∃N:Nat,aaG bl=N:=⟨(aaG bl).toNat,by have:=o.out.1.cnt;omega⟩
 have q5:N<=65536:=by have:=o.out.1.cnt;omega
 obtain⟨Y,hY⟩:∃Y,w1.alloc (I #[.slice ka bl.length kc] 39)=Y:=⟨_,rfl⟩
 obtain⟨t5,g4⟩:∃t,w1.heap.size=t:=⟨_,rfl⟩
 have b9:Below w1.heap.size w1 Y:=by rw[<-hY];exact(Below.refl _ _).alloc (Je _) _
 have d3:O Y w1.heap.size #[.slice ka bl.length kc] 39:=by rw[<-hY];exact zI rfl
 have b7:=HX.out.1.trans (c7.mono HX.out.1.size);have HY:=Ja (show Below w.heap.size w Y/\O Y w.heap.size #[.slice (some ⟨gb,go,none⟩) p.funcs.length f2,Va,U p.entry,U p.handler,Vd,Vb] 29/\O Y w1.heap.size #[.slice ka bl.length kc] 39/\w.heap.size<w1.heap.size/\w1.heap.size<Y.heap.size from⟨b7.trans (b9.mono b7.size),zH b9 x (lt_of_block x),d3,lt_of_block x,lt_of_block d3⟩);rw[g4] at HY;have y5:=zA (i:=0) HY.out.2.2.1 rfl;have l1:t5<Y.heap.size:=HY.out.2.2.2.2
 have n6:=Ja (show ∀W,Below Y.heap.size Y W->G 36 #[.agg #[.slice ka bl.length kc]] W (aeN W (N:Int)) from fun W hb=>by
  have:=ls (w:=W) (HX.out.2.2 W (HY.out.1.trans (hb.mono HY.out.1.size))).2.1 (Jn o.out.2.2.2.2.2.1 (Jn HY.out.1.size hb.size)) o.out.2.2.2.2.1;rw[hN] at this
  exact this)
 have HN:=Ja hN;clear hN b9 d3 b7 x c7 m2;go_upto_region 5 with(go_at_call 36;go_must (refine(n6.out _ (Below.refl _ _)).mono ?_;rintro e w2 ⟨rfl,c5⟩))
 clear hY g4 y5 y0 yg m0 l9;have f3:Below w.heap.size w w2:=HY.out.1.trans (c5.mono HY.out.1.size);have x:=zH c5 HY.out.2.1 (lt_of_block HY.out.2.1);have e5:=zH c5 HY.out.2.2.1 (lt_of_block HY.out.2.2.1);have l:=Ja (show Below w.heap.size w w2/\w2.heap[w.heap.size]? =_/\w2.heap[t5]? =_ from⟨f3,x,e5⟩);have a1:w.heap.size<w2.heap.size:=lt_of_block x;have c0:t5<w2.heap.size:=lt_of_block e5;clear c5 f3 x e5 l1;have HC:=Ja (show ∀w',Below w2.heap.size w2 w'->(A w' w.heap.size 0 (.slice (some ⟨gb,go,none⟩) p.funcs.length f2)/\A w' w.heap.size 1 Va/\A w' w.heap.size 2 (U p.entry)/\A w' w.heap.size 3 (U p.handler)/\A w' w.heap.size 4 Vd/\A w' w.heap.size 5 Vb)/\A w' t5 0 (.slice ka bl.length kc) from fun W hb=>⟨⟨zA (zH hb l.out.2.1 a1) rfl,zA (zH hb l.out.2.1 a1) rfl,zA (zH hb l.out.2.1 a1) rfl,zA (zH hb l.out.2.1 a1) rfl,zA (zH hb l.out.2.1 a1) rfl,zA (zH hb l.out.2.1 a1) rfl⟩,zA (zH hb l.out.2.2 c0) rfl⟩);obtain⟨⟨x0,x1,x2,x3,x4,x5⟩,y5⟩:=HC.out w2 (Below.refl _ _);have e2:=make_rgs N Zo;have b6:=run_make_row' (P:=Tryz.prog) 97 4 (.bool false) 1 Tryz.underlying97 Tryz.info_bool rfl .i64 .i64 N Zo Zo;rw[kn_cells] at b6;obtain⟨ZR,f5⟩:∃Z,((List.replicate N (⟨0,0⟩:Rg)).flatMap ro).toArray=Z:=⟨_,rfl⟩
 obtain⟨ZB,f6⟩:∃Z,((List.replicate N false).map Value.bool).toArray=Z:=⟨_,rfl⟩
 rw[f5] at e2;rw[f6] at b6;have HZ:=Ja (Jb f5 f6);clear f5 f6
 go_cut [7] from 46 to 54 (fun s wx=>∃K:SK,s=Q K.sb/\K.n=N/\Hid (aiV w2 wx K p bl))
 case first=>
  go_region_held3 (fun w'=>(A w' w.heap.size 0 (.slice (some ⟨gb,go,none⟩) p.funcs.length f2)/\A w' w.heap.size 1 Va/\A w' w.heap.size 2 (U p.entry)/\A w' w.heap.size 3 (U p.handler)/\A w' w.heap.size 4 Vd/\A w' w.heap.size 5 Vb)/\A w' t5 0 (.slice ka bl.length kc))
   ((refine HC.out _ ?_;repeat' (first|with_reducible exact Below.refl _ _|with_reducible assumption|with_reducible refine Below.drew ?_|with_reducible refine Below.alloc ?_ Zn _|with_reducible refine Below.setCell ?_ Zn _)))
   ((go_at_call 37;refine(ajm _).mono ?_;rintro e w3 ⟨rfl,h4,f0,e4⟩;have m4:Below w2.heap.size w2 w3:=Below.trans (show Below w2.heap.size w2 _ from by repeat' (first|with_reducible exact Below.refl _ _|with_reducible assumption|with_reducible refine Below.drew ?_|with_reducible refine Below.alloc ?_ Zn _|with_reducible refine Below.setCell ?_ Zn _)) (f0.mono Zn);have l3:w2.heap.size<=w3.heap.size:=m4.size;have h6:=e4;rw[show ∀v:World,v.drew.heap=v.heap from fun _=>rfl] at h6;(try simp at h6)))
  all_goals go_wp2_with fail
  all_goals go_meet
  all_goals (
   refine slvNew' (B:=B) (V:=⟨.slice (some ⟨gb,go,none⟩) p.funcs.length f2,Va,Vd,Vb⟩) (fv:=.slice ka bl.length kc) (zI (by first|rfl|(simp;done)|(simp;omega))) (Jn o.out.2.2.2.2.2.1 l.out.1.size) Zo ?_ ?_ ?_ ?_ ?_ ?_ ?_ ?_
   ·exact(HX.out.2.2 _ (l.out.1.trans (Below.mono (show Below w2.heap.size w2 _ from by repeat' (first|with_reducible exact Below.refl _ _|with_reducible assumption|with_reducible refine Below.drew ?_|with_reducible refine Below.alloc ?_ Zn _|with_reducible refine Below.setCell ?_ Zn _)) l.out.1.size))).1
   ·exact(HX.out.2.2 _ (l.out.1.trans (Below.mono (show Below w2.heap.size w2 _ from by repeat' (first|with_reducible exact Below.refl _ _|with_reducible assumption|with_reducible refine Below.drew ?_|with_reducible refine Below.alloc ?_ Zn _|with_reducible refine Below.setCell ?_ Zn _)) l.out.1.size))).2.1
   ·repeat' (first|with_reducible exact Below.refl _ _|with_reducible assumption|with_reducible refine Below.drew ?_|with_reducible refine Below.alloc ?_ Zn _|with_reducible refine Below.setCell ?_ Zn _)
   ·exact aeE.below (by first|exact h4|simpa using h4) (by repeat' (first|with_reducible exact Below.refl _ _|with_reducible assumption|with_reducible refine Below.drew ?_|with_reducible refine Below.alloc ?_ Zn _|with_reducible refine Below.setCell ?_ Zn _))
   ·rw[HZ.out.1];repeat' (first|exact zI (by first|rfl|(simp;done)|(simp;omega))|exact zH f0 (by repeat' (first|exact zI (by first|rfl|(simp;done)|(simp;omega))|refine afI ?_|refine zB ?_)) (by first|exact e4|omega|(simp;done)|(simp;omega))|refine afI ?_|refine zB ?_)
   ·rw[HZ.out.2];repeat' (first|exact zI (by first|rfl|(simp;done)|(simp;omega))|exact zH f0 (by repeat' (first|exact zI (by first|rfl|(simp;done)|(simp;omega))|refine afI ?_|refine zB ?_)) (by first|exact e4|omega|(simp;done)|(simp;omega))|refine afI ?_|refine zB ?_)
   ·refine⟨?_,?_,?_,?_⟩<;>(first|exact Je _|omega|(simp;done)|(simp;omega))
   ·refine⟨?_,?_,?_,?_,?_,?_⟩<;>(first|omega|(simp;done)|(simp;omega)))
 case rest=>
  obtain⟨K,rfl,k0,HK⟩:=hcut;have a4:=HK.out.2.1;have y5:A wc t5 0 (.slice ka bl.length kc):=zA (zH a4 l.out.2.2 c0) rfl;have k4:=lt_of_block (zH a4 l.out.2.2 c0);obtain⟨b0,f4⟩:∃b,bl[0]? =some b:=⟨_,Jd k5⟩
  have e7:=(HX.out.2.2 wc (l.out.1.trans (a4.mono l.out.1.size))).2.1;obtain⟨qb,qo,l4,l5,_,_,_,pv,_,_,u0,_,_,b3,_,_⟩:=e7.get f4;obtain⟨pa,pc,rfl,l7,l6⟩:=b3.form;subst l4;rw[Nat.zero_mul,Uk] at u0;have p0:qb<wc.heap.size:=Jy l5 (Jn o.out.2.2.2.2.2.1 (Jn l.out.1.size a4.size));have n8:b0.params.length<=9223372036854775807:=Zo;have a3:=Ja (Jb f4 (Jb b3 a4));have h7:K.n=(aaG bl).toNat:=by rw[k0,HN.out];rfl
  have d0:=Ja h7;clear k0 h7 e7 b3 f4 l7 l6 a4 HC e2 b6 x0 x1 x2 x3 x4 x5;have a8:=HK.out.2.2;have d1:=Ja (show ∀wx,SlvTo wc wx K->Below w2.heap.size wc wx from fun wx h=>h.below ⟨a8.1,a8.2.1,a8.2.2,HK.out.2.1.size⟩);have f9:=Ja (show ∀wx,SlvTo wc wx K->wX wx B (.slice (some ⟨qb,qo,none⟩) bl.length kc) bl/\zY wx B (.slice pa b0.params.length pc) b0.params/\A wx t5 0 (.slice (some ⟨qb,qo,none⟩) bl.length kc)/\t5<wx.heap.size/\B<=wx.heap.size from fun wx h=>⟨(HX.out.2.2 wx (l.out.1.trans ((a3.out.2.2.trans ((d1.out wx h).mono (Je _))).mono l.out.1.size))).2.1,a3.out.2.1.below zO ((d1.out wx h).mono (Jn o.out.2.2.2.2.2.1 l.out.1.size)),zA (zH (a3.out.2.2.trans (d1.out wx h)) l.out.2.2 c0) rfl,Jy k4 h.size,Jn o.out.2.2.2.2.2.1 (Jn l.out.1.size (Jn a3.out.2.2.size h.size))⟩);clear a8;go_wp2;clear y5 u0
  go_loopw [61] (fun kv wx=>∃(j:Nat) (s':Slv) (c:Bool),j<=b0.params.length/\kv=U j/\Hid ((b0.params.take j).foldl (fun q v=>i3 0 v vu q) (⟨List.replicate K.n ⟨0,0⟩,List.replicate K.n false⟩,false)=(s',c)/\SlvAt wx K p bl 0 s'/\SlvTo wc wx K)) (fun kv _=>b0.params.length-(intOf kv).toNat)
  case atStart=>exact⟨0,_,_,Jt _,rfl,Ja ⟨rfl,HK.out.1,SlvTo.refl _ _⟩⟩
  case round=>
   obtain⟨j,s',c,hj,rfl,HJ⟩:=hrel
   by_cases d:j<b0.params.length
   ·have a2:(j:Int)<(b0.params.length:Int):=Zo;obtain⟨v,hv⟩:∃v,b0.params[j]? =some v:=⟨_,Jd d⟩
    obtain⟨pb,po,l8,g9,l0,_⟩:=(f9.out wr HJ.out.2.2).2.1.get hv;subst l8;rw[Nk] at l0;have n9:pb<wr.heap.size:=Jy g9 (f9.out wr HJ.out.2.2).2.2.2.2;have d4:=((o.out.1.rng 0 o.out.1.pos).1 v (by rw[show((0:Nat):Int)=((0:Nat):Int) from rfl,z6 a3.out.1];exact Ji hv))
    rw[<-d0.out] at d4;obtain⟨vn,rfl⟩:∃vn:Nat,v=vn:=⟨v.toNat,by omega⟩
    obtain⟨s2,r,hq⟩:∃s2 r,setF 0 s' (vn:Int) vu=(s2,r):=⟨_,_,rfl⟩
    have n2:=Ja (show ∀W,SlvAt W K p bl 0 s'->G 38 #[Q K.sb,U vn,.agg #[.int .u16 0,.int .u16 65535]] W (agv W K p bl 0 (s2,r)) from fun W hb=>by
     have:=ahz hb (v:=vn) (by have:=d4.2;rw[Ni] at this;exact this) mc (af2 mc (hb.oks.get _));rw[hq] at this
     exact this)
    have HV:=Ja (Jb hv (Jb hq d));clear hv hq d4 d g9
    go_wp2_with (first
     |(go_at_call 39;go_must (refine(em _).mono ?_;rintro e w5 ⟨rfl,a5⟩))
     |(go_at_call 38;go_must (refine(n2.out _ (HJ.out.2.1.below a5)).mono ?_;rintro e w6 ⟨rfl,d6,g3⟩;have H6:=Ja (Jb d6 ((SlvTo.of_below a5).trans g3));clear d6 g3 a5)))
    go_roundw
    case rel=>exact⟨j+1,s2,_,HV.out.2.2,by go_num,Ja ⟨by rw[e8 HV.out.1,HJ.out.1];unfold i3;rw[HV.out.2.1],H6.out.1,HJ.out.2.2.trans H6.out.2⟩⟩
    case measure=>have:=HV.out.2.2;simp[intOf];omega
   ·obtain rfl:j=b0.params.length:=by omega
    have a2:¬(b0.params.length:Int)<(b0.params.length:Int):=Zo
    have n4:=Ja (show aeM (aaG bl).toNat (xz bl (0:Nat)).params=s' by
     unfold aeM;rw[<-d0.out,z6 a3.out.1];have:=HJ.out.1;rw[Nl] at this
     rw[this])
    have d2:=Ja HJ.out.2;clear hj d HJ;obtain⟨z1,z2,z3,z4,z5⟩:=f9.out wr d2.out.2;have HG:=Ja (ox z1 z5 ⟨o.out.2.2.2.2.1.1,fun b hb=>(o.out.2.2.2.2.1.2 b hb).2.2⟩)
    have g1:∀b∈bl,mb bl b.term=true:=fun b hb=>by
     obtain⟨i,hi⟩:=Ny hb;have:=o.out.1.st.trm i (Jh.1 hi).1;rw[z6 hi] at this;exact this
    have n5:=Ja (show ∀W b1,OwnRows zN 3 22 W wr.heap.size b1 (zk bl)->GraphIn W (F b1 (zk bl).length (zk bl).length) (zy bl) from fun W b1 h=>bU o.out.2.2.2.2.1 o.out.2.2.2.2.2.2.1 g1 (h.asRows (Je _)));obtain⟨od,d8⟩:∃od,vD (zy bl)=od:=⟨_,rfl⟩
    obtain⟨gl,h9⟩:∃n,(zk bl).length=n:=⟨_,rfl⟩
    have f8:0∈od:=by rw[<-d8];exact(o.out.1.ord 0).2 o.out.1.pos
    have k6:0<od.length:=List.length_pos_of_mem f8;have a6:=Ja (Jb d8 h9);clear z1 z2 z5 g1 d8 h9 f8
    go_wp2_with (first
     |(go_at_call 41;go_must (refine HG.out.mono ?_;rintro e w7 ⟨b1,rfl,c1,m3,c4⟩;rw[a6.out.2]))
     |(go_at_call 40;go_must (refine(iJ (by have:=n5.out w7 b1 c1;rw[a6.out.2] at this;exact this)).mono ?_;rintro e w8 ⟨ov,rfl,b4,i1⟩;rw[a6.out.1] at b4;obtain⟨ob,oc,rfl,o2,o1,d9,j0⟩:=own_ord b4 rfl k6)))
    have b8:Below wr.heap.size wr w8:=c4.trans (i1.mono c4.size);have e0:=d2.out.1.fresh (b:=ob) (Jn c4.size d9)
    have d5:∀i∈od,aeB K.n bl (xz bl i):=fun i hi=>by
     rw[d0.out];exact o.out.1.sol i ((o.out.1.ord i).1 (by rw[a6.out.1];exact hi))
    obtain⟨T,hT⟩:∃T,ajz p bl od 0 s'=T:=⟨_,rfl⟩
    have e6:vp p bl=afa T:=by
     unfold vp fnT;rw[n4.out,a6.out.1,hT]
    have HQ:=Ja (show SlvAt w8 K p bl 0 s'/\SlvTo wc w8 K/\agM w8 ob od/\(ob≠K.rb/\ob≠K.kb/\ob≠K.sb)/\(∀i∈od,aeB K.n bl (xz bl i))/\ajz p bl od 0 s'=T/\vp p bl=afa T from⟨d2.out.1.below b8,d2.out.2.trans (SlvTo.of_below b8),j0,e0,d5,hT,e6⟩);have o0:od.length<=9223372036854775807:=Zo;clear b8 e0 d5 hT e6 j0 c4 i1 b4 c1 m3 d9 z3 z4;go_wp2
    go_step3
    go_wp2
    go_loopg [11] (aeI 0 s') (fun g cv wx=>∃(j:Nat) (t:Slv),Hid (g=aeI j t/\j+aeI j t<=4+K.n/\ajz p bl od j t=T/\SlvAt wx K p bl j t/\SlvTo w8 wx K))
    case atStart=>exact⟨0,s',Ja ⟨rfl,by have:=nfL_le s'.r s'.kn;have:=HQ.out.1.oks.rl;unfold aeI Slv.nf;omega,HQ.out.2.2.2.2.2.1,HQ.out.1,SlvTo.refl _ _⟩⟩
    case round=>
     obtain⟨j,t,y⟩:=hrel;have p8:j<=2000000:=by have:=y.out.2.1;have:=y.out.2.2.2.1.n64;omega
     have c10:=y.out.2.2.2.1.cells.2.2.2.2.1;have m5:=zE (i:=10) y.out.2.2.2.1.cell;have l2:=lt_of_block y.out.2.2.2.1.cell;obtain⟨W4,i2⟩:∃W,wr.setCell ⟨K.sb,10,none⟩ (U ((j:Int)+1))=W:=⟨_,rfl⟩
     obtain⟨q1,q2⟩:=y.out.2.2.2.1.round i2;have H4:=Ja (Jb q1 (y.out.2.2.2.2.trans q2));clear q1 q2;go_upto_region 14 with fail;clear i2 c10 m5 l2;go_wp2
     go_loopw [11,82] (fun cv kv wx=>∃(m:Nat) (t2:Slv) (c:Bool),m<=od.length/\cv=.bool c/\kv=U m/\Hid ((od.take m).foldl (goS p bl (j+1)) (t,false)=(t2,c)/\SlvAt wx K p bl (j+1) t2/\SlvTo w8 wx K)) (fun _ kv _=>od.length-(intOf kv).toNat)
     case atStart=>exact⟨0,t,false,Jt _,rfl,rfl,Ja ⟨rfl,H4.out.1,H4.out.2⟩⟩
     case round=>
      obtain⟨m,t2,c,hm,rfl,rfl,u⟩:=hrel
      by_cases d:m<od.length
      ·have a2:(m:Int)<(od.length:Int):=Zo;obtain⟨i,hi⟩:∃i,od[m]? =some i:=⟨_,Jd d⟩
       have b5:=HQ.out.2.2.1.to u.out.2.2 HQ.out.2.2.2.1;have ci:=b5.cell hi;have p1:=b5.lt;have h8:i<bl.length:=(o.out.1.ord i).1 (by rw[a6.out.1];exact Ji hi);obtain⟨bx,c2⟩:∃b,bl[i]? =some b:=⟨_,Jd h8⟩
       obtain⟨t3,r,hq⟩:∃t3 r,agS p bl (j+1) (t2,false) bx=(t3,r):=⟨_,_,rfl⟩
       have n7:=Ja (show G 42 #[Q K.sb,U i] wr (agv wr K p bl (j+1) (t3,r)) from by
        have hw:=blkW_of o.out.1 o.out.2.1 h8;rw[<-d0.out,z6 c2] at hw;have:=aio u.out.2.1 c2 hw;rw[hq] at this
        exact this)
       have HI:=Ja (Jb hi (Jb c2 (Jb hq d)));clear hi c2 hq b5 d;cases r
       all_goals go_wp2_with (go_at_call 42;go_must (refine n7.out.mono ?_;rintro e w9 ⟨rfl,g6,g2⟩;have H9:=Ja (Jb g6 g2);clear g6 g2))
       all_goals (
        go_roundw
        case rel=>exact⟨m+1,t3,_,HI.out.2.2.2,by first|rfl|(cases c<;>rfl),by go_num,Ja ⟨by rw[e8 HI.out.1,u.out.1];unfold goS;rw[z6 HI.out.2.1,show(agS p bl (j+1) ((t2,c).1,false) bx)=_ from HI.out.2.2.1];first|rw[Bool.or_true]|rw[Bool.or_false],H9.out.1,u.out.2.2.trans H9.out.2⟩⟩
        case measure=>have:=HI.out.2.2.2;simp[intOf];omega)
      ·obtain rfl:m=od.length:=by omega
       have a2:¬(od.length:Int)<(od.length:Int):=Zo
       have HR:=Ja (show gn p bl od (j+1) t=(t2,c) by
        have:=u.out.1;rw[Nl] at this
        exact this)
       clear hm d;cases c
       ·have k1:=Ja (show t2=T by
         have:=y.out.2.2.1;rw[agE HQ.out.2.2.2.2.1 y.out.2.2.2.1.oks,HR.out,if_neg (fun h=>by cases h)] at this
         exact this)
        have c8:=u.out.2.1.cells.2.2.1;have g8:=lt_of_block u.out.2.1.cell;have p3:=u.out.2.1.n64;go_wp2;clear c8
        go_loopw [97] (fun kv wx=>∃m:Nat,m<=K.n/\kv=U m/\Hid (SlvAt wx K p bl (j+1) (aeP t2 m)/\SlvTo w8 wx K)) (fun kv _=>K.n-(intOf kv).toNat)
        case atStart=>exact⟨0,Jt _,rfl,Ja ⟨u.out.2.1,u.out.2.2⟩⟩
        case round=>
         obtain⟨m,hm,rfl,HL⟩:=hrel;have c8:=HL.out.1.cells.2.2.1;have c9:=HL.out.1.cells.2.2.2.1;have g8:=lt_of_block HL.out.1.cell;have a1:=lt_of_block HL.out.1.row;have l3:=lt_of_block HL.out.1.kn
         by_cases d:m<K.n
         ·have a2:(m:Int)<(K.n:Int):=Zo;have kx:=afR HL.out.1 d;rw[aie] at kx
          cases hk:t2.knw (m:Int) with
          |true=>
           rw[hk] at kx;have HE:=Ja (aih u.out.2.1.oks d hk);clear hk;go_wp2;go_roundw
           case rel=>exact⟨m+1,d,by go_num,Ja ⟨by rw[HE.out];exact HL.out.1,HL.out.2⟩⟩
           case measure=>simp[intOf];omega
          |false=>
           rw[hk] at kx;have HE:=Ja (ajl u.out.2.1.oks d hk);clear hk;go_upto_region 25 with fail;clear c9 kx;obtain⟨r0,r1⟩:=HL.out.1.rcell (v:=(m:Int)) Zo;rw[Ni] at r0 r1;have HC:=Ja (show ∀W:World,W.heap[K.sb]? =wr.heap[K.sb]?->A W K.sb 8 (F K.rb K.n K.n) from fun W h=>zA (h.trans HL.out.1.cell) rfl);have e0:=HL.out.1.ne
           go_region_held3 (fun w'=>A w' K.sb 8 (F K.rb K.n K.n))
            ((refine HC.out _ ?_;repeat' (first|exact rfl|exact m1|rw[Below.heap_setCell _ _ _ _ (show K.sb≠K.rb by omega)]|rw[show ∀v:World,v.drew.heap=v.heap from fun _=>rfl])))
            ((go_at_call 39;refine(em _).mono ?_;rintro e w5 ⟨rfl,a5⟩;have f7:Below wr.heap.size wr w5:=Below.trans (show Below wr.heap.size wr _ from Zf) (a5.mono (Je _));clear a5;have m1:w5.heap[K.sb]? =wr.heap[K.sb]?:=f7.block _ g8;have b2:=Ja (HL.out.1.below f7);obtain⟨r2,r3⟩:=b2.out.rcell (v:=(m:Int)) Zo;rw[Ni] at r2 r3;have k9:=zE (i:=m*2) b2.out.row;have k7:=zE (i:=m*2+1) b2.out.row;have d6:=lt_of_block b2.out.row))
           all_goals go_wp2_with fail
           all_goals (
            obtain⟨W,hW⟩:∃W,(w5.setCell ⟨K.rb,m*2,none⟩ (.int .u16 0)).setCell ⟨K.rb,m*2+1,none⟩ (.int .u16 65535)=W:=⟨_,rfl⟩
            obtain⟨j1,j2⟩:=b2.out.putR d mc hW;rw[hW];clear r2 r3 k9 k7;have k2:=Ja (Jb j1 (((SlvTo.of_below f7).trans j2)));clear j1 j2 hW;go_roundw
            case rel=>exact⟨m+1,d,by go_num,Ja ⟨by rw[HE.out];exact k2.out.1.below (by first|exact Below.refl _ _|exact(Below.refl _ _).drew),HL.out.2.trans (k2.out.2.trans (SlvTo.of_below (by first|exact Below.refl _ _|exact(Below.refl _ _).drew)))⟩⟩
            case measure=>simp[intOf];omega)
         ·obtain rfl:m=K.n:=by omega
          have a2:¬(K.n:Int)<(K.n:Int):=Zo;have HE:=Ja (show aeP t2 K.n=⟨vp p bl,t2.kn⟩ by rw[aiq u.out.2.1.oks,HQ.out.2.2.2.2.2.2,k1.out]);have e3:(vp p bl).length=K.n:=by rw[HQ.out.2.2.2.2.2.2,<-k1.out];exact afj u.out.2.1.oks
          have n3:=Ja e3;clear hm d e3 c9;go_wp2
          try rw[Exit.noGoto_ret]
          go_ret;have d7:=HL.out.1.row;rw[HE.out] at d7;refine⟨K.rb,by rw[n3.out];rfl,d7,?_,?_⟩
          ·exact Jn l.out.1.size HK.out.2.2.1
          ·exact l.out.1.trans ((a3.out.2.2.trans (d1.out wr (HQ.out.2.1.trans HL.out.2))).mono l.out.1.size)
       ·go_wp2
        go_roundg (aeI (j+1) t2)
        case measure=>
         have:=agc (p:=p) HQ.out.2.2.2.2.1 y.out.2.2.2.1.oks (k:=j) (by rw[HR.out]);rw[HR.out] at this;rw[y.out.1];exact this
        case rel=>
         refine⟨j+1,t2,Ja ⟨rfl,?_,?_,u.out.2.1,u.out.2.2⟩⟩
         ·have:=agc (p:=p) HQ.out.2.2.2.2.1 y.out.2.2.2.1.oks (k:=j) (by rw[HR.out]);rw[HR.out] at this;have h5:aeI (j+1) t2<aeI j t:=this;have:=y.out.2.1;omega
         ·have:=y.out.2.2.1;rw[agE HQ.out.2.2.2.2.1 y.out.2.2.2.1.oks,HR.out,if_pos rfl] at this;exact this
def obs (data:List IObj)(R:List Rg)(l:List IOp):List Int:=(l.filter lx).map (ahA data R)
theorem aha{data:List IObj}{R:List Rg}(h:lx o=true):obs data R (l++ [o])=obs data R l++ [ahA data R o]:=by
 unfold obs;rw[List.filter_append,List.filter_cons_of_pos h,List.filter_nil,Js];rfl
theorem ahx{data:List IObj}{R:List Rg}(h:lx o=false):obs data R (l++ [o])=obs data R l:=by
 unfold obs;rw[List.filter_append,List.filter_cons_of_neg (by rw[h];decide),List.filter_nil,Ua]
theorem obs_le (data:List IObj)(R:List Rg)(l:List IOp):(obs data R l).length<=l.length:=by unfold obs;rw[Nr];exact List.length_filter_le _ _
theorem ai9:∀(l:List IBlk),(∀b∈l,b.ops.length<=2000000)->(l.flatMap (·.ops)).length<=l.length*2000000
 | [],_=>by simp
 |b::l,h=>by
  have h1:=ai9 l fun x hx=>h x (.tail _ hx)
  have h2:=h b (.head _);rw[Qa,Jk,Nq];omega
theorem afk(h:l[j]? =some o):l.take (j+1)=l.take j++ [o]:=by rw[Nh,h];rfl
theorem agT{b:IBlk}(h:bl[k]? =some b):(bl.take (k+1)).flatMap (·.ops)=(bl.take k).flatMap (·.ops)++b.ops:=by rw[Nh,h,Nx];simp
structure ObS (w wx:World) (t2 rb:Nat) (pc:Array Value) (R:List Rg) (bl:List IBlk):Prop where
 below:Below t2 w wx
 p2:wx.heap[t2]? =some (.cells pc 29 (0,0))
 row:bl≠ []->wx.heap[rb]? =some (.cells (R.flatMap ro).toArray 45 (0,0))
theorem ObS.lt{rb:Nat}{R:List Rg}(h:ObS w wx t2 rb pc R bl):t2<=wx.heap.size:=Qd (lt_of_block h.p2)
theorem ObS.keep{rb:Nat}{R:List Rg}(h:ObS w wx t2 rb pc R bl)(hb:N wx W):ObS w W t2 rb pc R bl:=
 ⟨h.below.trans (hb.mono h.lt),zH hb h.p2 (lt_of_block h.p2),fun h0=>zH hb (h.row h0) (lt_of_block (h.row h0))⟩
theorem ObS.drew{rb:Nat}{R:List Rg}(h:ObS w wx t2 rb pc R bl):ObS w wx.drew t2 rb pc R bl:=⟨h.below.drew,h.p2,h.row⟩
theorem own_ge{n:Nat}{v:Value}{xs:List Value}(ho:wx.ownsRow t2 3 1 v n xs):∀k,v.ownBlock=some k->t2<=k:=fun k hk=>by
 rcases ho.2 with⟨rfl,_⟩|⟨g,d,cur,rfl,c,_⟩
 ·cases hk
 ·cases hk;exact c
theorem ObS.grown{rb:Nat}{R:List Rg}(h:ObS w wx t2 rb pc R bl){n:Nat}{v:Value}{xs:List Value}(ho:wx.ownsRow t2 3 1 v n xs)(hg:wx.grownBy W v.ownBlock):ObS w W t2 rb pc R bl:=
 ⟨h.below.grown hg h.lt (own_ge ho),zL hg h.p2 (zC ho h.p2 (.inr Zd)),fun h0=>zL hg (h.row h0) (zC ho (h.row h0) (.inr Zd))⟩
structure ObT (w wx:World) (t2 rb:Nat) (pc:Array Value) (R:List Rg) (bl:List IBlk) (t10:Nat) (oc:Array Value):Prop where
 s:ObS w wx t2 rb pc R bl
 op:wx.heap[t10]? =some (.cells oc 76 (0,0))
theorem ObT.keep{rb c:Nat}{R:List Rg}(h:ObT w wx t2 rb pc R bl c oc)(hb:N wx W):ObT w W t2 rb pc R bl c oc:=
 ⟨h.s.keep hb,zH hb h.op (lt_of_block h.op)⟩
theorem ObT.grown{rb c:Nat}{R:List Rg}(h:ObT w wx t2 rb pc R bl c oc){n:Nat}{v:Value}{xs:List Value}(ho:wx.ownsRow t2 3 1 v n xs)(hg:wx.grownBy W v.ownBlock):ObT w W t2 rb pc R bl c oc:=
 ⟨h.s.grown ho hg,zL hg h.op (zC ho h.op (.inr Zd))⟩
theorem ObS.rcell{rb:Nat}{R:List Rg}(h:ObS w wx t2 rb pc R bl)(c:bl≠ []){x:Nat}(d:x<R.length):
 A wx rb (x*2) (Y ((R.getD x ⟨0,0⟩).lo:Int))/\A wx rb (x*2+1) (Y ((R.getD x ⟨0,0⟩).hi:Int)):=by
 have hg:R[x]? =some (R.getD x ⟨0,0⟩):=by rw[Jj,Jd d];rfl
 exact⟨by have:=oW (f:=ro) (n:=2) (fun _=>rfl) (h.row c) hg (j:=0) rfl;rw[Ng,Uk] at this;exact this,by have:=oW (f:=ro) (n:=2) (fun _=>rfl) (h.row c) hg (j:=1) rfl;rw[Ng] at this;exact this⟩
def ObjRet (w:World)(l:List Int)(e:Ending)(w':World):Prop:=∃v,e=.returned v/\w'.ownsRow w.heap.size 3 1 v l.length (l.map zN)/\N w w'
theorem ae4{p:IProg}(h:FnS p bl):(∀a∈vp p bl,a.ok)/\(vp p bl).length=(aaG bl).toNat:=by
 refine⟨fun a ha=>?_,afj h.end.ok⟩;unfold vp afa at ha;obtain⟨⟨x,b⟩,c,rfl⟩:=Nu.1 ha
 dsimp only
 split
 ·exact h.end.ok.ok x (List.of_mem_zip c).1
 ·exact mc
theorem acc_use{p:IProg}(h:FnS p bl){b:IBlk}(hb:bl[k]? =some b)(ho:o∈b.ops)(c:lx o=true):0<=o.a/\o.a.toNat<(vp p bl).length:=by
 have hk:=(Jh.1 hb).1;have:=((h.rng k hk).2 o (by rw[z6 hb];exact ho)).1.a (aiy c);rw[(ae4 h).2];exact this
theorem ahS:lx o=decide (o.code=18∨o.code=19∨o.code=20∨o.code=21):=by
 unfold lx;rw[Bool.eq_iff_iff];simp only[Jm,decide_eq_true_eq];omega
theorem aiw{B:Nat}{V:PV}{p:IProg}(hp:ProgIn w B V p)(hB:B<=w.heap.size)(hs:∀f∈p.funcs,vZ f)(hv:vC p=0){f:Nat}(hf:p.funcs[f]? =some bl):
 G 16 #[yH V p,U f] w (ObjRet w (aeH p.data (vp p bl) bl)):=by
 have a0:=hs bl (Ji hf);have m3:=(Jh.1 hf).1;obtain⟨R,hR⟩:∃R,vp p bl=R:=⟨_,rfl⟩
 have hF:bl≠ []->FnS p bl:=fun h0=>agq hv hs hp.p64 hf h0
 have g3:∀W,N w W->G 35 #[yH V p] W (m9 W 0):=fun W hb=>by
  have:=tu (hp.below (hb.mono hB)) (Jn hB hb.size) hs;rw[hv] at this;exact this
 have g4:∀W,N w W->G 15 #[yH V p,U f] W (fun e w'=>∃(ra:Option Addr) (rn rc:Nat),e=.returned (.slice ra rn rc)/\N W w'/\((bl=[]/\ra=none/\rn=0/\rc=0)∨bl≠ []/\rn=R.length/\rc=R.length/\∃rb,ra=some ⟨rb,0,none⟩/\O w' rb (R.flatMap ro).toArray 45)):=fun W hb=>by
  by_cases h0:bl=[]
  ·subst h0;refine(agm (hp.below (hb.mono hB)) (Jn hB hb.size) hs hv f hf).mono ?_;rintro e w' ⟨rfl,i8⟩;exact⟨none,0,0,rfl,i8,.inl ⟨rfl,rfl,rfl,rfl⟩⟩
  ·refine(af4 (hp.below (hb.mono hB)) (Jn hB hb.size) hs hv hf h0).mono ?_;rintro e w' ⟨rb,rfl,h1,h2,h3⟩;rw[hR] at h1 ⊢;exact⟨_,_,_,rfl,h3,.inr ⟨h0,rfl,rfl,rb,rfl,h1⟩⟩
 have g5:∀(a:Rg) (n:Int) W,N w W->a.ok->(0<=n/\n<=2)->G 43 #[yH V p,.agg #[.int .u16 (a.lo:Int),.int .u16 (a.hi:Int)],U n] W (aeN W (ae8 p.data 0 a n)):=fun a n W hb ha hn=>aiv (hp.below (hb.mono hB)) (Jn hB hb.size) ha n hn
 obtain⟨Vf,Va,Vd,Vb⟩:=V;obtain⟨f1,f2,e1,m5,m4⟩:=hp.funcs.form;have j0:Vf=.slice f1 p.funcs.length f2:=e1;subst j0;obtain⟨gb,go,rfl,d4,bv,g0,d6⟩:=hp.funcs.get hf;obtain⟨ka,kc,rfl,m1,m0⟩:=d6.form;rw[Nk] at g0;obtain⟨X,hX⟩:∃X,w.alloc (I #[.slice (some ⟨gb,go,none⟩) p.funcs.length f2,Va,U p.entry,U p.handler,Vd,Vb] 29)=X:=⟨_,rfl⟩
 have f7:N w X:=by rw[<-hX];exact(Below.refl _ _).alloc (Je _) _
 have u:O X w.heap.size #[.slice (some ⟨gb,go,none⟩) p.funcs.length f2,Va,U p.entry,U p.handler,Vd,Vb] 29:=by rw[<-hX];exact zI rfl
 have x0:=zA (i:=0) u rfl;have x1:=zA (i:=1) u rfl;have x2:=zA (i:=2) u rfl;have x3:=zA (i:=3) u rfl;have x4:=zA (i:=4) u rfl;have x5:=zA (i:=5) u rfl;have c9:=lt_of_block u;have HX:=Ja (Jb f7 u)
 have HC:=Ja (show(∀W,N w W->G 35 #[.agg #[.slice (some ⟨gb,go,none⟩) p.funcs.length f2,Va,U p.entry,U p.handler,Vd,Vb]] W (m9 W 0))/\(∀W,N w W->G 15 #[.agg #[.slice (some ⟨gb,go,none⟩) p.funcs.length f2,Va,U p.entry,U p.handler,Vd,Vb],U f] W (fun e w'=>∃(ra:Option Addr) (rn rc:Nat),e=.returned (.slice ra rn rc)/\N W w'/\((bl=[]/\ra=none/\rn=0/\rc=0)∨bl≠ []/\rn=R.length/\rc=R.length/\∃rb,ra=some ⟨rb,0,none⟩/\O w' rb (R.flatMap ro).toArray 45)))/\
  (∀(a:Rg) (n:Int) W,N w W->a.ok->(0<=n/\n<=2)->G 43 #[.agg #[.slice (some ⟨gb,go,none⟩) p.funcs.length f2,Va,U p.entry,U p.handler,Vd,Vb],.agg #[.int .u16 (a.lo:Int),.int .u16 (a.hi:Int)],U n] W (aeN W (ae8 p.data 0 a n))) from⟨g3,g4,g5⟩)
 have HG:=Ja (show ∀W,N w W->A W gb (go+f) (.slice ka bl.length kc)/\wX W B (.slice ka bl.length kc) bl/\B<=W.heap.size/\gb<W.heap.size from fun W hb=>⟨zV (hb.mono hB) d4 g0,d6.below yT (hb.mono hB),Jn hB hb.size,Jy d4 (Jn hB hb.size)⟩);have HF:=Ja (Jb hF (Jb hR a0));have k6:decide ((f:Int)<0)=false:=decide_eq_false Zo;have k5:decide ((p.funcs.length:Int)<=(f:Int))=false:=decide_eq_false Zo;have k4:decide (p.funcs.length<=f)=false:=decide_eq_false Zo;have k9:bl.length<=2000000:=a0.1;clear hp hB hs hv g3 g4 g5 g0 d6 d4 f7 u hF hR a0 hf;unfold yH;go_enter Tryz.func16,Tryz.ntmps16;go_upto_region 2 with(go_at_call 15;go_must (refine(HC.out.2.1 _ HX.out.1).mono ?_;rintro e w1 ⟨ra,rn,rc,rfl,d7,f4⟩))
 have b0:=zH d7 HX.out.2 c9;have m:=Ja (Jb (HX.out.1.trans (d7.mono HX.out.1.size)) (Jb b0 f4));clear hX x0 x1 x2 x3 x4 x5 d7 b0 f4 c9;have f3:=lt_of_block m.out.2.1
 go_cut [5,31] from 14 to 31 (fun s v wx=>s=.slice ra rn rc/\v=.bool false/\Hid (N w1 wx))
 case first=>
  have y0:=zA (i:=0) m.out.2.1 rfl;have y1:=zA (i:=1) m.out.2.1 rfl;have y2:=zA (i:=2) m.out.2.1 rfl;have y3:=zA (i:=3) m.out.2.1 rfl;have y4:=zA (i:=4) m.out.2.1 rfl;have y5:=zA (i:=5) m.out.2.1 rfl;have hq:=fun W=>Lib.run_eql_slice_nil (P:=Tryz.prog) W 34 45 ra rn rc 0 0 Tryz.underlying34
  cases ra with
  |none=>
   go_wp2_with (go_at_call 35;go_must (refine(HC.out.1 _ m.out.1).mono ?_;rintro e w2 ⟨rfl,g1⟩;have b0:=zH g1 m.out.2.1 f3;have z0:=zA (i:=0) b0 rfl;have l9:=lt_of_block b0))
   go_meet
   exact⟨rfl,rfl,Ja g1⟩
  |some ra=>
   go_wp2_with fail;go_meet;exact⟨rfl,rfl,Ja (Below.refl _ _)⟩
 case rest=>
  obtain⟨rfl,rfl,HW⟩:=hcut;obtain⟨ii,i1,g9,g8,g6⟩:=info_parts Tryz.info_int;have a5:=zH HW.out m.out.2.1 f3;have y0:=zA (i:=0) a5 rfl;obtain⟨yg,_,n1,m2⟩:=HG.out wc (m.out.1.trans (HW.out.mono m.out.1.size));have h7:=lt_of_block a5;obtain⟨t2,d1⟩:∃t,w.heap.size=t:=⟨_,rfl⟩
  obtain⟨rb,a8⟩:∃rb:Nat,bl≠ []->ra=some ⟨rb,0,none⟩/\rn=R.length/\rc=R.length/\O wc rb (R.flatMap ro).toArray 45:=by
   rcases m.out.2.2 with⟨h0,_⟩|⟨h0,h1,h2,rb,h3,h4⟩
   ·exact⟨0,fun h=>absurd h0 h⟩
   ·exact⟨rb,fun _=>⟨h3,h1,h2,zH HW.out h4 (lt_of_block h4)⟩⟩
  have HS:=Ja (show ObS w wc w.heap.size rb #[.slice (some ⟨gb,go,none⟩) p.funcs.length f2,Va,U p.entry,U p.handler,Vd,Vb] R bl from⟨m.out.1.trans (HW.out.mono m.out.1.size),a5,fun h0=>(a8 h0).2.2.2⟩);have j2:=Ja (show bl≠ []->ra=some ⟨rb,0,none⟩/\rn=R.length/\rc=R.length from fun h=>⟨(a8 h).1,(a8 h).2.1,(a8 h).2.2.1⟩);rw[d1] at HS y0 h7 HG HC ⊢;have HT:=Ja d1;clear d1;have k2:=Ja (show B<=t2 by rw[<-HT.out];exact(HG.out w (Below.refl _ _)).2.2.1);have b7:wc.ownsRow t2 3 1 (L) 0 ((obs p.data R ([]:List IOp)).map zN):=Jv _ _ _ _;have k1:=Ja b7;clear a8 b7 a5;go_wp2;clear y0 yg
  go_loopw [6,39] (fun sv kv wx=>∃(k:Nat) (oa:Option Addr) (on oc:Nat),k<=bl.length/\sv=.slice oa on oc/\kv=U k/\Hid (on=(obs p.data R ((bl.take k).flatMap (·.ops))).length/\ObS w wx t2 rb #[.slice (some ⟨gb,go,none⟩) p.funcs.length f2,Va,U p.entry,U p.handler,Vd,Vb] R bl/\wx.ownsRow t2 3 1 (.slice oa on oc) on ((obs p.data R ((bl.take k).flatMap (·.ops))).map zN))) (fun _ kv _=>bl.length-(intOf kv).toNat)
  case atStart=>exact⟨0,none,0,0,Jt _,rfl,rfl,Ja ⟨rfl,HS.out,k1.out⟩⟩
  case round=>
   obtain⟨k,oa,on,oc,hk,rfl,rfl,HK⟩:=hrel
   by_cases g:k<bl.length
   ·have b3:(k:Int)<(bl.length:Int):=Zo;obtain⟨b,hb⟩:∃b,bl[k]? =some b:=⟨_,Jd g⟩
    have h9:bl≠ []:=fun e=>by rw[e] at g;exact absurd g (Nat.not_lt_zero _)
    obtain⟨_,d5,a4,_⟩:=HG.out wr HK.out.2.1.below;obtain⟨bb,bo,i0,f8,c2,c3,h64,pv,ov,tv,c0,c1,c4,d3,b2,d0⟩:=d5.get hb;obtain⟨pa,pc,rfl,l7,l6⟩:=d3.form;obtain⟨qa,qc,rfl,l5,l4⟩:=b2.form;obtain⟨ta,tc,rfl,l3,l2⟩:=d0.form;subst i0;have l0:bb<wr.heap.size:=Jy f8 a4;have f6:=HF.out.2.2.2 b (Ji hb);have l8:b.ops.length<=2000000:=f6.2.1;obtain⟨Y,hY⟩:∃Y,wr.alloc (I #[.slice pa b.params.length pc,.slice qa b.ops.length qc,U b.term.kind,U b.term.a,.slice ta b.term.to.length tc] 84)=Y:=⟨_,rfl⟩
    have b9:N wr Y:=by rw[<-hY];exact(Below.refl _ _).alloc (Je _) _
    have e9:O Y wr.heap.size #[.slice pa b.params.length pc,.slice qa b.ops.length qc,U b.term.kind,U b.term.a,.slice ta b.term.to.length tc] 84:=by rw[<-hY];exact zI rfl
    have HY:=Ja (show ObS w Y t2 rb #[.slice (some ⟨gb,go,none⟩) p.funcs.length f2,Va,U p.entry,U p.handler,Vd,Vb] R bl/\Y.ownsRow t2 3 1 (.slice oa on oc) on ((obs p.data R ((bl.take k).flatMap (·.ops))).map zN)/\O Y wr.heap.size #[.slice pa b.params.length pc,.slice qa b.ops.length qc,U b.term.kind,U b.term.a,.slice ta b.term.to.length tc] 84/\mN Y B (.slice qa b.ops.length qc) b.ops from⟨HK.out.2.1.keep b9,p7 HK.out.2.2 b9 (Je _),e9,b2.below xA (b9.mono a4)⟩);have d:=Ja (Jb hb (Jb h9 (Jb g HK.out.1)));clear d5 hb f8 d3 b2 d0 b9 e9 f6 h64 g a4;go_upto_region 8 with fail;clear hY c0 c1 c2 c3 c4;obtain⟨t8,f0⟩:∃t,wr.heap.size=t:=⟨_,rfl⟩
    rw[f0] at HY ⊢;clear f0;have z1:A Y t8 1 (.slice qa b.ops.length qc):=zA HY.out.2.2.1 rfl;go_wp2;clear z1
    go_loopw [6,46] (fun sv jv wx=>∃(j:Nat) (oa:Option Addr) (on oc:Nat),j<=b.ops.length/\sv=.slice oa on oc/\jv=U j/\Hid (on=(obs p.data R ((bl.take k).flatMap (·.ops)++b.ops.take j)).length/\ObS w wx t2 rb #[.slice (some ⟨gb,go,none⟩) p.funcs.length f2,Va,U p.entry,U p.handler,Vd,Vb] R bl/\wx.ownsRow t2 3 1 (.slice oa on oc) on ((obs p.data R ((bl.take k).flatMap (·.ops)++b.ops.take j)).map zN)/\Below t2 Y wx)) (fun _ jv _=>b.ops.length-(intOf jv).toNat)
    case atStart=>exact⟨0,oa,on,oc,Jt _,rfl,rfl,Ja ⟨by rw[Uc,Ua];exact d.out.2.2.2,HY.out.1,by rw[Uc,Ua];exact HY.out.2.1,Below.refl _ _⟩⟩
    case round=>
     obtain⟨j,oa,on,oc,hj,rfl,rfl,HJ⟩:=hrel
     by_cases g:j<b.ops.length
     ·have b3:(j:Int)<(b.ops.length:Int):=Zo;obtain⟨o,ho⟩:∃o,b.ops[j]? =some o:=⟨_,Jd g⟩
      obtain⟨qb,qo,h8,f5,e0,e1,e2,e3,e4,h64,av,e5,g2⟩:=(HY.out.2.2.2.below xA (HJ.out.2.2.2.mono k2.out)).get ho;obtain⟨aa,ac,rfl,_,_⟩:=g2.form;subst h8;have a4:B<=wr.heap.size:=(HG.out wr HJ.out.2.1.below).2.2.1;have k3:qb<wr.heap.size:=Jy f5 a4;obtain⟨c,hc⟩:∃c,o.code=c:=⟨_,rfl⟩
      obtain⟨y,hy⟩:∃y,o.a=y:=⟨_,rfl⟩
      rw[hc] at e0;rw[hy] at e2;obtain⟨Z,hZ⟩:∃Z,wr.alloc (I #[U c,U o.res,U y,U o.b,.int .u16 (o.n:Int),.slice aa o.args.length ac] 76)=Z:=⟨_,rfl⟩
      have b8:N wr Z:=by rw[<-hZ];exact(Below.refl _ _).alloc (Je _) _
      have c7:O Z wr.heap.size #[U c,U o.res,U y,U o.b,.int .u16 (o.n:Int),.slice aa o.args.length ac] 76:=by rw[<-hZ];exact zI rfl
      have l:=Ja (show ObS w Z t2 rb #[.slice (some ⟨gb,go,none⟩) p.funcs.length f2,Va,U p.entry,U p.handler,Vd,Vb] R bl/\Z.ownsRow t2 3 1 (.slice oa on oc) on ((obs p.data R ((bl.take k).flatMap (·.ops)++b.ops.take j)).map zN)/\O Z wr.heap.size #[U c,U o.res,U y,U o.b,.int .u16 (o.n:Int),.slice aa o.args.length ac] 76/\Below t2 Y Z from⟨HJ.out.2.1.keep b8,p7 HJ.out.2.2.1 b8 (Je _),c7,HJ.out.2.2.2.trans (b8.mono HJ.out.2.1.lt)⟩)
      have k7:on<=4000000000000:=by
       have h1:=HJ.out.1;have h2:=obs_le p.data R ((bl.take k).flatMap (·.ops)++b.ops.take j);have h3:=ai9 (bl.take k) fun x hx=>(HF.out.2.2.2 x (List.mem_of_mem_take hx)).2.1
       rw[Jk,Oc] at h2;rw[Oc] at h3;have h4:=d.out.2.2.1;omega
      have HO:=Ja (Jb ho (Jb hc (Jb hy (Jb g HJ.out.1))));clear ho h64 g2 b8 c7 g f5 a4;go_upto_region 11 with fail;clear hZ e0 e1 e2 e3 e4 e5 hc hy;obtain⟨b4,d2⟩:∃t,wr.heap.size=t:=⟨_,rfl⟩
      rw[d2] at l ⊢;clear d2;have z0:A Z b4 0 (U c):=zA l.out.2.2.1 rfl
      by_cases a3:c=18∨c=19∨c=20∨c=21
      ·have a2:lx o=true:=by rw[ahS,HO.out.2.1];exact decide_eq_true a3
       have c8:=acc_use (HF.out.1 d.out.2.1) d.out.1 (Ji HO.out.1) a2;rw[HF.out.2.1,HO.out.2.2.1] at c8;obtain⟨yn,rfl⟩:∃yn:Nat,y=yn:=⟨y.toNat,by omega⟩
       have b5:yn<R.length:=by have:=c8.2;rw[Ni] at this;exact this
       obtain⟨rfl,rfl,rfl⟩:=j2.out d.out.2.1
       have n0:R.length<=65536:=by
        have h1:=(ae4 (HF.out.1 d.out.2.1)).2;rw[HF.out.2.1] at h1;have h2:=(HF.out.1 d.out.2.1).cnt;omega
       obtain⟨a,ha⟩:∃a,R.getD yn ⟨0,0⟩=a:=⟨_,rfl⟩
       have d8:a.ok:=by
        have h1:=(ae4 (HF.out.1 d.out.2.1)).1;rw[HF.out.2.1] at h1;refine h1 a ?_;rw[<-ha,Jj,Jd b5];exact Uf b5
       obtain⟨z,hz⟩:∃z,ahA p.data R o=z:=⟨_,rfl⟩
       have e7:∀n,aik o=n->ae8 p.data 0 a n=z:=fun n hn=>by rw[<-hz,<-ha,<-hn];unfold ahA;rw[HO.out.2.2.1,Ni]
       have a6:obs p.data R ((bl.take k).flatMap (·.ops)++b.ops.take (j+1))=obs p.data R ((bl.take k).flatMap (·.ops)++b.ops.take j)++ [z]:=by
        rw[afk HO.out.1,<-Nv,aha a2,hz]
       have HA:=Ja (Jb a6 (Jb d8 (Jb e7 (Jb a2 ha))));have hrl:=lt_of_block (l.out.1.row d.out.2.1);clear c8 ha d8 hz e7 a6 a2
       have i2:((c==18)=true/\aik o=2)∨((c==18)=false/\(c==20)=true/\aik o=2)∨((c==18)=false/\(c==20)=false/\(c==19)=true/\aik o=1)∨((c==18)=false/\(c==20)=false/\(c==19)=false/\(c==21)=true/\aik o=1):=by
        unfold aik;rw[HO.out.2.1];rcases a3 with rfl|rfl|rfl|rfl
        ·exact .inl ⟨rfl,rfl⟩
        ·exact .inr (.inr (.inl ⟨rfl,rfl,rfl,rfl⟩))
        ·exact .inr (.inl ⟨rfl,rfl,rfl⟩)
        ·exact .inr (.inr (.inr ⟨rfl,rfl,rfl,rfl,rfl⟩))
       clear a3;rcases i2 with⟨c5,a0⟩|⟨c5,e6,a0⟩|⟨c5,e6,h6,a0⟩|⟨c5,e6,h6,l1,a0⟩
       all_goals (
        have HS:=Ja (show ∀w',ObT w w' t2 rb #[.slice (some ⟨gb,go,none⟩) p.funcs.length f2,Va,U p.entry,U p.handler,Vd,Vb] R bl b4 #[U c,U o.res,U yn,U o.b,.int .u16 (o.n:Int),.slice aa o.args.length ac]->(A w' t2 0 (.slice (some ⟨gb,go,none⟩) p.funcs.length f2)/\A w' t2 1 Va/\A w' t2 2 (U p.entry)/\A w' t2 3 (U p.handler)/\A w' t2 4 Vd/\A w' t2 5 Vb)/\A w' b4 2 (U yn)/\A w' rb (yn*2) (.int .u16 (a.lo:Int))/\A w' rb (yn*2+1) (.int .u16 (a.hi:Int)) from fun W h=>⟨⟨zA h.s.p2 rfl,zA h.s.p2 rfl,zA h.s.p2 rfl,zA h.s.p2 rfl,zA h.s.p2 rfl,zA h.s.p2 rfl⟩,zA h.op rfl,by rw[<-HA.out.2.2.2.2];exact(h.s.rcell d.out.2.1 b5).1,by rw[<-HA.out.2.2.2.2];exact(h.s.rcell d.out.2.1 b5).2⟩)
        have k0:=Ja (show ∀n W,aik o=n->Below t2 w W->G 43 #[.agg #[.slice (some ⟨gb,go,none⟩) p.funcs.length f2,Va,U p.entry,U p.handler,Vd,Vb],.agg #[.int .u16 (a.lo:Int),.int .u16 (a.hi:Int)],U n] W (aeN W z) from fun n W hn hb=>by
         rw[<-HA.out.2.2.1 n hn];exact HC.out.2.2 a n W hb HA.out.2.1 (by rw[<-hn];unfold aik;split<;>decide))
        have j1:=Ja a0;clear a0
        first|go_upto_region 14 with fail|go_upto_region 17 with fail
        clear z0;refine wp_region_noPanic ?_;refine yQ (S:=(fun w'=>(A w' t2 0 (.slice (some ⟨gb,go,none⟩) p.funcs.length f2)/\A w' t2 1 Va/\A w' t2 2 (U p.entry)/\A w' t2 3 (U p.handler)/\A w' t2 4 Vd/\A w' t2 5 Vb)/\A w' b4 2 (U yn)/\A w' rb (yn*2) (.int .u16 (a.lo:Int))/\A w' rb (yn*2+1) (.int .u16 (a.hi:Int)))) 10 Zk (HS.out _ ⟨l.out.1.drew,l.out.2.2.1⟩) (fun hHeld=>?_);refine Tl 0 ?_
        try simp only[Yp]
        refine Tl 1 ?_
        try simp only[Yp]
        refine Tl 2 ?_
        try simp only[Yp]
        refine Tl 3 ?_
        try simp only[Yp]
        refine Tl 4 ?_
        try simp only[Yp]
        refine Tl 5 ?_
        try simp only[Yp]
        refine Tl 6 ?_
        try simp only[Yp]
        refine z8 (rs:=[7]) Zk Zs ?_;refine zS.cons (o:=_) rfl (fun K hK=>?_) ?_
        ·skip
         (go_simp;refine(k0.out _ _ j1.out l.out.1.below.drew).mono ?_;rintro e w5 ⟨rfl,f9⟩;have b1:N Z w5:=(Below.refl Z.heap.size Z).drew.trans f9;clear f9;have H5:=Ja (Jb (ObT.keep ⟨l.out.1,l.out.2.2.1⟩ b1) (Jb (p7 l.out.2.1 b1 (Je _)) (Jb b1 (show t2<=(w5.alloc (I #[U z] 3)).heap.size by have:=l.out.1.lt;have:=b1.size;simp;omega))));clear b1)
         refine hK.out _ _ (HS.out _ H5.out.1) (fun hHeld=>?_);clear hK K
         try simp only[Yp]
         refine z8 (rs:=[8]) Zk Zs ?_;refine zS.cons (o:=_) rfl (fun K hK=>?_) ?_
         ·skip
          go_simp;refine hK.out _ _ (HS.out _ (H5.out.1.keep ((Below.refl _ _).alloc (Je _) _))) (fun hHeld=>?_);clear hK K
          try simp only[Yp]
          refine z8 (rs:=[9]) Zk Zs ?_;refine zS.cons (o:=_) rfl (fun K hK=>?_) ?_
          ·skip
           (refine yG (by rfl) _ _ _ (by rfl) t2 3 ii (U 0) 1 8 Tryz.underlying22 i1 g9 g8 g6 rfl Zo (.slice oa on oc) on ((obs p.data R ((bl.take k).flatMap (·.ops)++b.ops.take j)).map zN) (by rfl) (H5.out.2.1.alloc _) (F w5.heap.size 1 1) 1 [U z] (by rfl) (yM.one (zI rfl) rfl) (by unfold maxLen;omega) Zo H5.out.2.2.2 ?_;intro va9 vc9 w9 b6 a1 h5;(try dsimp only))
           refine hK.out _ _ (HS.out _ ((H5.out.1.keep ((Below.refl _ _).alloc (Je _) _)).grown (H5.out.2.1.alloc _) a1)) (fun hHeld=>?_);clear hK K
           try simp only[Yp]
           refine z8 (rs:=[10]) Zk Zs ?_;refine zS.last (o:=_) rfl (fun K hK=>?_);go_simp;refine hK.out _ _ ?_;clear hK K
           try simp only[Yp]
           refine xj Zk (NoPanic.normal ?_) _
           have d9:=Ja (show ObS w w9 t2 rb #[.slice (some ⟨gb,go,none⟩) p.funcs.length f2,Va,U p.entry,U p.handler,Vd,Vb] R bl/\w9.ownsRow t2 3 1 (.slice va9 (on+1) vc9) (on+1) ((obs p.data R ((bl.take k).flatMap (·.ops)++b.ops.take (j+1))).map zN)/\Below t2 Y w9 from by
            have h2:=(H5.out.1.s.keep ((Below.refl _ _).alloc (Je _) (I #[U z] 3))).grown (H5.out.2.1.alloc _) a1;have h4:Below t2 Y (w5.alloc (I #[U z] 3)):=(l.out.2.2.2.trans (H5.out.2.2.1.mono l.out.1.lt)).alloc H5.out.1.s.lt _
            exact⟨h2,by rw[HA.out.1,Js];exact b6,h4.grown a1 H5.out.2.2.2 (own_ge H5.out.2.1)⟩)
           clear b6 a1 h5 hHeld;go_wp2_with fail;go_roundw
           case rel=>exact⟨j+1,va9,on+1,vc9,HO.out.2.2.2.1,rfl,by go_num,Ja ⟨by rw[HA.out.1,Jk,<-HO.out.2.2.2.2];rfl,d9.out.1,d9.out.2.1,d9.out.2.2⟩⟩
           case measure=>have:=HO.out.2.2.2.1;simp[intOf];omega
          exact zS.nil
         exact zS.nil
        exact zS.nil)
      ·have a2:lx o=false:=by rw[ahS,HO.out.2.1];exact decide_eq_false a3
       have a6:obs p.data R ((bl.take k).flatMap (·.ops)++b.ops.take (j+1))=obs p.data R ((bl.take k).flatMap (·.ops)++b.ops.take j):=by
        rw[afk HO.out.1,<-Nv,ahx a2]
       have HA:=Ja a6;have n5:(c==18)=false:=Ze;have n4:(c==19)=false:=Ze;have n3:(c==20)=false:=Ze;have n2:(c==21)=false:=Ze;clear a6 a2 a3;go_wp2;go_roundw
       case rel=>exact⟨j+1,oa,on,oc,HO.out.2.2.2.1,rfl,by go_num,Ja ⟨by rw[HA.out];exact HO.out.2.2.2.2,l.out.1,by rw[HA.out];exact l.out.2.1,l.out.2.2.2⟩⟩
       case measure=>have:=HO.out.2.2.2.1;simp[intOf];omega
     ·obtain rfl:j=b.ops.length:=by omega
      have b3:¬(b.ops.length:Int)<(b.ops.length:Int):=Zo;clear hj g;go_wp2;go_roundw
      case rel=>exact⟨k+1,oa,on,oc,d.out.2.2.1,rfl,by go_num,Ja ⟨by rw[agT d.out.1];have:=HJ.out.1;rw[Nl] at this;exact this,HJ.out.2.1,by rw[agT d.out.1];have:=HJ.out.2.2.1;rw[Nl] at this;exact this⟩⟩
      case measure=>have:=d.out.2.2.1;simp[intOf];omega
   ·obtain rfl:k=bl.length:=by omega
    have b3:¬(bl.length:Int)<(bl.length:Int):=Zo;have HE:=Ja (show aeH p.data (vp p bl) bl=obs p.data R ((bl.take bl.length).flatMap (·.ops)) by rw[HF.out.2.1,Nl];rfl);clear hk g;go_wp2;go_ret;refine⟨_,rfl,?_,by rw[HT.out];exact HK.out.2.1.below⟩;rw[HE.out,<-HK.out.1,HT.out];exact HK.out.2.2
theorem afX:vC (ahn 19)=0:=by decide+kernel
theorem ahD:vC (ahn 18)=0:=by decide+kernel
theorem exm_r19:vp (ahn 19) (ajn 19)=[⟨0,65535⟩,⟨15,15⟩,⟨0,15⟩,⟨16384,16384⟩,⟨16384,16399⟩,⟨0,255⟩]:=by kernel_rfl
theorem exm_o19:aeH (ahn 19).data (vp (ahn 19) (ajn 19)) (ajn 19)=[0]:=by kernel_rfl
theorem exm_o18:aeH (ahn 18).data (vp (ahn 18) (ajn 18)) (ajn 18)=[-1]:=by kernel_rfl
theorem agW (a:Int):∀f∈(ahn a).funcs,vZ f:=by
 intro f hf;simp only[ahn,Jq,List.not_mem_nil,or_false] at hf;rcases hf with rfl|rfl
 ·exact⟨by decide,fun b hb=>by simp only[mainL,Jo] at hb;subst hb;exact⟨by decide,by decide,by decide⟩⟩
 ·exact⟨by show(1:Nat)<=_;omega,fun b hb=>by simp only[ajn,Jo] at hb;subst hb;exact⟨by show(1:Nat)<=_;omega,by show(5:Nat)<=_;omega,by show(0:Nat)<=_;omega⟩⟩
theorem own_one1{base:Nat}{v:Value}{z:Int}(h:w.ownsRow base 3 1 v 1 [U z]):∃g cap cur,v=F g 1 cap/\1<=cap/\O w g cur 3/\cur[0]? =some (U z):=by
 rcases h.2 with⟨_,e⟩|⟨g,cap,cur,rfl,hg,d,h1,h2,h3,i⟩
 ·omega
 ·refine⟨g,cap,cur,rfl,h1,d,?_⟩;have c:(cur.toList.take (1*1))[0]? =some (U z):=by rw[i];rfl
  rw[List.getElem?_take_of_lt Zo] at c
  simpa using c
theorem ais(hp:ProgIn w w.heap.size ⟨.slice f1 2 f2,.slice a1 2 a2,.slice d1 1 d2,.slice b1 0 b2⟩ (ahn 19)):
 G 15 #[.agg #[.slice f1 2 f2,.slice a1 2 a2,U 0,U (-1),.slice d1 1 d2,.slice b1 0 b2],U 1] w (fun e w'=>∃b,e=.returned (F b 6 6)/\O w' b #[Y 0,Y 65535,Y 15,Y 15,Y 0,Y 15,Y 16384,Y 16384,Y 16384,Y 16399,Y 0,Y 255] 45/\N w w'):=by
 refine(af4 (f:=1) (bl:=ajn 19) hp (Je _) (agW 19) afX rfl (fun h=>by cases h)).mono ?_;rintro e w' ⟨b,rfl,h1,h2,h3⟩;rw[exm_r19] at h1 ⊢;exact⟨b,rfl,h1,h3⟩
theorem afS{a z:Int}(hv:vC (ahn a)=0)(ho:aeH (ahn a).data (vp (ahn a) (ajn a)) (ajn a)=[z])(hp:ProgIn w w.heap.size ⟨.slice f1 2 f2,.slice a1 2 a2,.slice d1 1 d2,.slice b1 0 b2⟩ (ahn a)):
 G 16 #[.agg #[.slice f1 2 f2,.slice a1 2 a2,U 0,U (-1),.slice d1 1 d2,.slice b1 0 b2],U 1] w (fun e w'=>∃g cap,e=.returned (F g 1 cap)/\A w' g 0 (U z)/\g<w'.heap.size/\1<=cap/\N w w'):=by
 refine(aiw (f:=1) (bl:=ajn a) hp (Je _) (agW a) hv rfl).mono ?_;rintro e w' ⟨v,rfl,h1,h2⟩;rw[ho] at h1;obtain⟨g,cap,cur,rfl,h3,c,d⟩:=own_one1 h1;exact⟨g,cap,rfl,zA c d,lt_of_block c,h3,h2⟩
theorem aeX (w:World)(a:Int)(c:I64 a):G 30 #[U a] w (fun e w'=>∃f1 f2 a1 a2 d1 d2 b1 b2,e=.returned (.agg #[.slice f1 2 f2,.slice a1 2 a2,U 0,U (-1),.slice d1 1 d2,.slice b1 0 b2])/\ProgIn w' w'.heap.size ⟨.slice f1 2 f2,.slice a1 2 a2,.slice d1 1 d2,.slice b1 0 b2⟩ (ahn a)/\N w w'):=
 (aht w a c).mono fun e w' h=>h.open
theorem ah7 (w:World):G 11 #[] w fun e w'=>e=.returned (.bool true)/\N w w':=by
 go_enter Tryz.func11,Tryz.ntmps11
 go_upto_region 2 with(first
  |(go_at_call 30;go_must (refine(aeX _ 19 ⟨by decide,by decide⟩).mono ?_;rintro e w1 ⟨f1,f2,a1,a2,d1,d2,b1,b2,rfl,a0,o⟩))
  |(go_at_call 15;go_must (refine(ais a0).mono ?_;rintro e w2 ⟨rb,rfl,u,a5⟩)))
 have t:=Ja (Jb u (o.trans (a5.mono o.size)));clear u o a5 a0
 go_upto_region 3 with(first
  |(go_at_call 30;go_must (refine(aeX _ 19 ⟨by decide,by decide⟩).mono ?_;rintro e w3 ⟨f1,f2,a1,a2,d1,d2,b1,b2,rfl,y,m⟩))
  |(go_at_call 16;go_must (refine(afS afX exm_o19 y).mono ?_;rintro e w4 ⟨g4,c4,rfl,k,j,b3,a4⟩)))
 have g:=m.trans (a4.mono m.size);have h:=Ja (Jb (zH g t.out.1 (lt_of_block t.out.1)) (Jb (t.out.2.trans (g.mono t.out.2.size)) (Jb k j)));clear m a4 y g k j
 go_upto_region 4 with(first
  |(go_at_call 30;go_must (refine(aeX _ 18 ⟨by decide,by decide⟩).mono ?_;rintro e w5 ⟨f1,f2,a1,a2,d1,d2,b1,b2,rfl,x,l⟩))
  |(go_at_call 16;go_must (refine(afS ahD exm_o18 x).mono ?_;rintro e w6 ⟨g6,c6,rfl,b4,a8,b0,a3⟩)))
 have d:=l.trans (a3.mono l.size);have c:=zH d h.out.1 (lt_of_block h.out.1);have H6:=Ja (h.out.2.1.trans (d.mono h.out.2.1.size));have k:=(d.cell (p:=⟨g4,0,none⟩) h.out.2.2.2).trans h.out.2.2.1;have j:=Jy h.out.2.2.2 d.size;have x0:=zA (i:=2*2) c rfl;have x1:=zA (i:=2*2+1) c rfl;have x2:=zA (i:=4*2) c rfl;have x3:=zA (i:=4*2+1) c rfl;have x4:=zA (i:=4) c rfl;have x5:=zA (i:=5) c rfl;have x6:=zA (i:=8) c rfl;have x7:=zA (i:=9) c rfl;have a6:=lt_of_block c;clear d l a3 x c;go_wp2;go_ret;exact⟨rfl,H6.out⟩
open Classical in
noncomputable def rgsP (p:IProg) (f:Int):List Rg:=if askR p f then vp p (p.funcs.getD f.toNat []) else []
open Classical in
noncomputable def objP (p:IProg) (f:Int):List Int:=if vC p=0/\0<=f/\f.toNat<p.funcs.length then aeH p.data (vp p (p.funcs.getD f.toNat [])) (p.funcs.getD f.toNat []) else []
def ahN (w:World)(R:List Rg)(e:Ending)(w':World):Prop:=∃ra:Option Addr,e=.returned (.slice ra R.length R.length)/\(R≠ []->∃b,ra=some ⟨b,0,none⟩/\O w' b (R.flatMap ro).toArray 45/\w.heap.size<=b)/\N w w'
theorem aii {p:IProg}{f:Int}(h:0<=f/\f.toNat<p.funcs.length):p.funcs[f.toNat]? =some (p.funcs.getD f.toNat []):=by
 rw[Jj,Jd h.2];rfl
theorem aft{B:Nat}{V:PV}{p:IProg}(hp:ProgIn w B V p)(hB:B<=w.heap.size)(hs:∀f∈p.funcs,vZ f)(f:Int):
 G 15 #[yH V p,U f] w (ahN w (rgsP p f)):=by
 unfold rgsP
 by_cases h:askR p f
 ·rw[if_pos h];obtain⟨hv,hr,c⟩:=h;have:=af4 hp hB hs hv (aii hr) c;rw[Oa hr.1] at this;refine this.mono ?_;rintro e w' ⟨b,rfl,h1,h2,h3⟩;exact⟨_,rfl,fun _=>⟨b,rfl,h1,h2⟩,h3⟩
 ·rw[if_neg h];refine(aiZ hp hB hs f h).mono ?_;rintro e w' ⟨rfl,hb⟩;exact⟨none,rfl,fun h=>absurd rfl h,hb⟩
theorem agz{p:IProg}{n:Nat}(hv:vC p=0)(c:p.funcs[n]? =some bl)(d:bl≠ []):rgsP p (n:Int)=vp p bl:=by
 have hg:p.funcs.getD n []=bl:=by rw[Jj,c];rfl
 unfold rgsP;rw[Ni,hg,if_pos ⟨hv,⟨by omega,by rw[Ni];exact(Jh.1 c).1⟩,by rw[Ni,hg];exact d⟩]
theorem agC{p:IProg}{n:Nat}(hv:vC p=0)(hs:∀f∈p.funcs,vZ f)(h64:P64 p)(c:p.funcs[n]? =some bl):((rgsP p (n:Int)).length:Int)=aaG bl:=by
 by_cases d:bl=[]
 ·subst d;have hg:p.funcs.getD n []=[]:=by rw[Jj,c];rfl
  unfold rgsP;rw[if_neg (fun h=>h.2.2 (by rw[Ni];exact hg))];rfl
 ·have g:=agq hv hs h64 c d;rw[agz hv c d,(ae4 g).2];have:=g.cnt;omega
theorem ajp{p:IProg}{n:Nat}(hv:vC p=0)(c:p.funcs[n]? =some bl):objP p (n:Int)=aeH p.data (vp p bl) bl:=by
 have hg:p.funcs.getD n []=bl:=by rw[Jj,c];rfl
 unfold objP;rw[if_pos ⟨hv,by omega,by rw[Ni];exact(Jh.1 c).1⟩,Ni,hg]
end Go.Proofs.YtoahcpkibpomcaaGreat
