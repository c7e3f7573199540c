/- Part of a proof. -/
import Derived.Test.YtojclalkfhoooaaGVs
set_option linter.all false
set_option maxHeartbeats 16000000
set_option maxRecDepth 100000
namespace Go.Proofs.Ytojclalkfhoooaa
open Go.RowKit
variable {W w w0 w2:World}{u0 u1 u2 u3 u4 u5:Value}{aa fa oa:Option Addr}{ac bc dc fc g j oc:Nat}{vs:List Value}{l:List (Nat×Nat)}{R:IRun}
def TuRet2 (w:World)(p:IProg)(e:Ending)(w':World):Prop:=∃(fa:Option Addr) (fc:Nat) (aa:Option Addr) (ac:Nat) (da:Option Addr) (dc:Nat) (ba:Option Addr) (bc:Nat),e=.returned (.agg (P p fa fc aa ac da dc ba bc))/\
 (∀U,StaysL w.heap.size w' U->ProgIn U U.heap.size ⟨.slice fa p.funcs.length fc,.slice aa p.args.length ac,.slice da p.data.length dc,.slice ba p.banks.length bc⟩ p)/\L w w'
theorem kU{V:PV}{p:IProg}(hp:ProgIn w w.heap.size V p)(hs:SmallP p){q0 q1 q2:Int}(hq:I64 q0/\I64 q1/\I64 q2):
 G 19 #[yH V p,.agg #[O q0,O q1,O q2]] w (TuRet2 w (wR p q0 q1 q2)):=by
 have h64:=turn_64 hp.p64 q0 q1 q2;refine(lO hp hs hq).mono ?_;generalize wR p q0 q1 q2=p' at *;rintro e w' ⟨t,rfl,d,hr,hb⟩;subst d;obtain⟨fa,fc,h1,_,_⟩:=(PT.in hr h64).funcs.form;obtain⟨aa,ac,h2,_,_⟩:=(PT.in hr h64).args.form;obtain⟨da,dc,h3,_,_⟩:=(PT.in hr h64).data.form;obtain⟨ba,bc,c,_,_⟩:=(PT.in hr h64).banks.form;refine⟨fa,fc,aa,ac,da,dc,ba,bc,?_,fun U hU=>?_,hb⟩
 ·unfold yH;rw[h1,h2,h3,c]
 ·have:=PT.in (hr.keep (w':=U) fun k hk=>hU.kept k (hr.lt hk).1 (hr.lt hk).2) h64;rw[<-h1,<-h2,<-h3,<-c];exact this
theorem StaysL.alloc{L:Nat}(h:StaysL L w W)(o:Obj):StaysL L w (W.alloc o):=
 ⟨by simp;exact Nat.le_succ_of_le h.size,h.rest,fun k h1 h2=>(Below.heap_alloc _ _ k (Jy h2 h.size)).trans (h.kept k h1 h2)⟩
theorem sets6{b:Nat}{t:TypeId}(v0 v1 v2 v3 v4 v5:Value)(h:Y w b #[u0,u1,u2,u3,u4,u5] t):
 Y ((((((w.setCell ⟨b,0,none⟩ v0).setCell ⟨b,1,none⟩ v1).setCell ⟨b,2,none⟩ v2).setCell ⟨b,3,none⟩ v3).setCell ⟨b,4,none⟩ v4).setCell ⟨b,5,none⟩ v5) b #[v0,v1,v2,v3,v4,v5] t:=by
 have g:=zD h v0 (i:=0);have h1:=zD g v1 (i:=1);have h2:=zD h1 v2 (i:=2);have h3:=zD h2 v3 (i:=3);have d:=zD h3 v4 (i:=4);have c:=zD d v5 (i:=5)
 simpa using c
def jL (w0:World)(p:IProg)(v:Value)(wx:World):Prop:=∃(b8:Nat) (fa:Option Addr) (fc:Nat) (aa:Option Addr) (ac:Nat) (da:Option Addr) (dc:Nat) (ba:Option Addr) (bc:Nat),v=I b8/\Hid (w0.heap.size<=b8/\Y wx b8 (P p fa fc aa ac da dc ba bc) 29/\ProgIn wx wx.heap.size ⟨.slice fa p.funcs.length fc,.slice aa p.args.length ac,.slice da p.data.length dc,.slice ba p.banks.length bc⟩ p/\L w0 wx)
theorem kD{L:Nat}{p:IProg}{da ba:Option Addr}(c:Below w0.heap.size w0 w2)(hp:∀U,StaysL L w2 U->ProgIn U U.heap.size ⟨.slice fa p.funcs.length fc,.slice aa p.args.length ac,.slice da p.data.length dc,.slice ba p.banks.length bc⟩ p):
 jL w0 p (I w2.heap.size) (w2.alloc (A (P p fa fc aa ac da dc ba bc) 29)):=
 ⟨_,fa,fc,aa,ac,da,dc,ba,bc,rfl,Ja ⟨c.size,zI rfl,hp _ ((StaysL.refl _ _).alloc _),c.alloc c.size _⟩⟩
theorem qx{L b8:Nat}{p:IProg}{da ba:Option Addr}(d:Below w0.heap.size w0 w2)(hp:∀U,StaysL L w2 U->ProgIn U U.heap.size ⟨.slice fa p.funcs.length fc,.slice aa p.args.length ac,.slice da p.data.length dc,.slice ba p.banks.length bc⟩ p)
 (h:Y w2 b8 #[u0,u1,u2,u3,u4,u5] 29) (g:b8<L) (c:w0.heap.size<=b8):
 jL w0 p (I b8) ((((((w2.setCell ⟨b8,0,none⟩ (.slice fa p.funcs.length fc)).setCell ⟨b8,1,none⟩ (.slice aa p.args.length ac)).setCell ⟨b8,2,none⟩ (O p.entry)).setCell ⟨b8,3,none⟩ (O p.handler)).setCell ⟨b8,4,none⟩ (.slice da p.data.length dc)).setCell ⟨b8,5,none⟩ (.slice ba p.banks.length bc)):=
 ⟨_,fa,fc,aa,ac,da,dc,ba,bc,rfl,Ja ⟨c,sets6 _ _ _ _ _ _ h,hp _ (pJ (o:=0) (vs:=[.slice fa p.funcs.length fc,.slice aa p.args.length ac,O p.entry,O p.handler,.slice da p.data.length dc,.slice ba p.banks.length bc]) g),d.trans ((qu w2 b8 0 [.slice fa p.funcs.length fc,.slice aa p.args.length ac,O p.entry,O p.handler,.slice da p.data.length dc,.slice ba p.banks.length bc]).mono c)⟩⟩
def adV (R:IRun)(oa:Option Addr)(oc:Nat):Array Value:=#[U (R.value:Int),.slice oa R.out.length oc,O (R.kind:Int),U (R.info:Int),.string (y9 R.ram),O (R.inputs:Int),O (R.polls:Int)]
def fy (w0:World)(R:IRun)(v:Value)(wx:World):Prop:=∃(b:Nat) (oa:Option Addr) (oc:Nat),v=I b/\Hid (w0.heap.size<=b/\Y wx b (adV R oa oc) 57/\vM wx wx.heap.size (.slice oa R.out.length oc) R.out/\L w0 wx)
theorem sets7{b:Nat}{u6:Value}{t:TypeId}(v0 v1 v2 v3 v4 v5 v6:Value)(h:Y w b #[u0,u1,u2,u3,u4,u5,u6] t):
 Y (((((((w.setCell ⟨b,0,none⟩ v0).setCell ⟨b,1,none⟩ v1).setCell ⟨b,2,none⟩ v2).setCell ⟨b,3,none⟩ v3).setCell ⟨b,4,none⟩ v4).setCell ⟨b,5,none⟩ v5).setCell ⟨b,6,none⟩ v6) b #[v0,v1,v2,v3,v4,v5,v6] t:=by
 have j:=zD h v0 (i:=0);have h1:=zD j v1 (i:=1);have h2:=zD h1 v2 (i:=2);have h3:=zD h2 v3 (i:=3);have g:=zD h3 v4 (i:=4);have d:=zD g v5 (i:=5);have c:=zD d v6 (i:=6)
 simpa using c
abbrev fN:Array Value:=#[U 0,F,O 0,U 0,.string ⟨#[]⟩,O 0,O 0]
theorem fO{B b q:Nat}{x:Nat×Nat}(h:Y w b fN 57):¬EvR w B b q x:=fun⟨h1,h2,_⟩=>by
 have c:∀i,w.cell? ⟨b,i,none⟩=fN[i]?:=fun i=>by
  cases hi:fN[i]? with
  |some v=>exact zA h hi
  |none=>simp[World.cell?,h,hi]
 rw[c] at h1 h2;simp only[fN] at h1 h2
 match q,h1,h2 with
 |0,_,h2=>simp at h2
 |1,h1,_=>simp at h1
 |2,h1,_=>simp at h1
 |3,_,h2=>simp at h2
 |4,h1,_=>simp at h1
 |5,h1,_=>simp at h1
 |6,h1,_=>simp at h1
 |q+7,h1,_=>simp at h1
theorem abJ{b b2 o:Nat}(c:b2≠b)(i:Nat):(w.setCells b o vs).cell? ⟨b2,i,none⟩=w.cell? ⟨b2,i,none⟩:=by
 unfold World.cell?;rw[show(w.setCells b o vs).heap[(⟨b2,i,none⟩:Addr).block]? =w.heap[(⟨b2,i,none⟩:Addr).block]? from ye b b2 c vs o w]
theorem ado{b:Nat}{ov:Value}(i:vM w2 w2.heap.size ov l)(h:Y w2 b fN 57):vM (w2.setCells b 0 vs) (w2.setCells b 0 vs).heap.size ov l:=by
 obtain⟨a,g,rfl,h1,h2,h3⟩:=i;refine⟨a,g,rfl,h1,h2,fun k x hk=>?_⟩;obtain⟨b2,o2,e2,d,hr⟩:=h3 k x hk;have c:b2≠b:=fun e=>by subst e;exact fO h hr
 exact⟨b2,o2,e2,by rw[y8];exact d,(abJ c _).trans hr.1,(abJ c _).trans hr.2.1,hr.2.2⟩
theorem adc{b:Nat}(d:L w0 w2)(g:vM w2 w2.heap.size (.slice oa R.out.length oc) R.out)
 (h:Y w2 b fN 57) (c:w0.heap.size<=b) (vs:List Value) (i:W=w2.setCells b 0 vs) (hs:Y W b (adV R oa oc) 57):
 fy w0 R (I b) W:=by
 subst i;exact⟨b,oa,oc,rfl,Ja ⟨c,hs,ado g h,d.trans ((qu w2 b 0 vs).mono c)⟩⟩
theorem gE{b:Nat}(c:L w0 w2)(d:vM w2 w2.heap.size (.slice oa R.out.length oc) R.out)
 (h:Y w2 b fN 57) (g:w0.heap.size<=b):
 fy w0 R (I b) (((((((w2.setCell ⟨b,0,none⟩ (U (R.value:Int))).setCell ⟨b,1,none⟩ (.slice oa R.out.length oc)).setCell ⟨b,2,none⟩ (O (R.kind:Int))).setCell ⟨b,3,none⟩ (U (R.info:Int))).setCell ⟨b,4,none⟩ (.string (y9 R.ram))).setCell ⟨b,5,none⟩ (O (R.inputs:Int))).setCell ⟨b,6,none⟩ (O (R.polls:Int))):=
 adc c d h g [U (R.value:Int),.slice oa R.out.length oc,O (R.kind:Int),U (R.info:Int),.string (y9 R.ram),O (R.inputs:Int),O (R.polls:Int)] rfl (sets7 _ _ _ _ _ _ _ h)
abbrev aZ (p:IProg)(fa:Option Addr)(fc:Nat)(aa:Option Addr)(ac:Nat)(da:Option Addr)(dc:Nat)(ba:Option Addr)(bc:Nat):Array Value:=P p fa fc aa ac da dc ba bc
structure PBx (W:World) (b:Nat) (p:IProg) (fa:Option Addr) (fc:Nat) (aa:Option Addr) (ac:Nat) (da:Option Addr) (dc:Nat) (ba:Option Addr) (bc:Nat):Prop where
 blk:W.heap[b]? =some (.cells (aZ p fa fc aa ac da dc ba bc) 29 (0,0))
 prog:ProgIn W W.heap.size ⟨.slice fa p.funcs.length fc,.slice aa p.args.length ac,.slice da p.data.length dc,.slice ba p.banks.length bc⟩ p
section
variable {W W':World} {b:Nat} {p:IProg} {fa aa da ba:Option Addr} {fc ac dc bc:Nat}
theorem PBx.below (h:PBx W b p fa fc aa ac da dc ba bc)(hb:L W W'):PBx W' b p fa fc aa ac da dc ba bc:=
 ⟨zH hb h.blk (lt_of_block h.blk),(h.prog.below hb).mono hb.size⟩
theorem PBx.new (h:ProgIn W W.heap.size ⟨.slice fa p.funcs.length fc,.slice aa p.args.length ac,.slice da p.data.length dc,.slice ba p.banks.length bc⟩ p):PBx (W.alloc (A (aZ p fa fc aa ac da dc ba bc) 29)) W.heap.size p fa fc aa ac da dc ba bc:=
 ⟨zI rfl,(h.below ((Below.refl _ _).alloc (Je _) _)).mono Zs⟩
theorem PBx.lt (h:PBx W b p fa fc aa ac da dc ba bc):b<W.heap.size:=lt_of_block h.blk
theorem PBx.c0 (h:PBx W b p fa fc aa ac da dc ba bc):T W b 0 (.slice fa p.funcs.length fc):=zA h.blk Zs
theorem PBx.c1 (h:PBx W b p fa fc aa ac da dc ba bc):T W b 1 (.slice aa p.args.length ac):=zA h.blk Zs
theorem PBx.c2 (h:PBx W b p fa fc aa ac da dc ba bc):T W b 2 (O p.entry):=zA h.blk Zs
theorem PBx.c3 (h:PBx W b p fa fc aa ac da dc ba bc):T W b 3 (O p.handler):=zA h.blk Zs
theorem PBx.c4 (h:PBx W b p fa fc aa ac da dc ba bc):T W b 4 (.slice da p.data.length dc):=zA h.blk Zs
theorem PBx.c5 (h:PBx W b p fa fc aa ac da dc ba bc):T W b 5 (.slice ba p.banks.length bc):=zA h.blk Zs
end
structure QBx (W:World) (b:Nat) (q0 q1 q2:Int):Prop where
 blk:W.heap[b]? =some (.cells #[.int .i64 q0,.int .i64 q1,.int .i64 q2] 23 (0,0))
section
variable {W W':World} {b:Nat} {q0 q1 q2:Int}
theorem QBx.below (h:QBx W b q0 q1 q2)(hb:L W W'):QBx W' b q0 q1 q2:=⟨zH hb h.blk (lt_of_block h.blk)⟩
theorem QBx.c0 (h:QBx W b q0 q1 q2):T W b 0 (O q0):=zA h.blk Zs
theorem QBx.c1 (h:QBx W b q0 q1 q2):T W b 1 (O q1):=zA h.blk Zs
theorem QBx.c2 (h:QBx W b q0 q1 q2):T W b 2 (O q2):=zA h.blk Zs
end
structure SBx (W:World) (b:Nat) (x:SetF) (sa:Option Addr) (sc:Nat) (qa:Option Addr) (qc:Nat):Prop where
 blk:W.heap[b]? =some (.cells #[.slice sa x.inn.length sc,.slice qa x.irq.length qc,.int .u32 (x.ram:Int),.int .u16 (x.fuel:Int)] 41 (0,0))
 set:SetIn W W.heap.size (.agg #[.slice sa x.inn.length sc,.slice qa x.irq.length qc,.int .u32 (x.ram:Int),.int .u16 (x.fuel:Int)]) x
section
variable {W W':World} {b:Nat} {x:SetF} {sa qa:Option Addr} {sc qc:Nat}
theorem SBx.below (h:SBx W b x sa sc qa qc)(hb:L W W'):SBx W' b x sa sc qa qc:=⟨zH hb h.blk (lt_of_block h.blk),(h.set.below hb).mono hb.size⟩
theorem SBx.c0 (h:SBx W b x sa sc qa qc):T W b 0 (.slice sa x.inn.length sc):=zA h.blk Zs
theorem SBx.c1 (h:SBx W b x sa sc qa qc):T W b 1 (.slice qa x.irq.length qc):=zA h.blk Zs
theorem SBx.c2 (h:SBx W b x sa sc qa qc):T W b 2 (.int .u32 (x.ram:Int)):=zA h.blk Zs
theorem SBx.c3 (h:SBx W b x sa sc qa qc):T W b 3 (U (x.fuel:Int)):=zA h.blk Zs
end
def TxP (p:IProg):Prop:=p.funcs.length<=20000/\∀f∈p.funcs,f.length<=20000/\∀b∈f,TxB b
theorem aeJ{p:IProg}{da ba ga ca ea r:Option Addr}{gc cc ec hc:Nat}(h1:ProgIn w w.heap.size ⟨.slice fa p.funcs.length fc,.slice aa p.args.length ac,.slice da p.data.length dc,.slice ba p.banks.length bc⟩ p)
 (h2:ProgIn w w.heap.size ⟨.slice ga p.funcs.length gc,.slice ca p.args.length cc,.slice ea p.data.length ec,.slice r p.banks.length hc⟩ p) (hT:TxP p):
 G 37 #[.agg (P p fa fc aa ac da dc ba bc),.agg (P p ga gc ca cc ea ec r hc)] w (ym w true):=by
 have d7:p.args.length<=9223372036854775807:=by obtain⟨_,_,e,h3,h4⟩:=h1.args.form;simp only[Value.slice.injEq] at e;omega
 have d6:p.data.length<=9223372036854775807:=by obtain⟨_,_,e,h3,h4⟩:=h1.data.form;simp only[Value.slice.injEq] at e;omega
 have c9:p.funcs.length<=9223372036854775807:=by have:=hT.1;omega
 have q:=(Below.refl w.heap.size w).alloc (Je _) (A (aZ p fa fc aa ac da dc ba bc) 29);have a6:=q.alloc q.size (A (aZ p ga gc ca cc ea ec r hc) 29);have a9:PBx (w.alloc (A (aZ p fa fc aa ac da dc ba bc) 29)) w.heap.size p fa fc aa ac da dc ba bc:=PBx.new h1;have a0:=a9.below ((Below.refl _ _).alloc (Je _) (A (aZ p ga gc ca cc ea ec r hc) 29))
 have a7:PBx ((w.alloc (A (aZ p fa fc aa ac da dc ba bc) 29)).alloc (A (aZ p ga gc ca cc ea ec r hc) 29)) (w.heap.size+1) p ga gc ca cc ea ec r hc:=by
  have:=PBx.new ((h2.below q).mono q.size)
  rwa [show(w.alloc (A (aZ p fa fc aa ac da dc ba bc) 29)).heap.size=w.heap.size+1 by simp] at this
 have c:=Ja (Jb a6 (Jb a0 a7));have HT:=Ja hT;clear h1 h2 hT q a6 a9 a0 a7;unfold aZ at c;go_enter Try.func37,Try.ntmps37;go_upto_region 1 with fail;generalize (w.alloc (A (P p fa fc aa ac da dc ba bc) 29)).alloc (A (P p ga gc ca cc ea ec r hc) 29)=X at *;have c0:=c.out.2.1.c0;have c1:=c.out.2.1.c1;have c2:=c.out.2.1.c2;have c3:=c.out.2.1.c3;have c4:=c.out.2.1.c4;have c5:=c.out.2.1.c5;have d0:=c.out.2.2.c0;have d1:=c.out.2.2.c1;have d2:=c.out.2.2.c2;have d3:=c.out.2.2.c3;have d4:=c.out.2.2.c4;have d5:=c.out.2.2.c5;have c8:=c.out.2.1.lt;have c7:=c.out.2.2.lt;go_wp2;clear c0 c1 c2 c3 c4 c5 d0 d1 d2 d3 d4 d5
 go_loopw [5] (fun kv wx=>∃k:Nat,k<=p.args.length/\kv=O k/\L X wx) (fun kv _=>p.args.length-(intOf kv).toNat)
 case atStart=>exact⟨0,Jt _,rfl,Below.refl _ _⟩
 case round=>
  obtain⟨k,hk,rfl,hb⟩:=hrel;have g1:=c.out.2.1.below hb;have g2:=c.out.2.2.below hb;have c1:=g1.c1;have d1:=g2.c1;have m:=g1.lt;have l:=g2.lt;have j:=Ja hb
  by_cases d:k<p.args.length
  ·obtain⟨x,h⟩:∃x,p.args[k]? =some x:=⟨_,Jd d⟩
   have o:(k:Int)<(p.args.length:Int):=Zo;obtain⟨b1,o1,e1,m1,x1,_⟩:=g1.prog.args.get h;obtain⟨b2,o2,e2,m2,x2,_⟩:=g2.prog.args.get h;rw[Nk] at x1 x2;subst e1 e2;have g:=Ja d;clear d h g1 g2 hb;go_wp2;go_quiet (fail);go_wp2;go_roundw
   case rel=>exact⟨k+1,g.out,by go_num,yC j.out⟩
   case measure=>have:=g.out;simp[intOf];omega
  ·obtain rfl:k=p.args.length:=by omega
   have o:¬(p.args.length:Int)<(p.args.length:Int):=Zo;clear d g1 g2 hb;go_wp2;clear c1 d1 m l
   go_loopw [6] (fun kv wx=>∃k:Nat,k<=p.data.length/\kv=O k/\L X wx) (fun kv _=>p.data.length-(intOf kv).toNat)
   case atStart=>exact⟨0,Jt _,rfl,j.out⟩
   case round=>
    clear j;obtain⟨k,hk,rfl,hb⟩:=hrel;have g1:=c.out.2.1.below hb;have g2:=c.out.2.2.below hb;have c4:=g1.c4;have d4:=g2.c4;have m:=g1.lt;have l:=g2.lt;have j:=Ja hb
    by_cases d:k<p.data.length
    ·obtain⟨x,h⟩:∃x,p.data[k]? =some x:=⟨_,Jd d⟩
     have o:(k:Int)<(p.data.length:Int):=Zo;obtain⟨b1,o1,e1,m1,x1,x2,x3,_⟩:=g1.prog.data.get h;obtain⟨b2,o2,e2,m2,y1,y2,y3,_⟩:=g2.prog.data.get h;subst e1 e2;have g:=Ja d;clear d h g1 g2 hb;go_wp2;go_quiet (fail);go_wp2;go_roundw
     case rel=>exact⟨k+1,g.out,by go_num,yC j.out⟩
     case measure=>have:=g.out;simp[intOf];omega
    ·obtain rfl:k=p.data.length:=by omega
     have o:¬(p.data.length:Int)<(p.data.length:Int):=Zo;clear d g1 g2 hb;go_wp2;clear c4 d4 m l
     go_loopw [7] (fun kv wx=>∃k:Nat,k<=p.funcs.length/\kv=O k/\L X wx) (fun kv _=>p.funcs.length-(intOf kv).toNat)
     case atStart=>exact⟨0,Jt _,rfl,j.out⟩
     case round=>
      clear j;obtain⟨k,hk,rfl,hb⟩:=hrel;have g1:=c.out.2.1.below hb;have g2:=c.out.2.2.below hb;have c0:=g1.c0;have d0:=g2.c0;have m:=g1.lt;have l:=g2.lt;have j:=Ja (c.out.1.trans (hb.mono c.out.1.size));have b4:=Ja hb
      by_cases d:k<p.funcs.length
      ·obtain⟨f,h⟩:∃x,p.funcs[k]? =some x:=⟨_,Jd d⟩
       have o:(k:Int)<(p.funcs.length:Int):=Zo;have i:=HT.out.2 f (Ji h);obtain⟨b1,o1,e1,m1,v1,x1,u⟩:=g1.prog.funcs.get h;obtain⟨b2,o2,e2,m2,v2,y1,t⟩:=g2.prog.funcs.get h;rw[Nk] at x1 y1;obtain⟨a1,k1,rfl,_,_⟩:=u.form;obtain⟨a2,k2,rfl,_,_⟩:=t.form;subst e1 e2;obtain⟨S,hS⟩:∃S,i5 f=S:=⟨_,rfl⟩
       have b3:=Ja (show ∀W,L wr W->G 58 #[.agg #[.slice a1 f.length k1]] W (fun e w'=>e=.returned (.string S)/\L W w') from fun W hbW=>by
        have:=be ((u.below yT hbW).mono yT hbW.size) i.2 i.1;rw[hS] at this
        exact this)
       have b0:=Ja (show ∀W,L wr W->G 58 #[.agg #[.slice a2 f.length k2]] W (fun e w'=>e=.returned (.string S)/\L W w') from fun W hbW=>by
        have:=be ((t.below yT hbW).mono yT hbW.size) i.2 i.1;rw[hS] at this
        exact this)
       have a3:f.length<=9223372036854775807:=by have:=i.1;omega
       obtain⟨fl,y⟩:∃n,f.length=n:=⟨_,rfl⟩
       rw[y] at b3 b0 x1 y1 a3;have HC:=Ja (show ∀W,L wr W->T W w.heap.size 0 (.slice (some ⟨b1,o1,none⟩) p.funcs.length fc)/\T W (w.heap.size+1) 0 (.slice (some ⟨b2,o2,none⟩) p.funcs.length gc)/\T W b1 (o1+k) (.slice a1 fl k1)/\T W b2 (o2+k) (.slice a2 fl k2) from fun W hbW=>⟨zV hbW m c0,zV hbW l d0,zV hbW m1 x1,zV hbW m2 y1⟩);have g:=Ja d;clear d h g1 g2 hb hS y i u t;go_upto_region 16 with fail
       go_cut [128] (fun v wx=>v=.bool false/\Hid (L wr wx))
       case first=>
        go_region_held3 (fun w'=>T w' w.heap.size 0 (.slice (some ⟨b1,o1,none⟩) p.funcs.length fc)/\T w' (w.heap.size+1) 0 (.slice (some ⟨b2,o2,none⟩) p.funcs.length gc)/\T w' b1 (o1+k) (.slice a1 fl k1)/\T w' b2 (o2+k) (.slice a2 fl k2)) ((refine HC.out _ ?_;repeat' (first|with_reducible exact Below.refl _ _|with_reducible assumption|with_reducible refine Below.drew ?_|with_reducible refine Below.alloc ?_ Zn _|with_reducible refine Below.setCell ?_ Zn _)))
         (first
           |(go_at_call 58;with_reducible refine(b3.out _ Zb).mono ?_;rintro e y1 ⟨rfl,a5⟩;have b6:Below wr.heap.size wr y1:=Below.trans Zb (a5.mono Zn);have b9:=b6.size;clear a5)
           |(go_at_call 58;with_reducible refine(b0.out _ Zb).mono ?_;rintro e y2 ⟨rfl,a4⟩;have b5:Below wr.heap.size wr y2:=Below.trans Zb (a4.mono Zn);have b8:=b5.size;clear a4))
        all_goals (go_wp2_with fail;go_meet;exact⟨by simp,Ja (by first|assumption|exact uG Zz)⟩)
       case rest=>
       obtain⟨rfl,b7⟩:=hcut;go_wp2;go_roundw
       case rel=>exact⟨k+1,g.out,by go_num,b4.out.trans (b7.out.mono b4.out.size)⟩
       case measure=>have:=g.out;simp[intOf];omega
      ·obtain rfl:k=p.funcs.length:=by omega
       have o:¬(p.funcs.length:Int)<(p.funcs.length:Int):=Zo;clear d g1 g2 hb;go_wp2;go_ret;exact⟨rfl,j.out⟩
def ux (B:Nat)(W:World)(R:IRun)(oa:Option Addr):Prop:=R.out=[]∨∃g cur,oa=some ⟨g,0,none⟩/\B<=g/\Y W g cur 87
def gw (w:World)(R:IRun)(e:Ending)(w':World):Prop:=
 ∃oa oc,e=.returned (.agg #[U (R.value:Int),.slice oa R.out.length oc,O (R.kind:Int),U (R.info:Int),.string (y9 R.ram),O (R.inputs:Int),O (R.polls:Int)])/\vM w' w'.heap.size (.slice oa R.out.length oc) R.out/\L w w'/\ux w.heap.size w' R oa
theorem og.open{e:Ending}{w':World}(h:og w R e w'):gw w R e w':=by
 obtain⟨ov,rfl,ho,hb,hf⟩:=h;obtain⟨oa,oc,rfl,_,_⟩:=ho.form;refine⟨oa,oc,rfl,ho,hb,?_⟩;rcases hf with hf|hf
 ·exact .inl hf
 ·cases c:R.out with
  |nil=>exact .inl c
  |cons x l=>
   obtain⟨_,h2⟩:=hf;rcases h2 with⟨_,d⟩|⟨g,j,cur,e1,h3,i,_⟩
   ·rw[c] at d;simp at d
   ·cases e1;exact .inr ⟨g,cur,rfl,h3,i⟩
theorem ux.mono{B C:Nat}(h:ux C W R oa)(hB:B<=C):ux B W R oa:=by
 rcases h with h|⟨g,cur,h1,h2,h3⟩
 ·exact .inl h
 ·exact .inr ⟨g,cur,h1,Jn hB h2,h3⟩
theorem ux.alloc{B:Nat}(h:ux B W R oa)(o:Obj):ux B (W.alloc o) R oa:=by
 rcases h with h|⟨g,cur,h1,h2,h3⟩
 ·exact .inl h
 ·exact .inr ⟨g,cur,h1,h2,zB h3⟩
def dp (w0:World)(R:IRun)(v:Value)(wx:World):Prop:=∃(b:Nat) (oa:Option Addr) (oc:Nat),v=I b/\Hid (w0.heap.size<=b/\Y wx b (adV R oa oc) 57/\vM wx wx.heap.size (.slice oa R.out.length oc) R.out/\L w0 wx/\ux w0.heap.size wx R oa)
theorem mb(c:L w0 w2)(d:vM w2 w2.heap.size (.slice oa R.out.length oc) R.out)(hf:ux w0.heap.size w2 R oa):dp w0 R (I w2.heap.size) (w2.alloc (A (adV R oa oc) 57)):=
 ⟨_,oa,oc,rfl,Ja ⟨c.size,zI rfl,(d.below vo ((Below.refl _ _).alloc (Je _) _)).mono vo Zs,c.alloc c.size _,hf.alloc _⟩⟩
theorem np{b:Nat}(k:L w0 w2)(i:vM w2 w2.heap.size (.slice oa R.out.length oc) R.out)(hf:ux w0.heap.size w2 R oa)
 (h:Y w2 b fN 57) (j:w0.heap.size<=b):
 dp w0 R (I b) (((((((w2.setCell ⟨b,0,none⟩ (U (R.value:Int))).setCell ⟨b,1,none⟩ (.slice oa R.out.length oc)).setCell ⟨b,2,none⟩ (O (R.kind:Int))).setCell ⟨b,3,none⟩ (U (R.info:Int))).setCell ⟨b,4,none⟩ (.string (y9 R.ram))).setCell ⟨b,5,none⟩ (O (R.inputs:Int))).setCell ⟨b,6,none⟩ (O (R.polls:Int))):=by
 obtain⟨b',oa',oc',e1,d⟩:=gE k i h j;cases e1;have hb:=d.out.2.1;have hs:=sets7 (U (R.value:Int)) (.slice oa R.out.length oc) (O (R.kind:Int)) (U (R.info:Int)) (.string (y9 R.ram)) (O (R.inputs:Int)) (O (R.polls:Int)) h;refine⟨b,oa,oc,rfl,Ja ⟨j,hs,?_,d.out.2.2.2,?_⟩⟩
 ·have:=ado (vs:=[U (R.value:Int),.slice oa R.out.length oc,O (R.kind:Int),U (R.info:Int),.string (y9 R.ram),O (R.inputs:Int),O (R.polls:Int)]) i h;exact this
 ·rcases hf with hf|⟨g,cur,h1,h2,h3⟩
  ·exact .inl hf
  ·refine .inr ⟨g,cur,h1,h2,?_⟩;have c:g≠b:=by rintro rfl;rw[h3] at h;simp at h
   have:=ye b g c [U (R.value:Int),.slice oa R.out.length oc,O (R.kind:Int),U (R.info:Int),.string (y9 R.ram),O (R.inputs:Int),O (R.polls:Int)] 0 w2;exact this.trans h3
def ky (W:World)(g n:Nat):Prop:=∃cur:Array Value,Y W g cur 87/\∀j,j<n->∃y:Nat,y<65536/\cur[j*2+1]? =some (U y)
theorem evBlk_of{cur:Array Value}(d:vM W W.heap.size (Q g l.length oc) l)(h:Y W g cur 87):ky W g l.length:=by
 refine⟨cur,h,fun j hj=>?_⟩;obtain⟨x,c⟩:∃x,l[j]? =some x:=⟨_,Jd hj⟩
 obtain⟨b,o,e1,_,_,h2,_,i⟩:=d.get c;cases e1;refine⟨x.2,i,?_⟩;have:W.cell? ⟨g,0+j*2+1,none⟩=cur[0+j*2+1]?:=by simp[World.cell?,h]
 rw[this,Ng] at h2;exact h2
theorem ky.set{n y:Nat}(h:ky W g n)(i:y<65536):ky (W.setCell ⟨g,j*2+1,none⟩ (U y)) g n:=by
 obtain⟨cur,h1,h2⟩:=h;refine⟨_,zD h1 _,fun k hk=>?_⟩;obtain⟨z,d,c⟩:=h2 k hk
 by_cases e:k=j
 ·subst e;have hl:k*2+1<cur.size:=(Array.getElem?_eq_some_iff.1 c).1;exact⟨y,i,by rw[Array.getElem?_setIfInBounds_self_of_lt hl]⟩
 ·exact⟨z,d,by rw[Array.getElem?_setIfInBounds_ne Zo];exact c⟩
theorem ky.get{n:Nat}(h:ky W g n)(d:j<n):∃y:Nat,y<65536/\T W g (j*2+1) (U y)/\N W g (j*2+1):=by
 obtain⟨cur,h1,h2⟩:=h;obtain⟨z,c,i⟩:=h2 j d;exact⟨z,c,zA h1 i,zE h1⟩
theorem SmP.tx {N:Nat}{p:IProg}(h:SmP N p)(d:N<=20000)(h64:P64 p):TxP p:=by
 refine⟨Jn h.fn d,fun f hf=>⟨Jn (h.fs f hf).1 d,fun b hb=>?_⟩⟩;have hs:=(h.fs f hf).2 b hb;have c:=h64.funcs f hf b hb;exact⟨⟨c.par,Jn hs.par d⟩,⟨fun o ho=>⟨⟨(c.ops o ho).1.1,(c.ops o ho).1.2.2.1,(c.ops o ho).1.2.2.2.1,(c.ops o ho).1.2.2.2.2⟩,(c.ops o ho).1.2.1,(c.ops o ho).2,Jn (hs.oarg o ho) d⟩,Jn hs.ops d⟩,⟨fun e he=>⟨(c.tos e he).1,(c.tos e he).2,Jn (hs.earg e he) d⟩,Jn hs.tos d⟩,c.term⟩
structure KpIn (W:World) (bs b8 b9:Nat) (p:IProg) (fa:Option Addr) (fc:Nat) (aa:Option Addr) (ac:Nat) (da:Option Addr) (dc:Nat) (ba:Option Addr) (bc:Nat) (ga:Option Addr) (gc:Nat) (ha:Option Addr) (hc:Nat) (ja:Option Addr) (jc:Nat) (ka:Option Addr) (kc:Nat) (x:SetF) (sa:Option Addr) (sc:Nat) (qa:Option Addr) (qc:Nat):Prop where
 set:SBx W bs x sa sc qa qc
 prog:PBx W b8 p fa fc aa ac da dc ba bc
 own:PBx W b9 p ga gc ha hc ja jc ka kc
structure TpIn (W:World) (b10:Nat) (I Q:List Nat) (ia:Option Addr) (ic:Nat) (ua:Option Addr) (uc:Nat):Prop where
 blk:W.heap[b10]? =some (.cells #[.slice ia I.length ic,.slice ua Q.length uc] 61 (0,0))
 inn:wV W W.heap.size (.slice ia I.length ic) I
 irq:dL W W.heap.size (.slice ua Q.length uc) Q
section
variable {W W':World} {bs b8 b9 b10:Nat} {p:IProg} {fa aa da ba ga ha ja ka sa qa ia ua:Option Addr} {fc ac dc bc gc hc jc kc sc qc ic uc:Nat} {x:SetF} {I Q:List Nat}
theorem KpIn.below (h:KpIn W bs b8 b9 p fa fc aa ac da dc ba bc ga gc ha hc ja jc ka kc x sa sc qa qc)(hb:L W W'):KpIn W' bs b8 b9 p fa fc aa ac da dc ba bc ga gc ha hc ja jc ka kc x sa sc qa qc:=
 ⟨h.set.below hb,h.prog.below hb,h.own.below hb⟩
theorem TpIn.below (h:TpIn W b10 I Q ia ic ua uc)(hb:L W W'):TpIn W' b10 I Q ia ic ua uc:=
 ⟨zH hb h.blk (lt_of_block h.blk),(h.inn.below zr hb).mono zr hb.size,(h.irq.below xQ hb).mono xQ hb.size⟩
theorem TpIn.c0 (h:TpIn W b10 I Q ia ic ua uc):T W b10 0 (.slice ia I.length ic):=zA h.blk Zs
theorem TpIn.c1 (h:TpIn W b10 I Q ia ic ua uc):T W b10 1 (.slice ua Q.length uc):=zA h.blk Zs
end
theorem ng (x:SetF):(aaX x).size<=9223372036854775807:=by
 unfold aaX
 split
 ·decide
 ·rw[mG,gT];have:=Qj x.ram (show 0<3 by decide);omega
theorem wV.src{B:Nat}{v:Value}{xs:List Nat}(h:wV w B v xs):yM w 1 v xs.length (xs.map vL):=by
 obtain⟨a,d,rfl,h1,h2,h3⟩:=h;refine⟨a,d,rfl,by simp,by simp[vL,Value.oneCell'],?_⟩
 cases xs with
 |nil=>
  cases a with
  |none=>exact .inl ⟨rfl,rfl⟩
  |some ad=>exact .inr ⟨ad,rfl,fun j u hu=>by simp at hu⟩
 |cons x xs=>
  obtain⟨b,o,rfl,_,_⟩:=h3 0 x rfl;refine .inr ⟨_,rfl,fun j u hu=>?_⟩;rw[Jr,Oz] at hu;obtain⟨y,g,rfl⟩:=hu;obtain⟨b',o',e,_,c,_⟩:=h3 j y g;cases e;rw[Nk] at c;unfold Addr.add
  split
  ·rename_i i;rw[i] at c;exact c
  ·exact c
theorem lf (w:World):(w.alloc (A #[] 39)).ownsRow w.heap.size 39 1 (Q w.heap.size 0 0) 0 []:=
 ⟨rfl,.inr ⟨w.heap.size,0,#[],rfl,Je _,zI rfl,Je _,by decide,rfl,rfl⟩⟩
theorem aeG (w:World)(sv:Value)(s:List Int)(q0 q1 q2:Int)(xv:Value)(x:SetF)(hs:zY w w.heap.size sv s)(hq:I64 q0/\I64 q1/\I64 q2)(hx:SetIn w w.heap.size xv x):
 G 15 #[sv,.agg #[O q0,O q1,O q2],xv] w fun e w'=>e=.returned (.bool true)/\L w w':=by
 obtain⟨sa,sc,rfl,v5,v3⟩:=hs.form;obtain⟨sa3,sc3,r,qc3,rfl,w8,w7⟩:=hx.form;have HS:=Ja (Jb hs hq);have j4:L w ((w.alloc (A #[O q0,O q1,O q2] 23)).alloc (A #[.slice sa3 x.inn.length sc3,.slice r x.irq.length qc3,.int .u32 (x.ram:Int),U (x.fuel:Int)] 41)):=((Below.refl _ _).alloc (Je _) _).alloc Zs _;have q5:QBx ((w.alloc (A #[O q0,O q1,O q2] 23)).alloc (A #[.slice sa3 x.inn.length sc3,.slice r x.irq.length qc3,.int .u32 (x.ram:Int),U (x.fuel:Int)] 41)) w.heap.size q0 q1 q2:=⟨zB (zI rfl)⟩
 have q4:SBx ((w.alloc (A #[O q0,O q1,O q2] 23)).alloc (A #[.slice sa3 x.inn.length sc3,.slice r x.irq.length qc3,.int .u32 (x.ram:Int),U (x.fuel:Int)] 41)) (w.heap.size+1) x sa3 sc3 r qc3:=⟨zI Zs,(hx.below j4).mono j4.size⟩
 have H0:=Ja (Jb j4 (Jb q5 q4));have x3:=hx.fuel;clear hs v5 v3 w8 w7 j4 q5 q4 hx hq;go_enter Try.func15,Try.ntmps15;go_upto_region 2 with(go_at_call 17;go_must (refine(ln _).mono ?_;rintro e w0 ⟨rfl,d⟩))
 have H1:=Ja (Jb (H0.out.1.trans (d.mono H0.out.1.size)) (Jb (H0.out.2.1.below d) (H0.out.2.2.below d)));have v6:w.heap.size+2<=w0.heap.size:=by have:=d.size;simp at this;omega
 clear d H0;have HM:=Ja (show ∀W,L w0 W->G 18 #[.slice sa s.length sc] W (oC W (uR (s.take 200))) from fun W hb=>abW ((HS.out.1.below zO (H1.out.1.trans (hb.mono H1.out.1.size))).mono zO (H1.out.1.trans (hb.mono H1.out.1.size)).size));have m7:=made_smS (s.take 200);generalize uR (s.take 200)=p0 at *
 have HT:=Ja (show ∀(W:World) (fa:Option Addr) (fc:Nat) (aa:Option Addr) (ac:Nat) (da:Option Addr) (dc:Nat) (ba:Option Addr) (bc:Nat),ProgIn W W.heap.size ⟨.slice fa p0.funcs.length fc,.slice aa p0.args.length ac,.slice da p0.data.length dc,.slice ba p0.banks.length bc⟩ p0->
  G 19 #[.agg (P p0 fa fc aa ac da dc ba bc),.agg #[O q0,O q1,O q2]] W (TuRet2 W (wR p0 q0 q1 q2)) from fun W fa fc aa ac da dc ba bc hp=>kU hp (m7.small Zd) HS.out.2)
 have s0:=acA m7 q0 q1 q2;generalize wR p0 q0 q1 q2=p at *;have o5:=Ja s0;clear m7 s0
 have HQ:=Ja (show ∀W,L w0 W->W.cell? ⟨w.heap.size,0,none⟩=some (O q0)/\W.cell? ⟨w.heap.size,1,none⟩=some (O q1)/\W.cell? ⟨w.heap.size,2,none⟩=some (O q2) from fun W hb=>by
  have h:=H1.out.2.1.below hb
  exact⟨h.c0,h.c1,h.c2⟩)
 go_cut [8] (fun v wx=>jL w0 p v wx)
 case first=>
  go_region_held3 (fun w'=>w'.cell? ⟨w.heap.size,0,none⟩=some (O q0)/\w'.cell? ⟨w.heap.size,1,none⟩=some (O q1)/\w'.cell? ⟨w.heap.size,2,none⟩=some (O q2))
   ((refine HQ.out _ ?_;repeat' (first|with_reducible exact Below.refl _ _|with_reducible assumption|with_reducible refine Below.drew ?_|with_reducible refine Below.alloc ?_ Zn _|with_reducible refine Below.setCell ?_ Zn _)))
   (first
     |(go_at_call 18
       refine(HM.out _ Zb).mono ?_;rintro e w1 ⟨fa,fc,aa,ac,da,dc,ba,bc,rfl,hp,d⟩;have d8:L w0 w1:=Below.trans Zb (d.mono Zn);have l0:=d8.size
       try have u:Y w1 w0.heap.size #[.slice none 0 0,.slice none 0 0,O 0,O 0,.slice none 0 0,.slice none 0 0] 29:=zH d (show(World.alloc w0 _).heap[w0.heap.size]? =_ from zI rfl) Zs
       clear d)
     |(go_at_call 19
       refine(HT.out _ _ _ _ _ _ _ _ _ (ProgIn.mono (ProgIn.below hp Zb) Zn)).mono ?_;rintro e w2 ⟨ga,gc,ha,hc,ia,ic,ja,jc,rfl,l8,o⟩;have b3:L w0 w2:=Below.trans Zb (o.mono Zn);have k9:=b3.size
       first
        |(have l:w2.heap[w0.heap.size]? =some (.cells #[.slice none 0 0,.slice none 0 0,.int .i64 0,.int .i64 0,.slice none 0 0,.slice none 0 0] 29 (0,0)):=zH o u (by first|exact lt_of_block u|(have:=lt_of_block u;simp;omega));have c0:=zA (i:=0) l rfl;have c1:=zA (i:=1) l rfl;have c2:=zA (i:=2) l rfl;have c3:=zA (i:=3) l rfl;have c4:=zA (i:=4) l rfl;have c5:=zA (i:=5) l rfl;have cf:∀i,w2.frozen? ⟨w0.heap.size,i,none⟩=false:=fun i=>zE l;have cl:=lt_of_block l)
        |(have l:w2.heap[w1.heap.size]? =some (.cells #[.slice none 0 0,.slice none 0 0,.int .i64 0,.int .i64 0,.slice none 0 0,.slice none 0 0] 29 (0,0)):=zH o (by with_reducible exact zI rfl) Zs;have c0:=zA (i:=0) l rfl;have c1:=zA (i:=1) l rfl;have c2:=zA (i:=2) l rfl;have c3:=zA (i:=3) l rfl;have c4:=zA (i:=4) l rfl;have c5:=zA (i:=5) l rfl;have cf:∀i,w2.frozen? ⟨w1.heap.size,i,none⟩=false:=fun i=>zE l;have cl:=lt_of_block l)
        |skip))
  all_goals go_wp2_with fail
  all_goals go_meet
  ·exact kD b3 l8
  ·exact qx b3 l8 l Zs Zo
  ·exact qx b3 l8 l (lt_of_block u) (Je _)
 case rest=>
 obtain⟨b8,fa,fc,aa,ac,da,dc,ba,bc,rfl,HK⟩:=hcut;clear HM HT HQ;have r6:PBx wc b8 p fa fc aa ac da dc ba bc:=⟨HK.out.2.1,HK.out.2.2.1⟩
 have a3:=Ja (Jb (H1.out.1.trans (HK.out.2.2.2.mono H1.out.1.size)) (Jb (H1.out.2.2.below HK.out.2.2.2) (Jb r6 (Jb (o5.out.small Zd) HK.out.2.2.1.p64))));clear r6 HK H1 v6;obtain⟨X1,t3⟩:∃X,wc=X:=⟨_,rfl⟩
 rw[t3] at a3 ⊢;clear t3;have c0:X1.cell? ⟨b8,0,none⟩=some (.slice fa p.funcs.length fc):=a3.out.2.2.1.c0;have c1:X1.cell? ⟨b8,1,none⟩=some (.slice aa p.args.length ac):=a3.out.2.2.1.c1;have c2:X1.cell? ⟨b8,2,none⟩=some (O p.entry):=a3.out.2.2.1.c2;have c3:X1.cell? ⟨b8,3,none⟩=some (O p.handler):=a3.out.2.2.1.c3;have c4:X1.cell? ⟨b8,4,none⟩=some (.slice da p.data.length dc):=a3.out.2.2.1.c4;have c5:X1.cell? ⟨b8,5,none⟩=some (.slice ba p.banks.length bc):=a3.out.2.2.1.c5;have t8:=Ja (uJ a3.out.2.2.1.prog a3.out.2.2.2.1);go_upto_region 4 with(go_at_call 36;go_must (refine t8.out.mono ?_;rintro e w2 ⟨T,ga,gc,ha,hc,ja,jc,ka,kc,rfl,i0,h7,q6,d⟩))
 have r0:ProgIn w2 w2.heap.size ⟨.slice ga p.funcs.length gc,.slice ha p.args.length hc,.slice ja p.data.length jc,.slice ka p.banks.length kc⟩ p:=by
  have:=PT.in q6 (by rw[h7];exact a3.out.2.2.2.2);rw[h7] at this;unfold PT.V at this;rw[i0.1,i0.2.1,i0.2.2.1,i0.2.2.2] at this;exact this
 have b5:=d.alloc d.size (A (P p ga gc ha hc ja jc ka kc) 29);have b0:=Ja (Jb (a3.out.1.trans (b5.mono a3.out.1.size)) (Jb (a3.out.2.1.below b5) (Jb (a3.out.2.2.1.below b5) (PBx.new r0))));clear d b5 r0 i0 h7 q6 T t8 c0 c1 c2 c3 c4 c5;generalize w2.alloc (A (P p ga gc ha hc ja jc ka kc) 29)=X2 at *;generalize w2.heap.size=b9 at *;have d0:X2.cell? ⟨w.heap.size+1,0,none⟩=some (.slice sa3 x.inn.length sc3):=b0.out.2.1.c0;have d1:X2.cell? ⟨w.heap.size+1,1,none⟩=some (.slice r x.irq.length qc3):=b0.out.2.1.c1;have d2:X2.cell? ⟨w.heap.size+1,2,none⟩=some (.int .u32 (x.ram:Int)):=b0.out.2.1.c2;have d3:X2.cell? ⟨w.heap.size+1,3,none⟩=some (U (x.fuel:Int)):=b0.out.2.1.c3;obtain⟨I,hI⟩:∃I,x.inn.take 20=I:=⟨_,rfl⟩
 obtain⟨Q,hQ⟩:∃Q,x.irq.take 20=Q:=⟨_,rfl⟩
 have x5:I.length<=20:=by rw[<-hI,Oc];omega
 have t6:=Ja (show G 25 #[.agg #[.slice sa3 x.inn.length sc3,.slice r x.irq.length qc3,.int .u32 (x.ram:Int),U (x.fuel:Int)]] X2 (fun e w'=>∃ia ic qa qc,e=.returned (.agg #[.slice ia I.length ic,.slice qa Q.length qc])/\wV w' w'.heap.size (.slice ia I.length ic) I/\dL w' w'.heap.size (.slice qa Q.length qc) Q/\L X2 w') from by
  refine(aeC b0.out.2.1.set).mono ?_;rintro e w' ⟨ia,ic,qa,qc,rfl,h1,h2,h3⟩;rw[hI] at h1 ⊢;rw[hQ] at h2 ⊢
  exact⟨ia,ic,qa,qc,rfl,h1.mono zr h3.size,h2.mono xQ h3.size,h3⟩)
 clear hI hQ;go_upto_region 5 with(go_at_call 25;go_must (refine t6.out.mono ?_;rintro e w3 ⟨ia,ic,ua,uc,rfl,s4,s3,d⟩))
 have b5:=d.alloc d.size (A #[.slice ia I.length ic,.slice ua Q.length uc] 61);have i3:=(Below.refl w3.heap.size w3).alloc (Je _) (A #[.slice ia I.length ic,.slice ua Q.length uc] 61);have s1:KpIn (w3.alloc (A #[.slice ia I.length ic,.slice ua Q.length uc] 61)) (w.heap.size+1) b8 b9 p fa fc aa ac da dc ba bc ga gc ha hc ja jc ka kc x sa3 sc3 r qc3:=⟨b0.out.2.1.below b5,b0.out.2.2.1.below b5,b0.out.2.2.2.below b5⟩
 have h7:TpIn (w3.alloc (A #[.slice ia I.length ic,.slice ua Q.length uc] 61)) w3.heap.size I Q ia ic ua uc:=⟨zI rfl,(s4.below zr i3).mono zr i3.size,(s3.below xQ i3).mono xQ i3.size⟩
 have b7:=Ja (Jb (b0.out.1.trans (b5.mono b0.out.1.size)) (Jb s1 h7));clear d b5 i3 s1 h7 s4 s3 t6 d0 d1 d2 d3 b0;generalize w3.alloc (A #[.slice ia I.length ic,.slice ua Q.length uc] 61)=X3 at *;generalize w3.heap.size=b10 at *;have t0:X3.cell? ⟨b10,0,none⟩=some (.slice ia I.length ic):=b7.out.2.2.c0;have u6:=lt_of_block b7.out.2.2.blk;obtain⟨ii,s2,k6,k5,k4⟩:=info_parts Try.info_u16;have n8:=Ja (show yM (X3.alloc (A #[] 39)) 1 (.slice ia I.length ic) I.length (I.map vL) from wV.src (b7.out.2.2.inn.below zr ((Below.refl X3.heap.size X3).alloc (Je _) (A #[] 39))));have u5:=Ja (aeM b7.out.2.2.inn);go_upto_region 6 with(at_builtin;go_must (refine zK _ rfl (.tmp 27) (.tmp 29) 36 rfl X3.heap.size 39 ii (U 0) 1 2 Try.underlying36 s2 k6 k5 k4 rfl Zd (.slice (some ⟨X3.heap.size,0,none⟩) 0 0) 0 [] rfl (lf X3) _ I.length (I.map vL) rfl n8.out (by unfold maxLen;omega) Zo Zs ?_;intro v4 w4 j2 i1 u8))
 have a0:L X3 w4:=yP ((Below.refl X3.heap.size X3).alloc (Je _) _) i1 Zs (wF (lf X3));have j1:wV w4 w4.heap.size v4 I:=ms (by simpa using j2) Zs u5.out;obtain⟨na,nc,rfl,_,_⟩:=j1.form;have t:=Ja (Jb (b7.out.1.trans (a0.mono b7.out.1.size)) (Jb (b7.out.2.1.below a0) (Jb (b7.out.2.2.below a0) j1)));clear a0 j1 j2 i1 u8 n8 u5 t0 b7 u6 s2 k6 k5 k4;obtain⟨X4,t2⟩:∃X,w4=X:=⟨_,rfl⟩
 rw[t2] at t ⊢;clear t2;obtain⟨F1,n7⟩:∃F,x.fuel%3000=F:=⟨_,rfl⟩
 have x6:F1<3000:=Zo;obtain⟨R,hR⟩:∃R,i9 ⟨p,I,Q⟩ 0 [] (aaX x) (F1:Int)=R:=⟨_,rfl⟩
 have HR:=Ja hR;have q9:mW p:=o5.out.sized Zd;have h9:=Ja q9
 have u4:=Ja (show ∀W,L X4 W->(W.cell? ⟨b8,0,none⟩=some (.slice fa p.funcs.length fc)/\W.cell? ⟨b8,1,none⟩=some (.slice aa p.args.length ac)/\W.cell? ⟨b8,2,none⟩=some (O p.entry)/\W.cell? ⟨b8,3,none⟩=some (O p.handler)/\W.cell? ⟨b8,4,none⟩=some (.slice da p.data.length dc)/\W.cell? ⟨b8,5,none⟩=some (.slice ba p.banks.length bc)/\W.cell? ⟨b10,0,none⟩=some (.slice ia I.length ic)/\W.cell? ⟨b10,1,none⟩=some (.slice ua Q.length uc)/\W.cell? ⟨(w.heap.size+1),0,none⟩=some (.slice sa3 x.inn.length sc3)/\W.cell? ⟨(w.heap.size+1),1,none⟩=some (.slice r x.irq.length qc3)/\W.cell? ⟨(w.heap.size+1),2,none⟩=some (.int .u32 (x.ram:Int))/\W.cell? ⟨(w.heap.size+1),3,none⟩=some (U (x.fuel:Int))) from fun W hb=>by
  have h1:=t.out.2.1.below hb;have h2:=t.out.2.2.1.below hb
  exact⟨h1.prog.c0,h1.prog.c1,h1.prog.c2,h1.prog.c3,h1.prog.c4,h1.prog.c5,h2.c0,h2.c1,h1.set.c0,h1.set.c1,h1.set.c2,h1.set.c3⟩)
 have o3:=Ja (show ∀W,L X4 W->G 24 #[.agg #[.slice sa3 x.inn.length sc3,.slice r x.irq.length qc3,.int .u32 (x.ram:Int),U (x.fuel:Int)]] W (aap W (aaX x)) from fun W hb=>gC (t.out.2.1.below hb).set.set)
 have o9:=Ja (show ∀W,L X4 W->G 26 #[.agg #[.slice sa3 x.inn.length sc3,.slice r x.irq.length qc3,.int .u32 (x.ram:Int),U (x.fuel:Int)]] W (dq W (F1:Int)) from fun W hb=>by
  have:=fq (t.out.2.1.below hb).set.set;rw[n7] at this
  exact this)
 have p3:=Ja (show ∀W,L X4 W->G 23 #[.agg (P p fa fc aa ac da dc ba bc),O 0,.slice none 0 0,.string (aaX x),.agg #[.slice ia I.length ic,.slice ua Q.length uc],O F1] W (gw W R) from fun W hb=>by
  have h2:=t.out.2.2.1.below hb;rw[<-HR.out]
  exact(lo (t.out.2.1.below hb).prog.prog h9.out 0 pZ yN.nil (aaX x) (ng x) h2.inn h2.irq (F1:Int) ⟨by omega,by omega⟩ Zo).mono fun e w' h=>h.open)
 go_cut [12] (fun v wx=>dp X4 R v wx)
 case first=>
  go_region_held3 (fun w'=>w'.cell? ⟨b8,0,none⟩=some (.slice fa p.funcs.length fc)/\w'.cell? ⟨b8,1,none⟩=some (.slice aa p.args.length ac)/\w'.cell? ⟨b8,2,none⟩=some (O p.entry)/\w'.cell? ⟨b8,3,none⟩=some (O p.handler)/\w'.cell? ⟨b8,4,none⟩=some (.slice da p.data.length dc)/\w'.cell? ⟨b8,5,none⟩=some (.slice ba p.banks.length bc)/\w'.cell? ⟨b10,0,none⟩=some (.slice ia I.length ic)/\w'.cell? ⟨b10,1,none⟩=some (.slice ua Q.length uc)/\w'.cell? ⟨(w.heap.size+1),0,none⟩=some (.slice sa3 x.inn.length sc3)/\w'.cell? ⟨(w.heap.size+1),1,none⟩=some (.slice r x.irq.length qc3)/\w'.cell? ⟨(w.heap.size+1),2,none⟩=some (.int .u32 (x.ram:Int))/\w'.cell? ⟨(w.heap.size+1),3,none⟩=some (U (x.fuel:Int)))
   ((refine u4.out _ ?_;repeat' (first|with_reducible exact Below.refl _ _|with_reducible assumption|with_reducible refine Below.drew ?_|with_reducible refine Below.alloc ?_ Zn _|with_reducible refine Below.setCell ?_ Zn _)))
   (first
   |(go_at_call 24
     refine(o3.out _ Zb).mono ?_;rintro e y1 ⟨rfl,d⟩;have d8:L X4 y1:=Below.trans Zb (d.mono Zn);have l0:=d8.size
     first|(have u:Y y1 X4.heap.size #[U 0,.slice none 0 0,O 0,U 0,.string ⟨#[]⟩,O 0,O 0] 57:=zH d (show(World.alloc X4 _).heap[X4.heap.size]? =_ from zI rfl) Zs)|skip
     clear d)
   |(go_at_call 26
     refine(o9.out _ Zb).mono ?_;rintro e y2 ⟨rfl,o⟩;have b3:L X4 y2:=Below.trans Zb (o.mono Zn);have k9:=b3.size
     first|(have l:=zH o u (by first|exact lt_of_block u|(have:=lt_of_block u;simp;omega)))|(have l:Y y2 y1.heap.size #[U 0,.slice none 0 0,O 0,U 0,.string ⟨#[]⟩,O 0,O 0] 57:=zH o (by with_reducible exact zI rfl) Zs)|skip
     clear o)
   |(go_at_call 23
     refine(p3.out _ Zb).mono ?_;rintro e y4 ⟨oa,oc,rfl,d5,a0,i2⟩;have a5:L X4 y4:=Below.trans Zb (a0.mono Zn);have q8:=a5.size;have a7:ux X4.heap.size y4 R oa:=i2.mono (by first|omega|exact Je _|omega|(simp;done)|(simp;omega))
     first|(have c:=zH a0 l (by first|exact lt_of_block l|(have:=lt_of_block l;simp;omega)))|(have c:Y y4 y2.heap.size #[U 0,.slice none 0 0,O 0,U 0,.string ⟨#[]⟩,O 0,O 0] 57:=zH a0 (by with_reducible exact zI rfl) Zs)|skip
     first
      |(have a6:y4.heap[X4.heap.size]? =some (.cells #[.int .u16 0,.slice none 0 0,.int .i64 0,.int .u16 0,.string ⟨#[]⟩,.int .i64 0,.int .i64 0] 57 (0,0)):=c;have c0:=zA (i:=0) c rfl;have c1:=zA (i:=1) c rfl;have c2:=zA (i:=2) c rfl;have c3:=zA (i:=3) c rfl;have c4:=zA (i:=4) c rfl;have c5:=zA (i:=5) c rfl;have c6:=zA (i:=6) c rfl;have cf:∀i,y4.frozen? ⟨X4.heap.size,i,none⟩=false:=fun i=>zE c;have cl:=lt_of_block c)
      |(have a6:y4.heap[y1.heap.size]? =some (.cells #[.int .u16 0,.slice none 0 0,.int .i64 0,.int .u16 0,.string ⟨#[]⟩,.int .i64 0,.int .i64 0] 57 (0,0)):=c;have c0:=zA (i:=0) c rfl;have c1:=zA (i:=1) c rfl;have c2:=zA (i:=2) c rfl;have c3:=zA (i:=3) c rfl;have c4:=zA (i:=4) c rfl;have c5:=zA (i:=5) c rfl;have c6:=zA (i:=6) c rfl;have cf:∀i,y4.frozen? ⟨y1.heap.size,i,none⟩=false:=fun i=>zE c;have cl:=lt_of_block c)
      |(have a6:y4.heap[y2.heap.size]? =some (.cells #[.int .u16 0,.slice none 0 0,.int .i64 0,.int .u16 0,.string ⟨#[]⟩,.int .i64 0,.int .i64 0] 57 (0,0)):=c;have c0:=zA (i:=0) c rfl;have c1:=zA (i:=1) c rfl;have c2:=zA (i:=2) c rfl;have c3:=zA (i:=3) c rfl;have c4:=zA (i:=4) c rfl;have c5:=zA (i:=5) c rfl;have c6:=zA (i:=6) c rfl;have cf:∀i,y4.frozen? ⟨y2.heap.size,i,none⟩=false:=fun i=>zE c;have cl:=lt_of_block c)
      |skip))
  all_goals go_wp2_with fail
  all_goals go_meet
  all_goals first|with_reducible exact np a5 d5 a7 c Zn|exact mb a5 d5 a7
 case rest=>
 obtain⟨b12,oa6,oc6,rfl,d4⟩:=hcut;clear u4 o3 o9 p3;have h8:=d4.out.2.2.2.1;have a9:=Ja (Jb (t.out.1.trans (h8.mono t.out.1.size)) (Jb (t.out.2.1.below h8) (Jb (t.out.2.2.1.below h8) ((t.out.2.2.2.below zr h8).mono zr h8.size))));clear h8;obtain⟨X5,s8⟩:∃X,wc=X:=⟨_,rfl⟩
 rw[s8] at a9 d4 ⊢;clear s8;have c0:X5.cell? ⟨b8,0,none⟩=some (.slice fa p.funcs.length fc):=a9.out.2.1.prog.c0;have c1:X5.cell? ⟨b8,1,none⟩=some (.slice aa p.args.length ac):=a9.out.2.1.prog.c1;have c2:X5.cell? ⟨b8,2,none⟩=some (O p.entry):=a9.out.2.1.prog.c2;have c3:X5.cell? ⟨b8,3,none⟩=some (O p.handler):=a9.out.2.1.prog.c3;have c4:X5.cell? ⟨b8,4,none⟩=some (.slice da p.data.length dc):=a9.out.2.1.prog.c4;have c5:X5.cell? ⟨b8,5,none⟩=some (.slice ba p.banks.length bc):=a9.out.2.1.prog.c5;obtain⟨ev,n6⟩:∃v,vC p=v:=⟨_,rfl⟩
 have u9:=Ja n6
 have j5:=Ja (show G 20 #[.agg (P p fa fc aa ac da dc ba bc)] X5 (m9 X5 ev) from by
  have h:=tu a9.out.2.1.prog.prog (Je _) (fun g hg=>(h9.out g hg).1);rw[n6] at h
  exact h)
 clear n6 q9;go_upto_region 8 with(go_at_call 20;go_must (refine j5.out.mono ?_;rintro e w6 ⟨rfl,d⟩))
 have s5:=d4.out.2.2.2.1.trans (d.mono d4.out.2.2.2.1.size);have h4:=zH d d4.out.2.1 (lt_of_block d4.out.2.1)
 have a7:ux X4.heap.size w6 R oa6:=by
  rcases d4.out.2.2.2.2 with h|⟨g,cur,h1,h2,h3⟩
  ·exact .inl h
  ·exact .inr ⟨g,cur,h1,h2,zH d h3 (lt_of_block h3)⟩
 have b6:=Ja (Jb s5 (Jb h4 (Jb a7 (Jb ((d4.out.2.2.1.below vo d).mono vo d.size) (Jb (a9.out.2.2.1.below d) ((a9.out.2.2.2.below zr d).mono zr d.size))))));clear d s5 h4 a7 j5 d4 a9 c0 c1 c2 c3 c4 c5;obtain⟨X6,s7⟩:∃X,w6=X:=⟨_,rfl⟩
 rw[s7] at b6 ⊢;clear s7;go_wp2
 go_loopw [42] (fun kv wx=>∃k:Nat,k<=I.length/\kv=O k/\L X6 wx) (fun kv _=>I.length-(intOf kv).toNat)
 case atStart=>exact⟨0,Jt _,rfl,Below.refl _ _⟩
 case round=>
  obtain⟨k,hk,rfl,hb⟩:=hrel;have g1:=b6.out.2.2.2.2.1.below hb;have g2:=(b6.out.2.2.2.2.2.below zr hb).mono zr hb.size;have t0:wr.cell? ⟨b10,0,none⟩=some (.slice ia I.length ic):=g1.c0;have w5:=lt_of_block g1.blk;have HB:=Ja hb
  by_cases b4:k<I.length
  ·obtain⟨z,hz⟩:∃z,I[k]? =some z:=⟨_,Jd b4⟩
   have n0:(k:Int)<(I.length:Int):=Zo;obtain⟨b1,o1,e1,m1,x1,_⟩:=g1.inn.get hz;obtain⟨b2,o2,e2,m2,x2,_⟩:=g2.get hz;rw[Nk] at x1 x2;subst e1 e2;have u1:=Ja b4;clear b4 hz g1 g2 hb;go_wp2;go_quiet (fail);go_wp2;go_roundw
   case rel=>exact⟨k+1,u1.out,by go_num,yC HB.out⟩
   case measure=>have:=u1.out;simp[intOf];omega
  ·obtain rfl:k=I.length:=by omega
   have n0:¬(I.length:Int)<(I.length:Int):=Zo;have h4:=zH hb b6.out.2.1 (lt_of_block b6.out.2.1);have a1:wr.cell? ⟨b12,1,none⟩=some (.slice oa6 R.out.length oc6):=zA h4 rfl;have h5:=lt_of_block h4;have he:=(b6.out.2.2.2.1.below vo hb).mono vo hb.size;have l9:R.out.length<=9223372036854775807:=ev_len he
   have q7:R.out=[]∨∃g,oa6=some ⟨g,0,none⟩/\X4.heap.size<=g/\ky wr g R.out.length:=by
    rcases b6.out.2.2.1 with h|⟨g,cur,h1,h2,h3⟩
    ·exact .inl h
    ·subst h1;exact .inr ⟨g,rfl,h2,evBlk_of he (zH hb h3 (lt_of_block h3))⟩
   have t7:=Ja (Jb q7 (Jb h4 (b6.out.1.trans (hb.mono b6.out.1.size))));have v9:R.out.length=0->R.out=[]:=Nz;have q3:R.out=[]->R.out.length=0:=fun h=>by rw[h];rfl
   have u0:=Ja q3;clear b4 g1 g2 hb HB h4 he q7 v9 q3 w5 t0 b6;go_wp2;clear a1
   go_loopw [59] (fun kv wx=>∃k:Nat,k<=R.out.length/\kv=O k/\Hid ((R.out=[]∨∃g,oa6=some ⟨g,0,none⟩/\X4.heap.size<=g/\ky wx g R.out.length)/\Y wx b12 (adV R oa6 oc6) 57/\L X4 wx)) (fun kv _=>R.out.length-(intOf kv).toNat)
   case atStart=>exact⟨0,Jt _,rfl,t7⟩
   case round=>
    clear t7 h5;obtain⟨k,hk,rfl,HK⟩:=hrel;have a1:wr.cell? ⟨b12,1,none⟩=some (.slice oa6 R.out.length oc6):=zA HK.out.2.1 rfl;have h5:=lt_of_block HK.out.2.1
    by_cases b4:k<R.out.length
    ·have n0:(k:Int)<(R.out.length:Int):=Zo;rcases HK.out.1 with h0|⟨g,e1,hg,hE⟩
     ·rw[u0.out h0] at b4;omega
     subst e1;obtain⟨y,hy,f1,f2⟩:=hE.get b4;have x4:g<wr.heap.size:=by obtain⟨_,h1,_⟩:=hE;exact lt_of_block h1
     obtain⟨y2,v2⟩:∃y2,(y+1)%65536=y2:=⟨_,rfl⟩
     have v1:y2<65536:=Zo;have hw:IntKind.u16.wrap ((y:Int)+1)=(y2:Int):=by rw[xY];omega
     have m6:g≠b12:=by rintro rfl;obtain⟨_,h1,_⟩:=hE;rw[HK.out.2.1] at h1;simp at h1
     have k7:=ky.set (j:=k) hE v1;have l7:Y (wr.setCell ⟨g,k*2+1,none⟩ (U y2)) b12 (adV R (some ⟨g,0,none⟩) oc6) 57:=(show(wr.setCells g (k*2+1) [U y2]).heap[b12]? =wr.heap[b12]? from ye g b12 (Ne.symm m6) _ _ _).trans HK.out.2.1;have o4:=Ja (Jb (Jb b4 m6) (show(R.out=[]∨∃g',(some ⟨g,0,none⟩:Option Addr)=some ⟨g',0,none⟩/\X4.heap.size<=g'/\ky (wr.setCell ⟨g,k*2+1,none⟩ (U y2)) g' R.out.length)/\_/\_ from⟨.inr ⟨g,rfl,hg,k7⟩,l7,HK.out.2.2.setCell (p:=⟨g,k*2+1,none⟩) hg (U y2)⟩));clear hE k7 l7 b4 v2 m6 HK hg;go_wp2;go_roundw
     case rel=>exact⟨k+1,o4.out.1.1,by go_num,Ja o4.out.2⟩
     case measure=>have:=o4.out.1.1;simp[intOf];omega
    ·obtain rfl:k=R.out.length:=by omega
     have n0:¬(R.out.length:Int)<(R.out.length:Int):=Zo;have j3:=HK.out.2.2;have a4:=Ja (Jb (t.out.1.trans (j3.mono t.out.1.size)) (Jb (t.out.2.1.below j3) (Jb (t.out.2.2.1.below j3) HK.out.2.1)));clear b4 a1 j3 HK;obtain⟨M,hM⟩:∃X,wr=X:=⟨_,rfl⟩
     rw[hM] at a4 h5 ⊢;clear hM t u0 l9
     have u3:=Ja (show ∀W,L M W->(W.cell? ⟨b8,0,none⟩=some (.slice fa p.funcs.length fc)/\W.cell? ⟨b8,1,none⟩=some (.slice aa p.args.length ac)/\W.cell? ⟨b8,2,none⟩=some (O p.entry)/\W.cell? ⟨b8,3,none⟩=some (O p.handler)/\W.cell? ⟨b8,4,none⟩=some (.slice da p.data.length dc)/\W.cell? ⟨b8,5,none⟩=some (.slice ba p.banks.length bc)/\W.cell? ⟨b10,0,none⟩=some (.slice ia I.length ic)/\W.cell? ⟨b10,1,none⟩=some (.slice ua Q.length uc)/\W.cell? ⟨(w.heap.size+1),0,none⟩=some (.slice sa3 x.inn.length sc3)/\W.cell? ⟨(w.heap.size+1),1,none⟩=some (.slice r x.irq.length qc3)/\W.cell? ⟨(w.heap.size+1),2,none⟩=some (.int .u32 (x.ram:Int))/\W.cell? ⟨(w.heap.size+1),3,none⟩=some (U (x.fuel:Int))) from fun W hb=>by
      have h1:=a4.out.2.1.below hb;have h2:=a4.out.2.2.1.below hb
      exact⟨h1.prog.c0,h1.prog.c1,h1.prog.c2,h1.prog.c3,h1.prog.c4,h1.prog.c5,h2.c0,h2.c1,h1.set.c0,h1.set.c1,h1.set.c2,h1.set.c3⟩)
     have o0:=Ja (show ∀W,L M W->G 24 #[.agg #[.slice sa3 x.inn.length sc3,.slice r x.irq.length qc3,.int .u32 (x.ram:Int),U (x.fuel:Int)]] W (aap W (aaX x)) from fun W hb=>gC (a4.out.2.1.below hb).set.set)
     have o8:=Ja (show ∀W,L M W->G 26 #[.agg #[.slice sa3 x.inn.length sc3,.slice r x.irq.length qc3,.int .u32 (x.ram:Int),U (x.fuel:Int)]] W (dq W (F1:Int)) from fun W hb=>by
      have:=fq (a4.out.2.1.below hb).set.set;rw[n7] at this
      exact this)
     have p2:=Ja (show ∀W,L M W->G 23 #[.agg (P p fa fc aa ac da dc ba bc),O 0,.slice none 0 0,.string (aaX x),.agg #[.slice ia I.length ic,.slice ua Q.length uc],O F1] W (gw W R) from fun W hb=>by
      have h2:=a4.out.2.2.1.below hb;rw[<-HR.out]
      exact(lo (a4.out.2.1.below hb).prog.prog h9.out 0 pZ yN.nil (aaX x) (ng x) h2.inn h2.irq (F1:Int) ⟨by omega,by omega⟩ Zo).mono fun e w' h=>h.open)
     go_wp2
     go_cut [16] (fun v wx=>dp M R v wx)
     case first=>
      go_region_held3 (fun w'=>w'.cell? ⟨b8,0,none⟩=some (.slice fa p.funcs.length fc)/\w'.cell? ⟨b8,1,none⟩=some (.slice aa p.args.length ac)/\w'.cell? ⟨b8,2,none⟩=some (O p.entry)/\w'.cell? ⟨b8,3,none⟩=some (O p.handler)/\w'.cell? ⟨b8,4,none⟩=some (.slice da p.data.length dc)/\w'.cell? ⟨b8,5,none⟩=some (.slice ba p.banks.length bc)/\w'.cell? ⟨b10,0,none⟩=some (.slice ia I.length ic)/\w'.cell? ⟨b10,1,none⟩=some (.slice ua Q.length uc)/\w'.cell? ⟨(w.heap.size+1),0,none⟩=some (.slice sa3 x.inn.length sc3)/\w'.cell? ⟨(w.heap.size+1),1,none⟩=some (.slice r x.irq.length qc3)/\w'.cell? ⟨(w.heap.size+1),2,none⟩=some (.int .u32 (x.ram:Int))/\w'.cell? ⟨(w.heap.size+1),3,none⟩=some (U (x.fuel:Int)))
       ((refine u3.out _ ?_;repeat' (first|with_reducible exact Below.refl _ _|with_reducible assumption|with_reducible refine Below.drew ?_|with_reducible refine Below.alloc ?_ Zn _|with_reducible refine Below.setCell ?_ Zn _)))
       (first
       |(go_at_call 24
         refine(o0.out _ Zb).mono ?_;rintro e y1 ⟨rfl,d⟩;have d8:L M y1:=Below.trans Zb (d.mono Zn);have l0:=d8.size
         first|(have u:Y y1 M.heap.size #[U 0,.slice none 0 0,O 0,U 0,.string ⟨#[]⟩,O 0,O 0] 57:=zH d (show(World.alloc M _).heap[M.heap.size]? =_ from zI rfl) Zs)|skip
         clear d)
       |(go_at_call 26
         refine(o8.out _ Zb).mono ?_;rintro e y2 ⟨rfl,o⟩;have b3:L M y2:=Below.trans Zb (o.mono Zn);have k9:=b3.size
         first|(have l:=zH o u (by first|exact lt_of_block u|(have:=lt_of_block u;simp;omega)))|(have l:Y y2 y1.heap.size #[U 0,.slice none 0 0,O 0,U 0,.string ⟨#[]⟩,O 0,O 0] 57:=zH o (by with_reducible exact zI rfl) Zs)|skip
         clear o)
       |(go_at_call 23
         refine(p2.out _ Zb).mono ?_;rintro e y4 ⟨oa,oc,rfl,d5,a0,i2⟩;have a5:L M y4:=Below.trans Zb (a0.mono Zn);have q8:=a5.size;have a7:ux M.heap.size y4 R oa:=i2.mono (by first|omega|exact Je _|omega|(simp;done)|(simp;omega))
         first|(have c:=zH a0 l (by first|exact lt_of_block l|(have:=lt_of_block l;simp;omega)))|(have c:Y y4 y2.heap.size #[U 0,.slice none 0 0,O 0,U 0,.string ⟨#[]⟩,O 0,O 0] 57:=zH a0 (by with_reducible exact zI rfl) Zs)|skip
         first
          |(have a6:y4.heap[M.heap.size]? =some (.cells #[.int .u16 0,.slice none 0 0,.int .i64 0,.int .u16 0,.string ⟨#[]⟩,.int .i64 0,.int .i64 0] 57 (0,0)):=c;have c0:=zA (i:=0) c rfl;have c1:=zA (i:=1) c rfl;have c2:=zA (i:=2) c rfl;have c3:=zA (i:=3) c rfl;have c4:=zA (i:=4) c rfl;have c5:=zA (i:=5) c rfl;have c6:=zA (i:=6) c rfl;have cf:∀i,y4.frozen? ⟨M.heap.size,i,none⟩=false:=fun i=>zE c;have cl:=lt_of_block c)
          |(have a6:y4.heap[y1.heap.size]? =some (.cells #[.int .u16 0,.slice none 0 0,.int .i64 0,.int .u16 0,.string ⟨#[]⟩,.int .i64 0,.int .i64 0] 57 (0,0)):=c;have c0:=zA (i:=0) c rfl;have c1:=zA (i:=1) c rfl;have c2:=zA (i:=2) c rfl;have c3:=zA (i:=3) c rfl;have c4:=zA (i:=4) c rfl;have c5:=zA (i:=5) c rfl;have c6:=zA (i:=6) c rfl;have cf:∀i,y4.frozen? ⟨y1.heap.size,i,none⟩=false:=fun i=>zE c;have cl:=lt_of_block c)
          |(have a6:y4.heap[y2.heap.size]? =some (.cells #[.int .u16 0,.slice none 0 0,.int .i64 0,.int .u16 0,.string ⟨#[]⟩,.int .i64 0,.int .i64 0] 57 (0,0)):=c;have c0:=zA (i:=0) c rfl;have c1:=zA (i:=1) c rfl;have c2:=zA (i:=2) c rfl;have c3:=zA (i:=3) c rfl;have c4:=zA (i:=4) c rfl;have c5:=zA (i:=5) c rfl;have c6:=zA (i:=6) c rfl;have cf:∀i,y4.frozen? ⟨y2.heap.size,i,none⟩=false:=fun i=>zE c;have cl:=lt_of_block c)
          |skip))
      all_goals go_wp2_with fail
      all_goals go_meet
      all_goals first|with_reducible exact np a5 d5 a7 c Zn|exact mb a5 d5 a7
     case rest=>
     obtain⟨b16,oa7,oc7,rfl,k1⟩:=hcut;clear u3 o0 o8 p2;have i8:=k1.out.2.2.2.1;have a2:=Ja (Jb (a4.out.1.trans (i8.mono a4.out.1.size)) (Jb (a4.out.2.1.below i8) (Jb (a4.out.2.2.1.below i8) (Jb (zH i8 a4.out.2.2.2 h5) (Jb k1.out.2.1 k1.out.2.2.1)))));clear i8 k1 a4 h5;obtain⟨M2,t5⟩:∃X,wc=X:=⟨_,rfl⟩
     rw[t5] at a2 ⊢;clear t5
     have u2:=Ja (show ∀W,L M2 W->(W.cell? ⟨b9,0,none⟩=some (.slice ga p.funcs.length gc)/\W.cell? ⟨b9,1,none⟩=some (.slice ha p.args.length hc)/\W.cell? ⟨b9,2,none⟩=some (O p.entry)/\W.cell? ⟨b9,3,none⟩=some (O p.handler)/\W.cell? ⟨b9,4,none⟩=some (.slice ja p.data.length jc)/\W.cell? ⟨b9,5,none⟩=some (.slice ka p.banks.length kc)/\W.cell? ⟨b10,0,none⟩=some (.slice ia I.length ic)/\W.cell? ⟨b10,1,none⟩=some (.slice ua Q.length uc)/\W.cell? ⟨(w.heap.size+1),0,none⟩=some (.slice sa3 x.inn.length sc3)/\W.cell? ⟨(w.heap.size+1),1,none⟩=some (.slice r x.irq.length qc3)/\W.cell? ⟨(w.heap.size+1),2,none⟩=some (.int .u32 (x.ram:Int))/\W.cell? ⟨(w.heap.size+1),3,none⟩=some (U (x.fuel:Int))) from fun W hb=>by
      have h1:=a2.out.2.1.below hb;have h2:=a2.out.2.2.1.below hb
      exact⟨h1.own.c0,h1.own.c1,h1.own.c2,h1.own.c3,h1.own.c4,h1.own.c5,h2.c0,h2.c1,h1.set.c0,h1.set.c1,h1.set.c2,h1.set.c3⟩)
     have n9:=Ja (show ∀W,L M2 W->G 24 #[.agg #[.slice sa3 x.inn.length sc3,.slice r x.irq.length qc3,.int .u32 (x.ram:Int),U (x.fuel:Int)]] W (aap W (aaX x)) from fun W hb=>gC (a2.out.2.1.below hb).set.set)
     have o6:=Ja (show ∀W,L M2 W->G 26 #[.agg #[.slice sa3 x.inn.length sc3,.slice r x.irq.length qc3,.int .u32 (x.ram:Int),U (x.fuel:Int)]] W (dq W (F1:Int)) from fun W hb=>by
      have:=fq (a2.out.2.1.below hb).set.set;rw[n7] at this
      exact this)
     have p1:=Ja (show ∀W,L M2 W->G 23 #[.agg (P p ga gc ha hc ja jc ka kc),O 0,.slice none 0 0,.string (aaX x),.agg #[.slice ia I.length ic,.slice ua Q.length uc],O F1] W (gw W R) from fun W hb=>by
      have h2:=a2.out.2.2.1.below hb;rw[<-HR.out]
      exact(lo (a2.out.2.1.below hb).own.prog h9.out 0 pZ yN.nil (aaX x) (ng x) h2.inn h2.irq (F1:Int) ⟨by omega,by omega⟩ Zo).mono fun e w' h=>h.open)
     go_upto_region 20 with fail
     go_cut [17] (fun v wx=>dp M2 R v wx)
     case first=>
      go_region_held3 (fun w'=>w'.cell? ⟨b9,0,none⟩=some (.slice ga p.funcs.length gc)/\w'.cell? ⟨b9,1,none⟩=some (.slice ha p.args.length hc)/\w'.cell? ⟨b9,2,none⟩=some (O p.entry)/\w'.cell? ⟨b9,3,none⟩=some (O p.handler)/\w'.cell? ⟨b9,4,none⟩=some (.slice ja p.data.length jc)/\w'.cell? ⟨b9,5,none⟩=some (.slice ka p.banks.length kc)/\w'.cell? ⟨b10,0,none⟩=some (.slice ia I.length ic)/\w'.cell? ⟨b10,1,none⟩=some (.slice ua Q.length uc)/\w'.cell? ⟨(w.heap.size+1),0,none⟩=some (.slice sa3 x.inn.length sc3)/\w'.cell? ⟨(w.heap.size+1),1,none⟩=some (.slice r x.irq.length qc3)/\w'.cell? ⟨(w.heap.size+1),2,none⟩=some (.int .u32 (x.ram:Int))/\w'.cell? ⟨(w.heap.size+1),3,none⟩=some (U (x.fuel:Int)))
       ((refine u2.out _ ?_;repeat' (first|with_reducible exact Below.refl _ _|with_reducible assumption|with_reducible refine Below.drew ?_|with_reducible refine Below.alloc ?_ Zn _|with_reducible refine Below.setCell ?_ Zn _)))
       (first
       |(go_at_call 24
         refine(n9.out _ Zb).mono ?_;rintro e y1 ⟨rfl,d⟩;have d8:L M2 y1:=Below.trans Zb (d.mono Zn);have l0:=d8.size
         first|(have u:Y y1 M2.heap.size #[U 0,.slice none 0 0,O 0,U 0,.string ⟨#[]⟩,O 0,O 0] 57:=zH d (show(World.alloc M2 _).heap[M2.heap.size]? =_ from zI rfl) Zs)|skip
         clear d)
       |(go_at_call 26
         refine(o6.out _ Zb).mono ?_;rintro e y2 ⟨rfl,o⟩;have b3:L M2 y2:=Below.trans Zb (o.mono Zn);have k9:=b3.size
         first|(have l:=zH o u (by first|exact lt_of_block u|(have:=lt_of_block u;simp;omega)))|(have l:Y y2 y1.heap.size #[U 0,.slice none 0 0,O 0,U 0,.string ⟨#[]⟩,O 0,O 0] 57:=zH o (by with_reducible exact zI rfl) Zs)|skip
         clear o)
       |(go_at_call 23
         refine(p1.out _ Zb).mono ?_;rintro e y4 ⟨oa,oc,rfl,d5,a0,i2⟩;have a5:L M2 y4:=Below.trans Zb (a0.mono Zn);have q8:=a5.size;have a7:ux M2.heap.size y4 R oa:=i2.mono (by first|omega|exact Je _|omega|(simp;done)|(simp;omega))
         first|(have c:=zH a0 l (by first|exact lt_of_block l|(have:=lt_of_block l;simp;omega)))|(have c:Y y4 y2.heap.size #[U 0,.slice none 0 0,O 0,U 0,.string ⟨#[]⟩,O 0,O 0] 57:=zH a0 (by with_reducible exact zI rfl) Zs)|skip
         first
          |(have a6:y4.heap[M2.heap.size]? =some (.cells #[.int .u16 0,.slice none 0 0,.int .i64 0,.int .u16 0,.string ⟨#[]⟩,.int .i64 0,.int .i64 0] 57 (0,0)):=c;have c0:=zA (i:=0) c rfl;have c1:=zA (i:=1) c rfl;have c2:=zA (i:=2) c rfl;have c3:=zA (i:=3) c rfl;have c4:=zA (i:=4) c rfl;have c5:=zA (i:=5) c rfl;have c6:=zA (i:=6) c rfl;have cf:∀i,y4.frozen? ⟨M2.heap.size,i,none⟩=false:=fun i=>zE c;have cl:=lt_of_block c)
          |(have a6:y4.heap[y1.heap.size]? =some (.cells #[.int .u16 0,.slice none 0 0,.int .i64 0,.int .u16 0,.string ⟨#[]⟩,.int .i64 0,.int .i64 0] 57 (0,0)):=c;have c0:=zA (i:=0) c rfl;have c1:=zA (i:=1) c rfl;have c2:=zA (i:=2) c rfl;have c3:=zA (i:=3) c rfl;have c4:=zA (i:=4) c rfl;have c5:=zA (i:=5) c rfl;have c6:=zA (i:=6) c rfl;have cf:∀i,y4.frozen? ⟨y1.heap.size,i,none⟩=false:=fun i=>zE c;have cl:=lt_of_block c)
          |(have a6:y4.heap[y2.heap.size]? =some (.cells #[.int .u16 0,.slice none 0 0,.int .i64 0,.int .u16 0,.string ⟨#[]⟩,.int .i64 0,.int .i64 0] 57 (0,0)):=c;have c0:=zA (i:=0) c rfl;have c1:=zA (i:=1) c rfl;have c2:=zA (i:=2) c rfl;have c3:=zA (i:=3) c rfl;have c4:=zA (i:=4) c rfl;have c5:=zA (i:=5) c rfl;have c6:=zA (i:=6) c rfl;have cf:∀i,y4.frozen? ⟨y2.heap.size,i,none⟩=false:=fun i=>zE c;have cl:=lt_of_block c)
          |skip))
      all_goals go_wp2_with fail
      all_goals go_meet
      all_goals first|with_reducible exact np a5 d5 a7 c Zn|exact mb a5 d5 a7
     case rest=>
     obtain⟨b17,oa8,oc8,rfl,k0⟩:=hcut;clear u2 n9 o6 p1;have h6:=k0.out.2.2.2.1;have m:=Ja (Jb (a2.out.1.trans (h6.mono a2.out.1.size)) (Jb (a2.out.2.1.below h6) (Jb (Jb (zH h6 a2.out.2.2.2.1 (lt_of_block a2.out.2.2.2.1)) (Jb (zH h6 a2.out.2.2.2.2.1 (lt_of_block a2.out.2.2.2.2.1)) k0.out.2.1)) (Jb ((a2.out.2.2.2.2.2.below vo h6).mono vo h6.size) k0.out.2.2.1))));clear h6 k0 a2;obtain⟨M3,t4⟩:∃X,wc=X:=⟨_,rfl⟩
     rw[t4] at m ⊢;clear t4
     have k3:=Ja (show ∀W,L M3 W->(W.cell? ⟨b8,0,none⟩=some (.slice fa p.funcs.length fc)/\W.cell? ⟨b8,1,none⟩=some (.slice aa p.args.length ac)/\W.cell? ⟨b8,2,none⟩=some (O p.entry)/\W.cell? ⟨b8,3,none⟩=some (O p.handler)/\W.cell? ⟨b8,4,none⟩=some (.slice da p.data.length dc)/\W.cell? ⟨b8,5,none⟩=some (.slice ba p.banks.length bc)/\W.cell? ⟨b9,0,none⟩=some (.slice ga p.funcs.length gc)/\W.cell? ⟨b9,1,none⟩=some (.slice ha p.args.length hc)/\W.cell? ⟨b9,2,none⟩=some (O p.entry)/\W.cell? ⟨b9,3,none⟩=some (O p.handler)/\W.cell? ⟨b9,4,none⟩=some (.slice ja p.data.length jc)/\W.cell? ⟨b9,5,none⟩=some (.slice ka p.banks.length kc)/\W.cell? ⟨b16,0,none⟩=some (U (R.value:Int))/\W.cell? ⟨b16,1,none⟩=some (.slice oa7 R.out.length oc7)/\W.cell? ⟨b16,2,none⟩=some (O (R.kind:Int))/\W.cell? ⟨b16,3,none⟩=some (U (R.info:Int))/\W.cell? ⟨b16,4,none⟩=some (.string (y9 R.ram))/\W.cell? ⟨b16,5,none⟩=some (O (R.inputs:Int))/\W.cell? ⟨b16,6,none⟩=some (O (R.polls:Int))/\W.cell? ⟨b17,0,none⟩=some (U (R.value:Int))/\W.cell? ⟨b17,1,none⟩=some (.slice oa8 R.out.length oc8)/\W.cell? ⟨b17,2,none⟩=some (O (R.kind:Int))/\W.cell? ⟨b17,3,none⟩=some (U (R.info:Int))/\W.cell? ⟨b17,4,none⟩=some (.string (y9 R.ram))/\W.cell? ⟨b17,5,none⟩=some (O (R.inputs:Int))/\W.cell? ⟨b17,6,none⟩=some (O (R.polls:Int))/\W.cell? ⟨b12,1,none⟩=some (.slice oa6 R.out.length oc6)) from fun W hb=>by
      have h1:=m.out.2.1.below hb;have v0:=zH hb m.out.2.2.1.1 (lt_of_block m.out.2.2.1.1);have d7:=zH hb m.out.2.2.1.2.1 (lt_of_block m.out.2.2.1.2.1);have d6:=zH hb m.out.2.2.1.2.2 (lt_of_block m.out.2.2.1.2.2)
      exact⟨h1.prog.c0,h1.prog.c1,h1.prog.c2,h1.prog.c3,h1.prog.c4,h1.prog.c5,h1.own.c0,h1.own.c1,h1.own.c2,h1.own.c3,h1.own.c4,h1.own.c5,zA d7 rfl,zA d7 rfl,zA d7 rfl,zA d7 rfl,zA d7 rfl,zA d7 rfl,zA d7 rfl,zA d6 rfl,zA d6 rfl,zA d6 rfl,zA d6 rfl,zA d6 rfl,zA d6 rfl,zA d6 rfl,zA v0 rfl⟩)
     have k2:=Ja (show ∀W,L M3 W->b8<W.heap.size/\b9<W.heap.size/\b12<W.heap.size/\b16<W.heap.size/\b17<W.heap.size from fun W hb=>by
      have h1:=m.out.2.1.below hb
      exact⟨h1.prog.lt,h1.own.lt,lt_of_block (zH hb m.out.2.2.1.1 (lt_of_block m.out.2.2.1.1)),lt_of_block (zH hb m.out.2.2.1.2.1 (lt_of_block m.out.2.2.1.2.1)),lt_of_block (zH hb m.out.2.2.1.2.2 (lt_of_block m.out.2.2.1.2.2))⟩)
     have w9:=Ja (show ∀W,L M3 W->G 37 #[.agg (P p fa fc aa ac da dc ba bc),.agg (P p ga gc ha hc ja jc ka kc)] W (ym W true) from fun W hb=>by
      have h1:=m.out.2.1.below hb
      exact aeJ h1.prog.prog h1.own.prog (o5.out.tx Zd h1.prog.prog.p64))
     have l9:=ev_len m.out.2.2.2.1;have x0:=Ja (show ∀W,L M3 W->_ from fun W hb=>acn (w:=W) (x:=(R.value:Int)) (k:=(R.kind:Int)) (i:=(R.info:Int)) (p:=(R.inputs:Int)) (q:=(R.polls:Int)) (S:=y9 R.ram) rfl l9 ((m.out.2.2.2.1.below vo hb).mono vo hb.size) ((m.out.2.2.2.2.below vo hb).mono vo hb.size))
     have j5:=Ja (show ∀W,L M3 W->G 20 #[.agg (P p ga gc ha hc ja jc ka kc)] W (m9 W ev) from fun W hb=>by
      have h:=tu (m.out.2.1.below hb).own.prog (Je _) (fun g hg=>(h9.out g hg).1);rw[u9.out] at h
      exact h)
     obtain⟨c0,c1,c2,c3,c4,c5,c6,c7,c8,c9,c10,c11,c12,c13,E7,E6,E5,E4,E3,E2,E1,E0,D9,D8,D7,D6,D5⟩:=k3.out M3 (Below.refl _ _);obtain⟨l1,l2,l3,l4,l5⟩:=k2.out M3 (Below.refl _ _);clear h9
     go_wp2_with (first
      |(go_at_call 37
        go_must (refine(w9.out _ (Below.refl _ _)).mono ?_;rintro e y1 ⟨rfl,d⟩)
        obtain⟨e0,e1,e2,e3,e4,e5,e6,e7,e8,e9,D4,D3,D2,D1,D0,C9,C8,C7,C6,C5,C4,C3,C2,C1,C0,B9,B8⟩:=k3.out y1 d;obtain⟨m1,m2,m3,m4,m5⟩:=k2.out y1 d;have p5:=Ja d
        clear d)
      |(go_at_call 22
        go_must (refine(x0.out _ p5.out).mono ?_;rintro e y2 ⟨rfl,o⟩)
        have j0:=Ja (p5.out.trans (o.mono p5.out.size));clear o;obtain⟨f0,f1,f2,f3,f4,f5,f6,f7,f8,f9,B7,B6,B5,B4,B3,B2,B1,B0,A9,A8,A7,A6,A5,A4,A3,A2,A1⟩:=k3.out y2 j0.out
        obtain⟨n1,n2,n3,n4,n5⟩:=k2.out y2 j0.out)
      |(go_at_call 20
        go_must (refine(j5.out _ j0.out).mono ?_;rintro e y3 ⟨rfl,s6⟩)
        have p4:=Ja (j0.out.trans (s6.mono j0.out.size));clear s6;obtain⟨g0,g1,g2,g3,g4,g5,g6,g7,g8,g9,A0,z9,z8,z7,z6,z5,z4,z3,z2,z1,z0,y6,y5,y0,x9,x8,x7⟩:=k3.out y3 p4.out
        obtain⟨r1,r2,r3,r4,r5⟩:=k2.out y3 p4.out))
     all_goals go_ret
     all_goals exact⟨rfl,m.out.1.trans (p4.out.mono m.out.1.size)⟩
end Go.Proofs.Ytojclalkfhoooaa
set_option maxRecDepth 100000
namespace Go.Proofs.Ytojclalkfhoooaa
open Go.ChangeShapes Go.WideShapes Go.ChangeAt Go.RowKit
variable {W w w0 w2:World}{u0 u1 u2 u3 u4 u5:Value}{aa fa oa:Option Addr}{ac bc dc fc g j oc:Nat}{vs:List Value}{l:List (Nat×Nat)}{R:IRun}
theorem acP{P:Program}{H:Type}{enc:TypeId×Value->H}{fuel:Nat}{n:Nat}{t e:TypeId}{q:IntKind}{cs:List Value}{x:DataW H×List MemPlace}(o:P.underlying t=some (.array n e))(r:P.underlying e=some (.int q))(c1:P.cellsOf e=1)(hl:cs.length=n)
 (hf:DataW.trod enc P W 0 (fun _=>true) true fuel t cs=some x):∃zs:List Int,cs=zs.map (.int q)/\zs.length=n/\∀z∈zs,(Lit.int q z).wf=true:=by
 obtain⟨xs,k,_,_,_,u,j⟩:=DataW.trod_array o hf
 have d:∀i,i<n->∃z:Int,cs[i]? =some (.int q z)/\(Lit.int q z).wf=true:=by
  intro i hi;have g:=j i hi;rw[c1,Jd Zo] at g;obtain⟨z,e0,_,w0⟩:=DataW.trod_int r g;refine⟨z,?_,w0⟩;rw[Nk] at e0;have h:=congrArg (fun l:List Value=>l[0]?) e0
  simpa using h
 obtain⟨f,c⟩:=Go.Deep.choose_lt d;refine⟨(List.range n).map f,?_,by simp,?_⟩
 ·apply Oq;intro i
  by_cases hi:i<n
  ·rw[(c i hi).1];simp[hi]
  ·rw[Of Zo,Of Zt]
 ·intro z m;obtain⟨i,hi,rfl⟩:=Nu.1 m;exact(c i (Ol.1 hi)).2
theorem kX {z:Int}(h:(Lit.int .i64 z).wf=true):I64 z:=by
 unfold I64
 simpa[Lit.wf,IntKind.min,IntKind.max,IntKind.signed,IntKind.bits] using h
theorem a8 {z:Int}(h:(Lit.int .u16 z).wf=true):∃x:Nat,z=(x:Int)/\x<65536:=by
 have h:0<=z/\z<=65535:=by simpa[Lit.wf,IntKind.min,IntKind.max,IntKind.signed,IntKind.bits] using h
 exact⟨z.toNat,by rw[Oa h.1],by omega⟩
section
variable {H:Type} {enc:TypeId×Value->H} {W:World} {v:Value} {d:DataW H} {p:List MemPlace} {r:Go.Reach} {base:Nat}
theorem jy (hv:Value.okWide Try.prog W r base 23 v)(i:DataW.Trod enc Try.prog W 0 (fun _=>true) true 23 v d p):∃q0 q1 q2:Int,v=.agg #[.int .i64 q0,.int .i64 q1,.int .i64 q2]/\(I64 q0/\I64 q1/\I64 q2):=by
 have c2:Try.prog.cellsOf 23=3:=by kernel_rfl
 have c1:Try.prog.cellsOf 3=1:=by kernel_rfl
 simp only[Value.okWide,Try.underlying23] at hv;obtain⟨cs,rfl,g,_⟩:=hv;rw[c2] at g;obtain⟨fuel,hf⟩:=i;simp only[Value.cells] at hf;obtain⟨zs,e,hl,h⟩:=acP Try.underlying23 Try.underlying3 c1 (by simpa using g) hf
 obtain⟨a,b,c,rfl⟩:∃a b c,zs=[a,b,c]:=by
  match zs,hl with
  | [a,b,c],_=>exact⟨a,b,c,rfl⟩
 refine⟨a,b,c,?_,kX (h a Zs),kX (h b Zs),kX (h c Zs)⟩
 have e2:cs=#[.int .i64 a,.int .i64 b,.int .i64 c]:=by
  rw[<-Array.toArray_toList (xs:=cs),e];rfl
 rw[e2]
end
end Go.Proofs.Ytojclalkfhoooaa
set_option maxRecDepth 100000
namespace Go.Proofs.Ytojclalkfhoooaa
open Go.ChangeShapes Go.WideShapes Go.ChangeAt Go.RowKit
variable {W w w0 w2:World}{u0 u1 u2 u3 u4 u5:Value}{aa fa oa:Option Addr}{ac bc dc fc g j oc:Nat}{vs:List Value}{l:List (Nat×Nat)}{R:IRun}
section
variable {H:Type} {enc:TypeId×Value->H} {W:World} {v:Value} {d:DataW H} {p:List MemPlace} {r:Go.Reach} {base:Nat}
theorem fz (hv:Value.okWide Try.prog W r base 41 v)(j:DataW.Trod enc Try.prog W 0 (fun _=>true) true 41 v d p):∃x:SetF,SetIn W W.heap.size v x:=by
 obtain⟨cs,rfl,g⟩:=okWide_struct Try.underlying41 hv;have c6:Try.prog.cellsOf 41=4:=by kernel_rfl
 have c1:Try.prog.cellsOf 36=1:=by kernel_rfl
 have c2:Try.prog.cellsOf 37=1:=by kernel_rfl
 have c3:Try.prog.cellsOf 38=1:=by kernel_rfl
 have c4:Try.prog.cellsOf 39=1:=by kernel_rfl
 rw[c6] at g
 obtain⟨u0,u1,u2,u3,rfl⟩:∃u0 u1 u2 u3,cs=#[u0,u1,u2,u3]:=by
  match cs,g with
  |⟨[u0,u1,u2,u3]⟩,_=>exact⟨u0,u1,u2,u3,rfl⟩
 obtain⟨fuel,hf⟩:=j;obtain⟨xs,n,_,_,_,i,c⟩:=DataW.trod_struct Try.underlying41 hf;have k:xs.length=4:=i;have g0:DataW.trod enc Try.prog W 0 (fun _=>true) true n 36 (([u0,u1,u2,u3].drop 0).take (Try.prog.cellsOf 36))=xs[0]?:=c 0 _ rfl;have g1:DataW.trod enc Try.prog W 0 (fun _=>true) true n 37 (([u0,u1,u2,u3].drop 1).take (Try.prog.cellsOf 37))=xs[1]?:=c 1 _ rfl;have g2:DataW.trod enc Try.prog W 0 (fun _=>true) true n 38 (([u0,u1,u2,u3].drop 2).take (Try.prog.cellsOf 38))=xs[2]?:=c 2 _ rfl;have g3:DataW.trod enc Try.prog W 0 (fun _=>true) true n 39 (([u0,u1,u2,u3].drop 3).take (Try.prog.cellsOf 39))=xs[3]?:=c 3 _ rfl;rw[c1] at g0;rw[c2] at g1;rw[c3] at g2;rw[c4] at g3;rw[Jd Zo] at g0 g1 g2 g3;obtain⟨z2,e2,_,w2⟩:=DataW.trod_int Try.underlying38 g2;obtain⟨z3,e3,_,w3⟩:=DataW.trod_int Try.underlying39 g3;simp at e2 e3 g0 g1;obtain⟨i1,h1⟩:=words_at g0;obtain⟨i2,h2⟩:=bytes_at g1;obtain⟨a1,k1,e0,_,_⟩:=h1.form;obtain⟨a2,k2,e1,_,_⟩:=h2.form;have w2:0<=z2/\z2<=4294967295:=by simpa[Lit.wf,IntKind.min,IntKind.max,IntKind.signed,IntKind.bits] using w2
 obtain⟨y3,rfl,h⟩:=a8 w3;obtain⟨y2,rfl⟩:∃y:Nat,z2=(y:Int):=⟨z2.toNat,by omega⟩
 subst e0 e1 e2 e3;exact⟨⟨i1,i2,y2,y3⟩,⟨a1,k1,a2,k2,rfl,h1,h2⟩,by show y2<4294967296;omega,h⟩
end
end Go.Proofs.Ytojclalkfhoooaa
