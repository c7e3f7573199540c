/- Part of a proof. -/
import Derived.Test.YtojclalkfhoooaaGTur5
import Derived.Laws.Tables
set_option linter.all false
set_option maxHeartbeats 4000000
set_option maxRecDepth 100000
namespace Go.Proofs.Ytojclalkfhoooaa
open Go.RowKit
variable {o:IOp}{w:World}{t:ITerm}{i:Nat}{bs:List IBlk}{M:MS}{c:MS->MS}
def aeN:List ByteArray:=[⟨#[]⟩,⟨#[99,111,110,115,116]⟩,⟨#[111,98,106]⟩,⟨#[110,101,103]⟩,⟨#[110,111,116]⟩,⟨#[97,100,100]⟩,⟨#[115,117,98]⟩,⟨#[109,117,108]⟩,⟨#[100,105,118]⟩,⟨#[97,110,100]⟩,⟨#[111,114]⟩,⟨#[120,111,114]⟩,⟨#[115,104,108]⟩,⟨#[115,104,114]⟩,⟨#[115,97,114]⟩,⟨#[101,113]⟩,⟨#[108,116,117]⟩,⟨#[108,116,115]⟩,⟨#[108,111,97,100]⟩,⟨#[108,111,97,100,98]⟩,⟨#[115,116,111,114,101]⟩,⟨#[115,116,111,114,101,98]⟩,⟨#[114,111,109]⟩,⟨#[114,111,109,98]⟩,⟨#[105,110]⟩,⟨#[111,117,116]⟩,⟨#[99,97,108,108]⟩,⟨#[112,111,108,108]⟩]
def ag (c:Int):ByteArray:=aeN.getD c.toNat ⟨#[]⟩
def pt (o:IOp):ByteArray:=
 if o.code<1∨27<o.code then⟨#[63]⟩
 else if o.code=2 then(((ag o.code++(⟨#[32]⟩:ByteArray))++sg o.a)++(⟨#[32,43,32]⟩:ByteArray))++sg o.n
 else if o.code=26 then((((ag o.code++(⟨#[32,102]⟩:ByteArray))++sg o.a)++(⟨#[40]⟩:ByteArray))++mc o.args)++(⟨#[41]⟩:ByteArray)
 else
  let s1:=if(zi o.code).n then(if(zi o.code).a then((ag o.code++(⟨#[32]⟩:ByteArray))++sg o.n)++(⟨#[44]⟩:ByteArray) else(ag o.code++(⟨#[32]⟩:ByteArray))++sg o.n) else ag o.code
  let s2:=if(zi o.code).a then(s1++(⟨#[32,118]⟩:ByteArray))++sg o.a else s1
  if(zi o.code).b then(s2++(⟨#[44,32,118]⟩:ByteArray))++sg o.b else s2
theorem bd:∀k:Nat,(aeN.getD k ⟨#[]⟩).size<=6
 |0=>by decide|1=>by decide|2=>by decide|3=>by decide|4=>by decide|5=>by decide|6=>by decide|7=>by decide|8=>by decide|9=>by decide
 |10=>by decide|11=>by decide|12=>by decide|13=>by decide|14=>by decide|15=>by decide|16=>by decide|17=>by decide|18=>by decide|19=>by decide
 |20=>by decide|21=>by decide|22=>by decide|23=>by decide|24=>by decide|25=>by decide|26=>by decide|27=>by decide
 |k+28=>by show(0:Nat)<=6;decide
def aeE:Array Value:=#[.string ⟨#[]⟩,.string ⟨#[99,111,110,115,116]⟩,.string ⟨#[111,98,106]⟩,.string ⟨#[110,101,103]⟩,.string ⟨#[110,111,116]⟩,.string ⟨#[97,100,100]⟩,.string ⟨#[115,117,98]⟩,.string ⟨#[109,117,108]⟩,.string ⟨#[100,105,118]⟩,.string ⟨#[97,110,100]⟩,.string ⟨#[111,114]⟩,.string ⟨#[120,111,114]⟩,.string ⟨#[115,104,108]⟩,.string ⟨#[115,104,114]⟩,.string ⟨#[115,97,114]⟩,.string ⟨#[101,113]⟩,.string ⟨#[108,116,117]⟩,.string ⟨#[108,116,115]⟩,.string ⟨#[108,111,97,100]⟩,.string ⟨#[108,111,97,100,98]⟩,.string ⟨#[115,116,111,114,101]⟩,.string ⟨#[115,116,111,114,101,98]⟩,.string ⟨#[114,111,109]⟩,.string ⟨#[114,111,109,98]⟩,.string ⟨#[105,110]⟩,.string ⟨#[111,117,116]⟩,.string ⟨#[99,97,108,108]⟩,.string ⟨#[112,111,108,108]⟩]
theorem aeK {k:Nat}(h:k<28):aeE[k]? =some (.string (aeN.getD k ⟨#[]⟩)):=by
 rcases k with _|_|_|_|_|_|_|_|_|_|_|_|_|_|_|_|_|_|_|_|_|_|_|_|_|_|_|_|k
 all_goals first|rfl|omega
theorem i7{N:Nat}(h:I64 o.a/\I64 o.b/\o.n<65536/\∀x∈o.args,I64 x)(hl:o.args.length<=N):(pt o).size<=24*N+100:=by
 obtain⟨d,hb,g,c⟩:=h;have s0:=bd o.code.toNat;have s1:=wk d;have s2:=wk hb;have s3:=wk (n:=(o.n:Int)) ⟨by omega,by omega⟩;have s4:=wv c o.args.length;have z1:(⟨#[63]⟩:ByteArray).size=1:=rfl;have z2:(⟨#[32]⟩:ByteArray).size=1:=rfl;have z3:(⟨#[32,43,32]⟩:ByteArray).size=3:=rfl;have z4:(⟨#[32,102]⟩:ByteArray).size=2:=rfl;have z5:(⟨#[40]⟩:ByteArray).size=1:=rfl;have z6:(⟨#[41]⟩:ByteArray).size=1:=rfl;have z7:(⟨#[44]⟩:ByteArray).size=1:=rfl;have z8:(⟨#[32,118]⟩:ByteArray).size=2:=rfl;have z9:(⟨#[44,32,118]⟩:ByteArray).size=3:=rfl;unfold pt ag mc;simp only
 repeat' split
 all_goals ((try simp only[ByteArray.size_append,z1,z2,z3,z4,z5,z6,z7,z8,z9]);omega)
theorem aeL:aeE.all (·.oneCell')=true:=by simp[aeE,Value.oneCell']
theorem aeD:(Try.prog.info? 185).map (·.size)=some aeE.size:=by kernel_rfl
theorem dx (W:World)(c new:Array Value)(t:TypeId){g:Nat}(hg:g=W.heap.size):(W.alloc (A c t)).setRow g new=W.alloc (A new t):=by
 subst hg;unfold World.setRow World.alloc
 congr 1
 apply Array.ext
 ·simp
 ·intro k h1 h2;simp only[Array.getElem_modify,Array.getElem_push]
  split
  ·rename_i hk
   subst hk;simp
  ·rename_i hk
   have:k<W.heap.size:=by simp at h2;omega
   simp[this]
theorem em{P:Program}{ops:Array Oper}{rest:List Oper}{o:Oper}{a:Act}{Q:Exit->Act->World->Prop}(hg:o.guard=none)(t:TypeId)(c:Array (Nat×Operand))(ho:o.op=.build t c)(d:Array Value)
 (hf:P.built t (c.map fun(i,x)=>(i,a.eval x)).toList=some d)
 (h:wpList P ops Q rest (a.put o.dst (.agg d)) w):wpList P ops Q (o::rest) a w:=
 wpList_build hg t c ho (by rw[hf];rfl) (by rw[hf];exact h)
def opTVal (o:IOp)(av:Value):Value:=.agg #[O o.code,O o.res,O o.a,O o.b,U (o.n:Int),av]
theorem aeH{av:Value}(h:I64 o.code/\I64 o.a/\I64 o.b/\o.n<65536)(hv:zY w w.heap.size av o.args)(h64:∀x∈o.args,I64 x)(hl:o.args.length<=4000000):
 G 88 #[opTVal o av] w (aap w (pt o)):=by
 obtain⟨c,r,a,b,n,args⟩:=o;obtain⟨hc,ha,hb,hn⟩:=h;simp only at hc ha hb hn hv h64 hl;unfold opTVal;simp only;have a2:I64 (n:Int):=⟨by omega,by omega⟩
 have hD:=Ja (fun x (hx:I64 x) W=>ma W x hx);obtain⟨fi,fr,fa,fb,fn,a0⟩:∃fi fr fa fb fn,zi c=⟨fi,fr,fa,fb,fn⟩:=⟨_,_,_,_,_,rfl⟩
 have hS:∀W,G 54 #[O c] W (fun e w'=>e=.returned (.agg #[.bool fi,.bool fr,.bool fa,.bool fb,.bool fn])/\L W w'):=fun W=>by
  have:=aaK c W;rw[a0] at this;exact this
 have HS:=Ja hS;obtain⟨nm,a1⟩:∃s,ag c=s:=⟨_,rfl⟩
 have c4:nm.size<=6:=by rw[<-a1];exact bd _
 have s1:=wk ha;have s2:=wk hb;have s3:=wk a2;have s4:(mc args).size<=24*args.length:=wv h64 args.length;have HV:=Ja (Jb hv (Jb h64 hl));have HI:=Ja (Jb ha (Jb hb a2));have HR:=Ja (Jb a1 a0);obtain⟨va,vc,rfl,c0,b9⟩:=hv.form;have z2:(⟨#[32]⟩:ByteArray).size=1:=rfl;have z3:(⟨#[32,43,32]⟩:ByteArray).size=3:=rfl;have z4:(⟨#[32,102]⟩:ByteArray).size=2:=rfl;have z5:(⟨#[40]⟩:ByteArray).size=1:=rfl;have z6:(⟨#[41]⟩:ByteArray).size=1:=rfl;have z7:(⟨#[44]⟩:ByteArray).size=1:=rfl;have z8:(⟨#[32,118]⟩:ByteArray).size=2:=rfl;have z9:(⟨#[44,32,118]⟩:ByteArray).size=3:=rfl;have HZ:=Ja (Jb z2 (Jb z3 (Jb z4 (Jb z5 (Jb z6 (Jb z7 (Jb z8 z9)))))));clear hv h64 ha hb a2 hc a1 a0 hS z2 z3 z4 z5 z6 z7 z8 z9;go_enter Try.func88,Try.ntmps88;go_upto_region 1 with fail
 go_cut [3] (fun v wx=>∃bn,v=I bn/\Hid (L w wx/\wx.heap[w.heap.size]? =some (A #[O c,O r,O a,O b,U n,.slice va args.length vc] 77)/\bn<wx.heap.size/\∀k,k<28->T wx bn k (.string (aeN.getD k ⟨#[]⟩))))
 case first=>
  have b5:=Ja (show((w.alloc (A #[O c,O r,O a,O b,U n,.slice va args.length vc] 77)).alloc (A #[.string ⟨#[]⟩,.string ⟨#[]⟩,.string ⟨#[]⟩,.string ⟨#[]⟩,.string ⟨#[]⟩,.string ⟨#[]⟩,.string ⟨#[]⟩,.string ⟨#[]⟩,.string ⟨#[]⟩,.string ⟨#[]⟩,.string ⟨#[]⟩,.string ⟨#[]⟩,.string ⟨#[]⟩,.string ⟨#[]⟩,.string ⟨#[]⟩,.string ⟨#[]⟩,.string ⟨#[]⟩,.string ⟨#[]⟩,.string ⟨#[]⟩,.string ⟨#[]⟩,.string ⟨#[]⟩,.string ⟨#[]⟩,.string ⟨#[]⟩,.string ⟨#[]⟩,.string ⟨#[]⟩,.string ⟨#[]⟩,.string ⟨#[]⟩,.string ⟨#[]⟩] 185)).heap[w.heap.size+1]? =some (A #[.string ⟨#[]⟩,.string ⟨#[]⟩,.string ⟨#[]⟩,.string ⟨#[]⟩,.string ⟨#[]⟩,.string ⟨#[]⟩,.string ⟨#[]⟩,.string ⟨#[]⟩,.string ⟨#[]⟩,.string ⟨#[]⟩,.string ⟨#[]⟩,.string ⟨#[]⟩,.string ⟨#[]⟩,.string ⟨#[]⟩,.string ⟨#[]⟩,.string ⟨#[]⟩,.string ⟨#[]⟩,.string ⟨#[]⟩,.string ⟨#[]⟩,.string ⟨#[]⟩,.string ⟨#[]⟩,.string ⟨#[]⟩,.string ⟨#[]⟩,.string ⟨#[]⟩,.string ⟨#[]⟩,.string ⟨#[]⟩,.string ⟨#[]⟩,.string ⟨#[]⟩] 185) from zI Zs);go_wp2_with (first|(refine em rfl 185 _ rfl aeE Zk ?_)|(refine wpList_store_row rfl 185 _ _ rfl (w.heap.size+1) aeE rfl rfl _ _ b5.out aeD rfl aeL ?_;rw[dx _ _ _ _ Zs]))
  go_meet;exact⟨_,rfl,Ja ⟨((Below.refl _ _).alloc (Je _) _).alloc Zs _,zB (zI rfl),by simp,fun k hk=>zA (zI Zs) (aeK hk)⟩⟩
 case rest=>
 obtain⟨bn,rfl,t⟩:=hcut;have d0:=zA (i:=0) t.out.2.1 rfl
 by_cases y:c<1∨27<c
 ·have j:pt ⟨c,r,a,b,n,args⟩=⟨#[63]⟩:=by unfold pt;rw[if_pos y]
  have HB:=Ja (Jb j t.out.1);clear j HZ;rcases y with h1|h1
  ·go_wp2;go_ret;exact⟨by rw[HB.out.1];rfl,HB.out.2⟩
  ·have h2:1<=c:=Zo;go_wp2;go_ret;exact⟨by rw[HB.out.1];rfl,HB.out.2⟩
 ·have h1:1<=c:=Zo;have c7:c<=27:=Zo
  have b3:T wc bn c.toNat (.string nm):=by
   rw[<-HR.out.1];exact t.out.2.2.2 _ Zo
  have b4:bn<wc.heap.size:=t.out.2.2.1;have d4:=zA (i:=4) t.out.2.1 rfl;have a4:=Ja y;clear y;go_upto_region 6 with(go_at_call 86;go_must (refine(hD.out _ HI.out.2.2 _).mono ?_;rintro e w1 ⟨rfl,g⟩))
  have H1:=Ja (Jb (t.out.1.trans (g.mono t.out.1.size)) (zH g t.out.2.1 (lt_of_block t.out.2.1)));clear t g d4 d0 b3 b4;have d0:=zA (i:=0) H1.out.2 rfl;go_upto_region 7 with(go_at_call 54;go_must (refine(HS.out _).mono ?_;rintro e w2 ⟨rfl,u⟩))
  have a3:=u.alloc u.size (A #[.bool fi,.bool fr,.bool fa,.bool fb,.bool fn] 111);have d:=Ja (Jb (H1.out.1.trans (a3.mono H1.out.1.size)) (Jb (zH a3 H1.out.2 (lt_of_block H1.out.2)) (zI (W:=w2) (o:=A #[.bool fi,.bool fr,.bool fa,.bool fb,.bool fn] 111) rfl)));clear H1 u d0 a3;generalize w2.alloc (A #[.bool fi,.bool fr,.bool fa,.bool fb,.bool fn] 111)=Y at *;generalize w2.heap.size=bf at *;have d0:=zA (i:=0) d.out.2.1 rfl;have d2:=zA (i:=2) d.out.2.1 rfl;have d3:=zA (i:=3) d.out.2.1 rfl;have d5:=zA (i:=5) d.out.2.1 rfl;have c5:=lt_of_block d.out.2.1
  by_cases m:c=2
  ·have j:pt ⟨c,r,a,b,n,args⟩=(((nm++(⟨#[32]⟩:ByteArray))++sg a)++(⟨#[32,43,32]⟩:ByteArray))++sg n:=by unfold pt;rw[if_neg a4.out,if_pos m,HR.out.1]
   have q:=Ja j;clear j HR;subst m;obtain⟨z2,z3,z4,z5,z6,z7,z8,z9⟩:=HZ.out;go_wp2_with (go_at_call 86;go_must (refine(hD.out _ HI.out.1 _).mono ?_;rintro e w1 ⟨rfl,g⟩))
   all_goals first
    |(exfalso;simp only[ByteArray.size_append] at *;omega)
    |(go_ret;rw[q.out];exact⟨rfl,d.out.1.trans (g.mono d.out.1.size)⟩)
  by_cases l:c=26
  ·have j:pt ⟨c,r,a,b,n,args⟩=((((nm++(⟨#[32,102]⟩:ByteArray))++sg a)++(⟨#[40]⟩:ByteArray))++mc args)++(⟨#[41]⟩:ByteArray):=by unfold pt;rw[if_neg a4.out,if_neg m,if_pos l,HR.out.1]
   have q:=Ja j;clear j HR m;subst l;have b6:=HV.out.2.2;obtain⟨z2,z3,z4,z5,z6,z7,z8,z9⟩:=HZ.out;have HC:=Ja (show ∀W,L Y W->(T W w.heap.size 2 (O a)/\T W w.heap.size 5 (.slice va args.length vc)) from fun W hb=>⟨zA (zH hb d.out.2.1 (lt_of_block d.out.2.1)) rfl,zA (zH hb d.out.2.1 (lt_of_block d.out.2.1)) rfl⟩);have HL:=Ja (show ∀W,L Y W->G 87 #[.slice va args.length vc] W (fun e w'=>e=.returned (.string (mc args))/\L W w') from fun W hb=>gn ((HV.out.1.below zO (d.out.1.trans (hb.mono d.out.1.size))).mono zO (d.out.1.trans (hb.mono d.out.1.size)).size) HV.out.2.2 HV.out.2.1);obtain⟨ds,a7⟩:∃s,sg a=s:=⟨_,rfl⟩
   obtain⟨ls,a6⟩:∃s,mc args=s:=⟨_,rfl⟩
   have b0:=Ja (fun W=>hD.out a HI.out.1 W);rw[a7] at b0 q s1;rw[a6] at HL q s4;clear a7 a6 hD;have q1:¬9223372036854775807<nm.size+2:=Zo;have q2:¬9223372036854775807<nm.size+2+ds.size:=Zo;have q3:¬9223372036854775807<nm.size+2+ds.size+1:=Zo;have q4:¬9223372036854775807<nm.size+2+ds.size+1+ls.size:=Zo;have q5:¬9223372036854775807<nm.size+2+ds.size+1+ls.size+1:=Zo;go_upto_region 11 with fail
   go_region_held3 (fun w'=>T w' w.heap.size 2 (O a)/\T w' w.heap.size 5 (.slice va args.length vc))
    ((refine HC.out _ ?_;repeat' (first|with_reducible exact Below.refl _ _|with_reducible assumption|with_reducible refine Below.drew ?_|with_reducible refine Below.alloc ?_ Zn _|with_reducible refine Below.setCell ?_ Zn _)))
    (first
      |(go_at_call 86
        refine(b0.out _).mono ?_;rintro e y1 ⟨rfl,g⟩;have b2:L Y y1:=Below.trans Zb (g.mono Zn);have c3:=b2.size
        clear g)
      |(go_at_call 87
        refine(HL.out _ Zb).mono ?_;rintro e y2 ⟨rfl,u⟩;have b1:L Y y2:=Below.trans Zb (u.mono Zn);have c2:=b1.size
        clear u))
   all_goals first
    |(exfalso;simp only[ByteArray.size_append] at *;omega)
    |(go_wp2_with fail;go_ret;exact⟨by rw[q.out];rfl,d.out.1.trans (Below.mono (by first|assumption|exact uG Zz) d.out.1.size)⟩)
  ·have c8:(c==2)=false:=by simpa using m
   have b7:(c==26)=false:=by simpa using l
   obtain⟨z2,z3,z4,z5,z6,z7,z8,z9⟩:=HZ.out
   have j:pt ⟨c,r,a,b,n,args⟩=(let s1:=if fn=true then(if fa=true then((nm++(⟨#[32]⟩:ByteArray))++sg n)++(⟨#[44]⟩:ByteArray) else(nm++(⟨#[32]⟩:ByteArray))++sg n) else nm
    let s2:=if fa=true then(s1++(⟨#[32,118]⟩:ByteArray))++sg a else s1
    if fb=true then(s2++(⟨#[44,32,118]⟩:ByteArray))++sg b else s2):=by
    unfold pt;rw[if_neg a4.out,if_neg m,if_neg l,HR.out.1,HR.out.2]
   have q:=Ja j;have g2:=zA (i:=2) d.out.2.2 rfl;have g3:=zA (i:=3) d.out.2.2 rfl;have g4:=zA (i:=4) d.out.2.2 rfl;clear j HR m l HS;cases fn<;>cases fa<;>cases fb
   all_goals
    go_wp2_with (first
     |(go_at_call 86
       with_reducible refine(hD.out a HI.out.1 _).mono ?_
       rintro e w1 ⟨rfl,g⟩;have k3:=zA (i:=3) (zH g d.out.2.2 (lt_of_block d.out.2.2)) rfl;have l3:=zA (i:=3) (zH g d.out.2.1 (lt_of_block d.out.2.1)) rfl;have b8:=lt_of_block (zH g d.out.2.1 (lt_of_block d.out.2.1));have a5:=Ja (d.out.1.trans (g.mono d.out.1.size))
       clear g)
     |(go_at_call 86
       with_reducible refine(hD.out b HI.out.2.1 _).mono ?_
       rintro e w3 ⟨rfl,a9⟩))
    all_goals first
     |(exfalso;simp only[ByteArray.size_append] at *;omega)
     |(go_ret;exact⟨by rw[q.out];rfl,by first|exact d.out.1|exact a5.out|exact a5.out.trans (a9.mono a5.out.size)|exact d.out.1.trans (a9.mono d.out.1.size)⟩)
def rf (es:List IEdge)(s0:ByteArray):Nat->ByteArray
 |0=>s0
 |k+1=>(((((if 0<k then rf es s0 k++(⟨#[44,32]⟩:ByteArray) else rf es s0 k)++(⟨#[98]⟩:ByteArray))++sg (es.getD k ⟨0,[]⟩).block)++(⟨#[40]⟩:ByteArray))++mc (es.getD k ⟨0,[]⟩).args)++(⟨#[41]⟩:ByteArray)
def nv (kd a:Int):ByteArray:=if kd=1 then(⟨#[106,117,109,112,32]⟩:ByteArray) else if kd=2 then((⟨#[98,114,97,110,99,104,32,118]⟩:ByteArray)++sg a)++(⟨#[44,32]⟩:ByteArray) else((⟨#[115,119,105,116,99,104,32,118]⟩:ByteArray)++sg a)++(⟨#[44,32]⟩:ByteArray)
def tr (t:ITerm):ByteArray:=
 if t.kind=1∨t.kind=2∨t.kind=3 then rf t.to (nv t.kind t.a) t.to.length
 else if t.kind=4 then(if t.a=-1 then(⟨#[114,101,116,117,114,110]⟩:ByteArray) else(⟨#[114,101,116,117,114,110,32,118]⟩:ByteArray)++sg t.a)
 else if t.kind=5 then(⟨#[104,97,108,116]⟩:ByteArray) else(⟨#[63]⟩:ByteArray)
theorem sq {kd a:Int}(h:I64 a):(nv kd a).size<=40:=by
 have s1:=wk h;have z1:(⟨#[106,117,109,112,32]⟩:ByteArray).size=5:=rfl;have z2:(⟨#[98,114,97,110,99,104,32,118]⟩:ByteArray).size=8:=rfl;have z3:(⟨#[115,119,105,116,99,104,32,118]⟩:ByteArray).size=8:=rfl;have z4:(⟨#[44,32]⟩:ByteArray).size=2:=rfl;unfold nv
 repeat' split
 all_goals ((try simp only[ByteArray.size_append,z1,z2,z3,z4]);omega)
theorem p6 {es:List IEdge}{s0:ByteArray}{N:Nat}(h:∀e∈es,I64 e.block/\(∀x∈e.args,I64 x)/\e.args.length<=N)(d:s0.size<=40):∀k,(rf es s0 k).size<=40+k*(24*N+26)
 |0=>by rw[Nat.zero_mul];exact d
 |k+1=>by
  have h1:=p6 h d k
  have h2:(sg (es.getD k ⟨0,[]⟩).block).size<=21/\(mc (es.getD k ⟨0,[]⟩).args).size<=24*N:=by
   rw[Jj]
   cases e:es[k]? with
   |none=>exact⟨wk pZ,Jt _⟩
   |some x=>
    have c:=h x (Ji e);exact⟨wk c.1,Jn (wv c.2.1 _) (by have:=c.2.2;show 24*x.args.length<=_;omega)⟩
  have z1:(⟨#[44,32]⟩:ByteArray).size=2:=rfl;have z2:(⟨#[98]⟩:ByteArray).size=1:=rfl;have z3:(⟨#[40]⟩:ByteArray).size=1:=rfl;have z4:(⟨#[41]⟩:ByteArray).size=1:=rfl;unfold rf;rw[Nat.succ_mul]
  split
  all_goals (simp only[ByteArray.size_append,z1,z2,z3,z4];omega)
def tmTVal (t:ITerm)(tv:Value):Value:=.agg #[O t.kind,O t.a,tv]
theorem ax{tv:Value}(h:I64 t.kind/\I64 t.a)(hv:wH w w.heap.size tv t.to)(h64:∀e∈t.to,I64 e.block/\(∀x∈e.args,I64 x)/\e.args.length<=20000)(hl:t.to.length<=20000):
 G 89 #[tmTVal t tv] w (aap w (tr t)):=by
 obtain⟨kd,a,es⟩:=t;obtain⟨hk,ha⟩:=h;simp only at hk ha hv h64 hl;unfold tmTVal;simp only;have u:=Ja (fun x (hx:I64 x) W=>ma W x hx);have s1:=wk ha;have HV:=Ja (Jb hv (Jb h64 hl));have HA:=Ja ha;obtain⟨va,vc,rfl,e6,e5⟩:=hv.form;clear hv h64 hk ha
 by_cases hk:kd=1∨kd=2∨kd=3
 ·have r:tr ⟨kd,a,es⟩=rf es (nv kd a) es.length:=by unfold tr;rw[if_pos hk]
  have b9:=p6 HV.out.2.1 (sq (kd:=kd) HA.out);have g:=Ja r;have c7:=Ja b9;have c3:=sq (kd:=kd) HA.out;obtain⟨s0,a9⟩:∃s,nv kd a=s:=⟨_,rfl⟩
  rw[a9] at g c7 c3;have b8:=Ja a9;clear r b9 a9;go_enter Try.func89,Try.ntmps89;go_upto_region 1 with fail;have d:=Ja (Jb ((Below.refl w.heap.size w).alloc (Je _) (A #[O kd,O a,.slice va es.length vc] 47)) (zI (W:=w) (o:=A #[O kd,O a,.slice va es.length vc] 47) rfl));generalize w.alloc (A #[O kd,O a,.slice va es.length vc] 47)=X at *;have d0:=zA (i:=0) d.out.2 rfl;have d1:=zA (i:=1) d.out.2 rfl;have d6:=lt_of_block d.out.2
  go_upto_block 0 with fail
  go_cut [3] (fun v wx=>v=.string s0/\Hid (L X wx))
  case first=>
   rcases hk with rfl|rfl|rfl
   ·go_wp2_with fail;go_meet;exact⟨congrArg Value.string b8.out,Ja (Below.refl _ _)⟩
   ·go_wp2_with (go_at_call 86;go_must (refine(u.out _ HA.out _).mono ?_;rintro e w1 ⟨rfl,c⟩))
    all_goals first
     |(exfalso;simp only[ByteArray.size_append] at *;omega)
     |(go_meet;exact⟨congrArg Value.string b8.out,Ja c⟩)
   ·go_wp2_with (go_at_call 86;go_must (refine(u.out _ HA.out _).mono ?_;rintro e w1 ⟨rfl,c⟩))
    all_goals first
     |(exfalso;simp only[ByteArray.size_append] at *;omega)
     |(go_meet;exact⟨congrArg Value.string b8.out,Ja c⟩)
  case rest=>
  obtain⟨rfl,H1⟩:=hcut;clear d0 d1;have y:=Ja (Jb (d.out.1.trans (H1.out.mono d.out.1.size)) (zH H1.out d.out.2 (lt_of_block d.out.2)));clear d H1 d6 hk c3 u s1;obtain⟨x,hx⟩:∃x,wc=x:=⟨_,rfl⟩
  rw[hx] at y ⊢;clear hx;go_wp2
  go_loopw [3,4] (fun sv kv wx=>∃k:Nat,k<=es.length/\sv=.string (rf es s0 k)/\kv=O k/\L x wx) (fun _ kv _=>es.length-(intOf kv).toNat)
  case atStart=>exact⟨0,Jt _,rfl,rfl,Below.refl _ _⟩
  case round=>
   obtain⟨k,hk,rfl,rfl,hb⟩:=hrel;have a0:=y.out.1.trans (hb.mono y.out.1.size);have a5:=zH hb y.out.2 (lt_of_block y.out.2);have d2:=zA (i:=2) a5 rfl
   by_cases b0:k<es.length
   ·obtain⟨e,he⟩:∃e,es[k]? =some e:=⟨_,Jd b0⟩
    have d8:(k:Int)<(es.length:Int):=Zo;obtain⟨ab,ao,ea,c5,b4,l,av,b3,b5⟩:=((HV.out.1.below xL a0).mono xL a0.size).get he;subst ea;have j:=HV.out.2.1 e (Ji he);have c4:es.getD k ⟨0,[]⟩=e:=by rw[Jj,he];rfl
    obtain⟨sJ,a2⟩:∃s,(if 0<k then rf es s0 k++(⟨#[44,32]⟩:ByteArray) else rf es s0 k)=s:=⟨_,rfl⟩
    obtain⟨ds,a4⟩:∃s,sg e.block=s:=⟨_,rfl⟩
    obtain⟨ls,a3⟩:∃s,mc e.args=s:=⟨_,rfl⟩
    have e2:ds.size<=21:=by rw[<-a4];exact wk l
    have d5:ls.size<=24*20000:=by rw[<-a3];exact Jn (wv j.2.1 _) (by have:=j.2.2;show 24*e.args.length<=_;omega)
    have c9:=c7.out k;have d7:k*(24*20000+26)<=20000*(24*20000+26):=Qw _ Zo
    have e1:sJ.size<=42+20000*(24*20000+26):=by
     rw[<-a2];have z4:(⟨#[44,32]⟩:ByteArray).size=2:=rfl
     split
     ·rw[ByteArray.size_append,z4];omega
     ·omega
    have a1:rf es s0 (k+1)=((((sJ++(⟨#[98]⟩:ByteArray))++ds)++(⟨#[40]⟩:ByteArray))++ls)++(⟨#[41]⟩:ByteArray):=by
     rw[<-a2,<-a4,<-a3,<-c4];rfl
    have HT:=Ja a1;have HB:=Ja hb
    have u:=Ja (show ∀W,G 86 #[O e.block] W (fun e w'=>e=.returned (.string ds)/\L W w') from fun W=>by
     have:=ma W e.block l;rw[a4] at this
     exact this)
    obtain⟨aa,ac,rfl,_,_⟩:=b5.form
    have HL:=Ja (show ∀W,L wr W->G 87 #[.slice aa e.args.length ac] W (fun e w'=>e=.returned (.string ls)/\L W w') from fun W hb=>by
     have:=gn ((b5.below zO hb).mono zO hb.size) (by have:=j.2.2;omega) j.2.1;rw[a3] at this
     exact this)
    have q0:¬9223372036854775807<(rf es s0 k).size+2:=Zo;have q1:¬9223372036854775807<sJ.size+1:=Zo;have q2:¬9223372036854775807<sJ.size+1+ds.size:=Zo;have q3:¬9223372036854775807<sJ.size+1+ds.size+1:=Zo;have q4:¬9223372036854775807<sJ.size+1+ds.size+1+ls.size:=Zo;have q5:¬9223372036854775807<sJ.size+1+ds.size+1+ls.size+1:=Zo;have HJ:=Ja a2;have c8:=lt_of_block a5;have e3:e.args.length<=9223372036854775807:=by have:=j.2.2;omega
    obtain⟨eb,b2⟩:∃q,e.block=q:=⟨_,rfl⟩
    obtain⟨el,b1⟩:∃q,e.args.length=q:=⟨_,rfl⟩
    rw[b2] at b4 u;rw[b1] at b3 HL e3;have e4:True:=trivial;have HC:=Ja (show ∀W,L wr W->(T W w.heap.size 2 (.slice (some ⟨ab,ao,none⟩) es.length vc)/\T W ab (ao+k*2) (O eb)/\T W ab (ao+k*2+1) (.slice aa el ac)) from fun W hb=>⟨zV hb c8 d2,zV hb c5 b4,zV hb c5 b3⟩);clear a2 a1 hb he c4 j a4 a3 b5 a5 a0 l c9 d7 e2 d5 e1 b2 b1 b4 b3
    by_cases h0:0<k
    ·have b7:(0:Int)<(k:Int):=Zo;go_upto_region 21 with fail;have hJ:=HJ.out;rw[if_pos h0] at hJ;rw[hJ];clear hJ HJ h0 b7 q0;obtain⟨c0,c1,c2⟩:=HC.out wr (Below.refl _ _)
     go_region_held3 (fun w'=>T w' w.heap.size 2 (.slice (some ⟨ab,ao,none⟩) es.length vc)/\T w' ab (ao+k*2) (O eb)/\T w' ab (ao+k*2+1) (.slice aa el ac)) ((refine HC.out _ ?_;repeat' (first|with_reducible exact Below.refl _ _|with_reducible assumption|with_reducible refine Below.drew ?_|with_reducible refine Below.alloc ?_ Zn _|with_reducible refine Below.setCell ?_ Zn _))) (first|(go_at_call 86;refine(u.out _).mono ?_;rintro e y1 ⟨rfl,c⟩;have a7:L wr y1:=Below.trans Zb (c.mono Zn);have d4:=a7.size;clear c)|(go_at_call 87;refine(HL.out _ Zb).mono ?_;rintro e y2 ⟨rfl,m⟩;have a6:L wr y2:=Below.trans Zb (m.mono Zn);have d3:=a6.size;clear m));all_goals (go_wp2_with fail;refine⟨⟨k+1,b0,by rw[HT.out],by go_num,HB.out.trans (Below.mono (by first|assumption|exact uG Zz) HB.out.size)⟩,by simp[intOf];omega⟩)
    ·have e0:k=0:=Zo;have b7:¬(0:Int)<(k:Int):=Zo;have hJ:=HJ.out;rw[if_neg h0] at hJ;subst e0;go_upto_region 21 with fail;rw[hJ];rw[Nat.zero_mul,Uk] at HC;clear hJ HJ h0 b7 q0;obtain⟨c0,c1,c2⟩:=HC.out wr (Below.refl _ _)
     go_region_held3 (fun w'=>T w' w.heap.size 2 (.slice (some ⟨ab,ao,none⟩) es.length vc)/\T w' ab ao (O eb)/\T w' ab (ao+1) (.slice aa el ac)) ((refine HC.out _ ?_;repeat' (first|with_reducible exact Below.refl _ _|with_reducible assumption|with_reducible refine Below.drew ?_|with_reducible refine Below.alloc ?_ Zn _|with_reducible refine Below.setCell ?_ Zn _))) (first|(go_at_call 86;refine(u.out _).mono ?_;rintro e y1 ⟨rfl,c⟩;have a7:L wr y1:=Below.trans Zb (c.mono Zn);have d4:=a7.size;clear c)|(go_at_call 87;refine(HL.out _ Zb).mono ?_;rintro e y2 ⟨rfl,m⟩;have a6:L wr y2:=Below.trans Zb (m.mono Zn);have d3:=a6.size;clear m));all_goals (go_wp2_with fail;refine⟨⟨1,b0,by rw[HT.out],by go_num,HB.out.trans (Below.mono (by first|assumption|exact uG Zz) HB.out.size)⟩,by simp[intOf];omega⟩)
   ·obtain rfl:k=es.length:=by omega
    have d8:¬(es.length:Int)<(es.length:Int):=Zo;clear a5;go_wp2;go_ret;exact⟨by rw[g.out];rfl,a0⟩
 ·have f1:(kd==1)=false:=by simp;omega
  have f0:(kd==2)=false:=by simp;omega
  have e9:(kd==3)=false:=by simp;omega
  have r:tr ⟨kd,a,es⟩=(if kd=4 then(if a=-1 then(⟨#[114,101,116,117,114,110]⟩:ByteArray) else(⟨#[114,101,116,117,114,110,32,118]⟩:ByteArray)++sg a) else if kd=5 then(⟨#[104,97,108,116]⟩:ByteArray) else(⟨#[63]⟩:ByteArray)):=by unfold tr;rw[if_neg hk]
  have g:=Ja r;clear r hk;have hX:=(Below.refl w.heap.size w).alloc (Je _) (A #[O kd,O a,.slice va es.length vc] 47);have d:=Ja hX;clear hX
  by_cases h4:kd=4
  ·subst h4
   by_cases b6:a=-1
   ·subst b6;go_enter Try.func89,Try.ntmps89;go_wp2;go_ret;exact⟨by rw[g.out];rfl,d.out⟩
   ·have f2:(a==-1)=false:=by simpa using b6
    rw[if_pos rfl,if_neg b6] at g;go_enter Try.func89,Try.ntmps89;go_wp2_with (go_at_call 86;go_must (refine(u.out _ HA.out _).mono ?_;rintro e w1 ⟨rfl,c⟩))
    all_goals first
     |(exfalso;simp only[ByteArray.size_append] at *;omega)
     |(go_ret;exact⟨by rw[g.out];rfl,d.out.trans (c.mono d.out.size)⟩)
  ·have e8:(kd==4)=false:=by simpa using h4
   by_cases h5:kd=5
   ·subst h5;go_enter Try.func89,Try.ntmps89;go_wp2;go_ret;exact⟨by rw[g.out];rfl,d.out⟩
   ·have e7:(kd==5)=false:=by simpa using h5
    rw[if_neg h4,if_neg h5] at g;clear h4 h5;go_enter Try.func89,Try.ntmps89;go_wp2;go_ret;exact⟨by rw[g.out];rfl,d.out⟩
def tn (s:ByteArray)(i:Nat)(ps:List Int):ByteArray:=((((s++(⟨#[98]⟩:ByteArray))++sg i)++(⟨#[40]⟩:ByteArray))++mc ps)++(⟨#[41,58,10]⟩:ByteArray)
def po (ops:List IOp)(s0:ByteArray):Nat->ByteArray
 |0=>s0
 |k+1=>((if(ops.getD k ⟨0,0,0,0,0,[]⟩).res=-1 then po ops s0 k++(⟨#[32,32]⟩:ByteArray) else(((po ops s0 k++(⟨#[32,32]⟩:ByteArray))++(⟨#[118]⟩:ByteArray))++sg (ops.getD k ⟨0,0,0,0,0,[]⟩).res)++(⟨#[32,61,32]⟩:ByteArray))++pt (ops.getD k ⟨0,0,0,0,0,[]⟩))++(⟨#[10]⟩:ByteArray)
def ce (s:ByteArray)(i:Nat)(b:IBlk):ByteArray:=((po b.ops (tn s i b.params) b.ops.length++(⟨#[32,32]⟩:ByteArray))++tr b.term)++(⟨#[10]⟩:ByteArray)
def vt (bs:List IBlk):Nat->ByteArray
 |0=>⟨#[]⟩
 |i+1=>ce (vt bs i) i (bs.getD i ⟨[],[],⟨0,0,[]⟩⟩)
def i5 (bs:List IBlk):ByteArray:=if bs.length=0 then(⟨#[101,120,116,101,114,110,10]⟩:ByteArray) else vt bs bs.length
structure TxB (b:IBlk):Prop where
 par:(∀x∈b.params,I64 x)/\b.params.length<=20000
 ops:(∀o∈b.ops,(I64 o.code/\I64 o.a/\I64 o.b/\o.n<65536)/\I64 o.res/\(∀x∈o.args,I64 x)/\o.args.length<=20000)/\b.ops.length<=20000
 tos:(∀e∈b.term.to,I64 e.block/\(∀x∈e.args,I64 x)/\e.args.length<=20000)/\b.term.to.length<=20000
 trm:I64 b.term.kind/\I64 b.term.a
theorem i6 {l:List Int}(h:∀x∈l,I64 x){N:Nat}(hl:l.length<=N):(mc l).size<=24*N:=Jn (wv h _) Zo
theorem rl{s:ByteArray}{ps:List Int}(hi:i<=20000)(h:(∀x∈ps,I64 x)/\ps.length<=20000):(tn s i ps).size<=s.size+480026:=by
 have s1:=wk (n:=(i:Int)) ⟨by omega,by omega⟩;have s2:=i6 h.1 h.2;have z1:(⟨#[98]⟩:ByteArray).size=1:=rfl;have z2:(⟨#[40]⟩:ByteArray).size=1:=rfl;have z3:(⟨#[41,58,10]⟩:ByteArray).size=3:=rfl;unfold tn;simp only[ByteArray.size_append,z1,z2,z3];omega
theorem ro {ops:List IOp}{s0:ByteArray}(h:∀o∈ops,(I64 o.code/\I64 o.a/\I64 o.b/\o.n<65536)/\I64 o.res/\(∀x∈o.args,I64 x)/\o.args.length<=20000):∀k,(po ops s0 k).size<=s0.size+k*480130
 |0=>by rw[Nat.zero_mul];exact Je _
 |k+1=>by
  have h1:=ro (s0:=s0) h k
  have h2:(sg (ops.getD k ⟨0,0,0,0,0,[]⟩).res).size<=21/\(pt (ops.getD k ⟨0,0,0,0,0,[]⟩)).size<=24*20000+100:=by
   rw[Jj]
   cases e:ops[k]? with
   |none=>exact⟨wk pZ,by show(1:Nat)<=_;omega⟩
   |some x=>
    have c:=h x (Ji e);exact⟨wk c.2.1,i7 ⟨c.1.2.1,c.1.2.2.1,c.1.2.2.2,c.2.2.1⟩ c.2.2.2⟩
  have z1:(⟨#[32,32]⟩:ByteArray).size=2:=rfl;have z2:(⟨#[118]⟩:ByteArray).size=1:=rfl;have z3:(⟨#[32,61,32]⟩:ByteArray).size=3:=rfl;have z4:(⟨#[10]⟩:ByteArray).size=1:=rfl;unfold po;rw[Nat.succ_mul]
  split
  all_goals (simp only[ByteArray.size_append,z1,z2,z3,z4];omega)
theorem l6(h1:I64 t.a)(h:(∀e∈t.to,I64 e.block/\(∀x∈e.args,I64 x)/\e.args.length<=20000)/\t.to.length<=20000):(tr t).size<=9600600000:=by
 have s1:=wk h1;have s2:=p6 (s0:=nv t.kind t.a) h.1 (sq h1) t.to.length;have s3:t.to.length*(24*20000+26)<=20000*(24*20000+26):=Qw _ h.2;have z1:(⟨#[114,101,116,117,114,110]⟩:ByteArray).size=6:=rfl;have z2:(⟨#[114,101,116,117,114,110,32,118]⟩:ByteArray).size=8:=rfl;have z3:(⟨#[104,97,108,116]⟩:ByteArray).size=4:=rfl;have z4:(⟨#[63]⟩:ByteArray).size=1:=rfl;unfold tr
 repeat' split
 all_goals ((try simp only[ByteArray.size_append,z1,z2,z3,z4]);omega)
theorem bg{s:ByteArray}{b:IBlk}(hi:i<=20000)(h:TxB b):(ce s i b).size<=s.size+20000000000:=by
 have s1:=rl (s:=s) hi h.par;have s2:=ro (s0:=tn s i b.params) h.ops.1 b.ops.length;have s3:b.ops.length*480130<=20000*480130:=Qw _ h.ops.2;have s4:=l6 h.trm.2 h.tos;have z1:(⟨#[32,32]⟩:ByteArray).size=2:=rfl;have z2:(⟨#[10]⟩:ByteArray).size=1:=rfl;unfold ce;simp only[ByteArray.size_append,z1,z2];omega
theorem mo(h:∀b∈bs,TxB b)(hl:bs.length<=20000):∀i,i<=bs.length->(vt bs i).size<=i*20000000000
 |0,_=>Jt _
 |i+1,hi=>by
  have h1:=mo h hl i Zo
  have hg:bs.getD i ⟨[],[],⟨0,0,[]⟩⟩∈bs:=by
   rw[Jj,Jd (show i<bs.length by omega)];exact Uf _
  have h2:=bg (s:=vt bs i) (i:=i) Zo (h _ hg);unfold vt;rw[Nat.succ_mul];omega
theorem be{bv:Value}(hv:wX w w.heap.size bv bs)(hT:∀b∈bs,TxB b)(hl:bs.length<=20000):
 G 58 #[.agg #[bv]] w (aap w (i5 bs)):=by
 obtain⟨va,vc,rfl,f0,g7⟩:=hv.form;have HV:=Ja (Jb hv (Jb hT hl));have hX:=(Below.refl w.heap.size w).alloc (Je _) (A #[.slice va bs.length vc] 43);have c9:=zI (W:=w) (o:=A #[.slice va bs.length vc] 43) rfl;clear hv hT
 by_cases h0:bs.length=0
 ·have a4:i5 bs=(⟨#[101,120,116,101,114,110,10]⟩:ByteArray):=by unfold i5;rw[if_pos h0]
  have d1:=Ja a4;have HX:=Ja hX;clear a4 hX c9 hl f0 HV;rw[h0] at HX ⊢;clear h0;go_enter Try.func58,Try.ntmps58;go_wp2;go_ret;exact⟨by rw[d1.out];rfl,HX.out⟩
 ·have a4:i5 bs=vt bs bs.length:=by unfold i5;rw[if_neg h0]
  have d1:=Ja a4;have i0:((bs.length:Int)==0)=false:=Ze;have HX:=Ja (Jb hX c9);clear a4 hX c9 h0;go_enter Try.func58,Try.ntmps58;go_upto_region 1 with fail;generalize w.alloc (A #[.slice va bs.length vc] 43)=X at *;have d0:T X w.heap.size 0 (.slice va bs.length vc):=zA HX.out.2 rfl;have h8:=lt_of_block HX.out.2;go_wp2;clear d0
  go_loopw [3,4] (fun sv iv wx=>∃i:Nat,i<=bs.length/\sv=.string (vt bs i)/\iv=O i/\L X wx) (fun _ iv _=>bs.length-(intOf iv).toNat)
  case atStart=>exact⟨0,Jt _,rfl,rfl,Below.refl _ _⟩
  case round=>
   obtain⟨i,hi,rfl,rfl,hb⟩:=hrel;have a6:=HX.out.1.trans (hb.mono HX.out.1.size);have d:=zH hb HX.out.2 (lt_of_block HX.out.2);have d0:T wr w.heap.size 0 (.slice va bs.length vc):=zA d rfl;have e9:=lt_of_block d
   by_cases a1:i<bs.length
   ·obtain⟨b,he⟩:∃b,bs[i]? =some b:=⟨_,Jd a1⟩
    have g3:(i:Int)<(bs.length:Int):=Zo;obtain⟨ab,ao,ea,g4,c2,c3,h64,pv,ov,tv,c0,c1,c4,b7,b9,b4⟩:=((HV.out.1.below yT a6).mono yT a6.size).get he;subst ea;have a3:=HV.out.2.1 b (Ji he);have a2:bs.getD i ⟨[],[],⟨0,0,[]⟩⟩=b:=by rw[Jj,he];rfl
    have d4:=mo HV.out.2.1 HV.out.2.2 i hi;have g2:i*20000000000<=20000*20000000000:=Qw _ Zo;have c:vt bs (i+1)=ce (vt bs i) i b:=by rw[<-a2];rfl
    obtain⟨sI,d5⟩:∃s,vt bs i=s:=⟨_,rfl⟩
    rw[d5] at c d4 ⊢;have e6:i<=20000:=Zo;obtain⟨s0,y⟩:∃s,tn sI i b.params=s:=⟨_,rfl⟩
    have b6:s0.size<=sI.size+480026:=by rw[<-y];exact rl e6 a3.par
    have b8:=ro (s0:=s0) a3.ops.1;have b3:=l6 a3.trm.2 a3.tos;have HT:=Ja (Jb c y);have j:=Ja (Jb b6 (Jb b8 (Jb b3 a3)));have HB:=Ja (Jb hb (Jb a1 hi));obtain⟨pa,pc,rfl,_,h5⟩:=b7.form;obtain⟨oa,oc,rfl,_,h6⟩:=b9.form;obtain⟨ta,tc,rfl,_,g8⟩:=b4.form;have HM:=Ja (Jb b7 (Jb b9 b4));have h7:b.ops.length<=9223372036854775807:=Zo;clear hb d a6 d5 he a2 c y b6 b8 b3 b7 b9 b4 h64;go_upto_region 8 with fail;have hy:=(Below.refl wr.heap.size wr).alloc (Je _) (A #[.slice pa b.params.length pc,.slice oa b.ops.length oc,O b.term.kind,O b.term.a,.slice ta b.term.to.length tc] 49);have d3:=zI (W:=wr) (o:=A #[.slice pa b.params.length pc,.slice oa b.ops.length oc,O b.term.kind,O b.term.a,.slice ta b.term.to.length tc] 49) rfl;have x:=Ja (Jb hy (Jb d3 (Jb (HB.out.1.trans (hy.mono HB.out.1.size)) (Jb ((HM.out.1.below zO hy).mono zO hy.size) (Jb ((HM.out.2.1.below xA hy).mono xA hy.size) ((HM.out.2.2.below xL hy).mono xL hy.size))))));clear hy d3 c0 c1 c2 c3 c4 d0 HM g4 e9;generalize wr.alloc (A #[.slice pa b.params.length pc,.slice oa b.ops.length oc,O b.term.kind,O b.term.a,.slice ta b.term.to.length tc] 49)=Y at *;generalize wr.heap.size=nb at *;have e0:T Y nb 0 (.slice pa b.params.length pc):=zA x.out.2.1 rfl;obtain⟨ds,m⟩:∃s,sg (i:Int)=s:=⟨_,rfl⟩
    obtain⟨ls,b0⟩:∃s,mc b.params=s:=⟨_,rfl⟩
    have d6:ds.size<=21:=by rw[<-m];exact wk ⟨by omega,by omega⟩
    have g0:ls.size<=24*20000:=by rw[<-b0];exact i6 j.out.2.2.2.par.1 j.out.2.2.2.par.2
    have y:s0=((((sI++(⟨#[98]⟩:ByteArray))++ds)++(⟨#[40]⟩:ByteArray))++ls)++(⟨#[41,58,10]⟩:ByteArray):=by rw[<-HT.out.2,<-m,<-b0];rfl
    have d8:=Ja y
    have hD:=Ja (show ∀W,G 86 #[O i] W (fun e w'=>e=.returned (.string ds)/\L W w') from fun W=>by
     have:=ma W (i:Int) ⟨by omega,by omega⟩;rw[m] at this
     exact this)
    have hL:=Ja (show ∀W,L Y W->G 87 #[.slice pa b.params.length pc] W (fun e w'=>e=.returned (.string ls)/\L W w') from fun W hb=>by
     have:=gn ((x.out.2.2.2.1.below zO hb).mono zO hb.size) (by have:=j.out.2.2.2.par.2;omega) j.out.2.2.2.par.1;rw[b0] at this
     exact this)
    have HE:=Ja (show ∀W,L Y W->T W nb 0 (.slice pa b.params.length pc) from fun W hb=>zV hb (lt_of_block x.out.2.1) e0);have q1:¬9223372036854775807<sI.size+1:=Zo;have q2:¬9223372036854775807<sI.size+1+ds.size:=Zo;have q3:¬9223372036854775807<sI.size+1+ds.size+1:=Zo;have q4:¬9223372036854775807<sI.size+1+ds.size+1+ls.size:=Zo;have q5:¬9223372036854775807<sI.size+1+ds.size+1+ls.size+3:=Zo;have b5:sI.size<=400000000000000:=Zo;have d7:=Ja b5;clear m b0 d6 g0 y d4 g2 b5
    go_cut [3] (fun v wx=>v=.string s0/\Hid (L Y wx))
    case first=>
     go_region_held3 (fun w'=>T w' nb 0 (.slice pa b.params.length pc)) ((refine HE.out _ ?_;repeat' (first|with_reducible exact Below.refl _ _|with_reducible assumption|with_reducible refine Below.drew ?_|with_reducible refine Below.alloc ?_ Zn _|with_reducible refine Below.setCell ?_ Zn _)))
      (first
        |(go_at_call 86;refine(hD.out _).mono ?_;rintro e y1 ⟨rfl,q⟩;have e8:Below Y.heap.size Y y1:=Below.trans Zb (q.mono Zn);have h4:=e8.size;clear q)
        |(go_at_call 87;refine(hL.out _ Zb).mono ?_;rintro e y2 ⟨rfl,h⟩;have e7:Below Y.heap.size Y y2:=Below.trans Zb (h.mono Zn);have g9:=e7.size;clear h))
     all_goals (go_wp2_with fail;go_meet;exact⟨by rw[d8.out],Ja (by first|assumption|exact uG Zz)⟩)
    case rest=>
    obtain⟨rfl,HC⟩:=hcut;clear q1 q2 q3 q4 q5 e0 hD hL HE;have r:=Ja (Jb (x.out.2.2.1.trans (HC.out.mono x.out.2.2.1.size)) (Jb (zH HC.out x.out.2.1 (lt_of_block x.out.2.1)) (Jb ((x.out.2.2.2.2.1.below xA HC.out).mono xA HC.out.size) ((x.out.2.2.2.2.2.below xL HC.out).mono xL HC.out.size))));clear x HC;obtain⟨Z,hZ⟩:∃Z,wc=Z:=⟨_,rfl⟩
    rw[hZ] at r ⊢;clear hZ d8;go_wp2
    go_loopw [3,6] (fun sv kv wx=>∃k:Nat,k<=b.ops.length/\sv=.string (po b.ops s0 k)/\kv=O k/\L Z wx) (fun _ kv _=>b.ops.length-(intOf kv).toNat)
    case atStart=>exact⟨0,Jt _,rfl,rfl,Below.refl _ _⟩
    case round=>
     obtain⟨k,hk,rfl,rfl,hb⟩:=hrel;have d:=zH hb r.out.2.1 (lt_of_block r.out.2.1);have e1:T wr nb 1 (.slice oa b.ops.length oc):=zA d rfl;have f8:=lt_of_block d
     by_cases a1:k<b.ops.length
     ·obtain⟨o,he⟩:∃o,b.ops[k]? =some o:=⟨_,Jd a1⟩
      have g1:(k:Int)<(b.ops.length:Int):=Zo;obtain⟨ob,oo,ea,a0,c0,c1,c2,c3,c4,h64,av,c5,c8⟩:=((r.out.2.2.1.below xA hb).mono xA hb.size).get he;subst ea;have g:=j.out.2.2.2.ops.1 o (Ji he);have a2:b.ops.getD k ⟨0,0,0,0,0,[]⟩=o:=by rw[Jj,he];rfl
      obtain⟨aa,ac,rfl,_,_⟩:=c8.form;obtain⟨sK,l⟩:∃s,po b.ops s0 k=s:=⟨_,rfl⟩
      obtain⟨ds,m⟩:∃s,sg o.res=s:=⟨_,rfl⟩
      obtain⟨ot,a9⟩:∃s,pt o=s:=⟨_,rfl⟩
      have d6:ds.size<=21:=by rw[<-m];exact wk g.2.1
      have b8:ot.size<=480100:=by rw[<-a9];exact i7 (N:=20000) ⟨g.1.2.1,g.1.2.2.1,g.1.2.2.2,g.2.2.1⟩ g.2.2.2
      have c7:k*480130<=20000*480130:=Qw _ (by have:=j.out.2.2.2.ops.2;omega);have e5:sK.size<=500000000000000:=by rw[<-l];have h1:=j.out.2.1 k;have h2:=j.out.1;have h3:=d7.out;omega
      have c:po b.ops s0 (k+1)=((if o.res=-1 then sK++(⟨#[32,32]⟩:ByteArray) else(((sK++(⟨#[32,32]⟩:ByteArray))++(⟨#[118]⟩:ByteArray))++ds)++(⟨#[32,61,32]⟩:ByteArray))++ot)++(⟨#[10]⟩:ByteArray):=by rw[<-l,<-m,<-a9,<-a2];rfl
      have HO:=Ja (show ∀W,L wr W->G 88 #[.agg (D o aa ac)] W (fun e w'=>e=.returned (.string ot)/\L W w') from fun W hb=>by
       have:=aeH (o:=o) g.1 ((c8.below zO hb).mono zO hb.size) g.2.2.1 (by have:=g.2.2.2;omega);rw[a9] at this
       exact this)
      have hD:=Ja (show ∀W,G 86 #[O o.res] W (fun e w'=>e=.returned (.string ds)/\L W w') from fun W=>by
       have:=ma W o.res g.2.1;rw[m] at this
       exact this)
      have g6:=Ja (show ∀W,L wr W->T W nb 1 (.slice (some ⟨ob,oo,none⟩) b.ops.length oc)/\T W ob (oo+k*6) (O o.code)/\T W ob (oo+k*6+1) (O o.res)/\T W ob (oo+k*6+2) (O o.a)/\T W ob (oo+k*6+3) (O o.b)/\T W ob (oo+k*6+4) (U (o.n:Int))/\T W ob (oo+k*6+5) (.slice aa o.args.length ac) from fun W hb=>⟨zV hb f8 e1,zV hb a0 c0,zV hb a0 c1,zV hb a0 c2,zV hb a0 c3,zV hb a0 c4,zV hb a0 c5⟩);have b1:=Ja c;have u:=Ja hb;have b2:=Ja a1;clear d he a2 g m a9 c7 c hb h64 c8 a1;have a5:=Ja l;clear l;rw[a5.out]
      by_cases hr:o.res=-1
      ·have f9:(o.res !=-1)=false:=by simp[hr]
       have HR:=Ja hr;clear hr;have q1:¬9223372036854775807<sK.size+2:=Zo;have q2:¬9223372036854775807<sK.size+2+ot.size:=Zo;have q3:¬9223372036854775807<sK.size+2+ot.size+1:=Zo;go_wp2_with (go_at_call 88;go_must (refine(HO.out _ (Below.refl _ _)).mono ?_;rintro e w1 ⟨rfl,q⟩))
       go_roundw
       case rel=>
        exact⟨k+1,b2.out,by rw[b1.out,if_pos HR.out],by go_num,u.out.trans (q.mono u.out.size)⟩
       case measure=>have:=b2.out;simp[intOf];omega
      ·have f9:(o.res !=-1)=true:=by simp[hr]
       have HR:=Ja hr;clear hr;have q1:¬9223372036854775807<sK.size+2:=Zo;have q2:¬9223372036854775807<sK.size+2+1:=Zo;have q3:¬9223372036854775807<sK.size+2+1+ds.size:=Zo;have q4:¬9223372036854775807<sK.size+2+1+ds.size+3:=Zo;have q5:¬9223372036854775807<sK.size+2+1+ds.size+3+ot.size:=Zo;have q6:¬9223372036854775807<sK.size+2+1+ds.size+3+ot.size+1:=Zo
       go_wp2_with (first
        |(go_at_call 86
          go_must (refine(hD.out _).mono ?_;rintro e w2 ⟨rfl,h⟩)
          obtain⟨f1,f2,f3,f4,f5,f6,f7⟩:=g6.out _ h;have h9:=h.size;have d2:=Ja h
          clear h)
        |(go_at_call 88
          go_must (refine(HO.out _ d2.out).mono ?_;rintro e w1 ⟨rfl,q⟩)))
       go_roundw
       case rel=>
        exact⟨k+1,b2.out,by rw[b1.out,if_neg HR.out],by go_num,u.out.trans ((d2.out.trans (q.mono d2.out.size)).mono u.out.size)⟩
       case measure=>have:=b2.out;simp[intOf];omega
     ·obtain rfl:k=b.ops.length:=by omega
      have g1:¬(b.ops.length:Int)<(b.ops.length:Int):=Zo;have e2:T wr nb 2 (O b.term.kind):=zA d rfl;have e3:T wr nb 3 (O b.term.a):=zA d rfl;have e4:T wr nb 4 (.slice ta b.term.to.length tc):=zA d rfl;obtain⟨sK,l⟩:∃s,po b.ops s0 b.ops.length=s:=⟨_,rfl⟩
      obtain⟨tt,a7⟩:∃s,tr b.term=s:=⟨_,rfl⟩
      have b3:tt.size<=9600600000:=by rw[<-a7];exact j.out.2.2.1
      have c7:b.ops.length*480130<=20000*480130:=Qw _ (by have:=j.out.2.2.2.ops.2;omega);have e5:sK.size<=500000000000000:=by rw[<-l];have h1:=j.out.2.1 b.ops.length;have h2:=j.out.1;have h3:=d7.out;omega
      have c:vt bs (i+1)=((sK++(⟨#[32,32]⟩:ByteArray))++tt)++(⟨#[10]⟩:ByteArray):=by rw[HT.out.1];unfold ce;rw[HT.out.2,l,a7]
      have g5:=Ja (show ∀W,L wr W->G 89 #[.agg #[O b.term.kind,O b.term.a,.slice ta b.term.to.length tc]] W (fun e w'=>e=.returned (.string tt)/\L W w') from fun W h=>by
       have:=ax (t:=b.term) j.out.2.2.2.trm (((r.out.2.2.2.below xL hb).mono xL hb.size).below xL h|>.mono xL h.size) j.out.2.2.2.tos.1 j.out.2.2.2.tos.2;rw[a7] at this
       exact this)
      have b1:=Ja c;have u:=Ja (r.out.1.trans (hb.mono r.out.1.size));have a5:=Ja l;clear d a7 c hb c7 l;rw[a5.out];have q1:¬9223372036854775807<sK.size+2:=Zo;have q2:¬9223372036854775807<sK.size+2+tt.size:=Zo;have q3:¬9223372036854775807<sK.size+2+tt.size+1:=Zo;go_wp2_with (go_at_call 89;go_must (refine(g5.out _ (Below.refl _ _)).mono ?_;rintro e w1 ⟨rfl,q⟩))
      go_roundw
      case rel=>
       exact⟨i+1,HB.out.2.1,by rw[b1.out],by go_num,u.out.trans (q.mono u.out.size)⟩
      case measure=>have:=HB.out.2.1;simp[intOf];omega
   ·obtain rfl:i=bs.length:=by omega
    have g3:¬(bs.length:Int)<(bs.length:Int):=Zo;clear d;go_wp2;go_ret;exact⟨by rw[d1.out];rfl,a6⟩
structure SetF where
 inn:List Nat
 irq:List Nat
 ram:Nat
 fuel:Nat
variable {x:SetF}
structure SetIn (w:World) (B:Nat) (v:Value) (x:SetF):Prop where
 form:∃(ia:Option Addr) (ic:Nat) (qa:Option Addr) (qc:Nat),v=.agg #[.slice ia x.inn.length ic,.slice qa x.irq.length qc,.int .u32 (x.ram:Int),.int .u16 (x.fuel:Int)]/\wV w B (.slice ia x.inn.length ic) x.inn/\dL w B (.slice qa x.irq.length qc) x.irq
 ram:x.ram<4294967296
 fuel:x.fuel<65536
theorem SetIn.below{w':World}{B:Nat}{v:Value}(h:SetIn w B v x)(hb:Below B w w'):SetIn w' B v x:=
 ⟨by obtain⟨ia,ic,qa,qc,e,h1,h2⟩:=h.form;exact⟨ia,ic,qa,qc,e,h1.below zr hb,h2.below xQ hb⟩,h.ram,h.fuel⟩
theorem SetIn.mono{B B':Nat}{v:Value}(h:SetIn w B v x)(hb:B<=B'):SetIn w B' v x:=
 ⟨by obtain⟨ia,ic,qa,qc,e,h1,h2⟩:=h.form;exact⟨ia,ic,qa,qc,e,h1.mono zr hb,h2.mono xQ hb⟩,h.ram,h.fuel⟩
def aaX (x:SetF):ByteArray:=if x.ram=0 then⟨#[]⟩ else y9 (gD x.ram (272+x.ram%3*5000))
theorem fq{v:Value}(h:SetIn w w.heap.size v x):G 26 #[v] w (fun e w'=>e=.returned (O ((x.fuel%3000:Nat):Int))/\L w w'):=by
 obtain⟨ia,ic,qa,qc,rfl,h1,h2⟩:=h.form;have hf:=h.fuel;have c:=(Below.refl w.heap.size w).alloc (Je _) (A #[.slice ia x.inn.length ic,.slice qa x.irq.length qc,.int .u32 (x.ram:Int),U (x.fuel:Int)] 41);have d:=Ja c;rw[show((x.fuel%3000:Nat):Int)=(x.fuel:Int)%3000 from by omega];clear h h1 h2 c;go_enter Try.func26,Try.ntmps26;go_wp2;go_ret;exact⟨rfl,d.out⟩
theorem gC{v:Value}(h:SetIn w w.heap.size v x):G 24 #[v] w (aap w (aaX x)):=by
 obtain⟨ia,ic,qa,qc,rfl,h1,h2⟩:=h.form;have hf:=h.ram;have j:=(Below.refl w.heap.size w).alloc (Je _) (A #[.slice ia x.inn.length ic,.slice qa x.irq.length qc,.int .u32 (x.ram:Int),U (x.fuel:Int)] 41);have d:=Ja j;clear h h1 h2 j
 by_cases c:x.ram=0
 ·have k:(x.ram:Int)=0:=Zo;have hr:aaX x=⟨#[]⟩:=by unfold aaX;rw[if_pos c]
  rw[hr];clear hr;rw[k] at d ⊢;clear c k hf;go_enter Try.func24,Try.ntmps24;go_wp2;go_ret;exact⟨rfl,d.out⟩
 ·have k:¬(x.ram:Int)=0:=Zo;have hr:aaX x=y9 (gD x.ram (272+x.ram%3*5000)):=by unfold aaX;rw[if_neg c]
  obtain⟨n,l⟩:∃n,272+x.ram%3*5000=n:=⟨_,rfl⟩
  have q:(272:Int)+(x.ram:Int)%3*5000=(n:Int):=Zo;have g:n<=1000000:=Zo;rw[hr,l];have m:=Ja (Jb hf g);clear hr l g c;go_enter Try.func24,Try.ntmps24;go_wp2_with (go_at_call 33;go_must (refine(eR _ x.ram n m.out.1 m.out.2).mono ?_;rintro e w1 ⟨rfl,i⟩;have o:=Ja i;clear i))
  go_ret;exact⟨rfl,d.out.trans (o.out.mono d.out.size)⟩
def fI (w:World)(x:SetF)(e:Ending)(w':World):Prop:=∃(ia:Option Addr) (ic:Nat) (qa:Option Addr) (qc:Nat),e=.returned (.agg #[.slice ia (x.inn.take 20).length ic,.slice qa (x.irq.take 20).length qc])/\wV w' w.heap.size (.slice ia (x.inn.take 20).length ic) (x.inn.take 20)/\dL w' w.heap.size (.slice qa (x.irq.take 20).length qc) (x.irq.take 20)/\L w w'
theorem aeC{v:Value}(h:SetIn w w.heap.size v x):G 25 #[v] w (fI w x):=by
 obtain⟨ia,ic,qa,qc,rfl,h1,h2⟩:=h.form;have t1:=lw h1 20;have t2:=lw h2 20;obtain⟨i1,u,r⟩:=gj x.inn.length 20;obtain⟨q1,l,j⟩:=gj x.irq.length 20;have a5:∀(ts:Array TypeId) (t:TypeId) (W:World),(Builtin.min_ ts t #[O (x.inn.length:Int),O 20]).run Try.prog W=.ok (O i1) W:=fun ts t W=>by rw[u];exact run_min_int2 ..
 have a4:∀(ts:Array TypeId) (t:TypeId) (W:World),(Builtin.min_ ts t #[O (x.irq.length:Int),O 20]).run Try.prog W=.ok (O q1) W:=fun ts t W=>by rw[l];exact run_min_int2 ..
 obtain⟨a1,c1,e1,b1,_⟩:=h1.form;obtain⟨a2,c2,e2,b0,_⟩:=h2.form;cases e1;cases e2;have a9:(i1:Int)<=(ic:Int):=Zo;have a7:(q1:Int)<=(qc:Int):=Zo;have q:(x.inn.take 20).length=i1:=by rw[Oc];omega
 have m:(x.irq.take 20).length=q1:=by rw[Oc];omega
 rw[<-r] at t1;rw[<-j] at t2;have HT:=Ja (Jb t1 t2);unfold fI;rw[q,m];have y:=((Below.refl w.heap.size w).alloc (Je _) (A #[.slice ia x.inn.length ic,.slice qa x.irq.length qc,.int .u32 (x.ram:Int),U (x.fuel:Int)] 41)).alloc Zs (A #[F,F] 61);have HB:=Ja y;clear h h1 h2 y u r l j t1 t2 q m;generalize x.inn.length=n1 at *;generalize x.irq.length=n2 at *;have x0:=zB (o:=A #[F,F] 61) (zI (W:=w) (o:=A #[.slice ia n1 ic,.slice qa n2 qc,.int .u32 (x.ram:Int),U (x.fuel:Int)] 41) rfl);have HX:=Ja x0;clear x0;go_enter Try.func25,Try.ntmps25;go_upto_region 1 with fail;generalize hW:(w.alloc (A #[.slice ia n1 ic,.slice qa n2 qc,.int .u32 (x.ram:Int),U (x.fuel:Int)] 41)).alloc (A #[F,F] 61)=W at *;have a0:(w.alloc (A #[.slice ia n1 ic,.slice qa n2 qc,.int .u32 (x.ram:Int),U (x.fuel:Int)] 41)).heap.size=w.heap.size+1:=by simp
 have d:=HX.out;have c:=zI (W:=w.alloc (A #[.slice ia n1 ic,.slice qa n2 qc,.int .u32 (x.ram:Int),U (x.fuel:Int)] 41)) (o:=A #[F,F] 61) (B:=w.heap.size+1) Zs;have a3:=HB.out;rw[hW] at c;have HC:=Ja (show ∀W':World,(∀k,k=w.heap.size->W'.heap[k]? =W.heap[k]?)->T W' w.heap.size 0 (.slice ia n1 ic)/\T W' w.heap.size 1 (.slice qa n2 qc) from fun W' h=>⟨zA ((h _ rfl).trans d) rfl,zA ((h _ rfl).trans d) rfl⟩);have k0:=zA (i:=0) c rfl;have k1:=zA (i:=1) c rfl;have kf:∀i,N W (w.heap.size+1) i:=fun i=>zE c
 have kl:=lt_of_block c;have a6:=lt_of_block d;clear HX HB a0 hW
 go_region_held3 (fun w'=>T w' w.heap.size 0 (.slice ia n1 ic)/\T w' w.heap.size 1 (.slice qa n2 qc))
  ((refine HC.out _ ?_;rintro k rfl;repeat' (first|(rw[Below.heap_setCell _ _ _ _ (by show w.heap.size≠w.heap.size+1;omega)])|(rw[show ∀v:World,v.drew.heap=v.heap from fun _=>rfl])|exact rfl)))
  (fail)
 all_goals go_wp2_with fail
 all_goals
  have z0:=zD (i:=0) c (.slice ia i1 ic);have z1:=zD (i:=1) z0 (.slice qa q1 qc);have y0:=zA (i:=0) z1 rfl;have y1:=zA (i:=1) z1 rfl;have yl:=lt_of_block z1;have g:L w ((W.setCell ⟨w.heap.size+1,0,none⟩ (.slice ia i1 ic)).setCell ⟨w.heap.size+1,1,none⟩ (.slice qa q1 qc)):=(a3.setCell (by show w.heap.size<=w.heap.size+1;omega) _).setCell (by show w.heap.size<=w.heap.size+1;omega) _;refine bodyPost_ret (v:=.agg #[.slice ia i1 ic,.slice qa q1 qc]) ?_ rfl ?_
  ·rw[zM rfl];generalize (W.setCell ⟨w.heap.size+1,0,none⟩ (.slice ia i1 ic)).setCell ⟨w.heap.size+1,1,none⟩ (.slice qa q1 qc)=Z at *;go_simp
  ·exact⟨ia,ic,qa,qc,rfl,HT.out.1.below zr g.drew,HT.out.2.below xQ g.drew,g.drew⟩
structure SbK (b:IBlk):Prop where
 par:b.params.length<=8
 oarg:∀o∈b.ops,o.args.length<=8
 tos:b.term.to.length<=8
 earg:∀e∈b.term.to,e.args.length<=8
def SbM (M:MS):Prop:=∀b∈M.f,SbK b
theorem sb_tick(h:SbM M):SbM M.tick:=h
theorem xt(h:SbM M)(ho:o.args.length<=8):SbM (M.emit o):=
 yb h fun b hb=>⟨(h b hb).par,fun x c=>by
  rcases Jl.1 c with c|c
  ·exact(h b hb).oarg x c
  ·rw[Jo] at c;subst c;exact ho,(h b hb).tos,(h b hb).earg⟩
theorem qn(h:SbM M)(n:Nat):SbM (M.num n):=xt h (Jt _)
theorem sM(h:SbM M)(h1:t.to.length<=8)(h2:∀e∈t.to,e.args.length<=8):SbM (M.endB t):=
 yb h fun b hb=>⟨(h b hb).par,(h b hb).oarg,h1,h2⟩
theorem abz(h:SbM M){n:Nat}(c:n<=8):SbM (M.block n):=fun b hb=>by
 rcases Jl.1 hb with hb|hb
 ·exact h b hb
 ·rw[Jo] at hb;subst hb;exact⟨by simp[wJ];exact c,fun o ho=>by simp[wJ] at ho,by simp[wJ],fun e he=>by simp[wJ] at he⟩
theorem uP(E:ME)(h:SbM M):SbM (zJ E M).2:=by
 unfold zJ
 split
 ·exact qn (sb_tick h) _
 ·split
  ·exact h
  ·exact h
theorem kw(E:ME)(h:SbM M):SbM (yJ E M).2:=by
 unfold yJ
 split
 ·exact uP E h
 ·exact xt (M:=M.tick.tick.tick) h (Jt _)
theorem ph (E:ME):∀(n:Nat) {M:MS},SbM M->SbM (yI E n M).2/\(yI E n M).1.length=n
 |0,M,h=>⟨h,rfl⟩
 |n+1,M,h=>⟨uP E (ph E n h).1,by show((yI E n M).1++ [_]).length=_;rw[Jk,(ph E n h).2];rfl⟩
theorem sb_call(E:ME)(d:∀x∈E.args,0<=x/\x<4)(h:SbM M):SbM (vN E M):=by
 unfold vN
 split
 ·exact h
 ·simp only
  split
  ·exact h
  ·refine xt (ph E _ (M:=M.tick) h).1 ?_
   show(yI E _ M.tick).1.length<=8
   rw[(ph E _ (M:=M.tick) h).2,Jj]
   cases c:E.args[E.me+1+tkV E M (E.nf-E.me-1)]? with
   |none=>simp
   |some x=>have:=d x (Ji c);show x.toNat<=8;omega
theorem sb_arith(E:ME)(h:SbM M):SbM (yR E M):=by
 unfold yR;simp only;have h2:=uP E (uP E h)
 split
 ·split
  ·exact xt (xt (qn (M:=(zJ E (zJ E M).2).2.tick.tick) h2 1) (Jt _)) (Jt _)
  ·exact xt (M:=(zJ E (zJ E M).2).2.tick.tick) h2 (Jt _)
 ·exact xt (M:=(zJ E (zJ E M).2).2.tick) h2 (Jt _)
theorem sb_op(E:ME)(d:∀x∈E.args,0<=x/\x<4)(h:SbM M):SbM (xK E M):=by
 unfold xK;simp only;have c:SbM M.tick:=h;have z:([]:List Int).length<=8:=Jt _
 split
 ·exact qn (M:=M.tick.tick) h _
 split
 ·exact xt (uP E (M:=M.tick.tick) h) z
 split
 ·exact xt (M:=(yJ E M.tick).2.tick) (kw E c) z
 split
 ·exact xt (M:=(zJ E (yJ E M.tick).2).2.tick) (uP E (kw E c)) z
 split
 ·exact xt (M:=M.tick.tick) h z
 split
 ·exact xt (M:=(zJ E M.tick).2.tick) (uP E c) z
 split
 ·exact xt (M:=(M.tick.tick.num (tkV E M.tick 4096)).tick) (qn (M:=M.tick.tick) h _) z
 split
 ·exact sb_call E d c
 split
 ·split
  ·exact xt (M:=M.tick.tick) h z
  ·exact h
 ·exact sb_arith E c
theorem sb_ops (E:ME)(hE:∀x∈E.args,0<=x/\x<4):∀(n:Nat) {M:MS},SbM M->SbM (qY E n M)
 |0,M,h=>h
 |n+1,M,h=>sb_ops E hE n (sb_op E hE h)
theorem sb_run(E:ME)(c:∀x∈E.args,0<=x/\x<4)(h:SbM M):SbM (tR E M):=sb_ops E c _ (M:=M.tick) h
theorem nM:∀(n:Nat) {M:MS},SbM M->SbM (xE n M)
 |0,M,h=>h
 |n+1,M,h=>abz (nM n h) Zo
theorem jb(E:ME)(hp:∀M,SbM M->SbM (c M))(tg:Nat)(d keep:Nat):∀(n k:Nat) {M:MS},SbM M->SbM (uV E c tg d keep n k M)
 |0,_,M,h=>h
 |n+1,k,M,h=>by
  unfold uV;simp only;refine jb E hp tg d keep n (k+1) ?_;have h1:SbM (c {M with cur:=tg+k }).tick:=hp _ h;have h2:=uP E h1
  show SbM _
  split
  ·exact sM (M:=(zJ E (c {M with cur:=tg+k }).tick).2) h2 Zs Zs
  ·exact sM (M:=(zJ E (c {M with cur:=tg+k }).tick).2) h2 Zs Zs
theorem oO(E:ME)(hp:∀M,SbM M->SbM (c M)){n:Nat}(d:n<=8)(h:SbM M):SbM (xi E c n M):=by
 unfold xi;simp only;have h2:=abz (nM n (uP E h)) (show 1<=8 by decide);have h3:=sM h2 (t:=⟨if 2<n then 3 else 2,(zJ E M).1,xk (zJ E M).2.f.length n⟩) (by simp[xk];exact d) (fun e he=>by unfold xk at he;obtain⟨k,_,rfl⟩:=Nu.1 he;exact Jt _);exact jb E hp _ _ _ n 0 h3
theorem sb_loop(E:ME)(hp:∀M,SbM M->SbM (c M))(h:SbM M):SbM (tH E c M):=by
 unfold tH;simp only;have h1:=uP E (qn (M:=M.tick) h (tkV E M 5));have h2:=sM (abz (abz (abz h1 (show 2<=8 by decide)) (show 0<=8 by decide)) (show 0<=8 by decide)) (t:=⟨1,0,[⟨((zJ E (M.tick.num (tkV E M 5))).2.f.length:Nat),[(M.next:Int),(zJ E (M.tick.num (tkV E M 5))).1]⟩]⟩) Zs Zs;refine sM (uP E (xt (qn (hp _ ?_) _) (Jt _))) Zs Zs;refine sM ?_ ?_ ?_
 ·exact h2
 ·simp
 ·simp
theorem rQ (E:ME)(c:∀x∈E.args,0<=x/\x<4):∀(d:Nat) (M:MS),SbM M->SbM (zp E d M)
 |0,M,h=>sb_run E c h
 |d+1,M,h=>by
  have h1:=sb_run E c h
  show SbM (if(tR E M).left<1 then _ else _)
  split
  ·exact h1
  ·split
   ·exact oO E (rQ E c d) Zd (M:=(tR E M).tick) h1
   split
   ·exact sb_loop E (rQ E c d) (M:=(tR E M).tick) h1
   split
   ·refine oO E (rQ E c d) ?_ (M:=(tR E M).tick.tick) h1;have:tkV E (tR E M).tick 3<3:=by unfold tkV;omega
    omega
   ·exact h1
theorem sb_func (E:ME)(c:∀x∈E.args,0<=x/\x<4)(pos:Nat):SbM (xR E pos):=by
 have h:SbM (xD E pos):=by
  have g:(E.args.getD E.me 0).toNat<=8:=by
   rw[Jj]
   cases d:E.args[E.me]? with
   |none=>simp
   |some x=>have:=c x (Ji d);show x.toNat<=8;omega
  exact abz (M:= {(⟨pos,[],0,0,[],6⟩:MS).tick with next:=tkV E ⟨pos,[],0,0,[],6⟩ 3*10 }) (fun b hb=>by cases hb) g
 have h1:=rQ E c 1 _ (rQ E c 2 _ h);unfold xR;simp only
 split
 ·exact sM (M:=(zp E 1 (zp E 2 (xD E pos))).tick) h1 Zs Zs
 split
 ·exact sM (M:=(zp E 1 (zp E 2 (xD E pos))).tick) h1 Zs Zs
 ·exact sM (uP E (M:=(zp E 1 (zp E 2 (xD E pos))).tick) h1) Zs Zs
theorem made_smS (s:List Int):SmP 15000 (uR s):=by
 have g:=sm s;refine⟨by rw[qA];omega,fun f hf=>?_,by show(yS s (mdN s)).length<=_;rw[yY];omega,by show 3<=15000;decide,by show 1<=15000;decide⟩;obtain⟨k,hk⟩:=Ny hf;have c:=(Jh.1 hk).1;rw[qA] at c;rcases kz s c with⟨h,_⟩|h
 ·rw[hk] at h;cases h;exact⟨by simp,fun b hb=>by cases hb⟩
 ·rw[hk] at h;cases h;have h1:=sb_func (xC s k) (xy s _) (zg s k).2;have d:=lz s k c;generalize xR (xC s k) (zg s k).2=M at *;unfold MS.sz at d;refine⟨by omega,fun b hb=>?_⟩;have h3:=h1 b hb;have i:=acZ hb;exact⟨by have:=h3.par;omega,by omega,by have:=h3.tos;omega,fun o ho=>by have:=h3.oarg o ho;omega,fun e he=>by have:=h3.earg e he;omega⟩
end Go.Proofs.Ytojclalkfhoooaa
