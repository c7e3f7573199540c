/-
  Part of a proof.
-/
import Derived.Test.YtoahcpkibpomcaaGreatTur3
import Derived.Laws.Tables
set_option linter.all false
set_option maxHeartbeats 16000000
set_option maxRecDepth 100000
namespace Go.Proofs.YtoahcpkibpomcaaGreat
open Go.RowKit
variable {w w0 w2:World}{q0 q1 q2:Int}{u0 u1 u2 u3 u4 u5:Value}{aa fa:Option Addr}{ac bc dc fc i k:Nat}{l:List Int}{o:IOp}{t:ITerm}{bs:List IBlk}
theorem lO{V:PV}{p:IProg}(hp:ProgIn w w.heap.size V p)(hs:SmallP p)(hq:I64 q0/\I64 q1/\I64 q2):
 I 13 #[yH V p,.agg #[U q0,U q1,U q2]] w (pd w (wR p q0 q1 q2)):=by
 have h:=turnW_lt q0
 by_cases h1:gn q0<=12∨gn q0=19
 ·exact turned_d hp hs hq h1
 by_cases h2:gn q0=13
 ·exact jO hp hs hq h2
 by_cases h3:gn q0=14
 ·exact iT hp hs hq h3
 by_cases g:gn q0=15
 ·exact jf hp hs hq g
 by_cases d:gn q0=16
 ·exact je hp hs hq d
 by_cases c:gn q0=17
 ·exact jX hp hs hq c
 ·exact iE hp hs hq Zo
def TuRet2 (w:World)(p:IProg)(e:Ending)(w':World):Prop:=∃(fa:Option Addr) (fc:Nat) (aa:Option Addr) (ac:Nat) (da:Option Addr) (dc:Nat) (ba:Option Addr) (bc:Nat),e=.returned (.agg (D p fa fc aa ac da dc ba bc))/\
 (∀U,StaysL w.heap.size w' U->ProgIn U U.heap.size ⟨.slice fa p.funcs.length fc,.slice aa p.args.length ac,.slice da p.data.length dc,.slice ba p.banks.length bc⟩ p)/\Y w w'
theorem kU{V:PV}{p:IProg}(hp:ProgIn w w.heap.size V p)(hs:SmallP p)(hq:I64 q0/\I64 q1/\I64 q2):
 I 13 #[yH V p,.agg #[.int .i64 q0,.int .i64 q1,.int .i64 q2]] w (TuRet2 w (wR p q0 q1 q2)):=by
 have h64:=turn_64 hp.p64 q0 q1 q2;refine(lO hp hs hq).mono ?_;generalize wR p q0 q1 q2=p' at *;rintro e w' ⟨t,rfl,ht,hr,hb⟩;subst ht;obtain⟨fa,fc,h1,_,_⟩:=(PT.in hr h64).funcs.form;obtain⟨aa,ac,h2,_,_⟩:=(PT.in hr h64).args.form;obtain⟨da,dc,h3,_,_⟩:=(PT.in hr h64).data.form;obtain⟨ba,bc,c,_,_⟩:=(PT.in hr h64).banks.form;refine⟨fa,fc,aa,ac,da,dc,ba,bc,?_,fun U hU=>?_,hb⟩
 ·unfold yH;rw[h1,h2,h3,c]
 ·have:=PT.in (hr.keep (w':=U) fun k hk=>hU.kept k (hr.lt hk).1 (hr.lt hk).2) h64;rw[<-h1,<-h2,<-h3,<-c];exact this
theorem StaysL.alloc{L:Nat}{W:World}(h:StaysL L w W)(o:Obj):StaysL L w (W.alloc o):=
 ⟨by simp;exact Nat.le_succ_of_le h.size,h.rest,fun k h1 h2=>(Below.heap_alloc _ _ k (Jy h2 h.size)).trans (h.kept k h1 h2)⟩
theorem sets6{b:Nat}{t:TypeId}(v0 v1 v2 v3 v4 v5:Value)(h:Q w b #[u0,u1,u2,u3,u4,u5] t):
 Q ((((((w.setCell ⟨b,0,none⟩ v0).setCell ⟨b,1,none⟩ v1).setCell ⟨b,2,none⟩ v2).setCell ⟨b,3,none⟩ v3).setCell ⟨b,4,none⟩ v4).setCell ⟨b,5,none⟩ v5) b #[v0,v1,v2,v3,v4,v5] t:=by
 have g:=zD h v0 (i:=0);have h1:=zD g v1 (i:=1);have h2:=zD h1 v2 (i:=2);have h3:=zD h2 v3 (i:=3);have d:=zD h3 v4 (i:=4);have c:=zD d v5 (i:=5)
 simpa using c
def jL (w0:World)(p:IProg)(v:Value)(wx:World):Prop:=∃(b8:Nat) (fa:Option Addr) (fc:Nat) (aa:Option Addr) (ac:Nat) (da:Option Addr) (dc:Nat) (ba:Option Addr) (bc:Nat),v=F b8/\Hid (w0.heap.size<=b8/\Q wx b8 (D p fa fc aa ac da dc ba bc) 29/\ProgIn wx wx.heap.size ⟨.slice fa p.funcs.length fc,.slice aa p.args.length ac,.slice da p.data.length dc,.slice ba p.banks.length bc⟩ p/\Y w0 wx)
theorem kD{L:Nat}{p:IProg}{da ba:Option Addr}(c:Y w0 w2)(hp:∀U,StaysL L w2 U->ProgIn U U.heap.size ⟨.slice fa p.funcs.length fc,.slice aa p.args.length ac,.slice da p.data.length dc,.slice ba p.banks.length bc⟩ p):
 jL w0 p (F w2.heap.size) (w2.alloc (G (D p fa fc aa ac da dc ba bc) 29)):=
 ⟨_,fa,fc,aa,ac,da,dc,ba,bc,rfl,Ja ⟨c.size,zI rfl,hp _ ((StaysL.refl _ _).alloc _),c.alloc c.size _⟩⟩
theorem qx{L b8:Nat}{p:IProg}{da ba:Option Addr}(d:Y w0 w2)(hp:∀U,StaysL L w2 U->ProgIn U U.heap.size ⟨.slice fa p.funcs.length fc,.slice aa p.args.length ac,.slice da p.data.length dc,.slice ba p.banks.length bc⟩ p)
 (h:Q w2 b8 #[u0,u1,u2,u3,u4,u5] 29) (g:b8<L) (c:w0.heap.size<=b8):
 jL w0 p (F b8) ((((((w2.setCell ⟨b8,0,none⟩ (.slice fa p.funcs.length fc)).setCell ⟨b8,1,none⟩ (.slice aa p.args.length ac)).setCell ⟨b8,2,none⟩ (.int .i64 p.entry)).setCell ⟨b8,3,none⟩ (.int .i64 p.handler)).setCell ⟨b8,4,none⟩ (.slice da p.data.length dc)).setCell ⟨b8,5,none⟩ (.slice ba p.banks.length bc)):=
 ⟨_,fa,fc,aa,ac,da,dc,ba,bc,rfl,Ja ⟨c,sets6 _ _ _ _ _ _ h,hp _ (pJ (o:=0) (vs:=[.slice fa p.funcs.length fc,.slice aa p.args.length ac,.int .i64 p.entry,.int .i64 p.handler,.slice da p.data.length dc,.slice ba p.banks.length bc]) g),d.trans ((qu w2 b8 0 [.slice fa p.funcs.length fc,.slice aa p.args.length ac,.int .i64 p.entry,.int .i64 p.handler,.slice da p.data.length dc,.slice ba p.banks.length bc]).mono c)⟩⟩
end Go.Proofs.YtoahcpkibpomcaaGreat
set_option maxRecDepth 100000
namespace Go.Proofs.YtoahcpkibpomcaaGreat
open Go.ChangeShapes Go.WideShapes Go.ChangeAt Go.RowKit
variable {w w0 w2:World}{q0 q1 q2:Int}{u0 u1 u2 u3 u4 u5:Value}{aa fa:Option Addr}{ac bc dc fc i k:Nat}{l:List Int}{o:IOp}{t:ITerm}{bs:List IBlk}
section
variable {H:Type} {enc:TypeId×Value->H} {W:World} {v:Value} {d:DataW H} {p:List MemPlace} {r:Go.Reach} {base:Nat}
theorem u8_open (hv:Value.okWide Tryz.prog W r base 5 v)(g:DataW.Trod enc Tryz.prog W 0 (fun _=>true) true 5 v d p):∃x:Nat,v=.int .u8 (x:Int)/\x<256:=by
 obtain⟨n,rfl,_,_,c⟩:=open_int Tryz.underlying5 hv g;have h:0<=n/\n<=255:=by simpa[Lit.wf,IntKind.min,IntKind.max,IntKind.signed,IntKind.bits] using c
 exact⟨n.toNat,by rw[Oa h.1],by omega⟩
end
open Go.RowKit
theorem ahb:∀(j n:Nat) (s:ByteArray),n<10^(j+1)->(ahM n s).size<=s.size+j
 |0,n,s,h=>by rw[ahM,if_pos (by simpa using h)];exact Je _
 |j+1,n,s,h=>by
  rw[ahM]
  by_cases hn:n<10
  ·rw[if_pos hn];omega
  ·rw[if_neg hn]
   have h1:=ahb j (n/10) (akQ (n/10%10)++s) (by
    rw[Nat.div_lt_iff_lt_mul Zd];rw[Nat.pow_succ] at h
    exact h)
   rw[ByteArray.size_append,afr] at h1;omega
theorem agk {n:Nat}(h:n<18446744073709551616):(ahE n).size<=20:=by
 have:=ahb 19 n (akQ (n%10)) Zo;rw[afr] at this;unfold ahE;omega
def afj (n:Int):ByteArray:=if n<0 then(⟨#[45]⟩:ByteArray)++ahE (-n).toNat else ahE n.toNat
theorem lx {n:Int}(h:I64 n):(afj n).size<=21:=by
 obtain⟨h1,h2⟩:=h;unfold afj
 split
 ·rw[ByteArray.size_append];have:=agk (n:=(-n).toNat) Zo
  show 1+_<=21
  omega
 ·have:=agk (n:=n.toNat) Zo;omega
theorem af9 (w:World)(n:Int)(j:I64 n):
 I 97 #[U n] w (fun e w'=>e=.returned (.string (afj n))/\Y w w'):=by
 obtain⟨h1,h2⟩:=j
 by_cases g:n<0
 ·have d:=ai4 w (-n).toNat Zo;rw[show(((-n).toNat:Nat):Int)=-n by omega] at d;have m:IntKind.i64.wrap (n+1)=n+1:=Om _ ⟨by omega,by omega⟩;have l:IntKind.i64.wrap (-(n+1))=-(n+1):=Om _ ⟨by omega,by omega⟩;have i:IntKind.u64.wrap (-(n+1))=-(n+1):=IntWalk.u64_in _ ⟨by omega,by omega⟩;have k:IntKind.u64.wrap (-(n+1)+1)=-n:=by rw[show -(n+1)+1=-n by omega];exact IntWalk.u64_in _ ⟨by omega,by omega⟩
  have hs:=agk (n:=(-n).toNat) Zo;have h:afj n=(⟨#[45]⟩:ByteArray)++ahE (-n).toNat:=by unfold afj;rw[if_pos g]
  have t:(⟨#[45]⟩:ByteArray).size=1:=rfl;go_enter Tryz.func97,Tryz.ntmps97;go_wp2_with (go_at_call 124;go_must (refine d.mono ?_;rintro e w1 ⟨rfl,c⟩))
  go_ret;rw[h];exact⟨rfl,c⟩
 ·have d:=ai4 w n.toNat Zo;rw[show((n.toNat:Nat):Int)=n by omega] at d;have o:0<=n:=Zo;have i:IntKind.u64.wrap n=n:=IntWalk.u64_in _ ⟨by omega,by omega⟩;have h:afj n=ahE n.toNat:=by unfold afj;rw[if_neg g]
  go_enter Tryz.func97,Tryz.ntmps97;go_wp2_with (go_at_call 124;go_must (refine d.mono ?_;rintro e w1 ⟨rfl,c⟩))
  go_ret;rw[h];exact⟨rfl,c⟩
def ahz (l:List Int):Nat->ByteArray
 |0=>⟨#[]⟩
 |k+1=>((if 0<k then ahz l k++(⟨#[44,32]⟩:ByteArray) else ahz l k)++(⟨#[118]⟩:ByteArray))++afj (l.getD k 0)
def agl (l:List Int):ByteArray:=ahz l l.length
theorem aeL(h:∀x∈l,I64 x):∀k,(ahz l k).size<=24*k
 |0=>Je _
 |k+1=>by
  have h1:=aeL h k
  have h2:(afj (l.getD k 0)).size<=21:=lx (by
   rw[Jj]
   cases e:l[k]? with
   |none=>exact pZ
   |some x=>exact h x (Ji e))
  have z1:(⟨#[44,32]⟩:ByteArray).size=2:=rfl;have z2:(⟨#[118]⟩:ByteArray).size=1:=rfl;unfold ahz;rw[ByteArray.size_append,ByteArray.size_append]
  split
  ·rw[ByteArray.size_append];omega
  ·omega
theorem ahF{v:Value}(h:zY w w.heap.size v l)(hl:l.length<=4000000)(h64:∀x∈l,I64 x):
 I 98 #[v] w (fun e w'=>e=.returned (.string (agl l))/\Y w w'):=by
 obtain⟨a,c,rfl,hc,hm⟩:=h.form;have H:=Ja (Jb h h64);clear h h64 hc hm;go_enter Tryz.func98,Tryz.ntmps98;go_wp2
 go_loopw [3,4] (fun sv kv wx=>∃k:Nat,k<=l.length/\sv=.string (ahz l k)/\kv=U k/\Y w wx) (fun _ kv _=>l.length-(intOf kv).toNat)
 case atStart=>exact⟨0,Jt _,rfl,rfl,Below.refl _ _⟩
 case round=>
  obtain⟨k,hk,rfl,rfl,hb⟩:=hrel
  by_cases m:k<l.length
  ·obtain⟨x,j⟩:∃x,l[k]? =some x:=⟨_,Jd m⟩
   have y:(k:Int)<(l.length:Int):=Zo;obtain⟨ab,ao,ea,a3,u,_⟩:=((H.out.1.below zO hb).mono zO hb.size).get j;rw[Nk] at u;have g:l.getD k 0=x:=by rw[Jj,j];rfl
   have a1:=aeL H.out.2 k;have i:=H.out.2 x (Ji j);have a2:=lx i;have z1:(⟨#[44,32]⟩:ByteArray).size=2:=rfl;have z2:(⟨#[118]⟩:ByteArray).size=1:=rfl;have hD:=Ja (fun W=>af9 W x i);have t:=Ja hb;have d:ahz l (k+1)=((if 0<k then ahz l k++(⟨#[44,32]⟩:ByteArray) else ahz l k)++(⟨#[118]⟩:ByteArray))++afj x:=by rw[<-g];rfl
   have HT:=Ja d;subst ea
   by_cases h0:0<k
   ·have a0:(0:Int)<(k:Int):=Zo;clear d hb j g;go_wp2_with (go_at_call 97;go_must (refine(hD.out _).mono ?_;rintro e w1 ⟨rfl,o⟩))
    all_goals first
     |(exfalso;simp only[ByteArray.size_append] at *;omega)
     |(refine⟨⟨k+1,m,by rw[HT.out,if_pos h0],by go_num,t.out.trans (o.mono t.out.size)⟩,by simp[intOf];omega⟩)
   ·obtain rfl:k=0:=by omega
    have a0:¬(0:Int)<((0:Nat):Int):=Zo;rw[Uk] at u;clear d hb j g;go_wp2_with (go_at_call 97;go_must (refine(hD.out _).mono ?_;rintro e w1 ⟨rfl,o⟩))
    all_goals first
     |(exfalso;simp only[ByteArray.size_append] at *;omega)
     |(refine⟨⟨1,m,by rw[HT.out,if_neg h0],by go_num,t.out.trans (o.mono t.out.size)⟩,by simp[intOf];omega⟩)
  ·obtain rfl:k=l.length:=by omega
   have y:¬(l.length:Int)<(l.length:Int):=Zo;go_wp2;go_ret;exact⟨rfl,hb⟩
def akR:List ByteArray:=[⟨#[]⟩,⟨#[99,111,110,115,116]⟩,⟨#[111,98,106]⟩,⟨#[110,101,103]⟩,⟨#[110,111,116]⟩,⟨#[97,100,100]⟩,⟨#[115,117,98]⟩,⟨#[109,117,108]⟩,⟨#[100,105,118]⟩,⟨#[97,110,100]⟩,⟨#[111,114]⟩,⟨#[120,111,114]⟩,⟨#[115,104,108]⟩,⟨#[115,104,114]⟩,⟨#[115,97,114]⟩,⟨#[101,113]⟩,⟨#[108,116,117]⟩,⟨#[108,116,115]⟩,⟨#[108,111,97,100]⟩,⟨#[108,111,97,100,98]⟩,⟨#[115,116,111,114,101]⟩,⟨#[115,116,111,114,101,98]⟩,⟨#[114,111,109]⟩,⟨#[114,111,109,98]⟩,⟨#[105,110]⟩,⟨#[111,117,116]⟩,⟨#[99,97,108,108]⟩,⟨#[112,111,108,108]⟩]
def aiB (c:Int):ByteArray:=akR.getD c.toNat ⟨#[]⟩
def afP (o:IOp):ByteArray:=
 if o.code<1∨27<o.code then⟨#[63]⟩
 else if o.code=2 then(((aiB o.code++(⟨#[32]⟩:ByteArray))++afj o.a)++(⟨#[32,43,32]⟩:ByteArray))++afj o.n
 else if o.code=26 then((((aiB o.code++(⟨#[32,102]⟩:ByteArray))++afj o.a)++(⟨#[40]⟩:ByteArray))++agl o.args)++(⟨#[41]⟩:ByteArray)
 else
  let s1:=if(zi o.code).n then(if(zi o.code).a then((aiB o.code++(⟨#[32]⟩:ByteArray))++afj o.n)++(⟨#[44]⟩:ByteArray) else(aiB o.code++(⟨#[32]⟩:ByteArray))++afj o.n) else aiB o.code
  let s2:=if(zi o.code).a then(s1++(⟨#[32,118]⟩:ByteArray))++afj o.a else s1
  if(zi o.code).b then(s2++(⟨#[44,32,118]⟩:ByteArray))++afj o.b else s2
theorem aik:∀k:Nat,(akR.getD k ⟨#[]⟩).size<=6
 |0=>by decide|1=>by decide|2=>by decide|3=>by decide|4=>by decide|5=>by decide|6=>by decide|7=>by decide|8=>by decide|9=>by decide
 |10=>by decide|11=>by decide|12=>by decide|13=>by decide|14=>by decide|15=>by decide|16=>by decide|17=>by decide|18=>by decide|19=>by decide
 |20=>by decide|21=>by decide|22=>by decide|23=>by decide|24=>by decide|25=>by decide|26=>by decide|27=>by decide
 |k+28=>by show(0:Nat)<=6;decide
def ajB:Array Value:=#[.string ⟨#[]⟩,.string ⟨#[99,111,110,115,116]⟩,.string ⟨#[111,98,106]⟩,.string ⟨#[110,101,103]⟩,.string ⟨#[110,111,116]⟩,.string ⟨#[97,100,100]⟩,.string ⟨#[115,117,98]⟩,.string ⟨#[109,117,108]⟩,.string ⟨#[100,105,118]⟩,.string ⟨#[97,110,100]⟩,.string ⟨#[111,114]⟩,.string ⟨#[120,111,114]⟩,.string ⟨#[115,104,108]⟩,.string ⟨#[115,104,114]⟩,.string ⟨#[115,97,114]⟩,.string ⟨#[101,113]⟩,.string ⟨#[108,116,117]⟩,.string ⟨#[108,116,115]⟩,.string ⟨#[108,111,97,100]⟩,.string ⟨#[108,111,97,100,98]⟩,.string ⟨#[115,116,111,114,101]⟩,.string ⟨#[115,116,111,114,101,98]⟩,.string ⟨#[114,111,109]⟩,.string ⟨#[114,111,109,98]⟩,.string ⟨#[105,110]⟩,.string ⟨#[111,117,116]⟩,.string ⟨#[99,97,108,108]⟩,.string ⟨#[112,111,108,108]⟩]
theorem ajU(h:k<28):ajB[k]? =some (.string (akR.getD k ⟨#[]⟩)):=by
 rcases k with _|_|_|_|_|_|_|_|_|_|_|_|_|_|_|_|_|_|_|_|_|_|_|_|_|_|_|_|k
 all_goals first|rfl|omega
theorem ag4{N:Nat}(h:I64 o.a/\I64 o.b/\o.n<65536/\∀x∈o.args,I64 x)(hl:o.args.length<=N):(afP o).size<=24*N+100:=by
 obtain⟨d,hb,g,c⟩:=h;have s0:=aik o.code.toNat;have s1:=lx d;have s2:=lx hb;have s3:=lx (n:=(o.n:Int)) ⟨by omega,by omega⟩;have s4:=aeL c o.args.length;have z1:(⟨#[63]⟩:ByteArray).size=1:=rfl;have z2:(⟨#[32]⟩:ByteArray).size=1:=rfl;have z3:(⟨#[32,43,32]⟩:ByteArray).size=3:=rfl;have z4:(⟨#[32,102]⟩:ByteArray).size=2:=rfl;have z5:(⟨#[40]⟩:ByteArray).size=1:=rfl;have z6:(⟨#[41]⟩:ByteArray).size=1:=rfl;have z7:(⟨#[44]⟩:ByteArray).size=1:=rfl;have z8:(⟨#[32,118]⟩:ByteArray).size=2:=rfl;have z9:(⟨#[44,32,118]⟩:ByteArray).size=3:=rfl;unfold afP aiB agl;simp only
 repeat' split
 all_goals ((try simp only[ByteArray.size_append,z1,z2,z3,z4,z5,z6,z7,z8,z9]);omega)
theorem akB:ajB.all (·.oneCell')=true:=by simp[ajB,Value.oneCell']
theorem ajF:(Tryz.prog.info? 182).map (·.size)=some ajB.size:=by kernel_rfl
theorem aij (W:World)(c new:Array Value)(t:TypeId){g:Nat}(hg:g=W.heap.size):(W.alloc (G c t)).setRow g new=W.alloc (G new t):=by
 subst hg;unfold World.setRow World.alloc
 congr 1
 apply Array.ext
 ·simp
 ·intro k h1 h2;simp only[Array.getElem_modify,Array.getElem_push]
  split
  ·rename_i hk
   subst hk;simp
  ·rename_i hk
   have:k<W.heap.size:=by simp at h2;omega
   simp[this]
theorem ahw{P:Program}{ops:Array Oper}{rest:List Oper}{o:Oper}{a:Act}{Q:Exit->Act->World->Prop}(hg:o.guard=none)(t:TypeId)(c:Array (Nat×Operand))(ho:o.op=.build t c)(d:Array Value)
 (hf:P.built t (c.map fun(i,x)=>(i,a.eval x)).toList=some d)
 (h:wpList P ops Q rest (a.put o.dst (.agg d)) w):wpList P ops Q (o::rest) a w:=
 wpList_build hg t c ho (by rw[hf];rfl) (by rw[hf];exact h)
def opTVal (o:IOp)(av:Value):Value:=.agg #[U o.code,U o.res,U o.a,U o.b,O (o.n:Int),av]
theorem akJ{av:Value}(h:I64 o.code/\I64 o.a/\I64 o.b/\o.n<65536)(hv:zY w w.heap.size av o.args)(h64:∀x∈o.args,I64 x)(hl:o.args.length<=4000000):
 I 99 #[opTVal o av] w (aap w (afP o)):=by
 obtain⟨c,r,a,b,n,args⟩:=o;obtain⟨hc,ha,hb,hn⟩:=h;simp only at hc ha hb hn hv h64 hl;unfold opTVal;simp only;have a3:I64 (n:Int):=⟨by omega,by omega⟩
 have hD:=Ja (fun x (hx:I64 x) W=>af9 W x hx);obtain⟨fi,fr,fa,fb,fn,a1⟩:∃fi fr fa fb fn,zi c=⟨fi,fr,fa,fb,fn⟩:=⟨_,_,_,_,_,rfl⟩
 have hS:∀W,I 52 #[U c] W (fun e w'=>e=.returned (.agg #[.bool fi,.bool fr,.bool fa,.bool fb,.bool fn])/\Below W.heap.size W w'):=fun W=>by
  have:=aaK c W;rw[a1] at this;exact this
 have HS:=Ja hS;obtain⟨nm,a2⟩:∃s,aiB c=s:=⟨_,rfl⟩
 have c7:nm.size<=6:=by rw[<-a2];exact aik _
 have s1:=lx ha;have s2:=lx hb;have s3:=lx a3;have s4:(agl args).size<=24*args.length:=aeL h64 args.length;have HV:=Ja (Jb hv (Jb h64 hl));have HI:=Ja (Jb ha (Jb hb a3));have HR:=Ja (Jb a2 a1);obtain⟨va,vc,rfl,c3,c2⟩:=hv.form;have z2:(⟨#[32]⟩:ByteArray).size=1:=rfl;have z3:(⟨#[32,43,32]⟩:ByteArray).size=3:=rfl;have z4:(⟨#[32,102]⟩:ByteArray).size=2:=rfl;have z5:(⟨#[40]⟩:ByteArray).size=1:=rfl;have z6:(⟨#[41]⟩:ByteArray).size=1:=rfl;have z7:(⟨#[44]⟩:ByteArray).size=1:=rfl;have z8:(⟨#[32,118]⟩:ByteArray).size=2:=rfl;have z9:(⟨#[44,32,118]⟩:ByteArray).size=3:=rfl;have HZ:=Ja (Jb z2 (Jb z3 (Jb z4 (Jb z5 (Jb z6 (Jb z7 (Jb z8 z9)))))));clear hv h64 ha hb a3 hc a2 a1 hS z2 z3 z4 z5 z6 z7 z8 z9;go_enter Tryz.func99,Tryz.ntmps99;go_upto_region 1 with fail
 go_cut [3] (fun v wx=>∃bn,v=F bn/\Hid (Below w.heap.size w wx/\Q wx w.heap.size #[U c,U r,U a,U b,O n,.slice va args.length vc] 76/\bn<wx.heap.size/\∀k,k<28->A wx bn k (.string (akR.getD k ⟨#[]⟩))))
 case first=>
  have b7:=Ja (show((w.alloc (G #[U c,U r,U a,U b,O n,.slice va args.length vc] 76)).alloc (G #[.string ⟨#[]⟩,.string ⟨#[]⟩,.string ⟨#[]⟩,.string ⟨#[]⟩,.string ⟨#[]⟩,.string ⟨#[]⟩,.string ⟨#[]⟩,.string ⟨#[]⟩,.string ⟨#[]⟩,.string ⟨#[]⟩,.string ⟨#[]⟩,.string ⟨#[]⟩,.string ⟨#[]⟩,.string ⟨#[]⟩,.string ⟨#[]⟩,.string ⟨#[]⟩,.string ⟨#[]⟩,.string ⟨#[]⟩,.string ⟨#[]⟩,.string ⟨#[]⟩,.string ⟨#[]⟩,.string ⟨#[]⟩,.string ⟨#[]⟩,.string ⟨#[]⟩,.string ⟨#[]⟩,.string ⟨#[]⟩,.string ⟨#[]⟩,.string ⟨#[]⟩] 182)).heap[w.heap.size+1]? =some (G #[.string ⟨#[]⟩,.string ⟨#[]⟩,.string ⟨#[]⟩,.string ⟨#[]⟩,.string ⟨#[]⟩,.string ⟨#[]⟩,.string ⟨#[]⟩,.string ⟨#[]⟩,.string ⟨#[]⟩,.string ⟨#[]⟩,.string ⟨#[]⟩,.string ⟨#[]⟩,.string ⟨#[]⟩,.string ⟨#[]⟩,.string ⟨#[]⟩,.string ⟨#[]⟩,.string ⟨#[]⟩,.string ⟨#[]⟩,.string ⟨#[]⟩,.string ⟨#[]⟩,.string ⟨#[]⟩,.string ⟨#[]⟩,.string ⟨#[]⟩,.string ⟨#[]⟩,.string ⟨#[]⟩,.string ⟨#[]⟩,.string ⟨#[]⟩,.string ⟨#[]⟩] 182) from zI Zs);go_wp2_with (first|(refine ahw rfl 182 _ rfl ajB Zk ?_)|(refine wpList_store_row rfl 182 _ _ rfl (w.heap.size+1) ajB rfl rfl _ _ b7.out ajF rfl akB ?_;rw[aij _ _ _ _ Zs]))
  go_meet;exact⟨_,rfl,Ja ⟨((Below.refl _ _).alloc (Je _) _).alloc Zs _,zB (zI rfl),by simp,fun k hk=>zA (zI Zs) (ajU hk)⟩⟩
 case rest=>
 obtain⟨bn,rfl,u⟩:=hcut;have d0:=zA (i:=0) u.out.2.1 rfl
 by_cases a0:c<1∨27<c
 ·have j:afP ⟨c,r,a,b,n,args⟩=⟨#[63]⟩:=by unfold afP;rw[if_pos a0]
  have HB:=Ja (Jb j u.out.1);clear j HZ;rcases a0 with h1|h1
  ·go_wp2;go_ret;exact⟨by rw[HB.out.1];rfl,HB.out.2⟩
  ·have h2:1<=c:=Zo;go_wp2;go_ret;exact⟨by rw[HB.out.1];rfl,HB.out.2⟩
 ·have h1:1<=c:=Zo;have c9:c<=27:=Zo
  have b5:A wc bn c.toNat (.string nm):=by
   rw[<-HR.out.1];exact u.out.2.2.2 _ Zo
  have b6:bn<wc.heap.size:=u.out.2.2.1;have d4:=zA (i:=4) u.out.2.1 rfl;have a5:=Ja a0;clear a0;go_upto_region 6 with(go_at_call 97;go_must (refine(hD.out _ HI.out.2.2 _).mono ?_;rintro e w1 ⟨rfl,g⟩))
  have H1:=Ja (Jb (u.out.1.trans (g.mono u.out.1.size)) (zH g u.out.2.1 (lt_of_block u.out.2.1)));clear u g d4 d0 b5 b6;have d0:=zA (i:=0) H1.out.2 rfl;go_upto_region 7 with(go_at_call 52;go_must (refine(HS.out _).mono ?_;rintro e w2 ⟨rfl,y⟩))
  have a4:=y.alloc y.size (G #[.bool fi,.bool fr,.bool fa,.bool fb,.bool fn] 120);have d:=Ja (Jb (H1.out.1.trans (a4.mono H1.out.1.size)) (Jb (zH a4 H1.out.2 (lt_of_block H1.out.2)) (zI (W:=w2) (o:=G #[.bool fi,.bool fr,.bool fa,.bool fb,.bool fn] 120) rfl)));clear H1 y d0 a4;generalize w2.alloc (G #[.bool fi,.bool fr,.bool fa,.bool fb,.bool fn] 120)=Y at *;generalize w2.heap.size=bf at *;have d0:=zA (i:=0) d.out.2.1 rfl;have d2:=zA (i:=2) d.out.2.1 rfl;have d3:=zA (i:=3) d.out.2.1 rfl;have d5:=zA (i:=5) d.out.2.1 rfl;have c8:=lt_of_block d.out.2.1
  by_cases m:c=2
  ·have j:afP ⟨c,r,a,b,n,args⟩=(((nm++(⟨#[32]⟩:ByteArray))++afj a)++(⟨#[32,43,32]⟩:ByteArray))++afj n:=by unfold afP;rw[if_neg a5.out,if_pos m,HR.out.1]
   have t:=Ja j;clear j HR;subst m;obtain⟨z2,z3,z4,z5,z6,z7,z8,z9⟩:=HZ.out;go_wp2_with (go_at_call 97;go_must (refine(hD.out _ HI.out.1 _).mono ?_;rintro e w1 ⟨rfl,g⟩))
   all_goals first
    |(exfalso;simp only[ByteArray.size_append] at *;omega)
    |(go_ret;rw[t.out];exact⟨rfl,d.out.1.trans (g.mono d.out.1.size)⟩)
  by_cases l:c=26
  ·have j:afP ⟨c,r,a,b,n,args⟩=((((nm++(⟨#[32,102]⟩:ByteArray))++afj a)++(⟨#[40]⟩:ByteArray))++agl args)++(⟨#[41]⟩:ByteArray):=by unfold afP;rw[if_neg a5.out,if_neg m,if_pos l,HR.out.1]
   have t:=Ja j;clear j HR m;subst l;have b8:=HV.out.2.2;obtain⟨z2,z3,z4,z5,z6,z7,z8,z9⟩:=HZ.out;have HC:=Ja (show ∀W,Below Y.heap.size Y W->(A W w.heap.size 2 (U a)/\A W w.heap.size 5 (.slice va args.length vc)) from fun W hb=>⟨zA (zH hb d.out.2.1 (lt_of_block d.out.2.1)) rfl,zA (zH hb d.out.2.1 (lt_of_block d.out.2.1)) rfl⟩);have HL:=Ja (show ∀W,Below Y.heap.size Y W->I 98 #[.slice va args.length vc] W (fun e w'=>e=.returned (.string (agl args))/\Below W.heap.size W w') from fun W hb=>ahF ((HV.out.1.below zO (d.out.1.trans (hb.mono d.out.1.size))).mono zO (d.out.1.trans (hb.mono d.out.1.size)).size) HV.out.2.2 HV.out.2.1);obtain⟨ds,b0⟩:∃s,afj a=s:=⟨_,rfl⟩
   obtain⟨ls,a7⟩:∃s,agl args=s:=⟨_,rfl⟩
   have b2:=Ja (fun W=>hD.out a HI.out.1 W);rw[b0] at b2 t s1;rw[a7] at HL t s4;clear b0 a7 hD;have q1:¬9223372036854775807<nm.size+2:=Zo;have q2:¬9223372036854775807<nm.size+2+ds.size:=Zo;have q3:¬9223372036854775807<nm.size+2+ds.size+1:=Zo;have q4:¬9223372036854775807<nm.size+2+ds.size+1+ls.size:=Zo;have q5:¬9223372036854775807<nm.size+2+ds.size+1+ls.size+1:=Zo;go_upto_region 11 with fail
   go_region_held3 (fun w'=>A w' w.heap.size 2 (U a)/\A w' w.heap.size 5 (.slice va args.length vc))
    ((refine HC.out _ ?_;repeat' (first|with_reducible exact Below.refl _ _|with_reducible assumption|with_reducible refine Below.drew ?_|with_reducible refine Below.alloc ?_ Zn _|with_reducible refine Below.setCell ?_ Zn _)))
    (first
      |(go_at_call 97
        refine(b2.out _).mono ?_;rintro e y1 ⟨rfl,g⟩;have b4:Below Y.heap.size Y y1:=Below.trans Zb (g.mono Zn);have c5:=b4.size
        clear g)
      |(go_at_call 98
        refine(HL.out _ Zb).mono ?_;rintro e y2 ⟨rfl,y⟩;have b3:Below Y.heap.size Y y2:=Below.trans Zb (y.mono Zn);have c4:=b3.size
        clear y))
   all_goals first
    |(exfalso;simp only[ByteArray.size_append] at *;omega)
    |(go_wp2_with fail;go_ret;exact⟨by rw[t.out];rfl,d.out.1.trans (Below.mono (by first|assumption|exact uG Zz) d.out.1.size)⟩)
  ·have d1:(c==2)=false:=by simpa using m
   have b9:(c==26)=false:=by simpa using l
   obtain⟨z2,z3,z4,z5,z6,z7,z8,z9⟩:=HZ.out
   have j:afP ⟨c,r,a,b,n,args⟩=(let s1:=if fn=true then(if fa=true then((nm++(⟨#[32]⟩:ByteArray))++afj n)++(⟨#[44]⟩:ByteArray) else(nm++(⟨#[32]⟩:ByteArray))++afj n) else nm
    let s2:=if fa=true then(s1++(⟨#[32,118]⟩:ByteArray))++afj a else s1
    if fb=true then(s2++(⟨#[44,32,118]⟩:ByteArray))++afj b else s2):=by
    unfold afP;rw[if_neg a5.out,if_neg m,if_neg l,HR.out.1,HR.out.2]
   have t:=Ja j;have g2:=zA (i:=2) d.out.2.2 rfl;have g3:=zA (i:=3) d.out.2.2 rfl;have g4:=zA (i:=4) d.out.2.2 rfl;clear j HR m l HS;cases fn<;>cases fa<;>cases fb
   all_goals
    go_wp2_with (first
     |(go_at_call 97
       with_reducible refine(hD.out a HI.out.1 _).mono ?_
       rintro e w1 ⟨rfl,g⟩;have k3:=zA (i:=3) (zH g d.out.2.2 (lt_of_block d.out.2.2)) rfl;have l3:=zA (i:=3) (zH g d.out.2.1 (lt_of_block d.out.2.1)) rfl;have c0:=lt_of_block (zH g d.out.2.1 (lt_of_block d.out.2.1));have a6:=Ja (d.out.1.trans (g.mono d.out.1.size))
       clear g)
     |(go_at_call 97
       with_reducible refine(hD.out b HI.out.2.1 _).mono ?_
       rintro e w3 ⟨rfl,b1⟩))
    all_goals first
     |(exfalso;simp only[ByteArray.size_append] at *;omega)
     |(go_ret;exact⟨by rw[t.out];rfl,by first|exact d.out.1|exact a6.out|exact a6.out.trans (b1.mono a6.out.size)|exact d.out.1.trans (b1.mono d.out.1.size)⟩)
def afs (es:List IEdge)(s0:ByteArray):Nat->ByteArray
 |0=>s0
 |k+1=>(((((if 0<k then afs es s0 k++(⟨#[44,32]⟩:ByteArray) else afs es s0 k)++(⟨#[98]⟩:ByteArray))++afj (es.getD k ⟨0,[]⟩).block)++(⟨#[40]⟩:ByteArray))++agl (es.getD k ⟨0,[]⟩).args)++(⟨#[41]⟩:ByteArray)
def age (kd a:Int):ByteArray:=if kd=1 then(⟨#[106,117,109,112,32]⟩:ByteArray) else if kd=2 then((⟨#[98,114,97,110,99,104,32,118]⟩:ByteArray)++afj a)++(⟨#[44,32]⟩:ByteArray) else((⟨#[115,119,105,116,99,104,32,118]⟩:ByteArray)++afj a)++(⟨#[44,32]⟩:ByteArray)
def afc (t:ITerm):ByteArray:=
 if t.kind=1∨t.kind=2∨t.kind=3 then afs t.to (age t.kind t.a) t.to.length
 else if t.kind=4 then(if t.a=-1 then(⟨#[114,101,116,117,114,110]⟩:ByteArray) else(⟨#[114,101,116,117,114,110,32,118]⟩:ByteArray)++afj t.a)
 else if t.kind=5 then(⟨#[104,97,108,116]⟩:ByteArray) else(⟨#[63]⟩:ByteArray)
theorem afm {kd a:Int}(h:I64 a):(age kd a).size<=40:=by
 have s1:=lx h;have z1:(⟨#[106,117,109,112,32]⟩:ByteArray).size=5:=rfl;have z2:(⟨#[98,114,97,110,99,104,32,118]⟩:ByteArray).size=8:=rfl;have z3:(⟨#[115,119,105,116,99,104,32,118]⟩:ByteArray).size=8:=rfl;have z4:(⟨#[44,32]⟩:ByteArray).size=2:=rfl;unfold age
 repeat' split
 all_goals ((try simp only[ByteArray.size_append,z1,z2,z3,z4]);omega)
theorem afJ {es:List IEdge}{s0:ByteArray}{N:Nat}(h:∀e∈es,I64 e.block/\(∀x∈e.args,I64 x)/\e.args.length<=N)(d:s0.size<=40):∀k,(afs es s0 k).size<=40+k*(24*N+26)
 |0=>by rw[Nat.zero_mul];exact d
 |k+1=>by
  have h1:=afJ h d k
  have h2:(afj (es.getD k ⟨0,[]⟩).block).size<=21/\(agl (es.getD k ⟨0,[]⟩).args).size<=24*N:=by
   rw[Jj]
   cases e:es[k]? with
   |none=>exact⟨lx pZ,Jt _⟩
   |some x=>
    have c:=h x (Ji e);exact⟨lx c.1,Jn (aeL c.2.1 _) (by have:=c.2.2;show 24*x.args.length<=_;omega)⟩
  have z1:(⟨#[44,32]⟩:ByteArray).size=2:=rfl;have z2:(⟨#[98]⟩:ByteArray).size=1:=rfl;have z3:(⟨#[40]⟩:ByteArray).size=1:=rfl;have z4:(⟨#[41]⟩:ByteArray).size=1:=rfl;unfold afs;rw[Nat.succ_mul]
  split
  all_goals (simp only[ByteArray.size_append,z1,z2,z3,z4];omega)
def tmTVal (t:ITerm)(tv:Value):Value:=.agg #[U t.kind,U t.a,tv]
theorem ais{tv:Value}(h:I64 t.kind/\I64 t.a)(hv:wH w w.heap.size tv t.to)(h64:∀e∈t.to,I64 e.block/\(∀x∈e.args,I64 x)/\e.args.length<=20000)(hl:t.to.length<=20000):
 I 100 #[tmTVal t tv] w (aap w (afc t)):=by
 obtain⟨kd,a,es⟩:=t;obtain⟨hk,ha⟩:=h;simp only at hk ha hv h64 hl;unfold tmTVal;simp only;have y:=Ja (fun x (hx:I64 x) W=>af9 W x hx);have s1:=lx ha;have HV:=Ja (Jb hv (Jb h64 hl));have HA:=Ja ha;obtain⟨va,vc,rfl,e7,e6⟩:=hv.form;clear hv h64 hk ha
 by_cases hk:kd=1∨kd=2∨kd=3
 ·have u:afc ⟨kd,a,es⟩=afs es (age kd a) es.length:=by unfold afc;rw[if_pos hk]
  have c4:=afJ HV.out.2.1 (afm (kd:=kd) HA.out);have g:=Ja u;have c9:=Ja c4;have c5:=afm (kd:=kd) HA.out;obtain⟨s0,b1⟩:∃s,age kd a=s:=⟨_,rfl⟩
  rw[b1] at g c9 c5;have c3:=Ja b1;clear u c4 b1;go_enter Tryz.func100,Tryz.ntmps100;go_upto_region 1 with fail;have d:=Ja (Jb ((Below.refl w.heap.size w).alloc (Je _) (G #[U kd,U a,.slice va es.length vc] 82)) (zI (W:=w) (o:=G #[U kd,U a,.slice va es.length vc] 82) rfl));generalize w.alloc (G #[U kd,U a,.slice va es.length vc] 82)=X at *;have d0:=zA (i:=0) d.out.2 rfl;have d1:=zA (i:=1) d.out.2 rfl;have d8:=lt_of_block d.out.2
  go_upto_block 0 with fail
  go_cut [3] (fun v wx=>v=.string s0/\Hid (Y X wx))
  case first=>
   rcases hk with rfl|rfl|rfl
   ·go_wp2_with fail;go_meet;exact⟨congrArg Value.string c3.out,Ja (Below.refl _ _)⟩
   ·go_wp2_with (go_at_call 97;go_must (refine(y.out _ HA.out _).mono ?_;rintro e w1 ⟨rfl,c⟩))
    all_goals first
     |(exfalso;simp only[ByteArray.size_append] at *;omega)
     |(go_meet;exact⟨congrArg Value.string c3.out,Ja c⟩)
   ·go_wp2_with (go_at_call 97;go_must (refine(y.out _ HA.out _).mono ?_;rintro e w1 ⟨rfl,c⟩))
    all_goals first
     |(exfalso;simp only[ByteArray.size_append] at *;omega)
     |(go_meet;exact⟨congrArg Value.string c3.out,Ja c⟩)
  case rest=>
  obtain⟨rfl,H1⟩:=hcut;clear d0 d1;have a0:=Ja (Jb (d.out.1.trans (H1.out.mono d.out.1.size)) (zH H1.out d.out.2 (lt_of_block d.out.2)));clear d H1 d8 hk c5 y s1;obtain⟨x,hx⟩:∃x,wc=x:=⟨_,rfl⟩
  rw[hx] at a0 ⊢;clear hx;go_wp2
  go_loopw [3,4] (fun sv kv wx=>∃k:Nat,k<=es.length/\sv=.string (afs es s0 k)/\kv=U k/\Y x wx) (fun _ kv _=>es.length-(intOf kv).toNat)
  case atStart=>exact⟨0,Jt _,rfl,rfl,Below.refl _ _⟩
  case round=>
   obtain⟨k,hk,rfl,rfl,hb⟩:=hrel;have a1:=a0.out.1.trans (hb.mono a0.out.1.size);have a6:=zH hb a0.out.2 (lt_of_block a0.out.2);have d2:=zA (i:=2) a6 rfl
   by_cases b2:k<es.length
   ·obtain⟨e,he⟩:∃e,es[k]? =some e:=⟨_,Jd b2⟩
    have e0:(k:Int)<(es.length:Int):=Zo;obtain⟨ab,ao,ea,c8,b6,l,av,b5,b7⟩:=((HV.out.1.below xL a1).mono xL a1.size).get he;subst ea;have j:=HV.out.2.1 e (Ji he);have c7:es.getD k ⟨0,[]⟩=e:=by rw[Jj,he];rfl
    obtain⟨sJ,a3⟩:∃s,(if 0<k then afs es s0 k++(⟨#[44,32]⟩:ByteArray) else afs es s0 k)=s:=⟨_,rfl⟩
    obtain⟨ds,a5⟩:∃s,afj e.block=s:=⟨_,rfl⟩
    obtain⟨ls,a4⟩:∃s,agl e.args=s:=⟨_,rfl⟩
    have e3:ds.size<=21:=by rw[<-a5];exact lx l
    have d7:ls.size<=24*20000:=by rw[<-a4];exact Jn (aeL j.2.1 _) (by have:=j.2.2;show 24*e.args.length<=_;omega)
    have d4:=c9.out k;have d9:k*(24*20000+26)<=20000*(24*20000+26):=Qw _ Zo
    have e2:sJ.size<=42+20000*(24*20000+26):=by
     rw[<-a3];have z4:(⟨#[44,32]⟩:ByteArray).size=2:=rfl
     split
     ·rw[ByteArray.size_append,z4];omega
     ·omega
    have a2:afs es s0 (k+1)=((((sJ++(⟨#[98]⟩:ByteArray))++ds)++(⟨#[40]⟩:ByteArray))++ls)++(⟨#[41]⟩:ByteArray):=by
     rw[<-a3,<-a5,<-a4,<-c7];rfl
    have HT:=Ja a2;have HB:=Ja hb
    have y:=Ja (show ∀W,I 97 #[U e.block] W (fun e w'=>e=.returned (.string ds)/\Y W w') from fun W=>by
     have:=af9 W e.block l;rw[a5] at this
     exact this)
    obtain⟨aa,ac,rfl,_,_⟩:=b7.form
    have HL:=Ja (show ∀W,Y wr W->I 98 #[.slice aa e.args.length ac] W (fun e w'=>e=.returned (.string ls)/\Y W w') from fun W hb=>by
     have:=ahF ((b7.below zO hb).mono zO hb.size) (by have:=j.2.2;omega) j.2.1;rw[a4] at this
     exact this)
    have q0:¬9223372036854775807<(afs es s0 k).size+2:=Zo;have q1:¬9223372036854775807<sJ.size+1:=Zo;have q2:¬9223372036854775807<sJ.size+1+ds.size:=Zo;have q3:¬9223372036854775807<sJ.size+1+ds.size+1:=Zo;have q4:¬9223372036854775807<sJ.size+1+ds.size+1+ls.size:=Zo;have q5:¬9223372036854775807<sJ.size+1+ds.size+1+ls.size+1:=Zo;have HJ:=Ja a3;have d3:=lt_of_block a6;have e4:e.args.length<=9223372036854775807:=by have:=j.2.2;omega
    obtain⟨eb,b4⟩:∃q,e.block=q:=⟨_,rfl⟩
    obtain⟨el,b3⟩:∃q,e.args.length=q:=⟨_,rfl⟩
    rw[b4] at b6 y;rw[b3] at b5 HL e4;have e5:True:=trivial;have HC:=Ja (show ∀W,Y wr W->(A W w.heap.size 2 (.slice (some ⟨ab,ao,none⟩) es.length vc)/\A W ab (ao+k*2) (U eb)/\A W ab (ao+k*2+1) (.slice aa el ac)) from fun W hb=>⟨zV hb d3 d2,zV hb c8 b6,zV hb c8 b5⟩);clear a3 a2 hb he c7 j a5 a4 b7 a6 a1 l d4 d9 e3 d7 e2 b4 b3 b6 b5
    by_cases h0:0<k
    ·have b9:(0:Int)<(k:Int):=Zo;go_upto_region 21 with fail;have hJ:=HJ.out;rw[if_pos h0] at hJ;rw[hJ];clear hJ HJ h0 b9 q0;obtain⟨c0,c1,c2⟩:=HC.out wr (Below.refl _ _)
     go_region_held3 (fun w'=>A w' w.heap.size 2 (.slice (some ⟨ab,ao,none⟩) es.length vc)/\A w' ab (ao+k*2) (U eb)/\A w' ab (ao+k*2+1) (.slice aa el ac)) ((refine HC.out _ ?_;repeat' (first|with_reducible exact Below.refl _ _|with_reducible assumption|with_reducible refine Below.drew ?_|with_reducible refine Below.alloc ?_ Zn _|with_reducible refine Below.setCell ?_ Zn _))) (first|(go_at_call 97;refine(y.out _).mono ?_;rintro e y1 ⟨rfl,c⟩;have b0:Y wr y1:=Below.trans Zb (c.mono Zn);have d6:=b0.size;clear c)|(go_at_call 98;refine(HL.out _ Zb).mono ?_;rintro e y2 ⟨rfl,m⟩;have a7:Y wr y2:=Below.trans Zb (m.mono Zn);have d5:=a7.size;clear m));all_goals (go_wp2_with fail;refine⟨⟨k+1,b2,by rw[HT.out],by go_num,HB.out.trans (Below.mono (by first|assumption|exact uG Zz) HB.out.size)⟩,by simp[intOf];omega⟩)
    ·have e1:k=0:=Zo;have b9:¬(0:Int)<(k:Int):=Zo;have hJ:=HJ.out;rw[if_neg h0] at hJ;subst e1;go_upto_region 21 with fail;rw[hJ];rw[Nat.zero_mul,Uk] at HC;clear hJ HJ h0 b9 q0;obtain⟨c0,c1,c2⟩:=HC.out wr (Below.refl _ _)
     go_region_held3 (fun w'=>A w' w.heap.size 2 (.slice (some ⟨ab,ao,none⟩) es.length vc)/\A w' ab ao (U eb)/\A w' ab (ao+1) (.slice aa el ac)) ((refine HC.out _ ?_;repeat' (first|with_reducible exact Below.refl _ _|with_reducible assumption|with_reducible refine Below.drew ?_|with_reducible refine Below.alloc ?_ Zn _|with_reducible refine Below.setCell ?_ Zn _))) (first|(go_at_call 97;refine(y.out _).mono ?_;rintro e y1 ⟨rfl,c⟩;have b0:Y wr y1:=Below.trans Zb (c.mono Zn);have d6:=b0.size;clear c)|(go_at_call 98;refine(HL.out _ Zb).mono ?_;rintro e y2 ⟨rfl,m⟩;have a7:Y wr y2:=Below.trans Zb (m.mono Zn);have d5:=a7.size;clear m));all_goals (go_wp2_with fail;refine⟨⟨1,b2,by rw[HT.out],by go_num,HB.out.trans (Below.mono (by first|assumption|exact uG Zz) HB.out.size)⟩,by simp[intOf];omega⟩)
   ·obtain rfl:k=es.length:=by omega
    have e0:¬(es.length:Int)<(es.length:Int):=Zo;clear a6;go_wp2;go_ret;exact⟨by rw[g.out];rfl,a1⟩
 ·have f2:(kd==1)=false:=by simp;omega
  have f1:(kd==2)=false:=by simp;omega
  have f0:(kd==3)=false:=by simp;omega
  have u:afc ⟨kd,a,es⟩=(if kd=4 then(if a=-1 then(⟨#[114,101,116,117,114,110]⟩:ByteArray) else(⟨#[114,101,116,117,114,110,32,118]⟩:ByteArray)++afj a) else if kd=5 then(⟨#[104,97,108,116]⟩:ByteArray) else(⟨#[63]⟩:ByteArray)):=by unfold afc;rw[if_neg hk]
  have g:=Ja u;clear u hk;have hX:=(Below.refl w.heap.size w).alloc (Je _) (G #[U kd,U a,.slice va es.length vc] 82);have d:=Ja hX;clear hX
  by_cases h4:kd=4
  ·subst h4
   by_cases b8:a=-1
   ·subst b8;go_enter Tryz.func100,Tryz.ntmps100;go_wp2;go_ret;exact⟨by rw[g.out];rfl,d.out⟩
   ·have f3:(a==-1)=false:=by simpa using b8
    rw[if_pos rfl,if_neg b8] at g;go_enter Tryz.func100,Tryz.ntmps100;go_wp2_with (go_at_call 97;go_must (refine(y.out _ HA.out _).mono ?_;rintro e w1 ⟨rfl,c⟩))
    all_goals first
     |(exfalso;simp only[ByteArray.size_append] at *;omega)
     |(go_ret;exact⟨by rw[g.out];rfl,d.out.trans (c.mono d.out.size)⟩)
  ·have e9:(kd==4)=false:=by simpa using h4
   by_cases h5:kd=5
   ·subst h5;go_enter Tryz.func100,Tryz.ntmps100;go_wp2;go_ret;exact⟨by rw[g.out];rfl,d.out⟩
   ·have e8:(kd==5)=false:=by simpa using h5
    rw[if_neg h4,if_neg h5] at g;clear h4 h5;go_enter Tryz.func100,Tryz.ntmps100;go_wp2;go_ret;exact⟨by rw[g.out];rfl,d.out⟩
def ae7 (s:ByteArray)(i:Nat)(ps:List Int):ByteArray:=((((s++(⟨#[98]⟩:ByteArray))++afj i)++(⟨#[40]⟩:ByteArray))++agl ps)++(⟨#[41,58,10]⟩:ByteArray)
def afV (ops:List IOp)(s0:ByteArray):Nat->ByteArray
 |0=>s0
 |k+1=>((if(ops.getD k ⟨0,0,0,0,0,[]⟩).res=-1 then afV ops s0 k++(⟨#[32,32]⟩:ByteArray) else(((afV ops s0 k++(⟨#[32,32]⟩:ByteArray))++(⟨#[118]⟩:ByteArray))++afj (ops.getD k ⟨0,0,0,0,0,[]⟩).res)++(⟨#[32,61,32]⟩:ByteArray))++afP (ops.getD k ⟨0,0,0,0,0,[]⟩))++(⟨#[10]⟩:ByteArray)
def ah3 (s:ByteArray)(i:Nat)(b:IBlk):ByteArray:=((afV b.ops (ae7 s i b.params) b.ops.length++(⟨#[32,32]⟩:ByteArray))++afc b.term)++(⟨#[10]⟩:ByteArray)
def aeY (bs:List IBlk):Nat->ByteArray
 |0=>⟨#[]⟩
 |i+1=>ah3 (aeY bs i) i (bs.getD i ⟨[],[],⟨0,0,[]⟩⟩)
def ahj (bs:List IBlk):ByteArray:=if bs.length=0 then(⟨#[101,120,116,101,114,110,10]⟩:ByteArray) else aeY bs bs.length
structure TxB (b:IBlk):Prop where
 par:(∀x∈b.params,I64 x)/\b.params.length<=20000
 ops:(∀o∈b.ops,(I64 o.code/\I64 o.a/\I64 o.b/\o.n<65536)/\I64 o.res/\(∀x∈o.args,I64 x)/\o.args.length<=20000)/\b.ops.length<=20000
 tos:(∀e∈b.term.to,I64 e.block/\(∀x∈e.args,I64 x)/\e.args.length<=20000)/\b.term.to.length<=20000
 trm:I64 b.term.kind/\I64 b.term.a
theorem ahc(h:∀x∈l,I64 x){N:Nat}(hl:l.length<=N):(agl l).size<=24*N:=Jn (aeL h _) Zo
theorem afp{s:ByteArray}{ps:List Int}(hi:i<=20000)(h:(∀x∈ps,I64 x)/\ps.length<=20000):(ae7 s i ps).size<=s.size+480026:=by
 have s1:=lx (n:=(i:Int)) ⟨by omega,by omega⟩;have s2:=ahc h.1 h.2;have z1:(⟨#[98]⟩:ByteArray).size=1:=rfl;have z2:(⟨#[40]⟩:ByteArray).size=1:=rfl;have z3:(⟨#[41,58,10]⟩:ByteArray).size=3:=rfl;unfold ae7;simp only[ByteArray.size_append,z1,z2,z3];omega
theorem afI {ops:List IOp}{s0:ByteArray}(h:∀o∈ops,(I64 o.code/\I64 o.a/\I64 o.b/\o.n<65536)/\I64 o.res/\(∀x∈o.args,I64 x)/\o.args.length<=20000):∀k,(afV ops s0 k).size<=s0.size+k*480130
 |0=>by rw[Nat.zero_mul];exact Je _
 |k+1=>by
  have h1:=afI (s0:=s0) h k
  have h2:(afj (ops.getD k ⟨0,0,0,0,0,[]⟩).res).size<=21/\(afP (ops.getD k ⟨0,0,0,0,0,[]⟩)).size<=24*20000+100:=by
   rw[Jj]
   cases e:ops[k]? with
   |none=>exact⟨lx pZ,by show(1:Nat)<=_;omega⟩
   |some x=>
    have c:=h x (Ji e);exact⟨lx c.2.1,ag4 ⟨c.1.2.1,c.1.2.2.1,c.1.2.2.2,c.2.2.1⟩ c.2.2.2⟩
  have z1:(⟨#[32,32]⟩:ByteArray).size=2:=rfl;have z2:(⟨#[118]⟩:ByteArray).size=1:=rfl;have z3:(⟨#[32,61,32]⟩:ByteArray).size=3:=rfl;have z4:(⟨#[10]⟩:ByteArray).size=1:=rfl;unfold afV;rw[Nat.succ_mul]
  split
  all_goals (simp only[ByteArray.size_append,z1,z2,z3,z4];omega)
theorem agp(h1:I64 t.a)(h:(∀e∈t.to,I64 e.block/\(∀x∈e.args,I64 x)/\e.args.length<=20000)/\t.to.length<=20000):(afc t).size<=9600600000:=by
 have s1:=lx h1;have s2:=afJ (s0:=age t.kind t.a) h.1 (afm h1) t.to.length;have s3:t.to.length*(24*20000+26)<=20000*(24*20000+26):=Qw _ h.2;have z1:(⟨#[114,101,116,117,114,110]⟩:ByteArray).size=6:=rfl;have z2:(⟨#[114,101,116,117,114,110,32,118]⟩:ByteArray).size=8:=rfl;have z3:(⟨#[104,97,108,116]⟩:ByteArray).size=4:=rfl;have z4:(⟨#[63]⟩:ByteArray).size=1:=rfl;unfold afc
 repeat' split
 all_goals ((try simp only[ByteArray.size_append,z1,z2,z3,z4]);omega)
theorem aiN{s:ByteArray}{b:IBlk}(hi:i<=20000)(h:TxB b):(ah3 s i b).size<=s.size+20000000000:=by
 have s1:=afp (s:=s) hi h.par;have s2:=afI (s0:=ae7 s i b.params) h.ops.1 b.ops.length;have s3:b.ops.length*480130<=20000*480130:=Qw _ h.ops.2;have s4:=agp h.trm.2 h.tos;have z1:(⟨#[32,32]⟩:ByteArray).size=2:=rfl;have z2:(⟨#[10]⟩:ByteArray).size=1:=rfl;unfold ah3;simp only[ByteArray.size_append,z1,z2];omega
theorem agt(h:∀b∈bs,TxB b)(hl:bs.length<=20000):∀i,i<=bs.length->(aeY bs i).size<=i*20000000000
 |0,_=>Jt _
 |i+1,hi=>by
  have h1:=agt h hl i Zo
  have hg:bs.getD i ⟨[],[],⟨0,0,[]⟩⟩∈bs:=by
   rw[Jj,Jd (show i<bs.length by omega)];exact Uf _
  have h2:=aiN (s:=aeY bs i) (i:=i) Zo (h _ hg);unfold aeY;rw[Nat.succ_mul];omega
theorem ahR{bv:Value}(hv:wX w w.heap.size bv bs)(hT:∀b∈bs,TxB b)(hl:bs.length<=20000):
 I 45 #[.agg #[bv]] w (aap w (ahj bs)):=by
 obtain⟨va,vc,rfl,f8,h4⟩:=hv.form;have HV:=Ja (Jb hv (Jb hT hl));have hX:=(Below.refl w.heap.size w).alloc (Je _) (G #[.slice va bs.length vc] 39);have d2:=zI (W:=w) (o:=G #[.slice va bs.length vc] 39) rfl;clear hv hT
 by_cases h0:bs.length=0
 ·have a5:ahj bs=(⟨#[101,120,116,101,114,110,10]⟩:ByteArray):=by unfold ahj;rw[if_pos h0]
  have d3:=Ja a5;have HX:=Ja hX;clear a5 hX d2 hl f8 HV;rw[h0] at HX ⊢;clear h0;go_enter Tryz.func45,Tryz.ntmps45;go_wp2;go_ret;exact⟨by rw[d3.out];rfl,HX.out⟩
 ·have a5:ahj bs=aeY bs bs.length:=by unfold ahj;rw[if_neg h0]
  have d3:=Ja a5;have i8:((bs.length:Int)==0)=false:=Ze;have HX:=Ja (Jb hX d2);clear a5 hX d2 h0;go_enter Tryz.func45,Tryz.ntmps45;go_upto_region 1 with fail;generalize w.alloc (G #[.slice va bs.length vc] 39)=X at *;have d0:A X w.heap.size 0 (.slice va bs.length vc):=zA HX.out.2 rfl;have i1:=lt_of_block HX.out.2;go_wp2;clear d0
  go_loopw [3,4] (fun sv iv wx=>∃i:Nat,i<=bs.length/\sv=.string (aeY bs i)/\iv=U i/\Below X.heap.size X wx) (fun _ iv _=>bs.length-(intOf iv).toNat)
  case atStart=>exact⟨0,Jt _,rfl,rfl,Below.refl _ _⟩
  case round=>
   obtain⟨i,hi,rfl,rfl,hb⟩:=hrel;have a7:=HX.out.1.trans (hb.mono HX.out.1.size);have d:=zH hb HX.out.2 (lt_of_block HX.out.2);have d0:A wr w.heap.size 0 (.slice va bs.length vc):=zA d rfl;have f0:=lt_of_block d
   by_cases a2:i<bs.length
   ·obtain⟨b,he⟩:∃b,bs[i]? =some b:=⟨_,Jd a2⟩
    have g4:(i:Int)<(bs.length:Int):=Zo;obtain⟨ab,ao,ea,g5,c2,c3,h64,pv,ov,tv,c0,c1,c4,b9,c8,b6⟩:=((HV.out.1.below yT a7).mono yT a7.size).get he;subst ea;have a4:=HV.out.2.1 b (Ji he);have a3:bs.getD i ⟨[],[],⟨0,0,[]⟩⟩=b:=by rw[Jj,he];rfl
    have d6:=agt HV.out.2.1 HV.out.2.2 i hi;have g3:i*20000000000<=20000*20000000000:=Qw _ Zo;have c:aeY bs (i+1)=ah3 (aeY bs i) i b:=by rw[<-a3];rfl
    obtain⟨sI,d7⟩:∃s,aeY bs i=s:=⟨_,rfl⟩
    rw[d7] at c d6 ⊢;have e7:i<=20000:=Zo;obtain⟨s0,a0⟩:∃s,ae7 sI i b.params=s:=⟨_,rfl⟩
    have b8:s0.size<=sI.size+480026:=by rw[<-a0];exact afp e7 a4.par
    have c7:=afI (s0:=s0) a4.ops.1;have b5:=agp a4.trm.2 a4.tos;have HT:=Ja (Jb c a0);have j:=Ja (Jb b8 (Jb c7 (Jb b5 a4)));have HB:=Ja (Jb hb (Jb a2 hi));obtain⟨pa,pc,rfl,_,h8⟩:=b9.form;obtain⟨oa,oc,rfl,_,h9⟩:=c8.form;obtain⟨ta,tc,rfl,_,h5⟩:=b6.form;have HM:=Ja (Jb b9 (Jb c8 b6));have i0:b.ops.length<=9223372036854775807:=Zo;clear hb d a7 d7 he a3 c a0 b8 c7 b5 b9 c8 b6 h64;go_upto_region 8 with fail;have hy:=(Below.refl wr.heap.size wr).alloc (Je _) (G #[.slice pa b.params.length pc,.slice oa b.ops.length oc,U b.term.kind,U b.term.a,.slice ta b.term.to.length tc] 84);have d5:=zI (W:=wr) (o:=G #[.slice pa b.params.length pc,.slice oa b.ops.length oc,U b.term.kind,U b.term.a,.slice ta b.term.to.length tc] 84) rfl;have HY:=Ja (Jb hy (Jb d5 (Jb (HB.out.1.trans (hy.mono HB.out.1.size)) (Jb ((HM.out.1.below zO hy).mono zO hy.size) (Jb ((HM.out.2.1.below xA hy).mono xA hy.size) ((HM.out.2.2.below xL hy).mono xL hy.size))))));clear hy d5 c0 c1 c2 c3 c4 d0 HM g5 f0;generalize wr.alloc (G #[.slice pa b.params.length pc,.slice oa b.ops.length oc,U b.term.kind,U b.term.a,.slice ta b.term.to.length tc] 84)=Y at *;generalize wr.heap.size=nb at *;have e0:A Y nb 0 (.slice pa b.params.length pc):=zA HY.out.2.1 rfl;obtain⟨ds,m⟩:∃s,afj (i:Int)=s:=⟨_,rfl⟩
    obtain⟨ls,b2⟩:∃s,agl b.params=s:=⟨_,rfl⟩
    have d8:ds.size<=21:=by rw[<-m];exact lx ⟨by omega,by omega⟩
    have g1:ls.size<=24*20000:=by rw[<-b2];exact ahc j.out.2.2.2.par.1 j.out.2.2.2.par.2
    have a0:s0=((((sI++(⟨#[98]⟩:ByteArray))++ds)++(⟨#[40]⟩:ByteArray))++ls)++(⟨#[41,58,10]⟩:ByteArray):=by rw[<-HT.out.2,<-m,<-b2];rfl
    have e5:=Ja a0
    have hD:=Ja (show ∀W,I 97 #[U i] W (fun e w'=>e=.returned (.string ds)/\Below W.heap.size W w') from fun W=>by
     have:=af9 W (i:Int) ⟨by omega,by omega⟩;rw[m] at this
     exact this)
    have hL:=Ja (show ∀W,Below Y.heap.size Y W->I 98 #[.slice pa b.params.length pc] W (fun e w'=>e=.returned (.string ls)/\Below W.heap.size W w') from fun W hb=>by
     have:=ahF ((HY.out.2.2.2.1.below zO hb).mono zO hb.size) (by have:=j.out.2.2.2.par.2;omega) j.out.2.2.2.par.1;rw[b2] at this
     exact this)
    have HE:=Ja (show ∀W,Below Y.heap.size Y W->A W nb 0 (.slice pa b.params.length pc) from fun W hb=>zV hb (lt_of_block HY.out.2.1) e0);have q1:¬9223372036854775807<sI.size+1:=Zo;have q2:¬9223372036854775807<sI.size+1+ds.size:=Zo;have q3:¬9223372036854775807<sI.size+1+ds.size+1:=Zo;have q4:¬9223372036854775807<sI.size+1+ds.size+1+ls.size:=Zo;have q5:¬9223372036854775807<sI.size+1+ds.size+1+ls.size+3:=Zo;have b7:sI.size<=400000000000000:=Zo;have d9:=Ja b7;clear m b2 d8 g1 a0 d6 g3 b7
    go_cut [3] (fun v wx=>v=.string s0/\Hid (Below Y.heap.size Y wx))
    case first=>
     go_region_held3 (fun w'=>A w' nb 0 (.slice pa b.params.length pc)) ((refine HE.out _ ?_;repeat' (first|with_reducible exact Below.refl _ _|with_reducible assumption|with_reducible refine Below.drew ?_|with_reducible refine Below.alloc ?_ Zn _|with_reducible refine Below.setCell ?_ Zn _)))
      (first
        |(go_at_call 97;refine(hD.out _).mono ?_;rintro e y1 ⟨rfl,u⟩;have e9:Below Y.heap.size Y y1:=Below.trans Zb (u.mono Zn);have h7:=e9.size;clear u)
        |(go_at_call 98;refine(hL.out _ Zb).mono ?_;rintro e y2 ⟨rfl,h⟩;have e8:Below Y.heap.size Y y2:=Below.trans Zb (h.mono Zn);have h6:=e8.size;clear h))
     all_goals (go_wp2_with fail;go_meet;exact⟨by rw[e5.out],Ja (by first|assumption|exact uG Zz)⟩)
    case rest=>
    obtain⟨rfl,HC⟩:=hcut;clear q1 q2 q3 q4 q5 e0 hD hL HE;have x:=Ja (Jb (HY.out.2.2.1.trans (HC.out.mono HY.out.2.2.1.size)) (Jb (zH HC.out HY.out.2.1 (lt_of_block HY.out.2.1)) (Jb ((HY.out.2.2.2.2.1.below xA HC.out).mono xA HC.out.size) ((HY.out.2.2.2.2.2.below xL HC.out).mono xL HC.out.size))));clear HY HC;obtain⟨Z,hZ⟩:∃Z,wc=Z:=⟨_,rfl⟩
    rw[hZ] at x ⊢;clear hZ e5;go_wp2
    go_loopw [3,6] (fun sv kv wx=>∃k:Nat,k<=b.ops.length/\sv=.string (afV b.ops s0 k)/\kv=U k/\Below Z.heap.size Z wx) (fun _ kv _=>b.ops.length-(intOf kv).toNat)
    case atStart=>exact⟨0,Jt _,rfl,rfl,Below.refl _ _⟩
    case round=>
     obtain⟨k,hk,rfl,rfl,hb⟩:=hrel;have d:=zH hb x.out.2.1 (lt_of_block x.out.2.1);have e1:A wr nb 1 (.slice oa b.ops.length oc):=zA d rfl;have f9:=lt_of_block d
     by_cases a2:k<b.ops.length
     ·obtain⟨o,he⟩:∃o,b.ops[k]? =some o:=⟨_,Jd a2⟩
      have g2:(k:Int)<(b.ops.length:Int):=Zo;obtain⟨ob,oo,ea,a1,c0,c1,c2,c3,c4,h64,av,c5,d1⟩:=((x.out.2.2.1.below xA hb).mono xA hb.size).get he;subst ea;have g:=j.out.2.2.2.ops.1 o (Ji he);have a3:b.ops.getD k ⟨0,0,0,0,0,[]⟩=o:=by rw[Jj,he];rfl
      obtain⟨aa,ac,rfl,_,_⟩:=d1.form;obtain⟨sK,l⟩:∃s,afV b.ops s0 k=s:=⟨_,rfl⟩
      obtain⟨ds,m⟩:∃s,afj o.res=s:=⟨_,rfl⟩
      obtain⟨ot,b1⟩:∃s,afP o=s:=⟨_,rfl⟩
      have d8:ds.size<=21:=by rw[<-m];exact lx g.2.1
      have c7:ot.size<=480100:=by rw[<-b1];exact ag4 (N:=20000) ⟨g.1.2.1,g.1.2.2.1,g.1.2.2.2,g.2.2.1⟩ g.2.2.2
      have c9:k*480130<=20000*480130:=Qw _ (by have:=j.out.2.2.2.ops.2;omega);have e6:sK.size<=500000000000000:=by rw[<-l];have h1:=j.out.2.1 k;have h2:=j.out.1;have h3:=d9.out;omega
      have c:afV b.ops s0 (k+1)=((if o.res=-1 then sK++(⟨#[32,32]⟩:ByteArray) else(((sK++(⟨#[32,32]⟩:ByteArray))++(⟨#[118]⟩:ByteArray))++ds)++(⟨#[32,61,32]⟩:ByteArray))++ot)++(⟨#[10]⟩:ByteArray):=by rw[<-l,<-m,<-b1,<-a3];rfl
      have HO:=Ja (show ∀W,Below wr.heap.size wr W->I 99 #[.agg (P o aa ac)] W (fun e w'=>e=.returned (.string ot)/\Below W.heap.size W w') from fun W hb=>by
       have:=akJ (o:=o) g.1 ((d1.below zO hb).mono zO hb.size) g.2.2.1 (by have:=g.2.2.2;omega);rw[b1] at this
       exact this)
      have hD:=Ja (show ∀W,I 97 #[U o.res] W (fun e w'=>e=.returned (.string ds)/\Below W.heap.size W w') from fun W=>by
       have:=af9 W o.res g.2.1;rw[m] at this
       exact this)
      have g9:=Ja (show ∀W,Below wr.heap.size wr W->A W nb 1 (.slice (some ⟨ob,oo,none⟩) b.ops.length oc)/\A W ob (oo+k*6) (U o.code)/\A W ob (oo+k*6+1) (U o.res)/\A W ob (oo+k*6+2) (U o.a)/\A W ob (oo+k*6+3) (U o.b)/\A W ob (oo+k*6+4) (O (o.n:Int))/\A W ob (oo+k*6+5) (.slice aa o.args.length ac) from fun W hb=>⟨zV hb f9 e1,zV hb a1 c0,zV hb a1 c1,zV hb a1 c2,zV hb a1 c3,zV hb a1 c4,zV hb a1 c5⟩);have b3:=Ja c;have y:=Ja hb;have b4:=Ja a2;clear d he a3 g m b1 c9 c hb h64 d1 a2;have a6:=Ja l;clear l;rw[a6.out]
      by_cases hr:o.res=-1
      ·have g0:(o.res !=-1)=false:=by simp[hr]
       have HR:=Ja hr;clear hr;have q1:¬9223372036854775807<sK.size+2:=Zo;have q2:¬9223372036854775807<sK.size+2+ot.size:=Zo;have q3:¬9223372036854775807<sK.size+2+ot.size+1:=Zo;go_wp2_with (go_at_call 99;go_must (refine(HO.out _ (Below.refl _ _)).mono ?_;rintro e w1 ⟨rfl,u⟩))
       go_roundw
       case rel=>
        exact⟨k+1,b4.out,by rw[b3.out,if_pos HR.out],by go_num,y.out.trans (u.mono y.out.size)⟩
       case measure=>have:=b4.out;simp[intOf];omega
      ·have g0:(o.res !=-1)=true:=by simp[hr]
       have HR:=Ja hr;clear hr;have q1:¬9223372036854775807<sK.size+2:=Zo;have q2:¬9223372036854775807<sK.size+2+1:=Zo;have q3:¬9223372036854775807<sK.size+2+1+ds.size:=Zo;have q4:¬9223372036854775807<sK.size+2+1+ds.size+3:=Zo;have q5:¬9223372036854775807<sK.size+2+1+ds.size+3+ot.size:=Zo;have q6:¬9223372036854775807<sK.size+2+1+ds.size+3+ot.size+1:=Zo
       go_wp2_with (first
        |(go_at_call 97
          go_must (refine(hD.out _).mono ?_;rintro e w2 ⟨rfl,h⟩)
          obtain⟨f1,f2,f3,f4,f5,f6,f7⟩:=g9.out _ h;have i2:=h.size;have d4:=Ja h
          clear h)
        |(go_at_call 99
          go_must (refine(HO.out _ d4.out).mono ?_;rintro e w1 ⟨rfl,u⟩)))
       go_roundw
       case rel=>
        exact⟨k+1,b4.out,by rw[b3.out,if_neg HR.out],by go_num,y.out.trans ((d4.out.trans (u.mono d4.out.size)).mono y.out.size)⟩
       case measure=>have:=b4.out;simp[intOf];omega
     ·obtain rfl:k=b.ops.length:=by omega
      have g2:¬(b.ops.length:Int)<(b.ops.length:Int):=Zo;have e2:A wr nb 2 (U b.term.kind):=zA d rfl;have e3:A wr nb 3 (U b.term.a):=zA d rfl;have e4:A wr nb 4 (.slice ta b.term.to.length tc):=zA d rfl;obtain⟨sK,l⟩:∃s,afV b.ops s0 b.ops.length=s:=⟨_,rfl⟩
      obtain⟨tt,b0⟩:∃s,afc b.term=s:=⟨_,rfl⟩
      have b5:tt.size<=9600600000:=by rw[<-b0];exact j.out.2.2.1
      have c9:b.ops.length*480130<=20000*480130:=Qw _ (by have:=j.out.2.2.2.ops.2;omega);have e6:sK.size<=500000000000000:=by rw[<-l];have h1:=j.out.2.1 b.ops.length;have h2:=j.out.1;have h3:=d9.out;omega
      have c:aeY bs (i+1)=((sK++(⟨#[32,32]⟩:ByteArray))++tt)++(⟨#[10]⟩:ByteArray):=by rw[HT.out.1];unfold ah3;rw[HT.out.2,l,b0]
      have g6:=Ja (show ∀W,Below wr.heap.size wr W->I 100 #[.agg #[U b.term.kind,U b.term.a,.slice ta b.term.to.length tc]] W (fun e w'=>e=.returned (.string tt)/\Below W.heap.size W w') from fun W h=>by
       have:=ais (t:=b.term) j.out.2.2.2.trm (((x.out.2.2.2.below xL hb).mono xL hb.size).below xL h|>.mono xL h.size) j.out.2.2.2.tos.1 j.out.2.2.2.tos.2;rw[b0] at this
       exact this)
      have b3:=Ja c;have y:=Ja (x.out.1.trans (hb.mono x.out.1.size));have a6:=Ja l;clear d b0 c hb c9 l;rw[a6.out];have q1:¬9223372036854775807<sK.size+2:=Zo;have q2:¬9223372036854775807<sK.size+2+tt.size:=Zo;have q3:¬9223372036854775807<sK.size+2+tt.size+1:=Zo;go_wp2_with (go_at_call 100;go_must (refine(g6.out _ (Below.refl _ _)).mono ?_;rintro e w1 ⟨rfl,u⟩))
      go_roundw
      case rel=>
       exact⟨i+1,HB.out.2.1,by rw[b3.out],by go_num,y.out.trans (u.mono y.out.size)⟩
      case measure=>have:=HB.out.2.1;simp[intOf];omega
   ·obtain rfl:i=bs.length:=by omega
    have g4:¬(bs.length:Int)<(bs.length:Int):=Zo;clear d;go_wp2;go_ret;exact⟨by rw[d3.out];rfl,a7⟩
def TxP (p:IProg):Prop:=p.funcs.length<=20000/\∀f∈p.funcs,f.length<=20000/\∀b∈f,TxB b
theorem akb{p:IProg}{da ba ga ca ea u:Option Addr}{gc cc ec hc:Nat}(h1:ProgIn w w.heap.size ⟨.slice fa p.funcs.length fc,.slice aa p.args.length ac,.slice da p.data.length dc,.slice ba p.banks.length bc⟩ p)
 (h2:ProgIn w w.heap.size ⟨.slice ga p.funcs.length gc,.slice ca p.args.length cc,.slice ea p.data.length ec,.slice u p.banks.length hc⟩ p) (hT:TxP p):
 I 19 #[.agg (D p fa fc aa ac da dc ba bc),.agg (D p ga gc ca cc ea ec u hc)] w (ym w true):=by
 have e0:p.args.length<=9223372036854775807:=by obtain⟨_,_,e,h3,h4⟩:=h1.args.form;simp only[Value.slice.injEq] at e;omega
 have d9:p.data.length<=9223372036854775807:=by obtain⟨_,_,e,h3,h4⟩:=h1.data.form;simp only[Value.slice.injEq] at e;omega
 have d8:p.funcs.length<=9223372036854775807:=by have:=hT.1;omega
 have t:=(Below.refl w.heap.size w).alloc (Je _) (G (aZ p fa fc aa ac da dc ba bc) 29);have b0:=t.alloc t.size (G (aZ p ga gc ca cc ea ec u hc) 29);have b4:PBx (w.alloc (G (aZ p fa fc aa ac da dc ba bc) 29)) w.heap.size p fa fc aa ac da dc ba bc:=PBx.new h1;have a4:=b4.below ((Below.refl _ _).alloc (Je _) (G (aZ p ga gc ca cc ea ec u hc) 29))
 have b3:PBx ((w.alloc (G (aZ p fa fc aa ac da dc ba bc) 29)).alloc (G (aZ p ga gc ca cc ea ec u hc) 29)) (w.heap.size+1) p ga gc ca cc ea ec u hc:=by
  have:=PBx.new ((h2.below t).mono t.size)
  rwa [show(w.alloc (G (aZ p fa fc aa ac da dc ba bc) 29)).heap.size=w.heap.size+1 by simp] at this
 have c:=Ja (Jb b0 (Jb a4 b3));have HT:=Ja hT;clear h1 h2 hT t b0 b4 a4 b3;unfold aZ at c;go_enter Tryz.func19,Tryz.ntmps19;go_upto_region 1 with fail;generalize (w.alloc (G (D p fa fc aa ac da dc ba bc) 29)).alloc (G (D p ga gc ca cc ea ec u hc) 29)=X at *;have c0:=c.out.2.1.c0;have c1:=c.out.2.1.c1;have c2:=c.out.2.1.c2;have c3:=c.out.2.1.c3;have c4:=c.out.2.1.c4;have c5:=c.out.2.1.c5;have d0:=c.out.2.2.c0;have d1:=c.out.2.2.c1;have d2:=c.out.2.2.c2;have d3:=c.out.2.2.c3;have d4:=c.out.2.2.c4;have d5:=c.out.2.2.c5;have d7:=c.out.2.1.lt;have d6:=c.out.2.2.lt;go_wp2;clear c0 c1 c2 c3 c4 c5 d0 d1 d2 d3 d4 d5
 go_loopw [5] (fun kv wx=>∃k:Nat,k<=p.args.length/\kv=U k/\Y X wx) (fun kv _=>p.args.length-(intOf kv).toNat)
 case atStart=>exact⟨0,Jt _,rfl,Below.refl _ _⟩
 case round=>
  obtain⟨k,hk,rfl,hb⟩:=hrel;have g1:=c.out.2.1.below hb;have g2:=c.out.2.2.below hb;have c1:=g1.c1;have d1:=g2.c1;have m:=g1.lt;have l:=g2.lt;have j:=Ja hb
  by_cases d:k<p.args.length
  ·obtain⟨x,h⟩:∃x,p.args[k]? =some x:=⟨_,Jd d⟩
   have o:(k:Int)<(p.args.length:Int):=Zo;obtain⟨b1,o1,e1,m1,x1,_⟩:=g1.prog.args.get h;obtain⟨b2,o2,e2,m2,x2,_⟩:=g2.prog.args.get h;rw[Nk] at x1 x2;subst e1 e2;have g:=Ja d;clear d h g1 g2 hb;go_wp2;go_quiet (fail);go_wp2;go_roundw
   case rel=>exact⟨k+1,g.out,by go_num,yC j.out⟩
   case measure=>have:=g.out;simp[intOf];omega
  ·obtain rfl:k=p.args.length:=by omega
   have o:¬(p.args.length:Int)<(p.args.length:Int):=Zo;clear d g1 g2 hb;go_wp2;clear c1 d1 m l
   go_loopw [6] (fun kv wx=>∃k:Nat,k<=p.data.length/\kv=U k/\Y X wx) (fun kv _=>p.data.length-(intOf kv).toNat)
   case atStart=>exact⟨0,Jt _,rfl,j.out⟩
   case round=>
    clear j;obtain⟨k,hk,rfl,hb⟩:=hrel;have g1:=c.out.2.1.below hb;have g2:=c.out.2.2.below hb;have c4:=g1.c4;have d4:=g2.c4;have m:=g1.lt;have l:=g2.lt;have j:=Ja hb
    by_cases d:k<p.data.length
    ·obtain⟨x,h⟩:∃x,p.data[k]? =some x:=⟨_,Jd d⟩
     have o:(k:Int)<(p.data.length:Int):=Zo;obtain⟨b1,o1,e1,m1,x1,x2,x3,_⟩:=g1.prog.data.get h;obtain⟨b2,o2,e2,m2,y1,y2,y3,_⟩:=g2.prog.data.get h;subst e1 e2;have g:=Ja d;clear d h g1 g2 hb;go_wp2;go_quiet (fail);go_wp2;go_roundw
     case rel=>exact⟨k+1,g.out,by go_num,yC j.out⟩
     case measure=>have:=g.out;simp[intOf];omega
    ·obtain rfl:k=p.data.length:=by omega
     have o:¬(p.data.length:Int)<(p.data.length:Int):=Zo;clear d g1 g2 hb;go_wp2;clear c4 d4 m l
     go_loopw [7] (fun kv wx=>∃k:Nat,k<=p.funcs.length/\kv=U k/\Y X wx) (fun kv _=>p.funcs.length-(intOf kv).toNat)
     case atStart=>exact⟨0,Jt _,rfl,j.out⟩
     case round=>
      clear j;obtain⟨k,hk,rfl,hb⟩:=hrel;have g1:=c.out.2.1.below hb;have g2:=c.out.2.2.below hb;have c0:=g1.c0;have d0:=g2.c0;have m:=g1.lt;have l:=g2.lt;have j:=Ja (c.out.1.trans (hb.mono c.out.1.size));have b7:=Ja hb
      by_cases d:k<p.funcs.length
      ·obtain⟨f,h⟩:∃x,p.funcs[k]? =some x:=⟨_,Jd d⟩
       have o:(k:Int)<(p.funcs.length:Int):=Zo;have i:=HT.out.2 f (Ji h);obtain⟨b1,o1,e1,m1,v1,x1,a0⟩:=g1.prog.funcs.get h;obtain⟨b2,o2,e2,m2,v2,y1,y⟩:=g2.prog.funcs.get h;rw[Nk] at x1 y1;obtain⟨a1,k1,rfl,_,_⟩:=a0.form;obtain⟨a2,k2,rfl,_,_⟩:=y.form;subst e1 e2;obtain⟨S,hS⟩:∃S,ahj f=S:=⟨_,rfl⟩
       have b6:=Ja (show ∀W,Y wr W->I 45 #[.agg #[.slice a1 f.length k1]] W (fun e w'=>e=.returned (.string S)/\Y W w') from fun W hbW=>by
        have:=ahR ((a0.below yT hbW).mono yT hbW.size) i.2 i.1;rw[hS] at this
        exact this)
       have b5:=Ja (show ∀W,Y wr W->I 45 #[.agg #[.slice a2 f.length k2]] W (fun e w'=>e=.returned (.string S)/\Y W w') from fun W hbW=>by
        have:=ahR ((y.below yT hbW).mono yT hbW.size) i.2 i.1;rw[hS] at this
        exact this)
       have a5:f.length<=9223372036854775807:=by have:=i.1;omega
       obtain⟨fl,a3⟩:∃n,f.length=n:=⟨_,rfl⟩
       rw[a3] at b6 b5 x1 y1 a5;have HC:=Ja (show ∀W,Y wr W->A W w.heap.size 0 (.slice (some ⟨b1,o1,none⟩) p.funcs.length fc)/\A W (w.heap.size+1) 0 (.slice (some ⟨b2,o2,none⟩) p.funcs.length gc)/\A W b1 (o1+k) (.slice a1 fl k1)/\A W b2 (o2+k) (.slice a2 fl k2) from fun W hbW=>⟨zV hbW m c0,zV hbW l d0,zV hbW m1 x1,zV hbW m2 y1⟩);have g:=Ja d;clear d h g1 g2 hb hS a3 i a0 y;go_upto_region 16 with fail
       go_cut [128] (fun v wx=>v=.bool false/\Hid (Y wr wx))
       case first=>
        go_region_held3 (fun w'=>A w' w.heap.size 0 (.slice (some ⟨b1,o1,none⟩) p.funcs.length fc)/\A w' (w.heap.size+1) 0 (.slice (some ⟨b2,o2,none⟩) p.funcs.length gc)/\A w' b1 (o1+k) (.slice a1 fl k1)/\A w' b2 (o2+k) (.slice a2 fl k2)) ((refine HC.out _ ?_;repeat' (first|with_reducible exact Below.refl _ _|with_reducible assumption|with_reducible refine Below.drew ?_|with_reducible refine Below.alloc ?_ Zn _|with_reducible refine Below.setCell ?_ Zn _)))
         (first
           |(go_at_call 45;with_reducible refine(b6.out _ Zb).mono ?_;rintro e y1 ⟨rfl,a7⟩;have b9:Below wr.heap.size wr y1:=Below.trans Zb (a7.mono Zn);have c9:=b9.size;clear a7)
           |(go_at_call 45;with_reducible refine(b5.out _ Zb).mono ?_;rintro e y2 ⟨rfl,a6⟩;have b8:Below wr.heap.size wr y2:=Below.trans Zb (a6.mono Zn);have c8:=b8.size;clear a6))
        all_goals (go_wp2_with fail;go_meet;exact⟨by simp,Ja (by first|assumption|exact uG Zz)⟩)
       case rest=>
       obtain⟨rfl,c7⟩:=hcut;go_wp2;go_roundw
       case rel=>exact⟨k+1,g.out,by go_num,b7.out.trans (c7.out.mono b7.out.size)⟩
       case measure=>have:=g.out;simp[intOf];omega
      ·obtain rfl:k=p.funcs.length:=by omega
       have o:¬(p.funcs.length:Int)<(p.funcs.length:Int):=Zo;clear d g1 g2 hb;go_wp2;go_ret;exact⟨rfl,j.out⟩
theorem SmP.txz {N:Nat}{p:IProg}(h:SmP N p)(d:N<=20000)(h64:P64 p):TxP p:=by
 refine⟨Jn h.fn d,fun f hf=>⟨Jn (h.fs f hf).1 d,fun b hb=>?_⟩⟩;have hs:=(h.fs f hf).2 b hb;have c:=h64.funcs f hf b hb;exact⟨⟨c.par,Jn hs.par d⟩,⟨fun o ho=>⟨⟨(c.ops o ho).1.1,(c.ops o ho).1.2.2.1,(c.ops o ho).1.2.2.2.1,(c.ops o ho).1.2.2.2.2⟩,(c.ops o ho).1.2.1,(c.ops o ho).2,Jn (hs.oarg o ho) d⟩,Jn hs.ops d⟩,⟨fun e he=>⟨(c.tos e he).1,(c.tos e he).2,Jn (hs.earg e he) d⟩,Jn hs.tos d⟩,c.term⟩
def akZ (r:Rg):Rg:=⟨(r.lo+1)%65536,r.hi⟩
structure IncK (X:World) (b3:Nat) (jv:Value) (O:List Int) (b:Nat) (R:List Rg) (k:Nat) (wx:World):Prop where
 below:Below X.heap.size X wx
 own:wx.ownsRow b3 3 1 jv O.length (O.map zN)
 lo:X.heap.size<=b
 hi:b<b3
 row:∃R':List Rg,wx.heap[b]? =some (.cells (R'.flatMap pn).toArray 45 (0,0))/\∀j r,R[j]? =some r->R'[j]? =some (if j<k then akZ r else r)
theorem IncK.next{X:World}{b3:Nat}{jv:Value}{O:List Int}{b:Nat}{R:List Rg}{wx:World}(h:IncK X b3 jv O b R k wx){a:Rg}(c:R[k]? =some a):
 IncK X b3 jv O b R (k+1) (wx.setCell ⟨b,k*2,none⟩ (.int .u16 (((a.lo+1)%65536:Nat):Int))):=by
 obtain⟨R',h1,h2⟩:=h.row;have hk:R'[k]? =some a:=by rw[h2 k a c,if_neg (Nat.lt_irrefl k)]
 refine⟨h.below.setCell h.lo _,ownsRow_setCell_below h.own h.hi _,h.lo,h.hi,R'.set k (akZ a),?_,fun j r hr=>?_⟩
 ·rw[zD h1];have:=iI (f:=pn) (n:=2) (fun _=>rfl) hk (j:=0) (u:=.int .u16 (((a.lo+1)%65536:Nat):Int)) (a:=akZ a) Zd rfl;rw[Uk] at this;rw[Jc,this]
 ·have hl:=(Jh.1 hk).1
  by_cases e:j=k
  ·subst e;rw[hr] at c;cases c;rw[Nn hl,if_pos (Nat.lt_succ_self _)]
  ·rw[Ns (fun h=>e h.symm),h2 j r hr]
   by_cases h3:j<k
   ·rw[if_pos h3,if_pos Zo]
   ·rw[if_neg h3,if_neg Zo]
theorem akx (p:IProg)(n:Int):∀z∈objP p n,I64 z:=fun z hz=>by
 unfold objP at hz
 split at hz
 ·rename_i hq
  obtain⟨o,_,rfl⟩:=Nu.1 hz;have d:=ahD hq.1;rcases afz p.data 0 ((p6 p (p.funcs.getD n.toNat [])).getD o.a.toNat ⟨0,0⟩) (agj o) with h|⟨j,c,h,_⟩
  ·show I64 (afL p.data _ o)
   unfold afL
   show I64 (ae6 p.data ((0:Nat):Int) _ _)
   rw[h];exact⟨by decide,by decide⟩
  ·show I64 (afL p.data _ o)
   unfold afL
   show I64 (ae6 p.data ((0:Nat):Int) _ _)
   rw[h];exact⟨by omega,by omega⟩
 ·cases hz
theorem ako {p:IProg}(d:∀f∈p.funcs,vZ f)(h64:P64 p)(n:Nat):(rgsP p (n:Int)).length<=65536:=by
 by_cases h:ak2 p (n:Int)
 ·have i:n<p.funcs.length:=by
   have h2:=h.2.2;rw[Ni] at h2;exact Classical.byContradiction fun h1=>h2 (by rw[Jj,Of Zo];rfl)
  have g:p.funcs[n]? =some (p.funcs[n]):=Jd i;have e:=aje h.1 d h64 g;have c:=(aM h.1 d).cnt _ (Ji g);omega
 ·unfold rgsP;rw[if_neg h];exact Jt _
theorem akd (w:World)(sv:Value)(s:List Int)(q0 q1 q2:Int)(u:Nat)(hs:zY w w.heap.size sv s)(hq:I64 q0/\I64 q1/\I64 q2)(hu:u<256):
 I 4 #[sv,.agg #[U q0,U q1,U q2],.int .u8 (u:Int)] w fun e w'=>e=.returned (.bool true)/\Y w w':=by
 obtain⟨sa,sc,rfl,k1,k0⟩:=hs.form;have HS:=Ja (Jb hs hq);have h5:Y w (w.alloc (G #[U q0,U q1,U q2] 23)):=(Below.refl _ _).alloc (Je _) _;have f6:QBx (w.alloc (G #[U q0,U q1,U q2] 23)) w.heap.size q0 q1 q2:=⟨zI rfl⟩
 have H0:=Ja (Jb h5 f6);clear hs k1 k0 h5 f6 hq;go_enter Tryz.func4,Tryz.ntmps4;go_upto_region 2 with(go_at_call 11;go_must (refine(ahv _).mono ?_;rintro e w0 ⟨rfl,o⟩))
 have H1:=Ja (Jb (H0.out.1.trans (o.mono H0.out.1.size)) (H0.out.2.below o));have k2:w.heap.size+1<=w0.heap.size:=by have:=o.size;simp at this;omega
 clear o H0;have HM:=Ja (show ∀W,Y w0 W->I 12 #[.slice sa s.length sc] W (oC W (uR (s.take 200))) from fun W hb=>af7 ((HS.out.1.below zO (H1.out.1.trans (hb.mono H1.out.1.size))).mono zO (H1.out.1.trans (hb.mono H1.out.1.size)).size));have d9:=made_smS (s.take 200);generalize uR (s.take 200)=p0 at *
 have HT:=Ja (show ∀(W:World) (fa:Option Addr) (fc:Nat) (aa:Option Addr) (ac:Nat) (da:Option Addr) (dc:Nat) (ba:Option Addr) (bc:Nat),ProgIn W W.heap.size ⟨.slice fa p0.funcs.length fc,.slice aa p0.args.length ac,.slice da p0.data.length dc,.slice ba p0.banks.length bc⟩ p0->
  I 13 #[.agg (D p0 fa fc aa ac da dc ba bc),.agg #[U q0,U q1,U q2]] W (TuRet2 W (wR p0 q0 q1 q2)) from fun W fa fc aa ac da dc ba bc hp=>by
  have h:=kU hp (d9.small (by decide)) HS.out.2
  exact h)
 have g3:=acA d9 q0 q1 q2;generalize wR p0 q0 q1 q2=p at *;have f3:=Ja g3;clear d9 g3
 have HQ:=Ja (show ∀W,Y w0 W->A W w.heap.size 0 (U q0)/\A W w.heap.size 1 (U q1)/\A W w.heap.size 2 (U q2) from fun W hb=>by
  have h:=H1.out.2.below hb
  exact⟨h.c0,h.c1,h.c2⟩)
 go_cut [8] (fun v wx=>jL w0 p v wx)
 case first=>
  go_region_held3 (fun w'=>A w' w.heap.size 0 (U q0)/\A w' w.heap.size 1 (U q1)/\A w' w.heap.size 2 (U q2))
   ((refine HQ.out _ ?_;repeat' (first|with_reducible exact Below.refl _ _|with_reducible assumption|with_reducible refine Below.drew ?_|with_reducible refine Below.alloc ?_ Zn _|with_reducible refine Below.setCell ?_ Zn _)))
   (first
     |(go_at_call 12
       refine(HM.out _ Zb).mono ?_;rintro e w1 ⟨fa,fc,aa,ac,da,dc,ba,bc,rfl,hp,o⟩;have j5:Y w0 w1:=Below.trans Zb (o.mono Zn);have k6:=j5.size
       try have b3:Q w1 w0.heap.size #[L,L,U 0,U 0,L,L] 29:=zH o (show(World.alloc w0 _).heap[w0.heap.size]? =_ from zI rfl) Zs
       clear o)
     |(go_at_call 13
       refine(HT.out _ _ _ _ _ _ _ _ _ (ProgIn.mono (ProgIn.below hp Zb) Zn)).mono ?_;rintro e w2 ⟨ga,gc,l,hc,ia,ic,ja,jc,rfl,d7,e8⟩;have b2:Y w0 w2:=Below.trans Zb (e8.mono Zn);have k5:=b2.size
       first
        |(have c:w2.heap[w0.heap.size]? =some (.cells #[.slice none 0 0,.slice none 0 0,.int .i64 0,.int .i64 0,.slice none 0 0,.slice none 0 0] 29 (0,0)):=zH e8 b3 (by first|exact lt_of_block b3|(have:=lt_of_block b3;simp;omega));have c0:=zA (i:=0) c rfl;have c1:=zA (i:=1) c rfl;have c2:=zA (i:=2) c rfl;have c3:=zA (i:=3) c rfl;have c4:=zA (i:=4) c rfl;have c5:=zA (i:=5) c rfl;have cf:∀i,w2.frozen? ⟨w0.heap.size,i,none⟩=false:=fun i=>zE c;have cl:=lt_of_block c)
        |(have c:w2.heap[w1.heap.size]? =some (.cells #[.slice none 0 0,.slice none 0 0,.int .i64 0,.int .i64 0,.slice none 0 0,.slice none 0 0] 29 (0,0)):=zH e8 (by with_reducible exact zI rfl) Zs;have c0:=zA (i:=0) c rfl;have c1:=zA (i:=1) c rfl;have c2:=zA (i:=2) c rfl;have c3:=zA (i:=3) c rfl;have c4:=zA (i:=4) c rfl;have c5:=zA (i:=5) c rfl;have cf:∀i,w2.frozen? ⟨w1.heap.size,i,none⟩=false:=fun i=>zE c;have cl:=lt_of_block c)
        |skip))
  all_goals go_wp2_with fail
  all_goals go_meet
  ·exact kD b2 d7
  ·exact qx b2 d7 c Zs Zo
  ·exact qx b2 d7 c (lt_of_block b3) (Je _)
 case rest=>
 obtain⟨b8,fa,fc,aa,ac,da,dc,ba,bc,rfl,HK⟩:=hcut;clear HM HT HQ;have g1:PBx wc b8 p fa fc aa ac da dc ba bc:=⟨HK.out.2.1,HK.out.2.2.1⟩
 have g:=Ja (Jb (H1.out.1.trans (HK.out.2.2.2.mono H1.out.1.size)) (Jb g1 (Jb (f3.out.small Zd) HK.out.2.2.1.p64)));clear g1 HK H1 k2;obtain⟨X1,h8⟩:∃X,wc=X:=⟨_,rfl⟩
 rw[h8] at g ⊢;clear h8;have c0:=g.out.2.1.c0;have c1:=g.out.2.1.c1;have c2:=g.out.2.1.c2;have c3:=g.out.2.1.c3;have c4:=g.out.2.1.c4;have c5:=g.out.2.1.c5;have cl:=g.out.2.1.lt;have i9:=Ja (uJ g.out.2.1.prog g.out.2.2.1);go_upto_region 4 with(go_at_call 18;go_must (refine i9.out.mono ?_;rintro e w2 ⟨T,ga,gc,l,hc,ja,jc,ka,kc,rfl,a6,c7,f7,o⟩))
 have g0:ProgIn w2 w2.heap.size ⟨.slice ga p.funcs.length gc,.slice l p.args.length hc,.slice ja p.data.length jc,.slice ka p.banks.length kc⟩ p:=by
  have:=PT.in f7 (by rw[c7];exact g.out.2.2.2);rw[c7] at this;unfold PT.V at this;rw[a6.1,a6.2.1,a6.2.2.1,a6.2.2.2] at this;exact this
 have e4:=o.alloc o.size (G (D p ga gc l hc ja jc ka kc) 29);have t:=Ja (Jb (g.out.1.trans (e4.mono g.out.1.size)) (Jb (g.out.2.1.below e4) (PBx.new g0)));clear o e4 g0 a6 c7 f7 T i9 c0 c1 c2 c3 c4 c5 cl g;generalize w2.alloc (G (D p ga gc l hc ja jc ka kc) 29)=X2 at *;generalize w2.heap.size=b9 at *;go_upto_region 5 with fail;obtain⟨n,hn,k7⟩:∃n:Nat,(u:Int)%4=(n:Int)/\n<4:=⟨u%4,by omega,Qj _ Zd⟩
 rw[hn];clear hn;have a4:∀f∈p.funcs,vZ f:=fun f hf=>(f3.out.sized Zd f hf).1
 obtain⟨RG,b4⟩:∃RG,rgsP p (n:Int)=RG:=⟨_,rfl⟩
 obtain⟨OB,b5⟩:∃OB,objP p (n:Int)=OB:=⟨_,rfl⟩
 have i8:=Ja (show ∀W,Y X2 W->I 15 #[.agg (D p fa fc aa ac da dc ba bc),U n] W (ah1 W RG) from fun W hb=>by
  have:=afE (t.out.2.1.below hb).prog (Je _) a4 (n:Int)
  rwa [b4] at this)
 have i2:=Ja (show ∀W,Y X2 W->I 15 #[.agg (D p ga gc l hc ja jc ka kc),U n] W (ah1 W RG) from fun W hb=>by
  have:=afE (t.out.2.2.below hb).prog (Je _) a4 (n:Int)
  rwa [b4] at this)
 have j2:=Ja (show ∀W,Y X2 W->I 16 #[.agg (D p fa fc aa ac da dc ba bc),U n] W (afZ W OB) from fun W hb=>by
  have:=afb (t.out.2.1.below hb).prog (Je _) a4 (n:Int)
  rwa [b5] at this)
 have j1:=Ja (show ∀W,Y X2 W->I 16 #[.agg (D p ga gc l hc ja jc ka kc),U n] W (afZ W OB) from fun W hb=>by
  have:=afb (t.out.2.2.below hb).prog (Je _) a4 (n:Int)
  rwa [b5] at this)
 have i0:=Ja (show ∀W,Y X2 W->I 19 #[.agg (D p fa fc aa ac da dc ba bc),.agg (D p ga gc l hc ja jc ka kc)] W (ym W true) from fun W hb=>akb (t.out.2.1.below hb).prog (t.out.2.2.below hb).prog (f3.out.txz Zd t.out.2.1.prog.p64));have i1:=Ja (show RG.length<=65536 by rw[<-b4];exact ako a4 t.out.2.1.prog.p64 n);have f2:=Ja (show ∀z∈OB,I64 z by rw[<-b5];exact akx _ _);clear b4 b5 a4
 have HC:=Ja (show ∀W,Y X2 W->b8<W.heap.size/\b9<W.heap.size/\A W b8 0 (.slice fa p.funcs.length fc)/\A W b8 1 (.slice aa p.args.length ac)/\A W b8 2 (U p.entry)/\A W b8 3 (U p.handler)/\A W b8 4 (.slice da p.data.length dc)/\A W b8 5 (.slice ba p.banks.length bc)/\A W b9 0 (.slice ga p.funcs.length gc)/\A W b9 1 (.slice l p.args.length hc)/\A W b9 2 (U p.entry)/\A W b9 3 (U p.handler)/\A W b9 4 (.slice ja p.data.length jc)/\A W b9 5 (.slice ka p.banks.length kc) from fun W hb=>by
  have h1:=t.out.2.1.below hb;have h2:=t.out.2.2.below hb
  exact⟨h1.lt,h2.lt,h1.c0,h1.c1,h1.c2,h1.c3,h1.c4,h1.c5,h2.c0,h2.c1,h2.c2,h2.c3,h2.c4,h2.c5⟩)
 obtain⟨l8,l9,c0,c1,c2,c3,c4,c5,d0,d1,d2,d3,d4,d5⟩:=HC.out X2 (Below.refl _ _);go_upto_region 6 with(go_at_call 15;go_must (refine(i8.out _ (Below.refl _ _)).mono ?_;rintro e w3 ⟨ra,rfl,f9,h4⟩))
 have a5:=Ja (Jb f9 h4);clear l8 l9 c0 c1 c2 c3 c4 c5 d0 d1 d2 d3 d4 d5;clear f9 h4 i8;obtain⟨l8,l9,c0,c1,c2,c3,c4,c5,d0,d1,d2,d3,d4,d5⟩:=HC.out w3 a5.out.2;go_upto_region 7 with(go_at_call 16;go_must (refine(j2.out _ a5.out.2).mono ?_;rintro e w4 ⟨jv,rfl,e0,g9⟩))
 obtain⟨b7,b6,rfl⟩:=zG e0;have a7:=Ja (Jb e0 g9);clear l8 l9 c0 c1 c2 c3 c4 c5 d0 d1 d2 d3 d4 d5;clear e0 g9 j2
 obtain⟨rb,f8⟩:∃rb,RG≠ []->ra=some ⟨rb,0,none⟩/\Q w3 rb (RG.flatMap pn).toArray 45/\X2.heap.size<=rb:=by
  by_cases h:RG=[]
  ·exact⟨0,fun h0=>absurd h h0⟩
  ·obtain⟨b,h1,h2,h3⟩:=a5.out.1 h;exact⟨b,fun _=>⟨h1,h2,h3⟩⟩
 have b1:=Ja f8;clear f8;have f5:=Ja (show Y X2 w4 from a5.out.2.trans (a7.out.2.mono a5.out.2.size))
 have j4:=Ja (show RG≠ []->IncK X2 w3.heap.size (.slice b7 OB.length b6) OB rb RG 0 w4 from fun h0=>by
  obtain⟨_,h1,h2⟩:=b1.out h0;have hl:=lt_of_block h1
  exact⟨f5.out,a7.out.1,h2,hl,RG,zH a7.out.2 h1 hl,fun j r hr=>by rw[hr,if_neg (Nat.not_lt_zero _)]⟩)
 go_wp2
 go_loopw [36] (fun kv wx=>∃k:Nat,k<=RG.length/\kv=U k/\Hid ((RG≠ []->IncK X2 w3.heap.size (.slice b7 OB.length b6) OB rb RG k wx)/\Y X2 wx/\wx.ownsRow w3.heap.size 3 1 (.slice b7 OB.length b6) OB.length (OB.map zN))) (fun kv _=>RG.length-(intOf kv).toNat)
 case atStart=>exact⟨0,Jt _,rfl,Ja ⟨j4.out,f5.out,a7.out.1⟩⟩
 case round=>
  obtain⟨k,hk,rfl,HK⟩:=hrel
  by_cases d:k<RG.length
  ·have a2:(k:Int)<(RG.length:Int):=Zo;have a1:=Ja d;have a3:RG≠ []:=fun e=>by rw[e] at d;exact absurd d (Nat.not_lt_zero _)
   obtain⟨rfl,_,_⟩:=b1.out a3;have j3:=Ja (HK.out.1 a3);obtain⟨a,l⟩:∃a,RG[k]? =some a:=⟨_,Jd d⟩
   obtain⟨R',h1,h2⟩:=j3.out.row;have g4:R'[k]? =some a:=by rw[h2 k a l,if_neg (Nat.lt_irrefl k)]
   have r0:A wr rb (k*2) (O (a.lo:Int)):=by have:=oW (f:=pn) (n:=2) (fun _=>rfl) h1 g4 (j:=0) rfl;rw[Ng,Uk] at this;exact this
   have rl:=lt_of_block h1;have rf:∀i,N wr rb i:=fun i=>zE h1
   have wl:IntKind.u16.wrap ((a.lo:Int)+1)=(((a.lo+1)%65536:Nat):Int):=by rw[xY];omega
   have wk:IntKind.i64.wrap ((k:Int)+1)=(k:Int)+1:=Om _ (by have:=i1.out;omega);have HA:=Ja l;clear d a3 l h1 h2 g4;go_wp2;go_roundw
   case rel=>
    have hn:=j3.out.next HA.out;exact⟨k+1,a1.out,by go_num,Ja ⟨fun _=>hn,hn.below,hn.own⟩⟩
   case measure=>have:=a1.out;simp[intOf];omega
  ·obtain rfl:k=RG.length:=by omega
   have a2:¬(RG.length:Int)<(RG.length:Int):=Zo;clear d hk;obtain⟨l8,l9,c0,c1,c2,c3,c4,c5,d0,d1,d2,d3,d4,d5⟩:=HC.out wr HK.out.2.1;go_upto_region 13 with(go_at_call 15;go_must (refine(i2.out _ HK.out.2.1).mono ?_;rintro e w5 ⟨k3,rfl,g6,e7⟩))
   have a0:=Ja (Jb g6 (Jb e7 (HK.out.2.1.trans (e7.mono HK.out.2.1.size))));clear l8 l9 c0 c1 c2 c3 c4 c5 d0 d1 d2 d3 d4 d5;clear g6 e7 i2;obtain⟨l8,l9,c0,c1,c2,c3,c4,c5,d0,d1,d2,d3,d4,d5⟩:=HC.out w5 a0.out.2.2;go_upto_region 14 with(go_at_call 16;go_must (refine(j1.out _ a0.out.2.2).mono ?_;rintro e w6 ⟨mv,rfl,d8,e6⟩))
   obtain⟨ma2,mc2,rfl⟩:=zG d8;have y:=Ja (Jb d8 (Jb e6 (a0.out.2.2.trans (e6.mono a0.out.2.2.size))));clear l8 l9 c0 c1 c2 c3 c4 c5 d0 d1 d2 d3 d4 d5;clear d8 e6 j1;obtain⟨l8,l9,c0,c1,c2,c3,c4,c5,d0,d1,d2,d3,d4,d5⟩:=HC.out w6 y.out.2.2;have e1:((RG.length:Int) !=(RG.length:Int))=false:=by simp
   have e2:((OB.length:Int) !=(OB.length:Int))=false:=by simp
   go_upto_if 71 with(go_at_call 19;go_must (refine(i0.out _ y.out.2.2).mono ?_;rintro e w7 ⟨rfl,e5⟩))
   have b0:=Ja (Jb e5 (y.out.2.2.trans (e5.mono y.out.2.2.size)));clear l8 l9 c0 c1 c2 c3 c4 c5 d0 d1 d2 d3 d4 d5;clear e5 i0 e1 e2;have f1:Y wr w6:=a0.out.2.1.trans (y.out.2.1.mono a0.out.2.1.size);have f0:Y wr w7:=f1.trans (b0.out.1.mono f1.size)
   have FA:=Ja (show RG≠ []->∃R':List Rg,ra=some ⟨rb,0,none⟩/\Q w7 rb (R'.flatMap pn).toArray 45/\∀j r,RG[j]? =some r->R'[j]? =some (akZ r) from fun h0=>by
    obtain⟨R',h1,h2⟩:=(HK.out.1 h0).row
    exact⟨R',(b1.out h0).1,zH f0 h1 (lt_of_block h1),fun j r hr=>by rw[h2 j r hr,if_pos (Jh.1 hr).1]⟩)
   have h9:Y w5 w7:=y.out.2.1.trans (b0.out.1.mono y.out.2.1.size)
   have FB:=Ja (show RG≠ []->∃b,k3=some ⟨b,0,none⟩/\Q w7 b (RG.flatMap pn).toArray 45 from fun h0=>by
    obtain⟨b,h1,h2,_⟩:=a0.out.1 h0
    exact⟨b,h1,zH h9 h2 (lt_of_block h2)⟩)
   have OJ:=Ja (pT (p7 HK.out.2.2 f0 (Je _)) f2.out);have k4:=Ja (show OB.length<=9223372036854775807 by obtain⟨_,_,_,h1,h2⟩:=OJ.out.form;exact Jn h1 h2);have OM:=Ja (pT (p7 y.out.1 b0.out.1 (Je _)) f2.out);have f4:=Ja (show Y w w7 from t.out.1.trans (b0.out.2.mono t.out.1.size));clear f1 f0 h9 a0 y a5 a7 HK j4 f5 b0 HC;go_wp2
   go_loopw [74] (fun kv wx=>∃k:Nat,k<=RG.length/\kv=U k/\Hid (Y w7 wx)) (fun kv _=>RG.length-(intOf kv).toNat)
   case atStart=>exact⟨0,Jt _,rfl,Ja (Below.refl _ _)⟩
   case round=>
    rename World=>wq
    obtain⟨k,hk,rfl,HJ⟩:=hrel
    by_cases d:k<RG.length
    ·have a2:(k:Int)<(RG.length:Int):=Zo;have a1:=Ja d;have a3:RG≠ []:=fun e=>by rw[e] at d;exact absurd d (Nat.not_lt_zero _)
     obtain⟨R',rfl,e9,h7⟩:=FA.out a3;obtain⟨qb,rfl,d6⟩:=FB.out a3;obtain⟨a,l⟩:∃a,RG[k]? =some a:=⟨_,Jd d⟩
     have c8:=zH HJ.out e9 (lt_of_block e9);have c9:=zH HJ.out d6 (lt_of_block d6);have h6:=h7 k a l;have cr:∀(W:World) (bb:Nat) (S:List Rg) (x:Rg),Q W bb (S.flatMap pn).toArray 45->S[k]? =some x->A W bb (k*2) (O (x.lo:Int))/\A W bb (k*2+1) (O (x.hi:Int)):=fun W bb S x h hx=>⟨by have:=oW (f:=pn) (n:=2) (fun _=>rfl) h hx (j:=0) rfl;rw[Ng,Uk] at this;exact this,by have:=oW (f:=pn) (n:=2) (fun _=>rfl) h hx (j:=1) rfl;rw[Ng] at this;exact this⟩
     obtain⟨r0,r1⟩:=cr wq rb R' (akZ a) c8 h6;obtain⟨q5,q6⟩:=cr wq qb RG a c9 l;have rl:=lt_of_block c8;have ql:=lt_of_block c9;have wl:IntKind.u16.wrap ((a.lo:Int)+1)=((akZ a).lo:Int):=by rw[xY];show _=(((a.lo+1)%65536:Nat):Int);omega
     have wk:IntKind.i64.wrap ((k:Int)+1)=(k:Int)+1:=Om _ (by have:=i1.out;omega);have e3:(akZ a).hi=a.hi:=rfl;rw[e3] at r1;generalize (akZ a).lo=m at *;have n0:((m:Int) !=(m:Int))=false:=by simp
     have n1:((a.hi:Int) !=(a.hi:Int))=false:=by simp
     clear d a3 d6 l c8 c9 cr e9 h7 h6 e3;go_upto_region 19 with fail;go_quiet (fail);go_wp2;go_roundw
     case rel=>exact⟨k+1,a1.out,by go_num,Ja (yC HJ.out)⟩
     case measure=>have:=a1.out;simp[intOf];omega
    ·obtain rfl:k=RG.length:=by omega
     have a2:¬(RG.length:Int)<(RG.length:Int):=Zo;clear d hk;go_wp2
     go_loopw [105] (fun kv wx=>∃k:Nat,k<=OB.length/\kv=U k/\Hid (Y w7 wx)) (fun kv _=>OB.length-(intOf kv).toNat)
     case atStart=>exact⟨0,Jt _,rfl,HJ⟩
     case round=>
      rename World=>wz
      obtain⟨k,hk,rfl,HL⟩:=hrel
      by_cases d:k<OB.length
      ·have a2:(k:Int)<(OB.length:Int):=Zo;have a1:=Ja d;obtain⟨a,l⟩:∃a,OB[k]? =some a:=⟨_,Jd d⟩
       obtain⟨jb,jo,rfl,g5,j0,_⟩:=(OJ.out.below zO HL.out).get l;obtain⟨mb,mo,rfl,g2,m0,_⟩:=(OM.out.below zO HL.out).get l;have l0:=Jy g5 HL.out.size;have k9:=Jy g2 HL.out.size;rw[Nk] at j0 m0;have wk:IntKind.i64.wrap ((k:Int)+1)=(k:Int)+1:=Om _ (by have:=k4.out;omega);have n0:(a !=a)=false:=by simp
       clear d l g5 g2;go_upto_region 25 with fail;go_quiet (fail);go_wp2;go_roundw
       case rel=>exact⟨k+1,a1.out,by go_num,Ja (yC HL.out)⟩
       case measure=>have:=a1.out;simp[intOf];omega
      ·obtain rfl:k=OB.length:=by omega
       have a2:¬(OB.length:Int)<(OB.length:Int):=Zo;clear d hk;go_wp2;go_ret;exact⟨rfl,f4.out.trans (HL.out.mono f4.out.size)⟩
theorem agJ:ownKnob Tryz.prog.godebug=none:=by kernel_rfl
theorem aeE:laidOutB Tryz.prog=true:=by kernel_rfl
theorem af1 (os:Os)(i:os.Started)(H:Type)(enc:TypeId×Value->H):
 ReturnsInHanded {} Tryz.checked os 4 .any (Rows.rangesKeepsSpec.pre6 enc Tryz.prog Tryz.f4 Rows.rangesKeepsRow.domain false) (Rows.rangesKeepsSpec.post enc Tryz.prog Tryz.f4 false true false false):=by
 refine returnsInHanded_of_change (C:=Tryz.checked) agJ i Zk Tryz.func4
  (ChangeSpec.witness6 (enc:=enc) (C:=Tryz.checked) false ⟨#[],#[L,.agg #[.int .i64 0,.int .i64 0,.int .i64 0],.int .u8 0],[]⟩ 8 Zk Zk Zk Zk) ?_
 intro W base args ds gs ajZ g hW a4 _;have c:∀(j:Nat) t v,Tryz.f4.params[j]? =some t->args[j]? =some v->Value.okWide Tryz.prog W .any base t v:=g;have d:=hW;obtain⟨p,q,k,hV,rfl,a5,hnd⟩:=hW;have hA:DataW.TrodAll enc Tryz.prog W 0 (fun _=>true) true Tryz.f4.params.toList args.toList ds p:=k;rw[Tryz.params4] at hA c;obtain⟨v0,vs0,d0,b0,p0,q0,a3,rfl,rfl,h0,r0⟩:=trodAll_cons hA;obtain⟨v1,vs1,d1,a7,p1,q1,rfl,rfl,rfl,h1,r1⟩:=trodAll_cons r0;obtain⟨v2,vs2,d2,a6,p2,q2,rfl,rfl,rfl,h2,r2⟩:=trodAll_cons r1;obtain⟨rfl,rfl,rfl⟩:=trodAll_nil r2;obtain rfl:args=#[v0,v1,v2]:=by cases args;simp_all
 obtain⟨rfl,rfl⟩:=trodVars_none hV;obtain⟨x0,a2⟩:=iX (c 0 22 v0 rfl rfl) h0;obtain⟨y,w,u,rfl,a1⟩:=jy (c 1 23 v1 rfl rfl) h1;obtain⟨x2,rfl,a0⟩:=u8_open (c 2 5 v2 rfl rfl) h2;have o:∀x∈p0,x.block<W.heap.size:=fun x hx=>d.lt x (by simp[hx])
 have m:∀x∈p1,x.block<W.heap.size:=fun x hx=>d.lt x (by simp[hx])
 have l:∀x∈p2,x.block<W.heap.size:=fun x hx=>d.lt x (by simp[hx])
 clear k g;simp only[Ua] at d;refine(akd W v0 x0 y w u x2 a2 a1 a0).mono fun e W' ⟨he,hb⟩=>?_
 subst he;exact⟨_,rfl,_,_,_,[],p0++(p1++p2),[],d,trodAll_mk1 (shut_bool Tryz.underlying4 _),trodAll_mk3 (Below.trod aeE Zk (of_decide_eq_true Zk) h0 hb o) (Below.trod aeE Zk (of_decide_eq_true Zk) h1 hb m) (Below.trod aeE Zk (of_decide_eq_true Zk) h2 hb l),rfl,hb.frame _,fun h=>by cases h⟩
theorem rangesKeeps_holds:Rows.RangesKeepsSaid:=
 OpenClaim.holds_of_wide 4 Tryz.f4 rfl rfl rfl rfl rfl rfl rfl ⟨rfl,rfl,rfl,rfl,rfl⟩ rfl rfl rfl rfl rfl Zk Tryz.func4 Zk
  (of_decide_eq_true Zk) (by unfold Func.isWrapper;first|(rw[if_pos (by decide+kernel)];kernel_rfl)|(rw[if_neg (by decide+kernel)];exact⟨rfl,rfl⟩))
  (fun os started H enc _=>af1 os started H enc)
end Go.Proofs.YtoahcpkibpomcaaGreat
