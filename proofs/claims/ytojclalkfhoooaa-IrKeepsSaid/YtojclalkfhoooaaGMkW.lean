/- Part of a proof. -/
import Derived.Test.YtojclalkfhoooaaIOper
set_option linter.all false
set_option maxHeartbeats 4000000
set_option maxRecDepth 100000
namespace Go.Proofs.Ytojclalkfhoooaa
open Go.RowKit Go.Maps Go.ChangeMaps
variable {W w w':World}{g:List (List Nat)}{C c d i k m1 m2:Nat}{x:Int}{xs:List Nat}{t:ITerm}{l:List IBlk}
theorem wA.entry{b n:Nat}{g:Int->Option Int}(h:wA w b n g)(hn:n<9000000000000000000){kx vv:Int}(k:I64 kx)(a6:I64 vv)(a7:g kx=none):
 ∃(st:Nat) (w1 w2:World),(Instr.mapEntry 126 (.map (some b)) (.int .i64 kx)).run Try.prog w=.ok (.tuple #[.int .i64 0,goInt st]) w1/\w.grownBy w1 (some b)/\
  (Instr.entryStore 126 (.map (some b)) (goInt st) (.int .i64 vv)).run Try.prog w1=.ok () w2/\wA w2 b (n+1) (lS g kx vv)/\w.grownBy w2 (some b):=by
 have q:=h.lookOk k;rw[a7] at q
 have a2:∃w',(Instr.mapUpdate 126 (.map (some b)) (.int .i64 kx) (.int .i64 vv)).run Try.prog w=.ok () w'/\wA w' b (n+1) (lS g kx vv)/\w.grownBy w' (some b):=by
  obtain⟨D,h,hf⟩:=h;obtain⟨w',a1,a3,r⟩:=h.update xH Try.underlying126 (by unfold maxLen;omega) (vB k) (plainElem_int Try.underlying3 (wf64' a6));refine⟨w',a1,⟨_,a3,fun y hy=>?_⟩,r⟩;have u:WideAt.IsKeyLit (.int .i64 kx):=xH.key (vB k)
  by_cases e:y=kx
  ·subst e;simp only[lS,if_true];exact⟨Maps.atKey_put_same h.isMap u _ _,Maps.has_put_same h.isMap u _⟩
  ·simp only[lS,if_neg e];rw[Maps.atKey_put_other (by simpa using e),Maps.has_put_other (by simpa using e)];exact hf y hy
 obtain⟨w3,m,hP,r⟩:=a2;obtain⟨D,h,hf⟩:=h;obtain⟨es,d,hb,F,hs,rfl⟩:=h;obtain⟨s1,s2,_⟩:=F.stamped;rcases xH.find w (vB k) es.toList F.keys with⟨h1,h2⟩|⟨j,e0,h1,h2,h3⟩
 ·have a5:(es.push ⟨.int .i64 kx,.int .i64 0,d⟩).findIdx? (fun e=>((e.born:Nat):Int)==((d:Nat):Int))=some es.size:=by
   rw[WideElems.findIdx_arr];refine WideElems.findIdx_born (l:=(es.push ⟨.int .i64 kx,.int .i64 0,d⟩).toList) (j:=es.size) (e0:=⟨.int .i64 kx,.int .i64 0,d⟩) ?_ Zs;simp only[Array.toList_push,Js,Ql,List.map_nil];refine Qq.2 ⟨s2,by simp,fun a ha c hc e1=>?_⟩;simp only[Jo] at hc;obtain⟨x,hx,rfl⟩:=Nu.1 ha;have:=s1 x hx;omega
  have a4:(es.push ⟨.int .i64 kx,.int .i64 0,d⟩).modify es.size (fun e=> {e with val:=.int .i64 vv })=es.push ⟨.int .i64 kx,.int .i64 vv,d⟩:=by
   apply Array.ext';rw[Array.toList_modify,Array.toList_push,Array.toList_push,<-Array.length_toList,WideElems.modify_last]
  have t:=heap_setBlock_same hb (.map (es.push ⟨.int .i64 kx,.int .i64 0,d⟩) (d+1))
  have e3:w3=setBlock w b (.map (es.push ⟨.int .i64 kx,.int .i64 vv,d⟩) (d+1)):=by
   simp[Instr.mapUpdate,run_underlying Try.underlying126,MapKept.run_getObj_map hb,xH.check w false (vB k),h1,MapKept.run_setObj_map _ hb,Result.andThen] at m;exact m.symm
  have a0:∀o,w.grownBy (setBlock w b o) (some b):=fun o=>⟨rfl,rfl,rfl,by simp[setBlock],fun i _ hi=>heap_setBlock_other hb _ (fun e=>hi (by rw[e]))⟩
  refine⟨d,setBlock w b (.map (es.push ⟨.int .i64 kx,.int .i64 0,d⟩) (d+1)),setBlock (setBlock w b (.map (es.push ⟨.int .i64 kx,.int .i64 0,d⟩) (d+1))) b (.map (es.push ⟨.int .i64 kx,.int .i64 vv,d⟩) (d+1)),?_,a0 _,?_,?_,?_⟩
  ·simp[Instr.mapEntry,run_underlying Try.underlying126,MapKept.run_getObj_map hb,xH.check w false (vB k),h1,px,MapKept.run_setObj_map _ hb,Result.andThen,setBlock]
  ·generalize setBlock w b (.map (es.push ⟨.int .i64 kx,.int .i64 0,d⟩) (d+1))=W1 at t ⊢;simp[Instr.entryStore,MapKept.run_getObj_map t,asInt,asIntOf,goInt,a5,a4,MapKept.run_setObj_map _ t,Result.andThen,setBlock]
  ·refine hP.same ?_;rw[heap_setBlock_same t,e3,heap_setBlock_same hb]
  ·have e4:setBlock (setBlock w b (.map (es.push ⟨.int .i64 kx,.int .i64 0,d⟩) (d+1))) b (.map (es.push ⟨.int .i64 kx,.int .i64 vv,d⟩) (d+1))=setBlock w b (.map (es.push ⟨.int .i64 kx,.int .i64 vv,d⟩) (d+1)):=by simp[setBlock]
   rw[e4];exact a0 _
 ·exfalso;simp[Instr.lookup,run_underlying Try.underlying126,MapKept.run_getObj_map hb,xH.check w es.isEmpty (vB k),h1,Result.andThen] at q
open Go.RowKit
theorem qk{n:Nat}{pv:List Value}{a1 q:Value}{d d':wO}(h:ChkAt w C m1 m2 pv a1 q n d)(hn:n<9000000000000000000)(v i k:Int)(hv:I64 v)(hi:I64 i)(hk:I64 k)(g:rB d v i k=some d'):
 G 97 #[I C,O v,O i,O k] w fun e w'=>e=.returned (.bool true)/\ChkAt w' C m1 m2 pv a1 q (n+1) d'/\Kept m1 m2 w w':=by
 obtain⟨hb,hl,o,u,m,hd⟩:=h
 obtain⟨p0,p1,p2,p3,p4,p5,rfl⟩:∃a b c d e f,pv=[a,b,c,d,e,f]:=by
  match pv,hl with
  | [a,b,c,d,e,f],_=>exact⟨a,b,c,d,e,f,rfl⟩
 have a6:=o.lookOk hv;have b5:T w C 7 (.map (some m1)):=zA hb rfl;have b4:T w C 8 (.map (some m2)):=zA hb rfl;have j:¬((d.1 v).isSome∨v<0∨65535<v):=fun hc=>by rw[rB,if_pos hc] at g;cases g
 have a9:d'=(lS d.1 v i,lS d.2 v k):=by rw[rB,if_neg j] at g;cases g;rfl
 have h0:(d.1 v).isSome=false:=by cases l:(d.1 v).isSome with|false=>rfl|true=>exact absurd (.inl l) j
 have r:d.1 v=none:=by cases l:d.1 v with|none=>rfl|some y=>rw[l] at h0;cases h0
 have a3:d.2 v=none:=by cases l:d.2 v with|none=>rfl|some y=>have:=hd v;rw[l,r] at this;cases this
 have h1:decide (v<0)=false:=decide_eq_false Zo;have h2:decide (65535<v)=false:=decide_eq_false Zo;rw[h0] at a6;obtain⟨s1,w1,w2,e1,g1,e2,k1,g2⟩:=(wA.same (w':=w.drew) o rfl).entry hn hv hi r;obtain⟨es,ck,t⟩:=u.blk;have a2:wA w2 m2 n d.2:=(wA.same (w':=w.drew) u rfl).same (g2.block m2 (lt_of_block t) (fun e=>m (by cases e;rfl)));obtain⟨s2,w3,w4,e3,g3,e4,k2,g4⟩:=a2.entry hn hv hk a3;subst a9;clear g j;simp only[goInt] at e1 e2 e3 e4;have H:=Ja (Jb g2 g4);go_enter Try.func97,Try.ntmps97;go_wp2
 go_region
 go_wp2;go_ret;obtain⟨g2,g4⟩:=H.out;obtain⟨b3,b7,a5⟩:=o.blk;have b1:C≠m1:=fun e=>by rw[e,a5] at hb;cases hb
 have b0:C≠m2:=fun e=>by rw[e,t] at hb;cases hb
 have a4:w.heap.size<=w2.heap.size:=g2.size;have a0:∀b,b≠m1->b≠m2->b<w.heap.size->w4.heap[b]? =w.heap[b]?:=fun b x1 x2 hbs=>(g4.block b Zo (fun e=>x2 (by cases e;rfl))).trans (g2.block b hbs (fun e=>x1 (by cases e;rfl)))
 obtain⟨b2,b6,a7⟩:=k1.blk;refine⟨rfl,⟨(a0 C b1 b0 (lt_of_block hb)).trans hb,rfl,k1.same (g4.block m1 (lt_of_block a7) (fun e=>m (by cases e;rfl))),k2,m,fun x=>?_⟩,⟨g4.os.trans g2.os,g4.tape.trans g2.tape,g4.output.trans g2.output,Jn a4 g4.size,fun b hbs x1 x2=>a0 b x1 x2 hbs⟩⟩
 show(lS d.1 v i x).isSome=(lS d.2 v k x).isSome
 unfold lS
 split
 ·rfl
 ·exact hd x
open Go.RowKit Go.Maps
theorem pk:Keyed Try.prog 3:=int_keyed Try.underlying3
theorem wf64(h:-9223372036854775808<=x/\x<=9223372036854775807):(Lit.int .i64 x).wf=true:=by simp[Lit.wf,IntKind.min,IntKind.max,IntKind.signed,IntKind.bits];omega
theorem jp(h:-9223372036854775808<=x/\x<=9223372036854775807):keyOf Try.prog 3 (.int .i64 x)=some (.int .i64 x):=keyOf_int_mk Try.underlying3 (wf64 h)
theorem zeroInt (w:World):(zeroValue 3).run Try.prog w=.ok (O 0) w:=by kernel_rfl
def ud (w:World)(b n:Nat)(f:Int->Int):Prop:=
 ∃D:DataW Unit,w.ownsMap Try.prog 3 (plainElem Try.prog 3) b n D/\∀x,(Lit.int .i64 x).wf=true->D.atKey (.int .i64 x) (.lit (.int .i64 0))=.lit (.int .i64 (f x))
theorem ud.lt{b n:Nat}{f:Int->Int}(h:ud w b n f):b<w.heap.size:=let⟨_,h,_⟩:=h;h.lt
theorem ud.same{b n:Nat}{f:Int->Int}(h:ud w b n f)(hb:w'.heap[b]? =w.heap[b]?):ud w' b n f:=by
 obtain⟨D,⟨es,c,h1,h2⟩,h3⟩:=h;exact⟨D,⟨es,c,hb.trans h1,h2⟩,h3⟩
theorem ud.ne{b n:Nat}{f:Int->Int}(h:ud w b n f){b':Nat}{c:Array Value}{t:TypeId}{z:Nat×Nat}(hb:w.heap[b']? =some (.cells c t z)):b≠b':=by
 obtain⟨D,⟨es,d,h1,h2⟩,h3⟩:=h;rintro rfl;rw[h1] at hb;simp at hb
theorem ud.look{b n:Nat}{f:Int->Int}(h:ud w b n f)(i:-9223372036854775808<=x/\x<=9223372036854775807):
 (Instr.lookup 126 (.map (some b)) (.int .i64 x) false).run Try.prog w=.ok (.int .i64 (f x)) w/\(Lit.int .i64 (f x)).wf=true:=by
 obtain⟨D,h,hf⟩:=h;obtain⟨c,g,d,j⟩:=h.lookup_int pk Try.underlying126 Try.underlying3 (zeroInt w) (jp i);rw[hf x (wf64 i)] at d;simp only[DataW.lit.injEq,Lit.int.injEq,true_and] at d;subst d;exact⟨g,j⟩
theorem rW{ops:Array Oper}{rest:List Oper}{o:Oper}{a:Act}{Q:Exit->Act->World->Prop}(hg:o.guard=none)(m x v:Operand)
 (j:o.op=.mapUpdate 126 m x v) {b n:Nat} {f:Int->Int} (h:ud w b n f) (r:n<9000000000000000000) (kx vv:Int) (hm:a.eval m=.map (some b)) (l:a.eval x=.int .i64 kx) (hv:a.eval v=.int .i64 vv)
 (d:-9223372036854775808<=kx/\kx<=9223372036854775807) (i:-9223372036854775808<=vv/\vv<=9223372036854775807)
 (q:∀w',ud w' b (n+1) (fun y=>if y=kx then vv else f y)->w.grownBy w' (some b)->wpList Try.prog ops Q rest (a.put o.dst undef) w'):wpList Try.prog ops Q (o::rest) a w:=by
 obtain⟨D,h,hf⟩:=h;refine wpList_mapUpdate_own (H:=Unit) w hg m x v 126 j 3 3 pk Try.underlying126 _ b n D hm h (by unfold maxLen;omega) _ _ _ l hv (jp d) _ [] (plainElem_int Try.underlying3 (wf64 i)) ?_;intro w1 g c;refine q w1 ⟨_,g,fun y hy=>?_⟩ c;have k:WideAt.IsKeyLit (.int .i64 kx):=pk.key (jp d)
 by_cases e:y=kx
 ·subst e;simp only[if_true];exact Maps.atKey_put_same h.isMap k _ _
 ·simp only[if_neg e];rw[Maps.atKey_put_other (by simpa using e)];exact hf y hy
def wG (w:World)(xs:List Int)(e:Ending)(w':World):Prop:=∃v,e=.returned v/\zY w' w'.heap.size v xs/\L w w'
theorem yP{B:Nat}{v:Value}(h:Below B w W)(hg:W.grownBy w' v.ownBlock)(hB:B<=W.heap.size)(hv:∀k,v.ownBlock=some k->B<=k):Below B w w':=
 h.trans ⟨hg.os,hg.tape,hg.output,hg.size,fun k hk=>hg.block k Zo (fun e=>by have:=hv k e.symm;omega)⟩
theorem wF{base:Nat}{e:TypeId}{size n:Nat}{v:Value}{xs:List Value}(h:w.ownsRow base e size v n xs):∀k,v.ownBlock=some k->base<=k:=fun k hk=>(h.lt k hk).1
theorem uses_00(o:IOp)(ho:I64 o.code/\I64 o.res/\I64 o.a/\I64 o.b/\o.n<65536){av:Value}{B:Nat}(hB:B<=w.heap.size)(g:zY w B av o.args)(q:o.args.length<=1000000000000)(a1:(zi o.code).a=false)(a0:(zi o.code).b=false):
 G 70 #[.agg #[O o.code,O o.res,O o.a,O o.b,U (o.n:Int),av]] w (wG w ([]++o.args)):=by
 obtain⟨aa,ac,rfl,b1,b0⟩:=g.form;obtain⟨ii,a7,a5,a4,a3⟩:=info_parts Try.info_int
 obtain⟨q1,q2,q3,hf⟩:∃q1 q2 q3,∀W,G 105 #[O o.code] W fun e w'=>e=.returned (.tuple #[.agg #[.bool q1,.bool false,.bool false,.bool q2],.bool q3])/\L W w':=
  ⟨(zi o.code).res,(zi o.code).n,(zi o.code).is,fun W=>by have:=yu o.code W;unfold yX nL at this;rw[a1,a0] at this;exact this⟩
 have HF:=Ja hf;have i:=Ja (show zY w B (.slice aa o.args.length ac) o.args/\B<=w.heap.size/\o.args.length<=1000000000000 from⟨g,hB,q⟩);have HO:=Ja ho
 have m:∀x∈ []++o.args,I64 x:=by
  intro x j;rcases Jl.1 j with j|j
  ·simp at j
  ·exact zY.all g x j
 have b3:=Ja m;have y:=zI (W:=w) (o:=A (D o aa ac) 77) rfl;have a2:L w (w.alloc (A (D o aa ac) 77)):=(Below.refl _ _).alloc (Je _) _;have d:=Ja (Jb y a2);clear hf g hB q ho m y a2 b1 b0 a1 a0;go_enter Try.func70,Try.ntmps70;go_upto_region 2 with(first|(go_at_call 105;go_must (refine(HF.out _).mono ?_;rintro e w1 ⟨rfl,h⟩))|go_in)
 have hb:=(d.out.2.trans (h.mono d.out.2.size)).alloc (by have:=d.out.2.size;have:=h.size;omega) (A #[.bool q1,.bool false,.bool false,.bool q2] 170);have u:=zB (o:=A #[.bool q1,.bool false,.bool false,.bool q2] 170) (zH h d.out.1 (lt_of_block d.out.1));have t:=zI (W:=w1) (o:=A #[.bool q1,.bool false,.bool false,.bool q2] 170) rfl;generalize b2:w1.alloc (A #[.bool q1,.bool false,.bool false,.bool q2] 170)=W1 at *;generalize a9:w1.heap.size=c1 at *;have own0:W1.ownsRow w.heap.size 3 1 (F) 0 []:=Jv W1 _ _ _;have c:=Ja (show L w W1/\Y W1 w.heap.size (D o aa ac) 77/\Y W1 c1 #[.bool q1,.bool false,.bool false,.bool q2] 170/\W1.ownsRow w.heap.size 3 1 (F) 0 [] from⟨hb,u,t,own0⟩);clear b2 a9 h hb u t own0;have x2:=K2 c.out.2.1;have x3:=K3 c.out.2.1;have x5:=K5 c.out.2.1;have f1:=K1 c.out.2.2.1;have f2:=K2 c.out.2.2.1;go_upto_region 5 with fail;clear x2 x3 x5 f1 f2;have x2:=K2 c.out.2.1;have x3:=K3 c.out.2.1;have x5:=K5 c.out.2.1;have f1:=K1 c.out.2.2.1;have f2:=K2 c.out.2.2.1;go_upto_region 7 with fail;clear x2 x3 x5 f1 f2;have x2:=K2 c.out.2.1;have x3:=K3 c.out.2.1;have x5:=K5 c.out.2.1;have f1:=K1 c.out.2.2.1;have f2:=K2 c.out.2.2.1;have k:=zY.src (i.out.1.below zO (c.out.1.mono i.out.2.1));have a6:=Ja k;clear k;go_wp2_with (at_builtin;go_must (refine zK _ rfl (.tmp 26) (.tmp 28) 22 rfl w.heap.size 3 ii (O 0) 1 8 Try.underlying22 a7 a5 a4 a3 rfl Zd (F) 0 (([]:List Int).map zN) rfl c.out.2.2.2 _ o.args.length (o.args.map zN) rfl a6.out (by have:=i.out.2.2;unfold maxLen;omega) (by have:=i.out.2.2;omega) c.out.1.size ?_;intro v9 w9 l r b4))
 go_ret;refine⟨v9,rfl,?_,yP c.out.1 r c.out.1.size (wF c.out.2.2.2)⟩;rw[<-Js] at l;exact uA l (by simp<;>omega) b3.out
theorem uses_01(o:IOp)(ho:I64 o.code/\I64 o.res/\I64 o.a/\I64 o.b/\o.n<65536){av:Value}{B:Nat}(hB:B<=w.heap.size)(j:zY w B av o.args)(a0:o.args.length<=1000000000000)(a9:(zi o.code).a=false)(a7:(zi o.code).b=true):
 G 70 #[.agg #[O o.code,O o.res,O o.a,O o.b,U (o.n:Int),av]] w (wG w ([o.b]++o.args)):=by
 obtain⟨aa,ac,rfl,b6,b5⟩:=j.form;obtain⟨ii,a6,t,r,q⟩:=info_parts Try.info_int
 obtain⟨q1,q2,q3,hf⟩:∃q1 q2 q3,∀W,G 105 #[O o.code] W fun e w'=>e=.returned (.tuple #[.agg #[.bool q1,.bool false,.bool true,.bool q2],.bool q3])/\L W w':=
  ⟨(zi o.code).res,(zi o.code).n,(zi o.code).is,fun W=>by have:=yu o.code W;unfold yX nL at this;rw[a9,a7] at this;exact this⟩
 have HF:=Ja hf;have l:=Ja (show zY w B (.slice aa o.args.length ac) o.args/\B<=w.heap.size/\o.args.length<=1000000000000 from⟨j,hB,a0⟩);have HO:=Ja ho
 have y:∀x∈ [o.b]++o.args,I64 x:=by
  intro x m;rcases Jl.1 m with m|m
  ·simp at m;rw[m];exact ho.2.2.2.1
  ·exact zY.all j x m
 have b8:=Ja y;have a5:=zI (W:=w) (o:=A (D o aa ac) 77) rfl;have b1:L w (w.alloc (A (D o aa ac) 77)):=(Below.refl _ _).alloc (Je _) _;have i:=Ja (Jb a5 b1);clear hf j hB a0 ho y a5 b1 b6 b5 a9 a7;go_enter Try.func70,Try.ntmps70;go_upto_region 2 with(first|(go_at_call 105;go_must (refine(HF.out _).mono ?_;rintro e w1 ⟨rfl,k⟩))|go_in)
 have hb:=(i.out.2.trans (k.mono i.out.2.size)).alloc (by have:=i.out.2.size;have:=k.size;omega) (A #[.bool q1,.bool false,.bool true,.bool q2] 170);have a4:=zB (o:=A #[.bool q1,.bool false,.bool true,.bool q2] 170) (zH k i.out.1 (lt_of_block i.out.1));have a2:=zI (W:=w1) (o:=A #[.bool q1,.bool false,.bool true,.bool q2] 170) rfl;generalize b7:w1.alloc (A #[.bool q1,.bool false,.bool true,.bool q2] 170)=W1 at *;generalize b4:w1.heap.size=c1 at *;have own0:W1.ownsRow w.heap.size 3 1 (F) 0 []:=Jv W1 _ _ _;have c:=Ja (show L w W1/\Y W1 w.heap.size (D o aa ac) 77/\Y W1 c1 #[.bool q1,.bool false,.bool true,.bool q2] 170/\W1.ownsRow w.heap.size 3 1 (F) 0 [] from⟨hb,a4,a2,own0⟩);clear b7 b4 k hb a4 a2 own0;have x2:=K2 c.out.2.1;have x3:=K3 c.out.2.1;have x5:=K5 c.out.2.1;have f1:=K1 c.out.2.2.1;have f2:=K2 c.out.2.2.1;go_upto_region 5 with fail;clear x2 x3 x5 f1 f2;have x2:=K2 c.out.2.1;have x3:=K3 c.out.2.1;have x5:=K5 c.out.2.1;have f1:=K1 c.out.2.2.1;have f2:=K2 c.out.2.2.1;go_upto_region 7 with(at_builtin;go_must (refine zK _ rfl (.tmp 21) (.tmp 24) 22 rfl w.heap.size 3 ii (O 0) 1 8 Try.underlying22 a6 t r q rfl Zd (F) 0 (([]:List Int).map zN) rfl (c.out.2.2.2.alloc _) _ 1 [O o.b] rfl (yM.one (zI Zs) (by simp[Value.oneCell'])) Zd Zd (by have:=c.out.1.size;simp;omega) ?_;intro v2 W2 g d b2))
 have b0:L w W2:=yP (c.out.1.alloc c.out.1.size _) d (by have:=c.out.1.size;simp;omega) (wF c.out.2.2.2);have a3:=zL d (zB c.out.2.1) (zC c.out.2.2.2 c.out.2.1 (.inr Zd));have a1:=zL d (zB c.out.2.2.1) (zC c.out.2.2.2 c.out.2.2.1 (.inr Zd));have h:=Ja (show L w W2/\Y W2 w.heap.size (D o aa ac) 77/\Y W2 c1 #[.bool q1,.bool false,.bool true,.bool q2] 170/\W2.ownsRow w.heap.size 3 1 v2 1 (([o.b]:List Int).map zN) from⟨b0,a3,a1,g⟩);clear x2 x3 x5 f1 f2 b0 a3 a1 g d b2;have x2:=K2 h.out.2.1;have x3:=K3 h.out.2.1;have x5:=K5 h.out.2.1;have f1:=K1 h.out.2.2.1;have f2:=K2 h.out.2.2.1;have u:=zY.src (l.out.1.below zO (h.out.1.mono l.out.2.1));have b3:=Ja u;clear u;go_wp2_with (at_builtin;go_must (refine zK _ rfl (.tmp 26) (.tmp 28) 22 rfl w.heap.size 3 ii (O 0) 1 8 Try.underlying22 a6 t r q rfl Zd v2 1 (([o.b]:List Int).map zN) rfl h.out.2.2.2 _ o.args.length (o.args.map zN) rfl b3.out (by have:=l.out.2.2;unfold maxLen;omega) (by have:=l.out.2.2;omega) h.out.1.size ?_;intro v9 w9 g d b2))
 go_ret;refine⟨v9,rfl,?_,yP h.out.1 d h.out.1.size (wF h.out.2.2.2)⟩;rw[<-Js] at g;exact uA g (by simp<;>omega) b8.out
theorem uses_10(o:IOp)(ho:I64 o.code/\I64 o.res/\I64 o.a/\I64 o.b/\o.n<65536){av:Value}{B:Nat}(hB:B<=w.heap.size)(j:zY w B av o.args)(a0:o.args.length<=1000000000000)(a9:(zi o.code).a=true)(a7:(zi o.code).b=false):
 G 70 #[.agg #[O o.code,O o.res,O o.a,O o.b,U (o.n:Int),av]] w (wG w ([o.a]++o.args)):=by
 obtain⟨aa,ac,rfl,b6,b5⟩:=j.form;obtain⟨ii,a6,t,r,q⟩:=info_parts Try.info_int
 obtain⟨q1,q2,q3,hf⟩:∃q1 q2 q3,∀W,G 105 #[O o.code] W fun e w'=>e=.returned (.tuple #[.agg #[.bool q1,.bool true,.bool false,.bool q2],.bool q3])/\L W w':=
  ⟨(zi o.code).res,(zi o.code).n,(zi o.code).is,fun W=>by have:=yu o.code W;unfold yX nL at this;rw[a9,a7] at this;exact this⟩
 have HF:=Ja hf;have l:=Ja (show zY w B (.slice aa o.args.length ac) o.args/\B<=w.heap.size/\o.args.length<=1000000000000 from⟨j,hB,a0⟩);have HO:=Ja ho
 have y:∀x∈ [o.a]++o.args,I64 x:=by
  intro x m;rcases Jl.1 m with m|m
  ·simp at m;rw[m];exact ho.2.2.1
  ·exact zY.all j x m
 have b8:=Ja y;have a5:=zI (W:=w) (o:=A (D o aa ac) 77) rfl;have b1:L w (w.alloc (A (D o aa ac) 77)):=(Below.refl _ _).alloc (Je _) _;have i:=Ja (Jb a5 b1);clear hf j hB a0 ho y a5 b1 b6 b5 a9 a7;go_enter Try.func70,Try.ntmps70;go_upto_region 2 with(first|(go_at_call 105;go_must (refine(HF.out _).mono ?_;rintro e w1 ⟨rfl,k⟩))|go_in)
 have hb:=(i.out.2.trans (k.mono i.out.2.size)).alloc (by have:=i.out.2.size;have:=k.size;omega) (A #[.bool q1,.bool true,.bool false,.bool q2] 170);have a4:=zB (o:=A #[.bool q1,.bool true,.bool false,.bool q2] 170) (zH k i.out.1 (lt_of_block i.out.1));have a2:=zI (W:=w1) (o:=A #[.bool q1,.bool true,.bool false,.bool q2] 170) rfl;generalize b7:w1.alloc (A #[.bool q1,.bool true,.bool false,.bool q2] 170)=W1 at *;generalize b4:w1.heap.size=c1 at *;have own0:W1.ownsRow w.heap.size 3 1 (F) 0 []:=Jv W1 _ _ _;have c:=Ja (show L w W1/\Y W1 w.heap.size (D o aa ac) 77/\Y W1 c1 #[.bool q1,.bool true,.bool false,.bool q2] 170/\W1.ownsRow w.heap.size 3 1 (F) 0 [] from⟨hb,a4,a2,own0⟩);clear b7 b4 k hb a4 a2 own0;have x2:=K2 c.out.2.1;have x3:=K3 c.out.2.1;have x5:=K5 c.out.2.1;have f1:=K1 c.out.2.2.1;have f2:=K2 c.out.2.2.1;go_upto_region 5 with(at_builtin;go_must (refine zK _ rfl (.tmp 14) (.tmp 17) 22 rfl w.heap.size 3 ii (O 0) 1 8 Try.underlying22 a6 t r q rfl Zd (F) 0 (([]:List Int).map zN) rfl (c.out.2.2.2.alloc _) _ 1 [O o.a] rfl (yM.one (zI Zs) (by simp[Value.oneCell'])) Zd Zd (by have:=c.out.1.size;simp;omega) ?_;intro v2 W2 h d b2))
 have b0:L w W2:=yP (c.out.1.alloc c.out.1.size _) d (by have:=c.out.1.size;simp;omega) (wF c.out.2.2.2);have a3:=zL d (zB c.out.2.1) (zC c.out.2.2.2 c.out.2.1 (.inr Zd));have a1:=zL d (zB c.out.2.2.1) (zC c.out.2.2.2 c.out.2.2.1 (.inr Zd));have g:=Ja (show L w W2/\Y W2 w.heap.size (D o aa ac) 77/\Y W2 c1 #[.bool q1,.bool true,.bool false,.bool q2] 170/\W2.ownsRow w.heap.size 3 1 v2 1 (([o.a]:List Int).map zN) from⟨b0,a3,a1,h⟩);clear x2 x3 x5 f1 f2 b0 a3 a1 h d b2;have x2:=K2 g.out.2.1;have x3:=K3 g.out.2.1;have x5:=K5 g.out.2.1;have f1:=K1 g.out.2.2.1;have f2:=K2 g.out.2.2.1;go_upto_region 7 with fail;clear x2 x3 x5 f1 f2;have x2:=K2 g.out.2.1;have x3:=K3 g.out.2.1;have x5:=K5 g.out.2.1;have f1:=K1 g.out.2.2.1;have f2:=K2 g.out.2.2.1;have u:=zY.src (l.out.1.below zO (g.out.1.mono l.out.2.1));have b3:=Ja u;clear u;go_wp2_with (at_builtin;go_must (refine zK _ rfl (.tmp 26) (.tmp 28) 22 rfl w.heap.size 3 ii (O 0) 1 8 Try.underlying22 a6 t r q rfl Zd v2 1 (([o.a]:List Int).map zN) rfl g.out.2.2.2 _ o.args.length (o.args.map zN) rfl b3.out (by have:=l.out.2.2;unfold maxLen;omega) (by have:=l.out.2.2;omega) g.out.1.size ?_;intro v9 w9 h d b2))
 go_ret;refine⟨v9,rfl,?_,yP g.out.1 d g.out.1.size (wF g.out.2.2.2)⟩;rw[<-Js] at h;exact uA h (by simp<;>omega) b8.out
theorem uses_11(o:IOp)(ho:I64 o.code/\I64 o.res/\I64 o.a/\I64 o.b/\o.n<65536){av:Value}{B:Nat}(hB:B<=w.heap.size)(u:zY w B av o.args)(a4:o.args.length<=1000000000000)(b1:(zi o.code).a=true)(b0:(zi o.code).b=true):
 G 70 #[.agg #[O o.code,O o.res,O o.a,O o.b,U (o.n:Int),av]] w (wG w ([o.a,o.b]++o.args)):=by
 obtain⟨aa,ac,rfl,b6,b5⟩:=u.form;obtain⟨ii,a5,t,r,q⟩:=info_parts Try.info_int
 obtain⟨q1,q2,q3,hf⟩:∃q1 q2 q3,∀W,G 105 #[O o.code] W fun e w'=>e=.returned (.tuple #[.agg #[.bool q1,.bool true,.bool true,.bool q2],.bool q3])/\L W w':=
  ⟨(zi o.code).res,(zi o.code).n,(zi o.code).is,fun W=>by have:=yu o.code W;unfold yX nL at this;rw[b1,b0] at this;exact this⟩
 have HF:=Ja hf;have a1:=Ja (show zY w B (.slice aa o.args.length ac) o.args/\B<=w.heap.size/\o.args.length<=1000000000000 from⟨u,hB,a4⟩);have HO:=Ja ho
 have a3:∀x∈ [o.a,o.b]++o.args,I64 x:=by
  intro x hx;rcases Jl.1 hx with hx|hx
  ·simp at hx;rcases hx with rfl|rfl;exact ho.2.2.1;exact ho.2.2.2.1
  ·exact zY.all u x hx
 have b8:=Ja a3;have a9:=zI (W:=w) (o:=A (D o aa ac) 77) rfl;have b2:L w (w.alloc (A (D o aa ac) 77)):=(Below.refl _ _).alloc (Je _) _;have m:=Ja (Jb a9 b2);clear hf u hB a4 ho a3 a9 b2 b6 b5 b1 b0;go_enter Try.func70,Try.ntmps70;go_upto_region 2 with(first|(go_at_call 105;go_must (refine(HF.out _).mono ?_;rintro e w1 ⟨rfl,y⟩))|go_in)
 have hb:=(m.out.2.trans (y.mono m.out.2.size)).alloc (by have:=m.out.2.size;have:=y.size;omega) (A #[.bool q1,.bool true,.bool true,.bool q2] 170);have a7:=zB (o:=A #[.bool q1,.bool true,.bool true,.bool q2] 170) (zH y m.out.1 (lt_of_block m.out.1));have a6:=zI (W:=w1) (o:=A #[.bool q1,.bool true,.bool true,.bool q2] 170) rfl;generalize b7:w1.alloc (A #[.bool q1,.bool true,.bool true,.bool q2] 170)=W1 at *;generalize b4:w1.heap.size=c1 at *;have own0:W1.ownsRow w.heap.size 3 1 (F) 0 []:=Jv W1 _ _ _;have h:=Ja (show L w W1/\Y W1 w.heap.size (D o aa ac) 77/\Y W1 c1 #[.bool q1,.bool true,.bool true,.bool q2] 170/\W1.ownsRow w.heap.size 3 1 (F) 0 [] from⟨hb,a7,a6,own0⟩);clear b7 b4 y hb a7 a6 own0;have x2:=K2 h.out.2.1;have x3:=K3 h.out.2.1;have x5:=K5 h.out.2.1;have f1:=K1 h.out.2.2.1;have f2:=K2 h.out.2.2.1;go_upto_region 5 with(at_builtin;go_must (refine zK _ rfl (.tmp 14) (.tmp 17) 22 rfl w.heap.size 3 ii (O 0) 1 8 Try.underlying22 a5 t r q rfl Zd (F) 0 (([]:List Int).map zN) rfl (h.out.2.2.2.alloc _) _ 1 [O o.a] rfl (yM.one (zI Zs) (by simp[Value.oneCell'])) Zd Zd (by have:=h.out.1.size;simp;omega) ?_;intro v2 W2 d c a0))
 have l:L w W2:=yP (h.out.1.alloc h.out.1.size _) c (by have:=h.out.1.size;simp;omega) (wF h.out.2.2.2);have k:=zL c (zB h.out.2.1) (zC h.out.2.2.2 h.out.2.1 (.inr Zd));have j:=zL c (zB h.out.2.2.1) (zC h.out.2.2.2 h.out.2.2.1 (.inr Zd));have g:=Ja (show L w W2/\Y W2 w.heap.size (D o aa ac) 77/\Y W2 c1 #[.bool q1,.bool true,.bool true,.bool q2] 170/\W2.ownsRow w.heap.size 3 1 v2 1 (([o.a]:List Int).map zN) from⟨l,k,j,d⟩);clear x2 x3 x5 f1 f2 l k j d c a0;have x2:=K2 g.out.2.1;have x3:=K3 g.out.2.1;have x5:=K5 g.out.2.1;have f1:=K1 g.out.2.2.1;have f2:=K2 g.out.2.2.1;go_upto_region 7 with(at_builtin;go_must (refine zK _ rfl (.tmp 21) (.tmp 24) 22 rfl w.heap.size 3 ii (O 0) 1 8 Try.underlying22 a5 t r q rfl Zd v2 1 (([o.a]:List Int).map zN) rfl (g.out.2.2.2.alloc _) _ 1 [O o.b] rfl (yM.one (zI Zs) (by simp[Value.oneCell'])) Zd Zd (by have:=g.out.1.size;simp;omega) ?_;intro v3 W3 d c a0))
 have l:L w W3:=yP (g.out.1.alloc g.out.1.size _) c (by have:=g.out.1.size;simp;omega) (wF g.out.2.2.2);have k:=zL c (zB g.out.2.1) (zC g.out.2.2.2 g.out.2.1 (.inr Zd));have j:=zL c (zB g.out.2.2.1) (zC g.out.2.2.2 g.out.2.2.1 (.inr Zd));have i:=Ja (show L w W3/\Y W3 w.heap.size (D o aa ac) 77/\Y W3 c1 #[.bool q1,.bool true,.bool true,.bool q2] 170/\W3.ownsRow w.heap.size 3 1 v3 2 (([o.a,o.b]:List Int).map zN) from⟨l,k,j,d⟩);clear x2 x3 x5 f1 f2 l k j d c a0;have x2:=K2 i.out.2.1;have x3:=K3 i.out.2.1;have x5:=K5 i.out.2.1;have f1:=K1 i.out.2.2.1;have f2:=K2 i.out.2.2.1;have a2:=zY.src (a1.out.1.below zO (i.out.1.mono a1.out.2.1));have b3:=Ja a2;clear a2;go_wp2_with (at_builtin;go_must (refine zK _ rfl (.tmp 26) (.tmp 28) 22 rfl w.heap.size 3 ii (O 0) 1 8 Try.underlying22 a5 t r q rfl Zd v3 2 (([o.a,o.b]:List Int).map zN) rfl i.out.2.2.2 _ o.args.length (o.args.map zN) rfl b3.out (by have:=a1.out.2.2;unfold maxLen;omega) (by have:=a1.out.2.2;omega) i.out.1.size ?_;intro v9 w9 d c a0))
 go_ret;refine⟨v9,rfl,?_,yP i.out.1 c i.out.1.size (wF i.out.2.2.2)⟩;rw[<-Js] at d;exact uA d (by simp<;>omega) b8.out
theorem uses_any(o:IOp)(ho:I64 o.code/\I64 o.res/\I64 o.a/\I64 o.b/\o.n<65536){av:Value}{B:Nat}(hB:B<=w.heap.size)(d:zY w B av o.args)(c:o.args.length<=1000000000000):
 G 70 #[.agg #[O o.code,O o.res,O o.a,O o.b,U (o.n:Int),av]] w (wG w (rR o)):=by
 unfold rR;cases h:(zi o.code).a<;>cases g:(zi o.code).b
 ·exact uses_00 o ho hB d c h g
 ·exact uses_01 o ho hB d c h g
 ·exact uses_10 o ho hB d c h g
 ·exact uses_11 o ho hB d c h g
def xT (t:ITerm)(k:Nat):List Int:=((t.to.take k).map (·.args)).flatten
theorem u7{e:IEdge}(h:t.to[k]? =some e):xT t (k+1)=xT t k++e.args:=by
 unfold xT;rw[Nh,h,Js,List.flatten_append];simp
theorem tP(h:∀e∈t.to,e.args.length<=2000000):∀k,k<=t.to.length->(xT t k).length<=k*2000000
 |0,_=>Jt _
 |k+1,hk=>by
  obtain⟨e,he⟩:∃e,t.to[k]? =some e:=⟨_,Jd Zo⟩
  rw[u7 he,Jk];have:=tP h k Zo;have:=h e (Ji he);omega
theorem si (t:ITerm):xT t t.to.length=(t.to.map (·.args)).flatten:=by unfold xT;rw[Nl]
theorem my:∀b2 b3 b4 b5:Bool,(b2||(b3||b4 && b5))=true->(b2=true)∨(b2=false/\b3=true)∨(b2=false/\b3=false/\b4=true/\b5=true)
 |true,_,_,_,_=> .inl rfl
 |false,true,_,_,_=> .inr (.inl ⟨rfl,rfl⟩)
 |false,false,true,true,_=> .inr (.inr ⟨rfl,rfl,rfl,rfl⟩)
theorem lB:∀b2 b3 b4 b5:Bool,(b2||(b3||b4 && b5))=false->(b2=false/\b3=false/\b4=false)∨(b2=false/\b3=false/\b4=true/\b5=false)
 |false,false,false,_,_=> .inl ⟨rfl,rfl,rfl⟩
 |false,false,true,false,_=> .inr ⟨rfl,rfl,rfl,rfl⟩
structure EndsMem (w wx:World) (xs:List Int) (v:Value):Prop where
 below:Below w.heap.size w wx
 own:wx.ownsRow w.heap.size 3 1 v xs.length (xs.map zN)
theorem ends_1(t:ITerm)(ht:I64 t.kind/\I64 t.a){tv:Value}{B:Nat}(hB:B<=w.heap.size)(a0:wH w B tv t.to)(b0:t.to.length<=2000000/\∀e∈t.to,e.args.length<=2000000)(hh:ut t=true):
 G 71 #[.agg #[O t.kind,O t.a,tv]] w (wG w ([t.a]++(t.to.map (·.args)).flatten)):=by
 obtain⟨ta,tc,rfl,d5,d4⟩:=a0.form;obtain⟨ii,b9,a5,a4,a3⟩:=info_parts Try.info_int;have e5:t.to.length<=9223372036854775807:=Zo
 have h64:∀x∈ [t.a]++(t.to.map (·.args)).flatten,I64 x:=by
  intro x hx;rcases Jl.1 hx with hx|hx
  ·simp at hx;rw[hx];exact ht.2
  ·obtain⟨l,hl,d3⟩:=List.mem_flatten.1 hx;obtain⟨e,he,rfl⟩:=Nu.1 hl;obtain⟨k,hk⟩:=Ny he;obtain⟨b,o,_,_,_,_,av,_,r⟩:=a0.get hk;exact zY.all r x d3
 have d0:=Ja h64;unfold ut at hh;obtain⟨tk,b8⟩:∃x,t.kind=x:=⟨_,rfl⟩
 obtain⟨tA,a7⟩:∃x,t.a=x:=⟨_,rfl⟩
 rw[b8,a7] at hh ht ⊢
 try rw[a7] at d0
 obtain⟨b2,g2⟩:∃q,decide (tk=2)=q:=⟨_,rfl⟩
 obtain⟨b3,g3⟩:∃q,decide (tk=3)=q:=⟨_,rfl⟩
 obtain⟨b4,g4⟩:∃q,decide (tk=4)=q:=⟨_,rfl⟩
 obtain⟨b5,g5⟩:∃q,decide (tA≠-1)=q:=⟨_,rfl⟩
 rw[g2,g3,g4,g5] at hh;have t2:(tk==2)=b2:=vg g2;have t3:(tk==3)=b3:=vg g3;have t4:(tk==4)=b4:=vg g4;have t5:(tA !=-1)=b5:=by rw[<-g5,bne];by_cases h:tA=-1<;>simp[h]
 have g:=Ja (show wH w B (.slice ta t.to.length tc) t.to/\B<=w.heap.size/\t.to.length<=2000000/\∀e∈t.to,e.args.length<=2000000 from⟨a0,hB,b0⟩);have HT:=Ja ht;have j:=zI (W:=w) (o:=A #[O tk,O tA,.slice ta t.to.length tc] 47) rfl;have c7:L w (w.alloc (A #[O tk,O tA,.slice ta t.to.length tc] 47)):=(Below.refl _ _).alloc (Je _) _;clear a0 hB b0 ht d5 d4 g2 g3 g4 g5 b8 a7 h64;have d6:=my b2 b3 b4 b5 hh;clear hh;rcases d6 with rfl|⟨rfl,rfl⟩|⟨rfl,rfl,rfl,rfl⟩
 all_goals (
  go_enter Try.func71,Try.ntmps71;go_upto_region 2 with fail;generalize e3:w.alloc (A #[O tk,O tA,.slice ta t.to.length tc] 47)=W0 at *;have y0:=K0 j;have y1:=K1 j;have y2:=K2 j;have H0:=Ja (show L w W0/\Y W0 w.heap.size #[O tk,O tA,.slice ta t.to.length tc] 47 from⟨c7,j⟩);clear e3 j c7;have own0:W0.ownsRow w.heap.size 3 1 (F) 0 []:=Jv W0 _ _ _;have i:=Ja own0;clear own0;go_upto_region 4 with(at_builtin;go_must (refine zK _ rfl (.tmp 24) (.tmp 27) 22 rfl w.heap.size 3 ii (O 0) 1 8 Try.underlying22 b9 a5 a4 a3 rfl Zd (F) 0 [] rfl (i.out.alloc _) _ 1 [O tA] rfl (yM.one (zI Zs) (by simp[Value.oneCell'])) Zd Zd (by have:=H0.out.1.size;simp;omega) ?_;intro v0 W1 c d b6))
  have c4:L w W1:=yP (H0.out.1.alloc H0.out.1.size _) d (by have:=H0.out.1.size;simp;omega) (wF i.out);have a6:=zL d (zB H0.out.2) (zC i.out H0.out.2 (.inr Zd));have z2:=K2 a6;have HS:=Ja (show EndsMem w W1 ([tA]++xT t 0) v0 from⟨c4,c⟩);have e6:=Ja a6;clear c4 a6 c d b6 y0 y1 y2;go_wp2
  go_loopw [3,32] (fun lv kv wx=>∃k:Nat,k<=t.to.length/\kv=O k/\Hid (EndsMem w wx ([tA]++xT t k) lv)) (fun _ kv _=>t.to.length-(intOf kv).toNat)
  case atStart=>exact⟨0,Jt _,rfl,HS⟩
  case round=>
   obtain⟨k,hk,rfl,HK⟩:=hrel
   by_cases a2:k<t.to.length
   ·have d1:(k:Int)<t.to.length:=Zo;have c9:=Ja a2;obtain⟨e,he⟩:∃e,t.to[k]? =some e:=⟨_,Jd a2⟩
    obtain⟨eb,eo,rfl,c0,c3,d2,av,c2,r⟩:=g.out.1.get he;obtain⟨aa,ac,rfl,d8,d7⟩:=r.form;have b1:=HK.out.below.mono g.out.2.1;have e0:=zV b1 c0 c3;have e1:=zV b1 c0 c2;have HE:=Ja (show t.to[k]? =some e/\zY w B (.slice aa e.args.length ac) e.args from⟨he,r⟩);clear he c3 c2 d2 r d8 d7 b1 a2 z2;have b7:=zI (W:=wr) (o:=A #[O e.block,.slice aa e.args.length ac] 75) rfl;have y:=HK.out.below.alloc HK.out.below.size (A #[O e.block,.slice aa e.args.length ac] 75);have a1:=HK.out.own.alloc (A #[O e.block,.slice aa e.args.length ac] 75);have a9:=zY.src (HE.out.2.below zO (y.mono g.out.2.1));go_upto_region 7 with fail;generalize e2:wr.alloc (A #[O e.block,.slice aa e.args.length ac] 75)=W2 at *;generalize wr.heap.size=b5 at *;have z51:=K1 b7
    have m:([tA]++xT t k).length+e.args.length<=6000000000000:=by
     have h1:=tP g.out.2.2.2 k hk;have h2:=g.out.2.2.1;have h3:=g.out.2.2.2 e (Ji HE.out.1);rw[Jk];simp only[Nq,Ow];omega
    have u:=Ja (show _/\_ from⟨m,y⟩);have c8:=Ja a1;have e4:=Ja a9;clear m a1 a9 y b7 e2 e0 e1;go_wp2_with (at_builtin;go_must (refine zK _ rfl (.tmp 36) (.tmp 38) 22 rfl w.heap.size 3 ii (O 0) 1 8 Try.underlying22 b9 a5 a4 a3 rfl Zd _ ([tA]++xT t k).length (([tA]++xT t k).map zN) rfl c8.out _ e.args.length (e.args.map zN) rfl e4.out (by have:=u.out.1;unfold maxLen;omega) (by have:=u.out.1;omega) u.out.2.size ?_;intro v9 w9 c d b6))
    have c5:=yP u.out.2 d u.out.2.size (wF c8.out);have HN:=Ja (Jb c5 c);clear c d b6 c5;go_roundw
    case rel=>
     refine⟨k+1,c9.out,by go_num,Ja ⟨HN.out.1,?_⟩⟩;rw[u7 HE.out.1,<-Nv,Jk (bs:=e.args),Js (l₂:=e.args)];exact HN.out.2
    case measure=>have:=c9.out;simp[intOf];omega
   ·obtain rfl:k=t.to.length:=by omega
    have d1:¬(t.to.length:Int)<t.to.length:=Zo;clear a2 z2;go_wp2;go_ret;have c:=HK.out.own;rw[si] at c
    exact⟨_,rfl,uA c rfl d0.out,HK.out.below⟩)
theorem ends_0(t:ITerm)(ht:I64 t.kind/\I64 t.a){tv:Value}{B:Nat}(hB:B<=w.heap.size)(u:wH w B tv t.to)(a4:t.to.length<=2000000/\∀e∈t.to,e.args.length<=2000000)(hh:ut t=false):
 G 71 #[.agg #[O t.kind,O t.a,tv]] w (wG w (([]:List Int)++(t.to.map (·.args)).flatten)):=by
 obtain⟨ta,tc,rfl,d0,c9⟩:=u.form;obtain⟨ii,d1,c4,c3,c2⟩:=info_parts Try.info_int;have e2:t.to.length<=9223372036854775807:=Zo
 have h64:∀x∈([]:List Int)++(t.to.map (·.args)).flatten,I64 x:=by
  intro x hx;rcases Jl.1 hx with hx|hx
  ·simp at hx
  ·obtain⟨l,hl,c8⟩:=List.mem_flatten.1 hx;obtain⟨e,he,rfl⟩:=Nu.1 hl;obtain⟨k,hk⟩:=Ny he;obtain⟨b,o,_,_,_,_,av,_,j⟩:=u.get hk;exact zY.all j x c8
 have c0:=Ja h64;unfold ut at hh;obtain⟨tk,a7⟩:∃x,t.kind=x:=⟨_,rfl⟩
 obtain⟨tA,a2⟩:∃x,t.a=x:=⟨_,rfl⟩
 rw[a7,a2] at hh ht ⊢
 try rw[a2] at c0
 obtain⟨b2,g2⟩:∃q,decide (tk=2)=q:=⟨_,rfl⟩
 obtain⟨b3,g3⟩:∃q,decide (tk=3)=q:=⟨_,rfl⟩
 obtain⟨b4,g4⟩:∃q,decide (tk=4)=q:=⟨_,rfl⟩
 obtain⟨b5,g5⟩:∃q,decide (tA≠-1)=q:=⟨_,rfl⟩
 rw[g2,g3,g4,g5] at hh;have t2:(tk==2)=b2:=vg g2;have t3:(tk==3)=b3:=vg g3;have t4:(tk==4)=b4:=vg g4;have t5:(tA !=-1)=b5:=by rw[<-g5,bne];by_cases h:tA=-1<;>simp[h]
 have d:=Ja (show wH w B (.slice ta t.to.length tc) t.to/\B<=w.heap.size/\t.to.length<=2000000/\∀e∈t.to,e.args.length<=2000000 from⟨u,hB,a4⟩);have HT:=Ja ht;have g:=zI (W:=w) (o:=A #[O tk,O tA,.slice ta t.to.length tc] 47) rfl;have b7:L w (w.alloc (A #[O tk,O tA,.slice ta t.to.length tc] 47)):=(Below.refl _ _).alloc (Je _) _;clear u hB a4 ht d0 c9 g2 g3 g4 g5 a7 a2 h64;have d2:=lB b2 b3 b4 b5 hh;clear hh;rcases d2 with⟨rfl,rfl,rfl⟩|⟨rfl,rfl,rfl,rfl⟩
 all_goals (
  go_enter Try.func71,Try.ntmps71;go_upto_region 2 with fail;generalize d7:w.alloc (A #[O tk,O tA,.slice ta t.to.length tc] 47)=W0 at *;have y0:=K0 g;have y1:=K1 g;have y2:=K2 g;have H0:=Ja (show L w W0/\Y W0 w.heap.size #[O tk,O tA,.slice ta t.to.length tc] 47 from⟨b7,g⟩);clear d7 g b7;go_upto_region 4 with fail;have z2:=y2;have HS:=Ja (show EndsMem w W0 (([]:List Int)++xT t 0) (F) from⟨H0.out.1,Jv W0 _ _ _⟩);have e3:=Ja H0.out.2;generalize W0=W1 at *;clear y0 y1 y2;go_wp2
  go_loopw [3,32] (fun lv kv wx=>∃k:Nat,k<=t.to.length/\kv=O k/\Hid (EndsMem w wx (([]:List Int)++xT t k) lv)) (fun _ kv _=>t.to.length-(intOf kv).toNat)
  case atStart=>exact⟨0,Jt _,rfl,HS⟩
  case round=>
   obtain⟨k,hk,rfl,HK⟩:=hrel
   by_cases a0:k<t.to.length
   ·have c5:(k:Int)<t.to.length:=Zo;have b9:=Ja a0;obtain⟨e,he⟩:∃e,t.to[k]? =some e:=⟨_,Jd a0⟩
    obtain⟨eb,eo,rfl,a9,b1,c7,av,b0,j⟩:=d.out.1.get he;obtain⟨aa,ac,rfl,d5,d4⟩:=j.form;have a5:=HK.out.below.mono d.out.2.1;have e0:=zV a5 a9 b1;have e1:=zV a5 a9 b0;have HE:=Ja (show t.to[k]? =some e/\zY w B (.slice aa e.args.length ac) e.args from⟨he,j⟩);clear he b1 b0 c7 j d5 d4 a5 a0 z2;have a6:=zI (W:=wr) (o:=A #[O e.block,.slice aa e.args.length ac] 75) rfl;have r:=HK.out.below.alloc HK.out.below.size (A #[O e.block,.slice aa e.args.length ac] 75);have y:=HK.out.own.alloc (A #[O e.block,.slice aa e.args.length ac] 75);have a3:=zY.src (HE.out.2.below zO (r.mono d.out.2.1));go_upto_region 7 with fail;generalize d6:wr.alloc (A #[O e.block,.slice aa e.args.length ac] 75)=W2 at *;generalize wr.heap.size=b5 at *;have z51:=K1 a6
    have i:(([]:List Int)++xT t k).length+e.args.length<=6000000000000:=by
     have h1:=tP d.out.2.2.2 k hk;have h2:=d.out.2.2.1;have h3:=d.out.2.2.2 e (Ji HE.out.1);rw[Jk];simp only[Nq,Ow];omega
    have m:=Ja (show _/\_ from⟨i,r⟩);have b8:=Ja y;have d8:=Ja a3;clear i y a3 r a6 d6 e0 e1;go_wp2_with (at_builtin;go_must (refine zK _ rfl (.tmp 36) (.tmp 38) 22 rfl w.heap.size 3 ii (O 0) 1 8 Try.underlying22 d1 c4 c3 c2 rfl Zd _ (([]:List Int)++xT t k).length ((([]:List Int)++xT t k).map zN) rfl b8.out _ e.args.length (e.args.map zN) rfl d8.out (by have:=m.out.1;unfold maxLen;omega) (by have:=m.out.1;omega) m.out.2.size ?_;intro v9 w9 c a1 d3))
    have b6:=yP m.out.2 a1 m.out.2.size (wF b8.out);have HN:=Ja (Jb b6 c);clear c a1 d3 b6;go_roundw
    case rel=>
     refine⟨k+1,b9.out,by go_num,Ja ⟨HN.out.1,?_⟩⟩;rw[u7 HE.out.1,<-Nv,Jk (bs:=e.args),Js (l₂:=e.args)];exact HN.out.2
    case measure=>have:=b9.out;simp[intOf];omega
   ·obtain rfl:k=t.to.length:=by omega
    have c5:¬(t.to.length:Int)<t.to.length:=Zo;clear a0 z2;go_wp2;go_ret;have c:=HK.out.own;rw[si] at c
    exact⟨_,rfl,uA c rfl c0.out,HK.out.below⟩)
theorem ends_any(t:ITerm)(g:I64 t.kind/\I64 t.a){tv:Value}{B:Nat}(hB:B<=w.heap.size)(d:wH w B tv t.to)(c:t.to.length<=2000000/\∀e∈t.to,e.args.length<=2000000):
 G 71 #[.agg #[O t.kind,O t.a,tv]] w (wG w (mE t)):=by
 unfold mE;cases h:ut t
 ·exact ends_0 t g hB d c h
 ·exact ends_1 t g hB d c h
theorem jV(hv:zw g)(hr:∀x,x<g.length->Reach (GE g) x)(j:c<g.length):
 (pP g c=-1/\∀d,d≠c->wE g d c=false)∨∃c':Nat,pP g c=(c':Int)/\c'<g.length/\(∀d,d≠c->wE g d c'=wE g d c)/\wh (vD g) c'<wh (vD g) c:=by
 rcases idomOf hv c with⟨h1,h2⟩|⟨c',h1,h2,h3,m⟩
 ·exact .inl ⟨h1,fun d hd=>by cases h:wE g d c with|false=>rfl|true=>exact(h2 d hd h).elim⟩
 ·have hb:=(yO hv c' c).1 h3;refine .inr ⟨c',h1,(cA hv h3).1,fun d hd=>?_,?_⟩
  ·rw[Bool.eq_iff_iff];constructor
   ·intro h;have k:=(yO hv d c').1 h;exact(yO hv d c).2 ⟨k.1,hr c j,oZ k.2.2 hb.2.2⟩
   ·intro h;exact(yO hv d c').2 ⟨((yO hv d c).1 h).1,hb.1,m d hd h⟩
  ·obtain⟨ns,i⟩:=adR hv;obtain⟨D,l⟩:=i.dom;rw[i.eq];have hm:=l.dom_mem ((i.mem c).2 (hr c j)) hb.2.2;rcases Nat.lt_or_eq_of_le hm.2 with h|h
   ·exact h
   ·exact absurd (ou i.nodup hm.1 ((i.mem c).2 (hr c j)) h) h2
theorem lC(hv:zw g)(hr:∀x,x<g.length->Reach (GE g) x)(d:c<g.length):wE g c c=true:=(yO hv c c).2 ⟨hr c d,hr c d,rF _ _⟩
def nS (g:List (List Nat))(db i:Nat)(x:Int):Prop:=(x=-1/\wE g db i=false)∨∃c:Nat,x=(c:Int)/\c<g.length/\wE g db c=wE g db i
def oQ (g:List (List Nat))(x:Int):Nat:=if x=-1 then 0 else wh (vD g) x.toNat+1
theorem lT(hv:zw g)(hr:∀x,x<g.length->Reach (GE g) x){db:Nat}(j:c<g.length)(h:wE g db c=wE g db i)(d:c≠db):
 ∃y,(wQ g)[c]? =some y/\nS g db i y/\oQ g y<oQ g c:=by
 refine⟨pP g c,by unfold wQ;rw[Jr,Oh j];rfl,?_⟩;rcases jV hv hr j with⟨h1,h2⟩|⟨c',h1,h2,h3,k⟩
 ·rw[h1];refine⟨.inl ⟨rfl,by rw[<-h];exact h2 db (Ne.symm d)⟩,?_⟩;unfold oQ;rw[if_pos rfl,if_neg Zo];omega
 ·rw[h1];refine⟨.inr ⟨c',rfl,h2,by rw[h3 db (Ne.symm d)];exact h⟩,?_⟩;unfold oQ;rw[if_neg Zo,if_neg Zo,Ni,Ni];omega
theorem j8 (g:List (List Nat)):(wQ g).length=g.length:=by simp[wQ]
theorem case_dfd:∀q1 q2:Bool,(q1=true/\q2=true)∨(q1=true/\q2=false)∨(q1=false)
 |true,true=> .inl ⟨rfl,rfl⟩
 |true,false=> .inr (.inl ⟨rfl,rfl⟩)
 |false,_=> .inr (.inr rfl)
theorem qI{n:Nat}{pv:List Value}{e2 b6:Value}{d:wO}(hc:ChkAt w C m1 m2 pv e2 b6 n d)(hv:zw g)(hr:∀x,x<g.length->Reach (GE g) x)(e6:g.length<=2000000)
 (a4:zY w w.heap.size b6 (wQ g)) (hd:∀v b,d.1 v=some b->0<=b/\b.toNat<g.length) {l:List Int} {lv:Value} (hl:zY w w.heap.size lv l) (i:Nat) (hi:i<g.length) (k:Int) (hk:I64 k):
 G 69 #[I C,lv,O i,O k] w (ym w (l.all (yy d g i k))):=by
 obtain⟨la,lc,rfl,d4,d3⟩:=hl.form;obtain⟨da,dc,rfl,c4,d5⟩:=a4.form;rw[j8] at a4 c4 hc;have e5:l.length<=9223372036854775807:=Zo;obtain⟨hb,d1,c3,c2,d2,b1⟩:=hc
 obtain⟨p0,p1,p2,p3,p4,p5,rfl⟩:∃a b c d e f,pv=[a,b,c,d,e,f]:=by
  match pv,d1 with
  | [a,b,c,d,e,f],_=>exact⟨a,b,c,d,e,f,rfl⟩
 have e8:T w C 7 (.map (some m1)):=zA hb rfl;have e7:T w C 8 (.map (some m2)):=zA hb rfl;have e9:T w C 9 (.slice da g.length dc):=zA hb rfl;have t:=Ja (show wA w m1 n d.1/\wA w m2 n d.2/\(∀x,(d.1 x).isSome=(d.2 x).isSome)/\zw g/\(∀x,x<g.length->Reach (GE g) x)/\(∀v b,d.1 v=some b->0<=b/\b.toNat<g.length)/\i<g.length from⟨c3,c2,b1,hv,hr,hd,hi⟩);have HL:=Ja (show zY w w.heap.size (.slice la l.length lc) l/\zY w w.heap.size (.slice da g.length dc) (wQ g) from⟨hl,a4⟩);obtain⟨res,a0⟩:∃x,l.all (yy d g i k)=x:=⟨_,rfl⟩
 rw[a0];have r:=Ja a0;clear a0 hb c3 c2 d2 b1 hv hr hd hi hl a4 d4 d3 c4 d5;go_enter Try.func69,Try.ntmps69;generalize e1:w=W0 at *;clear e1;go_wp2
 go_loopw [16] (fun jv wx=>∃j:Nat,j<=l.length/\jv=O j/\wx=W0/\Hid ((l.take j).all (yy d g i k)=true)) (fun jv _=>l.length-(intOf jv).toNat)
 case atStart=>exact⟨0,Jt _,rfl,rfl,by rfl⟩
 case round=>
  obtain⟨j,hj,rfl,rfl,HJ⟩:=hrel;generalize e0:wr=W0 at *;clear e0
  by_cases a3:j<l.length
  ·have c7:(j:Int)<l.length:=Zo;have c5:=Ja a3;obtain⟨v,a2⟩:∃v,l[j]? =some v:=⟨_,Jd a3⟩
   obtain⟨b,o,rfl,hb,b5,a6⟩:=HL.out.1.get a2;rw[Nk] at b5;have a7:=t.out.1.lookOk a6;have a9:=t.out.2.1.look a6;have HT:=Ja (show(l.take (j+1)).all (yy d g i k)=((l.take j).all (yy d g i k) && yy d g i k v)/\(yy d g i k v=false->l.all (yy d g i k)=false) from⟨xX _ a2,fun h=>aaN _ a2 h⟩);clear a2 hb a3
   cases h1:d.1 v with
   |none=>
    rw[h1] at a7;have HN:=Ja (show yy d g i k v=false by unfold yy;rw[h1]);clear h1 a9;go_wp2;go_ret
    exact⟨uz (r.out.symm.trans (HT.out.2 HN.out)),Below.refl _ _⟩
   |some bz=>
    obtain⟨az,h2⟩:∃a,d.2 v=some a:=by
     have:=t.out.2.2.1 v;rw[h1] at this
     cases h:d.2 v with
     |none=>rw[h] at this;cases this
     |some a=>exact⟨a,rfl⟩
    obtain⟨d8,b4⟩:=t.out.2.2.2.2.2.1 v bz h1;obtain⟨db,rfl⟩:∃m:Nat,bz=(m:Int):=⟨bz.toNat,by omega⟩
    rw[Ni] at b4;rw[h1] at a7;rw[h2] at a9;simp only[Ot,Option.isSome_some] at a7 a9;have b0:yy d g i k v=(!(decide ((db:Int)=(i:Int)) && decide (k<=az)) && wE g db i):=by unfold yy;rw[h1,h2];rfl
    obtain⟨q1,u⟩:∃q,decide ((db:Int)=(i:Int))=q:=⟨_,rfl⟩
    obtain⟨q2,d0⟩:∃q,decide (k<=az)=q:=⟨_,rfl⟩
    rw[u,d0] at b0;have t1:(db==i)=q1:=by rw[<-u];simp only[Bool.beq_eq_decide_eq,Int.natCast_inj]
    have c9:((db:Int)==(i:Int))=q1:=vg u;have c8:decide (db=i)=q1:=zZ u Zo;have HK:=Ja (show yy d g i k v=(!(q1 && q2) && wE g db i)/\db<g.length from⟨b0,b4⟩);clear h1 h2 b0 d8 b4 u;rcases case_dfd q1 q2 with⟨rfl,rfl⟩|⟨rfl,rfl⟩|rfl
    ·have HN:=Ja (show yy d g i k v=false from HK.out.1);go_wp2;go_ret;exact⟨uz (r.out.symm.trans (HT.out.2 HN.out)),Below.refl _ _⟩
    all_goals (
     have HN:=Ja (show yy d g i k v=wE g db i from by rw[HK.out.1];rfl);have e3:=Ja (show nS g db i (i:Int) from .inr ⟨i,rfl,t.out.2.2.2.2.2.2,rfl⟩);go_wp2
     go_loopw [13] (fun xv wx=>∃x:Int,xv=O x/\W0=wx/\Hid (nS g db i x)) (fun xv _=>oQ g (intOf xv))
     case atStart=>exact⟨_,rfl,rfl,e3⟩
     case round=>
      obtain⟨x,rfl,rfl,HX⟩:=hrel;rcases HX.out with⟨rfl,c0⟩|⟨c,rfl,b2,a5⟩
      ·have u1:((-1:Int) !=(db:Int))=true:=by rw[bne_iff_ne];omega
       have HF:=Ja (HN.out.trans c0);clear c0;go_wp2;go_ret;exact⟨uz (r.out.symm.trans (HT.out.2 HF.out)),Below.refl _ _⟩
      ·by_cases b3:c=db
       ·subst b3;have HY:=Ja (show yy d g i k v=true by rw[HN.out,<-a5];exact lC t.out.2.2.2.1 t.out.2.2.2.2.1 b2);have u1:((c:Int) !=(c:Int))=false:=by rw[bne_eq_false_iff_eq]
        clear a5 b2 t1 c9 c8;go_wp2;go_roundw
        case rel=>exact⟨j+1,c5.out,by go_num,by trivial,Ja (by rw[HT.out.1,HJ.out,HY.out];rfl)⟩
        case measure=>have:=c5.out;simp[intOf];omega
       ·have u1:((c:Int) !=(db:Int))=true:=by rw[bne_iff_ne];omega
        have u2:((c:Int) !=-1)=true:=by rw[bne_iff_ne];omega
        obtain⟨y,hy,b8,b7⟩:=lT t.out.2.2.2.1 t.out.2.2.2.2.1 b2 a5 b3;obtain⟨b9,o9,rfl,d7,d6,_⟩:=HL.out.2.get hy;rw[Nk] at d6;have HY:=Ja (Jb b8 b7);have e4:(c:Int)<g.length:=Zo;clear a5 b3 hy b8 b7 d7;go_wp2;go_roundw
        case rel=>exact⟨y,rfl,by trivial,Ja HY.out.1⟩
        case measure=>have:=HY.out.2;simpa[intOf] using this)
  ·obtain rfl:j=l.length:=by omega
   have c7:¬(l.length:Int)<l.length:=Zo;have a1:=HJ.out;rw[Nl] at a1;have HA:=Ja a1;clear a3 a1;go_wp2;go_ret;exact⟨uz (r.out.symm.trans HA.out),Below.refl _ _⟩
end Go.Proofs.Ytojclalkfhoooaa
set_option maxRecDepth 8000
namespace Go.Proofs.Ytojclalkfhoooaa
open Go.RowKit Go.Shelf
variable {W w w':World}{g:List (List Nat)}{C c d i k m1 m2:Nat}{x:Int}{xs:List Nat}{t:ITerm}{l:List IBlk}
attribute [local go_sem] Oper.semAt_some
def aaT (Bv Bn n:Nat)(xs:List Nat)(bv bp op len cap:Nat)(ar:Option Addr)(capr:Nat)(W:World):Prop:=
 T W Bv 0 (I bv)/\T W Bn 0 (O n)/\T W bv 2 (.slice (some ⟨bp,op,none⟩) len cap)/\n<len/\
  T W bp (op+n) (.slice ar xs.length capr)/\∀(j:Nat) (x:Nat),xs[j]? =some x->∃b o,ar=some ⟨b,o,none⟩/\T W b (o+j) (O x)
theorem aH (m:Nat)(hm:1<=m)(l Bv Bn n:Nat)(xs:List Nat)(bv bp op len g:Nat)(ar:Option Addr)(c:Nat)(hx:xs.length<=4000004000000)(J Jx:List Nat->World->Prop)
 (y:∀(pre:List Nat) (x:Nat) (W:World),J pre W->xs[pre.length]? =some x->YieldAt Fence.wide (m-1) Try.prog l #[O x] W fun e W'=>
   (e=.returned (.bool true)/\J (pre++ [x]) W'/\(aaT Bv Bn n xs bv bp op len g ar c W->aaT Bv Bn n xs bv bp op len g ar c W'))∨(e=.returned (.bool false)/\Jx (pre++ [x]) W'))
 (a0:∀pre W k,J pre W->J pre (W.drewN k)) (W:World) (hR:aaT Bv Bn n xs bv bp op len g ar c W) (h0:J [] W):
 CallsIn Fence.wide m Try.prog 129 #[.func (.yield l) #[] #[],I Bv,I Bn] W fun e W'=>(∃v,e=.returned v)/\
  ((∃ys,ys=xs/\J ys W')∨(∃pre,pre<+:xs/\Jx pre W')):=by
 have a2:=Ja hR;obtain⟨c1,c2,c3,hn,c4,hc⟩:=hR;have a5:(n:Int)<len:=Zo;refine callsIn_of_wp Try.func129 rfl trivial ?_ rfl;simp only[Try.ntmps129,List.size_toArray,Nq,Ow,Nat.reduceAdd,Nat.reduceSub,Array.replicate_succ,Array.replicate_zero,List.push_toArray,List.append_toArray,Op,List.cons_append]
 gi_wp2
 gi_region
 gi_wp2
 gi_loopw [14] (fun i wr=>∃k:Nat,k<=xs.length/\i=O k/\J (xs.take k) wr/\Hid (aaT Bv Bn n xs bv bp op len g ar c wr)) (fun i _=>xs.length-(intOf i).toNat)
 case atStart=>exact⟨0,Jt _,rfl,a0 _ _ 1 h0,a2⟩
 case round=>
  obtain⟨k,hk,rfl,j,HR⟩:=hrel
  by_cases t:k<xs.length
  ·obtain⟨x,d⟩:∃x,xs[k]? =some x:=⟨_,Jd t⟩
   obtain⟨b,o,w,a6⟩:=HR.out.2.2.2.2.2 k x d;obtain⟨fn,a3,assign,body,hy,hR⟩:=y _ x wr j (by rw[Oc,Ud hk];exact d);have h:xs.take (k+1)=xs.take k++ [x]:=by rw[Nh,d];rfl
   have q:=Ja h;have a7:=Ja d;have a4:(k:Int)<xs.length:=Zo;subst w;clear d h c1 c2 c3 c4 hc y
   gi_wp2
   refine hR.mono ?_;rintro e W3 (⟨rfl,a1,u⟩|⟨rfl,r⟩)
   ·gi_wp2
    go_roundw
    case rel=>exact⟨k+1,by omega,by go_num,by rw[q.out];exact a1,u HR⟩
    case measure=>simp[intOf];omega
   ·gi_wp2
    refine bodyPost_ret (results_none rfl _ _ _) rfl ?_;exact⟨⟨_,rfl⟩,.inr ⟨_,by rw[<-q.out];exact List.take_prefix _ _,r⟩⟩
  ·obtain rfl:k=xs.length:=by omega
   gi_wp2
   go_end0
   exact⟨⟨_,rfl⟩,.inl ⟨_,Nl,j⟩⟩
theorem lj (p:Option Addr)(n:Int)(w:World):
 G 122 #[.pointer p,O n] w fun e w'=>e=.returned (.func (.func 129) #[] #[I w.heap.size,I (w.heap.size+1)])/\
  w'=(w.alloc (A #[.pointer p] 160)).alloc (A #[O n] 3):=by
 go_enter Try.func122,Try.ntmps122;go_wp2;go_ret;exact⟨rfl,rfl⟩
theorem aaT.below{Bv Bn n bv bp op len g:Nat}{ar:Option Addr}{W':World}(h:aaT Bv Bn n xs bv bp op len g ar d W)(hb:Below C W W')(l:W.heap.size<=C):aaT Bv Bn n xs bv bp op len g ar d W':=by
 obtain⟨c1,c2,c3,i,c4,k⟩:=h;have up:∀ {a:Addr} {v:Value},W.cell? a=some v->W'.cell? a=some v:=fun {a v} h=>(hb.cell (Jy (Jw W a h) l)).trans h
 refine⟨up c1,up c2,up c3,i,up c4,fun j x hj=>?_⟩;obtain⟨b,o,e,c⟩:=k j x hj;exact⟨b,o,e,up c⟩
theorem mC{x:Nat}(h:xs[k]? =some x):xs.attach.take (k+1)=xs.attach.take k++ [⟨x,Ji h⟩]:=by
 rw[Nh]
 congr 1
 obtain⟨c,rfl⟩:=Jh.1 h;rw[Jd (by simpa using c)];simp
theorem nH (m:Nat)(hm:1<=m)(Bv Bn n:Nat)(xs:List Nat)(bv bp op len d:Nat)(ar:Option Addr)(c:Nat)(g:xs.length<=4000004000000)(w:World)(i:aaT Bv Bn n xs bv bp op len d ar c w):
 SeqStopsK Fence.wide m Try.prog 129 #[I Bv,I Bn] (fun x: {p//p∈xs}=> #[O (x.1:Int)]) (fun W W'=>aaT Bv Bn n xs bv bp op len d ar c W->aaT Bv Bn n xs bv bp op len d ar c W')
  (fun ys=>ys.map (·.1)=xs) (fun _=>True) xs.length w:=fun l J Jx W hW hJ _ hY h0=>by
 refine(aH m hm l Bv Bn n xs bv bp op len d ar c g (fun pre W=>J (xs.attach.take pre.length) W) (fun pre W=>Jx (xs.attach.take pre.length) W) (fun pre x W1 h1 h2=>?_)
  (fun pre W1 k h=>hJ _ W1 (W1.drewN k) none h ⟨rfl,rfl,rfl,Je _,fun _ _ _=>rfl⟩ (fun _ e=>by cases e)) W (i.below hW (Je _)) (by simpa using h0)).mono ?_
 ·have j:pre.length<xs.length:=(Jh.1 h2).1;refine(hY _ ⟨x,Ji h2⟩ W1 h1 (by rw[Oc,List.length_attach];omega)).mono ?_;rw[Jk,Ju,mC h2];exact fun e w' h=>h
 ·rintro e w' ⟨hv,(⟨ys,rfl,h⟩|⟨pre,_,h⟩)⟩
  ·exact⟨hv,.inl ⟨_,by simp,h⟩⟩
  ·exact⟨hv,.inr ⟨_,trivial,h⟩⟩
def nN (l:List IBlk):Nat:=(l.map fun b=>b.ops.length).sum
def MS.sz (M:MS):Nat:=M.pos+M.next+M.f.length+M.vals.length+nN M.f
variable {M M1 M2:MS}
theorem xZ {α:Type}(l:List α)(i:Nat)(g:α->α):(wD l i g).length=l.length:=by unfold wD;split<;>simp
theorem xI{α:Type}{l:List α}{x:α}(h:l[i]? =some x)(g:α->α):wD l i g=l.set i (g x):=by unfold wD;rw[h]
def xU (l m:List IBlk):Prop:=∀(i:Nat) (b:IBlk),l[i]? =some b->∃b',m[i]? =some b'/\b'.params=b.params
theorem xU.refl (l:List IBlk):xU l l:=fun _ b h=>⟨b,h,rfl⟩
theorem xU.trans{m n:List IBlk}(h:xU l m)(k:xU m n):xU l n:=fun i b hb=>by
 obtain⟨b1,h1,h2⟩:=h i b hb;obtain⟨b2,h3,c⟩:=k i b1 h1;exact⟨b2,h3,c.trans h2⟩
theorem qB (l:List IBlk)(c:Nat)(g:IBlk->IBlk)(hg:∀b,(g b).params=b.params):xU l (wD l c g):=fun i b hb=>by
 cases h:l[c]? with
 |none=>unfold wD;rw[h];exact⟨b,hb,rfl⟩
 |some x=>
  rw[xI h,Ov]
  by_cases e:c=i
  ·subst e;rw[h] at hb;cases hb;rw[if_pos rfl,if_pos (Jh.1 h).1];exact⟨_,rfl,hg b⟩
  ·rw[if_neg e];exact⟨b,hb,rfl⟩
theorem qX (l m:List IBlk):xU l (l++m):=fun i b hb=>⟨b,by rw[Np (Jh.1 hb).1];exact hb,rfl⟩
theorem ry (l m:List IBlk):nN (l++m)=nN l+nN m:=by unfold nN;rw[Js,List.sum_append]
theorem sN:∀(l:List IBlk) (i:Nat) (b c:IBlk),l[i]? =some b->nN (l.set i c)+b.ops.length=nN l+c.ops.length
 | [],i,b,c,h=>by simp at h
 |x::l,0,b,c,h=>by
  cases h
  show((c::l).map _).sum+_=((x::l).map _).sum+_
  rw[Ql,Ql,List.sum_cons,List.sum_cons]
  omega
 |x::l,i+1,b,c,h=>by
  have:=sN l i b c (by simpa using h)
  show((x::l.set i c).map _).sum+_=((x::l).map _).sum+_
  unfold nN at this;rw[Ql,Ql,List.sum_cons,List.sum_cons];omega
theorem opsN_le{b:IBlk}(h:l[i]? =some b):b.ops.length<=nN l:=by
 have:=sN l i b ⟨[],[],⟨0,0,[]⟩⟩ h;simp at this;omega
theorem pG (l:List IBlk)(i:Nat)(g:IBlk->IBlk)(c:Nat)(hg:∀b,(g b).ops.length<=b.ops.length+c):nN (wD l i g)<=nN l+c:=by
 cases h:l[i]? with
 |none=>unfold wD;rw[h];exact Nat.le_add_right _ _
 |some b=>
  rw[xI h];have:=sN l i b (g b) h;have:=hg b;omega
structure Grow (c:Nat) (M M':MS):Prop where
 left:M'.left=M.left
 pos:M.pos<=M'.pos
 sz:M'.sz<=M.sz+c
 cur:M'.cur=M.cur
 len:M'.f.length=M.f.length
 nxt:M.next<=M'.next
 pre:M.vals<+:M'.vals
 par:xU M.f M'.f
theorem Grow.refl (M:MS):Grow 0 M M:=⟨rfl,Je _,Je _,rfl,rfl,Je _,Od,xU.refl _⟩
theorem Grow.trans(h:Grow c M M1)(k:Grow d M1 M2):Grow (c+d) M M2:=⟨k.left.trans h.left,Jn h.pos k.pos,by have:=h.sz;have:=k.sz;omega,k.cur.trans h.cur,k.len.trans h.len,Jn h.nxt k.nxt,h.pre.trans k.pre,h.par.trans k.par⟩
theorem Grow.mono(h:Grow c M M1)(g:c<=d):Grow d M M1:=⟨h.left,h.pos,by have:=h.sz;omega,h.cur,h.len,h.nxt,h.pre,h.par⟩
theorem zT (M:MS):Grow 1 M M.tick:=⟨rfl,Nat.le_succ _,by unfold MS.sz MS.tick;simp only;omega,rfl,rfl,Je _,Od,xU.refl _⟩
theorem yB (M:MS)(o:IOp):Grow 3 M (M.emit o):=by
 have h:=pG M.f M.cur (fun b=> {b with ops:=b.ops++ [eg M o]}) 1 (fun b=>by simp);refine⟨rfl,Je _,?_,rfl,xZ _ _ _,?_,?_,qB _ _ _ (fun _=>rfl)⟩
 ·unfold MS.sz MS.emit;simp only[xZ]
  split
  ·simp only[Jk,Ju];omega
  ·omega
 ·unfold MS.emit;simp only;split<;>omega
 ·unfold MS.emit;simp only;split
  ·exact Qb _ _
  ·exact Od
theorem wT (M:MS)(n:Nat):Grow 3 M (M.num n):=yB _ _
theorem zv (M:MS)(t:ITerm):Grow 0 M (M.endB t):=by
 have h:=pG M.f M.cur (fun b=> {b with term:=t }) 0 (fun b=>Je _);refine⟨rfl,Je _,?_,rfl,xZ _ _ _,Je _,Od,qB _ _ _ (fun _=>rfl)⟩;unfold MS.sz MS.endB;simp only[xZ];omega
theorem yU (E:ME)(M:MS):Grow 4 M (zJ E M).2:=by
 unfold zJ
 split
 ·exact(zT M).trans (wT _ _)
 split
 ·exact(((zT M).trans (zT _)).trans (zT _)).mono Zo
 ·exact((zT M).trans (zT _)).mono Zo
theorem ue (E:ME)(M:MS):Grow 6 M (yJ E M).2:=by
 unfold yJ
 split
 ·exact((zT M).trans (yU E _)).mono Zo
 ·exact(((zT M).trans (zT _)).trans (zT _)).trans (yB _ _)
theorem tj (E:ME):∀(n:Nat) (M:MS),Grow (4*n) M (yI E n M).2
 |0,M=>Grow.refl M
 |n+1,M=>((tj E n M).trans (yU E _)).mono Zo
theorem pb (E:ME)(d:∀x∈E.args,0<=x/\x<4)(M:MS):Grow 16 M (vN E M):=by
 unfold vN
 split
 ·exact(Grow.refl M).mono Zo
 simp only
 split
 ·exact(zT M).mono Zo
 ·have h:∀f,(E.args.getD f 0).toNat<=3:=fun f=>by
   rw[Jj]
   cases c:E.args[f]? with
   |none=>simp
   |some x=>have:=d x (Ji c);simp only[Ot];omega
  have:=h (E.me+1+tkV E M (E.nf-E.me-1));exact(((zT M).trans (tj E _ _)).trans (yB _ _)).mono Zo
theorem kJ (E:ME)(M:MS):Grow 19 M (yR E M):=by
 unfold yR;simp only;have h:=((yU E M).trans (yU E _)).trans (zT _)
 split
 ·split
  ·exact((((h.trans (zT _)).trans (wT _ _)).trans (yB _ _)).trans (yB _ _)).mono Zo
  ·exact((h.trans (zT _)).trans (yB _ _)).mono Zo
 ·exact(h.trans (yB _ _)).mono Zo
theorem pX (E:ME)(c:∀x∈E.args,0<=x/\x<4)(M:MS):Grow 20 M (xK E M):=by
 unfold xK;simp only;have h:=zT M
 split
 ·exact((h.trans (zT _)).trans (wT _ _)).mono Zo
 split
 ·exact(((h.trans (zT _)).trans (yU E _)).trans (yB _ _)).mono Zo
 split
 ·exact(((h.trans (ue E _)).trans (zT _)).trans (yB _ _)).mono Zo
 split
 ·exact((((h.trans (ue E _)).trans (yU E _)).trans (zT _)).trans (yB _ _)).mono Zo
 split
 ·exact((h.trans (zT _)).trans (yB _ _)).mono Zo
 split
 ·exact(((h.trans (yU E _)).trans (zT _)).trans (yB _ _)).mono Zo
 split
 ·exact((((h.trans (zT _)).trans (wT _ _)).trans (zT _)).trans (yB _ _)).mono Zo
 split
 ·exact(h.trans (pb E c _)).mono Zo
 split
 ·split
  ·exact((h.trans (zT _)).trans (yB _ _)).mono Zo
  ·exact(h.trans (zT _)).mono Zo
 ·exact(h.trans (kJ E _)).mono Zo
theorem pw (E:ME)(hE:∀x∈E.args,0<=x/\x<4):∀(n:Nat) (M:MS),Grow (20*n) M (qY E n M)
 |0,M=>Grow.refl M
 |n+1,M=>((pX E hE M).trans (pw E hE n _)).mono Zo
theorem aaE (E:ME)(M:MS){n:Nat}(c:0<n):tkV E M n<n:=by
 unfold tkV;have h1:=Ob (E.s.getD M.pos 0) (show(n:Int)≠0 by omega);have h2:=Int.emod_lt_of_pos (E.s.getD M.pos 0) (show(0:Int)<n by omega);omega
theorem bT (n p:Nat):nN [wJ n p]=0:=rfl
theorem sz_block (M:MS)(p:Nat):(M.block p).sz=M.sz+1+p:=by
 unfold MS.sz MS.block;simp only[Jk,Ju,ry,bT];omega
structure GrowP (c:Nat) (M M':MS):Prop where
 pos:M.pos<=M'.pos
 sz:M'.sz<=M.sz+c
 len:M.f.length<=M'.f.length
 nxt:M.next<=M'.next
 pre:M.vals<+:M'.vals
 cur:M.cur<M.f.length->M'.cur<M'.f.length
 left:M'.left<=M.left
 lft:6<=M.left+M.pos->6<=M'.left+M'.pos
 par:xU M.f M'.f
theorem GrowP.refl (M:MS):GrowP 0 M M:=⟨Je _,Je _,Je _,Je _,Od,fun h=>h,Og _,fun h=>h,xU.refl _⟩
theorem GrowP.trans(h:GrowP c M M1)(k:GrowP d M1 M2):GrowP (c+d) M M2:=
 ⟨Jn h.pos k.pos,by have:=h.sz;have:=k.sz;omega,Jn h.len k.len,Jn h.nxt k.nxt,h.pre.trans k.pre,fun e=>k.cur (h.cur e),Int.le_trans k.left h.left,fun e=>k.lft (h.lft e),h.par.trans k.par⟩
theorem GrowP.mono(h:GrowP c M M1)(g:c<=d):GrowP d M M1:= {h with sz:=by have:=h.sz;omega }
theorem Grow.p{M':MS}(h:Grow c M M'):GrowP c M M':=⟨h.pos,h.sz,Ul h.len.symm,h.nxt,h.pre,fun e=>by rw[h.cur,h.len];exact e,Int.le_of_eq h.left,fun e=>by have:=h.left;have:=h.pos;omega,h.par⟩
theorem xM (M:MS)(p:Nat):GrowP (1+p) M (M.block p):=
 ⟨Je _,by rw[sz_block];omega,by unfold MS.block;simp,by unfold MS.block;simp,Od,fun e=>by unfold MS.block;simp;omega,Og _,fun e=>e,qX _ _⟩
theorem vW:∀(n:Nat) (M:MS),GrowP n M (xE n M)
 |0,M=>GrowP.refl M
 |n+1,M=>(vW n M).trans ((xM _ 0).mono Zo)
theorem tB:∀(n:Nat) (M:MS),(xE n M).f.length=M.f.length+n
 |0,M=>rfl
 |n+1,M=>by show((xE n M).f++ [_]).length=_;rw[Jk,tB n M];rfl
theorem yz (M:MS)(p:Nat):(M.block p).f.length=M.f.length+1:=by unfold MS.block;simp
theorem vk (M:MS)(c:Nat)(h:c<M.f.length):GrowP 0 M {M with cur:=c }:=⟨Je _,Je _,Je _,Je _,Od,fun _=>h,Og _,fun e=>e,xU.refl _⟩
theorem dO {α:Type}{l m:List α}(h:l<+:m):l.length<=m.length:=by obtain⟨t,rfl⟩:=h;simp
theorem uF {α:Type}{l m:List α}(h:l<+:m):m.take l.length=l:=by obtain⟨t,rfl⟩:=h;simp
theorem sY(h:GrowP c M M1):GrowP c M {M1 with vals:=M1.vals.take M.vals.length }:=by
 refine⟨h.pos,?_,h.len,h.nxt,by rw[uF h.pre];exact Od,h.cur,h.left,h.lft,h.par⟩;have h1:=h.sz;have h2:=dO h.pre;unfold MS.sz at h1 ⊢;simp only[uF h.pre];omega
def wM (E:ME)(join k:Nat)(M1:MS):MS:=
 if tkV E M1 12=11/\0<k then(zJ E M1.tick).2.endB ⟨4,(zJ E M1.tick).1,[]⟩ else(zJ E M1.tick).2.endB ⟨1,0,[⟨(join:Nat),[(zJ E M1.tick).1]⟩]⟩
theorem su (E:ME)(c k:Nat)(M1:MS):GrowP 5 M1 (wM E c k M1):=by
 have h:=((zT M1).trans (yU E _)).p;unfold wM
 split
 ·exact h.trans (zv _ _).p
 ·exact h.trans (zv _ _).p
theorem rg (E:ME)(c:MS->MS)(tg d keep n k:Nat)(M:MS):uV E c tg d keep (n+1) k M=uV E c tg d keep n (k+1) {wM E d k (c {M with cur:=tg+k }) with vals:=(wM E d k (c {M with cur:=tg+k })).vals.take keep }:=rfl
theorem pF (E:ME)(c:MS->MS)(P:Nat)(i:∀M,GrowP P M (c M))(tg d:Nat):∀(n k:Nat) (M:MS),tg+k+n<=M.f.length->GrowP (n*(P+5)) M (uV E c tg d M.vals.length n k M)/\(uV E c tg d M.vals.length n k M).vals=M.vals
 |0,k,M,h=>⟨(GrowP.refl M).mono Zo,rfl⟩
 |n+1,k,M,h=>by
  rw[rg];have h1:=((vk M (tg+k) Zo).trans ((i _).trans (su E d k (c {M with cur:=tg+k })))).mono (show 0+(P+5)<=P+5 by omega);have h2:=sY h1;have h3:({wM E d k (c {M with cur:=tg+k }) with vals:=(wM E d k (c {M with cur:=tg+k })).vals.take M.vals.length }:MS).vals=M.vals:=uF h1.pre;have g:=pF E c P i tg d n (k+1) {wM E d k (c {M with cur:=tg+k }) with vals:=(wM E d k (c {M with cur:=tg+k })).vals.take M.vals.length } (by have:=h2.len;simp only at this ⊢;omega);rw[h3] at g;refine⟨(h2.trans g.1).mono ?_,g.2⟩;rw[Nat.succ_mul];omega
theorem uU (E:ME)(d:MS->MS)(P:Nat)(j:∀M,GrowP P M (d M))(n:Nat)(i:n<=4)(M:MS):GrowP (31+4*P) M (xi E d n M):=by
 unfold xi;simp only;have h1:=(yU E M).p;generalize zJ E M=c at *;have h2:=(h1.trans (vW n c.2)).trans (xM _ 1);have l2:((xE n c.2).block 1).f.length=c.2.f.length+n+1:=by rw[yz,tB]
 have h3:=h2.trans (zv ((xE n c.2).block 1) ⟨if 2<n then 3 else 2,c.1,xk c.2.f.length n⟩).p;have l3:(((xE n c.2).block 1).endB ⟨if 2<n then 3 else 2,c.1,xk c.2.f.length n⟩).f.length=c.2.f.length+n+1:=(zv _ _).len.trans l2;generalize ((xE n c.2).block 1).endB ⟨if 2<n then 3 else 2,c.1,xk c.2.f.length n⟩=M3 at *;obtain⟨h,k⟩:=pF E d P j c.2.f.length (c.2.f.length+n) n 0 M3 Zo;generalize uV E d c.2.f.length (c.2.f.length+n) M3.vals.length n 0 M3=M4 at *;have g:=h3.trans h;have hm:n*(P+5)<=4*(P+5):=Qw _ i;refine⟨g.pos,?_,g.len,g.nxt,g.pre.trans (Qb _ _),fun e=>?_,g.left,g.lft,g.par⟩
 ·have:=g.sz;unfold MS.sz at this ⊢;simp only[Jk,Ju];omega
 ·have:=h.len
  show c.2.f.length+n<M4.f.length
  omega
theorem qg (E:ME)(c:MS->MS)(P:Nat)(h:∀M,GrowP P M (c M))(M:MS):GrowP (24+P) M (tH E c M):=by
 unfold tH;simp only;have h1:=(((zT M).trans (wT M.tick (tkV E M 5))).trans (yU E _)).p;generalize zJ E (M.tick.num (tkV E M 5))=x at *;have l2:(((x.2.block 2).block 0).block 0).f.length=x.2.f.length+3:=by rw[yz,yz,yz]
 have h2:=((h1.trans (xM _ 2)).trans (xM _ 0)).trans (xM _ 0);have h3:=h2.trans (zv (((x.2.block 2).block 0).block 0) ⟨1,0,[⟨(x.2.f.length:Nat),[(M.next:Int),x.1]⟩]⟩).p;have l3:=(zv (((x.2.block 2).block 0).block 0) ⟨1,0,[⟨(x.2.f.length:Nat),[(M.next:Int),x.1]⟩]⟩).len.trans l2;generalize (((x.2.block 2).block 0).block 0).endB ⟨1,0,[⟨(x.2.f.length:Nat),[(M.next:Int),x.1]⟩]⟩=M2 at *
 have m:GrowP 1 M2 {M2 with cur:=x.2.f.length,vals:=M2.vals++ [((x.2.next+1:Nat):Int)]}:=by
  refine⟨Je _,?_,Je _,Je _,Qb _ _,fun _=>by show x.2.f.length<M2.f.length;omega,Og _,fun e=>e,xU.refl _⟩;unfold MS.sz;simp only[Jk,Ju];omega
 have l:=(h3.trans m).trans (zv {M2 with cur:=x.2.f.length,vals:=M2.vals++ [((x.2.next+1:Nat):Int)]} ⟨2,(x.2.next:Nat),[⟨((x.2.f.length+1:Nat):Int),[]⟩,⟨((x.2.f.length+2:Nat):Int),[]⟩]⟩).p;have l5:=(zv {M2 with cur:=x.2.f.length,vals:=M2.vals++ [((x.2.next+1:Nat):Int)]} ⟨2,(x.2.next:Nat),[⟨((x.2.f.length+1:Nat):Int),[]⟩,⟨((x.2.f.length+2:Nat):Int),[]⟩]⟩).len;have o:(MS.endB {M2 with cur:=x.2.f.length,vals:=M2.vals++ [((x.2.next+1:Nat):Int)]} ⟨2,(x.2.next:Nat),[⟨((x.2.f.length+1:Nat):Int),[]⟩,⟨((x.2.f.length+2:Nat):Int),[]⟩]⟩).f.length=x.2.f.length+3:=l5.trans l3;generalize MS.endB {M2 with cur:=x.2.f.length,vals:=M2.vals++ [((x.2.next+1:Nat):Int)]} ⟨2,(x.2.next:Nat),[⟨((x.2.f.length+1:Nat):Int),[]⟩,⟨((x.2.f.length+2:Nat):Int),[]⟩]⟩=M3 at *;have k:=(vk M3 (x.2.f.length+1) Zo).trans (h _);have j:=k.trans (wT (c {M3 with cur:=x.2.f.length+1 }) 1).p;generalize c {M3 with cur:=x.2.f.length+1 }=M4 at *;have i:=(j.trans (yB (M4.num 1) ⟨6,0,(x.2.next:Nat),(M4.next:Nat),0,[]⟩).p).trans (yU E _).p;generalize zJ E ((M4.num 1).emit ⟨6,0,(x.2.next:Nat),(M4.next:Nat),0,[]⟩)=y at *;have g:=sY (i.trans (zv y.2 ⟨1,0,[⟨(x.2.f.length:Nat),[((M4.next+1:Nat):Int),y.1]⟩]⟩).p);generalize q:y.2.endB ⟨1,0,[⟨(x.2.f.length:Nat),[((M4.next+1:Nat):Int),y.1]⟩]⟩=M6 at *;have d:=g.len;simp only at d;exact((l.trans g).trans (vk {M6 with vals:=M6.vals.take M3.vals.length } (x.2.f.length+2) (by show x.2.f.length+2<M6.f.length;omega))).mono Zo
theorem oL (E:ME)(c:∀x∈E.args,0<=x/\x<4)(M:MS):GrowP 101 M (tR E M):=by
 unfold tR;simp only;have hk:=aaE E M (n:=5) Zo;have h1:=(zT M).trans (pw E c (tkV E M 5+1) M.tick);have h2:=(pw E c (tkV E M 5+1) M.tick)
 have h3:=h1.p;refine⟨h3.pos,?_,h3.len,h3.nxt,h3.pre,h3.cur,by have:=h3.left;show _-1<=M.left;omega,fun e=>?_,h3.par⟩
 ·have:=h3.sz;unfold MS.sz at this ⊢;simp only;omega
 ·have e1:=h1.left;have e2:=h2.pos;have e3:M.tick.pos=M.pos+1:=rfl
  show 6<=(qY E (tkV E M 5+1) M.tick).left-1+(((qY E (tkV E M 5+1) M.tick).pos:Nat):Int)
  omega
def pC:Nat->Nat
 |0=>101
 |d+1=>134+4*pC d
theorem xw (E:ME)(h:∀x∈E.args,0<=x/\x<4):∀(d:Nat) (M:MS),GrowP (pC d) M (zp E d M)
 |0,M=>oL E h M
 |d+1,M=>by
  unfold zp;simp only;have h1:=oL E h M;generalize tR E M=M2 at *;have g:=xw E h d;have j:pC (d+1)=134+4*pC d:=rfl;have c:=(zT M2).p;have i:=(zT M2.tick).p
  split
  ·exact h1.mono Zo
  split
  ·exact((h1.trans c).trans (uU E _ _ g 2 Zo _)).mono Zo
  split
  ·exact((h1.trans c).trans (qg E _ _ g _)).mono Zo
  split
  ·have:=aaE E M2.tick (n:=3) Zo;exact(((h1.trans c).trans i).trans (uU E _ _ g (2+tkV E M2.tick 3) Zo _)).mono Zo
  ·exact(h1.trans c).mono Zo
open Go.RowKit
theorem rX (s:List Int)(pos:Nat){n:Nat}(c:0<n):tk0 s pos n<n:=by
 unfold tk0;have h1:=Ob (s.getD pos 0) (show(n:Int)≠0 by omega);have h2:=Int.emod_lt_of_pos (s.getD pos 0) (show(0:Int)<n by omega);omega
theorem sm (s:List Int):1<=mdN s/\mdN s<=4:=by
 have:=rX s 0 (n:=4) Zo;unfold mdN;omega
theorem yY (s:List Int):∀n,(yS s n).length=n
 |0=>rfl
 |n+1=>by unfold yS;rw[Jk,yY s n];rfl
theorem xy (s:List Int):∀n,∀x∈yS s n,0<=x/\x<4
 |0,x,h=>by unfold yS at h;simp at h
 |n+1,x,h=>by
  unfold yS at h;rcases Jl.1 h with h|h
  ·exact xy s n x h
  ·have:=rX s n (n:=4) Zo;rw[Jo] at h;subst h
   split<;>omega
theorem yx (s:List Int):∀k,(zg s k).1.length=k
 |0=>rfl
 |k+1=>by
  show((zg s k).1++ [_]).length=_
  rw[Jk,yx s k];rfl
theorem eP {E:ME}(d:∀x∈E.args,0<=x/\x<4)(f:Nat):(E.args.getD f 0).toNat<=3:=by
 rw[Jj]
 cases c:E.args[f]? with
 |none=>simp
 |some x=>have:=d x (Ji c);simp only[Ot];omega
theorem sd (n p:Nat):(wJ n p).params.length=p:=by unfold wJ;simp
theorem sQ {E:ME}(c:∀x∈E.args,0<=x/\x<4)(pos:Nat):(xD E pos).sz<=pos+40:=by
 have h1:=eP c E.me;have h2:=aaE E ⟨pos,[],0,0,[],6⟩ (n:=3) Zo;unfold xD;simp only;unfold MS.sz MS.block MS.tick;simp only[sd,Op,bT,Ju];omega
theorem rx {E:ME}(d:∀x∈E.args,0<=x/\x<4)(pos:Nat):GrowP 2829 (xD E pos) (xR E pos):=by
 have h:=(xw E d 2 (xD E pos)).trans (xw E d 1 (zp E 2 (xD E pos)));have e:pC 2+pC 1=2824:=rfl;rw[e] at h;unfold xR;simp only;have c:=h.trans (zT (zp E 1 (zp E 2 (xD E pos)))).p
 split
 ·exact(c.trans (zv _ _).p).mono Zo
 split
 ·exact(c.trans (zv _ _).p).mono Zo
 ·exact((c.trans (yU E _).p).trans (zv _ _).p).mono Zo
theorem lN {E:ME}(c:∀x∈E.args,0<=x/\x<4)(pos:Nat):(xR E pos).pos<=pos+3000:=by
 have h1:=(rx c pos).sz;have h2:=sQ c pos;have h3:(xR E pos).pos<=(xR E pos).sz:=by unfold MS.sz;omega
 omega
theorem mdPos_le (s:List Int):sP s<=5:=by
 have:=sm s;unfold sP
 split<;>omega
theorem pos_step{x y:Nat}(h1:y<=5+k*3000)(h2:x<=y+3000):x<=5+(k+1)*3000:=by omega
theorem tU (s:List Int)(k:Nat):(zg s k).2<=5+k*3000:=by
 induction k with
 |zero=>exact mdPos_le s
 |succ k ih=>exact pos_step ih (lN (E:=xC s k) (xy s _) (zg s k).2)
def rp (k:Nat):Nat:=(k*k+k/256)%256
def iu:List Nat:=(List.range 4096).map rp
def uQ (k:Nat):List Nat:=(List.range 4096).map fun j=>if j<k then rp j else 0
theorem pM (k:Nat):(uQ k).length=4096:=by simp[uQ]
theorem mM:uQ 0=List.replicate 4096 0:=by
 apply Oq;intro j;unfold uQ;rw[Jr,Nm]
 by_cases h:j<4096
 ·rw[Oh h,if_pos h];rfl
 ·rw[Of (by simpa using h),if_neg h];rfl
theorem nu:uQ 4096=iu:=Up fun j hj=>if_pos (Ol.1 hj)
theorem kC(h:k<4096):(uQ k).set k (rp k)=uQ (k+1):=by
 apply Oq;intro j;rw[Ov,pM];unfold uQ;rw[Jr,Jr]
 by_cases e:k=j
 ·subst e;rw[if_pos rfl,if_pos h,Oh h]
  show some _=some (if k<k+1 then rp k else 0)
  rw[if_pos Zo]
 ·rw[if_neg e]
  by_cases c:j<4096
  ·rw[Oh c]
   show some (if j<k then rp j else 0)=some (if j<k+1 then rp j else 0)
   by_cases h2:j<k
   ·rw[if_pos h2,if_pos Zo]
   ·rw[if_neg h2,if_neg Zo]
  ·rw[Of (by simpa using c)];rfl
theorem ll (n:Nat):(((List.range n).map rp).map fun(n:Nat)=>(n:Int)).map (fun n=>UInt8.ofNat n.toNat)=(List.range n).map fun k=>UInt8.ofNat (k*k+k/256):=by
 rw[List.map_map,List.map_map];apply Up;intro k hk
 show UInt8.ofNat (((rp k:Nat):Int).toNat)=_
 rw[Ni];unfold rp;apply UInt8.toNat_inj.1;simp
theorem mq:y9 iu=sG:=congrArg (fun l:List UInt8=>(⟨l.toArray⟩:ByteArray)) (ll 4096)
end Go.Proofs.Ytojclalkfhoooaa
