/- Part of a proof. -/
import Derived.Test.YtoahcpkibpomcaaGreatGZx1w
set_option linter.all false
set_option maxHeartbeats 4000000
set_option maxRecDepth 100000
namespace Go.Proofs.YtoahcpkibpomcaaGreat
open Go.RowKit
variable {w:World}
def rC (V:PV)(p:IProg):List Value:=[V.fv,V.av,U p.entry,U p.handler,V.dv,V.bv]
def opV (o:IOp)(av:Value):Value:=.agg #[U o.code,U o.res,U o.a,U o.b,Y (o.n:Int),av]
def qN (o:IOp):Prop:=I64 o.code/\I64 o.res/\I64 o.a/\I64 o.b/\o.n<65536
def ym (w:World)(b:Bool)(e:Ending)(w':World):Prop:=e=.returned (.bool b)/\N w w'
theorem y7 {x y:Int}{q:Bool}(h:decide (x=y)=q):(x==y)=q:=by rw[<-h];exact Bool.eq_iff_iff.2 (by rw[beq_iff_eq,decide_eq_true_eq])
theorem uz {a b:Bool}(h:a=b):Ending.returned (.bool b)=.returned (.bool a):=by rw[h]
theorem jH:∀x1 x2 x3 x4 x5 x6:Bool,(x1=true)∨(x1=false/\x2=false)∨(x1=false/\x2=true/\x3=false)∨(x1=false/\x2=true/\x3=true/\x4=false)∨(x1=false/\x2=true/\x3=true/\x4=true/\x5=false)∨(x1=false/\x2=true/\x3=true/\x4=true/\x5=true/\x6=false)∨(x1=false/\x2=true/\x3=true/\x4=true/\x5=true/\x6=true)
 |true,_,_,_,_,_=>(.inl rfl)
 |false,false,_,_,_,_=>(.inr (.inl ⟨rfl,rfl⟩))
 |false,true,false,_,_,_=>(.inr (.inr (.inl ⟨rfl,rfl,rfl⟩)))
 |false,true,true,false,_,_=>(Zi (.inl ⟨rfl,rfl,rfl,rfl⟩))
 |false,true,true,true,false,_=>(.inr (Zi (.inl ⟨rfl,rfl,rfl,rfl,rfl⟩)))
 |false,true,true,true,true,false=>(.inr (.inr (Zi (.inl ⟨rfl,rfl,rfl,rfl,rfl,rfl⟩))))
 |false,true,true,true,true,true=>(.inr (.inr (Zi (.inr ⟨rfl,rfl,rfl,rfl,rfl,rfl⟩))))
theorem kY{C:Nat}{pvs:List Value}{p:IProg}(o:IOp)(ho:qN o)(ar:Option Addr)(d:Nat)(a8:o.args.length<=d/\d<=9223372036854775807)(hs:zi o.code=⟨true,false,false,false,false⟩)(h:o.code≠26)(h2:o.code≠2)(j:o.code≠24)(i:o.code≠25):
 G 138 #[Q C,opV o (.slice ar o.args.length d)] w (ym w (opF p o)):=by
 unfold opV;obtain⟨b0,a4,b2,b1,a5⟩:=ho;have a6:o.args.length<=9223372036854775807:=Zo;obtain⟨x1,h1⟩:∃q,decide (0<=o.res)=q:=⟨_,rfl⟩
 obtain⟨x2,a1⟩:∃q,decide (-1<=o.res)=q:=⟨_,rfl⟩
 obtain⟨x3,h3⟩:∃q,decide (o.a=0)=q:=⟨_,rfl⟩
 obtain⟨x4,u⟩:∃q,decide (o.b=0)=q:=⟨_,rfl⟩
 obtain⟨x5,t⟩:∃q,decide (o.n=0)=q:=⟨_,rfl⟩
 obtain⟨x6,m⟩:∃q,decide (o.args.length=0)=q:=⟨_,rfl⟩
 obtain⟨x7,h7⟩:∃q,decide (1<=o.n)=q:=⟨_,rfl⟩
 obtain⟨x8,h8⟩:∃q,decide (o.n<=255)=q:=⟨_,rfl⟩
 have e:opF p o=(decide (false=x1) && x2 && (false||x3) && (false||x4) && (false||x5) && x6 && true):=by
  unfold opF;rw[if_neg h,if_neg h2,hs,h1,a1,h3,u,t,m,decide_eq_true j,decide_eq_true i];rfl
 have b3:(o.code==26)=false:=by rw[beq_eq_false_iff_ne];exact h
 have t2:(o.code==2)=false:=by rw[beq_eq_false_iff_ne];exact h2
 have y:(o.code==24)=false:=by rw[beq_eq_false_iff_ne];exact j
 have x:(o.code==25)=false:=by rw[beq_eq_false_iff_ne];exact i
 have a3:(o.code !=24)=true:=by rw[bne,y];rfl
 have a2:(o.code !=25)=true:=by rw[bne,x];rfl
 have hf:∀W,G 142 #[U o.code] W fun e w'=>e=.returned (.tuple #[.agg #[.bool false,.bool false,.bool false,.bool false],.bool true])/\N W w':=fun W=>by have:=yu o.code W;rw[hs] at this;exact this
 clear hs h h2 j i;obtain⟨R,k⟩:∃R,opF p o=R:=⟨_,rfl⟩
 rw[k];rw[e] at k;have HR:=Ja k;have HF:=Ja hf;have t3:=y7 h3;have t4:=y7 u;have t5:((o.n:Int)==0)=x5:=y7 (zZ t Zo);have t6:((o.args.length:Int)==0)=x6:=y7 (zZ m Zo);have t7:decide ((1:Int)<=(o.n:Int))=x7:=zZ h7 Zo;have t8:decide ((o.n:Int)<=255)=x8:=zZ h8 Zo;clear e k hf h3 u t m;have a0:=jH x1 x2 x3 x4 x5 x6;rcases a0 with rfl|⟨rfl,rfl⟩|⟨rfl,rfl,rfl⟩|⟨rfl,rfl,rfl,rfl⟩|⟨rfl,rfl,rfl,rfl,rfl⟩|⟨rfl,rfl,rfl,rfl,rfl,rfl⟩|⟨rfl,rfl,rfl,rfl,rfl,rfl⟩
 all_goals go_enter Tryz.func138,Tryz.ntmps138
 all_goals go_wp2_with (first|(go_at_call 142;refine(HF.out _).mono ?_;rintro e w1 ⟨rfl,g⟩;have c:=zH g (zI rfl) Zs;have u0:∀ob,A (w1.alloc ob) w.heap.size 0 (U o.code):=fun ob=>zA (zB c) Zs;have u1:∀ob,A (w1.alloc ob) w.heap.size 1 (U o.res):=fun ob=>zA (zB c) Zs;have u2:∀ob,A (w1.alloc ob) w.heap.size 2 (U o.a):=fun ob=>zA (zB c) Zs;have u3:∀ob,A (w1.alloc ob) w.heap.size 3 (U o.b):=fun ob=>zA (zB c) Zs;have u4:∀ob,A (w1.alloc ob) w.heap.size 4 (Y (o.n:Int)):=fun ob=>zA (zB c) Zs;have u5:∀ob,A (w1.alloc ob) w.heap.size 5 (.slice ar o.args.length d):=fun ob=>zA (zB c) Zs;clear c;have l:=Ja g;clear g)|go_in)
 all_goals go_ret
 all_goals exact⟨uz (HR.out.symm.trans rfl),(((Below.refl _ _).alloc (Je _) _).trans (l.out.mono Zs)).alloc (by have h9:=l.out.size;simp at h9;omega) _⟩
theorem lX:∀x1 x2 x3 x4 x6:Bool,(x1=false)∨(x1=true/\x2=false)∨(x1=true/\x2=true/\x3=false)∨(x1=true/\x2=true/\x3=true/\x4=false)∨(x1=true/\x2=true/\x3=true/\x4=true/\x6=false)∨(x1=true/\x2=true/\x3=true/\x4=true/\x6=true)
 |false,_,_,_,_=>(.inl rfl)
 |true,false,_,_,_=>(.inr (.inl ⟨rfl,rfl⟩))
 |true,true,false,_,_=>(.inr (.inr (.inl ⟨rfl,rfl,rfl⟩)))
 |true,true,true,false,_=>(Zi (.inl ⟨rfl,rfl,rfl,rfl⟩))
 |true,true,true,true,false=>(.inr (Zi (.inl ⟨rfl,rfl,rfl,rfl,rfl⟩)))
 |true,true,true,true,true=>(.inr (Zi (.inr ⟨rfl,rfl,rfl,rfl,rfl⟩)))
theorem kG{C:Nat}{pvs:List Value}{p:IProg}(o:IOp)(ho:qN o)(ar:Option Addr)(d:Nat)(a8:o.args.length<=d/\d<=9223372036854775807)(hs:zi o.code=⟨true,true,false,false,true⟩)(h:o.code≠26)(h2:o.code≠2)(j:o.code≠24)(i:o.code≠25):
 G 138 #[Q C,opV o (.slice ar o.args.length d)] w (ym w (opF p o)):=by
 unfold opV;obtain⟨b0,a4,b2,b1,a5⟩:=ho;have a6:o.args.length<=9223372036854775807:=Zo;obtain⟨x1,h1⟩:∃q,decide (0<=o.res)=q:=⟨_,rfl⟩
 obtain⟨x2,a1⟩:∃q,decide (-1<=o.res)=q:=⟨_,rfl⟩
 obtain⟨x3,h3⟩:∃q,decide (o.a=0)=q:=⟨_,rfl⟩
 obtain⟨x4,u⟩:∃q,decide (o.b=0)=q:=⟨_,rfl⟩
 obtain⟨x5,t⟩:∃q,decide (o.n=0)=q:=⟨_,rfl⟩
 obtain⟨x6,m⟩:∃q,decide (o.args.length=0)=q:=⟨_,rfl⟩
 obtain⟨x7,h7⟩:∃q,decide (1<=o.n)=q:=⟨_,rfl⟩
 obtain⟨x8,h8⟩:∃q,decide (o.n<=255)=q:=⟨_,rfl⟩
 have e:opF p o=(decide (true=x1) && x2 && (false||x3) && (false||x4) && (true||x5) && x6 && true):=by
  unfold opF;rw[if_neg h,if_neg h2,hs,h1,a1,h3,u,t,m,decide_eq_true j,decide_eq_true i];rfl
 have b3:(o.code==26)=false:=by rw[beq_eq_false_iff_ne];exact h
 have t2:(o.code==2)=false:=by rw[beq_eq_false_iff_ne];exact h2
 have y:(o.code==24)=false:=by rw[beq_eq_false_iff_ne];exact j
 have x:(o.code==25)=false:=by rw[beq_eq_false_iff_ne];exact i
 have a3:(o.code !=24)=true:=by rw[bne,y];rfl
 have a2:(o.code !=25)=true:=by rw[bne,x];rfl
 have hf:∀W,G 142 #[U o.code] W fun e w'=>e=.returned (.tuple #[.agg #[.bool true,.bool false,.bool false,.bool true],.bool true])/\N W w':=fun W=>by have:=yu o.code W;rw[hs] at this;exact this
 clear hs h h2 j i;obtain⟨R,k⟩:∃R,opF p o=R:=⟨_,rfl⟩
 rw[k];rw[e] at k;have HR:=Ja k;have HF:=Ja hf;have t3:=y7 h3;have t4:=y7 u;have t5:((o.n:Int)==0)=x5:=y7 (zZ t Zo);have t6:((o.args.length:Int)==0)=x6:=y7 (zZ m Zo);have t7:decide ((1:Int)<=(o.n:Int))=x7:=zZ h7 Zo;have t8:decide ((o.n:Int)<=255)=x8:=zZ h8 Zo;clear e k hf h3 u t m;have a0:=lX x1 x2 x3 x4 x6;rcases a0 with rfl|⟨rfl,rfl⟩|⟨rfl,rfl,rfl⟩|⟨rfl,rfl,rfl,rfl⟩|⟨rfl,rfl,rfl,rfl,rfl⟩|⟨rfl,rfl,rfl,rfl,rfl⟩
 all_goals go_enter Tryz.func138,Tryz.ntmps138
 all_goals go_wp2_with (first|(go_at_call 142;refine(HF.out _).mono ?_;rintro e w1 ⟨rfl,g⟩;have c:=zH g (zI rfl) Zs;have u0:∀ob,A (w1.alloc ob) w.heap.size 0 (U o.code):=fun ob=>zA (zB c) Zs;have u1:∀ob,A (w1.alloc ob) w.heap.size 1 (U o.res):=fun ob=>zA (zB c) Zs;have u2:∀ob,A (w1.alloc ob) w.heap.size 2 (U o.a):=fun ob=>zA (zB c) Zs;have u3:∀ob,A (w1.alloc ob) w.heap.size 3 (U o.b):=fun ob=>zA (zB c) Zs;have u4:∀ob,A (w1.alloc ob) w.heap.size 4 (Y (o.n:Int)):=fun ob=>zA (zB c) Zs;have u5:∀ob,A (w1.alloc ob) w.heap.size 5 (.slice ar o.args.length d):=fun ob=>zA (zB c) Zs;clear c;have l:=Ja g;clear g)|go_in)
 all_goals go_ret
 all_goals exact⟨uz (HR.out.symm.trans rfl),(((Below.refl _ _).alloc (Je _) _).trans (l.out.mono Zs)).alloc (by have h9:=l.out.size;simp at h9;omega) _⟩
theorem case_una:∀x1 x2 x4 x5 x6:Bool,(x1=false)∨(x1=true/\x2=false)∨(x1=true/\x2=true/\x4=false)∨(x1=true/\x2=true/\x4=true/\x5=false)∨(x1=true/\x2=true/\x4=true/\x5=true/\x6=false)∨(x1=true/\x2=true/\x4=true/\x5=true/\x6=true)
 |false,_,_,_,_=>(.inl rfl)
 |true,false,_,_,_=>(.inr (.inl ⟨rfl,rfl⟩))
 |true,true,false,_,_=>(.inr (.inr (.inl ⟨rfl,rfl,rfl⟩)))
 |true,true,true,false,_=>(Zi (.inl ⟨rfl,rfl,rfl,rfl⟩))
 |true,true,true,true,false=>(.inr (Zi (.inl ⟨rfl,rfl,rfl,rfl,rfl⟩)))
 |true,true,true,true,true=>(.inr (Zi (.inr ⟨rfl,rfl,rfl,rfl,rfl⟩)))
theorem oper_una{C:Nat}{pvs:List Value}{p:IProg}(o:IOp)(ho:qN o)(ar:Option Addr)(d:Nat)(a8:o.args.length<=d/\d<=9223372036854775807)(hs:zi o.code=⟨true,true,true,false,false⟩)(h:o.code≠26)(h2:o.code≠2)(j:o.code≠24)(i:o.code≠25):
 G 138 #[Q C,opV o (.slice ar o.args.length d)] w (ym w (opF p o)):=by
 unfold opV;obtain⟨b0,a4,b2,b1,a5⟩:=ho;have a6:o.args.length<=9223372036854775807:=Zo;obtain⟨x1,h1⟩:∃q,decide (0<=o.res)=q:=⟨_,rfl⟩
 obtain⟨x2,a1⟩:∃q,decide (-1<=o.res)=q:=⟨_,rfl⟩
 obtain⟨x3,h3⟩:∃q,decide (o.a=0)=q:=⟨_,rfl⟩
 obtain⟨x4,u⟩:∃q,decide (o.b=0)=q:=⟨_,rfl⟩
 obtain⟨x5,t⟩:∃q,decide (o.n=0)=q:=⟨_,rfl⟩
 obtain⟨x6,m⟩:∃q,decide (o.args.length=0)=q:=⟨_,rfl⟩
 obtain⟨x7,h7⟩:∃q,decide (1<=o.n)=q:=⟨_,rfl⟩
 obtain⟨x8,h8⟩:∃q,decide (o.n<=255)=q:=⟨_,rfl⟩
 have e:opF p o=(decide (true=x1) && x2 && (true||x3) && (false||x4) && (false||x5) && x6 && true):=by
  unfold opF;rw[if_neg h,if_neg h2,hs,h1,a1,h3,u,t,m,decide_eq_true j,decide_eq_true i];rfl
 have b3:(o.code==26)=false:=by rw[beq_eq_false_iff_ne];exact h
 have t2:(o.code==2)=false:=by rw[beq_eq_false_iff_ne];exact h2
 have y:(o.code==24)=false:=by rw[beq_eq_false_iff_ne];exact j
 have x:(o.code==25)=false:=by rw[beq_eq_false_iff_ne];exact i
 have a3:(o.code !=24)=true:=by rw[bne,y];rfl
 have a2:(o.code !=25)=true:=by rw[bne,x];rfl
 have hf:∀W,G 142 #[U o.code] W fun e w'=>e=.returned (.tuple #[.agg #[.bool true,.bool true,.bool false,.bool false],.bool true])/\N W w':=fun W=>by have:=yu o.code W;rw[hs] at this;exact this
 clear hs h h2 j i;obtain⟨R,k⟩:∃R,opF p o=R:=⟨_,rfl⟩
 rw[k];rw[e] at k;have HR:=Ja k;have HF:=Ja hf;have t3:=y7 h3;have t4:=y7 u;have t5:((o.n:Int)==0)=x5:=y7 (zZ t Zo);have t6:((o.args.length:Int)==0)=x6:=y7 (zZ m Zo);have t7:decide ((1:Int)<=(o.n:Int))=x7:=zZ h7 Zo;have t8:decide ((o.n:Int)<=255)=x8:=zZ h8 Zo;clear e k hf h3 u t m;have a0:=case_una x1 x2 x4 x5 x6;rcases a0 with rfl|⟨rfl,rfl⟩|⟨rfl,rfl,rfl⟩|⟨rfl,rfl,rfl,rfl⟩|⟨rfl,rfl,rfl,rfl,rfl⟩|⟨rfl,rfl,rfl,rfl,rfl⟩
 all_goals go_enter Tryz.func138,Tryz.ntmps138
 all_goals go_wp2_with (first|(go_at_call 142;refine(HF.out _).mono ?_;rintro e w1 ⟨rfl,g⟩;have c:=zH g (zI rfl) Zs;have u0:∀ob,A (w1.alloc ob) w.heap.size 0 (U o.code):=fun ob=>zA (zB c) Zs;have u1:∀ob,A (w1.alloc ob) w.heap.size 1 (U o.res):=fun ob=>zA (zB c) Zs;have u2:∀ob,A (w1.alloc ob) w.heap.size 2 (U o.a):=fun ob=>zA (zB c) Zs;have u3:∀ob,A (w1.alloc ob) w.heap.size 3 (U o.b):=fun ob=>zA (zB c) Zs;have u4:∀ob,A (w1.alloc ob) w.heap.size 4 (Y (o.n:Int)):=fun ob=>zA (zB c) Zs;have u5:∀ob,A (w1.alloc ob) w.heap.size 5 (.slice ar o.args.length d):=fun ob=>zA (zB c) Zs;clear c;have l:=Ja g;clear g)|go_in)
 all_goals go_ret
 all_goals exact⟨uz (HR.out.symm.trans rfl),(((Below.refl _ _).alloc (Je _) _).trans (l.out.mono Zs)).alloc (by have h9:=l.out.size;simp at h9;omega) _⟩
theorem case_bin:∀x1 x2 x5 x6:Bool,(x1=false)∨(x1=true/\x2=false)∨(x1=true/\x2=true/\x5=false)∨(x1=true/\x2=true/\x5=true/\x6=false)∨(x1=true/\x2=true/\x5=true/\x6=true)
 |false,_,_,_=>(.inl rfl)
 |true,false,_,_=>(.inr (.inl ⟨rfl,rfl⟩))
 |true,true,false,_=>(.inr (.inr (.inl ⟨rfl,rfl,rfl⟩)))
 |true,true,true,false=>(Zi (.inl ⟨rfl,rfl,rfl,rfl⟩))
 |true,true,true,true=>(Zi (.inr ⟨rfl,rfl,rfl,rfl⟩))
theorem oper_bin{C:Nat}{pvs:List Value}{p:IProg}(o:IOp)(ho:qN o)(ar:Option Addr)(d:Nat)(a8:o.args.length<=d/\d<=9223372036854775807)(hs:zi o.code=⟨true,true,true,true,false⟩)(h:o.code≠26)(h2:o.code≠2)(j:o.code≠24)(i:o.code≠25):
 G 138 #[Q C,opV o (.slice ar o.args.length d)] w (ym w (opF p o)):=by
 unfold opV;obtain⟨b0,a4,b2,b1,a5⟩:=ho;have a6:o.args.length<=9223372036854775807:=Zo;obtain⟨x1,h1⟩:∃q,decide (0<=o.res)=q:=⟨_,rfl⟩
 obtain⟨x2,a1⟩:∃q,decide (-1<=o.res)=q:=⟨_,rfl⟩
 obtain⟨x3,h3⟩:∃q,decide (o.a=0)=q:=⟨_,rfl⟩
 obtain⟨x4,u⟩:∃q,decide (o.b=0)=q:=⟨_,rfl⟩
 obtain⟨x5,t⟩:∃q,decide (o.n=0)=q:=⟨_,rfl⟩
 obtain⟨x6,m⟩:∃q,decide (o.args.length=0)=q:=⟨_,rfl⟩
 obtain⟨x7,h7⟩:∃q,decide (1<=o.n)=q:=⟨_,rfl⟩
 obtain⟨x8,h8⟩:∃q,decide (o.n<=255)=q:=⟨_,rfl⟩
 have e:opF p o=(decide (true=x1) && x2 && (true||x3) && (true||x4) && (false||x5) && x6 && true):=by
  unfold opF;rw[if_neg h,if_neg h2,hs,h1,a1,h3,u,t,m,decide_eq_true j,decide_eq_true i];rfl
 have b3:(o.code==26)=false:=by rw[beq_eq_false_iff_ne];exact h
 have t2:(o.code==2)=false:=by rw[beq_eq_false_iff_ne];exact h2
 have y:(o.code==24)=false:=by rw[beq_eq_false_iff_ne];exact j
 have x:(o.code==25)=false:=by rw[beq_eq_false_iff_ne];exact i
 have a3:(o.code !=24)=true:=by rw[bne,y];rfl
 have a2:(o.code !=25)=true:=by rw[bne,x];rfl
 have hf:∀W,G 142 #[U o.code] W fun e w'=>e=.returned (.tuple #[.agg #[.bool true,.bool true,.bool true,.bool false],.bool true])/\N W w':=fun W=>by have:=yu o.code W;rw[hs] at this;exact this
 clear hs h h2 j i;obtain⟨R,k⟩:∃R,opF p o=R:=⟨_,rfl⟩
 rw[k];rw[e] at k;have HR:=Ja k;have HF:=Ja hf;have t3:=y7 h3;have t4:=y7 u;have t5:((o.n:Int)==0)=x5:=y7 (zZ t Zo);have t6:((o.args.length:Int)==0)=x6:=y7 (zZ m Zo);have t7:decide ((1:Int)<=(o.n:Int))=x7:=zZ h7 Zo;have t8:decide ((o.n:Int)<=255)=x8:=zZ h8 Zo;clear e k hf h3 u t m;have a0:=case_bin x1 x2 x5 x6;rcases a0 with rfl|⟨rfl,rfl⟩|⟨rfl,rfl,rfl⟩|⟨rfl,rfl,rfl,rfl⟩|⟨rfl,rfl,rfl,rfl⟩
 all_goals go_enter Tryz.func138,Tryz.ntmps138
 all_goals go_wp2_with (first|(go_at_call 142;refine(HF.out _).mono ?_;rintro e w1 ⟨rfl,g⟩;have c:=zH g (zI rfl) Zs;have u0:∀ob,A (w1.alloc ob) w.heap.size 0 (U o.code):=fun ob=>zA (zB c) Zs;have u1:∀ob,A (w1.alloc ob) w.heap.size 1 (U o.res):=fun ob=>zA (zB c) Zs;have u2:∀ob,A (w1.alloc ob) w.heap.size 2 (U o.a):=fun ob=>zA (zB c) Zs;have u3:∀ob,A (w1.alloc ob) w.heap.size 3 (U o.b):=fun ob=>zA (zB c) Zs;have u4:∀ob,A (w1.alloc ob) w.heap.size 4 (Y (o.n:Int)):=fun ob=>zA (zB c) Zs;have u5:∀ob,A (w1.alloc ob) w.heap.size 5 (.slice ar o.args.length d):=fun ob=>zA (zB c) Zs;clear c;have l:=Ja g;clear g)|go_in)
 all_goals go_ret
 all_goals exact⟨uz (HR.out.symm.trans rfl),(((Below.refl _ _).alloc (Je _) _).trans (l.out.mono Zs)).alloc (by have h9:=l.out.size;simp at h9;omega) _⟩
theorem case_sto:∀x1 x2 x5 x6:Bool,(x1=true)∨(x1=false/\x2=false)∨(x1=false/\x2=true/\x5=false)∨(x1=false/\x2=true/\x5=true/\x6=false)∨(x1=false/\x2=true/\x5=true/\x6=true)
 |true,_,_,_=>(.inl rfl)
 |false,false,_,_=>(.inr (.inl ⟨rfl,rfl⟩))
 |false,true,false,_=>(.inr (.inr (.inl ⟨rfl,rfl,rfl⟩)))
 |false,true,true,false=>(Zi (.inl ⟨rfl,rfl,rfl,rfl⟩))
 |false,true,true,true=>(Zi (.inr ⟨rfl,rfl,rfl,rfl⟩))
theorem oper_sto{C:Nat}{pvs:List Value}{p:IProg}(o:IOp)(ho:qN o)(ar:Option Addr)(d:Nat)(a8:o.args.length<=d/\d<=9223372036854775807)(hs:zi o.code=⟨true,false,true,true,false⟩)(h:o.code≠26)(h2:o.code≠2)(j:o.code≠24)(i:o.code≠25):
 G 138 #[Q C,opV o (.slice ar o.args.length d)] w (ym w (opF p o)):=by
 unfold opV;obtain⟨b0,a4,b2,b1,a5⟩:=ho;have a6:o.args.length<=9223372036854775807:=Zo;obtain⟨x1,h1⟩:∃q,decide (0<=o.res)=q:=⟨_,rfl⟩
 obtain⟨x2,a1⟩:∃q,decide (-1<=o.res)=q:=⟨_,rfl⟩
 obtain⟨x3,h3⟩:∃q,decide (o.a=0)=q:=⟨_,rfl⟩
 obtain⟨x4,u⟩:∃q,decide (o.b=0)=q:=⟨_,rfl⟩
 obtain⟨x5,t⟩:∃q,decide (o.n=0)=q:=⟨_,rfl⟩
 obtain⟨x6,m⟩:∃q,decide (o.args.length=0)=q:=⟨_,rfl⟩
 obtain⟨x7,h7⟩:∃q,decide (1<=o.n)=q:=⟨_,rfl⟩
 obtain⟨x8,h8⟩:∃q,decide (o.n<=255)=q:=⟨_,rfl⟩
 have e:opF p o=(decide (false=x1) && x2 && (true||x3) && (true||x4) && (false||x5) && x6 && true):=by
  unfold opF;rw[if_neg h,if_neg h2,hs,h1,a1,h3,u,t,m,decide_eq_true j,decide_eq_true i];rfl
 have b3:(o.code==26)=false:=by rw[beq_eq_false_iff_ne];exact h
 have t2:(o.code==2)=false:=by rw[beq_eq_false_iff_ne];exact h2
 have y:(o.code==24)=false:=by rw[beq_eq_false_iff_ne];exact j
 have x:(o.code==25)=false:=by rw[beq_eq_false_iff_ne];exact i
 have a3:(o.code !=24)=true:=by rw[bne,y];rfl
 have a2:(o.code !=25)=true:=by rw[bne,x];rfl
 have hf:∀W,G 142 #[U o.code] W fun e w'=>e=.returned (.tuple #[.agg #[.bool false,.bool true,.bool true,.bool false],.bool true])/\N W w':=fun W=>by have:=yu o.code W;rw[hs] at this;exact this
 clear hs h h2 j i;obtain⟨R,k⟩:∃R,opF p o=R:=⟨_,rfl⟩
 rw[k];rw[e] at k;have HR:=Ja k;have HF:=Ja hf;have t3:=y7 h3;have t4:=y7 u;have t5:((o.n:Int)==0)=x5:=y7 (zZ t Zo);have t6:((o.args.length:Int)==0)=x6:=y7 (zZ m Zo);have t7:decide ((1:Int)<=(o.n:Int))=x7:=zZ h7 Zo;have t8:decide ((o.n:Int)<=255)=x8:=zZ h8 Zo;clear e k hf h3 u t m;have a0:=case_sto x1 x2 x5 x6;rcases a0 with rfl|⟨rfl,rfl⟩|⟨rfl,rfl,rfl⟩|⟨rfl,rfl,rfl,rfl⟩|⟨rfl,rfl,rfl,rfl⟩
 all_goals go_enter Tryz.func138,Tryz.ntmps138
 all_goals go_wp2_with (first|(go_at_call 142;refine(HF.out _).mono ?_;rintro e w1 ⟨rfl,g⟩;have c:=zH g (zI rfl) Zs;have u0:∀ob,A (w1.alloc ob) w.heap.size 0 (U o.code):=fun ob=>zA (zB c) Zs;have u1:∀ob,A (w1.alloc ob) w.heap.size 1 (U o.res):=fun ob=>zA (zB c) Zs;have u2:∀ob,A (w1.alloc ob) w.heap.size 2 (U o.a):=fun ob=>zA (zB c) Zs;have u3:∀ob,A (w1.alloc ob) w.heap.size 3 (U o.b):=fun ob=>zA (zB c) Zs;have u4:∀ob,A (w1.alloc ob) w.heap.size 4 (Y (o.n:Int)):=fun ob=>zA (zB c) Zs;have u5:∀ob,A (w1.alloc ob) w.heap.size 5 (.slice ar o.args.length d):=fun ob=>zA (zB c) Zs;clear c;have l:=Ja g;clear g)|go_in)
 all_goals go_ret
 all_goals exact⟨uz (HR.out.symm.trans rfl),(((Below.refl _ _).alloc (Je _) _).trans (l.out.mono Zs)).alloc (by have h9:=l.out.size;simp at h9;omega) _⟩
end Go.Proofs.YtoahcpkibpomcaaGreat
