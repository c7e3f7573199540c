/- Part of a proof. -/
import Derived.Test.YtoahcpkibpomcaaGreatIOper
set_option linter.all false
set_option maxHeartbeats 4000000
set_option maxRecDepth 100000
namespace Go.Proofs.YtoahcpkibpomcaaGreat
open Go.RowKit
variable {w:World}
theorem case_rom:∀x1 x2 x4 x6:Bool,(x1=false)∨(x1=true/\x2=false)∨(x1=true/\x2=true/\x4=false)∨(x1=true/\x2=true/\x4=true/\x6=false)∨(x1=true/\x2=true/\x4=true/\x6=true)
 |false,_,_,_=>(.inl rfl)
 |true,false,_,_=>(.inr (.inl ⟨rfl,rfl⟩))
 |true,true,false,_=>(.inr (.inr (.inl ⟨rfl,rfl,rfl⟩)))
 |true,true,true,false=>(Zi (.inl ⟨rfl,rfl,rfl,rfl⟩))
 |true,true,true,true=>(Zi (.inr ⟨rfl,rfl,rfl,rfl⟩))
theorem oper_rom{C:Nat}{pvs:List Value}{p:IProg}(o:IOp)(ho:qN o)(ar:Option Addr)(d:Nat)(a6:o.args.length<=d/\d<=9223372036854775807)(hs:zi o.code=⟨true,true,true,false,true⟩)(g:o.code≠26)(h2:o.code≠2)(i:o.code≠24)(h:o.code≠25):
 O 138 #[F C,opV o (.slice ar o.args.length d)] w (ym w (opF p o)):=by
 unfold opV;obtain⟨a7,a3,b1,b0,a4⟩:=ho;have a5:o.args.length<=9223372036854775807:=Zo;obtain⟨x1,h1⟩:∃q,decide (0<=o.res)=q:=⟨_,rfl⟩
 obtain⟨x2,a0⟩:∃q,decide (-1<=o.res)=q:=⟨_,rfl⟩
 obtain⟨x3,h3⟩:∃q,decide (o.a=0)=q:=⟨_,rfl⟩
 obtain⟨x4,t⟩:∃q,decide (o.b=0)=q:=⟨_,rfl⟩
 obtain⟨x5,m⟩:∃q,decide (o.n=0)=q:=⟨_,rfl⟩
 obtain⟨x6,l⟩:∃q,decide (o.args.length=0)=q:=⟨_,rfl⟩
 obtain⟨x7,h7⟩:∃q,decide (1<=o.n)=q:=⟨_,rfl⟩
 obtain⟨x8,h8⟩:∃q,decide (o.n<=255)=q:=⟨_,rfl⟩
 have e:opF p o=(decide (true=x1) && x2 && (true||x3) && (false||x4) && (true||x5) && x6 && true):=by
  unfold opF;rw[if_neg g,if_neg h2,hs,h1,a0,h3,t,m,l,decide_eq_true i,decide_eq_true h];rfl
 have b2:(o.code==26)=false:=by rw[beq_eq_false_iff_ne];exact g
 have t2:(o.code==2)=false:=by rw[beq_eq_false_iff_ne];exact h2
 have x:(o.code==24)=false:=by rw[beq_eq_false_iff_ne];exact i
 have u:(o.code==25)=false:=by rw[beq_eq_false_iff_ne];exact h
 have a2:(o.code !=24)=true:=by rw[bne,x];rfl
 have a1:(o.code !=25)=true:=by rw[bne,u];rfl
 have hf:∀W,O 142 #[I o.code] W fun e w'=>e=.returned (.tuple #[.agg #[.bool true,.bool true,.bool false,.bool true],.bool true])/\Q W w':=fun W=>by have:=yu o.code W;rw[hs] at this;exact this
 clear hs g h2 i h;obtain⟨R,j⟩:∃R,opF p o=R:=⟨_,rfl⟩
 rw[j];rw[e] at j;have HR:=Ja j;have HF:=Ja hf;have t3:=yv h3;have t4:=yv t;have t5:((o.n:Int)==0)=x5:=yv (zZ m Zo);have t6:((o.args.length:Int)==0)=x6:=yv (zZ l Zo);have t7:decide ((1:Int)<=(o.n:Int))=x7:=zZ h7 Zo;have t8:decide ((o.n:Int)<=255)=x8:=zZ h8 Zo;clear e j hf h3 t m l;have y:=case_rom x1 x2 x4 x6;rcases y with rfl|⟨rfl,rfl⟩|⟨rfl,rfl,rfl⟩|⟨rfl,rfl,rfl,rfl⟩|⟨rfl,rfl,rfl,rfl⟩
 all_goals go_enter Tryz.func138,Tryz.ntmps138
 all_goals go_wp2_with (first|(go_at_call 142;refine(HF.out _).mono ?_;rintro e w1 ⟨rfl,f⟩;have c:=zH f (zI rfl) Zs;have u0:∀ob,T (w1.alloc ob) w.heap.size 0 (I o.code):=fun ob=>zA (zB c) Zs;have u1:∀ob,T (w1.alloc ob) w.heap.size 1 (I o.res):=fun ob=>zA (zB c) Zs;have u2:∀ob,T (w1.alloc ob) w.heap.size 2 (I o.a):=fun ob=>zA (zB c) Zs;have u3:∀ob,T (w1.alloc ob) w.heap.size 3 (I o.b):=fun ob=>zA (zB c) Zs;have u4:∀ob,T (w1.alloc ob) w.heap.size 4 (M (o.n:Int)):=fun ob=>zA (zB c) Zs;have u5:∀ob,T (w1.alloc ob) w.heap.size 5 (.slice ar o.args.length d):=fun ob=>zA (zB c) Zs;clear c;have k:=Ja f;clear f)|go_in)
 all_goals go_ret
 all_goals exact⟨uz (HR.out.symm.trans rfl),(((Below.refl _ _).alloc (Je _) _).trans (k.out.mono Zs)).alloc (by have h9:=k.out.size;simp at h9;omega) _⟩
theorem case_in:∀x1 x2 x3 x4 x6 x7 x8:Bool,(x1=false/\x7=false)∨(x1=false/\x7=true/\x8=false)∨(x1=false/\x7=true/\x8=true)∨(x1=true/\x2=false/\x7=false)∨(x1=true/\x2=false/\x7=true/\x8=false)∨(x1=true/\x2=false/\x7=true/\x8=true)∨(x1=true/\x2=true/\x3=false/\x7=false)∨(x1=true/\x2=true/\x3=false/\x7=true/\x8=false)∨(x1=true/\x2=true/\x3=false/\x7=true/\x8=true)∨(x1=true/\x2=true/\x3=true/\x4=false/\x7=false)∨(x1=true/\x2=true/\x3=true/\x4=false/\x7=true/\x8=false)∨(x1=true/\x2=true/\x3=true/\x4=false/\x7=true/\x8=true)∨(x1=true/\x2=true/\x3=true/\x4=true/\x6=false/\x7=false)∨(x1=true/\x2=true/\x3=true/\x4=true/\x6=false/\x7=true/\x8=false)∨(x1=true/\x2=true/\x3=true/\x4=true/\x6=false/\x7=true/\x8=true)∨(x1=true/\x2=true/\x3=true/\x4=true/\x6=true/\x7=false)∨(x1=true/\x2=true/\x3=true/\x4=true/\x6=true/\x7=true/\x8=false)∨(x1=true/\x2=true/\x3=true/\x4=true/\x6=true/\x7=true/\x8=true)
 |false,_,_,_,_,false,_=>(.inl ⟨rfl,rfl⟩)
 |false,_,_,_,_,true,false=>(.inr (.inl ⟨rfl,rfl,rfl⟩))
 |false,_,_,_,_,true,true=>(.inr (.inr (.inl ⟨rfl,rfl,rfl⟩)))
 |true,false,_,_,_,false,_=>(Zi (.inl ⟨rfl,rfl,rfl⟩))
 |true,false,_,_,_,true,false=>(.inr (Zi (.inl ⟨rfl,rfl,rfl,rfl⟩)))
 |true,false,_,_,_,true,true=>(.inr (.inr (Zi (.inl ⟨rfl,rfl,rfl,rfl⟩))))
 |true,true,false,_,_,false,_=>(.inr (.inr (.inr (Zi (.inl ⟨rfl,rfl,rfl,rfl⟩)))))
 |true,true,false,_,_,true,false=>(.inr (.inr (.inr (.inr (Zi (.inl ⟨rfl,rfl,rfl,rfl,rfl⟩))))))
 |true,true,false,_,_,true,true=>(.inr (.inr (.inr (.inr (.inr (Zi (.inl ⟨rfl,rfl,rfl,rfl,rfl⟩)))))))
 |true,true,true,false,_,false,_=>(.inr (.inr (.inr (.inr (.inr (.inr (Zi (.inl ⟨rfl,rfl,rfl,rfl,rfl⟩))))))))
 |true,true,true,false,_,true,false=>(.inr (.inr (.inr (.inr (.inr (.inr (.inr (Zi (.inl ⟨rfl,rfl,rfl,rfl,rfl,rfl⟩)))))))))
 |true,true,true,false,_,true,true=>(.inr (.inr (.inr (.inr (.inr (.inr (.inr (.inr (Zi (.inl ⟨rfl,rfl,rfl,rfl,rfl,rfl⟩))))))))))
 |true,true,true,true,false,false,_=>(.inr (.inr (.inr (.inr (.inr (.inr (.inr (.inr (.inr (Zi (.inl ⟨rfl,rfl,rfl,rfl,rfl,rfl⟩)))))))))))
 |true,true,true,true,false,true,false=>(.inr (.inr (.inr (.inr (.inr (.inr (.inr (.inr (.inr (.inr (Zi (.inl ⟨rfl,rfl,rfl,rfl,rfl,rfl,rfl⟩))))))))))))
 |true,true,true,true,false,true,true=>(.inr (.inr (.inr (.inr (.inr (.inr (.inr (.inr (.inr (.inr (.inr (Zi (.inl ⟨rfl,rfl,rfl,rfl,rfl,rfl,rfl⟩)))))))))))))
 |true,true,true,true,true,false,_=>(.inr (.inr (.inr (.inr (.inr (.inr (.inr (.inr (.inr (.inr (.inr (.inr (Zi (.inl ⟨rfl,rfl,rfl,rfl,rfl,rfl⟩))))))))))))))
 |true,true,true,true,true,true,false=>(.inr (.inr (.inr (.inr (.inr (.inr (.inr (.inr (.inr (.inr (.inr (.inr (.inr (Zi (.inl ⟨rfl,rfl,rfl,rfl,rfl,rfl,rfl⟩)))))))))))))))
 |true,true,true,true,true,true,true=>(.inr (.inr (.inr (.inr (.inr (.inr (.inr (.inr (.inr (.inr (.inr (.inr (.inr (Zi (.inr ⟨rfl,rfl,rfl,rfl,rfl,rfl,rfl⟩)))))))))))))))
theorem oper_in{C:Nat}{pvs:List Value}{p:IProg}(o:IOp)(ho:qN o)(ar:Option Addr)(f:Nat)(a2:o.args.length<=f/\f<=9223372036854775807)(d:o.code=24):
 O 138 #[F C,opV o (.slice ar o.args.length f)] w (ym w (opF p o)):=by
 unfold opV;obtain⟨a3,y,a5,a4,a0⟩:=ho;have a1:o.args.length<=9223372036854775807:=Zo;obtain⟨x1,h1⟩:∃q,decide (0<=o.res)=q:=⟨_,rfl⟩
 obtain⟨x2,x⟩:∃q,decide (-1<=o.res)=q:=⟨_,rfl⟩
 obtain⟨x3,h3⟩:∃q,decide (o.a=0)=q:=⟨_,rfl⟩
 obtain⟨x4,l⟩:∃q,decide (o.b=0)=q:=⟨_,rfl⟩
 obtain⟨x5,k⟩:∃q,decide (o.n=0)=q:=⟨_,rfl⟩
 obtain⟨x6,j⟩:∃q,decide (o.args.length=0)=q:=⟨_,rfl⟩
 obtain⟨x7,u⟩:∃q,decide (1<=o.n)=q:=⟨_,rfl⟩
 obtain⟨x8,t⟩:∃q,decide (o.n<=255)=q:=⟨_,rfl⟩
 have e:opF p o=(decide (true=x1) && x2 && (false||x3) && (false||x4) && (true||x5) && x6 && (x7 && x8)):=by
  unfold opF;rw[if_neg Zo,if_neg Zo,d,h1,x,h3,l,k,j,u,t];rfl
 have hf:∀W,O 142 #[I 24] W fun e w'=>e=.returned (.tuple #[.agg #[.bool true,.bool false,.bool false,.bool true],.bool true])/\Q W w':=fun W=>yu 24 W
 rw[d];obtain⟨R,h⟩:∃R,opF p o=R:=⟨_,rfl⟩
 rw[h];rw[e] at h;have HR:=Ja h;have HF:=Ja hf;have t3:=yv h3;have t4:=yv l;have t5:((o.n:Int)==0)=x5:=yv (zZ k Zo);have t6:((o.args.length:Int)==0)=x6:=yv (zZ j Zo);have t7:decide ((1:Int)<=(o.n:Int))=x7:=zZ u Zo;have t8:decide ((o.n:Int)<=255)=x8:=zZ t Zo;clear e h hf h3 l k j;have m:=case_in x1 x2 x3 x4 x6 x7 x8;rcases m with⟨rfl,rfl⟩|⟨rfl,rfl,rfl⟩|⟨rfl,rfl,rfl⟩|⟨rfl,rfl,rfl⟩|⟨rfl,rfl,rfl,rfl⟩|⟨rfl,rfl,rfl,rfl⟩|⟨rfl,rfl,rfl,rfl⟩|⟨rfl,rfl,rfl,rfl,rfl⟩|⟨rfl,rfl,rfl,rfl,rfl⟩|⟨rfl,rfl,rfl,rfl,rfl⟩|⟨rfl,rfl,rfl,rfl,rfl,rfl⟩|⟨rfl,rfl,rfl,rfl,rfl,rfl⟩|⟨rfl,rfl,rfl,rfl,rfl,rfl⟩|⟨rfl,rfl,rfl,rfl,rfl,rfl,rfl⟩|⟨rfl,rfl,rfl,rfl,rfl,rfl,rfl⟩|⟨rfl,rfl,rfl,rfl,rfl,rfl⟩|⟨rfl,rfl,rfl,rfl,rfl,rfl,rfl⟩|⟨rfl,rfl,rfl,rfl,rfl,rfl,rfl⟩
 all_goals go_enter Tryz.func138,Tryz.ntmps138
 all_goals go_wp2_with (first|(go_at_call 142;refine(HF.out _).mono ?_;rintro e w1 ⟨rfl,g⟩;have c:=zH g (zI rfl) Zs;have u0:∀ob,T (w1.alloc ob) w.heap.size 0 (I 24):=fun ob=>zA (zB c) Zs;have u1:∀ob,T (w1.alloc ob) w.heap.size 1 (I o.res):=fun ob=>zA (zB c) Zs;have u2:∀ob,T (w1.alloc ob) w.heap.size 2 (I o.a):=fun ob=>zA (zB c) Zs;have u3:∀ob,T (w1.alloc ob) w.heap.size 3 (I o.b):=fun ob=>zA (zB c) Zs;have u4:∀ob,T (w1.alloc ob) w.heap.size 4 (M (o.n:Int)):=fun ob=>zA (zB c) Zs;have u5:∀ob,T (w1.alloc ob) w.heap.size 5 (.slice ar o.args.length f):=fun ob=>zA (zB c) Zs;clear c;have i:=Ja g;clear g)|go_in)
 all_goals go_ret
 all_goals exact⟨uz (HR.out.symm.trans rfl),(((Below.refl _ _).alloc (Je _) _).trans (i.out.mono Zs)).alloc (by have h9:=i.out.size;simp at h9;omega) _⟩
theorem case_out:∀x1 x2 x4 x6 x7 x8:Bool,(x1=true/\x7=false)∨(x1=true/\x7=true/\x8=false)∨(x1=true/\x7=true/\x8=true)∨(x1=false/\x2=false/\x7=false)∨(x1=false/\x2=false/\x7=true/\x8=false)∨(x1=false/\x2=false/\x7=true/\x8=true)∨(x1=false/\x2=true/\x4=false/\x7=false)∨(x1=false/\x2=true/\x4=false/\x7=true/\x8=false)∨(x1=false/\x2=true/\x4=false/\x7=true/\x8=true)∨(x1=false/\x2=true/\x4=true/\x6=false/\x7=false)∨(x1=false/\x2=true/\x4=true/\x6=false/\x7=true/\x8=false)∨(x1=false/\x2=true/\x4=true/\x6=false/\x7=true/\x8=true)∨(x1=false/\x2=true/\x4=true/\x6=true/\x7=false)∨(x1=false/\x2=true/\x4=true/\x6=true/\x7=true/\x8=false)∨(x1=false/\x2=true/\x4=true/\x6=true/\x7=true/\x8=true)
 |true,_,_,_,false,_=>(.inl ⟨rfl,rfl⟩)
 |true,_,_,_,true,false=>(.inr (.inl ⟨rfl,rfl,rfl⟩))
 |true,_,_,_,true,true=>(.inr (.inr (.inl ⟨rfl,rfl,rfl⟩)))
 |false,false,_,_,false,_=>(Zi (.inl ⟨rfl,rfl,rfl⟩))
 |false,false,_,_,true,false=>(.inr (Zi (.inl ⟨rfl,rfl,rfl,rfl⟩)))
 |false,false,_,_,true,true=>(.inr (.inr (Zi (.inl ⟨rfl,rfl,rfl,rfl⟩))))
 |false,true,false,_,false,_=>(.inr (.inr (.inr (Zi (.inl ⟨rfl,rfl,rfl,rfl⟩)))))
 |false,true,false,_,true,false=>(.inr (.inr (.inr (.inr (Zi (.inl ⟨rfl,rfl,rfl,rfl,rfl⟩))))))
 |false,true,false,_,true,true=>(.inr (.inr (.inr (.inr (.inr (Zi (.inl ⟨rfl,rfl,rfl,rfl,rfl⟩)))))))
 |false,true,true,false,false,_=>(.inr (.inr (.inr (.inr (.inr (.inr (Zi (.inl ⟨rfl,rfl,rfl,rfl,rfl⟩))))))))
 |false,true,true,false,true,false=>(.inr (.inr (.inr (.inr (.inr (.inr (.inr (Zi (.inl ⟨rfl,rfl,rfl,rfl,rfl,rfl⟩)))))))))
 |false,true,true,false,true,true=>(.inr (.inr (.inr (.inr (.inr (.inr (.inr (.inr (Zi (.inl ⟨rfl,rfl,rfl,rfl,rfl,rfl⟩))))))))))
 |false,true,true,true,false,_=>(.inr (.inr (.inr (.inr (.inr (.inr (.inr (.inr (.inr (Zi (.inl ⟨rfl,rfl,rfl,rfl,rfl⟩)))))))))))
 |false,true,true,true,true,false=>(.inr (.inr (.inr (.inr (.inr (.inr (.inr (.inr (.inr (.inr (Zi (.inl ⟨rfl,rfl,rfl,rfl,rfl,rfl⟩))))))))))))
 |false,true,true,true,true,true=>(.inr (.inr (.inr (.inr (.inr (.inr (.inr (.inr (.inr (.inr (Zi (.inr ⟨rfl,rfl,rfl,rfl,rfl,rfl⟩))))))))))))
theorem oper_out{C:Nat}{pvs:List Value}{p:IProg}(o:IOp)(ho:qN o)(ar:Option Addr)(f:Nat)(a2:o.args.length<=f/\f<=9223372036854775807)(d:o.code=25):
 O 138 #[F C,opV o (.slice ar o.args.length f)] w (ym w (opF p o)):=by
 unfold opV;obtain⟨a3,y,a5,a4,a0⟩:=ho;have a1:o.args.length<=9223372036854775807:=Zo;obtain⟨x1,h1⟩:∃q,decide (0<=o.res)=q:=⟨_,rfl⟩
 obtain⟨x2,x⟩:∃q,decide (-1<=o.res)=q:=⟨_,rfl⟩
 obtain⟨x3,h3⟩:∃q,decide (o.a=0)=q:=⟨_,rfl⟩
 obtain⟨x4,l⟩:∃q,decide (o.b=0)=q:=⟨_,rfl⟩
 obtain⟨x5,k⟩:∃q,decide (o.n=0)=q:=⟨_,rfl⟩
 obtain⟨x6,j⟩:∃q,decide (o.args.length=0)=q:=⟨_,rfl⟩
 obtain⟨x7,u⟩:∃q,decide (1<=o.n)=q:=⟨_,rfl⟩
 obtain⟨x8,t⟩:∃q,decide (o.n<=255)=q:=⟨_,rfl⟩
 have e:opF p o=(decide (false=x1) && x2 && (true||x3) && (false||x4) && (true||x5) && x6 && (x7 && x8)):=by
  unfold opF;rw[if_neg Zo,if_neg Zo,d,h1,x,h3,l,k,j,u,t];rfl
 have hf:∀W,O 142 #[I 25] W fun e w'=>e=.returned (.tuple #[.agg #[.bool false,.bool true,.bool false,.bool true],.bool true])/\Q W w':=fun W=>yu 25 W
 rw[d];obtain⟨R,h⟩:∃R,opF p o=R:=⟨_,rfl⟩
 rw[h];rw[e] at h;have HR:=Ja h;have HF:=Ja hf;have t3:=yv h3;have t4:=yv l;have t5:((o.n:Int)==0)=x5:=yv (zZ k Zo);have t6:((o.args.length:Int)==0)=x6:=yv (zZ j Zo);have t7:decide ((1:Int)<=(o.n:Int))=x7:=zZ u Zo;have t8:decide ((o.n:Int)<=255)=x8:=zZ t Zo;clear e h hf h3 l k j;have m:=case_out x1 x2 x4 x6 x7 x8;rcases m with⟨rfl,rfl⟩|⟨rfl,rfl,rfl⟩|⟨rfl,rfl,rfl⟩|⟨rfl,rfl,rfl⟩|⟨rfl,rfl,rfl,rfl⟩|⟨rfl,rfl,rfl,rfl⟩|⟨rfl,rfl,rfl,rfl⟩|⟨rfl,rfl,rfl,rfl,rfl⟩|⟨rfl,rfl,rfl,rfl,rfl⟩|⟨rfl,rfl,rfl,rfl,rfl⟩|⟨rfl,rfl,rfl,rfl,rfl,rfl⟩|⟨rfl,rfl,rfl,rfl,rfl,rfl⟩|⟨rfl,rfl,rfl,rfl,rfl⟩|⟨rfl,rfl,rfl,rfl,rfl,rfl⟩|⟨rfl,rfl,rfl,rfl,rfl,rfl⟩
 all_goals go_enter Tryz.func138,Tryz.ntmps138
 all_goals go_wp2_with (first|(go_at_call 142;refine(HF.out _).mono ?_;rintro e w1 ⟨rfl,g⟩;have c:=zH g (zI rfl) Zs;have u0:∀ob,T (w1.alloc ob) w.heap.size 0 (I 25):=fun ob=>zA (zB c) Zs;have u1:∀ob,T (w1.alloc ob) w.heap.size 1 (I o.res):=fun ob=>zA (zB c) Zs;have u2:∀ob,T (w1.alloc ob) w.heap.size 2 (I o.a):=fun ob=>zA (zB c) Zs;have u3:∀ob,T (w1.alloc ob) w.heap.size 3 (I o.b):=fun ob=>zA (zB c) Zs;have u4:∀ob,T (w1.alloc ob) w.heap.size 4 (M (o.n:Int)):=fun ob=>zA (zB c) Zs;have u5:∀ob,T (w1.alloc ob) w.heap.size 5 (.slice ar o.args.length f):=fun ob=>zA (zB c) Zs;clear c;have i:=Ja g;clear g)|go_in)
 all_goals go_ret
 all_goals exact⟨uz (HR.out.symm.trans rfl),(((Below.refl _ _).alloc (Je _) _).trans (i.out.mono Zs)).alloc (by have h9:=i.out.size;simp at h9;omega) _⟩
end Go.Proofs.YtoahcpkibpomcaaGreat
