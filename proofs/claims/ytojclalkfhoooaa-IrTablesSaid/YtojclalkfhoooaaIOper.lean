/- Part of a proof. -/
import Derived.Test.YtojclalkfhoooaaGIChk
import Derived.Deep.QuietTactic
import Derived.BigQuiet
set_option linter.unusedSimpArgs false
set_option linter.unusedVariables false
set_option maxHeartbeats 4000000
set_option maxRecDepth 100000
namespace Go.Proofs.Ytojclalkfhoooaa
open Go.RowKit
def rC (V:PV)(p:IProg):List Value:=[V.fv,V.av,.int .i64 p.entry,.int .i64 p.handler,V.dv,V.bv]
def opV (o:IOp)(av:Value):Value:=.agg #[.int .i64 o.code,.int .i64 o.res,.int .i64 o.a,.int .i64 o.b,.int .u16 (o.n:Int),av]
def qN (o:IOp):Prop:=I64 o.code/\I64 o.res/\I64 o.a/\I64 o.b/\o.n<65536
def ym (w:World)(b:Bool)(e:Ending)(w':World):Prop:=e=.returned (.bool b)/\Below w.heap.size w w'
theorem zf {x y:Int}{q:Bool}(h:decide (x=y)=q):(x==y)=q:=by rw[<-h];exact Bool.eq_iff_iff.2 (by rw[beq_iff_eq,decide_eq_true_eq])
theorem uz {a b:Bool}(h:a=b):Ending.returned (.bool b)=.returned (.bool a):=by rw[h]
theorem jH:∀x1 x2 x3 x4 x5 x6:Bool,(x1=true)∨(x1=false/\x2=false)∨(x1=false/\x2=true/\x3=false)∨(x1=false/\x2=true/\x3=true/\x4=false)∨(x1=false/\x2=true/\x3=true/\x4=true/\x5=false)∨(x1=false/\x2=true/\x3=true/\x4=true/\x5=true/\x6=false)∨(x1=false/\x2=true/\x3=true/\x4=true/\x5=true/\x6=true)
 |true,_,_,_,_,_=>(.inl rfl)
 |false,false,_,_,_,_=>(.inr (.inl ⟨rfl,rfl⟩))
 |false,true,false,_,_,_=>(.inr (.inr (.inl ⟨rfl,rfl,rfl⟩)))
 |false,true,true,false,_,_=>(.inr (.inr (.inr (.inl ⟨rfl,rfl,rfl,rfl⟩))))
 |false,true,true,true,false,_=>(.inr (.inr (.inr (.inr (.inl ⟨rfl,rfl,rfl,rfl,rfl⟩)))))
 |false,true,true,true,true,false=>(.inr (.inr (.inr (.inr (.inr (.inl ⟨rfl,rfl,rfl,rfl,rfl,rfl⟩))))))
 |false,true,true,true,true,true=>(.inr (.inr (.inr (.inr (.inr (.inr ⟨rfl,rfl,rfl,rfl,rfl,rfl⟩))))))
theorem kY {w:World}{C:Nat}{pvs:List Value}{p:IProg}(o:IOp)(ho:qN o)(ar:Option Addr)(cap:Nat)(hcap:o.args.length<=cap/\cap<=9223372036854775807)(hs:zi o.code=⟨true,false,false,false,false⟩)(h26:o.code≠26)(h2:o.code≠2)(h24:o.code≠24)(h25:o.code≠25):
 Calls Try.prog 98 #[.pointer (some ⟨C,0,none⟩),opV o (.slice ar o.args.length cap)] w (ym w (opF p o)):=by
 unfold opV
 obtain⟨hc64,hr64,ha64,hb64,hn16⟩:=ho
 have hlen:o.args.length<=9223372036854775807:=by omega
 obtain⟨x1,h1⟩:∃q,decide (0<=o.res)=q:=⟨_,rfl⟩
 obtain⟨x2,h2r⟩:∃q,decide (-1<=o.res)=q:=⟨_,rfl⟩
 obtain⟨x3,h3⟩:∃q,decide (o.a=0)=q:=⟨_,rfl⟩
 obtain⟨x4,h4⟩:∃q,decide (o.b=0)=q:=⟨_,rfl⟩
 obtain⟨x5,h5⟩:∃q,decide (o.n=0)=q:=⟨_,rfl⟩
 obtain⟨x6,h6⟩:∃q,decide (o.args.length=0)=q:=⟨_,rfl⟩
 obtain⟨x7,h7⟩:∃q,decide (1<=o.n)=q:=⟨_,rfl⟩
 obtain⟨x8,h8⟩:∃q,decide (o.n<=255)=q:=⟨_,rfl⟩
 have e:opF p o=(decide (false=x1) && x2 && (false||x3) && (false||x4) && (false||x5) && x6 && true):=by
  unfold opF
  rw[if_neg h26,if_neg h2,hs,h1,h2r,h3,h4,h5,h6,decide_eq_true h24,decide_eq_true h25]
  rfl
 have t26:(o.code==26)=false:=by rw[beq_eq_false_iff_ne];exact h26
 have t2:(o.code==2)=false:=by rw[beq_eq_false_iff_ne];exact h2
 have t24:(o.code==24)=false:=by rw[beq_eq_false_iff_ne];exact h24
 have t25:(o.code==25)=false:=by rw[beq_eq_false_iff_ne];exact h25
 have t24':(o.code !=24)=true:=by rw[bne,t24];rfl
 have t25':(o.code !=25)=true:=by rw[bne,t25];rfl
 have hf:∀W,Calls Try.prog 105 #[.int .i64 o.code] W fun e w'=>e=.returned (.tuple #[.agg #[.bool false,.bool false,.bool false,.bool false],.bool true])/\Below W.heap.size W w':=fun W=>by have:=yu o.code W;rw[hs] at this;exact this
 clear hs h26 h2 h24 h25
 obtain⟨R,hR⟩:∃R,opF p o=R:=⟨_,rfl⟩
 rw[hR]
 rw[e] at hR
 have HR:=Lib.hid hR
 have HF:=Lib.hid hf
 have t3:=zf h3
 have t4:=zf h4
 have t5:((o.n:Int)==0)=x5:=zf (zZ h5 (by omega))
 have t6:((o.args.length:Int)==0)=x6:=zf (zZ h6 (by omega))
 have t7:decide ((1:Int)<=(o.n:Int))=x7:=zZ h7 (by omega)
 have t8:decide ((o.n:Int)<=255)=x8:=zZ h8 (by omega)
 clear e hR hf h3 h4 h5 h6
 have hcs:=jH x1 x2 x3 x4 x5 x6
 rcases hcs with rfl|⟨rfl,rfl⟩|⟨rfl,rfl,rfl⟩|⟨rfl,rfl,rfl,rfl⟩|⟨rfl,rfl,rfl,rfl,rfl⟩|⟨rfl,rfl,rfl,rfl,rfl,rfl⟩|⟨rfl,rfl,rfl,rfl,rfl,rfl⟩
 all_goals go_enter Try.func98,Try.ntmps98
 all_goals go_wp2_with (first|(go_at_call 105;refine(HF.out _).mono ?_;rintro e w1 ⟨rfl,hb1⟩;have hx1:=zH hb1 (zI rfl) (by simp);have u0:∀ob,(w1.alloc ob).cell? ⟨w.heap.size,0,none⟩=some (.int .i64 o.code):=fun ob=>zA (zB hx1) (by simp);have u1:∀ob,(w1.alloc ob).cell? ⟨w.heap.size,1,none⟩=some (.int .i64 o.res):=fun ob=>zA (zB hx1) (by simp);have u2:∀ob,(w1.alloc ob).cell? ⟨w.heap.size,2,none⟩=some (.int .i64 o.a):=fun ob=>zA (zB hx1) (by simp);have u3:∀ob,(w1.alloc ob).cell? ⟨w.heap.size,3,none⟩=some (.int .i64 o.b):=fun ob=>zA (zB hx1) (by simp);have u4:∀ob,(w1.alloc ob).cell? ⟨w.heap.size,4,none⟩=some (.int .u16 (o.n:Int)):=fun ob=>zA (zB hx1) (by simp);have u5:∀ob,(w1.alloc ob).cell? ⟨w.heap.size,5,none⟩=some (.slice ar o.args.length cap):=fun ob=>zA (zB hx1) (by simp);clear hx1;have HB1:=Lib.hid hb1;clear hb1)|go_in)
 all_goals go_ret
 all_goals exact⟨uz (HR.out.symm.trans rfl),(((Below.refl _ _).alloc (Nat.le_refl _) _).trans (HB1.out.mono (by simp))).alloc (by have h9:=HB1.out.size;simp at h9;omega) _⟩
theorem lX:∀x1 x2 x3 x4 x6:Bool,(x1=false)∨(x1=true/\x2=false)∨(x1=true/\x2=true/\x3=false)∨(x1=true/\x2=true/\x3=true/\x4=false)∨(x1=true/\x2=true/\x3=true/\x4=true/\x6=false)∨(x1=true/\x2=true/\x3=true/\x4=true/\x6=true)
 |false,_,_,_,_=>(.inl rfl)
 |true,false,_,_,_=>(.inr (.inl ⟨rfl,rfl⟩))
 |true,true,false,_,_=>(.inr (.inr (.inl ⟨rfl,rfl,rfl⟩)))
 |true,true,true,false,_=>(.inr (.inr (.inr (.inl ⟨rfl,rfl,rfl,rfl⟩))))
 |true,true,true,true,false=>(.inr (.inr (.inr (.inr (.inl ⟨rfl,rfl,rfl,rfl,rfl⟩)))))
 |true,true,true,true,true=>(.inr (.inr (.inr (.inr (.inr ⟨rfl,rfl,rfl,rfl,rfl⟩)))))
theorem kG {w:World}{C:Nat}{pvs:List Value}{p:IProg}(o:IOp)(ho:qN o)(ar:Option Addr)(cap:Nat)(hcap:o.args.length<=cap/\cap<=9223372036854775807)(hs:zi o.code=⟨true,true,false,false,true⟩)(h26:o.code≠26)(h2:o.code≠2)(h24:o.code≠24)(h25:o.code≠25):
 Calls Try.prog 98 #[.pointer (some ⟨C,0,none⟩),opV o (.slice ar o.args.length cap)] w (ym w (opF p o)):=by
 unfold opV
 obtain⟨hc64,hr64,ha64,hb64,hn16⟩:=ho
 have hlen:o.args.length<=9223372036854775807:=by omega
 obtain⟨x1,h1⟩:∃q,decide (0<=o.res)=q:=⟨_,rfl⟩
 obtain⟨x2,h2r⟩:∃q,decide (-1<=o.res)=q:=⟨_,rfl⟩
 obtain⟨x3,h3⟩:∃q,decide (o.a=0)=q:=⟨_,rfl⟩
 obtain⟨x4,h4⟩:∃q,decide (o.b=0)=q:=⟨_,rfl⟩
 obtain⟨x5,h5⟩:∃q,decide (o.n=0)=q:=⟨_,rfl⟩
 obtain⟨x6,h6⟩:∃q,decide (o.args.length=0)=q:=⟨_,rfl⟩
 obtain⟨x7,h7⟩:∃q,decide (1<=o.n)=q:=⟨_,rfl⟩
 obtain⟨x8,h8⟩:∃q,decide (o.n<=255)=q:=⟨_,rfl⟩
 have e:opF p o=(decide (true=x1) && x2 && (false||x3) && (false||x4) && (true||x5) && x6 && true):=by
  unfold opF
  rw[if_neg h26,if_neg h2,hs,h1,h2r,h3,h4,h5,h6,decide_eq_true h24,decide_eq_true h25]
  rfl
 have t26:(o.code==26)=false:=by rw[beq_eq_false_iff_ne];exact h26
 have t2:(o.code==2)=false:=by rw[beq_eq_false_iff_ne];exact h2
 have t24:(o.code==24)=false:=by rw[beq_eq_false_iff_ne];exact h24
 have t25:(o.code==25)=false:=by rw[beq_eq_false_iff_ne];exact h25
 have t24':(o.code !=24)=true:=by rw[bne,t24];rfl
 have t25':(o.code !=25)=true:=by rw[bne,t25];rfl
 have hf:∀W,Calls Try.prog 105 #[.int .i64 o.code] W fun e w'=>e=.returned (.tuple #[.agg #[.bool true,.bool false,.bool false,.bool true],.bool true])/\Below W.heap.size W w':=fun W=>by have:=yu o.code W;rw[hs] at this;exact this
 clear hs h26 h2 h24 h25
 obtain⟨R,hR⟩:∃R,opF p o=R:=⟨_,rfl⟩
 rw[hR]
 rw[e] at hR
 have HR:=Lib.hid hR
 have HF:=Lib.hid hf
 have t3:=zf h3
 have t4:=zf h4
 have t5:((o.n:Int)==0)=x5:=zf (zZ h5 (by omega))
 have t6:((o.args.length:Int)==0)=x6:=zf (zZ h6 (by omega))
 have t7:decide ((1:Int)<=(o.n:Int))=x7:=zZ h7 (by omega)
 have t8:decide ((o.n:Int)<=255)=x8:=zZ h8 (by omega)
 clear e hR hf h3 h4 h5 h6
 have hcs:=lX x1 x2 x3 x4 x6
 rcases hcs with rfl|⟨rfl,rfl⟩|⟨rfl,rfl,rfl⟩|⟨rfl,rfl,rfl,rfl⟩|⟨rfl,rfl,rfl,rfl,rfl⟩|⟨rfl,rfl,rfl,rfl,rfl⟩
 all_goals go_enter Try.func98,Try.ntmps98
 all_goals go_wp2_with (first|(go_at_call 105;refine(HF.out _).mono ?_;rintro e w1 ⟨rfl,hb1⟩;have hx1:=zH hb1 (zI rfl) (by simp);have u0:∀ob,(w1.alloc ob).cell? ⟨w.heap.size,0,none⟩=some (.int .i64 o.code):=fun ob=>zA (zB hx1) (by simp);have u1:∀ob,(w1.alloc ob).cell? ⟨w.heap.size,1,none⟩=some (.int .i64 o.res):=fun ob=>zA (zB hx1) (by simp);have u2:∀ob,(w1.alloc ob).cell? ⟨w.heap.size,2,none⟩=some (.int .i64 o.a):=fun ob=>zA (zB hx1) (by simp);have u3:∀ob,(w1.alloc ob).cell? ⟨w.heap.size,3,none⟩=some (.int .i64 o.b):=fun ob=>zA (zB hx1) (by simp);have u4:∀ob,(w1.alloc ob).cell? ⟨w.heap.size,4,none⟩=some (.int .u16 (o.n:Int)):=fun ob=>zA (zB hx1) (by simp);have u5:∀ob,(w1.alloc ob).cell? ⟨w.heap.size,5,none⟩=some (.slice ar o.args.length cap):=fun ob=>zA (zB hx1) (by simp);clear hx1;have HB1:=Lib.hid hb1;clear hb1)|go_in)
 all_goals go_ret
 all_goals exact⟨uz (HR.out.symm.trans rfl),(((Below.refl _ _).alloc (Nat.le_refl _) _).trans (HB1.out.mono (by simp))).alloc (by have h9:=HB1.out.size;simp at h9;omega) _⟩
theorem case_una:∀x1 x2 x4 x5 x6:Bool,(x1=false)∨(x1=true/\x2=false)∨(x1=true/\x2=true/\x4=false)∨(x1=true/\x2=true/\x4=true/\x5=false)∨(x1=true/\x2=true/\x4=true/\x5=true/\x6=false)∨(x1=true/\x2=true/\x4=true/\x5=true/\x6=true)
 |false,_,_,_,_=>(.inl rfl)
 |true,false,_,_,_=>(.inr (.inl ⟨rfl,rfl⟩))
 |true,true,false,_,_=>(.inr (.inr (.inl ⟨rfl,rfl,rfl⟩)))
 |true,true,true,false,_=>(.inr (.inr (.inr (.inl ⟨rfl,rfl,rfl,rfl⟩))))
 |true,true,true,true,false=>(.inr (.inr (.inr (.inr (.inl ⟨rfl,rfl,rfl,rfl,rfl⟩)))))
 |true,true,true,true,true=>(.inr (.inr (.inr (.inr (.inr ⟨rfl,rfl,rfl,rfl,rfl⟩)))))
theorem oper_una {w:World}{C:Nat}{pvs:List Value}{p:IProg}(o:IOp)(ho:qN o)(ar:Option Addr)(cap:Nat)(hcap:o.args.length<=cap/\cap<=9223372036854775807)(hs:zi o.code=⟨true,true,true,false,false⟩)(h26:o.code≠26)(h2:o.code≠2)(h24:o.code≠24)(h25:o.code≠25):
 Calls Try.prog 98 #[.pointer (some ⟨C,0,none⟩),opV o (.slice ar o.args.length cap)] w (ym w (opF p o)):=by
 unfold opV
 obtain⟨hc64,hr64,ha64,hb64,hn16⟩:=ho
 have hlen:o.args.length<=9223372036854775807:=by omega
 obtain⟨x1,h1⟩:∃q,decide (0<=o.res)=q:=⟨_,rfl⟩
 obtain⟨x2,h2r⟩:∃q,decide (-1<=o.res)=q:=⟨_,rfl⟩
 obtain⟨x3,h3⟩:∃q,decide (o.a=0)=q:=⟨_,rfl⟩
 obtain⟨x4,h4⟩:∃q,decide (o.b=0)=q:=⟨_,rfl⟩
 obtain⟨x5,h5⟩:∃q,decide (o.n=0)=q:=⟨_,rfl⟩
 obtain⟨x6,h6⟩:∃q,decide (o.args.length=0)=q:=⟨_,rfl⟩
 obtain⟨x7,h7⟩:∃q,decide (1<=o.n)=q:=⟨_,rfl⟩
 obtain⟨x8,h8⟩:∃q,decide (o.n<=255)=q:=⟨_,rfl⟩
 have e:opF p o=(decide (true=x1) && x2 && (true||x3) && (false||x4) && (false||x5) && x6 && true):=by
  unfold opF
  rw[if_neg h26,if_neg h2,hs,h1,h2r,h3,h4,h5,h6,decide_eq_true h24,decide_eq_true h25]
  rfl
 have t26:(o.code==26)=false:=by rw[beq_eq_false_iff_ne];exact h26
 have t2:(o.code==2)=false:=by rw[beq_eq_false_iff_ne];exact h2
 have t24:(o.code==24)=false:=by rw[beq_eq_false_iff_ne];exact h24
 have t25:(o.code==25)=false:=by rw[beq_eq_false_iff_ne];exact h25
 have t24':(o.code !=24)=true:=by rw[bne,t24];rfl
 have t25':(o.code !=25)=true:=by rw[bne,t25];rfl
 have hf:∀W,Calls Try.prog 105 #[.int .i64 o.code] W fun e w'=>e=.returned (.tuple #[.agg #[.bool true,.bool true,.bool false,.bool false],.bool true])/\Below W.heap.size W w':=fun W=>by have:=yu o.code W;rw[hs] at this;exact this
 clear hs h26 h2 h24 h25
 obtain⟨R,hR⟩:∃R,opF p o=R:=⟨_,rfl⟩
 rw[hR]
 rw[e] at hR
 have HR:=Lib.hid hR
 have HF:=Lib.hid hf
 have t3:=zf h3
 have t4:=zf h4
 have t5:((o.n:Int)==0)=x5:=zf (zZ h5 (by omega))
 have t6:((o.args.length:Int)==0)=x6:=zf (zZ h6 (by omega))
 have t7:decide ((1:Int)<=(o.n:Int))=x7:=zZ h7 (by omega)
 have t8:decide ((o.n:Int)<=255)=x8:=zZ h8 (by omega)
 clear e hR hf h3 h4 h5 h6
 have hcs:=case_una x1 x2 x4 x5 x6
 rcases hcs with rfl|⟨rfl,rfl⟩|⟨rfl,rfl,rfl⟩|⟨rfl,rfl,rfl,rfl⟩|⟨rfl,rfl,rfl,rfl,rfl⟩|⟨rfl,rfl,rfl,rfl,rfl⟩
 all_goals go_enter Try.func98,Try.ntmps98
 all_goals go_wp2_with (first|(go_at_call 105;refine(HF.out _).mono ?_;rintro e w1 ⟨rfl,hb1⟩;have hx1:=zH hb1 (zI rfl) (by simp);have u0:∀ob,(w1.alloc ob).cell? ⟨w.heap.size,0,none⟩=some (.int .i64 o.code):=fun ob=>zA (zB hx1) (by simp);have u1:∀ob,(w1.alloc ob).cell? ⟨w.heap.size,1,none⟩=some (.int .i64 o.res):=fun ob=>zA (zB hx1) (by simp);have u2:∀ob,(w1.alloc ob).cell? ⟨w.heap.size,2,none⟩=some (.int .i64 o.a):=fun ob=>zA (zB hx1) (by simp);have u3:∀ob,(w1.alloc ob).cell? ⟨w.heap.size,3,none⟩=some (.int .i64 o.b):=fun ob=>zA (zB hx1) (by simp);have u4:∀ob,(w1.alloc ob).cell? ⟨w.heap.size,4,none⟩=some (.int .u16 (o.n:Int)):=fun ob=>zA (zB hx1) (by simp);have u5:∀ob,(w1.alloc ob).cell? ⟨w.heap.size,5,none⟩=some (.slice ar o.args.length cap):=fun ob=>zA (zB hx1) (by simp);clear hx1;have HB1:=Lib.hid hb1;clear hb1)|go_in)
 all_goals go_ret
 all_goals exact⟨uz (HR.out.symm.trans rfl),(((Below.refl _ _).alloc (Nat.le_refl _) _).trans (HB1.out.mono (by simp))).alloc (by have h9:=HB1.out.size;simp at h9;omega) _⟩
theorem case_bin:∀x1 x2 x5 x6:Bool,(x1=false)∨(x1=true/\x2=false)∨(x1=true/\x2=true/\x5=false)∨(x1=true/\x2=true/\x5=true/\x6=false)∨(x1=true/\x2=true/\x5=true/\x6=true)
 |false,_,_,_=>(.inl rfl)
 |true,false,_,_=>(.inr (.inl ⟨rfl,rfl⟩))
 |true,true,false,_=>(.inr (.inr (.inl ⟨rfl,rfl,rfl⟩)))
 |true,true,true,false=>(.inr (.inr (.inr (.inl ⟨rfl,rfl,rfl,rfl⟩))))
 |true,true,true,true=>(.inr (.inr (.inr (.inr ⟨rfl,rfl,rfl,rfl⟩))))
theorem oper_bin {w:World}{C:Nat}{pvs:List Value}{p:IProg}(o:IOp)(ho:qN o)(ar:Option Addr)(cap:Nat)(hcap:o.args.length<=cap/\cap<=9223372036854775807)(hs:zi o.code=⟨true,true,true,true,false⟩)(h26:o.code≠26)(h2:o.code≠2)(h24:o.code≠24)(h25:o.code≠25):
 Calls Try.prog 98 #[.pointer (some ⟨C,0,none⟩),opV o (.slice ar o.args.length cap)] w (ym w (opF p o)):=by
 unfold opV
 obtain⟨hc64,hr64,ha64,hb64,hn16⟩:=ho
 have hlen:o.args.length<=9223372036854775807:=by omega
 obtain⟨x1,h1⟩:∃q,decide (0<=o.res)=q:=⟨_,rfl⟩
 obtain⟨x2,h2r⟩:∃q,decide (-1<=o.res)=q:=⟨_,rfl⟩
 obtain⟨x3,h3⟩:∃q,decide (o.a=0)=q:=⟨_,rfl⟩
 obtain⟨x4,h4⟩:∃q,decide (o.b=0)=q:=⟨_,rfl⟩
 obtain⟨x5,h5⟩:∃q,decide (o.n=0)=q:=⟨_,rfl⟩
 obtain⟨x6,h6⟩:∃q,decide (o.args.length=0)=q:=⟨_,rfl⟩
 obtain⟨x7,h7⟩:∃q,decide (1<=o.n)=q:=⟨_,rfl⟩
 obtain⟨x8,h8⟩:∃q,decide (o.n<=255)=q:=⟨_,rfl⟩
 have e:opF p o=(decide (true=x1) && x2 && (true||x3) && (true||x4) && (false||x5) && x6 && true):=by
  unfold opF
  rw[if_neg h26,if_neg h2,hs,h1,h2r,h3,h4,h5,h6,decide_eq_true h24,decide_eq_true h25]
  rfl
 have t26:(o.code==26)=false:=by rw[beq_eq_false_iff_ne];exact h26
 have t2:(o.code==2)=false:=by rw[beq_eq_false_iff_ne];exact h2
 have t24:(o.code==24)=false:=by rw[beq_eq_false_iff_ne];exact h24
 have t25:(o.code==25)=false:=by rw[beq_eq_false_iff_ne];exact h25
 have t24':(o.code !=24)=true:=by rw[bne,t24];rfl
 have t25':(o.code !=25)=true:=by rw[bne,t25];rfl
 have hf:∀W,Calls Try.prog 105 #[.int .i64 o.code] W fun e w'=>e=.returned (.tuple #[.agg #[.bool true,.bool true,.bool true,.bool false],.bool true])/\Below W.heap.size W w':=fun W=>by have:=yu o.code W;rw[hs] at this;exact this
 clear hs h26 h2 h24 h25
 obtain⟨R,hR⟩:∃R,opF p o=R:=⟨_,rfl⟩
 rw[hR]
 rw[e] at hR
 have HR:=Lib.hid hR
 have HF:=Lib.hid hf
 have t3:=zf h3
 have t4:=zf h4
 have t5:((o.n:Int)==0)=x5:=zf (zZ h5 (by omega))
 have t6:((o.args.length:Int)==0)=x6:=zf (zZ h6 (by omega))
 have t7:decide ((1:Int)<=(o.n:Int))=x7:=zZ h7 (by omega)
 have t8:decide ((o.n:Int)<=255)=x8:=zZ h8 (by omega)
 clear e hR hf h3 h4 h5 h6
 have hcs:=case_bin x1 x2 x5 x6
 rcases hcs with rfl|⟨rfl,rfl⟩|⟨rfl,rfl,rfl⟩|⟨rfl,rfl,rfl,rfl⟩|⟨rfl,rfl,rfl,rfl⟩
 all_goals go_enter Try.func98,Try.ntmps98
 all_goals go_wp2_with (first|(go_at_call 105;refine(HF.out _).mono ?_;rintro e w1 ⟨rfl,hb1⟩;have hx1:=zH hb1 (zI rfl) (by simp);have u0:∀ob,(w1.alloc ob).cell? ⟨w.heap.size,0,none⟩=some (.int .i64 o.code):=fun ob=>zA (zB hx1) (by simp);have u1:∀ob,(w1.alloc ob).cell? ⟨w.heap.size,1,none⟩=some (.int .i64 o.res):=fun ob=>zA (zB hx1) (by simp);have u2:∀ob,(w1.alloc ob).cell? ⟨w.heap.size,2,none⟩=some (.int .i64 o.a):=fun ob=>zA (zB hx1) (by simp);have u3:∀ob,(w1.alloc ob).cell? ⟨w.heap.size,3,none⟩=some (.int .i64 o.b):=fun ob=>zA (zB hx1) (by simp);have u4:∀ob,(w1.alloc ob).cell? ⟨w.heap.size,4,none⟩=some (.int .u16 (o.n:Int)):=fun ob=>zA (zB hx1) (by simp);have u5:∀ob,(w1.alloc ob).cell? ⟨w.heap.size,5,none⟩=some (.slice ar o.args.length cap):=fun ob=>zA (zB hx1) (by simp);clear hx1;have HB1:=Lib.hid hb1;clear hb1)|go_in)
 all_goals go_ret
 all_goals exact⟨uz (HR.out.symm.trans rfl),(((Below.refl _ _).alloc (Nat.le_refl _) _).trans (HB1.out.mono (by simp))).alloc (by have h9:=HB1.out.size;simp at h9;omega) _⟩
theorem case_sto:∀x1 x2 x5 x6:Bool,(x1=true)∨(x1=false/\x2=false)∨(x1=false/\x2=true/\x5=false)∨(x1=false/\x2=true/\x5=true/\x6=false)∨(x1=false/\x2=true/\x5=true/\x6=true)
 |true,_,_,_=>(.inl rfl)
 |false,false,_,_=>(.inr (.inl ⟨rfl,rfl⟩))
 |false,true,false,_=>(.inr (.inr (.inl ⟨rfl,rfl,rfl⟩)))
 |false,true,true,false=>(.inr (.inr (.inr (.inl ⟨rfl,rfl,rfl,rfl⟩))))
 |false,true,true,true=>(.inr (.inr (.inr (.inr ⟨rfl,rfl,rfl,rfl⟩))))
theorem oper_sto {w:World}{C:Nat}{pvs:List Value}{p:IProg}(o:IOp)(ho:qN o)(ar:Option Addr)(cap:Nat)(hcap:o.args.length<=cap/\cap<=9223372036854775807)(hs:zi o.code=⟨true,false,true,true,false⟩)(h26:o.code≠26)(h2:o.code≠2)(h24:o.code≠24)(h25:o.code≠25):
 Calls Try.prog 98 #[.pointer (some ⟨C,0,none⟩),opV o (.slice ar o.args.length cap)] w (ym w (opF p o)):=by
 unfold opV
 obtain⟨hc64,hr64,ha64,hb64,hn16⟩:=ho
 have hlen:o.args.length<=9223372036854775807:=by omega
 obtain⟨x1,h1⟩:∃q,decide (0<=o.res)=q:=⟨_,rfl⟩
 obtain⟨x2,h2r⟩:∃q,decide (-1<=o.res)=q:=⟨_,rfl⟩
 obtain⟨x3,h3⟩:∃q,decide (o.a=0)=q:=⟨_,rfl⟩
 obtain⟨x4,h4⟩:∃q,decide (o.b=0)=q:=⟨_,rfl⟩
 obtain⟨x5,h5⟩:∃q,decide (o.n=0)=q:=⟨_,rfl⟩
 obtain⟨x6,h6⟩:∃q,decide (o.args.length=0)=q:=⟨_,rfl⟩
 obtain⟨x7,h7⟩:∃q,decide (1<=o.n)=q:=⟨_,rfl⟩
 obtain⟨x8,h8⟩:∃q,decide (o.n<=255)=q:=⟨_,rfl⟩
 have e:opF p o=(decide (false=x1) && x2 && (true||x3) && (true||x4) && (false||x5) && x6 && true):=by
  unfold opF
  rw[if_neg h26,if_neg h2,hs,h1,h2r,h3,h4,h5,h6,decide_eq_true h24,decide_eq_true h25]
  rfl
 have t26:(o.code==26)=false:=by rw[beq_eq_false_iff_ne];exact h26
 have t2:(o.code==2)=false:=by rw[beq_eq_false_iff_ne];exact h2
 have t24:(o.code==24)=false:=by rw[beq_eq_false_iff_ne];exact h24
 have t25:(o.code==25)=false:=by rw[beq_eq_false_iff_ne];exact h25
 have t24':(o.code !=24)=true:=by rw[bne,t24];rfl
 have t25':(o.code !=25)=true:=by rw[bne,t25];rfl
 have hf:∀W,Calls Try.prog 105 #[.int .i64 o.code] W fun e w'=>e=.returned (.tuple #[.agg #[.bool false,.bool true,.bool true,.bool false],.bool true])/\Below W.heap.size W w':=fun W=>by have:=yu o.code W;rw[hs] at this;exact this
 clear hs h26 h2 h24 h25
 obtain⟨R,hR⟩:∃R,opF p o=R:=⟨_,rfl⟩
 rw[hR]
 rw[e] at hR
 have HR:=Lib.hid hR
 have HF:=Lib.hid hf
 have t3:=zf h3
 have t4:=zf h4
 have t5:((o.n:Int)==0)=x5:=zf (zZ h5 (by omega))
 have t6:((o.args.length:Int)==0)=x6:=zf (zZ h6 (by omega))
 have t7:decide ((1:Int)<=(o.n:Int))=x7:=zZ h7 (by omega)
 have t8:decide ((o.n:Int)<=255)=x8:=zZ h8 (by omega)
 clear e hR hf h3 h4 h5 h6
 have hcs:=case_sto x1 x2 x5 x6
 rcases hcs with rfl|⟨rfl,rfl⟩|⟨rfl,rfl,rfl⟩|⟨rfl,rfl,rfl,rfl⟩|⟨rfl,rfl,rfl,rfl⟩
 all_goals go_enter Try.func98,Try.ntmps98
 all_goals go_wp2_with (first|(go_at_call 105;refine(HF.out _).mono ?_;rintro e w1 ⟨rfl,hb1⟩;have hx1:=zH hb1 (zI rfl) (by simp);have u0:∀ob,(w1.alloc ob).cell? ⟨w.heap.size,0,none⟩=some (.int .i64 o.code):=fun ob=>zA (zB hx1) (by simp);have u1:∀ob,(w1.alloc ob).cell? ⟨w.heap.size,1,none⟩=some (.int .i64 o.res):=fun ob=>zA (zB hx1) (by simp);have u2:∀ob,(w1.alloc ob).cell? ⟨w.heap.size,2,none⟩=some (.int .i64 o.a):=fun ob=>zA (zB hx1) (by simp);have u3:∀ob,(w1.alloc ob).cell? ⟨w.heap.size,3,none⟩=some (.int .i64 o.b):=fun ob=>zA (zB hx1) (by simp);have u4:∀ob,(w1.alloc ob).cell? ⟨w.heap.size,4,none⟩=some (.int .u16 (o.n:Int)):=fun ob=>zA (zB hx1) (by simp);have u5:∀ob,(w1.alloc ob).cell? ⟨w.heap.size,5,none⟩=some (.slice ar o.args.length cap):=fun ob=>zA (zB hx1) (by simp);clear hx1;have HB1:=Lib.hid hb1;clear hb1)|go_in)
 all_goals go_ret
 all_goals exact⟨uz (HR.out.symm.trans rfl),(((Below.refl _ _).alloc (Nat.le_refl _) _).trans (HB1.out.mono (by simp))).alloc (by have h9:=HB1.out.size;simp at h9;omega) _⟩
end Go.Proofs.Ytojclalkfhoooaa
