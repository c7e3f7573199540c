/- Part of a proof. -/
import Derived.Test.YtojclalkfhoooaaIOper
set_option linter.unusedSimpArgs false
set_option linter.unusedVariables false
set_option maxHeartbeats 4000000
set_option maxRecDepth 100000
namespace Go.Proofs.Ytojclalkfhoooaa
open Go.RowKit
theorem lP:∀x2 x4 x5 x7:Bool,(x7=false)∨(x2=false/\x7=true)∨(x2=true/\x4=false/\x7=true)∨(x2=true/\x4=true/\x5=false/\x7=true)∨(x2=true/\x4=true/\x5=true/\x7=true)
 |_,_,_,false=>(.inl rfl)
 |false,_,_,true=>(.inr (.inl ⟨rfl,rfl⟩))
 |true,false,_,true=>(.inr (.inr (.inl ⟨rfl,rfl,rfl⟩)))
 |true,true,false,true=>(.inr (.inr (.inr (.inl ⟨rfl,rfl,rfl,rfl⟩))))
 |true,true,true,true=>(.inr (.inr (.inr (.inr ⟨rfl,rfl,rfl,rfl⟩))))
theorem jZ:∀x1 x4 x6:Bool,(x1=false)∨(x1=true/\x4=false)∨(x1=true/\x4=true/\x6=false)∨(x1=true/\x4=true/\x6=true)
 |false,_,_=>(.inl rfl)
 |true,false,_=>(.inr (.inl ⟨rfl,rfl⟩))
 |true,true,false=>(.inr (.inr (.inl ⟨rfl,rfl,rfl⟩)))
 |true,true,true=>(.inr (.inr (.inr ⟨rfl,rfl,rfl⟩)))
theorem kM {w:World}{B C:Nat}{V:PV}{tl:List Value}{p:IProg}(hp:ProgIn w B V p)(hB:B<=w.heap.size)(hC:w.heap[C]? =some (.cells (rC V p++tl).toArray 128 (0,0)))(hl:p.args.length=p.funcs.length)(o:IOp)(ho:qN o)(ar:Option Addr)(cap:Nat)(hcap:o.args.length<=cap/\cap<=9223372036854775807)(hcode:o.code=26):
 Calls Try.prog 98 #[.pointer (some ⟨C,0,none⟩),opV o (.slice ar o.args.length cap)] w (ym w (opF p o)):=by
 unfold opV
 obtain⟨_,hr64,ha64,hb64,hn16⟩:=ho
 have hlen:o.args.length<=9223372036854775807:=by omega
 obtain⟨Vf,Va,Vd,Vb⟩:=V
 obtain⟨f1,f2,e1,hfc,hfm⟩:=hp.funcs.form
 have hpa:=hp.args
 obtain⟨a1,a2,e2,hac,ham⟩:=hp.args.form
 obtain⟨d1,d2,e3,hdc,hdm⟩:=hp.data.form
 simp only at e1 e2 e3 hpa
 subst e1 e2 e3
 have hfl:p.funcs.length<=9223372036854775807:=by omega
 have hdl:p.data.length<=9223372036854775807:=by omega
 clear hp hfc hfm hac ham hdc hdm
 have hCs:=lt_of_block hC
 have hf:∀W,Calls Try.prog 105 #[.int .i64 26] W fun e w'=>e=.returned (.tuple #[.agg #[.bool false,.bool false,.bool false,.bool false],.bool true])/\Below W.heap.size W w':=fun W=>yu 26 W
 obtain⟨x0,h0⟩:∃q,decide (0<=o.a)=q:=⟨_,rfl⟩
 obtain⟨x1,h1⟩:∃q,decide (0<=o.res)=q:=⟨_,rfl⟩
 obtain⟨x2,h2⟩:∃q,decide (-1<=o.res)=q:=⟨_,rfl⟩
 obtain⟨x3,h3⟩:∃q,decide (o.a<(p.funcs.length:Int))=q:=⟨_,rfl⟩
 obtain⟨x4,h4⟩:∃q,decide (o.b=0)=q:=⟨_,rfl⟩
 obtain⟨x5,h5⟩:∃q,decide (o.n=0)=q:=⟨_,rfl⟩
 obtain⟨x6,h6⟩:∃q,decide (o.args.length=0)=q:=⟨_,rfl⟩
 obtain⟨x7,h7⟩:∃q,decide ((o.args.length:Int)=p.args.getD o.a.toNat 0)=q:=⟨_,rfl⟩
 have e:opF p o=(x0 && x3 && x7 && x2 && x4 && x5):=by
  unfold opF
  rw[hcode]
  rw[h0,h3,h7,h2,h4,h5]
  rfl
 rw[hcode]
 obtain⟨R,hR⟩:∃R,opF p o=R:=⟨_,rfl⟩
 rw[hR]
 rw[e] at hR
 have HR:=Lib.hid hR
 have HF:=Lib.hid hf
 have HC:=Lib.hid hC
 have t4:=zf h4
 have t5:((o.n:Int)==0)=x5:=zf (zZ h5 (by omega))
 have t6:((o.args.length:Int)==0)=x6:=zf (zZ h6 (by omega))
 clear e hR hf h4 h5 h6 hC
 cases x0 with
 |false=>
  skip
  all_goals go_enter Try.func98,Try.ntmps98
  all_goals go_wp2_with (first|(go_at_call 105;go_must (refine(HF.out _).mono ?_;rintro e w1 ⟨rfl,hb1⟩;have hx1:=zH hb1 (zI rfl) (by simp);have u0:∀ob,(w1.alloc ob).cell? ⟨w.heap.size,0,none⟩=some (.int .i64 26):=fun ob=>zA (zB hx1) (by simp);have u1:∀ob,(w1.alloc ob).cell? ⟨w.heap.size,1,none⟩=some (.int .i64 o.res):=fun ob=>zA (zB hx1) (by simp);have u2:∀ob,(w1.alloc ob).cell? ⟨w.heap.size,2,none⟩=some (.int .i64 o.a):=fun ob=>zA (zB hx1) (by simp);have u3:∀ob,(w1.alloc ob).cell? ⟨w.heap.size,3,none⟩=some (.int .i64 o.b):=fun ob=>zA (zB hx1) (by simp);have u4:∀ob,(w1.alloc ob).cell? ⟨w.heap.size,4,none⟩=some (.int .u16 (o.n:Int)):=fun ob=>zA (zB hx1) (by simp);have u5:∀ob,(w1.alloc ob).cell? ⟨w.heap.size,5,none⟩=some (.slice ar o.args.length cap):=fun ob=>zA (zB hx1) (by simp);have hc1:=zH hb1 (zB HC.out) (by simp;omega);have v0:∀ob,(w1.alloc ob).cell? ⟨C,0,none⟩=some (.slice f1 p.funcs.length f2):=fun ob=>zA (zB hc1) rfl;have v1:∀ob,(w1.alloc ob).cell? ⟨C,1,none⟩=some (.slice a1 p.args.length a2):=fun ob=>zA (zB hc1) rfl;have v4:∀ob,(w1.alloc ob).cell? ⟨C,4,none⟩=some (.slice d1 p.data.length d2):=fun ob=>zA (zB hc1) rfl;clear hx1 hc1;have HB1:=Lib.hid hb1;clear hb1))|go_in)
  all_goals go_quiet (fail)
  all_goals go_wp2
  all_goals go_ret
  all_goals exact⟨uz (HR.out.symm.trans rfl),yC ((((Below.refl _ _).alloc (Nat.le_refl _) _).trans (HB1.out.mono (by simp))).alloc (by have h9:=HB1.out.size;simp at h9;omega) _)⟩
 |true=>
  obtain⟨k,hk⟩:∃k:Nat,o.a=(k:Int):=⟨o.a.toNat,by have:=of_decide_eq_true h0;omega⟩
  rw[hk] at h3 h7 ⊢
  have t0:decide ((0:Int)<=(k:Int))=true:=decide_eq_true (by omega)
  have t3:decide (k<p.funcs.length)=x3:=zZ h3 (by omega)
  cases x3 with
  |false=>
   clear h7
   all_goals go_enter Try.func98,Try.ntmps98
   all_goals go_wp2_with (first|(go_at_call 105;go_must (refine(HF.out _).mono ?_;rintro e w1 ⟨rfl,hb1⟩;have hx1:=zH hb1 (zI rfl) (by simp);have u0:∀ob,(w1.alloc ob).cell? ⟨w.heap.size,0,none⟩=some (.int .i64 26):=fun ob=>zA (zB hx1) (by simp);have u1:∀ob,(w1.alloc ob).cell? ⟨w.heap.size,1,none⟩=some (.int .i64 o.res):=fun ob=>zA (zB hx1) (by simp);have u2:∀ob,(w1.alloc ob).cell? ⟨w.heap.size,2,none⟩=some (.int .i64 (k:Int)):=fun ob=>zA (zB hx1) (by simp);have u3:∀ob,(w1.alloc ob).cell? ⟨w.heap.size,3,none⟩=some (.int .i64 o.b):=fun ob=>zA (zB hx1) (by simp);have u4:∀ob,(w1.alloc ob).cell? ⟨w.heap.size,4,none⟩=some (.int .u16 (o.n:Int)):=fun ob=>zA (zB hx1) (by simp);have u5:∀ob,(w1.alloc ob).cell? ⟨w.heap.size,5,none⟩=some (.slice ar o.args.length cap):=fun ob=>zA (zB hx1) (by simp);have hc1:=zH hb1 (zB HC.out) (by simp;omega);have v0:∀ob,(w1.alloc ob).cell? ⟨C,0,none⟩=some (.slice f1 p.funcs.length f2):=fun ob=>zA (zB hc1) rfl;have v1:∀ob,(w1.alloc ob).cell? ⟨C,1,none⟩=some (.slice a1 p.args.length a2):=fun ob=>zA (zB hc1) rfl;have v4:∀ob,(w1.alloc ob).cell? ⟨C,4,none⟩=some (.slice d1 p.data.length d2):=fun ob=>zA (zB hc1) rfl;clear hx1 hc1;have HB1:=Lib.hid hb1;clear hb1))|go_in)
   all_goals go_quiet (fail)
   all_goals go_wp2
   all_goals go_ret
   all_goals exact⟨uz (HR.out.symm.trans rfl),yC ((((Below.refl _ _).alloc (Nat.le_refl _) _).trans (HB1.out.mono (by simp))).alloc (by have h9:=HB1.out.size;simp at h9;omega) _)⟩
  |true=>
   have hkl:k<p.funcs.length:=of_decide_eq_true t3
   obtain⟨x,hx⟩:∃x,p.args[k]? =some x:=⟨_,List.getElem?_eq_getElem (by omega)⟩
   obtain⟨ba,oa,rfl,hba,hca,_⟩:=hpa.get hx
   rw[Nat.mul_one] at hca
   rw[Int.toNat_natCast,List.getD_eq_getElem?_getD,hx,Option.getD_some] at h7
   have t7:=zf h7
   have hkI:(k:Int)<p.args.length:=by omega
   have HCA:=Lib.hid (And.intro (Nat.lt_of_lt_of_le hba hB) hca)
   clear h7 hx hca hba hpa hkl
   have hcs:=lP x2 x4 x5 x7
   rcases hcs with rfl|⟨rfl,rfl⟩|⟨rfl,rfl,rfl⟩|⟨rfl,rfl,rfl,rfl⟩|⟨rfl,rfl,rfl,rfl⟩
   all_goals go_enter Try.func98,Try.ntmps98
   all_goals go_wp2_with (first|(go_at_call 105;go_must (refine(HF.out _).mono ?_;rintro e w1 ⟨rfl,hb1⟩;have hx1:=zH hb1 (zI rfl) (by simp);have u0:∀ob,(w1.alloc ob).cell? ⟨w.heap.size,0,none⟩=some (.int .i64 26):=fun ob=>zA (zB hx1) (by simp);have u1:∀ob,(w1.alloc ob).cell? ⟨w.heap.size,1,none⟩=some (.int .i64 o.res):=fun ob=>zA (zB hx1) (by simp);have u2:∀ob,(w1.alloc ob).cell? ⟨w.heap.size,2,none⟩=some (.int .i64 (k:Int)):=fun ob=>zA (zB hx1) (by simp);have u3:∀ob,(w1.alloc ob).cell? ⟨w.heap.size,3,none⟩=some (.int .i64 o.b):=fun ob=>zA (zB hx1) (by simp);have u4:∀ob,(w1.alloc ob).cell? ⟨w.heap.size,4,none⟩=some (.int .u16 (o.n:Int)):=fun ob=>zA (zB hx1) (by simp);have u5:∀ob,(w1.alloc ob).cell? ⟨w.heap.size,5,none⟩=some (.slice ar o.args.length cap):=fun ob=>zA (zB hx1) (by simp);have hc1:=zH hb1 (zB HC.out) (by simp;omega);have v0:∀ob,(w1.alloc ob).cell? ⟨C,0,none⟩=some (.slice f1 p.funcs.length f2):=fun ob=>zA (zB hc1) rfl;have v1:∀ob,(w1.alloc ob).cell? ⟨C,1,none⟩=some (.slice (some ⟨ba,oa,none⟩) p.args.length a2):=fun ob=>zA (zB hc1) rfl;have v4:∀ob,(w1.alloc ob).cell? ⟨C,4,none⟩=some (.slice d1 p.data.length d2):=fun ob=>zA (zB hc1) rfl;have hcb:=((Below.refl w.heap.size w).alloc (Nat.le_refl _) _).trans (hb1.mono (by simp));have v9:∀ob,(w1.alloc ob).cell? ⟨ba,oa+k,none⟩=some (.int .i64 x):=fun ob=>zV (hcb.alloc hcb.size ob) HCA.out.1 HCA.out.2;clear hcb;clear hx1 hc1;have HB1:=Lib.hid hb1;clear hb1))|go_in)
   all_goals go_quiet (fail)
   all_goals go_wp2
   all_goals go_ret
   all_goals exact⟨uz (HR.out.symm.trans rfl),yC ((((Below.refl _ _).alloc (Nat.le_refl _) _).trans (HB1.out.mono (by simp))).alloc (by have h9:=HB1.out.size;simp at h9;omega) _)⟩
theorem jo {w:World}{B C:Nat}{V:PV}{tl:List Value}{p:IProg}(hp:ProgIn w B V p)(hB:B<=w.heap.size)(hC:w.heap[C]? =some (.cells (rC V p++tl).toArray 128 (0,0)))(hl:p.args.length=p.funcs.length)(o:IOp)(ho:qN o)(ar:Option Addr)(cap:Nat)(hcap:o.args.length<=cap/\cap<=9223372036854775807)(hcode:o.code=2):
 Calls Try.prog 98 #[.pointer (some ⟨C,0,none⟩),opV o (.slice ar o.args.length cap)] w (ym w (opF p o)):=by
 unfold opV
 obtain⟨_,hr64,ha64,hb64,hn16⟩:=ho
 have hlen:o.args.length<=9223372036854775807:=by omega
 obtain⟨Vf,Va,Vd,Vb⟩:=V
 obtain⟨f1,f2,e1,hfc,hfm⟩:=hp.funcs.form
 have hpa:=hp.args
 obtain⟨a1,a2,e2,hac,ham⟩:=hp.args.form
 obtain⟨d1,d2,e3,hdc,hdm⟩:=hp.data.form
 simp only at e1 e2 e3 hpa
 subst e1 e2 e3
 have hfl:p.funcs.length<=9223372036854775807:=by omega
 have hdl:p.data.length<=9223372036854775807:=by omega
 clear hp hfc hfm hac ham hdc hdm
 have hCs:=lt_of_block hC
 have hf:∀W,Calls Try.prog 105 #[.int .i64 2] W fun e w'=>e=.returned (.tuple #[.agg #[.bool true,.bool false,.bool false,.bool true],.bool true])/\Below W.heap.size W w':=fun W=>yu 2 W
 obtain⟨x0,h0⟩:∃q,decide (0<=o.a)=q:=⟨_,rfl⟩
 obtain⟨x1,h1⟩:∃q,decide (0<=o.res)=q:=⟨_,rfl⟩
 obtain⟨x2,h2⟩:∃q,decide (-1<=o.res)=q:=⟨_,rfl⟩
 obtain⟨x3,h3⟩:∃q,decide (o.a<(p.data.length:Int))=q:=⟨_,rfl⟩
 obtain⟨x4,h4⟩:∃q,decide (o.b=0)=q:=⟨_,rfl⟩
 obtain⟨x5,h5⟩:∃q,decide (o.n=0)=q:=⟨_,rfl⟩
 obtain⟨x6,h6⟩:∃q,decide (o.args.length=0)=q:=⟨_,rfl⟩
 obtain⟨x7,h7⟩:∃q,decide ((o.args.length:Int)=p.args.getD o.a.toNat 0)=q:=⟨_,rfl⟩
 have e:opF p o=(x0 && x3 && x1 && x4 && x6):=by
  unfold opF
  rw[hcode]
  rw[h0,h3,h1,h4,h6]
  rfl
 rw[hcode]
 obtain⟨R,hR⟩:∃R,opF p o=R:=⟨_,rfl⟩
 rw[hR]
 rw[e] at hR
 have HR:=Lib.hid hR
 have HF:=Lib.hid hf
 have HC:=Lib.hid hC
 have t4:=zf h4
 have t5:((o.n:Int)==0)=x5:=zf (zZ h5 (by omega))
 have t6:((o.args.length:Int)==0)=x6:=zf (zZ h6 (by omega))
 clear e hR hf h4 h5 h6 hC
 cases x0 with
 |false=>
  skip
  all_goals go_enter Try.func98,Try.ntmps98
  all_goals go_wp2_with (first|(go_at_call 105;go_must (refine(HF.out _).mono ?_;rintro e w1 ⟨rfl,hb1⟩;have hx1:=zH hb1 (zI rfl) (by simp);have u0:∀ob,(w1.alloc ob).cell? ⟨w.heap.size,0,none⟩=some (.int .i64 2):=fun ob=>zA (zB hx1) (by simp);have u1:∀ob,(w1.alloc ob).cell? ⟨w.heap.size,1,none⟩=some (.int .i64 o.res):=fun ob=>zA (zB hx1) (by simp);have u2:∀ob,(w1.alloc ob).cell? ⟨w.heap.size,2,none⟩=some (.int .i64 o.a):=fun ob=>zA (zB hx1) (by simp);have u3:∀ob,(w1.alloc ob).cell? ⟨w.heap.size,3,none⟩=some (.int .i64 o.b):=fun ob=>zA (zB hx1) (by simp);have u4:∀ob,(w1.alloc ob).cell? ⟨w.heap.size,4,none⟩=some (.int .u16 (o.n:Int)):=fun ob=>zA (zB hx1) (by simp);have u5:∀ob,(w1.alloc ob).cell? ⟨w.heap.size,5,none⟩=some (.slice ar o.args.length cap):=fun ob=>zA (zB hx1) (by simp);have hc1:=zH hb1 (zB HC.out) (by simp;omega);have v0:∀ob,(w1.alloc ob).cell? ⟨C,0,none⟩=some (.slice f1 p.funcs.length f2):=fun ob=>zA (zB hc1) rfl;have v1:∀ob,(w1.alloc ob).cell? ⟨C,1,none⟩=some (.slice a1 p.args.length a2):=fun ob=>zA (zB hc1) rfl;have v4:∀ob,(w1.alloc ob).cell? ⟨C,4,none⟩=some (.slice d1 p.data.length d2):=fun ob=>zA (zB hc1) rfl;clear hx1 hc1;have HB1:=Lib.hid hb1;clear hb1))|go_in)
  all_goals go_quiet (fail)
  all_goals go_wp2
  all_goals go_ret
  all_goals exact⟨uz (HR.out.symm.trans rfl),yC ((((Below.refl _ _).alloc (Nat.le_refl _) _).trans (HB1.out.mono (by simp))).alloc (by have h9:=HB1.out.size;simp at h9;omega) _)⟩
 |true=>
  obtain⟨k,hk⟩:∃k:Nat,o.a=(k:Int):=⟨o.a.toNat,by have:=of_decide_eq_true h0;omega⟩
  rw[hk] at h3 h7 ⊢
  have t0:decide ((0:Int)<=(k:Int))=true:=decide_eq_true (by omega)
  have t3:decide (k<p.data.length)=x3:=zZ h3 (by omega)
  cases x3 with
  |false=>
   clear h7
   all_goals go_enter Try.func98,Try.ntmps98
   all_goals go_wp2_with (first|(go_at_call 105;go_must (refine(HF.out _).mono ?_;rintro e w1 ⟨rfl,hb1⟩;have hx1:=zH hb1 (zI rfl) (by simp);have u0:∀ob,(w1.alloc ob).cell? ⟨w.heap.size,0,none⟩=some (.int .i64 2):=fun ob=>zA (zB hx1) (by simp);have u1:∀ob,(w1.alloc ob).cell? ⟨w.heap.size,1,none⟩=some (.int .i64 o.res):=fun ob=>zA (zB hx1) (by simp);have u2:∀ob,(w1.alloc ob).cell? ⟨w.heap.size,2,none⟩=some (.int .i64 (k:Int)):=fun ob=>zA (zB hx1) (by simp);have u3:∀ob,(w1.alloc ob).cell? ⟨w.heap.size,3,none⟩=some (.int .i64 o.b):=fun ob=>zA (zB hx1) (by simp);have u4:∀ob,(w1.alloc ob).cell? ⟨w.heap.size,4,none⟩=some (.int .u16 (o.n:Int)):=fun ob=>zA (zB hx1) (by simp);have u5:∀ob,(w1.alloc ob).cell? ⟨w.heap.size,5,none⟩=some (.slice ar o.args.length cap):=fun ob=>zA (zB hx1) (by simp);have hc1:=zH hb1 (zB HC.out) (by simp;omega);have v0:∀ob,(w1.alloc ob).cell? ⟨C,0,none⟩=some (.slice f1 p.funcs.length f2):=fun ob=>zA (zB hc1) rfl;have v1:∀ob,(w1.alloc ob).cell? ⟨C,1,none⟩=some (.slice a1 p.args.length a2):=fun ob=>zA (zB hc1) rfl;have v4:∀ob,(w1.alloc ob).cell? ⟨C,4,none⟩=some (.slice d1 p.data.length d2):=fun ob=>zA (zB hc1) rfl;clear hx1 hc1;have HB1:=Lib.hid hb1;clear hb1))|go_in)
   all_goals go_quiet (fail)
   all_goals go_wp2
   all_goals go_ret
   all_goals exact⟨uz (HR.out.symm.trans rfl),yC ((((Below.refl _ _).alloc (Nat.le_refl _) _).trans (HB1.out.mono (by simp))).alloc (by have h9:=HB1.out.size;simp at h9;omega) _)⟩
  |true=>
   have hkl:k<p.data.length:=of_decide_eq_true t3
   clear h7 hkl hpa
   have hcs:=jZ x1 x4 x6
   rcases hcs with rfl|⟨rfl,rfl⟩|⟨rfl,rfl,rfl⟩|⟨rfl,rfl,rfl⟩
   all_goals go_enter Try.func98,Try.ntmps98
   all_goals go_wp2_with (first|(go_at_call 105;go_must (refine(HF.out _).mono ?_;rintro e w1 ⟨rfl,hb1⟩;have hx1:=zH hb1 (zI rfl) (by simp);have u0:∀ob,(w1.alloc ob).cell? ⟨w.heap.size,0,none⟩=some (.int .i64 2):=fun ob=>zA (zB hx1) (by simp);have u1:∀ob,(w1.alloc ob).cell? ⟨w.heap.size,1,none⟩=some (.int .i64 o.res):=fun ob=>zA (zB hx1) (by simp);have u2:∀ob,(w1.alloc ob).cell? ⟨w.heap.size,2,none⟩=some (.int .i64 (k:Int)):=fun ob=>zA (zB hx1) (by simp);have u3:∀ob,(w1.alloc ob).cell? ⟨w.heap.size,3,none⟩=some (.int .i64 o.b):=fun ob=>zA (zB hx1) (by simp);have u4:∀ob,(w1.alloc ob).cell? ⟨w.heap.size,4,none⟩=some (.int .u16 (o.n:Int)):=fun ob=>zA (zB hx1) (by simp);have u5:∀ob,(w1.alloc ob).cell? ⟨w.heap.size,5,none⟩=some (.slice ar o.args.length cap):=fun ob=>zA (zB hx1) (by simp);have hc1:=zH hb1 (zB HC.out) (by simp;omega);have v0:∀ob,(w1.alloc ob).cell? ⟨C,0,none⟩=some (.slice f1 p.funcs.length f2):=fun ob=>zA (zB hc1) rfl;have v1:∀ob,(w1.alloc ob).cell? ⟨C,1,none⟩=some (.slice a1 p.args.length a2):=fun ob=>zA (zB hc1) rfl;have v4:∀ob,(w1.alloc ob).cell? ⟨C,4,none⟩=some (.slice d1 p.data.length d2):=fun ob=>zA (zB hc1) rfl;clear hx1 hc1;have HB1:=Lib.hid hb1;clear hb1))|go_in)
   all_goals go_quiet (fail)
   all_goals go_wp2
   all_goals go_ret
   all_goals exact⟨uz (HR.out.symm.trans rfl),yC ((((Below.refl _ _).alloc (Nat.le_refl _) _).trans (HB1.out.mono (by simp))).alloc (by have h9:=HB1.out.size;simp at h9;omega) _)⟩
end Go.Proofs.Ytojclalkfhoooaa
