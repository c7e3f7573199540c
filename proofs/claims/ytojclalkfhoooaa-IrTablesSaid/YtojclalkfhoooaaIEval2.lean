/- Part of a proof. -/
import Derived.Test.YtojclalkfhoooaaIEval
import Derived.Test.YtojclalkfhoooaaIVal
set_option linter.unusedSimpArgs false
set_option linter.unusedVariables false
set_option maxHeartbeats 3200000
set_option maxRecDepth 100000
namespace Go.Proofs.Ytojclalkfhoooaa
open Go.RowKit
def sV:IRun:=⟨0,[],0,0,[],0,0⟩
def io (p:IProg)(f:Int)(args:List Nat):Bool:=decide (vC p=0) && decide (0<=f) && decide (f<p.funcs.length) && decide ((args.length:Int)=p.args.getD f.toNat 0)
def i9 (E:IEnv)(f:Int)(args:List Nat)(s:ByteArray)(fuel:Int):IRun:=if io E.p f args then i6 E f args s fuel else sV
def mW (p:IProg):Prop:=∀f∈p.funcs,vZ f/\∀b∈f,b.params.length<=65536
theorem mb:runVal sV (.slice none 0 0)=.agg #[.int .u16 0,.slice none 0 0,.int .i64 0,.int .u16 0,.string ⟨#[]⟩,.int .i64 0,.int .i64 0]:=by kernel_rfl
theorem case_ask:∀a b c d:Bool,(a && b && c && d)=false->(a=false)∨(a=true/\b=false)∨(a=true/\b=true/\c=false)∨(a=true/\b=true/\c=true/\d=false)
 |false,_,_,_,_=> .inl rfl
 |true,false,_,_,_=> .inr (.inl ⟨rfl,rfl⟩)
 |true,true,false,_,_=> .inr (.inr (.inl ⟨rfl,rfl,rfl⟩))
 |true,true,true,false,_=> .inr (.inr (.inr ⟨rfl,rfl,rfl,rfl⟩))
theorem iV {w:World}{V:PV}{p:IProg}(hp:ProgIn w w.heap.size V p)(hs:mW p)(f:Int)(hf64:I64 f){args:List Nat}{av:Value}(ha:wV w w.heap.size av args)(s:ByteArray)
 {inv irqv:Value} {inn irq:List Nat} (hin:wV w w.heap.size inv inn) (hiq:i5 w w.heap.size irqv irq) (fuel:Int) (hask:io p f args=false):
 Calls Try.prog 23 #[sZ V p,.int .i64 f,av,.string s,.agg #[inv,irqv],.int .i64 fuel] w (rf w sV):=by
 have hV:∀W,Below w.heap.size w W->Calls Try.prog 20 #[sZ V p] W (m9 W (vC p)):=fun W hb=>tu ((hp.below hb).mono hb.size) (Nat.le_refl _) (fun f hf=>(hs f hf).1)
 have hal:vC p=0->p.args.length=p.funcs.length:=fun h=>(se (rz h).1).2.1
 obtain⟨Vf,Va,Vd,Vb⟩:=V
 have hpa:=hp.args
 obtain⟨f1,f2,e1,_,_⟩:=hp.funcs.form
 obtain⟨a1,a2,e2,_,_⟩:=hp.args.form
 obtain⟨d1,d2,e3,_,_⟩:=hp.data.form
 obtain⟨b1,b2,e4,_,_⟩:=hp.banks.form
 obtain⟨v1,v2,rfl,_,_⟩:=ha.form
 obtain⟨i1,i2,rfl,_,_⟩:=hin.form
 obtain⟨q1,q2,rfl,_,_⟩:=hiq.form
 simp only at e1 e2 e3 e4 hpa
 subst e1 e2 e3 e4
 unfold sZ at hV ⊢
 simp only at hV ⊢
 have hfl:p.funcs.length<=9223372036854775807:=by omega
 have hall:args.length<=9223372036854775807:=by omega
 unfold io at hask
 obtain⟨x1,h1⟩:∃q,decide (vC p=0)=q:=⟨_,rfl⟩
 obtain⟨x2,h2⟩:∃q,decide (0<=f)=q:=⟨_,rfl⟩
 obtain⟨x3,h3⟩:∃q,decide (f<p.funcs.length)=q:=⟨_,rfl⟩
 obtain⟨x4,h4⟩:∃q,decide ((args.length:Int)=p.args.getD f.toNat 0)=q:=⟨_,rfl⟩
 rw[h1,h2,h3,h4] at hask
 obtain⟨vp,hvp⟩:∃x,vC p=x:=⟨_,rfl⟩
 rw[hvp] at hV h1 hal
 have t1:(vp !=0)=!x1:=by rw[bne,zf h1]
 have t2:decide (f<0)=!x2:=by rw[<-h2];by_cases h:0<=f<;>simp[h]<;>omega
 have t3:decide ((p.funcs.length:Int)<=f)=!x3:=by rw[<-h3];by_cases h:f<p.funcs.length<;>simp[h]<;>omega
 have HV:=Lib.hid hV
 have hcs:=case_ask x1 x2 x3 x4 hask
 have hb0:Below w.heap.size w (((w.alloc (.cells #[.slice f1 p.funcs.length f2,.slice a1 p.args.length a2,.int .i64 p.entry,.int .i64 p.handler,.slice d1 p.data.length d2,.slice b1 p.banks.length b2] 29)).alloc (.cells #[.slice i1 inn.length i2,.slice q1 irq.length q2] 61)).alloc (.cells #[.int .u16 0,.slice none 0 0,.int .i64 0,.int .u16 0,.string ⟨#[]⟩,.int .i64 0,.int .i64 0] 57)):=(((Below.refl _ _).alloc (Nat.le_refl _) _).alloc (by simp) _).alloc (by simp;omega) _
 have hx0:(((w.alloc (.cells #[.slice f1 p.funcs.length f2,.slice a1 p.args.length a2,.int .i64 p.entry,.int .i64 p.handler,.slice d1 p.data.length d2,.slice b1 p.banks.length b2] 29)).alloc (.cells #[.slice i1 inn.length i2,.slice q1 irq.length q2] 61)).alloc (.cells #[.int .u16 0,.slice none 0 0,.int .i64 0,.int .u16 0,.string ⟨#[]⟩,.int .i64 0,.int .i64 0] 57)).heap[w.heap.size]? =some (.cells #[.slice f1 p.funcs.length f2,.slice a1 p.args.length a2,.int .i64 p.entry,.int .i64 p.handler,.slice d1 p.data.length d2,.slice b1 p.banks.length b2] 29 (0,0)):=zB (zB (zI rfl))
 have hx2:(((w.alloc (.cells #[.slice f1 p.funcs.length f2,.slice a1 p.args.length a2,.int .i64 p.entry,.int .i64 p.handler,.slice d1 p.data.length d2,.slice b1 p.banks.length b2] 29)).alloc (.cells #[.slice i1 inn.length i2,.slice q1 irq.length q2] 61)).alloc (.cells #[.int .u16 0,.slice none 0 0,.int .i64 0,.int .u16 0,.string ⟨#[]⟩,.int .i64 0,.int .i64 0] 57)).heap[w.heap.size+1+1]? =some (.cells #[.int .u16 0,.slice none 0 0,.int .i64 0,.int .u16 0,.string ⟨#[]⟩,.int .i64 0,.int .i64 0] 57 (0,0)):=zI (by simp)
 have HPA:=Lib.hid (show zY w w.heap.size (.slice a1 p.args.length a2) p.args from hpa)
 have HAL:=Lib.hid (show x1=true->p.args.length=p.funcs.length from fun h=>hal (of_decide_eq_true (h1.trans h)))
 clear hp hs ha hin hiq hV hal hpa hask h1 hvp
 rcases hcs with rfl|⟨rfl,rfl⟩|⟨rfl,rfl,rfl⟩|⟨rfl,rfl,rfl,rfl⟩
 case inr.inr.inr=>
  obtain⟨k,rfl⟩:∃k:Nat,f=(k:Int):=⟨f.toNat,by have:=of_decide_eq_true h2;omega⟩
  have hkl:(k:Int)<p.funcs.length:=of_decide_eq_true h3
  obtain⟨x,hx⟩:∃x,p.args[k]? =some x:=⟨_,List.getElem?_eq_getElem (by have:=HAL.out rfl;omega)⟩
  obtain⟨ba,oa,rfl,hba,hca,_⟩:=HPA.out.get hx
  rw[Nat.mul_one] at hca
  have hkal:(k:Int)<p.args.length:=by have:=HAL.out rfl;omega
  have hd2:decide (p.funcs.length<=k)=false:=by rw[decide_eq_false_iff_not];omega
  have t4:((args.length:Int) !=x)=true:=by
   rw[Int.toNat_natCast,List.getD_eq_getElem?_getD,hx,Option.getD_some] at h4
   rw[bne,zf h4];rfl
  have HCA:=Lib.hid (And.intro hba hca)
  clear h2 h3 h4 hx hba hca
  go_enter_defers Try.func23,Try.ntmps23
  go_upto_region 1 with fail
  generalize hW0:((w.alloc (.cells #[.slice f1 p.funcs.length f2,.slice (some ⟨ba,oa,none⟩) p.args.length a2,.int .i64 p.entry,.int .i64 p.handler,.slice d1 p.data.length d2,.slice b1 p.banks.length b2] 29)).alloc (.cells #[.slice i1 inn.length i2,.slice q1 irq.length q2] 61)).alloc (.cells #[.int .u16 0,.slice none 0 0,.int .i64 0,.int .u16 0,.string ⟨#[]⟩,.int .i64 0,.int .i64 0] 57)=W0 at *
  have H0:=Lib.hid (And.intro hb0 (And.intro hx0 hx2))
  have p0:W0.cell? ⟨w.heap.size,0,none⟩=some (.slice f1 p.funcs.length f2):=zA hx0 (by simp)
  have p1:W0.cell? ⟨w.heap.size,1,none⟩=some (.slice (some ⟨ba,oa,none⟩) p.args.length a2):=zA hx0 (by simp)
  have p2:W0.cell? ⟨w.heap.size,2,none⟩=some (.int .i64 p.entry):=zA hx0 (by simp)
  have p3:W0.cell? ⟨w.heap.size,3,none⟩=some (.int .i64 p.handler):=zA hx0 (by simp)
  have p4:W0.cell? ⟨w.heap.size,4,none⟩=some (.slice d1 p.data.length d2):=zA hx0 (by simp)
  have p5:W0.cell? ⟨w.heap.size,5,none⟩=some (.slice b1 p.banks.length b2):=zA hx0 (by simp)
  clear hb0 hx0 hx2 hW0
  go_wp2_with (go_at_call 20;go_must (refine(HV.out _ H0.out.1).mono ?_;rintro e W1 ⟨rfl,hb1⟩;have hxr:=zH hb1 H0.out.2.1 (lt_of_block H0.out.2.1);have hzr:=zH hb1 H0.out.2.2 (lt_of_block H0.out.2.2);have q0:W1.cell? ⟨w.heap.size,0,none⟩=some (.slice f1 p.funcs.length f2):=zA hxr (by simp);have q1':W1.cell? ⟨w.heap.size,1,none⟩=some (.slice (some ⟨ba,oa,none⟩) p.args.length a2):=zA hxr (by simp);have r0:W1.cell? ⟨w.heap.size+1+1,0,none⟩=some (.int .u16 0):=zA hzr (by simp);have s0:W1.frozen? ⟨w.heap.size+1+1,0,none⟩=false:=zE hzr;have r1:W1.cell? ⟨w.heap.size+1+1,1,none⟩=some (.slice none 0 0):=zA hzr (by simp);have s1:W1.frozen? ⟨w.heap.size+1+1,1,none⟩=false:=zE hzr;have r2:W1.cell? ⟨w.heap.size+1+1,2,none⟩=some (.int .i64 0):=zA hzr (by simp);have s2:W1.frozen? ⟨w.heap.size+1+1,2,none⟩=false:=zE hzr;have r3:W1.cell? ⟨w.heap.size+1+1,3,none⟩=some (.int .u16 0):=zA hzr (by simp);have s3:W1.frozen? ⟨w.heap.size+1+1,3,none⟩=false:=zE hzr;have r4:W1.cell? ⟨w.heap.size+1+1,4,none⟩=some (.string ⟨#[]⟩):=zA hzr (by simp);have s4:W1.frozen? ⟨w.heap.size+1+1,4,none⟩=false:=zE hzr;have r5:W1.cell? ⟨w.heap.size+1+1,5,none⟩=some (.int .i64 0):=zA hzr (by simp);have s5:W1.frozen? ⟨w.heap.size+1+1,5,none⟩=false:=zE hzr;have r6:W1.cell? ⟨w.heap.size+1+1,6,none⟩=some (.int .i64 0):=zA hzr (by simp);have s6:W1.frozen? ⟨w.heap.size+1+1,6,none⟩=false:=zE hzr;have HB1:=Lib.hid (H0.out.1.trans (hb1.mono H0.out.1.size));have q2':=zV HB1.out HCA.out.1 HCA.out.2;clear hb1 hxr hzr))
  have hbE:=((((((HB1.out.setCell (p:=⟨w.heap.size+1+1,0,none⟩) (by simp;omega) (.int .u16 0)).setCell (p:=⟨w.heap.size+1+1,1,none⟩) (by simp;omega) (.slice none 0 0)).setCell (p:=⟨w.heap.size+1+1,2,none⟩) (by simp;omega) (.int .i64 0)).setCell (p:=⟨w.heap.size+1+1,3,none⟩) (by simp;omega) (.int .u16 0)).setCell (p:=⟨w.heap.size+1+1,4,none⟩) (by simp;omega) (.string ⟨#[]⟩)).setCell (p:=⟨w.heap.size+1+1,5,none⟩) (by simp;omega) (.int .i64 0)).setCell (p:=⟨w.heap.size+1+1,6,none⟩) (by simp;omega) (.int .i64 0)
  refine⟨.agg #[.int .u16 0,.slice none 0 0,.int .i64 0,.int .u16 0,.string ⟨#[]⟩,.int .i64 0,.int .i64 0],?_,.slice none 0 0,by rw[mb],⟨none,0,rfl,Nat.le_refl _,by omega,fun k x hk=>by simp[sV] at hk⟩,hbE⟩
  rw[zM rfl]
  go_simp
 all_goals clear h4
 all_goals (
  go_enter_defers Try.func23,Try.ntmps23
  go_upto_region 1 with fail
  generalize hW0:((w.alloc (.cells #[.slice f1 p.funcs.length f2,.slice a1 p.args.length a2,.int .i64 p.entry,.int .i64 p.handler,.slice d1 p.data.length d2,.slice b1 p.banks.length b2] 29)).alloc (.cells #[.slice i1 inn.length i2,.slice q1 irq.length q2] 61)).alloc (.cells #[.int .u16 0,.slice none 0 0,.int .i64 0,.int .u16 0,.string ⟨#[]⟩,.int .i64 0,.int .i64 0] 57)=W0 at *
  have H0:=Lib.hid (And.intro hb0 (And.intro hx0 hx2))
  have p0:W0.cell? ⟨w.heap.size,0,none⟩=some (.slice f1 p.funcs.length f2):=zA hx0 (by simp)
  have p1:W0.cell? ⟨w.heap.size,1,none⟩=some (.slice a1 p.args.length a2):=zA hx0 (by simp)
  have p2:W0.cell? ⟨w.heap.size,2,none⟩=some (.int .i64 p.entry):=zA hx0 (by simp)
  have p3:W0.cell? ⟨w.heap.size,3,none⟩=some (.int .i64 p.handler):=zA hx0 (by simp)
  have p4:W0.cell? ⟨w.heap.size,4,none⟩=some (.slice d1 p.data.length d2):=zA hx0 (by simp)
  have p5:W0.cell? ⟨w.heap.size,5,none⟩=some (.slice b1 p.banks.length b2):=zA hx0 (by simp)
  clear hb0 hx0 hx2 hW0
  go_wp2_with (go_at_call 20;go_must (refine(HV.out _ H0.out.1).mono ?_;rintro e W1 ⟨rfl,hb1⟩;have hxr:=zH hb1 H0.out.2.1 (lt_of_block H0.out.2.1);have hzr:=zH hb1 H0.out.2.2 (lt_of_block H0.out.2.2);have q0:W1.cell? ⟨w.heap.size,0,none⟩=some (.slice f1 p.funcs.length f2):=zA hxr (by simp);have q1':W1.cell? ⟨w.heap.size,1,none⟩=some (.slice a1 p.args.length a2):=zA hxr (by simp);have r0:W1.cell? ⟨w.heap.size+1+1,0,none⟩=some (.int .u16 0):=zA hzr (by simp);have s0:W1.frozen? ⟨w.heap.size+1+1,0,none⟩=false:=zE hzr;have r1:W1.cell? ⟨w.heap.size+1+1,1,none⟩=some (.slice none 0 0):=zA hzr (by simp);have s1:W1.frozen? ⟨w.heap.size+1+1,1,none⟩=false:=zE hzr;have r2:W1.cell? ⟨w.heap.size+1+1,2,none⟩=some (.int .i64 0):=zA hzr (by simp);have s2:W1.frozen? ⟨w.heap.size+1+1,2,none⟩=false:=zE hzr;have r3:W1.cell? ⟨w.heap.size+1+1,3,none⟩=some (.int .u16 0):=zA hzr (by simp);have s3:W1.frozen? ⟨w.heap.size+1+1,3,none⟩=false:=zE hzr;have r4:W1.cell? ⟨w.heap.size+1+1,4,none⟩=some (.string ⟨#[]⟩):=zA hzr (by simp);have s4:W1.frozen? ⟨w.heap.size+1+1,4,none⟩=false:=zE hzr;have r5:W1.cell? ⟨w.heap.size+1+1,5,none⟩=some (.int .i64 0):=zA hzr (by simp);have s5:W1.frozen? ⟨w.heap.size+1+1,5,none⟩=false:=zE hzr;have r6:W1.cell? ⟨w.heap.size+1+1,6,none⟩=some (.int .i64 0):=zA hzr (by simp);have s6:W1.frozen? ⟨w.heap.size+1+1,6,none⟩=false:=zE hzr;have HB1:=Lib.hid (H0.out.1.trans (hb1.mono H0.out.1.size));clear hb1 hxr hzr))
  have hbE:=((((((HB1.out.setCell (p:=⟨w.heap.size+1+1,0,none⟩) (by simp;omega) (.int .u16 0)).setCell (p:=⟨w.heap.size+1+1,1,none⟩) (by simp;omega) (.slice none 0 0)).setCell (p:=⟨w.heap.size+1+1,2,none⟩) (by simp;omega) (.int .i64 0)).setCell (p:=⟨w.heap.size+1+1,3,none⟩) (by simp;omega) (.int .u16 0)).setCell (p:=⟨w.heap.size+1+1,4,none⟩) (by simp;omega) (.string ⟨#[]⟩)).setCell (p:=⟨w.heap.size+1+1,5,none⟩) (by simp;omega) (.int .i64 0)).setCell (p:=⟨w.heap.size+1+1,6,none⟩) (by simp;omega) (.int .i64 0)
  refine⟨.agg #[.int .u16 0,.slice none 0 0,.int .i64 0,.int .u16 0,.string ⟨#[]⟩,.int .i64 0,.int .i64 0],?_,.slice none 0 0,by rw[mb],⟨none,0,rfl,Nat.le_refl _,by omega,fun k x hk=>by simp[sV] at hk⟩,hbE⟩
  rw[zM rfl]
  go_simp)
theorem mX {w:World}{V:PV}{p:IProg}(hp:ProgIn w w.heap.size V p)(hs:mW p)(f:Int)(hf64:I64 f){args:List Nat}{av:Value}(ha:wV w w.heap.size av args)(s:ByteArray)(hsz:s.size<=9223372036854775807)
 {inv irqv:Value} {inn irq:List Nat} (hin:wV w w.heap.size inv inn) (hiq:i5 w w.heap.size irqv irq) (fuel:Int) (hfu:I64 fuel) (hfb:fuel.toNat<=4000000):
 Calls Try.prog 23 #[yH V p,.int .i64 f,av,.string s,.agg #[inv,irqv],.int .i64 fuel] w (rf w (i9 ⟨p,inn,irq⟩ f args s fuel)):=by
 unfold i9
 cases h:io p f args with
 |false=>exact iV hp hs f hf64 ha s hin hiq fuel h
 |true=>
  unfold io at h
  simp only[Bool.and_eq_true,decide_eq_true_eq] at h
  obtain⟨⟨⟨h1,h2⟩,h3⟩,h4⟩:=h
  have hok:=jM h1 (fun f hf b hb=>(hs f hf).2 b hb)
  have h5:(if io p f args=true then i6 ⟨p,inn,irq⟩ f args s fuel else sV)=i6 ⟨p,inn,irq⟩ f args s fuel:=by
   rw[if_pos]
   unfold io
   simp only[Bool.and_eq_true,decide_eq_true_eq]
   exact⟨⟨⟨h1,h2⟩,h3⟩,h4⟩
  refine eval_ok hp hok (fun W hb=>?_) f ⟨h2,by omega⟩ ha h4 s hsz hin hiq fuel hfu hfb
  have:=tu ((hp.below hb).mono hb.size) (Nat.le_refl _) (fun f hf=>(hs f hf).1)
  rw[h1] at this
  exact this
end Go.Proofs.Ytojclalkfhoooaa
