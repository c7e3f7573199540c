/- Part of a proof. -/
import Derived.Test.YtojclalkfhoooaaGApp
set_option linter.unusedSimpArgs false
set_option linter.unusedVariables false
set_option maxHeartbeats 1000000
namespace Go.Proofs.Ytojclalkfhoooaa
open Go.RowKit
def yH (V:PV)(p:IProg):Value:=.agg #[V.fv,V.av,.int .i64 p.entry,.int .i64 p.handler,V.dv,V.bv]
def iz (o:IObj):Value:=.agg #[.int .i64 o.bank,.int .u16 (o.addr:Int),.int .u16 (o.size:Int)]
def sW (nb:Nat)(o:IObj):Bool:=
 if o.bank=-1 then decide (0<o.size) && (decide (16384<=o.addr) && decide (o.addr+o.size<=24576))
 else decide (0<o.size) && (decide (0<=o.bank) && (decide (o.bank<nb) && decide (o.addr+o.size<=4096)))
def uK (a b:IObj):Bool:=decide (a.bank=b.bank) && (decide (a.addr<b.addr+b.size) && decide (b.addr<a.addr+a.size))
theorem zZ {P Q:Prop} [Decidable P] [Decidable Q] {b:Bool}(h:decide P=b)(e:P↔Q):decide Q=b:=by rw[<-h];exact decide_eq_decide.2 e.symm
theorem kL {w:World}{V:PV}{p:IProg}(hp:ProgIn w w.heap.size V p)(o:IObj)(ho:I64 o.bank/\o.addr<65536/\o.size<65536):
 Calls Try.prog 95 #[yH V p,iz o] w fun e w'=>e=.returned (.bool (sW p.banks.length o))/\Below w.heap.size w w':=by
 obtain⟨Vf,Va,Vd,Vb⟩:=V
 obtain⟨f1,f2,e1,_,_⟩:=hp.funcs.form
 obtain⟨a1,a2,e2,_,_⟩:=hp.args.form
 obtain⟨d1,d2,e3,_,_⟩:=hp.data.form
 obtain⟨b1,b2,e4,hb4,hbm⟩:=hp.banks.form
 simp only at e1 e2 e3 e4
 subst e1 e2 e3 e4
 unfold yH iz
 simp only
 have hbl:p.banks.length<=9223372036854775807:=by omega
 obtain⟨hb64,ha16,hs16⟩:=ho
 clear hp hb4
 obtain⟨q1,h1⟩:∃b,decide (0<o.size)=b:=⟨_,rfl⟩
 have hend:∀M:Nat,∀b,decide (o.addr+o.size<=M)=b->decide ((o.addr:Int)+(o.size:Int)<=(M:Int))=b:=fun M b h=>zZ h (by omega)
 by_cases hbk:o.bank=-1
 ·have e:sW p.banks.length o=(decide (0<o.size) && (decide (16384<=o.addr) && decide (o.addr+o.size<=24576))):=if_pos hbk
  obtain⟨q2,h2⟩:∃b,decide (16384<=o.addr)=b:=⟨_,rfl⟩
  obtain⟨q3,h3⟩:∃b,decide (o.addr+o.size<=24576)=b:=⟨_,rfl⟩
  have h2I:decide ((16384:Int)<=(o.addr:Int))=q2:=zZ h2 (by omega)
  have h3I:decide ((o.addr:Int)+(o.size:Int)<=24576)=q3:=hend 24576 _ h3
  have t1:(o.bank==-1)=true:=by rw[beq_iff_eq];exact hbk
  rw[e,h1,h2,h3]
  have H3:=Lib.hid h3
  clear e hend hbk h3
  cases q1<;>cases q2<;>cases q3
  all_goals go_enter Try.func95,Try.ntmps95
  all_goals go_wp2
  all_goals go_ret
  all_goals exact⟨rfl,((Below.refl _ _).alloc (Nat.le_refl _) _).alloc (by simp) _⟩
 ·have e:sW p.banks.length o=(decide (0<o.size) && (decide (0<=o.bank) && (decide (o.bank<p.banks.length) && decide (o.addr+o.size<=4096)))):=if_neg hbk
  obtain⟨q2,h2⟩:∃b,decide (0<=o.bank)=b:=⟨_,rfl⟩
  obtain⟨q3,h3⟩:∃b,decide (o.bank<(p.banks.length:Int))=b:=⟨_,rfl⟩
  obtain⟨q4,h4⟩:∃b,decide (o.addr+o.size<=4096)=b:=⟨_,rfl⟩
  have h4I:decide ((o.addr:Int)+(o.size:Int)<=4096)=q4:=hend 4096 _ h4
  have t1:(o.bank==-1)=false:=by rw[beq_eq_false_iff_ne];exact hbk
  rw[e,h1,h2,h3,h4]
  have H4:=Lib.hid h4
  clear e hend hbk h4
  cases q1<;>cases q2<;>cases q3<;>cases q4
  all_goals go_enter Try.func95,Try.ntmps95
  all_goals go_wp2
  all_goals go_ret
  all_goals exact⟨rfl,((Below.refl _ _).alloc (Nat.le_refl _) _).alloc (by simp) _⟩
theorem nT (w:World)(a b:IObj)(ha:I64 a.bank/\a.addr<65536/\a.size<65536)(hb:I64 b.bank/\b.addr<65536/\b.size<65536):
 Calls Try.prog 96 #[iz a,iz b] w fun e w'=>e=.returned (.bool (uK a b))/\Below w.heap.size w w':=by
 unfold iz
 obtain⟨_,ha16,hs16⟩:=ha
 obtain⟨_,hb16,ht16⟩:=hb
 obtain⟨q1,h1⟩:∃q,decide (a.bank=b.bank)=q:=⟨_,rfl⟩
 obtain⟨q2,h2⟩:∃q,decide (a.addr<b.addr+b.size)=q:=⟨_,rfl⟩
 obtain⟨q3,h3⟩:∃q,decide (b.addr<a.addr+a.size)=q:=⟨_,rfl⟩
 have t1:(a.bank==b.bank)=q1:=by rw[<-h1];rw[Bool.eq_iff_iff,beq_iff_eq,decide_eq_true_eq]
 have t2:decide ((a.addr:Int)<(b.addr:Int)+(b.size:Int))=q2:=zZ h2 (by omega)
 have t3:decide ((b.addr:Int)<(a.addr:Int)+(a.size:Int))=q3:=zZ h3 (by omega)
 have e:uK a b=(q1 && (q2 && q3)):=by unfold uK;rw[h1,h2,h3]
 rw[e]
 clear e h1 h2 h3
 cases q1<;>cases q2<;>cases q3
 all_goals go_enter Try.func96,Try.ntmps96
 all_goals go_wp2
 all_goals go_ret
 all_goals exact⟨rfl,((Below.refl _ _).alloc (Nat.le_refl _) _).alloc (by simp) _⟩
def yw (p:IProg)(f:Int):Bool:=decide (0<=f) && (decide (f<p.funcs.length) && (p.args.getD f.toNat 0==0))
theorem kR {w:World}{V:PV}{p:IProg}(hp:ProgIn w w.heap.size V p)(hl:p.args.length=p.funcs.length)(f:Int):
 Calls Try.prog 64 #[yH V p,.int .i64 f] w fun e w'=>e=.returned (.bool (yw p f))/\Below w.heap.size w w':=by
 obtain⟨Vf,Va,Vd,Vb⟩:=V
 obtain⟨f1,f2,e1,hfc,hfm⟩:=hp.funcs.form
 have hpa:=hp.args
 obtain⟨a1,a2,e2,_,_⟩:=hp.args.form
 obtain⟨d1,d2,e3,_,_⟩:=hp.data.form
 obtain⟨b1,b2,e4,_,_⟩:=hp.banks.form
 simp only at e1 e2 e3 e4 hpa
 subst e1 e2 e3 e4
 unfold yH
 simp only
 have hfl:p.funcs.length<=9223372036854775807:=by omega
 clear hp hfc
 have hBf:Below w.heap.size w (w.alloc (.cells #[.slice f1 p.funcs.length f2,.slice a1 p.args.length a2,.int .i64 p.entry,.int .i64 p.handler,.slice d1 p.data.length d2,.slice b1 p.banks.length b2] 29)):=(Below.refl _ _).alloc (Nat.le_refl _) _
 by_cases h0:0<=f
 ·obtain⟨k,rfl⟩:∃k:Nat,f=(k:Int):=⟨f.toNat,by omega⟩
  by_cases h1:k<p.funcs.length
  ·obtain⟨x,hx⟩:∃x,p.args[k]? =some x:=⟨_,List.getElem?_eq_getElem (by omega)⟩
   obtain⟨b,o,rfl,hb,hc,_⟩:=hpa.get hx
   rw[Nat.mul_one] at hc
   have hc':=zV hBf hb hc
   obtain⟨q,hq⟩:∃q,(x==0)=q:=⟨_,rfl⟩
   have e:yw p k=q:=by unfold yw;rw[decide_eq_true h0,decide_eq_true (show(k:Int)<p.funcs.length by omega),Int.toNat_natCast,List.getD_eq_getElem?_getD,hx];exact hq
   rw[e]
   have t1:decide (k<p.funcs.length)=true:=decide_eq_true h1
   have hkI:(k:Int)<p.args.length:=by omega
   clear e h0 h1 hx hpa
   cases q
   all_goals go_enter Try.func64,Try.ntmps64
   all_goals go_wp2
   all_goals go_ret
   all_goals exact⟨rfl,(Below.refl _ _).alloc (Nat.le_refl _) _⟩
  ·have e:yw p k=false:=by unfold yw;rw[decide_eq_true h0,decide_eq_false (show ¬(k:Int)<p.funcs.length by omega)];rfl
   rw[e]
   have t1:decide (k<p.funcs.length)=false:=decide_eq_false h1
   clear e h0 h1 hpa
   go_enter Try.func64,Try.ntmps64
   go_wp2
   go_ret
   exact⟨rfl,(Below.refl _ _).alloc (Nat.le_refl _) _⟩
 ·have e:yw p f=false:=by unfold yw;rw[decide_eq_false h0];rfl
  rw[e]
  have t1:decide (0<=f)=false:=decide_eq_false h0
  clear e h0 hpa
  go_enter Try.func64,Try.ntmps64
  go_wp2
  go_ret
  exact⟨rfl,(Below.refl _ _).alloc (Nat.le_refl _) _⟩
end Go.Proofs.Ytojclalkfhoooaa
