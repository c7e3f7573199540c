/- Part of a proof. -/
import Derived.Test.YtoahcpkibpomcaaGreatGZSnd
import Derived.Test.YtoahcpkibpomcaaGreatIOper2
import Derived.Deep.Slices
import Derived.OpenShut
import Derived.ProofKit
set_option linter.all false
set_option maxHeartbeats 4000000
set_option maxRecDepth 100000
namespace Go.Proofs.YtoahcpkibpomcaaGreat
open Go.RowKit
variable {W W2 w w' w1 w9 wx:World}{C f1 g g3 i r2 tb:Nat}{tl:List Value}{xs:List Int}{l:List BM}{o:Obj}{X:Nat->Prop}{K:MKC}{M:MS}{d gv u vv:Value}{c:Array Bool}{rs:List Nat}{bt':BT}{oi:Oper}
theorem lP:∀x2 x4 x5 x7:Bool,(x7=false)∨(x2=false/\x7=true)∨(x2=true/\x4=false/\x7=true)∨(x2=true/\x4=true/\x5=false/\x7=true)∨(x2=true/\x4=true/\x5=true/\x7=true)
 |_,_,_,false=>(.inl rfl)
 |false,_,_,true=>(.inr (.inl ⟨rfl,rfl⟩))
 |true,false,_,true=>(.inr (.inr (.inl ⟨rfl,rfl,rfl⟩)))
 |true,true,false,true=>(Zi (.inl ⟨rfl,rfl,rfl,rfl⟩))
 |true,true,true,true=>(Zi (.inr ⟨rfl,rfl,rfl,rfl⟩))
theorem jZ:∀x1 x4 x6:Bool,(x1=false)∨(x1=true/\x4=false)∨(x1=true/\x4=true/\x6=false)∨(x1=true/\x4=true/\x6=true)
 |false,_,_=>(.inl rfl)
 |true,false,_=>(.inr (.inl ⟨rfl,rfl⟩))
 |true,true,false=>(.inr (.inr (.inl ⟨rfl,rfl,rfl⟩)))
 |true,true,true=>(.inr (.inr (.inr ⟨rfl,rfl,rfl⟩)))
theorem kM{B:Nat}{V:PV}{p:IProg}(hp:ProgIn w B V p)(hB:B<=w.heap.size)(hC:Q w C (rC V p++tl).toArray 173)(hl:p.args.length=p.funcs.length)(o:IOp)(ho:qN o)(ar:Option Addr)(i:Nat)(b7:o.args.length<=i/\i<=9223372036854775807)(j:o.code=26):
 I 138 #[F C,opV o (.slice ar o.args.length i)] w (ym w (opF p o)):=by
 unfold opV;obtain⟨_,b4,b9,b8,b5⟩:=ho;have b6:o.args.length<=9223372036854775807:=Zo;obtain⟨Vf,Va,Vd,Vb⟩:=V;obtain⟨f1,f2,e1,a6,a5⟩:=hp.funcs.form;have m:=hp.args;obtain⟨a1,a2,e2,b3,b2⟩:=hp.args.form;obtain⟨d1,d2,e3,b0,a7⟩:=hp.data.form;simp only at e1 e2 e3 m;subst e1 e2 e3;have c2:p.funcs.length<=9223372036854775807:=Zo;have c3:p.data.length<=9223372036854775807:=Zo;clear hp a6 a5 b3 b2 b0 a7;have c4:=lt_of_block hC;have hf:∀W,I 142 #[U 26] W fun e w'=>e=.returned (.tuple #[.agg #[.bool false,.bool false,.bool false,.bool false],.bool true])/\Y W w':=fun W=>yu 26 W
 obtain⟨x0,h0⟩:∃q,decide (0<=o.a)=q:=⟨_,rfl⟩
 obtain⟨x1,h1⟩:∃q,decide (0<=o.res)=q:=⟨_,rfl⟩
 obtain⟨x2,h2⟩:∃q,decide (-1<=o.res)=q:=⟨_,rfl⟩
 obtain⟨x3,h3⟩:∃q,decide (o.a<(p.funcs.length:Int))=q:=⟨_,rfl⟩
 obtain⟨x4,h4⟩:∃q,decide (o.b=0)=q:=⟨_,rfl⟩
 obtain⟨x5,h5⟩:∃q,decide (o.n=0)=q:=⟨_,rfl⟩
 obtain⟨x6,h6⟩:∃q,decide (o.args.length=0)=q:=⟨_,rfl⟩
 obtain⟨x7,l⟩:∃q,decide ((o.args.length:Int)=p.args.getD o.a.toNat 0)=q:=⟨_,rfl⟩
 have e:opF p o=(x0 && x3 && x7 && x2 && x4 && x5):=by
  unfold opF;rw[j];rw[h0,h3,l,h2,h4,h5];rfl
 rw[j];obtain⟨R,hR⟩:∃R,opF p o=R:=⟨_,rfl⟩
 rw[hR];rw[e] at hR;have HR:=Ja hR;have HF:=Ja hf;have HC:=Ja hC;have t4:=vu h4;have t5:((o.n:Int)==0)=x5:=vu (zZ h5 Zo);have t6:((o.args.length:Int)==0)=x6:=vu (zZ h6 Zo);clear e hR hf h4 h5 h6 hC
 cases x0 with
 |false=>
  skip
  all_goals go_enter Tryz.func138,Tryz.ntmps138
  all_goals go_wp2_with (first|(go_at_call 142;go_must (refine(HF.out _).mono ?_;rintro e w1 ⟨rfl,d⟩;have c:=zH d (zI rfl) Zs;have u0:∀ob,A (w1.alloc ob) w.heap.size 0 (U 26):=fun ob=>zA (zB c) Zs;have u1:∀ob,A (w1.alloc ob) w.heap.size 1 (U o.res):=fun ob=>zA (zB c) Zs;have u2:∀ob,A (w1.alloc ob) w.heap.size 2 (U o.a):=fun ob=>zA (zB c) Zs;have u3:∀ob,A (w1.alloc ob) w.heap.size 3 (U o.b):=fun ob=>zA (zB c) Zs;have u4:∀ob,A (w1.alloc ob) w.heap.size 4 (O (o.n:Int)):=fun ob=>zA (zB c) Zs;have u5:∀ob,A (w1.alloc ob) w.heap.size 5 (.slice ar o.args.length i):=fun ob=>zA (zB c) Zs;have g:=zH d (zB HC.out) Zt;have v0:∀ob,A (w1.alloc ob) C 0 (.slice f1 p.funcs.length f2):=fun ob=>zA (zB g) rfl;have v1:∀ob,A (w1.alloc ob) C 1 (.slice a1 p.args.length a2):=fun ob=>zA (zB g) rfl;have v4:∀ob,A (w1.alloc ob) C 4 (.slice d1 p.data.length d2):=fun ob=>zA (zB g) rfl;clear c g;have h:=Ja d;clear d))|go_in)
  all_goals go_quiet (fail)
  all_goals go_wp2
  all_goals go_ret
  all_goals exact⟨uz (HR.out.symm.trans rfl),yC ((((Below.refl _ _).alloc (Je _) _).trans (h.out.mono Zs)).alloc (by have y:=h.out.size;simp at y;omega) _)⟩
 |true=>
  obtain⟨k,hk⟩:∃k:Nat,o.a=(k:Int):=⟨o.a.toNat,by have:=of_decide_eq_true h0;omega⟩
  rw[hk] at h3 l ⊢;have t0:decide ((0:Int)<=(k:Int))=true:=decide_eq_true Zo;have t3:decide (k<p.funcs.length)=x3:=zZ h3 Zo
  cases x3 with
  |false=>
   clear l
   all_goals go_enter Tryz.func138,Tryz.ntmps138
   all_goals go_wp2_with (first|(go_at_call 142;go_must (refine(HF.out _).mono ?_;rintro e w1 ⟨rfl,d⟩;have c:=zH d (zI rfl) Zs;have u0:∀ob,A (w1.alloc ob) w.heap.size 0 (U 26):=fun ob=>zA (zB c) Zs;have u1:∀ob,A (w1.alloc ob) w.heap.size 1 (U o.res):=fun ob=>zA (zB c) Zs;have u2:∀ob,A (w1.alloc ob) w.heap.size 2 (U k):=fun ob=>zA (zB c) Zs;have u3:∀ob,A (w1.alloc ob) w.heap.size 3 (U o.b):=fun ob=>zA (zB c) Zs;have u4:∀ob,A (w1.alloc ob) w.heap.size 4 (O (o.n:Int)):=fun ob=>zA (zB c) Zs;have u5:∀ob,A (w1.alloc ob) w.heap.size 5 (.slice ar o.args.length i):=fun ob=>zA (zB c) Zs;have g:=zH d (zB HC.out) Zt;have v0:∀ob,A (w1.alloc ob) C 0 (.slice f1 p.funcs.length f2):=fun ob=>zA (zB g) rfl;have v1:∀ob,A (w1.alloc ob) C 1 (.slice a1 p.args.length a2):=fun ob=>zA (zB g) rfl;have v4:∀ob,A (w1.alloc ob) C 4 (.slice d1 p.data.length d2):=fun ob=>zA (zB g) rfl;clear c g;have h:=Ja d;clear d))|go_in)
   all_goals go_quiet (fail)
   all_goals go_wp2
   all_goals go_ret
   all_goals exact⟨uz (HR.out.symm.trans rfl),yC ((((Below.refl _ _).alloc (Je _) _).trans (h.out.mono Zs)).alloc (by have y:=h.out.size;simp at y;omega) _)⟩
  |true=>
   have a4:k<p.funcs.length:=of_decide_eq_true t3;obtain⟨x,hx⟩:∃x,p.args[k]? =some x:=⟨_,Jd Zo⟩
   obtain⟨ba,oa,rfl,a0,u,_⟩:=m.get hx;rw[Nk] at u;rw[Ni,Jj,hx,Ot] at l;have t7:=vu l;have c0:(k:Int)<p.args.length:=Zo;have a3:=Ja (Jb (Jy a0 hB) u);clear l hx u a0 m a4;have b1:=lP x2 x4 x5 x7;rcases b1 with rfl|⟨rfl,rfl⟩|⟨rfl,rfl,rfl⟩|⟨rfl,rfl,rfl,rfl⟩|⟨rfl,rfl,rfl,rfl⟩
   all_goals go_enter Tryz.func138,Tryz.ntmps138
   all_goals go_wp2_with (first|(go_at_call 142;go_must (refine(HF.out _).mono ?_;rintro e w1 ⟨rfl,d⟩;have c:=zH d (zI rfl) Zs;have u0:∀ob,A (w1.alloc ob) w.heap.size 0 (U 26):=fun ob=>zA (zB c) Zs;have u1:∀ob,A (w1.alloc ob) w.heap.size 1 (U o.res):=fun ob=>zA (zB c) Zs;have u2:∀ob,A (w1.alloc ob) w.heap.size 2 (U k):=fun ob=>zA (zB c) Zs;have u3:∀ob,A (w1.alloc ob) w.heap.size 3 (U o.b):=fun ob=>zA (zB c) Zs;have u4:∀ob,A (w1.alloc ob) w.heap.size 4 (O (o.n:Int)):=fun ob=>zA (zB c) Zs;have u5:∀ob,A (w1.alloc ob) w.heap.size 5 (.slice ar o.args.length i):=fun ob=>zA (zB c) Zs;have g:=zH d (zB HC.out) Zt;have v0:∀ob,A (w1.alloc ob) C 0 (.slice f1 p.funcs.length f2):=fun ob=>zA (zB g) rfl;have v1:∀ob,A (w1.alloc ob) C 1 (.slice (some ⟨ba,oa,none⟩) p.args.length a2):=fun ob=>zA (zB g) rfl;have v4:∀ob,A (w1.alloc ob) C 4 (.slice d1 p.data.length d2):=fun ob=>zA (zB g) rfl;have t:=((Below.refl w.heap.size w).alloc (Je _) _).trans (d.mono Zs);have v9:∀ob,A (w1.alloc ob) ba (oa+k) (U x):=fun ob=>zV (t.alloc t.size ob) a3.out.1 a3.out.2;clear t;clear c g;have h:=Ja d;clear d))|go_in)
   all_goals go_quiet (fail)
   all_goals go_wp2
   all_goals go_ret
   all_goals exact⟨uz (HR.out.symm.trans rfl),yC ((((Below.refl _ _).alloc (Je _) _).trans (h.out.mono Zs)).alloc (by have y:=h.out.size;simp at y;omega) _)⟩
theorem akq{B:Nat}{V:PV}{p:IProg}(hp:ProgIn w B V p)(hB:B<=w.heap.size)(u:Q w C (rC V p++tl).toArray 173)(hl:p.args.length=p.funcs.length)(o:IOp)(ho:qN o)(ar:Option Addr)(i:Nat)(b5:o.args.length<=i/\i<=9223372036854775807)(j:o.code=2):
 I 138 #[F C,opV o (.slice ar o.args.length i)] w (ym w (opF p o)):=by
 unfold opV;obtain⟨_,b2,b7,b6,b3⟩:=ho;have b4:o.args.length<=9223372036854775807:=Zo;obtain⟨Vf,Va,Vd,Vb⟩:=V;obtain⟨f1,f2,e1,a4,a3⟩:=hp.funcs.form;have t:=hp.args;obtain⟨a1,a2,e2,b1,b0⟩:=hp.args.form;obtain⟨d1,d2,e3,a6,a5⟩:=hp.data.form;simp only at e1 e2 e3 t;subst e1 e2 e3;have b8:p.funcs.length<=9223372036854775807:=Zo;have b9:p.data.length<=9223372036854775807:=Zo;clear hp a4 a3 b1 b0 a6 a5;have c0:=lt_of_block u;have hf:∀W,I 142 #[U 2] W fun e w'=>e=.returned (.tuple #[.agg #[.bool true,.bool false,.bool false,.bool true],.bool true])/\Y W w':=fun W=>yu 2 W
 obtain⟨x0,h0⟩:∃q,decide (0<=o.a)=q:=⟨_,rfl⟩
 obtain⟨x1,h1⟩:∃q,decide (0<=o.res)=q:=⟨_,rfl⟩
 obtain⟨x2,h2⟩:∃q,decide (-1<=o.res)=q:=⟨_,rfl⟩
 obtain⟨x3,h3⟩:∃q,decide (o.a<(p.data.length:Int))=q:=⟨_,rfl⟩
 obtain⟨x4,h4⟩:∃q,decide (o.b=0)=q:=⟨_,rfl⟩
 obtain⟨x5,h5⟩:∃q,decide (o.n=0)=q:=⟨_,rfl⟩
 obtain⟨x6,y⟩:∃q,decide (o.args.length=0)=q:=⟨_,rfl⟩
 obtain⟨x7,x⟩:∃q,decide ((o.args.length:Int)=p.args.getD o.a.toNat 0)=q:=⟨_,rfl⟩
 have e:opF p o=(x0 && x3 && x1 && x4 && x6):=by
  unfold opF;rw[j];rw[h0,h3,h1,h4,y];rfl
 rw[j];obtain⟨R,m⟩:∃R,opF p o=R:=⟨_,rfl⟩
 rw[m];rw[e] at m;have HR:=Ja m;have HF:=Ja hf;have HC:=Ja u;have t4:=vu h4;have t5:((o.n:Int)==0)=x5:=vu (zZ h5 Zo);have t6:((o.args.length:Int)==0)=x6:=vu (zZ y Zo);clear e m hf h4 h5 y u
 cases x0 with
 |false=>
  skip
  all_goals go_enter Tryz.func138,Tryz.ntmps138
  all_goals go_wp2_with (first|(go_at_call 142;go_must (refine(HF.out _).mono ?_;rintro e w1 ⟨rfl,g⟩;have c:=zH g (zI rfl) Zs;have u0:∀ob,A (w1.alloc ob) w.heap.size 0 (U 2):=fun ob=>zA (zB c) Zs;have u1:∀ob,A (w1.alloc ob) w.heap.size 1 (U o.res):=fun ob=>zA (zB c) Zs;have u2:∀ob,A (w1.alloc ob) w.heap.size 2 (U o.a):=fun ob=>zA (zB c) Zs;have u3:∀ob,A (w1.alloc ob) w.heap.size 3 (U o.b):=fun ob=>zA (zB c) Zs;have u4:∀ob,A (w1.alloc ob) w.heap.size 4 (O (o.n:Int)):=fun ob=>zA (zB c) Zs;have u5:∀ob,A (w1.alloc ob) w.heap.size 5 (.slice ar o.args.length i):=fun ob=>zA (zB c) Zs;have d:=zH g (zB HC.out) Zt;have v0:∀ob,A (w1.alloc ob) C 0 (.slice f1 p.funcs.length f2):=fun ob=>zA (zB d) rfl;have v1:∀ob,A (w1.alloc ob) C 1 (.slice a1 p.args.length a2):=fun ob=>zA (zB d) rfl;have v4:∀ob,A (w1.alloc ob) C 4 (.slice d1 p.data.length d2):=fun ob=>zA (zB d) rfl;clear c d;have h:=Ja g;clear g))|go_in)
  all_goals go_quiet (fail)
  all_goals go_wp2
  all_goals go_ret
  all_goals exact⟨uz (HR.out.symm.trans rfl),yC ((((Below.refl _ _).alloc (Je _) _).trans (h.out.mono Zs)).alloc (by have l:=h.out.size;simp at l;omega) _)⟩
 |true=>
  obtain⟨k,hk⟩:∃k:Nat,o.a=(k:Int):=⟨o.a.toNat,by have:=of_decide_eq_true h0;omega⟩
  rw[hk] at h3 x ⊢;have t0:decide ((0:Int)<=(k:Int))=true:=decide_eq_true Zo;have t3:decide (k<p.data.length)=x3:=zZ h3 Zo
  cases x3 with
  |false=>
   clear x
   all_goals go_enter Tryz.func138,Tryz.ntmps138
   all_goals go_wp2_with (first|(go_at_call 142;go_must (refine(HF.out _).mono ?_;rintro e w1 ⟨rfl,g⟩;have c:=zH g (zI rfl) Zs;have u0:∀ob,A (w1.alloc ob) w.heap.size 0 (U 2):=fun ob=>zA (zB c) Zs;have u1:∀ob,A (w1.alloc ob) w.heap.size 1 (U o.res):=fun ob=>zA (zB c) Zs;have u2:∀ob,A (w1.alloc ob) w.heap.size 2 (U k):=fun ob=>zA (zB c) Zs;have u3:∀ob,A (w1.alloc ob) w.heap.size 3 (U o.b):=fun ob=>zA (zB c) Zs;have u4:∀ob,A (w1.alloc ob) w.heap.size 4 (O (o.n:Int)):=fun ob=>zA (zB c) Zs;have u5:∀ob,A (w1.alloc ob) w.heap.size 5 (.slice ar o.args.length i):=fun ob=>zA (zB c) Zs;have d:=zH g (zB HC.out) Zt;have v0:∀ob,A (w1.alloc ob) C 0 (.slice f1 p.funcs.length f2):=fun ob=>zA (zB d) rfl;have v1:∀ob,A (w1.alloc ob) C 1 (.slice a1 p.args.length a2):=fun ob=>zA (zB d) rfl;have v4:∀ob,A (w1.alloc ob) C 4 (.slice d1 p.data.length d2):=fun ob=>zA (zB d) rfl;clear c d;have h:=Ja g;clear g))|go_in)
   all_goals go_quiet (fail)
   all_goals go_wp2
   all_goals go_ret
   all_goals exact⟨uz (HR.out.symm.trans rfl),yC ((((Below.refl _ _).alloc (Je _) _).trans (h.out.mono Zs)).alloc (by have l:=h.out.size;simp at l;omega) _)⟩
  |true=>
   have a0:k<p.data.length:=of_decide_eq_true t3;clear x a0 t;have a7:=jZ x1 x4 x6;rcases a7 with rfl|⟨rfl,rfl⟩|⟨rfl,rfl,rfl⟩|⟨rfl,rfl,rfl⟩
   all_goals go_enter Tryz.func138,Tryz.ntmps138
   all_goals go_wp2_with (first|(go_at_call 142;go_must (refine(HF.out _).mono ?_;rintro e w1 ⟨rfl,g⟩;have c:=zH g (zI rfl) Zs;have u0:∀ob,A (w1.alloc ob) w.heap.size 0 (U 2):=fun ob=>zA (zB c) Zs;have u1:∀ob,A (w1.alloc ob) w.heap.size 1 (U o.res):=fun ob=>zA (zB c) Zs;have u2:∀ob,A (w1.alloc ob) w.heap.size 2 (U k):=fun ob=>zA (zB c) Zs;have u3:∀ob,A (w1.alloc ob) w.heap.size 3 (U o.b):=fun ob=>zA (zB c) Zs;have u4:∀ob,A (w1.alloc ob) w.heap.size 4 (O (o.n:Int)):=fun ob=>zA (zB c) Zs;have u5:∀ob,A (w1.alloc ob) w.heap.size 5 (.slice ar o.args.length i):=fun ob=>zA (zB c) Zs;have d:=zH g (zB HC.out) Zt;have v0:∀ob,A (w1.alloc ob) C 0 (.slice f1 p.funcs.length f2):=fun ob=>zA (zB d) rfl;have v1:∀ob,A (w1.alloc ob) C 1 (.slice a1 p.args.length a2):=fun ob=>zA (zB d) rfl;have v4:∀ob,A (w1.alloc ob) C 4 (.slice d1 p.data.length d2):=fun ob=>zA (zB d) rfl;clear c d;have h:=Ja g;clear g))|go_in)
   all_goals go_quiet (fail)
   all_goals go_wp2
   all_goals go_ret
   all_goals exact⟨uz (HR.out.symm.trans rfl),yC ((((Below.refl _ _).alloc (Je _) _).trans (h.out.mono Zs)).alloc (by have l:=h.out.size;simp at l;omega) _)⟩
theorem ju{p:IProg}(o:IOp)(ho:qN o)(ar:Option Addr)(g:Nat)(hs:zi o.code=⟨false,false,false,false,false⟩):
 I 138 #[F C,opV o (.slice ar o.args.length g)] w (ym w (opF p o)):=by
 unfold opV;obtain⟨j,h,l,k,i⟩:=ho;have e:opF p o=false:=by unfold opF;rw[hs];rfl
 rw[e];have hf:∀W,I 142 #[U o.code] W fun e w'=>e=.returned (.tuple #[.agg #[.bool false,.bool false,.bool false,.bool false],.bool false])/\Y W w':=fun W=>by have:=yu o.code W;rw[hs] at this;exact this
 have t:=Ja hf;clear hf hs e;go_enter Tryz.func138,Tryz.ntmps138;go_wp2_with (first|(go_at_call 142;go_must (refine(t.out _).mono ?_;rintro e w1 ⟨rfl,c⟩;have d:=Ja c;clear c))|go_in)
 go_ret;exact⟨rfl,(((Below.refl _ _).alloc (Je _) _).trans (d.out.mono Zs)).alloc (by have m:=d.out.size;simp at m;omega) _⟩
theorem oper_any{B:Nat}{V:PV}{p:IProg}(hp:ProgIn w B V p)(hB:B<=w.heap.size)(k:Q w C (rC V p++tl).toArray 173)(hl:p.args.length=p.funcs.length)(o:IOp)(ho:qN o)(ar:Option Addr)(c:Nat)(d:o.args.length<=c/\c<=9223372036854775807):
 I 138 #[F C,opV o (.slice ar o.args.length c)] w (ym w (opF p o)):=by
 by_cases i:o.code=26
 ·exact kM hp hB k hl o ho ar c d i
 by_cases h2:o.code=2
 ·exact akq hp hB k hl o ho ar c d h2
 by_cases j:o.code=24
 ·exact oper_in (pvs:=[]) o ho ar c d j
 by_cases g:o.code=25
 ·exact oper_out (pvs:=[]) o ho ar c d g
 rcases rJ o.code with⟨h,e⟩|⟨h,e⟩|⟨h,e⟩|⟨h,e⟩|⟨h,e⟩|⟨h,e⟩|⟨h,e⟩|⟨h,e⟩
 ·exact kG (pvs:=[]) o ho ar c d e i h2 j g
 ·exact oper_una (pvs:=[]) o ho ar c d e i h2 j g
 ·exact oper_bin (pvs:=[]) o ho ar c d e i h2 j g
 ·exact oper_sto (pvs:=[]) o ho ar c d e i h2 j g
 ·exact oper_rom (pvs:=[]) o ho ar c d e i h2 j g
 ·exact absurd h g
 ·exact kY (pvs:=[]) o ho ar c d e i h2 j g
 ·exact ju o ho ar c e
def wG (w:World)(xs:List Int)(e:Ending)(w':World):Prop:=∃v,e=.returned v/\zY w' w'.heap.size v xs/\Y w w'
theorem yP{B:Nat}{v:Value}(h:Below B w W)(hg:W.grownBy w' v.ownBlock)(hB:B<=W.heap.size)(hv:∀k,v.ownBlock=some k->B<=k):Below B w w':=
 h.trans ⟨hg.os,hg.tape,hg.output,hg.size,fun k hk=>hg.block k Zo (fun e=>by have:=hv k e.symm;omega)⟩
theorem wF{base:Nat}{e:TypeId}{size n:Nat}{v:Value}{xs:List Value}(h:w.ownsRow base e size v n xs):∀k,v.ownBlock=some k->base<=k:=fun k hk=>(h.lt k hk).1
def UsM (w:World)(os fs:Array Value)(c1:Nat)(W:World)(v:Value)(l:List Int):Prop:=
 Y w W/\Q W w.heap.size os 76/\Q W c1 fs 197/\W.ownsRow w.heap.size 3 1 v l.length (l.map zN)
theorem UsM.put{os fs:Array Value}{c1:Nat}{v v2:Value}{l:List Int}(h:UsM w os fs c1 W v l){x:Int}(c:(W.alloc o).grownBy W2 v.ownBlock)(d:W2.ownsRow w.heap.size 3 1 v2 (l.length+1) (l.map zN++ [U x])):UsM w os fs c1 W2 v2 (l++ [x]):=
 ⟨yP (h.1.alloc h.1.size _) c (by have:=h.1.size;simp;omega) (wF h.2.2.2),zL c (zB h.2.1) (zC h.2.2.2 h.2.1 (.inr Zd)),zL c (zB h.2.2.1) (zC h.2.2.2 h.2.2.1 (.inr Zd)),by rw[Jk,Js];exact d⟩
theorem uses_any(o:IOp)(ho:I64 o.code/\I64 o.res/\I64 o.a/\I64 o.b/\o.n<65536){av:Value}{B:Nat}(hB:B<=w.heap.size)(y:zY w B av o.args)(a4:o.args.length<=1000000000000):
 I 120 #[.agg #[U o.code,U o.res,U o.a,U o.b,O (o.n:Int),av]] w (wG w (rR o)):=by
 obtain⟨aa,ac,rfl,b8,b7⟩:=y.form;obtain⟨ii,a5,u,t,m⟩:=info_parts Tryz.info_int;obtain⟨pa,a3⟩:∃pa,(zi o.code).a=pa:=⟨_,rfl⟩
 obtain⟨pb,a2⟩:∃pb,(zi o.code).b=pb:=⟨_,rfl⟩
 obtain⟨LA,j⟩:∃LA,(if pa then [o.a] else([]:List Int))=LA:=⟨_,rfl⟩
 obtain⟨LB,i⟩:∃LB,(if pb then [o.b] else([]:List Int))=LB:=⟨_,rfl⟩
 have hu:rR o=LA++LB++o.args:=by rw[<-j,<-i,<-a3,<-a2];rfl
 rw[hu]
 obtain⟨q1,q2,q3,hf⟩:∃q1 q2 q3,∀W,I 142 #[U o.code] W fun e w'=>e=.returned (.tuple #[.agg #[.bool q1,.bool pa,.bool pb,.bool q2],.bool q3])/\Y W w':=
  ⟨(zi o.code).res,(zi o.code).n,(zi o.code).is,fun W=>by have:=yu o.code W;unfold yX nL at this;rw[a3,a2] at this;exact this⟩
 have c0:=Ja (show ∀x∈LA++LB++o.args,I64 x by
  intro x g;rcases Jl.1 g with g|g
  ·rw[<-j,<-i] at g;rcases Jl.1 g with g|g
   ·cases pa<;>simp at g
    rw[g];exact ho.2.2.1
   ·cases pb<;>simp at g
    rw[g];exact ho.2.2.2.1
  ·exact zY.all y x g)
 have HL:=Ja (show LA.length<=1/\(LA++LB).length<=2 by rw[<-j,<-i];cases pa<;>cases pb<;>simp);have HF:=Ja hf;have a1:=Ja (show zY w B (.slice aa o.args.length ac) o.args/\B<=w.heap.size/\o.args.length<=1000000000000 from⟨y,hB,a4⟩);have HA:=Ja j;have HB:=Ja i;have b2:=zI (W:=w) (o:=G (P o aa ac) 76) rfl;have b3:Y w (w.alloc (G (P o aa ac) 76)):=(Below.refl _ _).alloc (Je _) _;have k:=Ja (Jb b2 b3);clear hf y hB a4 ho b2 b3 b8 b7 a3 a2 j i hu;go_enter Tryz.func120,Tryz.ntmps120;go_upto_region 2 with(first|(go_at_call 142;go_must (refine(HF.out _).mono ?_;rintro e w1 ⟨rfl,a0⟩))|go_in)
 have hb:=(k.out.2.trans (a0.mono k.out.2.size)).alloc (by have:=k.out.2.size;have:=a0.size;omega) (G #[.bool q1,.bool pa,.bool pb,.bool q2] 197);have b1:=zB (o:=G #[.bool q1,.bool pa,.bool pb,.bool q2] 197) (zH a0 k.out.1 (lt_of_block k.out.1));have b0:=zI (W:=w1) (o:=G #[.bool q1,.bool pa,.bool pb,.bool q2] 197) rfl;generalize b9:w1.alloc (G #[.bool q1,.bool pa,.bool pb,.bool q2] 197)=W1 at *;generalize b6:w1.heap.size=c1 at *;obtain⟨OS,a6⟩:∃OS,((P o aa ac):Array Value)=OS:=⟨_,rfl⟩
 obtain⟨FS,a7⟩:∃FS,(#[.bool q1,.bool pa,.bool pb,.bool q2]:Array Value)=FS:=⟨_,rfl⟩
 have H0:=Ja (show UsM w OS FS c1 W1 (L) [] from⟨hb,a6 ▸ b1,a7 ▸ b0,Jv W1 _ _ _⟩)
 have HC:=Ja (show ∀W v l,UsM w OS FS c1 W v l->A W w.heap.size 2 (U o.a)/\A W w.heap.size 3 (U o.b)/\A W w.heap.size 5 (.slice aa o.args.length ac)/\A W c1 1 (.bool pa)/\A W c1 2 (.bool pb) from fun W v l h=>by
  obtain⟨_,h1,h2,_⟩:=h;rw[<-a6] at h1;rw[<-a7] at h2
  exact⟨zA h1 rfl,zA h1 rfl,zA h1 rfl,zA h2 rfl,zA h2 rfl⟩)
 clear b9 b6 a0 hb b1 b0 a6 a7;obtain⟨x2,x3,x5,f1,f2⟩:=HC.out _ _ _ H0.out
 go_upto_if 13 with fail
 go_cut [5] (fun v wx=>Hid (UsM w OS FS c1 wx v LA))
 case first=>
  cases pa
  ·go_wp2;go_meet;exact Ja (by rw[<-HA.out];exact H0.out)
  ·go_wp2_with (at_builtin;go_must (refine zK _ rfl (.tmp 14) (.tmp 17) 22 rfl w.heap.size 3 ii (U 0) 1 8 Tryz.underlying22 a5 u t m rfl Zd (L) 0 [] rfl (H0.out.2.2.2.alloc _) _ 1 [U o.a] rfl (yM.one (zI Zs) (by simp[Value.oneCell'])) Zd Zd (by have:=H0.out.1.size;simp;omega) ?_;intro v2 W2 d c b4))
   go_meet;exact Ja (by rw[<-HA.out];exact H0.out.put c d)
 case rest=>
  clear x2 x3 x5 f1 f2
  rename World=>wc
  obtain⟨x2,x3,x5,f1,f2⟩:=HC.out _ _ _ hcut.out;have HU:=hcut;clear hcut
  go_upto_if 20 with fail
  go_cut [5] (fun v wx=>Hid (UsM w OS FS c1 wx v (LA++LB)))
  case first=>
   cases pb
   ·go_wp2;go_meet;exact Ja (by rw[<-HB.out];exact(Ua LA).symm ▸ HU.out)
   ·go_wp2_with (at_builtin;go_must (refine zK _ rfl (.tmp 21) (.tmp 24) 22 rfl w.heap.size 3 ii (U 0) 1 8 Tryz.underlying22 a5 u t m rfl Zd u5 LA.length (LA.map zN) rfl (HU.out.2.2.2.alloc _) _ 1 [U o.b] rfl (yM.one (zI Zs) (by simp[Value.oneCell'])) (by have:=HL.out.1;unfold maxLen;omega) (by have:=HL.out.1;omega) (by have:=HU.out.1.size;simp;omega) ?_;intro v2 W2 d c b4))
    go_meet;exact Ja (by rw[<-HB.out];exact HU.out.put c d)
  case rest=>
   clear x2 x3 x5 f1 f2 HU
   rename World=>wd
   obtain⟨x2,x3,x5,f1,f2⟩:=HC.out _ _ _ hcut.out;have HV:=hcut;have b5:=Ja (zY.src (a1.out.1.below zO (hcut.out.1.mono a1.out.2.1)));clear hcut;go_wp2_with (at_builtin;go_must (refine zK _ rfl (.tmp 26) (.tmp 28) 22 rfl w.heap.size 3 ii (U 0) 1 8 Tryz.underlying22 a5 u t m rfl Zd u5 (LA++LB).length ((LA++LB).map zN) rfl HV.out.2.2.2 _ o.args.length (o.args.map zN) rfl b5.out (by have:=a1.out.2.2;have:=HL.out.2;unfold maxLen;omega) (by have:=a1.out.2.2;have:=HL.out.2;omega) HV.out.1.size ?_;intro v9 w9 d c b4))
   go_ret;refine⟨v9,rfl,?_,yP HV.out.1 c HV.out.1.size (wF HV.out.2.2.2)⟩;rw[<-Js] at d;exact uA d (by simp<;>omega) c0.out
theorem nB(o:Nat)(vs:List Value)(hb:Y w W2)(c:X g):Stp X w X (W2.setCells g o vs):=
 ⟨(ze g vs o W2).1.trans hb.os,(ze g vs o W2).2.1.trans hb.tape,(ze g vs o W2).2.2.trans hb.output,by rw[y8];exact hb.size,fun _ h=> .inl h,fun k hk hx=>(ye g k (fun e=>hx (by rw[e];exact c)) vs o W2).trans (hb.block k hk)⟩
theorem nt(h:wW w K X M){t:ITerm}(hk:I64 t.kind)(ha:I64 t.a){tv:Value}(hto:vT w (K.av X) tv t.to)(a7:M.cur<M.f.length):
 I 59 #[F K.pm,.agg #[U t.kind,U t.a,tv]] w (yk K X w (M.endB t) (.tuple #[])):=by
 obtain⟨fv,vv,l,h⟩:=h;obtain⟨b,hb⟩:∃b,M.f[M.cur]? =some b:=⟨_,Jd a7⟩
 obtain⟨q,hq,rfl,d⟩:=h.getB hb;obtain⟨g,c,rfl,b3,a0,b5⟩:=h.fblk hq;obtain⟨ta,tc,rfl,_,_⟩:=hto.form;obtain⟨pa,pc,y,_,_⟩:=d.par.form;obtain⟨oa,oc,m⟩:=zG d.own;obtain⟨ea,ec,a2,_,_⟩:=d.tos.form;have c4:=h.c4;have c5:=h.c5;have u:=wb yr h.own rfl hq;have e0:A w g (M.cur*5) q.pv:=u 0 _ rfl;have e1:=u 1 _ rfl;have e2:=u 2 _ rfl;have e3:=u 3 _ rfl;have e4:=u 4 _ rfl;have a3:=lt_of_block h.blk;have b1:=h.len;have b6:(M.cur:Int)<(l.length:Int):=Zo;have b7:(0:Int)<=(M.cur:Int):=Zo;have b0:=h.flen;rw[y] at e0;rw[m] at e1;rw[a2] at e4;have H:=Ja (Jb h (Jb hq (Jb d (Jb hto (Jb hb (Jb y (Jb m (Jb a2 (Jb hk ha)))))))));clear h hq d hto hb u y m a2 hk ha b1 b0;go_enter Tryz.func59,Tryz.ntmps59;go_upto_region 1 with fail;have a5:∀w',Y w w'->A w' K.pm 4 (T g l.length c)/\A w' K.pm 5 (U (M.cur:Int))/\A w' g (M.cur*5) (.slice pa q.b.params.length pc)/\A w' g (M.cur*5+1) (.slice oa q.ol.length oc)/\A w' g (M.cur*5+2) (U q.b.term.kind)/\A w' g (M.cur*5+3) (U q.b.term.a)/\A w' g (M.cur*5+4) (.slice ea q.b.term.to.length ec):=fun w' hb=>⟨zV hb a3 c4,zV hb a3 c5,zV hb a0 e0,zV hb a0 e1,zV hb a0 e2,zV hb a0 e3,zV hb a0 e4⟩
 have a1:=Ja a5;clear a5 c4 c5 e0 e1 e2 e3 e4
 go_region_held3 (fun w'=>A w' K.pm 4 (T g l.length c)/\A w' K.pm 5 (U (M.cur:Int))/\A w' g (M.cur*5) (.slice pa q.b.params.length pc)/\A w' g (M.cur*5+1) (.slice oa q.ol.length oc)/\A w' g (M.cur*5+2) (U q.b.term.kind)/\A w' g (M.cur*5+3) (U q.b.term.a)/\A w' g (M.cur*5+4) (.slice ea q.b.term.to.length ec))
  ((refine a1.out _ ?_;repeat' (first|exact Below.refl _ _|refine Below.drew ?_|refine Below.alloc ?_ (by simp<;>omega) _|refine Below.setCell ?_ (by simp<;>omega) _)))
  (fail)
 go_upto_region 3 with fail;have a4:Y w (((w.alloc (G #[U t.kind,U t.a,.slice ta t.to.length tc] 82)).alloc (G #[.slice pa q.b.params.length pc,.slice oa q.ol.length oc,U t.kind,U t.a,.slice ta t.to.length tc] 84)).drew):=(((Below.refl _ _).alloc (Je _) _).alloc Zs _).drew;have x:Q (((w.alloc (G #[U t.kind,U t.a,.slice ta t.to.length tc] 82)).alloc (G #[.slice pa q.b.params.length pc,.slice oa q.ol.length oc,U t.kind,U t.a,.slice ta t.to.length tc] 84)).drew) (w.heap.size+1) #[.slice pa q.b.params.length pc,.slice oa q.ol.length oc,U t.kind,U t.a,.slice ta t.to.length tc] 84:=zI Zs;generalize b4:((w.alloc (G #[U t.kind,U t.a,.slice ta t.to.length tc] 82)).alloc (G #[.slice pa q.b.params.length pc,.slice oa q.ol.length oc,U t.kind,U t.a,.slice ta t.to.length tc] 84)).drew=W2 at *;obtain⟨c4,c5,_⟩:=a1.out W2 a4;have l0:=zA (i:=0) x rfl;have l1:=zA (i:=1) x rfl;have l2:=zA (i:=2) x rfl;have l3:=zA (i:=3) x rfl;have l4:=zA (i:=4) x rfl;have HB:=Ja a4;clear a4 x b4 a1;refine zt 11 Zk Zk ?_;simp only[Qo,Uc,Qp,Ui]
 repeat (go_big_quiet_step (fail))
 refine wpQuiet_nil ?_;have a6:=H.out.1.keep HB.out.drew;refine wpList_store_mid rfl 84 (.tmp 28) (.tmp 27) rfl g (M.cur*5) #[.slice pa q.b.params.length pc,.slice oa q.ol.length oc,U t.kind,U t.a,.slice ta t.to.length tc] rfl rfl (zq Zd yr a6.own rfl H.out.2.1) Zk (by simp[Value.oneCell']) ?_;go_wp2
 first|go_end0|refine bodyPost_ret (results_none rfl _ _ _) rfl ?_
 obtain⟨h,hq,d,hto,hb,y,m,a2,hk,ha⟩:=H.out;have hs:Stp X w X (W2.drew.setCells g (M.cur*5) (xG ⟨{q.b with term:=t },q.pv,q.ov,.slice ta t.to.length tc,q.ol⟩)):=nB _ _ HB.out.drew b3;have b2: [Value.slice pa q.b.params.length pc,.slice oa q.ol.length oc,U t.kind,U t.a,.slice ta t.to.length tc]=xG ⟨{q.b with term:=t },q.pv,q.ov,.slice ta t.to.length tc,q.ol⟩:=by unfold xG;rw[y,m]
 rw[b2];refine⟨rfl,X,⟨_,_,_,h.turn (M':=M.endB t) hq rfl hs (fun _ e=>e) (fun k e=>Jy (h.xl k e) hs.size) h.xB (fun k hk' hx hne _=>(ye g k hne _ _ _).trans (HB.out.drew.block k hk')) (fun e=>zC d.own h.blk (.inr Zd) e) (uZ yr a6.own rfl hq _) ?_ (fun j qj k hj h1 h2=>h.apart j _ qj q k hj hq h2 h1) ?_ ⟨rfl,rfl,rfl,rfl,rfl⟩ ?_⟩,hs⟩
 ·exact⟨⟨hk,ha⟩,d.par.step ro (hs.av K),d.ops,yD d.own (fun k hk'=>(ye g k (fun e=>by
   rcases zo d.own h.own Zd with h1|h1
   ·rw[h1] at hk';cases hk'
   ·exact h1 (by rw[hk',e];rfl)) _ _ _).trans (HB.out.drew.block k (d.own.lt k hk').2)),fun o ho=>⟨(d.arg o ho).1,(d.arg o ho).2.step ro (hs.av K)⟩,hto.step yq (hs.av K),d.inX⟩
 ·exact xI hb _
 ·have:=(zv M t).sz;have:=h.bnd;omega
theorem nW (c:Int):((zi c).res=true/\uc c=true)∨((zi c).res=false/\c=26/\uc c=true)∨((zi c).res=false/\c≠26/\uc c=false):=by
 unfold uc
 by_cases h:(zi c).res=true
 ·exact .inl ⟨h,by rw[h];rfl⟩
 ·have d:(zi c).res=false:=by simpa using h
  by_cases e:c=26
  ·exact .inr (.inl ⟨d,e,by rw[decide_eq_true e,Bool.or_true]⟩)
  ·exact .inr (.inr ⟨d,e,by rw[d,decide_eq_false e];rfl⟩)
def uN (M:MS)(c:Int):Nat:=if uc c then M.next+1 else M.next
def sB (M:MS)(c:Int):Int:=if uc c then(M.next:Int) else -1
def EmMid (w:World)(K:MKC)(X:Nat->Prop)(M:MS)(fv vv:Value)(l:List BM)(o:IOp)(av:Value)(wx:World):Prop:=
 Q wx w.heap.size #[U o.code,U (sB M o.code),U o.a,U o.b,O (o.n:Int),av] 76/\MkIn wx K X {M with next:=uN M o.code } fv vv l/\Stp X w X wx
theorem rD(h:wW w K X M){o:IOp}(ho:qN o){av:Value}(f1:wm w (K.av X) av o.args)(hcur:M.cur<M.f.length)(hz:M.sz+3<=1000000):
 I 132 #[F K.pm,.agg #[U o.code,U o.res,U o.a,U o.b,O (o.n:Int),av]] w (yk K X w (M.emit o) (U (sB M o.code))):=by
 obtain⟨fv,vv,l,h⟩:=h;obtain⟨aa,ac,f0,_,_⟩:=f1.form;have b8:=lt_of_block h.blk;have H:=Ja (Jb h (Jb ho (Jb f1 (Jb f0 (Jb hcur hz)))));clear h ho f1 hcur hz;subst f0;go_enter Tryz.func132,Tryz.ntmps132;go_upto_region 3 with(go_at_call 52;go_must (refine(aaK o.code _).mono ?_;rintro e w1 ⟨rfl,e9⟩;unfold acg;have bx:Q w1 w.heap.size (P o aa ac) 76:=zH e9 (zI rfl) Zs;have y0:=zA (i:=0) bx rfl;have y1:=zA (i:=1) bx rfl;have k4:N w1 w.heap.size 1:=zE bx;have l9:=lt_of_block bx))
 have d3:Y w w1:=(((Below.refl w.heap.size w).alloc (Je _) _).trans (e9.mono Zs))
 have a2:Y w ((w1.setCell ⟨w.heap.size,1,none⟩ (U (-1))).alloc (G #[.bool (zi o.code).is,.bool (zi o.code).res,.bool (zi o.code).a,.bool (zi o.code).b,.bool (zi o.code).n] 120)):=(d3.setCell (Je _) _).alloc (by have:=d3.size;simp;omega) _;have d2:Q ((w1.setCell ⟨w.heap.size,1,none⟩ (U (-1))).alloc (G #[.bool (zi o.code).is,.bool (zi o.code).res,.bool (zi o.code).a,.bool (zi o.code).b,.bool (zi o.code).n] 120)) w.heap.size #[U o.code,U (-1),U o.a,U o.b,O (o.n:Int),.slice aa o.args.length ac] 76:=zB (zD bx _);have e8:Q ((w1.setCell ⟨w.heap.size,1,none⟩ (U (-1))).alloc (G #[.bool (zi o.code).is,.bool (zi o.code).res,.bool (zi o.code).a,.bool (zi o.code).b,.bool (zi o.code).n] 120)) w1.heap.size #[.bool (zi o.code).is,.bool (zi o.code).res,.bool (zi o.code).a,.bool (zi o.code).b,.bool (zi o.code).n] 120:=zI Zs;generalize k1:(w1.setCell ⟨w.heap.size,1,none⟩ (U (-1))).alloc (G #[.bool (zi o.code).is,.bool (zi o.code).res,.bool (zi o.code).a,.bool (zi o.code).b,.bool (zi o.code).n] 120)=W2 at *;generalize m2:w1.heap.size=c2 at *;have z0:=zA (i:=0) d2 rfl;have z1:=zA (i:=1) e8 rfl;have H2:=Ja (Jb a2 (Jb d2 e8));clear e9 bx y0 y1 k4 d3 a2 d2 e8 k1
 go_cut [17] (fun v wx=>v=.bool (uc o.code)/\wx=W2)
 case first=>
  rcases nW o.code with⟨e1,e2⟩|⟨e1,e3,e2⟩|⟨e1,e3,e2⟩
  all_goals rw[e1] at z1
  all_goals have E2:=Ja e2
  ·clear e1 e2;go_wp2;go_meet;exact⟨by rw[E2.out],rfl⟩
  ·have i2:(o.code==26)=true:=by rw[e3];rfl
   clear e1 e2 e3;go_wp2;go_meet;exact⟨by rw[E2.out],rfl⟩
  ·have i2:(o.code==26)=false:=by rw[beq_eq_false_iff_ne];exact e3
   clear e1 e2 e3;go_wp2;go_meet;exact⟨by rw[E2.out],rfl⟩
 case rest=>
  obtain⟨rfl,l6⟩:=hcut;subst wc;have a3:=H.out.1.keep H2.out.1;have g3:=ahJ a3 (by have:=H.out.2.2.2.2.2;omega)
  have c3:uc o.code=false->EmMid w K X M fv vv l o (.slice aa o.args.length ac) W2:=fun e=>by
   have e1:sB M o.code=-1:=by unfold sB;rw[e];rfl
   have e2:uN M o.code=M.next:=by unfold uN;rw[e];rfl
   exact⟨by rw[e1];exact H2.out.2.1,by rw[e2];exact a3,Stp.of_below H2.out.1⟩
  have c0:uc o.code=true->EmMid w K X M fv vv l o (.slice aa o.args.length ac) ((W2.setCell ⟨K.pm,6,none⟩ (U ((M.next+1:Nat):Int))).setCell ⟨w.heap.size,1,none⟩ (U (M.next:Int))):=fun e=>by
   have e1:sB M o.code=(M.next:Int):=by unfold sB;rw[e];rfl
   have e2:uN M o.code=M.next+1:=by unfold uN;rw[e];rfl
   have l8:=lt_of_block H.out.1.blk;have j0:=(a3.blk)
   have g0:=H.out.1.only (W:=((W2.setCell ⟨K.pm,6,none⟩ (U ((M.next+1:Nat):Int))).setCell ⟨w.heap.size,1,none⟩ (U (M.next:Int)))) (M':= {M with next:=M.next+1 }) (by simpa using H2.out.1.size) ⟨H2.out.1.os,H2.out.1.tape,H2.out.1.output⟩ (fun k hk hne=>(Below.heap_setCell _ ⟨w.heap.size,1,none⟩ _ k (by show k≠w.heap.size;omega)).trans ((Below.heap_setCell _ ⟨K.pm,6,none⟩ _ k hne).trans (H2.out.1.block k hk)))
    (zR (zD j0 _) (by show K.pm≠w.heap.size;omega)) rfl rfl (by have:=H.out.2.2.2.2.2;unfold MS.sz at *;simp only at *;omega) H.out.1.lft
   refine⟨?_,by rw[e2];exact g0.1,g0.2⟩;rw[e1];exact zD (zR H2.out.2.1 (by show w.heap.size≠K.pm;omega)) _
  have h9:∀(u:Value),N (W2.setCell ⟨K.pm,6,none⟩ u) w.heap.size 1:=fun u=>(World.frozen?_setCell ..).trans (zE H2.out.2.1)
  have i0:∀(u:Value),A (W2.setCell ⟨K.pm,6,none⟩ u) w.heap.size 1 (U (-1)):=fun u=>zA (i:=1) (zR (a:=⟨K.pm,6,none⟩) (u:=u) H2.out.2.1 (by show w.heap.size≠K.pm;omega)) rfl
  have y:=Ja (Jb g3 (Jb c3 c0));clear g3 c3 c0 a3
  go_upto_if 17 with fail
  go_cut [] (fun wx=>Hid (EmMid w K X M fv vv l o (.slice aa o.args.length ac) wx))
  case first=>
   obtain⟨r,hr⟩:∃r,uc o.code=r:=⟨_,rfl⟩
   have HR:=Ja hr;rw[hr];clear hr;cases r
   ·go_wp2;go_meet;exact Ja (y.out.2.1 HR.out)
   ·go_wp2_with (go_at_call 110;go_must (refine y.out.1.mono ?_;rintro e w3 ⟨rfl,rfl⟩))
    go_meet;exact Ja (y.out.2.2 HR.out)
  case rest=>
   obtain⟨b1,h,hs⟩:=hcut.out;have hcur:=H.out.2.2.2.2.1;obtain⟨b,hb⟩:∃b,M.f[M.cur]? =some b:=⟨_,Jd hcur⟩
   obtain⟨q,hq,rfl,a6⟩:=h.getB (i:=M.cur) hb;obtain⟨g,c,rfl,m4,b0,m0⟩:=h.fblk hq;obtain⟨pa,pc,b7,_,_⟩:=a6.par.form;obtain⟨oa,oc,b3⟩:=zG a6.own;obtain⟨ea,ec,b6,_,_⟩:=a6.tos.form;have c4:=h.c4;have c5:A wc K.pm 5 (U (M.cur:Int)):=h.c5;have a5:=wb yr h.own rfl hq;have e0:A wc g (M.cur*5) q.pv:=a5 0 _ rfl;have e1:=a5 1 _ rfl;have e2:=a5 2 _ rfl;have e3:=a5 3 _ rfl;have e4:=a5 4 _ rfl;have b8:=lt_of_block h.blk;have j1:l.length=M.f.length:=h.len;have m1:(M.cur:Int)<(l.length:Int):=Zo;have m3:(0:Int)<=(M.cur:Int):=Zo;have j5:=lt_of_block b1;rw[b7] at e0;rw[b3] at e1;rw[b6] at e4;have f2:∀w',Y wc w'->A w' K.pm 4 (T g l.length c)/\A w' K.pm 5 (U (M.cur:Int))/\A w' g (M.cur*5) (.slice pa q.b.params.length pc)/\A w' g (M.cur*5+1) (.slice oa q.ol.length oc)/\A w' g (M.cur*5+2) (U q.b.term.kind)/\A w' g (M.cur*5+3) (U q.b.term.a)/\A w' g (M.cur*5+4) (.slice ea q.b.term.to.length ec):=fun w' hb=>⟨zV hb b8 c4,zV hb b8 c5,zV hb b0 e0,zV hb b0 e1,zV hb b0 e2,zV hb b0 e3,zV hb b0 e4⟩
   have f5:=Ja f2;have HC:=Ja (Jb h (Jb hq (Jb a6 (Jb hb (Jb b7 (Jb b3 (Jb b6 (Jb b1 hs))))))));obtain⟨R,hR⟩:∃R,sB M o.code=R:=⟨_,rfl⟩
   rw[hR] at b1;have HR:=Ja hR;clear f2 c4 c5 e0 e1 e2 e3 e4 h hs hq a6 hb a5 b7 b3 b6 j1 hcut y h9 i0 z0 z1 hR;go_upto_region 5 with fail
   go_region_held3 (fun w'=>A w' K.pm 4 (T g l.length c)/\A w' K.pm 5 (U (M.cur:Int))/\A w' g (M.cur*5) (.slice pa q.b.params.length pc)/\A w' g (M.cur*5+1) (.slice oa q.ol.length oc)/\A w' g (M.cur*5+2) (U q.b.term.kind)/\A w' g (M.cur*5+3) (U q.b.term.a)/\A w' g (M.cur*5+4) (.slice ea q.b.term.to.length ec))
    ((refine f5.out _ ?_;repeat' (first|exact Below.refl _ _|refine Below.drew ?_|refine Below.alloc ?_ (by simp<;>omega) _|refine Below.setCell ?_ (by simp<;>omega) _)))
    (fail)
   go_upto_region 6 with fail;have a2:Y wc ((wc.alloc (G #[.slice pa q.b.params.length pc,.slice oa q.ol.length oc,U q.b.term.kind,U q.b.term.a,.slice ea q.b.term.to.length ec] 84)).drew):=((Below.refl _ _).alloc (Je _) _).drew;have c8:Q ((wc.alloc (G #[.slice pa q.b.params.length pc,.slice oa q.ol.length oc,U q.b.term.kind,U q.b.term.a,.slice ea q.b.term.to.length ec] 84)).drew) wc.heap.size #[.slice pa q.b.params.length pc,.slice oa q.ol.length oc,U q.b.term.kind,U q.b.term.a,.slice ea q.b.term.to.length ec] 84:=zI rfl;generalize k2:(wc.alloc (G #[.slice pa q.b.params.length pc,.slice oa q.ol.length oc,U q.b.term.kind,U q.b.term.a,.slice ea q.b.term.to.length ec] 84)).drew=V2 at *;have a3:=HC.out.1.keep a2;have e6:=HC.out.2.2.1.step (Stp.of_below a2) (fun k hk=>a2.block k (HC.out.2.2.1.own.lt k hk).2) (fun _ e=>e);have a0:=zH a2 b1 j5;have l1:=zA (i:=1) c8 rfl;have x0:=zA (i:=0) a0 rfl;have x1:=zA (i:=1) a0 rfl;have x2:=zA (i:=2) a0 rfl;have x3:=zA (i:=3) a0 rfl;have x4:=zA (i:=4) a0 rfl;have x5:=zA (i:=5) a0 rfl;have j2:=lt_of_block c8;have b2:=e6.own;rw[HC.out.2.2.2.2.2.1] at b2;have d8:yM (V2.alloc (G #[U o.code,U R,U o.a,U o.b,O (o.n:Int),.slice aa o.args.length ac] 76)) 6 (T V2.heap.size 1 1) 1 (zU ({o with res:=R },.slice aa o.args.length ac)):=yM.cells (zI rfl) rfl (by simp[zU,Value.oneCell'])
   have hn:q.ol.length<=1000000:=by
    have h1:=opsN_le HC.out.2.2.2.1;rw[HC.out.2.2.1.ops,Nr] at h1;have h2:=HC.out.1.bnd;unfold MS.sz at h2;simp only at h2;omega
   have HV:=Ja (Jb a2 (Jb c8 (Jb a3 (Jb e6 (Jb a0 (Jb b2 (Jb d8 hn)))))));have k3:K.B<=V2.heap.size:=a3.size;obtain⟨ii,j4,h6,h5,h4⟩:=info_parts Tryz.info_irop;clear a2 c8 a3 e6 a0 b2 d8 k2 b1 f5 hn;go_upto_region 7 with(at_builtin;go_must (refine zK _ rfl (.tmp 33) (.tmp 35) 77 rfl K.B 76 ii (.agg #[U 0,U 0,U 0,U 0,O 0,L]) 6 64 Tryz.underlying77 j4 h6 h5 h4 rfl Zd (.slice oa q.ol.length oc) q.ol.length (q.ol.flatMap zU) rfl (HV.out.2.2.2.2.2.1.alloc _) _ 1 (zU ({o with res:=R },.slice aa o.args.length ac)) rfl HV.out.2.2.2.2.2.2.1 (by have:=HV.out.2.2.2.2.2.2.2;unfold maxLen;omega) (by have:=HV.out.2.2.2.2.2.2.2;omega) Zt ?_;intro v9 w9 j d a4;obtain⟨oa9,oc9,rfl⟩:=zG j;have hz:=zL d (zB HV.out.2.1) (by have:=zC HV.out.2.2.2.2.2.1 HV.out.2.1 (.inr Zd);exact this);have d1:=zA (i:=1) hz rfl;have i9:N w9 wc.heap.size 1:=zE hz))
   have f9:q.ov.ownBlock≠some g:=fun e=>by
    rcases zo HC.out.2.2.1.own HC.out.1.own Zd with h1|h1
    ·rw[h1] at e;cases e
    ·exact h1 (by rw[e];rfl)
   have d9:(Value.slice oa q.ol.length oc).ownBlock=q.ov.ownBlock:=by rw[HC.out.2.2.2.2.2.1]
   rw[d9] at d a4
   have c9:(w9.setCell ⟨wc.heap.size,1,none⟩ (.slice oa9 (q.ol.length+1) oc9)).ownsRow K.B 84 5 (T g l.length c) l.length (l.flatMap xG):=yD HC.out.1.own (fun k e=>by
    have e2:k=g:=by simp[Value.ownBlock] at e;exact e.symm
    subst e2
    exact(Below.heap_setCell w9 ⟨wc.heap.size,1,none⟩ _ k (by show k≠wc.heap.size;omega)).trans ((d.block k (by have:=HV.out.1.size;simp;omega) (fun e3=>f9 e3.symm)).trans ((Below.heap_alloc V2 _ k (by have:=HV.out.1.size;omega)).trans (HV.out.1.block k b0))))
   have e7:q.ov.ownBlock≠some K.pm:=fun e=>zC HC.out.2.2.1.own HC.out.1.blk (.inr Zd) e
   have b9:=zR (a:=⟨wc.heap.size,1,none⟩) (u:=.slice oa9 (q.ol.length+1) oc9) (zL d (zB HV.out.2.2.1.blk) e7) (by show K.pm≠wc.heap.size;omega);have a7:=zD hz (i:=1) (.slice oa9 (q.ol.length+1) oc9);have c4:A (w9.setCell ⟨wc.heap.size,1,none⟩ (.slice oa9 (q.ol.length+1) oc9)) K.pm 4 (T g l.length c):=zA (i:=4) b9 rfl;have c5:A (w9.setCell ⟨wc.heap.size,1,none⟩ (.slice oa9 (q.ol.length+1) oc9)) K.pm 5 (U (M.cur:Int)):=zA (i:=5) b9 rfl;have l0:=zA (i:=0) a7 rfl;have l1:=zA (i:=1) a7 rfl;have l2:=zA (i:=2) a7 rfl;have l3:=zA (i:=3) a7 rfl;have l4:=zA (i:=4) a7 rfl;have HG:=Ja (Jb j (Jb d (Jb a4 (Jb hz c9))));have d5:=zq Zd yr c9 rfl HC.out.2.1;generalize f3:w9.setCell ⟨wc.heap.size,1,none⟩ (.slice oa9 (q.ol.length+1) oc9)=W10 at c4 c5 l0 l1 l2 l3 l4 d5 ⊢;have f4:=Ja f3;have g4:=Ja d5;clear j d a4 hz d1 i9 b9 a7 f9 d9 c9 e7 d5 f3 x0 x1 x2 x3 x4 x5 k3;refine zt 11 Zk Zk ?_;simp only[Qo,Uc,Qp,Ui]
   repeat (go_big_quiet_step (fail))
   refine wpQuiet_nil ?_;refine wpList_store_mid rfl 84 (.tmp 48) (.tmp 47) rfl g (M.cur*5) #[.slice pa q.b.params.length pc,.slice oa9 (q.ol.length+1) oc9,U q.b.term.kind,U q.b.term.a,.slice ea q.b.term.to.length ec] rfl rfl g4.out Zk (by simp[Value.oneCell']) ?_;go_upto_region 8 with fail
   have h7:∃X',MkIn (W10.drew.setCells g (M.cur*5) [.slice pa q.b.params.length pc,.slice oa9 (q.ol.length+1) oc9,U q.b.term.kind,U q.b.term.a,.slice ea q.b.term.to.length ec]) K X' {M with next:=uN M o.code,f:=M.f.set M.cur {q.b with ops:=q.b.ops++ [{o with res:=R }]}} (T g l.length c) vv (l.set M.cur ⟨{q.b with ops:=q.b.ops++ [{o with res:=R }]},q.pv,.slice oa9 (q.ol.length+1) oc9,q.tv,q.ol++ [({o with res:=R },.slice aa o.args.length ac)]⟩)
    /\Stp X wc X' (W10.drew.setCells g (M.cur*5) [.slice pa q.b.params.length pc,.slice oa9 (q.ol.length+1) oc9,U q.b.term.kind,U q.b.term.a,.slice ea q.b.term.to.length ec]):=by
    obtain⟨h,hq,a6,hb,b7,b3,b6,b1,hs⟩:=HC.out;obtain⟨j,d,a4,hz,c9⟩:=HG.out;refine h.putO (M':= {M with next:=uN M o.code,f:=M.f.set M.cur {q.b with ops:=q.b.ops++ [{o with res:=R }]}}) hq rfl (HV.out.1.alloc HV.out.1.size _) d j (fun k e=>?_) (Je _) hz ⟨.slice oa9 (q.ol.length+1) oc9,?_⟩ ⟨?_,H.out.2.2.1.step ro (hs.av K)⟩ rfl ⟨rfl,rfl,rfl,rfl,rfl⟩ ?_
    ·rcases a4 with e2|e2
     ·exact .inl (by rw[<-e2];exact e)
     ·right;have e3:=e2.symm.trans e;have:=HV.out.1.size;simp at e3;omega
    ·rw[<-f4.out];unfold xG;rw[b7,b6]
    ·obtain⟨o1,o2,o3,o4,o5⟩:=H.out.2.1;refine⟨o1,?_,o3,o4,o5⟩;rw[<-HR.out];unfold sB;have:M.next<=M.sz:=by unfold MS.sz;omega
     have:=H.out.2.2.2.2.2
     show I64 (if uc o.code then(M.next:Int) else -1)
     split<;>exact⟨by omega,by omega⟩
    ·have h1:=sN M.f M.cur q.b {q.b with ops:=q.b.ops++ [{o with res:=R }]} hb;simp at h1;have h2:=H.out.2.2.2.2.2;unfold MS.sz at h2 ⊢;unfold uN;simp only[Nd]
     split<;>omega
   obtain⟨X',hm,d7⟩:=h7;have d6:=HC.out.2.2.2.2.2.2.2.2.trans d7;have b4:=d7.blk HC.out.2.2.2.2.2.2.2.1 (fun e=>by have:=H.out.1.xl _ e;omega);generalize k0:W10.drew.setCells g (M.cur*5) [.slice pa q.b.params.length pc,.slice oa9 (q.ol.length+1) oc9,U q.b.term.kind,U q.b.term.a,.slice ea q.b.term.to.length ec]=WF at *;generalize l.set M.cur ⟨{q.b with ops:=q.b.ops++ [{o with res:=R }]},q.pv,.slice oa9 (q.ol.length+1) oc9,q.tv,q.ol++ [({o with res:=R },.slice aa o.args.length ac)]⟩=lst at *;rw[HR.out] at b4;have x1:=zA (i:=1) b4 rfl;have y:=Ja (Jb hm (Jb d6 b4))
   have g1: {M with next:=uN M o.code,f:=M.f.set M.cur {q.b with ops:=q.b.ops++ [{o with res:=R }]}}= {M.emit o with vals:=M.vals }:=by
    unfold MS.emit;rw[xI HC.out.2.2.2.1,<-HR.out];rfl
   have g5:=Ja g1;clear hm d7 d6 b4 k0 g1 c4 c5 l0 l1 l2 l3 l4 HG g4 f4 HV j2;obtain⟨r,hr⟩:∃r,uc o.code=r:=⟨_,rfl⟩
   have d0:=Ja hr;clear hr;cases r
   ·obtain rfl:R=-1:=by rw[<-HR.out];unfold sB;rw[d0.out];rfl
    go_wp2;go_ret;have a1:=y.out.1;rw[g5.out] at a1;have e: {M.emit o with vals:=M.vals }=M.emit o:=by unfold MS.emit;rw[d0.out];rfl
    rw[e] at a1;exact⟨zh HR.out.symm,X',⟨_,_,_,a1⟩,y.out.2.1⟩
   ·obtain rfl:R=(M.next:Int):=by rw[<-HR.out];unfold sB;rw[d0.out];rfl
    obtain⟨va,vc,d4⟩:=zG y.out.1.vown;have j:=y.out.1.vown;have c7:=y.out.1.c7;have f7:=y.out.1.free 7;have f8:=lt_of_block y.out.1.blk;have nb:=zC j y.out.1.blk (.inr Zd);rw[d4] at j c7 nb;have h8:=Ja j;have k7:=Ja d4
    have l7:M.vals.length<=1000000:=by
     have h2:=H.out.2.2.2.2.2;unfold MS.sz at h2;omega
    have k6:∀o,A (WF.alloc o) K.pm 7 (.slice va M.vals.length vc):=fun o=>(Oo (w:=WF) (Below.heap_alloc _ _ _ f8)).trans c7
    have k5:∀o,N (WF.alloc o) K.pm 7:=fun o=>(Qm (w:=WF) (Below.heap_alloc _ _ _ f8)).trans f7
    have i1:∀o,A (WF.alloc o) w.heap.size 1 (U (M.next:Int)):=fun o=>(Oo (w:=WF) (Below.heap_alloc _ _ _ (lt_of_block y.out.2.2))).trans x1
    have i8:=zC j y.out.2.2 (.inr Zd);have m5:K.B<=WF.heap.size:=y.out.1.size;have l5:=lt_of_block y.out.2.2;obtain⟨ij,j3,h0,g9,g6⟩:=info_parts Tryz.info_int;clear j d4;go_upto_region 9 with fail
    go_region_law (first|(refine step_append_lies _ (by rfl) (.tmp 56) (.tmp 59) _ (by rfl) K.B 3 ij (U 0) 1 8 Tryz.underlying22 j3 h0 g9 g6 rfl Zo (.slice va M.vals.length vc) M.vals.length (M.vals.map zN) (by rfl) ((h8.out.alloc _).drew) ⟨WF.heap.size,0,none⟩ 1 1 [U (M.next:Int)] (by rfl) (by rfl) (Oi (cs:=#[U (M.next:Int)]) (t:=3) (fr:=(0,0)) (heap_alloc_new WF _)) (by simp[Value.oneCell']) Zo (by unfold maxLen;omega) Zo Zt (WF.heap.size+1) Zs ?_;intro gg b5 w3 f6 d a4 k9;have m7:=(d.cell_far ⟨K.pm,7,none⟩ Zt (Ne.symm nb)).trans (k6 _);have m6:=(d.frozen_far ⟨K.pm,7,none⟩ Zt (Ne.symm nb)).trans (k5 _);have bp3:=(d.cell_far ⟨w.heap.size,1,none⟩ Zt (Ne.symm i8)).trans (i1 _)))
    all_goals go_wp2_with fail
    all_goals go_ret
    all_goals (
     have d1:(show MS from {M with next:=uN M o.code,f:=M.f.set M.cur {q.b with ops:=q.b.ops++ [{o with res:=(M.next:Int)}]}}).sz+1<=1000000:=by
      have h1:=sN M.f M.cur q.b {q.b with ops:=q.b.ops++ [{o with res:=(M.next:Int)}]} HC.out.2.2.2.1;simp at h1;have h2:=H.out.2.2.2.2.2;unfold MS.sz at h2 ⊢;unfold uN;simp only[Nd]
      split<;>omega
     have g2:=xN d;rw[<-k7.out] at g2 a4
     have hP:=y.out.1.putV (vv':=T gg (M.vals.length+1) b5) (x:=(M.next:Int)) g2 f6 (fun k e=>by
      have e2:gg=k:=by simpa[Value.ownBlock] using e
      subst e2;rcases a4 with e3|e3
      ·exact .inl e3
      ·right;omega) (by have:=H.out.2.2.2.2.2;have:M.next<=M.sz:=by(unfold MS.sz;omega)
                        exact⟨by omega,by omega⟩) d1
     have a1:=hP.1
     have e:(show MS from {(show MS from {M with next:=uN M o.code,f:=M.f.set M.cur {q.b with ops:=q.b.ops++ [{o with res:=(M.next:Int)}]}}) with vals:=M.vals++ [(M.next:Int)]})=M.emit o:=by
      have:=g5.out;have h3:(M.emit o).vals=M.vals++ [(M.next:Int)]:=by unfold MS.emit;rw[d0.out];rfl
      rw[<-h3];exact congrArg (fun m:MS=> {m with vals:=(M.emit o).vals }) this
     have e5:=congrArg (fun m=>MkIn (w3.setCell ⟨K.pm,7,none⟩ (T gg (M.vals.length+1) b5)) K (fun k=>X' k∨(Value.slice (some ⟨gg,0,none⟩) (M.vals.length+1) b5).ownBlock=some k) m (T g l.length c) (T gg (M.vals.length+1) b5) lst) e
     exact⟨zh HR.out.symm,_,⟨_,_,_,cast e5 a1⟩,y.out.2.1.trans hP.2⟩)
theorem Tryz.info_irblock:(Tryz.prog.info? 84).map (fun i=>(i.zero,i.size,i.bytes))=some (some (.agg #[.slice none 0 0,.slice none 0 0,U 0,U 0,.slice none 0 0]),5,88):=by kernel_rfl
def iZ (next i:Nat):List Int:=(List.range i).map fun k=>((next+k:Nat):Int)
theorem jE (next i:Nat):iZ next (i+1)=iZ next i++ [((next+i:Nat):Int)]:=by unfold iZ;rw[List.range_succ,Js];rfl
theorem parL_len (next i:Nat):(iZ next i).length=i:=by unfold iZ;simp
structure BlkMid (w:World) (K:MKC) (M:MS) (fv vv:Value) (pv:Value) (i:Nat) (wx:World):Prop where
 box:wx.heap[w.heap.size]? =some (.cells #[pv,.slice none 0 0,.int .i64 0,.int .i64 0,.slice none 0 0] 84 (0,0))
 own:wx.ownsRow (w.heap.size+1) 3 1 pv i ((iZ M.next i).map zN)
 size:w.heap.size+1<=wx.heap.size
 rest:wx.os=w.os/\wx.tape=w.tape/\wx.output=w.output
 kept:∀k,k<w.heap.size->k≠K.pm->wx.heap[k]? =w.heap[k]?
 pm:wx.heap[K.pm]? =some (.cells (uC K {M with next:=M.next+i } fv vv) 128 (0,0))
theorem BlkMid.mk'{fv pv:Value}(h:MkIn w K X M fv vv l)(hm:BlkMid w K M fv vv pv i wx)(c:M.sz+i<=1000000):MkIn wx K X {M with next:=M.next+i } fv vv l/\Stp X w X wx:=
 h.only (by have:=hm.size;omega) hm.rest hm.kept hm.pm rfl rfl (by unfold MS.sz at *;simp only at *;omega) h.lft
theorem BlkMid.start{fv:Value}(h:MkIn w K X M fv vv l):BlkMid w K M fv vv (L) 0 (w.alloc (G #[L,L,U 0,U 0,L] 84)):=
 ⟨zI rfl,Jv _ _ _ _,by simp,⟨rfl,rfl,rfl⟩,fun k hk _=>Below.heap_alloc w _ k hk,zB h.blk⟩
theorem BlkMid.next{wr w3:World}{fv pv c:Value}(h:MkIn w K X M fv vv l)(hm:BlkMid w K M fv vv pv i wr)(hg:((wr.setCell ⟨K.pm,6,none⟩ (U ((M.next+i+1:Nat):Int))).alloc o).grownBy w3 pv.ownBlock)
 (d:w3.ownsRow (w.heap.size+1) 3 1 c (i+1) ((iZ M.next i).map zN++ [zN ((M.next+i:Nat):Int)])):BlkMid w K M fv vv c (i+1) (w3.setCell ⟨w.heap.size,0,none⟩ c):=by
 have g:=lt_of_block h.blk;have j:=lt_of_block hm.pm;have t:=lt_of_block hm.box;have n1:=zC hm.own hm.box (.inr Zd);have n2:=zC hm.own hm.pm (.inr Zd);have b1:=zL hg (zB (o:=o) (zR (a:=⟨K.pm,6,none⟩) (u:=U ((M.next+i+1:Nat):Int)) hm.box (by show w.heap.size≠K.pm;omega))) n1;have p1:=zL hg (zB (o:=o) (zD hm.pm (i:=6) (U ((M.next+i+1:Nat):Int)))) n2;have hs:=hg.size;have m:=hm.size;simp at hs;refine⟨zD b1 _,?_,by simp;omega,⟨hg.os.trans hm.rest.1,hg.tape.trans hm.rest.2.1,hg.output.trans hm.rest.2.2⟩,fun k hk hne=>?_,?_⟩
 ·rw[jE,Js];exact ownsRow_setCell_other d (fun e=>zC d b1 (.inr Zd) (by simpa using e)) _
 ·refine(Below.heap_setCell w3 ⟨w.heap.size,0,none⟩ _ k (by show k≠w.heap.size;omega)).trans ((hg.block k Zt (fun e=>?_)).trans ((Below.heap_alloc _ _ k Zt).trans ((Below.heap_setCell wr ⟨K.pm,6,none⟩ _ k hne).trans (hm.kept k hk hne))));have:=(hm.own.lt k e.symm).1;omega
 ·exact zR p1 (by show K.pm≠w.heap.size;omega)
theorem rU(h:wW w K X M){n:Nat}(hz:M.sz+1+n<=1000000):
 I 56 #[F K.pm,U n] w (yk K X w (M.block n) (U (M.f.length:Int))):=by
 obtain⟨fv,vv,l,h⟩:=h;have H:=Ja (Jb h hz);have a1:=BlkMid.start h;have e1:=Ja a1;have e5:=lt_of_block h.blk;clear h hz a1;go_enter Tryz.func56,Tryz.ntmps56;go_wp2
 go_loopw [6] (fun iv wx=>∃(i:Nat) (pv:Value),i<=n/\iv=U i/\Hid (BlkMid w K M fv vv pv i wx)) (fun iv _=>n-(intOf iv).toNat)
 case atStart=>exact⟨0,_,Jt _,rfl,e1⟩
 case round=>
  obtain⟨i,pv,hi,rfl,c⟩:=hrel
  by_cases d2:i<n
  ·have d0:(i:Int)<n:=Zo;have a7:i+1<=n:=d2;obtain⟨pa,pc,j⟩:=zG c.out.own;have hk:=(BlkMid.mk' H.out.1 c.out (by have:=H.out.2;omega)).1;have b6:I 110 #[F K.pm] wr.drew fun e w'=>e=.returned (U ((M.next+i:Nat):Int))/\w'=(wr.setCell ⟨K.pm,6,none⟩ (U ((M.next+i+1:Nat):Int))).drew:=ahJ (hk.keep (Below.refl _ _).drew) (by have:=H.out.2;unfold MS.sz at *;simp only at *;omega)
   have d:=c.out.own;rw[j] at d;have c0:=zA (i:=0) c.out.box rfl;rw[j] at c0;have n1:=zC d c.out.box (.inr Zd);have e7:i<=1000000:=by have:=H.out.2;omega
   have d6:=lt_of_block c.out.box;have e4:=c.out.size;obtain⟨ij,d4,c9,c8,c7⟩:=info_parts Tryz.info_int;have a2:=lt_of_block c.out.pm;have HO:=Ja (Jb d (Jb b6 (Jb j (lt_of_block c.out.box))));have b9:∀(u:Value) (o:Obj),A ((wr.setCell ⟨K.pm,6,none⟩ u).alloc o) w.heap.size 0 (.slice pa i pc):=fun u o=>zA (i:=0) (zB (o:=o) (zR (a:=⟨K.pm,6,none⟩) (u:=u) c.out.box (by show w.heap.size≠K.pm;omega))) (by rw[j];rfl)
   have b8:∀(u:Value) (o:Obj),N ((wr.setCell ⟨K.pm,6,none⟩ u).alloc o) w.heap.size 0:=fun u o=>zE (zB (o:=o) (zR (a:=⟨K.pm,6,none⟩) (u:=u) c.out.box (by show w.heap.size≠K.pm;omega)))
   have a4:∀(u:Value) (o:Obj),((wr.setCell ⟨K.pm,6,none⟩ u).alloc o).ownsRow (w.heap.size+1) 3 1 (.slice pa i pc) i ((iZ M.next i).map zN):=fun u o=>(ownsRow_setCell_other d (fun e=>zC d c.out.pm (.inr Zd) (by simpa using e)) u).alloc o
   have a6:=Ja (Jb a4 (Jb b9 b8));clear j d b6 hk b9 b8 a4;go_upto_region 5 with fail
   go_region_law (first|(refine step_append_lies _ (by rfl) (.tmp 13) (.tmp 16) _ (by rfl) (w.heap.size+1) 3 ij (U 0) 1 8 Tryz.underlying22 d4 c9 c8 c7 rfl Zo (.slice pa i pc) i ((iZ M.next i).map zN) (by rfl) ((a6.out.1 _ _).drew) ⟨wr.heap.size,0,none⟩ 1 1 [U ((M.next+i:Nat):Int)] (by rfl) (by rfl) (Oi (cs:=#[U ((M.next+i:Nat):Int)]) (t:=3) (fr:=(0,0)) (zI Zs)) (by simp[Value.oneCell']) Zo (by unfold maxLen;omega) Zo Zt (wr.heap.size+1) Zs ?_;intro gg a3 w3 y g b7 d1;have d9:=(g.cell_far ⟨w.heap.size,0,none⟩ Zt (Ne.symm n1)).trans (a6.out.2.1 _ _);have d7:=(g.frozen_far ⟨w.heap.size,0,none⟩ Zt (Ne.symm n1)).trans (a6.out.2.2 _ _))|(go_simp;go_at_call 110;refine HO.out.2.1.mono ?_;rintro e w4 ⟨rfl,rfl⟩))
   all_goals go_wp2_with fail
   all_goals (
    refine⟨⟨i+1,T gg (i+1) a3,a7,by go_num,Ja (BlkMid.next H.out.1 c.out (by rw[HO.out.2.2.1];exact xN g) y)⟩,by simp[intOf];omega⟩)
  ·obtain rfl:i=n:=by omega
   have d0:¬(i:Int)<i:=Zo;obtain⟨hk,a1⟩:=BlkMid.mk' H.out.1 c.out (by have:=H.out.2;omega);obtain⟨pa,pc,j⟩:=zG c.out.own;subst j;obtain⟨fa,fc,d5⟩:=zG hk.own;subst d5
   have a5:wm wr (K.av X) (.slice pa i pc) (wJ M.next i).params:=by
    refine rO c.out.own (parL_len _ _) (fun x hx=>?_) (fun k e a0=>?_)
    ·unfold iZ at hx;obtain⟨m,hm,rfl⟩:=Nu.1 hx;have h1:=H.out.2;have h2:=Ol.1 hm;unfold MS.sz at h1;exact⟨by omega,by omega⟩
    ·have h2:=(c.out.own.lt k e).1;rcases a0 with a0|a0
     ·have:=H.out.1.xl k a0;omega
     ·have:=H.out.1.env.zl k a0;omega
   have d:=hk.own;have nb:=zC d c.out.pm (.inr Zd);have c4:=hk.c4;have a2:=lt_of_block c.out.pm;have d6:=lt_of_block c.out.box;have b0:=zA (i:=0) c.out.box rfl;have b1:=zA (i:=1) c.out.box rfl;have b2:=zA (i:=2) c.out.box rfl;have b3:=zA (i:=3) c.out.box rfl;have b4:=zA (i:=4) c.out.box rfl;have e0:∀o,A (wr.alloc o) K.pm 4 (.slice fa l.length fc):=fun o=>(Oo (w:=wr) (Below.heap_alloc _ _ _ a2)).trans c4
   have d8:∀o,N (wr.alloc o) K.pm 4:=fun o=>(Qm (w:=wr) (Below.heap_alloc _ _ _ a2)).trans (hk.free 4)
   have b5:l.length=M.f.length:=H.out.1.len;have e6:l.length<=1000000:=by have:=H.out.1.flen;omega
   have e8:K.B<=wr.heap.size:=hk.size;obtain⟨ik,d3,c5,c3,c2⟩:=info_parts Tryz.info_irblock;have HO:=Ja (Jb hk (Jb a1 (Jb a5 (Jb d b5))));clear hk a1 a5 d b5;go_upto_region 6 with fail
   go_region_law (first|(refine step_append_lies _ (by rfl) (.tmp 24) (.tmp 26) _ (by rfl) K.B 84 ik (.agg #[L,L,U 0,U 0,L]) 5 88 Tryz.underlying37 d3 c5 c3 c2 rfl Zo (.slice fa l.length fc) l.length (l.flatMap xG) (by rfl) ((HO.out.2.2.2.1.alloc _).drew) ⟨wr.heap.size,0,none⟩ 1 1 [.slice pa i pc,L,U 0,U 0,L] (by rfl) (by rfl) (Oi (cs:=#[.slice pa i pc,L,U 0,U 0,L]) (t:=84) (fr:=(0,0)) (heap_alloc_new wr _)) (by simp[Value.oneCell']) Zo (by unfold maxLen;omega) Zo Zt (wr.heap.size+1) Zs ?_;intro gg a3 w3 y g b7 d1;have d9:=(g.cell_far ⟨K.pm,4,none⟩ Zt (Ne.symm nb)).trans (e0 _);have d7:=(g.frozen_far ⟨K.pm,4,none⟩ Zt (Ne.symm nb)).trans (d8 _)))
   all_goals go_wp2_with fail
   all_goals go_ret
   all_goals (
    have hP:=HO.out.1.putB (fv':=T gg (l.length+1) a3) (b:=wJ M.next i) (pv:=.slice pa i pc) (xN g) ⟨rfl,rfl⟩ y (fun k e=>by
     have e2:gg=k:=by simpa[Value.ownBlock] using e
     subst e2;rcases b7 with e3|e3
     ·exact .inl e3
     ·right;omega) HO.out.2.2.1 (by have:=H.out.2;unfold MS.sz at *;simp only at *;omega)
    refine⟨zh (by have:=HO.out.2.2.2.2;omega),_,⟨_,_,_,hP.1⟩,HO.out.2.1.trans hP.2⟩)
theorem emRes_of{c:Int}(h:uc c=true):sB M c=(M.next:Int):=by unfold sB;rw[h];rfl
theorem vG (x:Int)(h1:-1000000<=x)(h2:x<=1000000):I64 x:=⟨by omega,by omega⟩
theorem yF (x:Int)(h:(decide (-1000000<=x) && decide (x<=1000000))=true):I64 x:=by
 simp only[Jm,decide_eq_true_eq] at h;exact vG x h.1 h.2
theorem conOp_ok {n:Nat}(c:n<65536):qN (conOp n):=⟨yF _ rfl,yF _ rfl,yF _ rfl,yF _ rfl,c⟩
theorem ks(h:wW w K X M){n:Nat}(j:n<65536)(d:M.cur<M.f.length)(g:M.sz+3<=1000000):
 I 114 #[F K.pm,O n] w (yk K X w (M.num n) (U (M.next:Int))):=by
 have c:=rD h (conOp_ok j) yE.nil d g;rw[emRes_of (show uc (conOp n).code=true from rfl)] at c;have i:=Ja (show I 132 #[F K.pm,.agg #[U 1,U 0,U 0,U 0,O n,L]] w (yk K X w (M.num n) (U (M.next:Int))) from c);clear h c d g;go_enter Tryz.func114,Tryz.ntmps114;go_wp2_with (go_at_call 132;go_must (refine i.out.mono ?_;rintro e w1 ⟨rfl,hm⟩))
 go_ret;exact⟨rfl,hm⟩
theorem MkIn.valAt{fv:Value}{n c:Nat}(h:MkIn w K X M fv (T g n c) l)(hi:i<M.vals.length):A w g i (U (M.vals.getD i 0)):=by
 have:=h.vown.cells rfl i (U (M.vals.getD i 0)) (by rw[Jr,Jd hi,Jj,Jd hi];rfl);rw[Addr.add_mid,Ng] at this;exact this
theorem pu(h:wW w K X M)(a7:M.cur<M.f.length)(hz:M.sz+4<=1000000):
 I 58 #[F K.pm] w (yk K X w (zJ K.E M).2 (U (zJ K.E M).1)):=by
 obtain⟨fv,vv,l,h⟩:=h;have c7:=h.c7;have x:=h.vown;obtain⟨va,vc,rfl⟩:=zG x;have b9:M.vals.length<=1000000:=by unfold MS.sz at hz;omega
 have H:=Ja (Jb h (Jb a7 hz));clear h a7 hz
 by_cases h0:M.vals.length=0
 ·have d:zJ K.E M=((M.next:Int),M.tick.num (tkV K.E M 9)):=by unfold zJ;rw[if_pos h0]
  have c4:=Ja d;have t0:((M.vals.length:Int)==0)=true:=by rw[beq_iff_eq];omega
  have b7:(M.vals.length==0)=true:=by rw[beq_iff_eq];omega
  have b2:=uD H.out.1 (n:=9) Zd Zd (by have:=H.out.2.2;omega);have a5:=aaE K.E M (n:=9) Zd;have HT:=Ja b2;clear d x h0 b2;go_enter Tryz.func58,Tryz.ntmps58;go_wp2_with (first|(go_at_call 55;go_must (refine HT.out.mono ?_;rintro e w1 ⟨rfl,a0,u⟩))|(go_at_call 114;go_must (refine(ks a0.at (n:=tkV K.E M 9) Zo H.out.2.1 (by have:=(zT M).sz;have:=H.out.2.2;omega)).mono ?_;rintro e w2 ⟨rfl,X2,c,j⟩)))
  go_ret;rw[c4.out];exact⟨rfl,X2,c,u.trans j⟩
 ·have hp:0<M.vals.length:=Zo;obtain⟨g,d1,e,d0,c9⟩:=x.form hp;cases e;have t0:((M.vals.length:Int)==0)=false:=Ze;have b7:(M.vals.length==0)=false:=by rw[beq_eq_false_iff_ne];omega
  have c3:=Ja (uD H.out.1 (n:=M.vals.length) hp b9 (by have:=H.out.2.2;omega));have a5:=aaE K.E M hp;clear h0 x;go_enter Tryz.func58,Tryz.ntmps58;go_upto_region 4 with(go_at_call 55;go_must (refine c3.out.mono ?_;rintro e w1 ⟨rfl,a0,u⟩))
  have b1:=Ja (uD a0 (n:=3) Zd Zd (by have:=(zT M).sz;have:=H.out.2.2;omega));obtain⟨z3,k⟩:∃z,tkV K.E M.tick 3=z:=⟨_,rfl⟩
  rw[k] at b1;obtain⟨z0,o⟩:∃z,tkV K.E M M.vals.length=z:=⟨_,rfl⟩
  rw[o] at a5
  try rw[o]
  by_cases h3:0<z3
  ·have c0:(0:Int)<(z3:Int):=Zo;have d:zJ K.E M=(M.vals.getD (M.vals.length-1-tkV K.E M.tick.tick (min 4 M.vals.length)) 0,M.tick.tick.tick):=by unfold zJ;rw[if_neg Zo,if_pos (by rw[k];exact h3)]
   have hZ:=Ja (Jb d (Jb k o));clear d k o;go_upto_region 5 with(go_at_call 55;go_must (refine b1.out.mono ?_;rintro e w2 ⟨rfl,c,j⟩))
   have y:0<min 4 M.vals.length:=Zo;have b6:∀(ts:Array TypeId) (t:TypeId) (W:World),(Builtin.min_ ts t #[U 4,U (M.vals.length:Int)]).run Tryz.prog W=.ok (U ((min 4 M.vals.length:Nat):Int)) W:=fun ts t W=>by rw[show((min 4 M.vals.length:Nat):Int)=if(M.vals.length:Int)<(4:Int) then(M.vals.length:Int) else 4 by split<;>omega];exact run_min_int2 ..
   have b0:=Ja (uD (c.keep (Below.refl _ _).drew) (n:=min 4 M.vals.length) y Zo (by have:=(zT M).sz;have:=(zT M.tick).sz;have:=H.out.2.2;omega));have a4:=aaE K.E M.tick.tick y;obtain⟨z4,a1⟩:∃z,tkV K.E M.tick.tick (min 4 M.vals.length)=z:=⟨_,rfl⟩
   rw[a1] at b0 a4;obtain⟨mn,a2⟩:∃m,min 4 M.vals.length=m:=⟨_,rfl⟩
   rw[a2] at b0 b6 a4;have c8:mn<=M.vals.length:=Zo;have c2:=Ja (Jb a1 a2);have d7:=c.c7;have c5:=Ja (Jb c (u.trans j));clear a1 a2 a0 u c j c7 y
   go_region_held3 (fun w'=>A w' K.pm 7 (T g M.vals.length vc)) (first|exact d7|assumption|(exact MkIn.c7 Zz))
    ((go_at_call 55;refine b0.out.mono ?_;rintro e w3 ⟨rfl,a3,b4⟩))
   have hv:=a3.valAt (i:=M.vals.length-1-z4) (show M.vals.length-1-z4<M.vals.length by omega);obtain⟨ix,a6⟩:∃ix:Nat,M.vals.length-1-z4=ix:=⟨_,rfl⟩
   have b5:IntKind.i64.wrap (IntKind.i64.wrap ((M.vals.length:Int)-1)-(z4:Int))=(ix:Int):=by
    rw[Om ((M.vals.length:Int)-1) Zo,Om _ Zo];omega
   rw[b5];rw[a6] at hv;have b8:(ix:Int)<(M.vals.length:Int):=Zo;have b3:=c5.out.2.trans ((Stp.of_below (Below.refl _ _).drew).trans b4);have HR:=Ja (Jb a3 (Jb b3 a6));clear a3 b3 b4 a6 b5 d7;go_wp2;go_ret;rw[hZ.out.1];exact⟨zh (by rw[c2.out.1,HR.out.2.2,Jj];rfl),X,HR.out.1.at,HR.out.2.1⟩
  ·have c0:¬(0:Int)<(z3:Int):=Zo;have d:zJ K.E M=(M.vals.getD z0 0,M.tick.tick):=by unfold zJ;rw[if_neg Zo,if_neg (by rw[k];exact h3),o]
   have hZ:=Ja d;clear d k o;go_upto_region 6 with(go_at_call 55;go_must (refine b1.out.mono ?_;rintro e w2 ⟨rfl,c,j⟩))
   have hv:=c.valAt (i:=z0) a5;have d7:=c.c7;have b8:(z0:Int)<(M.vals.length:Int):=Zo;have HR:=Ja (Jb c (u.trans j));clear c u j a0;go_wp2;go_ret;rw[hZ.out];exact⟨rfl,X,HR.out.1.at,HR.out.2⟩
theorem addr_any(h:wW w K X M)(a4:M.cur<M.f.length)(hz:M.sz+6<=1000000):
 I 133 #[F K.pm] w (yk K X w (yJ K.E M).2 (U (yJ K.E M).1)):=by
 obtain⟨fv,vv,l,h⟩:=h;have a7:=Ja (uD h (n:=24) Zd Zd Zo);have H:=Ja (Jb a4 hz);obtain⟨z1,y⟩:∃z,tkV K.E M 24=z:=⟨_,rfl⟩
 rw[y] at a7;have b3:=Ja y;clear h a4 hz y
 by_cases h0:z1=23
 ·have d:yJ K.E M=zJ K.E M.tick:=by unfold yJ;rw[if_pos (by rw[b3.out];exact h0)]
  have u:=Ja d;have t0:((z1:Int)==23)=true:=by rw[beq_iff_eq];omega
  have b7:(z1==23)=true:=by rw[beq_iff_eq];omega
  clear d h0;go_enter Tryz.func133,Tryz.ntmps133;go_wp2_with (first|(go_at_call 55;go_must (refine a7.out.mono ?_;rintro e w1 ⟨rfl,t,m⟩))|(go_at_call 58;go_must (refine(pu t.at H.out.1 (by have:=(zT M).sz;have:=H.out.2;omega)).mono ?_;rintro e w2 ⟨rfl,X2,c,j⟩)))
  go_ret;rw[u.out];exact⟨rfl,X2,c,m.trans j⟩
 ·have d:yJ K.E M=((M.next:Int),M.tick.tick.tick.emit ⟨2,0,(tkV K.E M.tick 2:Nat),0,tkV K.E M.tick.tick (sE (tkV K.E M.tick 2)),[]⟩):=by unfold yJ;rw[if_neg (by rw[b3.out];exact h0)]
  have u:=Ja d;have t0:((z1:Int)==23)=false:=Ze;have b7:(z1==23)=false:=by rw[beq_eq_false_iff_ne];omega
  clear d h0;go_enter Tryz.func133,Tryz.ntmps133;go_upto_region 3 with(go_at_call 55;go_must (refine a7.out.mono ?_;rintro e w1 ⟨rfl,t,m⟩))
  have b4:=Ja (uD t (n:=2) Zd Zd (by have:=(zT M).sz;have:=H.out.2;omega));have b8:=aaE K.E M.tick (n:=2) Zd;obtain⟨k,hk⟩:∃z,tkV K.E M.tick 2=z:=⟨_,rfl⟩
  rw[hk] at b4 b8;have HK:=Ja hk;clear hk;go_upto_region 4 with(go_at_call 55;go_must (refine b4.out.mono ?_;rintro e w2 ⟨rfl,c,j⟩))
  have g1:=(zT M).sz;have g2:=(zT M.tick).sz;have g3:=(zT M.tick.tick).sz;have a6:=Ja (uD c (n:=sE k) (by unfold sE;split<;>decide) (by unfold sE;split<;>decide) (by have:=H.out.2;omega));have a3:=aaE K.E M.tick.tick (n:=sE k) (by unfold sE;split<;>decide);obtain⟨z3,x⟩:∃z,tkV K.E M.tick.tick (sE k)=z:=⟨_,rfl⟩
  rw[x] at a6 a3;have b2:=Ja x;obtain⟨db,b9,c0,b1⟩:=c.env.data;have c2:=c.c2;have p4:=zA (i:=4) c.env.prog rfl;rw[b9] at p4;have c3:z3<15:=by unfold sE at a3;split at a3<;>omega
  have HS:=Ja (m.trans j)
  have b0:∀(w3:World),MkIn w3 K X M.tick.tick.tick fv vv l->I 132 #[F K.pm,.agg #[U 2,U 0,U k,U 0,O z3,L]] w3 (yk K X w3 (M.tick.tick.tick.emit ⟨2,0,(k:Int),0,z3,[]⟩) (U (M.next:Int))):=fun w3 g=>
   rD g.at (o:=⟨2,0,(k:Int),0,z3,[]⟩) ⟨yF _ rfl,yF _ rfl,vG (k:Int) Zo Zo,yF _ rfl,(by show z3<65536;omega)⟩ yE.nil H.out.1 (by have:=H.out.2;omega)
  have b5:=Ja b0;clear t m j x c c0 b0;have b6:k=0∨k=1:=Zo;rcases b6 with rfl|rfl
  ·have d2:A w2 db 2 (O 16):=zA b1 rfl;have a5:=Ja (show I 55 #[F K.pm,U 15] w2 _ from a6.out);go_wp2_with (first|(go_at_call 55;go_must (refine a5.out.mono ?_;rintro e w3 ⟨rfl,g,a1⟩))|(go_at_call 132;go_must (refine(b5.out _ g).mono ?_;rintro e w4 ⟨rfl,X4,a2,a0⟩)))
   go_ret;rw[u.out,HK.out,b2.out];exact⟨rfl,X4,a2,HS.out.trans (a1.trans a0)⟩
  ·have d2:A w2 db 5 (O 7):=zA b1 rfl;have a5:=Ja (show I 55 #[F K.pm,U 6] w2 _ from a6.out);go_wp2_with (first|(go_at_call 55;go_must (refine a5.out.mono ?_;rintro e w3 ⟨rfl,g,a1⟩))|(go_at_call 132;go_must (refine(b5.out _ g).mono ?_;rintro e w4 ⟨rfl,X4,a2,a0⟩)))
   go_ret;rw[u.out,HK.out,b2.out];exact⟨rfl,X4,a2,HS.out.trans (a1.trans a0)⟩
structure OfMid (w:World) (f1 r2 g3 tb:Nat) (fv gv:Value) (bt:BT) (l:List BT) (xr:List Row) (wx:World):Prop where
 h1:wx.heap[f1]? =some (.cells #[fv] 39 (0,0))
 h2:wx.heap[r2]? =some (.cells #[.slice none 0 0] 39 (0,0))
 h3:wx.heap[g3]? =some (.cells #[gv] 39 (0,0))
 hb:wx.heap[tb]? =some (.cells (zz bt).toArray 84 (0,0))
 bel:Below f1 w wx
 rows:Rows wx f1 (xr++(bt.rows++(zd gv l::l.flatMap BT.rows)))
 ges:f1<r2/\r2<g3/\g3<tb
 hgt:gv.ownBlock≠some tb
 xe:∀r∈xr,r.e=3
section
variable {w:World} {f1 r2 g3 tb:Nat} {fv gv:Value} {bt:BT} {l:List BT} {xr:List Row} {wx:World} (h:OfMid w f1 r2 g3 tb fv gv bt l xr wx)
include h
theorem OfMid.sz:f1<=wx.heap.size:=Qd (lt_of_block h.h1)
theorem OfMid.below(hb:Y wx w'):OfMid w f1 r2 g3 tb fv gv bt l xr w':=
 ⟨zH hb h.h1 (lt_of_block h.h1),zH hb h.h2 (lt_of_block h.h2),zH hb h.h3 (lt_of_block h.h3),zH hb h.hb (lt_of_block h.hb),h.bel.trans (hb.mono h.sz),h.rows.below hb,h.ges,h.hgt,h.xe⟩
theorem OfMid.noTb:∀x∈xr++(bt.rows++(zd gv l::l.flatMap BT.rows)),x.blk≠some tb:=by
 have d:∀(b:BT),∀x∈b.rows,x.e≠84:=fun b x c=>by
  unfold BT.rows at c;rcases Jq.1 c with rfl|c
  ·show 3≠84;decide
  rcases Jq.1 c with rfl|c
  ·show 76≠84;decide
  rcases Jq.1 c with rfl|c
  ·show 79≠84;decide
  rcases Jl.1 c with c|c
  ·obtain⟨q,_,rfl⟩:=Nu.1 c
   show 3≠84;decide
  ·obtain⟨q,_,rfl⟩:=Nu.1 c
   show 3≠84;decide
 intro x c;have ho:=h.rows.own x c;rcases Jl.1 c with c|c
 ·exact zC ho h.hb (.inr (by rw[h.xe x c];decide))
 rcases Jl.1 c with c|c
 ·exact zC ho h.hb (.inr (d bt x c))
 rcases Jq.1 c with rfl|c
 ·exact h.hgt
 ·obtain⟨b,_,hb⟩:=Qx.1 c;exact zC ho h.hb (.inr (d b x hb))
theorem OfMid.grow{r r':Row}{rs:List Row}{j:List Row}(hp:(xr++(bt.rows++(zd gv l::l.flatMap BT.rows))).Perm (r::rs))(d:Y wx w1)(hg:w1.grownBy w' r.blk)
 (o:w'.ownsRow f1 r'.e r'.sz r'.v r'.n r'.cs) (a6:∀k,r'.blk=some k->r.blk=some k∨wx.heap.size<=k) (g:r.e≠39/\r.e≠84) (a5:r'.e≠84)  (hW:W=w'∨∃i u,W=w'.setCell ⟨tb,i,none⟩ u)
 (a3:∀c:Array Value,Q w' tb c 84->c=(zz bt).toArray->Q W tb (zz bt').toArray 84)
 (hq:(r'::rs).Perm (j++(bt'.rows++(zd gv l::l.flatMap BT.rows)))) (a2:∀r∈j,r.e=3):OfMid w f1 r2 g3 tb fv gv bt' l j W:=by
 have hr:=h.rows.perm hp;have ho:=hr.own r (.head _);have keep:∀ {b:Nat} {cs:Array Value} {t:TypeId},Q wx b cs t->r.e≠t->Q w' b cs t:=fun hb hne=>zL hg (zH d hb (lt_of_block hb)) (zC ho hb (.inr hne))
 have a4:wx.heap.size<=w'.heap.size:=Jn d.size hg.size;have a0:Below f1 w w':=h.bel.trans ⟨hg.os.trans d.os,hg.tape.trans d.tape,hg.output.trans d.output,a4,fun k hk=>(hg.block k (by have:=h.sz;have:=d.size;omega) (fun e=>by have:=(ho.lt k e.symm).1;omega)).trans (d.block k (by have:=h.sz;omega))⟩;have y:Rows w' f1 (r'::rs):=hr.grow d hg o a6;have m:=keep h.hb g.2;rcases hW with rfl|⟨i,u,rfl⟩
 ·exact⟨keep h.h1 g.1,keep h.h2 g.1,keep h.h3 g.1,a3 _ m rfl,a0,y.perm hq,h.ges,h.hgt,a2⟩
 ·have a7:=h.ges;refine⟨zR (keep h.h1 g.1) (by show f1≠tb;omega),zR (keep h.h2 g.1) (by show r2≠tb;omega),zR (keep h.h3 g.1) (by show g3≠tb;omega),a3 _ m rfl,a0.setCell (by show f1<=tb;omega) _,(y.keep fun k hk=>Below.heap_setCell _ _ _ _ (fun e=>?_)).perm hq,h.ges,h.hgt,a2⟩;obtain⟨x,hx,a1⟩:=Nj.1 hk;have e':k=tb:=e;subst e';rcases Jq.1 hx with rfl|hx
  ·exact zC o m (.inr a5) a1
  ·exact h.noTb x (hp.mem_iff.2 (.tail _ hx)) a1
end
section
variable {w:World} {f1 r2 g3 tb:Nat} {fv gv:Value} {bt:BT} {l:List BT} {wx:World}
theorem OfMid.par(h:OfMid w f1 r2 g3 tb fv gv bt l [] wx)(hp:bt.params=[])(i:Y wx w1)(hg:w1.grownBy w9 bt.pv.ownBlock)(g:w9.ownsRow f1 3 1 d xs.length (xs.map zN))
 (j:∀k,d.ownBlock=some k->bt.pv.ownBlock=some k∨wx.heap.size<=k):OfMid w f1 r2 g3 tb fv gv {bt with params:=xs,pv:=d } l [] (w9.setCell ⟨tb,0,none⟩ d):=
 h.grow (r:=zP bt.pv bt.params) (r':=zP d xs) (Uq _) i hg g j ⟨by show 3≠_;decide,by show 3≠_;decide⟩ (by show 3≠_;decide) (.inr ⟨0,d,rfl⟩)
  (fun c hc e=>by subst e;rw[zD hc];rfl) (Uq _) (fun r hr=>by simp at hr)
theorem OfMid.arg2{av:Value}(h:OfMid w f1 r2 g3 tb fv gv bt l [] wx)(c:Y wx w1)(hg:w1.grownBy w9 none)(o:w9.ownsRow f1 3 1 av xs.length (xs.map zN))(m:∀k,av.ownBlock=some k->w1.heap.size<=k)
 {q:Nat} (hq:wx.heap.size<=q/\q<w1.heap.size) (u:Value):OfMid w f1 r2 g3 tb fv gv bt l [zP av xs] (w9.setCell ⟨q,i,none⟩ u):=by
 have t:Y wx (w9.setCell ⟨q,i,none⟩ u):=Below.setCell ⟨hg.os.trans c.os,hg.tape.trans c.tape,hg.output.trans c.output,Jn c.size hg.size,fun k hk=>(hg.block k (Jy hk c.size) (fun e=>by cases e)).trans (c.block k hk)⟩ hq.1 _;have d:=h.below t;have j:(w9.setCell ⟨q,i,none⟩ u).ownsRow f1 3 1 av xs.length (xs.map zN):=yD o (fun k e=>Below.heap_setCell _ _ _ _ (fun e2=>by have:=m k e;have e3:k=q:=e2;omega));exact⟨d.h1,d.h2,d.h3,d.hb,d.bel,d.rows.cons j (fun g e hm=>by have:=m g e;have:=(h.rows.lt hm).2;omega),d.ges,d.hgt,fun r hr=>by rw[Jo] at hr;subst hr;rfl⟩
theorem OfMid.op{av:Value}{o:IOp}(h:OfMid w f1 r2 g3 tb fv gv bt l [zP av o.args] wx)(i:Y wx w1)(hg:w1.grownBy w9 bt.ov.ownBlock)
 (g:w9.ownsRow f1 76 6 d (bt.ops.length+1) (bt.ops.flatMap zU++zU (o,av))) (j:∀k,d.ownBlock=some k->bt.ov.ownBlock=some k∨wx.heap.size<=k):
 OfMid w f1 r2 g3 tb fv gv {bt with ops:=bt.ops++ [(o,av)],ov:=d } l [] (w9.setCell ⟨tb,1,none⟩ d):=
 h.grow (r:=ma bt.ov bt.ops) (r':=ma d (bt.ops++ [(o,av)])) (rs:=zP av o.args::zP bt.pv bt.params::xg bt.tv bt.tos::(wI bt.ops++ve bt.tos)++(zd gv l::l.flatMap BT.rows)) (by
  classical
  unfold BT.rows;refine Jp.2 fun r=>?_
  simp only[Nb,Nf,List.count_nil]
  omega) i hg (by
  show w9.ownsRow f1 76 6 d (bt.ops++ [(o,av)]).length ((bt.ops++ [(o,av)]).flatMap zU)
  rw[Jk,Ju,Nx]
  simpa using g) j ⟨by show 76≠_;decide,by show 76≠_;decide⟩ (by show 76≠_;decide) (.inr ⟨1,d,rfl⟩)
  (fun c hc e=>by subst e;rw[zD hc];rfl) (by
   classical
   unfold BT.rows wI;refine Jp.2 fun r=>?_
   simp only[Nb,Nf,List.count_nil,Js,Ql,List.map_nil]
   omega) (fun r hr=>by simp at hr)
theorem OfMid.edge{av:Value}{o:IEdge}(h:OfMid w f1 r2 g3 tb fv gv bt l [zP av o.args] wx)(i:Y wx w1)(hg:w1.grownBy w9 bt.tv.ownBlock)
 (g:w9.ownsRow f1 79 2 d (bt.tos.length+1) (bt.tos.flatMap za++za (o,av))) (j:∀k,d.ownBlock=some k->bt.tv.ownBlock=some k∨wx.heap.size<=k):
 OfMid w f1 r2 g3 tb fv gv {bt with tos:=bt.tos++ [(o,av)],tv:=d } l [] (w9.setCell ⟨tb,4,none⟩ d):=
 h.grow (r:=xg bt.tv bt.tos) (r':=xg d (bt.tos++ [(o,av)])) (rs:=zP av o.args::zP bt.pv bt.params::ma bt.ov bt.ops::(wI bt.ops++ve bt.tos)++(zd gv l::l.flatMap BT.rows)) (by
  classical
  unfold BT.rows;refine Jp.2 fun r=>?_
  simp only[Nb,Nf,List.count_nil]
  omega) i hg (by
  show w9.ownsRow f1 79 2 d (bt.tos++ [(o,av)]).length ((bt.tos++ [(o,av)]).flatMap za)
  rw[Jk,Ju,Nx]
  simpa using g) j ⟨by show 79≠_;decide,by show 79≠_;decide⟩ (by show 79≠_;decide) (.inr ⟨4,d,rfl⟩)
  (fun c hc e=>by subst e;rw[zD hc];rfl) (by
   classical
   unfold BT.rows ve;refine Jp.2 fun r=>?_
   simp only[Nb,Nf,List.count_nil,Js,Ql,List.map_nil]
   omega) (fun r hr=>by simp at hr)
theorem OfMid.set(h:OfMid w f1 r2 g3 tb fv gv bt l [] wx)(g:((zz bt).toArray).setIfInBounds i u=(zz bt').toArray)(hr:bt'.rows=bt.rows):OfMid w f1 r2 g3 tb fv gv bt' l [] (wx.setCell ⟨tb,i,none⟩ u):=by
 have hg:=h.ges;refine⟨zR h.h1 (by show f1≠tb;omega),zR h.h2 (by show r2≠tb;omega),zR h.h3 (by show g3≠tb;omega),by rw[zD h.hb,g],h.bel.setCell (by show f1<=tb;omega) _,?_,h.ges,h.hgt,h.xe⟩;rw[hr];refine h.rows.keep fun k hk=>Below.heap_setCell _ _ _ _ (fun e=>?_)
 obtain⟨x,d,c⟩:=Nj.1 hk;have e':k=tb:=e;subst e';exact h.noTb x d c
end
structure OfTop (w:World) (f1 r2 g3:Nat) (fv gv:Value) (l:List BT) (wx:World):Prop where
 h1:wx.heap[f1]? =some (.cells #[fv] 39 (0,0))
 h2:wx.heap[r2]? =some (.cells #[.slice none 0 0] 39 (0,0))
 h3:wx.heap[g3]? =some (.cells #[gv] 39 (0,0))
 bel:Below f1 w wx
 rows:Rows wx f1 (zd gv l::l.flatMap BT.rows)
 ges:f1<r2/\r2<g3
def bt0:BT:=⟨[],L,[],L,0,0,[],L⟩
theorem OfTop.start{fv:Value}{l:List BT}(h:OfTop w f1 r2 g3 fv gv l wx)(d:wx.heap.size=tb):
 OfMid w f1 r2 g3 tb fv gv bt0 l [] (wx.alloc (G #[L,L,U 0,U 0,L] 84)):=by
 have i:Y wx (wx.alloc (G #[L,L,U 0,U 0,L] 84)):=(Below.refl _ _).alloc (Je _) _;have hl:=lt_of_block h.h3;have j:=lt_of_block h.h1;have c:∀(e:TypeId) (W:World) (sz:Nat),W.ownsRow f1 e sz (L) 0 []:=fun e W sz=>Jv _ _ _ _
 refine⟨zB h.h1,zB h.h2,zB h.h3,zI d,h.bel.alloc Zo _,?_,⟨h.ges.1,h.ges.2,by omega⟩,fun e=>?_,fun r hr=>by simp at hr⟩
 ·show Rows _ f1 (zP (L) []::ma (L) []::xg (L) []::(zd gv l::l.flatMap BT.rows))
  have hr:=h.rows.below i;exact((hr.cons (c _ _ _) (fun g e=>by simp[Row.blk,xg,Value.ownBlock] at e)).cons (c _ _ _) (fun g e=>by simp[Row.blk,ma,Value.ownBlock] at e)).cons (c _ _ _) (fun g e=>by simp[Row.blk,zP,Value.ownBlock] at e)
 ·have:=((h.rows.own _ (.head _)).lt tb e).2;omega
theorem OfMid.close{fv g:Value}{bt:BT}{l:List BT}(h:OfMid w f1 r2 g3 tb fv gv bt l [] wx)(d:Y wx w1)(hg:w1.grownBy w9 gv.ownBlock)
 (j:w9.ownsRow f1 84 5 g (l.length+1) (l.flatMap zz++zz bt)) (a1:∀k,g.ownBlock=some k->gv.ownBlock=some k∨wx.heap.size<=k):OfTop w f1 r2 g3 fv g (l++ [bt]) (w9.setCell ⟨g3,0,none⟩ g):=by
 have hp:(bt.rows++(zd gv l::l.flatMap BT.rows)).Perm (zd gv l::(bt.rows++l.flatMap BT.rows)):=List.perm_middle;have hr:Rows wx f1 (zd gv l::(bt.rows++l.flatMap BT.rows)):=h.rows.perm hp;have ho:=hr.own _ (.head _);have keep:∀ {b:Nat} {cs:Array Value} {t:TypeId},Q wx b cs t->84≠t->Q w9 b cs t:=fun hb hne=>zL hg (zH d hb (lt_of_block hb)) (zC ho hb (.inr hne))
 have a0:wx.heap.size<=w9.heap.size:=Jn d.size hg.size;have o:Below f1 w w9:=h.bel.trans ⟨hg.os.trans d.os,hg.tape.trans d.tape,hg.output.trans d.output,a0,fun k hk=>(hg.block k (by have:=h.sz;have:=d.size;omega) (fun e=>by have:=(ho.lt k e.symm).1;omega)).trans (d.block k (by have:=h.sz;omega))⟩
 have m:Rows w9 f1 (zd g (l++ [bt])::(bt.rows++l.flatMap BT.rows)):=hr.grow d hg (by
  show w9.ownsRow f1 84 5 g (l++ [bt]).length ((l++ [bt]).flatMap zz)
  rw[Jk,Ju,Nx]
  simpa using j) a1
 have h3:=keep h.h3 Zd;have a2:=h.ges;refine⟨zR (keep h.h1 Zd) (by show f1≠g3;omega),zR (keep h.h2 Zd) (by show r2≠g3;omega),by rw[zD h3];rfl,o.setCell (by show f1<=g3;omega) _,?_,⟨h.ges.1,h.ges.2.1⟩⟩;have i:Rows w9 f1 (zd g (l++ [bt])::(l++ [bt]).flatMap BT.rows):=m.perm (List.Perm.cons _ (by rw[Nx];simpa using List.perm_append_comm));refine i.keep fun k hk=>Below.heap_setCell _ _ _ _ (fun e=>?_)
 obtain⟨x,c,u⟩:=Nj.1 hk;have e':k=g3:=e;subst e'
 have y:x.e≠39:=by
  rcases Jq.1 c with rfl|c
  ·show 84≠39;decide
  obtain⟨b,_,c⟩:=Qx.1 c;unfold BT.rows at c;rcases Jq.1 c with rfl|c
  ·show 3≠39;decide
  rcases Jq.1 c with rfl|c
  ·show 76≠39;decide
  rcases Jq.1 c with rfl|c
  ·show 79≠39;decide
  rcases Jl.1 c with c|c
  ·obtain⟨q,_,rfl⟩:=Nu.1 c
   show 3≠39;decide
  ·obtain⟨q,_,rfl⟩:=Nu.1 c
   show 3≠39;decide
 exact zC (i.own x c) h3 (.inr y) u
section
variable {P:Program} {ops:Array Oper} {Q:Exit->Act->World->Prop} {md:Region.Mode} {S:World->Prop} {L:Nat}
def uO (P:Program)(md:Region.Mode)(ops:Array Oper)(Q:Exit->Act->World->Prop)(S:World->Prop)(L:Nat):Nat->Array Bool->Act->World->Prop
 |0,listed,a,w=>Region.ready md ops listed=[]/\Q .normal a w
 |fuel+1,listed,a,w=>
  (Region.ready md ops listed=[]->Q .normal a w)/\
  ∀i∈Region.ready md ops listed,wpOp P ops Q i (fun a' w'=>(i≠L->S w')/\uO P md ops Q S L fuel (listed.setIfInBounds i true) a' w') a w
theorem pL:∀(fuel:Nat) (listed:Array Bool) (a:Act) (w:World),uO P md ops Q S L fuel listed a w->wpAny P md ops Q fuel listed a w
 |0,_,_,_,h=>h
 |fuel+1,_,_,_,h=>⟨h.1,fun i hi=>wpOp_mono (fun a' w' h'=>pL fuel _ a' w' h'.2) (h.2 i hi)⟩
def mw (md:Region.Mode)(ops:Array Oper)(L i:Nat):Bool:=((ops[L]?).map fun o=>o.after.any fun e=>Region.binds md e && e.on==i).getD false
theorem waits_ne{j:Nat}(d:mw md ops L i=true)(hi:c.getD i true=false)(l:j∈Region.ready md ops c):j≠L:=by
 rintro rfl;obtain⟨_,oj,k,g⟩:=mem_ready.1 l;unfold mw at d;rw[k] at d;obtain⟨e,m,hb⟩:=Array.any_eq_true'.1 d;simp only[Jm,beq_iff_eq] at hb;have h1:=g e m hb.1;rw[hb.2] at h1;rcases Nat.lt_or_ge i c.size with h|h
 ·simp[h] at hi h1;rw[hi] at h1;cases h1
 ·simp[Array.getElem?_eq_none h] at h1
theorem nD{v:Value}(hi:ops[i]? =some oi)(a3:mw md ops L i=true)(l:∀(j:Nat) (o:Oper) cs b,ops[j]? =some o->o.op≠ .select cs b)
 (hQ:∀c a w,Q (.panic c) (a.put oi.dst v) w->Q (.panic c) a w):
 ∀(fuel:Nat) (listed:Array Bool) (a:Act) (w:World),
  (∀j oj,ops[j]? =some oj->j≠i->listed.getD j true=false->(∀e∈oj.after,Region.binds md e=true->e.on≠i)->oi.apart ops oj=true)->
  i∈Region.ready md ops listed->YieldsIf P ops S oi v a->S w->
  uO P md ops Q S L fuel (listed.setIfInBounds i true) (a.put oi.dst v) w->uO P md ops Q S L (fuel+1) listed a w:=by
 intro fuel
 induction fuel with
 |zero=>
  intro listed a w _ hr y x H;refine⟨fun h=>(by rw[h] at hr;cases hr),fun j hj=>?_⟩
  by_cases d:j=i
  ·subst d;exact y.wpOp hi x ⟨fun _=>x,H⟩
  ·have:=ready_mono hj d;rw[H.1] at this
   cases this
 |succ fuel ih=>
  intro listed a w g hr y x H;refine⟨fun h=>(by rw[h] at hr;cases hr),fun j hj=>?_⟩
  by_cases d:j=i
  ·subst d;exact y.wpOp hi x ⟨fun _=>x,H⟩
  ·have h1:=H.2 j (ready_mono hj d);have a4:j≠L:=waits_ne a3 (mem_ready.1 hr).1 hj;obtain⟨t,oj,m,a2⟩:=mem_ready.1 hj
   have a1:∀e∈oj.after,Region.binds md e=true->e.on≠i:=fun e he hb heq=>by
    have h1:=a2 e he hb;have h0:=(mem_ready.1 hr).1;rw[heq] at h1;rcases Nat.lt_or_ge i listed.size with h'|h'
    ·simp[h'] at h0 h1;rw[h0] at h1;cases h1
    ·simp[Array.getElem?_eq_none h'] at h1
   have h2:=wpOp_putIf m (g j oj m d t a1) (fun cs b=>l i oi cs b hi) (fun cs b=>l j oj cs b m) hQ y h1
   have u:∀k ok,ops[k]? =some ok->k≠i->(listed.setIfInBounds j true).getD k true=false->
    (∀e∈ok.after,Region.binds md e=true->e.on≠i)->oi.apart ops ok=true:=fun k ok hk hki hun hno=>by
    refine g k ok hk hki ?_ hno
    by_cases a0:j=k
    ·subst a0;exact t
    ·rw[getD_set_ne true a0] at hun;exact hun
   refine wpOp_mono (fun a' w' h3=>⟨h3.2.1,ih (listed.setIfInBounds j true) a' w' u (ready_mono hr (Ne.symm d)) h3.1 (h3.2.1 a4) ?_⟩) h2;rw[Array.setIfInBounds_comm _ _ d];exact h3.2.2
theorem zF{v:Value}{fuel:Nat}{d:Array Bool}{a:Act}(hi:ops[i]? =some oi)(g:mw md ops L i=true)
 (hs:Region.noSelect ops=true) (hf:Region.free md ops d i=true) (hr:(Region.ready md ops d).contains i=true)
 (l:∀c a w,Q (.panic c) (a.put oi.dst v) w->Q (.panic c) a w) (j:YieldsIf P ops S oi v a) (k:S w)
 (h:uO P md ops Q S L fuel (d.setIfInBounds i true) (a.put oi.dst v) w):uO P md ops Q S L (fuel+1) d a w:=
 nD hi g (Region.noSelect_spec hs) l fuel d a w (Region.free_spec hi hf) (by simpa using hr) j k h
theorem Tl(i:Nat){v:Value}{fuel:Nat}{d:Array Bool}{a:Act}(h:uO P md ops Q S L fuel (d.setIfInBounds i true) (a.put oi.dst v) w)(hi:ops[i]? =some oi:=by rfl)(g:mw md ops L i=true:=by kernel_rfl)
 (hs:Region.noSelect ops=true:=by kernel_rfl) (hf:Region.free md ops d i=true:=by kernel_rfl) (hr:(Region.ready md ops d).contains i=true:=by kernel_rfl)
 (l:∀c a w,Q (.panic c) (a.put oi.dst v) w->Q (.panic c) a w:=by exact fun _ _ _ h=>h) (j:YieldsIf P ops S oi v a:=by exact Or.inl ⟨by rfl,by intro w hSw;(try dsimp only at hSw);go_simp;try with_reducible rfl⟩) (k:S w:=by assumption):uO P md ops Q S L (fuel+1) d a w:=
 zF hi g hs hf hr l j k h
def zS (P:Program)(md:Region.Mode)(ops:Array Oper)(Q:Exit->Act->World->Prop)(S:World->Prop)(L:Nat)(fuel:Nat)(listed:Array Bool)(a:Act)(w:World)(rs:List Nat):Prop:=
 ∀i∈rs,wpOp P ops Q i (fun a' w'=>(i≠L->S w')/\uO P md ops Q S L fuel (listed.setIfInBounds i true) a' w') a w
theorem zS.nil{fuel:Nat}{a:Act}:zS P md ops Q S L fuel c a w []:=fun _ h=>by cases h
theorem zS.cons{fuel:Nat}{a:Act}{o:Oper}(ho:ops[i]? =some o)
 (h:∀K':Act->World->Prop,Shut (∀a w,S w->(S w->uO P md ops Q S L fuel (c.setIfInBounds i true) a w)->K' a w)->if Region.wanted o (yielded ops a.tmps)=true then Oper.wp P o a w K' Q else K' (a.put o.dst undef) w)
 (hs:zS P md ops Q S L fuel c a w rs):zS P md ops Q S L fuel c a w (i::rs):=fun j d=>by
 rcases Jq.1 d with rfl|d
 ·exact wpOp_step ho (fun K' hK=>h K' (fun a w hS hW=>hK a w ⟨fun _=>hS,hW hS⟩))
 ·exact hs j d
theorem zS.last{fuel:Nat}{a:Act}{o:Oper}(ho:ops[L]? =some o)
 (h:∀K':Act->World->Prop,Shut (∀a w,uO P md ops Q S L fuel (c.setIfInBounds L true) a w->K' a w)->if Region.wanted o (yielded ops a.tmps)=true then Oper.wp P o a w K' Q else K' (a.put o.dst undef) w):
 zS P md ops Q S L fuel c a w [L]:=fun j d=>by
 rcases Jq.1 d with rfl|d
 ·exact wpOp_step ho (fun K' hK=>h K' (fun a w hW=>hK a w ⟨fun e=>absurd rfl e,hW⟩))
 ·cases d
theorem y7{fuel:Nat}{a:Act}(hr:Region.ready md ops c=rs)(d:rs≠ [])
 (h:zS P md ops Q S L fuel c a w rs):uO P md ops Q S L (fuel+1) c a w:=⟨fun h0=>absurd (hr ▸ h0) d,hr ▸ h⟩
theorem xj{listed:Array Bool}{a:Act}(hr:Region.ready md ops listed=[])(h:Q .normal a w):∀fuel,uO P md ops Q S L fuel listed a w
 |0=>⟨hr,h⟩
 |_+1=>⟨fun _=>h,by rw[hr];simp⟩
theorem yQ{id:Nat}{a:Act}(L:Nat)(hm:P.follows .mixedOrders=true)(c:S w.drew)
 (h:S w.drew->uO P .any ops Q S L ops.size (Array.replicate ops.size false) a w.drew):(Code.region id ops true).wp P Q a w:=
 wp_region_any hm (pL _ _ _ _ (h c))
end
end Go.Proofs.YtoahcpkibpomcaaGreat
set_option maxRecDepth 100000
namespace Go.Proofs.YtoahcpkibpomcaaGreat
open Go.ChangeShapes Go.WideShapes Go.ChangeAt Go.RowKit
variable {W W2 w w' w1 w9 wx:World}{C f1 g g3 i r2 tb:Nat}{tl:List Value}{xs:List Int}{l:List BM}{o:Obj}{X:Nat->Prop}{K:MKC}{M:MS}{d gv u vv:Value}{c:Array Bool}{rs:List Nat}{bt':BT}{oi:Oper}
theorem jd{a:Addr}{v:Value}(h:w.cell? a=some v):a.spot=none:=by
 unfold World.cell? at h
 split at h
 ·split at h
  ·simp at h
  ·rename_i h2;simpa using h2
 ·simp at h
theorem akp (b o k:Nat):(⟨b,o,none⟩:Addr).add k=⟨b,o+k,none⟩:=by
 unfold Addr.add;split
 ·rename_i h;subst h;rfl
 ·rfl
theorem fP{α:Type}{P:Program}{H:Type}{enc:TypeId×Value->H}{fuel:Nat}{x:DataW H×List MemPlace}{t e:TypeId}{q:IntKind}(ht:P.underlying t=some (.slice e))(he:P.underlying e=some (.int q))(c1:P.cellsOf e=1)
 (R:World->Nat->Nat->Nat->α->Prop) (h:Int->α) (hR:∀b o z,(Lit.int q z).wf=true->A W b o (.int q z)->R W W.heap.size b o (h z))
 (hf:DataW.trod enc P W 0 (fun _=>true) true fuel t [u]=some x):∃row:List α,yN 1 R W W.heap.size u row:=by
 rcases open_ints ht he c1 hf with⟨h1,_⟩|⟨a,len,w,zs,h1,hb,hl,hm,d,_,c,i⟩
 ·simp at h1;subst h1;exact⟨[],yN.nil⟩
 ·simp at h1;subst h1;simp only[if_true] at d;refine⟨(zs.take len).map h,some a,w,by simp[d,Ud hl],by simp[d];omega,by unfold maxLen at hm;omega,fun k y hk=>?_⟩;have l:=(Jh.1 hk).1;simp[d] at l;rw[Jr,Ug,if_pos Zo,Jd Zo] at hk;have j:=Nt hk;have g:=c k Zo;have hs:=jd (c 0 Zo)
  have m:a=⟨a.block,a.off,none⟩:=by
   cases a;simp[Addr.add] at hs;simp[hs]
  rw[m,akp] at g;rw[Jj,Jd Zo,Ot] at g;refine⟨a.block,a.off,by rw[<-m],jU g,?_⟩;rw[<-j,Nk];exact hR _ _ _ (i _ (Uf Zo)) g
section
variable {H:Type} {enc:TypeId×Value->H} {W:World} {fuel:Nat} {u:Value} {x:DataW H×List MemPlace}
theorem iR (hf:DataW.trod enc Tryz.prog W 0 (fun _=>true) true fuel 22 [u]=some x):∃row:List Int,zY W W.heap.size u row:=
 fP Tryz.underlying22 Tryz.underlying3 Zk IntR id (fun b o z hz hc=>⟨hc,by unfold I64;simpa[Lit.wf,IntKind.min,IntKind.max,IntKind.signed,IntKind.bits] using hz⟩) hf
end
section
variable {H:Type} {enc:TypeId×Value->H} {W:World} {v:Value} {d:DataW H} {p:List MemPlace} {r:Go.Reach} {base:Nat}
theorem iX (hv:Value.okWide Tryz.prog W r base 22 v)(g:DataW.Trod enc Tryz.prog W 0 (fun _=>true) true 22 v d p):∃row:List Int,zY W W.heap.size v row:=by
 obtain⟨a0,c,h,rfl⟩:=okWide_slice Tryz.underlying22 hv;obtain⟨fuel,hf⟩:=g;exact iR hf
end
end Go.Proofs.YtoahcpkibpomcaaGreat
