/- Part of a proof. -/
import Derived.Test.YtojclalkfhoooaaGMkW
set_option linter.all false
set_option maxHeartbeats 4000000
set_option maxRecDepth 100000
namespace Go.Proofs.Ytojclalkfhoooaa
open Go.RowKit
variable {W W' W0 w w' w0 w1:World}{B0 Bi Bn Bv C bi bm bp i j k m nm op x:Nat}{tl:List Value}{bl blocks:List IBlk}{t:Int}{c idom l:List Int}{d d':wO}{o:Obj}{g preds:List (List Nat)}{ns pr rs xs:List Nat}{ds:List Deferred}{oi:Oper}
theorem lP:∀x2 x4 x5 x7:Bool,(x7=false)∨(x2=false/\x7=true)∨(x2=true/\x4=false/\x7=true)∨(x2=true/\x4=true/\x5=false/\x7=true)∨(x2=true/\x4=true/\x5=true/\x7=true)
 |_,_,_,false=>(.inl rfl)
 |false,_,_,true=>(.inr (.inl ⟨rfl,rfl⟩))
 |true,false,_,true=>(.inr (.inr (.inl ⟨rfl,rfl,rfl⟩)))
 |true,true,false,true=>(Zi (.inl ⟨rfl,rfl,rfl,rfl⟩))
 |true,true,true,true=>(Zi (.inr ⟨rfl,rfl,rfl,rfl⟩))
theorem jZ:∀x1 x4 x6:Bool,(x1=false)∨(x1=true/\x4=false)∨(x1=true/\x4=true/\x6=false)∨(x1=true/\x4=true/\x6=true)
 |false,_,_=>(.inl rfl)
 |true,false,_=>(.inr (.inl ⟨rfl,rfl⟩))
 |true,true,false=>(.inr (.inr (.inl ⟨rfl,rfl,rfl⟩)))
 |true,true,true=>(.inr (.inr (.inr ⟨rfl,rfl,rfl⟩)))
theorem kM{B:Nat}{V:PV}{p:IProg}(hp:ProgIn w B V p)(hB:B<=w.heap.size)(hC:Y w C (rC V p++tl).toArray 128)(hl:p.args.length=p.funcs.length)(o:IOp)(ho:qN o)(ar:Option Addr)(i:Nat)(b6:o.args.length<=i/\i<=9223372036854775807)(j:o.code=26):
 G 98 #[I C,opV o (.slice ar o.args.length i)] w (ym w (opF p o)):=by
 unfold opV;obtain⟨_,b3,b8,b7,b4⟩:=ho;have b5:o.args.length<=9223372036854775807:=Zo;obtain⟨Vf,Va,Vd,Vb⟩:=V;obtain⟨f1,f2,e1,a6,a5⟩:=hp.funcs.form;have m:=hp.args;obtain⟨a1,a2,e2,b2,b1⟩:=hp.args.form;obtain⟨d1,d2,e3,a9,a7⟩:=hp.data.form;simp only at e1 e2 e3 m;subst e1 e2 e3;have c0:p.funcs.length<=9223372036854775807:=Zo;have c2:p.data.length<=9223372036854775807:=Zo;clear hp a6 a5 b2 b1 a9 a7;have c3:=lt_of_block hC;have hf:∀W,G 105 #[O 26] W fun e w'=>e=.returned (.tuple #[.agg #[.bool false,.bool false,.bool false,.bool false],.bool true])/\L W w':=fun W=>yu 26 W
 obtain⟨x0,h0⟩:∃q,decide (0<=o.a)=q:=⟨_,rfl⟩
 obtain⟨x1,h1⟩:∃q,decide (0<=o.res)=q:=⟨_,rfl⟩
 obtain⟨x2,h2⟩:∃q,decide (-1<=o.res)=q:=⟨_,rfl⟩
 obtain⟨x3,h3⟩:∃q,decide (o.a<(p.funcs.length:Int))=q:=⟨_,rfl⟩
 obtain⟨x4,h4⟩:∃q,decide (o.b=0)=q:=⟨_,rfl⟩
 obtain⟨x5,h5⟩:∃q,decide (o.n=0)=q:=⟨_,rfl⟩
 obtain⟨x6,h6⟩:∃q,decide (o.args.length=0)=q:=⟨_,rfl⟩
 obtain⟨x7,l⟩:∃q,decide ((o.args.length:Int)=p.args.getD o.a.toNat 0)=q:=⟨_,rfl⟩
 have e:opF p o=(x0 && x3 && x7 && x2 && x4 && x5):=by
  unfold opF;rw[j];rw[h0,h3,l,h2,h4,h5];rfl
 rw[j];obtain⟨R,y⟩:∃R,opF p o=R:=⟨_,rfl⟩
 rw[y];rw[e] at y;have HR:=Ja y;have HF:=Ja hf;have HC:=Ja hC;have t4:=vg h4;have t5:((o.n:Int)==0)=x5:=vg (zZ h5 Zo);have t6:((o.args.length:Int)==0)=x6:=vg (zZ h6 Zo);clear e y hf h4 h5 h6 hC
 cases x0 with
 |false=>
  skip
  all_goals go_enter Try.func98,Try.ntmps98
  all_goals go_wp2_with (first|(go_at_call 105;go_must (refine(HF.out _).mono ?_;rintro e w1 ⟨rfl,d⟩;have c:=zH d (zI rfl) Zs;have u0:∀ob,T (w1.alloc ob) w.heap.size 0 (O 26):=fun ob=>zA (zB c) Zs;have u1:∀ob,T (w1.alloc ob) w.heap.size 1 (O o.res):=fun ob=>zA (zB c) Zs;have u2:∀ob,T (w1.alloc ob) w.heap.size 2 (O o.a):=fun ob=>zA (zB c) Zs;have u3:∀ob,T (w1.alloc ob) w.heap.size 3 (O o.b):=fun ob=>zA (zB c) Zs;have u4:∀ob,T (w1.alloc ob) w.heap.size 4 (U (o.n:Int)):=fun ob=>zA (zB c) Zs;have u5:∀ob,T (w1.alloc ob) w.heap.size 5 (.slice ar o.args.length i):=fun ob=>zA (zB c) Zs;have g:=zH d (zB HC.out) Zt;have v0:∀ob,T (w1.alloc ob) C 0 (.slice f1 p.funcs.length f2):=fun ob=>zA (zB g) rfl;have v1:∀ob,T (w1.alloc ob) C 1 (.slice a1 p.args.length a2):=fun ob=>zA (zB g) rfl;have v4:∀ob,T (w1.alloc ob) C 4 (.slice d1 p.data.length d2):=fun ob=>zA (zB g) rfl;clear c g;have h:=Ja d;clear d))|go_in)
  all_goals go_quiet (fail)
  all_goals go_wp2
  all_goals go_ret
  all_goals exact⟨uz (HR.out.symm.trans rfl),yC ((((Below.refl _ _).alloc (Je _) _).trans (h.out.mono Zs)).alloc (by have u:=h.out.size;simp at u;omega) _)⟩
 |true=>
  obtain⟨k,hk⟩:∃k:Nat,o.a=(k:Int):=⟨o.a.toNat,by have:=of_decide_eq_true h0;omega⟩
  rw[hk] at h3 l ⊢;have t0:decide ((0:Int)<=(k:Int))=true:=decide_eq_true Zo;have t3:decide (k<p.funcs.length)=x3:=zZ h3 Zo
  cases x3 with
  |false=>
   clear l
   all_goals go_enter Try.func98,Try.ntmps98
   all_goals go_wp2_with (first|(go_at_call 105;go_must (refine(HF.out _).mono ?_;rintro e w1 ⟨rfl,d⟩;have c:=zH d (zI rfl) Zs;have u0:∀ob,T (w1.alloc ob) w.heap.size 0 (O 26):=fun ob=>zA (zB c) Zs;have u1:∀ob,T (w1.alloc ob) w.heap.size 1 (O o.res):=fun ob=>zA (zB c) Zs;have u2:∀ob,T (w1.alloc ob) w.heap.size 2 (O k):=fun ob=>zA (zB c) Zs;have u3:∀ob,T (w1.alloc ob) w.heap.size 3 (O o.b):=fun ob=>zA (zB c) Zs;have u4:∀ob,T (w1.alloc ob) w.heap.size 4 (U (o.n:Int)):=fun ob=>zA (zB c) Zs;have u5:∀ob,T (w1.alloc ob) w.heap.size 5 (.slice ar o.args.length i):=fun ob=>zA (zB c) Zs;have g:=zH d (zB HC.out) Zt;have v0:∀ob,T (w1.alloc ob) C 0 (.slice f1 p.funcs.length f2):=fun ob=>zA (zB g) rfl;have v1:∀ob,T (w1.alloc ob) C 1 (.slice a1 p.args.length a2):=fun ob=>zA (zB g) rfl;have v4:∀ob,T (w1.alloc ob) C 4 (.slice d1 p.data.length d2):=fun ob=>zA (zB g) rfl;clear c g;have h:=Ja d;clear d))|go_in)
   all_goals go_quiet (fail)
   all_goals go_wp2
   all_goals go_ret
   all_goals exact⟨uz (HR.out.symm.trans rfl),yC ((((Below.refl _ _).alloc (Je _) _).trans (h.out.mono Zs)).alloc (by have u:=h.out.size;simp at u;omega) _)⟩
  |true=>
   have a4:k<p.funcs.length:=of_decide_eq_true t3;obtain⟨x,hx⟩:∃x,p.args[k]? =some x:=⟨_,Jd Zo⟩
   obtain⟨ba,oa,rfl,a0,t,_⟩:=m.get hx;rw[Nk] at t;rw[Ni,Jj,hx,Ot] at l;have t7:=vg l;have b9:(k:Int)<p.args.length:=Zo;have a3:=Ja (Jb (Jy a0 hB) t);clear l hx t a0 m a4;have b0:=lP x2 x4 x5 x7;rcases b0 with rfl|⟨rfl,rfl⟩|⟨rfl,rfl,rfl⟩|⟨rfl,rfl,rfl,rfl⟩|⟨rfl,rfl,rfl,rfl⟩
   all_goals go_enter Try.func98,Try.ntmps98
   all_goals go_wp2_with (first|(go_at_call 105;go_must (refine(HF.out _).mono ?_;rintro e w1 ⟨rfl,d⟩;have c:=zH d (zI rfl) Zs;have u0:∀ob,T (w1.alloc ob) w.heap.size 0 (O 26):=fun ob=>zA (zB c) Zs;have u1:∀ob,T (w1.alloc ob) w.heap.size 1 (O o.res):=fun ob=>zA (zB c) Zs;have u2:∀ob,T (w1.alloc ob) w.heap.size 2 (O k):=fun ob=>zA (zB c) Zs;have u3:∀ob,T (w1.alloc ob) w.heap.size 3 (O o.b):=fun ob=>zA (zB c) Zs;have u4:∀ob,T (w1.alloc ob) w.heap.size 4 (U (o.n:Int)):=fun ob=>zA (zB c) Zs;have u5:∀ob,T (w1.alloc ob) w.heap.size 5 (.slice ar o.args.length i):=fun ob=>zA (zB c) Zs;have g:=zH d (zB HC.out) Zt;have v0:∀ob,T (w1.alloc ob) C 0 (.slice f1 p.funcs.length f2):=fun ob=>zA (zB g) rfl;have v1:∀ob,T (w1.alloc ob) C 1 (.slice (some ⟨ba,oa,none⟩) p.args.length a2):=fun ob=>zA (zB g) rfl;have v4:∀ob,T (w1.alloc ob) C 4 (.slice d1 p.data.length d2):=fun ob=>zA (zB g) rfl;have r:=((Below.refl w.heap.size w).alloc (Je _) _).trans (d.mono Zs);have v9:∀ob,T (w1.alloc ob) ba (oa+k) (O x):=fun ob=>zV (r.alloc r.size ob) a3.out.1 a3.out.2;clear r;clear c g;have h:=Ja d;clear d))|go_in)
   all_goals go_quiet (fail)
   all_goals go_wp2
   all_goals go_ret
   all_goals exact⟨uz (HR.out.symm.trans rfl),yC ((((Below.refl _ _).alloc (Je _) _).trans (h.out.mono Zs)).alloc (by have u:=h.out.size;simp at u;omega) _)⟩
theorem jo{B:Nat}{V:PV}{p:IProg}(hp:ProgIn w B V p)(hB:B<=w.heap.size)(t:Y w C (rC V p++tl).toArray 128)(hl:p.args.length=p.funcs.length)(o:IOp)(ho:qN o)(ar:Option Addr)(i:Nat)(b4:o.args.length<=i/\i<=9223372036854775807)(j:o.code=2):
 G 98 #[I C,opV o (.slice ar o.args.length i)] w (ym w (opF p o)):=by
 unfold opV;obtain⟨_,b1,b6,b5,b2⟩:=ho;have b3:o.args.length<=9223372036854775807:=Zo;obtain⟨Vf,Va,Vd,Vb⟩:=V;obtain⟨f1,f2,e1,a4,a3⟩:=hp.funcs.form;have r:=hp.args;obtain⟨a1,a2,e2,b0,a9⟩:=hp.args.form;obtain⟨d1,d2,e3,a6,a5⟩:=hp.data.form;simp only at e1 e2 e3 r;subst e1 e2 e3;have b7:p.funcs.length<=9223372036854775807:=Zo;have b8:p.data.length<=9223372036854775807:=Zo;clear hp a4 a3 b0 a9 a6 a5;have b9:=lt_of_block t;have hf:∀W,G 105 #[O 2] W fun e w'=>e=.returned (.tuple #[.agg #[.bool true,.bool false,.bool false,.bool true],.bool true])/\L W w':=fun W=>yu 2 W
 obtain⟨x0,h0⟩:∃q,decide (0<=o.a)=q:=⟨_,rfl⟩
 obtain⟨x1,h1⟩:∃q,decide (0<=o.res)=q:=⟨_,rfl⟩
 obtain⟨x2,h2⟩:∃q,decide (-1<=o.res)=q:=⟨_,rfl⟩
 obtain⟨x3,h3⟩:∃q,decide (o.a<(p.data.length:Int))=q:=⟨_,rfl⟩
 obtain⟨x4,y⟩:∃q,decide (o.b=0)=q:=⟨_,rfl⟩
 obtain⟨x5,h5⟩:∃q,decide (o.n=0)=q:=⟨_,rfl⟩
 obtain⟨x6,x⟩:∃q,decide (o.args.length=0)=q:=⟨_,rfl⟩
 obtain⟨x7,u⟩:∃q,decide ((o.args.length:Int)=p.args.getD o.a.toNat 0)=q:=⟨_,rfl⟩
 have e:opF p o=(x0 && x3 && x1 && x4 && x6):=by
  unfold opF;rw[j];rw[h0,h3,h1,y,x];rfl
 rw[j];obtain⟨R,m⟩:∃R,opF p o=R:=⟨_,rfl⟩
 rw[m];rw[e] at m;have HR:=Ja m;have HF:=Ja hf;have HC:=Ja t;have t4:=vg y;have t5:((o.n:Int)==0)=x5:=vg (zZ h5 Zo);have t6:((o.args.length:Int)==0)=x6:=vg (zZ x Zo);clear e m hf y h5 x t
 cases x0 with
 |false=>
  skip
  all_goals go_enter Try.func98,Try.ntmps98
  all_goals go_wp2_with (first|(go_at_call 105;go_must (refine(HF.out _).mono ?_;rintro e w1 ⟨rfl,g⟩;have c:=zH g (zI rfl) Zs;have u0:∀ob,T (w1.alloc ob) w.heap.size 0 (O 2):=fun ob=>zA (zB c) Zs;have u1:∀ob,T (w1.alloc ob) w.heap.size 1 (O o.res):=fun ob=>zA (zB c) Zs;have u2:∀ob,T (w1.alloc ob) w.heap.size 2 (O o.a):=fun ob=>zA (zB c) Zs;have u3:∀ob,T (w1.alloc ob) w.heap.size 3 (O o.b):=fun ob=>zA (zB c) Zs;have u4:∀ob,T (w1.alloc ob) w.heap.size 4 (U (o.n:Int)):=fun ob=>zA (zB c) Zs;have u5:∀ob,T (w1.alloc ob) w.heap.size 5 (.slice ar o.args.length i):=fun ob=>zA (zB c) Zs;have d:=zH g (zB HC.out) Zt;have v0:∀ob,T (w1.alloc ob) C 0 (.slice f1 p.funcs.length f2):=fun ob=>zA (zB d) rfl;have v1:∀ob,T (w1.alloc ob) C 1 (.slice a1 p.args.length a2):=fun ob=>zA (zB d) rfl;have v4:∀ob,T (w1.alloc ob) C 4 (.slice d1 p.data.length d2):=fun ob=>zA (zB d) rfl;clear c d;have h:=Ja g;clear g))|go_in)
  all_goals go_quiet (fail)
  all_goals go_wp2
  all_goals go_ret
  all_goals exact⟨uz (HR.out.symm.trans rfl),yC ((((Below.refl _ _).alloc (Je _) _).trans (h.out.mono Zs)).alloc (by have l:=h.out.size;simp at l;omega) _)⟩
 |true=>
  obtain⟨k,hk⟩:∃k:Nat,o.a=(k:Int):=⟨o.a.toNat,by have:=of_decide_eq_true h0;omega⟩
  rw[hk] at h3 u ⊢;have t0:decide ((0:Int)<=(k:Int))=true:=decide_eq_true Zo;have t3:decide (k<p.data.length)=x3:=zZ h3 Zo
  cases x3 with
  |false=>
   clear u
   all_goals go_enter Try.func98,Try.ntmps98
   all_goals go_wp2_with (first|(go_at_call 105;go_must (refine(HF.out _).mono ?_;rintro e w1 ⟨rfl,g⟩;have c:=zH g (zI rfl) Zs;have u0:∀ob,T (w1.alloc ob) w.heap.size 0 (O 2):=fun ob=>zA (zB c) Zs;have u1:∀ob,T (w1.alloc ob) w.heap.size 1 (O o.res):=fun ob=>zA (zB c) Zs;have u2:∀ob,T (w1.alloc ob) w.heap.size 2 (O k):=fun ob=>zA (zB c) Zs;have u3:∀ob,T (w1.alloc ob) w.heap.size 3 (O o.b):=fun ob=>zA (zB c) Zs;have u4:∀ob,T (w1.alloc ob) w.heap.size 4 (U (o.n:Int)):=fun ob=>zA (zB c) Zs;have u5:∀ob,T (w1.alloc ob) w.heap.size 5 (.slice ar o.args.length i):=fun ob=>zA (zB c) Zs;have d:=zH g (zB HC.out) Zt;have v0:∀ob,T (w1.alloc ob) C 0 (.slice f1 p.funcs.length f2):=fun ob=>zA (zB d) rfl;have v1:∀ob,T (w1.alloc ob) C 1 (.slice a1 p.args.length a2):=fun ob=>zA (zB d) rfl;have v4:∀ob,T (w1.alloc ob) C 4 (.slice d1 p.data.length d2):=fun ob=>zA (zB d) rfl;clear c d;have h:=Ja g;clear g))|go_in)
   all_goals go_quiet (fail)
   all_goals go_wp2
   all_goals go_ret
   all_goals exact⟨uz (HR.out.symm.trans rfl),yC ((((Below.refl _ _).alloc (Je _) _).trans (h.out.mono Zs)).alloc (by have l:=h.out.size;simp at l;omega) _)⟩
  |true=>
   have a0:k<p.data.length:=of_decide_eq_true t3;clear u a0 r;have a7:=jZ x1 x4 x6;rcases a7 with rfl|⟨rfl,rfl⟩|⟨rfl,rfl,rfl⟩|⟨rfl,rfl,rfl⟩
   all_goals go_enter Try.func98,Try.ntmps98
   all_goals go_wp2_with (first|(go_at_call 105;go_must (refine(HF.out _).mono ?_;rintro e w1 ⟨rfl,g⟩;have c:=zH g (zI rfl) Zs;have u0:∀ob,T (w1.alloc ob) w.heap.size 0 (O 2):=fun ob=>zA (zB c) Zs;have u1:∀ob,T (w1.alloc ob) w.heap.size 1 (O o.res):=fun ob=>zA (zB c) Zs;have u2:∀ob,T (w1.alloc ob) w.heap.size 2 (O k):=fun ob=>zA (zB c) Zs;have u3:∀ob,T (w1.alloc ob) w.heap.size 3 (O o.b):=fun ob=>zA (zB c) Zs;have u4:∀ob,T (w1.alloc ob) w.heap.size 4 (U (o.n:Int)):=fun ob=>zA (zB c) Zs;have u5:∀ob,T (w1.alloc ob) w.heap.size 5 (.slice ar o.args.length i):=fun ob=>zA (zB c) Zs;have d:=zH g (zB HC.out) Zt;have v0:∀ob,T (w1.alloc ob) C 0 (.slice f1 p.funcs.length f2):=fun ob=>zA (zB d) rfl;have v1:∀ob,T (w1.alloc ob) C 1 (.slice a1 p.args.length a2):=fun ob=>zA (zB d) rfl;have v4:∀ob,T (w1.alloc ob) C 4 (.slice d1 p.data.length d2):=fun ob=>zA (zB d) rfl;clear c d;have h:=Ja g;clear g))|go_in)
   all_goals go_quiet (fail)
   all_goals go_wp2
   all_goals go_ret
   all_goals exact⟨uz (HR.out.symm.trans rfl),yC ((((Below.refl _ _).alloc (Je _) _).trans (h.out.mono Zs)).alloc (by have l:=h.out.size;simp at l;omega) _)⟩
theorem edge_bad{t:ITerm}{e:IEdge}(c:t.to[k]? =some e)(h:uM blocks e=false):wn blocks t=false:=by
 unfold wn
 have:t.to.all (uM blocks)=false:=by
  rw[Bool.eq_false_iff];intro h2;rw[Oe.1 h2 e (Ji c)] at h;cases h
 rw[this];rfl
theorem term_any{B:Nat}{cs:Array Value}{d2:Value}(c0:wX w B d2 blocks)(hB:B<=w.heap.size)(hC:Y w C cs 128)(h6:cs[6]? =some d2)(t:ITerm)(ht:I64 t.kind/\I64 t.a){tv:Value}(b1:wH w B tv t.to):
 G 99 #[I C,.agg #[O t.kind,O t.a,tv]] w (ym w (wn blocks t)):=by
 obtain⟨fa,fc,rfl,e7,e6⟩:=c0.form;obtain⟨ta,tc,rfl,e3,e2⟩:=b1.form;have g3:blocks.length<=9223372036854775807:=Zo;have f9:t.to.length<=9223372036854775807:=Zo;obtain⟨tk,b2⟩:∃x,t.kind=x:=⟨_,rfl⟩
 obtain⟨tA,b3⟩:∃x,t.a=x:=⟨_,rfl⟩
 have f5:=Ja c0;have f3:=Ja b1;obtain⟨res,a0⟩:∃x,wn blocks t=x:=⟨_,rfl⟩
 rw[a0,b2,b3];have r:=Ja (show wn blocks t=res/\t.kind=tk/\t.a=tA from⟨a0,b2,b3⟩);have d0:L w (w.alloc (A #[O tk,O tA,.slice ta t.to.length tc] 47)):=(Below.refl _ _).alloc (Je _) _;have b0:=zI (W:=w) (o:=A #[O tk,O tA,.slice ta t.to.length tc] 47) rfl;have i:=zB (o:=A #[O tk,O tA,.slice ta t.to.length tc] 47) hC;clear c0 b1 a0 b2 b3 hC e7 e6 e3 e2;go_enter Try.func99,Try.ntmps99;go_upto_region 1 with fail;generalize f2:w.alloc (A #[O tk,O tA,.slice ta t.to.length tc] 47)=W0 at *;have y2:=K2 b0;have c:=Ja d0;have d3:=Ja b0;have d5:=Ja i;clear f2 d0 b0 i;go_wp2
 go_loopw [10] (fun kv wx=>∃k:Nat,k<=t.to.length/\kv=O k/\Hid (L W0 wx/\(t.to.take k).all (uM blocks)=true)) (fun kv _=>t.to.length-(intOf kv).toNat)
 case atStart=>exact⟨0,Jt _,rfl,Ja ⟨Below.refl _ _,by rfl⟩⟩
 case round=>
  obtain⟨k,hk,rfl,HK⟩:=hrel
  by_cases a6:k<t.to.length
  ·have d6:(k:Int)<t.to.length:=Zo;have d4:=Ja a6;obtain⟨e,he⟩:∃e,t.to[k]? =some e:=⟨_,Jd a6⟩
   obtain⟨b,oo,rfl,hb,i,b5,av,c9,d1⟩:=f3.out.get he;obtain⟨aa,ac,rfl,f0,e9⟩:=d1.form;have g6:e.args.length<=9223372036854775807:=Zo;have b9:L w wr:=c.out.trans (HK.out.1.mono c.out.size);obtain⟨eb,a7⟩:∃x,e.block=x:=⟨_,rfl⟩
   rw[a7] at i;have e0:=zV b9 (Jy hb hB) i;have e1:=zV b9 (Jy hb hB) c9;have d:=zH HK.out.1 d5.out (lt_of_block d5.out);have HT:=Ja (show(t.to.take (k+1)).all (uM blocks)=((t.to.take k).all (uM blocks) && uM blocks e)/\(uM blocks e=false->wn blocks t=false) from⟨xX (uM blocks) he,fun h=>edge_bad he h⟩);have HE:=Ja a7;have c3:I64 eb:=a7 ▸ b5;obtain⟨g5,g4⟩:=c3;have c5:=zB (o:=A #[O eb,.slice aa e.args.length ac] 75) d;have a9:=zI (W:=wr) (o:=A #[O eb,.slice aa e.args.length ac] 75) rfl;have c4:=HK.out.1.alloc (HK.out.1.size) (A #[O eb,.slice aa e.args.length ac] 75);clear i c9 d1 he d a6 f0 e9 b5 a7 y2;go_upto_region 4 with fail;generalize f1:wr.alloc (A #[O eb,.slice aa e.args.length ac] 75)=W1 at *;generalize wr.heap.size=b6 at *;have f7:=K0 a9;have f6:=K1 a9;have zc:T W1 C 6 (.slice fa blocks.length fc):=zA c5 h6;have u:=Ja c4;clear f1 a9 c5 c4 b9 e0 e1
   by_cases g1:1<=eb
   ·have t1:decide (eb<1)=false:=decide_eq_false Zo;obtain⟨j,rfl⟩:∃j:Nat,eb=(j:Int):=⟨eb.toNat,by omega⟩
    by_cases g2:j<blocks.length
    ·have t2:decide ((blocks.length:Int)<=(j:Int))=false:=decide_eq_false Zo;have d7:decide (blocks.length<=j)=false:=decide_eq_false Zo;have d8:(j:Int)<(blocks.length:Int):=Zo;obtain⟨bx,b7⟩:∃bx,blocks[j]? =some bx:=⟨_,Jd g2⟩
     obtain⟨fb,fo,rfl,e8,_,_,_,pv,ov,f8,c8,_,_,c7,_⟩:=f5.out.get b7;obtain⟨pa,pc,rfl,e5,e4⟩:=c7.form;have g0:bx.params.length<=9223372036854775807:=Zo;have b8:L w W1:=c.out.trans (u.out.mono c.out.size);have p0:=zV b8 (Jy e8 hB) c8;obtain⟨q3,b4⟩:∃q,decide (e.args.length=bx.params.length)=q:=⟨_,rfl⟩
     have t3:((e.args.length:Int) !=(bx.params.length:Int))=!q3:=by
      rw[bne,vg (q:=q3) (zZ b4 Zo)]
     have g:uM blocks e=q3:=by
      unfold uM xz;rw[HE.out,decide_eq_true g1,decide_eq_true d8,Ni,Jj,b7,Ot,b4];rfl
     have l:=Ja g;clear b7 c8 c7 e5 e4 b8 g b4 g2
     cases q3 with
     |true=>
      go_quiet (fail);go_wp2;go_roundw
      case rel=>exact⟨k+1,d4.out,by go_num,Ja ⟨yC u.out,by rw[HT.out.1,HK.out.2,l.out];rfl⟩⟩
      case measure=>have:=d4.out;simp[intOf];omega
     |false=>
      go_quiet (fail);go_wp2;go_ret;exact⟨uz (r.out.1.symm.trans (HT.out.2 l.out)),yC (c.out.trans (u.out.mono c.out.size))⟩
    ·have t2:decide ((blocks.length:Int)<=(j:Int))=true:=decide_eq_true Zo;have d7:decide (blocks.length<=j)=true:=decide_eq_true Zo
     have g:uM blocks e=false:=by
      unfold uM;rw[HE.out,decide_eq_false (show ¬(j:Int)<(blocks.length:Int) by omega),Uh];rfl
     have l:=Ja g;clear g g2;go_quiet (fail);go_wp2;go_ret;exact⟨uz (r.out.1.symm.trans (HT.out.2 l.out)),yC (c.out.trans (u.out.mono c.out.size))⟩
   ·have t1:decide (eb<1)=true:=decide_eq_true Zo
    have g:uM blocks e=false:=by
     unfold uM;rw[HE.out,decide_eq_false g1];rfl
    have l:=Ja g;clear g g1;go_quiet (fail);go_wp2;go_ret;exact⟨uz (r.out.1.symm.trans (HT.out.2 l.out)),yC (c.out.trans (u.out.mono c.out.size))⟩
  ·obtain rfl:k=t.to.length:=by omega
   have d6:¬(t.to.length:Int)<t.to.length:=Zo;have d:=zH HK.out.1 d3.out (lt_of_block d3.out);have z0:=K0 d;have z1:=K1 d;have z2:=K2 d;have c2:t.to.all (uM blocks)=true:=by have:=HK.out.2;rwa [Nl] at this
   have y:Hid ((if tk=1 then decide (t.to.length=1) && decide (tA=0)
    else if tk=2 then decide (t.to.length=2)
    else if tk=3 then decide (1<=t.to.length)
    else if tk=4 then decide (t.to.length=0)
    else if tk=5 then decide (t.to.length=0) && decide (tA=0)
    else false)=res):=by
    have h:=r.out;unfold wn at h;rw[c2,Bool.true_and,h.2.1,h.2.2] at h;exact h.1
   have m:=Ja (show L w wr from c.out.trans (HK.out.1.mono c.out.size));obtain⟨a1,h1⟩:∃q,decide (t.to.length=1)=q:=⟨_,rfl⟩
   obtain⟨a2,h2⟩:∃q,decide (t.to.length=2)=q:=⟨_,rfl⟩
   obtain⟨a3,h3⟩:∃q,decide (1<=t.to.length)=q:=⟨_,rfl⟩
   obtain⟨a4,h4⟩:∃q,decide (t.to.length=0)=q:=⟨_,rfl⟩
   obtain⟨a5,h5⟩:∃q,decide (tA=0)=q:=⟨_,rfl⟩
   rw[h1,h2,h3,h4,h5] at y;have t1:((t.to.length:Int)==1)=a1:=vg (zZ h1 Zo);have t2:((t.to.length:Int)==2)=a2:=vg (zZ h2 Zo);have t3:decide ((1:Int)<=(t.to.length:Int))=a3:=zZ h3 Zo;have t4:((t.to.length:Int)==0)=a4:=vg (zZ h4 Zo);have t5:=vg h5;clear c2 d h1 h2 h4 h5 y2 a6
   by_cases k1:tk=1
   ·subst k1;cases a1<;>cases a5
    all_goals go_wp2
    all_goals go_ret
    all_goals exact⟨uz (y.out.symm.trans rfl),m.out⟩
   by_cases k2:tk=2
   ·subst k2;go_wp2;go_ret;exact⟨uz (y.out.symm.trans rfl),m.out⟩
   by_cases k3:tk=3
   ·subst k3;go_wp2;go_ret;exact⟨uz (y.out.symm.trans rfl),m.out⟩
   by_cases k4:tk=4
   ·subst k4;go_wp2;go_ret;exact⟨uz (y.out.symm.trans rfl),m.out⟩
   by_cases k5:tk=5
   ·subst k5;cases a4<;>cases a5
    all_goals go_wp2
    all_goals go_ret
    all_goals exact⟨uz (y.out.symm.trans rfl),m.out⟩
   have f4:Hid (false=res):=by
    have:=y.out;rw[if_neg k1,if_neg k2,if_neg k3,if_neg k4,if_neg k5] at this;exact this
   have u1:(tk==1)=false:=by rw[beq_eq_false_iff_ne];exact k1
   have u2:(tk==2)=false:=by rw[beq_eq_false_iff_ne];exact k2
   have u3:(tk==3)=false:=by rw[beq_eq_false_iff_ne];exact k3
   have u4:(tk==4)=false:=by rw[beq_eq_false_iff_ne];exact k4
   have u5:(tk==5)=false:=by rw[beq_eq_false_iff_ne];exact k5
   clear k1 k2 k3 k4 k5 y;go_wp2;go_ret;exact⟨uz f4.out.symm,m.out⟩
theorem uI {p:IProg}{i:Int}:∀(l m:List IOp) (k:Int) (d:wO),sS p i (l++m) k d=(sS p i l k d).bind (sS p i m (k+l.length))
 | [],m,k,d=>by simp[sS]
 |o::l,m,k,d=>by
  have e:k+1+(l.length:Int)=k+((o::l).length:Int):=by simp;omega
  show(if opF p o then(if 0<=o.res then(rB d o.res i k).bind (sS p i (l++m) (k+1)) else sS p i (l++m) (k+1) d) else none)=(if opF p o then(if 0<=o.res then(rB d o.res i k).bind (sS p i l (k+1)) else sS p i l (k+1) d) else none).bind _
  by_cases h:opF p o=true
  ·rw[if_pos h,if_pos h]
   by_cases h2:0<=o.res
   ·rw[if_pos h2,if_pos h2]
    cases rB d o.res i k with
    |none=>rfl
    |some d'=>rw[Nw,Nw,uI l m,e]
   ·rw[if_neg h2,if_neg h2,uI l m,e]
  ·rw[if_neg h,if_neg h];rfl
theorem ui{p:IProg}:∀(l m:List IBlk) (i:Int) (d:wO),uH p bl (l++m) i d=(uH p bl l i d).bind (uH p bl m (i+l.length))
 | [],m,i,d=>by simp[uH]
 |b::l,m,i,d=>by
  have e:i+1+(l.length:Int)=i+((b::l).length:Int):=by simp;omega
  show(pS p bl i b d).bind (uH p bl (l++m) (i+1))=((pS p bl i b d).bind (uH p bl l (i+1))).bind _
  cases pS p bl i b d with
  |none=>rfl
  |some d'=>rw[Nw,Nw,ui l m,e]
theorem sD{α:Type}{l:List α}{x:α}(h:l[k]? =some x):l=l.take k++x::l.drop (k+1):=by
 rw[Jh] at h;obtain⟨hk,rfl⟩:=h
 conv=>lhs;rw[<-Qi k l,Qn hk]
theorem vS{α:Type}{l:List α}{x:α}(h:l[k]? =some x):((l.take k).length:Int)=k:=by
 have:=(Jh.1 h).1;rw[Oc,Ud Zo]
theorem aC{i:Int}{v:Int}(h:l[k]? =some v)(c:vJ i (l.take k) d=some d'):vJ i (l.take (k+1)) d=rB d' v i (-1):=by
 rw[Nh,h,Option.toList,uX,c,Nw]
 show(rB d' v i (-1)).bind (vJ i [])=_
 cases rB d' v i (-1)<;>rfl
theorem qr{i:Int}{v:Int}(h:l[k]? =some v)(g:vJ i (l.take k) d=some d')(c:rB d' v i (-1)=none):vJ i l d=none:=by
 rw[sD h,uX,g,Nw]
 show(rB d' v i (-1)).bind _=none
 rw[c];rfl
def ug (p:IProg)(i k:Int)(o:IOp)(d:wO):Option wO:=if opF p o then(if 0<=o.res then rB d o.res i k else some d) else none
theorem dG (p:IProg)(i k:Int)(o:IOp)(os:List IOp)(d:wO):sS p i (o::os) k d=(ug p i k o d).bind (sS p i os (k+1)):=by
 unfold sS ug
 by_cases h:opF p o=true
 ·rw[if_pos h,if_pos h]
  by_cases h2:0<=o.res
  ·rw[if_pos h2,if_pos h2]
  ·rw[if_neg h2,if_neg h2];rfl
 ·rw[if_neg h,if_neg h];rfl
theorem cK{p:IProg}{i:Int}{l:List IOp}{o:IOp}(h:l[k]? =some o)(c:sS p i (l.take k) 0 d=some d'):sS p i (l.take (k+1)) 0 d=ug p i k o d':=by
 rw[Nh,h,Option.toList,uI,c,Nw,dG,vS h,Ub];cases ug p i k o d'<;>rfl
theorem oR{p:IProg}{i:Int}{l:List IOp}{o:IOp}(h:l[k]? =some o)(g:sS p i (l.take k) 0 d=some d')(c:ug p i k o d'=none):sS p i l 0 d=none:=by
 rw[sD h,uI,g,Nw,dG,vS h,Ub,c];rfl
theorem lQ{p:IProg}{l:List IBlk}{b:IBlk}(h:l[k]? =some b)(c:uH p bl (l.take k) 0 d=some d'):uH p bl (l.take (k+1)) 0 d=pS p bl k b d':=by
 rw[Nh,h,Option.toList,ui,c,Nw,vS h,Ub]
 show(pS p bl k b d').bind (uH p bl [] _)=_
 cases pS p bl k b d'<;>rfl
theorem abe{p:IProg}{l:List IBlk}{b:IBlk}(h:l[k]? =some b)(g:uH p bl (l.take k) 0 d=some d')(c:pS p bl k b d'=none):uH p bl l 0 d=none:=by
 rw[sD h,ui,g,Nw,vS h,Ub]
 show(pS p bl k b d').bind _=none
 rw[c];rfl
def sy:wO:=(fun _=>none,fun _=>none)
theorem wS (p:IProg)(bl:List IBlk):wg p bl=uH p bl bl 0 sy:=rfl
def ShpPost (w:World)(C m1 m2:Nat)(pv:List Value)(blv idv:Value)(r:Option wO)(e:Ending)(w':World):Prop:=
 e=.returned (.bool r.isSome)/\Kept m1 m2 w w'/\∀d,r=some d->∃n,n<9000000000000000000/\ChkAt w' C m1 m2 pv blv idv n d
def vZ (blocks:List IBlk):Prop:=blocks.length<=2000000/\∀b∈blocks,b.params.length<=2000000/\b.ops.length<=2000000/\b.term.to.length<=2000000
end Go.Proofs.Ytojclalkfhoooaa
set_option maxRecDepth 8000
namespace Go.Proofs.Ytojclalkfhoooaa
open Go.RowKit
variable {W W' W0 w w' w0 w1:World}{B0 Bi Bn Bv C bi bm bp i j k m nm op x:Nat}{tl:List Value}{bl blocks:List IBlk}{t:Int}{c idom l:List Int}{d d':wO}{o:Obj}{g preds:List (List Nat)}{ns pr rs xs:List Nat}{ds:List Deferred}{oi:Oper}
theorem mD{P:List (List Nat)}{n s:Nat}(h:∀r∈P,r.length<=m):∀r∈xS n P s,r.length<=m+1:=by
 intro r hr;rcases Qe hr with hr|rfl
 ·have:=h r hr;omega
 ·simp only[Jk,Nq,Ow]
  by_cases hs:s<P.length
  ·have:=h (P.getD s []) (by rw[Jj,Jd hs];exact Uf hs);omega
  ·rw[Jj,Of Zo];simp
theorem oB (n:Nat):∀(l:List Nat) (P:List (List Nat)) (m:Nat),(∀r∈P,r.length<=m)->∀r∈l.foldl (xS n) P,r.length<=m+l.length
 | [],_,_,h=>h
 |s::l,P,m,h=>fun r hr=>by
  have:=oB n l _ (m+1) (mD h) r hr;simp only[Nq];omega
theorem rj (g:List (List Nat))(D:Nat)(c:∀row∈g,row.length<=D):∀(l:List Nat) (P:List (List Nat)) (m:Nat),(∀r∈P,r.length<=m)->∀r∈l.foldl (yh g) P,r.length<=m+l.length*D
 | [],_,_,h=>by simpa using h
 |u::l,P,m,h=>fun r hr=>by
  have hd:(succ g u).length<=D:=by
   unfold succ;rw[Jj]
   cases e:g[u]? with
   |none=>simp
   |some row=>exact c row (Ji e)
  have:=rj g D c l _ (m+D) (fun r hr=>by have:=oB u (succ g u) P m h r hr;omega) r hr;simp only[Nq,Nat.add_mul,Nat.one_mul];omega
theorem pred_len{D:Nat}(d:∀row∈g,row.length<=D)(c row:List Nat)(k j n N:Nat)(hk:k<=N){s:Nat}
 (h:((row.take j).foldl (xS n) ((c.take k).foldl (yh g) (List.replicate N [])))[s]? =some pr):pr.length<=k*D+j:=by
 have h1:=oB n (row.take j) _ (0+(c.take k).length*D) (rj g D d (c.take k) (List.replicate N []) 0 (by intro r hr;rw[(List.mem_replicate.1 hr).2];simp)) pr (Ji h);have h2:(c.take k).length<=k:=List.length_take_le _ _;have h3:(row.take j).length<=j:=List.length_take_le _ _;have i:=Qw D h2;omega
structure ViewMem (w0 w:World) (B0 B bv bm bp n:Nat) (ov:Value) (ord:List Nat) (nm:Nat) (f:Int->Int) (preds:List (List Nat)):Prop where
 hv:w.heap[bv]? =some (.cells #[ov,.map (some bm),.slice (some ⟨bp,0,none⟩) n n] 188 (0,0))
 ho:w.ownsRow B0 3 1 ov ord.length (ord.map zj)
 ho2:∀g,ov.ownBlock=some g->g<B
 hm:ud w bm nm f
 hp:OwnRows zj 3 22 w B bp preds
 hl:preds.length=n
 hb:Below B0 w0 w
 lt:B0<=bv/\B0<=bm/\B0<=bp/\bv<B/\bm<B/\bp<B/\B<=w.heap.size
def oN (w:World)(C bv:Nat)(ord:List Nat)(f:Int->Int)(preds:List (List Nat)):Prop:=
 ∃ov bm pv nm,T w bv 0 ov/\T w bv 1 (.map (some bm))/\T w bv 2 pv/\xp zj w C ov ord/\ud w bm nm f/\bm<C/\aaB zj w C pv preds/\bv<C
theorem oN.below{bv:Nat}{c:List Nat}{f:Int->Int}(h:oN w C bv c f preds)(hb:Below C w w'):oN w' C bv c f preds:=by
 obtain⟨ov,bm,pv,nm,c0,c1,c2,ho,hm,d,hp,hl⟩:=h;exact⟨ov,bm,pv,nm,(hb.cell (p:=⟨bv,0,none⟩) hl).trans c0,(hb.cell (p:=⟨bv,1,none⟩) hl).trans c1,(hb.cell (p:=⟨bv,2,none⟩) hl).trans c2,ho.below hb,hm.same (hb.block bm d),d,hp.below hb,hl⟩
def RetView (w:World)(ord:List Nat)(f:Int->Int)(preds:List (List Nat))(e:Ending)(w':World):Prop:=
 ∃bv,e=.returned (I bv)/\w.heap.size<=bv/\oN w' w'.heap.size bv ord f preds/\L w w'
theorem ViewMem.read{B bv n:Nat}{ov:Value}{c:List Nat}{f:Int->Int}(h:ViewMem w0 w B0 B bv bm bp n ov c nm f preds):oN w w.heap.size bv c f preds:=by
 refine⟨ov,bm,Q bp n n,nm,zA h.hv Zs,zA h.hv Zs,zA h.hv Zs,rY h.ho (Je _),h.hm,h.hm.lt,?_,lt_of_block h.hv⟩;have:=h.hp.asRows (Je w.heap.size)
 rwa [h.hl] at this
theorem Try.info_ints:(Try.prog.info? 22).map (fun i=>(i.zero,i.size,i.bytes))=some (some (.slice none 0 0),1,24):=by kernel_rfl
theorem ViewMem.store{B bv n:Nat}{ov:Value}{i:List Nat}{f f':Int->Int}(h:ViewMem w0 w B0 B bv bm bp n ov i nm f preds)
 (hg:w.grownBy w' (some bm)) (hm:ud w' bm j f'):ViewMem w0 w' B0 B bv bm bp n ov i j f' preds:=by
 obtain⟨hv,ho,ho2,d,hp,hl,hb,o⟩:=h;obtain⟨c,m⟩:=hp.blk;refine⟨zL hg hv (by simpa using d.ne hv),ho.kept hg ?_,ho2,hm,hp.kept hg (by simpa using d.ne m) (by intro k hk;cases hk;omega),hl,hb.grown hg (by have:=lt_of_block hv;have:=d.lt;omega) (by intro k hk;cases hk;omega),by have:=hg.size;omega⟩;right;intro e;rcases ho.2 with⟨rfl,_⟩|⟨g,r,cur,rfl,q,l,_⟩
 ·simp[Value.ownBlock] at e
 ·simp only[Value.ownBlock,Option.some.injEq] at e;subst e;exact d.ne l rfl
theorem ViewMem.push{w2:World}{B bv n s g r H:Nat}{ov:Value}{t:List Nat}{f:Int->Int}{d:List (List Nat)}{row:List Nat}{a:Option Addr}(h:ViewMem w0 w B0 B bv bm bp n ov t nm f d)
 (hs:d[s]? =some row) (hc:T w bp s (.slice a row.length m)) (hg:(w.alloc o).grownBy w2 (Value.slice a row.length m).ownBlock)
 (a1:w2.ownsRow B 3 1 (Q g (row.length+1) r) (row.length+1) (row.map zj++ [zj x]))
 (a3:(Value.slice a row.length m).ownBlock=some g∨g=H) (hH:w.heap.size<=H):
 ViewMem w0 (w2.setCell ⟨bp,s,none⟩ (Q g (row.length+1) r)) B0 B bv bm bp n ov t nm f (d.set s (row++ [x])):=by
 obtain⟨hv,ho,ho2,j,hp,hl,hb,a6⟩:=h;obtain⟨c,l⟩:=hp.blk;obtain⟨a',a4,y,u,_⟩:=hp.get hs;rw[hc] at y;cases y;have a0:=zC u hv (.inl Zo);have i:∀k,(Value.slice a row.length m).ownBlock=some k->B<=k:=fun k hk=>(u.lt k hk).1
 have a2:bv≠bp:=by rintro rfl;rw[hv] at l;simp at l
 have q:=hp.put Zd hs hc hg (row':=row++ [x]) (by simpa using a1) a3 hH;simp only[Jk,Nq,Ow,Ng] at q;refine⟨zR (zL hg (zB hv) a0) (by simpa using a2),?_,ho2,?_,q,by simp[hl],?_,by have:=hg.size;simp[World.setCell] at this ⊢;omega⟩
 ·refine ownsRow_setCell_other ((ho.alloc o).kept hg ?_) ?_ _
  ·cases hk:ov.ownBlock with
   |none=>exact .inl rfl
   |some k=>
    right;intro e;have:=ho2 k hk;have:=i k e.symm;omega
  ·exact zC (b:=bp) ho l (.inr Zd)
 ·refine j.same ?_;rw[Below.heap_setCell _ _ _ _ (by simpa using j.ne l),hg.block bm (by have:=j.lt;simp;omega) (fun e=>by have:=i bm e.symm;omega),Below.heap_alloc _ _ _ j.lt]
 ·have a5:=lt_of_block hv;exact((hb.alloc Zo o).grown hg Zt (fun k hk=>by have:=i k hk;omega)).setCell (show B0<=bp by omega) _
theorem uj{row:Option Nat}(h:w.drew.grownBy w' row):w.grownBy w' row:=⟨h.os,h.tape,h.output,h.size,h.block⟩
theorem uG{B:Nat}(h:Below B w w'):Below B w w'.drew:=h.drew
theorem lq{n:Nat}{v:Value}(c:T w' n 0 v)(h:Below (n+1) W0 w')(hl:n<W0.heap.size)(o:Obj):T (w'.alloc o) n 0 v/\Below (n+1) W0 (w'.alloc o):=by
 have:=h.size;exact⟨by rw[Oo (w:=w') (Below.heap_alloc _ _ _ Zt)];exact c,h.alloc Zo o⟩
theorem oY{n:Nat}{v:Value}(c:T w' n 0 v)(h:Below (n+1) W0 w')(hl:n<W0.heap.size)(hb:L w' w1):T w1 n 0 v/\Below (n+1) W0 w1:=by
 have:=h.size;exact⟨(hb.cell (p:=⟨n,0,none⟩) (show n<_ by omega)).trans c,h.trans (hb.mono Zo)⟩
theorem ww{n:Nat}(c:n=w.heap.size)(d:Hid (w.alloc o=W0))(h:Below (n+1) W0 w'):Below n w w':=by
 have e:=d.out;subst e;subst c;exact((Below.refl _ _).alloc (Je _) _).trans (h.mono Zo)
theorem o7{B:Nat}(hB:B<=w.heap.size)(c:Hid (w.alloc o=W0))(h:Below (w.heap.size+1) W0 w'):B<=w'.heap.size:=by
 have:=(ww rfl c h).size;omega
theorem nP{B:Nat}{v:Value}(d:aaB zj w B v g)(hB:B<=w.heap.size)(c:Hid (w.alloc o=W0))(h:Below (w.heap.size+1) W0 w'):aaB zj w' B v g:=
 d.below ((ww rfl c h).mono hB)
theorem aJ{X wy:World}{F F':List Nat}{ao:Option Addr}{co bv n:Nat}(h:F.length=F'.length)(c:w1.ownsRow X.heap.size 3 1 (.slice ao F.length co) F.length (F.map zj))(lg:w.heap.size<W0.heap.size)
 (i:W0.heap.size<=X.heap.size) (hb:Below (w.heap.size+1) W0 wy) (hg:w1.grownBy wy none) (d:wy.heap.size=bv)
 (hm:wy.heap[bm]? =some (.map #[] 0)) (hp:Y wy bp (madeCells #[.slice none 0 0] n) 22) (lt:w.heap.size<bm/\w.heap.size<bp):
 ∃bv' bm' bp' ov,Value.pointer (some ⟨bv,0,none⟩)=I bv'/\Hid (ViewMem W0 (wy.alloc (A #[.slice ao F'.length co,.map (some bm),Q bp n n] 188)) (w.heap.size+1) (wy.alloc (A #[.slice ao F'.length co,.map (some bm),Q bp n n] 188)).heap.size bv' bm' bp' n ov F 0 (fun _=>0) (List.replicate n [])):=by
 rw[<-h];have h1:=hb.size;have h2:=hg.size;have ho:=(c.kept hg (by cases ao<;>simp[Value.ownBlock])).alloc (A #[.slice ao F.length co,.map (some bm),Q bp n n] 188);have h3:=lt_of_block hm;have j:=lt_of_block hp;refine⟨bv,bm,bp,.slice ao F.length co,rfl,zI d,vY ho Zo,fun g hg=>(ho.lt g hg).2,?_,OwnRows.made _ (by rw[zB hp,yA]),by simp,hb.alloc Zo _,?_⟩
 ·exact⟨_,⟨#[],0,zB hm,(let⟨es,clock,h1,h2,_⟩:=(World.ownsMap_made (H:=Unit) w Try.prog 3 (plainElem Try.prog 3));by
   rw[zI rfl] at h1;cases h1;exact h2),Je _,rfl⟩,fun _ _=>rfl⟩
 ·simp only[World.size_alloc];omega
theorem view_any (w:World)(sv:Value)(g:List (List Nat))(B:Nat)(hB:B<=w.heap.size)(h:aaB zj w B sv g)(hv:zw g)(hn:g.length<=2000000)(hr:∀row∈g,row.length<=2000000)
 (c:List Nat) (hF:tV g c):
 G 101 #[.agg #[sv]] w (RetView w c (atF c c.length) (un g c)):=by
 obtain⟨a,r,rfl,g6⟩:=h.form;obtain⟨ii,e9,d1,d0,c9⟩:=info_parts Try.info_int;have d4:L w (w.alloc (A #[.slice a g.length r] 93)):=(Below.refl _ _).alloc (Je _) _;have e4:=@run_makeMap Try.prog;have e5:=run_make_row' (P:=Try.prog) 91 22 (.slice none 0 0) 24 Try.underlying91 Try.info_ints rfl .i64 .i64 g.length Zo Zo;have HV:=Ja hv;have HR:=Ja hr;have HF:=Ja hF;have cg:T (w.alloc (A #[.slice a g.length r] 93)) w.heap.size 0 (.slice a g.length r):=cell_of_one (zI rfl);clear hv hr hF;go_enter Try.func101,Try.ntmps101;go_upto_region 1 with fail;generalize c0:w.alloc (A #[.slice a g.length r] 93)=W0 at cg ⊢;have u:=Ja c0;have g7:=Below.refl (w.heap.size+1) W0;have lg:w.heap.size<W0.heap.size:=Jw W0 _ cg;clear c0 d4
 go_cut [3] (fun s3 wx=>∃bv bm bp ov,s3=I bv/\Hid (ViewMem W0 wx (w.heap.size+1) wx.heap.size bv bm bp g.length ov c 0 (fun _=>0) (List.replicate g.length [])))
 case first=>
  go_region_held3 (fun w'=>T w' w.heap.size 0 (.slice a g.length r)/\Below (w.heap.size+1) W0 w')
   (first
     |(go_split_ands;refine⟨?_,?_⟩<;>assumption)
     |(go_split_ands;refine⟨?_,uG ?_⟩<;>assumption)
     |(go_split_ands;exact lq ‹_› ‹_› Zz _)
     |(go_split_ands;exact oY ‹_› ‹_› Zz Zz))
   ((go_at_call 68;refine(tp _ _ g B (o7 hB u (by repeat' (first|assumption|(with_reducible refine Below.drew ?_)|(with_reducible refine Below.alloc ?_ ?_ _)|omega|(simp<;>omega)))) (nP h hB u (by repeat' (first|assumption|(with_reducible refine Below.drew ?_)|(with_reducible refine Below.alloc ?_ ?_ _)|omega|(simp<;>omega)))) HV.out hn HR.out c HF.out).mono ?_;rintro e w1 ⟨ov,rfl,b6,a5⟩;obtain⟨ao,co,rfl⟩:=zG b6))
  all_goals
   go_wp2_with fail;go_meet;have e1:=a5.size;simp at e1;refine aJ (w:=w) (w1:=w1) (F:=c) rfl b6 lg ?_ ?_ ?_ ?_ ?_ ?_ ?_
   ·simp<;>omega
   ·repeat' (first|assumption|(with_reducible refine Below.drew ?_)|(with_reducible refine Below.alloc ?_ ?_ _)|(refine Below.trans ?_ (Below.mono a5 ?_))|omega|(simp<;>omega))
   ·repeat' (first|(with_reducible exact oI _ _)|(with_reducible refine World.grownBy.trans ?_ (Uo _ _ _)))
   ·simp
   ·repeat' (first|(refine zI ?_;first|rfl|(simp;done))|(refine zB ?_)|(refine zH a5 ?_ ?_)|omega|(simp<;>omega))
   ·repeat' (first|(refine zI ?_;first|rfl|(simp;done))|(refine zB ?_)|(refine zH a5 ?_ ?_)|omega|(simp<;>omega))
   ·constructor<;>first|omega|(simp<;>omega)
 case rest=>
  obtain⟨bv,bm,bp,ov,rfl,a6⟩:=hcut;obtain⟨BB,c3⟩:∃BB,BB=wc.heap.size:=⟨_,rfl⟩
  rw[<-c3] at a6;clear c3 e4 e5;have ho:=a6.out.ho;obtain⟨ao,co,rfl⟩:=zG ho;have b9:=a6.out.hv;have f4:=K0 b9;clear ho b9;have e2:=(HF.out.nodes HV.out).1;go_wp2_with fail
  go_loopw [22] (fun i wr=>∃k:Nat,k<=c.length/\i=O k/\Hid (ViewMem W0 wr (w.heap.size+1) BB bv bm bp g.length (.slice ao c.length co) c k (atF c k) ((c.take k).foldl (yh g) (List.replicate g.length [])))) (fun i _=>c.length-(intOf i).toNat)
  case atStart=>exact⟨0,Jt _,rfl,by rw[show atF c 0=fun _=>0 from rfl];simpa using a6⟩
  case round=>
   obtain⟨k,hk,rfl,x⟩:=hrel
   by_cases e6:k<c.length
   ·obtain⟨n,a4⟩:∃n,c[k]? =some n:=⟨_,Jd e6⟩
    have e3:n<g.length:=(HF.out.nodes HV.out).2 n (Ji a4);have g2:(n:Int)<g.length:=Zo;have g5:(k:Int)<c.length:=Zo;have d8:=rY x.out.ho (Je _);obtain⟨ao',h7,f1,_,hx⟩:=d8;cases f1;obtain⟨bo,oo,rfl,_,c5⟩:=hx k n a4;simp only[zj] at c5;have f3:=K1 x.out.hv;obtain⟨row,q⟩:∃row,g[n]? =some row:=⟨_,Jd e3⟩
    have c8:=Ja a4;clear hx a4 f4;obtain⟨b,o,a2,g9,rfl,hb,hc,f9,hx⟩:=h.row q;have HX:=Ja hx;have HC:=Ja hc;clear hx hc;go_wp2_with (at_mapUpdate;go_must (refine rW rfl (.tmp 30) (.tmp 31) (.tmp 32) rfl x.out.hm Zo (n:Int) (k:Int) rfl rfl rfl Zo Zo ?_;intro w2 b7 b8;have m:=x.out.store b8 b7;have d3:=(m.hb.cell (p:=⟨w.heap.size,0,none⟩) (show w.heap.size<w.heap.size+1 by omega)).trans cg;have hc:=((ww rfl u m.hb).cell (p:=⟨b,o+n,none⟩) (show b<w.heap.size by omega)).trans HC.out;have d5:=Ja m;clear m b7 b8))
    have hrl:=HR.out row (Ji q);have b0:=Ja q;clear x c5 f3 q
    go_loopw [39] (fun i wx=>∃j:Nat,j<=row.length/\i=O j/\Hid (ViewMem W0 wx (w.heap.size+1) BB bv bm bp g.length (.slice (some ⟨bo,oo,none⟩) c.length co) c (k+1) (fun y=>if y=(n:Int) then(k:Int) else atF c k y) ((row.take j).foldl (xS n) ((c.take k).foldl (yh g) (List.replicate g.length []))))) (fun i _=>row.length-(intOf i).toNat)
    case atStart=>exact⟨0,Jt _,rfl,by simpa using d5⟩
    case round=>
     obtain⟨j,hj,rfl,d⟩:=hrel
     by_cases d2:j<row.length
     ·obtain⟨s,a0⟩:∃s,row[j]? =some s:=⟨_,Jd d2⟩
      have e0:s<g.length:=HV.out.2 row (Ji b0.out) s (Ji a0);obtain⟨b2,o2,rfl,h4,c4⟩:=HX.out j s a0;have cs:=((ww rfl u d.out.hb).cell (p:=⟨b2,o2+j,none⟩) (show b2<w.heap.size by omega)).trans c4;simp only[zj] at cs;have b5:=d.out.hl;obtain⟨pr,a1⟩:∃pr,((row.take j).foldl (xS n) ((c.take k).foldl (yh g) (List.replicate g.length [])))[s]? =some pr:=⟨_,Jd (by rw[b5];exact e0)⟩
      obtain⟨ap,a9,cp,a3,fp⟩:=d.out.hp.get a1;have c2:=K2 d.out.hv;have h0:=d.out.lt.2.2.2.2.2.2;have g1:pr.length<=4000004000000:=by have:=pred_len HR.out c row k j n _ (Jn hk e2) a1;omega
      have g0:(s:Int)<g.length:=Zo;have g4:(j:Int)<row.length:=Zo;have lb:=d.out.lt;have d7:=lt_of_block d.out.hv;have b4:=d.out.hp.bplt;have d6:=zC a3 d.out.hv (.inl Zo);obtain⟨cc,a7⟩:=d.out.hp.blk;have b3:=zC a3 a7 (.inr Zd);have c7:=Ja a1;have f7:=Ja a0;have h9:=Ja a7;have f8:=Ja a3;clear a1 a0 a7 a3 c4 b5 d3 hc;have f2:∀o,N (wr.alloc o) bp s:=fun o=>(Qm (w:=wr) (Below.heap_alloc _ _ _ b4)).trans fp
      have f5:∀o,T (wr.alloc o) bp s (.slice ap pr.length a9):=fun o=>(Oo (w:=wr) (Below.heap_alloc _ _ _ b4)).trans cp
      have f6:∀o,T (wr.alloc o) bv 2 (Q bp g.length g.length):=fun o=>(Oo (w:=wr) (Below.heap_alloc _ _ _ d7)).trans c2
      go_upto_block 3 with fail
      go_cut [7] (fun s7 wx=>Hid (ViewMem W0 wx (w.heap.size+1) BB bv bm bp g.length (.slice (some ⟨bo,oo,none⟩) c.length co) c (k+1) (fun y=>if y=(n:Int) then(k:Int) else atF c k y) (((row.take j).foldl (xS n) ((c.take k).foldl (yh g) (List.replicate g.length []))).set s (pr++ [n]))))
      case first=>
       go_upto_region 9 with fail
       go_region_law (first|(refine step_append_lies _ (by rfl) (.tmp 54) (.tmp 56) _ (by rfl) BB 3 ii (O 0) 1 8 Try.underlying22 e9 d1 d0 c9 rfl Zo (.slice ap pr.length a9) pr.length (pr.map zj) (by rfl) ((f8.out.alloc _).drew) ⟨wr.heap.size,0,none⟩ 1 1 [O n] (by rfl) (by rfl) (Oi (cs:=#[O n]) (t:=3) (fr:=(0,0)) (heap_alloc_new wr _)) (by simp[Value.oneCell']) Zo (by unfold maxLen;omega) Zo Zt (wr.heap.size+1) Zs ?_;intro gg g8 w3 b1 l f0 g3;have h8:=(l.cell_far ⟨bv,2,none⟩ Zt (Ne.symm d6)).trans (f6 _);have h6:=(l.cell_far ⟨bp,s,none⟩ Zt (Ne.symm b3)).trans (f5 _);have h5:=(l.frozen_far ⟨bp,s,none⟩ Zt (Ne.symm b3)).trans (f2 _)))
       all_goals (go_wp2_with fail;go_meet;exact Ja (d.out.push c7.out cp (uj l) b1 f0 Zo))
      case rest=>
       go_wp2_with fail;go_roundw
       case rel=>exact⟨j+1,by omega,by go_num,by rw[Nh,f7.out];simpa[xS,Jj,c7.out] using hcut⟩
       case measure=>simp[intOf];omega
     ·go_wp2_with fail;go_roundw
      case rel=>exact⟨k+1,by omega,by go_num,by
       have e8:j=row.length:=Zo;have h1:=d;rw[e8,Nl] at h1;rw[Nh,c8.out,List.foldl_append];have h2:succ g n=row:=by simp[succ,Jj,b0.out]
       have h3:atF c (k+1)=fun y=>if y=(n:Int) then(k:Int) else atF c k y:=by
        funext y;simp only[atF,Jj,c8.out,Ot]
       rw[h3]
       simpa[yh,h2] using h1⟩
      case measure=>simp[intOf];omega
   ·have e7:k=c.length:=Zo;subst e7;go_wp2_with fail;go_ret;refine⟨bv,rfl,?_,?_,ww rfl u x.out.hb⟩
    ·have:=x.out.lt;omega
    ·have:=x.out.read
     rwa [Nl] at this
end Go.Proofs.Ytojclalkfhoooaa
set_option maxRecDepth 8000
namespace Go.Proofs.Ytojclalkfhoooaa
open Go.RowKit
variable {W W' W0 w w' w0 w1:World}{B0 Bi Bn Bv C bi bm bp i j k m nm op x:Nat}{tl:List Value}{bl blocks:List IBlk}{t:Int}{c idom l:List Int}{d d':wO}{o:Obj}{g preds:List (List Nat)}{ns pr rs xs:List Nat}{ds:List Deferred}{oi:Oper}
theorem UpN.lt{f:Int->Int}:∀ {k a a':Nat},UpN c f t k a a'->a<c.length->a'<c.length
 |0,_,_,h,ha=>by rw[h.2];exact ha
 |k+1,_,_,h,_=>by obtain⟨_,a1,h1,_,h2⟩:=h;exact UpN.lt h2 h1
theorem nj{b n:Nat}{f:Int->Int}(h:ud w b n f){x:Int}(c:-9223372036854775808<=x/\x<=9223372036854775807)(k:Nat):
 (Instr.lookup 126 (.map (some b)) (O x) false).run Try.prog (w.drewN k)=.ok (O (f x)) (w.drewN k):=
 (ud.look (h.same (w':=w.drewN k) rfl) c).1
theorem meet_any (w:World)(Bv Bi bv bm nm bi:Nat)(f:Int->Int)(c:List Int)(hn:c.length<=2000000)
 (c1:T w Bv 0 (I bv)) (c2:T w bv 1 (.map (some bm))) (hm:ud w bm nm f)
 (c3:T w Bi 0 (Q bi c.length c.length)) (hi:Y w bi (c.map (Value.int .i64)).toArray 3)
 (k0 a b r:Nat) (ha:a<c.length) (hb:b<c.length) (hM:qZ c f k0 a b r):
 G 121 #[O a,O b,I Bv,I Bi] w fun e w'=>e=.returned (O r)/\∃n,w'=w.drewN n:=by
 have o:=Ja hM;have HI:=Ja hi;have l:=Ja hm;clear hM hi hm;go_enter Try.func121,Try.ntmps121;go_wp2
 go_loopg [0,1] k0 (fun k x y wr=>∃a b:Nat,a<c.length/\b<c.length/\x=O a/\y=O b/\Hid (qZ c f k a b r)/\∃n,wr=w.drewN n)
 case atStart=>exact⟨a,b,ha,hb,rfl,rfl,o,0,rfl⟩
 case round=>
  clear ha hb o a b;obtain⟨a,b,ha,hb,rfl,rfl,o,n,rfl⟩:=hrel
  cases gk with
  |zero=>
   obtain⟨rfl,rfl⟩:=o.out;have a2:((r:Int) !=(r:Int))=false:=by simp
   go_wp2;go_ret
   exact⟨rfl,n,rfl⟩
  |succ k=>
   obtain⟨a3,j,a',h,j',b',q,hM⟩:=o.out;have a2:((a:Int) !=(b:Int))=true:=by simp;omega
   have m:=Ja h;have g:=Ja q;have a4:=Ja hM;have a0:=UpN.lt h ha;have u:=UpN.lt q hb;clear a3 h q hM o;go_wp2
   go_loopg [0] j (fun j x wr=>∃a:Nat,a<c.length/\x=O a/\Hid (UpN c f (f b) j a a')/\∃n,wr=w.drewN n)
   case atStart=>exact⟨a,ha,rfl,m,n,rfl⟩
   case round=>
    clear m;obtain⟨x,a9,rfl,m,n2,rfl⟩:=hrel;have la:=nj l.out (x:=(x:Int)) Zo;have lb:=nj l.out (x:=(b:Int)) Zo
    cases gk with
    |zero=>
     obtain⟨i,rfl⟩:=m.out;have d:decide (f b<f a')=false:=by simpa using i
     go_wp2;go_quiet (fail);go_wp2
     go_loopg [1] j' (fun j y wr=>∃y0:Nat,y0<c.length/\y=O y0/\Hid (UpN c f (f a') j y0 b')/\∃n,wr=w.drewN n)
     case atStart=>exact⟨b,hb,rfl,g,_,World.drewN_drewN _ _ _⟩
     case round=>
      clear g d;obtain⟨y,a7,rfl,g,n3,rfl⟩:=hrel;have lc:=nj l.out (x:=(y:Int)) Zo
      cases gk with
      |zero=>
       obtain⟨i,rfl⟩:=g.out;have d:decide (f a'<f b')=false:=by simpa using i
       go_wp2;go_quiet (fail);go_wp2
       go_roundg k
       case measure=>omega
       case rel=>exact⟨a',b',a0,u,rfl,rfl,a4,_,World.drewN_drewN _ _ _⟩
      |succ j2=>
       obtain⟨i,y1,h1,hy,h⟩:=g.out;have d:decide (f a'<f y)=true:=by simpa using i
       have cy:T w bi y (O y1):=zA HI.out (by simp[hy]);have a5:(y:Int)<c.length:=Zo;have t:=Ja h;clear hy h g;go_wp2;go_quiet (fail);go_wp2
       go_roundg j2
       case measure=>omega
       case rel=>exact⟨y1,h1,rfl,t,_,rfl⟩
    |succ j2=>
     obtain⟨i,a1,h1,hx,h⟩:=m.out;have d:decide (f b<f x)=true:=by simpa using i
     have cx:T w bi x (O a1):=zA HI.out (by simp[hx]);have a6:(x:Int)<c.length:=Zo;have t:=Ja h;clear hx h m;go_wp2;go_quiet (fail);go_wp2
     go_roundg j2
     case measure=>omega
     case rel=>exact⟨a1,h1,rfl,t,_,rfl⟩
end Go.Proofs.Ytojclalkfhoooaa
set_option maxRecDepth 8000
namespace Go.Proofs.Ytojclalkfhoooaa
open Go.RowKit Go.Shelf
variable {W W' W0 w w' w0 w1:World}{B0 Bi Bn Bv C bi bm bp i j k m nm op x:Nat}{tl:List Value}{bl blocks:List IBlk}{t:Int}{c idom l:List Int}{d d':wO}{o:Obj}{g preds:List (List Nat)}{ns pr rs xs:List Nat}{ds:List Deferred}{oi:Oper}
attribute [local go_sem] Oper.semAt_some
theorem wi.snoc {idom:List Int}{f:Int->Int}{p:Nat}:∀ {ps:List Nat} {d d1 d2:Int},wi idom f ps d d1->mJ idom f p d1 d2->wi idom f (ps++ [p]) d d2
 | [],d,d1,d2,h,h2=>by cases h;exact⟨d2,h2,rfl⟩
 |q::ps,d,d1,d2,⟨d0,h0,h⟩,h2=>⟨d0,h0,wi.snoc h h2⟩
theorem UpN.unique{f:Int->Int}:∀ {k k2 a r r2:Nat},UpN c f t k a r->UpN c f t k2 a r2->r=r2
 |0,0,_,_,_,h,h2=>h.2.trans h2.2.symm
 |0,_+1,_,_,_,h,h2=>absurd h2.1 h.1
 |_+1,0,_,_,_,h,h2=>absurd h.1 h2.1
 |k+1,k2+1,a,r,r2,⟨_,a1,_,h,h3⟩,⟨_,a2,_,h2,h4⟩=>by
  obtain rfl:a1=a2:=by rw[h] at h2;exact Int.ofNat_inj.1 (Nt h2)
  exact UpN.unique h3 h4
theorem qZ.unique{f:Int->Int}:∀ {k k2 a b r r2:Nat},qZ c f k a b r->qZ c f k2 a b r2->r=r2
 |0,0,_,_,_,_,h,h2=>h.2.trans h2.2.symm
 |0,_+1,_,_,_,_,h,h2=>absurd h.1 h2.1
 |_+1,0,_,_,_,_,h,h2=>absurd h2.1 h.1
 |k+1,k2+1,a,b,r,r2,⟨_,j,a1,h1,j',b1,h2,h3⟩,⟨_,i,a2,g1,i',b2,g2,g3⟩=>by
  obtain rfl:=UpN.unique h1 g1;obtain rfl:=UpN.unique h2 g2;exact qZ.unique h3 g3
theorem mJ.unique{f:Int->Int}{p:Nat}{d d1 d2:Int}(h:mJ c f p d d1)(h2:mJ c f p d d2):d1=d2:=by
 obtain⟨x,j,h⟩:=h;obtain⟨y,g,h2⟩:=h2;obtain rfl:x=y:=by rw[j] at g;simpa using g
 rcases h with⟨a,rfl⟩|⟨a,b,rfl⟩|⟨a,dn,rfl,_,k,r,hm,rfl⟩<;>rcases h2 with⟨a',e⟩|⟨a',b',e⟩|⟨a',dn',e0,_,k',r',i,e⟩
 ·exact e.symm
 ·exact absurd a a'
 ·exact absurd a a'
 ·exact absurd a' a
 ·exact e.symm
 ·omega
 ·exact absurd a' a
 ·omega
 ·obtain rfl:dn=dn':=by omega
  rw[e,qZ.unique hm i]
theorem wi.unique{f:Int->Int}:∀ {ps:List Nat} {d d1 d2:Int},wi c f ps d d1->wi c f ps d d2->d1=d2
 | [],_,_,_,h,h2=>h.trans h2.symm
 |p::ps,d,d1,d2,⟨e,h,h'⟩,⟨e2,g,g'⟩=>by
  obtain rfl:=h.unique g;exact wi.unique h' g'
structure DomMem (w W:World) (bv Bi bi n:Nat) (idom:List Int):Prop where
 hv:W.heap[w.heap.size]? =some (.cells #[.pointer (some ⟨bv,0,none⟩)] 160 (0,0))
 hi:W.heap[Bi]? =some (.cells #[.slice (some ⟨bi,0,none⟩) n n] 22 (0,0))
 hm:W.heap[Bi+1]? =some (.cells #[.func (.func 121) #[] #[.pointer (some ⟨w.heap.size,0,none⟩),.pointer (some ⟨Bi,0,none⟩)]] 190 (0,0))
 hr:W.heap[bi]? =some (.cells (idom.map (Value.int .i64)).toArray 3 (0,0))
 hl:idom.length=n
 hb:Below w.heap.size w W
 lt:w.heap.size<bi/\bi<Bi
theorem DomMem.kept{bv n:Nat}{row:Option Nat}(h:DomMem w W bv Bi bi n idom)(hg:W.grownBy W' row)
 (c:∀r,row=some r->w.heap.size<r/\r≠bi/\r≠Bi/\r≠Bi+1):DomMem w W' bv Bi bi n idom:=by
 obtain⟨hv,hi,hm,hr,hl,hb,lt⟩:=h;refine⟨zL hg hv (fun e=>by have:=c _ e;omega),zL hg hi (fun e=>(c _ e).2.2.1 rfl),zL hg hm (fun e=>(c _ e).2.2.2 rfl),zL hg hr (fun e=>(c _ e).2.1 rfl),hl,hb.grown hg hb.size (fun k hk=>?_),lt⟩;have:=c _ hk;omega
theorem DomMem.own{bv n:Nat}{row:Option Nat}(h:DomMem w W bv Bi bi n idom)(hg:W.grownBy W' row)
 (c:∀r,row=some r->∃o:Obj,W.heap[r]? =some o/\o.isCells=false) (hB:∀r,row=some r->w.heap.size<=r):DomMem w W' bv Bi bi n idom:=by
 refine h.kept hg (fun r e=>?_);obtain⟨o,ho,d⟩:=c r e
 have aux:∀ {b:Nat} {cs:Array Value} {t:TypeId},Y W b cs t->r≠b:=by
  rintro b cs t hb rfl;rw[hb] at ho;cases ho;cases d
 exact⟨Nat.lt_of_le_of_ne (hB r e) (Ne.symm (aux h.hv)),aux h.hr,aux h.hi,aux h.hm⟩
theorem DomMem.set{bv n:Nat}(h:DomMem w W bv Bi bi n c)(k:Nat)(d:Int):DomMem w (W.setCell ⟨bi,k,none⟩ (O d)) bv Bi bi n (c.set k d):=by
 obtain⟨hv,hi,hm,hr,hl,hb,lt⟩:=h;refine⟨zR hv Zt,zR hi Zt,zR hm Zt,?_,by simpa using hl,hb.setCell Zt _,lt⟩;rw[zD hr];simp
def oh (B:Nat)(W:World)(ds:List Deferred):Prop:=
 ∃Ds:List Nat,ds=Ds.map (fun D=> {target:=.collected D,args:=#[]})/\Ds.Nodup/\∀D∈Ds,B<=D/\W.heap[D]? =some (.deferred (some []))
theorem oh.keeps{B:Nat}(h:oh B W ds)(hk:KeepsFrom 0 W W'):oh B W' ds:=by
 obtain⟨Ds,rfl,h1,h2⟩:=h;exact⟨Ds,rfl,h1,fun D hD=>⟨(h2 D hD).1,hk.same D _ (Jt _) (h2 D hD).2 rfl⟩⟩
theorem oh.push{B:Nat}{D:Nat}(h:oh B W0 ds)(hk:KeepsFrom 0 W0 W)(g:W0.heap.size<=D)(hB:B<=D)(d:W.heap[D]? =some (.deferred (some []))):
 oh B W ({target:=.collected D,args:=#[]}::ds):=by
 obtain⟨Ds,rfl,h1,h2⟩:=h;refine⟨D::Ds,rfl,Qt.2 ⟨fun hm=>?_,h1⟩,fun E c=>?_⟩
 ·have:=(Array.getElem?_eq_some_iff.1 (h2 D hm).2).1;omega
 ·rcases Jq.1 c with rfl|c
  ·exact⟨hB,d⟩
  ·exact⟨(h2 E c).1,hk.same E _ (Jt _) (h2 E c).2 rfl⟩
theorem sr{F:Fence}{P:Program}{fn:Func}{c:Array Value}{R:Ending->World->Prop}(B:Nat)(G:World->Prop)
 (g:∀W D,B<=D->W.heap[D]? =some (.deferred (some []))->G W->G (W.putObj D (.deferred none))) (d:∀W,G W->LeavesIn F m P fn c R [] .returning W):
 ∀(Ds:List Nat) (W:World),Ds.Nodup->(∀D∈Ds,B<=D/\W.heap[D]? =some (.deferred (some [])))->G W->LeavesInM F m P fn c R (Ds.map (fun D=> {target:=.collected D,args:=#[]})) .returning W
 | [],W,_,_,h=>d W h
 |D::Ds,W,hn,hd,h=>by
  have hD:=hd D Zs;refine⟨by simp,.inl ⟨D,_,rfl,run_takeDeferred hD.2,?_⟩⟩;refine sr B G g d Ds _ (Qt.1 hn).2 (fun E hE=>⟨(hd E (by simp[hE])).1,?_⟩) (g W D hD.1 hD.2 h);rw[World.putObj_heap_other (by rintro rfl;exact(Qt.1 hn).1 hE)];exact(hd E (by simp[hE])).2
theorem _root_.Go.KeepsFrom.from0(h:KeepsFrom 0 W W')(B:Nat):KeepsFrom B W W':=⟨h.size,fun k o _ hk ho=>h.same k o (Jt _) hk ho⟩
theorem uh (W:World)(o:Obj):KeepsFrom 0 W (W.alloc o):=⟨by simp,fun k o' _ hk _=>(Below.heap_alloc _ _ _ (Array.getElem?_eq_some_iff.1 hk).1).trans hk⟩
theorem uu{b:Nat}{cs:Array Value}{t:TypeId}(h:Y W b cs t)(v:Value):KeepsFrom 0 W (W.setCell ⟨b,i,none⟩ v):=
 ⟨by simp,fun k o _ hk hc=>(Below.heap_setCell _ _ _ k (fun e=>by subst e;rw[h] at hk;cases hk;cases hc)).trans hk⟩
theorem uW (W:World)(n:Nat):KeepsFrom 0 W (W.drewN n):=⟨Je _,fun _ _ _ h _=>h⟩
theorem oH{bv n:Nat}(h:Y w1 (w.heap.size+2) (List.replicate n (O (-1))).toArray 3/\L w w1/\Y w1 w.heap.size #[I bv] 160)
 (d:w.heap.size+2<w1.heap.size) (h1:1<=n):
 DomMem w (((w1.setCell ⟨w.heap.size+2,0,none⟩ (O 0)).alloc (A #[Q (w.heap.size+2) n n] 22)).alloc (A #[.func (.func 121) #[] #[I w.heap.size,I w1.heap.size]] 190))
  bv w1.heap.size (w.heap.size+2) n ((0:Int)::List.replicate (n-1) (-1)):=by
 obtain⟨hr,hb,hv⟩:=h;have c:=zD (i:=0) hr (O 0);refine⟨zB (zB (zR hv Zs)),zB (zI Zs),zI Zs,?_,by simp;omega,?_,by omega,d⟩
 ·rw[zB (zB c)];obtain⟨m,rfl⟩:∃m,n=m+1:=⟨n-1,by omega⟩
  simp[Qz]
 ·exact((hb.setCell Zs _).alloc Zt _).alloc Zt _
theorem vA{b:Nat}{a:Addr}(h:a.block≠b)(u:Value):(W.setCell ⟨b,i,none⟩ u).cell? a=W.cell? a:=by
 have:(W.setCell ⟨b,i,none⟩ u).heap[a.block]? =W.heap[a.block]?:=Below.heap_setCell _ _ _ _ h;unfold World.cell?;rw[this]
theorem aaT.keptObj{n:Nat}{bv len:Nat}{ar:Option Addr}{g:Nat}{row:Option Nat}(h:aaT Bv Bn n xs bv bp op len i ar g W)(hg:W.grownBy W' row)
 (d:∀r,row=some r->∃o:Obj,W.heap[r]? =some o/\o.isCells=false):aaT Bv Bn n xs bv bp op len i ar g W':=by
 obtain⟨c1,c2,c3,k,c4,l⟩:=h;refine⟨cell_kept c1 hg d,cell_kept c2 hg d,cell_kept c3 hg d,k,cell_kept c4 hg d,fun j x hj=>?_⟩;obtain⟨b,o,e,c⟩:=l j x hj;exact⟨b,o,e,cell_kept c hg d⟩
theorem aaT.set{n:Nat}{bv len g:Nat}{ar:Option Addr}{d:Nat}{Bd:Nat}(h:aaT Bv Bn n xs bv bp op len g ar d W)(u:Value)
 (h1:Bv≠Bd) (h2:Bn≠Bd) (h3:bv≠Bd) (m:bp≠Bd) (l:∀(j x:Nat),xs[j]? =some x->∀a,ar=some a->a.block≠Bd):aaT Bv Bn n xs bv bp op len g ar d (W.setCell ⟨Bd,0,none⟩ u):=by
 obtain⟨c1,c2,c3,i,c4,k⟩:=h;refine⟨(vA h1 u).trans c1,(vA h2 u).trans c2,(vA h3 u).trans c3,i,(vA m u).trans c4,fun j x hj=>?_⟩;obtain⟨b,o,e,c⟩:=k j x hj;exact⟨b,o,e,(vA (a:=⟨b,o+j,none⟩) (l j x hj ⟨b,o,none⟩ e) u).trans c⟩
theorem jt{bv:Nat}{k:List Nat}{f:Int->Int}{c:List (List Nat)}(q:oN w C bv k f c)(hb:Below C w W)(g:c[x]? =some pr)
 (c1:T W Bv 0 (I bv)) (c2:T W Bn 0 (O x)):
 ∃bp op len cap ar capr,aaT Bv Bn x pr bv bp op len cap ar capr W/\bp<C/\∀(j y:Nat),pr[j]? =some y->∀a,ar=some a->a.block<C:=by
 obtain⟨ov,bm,pv,nm,e0,e1,e2,ho,hm,r,hp,hl⟩:=q;obtain⟨a,cap,rfl,m⟩:=hp.form;obtain⟨b,o,a2,i,rfl,h,d,t,l⟩:=hp.row g;refine⟨b,o,c.length,cap,a2,i,⟨c1,c2,(hb.cell (p:=⟨bv,2,none⟩) hl).trans e2,(Jh.1 g).1,(hb.cell (p:=⟨b,o+x,none⟩) h).trans d,fun j y hj=>?_⟩,h,fun j y hj a e=>?_⟩
 ·obtain⟨b2,o2,e,hB,d⟩:=l j y hj;exact⟨b2,o2,e,(hb.cell (p:=⟨b2,o2+j,none⟩) hB).trans d⟩
 ·obtain⟨b2,o2,e2,hB,d⟩:=l j y hj;rw[e2] at e;cases e;exact hB
theorem qQ (w:World)(C bv n:Nat)(k3:List Nat)(f:Int->Int)(t:List (List Nat))(hC:C<=w.heap.size)(hV:oN w C bv k3 f t)(h1:1<=n)(hn:n<=2000000)
 (ns:List Nat) (n3:k3=0::ns) (k9:∀x∈ns,x<n) (o5:ns.length<=2000000) (hpl:t.length=n) (k6:∀row∈t,row.length<=4000004000000) (k0:Nat) (idom':List Int) (hD:ip t f ns k0 ((0:Int)::List.replicate (n-1) (-1)) idom'):
 G 102 #[I bv,O n] w fun e w'=>∃g,e=.returned (Q g n n)/\w.heap.size<=g/\w'.heap[g]? =some (A (idom'.map (Value.int .i64)).toArray 3)/\L w w':=by
 have HV:=Ja hV;have HD:=Ja hD;have HN:=Ja k9;have o4:=Ja k6;clear hV hD k9 k6;refine(callsIn_wide (n:=100)).1 (callsIn_of_wp_marks Try.func102 rfl trivial ?_ rfl);simp only[Try.ntmps102,List.size_toArray,Nq,Ow,Nat.reduceAdd,Nat.reduceSub,Array.replicate_succ,Array.replicate_zero,List.push_toArray,List.append_toArray,Op,List.cons_append];refine wpIn_wide.2 ?_
 have h8:∀W:World,W=(w.alloc (A #[I bv] 160)).alloc (A #[O (-1)] 3)->G 120 #[Q (w.heap.size+1) 1 1,O n] W fun e w1=>
  e=.returned (Q (w.heap.size+2) n n)/\T w1 (w.heap.size+2) 0 (O (-1))/\N w1 (w.heap.size+2) 0/\w.heap.size+2<w1.heap.size/\Hid (w1.heap[w.heap.size+2]? =some (A (List.replicate n (O (-1))).toArray 3)/\L w w1/\w1.heap[w.heap.size]? =some (A #[I bv] 160)):=by
  rintro W rfl;have m7:((w.alloc (A #[I bv] 160)).alloc (A #[O (-1)] 3)).heap.size=w.heap.size+2:=by simp
  have hb:L w ((w.alloc (A #[I bv] 160)).alloc (A #[O (-1)] 3)):=((Below.refl _ _).alloc (Je _) _).alloc Zs _;refine(lr _ (w.heap.size+1) 0 1 n (zA (zI Zs) Zs) h1 Zo).mono ?_;rintro e w1 ⟨rfl,hr,i3⟩;rw[m7] at hr i3 ⊢;exact⟨rfl,zA hr (by rw[List.getElem?_toArray,Nm,if_pos Zo]),zE hr,lt_of_block hr,hr,hb.trans (i3.mono Zo),zH i3 (zB (zI rfl)) Zo⟩
 have c3:∀(w1:World) (a:Addr) (u:Value) (o:Obj),(((w1.setCell a u).alloc o).alloc (A #[.nilFunc] 190)).cell? ⟨w1.heap.size+1,0,none⟩=some .nilFunc:=fun w1 a u o=>zA (zI Zs) Zs
 have f3:∀(w1:World) (a:Addr) (u:Value) (o:Obj),N (((w1.setCell a u).alloc o).alloc (A #[.nilFunc] 190)) (w1.heap.size+1) 0:=fun w1 a u o=>zE (zI Zs)
 go_wp2_with (go_at_call 120;go_must (refine(h8 _ rfl).mono ?_;rintro e w1 ⟨rfl,c0,f0,m2,HW⟩))
 refine wp_loop_ghost (fun k a W=>∃(ch:Bool) (ds:List Deferred),∃u9 g7 g6 g5 g4 g3 g2 g1 k1 j5 j4 g0 f9 f8 f7 f6 f5 f4 f2 f1 e9 e8 e7 e6 e5 e4 e3 d8 d7 d6 d5 d4 d3 d2 c9 c8 c7 c5 c4 c2 b9 b8 b7 b6:Value,a= {tmps:=#[.pointer (some ⟨bv,0,none⟩),O n,.pointer (some ⟨w.heap.size,0,none⟩),undef,.slice none 0 0,.pointer (some ⟨w1.heap.size,0,none⟩),.pointer (some ⟨w1.heap.size+1,0,none⟩),.bool ch,undef,u9,g7,g6,.slice (some ⟨w.heap.size+1,0,none⟩) 1 1,O n,.slice (some ⟨w.heap.size+2,0,none⟩) n n,.slice (some ⟨w.heap.size+2,0,none⟩) n n,.pointer (some ⟨w.heap.size+2,0,none⟩),.func (.func 121) #[] #[.pointer (some ⟨w.heap.size,0,none⟩),.pointer (some ⟨w1.heap.size,0,none⟩)],g5,g4,g3,g2,g1,k1,j5,j4,g0,f9,f8,f7,f6,f5,f4,f2,f1,e9,e8,e7,e6,e5,e4,e3,d8,d7,d6,d5,d4,d3,d2,c9,c8,c7,c5,c4,c2,b9,b8,b7,b6],defers:=ds }/\oh w.heap.size W ds/\∃idom,DomMem w W bv w1.heap.size (w.heap.size+2) n idom/\((ch=true/\ip t f ns k idom idom')∨(ch=false/\idom=idom'))) k0 ?_ ?_
 ·refine⟨true,[],_,_,_,_,_,_,_,_,_,_,_,_,_,_,_,_,_,_,_,_,_,_,_,_,_,_,_,_,_,_,_,_,_,_,_,_,_,_,_,_,_,_,_,_,rfl,⟨[],rfl,List.nodup_nil,by simp⟩,_,oH HW.out m2 h1,.inl ⟨rfl,HD.out⟩⟩
 clear HD HW c0 f0 c3 f3 h8;rintro k a W ⟨ch,ds,u9,g7,g6,g5,g4,g3,g2,g1,k1,j5,j4,g0,f9,f8,f7,f6,f5,f4,f2,f1,e9,e8,e7,e6,e5,e4,e3,d8,d7,d6,d5,d4,d3,d2,c9,c8,c7,c5,c4,c2,b9,b8,b7,b6,rfl,hM,idom,g8,l4⟩;have HM:=Ja hM;have q:=Ja g8;have j0:=Ja l4;clear hM g8 l4;have cI:=cell_of_one q.out.hi;have cV:=cell_of_one q.out.hv
 cases ch with
 |false=>
  go_wp2;obtain⟨Ds,rfl,hnd,n5⟩:=HM.out;obtain rfl:idom=idom':=j0.out.elim (fun h=>Bool.noConfusion h.1) (fun h=>h.2);refine sr w.heap.size (fun W=>W.heap[w.heap.size+2]? =some (A (idom.map (Value.int .i64)).toArray 3)/\L w W) ?_ ?_ Ds W hnd n5 ⟨q.out.hr,q.out.hb⟩
  ·rintro W D hB hd ⟨h1,h2⟩;exact⟨zL (grownBy_putObj' W D _) h1 (by rintro e;cases e;rw[h1] at hd;cases hd),h2.grown (grownBy_putObj' W D _) h2.size (by rintro k e;cases e;exact hB)⟩
  ·rintro W ⟨h1,h2⟩
   exact⟨_,results_tmp rfl _ _ _,_,rfl,by omega,h1,h2⟩
 |true=>
  have o2:=HV.out;obtain⟨ov,bm,pv,nm,e0,e1,e2,ho,hm,p4,hp,hl⟩:=o2;obtain⟨aO,capO,rfl,n7,h6⟩:=ho;subst n3;obtain⟨b,o,rfl,q4,n8⟩:=h6 0 0 rfl;simp only[Nq] at n7 e0;have HX:=Ja h6;clear e2 hm hp h6 n8 e1;have e0:=(q.out.hb.cell (p:=⟨bv,0,none⟩) (show bv<w.heap.size by omega)).trans e0;have l1:1<=capO:=Zo;go_upto_region 7 with fail
  go_cut [23,24,25] from 18 to 25 (fun s l i wx=>wx=W/\l=O (ns.length:Int)/\i=O 0/\∃o' c',s=.slice (some ⟨b,o',none⟩) ns.length c'/\Hid (0<ns.length->o'=o+1))
  case first=>
   go_wp2
   all_goals go_meet
   ·exact⟨rfl,rfl,rfl,_,_,rfl,by unfold Hid;intro h;omega⟩
   ·exact⟨rfl,rfl,rfl,_,_,rfl,fun _=>rfl⟩
  case rest=>
   obtain⟨rfl,rfl,rfl,o',c',rfl,HO⟩:=hcut
   obtain⟨k,i1,g9,a2,h4,rfl⟩:∃k2 i1 g9,ny t f ns idom false i1 g9/\((g9=false/\idom'=i1)∨(g9=true/\ip t f ns k2 i1 idom'))/\k=k2+1:=by
    rcases j0.out with⟨_,h⟩|⟨h,_⟩
    ·cases k with
     |zero=>exact h.elim
     |succ k=>obtain⟨i1,ch,h1,h2⟩:=h;exact⟨k,i1,ch,h1,h2,rfl⟩
    ·cases h
   have a4:=Ja a2;have j3:=Ja h4;clear a2 h4 j0 cI cV;go_wp2;refine wp_loop_ghost (fun k a W=>∃(i:Nat) (ch:Bool) (ds:List Deferred),∃u9 g7 g6 g5 g4 g3 g2 g1 g0 f9 f8 f7 f6 f5 f4 f2 f1 e9 e8 e7 e6 e5 e4 e3 d8 d7 d6 d5 d4 d3 d2 c9 c8 c7 c5 c4 c2 b9 b8 b7 b6:Value,a= {tmps:=#[.pointer (some ⟨bv,0,none⟩),O n,.pointer (some ⟨w.heap.size,0,none⟩),undef,.slice none 0 0,.pointer (some ⟨w1.heap.size,0,none⟩),.pointer (some ⟨w1.heap.size+1,0,none⟩),.bool ch,undef,u9,g7,g6,.slice (some ⟨w.heap.size+1,0,none⟩) 1 1,O n,.slice (some ⟨w.heap.size+2,0,none⟩) n n,.slice (some ⟨w.heap.size+2,0,none⟩) n n,.pointer (some ⟨w.heap.size+2,0,none⟩),.func (.func 121) #[] #[.pointer (some ⟨w.heap.size,0,none⟩),.pointer (some ⟨w1.heap.size,0,none⟩)],g5,g4,g3,g2,g1,(.slice (some ⟨b,o',none⟩) ns.length c'),(O (ns.length:Int)),(O i),g0,f9,f8,f7,f6,f5,f4,f2,f1,e9,e8,e7,e6,e5,e4,e3,d8,d7,d6,d5,d4,d3,d2,c9,c8,c7,c5,c4,c2,b9,b8,b7,b6],defers:=ds }/\k+i=ns.length/\oh w.heap.size W ds/\∃idom,DomMem w W bv w1.heap.size (w.heap.size+2) n idom/\ny t f (ns.drop i) idom ch i1 g9) ns.length ?_ ?_
   ·exact⟨0,false,ds,_,_,_,_,_,_,_,_,_,_,_,_,_,_,_,_,_,_,_,_,_,_,_,_,_,_,_,_,_,_,_,_,_,_,_,_,_,_,_,_,_,rfl,rfl,HM.out,idom,q.out,a4.out⟩
   clear a4 HM q ds idom;rintro j a W ⟨i,ch,ds,u9,g7,g6,g5,g4,g3,g2,g1,g0,f9,f8,f7,f6,f5,f4,f2,f1,e9,e8,e7,e6,e5,e4,e3,d8,d7,d6,d5,d4,d3,d2,c9,c8,c7,c5,c4,c2,b9,b8,b7,b6,rfl,q1,hM,idom,g8,a2⟩;have HM:=Ja hM;have q:=Ja g8;have a4:=Ja a2;clear hM g8 a2
   by_cases p5:(i:Int)<ns.length
   ·obtain⟨x,hx⟩:∃x,ns[i]? =some x:=⟨_,Jd Zo⟩
    have p1:=HN.out x (Ji hx);obtain⟨b1,o1,n9,_,h5⟩:=HX.out (i+1) x (by simpa using hx);obtain⟨rfl,rfl⟩:b=b1/\o=o1:=by simpa using n9
    have h5:T W b (o'+i) (O x):=by
     rw[HO.out Zo,Nat.add_assoc,Nat.add_comm 1 i];exact(q.out.hb.cell (p:=⟨b,o+(i+1),none⟩) (show b<w.heap.size by omega)).trans h5
    have cV:=cell_of_one q.out.hv;have q5:w.heap.size<W.heap.size:=lt_of_block q.out.hv;have o9:w1.heap.size+1<W.heap.size:=lt_of_block q.out.hm;go_wp2_with (go_at_call 122;refine(lj _ _ _).mono ?_;rintro e w2 ⟨rfl,rfl⟩)
    have b3:ns.drop i=x::ns.drop (i+1):=by
     rw[Qn Zo]
     congr 1
     have:=Jd (l:=ns) (i:=i) Zo;rw[hx] at this;exact(Nt this).symm
    have hp:=a4.out;rw[b3] at hp;obtain⟨pr,d0,old,k4,a5,a0,h0,b4⟩:=hp;have m1:(((W.alloc (A #[O (-1)] 3)).alloc (A #[I bv] 160)).alloc (A #[O x] 3)).heap.size=W.heap.size+3:=by simp
    have a7:DomMem w (((W.alloc (A #[O (-1)] 3)).alloc (A #[I bv] 160)).alloc (A #[O x] 3)) bv w1.heap.size (w.heap.size+2) n idom:=
     ((q.out.kept (Uo W _ none) (fun _ e=>by cases e)).kept (Uo _ _ none) (fun _ e=>by cases e)).kept (Uo _ _ none) (fun _ e=>by cases e)
    have b5:Boxed (((W.alloc (A #[O (-1)] 3)).alloc (A #[I bv] 160)).alloc (A #[O x] 3)) W.heap.size 3 (O (-1)):=((Boxed.new W _ _).alloc _).alloc _;have i0:KeepsFrom 0 W (((W.alloc (A #[O (-1)] 3)).alloc (A #[I bv] 160)).alloc (A #[O x] 3)):=((uh _ _).trans (uh _ _)).trans (uh _ _);obtain⟨bp,op,len,o3,ar,m3,b2,q3,l5⟩:=jt HV.out (a7.hb.mono hC) k4 (Bv:=W.heap.size+1) (Bn:=W.heap.size+1+1) (cell_of_one (zB (zI Zs))) (cell_of_one (zI Zs));generalize (((W.alloc (A #[O (-1)] 3)).alloc (A #[I bv] 160)).alloc (A #[O x] 3))=W4 at m1 a7 b5 i0 b2 ⊢;have m4:=Ja a5;have HC:=Ja b4;have q6:=Ja a0
    refine(wpIn_wide (n:=100)).1 (wpIn_rangeFunc_ownG rfl Zd (gf:=129) (lb:=#[I (W.heap.size+1),I (W.heap.size+1+1)]) rfl trivial (enters_of Try.func129 Zk rfl)
     (nH 99 Zd (W.heap.size+1) (W.heap.size+1+1) x pr bv bp op len o3 ar m3 (o4.out pr (Ji k4)) W4 b2) (fun h k x=>k (h x)) (fun V l o o' hl ho hc _ h=>h.keptObj (grownBy_putObj' V l o') (fun r e=>by cases e;exact⟨o,ho,hc⟩)) (Below.refl _ _) (fun _=>rfl)
     (fun pre V=>DomMem w V bv w1.heap.size (w.heap.size+2) n idom/\KeepsFrom 0 W4 V/\∃d,Boxed V W.heap.size 3 (O d)/\OkD idom d/\wi idom f (pre.map (·.1)) (-1) d) (fun _ _ _=>False)
     ?own (fun _ _ _ _ _ hs _ _=>hs) ⟨a7,KeepsFrom.refl _ _,-1,b5,.inl rfl,rfl⟩ ?a1 ?assign ?body ?done ?stop)
    case own=>
     rintro s X Y row ⟨hd,hk,d,hb,ho,hp⟩ hg hr;exact⟨hd.own hg (fun r e=>(hr r e).2) (fun r e=>by have:=(hr r e).1;omega),ownFrom_keepsFrom (β:=Unit) (Je W4.heap.size) () X Y row hk hg hr,d,hb.kept hg (fun e=>by have:=(hr _ e.symm).1;omega),ho,hp⟩
    case assign=>
     intro l x W K hK
     gi_wp2
     exact hK
    case body=>
     clear h5 b2 a7 b5 a0 a5 b4 h0 hx b3 e0 cV;rintro l pre ⟨p,hp⟩ V ⟨hd,hk,d,hb,ho,a9⟩ o8;have a6:(pre++ [(⟨p,hp⟩: {p//p∈pr})]).map (fun x=>x.1)=pre.map (fun x=>x.1)++ [p]:=by rw[Js];rfl
     have a6:=Ja a6;obtain⟨hpl,a5⟩:=m4.out p hp;obtain⟨d1,k7,j1⟩:=a5 d ho;obtain⟨x0,h7,k5⟩:=j1;have HD:=Ja hd;have HK:=Ja hk;have HB:=Ja hb;have b0:=Ja (Jb k7 (a9.snoc ⟨x0,h7,k5⟩));have cI:=cell_of_one hd.hi;have cM:=cell_of_one hd.hm;have cD:=hb.cell;have fD:=hb.frozen;have n1:p<n:=by rw[<-hd.hl];exact hpl
     have cr:T V (w.heap.size+2) p (O x0):=zA hd.hr (by simp[h7]);have p3:(p:Int)<n:=Zo;clear hd hk hb a9 ho k7 a5 h7 hpl;rcases k5 with⟨h9,rfl⟩|⟨h9,q2,rfl⟩|⟨h9,dn,rfl,n6,k2,r,j2,rfl⟩
     ·gi_wp2
      refine(show _/\_/\_ from⟨KeepsFrom.refl _ _,fun h=>h,HD.out,HK.out,_,HB.out,b0.out.1,?_⟩);rw[a6.out];exact b0.out.2
     ·gi_wp2
      refine(show _/\_/\_ from⟨(uu HB.out _).from0 _,fun h=>h.set _ Zo Zo Zo Zo (fun j y hj a e=>by have:=l5 j y hj a e;omega),HD.out.kept (grownBy_setCell' V _ _) (fun r e=>by cases e;have:=HD.out.lt;omega),HK.out.trans (uu HB.out _),_,HB.out.set _,b0.out.1,?_⟩)
      show wi idom f ((pre++ [(⟨p,hp⟩: {p//p∈pr})]).map (fun x=>x.1)) (-1) _
      rw[a6.out];exact b0.out.2
     ·have hnd:¬(dn:Int)<0:=Zo
      gi_wp2
      obtain⟨ov,bm',p0,m5,e0,e1,e2,n2,l0,o6,n0,q0⟩:=HV.out.below (HD.out.hb.mono hC);refine⟨trivial,CallsIn.inRound l (callsIn_wide.2 ((meet_any V w.heap.size w1.heap.size bv bm' m5 (w.heap.size+2) f idom (by rw[HD.out.hl];exact hn) (cell_of_one HD.out.hv) e1 l0 (by rw[HD.out.hl];exact cI) HD.out.hr k2 p dn r (by rw[HD.out.hl];exact n1) n6 j2).mono ?_))⟩;rintro e V2 ⟨rfl,m,rfl⟩;clear e0 e1 e2 n2 l0 n0
      gi_wp2
      have l9:Boxed (V.drewN m) W.heap.size 3 (O dn):=HB.out;have l3:V.grownBy (V.drewN m) none:=⟨rfl,rfl,rfl,Je _,fun _ _ _=>rfl⟩
      have l2:KeepsFrom 0 V ((V.drewN m).setCell ⟨W.heap.size,0,none⟩ (O r)):=(uW V m).trans (uu l9 _);refine(show _/\_/\_ from⟨l2.from0 _,fun h=>(h.keptObj l3 (fun r e=>by cases e)).set _ Zo Zo Zo Zo (fun j y hj a e=>by have:=l5 j y hj a e;omega),(HD.out.kept l3 (fun r e=>by cases e)).kept (grownBy_setCell' _ _ _) (fun r e=>by cases e;have:=HD.out.lt;omega),HK.out.trans l2,_,l9.set _,b0.out.1,?_⟩)
      show wi idom f ((pre++ [(⟨p,hp⟩: {p//p∈pr})]).map (fun x=>x.1)) (-1) _
      rw[a6.out];exact b0.out.2
    case done=>
     rintro D xs V hD m6 ⟨hd,hk,d,hb,ho,a9⟩ l7;rw[m6] at a9;obtain rfl:=wi.unique a9 a0;have cI:=cell_of_one hd.hi;have cD:=hb.cell;have cr:T V (w.heap.size+2) x (O old):=zA hd.hr (by simp[h0]);have fr:N V (w.heap.size+2) x:=zE hd.hr;have p2:(x:Int)<n:=Zo;have HD:=Ja hd;have l8:=Ja (HM.out.push (i0.trans hk) Zo (by have:=q.out.hb.size;omega) l7);clear hd hk hb ho a9 l7 h5 b2 a7 b5 a0 a5 b4 h0 hx b3 e0 cV;rcases HC.out with⟨rfl,a3⟩|⟨n4,a3⟩
     ·have i8:=Ja a3;clear a3;have o0:(old !=old)=false:=by simp
      go_wp2;go_quiet (fail);go_wp2;have i2:V.grownBy (V.drewN nq) none:=⟨rfl,rfl,rfl,Je _,fun _ _ _=>rfl⟩
      refine⟨j-1,by omega,i+1,ch,_,_,_,_,_,_,_,_,_,_,_,_,_,_,_,_,_,_,_,_,_,_,_,_,_,_,_,_,_,_,_,_,_,_,_,_,_,_,_,_,_,_,(by rw[Int.natCast_add];rfl),by omega,l8.out.keeps (uW V nq),idom,HD.out.kept i2 (fun r e=>by cases e),i8.out⟩
     ·have i8:=Ja a3;clear a3;have o0:(old !=d)=true:=by simpa using n4
      go_wp2;go_quiet (fail);go_wp2;have i2:V.grownBy (V.drewN nq) none:=⟨rfl,rfl,rfl,Je _,fun _ _ _=>rfl⟩
      refine⟨j-1,by omega,i+1,true,_,_,_,_,_,_,_,_,_,_,_,_,_,_,_,_,_,_,_,_,_,_,_,_,_,_,_,_,_,_,_,_,_,_,_,_,_,_,_,_,_,_,(by rw[Int.natCast_add];rfl),by omega,(l8.out.keeps (uW V nq)).keeps (uu (W:=V.drewN nq) HD.out.hr _),idom.set x d,(HD.out.kept i2 (fun r e=>by cases e)).set x d,i8.out⟩
    case stop=>
     rintro D c pre V _ _ h _;exact h.elim
   ·go_wp2;obtain rfl:i=ns.length:=by omega
    have hp:=a4.out;rw[List.drop_length] at hp;obtain⟨rfl,rfl⟩:=hp;refine⟨k,by omega,?_⟩;rcases j3.out with⟨rfl,rfl⟩|⟨rfl,h⟩
    ·exact .inl ⟨_,⟨rfl,rfl⟩,HM.out,q.out⟩
    ·exact .inr ⟨_,⟨rfl,rfl⟩,HM.out,_,q.out,h⟩
end Go.Proofs.Ytojclalkfhoooaa
set_option maxRecDepth 8000
namespace Go.Proofs.Ytojclalkfhoooaa
open Go.RowKit Go.Shelf
variable {W W' W0 w w' w0 w1:World}{B0 Bi Bn Bv C bi bm bp i j k m nm op x:Nat}{tl:List Value}{bl blocks:List IBlk}{t:Int}{c idom l:List Int}{d d':wO}{o:Obj}{g preds:List (List Nat)}{ns pr rs xs:List Nat}{ds:List Deferred}{oi:Oper}
def j6 (w:World)(xs:List Int)(e:Ending)(w':World):Prop:=∃v,e=.returned v/\w'.ownsRow w.heap.size 3 1 v xs.length (xs.map zN)/\L w w'
theorem lI (g:List (List Nat))(c:List Nat):(un g c).length=g.length:=by
 have h1:∀(l:List Nat) (P:List (List Nat)) (n:Nat),(l.foldl (xS n) P).length=P.length:=by
  intro l
  induction l with
  |nil=>intros;rfl
  |cons a l ih=>intro P n;rw[Qk,ih];simp[xS]
 have h2:∀(l:List Nat) (P:List (List Nat)),(l.foldl (yh g) P).length=P.length:=by
  intro l
  induction l with
  |nil=>intros;rfl
  |cons a l ih=>intro P;rw[Qk,ih];unfold yh;rw[h1]
 unfold un;rw[h2];simp
theorem oS(hr:∀row∈g,row.length<=2000000){c:List Nat}(ho:c.length<=2000000):∀row∈un g c,row.length<=4000004000000:=by
 intro row d;have:=rj g 2000000 hr c (List.replicate g.length []) 0 (by intro r hr;rw[(List.mem_replicate.1 hr).2];simp) row d;have h2:c.length*2000000<=2000000*2000000:=Qw _ ho;omega
theorem pz {c:List (List Nat)}{f:Int->Int}:∀ {ns:List Nat} {idom idom':List Int} {ch ch':Bool},ny c f ns idom ch idom' ch'->idom'.length=idom.length
 | [],_,_,_,_,h=>by rw[h.1]
 |n::ns,idom,idom',ch,ch',⟨pr,d,old,_,_,_,_,h⟩=>by
  rcases h with⟨_,h⟩|⟨_,h⟩
  ·exact pz h
  ·have:=pz h;simpa using this
theorem jF{c:List (List Nat)}{f:Int->Int}:∀ {k:Nat} {idom idom':List Int},ip c f ns k idom idom'->idom'.length=idom.length
 |0,_,_,h=>h.elim
 |k+1,idom,idom',⟨i1,ch,h1,h2⟩=>by
  have e:=pz h1;rcases h2 with⟨_,rfl⟩|⟨_,h2⟩
  ·exact e
  ·rw[jF h2,e]
theorem eL.len(h:eL g ns c)(hg:0<g.length):c.length=g.length:=by
 obtain⟨k,h⟩:=h;rw[jF h];simp;omega
theorem pe (w:World)(C bv:Nat)(g:List (List Nat))(hv:zw g)(d:g.length<=2000000)(hr:∀row∈g,row.length<=2000000)(ns:List Nat)(i:tV g (0::ns))(c:List Int)(hD:eL g ns c)
 (j:C<=w.heap.size) (h:oN w C bv (0::ns) (atF (0::ns) (0::ns).length) (un g (0::ns))):
 G 102 #[I bv,O (g.length:Int)] w fun e w'=>∃b,e=.returned (Q b g.length g.length)/\w.heap.size<=b/\Y w' b (c.map (Value.int .i64)).toArray 3/\L w w':=by
 obtain⟨h1,h2⟩:=i.nodes hv;obtain⟨k,hD⟩:=hD;simp only[Nq] at h1;exact qQ w C bv g.length (0::ns) _ _ j h hv.1 d ns rfl (fun x hx=>h2 x (by simp[hx])) Zo (lI _ _) (oS hr Zt) k c hD
theorem tw (w:World)(sv:Value)(g:List (List Nat))(B:Nat)(hB:B<=w.heap.size)(h:aaB zj w B sv g)(hv:zw g)(hn:g.length<=2000000)(hr:∀row∈g,row.length<=2000000)(ns:List Nat)(hF:tV g (0::ns))(c:List Int)(hD:eL g ns c):
 G 67 #[.agg #[sv]] w (j6 w (c.set 0 (-1))):=by
 obtain⟨a,d,rfl,a3⟩:=h.form;have m:L w (w.alloc (A #[.slice a g.length d] 93)):=(Below.refl _ _).alloc (Je _) _;have HL:=Ja (hD.len hv.1);have HV:=Ja hv;have HR:=Ja hr;have HF:=Ja hF;have HD:=Ja hD;have cg:T (w.alloc (A #[.slice a g.length d] 93)) w.heap.size 0 (.slice a g.length d):=cell_of_one (zI rfl);have a5:=hv.1;clear hv hr hF hD;go_enter Try.func67,Try.ntmps67;go_wp2_with (go_at_call 100;go_must (refine(tK _ _ g B Zt (h.below (m.mono hB)) HV.out hn HR.out).mono ?_;rintro e w1 ⟨rfl,j⟩;obtain⟨l,t⟩:=bcell j))
 generalize u:w.alloc (A #[.slice a g.length d] 93)=W0 at cg j l t ⊢;have r:=Ja u;have lg:w.heap.size<W0.heap.size:=Jw W0 _ cg;have a9:=(l _ 0 lg).trans cg;have q:Below (w.heap.size+1) W0 w1:=j.mono Zo;clear u m l t cg j
 go_cut [3] (fun s wx=>∃b,s=Q b g.length g.length/\Hid (Y wx b (c.map (Value.int .i64)).toArray 3/\w.heap.size<=b/\L w wx))
 case first=>
  go_region_held3 (fun w'=>T w' w.heap.size 0 (.slice a g.length d)/\Below (w.heap.size+1) W0 w')
   (first
     |(go_split_ands;refine⟨?_,?_⟩<;>assumption)
     |(go_split_ands;refine⟨?_,uG ?_⟩<;>assumption)
     |(go_split_ands;exact oY ‹_› ‹_› Zz Zz))
   (first
     |(go_at_call 101;refine(view_any _ _ g B (o7 hB r (by repeat' (first|assumption|(with_reducible refine Below.drew ?_)))) (nP h hB r (by repeat' (first|assumption|(with_reducible refine Below.drew ?_)))) HV.out hn HR.out (0::ns) HF.out).mono ?_;rintro e w2 ⟨bv,rfl,a6,hV,o⟩)
     |(go_at_call 102;refine(pe _ _ bv g HV.out hn HR.out ns HF.out c HD.out (Je _) hV).mono ?_;rintro e w3 ⟨b,rfl,a7,y,a1⟩))
  all_goals
   go_wp2_with fail;go_meet
   have a0:Below (w.heap.size+1) W0 w3:=by
    repeat' (first|assumption|(with_reducible refine Below.drew ?_)|(refine Below.trans ?_ (Below.mono a1 ?_))|(refine Below.trans ?_ (Below.mono o ?_))|omega)
    all_goals (have:=o.size;have:=q.size;simp at *;omega)
   have a4:=o.size;have a2:=q.size;exact⟨b,rfl,y,by simp at *;omega,ww rfl r a0⟩
 case rest=>
  obtain⟨b,rfl,k⟩:=hcut;have hl:=HL.out
  have cb:∃x,T wc b 0 (O x):=by
   obtain⟨x,hx⟩:∃x,c[0]? =some x:=⟨_,Jd Zo⟩
   exact⟨x,zA k.out.1 (by simp[hx])⟩
  obtain⟨x,cb⟩:=cb;have fb:N wc b 0:=zE k.out.1;go_wp2_with fail;go_ret;refine⟨_,rfl,?_,k.out.2.2.setCell (by simpa using k.out.2.1) _⟩;have hs:=zD (i:=0) k.out.1 (O (-1));refine⟨by simp,.inr ⟨b,g.length,_,by simp[hl],k.out.2.1,hs,by simp[hl],by unfold maxLen;omega,by simp[hl],?_⟩⟩;simp only[Ox,Nd,hl,Nk,Jc,List.toList_toArray];rw[Oy (by simp[hl])];rfl
open Go.RowKit
section
variable {P:Program} {ops:Array Oper} {Q:Exit->Act->World->Prop} {md:Region.Mode} {S:World->Prop} {L:Nat}
def uO (P:Program)(md:Region.Mode)(ops:Array Oper)(Q:Exit->Act->World->Prop)(S:World->Prop)(L:Nat):Nat->Array Bool->Act->World->Prop
 |0,listed,a,w=>Region.ready md ops listed=[]/\Q .normal a w
 |fuel+1,listed,a,w=>
  (Region.ready md ops listed=[]->Q .normal a w)/\
  ∀i∈Region.ready md ops listed,wpOp P ops Q i (fun a' w'=>(i≠L->S w')/\uO P md ops Q S L fuel (listed.setIfInBounds i true) a' w') a w
theorem pL:∀(fuel:Nat) (listed:Array Bool) (a:Act) (w:World),uO P md ops Q S L fuel listed a w->wpAny P md ops Q fuel listed a w
 |0,_,_,_,h=>h
 |fuel+1,_,_,_,h=>⟨h.1,fun i hi=>wpOp_mono (fun a' w' h'=>pL fuel _ a' w' h'.2) (h.2 i hi)⟩
def mw (md:Region.Mode)(ops:Array Oper)(L i:Nat):Bool:=((ops[L]?).map fun o=>o.after.any fun e=>Region.binds md e && e.on==i).getD false
theorem waits_ne{c:Array Bool}(d:mw md ops L i=true)(hi:c.getD i true=false)(l:j∈Region.ready md ops c):j≠L:=by
 rintro rfl;obtain⟨_,oj,k,g⟩:=mem_ready.1 l;unfold mw at d;rw[k] at d;obtain⟨e,m,hb⟩:=Array.any_eq_true'.1 d;simp only[Jm,beq_iff_eq] at hb;have h1:=g e m hb.1;rw[hb.2] at h1;rcases Nat.lt_or_ge i c.size with h|h
 ·simp[h] at hi h1;rw[hi] at h1;cases h1
 ·simp[Array.getElem?_eq_none h] at h1
theorem nD{v:Value}(hi:ops[i]? =some oi)(a1:mw md ops L i=true)(l:∀(j:Nat) (o:Oper) cs b,ops[j]? =some o->o.op≠ .select cs b)
 (hQ:∀c a w,Q (.panic c) (a.put oi.dst v) w->Q (.panic c) a w):
 ∀(fuel:Nat) (listed:Array Bool) (a:Act) (w:World),
  (∀j oj,ops[j]? =some oj->j≠i->listed.getD j true=false->(∀e∈oj.after,Region.binds md e=true->e.on≠i)->oi.apart ops oj=true)->
  i∈Region.ready md ops listed->YieldsIf P ops S oi v a->S w->
  uO P md ops Q S L fuel (listed.setIfInBounds i true) (a.put oi.dst v) w->uO P md ops Q S L (fuel+1) listed a w:=by
 intro fuel
 induction fuel with
 |zero=>
  intro listed a w _ hr u t H;refine⟨fun h=>(by rw[h] at hr;cases hr),fun j hj=>?_⟩
  by_cases d:j=i
  ·subst d;exact u.wpOp hi t ⟨fun _=>t,H⟩
  ·have:=ready_mono hj d;rw[H.1] at this
   cases this
 |succ fuel ih=>
  intro listed a w g hr u t H;refine⟨fun h=>(by rw[h] at hr;cases hr),fun j hj=>?_⟩
  by_cases d:j=i
  ·subst d;exact u.wpOp hi t ⟨fun _=>t,H⟩
  ·have h1:=H.2 j (ready_mono hj d);have a2:j≠L:=waits_ne a1 (mem_ready.1 hr).1 hj;obtain⟨q,oj,m,a0⟩:=mem_ready.1 hj
   have y:∀e∈oj.after,Region.binds md e=true->e.on≠i:=fun e he hb heq=>by
    have h1:=a0 e he hb;have h0:=(mem_ready.1 hr).1;rw[heq] at h1;rcases Nat.lt_or_ge i listed.size with h'|h'
    ·simp[h'] at h0 h1;rw[h0] at h1;cases h1
    ·simp[Array.getElem?_eq_none h'] at h1
   have h2:=wpOp_putIf m (g j oj m d q y) (fun cs b=>l i oi cs b hi) (fun cs b=>l j oj cs b m) hQ u h1
   have r:∀k ok,ops[k]? =some ok->k≠i->(listed.setIfInBounds j true).getD k true=false->
    (∀e∈ok.after,Region.binds md e=true->e.on≠i)->oi.apart ops ok=true:=fun k ok hk hki hun hno=>by
    refine g k ok hk hki ?_ hno
    by_cases x:j=k
    ·subst x;exact q
    ·rw[getD_set_ne true x] at hun;exact hun
   refine wpOp_mono (fun a' w' h3=>⟨h3.2.1,ih (listed.setIfInBounds j true) a' w' r (ready_mono hr (Ne.symm d)) h3.1 (h3.2.1 a2) ?_⟩) h2;rw[Array.setIfInBounds_comm _ _ d];exact h3.2.2
theorem zF{v:Value}{fuel:Nat}{d:Array Bool}{a:Act}(hi:ops[i]? =some oi)(g:mw md ops L i=true)
 (hs:Region.noSelect ops=true) (hf:Region.free md ops d i=true) (hr:(Region.ready md ops d).contains i=true)
 (l:∀c a w,Q (.panic c) (a.put oi.dst v) w->Q (.panic c) a w) (j:YieldsIf P ops S oi v a) (k:S w)
 (h:uO P md ops Q S L fuel (d.setIfInBounds i true) (a.put oi.dst v) w):uO P md ops Q S L (fuel+1) d a w:=
 nD hi g (Region.noSelect_spec hs) l fuel d a w (Region.free_spec hi hf) (by simpa using hr) j k h
theorem Tl(i:Nat){v:Value}{fuel:Nat}{d:Array Bool}{a:Act}(h:uO P md ops Q S L fuel (d.setIfInBounds i true) (a.put oi.dst v) w)(hi:ops[i]? =some oi:=by rfl)(g:mw md ops L i=true:=by kernel_rfl)
 (hs:Region.noSelect ops=true:=by kernel_rfl) (hf:Region.free md ops d i=true:=by kernel_rfl) (hr:(Region.ready md ops d).contains i=true:=by kernel_rfl)
 (l:∀c a w,Q (.panic c) (a.put oi.dst v) w->Q (.panic c) a w:=by exact fun _ _ _ h=>h) (j:YieldsIf P ops S oi v a:=by exact Or.inl ⟨by rfl,by intro w hSw;(try dsimp only at hSw);go_simp;try with_reducible rfl⟩) (k:S w:=by assumption):uO P md ops Q S L (fuel+1) d a w:=
 zF hi g hs hf hr l j k h
def zS (P:Program)(md:Region.Mode)(ops:Array Oper)(Q:Exit->Act->World->Prop)(S:World->Prop)(L:Nat)(fuel:Nat)(listed:Array Bool)(a:Act)(w:World)(rs:List Nat):Prop:=
 ∀i∈rs,wpOp P ops Q i (fun a' w'=>(i≠L->S w')/\uO P md ops Q S L fuel (listed.setIfInBounds i true) a' w') a w
theorem zS.nil{fuel:Nat}{c:Array Bool}{a:Act}:zS P md ops Q S L fuel c a w []:=fun _ h=>by cases h
theorem zS.cons{fuel:Nat}{c:Array Bool}{a:Act}{o:Oper}(ho:ops[i]? =some o)
 (h:∀K':Act->World->Prop,Shut (∀a w,S w->(S w->uO P md ops Q S L fuel (c.setIfInBounds i true) a w)->K' a w)->if Region.wanted o (yielded ops a.tmps)=true then Oper.wp P o a w K' Q else K' (a.put o.dst undef) w)
 (hs:zS P md ops Q S L fuel c a w rs):zS P md ops Q S L fuel c a w (i::rs):=fun j d=>by
 rcases Jq.1 d with rfl|d
 ·exact wpOp_step ho (fun K' hK=>h K' (fun a w hS hW=>hK a w ⟨fun _=>hS,hW hS⟩))
 ·exact hs j d
theorem zS.last{fuel:Nat}{c:Array Bool}{a:Act}{o:Oper}(ho:ops[L]? =some o)
 (h:∀K':Act->World->Prop,Shut (∀a w,uO P md ops Q S L fuel (c.setIfInBounds L true) a w->K' a w)->if Region.wanted o (yielded ops a.tmps)=true then Oper.wp P o a w K' Q else K' (a.put o.dst undef) w):
 zS P md ops Q S L fuel c a w [L]:=fun j d=>by
 rcases Jq.1 d with rfl|d
 ·exact wpOp_step ho (fun K' hK=>h K' (fun a w hW=>hK a w ⟨fun e=>absurd rfl e,hW⟩))
 ·cases d
theorem zf{fuel:Nat}{c:Array Bool}{a:Act}(hr:Region.ready md ops c=rs)(d:rs≠ [])
 (h:zS P md ops Q S L fuel c a w rs):uO P md ops Q S L (fuel+1) c a w:=⟨fun h0=>absurd (hr ▸ h0) d,hr ▸ h⟩
theorem xj{listed:Array Bool}{a:Act}(hr:Region.ready md ops listed=[])(h:Q .normal a w):∀fuel,uO P md ops Q S L fuel listed a w
 |0=>⟨hr,h⟩
 |_+1=>⟨fun _=>h,by rw[hr];simp⟩
theorem yQ{id:Nat}{a:Act}(L:Nat)(hm:P.follows .mixedOrders=true)(c:S w.drew)
 (h:S w.drew->uO P .any ops Q S L ops.size (Array.replicate ops.size false) a w.drew):(Code.region id ops true).wp P Q a w:=
 wp_region_any hm (pL _ _ _ _ (h c))
end
end Go.Proofs.Ytojclalkfhoooaa
