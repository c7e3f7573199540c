/- Part of a proof. -/
import Derived.Test.YtoahcpkibpomcaaGVmD
set_option linter.all false
set_option maxHeartbeats 4000000
set_option maxRecDepth 100000
namespace Go.Proofs.Ytoahcpkibpomcaa
open Go.RowKit
variable {w w' w0:World}{k:Nat}{c j:Int}{X X':Nat->Prop}{xs:List Int}{M:MS}{vv:Value}{g:Int->Option Nat}
def sV:IRun:=⟨0,[],0,0,[],0,0⟩
def io (p:IProg)(f:Int)(args:List Nat):Bool:=decide (vC p=0) && decide (0<=f) && decide (f<p.funcs.length) && decide ((args.length:Int)=p.args.getD f.toNat 0)
def i9 (E:IEnv)(f:Int)(args:List Nat)(s:ByteArray)(fuel:Int):IRun:=if io E.p f args then bQ E f args s fuel else sV
def mW (p:IProg):Prop:=∀f∈p.funcs,vZ f/\∀b∈f,b.params.length<=65536
theorem dX:runVal sV (F)=.agg #[G 0,F,I 0,G 0,.string ⟨#[]⟩,I 0,I 0]:=by kernel_rfl
theorem bJ:∀a b c d:Bool,(a && b && c && d)=false->(a=false)∨(a=true/\b=false)∨(a=true/\b=true/\c=false)∨(a=true/\b=true/\c=true/\d=false)
 |false,_,_,_,_=> .inl rfl
 |true,false,_,_,_=> .inr (.inl ⟨rfl,rfl⟩)
 |true,true,false,_,_=> .inr (.inr (.inl ⟨rfl,rfl,rfl⟩))
 |true,true,true,false,_=> .inr (.inr (.inr ⟨rfl,rfl,rfl,rfl⟩))
theorem iV{V:PV}{p:IProg}(hp:ProgIn w w.heap.size V p)(hs:mW p)(f:Int)(b8:I64 f){args:List Nat}{av:Value}(ha:wV w w.heap.size av args)(s:ByteArray)
 {inv irqv:Value} {inn irq:List Nat} (a8:wV w w.heap.size inv inn) (a6:dL w w.heap.size irqv irq) (fuel:Int) (l:io p f args=false):
 T 82 #[sZ V p,I f,av,.string s,.agg #[inv,irqv],I fuel] w (abr w sV):=by
 have hV:∀W,O w W->T 16 #[sZ V p] W (m9 W (vC p)):=fun W hb=>tu ((hp.below hb).mono hb.size) (Je _) (fun f hf=>(hs f hf).1)
 have a3:vC p=0->p.args.length=p.funcs.length:=fun h=>(se (rz h).1).2.1
 obtain⟨Vf,Va,Vd,Vb⟩:=V;have u:=hp.args;obtain⟨f1,f2,e1,_,_⟩:=hp.funcs.form;obtain⟨a1,a2,e2,_,_⟩:=hp.args.form;obtain⟨d1,d2,e3,_,_⟩:=hp.data.form;obtain⟨b1,b2,e4,_,_⟩:=hp.banks.form;obtain⟨v1,v2,rfl,_,_⟩:=ha.form;obtain⟨i1,i2,rfl,_,_⟩:=a8.form;obtain⟨q1,q2,rfl,_,_⟩:=a6.form;simp only at e1 e2 e3 e4 u;subst e1 e2 e3 e4;unfold sZ at hV ⊢;simp only at hV ⊢;have c2:p.funcs.length<=9223372036854775807:=Zo;have b9:args.length<=9223372036854775807:=Zo;unfold io at l;obtain⟨x1,h1⟩:∃q,decide (vC p=0)=q:=⟨_,rfl⟩
 obtain⟨x2,h2⟩:∃q,decide (0<=f)=q:=⟨_,rfl⟩
 obtain⟨x3,h3⟩:∃q,decide (f<p.funcs.length)=q:=⟨_,rfl⟩
 obtain⟨x4,h4⟩:∃q,decide ((args.length:Int)=p.args.getD f.toNat 0)=q:=⟨_,rfl⟩
 rw[h1,h2,h3,h4] at l;obtain⟨vp,a5⟩:∃x,vC p=x:=⟨_,rfl⟩
 rw[a5] at hV h1 a3;have t1:(vp !=0)=!x1:=by rw[bne,z6 h1]
 have t2:decide (f<0)=!x2:=by rw[<-h2];by_cases h:0<=f<;>simp[h]<;>omega
 have t3:decide ((p.funcs.length:Int)<=f)=!x3:=by rw[<-h3];by_cases h:f<p.funcs.length<;>simp[h]<;>omega
 have HV:=Ja hV;have b5:=bJ x1 x2 x3 x4 l;have o:O w (((w.alloc (A (R p f1 f2 a1 a2 d1 d2 b1 b2) 44)).alloc (A #[.slice i1 inn.length i2,.slice q1 irq.length q2] 137)).alloc (A #[G 0,F,I 0,G 0,.string ⟨#[]⟩,I 0,I 0] 134)):=(((Below.refl _ _).alloc (Je _) _).alloc Zs _).alloc Zt _;have d:Q (((w.alloc (A (R p f1 f2 a1 a2 d1 d2 b1 b2) 44)).alloc (A #[.slice i1 inn.length i2,.slice q1 irq.length q2] 137)).alloc (A #[G 0,F,I 0,G 0,.string ⟨#[]⟩,I 0,I 0] 134)) w.heap.size (R p f1 f2 a1 a2 d1 d2 b1 b2) 44:=zB (zB (zI rfl));have m:Q (((w.alloc (A (R p f1 f2 a1 a2 d1 d2 b1 b2) 44)).alloc (A #[.slice i1 inn.length i2,.slice q1 irq.length q2] 137)).alloc (A #[G 0,F,I 0,G 0,.string ⟨#[]⟩,I 0,I 0] 134)) (w.heap.size+1+1) #[G 0,F,I 0,G 0,.string ⟨#[]⟩,I 0,I 0] 134:=zI Zs;have b6:=Ja (show zY w w.heap.size (.slice a1 p.args.length a2) p.args from u);have b3:=Ja (show x1=true->p.args.length=p.funcs.length from fun h=>a3 (of_decide_eq_true (h1.trans h)));clear hp hs ha a8 a6 hV a3 u l h1 a5;rcases b5 with rfl|⟨rfl,rfl⟩|⟨rfl,rfl,rfl⟩|⟨rfl,rfl,rfl,rfl⟩
 case inr.inr.inr=>
  obtain⟨k,rfl⟩:∃k:Nat,f=(k:Int):=⟨f.toNat,by have:=of_decide_eq_true h2;omega⟩
  have c1:(k:Int)<p.funcs.length:=of_decide_eq_true h3;obtain⟨x,hx⟩:∃x,p.args[k]? =some x:=⟨_,Jd (by have:=b3.out rfl;omega)⟩
  obtain⟨ba,oa,rfl,a9,y,_⟩:=b6.out.get hx;rw[Nk] at y;have b7:(k:Int)<p.args.length:=by have:=b3.out rfl;omega
  have c3:decide (p.funcs.length<=k)=false:=by rw[decide_eq_false_iff_not];omega
  have t4:((args.length:Int) !=x)=true:=by
   rw[Ni,Jj,hx,Ot] at h4;rw[bne,z6 h4];rfl
  have b0:=Ja (Jb a9 y);clear h2 h3 h4 hx a9 y
  go_enter_defers Try.func82,Try.ntmps82
  go_upto_region 1 with fail;generalize a4:((w.alloc (A (R p f1 f2 (some ⟨ba,oa,none⟩) a2 d1 d2 b1 b2) 44)).alloc (A #[.slice i1 inn.length i2,.slice q1 irq.length q2] 137)).alloc (A #[G 0,F,I 0,G 0,.string ⟨#[]⟩,I 0,I 0] 134)=W0 at *;have g:=Ja (Jb o (Jb d m));have p0:=K0 d;have p1:=K1 d;have p2:=K2 d;have p3:=K3 d;have p4:=K4 d;have p5:=K5 d;clear o d m a4;go_wp2_with (go_at_call 16;go_must (refine(HV.out _ g.out.1).mono ?_;rintro e W1 ⟨rfl,i⟩;have j:=zH i g.out.2.1 (lt_of_block g.out.2.1);have c:=zH i g.out.2.2 (lt_of_block g.out.2.2);have q0:=K0 j;have b4:=K1 j;have r0:=K0 c;have s0:Y W1 (w.heap.size+1+1) 0:=zE c;have r1:=K1 c;have s1:Y W1 (w.heap.size+1+1) 1:=zE c;have r2:=K2 c;have s2:Y W1 (w.heap.size+1+1) 2:=zE c;have r3:=K3 c;have s3:Y W1 (w.heap.size+1+1) 3:=zE c;have r4:=K4 c;have s4:Y W1 (w.heap.size+1+1) 4:=zE c;have r5:=K5 c;have s5:Y W1 (w.heap.size+1+1) 5:=zE c;have r6:=K6 c;have s6:Y W1 (w.heap.size+1+1) 6:=zE c;have t:=Ja (g.out.1.trans (i.mono g.out.1.size));have c0:=zV t.out b0.out.1 b0.out.2;clear i j c))
  have a0:=((((((t.out.setCell (p:=⟨w.heap.size+1+1,0,none⟩) Zt (G 0)).setCell (p:=⟨w.heap.size+1+1,1,none⟩) Zt (F)).setCell (p:=⟨w.heap.size+1+1,2,none⟩) Zt (I 0)).setCell (p:=⟨w.heap.size+1+1,3,none⟩) Zt (G 0)).setCell (p:=⟨w.heap.size+1+1,4,none⟩) Zt (.string ⟨#[]⟩)).setCell (p:=⟨w.heap.size+1+1,5,none⟩) Zt (I 0)).setCell (p:=⟨w.heap.size+1+1,6,none⟩) Zt (I 0);refine⟨.agg #[G 0,F,I 0,G 0,.string ⟨#[]⟩,I 0,I 0],?_,F,by rw[dX],⟨none,0,rfl,Je _,by omega,fun k x hk=>by simp[sV] at hk⟩,a0⟩;rw[zM rfl];go_simp
 all_goals clear h4
 all_goals (
  go_enter_defers Try.func82,Try.ntmps82
  go_upto_region 1 with fail;generalize a4:((w.alloc (A (R p f1 f2 a1 a2 d1 d2 b1 b2) 44)).alloc (A #[.slice i1 inn.length i2,.slice q1 irq.length q2] 137)).alloc (A #[G 0,F,I 0,G 0,.string ⟨#[]⟩,I 0,I 0] 134)=W0 at *;have g:=Ja (Jb o (Jb d m));have p0:=K0 d;have p1:=K1 d;have p2:=K2 d;have p3:=K3 d;have p4:=K4 d;have p5:=K5 d;clear o d m a4;go_wp2_with (go_at_call 16;go_must (refine(HV.out _ g.out.1).mono ?_;rintro e W1 ⟨rfl,i⟩;have j:=zH i g.out.2.1 (lt_of_block g.out.2.1);have c:=zH i g.out.2.2 (lt_of_block g.out.2.2);have q0:=K0 j;have b4:=K1 j;have r0:=K0 c;have s0:Y W1 (w.heap.size+1+1) 0:=zE c;have r1:=K1 c;have s1:Y W1 (w.heap.size+1+1) 1:=zE c;have r2:=K2 c;have s2:Y W1 (w.heap.size+1+1) 2:=zE c;have r3:=K3 c;have s3:Y W1 (w.heap.size+1+1) 3:=zE c;have r4:=K4 c;have s4:Y W1 (w.heap.size+1+1) 4:=zE c;have r5:=K5 c;have s5:Y W1 (w.heap.size+1+1) 5:=zE c;have r6:=K6 c;have s6:Y W1 (w.heap.size+1+1) 6:=zE c;have t:=Ja (g.out.1.trans (i.mono g.out.1.size));clear i j c))
  have a0:=((((((t.out.setCell (p:=⟨w.heap.size+1+1,0,none⟩) Zt (G 0)).setCell (p:=⟨w.heap.size+1+1,1,none⟩) Zt (F)).setCell (p:=⟨w.heap.size+1+1,2,none⟩) Zt (I 0)).setCell (p:=⟨w.heap.size+1+1,3,none⟩) Zt (G 0)).setCell (p:=⟨w.heap.size+1+1,4,none⟩) Zt (.string ⟨#[]⟩)).setCell (p:=⟨w.heap.size+1+1,5,none⟩) Zt (I 0)).setCell (p:=⟨w.heap.size+1+1,6,none⟩) Zt (I 0);refine⟨.agg #[G 0,F,I 0,G 0,.string ⟨#[]⟩,I 0,I 0],?_,F,by rw[dX],⟨none,0,rfl,Je _,by omega,fun k x hk=>by simp[sV] at hk⟩,a0⟩;rw[zM rfl]
  go_simp)
theorem mX{V:PV}{p:IProg}(hp:ProgIn w w.heap.size V p)(hs:mW p)(f:Int)(g:I64 f){args:List Nat}{av:Value}(o:wV w w.heap.size av args)(s:ByteArray)(j:s.size<=9223372036854775807)
 {inv irqv:Value} {inn irq:List Nat} (d:wV w w.heap.size inv inn) (c:dL w w.heap.size irqv irq) (fuel:Int) (l:I64 fuel) (m:fuel.toNat<=4000000):
 T 82 #[yH V p,I f,av,.string s,.agg #[inv,irqv],I fuel] w (abr w (i9 ⟨p,inn,irq⟩ f args s fuel)):=by
 unfold i9
 cases h:io p f args with
 |false=>exact iV hp hs f g o s d c fuel h
 |true=>
  unfold io at h;simp only[Jm,decide_eq_true_eq] at h;obtain⟨⟨⟨i,t⟩,u⟩,q⟩:=h;have k:=jM i (fun f hf b hb=>(hs f hf).2 b hb)
  have x:(if io p f args=true then bQ ⟨p,inn,irq⟩ f args s fuel else sV)=bQ ⟨p,inn,irq⟩ f args s fuel:=by
   rw[if_pos];unfold io;simp only[Jm,decide_eq_true_eq];exact⟨⟨⟨i,t⟩,u⟩,q⟩
  refine eval_ok hp k (fun W hb=>?_) f ⟨t,by omega⟩ o q s j d c fuel l m;have:=tu ((hp.below hb).mono hb.size) (Je _) (fun f hf=>(hs f hf).1);rw[i] at this;exact this
theorem uB {α:Type}(f:α->List Value)(n:Nat)(hf:∀a,(f a).length=n):∀(l:List α) (k:Nat) (a:α),l[k]? =some a->∀j,j<n->(l.flatMap f)[k*n+j]? =(f a)[j]?
 | [],k,a,hk,_,_=>by simp at hk
 |x::l,0,a,hk,j,hj=>by
  cases hk
  rw[Qa,Nat.zero_mul,Ng,Np (by rw[hf];exact hj)]
 |x::l,k+1,a,hk,j,hj=>by
  rw[Qa,Nc (by rw[hf,Nat.add_mul];omega),hf];have e:(k+1)*n+j-n=k*n+j:=by rw[Nat.add_mul];omega
  rw[e];exact uB f n hf l k a (by simpa using hk) j hj
theorem oW{α:Type}{f:α->List Value}{n:Nat}(hf:∀a,(f a).length=n){b:Nat}{l:List α}{e:TypeId}(h:Q w b (l.flatMap f).toArray e){a:α}(hk:l[k]? =some a){j:Nat}{v:Value}(d:(f a)[j]? =some v):
 U w b (0+k*n+j) v:=by
 refine zA h ?_;have c:j<n:=by rw[<-hf a];exact(Jh.1 d).1
 rw[Ng,List.getElem?_toArray,uB f n hf l k a hk j c];exact d
def zU (q:IOp×Value):List Value:=[I q.1.code,I q.1.res,I q.1.a,I q.1.b,G (q.1.n:Int),q.2]
theorem agm{B b:Nat}{l:List (IOp×Value)}{e:TypeId}(h:Q w b (l.flatMap zU).toArray e)(hb:b<B)(h64:∀q∈l,qN q.1/\zY w B q.2 q.1.args)(hl:l.length<=1000000):
 mN w B (N b l.length l.length) (l.map (·.1)):=by
 refine⟨_,l.length,by rw[Nr],by rw[Nr];exact Je _,by omega,fun k o hk=>?_⟩;rw[Jr,Oz] at hk;obtain⟨q,d,rfl⟩:=hk;have c:=fun j v (hj:(zU q)[j]? =some v)=>oW (f:=zU) (n:=6) (fun _=>rfl) h d hj
 obtain⟨i,g⟩:=h64 q (Ji d);exact⟨b,0,rfl,hb,c 0 _ rfl,c 1 _ rfl,c 2 _ rfl,c 3 _ rfl,c 4 _ rfl,i,q.2,c 5 _ rfl,g⟩
def wb (q:IEdge×Value):List Value:=[I q.1.block,q.2]
def RetProgO (w:World)(p:IProg)(e:Ending)(w':World):Prop:=
 ∃f1 f2 a1 a2 d1 d2 b1 b2,e=.returned (.agg (R p f1 f2 a1 a2 d1 d2 b1 b2))/\
  ProgIn w' w'.heap.size ⟨.slice f1 p.funcs.length f2,.slice a1 p.args.length a2,.slice d1 p.data.length d2,.slice b1 p.banks.length b2⟩ p/\O w w'
theorem mL.open{p:IProg}{e:Ending}(h:mL w p e w'):RetProgO w p e w':=by
 obtain⟨⟨Vf,Va,Vd,Vb⟩,rfl,hp,hb⟩:=h;obtain⟨f1,f2,e1,_,_⟩:=hp.funcs.form;obtain⟨a1,a2,e2,_,_⟩:=hp.args.form;obtain⟨d1,d2,e3,_,_⟩:=hp.data.form;obtain⟨b1,b2,e4,_,_⟩:=hp.banks.form;simp only at e1 e2 e3 e4;subst e1 e2 e3 e4;exact⟨f1,f2,a1,a2,d1,d2,b1,b2,rfl,hp,hb⟩
def eM (w:World)(R:IRun)(e:Ending)(w':World):Prop:=
 ∃oa oc,e=.returned (.agg #[G (R.value:Int),.slice oa R.out.length oc,I (R.kind:Int),G (R.info:Int),.string (y9 R.ram),I (R.inputs:Int),I (R.polls:Int)])/\vM w' w'.heap.size (.slice oa R.out.length oc) R.out/\O w w'
theorem abr.open{R:IRun}{e:Ending}(h:abr w R e w'):eM w R e w':=by
 obtain⟨ov,rfl,ho,hb⟩:=h;obtain⟨oa,oc,rfl,_,_⟩:=ho.form;exact⟨oa,oc,rfl,ho,hb⟩
theorem uL {t:ITerm}{ops:List IOp}(d:ops.length<=2000000)(c:t.to.length<=2000000):mW (rd t ops):=by
 intro f hf;simp only[rd,Jo] at hf;subst hf;refine⟨⟨by simp,fun b hb=>?_⟩,fun b hb=>?_⟩
 ·rw[Jo] at hb;subst hb;exact⟨by simp,d,c⟩
 ·rw[Jo] at hb;subst hb;simp
structure Stp (X:Nat->Prop) (w:World) (X':Nat->Prop) (w':World):Prop where
 os:w'.os=w.os
 tape:w'.tape=w.tape
 output:w'.output=w.output
 size:w.heap.size<=w'.heap.size
 new:∀k,X' k->X k∨w.heap.size<=k
 kept:∀k,k<w.heap.size->¬X k->w'.heap[k]? =w.heap[k]?
theorem Stp.refl (X:Nat->Prop)(w:World):Stp X w X w:=⟨rfl,rfl,rfl,Je _,fun _ h=> .inl h,fun _ _ _=>rfl⟩
theorem Stp.trans{X1 X2:Nat->Prop}{w1 w2:World}(h:Stp X w X1 w1)(k:Stp X1 w1 X2 w2):Stp X w X2 w2:=
 ⟨k.os.trans h.os,k.tape.trans h.tape,k.output.trans h.output,Jn h.size k.size,
  fun i hi=>(k.new i hi).elim (h.new i) (fun e=> .inr (Jn h.size e)),
  fun i hi hx=>(k.kept i (Jy hi h.size) (fun e=>(h.new i e).elim hx Zo)).trans (h.kept i hi hx)⟩
theorem Stp.of_below(h:O w w'):Stp X w X w':=
 ⟨h.os,h.tape,h.output,h.size,fun _ h=> .inl h,fun k hk _=>h.block k hk⟩
theorem Stp.below{B:Nat}(h:Stp X w X' w')(c:∀k,X k->B<=k)(hB:B<=w.heap.size):Below B w w':=
 ⟨h.os,h.tape,h.output,h.size,fun k hk=>h.kept k Zo (fun e=>by have:=c k e;omega)⟩
theorem Stp.blk(h:Stp X w X' w'){o:Obj}(hk:w.heap[k]? =some o)(c:¬X k):w'.heap[k]? =some o:=(h.kept k (lt_of_block hk) c).trans hk
theorem Stp.cell {X X':Nat->Prop}{w w':World}(h:Stp X w X' w'){k i:Nat}{v:Value}(hk:U w k i v)(c:¬X k):U w' k i v:=
 (Oo (h.kept k (jU hk) c)).trans hk
theorem Stp.not(h:Stp X w X' w')(hk:k<w.heap.size)(c:¬X k):¬X' k:=fun e=>(h.new k e).elim c Zo
def yE {α:Type}(sz:Nat)(R:World->(Nat->Prop)->Nat->Nat->α->Prop)(w:World)(X:Nat->Prop)(v:Value)(xs:List α):Prop:=
 ∃(a:Option Addr) (cap:Nat),v=.slice a xs.length cap/\xs.length<=cap/\cap<=9223372036854775807/\∀(k:Nat) (x:α),xs[k]? =some x->∃b o,a=some ⟨b,o,none⟩/\b<w.heap.size/\¬X b/\R w X b (o+k*sz) x
def rP {α:Type}(R:World->(Nat->Prop)->Nat->Nat->α->Prop):Prop:=∀X w X' w' b q x,b<w.heap.size->¬X b->Stp X w X' w'->R w X b q x->R w' X' b q x
theorem yE.step {α:Type}{sz:Nat}{R:World->(Nat->Prop)->Nat->Nat->α->Prop}(i:rP R){X X':Nat->Prop}{w w':World}{v:Value}{xs:List α}(h:yE sz R w X v xs)(hs:Stp X w X' w'):yE sz R w' X' v xs:=by
 obtain⟨a,g,rfl,t,q,m⟩:=h;refine⟨a,g,rfl,t,q,fun k x hk=>?_⟩;obtain⟨b,o,l,c,d,j⟩:=m k x hk;exact⟨b,o,l,Jy c hs.size,hs.not c d,i _ _ _ _ _ _ _ c d hs j⟩
theorem yE.nil{α:Type}{sz:Nat}{R:World->(Nat->Prop)->Nat->Nat->α->Prop}:yE sz R w X (F) []:=
 ⟨none,0,rfl,Je _,by omega,fun k x hk=>by simp at hk⟩
theorem yE.form{α:Type}{sz:Nat}{R:World->(Nat->Prop)->Nat->Nat->α->Prop}{v:Value}{xs:List α}(h:yE sz R w X v xs):∃a cap,v=.slice a xs.length cap/\xs.length<=cap/\cap<=9223372036854775807:=
 let⟨a,cap,e,h1,h2,_⟩:=h;⟨a,cap,e,h1,h2⟩
theorem yE.to{α:Type}{sz:Nat}{R:World->(Nat->Prop)->Nat->Nat->α->Prop}{S:World->Nat->Nat->Nat->α->Prop}{v:Value}{xs:List α}(h:yE sz R w X v xs)(c:∀b q x,R w X b q x->S w w.heap.size b q x):yN sz S w w.heap.size v xs:=by
 obtain⟨a,d,rfl,t,m,l⟩:=h;refine⟨a,d,rfl,t,m,fun k x hk=>?_⟩;obtain⟨b,o,j,i,_,g⟩:=l k x hk;exact⟨b,o,j,i,c _ _ _ g⟩
def IntG (w:World)(X:Nat->Prop)(b q:Nat)(x:Int):Prop:=U w b q (I x)/\I64 x
theorem zn:rP IntG:=fun X w X' w' b q x _ hx hs h=>⟨hs.cell h.1 hx,h.2⟩
abbrev wm:=yE 1 IntG
def EdgeG (w:World)(X:Nat->Prop)(b q:Nat)(x:IEdge):Prop:=U w b q (I x.block)/\I64 x.block/\∃av,U w b (q+1) av/\wm w X av x.args
theorem yq:rP EdgeG:=fun X w X' w' b q x _ hx hs h=>by
 obtain⟨i,g,av,d,c⟩:=h;exact⟨hs.cell i hx,g,av,hs.cell d hx,c.step zn hs⟩
abbrev vT:=yE 2 EdgeG
theorem wm.to{v:Value}(h:wm w X v xs):zY w w.heap.size v xs:=yE.to h fun _ _ _ h=>h
theorem vT.to{v:Value}{xs:List IEdge}(h:vT w X v xs):wH w w.heap.size v xs:=yE.to h fun _ _ _ h=>by
 obtain⟨i,g,av,d,c⟩:=h;exact⟨i,g,av,d,wm.to c⟩
theorem rO{S:Nat}{v:Value}{n:Nat}(h:w.ownsRow S 3 1 v n (xs.map zN))(j:xs.length=n)(i:∀x∈xs,I64 x)(l:∀k,v.ownBlock=some k->¬X k):wm w X v xs:=by
 subst j;obtain⟨a,c,rfl⟩:=zG h;have hl:=zm h;refine⟨a,c,rfl,hl.1,by omega,fun k x hk=>?_⟩;have m:=(Jh.1 hk).1;obtain⟨g,o,e,hg,d⟩:=h.form Zo;cases e;refine⟨g,0,rfl,d,l g rfl,?_,i x (Ji hk)⟩;rw[Nk,Ng];exact(h.cellAt k Zo).trans (by rw[Jr,hk];rfl)
theorem ki{b:Nat}{e:TypeId}(h:Q w b (xs.map fun x=>I x).toArray e)(c:¬X b)(h64:∀x∈xs,I64 x)(hl:xs.length<=1000000):wm w X (N b xs.length xs.length) xs:=by
 refine⟨_,xs.length,rfl,Je _,by omega,fun k x hk=>⟨b,0,rfl,lt_of_block h,c,?_,h64 x (Ji hk)⟩⟩;rw[Ng,Nk];exact zA h (by simp[hk])
theorem ld{S:Nat}{v:Value}{l:List (IEdge×Value)}(h:w.ownsRow S 93 2 v l.length (l.flatMap wb))(h64:∀q∈l,I64 q.1.block/\wm w X q.2 q.1.args)(t:∀k,v.ownBlock=some k->¬X k):vT w X v (l.map (·.1)):=by
 obtain⟨a,c,rfl⟩:=zG h;have hl:=zm h;refine⟨a,c,by rw[Nr],by rw[Nr];exact hl.1,by omega,fun k o hk=>?_⟩;rw[Jr,Oz] at hk;obtain⟨q,d,rfl⟩:=hk;have y:=(Jh.1 d).1;obtain⟨g,a0,e,hg,hb⟩:=h.form Zo;cases e
 have m:∀j v,(wb q)[j]? =some v->U w g (0+k*2+j) v:=fun j v hj=>by
  have i:j<2:=(Jh.1 hj).1;rw[Ng];exact(h.cellAt (k*2+j) Zo).trans ((uB wb 2 (fun _=>rfl) l k q d j i).trans hj)
 obtain⟨x,u⟩:=h64 q (Ji d);exact⟨g,0,rfl,hb,t g rfl,m 0 _ rfl,x,q.2,m 1 _ rfl,u⟩
theorem qt{b:Nat}{l:List (IEdge×Value)}{e:TypeId}(h:Q w b (l.flatMap wb).toArray e)(g:¬X b)(h64:∀q∈l,I64 q.1.block/\wm w X q.2 q.1.args)(hl:l.length<=1000000):
 vT w X (N b l.length l.length) (l.map (·.1)):=by
 refine⟨_,l.length,by rw[Nr],by rw[Nr];exact Je _,by omega,fun k o hk=>?_⟩;rw[Jr,Oz] at hk;obtain⟨q,c,rfl⟩:=hk;have d:=fun j v (hj:(wb q)[j]? =some v)=>oW (f:=wb) (n:=2) (fun _=>rfl) h c hj
 obtain⟨m,i⟩:=h64 q (Ji c);exact⟨b,0,rfl,lt_of_block h,g,d 0 _ rfl,m,q.2,d 1 _ rfl,i⟩
structure MKC where
 E:ME
 sv:Value
 fpv:Value
 apv:Value
 dv:Value
 bv:Value
 pm:Nat
 pp:Nat
 B:Nat
 Z:Nat->Prop
def MKC.av (K:MKC)(X:Nat->Prop):Nat->Prop:=fun k=>X k∨K.Z k
variable {K:MKC}
theorem Stp.av(h:Stp X w X' w')(K:MKC):Stp (K.av X) w (K.av X') w':=
 ⟨h.os,h.tape,h.output,h.size,fun k hk=>hk.elim (fun e=>(h.new k e).elim (fun e=> .inl (.inl e)) .inr) (fun e=> .inl (.inr e)),fun k hk hx=>h.kept k hk (fun e=>hx (.inl e))⟩
structure BM where
 b:IBlk
 pv:Value
 ov:Value
 tv:Value
 ol:List (IOp×Value)
variable {l:List BM}
def xG (q:BM):List Value:=[q.pv,q.ov,I q.b.term.kind,I q.b.term.a,q.tv]
structure BMOk (w:World) (K:MKC) (X:Nat->Prop) (q:BM):Prop where
 k64:I64 q.b.term.kind/\I64 q.b.term.a
 par:wm w (K.av X) q.pv q.b.params
 ops:q.b.ops=q.ol.map (·.1)
 own:w.ownsRow K.B 27 6 q.ov q.ol.length (q.ol.flatMap zU)
 arg:∀o∈q.ol,qN o.1/\wm w (K.av X) o.2 o.1.args
 tos:vT w (K.av X) q.tv q.b.term.to
 inX:∀k,q.ov.ownBlock=some k->X k
theorem BMOk.step {w w':World}{K:MKC}{X X':Nat->Prop}{q:BM}(h:BMOk w K X q)(hs:Stp X w X' w')(hk:∀k,q.ov.ownBlock=some k->w'.heap[k]? =w.heap[k]?)(c:∀k,X k->X' k):BMOk w' K X' q:=
 ⟨h.k64,h.par.step zn (hs.av K),h.ops,yD h.own hk,fun o ho=>⟨(h.arg o ho).1,(h.arg o ho).2.step zn (hs.av K)⟩,h.tos.step yq (hs.av K),fun k hk=>c k (h.inX k hk)⟩
def uC (K:MKC)(M:MS)(fv vv:Value):Array Value:=
 #[K.sv,I (M.pos:Int),L K.pp,I (K.E.me:Int),fv,I (M.cur:Int),I (M.next:Int),vv,I M.left]
structure MkEnv (w:World) (K:MKC) (X:Nat->Prop):Prop where
 s:zY w K.B K.sv K.E.s
 fpv:∃a c,K.fpv=.slice a K.E.nf c
 prog:w.heap[K.pp]? =some (.cells #[K.fpv,K.apv,.int .i64 0,.int .i64 K.E.handler,K.dv,K.bv] 44 (0,0))
 args:wm w (K.av X) K.apv K.E.args
 data:∃b,K.dv=.slice (some ⟨b,0,none⟩) 3 3/\¬K.av X b/\w.heap[b]? =some (.cells #[.int .i64 (-1),.int .u16 16384,.int .u16 16,.int .i64 (-1),.int .u16 16640,.int .u16 7,.int .i64 0,.int .u16 128,.int .u16 32] 55 (0,0))
 ppX:¬K.av X K.pp
 h64:I64 K.E.handler
 len:K.E.args.length=K.E.nf
 nf:K.E.nf<=4/\K.E.me<K.E.nf
 alt:∀x∈K.E.args,0<=x/\x<4
 zx:∀k,X k->¬K.Z k
 zl:∀k,K.Z k->k<w.heap.size
theorem MkEnv.step {w w':World}{K:MKC}{X X':Nat->Prop}(h:MkEnv w K X)(hs:Stp X w X' w')(hb:Below K.B w w'):MkEnv w' K X':=by
 obtain⟨b,e1,e2,e3⟩:=h.data;have c:=hs.av K;exact⟨h.s.below zO hb,h.fpv,c.blk h.prog h.ppX,h.args.step zn c,⟨b,e1,c.not (lt_of_block e3) e2,c.blk e3 e2⟩,c.not (lt_of_block h.prog) h.ppX,h.h64,h.len,h.nf,h.alt,fun k e=>(hs.new k e).elim (h.zx k) (fun e2 e3=>by have:=h.zl k e3;omega),fun k e=>Jy (h.zl k e) hs.size⟩
structure MkIn (w:World) (K:MKC) (X:Nat->Prop) (M:MS) (fv vv:Value) (l:List BM):Prop where
 blk:w.heap[K.pm]? =some (.cells (uC K M fv vv) 99 (0,0))
 own:w.ownsRow K.B 36 5 fv l.length (l.flatMap xG)
 fl:M.f=l.map (·.b)
 bok:∀q∈l,BMOk w K X q
 apart:∀(i j:Nat) (qi qj:BM) (k:Nat),l[i]? =some qi->l[j]? =some qj->qi.ov.ownBlock=some k->qj.ov.ownBlock=some k->i=j
 vown:w.ownsRow K.B 3 1 vv M.vals.length (M.vals.map zN)
 v64:∀x∈M.vals,I64 x
 xm:X K.pm
 xf:∀k,fv.ownBlock=some k->X k
 xv:∀k,vv.ownBlock=some k->X k
 xB:∀k,X k->K.B<=k
 xl:∀k,X k->k<w.heap.size
 env:MkEnv w K X
 bnd:M.sz<=1000000
 lft:6<=M.left+M.pos/\M.left<=6
def wW (w:World)(K:MKC)(X:Nat->Prop)(M:MS):Prop:=∃fv vv l,MkIn w K X M fv vv l
section
variable {w:World} {K:MKC} {X:Nat->Prop} {M:MS} {fv vv:Value} {l:List BM} (h:MkIn w K X M fv vv l)
include h
theorem MkIn.c0:U w K.pm 0 K.sv:=zA h.blk rfl
theorem MkIn.c1:U w K.pm 1 (I (M.pos:Int)):=zA h.blk rfl
theorem MkIn.c2:U w K.pm 2 (L K.pp):=zA h.blk rfl
theorem MkIn.c3:U w K.pm 3 (I (K.E.me:Int)):=zA h.blk rfl
theorem MkIn.c4:U w K.pm 4 fv:=zA h.blk rfl
theorem MkIn.c5:U w K.pm 5 (I (M.cur:Int)):=zA h.blk rfl
theorem MkIn.c6:U w K.pm 6 (I (M.next:Int)):=zA h.blk rfl
theorem MkIn.c7:U w K.pm 7 vv:=zA h.blk rfl
theorem MkIn.c8:U w K.pm 8 (I M.left):=zA h.blk rfl
theorem MkIn.free (i:Nat):Y w K.pm i:=zE h.blk
theorem MkIn.size:K.B<=w.heap.size:=Jn (h.xB _ h.xm) (Qd (h.xl _ h.xm))
theorem MkIn.keep(hb:O w w'):MkIn w' K X M fv vv l:=
 have hs:Stp X w X w':=Stp.of_below hb;have hk:∀ {v:Value} {e:TypeId} {sz n:Nat} {xs:List Value},w.ownsRow K.B e sz v n xs->∀k,v.ownBlock=some k->w'.heap[k]? =w.heap[k]?:=fun ho k hk=>hb.block k (ho.lt k hk).2
 ⟨zH hb h.blk (lt_of_block h.blk),yD h.own (hk h.own),h.fl,fun q hq=>(h.bok q hq).step hs (hk (h.bok q hq).own) (fun _ e=>e),h.apart,yD h.vown (hk h.vown),h.v64,h.xm,h.xf,h.xv,h.xB,fun k e=>Jy (h.xl k e) hb.size,
  h.env.step hs (hb.mono h.size),h.bnd,h.lft⟩
theorem MkIn.setC (i:Nat)(u:Value)(M':MS)(vv':Value)(j:(uC K M fv vv).setIfInBounds i u=uC K M' fv vv')(hf:M'.f=M.f)(hv:w.ownsRow K.B 3 1 vv' M'.vals.length (M'.vals.map zN))(h64:∀x∈M'.vals,I64 x)(g:∀k,vv'.ownBlock=some k->X k)
 (d:M'.sz<=1000000) (hl:6<=M'.left+M'.pos/\M'.left<=6):MkIn (w.setCell ⟨K.pm,i,none⟩ u) K X M' fv vv' l/\Stp X w X (w.setCell ⟨K.pm,i,none⟩ u):=by
 have hs:Stp X w X (w.setCell ⟨K.pm,i,none⟩ u):=⟨rfl,rfl,rfl,by simp,fun _ h=> .inl h,fun k hk hx=>Below.heap_setCell _ _ _ _ (fun e=>hx (by rw[e];exact h.xm))⟩
 have c:∀ {v:Value} {e:TypeId} {sz n:Nat} {xs:List Value},w.ownsRow K.B e sz v n xs->e≠99->∀k,v.ownBlock=some k->(w.setCell ⟨K.pm,i,none⟩ u).heap[k]? =w.heap[k]?:=fun ho he k hk=>
  Below.heap_setCell _ _ _ _ (fun e=>zC ho h.blk (.inr he) (by rw[hk];exact congrArg some e))
 refine⟨⟨?_,yD h.own (c h.own Zd),hf.trans h.fl,fun q hq=>(h.bok q hq).step hs (c (h.bok q hq).own Zd) (fun _ e=>e),h.apart,yD hv (c hv Zd),h64,h.xm,h.xf,g,h.xB,fun k e=>by simpa using h.xl k e,
  h.env.step hs ((Below.refl _ _).setCell (h.xB _ h.xm) _),d,hl⟩,hs⟩
 rw[zD h.blk,j]
end
def aav {α:Type}:List α->Nat->List α->List α
 |xs,_,[]=>xs
 |xs,o,v::vs=>aav (xs.set o v) (o+1) vs
theorem mV {α:Type}:∀(vs:List α) (xs:List α) (o:Nat),(aav xs o vs).length=xs.length
 | [],xs,o=>rfl
 |v::vs,xs,o=>(mV vs _ _).trans Zs
theorem aeZ {α:Type}(m:Nat):∀(vs:List α) (xs:List α) (o:Nat),(aav xs o vs).take m=aav (xs.take m) o vs
 | [],xs,o=>rfl
 |v::vs,xs,o=>(aeZ m vs _ _).trans (by rw[List.take_set];rfl)
theorem fV {α:Type}:∀(vs p q r:List α),q.length=vs.length->aav (p++(q++r)) p.length vs=p++(vs++r)
 | [],p,[],r,_=>rfl
 |v::vs,p,x::q,r,h=>by
  have e:(p++(x::q++r)).set p.length v=(p++ [v])++(q++r):=by
   rw[Uj _ _ (Je _)];simp
  show aav ((p++(x::q++r)).set p.length v) (p.length+1) vs=_
  rw[e];have:=fV vs (p++ [v]) q r (by simpa using h);rw[Jk,Ju] at this;rw[this]
  simp
 | [],p,x::q,r,h=>by simp at h
 |v::vs,p,[],r,h=>by simp at h
theorem aeP {α:Type}(f:α->List Value)(n:Nat)(hf:∀a,(f a).length=n):∀l:List α,(l.flatMap f).length=l.length*n
 | []=>by simp
 |a::l=>by rw[Qa,Jk,hf,aeP f n hf l,Nq,Nat.add_mul];omega
theorem js {α:Type}(f:α->List Value)(n:Nat)(hf:∀a,(f a).length=n)(l:List α)(k:Nat)(b a:α)(hk:l[k]? =some b):aav (l.flatMap f) (k*n) (f a)=(l.set k a).flatMap f:=by
 have c:=(Jh.1 hk).1;have hb:l[k]=b:=(Jh.1 hk).2
 have e1:l=l.take k++b::l.drop (k+1):=by
  rw[<-hb,Ue,Qi]
 have hl:(l.take k).length=k:=by simp;omega
 have e2:l.set k a=l.take k++a::l.drop (k+1):=by
  rw[List.set_eq_take_append_cons_drop,if_pos c]
 rw[e2]
 have e3:l.flatMap f=(l.take k).flatMap f++(f b++(l.drop (k+1)).flatMap f):=by
  conv=>lhs;rw[e1]
  rw[Nx,Qa]
 have d:((l.take k).flatMap f).length=k*n:=by rw[aeP f n hf,hl]
 rw[e3,Nx,Qa,<-d];exact fV _ _ _ _ (by rw[hf,hf])
theorem th (b:Nat)(t:TypeId):∀(vs:List Value) (o:Nat) (w:World) (cur:Array Value),Q w b cur t->Q (w.setCells b o vs) b (aav cur.toList o vs).toArray t
 | [],o,w,cur,h=>by simpa[aav,World.setCells] using h
 |v::vs,o,w,cur,h=>by
  have:=th b t vs (o+1) (w.setCell ⟨b,o,none⟩ v) _ (zD h v);rw[Array.toList_setIfInBounds] at this;exact this
theorem ye (b k:Nat)(hne:k≠b):∀(vs:List Value) (o:Nat) (w:World),(w.setCells b o vs).heap[k]? =w.heap[k]?
 | [],o,w=>rfl
 |v::vs,o,w=>(ye b k hne vs (o+1) _).trans (Below.heap_setCell _ _ _ _ (by simpa using hne))
theorem y8 (b:Nat):∀(vs:List Value) (o:Nat) (w:World),(w.setCells b o vs).heap.size=w.heap.size
 | [],_,_=>rfl
 |v::vs,o,w=>(y8 b vs (o+1) _).trans Zs
theorem ze (b:Nat):∀(vs:List Value) (o:Nat) (w:World),(w.setCells b o vs).os=w.os/\(w.setCells b o vs).tape=w.tape/\(w.setCells b o vs).output=w.output
 | [],_,_=>⟨rfl,rfl,rfl⟩
 |v::vs,o,w=>ze b vs (o+1) _
section
variable {α:Type} {f:α->List Value} {n:Nat} {w:World} {base g:Nat} {e:TypeId} {v:Value} {l:List α} {k:Nat} {b:α}
theorem z9 (hf:∀a,(f a).length=n)(h:w.ownsRow base e n v l.length (l.flatMap f))(hg:v.ownBlock=some g)(hk:l[k]? =some b):w.rangeAt g (k*n) (f b):=fun j u hj=>by
 have c:j<n:=by rw[<-hf b];exact(Jh.1 hj).1
 have d:=h.cells hg (k*n+j) u ((uB f n hf l k b hk j c).trans hj);rw[Addr.add_mid,Ng] at d;exact d
theorem zq (m:0<n)(hf:∀a,(f a).length=n)(h:w.ownsRow base e n v l.length (l.flatMap f))(hg:v.ownBlock=some g)(hk:l[k]? =some b):w.there g (k*n) n:=fun j hj=>by
 refine⟨?_,?_⟩
 ·obtain⟨u,c⟩:∃u,(f b)[j]? =some u:=⟨_,Jd (by rw[hf];exact hj)⟩
  rw[z9 hf h hg hk j u c];rfl
 ·rcases h.2 with⟨rfl,_⟩|⟨g',i,cur,rfl,_,d,_⟩
  ·simp[Value.ownBlock] at hg
  ·simp[Value.ownBlock] at hg;subst hg;exact zE d
theorem uZ (hf:∀a,(f a).length=n)(h:w.ownsRow base e n v l.length (l.flatMap f))(hg:v.ownBlock=some g)(hk:l[k]? =some b)(a:α):(w.setCells g (k*n) (f a)).ownsRow base e n v l.length ((l.set k a).flatMap f):=by
 refine⟨by rw[aeP f n hf,Nd],?_⟩;rcases h.2 with⟨rfl,_⟩|⟨g',c,cur,rfl,q,o,m,j,i,d⟩
 ·simp[Value.ownBlock] at hg
 ·simp[Value.ownBlock] at hg;subst hg;refine .inr ⟨g',c,_,rfl,q,th _ _ _ _ _ _ o,m,j,?_,?_⟩
  ·rw[List.size_toArray,mV];simpa using i
  ·rw[aeZ,d];exact js f n hf l k b a hk
end
def yk (K:MKC)(X:Nat->Prop)(w:World)(M':MS)(r:Value)(e:Ending)(w':World):Prop:=e=.returned r/\∃X',wW w' K X' M'/\Stp X w X' w'
theorem MkIn.at{fv:Value}(h:MkIn w K X M fv vv l):wW w K X M:=⟨fv,vv,l,h⟩
theorem MkIn.ticked{fv:Value}(h:MkIn w K X M fv vv l)(c:M.sz+1<=1000000):MkIn (w.setCell ⟨K.pm,1,none⟩ (I ((M.pos:Int)+1))) K X M.tick fv vv l/\Stp X w X (w.setCell ⟨K.pm,1,none⟩ (I ((M.pos:Int)+1))):=
 h.setC 1 _ M.tick vv rfl rfl h.vown h.v64 h.xv (by have:=(zT M).sz;omega) (by have:=h.lft;show 6<=M.left+((M.pos+1:Nat):Int)/\M.left<=6;omega)
theorem rK (x:Int)(n:Nat)(d:0<n)(c:n<=1000000):Int.tmod (wrap64 (Int.tmod x n+n)) n=((x%(n:Int)).toNat:Int):=by
 have j:=Qv x (show(0:Int)<n by omega)
 have i:-(n:Int)<Int.tmod x n:=by
  have:=Qu x (show(0:Int)<n by omega);omega
 have e:wrap64 (Int.tmod x n+n)=Int.tmod x n+n:=IntWalk.wrap64_in _ Zo;rw[e];have h:=Ob x (show(n:Int)≠0 by omega);have g:=Int.emod_lt_of_pos x (show(0:Int)<n by omega)
 have e2:Int.tmod (Int.tmod x n+n) n=x%(n:Int):=by
  rw[Qc Zo,Int.add_emod_right]
  conv=>rhs;rw[<-Int.tmod_add_mul_tdiv x n]
  rw[Int.add_mul_emod_self_left]
 rw[e2];omega
theorem uD{fv:Value}(h:MkIn w K X M fv vv l){n:Nat}(k:0<n)(d:n<=1000000)(i:M.sz+1<=1000000):
 T 55 #[L K.pm,I n] w fun e w'=>e=.returned (I (tkV K.E M n:Nat))/\MkIn w' K X M.tick fv vv l/\Stp X w X w':=by
 have hs:=h.env.s;have c0:=h.c0;have c1:=h.c1;obtain⟨sa,sc,j,a1,a0⟩:=hs.form;rw[j] at c0 hs;have f1:=h.free 1;have c:=Ja (show ∀n,MkIn ((w.drewN n).setCell ⟨K.pm,1,none⟩ (I ((M.pos:Int)+1))) K X M.tick fv vv l/\Stp X w X ((w.drewN n).setCell ⟨K.pm,1,none⟩ (I ((M.pos:Int)+1))) from fun n=>⟨((h.keep (yL _ w n)).ticked i).1,(Stp.of_below (yL _ w n)).trans ((h.keep (yL _ w n)).ticked i).2⟩)
 have t:(M.pos:Int)+1<=1000000:=by
  have:M.pos<=M.sz:=by unfold MS.sz;omega
  omega
 clear h
 by_cases m:M.pos<K.E.s.length
 ·obtain⟨x,g⟩:∃x,K.E.s[M.pos]? =some x:=⟨_,Jd m⟩
  obtain⟨b,o,rfl,hb,u,h64⟩:=hs.get g;rw[Nk] at u;have y:(M.pos:Int)<(K.E.s.length:Int):=Zo;have hv:tkV K.E M n=(x%(n:Int)).toNat:=by unfold tkV;rw[Jj,g];rfl
  have e1:=rK x n k d;rw[hv];have q:=Ja e1;clear hs g hb e1 hv;go_enter Try.func55,Try.ntmps55;go_wp2;go_quiet (fail);go_wp2;go_quiet (fail);go_wp2;go_ret;exact⟨zh q.out,(c.out _).1,(c.out _).2⟩
 ·have y:¬(M.pos:Int)<(K.E.s.length:Int):=Zo;have hv:tkV K.E M n=((0:Int)%(n:Int)).toNat:=by unfold tkV;rw[Jj,Of Zo];rfl
  have e1:=rK 0 n k d;rw[hv];have q:=Ja e1;clear hs hv e1;go_enter Try.func55,Try.ntmps55;go_wp2;go_quiet (fail);go_wp2;go_ret;exact⟨zh Zs,(c.out _).1,(c.out _).2⟩
theorem m8(h:wW w K X M){n:Nat}(g:0<n)(c:n<=1000000)(d:M.sz+1<=1000000):
 T 55 #[L K.pm,I n] w (yk K X w M.tick (I (tkV K.E M n:Nat))):=by
 obtain⟨fv,vv,l,h⟩:=h;refine(uD h g c d).mono ?_;rintro e w' ⟨rfl,j,i⟩;exact⟨rfl,X,j.at,i⟩
theorem ot{fv:Value}(h:MkIn w K X M fv vv l)(d:M.sz+1<=1000000):
 T 69 #[L K.pm] w fun e w'=>e=.returned (I (M.next:Int))/\w'=w.setCell ⟨K.pm,6,none⟩ (I ((M.next+1:Nat):Int)):=by
 have c6:=h.c6;have f6:=h.free 6
 have g:(M.next:Int)+1<=1000000:=by
  have:M.next<=M.sz:=by unfold MS.sz;omega
  omega
 have hb:=h.blk;have c:U (w.setCell ⟨K.pm,6,none⟩ (I ((M.next:Int)+1))) K.pm 6 (I ((M.next:Int)+1)):=World.cell?_setCell_same _ _ _ c6;clear h hb;go_enter Try.func69,Try.ntmps69;go_wp2;go_ret;refine⟨zh Zo,?_⟩;rfl
theorem rX (s:List Int)(pos:Nat){n:Nat}(c:0<n):tk0 s pos n<n:=by
 unfold tk0;have g:=Ob (s.getD pos 0) (show(n:Int)≠0 by omega);have d:=Int.emod_lt_of_pos (s.getD pos 0) (show(0:Int)<n by omega);omega
theorem sm (s:List Int):1<=mdN s/\mdN s<=4:=by
 have:=rX s 0 (n:=4) Zo;unfold mdN;omega
theorem yY (s:List Int):∀n,(yS s n).length=n
 |0=>rfl
 |n+1=>by unfold yS;rw[Jk,yY s n];rfl
theorem xy (s:List Int):∀n,∀x∈yS s n,0<=x/\x<4
 |0,x,h=>by unfold yS at h;simp at h
 |n+1,x,h=>by
  unfold yS at h;rcases Jl.1 h with h|h
  ·exact xy s n x h
  ·have:=rX s n (n:=4) Zo;rw[Jo] at h;subst h
   split<;>omega
theorem yx (s:List Int):∀k,(zf s k).1.length=k
 |0=>rfl
 |k+1=>by
  show((zf s k).1++ [_]).length=_
  rw[Jk,yx s k];rfl
theorem eP {E:ME}(d:∀x∈E.args,0<=x/\x<4)(f:Nat):(E.args.getD f 0).toNat<=3:=by
 rw[Jj]
 cases c:E.args[f]? with
 |none=>simp
 |some x=>have:=d x (Ji c);simp only[Ot];omega
theorem sd (n p:Nat):(wJ n p).params.length=p:=by unfold wJ;simp
theorem sQ {E:ME}(c:∀x∈E.args,0<=x/\x<4)(pos:Nat):(xD E pos).sz<=pos+40:=by
 have g:=eP c E.me;have d:=aaE E ⟨pos,[],0,0,[],6⟩ (n:=3) Zo;unfold xD;simp only;unfold MS.sz MS.block MS.tick;simp only[sd,Op,bT,Ju];omega
theorem rx {E:ME}(c:∀x∈E.args,0<=x/\x<4)(pos:Nat):GrowP 2829 (xD E pos) (xR E pos):=by
 have h:=(xw E c 2 (xD E pos)).trans (xw E c 1 (zp E 2 (xD E pos)));have e:pC 2+pC 1=2824:=rfl;rw[e] at h;unfold xR;simp only;have ht:=h.trans (zT (zp E 1 (zp E 2 (xD E pos)))).p
 split
 ·exact(ht.trans (yf _ _).p).mono Zo
 split
 ·exact(ht.trans (yf _ _).p).mono Zo
 ·exact((ht.trans (yU E _).p).trans (yf _ _).p).mono Zo
theorem lN {E:ME}(c:∀x∈E.args,0<=x/\x<4)(pos:Nat):(xR E pos).pos<=pos+3000:=by
 have h:=(rx c pos).sz;have g:=sQ c pos;have d:(xR E pos).pos<=(xR E pos).sz:=by unfold MS.sz;omega
 omega
theorem mdPos_le (s:List Int):sP s<=5:=by
 have:=sm s;unfold sP
 split<;>omega
theorem pos_step{x y:Nat}(d:y<=5+k*3000)(c:x<=y+3000):x<=5+(k+1)*3000:=by omega
theorem tU (s:List Int)(k:Nat):(zf s k).2<=5+k*3000:=by
 induction k with
 |zero=>exact mdPos_le s
 |succ k ih=>exact pos_step ih (lN (E:=xC s k) (xy s _) (zf s k).2)
def rp (k:Nat):Nat:=(k*k+k/256)%256
def iu:List Nat:=(List.range 4096).map rp
def uQ (k:Nat):List Nat:=(List.range 4096).map fun j=>if j<k then rp j else 0
theorem pM (k:Nat):(uQ k).length=4096:=by simp[uQ]
theorem mM:uQ 0=List.replicate 4096 0:=by
 apply Oq;intro j;unfold uQ;rw[Jr,Nm]
 by_cases h:j<4096
 ·rw[Oh h,if_pos h];rfl
 ·rw[Of (by simpa using h),if_neg h];rfl
theorem nu:uQ 4096=iu:=Up fun j hj=>if_pos (Ol.1 hj)
theorem kC(h:k<4096):(uQ k).set k (rp k)=uQ (k+1):=by
 apply Oq;intro j;rw[Ov,pM];unfold uQ;rw[Jr,Jr]
 by_cases e:k=j
 ·subst e;rw[if_pos rfl,if_pos h,Oh h]
  show some _=some (if k<k+1 then rp k else 0)
  rw[if_pos Zo]
 ·rw[if_neg e]
  by_cases c:j<4096
  ·rw[Oh c]
   show some (if j<k then rp j else 0)=some (if j<k+1 then rp j else 0)
   by_cases d:j<k
   ·rw[if_pos d,if_pos Zo]
   ·rw[if_neg d,if_neg Zo]
  ·rw[Of (by simpa using c)];rfl
theorem ll (n:Nat):(((List.range n).map rp).map fun(n:Nat)=>(n:Int)).map (fun n=>UInt8.ofNat n.toNat)=(List.range n).map fun k=>UInt8.ofNat (k*k+k/256):=by
 rw[List.map_map,List.map_map];apply Up;intro k hk
 show UInt8.ofNat (((rp k:Nat):Int).toNat)=_
 rw[Ni];unfold rp;apply UInt8.toNat_inj.1;simp
theorem mq:y9 iu=sG:=congrArg (fun l:List UInt8=>(⟨l.toArray⟩:ByteArray)) (ll 4096)
theorem eE {p:IProg}{E:ME}(hp:EnvOk p E)(pos:Nat):aaz p (xD E pos) (fun i=>i=0) (fun _=>False) [0]:=by
 have g:=eP hp.alt E.me
 show MInv p [wJ (tkV E ⟨pos,[],0,0,[],6⟩ 3*10) (E.args.getD E.me 0).toNat] 0 (tkV E ⟨pos,[],0,0,[],6⟩ 3*10+(E.args.getD E.me 0).toNat) (wJ (tkV E ⟨pos,[],0,0,[],6⟩ 3*10) (E.args.getD E.me 0).toNat).params _ _ _
 generalize tkV E ⟨pos,[],0,0,[],6⟩ 3*10=nx;generalize (E.args.getD E.me 0).toNat=n at *
 have c:∀(i:Nat) (b:IBlk),[wJ nx n][i]? =some b->i=0/\b=wJ nx n:=fun i b h=>by
  cases i with
  |zero=>cases h;exact⟨rfl,rfl⟩
  |succ i=>simp at h
 have d:aaI [wJ nx n]=(List.range n).map fun k=>((nx+k:Nat):Int):=by
  unfold aaI abu wJ;simp[abo]
 refine⟨rfl,by show 0<1;decide,?_,?_,?_,?_,?_,?_,?_,?_,?_,?_⟩
 ·intro i u hi m;have:=(Jh.1 hi).1;simp at this;omega
 ·intro i b hb j o ho;obtain⟨rfl,rfl⟩:=c i b hb;simp[wJ] at ho
 ·intro i b hb l;exact absurd (c i b hb).1 l
 ·intro i b hb _;obtain⟨rfl,rfl⟩:=c i b hb;rfl
 ·intro i hi;rw[hi]
  show 0<1
  decide
 ·intro v hv b hb;obtain⟨_,rfl⟩:=c 0 b hb;exact⟨0,-1,⟨_,rfl,.inl ⟨rfl,hv⟩⟩,.refl _,fun _=>by show(-1:Int)<0;decide⟩
 ·rw[d];refine List.pairwise_map.2 (List.nodup_range.imp fun hab e=>hab ?_);omega
 ·intro v hv;rw[d] at hv;obtain⟨k,hk,rfl⟩:=Nu.1 hv;have:=Ol.1 hk;omega
 ·intro i hi _;have:i=0:=by simp at hi;exact hi
  subst this;exact .zero
 ·intro i b hb;obtain⟨rfl,rfl⟩:=c i b hb;exact⟨by rw[sd];exact g,by show 0<=4;decide⟩
theorem gJ {p:IProg}{E:ME}(hp:EnvOk p E)(pos:Nat):∃pl,ack p (xR E pos).f (xR E pos).next pl/\∃b0,(xR E pos).f[0]? =some b0/\b0.params.length=(E.args.getD E.me 0).toNat:=by
 have o:=eE hp pos;obtain⟨g,c⟩:=abq hp 2 (xD E pos) _ _ [0] o rfl (fun e=>e) (fun i e=>e.elim);obtain⟨pl2,w⟩:=abq hp 1 (zp E 2 (xD E pos)) _ _ g c.inv (.inr rfl) c.np (fun i e=>e.elim);have m:=c.trans w (ja c.ext) o.lt;have hb:(xD E pos).f[0]? =some (wJ (tkV E ⟨pos,[],0,0,[],6⟩ 3*10) (E.args.getD E.me 0).toNat):=rfl;have d:=m.ext;have hi:aaz p (zp E 1 (zp E 2 (xD E pos))) (fun i=>i=(zp E 1 (zp E 2 (xD E pos))).cur) (fun _=>False) pl2:=m.inv.weak (fun i=>⟨fun e=>e.elim (fun e=>absurd e.1 e.2) (fun e=>e),.inr⟩) (fun i e=>e);unfold xR;simp only;generalize zp E 1 (zp E 2 (xD E pos))=M1 at *
 have fin:∀(M:MS) (t:ITerm),aaz p M (fun i=>i=M1.cur) (fun _=>False) pl2->M.cur=M1.cur->rf (xD E pos).f M.f->gR t=true->t.to=[]->(∀v∈mE t,v∈M.vals)->
  ∃pl,ack p (M.endB t).f (M.endB t).next pl/\∃b0,(M.endB t).f[0]? =some b0/\b0.params.length=(E.args.getD E.me 0).toNat:=fun M t hM hc hxx hk ht hv=>by
  have l:(fun i=>i=M1.cur) M.cur:=hc;have u:=hM.endB (t:=t) l hk (by rw[ht];show 0<=4;decide) (fun e he=>by rw[ht] at he;cases he) (fun v h=>hM.at (hv v h)) (P':=fun _=>False) (fun e=>e) (fun i e=> .inl e);have q:=hxx.trans (xd hM l t);obtain⟨b',k,j,_⟩:=q _ _ hb;refine⟨pl2,⟨_,_,u.weak (fun i=>⟨fun e=>e.2 (by rw[hc];exact e.1),fun e=>e.elim⟩) (fun i e=>e)⟩,b',k,by rw[j,sd]⟩
 split
 ·exact fin M1.tick ⟨5,0,[]⟩ hi rfl d rfl rfl (fun v hv=>by cases hv)
 split
 ·exact fin M1.tick ⟨4,-1,[]⟩ hi rfl d rfl rfl (fun v hv=>by cases hv)
 ·obtain⟨a1,a2⟩:=MInv.any (M:=M1.tick) E hi rfl
  exact fin (zJ E M1.tick).2 ⟨4,(zJ E M1.tick).1,[]⟩ a1 (yU E M1.tick).cur (d.trans (aaW E M1.tick)) rfl rfl (fun v hv=>by
   rcases gL hv with rfl|hv
   ·exact a2
   ·cases hv)
theorem jm {E:ME}(c:∀x∈E.args,0<=x/\x<4)(pos:Nat):(xR E pos).sz<=pos+2869:=by
 have g:=(rx c pos).sz;have d:=sQ c pos;omega
theorem qJ (s:List Int):∀(n k:Nat),k<n->(zf s n).1[k]? =some (xR (xC s k) (zf s k).2).f
 |n+1,k,h=>by
  show((zf s n).1++ [_])[k]? =_
  by_cases hk:k<n
  ·rw[Np (by rw[yx];exact hk)];exact qJ s n k hk
  ·have e:k=n:=Zo;subst e;rw[Nc (by rw[yx];exact Je _),yx,Qy];rfl
theorem qA (s:List Int):(uR s).funcs.length=mdN s:=by
 unfold uR;simp only
 split
 ·rw[Nd,yx]
 ·exact yx s _
theorem kz(s:List Int)(hk:k<mdN s):(uR s).funcs[k]? =some []/\qV s=true/\k=mdN s-1∨(uR s).funcs[k]? =some (xR (xC s k) (zf s k).2).f:=by
 have h:=qJ s (mdN s) k hk;unfold uR;simp only
 split
 ·rename_i c
  by_cases e:k=mdN s-1
  ·left;subst e;exact⟨Nn (by rw[yx];exact hk),c,rfl⟩
  ·right;rw[Ns (fun e2=>e e2.symm)];exact h
 ·exact .inr h
theorem gi (s:List Int)(k:Nat):EnvOk (uR s) (xC s k):=⟨qA s,rfl,rfl,xy s _⟩
theorem gP (s:List Int)(k:Nat):0<=(yS s (mdN s)).getD k 0/\(yS s (mdN s)).getD k 0<4:=by
 rw[Jj]
 cases c:(yS s (mdN s))[k]? with
 |none=>simp
 |some x=>exact xy s _ x (Ji c)
theorem lz (s:List Int)(k:Nat)(hk:k<mdN s):(xR (xC s k) (zf s k).2).sz<=15000:=by
 have d:=tU s k;have c:=jm (E:=xC s k) (xy s _) (zf s k).2;have:=sm s;omega
theorem no (s:List Int):∀n,0<n->(yS s n).getD 0 0=0
 |1,_=>rfl
 |n+2,_=>by
  have h:=no s (n+1) Zo;rw[Jj] at h ⊢
  show((yS s (n+1)++ [_])[0]?).getD 0=0
  rw[Np (by rw[yY];omega)];exact h
theorem eH (s:List Int):sR (uR s)=0:=by
 have m:=sm s;have hl:=qA s;have l:=no s (mdN s) Zo
 have k:wB (uR s)=true:=by
  have hb:sG.size=4096:=by
   unfold sG ByteArray.size;simp only[List.size_toArray,Nr,Un]
  unfold wB;rw[Jm];refine⟨?_,by show ig 1 am=true;decide⟩
  show [sG].all _=true
  simp[hb]
 have g:∀f:Nat,f<mdN s->(yS s (mdN s)).getD f 0=0->yw (uR s) (f:Int)=true:=fun f hf h=>by
  unfold yw;rw[Jm,Jm,decide_eq_true_eq,decide_eq_true_eq,beq_iff_eq,hl,Ni];exact⟨by omega,by omega,h⟩
 unfold sR;rw[if_neg (by rw[hl];show ¬(2000<mdN s∨512<3∨64<1);omega),if_neg (by rw[hl];show ¬((yS s (mdN s)).length≠mdN s);rw[yY];simp),if_neg,if_neg,if_neg (by rw[k];decide)]
 ·rintro(e|⟨e1,e2⟩)
  ·have:=g 0 Zo l;have e':yw (uR s) ((0:Nat):Int)=false:=e;rw[this] at e';cases e'
  ·have d:vw s≠-1:=e1;have c:yw (uR s) (vw s)=false:=e2;unfold vw at d c
   split at c
   ·rename_i i
    have j:=i.1;unfold oJ at j;simp only[Jm,decide_eq_true_eq] at j;rw[g _ Zo j.2] at c;cases c
   ·rename_i i
    rw[if_neg i] at d;exact d rfl
 ·have:∀x∈yS s (mdN s),tX x=true:=fun x hx=>by
   have:=xy s _ x hx;unfold tX;rw[Jm,decide_eq_true_eq,decide_eq_true_eq];omega
  intro e;have e':(yS s (mdN s)).all tX=false:=e;rw[Oe.2 this] at e';cases e'
theorem fm (s:List Int):vC (uR s)=0:=by
 unfold vC;rw[if_neg (by rw[eH];simp),if_pos];rw[Oe];intro k hk;rw[Ol,qA] at hk;rcases kz s hk with⟨h,_⟩|h
 ·unfold yi;rw[Jj,h];rfl
 ·obtain⟨pl,i,b0,g,d⟩:=gJ (gi s k) (zf s k).2;have c:=lz s k hk;refine i.function (by unfold MS.sz at c;omega) h g ?_;rw[d]
  show(((yS s (mdN s)).getD k 0).toNat:Int)=(yS s (mdN s)).getD k 0
  exact Oa (gP s k).1
theorem neg_any (w:World){a b:Rg}(d:a.ok)(hb:b.ok):T 28 #[.agg #[G (a.lo:Int),G (a.hi:Int)],.agg #[G (b.lo:Int),G (b.hi:Int)]] w (tr w (vl (-(a.hi:Int)) (-(a.lo:Int)))):=by
 have o:=d.1;have m:=d.2;have c:=hb.1;have l:=hb.2;obtain⟨⟨x,y⟩,hr⟩:∃r,vl (-(a.hi:Int)) (-(a.lo:Int))=r:=⟨_,rfl⟩
 rw[hr]
 have g:∀W,T 29 #[I (-(a.hi:Int)),I (-(a.lo:Int))] W (fun e w'=>e=.returned (.agg #[G x,G y])/\O W w'):=fun W=>by
  have:=e9 W (lo:=-(a.hi:Int)) (hi:=-(a.lo:Int)) Zo Zo;rw[hr] at this;exact this
 have h:=Ja g;clear g hr d hb;go_enter Try.func28,Try.ntmps28;go_wp2_with (go_at_call 29;go_must (refine(h.out _).mono ?_;rintro e w1 ⟨rfl,c⟩;have hk:Q w1 (w.heap.size+1+1) #[G 0,G 0] 48:=zH c (zI Zs) Zs;have f0:=zA (i:=0) hk rfl;have f1:=zA (i:=1) hk rfl;have g0:=zE (i:=0) hk;have g1:=zE (i:=1) hk;have j:=lt_of_block hk;have k:=Below.trans (show O w _ from by repeat' (first|exact Below.refl _ _|(refine Below.alloc ?_ (by first|(simp;done)|(simp;omega)) _))) (c.mono (by first|(simp;done)|(simp;omega)));clear c hk))
 refine bodyPost_ret (v:=.agg #[G x,G y]) ?_ rfl ⟨rfl,by repeat' (first|exact Below.refl _ _|assumption|(refine Below.alloc ?_ (by first|(simp;done)|(simp;omega)) _)|(refine Below.setCell ?_ (by first|(simp;done)|(simp;omega)) _))⟩;rw[zM rfl];go_simp
theorem add_any (w:World){a b:Rg}(d:a.ok)(hb:b.ok):T 31 #[.agg #[G (a.lo:Int),G (a.hi:Int)],.agg #[G (b.lo:Int),G (b.hi:Int)]] w (tr w (vl ((a.lo:Int)+b.lo) ((a.hi:Int)+b.hi))):=by
 have o:=d.1;have m:=d.2;have c:=hb.1;have l:=hb.2;obtain⟨⟨x,y⟩,hr⟩:∃r,vl ((a.lo:Int)+b.lo) ((a.hi:Int)+b.hi)=r:=⟨_,rfl⟩
 rw[hr]
 have g:∀W,T 29 #[I ((a.lo:Int)+(b.lo:Int)),I ((a.hi:Int)+(b.hi:Int))] W (fun e w'=>e=.returned (.agg #[G x,G y])/\O W w'):=fun W=>by
  have:=e9 W (lo:=(a.lo:Int)+b.lo) (hi:=(a.hi:Int)+b.hi) Zo Zo;rw[hr] at this;exact this
 have h:=Ja g;clear g hr d hb;go_enter Try.func31,Try.ntmps31;go_wp2_with (go_at_call 29;go_must (refine(h.out _).mono ?_;rintro e w1 ⟨rfl,c⟩;have hk:Q w1 (w.heap.size+1+1) #[G 0,G 0] 48:=zH c (zI Zs) Zs;have f0:=zA (i:=0) hk rfl;have f1:=zA (i:=1) hk rfl;have g0:=zE (i:=0) hk;have g1:=zE (i:=1) hk;have j:=lt_of_block hk;have k:=Below.trans (show O w _ from by repeat' (first|exact Below.refl _ _|(refine Below.alloc ?_ (by first|(simp;done)|(simp;omega)) _))) (c.mono (by first|(simp;done)|(simp;omega)));clear c hk))
 refine bodyPost_ret (v:=.agg #[G x,G y]) ?_ rfl ⟨rfl,by repeat' (first|exact Below.refl _ _|assumption|(refine Below.alloc ?_ (by first|(simp;done)|(simp;omega)) _)|(refine Below.setCell ?_ (by first|(simp;done)|(simp;omega)) _))⟩;rw[zM rfl];go_simp
theorem sub_any (w:World){a b:Rg}(d:a.ok)(hb:b.ok):T 32 #[.agg #[G (a.lo:Int),G (a.hi:Int)],.agg #[G (b.lo:Int),G (b.hi:Int)]] w (tr w (vl ((a.lo:Int)-b.hi) ((a.hi:Int)-b.lo))):=by
 have o:=d.1;have m:=d.2;have c:=hb.1;have l:=hb.2;obtain⟨⟨x,y⟩,hr⟩:∃r,vl ((a.lo:Int)-b.hi) ((a.hi:Int)-b.lo)=r:=⟨_,rfl⟩
 rw[hr]
 have g:∀W,T 29 #[I ((a.lo:Int)-(b.hi:Int)),I ((a.hi:Int)-(b.lo:Int))] W (fun e w'=>e=.returned (.agg #[G x,G y])/\O W w'):=fun W=>by
  have:=e9 W (lo:=(a.lo:Int)-b.hi) (hi:=(a.hi:Int)-b.lo) Zo Zo;rw[hr] at this;exact this
 have h:=Ja g;clear g hr d hb;go_enter Try.func32,Try.ntmps32;go_wp2_with (go_at_call 29;go_must (refine(h.out _).mono ?_;rintro e w1 ⟨rfl,c⟩;have hk:Q w1 (w.heap.size+1+1) #[G 0,G 0] 48:=zH c (zI Zs) Zs;have f0:=zA (i:=0) hk rfl;have f1:=zA (i:=1) hk rfl;have g0:=zE (i:=0) hk;have g1:=zE (i:=1) hk;have j:=lt_of_block hk;have k:=Below.trans (show O w _ from by repeat' (first|exact Below.refl _ _|(refine Below.alloc ?_ (by first|(simp;done)|(simp;omega)) _))) (c.mono (by first|(simp;done)|(simp;omega)));clear c hk))
 refine bodyPost_ret (v:=.agg #[G x,G y]) ?_ rfl ⟨rfl,by repeat' (first|exact Below.refl _ _|assumption|(refine Below.alloc ?_ (by first|(simp;done)|(simp;omega)) _)|(refine Below.setCell ?_ (by first|(simp;done)|(simp;omega)) _))⟩;rw[zM rfl];go_simp
theorem mul_any (w:World){a b:Rg}(h:a.ok)(hb:b.ok):T 33 #[.agg #[G (a.lo:Int),G (a.hi:Int)],.agg #[G (b.lo:Int),G (b.hi:Int)]] w (tr w (wl (a.lo*b.lo) (a.hi*b.hi))):=by
 have k:=h.1;have g:=h.2;have c:=hb.1;have d:=hb.2;obtain⟨⟨x,y⟩,hr⟩:∃r,wl (a.lo*b.lo) (a.hi*b.hi)=r:=⟨_,rfl⟩
 rw[hr];have t:a.lo*b.lo<=65535*65535:=Nat.mul_le_mul Zo Zo;have q:a.hi*b.hi<=65535*65535:=Nat.mul_le_mul g d;have o:IntKind.i64.wrap ((a.lo:Int)*(b.lo:Int))=(a.lo:Int)*(b.lo:Int):=by rw[<-Int.natCast_mul];exact Om _ ⟨by omega,by omega⟩
 have m:IntKind.i64.wrap ((a.hi:Int)*(b.hi:Int))=(a.hi:Int)*(b.hi:Int):=by rw[<-Int.natCast_mul];exact Om _ ⟨by omega,by omega⟩
 have j:∀W,T 34 #[I ((a.lo:Int)*(b.lo:Int)),I ((a.hi:Int)*(b.hi:Int))] W (fun e w'=>e=.returned (.agg #[G x,G y])/\O W w'):=fun W=>by
  have:=ac2 W (lo:=a.lo*b.lo) (hi:=a.hi*b.hi) (Nat.mul_le_mul k c) (by have:=Nat.mul_le_mul g d;omega);rw[hr,Int.natCast_mul,Int.natCast_mul] at this;exact this
 have l:=Ja j;clear j hr h hb;go_enter Try.func33,Try.ntmps33;go_wp2_with (go_at_call 34;go_must (refine(l.out _).mono ?_;rintro e w1 ⟨rfl,c⟩;have hk:Q w1 (w.heap.size+1+1) #[G 0,G 0] 48:=zH c (zI Zs) Zs;have f0:=zA (i:=0) hk rfl;have f1:=zA (i:=1) hk rfl;have g0:=zE (i:=0) hk;have g1:=zE (i:=1) hk;have u:=lt_of_block hk;have a0:=Below.trans (show O w _ from by repeat' (first|exact Below.refl _ _|(refine Below.alloc ?_ (by first|(simp;done)|(simp;omega)) _))) (c.mono (by first|(simp;done)|(simp;omega)));clear c hk))
 refine bodyPost_ret (v:=.agg #[G x,G y]) ?_ rfl ⟨rfl,by repeat' (first|exact Below.refl _ _|assumption|(refine Below.alloc ?_ (by first|(simp;done)|(simp;omega)) _)|(refine Below.setCell ?_ (by first|(simp;done)|(simp;omega)) _))⟩;rw[zM rfl];go_simp
theorem and_any (w:World){a b:Rg}(c:a.ok)(hb:b.ok):T 36 #[.agg #[G (a.lo:Int),G (a.hi:Int)],.agg #[G (b.lo:Int),G (b.hi:Int)]] w (tr w (⟨0,min a.hi b.hi⟩)):=by
 have j:=c.1;have i:=c.2;have h:=hb.1;have g:=hb.2;have d:=min16 a.hi b.hi;obtain⟨m,hm⟩:∃m,min a.hi b.hi=m:=⟨_,rfl⟩
 rw[hm] at d ⊢;clear hm c hb;go_enter Try.func36,Try.ntmps36;go_wp2;refine bodyPost_ret (v:=.agg #[G 0,G m]) ?_ rfl ⟨rfl,by repeat' (first|exact Below.refl _ _|assumption|(refine Below.alloc ?_ (by first|(simp;done)|(simp;omega)) _)|(refine Below.setCell ?_ (by first|(simp;done)|(simp;omega)) _))⟩;rw[zM rfl];go_simp
theorem lts_any (w:World){a b:Rg}(c:a.ok)(hb:b.ok):T 47 #[.agg #[G (a.lo:Int),G (a.hi:Int)],.agg #[G (b.lo:Int),G (b.hi:Int)]] w (tr w (⟨0,1⟩)):=by
 have i:=c.1;have h:=c.2;have g:=hb.1;have d:=hb.2;go_enter Try.func47,Try.ntmps47;go_wp2;refine bodyPost_ret (v:=.agg #[G 0,G 1]) ?_ rfl ⟨rfl,by repeat' (first|exact Below.refl _ _|assumption|(refine Below.alloc ?_ (by first|(simp;done)|(simp;omega)) _)|(refine Below.setCell ?_ (by first|(simp;done)|(simp;omega)) _))⟩;rw[zM rfl];go_simp
theorem afp (w:World){a b:Rg}(c:a.ok)(hb:b.ok):T 48 #[.agg #[G (a.lo:Int),G (a.hi:Int)],.agg #[G (b.lo:Int),G (b.hi:Int)]] w (tr w (⟨0,255⟩)):=by
 have i:=c.1;have h:=c.2;have g:=hb.1;have d:=hb.2;go_enter Try.func48,Try.ntmps48;go_wp2;refine bodyPost_ret (v:=.agg #[G 0,G 255]) ?_ rfl ⟨rfl,by repeat' (first|exact Below.refl _ _|assumption|(refine Below.alloc ?_ (by first|(simp;done)|(simp;omega)) _)|(refine Below.setCell ?_ (by first|(simp;done)|(simp;omega)) _))⟩;rw[zM rfl];go_simp
theorem af0 (w:World){a b:Rg}(c:a.ok)(hb:b.ok):T 49 #[.agg #[G (a.lo:Int),G (a.hi:Int)],.agg #[G (b.lo:Int),G (b.hi:Int)]] w (tr w (⟨0,255⟩)):=by
 have i:=c.1;have h:=c.2;have g:=hb.1;have d:=hb.2;go_enter Try.func49,Try.ntmps49;go_wp2;refine bodyPost_ret (v:=.agg #[G 0,G 255]) ?_ rfl ⟨rfl,by repeat' (first|exact Below.refl _ _|assumption|(refine Below.alloc ?_ (by first|(simp;done)|(simp;omega)) _)|(refine Below.setCell ?_ (by first|(simp;done)|(simp;omega)) _))⟩;rw[zM rfl];go_simp
theorem not_any (w:World){a b:Rg}(g:a.ok)(hb:b.ok):T 30 #[.agg #[G (a.lo:Int),G (a.hi:Int)],.agg #[G (b.lo:Int),G (b.hi:Int)]] w (tr w ⟨65535-a.hi,65535-a.lo⟩):=by
 have j:=g.1;have i:=g.2;have e1:=not16 a.hi Zo;have e2:=not16 a.lo Zo;obtain⟨x,d⟩:∃x,65535-a.hi=x:=⟨_,rfl⟩
 obtain⟨y,c⟩:∃y,65535-a.lo=y:=⟨_,rfl⟩
 rw[d,c];rw[d] at e1;rw[c] at e2;have k:=Ja (Jb e1 e2);clear g hb d c e1 e2;go_enter Try.func30,Try.ntmps30;go_wp2;refine bodyPost_ret (v:=.agg #[G (bits .xor .u16 IntKind.u16.max (a.hi:Int)),G (bits .xor .u16 IntKind.u16.max (a.lo:Int))]) ?_ rfl ⟨by rw[k.out.1,k.out.2],by repeat' (first|exact Below.refl _ _|assumption|(refine Below.alloc ?_ (by first|(simp;done)|(simp;omega)) _)|(refine Below.setCell ?_ (by first|(simp;done)|(simp;omega)) _))⟩;rw[zM rfl];go_simp
theorem or_any (w:World){a b:Rg}(d:a.ok)(hb:b.ok):T 37 #[.agg #[G (a.lo:Int),G (a.hi:Int)],.agg #[G (b.lo:Int),G (b.hi:Int)]] w (tr w ⟨max a.lo b.lo,ro (max a.hi b.hi)⟩):=by
 have a0:=d.1;have u:=d.2;have t:=hb.1;have q:=hb.2;have k:=agJ a.lo b.lo;have j:=Ja (fun W=>afK W (x:=a.hi) (y:=b.hi) Zo Zo);obtain⟨x,h⟩:∃x,max a.lo b.lo=x:=⟨_,rfl⟩
 obtain⟨y,g⟩:∃y,ro (max a.hi b.hi)=y:=⟨_,rfl⟩
 rw[g] at j ⊢;rw[h] at k ⊢;clear h g d hb;go_enter Try.func37,Try.ntmps37;go_upto_region 1 with fail;have c:=Ja (show O w (((w.alloc (A #[G (a.lo:Int),G (a.hi:Int)] 48)).alloc (A #[G (b.lo:Int),G (b.hi:Int)] 48)).alloc (A #[G 0,G 0] 48))/\Q (((w.alloc (A #[G (a.lo:Int),G (a.hi:Int)] 48)).alloc (A #[G (b.lo:Int),G (b.hi:Int)] 48)).alloc (A #[G 0,G 0] 48)) w.heap.size #[G (a.lo:Int),G (a.hi:Int)] 48/\Q (((w.alloc (A #[G (a.lo:Int),G (a.hi:Int)] 48)).alloc (A #[G (b.lo:Int),G (b.hi:Int)] 48)).alloc (A #[G 0,G 0] 48)) (w.heap.size+1) #[G (b.lo:Int),G (b.hi:Int)] 48/\Q (((w.alloc (A #[G (a.lo:Int),G (a.hi:Int)] 48)).alloc (A #[G (b.lo:Int),G (b.hi:Int)] 48)).alloc (A #[G 0,G 0] 48)) (w.heap.size+1+1) #[G 0,G 0] 48 from⟨by repeat' (first|exact Below.refl _ _|assumption|(refine Below.alloc ?_ (by first|(simp;done)|(simp;omega)) _)|(refine Below.setCell ?_ (by first|(simp;done)|(simp;omega)) _)),zB (zB (zI rfl)),zB (zI Zs),zI Zs⟩);generalize ((w.alloc (A #[G (a.lo:Int),G (a.hi:Int)] 48)).alloc (A #[G (b.lo:Int),G (b.hi:Int)] 48)).alloc (A #[G 0,G 0] 48)=X at *;have l:=Ja (show ∀W,O X W->U W w.heap.size 0 (G (a.lo:Int))/\U W w.heap.size 1 (G (a.hi:Int))/\U W (w.heap.size+1) 0 (G (b.lo:Int))/\U W (w.heap.size+1) 1 (G (b.hi:Int)) from fun W hb=>⟨zA (zH hb c.out.2.1 (lt_of_block c.out.2.1)) rfl,zA (zH hb c.out.2.1 (lt_of_block c.out.2.1)) rfl,zA (zH hb c.out.2.2.1 (lt_of_block c.out.2.2.1)) rfl,zA (zH hb c.out.2.2.1 (lt_of_block c.out.2.2.1)) rfl⟩);obtain⟨c0,c1,c2,c3⟩:=l.out X (Below.refl _ _);have hk:=c.out.2.2.2;have f0:=zA (i:=0) hk rfl;have f1:=zA (i:=1) hk rfl;have g0:∀i,Y X (w.heap.size+1+1) i:=fun i=>zE (i:=i) hk;have o:=lt_of_block hk;have m:=Ja c.out.1;clear hk
 go_region_held3 (fun w'=>U w' w.heap.size 0 (G (a.lo:Int))/\U w' w.heap.size 1 (G (a.hi:Int))/\U w' (w.heap.size+1) 0 (G (b.lo:Int))/\U w' (w.heap.size+1) 1 (G (b.hi:Int))) ((first|exact⟨c0,c1,c2,c3⟩|(go_simp;done)|(refine⟨?_,?_,?_,?_⟩<;>go_simp)))
  ((go_at_call 38;refine(j.out _).mono ?_;rintro e w1 ⟨rfl,rfl⟩))
 all_goals go_wp2_with fail
 all_goals (refine bodyPost_ret (v:=.agg #[G x,G y]) ?_ rfl ⟨rfl,by repeat' (first|exact m.out|(refine Below.drew ?_)|(refine Below.setCell ?_ (by first|(simp;done)|omega|(simp;omega)) _))⟩;rw[zM rfl];go_simp)
theorem xor_any (w:World){a b:Rg}(c:a.ok)(hb:b.ok):T 39 #[.agg #[G (a.lo:Int),G (a.hi:Int)],.agg #[G (b.lo:Int),G (b.hi:Int)]] w (tr w (⟨0,ro (max a.hi b.hi)⟩)):=by
 have k:=c.1;have j:=c.2;have i:=hb.1;have h:=hb.2;have g:=Ja (fun W=>afK W (x:=a.hi) (y:=b.hi) Zo Zo);obtain⟨y,d⟩:∃y,ro (max a.hi b.hi)=y:=⟨_,rfl⟩
 rw[d] at g ⊢;clear d c hb;go_enter Try.func39,Try.ntmps39;go_wp2_with (go_at_call 38;go_must (refine(g.out _).mono ?_;rintro e w1 ⟨rfl,rfl⟩))
 refine bodyPost_ret (v:=.agg #[G 0,G y]) ?_ rfl ⟨rfl,by repeat' (first|exact Below.refl _ _|assumption|(refine Below.alloc ?_ (by first|(simp;done)|(simp;omega)) _)|(refine Below.setCell ?_ (by first|(simp;done)|(simp;omega)) _))⟩;rw[zM rfl];go_simp
open Go.RowKit Go.Maps
def afC (v:Value):Option (DataW Unit×List MemPlace):=
 match v with
 |.func (.func k) fs cs=>if fs.size=0/\cs.size=0 then some (.lit (.int .i64 (k:Int)),[]) else none
 |.nilFunc=>some (.lit (.int .i64 (-1)),[])
 |_=>none
def ruV:Option Nat->Value
 |some k=> .func (.func k) #[] #[]
 |none=> .nilFunc
def ruD:Option Nat->DataW Unit
 |some k=> .lit (.int .i64 (k:Int))
 |none=> .lit (.int .i64 (-1))
theorem aeU (o:Option Nat):afC (ruV o)=some (ruD o,[]):=by cases o<;>rfl
theorem afQ {v:Value}{o:Option Nat}{ps:List MemPlace}(h:afC v=some (ruD o,ps)):v=ruV o:=by
 unfold afC at h
 split at h
 ·rename_i k fs cs
  split at h
  ·rename_i hs
   have e1:fs=#[]:=Array.eq_empty_of_size_eq_zero hs.1;have e2:cs=#[]:=Array.eq_empty_of_size_eq_zero hs.2;subst e1 e2
   cases o with
   |none=>simp only[ruD,Option.some.injEq,Prod.mk.injEq,DataW.lit.injEq,Lit.int.injEq,true_and] at h;have:=h.1;omega
   |some j=>simp only[ruD,Option.some.injEq,Prod.mk.injEq,DataW.lit.injEq,Lit.int.injEq,true_and] at h;have:k=j:=Int.ofNat.inj h.1
            subst this;rfl
  ·cases h
 ·cases o with
  |none=>rfl
  |some j=>simp[ruD] at h
 ·cases h
theorem zeroRu (w:World):(zeroValue 112).run Try.prog w=.ok .nilFunc w:=by kernel_rfl
def ma (w:World)(b n:Nat)(g:Int->Option Nat):Prop:=
 ∃D:DataW Unit,w.ownsMap Try.prog 3 afC b n D/\∀x,I64 x->D.atKey (.int .i64 x) (ruD none)=ruD (g x)/\Maps.has D (.int .i64 x)=(g x).isSome
theorem ma.made (w:World):ma (w.alloc (.map #[] 0)) w.heap.size 0 (fun _=>none):=⟨_,World.ownsMap_made _ _ _ _,fun _ _=>⟨rfl,rfl⟩⟩
theorem ma.blk{b n:Nat}(h:ma w b n g):∃es clock,w.heap[b]? =some (.map es clock):=by
 obtain⟨D,⟨es,clock,c,i⟩,d⟩:=h;exact⟨es,clock,c⟩
theorem ma.same{b n:Nat}(h:ma w b n g)(hb:w'.heap[b]? =w.heap[b]?):ma w' b n g:=by
 obtain⟨D,⟨es,c,j,i⟩,d⟩:=h;exact⟨D,⟨es,c,hb.trans j,i⟩,d⟩
theorem ma.below{b n:Nat}(h:ma w b n g)(hb:O w w'):ma w' b n g:=by
 obtain⟨es,c,d⟩:=h.blk;exact h.same (hb.block b (lt_of_block d))
theorem ma.lookOk{b n:Nat}(h:ma w b n g){x:Int}(d:I64 x):
 (Instr.lookup 65 (.map (some b)) (I x) true).run Try.prog w=.ok (.tuple #[ruV (g x),.bool (g x).isSome]) w:=by
 obtain⟨D,h,hf⟩:=h;obtain⟨v,ps,c,hv⟩:=h.look_ok xH Try.underlying65 (zeroRu w) (aeU none) (vB d);rw[(hf x d).1] at hv;rw[(hf x d).2,afQ hv] at c;exact c
def putR (g:Int->Option Nat)(x:Int)(k:Nat):Int->Option Nat:=fun y=>if y=x then some k else g y
theorem afm{n b:Nat}(h:Below n w0 w)(hg:w.grownBy w' (some b))(hb:n<=b)(hs:n<=w.heap.size):Below n w0 w':=
 ⟨hg.os.trans h.os,hg.tape.trans h.tape,hg.output.trans h.output,Jn h.size hg.size,fun k hk=>(hg.block k Zo (by intro e;cases e;omega)).trans (h.block k hk)⟩
theorem agu{b n:Nat}(h:ma w b n g)(m:n<9000000000000000000)(kx:Int)(k:Nat)(d:I64 kx):
 ∃w',(Instr.mapUpdate 65 (.map (some b)) (.int .i64 kx) (.func (.func k) #[] #[])).run Try.prog w=.ok () w'/\ma w' b (n+1) (putR g kx k)/\w.grownBy w' (some b):=by
 obtain⟨D,h,hf⟩:=h;obtain⟨w1,j,l,c⟩:=h.update xH Try.underlying65 (by unfold maxLen;omega) (vB d) (aeU (some k));refine⟨w1,j,⟨_,l,fun y hy=>?_⟩,c⟩;have i:WideAt.IsKeyLit (.int .i64 kx):=xH.key (vB d)
 by_cases e:y=kx
 ·subst e;simp only[putR,if_true];exact⟨Maps.atKey_put_same h.isMap i _ _,Maps.has_put_same h.isMap i _⟩
 ·simp only[putR,if_neg e];rw[Maps.atKey_put_other (by simpa using e),Maps.has_put_other (by simpa using e)];exact hf y hy
theorem x9{b n:Nat}(h:ma w b n g)(hb:Below b w0 w/\b<w.heap.size)(i:n<9000000000000000000)(kx:Int)(k:Nat)(c:I64 kx):
 ∃w',(Instr.mapUpdate 65 (.map (some b)) (I kx) (.func (.func k) #[] #[])).run Try.prog w=.ok () w'/\ma w' b (n+1) (putR g kx k)/\(Below b w0 w'/\b<w'.heap.size):=by
 obtain⟨w',l,j,d⟩:=agu h i kx k c;exact⟨w',l,j,⟨afm hb.1 d (Je _) (Qd hb.2),Jy hb.2 d.size⟩⟩
def ruG:Int->Option Nat:=(putR (putR (putR (putR (putR (putR (putR (putR (putR (putR (putR (putR (putR (putR (putR (putR (putR (fun _=>none) 3 28) 4 30) 5 31) 6 32) 7 33) 8 35) 9 36) 10 37) 11 39) 12 40) 13 42) 14 43) 15 44) 16 46) 17 47) 19 48) 23 49)
theorem agi (w:World):T 18 #[] w (fun e w'=>e=.returned (.map (some w.heap.size))/\ma w' w.heap.size 17 ruG/\O w w'/\w.heap.size<w'.heap.size):=by
 obtain⟨G,hG⟩:∃G,ruG=G:=⟨_,rfl⟩
 rw[hG];go_enter Try.func18,Try.ntmps18;have b1:=ma.made w;have c1:O w (w.alloc (.map #[] 0))/\w.heap.size<(w.alloc (.map #[] 0)).heap.size:=⟨Below.alloc (Below.refl _ _) (Je _) _,by simp⟩
 obtain⟨w1,e0,b0,c0⟩:=x9 b1 c1 Zd 3 28 (by unfold I64;omega);clear b1 c1;obtain⟨w2,d8,a9,b9⟩:=x9 b0 c0 Zd 4 30 (by unfold I64;omega);clear b0 c0;obtain⟨w3,d7,a8,b8⟩:=x9 a9 b9 Zd 5 31 (by unfold I64;omega);clear a9 b9;obtain⟨w4,d6,a6,b7⟩:=x9 a8 b8 Zd 6 32 (by unfold I64;omega);clear a8 b8;obtain⟨w5,d5,a5,b6⟩:=x9 a6 b7 Zd 7 33 (by unfold I64;omega);clear a6 b7;obtain⟨w6,d4,a4,b5⟩:=x9 a5 b6 Zd 8 35 (by unfold I64;omega);clear a5 b6;obtain⟨w7,d3,a3,b4⟩:=x9 a4 b5 Zd 9 36 (by unfold I64;omega);clear a4 b5;obtain⟨w8,d2,a2,b3⟩:=x9 a3 b4 Zd 10 37 (by unfold I64;omega);clear a3 b4;obtain⟨w9,d1,a1,b2⟩:=x9 a2 b3 Zd 11 39 (by unfold I64;omega);clear a2 b3;obtain⟨w10,d0,l,a0⟩:=x9 a1 b2 Zd 12 40 (by unfold I64;omega);clear a1 b2;obtain⟨w11,c9,k,y⟩:=x9 l a0 Zd 13 42 (by unfold I64;omega);clear l a0;obtain⟨w12,c8,j,x⟩:=x9 k y Zd 14 43 (by unfold I64;omega);clear k y;obtain⟨w13,c7,i,u⟩:=x9 j x Zd 15 44 (by unfold I64;omega);clear j x;obtain⟨w14,c5,h,t⟩:=x9 i u Zd 16 46 (by unfold I64;omega);clear i u;obtain⟨w15,c4,g,q⟩:=x9 h t Zd 17 47 (by unfold I64;omega);clear h t;obtain⟨w16,c3,d,o⟩:=x9 g q Zd 19 48 (by unfold I64;omega);clear g q;obtain⟨w17,c2,c,m⟩:=x9 d o Zd 23 49 (by unfold I64;omega);clear d o;have HM:=Ja c;have HB:=Ja m;clear c m;have e1:=@run_makeMap Try.prog;go_wp2;go_ret;subst hG;exact⟨rfl,HM.out,HB.out.1,HB.out.2⟩
theorem ruG_none(h:ruG c=none)(a b:Rg):aeB c a b=none:=by
 simp only[ruG,putR] at h
 by_cases d:c=23
 ·rw[if_pos d] at h;cases h
 rw[if_neg d] at h
 by_cases g:c=19
 ·rw[if_pos g] at h;cases h
 rw[if_neg g] at h
 by_cases i:c=17
 ·rw[if_pos i] at h;cases h
 rw[if_neg i] at h
 by_cases j:c=16
 ·rw[if_pos j] at h;cases h
 rw[if_neg j] at h
 by_cases k:c=15
 ·rw[if_pos k] at h;cases h
 rw[if_neg k] at h
 by_cases l:c=14
 ·rw[if_pos l] at h;cases h
 rw[if_neg l] at h
 by_cases m:c=13
 ·rw[if_pos m] at h;cases h
 rw[if_neg m] at h
 by_cases o:c=12
 ·rw[if_pos o] at h;cases h
 rw[if_neg o] at h
 by_cases q:c=11
 ·rw[if_pos q] at h;cases h
 rw[if_neg q] at h
 by_cases t:c=10
 ·rw[if_pos t] at h;cases h
 rw[if_neg t] at h
 by_cases u:c=9
 ·rw[if_pos u] at h;cases h
 rw[if_neg u] at h
 by_cases w:c=8
 ·rw[if_pos w] at h;cases h
 rw[if_neg w] at h
 by_cases x:c=7
 ·rw[if_pos x] at h;cases h
 rw[if_neg x] at h
 by_cases y:c=6
 ·rw[if_pos y] at h;cases h
 rw[if_neg y] at h
 by_cases h5:c=5
 ·rw[if_pos h5] at h;cases h
 rw[if_neg h5] at h
 by_cases h4:c=4
 ·rw[if_pos h4] at h;cases h
 rw[if_neg h4] at h
 by_cases h3:c=3
 ·rw[if_pos h3] at h;cases h
 rw[if_neg h3] at h;unfold aeB;simp only[if_neg h3,if_neg h4,if_neg h5,if_neg y,if_neg x,if_neg w,if_neg u,if_neg t,if_neg q,if_neg o,if_neg m,if_neg l,if_neg k,if_neg j,if_neg i,if_neg g,if_neg d]
theorem afD(h:ruG c=some k){a b:Rg}(d:a.ok)(hb:b.ok)(w:World):∃r,aeB c a b=some r/\T k #[.agg #[G (a.lo:Int),G (a.hi:Int)],.agg #[G (b.lo:Int),G (b.hi:Int)]] w (tr w r):=by
 simp only[ruG,putR] at h
 by_cases g:c=23
 ·rw[if_pos g] at h;cases h;subst g;exact⟨_,rfl,af0 w d hb⟩
 rw[if_neg g] at h
 by_cases i:c=19
 ·rw[if_pos i] at h;cases h;subst i;exact⟨_,rfl,afp w d hb⟩
 rw[if_neg i] at h
 by_cases j:c=17
 ·rw[if_pos j] at h;cases h;subst j;exact⟨_,rfl,lts_any w d hb⟩
 rw[if_neg j] at h
 by_cases l:c=16
 ·rw[if_pos l] at h;cases h;subst l;exact⟨_,rfl,ltu_any w d hb⟩
 rw[if_neg l] at h
 by_cases m:c=15
 ·rw[if_pos m] at h;cases h;subst m;exact⟨_,rfl,eq_any w d hb⟩
 rw[if_neg m] at h
 by_cases o:c=14
 ·rw[if_pos o] at h;cases h;subst o;exact⟨_,rfl,sar_any w d hb⟩
 rw[if_neg o] at h
 by_cases q:c=13
 ·rw[if_pos q] at h;cases h;subst q;exact⟨_,rfl,ae9 w ⟨by have:=d.1;have:=d.2;omega,by have:=d.2;omega⟩ (by have:=hb.1;have:=hb.2;omega)⟩
 rw[if_neg q] at h
 by_cases t:c=12
 ·rw[if_pos t] at h;cases h;subst t;exact⟨_,rfl,shl_any w d hb⟩
 rw[if_neg t] at h
 by_cases u:c=11
 ·rw[if_pos u] at h;cases h;subst u;exact⟨_,rfl,xor_any w d hb⟩
 rw[if_neg u] at h
 by_cases x:c=10
 ·rw[if_pos x] at h;cases h;subst x;exact⟨_,rfl,or_any w d hb⟩
 rw[if_neg x] at h
 by_cases y:c=9
 ·rw[if_pos y] at h;cases h;subst y;exact⟨_,rfl,and_any w d hb⟩
 rw[if_neg y] at h
 by_cases h8:c=8
 ·rw[if_pos h8] at h;cases h;subst h8;exact⟨_,rfl,afT w d hb⟩
 rw[if_neg h8] at h
 by_cases h7:c=7
 ·rw[if_pos h7] at h;cases h;subst h7;exact⟨_,rfl,mul_any w d hb⟩
 rw[if_neg h7] at h
 by_cases h6:c=6
 ·rw[if_pos h6] at h;cases h;subst h6;exact⟨_,rfl,sub_any w d hb⟩
 rw[if_neg h6] at h
 by_cases h5:c=5
 ·rw[if_pos h5] at h;cases h;subst h5;exact⟨_,rfl,add_any w d hb⟩
 rw[if_neg h5] at h
 by_cases h4:c=4
 ·rw[if_pos h4] at h;cases h;subst h4;exact⟨_,rfl,not_any w d hb⟩
 rw[if_neg h4] at h
 by_cases h3:c=3
 ·rw[if_pos h3] at h;cases h;subst h3;exact⟨_,rfl,neg_any w d hb⟩
 rw[if_neg h3] at h;cases h
theorem i3 (x:Int)(h:(decide (-100<=x) && decide (x<=100))=true):I64 x:=by
 simp only[Jm,decide_eq_true_eq] at h;exact⟨by omega,by omega⟩
def afN (c:Int)(a b:Nat)(j:Int):List (IOp×Value):=[(⟨1,0,0,0,a,[]⟩,F),(⟨1,1,0,0,b,[]⟩,F),(⟨c,2,0,j,0,[]⟩,F)]
def exP (c:Int)(a b:Nat)(j:Int):IProg:=rd ⟨4,2,[]⟩ ((afN c a b j).map (·.1))
theorem exOps_ok(i:3<=c/\c<=17){a b:Nat}(g:a<65536)(hb:b<65536)(h:0<=j/\j<=1):oz (afN c a b j):=by
 intro q d;simp only[afN,Jq,List.not_mem_nil,or_false] at d;rcases d with rfl|rfl|rfl
 ·exact⟨⟨i3 _ rfl,i3 _ rfl,i3 _ rfl,i3 _ rfl,g⟩,rfl,rfl⟩
 ·exact⟨⟨i3 _ rfl,i3 _ rfl,i3 _ rfl,i3 _ rfl,hb⟩,rfl,rfl⟩
 ·exact⟨⟨⟨by show _<=c;omega,by show c<=_;omega⟩,i3 _ rfl,i3 _ rfl,⟨by show _<=j;omega,by show j<=_;omega⟩,by show 0<65536;omega⟩,rfl,rfl⟩
def exJ (c:Int):Int:=if c=3∨c=4 then 0 else 1
theorem agz(d:3<=c/\c<=17)(a b:Nat):vC (exP c a b (exJ c))=0:=by
 have h:c=3∨c=4∨c=5∨c=6∨c=7∨c=8∨c=9∨c=10∨c=11∨c=12∨c=13∨c=14∨c=15∨c=16∨c=17:=Zo;rcases h with rfl|rfl|rfl|rfl|rfl|rfl|rfl|rfl|rfl|rfl|rfl|rfl|rfl|rfl|rfl<;>rfl
def exV (c:Int)(a b:Nat):Nat:=if c=8/\b=0 then 0 else aeI c a b
def exF (c:Int)(b:Nat):Bool:=decide (¬(c=8/\b=0))
def exR (c:Int)(a b:Nat):IRun:=if c=8/\b=0 then⟨0,[],4,0,v7 ⟨#[]⟩,0,0⟩ else⟨aeI c a b,[],6,0,v7 ⟨#[]⟩,0,0⟩
theorem exP_run(g:3<=c/\c<=17)(a b:Nat):i9 ⟨exP c a b (exJ c),[],[]⟩ 0 [] ⟨#[]⟩ 10=exR c a b:=by
 have d:io (exP c a b (exJ c)) 0 []=true:=by
  unfold io;rw[agz g a b];rfl
 refine(if_pos d).trans ?_;unfold exR;have h:c=3∨c=4∨c=5∨c=6∨c=7∨c=8∨c=9∨c=10∨c=11∨c=12∨c=13∨c=14∨c=15∨c=16∨c=17:=Zo;rcases h with rfl|rfl|rfl|rfl|rfl|rfl|rfl|rfl|rfl|rfl|rfl|rfl|rfl|rfl|rfl
 case inr.inr.inr.inr.inr.inl=>
  cases b with
  |zero=>rfl
  |succ b=>rfl
 all_goals rfl
theorem ex_prog{a b:Nat}(h:oz (afN c a b j)){W:World}(o:(((((w.alloc (A #[I 1,I 0,I 0,I 0,G a,F,I 1,I 1,I 0,I 0,G b,F,I c,I 2,I 0,I j,G 0,F] 27)).alloc (A #[F,N w.heap.size 3 3,I 4,I 2,F] 36)).alloc (A #[N (w.heap.size+1) 1 1] 39)).alloc (A #[I 0] 3)).alloc (A #[N (w.heap.size+1+1) 1 1,N (w.heap.size+1+1+1) 1 1,I 0,I (-1),F,F] 44))=W):
 O w W/\ProgIn W W.heap.size ⟨N (w.heap.size+1+1) 1 1,N (w.heap.size+1+1+1) 1 1,F,F⟩ (exP c a b j)/\Q W (w.heap.size+1+1+1+1) #[N (w.heap.size+1+1) 1 1,N (w.heap.size+1+1+1) 1 1,I 0,I (-1),F,F] 44:=by
 have hb:O w (((((w.alloc (A #[I 1,I 0,I 0,I 0,G a,F,I 1,I 1,I 0,I 0,G b,F,I c,I 2,I 0,I j,G 0,F] 27)).alloc (A #[F,N w.heap.size 3 3,I 4,I 2,F] 36)).alloc (A #[N (w.heap.size+1) 1 1] 39)).alloc (A #[I 0] 3)).alloc (A #[N (w.heap.size+1+1) 1 1,N (w.heap.size+1+1+1) 1 1,I 0,I (-1),F,F] 44)):=(((((Below.refl _ _).alloc (Je _) _).alloc Zs _).alloc Zt _).alloc Zt _).alloc Zt _;have m:Q (((((w.alloc (A #[I 1,I 0,I 0,I 0,G a,F,I 1,I 1,I 0,I 0,G b,F,I c,I 2,I 0,I j,G 0,F] 27)).alloc (A #[F,N w.heap.size 3 3,I 4,I 2,F] 36)).alloc (A #[N (w.heap.size+1) 1 1] 39)).alloc (A #[I 0] 3)).alloc (A #[N (w.heap.size+1+1) 1 1,N (w.heap.size+1+1+1) 1 1,I 0,I (-1),F,F] 44)) w.heap.size ((afN c a b j).flatMap zU).toArray 27:=zB (zB (zB (zB (zI rfl))));have d:Q (((((w.alloc (A #[I 1,I 0,I 0,I 0,G a,F,I 1,I 1,I 0,I 0,G b,F,I c,I 2,I 0,I j,G 0,F] 27)).alloc (A #[F,N w.heap.size 3 3,I 4,I 2,F] 36)).alloc (A #[N (w.heap.size+1) 1 1] 39)).alloc (A #[I 0] 3)).alloc (A #[N (w.heap.size+1+1) 1 1,N (w.heap.size+1+1+1) 1 1,I 0,I (-1),F,F] 44)) (w.heap.size+1) #[F,N w.heap.size 3 3,I 4,I 2,F] 36:=zB (zB (zB (zI Zs)));have k:Q (((((w.alloc (A #[I 1,I 0,I 0,I 0,G a,F,I 1,I 1,I 0,I 0,G b,F,I c,I 2,I 0,I j,G 0,F] 27)).alloc (A #[F,N w.heap.size 3 3,I 4,I 2,F] 36)).alloc (A #[N (w.heap.size+1) 1 1] 39)).alloc (A #[I 0] 3)).alloc (A #[N (w.heap.size+1+1) 1 1,N (w.heap.size+1+1+1) 1 1,I 0,I (-1),F,F] 44)) (w.heap.size+1+1) #[N (w.heap.size+1) 1 1] 39:=zB (zB (zI Zs));have i:Q (((((w.alloc (A #[I 1,I 0,I 0,I 0,G a,F,I 1,I 1,I 0,I 0,G b,F,I c,I 2,I 0,I j,G 0,F] 27)).alloc (A #[F,N w.heap.size 3 3,I 4,I 2,F] 36)).alloc (A #[N (w.heap.size+1) 1 1] 39)).alloc (A #[I 0] 3)).alloc (A #[N (w.heap.size+1+1) 1 1,N (w.heap.size+1+1+1) 1 1,I 0,I (-1),F,F] 44)) (w.heap.size+1+1+1) #[I 0] 3:=zB (zI Zs);have g:Q (((((w.alloc (A #[I 1,I 0,I 0,I 0,G a,F,I 1,I 1,I 0,I 0,G b,F,I c,I 2,I 0,I j,G 0,F] 27)).alloc (A #[F,N w.heap.size 3 3,I 4,I 2,F] 36)).alloc (A #[N (w.heap.size+1) 1 1] 39)).alloc (A #[I 0] 3)).alloc (A #[N (w.heap.size+1+1) 1 1,N (w.heap.size+1+1+1) 1 1,I 0,I (-1),F,F] 44)) (w.heap.size+1+1+1+1) #[N (w.heap.size+1+1) 1 1,N (w.heap.size+1+1+1) 1 1,I 0,I (-1),F,F] 44:=zI Zs;rw[o] at hb m d k i g;have q:=lt_of_block g;refine⟨hb,⟨?_,?_,yN.nil,yN.nil,i3 _ rfl,i3 _ rfl⟩,g⟩
 ·refine yN.one Zo ⟨N (w.heap.size+1) 1 1,zA k Zs,yN.one Zo ?_⟩;exact⟨zA d Zs,zA d Zs,⟨i3 _ rfl,i3 _ rfl⟩,F,N w.heap.size 3 3,F,zA d Zs,zA d Zs,zA d Zs,yN.nil,agm (l:=afN c a b j) m Zo (eV h _ _) (by show 3<=1000000;decide),yN.nil⟩
 ·exact yN.one Zo ⟨zA i Zs,i3 _ rfl⟩
theorem exR_form (c:Int)(a b:Nat):∃k:Nat,exR c a b=⟨exV c a b,[],k,0,v7 ⟨#[]⟩,0,0⟩/\((k:Int)==6)=exF c b:=by
 unfold exR exV exF
 by_cases h:c=8/\b=0
 ·rw[if_pos h,if_pos h];exact⟨4,rfl,by rw[decide_eq_false (fun k=>k h)];rfl⟩
 ·rw[if_neg h,if_neg h];exact⟨6,rfl,by rw[decide_eq_true h];rfl⟩
theorem agd(hc:3<=c/\c<=17){a b:Nat}(ha:a<65536)(hb:b<65536)(w:World):
 T 68 #[I c,G a,G b] w (fun e w'=>e=.returned (.tuple #[G (exV c a b:Int),.bool (exF c b)])/\O w w'):=by
 obtain⟨S,hS⟩:∃S,y9 (v7 ⟨#[]⟩)=S:=⟨_,rfl⟩
 obtain⟨k,hk,hf⟩:=exR_form c a b;have y:=exP_run hc a b;rw[hk] at y;have a0:=exOps_ok hc ha hb (j:=exJ c) (by unfold exJ;split<;>omega);obtain⟨v,hv⟩:∃v,exV c a b=v:=⟨_,rfl⟩
 obtain⟨f,a2⟩:∃f,exF c b=f:=⟨_,rfl⟩
 rw[hv] at y ⊢;rw[a2] at hf ⊢
 have a3:∀(j:Int),exJ c=j->∀(W:World),(((((w.alloc (A #[I 1,I 0,I 0,I 0,G a,F,I 1,I 1,I 0,I 0,G b,F,I c,I 2,I 0,I j,G 0,F] 27)).alloc (A #[F,N w.heap.size 3 3,I 4,I 2,F] 36)).alloc (A #[N (w.heap.size+1) 1 1] 39)).alloc (A #[I 0] 3)).alloc (A #[N (w.heap.size+1+1) 1 1,N (w.heap.size+1+1+1) 1 1,I 0,I (-1),F,F] 44))=W->O w W/\Q W (w.heap.size+1+1+1+1) #[N (w.heap.size+1+1) 1 1,N (w.heap.size+1+1+1) 1 1,I 0,I (-1),F,F] 44/\T 82 #[.agg #[N (w.heap.size+1+1) 1 1,N (w.heap.size+1+1+1) 1 1,I 0,I (-1),F,F],I 0,F,.string ⟨#[]⟩,.agg #[F,F],I 10] W (fun e w'=>∃oa1 oc1,e=.returned (.agg #[G v,.slice oa1 0 oc1,I k,G 0,.string S,I 0,I 0])/\O W w'):=fun j hj W hW=>by
  subst hj;obtain⟨h1,h2,h3⟩:=ex_prog a0 hW;refine⟨h1,h3,?_⟩;have:=(mX h2 (uL (t:=⟨4,2,[]⟩) (by show 3<=2000000;decide) Zd) 0 (i3 _ rfl) yN.nil ⟨#[]⟩ Zd yN.nil yN.nil 10 (i3 _ rfl) Zd).mono (fun e w' h=>h.open);rw[y] at this;rw[<-hS];exact this.mono (fun e w' ⟨oa1,oc1,h1,_,h3⟩=>⟨oa1,oc1,h1,h3⟩)
 have x:=Ja a3;have HF:=Ja hf;obtain⟨q3,h3⟩:∃q,(c==3)=q:=⟨_,rfl⟩
 obtain⟨q4,h4⟩:∃q,(c==4)=q:=⟨_,rfl⟩
 have hj:exJ c=if q3||q4 then 0 else 1:=by
  unfold exJ;rw[<-h3,<-h4];simp only[Bool.or_eq_true,beq_iff_eq]
 have HJ:=Ja hj;clear hj a3 hf y a0 hv a2 hk hS ha hb hc;go_enter Try.func68,Try.ntmps68;cases q3;cases q4
 ·go_upto_region 5 with(go_at_call 999999;skip)
  obtain⟨P1,i⟩:∃P1,(((((w.alloc (A #[I 1,I 0,I 0,I 0,G a,F,I 1,I 1,I 0,I 0,G b,F,I c,I 2,I 0,I 1,G 0,F] 27)).alloc (A #[F,N w.heap.size 3 3,I 4,I 2,F] 36)).alloc (A #[N (w.heap.size+1) 1 1] 39)).alloc (A #[I 0] 3)).alloc (A #[N (w.heap.size+1+1) 1 1,N (w.heap.size+1+1+1) 1 1,I 0,I (-1),F,F] 44))=P1:=⟨_,rfl⟩
  have d:=Ja (x.out 1 (HJ.out) P1 i);rw[i];clear i x HJ;have x0:=K0 d.out.2.1;have x1:=K1 d.out.2.1;have x2:=K2 d.out.2.1;have x3:=K3 d.out.2.1;have x4:=K4 d.out.2.1;have x5:=K5 d.out.2.1;go_upto_region 6 with(go_at_call 82;go_must (refine(d.out.2.2).mono ?_;rintro e w1 ⟨oa1,oc1,rfl,hb⟩))
  clear x0 x1 x2 x3 x4 x5;have hx:=zI (W:=w1) (o:=A #[G v,.slice oa1 0 oc1,I k,G 0,.string S,I 0,I 0] 134) rfl;have u:=(Below.refl w1.heap.size w1).alloc (Je _) (A #[G v,.slice oa1 0 oc1,I k,G 0,.string S,I 0,I 0] 134);have m:=(d.out.1.trans ((hb.trans (u.mono hb.size)).mono d.out.1.size))
  generalize hW:w1.alloc (A #[G v,.slice oa1 0 oc1,I k,G 0,.string S,I 0,I 0] 134)=R1 at *;generalize hc:w1.heap.size=r1 at *;have g:=Ja (Jb m hx);clear hb hx u m hW hc d;have y0:=K0 g.out.2;have y2:=K2 g.out.2;have l:=lt_of_block g.out.2;have HC:=Ja (show ∀W',O R1 W'->U W' r1 0 (G v)/\U W' r1 2 (I k) from fun W' hb=>⟨(hb.cell (p:=⟨r1,0,none⟩) l).trans y0,(hb.cell (p:=⟨r1,2,none⟩) l).trans y2⟩);have a1:=HF.out
  go_region_held3 (fun w'=>U w' r1 0 (G v)/\U w' r1 2 (I k)) ((refine HC.out _ ?_;repeat' (first|with_reducible exact Below.refl _ _|with_reducible assumption|with_reducible refine Below.drew ?_))) (fail)
  all_goals go_wp2
  all_goals refine bodyPost_ret (v:=.tuple #[G v,.bool f]) (by simp[results,Try.results68,go_sem]) rfl ?_
  all_goals (refine⟨rfl,g.out.1.trans (Below.mono (B:=R1.heap.size) ?_ g.out.1.size)⟩;repeat' (first|with_reducible exact Below.refl _ _|with_reducible assumption|with_reducible refine Below.drew ?_))
 ·go_upto_region 5 with(go_at_call 999999;skip)
  obtain⟨P1,i⟩:∃P1,(((((w.alloc (A #[I 1,I 0,I 0,I 0,G a,F,I 1,I 1,I 0,I 0,G b,F,I c,I 2,I 0,I 0,G 0,F] 27)).alloc (A #[F,N w.heap.size 3 3,I 4,I 2,F] 36)).alloc (A #[N (w.heap.size+1) 1 1] 39)).alloc (A #[I 0] 3)).alloc (A #[N (w.heap.size+1+1) 1 1,N (w.heap.size+1+1+1) 1 1,I 0,I (-1),F,F] 44))=P1:=⟨_,rfl⟩
  have d:=Ja (x.out 0 (HJ.out) P1 i);rw[i];clear i x HJ;have x0:=K0 d.out.2.1;have x1:=K1 d.out.2.1;have x2:=K2 d.out.2.1;have x3:=K3 d.out.2.1;have x4:=K4 d.out.2.1;have x5:=K5 d.out.2.1;go_upto_region 6 with(go_at_call 82;go_must (refine(d.out.2.2).mono ?_;rintro e w1 ⟨oa1,oc1,rfl,hb⟩))
  clear x0 x1 x2 x3 x4 x5;have hx:=zI (W:=w1) (o:=A #[G v,.slice oa1 0 oc1,I k,G 0,.string S,I 0,I 0] 134) rfl;have u:=(Below.refl w1.heap.size w1).alloc (Je _) (A #[G v,.slice oa1 0 oc1,I k,G 0,.string S,I 0,I 0] 134);have m:=(d.out.1.trans ((hb.trans (u.mono hb.size)).mono d.out.1.size))
  generalize hW:w1.alloc (A #[G v,.slice oa1 0 oc1,I k,G 0,.string S,I 0,I 0] 134)=R1 at *;generalize hc:w1.heap.size=r1 at *;have g:=Ja (Jb m hx);clear hb hx u m hW hc d;have y0:=K0 g.out.2;have y2:=K2 g.out.2;have l:=lt_of_block g.out.2;have HC:=Ja (show ∀W',O R1 W'->U W' r1 0 (G v)/\U W' r1 2 (I k) from fun W' hb=>⟨(hb.cell (p:=⟨r1,0,none⟩) l).trans y0,(hb.cell (p:=⟨r1,2,none⟩) l).trans y2⟩);have a1:=HF.out
  go_region_held3 (fun w'=>U w' r1 0 (G v)/\U w' r1 2 (I k)) ((refine HC.out _ ?_;repeat' (first|with_reducible exact Below.refl _ _|with_reducible assumption|with_reducible refine Below.drew ?_))) (fail)
  all_goals go_wp2
  all_goals refine bodyPost_ret (v:=.tuple #[G v,.bool f]) (by simp[results,Try.results68,go_sem]) rfl ?_
  all_goals (refine⟨rfl,g.out.1.trans (Below.mono (B:=R1.heap.size) ?_ g.out.1.size)⟩;repeat' (first|with_reducible exact Below.refl _ _|with_reducible assumption|with_reducible refine Below.drew ?_))
 ·go_upto_region 5 with(go_at_call 999999;skip)
  obtain⟨P1,i⟩:∃P1,(((((w.alloc (A #[I 1,I 0,I 0,I 0,G a,F,I 1,I 1,I 0,I 0,G b,F,I c,I 2,I 0,I 0,G 0,F] 27)).alloc (A #[F,N w.heap.size 3 3,I 4,I 2,F] 36)).alloc (A #[N (w.heap.size+1) 1 1] 39)).alloc (A #[I 0] 3)).alloc (A #[N (w.heap.size+1+1) 1 1,N (w.heap.size+1+1+1) 1 1,I 0,I (-1),F,F] 44))=P1:=⟨_,rfl⟩
  have d:=Ja (x.out 0 (HJ.out) P1 i);rw[i];clear i x HJ;have x0:=K0 d.out.2.1;have x1:=K1 d.out.2.1;have x2:=K2 d.out.2.1;have x3:=K3 d.out.2.1;have x4:=K4 d.out.2.1;have x5:=K5 d.out.2.1;go_upto_region 6 with(go_at_call 82;go_must (refine(d.out.2.2).mono ?_;rintro e w1 ⟨oa1,oc1,rfl,hb⟩))
  clear x0 x1 x2 x3 x4 x5;have hx:=zI (W:=w1) (o:=A #[G v,.slice oa1 0 oc1,I k,G 0,.string S,I 0,I 0] 134) rfl;have u:=(Below.refl w1.heap.size w1).alloc (Je _) (A #[G v,.slice oa1 0 oc1,I k,G 0,.string S,I 0,I 0] 134);have m:=(d.out.1.trans ((hb.trans (u.mono hb.size)).mono d.out.1.size))
  generalize hW:w1.alloc (A #[G v,.slice oa1 0 oc1,I k,G 0,.string S,I 0,I 0] 134)=R1 at *;generalize hc:w1.heap.size=r1 at *;have g:=Ja (Jb m hx);clear hb hx u m hW hc d;have y0:=K0 g.out.2;have y2:=K2 g.out.2;have l:=lt_of_block g.out.2;have HC:=Ja (show ∀W',O R1 W'->U W' r1 0 (G v)/\U W' r1 2 (I k) from fun W' hb=>⟨(hb.cell (p:=⟨r1,0,none⟩) l).trans y0,(hb.cell (p:=⟨r1,2,none⟩) l).trans y2⟩);have a1:=HF.out
  go_region_held3 (fun w'=>U w' r1 0 (G v)/\U w' r1 2 (I k)) ((refine HC.out _ ?_;repeat' (first|with_reducible exact Below.refl _ _|with_reducible assumption|with_reducible refine Below.drew ?_))) (fail)
  all_goals go_wp2
  all_goals refine bodyPost_ret (v:=.tuple #[G v,.bool f]) (by simp[results,Try.results68,go_sem]) rfl ?_
  all_goals (refine⟨rfl,g.out.1.trans (Below.mono (B:=R1.heap.size) ?_ g.out.1.size)⟩;repeat' (first|with_reducible exact Below.refl _ _|with_reducible assumption|with_reducible refine Below.drew ?_))
end Go.Proofs.Ytoahcpkibpomcaa
