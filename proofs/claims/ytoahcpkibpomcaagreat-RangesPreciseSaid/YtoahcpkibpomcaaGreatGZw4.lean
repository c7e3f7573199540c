/- Part of a proof. -/
import Derived.Test.YtoahcpkibpomcaaGreatGZl0
set_option linter.all false
set_option maxHeartbeats 4000000
set_option maxRecDepth 100000
namespace Go.Proofs.YtoahcpkibpomcaaGreat
open Go.RowKit
variable {blocks:List IBlk}{t:ITerm}{k:Nat}{w w' w0:World}{g:Int->Option Nat}{c:Int}
theorem edge_bad{e:IEdge}(c:t.to[k]? =some e)(h:uM blocks e=false):ro blocks t=false:=by
 unfold ro
 have:t.to.all (uM blocks)=false:=by
  rw[Bool.eq_false_iff];intro h2;rw[Oe.1 h2 e (Ji c)] at h;cases h
 rw[this];rfl
theorem term_any{B C:Nat}{cs:Array Value}{d0:Value}(b9:wX w B d0 blocks)(hB:B<=w.heap.size)(hC:L w C cs 173)(h6:cs[6]? =some d0)(t:ITerm)(ht:I64 t.kind/\I64 t.a){tv:Value}(b0:wH w B tv t.to):
 A 139 #[Q C,.agg #[I t.kind,I t.a,tv]] w (ym w (ro blocks t)):=by
 obtain⟨fa,fc,rfl,e6,e5⟩:=b9.form;obtain⟨ta,tc,rfl,e2,d7⟩:=b0.form;have g3:blocks.length<=9223372036854775807:=Zo;have f9:t.to.length<=9223372036854775807:=Zo;obtain⟨tk,b1⟩:∃x,t.kind=x:=⟨_,rfl⟩
 obtain⟨tA,b2⟩:∃x,t.a=x:=⟨_,rfl⟩
 have f5:=Ja b9;have f3:=Ja b0;obtain⟨res,a0⟩:∃x,ro blocks t=x:=⟨_,rfl⟩
 rw[a0,b1,b2];have u:=Ja (show ro blocks t=res/\t.kind=tk/\t.a=tA from⟨a0,b1,b2⟩);have c8:O w (w.alloc (G #[I tk,I tA,.slice ta t.to.length tc] 82)):=(Below.refl _ _).alloc (Je _) _;have a9:=zI (W:=w) (o:=G #[I tk,I tA,.slice ta t.to.length tc] 82) rfl;have i:=zB (o:=G #[I tk,I tA,.slice ta t.to.length tc] 82) hC;clear b9 b0 a0 b1 b2 hC e6 e5 e2 d7;go_enter Tryz.func139,Tryz.ntmps139;go_upto_region 1 with fail;generalize f2:w.alloc (G #[I tk,I tA,.slice ta t.to.length tc] 82)=W0 at *;have y2:=K2 a9;have c:=Ja c8;have d1:=Ja a9;have d3:=Ja i;clear f2 c8 a9 i;go_wp2
 go_loopw [10] (fun kv wx=>∃k:Nat,k<=t.to.length/\kv=I k/\Hid (O W0 wx/\(t.to.take k).all (uM blocks)=true)) (fun kv _=>t.to.length-(intOf kv).toNat)
 case atStart=>exact⟨0,Jt _,rfl,Ja ⟨Below.refl _ _,by rfl⟩⟩
 case round=>
  obtain⟨k,hk,rfl,HK⟩:=hrel
  by_cases a6:k<t.to.length
  ·have d4:(k:Int)<t.to.length:=Zo;have d2:=Ja a6;obtain⟨e,he⟩:∃e,t.to[k]? =some e:=⟨_,Jd a6⟩
   obtain⟨b,oo,rfl,hb,i,b4,av,c7,c9⟩:=f3.out.get he;obtain⟨aa,ac,rfl,f0,e8⟩:=c9.form;have g6:e.args.length<=9223372036854775807:=Zo;have b8:O w wr:=c.out.trans (HK.out.1.mono c.out.size);obtain⟨eb,a7⟩:∃x,e.block=x:=⟨_,rfl⟩
   rw[a7] at i;have e0:=zV b8 (Jy hb hB) i;have e1:=zV b8 (Jy hb hB) c7;have d:=zH HK.out.1 d3.out (lt_of_block d3.out);have HT:=Ja (show(t.to.take (k+1)).all (uM blocks)=((t.to.take k).all (uM blocks) && uM blocks e)/\(uM blocks e=false->ro blocks t=false) from⟨xX (uM blocks) he,fun h=>edge_bad he h⟩);have HE:=Ja a7;have c1:I64 eb:=a7 ▸ b4;obtain⟨g5,g4⟩:=c1;have c3:=zB (o:=G #[I eb,.slice aa e.args.length ac] 79) d;have a8:=zI (W:=wr) (o:=G #[I eb,.slice aa e.args.length ac] 79) rfl;have c2:=HK.out.1.alloc (HK.out.1.size) (G #[I eb,.slice aa e.args.length ac] 79);clear i c7 c9 he d a6 f0 e8 b4 a7 y2;go_upto_region 4 with fail;generalize f1:wr.alloc (G #[I eb,.slice aa e.args.length ac] 79)=W1 at *;generalize wr.heap.size=b6 at *;have f7:=K0 a8;have f6:=K1 a8;have zc:T W1 C 6 (.slice fa blocks.length fc):=zA c3 h6;have y:=Ja c2;clear f1 a8 c3 c2 b8 e0 e1
   by_cases g1:1<=eb
   ·have t1:decide (eb<1)=false:=decide_eq_false Zo;obtain⟨j,rfl⟩:∃j:Nat,eb=(j:Int):=⟨eb.toNat,by omega⟩
    by_cases g2:j<blocks.length
    ·have t2:decide ((blocks.length:Int)<=(j:Int))=false:=decide_eq_false Zo;have d5:decide (blocks.length<=j)=false:=decide_eq_false Zo;have d6:(j:Int)<(blocks.length:Int):=Zo;obtain⟨bx,b5⟩:∃bx,blocks[j]? =some bx:=⟨_,Jd g2⟩
     obtain⟨fb,fo,rfl,e7,_,_,_,pv,ov,f8,c5,_,_,c4,_⟩:=f5.out.get b5;obtain⟨pa,pc,rfl,e4,e3⟩:=c4.form;have g0:bx.params.length<=9223372036854775807:=Zo;have b7:O w W1:=c.out.trans (y.out.mono c.out.size);have p0:=zV b7 (Jy e7 hB) c5;obtain⟨q3,b3⟩:∃q,decide (e.args.length=bx.params.length)=q:=⟨_,rfl⟩
     have t3:((e.args.length:Int) !=(bx.params.length:Int))=!q3:=by
      rw[bne,x9 (q:=q3) (zZ b3 Zo)]
     have g:uM blocks e=q3:=by
      unfold uM xz;rw[HE.out,decide_eq_true g1,decide_eq_true d6,Ni,Jj,b5,Ot,b3];rfl
     have l:=Ja g;clear b5 c5 c4 e4 e3 b7 g b3 g2
     cases q3 with
     |true=>
      go_quiet (fail);go_wp2;go_roundw
      case rel=>exact⟨k+1,d2.out,by go_num,Ja ⟨yC y.out,by rw[HT.out.1,HK.out.2,l.out];rfl⟩⟩
      case measure=>have:=d2.out;simp[intOf];omega
     |false=>
      go_quiet (fail);go_wp2;go_ret;exact⟨uz (u.out.1.symm.trans (HT.out.2 l.out)),yC (c.out.trans (y.out.mono c.out.size))⟩
    ·have t2:decide ((blocks.length:Int)<=(j:Int))=true:=decide_eq_true Zo;have d5:decide (blocks.length<=j)=true:=decide_eq_true Zo
     have g:uM blocks e=false:=by
      unfold uM;rw[HE.out,decide_eq_false (show ¬(j:Int)<(blocks.length:Int) by omega),Uh];rfl
     have l:=Ja g;clear g g2;go_quiet (fail);go_wp2;go_ret;exact⟨uz (u.out.1.symm.trans (HT.out.2 l.out)),yC (c.out.trans (y.out.mono c.out.size))⟩
   ·have t1:decide (eb<1)=true:=decide_eq_true Zo
    have g:uM blocks e=false:=by
     unfold uM;rw[HE.out,decide_eq_false g1];rfl
    have l:=Ja g;clear g g1;go_quiet (fail);go_wp2;go_ret;exact⟨uz (u.out.1.symm.trans (HT.out.2 l.out)),yC (c.out.trans (y.out.mono c.out.size))⟩
  ·obtain rfl:k=t.to.length:=by omega
   have d4:¬(t.to.length:Int)<t.to.length:=Zo;have d:=zH HK.out.1 d1.out (lt_of_block d1.out);have z0:=K0 d;have z1:=K1 d;have z2:=K2 d;have c0:t.to.all (uM blocks)=true:=by have:=HK.out.2;rwa [Nl] at this
   have HR:Hid ((if tk=1 then decide (t.to.length=1) && decide (tA=0)
    else if tk=2 then decide (t.to.length=2)
    else if tk=3 then decide (1<=t.to.length)
    else if tk=4 then decide (t.to.length=0)
    else if tk=5 then decide (t.to.length=0) && decide (tA=0)
    else false)=res):=by
    have h:=u.out;unfold ro at h;rw[c0,Bool.true_and,h.2.1,h.2.2] at h;exact h.1
   have m:=Ja (show O w wr from c.out.trans (HK.out.1.mono c.out.size));obtain⟨a1,h1⟩:∃q,decide (t.to.length=1)=q:=⟨_,rfl⟩
   obtain⟨a2,h2⟩:∃q,decide (t.to.length=2)=q:=⟨_,rfl⟩
   obtain⟨a3,h3⟩:∃q,decide (1<=t.to.length)=q:=⟨_,rfl⟩
   obtain⟨a4,h4⟩:∃q,decide (t.to.length=0)=q:=⟨_,rfl⟩
   obtain⟨a5,h5⟩:∃q,decide (tA=0)=q:=⟨_,rfl⟩
   rw[h1,h2,h3,h4,h5] at HR;have t1:((t.to.length:Int)==1)=a1:=x9 (zZ h1 Zo);have t2:((t.to.length:Int)==2)=a2:=x9 (zZ h2 Zo);have t3:decide ((1:Int)<=(t.to.length:Int))=a3:=zZ h3 Zo;have t4:((t.to.length:Int)==0)=a4:=x9 (zZ h4 Zo);have t5:=x9 h5;clear c0 d h1 h2 h4 h5 y2 a6
   by_cases k1:tk=1
   ·subst k1;cases a1<;>cases a5
    all_goals go_wp2
    all_goals go_ret
    all_goals exact⟨uz (HR.out.symm.trans rfl),m.out⟩
   by_cases k2:tk=2
   ·subst k2;go_wp2;go_ret;exact⟨uz (HR.out.symm.trans rfl),m.out⟩
   by_cases k3:tk=3
   ·subst k3;go_wp2;go_ret;exact⟨uz (HR.out.symm.trans rfl),m.out⟩
   by_cases k4:tk=4
   ·subst k4;go_wp2;go_ret;exact⟨uz (HR.out.symm.trans rfl),m.out⟩
   by_cases k5:tk=5
   ·subst k5;cases a4<;>cases a5
    all_goals go_wp2
    all_goals go_ret
    all_goals exact⟨uz (HR.out.symm.trans rfl),m.out⟩
   have f4:Hid (false=res):=by
    have:=HR.out;rw[if_neg k1,if_neg k2,if_neg k3,if_neg k4,if_neg k5] at this;exact this
   have u1:(tk==1)=false:=by rw[beq_eq_false_iff_ne];exact k1
   have u2:(tk==2)=false:=by rw[beq_eq_false_iff_ne];exact k2
   have u3:(tk==3)=false:=by rw[beq_eq_false_iff_ne];exact k3
   have u4:(tk==4)=false:=by rw[beq_eq_false_iff_ne];exact k4
   have u5:(tk==5)=false:=by rw[beq_eq_false_iff_ne];exact k5
   clear k1 k2 k3 k4 k5 HR;go_wp2;go_ret;exact⟨uz f4.out.symm,m.out⟩
theorem abK (M:MS)(n:Nat):(M.block n).f[M.f.length]? =some (wJ M.next n):=by
 show(M.f++ [_])[M.f.length]? =_
 rw[Nc (Je _),Qy];rfl
theorem abg (M:MS)(n:Nat):m6 M.f (M.block n).f:=abj _ _
theorem gL{v:Int}(h:v∈mE t):v=t.a∨v∈(t.to.map (·.args)).flatten:=by
 unfold mE at h;rcases Jl.1 h with h|h
 ·split at h
  ·exact .inl (Jo.1 h)
  ·cases h
 ·exact .inr h
theorem gI {p:IProg}{E:ME}{g:MS->MS}(a4:so p g){n:Nat}(hn:2<=n/\n<=4):so p (xi E g n):=fun M O P pl h hO hnP hPO=>by
 obtain⟨a1,a2⟩:=h.any E hO;have ag:=yU E M;have ax:=aaW E M;have ac:(zJ E M).2.cur=M.cur:=ag.cur;have al:(zJ E M).2.f.length=M.f.length:=ag.len;have av:=ag.pre;unfold xi;simp only;generalize c3:zJ E M=c at *;obtain⟨x,M0⟩:=c;simp only at a1 a2 ac al av ax ⊢;obtain⟨b1,b2,b3,b4,b5⟩:=gV n M0 O P pl a1;have bl:=tB n M0;have b6:M0.cur<M0.f.length:=a1.curl;have c1:aaz p ((xE n M0).block 1) _ _ _:=b1.block (n:=1) (u:=M0.cur) (by rw[bl];omega) Zd;have a7:(pl++List.replicate n M0.cur)++ [M0.cur]=pl++List.replicate (n+1) M0.cur:=by rw[List.replicate_succ',Nv]
 rw[a7] at c1;have c2:pl.length=M0.f.length:=a1.len
 have j:∀i,M0.f.length<=i->i<=M0.f.length+n->(pl++List.replicate (n+1) M0.cur)[i]? =some M0.cur:=fun i h1 h2=>by
  rw[Nc Zo,Nm,if_pos Zo]
 have a5:((xE n M0).block 1).f[M0.f.length+n]? =some (wJ (xE n M0).next 1):=by rw[<-bl];exact abK _ 1
 have cx:m6 M0.f ((xE n M0).block 1).f:=b4.trans (abg _ 1);have cc:((xE n M0).block 1).cur=M0.cur:=b2;have cv:((xE n M0).block 1).vals=M0.vals:=b3
 have b0:∀k,k<n->∃b,((xE n M0).block 1).f[M0.f.length+k]? =some b/\b.params.length=0:=fun k hk=>by
  obtain⟨b,hb,y⟩:=b5 k hk;obtain⟨b',c0,b8,_⟩:=abg (xE n M0) 1 _ _ hb;exact⟨b',c0,by rw[b8];exact y⟩
 have a3:(fun i=>(O i∨(M0.f.length<=i/\i<M0.f.length+n))∨i=(xE n M0).f.length) ((xE n M0).block 1).cur:=.inl (.inl (by rw[cc,ac];exact hO));have a6:¬P M0.cur:=by rw[ac];exact hnP
 generalize (xE n M0).block 1=M2 at *
 have e1:=c1.endB (t:=⟨if 2<n then 3 else 2,x,xk M0.f.length n⟩) a3 (by
  have hl:(xk M0.f.length n).length=n:=by unfold xk;simp
  unfold gR;simp only[hl]
  by_cases h2:2<n
  ·rw[if_pos h2];simp;omega
  ·rw[if_neg h2];simp;omega) (by unfold xk;simp;omega) (fun e he=>by
  obtain⟨k,hk,rfl⟩:=gH he;obtain⟨b,hb,y⟩:=b0 k hk
  exact⟨M0.f.length+k,M0.cur,b,rfl,by omega,hb,by rw[y];rfl,j _ Zo Zo,by rw[cc];exact .refl _⟩) (fun v hv=>by
  have:v∈M2.vals:=by
   rcases gL hv with rfl|hv
   ·rw[cv];exact a2
   ·simp only[gm] at hv;cases hv
  exact c1.at this) (P':=fun i=>P i∨(0=0/\i=M0.f.length+n)) (by
  rw[cc];rintro((e|e)|e)
  ·exact a6 e
  ·omega
  ·rw[bl] at e;omega) (fun i e=>by
  rcases e with(e|e)|e
  ·exact .inl (.inl e)
  ·refine .inr ⟨⟨((M0.f.length+(i-M0.f.length):Nat):Int),[]⟩,?_,by show((M0.f.length+(i-M0.f.length):Nat):Int)=_;omega⟩;unfold xk;exact Nu.2 ⟨i-M0.f.length,Ol.2 Zo,rfl⟩
  ·exact .inl (.inr ⟨rfl,by rw[e,bl]⟩))
 have ex:=cx.trans (xd c1 a3 ⟨if 2<n then 3 else 2,x,xk M0.f.length n⟩);have ev:(M2.endB ⟨if 2<n then 3 else 2,x,xk M0.f.length n⟩).vals=M0.vals:=cv;have ec:(M2.endB ⟨if 2<n then 3 else 2,x,xk M0.f.length n⟩).cur=M0.cur:=cc;obtain⟨bj',w,o,_⟩:=(xd c1 a3 ⟨if 2<n then 3 else 2,x,xk M0.f.length n⟩) _ _ a5;rw[ev];generalize M2.endB ⟨if 2<n then 3 else 2,x,xk M0.f.length n⟩=M3 at *
 have e2:aaz p M3 (fun i=>(O i/\i≠M0.cur)∨(M0.f.length+0<=i/\i<=M0.f.length+n)) (fun i=>P i∨(0=0/\i=M0.f.length+n)) (pl++List.replicate (n+1) M0.cur):=e1.weak (fun i=>by
  rw[cc,bl];constructor
  ·rintro⟨(e|e)|e,e2⟩
   ·exact .inl ⟨e,e2⟩
   ·exact .inr Zo
   ·exact .inr Zo
  ·rintro(e|e)
   ·exact⟨.inl (.inl e.1),e.2⟩
   ·by_cases e3:i=M0.f.length+n
    ·exact⟨.inr e3,by omega⟩
    ·exact⟨.inl (.inr Zo),by omega⟩) (fun i e=>e)
 have d:∀v∈M0.vals,∃q,Kn M3.f (pl++List.replicate (n+1) M0.cur) v M0.cur q:=fun v hv=>by
  obtain⟨b,hb⟩:=a1.get;exact⟨_,(a1.known v hv b hb).ext ex (Qb _ _) (Og _)⟩
 obtain⟨pl',d1,d2,d3,d4⟩:=fA (E:=E) (n:=n) (V:=M0.vals) a4 (fun i hi=>by rw[al];exact h.lt i hi) hPO a6 b6 n 0 M3 _ Zo e2 ev d j ⟨bj',w,by rw[o];simp[wJ]⟩;generalize uV E g M0.f.length (M0.f.length+n) M0.vals.length n 0 M3=M4 at *;obtain⟨bk,l,a9,_⟩:=d3 _ _ w;have m:bk.params=[((xE n M0).next:Int)]:=by rw[a9,o];simp[wJ]
 have a8:((M4.f.getD (M0.f.length+n) ⟨[],[],⟨0,0,[]⟩⟩).params).getD 0 0=((xE n M0).next:Int):=by
  have e:M4.f.getD (M0.f.length+n) ⟨[],[],⟨0,0,[]⟩⟩=bk:=by rw[Jj,l];rfl
  rw[e,m];rfl
 rw[a8];have b7:pl'[M0.f.length+n]? =some M0.cur:=aaS d1 (j _ Zo Zo);have a0:Abv pl' M0.cur (M0.f.length+n):=.up b7 Zo (.refl _);have b9:M0.f.length+n<M4.f.length:=(Jh.1 l).1;refine⟨pl',(Qb _ _).trans d1,?_,by rw[<-ac];exact a0,.inr (by show M.f.length<=M0.f.length+n;omega),fun e=>?_,?_,ax.trans (ex.trans d3)⟩
 ·have f1:MInv p M4.f (M0.f.length+n) M4.next (M4.vals++ [((xE n M0).next:Int)]) _ _ pl':=d2.goto b9 (fun v hv b hb=>by
   rcases Jl.1 hv with hv|hv
   ·rw[d4] at hv;obtain⟨q,hq⟩:=d v hv;exact d2.below (hq.ext d3 d1 (Og _)) a0 Zo
   ·rw[Jo] at hv;subst hv;rw[l] at hb;cases hb
    exact⟨M0.f.length+n,-1,⟨bk,l,.inl ⟨rfl,by rw[m];simp⟩⟩,.refl _,fun _=>by omega⟩)
  refine f1.weak (fun i=>?_) (fun i e=>?_)
  ·rw[<-ac];constructor
   ·rintro(e|e)
    ·exact .inl e
    ·exact .inr (show i=M0.f.length+n by omega)
   ·rintro(e|e)
    ·exact .inl e
    ·have e':i=M0.f.length+n:=e;exact .inr Zo
  ·rcases e with e|⟨e,_⟩
   ·exact e
   ·omega
 ·have e':P (M0.f.length+n):=e;have:=h.lt _ (hPO _ e');omega
 ·show M.vals<+:M4.vals++_
  rw[d4];exact av.trans (Qb _ _)
theorem gQ (a:Int)(b:Int)(l:List Int):mE ⟨1,a,[⟨b,l⟩]⟩=l:=by unfold mE ut;simp
theorem ee {p:IProg}{E:ME}{a4:MS->MS}(c2:so p a4):so p (tH E a4):=fun M O P pl h hO hnP hPO=>by
 have d1:=h.lt;obtain⟨n1,n2⟩:=MInv.num (M:=M.tick) h hO (tkV E M 5);have ng:=wT M.tick (tkV E M 5);have d0:O (M.tick.num (tkV E M 5)).cur:=by rw[ng.cur];exact hO
 obtain⟨a1,a2⟩:=n1.any E d0;have ag:=yU E (M.tick.num (tkV E M 5));have ax:m6 M.f (zJ E (M.tick.num (tkV E M 5))).2.f:=(abB M.tick _).trans (aaW E _);have ac:(zJ E (M.tick.num (tkV E M 5))).2.cur=M.cur:=ag.cur.trans ng.cur;have al:(zJ E (M.tick.num (tkV E M 5))).2.f.length=M.f.length:=ag.len.trans ng.len;have av:M.vals<+:(zJ E (M.tick.num (tkV E M 5))).2.vals:=ng.pre.trans ag.pre;have an:(M.next:Int)∈(zJ E (M.tick.num (tkV E M 5))).2.vals:=ag.pre.subset n2;unfold tH;simp only;generalize zJ E (M.tick.num (tkV E M 5))=x at *;obtain⟨xv,M0⟩:=x;simp only at a1 a2 ac al av ax an ⊢;clear n1 n2 ng d0 ag;have f6:M0.cur<M0.f.length:=a1.curl;have b1:aaz p (M0.block 2) _ _ _:=a1.block (n:=2) (u:=M0.cur) a1.curl Zd;have l1:(M0.block 2).f.length=M0.f.length+1:=yz M0 2;have b2:aaz p ((M0.block 2).block 0) _ _ _:=b1.block (n:=0) (u:=M0.f.length) (by rw[l1];omega) Zd;have l2:((M0.block 2).block 0).f.length=M0.f.length+2:=by rw[yz,l1]
 have b3:aaz p (((M0.block 2).block 0).block 0) _ _ _:=b2.block (n:=0) (u:=M0.f.length) (by rw[l2];omega) Zd;have l3:(((M0.block 2).block 0).block 0).f.length=M0.f.length+3:=by rw[yz,l2]
 rw[l1,l2] at b3
 have g0:(((M0.block 2).block 0).block 0).f[M0.f.length]? =some (wJ M0.next 2):=by
  have h1:=abK M0 2;obtain⟨y,hy,_⟩:=abg (M0.block 2) 0 _ _ h1
  show(((M0.block 2).f++ [_])++ [_])[M0.f.length]? =_
  rw[Np (by simp[l1];omega),Np (by rw[l1];omega)];exact h1
 have g1:(((M0.block 2).block 0).block 0).f[M0.f.length+1]? =some (wJ (M0.block 2).next 0):=by
  have h1:=abK (M0.block 2) 0;rw[l1] at h1
  show(((M0.block 2).block 0).f++ [_])[M0.f.length+1]? =_
  rw[Np (by rw[l2];omega)];exact h1
 have g2:(((M0.block 2).block 0).block 0).f[M0.f.length+2]? =some (wJ ((M0.block 2).block 0).next 0):=by
  have h1:=abK ((M0.block 2).block 0) 0;rw[l2] at h1;exact h1
 have bx:m6 M0.f (((M0.block 2).block 0).block 0).f:=((abg _ _).trans (abg _ _)).trans (abg _ _);have bc:(((M0.block 2).block 0).block 0).cur=M0.cur:=rfl;have bv:(((M0.block 2).block 0).block 0).vals=M0.vals:=rfl;have k:pl.length=M0.f.length:=a1.len;have d6:((pl++ [M0.cur])++ [M0.f.length])++ [M0.f.length]=pl++ [M0.cur,M0.f.length,M0.f.length]:=by simp
 rw[d6] at b3;have q0:(pl++ [M0.cur,M0.f.length,M0.f.length])[M0.f.length]? =some M0.cur:=by rw[<-k];exact fH (i:=0) rfl
 have q1:(pl++ [M0.cur,M0.f.length,M0.f.length])[M0.f.length+1]? =some M0.f.length:=by
  have:=fH (l:=pl) (m:=[M0.cur,M0.f.length,M0.f.length]) (i:=1) rfl;rw[k] at this;exact this
 have q2:(pl++ [M0.cur,M0.f.length,M0.f.length])[M0.f.length+2]? =some M0.f.length:=by
  have:=fH (l:=pl) (m:=[M0.cur,M0.f.length,M0.f.length]) (i:=2) rfl;rw[k] at this;exact this
 have a3:(fun i=>((O i∨i=M0.f.length)∨i=M0.f.length+1)∨i=M0.f.length+2) (((M0.block 2).block 0).block 0).cur:=.inl (.inl (.inl (by rw[bc,ac];exact hO)));have c9:¬P M0.cur:=by rw[ac];exact hnP
 have a6:∀i,P i->i<M0.f.length:=fun i hi=>by rw[al];exact d1 i (hPO i hi)
 have d7:∀i,O i->i<M0.f.length:=fun i hi=>by rw[al];exact d1 i hi
 generalize ((M0.block 2).block 0).block 0=MB at *;generalize M0.f.length=hd at *;have w:pl<+:pl++ [M0.cur,hd,hd]:=Qb _ _;generalize (pl++ [M0.cur,hd,hd])=pl0 at *
 have e1:=b3.endB (t:=⟨1,0,[⟨(hd:Nat),[(M.next:Int),xv]⟩]⟩) a3 rfl (by show 1<=4;decide) (fun e d=>by
  rw[Jo] at d;subst d
  exact⟨hd,M0.cur,_,rfl,by omega,g0,by simp[wJ],q0,by rw[bc];exact .refl _⟩) (fun v hv=>by
  rw[gQ] at hv;refine b3.at ?_;rw[bv];rcases Jq.1 hv with rfl|hv
  ·exact an
  ·rw[Jo] at hv;subst hv;exact a2) (P':=fun i=>P i∨(i=hd+1∨i=hd+2)) (by
  rw[bc];rintro(((e|e)|e)|e)
  ·exact c9 e
  ·omega
  ·omega
  ·omega) (fun i e=>by
  rcases e with((e|e)|e)|e
  ·exact .inl (.inl e)
  ·exact .inr ⟨_,Jo.2 rfl,by subst e;rfl⟩
  ·exact .inl (.inr (.inl e))
  ·exact .inl (.inr (.inr e)))
 have d3:=bx.trans (xd b3 a3 ⟨1,0,[⟨(hd:Nat),[(M.next:Int),xv]⟩]⟩);obtain⟨y0,b4,b0,_⟩:=xd b3 a3 ⟨1,0,[⟨(hd:Nat),[(M.next:Int),xv]⟩]⟩ _ _ g0;obtain⟨y1,c4,a9,_⟩:=xd b3 a3 ⟨1,0,[⟨(hd:Nat),[(M.next:Int),xv]⟩]⟩ _ _ g1;obtain⟨y2,c3,a8,_⟩:=xd b3 a3 ⟨1,0,[⟨(hd:Nat),[(M.next:Int),xv]⟩]⟩ _ _ g2;have d4:(MB.endB ⟨1,0,[⟨(hd:Nat),[(M.next:Int),xv]⟩]⟩).vals=M0.vals:=bv;generalize MB.endB ⟨1,0,[⟨(hd:Nat),[(M.next:Int),xv]⟩]⟩=M2 at *;rw[bc] at e1;have b5:y0.params=[(M0.next:Int),((M0.next+1:Nat):Int)]:=by rw[b0];simp[wJ,List.range_succ]
 have f0:y1.params.length=0:=by rw[a9];simp[wJ]
 have e8:y2.params.length=0:=by rw[a8];simp[wJ]
 clear b0 a9 a8 g0 g1 g2;have l0:hd<M2.f.length:=(Jh.1 b4).1;have f8:hd+1<M2.f.length:=(Jh.1 c4).1;have f7:hd+2<M2.f.length:=(Jh.1 c3).1;have o:Abv pl0 M0.cur hd:=.up q0 Zo (.refl _)
 have a0:∀v∈M0.vals,∃q,Kn M2.f pl0 v M0.cur q:=fun v hv=>by
  obtain⟨b,hb⟩:=a1.get;exact⟨_,(a1.known v hv b hb).ext d3 w (Og _)⟩
 have c1:aaz p M2 (fun i=>(O i/\i≠M0.cur)∨(hd<=i/\i<=hd+2)) (fun i=>P i∨(i=hd+1∨i=hd+2)) pl0:=e1.weak (fun i=>by
  constructor
  ·rintro⟨((e|e)|e)|e,e2⟩
   ·exact .inl ⟨e,e2⟩
   ·exact .inr Zo
   ·exact .inr Zo
   ·exact .inr Zo
  ·rintro(e|e)
   ·exact⟨.inl (.inl (.inl e.1)),e.2⟩
   ·refine⟨?_,by omega⟩
    by_cases e1:i=hd
    ·exact .inl (.inl (.inr e1))
    by_cases e2:i=hd+1
    ·exact .inl (.inr e2)
    ·exact .inr Zo) (fun i e=>e)
 have a7:∀ {f:List IBlk} {q:List Nat},m6 M2.f f->∀v∈y0.params,Kn f q v hd 0:=fun hf v hv=>by
  obtain⟨z,hz,e5,_⟩:=hf _ _ b4;exact⟨hd,-1,⟨z,hz,.inl ⟨rfl,by rw[e5];exact hv⟩⟩,.refl _,fun _=>by decide⟩
 have c8:(M0.next:Int)∈y0.params:=by rw[b5];simp
 have c7:((M0.next+1:Nat):Int)∈y0.params:=by rw[b5];simp
 have f1:aaz p {M2 with cur:=hd,vals:=M2.vals++ [((M0.next+1:Nat):Int)]} (fun i=>(O i/\i≠M0.cur)∨(hd<=i/\i<=hd+2)) (fun i=>P i∨(i=hd+1∨i=hd+2)) pl0:=c1.goto l0 (fun v hv b hb=>by
  rcases Jl.1 hv with hv|hv
  ·rw[d4] at hv;obtain⟨q,j⟩:=a0 v hv;exact c1.below j o (show M0.cur≠hd by omega)
  ·rw[Jo] at hv;subst hv
   exact(a7 (m6.refl _) _ c7).ext (m6.refl _) Od Zo)
 have d2:(fun i=>(O i/\i≠M0.cur)∨(hd<=i/\i<=hd+2)) ({M2 with cur:=hd,vals:=M2.vals++ [((M0.next+1:Nat):Int)]}:MS).cur:=.inr ⟨Je _,by show hd<=hd+2;omega⟩
 have f2:=f1.endB (t:=⟨2,(M0.next:Nat),[⟨((hd+1:Nat):Int),[]⟩,⟨((hd+2:Nat):Int),[]⟩]⟩) d2 rfl (by show 2<=4;decide) (fun e d=>by
  rcases Jq.1 d with rfl|d
  ·exact⟨hd+1,hd,y1,rfl,by omega,c4,by rw[f0];rfl,q1,.refl _⟩
  ·rw[Jo] at d;subst d
   exact⟨hd+2,hd,y2,rfl,by omega,c3,by rw[e8];rfl,q2,.refl _⟩) (fun v hv b hb=>by
    rcases gL hv with rfl|hv
    ·exact(a7 (m6.refl _) _ c8).ext (m6.refl _) Od Zo
    ·cases hv) (P':=P) (by
    rintro(e|e)
    ·have e':P hd:=e;have:=a6 _ e';omega
    ·have e':hd=hd+1∨hd=hd+2:=e
     omega) (fun i e=>by
    rcases e with e|e|e
    ·exact .inl e
    ·exact .inr ⟨_,.head _,by subst e;rfl⟩
    ·exact .inr ⟨_,.tail _ (.head _),by subst e;rfl⟩)
 have fx:=xd f1 d2 ⟨2,(M0.next:Nat),[⟨((hd+1:Nat):Int),[]⟩,⟨((hd+2:Nat):Int),[]⟩]⟩
 have fv:(({M2 with cur:=hd,vals:=M2.vals++ [((M0.next+1:Nat):Int)]}:MS).endB ⟨2,(M0.next:Nat),[⟨((hd+1:Nat):Int),[]⟩,⟨((hd+2:Nat):Int),[]⟩]⟩).vals=M0.vals++ [((M0.next+1:Nat):Int)]:=by
  show M2.vals++_=_
  rw[d4]
 have fl:M2.f.length<=(({M2 with cur:=hd,vals:=M2.vals++ [((M0.next+1:Nat):Int)]}:MS).endB ⟨2,(M0.next:Nat),[⟨((hd+1:Nat):Int),[]⟩,⟨((hd+2:Nat):Int),[]⟩]⟩).f.length:=ja fx;generalize ({M2 with cur:=hd,vals:=M2.vals++ [((M0.next+1:Nat):Int)]}:MS).endB ⟨2,(M0.next:Nat),[⟨((hd+1:Nat):Int),[]⟩,⟨((hd+2:Nat):Int),[]⟩]⟩=M3 at *;have g:m6 M2.f M3.f:=fx;have b8:Abv pl0 hd (hd+1):=.up q1 Zo (.refl _);have b7:Abv pl0 hd (hd+2):=.up q2 Zo (.refl _)
 have c5:∀v∈M3.vals,∃q,Kn M3.f pl0 v hd q:=fun v hv=>by
  rw[fv] at hv;rcases Jl.1 hv with hv|hv
  ·obtain⟨q,j⟩:=a0 v hv;exact⟨0,c1.below j o Zo|>.ext g Od (Og _)⟩
  ·rw[Jo] at hv;subst hv;exact⟨0,a7 g _ c7⟩
 have g1:aaz p {M3 with cur:=hd+1 } (fun i=>((O i/\i≠M0.cur)∨(hd<=i/\i<=hd+2))/\i≠hd) P pl0:=f2.goto (show hd+1<M3.f.length by omega) (fun v hv b hb=>by
  obtain⟨q,j⟩:=c5 v hv
  exact f2.below j b8 (show hd≠hd+1 by omega))
 obtain⟨pl4,j⟩:=c2 _ _ _ pl0 g1 ⟨.inr ⟨by show hd<=hd+1;omega,by show hd+1<=hd+2;omega⟩,by show hd+1≠hd;omega⟩ (fun e=>by
  have e':P (hd+1):=e;have:=a6 _ e'
  omega) (fun i e=>⟨.inl ⟨hPO i e,fun e2=>c9 (by rw[<-e2];exact e)⟩,by have:=a6 i e;omega⟩)
 have f4:({M3 with cur:=hd+1 }:MS).cur=hd+1:=rfl;have f3:({M3 with cur:=hd+1 }:MS).f=M3.f:=rfl;have e7:({M3 with cur:=hd+1 }:MS).vals=M3.vals:=rfl;obtain⟨k1,k2,k3,k4,k5,k6,k7⟩:=j;rw[f4] at k2 k3 k4;rw[f3] at k4 k7;rw[e7] at k6;generalize a4 {M3 with cur:=hd+1 }=M4 at *;have b6:Abv pl4 hd M4.cur:=(b8.ext k1).trans k3;have c0:(fun i=>((((O i/\i≠M0.cur)∨(hd<=i/\i<=hd+2))/\i≠hd)/\i≠hd+1)∨i=M4.cur) M4.cur:=.inr rfl;obtain⟨m1,m2⟩:=k2.num c0 1;have mg:=wT M4 1;have mx:m6 M2.f (M4.num 1).f:=(g.trans k7).trans (abB M4 1)
 obtain⟨s1,s2⟩:=m1.emitK (c:=6) (by rw[mg.cur];exact c0) (F:=⟨true,true,true,true,false⟩) rfl ⟨rfl,rfl⟩ Zd Zd Zd (a:=(M0.next:Nat)) (b:=(M4.next:Nat)) (n:=0) (.inl ⟨rfl,fun x hx=>by
  have h1:=a7 (q:=pl4) mx _ c8
  by_cases e:hd=(M4.num 1).cur
  ·rw[<-e];exact h1.ext (m6.refl _) Od Zo
  ·exact m1.below h1 (by rw[mg.cur];exact b6) e⟩) (.inl ⟨rfl,m1.at m2⟩) (.inr rfl) (.inl Zd)
 have sg:=yB (M4.num 1) ⟨6,0,(M0.next:Nat),(M4.next:Nat),0,[]⟩;have sc:((M4.num 1).emit ⟨6,0,(M0.next:Nat),(M4.next:Nat),0,[]⟩).cur=M4.cur:=sg.cur.trans mg.cur;have sx:m6 M4.f ((M4.num 1).emit ⟨6,0,(M0.next:Nat),(M4.next:Nat),0,[]⟩).f:=(abB M4 1).trans (aaD _ _);have sv:M4.vals<+:((M4.num 1).emit ⟨6,0,(M0.next:Nat),(M4.next:Nat),0,[]⟩).vals:=mg.pre.trans sg.pre;have sn:((M4.num 1).next:Int)=((M4.next+1:Nat):Int):=rfl;rw[sn] at s2;generalize (M4.num 1).emit ⟨6,0,(M0.next:Nat),(M4.next:Nat),0,[]⟩=M5 at *;obtain⟨t1,t2⟩:=s1.any E (by rw[sc];exact c0);have tg:=yU E M5;have tc:(zJ E M5).2.cur=M4.cur:=tg.cur.trans sc;have tx:=sx.trans (aaW E M5);have tv:=sv.trans tg.pre;have tn:((M4.next+1:Nat):Int)∈(zJ E M5).2.vals:=tg.pre.subset s2;generalize zJ E M5=y at *;obtain⟨yv,M6⟩:=y;simp only at t1 t2 tc tx tv tn ⊢;have b9:(fun i=>((((O i/\i≠M0.cur)∨(hd<=i/\i<=hd+2))/\i≠hd)/\i≠hd+1)∨i=M4.cur) M6.cur:=.inr tc;obtain⟨z0,e6,d5,_⟩:=(g.trans (k7.trans tx)) _ _ b4
 have u1:=t1.endB (t:=⟨1,0,[⟨(hd:Nat),[((M4.next+1:Nat):Int),yv]⟩]⟩) b9 rfl (by show 1<=4;decide) (fun e d=>by
  rw[Jo] at d;subst d
  exact⟨hd,M0.cur,z0,rfl,by omega,e6,by rw[d5,b5];rfl,aaS k1 q0,by rw[tc];exact(o.ext k1).trans b6⟩) (fun v hv=>by
  rw[gQ] at hv;refine t1.at ?_;rcases Jq.1 hv with rfl|hv
  ·exact tn
  ·rw[Jo] at hv;subst hv;exact t2) (P':=P) (by rw[tc];exact k5) (fun i e=> .inl e)
 have ux:=(g.trans (k7.trans tx)).trans (xd t1 b9 ⟨1,0,[⟨(hd:Nat),[((M4.next+1:Nat):Int),yv]⟩]⟩);have uv:M3.vals<+:(M6.endB ⟨1,0,[⟨(hd:Nat),[((M4.next+1:Nat):Int),yv]⟩]⟩).vals:=k6.trans tv;have e0:=(k7.trans tx).trans (xd t1 b9 ⟨1,0,[⟨(hd:Nat),[((M4.next+1:Nat):Int),yv]⟩]⟩);rw[tc] at u1;generalize M6.endB ⟨1,0,[⟨(hd:Nat),[((M4.next+1:Nat):Int),yv]⟩]⟩=M7 at *;have f9:=ja ux;have a5:M7.vals.take M3.vals.length=M3.vals:=uF uv;refine⟨pl4,w.trans k1,?_,?_,.inr (by show M.f.length<=hd+2;omega),fun e=>?_,?_,ax.trans (d3.trans ux)⟩
 ·have w1:MInv p M7.f (hd+2) M7.next (M7.vals.take M3.vals.length) _ P pl4:=u1.goto Zo (fun v hv b hb=>by
   rw[a5] at hv;obtain⟨q,j⟩:=c5 v hv
   exact u1.below (j.ext e0 k1 (Og _)) (b7.ext k1) Zo)
  refine w1.weak (fun i=>?_) (fun i e=>e);have f5:=ja g;rw[<-ac];constructor
  ·rintro⟨⟨⟨e|e,e2⟩,e3⟩|e,e4⟩
   ·exact .inl e
   ·exact .inr (show i=hd+2 by omega)
   ·exact absurd e e4
  ·rintro(e|e)
   ·have hi:=d7 i e.1;refine⟨.inl ⟨⟨.inl e,by omega⟩,by omega⟩,fun e2=>?_⟩;rcases k4 with k4|k4<;>omega
   ·have e':i=hd+2:=e;refine⟨.inl ⟨⟨.inr Zo,by omega⟩,by omega⟩,fun e2=>?_⟩;rcases k4 with k4|k4<;>omega
 ·rw[<-ac];exact(o.ext k1).trans (b7.ext k1)
 ·have e':P (hd+2):=e;have:=a6 _ e';omega
 ·show M.vals<+:M7.vals.take M3.vals.length
  rw[a5,fv];exact av.trans (Qb _ _)
section
variable {p:IProg} {E:ME} (hp:EnvOk p E)
include hp
theorem abq:∀d,so p (zp E d)
 |0=>fX hp
 |d+1=>fun M O P pl h hO hn hPO=>by
  obtain⟨pl1,h1⟩:=fX hp M O P pl h hO hn hPO;have hl:=ja (eO E M)
  have next:∀ {pt:MS->MS},so p pt->(∀M2:MS,M2.f=(tR E M).f->M2.cur=(tR E M).cur->M2.next=(tR E M).next->M2.vals=(tR E M).vals->∃pl',PartOut M O P pl p (pt M2) pl'):=fun {pt} hpt M2 e1 e2 e3 e4=>by
   have hi:aaz p M2 (fun i=>(O i/\i≠M.cur)∨i=(tR E M).cur) P pl1:=by
    have:=h1.inv;unfold aaz at this ⊢;rw[e1,e2,e3,e4];exact this
   obtain⟨g,h2⟩:=hpt M2 _ P pl1 hi (.inr e2) (by rw[e2];exact h1.np) (fun i e=> .inl ⟨hPO i e,fun e3=>hn (by rw[<-e3];exact e)⟩);have j:PartOut M O P pl p M2 pl1:=⟨h1.pre,by rw[e2];exact hi,by rw[e2];exact h1.abv,by rw[e2];exact h1.new,by rw[e2];exact h1.np,by rw[e4];exact h1.vals,by rw[e1];exact h1.ext⟩
   refine⟨g,j.trans ?_ (by rw[e1];exact hl) h.lt⟩;have e5:(fun i=>(O i/\i≠M.cur)∨i=(tR E M).cur)=(fun i=>(O i/\i≠M.cur)∨i=M2.cur):=by rw[e2]
   rw[<-e5];exact h2
  unfold zp;simp only
  have c:so p (fun M=>M):=fun M O P pl h hO hn hPO=>⟨pl,Od,h.weak (fun i=>⟨fun e=>by
   by_cases e2:i=M.cur
   ·exact .inr e2
   ·exact .inl ⟨e,e2⟩,fun e=>e.elim (·.1) (fun e=>by rw[e];exact hO)⟩) (fun i e=>e),.refl _,.inl rfl,hn,Od,m6.refl _⟩
  split
  ·exact next c _ rfl rfl rfl rfl
  split
  ·exact next (gI (abq d) (n:=2) ⟨by decide,by decide⟩) (tR E M).tick rfl rfl rfl rfl
  split
  ·exact next (ee (abq d)) (tR E M).tick rfl rfl rfl rfl
  split
  ·have:=aaE E (tR E M).tick (n:=3) Zo;exact next (gI (abq d) (n:=2+tkV E (tR E M).tick 3) ⟨by omega,by omega⟩) (tR E M).tick.tick rfl rfl rfl rfl
  ·exact next c (tR E M).tick rfl rfl rfl rfl
end
theorem neg_any (w:World){a b:Rg}(d:a.ok)(hb:b.ok):A 70 #[.agg #[U (a.lo:Int),U (a.hi:Int)],.agg #[U (b.lo:Int),U (b.hi:Int)]] w (re w (wl (-(a.hi:Int)) (-(a.lo:Int)))):=by
 have o:=d.1;have m:=d.2;have c:=hb.1;have l:=hb.2;obtain⟨⟨x,y⟩,hr⟩:∃r,wl (-(a.hi:Int)) (-(a.lo:Int))=r:=⟨_,rfl⟩
 rw[hr]
 have g:∀W,A 71 #[I (-(a.hi:Int)),I (-(a.lo:Int))] W (fun e w'=>e=.returned (.agg #[U x,U y])/\O W w'):=fun W=>by
  have:=ac2 W (lo:=-(a.hi:Int)) (hi:=-(a.lo:Int)) Zo Zo;rw[hr] at this;exact this
 have h:=Ja g;clear g hr d hb;go_enter Tryz.func70,Tryz.ntmps70;go_wp2_with (go_at_call 71;go_must (refine(h.out _).mono ?_;rintro e w1 ⟨rfl,c⟩;have hk:L w1 (w.heap.size+1+1) #[U 0,U 0] 45:=zH c (zI Zs) Zs;have f0:=zA (i:=0) hk rfl;have f1:=zA (i:=1) hk rfl;have g0:=zE (i:=0) hk;have g1:=zE (i:=1) hk;have j:=lt_of_block hk;have k:=Below.trans (show O w _ from by repeat' (first|exact Below.refl _ _|(refine Below.alloc ?_ (by first|(simp;done)|(simp;omega)) _))) (c.mono (by first|(simp;done)|(simp;omega)));clear c hk))
 refine bodyPost_ret (v:=.agg #[U x,U y]) ?_ rfl ⟨rfl,by repeat' (first|exact Below.refl _ _|assumption|(refine Below.alloc ?_ (by first|(simp;done)|(simp;omega)) _)|(refine Below.setCell ?_ (by first|(simp;done)|(simp;omega)) _))⟩;rw[zM rfl];go_simp
theorem add_any (w:World){a b:Rg}(d:a.ok)(hb:b.ok):A 73 #[.agg #[U (a.lo:Int),U (a.hi:Int)],.agg #[U (b.lo:Int),U (b.hi:Int)]] w (re w (wl ((a.lo:Int)+b.lo) ((a.hi:Int)+b.hi))):=by
 have o:=d.1;have m:=d.2;have c:=hb.1;have l:=hb.2;obtain⟨⟨x,y⟩,hr⟩:∃r,wl ((a.lo:Int)+b.lo) ((a.hi:Int)+b.hi)=r:=⟨_,rfl⟩
 rw[hr]
 have g:∀W,A 71 #[I ((a.lo:Int)+(b.lo:Int)),I ((a.hi:Int)+(b.hi:Int))] W (fun e w'=>e=.returned (.agg #[U x,U y])/\O W w'):=fun W=>by
  have:=ac2 W (lo:=(a.lo:Int)+b.lo) (hi:=(a.hi:Int)+b.hi) Zo Zo;rw[hr] at this;exact this
 have h:=Ja g;clear g hr d hb;go_enter Tryz.func73,Tryz.ntmps73;go_wp2_with (go_at_call 71;go_must (refine(h.out _).mono ?_;rintro e w1 ⟨rfl,c⟩;have hk:L w1 (w.heap.size+1+1) #[U 0,U 0] 45:=zH c (zI Zs) Zs;have f0:=zA (i:=0) hk rfl;have f1:=zA (i:=1) hk rfl;have g0:=zE (i:=0) hk;have g1:=zE (i:=1) hk;have j:=lt_of_block hk;have k:=Below.trans (show O w _ from by repeat' (first|exact Below.refl _ _|(refine Below.alloc ?_ (by first|(simp;done)|(simp;omega)) _))) (c.mono (by first|(simp;done)|(simp;omega)));clear c hk))
 refine bodyPost_ret (v:=.agg #[U x,U y]) ?_ rfl ⟨rfl,by repeat' (first|exact Below.refl _ _|assumption|(refine Below.alloc ?_ (by first|(simp;done)|(simp;omega)) _)|(refine Below.setCell ?_ (by first|(simp;done)|(simp;omega)) _))⟩;rw[zM rfl];go_simp
theorem sub_any (w:World){a b:Rg}(d:a.ok)(hb:b.ok):A 74 #[.agg #[U (a.lo:Int),U (a.hi:Int)],.agg #[U (b.lo:Int),U (b.hi:Int)]] w (re w (wl ((a.lo:Int)-b.hi) ((a.hi:Int)-b.lo))):=by
 have o:=d.1;have m:=d.2;have c:=hb.1;have l:=hb.2;obtain⟨⟨x,y⟩,hr⟩:∃r,wl ((a.lo:Int)-b.hi) ((a.hi:Int)-b.lo)=r:=⟨_,rfl⟩
 rw[hr]
 have g:∀W,A 71 #[I ((a.lo:Int)-(b.hi:Int)),I ((a.hi:Int)-(b.lo:Int))] W (fun e w'=>e=.returned (.agg #[U x,U y])/\O W w'):=fun W=>by
  have:=ac2 W (lo:=(a.lo:Int)-b.hi) (hi:=(a.hi:Int)-b.lo) Zo Zo;rw[hr] at this;exact this
 have h:=Ja g;clear g hr d hb;go_enter Tryz.func74,Tryz.ntmps74;go_wp2_with (go_at_call 71;go_must (refine(h.out _).mono ?_;rintro e w1 ⟨rfl,c⟩;have hk:L w1 (w.heap.size+1+1) #[U 0,U 0] 45:=zH c (zI Zs) Zs;have f0:=zA (i:=0) hk rfl;have f1:=zA (i:=1) hk rfl;have g0:=zE (i:=0) hk;have g1:=zE (i:=1) hk;have j:=lt_of_block hk;have k:=Below.trans (show O w _ from by repeat' (first|exact Below.refl _ _|(refine Below.alloc ?_ (by first|(simp;done)|(simp;omega)) _))) (c.mono (by first|(simp;done)|(simp;omega)));clear c hk))
 refine bodyPost_ret (v:=.agg #[U x,U y]) ?_ rfl ⟨rfl,by repeat' (first|exact Below.refl _ _|assumption|(refine Below.alloc ?_ (by first|(simp;done)|(simp;omega)) _)|(refine Below.setCell ?_ (by first|(simp;done)|(simp;omega)) _))⟩;rw[zM rfl];go_simp
theorem mul_any (w:World){a b:Rg}(h:a.ok)(hb:b.ok):A 75 #[.agg #[U (a.lo:Int),U (a.hi:Int)],.agg #[U (b.lo:Int),U (b.hi:Int)]] w (re w (vl (a.lo*b.lo) (a.hi*b.hi))):=by
 have k:=h.1;have g:=h.2;have c:=hb.1;have d:=hb.2;obtain⟨⟨x,y⟩,hr⟩:∃r,vl (a.lo*b.lo) (a.hi*b.hi)=r:=⟨_,rfl⟩
 rw[hr];have t:a.lo*b.lo<=65535*65535:=Nat.mul_le_mul Zo Zo;have q:a.hi*b.hi<=65535*65535:=Nat.mul_le_mul g d;have o:IntKind.i64.wrap ((a.lo:Int)*(b.lo:Int))=(a.lo:Int)*(b.lo:Int):=by rw[<-Int.natCast_mul];exact Om _ ⟨by omega,by omega⟩
 have m:IntKind.i64.wrap ((a.hi:Int)*(b.hi:Int))=(a.hi:Int)*(b.hi:Int):=by rw[<-Int.natCast_mul];exact Om _ ⟨by omega,by omega⟩
 have j:∀W,A 76 #[I ((a.lo:Int)*(b.lo:Int)),I ((a.hi:Int)*(b.hi:Int))] W (fun e w'=>e=.returned (.agg #[U x,U y])/\O W w'):=fun W=>by
  have:=aeU W (lo:=a.lo*b.lo) (hi:=a.hi*b.hi) (Nat.mul_le_mul k c) (by have:=Nat.mul_le_mul g d;omega);rw[hr,Int.natCast_mul,Int.natCast_mul] at this;exact this
 have l:=Ja j;clear j hr h hb;go_enter Tryz.func75,Tryz.ntmps75;go_wp2_with (go_at_call 76;go_must (refine(l.out _).mono ?_;rintro e w1 ⟨rfl,c⟩;have hk:L w1 (w.heap.size+1+1) #[U 0,U 0] 45:=zH c (zI Zs) Zs;have f0:=zA (i:=0) hk rfl;have f1:=zA (i:=1) hk rfl;have g0:=zE (i:=0) hk;have g1:=zE (i:=1) hk;have u:=lt_of_block hk;have a0:=Below.trans (show O w _ from by repeat' (first|exact Below.refl _ _|(refine Below.alloc ?_ (by first|(simp;done)|(simp;omega)) _))) (c.mono (by first|(simp;done)|(simp;omega)));clear c hk))
 refine bodyPost_ret (v:=.agg #[U x,U y]) ?_ rfl ⟨rfl,by repeat' (first|exact Below.refl _ _|assumption|(refine Below.alloc ?_ (by first|(simp;done)|(simp;omega)) _)|(refine Below.setCell ?_ (by first|(simp;done)|(simp;omega)) _))⟩;rw[zM rfl];go_simp
theorem and_any (w:World){a b:Rg}(c:a.ok)(hb:b.ok):A 78 #[.agg #[U (a.lo:Int),U (a.hi:Int)],.agg #[U (b.lo:Int),U (b.hi:Int)]] w (re w (⟨0,min a.hi b.hi⟩)):=by
 have i:=c.1;have h:=c.2;have g:=hb.1;have d:=hb.2;have h1:=min16 a.hi b.hi;obtain⟨m,hm⟩:∃m,min a.hi b.hi=m:=⟨_,rfl⟩
 rw[hm] at h1 ⊢;clear hm c hb;go_enter Tryz.func78,Tryz.ntmps78;go_wp2;refine bodyPost_ret (v:=.agg #[U 0,U m]) ?_ rfl ⟨rfl,by repeat' (first|exact Below.refl _ _|assumption|(refine Below.alloc ?_ (by first|(simp;done)|(simp;omega)) _)|(refine Below.setCell ?_ (by first|(simp;done)|(simp;omega)) _))⟩;rw[zM rfl];go_simp
theorem lts_any (w:World){a b:Rg}(c:a.ok)(hb:b.ok):A 89 #[.agg #[U (a.lo:Int),U (a.hi:Int)],.agg #[U (b.lo:Int),U (b.hi:Int)]] w (re w (⟨0,1⟩)):=by
 have i:=c.1;have h:=c.2;have g:=hb.1;have d:=hb.2;go_enter Tryz.func89,Tryz.ntmps89;go_wp2;refine bodyPost_ret (v:=.agg #[U 0,U 1]) ?_ rfl ⟨rfl,by repeat' (first|exact Below.refl _ _|assumption|(refine Below.alloc ?_ (by first|(simp;done)|(simp;omega)) _)|(refine Below.setCell ?_ (by first|(simp;done)|(simp;omega)) _))⟩;rw[zM rfl];go_simp
theorem af3 (w:World){a b:Rg}(c:a.ok)(hb:b.ok):A 90 #[.agg #[U (a.lo:Int),U (a.hi:Int)],.agg #[U (b.lo:Int),U (b.hi:Int)]] w (re w (⟨0,255⟩)):=by
 have i:=c.1;have h:=c.2;have g:=hb.1;have d:=hb.2;go_enter Tryz.func90,Tryz.ntmps90;go_wp2;refine bodyPost_ret (v:=.agg #[U 0,U 255]) ?_ rfl ⟨rfl,by repeat' (first|exact Below.refl _ _|assumption|(refine Below.alloc ?_ (by first|(simp;done)|(simp;omega)) _)|(refine Below.setCell ?_ (by first|(simp;done)|(simp;omega)) _))⟩;rw[zM rfl];go_simp
theorem ag2 (w:World){a b:Rg}(c:a.ok)(hb:b.ok):A 91 #[.agg #[U (a.lo:Int),U (a.hi:Int)],.agg #[U (b.lo:Int),U (b.hi:Int)]] w (re w (⟨0,255⟩)):=by
 have i:=c.1;have h:=c.2;have g:=hb.1;have d:=hb.2;go_enter Tryz.func91,Tryz.ntmps91;go_wp2;refine bodyPost_ret (v:=.agg #[U 0,U 255]) ?_ rfl ⟨rfl,by repeat' (first|exact Below.refl _ _|assumption|(refine Below.alloc ?_ (by first|(simp;done)|(simp;omega)) _)|(refine Below.setCell ?_ (by first|(simp;done)|(simp;omega)) _))⟩;rw[zM rfl];go_simp
theorem not_any (w:World){a b:Rg}(g:a.ok)(hb:b.ok):A 72 #[.agg #[U (a.lo:Int),U (a.hi:Int)],.agg #[U (b.lo:Int),U (b.hi:Int)]] w (re w ⟨65535-a.hi,65535-a.lo⟩):=by
 have j:=g.1;have i:=g.2;have e1:=not16 a.hi Zo;have e2:=not16 a.lo Zo;obtain⟨x,d⟩:∃x,65535-a.hi=x:=⟨_,rfl⟩
 obtain⟨y,c⟩:∃y,65535-a.lo=y:=⟨_,rfl⟩
 rw[d,c];rw[d] at e1;rw[c] at e2;have q:=Ja (Jb e1 e2);clear g hb d c e1 e2;go_enter Tryz.func72,Tryz.ntmps72;go_wp2;refine bodyPost_ret (v:=.agg #[U (bits .xor .u16 IntKind.u16.max (a.hi:Int)),U (bits .xor .u16 IntKind.u16.max (a.lo:Int))]) ?_ rfl ⟨by rw[q.out.1,q.out.2],by repeat' (first|exact Below.refl _ _|assumption|(refine Below.alloc ?_ (by first|(simp;done)|(simp;omega)) _)|(refine Below.setCell ?_ (by first|(simp;done)|(simp;omega)) _))⟩;rw[zM rfl];go_simp
theorem or_any (w:World){a b:Rg}(d:a.ok)(hb:b.ok):A 79 #[.agg #[U (a.lo:Int),U (a.hi:Int)],.agg #[U (b.lo:Int),U (b.hi:Int)]] w (re w ⟨max a.lo b.lo,q8 (max a.hi b.hi)⟩):=by
 have u:=d.1;have t:=d.2;have q:=hb.1;have o:=hb.2;have h1:=ahR a.lo b.lo;have j:=Ja (fun W=>agD W (x:=a.hi) (y:=b.hi) Zo Zo);obtain⟨x,h⟩:∃x,max a.lo b.lo=x:=⟨_,rfl⟩
 obtain⟨y,g⟩:∃y,q8 (max a.hi b.hi)=y:=⟨_,rfl⟩
 rw[g] at j ⊢;rw[h] at h1 ⊢;clear h g d hb;go_enter Tryz.func79,Tryz.ntmps79;go_upto_region 1 with fail;have c:=Ja (show O w (((w.alloc (G #[U (a.lo:Int),U (a.hi:Int)] 45)).alloc (G #[U (b.lo:Int),U (b.hi:Int)] 45)).alloc (G #[U 0,U 0] 45))/\L (((w.alloc (G #[U (a.lo:Int),U (a.hi:Int)] 45)).alloc (G #[U (b.lo:Int),U (b.hi:Int)] 45)).alloc (G #[U 0,U 0] 45)) w.heap.size #[U (a.lo:Int),U (a.hi:Int)] 45/\L (((w.alloc (G #[U (a.lo:Int),U (a.hi:Int)] 45)).alloc (G #[U (b.lo:Int),U (b.hi:Int)] 45)).alloc (G #[U 0,U 0] 45)) (w.heap.size+1) #[U (b.lo:Int),U (b.hi:Int)] 45/\L (((w.alloc (G #[U (a.lo:Int),U (a.hi:Int)] 45)).alloc (G #[U (b.lo:Int),U (b.hi:Int)] 45)).alloc (G #[U 0,U 0] 45)) (w.heap.size+1+1) #[U 0,U 0] 45 from⟨by repeat' (first|exact Below.refl _ _|assumption|(refine Below.alloc ?_ (by first|(simp;done)|(simp;omega)) _)|(refine Below.setCell ?_ (by first|(simp;done)|(simp;omega)) _)),zB (zB (zI rfl)),zB (zI Zs),zI Zs⟩);generalize ((w.alloc (G #[U (a.lo:Int),U (a.hi:Int)] 45)).alloc (G #[U (b.lo:Int),U (b.hi:Int)] 45)).alloc (G #[U 0,U 0] 45)=X at *;have k:=Ja (show ∀W,O X W->T W w.heap.size 0 (U (a.lo:Int))/\T W w.heap.size 1 (U (a.hi:Int))/\T W (w.heap.size+1) 0 (U (b.lo:Int))/\T W (w.heap.size+1) 1 (U (b.hi:Int)) from fun W hb=>⟨zA (zH hb c.out.2.1 (lt_of_block c.out.2.1)) rfl,zA (zH hb c.out.2.1 (lt_of_block c.out.2.1)) rfl,zA (zH hb c.out.2.2.1 (lt_of_block c.out.2.2.1)) rfl,zA (zH hb c.out.2.2.1 (lt_of_block c.out.2.2.1)) rfl⟩);obtain⟨c0,c1,c2,c3⟩:=k.out X (Below.refl _ _);have hk:=c.out.2.2.2;have f0:=zA (i:=0) hk rfl;have f1:=zA (i:=1) hk rfl;have g0:∀i,N X (w.heap.size+1+1) i:=fun i=>zE (i:=i) hk;have m:=lt_of_block hk;have l:=Ja c.out.1;clear hk
 go_region_held3 (fun w'=>T w' w.heap.size 0 (U (a.lo:Int))/\T w' w.heap.size 1 (U (a.hi:Int))/\T w' (w.heap.size+1) 0 (U (b.lo:Int))/\T w' (w.heap.size+1) 1 (U (b.hi:Int))) ((first|exact⟨c0,c1,c2,c3⟩|(go_simp;done)|(refine⟨?_,?_,?_,?_⟩<;>go_simp)))
  ((go_at_call 80;refine(j.out _).mono ?_;rintro e w1 ⟨rfl,rfl⟩))
 all_goals go_wp2_with fail
 all_goals (refine bodyPost_ret (v:=.agg #[U x,U y]) ?_ rfl ⟨rfl,by repeat' (first|exact l.out|(refine Below.drew ?_)|(refine Below.setCell ?_ (by first|(simp;done)|omega|(simp;omega)) _))⟩;rw[zM rfl];go_simp)
theorem xor_any (w:World){a b:Rg}(c:a.ok)(hb:b.ok):A 81 #[.agg #[U (a.lo:Int),U (a.hi:Int)],.agg #[U (b.lo:Int),U (b.hi:Int)]] w (re w (⟨0,q8 (max a.hi b.hi)⟩)):=by
 have k:=c.1;have j:=c.2;have i:=hb.1;have h:=hb.2;have g:=Ja (fun W=>agD W (x:=a.hi) (y:=b.hi) Zo Zo);obtain⟨y,d⟩:∃y,q8 (max a.hi b.hi)=y:=⟨_,rfl⟩
 rw[d] at g ⊢;clear d c hb;go_enter Tryz.func81,Tryz.ntmps81;go_wp2_with (go_at_call 80;go_must (refine(g.out _).mono ?_;rintro e w1 ⟨rfl,rfl⟩))
 refine bodyPost_ret (v:=.agg #[U 0,U y]) ?_ rfl ⟨rfl,by repeat' (first|exact Below.refl _ _|assumption|(refine Below.alloc ?_ (by first|(simp;done)|(simp;omega)) _)|(refine Below.setCell ?_ (by first|(simp;done)|(simp;omega)) _))⟩;rw[zM rfl];go_simp
theorem agO (w:World){a b:Rg}(g:a.ok)(hb:b.ok):A 77 #[.agg #[U (a.lo:Int),U (a.hi:Int)],.agg #[U (b.lo:Int),U (b.hi:Int)]] w (re w (mc a b)):=by
 have a7:=g.1;have a6:=g.2;have d:=hb.1;have a5:=hb.2
 by_cases h0:b.hi=0
 ·have hr:mc a b=y7:=by unfold mc;rw[if_pos h0]
  rw[hr];have j:((b.hi:Int)==0)=true:=by rw[beq_iff_eq];omega
  clear hr h0 g hb;go_enter Tryz.func77,Tryz.ntmps77;go_wp2_with (go_at_call 39;go_must (refine(m0 _).mono ?_;rintro e w1 ⟨rfl,d⟩;have hk:L w1 (w.heap.size+1+1) #[U 0,U 0] 45:=zH d (zI Zs) Zs;have f0:=zA (i:=0) hk rfl;have f1:=zA (i:=1) hk rfl;have g0:=zE (i:=0) hk;have g1:=zE (i:=1) hk;have a2:=lt_of_block hk;have a3:=Below.trans (show O w _ from by repeat' (first|exact Below.refl _ _|(refine Below.alloc ?_ (by first|(simp;done)|(simp;omega)) _))) (d.mono (by first|(simp;done)|(simp;omega)));clear d hk))
  refine bodyPost_ret (v:=.agg #[U 0,U 65535]) ?_ rfl ⟨rfl,by repeat' (first|exact Below.refl _ _|assumption|(refine Below.alloc ?_ (by first|(simp;done)|(simp;omega)) _)|(refine Below.setCell ?_ (by first|(simp;done)|(simp;omega)) _))⟩;rw[zM rfl];go_simp
 ·have j:((b.hi:Int)==0)=false:=Ze;obtain⟨m,hm⟩:∃m,max b.lo 1=m:=⟨_,rfl⟩
  have h1:=ahR b.lo 1;rw[hm] at h1;have a0:((m:Int)==0)=false:=Ze;have y:0<(m:Int):=Zo;have a4:0<(b.hi:Int):=Zo;have x:¬b.hi=0:=Zo;have u:¬m=0:=Zo;have q:¬(b.hi:Int)=0:=Zo;have o:¬(m:Int)=0:=Zo;have hr:mc a b=⟨a.lo/b.hi,a.hi/m⟩:=by unfold mc;rw[if_neg h0,hm]
  rw[hr];have a8:∀(ts:Array TypeId) (t:TypeId) (W:World),(Builtin.max_ ts t #[U (b.lo:Int),U 1]).run Tryz.prog W=.ok (U m) W:=h1;have e1:=ar8 a.lo b.hi Zo;have e2:=ar8 a.hi m Zo;have h:=Ja (Jb e1 e2);clear hr h0 g hb hm h1 e1 e2;go_enter Tryz.func77,Tryz.ntmps77;go_upto_region 1 with fail;have c:=Ja (show O w (((w.alloc (G #[U (a.lo:Int),U (a.hi:Int)] 45)).alloc (G #[U (b.lo:Int),U (b.hi:Int)] 45)).alloc (G #[U 0,U 0] 45))/\L (((w.alloc (G #[U (a.lo:Int),U (a.hi:Int)] 45)).alloc (G #[U (b.lo:Int),U (b.hi:Int)] 45)).alloc (G #[U 0,U 0] 45)) w.heap.size #[U (a.lo:Int),U (a.hi:Int)] 45/\L (((w.alloc (G #[U (a.lo:Int),U (a.hi:Int)] 45)).alloc (G #[U (b.lo:Int),U (b.hi:Int)] 45)).alloc (G #[U 0,U 0] 45)) (w.heap.size+1) #[U (b.lo:Int),U (b.hi:Int)] 45/\L (((w.alloc (G #[U (a.lo:Int),U (a.hi:Int)] 45)).alloc (G #[U (b.lo:Int),U (b.hi:Int)] 45)).alloc (G #[U 0,U 0] 45)) (w.heap.size+1+1) #[U 0,U 0] 45 from⟨by repeat' (first|exact Below.refl _ _|assumption|(refine Below.alloc ?_ (by first|(simp;done)|(simp;omega)) _)|(refine Below.setCell ?_ (by first|(simp;done)|(simp;omega)) _)),zB (zB (zI rfl)),zB (zI Zs),zI Zs⟩);generalize ((w.alloc (G #[U (a.lo:Int),U (a.hi:Int)] 45)).alloc (G #[U (b.lo:Int),U (b.hi:Int)] 45)).alloc (G #[U 0,U 0] 45)=X at *;have k:=Ja (show ∀W,O X W->T W w.heap.size 0 (U (a.lo:Int))/\T W w.heap.size 1 (U (a.hi:Int))/\T W (w.heap.size+1) 0 (U (b.lo:Int))/\T W (w.heap.size+1) 1 (U (b.hi:Int)) from fun W hb=>⟨zA (zH hb c.out.2.1 (lt_of_block c.out.2.1)) rfl,zA (zH hb c.out.2.1 (lt_of_block c.out.2.1)) rfl,zA (zH hb c.out.2.2.1 (lt_of_block c.out.2.2.1)) rfl,zA (zH hb c.out.2.2.1 (lt_of_block c.out.2.2.1)) rfl⟩);obtain⟨c0,c1,c2,c3⟩:=k.out X (Below.refl _ _);have hk:=c.out.2.2.2;have f0:=zA (i:=0) hk rfl;have f1:=zA (i:=1) hk rfl;have g0:∀i,N X (w.heap.size+1+1) i:=fun i=>zE (i:=i) hk;have a1:=lt_of_block hk;have l:=Ja c.out.1;clear hk
  go_upto_region 3 with fail
  go_region_held3 (fun w'=>T w' w.heap.size 0 (U (a.lo:Int))/\T w' w.heap.size 1 (U (a.hi:Int))/\T w' (w.heap.size+1) 0 (U (b.lo:Int))/\T w' (w.heap.size+1) 1 (U (b.hi:Int))) ((first|exact⟨c0,c1,c2,c3⟩|(go_simp;done)|(refine⟨?_,?_,?_,?_⟩<;>go_simp))) (fail)
  all_goals go_wp2_with fail
  all_goals (refine bodyPost_ret (v:=.agg #[U (IntKind.u16.wrap ((a.lo:Int)/(b.hi:Int))),U (IntKind.u16.wrap ((a.hi:Int)/(m:Int)))]) ?_ rfl ⟨by rw[h.out.1,h.out.2];rfl,by repeat' (first|exact l.out|(refine Below.drew ?_)|(refine Below.setCell ?_ (by first|(simp;done)|omega|(simp;omega)) _))⟩;rw[zM rfl];go_simp)
theorem sar_any (w:World){a b:Rg}(d:a.ok)(hb:b.ok):A 85 #[.agg #[U (a.lo:Int),U (a.hi:Int)],.agg #[U (b.lo:Int),U (b.hi:Int)]] w (re w (if 32768<=a.hi then y7 else pn a b)):=by
 have q:=d.1;have o:=d.2;have c:=hb.1;have m:=hb.2
 by_cases h0:32768<=a.hi
 ·rw[if_pos h0];have k:(32768:Int)<=(a.hi:Int):=Zo;clear d hb;go_enter Tryz.func85,Tryz.ntmps85;go_wp2_with (go_at_call 39;go_must (refine(m0 _).mono ?_;rintro e w1 ⟨rfl,c⟩;have hk:L w1 (w.heap.size+1+1) #[U 0,U 0] 45:=zH c (zI Zs) Zs;have f0:=zA (i:=0) hk rfl;have f1:=zA (i:=1) hk rfl;have g0:=zE (i:=0) hk;have g1:=zE (i:=1) hk;have g:=lt_of_block hk;have j:=Below.trans (show O w _ from by repeat' (first|exact Below.refl _ _|(refine Below.alloc ?_ (by first|(simp;done)|(simp;omega)) _))) (c.mono (by first|(simp;done)|(simp;omega)));clear c hk))
  refine bodyPost_ret (v:=.agg #[U 0,U 65535]) ?_ rfl ⟨rfl,by repeat' (first|exact Below.refl _ _|assumption|(refine Below.alloc ?_ (by first|(simp;done)|(simp;omega)) _)|(refine Below.setCell ?_ (by first|(simp;done)|(simp;omega)) _))⟩;rw[zM rfl];go_simp
 ·rw[if_neg h0];have k:¬(32768:Int)<=(a.hi:Int):=Zo;obtain⟨⟨x,y⟩,hr⟩:∃r,pn a b=r:=⟨_,rfl⟩
  have h:∀W,A 84 #[.agg #[U (a.lo:Int),U (a.hi:Int)],.agg #[U (b.lo:Int),U (b.hi:Int)]] W (fun e w'=>e=.returned (.agg #[U x,U y])/\O W w'):=fun W=>by
   have:=afD W (a:=a) (b:=b) Zo Zo;rw[hr] at this;exact this
  have l:=Ja h;rw[hr];clear d hb hr h h0;go_enter Tryz.func85,Tryz.ntmps85;go_wp2_with (go_at_call 84;go_must (refine(l.out _).mono ?_;rintro e w1 ⟨rfl,c⟩;have hk:L w1 (w.heap.size+1+1) #[U 0,U 0] 45:=zH c (zI Zs) Zs;have f0:=zA (i:=0) hk rfl;have f1:=zA (i:=1) hk rfl;have g0:=zE (i:=0) hk;have g1:=zE (i:=1) hk;have g:=lt_of_block hk;have j:=Below.trans (show O w _ from by repeat' (first|exact Below.refl _ _|(refine Below.alloc ?_ (by first|(simp;done)|(simp;omega)) _))) (c.mono (by first|(simp;done)|(simp;omega)));clear c hk))
  refine bodyPost_ret (v:=.agg #[U x,U y]) ?_ rfl ⟨rfl,by repeat' (first|exact Below.refl _ _|assumption|(refine Below.alloc ?_ (by first|(simp;done)|(simp;omega)) _)|(refine Below.setCell ?_ (by first|(simp;done)|(simp;omega)) _))⟩;rw[zM rfl];go_simp
theorem eq_any (w:World){a b:Rg}(h:a.ok)(hb:b.ok):A 86 #[.agg #[U (a.lo:Int),U (a.hi:Int)],.agg #[U (b.lo:Int),U (b.hi:Int)]] w (re w (if a.hi<b.lo∨b.hi<a.lo then⟨0,0⟩ else⟨0,1⟩)):=by
 have a0:=h.1;have u:=h.2;have c:=hb.1;have t:=hb.2;obtain⟨q,g⟩:∃q,decide (a.hi<b.lo∨b.hi<a.lo)=q:=⟨_,rfl⟩
 have hr:(if a.hi<b.lo∨b.hi<a.lo then(⟨0,0⟩:Rg) else⟨0,1⟩)=if false=true then⟨1,1⟩ else if q=true then⟨0,0⟩ else⟨0,1⟩:=by rw[<-g];simp
 rw[hr];obtain⟨⟨x,y⟩,d⟩:∃r:Rg,(if false=true then(⟨1,1⟩:Rg) else if q=true then⟨0,0⟩ else⟨0,1⟩)=r:=⟨_,rfl⟩
 have l:∀W,A 87 #[.bool false,.bool q] W (fun e w'=>e=.returned (.agg #[U x,U y])/\O W w'):=fun W=>by
  have:=aeW W false q;rw[d] at this;exact this
 have o:=Ja l;rw[d];clear h hb hr l d
 by_cases h1:a.hi<b.lo
 ·obtain rfl:q=true:=by rw[<-g];simp[h1]
  have d1:decide (a.hi<b.lo)=true:=decide_eq_true h1;clear g h1;go_enter Tryz.func86,Tryz.ntmps86;go_wp2_with (go_at_call 87;go_must (refine(o.out _).mono ?_;rintro e w1 ⟨rfl,c⟩;have hk:L w1 (w.heap.size+1+1) #[U 0,U 0] 45:=zH c (zI Zs) Zs;have f0:=zA (i:=0) hk rfl;have f1:=zA (i:=1) hk rfl;have g0:=zE (i:=0) hk;have g1:=zE (i:=1) hk;have k:=lt_of_block hk;have m:=Below.trans (show O w _ from by repeat' (first|exact Below.refl _ _|(refine Below.alloc ?_ (by first|(simp;done)|(simp;omega)) _))) (c.mono (by first|(simp;done)|(simp;omega)));clear c hk))
  refine bodyPost_ret (v:=.agg #[U x,U y]) ?_ rfl ⟨rfl,by repeat' (first|exact Below.refl _ _|assumption|(refine Below.alloc ?_ (by first|(simp;done)|(simp;omega)) _)|(refine Below.setCell ?_ (by first|(simp;done)|(simp;omega)) _))⟩;rw[zM rfl];go_simp
 ·have d1:decide (a.hi<b.lo)=false:=decide_eq_false h1;obtain⟨q2,j⟩:∃q2,decide (b.hi<a.lo)=q2:=⟨_,rfl⟩
  obtain rfl:q=q2:=by rw[<-g,<-j];simp[h1]
  clear g h1;go_enter Tryz.func86,Tryz.ntmps86;go_wp2_with (go_at_call 87;go_must (refine(o.out _).mono ?_;rintro e w1 ⟨rfl,c⟩;have hk:L w1 (w.heap.size+1+1) #[U 0,U 0] 45:=zH c (zI Zs) Zs;have f0:=zA (i:=0) hk rfl;have f1:=zA (i:=1) hk rfl;have g0:=zE (i:=0) hk;have g1:=zE (i:=1) hk;have k:=lt_of_block hk;have m:=Below.trans (show O w _ from by repeat' (first|exact Below.refl _ _|(refine Below.alloc ?_ (by first|(simp;done)|(simp;omega)) _))) (c.mono (by first|(simp;done)|(simp;omega)));clear c hk))
  refine bodyPost_ret (v:=.agg #[U x,U y]) ?_ rfl ⟨rfl,by repeat' (first|exact Below.refl _ _|assumption|(refine Below.alloc ?_ (by first|(simp;done)|(simp;omega)) _)|(refine Below.setCell ?_ (by first|(simp;done)|(simp;omega)) _))⟩;rw[zM rfl];go_simp
theorem ltu_any (w:World){a b:Rg}(g:a.ok)(hb:b.ok):A 88 #[.agg #[U (a.lo:Int),U (a.hi:Int)],.agg #[U (b.lo:Int),U (b.hi:Int)]] w (re w (if a.hi<b.lo then⟨1,1⟩ else if b.hi<=a.lo then⟨0,0⟩ else⟨0,1⟩)):=by
 have u:=g.1;have t:=g.2;have c:=hb.1;have o:=hb.2;obtain⟨q,j⟩:∃q,decide (a.hi<b.lo)=q:=⟨_,rfl⟩
 obtain⟨p,hp⟩:∃p,decide (b.hi<=a.lo)=p:=⟨_,rfl⟩
 have hr:(if a.hi<b.lo then(⟨1,1⟩:Rg) else if b.hi<=a.lo then⟨0,0⟩ else⟨0,1⟩)=if q=true then⟨1,1⟩ else if p=true then⟨0,0⟩ else⟨0,1⟩:=by rw[<-j,<-hp];simp
 rw[hr];obtain⟨⟨x,y⟩,d⟩:∃r:Rg,(if q=true then(⟨1,1⟩:Rg) else if p=true then⟨0,0⟩ else⟨0,1⟩)=r:=⟨_,rfl⟩
 have h:∀W,A 87 #[.bool q,.bool p] W (fun e w'=>e=.returned (.agg #[U x,U y])/\O W w'):=fun W=>by
  have:=aeW W q p;rw[d] at this;exact this
 have k:=Ja h;rw[d];clear g hb hr h d;go_enter Tryz.func88,Tryz.ntmps88;go_wp2_with (go_at_call 87;go_must (refine(k.out _).mono ?_;rintro e w1 ⟨rfl,c⟩;have hk:L w1 (w.heap.size+1+1) #[U 0,U 0] 45:=zH c (zI Zs) Zs;have f0:=zA (i:=0) hk rfl;have f1:=zA (i:=1) hk rfl;have g0:=zE (i:=0) hk;have g1:=zE (i:=1) hk;have l:=lt_of_block hk;have m:=Below.trans (show O w _ from by repeat' (first|exact Below.refl _ _|(refine Below.alloc ?_ (by first|(simp;done)|(simp;omega)) _))) (c.mono (by first|(simp;done)|(simp;omega)));clear c hk))
 refine bodyPost_ret (v:=.agg #[U x,U y]) ?_ rfl ⟨rfl,by repeat' (first|exact Below.refl _ _|assumption|(refine Below.alloc ?_ (by first|(simp;done)|(simp;omega)) _)|(refine Below.setCell ?_ (by first|(simp;done)|(simp;omega)) _))⟩;rw[zM rfl];go_simp
theorem shl_any (w:World){a b:Rg}(k:a.ok)(hb:b.ok):A 82 #[.agg #[U (a.lo:Int),U (a.hi:Int)],.agg #[U (b.lo:Int),U (b.hi:Int)]] w (re w (if yf b=true then vl (a.lo*2^(b.lo%16)) (a.hi*2^(b.lo%16)) else y7)):=by
 have a2:=k.1;have a1:=k.2;have g:=hb.1;have d:=hb.2
 by_cases h0:b.lo=b.hi
 ·rw[if_pos (by unfold yf;simpa using h0)];have hq:((b.lo:Int)==(b.hi:Int))=true:=by rw[beq_iff_eq];omega
  have hp:2^(b.lo%16)<=32768:=Nat.pow_le_pow_right (show 0<2 by decide) (show b.lo%16<=15 by omega);have q:a.lo*2^(b.lo%16)<=65535*32768:=Nat.mul_le_mul Zo hp;have o:a.hi*2^(b.lo%16)<=65535*32768:=Nat.mul_le_mul a1 hp;obtain⟨u,h⟩:∃u,a.lo*2^(b.lo%16)=u:=⟨_,rfl⟩
  obtain⟨v,hv⟩:∃v,a.hi*2^(b.lo%16)=v:=⟨_,rfl⟩
  have m:u<=v:=by rw[<-h,<-hv];exact Qw _ a2
  have l:v<=2147450880:=by rw[<-hv];exact o
  have a5:u<=2147450880:=Jn m l;clear q o hp;obtain⟨⟨x,y⟩,hr⟩:∃r,vl u v=r:=⟨_,rfl⟩
  have a4:wrap64 ((a.lo:Int)*2^(b.lo%16))=(u:Int):=by rw[show(a.lo:Int)*2^(b.lo%16)=((a.lo*2^(b.lo%16):Nat):Int) by simp,h];clear h hv;exact IntWalk.wrap64_in _ ⟨by omega,by omega⟩
  have a3:wrap64 ((a.hi:Int)*2^(b.lo%16))=(v:Int):=by rw[show(a.hi:Int)*2^(b.lo%16)=((a.hi*2^(b.lo%16):Nat):Int) by simp,hv];clear h hv;exact IntWalk.wrap64_in _ ⟨by omega,by omega⟩
  have hc:∀W,A 76 #[I u,I v] W (fun e w'=>e=.returned (.agg #[U x,U y])/\O W w'):=fun W=>by
   have:=aeU W m (Nat.lt_of_le_of_lt l Zd);rw[hr] at this;exact this
  have HC:=Ja hc;rw[h,hv,hr]
  have j:=Ja (show ∀W,A 83 #[.agg #[U (b.lo:Int),U (b.hi:Int)]] W (fun e w'=>e=.returned (.bool true)/\O W w') from fun W=>by
   have:=i5 W b;rw[show yf b=true from decide_eq_true h0] at this
   exact this)
  clear k hb hr hc h0 h hv hq;go_enter Tryz.func82,Tryz.ntmps82;go_upto_region 3 with(go_at_call 83;go_must (refine(j.out _).mono ?_;rintro e w2 ⟨rfl,d⟩;have c:=Ja (show O w w2/\L w2 w.heap.size #[U (a.lo:Int),U (a.hi:Int)] 45/\L w2 (w.heap.size+1) #[U (b.lo:Int),U (b.hi:Int)] 45/\L w2 (w.heap.size+1+1) #[U 0,U 0] 45 from⟨Below.trans (show O w _ from by repeat' (first|exact Below.refl _ _|(refine Below.alloc ?_ (by first|(simp;done)|(simp;omega)) _))) (d.mono (by first|(simp;done)|(simp;omega))),zH d (zB (zB (zI rfl))) (by first|(simp;done)|(simp;omega)),zH d (zB (zI Zs)) (by first|(simp;done)|(simp;omega)),zH d (zI Zs) Zs⟩);clear d))
  have c0:=zA (i:=0) c.out.2.1 rfl;have c1:=zA (i:=1) c.out.2.1 rfl;have c2:=zA (i:=0) c.out.2.2.1 rfl;have c3:=zA (i:=1) c.out.2.2.1 rfl;have l1:=lt_of_block c.out.2.1;have l2:=lt_of_block c.out.2.2.1;have l3:=lt_of_block c.out.2.2.2;go_wp2_with (go_at_call 76;go_must (refine(HC.out _).mono ?_;rintro e w1 ⟨rfl,g⟩;have hk:=zH g c.out.2.2.2 (lt_of_block c.out.2.2.2);have f0:=zA (i:=0) hk rfl;have f1:=zA (i:=1) hk rfl;have g0:=zE (i:=0) hk;have g1:=zE (i:=1) hk;have t:=lt_of_block hk;have a0:=c.out.1.trans (g.mono c.out.1.size);clear g hk))
  refine bodyPost_ret (v:=.agg #[U x,U y]) ?_ rfl ⟨rfl,by repeat' (first|exact Below.refl _ _|assumption|(refine Below.alloc ?_ (by first|(simp;done)|(simp;omega)) _)|(refine Below.setCell ?_ (by first|(simp;done)|(simp;omega)) _))⟩;rw[zM rfl];go_simp
 ·rw[if_neg (by unfold yf;simpa using h0)]
  have j:=Ja (show ∀W,A 83 #[.agg #[U (b.lo:Int),U (b.hi:Int)]] W (fun e w'=>e=.returned (.bool false)/\O W w') from fun W=>by
   have:=i5 W b;rw[show yf b=false from decide_eq_false h0] at this
   exact this)
  clear k hb h0;go_enter Tryz.func82,Tryz.ntmps82;go_upto_region 2 with(go_at_call 83;go_must (refine(j.out _).mono ?_;rintro e w2 ⟨rfl,d⟩;have c:=Ja (show O w w2/\L w2 w.heap.size #[U (a.lo:Int),U (a.hi:Int)] 45/\L w2 (w.heap.size+1) #[U (b.lo:Int),U (b.hi:Int)] 45/\L w2 (w.heap.size+1+1) #[U 0,U 0] 45 from⟨Below.trans (show O w _ from by repeat' (first|exact Below.refl _ _|(refine Below.alloc ?_ (by first|(simp;done)|(simp;omega)) _))) (d.mono (by first|(simp;done)|(simp;omega))),zH d (zB (zB (zI rfl))) (by first|(simp;done)|(simp;omega)),zH d (zB (zI Zs)) (by first|(simp;done)|(simp;omega)),zH d (zI Zs) Zs⟩);clear d))
  have c0:=zA (i:=0) c.out.2.1 rfl;have c1:=zA (i:=1) c.out.2.1 rfl;have c2:=zA (i:=0) c.out.2.2.1 rfl;have c3:=zA (i:=1) c.out.2.2.1 rfl;have l1:=lt_of_block c.out.2.1;have l2:=lt_of_block c.out.2.2.1;have l3:=lt_of_block c.out.2.2.2;go_wp2_with (go_at_call 39;go_must (refine(m0 _).mono ?_;rintro e w1 ⟨rfl,g⟩;have hk:=zH g c.out.2.2.2 (lt_of_block c.out.2.2.2);have f0:=zA (i:=0) hk rfl;have f1:=zA (i:=1) hk rfl;have g0:=zE (i:=0) hk;have g1:=zE (i:=1) hk;have t:=lt_of_block hk;have a0:=c.out.1.trans (g.mono c.out.1.size);clear g hk))
  refine bodyPost_ret (v:=.agg #[U 0,U 65535]) ?_ rfl ⟨rfl,by repeat' (first|exact Below.refl _ _|assumption|(refine Below.alloc ?_ (by first|(simp;done)|(simp;omega)) _)|(refine Below.setCell ?_ (by first|(simp;done)|(simp;omega)) _))⟩;rw[zM rfl];go_simp
open Go.RowKit Go.Maps
def agk (v:Value):Option (DataW Unit×List MemPlace):=
 match v with
 |.func (.func k) fs cs=>if fs.size=0/\cs.size=0 then some (.lit (.int .i64 (k:Int)),[]) else none
 |.nilFunc=>some (.lit (.int .i64 (-1)),[])
 |_=>none
def ruV:Option Nat->Value
 |some k=> .func (.func k) #[] #[]
 |none=> .nilFunc
def ruD:Option Nat->DataW Unit
 |some k=> .lit (.int .i64 (k:Int))
 |none=> .lit (.int .i64 (-1))
theorem afT (o:Option Nat):agk (ruV o)=some (ruD o,[]):=by cases o<;>rfl
theorem agZ {v:Value}{o:Option Nat}{ps:List MemPlace}(h:agk v=some (ruD o,ps)):v=ruV o:=by
 unfold agk at h
 split at h
 ·rename_i k fs cs
  split at h
  ·rename_i hs
   have e1:fs=#[]:=Array.eq_empty_of_size_eq_zero hs.1;have e2:cs=#[]:=Array.eq_empty_of_size_eq_zero hs.2;subst e1 e2
   cases o with
   |none=>simp only[ruD,Option.some.injEq,Prod.mk.injEq,DataW.lit.injEq,Lit.int.injEq,true_and] at h;have:=h.1;omega
   |some j=>simp only[ruD,Option.some.injEq,Prod.mk.injEq,DataW.lit.injEq,Lit.int.injEq,true_and] at h;have:k=j:=Int.ofNat.inj h.1
            subst this;rfl
  ·cases h
 ·cases o with
  |none=>rfl
  |some j=>simp[ruD] at h
 ·cases h
theorem zeroRu (w:World):(zeroValue 176).run Tryz.prog w=.ok .nilFunc w:=by kernel_rfl
def l6 (w:World)(b n:Nat)(g:Int->Option Nat):Prop:=
 ∃D:DataW Unit,w.ownsMap Tryz.prog 3 agk b n D/\∀x,I64 x->D.atKey (.int .i64 x) (ruD none)=ruD (g x)/\Maps.has D (.int .i64 x)=(g x).isSome
theorem l6.made (w:World):l6 (w.alloc (.map #[] 0)) w.heap.size 0 (fun _=>none):=⟨_,World.ownsMap_made _ _ _ _,fun _ _=>⟨rfl,rfl⟩⟩
theorem l6.blk{b n:Nat}(h:l6 w b n g):∃es clock,w.heap[b]? =some (.map es clock):=by
 obtain⟨D,⟨es,clock,h1,h2⟩,h3⟩:=h;exact⟨es,clock,h1⟩
theorem l6.same{b n:Nat}(h:l6 w b n g)(hb:w'.heap[b]? =w.heap[b]?):l6 w' b n g:=by
 obtain⟨D,⟨es,c,h1,h2⟩,h3⟩:=h;exact⟨D,⟨es,c,hb.trans h1,h2⟩,h3⟩
theorem l6.below{b n:Nat}(h:l6 w b n g)(hb:O w w'):l6 w' b n g:=by
 obtain⟨es,c,d⟩:=h.blk;exact h.same (hb.block b (lt_of_block d))
theorem l6.lookOk{b n:Nat}(h:l6 w b n g){x:Int}(d:I64 x):
 (Instr.lookup 95 (.map (some b)) (I x) true).run Tryz.prog w=.ok (.tuple #[ruV (g x),.bool (g x).isSome]) w:=by
 obtain⟨D,h,hf⟩:=h;obtain⟨v,ps,c,hv⟩:=h.look_ok xH Tryz.underlying95 (zeroRu w) (afT none) (vB d);rw[(hf x d).1] at hv;rw[(hf x d).2,agZ hv] at c;exact c
def putR (g:Int->Option Nat)(x:Int)(k:Nat):Int->Option Nat:=fun y=>if y=x then some k else g y
theorem agd{n b:Nat}(h:Below n w0 w)(hg:w.grownBy w' (some b))(hb:n<=b)(hs:n<=w.heap.size):Below n w0 w':=
 ⟨hg.os.trans h.os,hg.tape.trans h.tape,hg.output.trans h.output,Jn h.size hg.size,fun k hk=>(hg.block k Zo (by intro e;cases e;omega)).trans (h.block k hk)⟩
theorem ahh{b n:Nat}(h:l6 w b n g)(m:n<9000000000000000000)(kx:Int)(k:Nat)(d:I64 kx):
 ∃w',(Instr.mapUpdate 95 (.map (some b)) (.int .i64 kx) (.func (.func k) #[] #[])).run Tryz.prog w=.ok () w'/\l6 w' b (n+1) (putR g kx k)/\w.grownBy w' (some b):=by
 obtain⟨D,h,hf⟩:=h;obtain⟨w1,j,l,c⟩:=h.update xH Tryz.underlying95 (by unfold maxLen;omega) (vB d) (afT (some k));refine⟨w1,j,⟨_,l,fun y hy=>?_⟩,c⟩;have i:WideAt.IsKeyLit (.int .i64 kx):=xH.key (vB d)
 by_cases e:y=kx
 ·subst e;simp only[putR,if_true];exact⟨Maps.atKey_put_same h.isMap i _ _,Maps.has_put_same h.isMap i _⟩
 ·simp only[putR,if_neg e];rw[Maps.atKey_put_other (by simpa using e),Maps.has_put_other (by simpa using e)];exact hf y hy
theorem vt{b n:Nat}(h:l6 w b n g)(hb:Below b w0 w/\b<w.heap.size)(d:n<9000000000000000000)(kx:Int)(k:Nat)(c:I64 kx):
 ∃w',(Instr.mapUpdate 95 (.map (some b)) (I kx) (.func (.func k) #[] #[])).run Tryz.prog w=.ok () w'/\l6 w' b (n+1) (putR g kx k)/\(Below b w0 w'/\b<w'.heap.size):=by
 obtain⟨w',h1,h2,h3⟩:=ahh h d kx k c;exact⟨w',h1,h2,⟨agd hb.1 h3 (Je _) (Qd hb.2),Jy hb.2 h3.size⟩⟩
def ruG:Int->Option Nat:=(putR (putR (putR (putR (putR (putR (putR (putR (putR (putR (putR (putR (putR (putR (putR (putR (putR (fun _=>none) 3 70) 4 72) 5 73) 6 74) 7 75) 8 77) 9 78) 10 79) 11 81) 12 82) 13 84) 14 85) 15 86) 16 88) 17 89) 19 90) 23 91)
theorem aho (w:World):A 37 #[] w (fun e w'=>e=.returned (.map (some w.heap.size))/\l6 w' w.heap.size 17 ruG/\O w w'/\w.heap.size<w'.heap.size):=by
 obtain⟨G,hG⟩:∃G,ruG=G:=⟨_,rfl⟩
 rw[hG];go_enter Tryz.func37,Tryz.ntmps37;have b0:=l6.made w;have c0:O w (w.alloc (.map #[] 0))/\w.heap.size<(w.alloc (.map #[] 0)).heap.size:=⟨Below.alloc (Below.refl _ _) (Je _) _,by simp⟩
 obtain⟨w1,e0,a9,b9⟩:=vt b0 c0 Zd 3 70 (by unfold I64;omega);clear b0 c0;obtain⟨w2,d7,a8,b8⟩:=vt a9 b9 Zd 4 72 (by unfold I64;omega);clear a9 b9;obtain⟨w3,d6,a7,b7⟩:=vt a8 b8 Zd 5 73 (by unfold I64;omega);clear a8 b8;obtain⟨w4,d5,a6,b6⟩:=vt a7 b7 Zd 6 74 (by unfold I64;omega);clear a7 b7;obtain⟨w5,d4,a5,b5⟩:=vt a6 b6 Zd 7 75 (by unfold I64;omega);clear a6 b6;obtain⟨w6,d3,a4,b4⟩:=vt a5 b5 Zd 8 77 (by unfold I64;omega);clear a5 b5;obtain⟨w7,d2,a3,b3⟩:=vt a4 b4 Zd 9 78 (by unfold I64;omega);clear a4 b4;obtain⟨w8,d1,a2,b2⟩:=vt a3 b3 Zd 10 79 (by unfold I64;omega);clear a3 b3;obtain⟨w9,d0,a1,b1⟩:=vt a2 b2 Zd 11 81 (by unfold I64;omega);clear a2 b2;obtain⟨w10,c9,l,a0⟩:=vt a1 b1 Zd 12 82 (by unfold I64;omega);clear a1 b1;obtain⟨w11,c8,k,y⟩:=vt l a0 Zd 13 84 (by unfold I64;omega);clear l a0;obtain⟨w12,c7,j,x⟩:=vt k y Zd 14 85 (by unfold I64;omega);clear k y;obtain⟨w13,c5,i,u⟩:=vt j x Zd 15 86 (by unfold I64;omega);clear j x;obtain⟨w14,c4,h,t⟩:=vt i u Zd 16 88 (by unfold I64;omega);clear i u;obtain⟨w15,c3,g,q⟩:=vt h t Zd 17 89 (by unfold I64;omega);clear h t;obtain⟨w16,c2,d,o⟩:=vt g q Zd 19 90 (by unfold I64;omega);clear g q;obtain⟨w17,c1,c,m⟩:=vt d o Zd 23 91 (by unfold I64;omega);clear d o;have HM:=Ja c;have HB:=Ja m;clear c m;have e1:=@run_makeMap Tryz.prog;go_wp2;go_ret;subst hG;exact⟨rfl,HM.out,HB.out.1,HB.out.2⟩
theorem ruG_none(h:ruG c=none)(a b:Rg):ky c a b=none:=by
 simp only[ruG,putR] at h
 by_cases d:c=23
 ·rw[if_pos d] at h;cases h
 rw[if_neg d] at h
 by_cases g:c=19
 ·rw[if_pos g] at h;cases h
 rw[if_neg g] at h
 by_cases i:c=17
 ·rw[if_pos i] at h;cases h
 rw[if_neg i] at h
 by_cases j:c=16
 ·rw[if_pos j] at h;cases h
 rw[if_neg j] at h
 by_cases k:c=15
 ·rw[if_pos k] at h;cases h
 rw[if_neg k] at h
 by_cases l:c=14
 ·rw[if_pos l] at h;cases h
 rw[if_neg l] at h
 by_cases m:c=13
 ·rw[if_pos m] at h;cases h
 rw[if_neg m] at h
 by_cases o:c=12
 ·rw[if_pos o] at h;cases h
 rw[if_neg o] at h
 by_cases q:c=11
 ·rw[if_pos q] at h;cases h
 rw[if_neg q] at h
 by_cases t:c=10
 ·rw[if_pos t] at h;cases h
 rw[if_neg t] at h
 by_cases u:c=9
 ·rw[if_pos u] at h;cases h
 rw[if_neg u] at h
 by_cases w:c=8
 ·rw[if_pos w] at h;cases h
 rw[if_neg w] at h
 by_cases x:c=7
 ·rw[if_pos x] at h;cases h
 rw[if_neg x] at h
 by_cases y:c=6
 ·rw[if_pos y] at h;cases h
 rw[if_neg y] at h
 by_cases h5:c=5
 ·rw[if_pos h5] at h;cases h
 rw[if_neg h5] at h
 by_cases h4:c=4
 ·rw[if_pos h4] at h;cases h
 rw[if_neg h4] at h
 by_cases h3:c=3
 ·rw[if_pos h3] at h;cases h
 rw[if_neg h3] at h;unfold ky;simp only[if_neg h3,if_neg h4,if_neg h5,if_neg y,if_neg x,if_neg w,if_neg u,if_neg t,if_neg q,if_neg o,if_neg m,if_neg l,if_neg k,if_neg j,if_neg i,if_neg g,if_neg d]
theorem ago(h:ruG c=some k){a b:Rg}(d:a.ok)(hb:b.ok)(w:World):∃r,ky c a b=some r/\A k #[.agg #[U (a.lo:Int),U (a.hi:Int)],.agg #[U (b.lo:Int),U (b.hi:Int)]] w (re w r):=by
 simp only[ruG,putR] at h
 by_cases g:c=23
 ·rw[if_pos g] at h;cases h;subst g;exact⟨_,rfl,ag2 w d hb⟩
 rw[if_neg g] at h
 by_cases i:c=19
 ·rw[if_pos i] at h;cases h;subst i;exact⟨_,rfl,af3 w d hb⟩
 rw[if_neg i] at h
 by_cases j:c=17
 ·rw[if_pos j] at h;cases h;subst j;exact⟨_,rfl,lts_any w d hb⟩
 rw[if_neg j] at h
 by_cases l:c=16
 ·rw[if_pos l] at h;cases h;subst l;exact⟨_,rfl,ltu_any w d hb⟩
 rw[if_neg l] at h
 by_cases m:c=15
 ·rw[if_pos m] at h;cases h;subst m;exact⟨_,rfl,eq_any w d hb⟩
 rw[if_neg m] at h
 by_cases o:c=14
 ·rw[if_pos o] at h;cases h;subst o;exact⟨_,rfl,sar_any w d hb⟩
 rw[if_neg o] at h
 by_cases q:c=13
 ·rw[if_pos q] at h;cases h;subst q;exact⟨_,rfl,afD w ⟨by have:=d.1;have:=d.2;omega,by have:=d.2;omega⟩ (by have:=hb.1;have:=hb.2;omega)⟩
 rw[if_neg q] at h
 by_cases t:c=12
 ·rw[if_pos t] at h;cases h;subst t;exact⟨_,rfl,shl_any w d hb⟩
 rw[if_neg t] at h
 by_cases u:c=11
 ·rw[if_pos u] at h;cases h;subst u;exact⟨_,rfl,xor_any w d hb⟩
 rw[if_neg u] at h
 by_cases x:c=10
 ·rw[if_pos x] at h;cases h;subst x;exact⟨_,rfl,or_any w d hb⟩
 rw[if_neg x] at h
 by_cases y:c=9
 ·rw[if_pos y] at h;cases h;subst y;exact⟨_,rfl,and_any w d hb⟩
 rw[if_neg y] at h
 by_cases h8:c=8
 ·rw[if_pos h8] at h;cases h;subst h8;exact⟨_,rfl,agO w d hb⟩
 rw[if_neg h8] at h
 by_cases h7:c=7
 ·rw[if_pos h7] at h;cases h;subst h7;exact⟨_,rfl,mul_any w d hb⟩
 rw[if_neg h7] at h
 by_cases h6:c=6
 ·rw[if_pos h6] at h;cases h;subst h6;exact⟨_,rfl,sub_any w d hb⟩
 rw[if_neg h6] at h
 by_cases h5:c=5
 ·rw[if_pos h5] at h;cases h;subst h5;exact⟨_,rfl,add_any w d hb⟩
 rw[if_neg h5] at h
 by_cases h4:c=4
 ·rw[if_pos h4] at h;cases h;subst h4;exact⟨_,rfl,not_any w d hb⟩
 rw[if_neg h4] at h
 by_cases h3:c=3
 ·rw[if_pos h3] at h;cases h;subst h3;exact⟨_,rfl,neg_any w d hb⟩
 rw[if_neg h3] at h;cases h
end Go.Proofs.YtoahcpkibpomcaaGreat
