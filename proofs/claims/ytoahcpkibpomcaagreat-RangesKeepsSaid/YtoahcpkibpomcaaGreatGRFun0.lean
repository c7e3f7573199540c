/- Part of a proof. -/
import Derived.Test.YtoahcpkibpomcaaGreatIGraph
set_option linter.all false
set_option maxHeartbeats 2000000
set_option maxRecDepth 100000
namespace Go.Proofs.YtoahcpkibpomcaaGreat
open Go.RowKit
variable {o:IOp}{w w' w0:World}{g:List (List Nat)}{c i:Int}{C k m m1 m2:Nat}{xs:List Int}{bl blocks:List IBlk}{d:wO}{l:List IOp}
theorem ajt (w:World){a b:Rg}(g:a.ok)(hb:b.ok):I 77 #[.agg #[O (a.lo:Int),O (a.hi:Int)],.agg #[O (b.lo:Int),O (b.hi:Int)]] w (be w (ae5 a b)):=by
 have b0:=g.1;have a7:=g.2;have d:=hb.1;have a6:=hb.2
 by_cases h:b.hi=0
 ·have hr:ae5 a b=lf:=by unfold ae5;rw[if_pos h]
  rw[hr];have hq:((b.hi:Int)==0)=true:=by rw[beq_iff_eq];omega
  clear hr h g hb;go_enter Tryz.func77,Tryz.ntmps77;go_wp2_with (go_at_call 39;go_must (refine(aeH _).mono ?_;rintro e w1 ⟨rfl,d⟩;have hk:Q w1 (w.heap.size+1+1) #[O 0,O 0] 45:=zH d (zI Zs) Zs;have f0:=zA (i:=0) hk rfl;have f1:=zA (i:=1) hk rfl;have g0:=zE (i:=0) hk;have g1:=zE (i:=1) hk;have a3:=lt_of_block hk;have a4:=Below.trans (show Y w _ from Zv) (d.mono Zy);clear d hk))
  refine bodyPost_ret (v:=.agg #[O 0,O 65535]) ?_ rfl ⟨rfl,Zx⟩;rw[zM rfl];go_simp
 ·have hq:((b.hi:Int)==0)=false:=Ze;obtain⟨m,hm⟩:∃m,max b.lo 1=m:=⟨_,rfl⟩
  have h1:=akT b.lo 1;rw[hm] at h1;have a1:((m:Int)==0)=false:=Ze;have a0:0<(m:Int):=Zo;have a5:0<(b.hi:Int):=Zo;have y:¬b.hi=0:=Zo;have x:¬m=0:=Zo;have u:¬(b.hi:Int)=0:=Zo;have o:¬(m:Int)=0:=Zo;have hr:ae5 a b=⟨a.lo/b.hi,a.hi/m⟩:=by unfold ae5;rw[if_neg h,hm]
  rw[hr];have b1:∀(ts:Array TypeId) (t:TypeId) (W:World),(Builtin.max_ ts t #[O (b.lo:Int),O 1]).run Tryz.prog W=.ok (O m) W:=h1;have e1:=ar8 a.lo b.hi Zo;have e2:=ar8 a.hi m Zo;have j:=Ja (Jb e1 e2);clear hr h g hb hm h1 e1 e2;go_enter Tryz.func77,Tryz.ntmps77;go_upto_region 1 with fail;have c:=Ja (show Y w (((w.alloc (G #[O (a.lo:Int),O (a.hi:Int)] 45)).alloc (G #[O (b.lo:Int),O (b.hi:Int)] 45)).alloc (G #[O 0,O 0] 45))/\Q (((w.alloc (G #[O (a.lo:Int),O (a.hi:Int)] 45)).alloc (G #[O (b.lo:Int),O (b.hi:Int)] 45)).alloc (G #[O 0,O 0] 45)) w.heap.size #[O (a.lo:Int),O (a.hi:Int)] 45/\Q (((w.alloc (G #[O (a.lo:Int),O (a.hi:Int)] 45)).alloc (G #[O (b.lo:Int),O (b.hi:Int)] 45)).alloc (G #[O 0,O 0] 45)) (w.heap.size+1) #[O (b.lo:Int),O (b.hi:Int)] 45/\Q (((w.alloc (G #[O (a.lo:Int),O (a.hi:Int)] 45)).alloc (G #[O (b.lo:Int),O (b.hi:Int)] 45)).alloc (G #[O 0,O 0] 45)) (w.heap.size+1+1) #[O 0,O 0] 45 from⟨Zx,zB (zB (zI rfl)),zB (zI Zs),zI Zs⟩);generalize ((w.alloc (G #[O (a.lo:Int),O (a.hi:Int)] 45)).alloc (G #[O (b.lo:Int),O (b.hi:Int)] 45)).alloc (G #[O 0,O 0] 45)=X at *;have k:=Ja (show ∀W,Y X W->A W w.heap.size 0 (O (a.lo:Int))/\A W w.heap.size 1 (O (a.hi:Int))/\A W (w.heap.size+1) 0 (O (b.lo:Int))/\A W (w.heap.size+1) 1 (O (b.hi:Int)) from fun W hb=>⟨zA (zH hb c.out.2.1 (lt_of_block c.out.2.1)) rfl,zA (zH hb c.out.2.1 (lt_of_block c.out.2.1)) rfl,zA (zH hb c.out.2.2.1 (lt_of_block c.out.2.2.1)) rfl,zA (zH hb c.out.2.2.1 (lt_of_block c.out.2.2.1)) rfl⟩);obtain⟨c0,c1,c2,c3⟩:=k.out X (Below.refl _ _);have hk:=c.out.2.2.2;have f0:=zA (i:=0) hk rfl;have f1:=zA (i:=1) hk rfl;have g0:∀i,N X (w.heap.size+1+1) i:=fun i=>zE (i:=i) hk;have a2:=lt_of_block hk;have l:=Ja c.out.1;clear hk
  go_upto_region 3 with fail
  go_region_held3 (fun w'=>A w' w.heap.size 0 (O (a.lo:Int))/\A w' w.heap.size 1 (O (a.hi:Int))/\A w' (w.heap.size+1) 0 (O (b.lo:Int))/\A w' (w.heap.size+1) 1 (O (b.hi:Int))) ((first|exact⟨c0,c1,c2,c3⟩|(go_simp;done)|(refine⟨?_,?_,?_,?_⟩<;>go_simp))) (fail)
  all_goals go_wp2_with fail
  all_goals (refine bodyPost_ret (v:=.agg #[O (IntKind.u16.wrap ((a.lo:Int)/(b.hi:Int))),O (IntKind.u16.wrap ((a.hi:Int)/(m:Int)))]) ?_ rfl ⟨by rw[j.out.1,j.out.2];rfl,by repeat' (first|exact l.out|(refine Below.drew ?_)|(refine Below.setCell ?_ (by first|(simp;done)|omega|(simp;omega)) _))⟩;rw[zM rfl];go_simp)
theorem sar_any (w:World){a b:Rg}(d:a.ok)(hb:b.ok):I 85 #[.agg #[O (a.lo:Int),O (a.hi:Int)],.agg #[O (b.lo:Int),O (b.hi:Int)]] w (be w (if 32768<=a.hi then lf else ae0 a b)):=by
 have t:=d.1;have o:=d.2;have c:=hb.1;have m:=hb.2
 by_cases g:32768<=a.hi
 ·rw[if_pos g];have hq:(32768:Int)<=(a.hi:Int):=Zo;clear d hb;go_enter Tryz.func85,Tryz.ntmps85;go_wp2_with (go_at_call 39;go_must (refine(aeH _).mono ?_;rintro e w1 ⟨rfl,c⟩;have hk:Q w1 (w.heap.size+1+1) #[O 0,O 0] 45:=zH c (zI Zs) Zs;have f0:=zA (i:=0) hk rfl;have f1:=zA (i:=1) hk rfl;have g0:=zE (i:=0) hk;have g1:=zE (i:=1) hk;have h:=lt_of_block hk;have k:=Below.trans (show Y w _ from Zv) (c.mono Zy);clear c hk))
  refine bodyPost_ret (v:=.agg #[O 0,O 65535]) ?_ rfl ⟨rfl,Zx⟩;rw[zM rfl];go_simp
 ·rw[if_neg g];have hq:¬(32768:Int)<=(a.hi:Int):=Zo;obtain⟨⟨x,y⟩,hr⟩:∃r,ae0 a b=r:=⟨_,rfl⟩
  have j:∀W,I 84 #[.agg #[O (a.lo:Int),O (a.hi:Int)],.agg #[O (b.lo:Int),O (b.hi:Int)]] W (fun e w'=>e=.returned (.agg #[O x,O y])/\Y W w'):=fun W=>by
   have:=aih W (a:=a) (b:=b) Zo Zo;rw[hr] at this;exact this
  have l:=Ja j;rw[hr];clear d hb hr j g;go_enter Tryz.func85,Tryz.ntmps85;go_wp2_with (go_at_call 84;go_must (refine(l.out _).mono ?_;rintro e w1 ⟨rfl,c⟩;have hk:Q w1 (w.heap.size+1+1) #[O 0,O 0] 45:=zH c (zI Zs) Zs;have f0:=zA (i:=0) hk rfl;have f1:=zA (i:=1) hk rfl;have g0:=zE (i:=0) hk;have g1:=zE (i:=1) hk;have h:=lt_of_block hk;have k:=Below.trans (show Y w _ from Zv) (c.mono Zy);clear c hk))
  refine bodyPost_ret (v:=.agg #[O x,O y]) ?_ rfl ⟨rfl,Zx⟩;rw[zM rfl];go_simp
theorem eq_any (w:World){a b:Rg}(g:a.ok)(hb:b.ok):I 86 #[.agg #[O (a.lo:Int),O (a.hi:Int)],.agg #[O (b.lo:Int),O (b.hi:Int)]] w (be w (if a.hi<b.lo∨b.hi<a.lo then⟨0,0⟩ else⟨0,1⟩)):=by
 have u:=g.1;have t:=g.2;have c:=hb.1;have o:=hb.2;obtain⟨q,hq⟩:∃q,decide (a.hi<b.lo∨b.hi<a.lo)=q:=⟨_,rfl⟩
 have hr:(if a.hi<b.lo∨b.hi<a.lo then(⟨0,0⟩:Rg) else⟨0,1⟩)=if false=true then⟨1,1⟩ else if q=true then⟨0,0⟩ else⟨0,1⟩:=by rw[<-hq];simp
 rw[hr];obtain⟨⟨x,y⟩,d⟩:∃r:Rg,(if false=true then(⟨1,1⟩:Rg) else if q=true then⟨0,0⟩ else⟨0,1⟩)=r:=⟨_,rfl⟩
 have k:∀W,I 87 #[.bool false,.bool q] W (fun e w'=>e=.returned (.agg #[O x,O y])/\Y W w'):=fun W=>by
  have:=agL W false q;rw[d] at this;exact this
 have m:=Ja k;rw[d];clear g hb hr k d
 by_cases h1:a.hi<b.lo
 ·obtain rfl:q=true:=by rw[<-hq];simp[h1]
  have d1:decide (a.hi<b.lo)=true:=decide_eq_true h1;clear hq h1;go_enter Tryz.func86,Tryz.ntmps86;go_wp2_with (go_at_call 87;go_must (refine(m.out _).mono ?_;rintro e w1 ⟨rfl,c⟩;have hk:Q w1 (w.heap.size+1+1) #[O 0,O 0] 45:=zH c (zI Zs) Zs;have f0:=zA (i:=0) hk rfl;have f1:=zA (i:=1) hk rfl;have g0:=zE (i:=0) hk;have g1:=zE (i:=1) hk;have j:=lt_of_block hk;have l:=Below.trans (show Y w _ from Zv) (c.mono Zy);clear c hk))
  refine bodyPost_ret (v:=.agg #[O x,O y]) ?_ rfl ⟨rfl,Zx⟩;rw[zM rfl];go_simp
 ·have d1:decide (a.hi<b.lo)=false:=decide_eq_false h1;obtain⟨q2,h⟩:∃q2,decide (b.hi<a.lo)=q2:=⟨_,rfl⟩
  obtain rfl:q=q2:=by rw[<-hq,<-h];simp[h1]
  clear hq h1;go_enter Tryz.func86,Tryz.ntmps86;go_wp2_with (go_at_call 87;go_must (refine(m.out _).mono ?_;rintro e w1 ⟨rfl,c⟩;have hk:Q w1 (w.heap.size+1+1) #[O 0,O 0] 45:=zH c (zI Zs) Zs;have f0:=zA (i:=0) hk rfl;have f1:=zA (i:=1) hk rfl;have g0:=zE (i:=0) hk;have g1:=zE (i:=1) hk;have j:=lt_of_block hk;have l:=Below.trans (show Y w _ from Zv) (c.mono Zy);clear c hk))
  refine bodyPost_ret (v:=.agg #[O x,O y]) ?_ rfl ⟨rfl,Zx⟩;rw[zM rfl];go_simp
theorem ltu_any (w:World){a b:Rg}(g:a.ok)(hb:b.ok):I 88 #[.agg #[O (a.lo:Int),O (a.hi:Int)],.agg #[O (b.lo:Int),O (b.hi:Int)]] w (be w (if a.hi<b.lo then⟨1,1⟩ else if b.hi<=a.lo then⟨0,0⟩ else⟨0,1⟩)):=by
 have t:=g.1;have o:=g.2;have c:=hb.1;have m:=hb.2;obtain⟨q,hq⟩:∃q,decide (a.hi<b.lo)=q:=⟨_,rfl⟩
 obtain⟨p,hp⟩:∃p,decide (b.hi<=a.lo)=p:=⟨_,rfl⟩
 have hr:(if a.hi<b.lo then(⟨1,1⟩:Rg) else if b.hi<=a.lo then⟨0,0⟩ else⟨0,1⟩)=if q=true then⟨1,1⟩ else if p=true then⟨0,0⟩ else⟨0,1⟩:=by rw[<-hq,<-hp];simp
 rw[hr];obtain⟨⟨x,y⟩,d⟩:∃r:Rg,(if q=true then(⟨1,1⟩:Rg) else if p=true then⟨0,0⟩ else⟨0,1⟩)=r:=⟨_,rfl⟩
 have h:∀W,I 87 #[.bool q,.bool p] W (fun e w'=>e=.returned (.agg #[O x,O y])/\Y W w'):=fun W=>by
  have:=agL W q p;rw[d] at this;exact this
 have j:=Ja h;rw[d];clear g hb hr h d;go_enter Tryz.func88,Tryz.ntmps88;go_wp2_with (go_at_call 87;go_must (refine(j.out _).mono ?_;rintro e w1 ⟨rfl,c⟩;have hk:Q w1 (w.heap.size+1+1) #[O 0,O 0] 45:=zH c (zI Zs) Zs;have f0:=zA (i:=0) hk rfl;have f1:=zA (i:=1) hk rfl;have g0:=zE (i:=0) hk;have g1:=zE (i:=1) hk;have k:=lt_of_block hk;have l:=Below.trans (show Y w _ from Zv) (c.mono Zy);clear c hk))
 refine bodyPost_ret (v:=.agg #[O x,O y]) ?_ rfl ⟨rfl,Zx⟩;rw[zM rfl];go_simp
theorem shl_any (w:World){a b:Rg}(l:a.ok)(hb:b.ok):I 82 #[.agg #[O (a.lo:Int),O (a.hi:Int)],.agg #[O (b.lo:Int),O (b.hi:Int)]] w (be w (if i7 b=true then i4 (a.lo*2^(b.lo%16)) (a.hi*2^(b.lo%16)) else lf)):=by
 have a4:=l.1;have a3:=l.2;have g:=hb.1;have d:=hb.2
 by_cases j:b.lo=b.hi
 ·rw[if_pos (by unfold i7;simpa using j)];have hq:((b.lo:Int)==(b.hi:Int))=true:=by rw[beq_iff_eq];omega
  have hp:2^(b.lo%16)<=32768:=Nat.pow_le_pow_right (show 0<2 by decide) (show b.lo%16<=15 by omega);have a0:a.lo*2^(b.lo%16)<=65535*32768:=Nat.mul_le_mul Zo hp;have t:a.hi*2^(b.lo%16)<=65535*32768:=Nat.mul_le_mul a3 hp;obtain⟨u,h⟩:∃u,a.lo*2^(b.lo%16)=u:=⟨_,rfl⟩
  obtain⟨v,hv⟩:∃v,a.hi*2^(b.lo%16)=v:=⟨_,rfl⟩
  have o:u<=v:=by rw[<-h,<-hv];exact Qw _ a4
  have m:v<=2147450880:=by rw[<-hv];exact t
  have a7:u<=2147450880:=Jn o m;clear a0 t hp;obtain⟨⟨x,y⟩,hr⟩:∃r,i4 u v=r:=⟨_,rfl⟩
  have a6:wrap64 ((a.lo:Int)*2^(b.lo%16))=(u:Int):=by rw[show(a.lo:Int)*2^(b.lo%16)=((a.lo*2^(b.lo%16):Nat):Int) by simp,h];clear h hv;exact IntWalk.wrap64_in _ ⟨by omega,by omega⟩
  have a5:wrap64 ((a.hi:Int)*2^(b.lo%16))=(v:Int):=by rw[show(a.hi:Int)*2^(b.lo%16)=((a.hi*2^(b.lo%16):Nat):Int) by simp,hv];clear h hv;exact IntWalk.wrap64_in _ ⟨by omega,by omega⟩
  have hc:∀W,I 76 #[U u,U v] W (fun e w'=>e=.returned (.agg #[O x,O y])/\Y W w'):=fun W=>by
   have:=agC W o (Nat.lt_of_le_of_lt m Zd);rw[hr] at this;exact this
  have HC:=Ja hc;rw[h,hv,hr]
  have k:=Ja (show ∀W,I 83 #[.agg #[O (b.lo:Int),O (b.hi:Int)]] W (fun e w'=>e=.returned (.bool true)/\Y W w') from fun W=>by
   have:=afD W b;rw[show i7 b=true from decide_eq_true j] at this
   exact this)
  clear l hb hr hc j h hv hq;go_enter Tryz.func82,Tryz.ntmps82;go_upto_region 3 with(go_at_call 83;go_must (refine(k.out _).mono ?_;rintro e w2 ⟨rfl,d⟩;have c:=Ja (show Y w w2/\Q w2 w.heap.size #[O (a.lo:Int),O (a.hi:Int)] 45/\Q w2 (w.heap.size+1) #[O (b.lo:Int),O (b.hi:Int)] 45/\Q w2 (w.heap.size+1+1) #[O 0,O 0] 45 from⟨Below.trans (show Y w _ from Zv) (d.mono Zy),zH d (zB (zB (zI rfl))) Zy,zH d (zB (zI Zs)) Zy,zH d (zI Zs) Zs⟩);clear d))
  have c0:=zA (i:=0) c.out.2.1 rfl;have c1:=zA (i:=1) c.out.2.1 rfl;have c2:=zA (i:=0) c.out.2.2.1 rfl;have c3:=zA (i:=1) c.out.2.2.1 rfl;have l1:=lt_of_block c.out.2.1;have l2:=lt_of_block c.out.2.2.1;have l3:=lt_of_block c.out.2.2.2;go_wp2_with (go_at_call 76;go_must (refine(HC.out _).mono ?_;rintro e w1 ⟨rfl,g⟩;have hk:=zH g c.out.2.2.2 (lt_of_block c.out.2.2.2);have f0:=zA (i:=0) hk rfl;have f1:=zA (i:=1) hk rfl;have g0:=zE (i:=0) hk;have g1:=zE (i:=1) hk;have a1:=lt_of_block hk;have a2:=c.out.1.trans (g.mono c.out.1.size);clear g hk))
  refine bodyPost_ret (v:=.agg #[O x,O y]) ?_ rfl ⟨rfl,Zx⟩;rw[zM rfl];go_simp
 ·rw[if_neg (by unfold i7;simpa using j)]
  have k:=Ja (show ∀W,I 83 #[.agg #[O (b.lo:Int),O (b.hi:Int)]] W (fun e w'=>e=.returned (.bool false)/\Y W w') from fun W=>by
   have:=afD W b;rw[show i7 b=false from decide_eq_false j] at this
   exact this)
  clear l hb j;go_enter Tryz.func82,Tryz.ntmps82;go_upto_region 2 with(go_at_call 83;go_must (refine(k.out _).mono ?_;rintro e w2 ⟨rfl,d⟩;have c:=Ja (show Y w w2/\Q w2 w.heap.size #[O (a.lo:Int),O (a.hi:Int)] 45/\Q w2 (w.heap.size+1) #[O (b.lo:Int),O (b.hi:Int)] 45/\Q w2 (w.heap.size+1+1) #[O 0,O 0] 45 from⟨Below.trans (show Y w _ from Zv) (d.mono Zy),zH d (zB (zB (zI rfl))) Zy,zH d (zB (zI Zs)) Zy,zH d (zI Zs) Zs⟩);clear d))
  have c0:=zA (i:=0) c.out.2.1 rfl;have c1:=zA (i:=1) c.out.2.1 rfl;have c2:=zA (i:=0) c.out.2.2.1 rfl;have c3:=zA (i:=1) c.out.2.2.1 rfl;have l1:=lt_of_block c.out.2.1;have l2:=lt_of_block c.out.2.2.1;have l3:=lt_of_block c.out.2.2.2;go_wp2_with (go_at_call 39;go_must (refine(aeH _).mono ?_;rintro e w1 ⟨rfl,g⟩;have hk:=zH g c.out.2.2.2 (lt_of_block c.out.2.2.2);have f0:=zA (i:=0) hk rfl;have f1:=zA (i:=1) hk rfl;have g0:=zE (i:=0) hk;have g1:=zE (i:=1) hk;have a1:=lt_of_block hk;have a2:=c.out.1.trans (g.mono c.out.1.size);clear g hk))
  refine bodyPost_ret (v:=.agg #[O 0,O 65535]) ?_ rfl ⟨rfl,Zx⟩;rw[zM rfl];go_simp
open Go.RowKit Go.Maps
def ai7 (v:Value):Option (DataW Unit×List MemPlace):=
 match v with
 |.func (.func k) fs cs=>if fs.size=0/\cs.size=0 then some (.lit (.int .i64 (k:Int)),[]) else none
 |.nilFunc=>some (.lit (.int .i64 (-1)),[])
 |_=>none
def ruV:Option Nat->Value
 |some k=> .func (.func k) #[] #[]
 |none=> .nilFunc
def ruD:Option Nat->DataW Unit
 |some k=> .lit (.int .i64 (k:Int))
 |none=> .lit (.int .i64 (-1))
theorem ahL (o:Option Nat):ai7 (ruV o)=some (ruD o,[]):=by cases o<;>rfl
theorem ajo {v:Value}{o:Option Nat}{ps:List MemPlace}(h:ai7 v=some (ruD o,ps)):v=ruV o:=by
 unfold ai7 at h
 split at h
 ·rename_i k fs cs
  split at h
  ·rename_i hs
   have e1:fs=#[]:=Array.eq_empty_of_size_eq_zero hs.1;have e2:cs=#[]:=Array.eq_empty_of_size_eq_zero hs.2;subst e1 e2
   cases o with
   |none=>simp only[ruD,Option.some.injEq,Prod.mk.injEq,DataW.lit.injEq,Lit.int.injEq,true_and] at h;have:=h.1;omega
   |some j=>simp only[ruD,Option.some.injEq,Prod.mk.injEq,DataW.lit.injEq,Lit.int.injEq,true_and] at h;have:k=j:=Int.ofNat.inj h.1
            subst this;rfl
  ·cases h
 ·cases o with
  |none=>rfl
  |some j=>simp[ruD] at h
 ·cases h
theorem zeroRu (w:World):(zeroValue 176).run Tryz.prog w=.ok .nilFunc w:=by kernel_rfl
def ae3 (w:World)(b n:Nat)(g:Int->Option Nat):Prop:=
 ∃D:DataW Unit,w.ownsMap Tryz.prog 3 ai7 b n D/\∀x,I64 x->D.atKey (.int .i64 x) (ruD none)=ruD (g x)/\Maps.has D (.int .i64 x)=(g x).isSome
theorem ae3.made (w:World):ae3 (w.alloc (.map #[] 0)) w.heap.size 0 (fun _=>none):=⟨_,World.ownsMap_made _ _ _ _,fun _ _=>⟨rfl,rfl⟩⟩
theorem ae3.blk{b n:Nat}{g:Int->Option Nat}(h:ae3 w b n g):∃es clock,w.heap[b]? =some (.map es clock):=by
 obtain⟨D,⟨es,clock,h1,h2⟩,h3⟩:=h;exact⟨es,clock,h1⟩
theorem ae3.same{b n:Nat}{g:Int->Option Nat}(h:ae3 w b n g)(hb:w'.heap[b]? =w.heap[b]?):ae3 w' b n g:=by
 obtain⟨D,⟨es,c,h1,h2⟩,h3⟩:=h;exact⟨D,⟨es,c,hb.trans h1,h2⟩,h3⟩
theorem ae3.below{b n:Nat}{g:Int->Option Nat}(h:ae3 w b n g)(hb:Y w w'):ae3 w' b n g:=by
 obtain⟨es,c,d⟩:=h.blk;exact h.same (hb.block b (lt_of_block d))
theorem ae3.lookOk{b n:Nat}{g:Int->Option Nat}(h:ae3 w b n g){x:Int}(d:I64 x):
 (Instr.lookup 95 (.map (some b)) (U x) true).run Tryz.prog w=.ok (.tuple #[ruV (g x),.bool (g x).isSome]) w:=by
 obtain⟨D,h,hf⟩:=h;obtain⟨v,ps,c,hv⟩:=h.look_ok xH Tryz.underlying95 (zeroRu w) (ahL none) (vB d);rw[(hf x d).1] at hv;rw[(hf x d).2,ajo hv] at c;exact c
def putR (g:Int->Option Nat)(x:Int)(k:Nat):Int->Option Nat:=fun y=>if y=x then some k else g y
theorem aiH{n b:Nat}(h:Below n w0 w)(hg:w.grownBy w' (some b))(hb:n<=b)(hs:n<=w.heap.size):Below n w0 w':=
 ⟨hg.os.trans h.os,hg.tape.trans h.tape,hg.output.trans h.output,Jn h.size hg.size,fun k hk=>(hg.block k Zo (by intro e;cases e;omega)).trans (h.block k hk)⟩
theorem akr{b n:Nat}{g:Int->Option Nat}(h:ae3 w b n g)(m:n<9000000000000000000)(kx:Int)(k:Nat)(d:I64 kx):
 ∃w',(Instr.mapUpdate 95 (.map (some b)) (.int .i64 kx) (.func (.func k) #[] #[])).run Tryz.prog w=.ok () w'/\ae3 w' b (n+1) (putR g kx k)/\w.grownBy w' (some b):=by
 obtain⟨D,h,hf⟩:=h;obtain⟨w1,j,l,c⟩:=h.update xH Tryz.underlying95 (by unfold maxLen;omega) (vB d) (ahL (some k));refine⟨w1,j,⟨_,l,fun y hy=>?_⟩,c⟩;have i:WideAt.IsKeyLit (.int .i64 kx):=xH.key (vB d)
 by_cases e:y=kx
 ·subst e;simp only[putR,if_true];exact⟨Maps.atKey_put_same h.isMap i _ _,Maps.has_put_same h.isMap i _⟩
 ·simp only[putR,if_neg e];rw[Maps.atKey_put_other (by simpa using e),Maps.has_put_other (by simpa using e)];exact hf y hy
theorem ly{b n:Nat}{g:Int->Option Nat}(h:ae3 w b n g)(hb:Below b w0 w/\b<w.heap.size)(d:n<9000000000000000000)(kx:Int)(k:Nat)(c:I64 kx):
 ∃w',(Instr.mapUpdate 95 (.map (some b)) (U kx) (.func (.func k) #[] #[])).run Tryz.prog w=.ok () w'/\ae3 w' b (n+1) (putR g kx k)/\(Below b w0 w'/\b<w'.heap.size):=by
 obtain⟨w',h1,h2,h3⟩:=akr h d kx k c;exact⟨w',h1,h2,⟨aiH hb.1 h3 (Je _) (Qd hb.2),Jy hb.2 h3.size⟩⟩
def ruG:Int->Option Nat:=(putR (putR (putR (putR (putR (putR (putR (putR (putR (putR (putR (putR (putR (putR (putR (putR (putR (fun _=>none) 3 70) 4 72) 5 73) 6 74) 7 75) 8 77) 9 78) 10 79) 11 81) 12 82) 13 84) 14 85) 15 86) 16 88) 17 89) 19 90) 23 91)
theorem akw (w:World):I 37 #[] w (fun e w'=>e=.returned (.map (some w.heap.size))/\ae3 w' w.heap.size 17 ruG/\Y w w'/\w.heap.size<w'.heap.size):=by
 obtain⟨G,hG⟩:∃G,ruG=G:=⟨_,rfl⟩
 rw[hG];go_enter Tryz.func37,Tryz.ntmps37;have b3:=ae3.made w;have c4:Y w (w.alloc (.map #[] 0))/\w.heap.size<(w.alloc (.map #[] 0)).heap.size:=⟨Below.alloc (Below.refl _ _) (Je _) _,by simp⟩
 obtain⟨w1,e2,b2,c3⟩:=ly b3 c4 Zd 3 70 (by unfold I64;omega);clear b3 c4;obtain⟨w2,e1,b1,c2⟩:=ly b2 c3 Zd 4 72 (by unfold I64;omega);clear b2 c3;obtain⟨w3,e0,b0,c0⟩:=ly b1 c2 Zd 5 73 (by unfold I64;omega);clear b1 c2;obtain⟨w4,d9,a7,b9⟩:=ly b0 c0 Zd 6 74 (by unfold I64;omega);clear b0 c0;obtain⟨w5,d8,a6,b8⟩:=ly a7 b9 Zd 7 75 (by unfold I64;omega);clear a7 b9;obtain⟨w6,d7,a5,b7⟩:=ly a6 b8 Zd 8 77 (by unfold I64;omega);clear a6 b8;obtain⟨w7,d6,a4,b6⟩:=ly a5 b7 Zd 9 78 (by unfold I64;omega);clear a5 b7;obtain⟨w8,d5,a3,b5⟩:=ly a4 b6 Zd 10 79 (by unfold I64;omega);clear a4 b6;obtain⟨w9,d4,a2,b4⟩:=ly a3 b5 Zd 11 81 (by unfold I64;omega);clear a3 b5;obtain⟨w10,d3,l,a1⟩:=ly a2 b4 Zd 12 82 (by unfold I64;omega);clear a2 b4;obtain⟨w11,d2,k,a0⟩:=ly l a1 Zd 13 84 (by unfold I64;omega);clear l a1;obtain⟨w12,d1,j,y⟩:=ly k a0 Zd 14 85 (by unfold I64;omega);clear k a0;obtain⟨w13,d0,i,x⟩:=ly j y Zd 15 86 (by unfold I64;omega);clear j y;obtain⟨w14,c9,h,u⟩:=ly i x Zd 16 88 (by unfold I64;omega);clear i x;obtain⟨w15,c8,g,t⟩:=ly h u Zd 17 89 (by unfold I64;omega);clear h u;obtain⟨w16,c7,d,o⟩:=ly g t Zd 19 90 (by unfold I64;omega);clear g t;obtain⟨w17,c5,c,m⟩:=ly d o Zd 23 91 (by unfold I64;omega);clear d o;have HM:=Ja c;have HB:=Ja m;clear c m;have e3:=@run_makeMap Tryz.prog;go_wp2;go_ret;subst hG;exact⟨rfl,HM.out,HB.out.1,HB.out.2⟩
theorem ruG_none(h:ruG c=none)(a b:Rg):af6 c a b=none:=by
 simp only[ruG,putR] at h
 by_cases d:c=23
 ·rw[if_pos d] at h;cases h
 rw[if_neg d] at h
 by_cases g:c=19
 ·rw[if_pos g] at h;cases h
 rw[if_neg g] at h
 by_cases i:c=17
 ·rw[if_pos i] at h;cases h
 rw[if_neg i] at h
 by_cases j:c=16
 ·rw[if_pos j] at h;cases h
 rw[if_neg j] at h
 by_cases k:c=15
 ·rw[if_pos k] at h;cases h
 rw[if_neg k] at h
 by_cases l:c=14
 ·rw[if_pos l] at h;cases h
 rw[if_neg l] at h
 by_cases m:c=13
 ·rw[if_pos m] at h;cases h
 rw[if_neg m] at h
 by_cases o:c=12
 ·rw[if_pos o] at h;cases h
 rw[if_neg o] at h
 by_cases t:c=11
 ·rw[if_pos t] at h;cases h
 rw[if_neg t] at h
 by_cases u:c=10
 ·rw[if_pos u] at h;cases h
 rw[if_neg u] at h
 by_cases w:c=9
 ·rw[if_pos w] at h;cases h
 rw[if_neg w] at h
 by_cases x:c=8
 ·rw[if_pos x] at h;cases h
 rw[if_neg x] at h
 by_cases y:c=7
 ·rw[if_pos y] at h;cases h
 rw[if_neg y] at h
 by_cases h6:c=6
 ·rw[if_pos h6] at h;cases h
 rw[if_neg h6] at h
 by_cases h5:c=5
 ·rw[if_pos h5] at h;cases h
 rw[if_neg h5] at h
 by_cases h4:c=4
 ·rw[if_pos h4] at h;cases h
 rw[if_neg h4] at h
 by_cases h3:c=3
 ·rw[if_pos h3] at h;cases h
 rw[if_neg h3] at h;unfold af6;simp only[if_neg h3,if_neg h4,if_neg h5,if_neg h6,if_neg y,if_neg x,if_neg w,if_neg u,if_neg t,if_neg o,if_neg m,if_neg l,if_neg k,if_neg j,if_neg i,if_neg g,if_neg d]
theorem ai2(h:ruG c=some k){a b:Rg}(d:a.ok)(hb:b.ok)(w:World):∃r,af6 c a b=some r/\I k #[.agg #[O (a.lo:Int),O (a.hi:Int)],.agg #[O (b.lo:Int),O (b.hi:Int)]] w (be w r):=by
 simp only[ruG,putR] at h
 by_cases g:c=23
 ·rw[if_pos g] at h;cases h;subst g;exact⟨_,rfl,ajs w d hb⟩
 rw[if_neg g] at h
 by_cases i:c=19
 ·rw[if_pos i] at h;cases h;subst i;exact⟨_,rfl,aiq w d hb⟩
 rw[if_neg i] at h
 by_cases j:c=17
 ·rw[if_pos j] at h;cases h;subst j;exact⟨_,rfl,lts_any w d hb⟩
 rw[if_neg j] at h
 by_cases l:c=16
 ·rw[if_pos l] at h;cases h;subst l;exact⟨_,rfl,ltu_any w d hb⟩
 rw[if_neg l] at h
 by_cases m:c=15
 ·rw[if_pos m] at h;cases h;subst m;exact⟨_,rfl,eq_any w d hb⟩
 rw[if_neg m] at h
 by_cases o:c=14
 ·rw[if_pos o] at h;cases h;subst o;exact⟨_,rfl,sar_any w d hb⟩
 rw[if_neg o] at h
 by_cases t:c=13
 ·rw[if_pos t] at h;cases h;subst t;exact⟨_,rfl,aih w ⟨by have:=d.1;have:=d.2;omega,by have:=d.2;omega⟩ (by have:=hb.1;have:=hb.2;omega)⟩
 rw[if_neg t] at h
 by_cases u:c=12
 ·rw[if_pos u] at h;cases h;subst u;exact⟨_,rfl,shl_any w d hb⟩
 rw[if_neg u] at h
 by_cases x:c=11
 ·rw[if_pos x] at h;cases h;subst x;exact⟨_,rfl,xor_any w d hb⟩
 rw[if_neg x] at h
 by_cases y:c=10
 ·rw[if_pos y] at h;cases h;subst y;exact⟨_,rfl,or_any w d hb⟩
 rw[if_neg y] at h
 by_cases h9:c=9
 ·rw[if_pos h9] at h;cases h;subst h9;exact⟨_,rfl,and_any w d hb⟩
 rw[if_neg h9] at h
 by_cases h8:c=8
 ·rw[if_pos h8] at h;cases h;subst h8;exact⟨_,rfl,ajt w d hb⟩
 rw[if_neg h8] at h
 by_cases h7:c=7
 ·rw[if_pos h7] at h;cases h;subst h7;exact⟨_,rfl,mul_any w d hb⟩
 rw[if_neg h7] at h
 by_cases h6:c=6
 ·rw[if_pos h6] at h;cases h;subst h6;exact⟨_,rfl,sub_any w d hb⟩
 rw[if_neg h6] at h
 by_cases h5:c=5
 ·rw[if_pos h5] at h;cases h;subst h5;exact⟨_,rfl,add_any w d hb⟩
 rw[if_neg h5] at h
 by_cases h4:c=4
 ·rw[if_pos h4] at h;cases h;subst h4;exact⟨_,rfl,not_any w d hb⟩
 rw[if_neg h4] at h
 by_cases h3:c=3
 ·rw[if_pos h3] at h;cases h;subst h3;exact⟨_,rfl,neg_any w d hb⟩
 rw[if_neg h3] at h;cases h
def yM (w:World)(size:Nat)(xv:Value)(m:Nat)(news:List Value):Prop:=
 ∃a c,xv=.slice a m c/\news.length=m*size/\(∀u∈news,u.oneCell'=true)/\((a=none/\m=0)∨∃ad,a=some ad/\∀j u,news[j]? =some u->w.cell? (ad.add j)=some u)
theorem tE {P:Program}(w:World)(base:Nat)(t ty e:TypeId)(i:TypeInfo)(z:Value)(size bytes:Nat)(ht:P.underlying t=some (.slice e))(hi:P.info? e=some i)(hz:i.zero=some z)
 (k:i.size=size) (a1:i.bytes=bytes) (x:z.cells.size=size) (y:0<size) (v:Value) (n:Nat) (xs:List Value) (h:w.ownsRow base e size v n xs)
 (xv:Value) (m:Nat) (d:List Value) (u:yM w size xv m d) (a2:n+m<=maxLen) (j:(n+m)*bytes<=140737488355328) (o:base<=w.heap.size):
 ∃v' w',(Builtin.append_ #[t,t] ty #[v,xv]).run P w=.ok v' w'/\w'.ownsRow base e size v' (n+m) (xs++d)/\w.grownBy w' v.ownBlock/\(v'.ownBlock=v.ownBlock∨v'.ownBlock=some w.heap.size):=by
 obtain⟨a,c,rfl,hl,h1,⟨rfl,rfl⟩|⟨ad,rfl,l⟩⟩:=u
 ·have hn:d=[]:=Nz (by simpa using hl);subst hn;refine⟨v,w,?_,by simpa using h,⟨rfl,rfl,rfl,Je _,fun _ _ _=>rfl⟩,.inl rfl⟩;rcases h.2 with⟨rfl,rfl⟩|⟨g,a7,cur,rfl,a6,hg,a0,a5,a4,a3⟩
  ·simp[Builtin.append_,run_underlying ht,sizeOf,typeInfo,hi,Builtin.lenOf,run_firstCells_none]
  ·simp[Builtin.append_,run_underlying ht,sizeOf,typeInfo,hi,Builtin.lenOf,run_firstCells_none,a0,storeCells]
 ·obtain⟨v',w',h2,h3,h4,_,h5⟩:=run_append_own_at (P:=P) w base t ty e i z size bytes ht hi hz k a1 x y v n xs h ad m c d hl l h1 a2 j o;exact⟨v',w',h2,h3,h4,h5⟩
theorem zK {P:Program}(w:World){ops:Array Oper}{rest:List Oper}{o:Oper}{a:Act}{Q:Exit->Act->World->Prop}(a0:o.guard=none)(s x:Operand)(t:TypeId)
 (ho:o.op=.call {callee:=.builtin .append,args:=#[s,x],argTypes:=#[t,t]})
 (base:Nat) (e:TypeId) (i:TypeInfo) (z:Value) (size bytes:Nat) (ht:P.underlying t=some (.slice e)) (hi:P.info? e=some i) (hz:i.zero=some z)
 (g:i.size=size) (a1:i.bytes=bytes) (u:z.cells.size=size) (y:0<size)
 (v:Value) (n:Nat) (xs:List Value) (hs:a.eval s=v) (l:w.ownsRow base e size v n xs)
 (xv:Value) (m:Nat) (c:List Value) (hx:a.eval x=xv) (k:yM w size xv m c) (a2:n+m<=maxLen) (d:(n+m)*bytes<=140737488355328) (j:base<=w.heap.size)
 (h:∀v' w',w'.ownsRow base e size v' (n+m) (xs++c)->w.grownBy w' v.ownBlock->(v'.ownBlock=v.ownBlock∨v'.ownBlock=some w.heap.size)->wpList P ops Q rest (a.put o.dst v') w'):
 wpList P ops Q (o::rest) a w:=by
 refine wpList_plain a0 fun K hK=>?_
 obtain⟨v',w',hr,h2,h3,h5⟩:=tE (P:=P) w base t o.type e i z size bytes ht hi hz g a1 u y v n xs l xv m c k a2 d j;unfold Oper.wp execOp;simp only[ho,resolve,invoke,builtin,Sem.run_bind,Sem.run_pure,Result.andThen_ok,List.map_toArray,Ql,List.map_nil,hs,hx,hr];exact hK _ _ (h v' w' h2 h3 h5)
theorem yM.one{b:Nat}{x:Value}{e:TypeId}(h:Q w b #[x] e)(c:x.oneCell'=true):yM w 1 (T b 1 1) 1 [x]:=
 ⟨_,_,rfl,rfl,by simpa using c,.inr ⟨_,rfl,Oi (cs:=#[x]) h⟩⟩
theorem zY.src{B:Nat}{v:Value}(h:zY w B v xs):yM w 1 v xs.length (xs.map zN):=by
 obtain⟨a,d,rfl,h1,h2,h3⟩:=h;refine⟨a,d,rfl,by simp,by simp[zN,Value.oneCell'],?_⟩
 cases xs with
 |nil=>
  cases a with
  |none=>exact .inl ⟨rfl,rfl⟩
  |some ad=>exact .inr ⟨ad,rfl,fun j u hu=>by simp at hu⟩
 |cons x xs=>
  obtain⟨b,o,rfl,_,_⟩:=h3 0 x rfl;refine .inr ⟨_,rfl,fun j u hu=>?_⟩;rw[Jr,Oz] at hu;obtain⟨y,g,rfl⟩:=hu;obtain⟨b',o',e,_,c,_⟩:=h3 j y g;cases e;rw[Nk] at c;unfold Addr.add
  split
  ·rename_i i;rw[i] at c;exact c
  ·exact c
theorem uA{S:Nat}{v:Value}{n:Nat}(h:w.ownsRow S 3 1 v n (xs.map zN))(j:xs.length=n)(i:∀x∈xs,I64 x):zY w w.heap.size v xs:=by
 subst j;obtain⟨a,c,rfl⟩:=zG h;have hl:=zm h;refine⟨a,c,rfl,hl.1,by omega,fun k x hk=>?_⟩;have l:=(Jh.1 hk).1;obtain⟨g,m,e,hg,d⟩:=h.form Zo;cases e;refine⟨g,0,rfl,d,?_,i x (Ji hk)⟩;rw[Nk,Ng];exact(h.cellAt k Zo).trans (by rw[Jr,hk];rfl)
theorem zY.all{B:Nat}{v:Value}(h:zY w B v xs):∀x∈xs,I64 x:=by
 intro x c;obtain⟨k,hk⟩:=Ny c;obtain⟨_,_,_,_,_,h3⟩:=h;obtain⟨_,_,_,_,_,d⟩:=h3 k x hk;exact d
theorem yG{P:Program}{ops:Array Oper}{o:Oper}{a:Act}{K:Act->World->Prop}{Q:Exit->Act->World->Prop}{E:Prop}(a0:o.guard=none)(s x:Operand)(t:TypeId)
 (ho:o.op=.call {callee:=.builtin .append,args:=#[s,x],argTypes:=#[t,t]})
 (base:Nat) (e:TypeId) (i:TypeInfo) (z:Value) (size bytes:Nat) (ht:P.underlying t=some (.slice e)) (hi:P.info? e=some i) (hz:i.zero=some z)
 (g:i.size=size) (a1:i.bytes=bytes) (u:z.cells.size=size) (y:0<size)
 (v:Value) (n:Nat) (xs:List Value) (hs:a.eval s=v) (l:w.ownsRow base e size v n xs)
 (xv:Value) (m:Nat) (c:List Value) (hx:a.eval x=xv) (k:yM w size xv m c) (a2:n+m<=maxLen) (d:(n+m)*bytes<=140737488355328) (j:base<=w.heap.size)
 (h:∀aa cap w',w'.ownsRow base e size (.slice aa (n+m) cap) (n+m) (xs++c)->w.grownBy w' v.ownBlock->((Value.slice aa (n+m) cap).ownBlock=v.ownBlock∨(Value.slice aa (n+m) cap).ownBlock=some w.heap.size)->K (a.put o.dst (.slice aa (n+m) cap)) w'):
 if Region.wanted o (yielded ops a.tmps)=true then Oper.wp P o a w K Q else E:=by
 have hw:Region.wanted o (yielded ops a.tmps)=true:=by simp[Region.wanted,a0]
 rw[if_pos hw];obtain⟨v',w',hr,h2,h3,h5⟩:=tE (P:=P) w base t o.type e i z size bytes ht hi hz g a1 u y v n xs l xv m c k a2 d j;obtain⟨aa,cap,rfl⟩:=zG h2;unfold Oper.wp execOp;simp only[ho,resolve,invoke,builtin,Sem.run_bind,Sem.run_pure,Result.andThen_ok,List.map_toArray,Ql,List.map_nil,hs,hx,hr];exact h aa cap w' h2 h3 h5
theorem aU{p:IProg}(g:p.args.all tX=true)(h:opF p o=true):o.args.length<=1000000000000:=by
 unfold opF at h;rw[Jm] at h
 have c:∀i,p.args.getD i 0<=8:=by
  intro i;rw[Jj]
  cases d:p.args[i]? with
  |none=>simp
  |some x=>
   have:=Oe.1 g x (Ji d);unfold tX at this;simp only[Jm,decide_eq_true_eq] at this;exact this.2
 have h2:=h.2
 split at h2
 ·simp only[Jm,decide_eq_true_eq] at h2;have:=c o.a.toNat;omega
 ·split at h2
  ·simp only[Jm,decide_eq_true_eq] at h2;omega
  ·simp only[Jm,decide_eq_true_eq] at h2;omega
theorem qM{e:IEdge}(h:uM blocks e=true):xz blocks e.block∈blocks/\e.args.length=(xz blocks e.block).params.length/\1<=e.block/\e.block.toNat<blocks.length:=by
 unfold uM at h;simp only[Jm,decide_eq_true_eq] at h;refine⟨?_,h.2,h.1.1,by omega⟩;unfold xz;rw[Jj,Jd Zo,Ot];exact Uf _
theorem lD(hs:vZ blocks){t:ITerm}(h:aw blocks t=true):∀e∈t.to,e.args.length<=2000000:=by
 intro e c;unfold aw at h;rw[Jm] at h;obtain⟨h1,h2,_⟩:=qM (Oe.1 h.1 e c);rw[h2];exact(hs.2 _ h1).1
theorem nO(c:blocks≠ [])(h:∀b∈blocks,aw blocks b.term=true):zw (zy blocks):=by
 refine⟨by unfold zy;rw[Nr];exact List.length_pos_iff.2 c,fun l hl s hs=>?_⟩;unfold zy at hl;obtain⟨b,hb,rfl⟩:=Nu.1 hl;obtain⟨e,d,rfl⟩:=Nu.1 hs;have ht:=h b hb;unfold aw at ht;rw[Jm] at ht;have:=(qM (Oe.1 ht.1 e d)).2.2.2;unfold zy;rw[Nr];exact this
theorem graphI_F(h:∀b∈blocks,aw blocks b.term=true):zk blocks=(zy blocks).map (List.map (fun n:Nat=>(n:Int))):=by
 unfold zk zy tW;rw[List.map_map];refine Up fun b hb=>?_
 show b.term.to.map (·.block)=(b.term.to.map fun e=>e.block.toNat).map (fun n:Nat=>(n:Int))
 rw[List.map_map];refine Up fun e he=>?_
 have ht:=h b hb;unfold aw at ht;rw[Jm] at ht;have:=(qM (Oe.1 ht.1 e he)).2.2.1
 show e.block=((e.block.toNat:Nat):Int)
 omega
theorem bU{sv:Value}(hs:vZ blocks)(c:blocks≠ [])(h:∀b∈blocks,aw blocks b.term=true)(hr:aaB zN w w.heap.size sv (zk blocks)):GraphIn w sv (zy blocks):=by
 rw[graphI_F h] at hr;refine⟨(aaB.map (fun n:Nat=>(n:Int)) (fun x=>rfl)).1 hr,nO c h,by unfold zy;rw[Nr];exact hs.1,fun row hrow=>?_⟩;unfold zy at hrow;obtain⟨b,hb,rfl⟩:=Nu.1 hrow;rw[Nr];exact(hs.2 b hb).2.2
theorem xu (blocks:List IBlk):(zy blocks).length=blocks.length:=by simp[zy]
theorem dW:∀ {l m:List Nat},l.Nodup->(∀x∈l,x∈m)->l.length<=m.length
 | [],m,_,_=>Jt _
 |a::l,m,hl,h=>by
  obtain⟨ha,hl⟩:=Qt.1 hl;have hm:=h a (List.mem_cons_self ..);have h2:=dW (m:=m.erase a) hl (fun x hx=>(List.mem_erase_of_ne (fun e=>ha (by rw[<-e];exact hx))).2 (h x (List.mem_cons_of_mem _ hx)));rw[List.length_erase_of_mem hm] at h2;have:=List.length_pos_of_mem hm;rw[Nq];omega
theorem jl(hv:zw g)(h:(vD g).length=g.length):∀x,x<g.length->Reach (GE g) x:=by
 obtain⟨ns,c⟩:=adR hv;rw[c.eq] at h;intro x j;refine(c.mem x).1 ?_;apply Classical.byContradiction;intro k
 have i:=dW (l:=x::0::ns) (m:=List.range g.length) (Qt.2 ⟨k,c.nodup⟩) (fun y d=>by
  rcases Jq.1 d with rfl|d
  ·exact Ol.2 j
  ·exact Ol.2 (c.lt y d))
 rw[Nq,h,Un] at i;omega
theorem mu{d':wO}{v k:Int}(h:rB d v i k=some d')(hi:0<=i/\i.toNat<m)(c:∀x b,d.1 x=some b->0<=b/\b.toNat<m):∀x b,d'.1 x=some b->0<=b/\b.toNat<m:=by
 unfold rB at h
 split at h
 ·cases h
 ·cases h;intro x b hb
  change lS d.1 v i x=some b at hb
  unfold lS at hb
  split at hb
  ·cases hb;exact hi
  ·exact c x b hb
theorem oU(hi:0<=i/\i.toNat<m):∀(l:List Int) (d d':wO),vJ i l d=some d'->(∀x b,d.1 x=some b->0<=b/\b.toNat<m)->∀x b,d'.1 x=some b->0<=b/\b.toNat<m
 | [],d,d',h,hd=>by cases h;exact hd
 |v::l,d,d',h,hd=>by
  unfold vJ at h
  cases h1:rB d v i (-1) with
  |none=>rw[h1] at h;cases h
  |some d1=>rw[h1,Nw] at h;exact oU hi l d1 d' h (mu h1 hi hd)
theorem bP{p:IProg}(hi:0<=i/\i.toNat<m):∀(l:List IOp) (k:Int) (d d':wO),sS p i l k d=some d'->(∀x b,d.1 x=some b->0<=b/\b.toNat<m)->∀x b,d'.1 x=some b->0<=b/\b.toNat<m
 | [],k,d,d',h,hd=>by cases h;exact hd
 |o::l,k,d,d',h,hd=>by
  rw[dG] at h
  cases h1:ug p i k o d with
  |none=>rw[h1] at h;cases h
  |some d1=>
   rw[h1,Nw] at h;refine bP hi l _ d1 d' h ?_;unfold ug at h1
   split at h1
   ·split at h1
    ·exact mu h1 hi hd
    ·cases h1;exact hd
   ·cases h1
theorem oX{p:IProg}:∀(l:List IBlk) (i:Nat) (d d':wO),i+l.length<=m->uH p bl l i d=some d'->(∀x b,d.1 x=some b->0<=b/\b.toNat<m)->∀x b,d'.1 x=some b->0<=b/\b.toNat<m
 | [],i,d,d',_,h,hd=>by cases h;exact hd
 |b::l,i,d,d',hm,h,hd=>by
  simp only[Nq] at hm;unfold uH at h
  cases h1:pS p bl i b d with
  |none=>rw[h1] at h;cases h
  |some d1=>
   rw[h1,Nw] at h;obtain⟨_,d2,h2,h3⟩:=nF h1;have hi:0<=(i:Int)/\((i:Int)).toNat<m:=Zo;exact oX l (i+1) d1 d' Zo (by simpa using h) (bP hi _ _ _ _ h3 (oU hi _ _ _ h2 hd))
theorem rN{p:IProg}(h:wg p bl=some d):∀x b,d.1 x=some b->0<=b/\b.toNat<bl.length:=
 oX bl 0 ags d Zo h (fun x b hb=>by cases hb)
theorem vE (d:wO)(g:List (List Nat))(i:Int):∀(l m:List IOp) (k:Int),xF d g i (l++m) k=(xF d g i l k && xF d g i m (k+l.length))
 | [],m,k=>by simp[xF]
 |o::l,m,k=>by
  have e:k+1+(l.length:Int)=k+((o::l).length:Int):=by simp;omega
  show((rR o).all (yy d g i k) && xF d g i (l++m) (k+1))=(((rR o).all (yy d g i k) && xF d g i l (k+1)) && _)
  rw[vE d g i l m,e,Bool.and_assoc]
theorem aft (d:wO)(g:List (List Nat)):∀(l m:List IBlk) (i:Int),tO d g (l++m) i=(tO d g l i && tO d g m (i+l.length))
 | [],m,i=>by simp[tO]
 |b::l,m,i=>by
  have e:i+1+(l.length:Int)=i+((b::l).length:Int):=by simp;omega
  show(aaC d g b i && tO d g (l++m) (i+1))=((aaC d g b i && tO d g l (i+1)) && _)
  rw[aft d g l m,e,Bool.and_assoc]
theorem gZ(h:l[k]? =some o):xF d g i (l.take (k+1)) 0=(xF d g i (l.take k) 0 && (rR o).all (yy d g i k)):=by
 rw[Nh,h,Option.toList,vE,vS h,Ub];simp[xF]
theorem ahA(h:l[k]? =some o)(hf:(rR o).all (yy d g i k)=false):xF d g i l 0=false:=by
 rw[sD h,vE,vS h,Ub]
 show(_ && ((rR o).all (yy d g i k) && _))=false
 rw[hf,Bool.false_and,Uh]
theorem mz{l:List IBlk}{b:IBlk}(h:l[k]? =some b):tO d g (l.take (k+1)) 0=(tO d g (l.take k) 0 && aaC d g b k):=by
 rw[Nh,h,Option.toList,aft,vS h,Ub];simp[tO]
theorem pH{l:List IBlk}{b:IBlk}(h:l[k]? =some b)(hf:aaC d g b k=false):tO d g l 0=false:=by
 rw[sD h,aft,vS h,Ub]
 show(_ && (aaC d g b k && _))=false
 rw[hf,Bool.false_and,Uh]
theorem ChkAt.made{pv:List Value}{d c:Value}(j:Q w C (pv++ [d,.map (some m1),.map (some m2),c]).toArray 173)(hl:pv.length=6)(h1:w.heap[m1]? =some (.map #[] 0))(h2:w.heap[m2]? =some (.map #[] 0))(g:m1≠m2):
 ChkAt w C m1 m2 pv d c 0 ags:=by
 have hm:∀m,w.heap[m]? =some (.map #[] 0)->wA w m 0 (fun _=>none):=fun m h=>by
  have k:=wA.made ({w with heap:=w.heap.extract 0 m });have l:m<w.heap.size:=lt_of_block h;have hs:(w.heap.extract 0 m).size=m:=by simp;omega
  obtain⟨D,⟨es,i,k1,k2⟩,k3⟩:=k;have e1:(World.alloc {w with heap:=w.heap.extract 0 m } (.map #[] 0)).heap[(w.heap.extract 0 m).size]? =some (.map #[] 0):=zI rfl;rw[e1] at k1;cases k1;exact⟨D,⟨_,_,h,k2⟩,k3⟩
 exact⟨j,hl,hm m1 h1,hm m2 h2,g,fun _=>rfl⟩
theorem ChkAt.idom{n:Nat}{pv:List Value}{g i:Value}(h:ChkAt w C m1 m2 pv g i n d)(iv:Value):ChkAt (w.setCell ⟨C,9,none⟩ iv) C m1 m2 pv g iv n d:=by
 obtain⟨k1,k2⟩:=h.ne1;refine⟨?_,h.plen,h.map1.same (Below.heap_setCell _ _ _ _ (Ne.symm k1)),h.map2.same (Below.heap_setCell _ _ _ _ (Ne.symm k2)),h.ne,h.dom⟩;rw[zD h.blk];have hl:=h.plen
 obtain⟨p0,p1,p2,p3,p4,p5,rfl⟩:∃a b c d e f,pv=[a,b,c,d,e,f]:=by
  match pv,hl with
  | [a,b,c,d,e,f],_=>exact⟨a,b,c,d,e,f,rfl⟩
 rfl
def acg (f:Flds):Value:=.agg #[.bool f.is,.bool f.res,.bool f.a,.bool f.b,.bool f.n]
def wL (w:World)(f:Flds)(e:Ending)(w':World):Prop:=e=.returned (acg f)/\Y w w'
theorem shp_1 (w:World):I 52 #[U 1] w (wL w ⟨true,true,false,false,true⟩):=by
 go_enter Tryz.func52,Tryz.ntmps52;go_wp2;refine bodyPost_ret (v:=.agg #[.bool true,.bool true,.bool false,.bool false,.bool true]) ?_ rfl ?_
 ·rw[zM rfl];go_simp
 ·exact⟨rfl,Zr⟩
theorem shp_2 (w:World):I 52 #[U 2] w (wL w ⟨true,true,false,false,true⟩):=by
 go_enter Tryz.func52,Tryz.ntmps52;go_wp2;refine bodyPost_ret (v:=.agg #[.bool true,.bool true,.bool false,.bool false,.bool true]) ?_ rfl ?_
 ·rw[zM rfl];go_simp
 ·exact⟨rfl,Zr⟩
theorem shp_3 (w:World):I 52 #[U 3] w (wL w ⟨true,true,true,false,false⟩):=by
 go_enter Tryz.func52,Tryz.ntmps52;go_wp2;refine bodyPost_ret (v:=.agg #[.bool true,.bool true,.bool true,.bool false,.bool false]) ?_ rfl ?_
 ·rw[zM rfl];go_simp
 ·exact⟨rfl,Zr⟩
theorem shp_4 (w:World):I 52 #[U 4] w (wL w ⟨true,true,true,false,false⟩):=by
 go_enter Tryz.func52,Tryz.ntmps52;go_wp2;refine bodyPost_ret (v:=.agg #[.bool true,.bool true,.bool true,.bool false,.bool false]) ?_ rfl ?_
 ·rw[zM rfl];go_simp
 ·exact⟨rfl,Zr⟩
theorem shp_18 (w:World):I 52 #[U 18] w (wL w ⟨true,true,true,false,false⟩):=by
 go_enter Tryz.func52,Tryz.ntmps52;go_wp2;refine bodyPost_ret (v:=.agg #[.bool true,.bool true,.bool true,.bool false,.bool false]) ?_ rfl ?_
 ·rw[zM rfl];go_simp
 ·exact⟨rfl,Zr⟩
theorem shp_19 (w:World):I 52 #[U 19] w (wL w ⟨true,true,true,false,false⟩):=by
 go_enter Tryz.func52,Tryz.ntmps52;go_wp2;refine bodyPost_ret (v:=.agg #[.bool true,.bool true,.bool true,.bool false,.bool false]) ?_ rfl ?_
 ·rw[zM rfl];go_simp
 ·exact⟨rfl,Zr⟩
theorem shp_20 (w:World):I 52 #[U 20] w (wL w ⟨true,false,true,true,false⟩):=by
 go_enter Tryz.func52,Tryz.ntmps52;go_wp2;refine bodyPost_ret (v:=.agg #[.bool true,.bool false,.bool true,.bool true,.bool false]) ?_ rfl ?_
 ·rw[zM rfl];go_simp
 ·exact⟨rfl,Zr⟩
theorem shp_21 (w:World):I 52 #[U 21] w (wL w ⟨true,false,true,true,false⟩):=by
 go_enter Tryz.func52,Tryz.ntmps52;go_wp2;refine bodyPost_ret (v:=.agg #[.bool true,.bool false,.bool true,.bool true,.bool false]) ?_ rfl ?_
 ·rw[zM rfl];go_simp
 ·exact⟨rfl,Zr⟩
theorem shp_22 (w:World):I 52 #[U 22] w (wL w ⟨true,true,true,false,true⟩):=by
 go_enter Tryz.func52,Tryz.ntmps52;go_wp2;refine bodyPost_ret (v:=.agg #[.bool true,.bool true,.bool true,.bool false,.bool true]) ?_ rfl ?_
 ·rw[zM rfl];go_simp
 ·exact⟨rfl,Zr⟩
theorem shp_23 (w:World):I 52 #[U 23] w (wL w ⟨true,true,true,false,true⟩):=by
 go_enter Tryz.func52,Tryz.ntmps52;go_wp2;refine bodyPost_ret (v:=.agg #[.bool true,.bool true,.bool true,.bool false,.bool true]) ?_ rfl ?_
 ·rw[zM rfl];go_simp
 ·exact⟨rfl,Zr⟩
theorem shp_24 (w:World):I 52 #[U 24] w (wL w ⟨true,true,false,false,true⟩):=by
 go_enter Tryz.func52,Tryz.ntmps52;go_wp2;refine bodyPost_ret (v:=.agg #[.bool true,.bool true,.bool false,.bool false,.bool true]) ?_ rfl ?_
 ·rw[zM rfl];go_simp
 ·exact⟨rfl,Zr⟩
theorem shp_25 (w:World):I 52 #[U 25] w (wL w ⟨true,false,true,false,true⟩):=by
 go_enter Tryz.func52,Tryz.ntmps52;go_wp2;refine bodyPost_ret (v:=.agg #[.bool true,.bool false,.bool true,.bool false,.bool true]) ?_ rfl ?_
 ·rw[zM rfl];go_simp
 ·exact⟨rfl,Zr⟩
theorem shp_26 (w:World):I 52 #[U 26] w (wL w ⟨true,false,false,false,false⟩):=by
 go_enter Tryz.func52,Tryz.ntmps52;go_wp2;refine bodyPost_ret (v:=.agg #[.bool true,.bool false,.bool false,.bool false,.bool false]) ?_ rfl ?_
 ·rw[zM rfl];go_simp
 ·exact⟨rfl,Zr⟩
theorem shp_27 (w:World):I 52 #[U 27] w (wL w ⟨true,false,false,false,false⟩):=by
 go_enter Tryz.func52,Tryz.ntmps52;go_wp2;refine bodyPost_ret (v:=.agg #[.bool true,.bool false,.bool false,.bool false,.bool false]) ?_ rfl ?_
 ·rw[zM rfl];go_simp
 ·exact⟨rfl,Zr⟩
theorem aao (c:Int)(h:5<=c/\c<=17)(w:World):I 52 #[U c] w (wL w ⟨true,true,true,true,false⟩):=by
 have t1:((c:Int)==1)=false:=Ze;have t2:((c:Int)==2)=false:=Ze;have t3:((c:Int)==3)=false:=Ze;have t4:((c:Int)==4)=false:=Ze;have u:((c:Int)==18)=false:=Ze;have t:((c:Int)==19)=false:=Ze;have o:((c:Int)==20)=false:=Ze;have m:((c:Int)==21)=false:=Ze;have l:((c:Int)==22)=false:=Ze;have k:((c:Int)==23)=false:=Ze;have j:((c:Int)==24)=false:=Ze;have i:((c:Int)==25)=false:=Ze;have g:((c:Int)==26)=false:=Ze;have d:((c:Int)==27)=false:=Ze;have d1:decide (5<=c)=true:=by rw[decide_eq_true_eq];omega
 have d2:decide (c<=17)=true:=by rw[decide_eq_true_eq];omega
 clear h;go_enter Tryz.func52,Tryz.ntmps52;go_wp2;refine bodyPost_ret (v:=.agg #[.bool true,.bool true,.bool true,.bool true,.bool false]) ?_ rfl ?_
 ·rw[zM rfl];go_simp
 ·exact⟨rfl,Zr⟩
theorem shp_low (c:Int)(h:c<1)(w:World):I 52 #[U c] w (wL w ⟨false,false,false,false,false⟩):=by
 have t1:((c:Int)==1)=false:=Ze;have t2:((c:Int)==2)=false:=Ze;have t3:((c:Int)==3)=false:=Ze;have t4:((c:Int)==4)=false:=Ze;have u:((c:Int)==18)=false:=Ze;have t:((c:Int)==19)=false:=Ze;have o:((c:Int)==20)=false:=Ze;have m:((c:Int)==21)=false:=Ze;have l:((c:Int)==22)=false:=Ze;have k:((c:Int)==23)=false:=Ze;have j:((c:Int)==24)=false:=Ze;have i:((c:Int)==25)=false:=Ze;have g:((c:Int)==26)=false:=Ze;have d:((c:Int)==27)=false:=Ze;have d1:decide (5<=c)=false:=by rw[decide_eq_false_iff_not];omega
 have d2:decide (c<=17)=true:=by rw[decide_eq_true_eq];omega
 clear h;go_enter Tryz.func52,Tryz.ntmps52;go_wp2;refine bodyPost_ret (v:=.agg #[.bool false,.bool false,.bool false,.bool false,.bool false]) ?_ rfl ?_
 ·rw[zM rfl];go_simp
 ·exact⟨rfl,Zr⟩
theorem shp_high (c:Int)(h:27<c)(w:World):I 52 #[U c] w (wL w ⟨false,false,false,false,false⟩):=by
 have t1:((c:Int)==1)=false:=Ze;have t2:((c:Int)==2)=false:=Ze;have t3:((c:Int)==3)=false:=Ze;have t4:((c:Int)==4)=false:=Ze;have u:((c:Int)==18)=false:=Ze;have t:((c:Int)==19)=false:=Ze;have o:((c:Int)==20)=false:=Ze;have m:((c:Int)==21)=false:=Ze;have l:((c:Int)==22)=false:=Ze;have k:((c:Int)==23)=false:=Ze;have j:((c:Int)==24)=false:=Ze;have i:((c:Int)==25)=false:=Ze;have g:((c:Int)==26)=false:=Ze;have d:((c:Int)==27)=false:=Ze;have d1:decide (5<=c)=true:=by rw[decide_eq_true_eq];omega
 have d2:decide (c<=17)=false:=by rw[decide_eq_false_iff_not];omega
 clear h;go_enter Tryz.func52,Tryz.ntmps52;go_wp2;refine bodyPost_ret (v:=.agg #[.bool false,.bool false,.bool false,.bool false,.bool false]) ?_ rfl ?_
 ·rw[zM rfl];go_simp
 ·exact⟨rfl,Zr⟩
theorem aaK (c:Int)(w:World):I 52 #[U c] w (wL w (zi c)):=by
 rcases rJ c with⟨h,e⟩|⟨h,e⟩|⟨h,e⟩|⟨h,e⟩|⟨h,e⟩|⟨h,e⟩|⟨h,e⟩|⟨h,e⟩<;>rw[e]
 ·rcases h with rfl|rfl|rfl
  ·exact shp_1 w
  ·exact shp_2 w
  ·exact shp_24 w
 ·rcases h with rfl|rfl|rfl|rfl
  ·exact shp_3 w
  ·exact shp_4 w
  ·exact shp_18 w
  ·exact shp_19 w
 ·exact aao c h w
 ·rcases h with rfl|rfl
  ·exact shp_20 w
  ·exact shp_21 w
 ·rcases h with rfl|rfl
  ·exact shp_22 w
  ·exact shp_23 w
 ·subst h;exact shp_25 w
 ·rcases h with rfl|rfl
  ·exact shp_26 w
  ·exact shp_27 w
 ·rcases h with h|h
  ·exact shp_low c h w
  ·exact shp_high c h w
theorem ct{p:IProg}(h:opF p o=true):-1<=o.res:=by
 unfold opF at h;rw[Jm] at h;have h2:=h.2
 split at h2
 ·simp only[Jm,decide_eq_true_eq] at h2;omega
 ·split at h2
  ·simp only[Jm,decide_eq_true_eq] at h2;omega
  ·simp only[Jm,decide_eq_true_eq] at h2;omega
theorem aW (l:List Int):∀(n:Int),n<=qK n l/\∀v∈l,cG v<=qK n l:=by
 induction l with
 |nil=>intro n;exact⟨Og _,fun v hv=>by cases hv⟩
 |cons x l ih=>
  intro n;obtain⟨h1,h2⟩:=ih (max n (cG x));have e:qK n (x::l)=qK (max n (cG x)) l:=rfl;rw[e];refine⟨by omega,fun v hv=>?_⟩;rcases Jq.1 hv with rfl|hv
  ·omega
  ·exact h2 v hv
theorem adH (l:List IOp):∀(n:Int),n<=o8 n l/\∀o∈l,cG o.res<=o8 n l:=by
 induction l with
 |nil=>intro n;exact⟨Og _,fun v hv=>by cases hv⟩
 |cons x l ih=>
  intro n;obtain⟨h1,h2⟩:=ih (max n (cG x.res));have e:o8 n (x::l)=o8 (max n (cG x.res)) l:=rfl;rw[e];refine⟨by omega,fun v hv=>?_⟩;rcases Jq.1 hv with rfl|hv
  ·omega
  ·exact h2 v hv
theorem ahB (l:List IBlk):∀(n:Int),n<=l.foldl iL n/\∀b∈l,(∀v∈b.params,cG v<=l.foldl iL n)/\∀o∈b.ops,cG o.res<=l.foldl iL n:=by
 induction l with
 |nil=>intro n;exact⟨Og _,fun v hv=>by cases hv⟩
 |cons x l ih=>
  intro n;obtain⟨h1,h2⟩:=ih (iL n x);have p1:=aW x.params n;have p2:=adH x.ops (qK n x.params);have e:iL n x=o8 (qK n x.params) x.ops:=rfl;rw[Qk];refine⟨by omega,fun b hb=>?_⟩;rcases Jq.1 hb with rfl|hb
  ·exact⟨fun v hv=>by have:=p1.2 v hv;omega,fun o ho=>by have:=p2.2 o ho;omega⟩
  ·exact h2 b hb
theorem bO (blocks:List IBlk):0<=aaG blocks:=(ahB blocks 0).1
theorem wrap64_in {n:Int}(h1:-9223372036854775808<=n)(h2:n<=9223372036854775807):wrap64 n=n:=by first|exact Om _ Zo|(unfold wrap64;omega)
theorem aaY {v:Int}(h:-1<=v)(h2:v<=65535):cG v=v+1:=by unfold cG;rw[wrap64_in Zo Zo]
theorem dF:∀(os:List IOp) (k:Int),xF d g i os k=true↔∀(j:Nat) (o:IOp),os[j]? =some o->(rR o).all (yy d g i (k+j))=true
 | [],k=>by simp[xF]
 |o::os,k=>by
  show((rR o).all (yy d g i k) && xF d g i os (k+1))=true↔_
  rw[Jm,dF os (k+1)];constructor
  ·rintro⟨h1,h2⟩ j x hx
   cases j with
   |zero=>simp at hx;subst hx;simpa using h1
   |succ j=>
    have:=h2 j x (by simpa using hx);rw[show k+((j+1:Nat):Int)=k+1+(j:Int) by omega];exact this
  ·intro h;refine⟨by simpa using h 0 o rfl,fun j x hx=>?_⟩;have:=h (j+1) x (by simpa using hx);rw[show k+((j+1:Nat):Int)=k+1+(j:Int) by omega] at this;exact this
theorem cB:∀(bs:List IBlk) (i:Int),tO d g bs i=true↔∀(j:Nat) (b:IBlk),bs[j]? =some b->aaC d g b (i+j)=true
 | [],i=>by simp[tO]
 |b::bs,i=>by
  show(aaC d g b i && tO d g bs (i+1))=true↔_
  rw[Jm,cB bs (i+1)];constructor
  ·rintro⟨h1,h2⟩ j x hx
   cases j with
   |zero=>simp at hx;subst hx;simpa using h1
   |succ j=>
    have:=h2 j x (by simpa using hx);rw[show i+((j+1:Nat):Int)=i+1+(j:Int) by omega];exact this
  ·intro h;refine⟨by simpa using h 0 b rfl,fun j x hx=>?_⟩;have:=h (j+1) x (by simpa using hx);rw[show i+((j+1:Nat):Int)=i+1+(j:Int) by omega] at this;exact this
theorem aj(hv:zw g):(vD g).length=g.length↔∀x,x<g.length->wE g 0 x=true:=by
 constructor
 ·intro h x c;have hr:=jl hv h;have i:0<g.length:=Zo;exact(yO hv 0 x).2 ⟨hr 0 i,hr x c,dom_zero _ _⟩
 ·intro h;obtain⟨ns,d⟩:=adR hv;rw[d.eq];have h1:=dW (l:=0::ns) (m:=List.range g.length) d.nodup (fun x c=>Ol.2 (d.lt x c));have h2:=dW (l:=List.range g.length) (m:=0::ns) List.nodup_range (fun x c=>(d.mem x).2 ((yO hv 0 x).1 (h x (Ol.1 c))).2.1);rw[Un] at h1 h2;omega
end Go.Proofs.YtoahcpkibpomcaaGreat
