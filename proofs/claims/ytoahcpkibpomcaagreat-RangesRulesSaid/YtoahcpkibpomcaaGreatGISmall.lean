/- Part of a proof. -/
import Derived.Test.YtoahcpkibpomcaaGreatGHeld
import Derived.Test.YtoahcpkibpomcaaGreatIGraph
import Derived.Test.YtoahcpkibpomcaaGreatIOper2
import Derived.StillTailTactics
set_option linter.all false
set_option maxHeartbeats 8000000
set_option maxRecDepth 100000
namespace Go.Proofs.YtoahcpkibpomcaaGreat
open Go.RowKit
variable {o:IOp}{w w' w0:World}{g:List (List Nat)}{c i:Int}{j k m m1 m2 n':Nat}{pv tl:List Value}{bl blocks:List IBlk}{t:ITerm}{l:List IOp}{d d' d1:wO}{sv:Value}
theorem neg_any (w:World){a b:Rg}(d:a.ok)(hb:b.ok):O 70 #[.agg #[M (a.lo:Int),M (a.hi:Int)],.agg #[M (b.lo:Int),M (b.hi:Int)]] w (tg w (wb (-(a.hi:Int)) (-(a.lo:Int)))):=by
 have m:=d.1;have l:=d.2;have c:=hb.1;have k:=hb.2;obtain⟨⟨x,y⟩,hr⟩:∃r,wb (-(a.hi:Int)) (-(a.lo:Int))=r:=⟨_,rfl⟩
 rw[hr]
 have f:∀W,O 71 #[I (-(a.hi:Int)),I (-(a.lo:Int))] W (fun e w'=>e=.returned (.agg #[M x,M y])/\Q W w'):=fun W=>by
  have:=i4 W (lo:=-(a.hi:Int)) (hi:=-(a.lo:Int)) Zo Zo;rw[hr] at this;exact this
 have g:=Ja f;clear f hr d hb;go_enter Tryz.func70,Tryz.ntmps70;go_wp2_with (go_at_call 71;go_must (refine(g.out _).mono ?_;rintro e w1 ⟨rfl,c⟩;have hk:A w1 (w.heap.size+1+1) #[M 0,M 0] 45:=zH c (zI Zs) Zs;have f0:=zA (i:=0) hk rfl;have f1:=zA (i:=1) hk rfl;have g0:=zE (i:=0) hk;have g1:=zE (i:=1) hk;have h:=lt_of_block hk;have j:=Below.trans (show Q w _ from by repeat' (first|exact Below.refl _ _|(refine Below.alloc ?_ (by first|(simp;done)|(simp;omega)) _))) (c.mono (by first|(simp;done)|(simp;omega)));clear c hk))
 refine bodyPost_ret (v:=.agg #[M x,M y]) ?_ rfl ⟨rfl,by repeat' (first|exact Below.refl _ _|assumption|(refine Below.alloc ?_ (by first|(simp;done)|(simp;omega)) _)|(refine Below.setCell ?_ (by first|(simp;done)|(simp;omega)) _))⟩;rw[zM rfl];go_simp
theorem add_any (w:World){a b:Rg}(d:a.ok)(hb:b.ok):O 73 #[.agg #[M (a.lo:Int),M (a.hi:Int)],.agg #[M (b.lo:Int),M (b.hi:Int)]] w (tg w (wb ((a.lo:Int)+b.lo) ((a.hi:Int)+b.hi))):=by
 have m:=d.1;have l:=d.2;have c:=hb.1;have k:=hb.2;obtain⟨⟨x,y⟩,hr⟩:∃r,wb ((a.lo:Int)+b.lo) ((a.hi:Int)+b.hi)=r:=⟨_,rfl⟩
 rw[hr]
 have f:∀W,O 71 #[I ((a.lo:Int)+(b.lo:Int)),I ((a.hi:Int)+(b.hi:Int))] W (fun e w'=>e=.returned (.agg #[M x,M y])/\Q W w'):=fun W=>by
  have:=i4 W (lo:=(a.lo:Int)+b.lo) (hi:=(a.hi:Int)+b.hi) Zo Zo;rw[hr] at this;exact this
 have g:=Ja f;clear f hr d hb;go_enter Tryz.func73,Tryz.ntmps73;go_wp2_with (go_at_call 71;go_must (refine(g.out _).mono ?_;rintro e w1 ⟨rfl,c⟩;have hk:A w1 (w.heap.size+1+1) #[M 0,M 0] 45:=zH c (zI Zs) Zs;have f0:=zA (i:=0) hk rfl;have f1:=zA (i:=1) hk rfl;have g0:=zE (i:=0) hk;have g1:=zE (i:=1) hk;have h:=lt_of_block hk;have j:=Below.trans (show Q w _ from by repeat' (first|exact Below.refl _ _|(refine Below.alloc ?_ (by first|(simp;done)|(simp;omega)) _))) (c.mono (by first|(simp;done)|(simp;omega)));clear c hk))
 refine bodyPost_ret (v:=.agg #[M x,M y]) ?_ rfl ⟨rfl,by repeat' (first|exact Below.refl _ _|assumption|(refine Below.alloc ?_ (by first|(simp;done)|(simp;omega)) _)|(refine Below.setCell ?_ (by first|(simp;done)|(simp;omega)) _))⟩;rw[zM rfl];go_simp
theorem sub_any (w:World){a b:Rg}(d:a.ok)(hb:b.ok):O 74 #[.agg #[M (a.lo:Int),M (a.hi:Int)],.agg #[M (b.lo:Int),M (b.hi:Int)]] w (tg w (wb ((a.lo:Int)-b.hi) ((a.hi:Int)-b.lo))):=by
 have m:=d.1;have l:=d.2;have c:=hb.1;have k:=hb.2;obtain⟨⟨x,y⟩,hr⟩:∃r,wb ((a.lo:Int)-b.hi) ((a.hi:Int)-b.lo)=r:=⟨_,rfl⟩
 rw[hr]
 have f:∀W,O 71 #[I ((a.lo:Int)-(b.hi:Int)),I ((a.hi:Int)-(b.lo:Int))] W (fun e w'=>e=.returned (.agg #[M x,M y])/\Q W w'):=fun W=>by
  have:=i4 W (lo:=(a.lo:Int)-b.hi) (hi:=(a.hi:Int)-b.lo) Zo Zo;rw[hr] at this;exact this
 have g:=Ja f;clear f hr d hb;go_enter Tryz.func74,Tryz.ntmps74;go_wp2_with (go_at_call 71;go_must (refine(g.out _).mono ?_;rintro e w1 ⟨rfl,c⟩;have hk:A w1 (w.heap.size+1+1) #[M 0,M 0] 45:=zH c (zI Zs) Zs;have f0:=zA (i:=0) hk rfl;have f1:=zA (i:=1) hk rfl;have g0:=zE (i:=0) hk;have g1:=zE (i:=1) hk;have h:=lt_of_block hk;have j:=Below.trans (show Q w _ from by repeat' (first|exact Below.refl _ _|(refine Below.alloc ?_ (by first|(simp;done)|(simp;omega)) _))) (c.mono (by first|(simp;done)|(simp;omega)));clear c hk))
 refine bodyPost_ret (v:=.agg #[M x,M y]) ?_ rfl ⟨rfl,by repeat' (first|exact Below.refl _ _|assumption|(refine Below.alloc ?_ (by first|(simp;done)|(simp;omega)) _)|(refine Below.setCell ?_ (by first|(simp;done)|(simp;omega)) _))⟩;rw[zM rfl];go_simp
theorem mul_any (w:World){a b:Rg}(g:a.ok)(hb:b.ok):O 75 #[.agg #[M (a.lo:Int),M (a.hi:Int)],.agg #[M (b.lo:Int),M (b.hi:Int)]] w (tg w (wk (a.lo*b.lo) (a.hi*b.hi))):=by
 have j:=g.1;have f:=g.2;have c:=hb.1;have d:=hb.2;obtain⟨⟨x,y⟩,hr⟩:∃r,wk (a.lo*b.lo) (a.hi*b.hi)=r:=⟨_,rfl⟩
 rw[hr];have q:a.lo*b.lo<=65535*65535:=Nat.mul_le_mul Zo Zo;have o:a.hi*b.hi<=65535*65535:=Nat.mul_le_mul f d;have m:IntKind.i64.wrap ((a.lo:Int)*(b.lo:Int))=(a.lo:Int)*(b.lo:Int):=by rw[<-Int.natCast_mul];exact Om _ ⟨by omega,by omega⟩
 have l:IntKind.i64.wrap ((a.hi:Int)*(b.hi:Int))=(a.hi:Int)*(b.hi:Int):=by rw[<-Int.natCast_mul];exact Om _ ⟨by omega,by omega⟩
 have h:∀W,O 76 #[I ((a.lo:Int)*(b.lo:Int)),I ((a.hi:Int)*(b.hi:Int))] W (fun e w'=>e=.returned (.agg #[M x,M y])/\Q W w'):=fun W=>by
  have:=abv W (lo:=a.lo*b.lo) (hi:=a.hi*b.hi) (Nat.mul_le_mul j c) (by have:=Nat.mul_le_mul f d;omega);rw[hr,Int.natCast_mul,Int.natCast_mul] at this;exact this
 have k:=Ja h;clear h hr g hb;go_enter Tryz.func75,Tryz.ntmps75;go_wp2_with (go_at_call 76;go_must (refine(k.out _).mono ?_;rintro e w1 ⟨rfl,c⟩;have hk:A w1 (w.heap.size+1+1) #[M 0,M 0] 45:=zH c (zI Zs) Zs;have f0:=zA (i:=0) hk rfl;have f1:=zA (i:=1) hk rfl;have g0:=zE (i:=0) hk;have g1:=zE (i:=1) hk;have t:=lt_of_block hk;have u:=Below.trans (show Q w _ from by repeat' (first|exact Below.refl _ _|(refine Below.alloc ?_ (by first|(simp;done)|(simp;omega)) _))) (c.mono (by first|(simp;done)|(simp;omega)));clear c hk))
 refine bodyPost_ret (v:=.agg #[M x,M y]) ?_ rfl ⟨rfl,by repeat' (first|exact Below.refl _ _|assumption|(refine Below.alloc ?_ (by first|(simp;done)|(simp;omega)) _)|(refine Below.setCell ?_ (by first|(simp;done)|(simp;omega)) _))⟩;rw[zM rfl];go_simp
theorem and_any (w:World){a b:Rg}(c:a.ok)(hb:b.ok):O 78 #[.agg #[M (a.lo:Int),M (a.hi:Int)],.agg #[M (b.lo:Int),M (b.hi:Int)]] w (tg w (⟨0,min a.hi b.hi⟩)):=by
 have h:=c.1;have g:=c.2;have f:=hb.1;have d:=hb.2;have h1:=ahd a.hi b.hi;obtain⟨m,hm⟩:∃m,min a.hi b.hi=m:=⟨_,rfl⟩
 rw[hm] at h1 ⊢;clear hm c hb;go_enter Tryz.func78,Tryz.ntmps78;go_wp2;refine bodyPost_ret (v:=.agg #[M 0,M m]) ?_ rfl ⟨rfl,by repeat' (first|exact Below.refl _ _|assumption|(refine Below.alloc ?_ (by first|(simp;done)|(simp;omega)) _)|(refine Below.setCell ?_ (by first|(simp;done)|(simp;omega)) _))⟩;rw[zM rfl];go_simp
theorem lts_any (w:World){a b:Rg}(c:a.ok)(hb:b.ok):O 89 #[.agg #[M (a.lo:Int),M (a.hi:Int)],.agg #[M (b.lo:Int),M (b.hi:Int)]] w (tg w (⟨0,1⟩)):=by
 have h:=c.1;have g:=c.2;have f:=hb.1;have d:=hb.2;go_enter Tryz.func89,Tryz.ntmps89;go_wp2;refine bodyPost_ret (v:=.agg #[M 0,M 1]) ?_ rfl ⟨rfl,by repeat' (first|exact Below.refl _ _|assumption|(refine Below.alloc ?_ (by first|(simp;done)|(simp;omega)) _)|(refine Below.setCell ?_ (by first|(simp;done)|(simp;omega)) _))⟩;rw[zM rfl];go_simp
theorem afD (w:World){a b:Rg}(c:a.ok)(hb:b.ok):O 90 #[.agg #[M (a.lo:Int),M (a.hi:Int)],.agg #[M (b.lo:Int),M (b.hi:Int)]] w (tg w (⟨0,255⟩)):=by
 have h:=c.1;have g:=c.2;have f:=hb.1;have d:=hb.2;go_enter Tryz.func90,Tryz.ntmps90;go_wp2;refine bodyPost_ret (v:=.agg #[M 0,M 255]) ?_ rfl ⟨rfl,by repeat' (first|exact Below.refl _ _|assumption|(refine Below.alloc ?_ (by first|(simp;done)|(simp;omega)) _)|(refine Below.setCell ?_ (by first|(simp;done)|(simp;omega)) _))⟩;rw[zM rfl];go_simp
theorem agr (w:World){a b:Rg}(c:a.ok)(hb:b.ok):O 91 #[.agg #[M (a.lo:Int),M (a.hi:Int)],.agg #[M (b.lo:Int),M (b.hi:Int)]] w (tg w (⟨0,255⟩)):=by
 have h:=c.1;have g:=c.2;have f:=hb.1;have d:=hb.2;go_enter Tryz.func91,Tryz.ntmps91;go_wp2;refine bodyPost_ret (v:=.agg #[M 0,M 255]) ?_ rfl ⟨rfl,by repeat' (first|exact Below.refl _ _|assumption|(refine Below.alloc ?_ (by first|(simp;done)|(simp;omega)) _)|(refine Below.setCell ?_ (by first|(simp;done)|(simp;omega)) _))⟩;rw[zM rfl];go_simp
theorem not_any (w:World){a b:Rg}(f:a.ok)(hb:b.ok):O 72 #[.agg #[M (a.lo:Int),M (a.hi:Int)],.agg #[M (b.lo:Int),M (b.hi:Int)]] w (tg w ⟨65535-a.hi,65535-a.lo⟩):=by
 have i:=f.1;have h:=f.2;have e1:=not16 a.hi Zo;have e2:=not16 a.lo Zo;obtain⟨x,d⟩:∃x,65535-a.hi=x:=⟨_,rfl⟩
 obtain⟨y,c⟩:∃y,65535-a.lo=y:=⟨_,rfl⟩
 rw[d,c];rw[d] at e1;rw[c] at e2;have g:=Ja (Jb e1 e2);clear f hb d c e1 e2;go_enter Tryz.func72,Tryz.ntmps72;go_wp2;refine bodyPost_ret (v:=.agg #[M (bits .xor .u16 IntKind.u16.max (a.hi:Int)),M (bits .xor .u16 IntKind.u16.max (a.lo:Int))]) ?_ rfl ⟨by rw[g.out.1,g.out.2],by repeat' (first|exact Below.refl _ _|assumption|(refine Below.alloc ?_ (by first|(simp;done)|(simp;omega)) _)|(refine Below.setCell ?_ (by first|(simp;done)|(simp;omega)) _))⟩;rw[zM rfl];go_simp
theorem or_any (w:World){a b:Rg}(d:a.ok)(hb:b.ok):O 79 #[.agg #[M (a.lo:Int),M (a.hi:Int)],.agg #[M (b.lo:Int),M (b.hi:Int)]] w (tg w ⟨max a.lo b.lo,tx (max a.hi b.hi)⟩):=by
 have t:=d.1;have q:=d.2;have o:=hb.1;have m:=hb.2;have h1:=afI a.lo b.lo;have h:=Ja (fun W=>af2 W (x:=a.hi) (y:=b.hi) Zo Zo);obtain⟨x,g⟩:∃x,max a.lo b.lo=x:=⟨_,rfl⟩
 obtain⟨y,f⟩:∃y,tx (max a.hi b.hi)=y:=⟨_,rfl⟩
 rw[f] at h ⊢;rw[g] at h1 ⊢;clear g f d hb;go_enter Tryz.func79,Tryz.ntmps79;go_upto_region 1 with fail;have c:=Ja (show Q w (((w.alloc (G #[M (a.lo:Int),M (a.hi:Int)] 45)).alloc (G #[M (b.lo:Int),M (b.hi:Int)] 45)).alloc (G #[M 0,M 0] 45))/\A (((w.alloc (G #[M (a.lo:Int),M (a.hi:Int)] 45)).alloc (G #[M (b.lo:Int),M (b.hi:Int)] 45)).alloc (G #[M 0,M 0] 45)) w.heap.size #[M (a.lo:Int),M (a.hi:Int)] 45/\A (((w.alloc (G #[M (a.lo:Int),M (a.hi:Int)] 45)).alloc (G #[M (b.lo:Int),M (b.hi:Int)] 45)).alloc (G #[M 0,M 0] 45)) (w.heap.size+1) #[M (b.lo:Int),M (b.hi:Int)] 45/\A (((w.alloc (G #[M (a.lo:Int),M (a.hi:Int)] 45)).alloc (G #[M (b.lo:Int),M (b.hi:Int)] 45)).alloc (G #[M 0,M 0] 45)) (w.heap.size+1+1) #[M 0,M 0] 45 from⟨by repeat' (first|exact Below.refl _ _|assumption|(refine Below.alloc ?_ (by first|(simp;done)|(simp;omega)) _)|(refine Below.setCell ?_ (by first|(simp;done)|(simp;omega)) _)),zB (zB (zI rfl)),zB (zI Zs),zI Zs⟩);generalize ((w.alloc (G #[M (a.lo:Int),M (a.hi:Int)] 45)).alloc (G #[M (b.lo:Int),M (b.hi:Int)] 45)).alloc (G #[M 0,M 0] 45)=X at *;have j:=Ja (show ∀W,Q X W->T W w.heap.size 0 (M (a.lo:Int))/\T W w.heap.size 1 (M (a.hi:Int))/\T W (w.heap.size+1) 0 (M (b.lo:Int))/\T W (w.heap.size+1) 1 (M (b.hi:Int)) from fun W hb=>⟨zA (zH hb c.out.2.1 (lt_of_block c.out.2.1)) rfl,zA (zH hb c.out.2.1 (lt_of_block c.out.2.1)) rfl,zA (zH hb c.out.2.2.1 (lt_of_block c.out.2.2.1)) rfl,zA (zH hb c.out.2.2.1 (lt_of_block c.out.2.2.1)) rfl⟩);obtain⟨c0,c1,c2,c3⟩:=j.out X (Below.refl _ _);have hk:=c.out.2.2.2;have f0:=zA (i:=0) hk rfl;have f1:=zA (i:=1) hk rfl;have g0:∀i,Y X (w.heap.size+1+1) i:=fun i=>zE (i:=i) hk;have l:=lt_of_block hk;have k:=Ja c.out.1;clear hk
 go_region_held3 (fun w'=>T w' w.heap.size 0 (M (a.lo:Int))/\T w' w.heap.size 1 (M (a.hi:Int))/\T w' (w.heap.size+1) 0 (M (b.lo:Int))/\T w' (w.heap.size+1) 1 (M (b.hi:Int))) ((first|exact⟨c0,c1,c2,c3⟩|(go_simp;done)|(refine⟨?_,?_,?_,?_⟩<;>go_simp)))
  ((go_at_call 80;refine(h.out _).mono ?_;rintro e w1 ⟨rfl,rfl⟩))
 all_goals go_wp2_with fail
 all_goals (refine bodyPost_ret (v:=.agg #[M x,M y]) ?_ rfl ⟨rfl,by repeat' (first|exact k.out|(refine Below.drew ?_)|(refine Below.setCell ?_ (by first|(simp;done)|omega|(simp;omega)) _))⟩;rw[zM rfl];go_simp)
theorem xor_any (w:World){a b:Rg}(c:a.ok)(hb:b.ok):O 81 #[.agg #[M (a.lo:Int),M (a.hi:Int)],.agg #[M (b.lo:Int),M (b.hi:Int)]] w (tg w (⟨0,tx (max a.hi b.hi)⟩)):=by
 have j:=c.1;have i:=c.2;have h:=hb.1;have g:=hb.2;have f:=Ja (fun W=>af2 W (x:=a.hi) (y:=b.hi) Zo Zo);obtain⟨y,d⟩:∃y,tx (max a.hi b.hi)=y:=⟨_,rfl⟩
 rw[d] at f ⊢;clear d c hb;go_enter Tryz.func81,Tryz.ntmps81;go_wp2_with (go_at_call 80;go_must (refine(f.out _).mono ?_;rintro e w1 ⟨rfl,rfl⟩))
 refine bodyPost_ret (v:=.agg #[M 0,M y]) ?_ rfl ⟨rfl,by repeat' (first|exact Below.refl _ _|assumption|(refine Below.alloc ?_ (by first|(simp;done)|(simp;omega)) _)|(refine Below.setCell ?_ (by first|(simp;done)|(simp;omega)) _))⟩;rw[zM rfl];go_simp
theorem agm (w:World){a b:Rg}(f:a.ok)(hb:b.ok):O 77 #[.agg #[M (a.lo:Int),M (a.hi:Int)],.agg #[M (b.lo:Int),M (b.hi:Int)]] w (tg w (qj a b)):=by
 have a6:=f.1;have a5:=f.2;have d:=hb.1;have a4:=hb.2
 by_cases h0:b.hi=0
 ·have hr:qj a b=zx:=by unfold qj;rw[if_pos h0]
  rw[hr];have h:((b.hi:Int)==0)=true:=by rw[beq_iff_eq];omega
  clear hr h0 f hb;go_enter Tryz.func77,Tryz.ntmps77;go_wp2_with (go_at_call 39;go_must (refine(q6 _).mono ?_;rintro e w1 ⟨rfl,d⟩;have hk:A w1 (w.heap.size+1+1) #[M 0,M 0] 45:=zH d (zI Zs) Zs;have f0:=zA (i:=0) hk rfl;have f1:=zA (i:=1) hk rfl;have g0:=zE (i:=0) hk;have g1:=zE (i:=1) hk;have a1:=lt_of_block hk;have a2:=Below.trans (show Q w _ from by repeat' (first|exact Below.refl _ _|(refine Below.alloc ?_ (by first|(simp;done)|(simp;omega)) _))) (d.mono (by first|(simp;done)|(simp;omega)));clear d hk))
  refine bodyPost_ret (v:=.agg #[M 0,M 65535]) ?_ rfl ⟨rfl,by repeat' (first|exact Below.refl _ _|assumption|(refine Below.alloc ?_ (by first|(simp;done)|(simp;omega)) _)|(refine Below.setCell ?_ (by first|(simp;done)|(simp;omega)) _))⟩;rw[zM rfl];go_simp
 ·have h:((b.hi:Int)==0)=false:=Ze;obtain⟨m,hm⟩:∃m,max b.lo 1=m:=⟨_,rfl⟩
  have h1:=afI b.lo 1;rw[hm] at h1;have y:((m:Int)==0)=false:=Ze;have x:0<(m:Int):=Zo;have a3:0<(b.hi:Int):=Zo;have u:¬b.hi=0:=Zo;have q:¬m=0:=Zo;have o:¬(b.hi:Int)=0:=Zo;have l:¬(m:Int)=0:=Zo;have hr:qj a b=⟨a.lo/b.hi,a.hi/m⟩:=by unfold qj;rw[if_neg h0,hm]
  rw[hr];have a7:∀(ts:Array TypeId) (t:TypeId) (W:World),(Builtin.max_ ts t #[M (b.lo:Int),M 1]).run Tryz.prog W=.ok (M m) W:=h1;have e1:=ar8 a.lo b.hi Zo;have e2:=ar8 a.hi m Zo;have g:=Ja (Jb e1 e2);clear hr h0 f hb hm h1 e1 e2;go_enter Tryz.func77,Tryz.ntmps77;go_upto_region 1 with fail;have c:=Ja (show Q w (((w.alloc (G #[M (a.lo:Int),M (a.hi:Int)] 45)).alloc (G #[M (b.lo:Int),M (b.hi:Int)] 45)).alloc (G #[M 0,M 0] 45))/\A (((w.alloc (G #[M (a.lo:Int),M (a.hi:Int)] 45)).alloc (G #[M (b.lo:Int),M (b.hi:Int)] 45)).alloc (G #[M 0,M 0] 45)) w.heap.size #[M (a.lo:Int),M (a.hi:Int)] 45/\A (((w.alloc (G #[M (a.lo:Int),M (a.hi:Int)] 45)).alloc (G #[M (b.lo:Int),M (b.hi:Int)] 45)).alloc (G #[M 0,M 0] 45)) (w.heap.size+1) #[M (b.lo:Int),M (b.hi:Int)] 45/\A (((w.alloc (G #[M (a.lo:Int),M (a.hi:Int)] 45)).alloc (G #[M (b.lo:Int),M (b.hi:Int)] 45)).alloc (G #[M 0,M 0] 45)) (w.heap.size+1+1) #[M 0,M 0] 45 from⟨by repeat' (first|exact Below.refl _ _|assumption|(refine Below.alloc ?_ (by first|(simp;done)|(simp;omega)) _)|(refine Below.setCell ?_ (by first|(simp;done)|(simp;omega)) _)),zB (zB (zI rfl)),zB (zI Zs),zI Zs⟩);generalize ((w.alloc (G #[M (a.lo:Int),M (a.hi:Int)] 45)).alloc (G #[M (b.lo:Int),M (b.hi:Int)] 45)).alloc (G #[M 0,M 0] 45)=X at *;have j:=Ja (show ∀W,Q X W->T W w.heap.size 0 (M (a.lo:Int))/\T W w.heap.size 1 (M (a.hi:Int))/\T W (w.heap.size+1) 0 (M (b.lo:Int))/\T W (w.heap.size+1) 1 (M (b.hi:Int)) from fun W hb=>⟨zA (zH hb c.out.2.1 (lt_of_block c.out.2.1)) rfl,zA (zH hb c.out.2.1 (lt_of_block c.out.2.1)) rfl,zA (zH hb c.out.2.2.1 (lt_of_block c.out.2.2.1)) rfl,zA (zH hb c.out.2.2.1 (lt_of_block c.out.2.2.1)) rfl⟩);obtain⟨c0,c1,c2,c3⟩:=j.out X (Below.refl _ _);have hk:=c.out.2.2.2;have f0:=zA (i:=0) hk rfl;have f1:=zA (i:=1) hk rfl;have g0:∀i,Y X (w.heap.size+1+1) i:=fun i=>zE (i:=i) hk;have a0:=lt_of_block hk;have k:=Ja c.out.1;clear hk
  go_upto_region 3 with fail
  go_region_held3 (fun w'=>T w' w.heap.size 0 (M (a.lo:Int))/\T w' w.heap.size 1 (M (a.hi:Int))/\T w' (w.heap.size+1) 0 (M (b.lo:Int))/\T w' (w.heap.size+1) 1 (M (b.hi:Int))) ((first|exact⟨c0,c1,c2,c3⟩|(go_simp;done)|(refine⟨?_,?_,?_,?_⟩<;>go_simp))) (fail)
  all_goals go_wp2_with fail
  all_goals (refine bodyPost_ret (v:=.agg #[M (IntKind.u16.wrap ((a.lo:Int)/(b.hi:Int))),M (IntKind.u16.wrap ((a.hi:Int)/(m:Int)))]) ?_ rfl ⟨by rw[g.out.1,g.out.2];rfl,by repeat' (first|exact k.out|(refine Below.drew ?_)|(refine Below.setCell ?_ (by first|(simp;done)|omega|(simp;omega)) _))⟩;rw[zM rfl];go_simp)
theorem sar_any (w:World){a b:Rg}(d:a.ok)(hb:b.ok):O 85 #[.agg #[M (a.lo:Int),M (a.hi:Int)],.agg #[M (b.lo:Int),M (b.hi:Int)]] w (tg w (if 32768<=a.hi then zx else ro a b)):=by
 have o:=d.1;have m:=d.2;have c:=hb.1;have l:=hb.2
 by_cases h0:32768<=a.hi
 ·rw[if_pos h0];have j:(32768:Int)<=(a.hi:Int):=Zo;clear d hb;go_enter Tryz.func85,Tryz.ntmps85;go_wp2_with (go_at_call 39;go_must (refine(q6 _).mono ?_;rintro e w1 ⟨rfl,c⟩;have hk:A w1 (w.heap.size+1+1) #[M 0,M 0] 45:=zH c (zI Zs) Zs;have f0:=zA (i:=0) hk rfl;have f1:=zA (i:=1) hk rfl;have g0:=zE (i:=0) hk;have g1:=zE (i:=1) hk;have f:=lt_of_block hk;have h:=Below.trans (show Q w _ from by repeat' (first|exact Below.refl _ _|(refine Below.alloc ?_ (by first|(simp;done)|(simp;omega)) _))) (c.mono (by first|(simp;done)|(simp;omega)));clear c hk))
  refine bodyPost_ret (v:=.agg #[M 0,M 65535]) ?_ rfl ⟨rfl,by repeat' (first|exact Below.refl _ _|assumption|(refine Below.alloc ?_ (by first|(simp;done)|(simp;omega)) _)|(refine Below.setCell ?_ (by first|(simp;done)|(simp;omega)) _))⟩;rw[zM rfl];go_simp
 ·rw[if_neg h0];have j:¬(32768:Int)<=(a.hi:Int):=Zo;obtain⟨⟨x,y⟩,hr⟩:∃r,ro a b=r:=⟨_,rfl⟩
  have g:∀W,O 84 #[.agg #[M (a.lo:Int),M (a.hi:Int)],.agg #[M (b.lo:Int),M (b.hi:Int)]] W (fun e w'=>e=.returned (.agg #[M x,M y])/\Q W w'):=fun W=>by
   have:=ae4 W (a:=a) (b:=b) Zo Zo;rw[hr] at this;exact this
  have k:=Ja g;rw[hr];clear d hb hr g h0;go_enter Tryz.func85,Tryz.ntmps85;go_wp2_with (go_at_call 84;go_must (refine(k.out _).mono ?_;rintro e w1 ⟨rfl,c⟩;have hk:A w1 (w.heap.size+1+1) #[M 0,M 0] 45:=zH c (zI Zs) Zs;have f0:=zA (i:=0) hk rfl;have f1:=zA (i:=1) hk rfl;have g0:=zE (i:=0) hk;have g1:=zE (i:=1) hk;have f:=lt_of_block hk;have h:=Below.trans (show Q w _ from by repeat' (first|exact Below.refl _ _|(refine Below.alloc ?_ (by first|(simp;done)|(simp;omega)) _))) (c.mono (by first|(simp;done)|(simp;omega)));clear c hk))
  refine bodyPost_ret (v:=.agg #[M x,M y]) ?_ rfl ⟨rfl,by repeat' (first|exact Below.refl _ _|assumption|(refine Below.alloc ?_ (by first|(simp;done)|(simp;omega)) _)|(refine Below.setCell ?_ (by first|(simp;done)|(simp;omega)) _))⟩;rw[zM rfl];go_simp
theorem eq_any (w:World){a b:Rg}(g:a.ok)(hb:b.ok):O 86 #[.agg #[M (a.lo:Int),M (a.hi:Int)],.agg #[M (b.lo:Int),M (b.hi:Int)]] w (tg w (if a.hi<b.lo∨b.hi<a.lo then⟨0,0⟩ else⟨0,1⟩)):=by
 have u:=g.1;have t:=g.2;have c:=hb.1;have o:=hb.2;obtain⟨q,f⟩:∃q,decide (a.hi<b.lo∨b.hi<a.lo)=q:=⟨_,rfl⟩
 have hr:(if a.hi<b.lo∨b.hi<a.lo then(⟨0,0⟩:Rg) else⟨0,1⟩)=if false=true then⟨1,1⟩ else if q=true then⟨0,0⟩ else⟨0,1⟩:=by rw[<-f];simp
 rw[hr];obtain⟨⟨x,y⟩,d⟩:∃r:Rg,(if false=true then(⟨1,1⟩:Rg) else if q=true then⟨0,0⟩ else⟨0,1⟩)=r:=⟨_,rfl⟩
 have k:∀W,O 87 #[.bool false,.bool q] W (fun e w'=>e=.returned (.agg #[M x,M y])/\Q W w'):=fun W=>by
  have:=aa1 W false q;rw[d] at this;exact this
 have m:=Ja k;rw[d];clear g hb hr k d
 by_cases h1:a.hi<b.lo
 ·obtain rfl:q=true:=by rw[<-f];simp[h1]
  have d1:decide (a.hi<b.lo)=true:=decide_eq_true h1;clear f h1;go_enter Tryz.func86,Tryz.ntmps86;go_wp2_with (go_at_call 87;go_must (refine(m.out _).mono ?_;rintro e w1 ⟨rfl,c⟩;have hk:A w1 (w.heap.size+1+1) #[M 0,M 0] 45:=zH c (zI Zs) Zs;have f0:=zA (i:=0) hk rfl;have f1:=zA (i:=1) hk rfl;have g0:=zE (i:=0) hk;have g1:=zE (i:=1) hk;have j:=lt_of_block hk;have l:=Below.trans (show Q w _ from by repeat' (first|exact Below.refl _ _|(refine Below.alloc ?_ (by first|(simp;done)|(simp;omega)) _))) (c.mono (by first|(simp;done)|(simp;omega)));clear c hk))
  refine bodyPost_ret (v:=.agg #[M x,M y]) ?_ rfl ⟨rfl,by repeat' (first|exact Below.refl _ _|assumption|(refine Below.alloc ?_ (by first|(simp;done)|(simp;omega)) _)|(refine Below.setCell ?_ (by first|(simp;done)|(simp;omega)) _))⟩;rw[zM rfl];go_simp
 ·have d1:decide (a.hi<b.lo)=false:=decide_eq_false h1;obtain⟨q2,h⟩:∃q2,decide (b.hi<a.lo)=q2:=⟨_,rfl⟩
  obtain rfl:q=q2:=by rw[<-f,<-h];simp[h1]
  clear f h1;go_enter Tryz.func86,Tryz.ntmps86;go_wp2_with (go_at_call 87;go_must (refine(m.out _).mono ?_;rintro e w1 ⟨rfl,c⟩;have hk:A w1 (w.heap.size+1+1) #[M 0,M 0] 45:=zH c (zI Zs) Zs;have f0:=zA (i:=0) hk rfl;have f1:=zA (i:=1) hk rfl;have g0:=zE (i:=0) hk;have g1:=zE (i:=1) hk;have j:=lt_of_block hk;have l:=Below.trans (show Q w _ from by repeat' (first|exact Below.refl _ _|(refine Below.alloc ?_ (by first|(simp;done)|(simp;omega)) _))) (c.mono (by first|(simp;done)|(simp;omega)));clear c hk))
  refine bodyPost_ret (v:=.agg #[M x,M y]) ?_ rfl ⟨rfl,by repeat' (first|exact Below.refl _ _|assumption|(refine Below.alloc ?_ (by first|(simp;done)|(simp;omega)) _)|(refine Below.setCell ?_ (by first|(simp;done)|(simp;omega)) _))⟩;rw[zM rfl];go_simp
theorem ltu_any (w:World){a b:Rg}(f:a.ok)(hb:b.ok):O 88 #[.agg #[M (a.lo:Int),M (a.hi:Int)],.agg #[M (b.lo:Int),M (b.hi:Int)]] w (tg w (if a.hi<b.lo then⟨1,1⟩ else if b.hi<=a.lo then⟨0,0⟩ else⟨0,1⟩)):=by
 have t:=f.1;have o:=f.2;have c:=hb.1;have m:=hb.2;obtain⟨q,h⟩:∃q,decide (a.hi<b.lo)=q:=⟨_,rfl⟩
 obtain⟨p,hp⟩:∃p,decide (b.hi<=a.lo)=p:=⟨_,rfl⟩
 have hr:(if a.hi<b.lo then(⟨1,1⟩:Rg) else if b.hi<=a.lo then⟨0,0⟩ else⟨0,1⟩)=if q=true then⟨1,1⟩ else if p=true then⟨0,0⟩ else⟨0,1⟩:=by rw[<-h,<-hp];simp
 rw[hr];obtain⟨⟨x,y⟩,d⟩:∃r:Rg,(if q=true then(⟨1,1⟩:Rg) else if p=true then⟨0,0⟩ else⟨0,1⟩)=r:=⟨_,rfl⟩
 have g:∀W,O 87 #[.bool q,.bool p] W (fun e w'=>e=.returned (.agg #[M x,M y])/\Q W w'):=fun W=>by
  have:=aa1 W q p;rw[d] at this;exact this
 have j:=Ja g;rw[d];clear f hb hr g d;go_enter Tryz.func88,Tryz.ntmps88;go_wp2_with (go_at_call 87;go_must (refine(j.out _).mono ?_;rintro e w1 ⟨rfl,c⟩;have hk:A w1 (w.heap.size+1+1) #[M 0,M 0] 45:=zH c (zI Zs) Zs;have f0:=zA (i:=0) hk rfl;have f1:=zA (i:=1) hk rfl;have g0:=zE (i:=0) hk;have g1:=zE (i:=1) hk;have k:=lt_of_block hk;have l:=Below.trans (show Q w _ from by repeat' (first|exact Below.refl _ _|(refine Below.alloc ?_ (by first|(simp;done)|(simp;omega)) _))) (c.mono (by first|(simp;done)|(simp;omega)));clear c hk))
 refine bodyPost_ret (v:=.agg #[M x,M y]) ?_ rfl ⟨rfl,by repeat' (first|exact Below.refl _ _|assumption|(refine Below.alloc ?_ (by first|(simp;done)|(simp;omega)) _)|(refine Below.setCell ?_ (by first|(simp;done)|(simp;omega)) _))⟩;rw[zM rfl];go_simp
theorem shl_any (w:World){a b:Rg}(j:a.ok)(hb:b.ok):O 82 #[.agg #[M (a.lo:Int),M (a.hi:Int)],.agg #[M (b.lo:Int),M (b.hi:Int)]] w (tg w (if yf b=true then wk (a.lo*2^(b.lo%16)) (a.hi*2^(b.lo%16)) else zx)):=by
 have a2:=j.1;have a1:=j.2;have f:=hb.1;have d:=hb.2
 by_cases h0:b.lo=b.hi
 ·rw[if_pos (by unfold yf;simpa using h0)];have hq:((b.lo:Int)==(b.hi:Int))=true:=by rw[beq_iff_eq];omega
  have hp:2^(b.lo%16)<=32768:=Nat.pow_le_pow_right (show 0<2 by decide) (show b.lo%16<=15 by omega);have o:a.lo*2^(b.lo%16)<=65535*32768:=Nat.mul_le_mul Zo hp;have m:a.hi*2^(b.lo%16)<=65535*32768:=Nat.mul_le_mul a1 hp;obtain⟨u,g⟩:∃u,a.lo*2^(b.lo%16)=u:=⟨_,rfl⟩
  obtain⟨v,hv⟩:∃v,a.hi*2^(b.lo%16)=v:=⟨_,rfl⟩
  have l:u<=v:=by rw[<-g,<-hv];exact Qw _ a2
  have k:v<=2147450880:=by rw[<-hv];exact m
  have a5:u<=2147450880:=Jn l k;clear o m hp;obtain⟨⟨x,y⟩,hr⟩:∃r,wk u v=r:=⟨_,rfl⟩
  have a4:wrap64 ((a.lo:Int)*2^(b.lo%16))=(u:Int):=by rw[show(a.lo:Int)*2^(b.lo%16)=((a.lo*2^(b.lo%16):Nat):Int) by simp,g];clear g hv;exact IntWalk.wrap64_in _ ⟨by omega,by omega⟩
  have a3:wrap64 ((a.hi:Int)*2^(b.lo%16))=(v:Int):=by rw[show(a.hi:Int)*2^(b.lo%16)=((a.hi*2^(b.lo%16):Nat):Int) by simp,hv];clear g hv;exact IntWalk.wrap64_in _ ⟨by omega,by omega⟩
  have t:∀W,O 76 #[I u,I v] W (fun e w'=>e=.returned (.agg #[M x,M y])/\Q W w'):=fun W=>by
   have:=abv W l (Nat.lt_of_le_of_lt k Zd);rw[hr] at this;exact this
  have HC:=Ja t;rw[g,hv,hr]
  have h:=Ja (show ∀W,O 83 #[.agg #[M (b.lo:Int),M (b.hi:Int)]] W (fun e w'=>e=.returned (.bool true)/\Q W w') from fun W=>by
   have:=m5 W b;rw[show yf b=true from decide_eq_true h0] at this
   exact this)
  clear j hb hr t h0 g hv hq;go_enter Tryz.func82,Tryz.ntmps82;go_upto_region 3 with(go_at_call 83;go_must (refine(h.out _).mono ?_;rintro e w2 ⟨rfl,d⟩;have c:=Ja (show Q w w2/\A w2 w.heap.size #[M (a.lo:Int),M (a.hi:Int)] 45/\A w2 (w.heap.size+1) #[M (b.lo:Int),M (b.hi:Int)] 45/\A w2 (w.heap.size+1+1) #[M 0,M 0] 45 from⟨Below.trans (show Q w _ from by repeat' (first|exact Below.refl _ _|(refine Below.alloc ?_ (by first|(simp;done)|(simp;omega)) _))) (d.mono (by first|(simp;done)|(simp;omega))),zH d (zB (zB (zI rfl))) (by first|(simp;done)|(simp;omega)),zH d (zB (zI Zs)) (by first|(simp;done)|(simp;omega)),zH d (zI Zs) Zs⟩);clear d))
  have c0:=zA (i:=0) c.out.2.1 rfl;have c1:=zA (i:=1) c.out.2.1 rfl;have c2:=zA (i:=0) c.out.2.2.1 rfl;have c3:=zA (i:=1) c.out.2.2.1 rfl;have l1:=lt_of_block c.out.2.1;have l2:=lt_of_block c.out.2.2.1;have l3:=lt_of_block c.out.2.2.2;go_wp2_with (go_at_call 76;go_must (refine(HC.out _).mono ?_;rintro e w1 ⟨rfl,f⟩;have hk:=zH f c.out.2.2.2 (lt_of_block c.out.2.2.2);have f0:=zA (i:=0) hk rfl;have f1:=zA (i:=1) hk rfl;have g0:=zE (i:=0) hk;have g1:=zE (i:=1) hk;have q:=lt_of_block hk;have a0:=c.out.1.trans (f.mono c.out.1.size);clear f hk))
  refine bodyPost_ret (v:=.agg #[M x,M y]) ?_ rfl ⟨rfl,by repeat' (first|exact Below.refl _ _|assumption|(refine Below.alloc ?_ (by first|(simp;done)|(simp;omega)) _)|(refine Below.setCell ?_ (by first|(simp;done)|(simp;omega)) _))⟩;rw[zM rfl];go_simp
 ·rw[if_neg (by unfold yf;simpa using h0)]
  have h:=Ja (show ∀W,O 83 #[.agg #[M (b.lo:Int),M (b.hi:Int)]] W (fun e w'=>e=.returned (.bool false)/\Q W w') from fun W=>by
   have:=m5 W b;rw[show yf b=false from decide_eq_false h0] at this
   exact this)
  clear j hb h0;go_enter Tryz.func82,Tryz.ntmps82;go_upto_region 2 with(go_at_call 83;go_must (refine(h.out _).mono ?_;rintro e w2 ⟨rfl,d⟩;have c:=Ja (show Q w w2/\A w2 w.heap.size #[M (a.lo:Int),M (a.hi:Int)] 45/\A w2 (w.heap.size+1) #[M (b.lo:Int),M (b.hi:Int)] 45/\A w2 (w.heap.size+1+1) #[M 0,M 0] 45 from⟨Below.trans (show Q w _ from by repeat' (first|exact Below.refl _ _|(refine Below.alloc ?_ (by first|(simp;done)|(simp;omega)) _))) (d.mono (by first|(simp;done)|(simp;omega))),zH d (zB (zB (zI rfl))) (by first|(simp;done)|(simp;omega)),zH d (zB (zI Zs)) (by first|(simp;done)|(simp;omega)),zH d (zI Zs) Zs⟩);clear d))
  have c0:=zA (i:=0) c.out.2.1 rfl;have c1:=zA (i:=1) c.out.2.1 rfl;have c2:=zA (i:=0) c.out.2.2.1 rfl;have c3:=zA (i:=1) c.out.2.2.1 rfl;have l1:=lt_of_block c.out.2.1;have l2:=lt_of_block c.out.2.2.1;have l3:=lt_of_block c.out.2.2.2;go_wp2_with (go_at_call 39;go_must (refine(q6 _).mono ?_;rintro e w1 ⟨rfl,f⟩;have hk:=zH f c.out.2.2.2 (lt_of_block c.out.2.2.2);have f0:=zA (i:=0) hk rfl;have f1:=zA (i:=1) hk rfl;have g0:=zE (i:=0) hk;have g1:=zE (i:=1) hk;have q:=lt_of_block hk;have a0:=c.out.1.trans (f.mono c.out.1.size);clear f hk))
  refine bodyPost_ret (v:=.agg #[M 0,M 65535]) ?_ rfl ⟨rfl,by repeat' (first|exact Below.refl _ _|assumption|(refine Below.alloc ?_ (by first|(simp;done)|(simp;omega)) _)|(refine Below.setCell ?_ (by first|(simp;done)|(simp;omega)) _))⟩;rw[zM rfl];go_simp
open Go.RowKit Go.Maps
def afY (v:Value):Option (DataW Unit×List MemPlace):=
 match v with
 |.func (.func k) fs cs=>if fs.size=0/\cs.size=0 then some (.lit (.int .i64 (k:Int)),[]) else none
 |.nilFunc=>some (.lit (.int .i64 (-1)),[])
 |_=>none
def ruV:Option Nat->Value
 |some k=> .func (.func k) #[] #[]
 |none=> .nilFunc
def ruD:Option Nat->DataW Unit
 |some k=> .lit (.int .i64 (k:Int))
 |none=> .lit (.int .i64 (-1))
theorem ae9 (o:Option Nat):afY (ruV o)=some (ruD o,[]):=by cases o<;>rfl
theorem agv {v:Value}{o:Option Nat}{ps:List MemPlace}(h:afY v=some (ruD o,ps)):v=ruV o:=by
 unfold afY at h
 split at h
 ·rename_i k fs cs
  split at h
  ·rename_i hs
   have e1:fs=#[]:=Array.eq_empty_of_size_eq_zero hs.1;have e2:cs=#[]:=Array.eq_empty_of_size_eq_zero hs.2;subst e1 e2
   cases o with
   |none=>simp only[ruD,Option.some.injEq,Prod.mk.injEq,DataW.lit.injEq,Lit.int.injEq,true_and] at h;have:=h.1;omega
   |some j=>simp only[ruD,Option.some.injEq,Prod.mk.injEq,DataW.lit.injEq,Lit.int.injEq,true_and] at h;have:k=j:=Int.ofNat.inj h.1
            subst this;rfl
  ·cases h
 ·cases o with
  |none=>rfl
  |some j=>simp[ruD] at h
 ·cases h
theorem zeroRu (w:World):(zeroValue 176).run Tryz.prog w=.ok .nilFunc w:=by kernel_rfl
def qz (w:World)(b n:Nat)(g:Int->Option Nat):Prop:=
 ∃D:DataW Unit,w.ownsMap Tryz.prog 3 afY b n D/\∀x,I64 x->D.atKey (.int .i64 x) (ruD none)=ruD (g x)/\Maps.has D (.int .i64 x)=(g x).isSome
theorem qz.made (w:World):qz (w.alloc (.map #[] 0)) w.heap.size 0 (fun _=>none):=⟨_,World.ownsMap_made _ _ _ _,fun _ _=>⟨rfl,rfl⟩⟩
theorem qz.blk{b n:Nat}{g:Int->Option Nat}(h:qz w b n g):∃es clock,w.heap[b]? =some (.map es clock):=by
 obtain⟨D,⟨es,clock,h1,h2⟩,h3⟩:=h;exact⟨es,clock,h1⟩
theorem qz.same{b n:Nat}{g:Int->Option Nat}(h:qz w b n g)(hb:w'.heap[b]? =w.heap[b]?):qz w' b n g:=by
 obtain⟨D,⟨es,c,h1,h2⟩,h3⟩:=h;exact⟨D,⟨es,c,hb.trans h1,h2⟩,h3⟩
theorem qz.below{b n:Nat}{g:Int->Option Nat}(h:qz w b n g)(hb:Q w w'):qz w' b n g:=by
 obtain⟨es,c,d⟩:=h.blk;exact h.same (hb.block b (lt_of_block d))
theorem qz.lookOk{b n:Nat}{g:Int->Option Nat}(h:qz w b n g){x:Int}(d:I64 x):
 (Instr.lookup 95 (.map (some b)) (I x) true).run Tryz.prog w=.ok (.tuple #[ruV (g x),.bool (g x).isSome]) w:=by
 obtain⟨D,h,hf⟩:=h;obtain⟨v,ps,c,hv⟩:=h.look_ok xH Tryz.underlying95 (zeroRu w) (ae9 none) (vB d);rw[(hf x d).1] at hv;rw[(hf x d).2,agv hv] at c;exact c
def putR (g:Int->Option Nat)(x:Int)(k:Nat):Int->Option Nat:=fun y=>if y=x then some k else g y
theorem afP{n b:Nat}(h:Below n w0 w)(hg:w.grownBy w' (some b))(hb:n<=b)(hs:n<=w.heap.size):Below n w0 w':=
 ⟨hg.os.trans h.os,hg.tape.trans h.tape,hg.output.trans h.output,Jn h.size hg.size,fun k hk=>(hg.block k Zo (by intro e;cases e;omega)).trans (h.block k hk)⟩
theorem agY{b n:Nat}{g:Int->Option Nat}(h:qz w b n g)(l:n<9000000000000000000)(kx:Int)(k:Nat)(d:I64 kx):
 ∃w',(Instr.mapUpdate 95 (.map (some b)) (.int .i64 kx) (.func (.func k) #[] #[])).run Tryz.prog w=.ok () w'/\qz w' b (n+1) (putR g kx k)/\w.grownBy w' (some b):=by
 obtain⟨D,h,hf⟩:=h;obtain⟨w1,i,j,c⟩:=h.update xH Tryz.underlying95 (by unfold maxLen;omega) (vB d) (ae9 (some k));refine⟨w1,i,⟨_,j,fun y hy=>?_⟩,c⟩;have f:WideAt.IsKeyLit (.int .i64 kx):=xH.key (vB d)
 by_cases e:y=kx
 ·subst e;simp only[putR,if_true];exact⟨Maps.atKey_put_same h.isMap f _ _,Maps.has_put_same h.isMap f _⟩
 ·simp only[putR,if_neg e];rw[Maps.atKey_put_other (by simpa using e),Maps.has_put_other (by simpa using e)];exact hf y hy
theorem wv{b n:Nat}{g:Int->Option Nat}(h:qz w b n g)(hb:Below b w0 w/\b<w.heap.size)(d:n<9000000000000000000)(kx:Int)(k:Nat)(c:I64 kx):
 ∃w',(Instr.mapUpdate 95 (.map (some b)) (I kx) (.func (.func k) #[] #[])).run Tryz.prog w=.ok () w'/\qz w' b (n+1) (putR g kx k)/\(Below b w0 w'/\b<w'.heap.size):=by
 obtain⟨w',h1,h2,h3⟩:=agY h d kx k c;exact⟨w',h1,h2,⟨afP hb.1 h3 (Je _) (Qd hb.2),Jy hb.2 h3.size⟩⟩
def ruG:Int->Option Nat:=(putR (putR (putR (putR (putR (putR (putR (putR (putR (putR (putR (putR (putR (putR (putR (putR (putR (fun _=>none) 3 70) 4 72) 5 73) 6 74) 7 75) 8 77) 9 78) 10 79) 11 81) 12 82) 13 84) 14 85) 15 86) 16 88) 17 89) 19 90) 23 91)
theorem ag5 (w:World):O 37 #[] w (fun e w'=>e=.returned (.map (some w.heap.size))/\qz w' w.heap.size 17 ruG/\Q w w'/\w.heap.size<w'.heap.size):=by
 obtain⟨G,hG⟩:∃G,ruG=G:=⟨_,rfl⟩
 rw[hG];go_enter Tryz.func37,Tryz.ntmps37;have b1:=qz.made w;have c1:Q w (w.alloc (.map #[] 0))/\w.heap.size<(w.alloc (.map #[] 0)).heap.size:=⟨Below.alloc (Below.refl _ _) (Je _) _,by simp⟩
 obtain⟨w1,d9,b0,c0⟩:=wv b1 c1 Zd 3 70 (by unfold I64;omega);clear b1 c1;obtain⟨w2,d8,a7,b9⟩:=wv b0 c0 Zd 4 72 (by unfold I64;omega);clear b0 c0;obtain⟨w3,d7,a6,b8⟩:=wv a7 b9 Zd 5 73 (by unfold I64;omega);clear a7 b9;obtain⟨w4,d6,a5,b7⟩:=wv a6 b8 Zd 6 74 (by unfold I64;omega);clear a6 b8;obtain⟨w5,d5,a4,b6⟩:=wv a5 b7 Zd 7 75 (by unfold I64;omega);clear a5 b7;obtain⟨w6,d4,a3,b5⟩:=wv a4 b6 Zd 8 77 (by unfold I64;omega);clear a4 b6;obtain⟨w7,d3,a2,b4⟩:=wv a3 b5 Zd 9 78 (by unfold I64;omega);clear a3 b5;obtain⟨w8,d2,a1,b3⟩:=wv a2 b4 Zd 10 79 (by unfold I64;omega);clear a2 b4;obtain⟨w9,d1,a0,b2⟩:=wv a1 b3 Zd 11 81 (by unfold I64;omega);clear a1 b3;obtain⟨w10,d0,k,y⟩:=wv a0 b2 Zd 12 82 (by unfold I64;omega);clear a0 b2;obtain⟨w11,c9,j,x⟩:=wv k y Zd 13 84 (by unfold I64;omega);clear k y;obtain⟨w12,c8,i,u⟩:=wv j x Zd 14 85 (by unfold I64;omega);clear j x;obtain⟨w13,c7,h,t⟩:=wv i u Zd 15 86 (by unfold I64;omega);clear i u;obtain⟨w14,c5,g,q⟩:=wv h t Zd 16 88 (by unfold I64;omega);clear h t;obtain⟨w15,c4,f,o⟩:=wv g q Zd 17 89 (by unfold I64;omega);clear g q;obtain⟨w16,c3,d,m⟩:=wv f o Zd 19 90 (by unfold I64;omega);clear f o;obtain⟨w17,c2,c,l⟩:=wv d m Zd 23 91 (by unfold I64;omega);clear d m;have HM:=Ja c;have HB:=Ja l;clear c l;have e0:=@run_makeMap Tryz.prog;go_wp2;go_ret;subst hG;exact⟨rfl,HM.out,HB.out.1,HB.out.2⟩
theorem ruG_none(h:ruG c=none)(a b:Rg):n5 c a b=none:=by
 simp only[ruG,putR] at h
 by_cases d:c=23
 ·rw[if_pos d] at h;cases h
 rw[if_neg d] at h
 by_cases f:c=19
 ·rw[if_pos f] at h;cases h
 rw[if_neg f] at h
 by_cases g:c=17
 ·rw[if_pos g] at h;cases h
 rw[if_neg g] at h
 by_cases i:c=16
 ·rw[if_pos i] at h;cases h
 rw[if_neg i] at h
 by_cases j:c=15
 ·rw[if_pos j] at h;cases h
 rw[if_neg j] at h
 by_cases k:c=14
 ·rw[if_pos k] at h;cases h
 rw[if_neg k] at h
 by_cases l:c=13
 ·rw[if_pos l] at h;cases h
 rw[if_neg l] at h
 by_cases m:c=12
 ·rw[if_pos m] at h;cases h
 rw[if_neg m] at h
 by_cases o:c=11
 ·rw[if_pos o] at h;cases h
 rw[if_neg o] at h
 by_cases q:c=10
 ·rw[if_pos q] at h;cases h
 rw[if_neg q] at h
 by_cases t:c=9
 ·rw[if_pos t] at h;cases h
 rw[if_neg t] at h
 by_cases u:c=8
 ·rw[if_pos u] at h;cases h
 rw[if_neg u] at h
 by_cases w:c=7
 ·rw[if_pos w] at h;cases h
 rw[if_neg w] at h
 by_cases x:c=6
 ·rw[if_pos x] at h;cases h
 rw[if_neg x] at h
 by_cases y:c=5
 ·rw[if_pos y] at h;cases h
 rw[if_neg y] at h
 by_cases h4:c=4
 ·rw[if_pos h4] at h;cases h
 rw[if_neg h4] at h
 by_cases h3:c=3
 ·rw[if_pos h3] at h;cases h
 rw[if_neg h3] at h;unfold n5;simp only[if_neg h3,if_neg h4,if_neg y,if_neg x,if_neg w,if_neg u,if_neg t,if_neg q,if_neg o,if_neg m,if_neg l,if_neg k,if_neg j,if_neg i,if_neg g,if_neg f,if_neg d]
theorem af1(h:ruG c=some k){a b:Rg}(d:a.ok)(hb:b.ok)(w:World):∃r,n5 c a b=some r/\O k #[.agg #[M (a.lo:Int),M (a.hi:Int)],.agg #[M (b.lo:Int),M (b.hi:Int)]] w (tg w r):=by
 simp only[ruG,putR] at h
 by_cases f:c=23
 ·rw[if_pos f] at h;cases h;subst f;exact⟨_,rfl,agr w d hb⟩
 rw[if_neg f] at h
 by_cases g:c=19
 ·rw[if_pos g] at h;cases h;subst g;exact⟨_,rfl,afD w d hb⟩
 rw[if_neg g] at h
 by_cases i:c=17
 ·rw[if_pos i] at h;cases h;subst i;exact⟨_,rfl,lts_any w d hb⟩
 rw[if_neg i] at h
 by_cases j:c=16
 ·rw[if_pos j] at h;cases h;subst j;exact⟨_,rfl,ltu_any w d hb⟩
 rw[if_neg j] at h
 by_cases l:c=15
 ·rw[if_pos l] at h;cases h;subst l;exact⟨_,rfl,eq_any w d hb⟩
 rw[if_neg l] at h
 by_cases m:c=14
 ·rw[if_pos m] at h;cases h;subst m;exact⟨_,rfl,sar_any w d hb⟩
 rw[if_neg m] at h
 by_cases o:c=13
 ·rw[if_pos o] at h;cases h;subst o;exact⟨_,rfl,ae4 w ⟨by have:=d.1;have:=d.2;omega,by have:=d.2;omega⟩ (by have:=hb.1;have:=hb.2;omega)⟩
 rw[if_neg o] at h
 by_cases q:c=12
 ·rw[if_pos q] at h;cases h;subst q;exact⟨_,rfl,shl_any w d hb⟩
 rw[if_neg q] at h
 by_cases t:c=11
 ·rw[if_pos t] at h;cases h;subst t;exact⟨_,rfl,xor_any w d hb⟩
 rw[if_neg t] at h
 by_cases u:c=10
 ·rw[if_pos u] at h;cases h;subst u;exact⟨_,rfl,or_any w d hb⟩
 rw[if_neg u] at h
 by_cases x:c=9
 ·rw[if_pos x] at h;cases h;subst x;exact⟨_,rfl,and_any w d hb⟩
 rw[if_neg x] at h
 by_cases y:c=8
 ·rw[if_pos y] at h;cases h;subst y;exact⟨_,rfl,agm w d hb⟩
 rw[if_neg y] at h
 by_cases h7:c=7
 ·rw[if_pos h7] at h;cases h;subst h7;exact⟨_,rfl,mul_any w d hb⟩
 rw[if_neg h7] at h
 by_cases h6:c=6
 ·rw[if_pos h6] at h;cases h;subst h6;exact⟨_,rfl,sub_any w d hb⟩
 rw[if_neg h6] at h
 by_cases h5:c=5
 ·rw[if_pos h5] at h;cases h;subst h5;exact⟨_,rfl,add_any w d hb⟩
 rw[if_neg h5] at h
 by_cases h4:c=4
 ·rw[if_pos h4] at h;cases h;subst h4;exact⟨_,rfl,not_any w d hb⟩
 rw[if_neg h4] at h
 by_cases h3:c=3
 ·rw[if_pos h3] at h;cases h;subst h3;exact⟨_,rfl,neg_any w d hb⟩
 rw[if_neg h3] at h;cases h
theorem lP:∀x2 x4 x5 x7:Bool,(x7=false)∨(x2=false/\x7=true)∨(x2=true/\x4=false/\x7=true)∨(x2=true/\x4=true/\x5=false/\x7=true)∨(x2=true/\x4=true/\x5=true/\x7=true)
 |_,_,_,false=>(.inl rfl)
 |false,_,_,true=>(.inr (.inl ⟨rfl,rfl⟩))
 |true,false,_,true=>(.inr (.inr (.inl ⟨rfl,rfl,rfl⟩)))
 |true,true,false,true=>(Zi (.inl ⟨rfl,rfl,rfl,rfl⟩))
 |true,true,true,true=>(Zi (.inr ⟨rfl,rfl,rfl,rfl⟩))
theorem jZ:∀x1 x4 x6:Bool,(x1=false)∨(x1=true/\x4=false)∨(x1=true/\x4=true/\x6=false)∨(x1=true/\x4=true/\x6=true)
 |false,_,_=>(.inl rfl)
 |true,false,_=>(.inr (.inl ⟨rfl,rfl⟩))
 |true,true,false=>(.inr (.inr (.inl ⟨rfl,rfl,rfl⟩)))
 |true,true,true=>(.inr (.inr (.inr ⟨rfl,rfl,rfl⟩)))
theorem kM{B C:Nat}{V:PV}{p:IProg}(hp:ProgIn w B V p)(hB:B<=w.heap.size)(hC:A w C (rC V p++tl).toArray 173)(hl:p.args.length=p.funcs.length)(o:IOp)(ho:qN o)(ar:Option Addr)(h:Nat)(b7:o.args.length<=h/\h<=9223372036854775807)(i:o.code=26):
 O 138 #[F C,opV o (.slice ar o.args.length h)] w (ym w (opF p o)):=by
 unfold opV;obtain⟨_,b4,b9,b8,b5⟩:=ho;have b6:o.args.length<=9223372036854775807:=Zo;obtain⟨Vf,Va,Vd,Vb⟩:=V;obtain⟨f1,f2,e1,a6,a5⟩:=hp.funcs.form;have l:=hp.args;obtain⟨a1,a2,e2,b3,b2⟩:=hp.args.form;obtain⟨d1,d2,e3,b0,a7⟩:=hp.data.form;simp only at e1 e2 e3 l;subst e1 e2 e3;have c1:p.funcs.length<=9223372036854775807:=Zo;have c2:p.data.length<=9223372036854775807:=Zo;clear hp a6 a5 b3 b2 b0 a7;have c3:=lt_of_block hC;have hf:∀W,O 142 #[I 26] W fun e w'=>e=.returned (.tuple #[.agg #[.bool false,.bool false,.bool false,.bool false],.bool true])/\Q W w':=fun W=>yu 26 W
 obtain⟨x0,h0⟩:∃q,decide (0<=o.a)=q:=⟨_,rfl⟩
 obtain⟨x1,h1⟩:∃q,decide (0<=o.res)=q:=⟨_,rfl⟩
 obtain⟨x2,h2⟩:∃q,decide (-1<=o.res)=q:=⟨_,rfl⟩
 obtain⟨x3,h3⟩:∃q,decide (o.a<(p.funcs.length:Int))=q:=⟨_,rfl⟩
 obtain⟨x4,h4⟩:∃q,decide (o.b=0)=q:=⟨_,rfl⟩
 obtain⟨x5,h5⟩:∃q,decide (o.n=0)=q:=⟨_,rfl⟩
 obtain⟨x6,h6⟩:∃q,decide (o.args.length=0)=q:=⟨_,rfl⟩
 obtain⟨x7,j⟩:∃q,decide ((o.args.length:Int)=p.args.getD o.a.toNat 0)=q:=⟨_,rfl⟩
 have e:opF p o=(x0 && x3 && x7 && x2 && x4 && x5):=by
  unfold opF;rw[i];rw[h0,h3,j,h2,h4,h5];rfl
 rw[i];obtain⟨R,y⟩:∃R,opF p o=R:=⟨_,rfl⟩
 rw[y];rw[e] at y;have HR:=Ja y;have HF:=Ja hf;have HC:=Ja hC;have t4:=yv h4;have t5:((o.n:Int)==0)=x5:=yv (zZ h5 Zo);have t6:((o.args.length:Int)==0)=x6:=yv (zZ h6 Zo);clear e y hf h4 h5 h6 hC
 cases x0 with
 |false=>
  skip
  all_goals go_enter Tryz.func138,Tryz.ntmps138
  all_goals go_wp2_with (first|(go_at_call 142;go_must (refine(HF.out _).mono ?_;rintro e w1 ⟨rfl,d⟩;have c:=zH d (zI rfl) Zs;have u0:∀ob,T (w1.alloc ob) w.heap.size 0 (I 26):=fun ob=>zA (zB c) Zs;have u1:∀ob,T (w1.alloc ob) w.heap.size 1 (I o.res):=fun ob=>zA (zB c) Zs;have u2:∀ob,T (w1.alloc ob) w.heap.size 2 (I o.a):=fun ob=>zA (zB c) Zs;have u3:∀ob,T (w1.alloc ob) w.heap.size 3 (I o.b):=fun ob=>zA (zB c) Zs;have u4:∀ob,T (w1.alloc ob) w.heap.size 4 (M (o.n:Int)):=fun ob=>zA (zB c) Zs;have u5:∀ob,T (w1.alloc ob) w.heap.size 5 (.slice ar o.args.length h):=fun ob=>zA (zB c) Zs;have f:=zH d (zB HC.out) Zt;have v0:∀ob,T (w1.alloc ob) C 0 (.slice f1 p.funcs.length f2):=fun ob=>zA (zB f) rfl;have v1:∀ob,T (w1.alloc ob) C 1 (.slice a1 p.args.length a2):=fun ob=>zA (zB f) rfl;have v4:∀ob,T (w1.alloc ob) C 4 (.slice d1 p.data.length d2):=fun ob=>zA (zB f) rfl;clear c f;have g:=Ja d;clear d))|go_in)
  all_goals go_quiet (fail)
  all_goals go_wp2
  all_goals go_ret
  all_goals exact⟨uz (HR.out.symm.trans rfl),yC ((((Below.refl _ _).alloc (Je _) _).trans (g.out.mono Zs)).alloc (by have u:=g.out.size;simp at u;omega) _)⟩
 |true=>
  obtain⟨k,hk⟩:∃k:Nat,o.a=(k:Int):=⟨o.a.toNat,by have:=of_decide_eq_true h0;omega⟩
  rw[hk] at h3 j ⊢;have t0:decide ((0:Int)<=(k:Int))=true:=decide_eq_true Zo;have t3:decide (k<p.funcs.length)=x3:=zZ h3 Zo
  cases x3 with
  |false=>
   clear j
   all_goals go_enter Tryz.func138,Tryz.ntmps138
   all_goals go_wp2_with (first|(go_at_call 142;go_must (refine(HF.out _).mono ?_;rintro e w1 ⟨rfl,d⟩;have c:=zH d (zI rfl) Zs;have u0:∀ob,T (w1.alloc ob) w.heap.size 0 (I 26):=fun ob=>zA (zB c) Zs;have u1:∀ob,T (w1.alloc ob) w.heap.size 1 (I o.res):=fun ob=>zA (zB c) Zs;have u2:∀ob,T (w1.alloc ob) w.heap.size 2 (I k):=fun ob=>zA (zB c) Zs;have u3:∀ob,T (w1.alloc ob) w.heap.size 3 (I o.b):=fun ob=>zA (zB c) Zs;have u4:∀ob,T (w1.alloc ob) w.heap.size 4 (M (o.n:Int)):=fun ob=>zA (zB c) Zs;have u5:∀ob,T (w1.alloc ob) w.heap.size 5 (.slice ar o.args.length h):=fun ob=>zA (zB c) Zs;have f:=zH d (zB HC.out) Zt;have v0:∀ob,T (w1.alloc ob) C 0 (.slice f1 p.funcs.length f2):=fun ob=>zA (zB f) rfl;have v1:∀ob,T (w1.alloc ob) C 1 (.slice a1 p.args.length a2):=fun ob=>zA (zB f) rfl;have v4:∀ob,T (w1.alloc ob) C 4 (.slice d1 p.data.length d2):=fun ob=>zA (zB f) rfl;clear c f;have g:=Ja d;clear d))|go_in)
   all_goals go_quiet (fail)
   all_goals go_wp2
   all_goals go_ret
   all_goals exact⟨uz (HR.out.symm.trans rfl),yC ((((Below.refl _ _).alloc (Je _) _).trans (g.out.mono Zs)).alloc (by have u:=g.out.size;simp at u;omega) _)⟩
  |true=>
   have a4:k<p.funcs.length:=of_decide_eq_true t3;obtain⟨x,hx⟩:∃x,p.args[k]? =some x:=⟨_,Jd Zo⟩
   obtain⟨ba,oa,rfl,a0,t,_⟩:=l.get hx;rw[Nk] at t;rw[Ni,Jj,hx,Ot] at j;have t7:=yv j;have c0:(k:Int)<p.args.length:=Zo;have a3:=Ja (Jb (Jy a0 hB) t);clear j hx t a0 l a4;have b1:=lP x2 x4 x5 x7;rcases b1 with rfl|⟨rfl,rfl⟩|⟨rfl,rfl,rfl⟩|⟨rfl,rfl,rfl,rfl⟩|⟨rfl,rfl,rfl,rfl⟩
   all_goals go_enter Tryz.func138,Tryz.ntmps138
   all_goals go_wp2_with (first|(go_at_call 142;go_must (refine(HF.out _).mono ?_;rintro e w1 ⟨rfl,d⟩;have c:=zH d (zI rfl) Zs;have u0:∀ob,T (w1.alloc ob) w.heap.size 0 (I 26):=fun ob=>zA (zB c) Zs;have u1:∀ob,T (w1.alloc ob) w.heap.size 1 (I o.res):=fun ob=>zA (zB c) Zs;have u2:∀ob,T (w1.alloc ob) w.heap.size 2 (I k):=fun ob=>zA (zB c) Zs;have u3:∀ob,T (w1.alloc ob) w.heap.size 3 (I o.b):=fun ob=>zA (zB c) Zs;have u4:∀ob,T (w1.alloc ob) w.heap.size 4 (M (o.n:Int)):=fun ob=>zA (zB c) Zs;have u5:∀ob,T (w1.alloc ob) w.heap.size 5 (.slice ar o.args.length h):=fun ob=>zA (zB c) Zs;have f:=zH d (zB HC.out) Zt;have v0:∀ob,T (w1.alloc ob) C 0 (.slice f1 p.funcs.length f2):=fun ob=>zA (zB f) rfl;have v1:∀ob,T (w1.alloc ob) C 1 (.slice (some ⟨ba,oa,none⟩) p.args.length a2):=fun ob=>zA (zB f) rfl;have v4:∀ob,T (w1.alloc ob) C 4 (.slice d1 p.data.length d2):=fun ob=>zA (zB f) rfl;have m:=((Below.refl w.heap.size w).alloc (Je _) _).trans (d.mono Zs);have v9:∀ob,T (w1.alloc ob) ba (oa+k) (I x):=fun ob=>zV (m.alloc m.size ob) a3.out.1 a3.out.2;clear m;clear c f;have g:=Ja d;clear d))|go_in)
   all_goals go_quiet (fail)
   all_goals go_wp2
   all_goals go_ret
   all_goals exact⟨uz (HR.out.symm.trans rfl),yC ((((Below.refl _ _).alloc (Je _) _).trans (g.out.mono Zs)).alloc (by have u:=g.out.size;simp at u;omega) _)⟩
theorem jo{B C:Nat}{V:PV}{p:IProg}(hp:ProgIn w B V p)(hB:B<=w.heap.size)(t:A w C (rC V p++tl).toArray 173)(hl:p.args.length=p.funcs.length)(o:IOp)(ho:qN o)(ar:Option Addr)(h:Nat)(b5:o.args.length<=h/\h<=9223372036854775807)(i:o.code=2):
 O 138 #[F C,opV o (.slice ar o.args.length h)] w (ym w (opF p o)):=by
 unfold opV;obtain⟨_,b2,b7,b6,b3⟩:=ho;have b4:o.args.length<=9223372036854775807:=Zo;obtain⟨Vf,Va,Vd,Vb⟩:=V;obtain⟨f1,f2,e1,a4,a3⟩:=hp.funcs.form;have m:=hp.args;obtain⟨a1,a2,e2,b1,b0⟩:=hp.args.form;obtain⟨d1,d2,e3,a6,a5⟩:=hp.data.form;simp only at e1 e2 e3 m;subst e1 e2 e3;have b8:p.funcs.length<=9223372036854775807:=Zo;have b9:p.data.length<=9223372036854775807:=Zo;clear hp a4 a3 b1 b0 a6 a5;have c0:=lt_of_block t;have hf:∀W,O 142 #[I 2] W fun e w'=>e=.returned (.tuple #[.agg #[.bool true,.bool false,.bool false,.bool true],.bool true])/\Q W w':=fun W=>yu 2 W
 obtain⟨x0,h0⟩:∃q,decide (0<=o.a)=q:=⟨_,rfl⟩
 obtain⟨x1,h1⟩:∃q,decide (0<=o.res)=q:=⟨_,rfl⟩
 obtain⟨x2,h2⟩:∃q,decide (-1<=o.res)=q:=⟨_,rfl⟩
 obtain⟨x3,h3⟩:∃q,decide (o.a<(p.data.length:Int))=q:=⟨_,rfl⟩
 obtain⟨x4,y⟩:∃q,decide (o.b=0)=q:=⟨_,rfl⟩
 obtain⟨x5,h5⟩:∃q,decide (o.n=0)=q:=⟨_,rfl⟩
 obtain⟨x6,x⟩:∃q,decide (o.args.length=0)=q:=⟨_,rfl⟩
 obtain⟨x7,u⟩:∃q,decide ((o.args.length:Int)=p.args.getD o.a.toNat 0)=q:=⟨_,rfl⟩
 have e:opF p o=(x0 && x3 && x1 && x4 && x6):=by
  unfold opF;rw[i];rw[h0,h3,h1,y,x];rfl
 rw[i];obtain⟨R,l⟩:∃R,opF p o=R:=⟨_,rfl⟩
 rw[l];rw[e] at l;have HR:=Ja l;have HF:=Ja hf;have HC:=Ja t;have t4:=yv y;have t5:((o.n:Int)==0)=x5:=yv (zZ h5 Zo);have t6:((o.args.length:Int)==0)=x6:=yv (zZ x Zo);clear e l hf y h5 x t
 cases x0 with
 |false=>
  skip
  all_goals go_enter Tryz.func138,Tryz.ntmps138
  all_goals go_wp2_with (first|(go_at_call 142;go_must (refine(HF.out _).mono ?_;rintro e w1 ⟨rfl,f⟩;have c:=zH f (zI rfl) Zs;have u0:∀ob,T (w1.alloc ob) w.heap.size 0 (I 2):=fun ob=>zA (zB c) Zs;have u1:∀ob,T (w1.alloc ob) w.heap.size 1 (I o.res):=fun ob=>zA (zB c) Zs;have u2:∀ob,T (w1.alloc ob) w.heap.size 2 (I o.a):=fun ob=>zA (zB c) Zs;have u3:∀ob,T (w1.alloc ob) w.heap.size 3 (I o.b):=fun ob=>zA (zB c) Zs;have u4:∀ob,T (w1.alloc ob) w.heap.size 4 (M (o.n:Int)):=fun ob=>zA (zB c) Zs;have u5:∀ob,T (w1.alloc ob) w.heap.size 5 (.slice ar o.args.length h):=fun ob=>zA (zB c) Zs;have d:=zH f (zB HC.out) Zt;have v0:∀ob,T (w1.alloc ob) C 0 (.slice f1 p.funcs.length f2):=fun ob=>zA (zB d) rfl;have v1:∀ob,T (w1.alloc ob) C 1 (.slice a1 p.args.length a2):=fun ob=>zA (zB d) rfl;have v4:∀ob,T (w1.alloc ob) C 4 (.slice d1 p.data.length d2):=fun ob=>zA (zB d) rfl;clear c d;have g:=Ja f;clear f))|go_in)
  all_goals go_quiet (fail)
  all_goals go_wp2
  all_goals go_ret
  all_goals exact⟨uz (HR.out.symm.trans rfl),yC ((((Below.refl _ _).alloc (Je _) _).trans (g.out.mono Zs)).alloc (by have j:=g.out.size;simp at j;omega) _)⟩
 |true=>
  obtain⟨k,hk⟩:∃k:Nat,o.a=(k:Int):=⟨o.a.toNat,by have:=of_decide_eq_true h0;omega⟩
  rw[hk] at h3 u ⊢;have t0:decide ((0:Int)<=(k:Int))=true:=decide_eq_true Zo;have t3:decide (k<p.data.length)=x3:=zZ h3 Zo
  cases x3 with
  |false=>
   clear u
   all_goals go_enter Tryz.func138,Tryz.ntmps138
   all_goals go_wp2_with (first|(go_at_call 142;go_must (refine(HF.out _).mono ?_;rintro e w1 ⟨rfl,f⟩;have c:=zH f (zI rfl) Zs;have u0:∀ob,T (w1.alloc ob) w.heap.size 0 (I 2):=fun ob=>zA (zB c) Zs;have u1:∀ob,T (w1.alloc ob) w.heap.size 1 (I o.res):=fun ob=>zA (zB c) Zs;have u2:∀ob,T (w1.alloc ob) w.heap.size 2 (I k):=fun ob=>zA (zB c) Zs;have u3:∀ob,T (w1.alloc ob) w.heap.size 3 (I o.b):=fun ob=>zA (zB c) Zs;have u4:∀ob,T (w1.alloc ob) w.heap.size 4 (M (o.n:Int)):=fun ob=>zA (zB c) Zs;have u5:∀ob,T (w1.alloc ob) w.heap.size 5 (.slice ar o.args.length h):=fun ob=>zA (zB c) Zs;have d:=zH f (zB HC.out) Zt;have v0:∀ob,T (w1.alloc ob) C 0 (.slice f1 p.funcs.length f2):=fun ob=>zA (zB d) rfl;have v1:∀ob,T (w1.alloc ob) C 1 (.slice a1 p.args.length a2):=fun ob=>zA (zB d) rfl;have v4:∀ob,T (w1.alloc ob) C 4 (.slice d1 p.data.length d2):=fun ob=>zA (zB d) rfl;clear c d;have g:=Ja f;clear f))|go_in)
   all_goals go_quiet (fail)
   all_goals go_wp2
   all_goals go_ret
   all_goals exact⟨uz (HR.out.symm.trans rfl),yC ((((Below.refl _ _).alloc (Je _) _).trans (g.out.mono Zs)).alloc (by have j:=g.out.size;simp at j;omega) _)⟩
  |true=>
   have a0:k<p.data.length:=of_decide_eq_true t3;clear u a0 m;have a7:=jZ x1 x4 x6;rcases a7 with rfl|⟨rfl,rfl⟩|⟨rfl,rfl,rfl⟩|⟨rfl,rfl,rfl⟩
   all_goals go_enter Tryz.func138,Tryz.ntmps138
   all_goals go_wp2_with (first|(go_at_call 142;go_must (refine(HF.out _).mono ?_;rintro e w1 ⟨rfl,f⟩;have c:=zH f (zI rfl) Zs;have u0:∀ob,T (w1.alloc ob) w.heap.size 0 (I 2):=fun ob=>zA (zB c) Zs;have u1:∀ob,T (w1.alloc ob) w.heap.size 1 (I o.res):=fun ob=>zA (zB c) Zs;have u2:∀ob,T (w1.alloc ob) w.heap.size 2 (I k):=fun ob=>zA (zB c) Zs;have u3:∀ob,T (w1.alloc ob) w.heap.size 3 (I o.b):=fun ob=>zA (zB c) Zs;have u4:∀ob,T (w1.alloc ob) w.heap.size 4 (M (o.n:Int)):=fun ob=>zA (zB c) Zs;have u5:∀ob,T (w1.alloc ob) w.heap.size 5 (.slice ar o.args.length h):=fun ob=>zA (zB c) Zs;have d:=zH f (zB HC.out) Zt;have v0:∀ob,T (w1.alloc ob) C 0 (.slice f1 p.funcs.length f2):=fun ob=>zA (zB d) rfl;have v1:∀ob,T (w1.alloc ob) C 1 (.slice a1 p.args.length a2):=fun ob=>zA (zB d) rfl;have v4:∀ob,T (w1.alloc ob) C 4 (.slice d1 p.data.length d2):=fun ob=>zA (zB d) rfl;clear c d;have g:=Ja f;clear f))|go_in)
   all_goals go_quiet (fail)
   all_goals go_wp2
   all_goals go_ret
   all_goals exact⟨uz (HR.out.symm.trans rfl),yC ((((Below.refl _ _).alloc (Je _) _).trans (g.out.mono Zs)).alloc (by have j:=g.out.size;simp at j;omega) _)⟩
theorem ju{C:Nat}{p:IProg}(o:IOp)(ho:qN o)(ar:Option Addr)(f:Nat)(hs:zi o.code=⟨false,false,false,false,false⟩):
 O 138 #[F C,opV o (.slice ar o.args.length f)] w (ym w (opF p o)):=by
 unfold opV;obtain⟨i,g,k,j,h⟩:=ho;have e:opF p o=false:=by unfold opF;rw[hs];rfl
 rw[e];have hf:∀W,O 142 #[I o.code] W fun e w'=>e=.returned (.tuple #[.agg #[.bool false,.bool false,.bool false,.bool false],.bool false])/\Q W w':=fun W=>by have:=yu o.code W;rw[hs] at this;exact this
 have m:=Ja hf;clear hf hs e;go_enter Tryz.func138,Tryz.ntmps138;go_wp2_with (first|(go_at_call 142;go_must (refine(m.out _).mono ?_;rintro e w1 ⟨rfl,c⟩;have d:=Ja c;clear c))|go_in)
 go_ret;exact⟨rfl,(((Below.refl _ _).alloc (Je _) _).trans (d.out.mono Zs)).alloc (by have l:=d.out.size;simp at l;omega) _⟩
theorem oper_any{B C:Nat}{V:PV}{p:IProg}(hp:ProgIn w B V p)(k:B<=w.heap.size)(j:A w C (rC V p++tl).toArray 173)(hl:p.args.length=p.funcs.length)(o:IOp)(ho:qN o)(ar:Option Addr)(c:Nat)(d:o.args.length<=c/\c<=9223372036854775807):
 O 138 #[F C,opV o (.slice ar o.args.length c)] w (ym w (opF p o)):=by
 by_cases g:o.code=26
 ·exact kM hp k j hl o ho ar c d g
 by_cases h2:o.code=2
 ·exact jo hp k j hl o ho ar c d h2
 by_cases i:o.code=24
 ·exact oper_in (pvs:=[]) o ho ar c d i
 by_cases f:o.code=25
 ·exact oper_out (pvs:=[]) o ho ar c d f
 rcases rJ o.code with⟨h,e⟩|⟨h,e⟩|⟨h,e⟩|⟨h,e⟩|⟨h,e⟩|⟨h,e⟩|⟨h,e⟩|⟨h,e⟩
 ·exact kG (pvs:=[]) o ho ar c d e g h2 i f
 ·exact oper_una (pvs:=[]) o ho ar c d e g h2 i f
 ·exact oper_bin (pvs:=[]) o ho ar c d e g h2 i f
 ·exact oper_sto (pvs:=[]) o ho ar c d e g h2 i f
 ·exact oper_rom (pvs:=[]) o ho ar c d e g h2 i f
 ·exact absurd h f
 ·exact kY (pvs:=[]) o ho ar c d e g h2 i f
 ·exact ju o ho ar c e
theorem edge_bad{e:IEdge}(c:t.to[k]? =some e)(h:uM blocks e=false):tz blocks t=false:=by
 unfold tz
 have:t.to.all (uM blocks)=false:=by
  rw[Bool.eq_false_iff];intro h2;rw[Oe.1 h2 e (Ji c)] at h;cases h
 rw[this];rfl
theorem term_any{B C:Nat}{cs:Array Value}{d2:Value}(c1:wX w B d2 blocks)(hB:B<=w.heap.size)(hC:A w C cs 173)(h6:cs[6]? =some d2)(t:ITerm)(ht:I64 t.kind/\I64 t.a){tv:Value}(b2:wH w B tv t.to):
 O 139 #[F C,.agg #[I t.kind,I t.a,tv]] w (ym w (tz blocks t)):=by
 obtain⟨fa,fc,rfl,e6,e5⟩:=c1.form;obtain⟨ta,tc,rfl,e2,d9⟩:=b2.form;have g4:blocks.length<=9223372036854775807:=Zo;have g0:t.to.length<=9223372036854775807:=Zo;obtain⟨tk,b3⟩:∃x,t.kind=x:=⟨_,rfl⟩
 obtain⟨tA,b4⟩:∃x,t.a=x:=⟨_,rfl⟩
 have f5:=Ja c1;have f3:=Ja b2;obtain⟨res,a0⟩:∃x,tz blocks t=x:=⟨_,rfl⟩
 rw[a0,b3,b4];have m:=Ja (show tz blocks t=res/\t.kind=tk/\t.a=tA from⟨a0,b3,b4⟩);have d0:Q w (w.alloc (G #[I tk,I tA,.slice ta t.to.length tc] 82)):=(Below.refl _ _).alloc (Je _) _;have b1:=zI (W:=w) (o:=G #[I tk,I tA,.slice ta t.to.length tc] 82) rfl;have g:=zB (o:=G #[I tk,I tA,.slice ta t.to.length tc] 82) hC;clear c1 b2 a0 b3 b4 hC e6 e5 e2 d9;go_enter Tryz.func139,Tryz.ntmps139;go_upto_region 1 with fail;generalize f2:w.alloc (G #[I tk,I tA,.slice ta t.to.length tc] 82)=W0 at *;have y2:=K2 b1;have c:=Ja d0;have d3:=Ja b1;have d5:=Ja g;clear f2 d0 b1 g;go_wp2
 go_loopw [10] (fun kv wx=>∃k:Nat,k<=t.to.length/\kv=I k/\Hid (Q W0 wx/\(t.to.take k).all (uM blocks)=true)) (fun kv _=>t.to.length-(intOf kv).toNat)
 case atStart=>exact⟨0,Jt _,rfl,Ja ⟨Below.refl _ _,by rfl⟩⟩
 case round=>
  obtain⟨k,hk,rfl,HK⟩:=hrel
  by_cases a6:k<t.to.length
  ·have d6:(k:Int)<t.to.length:=Zo;have d4:=Ja a6;obtain⟨e,he⟩:∃e,t.to[k]? =some e:=⟨_,Jd a6⟩
   obtain⟨b,oo,rfl,hb,g,b7,av,c9,d1⟩:=f3.out.get he;obtain⟨aa,ac,rfl,f0,e8⟩:=d1.form;have g7:e.args.length<=9223372036854775807:=Zo;have c0:Q w wr:=c.out.trans (HK.out.1.mono c.out.size);obtain⟨eb,a7⟩:∃x,e.block=x:=⟨_,rfl⟩
   rw[a7] at g;have e0:=zV c0 (Jy hb hB) g;have e1:=zV c0 (Jy hb hB) c9;have d:=zH HK.out.1 d5.out (lt_of_block d5.out);have HT:=Ja (show(t.to.take (k+1)).all (uM blocks)=((t.to.take k).all (uM blocks) && uM blocks e)/\(uM blocks e=false->tz blocks t=false) from⟨xX (uM blocks) he,fun h=>edge_bad he h⟩);have HE:=Ja a7;have c3:I64 eb:=a7 ▸ b7;obtain⟨g6,g5⟩:=c3;have c5:=zB (o:=G #[I eb,.slice aa e.args.length ac] 79) d;have b0:=zI (W:=wr) (o:=G #[I eb,.slice aa e.args.length ac] 79) rfl;have c4:=HK.out.1.alloc (HK.out.1.size) (G #[I eb,.slice aa e.args.length ac] 79);clear g c9 d1 he d a6 f0 e8 b7 a7 y2;go_upto_region 4 with fail;generalize f1:wr.alloc (G #[I eb,.slice aa e.args.length ac] 79)=W1 at *;generalize wr.heap.size=b6 at *;have f8:=K0 b0;have f6:=K1 b0;have zc:T W1 C 6 (.slice fa blocks.length fc):=zA c5 h6;have u:=Ja c4;clear f1 b0 c5 c4 c0 e0 e1
   by_cases g1:1<=eb
   ·have t1:decide (eb<1)=false:=decide_eq_false Zo;obtain⟨j,rfl⟩:∃j:Nat,eb=(j:Int):=⟨eb.toNat,by omega⟩
    by_cases g2:j<blocks.length
    ·have t2:decide ((blocks.length:Int)<=(j:Int))=false:=decide_eq_false Zo;have d7:decide (blocks.length<=j)=false:=decide_eq_false Zo;have d8:(j:Int)<(blocks.length:Int):=Zo;obtain⟨bx,b8⟩:∃bx,blocks[j]? =some bx:=⟨_,Jd g2⟩
     obtain⟨fb,fo,rfl,e7,_,_,_,pv,ov,f9,c8,_,_,c7,_⟩:=f5.out.get b8;obtain⟨pa,pc,rfl,e4,e3⟩:=c7.form;have g3:bx.params.length<=9223372036854775807:=Zo;have b9:Q w W1:=c.out.trans (u.out.mono c.out.size);have p0:=zV b9 (Jy e7 hB) c8;obtain⟨q3,b5⟩:∃q,decide (e.args.length=bx.params.length)=q:=⟨_,rfl⟩
     have t3:((e.args.length:Int) !=(bx.params.length:Int))=!q3:=by
      rw[bne,yv (q:=q3) (zZ b5 Zo)]
     have f:uM blocks e=q3:=by
      unfold uM xz;rw[HE.out,decide_eq_true g1,decide_eq_true d8,Ni,Jj,b8,Ot,b5];rfl
     have i:=Ja f;clear b8 c8 c7 e4 e3 b9 f b5 g2
     cases q3 with
     |true=>
      go_quiet (fail);go_wp2;go_roundw
      case rel=>exact⟨k+1,d4.out,by go_num,Ja ⟨yC u.out,by rw[HT.out.1,HK.out.2,i.out];rfl⟩⟩
      case measure=>have:=d4.out;simp[intOf];omega
     |false=>
      go_quiet (fail);go_wp2;go_ret;exact⟨uz (m.out.1.symm.trans (HT.out.2 i.out)),yC (c.out.trans (u.out.mono c.out.size))⟩
    ·have t2:decide ((blocks.length:Int)<=(j:Int))=true:=decide_eq_true Zo;have d7:decide (blocks.length<=j)=true:=decide_eq_true Zo
     have f:uM blocks e=false:=by
      unfold uM;rw[HE.out,decide_eq_false (show ¬(j:Int)<(blocks.length:Int) by omega),Uh];rfl
     have i:=Ja f;clear f g2;go_quiet (fail);go_wp2;go_ret;exact⟨uz (m.out.1.symm.trans (HT.out.2 i.out)),yC (c.out.trans (u.out.mono c.out.size))⟩
   ·have t1:decide (eb<1)=true:=decide_eq_true Zo
    have f:uM blocks e=false:=by
     unfold uM;rw[HE.out,decide_eq_false g1];rfl
    have i:=Ja f;clear f g1;go_quiet (fail);go_wp2;go_ret;exact⟨uz (m.out.1.symm.trans (HT.out.2 i.out)),yC (c.out.trans (u.out.mono c.out.size))⟩
  ·obtain rfl:k=t.to.length:=by omega
   have d6:¬(t.to.length:Int)<t.to.length:=Zo;have d:=zH HK.out.1 d3.out (lt_of_block d3.out);have z0:=K0 d;have z1:=K1 d;have z2:=K2 d;have c2:t.to.all (uM blocks)=true:=by have:=HK.out.2;rwa [Nl] at this
   have y:Hid ((if tk=1 then decide (t.to.length=1) && decide (tA=0)
    else if tk=2 then decide (t.to.length=2)
    else if tk=3 then decide (1<=t.to.length)
    else if tk=4 then decide (t.to.length=0)
    else if tk=5 then decide (t.to.length=0) && decide (tA=0)
    else false)=res):=by
    have h:=m.out;unfold tz at h;rw[c2,Bool.true_and,h.2.1,h.2.2] at h;exact h.1
   have l:=Ja (show Q w wr from c.out.trans (HK.out.1.mono c.out.size));obtain⟨a1,h1⟩:∃q,decide (t.to.length=1)=q:=⟨_,rfl⟩
   obtain⟨a2,h2⟩:∃q,decide (t.to.length=2)=q:=⟨_,rfl⟩
   obtain⟨a3,h3⟩:∃q,decide (1<=t.to.length)=q:=⟨_,rfl⟩
   obtain⟨a4,h4⟩:∃q,decide (t.to.length=0)=q:=⟨_,rfl⟩
   obtain⟨a5,h5⟩:∃q,decide (tA=0)=q:=⟨_,rfl⟩
   rw[h1,h2,h3,h4,h5] at y;have t1:((t.to.length:Int)==1)=a1:=yv (zZ h1 Zo);have t2:((t.to.length:Int)==2)=a2:=yv (zZ h2 Zo);have t3:decide ((1:Int)<=(t.to.length:Int))=a3:=zZ h3 Zo;have t4:((t.to.length:Int)==0)=a4:=yv (zZ h4 Zo);have t5:=yv h5;clear c2 d h1 h2 h4 h5 y2 a6
   by_cases k1:tk=1
   ·subst k1;cases a1<;>cases a5
    all_goals go_wp2
    all_goals go_ret
    all_goals exact⟨uz (y.out.symm.trans rfl),l.out⟩
   by_cases k2:tk=2
   ·subst k2;go_wp2;go_ret;exact⟨uz (y.out.symm.trans rfl),l.out⟩
   by_cases k3:tk=3
   ·subst k3;go_wp2;go_ret;exact⟨uz (y.out.symm.trans rfl),l.out⟩
   by_cases k4:tk=4
   ·subst k4;go_wp2;go_ret;exact⟨uz (y.out.symm.trans rfl),l.out⟩
   by_cases k5:tk=5
   ·subst k5;cases a4<;>cases a5
    all_goals go_wp2
    all_goals go_ret
    all_goals exact⟨uz (y.out.symm.trans rfl),l.out⟩
   have f4:Hid (false=res):=by
    have:=y.out;rw[if_neg k1,if_neg k2,if_neg k3,if_neg k4,if_neg k5] at this;exact this
   have u1:(tk==1)=false:=by rw[beq_eq_false_iff_ne];exact k1
   have u2:(tk==2)=false:=by rw[beq_eq_false_iff_ne];exact k2
   have u3:(tk==3)=false:=by rw[beq_eq_false_iff_ne];exact k3
   have u4:(tk==4)=false:=by rw[beq_eq_false_iff_ne];exact k4
   have u5:(tk==5)=false:=by rw[beq_eq_false_iff_ne];exact k5
   clear k1 k2 k3 k4 k5 y;go_wp2;go_ret;exact⟨uz f4.out.symm,l.out⟩
theorem uI{p:IProg}:∀(l m:List IOp) (k:Int) (d:wO),sS p i (l++m) k d=(sS p i l k d).bind (sS p i m (k+l.length))
 | [],m,k,d=>by simp[sS]
 |o::l,m,k,d=>by
  have e:k+1+(l.length:Int)=k+((o::l).length:Int):=by simp;omega
  show(if opF p o then(if 0<=o.res then(rB d o.res i k).bind (sS p i (l++m) (k+1)) else sS p i (l++m) (k+1) d) else none)=(if opF p o then(if 0<=o.res then(rB d o.res i k).bind (sS p i l (k+1)) else sS p i l (k+1) d) else none).bind _
  by_cases h:opF p o=true
  ·rw[if_pos h,if_pos h]
   by_cases h2:0<=o.res
   ·rw[if_pos h2,if_pos h2]
    cases rB d o.res i k with
    |none=>rfl
    |some d'=>rw[Nw,Nw,uI l m,e]
   ·rw[if_neg h2,if_neg h2,uI l m,e]
  ·rw[if_neg h,if_neg h];rfl
theorem ui{p:IProg}:∀(l m:List IBlk) (i:Int) (d:wO),uH p bl (l++m) i d=(uH p bl l i d).bind (uH p bl m (i+l.length))
 | [],m,i,d=>by simp[uH]
 |b::l,m,i,d=>by
  have e:i+1+(l.length:Int)=i+((b::l).length:Int):=by simp;omega
  show(pS p bl i b d).bind (uH p bl (l++m) (i+1))=((pS p bl i b d).bind (uH p bl l (i+1))).bind _
  cases pS p bl i b d with
  |none=>rfl
  |some d'=>rw[Nw,Nw,ui l m,e]
theorem sD{α:Type}{l:List α}{x:α}(h:l[k]? =some x):l=l.take k++x::l.drop (k+1):=by
 rw[Jh] at h;obtain⟨hk,rfl⟩:=h
 conv=>lhs;rw[<-Qi k l,Qn hk]
theorem vS{α:Type}{l:List α}{x:α}(h:l[k]? =some x):((l.take k).length:Int)=k:=by
 have:=(Jh.1 h).1;rw[Oc,Ud Zo]
theorem aC{l:List Int}{v:Int}(h:l[k]? =some v)(c:vJ i (l.take k) d=some d'):vJ i (l.take (k+1)) d=rB d' v i (-1):=by
 rw[Nh,h,Option.toList,uX,c,Nw]
 show(rB d' v i (-1)).bind (vJ i [])=_
 cases rB d' v i (-1)<;>rfl
theorem qr{l:List Int}{v:Int}(h:l[k]? =some v)(f:vJ i (l.take k) d=some d')(c:rB d' v i (-1)=none):vJ i l d=none:=by
 rw[sD h,uX,f,Nw]
 show(rB d' v i (-1)).bind _=none
 rw[c];rfl
def ug (p:IProg)(i k:Int)(o:IOp)(d:wO):Option wO:=if opF p o then(if 0<=o.res then rB d o.res i k else some d) else none
theorem dG (p:IProg)(i k:Int)(o:IOp)(os:List IOp)(d:wO):sS p i (o::os) k d=(ug p i k o d).bind (sS p i os (k+1)):=by
 unfold sS ug
 by_cases h:opF p o=true
 ·rw[if_pos h,if_pos h]
  by_cases h2:0<=o.res
  ·rw[if_pos h2,if_pos h2]
  ·rw[if_neg h2,if_neg h2];rfl
 ·rw[if_neg h,if_neg h];rfl
theorem cK{p:IProg}(h:l[k]? =some o)(c:sS p i (l.take k) 0 d=some d'):sS p i (l.take (k+1)) 0 d=ug p i k o d':=by
 rw[Nh,h,Option.toList,uI,c,Nw,dG,vS h,Ub];cases ug p i k o d'<;>rfl
theorem oR{p:IProg}(h:l[k]? =some o)(f:sS p i (l.take k) 0 d=some d')(c:ug p i k o d'=none):sS p i l 0 d=none:=by
 rw[sD h,uI,f,Nw,dG,vS h,Ub,c];rfl
theorem lQ{p:IProg}{l:List IBlk}{b:IBlk}(h:l[k]? =some b)(c:uH p bl (l.take k) 0 d=some d'):uH p bl (l.take (k+1)) 0 d=pS p bl k b d':=by
 rw[Nh,h,Option.toList,ui,c,Nw,vS h,Ub]
 show(pS p bl k b d').bind (uH p bl [] _)=_
 cases pS p bl k b d'<;>rfl
theorem abe{p:IProg}{l:List IBlk}{b:IBlk}(h:l[k]? =some b)(f:uH p bl (l.take k) 0 d=some d')(c:pS p bl k b d'=none):uH p bl l 0 d=none:=by
 rw[sD h,ui,f,Nw,vS h,Ub]
 show(pS p bl k b d').bind _=none
 rw[c];rfl
def ft:wO:=(fun _=>none,fun _=>none)
theorem wS (p:IProg)(bl:List IBlk):wg p bl=uH p bl bl 0 ft:=rfl
def ShpPost (w:World)(C m1 m2:Nat)(pv:List Value)(blv idv:Value)(r:Option wO)(e:Ending)(w':World):Prop:=
 e=.returned (.bool r.isSome)/\Kept m1 m2 w w'/\∀d,r=some d->∃n,n<9000000000000000000/\ChkAt w' C m1 m2 pv blv idv n d
def vZ (blocks:List IBlk):Prop:=blocks.length<=2000000/\∀b∈blocks,b.params.length<=2000000/\b.ops.length<=2000000/\b.term.to.length<=2000000
theorem cnt_lt{i:Nat}(hi:i<=2000000)(c:j<=2000000):i*4000000+j<9000000000000000000:=by omega
theorem cnt_lt2{i:Nat}(hi:i<=2000000)(c:j<=2000000):i*4000000+2000000+j<9000000000000000000:=by omega
theorem cnt_0 (i:Nat):i*4000000<=i*4000000+0:=by omega
theorem cnt_1 (i j:Nat):i*4000000+j+1<=i*4000000+(j+1):=by omega
theorem cnt_2{i:Nat}(h:j<=2000000):i*4000000+j<=i*4000000+2000000+0:=by omega
theorem cnt_3 (i j:Nat):i*4000000+2000000+j+1<=i*4000000+2000000+(j+1):=by omega
theorem cnt_3' (i j:Nat):i*4000000+2000000+j<=i*4000000+2000000+(j+1):=by omega
theorem cnt_4{i:Nat}(h:j<=2000000):i*4000000+2000000+j<=(i+1)*4000000:=by omega
theorem wA.le{b n:Nat}{g:Int->Option Int}(h:wA w b n g)(d:n<=n'):wA w b n' g:=by
 obtain⟨D,⟨es,c,k1,k2,k3,k4⟩,k5⟩:=h;exact⟨D,⟨es,c,k1,k2,Jn k3 d,k4⟩,k5⟩
theorem ChkAt.le{C:Nat}{f c:Value}{n:Nat}(h:ChkAt w C m1 m2 pv f c n d)(g:n<=n'):ChkAt w C m1 m2 pv f c n' d:=
 ⟨h.blk,h.plen,h.map1.le g,h.map2.le g,h.ne,h.dom⟩
theorem qL {n:Nat}(h:n<=9000000):I64 (n:Int):=⟨by omega,by omega⟩
theorem blkF_eq{p:IProg}{b:IBlk}{d2:wO}(h1:vJ i b.params d=some d1)(h2:sS p i b.ops 0 d1=some d2):pS p bl i b d=if tz bl b.term then some d2 else none:=by
 unfold pS;rw[h1,Nw,h2,Nw]
theorem mS{p:IProg}{b:IBlk}(h1:vJ i b.params d=none):pS p bl i b d=none:=by
 unfold pS;rw[h1];rfl
theorem mm{p:IProg}{b:IBlk}(h1:vJ i b.params d=some d1)(h2:sS p i b.ops 0 d1=none):pS p bl i b d=none:=by
 unfold pS;rw[h1,Nw,h2];rfl
theorem lM{B C:Nat}{V:PV}{p:IProg}{g4 d5:Value}(hp:ProgIn w B V p)(g3:wX w B g4 blocks)(hB:B<=w.heap.size)(h1:B<=m1)(h2:B<=m2)(hl:p.args.length=p.funcs.length)(hs:vZ blocks)
 (hc:ChkAt w C m1 m2 (rC V p) g4 d5 0 ft):
 O 117 #[F C] w (ShpPost w C m1 m2 (rC V p) g4 d5 (wg p blocks)):=by
 obtain⟨fa,fc,rfl,n2,n1⟩:=g3.form;have q0:blocks.length<=9223372036854775807:=Zo;have l2:=Ja g3;have l:=Ja (show ProgIn w B V p/\B<=w.heap.size/\B<=m1/\B<=m2/\p.args.length=p.funcs.length/\vZ blocks from⟨hp,hB,h1,h2,hl,hs⟩);have q1:=Ja hc.ne1;have q2:=Ja (Jb hc.map1.lt hc.map2.lt);have o2:=Ja hc;obtain⟨res,e6⟩:∃x,wg p blocks=x:=⟨_,rfl⟩
 rw[e6];have m:=Ja e6;have y6:T w C 6 (.slice fa blocks.length fc):=zA hc.blk rfl;clear hp g3 hB h1 h2 hl hs hc e6 n2 n1;go_enter Tryz.func117,Tryz.ntmps117;go_wp2
 go_loopw [15] (fun kv wx=>∃i:Nat,i<=blocks.length/\kv=I i/\Hid (Kept m1 m2 w wx/\∃d,ChkAt wx C m1 m2 (rC V p) (.slice fa blocks.length fc) d5 (i*4000000) d/\uH p blocks (blocks.take i) 0 ft=some d)) (fun kv _=>blocks.length-(intOf kv).toNat)
 case atStart=>exact⟨0,Jt _,rfl,Ja ⟨Kept.refl _ _ _,ft,o2.out,rfl⟩⟩
 case round=>
  obtain⟨i,hi,rfl,HI⟩:=hrel
  by_cases f0:i<blocks.length
  ·have l4:(i:Int)<blocks.length:=Zo;have l1:=Ja f0;obtain⟨bx,b3⟩:∃bx,blocks[i]? =some bx:=⟨_,Jd f0⟩
   obtain⟨fb,fo,rfl,d6,k3,a6,g1,pv,ov,tv,k0,j9,j2,f6,f9,f5⟩:=l2.out.get b3;obtain⟨pa,pc,rfl,m3,m0⟩:=f6.form;obtain⟨oa,oc,rfl,m8,m4⟩:=f9.form;obtain⟨ta,tc,rfl,l9,l7⟩:=f5.form;have p4:bx.params.length<=9223372036854775807:=Zo;have p5:bx.ops.length<=9223372036854775807:=Zo;have f:Below B w wr:=HI.out.1.below l.out.2.2.1 l.out.2.2.2.1 l.out.2.1;have e0:=zV f d6 k0;have e1:=zV f d6 j9;have e2:=zV f d6 k3;have e3:=zV f d6 a6;have e4:=zV f d6 j2;have t:=Ja (show blocks[i]? =some bx/\zY w B (.slice pa bx.params.length pc) bx.params/\mN w B (.slice oa bx.ops.length oc) bx.ops/\wH w B (.slice ta bx.term.to.length tc) bx.term.to/\(I64 bx.term.kind/\I64 bx.term.a) from⟨b3,f6,f9,f5,g1⟩);obtain⟨d,g,c⟩:=HI.out.2;have k4:=g.below ((Below.refl wr.heap.size wr).alloc (Je _) (G #[.slice pa bx.params.length pc,.slice oa bx.ops.length oc,I bx.term.kind,I bx.term.a,.slice ta bx.term.to.length tc] 84));have l0:=Ja (Jb g.map1.lt g.map2.lt);have a1:=Ja c;have f4:=zI (W:=wr) (o:=G #[.slice pa bx.params.length pc,.slice oa bx.ops.length oc,I bx.term.kind,I bx.term.a,.slice ta bx.term.to.length tc] 84) rfl;have k2:=HI.out.1.trans (Kept.of ((Below.refl wr.heap.size wr).alloc (Je _) (G #[.slice pa bx.params.length pc,.slice oa bx.ops.length oc,I bx.term.kind,I bx.term.a,.slice ta bx.term.to.length tc] 84)));clear b3 k3 a6 g1 k0 j9 j2 f6 f9 f5 m3 m0 m8 m4 l9 l7 f g c f0 y6;go_upto_region 4 with fail;generalize n7:wr.alloc (G #[.slice pa bx.params.length pc,.slice oa bx.ops.length oc,I bx.term.kind,I bx.term.a,.slice ta bx.term.to.length tc] 84)=W1 at *;generalize h:wr.heap.size=b4 at *;have z0:=K0 f4;have d7:=Ja (show A W1 b4 #[.slice pa bx.params.length pc,.slice oa bx.ops.length oc,I bx.term.kind,I bx.term.a,.slice ta bx.term.to.length tc] 84/\b4≠m1/\b4≠m2 from⟨f4,by have:=l0.out.1;omega,by have:=l0.out.2;omega⟩);have g8:=Ja k2;have o1:=Ja k4;have d8:=Ja (l.out.2.2.2.2.2.2 bx (Ji t.out.1));have f2:=Ja (show i<=2000000 from Jn hi l.out.2.2.2.2.2.1);clear n7 h f4 k4 k2 e0 e1 e2 e3 e4;go_wp2
   go_loopw [23] (fun jv wx=>∃j:Nat,j<=bx.params.length/\jv=I j/\Hid (Kept m1 m2 W1 wx/\∃d',ChkAt wx C m1 m2 (rC V p) (.slice (some ⟨fb,fo,none⟩) blocks.length fc) d5 (i*4000000+j) d'/\vJ i (bx.params.take j) d=some d')) (fun jv _=>bx.params.length-(intOf jv).toNat)
   case atStart=>exact⟨0,Jt _,rfl,Ja ⟨Kept.refl _ _ _,d,o1.out.le (cnt_0 i),rfl⟩⟩
   case round=>
    obtain⟨j,hj,rfl,HJ⟩:=hrel
    by_cases b1:j<bx.params.length
    ·have h7:(j:Int)<bx.params.length:=Zo;have g7:=Ja b1;obtain⟨v,hv⟩:∃v,bx.params[j]? =some v:=⟨_,Jd b1⟩
     obtain⟨qb,qo,rfl,u,e8,b9⟩:=t.out.2.1.get hv;rw[Nk] at e8;have f:Below B w wr:=(g8.out.trans HJ.out.1).below l.out.2.2.1 l.out.2.2.2.1 l.out.2.1;have cv:=zV f u e8;obtain⟨d',g,c⟩:=HJ.out.2;have y:=Ja (show bx.params[j]? =some v/\vJ i (bx.params.take j) d=some d' from⟨hv,c⟩);have d0:I64 (i:Int):=qL (by have:=f2.out;omega);have c9:I64 (-1):=⟨by omega,by omega⟩
     cases a0:rB d' v i (-1) with
     |none=>
      have HD:=Ja a0;have d4:=Ja (oK g v i (-1) b9 d0 c9 a0);clear hv e8 u f g c a0 d0 c9 b1 b9 z0;go_wp2_with (go_at_call 137;go_must (refine d4.out.mono ?_;intro e w1 hh;obtain⟨rfl,hw⟩:=hh;rw[hw];clear hw))
      go_ret;refine⟨?_,g8.out.trans HJ.out.1,fun d2 hd2=>?_⟩
      ·rw[<-m.out,wS,abe t.out.1 a1.out (mS (qr y.out.1 y.out.2 HD.out))];rfl
      ·rw[<-m.out,wS,abe t.out.1 a1.out (mS (qr y.out.1 y.out.2 HD.out))] at hd2;cases hd2
     |some d2=>
      have HD:=Ja a0;have d4:=Ja (aeD g (cnt_lt f2.out (Jn hj d8.out.1)) v i (-1) b9 d0 c9 a0);clear hv e8 u f g c a0 d0 c9 b1 b9 z0;go_wp2_with (go_at_call 137;go_must (refine d4.out.mono ?_;rintro e w1 ⟨rfl,b2,a6⟩))
      have e5:=Ja (Jb b2 a6);clear b2 a6;go_roundw
      case rel=>exact⟨j+1,g7.out,by go_num,Ja ⟨HJ.out.1.trans e5.out.2,d2,e5.out.1.le (cnt_1 i j),(aC y.out.1 y.out.2).trans HD.out⟩⟩
      case measure=>have:=g7.out;simp[intOf];omega
    ·obtain rfl:j=bx.params.length:=by omega
     have h7:¬(bx.params.length:Int)<bx.params.length:=Zo;obtain⟨d1,g,c⟩:=HJ.out.2;rw[Nl] at c;have g9:=Ja c;have f3:=Ja g;have a2:=HJ.out.1.blk d7.out.1 d7.out.2.1 d7.out.2.2;have z1:=K1 a2;have o0:=Ja a2;have b7:=Ja (g8.out.trans HJ.out.1);clear g c b1 a2 z0;generalize wr=W2 at *;go_wp2
     go_loopw [36] (fun kv wx=>∃k:Nat,k<=bx.ops.length/\kv=I k/\Hid (Kept m1 m2 W2 wx/\∃d',ChkAt wx C m1 m2 (rC V p) (.slice (some ⟨fb,fo,none⟩) blocks.length fc) d5 (i*4000000+2000000+k) d'/\sS p i (bx.ops.take k) 0 d1=some d')) (fun kv _=>bx.ops.length-(intOf kv).toNat)
     case atStart=>exact⟨0,Jt _,rfl,Ja ⟨Kept.refl _ _ _,d1,f3.out.le (cnt_2 d8.out.1),rfl⟩⟩
     case round=>
      obtain⟨k,hk,rfl,HK⟩:=hrel
      by_cases c8:k<bx.ops.length
      ·have h6:(k:Int)<bx.ops.length:=Zo;have d3:=Ja c8;obtain⟨o,ho⟩:∃o,bx.ops[k]? =some o:=⟨_,Jd c8⟩
       obtain⟨qb,qo,rfl,u,j1,i2,i1,i0,h9,g0,av,h8,k6⟩:=t.out.2.2.1.get ho;obtain⟨aa,ac,rfl,k7,k5⟩:=k6.form;have f:Below B w wr:=(b7.out.trans HK.out.1).below l.out.2.2.1 l.out.2.2.2.1 l.out.2.1;have c0:=zV f u j1;have c1:=zV f u i2;have c2:=zV f u i1;have c3:=zV f u i0;have c4:=zV f u h9;have c5:=zV f u h8;obtain⟨d',g,c⟩:=HK.out.2;have y:=Ja (show bx.ops[k]? =some o/\sS p i (bx.ops.take k) 0 d1=some d' from⟨ho,c⟩);have g5:=Ja (show(I64 o.code/\I64 o.res/\I64 o.a/\I64 o.b/\o.n<65536)/\o.args.length<=ac/\ac<=9223372036854775807 from⟨g0,k7,k5⟩);have e7:=(Below.refl wr.heap.size wr).alloc (Je _) (G #[I o.code,I o.res,I o.a,I o.b,M (o.n:Int),.slice aa o.args.length ac] 76);have a3:=zI (W:=wr) (o:=G #[I o.code,I o.res,I o.a,I o.b,M (o.n:Int),.slice aa o.args.length ac] 76) rfl;have k1:=HK.out.1.trans (Kept.of e7);have g2:=g.below e7;have b3:Below B w (wr.alloc (G #[I o.code,I o.res,I o.a,I o.b,M (o.n:Int),.slice aa o.args.length ac] 76)):=f.alloc (Jn l.out.2.1 f.size) _;have g6:=Ja (Jb g.map1.lt g.map2.lt);clear ho j1 i2 i1 i0 h9 h8 g0 k6 k7 k5 f g c c8 z1;go_upto_region 13 with fail;generalize n4:wr.alloc (G #[I o.code,I o.res,I o.a,I o.b,M (o.n:Int),.slice aa o.args.length ac] 76)=W3 at *;generalize n3:wr.heap.size=b8 at *;have p3:=K0 a3;have p1:=K1 a3;have p0:=K2 a3;have o9:=K3 a3;have o6:=K4 a3;have o3:=K5 a3;have f8:=oper_any (l.out.1.below b3) (Jn l.out.2.1 b3.size) g2.blk l.out.2.2.2.2.1 o g5.out.1 aa ac g5.out.2;unfold opV at f8;have d9:=Ja f8;have f1:=Ja k1;have h4:=Ja g2;have b6:=Ja a3;have q3:=Ja (show b8≠m1/\b8≠m2 from⟨by have:=g6.out.1;omega,by have:=g6.out.2;omega⟩);clear f8 k1 g2 a3 n4 n3 b3 e7 c0 c1 c2 c3 c4 c5;obtain⟨q,hq⟩:∃q,opF p o=q:=⟨_,rfl⟩
       rw[hq] at d9;have HQ:=Ja hq;clear hq
       cases q with
       |false=>
        go_wp2_with (first|(go_at_call 138;go_must (refine d9.out.mono ?_;rintro e w4 ⟨rfl,h⟩))|go_in)
        go_ret
        have a5:wg p blocks=none:=by
         rw[wS];exact abe t.out.1 a1.out (mm g9.out (oR y.out.1 y.out.2 (by unfold ug;rw[HQ.out];rfl)))
        refine⟨?_,(b7.out.trans f1.out).trans (Kept.of h),fun d2 hd2=>?_⟩
        ·rw[<-m.out,a5];rfl
        ·rw[<-m.out,a5] at hd2;cases hd2
       |true=>
        by_cases hr:0<=o.res
        ·have t1:decide (0<=o.res)=true:=decide_eq_true hr;have HR:=Ja hr;obtain⟨r,a0⟩:∃r,rB d' o.res i k=r:=⟨_,rfl⟩
         have HD:=Ja a0;have b5:=Ja (show I64 o.res/\I64 (i:Int)/\I64 (k:Int) from⟨g5.out.1.2.1,qL (Jn f2.out Zd),qL (Jn (Jn hk d8.out.2.1) Zd)⟩);clear hr a0
         cases r with
         |none=>
          go_wp2_with (first|(go_at_call 138;go_must (refine d9.out.mono ?_;rintro e w4 ⟨rfl,h⟩;have a7:=h4.out.below h;have a4:=zH h b6.out (lt_of_block b6.out);have u1:=K1 a4;have b0:=Ja (Jb a7 h);clear a7 h a4))|(go_at_call 137;go_must (refine(oK b0.out.1 o.res i k b5.out.1 b5.out.2.1 b5.out.2.2 HD.out).mono ?_;intro e w5 hh;obtain⟨rfl,hw⟩:=hh;rw[hw];clear hw))|go_in)
          go_ret
          have a5:wg p blocks=none:=by
           rw[wS];exact abe t.out.1 a1.out (mm g9.out (oR y.out.1 y.out.2 (by unfold ug;rw[HQ.out,if_pos rfl,if_pos HR.out,HD.out])))
          refine⟨?_,(b7.out.trans f1.out).trans (Kept.of b0.out.2),fun d2 hd2=>?_⟩
          ·rw[<-m.out,a5];rfl
          ·rw[<-m.out,a5] at hd2;cases hd2
         |some d2=>
          go_wp2_with (first|(go_at_call 138;go_must (refine d9.out.mono ?_;rintro e w4 ⟨rfl,h⟩;have a7:=h4.out.below h;have a4:=zH h b6.out (lt_of_block b6.out);have u1:=K1 a4;have b0:=Ja (Jb a7 h);clear a7 h a4))|(go_at_call 137;go_must (refine(aeD b0.out.1 (cnt_lt2 f2.out (Jn hk d8.out.2.1)) o.res i k b5.out.1 b5.out.2.1 b5.out.2.2 HD.out).mono ?_;rintro e w5 ⟨rfl,b2,a6⟩;have e5:=Ja (Jb b2 a6);clear b2 a6))|go_in)
          go_roundw
          case rel=>exact⟨k+1,d3.out,by go_num,Ja ⟨(f1.out.trans (Kept.of b0.out.2)).trans e5.out.2,d2,e5.out.1.le (cnt_3 i k),(cK y.out.1 y.out.2).trans (by unfold ug;rw[HQ.out,if_pos rfl,if_pos HR.out,HD.out])⟩⟩
          case measure=>have:=d3.out;simp[intOf];omega
        ·have t1:decide (0<=o.res)=false:=decide_eq_false hr;have HR:=Ja hr;clear hr;go_wp2_with (first|(go_at_call 138;go_must (refine d9.out.mono ?_;rintro e w4 ⟨rfl,h⟩;have a7:=h4.out.below h;have a4:=zH h b6.out (lt_of_block b6.out);have u1:=K1 a4;have b0:=Ja (Jb a7 h);clear a7 h a4))|go_in)
         go_roundw
         case rel=>exact⟨k+1,d3.out,by go_num,Ja ⟨f1.out.trans (Kept.of b0.out.2),d',b0.out.1.le (cnt_3' i k),(cK y.out.1 y.out.2).trans (by unfold ug;rw[HQ.out,if_pos rfl,if_neg (by have:=HR.out;omega)])⟩⟩
         case measure=>have:=d3.out;simp[intOf];omega
      ·obtain rfl:k=bx.ops.length:=by omega
       have h6:¬(bx.ops.length:Int)<bx.ops.length:=Zo;obtain⟨d2,g,c⟩:=HK.out.2;rw[Nl] at c;have a2:=HK.out.1.blk o0.out d7.out.2.1 d7.out.2.2;have z2:=K2 a2;have z3:=K3 a2;have z4:=K4 a2;have f:Below B w wr:=(b7.out.trans HK.out.1).below l.out.2.2.1 l.out.2.2.2.1 l.out.2.1;have c7:=term_any (l2.out.below yT f) (Jn l.out.2.1 f.size) g.blk rfl bx.term t.out.2.2.2.2 (t.out.2.2.2.1.below xL f);have h5:=Ja (blkF_eq (p:=p) (bl:=blocks) g9.out c);obtain⟨q,hq⟩:∃q,tz blocks bx.term=q:=⟨_,rfl⟩
       rw[hq] at c7 h5;have k9:=Ja c7;have l6:=Ja g;clear g c a2 f c7 hq c8 z1
       cases q with
       |false=>
        go_wp2_with (first|(go_at_call 139;go_must (refine k9.out.mono ?_;rintro e w4 ⟨rfl,h⟩))|go_in)
        go_ret
        have a5:wg p blocks=none:=by
         rw[wS];exact abe t.out.1 a1.out (by rw[h5.out];rfl)
        refine⟨?_,(b7.out.trans HK.out.1).trans (Kept.of h),fun d2 hd2=>?_⟩
        ·rw[<-m.out,a5];rfl
        ·rw[<-m.out,a5] at hd2;cases hd2
       |true=>
        go_wp2_with (first|(go_at_call 139;go_must (refine k9.out.mono ?_;rintro e w4 ⟨rfl,h⟩))|go_in)
        have l3:=Ja h;clear h;go_roundw
        case rel=>exact⟨i+1,l1.out,by go_num,Ja ⟨(b7.out.trans HK.out.1).trans (Kept.of l3.out),d2,(l6.out.below l3.out).le (cnt_4 d8.out.2.1),(lQ t.out.1 a1.out).trans (by rw[h5.out];rfl)⟩⟩
        case measure=>have:=l1.out;simp[intOf];omega
  ·obtain rfl:i=blocks.length:=by omega
   have l4:¬(blocks.length:Int)<blocks.length:=Zo;obtain⟨d,g,c⟩:=HI.out.2;rw[Nl] at c;have f3:=Ja (Jb g c);clear g c f0;go_wp2;go_ret;have hr:res=some d:=by rw[<-m.out,wS,f3.out.2]
   rw[hr];refine⟨rfl,HI.out.1,fun d2 hd2=>?_⟩;cases hd2;exact⟨_,cnt_lt l.out.2.2.2.2.2.1 (Jt _),f3.out.1.le (cnt_0 _)⟩
end Go.Proofs.YtoahcpkibpomcaaGreat
set_option maxRecDepth 8000
namespace Go.Proofs.YtoahcpkibpomcaaGreat
open Go.RowKit Go.Shelf
variable {o:IOp}{w w' w0:World}{g:List (List Nat)}{c i:Int}{j k m m1 m2 n':Nat}{pv tl:List Value}{bl blocks:List IBlk}{t:ITerm}{l:List IOp}{d d' d1:wO}{sv:Value}
structure GraphIn (w:World) (sv:Value) (g:List (List Nat)):Prop where
 rows:aaB zj w w.heap.size sv g
 valid:zw g
 len:g.length<=2000000
 row:∀row∈g,row.length<=2000000
theorem GraphIn.below(h:GraphIn w sv g)(hb:Q w w'):GraphIn w' sv g:=
 ⟨(h.rows.below hb).mono hb.size,h.valid,h.len,h.row⟩
theorem iJ(h:GraphIn w sv g):O 40 #[.agg #[sv]] w (fJ w (vD g)):=by
 obtain⟨ns,c⟩:=adR h.valid;rw[c.eq];exact tp w sv g w.heap.size (Je _) h.rows h.valid h.len h.row (0::ns) c.is
theorem qP(h:GraphIn w sv g):O 118 #[.agg #[sv]] w (j6 w (wQ g)):=by
 obtain⟨ns,c⟩:=adR h.valid;obtain⟨D,d⟩:=c.dom;rw[<-idom_eq h.valid c d];exact tw w sv g w.heap.size (Je _) h.rows h.valid h.len h.row ns c.is D d.of
open Go.RowKit
theorem aU{p:IProg}(f:p.args.all tX=true)(h:opF p o=true):o.args.length<=1000000000000:=by
 unfold opF at h;rw[Jm] at h
 have c:∀i,p.args.getD i 0<=8:=by
  intro i;rw[Jj]
  cases d:p.args[i]? with
  |none=>simp
  |some x=>
   have:=Oe.1 f x (Ji d);unfold tX at this;simp only[Jm,decide_eq_true_eq] at this;exact this.2
 have h2:=h.2
 split at h2
 ·simp only[Jm,decide_eq_true_eq] at h2;have:=c o.a.toNat;omega
 ·split at h2
  ·simp only[Jm,decide_eq_true_eq] at h2;omega
  ·simp only[Jm,decide_eq_true_eq] at h2;omega
theorem qM{e:IEdge}(h:uM blocks e=true):xz blocks e.block∈blocks/\e.args.length=(xz blocks e.block).params.length/\1<=e.block/\e.block.toNat<blocks.length:=by
 unfold uM at h;simp only[Jm,decide_eq_true_eq] at h;refine⟨?_,h.2,h.1.1,by omega⟩;unfold xz;rw[Jj,Jd Zo,Ot];exact Uf _
theorem lD(hs:vZ blocks)(h:tz blocks t=true):∀e∈t.to,e.args.length<=2000000:=by
 intro e c;unfold tz at h;rw[Jm] at h;obtain⟨h1,h2,_⟩:=qM (Oe.1 h.1 e c);rw[h2];exact(hs.2 _ h1).1
theorem nO(c:blocks≠ [])(h:∀b∈blocks,tz blocks b.term=true):zw (zy blocks):=by
 refine⟨by unfold zy;rw[Nr];exact List.length_pos_iff.2 c,fun l hl s hs=>?_⟩;unfold zy at hl;obtain⟨b,hb,rfl⟩:=Nu.1 hl;obtain⟨e,d,rfl⟩:=Nu.1 hs;have ht:=h b hb;unfold tz at ht;rw[Jm] at ht;have:=(qM (Oe.1 ht.1 e d)).2.2.2;unfold zy;rw[Nr];exact this
theorem graphI_F(h:∀b∈blocks,tz blocks b.term=true):zk blocks=(zy blocks).map (List.map (fun n:Nat=>(n:Int))):=by
 unfold zk zy tW;rw[List.map_map];refine Up fun b hb=>?_
 show b.term.to.map (·.block)=(b.term.to.map fun e=>e.block.toNat).map (fun n:Nat=>(n:Int))
 rw[List.map_map];refine Up fun e he=>?_
 have ht:=h b hb;unfold tz at ht;rw[Jm] at ht;have:=(qM (Oe.1 ht.1 e he)).2.2.1
 show e.block=((e.block.toNat:Nat):Int)
 omega
theorem bU(hs:vZ blocks)(c:blocks≠ [])(h:∀b∈blocks,tz blocks b.term=true)(hr:aaB zN w w.heap.size sv (zk blocks)):GraphIn w sv (zy blocks):=by
 rw[graphI_F h] at hr;refine⟨(aaB.map (fun n:Nat=>(n:Int)) (fun x=>rfl)).1 hr,nO c h,by unfold zy;rw[Nr];exact hs.1,fun row hrow=>?_⟩;unfold zy at hrow;obtain⟨b,hb,rfl⟩:=Nu.1 hrow;rw[Nr];exact(hs.2 b hb).2.2
theorem xu (blocks:List IBlk):(zy blocks).length=blocks.length:=by simp[zy]
theorem dW:∀ {l m:List Nat},l.Nodup->(∀x∈l,x∈m)->l.length<=m.length
 | [],m,_,_=>Jt _
 |a::l,m,hl,h=>by
  obtain⟨ha,hl⟩:=Qt.1 hl;have hm:=h a (List.mem_cons_self ..);have h2:=dW (m:=m.erase a) hl (fun x hx=>(List.mem_erase_of_ne (fun e=>ha (by rw[<-e];exact hx))).2 (h x (List.mem_cons_of_mem _ hx)));rw[List.length_erase_of_mem hm] at h2;have:=List.length_pos_of_mem hm;rw[Nq];omega
theorem jl(hv:zw g)(h:(vD g).length=g.length):∀x,x<g.length->Reach (GE g) x:=by
 obtain⟨ns,c⟩:=adR hv;rw[c.eq] at h;intro x i;refine(c.mem x).1 ?_;apply Classical.byContradiction;intro j
 have f:=dW (l:=x::0::ns) (m:=List.range g.length) (Qt.2 ⟨j,c.nodup⟩) (fun y d=>by
  rcases Jq.1 d with rfl|d
  ·exact Ol.2 i
  ·exact Ol.2 (c.lt y d))
 rw[Nq,h,Un] at f;omega
theorem mu{v k:Int}(h:rB d v i k=some d')(hi:0<=i/\i.toNat<m)(c:∀x b,d.1 x=some b->0<=b/\b.toNat<m):∀x b,d'.1 x=some b->0<=b/\b.toNat<m:=by
 unfold rB at h
 split at h
 ·cases h
 ·cases h;intro x b hb
  change lS d.1 v i x=some b at hb
  unfold lS at hb
  split at hb
  ·cases hb;exact hi
  ·exact c x b hb
theorem oU(hi:0<=i/\i.toNat<m):∀(l:List Int) (d d':wO),vJ i l d=some d'->(∀x b,d.1 x=some b->0<=b/\b.toNat<m)->∀x b,d'.1 x=some b->0<=b/\b.toNat<m
 | [],d,d',h,hd=>by cases h;exact hd
 |v::l,d,d',h,hd=>by
  unfold vJ at h
  cases h1:rB d v i (-1) with
  |none=>rw[h1] at h;cases h
  |some d1=>rw[h1,Nw] at h;exact oU hi l d1 d' h (mu h1 hi hd)
theorem bP{p:IProg}(hi:0<=i/\i.toNat<m):∀(l:List IOp) (k:Int) (d d':wO),sS p i l k d=some d'->(∀x b,d.1 x=some b->0<=b/\b.toNat<m)->∀x b,d'.1 x=some b->0<=b/\b.toNat<m
 | [],k,d,d',h,hd=>by cases h;exact hd
 |o::l,k,d,d',h,hd=>by
  rw[dG] at h
  cases h1:ug p i k o d with
  |none=>rw[h1] at h;cases h
  |some d1=>
   rw[h1,Nw] at h;refine bP hi l _ d1 d' h ?_;unfold ug at h1
   split at h1
   ·split at h1
    ·exact mu h1 hi hd
    ·cases h1;exact hd
   ·cases h1
theorem oX{p:IProg}:∀(l:List IBlk) (i:Nat) (d d':wO),i+l.length<=m->uH p bl l i d=some d'->(∀x b,d.1 x=some b->0<=b/\b.toNat<m)->∀x b,d'.1 x=some b->0<=b/\b.toNat<m
 | [],i,d,d',_,h,hd=>by cases h;exact hd
 |b::l,i,d,d',hm,h,hd=>by
  simp only[Nq] at hm;unfold uH at h
  cases h1:pS p bl i b d with
  |none=>rw[h1] at h;cases h
  |some d1=>
   rw[h1,Nw] at h;obtain⟨_,d2,h2,h3⟩:=nF h1;have hi:0<=(i:Int)/\((i:Int)).toNat<m:=Zo;exact oX l (i+1) d1 d' Zo (by simpa using h) (bP hi _ _ _ _ h3 (oU hi _ _ _ h2 hd))
theorem rN{p:IProg}(h:wg p bl=some d):∀x b,d.1 x=some b->0<=b/\b.toNat<bl.length:=
 oX bl 0 ft d Zo h (fun x b hb=>by cases hb)
theorem vE (d:wO)(g:List (List Nat))(i:Int):∀(l m:List IOp) (k:Int),xF d g i (l++m) k=(xF d g i l k && xF d g i m (k+l.length))
 | [],m,k=>by simp[xF]
 |o::l,m,k=>by
  have e:k+1+(l.length:Int)=k+((o::l).length:Int):=by simp;omega
  show((rR o).all (yy d g i k) && xF d g i (l++m) (k+1))=(((rR o).all (yy d g i k) && xF d g i l (k+1)) && _)
  rw[vE d g i l m,e,Bool.and_assoc]
theorem n9 (d:wO)(g:List (List Nat)):∀(l m:List IBlk) (i:Int),tO d g (l++m) i=(tO d g l i && tO d g m (i+l.length))
 | [],m,i=>by simp[tO]
 |b::l,m,i=>by
  have e:i+1+(l.length:Int)=i+((b::l).length:Int):=by simp;omega
  show(aaC d g b i && tO d g (l++m) (i+1))=((aaC d g b i && tO d g l (i+1)) && _)
  rw[n9 d g l m,e,Bool.and_assoc]
theorem gZ(h:l[k]? =some o):xF d g i (l.take (k+1)) 0=(xF d g i (l.take k) 0 && (rR o).all (yy d g i k)):=by
 rw[Nh,h,Option.toList,vE,vS h,Ub];simp[xF]
theorem aeV(h:l[k]? =some o)(hf:(rR o).all (yy d g i k)=false):xF d g i l 0=false:=by
 rw[sD h,vE,vS h,Ub]
 show(_ && ((rR o).all (yy d g i k) && _))=false
 rw[hf,Bool.false_and,Uh]
theorem mz{l:List IBlk}{b:IBlk}(h:l[k]? =some b):tO d g (l.take (k+1)) 0=(tO d g (l.take k) 0 && aaC d g b k):=by
 rw[Nh,h,Option.toList,n9,vS h,Ub];simp[tO]
theorem pH{l:List IBlk}{b:IBlk}(h:l[k]? =some b)(hf:aaC d g b k=false):tO d g l 0=false:=by
 rw[sD h,n9,vS h,Ub]
 show(_ && (aaC d g b k && _))=false
 rw[hf,Bool.false_and,Uh]
theorem ChkAt.made{C:Nat}{d c:Value}(i:A w C (pv++ [d,.map (some m1),.map (some m2),c]).toArray 173)(hl:pv.length=6)(h1:w.heap[m1]? =some (.map #[] 0))(h2:w.heap[m2]? =some (.map #[] 0))(f:m1≠m2):
 ChkAt w C m1 m2 pv d c 0 ft:=by
 have hm:∀m,w.heap[m]? =some (.map #[] 0)->wA w m 0 (fun _=>none):=fun m h=>by
  have h0:=wA.made ({w with heap:=w.heap.extract 0 m });have j:m<w.heap.size:=lt_of_block h;have hs:(w.heap.extract 0 m).size=m:=by simp;omega
  obtain⟨D,⟨es,g,k1,k2⟩,k3⟩:=h0;have e1:(World.alloc {w with heap:=w.heap.extract 0 m } (.map #[] 0)).heap[(w.heap.extract 0 m).size]? =some (.map #[] 0):=zI rfl;rw[e1] at k1;cases k1;exact⟨D,⟨_,_,h,k2⟩,k3⟩
 exact⟨i,hl,hm m1 h1,hm m2 h2,f,fun _=>rfl⟩
theorem ChkAt.idom{C n:Nat}{g i:Value}(h:ChkAt w C m1 m2 pv g i n d)(iv:Value):ChkAt (w.setCell ⟨C,9,none⟩ iv) C m1 m2 pv g iv n d:=by
 obtain⟨k1,k2⟩:=h.ne1;refine⟨?_,h.plen,h.map1.same (Below.heap_setCell _ _ _ _ (Ne.symm k1)),h.map2.same (Below.heap_setCell _ _ _ _ (Ne.symm k2)),h.ne,h.dom⟩;rw[zD h.blk];have hl:=h.plen
 obtain⟨p0,p1,p2,p3,p4,p5,rfl⟩:∃a b c d e f,pv=[a,b,c,d,e,f]:=by
  match pv,hl with
  | [a,b,c,d,e,f],_=>exact⟨a,b,c,d,e,f,rfl⟩
 rfl
theorem pZ:I64 0:=⟨by omega,by omega⟩
theorem agF:I64 (-1):=⟨by omega,by omega⟩
def rd (t:ITerm)(ops:List IOp):IProg:=⟨[[⟨[],ops,t⟩]],[0],0,-1,[],[]⟩
def mL (w:World)(p:IProg)(e:Ending)(w':World):Prop:=∃V,e=.returned (yH V p)/\ProgIn w' w'.heap.size V p/\Q w w'
theorem yN.nil{α:Type}{sz:Nat}{R:World->Nat->Nat->Nat->α->Prop}{B:Nat}:yN sz R w B (U) []:=
 ⟨none,0,rfl,Je _,by omega,fun k x hk=>by simp at hk⟩
theorem yN.one{α:Type}{sz:Nat}{R:World->Nat->Nat->Nat->α->Prop}{B b:Nat}{x:α}(hb:b<B)(h:R w B b 0 x):yN sz R w B (L b 1 1) [x]:=
 ⟨_,1,rfl,Je _,by omega,fun k y hk=>by
   have c:k=0:=by have:=(Jh.1 hk).1;simp at this;omega
   subst c;cases hk
   exact⟨b,0,rfl,hb,by simpa using h⟩⟩
end Go.Proofs.YtoahcpkibpomcaaGreat
