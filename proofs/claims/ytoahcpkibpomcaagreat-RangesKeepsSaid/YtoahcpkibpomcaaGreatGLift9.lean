/- Part of a proof. -/
import Derived.Test.YtoahcpkibpomcaaGreatGLift9v2
import Derived.Test.YtoahcpkibpomcaaGreatSpo6
set_option linter.all false
set_option maxHeartbeats 2000000
set_option maxRecDepth 100000
namespace Go.Proofs.YtoahcpkibpomcaaGreat
open Go.RowKit
variable {w wx:World}{g i j k o5 ob oc p1 what:Nat}{bt:BT}{l:List BT}{rs:List Row}{o o2:IOp}{c:Value}{M:MS}{t:PT}{q0 q1 q2:Int}
theorem spoil_9{B:Nat}{v:Value}(h:SpSt w B g i v bt l rs){n:Nat}(hn:n<65536)(u:SzB bt):
 I 32 #[.pointer (some ⟨g,i*5,none⟩),U 9,U n] w (uE w B g i v bt l rs 9 n):=by
 have c:w.ownsRow B 76 6 bt.ov bt.ops.length (bt.ops.flatMap zU):=h.rows.own _ (.tail _ (Jz _ (.tail _ (.head _))));obtain⟨xa,oc,m⟩:=zG c;have d:=wb zX (h.rows.own _ (.head _)) h.gb h.at';have o:=fun q (hq:q<5)=>(zq Zd zX (h.rows.own _ (.head _)) h.gb h.at' q hq).2
 have c1:A w g (i*5+1) (.slice xa bt.ops.length oc):=by rw[<-m];exact d 1 _ rfl
 have gl:=((h.rows.own _ (.head _)).lt g h.gb).2;have x:=u.ops;have cj:A w g (i*5+2) _:=d 2 _ rfl;have fj:N w g (i*5+2):=o 2 Zd;have k:=Ja h;clear h c m d o u
 by_cases y:0<bt.ops.length
 ·have t:(0:Int)<(bt.ops.length:Int):=Zo;go_enter Tryz.func32,Tryz.ntmps32;go_wp2
  first|go_end0|refine bodyPost_ret (results_none rfl _ _ _) rfl ?_
  refine⟨rfl,{bt with kind:=(n:Int)%7 },k.out.setB (j:=2) Zd rfl rfl,rfl,(xJ (a:=⟨g,i*5+2,none⟩) (r:=zd v l) k.out.gb).one (.head _)⟩
 ·have t:¬(0:Int)<(bt.ops.length:Int):=Zo;go_enter Tryz.func32,Tryz.ntmps32;go_wp2
  first|go_end0|refine bodyPost_ret (results_none rfl _ _ _) rfl ?_
  refine⟨rfl,{bt with kind:=(n:Int)%7 },k.out.setB (j:=2) Zd rfl rfl,rfl,(xJ (a:=⟨g,i*5+2,none⟩) (r:=zd v l) k.out.gb).one (.head _)⟩
theorem spoil_10{B:Nat}{v:Value}(h:SpSt w B g i v bt l rs){n:Nat}(hn:n<65536)(u:SzB bt):
 I 32 #[.pointer (some ⟨g,i*5,none⟩),U 10,U n] w (uE w B g i v bt l rs 10 n):=by
 have c:w.ownsRow B 76 6 bt.ov bt.ops.length (bt.ops.flatMap zU):=h.rows.own _ (.tail _ (Jz _ (.tail _ (.head _))));obtain⟨xa,oc,m⟩:=zG c;have d:=wb zX (h.rows.own _ (.head _)) h.gb h.at';have o:=fun q (hq:q<5)=>(zq Zd zX (h.rows.own _ (.head _)) h.gb h.at' q hq).2
 have c1:A w g (i*5+1) (.slice xa bt.ops.length oc):=by rw[<-m];exact d 1 _ rfl
 have gl:=((h.rows.own _ (.head _)).lt g h.gb).2;have x:=u.ops;have cj:A w g (i*5+3) _:=d 3 _ rfl;have fj:N w g (i*5+3):=o 3 Zd;have k:=Ja h;clear h c m d o u
 by_cases y:0<bt.ops.length
 ·have t:(0:Int)<(bt.ops.length:Int):=Zo;go_enter Tryz.func32,Tryz.ntmps32;go_wp2
  first|go_end0|refine bodyPost_ret (results_none rfl _ _ _) rfl ?_
  refine⟨rfl,{bt with a:=(n:Int)%40-2 },k.out.setB (j:=3) Zd rfl rfl,rfl,(xJ (a:=⟨g,i*5+3,none⟩) (r:=zd v l) k.out.gb).one (.head _)⟩
 ·have t:¬(0:Int)<(bt.ops.length:Int):=Zo;go_enter Tryz.func32,Tryz.ntmps32;go_wp2
  first|go_end0|refine bodyPost_ret (results_none rfl _ _ _) rfl ?_
  refine⟨rfl,{bt with a:=(n:Int)%40-2 },k.out.setB (j:=3) Zd rfl rfl,rfl,(xJ (a:=⟨g,i*5+3,none⟩) (r:=zd v l) k.out.gb).one (.head _)⟩
theorem spoil_19{B:Nat}{v:Value}(h:SpSt w B g i v bt l rs){n:Nat}(y:n<65536)(m:SzB bt):
 I 32 #[.pointer (some ⟨g,i*5,none⟩),U 19,U n] w (uE w B g i v bt l rs 19 n):=by
 have c:w.ownsRow B 76 6 bt.ov bt.ops.length (bt.ops.flatMap zU):=h.rows.own _ (.tail _ (Jz _ (.tail _ (.head _))));obtain⟨xa,oc,d⟩:=zG c;have j:=wb zX (h.rows.own _ (.head _)) h.gb h.at';have o:=fun q (hq:q<5)=>(zq Zd zX (h.rows.own _ (.head _)) h.gb h.at' q hq).2
 have c1:A w g (i*5+1) (.slice xa bt.ops.length oc):=by rw[<-d];exact j 1 _ rfl
 have gl:=((h.rows.own _ (.head _)).lt g h.gb).2;have u:=m.ops;have t:=Ja h;clear h c d j o m
 by_cases x:0<bt.ops.length
 ·have k:(0:Int)<(bt.ops.length:Int):=Zo;go_enter Tryz.func32,Tryz.ntmps32;go_wp2
  first|go_end0|refine bodyPost_ret (results_none rfl _ _ _) rfl ?_
  exact wP t.out rfl
 ·have k:¬(0:Int)<(bt.ops.length:Int):=Zo;go_enter Tryz.func32,Tryz.ntmps32;go_wp2
  first|go_end0|refine bodyPost_ret (results_none rfl _ _ _) rfl ?_
  exact wP t.out rfl
theorem mB{B:Nat}{v:Value}(h:SpSt w B g i v bt l rs){n:Nat}(hn:n<65536)(o:SzB bt)(x:what<=7)(d:bt.ops.length=0):
 I 32 #[.pointer (some ⟨g,i*5,none⟩),U what,U n] w (uE w B g i v bt l rs what n):=by
 have c:w.ownsRow B 76 6 bt.ov bt.ops.length (bt.ops.flatMap zU):=h.rows.own _ (.tail _ (Jz _ (.tail _ (.head _))));obtain⟨xa,oc,j⟩:=zG c;have k:=wb zX (h.rows.own _ (.head _)) h.gb h.at';have t:=fun q (hq:q<5)=>(zq Zd zX (h.rows.own _ (.head _)) h.gb h.at' q hq).2
 have c1:A w g (i*5+1) (.slice xa bt.ops.length oc):=by rw[<-j];exact k 1 _ rfl
 have gl:=((h.rows.own _ (.head _)).lt g h.gb).2;have m:=o.ops;have u:=Ja (Jb h d);rw[d] at c1;have e8:((what:Int)==8)=false:=Ze;have e9:((what:Int)==9)=false:=Ze;have a1:((what:Int)==10)=false:=Ze;have a0:((what:Int)==11)=false:=Ze;have y:((what:Int)==12)=false:=Ze;clear h c j k t o d m;go_enter Tryz.func32,Tryz.ntmps32;go_wp2
 first|go_end0|refine bodyPost_ret (results_none rfl _ _ _) rfl ?_
 refine wP u.out.1 ?_;unfold xh BT.blk;simp only[Nr];rw[if_pos x,if_pos u.out.2]
theorem spoil_7{B:Nat}{v:Value}(h:SpSt w B g i v bt l rs){n:Nat}(hn:n<65536)(hz:SzB bt)(u:0<bt.ops.length):
 I 32 #[.pointer (some ⟨g,i*5,none⟩),U 7,U n] w (uE w B g i v bt l rs 7 n):=by
 have d:w.ownsRow B 76 6 bt.ov bt.ops.length (bt.ops.flatMap zU):=h.rows.own _ (.tail _ (Jz _ (.tail _ (.head _))));obtain⟨xa,oc,j⟩:=zG d;have c:=d;rw[j] at c;have a4:=(zm c).1;obtain⟨ob,oc2,a2,a6,a5⟩:=c.form u;cases a2;have a0:bt.ov.ownBlock=some ob:=by rw[j];rfl
 obtain⟨k,m⟩:∃k,n%bt.ops.length=k:=⟨_,rfl⟩
 have hk:k<bt.ops.length:=by rw[<-m];exact Qj _ u
 have b1:(n:Int)%(bt.ops.length:Int)=(k:Int):=by rw[<-m];exact(Ou _ _).symm
 obtain⟨⟨o,av⟩,y⟩:∃x,bt.ops[k]? =some x:=⟨_,Jd hk⟩
 have a1:=wb zX (h.rows.own _ (.head _)) h.gb h.at';have c1:A w g (i*5+1) (T ob bt.ops.length oc):=by rw[<-j];exact a1 1 _ rfl
 have gl:=((h.rows.own _ (.head _)).lt g h.gb).2;have a3:=wb vp d a0 y;have a7:=hz.ops;have f1:N w g (i*5+1):=(zq Zd zX (h.rows.own _ (.head _)) h.gb h.at' 1 Zd).2;have b0:(k:Int)<=(oc:Int):=Zo;have t:=Ja (Jb h (Jb j m));clear h d c j a0 y m a1 a3 hz a4;go_enter Tryz.func32,Tryz.ntmps32;go_wp2
 first|go_end0|refine bodyPost_ret (results_none rfl _ _ _) rfl ?_
 refine⟨rfl,_,t.out.1.cutO t.out.2.1 rfl (Qd hk),?_,(xJ (a:=⟨g,i*5+1,none⟩) (r:=zd v l) t.out.1.gb).one (.head _)⟩;unfold xh BT.blk;simp only[Nr];rw[if_pos Zo,if_neg Zo,if_neg Zo,if_pos (by trivial),t.out.2.2,List.map_take]
theorem spoil_8{B:Nat}{v:Value}(h:SpSt w B g i v bt l rs){n:Nat}(hn:n<65536)(hz:SzB bt):
 I 32 #[.pointer (some ⟨g,i*5,none⟩),U 8,U n] w (uE w B g i v bt l rs 8 n):=by
 have a3:w.ownsRow B 76 6 bt.ov bt.ops.length (bt.ops.flatMap zU):=h.rows.own _ (.tail _ (Jz _ (.tail _ (.head _))));obtain⟨xa,oc,a6⟩:=zG a3;have a5:=wb zX (h.rows.own _ (.head _)) h.gb h.at';have b1:=fun q (hq:q<5)=>(zq Zd zX (h.rows.own _ (.head _)) h.gb h.at' q hq).2
 have c1:A w g (i*5+1) (.slice xa bt.ops.length oc):=by rw[<-a6];exact a5 1 _ rfl
 have gl:=((h.rows.own _ (.head _)).lt g h.gb).2;have b3:=hz.ops;have a4:w.ownsRow B 3 1 bt.pv bt.params.length (bt.params.map zN):=h.rows.own (zP bt.pv bt.params) (.tail _ (Jz _ (.head _)));obtain⟨pa,pc,t⟩:=zG a4;have c0:A w g (i*5) (.slice pa bt.params.length pc):=by rw[<-t];exact a5 0 _ rfl
 have f0:N w g (i*5):=b1 0 Zd;have b4:=hz.par;have a7:some g≠(Value.slice pa bt.params.length pc).ownBlock:=by rw[<-t];exact fun e=>h.farP e.symm rfl
 have hB:B<=w.heap.size:=by have:=(h.rows.own _ (.head _)).lt g h.gb;omega
 obtain⟨ii,b0,a2,a1,a0⟩:=info_parts Tryz.info_int;have k:=Ja (Jb h (Jb (show w.ownsRow B 3 1 (.slice pa bt.params.length pc) bt.params.length (bt.params.map zN) by rw[<-t];exact a4) (Jb t a7)));clear h a3 a6 a5 b1 hz a4 t a7
 by_cases b5:0<bt.ops.length
 ·have b2:(0:Int)<(bt.ops.length:Int):=Zo;go_enter Tryz.func32,Tryz.ntmps32;go_wp2_with (at_builtin;go_must (refine zK _ rfl (.tmp 163) (.tmp 166) 22 rfl B 3 ii (U 0) 1 8 Tryz.underlying22 b0 a2 a1 a0 rfl Zd (.slice pa bt.params.length pc) bt.params.length (bt.params.map zN) rfl (k.out.2.1.alloc _) (T w.heap.size 1 1) 1 [U ((n:Int)%40)] rfl (yM.one (zI rfl) rfl) (by unfold maxLen;omega) Zo Zt ?_;intro v9 w9 d c o;obtain⟨ra,rc,rfl⟩:=zG d;have d0:A w9 g (i*5) (.slice pa bt.params.length pc):=(c.cell_far _ Zt k.out.2.2.2).trans ((Ok _ _ _ gl).trans c0);have d1:N w9 g (i*5):=(c.frozen_far _ Zt k.out.2.2.2).trans ((Below.frozen ((Below.refl w.heap.size w).alloc (Je _) _) (p:=⟨g,i*5,none⟩) gl).trans f0);have HG:=Ja (Jb d (Jb c o));clear d c o))
  first|go_end0|refine bodyPost_ret (results_none rfl _ _ _) rfl ?_
  have u:(Value.slice pa bt.params.length pc)=bt.pv:=k.out.2.2.1.symm;have y:=(Below.refl w.heap.size w).alloc (Je _) (G #[U ((n:Int)%40)] 3);have m:=HG.out.2.1;rw[u] at m;refine⟨rfl,{bt with params:=bt.params++ [(n:Int)%40],pv:=.slice ra (bt.params.length+1) rc },k.out.1.growB (j:=0) (r:=zP bt.pv bt.params) (r':=zP (.slice ra (bt.params.length+1) rc) (bt.params++ [(n:Int)%40])) (Uq _) y m ?_ (fun x e=>?_) (Uq _) Zd rfl,rfl,?_⟩
  ·show w9.ownsRow B 3 1 _ (bt.params++ [(n:Int)%40]).length ((bt.params++ [(n:Int)%40]).map zN)
   rw[Jk,Ju,Js];exact HG.out.1
  ·rcases HG.out.2.2 with e2|e2
   ·left;rw[<-e,<-u];exact e2.symm
   ·right;have e3:=e2.symm.trans e;simp at e3;omega
  ·exact((Chg.below y).trans ((uY (r:=zP bt.pv bt.params) m).one (.tail _ (.head _)))).trans ((xJ (a:=⟨g,i*5,none⟩) (r:=zd v l) k.out.1.gb).one (.head _))
 ·have b2:¬(0:Int)<(bt.ops.length:Int):=Zo;go_enter Tryz.func32,Tryz.ntmps32;go_wp2_with (at_builtin;go_must (refine zK _ rfl (.tmp 163) (.tmp 166) 22 rfl B 3 ii (U 0) 1 8 Tryz.underlying22 b0 a2 a1 a0 rfl Zd (.slice pa bt.params.length pc) bt.params.length (bt.params.map zN) rfl (k.out.2.1.alloc _) (T w.heap.size 1 1) 1 [U ((n:Int)%40)] rfl (yM.one (zI rfl) rfl) (by unfold maxLen;omega) Zo Zt ?_;intro v9 w9 d c o;obtain⟨ra,rc,rfl⟩:=zG d;have d0:A w9 g (i*5) (.slice pa bt.params.length pc):=(c.cell_far _ Zt k.out.2.2.2).trans ((Ok _ _ _ gl).trans c0);have d1:N w9 g (i*5):=(c.frozen_far _ Zt k.out.2.2.2).trans ((Below.frozen ((Below.refl w.heap.size w).alloc (Je _) _) (p:=⟨g,i*5,none⟩) gl).trans f0);have HG:=Ja (Jb d (Jb c o));clear d c o))
  first|go_end0|refine bodyPost_ret (results_none rfl _ _ _) rfl ?_
  have u:(Value.slice pa bt.params.length pc)=bt.pv:=k.out.2.2.1.symm;have y:=(Below.refl w.heap.size w).alloc (Je _) (G #[U ((n:Int)%40)] 3);have m:=HG.out.2.1;rw[u] at m;refine⟨rfl,{bt with params:=bt.params++ [(n:Int)%40],pv:=.slice ra (bt.params.length+1) rc },k.out.1.growB (j:=0) (r:=zP bt.pv bt.params) (r':=zP (.slice ra (bt.params.length+1) rc) (bt.params++ [(n:Int)%40])) (Uq _) y m ?_ (fun x e=>?_) (Uq _) Zd rfl,rfl,?_⟩
  ·show w9.ownsRow B 3 1 _ (bt.params++ [(n:Int)%40]).length ((bt.params++ [(n:Int)%40]).map zN)
   rw[Jk,Ju,Js];exact HG.out.1
  ·rcases HG.out.2.2 with e2|e2
   ·left;rw[<-e,<-u];exact e2.symm
   ·right;have e3:=e2.symm.trans e;simp at e3;omega
  ·exact((Chg.below y).trans ((uY (r:=zP bt.pv bt.params) m).one (.tail _ (.head _)))).trans ((xJ (a:=⟨g,i*5,none⟩) (r:=zd v l) k.out.1.gb).one (.head _))
theorem spoil_11{B:Nat}{v:Value}(h:SpSt w B g i v bt l rs){n:Nat}(hn:n<65536)(hz:SzB bt):
 I 32 #[.pointer (some ⟨g,i*5,none⟩),U 11,U n] w (uE w B g i v bt l rs 11 n):=by
 have u:w.ownsRow B 76 6 bt.ov bt.ops.length (bt.ops.flatMap zU):=h.rows.own _ (.tail _ (Jz _ (.tail _ (.head _))));obtain⟨xa,oc,a4⟩:=zG u;have a3:=wb zX (h.rows.own _ (.head _)) h.gb h.at';have a6:=fun q (hq:q<5)=>(zq Zd zX (h.rows.own _ (.head _)) h.gb h.at' q hq).2
 have c1:A w g (i*5+1) (.slice xa bt.ops.length oc):=by rw[<-a4];exact a3 1 _ rfl
 have gl:=((h.rows.own _ (.head _)).lt g h.gb).2;have b2:=hz.ops;have c:w.ownsRow B 79 2 bt.tv bt.tos.length (bt.tos.flatMap za):=h.rows.own _ (.tail _ (Jz _ (.tail _ (.tail _ (.head _)))));obtain⟨ya,ec,t⟩:=zG c;have c4:A w g (i*5+4) (.slice ya bt.tos.length ec):=by rw[<-t];exact a3 4 _ rfl
 by_cases a2:0<bt.tos.length
 ·skip
  have m:=c;rw[t] at m;obtain⟨eb,b5,b0,b4,b3⟩:=m.form a2;cases b0;have a1:bt.tv.ownBlock=some eb:=by rw[t];rfl
  obtain⟨⟨o,av⟩,a0⟩:∃x,bt.tos[0]? =some x:=⟨_,Jd a2⟩
  have a5:=wb yd c a1 a0;have e0:A w eb 0 _:=a5 0 _ rfl;have ef:N w eb 0:=(zq Zd yd c a1 a0 0 Zd).2;have a7:(0:Int)<(bt.tos.length:Int):=Zo;have d:=Ja (Jb h (Jb a1 a0));clear h u a4 a3 a6 hz c m t a1 a0 a5
  by_cases b1:0<bt.ops.length
  ·have y:(0:Int)<(bt.ops.length:Int):=Zo;go_enter Tryz.func32,Tryz.ntmps32;go_wp2
   first|go_end0|refine bodyPost_ret (results_none rfl _ _ _) rfl ?_
   refine⟨rfl,_,d.out.1.setE (k:=0) d.out.2.1 d.out.2.2 (j:=0) (o':= {o with block:=(n:Int)%9-1 }) Zd ?_ rfl,?_,(xJ (a:=⟨eb,0,none⟩) (r:=xg bt.tv bt.tos) d.out.2.1).one (rS v l bt)⟩
   ·rfl
   ·unfold xh BT.blk;simp only;rw[if_neg Zo,if_neg Zo,if_neg Zo,if_neg Zo,if_pos (by trivial),xI (x:=o) (by rw[Jr,d.out.2.2];rfl),Ox]
  ·have y:¬(0:Int)<(bt.ops.length:Int):=Zo;go_enter Tryz.func32,Tryz.ntmps32;go_wp2
   first|go_end0|refine bodyPost_ret (results_none rfl _ _ _) rfl ?_
   refine⟨rfl,_,d.out.1.setE (k:=0) d.out.2.1 d.out.2.2 (j:=0) (o':= {o with block:=(n:Int)%9-1 }) Zd ?_ rfl,?_,(xJ (a:=⟨eb,0,none⟩) (r:=xg bt.tv bt.tos) d.out.2.1).one (rS v l bt)⟩
   ·rfl
   ·unfold xh BT.blk;simp only;rw[if_neg Zo,if_neg Zo,if_neg Zo,if_neg Zo,if_pos (by trivial),xI (x:=o) (by rw[Jr,d.out.2.2];rfl),Ox]
 ·have a7:¬(0:Int)<(bt.tos.length:Int):=Zo;have d:=Ja (Jb h a2);clear h u a4 a3 a6 hz c t a2
  by_cases b1:0<bt.ops.length
  ·have y:(0:Int)<(bt.ops.length:Int):=Zo;go_enter Tryz.func32,Tryz.ntmps32;go_wp2
   first|go_end0|refine bodyPost_ret (results_none rfl _ _ _) rfl ?_
   refine wP d.out.1 ?_;have e:bt.tos=[]:=Nz (by have:=d.out.2;omega);unfold xh BT.blk;rw[e];rfl
  ·have y:¬(0:Int)<(bt.ops.length:Int):=Zo;go_enter Tryz.func32,Tryz.ntmps32;go_wp2
   first|go_end0|refine bodyPost_ret (results_none rfl _ _ _) rfl ?_
   refine wP d.out.1 ?_;have e:bt.tos=[]:=Nz (by have:=d.out.2;omega);unfold xh BT.blk;rw[e];rfl
theorem spoil_5{B:Nat}{v:Value}(h:SpSt w B g i v bt l rs){n:Nat}(hn:n<65536)(hz:SzB bt)(b1:0<bt.ops.length):
 I 32 #[.pointer (some ⟨g,i*5,none⟩),U 5,U n] w (uE w B g i v bt l rs 5 n):=by
 have m:w.ownsRow B 76 6 bt.ov bt.ops.length (bt.ops.flatMap zU):=h.rows.own _ (.tail _ (Jz _ (.tail _ (.head _))));obtain⟨xa,oc,a1⟩:=zG m;have j:=m;rw[a1] at j;have b8:=(zm j).1;obtain⟨ob,oc2,b7,c3,c2⟩:=j.form b1;cases b7;have u:bt.ov.ownBlock=some ob:=by rw[a1];rfl
 obtain⟨k,a2⟩:∃k,n%bt.ops.length=k:=⟨_,rfl⟩
 have hk:k<bt.ops.length:=by rw[<-a2];exact Qj _ b1
 have c9:(n:Int)%(bt.ops.length:Int)=(k:Int):=by rw[<-a2];exact(Ou _ _).symm
 obtain⟨⟨o,av⟩,t⟩:∃x,bt.ops[k]? =some x:=⟨_,Jd hk⟩
 have b2:=wb zX (h.rows.own _ (.head _)) h.gb h.at';have c1:A w g (i*5+1) (T ob bt.ops.length oc):=by rw[<-a1];exact b2 1 _ rfl
 have gl:=((h.rows.own _ (.head _)).lt g h.gb).2;have b0:=wb vp m u t;have c4:=hz.ops;have a7:w.ownsRow B 3 1 av o.args.length (o.args.map zN):=h.rows.own (zP av o.args) (.tail _ (Jz _ (.tail _ (.tail _ (.tail _ (Jz _ (Oj (Ji t))))))));obtain⟨aa,ac,d⟩:=zG a7;have d1:o.args.length<=2000000:=hz.oarg _ (Ji t);have c5:A w ob (k*6+5) (.slice aa o.args.length ac):=by rw[<-d];exact b0 5 _ rfl
 have c0:N w ob (k*6+5):=(zq Zd vp m u t 5 Zd).2;have a3:ob<w.heap.size:=((h.rows.own _ (.tail _ (Jz _ (.tail _ (.head _))))).lt ob u).2;have s1:∀o,A (w.drew.alloc o) g (i*5+1) (T ob bt.ops.length oc):=fun o=>(Ok w.drew _ _ gl).trans c1
 have s5:∀o,A (w.drew.alloc o) ob (k*6+5) _:=fun o=>(Ok w.drew _ _ a3).trans c5
 have f5:∀o,N (w.drew.alloc o) ob (k*6+5):=fun o=>(Below.frozen ((Below.refl w.heap.size w.drew).alloc (Je _) o) (p:=⟨ob,k*6+5,none⟩) a3).trans c0
 have a4:=fun x (hx:av.ownBlock=some x)=>h.farO t hx
 have hB:B<=w.heap.size:=by have:=(h.rows.own _ (.head _)).lt g h.gb;omega
 have HN:=Ja (show some g≠(Value.slice aa o.args.length ac).ownBlock/\some ob≠(Value.slice aa o.args.length ac).ownBlock by rw[<-d];exact⟨fun e=>(a4 g e.symm).1 rfl,fun e=>(a4 ob e.symm).2 u⟩);have HR:=Ja (show(w.alloc (G #[U ((n:Int)/7%20)] 3)).drew.ownsRow B 3 1 (.slice aa o.args.length ac) o.args.length (o.args.map zN)/\yM (w.alloc (G #[U ((n:Int)/7%20)] 3)).drew 1 (T w.heap.size 1 1) 1 [U ((n:Int)/7%20)] by rw[<-d];exact⟨a7.alloc _,yM.one (w:=(w.alloc (G #[U ((n:Int)/7%20)] 3)).drew) (zI (W:=w) rfl) rfl⟩);have c8:IntKind.i64.wrap ((n:Int)/7)=(n:Int)/7:=Om _ Zo;have c7:((n:Int)/7).tmod 20=(n:Int)/7%20:=Qc Zo;obtain⟨ii,b9,b6,b5,b4⟩:=info_parts Tryz.info_int;have y:=Ja (Jb h (Jb u (Jb t (Jb d a2))));clear h m j a1 u t a2 b2 b0 hz b8 a7 d a4;go_enter Tryz.func32,Tryz.ntmps32;go_wp2;refine wp_region_noPanic ?_;refine yQ (S:=(fun w'=>A w' g (i*5+1) (T ob bt.ops.length oc)/\A w' ob (k*6+5) (.slice aa o.args.length ac))) 20 Zk ⟨c1,c5⟩ (fun hHeld=>?_);refine Tl 0 ?_
 try simp only[Yp]
 refine Tl 1 ?_
 try simp only[Yp]
 refine Tl 2 ?_
 try simp only[Yp]
 refine Tl 3 ?_
 try simp only[Yp]
 refine Tl 4 ?_
 try simp only[Yp]
 refine Tl 5 ?_
 try simp only[Yp]
 refine Tl 6 ?_
 try simp only[Yp]
 refine Tl 7 ?_
 try simp only[Yp]
 refine Tl 8 ?_
 try simp only[Yp]
 refine Tl 9 ?_
 try simp only[Yp]
 refine Tl 10 ?_
 try simp only[Yp]
 refine Tl 11 ?_
 try simp only[Yp]
 refine Tl 12 ?_
 try simp only[Yp]
 refine Tl 13 ?_
 try simp only[Yp]
 refine Tl 14 ?_
 try simp only[Yp]
 refine Tl 15 ?_
 try simp only[Yp]
 refine y7 (rs:=[16]) Zk Zs ?_;refine zS.cons (o:=_) rfl (fun K hK=>?_) ?_
 ·skip
  go_simp;refine hK.out _ _ ⟨s1 _,s5 _⟩ (fun hHeld=>?_);clear hK K
  try simp only[Yp]
  refine y7 (rs:=[17]) Zk Zs ?_;refine zS.cons (o:=_) rfl (fun K hK=>?_) ?_
  ·skip
   (refine yG (by rfl) (.tmp 100) (.tmp 104) _ (by rfl) B 3 ii (U 0) 1 8 Tryz.underlying22 b9 b6 b5 b4 rfl Zo (.slice aa o.args.length ac) o.args.length (o.args.map zN) (by rfl) HR.out.1 (T w.heap.size 1 1) 1 [U ((n:Int)/7%20)] (by rfl) HR.out.2 (by unfold maxLen;omega) Zo Zt ?_;intro ra rc w9 a0 c a6;have d0:N w9 ob (k*6+5):=(c.frozen_far _ Zt HN.out.2).trans (f5 _);(try dsimp only))
   refine hK.out _ _ ⟨(c.cell_far _ Zt HN.out.1).trans (s1 _),(c.cell_far _ Zt HN.out.2).trans (s5 _)⟩ (fun hHeld=>?_);clear hK K
   try simp only[Yp]
   refine y7 (rs:=[18]) Zk Zs ?_;refine zS.cons (o:=_) rfl (fun K hK=>?_) ?_
   ·skip
    go_simp;refine hK.out _ _ Zz (fun hHeld=>?_);clear hK K
    try simp only[Yp]
    refine Tl 19 ?_
    try simp only[Yp]
    refine y7 (rs:=[20]) Zk Zs ?_;refine zS.last (o:=_) rfl (fun K hK=>?_);go_simp;refine hK.out _ _ ?_;clear hK K
    try simp only[Yp]
    refine xj Zk (NoPanic.normal ?_) _;have HG:=Ja (Jb a0 (Jb c a6));clear a0 c a6;go_wp2
    first|go_end0|refine bodyPost_ret (results_none rfl _ _ _) rfl ?_
    have b3:Y w (w.drew.alloc (G #[U ((n:Int)/7%20)] 3)):=((Below.refl w.heap.size w).drew).alloc Zs _;have d:=y.out.2.2.2.1;have a5:=HG.out.2.1;rw[<-d] at a5;refine⟨rfl,_,y.out.1.growO (w1:=w.drew.alloc (G #[U ((n:Int)/7%20)] 3)) (x:=(n:Int)/7%20) y.out.2.1 y.out.2.2.1 b3 a5 HG.out.1 (fun x e=>?_),?_,?_⟩
    ·rcases HG.out.2.2 with e2|e2
     ·left;rw[<-e,d];exact e2.symm
     ·right;have e3:=e2.symm.trans e;simp at e3;omega
    ·show({bt with ops:=bt.ops.set k (spO 5 n o,_)}:BT).blk=_
     have e:=ws (what:=5) (av:=av) Zd y.out.2.2.1 y.out.2.2.2.2;rw[<-e];unfold BT.blk;simp only[Ox]
    ·have hm:zP av o.args∈zd v l::bt.rows:=.tail _ (.tail _ (.tail _ (.tail _ (Jz _ (Oj (Ji y.out.2.2.1))))));exact((Chg.below b3).trans ((uY (r:=zP av o.args) a5).one hm)).trans ((xJ (a:=⟨ob,k*6+5,none⟩) (r:=ma bt.ov bt.ops) y.out.2.1).one (wZ v l bt))
   exact zS.nil
  exact zS.nil
 exact zS.nil
structure SwMid (w:World) (B g i:Nat) (v:Value) (bt:BT) (l:List BT) (rs:List Row) (ob k j:Nat) (o:IOp) (av:Value) (o2:IOp) (av2:Value) (oc:Nat) (wx:World):Prop where
 rows:Rows wx B (ma bt.ov (bt.ops.set k (o2,av2))::(zd v l::zP bt.pv bt.params::xg bt.tv bt.tos::(wI bt.ops++ve bt.tos)++rs))
 blk:wx.heap[w.heap.size]? =some (.cells (zU (o,av)).toArray 76 (0,0))
 chg:Chg w (zd v l::bt.rows) wx
 c1:wx.cell? ⟨g,i*5+1,none⟩=some (.slice (some ⟨ob,0,none⟩) bt.ops.length oc)
 cell:∀ {q:Nat},q<6->∃u,wx.cell? ⟨ob,j*6+q,none⟩=some u
 free:∀ {q:Nat},q<6->wx.frozen? ⟨ob,j*6+q,none⟩=false
 lt:w.heap.size<wx.heap.size/\g<wx.heap.size/\ob<wx.heap.size
theorem SwMid.box{B:Nat}{v:Value}{av:Value}(m:SwMid w B g i v bt l rs ob k j o av o2 c oc wx){q:Nat}{u:Value}(h:(zU (o,av))[q]? =some u):A wx w.heap.size q u:=
 zA m.blk (by rw[List.getElem?_toArray];exact h)
theorem mR{b o:Nat}{vs:List Value}{r:Row}(h:r.blk=some b):Chg w [r] (w.setCells b o vs):=
 ⟨(ze b vs o w).1,(ze b vs o w).2.1,(ze b vs o w).2.2,Ul (y8 b vs o w).symm,fun k hk hn=>ye b k (fun e=>hn (by rw[Nj];exact⟨r,.head _,by rw[h,e]⟩)) vs o w⟩
theorem iP{α β:Type}(f:α->β){l:List α}{x y:α}(hk:l[k]? =some x)(h:l[j]? =some y):(((l.set k y).set j x).map f).Perm (l.map f):=by
 have c:=(Jh.1 hk).1;have d:=(Jh.1 h).1
 have g:(l.set k y)[j]? =some y:=by
  by_cases e:k=j
  ·subst e;rw[Nn c]
  ·rw[Ns e];exact h
 have h1:=rM f (l:=l.set k y) (k:=j) (by rw[Nd];exact d) x;have h2:=tT f g;have h3:=rM f c y;have m:=tT f hk;have i:((l.set k y).eraseIdx j).map f|>.Perm ((l.eraseIdx k).map f):=(List.perm_cons (f y)).1 (h2.symm.trans h3)
 exact(h1.trans (i.cons _)).trans m.symm
section
variable {w:World} {B g i:Nat} {v:Value} {bt:BT} {l:List BT} {rs:List Row} (h:SpSt w B g i v bt l rs)
include h
theorem swMid_of{av:Value}(d:bt.ov.ownBlock=some ob)(hk:bt.ops[k]? =some (o,av))(hj:bt.ops[j]? =some (o2,c))(a0:bt.ov=T ob bt.ops.length oc)(a2:g≠ob):
 SwMid w B g i v bt l rs ob k j o av o2 c oc (((w.setCells ob (k*6) (zU (o2,c))).alloc (G (zU (o,av)).toArray 76)).drew):=by
 have hp:(zd v l::(bt.rows++rs)).Perm (ma bt.ov bt.ops::(zd v l::zP bt.pv bt.params::xg bt.tv bt.tos::(wI bt.ops++ve bt.tos)++rs)):=by
  classical
  unfold BT.rows;refine Jp.2 fun r=>?_
  simp only[Nb,Nf];omega
 have h1:=putO (x:=(o2,c)) d (h.rows.perm hp) hk rfl;have hb:Y (w.setCells ob (k*6) (zU (o2,c))) (((w.setCells ob (k*6) (zU (o2,c))).alloc (G (zU (o,av)).toArray 76)).drew):=((Below.refl _ _).alloc (Je _) _).drew;have h2:=h1.below hb;have t:=y8 ob (zU (o2,c)) (k*6) w;have u:∃y,(bt.ops.set k (o2,c))[j]? =some y:=⟨_,Jd (by rw[Nd];exact(Jh.1 hj).1)⟩
 obtain⟨y,hy⟩:=u;have m:=zq (n:=6) Zd vp (h2.own _ (.head _)) d hy;have hl:=h.rows.own _ (.head _);have a1:=(hl.lt g h.gb).2;have a3:=hb.size;refine⟨h2,zI (W:=w.setCells ob (k*6) (zU (o2,c))) t,?_,?_,fun {q} hq=>?_,fun {q} hq=>(m q hq).2,?_⟩
 ·exact((mR (r:=ma bt.ov bt.ops) d).one (wZ v l bt)).trans (Chg.below hb)
 ·have:=wb zX (h2.own (zd v l) (.tail _ (.head _))) h.gb h.at' 1 _ rfl;rw[this,a0]
 ·exact Option.isSome_iff_exists.1 (m q hq).1
 ·have h6:=((h.rows.perm hp).own _ (.head _)).lt ob d;have h7:=lt_of_block (zI (W:=w.setCells ob (k*6) (zU (o2,c))) (o:=G (zU (o,av)).toArray 76) t);exact⟨h7,Nat.lt_trans a1 h7,Nat.lt_trans h6.2 h7⟩
theorem SwMid.close{n:Nat}{av:Value}(m:SwMid w B g i v bt l rs ob k j o av o2 c oc wx)(d:bt.ov.ownBlock=some ob)(hk:bt.ops[k]? =some (o,av))(t:bt.ops[j]? =some (o2,c))(a0:n%bt.ops.length=k)(a1:n/7%bt.ops.length=j):
 uE w B g i v bt l rs 6 n (.returned (.tuple #[])) ((wx.setCells ob (j*6) (zU (o,av))).drew):=by
 have u:∃y,(bt.ops.set k (o2,c))[j]? =some y:=⟨_,Jd (by rw[Nd];exact(Jh.1 t).1)⟩
 obtain⟨y,hy⟩:=u;have h1:=(putO (x:=(o,av)) d m.rows hy rfl).below ((Below.refl _ _).drew);have hs:(wI ((bt.ops.set k (o2,c)).set j (o,av))).Perm (wI bt.ops):=iP (fun o:IOp×Value=>zP o.2 o.1.args) hk t;refine⟨rfl,{bt with ops:=(bt.ops.set k (o2,c)).set j (o,av)},h.sub rfl (h1.perm ?_),?_,?_⟩
 ·classical
  have c1:=Jp.1 hs;unfold BT.rows;refine Jp.2 fun r=>?_
  have:=c1 r;simp only[Nb,Nf] at this ⊢;omega
 ·have a2:=(Jh.1 hk).1;unfold xh BT.blk;simp only[Nr];rw[if_pos Zo,if_neg Zo,if_pos (by trivial),a0,a1,Jr,hk,Jr,t];simp only[Option.map_some,Ox]
 ·exact m.chg.trans (((mR (r:=ma bt.ov bt.ops) d).one (wZ v l bt)).trans (Chg.below ((Below.refl _ _).drew)))
end
theorem spoil_6{B:Nat}{v:Value}(h:SpSt w B g i v bt l rs){n:Nat}(hn:n<65536)(hz:SzB bt)(b0:0<bt.ops.length):
 I 32 #[.pointer (some ⟨g,i*5,none⟩),U 6,U n] w (uE w B g i v bt l rs 6 n):=by
 have c:w.ownsRow B 76 6 bt.ov bt.ops.length (bt.ops.flatMap zU):=h.rows.own _ (.tail _ (Jz _ (.tail _ (.head _))));obtain⟨xa,oc,a3⟩:=zG c;have y:=c;rw[a3] at y;have b8:=(zm y).1;obtain⟨ob,oc2,b7,c9,b5⟩:=y.form b0;cases b7;have a2:bt.ov.ownBlock=some ob:=by rw[a3];rfl
 obtain⟨k,a6⟩:∃k,n%bt.ops.length=k:=⟨_,rfl⟩
 have hk:k<bt.ops.length:=by rw[<-a6];exact Qj _ b0
 have d2:(n:Int)%(bt.ops.length:Int)=(k:Int):=by rw[<-a6];exact(Ou _ _).symm
 obtain⟨⟨o,av⟩,a4⟩:∃x,bt.ops[k]? =some x:=⟨_,Jd hk⟩
 have b2:=wb zX (h.rows.own _ (.head _)) h.gb h.at';have c1:A w g (i*5+1) (T ob bt.ops.length oc):=by rw[<-a3];exact b2 1 _ rfl
 have gl:=((h.rows.own _ (.head _)).lt g h.gb).2;have a1:=wb vp c a2 a4;have d0:=hz.ops;obtain⟨j,a7⟩:∃j,n/7%bt.ops.length=j:=⟨_,rfl⟩
 have hj:j<bt.ops.length:=by rw[<-a7];exact Qj _ b0
 have b9:(n:Int)/7%(bt.ops.length:Int)=(j:Int):=by rw[<-a7];simp
 have d1:((n:Int)/7).tmod (bt.ops.length:Int)=(j:Int):=by rw[Qc Zo];exact b9
 obtain⟨⟨o2,av2⟩,a5⟩:∃x,bt.ops[j]? =some x:=⟨_,Jd hj⟩
 have b3:w.ownsRow B 3 1 av o.args.length (o.args.map zN):=h.rows.own (zP av o.args) (.tail _ (Jz _ (.tail _ (.tail _ (.tail _ (Jz _ (Oj (Ji a4))))))));have b1:w.ownsRow B 3 1 av2 o2.args.length (o2.args.map zN):=h.rows.own (zP av2 o2.args) (.tail _ (Jz _ (.tail _ (.tail _ (.tail _ (Jz _ (Oj (Ji a5))))))));obtain⟨aa,ac,rfl⟩:=zG b3;obtain⟨aa2,ac2,rfl⟩:=zG b1;have d:=wb vp c a2 a5;have a0:=zq Zd vp c a2 a4;have b4:=zq Zd vp c a2 a5;have m:ob<w.heap.size:=b5;have k0:A w ob (k*6) (U o.code):=a1 0 _ rfl;have k1:A w ob (k*6+1) (U o.res):=a1 1 _ rfl;have k2:A w ob (k*6+2) (U o.a):=a1 2 _ rfl;have k3:A w ob (k*6+3) (U o.b):=a1 3 _ rfl;have k4:A w ob (k*6+4) (O (o.n:Int)):=a1 4 _ rfl;have k5:A w ob (k*6+5) (.slice aa o.args.length ac):=a1 5 _ rfl;have j0:A w ob (j*6) (U o2.code):=d 0 _ rfl;have j1:A w ob (j*6+1) (U o2.res):=d 1 _ rfl;have j2:A w ob (j*6+2) (U o2.a):=d 2 _ rfl;have j3:A w ob (j*6+3) (U o2.b):=d 3 _ rfl;have j4:A w ob (j*6+4) (O (o2.n:Int)):=d 4 _ rfl;have j5:A w ob (j*6+5) (.slice aa2 o2.args.length ac2):=d 5 _ rfl;have c7:N w ob (k*6):=(a0 0 Zd).2;have c5:N w ob (k*6+1):=(a0 1 Zd).2;have c4:N w ob (k*6+2):=(a0 2 Zd).2;have c3:N w ob (k*6+3):=(a0 3 Zd).2;have c2:N w ob (k*6+4):=(a0 4 Zd).2;have c0:N w ob (k*6+5):=(a0 5 Zd).2;have hB:B<=w.heap.size:=by have:=(h.rows.own _ (.head _)).lt g h.gb;omega
 have b6:g≠ob:=fun e=>by
  have hp:(zd v l::(bt.rows++rs)).Perm (ma bt.ov bt.ops::(zd v l::zP bt.pv bt.params::xg bt.tv bt.tos::(wI bt.ops++ve bt.tos)++rs)):=by
   classical
   unfold BT.rows;refine Jp.2 fun r=>?_
   simp only[Nb,Nf];omega
  exact(h.rows.perm hp).apart (g:=ob) a2 (Nj.2 ⟨zd v l,.head _,by rw[<-e];exact h.gb⟩)
 have t:=Ja (Jb h (Jb a2 (Jb a4 (Jb a5 (Jb a6 (Jb a7 (Jb a3 b6)))))));clear h c y a3 a2 a4 a6 b2 a1 hz b8 a5 a7 d a0 b4 b3 b1;go_enter Tryz.func32,Tryz.ntmps32;go_upto_region 18 with fail
 go_cut [6] (fun s6 wx=>s6=U k/\Hid (SwMid w B g i v bt l rs ob k j o (.slice aa o.args.length ac) o2 (.slice aa2 o2.args.length ac2) oc wx))
 case first=>
  skip
  refine wp_region_noPanic ?_;refine yQ (S:=(fun w'=>A w' g (i*5+1) (T ob bt.ops.length oc)/\A w' ob (j*6) (U o2.code)/\A w' ob (j*6+1) (U o2.res)/\A w' ob (j*6+2) (U o2.a)/\A w' ob (j*6+3) (U o2.b)/\A w' ob (j*6+4) (O (o2.n:Int))/\A w' ob (j*6+5) (.slice aa2 o2.args.length ac2))) 13 Zk ⟨(Ok w _ _ gl).trans c1,(Ok w _ _ m).trans j0,(Ok w _ _ m).trans j1,(Ok w _ _ m).trans j2,(Ok w _ _ m).trans j3,(Ok w _ _ m).trans j4,(Ok w _ _ m).trans j5⟩ (fun hHeld=>?_);refine Tl 0 ?_
  try simp only[Yp]
  refine Tl 1 ?_
  try simp only[Yp]
  refine Tl 2 ?_
  try simp only[Yp]
  refine Tl 3 ?_
  try simp only[Yp]
  refine Tl 4 ?_
  try simp only[Yp]
  refine Tl 5 ?_
  try simp only[Yp]
  refine Tl 6 ?_
  try simp only[Yp]
  refine Tl 7 ?_
  try simp only[Yp]
  refine Tl 8 ?_
  try simp only[Yp]
  refine Tl 9 ?_
  try simp only[Yp]
  refine Tl 10 ?_
  try simp only[Yp]
  refine Tl 11 ?_
  try simp only[Yp]
  refine Tl 12 ?_
  try simp only[Yp]
  refine y7 (rs:=[13]) Zk Zs ?_;refine zS.last (o:=_) rfl (fun K hK=>?_);go_simp;refine hK.out _ _ ?_;clear hK K
  try simp only[Yp]
  refine xj Zk (NoPanic.normal ?_) _;go_wp2;go_meet;refine⟨rfl,?_⟩;exact Ja (swMid_of t.out.1 t.out.2.1 t.out.2.2.1 t.out.2.2.2.1 t.out.2.2.2.2.2.2.1 t.out.2.2.2.2.2.2.2)
 case rest=>
  obtain⟨rfl,hcut⟩:=hcut;have m1:A wc g (i*5+1) (T ob bt.ops.length oc):=hcut.out.c1;have m2:A wc w.heap.size 0 (U o.code):=hcut.out.box (q:=0) rfl;have m3:A wc w.heap.size 1 (U o.res):=hcut.out.box (q:=1) rfl;have m4:A wc w.heap.size 2 (U o.a):=hcut.out.box (q:=2) rfl;have m5:A wc w.heap.size 3 (U o.b):=hcut.out.box (q:=3) rfl;have m6:A wc w.heap.size 4 (O (o.n:Int)):=hcut.out.box (q:=4) rfl;have m7:A wc w.heap.size 5 (.slice aa o.args.length ac):=hcut.out.box (q:=5) rfl;obtain⟨u0,n0⟩:∃u,A wc ob (j*6) u:=hcut.out.cell (q:=0) Zd;have g0:N wc ob (j*6):=hcut.out.free (q:=0) Zd;obtain⟨u1,n1⟩:∃u,A wc ob (j*6+1) u:=hcut.out.cell (q:=1) Zd;have g1:N wc ob (j*6+1):=hcut.out.free (q:=1) Zd;obtain⟨u2,n2⟩:∃u,A wc ob (j*6+2) u:=hcut.out.cell (q:=2) Zd;have g2:N wc ob (j*6+2):=hcut.out.free (q:=2) Zd;obtain⟨u3,n3⟩:∃u,A wc ob (j*6+3) u:=hcut.out.cell (q:=3) Zd;have g3:N wc ob (j*6+3):=hcut.out.free (q:=3) Zd;obtain⟨u4,n4⟩:∃u,A wc ob (j*6+4) u:=hcut.out.cell (q:=4) Zd;have g4:N wc ob (j*6+4):=hcut.out.free (q:=4) Zd;obtain⟨u5,n5⟩:∃u,A wc ob (j*6+5) u:=hcut.out.cell (q:=5) Zd;have g5:N wc ob (j*6+5):=hcut.out.free (q:=5) Zd;obtain⟨ml1,ml2,ml3⟩:=hcut.out.lt;have c8:=hcut;clear hcut;clear c1 k0 k1 k2 k3 k4 k5 j0 j1 j2 j3 j4 j5 c7 c5 c4 c3 c2 c0;go_wp2;refine wp_region_noPanic ?_;refine yQ (S:=(fun w'=>A w' g (i*5+1) (T ob bt.ops.length oc)/\A w' w.heap.size 0 (U o.code)/\A w' w.heap.size 1 (U o.res)/\A w' w.heap.size 2 (U o.a)/\A w' w.heap.size 3 (U o.b)/\A w' w.heap.size 4 (O (o.n:Int))/\A w' w.heap.size 5 (.slice aa o.args.length ac))) 7 Zk ⟨m1,m2,m3,m4,m5,m6,m7⟩ (fun hHeld=>?_);refine Tl 0 ?_
  try simp only[Yp]
  refine Tl 1 ?_
  try simp only[Yp]
  refine Tl 2 ?_
  try simp only[Yp]
  refine Tl 3 ?_
  try simp only[Yp]
  refine Tl 4 ?_
  try simp only[Yp]
  refine Tl 5 ?_
  try simp only[Yp]
  refine Tl 6 ?_
  try simp only[Yp]
  refine y7 (rs:=[7]) Zk Zs ?_;refine zS.last (o:=_) rfl (fun K hK=>?_);go_simp;refine hK.out _ _ ?_;clear hK K
  try simp only[Yp]
  refine xj Zk (NoPanic.normal ?_) _;go_wp2
  first|go_end0|refine bodyPost_ret (results_none rfl _ _ _) rfl ?_
  exact SwMid.close t.out.1 c8.out t.out.2.1 t.out.2.2.1 t.out.2.2.2.1 t.out.2.2.2.2.1 t.out.2.2.2.2.2.1
theorem iF{B:Nat}{v:Value}(h:SpSt w B g i v bt l rs){n:Nat}(d:n<65536)(c:SzB bt)(hw:what<=12∨what=19):
 I 32 #[.pointer (some ⟨g,i*5,none⟩),U what,U n] w (uE w B g i v bt l rs what n):=by
 rcases hw with hw|rfl
 ·by_cases m:what<=7
  ·by_cases j:0<bt.ops.length
   ·match what,m with
    |0,_=>exact spoil_0 h d c j
    |1,_=>exact spoil_1 h d c j
    |2,_=>exact spoil_2 h d c j
    |3,_=>exact spoil_3 h d c j
    |4,_=>exact spoil_4 h d c j
    |5,_=>exact spoil_5 h d c j
    |6,_=>exact spoil_6 h d c j
    |7,_=>exact spoil_7 h d c j
   ·exact mB h d c m Zo
  ·match what,hw,m with
   |8,_,_=>exact spoil_8 h d c
   |9,_,_=>exact spoil_9 h d c
   |10,_,_=>exact spoil_10 h d c
   |11,_,_=>exact spoil_11 h d c
   |12,_,_=>exact spoil_12 h d c
   |0,_,h|1,_,h|2,_,h|3,_,h|4,_,h|5,_,h|6,_,h|7,_,h=>exact absurd Zd h
   |k+13,h,_=>exact absurd h Zo
 ·exact spoil_19 h d c
theorem tD (x:Int)(h1:-1000000<=x)(h2:x<=1000000):I64 x:=⟨by omega,by omega⟩
theorem spO_sm{N n:Nat}(h:o.args.length<=N):(spO what n o).args.length<=N+1:=by
 unfold spO
 split<;>first|(show o.args.length<=_;omega)|(show(o.args++ [_]).length<=_;rw[Jk];show _+1<=_;omega)
theorem spoil_sm{N n:Nat}{b:IBlk}(h:SmB N b):SmB (N+1) (xh what n b):=by
 have hm:=h.mono (Nat.le_succ N);unfold xh
 split
 ·split
  ·exact hm
  split
  ·split
   ·rename_i x y d c
    refine⟨hm.par,by show((b.ops.set _ _).set _ _).length<=_;rw[Nd,Nd];exact hm.ops,hm.tos,fun o ho=>?_,hm.earg⟩;rcases Qe ho with ho|rfl
    ·rcases Qe ho with ho|rfl
     ·exact hm.oarg o ho
     ·exact hm.oarg _ (Ji c)
    ·exact hm.oarg _ (Ji d)
   ·exact hm
  split
  ·exact⟨hm.par,by show(b.ops.take _).length<=_;rw[Oc];have:=hm.ops;omega,hm.tos,fun o ho=>hm.oarg o (List.mem_of_mem_take ho),hm.earg⟩
  ·exact⟨hm.par,by show(wD b.ops _ _).length<=_;rw[xZ];exact hm.ops,hm.tos,i3 hm.oarg (fun o ho=>spO_sm (h.oarg o ho)),hm.earg⟩
 split
 ·exact⟨by show(b.params++ [_]).length<=_;rw[Jk];have:=h.par;show _+1<=_;omega,hm.ops,hm.tos,hm.oarg,hm.earg⟩
 split
 ·exact⟨hm.par,hm.ops,hm.tos,hm.oarg,hm.earg⟩
 split
 ·exact⟨hm.par,hm.ops,hm.tos,hm.oarg,hm.earg⟩
 split
 ·exact⟨hm.par,hm.ops,by show(wD b.term.to _ _).length<=_;rw[xZ];exact hm.tos,hm.oarg,i3 (P:=fun e:IEdge=>e.args.length<=N+1) hm.earg (fun e he=>hm.earg e he)⟩
 split
 ·exact⟨hm.par,hm.ops,by show(wD b.term.to _ _).length<=_;rw[xZ];exact hm.tos,hm.oarg,i3 (P:=fun e:IEdge=>e.args.length<=N+1) hm.earg (fun e he=>by
   show(e.args++ [_]).length<=_
   rw[Jk];have:=h.earg e he
   show _+1<=_
   omega)⟩
 ·exact hm
theorem acA {N:Nat}{p:IProg}(h:SmP N p)(q0 q1 q2:Int):SmP (N+1) (wR p q0 q1 q2):=by
 have hm:=h.mono (Nat.le_succ N);unfold wR rA
 split
 ·exact⟨hm.fn,hm.fs,by show(p.args++ [_]).length<=_;rw[Jk];have:=h.ar;show _+1<=_;omega,hm.da,hm.ba⟩
 split
 ·exact⟨hm.fn,hm.fs,hm.ar,hm.da,hm.ba⟩
 split
 ·exact⟨hm.fn,hm.fs,hm.ar,hm.da,hm.ba⟩
 split
 ·exact⟨hm.fn,hm.fs,hm.ar,by show(p.data++ [_]).length<=_;rw[Jk];have:=h.da;show _+1<=_;omega,hm.ba⟩
 split
 ·exact⟨hm.fn,hm.fs,hm.ar,hm.da,by show(p.banks++ [_]).length<=_;rw[Jk];have:=h.ba;show _+1<=_;omega⟩
 split
 ·refine⟨by show(wD p.funcs _ _).length<=_;rw[xZ];exact hm.fn,i3 hm.fs (fun f hf=>?_),hm.ar,hm.da,hm.ba⟩
  split
  ·exact hm.fs f hf
  ·refine⟨by rw[Jk];have:=(h.fs f hf).1;show _+1<=_;omega,fun b hb=>?_⟩;rcases Jl.1 hb with hb|hb
   ·exact(hm.fs f hf).2 b hb
   ·rw[Jo] at hb;subst hb;exact⟨Jt _,Jt _,Jt _,(fun o ho=>by cases ho),(fun e he=>by cases he)⟩
 ·refine⟨by show(wD p.funcs _ _).length<=_;rw[xZ];exact hm.fn,i3 hm.fs (fun f hf=>?_),hm.ar,hm.da,hm.ba⟩;unfold lW;exact⟨by rw[xZ];exact(hm.fs f hf).1,i3 (hm.fs f hf).2 (fun b hb=>spoil_sm ((h.fs f hf).2 b hb))⟩
theorem spO_64{n:Nat}(j:n<65536)(h:qN o/\∀x∈o.args,I64 x):qN (spO what n o)/\∀x∈(spO what n o).args,I64 x:=by
 obtain⟨⟨h1,h2,h3,i,g⟩,c⟩:=h;unfold spO
 split
 ·exact⟨⟨(show I64 ((n:Int)/7%30) from tD _ Zo Zo),h2,h3,i,g⟩,c⟩
 ·exact⟨⟨h1,(show I64 ((n:Int)/7%40-2) from tD _ Zo Zo),h3,i,g⟩,c⟩
 ·exact⟨⟨h1,h2,(show I64 ((n:Int)/7%40-2) from tD _ Zo Zo),i,g⟩,c⟩
 ·exact⟨⟨h1,h2,h3,(show I64 ((n:Int)/7%40) from tD _ Zo Zo),g⟩,c⟩
 ·exact⟨⟨h1,h2,h3,i,by show n/7%300<65536;omega⟩,c⟩
 ·refine⟨⟨h1,h2,h3,i,g⟩,fun x d=>?_⟩;rcases Jl.1 d with d|d
  ·exact c x d
  ·rw[Jo] at d;subst d;exact tD _ Zo Zo
 ·exact⟨⟨h1,h2,h3,i,g⟩,c⟩
theorem spoil_64{n:Nat}(g:n<65536){b:IBlk}(h:B64 b):B64 (xh what n b):=by
 unfold xh
 split
 ·split
  ·exact h
  split
  ·split
   ·rename_i x y c d
    refine⟨h.par,fun o ho=>?_,h.term,h.tos⟩;rcases Qe ho with ho|rfl
    ·rcases Qe ho with ho|rfl
     ·exact h.ops o ho
     ·exact h.ops _ (Ji d)
    ·exact h.ops _ (Ji c)
   ·exact h
  split
  ·exact⟨h.par,fun o ho=>h.ops o (List.mem_of_mem_take ho),h.term,h.tos⟩
  ·exact⟨h.par,i3 h.ops (fun o ho=>spO_64 g (h.ops o ho)),h.term,h.tos⟩
 split
 ·refine⟨fun x c=>?_,h.ops,h.term,h.tos⟩;rcases Jl.1 c with c|c
  ·exact h.par x c
  ·rw[Jo] at c;subst c;exact tD _ Zo Zo
 split
 ·exact⟨h.par,h.ops,⟨tD _ (by show -1000000<=(n:Int)%7;omega) (by show(n:Int)%7<=1000000;omega),h.term.2⟩,h.tos⟩
 split
 ·exact⟨h.par,h.ops,⟨h.term.1,tD _ (by show -1000000<=(n:Int)%40-2;omega) (by show(n:Int)%40-2<=1000000;omega)⟩,h.tos⟩
 split
 ·exact⟨h.par,h.ops,h.term,i3 (P:=fun e:IEdge=>I64 e.block/\∀x∈e.args,I64 x) h.tos (fun e he=>⟨tD _ (by show -1000000<=(n:Int)%9-1;omega) (by show(n:Int)%9-1<=1000000;omega),(h.tos e he).2⟩)⟩
 split
 ·exact⟨h.par,h.ops,h.term,i3 (P:=fun e:IEdge=>I64 e.block/\∀x∈e.args,I64 x) h.tos (fun e he=>⟨(h.tos e he).1,fun x c=>by
   rcases Jl.1 c with c|c
   ·exact(h.tos e he).2 x c
   ·rw[Jo] at c;subst c;exact tD _ Zo Zo⟩)⟩
 ·exact h
theorem turn_64 {p:IProg}(h:P64 p)(q0 q1 q2:Int):P64 (wR p q0 q1 q2):=by
 have d:=turnN_lt q2;unfold wR rA;generalize uS q2=n at *
 split
 ·refine⟨h.funcs,fun x c=>?_,h.data,h.banks,h.ent,h.hnd⟩;rcases Jl.1 c with c|c
  ·exact h.args x c
  ·rw[Jo] at c;subst c;exact tD _ Zo Zo
 split
 ·exact⟨h.funcs,h.args,h.data,h.banks,tD _ (by show -1000000<=(n:Int)%7-1;omega) (by show(n:Int)%7-1<=1000000;omega),h.hnd⟩
 split
 ·exact⟨h.funcs,h.args,h.data,h.banks,h.ent,tD _ (by show -1000000<=(n:Int)%7-2;omega) (by show(n:Int)%7-2<=1000000;omega)⟩
 split
 ·refine⟨h.funcs,h.args,fun x c=>?_,h.banks,h.ent,h.hnd⟩;rcases Jl.1 c with c|c
  ·exact h.data x c
  ·rw[Jo] at c;subst c;refine⟨tD _ (by show -1000000<=(n:Int)%4-2;omega) (by show(n:Int)%4-2<=1000000;omega),?_,by show n/16%4<65536;omega⟩
   show lY _<65536
   unfold lY
   split<;>(try split)<;>(try split)<;>omega
 split
 ·refine⟨h.funcs,h.args,h.data,fun x c=>?_,h.ent,h.hnd⟩;rcases Jl.1 c with c|c
  ·exact h.banks x c
  ·rw[Jo] at c;subst c
   have:(xV (4096-n%3/2)).size<=4096:=by
    unfold xV y9;rw[strOfNums_size];simp<;>omega
   omega
 split
 ·refine⟨i3 h.funcs (fun f hf=>?_),h.args,h.data,h.banks,h.ent,h.hnd⟩
  split
  ·exact h.funcs f hf
  ·intro b hb;rcases Jl.1 hb with hb|hb
   ·exact h.funcs f hf b hb
   ·rw[Jo] at hb;subst hb;exact⟨(fun x c=>by cases c),(fun o ho=>by cases ho),⟨tD _ Zd Zd,tD _ Zd Zd⟩,(fun e he=>by cases he)⟩
 ·refine⟨i3 h.funcs (fun f hf=>?_),h.args,h.data,h.banks,h.ent,h.hnd⟩;unfold lW;exact i3 (h.funcs f hf) (fun b hb=>spoil_64 d (h.funcs f hf b hb))
structure SbK (b:IBlk):Prop where
 par:b.params.length<=8
 oarg:∀o∈b.ops,o.args.length<=8
 tos:b.term.to.length<=8
 earg:∀e∈b.term.to,e.args.length<=8
def SbM (M:MS):Prop:=∀b∈M.f,SbK b
theorem sb_tick(h:SbM M):SbM M.tick:=h
theorem xt(h:SbM M)(ho:o.args.length<=8):SbM (M.emit o):=
 i3 h fun b hb=>⟨(h b hb).par,fun x c=>by
  rcases Jl.1 c with c|c
  ·exact(h b hb).oarg x c
  ·rw[Jo] at c;subst c;exact ho,(h b hb).tos,(h b hb).earg⟩
theorem qn(h:SbM M)(n:Nat):SbM (M.num n):=xt h (Jt _)
theorem sM(h:SbM M){t:ITerm}(h1:t.to.length<=8)(h2:∀e∈t.to,e.args.length<=8):SbM (M.endB t):=
 i3 h fun b hb=>⟨(h b hb).par,(h b hb).oarg,h1,h2⟩
theorem abz(h:SbM M){n:Nat}(c:n<=8):SbM (M.block n):=fun b hb=>by
 rcases Jl.1 hb with hb|hb
 ·exact h b hb
 ·rw[Jo] at hb;subst hb;exact⟨by simp[wJ];exact c,fun o ho=>by simp[wJ] at ho,by simp[wJ],fun e he=>by simp[wJ] at he⟩
theorem uP(E:ME)(h:SbM M):SbM (zJ E M).2:=by
 unfold zJ
 split
 ·exact qn (sb_tick h) _
 ·split
  ·exact h
  ·exact h
theorem kw(E:ME)(h:SbM M):SbM (yJ E M).2:=by
 unfold yJ
 split
 ·exact uP E h
 ·exact xt (M:=M.tick.tick.tick) h (Jt _)
theorem ph (E:ME):∀(n:Nat) {M:MS},SbM M->SbM (yI E n M).2/\(yI E n M).1.length=n
 |0,M,h=>⟨h,rfl⟩
 |n+1,M,h=>⟨uP E (ph E n h).1,by show((yI E n M).1++ [_]).length=_;rw[Jk,(ph E n h).2];rfl⟩
theorem sb_call(E:ME)(d:∀x∈E.args,0<=x/\x<4)(h:SbM M):SbM (vN E M):=by
 unfold vN
 split
 ·exact h
 ·simp only
  split
  ·exact h
  ·refine xt (ph E _ (M:=M.tick) h).1 ?_
   show(yI E _ M.tick).1.length<=8
   rw[(ph E _ (M:=M.tick) h).2,Jj]
   cases c:E.args[E.me+1+tkV E M (E.nf-E.me-1)]? with
   |none=>simp
   |some x=>have:=d x (Ji c);show x.toNat<=8;omega
theorem sb_arith(E:ME)(h:SbM M):SbM (yR E M):=by
 unfold yR;simp only;have h2:=uP E (uP E h)
 split
 ·split
  ·exact xt (xt (qn (M:=(zJ E (zJ E M).2).2.tick.tick) h2 1) (Jt _)) (Jt _)
  ·exact xt (M:=(zJ E (zJ E M).2).2.tick.tick) h2 (Jt _)
 ·exact xt (M:=(zJ E (zJ E M).2).2.tick) h2 (Jt _)
theorem sb_op(E:ME)(d:∀x∈E.args,0<=x/\x<4)(h:SbM M):SbM (xK E M):=by
 unfold xK;simp only;have c:SbM M.tick:=h;have z:([]:List Int).length<=8:=Jt _
 split
 ·exact qn (M:=M.tick.tick) h _
 split
 ·exact xt (uP E (M:=M.tick.tick) h) z
 split
 ·exact xt (M:=(yJ E M.tick).2.tick) (kw E c) z
 split
 ·exact xt (M:=(zJ E (yJ E M.tick).2).2.tick) (uP E (kw E c)) z
 split
 ·exact xt (M:=M.tick.tick) h z
 split
 ·exact xt (M:=(zJ E M.tick).2.tick) (uP E c) z
 split
 ·exact xt (M:=(M.tick.tick.num (tkV E M.tick 4096)).tick) (qn (M:=M.tick.tick) h _) z
 split
 ·exact sb_call E d c
 split
 ·split
  ·exact xt (M:=M.tick.tick) h z
  ·exact h
 ·exact sb_arith E c
theorem sb_ops (E:ME)(hE:∀x∈E.args,0<=x/\x<4):∀(n:Nat) {M:MS},SbM M->SbM (qY E n M)
 |0,M,h=>h
 |n+1,M,h=>sb_ops E hE n (sb_op E hE h)
theorem sb_run(E:ME)(c:∀x∈E.args,0<=x/\x<4)(h:SbM M):SbM (tR E M):=sb_ops E c _ (M:=M.tick) h
theorem nM:∀(n:Nat) {M:MS},SbM M->SbM (xE n M)
 |0,M,h=>h
 |n+1,M,h=>abz (nM n h) Zo
theorem akG (E:ME){c:MS->MS}(hp:∀M,SbM M->SbM (c M))(tg:Nat)(d keep:Nat):∀(n k:Nat) {M:MS},SbM M->SbM (uV E c tg d keep n k M)
 |0,_,M,h=>h
 |n+1,k,M,h=>by
  unfold uV;simp only;refine akG E hp tg d keep n (k+1) ?_;have h1:SbM (c {M with cur:=tg+k }).tick:=hp _ h;have h2:=uP E h1
  show SbM _
  split
  ·exact sM (M:=(zJ E (c {M with cur:=tg+k }).tick).2) h2 Zs Zs
  ·exact sM (M:=(zJ E (c {M with cur:=tg+k }).tick).2) h2 Zs Zs
theorem oO(E:ME){c:MS->MS}(hp:∀M,SbM M->SbM (c M)){n:Nat}(d:n<=8)(h:SbM M):SbM (xi E c n M):=by
 unfold xi;simp only;have h2:=abz (nM n (uP E h)) (show 1<=8 by decide);have h3:=sM h2 (t:=⟨if 2<n then 3 else 2,(zJ E M).1,xk (zJ E M).2.f.length n⟩) (by simp[xk];exact d) (fun e he=>by unfold xk at he;obtain⟨k,_,rfl⟩:=Nu.1 he;exact Jt _);exact akG E hp _ _ _ n 0 h3
theorem sb_loop(E:ME){c:MS->MS}(hp:∀M,SbM M->SbM (c M))(h:SbM M):SbM (tH E c M):=by
 unfold tH;simp only;have h1:=uP E (qn (M:=M.tick) h (tkV E M 5));have h2:=sM (abz (abz (abz h1 (show 2<=8 by decide)) (show 0<=8 by decide)) (show 0<=8 by decide)) (t:=⟨1,0,[⟨((zJ E (M.tick.num (tkV E M 5))).2.f.length:Nat),[(M.next:Int),(zJ E (M.tick.num (tkV E M 5))).1]⟩]⟩) Zs Zs;refine sM (uP E (xt (qn (hp _ ?_) _) (Jt _))) Zs Zs;refine sM ?_ ?_ ?_
 ·exact h2
 ·simp
 ·simp
theorem rQ (E:ME)(c:∀x∈E.args,0<=x/\x<4):∀(d:Nat) (M:MS),SbM M->SbM (zp E d M)
 |0,M,h=>sb_run E c h
 |d+1,M,h=>by
  have h1:=sb_run E c h
  show SbM (if(tR E M).left<1 then _ else _)
  split
  ·exact h1
  ·split
   ·exact oO E (rQ E c d) Zd (M:=(tR E M).tick) h1
   split
   ·exact sb_loop E (rQ E c d) (M:=(tR E M).tick) h1
   split
   ·refine oO E (rQ E c d) ?_ (M:=(tR E M).tick.tick) h1;have:tkV E (tR E M).tick 3<3:=by unfold tkV;omega
    omega
   ·exact h1
theorem sb_func (E:ME)(c:∀x∈E.args,0<=x/\x<4)(pos:Nat):SbM (xR E pos):=by
 have h:SbM (xD E pos):=by
  have g:(E.args.getD E.me 0).toNat<=8:=by
   rw[Jj]
   cases d:E.args[E.me]? with
   |none=>simp
   |some x=>have:=c x (Ji d);show x.toNat<=8;omega
  exact abz (M:= {(⟨pos,[],0,0,[],6⟩:MS).tick with next:=tkV E ⟨pos,[],0,0,[],6⟩ 3*10 }) (fun b hb=>by cases hb) g
 have h1:=rQ E c 1 _ (rQ E c 2 _ h);unfold xR;simp only
 split
 ·exact sM (M:=(zp E 1 (zp E 2 (xD E pos))).tick) h1 Zs Zs
 split
 ·exact sM (M:=(zp E 1 (zp E 2 (xD E pos))).tick) h1 Zs Zs
 ·exact sM (uP E (M:=(zp E 1 (zp E 2 (xD E pos))).tick) h1) Zs Zs
theorem made_smS (s:List Int):SmP 15000 (uR s):=by
 have g:=sm s;refine⟨by rw[qA];omega,fun f hf=>?_,by show(yS s (mdN s)).length<=_;rw[yY];omega,by show 3<=15000;decide,by show 1<=15000;decide⟩;obtain⟨k,hk⟩:=Ny hf;have c:=(Jh.1 hk).1;rw[qA] at c;rcases kz s c with⟨h,_⟩|h
 ·rw[hk] at h;cases h;exact⟨by simp,fun b hb=>by cases hb⟩
 ·rw[hk] at h;cases h;have h1:=sb_func (xC s k) (xy s _) (zg s k).2;have d:=lz s k c;generalize xR (xC s k) (zg s k).2=M at *;unfold MS.sz at d;refine⟨by omega,fun b hb=>?_⟩;have h3:=h1 b hb;have i:=acZ hb;exact⟨by have:=h3.par;omega,by omega,by have:=h3.tos;omega,fun o ho=>by have:=h3.oarg o ho;omega,fun e he=>by have:=h3.earg e he;omega⟩
def pd (w:World)(p:IProg)(e:Ending)(w':World):Prop:=∃t:PT,e=.returned (yH t.V t.prog)/\t.prog=p/\Rows w' w.heap.size t.rows/\Y w w'
theorem TuMid.ret(h:TuMid w p1 o5 q0 q1 q2 t wx){v0 v1 v2 v3 v4 v5:Value}(d:(zW t).toArray=#[v0,v1,v2,v3,v4,v5]){p:IProg}(hp:t.prog=p):
 pd w p (.returned (.agg #[v0,v1,v2,v3,v4,v5])) ((((((wx.setCell ⟨p1+1+1,0,none⟩ v0).setCell ⟨p1+1+1,1,none⟩ v1).setCell ⟨p1+1+1,2,none⟩ v2).setCell ⟨p1+1+1,3,none⟩ v3).setCell ⟨p1+1+1,4,none⟩ v4).setCell ⟨p1+1+1,5,none⟩ v5):=by
 have e:zW t=[v0,v1,v2,v3,v4,v5]:=congrArg Array.toList d;unfold zW at e;simp only[List.cons.injEq,and_true] at e;obtain⟨rfl,rfl,rfl,rfl,rfl,rfl⟩:=e;refine⟨t,rfl,hp,?_,?_⟩
 ·have hb:=h.base;refine(h.rows.base (show w.heap.size<=p1+1+1+1 by omega)).keep fun k hk=>?_
  have c:k≠p1+1+1:=fun e=>by have:=(h.rows.lt hk).1;omega
  exact(Below.heap_setCell _ _ _ _ c).trans ((Below.heap_setCell _ _ _ _ c).trans ((Below.heap_setCell _ _ _ _ c).trans ((Below.heap_setCell _ _ _ _ c).trans ((Below.heap_setCell _ _ _ _ c).trans (Below.heap_setCell _ _ _ _ c)))))
 ·have hb:=h.bel;rw[h.base] at hb ⊢;exact(((((hb.setCell (by show w.heap.size<=w.heap.size+1+1;omega) _).setCell (by show w.heap.size<=w.heap.size+1+1;omega) _).setCell (by show w.heap.size<=w.heap.size+1+1;omega) _).setCell (by show w.heap.size<=w.heap.size+1+1;omega) _).setCell (by show w.heap.size<=w.heap.size+1+1;omega) _).setCell (by show w.heap.size<=w.heap.size+1+1;omega) _
theorem TuMid.start{w2:World}{o:Obj}(d:w.heap.size=p1)(g:w2.heap.size=o5)
 (hr:Rows w2 (((w.alloc o).alloc (G #[U q0,U q1,U q2] 23)).alloc (G #[L,L,U 0,U 0,L,L] 29)).heap.size t.rows)
 (hb:Y (((w.alloc o).alloc (G #[U q0,U q1,U q2] 23)).alloc (G #[L,L,U 0,U 0,L,L] 29)) w2):
 TuMid w p1 o5 q0 q1 q2 t (w2.alloc (G (zW t).toArray 29)):=by
 subst d g;have hs:(((w.alloc o).alloc (G #[U q0,U q1,U q2] 23)).alloc (G #[L,L,U 0,U 0,L,L] 29)).heap.size=w.heap.size+1+1+1:=by simp
 have h1:=zB (o:=G #[L,L,U 0,U 0,L,L] 29) (zI (W:=w.alloc o) (o:=G #[U q0,U q1,U q2] 23) (B:=w.heap.size+1) Zs);have h2:=zI (W:=(w.alloc o).alloc (G #[U q0,U q1,U q2] 23)) (o:=G #[L,L,U 0,U 0,L,L] 29) (B:=w.heap.size+1+1) Zs;have h3:Y w (((w.alloc o).alloc (G #[U q0,U q1,U q2] 23)).alloc (G #[L,L,U 0,U 0,L,L] 29)):=(((Below.refl _ _).alloc (Je _) _).alloc Zs _).alloc Zt _;have c:=hb.size;rw[hs] at hr hb c;refine⟨zB (zH hb h1 Zo),zB (zH hb h2 Zo),zI rfl,?_,rfl,?_,by omega⟩
 ·exact(h3.trans (hb.mono Zo)).alloc Zo _
 ·exact hr.below ((Below.refl _ _).alloc (Je _) _)
theorem turn_idx (r:Nat)(h:r<4)(w:World):(Instr.index 87 (.agg #[U 16392,U 24575,U 512,U 16896]) (U r)).run Tryz.prog w=.ok (U (lY r:Nat)) w:=by
 rcases(show r=0∨r=1∨r=2∨r=3 by omega) with rfl|rfl|rfl|rfl
 ·kernel_rfl
 ·kernel_rfl
 ·kernel_rfl
 ·kernel_rfl
def tq (t:PT):List Row:=wY t.fv t.funcs::vK t.dv t.data::v8 t.bv t.banks::t.funcs.flatMap FT.rows
def sC (t:PT):List Row:=wY t.fv t.funcs::zP t.av t.args::v8 t.bv t.banks::t.funcs.flatMap FT.rows
def uy (t:PT):List Row:=wY t.fv t.funcs::zP t.av t.args::vK t.dv t.data::t.funcs.flatMap FT.rows
theorem row_args (t:PT):zP t.av t.args∈t.rows/\True:=⟨.tail _ (.head _),trivial⟩
theorem row_data (t:PT):vK t.dv t.data∈t.rows/\True:=⟨.tail _ (.tail _ (.head _)),trivial⟩
theorem jI (t:PT):v8 t.bv t.banks∈t.rows/\True:=⟨.tail _ (.tail _ (.tail _ (.head _))),trivial⟩
theorem abG (t:PT):True/\t.rows.Perm (zP t.av t.args::tq t):=⟨trivial,by
 classical
 unfold PT.rows tq;refine Jp.2 fun y=>?_
 simp only[Nb,Nf]
 omega⟩
theorem abI (t:PT):True/\t.rows.Perm (vK t.dv t.data::sC t):=⟨trivial,by
 classical
 unfold PT.rows sC;refine Jp.2 fun y=>?_
 simp only[Nb,Nf]
 omega⟩
theorem tL (t:PT):True/\t.rows.Perm (v8 t.bv t.banks::uy t):=⟨trivial,by
 classical
 unfold PT.rows uy;refine Jp.2 fun y=>?_
 simp only[Nb,Nf]
 omega⟩
theorem qU (t:PT)(x:List Int)(v:Value):({t with args:=x,av:=v }:PT).rows.Perm (zP v x::tq t):=(abG {t with args:=x,av:=v }).2
theorem qS (t:PT)(x:List IObj)(v:Value):({t with data:=x,dv:=v }:PT).rows.Perm (vK v x::sC t):=(abI {t with data:=x,dv:=v }).2
theorem qE (t:PT)(x:List ByteArray)(v:Value):({t with banks:=x,bv:=v }:PT).rows.Perm (v8 v x::uy t):=(tL {t with banks:=x,bv:=v }).2
theorem jO{V:PV}{p:IProg}(hp:ProgIn w w.heap.size V p)(hs:SmallP p)(hq:I64 q0/\I64 q1/\I64 q2)(hw:gn q0=13):
 I 13 #[yH V p,.agg #[U q0,U q1,U q2]] w (pd w (wR p q0 q1 q2)):=by
 obtain⟨fa,fc,b1,e4,e1⟩:=hp.funcs.form;obtain⟨aa,ac,b4,f3,f2⟩:=hp.args.form;obtain⟨da,dc,b2,e8,e7⟩:=hp.data.form;obtain⟨ba,bc,b3,f1,f0⟩:=hp.banks.form;obtain⟨p1,d6⟩:∃p1,w.heap.size=p1:=⟨_,rfl⟩
 have a7:∀W,Y w W->I 18 #[.agg (D p fa fc aa ac da dc ba bc)] W _:=fun W hb=>by
  have h:=uJ ((hp.below hb).mono hb.size) hs;unfold yH at h;rw[b1,b4,b2,b3] at h;exact h
 unfold yH;rw[b1,b4,b2,b3];obtain⟨n,hn⟩:∃n,uS q2=n:=⟨_,rfl⟩
 have d7:q2%65536=(n:Int):=by rw[<-hn];unfold uS;omega
 have g9:n<65536:=Zo;obtain⟨what,b7⟩:∃k,gn q0=k:=⟨_,rfl⟩
 have g6:-20<q0.tmod 20/\q0.tmod 20<20:=⟨by have:=Qu q0 (show(0:Int)<20 by decide);omega,Qv q0 Zd⟩
 have b8:(q0.tmod 20+20)%20=(what:Int):=by
  rw[<-b7];unfold gn;have h1:=Ob q0 (show(20:Int)≠0 by decide);rw[Oa h1];have h2:=Qs q0 20;omega
 have a65:=yt q2;rw[d7] at a65;have a65b:=yt q1;have h5:=hs.fn.1;have c2:Y w (((w.alloc (G (D p fa fc aa ac da dc ba bc) 29)).alloc (G #[U q0,U q1,U q2] 23)).alloc (G #[L,L,U 0,U 0,L,L] 29)):=(((Below.refl _ _).alloc (Je _) _).alloc Zs _).alloc Zt _;have b6:=Ja a7;have c5:=Ja c2;have HP:=Ja (Jb hs (Jb hn b7));clear a7 c2 hp hs b1 b4 b2 b3 e4 e1 f3 f2 e8 e7 f1 f0 hn hq;have d4:=HP.out.2.2.symm.trans hw;subst d4;have a6:(q0.tmod 20+20)%20=13:=b8;clear b8;go_enter Tryz.func13,Tryz.ntmps13;go_upto_region 2 with(go_at_call 18;go_must (refine(b6.out _ c5.out).mono ?_;rintro e w2 ⟨t,a3,a2,aa2,ac2,a5,a4,ba2,bc2,rfl,hV,ht,hr,hb⟩;have g:=Ja (Jb hV (Jb ht (Jb hr hb)));clear hV ht hr hb))
 have m:t.entry=p.entry/\t.handler=p.handler:=by rw[<-g.out.2.1];exact⟨rfl,rfl⟩
 have j:(zW t).toArray=D p a3 a2 aa2 ac2 a5 a4 ba2 bc2:=by
  unfold zW;rw[g.out.1.1,g.out.1.2.1,g.out.1.2.2.1,g.out.1.2.2.2,m.1,m.2]
 obtain⟨o5,b0⟩:∃o5,w2.heap.size=o5:=⟨_,rfl⟩
 have hm:TuMid w p1 o5 q0 q1 q2 t (w2.alloc (G (zW t).toArray 29)):=TuMid.start d6 b0 g.out.2.2.1 g.out.2.2.2;rw[j] at hm;generalize f5:w2.alloc (G (D p a3 a2 aa2 ac2 a5 a4 ba2 bc2) 29)=W3 at *;clear f5;rw[b0];clear b0;have ho:=hm.ho;rw[j] at ho;have f8:=zA (i:=0) hm.hq rfl;have f7:=zA (i:=1) hm.hq rfl;have f6:=zA (i:=2) hm.hq rfl;have g4:=zA (i:=0) ho rfl;have g3:=zA (i:=1) ho rfl;have g0:=zA (i:=4) ho rfl;have f9:=zA (i:=5) ho rfl;have of:∀i,N W3 o5 i:=fun i=>zE ho
 have g2:=zA (i:=2) ho rfl;have g1:=zA (i:=3) ho rfl;have ol:=lt_of_block ho;have HM:=Ja (Jb hm (Jb ho (Jb j m)));have HV:=Ja g.out.1;have c3:=Ja g.out.2.1;clear hm ho j m g b6 c5;obtain⟨f,hf⟩:∃f,uk p q1=f:=⟨_,rfl⟩
 have HF:=Ja hf;clear hf
 go_upto_if 23 with fail
 go_cut [7,8] (fun s7 s8 wx=>s7=U 13/\s8=U f/\W3=wx)
 case first=>
  have hf:=HF.out;unfold uk at hf
  by_cases a1:0<p.funcs.length
  ·rw[if_pos a1] at hf;have d2:(0:Int)<(p.funcs.length:Int):=Zo
   have e5:(q1%65536)%(p.funcs.length:Int)=(f:Int):=by
    rw[<-hf,Ou,Oa (Ob _ Zd)]
   have h0:0<=q1%65536:=Ob _ Zd;clear hf a1;go_wp2;go_meet;exact⟨by first|rfl|rw[a6],by first|rfl|rw[e5],rfl⟩
  ·rw[if_neg a1] at hf;have d2:¬(0:Int)<(p.funcs.length:Int):=Zo;subst hf;clear a1;go_wp2;go_meet;exact⟨by first|rfl|rw[a6],rfl,rfl⟩
 case rest=>
 obtain⟨rfl,rfl,rfl⟩:=hcut;have h4:=HM.out.1.ge;have g5:=HP.out.1.ar;have a0:t.args=p.args:=by rw[<-c3.out];rfl
 have y:W3.ownsRow (p1+1+1+1) 3 1 (.slice aa2 p.args.length ac2) (p.args.length) (p.args.map zN):=by
  have h1:=HM.out.1.rows.own (zP t.av t.args) (row_args t).1;have e:=HV.out.2.1;rw[e] at h1;have h2:W3.ownsRow (p1+1+1+1) 3 1 (.slice aa2 p.args.length ac2) (t.args.length) _:=h1;rw[a0] at h2;exact h2
 have b9:(Value.slice aa2 p.args.length ac2).ownBlock≠some o5:=zC y HM.out.2.1 (.inr Zd);have HR:=Ja (Jb y (Jb b9 a0));obtain⟨ii,d9,c9,c8,c7⟩:=info_parts Tryz.info_int;clear y b9 a0;go_upto_region 24 with(at_builtin;go_must (refine zK _ rfl (.tmp 71) (.tmp 75) 22 (by rfl) (p1+1+1+1) 3 ii (U 0) 1 8 Tryz.underlying22 d9 c9 c8 c7 rfl Zo (.slice aa2 p.args.length ac2) (p.args.length) (p.args.map zN) (by rfl) (HR.out.1.alloc _) (T W3.heap.size 1 1) 1 [U ((n:Int)%10-1)] (by rfl) (yM.one (zI rfl) rfl) (by unfold maxLen;omega) Zo Zt ?_;intro v9 w9 l d b5;obtain⟨ra,rc,rfl⟩:=zG l;have o:=zL d (zB HM.out.2.1) HR.out.2.1;have d0:=zA (i:=0) o rfl;have d1:=zA (i:=1) o rfl;have df:N w9 o5 1:=zE o;have dl:=lt_of_block o;have HG:=Ja (Jb l (Jb d b5));clear l d b5 o))
 have c:=(by
  have c0:=HG.out.2.1;have e9:=HV.out.2.1;rw[<-e9] at c0;refine HM.out.1.grow (r:=zP t.av t.args) (r':=zP (.slice ra (p.args.length+1) rc) (t.args++ [((n:Int)%10-1)])) (rs:=tq t) (i:=1) (u:=.slice ra (p.args.length+1) rc) (t':= {t with args:=t.args++ [((n:Int)%10-1)],av:=.slice ra (p.args.length+1) rc }) (abG t).2 ((Below.refl W3.heap.size W3).alloc (Je _) (G #[U ((n:Int)%10-1)] 3)) c0 ?_ (fun x e=>?_) ?_ ?_
  ·show w9.ownsRow (p1+1+1+1) 3 1 _ (t.args++ [((n:Int)%10-1)]).length _
   rw[Jk,Ju,HR.out.2.2];have h9:=HG.out.1
   show w9.ownsRow _ _ _ _ _ ((p.args++ [((n:Int)%10-1)]).map zN)
   rw[Js];exact h9
  ·rcases HG.out.2.2 with e2|e2
   ·left;have e3:=e2.symm.trans e
    show t.av.ownBlock=some x
    rw[e9];exact e3
   ·right;have e3:=e2.symm.trans e;simp at e3;omega
  ·exact(qU t _ _).symm
  ·rfl)
 generalize f4:w9.setCell ⟨o5,1,none⟩ (.slice ra (p.args.length+1) rc)=WF at *;have ho2:=c.ho
 have e0:(zW ({t with args:=t.args++ [(n:Int)%10-1],av:=.slice ra (p.args.length+1) rc }:PT)).toArray=#[.slice a3 p.funcs.length a2,.slice ra (p.args.length+1) rc,U p.entry,U p.handler,.slice a5 p.data.length a4,.slice ba2 p.banks.length bc2]:=by
  unfold zW
  first|(simp only;done)|(simp only[HV.out.1,HV.out.2.1,HV.out.2.2.1,HV.out.2.2.2,HM.out.2.2.2.1,HM.out.2.2.2.2])
 rw[e0] at ho2;clear f4 f8 f7 f6 g4 g3 g2 g1 g0 f9 of ol;have x0:=zA (i:=0) ho2 rfl;have x1:=zA (i:=1) ho2 rfl;have x2:=zA (i:=2) ho2 rfl;have x3:=zA (i:=3) ho2 rfl;have x4:=zA (i:=4) ho2 rfl;have x5:=zA (i:=5) ho2 rfl;have xl:=lt_of_block ho2;have y0:=zA (i:=0) c.hr rfl;have y1:=zA (i:=1) c.hr rfl;have y2:=zA (i:=2) c.hr rfl;have y3:=zA (i:=3) c.hr rfl;have y4:=zA (i:=4) c.hr rfl;have y5:=zA (i:=5) c.hr rfl;have yf:∀i,N WF (p1+1+1) i:=fun i=>zE c.hr
 have yl:=lt_of_block c.hr;have c4:=Ja (Jb c e0);clear c ho2 e0;go_wp2;refine bodyPost_ret (v:=.agg #[.slice a3 p.funcs.length a2,.slice ra (p.args.length+1) rc,U p.entry,U p.handler,.slice a5 p.data.length a4,.slice ba2 p.banks.length bc2]) ?_ rfl (c4.out.1.ret c4.out.2 ?_)
 ·rw[zM rfl];go_simp
 ·have d3:=HP.out.2.2;have d8:=HP.out.2.1;have e6:=HF.out;have d5:=c3.out;unfold wR rA;rw[d8,e6,show gn q0=13 from d3];rw[<-d5];rfl
theorem iT{V:PV}{p:IProg}(hp:ProgIn w w.heap.size V p)(hs:SmallP p)(hq:I64 q0/\I64 q1/\I64 q2)(hw:gn q0=14):
 I 13 #[yH V p,.agg #[U q0,U q1,U q2]] w (pd w (wR p q0 q1 q2)):=by
 obtain⟨fa,fc,a3,c4,c3⟩:=hp.funcs.form;obtain⟨aa,ac,a6,d3,d2⟩:=hp.args.form;obtain⟨da,dc,a4,c9,c8⟩:=hp.data.form;obtain⟨ba,bc,a5,d1,d0⟩:=hp.banks.form;obtain⟨p1,b9⟩:∃p1,w.heap.size=p1:=⟨_,rfl⟩
 have a1:∀W,Y w W->I 18 #[.agg (D p fa fc aa ac da dc ba bc)] W _:=fun W hb=>by
  have h:=uJ ((hp.below hb).mono hb.size) hs;unfold yH at h;rw[a3,a6,a4,a5] at h;exact h
 unfold yH;rw[a3,a6,a4,a5];obtain⟨n,hn⟩:∃n,uS q2=n:=⟨_,rfl⟩
 have c0:q2%65536=(n:Int):=by rw[<-hn];unfold uS;omega
 have e8:n<65536:=Zo;obtain⟨what,b0⟩:∃k,gn q0=k:=⟨_,rfl⟩
 have e7:-20<q0.tmod 20/\q0.tmod 20<20:=⟨by have:=Qu q0 (show(0:Int)<20 by decide);omega,Qv q0 Zd⟩
 have b1:(q0.tmod 20+20)%20=(what:Int):=by
  rw[<-b0];unfold gn;have h1:=Ob q0 (show(20:Int)≠0 by decide);rw[Oa h1];have h2:=Qs q0 20;omega
 have a65:=yt q2;rw[c0] at a65;have a65b:=yt q1;have e9:=hs.fn.1;have b2:Y w (((w.alloc (G (D p fa fc aa ac da dc ba bc) 29)).alloc (G #[U q0,U q1,U q2] 23)).alloc (G #[L,L,U 0,U 0,L,L] 29)):=(((Below.refl _ _).alloc (Je _) _).alloc Zs _).alloc Zt _;have a7:=Ja a1;have b4:=Ja b2;have HP:=Ja (Jb hs (Jb hn b0));clear a1 b2 hp hs a3 a6 a4 a5 c4 c3 d3 d2 c9 c8 d1 d0 hn hq;have b7:=HP.out.2.2.symm.trans hw;subst b7;have a0:(q0.tmod 20+20)%20=14:=b1;clear b1;go_enter Tryz.func13,Tryz.ntmps13;go_upto_region 2 with(go_at_call 18;go_must (refine(a7.out _ b4.out).mono ?_;rintro e w2 ⟨t,o,m,aa2,ac2,y,x,ba2,bc2,rfl,hV,ht,hr,hb⟩;have d:=Ja (Jb hV (Jb ht (Jb hr hb)));clear hV ht hr hb))
 have j:t.entry=p.entry/\t.handler=p.handler:=by rw[<-d.out.2.1];exact⟨rfl,rfl⟩
 have g:(zW t).toArray=D p o m aa2 ac2 y x ba2 bc2:=by
  unfold zW;rw[d.out.1.1,d.out.1.2.1,d.out.1.2.2.1,d.out.1.2.2.2,j.1,j.2]
 obtain⟨o5,a2⟩:∃o5,w2.heap.size=o5:=⟨_,rfl⟩
 have hm:TuMid w p1 o5 q0 q1 q2 t (w2.alloc (G (zW t).toArray 29)):=TuMid.start b9 a2 d.out.2.2.1 d.out.2.2.2;rw[g] at hm;generalize d5:w2.alloc (G (D p o m aa2 ac2 y x ba2 bc2) 29)=W3 at *;clear d5;rw[a2];clear a2;have ho:=hm.ho;rw[g] at ho;have d8:=zA (i:=0) hm.hq rfl;have d7:=zA (i:=1) hm.hq rfl;have d6:=zA (i:=2) hm.hq rfl;have e5:=zA (i:=0) ho rfl;have e4:=zA (i:=1) ho rfl;have e1:=zA (i:=4) ho rfl;have d9:=zA (i:=5) ho rfl;have of:∀i,N W3 o5 i:=fun i=>zE ho
 have e3:=zA (i:=2) ho rfl;have e2:=zA (i:=3) ho rfl;have ol:=lt_of_block ho;have HM:=Ja (Jb hm (Jb ho (Jb g j)));have HV:=Ja d.out.1;have e6:=Ja d.out.2.1;clear hm ho g j d a7 b4;obtain⟨f,hf⟩:∃f,uk p q1=f:=⟨_,rfl⟩
 have HF:=Ja hf;clear hf
 go_upto_if 23 with fail
 go_cut [7,8] (fun s7 s8 wx=>s7=U 14/\s8=U f/\W3=wx)
 case first=>
  have hf:=HF.out;unfold uk at hf
  by_cases l:0<p.funcs.length
  ·rw[if_pos l] at hf;have b5:(0:Int)<(p.funcs.length:Int):=Zo
   have c5:(q1%65536)%(p.funcs.length:Int)=(f:Int):=by
    rw[<-hf,Ou,Oa (Ob _ Zd)]
   have h0:0<=q1%65536:=Ob _ Zd;clear hf l;go_wp2;go_meet;exact⟨by first|rfl|rw[a0],by first|rfl|rw[c5],rfl⟩
  ·rw[if_neg l] at hf;have b5:¬(0:Int)<(p.funcs.length:Int):=Zo;subst hf;clear l;go_wp2;go_meet;exact⟨by first|rfl|rw[a0],rfl,rfl⟩
 case rest=>
 obtain⟨rfl,rfl,rfl⟩:=hcut;go_upto_region 24 with fail;have c:=HM.out.1.set (t':= {t with entry:=(n:Int)%7-1 }) (i:=2) (u:=U ((n:Int)%7-1)) rfl rfl;generalize d4:W3.setCell ⟨o5,2,none⟩ (U ((n:Int)%7-1))=WF at *;have ho2:=c.ho
 have e0:(zW ({t with entry:=(n:Int)%7-1 }:PT)).toArray=#[.slice o p.funcs.length m,.slice aa2 p.args.length ac2,U ((n:Int)%7-1),U p.handler,.slice y p.data.length x,.slice ba2 p.banks.length bc2]:=by
  unfold zW
  first|(simp only;done)|(simp only[HV.out.1,HV.out.2.1,HV.out.2.2.1,HV.out.2.2.2,HM.out.2.2.2.1,HM.out.2.2.2.2])
 rw[e0] at ho2;clear d4 d8 d7 d6 e5 e4 e3 e2 e1 d9 of ol;have x0:=zA (i:=0) ho2 rfl;have x1:=zA (i:=1) ho2 rfl;have x2:=zA (i:=2) ho2 rfl;have x3:=zA (i:=3) ho2 rfl;have x4:=zA (i:=4) ho2 rfl;have x5:=zA (i:=5) ho2 rfl;have xl:=lt_of_block ho2;have y0:=zA (i:=0) c.hr rfl;have y1:=zA (i:=1) c.hr rfl;have y2:=zA (i:=2) c.hr rfl;have y3:=zA (i:=3) c.hr rfl;have y4:=zA (i:=4) c.hr rfl;have y5:=zA (i:=5) c.hr rfl;have yf:∀i,N WF (p1+1+1) i:=fun i=>zE c.hr
 have yl:=lt_of_block c.hr;have b3:=Ja (Jb c e0);clear c ho2 e0;go_wp2;refine bodyPost_ret (v:=.agg #[.slice o p.funcs.length m,.slice aa2 p.args.length ac2,U ((n:Int)%7-1),U p.handler,.slice y p.data.length x,.slice ba2 p.banks.length bc2]) ?_ rfl (b3.out.1.ret b3.out.2 ?_)
 ·rw[zM rfl];go_simp
 ·have b6:=HP.out.2.2;have c2:=HP.out.2.1;have c7:=HF.out;have b8:=e6.out;unfold wR rA;rw[c2,c7,show gn q0=14 from b6];rw[<-b8];rfl
theorem jf{V:PV}{p:IProg}(hp:ProgIn w w.heap.size V p)(hs:SmallP p)(hq:I64 q0/\I64 q1/\I64 q2)(hw:gn q0=15):
 I 13 #[yH V p,.agg #[U q0,U q1,U q2]] w (pd w (wR p q0 q1 q2)):=by
 obtain⟨fa,fc,a3,c4,c3⟩:=hp.funcs.form;obtain⟨aa,ac,a6,d3,d2⟩:=hp.args.form;obtain⟨da,dc,a4,c9,c8⟩:=hp.data.form;obtain⟨ba,bc,a5,d1,d0⟩:=hp.banks.form;obtain⟨p1,b9⟩:∃p1,w.heap.size=p1:=⟨_,rfl⟩
 have a1:∀W,Y w W->I 18 #[.agg (D p fa fc aa ac da dc ba bc)] W _:=fun W hb=>by
  have h:=uJ ((hp.below hb).mono hb.size) hs;unfold yH at h;rw[a3,a6,a4,a5] at h;exact h
 unfold yH;rw[a3,a6,a4,a5];obtain⟨n,hn⟩:∃n,uS q2=n:=⟨_,rfl⟩
 have c0:q2%65536=(n:Int):=by rw[<-hn];unfold uS;omega
 have e8:n<65536:=Zo;obtain⟨what,b0⟩:∃k,gn q0=k:=⟨_,rfl⟩
 have e7:-20<q0.tmod 20/\q0.tmod 20<20:=⟨by have:=Qu q0 (show(0:Int)<20 by decide);omega,Qv q0 Zd⟩
 have b1:(q0.tmod 20+20)%20=(what:Int):=by
  rw[<-b0];unfold gn;have h1:=Ob q0 (show(20:Int)≠0 by decide);rw[Oa h1];have h2:=Qs q0 20;omega
 have a65:=yt q2;rw[c0] at a65;have a65b:=yt q1;have e9:=hs.fn.1;have b2:Y w (((w.alloc (G (D p fa fc aa ac da dc ba bc) 29)).alloc (G #[U q0,U q1,U q2] 23)).alloc (G #[L,L,U 0,U 0,L,L] 29)):=(((Below.refl _ _).alloc (Je _) _).alloc Zs _).alloc Zt _;have a7:=Ja a1;have b4:=Ja b2;have HP:=Ja (Jb hs (Jb hn b0));clear a1 b2 hp hs a3 a6 a4 a5 c4 c3 d3 d2 c9 c8 d1 d0 hn hq;have b7:=HP.out.2.2.symm.trans hw;subst b7;have a0:(q0.tmod 20+20)%20=15:=b1;clear b1;go_enter Tryz.func13,Tryz.ntmps13;go_upto_region 2 with(go_at_call 18;go_must (refine(a7.out _ b4.out).mono ?_;rintro e w2 ⟨t,o,m,aa2,ac2,y,x,ba2,bc2,rfl,hV,ht,hr,hb⟩;have d:=Ja (Jb hV (Jb ht (Jb hr hb)));clear hV ht hr hb))
 have j:t.entry=p.entry/\t.handler=p.handler:=by rw[<-d.out.2.1];exact⟨rfl,rfl⟩
 have g:(zW t).toArray=D p o m aa2 ac2 y x ba2 bc2:=by
  unfold zW;rw[d.out.1.1,d.out.1.2.1,d.out.1.2.2.1,d.out.1.2.2.2,j.1,j.2]
 obtain⟨o5,a2⟩:∃o5,w2.heap.size=o5:=⟨_,rfl⟩
 have hm:TuMid w p1 o5 q0 q1 q2 t (w2.alloc (G (zW t).toArray 29)):=TuMid.start b9 a2 d.out.2.2.1 d.out.2.2.2;rw[g] at hm;generalize d5:w2.alloc (G (D p o m aa2 ac2 y x ba2 bc2) 29)=W3 at *;clear d5;rw[a2];clear a2;have ho:=hm.ho;rw[g] at ho;have d8:=zA (i:=0) hm.hq rfl;have d7:=zA (i:=1) hm.hq rfl;have d6:=zA (i:=2) hm.hq rfl;have e5:=zA (i:=0) ho rfl;have e4:=zA (i:=1) ho rfl;have e1:=zA (i:=4) ho rfl;have d9:=zA (i:=5) ho rfl;have of:∀i,N W3 o5 i:=fun i=>zE ho
 have e3:=zA (i:=2) ho rfl;have e2:=zA (i:=3) ho rfl;have ol:=lt_of_block ho;have HM:=Ja (Jb hm (Jb ho (Jb g j)));have HV:=Ja d.out.1;have e6:=Ja d.out.2.1;clear hm ho g j d a7 b4;obtain⟨f,hf⟩:∃f,uk p q1=f:=⟨_,rfl⟩
 have HF:=Ja hf;clear hf
 go_upto_if 23 with fail
 go_cut [7,8] (fun s7 s8 wx=>s7=U 15/\s8=U f/\W3=wx)
 case first=>
  have hf:=HF.out;unfold uk at hf
  by_cases l:0<p.funcs.length
  ·rw[if_pos l] at hf;have b5:(0:Int)<(p.funcs.length:Int):=Zo
   have c5:(q1%65536)%(p.funcs.length:Int)=(f:Int):=by
    rw[<-hf,Ou,Oa (Ob _ Zd)]
   have h0:0<=q1%65536:=Ob _ Zd;clear hf l;go_wp2;go_meet;exact⟨by first|rfl|rw[a0],by first|rfl|rw[c5],rfl⟩
  ·rw[if_neg l] at hf;have b5:¬(0:Int)<(p.funcs.length:Int):=Zo;subst hf;clear l;go_wp2;go_meet;exact⟨by first|rfl|rw[a0],rfl,rfl⟩
 case rest=>
 obtain⟨rfl,rfl,rfl⟩:=hcut;go_upto_region 24 with fail;have c:=HM.out.1.set (t':= {t with handler:=(n:Int)%7-2 }) (i:=3) (u:=U ((n:Int)%7-2)) rfl rfl;generalize d4:W3.setCell ⟨o5,3,none⟩ (U ((n:Int)%7-2))=WF at *;have ho2:=c.ho
 have e0:(zW ({t with handler:=(n:Int)%7-2 }:PT)).toArray=#[.slice o p.funcs.length m,.slice aa2 p.args.length ac2,U p.entry,U ((n:Int)%7-2),.slice y p.data.length x,.slice ba2 p.banks.length bc2]:=by
  unfold zW
  first|(simp only;done)|(simp only[HV.out.1,HV.out.2.1,HV.out.2.2.1,HV.out.2.2.2,HM.out.2.2.2.1,HM.out.2.2.2.2])
 rw[e0] at ho2;clear d4 d8 d7 d6 e5 e4 e3 e2 e1 d9 of ol;have x0:=zA (i:=0) ho2 rfl;have x1:=zA (i:=1) ho2 rfl;have x2:=zA (i:=2) ho2 rfl;have x3:=zA (i:=3) ho2 rfl;have x4:=zA (i:=4) ho2 rfl;have x5:=zA (i:=5) ho2 rfl;have xl:=lt_of_block ho2;have y0:=zA (i:=0) c.hr rfl;have y1:=zA (i:=1) c.hr rfl;have y2:=zA (i:=2) c.hr rfl;have y3:=zA (i:=3) c.hr rfl;have y4:=zA (i:=4) c.hr rfl;have y5:=zA (i:=5) c.hr rfl;have yf:∀i,N WF (p1+1+1) i:=fun i=>zE c.hr
 have yl:=lt_of_block c.hr;have b3:=Ja (Jb c e0);clear c ho2 e0;go_wp2;refine bodyPost_ret (v:=.agg #[.slice o p.funcs.length m,.slice aa2 p.args.length ac2,U p.entry,U ((n:Int)%7-2),.slice y p.data.length x,.slice ba2 p.banks.length bc2]) ?_ rfl (b3.out.1.ret b3.out.2 ?_)
 ·rw[zM rfl];go_simp
 ·have b6:=HP.out.2.2;have c2:=HP.out.2.1;have c7:=HF.out;have b8:=e6.out;unfold wR rA;rw[c2,c7,show gn q0=15 from b6];rw[<-b8];rfl
theorem turned_d{V:PV}{p:IProg}(hp:ProgIn w w.heap.size V p)(hs:SmallP p)(hq:I64 q0/\I64 q1/\I64 q2)(hw:gn q0<=12∨gn q0=19):
 I 13 #[yH V p,.agg #[U q0,U q1,U q2]] w (pd w (wR p q0 q1 q2)):=by
 obtain⟨fa,fc,d9,j0,i9⟩:=hp.funcs.form;obtain⟨aa,ac,e9,k1,k0⟩:=hp.args.form;obtain⟨da,dc,e5,j3,j2⟩:=hp.data.form;obtain⟨ba,bc,e7,j5,j4⟩:=hp.banks.form;obtain⟨p1,h9⟩:∃p1,w.heap.size=p1:=⟨_,rfl⟩
 have d4:∀W,Y w W->I 18 #[.agg (D p fa fc aa ac da dc ba bc)] W _:=fun W hb=>by
  have h:=uJ ((hp.below hb).mono hb.size) hs;unfold yH at h;rw[d9,e9,e5,e7] at h;exact h
 unfold yH;rw[d9,e9,e5,e7];obtain⟨n,hn⟩:∃n,uS q2=n:=⟨_,rfl⟩
 have i0:q2%65536=(n:Int):=by rw[<-hn];unfold uS;omega
 have i1:n<65536:=Zo;obtain⟨what,g0⟩:∃k,gn q0=k:=⟨_,rfl⟩
 have l0:-20<q0.tmod 20/\q0.tmod 20<20:=⟨by have:=Qu q0 (show(0:Int)<20 by decide);omega,Qv q0 Zd⟩
 have g1:(q0.tmod 20+20)%20=(what:Int):=by
  rw[<-g0];unfold gn;have h1:=Ob q0 (show(20:Int)≠0 by decide);rw[Oa h1];have h2:=Qs q0 20;omega
 have a65:=yt q2;rw[i0] at a65;have a65b:=yt q1;have l2:=hs.fn.1;have g9:Y w (((w.alloc (G (D p fa fc aa ac da dc ba bc) 29)).alloc (G #[U q0,U q1,U q2] 23)).alloc (G #[L,L,U 0,U 0,L,L] 29)):=(((Below.refl _ _).alloc (Je _) _).alloc Zs _).alloc Zt _;have f9:=Ja d4;have h4:=Ja g9;have HP:=Ja (Jb hs (Jb hn g0));clear d4 g9 hp hs d9 e9 e5 e7 j0 i9 k1 k0 j3 j2 j5 j4 hn hq;have c9:=Ja hw;have h5:what<=12∨what=19:=by have e:=HP.out.2.2;rw[<-e];exact hw
 have b13:((what:Int)==13)=false:=Ze;have b14:((what:Int)==14)=false:=Ze;have b15:((what:Int)==15)=false:=Ze;have b16:((what:Int)==16)=false:=Ze;have b17:((what:Int)==17)=false:=Ze;have b18:((what:Int)==18)=false:=Ze;clear hw h5;go_enter Tryz.func13,Tryz.ntmps13;go_upto_region 2 with(go_at_call 18;go_must (refine(f9.out _ h4.out).mono ?_;rintro e w2 ⟨t,c8,o,aa2,ac2,y,u,ba2,bc2,rfl,hV,ht,hr,hb⟩;have HT:=Ja (Jb hV (Jb ht (Jb hr hb)));clear hV ht hr hb))
 have b1:t.entry=p.entry/\t.handler=p.handler:=by rw[<-HT.out.2.1];exact⟨rfl,rfl⟩
 have a2:(zW t).toArray=D p c8 o aa2 ac2 y u ba2 bc2:=by
  unfold zW;rw[HT.out.1.1,HT.out.1.2.1,HT.out.1.2.2.1,HT.out.1.2.2.2,b1.1,b1.2]
 obtain⟨o5,d5⟩:∃o5,w2.heap.size=o5:=⟨_,rfl⟩
 have hm:TuMid w p1 o5 q0 q1 q2 t (w2.alloc (G (zW t).toArray 29)):=TuMid.start h9 d5 HT.out.2.2.1 HT.out.2.2.2;rw[a2] at hm;generalize k2:w2.alloc (G (D p c8 o aa2 ac2 y u ba2 bc2) 29)=W3 at *;clear k2;rw[d5];clear d5;have ho:=hm.ho;rw[a2] at ho;have f2:=zA (i:=0) hm.hq rfl;have f1:=zA (i:=1) hm.hq rfl;have f0:=zA (i:=2) hm.hq rfl;have f8:=zA (i:=0) ho rfl;have f7:=zA (i:=1) ho rfl;have f4:=zA (i:=4) ho rfl;have f3:=zA (i:=5) ho rfl;have of:∀i,N W3 o5 i:=fun i=>zE ho
 have f6:=zA (i:=2) ho rfl;have f5:=zA (i:=3) ho rfl;have ol:=lt_of_block ho;have l:=Ja (Jb hm (Jb ho (Jb a2 b1)));have j:=Ja HT.out.1;have b7:=Ja HT.out.2.1;clear hm ho a2 b1 HT f9 h4;obtain⟨f,hf⟩:∃f,uk p q1=f:=⟨_,rfl⟩
 have HF:=Ja hf;clear hf
 go_upto_if 23 with fail
 go_cut [7,8] (fun s7 s8 wx=>s7=U what/\s8=U f/\W3=wx)
 case first=>
  have hf:=HF.out;unfold uk at hf
  by_cases c2:0<p.funcs.length
  ·rw[if_pos c2] at hf;have h6:(0:Int)<(p.funcs.length:Int):=Zo
   have g5:(q1%65536)%(p.funcs.length:Int)=(f:Int):=by
    rw[<-hf,Ou,Oa (Ob _ Zd)]
   have h0:0<=q1%65536:=Ob _ Zd;clear hf c2;go_wp2;go_meet;exact⟨by first|rfl|rw[g1],by first|rfl|rw[g5],rfl⟩
  ·rw[if_neg c2] at hf;have h6:¬(0:Int)<(p.funcs.length:Int):=Zo;subst hf;clear c2;go_wp2;go_meet;exact⟨by first|rfl|rw[g1],rfl,rfl⟩
 case rest=>
 obtain⟨rfl,rfl,rfl⟩:=hcut;have b0:t.funcs.length=p.funcs.length:=by rw[<-b7.out];unfold PT.prog;simp
 by_cases c3:0<p.funcs.length
 ·have k5:f<p.funcs.length:=by
   have h:=HF.out;unfold uk at h;rw[if_pos c3] at h;rw[<-h];exact Qj _ c3
  obtain⟨ft,b4⟩:∃ft,t.funcs[f]? =some ft:=⟨_,Jd Zo⟩
  have d3:p.funcs[f]? =some ft.fn:=by
   rw[<-b7.out]
   show(t.funcs.map FT.fn)[f]? =_
   rw[Jr,b4];rfl
  have e3:=kZ l.out.1.rows;rw[j.out.1,b0] at e3;obtain⟨fb,l4,j1,k7,k6⟩:=e3.form c3;cases j1;have e4:t.fv.ownBlock=some fb:=by rw[j.out.1];rfl
  obtain⟨cf,ff,l5⟩:=kj l.out.1.rows e4 b4;have d7:W3.ownsRow (p1+1+1+1) 84 5 ft.bv ft.blks.length (ft.blks.flatMap zz):=l.out.1.rows.own (zd ft.bv ft.blks) ((PT.rows_at b4).mem_iff.2 (.head _));obtain⟨ga,gc,d6⟩:=zG d7;rw[d6] at cf;have g5:(f:Int)<(p.funcs.length:Int):=Zo;have h7:(0:Int)<(p.funcs.length:Int):=Zo;have b9:=(HP.out.1.fn.2 ft.fn (Ji d3))
  have c5:ft.fn.length=ft.blks.length:=by unfold FT.fn;simp
  have k9:ft.blks.length<=2000000:=by have:=b9.1.1;omega
  have d:=Ja (Jb b4 (Jb d3 (Jb e4 (Jb d6 (Jb d7 (Jb b9 c5))))));clear b4 d3 e4 d6 d7 e3 b9 c5 b0
  by_cases c7:0<ft.blks.length
  ·have h8:(0:Int)<(ft.blks.length:Int):=Zo;obtain⟨i,hi⟩:∃i,turnK q1 n ft.blks.length=i:=⟨_,rfl⟩
   have i2:i<ft.blks.length:=by rw[<-hi];exact Qj _ c7
   obtain⟨bt,c4⟩:∃bt,ft.blks[i]? =some bt:=⟨_,Jd i2⟩
   obtain⟨x,hx⟩:∃x:Nat,q1/65536%65536=(x:Int):=⟨(q1/65536%65536).toNat,by omega⟩
   have c0:(x:Int)<65536:=Zo;have d1:=Ja (Jb hi (Jb hx c0));have l1:(i:Int)<(ft.blks.length:Int):=Zo;have d8:=d.out.2.2.2.2.1;rw[d.out.2.2.2.1] at d8;obtain⟨gb,l3,i8,k4,k3⟩:=d8.form c7;cases i8;have g4:ft.bv.ownBlock=some gb:=by rw[d.out.2.2.2.1];rfl
   have g6:=d.out.2.2.2.2.2.1;have b8:bt.blk∈ft.fn:=Oj (Ji c4)
   have g2:SzB bt:=by
    obtain⟨h1,h2⟩:=g6;have h3:=h1.2 _ b8;exact szB_of h3 h2 b8
   have g3:∀W,Y W3 W->I 32 #[.pointer (some ⟨gb,i*5,none⟩),U what,U n] W (uE W (p1+1+1+1) gb i ft.bv bt ft.blks ((ft.blks.eraseIdx i).flatMap BT.rows++t.but f) what n):=fun W hW=>iF ((l.out.1.below hW).block d.out.1 c4 g4) i1 g2 (by have e:=HP.out.2.2;rw[<-e];exact c9.out)
   have d0:=Ja (Jb g3 (Jb c4 hi));have x0:A (W3.alloc (G #[T gb ft.blks.length gc] 39)) W3.heap.size 0 (T gb ft.blks.length gc):=zA (zI rfl) rfl;have x1:A (W3.alloc (G #[T gb ft.blks.length gc] 39)) (p1+1) 1 (U q1):=zA (zB l.out.1.hq) rfl;clear g3 c4 hi hx d8 g4 g6 b8 g2 c7 c0;go_upto_region 10 with fail;have c0:=d1.out.2.2;have a3:bits .and .i64 (q1/65536) 65535=(x:Int):=by rw[yt,d1.out.2.1]
   have a4:IntKind.i64.wrap ((n:Int)/64)=(n:Int)/64:=Om _ Zo;have a5:IntKind.i64.wrap ((x:Int)+(n:Int)/64)=(x:Int)+(n:Int)/64:=Om _ Zo
   have a6:((x:Int)+(n:Int)/64)%(ft.blks.length:Int)=(i:Int):=by
    rw[<-d1.out.1];unfold turnK;rw[d1.out.2.1,Ni];simp
   have a7:((x:Int)+(n:Int)/64).tmod (ft.blks.length:Int)=(i:Int):=by rw[Qc Zo];exact a6
   clear c0;refine zt 16 Zk Zk ?_;simp only[Qo,Uc,Qp,Ui]
   repeat (go_big_quiet_step (fail))
   refine wpQuiet_nil ?_;go_upto_region 24 with(go_at_call 32;go_must (refine(d0.out.1 _ (((Below.refl _ _).alloc (Je _) (G #[T gb ft.blks.length gc] 39)).drew)).mono ?_;rintro e w9 ⟨rfl,bt',d2,e8,e6⟩;have HG:=Ja (Jb d2 (Jb e8 e6));clear d2 e8 e6))
   have c:=((l.out.1.below (((Below.refl _ _).alloc (Je _) (G #[T gb ft.blks.length gc] 39)).drew)).unblock d.out.1 d0.out.2.1 HG.out.1 HG.out.2.2)
   generalize b6:w9=WF at *;have ho2:=c.ho
   have e0:(zW ({t with funcs:=t.funcs.set f {ft with blks:=ft.blks.set i bt' }}:PT)).toArray=D p (some ⟨fb,0,none⟩) o aa2 ac2 y u ba2 bc2:=by
    unfold zW
    first|(simp only;done)|(simp only[j.out.1,j.out.2.1,j.out.2.2.1,j.out.2.2.2,l.out.2.2.2.1,l.out.2.2.2.2])
   rw[e0] at ho2;clear b6 f2 f1 f0 f8 f7 f6 f5 f4 f3 of ol;have x0:=zA (i:=0) ho2 rfl;have x1:=zA (i:=1) ho2 rfl;have x2:=zA (i:=2) ho2 rfl;have x3:=zA (i:=3) ho2 rfl;have x4:=zA (i:=4) ho2 rfl;have x5:=zA (i:=5) ho2 rfl;have xl:=lt_of_block ho2;have y0:=zA (i:=0) c.hr rfl;have y1:=zA (i:=1) c.hr rfl;have y2:=zA (i:=2) c.hr rfl;have y3:=zA (i:=3) c.hr rfl;have y4:=zA (i:=4) c.hr rfl;have y5:=zA (i:=5) c.hr rfl;have yf:∀i,N WF (p1+1+1) i:=fun i=>zE c.hr
   have yl:=lt_of_block c.hr;have a0:=Ja (Jb c e0);clear c ho2 e0;go_wp2;refine bodyPost_ret (v:=.agg (D p (some ⟨fb,0,none⟩) o aa2 ac2 y u ba2 bc2)) ?_ rfl (a0.out.1.ret a0.out.2 ?_)
   ·rw[zM rfl];go_simp
   ·have m:=HP.out.2.2;have b3:=HP.out.2.1;have b5:=HF.out;have b2:=b7.out;have a1:=c9.out;rw[m] at a1;unfold wR rA;rw[b3,b5,m,if_neg Zo,if_neg Zo,if_neg Zo,if_neg Zo,if_neg Zo,if_neg Zo]
    have e1:wD p.funcs f (lW what q1 n)=p.funcs.set f (wD ft.fn i (xh what n)):=by
     rw[xI d.out.2.1];unfold lW;rw[d.out.2.2.2.2.2.2,d0.out.2.2]
    rw[e1,<-b2];unfold PT.prog;simp only[Ox]
    have e2:wD ft.fn i (xh what n)=({ft with blks:=ft.blks.set i bt' }:FT).fn:=by
     unfold FT.fn;rw[xI (x:=bt.blk) (by rw[Jr,d0.out.2.1];rfl),Ox,HG.out.2.1]
    rw[e2]
  ·have h8:¬(0:Int)<(ft.blks.length:Int):=Zo
   have HN:=Ja (show ∀g,p.funcs[f]? =some g->g.length=0 from fun g hg=>by
    rw[d.out.2.1] at hg;cases hg;have:=d.out.2.2.2.2.2.2
    omega)
   clear c7;go_upto_region 24 with fail;have c:=l.out.1;generalize b6:W3=WF at *;have ho2:=c.ho
   have e0:(zW t).toArray=D p (some ⟨fb,0,none⟩) o aa2 ac2 y u ba2 bc2:=by
    unfold zW
    first|(simp only;done)|(simp only[j.out.1,j.out.2.1,j.out.2.2.1,j.out.2.2.2,l.out.2.2.2.1,l.out.2.2.2.2])
   rw[e0] at ho2;clear b6 f2 f1 f0 f8 f7 f6 f5 f4 f3 of ol;have x0:=zA (i:=0) ho2 rfl;have x1:=zA (i:=1) ho2 rfl;have x2:=zA (i:=2) ho2 rfl;have x3:=zA (i:=3) ho2 rfl;have x4:=zA (i:=4) ho2 rfl;have x5:=zA (i:=5) ho2 rfl;have xl:=lt_of_block ho2;have y0:=zA (i:=0) c.hr rfl;have y1:=zA (i:=1) c.hr rfl;have y2:=zA (i:=2) c.hr rfl;have y3:=zA (i:=3) c.hr rfl;have y4:=zA (i:=4) c.hr rfl;have y5:=zA (i:=5) c.hr rfl;have yf:∀i,N WF (p1+1+1) i:=fun i=>zE c.hr
   have yl:=lt_of_block c.hr;have a0:=Ja (Jb c e0);clear c ho2 e0;go_wp2;refine bodyPost_ret (v:=.agg (D p (some ⟨fb,0,none⟩) o aa2 ac2 y u ba2 bc2)) ?_ rfl (a0.out.1.ret a0.out.2 ?_)
   ·rw[zM rfl];go_simp
   ·have m:=HP.out.2.2;have b3:=HP.out.2.1;have b5:=HF.out;have b2:=b7.out;have a1:=c9.out;rw[m] at a1;unfold wR;rw[b3,b5,m,uw (.inr a1) HN.out];exact b2
 ·have h7:¬(0:Int)<(p.funcs.length:Int):=Zo
  have HN:=Ja (show ∀g,p.funcs[f]? =some g->g.length=0 from fun g hg=>by
   have:=(Jh.1 hg).1
   omega)
  clear c3 b0;go_upto_region 24 with fail;have c:=l.out.1;generalize b6:W3=WF at *;have ho2:=c.ho
  have e0:(zW t).toArray=D p c8 o aa2 ac2 y u ba2 bc2:=by
   unfold zW
   first|(simp only;done)|(simp only[j.out.1,j.out.2.1,j.out.2.2.1,j.out.2.2.2,l.out.2.2.2.1,l.out.2.2.2.2])
  rw[e0] at ho2;clear b6 f2 f1 f0 f8 f7 f6 f5 f4 f3 of ol;have x0:=zA (i:=0) ho2 rfl;have x1:=zA (i:=1) ho2 rfl;have x2:=zA (i:=2) ho2 rfl;have x3:=zA (i:=3) ho2 rfl;have x4:=zA (i:=4) ho2 rfl;have x5:=zA (i:=5) ho2 rfl;have xl:=lt_of_block ho2;have y0:=zA (i:=0) c.hr rfl;have y1:=zA (i:=1) c.hr rfl;have y2:=zA (i:=2) c.hr rfl;have y3:=zA (i:=3) c.hr rfl;have y4:=zA (i:=4) c.hr rfl;have y5:=zA (i:=5) c.hr rfl;have yf:∀i,N WF (p1+1+1) i:=fun i=>zE c.hr
  have yl:=lt_of_block c.hr;have a0:=Ja (Jb c e0);clear c ho2 e0;go_wp2;refine bodyPost_ret (v:=.agg (D p c8 o aa2 ac2 y u ba2 bc2)) ?_ rfl (a0.out.1.ret a0.out.2 ?_)
  ·rw[zM rfl];go_simp
  ·have m:=HP.out.2.2;have b3:=HP.out.2.1;have b5:=HF.out;have b2:=b7.out;have a1:=c9.out;rw[m] at a1;unfold wR;rw[b3,b5,m,uw (.inr a1) HN.out];exact b2
theorem iE{V:PV}{p:IProg}(hp:ProgIn w w.heap.size V p)(hs:SmallP p)(hq:I64 q0/\I64 q1/\I64 q2)(hw:gn q0=18):
 I 13 #[yH V p,.agg #[U q0,U q1,U q2]] w (pd w (wR p q0 q1 q2)):=by
 obtain⟨fa,fc,d3,i0,h9⟩:=hp.funcs.form;obtain⟨aa,ac,d8,j2,j1⟩:=hp.args.form;obtain⟨da,dc,d6,i8,i2⟩:=hp.data.form;obtain⟨ba,bc,d7,j0,i9⟩:=hp.banks.form;obtain⟨p1,h6⟩:∃p1,w.heap.size=p1:=⟨_,rfl⟩
 have c5:∀W,Y w W->I 18 #[.agg (D p fa fc aa ac da dc ba bc)] W _:=fun W hb=>by
  have h:=uJ ((hp.below hb).mono hb.size) hs;unfold yH at h;rw[d3,d8,d6,d7] at h;exact h
 unfold yH;rw[d3,d8,d6,d7];obtain⟨n,hn⟩:∃n,uS q2=n:=⟨_,rfl⟩
 have h7:q2%65536=(n:Int):=by rw[<-hn];unfold uS;omega
 have k3:n<65536:=Zo;obtain⟨what,f4⟩:∃k,gn q0=k:=⟨_,rfl⟩
 have k2:-20<q0.tmod 20/\q0.tmod 20<20:=⟨by have:=Qu q0 (show(0:Int)<20 by decide);omega,Qv q0 Zd⟩
 have f5:(q0.tmod 20+20)%20=(what:Int):=by
  rw[<-f4];unfold gn;have h1:=Ob q0 (show(20:Int)≠0 by decide);rw[Oa h1];have h2:=Qs q0 20;omega
 have a65:=yt q2;rw[h7] at a65;have a65b:=yt q1;have k5:=hs.fn.1;have g0:Y w (((w.alloc (G (D p fa fc aa ac da dc ba bc) 29)).alloc (G #[U q0,U q1,U q2] 23)).alloc (G #[L,L,U 0,U 0,L,L] 29)):=(((Below.refl _ _).alloc (Je _) _).alloc Zs _).alloc Zt _;have f3:=Ja c5;have g2:=Ja g0;have HP:=Ja (Jb hs (Jb hn f4));clear c5 g0 hp hs d3 d8 d6 d7 i0 h9 j2 j1 i8 i2 j0 i9 hn hq;have h5:=HP.out.2.2.symm.trans hw;subst h5;have c3:(q0.tmod 20+20)%20=18:=f5;clear f5;go_enter Tryz.func13,Tryz.ntmps13;go_upto_region 2 with(go_at_call 18;go_must (refine(f3.out _ g2.out).mono ?_;rintro e w2 ⟨t,c0,u,aa2,ac2,a0,y,ba2,bc2,rfl,hV,ht,hr,hb⟩;have HT:=Ja (Jb hV (Jb ht (Jb hr hb)));clear hV ht hr hb))
 have a4:t.entry=p.entry/\t.handler=p.handler:=by rw[<-HT.out.2.1];exact⟨rfl,rfl⟩
 have a2:(zW t).toArray=D p c0 u aa2 ac2 a0 y ba2 bc2:=by
  unfold zW;rw[HT.out.1.1,HT.out.1.2.1,HT.out.1.2.2.1,HT.out.1.2.2.2,a4.1,a4.2]
 obtain⟨o5,c7⟩:∃o5,w2.heap.size=o5:=⟨_,rfl⟩
 have hm:TuMid w p1 o5 q0 q1 q2 t (w2.alloc (G (zW t).toArray 29)):=TuMid.start h6 c7 HT.out.2.2.1 HT.out.2.2.2;rw[a2] at hm;generalize j3:w2.alloc (G (D p c0 u aa2 ac2 a0 y ba2 bc2) 29)=W3 at *;clear j3;rw[c7];clear c7;have ho:=hm.ho;rw[a2] at ho;have e6:=zA (i:=0) hm.hq rfl;have e5:=zA (i:=1) hm.hq rfl;have e4:=zA (i:=2) hm.hq rfl;have c2:=zA (i:=0) ho rfl;have f2:=zA (i:=1) ho rfl;have e8:=zA (i:=4) ho rfl;have e7:=zA (i:=5) ho rfl;have of:∀i,N W3 o5 i:=fun i=>zE ho
 have f1:=zA (i:=2) ho rfl;have f0:=zA (i:=3) ho rfl;have ol:=lt_of_block ho;have l:=Ja (Jb hm (Jb ho (Jb a2 a4)));have HV:=Ja HT.out.1;have b3:=Ja HT.out.2.1;clear hm ho a2 a4 HT f3 g2;obtain⟨f,hf⟩:∃f,uk p q1=f:=⟨_,rfl⟩
 have HF:=Ja hf;clear hf
 go_upto_if 23 with fail
 go_cut [7,8] (fun s7 s8 wx=>s7=U 18/\s8=U f/\W3=wx)
 case first=>
  have hf:=HF.out;unfold uk at hf
  by_cases b7:0<p.funcs.length
  ·rw[if_pos b7] at hf;have g6:(0:Int)<(p.funcs.length:Int):=Zo
   have f8:(q1%65536)%(p.funcs.length:Int)=(f:Int):=by
    rw[<-hf,Ou,Oa (Ob _ Zd)]
   have h0:0<=q1%65536:=Ob _ Zd;clear hf b7;go_wp2;go_meet;exact⟨by first|rfl|rw[c3],by first|rfl|rw[f8],rfl⟩
  ·rw[if_neg b7] at hf;have g6:¬(0:Int)<(p.funcs.length:Int):=Zo;subst hf;clear b7;go_wp2;go_meet;exact⟨by first|rfl|rw[c3],rfl,rfl⟩
 case rest=>
 obtain⟨rfl,rfl,rfl⟩:=hcut;have a3:t.funcs.length=p.funcs.length:=by rw[<-b3.out];unfold PT.prog;simp
 by_cases b8:0<p.funcs.length
 ·have j4:f<p.funcs.length:=by
   have h:=HF.out;unfold uk at h;rw[if_pos b8] at h;rw[<-h];exact Qj _ b8
  obtain⟨ft,b0⟩:∃ft,t.funcs[f]? =some ft:=⟨_,Jd Zo⟩
  have c4:p.funcs[f]? =some ft.fn:=by
   rw[<-b3.out]
   show(t.funcs.map FT.fn)[f]? =_
   rw[Jr,b0];rfl
  have d4:=kZ l.out.1.rows;rw[HV.out.1,a3] at d4;obtain⟨fb,k7,i1,k0,j5⟩:=d4.form b8;cases i1;have d5:t.fv.ownBlock=some fb:=by rw[HV.out.1];rfl
  obtain⟨cf,ff,g1⟩:=kj l.out.1.rows d5 b0;have d0:W3.ownsRow (p1+1+1+1) 84 5 ft.bv ft.blks.length (ft.blks.flatMap zz):=l.out.1.rows.own (zd ft.bv ft.blks) ((PT.rows_at b0).mem_iff.2 (.head _));obtain⟨ga,gc,c9⟩:=zG d0;rw[c9] at cf;have f8:(f:Int)<(p.funcs.length:Int):=Zo;have g9:(0:Int)<(p.funcs.length:Int):=Zo;have b5:=(HP.out.1.fn.2 ft.fn (Ji c4))
  have b9:ft.fn.length=ft.blks.length:=by unfold FT.fn;simp
  have k1:ft.blks.length<=2000000:=by have:=b5.1.1;omega
  have d:=Ja (Jb b0 (Jb c4 (Jb d5 (Jb c9 (Jb d0 (Jb b5 b9))))));clear b0 c4 d5 c9 d0 d4 b5 b9 a3
  by_cases f9:0<ft.blks.length
  ·have h4:(0:Int)<(ft.blks.length:Int):=Zo;obtain⟨ii,h8,g5,g4,g3⟩:=info_parts Tryz.info_irblock;have c8:ft.bv.ownBlock≠some o5:=zC d.out.2.2.2.2.1 l.out.2.1 (.inr Zd);have b4:ft.bv.ownBlock≠some fb:=fun e=>l.out.1.farF d.out.1 e d.out.2.2.1
   have k4:=l.out.1.ge
   have m:=Ja (show((W3.alloc (G #[L,L,U 5,U 0,L] 84)).drew).ownsRow (p1+1+1+1) 84 5 (.slice ga ft.blks.length gc) ft.blks.length (ft.blks.flatMap zz)/\yM ((W3.alloc (G #[L,L,U 5,U 0,L] 84)).drew) 5 (T W3.heap.size 1 1) 1 [L,L,U 5,U 0,L]/\Q ((W3.alloc (G #[L,L,U 5,U 0,L] 84)).drew) o5 (D p (some ⟨fb,0,none⟩) u aa2 ac2 a0 y ba2 bc2) 29/\A ((W3.alloc (G #[L,L,U 5,U 0,L] 84)).drew) fb f (.slice ga ft.blks.length gc)/\N ((W3.alloc (G #[L,L,U 5,U 0,L] 84)).drew) fb f/\some fb≠(Value.slice ga ft.blks.length gc).ownBlock/\(Value.slice ga ft.blks.length gc).ownBlock≠some o5 from by
    have h1:=d.out.2.2.2.2.1;rw[d.out.2.2.2.1] at h1 c8 b4
    exact⟨h1.alloc _,yM.cells (w:=(W3.alloc (G #[L,L,U 5,U 0,L] 84)).drew) (zI (W:=W3) rfl) rfl (by simp[Value.oneCell']),zB l.out.2.1,(Ok W3 _ _ g1).trans cf,(Below.frozen ((Below.refl W3.heap.size W3).alloc (Je _) _) (p:=⟨fb,f,none⟩) g1).trans ff,fun e=>b4 e.symm,c8⟩)
   clear c8 b4 f9;go_upto_region 23 with fail;refine wp_region_noPanic ?_;refine yQ (S:=(fun w'=>A w' o5 0 (T fb p.funcs.length u)/\A w' fb f (.slice ga ft.blks.length gc))) 15 Zk ⟨c2,cf⟩ (fun hHeld=>?_);refine Tl 0 ?_
   try simp only[Yp]
   refine Tl 1 ?_
   try simp only[Yp]
   refine Tl 2 ?_
   try simp only[Yp]
   refine Tl 3 ?_
   try simp only[Yp]
   refine Tl 4 ?_
   try simp only[Yp]
   refine Tl 5 ?_
   try simp only[Yp]
   refine Tl 6 ?_
   try simp only[Yp]
   refine Tl 7 ?_
   try simp only[Yp]
   refine Tl 8 ?_
   try simp only[Yp]
   refine Tl 9 ?_
   try simp only[Yp]
   refine Tl 10 ?_
   try simp only[Yp]
   refine y7 (rs:=[11]) Zk Zs ?_;refine zS.cons (o:=_) rfl (fun K hK=>?_) ?_
   ·skip
    go_simp;refine hK.out _ _ ⟨zA (i:=0) m.out.2.2.1 rfl,m.out.2.2.2.1⟩ (fun hHeld=>?_);clear hK K
    try simp only[Yp]
    refine y7 (rs:=[12]) Zk Zs ?_;refine zS.cons (o:=_) rfl (fun K hK=>?_) ?_
    ·skip
     (refine yG (by rfl) (.tmp 148) (.tmp 151) _ (by rfl) (p1+1+1+1) 84 ii (.agg #[L,L,U 0,U 0,L]) 5 88 Tryz.underlying37 h8 g5 g4 g3 rfl Zo (.slice ga ft.blks.length gc) (ft.blks.length) (ft.blks.flatMap zz) (by rfl) m.out.1 (T W3.heap.size 1 1) 1 [L,L,U 5,U 0,L] (by rfl) m.out.2.1 (by unfold maxLen;omega) Zo Zt ?_;intro ra rc w9 b6 j d9;have f6:=zL j m.out.2.2.1 m.out.2.2.2.2.2.2;have d1:=zA (i:=0) f6 rfl;have d2:=(j.cell_far ⟨fb,f,none⟩ Zt m.out.2.2.2.2.2.1).trans m.out.2.2.2.1;have df:=(j.frozen_far ⟨fb,f,none⟩ Zt m.out.2.2.2.2.2.1).trans m.out.2.2.2.2.1;have dl:=lt_of_block f6;have HG:=Ja (Jb b6 (Jb j d9));clear b6 j d9;(try dsimp only))
     refine hK.out _ _ ⟨d1,d2⟩ (fun hHeld=>?_);clear hK K
     try simp only[Yp]
     refine y7 (rs:=[13]) Zk Zs ?_;refine zS.cons (o:=_) rfl (fun K hK=>?_) ?_
     ·skip
      go_simp;refine hK.out _ _ Zz (fun hHeld=>?_);clear hK K
      try simp only[Yp]
      refine Tl 14 ?_
      try simp only[Yp]
      refine y7 (rs:=[15]) Zk Zs ?_;refine zS.last (o:=_) rfl (fun K hK=>?_);go_simp;refine hK.out _ _ ?_;clear hK K
      try simp only[Yp]
      refine xj Zk (NoPanic.normal ?_) _;go_upto_region 24 with fail
      have c:=(by
       have f7:=HG.out.2.1;have e9:=d.out.2.2.2.1;rw[<-e9] at f7;refine l.out.1.addB (v':=.slice ra (ft.blks.length+1) rc) d.out.1 d.out.2.2.1 (((Below.refl W3.heap.size W3).alloc (Je _) (G #[L,L,U 5,U 0,L] 84)).drew) f7 HG.out.1 (fun x e=>?_);rcases HG.out.2.2 with e2|e2
       ·left;have e3:=e2.symm.trans e;rw[e9];exact e3
       ·right;have e3:=e2.symm.trans e;simp at e3
        omega)
      generalize b2:w9.setCell ⟨fb,f,none⟩ (.slice ra (ft.blks.length+1) rc)=WF at *;have ho2:=c.ho
      have e0:(zW ({t with funcs:=t.funcs.set f ⟨ft.blks++ [btH],.slice ra (ft.blks.length+1) rc⟩}:PT)).toArray=D p (some ⟨fb,0,none⟩) u aa2 ac2 a0 y ba2 bc2:=by
       unfold zW
       first|(simp only;done)|(simp only[HV.out.1,HV.out.2.1,HV.out.2.2.1,HV.out.2.2.2,l.out.2.2.2.1,l.out.2.2.2.2])
      rw[e0] at ho2;clear b2 e6 e5 e4 c2 f2 f1 f0 e8 e7 of ol;have x0:=zA (i:=0) ho2 rfl;have x1:=zA (i:=1) ho2 rfl;have x2:=zA (i:=2) ho2 rfl;have x3:=zA (i:=3) ho2 rfl;have x4:=zA (i:=4) ho2 rfl;have x5:=zA (i:=5) ho2 rfl;have xl:=lt_of_block ho2;have y0:=zA (i:=0) c.hr rfl;have y1:=zA (i:=1) c.hr rfl;have y2:=zA (i:=2) c.hr rfl;have y3:=zA (i:=3) c.hr rfl;have y4:=zA (i:=4) c.hr rfl;have y5:=zA (i:=5) c.hr rfl;have yf:∀i,N WF (p1+1+1) i:=fun i=>zE c.hr
      have yl:=lt_of_block c.hr;have a1:=Ja (Jb c e0);clear c ho2 e0;go_wp2;refine bodyPost_ret (v:=.agg (D p (some ⟨fb,0,none⟩) u aa2 ac2 a0 y ba2 bc2)) ?_ rfl (a1.out.1.ret a1.out.2 ?_)
      ·rw[zM rfl];go_simp
      ·have a5:=HP.out.2.2;have a7:=HP.out.2.1;have b1:=HF.out;have a6:=b3.out;have k6:=d.out.2.2.2.2.2.2;unfold wR rA;rw[a7,b1,show gn q0=18 from a5]
       have e1:wD p.funcs f (fun g=>if g.length=0 then g else g++ [hltB])=p.funcs.set f (ft.fn++ [hltB]):=by
        rw[xI d.out.2.1,if_neg Zo]
       rw[e1,<-a6];unfold PT.prog;simp only[Ox];unfold FT.fn;rw[Js];rfl
     exact zS.nil
    exact zS.nil
   exact zS.nil
  ·have h4:¬(0:Int)<(ft.blks.length:Int):=Zo
   have HN:=Ja (show ∀g,p.funcs[f]? =some g->g.length=0 from fun g hg=>by
    rw[d.out.2.1] at hg;cases hg;have:=d.out.2.2.2.2.2.2
    omega)
   clear f9;go_upto_region 24 with fail;have c:=l.out.1;generalize b2:W3=WF at *;have ho2:=c.ho
   have e0:(zW t).toArray=D p (some ⟨fb,0,none⟩) u aa2 ac2 a0 y ba2 bc2:=by
    unfold zW
    first|(simp only;done)|(simp only[HV.out.1,HV.out.2.1,HV.out.2.2.1,HV.out.2.2.2,l.out.2.2.2.1,l.out.2.2.2.2])
   rw[e0] at ho2;clear b2 e6 e5 e4 c2 f2 f1 f0 e8 e7 of ol;have x0:=zA (i:=0) ho2 rfl;have x1:=zA (i:=1) ho2 rfl;have x2:=zA (i:=2) ho2 rfl;have x3:=zA (i:=3) ho2 rfl;have x4:=zA (i:=4) ho2 rfl;have x5:=zA (i:=5) ho2 rfl;have xl:=lt_of_block ho2;have y0:=zA (i:=0) c.hr rfl;have y1:=zA (i:=1) c.hr rfl;have y2:=zA (i:=2) c.hr rfl;have y3:=zA (i:=3) c.hr rfl;have y4:=zA (i:=4) c.hr rfl;have y5:=zA (i:=5) c.hr rfl;have yf:∀i,N WF (p1+1+1) i:=fun i=>zE c.hr
   have yl:=lt_of_block c.hr;have a1:=Ja (Jb c e0);clear c ho2 e0;go_wp2;refine bodyPost_ret (v:=.agg (D p (some ⟨fb,0,none⟩) u aa2 ac2 a0 y ba2 bc2)) ?_ rfl (a1.out.1.ret a1.out.2 ?_)
   ·rw[zM rfl];go_simp
   ·have a5:=HP.out.2.2;have a7:=HP.out.2.1;have b1:=HF.out;have a6:=b3.out;unfold wR;rw[a7,b1,show gn q0=18 from a5,uw (.inl rfl) HN.out];exact a6
 ·have g9:¬(0:Int)<(p.funcs.length:Int):=Zo
  have HN:=Ja (show ∀g,p.funcs[f]? =some g->g.length=0 from fun g hg=>by
   have:=(Jh.1 hg).1
   omega)
  clear b8 a3;go_upto_region 24 with fail;have c:=l.out.1;generalize b2:W3=WF at *;have ho2:=c.ho
  have e0:(zW t).toArray=D p c0 u aa2 ac2 a0 y ba2 bc2:=by
   unfold zW
   first|(simp only;done)|(simp only[HV.out.1,HV.out.2.1,HV.out.2.2.1,HV.out.2.2.2,l.out.2.2.2.1,l.out.2.2.2.2])
  rw[e0] at ho2;clear b2 e6 e5 e4 c2 f2 f1 f0 e8 e7 of ol;have x0:=zA (i:=0) ho2 rfl;have x1:=zA (i:=1) ho2 rfl;have x2:=zA (i:=2) ho2 rfl;have x3:=zA (i:=3) ho2 rfl;have x4:=zA (i:=4) ho2 rfl;have x5:=zA (i:=5) ho2 rfl;have xl:=lt_of_block ho2;have y0:=zA (i:=0) c.hr rfl;have y1:=zA (i:=1) c.hr rfl;have y2:=zA (i:=2) c.hr rfl;have y3:=zA (i:=3) c.hr rfl;have y4:=zA (i:=4) c.hr rfl;have y5:=zA (i:=5) c.hr rfl;have yf:∀i,N WF (p1+1+1) i:=fun i=>zE c.hr
  have yl:=lt_of_block c.hr;have a1:=Ja (Jb c e0);clear c ho2 e0;go_wp2;refine bodyPost_ret (v:=.agg (D p c0 u aa2 ac2 a0 y ba2 bc2)) ?_ rfl (a1.out.1.ret a1.out.2 ?_)
  ·rw[zM rfl];go_simp
  ·have a5:=HP.out.2.2;have a7:=HP.out.2.1;have b1:=HF.out;have a6:=b3.out;unfold wR;rw[a7,b1,show gn q0=18 from a5,uw (.inl rfl) HN.out];exact a6
end Go.Proofs.YtoahcpkibpomcaaGreat
set_option maxRecDepth 100000
namespace Go.Proofs.YtoahcpkibpomcaaGreat
open Go.ChangeShapes Go.WideShapes Go.ChangeAt Go.RowKit
variable {w wx:World}{g i j k o5 ob oc p1 what:Nat}{bt:BT}{l:List BT}{rs:List Row}{o o2:IOp}{c:Value}{M:MS}{t:PT}{q0 q1 q2:Int}
theorem kX {z:Int}(h:(Lit.int .i64 z).wf=true):I64 z:=by
 unfold I64
 simpa[Lit.wf,IntKind.min,IntKind.max,IntKind.signed,IntKind.bits] using h
section
variable {H:Type} {enc:TypeId×Value->H} {W:World} {v:Value} {d:DataW H} {p:List MemPlace} {r:Go.Reach} {base:Nat}
theorem jy (hv:Value.okWide Tryz.prog W r base 23 v)(i:DataW.Trod enc Tryz.prog W 0 (fun _=>true) true 23 v d p):∃q0 q1 q2:Int,v=.agg #[.int .i64 q0,.int .i64 q1,.int .i64 q2]/\(I64 q0/\I64 q1/\I64 q2):=by
 have c2:Tryz.prog.cellsOf 23=3:=by kernel_rfl
 have c1:Tryz.prog.cellsOf 3=1:=by kernel_rfl
 simp only[Value.okWide,Tryz.underlying23] at hv;obtain⟨cs,rfl,g,_⟩:=hv;rw[c2] at g;obtain⟨fuel,hf⟩:=i;simp only[Value.cells] at hf;obtain⟨zs,e,hl,h⟩:=acP Tryz.underlying23 Tryz.underlying3 c1 (by simpa using g) hf
 obtain⟨a,b,c,rfl⟩:∃a b c,zs=[a,b,c]:=by
  match zs,hl with
  | [a,b,c],_=>exact⟨a,b,c,rfl⟩
 refine⟨a,b,c,?_,kX (h a Zs),kX (h b Zs),kX (h c Zs)⟩
 have e2:cs=#[.int .i64 a,.int .i64 b,.int .i64 c]:=by
  rw[<-Array.toArray_toList (xs:=cs),e];rfl
 rw[e2]
end
end Go.Proofs.YtoahcpkibpomcaaGreat
