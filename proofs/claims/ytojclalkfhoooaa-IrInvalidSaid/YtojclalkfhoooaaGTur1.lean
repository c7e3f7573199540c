/- Part of a proof. -/
import Derived.Test.YtojclalkfhoooaaSpo6
set_option linter.all false
set_option maxHeartbeats 1000000
set_option maxRecDepth 100000
namespace Go.Proofs.Ytojclalkfhoooaa
open Go.RowKit
variable {w:World}{g i o5 p1 what:Nat}{bt:BT}{l:List BT}{rs:List Row}{q0 q1 q2:Int}{t:PT}
theorem spoil_9{B:Nat}{v:Value}(h:SpSt w B g i v bt l rs){n:Nat}(hn:n<65536)(u:SzB bt):
 Y 45 #[.pointer (some ⟨g,i*5,none⟩),A 9,A n] w (uE w B g i v bt l rs 9 n):=by
 have c:w.ownsRow B 77 6 bt.ov bt.ops.length (bt.ops.flatMap zU):=h.rows.own _ (.tail _ (Jz _ (.tail _ (.head _))));obtain⟨xa,oc,m⟩:=zG c;have d:=z9 zX (h.rows.own _ (.head _)) h.gb h.at';have o:=fun q (hq:q<5)=>(zq Zd zX (h.rows.own _ (.head _)) h.gb h.at' q hq).2
 have c1:G w g (i*5+1) (.slice xa bt.ops.length oc):=by rw[<-m];exact d 1 _ rfl
 have gl:=((h.rows.own _ (.head _)).lt g h.gb).2;have x:=u.ops;have cj:G w g (i*5+2) _:=d 2 _ rfl;have fj:T w g (i*5+2):=o 2 Zd;have k:=Ja h;clear h c m d o u
 by_cases y:0<bt.ops.length
 ·have t:(0:Int)<(bt.ops.length:Int):=Zo;go_enter Try.func45,Try.ntmps45;go_wp2
  first|go_end0|refine bodyPost_ret (results_none rfl _ _ _) rfl ?_
  refine⟨rfl,{bt with kind:=(n:Int)%7 },k.out.setB (j:=2) Zd rfl rfl,rfl,(xJ (a:=⟨g,i*5+2,none⟩) (r:=zd v l) k.out.gb).one (.head _)⟩
 ·have t:¬(0:Int)<(bt.ops.length:Int):=Zo;go_enter Try.func45,Try.ntmps45;go_wp2
  first|go_end0|refine bodyPost_ret (results_none rfl _ _ _) rfl ?_
  refine⟨rfl,{bt with kind:=(n:Int)%7 },k.out.setB (j:=2) Zd rfl rfl,rfl,(xJ (a:=⟨g,i*5+2,none⟩) (r:=zd v l) k.out.gb).one (.head _)⟩
theorem spoil_10{B:Nat}{v:Value}(h:SpSt w B g i v bt l rs){n:Nat}(hn:n<65536)(u:SzB bt):
 Y 45 #[.pointer (some ⟨g,i*5,none⟩),A 10,A n] w (uE w B g i v bt l rs 10 n):=by
 have c:w.ownsRow B 77 6 bt.ov bt.ops.length (bt.ops.flatMap zU):=h.rows.own _ (.tail _ (Jz _ (.tail _ (.head _))));obtain⟨xa,oc,m⟩:=zG c;have d:=z9 zX (h.rows.own _ (.head _)) h.gb h.at';have o:=fun q (hq:q<5)=>(zq Zd zX (h.rows.own _ (.head _)) h.gb h.at' q hq).2
 have c1:G w g (i*5+1) (.slice xa bt.ops.length oc):=by rw[<-m];exact d 1 _ rfl
 have gl:=((h.rows.own _ (.head _)).lt g h.gb).2;have x:=u.ops;have cj:G w g (i*5+3) _:=d 3 _ rfl;have fj:T w g (i*5+3):=o 3 Zd;have k:=Ja h;clear h c m d o u
 by_cases y:0<bt.ops.length
 ·have t:(0:Int)<(bt.ops.length:Int):=Zo;go_enter Try.func45,Try.ntmps45;go_wp2
  first|go_end0|refine bodyPost_ret (results_none rfl _ _ _) rfl ?_
  refine⟨rfl,{bt with a:=(n:Int)%40-2 },k.out.setB (j:=3) Zd rfl rfl,rfl,(xJ (a:=⟨g,i*5+3,none⟩) (r:=zd v l) k.out.gb).one (.head _)⟩
 ·have t:¬(0:Int)<(bt.ops.length:Int):=Zo;go_enter Try.func45,Try.ntmps45;go_wp2
  first|go_end0|refine bodyPost_ret (results_none rfl _ _ _) rfl ?_
  refine⟨rfl,{bt with a:=(n:Int)%40-2 },k.out.setB (j:=3) Zd rfl rfl,rfl,(xJ (a:=⟨g,i*5+3,none⟩) (r:=zd v l) k.out.gb).one (.head _)⟩
theorem spoil_19{B:Nat}{v:Value}(h:SpSt w B g i v bt l rs){n:Nat}(x:n<65536)(m:SzB bt):
 Y 45 #[.pointer (some ⟨g,i*5,none⟩),A 19,A n] w (uE w B g i v bt l rs 19 n):=by
 have c:w.ownsRow B 77 6 bt.ov bt.ops.length (bt.ops.flatMap zU):=h.rows.own _ (.tail _ (Jz _ (.tail _ (.head _))));obtain⟨xa,oc,d⟩:=zG c;have j:=z9 zX (h.rows.own _ (.head _)) h.gb h.at';have o:=fun q (hq:q<5)=>(zq Zd zX (h.rows.own _ (.head _)) h.gb h.at' q hq).2
 have c1:G w g (i*5+1) (.slice xa bt.ops.length oc):=by rw[<-d];exact j 1 _ rfl
 have gl:=((h.rows.own _ (.head _)).lt g h.gb).2;have t:=m.ops;have r:=Ja h;clear h c d j o m
 by_cases u:0<bt.ops.length
 ·have k:(0:Int)<(bt.ops.length:Int):=Zo;go_enter Try.func45,Try.ntmps45;go_wp2
  first|go_end0|refine bodyPost_ret (results_none rfl _ _ _) rfl ?_
  exact wP r.out rfl
 ·have k:¬(0:Int)<(bt.ops.length:Int):=Zo;go_enter Try.func45,Try.ntmps45;go_wp2
  first|go_end0|refine bodyPost_ret (results_none rfl _ _ _) rfl ?_
  exact wP r.out rfl
theorem mB{B:Nat}{v:Value}(h:SpSt w B g i v bt l rs){n:Nat}(hn:n<65536)(o:SzB bt)(u:what<=7)(d:bt.ops.length=0):
 Y 45 #[.pointer (some ⟨g,i*5,none⟩),A what,A n] w (uE w B g i v bt l rs what n):=by
 have c:w.ownsRow B 77 6 bt.ov bt.ops.length (bt.ops.flatMap zU):=h.rows.own _ (.tail _ (Jz _ (.tail _ (.head _))));obtain⟨xa,oc,j⟩:=zG c;have k:=z9 zX (h.rows.own _ (.head _)) h.gb h.at';have r:=fun q (hq:q<5)=>(zq Zd zX (h.rows.own _ (.head _)) h.gb h.at' q hq).2
 have c1:G w g (i*5+1) (.slice xa bt.ops.length oc):=by rw[<-j];exact k 1 _ rfl
 have gl:=((h.rows.own _ (.head _)).lt g h.gb).2;have m:=o.ops;have t:=Ja (Jb h d);rw[d] at c1;have e8:((what:Int)==8)=false:=Ze;have e9:((what:Int)==9)=false:=Ze;have a0:((what:Int)==10)=false:=Ze;have y:((what:Int)==11)=false:=Ze;have x:((what:Int)==12)=false:=Ze;clear h c j k r o d m;go_enter Try.func45,Try.ntmps45;go_wp2
 first|go_end0|refine bodyPost_ret (results_none rfl _ _ _) rfl ?_
 refine wP t.out.1 ?_;unfold xh BT.blk;simp only[Nr];rw[if_pos u,if_pos t.out.2]
theorem spoil_7{B:Nat}{v:Value}(h:SpSt w B g i v bt l rs){n:Nat}(hn:n<65536)(hz:SzB bt)(u:0<bt.ops.length):
 Y 45 #[.pointer (some ⟨g,i*5,none⟩),A 7,A n] w (uE w B g i v bt l rs 7 n):=by
 have d:w.ownsRow B 77 6 bt.ov bt.ops.length (bt.ops.flatMap zU):=h.rows.own _ (.tail _ (Jz _ (.tail _ (.head _))));obtain⟨xa,oc,j⟩:=zG d;have c:=d;rw[j] at c;have a4:=(zm c).1;obtain⟨ob,oc2,a2,a6,a5⟩:=c.form u;cases a2;have a0:bt.ov.ownBlock=some ob:=by rw[j];rfl
 obtain⟨k,m⟩:∃k,n%bt.ops.length=k:=⟨_,rfl⟩
 have hk:k<bt.ops.length:=by rw[<-m];exact Qj _ u
 have b1:(n:Int)%(bt.ops.length:Int)=(k:Int):=by rw[<-m];exact(Ou _ _).symm
 obtain⟨⟨o,av⟩,y⟩:∃x,bt.ops[k]? =some x:=⟨_,Jd hk⟩
 have a1:=z9 zX (h.rows.own _ (.head _)) h.gb h.at';have c1:G w g (i*5+1) (N ob bt.ops.length oc):=by rw[<-j];exact a1 1 _ rfl
 have gl:=((h.rows.own _ (.head _)).lt g h.gb).2;have a3:=z9 z7 d a0 y;have a7:=hz.ops;have f1:T w g (i*5+1):=(zq Zd zX (h.rows.own _ (.head _)) h.gb h.at' 1 Zd).2;have b0:(k:Int)<=(oc:Int):=Zo;have t:=Ja (Jb h (Jb j m));clear h d c j a0 y m a1 a3 hz a4;go_enter Try.func45,Try.ntmps45;go_wp2
 first|go_end0|refine bodyPost_ret (results_none rfl _ _ _) rfl ?_
 refine⟨rfl,_,t.out.1.cutO t.out.2.1 rfl (Qd hk),?_,(xJ (a:=⟨g,i*5+1,none⟩) (r:=zd v l) t.out.1.gb).one (.head _)⟩;unfold xh BT.blk;simp only[Nr];rw[if_pos Zo,if_neg Zo,if_neg Zo,if_pos (by trivial),t.out.2.2,List.map_take]
theorem spoil_8{B:Nat}{v:Value}(h:SpSt w B g i v bt l rs){n:Nat}(hn:n<65536)(hz:SzB bt):
 Y 45 #[.pointer (some ⟨g,i*5,none⟩),A 8,A n] w (uE w B g i v bt l rs 8 n):=by
 have a3:w.ownsRow B 77 6 bt.ov bt.ops.length (bt.ops.flatMap zU):=h.rows.own _ (.tail _ (Jz _ (.tail _ (.head _))));obtain⟨xa,oc,a6⟩:=zG a3;have a5:=z9 zX (h.rows.own _ (.head _)) h.gb h.at';have b1:=fun q (hq:q<5)=>(zq Zd zX (h.rows.own _ (.head _)) h.gb h.at' q hq).2
 have c1:G w g (i*5+1) (.slice xa bt.ops.length oc):=by rw[<-a6];exact a5 1 _ rfl
 have gl:=((h.rows.own _ (.head _)).lt g h.gb).2;have b3:=hz.ops;have a4:w.ownsRow B 3 1 bt.pv bt.params.length (bt.params.map zN):=h.rows.own (zP bt.pv bt.params) (.tail _ (Jz _ (.head _)));obtain⟨pa,pc,t⟩:=zG a4;have c0:G w g (i*5) (.slice pa bt.params.length pc):=by rw[<-t];exact a5 0 _ rfl
 have f0:T w g (i*5):=b1 0 Zd;have b4:=hz.par;have a7:some g≠(Value.slice pa bt.params.length pc).ownBlock:=by rw[<-t];exact fun e=>h.farP e.symm rfl
 have hB:B<=w.heap.size:=by have:=(h.rows.own _ (.head _)).lt g h.gb;omega
 obtain⟨ii,b0,a2,a1,a0⟩:=info_parts Try.info_int;have k:=Ja (Jb h (Jb (show w.ownsRow B 3 1 (.slice pa bt.params.length pc) bt.params.length (bt.params.map zN) by rw[<-t];exact a4) (Jb t a7)));clear h a3 a6 a5 b1 hz a4 t a7
 by_cases b5:0<bt.ops.length
 ·have b2:(0:Int)<(bt.ops.length:Int):=Zo;go_enter Try.func45,Try.ntmps45;go_wp2_with (at_builtin;go_must (refine zK _ rfl (.tmp 163) (.tmp 166) 22 rfl B 3 ii (A 0) 1 8 Try.underlying22 b0 a2 a1 a0 rfl Zd (.slice pa bt.params.length pc) bt.params.length (bt.params.map zN) rfl (k.out.2.1.alloc _) (N w.heap.size 1 1) 1 [A ((n:Int)%40)] rfl (yM.one (zI rfl) rfl) (by unfold maxLen;omega) Zo Zt ?_;intro v9 w9 d c o;obtain⟨ra,rc,rfl⟩:=zG d;have d0:G w9 g (i*5) (.slice pa bt.params.length pc):=(c.cell_far _ Zt k.out.2.2.2).trans ((Ok _ _ _ gl).trans c0);have d1:T w9 g (i*5):=(c.frozen_far _ Zt k.out.2.2.2).trans ((Below.frozen ((Below.refl w.heap.size w).alloc (Je _) _) (p:=⟨g,i*5,none⟩) gl).trans f0);have HG:=Ja (Jb d (Jb c o));clear d c o))
  first|go_end0|refine bodyPost_ret (results_none rfl _ _ _) rfl ?_
  have u:(Value.slice pa bt.params.length pc)=bt.pv:=k.out.2.2.1.symm;have y:=(Below.refl w.heap.size w).alloc (Je _) (U #[A ((n:Int)%40)] 3);have m:=HG.out.2.1;rw[u] at m;refine⟨rfl,{bt with params:=bt.params++ [(n:Int)%40],pv:=.slice ra (bt.params.length+1) rc },k.out.1.growB (j:=0) (r:=zP bt.pv bt.params) (r':=zP (.slice ra (bt.params.length+1) rc) (bt.params++ [(n:Int)%40])) (Uq _) y m ?_ (fun x e=>?_) (Uq _) Zd rfl,rfl,?_⟩
  ·show w9.ownsRow B 3 1 _ (bt.params++ [(n:Int)%40]).length ((bt.params++ [(n:Int)%40]).map zN)
   rw[Jk,Ju,Js];exact HG.out.1
  ·rcases HG.out.2.2 with e2|e2
   ·left;rw[<-e,<-u];exact e2.symm
   ·right;have e3:=e2.symm.trans e;simp at e3;omega
  ·exact((Chg.below y).trans ((uY (r:=zP bt.pv bt.params) m).one (.tail _ (.head _)))).trans ((xJ (a:=⟨g,i*5,none⟩) (r:=zd v l) k.out.1.gb).one (.head _))
 ·have b2:¬(0:Int)<(bt.ops.length:Int):=Zo;go_enter Try.func45,Try.ntmps45;go_wp2_with (at_builtin;go_must (refine zK _ rfl (.tmp 163) (.tmp 166) 22 rfl B 3 ii (A 0) 1 8 Try.underlying22 b0 a2 a1 a0 rfl Zd (.slice pa bt.params.length pc) bt.params.length (bt.params.map zN) rfl (k.out.2.1.alloc _) (N w.heap.size 1 1) 1 [A ((n:Int)%40)] rfl (yM.one (zI rfl) rfl) (by unfold maxLen;omega) Zo Zt ?_;intro v9 w9 d c o;obtain⟨ra,rc,rfl⟩:=zG d;have d0:G w9 g (i*5) (.slice pa bt.params.length pc):=(c.cell_far _ Zt k.out.2.2.2).trans ((Ok _ _ _ gl).trans c0);have d1:T w9 g (i*5):=(c.frozen_far _ Zt k.out.2.2.2).trans ((Below.frozen ((Below.refl w.heap.size w).alloc (Je _) _) (p:=⟨g,i*5,none⟩) gl).trans f0);have HG:=Ja (Jb d (Jb c o));clear d c o))
  first|go_end0|refine bodyPost_ret (results_none rfl _ _ _) rfl ?_
  have u:(Value.slice pa bt.params.length pc)=bt.pv:=k.out.2.2.1.symm;have y:=(Below.refl w.heap.size w).alloc (Je _) (U #[A ((n:Int)%40)] 3);have m:=HG.out.2.1;rw[u] at m;refine⟨rfl,{bt with params:=bt.params++ [(n:Int)%40],pv:=.slice ra (bt.params.length+1) rc },k.out.1.growB (j:=0) (r:=zP bt.pv bt.params) (r':=zP (.slice ra (bt.params.length+1) rc) (bt.params++ [(n:Int)%40])) (Uq _) y m ?_ (fun x e=>?_) (Uq _) Zd rfl,rfl,?_⟩
  ·show w9.ownsRow B 3 1 _ (bt.params++ [(n:Int)%40]).length ((bt.params++ [(n:Int)%40]).map zN)
   rw[Jk,Ju,Js];exact HG.out.1
  ·rcases HG.out.2.2 with e2|e2
   ·left;rw[<-e,<-u];exact e2.symm
   ·right;have e3:=e2.symm.trans e;simp at e3;omega
  ·exact((Chg.below y).trans ((uY (r:=zP bt.pv bt.params) m).one (.tail _ (.head _)))).trans ((xJ (a:=⟨g,i*5,none⟩) (r:=zd v l) k.out.1.gb).one (.head _))
theorem spoil_11{B:Nat}{v:Value}(h:SpSt w B g i v bt l rs){n:Nat}(hn:n<65536)(hz:SzB bt):
 Y 45 #[.pointer (some ⟨g,i*5,none⟩),A 11,A n] w (uE w B g i v bt l rs 11 n):=by
 have u:w.ownsRow B 77 6 bt.ov bt.ops.length (bt.ops.flatMap zU):=h.rows.own _ (.tail _ (Jz _ (.tail _ (.head _))));obtain⟨xa,oc,a4⟩:=zG u;have a3:=z9 zX (h.rows.own _ (.head _)) h.gb h.at';have a6:=fun q (hq:q<5)=>(zq Zd zX (h.rows.own _ (.head _)) h.gb h.at' q hq).2
 have c1:G w g (i*5+1) (.slice xa bt.ops.length oc):=by rw[<-a4];exact a3 1 _ rfl
 have gl:=((h.rows.own _ (.head _)).lt g h.gb).2;have b2:=hz.ops;have c:w.ownsRow B 75 2 bt.tv bt.tos.length (bt.tos.flatMap za):=h.rows.own _ (.tail _ (Jz _ (.tail _ (.tail _ (.head _)))));obtain⟨ya,ec,t⟩:=zG c;have c4:G w g (i*5+4) (.slice ya bt.tos.length ec):=by rw[<-t];exact a3 4 _ rfl
 by_cases a2:0<bt.tos.length
 ·skip
  have m:=c;rw[t] at m;obtain⟨eb,b5,b0,b4,b3⟩:=m.form a2;cases b0;have a1:bt.tv.ownBlock=some eb:=by rw[t];rfl
  obtain⟨⟨o,av⟩,a0⟩:∃x,bt.tos[0]? =some x:=⟨_,Jd a2⟩
  have a5:=z9 yd c a1 a0;have e0:G w eb 0 _:=a5 0 _ rfl;have ef:T w eb 0:=(zq Zd yd c a1 a0 0 Zd).2;have a7:(0:Int)<(bt.tos.length:Int):=Zo;have d:=Ja (Jb h (Jb a1 a0));clear h u a4 a3 a6 hz c m t a1 a0 a5
  by_cases b1:0<bt.ops.length
  ·have y:(0:Int)<(bt.ops.length:Int):=Zo;go_enter Try.func45,Try.ntmps45;go_wp2
   first|go_end0|refine bodyPost_ret (results_none rfl _ _ _) rfl ?_
   refine⟨rfl,_,d.out.1.setE (k:=0) d.out.2.1 d.out.2.2 (j:=0) (o':= {o with block:=(n:Int)%9-1 }) Zd ?_ rfl,?_,(xJ (a:=⟨eb,0,none⟩) (r:=xg bt.tv bt.tos) d.out.2.1).one (rS v l bt)⟩
   ·rfl
   ·unfold xh BT.blk;simp only;rw[if_neg Zo,if_neg Zo,if_neg Zo,if_neg Zo,if_pos (by trivial),xI (x:=o) (by rw[Jr,d.out.2.2];rfl),Ox]
  ·have y:¬(0:Int)<(bt.ops.length:Int):=Zo;go_enter Try.func45,Try.ntmps45;go_wp2
   first|go_end0|refine bodyPost_ret (results_none rfl _ _ _) rfl ?_
   refine⟨rfl,_,d.out.1.setE (k:=0) d.out.2.1 d.out.2.2 (j:=0) (o':= {o with block:=(n:Int)%9-1 }) Zd ?_ rfl,?_,(xJ (a:=⟨eb,0,none⟩) (r:=xg bt.tv bt.tos) d.out.2.1).one (rS v l bt)⟩
   ·rfl
   ·unfold xh BT.blk;simp only;rw[if_neg Zo,if_neg Zo,if_neg Zo,if_neg Zo,if_pos (by trivial),xI (x:=o) (by rw[Jr,d.out.2.2];rfl),Ox]
 ·have a7:¬(0:Int)<(bt.tos.length:Int):=Zo;have d:=Ja (Jb h a2);clear h u a4 a3 a6 hz c t a2
  by_cases b1:0<bt.ops.length
  ·have y:(0:Int)<(bt.ops.length:Int):=Zo;go_enter Try.func45,Try.ntmps45;go_wp2
   first|go_end0|refine bodyPost_ret (results_none rfl _ _ _) rfl ?_
   refine wP d.out.1 ?_;have e:bt.tos=[]:=Nz (by have:=d.out.2;omega);unfold xh BT.blk;rw[e];rfl
  ·have y:¬(0:Int)<(bt.ops.length:Int):=Zo;go_enter Try.func45,Try.ntmps45;go_wp2
   first|go_end0|refine bodyPost_ret (results_none rfl _ _ _) rfl ?_
   refine wP d.out.1 ?_;have e:bt.tos=[]:=Nz (by have:=d.out.2;omega);unfold xh BT.blk;rw[e];rfl
theorem spoil_5{B:Nat}{v:Value}(h:SpSt w B g i v bt l rs){n:Nat}(hn:n<65536)(hz:SzB bt)(b1:0<bt.ops.length):
 Y 45 #[.pointer (some ⟨g,i*5,none⟩),A 5,A n] w (uE w B g i v bt l rs 5 n):=by
 have m:w.ownsRow B 77 6 bt.ov bt.ops.length (bt.ops.flatMap zU):=h.rows.own _ (.tail _ (Jz _ (.tail _ (.head _))));obtain⟨xa,oc,a1⟩:=zG m;have j:=m;rw[a1] at j;have b8:=(zm j).1;obtain⟨ob,oc2,b7,c3,c2⟩:=j.form b1;cases b7;have u:bt.ov.ownBlock=some ob:=by rw[a1];rfl
 obtain⟨k,a2⟩:∃k,n%bt.ops.length=k:=⟨_,rfl⟩
 have hk:k<bt.ops.length:=by rw[<-a2];exact Qj _ b1
 have c9:(n:Int)%(bt.ops.length:Int)=(k:Int):=by rw[<-a2];exact(Ou _ _).symm
 obtain⟨⟨o,av⟩,t⟩:∃x,bt.ops[k]? =some x:=⟨_,Jd hk⟩
 have b2:=z9 zX (h.rows.own _ (.head _)) h.gb h.at';have c1:G w g (i*5+1) (N ob bt.ops.length oc):=by rw[<-a1];exact b2 1 _ rfl
 have gl:=((h.rows.own _ (.head _)).lt g h.gb).2;have b0:=z9 z7 m u t;have c4:=hz.ops;have a7:w.ownsRow B 3 1 av o.args.length (o.args.map zN):=h.rows.own (zP av o.args) (.tail _ (Jz _ (.tail _ (.tail _ (.tail _ (Jz _ (Oj (Ji t))))))));obtain⟨aa,ac,d⟩:=zG a7;have d1:o.args.length<=2000000:=hz.oarg _ (Ji t);have c5:G w ob (k*6+5) (.slice aa o.args.length ac):=by rw[<-d];exact b0 5 _ rfl
 have c0:T w ob (k*6+5):=(zq Zd z7 m u t 5 Zd).2;have a3:ob<w.heap.size:=((h.rows.own _ (.tail _ (Jz _ (.tail _ (.head _))))).lt ob u).2;have s1:∀o,G (w.drew.alloc o) g (i*5+1) (N ob bt.ops.length oc):=fun o=>(Ok w.drew _ _ gl).trans c1
 have s5:∀o,G (w.drew.alloc o) ob (k*6+5) _:=fun o=>(Ok w.drew _ _ a3).trans c5
 have f5:∀o,T (w.drew.alloc o) ob (k*6+5):=fun o=>(Below.frozen ((Below.refl w.heap.size w.drew).alloc (Je _) o) (p:=⟨ob,k*6+5,none⟩) a3).trans c0
 have a4:=fun x (hx:av.ownBlock=some x)=>h.farO t hx
 have hB:B<=w.heap.size:=by have:=(h.rows.own _ (.head _)).lt g h.gb;omega
 have HN:=Ja (show some g≠(Value.slice aa o.args.length ac).ownBlock/\some ob≠(Value.slice aa o.args.length ac).ownBlock by rw[<-d];exact⟨fun e=>(a4 g e.symm).1 rfl,fun e=>(a4 ob e.symm).2 u⟩);have HR:=Ja (show(w.alloc (U #[A ((n:Int)/7%20)] 3)).drew.ownsRow B 3 1 (.slice aa o.args.length ac) o.args.length (o.args.map zN)/\yM (w.alloc (U #[A ((n:Int)/7%20)] 3)).drew 1 (N w.heap.size 1 1) 1 [A ((n:Int)/7%20)] by rw[<-d];exact⟨a7.alloc _,yM.one (w:=(w.alloc (U #[A ((n:Int)/7%20)] 3)).drew) (zI (W:=w) rfl) rfl⟩);have c8:IntKind.i64.wrap ((n:Int)/7)=(n:Int)/7:=Om _ Zo;have c7:((n:Int)/7).tmod 20=(n:Int)/7%20:=Qc Zo;obtain⟨ii,b9,b6,b5,b4⟩:=info_parts Try.info_int;have y:=Ja (Jb h (Jb u (Jb t (Jb d a2))));clear h m j a1 u t a2 b2 b0 hz b8 a7 d a4;go_enter Try.func45,Try.ntmps45;go_wp2;refine wp_region_noPanic ?_;refine yQ (S:=(fun w'=>G w' g (i*5+1) (N ob bt.ops.length oc)/\G w' ob (k*6+5) (.slice aa o.args.length ac))) 20 Zk ⟨c1,c5⟩ (fun hHeld=>?_);refine Tl 0 ?_
 try simp only[Yp]
 refine Tl 1 ?_
 try simp only[Yp]
 refine Tl 2 ?_
 try simp only[Yp]
 refine Tl 3 ?_
 try simp only[Yp]
 refine Tl 4 ?_
 try simp only[Yp]
 refine Tl 5 ?_
 try simp only[Yp]
 refine Tl 6 ?_
 try simp only[Yp]
 refine Tl 7 ?_
 try simp only[Yp]
 refine Tl 8 ?_
 try simp only[Yp]
 refine Tl 9 ?_
 try simp only[Yp]
 refine Tl 10 ?_
 try simp only[Yp]
 refine Tl 11 ?_
 try simp only[Yp]
 refine Tl 12 ?_
 try simp only[Yp]
 refine Tl 13 ?_
 try simp only[Yp]
 refine Tl 14 ?_
 try simp only[Yp]
 refine Tl 15 ?_
 try simp only[Yp]
 refine z8 (rs:=[16]) Zk Zs ?_;refine zS.cons (o:=_) rfl (fun K hK=>?_) ?_
 ·skip
  go_simp;refine hK.out _ _ ⟨s1 _,s5 _⟩ (fun hHeld=>?_);clear hK K
  try simp only[Yp]
  refine z8 (rs:=[17]) Zk Zs ?_;refine zS.cons (o:=_) rfl (fun K hK=>?_) ?_
  ·skip
   (refine yG (by rfl) (.tmp 100) (.tmp 104) _ (by rfl) B 3 ii (A 0) 1 8 Try.underlying22 b9 b6 b5 b4 rfl Zo (.slice aa o.args.length ac) o.args.length (o.args.map zN) (by rfl) HR.out.1 (N w.heap.size 1 1) 1 [A ((n:Int)/7%20)] (by rfl) HR.out.2 (by unfold maxLen;omega) Zo Zt ?_;intro ra rc w9 a0 c a6;have d0:T w9 ob (k*6+5):=(c.frozen_far _ Zt HN.out.2).trans (f5 _);(try dsimp only))
   refine hK.out _ _ ⟨(c.cell_far _ Zt HN.out.1).trans (s1 _),(c.cell_far _ Zt HN.out.2).trans (s5 _)⟩ (fun hHeld=>?_);clear hK K
   try simp only[Yp]
   refine z8 (rs:=[18]) Zk Zs ?_;refine zS.cons (o:=_) rfl (fun K hK=>?_) ?_
   ·skip
    go_simp;refine hK.out _ _ Zz (fun hHeld=>?_);clear hK K
    try simp only[Yp]
    refine Tl 19 ?_
    try simp only[Yp]
    refine z8 (rs:=[20]) Zk Zs ?_;refine zS.last (o:=_) rfl (fun K hK=>?_);go_simp;refine hK.out _ _ ?_;clear hK K
    try simp only[Yp]
    refine xj Zk (NoPanic.normal ?_) _;have HG:=Ja (Jb a0 (Jb c a6));clear a0 c a6;go_wp2
    first|go_end0|refine bodyPost_ret (results_none rfl _ _ _) rfl ?_
    have b3:F w (w.drew.alloc (U #[A ((n:Int)/7%20)] 3)):=((Below.refl w.heap.size w).drew).alloc Zs _;have d:=y.out.2.2.2.1;have a5:=HG.out.2.1;rw[<-d] at a5;refine⟨rfl,_,y.out.1.growO (w1:=w.drew.alloc (U #[A ((n:Int)/7%20)] 3)) (x:=(n:Int)/7%20) y.out.2.1 y.out.2.2.1 b3 a5 HG.out.1 (fun x e=>?_),?_,?_⟩
    ·rcases HG.out.2.2 with e2|e2
     ·left;rw[<-e,d];exact e2.symm
     ·right;have e3:=e2.symm.trans e;simp at e3;omega
    ·show({bt with ops:=bt.ops.set k (spO 5 n o,_)}:BT).blk=_
     have e:=ws (what:=5) (av:=av) Zd y.out.2.2.1 y.out.2.2.2.2;rw[<-e];unfold BT.blk;simp only[Ox]
    ·have hm:zP av o.args∈zd v l::bt.rows:=.tail _ (.tail _ (.tail _ (.tail _ (Jz _ (Oj (Ji y.out.2.2.1))))));exact((Chg.below b3).trans ((uY (r:=zP av o.args) a5).one hm)).trans ((xJ (a:=⟨ob,k*6+5,none⟩) (r:=yo bt.ov bt.ops) y.out.2.1).one (wZ v l bt))
   exact zS.nil
  exact zS.nil
 exact zS.nil
theorem iF{B:Nat}{v:Value}(h:SpSt w B g i v bt l rs){n:Nat}(d:n<65536)(c:SzB bt)(hw:what<=12∨what=19):
 Y 45 #[.pointer (some ⟨g,i*5,none⟩),A what,A n] w (uE w B g i v bt l rs what n):=by
 rcases hw with hw|rfl
 ·by_cases m:what<=7
  ·by_cases j:0<bt.ops.length
   ·match what,m with
    |0,_=>exact spoil_0 h d c j
    |1,_=>exact spoil_1 h d c j
    |2,_=>exact spoil_2 h d c j
    |3,_=>exact spoil_3 h d c j
    |4,_=>exact spoil_4 h d c j
    |5,_=>exact spoil_5 h d c j
    |6,_=>exact spoil_6 h d c j
    |7,_=>exact spoil_7 h d c j
   ·exact mB h d c m Zo
  ·match what,hw,m with
   |8,_,_=>exact spoil_8 h d c
   |9,_,_=>exact spoil_9 h d c
   |10,_,_=>exact spoil_10 h d c
   |11,_,_=>exact spoil_11 h d c
   |12,_,_=>exact spoil_12 h d c
   |0,_,h|1,_,h|2,_,h|3,_,h|4,_,h|5,_,h|6,_,h|7,_,h=>exact absurd Zd h
   |k+13,h,_=>exact absurd h Zo
 ·exact spoil_19 h d c
def pd (w:World)(p:IProg)(e:Ending)(w':World):Prop:=∃t:PT,e=.returned (yH t.V t.prog)/\t.prog=p/\Rows w' w.heap.size t.rows/\F w w'
theorem TuMid.ret{wx:World}(h:TuMid w p1 o5 q0 q1 q2 t wx){v0 v1 v2 v3 v4 v5:Value}(d:(zW t).toArray=#[v0,v1,v2,v3,v4,v5]){p:IProg}(hp:t.prog=p):
 pd w p (.returned (.agg #[v0,v1,v2,v3,v4,v5])) ((((((wx.setCell ⟨p1+1+1,0,none⟩ v0).setCell ⟨p1+1+1,1,none⟩ v1).setCell ⟨p1+1+1,2,none⟩ v2).setCell ⟨p1+1+1,3,none⟩ v3).setCell ⟨p1+1+1,4,none⟩ v4).setCell ⟨p1+1+1,5,none⟩ v5):=by
 have e:zW t=[v0,v1,v2,v3,v4,v5]:=congrArg Array.toList d;unfold zW at e;simp only[List.cons.injEq,and_true] at e;obtain⟨rfl,rfl,rfl,rfl,rfl,rfl⟩:=e;refine⟨t,rfl,hp,?_,?_⟩
 ·have hb:=h.base;refine(h.rows.base (show w.heap.size<=p1+1+1+1 by omega)).keep fun k hk=>?_
  have c:k≠p1+1+1:=fun e=>by have:=(h.rows.lt hk).1;omega
  exact(Below.heap_setCell _ _ _ _ c).trans ((Below.heap_setCell _ _ _ _ c).trans ((Below.heap_setCell _ _ _ _ c).trans ((Below.heap_setCell _ _ _ _ c).trans ((Below.heap_setCell _ _ _ _ c).trans (Below.heap_setCell _ _ _ _ c)))))
 ·have hb:=h.bel;rw[h.base] at hb ⊢;exact(((((hb.setCell (by show w.heap.size<=w.heap.size+1+1;omega) _).setCell (by show w.heap.size<=w.heap.size+1+1;omega) _).setCell (by show w.heap.size<=w.heap.size+1+1;omega) _).setCell (by show w.heap.size<=w.heap.size+1+1;omega) _).setCell (by show w.heap.size<=w.heap.size+1+1;omega) _).setCell (by show w.heap.size<=w.heap.size+1+1;omega) _
theorem TuMid.start{w2:World}{o:Obj}(d:w.heap.size=p1)(g:w2.heap.size=o5)
 (hr:Rows w2 (((w.alloc o).alloc (U #[A q0,A q1,A q2] 23)).alloc (U #[O,O,A 0,A 0,O,O] 29)).heap.size t.rows)
 (hb:F (((w.alloc o).alloc (U #[A q0,A q1,A q2] 23)).alloc (U #[O,O,A 0,A 0,O,O] 29)) w2):
 TuMid w p1 o5 q0 q1 q2 t (w2.alloc (U (zW t).toArray 29)):=by
 subst d g;have hs:(((w.alloc o).alloc (U #[A q0,A q1,A q2] 23)).alloc (U #[O,O,A 0,A 0,O,O] 29)).heap.size=w.heap.size+1+1+1:=by simp
 have h1:=zB (o:=U #[O,O,A 0,A 0,O,O] 29) (zI (W:=w.alloc o) (o:=U #[A q0,A q1,A q2] 23) (B:=w.heap.size+1) Zs);have h2:=zI (W:=(w.alloc o).alloc (U #[A q0,A q1,A q2] 23)) (o:=U #[O,O,A 0,A 0,O,O] 29) (B:=w.heap.size+1+1) Zs;have h3:F w (((w.alloc o).alloc (U #[A q0,A q1,A q2] 23)).alloc (U #[O,O,A 0,A 0,O,O] 29)):=(((Below.refl _ _).alloc (Je _) _).alloc Zs _).alloc Zt _;have c:=hb.size;rw[hs] at hr hb c;refine⟨zB (zH hb h1 Zo),zB (zH hb h2 Zo),zI rfl,?_,rfl,?_,by omega⟩
 ·exact(h3.trans (hb.mono Zo)).alloc Zo _
 ·exact hr.below ((Below.refl _ _).alloc (Je _) _)
theorem turn_idx (r:Nat)(h:r<4)(w:World):(Instr.index 98 (.agg #[A 16392,A 24575,A 512,A 16896]) (A r)).run Try.prog w=.ok (A (lY r:Nat)) w:=by
 rcases(show r=0∨r=1∨r=2∨r=3 by omega) with rfl|rfl|rfl|rfl
 ·kernel_rfl
 ·kernel_rfl
 ·kernel_rfl
 ·kernel_rfl
def tq (t:PT):List Row:=wY t.fv t.funcs::vK t.dv t.data::v8 t.bv t.banks::t.funcs.flatMap FT.rows
def sC (t:PT):List Row:=wY t.fv t.funcs::zP t.av t.args::v8 t.bv t.banks::t.funcs.flatMap FT.rows
def uy (t:PT):List Row:=wY t.fv t.funcs::zP t.av t.args::vK t.dv t.data::t.funcs.flatMap FT.rows
theorem row_args (t:PT):zP t.av t.args∈t.rows/\True:=⟨.tail _ (.head _),trivial⟩
theorem row_data (t:PT):vK t.dv t.data∈t.rows/\True:=⟨.tail _ (.tail _ (.head _)),trivial⟩
theorem jI (t:PT):v8 t.bv t.banks∈t.rows/\True:=⟨.tail _ (.tail _ (.tail _ (.head _))),trivial⟩
theorem abG (t:PT):True/\t.rows.Perm (zP t.av t.args::tq t):=⟨trivial,by
 classical
 unfold PT.rows tq;refine Jp.2 fun y=>?_
 simp only[Nb,Nf]
 omega⟩
theorem abI (t:PT):True/\t.rows.Perm (vK t.dv t.data::sC t):=⟨trivial,by
 classical
 unfold PT.rows sC;refine Jp.2 fun y=>?_
 simp only[Nb,Nf]
 omega⟩
theorem tL (t:PT):True/\t.rows.Perm (v8 t.bv t.banks::uy t):=⟨trivial,by
 classical
 unfold PT.rows uy;refine Jp.2 fun y=>?_
 simp only[Nb,Nf]
 omega⟩
theorem qU (t:PT)(x:List Int)(v:Value):({t with args:=x,av:=v }:PT).rows.Perm (zP v x::tq t):=(abG {t with args:=x,av:=v }).2
theorem qS (t:PT)(x:List IObj)(v:Value):({t with data:=x,dv:=v }:PT).rows.Perm (vK v x::sC t):=(abI {t with data:=x,dv:=v }).2
theorem qE (t:PT)(x:List ByteArray)(v:Value):({t with banks:=x,bv:=v }:PT).rows.Perm (v8 v x::uy t):=(tL {t with banks:=x,bv:=v }).2
end Go.Proofs.Ytojclalkfhoooaa
