/- Part of a proof. -/
import Derived.Test.YtoahcpkibpomcaaGreatGQStep4v
set_option linter.all false
set_option maxHeartbeats 2000000
set_option maxRecDepth 100000
namespace Go.Proofs.YtoahcpkibpomcaaGreat
open Go.RowKit
variable {w:World}{c d oa ob:Int}{on:Nat}
theorem formed_1{V:PV}{p:IProg}(hp:ProgIn w w.heap.size V p)(ab:Option Addr)(an ac:Nat)(xs:List Int)(a0:xs.length=an)(a7:an<=9223372036854775807):
 G 61 #[yH V p,.agg #[I (1),I d,I oa,I ob,U on,.slice ab an ac]] w (ym w (opF p ⟨1,d,oa,ob,on,xs⟩)):=by
 obtain⟨Vf,Va,Vd,Vb⟩:=V;obtain⟨f1,f2,e1,a3,_⟩:=hp.funcs.form;obtain⟨a1,a2,e2,_,_⟩:=hp.args.form;obtain⟨d1,d2,e3,a4,_⟩:=hp.data.form;obtain⟨b1,b2,e4,_,_⟩:=hp.banks.form;simp only at e1 e2 e3 e4;subst e1 e2 e3 e4;unfold yH;simp only;have a5:p.funcs.length<=9223372036854775807:=Zo;have a6:p.data.length<=9223372036854775807:=Zo;have x:=((Below.refl w.heap.size w).alloc (Je _) (T (R p f1 f2 a1 a2 d1 d2 b1 b2) 29)).alloc Zs (T #[I (1),I d,I oa,I ob,U on,.slice ab an ac] 76);have t:=zB (o:=T #[I (1),I d,I oa,I ob,U on,.slice ab an ac] 76) (zI (W:=w) (o:=T (R p f1 f2 a1 a2 d1 d2 b1 b2) 29) rfl);have q:=zI (W:=w.alloc (T (R p f1 f2 a1 a2 d1 d2 b1 b2) 29)) (o:=T #[I (1),I d,I oa,I ob,U on,.slice ab an ac] 76) (B:=w.heap.size+1) Zs;have l:=Ja (Jb x (Jb t q));obtain⟨res,c⟩:∃r,opF p ⟨1,d,oa,ob,on,xs⟩=r:=⟨_,rfl⟩
 rw[c];unfold opF at c;simp only[show zi 1=⟨true,true,false,false,true⟩ from rfl,a0] at c;have HP:=Ja hp;clear x t q hp a3 a4;go_enter Tryz.func61,Tryz.ntmps61;go_upto_region 2 with(go_at_call 52;go_must (refine(shp_1 _).mono ?_;rintro e w1 ⟨he,k⟩;obtain rfl:e=.returned (.agg #[.bool true,.bool true,.bool false,.bool false,.bool true]):=he))
 have u:=(l.out.1.trans (k.mono l.out.1.size)).alloc (Jn l.out.1.size k.size) (T #[.bool true,.bool true,.bool false,.bool false,.bool true] 120);have j:=zB (o:=(T #[.bool true,.bool true,.bool false,.bool false,.bool true] 120)) (zH k l.out.2.1 (lt_of_block l.out.2.1));have g:=zB (o:=(T #[.bool true,.bool true,.bool false,.bool false,.bool true] 120)) (zH k l.out.2.2 (lt_of_block l.out.2.2));have h:=zI (W:=w1) (o:=(T #[.bool true,.bool true,.bool false,.bool false,.bool true] 120)) rfl;generalize w1.alloc (T #[.bool true,.bool true,.bool false,.bool false,.bool true] 120)=W2 at *;generalize w1.heap.size=bs at *;have p0:=K0 j;have p1:=K1 j;have p4:=K4 j;have o0:=K0 g;have o1:=K1 g;have o2:=K2 g;have o3:=K3 g;have o4:=K4 g;have o5:=K5 g;have s0:=K0 h;have s1:=K1 h;have s2:=K2 h;have s3:=K3 h;have s4:=K4 h;have l0:=lt_of_block j;have l1:=lt_of_block g;have l2:=lt_of_block h;have i:=Ja u;clear u j g h k l
 by_cases h1:0<an
 ·skip
  have hr:res=false:=by rw[<-c];simp;try omega
  subst hr;have i1:(0:Int)<(an:Int):=Zo;clear c h1;go_wp2;go_ret
  first|exact⟨rfl,i.out⟩|exact⟨uz Zt,i.out⟩
 by_cases h2:d<0
 ·skip
  have hr:res=false:=by rw[<-c];simp;try omega
  subst hr;have i1:¬(0:Int)<(an:Int):=Zo;clear c h1;go_wp2;go_ret
  first|exact⟨rfl,i.out⟩|exact⟨uz Zt,i.out⟩
 by_cases h3:ob=0
 rotate_left
 ·skip
  have hr:res=false:=by rw[<-c];simp;try omega
  subst hr;have i1:¬(0:Int)<(an:Int):=Zo;have i3:(ob==0)=false:=Ze;have m:(ob !=0)=true:=by rw[bne_iff_ne];omega
  clear c h1;go_wp2;go_ret
  first|exact⟨rfl,i.out⟩|exact⟨uz Zt,i.out⟩
 by_cases h7:oa=0
 rotate_left
 ·skip
  have hr:res=false:=by rw[<-c];simp;try omega
  subst hr;have i1:¬(0:Int)<(an:Int):=Zo;have i3:(ob==0)=true:=by rw[beq_iff_eq];omega
  have m:(ob !=0)=false:=by rw[bne_eq_false_iff_eq];omega
  have i7:(oa==0)=false:=Ze;have y:(oa !=0)=true:=by rw[bne_iff_ne];omega
  clear c h1 h3;go_wp2;go_ret
  first|exact⟨rfl,i.out⟩|exact⟨uz Zt,i.out⟩
 have hr:res=true:=by rw[<-c];simp;try omega
 subst hr;have i1:¬(0:Int)<(an:Int):=Zo;have i3:(ob==0)=true:=by rw[beq_iff_eq];omega
 have m:(ob !=0)=false:=by rw[bne_eq_false_iff_eq];omega
 have i7:(oa==0)=true:=by rw[beq_iff_eq];omega
 have y:(oa !=0)=false:=by rw[bne_eq_false_iff_eq];omega
 clear c h1 h3 h7;go_wp2;go_ret
 first|exact⟨rfl,i.out⟩|exact⟨uz Zt,i.out⟩
theorem formed_2{V:PV}{p:IProg}(hp:ProgIn w w.heap.size V p)(ab:Option Addr)(an ac:Nat)(xs:List Int)(y:xs.length=an)(a6:an<=9223372036854775807):
 G 61 #[yH V p,.agg #[I (2),I d,I oa,I ob,U on,.slice ab an ac]] w (ym w (opF p ⟨2,d,oa,ob,on,xs⟩)):=by
 obtain⟨Vf,Va,Vd,Vb⟩:=V;obtain⟨f1,f2,e1,a0,_⟩:=hp.funcs.form;obtain⟨a1,a2,e2,_,_⟩:=hp.args.form;obtain⟨d1,d2,e3,a3,_⟩:=hp.data.form;obtain⟨b1,b2,e4,_,_⟩:=hp.banks.form;simp only at e1 e2 e3 e4;subst e1 e2 e3 e4;unfold yH;simp only;have a4:p.funcs.length<=9223372036854775807:=Zo;have a5:p.data.length<=9223372036854775807:=Zo;have x:=((Below.refl w.heap.size w).alloc (Je _) (T (R p f1 f2 a1 a2 d1 d2 b1 b2) 29)).alloc Zs (T #[I (2),I d,I oa,I ob,U on,.slice ab an ac] 76);have t:=zB (o:=T #[I (2),I d,I oa,I ob,U on,.slice ab an ac] 76) (zI (W:=w) (o:=T (R p f1 f2 a1 a2 d1 d2 b1 b2) 29) rfl);have q:=zI (W:=w.alloc (T (R p f1 f2 a1 a2 d1 d2 b1 b2) 29)) (o:=T #[I (2),I d,I oa,I ob,U on,.slice ab an ac] 76) (B:=w.heap.size+1) Zs;have l:=Ja (Jb x (Jb t q));obtain⟨res,c⟩:∃r,opF p ⟨2,d,oa,ob,on,xs⟩=r:=⟨_,rfl⟩
 rw[c];unfold opF at c;simp only[show zi 2=⟨true,true,false,false,true⟩ from rfl,y] at c;have HP:=Ja hp;clear x t q hp a0 a3;go_enter Tryz.func61,Tryz.ntmps61;go_upto_region 2 with(go_at_call 52;go_must (refine(shp_2 _).mono ?_;rintro e w1 ⟨he,k⟩;obtain rfl:e=.returned (.agg #[.bool true,.bool true,.bool false,.bool false,.bool true]):=he))
 have u:=(l.out.1.trans (k.mono l.out.1.size)).alloc (Jn l.out.1.size k.size) (T #[.bool true,.bool true,.bool false,.bool false,.bool true] 120);have j:=zB (o:=(T #[.bool true,.bool true,.bool false,.bool false,.bool true] 120)) (zH k l.out.2.1 (lt_of_block l.out.2.1));have g:=zB (o:=(T #[.bool true,.bool true,.bool false,.bool false,.bool true] 120)) (zH k l.out.2.2 (lt_of_block l.out.2.2));have i:=zI (W:=w1) (o:=(T #[.bool true,.bool true,.bool false,.bool false,.bool true] 120)) rfl;generalize w1.alloc (T #[.bool true,.bool true,.bool false,.bool false,.bool true] 120)=W2 at *;generalize w1.heap.size=bs at *;have p0:=K0 j;have p1:=K1 j;have p4:=K4 j;have o0:=K0 g;have o1:=K1 g;have o2:=K2 g;have o3:=K3 g;have o4:=K4 g;have o5:=K5 g;have s0:=K0 i;have s1:=K1 i;have s2:=K2 i;have s3:=K3 i;have s4:=K4 i;have l0:=lt_of_block j;have l1:=lt_of_block g;have l2:=lt_of_block i;have h:=Ja u;clear u j g i k l
 by_cases h1:0<an
 ·skip
  have hr:res=false:=by rw[<-c];simp;try omega
  subst hr;have i1:(0:Int)<(an:Int):=Zo;clear c h1;go_wp2;go_ret
  first|exact⟨rfl,h.out⟩|exact⟨uz Zt,h.out⟩
 by_cases h2:d<0
 ·skip
  have hr:res=false:=by rw[<-c];simp;try omega
  subst hr;have i1:¬(0:Int)<(an:Int):=Zo;clear c h1;go_wp2;go_ret
  first|exact⟨rfl,h.out⟩|exact⟨uz Zt,h.out⟩
 by_cases h3:ob=0
 rotate_left
 ·skip
  have hr:res=false:=by rw[<-c];simp;try omega
  subst hr;have i1:¬(0:Int)<(an:Int):=Zo;have i3:(ob==0)=false:=Ze;have m:(ob !=0)=true:=by rw[bne_iff_ne];omega
  clear c h1;go_wp2;go_ret
  first|exact⟨rfl,h.out⟩|exact⟨uz Zt,h.out⟩
 by_cases h5:0<=oa
 rotate_left
 ·skip
  have hr:res=false:=by rw[<-c];simp;try omega
  subst hr;have i1:¬(0:Int)<(an:Int):=Zo;have i3:(ob==0)=true:=by rw[beq_iff_eq];omega
  have m:(ob !=0)=false:=by rw[bne_eq_false_iff_eq];omega
  clear c h1 h3;go_wp2;go_ret
  first|exact⟨rfl,h.out⟩|exact⟨uz Zt,h.out⟩
 by_cases h6:oa<p.data.length
 rotate_left
 ·skip
  have hr:res=false:=by rw[<-c];simp;try omega
  subst hr;have i1:¬(0:Int)<(an:Int):=Zo;have i3:(ob==0)=true:=by rw[beq_iff_eq];omega
  have m:(ob !=0)=false:=by rw[bne_eq_false_iff_eq];omega
  clear c h1 h3;go_wp2;go_ret
  first|exact⟨rfl,h.out⟩|exact⟨uz Zt,h.out⟩
 have hr:res=true:=by rw[<-c];simp;try omega
 subst hr;have i1:¬(0:Int)<(an:Int):=Zo;have i3:(ob==0)=true:=by rw[beq_iff_eq];omega
 have m:(ob !=0)=false:=by rw[bne_eq_false_iff_eq];omega
 clear c h1 h3;go_wp2;go_ret
 first|exact⟨rfl,h.out⟩|exact⟨uz Zt,h.out⟩
theorem aP{V:PV}{p:IProg}(hp:ProgIn w w.heap.size V p)(ab:Option Addr)(an ac:Nat)(xs:List Int)(a3:xs.length=an)(a8:an<=9223372036854775807):
 G 61 #[yH V p,.agg #[I (24),I d,I oa,I ob,U on,.slice ab an ac]] w (ym w (opF p ⟨24,d,oa,ob,on,xs⟩)):=by
 obtain⟨Vf,Va,Vd,Vb⟩:=V;obtain⟨f1,f2,e1,a4,_⟩:=hp.funcs.form;obtain⟨a1,a2,e2,_,_⟩:=hp.args.form;obtain⟨d1,d2,e3,a5,_⟩:=hp.data.form;obtain⟨b1,b2,e4,_,_⟩:=hp.banks.form;simp only at e1 e2 e3 e4;subst e1 e2 e3 e4;unfold yH;simp only;have a6:p.funcs.length<=9223372036854775807:=Zo;have a7:p.data.length<=9223372036854775807:=Zo;have y:=((Below.refl w.heap.size w).alloc (Je _) (T (R p f1 f2 a1 a2 d1 d2 b1 b2) 29)).alloc Zs (T #[I (24),I d,I oa,I ob,U on,.slice ab an ac] 76);have u:=zB (o:=T #[I (24),I d,I oa,I ob,U on,.slice ab an ac] 76) (zI (W:=w) (o:=T (R p f1 f2 a1 a2 d1 d2 b1 b2) 29) rfl);have t:=zI (W:=w.alloc (T (R p f1 f2 a1 a2 d1 d2 b1 b2) 29)) (o:=T #[I (24),I d,I oa,I ob,U on,.slice ab an ac] 76) (B:=w.heap.size+1) Zs;have l:=Ja (Jb y (Jb u t));obtain⟨res,c⟩:∃r,opF p ⟨24,d,oa,ob,on,xs⟩=r:=⟨_,rfl⟩
 rw[c];unfold opF at c;simp only[show zi 24=⟨true,true,false,false,true⟩ from rfl,a3] at c;have HP:=Ja hp;clear y u t hp a4 a5;go_enter Tryz.func61,Tryz.ntmps61;go_upto_region 2 with(go_at_call 52;go_must (refine(shp_24 _).mono ?_;rintro e w1 ⟨he,k⟩;obtain rfl:e=.returned (.agg #[.bool true,.bool true,.bool false,.bool false,.bool true]):=he))
 have x:=(l.out.1.trans (k.mono l.out.1.size)).alloc (Jn l.out.1.size k.size) (T #[.bool true,.bool true,.bool false,.bool false,.bool true] 120);have j:=zB (o:=(T #[.bool true,.bool true,.bool false,.bool false,.bool true] 120)) (zH k l.out.2.1 (lt_of_block l.out.2.1));have h:=zB (o:=(T #[.bool true,.bool true,.bool false,.bool false,.bool true] 120)) (zH k l.out.2.2 (lt_of_block l.out.2.2));have i:=zI (W:=w1) (o:=(T #[.bool true,.bool true,.bool false,.bool false,.bool true] 120)) rfl;generalize w1.alloc (T #[.bool true,.bool true,.bool false,.bool false,.bool true] 120)=W2 at *;generalize w1.heap.size=bs at *;have p0:=K0 j;have p1:=K1 j;have p4:=K4 j;have o0:=K0 h;have o1:=K1 h;have o2:=K2 h;have o3:=K3 h;have o4:=K4 h;have o5:=K5 h;have s0:=K0 i;have s1:=K1 i;have s2:=K2 i;have s3:=K3 i;have s4:=K4 i;have l0:=lt_of_block j;have l1:=lt_of_block h;have l2:=lt_of_block i;have g:=Ja x;clear x j h i k l
 by_cases h1:0<an
 ·skip
  have hr:res=false:=by rw[<-c];simp;try omega
  subst hr;have i1:(0:Int)<(an:Int):=Zo;clear c h1;go_wp2;go_ret
  first|exact⟨rfl,g.out⟩|exact⟨uz Zt,g.out⟩
 by_cases h2:d<0
 ·skip
  have hr:res=false:=by rw[<-c];simp;try omega
  subst hr;have i1:¬(0:Int)<(an:Int):=Zo;clear c h1;go_wp2;go_ret
  first|exact⟨rfl,g.out⟩|exact⟨uz Zt,g.out⟩
 by_cases h3:ob=0
 rotate_left
 ·skip
  have hr:res=false:=by rw[<-c];simp;try omega
  subst hr;have i1:¬(0:Int)<(an:Int):=Zo;have i3:(ob==0)=false:=Ze;have m:(ob !=0)=true:=by rw[bne_iff_ne];omega
  clear c h1;go_wp2;go_ret
  first|exact⟨rfl,g.out⟩|exact⟨uz Zt,g.out⟩
 by_cases q:on<1
 ·skip
  have hr:res=false:=by rw[<-c];simp;try omega
  subst hr;have i1:¬(0:Int)<(an:Int):=Zo;have i3:(ob==0)=true:=by rw[beq_iff_eq];omega
  have m:(ob !=0)=false:=by rw[bne_eq_false_iff_eq];omega
  have i5:(on:Int)<1:=Zo;clear c h1 h3 q;go_wp2;go_ret
  first|exact⟨rfl,g.out⟩|exact⟨uz Zt,g.out⟩
 by_cases h6:255<on
 ·skip
  have hr:res=false:=by rw[<-c];simp;try omega
  subst hr;have i1:¬(0:Int)<(an:Int):=Zo;have i3:(ob==0)=true:=by rw[beq_iff_eq];omega
  have m:(ob !=0)=false:=by rw[bne_eq_false_iff_eq];omega
  have i5:¬(on:Int)<1:=Zo;have i6:(255:Int)<(on:Int):=Zo;clear c h1 h3 q h6;go_wp2;go_ret
  first|exact⟨rfl,g.out⟩|exact⟨uz Zt,g.out⟩
 by_cases h7:oa=0
 rotate_left
 ·skip
  have hr:res=false:=by rw[<-c];simp;try omega
  subst hr;have i1:¬(0:Int)<(an:Int):=Zo;have i3:(ob==0)=true:=by rw[beq_iff_eq];omega
  have m:(ob !=0)=false:=by rw[bne_eq_false_iff_eq];omega
  have i5:¬(on:Int)<1:=Zo;have i6:¬(255:Int)<(on:Int):=Zo;have i7:(oa==0)=false:=Ze;have a0:(oa !=0)=true:=by rw[bne_iff_ne];omega
  clear c h1 h3 q h6;go_wp2;go_ret
  first|exact⟨rfl,g.out⟩|exact⟨uz Zt,g.out⟩
 have hr:res=true:=by rw[<-c];simp;try omega
 subst hr;have i1:¬(0:Int)<(an:Int):=Zo;have i3:(ob==0)=true:=by rw[beq_iff_eq];omega
 have m:(ob !=0)=false:=by rw[bne_eq_false_iff_eq];omega
 have i5:¬(on:Int)<1:=Zo;have i6:¬(255:Int)<(on:Int):=Zo;have i7:(oa==0)=true:=by rw[beq_iff_eq];omega
 have a0:(oa !=0)=false:=by rw[bne_eq_false_iff_eq];omega
 clear c h1 h3 q h6 h7;go_wp2;go_ret
 first|exact⟨rfl,g.out⟩|exact⟨uz Zt,g.out⟩
theorem aR{V:PV}{p:IProg}(hp:ProgIn w w.heap.size V p)(ab:Option Addr)(an ac:Nat)(xs:List Int)(a0:xs.length=an)(a7:an<=9223372036854775807):
 G 61 #[yH V p,.agg #[I (25),I c,I oa,I ob,U on,.slice ab an ac]] w (ym w (opF p ⟨25,c,oa,ob,on,xs⟩)):=by
 obtain⟨Vf,Va,Vd,Vb⟩:=V;obtain⟨f1,f2,e1,a3,_⟩:=hp.funcs.form;obtain⟨a1,a2,e2,_,_⟩:=hp.args.form;obtain⟨d1,d2,e3,a4,_⟩:=hp.data.form;obtain⟨b1,b2,e4,_,_⟩:=hp.banks.form;simp only at e1 e2 e3 e4;subst e1 e2 e3 e4;unfold yH;simp only;have a5:p.funcs.length<=9223372036854775807:=Zo;have a6:p.data.length<=9223372036854775807:=Zo;have y:=((Below.refl w.heap.size w).alloc (Je _) (T (R p f1 f2 a1 a2 d1 d2 b1 b2) 29)).alloc Zs (T #[I (25),I c,I oa,I ob,U on,.slice ab an ac] 76);have u:=zB (o:=T #[I (25),I c,I oa,I ob,U on,.slice ab an ac] 76) (zI (W:=w) (o:=T (R p f1 f2 a1 a2 d1 d2 b1 b2) 29) rfl);have t:=zI (W:=w.alloc (T (R p f1 f2 a1 a2 d1 d2 b1 b2) 29)) (o:=T #[I (25),I c,I oa,I ob,U on,.slice ab an ac] 76) (B:=w.heap.size+1) Zs;have l:=Ja (Jb y (Jb u t));obtain⟨res,d⟩:∃r,opF p ⟨25,c,oa,ob,on,xs⟩=r:=⟨_,rfl⟩
 rw[d];unfold opF at d;simp only[show zi 25=⟨true,false,true,false,true⟩ from rfl,a0] at d;have HP:=Ja hp;clear y u t hp a3 a4;go_enter Tryz.func61,Tryz.ntmps61;go_upto_region 2 with(go_at_call 52;go_must (refine(shp_25 _).mono ?_;rintro e w1 ⟨he,k⟩;obtain rfl:e=.returned (.agg #[.bool true,.bool false,.bool true,.bool false,.bool true]):=he))
 have x:=(l.out.1.trans (k.mono l.out.1.size)).alloc (Jn l.out.1.size k.size) (T #[.bool true,.bool false,.bool true,.bool false,.bool true] 120);have j:=zB (o:=(T #[.bool true,.bool false,.bool true,.bool false,.bool true] 120)) (zH k l.out.2.1 (lt_of_block l.out.2.1));have g:=zB (o:=(T #[.bool true,.bool false,.bool true,.bool false,.bool true] 120)) (zH k l.out.2.2 (lt_of_block l.out.2.2));have i:=zI (W:=w1) (o:=(T #[.bool true,.bool false,.bool true,.bool false,.bool true] 120)) rfl;generalize w1.alloc (T #[.bool true,.bool false,.bool true,.bool false,.bool true] 120)=W2 at *;generalize w1.heap.size=bs at *;have p0:=K0 j;have p1:=K1 j;have p4:=K4 j;have o0:=K0 g;have o1:=K1 g;have o2:=K2 g;have o3:=K3 g;have o4:=K4 g;have o5:=K5 g;have s0:=K0 i;have s1:=K1 i;have s2:=K2 i;have s3:=K3 i;have s4:=K4 i;have l0:=lt_of_block j;have l1:=lt_of_block g;have l2:=lt_of_block i;have h:=Ja x;clear x j g i k l
 by_cases h1:0<an
 ·skip
  have hr:res=false:=by rw[<-d];simp;try omega
  subst hr;have i1:(0:Int)<(an:Int):=Zo;clear d h1;go_wp2;go_ret
  first|exact⟨rfl,h.out⟩|exact⟨uz Zt,h.out⟩
 by_cases h2:c=-1
 rotate_left
 ·skip
  have hr:res=false:=by rw[<-d];simp;try omega
  subst hr;have i1:¬(0:Int)<(an:Int):=Zo;have i2:(c==-1)=false:=Ze;have m:(c !=-1)=true:=by rw[bne_iff_ne];omega
  clear d h1;go_wp2;go_ret
  first|exact⟨rfl,h.out⟩|exact⟨uz Zt,h.out⟩
 by_cases h3:ob=0
 rotate_left
 ·skip
  have hr:res=false:=by rw[<-d];simp;try omega
  subst hr;have i1:¬(0:Int)<(an:Int):=Zo;have i2:(c==-1)=true:=by rw[beq_iff_eq];omega
  have m:(c !=-1)=false:=by rw[bne_eq_false_iff_eq];omega
  have i3:(ob==0)=false:=Ze;have q:(ob !=0)=true:=by rw[bne_iff_ne];omega
  clear d h1 h2;go_wp2;go_ret
  first|exact⟨rfl,h.out⟩|exact⟨uz Zt,h.out⟩
 by_cases h5:on<1
 ·skip
  have hr:res=false:=by rw[<-d];simp;try omega
  subst hr;have i1:¬(0:Int)<(an:Int):=Zo;have i2:(c==-1)=true:=by rw[beq_iff_eq];omega
  have m:(c !=-1)=false:=by rw[bne_eq_false_iff_eq];omega
  have i3:(ob==0)=true:=by rw[beq_iff_eq];omega
  have q:(ob !=0)=false:=by rw[bne_eq_false_iff_eq];omega
  have i5:(on:Int)<1:=Zo;clear d h1 h2 h3 h5;go_wp2;go_ret
  first|exact⟨rfl,h.out⟩|exact⟨uz Zt,h.out⟩
 by_cases h6:255<on
 ·skip
  have hr:res=false:=by rw[<-d];simp;try omega
  subst hr;have i1:¬(0:Int)<(an:Int):=Zo;have i2:(c==-1)=true:=by rw[beq_iff_eq];omega
  have m:(c !=-1)=false:=by rw[bne_eq_false_iff_eq];omega
  have i3:(ob==0)=true:=by rw[beq_iff_eq];omega
  have q:(ob !=0)=false:=by rw[bne_eq_false_iff_eq];omega
  have i5:¬(on:Int)<1:=Zo;have i6:(255:Int)<(on:Int):=Zo;clear d h1 h2 h3 h5 h6;go_wp2;go_ret
  first|exact⟨rfl,h.out⟩|exact⟨uz Zt,h.out⟩
 have hr:res=true:=by rw[<-d];simp;try omega
 subst hr;have i1:¬(0:Int)<(an:Int):=Zo;have i2:(c==-1)=true:=by rw[beq_iff_eq];omega
 have m:(c !=-1)=false:=by rw[bne_eq_false_iff_eq];omega
 have i3:(ob==0)=true:=by rw[beq_iff_eq];omega
 have q:(ob !=0)=false:=by rw[bne_eq_false_iff_eq];omega
 have i5:¬(on:Int)<1:=Zo;have i6:¬(255:Int)<(on:Int):=Zo;clear d h1 h2 h3 h5 h6;go_wp2;go_ret
 first|exact⟨rfl,h.out⟩|exact⟨uz Zt,h.out⟩
theorem ah{V:PV}{p:IProg}(hp:ProgIn w w.heap.size V p)(ab:Option Addr)(an ac:Nat)(xs:List Int)(a4:xs.length=an)(a9:an<=9223372036854775807):
 G 61 #[yH V p,.agg #[I (27),I c,I oa,I ob,U on,.slice ab an ac]] w (ym w (opF p ⟨27,c,oa,ob,on,xs⟩)):=by
 obtain⟨Vf,Va,Vd,Vb⟩:=V;obtain⟨f1,f2,e1,a5,_⟩:=hp.funcs.form;obtain⟨a1,a2,e2,_,_⟩:=hp.args.form;obtain⟨d1,d2,e3,a6,_⟩:=hp.data.form;obtain⟨b1,b2,e4,_,_⟩:=hp.banks.form;simp only at e1 e2 e3 e4;subst e1 e2 e3 e4;unfold yH;simp only;have a7:p.funcs.length<=9223372036854775807:=Zo;have a8:p.data.length<=9223372036854775807:=Zo;have a0:=((Below.refl w.heap.size w).alloc (Je _) (T (R p f1 f2 a1 a2 d1 d2 b1 b2) 29)).alloc Zs (T #[I (27),I c,I oa,I ob,U on,.slice ab an ac] 76);have x:=zB (o:=T #[I (27),I c,I oa,I ob,U on,.slice ab an ac] 76) (zI (W:=w) (o:=T (R p f1 f2 a1 a2 d1 d2 b1 b2) 29) rfl);have u:=zI (W:=w.alloc (T (R p f1 f2 a1 a2 d1 d2 b1 b2) 29)) (o:=T #[I (27),I c,I oa,I ob,U on,.slice ab an ac] 76) (B:=w.heap.size+1) Zs;have l:=Ja (Jb a0 (Jb x u));obtain⟨res,d⟩:∃r,opF p ⟨27,c,oa,ob,on,xs⟩=r:=⟨_,rfl⟩
 rw[d];unfold opF at d;simp only[show zi 27=⟨true,false,false,false,false⟩ from rfl,a4] at d;have HP:=Ja hp;clear a0 x u hp a5 a6;go_enter Tryz.func61,Tryz.ntmps61;go_upto_region 2 with(go_at_call 52;go_must (refine(shp_27 _).mono ?_;rintro e w1 ⟨he,k⟩;obtain rfl:e=.returned (.agg #[.bool true,.bool false,.bool false,.bool false,.bool false]):=he))
 have y:=(l.out.1.trans (k.mono l.out.1.size)).alloc (Jn l.out.1.size k.size) (T #[.bool true,.bool false,.bool false,.bool false,.bool false] 120);have j:=zB (o:=(T #[.bool true,.bool false,.bool false,.bool false,.bool false] 120)) (zH k l.out.2.1 (lt_of_block l.out.2.1));have g:=zB (o:=(T #[.bool true,.bool false,.bool false,.bool false,.bool false] 120)) (zH k l.out.2.2 (lt_of_block l.out.2.2));have i:=zI (W:=w1) (o:=(T #[.bool true,.bool false,.bool false,.bool false,.bool false] 120)) rfl;generalize w1.alloc (T #[.bool true,.bool false,.bool false,.bool false,.bool false] 120)=W2 at *;generalize w1.heap.size=bs at *;have p0:=K0 j;have p1:=K1 j;have p4:=K4 j;have o0:=K0 g;have o1:=K1 g;have o2:=K2 g;have o3:=K3 g;have o4:=K4 g;have o5:=K5 g;have s0:=K0 i;have s1:=K1 i;have s2:=K2 i;have s3:=K3 i;have s4:=K4 i;have l0:=lt_of_block j;have l1:=lt_of_block g;have l2:=lt_of_block i;have h:=Ja y;clear y j g i k l
 by_cases h1:0<an
 ·skip
  have hr:res=false:=by rw[<-d];simp;try omega
  subst hr;have i1:(0:Int)<(an:Int):=Zo;clear d h1;go_wp2;go_ret
  first|exact⟨rfl,h.out⟩|exact⟨uz Zt,h.out⟩
 by_cases h2:c=-1
 rotate_left
 ·skip
  have hr:res=false:=by rw[<-d];simp;try omega
  subst hr;have i1:¬(0:Int)<(an:Int):=Zo;have i2:(c==-1)=false:=Ze;have m:(c !=-1)=true:=by rw[bne_iff_ne];omega
  clear d h1;go_wp2;go_ret
  first|exact⟨rfl,h.out⟩|exact⟨uz Zt,h.out⟩
 by_cases h3:ob=0
 rotate_left
 ·skip
  have hr:res=false:=by rw[<-d];simp;try omega
  subst hr;have i1:¬(0:Int)<(an:Int):=Zo;have i2:(c==-1)=true:=by rw[beq_iff_eq];omega
  have m:(c !=-1)=false:=by rw[bne_eq_false_iff_eq];omega
  have i3:(ob==0)=false:=Ze;have q:(ob !=0)=true:=by rw[bne_iff_ne];omega
  clear d h1 h2;go_wp2;go_ret
  first|exact⟨rfl,h.out⟩|exact⟨uz Zt,h.out⟩
 by_cases h4:on=0
 rotate_left
 ·skip
  have hr:res=false:=by rw[<-d];simp;try omega
  subst hr;have i1:¬(0:Int)<(an:Int):=Zo;have i2:(c==-1)=true:=by rw[beq_iff_eq];omega
  have m:(c !=-1)=false:=by rw[bne_eq_false_iff_eq];omega
  have i3:(ob==0)=true:=by rw[beq_iff_eq];omega
  have q:(ob !=0)=false:=by rw[bne_eq_false_iff_eq];omega
  have i4:((on:Int)==0)=false:=Ze;have t:((on:Int) !=0)=true:=by rw[bne_iff_ne];omega
  clear d h1 h2 h3;go_wp2;go_ret
  first|exact⟨rfl,h.out⟩|exact⟨uz Zt,h.out⟩
 by_cases h7:oa=0
 rotate_left
 ·skip
  have hr:res=false:=by rw[<-d];simp;try omega
  subst hr;have i1:¬(0:Int)<(an:Int):=Zo;have i2:(c==-1)=true:=by rw[beq_iff_eq];omega
  have m:(c !=-1)=false:=by rw[bne_eq_false_iff_eq];omega
  have i3:(ob==0)=true:=by rw[beq_iff_eq];omega
  have q:(ob !=0)=false:=by rw[bne_eq_false_iff_eq];omega
  have i4:((on:Int)==0)=true:=by rw[beq_iff_eq];omega
  have t:((on:Int) !=0)=false:=by rw[bne_eq_false_iff_eq];omega
  have i7:(oa==0)=false:=Ze;have a3:(oa !=0)=true:=by rw[bne_iff_ne];omega
  clear d h1 h2 h3 h4;go_wp2;go_ret
  first|exact⟨rfl,h.out⟩|exact⟨uz Zt,h.out⟩
 have hr:res=true:=by rw[<-d];simp;try omega
 subst hr;have i1:¬(0:Int)<(an:Int):=Zo;have i2:(c==-1)=true:=by rw[beq_iff_eq];omega
 have m:(c !=-1)=false:=by rw[bne_eq_false_iff_eq];omega
 have i3:(ob==0)=true:=by rw[beq_iff_eq];omega
 have q:(ob !=0)=false:=by rw[bne_eq_false_iff_eq];omega
 have i4:((on:Int)==0)=true:=by rw[beq_iff_eq];omega
 have t:((on:Int) !=0)=false:=by rw[bne_eq_false_iff_eq];omega
 have i7:(oa==0)=true:=by rw[beq_iff_eq];omega
 have a3:(oa !=0)=false:=by rw[bne_eq_false_iff_eq];omega
 clear d h1 h2 h3 h4 h7;go_wp2;go_ret
 first|exact⟨rfl,h.out⟩|exact⟨uz Zt,h.out⟩
end Go.Proofs.YtoahcpkibpomcaaGreat
