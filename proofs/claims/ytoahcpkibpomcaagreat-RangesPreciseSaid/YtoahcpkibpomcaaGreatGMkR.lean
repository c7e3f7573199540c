/- Part of a proof. -/
import Derived.Test.YtoahcpkibpomcaaGreatGZl1
set_option linter.all false
set_option maxHeartbeats 4000000
set_option maxRecDepth 100000
namespace Go.Proofs.YtoahcpkibpomcaaGreat
open Go.RowKit
variable {M M0:MS}{w w0:World}{K:MKC}{X X0:Nat->Prop}{c d:Nat}
theorem mkOp_0{E:ME}(h:tkV E M 14=0):xK E M=M.tick.tick.num (tkV E M.tick 65536):=by
 unfold xK;simp only[h];rfl
theorem op_0(h:wW w K X M)(c:M.cur<M.f.length)(k:M.sz+20<=1000000)(hk:tkV K.E M 14=0):
 A 111 #[Q K.pm] w (yk K X w (xK K.E M) (.tuple #[])):=by
 have o:=Ja h.alt;have j:=Ja (OpSt.start h c);have d:=Ja (Jb k hk);clear h c k hk;go_enter Tryz.func111,Tryz.ntmps111
 go_wp2_with (first
  |(go_at_call 55;refine(j.out.takeK 14 0 0 rfl d.out.2 Zd Zd (by have:=d.out.1;omega)).mono ?_;clear j;rintro e w1 ⟨rfl,i⟩)
  |(go_at_call 55;refine(i.out.take 65536 Zd Zd (by have:=d.out.1;omega)).mono ?_;clear i;rintro e w2 ⟨z,qz,m,rfl,g⟩)
  |(go_at_call 114;refine(g.out.num z Zo (by have:=d.out.1;omega)).mono ?_;clear g;rintro e w3 ⟨rfl,l⟩))
 first|go_end0|refine bodyPost_ret (results_none rfl _ _ _) rfl ?_
 rw[mkOp_0 d.out.2]
 try rw[m.out]
 exact l.out.ret
theorem mkOp_1{E:ME}(h:tkV E M 14=1):xK E M=(zJ E M.tick.tick).2.emit ⟨3+tkV E M.tick 2,0,(zJ E M.tick.tick).1,0,0,[]⟩:=by
 unfold xK;simp only[h];rfl
theorem op_1(h:wW w K X M)(d:M.cur<M.f.length)(l:M.sz+20<=1000000)(hk:tkV K.E M 14=1):
 A 111 #[Q K.pm] w (yk K X w (xK K.E M) (.tuple #[])):=by
 have t:=Ja h.alt;have k:=Ja (OpSt.start h d);have c:=Ja (Jb l hk);clear h d l hk;go_enter Tryz.func111,Tryz.ntmps111
 go_wp2_with (first
  |(go_at_call 55;refine(k.out.takeK 14 1 1 rfl c.out.2 Zd Zd (by have:=c.out.1;omega)).mono ?_;clear k;rintro e w1 ⟨rfl,j⟩)
  |(go_at_call 55;refine(j.out.take 2 Zd Zd (by have:=c.out.1;omega)).mono ?_;clear j;rintro e w2 ⟨z,qz,q,rfl,i⟩)
  |(go_at_call 58;refine(i.out.any (by have:=c.out.1;omega)).mono ?_;clear i;rintro e w3 ⟨x,o,rfl,g⟩)
  |(go_at_call 132;refine(g.out.emit (3+(z:Int)) x 0 0 (vG _ Zo Zo) (o.out.1) (yF _ rfl) Zd (by have:=c.out.1;omega)).mono ?_;clear g;rintro e w4 ⟨rfl,m⟩))
 first|go_end0|refine bodyPost_ret (results_none rfl _ _ _) rfl ?_
 rw[mkOp_1 c.out.2]
 try rw[q.out]
 try rw[o.out.2]
 exact m.out.ret
theorem mkOp_2{E:ME}(h:tkV E M 14=2):xK E M=(yJ E M.tick).2.tick.emit ⟨18+tkV E (yJ E M.tick).2 2,0,(yJ E M.tick).1,0,0,[]⟩:=by
 unfold xK;simp only[h];rfl
theorem op_2(h:wW w K X M)(d:M.cur<M.f.length)(l:M.sz+20<=1000000)(hk:tkV K.E M 14=2):
 A 111 #[Q K.pm] w (yk K X w (xK K.E M) (.tuple #[])):=by
 have t:=Ja h.alt;have k:=Ja (OpSt.start h d);have c:=Ja (Jb l hk);clear h d l hk;go_enter Tryz.func111,Tryz.ntmps111
 go_wp2_with (first
  |(go_at_call 55;refine(k.out.takeK 14 2 2 rfl c.out.2 Zd Zd (by have:=c.out.1;omega)).mono ?_;clear k;rintro e w1 ⟨rfl,j⟩)
  |(go_at_call 133;refine(j.out.addr (by have:=c.out.1;omega)).mono ?_;clear j;rintro e w2 ⟨x,o,rfl,i⟩)
  |(go_at_call 55;refine(i.out.take 2 Zd Zd (by have:=c.out.1;omega)).mono ?_;clear i;rintro e w3 ⟨z,qz,q,rfl,g⟩)
  |(go_at_call 132;refine(g.out.emit (18+(z:Int)) x 0 0 (vG _ Zo Zo) (o.out.1) (yF _ rfl) Zd (by have:=c.out.1;omega)).mono ?_;clear g;rintro e w4 ⟨rfl,m⟩))
 first|go_end0|refine bodyPost_ret (results_none rfl _ _ _) rfl ?_
 rw[mkOp_2 c.out.2]
 try rw[o.out.2]
 try rw[q.out]
 exact m.out.ret
theorem mkOp_3{E:ME}(h:tkV E M 14=3):xK E M=(yJ E M.tick).2.tick.emit ⟨18+tkV E (yJ E M.tick).2 2,0,(yJ E M.tick).1,0,0,[]⟩:=by
 unfold xK;simp only[h];rfl
theorem op_3(h:wW w K X M)(d:M.cur<M.f.length)(l:M.sz+20<=1000000)(hk:tkV K.E M 14=3):
 A 111 #[Q K.pm] w (yk K X w (xK K.E M) (.tuple #[])):=by
 have t:=Ja h.alt;have k:=Ja (OpSt.start h d);have c:=Ja (Jb l hk);clear h d l hk;go_enter Tryz.func111,Tryz.ntmps111
 go_wp2_with (first
  |(go_at_call 55;refine(k.out.takeK 14 3 3 rfl c.out.2 Zd Zd (by have:=c.out.1;omega)).mono ?_;clear k;rintro e w1 ⟨rfl,j⟩)
  |(go_at_call 133;refine(j.out.addr (by have:=c.out.1;omega)).mono ?_;clear j;rintro e w2 ⟨x,o,rfl,i⟩)
  |(go_at_call 55;refine(i.out.take 2 Zd Zd (by have:=c.out.1;omega)).mono ?_;clear i;rintro e w3 ⟨z,qz,q,rfl,g⟩)
  |(go_at_call 132;refine(g.out.emit (18+(z:Int)) x 0 0 (vG _ Zo Zo) (o.out.1) (yF _ rfl) Zd (by have:=c.out.1;omega)).mono ?_;clear g;rintro e w4 ⟨rfl,m⟩))
 first|go_end0|refine bodyPost_ret (results_none rfl _ _ _) rfl ?_
 rw[mkOp_3 c.out.2]
 try rw[o.out.2]
 try rw[q.out]
 exact m.out.ret
theorem mkOp_4{E:ME}(h:tkV E M 14=4):xK E M=(zJ E (yJ E M.tick).2).2.tick.emit ⟨20+tkV E (zJ E (yJ E M.tick).2).2 2,0,(yJ E M.tick).1,(zJ E (yJ E M.tick).2).1,0,[]⟩:=by
 unfold xK;simp only[h];rfl
theorem op_4(h:wW w K X M)(d:M.cur<M.f.length)(m:M.sz+20<=1000000)(hk:tkV K.E M 14=4):
 A 111 #[Q K.pm] w (yk K X w (xK K.E M) (.tuple #[])):=by
 have HE:=Ja h.alt;have l:=Ja (OpSt.start h d);have c:=Ja (Jb m hk);clear h d m hk;go_enter Tryz.func111,Tryz.ntmps111
 go_wp2_with (first
  |(go_at_call 55;refine(l.out.takeK 14 4 4 rfl c.out.2 Zd Zd (by have:=c.out.1;omega)).mono ?_;clear l;rintro e w1 ⟨rfl,k⟩)
  |(go_at_call 133;refine(k.out.addr (by have:=c.out.1;omega)).mono ?_;clear k;rintro e w2 ⟨x,t,rfl,j⟩)
  |(go_at_call 58;refine(j.out.any (by have:=c.out.1;omega)).mono ?_;clear j;rintro e w3 ⟨y,q,rfl,i⟩)
  |(go_at_call 55;refine(i.out.take 2 Zd Zd (by have:=c.out.1;omega)).mono ?_;clear i;rintro e w4 ⟨z,qz,u,rfl,g⟩)
  |(go_at_call 132;refine(g.out.emit (20+(z:Int)) x y 0 (vG _ Zo Zo) (t.out.1) (q.out.1) Zd (by have:=c.out.1;omega)).mono ?_;clear g;rintro e w5 ⟨rfl,o⟩))
 first|go_end0|refine bodyPost_ret (results_none rfl _ _ _) rfl ?_
 rw[mkOp_4 c.out.2]
 try rw[t.out.2]
 try rw[q.out.2]
 try rw[u.out]
 exact o.out.ret
theorem mkOp_5{E:ME}(h:tkV E M 14=5):xK E M=(zJ E (yJ E M.tick).2).2.tick.emit ⟨20+tkV E (zJ E (yJ E M.tick).2).2 2,0,(yJ E M.tick).1,(zJ E (yJ E M.tick).2).1,0,[]⟩:=by
 unfold xK;simp only[h];rfl
theorem op_5(h:wW w K X M)(d:M.cur<M.f.length)(m:M.sz+20<=1000000)(hk:tkV K.E M 14=5):
 A 111 #[Q K.pm] w (yk K X w (xK K.E M) (.tuple #[])):=by
 have HE:=Ja h.alt;have l:=Ja (OpSt.start h d);have c:=Ja (Jb m hk);clear h d m hk;go_enter Tryz.func111,Tryz.ntmps111
 go_wp2_with (first
  |(go_at_call 55;refine(l.out.takeK 14 5 5 rfl c.out.2 Zd Zd (by have:=c.out.1;omega)).mono ?_;clear l;rintro e w1 ⟨rfl,k⟩)
  |(go_at_call 133;refine(k.out.addr (by have:=c.out.1;omega)).mono ?_;clear k;rintro e w2 ⟨x,t,rfl,j⟩)
  |(go_at_call 58;refine(j.out.any (by have:=c.out.1;omega)).mono ?_;clear j;rintro e w3 ⟨y,q,rfl,i⟩)
  |(go_at_call 55;refine(i.out.take 2 Zd Zd (by have:=c.out.1;omega)).mono ?_;clear i;rintro e w4 ⟨z,qz,u,rfl,g⟩)
  |(go_at_call 132;refine(g.out.emit (20+(z:Int)) x y 0 (vG _ Zo Zo) (t.out.1) (q.out.1) Zd (by have:=c.out.1;omega)).mono ?_;clear g;rintro e w5 ⟨rfl,o⟩))
 first|go_end0|refine bodyPost_ret (results_none rfl _ _ _) rfl ?_
 rw[mkOp_5 c.out.2]
 try rw[t.out.2]
 try rw[q.out.2]
 try rw[u.out]
 exact o.out.ret
theorem mkOp_6{E:ME}(h:tkV E M 14=6):xK E M=M.tick.tick.emit ⟨24,0,0,0,1+tkV E M.tick 3,[]⟩:=by
 unfold xK;simp only[h];rfl
theorem op_6(h:wW w K X M)(c:M.cur<M.f.length)(k:M.sz+20<=1000000)(hk:tkV K.E M 14=6):
 A 111 #[Q K.pm] w (yk K X w (xK K.E M) (.tuple #[])):=by
 have o:=Ja h.alt;have j:=Ja (OpSt.start h c);have d:=Ja (Jb k hk);clear h c k hk;go_enter Tryz.func111,Tryz.ntmps111
 go_wp2_with (first
  |(go_at_call 55;refine(j.out.takeK 14 6 6 rfl d.out.2 Zd Zd (by have:=d.out.1;omega)).mono ?_;clear j;rintro e w1 ⟨rfl,i⟩)
  |(go_at_call 55;refine(i.out.take 3 Zd Zd (by have:=d.out.1;omega)).mono ?_;clear i;rintro e w2 ⟨z,qz,m,rfl,g⟩)
  |(go_at_call 132;refine(g.out.emit 24 0 0 (1+z) (yF _ rfl) (yF _ rfl) (yF _ rfl) Zo (by have:=d.out.1;omega)).mono ?_;clear g;rintro e w3 ⟨rfl,l⟩))
 first|go_end0|refine bodyPost_ret (results_none rfl _ _ _) rfl ?_
 rw[mkOp_6 d.out.2]
 try rw[m.out]
 exact l.out.ret
theorem mkOp_7{E:ME}(h:tkV E M 14=7):xK E M=(zJ E M.tick).2.tick.emit ⟨25,0,(zJ E M.tick).1,0,1+tkV E (zJ E M.tick).2 3,[]⟩:=by
 unfold xK;simp only[h];rfl
theorem op_7(h:wW w K X M)(d:M.cur<M.f.length)(l:M.sz+20<=1000000)(hk:tkV K.E M 14=7):
 A 111 #[Q K.pm] w (yk K X w (xK K.E M) (.tuple #[])):=by
 have t:=Ja h.alt;have k:=Ja (OpSt.start h d);have c:=Ja (Jb l hk);clear h d l hk;go_enter Tryz.func111,Tryz.ntmps111
 go_wp2_with (first
  |(go_at_call 55;refine(k.out.takeK 14 7 7 rfl c.out.2 Zd Zd (by have:=c.out.1;omega)).mono ?_;clear k;rintro e w1 ⟨rfl,j⟩)
  |(go_at_call 58;refine(j.out.any (by have:=c.out.1;omega)).mono ?_;clear j;rintro e w2 ⟨x,o,rfl,i⟩)
  |(go_at_call 55;refine(i.out.take 3 Zd Zd (by have:=c.out.1;omega)).mono ?_;clear i;rintro e w3 ⟨z,qz,q,rfl,g⟩)
  |(go_at_call 132;refine(g.out.emit 25 x 0 (1+z) (yF _ rfl) (o.out.1) (yF _ rfl) Zo (by have:=c.out.1;omega)).mono ?_;clear g;rintro e w4 ⟨rfl,m⟩))
 first|go_end0|refine bodyPost_ret (results_none rfl _ _ _) rfl ?_
 rw[mkOp_7 c.out.2]
 try rw[o.out.2]
 try rw[q.out]
 exact m.out.ret
theorem mkOp_8{E:ME}(h:tkV E M 14=8):xK E M=(M.tick.tick.num (tkV E M.tick 4096)).tick.emit ⟨22+tkV E (M.tick.tick.num (tkV E M.tick 4096)) 2,0,(M.tick.next:Nat),0,0,[]⟩:=by
 unfold xK;simp only[h];rfl
theorem op_8(h:wW w K X M)(g:M.cur<M.f.length)(m:M.sz+20<=1000000)(hk:tkV K.E M 14=8):
 A 111 #[Q K.pm] w (yk K X w (xK K.E M) (.tuple #[])):=by
 have u:=Ja h.alt;have l:=Ja (OpSt.start h g);have c:=Ja (Jb m hk);clear h g m hk;go_enter Tryz.func111,Tryz.ntmps111
 go_wp2_with (first
  |(go_at_call 55;refine(l.out.takeK 14 8 8 rfl c.out.2 Zd Zd (by have:=c.out.1;omega)).mono ?_;clear l;rintro e w1 ⟨rfl,k⟩)
  |(go_at_call 55;refine(k.out.take 4096 Zd Zd (by have:=c.out.1;omega)).mono ?_;clear k;rintro e w2 ⟨y,qy,t,rfl,d⟩)
  |(go_at_call 114;refine(d.out.num y Zo (by have:=c.out.1;omega)).mono ?_;have N1:=Ja d.out.n64;clear d;rintro e w3 ⟨rfl,j⟩)
  |(go_at_call 55;refine(j.out.take 2 Zd Zd (by have:=c.out.1;omega)).mono ?_;clear j;rintro e w4 ⟨z,qz,q,rfl,i⟩)
  |(go_at_call 132;refine(i.out.emit (22+(z:Int)) (M.next:Int) 0 0 (vG _ Zo Zo) N1.out (yF _ rfl) Zd (by have:=c.out.1;omega)).mono ?_;clear i;rintro e w5 ⟨rfl,o⟩))
 first|go_end0|refine bodyPost_ret (results_none rfl _ _ _) rfl ?_
 rw[mkOp_8 c.out.2]
 try rw[t.out]
 try rw[q.out]
 exact o.out.ret
theorem mkOp_9{E:ME}(h:tkV E M 14=9):xK E M=vN E M.tick:=by
 unfold xK;simp only[h];rfl
theorem op_9(h:wW w K X M)(c:M.cur<M.f.length)(j:M.sz+20<=1000000)(hk:tkV K.E M 14=9):
 A 111 #[Q K.pm] w (yk K X w (xK K.E M) (.tuple #[])):=by
 have l:=Ja h.alt;have i:=Ja (OpSt.start h c);have d:=Ja (Jb j hk);clear h c j hk;go_enter Tryz.func111,Tryz.ntmps111
 go_wp2_with (first
  |(go_at_call 55;refine(i.out.takeK 14 9 9 rfl d.out.2 Zd Zd (by have:=d.out.1;omega)).mono ?_;clear i;rintro e w1 ⟨rfl,g⟩)
  |(go_at_call 134;refine(g.out.call l.out (by have:=d.out.1;omega)).mono ?_;clear g;rintro e w2 ⟨rfl,k⟩))
 first|go_end0|refine bodyPost_ret (results_none rfl _ _ _) rfl ?_
 rw[mkOp_9 d.out.2];exact k.out.ret
theorem mkOp_10a{E:ME}(h:tkV E M 14=10)(c:tkV E M.tick 3=0):xK E M=M.tick.tick.emit ⟨27,0,0,0,0,[]⟩:=by
 unfold xK;simp only[h,c];rfl
theorem op_10a(h:wW w K X M)(c:M.cur<M.f.length)(l:M.sz+20<=1000000)(hk:tkV K.E M 14=10)(m:tkV K.E M.tick 3=0):
 A 111 #[Q K.pm] w (yk K X w (xK K.E M) (.tuple #[])):=by
 have q:=Ja h.alt;have k:=Ja (OpSt.start h c);have d:=Ja (Jb l hk);have j:=Ja m;clear h c l hk m;go_enter Tryz.func111,Tryz.ntmps111
 go_wp2_with (first
  |(go_at_call 55;refine(k.out.takeK 14 10 10 rfl d.out.2 Zd Zd (by have:=d.out.1;omega)).mono ?_;clear k;rintro e w1 ⟨rfl,i⟩)
  |(go_at_call 55;refine(i.out.takeK 3 0 0 rfl j.out Zd Zd (by have:=d.out.1;omega)).mono ?_;clear i;rintro e w2 ⟨rfl,g⟩)
  |(go_at_call 132;refine(g.out.emit 27 0 0 0 (yF _ rfl) (yF _ rfl) (yF _ rfl) Zd (by have:=d.out.1;omega)).mono ?_;clear g;rintro e w3 ⟨rfl,o⟩))
 first|go_end0|refine bodyPost_ret (results_none rfl _ _ _) rfl ?_
 rw[mkOp_10a d.out.2 j.out];exact o.out.ret
theorem mkOp_10b{E:ME}(h:tkV E M 14=10)(c:¬tkV E M.tick 3=0):xK E M=M.tick.tick:=by
 unfold xK;simp only[h,c];rfl
theorem op_10b(h:wW w K X M)(c:M.cur<M.f.length)(k:M.sz+20<=1000000)(hk:tkV K.E M 14=10)(l:¬tkV K.E M.tick 3=0):
 A 111 #[Q K.pm] w (yk K X w (xK K.E M) (.tuple #[])):=by
 have q:=Ja h.alt;have j:=Ja (OpSt.start h c);have d:=Ja (Jb k hk);have i:=Ja l;clear h c k hk l;go_enter Tryz.func111,Tryz.ntmps111
 go_wp2_with (first
  |(go_at_call 55;refine(j.out.takeK 14 10 10 rfl d.out.2 Zd Zd (by have:=d.out.1;omega)).mono ?_;clear j;rintro e w1 ⟨rfl,g⟩)
  |(go_at_call 55;refine(g.out.take 3 Zd Zd (by have:=d.out.1;omega)).mono ?_;clear g;rintro e w2 ⟨z,qz,o,rfl,m⟩;have tz:((z:Int)==0)=false:=by rw[beq_eq_false_iff_ne];have:=o.out;have:=i.out;omega))
 first|go_end0|refine bodyPost_ret (results_none rfl _ _ _) rfl ?_
 rw[mkOp_10b d.out.2 i.out]
 try rw[o.out]
 exact m.out.ret
theorem mkOp_11a{E:ME}(h:tkV E M 14=11)(c:¬tkV E (zJ E (zJ E M.tick).2).2 13=3):xK E M=(zJ E (zJ E M.tick).2).2.tick.emit ⟨((5+tkV E (zJ E (zJ E M.tick).2).2 13:Nat):Int),0,(zJ E M.tick).1,(zJ E (zJ E M.tick).2).1,0,[]⟩:=by
 unfold xK;simp only[h]
 show yR E M.tick=_
 unfold yR;simp only;rw[if_neg Zo]
theorem op_11a(h:wW w K X M)(d:M.cur<M.f.length)(o:M.sz+20<=1000000)(hk:tkV K.E M 14=11)(q:¬tkV K.E (zJ K.E (zJ K.E M.tick).2).2 13=3):
 A 111 #[Q K.pm] w (yk K X w (xK K.E M) (.tuple #[])):=by
 have HE:=Ja h.alt;have m:=Ja (OpSt.start h d);have c:=Ja (Jb o hk);have l:=Ja q;clear h d o hk q;go_enter Tryz.func111,Tryz.ntmps111
 go_wp2_with (first
  |(go_at_call 55;refine(m.out.takeK 14 11 11 rfl c.out.2 Zd Zd (by have:=c.out.1;omega)).mono ?_;clear m;rintro e w1 ⟨rfl,k⟩)
  |(go_at_call 58;refine(k.out.any (by have:=c.out.1;omega)).mono ?_;clear k;rintro e w2 ⟨x,Hx,rfl,j⟩)
  |(go_at_call 58;refine(j.out.any (by have:=c.out.1;omega)).mono ?_;clear j;rintro e w3 ⟨y,Hy,rfl,i⟩)
  |(go_at_call 55;refine(i.out.take 13 Zd Zd (by have:=c.out.1;omega)).mono ?_;clear i;rintro e w4 ⟨z,qz,u,rfl,g⟩;have tz:((5+(z:Int))==8)=false:=by rw[beq_eq_false_iff_ne];have:=u.out;have:=l.out;omega)
  |(go_at_call 132;refine(g.out.emit (5+(z:Int)) x y 0 (vG _ Zo Zo) (Hx.out.1) (Hy.out.1) Zd (by have:=c.out.1;omega)).mono ?_;clear g;rintro e w5 ⟨rfl,t⟩))
 first|go_end0|refine bodyPost_ret (results_none rfl _ _ _) rfl ?_
 rw[mkOp_11a c.out.2 l.out]
 try rw[Hx.out.2]
 try rw[Hy.out.2]
 try rw[u.out]
 exact t.out.ret
theorem mkOp_11b{E:ME}(h:tkV E M 14=11)(c:tkV E (zJ E (zJ E M.tick).2).2 13=3)(hp:tkV E (zJ E (zJ E M.tick).2).2.tick 8=0):xK E M=(zJ E (zJ E M.tick).2).2.tick.tick.emit ⟨8,0,(zJ E M.tick).1,(zJ E (zJ E M.tick).2).1,0,[]⟩:=by
 unfold xK;simp only[h]
 show yR E M.tick=_
 unfold yR;simp only;rw[if_pos Zo,if_neg Zo]
theorem op_11b(h:wW w K X M)(d:M.cur<M.f.length)(t:M.sz+20<=1000000)(hk:tkV K.E M 14=11)(u:tkV K.E (zJ K.E (zJ K.E M.tick).2).2 13=3)(hp:tkV K.E (zJ K.E (zJ K.E M.tick).2).2.tick 8=0):
 A 111 #[Q K.pm] w (yk K X w (xK K.E M) (.tuple #[])):=by
 have HE:=Ja h.alt;have q:=Ja (OpSt.start h d);have c:=Ja (Jb t hk);have m:=Ja u;have o:=Ja hp;clear h d t hk u hp;go_enter Tryz.func111,Tryz.ntmps111
 go_wp2_with (first
  |(go_at_call 55;refine(q.out.takeK 14 11 11 rfl c.out.2 Zd Zd (by have:=c.out.1;omega)).mono ?_;clear q;rintro e w1 ⟨rfl,l⟩)
  |(go_at_call 58;refine(l.out.any (by have:=c.out.1;omega)).mono ?_;clear l;rintro e w2 ⟨x,Hx,rfl,k⟩)
  |(go_at_call 58;refine(k.out.any (by have:=c.out.1;omega)).mono ?_;clear k;rintro e w3 ⟨y,Hy,rfl,j⟩)
  |(go_at_call 55;refine(j.out.takeK 13 3 3 rfl m.out Zd Zd (by have:=c.out.1;omega)).mono ?_;clear j;rintro e w4 ⟨rfl,i⟩)
  |(go_at_call 55;refine(i.out.takeK 8 0 0 rfl o.out Zd Zd (by have:=c.out.1;omega)).mono ?_;clear i;rintro e w5 ⟨rfl,g⟩)
  |(go_at_call 132;refine(g.out.emit 8 x y 0 (yF _ rfl) (Hx.out.1) (Hy.out.1) Zd (by have:=c.out.1;omega)).mono ?_;clear g;rintro e w6 ⟨rfl,a0⟩))
 first|go_end0|refine bodyPost_ret (results_none rfl _ _ _) rfl ?_
 rw[mkOp_11b c.out.2 m.out o.out]
 try rw[Hx.out.2]
 try rw[Hy.out.2]
 exact a0.out.ret
theorem mkOp_11c{E:ME}(h:tkV E M 14=11)(c:tkV E (zJ E (zJ E M.tick).2).2 13=3)(hp:0<tkV E (zJ E (zJ E M.tick).2).2.tick 8):xK E M=((((zJ E (zJ E M.tick).2).2.tick.tick.num 1).emit ⟨10,0,(zJ E (zJ E M.tick).2).1,((zJ E (zJ E M.tick).2).2.next:Nat),0,[]⟩).emit ⟨8,0,(zJ E M.tick).1,(((zJ E (zJ E M.tick).2).2.next+1:Nat):Int),0,[]⟩):=by
 unfold xK;simp only[h]
 show yR E M.tick=_
 unfold yR;simp only;rw[if_pos Zo,if_pos Zo];rfl
theorem op_11c(h:wW w K X M)(i:M.cur<M.f.length)(hz:M.sz+20<=1000000)(hk:tkV K.E M 14=11)(hq:tkV K.E (zJ K.E (zJ K.E M.tick).2).2 13=3)(hp:0<tkV K.E (zJ K.E (zJ K.E M.tick).2).2.tick 8):
 A 111 #[Q K.pm] w (yk K X w (xK K.E M) (.tuple #[])):=by
 have HE:=Ja h.alt;have u:=Ja (OpSt.start h i);have c:=Ja (Jb hz hk);have q:=Ja hq;have t:=Ja hp;clear h i hz hk hq hp;go_enter Tryz.func111,Tryz.ntmps111
 go_wp2_with (first
  |(go_at_call 55;refine(u.out.takeK 14 11 11 rfl c.out.2 Zd Zd (by have:=c.out.1;omega)).mono ?_;clear u;rintro e w1 ⟨rfl,o⟩)
  |(go_at_call 58;refine(o.out.any (by have:=c.out.1;omega)).mono ?_;clear o;rintro e w2 ⟨x,Hx,rfl,m⟩)
  |(go_at_call 58;refine(m.out.any (by have:=c.out.1;omega)).mono ?_;clear m;rintro e w3 ⟨y,Hy,rfl,l⟩)
  |(go_at_call 55;refine(l.out.takeK 13 3 3 rfl q.out Zd Zd (by have:=c.out.1;omega)).mono ?_;clear l;rintro e w4 ⟨rfl,k⟩)
  |(go_at_call 55;refine(k.out.take 8 Zd Zd (by have:=c.out.1;omega)).mono ?_;clear k;rintro e w5 ⟨z,qz,Hz,rfl,g⟩;have tz:(0:Int)<(z:Int):=by have:=Hz.out;have:=t.out;omega)
  |(go_at_call 114;refine(g.out.num 1 Zo (by have:=c.out.1;omega)).mono ?_;have N1:=Ja g.out.n64;clear g;rintro e w6 ⟨rfl,d⟩)
  |(go_at_call 132;refine(d.out.emit 10 y _ 0 (yF _ rfl) (Hy.out.1) N1.out Zd (by have:=c.out.1;omega)).mono ?_;have N2:=Ja d.out.n64;clear d;rintro e w7 ⟨rfl,j⟩)
  |(go_at_call 132;refine(j.out.emit 8 x _ 0 (yF _ rfl) (Hx.out.1) N2.out Zd (by have:=c.out.1;omega)).mono ?_;clear j;rintro e w8 ⟨rfl,a0⟩))
 first|go_end0|refine bodyPost_ret (results_none rfl _ _ _) rfl ?_
 rw[mkOp_11c c.out.2 q.out t.out]
 try rw[Hx.out.2]
 try rw[Hy.out.2]
 try rw[Hz.out]
 exact a0.out.ret
theorem mkOp_12a{E:ME}(h:tkV E M 14=12)(c:¬tkV E (zJ E (zJ E M.tick).2).2 13=3):xK E M=(zJ E (zJ E M.tick).2).2.tick.emit ⟨((5+tkV E (zJ E (zJ E M.tick).2).2 13:Nat):Int),0,(zJ E M.tick).1,(zJ E (zJ E M.tick).2).1,0,[]⟩:=by
 unfold xK;simp only[h]
 show yR E M.tick=_
 unfold yR;simp only;rw[if_neg Zo]
theorem op_12a(h:wW w K X M)(d:M.cur<M.f.length)(o:M.sz+20<=1000000)(hk:tkV K.E M 14=12)(q:¬tkV K.E (zJ K.E (zJ K.E M.tick).2).2 13=3):
 A 111 #[Q K.pm] w (yk K X w (xK K.E M) (.tuple #[])):=by
 have HE:=Ja h.alt;have m:=Ja (OpSt.start h d);have c:=Ja (Jb o hk);have l:=Ja q;clear h d o hk q;go_enter Tryz.func111,Tryz.ntmps111
 go_wp2_with (first
  |(go_at_call 55;refine(m.out.takeK 14 12 12 rfl c.out.2 Zd Zd (by have:=c.out.1;omega)).mono ?_;clear m;rintro e w1 ⟨rfl,k⟩)
  |(go_at_call 58;refine(k.out.any (by have:=c.out.1;omega)).mono ?_;clear k;rintro e w2 ⟨x,Hx,rfl,j⟩)
  |(go_at_call 58;refine(j.out.any (by have:=c.out.1;omega)).mono ?_;clear j;rintro e w3 ⟨y,Hy,rfl,i⟩)
  |(go_at_call 55;refine(i.out.take 13 Zd Zd (by have:=c.out.1;omega)).mono ?_;clear i;rintro e w4 ⟨z,qz,u,rfl,g⟩;have tz:((5+(z:Int))==8)=false:=by rw[beq_eq_false_iff_ne];have:=u.out;have:=l.out;omega)
  |(go_at_call 132;refine(g.out.emit (5+(z:Int)) x y 0 (vG _ Zo Zo) (Hx.out.1) (Hy.out.1) Zd (by have:=c.out.1;omega)).mono ?_;clear g;rintro e w5 ⟨rfl,t⟩))
 first|go_end0|refine bodyPost_ret (results_none rfl _ _ _) rfl ?_
 rw[mkOp_12a c.out.2 l.out]
 try rw[Hx.out.2]
 try rw[Hy.out.2]
 try rw[u.out]
 exact t.out.ret
theorem mkOp_12b{E:ME}(h:tkV E M 14=12)(c:tkV E (zJ E (zJ E M.tick).2).2 13=3)(hp:tkV E (zJ E (zJ E M.tick).2).2.tick 8=0):xK E M=(zJ E (zJ E M.tick).2).2.tick.tick.emit ⟨8,0,(zJ E M.tick).1,(zJ E (zJ E M.tick).2).1,0,[]⟩:=by
 unfold xK;simp only[h]
 show yR E M.tick=_
 unfold yR;simp only;rw[if_pos Zo,if_neg Zo]
theorem op_12b(h:wW w K X M)(d:M.cur<M.f.length)(t:M.sz+20<=1000000)(hk:tkV K.E M 14=12)(u:tkV K.E (zJ K.E (zJ K.E M.tick).2).2 13=3)(hp:tkV K.E (zJ K.E (zJ K.E M.tick).2).2.tick 8=0):
 A 111 #[Q K.pm] w (yk K X w (xK K.E M) (.tuple #[])):=by
 have HE:=Ja h.alt;have q:=Ja (OpSt.start h d);have c:=Ja (Jb t hk);have m:=Ja u;have o:=Ja hp;clear h d t hk u hp;go_enter Tryz.func111,Tryz.ntmps111
 go_wp2_with (first
  |(go_at_call 55;refine(q.out.takeK 14 12 12 rfl c.out.2 Zd Zd (by have:=c.out.1;omega)).mono ?_;clear q;rintro e w1 ⟨rfl,l⟩)
  |(go_at_call 58;refine(l.out.any (by have:=c.out.1;omega)).mono ?_;clear l;rintro e w2 ⟨x,Hx,rfl,k⟩)
  |(go_at_call 58;refine(k.out.any (by have:=c.out.1;omega)).mono ?_;clear k;rintro e w3 ⟨y,Hy,rfl,j⟩)
  |(go_at_call 55;refine(j.out.takeK 13 3 3 rfl m.out Zd Zd (by have:=c.out.1;omega)).mono ?_;clear j;rintro e w4 ⟨rfl,i⟩)
  |(go_at_call 55;refine(i.out.takeK 8 0 0 rfl o.out Zd Zd (by have:=c.out.1;omega)).mono ?_;clear i;rintro e w5 ⟨rfl,g⟩)
  |(go_at_call 132;refine(g.out.emit 8 x y 0 (yF _ rfl) (Hx.out.1) (Hy.out.1) Zd (by have:=c.out.1;omega)).mono ?_;clear g;rintro e w6 ⟨rfl,a0⟩))
 first|go_end0|refine bodyPost_ret (results_none rfl _ _ _) rfl ?_
 rw[mkOp_12b c.out.2 m.out o.out]
 try rw[Hx.out.2]
 try rw[Hy.out.2]
 exact a0.out.ret
theorem mkOp_12c{E:ME}(h:tkV E M 14=12)(c:tkV E (zJ E (zJ E M.tick).2).2 13=3)(hp:0<tkV E (zJ E (zJ E M.tick).2).2.tick 8):xK E M=((((zJ E (zJ E M.tick).2).2.tick.tick.num 1).emit ⟨10,0,(zJ E (zJ E M.tick).2).1,((zJ E (zJ E M.tick).2).2.next:Nat),0,[]⟩).emit ⟨8,0,(zJ E M.tick).1,(((zJ E (zJ E M.tick).2).2.next+1:Nat):Int),0,[]⟩):=by
 unfold xK;simp only[h]
 show yR E M.tick=_
 unfold yR;simp only;rw[if_pos Zo,if_pos Zo];rfl
theorem op_12c(h:wW w K X M)(i:M.cur<M.f.length)(hz:M.sz+20<=1000000)(hk:tkV K.E M 14=12)(hq:tkV K.E (zJ K.E (zJ K.E M.tick).2).2 13=3)(hp:0<tkV K.E (zJ K.E (zJ K.E M.tick).2).2.tick 8):
 A 111 #[Q K.pm] w (yk K X w (xK K.E M) (.tuple #[])):=by
 have HE:=Ja h.alt;have u:=Ja (OpSt.start h i);have c:=Ja (Jb hz hk);have q:=Ja hq;have t:=Ja hp;clear h i hz hk hq hp;go_enter Tryz.func111,Tryz.ntmps111
 go_wp2_with (first
  |(go_at_call 55;refine(u.out.takeK 14 12 12 rfl c.out.2 Zd Zd (by have:=c.out.1;omega)).mono ?_;clear u;rintro e w1 ⟨rfl,o⟩)
  |(go_at_call 58;refine(o.out.any (by have:=c.out.1;omega)).mono ?_;clear o;rintro e w2 ⟨x,Hx,rfl,m⟩)
  |(go_at_call 58;refine(m.out.any (by have:=c.out.1;omega)).mono ?_;clear m;rintro e w3 ⟨y,Hy,rfl,l⟩)
  |(go_at_call 55;refine(l.out.takeK 13 3 3 rfl q.out Zd Zd (by have:=c.out.1;omega)).mono ?_;clear l;rintro e w4 ⟨rfl,k⟩)
  |(go_at_call 55;refine(k.out.take 8 Zd Zd (by have:=c.out.1;omega)).mono ?_;clear k;rintro e w5 ⟨z,qz,Hz,rfl,g⟩;have tz:(0:Int)<(z:Int):=by have:=Hz.out;have:=t.out;omega)
  |(go_at_call 114;refine(g.out.num 1 Zo (by have:=c.out.1;omega)).mono ?_;have N1:=Ja g.out.n64;clear g;rintro e w6 ⟨rfl,d⟩)
  |(go_at_call 132;refine(d.out.emit 10 y _ 0 (yF _ rfl) (Hy.out.1) N1.out Zd (by have:=c.out.1;omega)).mono ?_;have N2:=Ja d.out.n64;clear d;rintro e w7 ⟨rfl,j⟩)
  |(go_at_call 132;refine(j.out.emit 8 x _ 0 (yF _ rfl) (Hx.out.1) N2.out Zd (by have:=c.out.1;omega)).mono ?_;clear j;rintro e w8 ⟨rfl,a0⟩))
 first|go_end0|refine bodyPost_ret (results_none rfl _ _ _) rfl ?_
 rw[mkOp_12c c.out.2 q.out t.out]
 try rw[Hx.out.2]
 try rw[Hy.out.2]
 try rw[Hz.out]
 exact a0.out.ret
theorem mkOp_13a{E:ME}(h:tkV E M 14=13)(c:¬tkV E (zJ E (zJ E M.tick).2).2 13=3):xK E M=(zJ E (zJ E M.tick).2).2.tick.emit ⟨((5+tkV E (zJ E (zJ E M.tick).2).2 13:Nat):Int),0,(zJ E M.tick).1,(zJ E (zJ E M.tick).2).1,0,[]⟩:=by
 unfold xK;simp only[h]
 show yR E M.tick=_
 unfold yR;simp only;rw[if_neg Zo]
theorem op_13a(h:wW w K X M)(d:M.cur<M.f.length)(o:M.sz+20<=1000000)(hk:tkV K.E M 14=13)(q:¬tkV K.E (zJ K.E (zJ K.E M.tick).2).2 13=3):
 A 111 #[Q K.pm] w (yk K X w (xK K.E M) (.tuple #[])):=by
 have HE:=Ja h.alt;have m:=Ja (OpSt.start h d);have c:=Ja (Jb o hk);have l:=Ja q;clear h d o hk q;go_enter Tryz.func111,Tryz.ntmps111
 go_wp2_with (first
  |(go_at_call 55;refine(m.out.takeK 14 13 13 rfl c.out.2 Zd Zd (by have:=c.out.1;omega)).mono ?_;clear m;rintro e w1 ⟨rfl,k⟩)
  |(go_at_call 58;refine(k.out.any (by have:=c.out.1;omega)).mono ?_;clear k;rintro e w2 ⟨x,Hx,rfl,j⟩)
  |(go_at_call 58;refine(j.out.any (by have:=c.out.1;omega)).mono ?_;clear j;rintro e w3 ⟨y,Hy,rfl,i⟩)
  |(go_at_call 55;refine(i.out.take 13 Zd Zd (by have:=c.out.1;omega)).mono ?_;clear i;rintro e w4 ⟨z,qz,u,rfl,g⟩;have tz:((5+(z:Int))==8)=false:=by rw[beq_eq_false_iff_ne];have:=u.out;have:=l.out;omega)
  |(go_at_call 132;refine(g.out.emit (5+(z:Int)) x y 0 (vG _ Zo Zo) (Hx.out.1) (Hy.out.1) Zd (by have:=c.out.1;omega)).mono ?_;clear g;rintro e w5 ⟨rfl,t⟩))
 first|go_end0|refine bodyPost_ret (results_none rfl _ _ _) rfl ?_
 rw[mkOp_13a c.out.2 l.out]
 try rw[Hx.out.2]
 try rw[Hy.out.2]
 try rw[u.out]
 exact t.out.ret
theorem mkOp_13b{E:ME}(h:tkV E M 14=13)(c:tkV E (zJ E (zJ E M.tick).2).2 13=3)(hp:tkV E (zJ E (zJ E M.tick).2).2.tick 8=0):xK E M=(zJ E (zJ E M.tick).2).2.tick.tick.emit ⟨8,0,(zJ E M.tick).1,(zJ E (zJ E M.tick).2).1,0,[]⟩:=by
 unfold xK;simp only[h]
 show yR E M.tick=_
 unfold yR;simp only;rw[if_pos Zo,if_neg Zo]
theorem op_13b(h:wW w K X M)(d:M.cur<M.f.length)(t:M.sz+20<=1000000)(hk:tkV K.E M 14=13)(u:tkV K.E (zJ K.E (zJ K.E M.tick).2).2 13=3)(hp:tkV K.E (zJ K.E (zJ K.E M.tick).2).2.tick 8=0):
 A 111 #[Q K.pm] w (yk K X w (xK K.E M) (.tuple #[])):=by
 have HE:=Ja h.alt;have q:=Ja (OpSt.start h d);have c:=Ja (Jb t hk);have m:=Ja u;have o:=Ja hp;clear h d t hk u hp;go_enter Tryz.func111,Tryz.ntmps111
 go_wp2_with (first
  |(go_at_call 55;refine(q.out.takeK 14 13 13 rfl c.out.2 Zd Zd (by have:=c.out.1;omega)).mono ?_;clear q;rintro e w1 ⟨rfl,l⟩)
  |(go_at_call 58;refine(l.out.any (by have:=c.out.1;omega)).mono ?_;clear l;rintro e w2 ⟨x,Hx,rfl,k⟩)
  |(go_at_call 58;refine(k.out.any (by have:=c.out.1;omega)).mono ?_;clear k;rintro e w3 ⟨y,Hy,rfl,j⟩)
  |(go_at_call 55;refine(j.out.takeK 13 3 3 rfl m.out Zd Zd (by have:=c.out.1;omega)).mono ?_;clear j;rintro e w4 ⟨rfl,i⟩)
  |(go_at_call 55;refine(i.out.takeK 8 0 0 rfl o.out Zd Zd (by have:=c.out.1;omega)).mono ?_;clear i;rintro e w5 ⟨rfl,g⟩)
  |(go_at_call 132;refine(g.out.emit 8 x y 0 (yF _ rfl) (Hx.out.1) (Hy.out.1) Zd (by have:=c.out.1;omega)).mono ?_;clear g;rintro e w6 ⟨rfl,a0⟩))
 first|go_end0|refine bodyPost_ret (results_none rfl _ _ _) rfl ?_
 rw[mkOp_13b c.out.2 m.out o.out]
 try rw[Hx.out.2]
 try rw[Hy.out.2]
 exact a0.out.ret
theorem mkOp_13c{E:ME}(h:tkV E M 14=13)(c:tkV E (zJ E (zJ E M.tick).2).2 13=3)(hp:0<tkV E (zJ E (zJ E M.tick).2).2.tick 8):xK E M=((((zJ E (zJ E M.tick).2).2.tick.tick.num 1).emit ⟨10,0,(zJ E (zJ E M.tick).2).1,((zJ E (zJ E M.tick).2).2.next:Nat),0,[]⟩).emit ⟨8,0,(zJ E M.tick).1,(((zJ E (zJ E M.tick).2).2.next+1:Nat):Int),0,[]⟩):=by
 unfold xK;simp only[h]
 show yR E M.tick=_
 unfold yR;simp only;rw[if_pos Zo,if_pos Zo];rfl
theorem op_13c(h:wW w K X M)(i:M.cur<M.f.length)(hz:M.sz+20<=1000000)(hk:tkV K.E M 14=13)(hq:tkV K.E (zJ K.E (zJ K.E M.tick).2).2 13=3)(hp:0<tkV K.E (zJ K.E (zJ K.E M.tick).2).2.tick 8):
 A 111 #[Q K.pm] w (yk K X w (xK K.E M) (.tuple #[])):=by
 have HE:=Ja h.alt;have u:=Ja (OpSt.start h i);have c:=Ja (Jb hz hk);have q:=Ja hq;have t:=Ja hp;clear h i hz hk hq hp;go_enter Tryz.func111,Tryz.ntmps111
 go_wp2_with (first
  |(go_at_call 55;refine(u.out.takeK 14 13 13 rfl c.out.2 Zd Zd (by have:=c.out.1;omega)).mono ?_;clear u;rintro e w1 ⟨rfl,o⟩)
  |(go_at_call 58;refine(o.out.any (by have:=c.out.1;omega)).mono ?_;clear o;rintro e w2 ⟨x,Hx,rfl,m⟩)
  |(go_at_call 58;refine(m.out.any (by have:=c.out.1;omega)).mono ?_;clear m;rintro e w3 ⟨y,Hy,rfl,l⟩)
  |(go_at_call 55;refine(l.out.takeK 13 3 3 rfl q.out Zd Zd (by have:=c.out.1;omega)).mono ?_;clear l;rintro e w4 ⟨rfl,k⟩)
  |(go_at_call 55;refine(k.out.take 8 Zd Zd (by have:=c.out.1;omega)).mono ?_;clear k;rintro e w5 ⟨z,qz,Hz,rfl,g⟩;have tz:(0:Int)<(z:Int):=by have:=Hz.out;have:=t.out;omega)
  |(go_at_call 114;refine(g.out.num 1 Zo (by have:=c.out.1;omega)).mono ?_;have N1:=Ja g.out.n64;clear g;rintro e w6 ⟨rfl,d⟩)
  |(go_at_call 132;refine(d.out.emit 10 y _ 0 (yF _ rfl) (Hy.out.1) N1.out Zd (by have:=c.out.1;omega)).mono ?_;have N2:=Ja d.out.n64;clear d;rintro e w7 ⟨rfl,j⟩)
  |(go_at_call 132;refine(j.out.emit 8 x _ 0 (yF _ rfl) (Hx.out.1) N2.out Zd (by have:=c.out.1;omega)).mono ?_;clear j;rintro e w8 ⟨rfl,a0⟩))
 first|go_end0|refine bodyPost_ret (results_none rfl _ _ _) rfl ?_
 rw[mkOp_13c c.out.2 q.out t.out]
 try rw[Hx.out.2]
 try rw[Hy.out.2]
 try rw[Hz.out]
 exact a0.out.ret
theorem op_any(h:wW w K X M)(c:M.cur<M.f.length)(d:M.sz+20<=1000000):
 A 111 #[Q K.pm] w (yk K X w (xK K.E M) (.tuple #[])):=by
 have l:=aaE K.E M (n:=14) Zo;have h3:=aaE K.E M.tick (n:=3) Zo;obtain⟨k,hk⟩:∃k,tkV K.E M 14=k:=⟨_,rfl⟩
 rw[hk] at l
 have m:∀j,j=11∨j=12∨j=13->k=j->A 111 #[Q K.pm] w (yk K X w (xK K.E M) (.tuple #[])):=fun j hj e=>by
  by_cases g:tkV K.E (zJ K.E (zJ K.E M.tick).2).2 13=3
  ·by_cases hp:0<tkV K.E (zJ K.E (zJ K.E M.tick).2).2.tick 8
   ·rcases hj with rfl|rfl|rfl
    ·exact op_11c h c d (hk.trans e) g hp
    ·exact op_12c h c d (hk.trans e) g hp
    ·exact op_13c h c d (hk.trans e) g hp
   ·have i:tkV K.E (zJ K.E (zJ K.E M.tick).2).2.tick 8=0:=Zo;rcases hj with rfl|rfl|rfl
    ·exact op_11b h c d (hk.trans e) g i
    ·exact op_12b h c d (hk.trans e) g i
    ·exact op_13b h c d (hk.trans e) g i
  ·rcases hj with rfl|rfl|rfl
   ·exact op_11a h c d (hk.trans e) g
   ·exact op_12a h c d (hk.trans e) g
   ·exact op_13a h c d (hk.trans e) g
 match k,l with
 |0,_=>exact op_0 h c d hk
 |1,_=>exact op_1 h c d hk
 |2,_=>exact op_2 h c d hk
 |3,_=>exact op_3 h c d hk
 |4,_=>exact op_4 h c d hk
 |5,_=>exact op_5 h c d hk
 |6,_=>exact op_6 h c d hk
 |7,_=>exact op_7 h c d hk
 |8,_=>exact op_8 h c d hk
 |9,_=>exact op_9 h c d hk
 |10,_=>
  by_cases g:tkV K.E M.tick 3=0
  ·exact op_10a h c d hk g
  ·exact op_10b h c d hk g
 |11,_=>exact m 11 Zo rfl
 |12,_=>exact m 12 Zo rfl
 |13,_=>exact m 13 Zo rfl
 |k+14,h=>exact absurd h Zo
theorem Tryz.info_edge:(Tryz.prog.info? 79).map (fun i=>(i.zero,i.size,i.bytes))=some (some (.agg #[I 0,.slice none 0 0]),2,32):=by kernel_rfl
def sU (d:Nat):Prop:=∀(w:World) (K:MKC) (X:Nat->Prop) (M:MS),wW w K X M->M.cur<M.f.length->M.sz+pC d<=1000000->
 A 57 #[Q K.pm,I d] w (yk K X w (zp K.E d M) (.tuple #[]))
theorem OpSt.part(h:OpSt w0 K X0 M0 c w M)(j:sU d)(k:M0.sz+(c+pC d)<=1000000):
 A 57 #[Q K.pm,I d] w fun e w'=>e=.returned (.tuple #[])/\Hid (OpSt w0 K X0 M0 (c+pC d) w' (zp K.E d M)):=by
 obtain⟨X,hm,hs⟩:=h.made;refine(j w K X M hm h.cur (by have:=h.gr.sz;omega)).mono ?_;rintro e w' ⟨rfl,X',i,g⟩;have hg:=xw K.E hm.alt d M;exact⟨rfl,Ja ⟨⟨X',i,hs.trans g⟩,h.gr.trans hg,hg.cur h.cur⟩⟩
structure ArmMid (w:World) (K:MKC) (X:Nat->Prop) (M:MS) (d tg join n j:Nat) (wx:World) (Mj:MS):Prop where
 made:∃Xj,wW wx K Xj Mj/\Stp X w Xj wx
 rest:uV K.E (zp K.E d) tg join M.vals.length n 0 M=uV K.E (zp K.E d) tg join M.vals.length (n-j) j Mj
 vals:Mj.vals=M.vals
 gr:GrowP (j*(pC d+5)) M Mj
theorem ArmMid.next{wx w2:World}{Xj:Nat->Prop}{Mj:MS}{tg n j:Nat}(h:ArmMid w K X M d tg c n j wx Mj)(l:j<n)(hs:Stp X w Xj wx)(hf:tg+n<M.f.length)
 (h2:∃X2,wW w2 K X2 {wM K.E c j (zp K.E d {Mj with cur:=tg+j }) with vals:=(wM K.E c j (zp K.E d {Mj with cur:=tg+j })).vals.take M.vals.length }/\Stp Xj wx X2 w2):
 ArmMid w K X M d tg c n (j+1) w2 {wM K.E c j (zp K.E d {Mj with cur:=tg+j }) with vals:=(wM K.E c j (zp K.E d {Mj with cur:=tg+j })).vals.take M.vals.length }:=by
 obtain⟨X2,g,i⟩:=h2;have k:=g.alt;have h1:=((vk Mj (tg+j) (by have:=h.gr.len;omega)).trans ((xw K.E k d _).trans (su K.E c j (zp K.E d {Mj with cur:=tg+j })))).mono (show 0+(pC d+5)<=pC d+5 by omega);have h3:=sY h1;have hl:Mj.vals.length=M.vals.length:=by rw[h.vals]
 rw[hl] at h3;refine⟨⟨X2,g,hs.trans i⟩,?_,?_,?_⟩
 ·rw[h.rest,show n-j=(n-(j+1))+1 by omega,rg]
 ·have:=uF h1.pre;rw[hl] at this;exact this.trans h.vals
 ·have:=h.gr.trans h3;rw[Nat.succ_mul];exact this
theorem lH(hd:d<=5)(hP:sU d)(h:wW w K X M)(c2:M.cur<M.f.length){n:Nat}(s6:2<=n)(p4:n<=4)(hz:M.sz+(31+4*pC d)<=1000000):
 A 112 #[Q K.pm,I ((d:Int)+1),I n] w (yk K X w (xi K.E (zp K.E d) n M) (.tuple #[])):=by
 have HA:=Ja (OpSt.start h c2);have HZ:=Ja (Jb hz hP);have r0:=Ja c2
 have l3:K.B<=w.heap.size/\(∀k,K.Z k->k<w.heap.size):=by
  obtain⟨fv,vv,l,hi⟩:=h;exact⟨hi.size,hi.env.zl⟩
 have t7:=Ja l3;clear h c2 hz hP l3;go_enter Tryz.func112,Tryz.ntmps112;go_upto_region 1 with(go_at_call 58;go_must (refine(HA.out.any (by have:=HZ.out.1;omega)).mono ?_;rintro e w1 ⟨x,HX,rfl,b7⟩))
 obtain⟨M1,i0⟩:∃M1,(zJ K.E M).2=M1:=⟨_,rfl⟩
 rw[i0] at b7;obtain⟨X1,f8,l1⟩:=b7.out.made;have n3:=b7.out.gr.sz
 have k7:(∀k,X1 k->k<w1.heap.size)/\K.B<=w1.heap.size/\(∀k,K.Z k->k<w1.heap.size)/\M1.f.length<=999900:=by
  obtain⟨fv,vv,l,hi⟩:=f8;refine⟨hi.xl,hi.size,hi.env.zl,?_⟩;have h1:M1.f.length<=M1.sz:=by unfold MS.sz;omega
  have h2:=HZ.out.1;have h3:pC d≥101:=by cases d<;>unfold pC<;>omega
  omega
 have q7:=Ja (ToMid.start f8);have H1:=Ja (Jb l1 (Jb k7 i0));clear f8 l1 n3 k7 i0 HA;go_wp2
 go_loopw [7,8] (fun tv kv wx=>∃(j:Nat) (ta:Option Addr) (tc:Nat),j<=n/\tv=.slice ta j tc/\kv=I j/\Hid (ToMid w1 K X1 M1 (.slice ta j tc) j wx)) (fun _ kv _=>n-(intOf kv).toNat)
 case atStart=>exact⟨0,none,0,Jt _,rfl,rfl,q7⟩
 case round=>
  obtain⟨j,ta,tc,hj,rfl,rfl,HT⟩:=hrel
  by_cases a2:j<n
  ·have b0:(j:Int)<(n:Int):=Zo;obtain⟨Xj,f3,e8⟩:=HT.out.made;have c3:=rU f3 (n:=0) (by have h1:=(vW j M1).sz;have h2:=b7.out.gr.sz;have h3:=HZ.out.1;omega);rw[tB] at c3
   have g3:∀(w4:World) (X4:Nat->Prop),Stp Xj wr X4 w4->w4.ownsRow w1.heap.size 79 2 (.slice ta j tc) j ((toL M1.f.length j).flatMap za):=fun w4 X4 b4=>yD HT.out.own (fun k e=>b4.kept k (HT.out.own.lt k e).2 (fun e2=>by
    obtain⟨fv,vv,l,hi⟩:=f3
    exact hi.env.zx k e2 (.inr e)))
   obtain⟨ij,g2,c0,b9,b8⟩:=info_parts Tryz.info_edge;have HN:=Ja (Jb c3 (Jb e8 (Jb g3 a2)));have r8:=e8.size;clear f3 e8 c3 g3 a2;go_wp2_with (first|(go_at_call 56;go_must (refine HN.out.1.mono ?_;rintro e w4 ⟨rfl,X4,p8,b4⟩;have l2:=HN.out.2.2.1 w4 X4 b4;have s0:=b4.size;have n4:yM (w4.alloc (G #[I ((M1.f.length+j:Nat):Int),F] 79)) 2 (Y w4.heap.size 1 1) 1 (za (⟨((M1.f.length+j:Nat):Int),[]⟩,F)):=yM.cells (zI rfl) rfl (by simp[za,Value.oneCell'])))|(at_builtin;go_must (refine zK _ rfl (.tmp 20) (.tmp 24) 80 rfl w1.heap.size 79 ij (.agg #[I 0,F]) 2 32 Tryz.underlying80 g2 c0 b9 b8 rfl Zd (.slice ta j tc) j ((toL M1.f.length j).flatMap za) rfl (l2.alloc _) _ 1 (za (⟨((M1.f.length+j:Nat):Int),[]⟩,F)) rfl n4 (by unfold maxLen;omega) Zo Zt ?_;intro v9 w9 u a0 d3)))
   obtain⟨o9,o5,rfl⟩:=zG u;go_roundw
   case rel=>
    refine⟨j+1,o9,o5,HN.out.2.2.2,rfl,by go_num,Ja (HT.out.next p8 (HN.out.2.1.trans b4) l2 H1.out.2.1.1 H1.out.2.1.2.1 a0 u (fun k e=>?_))⟩;rcases d3 with e2|e2
    ·exact .inl (by rw[<-e2];exact e)
    ·right;have e3:=e2.symm.trans e;simp at e3;omega
   case measure=>have:=HN.out.2.2.2;simp[intOf];omega
  ·obtain rfl:j=n:=by omega
   have b0:¬(j:Int)<(j:Int):=Zo;obtain⟨X2,f6,l0,g6⟩:=HT.out.done H1.out.2.1.2.2.1 (by have:=H1.out.2.1.2.2.2;omega);have a4:=b7.out.gr.trans (vW j M1);have a7:=tB j M1;obtain⟨tg,e7⟩:∃tg,M1.f.length=tg:=⟨_,rfl⟩
   rw[e7] at a7 g6;obtain⟨M2,h9⟩:∃M2,xE j M1=M2:=⟨_,rfl⟩
   rw[h9] at f6 a4 a7;have r2:=Ja (OpSt.start f6 (a4.cur r0.out));have k5:=a4.sz;have a5:=r2.out.block 1 (by have:=HZ.out.1;omega);rw[a7] at a5;obtain⟨jn,g1⟩:∃jn,tg+j=jn:=⟨_,rfl⟩
   rw[g1] at a5;have H2:=Ja (Jb (H1.out.1.trans l0) (Jb g6 (Jb k5 (Jb h9 (Jb e7 (Jb g1 (Jb a7 a4)))))));have o4:=Ja a5;clear f6 l0 g6 a4 a7 h9 e7 k5 a5 g1 HT;go_upto_region 7 with(go_at_call 56;go_must (refine o4.out.mono ?_;rintro e w3 ⟨rfl,q9⟩))
   obtain⟨kd,b5⟩:∃kd:Int,(if 2<j then 3 else 2)=kd:=⟨_,rfl⟩
   have d1:I64 kd:=by rw[<-b5];split<;>exact yF _ rfl
   have f9:2<j->kd=3:=fun e=>by rw[<-b5,if_pos e]
   have g0:¬2<j->kd=2:=fun e=>by rw[<-b5,if_neg e]
   have d7:=Ja (Jb b5 (Jb d1 (Jb f9 g0)));clear b5 d1 f9 g0
   go_upto_if 32 with fail
   go_cut [] (fun wx=>Hid (O w3 wx/\L wx w3.heap.size #[I kd,I x,.slice ta j tc] 82))
   case first=>
    by_cases h3:2<j
    ·have q1:(2:Int)<(j:Int):=Zo;have hk:=d7.out.2.2.1 h3;subst hk;go_wp2;go_meet;exact Ja ⟨(Below.refl _ _).alloc (Je _) _,zI rfl⟩
    ·have q1:¬(2:Int)<(j:Int):=Zo;have hk:=d7.out.2.2.2 h3;subst hk;go_wp2;go_meet;exact Ja ⟨(Below.refl _ _).alloc (Je _) _,zI rfl⟩
   case rest=>
   obtain⟨m4,c9⟩:=hcut.out;have t0:=zA (i:=0) c9 rfl;have t1:=zA (i:=1) c9 rfl;have t2:=zA (i:=2) c9 rfl;have o3:=Ja ((q9.out.below m4).endB kd x (xk tg j) (.slice ta j tc) d7.out.2.1 HX.out.1 (fun X hm hs=>H2.out.2.1.step yq (hs.av K)));clear m4 c9 hcut;go_upto_region 11 with(go_at_call 59;go_must (refine o3.out.mono ?_;rintro e w5 ⟨rfl,i9⟩))
   obtain⟨M3,d5⟩:∃M3,(M2.block 1).endB ⟨kd,x,xk tg j⟩=M3:=⟨_,rfl⟩
   rw[d5] at i9;obtain⟨X5,f4,f0⟩:=i9.out.made;have g5:=H2.out.2.1.step yq (f0.av K);have n8:∃n0 vv5 l5,MkIn w5 K X5 M3 n0 vv5 l5:=f4;obtain⟨n0,vv5,l5,d2⟩:=n8;have c7:=d2.c7;obtain⟨va5,vc5,e4⟩:=zG d2.vown;rw[e4] at c7;have n5:=lt_of_block d2.blk;have d0:M3.f.length=jn+1:=by rw[<-d5,(zv _ _).len,yz,<-H2.out.2.2.2.2.2.1];have:=H2.out.2.2.2.2.2.2.1;omega
   have k4:M3.sz<=M.sz+(6+j):=by have:=i9.out.gr.sz;have:=H2.out.2.2.1;omega
   have k6:6+j+j*(pC d+5)+1<=31+4*pC d:=by have:=Qw (pC d+5) p4;omega
   have H5:=Ja (Jb (H2.out.1.trans f0) (Jb g5 (Jb d5 (Jb d0 (Jb k4 k6)))));have r3:=Ja (show ArmMid w5 K X5 M3 d tg jn j 0 w5 M3 from⟨⟨X5,f4,Stp.refl _ _⟩,rfl,rfl,(GrowP.refl _).mono (Jt _)⟩);clear f4 f0 g5 d2 d5 d0 k4 k6 e4 t0 t1 t2;go_wp2;clear c7 n5
   go_loopw [12] (fun kv wx=>∃(i:Nat) (Mi:MS),i<=j/\kv=I i/\Hid (ArmMid w5 K X5 M3 d tg jn j i wx Mi)) (fun kv _=>j-(intOf kv).toNat)
   case atStart=>exact⟨0,M3,Jt _,rfl,r3⟩
   case round=>
    obtain⟨i,Mi,hi,rfl,a1⟩:=hrel;obtain⟨Xi,p5,b3⟩:=a1.out.made;obtain⟨fv,vv,l,q⟩:=p5
    by_cases a2:i<j
    ·have b0:(i:Int)<(j:Int):=Zo;have g4:=H5.out.2.1.step yq (b3.av K);obtain⟨eb,eo,p1,l7⟩:=edgeCell g4 rfl (nl a2);obtain⟨ti,e6⟩:∃ti,tg+i=ti:=⟨_,rfl⟩
     simp only[e6] at l7;have f5:=q.free 5;have f1:=lt_of_block q.blk;have c5:=q.c5;have b6:=q.goto ti;have p0:Mi.sz<=M3.sz+i*(pC d+5):=a1.out.gr.sz;have n7:i*(pC d+5)+(pC d+5)<=j*(pC d+5):=by have:=Qw (pC d+5) a2;rw[Nat.succ_mul] at this;exact this
     have m3:Mi.sz+(pC d+5)<=1000000:=by have h1:=HZ.out.1;have h2:=H5.out.2.2.2.2.1;have h3:=H5.out.2.2.2.2.2;omega
     have l8:ti<Mi.f.length:=by have h1:=a1.out.gr.len;have h2:=H5.out.2.2.2.1;have h3:=H2.out.2.2.2.2.2.1;omega
     have q6:=Ja e6;have m:=Ja (Jb b3 (Jb b6 (Jb m3 l8)));subst p1;clear e6 q b3 g4 b6 p0 n7 m3 l8;go_upto_region 16 with fail;generalize h7:wr.setCell ⟨K.pm,5,none⟩ (I ti)=W6 at *;obtain⟨M6,d4⟩:∃M6:MS,{Mi with cur:=ti }=M6:=⟨_,rfl⟩
     have k3:M6.sz+(pC d+5)<=1000000:=by rw[<-d4];exact m.out.2.2.1
     have m5:OpSt W6 K Xi M6 0 W6 M6:=by rw[<-d4];exact OpSt.start m.out.2.1.1.at m.out.2.2.2
     have a8:=Ja (Jb (m5.part HZ.out.2 Zo) (Jb d4 k3));have s4:IntKind.i64.wrap ((d:Int)+1-1)=(d:Int):=by rw[Om _ Zo];omega
     clear d4 k3 m5 h7 c5 f5 l7;go_upto_region 17 with(go_at_call 57;go_must (refine a8.out.1.mono ?_;rintro e w7 ⟨rfl,i2⟩))
     obtain⟨M7,h8⟩:∃M7,zp K.E d M6=M7:=⟨_,rfl⟩
     rw[h8] at i2;have o2:=Ja h8;clear h8
     go_cut [65] (fun v wx=>∃bb:Bool,v=.bool bb/\(bb=true↔(tkV K.E M7 12=11/\0<i))/\Hid (OpSt W6 K Xi M6 (0+pC d+1) wx M7.tick))
     case first=>
      by_cases ht:tkV K.E M7 12=11
      ·have d6:=Ja (i2.out.takeK 12 11 11 rfl ht Zd Zd (by have:=a8.out.2.2;omega));have HT:=Ja ht;clear ht
       by_cases h0:0<i
       ·have q2:(0:Int)<(i:Int):=Zo;go_wp2_with (go_at_call 55;go_must (refine d6.out.mono ?_;rintro e w8 ⟨rfl,a6⟩))
        go_meet;exact⟨true,rfl,⟨fun _=>⟨HT.out,h0⟩,fun _=>rfl⟩,a6⟩
       ·have q2:¬(0:Int)<(i:Int):=Zo;go_wp2_with (go_at_call 55;go_must (refine d6.out.mono ?_;rintro e w8 ⟨rfl,a6⟩))
        go_meet;exact⟨false,rfl,⟨(fun e=>by cases e),(fun e=>absurd e.2 h0)⟩,a6⟩
      ·have d6:=Ja (i2.out.take 12 Zd Zd (by have:=a8.out.2.2;omega));have HT:=Ja ht;clear ht;go_wp2_with (go_at_call 55;go_must (refine d6.out.mono ?_;rintro e w8 ⟨z,r6,o0,rfl,a6⟩;have tz:((z:Int)==11)=false:=by rw[beq_eq_false_iff_ne];have:=o0.out;have:=HT.out;omega))
       go_meet;exact⟨false,rfl,⟨(fun e=>by cases e),(fun e=>absurd e.1 HT.out)⟩,a6⟩
     case rest=>
     obtain⟨bb,rfl,h6,a6⟩:=hcut;have n1:=Ja h6;clear h6;have j2:=Ja (a6.out.any (by have:=a8.out.2.2;omega))
     go_upto_if 65 with fail
     go_cut [] (fun wx=>Hid (OpSt W6 K Xi M6 (0+pC d+1+4) wx (wM K.E jn i M7)))
     case first=>
      cases bb
      ·go_wp2_with (first|(go_at_call 58;go_must (refine j2.out.mono ?_;rintro e w9 ⟨y,HY,rfl,i1⟩;have r1:=Ja (i1.out.endN 1 0 [⟨(jn:Int),[y]⟩] (Y (w9.heap.size+1) 1 1) (yF _ rfl) (yF _ rfl) (((Below.refl _ _).alloc (Je _) _).alloc Zs _) (pj (w:=w9) (xs:=[y]) (blk:=(jn:Int)) (fun x hx=>by rw[Jo] at hx;subst hx;exact HY.out.1) Zs (vG _ Zo (by have h1:=H5.out.2.2.2.1;have h2:=H5.out.2.2.2.2.1;have h3:=HZ.out.1;unfold MS.sz at *;omega))))))|(go_at_call 59;go_must (refine r1.out.mono ?_;rintro e w10 ⟨rfl,c8⟩)))
       go_meet;refine Ja ?_
       have e1:wM K.E jn i M7=(zJ K.E M7.tick).2.endB ⟨1,0,[⟨(jn:Nat),[(zJ K.E M7.tick).1]⟩]⟩:=by
        unfold wM;rw[if_neg (fun e=>by have:=n1.out.2 e;cases this)]
       rw[e1,HY.out.2];exact c8.out
      ·go_wp2_with (first|(go_at_call 58;go_must (refine j2.out.mono ?_;rintro e w9 ⟨y,HY,rfl,i1⟩))|(go_at_call 59;go_must (refine(i1.out.endB 4 y [] (F) (yF _ rfl) HY.out.1 (fun X _ _=>yE.nil)).mono ?_;rintro e w10 ⟨rfl,c8⟩)))
       go_meet;refine Ja ?_
       have e1:wM K.E jn i M7=(zJ K.E M7.tick).2.endB ⟨4,(zJ K.E M7.tick).1,[]⟩:=by
        unfold wM;rw[if_pos (n1.out.1 (by trivial))]
       rw[e1,HY.out.2];exact c8.out
     case rest=>
     obtain⟨X9,⟨t4,vv9,l9,a3⟩,k9⟩:=hcut.out.made;obtain⟨va9,vc9,n2⟩:=zG a3.vown;subst n2;have c7:=a3.c7;have f7:=a3.free 7;have s1:=lt_of_block a3.blk
     have c1:M3.vals.length<=(wM K.E jn i M7).vals.length:=by
      have h1:=dO hcut.out.gr.pre;rw[<-a8.out.2.1] at h1;have h2:({Mi with cur:=ti }:MS).vals=Mi.vals:=rfl;rw[h2,a1.out.vals] at h1;exact h1
     have s3:M3.vals.length<=vc9:=Jn c1 (zm a3.vown).1;have r5:vc9<=9223372036854775807:=by have:=(zm a3.vown).2;omega
     have m1:=a3.cut c1;have j1:=Ja (Jb m1 k9);clear a3 c1 m1 k9 hcut;go_wp2;go_roundw
     case rel=>
      have hq:=a1.out.next (w2:=wc.setCell ⟨K.pm,7,none⟩ (.slice va9 M3.vals.length vc9)) a2 m.out.1 (by have h1:=H5.out.2.2.2.1;have h2:=H2.out.2.2.2.2.2.1;omega) ⟨X9,?_,(m.out.2.1.2.trans j1.out.2).trans j1.out.1.2⟩
      ·exact⟨i+1,_,a2,by go_num,Ja hq⟩
      ·rw[q6.out,a8.out.2.1,o2.out];exact j1.out.1.1.at
     case measure=>have:=a2;simp[intOf];omega
    ·obtain rfl:i=j:=by omega
     have b0:¬(i:Int)<(i:Int):=Zo;have a9:=a1.out.rest;rw[show i-i=0 by omega] at a9
     have n6:∃b,Mi.f[jn]? =some b/\b.params=[(M2.next:Int)]:=by
      have a7:=H2.out.2.2.2.2.2.2.1;have s8:=H2.out.2.2.2.2.2.1
      have h0:(M2.block 1).f[jn]? =some (wJ M2.next 1):=by
       show(M2.f++ [wJ M2.next 1])[jn]? =_
       rw[Nc Zo,show jn-M2.f.length=0 by omega];rfl
      obtain⟨b1,h1,h2⟩:=(zv (M2.block 1) ⟨kd,x,xk tg i⟩).par _ _ h0;rw[H5.out.2.2.1] at h1;obtain⟨b2,h3,h4⟩:=a1.out.gr.par _ _ h1;exact⟨b2,h3,h4.trans (h2.trans rfl)⟩
     obtain⟨bj,g8,m2⟩:=n6;have b6:=q.goto jn;have c5:=q.c5;have f5:=q.free 5;have f1:=lt_of_block q.blk;have s7:jn<l.length:=by rw[q.len];exact(Jh.1 g8).1
     have p9:=q.flen;rw[<-q.len] at p9;have m:=Ja (Jb b3 (Jb b6 (Jb g8 (Jb m2 a9))));clear q b3 b6 g8 m2 a9;go_upto_region 22 with fail;generalize h7:wr.setCell ⟨K.pm,5,none⟩ (I jn)=W6 at *;obtain⟨g,c,pa,pc,l4,s9,q0,f2⟩:=m.out.2.1.1.parAt (i:=jn) m.out.2.2.1;have h0:=f2 0 (M2.next:Int) (by rw[m.out.2.2.2.1];rfl);obtain⟨bb,o,p3,h6,k1,h64⟩:=h0;rw[Uk] at k1;rw[m.out.2.2.2.1] at q0;obtain⟨va,vc,e5⟩:=zG m.out.2.1.1.vown;have u:=m.out.2.1.1.vown;have c4:=m.out.2.1.1.c4;have c7:=m.out.2.1.1.c7;have f7:=m.out.2.1.1.free 7;have k2:=lt_of_block m.out.2.1.1.blk;have nb:=zC u m.out.2.1.1.blk (.inr Zd);rw[e5] at u c7 nb;rw[l4] at c4;subst p3;have o1:=Ja u;have q5:=Ja e5;have r4:=Ja h64
     have s5:Mi.vals.length<=999999:=by
      have h1:=a1.out.vals;have h2:=H5.out.2.2.2.2.1;have h3:=HZ.out.1;have h4:M3.vals.length<=M3.sz:=by unfold MS.sz;omega
      have h5:pC d≥101:=by cases d<;>unfold pC<;>omega
      rw[h1];omega
     have q4:∀o,T (W6.alloc o) K.pm 7 (.slice va Mi.vals.length vc):=fun o=>(Oo (w:=W6) (Below.heap_alloc _ _ _ k2)).trans c7
     have q3:∀o,N (W6.alloc o) K.pm 7:=fun o=>(Qm (w:=W6) (Below.heap_alloc _ _ _ k2)).trans f7
     have t3:K.B<=W6.heap.size:=m.out.2.1.1.size;obtain⟨ij,g2,c0,b9,b8⟩:=info_parts Tryz.info_int;have HP:=Ja f2;clear u e5 h64 f2 l4 b0 c5 f5 f1 h7
     go_region_law (first|(refine step_append_lies _ (by rfl) (.tmp 97) (.tmp 109) _ (by rfl) K.B 3 ij (I 0) 1 8 Tryz.underlying22 g2 c0 b9 b8 rfl Zo (.slice va Mi.vals.length vc) Mi.vals.length (Mi.vals.map zN) (by rfl) ((o1.out.alloc _).drew) ⟨W6.heap.size,0,none⟩ 1 1 [I (M2.next:Int)] (by rfl) (by rfl) (Oi (cs:=#[I (M2.next:Int)]) (t:=3) (fr:=(0,0)) (heap_alloc_new W6 _)) (by simp[Value.oneCell']) Zo (by unfold maxLen;omega) Zo Zt (W6.heap.size+1) Zs ?_;intro gg n9 w3 k0 a0 d3 s2;have t6:=(a0.cell_far ⟨K.pm,7,none⟩ Zt (Ne.symm nb)).trans (q4 _);have t5:=(a0.frozen_far ⟨K.pm,7,none⟩ Zt (Ne.symm nb)).trans (q3 _)))
     all_goals go_wp2_with fail
     all_goals (first|go_end0|refine bodyPost_ret (results_none rfl _ _ _) rfl ?_)
     all_goals (
      have a4:=xN a0;rw[<-q5.out] at a4 d3
      have hP:=m.out.2.1.1.putV (vv':=Y gg (Mi.vals.length+1) n9) (x:=(M2.next:Int)) a4 k0 (fun k e=>by
       have e2:gg=k:=by simpa[Value.ownBlock] using e
       subst e2;rcases d3 with e3|e3
       ·exact .inl e3
       ·right;omega) r4.out (by
       have h1:=a1.out.gr.sz;have h2:=H5.out.2.2.2.2.1;have h3:=H5.out.2.2.2.2.2;have h4:=HZ.out.1
       show Mi.sz+1<=1000000
       omega)
      refine⟨rfl,_,?_,(H5.out.1.trans m.out.1).trans (m.out.2.1.2.trans hP.2)⟩
      have e:xi K.E (zp K.E d) i M= {Mi with cur:=jn,vals:=Mi.vals++ [(M2.next:Int)]}:=by
       unfold xi;simp only;rw[H1.out.2.2,HX.out.2,H2.out.2.2.2.1,H2.out.2.2.2.2.1,H2.out.2.2.2.2.2.1,d7.out.1,H5.out.2.2.1,m.out.2.2.2.2];have e0:Mi.f.getD jn ⟨[],[],⟨0,0,[]⟩⟩=bj:=by rw[Jj,m.out.2.2.1];rfl
       show({Mi with cur:=jn,vals:=Mi.vals++ [((Mi.f.getD jn ⟨[],[],⟨0,0,[]⟩⟩).params).getD 0 0]}:MS)=_
       rw[e0,m.out.2.2.2.1];rfl
      rw[e]
      exact hP.1.at)
theorem iQ {α:Type}{x a b:α}(h:x∈ [a,b]):x=a∨x=b:=by simpa using h
theorem jq {a b:Int}(c:I64 a)(hb:I64 b):∀x∈ [a,b],I64 x:=fun x h=>by
 rcases iQ h with rfl|rfl
 ·exact c
 ·exact hb
theorem lit_two{x y:Int}(d:I64 x)(c:I64 y)(X:Nat->Prop)(g:∀k,X k->k<w.heap.size):
 vT (w.alloc (G #[I x,F,I y,F] 79)) X (Y w.heap.size 2 2) [⟨x,[]⟩,⟨y,[]⟩]:=by
 refine qt (l:=[((⟨x,[]⟩:IEdge),F),((⟨y,[]⟩:IEdge),F)]) (e:=79) (zI Zs) (fun e=>by have:=g _ e;omega) (fun q hq=>?_) Zs;rcases iQ hq with rfl|rfl
 ·exact⟨d,yE.nil⟩
 ·exact⟨c,yE.nil⟩
theorem OpSt.goto(h:OpSt w0 K X0 M0 c w M)(k:Nat)(hk:k<M.f.length):OpSt w0 K X0 M0 c (w.setCell ⟨K.pm,5,none⟩ (I k)) {M with cur:=k }:=by
 obtain⟨X,⟨fv,vv,l,hi⟩,hs⟩:=h.made;exact⟨⟨X,(hi.goto k).1.at,hs.trans (hi.goto k).2⟩,h.gr.trans (vk M k hk),hk⟩
theorem OpSt.facts(h:OpSt w0 K X0 M0 c w M):∃X fv vv l,MkIn w K X M fv vv l/\Stp X0 w0 X w:=by
 obtain⟨X,⟨fv,vv,l,hi⟩,hs⟩:=h.made;exact⟨X,fv,vv,l,hi,hs⟩
theorem OpSt.push(h:OpSt w0 K X0 M0 c w M)(x:Int){w':World}(d:∃X',wW w' K X' {M with vals:=M.vals++ [x]}/\Stp X0 w0 X' w'):OpSt w0 K X0 M0 (c+1) w' {M with vals:=M.vals++ [x]}:=by
 refine⟨d,h.gr.trans ⟨Je _,?_,Je _,Je _,Qb _ _,fun e=>e,Og _,fun e=>e,xU.refl _⟩,h.cur⟩;unfold MS.sz;simp only[Jk,Ju];omega
theorem loop_any(hd:d<=5)(hP:sU d)(h:wW w K X M)(g2:M.cur<M.f.length)(hz:M.sz+(24+pC d)<=1000000):
 A 113 #[Q K.pm,I ((d:Int)+1)] w (yk K X w (tH K.E (zp K.E d) M) (.tuple #[])):=by
 have HA:=Ja (OpSt.start h g2);have q:=Ja (Jb hz hP);clear h g2 hz hP;go_enter Tryz.func113,Tryz.ntmps113;go_upto_region 1 with(first|(go_at_call 55;go_must (refine(HA.out.take 5 Zd Zd (by have:=q.out.1;omega)).mono ?_;rintro e w1 ⟨z,qz,Hz,rfl,k0⟩))|(go_at_call 114;go_must (refine(k0.out.num z Zo (by have:=q.out.1;omega)).mono ?_;rintro e w2 ⟨rfl,i9⟩)))
 generalize f8:((M.tick.next:Nat):Int)=n0 at *;have f3:I64 n0:=by rw[<-f8];exact k0.out.n64
 have HN:=Ja (Jb f8 (Jb f3 Hz.out));obtain⟨MA,g5⟩:∃MA,M.tick.num z=MA:=⟨_,rfl⟩
 rw[g5] at i9;have r2:=Ja g5;clear g5 f8 f3 k0 HA;go_upto_region 2 with(go_at_call 58;go_must (refine(i9.out.any (by have:=q.out.1;omega)).mono ?_;rintro e w3 ⟨x,HX,rfl,b4⟩))
 obtain⟨MB,g4⟩:∃MB,(zJ K.E MA).2=MB:=⟨_,rfl⟩
 rw[g4] at b4;obtain⟨tg,b8⟩:∃tg,MB.f.length=tg:=⟨_,rfl⟩
 obtain⟨b1,n5⟩:∃b1,tg+1=b1:=⟨_,rfl⟩
 obtain⟨b2,m5⟩:∃b2,tg+2=b2:=⟨_,rfl⟩
 have h7:=b4.out.block 2 (by have:=q.out.1;omega);rw[b8] at h7;have l1:=b4.out.flen;rw[b8] at l1;have p1:=Ja h7;have l:=Ja (Jb g4 (Jb b8 (Jb n5 m5)));clear h7 g4 b8 n5 m5 i9;go_upto_region 3 with(go_at_call 56;go_must (refine p1.out.mono ?_;rintro e w4 ⟨rfl,a3⟩))
 have d6:=a3.out.block 0 (by have:=q.out.1;omega);rw[yz,l.out.2.1,l.out.2.2.1] at d6;have p0:=Ja d6;clear d6 p1;go_upto_region 4 with(go_at_call 56;go_must (refine p0.out.mono ?_;rintro e w5 ⟨rfl,o0⟩))
 have h6:=o0.out.block 0 (by have:=q.out.1;omega);rw[yz,yz,l.out.2.1,show tg+1+1=tg+2 from rfl,l.out.2.2.2] at h6;have o9:=Ja h6;clear h6 p0;go_upto_region 5 with(go_at_call 56;go_must (refine o9.out.mono ?_;rintro e w6 ⟨rfl,n9⟩))
 have o5:=Ja (n9.out.endN 1 0 [⟨(tg:Int),[n0,x]⟩] (Y (w6.heap.size+1) 1 1) (yF _ rfl) (yF _ rfl) (((Below.refl _ _).alloc (Je _) _).alloc Zs _) (pj (w:=w6) (xs:=[n0,x]) (blk:=(tg:Int)) (jq HN.out.2.1 HX.out.1) Zs (vG _ Zo Zo)));clear o9;go_upto_region 6 with(go_at_call 59;go_must (refine o5.out.mono ?_;rintro e w7 ⟨rfl,i2⟩))
 obtain⟨M2,b3⟩:∃M2,(((MB.block 2).block 0).block 0).endB ⟨1,0,[⟨(tg:Int),[n0,x]⟩]⟩=M2:=⟨_,rfl⟩
 rw[b3] at i2;have a7:M2.f.length=tg+3:=by rw[<-b3,(zv _ _).len,yz,yz,yz,l.out.2.1]
 have f1:∃b,M2.f[tg]? =some b/\b.params=[((MB.next:Nat):Int),((MB.next+1:Nat):Int)]:=by
  have h0:(MB.block 2).f[tg]? =some (wJ MB.next 2):=by
   show(MB.f++ [wJ MB.next 2])[tg]? =_
   rw[Nc (by have:=l.out.2.1;omega),l.out.2.1,Qy];rfl
  obtain⟨c1,k1,k2⟩:=(xM (MB.block 2) 0).par _ _ h0;obtain⟨c2,k3,k4⟩:=(xM ((MB.block 2).block 0) 0).par _ _ k1;obtain⟨c3,k5,k6⟩:=(zv (((MB.block 2).block 0).block 0) ⟨1,0,[⟨(tg:Int),[n0,x]⟩]⟩).par _ _ k3;rw[b3] at k5;exact⟨c3,k5,k6.trans (k4.trans (k2.trans rfl))⟩
 obtain⟨X7,t3,vv7,l7,c9,q7⟩:=i2.out.facts;have r5:=lt_of_block c9.blk;have c5:=c9.c5;have f5:=c9.free 5;have u:=i2.out.goto tg (by rw[a7];omega);have q0:=b4.out.next;have d1:=b4.out.n64;have d0:I64 ((MB.next+1:Nat):Int):=vG _ Zo (by have:=a3.out.next;show((MB.next+1:Nat):Int)<=1000000;have e:(MB.block 2).next=MB.next+2:=rfl;rw[e] at this;omega);have H2:=Ja (Jb b3 (Jb a7 (Jb u (Jb f1 (Jb d1 d0)))));clear b3 a7 f1 c9 q7 u q0 d1 d0 o5 a3 o0 n9;go_upto_region 7 with fail;generalize s8:w7.setCell ⟨K.pm,5,none⟩ (I tg)=W8 at *;obtain⟨M3,d5⟩:∃M3:MS,{M2 with cur:=tg }=M3:=⟨_,rfl⟩
 have H3:=H2.out.2.2.1;rw[d5] at H3;obtain⟨bk,g3,m4⟩:=H2.out.2.2.2.1;obtain⟨X8,t2,vv8,l8,j,l2⟩:=H3.facts;have g1:M3.f=M2.f:=by rw[<-d5]
 obtain⟨g,c,pa,pc,m2,s6,m3,b9⟩:=j.parAt (i:=tg) (b:=bk) (by rw[g1];exact g3);rw[m4] at m3 b9;obtain⟨bb,o,l3,s7,a0,_⟩:=b9 0 _ rfl;obtain⟨bb2,o2,f2,_,b0,_⟩:=b9 1 _ rfl;rw[l3] at f2;cases f2;rw[Uk] at a0;obtain⟨va,vc,e5⟩:=zG j.vown;have a6:=j.vown;have c4:=j.c4;have c7:=j.c7;have f7:=j.free 7;have e1:=lt_of_block j.blk;have s5:tg<l8.length:=by rw[j.len,g1];exact(Jh.1 g3).1
 have q9:=j.flen;rw[<-j.len] at q9;have nb:=zC a6 j.blk (.inr Zd);rw[e5] at a6 c7 nb;rw[m2] at c4;subst l3;generalize f6:((MB.next:Nat):Int)=n1 at a0;generalize f4:((MB.next+1:Nat):Int)=n2 at b0;have q2:=Ja a6;have r1:=Ja e5
 have s3:M3.vals.length<=999999:=by
  have h1:=j.bnd;have h2:M3.vals.length<=M3.sz:=by unfold MS.sz;omega
  have h3:=H3.gr.sz;have h4:=q.out.1;omega
 have n8:∀o,T (W8.alloc o) K.pm 7 (.slice va M3.vals.length vc):=fun o=>(Oo (w:=W8) (Below.heap_alloc _ _ _ e1)).trans c7
 have n7:∀o,N (W8.alloc o) K.pm 7:=fun o=>(Qm (w:=W8) (Below.heap_alloc _ _ _ e1)).trans f7
 have d6:K.B<=W8.heap.size:=j.size;obtain⟨ij,r0,p5,p4,p3⟩:=info_parts Tryz.info_int;have e8:I64 n2:=by rw[<-f4];exact H2.out.2.2.2.2.2
 have b7:I64 n1:=by rw[<-f6];exact H2.out.2.2.2.2.1
 have HP:=Ja (Jb d5 (Jb H3 (Jb j (Jb l2 (Jb f6 (Jb f4 (Jb b7 e8)))))));clear a6 e5 b9 m2 d5 H3 j l2 f6 f4 e8 b7 g3 m4 g1;go_upto_region 8 with fail
 go_cut [] (fun wx=>Hid (OpSt w K X M (1+3+4+(1+2)+(1+0)+(1+0)+1) wx {M3 with vals:=M3.vals++ [n2]}))
 case first=>
  go_region_law (first|(refine step_append_lies _ (by rfl) (.tmp 54) (.tmp 66) _ (by rfl) K.B 3 ij (I 0) 1 8 Tryz.underlying22 r0 p5 p4 p3 rfl Zo (.slice va M3.vals.length vc) M3.vals.length (M3.vals.map zN) (by rfl) ((q2.out.alloc _).drew) ⟨W8.heap.size,0,none⟩ 1 1 [I n2] (by rfl) (by rfl) (Oi (cs:=#[I n2]) (t:=3) (fr:=(0,0)) (heap_alloc_new W8 _)) (by simp[Value.oneCell']) Zo (by unfold maxLen;omega) Zo Zt (W8.heap.size+1) Zs ?_;intro gg q1 w3 l0 a8 n6 r6;have t5:=(a8.cell_far ⟨K.pm,7,none⟩ Zt (Ne.symm nb)).trans (n8 _);have t4:=(a8.frozen_far ⟨K.pm,7,none⟩ Zt (Ne.symm nb)).trans (n7 _)))
  all_goals go_wp2_with fail
  all_goals go_meet
  all_goals (
   have m1:=xN a8;rw[<-r1.out] at m1 n6
   have hP:=HP.out.2.2.1.putV (vv':=Y gg (M3.vals.length+1) q1) (x:=n2) m1 l0 (fun k e=>by
    have e2:gg=k:=by simpa[Value.ownBlock] using e
    subst e2;rcases n6 with e3|e3
    ·exact .inl e3
    ·right;omega) HP.out.2.2.2.2.2.2.2 (by
    have h3:=HP.out.2.1.gr.sz;have h4:=q.out.1
    omega)
   exact Ja (HP.out.2.1.push n2 ⟨_,hP.1.at,HP.out.2.2.2.1.trans hP.2⟩))
 case rest=>
 obtain⟨M4,d4⟩:∃M4:MS,{M3 with vals:=M3.vals++ [n2]}=M4:=⟨_,rfl⟩
 rw[d4] at hcut;have c8:M4.f.length=tg+3:=by rw[<-d4,<-HP.out.1];exact H2.out.2.1
 have b5:I64 (b1:Int)/\I64 (b2:Int):=by
  have h1:=l.out.2.2.1;have h2:=l.out.2.2.2;exact⟨vG _ Zo (by have:=hcut.out.flen;omega),vG _ Zo (by have:=hcut.out.flen;omega)⟩
 have o4:=Ja (hcut.out.endN 2 n1 [⟨(b1:Int),[]⟩,⟨(b2:Int),[]⟩] (Y wc.heap.size 2 2) (yF _ rfl) HP.out.2.2.2.2.2.2.1 ((Below.refl _ _).alloc (Je _) _) (lit_two b5.1 b5.2));have a3:=Ja (Jb d4 c8);clear d4 c8 b5 c4 c7 f7 n8 n7 nb e1 a0 b0 m3;go_upto_region 10 with(go_at_call 59;go_must (refine o4.out.mono ?_;rintro e w9 ⟨rfl,i1⟩))
 obtain⟨M5,d3⟩:∃M5,M4.endB ⟨2,n1,[⟨(b1:Int),[]⟩,⟨(b2:Int),[]⟩]⟩=M5:=⟨_,rfl⟩
 rw[d3] at i1;have c0:M5.f.length=tg+3:=by rw[<-d3,(zv _ _).len];exact a3.out.2
 obtain⟨X9,s9,vv9,l9,a1,q6⟩:=i1.out.facts;obtain⟨va9,vc9,e4⟩:=zG a1.vown;have c7:=a1.c7;rw[e4] at c7;have p8:=lt_of_block a1.blk;have c5:=a1.c5;have f5:=a1.free 5;have u:=i1.out.goto b1 (by have:=l.out.2.2.1;omega);have H5:=Ja (Jb d3 (Jb c0 u));clear d3 c0 a1 q6 e4 u o4;go_upto_region 12 with fail;generalize p9:w9.setCell ⟨K.pm,5,none⟩ (I b1)=W10 at *;obtain⟨M6,h5⟩:∃M6:MS,{M5 with cur:=b1 }=M6:=⟨_,rfl⟩
 have h9:=H5.out.2.2;rw[h5] at h9;have h8:=Ja (Jb (h9.part q.out.2 (by have:=q.out.1;omega)) h5);have q5:IntKind.i64.wrap ((d:Int)+1-1)=(d:Int):=by rw[Om _ Zo];omega
 clear h5 h9 p9 c5 f5 c7 p8;go_upto_region 13 with(go_at_call 57;go_must (refine h8.out.1.mono ?_;rintro e w11 ⟨rfl,a9⟩))
 clear q5;obtain⟨M7,g8⟩:∃M7,zp K.E d M6=M7:=⟨_,rfl⟩
 rw[g8] at a9;have i0:=Ja (a9.out.num 1 Zo (by have:=q.out.1;omega));have h64:=a9.out.n64;generalize l5:((M7.next:Nat):Int)=n3 at i0 h64;have e0:=Ja (Jb g8 (Jb l5 h64));clear g8 l5 h64;go_upto_region 14 with(go_at_call 114;go_must (refine i0.out.mono ?_;rintro e w12 ⟨rfl,b6⟩))
 have a4:=b6.out.emit 6 n1 n3 0 (yF _ rfl) HP.out.2.2.2.2.2.2.1 e0.out.2.2 Zo (by have:=q.out.1;omega);have e6:sB (M7.num 1) 6=((M7.next+1:Nat):Int):=rfl;rw[e6] at a4;have d7:=b6.out.n64;have e7:(M7.num 1).next=M7.next+1:=rfl;rw[e7] at d7;generalize l4:((M7.next+1:Nat):Int)=n4 at a4 d7;have a4:=Ja a4;have o3:=Ja (Jb l4 d7);clear l4 d7 e6 e7 i0 a9;go_upto_region 15 with(go_at_call 132;go_must (refine a4.out.mono ?_;rintro e w13 ⟨rfl,j2⟩))
 obtain⟨M8,g6⟩:∃M8,(M7.num 1).emit ⟨6,0,n1,n3,0,[]⟩=M8:=⟨_,rfl⟩
 rw[g6] at j2;have o1:=Ja g6;clear g6 a4 b6;have q4:=Ja (j2.out.any (by have:=q.out.1;omega));go_upto_region 16 with(first|(go_at_call 58;go_must (refine q4.out.mono ?_;rintro e w14 ⟨y,HY,rfl,q3⟩;have r3:=Ja (q3.out.endN 1 0 [⟨(tg:Int),[n4,y]⟩] (Y (w14.heap.size+1) 1 1) (yF _ rfl) (yF _ rfl) (((Below.refl _ _).alloc (Je _) _).alloc Zs _) (pj (w:=w14) (xs:=[n4,y]) (blk:=(tg:Int)) (jq o3.out.2 HY.out.1) Zs (vG _ Zo Zo)))))|(go_at_call 59;go_must (refine r3.out.mono ?_;rintro e w15 ⟨rfl,j1⟩)))
 obtain⟨M9,d2⟩:∃M9,(zJ K.E M8).2.endB ⟨1,0,[⟨(tg:Int),[n4,y]⟩]⟩=M9:=⟨_,rfl⟩
 rw[d2] at j1;obtain⟨X15,s1,vv15,s2,m,f0⟩:=j1.out.facts;obtain⟨va15,vc15,k7⟩:=zG m.vown;subst k7;have c7:=m.c7;have f7:=m.free 7;have k9:=lt_of_block m.blk
 have g0:GrowP (0+pC d+3+3+4) M5 M9:=by
  have hE:=m.at.alt;have h1:=(vk M5 b1 (by have h1:=l.out.2.2.1;have h2:=H5.out.2.1;omega))
  rw[h8.out.2] at h1;have h2:=h1.trans (xw K.E hE d M6);rw[e0.out.1] at h2;have h3:=(h2.trans (wT M7 1).p).trans (yB (M7.num 1) ⟨6,0,n1,n3,0,[]⟩).p;rw[o1.out] at h3;have h4:=(h3.trans (yU K.E M8).p).trans (zv (zJ K.E M8).2 ⟨1,0,[⟨(tg:Int),[n4,y]⟩]⟩).p;rw[d2] at h4;exact h4
 have f9:M5.vals.length<=M9.vals.length:=dO g0.pre;have s4:M5.vals.length<=vc15:=Jn f9 (zm m.vown).1;have r8:vc15<=9223372036854775807:=by have:=(zm m.vown).2;omega
 have a2:=m.cut f9;have c5:=a2.1.c5;have f5:=a2.1.free 5;have u:=a2.1.goto b2;have a5:=Ja (Jb a2.1 (Jb a2.2 (Jb u (Jb f0 (Jb d2 g0)))));clear m f9 a2 f0 d2 g0 u;go_upto_region 17 with fail;generalize s0:w15.setCell ⟨K.pm,7,none⟩ (.slice va15 M5.vals.length vc15)=W16 at *;have r4:=lt_of_block a5.out.1.blk;clear c7 f7 k9;go_wp2
 first|go_end0|refine bodyPost_ret (results_none rfl _ _ _) rfl ?_
 refine⟨rfl,X15,?_,(a5.out.2.2.2.1.trans a5.out.2.1).trans a5.out.2.2.1.2⟩
 have e:tH K.E (zp K.E d) M= {M9 with vals:=M9.vals.take M5.vals.length,cur:=b2 }:=by
  unfold tH;simp only;have k1:((M.next:Nat):Int)=n0:=HN.out.1;have k4:({M2 with cur:=tg,vals:=M2.vals++ [n2]}:MS)=M4:=by rw[<-a3.out.1,<-HP.out.1]
  rw[HN.out.2.2,r2.out,HX.out.2,l.out.1,l.out.2.1,k1,H2.out.1,HP.out.2.2.2.2.2.1,k4,HP.out.2.2.2.2.1,l.out.2.2.1,l.out.2.2.2,H5.out.1,h8.out.2,e0.out.1,e0.out.2.1,o3.out.1,o1.out,HY.out.2,a5.out.2.2.2.2.1]
 rw[e];exact a5.out.2.2.1.1.at
theorem OpSt.op(h:OpSt w0 K X0 M0 c w M)(i:M0.sz+(c+20)<=1000000):
 A 111 #[Q K.pm] w fun e w'=>e=.returned (.tuple #[])/\Hid (OpSt w0 K X0 M0 (c+20) w' (xK K.E M)):=by
 obtain⟨X,hm,hs⟩:=h.made;refine(op_any hm h.cur (by have:=h.gr.sz;omega)).mono ?_;rintro e w' ⟨rfl,X',g,d⟩;have hg:=pX K.E hm.alt M;exact⟨rfl,Ja ⟨⟨X',g,hs.trans d⟩,h.gr.trans hg.p,by rw[hg.cur,hg.len];exact h.cur⟩⟩
theorem OpSt.mono{c':Nat}(h:OpSt w0 K X0 M0 c w M)(d:c<=c'):OpSt w0 K X0 M0 c' w M:=⟨h.made,h.gr.mono d,h.cur⟩
theorem sU.of(h:∀(w:World) (K:MKC) (X:Nat->Prop) (M:MS),OpSt w K X M 0 w M->M.sz+pC d<=1000000->A 57 #[Q K.pm,I d] w (yk K X w (zp K.E d M) (.tuple #[]))):sU d:=
 fun w K X M hm hc hz=>h w K X M (OpSt.start hm hc) hz
theorem OpSt.choice(h:OpSt w0 K X0 M0 c w M)(m:d<=5)(o:sU d)(n:Nat)(nI:Int)(j:(n:Int)=nI)(k:2<=n)(g:n<=4)(q:M0.sz+(c+(31+4*pC d))<=1000000):
 A 112 #[Q K.pm,I ((d:Int)+1),I nI] w fun e w'=>e=.returned (.tuple #[])/\Hid (OpSt w0 K X0 M0 (c+(31+4*pC d)) w' (xi K.E (zp K.E d) n M)):=by
 obtain⟨X,hm,hs⟩:=h.made;rw[<-j];refine(lH m o hm h.cur k g (by have:=h.gr.sz;omega)).mono ?_;rintro e w' ⟨rfl,X',l,i⟩;have hg:=uU K.E _ _ (xw K.E hm.alt d) n g M;exact⟨rfl,Ja ⟨⟨X',l,hs.trans i⟩,h.gr.trans hg,hg.cur h.cur⟩⟩
theorem OpSt.loop(h:OpSt w0 K X0 M0 c w M)(j:d<=5)(k:sU d)(l:M0.sz+(c+(24+pC d))<=1000000):
 A 113 #[Q K.pm,I ((d:Int)+1)] w fun e w'=>e=.returned (.tuple #[])/\Hid (OpSt w0 K X0 M0 (c+(24+pC d)) w' (tH K.E (zp K.E d) M)):=by
 obtain⟨X,hm,hs⟩:=h.made;refine(loop_any j k hm h.cur (by have:=h.gr.sz;omega)).mono ?_;rintro e w' ⟨rfl,X',i,g⟩;have hg:=qg K.E _ _ (xw K.E hm.alt d) M;exact⟨rfl,Ja ⟨⟨X',i,hs.trans g⟩,h.gr.trans hg,hg.cur h.cur⟩⟩
theorem OpSt.counted(h:OpSt w0 K X0 M0 c w M)(hp:M0.pos<M.pos)(hl:M.left=M0.left)(h0:6<=M0.left+M0.pos):OpSt w0 K X0 M0 c (w.setCell ⟨K.pm,8,none⟩ (I (M.left-1))) {M with left:=M.left-1 }:=by
 obtain⟨X,⟨fv,vv,l,hi⟩,hs⟩:=h.made;have h1:6<=(M.left-1)+(M.pos:Int):=Zo;have h2:=hi.setC 8 (I (M.left-1)) {M with left:=M.left-1 } vv rfl rfl hi.vown hi.v64 hi.xv hi.bnd ⟨h1,by have:=hi.lft;show M.left-1<=6;omega⟩;have g:=h.gr;exact⟨⟨X,h2.1.at,hs.trans h2.2⟩,⟨g.pos,g.sz,g.len,g.nxt,g.pre,g.cur,by have:=g.left;show M.left-1<=_;omega,fun _=>h1,g.par⟩,h.cur⟩
theorem km:sU 0:=sU.of fun w K X M h hz=>by
 have d:=Ja (Jb h hz);clear h hz
 show A 57 #[Q K.pm,I 0] w _
 go_enter Tryz.func57,Tryz.ntmps57;go_wp2_with (go_at_call 55;go_must (refine(d.out.1.take 5 Zd Zd (by have:=d.out.2;unfold pC at this;omega)).mono ?_;rintro e w1 ⟨t,ht,o,rfl,m⟩))
 go_loopw [4] (fun kv wx=>∃(kI:Int) (Mj:MS),-1<=kI/\kI<=(t:Int)/\kv=I kI/\Hid (OpSt w K X M (1+20*((t:Int)-kI).toNat) wx Mj/\qY K.E (t+1) M.tick=qY K.E (kI+1).toNat Mj/\Mj.left=M.left/\M.pos<Mj.pos)) (fun kv _=>(intOf kv+1).toNat)
 case atStart=>exact⟨_,_,by omega,by omega,rfl,Ja ⟨m.out.mono Zo,by congr 1,rfl,Nat.lt_succ_self _⟩⟩
 case round=>
  obtain⟨kI,Mj,a2,a1,rfl,c⟩:=hrel
  by_cases h0:0<=kI
  ·have q:=Ja (c.out.1.op (by have:=d.out.2;unfold pC at this;omega));go_wp2_with (go_at_call 111;go_must (refine q.out.mono ?_;rintro e w2 ⟨rfl,k⟩))
   go_roundw
   case rel=>
    have hg:=pX K.E (by obtain⟨X',hm,_⟩:=c.out.1.made;exact hm.alt) Mj;refine⟨kI-1,_,by omega,by omega,rfl,Ja ⟨k.out.mono Zo,?_,hg.left.trans c.out.2.2.1,Jy c.out.2.2.2 hg.pos⟩⟩;rw[c.out.2.1,show(kI+1).toNat=(kI-1+1).toNat+1 by omega];rfl
   case measure=>simp[intOf];omega
  ·obtain rfl:kI=-1:=by omega
   obtain⟨X',fv,vv,l,hi,hs⟩:=c.out.1.facts
   have g:6<=M.left+M.pos:=by
    obtain⟨_,_,_,_,j,_⟩:=d.out.1.facts;exact j.lft.1
   have i:=c.out.1.counted c.out.2.2.2 c.out.2.2.1 g;have c8:=hi.c8;have f8:=hi.free 8;have y:=lt_of_block hi.blk;have a0:=hi.lft;have a3:(Mj.pos:Int)<=1000000:=by have:=hi.bnd;unfold MS.sz at this;omega
   have x:IntKind.i64.wrap (Mj.left-1)=Mj.left-1:=Om _ Zo;have u:=Ja i;clear hi hs i g;go_wp2
   first|go_end0|refine bodyPost_ret (results_none rfl _ _ _) rfl ?_
   have e:zp K.E 0 M= {Mj with left:=Mj.left-1 }:=by
    show tR K.E M=_
    unfold tR;simp only;rw[o.out,c.out.2.1];rfl
   rw[e];exact u.out.ret
theorem jB(hd:d<=5)(hP:sU d):sU (d+1):=sU.of fun w K X M h hz=>by
 have a1:pC (d+1)=134+4*pC d:=rfl;rw[a1] at hz;have i:=Ja (Jb h hz);have y:=Ja hP;clear h hz hP a1;have c0:¬((d:Int)+1<1):=Zo;have c1:decide ((d:Int)+1<1)=false:=by rw[decide_eq_false_iff_not];omega
 rw[show((d+1:Nat):Int)=(d:Int)+1 from Int.natCast_succ d];go_enter Tryz.func57,Tryz.ntmps57;go_wp2_with (go_at_call 55;go_must (refine(i.out.1.take 5 Zd Zd (by have:=i.out.2;omega)).mono ?_;rintro e w1 ⟨t,ht,HT,rfl,b5⟩))
 go_loopw [4] (fun kv wx=>∃(kI:Int) (Mj:MS),-1<=kI/\kI<=(t:Int)/\kv=I kI/\Hid (OpSt w K X M (1+20*((t:Int)-kI).toNat) wx Mj/\qY K.E (t+1) M.tick=qY K.E (kI+1).toNat Mj/\Mj.left=M.left/\M.pos<Mj.pos)) (fun kv _=>(intOf kv+1).toNat)
 case atStart=>exact⟨_,_,by omega,by omega,rfl,Ja ⟨b5.out.mono Zo,by congr 1,rfl,Nat.lt_succ_self _⟩⟩
 case round=>
  obtain⟨kI,Mj,b9,b8,rfl,m⟩:=hrel
  by_cases h0:0<=kI
  ·have HO:=Ja (m.out.1.op (by have:=i.out.2;omega));go_wp2_with (go_at_call 111;go_must (refine HO.out.mono ?_;rintro e w2 ⟨rfl,b4⟩))
   go_roundw
   case rel=>
    have hg:=pX K.E (by obtain⟨X',hm,_⟩:=m.out.1.made;exact hm.alt) Mj;refine⟨kI-1,_,by omega,by omega,rfl,Ja ⟨b4.out.mono Zo,?_,hg.left.trans m.out.2.2.1,Jy m.out.2.2.2 hg.pos⟩⟩;rw[m.out.2.1,show(kI+1).toNat=(kI-1+1).toNat+1 by omega];rfl
   case measure=>simp[intOf];omega
  ·obtain rfl:kI=-1:=by omega
   obtain⟨X',fv,vv,l,hi,hs⟩:=m.out.1.facts
   have a5:6<=M.left+M.pos:=by
    obtain⟨_,_,_,_,a8,_⟩:=i.out.1.facts;exact a8.lft.1
   have a0:=m.out.1.counted m.out.2.2.2 m.out.2.2.1 a5;have c8:=hi.c8;have f8:=hi.free 8;have b7:=lt_of_block hi.blk;have a7:=hi.lft;have a9:(Mj.pos:Int)<=1000000:=by have:=hi.bnd;unfold MS.sz at this;omega
   have a6:IntKind.i64.wrap (Mj.left-1)=Mj.left-1:=Om _ Zo;obtain⟨M2,u⟩:∃M2:MS,{Mj with left:=Mj.left-1 }=M2:=⟨_,rfl⟩
   rw[u] at a0
   have e2:tR K.E M=M2:=by
    rw[<-u];unfold tR;simp only;rw[HT.out,m.out.2.1];rfl
   have c2:=World.cell?_setCell_same _ _ (I (Mj.left-1)) c8;have a4:Mj.left-1=M2.left:=by rw[<-u]
   have o:=Ja (Jb (a0.mono (show 1+20*((t:Int) - -1).toNat<=101 by omega)) (Jb e2 a4));clear hi hs a0 a5 u e2 a4;go_upto_region 5 with fail;generalize b0:wr.setCell ⟨K.pm,8,none⟩ (I (Mj.left-1))=W2 at *;generalize hL:Mj.left-1=L at *;clear c8 f8 a6 a7 a9 b0 hL m
   by_cases x:L<1
   ·have b1:decide (L<1)=true:=by rw[decide_eq_true_iff];exact x
    go_wp2
    first|go_end0|refine bodyPost_ret (results_none rfl _ _ _) rfl ?_
    have e:zp K.E (d+1) M=M2:=by
     unfold zp;simp only;rw[o.out.2.1,if_pos (by rw[<-o.out.2.2];exact x)]
    rw[e];exact o.out.1.ret
   ·have b1:decide (L<1)=false:=by rw[decide_eq_false_iff_not];exact x
    have a3:zp K.E (d+1) M=if tkV K.E M2 5=1∨tkV K.E M2 5=2 then xi K.E (zp K.E d) 2 M2.tick else if tkV K.E M2 5=3 then tH K.E (zp K.E d) M2.tick else if tkV K.E M2 5=4 then xi K.E (zp K.E d) (2+tkV K.E M2.tick 3) M2.tick.tick else M2.tick:=by
     conv=>lhs;unfold zp
     simp only;rw[o.out.2.1,if_neg (by rw[<-o.out.2.2];exact x)]
    have q:=Ja a3;clear a3;have a2:=aaE K.E M2 (n:=5) Zo;obtain⟨k,hk⟩:∃k,tkV K.E M2 5=k:=⟨_,rfl⟩
    rw[hk] at a2;have c:=Ja hk;clear hk
    match k,a2,c with
    |0,_,c=>
     go_wp2_with (go_at_call 55;go_must (refine(o.out.1.takeK 5 0 0 rfl c.out Zd Zd (by have:=i.out.2;omega)).mono ?_;rintro e w3 ⟨rfl,g⟩))
     first|go_end0|refine bodyPost_ret (results_none rfl _ _ _) rfl ?_
     rw[q.out,c.out]
     exact g.out.ret
    |1,_,c=>
     go_wp2_with (first|(go_at_call 55;go_must (refine(o.out.1.takeK 5 1 1 rfl c.out Zd Zd (by have:=i.out.2;omega)).mono ?_;rintro e w3 ⟨rfl,g⟩))|(go_at_call 112;go_must (refine(g.out.choice hd y.out 2 2 rfl Zd Zd (by have:=i.out.2;omega)).mono ?_;rintro e w4 ⟨rfl,j⟩)))
     first|go_end0|refine bodyPost_ret (results_none rfl _ _ _) rfl ?_
     rw[q.out,c.out]
     exact j.out.ret
    |2,_,c=>
     go_wp2_with (first|(go_at_call 55;go_must (refine(o.out.1.takeK 5 2 2 rfl c.out Zd Zd (by have:=i.out.2;omega)).mono ?_;rintro e w3 ⟨rfl,g⟩))|(go_at_call 112;go_must (refine(g.out.choice hd y.out 2 2 rfl Zd Zd (by have:=i.out.2;omega)).mono ?_;rintro e w4 ⟨rfl,j⟩)))
     first|go_end0|refine bodyPost_ret (results_none rfl _ _ _) rfl ?_
     rw[q.out,c.out]
     exact j.out.ret
    |3,_,c=>
     go_wp2_with (first|(go_at_call 55;go_must (refine(o.out.1.takeK 5 3 3 rfl c.out Zd Zd (by have:=i.out.2;omega)).mono ?_;rintro e w3 ⟨rfl,g⟩))|(go_at_call 113;go_must (refine(g.out.loop hd y.out (by have:=i.out.2;omega)).mono ?_;rintro e w4 ⟨rfl,j⟩)))
     first|go_end0|refine bodyPost_ret (results_none rfl _ _ _) rfl ?_
     rw[q.out,c.out]
     exact j.out.ret
    |4,_,c=>
     have HG:=Ja o.out.1;go_wp2_with (first|(go_at_call 55;refine(HG.out.takeK 5 4 4 rfl c.out Zd Zd (by have:=i.out.2;omega)).mono ?_;clear HG;rintro e w3 ⟨rfl,g⟩)|(go_at_call 55;refine(g.out.take 3 Zd Zd (by have:=i.out.2;omega)).mono ?_;clear g;rintro e w4 ⟨z,b6,b2,rfl,j⟩)|(go_at_call 112;refine(j.out.choice hd y.out (2+z) (2+(z:Int)) Zo Zo Zo (by have:=i.out.2;omega)).mono ?_;rintro e w5 ⟨rfl,b3⟩))
     first|go_end0|refine bodyPost_ret (results_none rfl _ _ _) rfl ?_
     rw[q.out,c.out,b2.out]
     exact b3.out.ret
    |k+5,h,_=>exact absurd h Zo
theorem pW:∀d,d<=5->sU d
 |0,_=>km
 |d+1,h=>jB Zo (pW d Zo)
end Go.Proofs.YtoahcpkibpomcaaGreat
