/- Part of a proof. -/
import Derived.Test.YtoahcpkibpomcaaGreatGZw6v
set_option linter.all false
set_option maxHeartbeats 4000000
set_option maxRecDepth 100000
namespace Go.Proofs.YtoahcpkibpomcaaGreat
open Go.RowKit
variable {M:MS}{w wx:World}{K:MKC}{X:Nat->Prop}{c:Value}{d g i j k ob oc:Nat}{bt:BT}{l:List BT}{rs:List Row}{o o2:IOp}
theorem mkOp_0{E:ME}(h:tkV E M 14=0):xK E M=M.tick.tick.num (tkV E M.tick 65536):=by
 unfold xK;simp only[h];rfl
theorem op_0(h:wW w K X M)(c:M.cur<M.f.length)(k:M.sz+20<=1000000)(hk:tkV K.E M 14=0):
 G 111 #[Y K.pm] w (yk K X w (xK K.E M) (.tuple #[])):=by
 have o:=Ja h.alt;have j:=Ja (OpSt.start h c);have d:=Ja (Jb k hk);clear h c k hk;go_enter Tryz.func111,Tryz.ntmps111
 go_wp2_with (first
  |(go_at_call 55;refine(j.out.takeK 14 0 0 rfl d.out.2 Zd Zd (by have:=d.out.1;omega)).mono ?_;clear j;rintro e w1 ⟨rfl,i⟩)
  |(go_at_call 55;refine(i.out.take 65536 Zd Zd (by have:=d.out.1;omega)).mono ?_;clear i;rintro e w2 ⟨z,qz,m,rfl,g⟩)
  |(go_at_call 114;refine(g.out.num z Zo (by have:=d.out.1;omega)).mono ?_;clear g;rintro e w3 ⟨rfl,l⟩))
 first|go_end0|refine bodyPost_ret (results_none rfl _ _ _) rfl ?_
 rw[mkOp_0 d.out.2]
 try rw[m.out]
 exact l.out.ret
theorem mkOp_1{E:ME}(h:tkV E M 14=1):xK E M=(zJ E M.tick.tick).2.emit ⟨3+tkV E M.tick 2,0,(zJ E M.tick.tick).1,0,0,[]⟩:=by
 unfold xK;simp only[h];rfl
theorem op_1(h:wW w K X M)(d:M.cur<M.f.length)(l:M.sz+20<=1000000)(hk:tkV K.E M 14=1):
 G 111 #[Y K.pm] w (yk K X w (xK K.E M) (.tuple #[])):=by
 have t:=Ja h.alt;have k:=Ja (OpSt.start h d);have c:=Ja (Jb l hk);clear h d l hk;go_enter Tryz.func111,Tryz.ntmps111
 go_wp2_with (first
  |(go_at_call 55;refine(k.out.takeK 14 1 1 rfl c.out.2 Zd Zd (by have:=c.out.1;omega)).mono ?_;clear k;rintro e w1 ⟨rfl,j⟩)
  |(go_at_call 55;refine(j.out.take 2 Zd Zd (by have:=c.out.1;omega)).mono ?_;clear j;rintro e w2 ⟨z,qz,q,rfl,i⟩)
  |(go_at_call 58;refine(i.out.any (by have:=c.out.1;omega)).mono ?_;clear i;rintro e w3 ⟨x,o,rfl,g⟩)
  |(go_at_call 132;refine(g.out.emit (3+(z:Int)) x 0 0 (vG _ Zo Zo) (o.out.1) (yF _ rfl) Zd (by have:=c.out.1;omega)).mono ?_;clear g;rintro e w4 ⟨rfl,m⟩))
 first|go_end0|refine bodyPost_ret (results_none rfl _ _ _) rfl ?_
 rw[mkOp_1 c.out.2]
 try rw[q.out]
 try rw[o.out.2]
 exact m.out.ret
theorem mkOp_2{E:ME}(h:tkV E M 14=2):xK E M=(yJ E M.tick).2.tick.emit ⟨18+tkV E (yJ E M.tick).2 2,0,(yJ E M.tick).1,0,0,[]⟩:=by
 unfold xK;simp only[h];rfl
theorem op_2(h:wW w K X M)(d:M.cur<M.f.length)(l:M.sz+20<=1000000)(hk:tkV K.E M 14=2):
 G 111 #[Y K.pm] w (yk K X w (xK K.E M) (.tuple #[])):=by
 have t:=Ja h.alt;have k:=Ja (OpSt.start h d);have c:=Ja (Jb l hk);clear h d l hk;go_enter Tryz.func111,Tryz.ntmps111
 go_wp2_with (first
  |(go_at_call 55;refine(k.out.takeK 14 2 2 rfl c.out.2 Zd Zd (by have:=c.out.1;omega)).mono ?_;clear k;rintro e w1 ⟨rfl,j⟩)
  |(go_at_call 133;refine(j.out.addr (by have:=c.out.1;omega)).mono ?_;clear j;rintro e w2 ⟨x,o,rfl,i⟩)
  |(go_at_call 55;refine(i.out.take 2 Zd Zd (by have:=c.out.1;omega)).mono ?_;clear i;rintro e w3 ⟨z,qz,q,rfl,g⟩)
  |(go_at_call 132;refine(g.out.emit (18+(z:Int)) x 0 0 (vG _ Zo Zo) (o.out.1) (yF _ rfl) Zd (by have:=c.out.1;omega)).mono ?_;clear g;rintro e w4 ⟨rfl,m⟩))
 first|go_end0|refine bodyPost_ret (results_none rfl _ _ _) rfl ?_
 rw[mkOp_2 c.out.2]
 try rw[o.out.2]
 try rw[q.out]
 exact m.out.ret
theorem mkOp_3{E:ME}(h:tkV E M 14=3):xK E M=(yJ E M.tick).2.tick.emit ⟨18+tkV E (yJ E M.tick).2 2,0,(yJ E M.tick).1,0,0,[]⟩:=by
 unfold xK;simp only[h];rfl
theorem op_3(h:wW w K X M)(d:M.cur<M.f.length)(l:M.sz+20<=1000000)(hk:tkV K.E M 14=3):
 G 111 #[Y K.pm] w (yk K X w (xK K.E M) (.tuple #[])):=by
 have t:=Ja h.alt;have k:=Ja (OpSt.start h d);have c:=Ja (Jb l hk);clear h d l hk;go_enter Tryz.func111,Tryz.ntmps111
 go_wp2_with (first
  |(go_at_call 55;refine(k.out.takeK 14 3 3 rfl c.out.2 Zd Zd (by have:=c.out.1;omega)).mono ?_;clear k;rintro e w1 ⟨rfl,j⟩)
  |(go_at_call 133;refine(j.out.addr (by have:=c.out.1;omega)).mono ?_;clear j;rintro e w2 ⟨x,o,rfl,i⟩)
  |(go_at_call 55;refine(i.out.take 2 Zd Zd (by have:=c.out.1;omega)).mono ?_;clear i;rintro e w3 ⟨z,qz,q,rfl,g⟩)
  |(go_at_call 132;refine(g.out.emit (18+(z:Int)) x 0 0 (vG _ Zo Zo) (o.out.1) (yF _ rfl) Zd (by have:=c.out.1;omega)).mono ?_;clear g;rintro e w4 ⟨rfl,m⟩))
 first|go_end0|refine bodyPost_ret (results_none rfl _ _ _) rfl ?_
 rw[mkOp_3 c.out.2]
 try rw[o.out.2]
 try rw[q.out]
 exact m.out.ret
theorem mkOp_4{E:ME}(h:tkV E M 14=4):xK E M=(zJ E (yJ E M.tick).2).2.tick.emit ⟨20+tkV E (zJ E (yJ E M.tick).2).2 2,0,(yJ E M.tick).1,(zJ E (yJ E M.tick).2).1,0,[]⟩:=by
 unfold xK;simp only[h];rfl
theorem op_4(h:wW w K X M)(d:M.cur<M.f.length)(m:M.sz+20<=1000000)(hk:tkV K.E M 14=4):
 G 111 #[Y K.pm] w (yk K X w (xK K.E M) (.tuple #[])):=by
 have HE:=Ja h.alt;have l:=Ja (OpSt.start h d);have c:=Ja (Jb m hk);clear h d m hk;go_enter Tryz.func111,Tryz.ntmps111
 go_wp2_with (first
  |(go_at_call 55;refine(l.out.takeK 14 4 4 rfl c.out.2 Zd Zd (by have:=c.out.1;omega)).mono ?_;clear l;rintro e w1 ⟨rfl,k⟩)
  |(go_at_call 133;refine(k.out.addr (by have:=c.out.1;omega)).mono ?_;clear k;rintro e w2 ⟨x,t,rfl,j⟩)
  |(go_at_call 58;refine(j.out.any (by have:=c.out.1;omega)).mono ?_;clear j;rintro e w3 ⟨y,q,rfl,i⟩)
  |(go_at_call 55;refine(i.out.take 2 Zd Zd (by have:=c.out.1;omega)).mono ?_;clear i;rintro e w4 ⟨z,qz,u,rfl,g⟩)
  |(go_at_call 132;refine(g.out.emit (20+(z:Int)) x y 0 (vG _ Zo Zo) (t.out.1) (q.out.1) Zd (by have:=c.out.1;omega)).mono ?_;clear g;rintro e w5 ⟨rfl,o⟩))
 first|go_end0|refine bodyPost_ret (results_none rfl _ _ _) rfl ?_
 rw[mkOp_4 c.out.2]
 try rw[t.out.2]
 try rw[q.out.2]
 try rw[u.out]
 exact o.out.ret
theorem mkOp_5{E:ME}(h:tkV E M 14=5):xK E M=(zJ E (yJ E M.tick).2).2.tick.emit ⟨20+tkV E (zJ E (yJ E M.tick).2).2 2,0,(yJ E M.tick).1,(zJ E (yJ E M.tick).2).1,0,[]⟩:=by
 unfold xK;simp only[h];rfl
theorem op_5(h:wW w K X M)(d:M.cur<M.f.length)(m:M.sz+20<=1000000)(hk:tkV K.E M 14=5):
 G 111 #[Y K.pm] w (yk K X w (xK K.E M) (.tuple #[])):=by
 have HE:=Ja h.alt;have l:=Ja (OpSt.start h d);have c:=Ja (Jb m hk);clear h d m hk;go_enter Tryz.func111,Tryz.ntmps111
 go_wp2_with (first
  |(go_at_call 55;refine(l.out.takeK 14 5 5 rfl c.out.2 Zd Zd (by have:=c.out.1;omega)).mono ?_;clear l;rintro e w1 ⟨rfl,k⟩)
  |(go_at_call 133;refine(k.out.addr (by have:=c.out.1;omega)).mono ?_;clear k;rintro e w2 ⟨x,t,rfl,j⟩)
  |(go_at_call 58;refine(j.out.any (by have:=c.out.1;omega)).mono ?_;clear j;rintro e w3 ⟨y,q,rfl,i⟩)
  |(go_at_call 55;refine(i.out.take 2 Zd Zd (by have:=c.out.1;omega)).mono ?_;clear i;rintro e w4 ⟨z,qz,u,rfl,g⟩)
  |(go_at_call 132;refine(g.out.emit (20+(z:Int)) x y 0 (vG _ Zo Zo) (t.out.1) (q.out.1) Zd (by have:=c.out.1;omega)).mono ?_;clear g;rintro e w5 ⟨rfl,o⟩))
 first|go_end0|refine bodyPost_ret (results_none rfl _ _ _) rfl ?_
 rw[mkOp_5 c.out.2]
 try rw[t.out.2]
 try rw[q.out.2]
 try rw[u.out]
 exact o.out.ret
theorem mkOp_6{E:ME}(h:tkV E M 14=6):xK E M=M.tick.tick.emit ⟨24,0,0,0,1+tkV E M.tick 3,[]⟩:=by
 unfold xK;simp only[h];rfl
theorem op_6(h:wW w K X M)(c:M.cur<M.f.length)(k:M.sz+20<=1000000)(hk:tkV K.E M 14=6):
 G 111 #[Y K.pm] w (yk K X w (xK K.E M) (.tuple #[])):=by
 have o:=Ja h.alt;have j:=Ja (OpSt.start h c);have d:=Ja (Jb k hk);clear h c k hk;go_enter Tryz.func111,Tryz.ntmps111
 go_wp2_with (first
  |(go_at_call 55;refine(j.out.takeK 14 6 6 rfl d.out.2 Zd Zd (by have:=d.out.1;omega)).mono ?_;clear j;rintro e w1 ⟨rfl,i⟩)
  |(go_at_call 55;refine(i.out.take 3 Zd Zd (by have:=d.out.1;omega)).mono ?_;clear i;rintro e w2 ⟨z,qz,m,rfl,g⟩)
  |(go_at_call 132;refine(g.out.emit 24 0 0 (1+z) (yF _ rfl) (yF _ rfl) (yF _ rfl) Zo (by have:=d.out.1;omega)).mono ?_;clear g;rintro e w3 ⟨rfl,l⟩))
 first|go_end0|refine bodyPost_ret (results_none rfl _ _ _) rfl ?_
 rw[mkOp_6 d.out.2]
 try rw[m.out]
 exact l.out.ret
theorem mkOp_7{E:ME}(h:tkV E M 14=7):xK E M=(zJ E M.tick).2.tick.emit ⟨25,0,(zJ E M.tick).1,0,1+tkV E (zJ E M.tick).2 3,[]⟩:=by
 unfold xK;simp only[h];rfl
theorem op_7(h:wW w K X M)(d:M.cur<M.f.length)(l:M.sz+20<=1000000)(hk:tkV K.E M 14=7):
 G 111 #[Y K.pm] w (yk K X w (xK K.E M) (.tuple #[])):=by
 have t:=Ja h.alt;have k:=Ja (OpSt.start h d);have c:=Ja (Jb l hk);clear h d l hk;go_enter Tryz.func111,Tryz.ntmps111
 go_wp2_with (first
  |(go_at_call 55;refine(k.out.takeK 14 7 7 rfl c.out.2 Zd Zd (by have:=c.out.1;omega)).mono ?_;clear k;rintro e w1 ⟨rfl,j⟩)
  |(go_at_call 58;refine(j.out.any (by have:=c.out.1;omega)).mono ?_;clear j;rintro e w2 ⟨x,o,rfl,i⟩)
  |(go_at_call 55;refine(i.out.take 3 Zd Zd (by have:=c.out.1;omega)).mono ?_;clear i;rintro e w3 ⟨z,qz,q,rfl,g⟩)
  |(go_at_call 132;refine(g.out.emit 25 x 0 (1+z) (yF _ rfl) (o.out.1) (yF _ rfl) Zo (by have:=c.out.1;omega)).mono ?_;clear g;rintro e w4 ⟨rfl,m⟩))
 first|go_end0|refine bodyPost_ret (results_none rfl _ _ _) rfl ?_
 rw[mkOp_7 c.out.2]
 try rw[o.out.2]
 try rw[q.out]
 exact m.out.ret
theorem mkOp_8{E:ME}(h:tkV E M 14=8):xK E M=(M.tick.tick.num (tkV E M.tick 4096)).tick.emit ⟨22+tkV E (M.tick.tick.num (tkV E M.tick 4096)) 2,0,(M.tick.next:Nat),0,0,[]⟩:=by
 unfold xK;simp only[h];rfl
theorem op_8(h:wW w K X M)(g:M.cur<M.f.length)(m:M.sz+20<=1000000)(hk:tkV K.E M 14=8):
 G 111 #[Y K.pm] w (yk K X w (xK K.E M) (.tuple #[])):=by
 have u:=Ja h.alt;have l:=Ja (OpSt.start h g);have c:=Ja (Jb m hk);clear h g m hk;go_enter Tryz.func111,Tryz.ntmps111
 go_wp2_with (first
  |(go_at_call 55;refine(l.out.takeK 14 8 8 rfl c.out.2 Zd Zd (by have:=c.out.1;omega)).mono ?_;clear l;rintro e w1 ⟨rfl,k⟩)
  |(go_at_call 55;refine(k.out.take 4096 Zd Zd (by have:=c.out.1;omega)).mono ?_;clear k;rintro e w2 ⟨y,qy,t,rfl,d⟩)
  |(go_at_call 114;refine(d.out.num y Zo (by have:=c.out.1;omega)).mono ?_;have N1:=Ja d.out.n64;clear d;rintro e w3 ⟨rfl,j⟩)
  |(go_at_call 55;refine(j.out.take 2 Zd Zd (by have:=c.out.1;omega)).mono ?_;clear j;rintro e w4 ⟨z,qz,q,rfl,i⟩)
  |(go_at_call 132;refine(i.out.emit (22+(z:Int)) (M.next:Int) 0 0 (vG _ Zo Zo) N1.out (yF _ rfl) Zd (by have:=c.out.1;omega)).mono ?_;clear i;rintro e w5 ⟨rfl,o⟩))
 first|go_end0|refine bodyPost_ret (results_none rfl _ _ _) rfl ?_
 rw[mkOp_8 c.out.2]
 try rw[t.out]
 try rw[q.out]
 exact o.out.ret
theorem mkOp_9{E:ME}(h:tkV E M 14=9):xK E M=vN E M.tick:=by
 unfold xK;simp only[h];rfl
theorem op_9(h:wW w K X M)(c:M.cur<M.f.length)(j:M.sz+20<=1000000)(hk:tkV K.E M 14=9):
 G 111 #[Y K.pm] w (yk K X w (xK K.E M) (.tuple #[])):=by
 have l:=Ja h.alt;have i:=Ja (OpSt.start h c);have d:=Ja (Jb j hk);clear h c j hk;go_enter Tryz.func111,Tryz.ntmps111
 go_wp2_with (first
  |(go_at_call 55;refine(i.out.takeK 14 9 9 rfl d.out.2 Zd Zd (by have:=d.out.1;omega)).mono ?_;clear i;rintro e w1 ⟨rfl,g⟩)
  |(go_at_call 134;refine(g.out.call l.out (by have:=d.out.1;omega)).mono ?_;clear g;rintro e w2 ⟨rfl,k⟩))
 first|go_end0|refine bodyPost_ret (results_none rfl _ _ _) rfl ?_
 rw[mkOp_9 d.out.2];exact k.out.ret
theorem mkOp_10a{E:ME}(h:tkV E M 14=10)(hq:tkV E M.tick 3=0):xK E M=M.tick.tick.emit ⟨27,0,0,0,0,[]⟩:=by
 unfold xK;simp only[h,hq];rfl
theorem op_10a(h:wW w K X M)(c:M.cur<M.f.length)(l:M.sz+20<=1000000)(hk:tkV K.E M 14=10)(hq:tkV K.E M.tick 3=0):
 G 111 #[Y K.pm] w (yk K X w (xK K.E M) (.tuple #[])):=by
 have o:=Ja h.alt;have k:=Ja (OpSt.start h c);have d:=Ja (Jb l hk);have j:=Ja hq;clear h c l hk hq;go_enter Tryz.func111,Tryz.ntmps111
 go_wp2_with (first
  |(go_at_call 55;refine(k.out.takeK 14 10 10 rfl d.out.2 Zd Zd (by have:=d.out.1;omega)).mono ?_;clear k;rintro e w1 ⟨rfl,i⟩)
  |(go_at_call 55;refine(i.out.takeK 3 0 0 rfl j.out Zd Zd (by have:=d.out.1;omega)).mono ?_;clear i;rintro e w2 ⟨rfl,g⟩)
  |(go_at_call 132;refine(g.out.emit 27 0 0 0 (yF _ rfl) (yF _ rfl) (yF _ rfl) Zd (by have:=d.out.1;omega)).mono ?_;clear g;rintro e w3 ⟨rfl,m⟩))
 first|go_end0|refine bodyPost_ret (results_none rfl _ _ _) rfl ?_
 rw[mkOp_10a d.out.2 j.out];exact m.out.ret
theorem mkOp_10b{E:ME}(h:tkV E M 14=10)(hq:¬tkV E M.tick 3=0):xK E M=M.tick.tick:=by
 unfold xK;simp only[h,hq];rfl
theorem op_10b(h:wW w K X M)(c:M.cur<M.f.length)(k:M.sz+20<=1000000)(hk:tkV K.E M 14=10)(hq:¬tkV K.E M.tick 3=0):
 G 111 #[Y K.pm] w (yk K X w (xK K.E M) (.tuple #[])):=by
 have o:=Ja h.alt;have j:=Ja (OpSt.start h c);have d:=Ja (Jb k hk);have i:=Ja hq;clear h c k hk hq;go_enter Tryz.func111,Tryz.ntmps111
 go_wp2_with (first
  |(go_at_call 55;refine(j.out.takeK 14 10 10 rfl d.out.2 Zd Zd (by have:=d.out.1;omega)).mono ?_;clear j;rintro e w1 ⟨rfl,g⟩)
  |(go_at_call 55;refine(g.out.take 3 Zd Zd (by have:=d.out.1;omega)).mono ?_;clear g;rintro e w2 ⟨z,qz,m,rfl,l⟩;have tz:((z:Int)==0)=false:=by rw[beq_eq_false_iff_ne];have:=m.out;have:=i.out;omega))
 first|go_end0|refine bodyPost_ret (results_none rfl _ _ _) rfl ?_
 rw[mkOp_10b d.out.2 i.out]
 try rw[m.out]
 exact l.out.ret
theorem mkOp_11a{E:ME}(h:tkV E M 14=11)(hq:¬tkV E (zJ E (zJ E M.tick).2).2 13=3):xK E M=(zJ E (zJ E M.tick).2).2.tick.emit ⟨((5+tkV E (zJ E (zJ E M.tick).2).2 13:Nat):Int),0,(zJ E M.tick).1,(zJ E (zJ E M.tick).2).1,0,[]⟩:=by
 unfold xK;simp only[h]
 show yR E M.tick=_
 unfold yR;simp only;rw[if_neg Zo]
theorem op_11a(h:wW w K X M)(d:M.cur<M.f.length)(o:M.sz+20<=1000000)(hk:tkV K.E M 14=11)(hq:¬tkV K.E (zJ K.E (zJ K.E M.tick).2).2 13=3):
 G 111 #[Y K.pm] w (yk K X w (xK K.E M) (.tuple #[])):=by
 have HE:=Ja h.alt;have m:=Ja (OpSt.start h d);have c:=Ja (Jb o hk);have l:=Ja hq;clear h d o hk hq;go_enter Tryz.func111,Tryz.ntmps111
 go_wp2_with (first
  |(go_at_call 55;refine(m.out.takeK 14 11 11 rfl c.out.2 Zd Zd (by have:=c.out.1;omega)).mono ?_;clear m;rintro e w1 ⟨rfl,k⟩)
  |(go_at_call 58;refine(k.out.any (by have:=c.out.1;omega)).mono ?_;clear k;rintro e w2 ⟨x,Hx,rfl,j⟩)
  |(go_at_call 58;refine(j.out.any (by have:=c.out.1;omega)).mono ?_;clear j;rintro e w3 ⟨y,u,rfl,i⟩)
  |(go_at_call 55;refine(i.out.take 13 Zd Zd (by have:=c.out.1;omega)).mono ?_;clear i;rintro e w4 ⟨z,qz,t,rfl,g⟩;have tz:((5+(z:Int))==8)=false:=by rw[beq_eq_false_iff_ne];have:=t.out;have:=l.out;omega)
  |(go_at_call 132;refine(g.out.emit (5+(z:Int)) x y 0 (vG _ Zo Zo) (Hx.out.1) (u.out.1) Zd (by have:=c.out.1;omega)).mono ?_;clear g;rintro e w5 ⟨rfl,q⟩))
 first|go_end0|refine bodyPost_ret (results_none rfl _ _ _) rfl ?_
 rw[mkOp_11a c.out.2 l.out]
 try rw[Hx.out.2]
 try rw[u.out.2]
 try rw[t.out]
 exact q.out.ret
theorem mkOp_11b{E:ME}(h:tkV E M 14=11)(hq:tkV E (zJ E (zJ E M.tick).2).2 13=3)(hp:tkV E (zJ E (zJ E M.tick).2).2.tick 8=0):xK E M=(zJ E (zJ E M.tick).2).2.tick.tick.emit ⟨8,0,(zJ E M.tick).1,(zJ E (zJ E M.tick).2).1,0,[]⟩:=by
 unfold xK;simp only[h]
 show yR E M.tick=_
 unfold yR;simp only;rw[if_pos Zo,if_neg Zo]
theorem op_11b(h:wW w K X M)(d:M.cur<M.f.length)(t:M.sz+20<=1000000)(hk:tkV K.E M 14=11)(hq:tkV K.E (zJ K.E (zJ K.E M.tick).2).2 13=3)(hp:tkV K.E (zJ K.E (zJ K.E M.tick).2).2.tick 8=0):
 G 111 #[Y K.pm] w (yk K X w (xK K.E M) (.tuple #[])):=by
 have HE:=Ja h.alt;have q:=Ja (OpSt.start h d);have c:=Ja (Jb t hk);have m:=Ja hq;have o:=Ja hp;clear h d t hk hq hp;go_enter Tryz.func111,Tryz.ntmps111
 go_wp2_with (first
  |(go_at_call 55;refine(q.out.takeK 14 11 11 rfl c.out.2 Zd Zd (by have:=c.out.1;omega)).mono ?_;clear q;rintro e w1 ⟨rfl,l⟩)
  |(go_at_call 58;refine(l.out.any (by have:=c.out.1;omega)).mono ?_;clear l;rintro e w2 ⟨x,Hx,rfl,k⟩)
  |(go_at_call 58;refine(k.out.any (by have:=c.out.1;omega)).mono ?_;clear k;rintro e w3 ⟨y,Hy,rfl,j⟩)
  |(go_at_call 55;refine(j.out.takeK 13 3 3 rfl m.out Zd Zd (by have:=c.out.1;omega)).mono ?_;clear j;rintro e w4 ⟨rfl,i⟩)
  |(go_at_call 55;refine(i.out.takeK 8 0 0 rfl o.out Zd Zd (by have:=c.out.1;omega)).mono ?_;clear i;rintro e w5 ⟨rfl,g⟩)
  |(go_at_call 132;refine(g.out.emit 8 x y 0 (yF _ rfl) (Hx.out.1) (Hy.out.1) Zd (by have:=c.out.1;omega)).mono ?_;clear g;rintro e w6 ⟨rfl,u⟩))
 first|go_end0|refine bodyPost_ret (results_none rfl _ _ _) rfl ?_
 rw[mkOp_11b c.out.2 m.out o.out]
 try rw[Hx.out.2]
 try rw[Hy.out.2]
 exact u.out.ret
theorem mkOp_11c{E:ME}(h:tkV E M 14=11)(hq:tkV E (zJ E (zJ E M.tick).2).2 13=3)(hp:0<tkV E (zJ E (zJ E M.tick).2).2.tick 8):xK E M=((((zJ E (zJ E M.tick).2).2.tick.tick.num 1).emit ⟨10,0,(zJ E (zJ E M.tick).2).1,((zJ E (zJ E M.tick).2).2.next:Nat),0,[]⟩).emit ⟨8,0,(zJ E M.tick).1,(((zJ E (zJ E M.tick).2).2.next+1:Nat):Int),0,[]⟩):=by
 unfold xK;simp only[h]
 show yR E M.tick=_
 unfold yR;simp only;rw[if_pos Zo,if_pos Zo];rfl
theorem op_11c(h:wW w K X M)(i:M.cur<M.f.length)(hz:M.sz+20<=1000000)(hk:tkV K.E M 14=11)(hq:tkV K.E (zJ K.E (zJ K.E M.tick).2).2 13=3)(hp:0<tkV K.E (zJ K.E (zJ K.E M.tick).2).2.tick 8):
 G 111 #[Y K.pm] w (yk K X w (xK K.E M) (.tuple #[])):=by
 have HE:=Ja h.alt;have u:=Ja (OpSt.start h i);have c:=Ja (Jb hz hk);have q:=Ja hq;have t:=Ja hp;clear h i hz hk hq hp;go_enter Tryz.func111,Tryz.ntmps111
 go_wp2_with (first
  |(go_at_call 55;refine(u.out.takeK 14 11 11 rfl c.out.2 Zd Zd (by have:=c.out.1;omega)).mono ?_;clear u;rintro e w1 ⟨rfl,o⟩)
  |(go_at_call 58;refine(o.out.any (by have:=c.out.1;omega)).mono ?_;clear o;rintro e w2 ⟨x,Hx,rfl,m⟩)
  |(go_at_call 58;refine(m.out.any (by have:=c.out.1;omega)).mono ?_;clear m;rintro e w3 ⟨y,Hy,rfl,l⟩)
  |(go_at_call 55;refine(l.out.takeK 13 3 3 rfl q.out Zd Zd (by have:=c.out.1;omega)).mono ?_;clear l;rintro e w4 ⟨rfl,k⟩)
  |(go_at_call 55;refine(k.out.take 8 Zd Zd (by have:=c.out.1;omega)).mono ?_;clear k;rintro e w5 ⟨z,qz,Hz,rfl,g⟩;have tz:(0:Int)<(z:Int):=by have:=Hz.out;have:=t.out;omega)
  |(go_at_call 114;refine(g.out.num 1 Zo (by have:=c.out.1;omega)).mono ?_;have N1:=Ja g.out.n64;clear g;rintro e w6 ⟨rfl,d⟩)
  |(go_at_call 132;refine(d.out.emit 10 y _ 0 (yF _ rfl) (Hy.out.1) N1.out Zd (by have:=c.out.1;omega)).mono ?_;have N2:=Ja d.out.n64;clear d;rintro e w7 ⟨rfl,j⟩)
  |(go_at_call 132;refine(j.out.emit 8 x _ 0 (yF _ rfl) (Hx.out.1) N2.out Zd (by have:=c.out.1;omega)).mono ?_;clear j;rintro e w8 ⟨rfl,a0⟩))
 first|go_end0|refine bodyPost_ret (results_none rfl _ _ _) rfl ?_
 rw[mkOp_11c c.out.2 q.out t.out]
 try rw[Hx.out.2]
 try rw[Hy.out.2]
 try rw[Hz.out]
 exact a0.out.ret
theorem mkOp_12a{E:ME}(h:tkV E M 14=12)(hq:¬tkV E (zJ E (zJ E M.tick).2).2 13=3):xK E M=(zJ E (zJ E M.tick).2).2.tick.emit ⟨((5+tkV E (zJ E (zJ E M.tick).2).2 13:Nat):Int),0,(zJ E M.tick).1,(zJ E (zJ E M.tick).2).1,0,[]⟩:=by
 unfold xK;simp only[h]
 show yR E M.tick=_
 unfold yR;simp only;rw[if_neg Zo]
theorem op_12a(h:wW w K X M)(d:M.cur<M.f.length)(o:M.sz+20<=1000000)(hk:tkV K.E M 14=12)(hq:¬tkV K.E (zJ K.E (zJ K.E M.tick).2).2 13=3):
 G 111 #[Y K.pm] w (yk K X w (xK K.E M) (.tuple #[])):=by
 have HE:=Ja h.alt;have m:=Ja (OpSt.start h d);have c:=Ja (Jb o hk);have l:=Ja hq;clear h d o hk hq;go_enter Tryz.func111,Tryz.ntmps111
 go_wp2_with (first
  |(go_at_call 55;refine(m.out.takeK 14 12 12 rfl c.out.2 Zd Zd (by have:=c.out.1;omega)).mono ?_;clear m;rintro e w1 ⟨rfl,k⟩)
  |(go_at_call 58;refine(k.out.any (by have:=c.out.1;omega)).mono ?_;clear k;rintro e w2 ⟨x,Hx,rfl,j⟩)
  |(go_at_call 58;refine(j.out.any (by have:=c.out.1;omega)).mono ?_;clear j;rintro e w3 ⟨y,u,rfl,i⟩)
  |(go_at_call 55;refine(i.out.take 13 Zd Zd (by have:=c.out.1;omega)).mono ?_;clear i;rintro e w4 ⟨z,qz,t,rfl,g⟩;have tz:((5+(z:Int))==8)=false:=by rw[beq_eq_false_iff_ne];have:=t.out;have:=l.out;omega)
  |(go_at_call 132;refine(g.out.emit (5+(z:Int)) x y 0 (vG _ Zo Zo) (Hx.out.1) (u.out.1) Zd (by have:=c.out.1;omega)).mono ?_;clear g;rintro e w5 ⟨rfl,q⟩))
 first|go_end0|refine bodyPost_ret (results_none rfl _ _ _) rfl ?_
 rw[mkOp_12a c.out.2 l.out]
 try rw[Hx.out.2]
 try rw[u.out.2]
 try rw[t.out]
 exact q.out.ret
theorem mkOp_12b{E:ME}(h:tkV E M 14=12)(hq:tkV E (zJ E (zJ E M.tick).2).2 13=3)(hp:tkV E (zJ E (zJ E M.tick).2).2.tick 8=0):xK E M=(zJ E (zJ E M.tick).2).2.tick.tick.emit ⟨8,0,(zJ E M.tick).1,(zJ E (zJ E M.tick).2).1,0,[]⟩:=by
 unfold xK;simp only[h]
 show yR E M.tick=_
 unfold yR;simp only;rw[if_pos Zo,if_neg Zo]
theorem op_12b(h:wW w K X M)(d:M.cur<M.f.length)(t:M.sz+20<=1000000)(hk:tkV K.E M 14=12)(hq:tkV K.E (zJ K.E (zJ K.E M.tick).2).2 13=3)(hp:tkV K.E (zJ K.E (zJ K.E M.tick).2).2.tick 8=0):
 G 111 #[Y K.pm] w (yk K X w (xK K.E M) (.tuple #[])):=by
 have HE:=Ja h.alt;have q:=Ja (OpSt.start h d);have c:=Ja (Jb t hk);have m:=Ja hq;have o:=Ja hp;clear h d t hk hq hp;go_enter Tryz.func111,Tryz.ntmps111
 go_wp2_with (first
  |(go_at_call 55;refine(q.out.takeK 14 12 12 rfl c.out.2 Zd Zd (by have:=c.out.1;omega)).mono ?_;clear q;rintro e w1 ⟨rfl,l⟩)
  |(go_at_call 58;refine(l.out.any (by have:=c.out.1;omega)).mono ?_;clear l;rintro e w2 ⟨x,Hx,rfl,k⟩)
  |(go_at_call 58;refine(k.out.any (by have:=c.out.1;omega)).mono ?_;clear k;rintro e w3 ⟨y,Hy,rfl,j⟩)
  |(go_at_call 55;refine(j.out.takeK 13 3 3 rfl m.out Zd Zd (by have:=c.out.1;omega)).mono ?_;clear j;rintro e w4 ⟨rfl,i⟩)
  |(go_at_call 55;refine(i.out.takeK 8 0 0 rfl o.out Zd Zd (by have:=c.out.1;omega)).mono ?_;clear i;rintro e w5 ⟨rfl,g⟩)
  |(go_at_call 132;refine(g.out.emit 8 x y 0 (yF _ rfl) (Hx.out.1) (Hy.out.1) Zd (by have:=c.out.1;omega)).mono ?_;clear g;rintro e w6 ⟨rfl,u⟩))
 first|go_end0|refine bodyPost_ret (results_none rfl _ _ _) rfl ?_
 rw[mkOp_12b c.out.2 m.out o.out]
 try rw[Hx.out.2]
 try rw[Hy.out.2]
 exact u.out.ret
theorem mkOp_12c{E:ME}(h:tkV E M 14=12)(hq:tkV E (zJ E (zJ E M.tick).2).2 13=3)(hp:0<tkV E (zJ E (zJ E M.tick).2).2.tick 8):xK E M=((((zJ E (zJ E M.tick).2).2.tick.tick.num 1).emit ⟨10,0,(zJ E (zJ E M.tick).2).1,((zJ E (zJ E M.tick).2).2.next:Nat),0,[]⟩).emit ⟨8,0,(zJ E M.tick).1,(((zJ E (zJ E M.tick).2).2.next+1:Nat):Int),0,[]⟩):=by
 unfold xK;simp only[h]
 show yR E M.tick=_
 unfold yR;simp only;rw[if_pos Zo,if_pos Zo];rfl
theorem op_12c(h:wW w K X M)(i:M.cur<M.f.length)(hz:M.sz+20<=1000000)(hk:tkV K.E M 14=12)(hq:tkV K.E (zJ K.E (zJ K.E M.tick).2).2 13=3)(hp:0<tkV K.E (zJ K.E (zJ K.E M.tick).2).2.tick 8):
 G 111 #[Y K.pm] w (yk K X w (xK K.E M) (.tuple #[])):=by
 have HE:=Ja h.alt;have u:=Ja (OpSt.start h i);have c:=Ja (Jb hz hk);have q:=Ja hq;have t:=Ja hp;clear h i hz hk hq hp;go_enter Tryz.func111,Tryz.ntmps111
 go_wp2_with (first
  |(go_at_call 55;refine(u.out.takeK 14 12 12 rfl c.out.2 Zd Zd (by have:=c.out.1;omega)).mono ?_;clear u;rintro e w1 ⟨rfl,o⟩)
  |(go_at_call 58;refine(o.out.any (by have:=c.out.1;omega)).mono ?_;clear o;rintro e w2 ⟨x,Hx,rfl,m⟩)
  |(go_at_call 58;refine(m.out.any (by have:=c.out.1;omega)).mono ?_;clear m;rintro e w3 ⟨y,Hy,rfl,l⟩)
  |(go_at_call 55;refine(l.out.takeK 13 3 3 rfl q.out Zd Zd (by have:=c.out.1;omega)).mono ?_;clear l;rintro e w4 ⟨rfl,k⟩)
  |(go_at_call 55;refine(k.out.take 8 Zd Zd (by have:=c.out.1;omega)).mono ?_;clear k;rintro e w5 ⟨z,qz,Hz,rfl,g⟩;have tz:(0:Int)<(z:Int):=by have:=Hz.out;have:=t.out;omega)
  |(go_at_call 114;refine(g.out.num 1 Zo (by have:=c.out.1;omega)).mono ?_;have N1:=Ja g.out.n64;clear g;rintro e w6 ⟨rfl,d⟩)
  |(go_at_call 132;refine(d.out.emit 10 y _ 0 (yF _ rfl) (Hy.out.1) N1.out Zd (by have:=c.out.1;omega)).mono ?_;have N2:=Ja d.out.n64;clear d;rintro e w7 ⟨rfl,j⟩)
  |(go_at_call 132;refine(j.out.emit 8 x _ 0 (yF _ rfl) (Hx.out.1) N2.out Zd (by have:=c.out.1;omega)).mono ?_;clear j;rintro e w8 ⟨rfl,a0⟩))
 first|go_end0|refine bodyPost_ret (results_none rfl _ _ _) rfl ?_
 rw[mkOp_12c c.out.2 q.out t.out]
 try rw[Hx.out.2]
 try rw[Hy.out.2]
 try rw[Hz.out]
 exact a0.out.ret
theorem mkOp_13a{E:ME}(h:tkV E M 14=13)(hq:¬tkV E (zJ E (zJ E M.tick).2).2 13=3):xK E M=(zJ E (zJ E M.tick).2).2.tick.emit ⟨((5+tkV E (zJ E (zJ E M.tick).2).2 13:Nat):Int),0,(zJ E M.tick).1,(zJ E (zJ E M.tick).2).1,0,[]⟩:=by
 unfold xK;simp only[h]
 show yR E M.tick=_
 unfold yR;simp only;rw[if_neg Zo]
theorem op_13a(h:wW w K X M)(d:M.cur<M.f.length)(o:M.sz+20<=1000000)(hk:tkV K.E M 14=13)(hq:¬tkV K.E (zJ K.E (zJ K.E M.tick).2).2 13=3):
 G 111 #[Y K.pm] w (yk K X w (xK K.E M) (.tuple #[])):=by
 have HE:=Ja h.alt;have m:=Ja (OpSt.start h d);have c:=Ja (Jb o hk);have l:=Ja hq;clear h d o hk hq;go_enter Tryz.func111,Tryz.ntmps111
 go_wp2_with (first
  |(go_at_call 55;refine(m.out.takeK 14 13 13 rfl c.out.2 Zd Zd (by have:=c.out.1;omega)).mono ?_;clear m;rintro e w1 ⟨rfl,k⟩)
  |(go_at_call 58;refine(k.out.any (by have:=c.out.1;omega)).mono ?_;clear k;rintro e w2 ⟨x,Hx,rfl,j⟩)
  |(go_at_call 58;refine(j.out.any (by have:=c.out.1;omega)).mono ?_;clear j;rintro e w3 ⟨y,u,rfl,i⟩)
  |(go_at_call 55;refine(i.out.take 13 Zd Zd (by have:=c.out.1;omega)).mono ?_;clear i;rintro e w4 ⟨z,qz,t,rfl,g⟩;have tz:((5+(z:Int))==8)=false:=by rw[beq_eq_false_iff_ne];have:=t.out;have:=l.out;omega)
  |(go_at_call 132;refine(g.out.emit (5+(z:Int)) x y 0 (vG _ Zo Zo) (Hx.out.1) (u.out.1) Zd (by have:=c.out.1;omega)).mono ?_;clear g;rintro e w5 ⟨rfl,q⟩))
 first|go_end0|refine bodyPost_ret (results_none rfl _ _ _) rfl ?_
 rw[mkOp_13a c.out.2 l.out]
 try rw[Hx.out.2]
 try rw[u.out.2]
 try rw[t.out]
 exact q.out.ret
theorem mkOp_13b{E:ME}(h:tkV E M 14=13)(hq:tkV E (zJ E (zJ E M.tick).2).2 13=3)(hp:tkV E (zJ E (zJ E M.tick).2).2.tick 8=0):xK E M=(zJ E (zJ E M.tick).2).2.tick.tick.emit ⟨8,0,(zJ E M.tick).1,(zJ E (zJ E M.tick).2).1,0,[]⟩:=by
 unfold xK;simp only[h]
 show yR E M.tick=_
 unfold yR;simp only;rw[if_pos Zo,if_neg Zo]
theorem op_13b(h:wW w K X M)(d:M.cur<M.f.length)(t:M.sz+20<=1000000)(hk:tkV K.E M 14=13)(hq:tkV K.E (zJ K.E (zJ K.E M.tick).2).2 13=3)(hp:tkV K.E (zJ K.E (zJ K.E M.tick).2).2.tick 8=0):
 G 111 #[Y K.pm] w (yk K X w (xK K.E M) (.tuple #[])):=by
 have HE:=Ja h.alt;have q:=Ja (OpSt.start h d);have c:=Ja (Jb t hk);have m:=Ja hq;have o:=Ja hp;clear h d t hk hq hp;go_enter Tryz.func111,Tryz.ntmps111
 go_wp2_with (first
  |(go_at_call 55;refine(q.out.takeK 14 13 13 rfl c.out.2 Zd Zd (by have:=c.out.1;omega)).mono ?_;clear q;rintro e w1 ⟨rfl,l⟩)
  |(go_at_call 58;refine(l.out.any (by have:=c.out.1;omega)).mono ?_;clear l;rintro e w2 ⟨x,Hx,rfl,k⟩)
  |(go_at_call 58;refine(k.out.any (by have:=c.out.1;omega)).mono ?_;clear k;rintro e w3 ⟨y,Hy,rfl,j⟩)
  |(go_at_call 55;refine(j.out.takeK 13 3 3 rfl m.out Zd Zd (by have:=c.out.1;omega)).mono ?_;clear j;rintro e w4 ⟨rfl,i⟩)
  |(go_at_call 55;refine(i.out.takeK 8 0 0 rfl o.out Zd Zd (by have:=c.out.1;omega)).mono ?_;clear i;rintro e w5 ⟨rfl,g⟩)
  |(go_at_call 132;refine(g.out.emit 8 x y 0 (yF _ rfl) (Hx.out.1) (Hy.out.1) Zd (by have:=c.out.1;omega)).mono ?_;clear g;rintro e w6 ⟨rfl,u⟩))
 first|go_end0|refine bodyPost_ret (results_none rfl _ _ _) rfl ?_
 rw[mkOp_13b c.out.2 m.out o.out]
 try rw[Hx.out.2]
 try rw[Hy.out.2]
 exact u.out.ret
theorem mkOp_13c{E:ME}(h:tkV E M 14=13)(hq:tkV E (zJ E (zJ E M.tick).2).2 13=3)(hp:0<tkV E (zJ E (zJ E M.tick).2).2.tick 8):xK E M=((((zJ E (zJ E M.tick).2).2.tick.tick.num 1).emit ⟨10,0,(zJ E (zJ E M.tick).2).1,((zJ E (zJ E M.tick).2).2.next:Nat),0,[]⟩).emit ⟨8,0,(zJ E M.tick).1,(((zJ E (zJ E M.tick).2).2.next+1:Nat):Int),0,[]⟩):=by
 unfold xK;simp only[h]
 show yR E M.tick=_
 unfold yR;simp only;rw[if_pos Zo,if_pos Zo];rfl
theorem op_13c(h:wW w K X M)(i:M.cur<M.f.length)(hz:M.sz+20<=1000000)(hk:tkV K.E M 14=13)(hq:tkV K.E (zJ K.E (zJ K.E M.tick).2).2 13=3)(hp:0<tkV K.E (zJ K.E (zJ K.E M.tick).2).2.tick 8):
 G 111 #[Y K.pm] w (yk K X w (xK K.E M) (.tuple #[])):=by
 have HE:=Ja h.alt;have u:=Ja (OpSt.start h i);have c:=Ja (Jb hz hk);have q:=Ja hq;have t:=Ja hp;clear h i hz hk hq hp;go_enter Tryz.func111,Tryz.ntmps111
 go_wp2_with (first
  |(go_at_call 55;refine(u.out.takeK 14 13 13 rfl c.out.2 Zd Zd (by have:=c.out.1;omega)).mono ?_;clear u;rintro e w1 ⟨rfl,o⟩)
  |(go_at_call 58;refine(o.out.any (by have:=c.out.1;omega)).mono ?_;clear o;rintro e w2 ⟨x,Hx,rfl,m⟩)
  |(go_at_call 58;refine(m.out.any (by have:=c.out.1;omega)).mono ?_;clear m;rintro e w3 ⟨y,Hy,rfl,l⟩)
  |(go_at_call 55;refine(l.out.takeK 13 3 3 rfl q.out Zd Zd (by have:=c.out.1;omega)).mono ?_;clear l;rintro e w4 ⟨rfl,k⟩)
  |(go_at_call 55;refine(k.out.take 8 Zd Zd (by have:=c.out.1;omega)).mono ?_;clear k;rintro e w5 ⟨z,qz,Hz,rfl,g⟩;have tz:(0:Int)<(z:Int):=by have:=Hz.out;have:=t.out;omega)
  |(go_at_call 114;refine(g.out.num 1 Zo (by have:=c.out.1;omega)).mono ?_;have N1:=Ja g.out.n64;clear g;rintro e w6 ⟨rfl,d⟩)
  |(go_at_call 132;refine(d.out.emit 10 y _ 0 (yF _ rfl) (Hy.out.1) N1.out Zd (by have:=c.out.1;omega)).mono ?_;have N2:=Ja d.out.n64;clear d;rintro e w7 ⟨rfl,j⟩)
  |(go_at_call 132;refine(j.out.emit 8 x _ 0 (yF _ rfl) (Hx.out.1) N2.out Zd (by have:=c.out.1;omega)).mono ?_;clear j;rintro e w8 ⟨rfl,a0⟩))
 first|go_end0|refine bodyPost_ret (results_none rfl _ _ _) rfl ?_
 rw[mkOp_13c c.out.2 q.out t.out]
 try rw[Hx.out.2]
 try rw[Hy.out.2]
 try rw[Hz.out]
 exact a0.out.ret
theorem op_any(h:wW w K X M)(c:M.cur<M.f.length)(d:M.sz+20<=1000000):
 G 111 #[Y K.pm] w (yk K X w (xK K.E M) (.tuple #[])):=by
 have i:=aaE K.E M (n:=14) Zo;have h3:=aaE K.E M.tick (n:=3) Zo;obtain⟨k,hk⟩:∃k,tkV K.E M 14=k:=⟨_,rfl⟩
 rw[hk] at i
 have l:∀j,j=11∨j=12∨j=13->k=j->G 111 #[Y K.pm] w (yk K X w (xK K.E M) (.tuple #[])):=fun j hj e=>by
  by_cases hq:tkV K.E (zJ K.E (zJ K.E M.tick).2).2 13=3
  ·by_cases hp:0<tkV K.E (zJ K.E (zJ K.E M.tick).2).2.tick 8
   ·rcases hj with rfl|rfl|rfl
    ·exact op_11c h c d (hk.trans e) hq hp
    ·exact op_12c h c d (hk.trans e) hq hp
    ·exact op_13c h c d (hk.trans e) hq hp
   ·have g:tkV K.E (zJ K.E (zJ K.E M.tick).2).2.tick 8=0:=Zo;rcases hj with rfl|rfl|rfl
    ·exact op_11b h c d (hk.trans e) hq g
    ·exact op_12b h c d (hk.trans e) hq g
    ·exact op_13b h c d (hk.trans e) hq g
  ·rcases hj with rfl|rfl|rfl
   ·exact op_11a h c d (hk.trans e) hq
   ·exact op_12a h c d (hk.trans e) hq
   ·exact op_13a h c d (hk.trans e) hq
 match k,i with
 |0,_=>exact op_0 h c d hk
 |1,_=>exact op_1 h c d hk
 |2,_=>exact op_2 h c d hk
 |3,_=>exact op_3 h c d hk
 |4,_=>exact op_4 h c d hk
 |5,_=>exact op_5 h c d hk
 |6,_=>exact op_6 h c d hk
 |7,_=>exact op_7 h c d hk
 |8,_=>exact op_8 h c d hk
 |9,_=>exact op_9 h c d hk
 |10,_=>
  by_cases hq:tkV K.E M.tick 3=0
  ·exact op_10a h c d hk hq
  ·exact op_10b h c d hk hq
 |11,_=>exact l 11 Zo rfl
 |12,_=>exact l 12 Zo rfl
 |13,_=>exact l 13 Zo rfl
 |k+14,h=>exact absurd h Zo
theorem Tryz.info_edge:(Tryz.prog.info? 79).map (fun i=>(i.zero,i.size,i.bytes))=some (some (.agg #[I 0,.slice none 0 0]),2,32):=by kernel_rfl
def sU (d:Nat):Prop:=∀(w:World) (K:MKC) (X:Nat->Prop) (M:MS),wW w K X M->M.cur<M.f.length->M.sz+pC d<=1000000->
 G 57 #[Y K.pm,I d] w (yk K X w (zp K.E d M) (.tuple #[]))
theorem OpSt.part{w0:World}{X0:Nat->Prop}{M0:MS}{c:Nat}(h:OpSt w0 K X0 M0 c w M)(j:sU d)(k:M0.sz+(c+pC d)<=1000000):
 G 57 #[Y K.pm,I d] w fun e w'=>e=.returned (.tuple #[])/\Hid (OpSt w0 K X0 M0 (c+pC d) w' (zp K.E d M)):=by
 obtain⟨X,hm,hs⟩:=h.made;refine(j w K X M hm h.cur (by have:=h.gr.sz;omega)).mono ?_;rintro e w' ⟨rfl,X',i,g⟩;have hg:=xw K.E hm.alt d M;exact⟨rfl,Ja ⟨⟨X',i,hs.trans g⟩,h.gr.trans hg,hg.cur h.cur⟩⟩
structure ArmMid (w:World) (K:MKC) (X:Nat->Prop) (M:MS) (d tg join n j:Nat) (wx:World) (Mj:MS):Prop where
 made:∃Xj,wW wx K Xj Mj/\Stp X w Xj wx
 rest:uV K.E (zp K.E d) tg join M.vals.length n 0 M=uV K.E (zp K.E d) tg join M.vals.length (n-j) j Mj
 vals:Mj.vals=M.vals
 gr:GrowP (j*(pC d+5)) M Mj
theorem ArmMid.next{w2:World}{Xj:Nat->Prop}{Mj:MS}{tg c n:Nat}(h:ArmMid w K X M d tg c n j wx Mj)(l:j<n)(hs:Stp X w Xj wx)(hf:tg+n<M.f.length)
 (h2:∃X2,wW w2 K X2 {wM K.E c j (zp K.E d {Mj with cur:=tg+j }) with vals:=(wM K.E c j (zp K.E d {Mj with cur:=tg+j })).vals.take M.vals.length }/\Stp Xj wx X2 w2):
 ArmMid w K X M d tg c n (j+1) w2 {wM K.E c j (zp K.E d {Mj with cur:=tg+j }) with vals:=(wM K.E c j (zp K.E d {Mj with cur:=tg+j })).vals.take M.vals.length }:=by
 obtain⟨X2,g,i⟩:=h2;have k:=g.alt;have h1:=((vk Mj (tg+j) (by have:=h.gr.len;omega)).trans ((xw K.E k d _).trans (su K.E c j (zp K.E d {Mj with cur:=tg+j })))).mono (show 0+(pC d+5)<=pC d+5 by omega);have h3:=sY h1;have hl:Mj.vals.length=M.vals.length:=by rw[h.vals]
 rw[hl] at h3;refine⟨⟨X2,g,hs.trans i⟩,?_,?_,?_⟩
 ·rw[h.rest,show n-j=(n-(j+1))+1 by omega,rg]
 ·have:=uF h1.pre;rw[hl] at this;exact this.trans h.vals
 ·have:=h.gr.trans h3;rw[Nat.succ_mul];exact this
theorem lH(hd:d<=5)(hP:sU d)(h:wW w K X M)(c3:M.cur<M.f.length){n:Nat}(r1:2<=n)(n8:n<=4)(hz:M.sz+(31+4*pC d)<=1000000):
 G 112 #[Y K.pm,I ((d:Int)+1),I n] w (yk K X w (xi K.E (zp K.E d) n M) (.tuple #[])):=by
 have HA:=Ja (OpSt.start h c3);have HZ:=Ja (Jb hz hP);have p5:=Ja c3
 have k3:K.B<=w.heap.size/\(∀k,K.Z k->k<w.heap.size):=by
  obtain⟨fv,vv,l,hi⟩:=h;exact⟨hi.size,hi.env.zl⟩
 have s1:=Ja k3;clear h c3 hz hP k3;go_enter Tryz.func112,Tryz.ntmps112;go_upto_region 1 with(go_at_call 58;go_must (refine(HA.out.any (by have:=HZ.out.1;omega)).mono ?_;rintro e w1 ⟨x,HX,rfl,b7⟩))
 obtain⟨M1,i0⟩:∃M1,(zJ K.E M).2=M1:=⟨_,rfl⟩
 rw[i0] at b7;obtain⟨X1,f8,k1⟩:=b7.out.made;have l8:=b7.out.gr.sz
 have j4:(∀k,X1 k->k<w1.heap.size)/\K.B<=w1.heap.size/\(∀k,K.Z k->k<w1.heap.size)/\M1.f.length<=999900:=by
  obtain⟨fv,vv,l,hi⟩:=f8;refine⟨hi.xl,hi.size,hi.env.zl,?_⟩;have h1:M1.f.length<=M1.sz:=by unfold MS.sz;omega
  have h2:=HZ.out.1;have h3:pC d≥101:=by cases d<;>unfold pC<;>omega
  omega
 have p3:=Ja (ToMid.start f8);have H1:=Ja (Jb k1 (Jb j4 i0));clear f8 k1 l8 j4 i0 HA;go_wp2
 go_loopw [7,8] (fun tv kv wx=>∃(j:Nat) (ta:Option Addr) (tc:Nat),j<=n/\tv=.slice ta j tc/\kv=I j/\Hid (ToMid w1 K X1 M1 (.slice ta j tc) j wx)) (fun _ kv _=>n-(intOf kv).toNat)
 case atStart=>exact⟨0,none,0,Jt _,rfl,rfl,p3⟩
 case round=>
  obtain⟨j,ta,tc,hj,rfl,rfl,HT⟩:=hrel
  by_cases a2:j<n
  ·have b0:(j:Int)<(n:Int):=Zo;obtain⟨Xj,f3,e9⟩:=HT.out.made;have c8:=rU f3 (n:=0) (by have h1:=(vW j M1).sz;have h2:=b7.out.gr.sz;have h3:=HZ.out.1;omega);rw[tB] at c8
   have g3:∀(w4:World) (X4:Nat->Prop),Stp Xj wr X4 w4->w4.ownsRow w1.heap.size 79 2 (.slice ta j tc) j ((toL M1.f.length j).flatMap za):=fun w4 X4 b4=>yD HT.out.own (fun k e=>b4.kept k (HT.out.own.lt k e).2 (fun e2=>by
    obtain⟨fv,vv,l,hi⟩:=f3
    exact hi.env.zx k e2 (.inr e)))
   obtain⟨ij,g2,c0,b9,b8⟩:=info_parts Tryz.info_edge;have HN:=Ja (Jb c8 (Jb e9 (Jb g3 a2)));have q4:=e9.size;clear f3 e9 c8 g3 a2;go_wp2_with (first|(go_at_call 56;go_must (refine HN.out.1.mono ?_;rintro e w4 ⟨rfl,X4,o0,b4⟩;have k2:=HN.out.2.2.1 w4 X4 b4;have q5:=b4.size;have m0:yM (w4.alloc (T #[I ((M1.f.length+j:Nat):Int),L] 79)) 2 (F w4.heap.size 1 1) 1 (za (⟨((M1.f.length+j:Nat):Int),[]⟩,L)):=yM.cells (zI rfl) rfl (by simp[za,Value.oneCell'])))|(at_builtin;go_must (refine zK _ rfl (.tmp 20) (.tmp 24) 80 rfl w1.heap.size 79 ij (.agg #[I 0,L]) 2 32 Tryz.underlying80 g2 c0 b9 b8 rfl Zd (.slice ta j tc) j ((toL M1.f.length j).flatMap za) rfl (k2.alloc _) _ 1 (za (⟨((M1.f.length+j:Nat):Int),[]⟩,L)) rfl m0 (by unfold maxLen;omega) Zo Zt ?_;intro v9 w9 u a0 d4)))
   obtain⟨n4,n3,rfl⟩:=zG u;go_roundw
   case rel=>
    refine⟨j+1,n4,n3,HN.out.2.2.2,rfl,by go_num,Ja (HT.out.next o0 (HN.out.2.1.trans b4) k2 H1.out.2.1.1 H1.out.2.1.2.1 a0 u (fun k e=>?_))⟩;rcases d4 with e2|e2
    ·exact .inl (by rw[<-e2];exact e)
    ·right;have e3:=e2.symm.trans e;simp at e3;omega
   case measure=>have:=HN.out.2.2.2;simp[intOf];omega
  ·obtain rfl:j=n:=by omega
   have b0:¬(j:Int)<(j:Int):=Zo;obtain⟨X2,f6,k0,g6⟩:=HT.out.done H1.out.2.1.2.2.1 (by have:=H1.out.2.1.2.2.2;omega);have a4:=b7.out.gr.trans (vW j M1);have a7:=tB j M1;obtain⟨tg,e8⟩:∃tg,M1.f.length=tg:=⟨_,rfl⟩
   rw[e8] at a7 g6;obtain⟨M2,h9⟩:∃M2,xE j M1=M2:=⟨_,rfl⟩
   rw[h9] at f6 a4 a7;have p9:=Ja (OpSt.start f6 (a4.cur p5.out));have j2:=a4.sz;have a5:=p9.out.block 1 (by have:=HZ.out.1;omega);rw[a7] at a5;obtain⟨jn,g1⟩:∃jn,tg+j=jn:=⟨_,rfl⟩
   rw[g1] at a5;have H2:=Ja (Jb (H1.out.1.trans k0) (Jb g6 (Jb j2 (Jb h9 (Jb e8 (Jb g1 (Jb a7 a4)))))));have n2:=Ja a5;clear f6 k0 g6 a4 a7 h9 e8 j2 a5 g1 HT;go_upto_region 7 with(go_at_call 56;go_must (refine n2.out.mono ?_;rintro e w3 ⟨rfl,p4⟩))
   obtain⟨kd,b5⟩:∃kd:Int,(if 2<j then 3 else 2)=kd:=⟨_,rfl⟩
   have d2:I64 kd:=by rw[<-b5];split<;>exact yF _ rfl
   have f9:2<j->kd=3:=fun e=>by rw[<-b5,if_pos e]
   have g0:¬2<j->kd=2:=fun e=>by rw[<-b5,if_neg e]
   have e4:=Ja (Jb b5 (Jb d2 (Jb f9 g0)));clear b5 d2 f9 g0
   go_upto_if 32 with fail
   go_cut [] (fun wx=>Hid (O w3 wx/\Q wx w3.heap.size #[I kd,I x,.slice ta j tc] 82))
   case first=>
    by_cases h3:2<j
    ·have o3:(2:Int)<(j:Int):=Zo;have hk:=e4.out.2.2.1 h3;subst hk;go_wp2;go_meet;exact Ja ⟨(Below.refl _ _).alloc (Je _) _,zI rfl⟩
    ·have o3:¬(2:Int)<(j:Int):=Zo;have hk:=e4.out.2.2.2 h3;subst hk;go_wp2;go_meet;exact Ja ⟨(Below.refl _ _).alloc (Je _) _,zI rfl⟩
   case rest=>
   obtain⟨l1,d0⟩:=hcut.out;have t0:=zA (i:=0) d0 rfl;have t1:=zA (i:=1) d0 rfl;have t2:=zA (i:=2) d0 rfl;have n1:=Ja ((p4.out.below l1).endB kd x (xk tg j) (.slice ta j tc) e4.out.2.1 HX.out.1 (fun X hm hs=>H2.out.2.1.step yq (hs.av K)));clear l1 d0 hcut;go_upto_region 11 with(go_at_call 59;go_must (refine n1.out.mono ?_;rintro e w5 ⟨rfl,i3⟩))
   obtain⟨M3,d6⟩:∃M3,(M2.block 1).endB ⟨kd,x,xk tg j⟩=M3:=⟨_,rfl⟩
   rw[d6] at i3;obtain⟨X5,f4,f0⟩:=i3.out.made;have g5:=H2.out.2.1.step yq (f0.av K);have m4:∃l3 vv5 l5,MkIn w5 K X5 M3 l3 vv5 l5:=f4;obtain⟨l3,vv5,l5,d3⟩:=m4;have c7:=d3.c7;obtain⟨va5,vc5,e5⟩:=zG d3.vown;rw[e5] at c7;have m1:=lt_of_block d3.blk;have d1:M3.f.length=jn+1:=by rw[<-d6,(zv _ _).len,yz,<-H2.out.2.2.2.2.2.1];have:=H2.out.2.2.2.2.2.2.1;omega
   have j1:M3.sz<=M.sz+(6+j):=by have:=i3.out.gr.sz;have:=H2.out.2.2.1;omega
   have j3:6+j+j*(pC d+5)+1<=31+4*pC d:=by have:=Qw (pC d+5) n8;omega
   have H5:=Ja (Jb (H2.out.1.trans f0) (Jb g5 (Jb d6 (Jb d1 (Jb j1 j3)))));have q0:=Ja (show ArmMid w5 K X5 M3 d tg jn j 0 w5 M3 from⟨⟨X5,f4,Stp.refl _ _⟩,rfl,rfl,(GrowP.refl _).mono (Jt _)⟩);clear f4 f0 g5 d3 d6 d1 j1 j3 e5 t0 t1 t2;go_wp2;clear c7 m1
   go_loopw [12] (fun kv wx=>∃(i:Nat) (Mi:MS),i<=j/\kv=I i/\Hid (ArmMid w5 K X5 M3 d tg jn j i wx Mi)) (fun kv _=>j-(intOf kv).toNat)
   case atStart=>exact⟨0,M3,Jt _,rfl,q0⟩
   case round=>
    obtain⟨i,Mi,hi,rfl,a1⟩:=hrel;obtain⟨Xi,n9,b3⟩:=a1.out.made;obtain⟨fv,vv,l,q⟩:=n9
    by_cases a2:i<j
    ·have b0:(i:Int)<(j:Int):=Zo;have g4:=H5.out.2.1.step yq (b3.av K);obtain⟨eb,eo,n6,k5⟩:=edgeCell g4 rfl (nl a2);obtain⟨ti,e7⟩:∃ti,tg+i=ti:=⟨_,rfl⟩
     simp only[e7] at k5;have f5:=q.free 5;have f1:=lt_of_block q.blk;have c5:=q.c5;have b6:=q.goto ti;have n5:Mi.sz<=M3.sz+i*(pC d+5):=a1.out.gr.sz;have m3:i*(pC d+5)+(pC d+5)<=j*(pC d+5):=by have:=Qw (pC d+5) a2;rw[Nat.succ_mul] at this;exact this
     have l0:Mi.sz+(pC d+5)<=1000000:=by have h1:=HZ.out.1;have h2:=H5.out.2.2.2.2.1;have h3:=H5.out.2.2.2.2.2;omega
     have k6:ti<Mi.f.length:=by have h1:=a1.out.gr.len;have h2:=H5.out.2.2.2.1;have h3:=H2.out.2.2.2.2.2.1;omega
     have p1:=Ja e7;have m:=Ja (Jb b3 (Jb b6 (Jb l0 k6)));subst n6;clear e7 q b3 g4 b6 n5 m3 l0 k6;go_upto_region 16 with fail;generalize h7:wr.setCell ⟨K.pm,5,none⟩ (I ti)=W6 at *;obtain⟨M6,d5⟩:∃M6:MS,{Mi with cur:=ti }=M6:=⟨_,rfl⟩
     have j0:M6.sz+(pC d+5)<=1000000:=by rw[<-d5];exact m.out.2.2.1
     have l2:OpSt W6 K Xi M6 0 W6 M6:=by rw[<-d5];exact OpSt.start m.out.2.1.1.at m.out.2.2.2
     have a8:=Ja (Jb (l2.part HZ.out.2 Zo) (Jb d5 j0));have q9:IntKind.i64.wrap ((d:Int)+1-1)=(d:Int):=by rw[Om _ Zo];omega
     clear d5 j0 l2 h7 c5 f5 k5;go_upto_region 17 with(go_at_call 57;go_must (refine a8.out.1.mono ?_;rintro e w7 ⟨rfl,i2⟩))
     obtain⟨M7,h8⟩:∃M7,zp K.E d M6=M7:=⟨_,rfl⟩
     rw[h8] at i2;have n0:=Ja h8;clear h8
     go_cut [65] (fun v wx=>∃bb:Bool,v=.bool bb/\(bb=true↔(tkV K.E M7 12=11/\0<i))/\Hid (OpSt W6 K Xi M6 (0+pC d+1) wx M7.tick))
     case first=>
      by_cases ht:tkV K.E M7 12=11
      ·have d7:=Ja (i2.out.takeK 12 11 11 rfl ht Zd Zd (by have:=a8.out.2.2;omega));have HT:=Ja ht;clear ht
       by_cases h0:0<i
       ·have o4:(0:Int)<(i:Int):=Zo;go_wp2_with (go_at_call 55;go_must (refine d7.out.mono ?_;rintro e w8 ⟨rfl,a6⟩))
        go_meet;exact⟨true,rfl,⟨fun _=>⟨HT.out,h0⟩,fun _=>rfl⟩,a6⟩
       ·have o4:¬(0:Int)<(i:Int):=Zo;go_wp2_with (go_at_call 55;go_must (refine d7.out.mono ?_;rintro e w8 ⟨rfl,a6⟩))
        go_meet;exact⟨false,rfl,⟨(fun e=>by cases e),(fun e=>absurd e.2 h0)⟩,a6⟩
      ·have d7:=Ja (i2.out.take 12 Zd Zd (by have:=a8.out.2.2;omega));have HT:=Ja ht;clear ht;go_wp2_with (go_at_call 55;go_must (refine d7.out.mono ?_;rintro e w8 ⟨z,q3,m6,rfl,a6⟩;have tz:((z:Int)==11)=false:=by rw[beq_eq_false_iff_ne];have:=m6.out;have:=HT.out;omega))
       go_meet;exact⟨false,rfl,⟨(fun e=>by cases e),(fun e=>absurd e.1 HT.out)⟩,a6⟩
     case rest=>
     obtain⟨bb,rfl,h6,a6⟩:=hcut;have l4:=Ja h6;clear h6;have i5:=Ja (a6.out.any (by have:=a8.out.2.2;omega))
     go_upto_if 65 with fail
     go_cut [] (fun wx=>Hid (OpSt W6 K Xi M6 (0+pC d+1+4) wx (wM K.E jn i M7)))
     case first=>
      cases bb
      ·go_wp2_with (first|(go_at_call 58;go_must (refine i5.out.mono ?_;rintro e w9 ⟨y,HY,rfl,i1⟩;have p8:=Ja (i1.out.endN 1 0 [⟨(jn:Int),[y]⟩] (F (w9.heap.size+1) 1 1) (yF _ rfl) (yF _ rfl) (((Below.refl _ _).alloc (Je _) _).alloc Zs _) (pj (w:=w9) (xs:=[y]) (blk:=(jn:Int)) (fun x hx=>by rw[Jo] at hx;subst hx;exact HY.out.1) Zs (vG _ Zo (by have h1:=H5.out.2.2.2.1;have h2:=H5.out.2.2.2.2.1;have h3:=HZ.out.1;unfold MS.sz at *;omega))))))|(go_at_call 59;go_must (refine p8.out.mono ?_;rintro e w10 ⟨rfl,c9⟩)))
       go_meet;refine Ja ?_
       have e1:wM K.E jn i M7=(zJ K.E M7.tick).2.endB ⟨1,0,[⟨(jn:Nat),[(zJ K.E M7.tick).1]⟩]⟩:=by
        unfold wM;rw[if_neg (fun e=>by have:=l4.out.2 e;cases this)]
       rw[e1,HY.out.2];exact c9.out
      ·go_wp2_with (first|(go_at_call 58;go_must (refine i5.out.mono ?_;rintro e w9 ⟨y,HY,rfl,i1⟩))|(go_at_call 59;go_must (refine(i1.out.endB 4 y [] (L) (yF _ rfl) HY.out.1 (fun X _ _=>yE.nil)).mono ?_;rintro e w10 ⟨rfl,c9⟩)))
       go_meet;refine Ja ?_
       have e1:wM K.E jn i M7=(zJ K.E M7.tick).2.endB ⟨4,(zJ K.E M7.tick).1,[]⟩:=by
        unfold wM;rw[if_pos (l4.out.1 (by trivial))]
       rw[e1,HY.out.2];exact c9.out
     case rest=>
     obtain⟨X9,⟨r6,vv9,l9,a3⟩,j5⟩:=hcut.out.made;obtain⟨va9,vc9,l7⟩:=zG a3.vown;subst l7;have c7:=a3.c7;have f7:=a3.free 7;have q6:=lt_of_block a3.blk
     have c2:M3.vals.length<=(wM K.E jn i M7).vals.length:=by
      have h1:=dO hcut.out.gr.pre;rw[<-a8.out.2.1] at h1;have h2:({Mi with cur:=ti }:MS).vals=Mi.vals:=rfl;rw[h2,a1.out.vals] at h1;exact h1
     have q8:M3.vals.length<=vc9:=Jn c2 (zm a3.vown).1;have q2:vc9<=9223372036854775807:=by have:=(zm a3.vown).2;omega
     have k7:=a3.cut c2;have i4:=Ja (Jb k7 j5);clear a3 c2 k7 j5 hcut;go_wp2;go_roundw
     case rel=>
      have hq:=a1.out.next (w2:=wc.setCell ⟨K.pm,7,none⟩ (.slice va9 M3.vals.length vc9)) a2 m.out.1 (by have h1:=H5.out.2.2.2.1;have h2:=H2.out.2.2.2.2.2.1;omega) ⟨X9,?_,(m.out.2.1.2.trans i4.out.2).trans i4.out.1.2⟩
      ·exact⟨i+1,_,a2,by go_num,Ja hq⟩
      ·rw[p1.out,a8.out.2.1,n0.out];exact i4.out.1.1.at
     case measure=>have:=a2;simp[intOf];omega
    ·obtain rfl:i=j:=by omega
     have b0:¬(i:Int)<(i:Int):=Zo;have a9:=a1.out.rest;rw[show i-i=0 by omega] at a9
     have m2:∃b,Mi.f[jn]? =some b/\b.params=[(M2.next:Int)]:=by
      have a7:=H2.out.2.2.2.2.2.2.1;have r3:=H2.out.2.2.2.2.2.1
      have h0:(M2.block 1).f[jn]? =some (wJ M2.next 1):=by
       show(M2.f++ [wJ M2.next 1])[jn]? =_
       rw[Nc Zo,show jn-M2.f.length=0 by omega];rfl
      obtain⟨b1,h1,h2⟩:=(zv (M2.block 1) ⟨kd,x,xk tg i⟩).par _ _ h0;rw[H5.out.2.2.1] at h1;obtain⟨b2,h3,h4⟩:=a1.out.gr.par _ _ h1;exact⟨b2,h3,h4.trans (h2.trans rfl)⟩
     obtain⟨bj,g8,k9⟩:=m2;have b6:=q.goto jn;have c5:=q.c5;have f5:=q.free 5;have f1:=lt_of_block q.blk;have r2:jn<l.length:=by rw[q.len];exact(Jh.1 g8).1
     have o1:=q.flen;rw[<-q.len] at o1;have m:=Ja (Jb b3 (Jb b6 (Jb g8 (Jb k9 a9))));clear q b3 b6 g8 k9 a9;go_upto_region 22 with fail;generalize h7:wr.setCell ⟨K.pm,5,none⟩ (I jn)=W6 at *;obtain⟨g,c,pa,pc,k4,r4,o2,f2⟩:=m.out.2.1.1.parAt (i:=jn) m.out.2.2.1;have h0:=f2 0 (M2.next:Int) (by rw[m.out.2.2.2.1];rfl);obtain⟨bb,o,n7,h6,i7,h64⟩:=h0;rw[Uk] at i7;rw[m.out.2.2.2.1] at o2;obtain⟨va,vc,e6⟩:=zG m.out.2.1.1.vown;have u:=m.out.2.1.1.vown;have c4:=m.out.2.1.1.c4;have c7:=m.out.2.1.1.c7;have f7:=m.out.2.1.1.free 7;have i9:=lt_of_block m.out.2.1.1.blk;have nb:=zC u m.out.2.1.1.blk (.inr Zd);rw[e6] at u c7 nb;rw[k4] at c4;subst n7;have m7:=Ja u;have p0:=Ja e6;have q1:=Ja h64
     have r0:Mi.vals.length<=999999:=by
      have h1:=a1.out.vals;have h2:=H5.out.2.2.2.2.1;have h3:=HZ.out.1;have h4:M3.vals.length<=M3.sz:=by unfold MS.sz;omega
      have h5:pC d≥101:=by cases d<;>unfold pC<;>omega
      rw[h1];omega
     have o9:∀o,A (W6.alloc o) K.pm 7 (.slice va Mi.vals.length vc):=fun o=>(Oo (w:=W6) (Below.heap_alloc _ _ _ i9)).trans c7
     have o5:∀o,N (W6.alloc o) K.pm 7:=fun o=>(Qm (w:=W6) (Below.heap_alloc _ _ _ i9)).trans f7
     have r5:K.B<=W6.heap.size:=m.out.2.1.1.size;obtain⟨ij,g2,c0,b9,b8⟩:=info_parts Tryz.info_int;have HP:=Ja f2;clear u e6 h64 f2 k4 b0 c5 f5 f1 h7
     go_region_law (first|(refine step_append_lies _ (by rfl) (.tmp 97) (.tmp 109) _ (by rfl) K.B 3 ij (I 0) 1 8 Tryz.underlying22 g2 c0 b9 b8 rfl Zo (.slice va Mi.vals.length vc) Mi.vals.length (Mi.vals.map zN) (by rfl) ((m7.out.alloc _).drew) ⟨W6.heap.size,0,none⟩ 1 1 [I (M2.next:Int)] (by rfl) (by rfl) (Oi (cs:=#[I (M2.next:Int)]) (t:=3) (fr:=(0,0)) (heap_alloc_new W6 _)) (by simp[Value.oneCell']) Zo (by unfold maxLen;omega) Zo Zt (W6.heap.size+1) Zs ?_;intro gg m5 w3 i6 a0 d4 q7;have s0:=(a0.cell_far ⟨K.pm,7,none⟩ Zt (Ne.symm nb)).trans (o9 _);have r8:=(a0.frozen_far ⟨K.pm,7,none⟩ Zt (Ne.symm nb)).trans (o5 _)))
     all_goals go_wp2_with fail
     all_goals (first|go_end0|refine bodyPost_ret (results_none rfl _ _ _) rfl ?_)
     all_goals (
      have a4:=xN a0;rw[<-p0.out] at a4 d4
      have hP:=m.out.2.1.1.putV (vv':=F gg (Mi.vals.length+1) m5) (x:=(M2.next:Int)) a4 i6 (fun k e=>by
       have e2:gg=k:=by simpa[Value.ownBlock] using e
       subst e2;rcases d4 with e3|e3
       ·exact .inl e3
       ·right;omega) q1.out (by
       have h1:=a1.out.gr.sz;have h2:=H5.out.2.2.2.2.1;have h3:=H5.out.2.2.2.2.2;have h4:=HZ.out.1
       show Mi.sz+1<=1000000
       omega)
      refine⟨rfl,_,?_,(H5.out.1.trans m.out.1).trans (m.out.2.1.2.trans hP.2)⟩
      have e:xi K.E (zp K.E d) i M= {Mi with cur:=jn,vals:=Mi.vals++ [(M2.next:Int)]}:=by
       unfold xi;simp only;rw[H1.out.2.2,HX.out.2,H2.out.2.2.2.1,H2.out.2.2.2.2.1,H2.out.2.2.2.2.2.1,e4.out.1,H5.out.2.2.1,m.out.2.2.2.2];have e0:Mi.f.getD jn ⟨[],[],⟨0,0,[]⟩⟩=bj:=by rw[Jj,m.out.2.2.1];rfl
       show({Mi with cur:=jn,vals:=Mi.vals++ [((Mi.f.getD jn ⟨[],[],⟨0,0,[]⟩⟩).params).getD 0 0]}:MS)=_
       rw[e0,m.out.2.2.2.1];rfl
      rw[e]
      exact hP.1.at)
structure SwMid (w:World) (B g i:Nat) (v:Value) (bt:BT) (l:List BT) (rs:List Row) (ob k j:Nat) (o:IOp) (av:Value) (o2:IOp) (av2:Value) (oc:Nat) (wx:World):Prop where
 rows:Rows wx B (re bt.ov (bt.ops.set k (o2,av2))::(zd v l::zP bt.pv bt.params::xg bt.tv bt.tos::(g9 bt.ops++ve bt.tos)++rs))
 blk:wx.heap[w.heap.size]? =some (.cells (zU (o,av)).toArray 76 (0,0))
 chg:Chg w (zd v l::bt.rows) wx
 c1:wx.cell? ⟨g,i*5+1,none⟩=some (.slice (some ⟨ob,0,none⟩) bt.ops.length oc)
 cell:∀ {q:Nat},q<6->∃u,wx.cell? ⟨ob,j*6+q,none⟩=some u
 free:∀ {q:Nat},q<6->wx.frozen? ⟨ob,j*6+q,none⟩=false
 lt:w.heap.size<wx.heap.size/\g<wx.heap.size/\ob<wx.heap.size
theorem SwMid.box{B:Nat}{v:Value}{av:Value}(m:SwMid w B g i v bt l rs ob k j o av o2 c oc wx){q:Nat}{u:Value}(h:(zU (o,av))[q]? =some u):A wx w.heap.size q u:=
 zA m.blk (by rw[List.getElem?_toArray];exact h)
theorem mR{b o:Nat}{vs:List Value}{r:Row}(h:r.blk=some b):Chg w [r] (w.setCells b o vs):=
 ⟨(ze b vs o w).1,(ze b vs o w).2.1,(ze b vs o w).2.2,Ul (y8 b vs o w).symm,fun k hk hn=>ye b k (fun e=>hn (by rw[Nj];exact⟨r,.head _,by rw[h,e]⟩)) vs o w⟩
theorem iP{α β:Type}(f:α->β){l:List α}{x y:α}(hk:l[k]? =some x)(h:l[j]? =some y):(((l.set k y).set j x).map f).Perm (l.map f):=by
 have c:=(Jh.1 hk).1;have d:=(Jh.1 h).1
 have g:(l.set k y)[j]? =some y:=by
  by_cases e:k=j
  ·subst e;rw[Nn c]
  ·rw[Ns e];exact h
 have h1:=rM f (l:=l.set k y) (k:=j) (by rw[Nd];exact d) x;have h2:=tT f g;have h3:=rM f c y;have m:=tT f hk;have i:((l.set k y).eraseIdx j).map f|>.Perm ((l.eraseIdx k).map f):=(List.perm_cons (f y)).1 (h2.symm.trans h3)
 exact(h1.trans (i.cons _)).trans m.symm
section
variable {w:World} {B g i:Nat} {v:Value} {bt:BT} {l:List BT} {rs:List Row} (h:SpSt w B g i v bt l rs)
include h
theorem swMid_of{av:Value}(d:bt.ov.ownBlock=some ob)(hk:bt.ops[k]? =some (o,av))(hj:bt.ops[j]? =some (o2,c))(a0:bt.ov=F ob bt.ops.length oc)(a2:g≠ob):
 SwMid w B g i v bt l rs ob k j o av o2 c oc (((w.setCells ob (k*6) (zU (o2,c))).alloc (T (zU (o,av)).toArray 76)).drew):=by
 have hp:(zd v l::(bt.rows++rs)).Perm (re bt.ov bt.ops::(zd v l::zP bt.pv bt.params::xg bt.tv bt.tos::(g9 bt.ops++ve bt.tos)++rs)):=by
  classical
  unfold BT.rows;refine Jp.2 fun r=>?_
  simp only[Nb,Nf];omega
 have h1:=putO (x:=(o2,c)) d (h.rows.perm hp) hk rfl;have hb:O (w.setCells ob (k*6) (zU (o2,c))) (((w.setCells ob (k*6) (zU (o2,c))).alloc (T (zU (o,av)).toArray 76)).drew):=((Below.refl _ _).alloc (Je _) _).drew;have h2:=h1.below hb;have t:=y8 ob (zU (o2,c)) (k*6) w;have u:∃y,(bt.ops.set k (o2,c))[j]? =some y:=⟨_,Jd (by rw[Nd];exact(Jh.1 hj).1)⟩
 obtain⟨y,hy⟩:=u;have m:=zq (n:=6) Zd z7 (h2.own _ (.head _)) d hy;have hl:=h.rows.own _ (.head _);have a1:=(hl.lt g h.gb).2;have a3:=hb.size;refine⟨h2,zI (W:=w.setCells ob (k*6) (zU (o2,c))) t,?_,?_,fun {q} hq=>?_,fun {q} hq=>(m q hq).2,?_⟩
 ·exact((mR (r:=re bt.ov bt.ops) d).one (wZ v l bt)).trans (Chg.below hb)
 ·have:=z9 zX (h2.own (zd v l) (.tail _ (.head _))) h.gb h.at' 1 _ rfl;rw[this,a0]
 ·exact Option.isSome_iff_exists.1 (m q hq).1
 ·have h6:=((h.rows.perm hp).own _ (.head _)).lt ob d;have h7:=lt_of_block (zI (W:=w.setCells ob (k*6) (zU (o2,c))) (o:=T (zU (o,av)).toArray 76) t);exact⟨h7,Nat.lt_trans a1 h7,Nat.lt_trans h6.2 h7⟩
theorem SwMid.close{n:Nat}{av:Value}(m:SwMid w B g i v bt l rs ob k j o av o2 c oc wx)(d:bt.ov.ownBlock=some ob)(hk:bt.ops[k]? =some (o,av))(q:bt.ops[j]? =some (o2,c))(u:n%bt.ops.length=k)(a0:n/7%bt.ops.length=j):
 uE w B g i v bt l rs 6 n (.returned (.tuple #[])) ((wx.setCells ob (j*6) (zU (o,av))).drew):=by
 have t:∃y,(bt.ops.set k (o2,c))[j]? =some y:=⟨_,Jd (by rw[Nd];exact(Jh.1 q).1)⟩
 obtain⟨y,hy⟩:=t;have h1:=(putO (x:=(o,av)) d m.rows hy rfl).below ((Below.refl _ _).drew);have hs:(g9 ((bt.ops.set k (o2,c)).set j (o,av))).Perm (g9 bt.ops):=iP (fun o:IOp×Value=>zP o.2 o.1.args) hk q;refine⟨rfl,{bt with ops:=(bt.ops.set k (o2,c)).set j (o,av)},h.sub rfl (h1.perm ?_),?_,?_⟩
 ·classical
  have c1:=Jp.1 hs;unfold BT.rows;refine Jp.2 fun r=>?_
  have:=c1 r;simp only[Nb,Nf] at this ⊢;omega
 ·have a1:=(Jh.1 hk).1;unfold xh BT.blk;simp only[Nr];rw[if_pos Zo,if_neg Zo,if_pos (by trivial),u,a0,Jr,hk,Jr,q];simp only[Option.map_some,Ox]
 ·exact m.chg.trans (((mR (r:=re bt.ov bt.ops) d).one (wZ v l bt)).trans (Chg.below ((Below.refl _ _).drew)))
end
theorem spoil_6{B:Nat}{v:Value}(h:SpSt w B g i v bt l rs){n:Nat}(hn:n<65536)(hz:SzB bt)(a8:0<bt.ops.length):
 G 32 #[.pointer (some ⟨g,i*5,none⟩),I 6,I n] w (uE w B g i v bt l rs 6 n):=by
 have c:w.ownsRow B 76 6 bt.ov bt.ops.length (bt.ops.flatMap zU):=h.rows.own _ (.tail _ (Jz _ (.tail _ (.head _))));obtain⟨xa,oc,a3⟩:=zG c;have y:=c;rw[a3] at y;have b6:=(zm y).1;obtain⟨ob,oc2,b5,c7,b3⟩:=y.form a8;cases b5;have a2:bt.ov.ownBlock=some ob:=by rw[a3];rfl
 obtain⟨k,a6⟩:∃k,n%bt.ops.length=k:=⟨_,rfl⟩
 have hk:k<bt.ops.length:=by rw[<-a6];exact Qj _ a8
 have d0:(n:Int)%(bt.ops.length:Int)=(k:Int):=by rw[<-a6];exact(Ou _ _).symm
 obtain⟨⟨o,av⟩,a4⟩:∃x,bt.ops[k]? =some x:=⟨_,Jd hk⟩
 have b0:=z9 zX (h.rows.own _ (.head _)) h.gb h.at';have c1:A w g (i*5+1) (F ob bt.ops.length oc):=by rw[<-a3];exact b0 1 _ rfl
 have gl:=((h.rows.own _ (.head _)).lt g h.gb).2;have a1:=z9 z7 c a2 a4;have c8:=hz.ops;obtain⟨j,a7⟩:∃j,n/7%bt.ops.length=j:=⟨_,rfl⟩
 have hj:j<bt.ops.length:=by rw[<-a7];exact Qj _ a8
 have b7:(n:Int)/7%(bt.ops.length:Int)=(j:Int):=by rw[<-a7];simp
 have c9:((n:Int)/7).tmod (bt.ops.length:Int)=(j:Int):=by rw[Qc Zo];exact b7
 obtain⟨⟨o2,av2⟩,a5⟩:∃x,bt.ops[j]? =some x:=⟨_,Jd hj⟩
 have b1:w.ownsRow B 3 1 av o.args.length (o.args.map zN):=h.rows.own (zP av o.args) (.tail _ (Jz _ (.tail _ (.tail _ (.tail _ (Jz _ (Oj (Ji a4))))))));have a9:w.ownsRow B 3 1 av2 o2.args.length (o2.args.map zN):=h.rows.own (zP av2 o2.args) (.tail _ (Jz _ (.tail _ (.tail _ (.tail _ (Jz _ (Oj (Ji a5))))))));obtain⟨aa,ac,rfl⟩:=zG b1;obtain⟨aa2,ac2,rfl⟩:=zG a9;have d:=z9 z7 c a2 a5;have a0:=zq Zd z7 c a2 a4;have b2:=zq Zd z7 c a2 a5;have m:ob<w.heap.size:=b3;have k0:A w ob (k*6) (I o.code):=a1 0 _ rfl;have k1:A w ob (k*6+1) (I o.res):=a1 1 _ rfl;have k2:A w ob (k*6+2) (I o.a):=a1 2 _ rfl;have k3:A w ob (k*6+3) (I o.b):=a1 3 _ rfl;have k4:A w ob (k*6+4) (U (o.n:Int)):=a1 4 _ rfl;have k5:A w ob (k*6+5) (.slice aa o.args.length ac):=a1 5 _ rfl;have j0:A w ob (j*6) (I o2.code):=d 0 _ rfl;have j1:A w ob (j*6+1) (I o2.res):=d 1 _ rfl;have j2:A w ob (j*6+2) (I o2.a):=d 2 _ rfl;have j3:A w ob (j*6+3) (I o2.b):=d 3 _ rfl;have j4:A w ob (j*6+4) (U (o2.n:Int)):=d 4 _ rfl;have j5:A w ob (j*6+5) (.slice aa2 o2.args.length ac2):=d 5 _ rfl;have c4:N w ob (k*6):=(a0 0 Zd).2;have c3:N w ob (k*6+1):=(a0 1 Zd).2;have c2:N w ob (k*6+2):=(a0 2 Zd).2;have c0:N w ob (k*6+3):=(a0 3 Zd).2;have b9:N w ob (k*6+4):=(a0 4 Zd).2;have b8:N w ob (k*6+5):=(a0 5 Zd).2;have hB:B<=w.heap.size:=by have:=(h.rows.own _ (.head _)).lt g h.gb;omega
 have b4:g≠ob:=fun e=>by
  have hp:(zd v l::(bt.rows++rs)).Perm (re bt.ov bt.ops::(zd v l::zP bt.pv bt.params::xg bt.tv bt.tos::(g9 bt.ops++ve bt.tos)++rs)):=by
   classical
   unfold BT.rows;refine Jp.2 fun r=>?_
   simp only[Nb,Nf];omega
  exact(h.rows.perm hp).apart (g:=ob) a2 (Nj.2 ⟨zd v l,.head _,by rw[<-e];exact h.gb⟩)
 have t:=Ja (Jb h (Jb a2 (Jb a4 (Jb a5 (Jb a6 (Jb a7 (Jb a3 b4)))))));clear h c y a3 a2 a4 a6 b0 a1 hz b6 a5 a7 d a0 b2 b1 a9;go_enter Tryz.func32,Tryz.ntmps32;go_upto_region 18 with fail
 go_cut [6] (fun s6 wx=>s6=I k/\Hid (SwMid w B g i v bt l rs ob k j o (.slice aa o.args.length ac) o2 (.slice aa2 o2.args.length ac2) oc wx))
 case first=>
  skip
  refine wp_region_noPanic ?_;refine yQ (S:=(fun w'=>A w' g (i*5+1) (F ob bt.ops.length oc)/\A w' ob (j*6) (I o2.code)/\A w' ob (j*6+1) (I o2.res)/\A w' ob (j*6+2) (I o2.a)/\A w' ob (j*6+3) (I o2.b)/\A w' ob (j*6+4) (U (o2.n:Int))/\A w' ob (j*6+5) (.slice aa2 o2.args.length ac2))) 13 Zk ⟨(Ok w _ _ gl).trans c1,(Ok w _ _ m).trans j0,(Ok w _ _ m).trans j1,(Ok w _ _ m).trans j2,(Ok w _ _ m).trans j3,(Ok w _ _ m).trans j4,(Ok w _ _ m).trans j5⟩ (fun hHeld=>?_);refine Tl 0 ?_
  try simp only[Yp]
  refine Tl 1 ?_
  try simp only[Yp]
  refine Tl 2 ?_
  try simp only[Yp]
  refine Tl 3 ?_
  try simp only[Yp]
  refine Tl 4 ?_
  try simp only[Yp]
  refine Tl 5 ?_
  try simp only[Yp]
  refine Tl 6 ?_
  try simp only[Yp]
  refine Tl 7 ?_
  try simp only[Yp]
  refine Tl 8 ?_
  try simp only[Yp]
  refine Tl 9 ?_
  try simp only[Yp]
  refine Tl 10 ?_
  try simp only[Yp]
  refine Tl 11 ?_
  try simp only[Yp]
  refine Tl 12 ?_
  try simp only[Yp]
  refine z8 (rs:=[13]) Zk Zs ?_;refine zS.last (o:=_) rfl (fun K hK=>?_);go_simp;refine hK.out _ _ ?_;clear hK K
  try simp only[Yp]
  refine xj Zk (NoPanic.normal ?_) _;go_wp2;go_meet;refine⟨rfl,?_⟩;exact Ja (swMid_of t.out.1 t.out.2.1 t.out.2.2.1 t.out.2.2.2.1 t.out.2.2.2.2.2.2.1 t.out.2.2.2.2.2.2.2)
 case rest=>
  obtain⟨rfl,hcut⟩:=hcut;have m1:A wc g (i*5+1) (F ob bt.ops.length oc):=hcut.out.c1;have m2:A wc w.heap.size 0 (I o.code):=hcut.out.box (q:=0) rfl;have m3:A wc w.heap.size 1 (I o.res):=hcut.out.box (q:=1) rfl;have m4:A wc w.heap.size 2 (I o.a):=hcut.out.box (q:=2) rfl;have m5:A wc w.heap.size 3 (I o.b):=hcut.out.box (q:=3) rfl;have m6:A wc w.heap.size 4 (U (o.n:Int)):=hcut.out.box (q:=4) rfl;have m7:A wc w.heap.size 5 (.slice aa o.args.length ac):=hcut.out.box (q:=5) rfl;obtain⟨u0,n0⟩:∃u,A wc ob (j*6) u:=hcut.out.cell (q:=0) Zd;have g0:N wc ob (j*6):=hcut.out.free (q:=0) Zd;obtain⟨u1,n1⟩:∃u,A wc ob (j*6+1) u:=hcut.out.cell (q:=1) Zd;have g1:N wc ob (j*6+1):=hcut.out.free (q:=1) Zd;obtain⟨u2,n2⟩:∃u,A wc ob (j*6+2) u:=hcut.out.cell (q:=2) Zd;have g2:N wc ob (j*6+2):=hcut.out.free (q:=2) Zd;obtain⟨u3,n3⟩:∃u,A wc ob (j*6+3) u:=hcut.out.cell (q:=3) Zd;have g3:N wc ob (j*6+3):=hcut.out.free (q:=3) Zd;obtain⟨u4,n4⟩:∃u,A wc ob (j*6+4) u:=hcut.out.cell (q:=4) Zd;have g4:N wc ob (j*6+4):=hcut.out.free (q:=4) Zd;obtain⟨u5,n5⟩:∃u,A wc ob (j*6+5) u:=hcut.out.cell (q:=5) Zd;have g5:N wc ob (j*6+5):=hcut.out.free (q:=5) Zd;obtain⟨ml1,ml2,ml3⟩:=hcut.out.lt;have c5:=hcut;clear hcut;clear c1 k0 k1 k2 k3 k4 k5 j0 j1 j2 j3 j4 j5 c4 c3 c2 c0 b9 b8;go_wp2;refine wp_region_noPanic ?_;refine yQ (S:=(fun w'=>A w' g (i*5+1) (F ob bt.ops.length oc)/\A w' w.heap.size 0 (I o.code)/\A w' w.heap.size 1 (I o.res)/\A w' w.heap.size 2 (I o.a)/\A w' w.heap.size 3 (I o.b)/\A w' w.heap.size 4 (U (o.n:Int))/\A w' w.heap.size 5 (.slice aa o.args.length ac))) 7 Zk ⟨m1,m2,m3,m4,m5,m6,m7⟩ (fun hHeld=>?_);refine Tl 0 ?_
  try simp only[Yp]
  refine Tl 1 ?_
  try simp only[Yp]
  refine Tl 2 ?_
  try simp only[Yp]
  refine Tl 3 ?_
  try simp only[Yp]
  refine Tl 4 ?_
  try simp only[Yp]
  refine Tl 5 ?_
  try simp only[Yp]
  refine Tl 6 ?_
  try simp only[Yp]
  refine z8 (rs:=[7]) Zk Zs ?_;refine zS.last (o:=_) rfl (fun K hK=>?_);go_simp;refine hK.out _ _ ?_;clear hK K
  try simp only[Yp]
  refine xj Zk (NoPanic.normal ?_) _;go_wp2
  first|go_end0|refine bodyPost_ret (results_none rfl _ _ _) rfl ?_
  exact SwMid.close t.out.1 c5.out t.out.2.1 t.out.2.2.1 t.out.2.2.2.1 t.out.2.2.2.2.1 t.out.2.2.2.2.2.1
end Go.Proofs.YtoahcpkibpomcaaGreat
