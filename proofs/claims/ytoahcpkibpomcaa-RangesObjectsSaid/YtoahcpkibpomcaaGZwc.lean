/- Part of a proof. -/
import Derived.Test.YtoahcpkibpomcaaGZRun
set_option linter.all false
set_option maxHeartbeats 16000000
set_option maxRecDepth 100000
namespace Go.Proofs.Ytoahcpkibpomcaa
open Go.RowKit
variable {W w w' w0 w2 w3 wx:World}{K:MKC}{X X0:Nat->Prop}{M M0:MS}{c d j k tg:Nat}{xs:List Int}{l:List BM}{vv:Value}{a0:Rg}
structure OpSt (w0:World) (K:MKC) (X0:Nat->Prop) (M0:MS) (c:Nat) (w:World) (M:MS):Prop where
 made:∃X,wW w K X M/\Stp X0 w0 X w
 gr:GrowP c M0 M
 cur:M.cur<M.f.length
section
variable {w0 w:World} {K:MKC} {X0:Nat->Prop} {M0 M:MS} {c:Nat} (h:OpSt w0 K X0 M0 c w M)
include h
theorem OpSt.take (n:Nat)(i:0<n)(g:n<=1000000)(k:M0.sz+(c+1)<=1000000):
 T 55 #[L K.pm,I n] w fun e w'=>∃z:Nat,z<n/\Hid (tkV K.E M n=z)/\e=.returned (I z)/\Hid (OpSt w0 K X0 M0 (c+1) w' M.tick):=by
 obtain⟨X,hm,hs⟩:=h.made;refine(m8 hm i g (by have:=h.gr.sz;omega)).mono ?_;rintro e w' ⟨rfl,X',j,d⟩;exact⟨_,aaE _ _ i,Ja rfl,rfl,Ja ⟨⟨X',j,hs.trans d⟩,h.gr.trans (zT M).p,h.cur⟩⟩
theorem OpSt.takeK (n k:Nat)(kI:Int)(g:(k:Int)=kI)(hk:tkV K.E M n=k)(i:0<n)(d:n<=1000000)(hz:M0.sz+(c+1)<=1000000):
 T 55 #[L K.pm,I n] w fun e w'=>e=.returned (I kI)/\Hid (OpSt w0 K X0 M0 (c+1) w' M.tick):=by
 refine(h.take n i d hz).mono ?_;rintro e w' ⟨z,_,hz,rfl,hm⟩;refine⟨?_,hm⟩;rw[<-g,<-hk,hz.out]
theorem OpSt.any (i:M0.sz+(c+4)<=1000000):
 T 58 #[L K.pm] w fun e w'=>∃x:Int,Hid (I64 x/\(zJ K.E M).1=x)/\e=.returned (I x)/\Hid (OpSt w0 K X0 M0 (c+4) w' (zJ K.E M).2):=by
 obtain⟨X,hm,hs⟩:=h.made;refine(pu hm h.cur (by have:=h.gr.sz;omega)).mono ?_;rintro e w' ⟨rfl,X',g,d⟩;exact⟨_,Ja ⟨oD hm,rfl⟩,rfl,Ja ⟨⟨X',g,hs.trans d⟩,h.gr.trans (yU K.E M).p,by rw[(yU K.E M).cur,(yU K.E M).len];exact h.cur⟩⟩
theorem OpSt.addr (i:M0.sz+(c+6)<=1000000):
 T 84 #[L K.pm] w fun e w'=>∃x:Int,Hid (I64 x/\(yJ K.E M).1=x)/\e=.returned (I x)/\Hid (OpSt w0 K X0 M0 (c+6) w' (yJ K.E M).2):=by
 obtain⟨X,hm,hs⟩:=h.made;refine(addr_any hm h.cur (by have:=h.gr.sz;omega)).mono ?_;rintro e w' ⟨rfl,X',g,d⟩;refine⟨_,Ja ⟨?_,rfl⟩,rfl,Ja ⟨⟨X',g,hs.trans d⟩,h.gr.trans (ue K.E M).p,by rw[(ue K.E M).cur,(ue K.E M).len];exact h.cur⟩⟩;unfold yJ
 split
 ·obtain⟨fv,vv,l,hi⟩:=hm;exact oD ((hi.ticked (by have:=h.gr.sz;omega)).1.at)
 ·obtain⟨fv,vv,l,hi⟩:=hm;have hb:=hi.bnd;unfold MS.sz at hb;exact vG _ (by show -1000000<=(M.next:Int);omega) (by show(M.next:Int)<=1000000;omega)
theorem OpSt.next:(M.next:Int)<=1000000:=by
 obtain⟨X,⟨fv,vv,l,hi⟩,hs⟩:=h.made;have hb:=hi.bnd;unfold MS.sz at hb;omega
theorem OpSt.n64:I64 (M.next:Int):=vG _ Zo h.next
theorem OpSt.num (n:Nat)(i:n<65536)(j:M0.sz+(c+3)<=1000000):
 T 73 #[L K.pm,G n] w fun e w'=>e=.returned (I (M.next:Int))/\Hid (OpSt w0 K X0 M0 (c+3) w' (M.num n)):=by
 obtain⟨X,hm,hs⟩:=h.made;refine(ks hm i h.cur (by have:=h.gr.sz;omega)).mono ?_;rintro e w' ⟨rfl,X',g,d⟩;exact⟨rfl,Ja ⟨⟨X',g,hs.trans d⟩,h.gr.trans (wT M n).p,by rw[(wT M n).cur,(wT M n).len];exact h.cur⟩⟩
theorem OpSt.emit (code a b:Int)(n:Nat)(l:I64 code)(k:I64 a)(j:I64 b)(i:n<65536)(m:M0.sz+(c+3)<=1000000):
 T 83 #[L K.pm,.agg #[I code,I 0,I a,I b,G n,F]] w fun e w'=>e=.returned (I (sB M code))/\Hid (OpSt w0 K X0 M0 (c+3) w' (M.emit ⟨code,0,a,b,n,[]⟩)):=by
 obtain⟨X,hm,hs⟩:=h.made;refine(rD (o:=⟨code,0,a,b,n,[]⟩) hm ⟨l,yF _ rfl,k,j,i⟩ yE.nil h.cur (by have:=h.gr.sz;omega)).mono ?_;rintro e w' ⟨rfl,X',g,d⟩;exact⟨rfl,Ja ⟨⟨X',g,hs.trans d⟩,h.gr.trans (yB M _).p,by rw[(yB M _).cur,(yB M _).len];exact h.cur⟩⟩
theorem OpSt.call (d:∀x∈K.E.args,0<=x/\x<4)(j:M0.sz+(c+16)<=1000000):
 T 85 #[L K.pm] w fun e w'=>e=.returned (.tuple #[])/\Hid (OpSt w0 K X0 M0 (c+16) w' (vN K.E M)):=by
 obtain⟨X,hm,hs⟩:=h.made;refine(jN hm h.cur (by have:=h.gr.sz;omega)).mono ?_;rintro e w' ⟨rfl,X',i,g⟩;exact⟨rfl,Ja ⟨⟨X',i,hs.trans g⟩,h.gr.trans (sI K.E d M).p,by rw[(sI K.E d M).cur,(sI K.E d M).len];exact h.cur⟩⟩
theorem OpSt.block (n:Nat)(i:M0.sz+(c+(1+n))<=1000000):
 T 56 #[L K.pm,I n] w fun e w'=>e=.returned (I (M.f.length:Int))/\Hid (OpSt w0 K X0 M0 (c+(1+n)) w' (M.block n)):=by
 obtain⟨X,hm,hs⟩:=h.made;refine(rU hm (n:=n) (by have:=h.gr.sz;omega)).mono ?_;rintro e w' ⟨rfl,X',g,d⟩;exact⟨rfl,Ja ⟨⟨X',g,hs.trans d⟩,h.gr.trans (xM M n),by have:=h.cur;rw[yz];show M.cur<_;omega⟩⟩
theorem OpSt.flen:(M.f.length:Int)<=1000000:=by
 obtain⟨X,⟨fv,vv,l,hi⟩,hs⟩:=h.made;have hb:=hi.bnd;unfold MS.sz at hb;omega
theorem OpSt.endB (k a:Int)(tos:List IEdge)(tv:Value)(hk:I64 k)(j:I64 a)(d:∀X,wW w K X M->Stp X0 w0 X w->vT w (K.av X) tv tos):
 T 59 #[L K.pm,.agg #[I k,I a,tv]] w fun e w'=>e=.returned (.tuple #[])/\Hid (OpSt w0 K X0 M0 c w' (M.endB ⟨k,a,tos⟩)):=by
 obtain⟨X,hm,hs⟩:=h.made;refine(nt (t:=⟨k,a,tos⟩) hm hk j (d X hm hs) h.cur).mono ?_;rintro e w' ⟨rfl,X',i,g⟩;exact⟨rfl,Ja ⟨⟨X',i,hs.trans g⟩,h.gr.trans (yf M _).p,by rw[(yf M _).cur,(yf M _).len];exact h.cur⟩⟩
theorem OpSt.endN(k a:Int)(tos:List IEdge)(tv:Value)(hk:I64 k)(j:I64 a)(hb:O w w2)(d:∀X:Nat->Prop,(∀k,X k->k<w.heap.size)->vT w2 X tv tos):
 T 59 #[L K.pm,.agg #[I k,I a,tv]] w2 fun e w'=>e=.returned (.tuple #[])/\Hid (OpSt w0 K X0 M0 c w' (M.endB ⟨k,a,tos⟩)):=by
 obtain⟨X,⟨fv,vv,l,hm⟩,hs⟩:=h.made;refine(nt (t:=⟨k,a,tos⟩) (hm.keep hb).at hk j (d (K.av X) (fun k e=>e.elim (hm.xl k) (hm.env.zl k))) h.cur).mono ?_;rintro e w' ⟨rfl,X',i,g⟩;exact⟨rfl,Ja ⟨⟨X',i,hs.trans ((Stp.of_below hb).trans g)⟩,h.gr.trans (yf M _).p,by rw[(yf M _).cur,(yf M _).len];exact h.cur⟩⟩
theorem OpSt.below(hb:O w w'):OpSt w0 K X0 M0 c w' M:=by
 obtain⟨X,⟨fv,vv,l,hm⟩,hs⟩:=h.made;exact⟨⟨X,⟨fv,vv,l,hm.keep hb⟩,hs.trans (Stp.of_below hb)⟩,h.gr,h.cur⟩
end
theorem OpSt.start(h:wW w K X M)(c:M.cur<M.f.length):OpSt w K X M 0 w M:=⟨⟨X,h,Stp.refl _ _⟩,GrowP.refl M,c⟩
theorem OpSt.ret{M':MS}{r:Value}(h:OpSt w K X M c w' M'):yk K X w M' r (.returned r) w':=⟨rfl,h.made⟩
theorem wW.alt(h:wW w K X M):∀x∈K.E.args,0<=x/\x<4:=by
 obtain⟨fv,vv,l,hm⟩:=h;exact hm.env.alt
theorem mkOp_0{E:ME}(h:tkV E M 14=0):xK E M=M.tick.tick.num (tkV E M.tick 65536):=by
 unfold xK;simp only[h];rfl
theorem op_0(h:wW w K X M)(c:M.cur<M.f.length)(k:M.sz+20<=1000000)(hk:tkV K.E M 14=0):
 T 70 #[L K.pm] w (yk K X w (xK K.E M) (.tuple #[])):=by
 have o:=Ja h.alt;have j:=Ja (OpSt.start h c);have d:=Ja (Jb k hk);clear h c k hk;go_enter Try.func70,Try.ntmps70
 go_wp2_with (first
  |(go_at_call 55;refine(j.out.takeK 14 0 0 rfl d.out.2 Zd Zd (by have:=d.out.1;omega)).mono ?_;clear j;rintro e w1 ⟨rfl,i⟩)
  |(go_at_call 55;refine(i.out.take 65536 Zd Zd (by have:=d.out.1;omega)).mono ?_;clear i;rintro e w2 ⟨z,qz,m,rfl,g⟩)
  |(go_at_call 73;refine(g.out.num z Zo (by have:=d.out.1;omega)).mono ?_;clear g;rintro e w3 ⟨rfl,l⟩))
 first|go_end0|refine bodyPost_ret (results_none rfl _ _ _) rfl ?_
 rw[mkOp_0 d.out.2]
 try rw[m.out]
 exact l.out.ret
theorem mkOp_1{E:ME}(h:tkV E M 14=1):xK E M=(zJ E M.tick.tick).2.emit ⟨3+tkV E M.tick 2,0,(zJ E M.tick.tick).1,0,0,[]⟩:=by
 unfold xK;simp only[h];rfl
theorem op_1(h:wW w K X M)(d:M.cur<M.f.length)(l:M.sz+20<=1000000)(hk:tkV K.E M 14=1):
 T 70 #[L K.pm] w (yk K X w (xK K.E M) (.tuple #[])):=by
 have t:=Ja h.alt;have k:=Ja (OpSt.start h d);have c:=Ja (Jb l hk);clear h d l hk;go_enter Try.func70,Try.ntmps70
 go_wp2_with (first
  |(go_at_call 55;refine(k.out.takeK 14 1 1 rfl c.out.2 Zd Zd (by have:=c.out.1;omega)).mono ?_;clear k;rintro e w1 ⟨rfl,j⟩)
  |(go_at_call 55;refine(j.out.take 2 Zd Zd (by have:=c.out.1;omega)).mono ?_;clear j;rintro e w2 ⟨z,qz,q,rfl,i⟩)
  |(go_at_call 58;refine(i.out.any (by have:=c.out.1;omega)).mono ?_;clear i;rintro e w3 ⟨x,o,rfl,g⟩)
  |(go_at_call 83;refine(g.out.emit (3+(z:Int)) x 0 0 (vG _ Zo Zo) (o.out.1) (yF _ rfl) Zd (by have:=c.out.1;omega)).mono ?_;clear g;rintro e w4 ⟨rfl,m⟩))
 first|go_end0|refine bodyPost_ret (results_none rfl _ _ _) rfl ?_
 rw[mkOp_1 c.out.2]
 try rw[q.out]
 try rw[o.out.2]
 exact m.out.ret
theorem mkOp_2{E:ME}(h:tkV E M 14=2):xK E M=(yJ E M.tick).2.tick.emit ⟨18+tkV E (yJ E M.tick).2 2,0,(yJ E M.tick).1,0,0,[]⟩:=by
 unfold xK;simp only[h];rfl
theorem op_2(h:wW w K X M)(d:M.cur<M.f.length)(l:M.sz+20<=1000000)(hk:tkV K.E M 14=2):
 T 70 #[L K.pm] w (yk K X w (xK K.E M) (.tuple #[])):=by
 have t:=Ja h.alt;have k:=Ja (OpSt.start h d);have c:=Ja (Jb l hk);clear h d l hk;go_enter Try.func70,Try.ntmps70
 go_wp2_with (first
  |(go_at_call 55;refine(k.out.takeK 14 2 2 rfl c.out.2 Zd Zd (by have:=c.out.1;omega)).mono ?_;clear k;rintro e w1 ⟨rfl,j⟩)
  |(go_at_call 84;refine(j.out.addr (by have:=c.out.1;omega)).mono ?_;clear j;rintro e w2 ⟨x,o,rfl,i⟩)
  |(go_at_call 55;refine(i.out.take 2 Zd Zd (by have:=c.out.1;omega)).mono ?_;clear i;rintro e w3 ⟨z,qz,q,rfl,g⟩)
  |(go_at_call 83;refine(g.out.emit (18+(z:Int)) x 0 0 (vG _ Zo Zo) (o.out.1) (yF _ rfl) Zd (by have:=c.out.1;omega)).mono ?_;clear g;rintro e w4 ⟨rfl,m⟩))
 first|go_end0|refine bodyPost_ret (results_none rfl _ _ _) rfl ?_
 rw[mkOp_2 c.out.2]
 try rw[o.out.2]
 try rw[q.out]
 exact m.out.ret
theorem mkOp_3{E:ME}(h:tkV E M 14=3):xK E M=(yJ E M.tick).2.tick.emit ⟨18+tkV E (yJ E M.tick).2 2,0,(yJ E M.tick).1,0,0,[]⟩:=by
 unfold xK;simp only[h];rfl
theorem op_3(h:wW w K X M)(d:M.cur<M.f.length)(l:M.sz+20<=1000000)(hk:tkV K.E M 14=3):
 T 70 #[L K.pm] w (yk K X w (xK K.E M) (.tuple #[])):=by
 have t:=Ja h.alt;have k:=Ja (OpSt.start h d);have c:=Ja (Jb l hk);clear h d l hk;go_enter Try.func70,Try.ntmps70
 go_wp2_with (first
  |(go_at_call 55;refine(k.out.takeK 14 3 3 rfl c.out.2 Zd Zd (by have:=c.out.1;omega)).mono ?_;clear k;rintro e w1 ⟨rfl,j⟩)
  |(go_at_call 84;refine(j.out.addr (by have:=c.out.1;omega)).mono ?_;clear j;rintro e w2 ⟨x,o,rfl,i⟩)
  |(go_at_call 55;refine(i.out.take 2 Zd Zd (by have:=c.out.1;omega)).mono ?_;clear i;rintro e w3 ⟨z,qz,q,rfl,g⟩)
  |(go_at_call 83;refine(g.out.emit (18+(z:Int)) x 0 0 (vG _ Zo Zo) (o.out.1) (yF _ rfl) Zd (by have:=c.out.1;omega)).mono ?_;clear g;rintro e w4 ⟨rfl,m⟩))
 first|go_end0|refine bodyPost_ret (results_none rfl _ _ _) rfl ?_
 rw[mkOp_3 c.out.2]
 try rw[o.out.2]
 try rw[q.out]
 exact m.out.ret
theorem mkOp_4{E:ME}(h:tkV E M 14=4):xK E M=(zJ E (yJ E M.tick).2).2.tick.emit ⟨20+tkV E (zJ E (yJ E M.tick).2).2 2,0,(yJ E M.tick).1,(zJ E (yJ E M.tick).2).1,0,[]⟩:=by
 unfold xK;simp only[h];rfl
theorem op_4(h:wW w K X M)(d:M.cur<M.f.length)(m:M.sz+20<=1000000)(hk:tkV K.E M 14=4):
 T 70 #[L K.pm] w (yk K X w (xK K.E M) (.tuple #[])):=by
 have HE:=Ja h.alt;have l:=Ja (OpSt.start h d);have c:=Ja (Jb m hk);clear h d m hk;go_enter Try.func70,Try.ntmps70
 go_wp2_with (first
  |(go_at_call 55;refine(l.out.takeK 14 4 4 rfl c.out.2 Zd Zd (by have:=c.out.1;omega)).mono ?_;clear l;rintro e w1 ⟨rfl,k⟩)
  |(go_at_call 84;refine(k.out.addr (by have:=c.out.1;omega)).mono ?_;clear k;rintro e w2 ⟨x,t,rfl,j⟩)
  |(go_at_call 58;refine(j.out.any (by have:=c.out.1;omega)).mono ?_;clear j;rintro e w3 ⟨y,q,rfl,i⟩)
  |(go_at_call 55;refine(i.out.take 2 Zd Zd (by have:=c.out.1;omega)).mono ?_;clear i;rintro e w4 ⟨z,qz,u,rfl,g⟩)
  |(go_at_call 83;refine(g.out.emit (20+(z:Int)) x y 0 (vG _ Zo Zo) (t.out.1) (q.out.1) Zd (by have:=c.out.1;omega)).mono ?_;clear g;rintro e w5 ⟨rfl,o⟩))
 first|go_end0|refine bodyPost_ret (results_none rfl _ _ _) rfl ?_
 rw[mkOp_4 c.out.2]
 try rw[t.out.2]
 try rw[q.out.2]
 try rw[u.out]
 exact o.out.ret
theorem mkOp_5{E:ME}(h:tkV E M 14=5):xK E M=(zJ E (yJ E M.tick).2).2.tick.emit ⟨20+tkV E (zJ E (yJ E M.tick).2).2 2,0,(yJ E M.tick).1,(zJ E (yJ E M.tick).2).1,0,[]⟩:=by
 unfold xK;simp only[h];rfl
theorem op_5(h:wW w K X M)(d:M.cur<M.f.length)(m:M.sz+20<=1000000)(hk:tkV K.E M 14=5):
 T 70 #[L K.pm] w (yk K X w (xK K.E M) (.tuple #[])):=by
 have HE:=Ja h.alt;have l:=Ja (OpSt.start h d);have c:=Ja (Jb m hk);clear h d m hk;go_enter Try.func70,Try.ntmps70
 go_wp2_with (first
  |(go_at_call 55;refine(l.out.takeK 14 5 5 rfl c.out.2 Zd Zd (by have:=c.out.1;omega)).mono ?_;clear l;rintro e w1 ⟨rfl,k⟩)
  |(go_at_call 84;refine(k.out.addr (by have:=c.out.1;omega)).mono ?_;clear k;rintro e w2 ⟨x,t,rfl,j⟩)
  |(go_at_call 58;refine(j.out.any (by have:=c.out.1;omega)).mono ?_;clear j;rintro e w3 ⟨y,q,rfl,i⟩)
  |(go_at_call 55;refine(i.out.take 2 Zd Zd (by have:=c.out.1;omega)).mono ?_;clear i;rintro e w4 ⟨z,qz,u,rfl,g⟩)
  |(go_at_call 83;refine(g.out.emit (20+(z:Int)) x y 0 (vG _ Zo Zo) (t.out.1) (q.out.1) Zd (by have:=c.out.1;omega)).mono ?_;clear g;rintro e w5 ⟨rfl,o⟩))
 first|go_end0|refine bodyPost_ret (results_none rfl _ _ _) rfl ?_
 rw[mkOp_5 c.out.2]
 try rw[t.out.2]
 try rw[q.out.2]
 try rw[u.out]
 exact o.out.ret
theorem mkOp_6{E:ME}(h:tkV E M 14=6):xK E M=M.tick.tick.emit ⟨24,0,0,0,1+tkV E M.tick 3,[]⟩:=by
 unfold xK;simp only[h];rfl
theorem op_6(h:wW w K X M)(c:M.cur<M.f.length)(k:M.sz+20<=1000000)(hk:tkV K.E M 14=6):
 T 70 #[L K.pm] w (yk K X w (xK K.E M) (.tuple #[])):=by
 have o:=Ja h.alt;have j:=Ja (OpSt.start h c);have d:=Ja (Jb k hk);clear h c k hk;go_enter Try.func70,Try.ntmps70
 go_wp2_with (first
  |(go_at_call 55;refine(j.out.takeK 14 6 6 rfl d.out.2 Zd Zd (by have:=d.out.1;omega)).mono ?_;clear j;rintro e w1 ⟨rfl,i⟩)
  |(go_at_call 55;refine(i.out.take 3 Zd Zd (by have:=d.out.1;omega)).mono ?_;clear i;rintro e w2 ⟨z,qz,m,rfl,g⟩)
  |(go_at_call 83;refine(g.out.emit 24 0 0 (1+z) (yF _ rfl) (yF _ rfl) (yF _ rfl) Zo (by have:=d.out.1;omega)).mono ?_;clear g;rintro e w3 ⟨rfl,l⟩))
 first|go_end0|refine bodyPost_ret (results_none rfl _ _ _) rfl ?_
 rw[mkOp_6 d.out.2]
 try rw[m.out]
 exact l.out.ret
theorem mkOp_7{E:ME}(h:tkV E M 14=7):xK E M=(zJ E M.tick).2.tick.emit ⟨25,0,(zJ E M.tick).1,0,1+tkV E (zJ E M.tick).2 3,[]⟩:=by
 unfold xK;simp only[h];rfl
theorem op_7(h:wW w K X M)(d:M.cur<M.f.length)(l:M.sz+20<=1000000)(hk:tkV K.E M 14=7):
 T 70 #[L K.pm] w (yk K X w (xK K.E M) (.tuple #[])):=by
 have t:=Ja h.alt;have k:=Ja (OpSt.start h d);have c:=Ja (Jb l hk);clear h d l hk;go_enter Try.func70,Try.ntmps70
 go_wp2_with (first
  |(go_at_call 55;refine(k.out.takeK 14 7 7 rfl c.out.2 Zd Zd (by have:=c.out.1;omega)).mono ?_;clear k;rintro e w1 ⟨rfl,j⟩)
  |(go_at_call 58;refine(j.out.any (by have:=c.out.1;omega)).mono ?_;clear j;rintro e w2 ⟨x,o,rfl,i⟩)
  |(go_at_call 55;refine(i.out.take 3 Zd Zd (by have:=c.out.1;omega)).mono ?_;clear i;rintro e w3 ⟨z,qz,q,rfl,g⟩)
  |(go_at_call 83;refine(g.out.emit 25 x 0 (1+z) (yF _ rfl) (o.out.1) (yF _ rfl) Zo (by have:=c.out.1;omega)).mono ?_;clear g;rintro e w4 ⟨rfl,m⟩))
 first|go_end0|refine bodyPost_ret (results_none rfl _ _ _) rfl ?_
 rw[mkOp_7 c.out.2]
 try rw[o.out.2]
 try rw[q.out]
 exact m.out.ret
theorem mkOp_8{E:ME}(h:tkV E M 14=8):xK E M=(M.tick.tick.num (tkV E M.tick 4096)).tick.emit ⟨22+tkV E (M.tick.tick.num (tkV E M.tick 4096)) 2,0,(M.tick.next:Nat),0,0,[]⟩:=by
 unfold xK;simp only[h];rfl
theorem op_8(h:wW w K X M)(g:M.cur<M.f.length)(m:M.sz+20<=1000000)(hk:tkV K.E M 14=8):
 T 70 #[L K.pm] w (yk K X w (xK K.E M) (.tuple #[])):=by
 have u:=Ja h.alt;have l:=Ja (OpSt.start h g);have c:=Ja (Jb m hk);clear h g m hk;go_enter Try.func70,Try.ntmps70
 go_wp2_with (first
  |(go_at_call 55;refine(l.out.takeK 14 8 8 rfl c.out.2 Zd Zd (by have:=c.out.1;omega)).mono ?_;clear l;rintro e w1 ⟨rfl,k⟩)
  |(go_at_call 55;refine(k.out.take 4096 Zd Zd (by have:=c.out.1;omega)).mono ?_;clear k;rintro e w2 ⟨y,qy,t,rfl,d⟩)
  |(go_at_call 73;refine(d.out.num y Zo (by have:=c.out.1;omega)).mono ?_;have N1:=Ja d.out.n64;clear d;rintro e w3 ⟨rfl,j⟩)
  |(go_at_call 55;refine(j.out.take 2 Zd Zd (by have:=c.out.1;omega)).mono ?_;clear j;rintro e w4 ⟨z,qz,q,rfl,i⟩)
  |(go_at_call 83;refine(i.out.emit (22+(z:Int)) (M.next:Int) 0 0 (vG _ Zo Zo) N1.out (yF _ rfl) Zd (by have:=c.out.1;omega)).mono ?_;clear i;rintro e w5 ⟨rfl,o⟩))
 first|go_end0|refine bodyPost_ret (results_none rfl _ _ _) rfl ?_
 rw[mkOp_8 c.out.2]
 try rw[t.out]
 try rw[q.out]
 exact o.out.ret
theorem mkOp_9{E:ME}(h:tkV E M 14=9):xK E M=vN E M.tick:=by
 unfold xK;simp only[h];rfl
theorem op_9(h:wW w K X M)(c:M.cur<M.f.length)(j:M.sz+20<=1000000)(hk:tkV K.E M 14=9):
 T 70 #[L K.pm] w (yk K X w (xK K.E M) (.tuple #[])):=by
 have l:=Ja h.alt;have i:=Ja (OpSt.start h c);have d:=Ja (Jb j hk);clear h c j hk;go_enter Try.func70,Try.ntmps70
 go_wp2_with (first
  |(go_at_call 55;refine(i.out.takeK 14 9 9 rfl d.out.2 Zd Zd (by have:=d.out.1;omega)).mono ?_;clear i;rintro e w1 ⟨rfl,g⟩)
  |(go_at_call 85;refine(g.out.call l.out (by have:=d.out.1;omega)).mono ?_;clear g;rintro e w2 ⟨rfl,k⟩))
 first|go_end0|refine bodyPost_ret (results_none rfl _ _ _) rfl ?_
 rw[mkOp_9 d.out.2];exact k.out.ret
theorem mkOp_10a{E:ME}(h:tkV E M 14=10)(c:tkV E M.tick 3=0):xK E M=M.tick.tick.emit ⟨27,0,0,0,0,[]⟩:=by
 unfold xK;simp only[h,c];rfl
theorem op_10a(h:wW w K X M)(c:M.cur<M.f.length)(l:M.sz+20<=1000000)(hk:tkV K.E M 14=10)(m:tkV K.E M.tick 3=0):
 T 70 #[L K.pm] w (yk K X w (xK K.E M) (.tuple #[])):=by
 have q:=Ja h.alt;have k:=Ja (OpSt.start h c);have d:=Ja (Jb l hk);have j:=Ja m;clear h c l hk m;go_enter Try.func70,Try.ntmps70
 go_wp2_with (first
  |(go_at_call 55;refine(k.out.takeK 14 10 10 rfl d.out.2 Zd Zd (by have:=d.out.1;omega)).mono ?_;clear k;rintro e w1 ⟨rfl,i⟩)
  |(go_at_call 55;refine(i.out.takeK 3 0 0 rfl j.out Zd Zd (by have:=d.out.1;omega)).mono ?_;clear i;rintro e w2 ⟨rfl,g⟩)
  |(go_at_call 83;refine(g.out.emit 27 0 0 0 (yF _ rfl) (yF _ rfl) (yF _ rfl) Zd (by have:=d.out.1;omega)).mono ?_;clear g;rintro e w3 ⟨rfl,o⟩))
 first|go_end0|refine bodyPost_ret (results_none rfl _ _ _) rfl ?_
 rw[mkOp_10a d.out.2 j.out];exact o.out.ret
theorem mkOp_10b{E:ME}(h:tkV E M 14=10)(c:¬tkV E M.tick 3=0):xK E M=M.tick.tick:=by
 unfold xK;simp only[h,c];rfl
theorem op_10b(h:wW w K X M)(c:M.cur<M.f.length)(k:M.sz+20<=1000000)(hk:tkV K.E M 14=10)(l:¬tkV K.E M.tick 3=0):
 T 70 #[L K.pm] w (yk K X w (xK K.E M) (.tuple #[])):=by
 have q:=Ja h.alt;have j:=Ja (OpSt.start h c);have d:=Ja (Jb k hk);have i:=Ja l;clear h c k hk l;go_enter Try.func70,Try.ntmps70
 go_wp2_with (first
  |(go_at_call 55;refine(j.out.takeK 14 10 10 rfl d.out.2 Zd Zd (by have:=d.out.1;omega)).mono ?_;clear j;rintro e w1 ⟨rfl,g⟩)
  |(go_at_call 55;refine(g.out.take 3 Zd Zd (by have:=d.out.1;omega)).mono ?_;clear g;rintro e w2 ⟨z,qz,o,rfl,m⟩;have tz:((z:Int)==0)=false:=by rw[beq_eq_false_iff_ne];have:=o.out;have:=i.out;omega))
 first|go_end0|refine bodyPost_ret (results_none rfl _ _ _) rfl ?_
 rw[mkOp_10b d.out.2 i.out]
 try rw[o.out]
 exact m.out.ret
theorem mkOp_11a{E:ME}(h:tkV E M 14=11)(c:¬tkV E (zJ E (zJ E M.tick).2).2 13=3):xK E M=(zJ E (zJ E M.tick).2).2.tick.emit ⟨((5+tkV E (zJ E (zJ E M.tick).2).2 13:Nat):Int),0,(zJ E M.tick).1,(zJ E (zJ E M.tick).2).1,0,[]⟩:=by
 unfold xK;simp only[h]
 show yR E M.tick=_
 unfold yR;simp only;rw[if_neg Zo]
theorem op_11a(h:wW w K X M)(d:M.cur<M.f.length)(o:M.sz+20<=1000000)(hk:tkV K.E M 14=11)(q:¬tkV K.E (zJ K.E (zJ K.E M.tick).2).2 13=3):
 T 70 #[L K.pm] w (yk K X w (xK K.E M) (.tuple #[])):=by
 have HE:=Ja h.alt;have m:=Ja (OpSt.start h d);have c:=Ja (Jb o hk);have l:=Ja q;clear h d o hk q;go_enter Try.func70,Try.ntmps70
 go_wp2_with (first
  |(go_at_call 55;refine(m.out.takeK 14 11 11 rfl c.out.2 Zd Zd (by have:=c.out.1;omega)).mono ?_;clear m;rintro e w1 ⟨rfl,k⟩)
  |(go_at_call 58;refine(k.out.any (by have:=c.out.1;omega)).mono ?_;clear k;rintro e w2 ⟨x,Hx,rfl,j⟩)
  |(go_at_call 58;refine(j.out.any (by have:=c.out.1;omega)).mono ?_;clear j;rintro e w3 ⟨y,Hy,rfl,i⟩)
  |(go_at_call 55;refine(i.out.take 13 Zd Zd (by have:=c.out.1;omega)).mono ?_;clear i;rintro e w4 ⟨z,qz,u,rfl,g⟩;have tz:((5+(z:Int))==8)=false:=by rw[beq_eq_false_iff_ne];have:=u.out;have:=l.out;omega)
  |(go_at_call 83;refine(g.out.emit (5+(z:Int)) x y 0 (vG _ Zo Zo) (Hx.out.1) (Hy.out.1) Zd (by have:=c.out.1;omega)).mono ?_;clear g;rintro e w5 ⟨rfl,t⟩))
 first|go_end0|refine bodyPost_ret (results_none rfl _ _ _) rfl ?_
 rw[mkOp_11a c.out.2 l.out]
 try rw[Hx.out.2]
 try rw[Hy.out.2]
 try rw[u.out]
 exact t.out.ret
theorem mkOp_11b{E:ME}(h:tkV E M 14=11)(c:tkV E (zJ E (zJ E M.tick).2).2 13=3)(hp:tkV E (zJ E (zJ E M.tick).2).2.tick 8=0):xK E M=(zJ E (zJ E M.tick).2).2.tick.tick.emit ⟨8,0,(zJ E M.tick).1,(zJ E (zJ E M.tick).2).1,0,[]⟩:=by
 unfold xK;simp only[h]
 show yR E M.tick=_
 unfold yR;simp only;rw[if_pos Zo,if_neg Zo]
theorem op_11b(h:wW w K X M)(d:M.cur<M.f.length)(t:M.sz+20<=1000000)(hk:tkV K.E M 14=11)(u:tkV K.E (zJ K.E (zJ K.E M.tick).2).2 13=3)(hp:tkV K.E (zJ K.E (zJ K.E M.tick).2).2.tick 8=0):
 T 70 #[L K.pm] w (yk K X w (xK K.E M) (.tuple #[])):=by
 have HE:=Ja h.alt;have q:=Ja (OpSt.start h d);have c:=Ja (Jb t hk);have m:=Ja u;have o:=Ja hp;clear h d t hk u hp;go_enter Try.func70,Try.ntmps70
 go_wp2_with (first
  |(go_at_call 55;refine(q.out.takeK 14 11 11 rfl c.out.2 Zd Zd (by have:=c.out.1;omega)).mono ?_;clear q;rintro e w1 ⟨rfl,l⟩)
  |(go_at_call 58;refine(l.out.any (by have:=c.out.1;omega)).mono ?_;clear l;rintro e w2 ⟨x,Hx,rfl,k⟩)
  |(go_at_call 58;refine(k.out.any (by have:=c.out.1;omega)).mono ?_;clear k;rintro e w3 ⟨y,Hy,rfl,j⟩)
  |(go_at_call 55;refine(j.out.takeK 13 3 3 rfl m.out Zd Zd (by have:=c.out.1;omega)).mono ?_;clear j;rintro e w4 ⟨rfl,i⟩)
  |(go_at_call 55;refine(i.out.takeK 8 0 0 rfl o.out Zd Zd (by have:=c.out.1;omega)).mono ?_;clear i;rintro e w5 ⟨rfl,g⟩)
  |(go_at_call 83;refine(g.out.emit 8 x y 0 (yF _ rfl) (Hx.out.1) (Hy.out.1) Zd (by have:=c.out.1;omega)).mono ?_;clear g;rintro e w6 ⟨rfl,a0⟩))
 first|go_end0|refine bodyPost_ret (results_none rfl _ _ _) rfl ?_
 rw[mkOp_11b c.out.2 m.out o.out]
 try rw[Hx.out.2]
 try rw[Hy.out.2]
 exact a0.out.ret
theorem mkOp_11c{E:ME}(h:tkV E M 14=11)(c:tkV E (zJ E (zJ E M.tick).2).2 13=3)(hp:0<tkV E (zJ E (zJ E M.tick).2).2.tick 8):xK E M=((((zJ E (zJ E M.tick).2).2.tick.tick.num 1).emit ⟨10,0,(zJ E (zJ E M.tick).2).1,((zJ E (zJ E M.tick).2).2.next:Nat),0,[]⟩).emit ⟨8,0,(zJ E M.tick).1,(((zJ E (zJ E M.tick).2).2.next+1:Nat):Int),0,[]⟩):=by
 unfold xK;simp only[h]
 show yR E M.tick=_
 unfold yR;simp only;rw[if_pos Zo,if_pos Zo];rfl
theorem op_11c(h:wW w K X M)(i:M.cur<M.f.length)(hz:M.sz+20<=1000000)(hk:tkV K.E M 14=11)(hq:tkV K.E (zJ K.E (zJ K.E M.tick).2).2 13=3)(hp:0<tkV K.E (zJ K.E (zJ K.E M.tick).2).2.tick 8):
 T 70 #[L K.pm] w (yk K X w (xK K.E M) (.tuple #[])):=by
 have HE:=Ja h.alt;have u:=Ja (OpSt.start h i);have c:=Ja (Jb hz hk);have q:=Ja hq;have t:=Ja hp;clear h i hz hk hq hp;go_enter Try.func70,Try.ntmps70
 go_wp2_with (first
  |(go_at_call 55;refine(u.out.takeK 14 11 11 rfl c.out.2 Zd Zd (by have:=c.out.1;omega)).mono ?_;clear u;rintro e w1 ⟨rfl,o⟩)
  |(go_at_call 58;refine(o.out.any (by have:=c.out.1;omega)).mono ?_;clear o;rintro e w2 ⟨x,Hx,rfl,m⟩)
  |(go_at_call 58;refine(m.out.any (by have:=c.out.1;omega)).mono ?_;clear m;rintro e w3 ⟨y,Hy,rfl,l⟩)
  |(go_at_call 55;refine(l.out.takeK 13 3 3 rfl q.out Zd Zd (by have:=c.out.1;omega)).mono ?_;clear l;rintro e w4 ⟨rfl,k⟩)
  |(go_at_call 55;refine(k.out.take 8 Zd Zd (by have:=c.out.1;omega)).mono ?_;clear k;rintro e w5 ⟨z,qz,Hz,rfl,g⟩;have tz:(0:Int)<(z:Int):=by have:=Hz.out;have:=t.out;omega)
  |(go_at_call 73;refine(g.out.num 1 Zo (by have:=c.out.1;omega)).mono ?_;have N1:=Ja g.out.n64;clear g;rintro e w6 ⟨rfl,d⟩)
  |(go_at_call 83;refine(d.out.emit 10 y _ 0 (yF _ rfl) (Hy.out.1) N1.out Zd (by have:=c.out.1;omega)).mono ?_;have N2:=Ja d.out.n64;clear d;rintro e w7 ⟨rfl,j⟩)
  |(go_at_call 83;refine(j.out.emit 8 x _ 0 (yF _ rfl) (Hx.out.1) N2.out Zd (by have:=c.out.1;omega)).mono ?_;clear j;rintro e w8 ⟨rfl,a0⟩))
 first|go_end0|refine bodyPost_ret (results_none rfl _ _ _) rfl ?_
 rw[mkOp_11c c.out.2 q.out t.out]
 try rw[Hx.out.2]
 try rw[Hy.out.2]
 try rw[Hz.out]
 exact a0.out.ret
theorem mkOp_12a{E:ME}(h:tkV E M 14=12)(c:¬tkV E (zJ E (zJ E M.tick).2).2 13=3):xK E M=(zJ E (zJ E M.tick).2).2.tick.emit ⟨((5+tkV E (zJ E (zJ E M.tick).2).2 13:Nat):Int),0,(zJ E M.tick).1,(zJ E (zJ E M.tick).2).1,0,[]⟩:=by
 unfold xK;simp only[h]
 show yR E M.tick=_
 unfold yR;simp only;rw[if_neg Zo]
theorem op_12a(h:wW w K X M)(d:M.cur<M.f.length)(o:M.sz+20<=1000000)(hk:tkV K.E M 14=12)(q:¬tkV K.E (zJ K.E (zJ K.E M.tick).2).2 13=3):
 T 70 #[L K.pm] w (yk K X w (xK K.E M) (.tuple #[])):=by
 have HE:=Ja h.alt;have m:=Ja (OpSt.start h d);have c:=Ja (Jb o hk);have l:=Ja q;clear h d o hk q;go_enter Try.func70,Try.ntmps70
 go_wp2_with (first
  |(go_at_call 55;refine(m.out.takeK 14 12 12 rfl c.out.2 Zd Zd (by have:=c.out.1;omega)).mono ?_;clear m;rintro e w1 ⟨rfl,k⟩)
  |(go_at_call 58;refine(k.out.any (by have:=c.out.1;omega)).mono ?_;clear k;rintro e w2 ⟨x,Hx,rfl,j⟩)
  |(go_at_call 58;refine(j.out.any (by have:=c.out.1;omega)).mono ?_;clear j;rintro e w3 ⟨y,Hy,rfl,i⟩)
  |(go_at_call 55;refine(i.out.take 13 Zd Zd (by have:=c.out.1;omega)).mono ?_;clear i;rintro e w4 ⟨z,qz,u,rfl,g⟩;have tz:((5+(z:Int))==8)=false:=by rw[beq_eq_false_iff_ne];have:=u.out;have:=l.out;omega)
  |(go_at_call 83;refine(g.out.emit (5+(z:Int)) x y 0 (vG _ Zo Zo) (Hx.out.1) (Hy.out.1) Zd (by have:=c.out.1;omega)).mono ?_;clear g;rintro e w5 ⟨rfl,t⟩))
 first|go_end0|refine bodyPost_ret (results_none rfl _ _ _) rfl ?_
 rw[mkOp_12a c.out.2 l.out]
 try rw[Hx.out.2]
 try rw[Hy.out.2]
 try rw[u.out]
 exact t.out.ret
theorem mkOp_12b{E:ME}(h:tkV E M 14=12)(c:tkV E (zJ E (zJ E M.tick).2).2 13=3)(hp:tkV E (zJ E (zJ E M.tick).2).2.tick 8=0):xK E M=(zJ E (zJ E M.tick).2).2.tick.tick.emit ⟨8,0,(zJ E M.tick).1,(zJ E (zJ E M.tick).2).1,0,[]⟩:=by
 unfold xK;simp only[h]
 show yR E M.tick=_
 unfold yR;simp only;rw[if_pos Zo,if_neg Zo]
theorem op_12b(h:wW w K X M)(d:M.cur<M.f.length)(t:M.sz+20<=1000000)(hk:tkV K.E M 14=12)(u:tkV K.E (zJ K.E (zJ K.E M.tick).2).2 13=3)(hp:tkV K.E (zJ K.E (zJ K.E M.tick).2).2.tick 8=0):
 T 70 #[L K.pm] w (yk K X w (xK K.E M) (.tuple #[])):=by
 have HE:=Ja h.alt;have q:=Ja (OpSt.start h d);have c:=Ja (Jb t hk);have m:=Ja u;have o:=Ja hp;clear h d t hk u hp;go_enter Try.func70,Try.ntmps70
 go_wp2_with (first
  |(go_at_call 55;refine(q.out.takeK 14 12 12 rfl c.out.2 Zd Zd (by have:=c.out.1;omega)).mono ?_;clear q;rintro e w1 ⟨rfl,l⟩)
  |(go_at_call 58;refine(l.out.any (by have:=c.out.1;omega)).mono ?_;clear l;rintro e w2 ⟨x,Hx,rfl,k⟩)
  |(go_at_call 58;refine(k.out.any (by have:=c.out.1;omega)).mono ?_;clear k;rintro e w3 ⟨y,Hy,rfl,j⟩)
  |(go_at_call 55;refine(j.out.takeK 13 3 3 rfl m.out Zd Zd (by have:=c.out.1;omega)).mono ?_;clear j;rintro e w4 ⟨rfl,i⟩)
  |(go_at_call 55;refine(i.out.takeK 8 0 0 rfl o.out Zd Zd (by have:=c.out.1;omega)).mono ?_;clear i;rintro e w5 ⟨rfl,g⟩)
  |(go_at_call 83;refine(g.out.emit 8 x y 0 (yF _ rfl) (Hx.out.1) (Hy.out.1) Zd (by have:=c.out.1;omega)).mono ?_;clear g;rintro e w6 ⟨rfl,a0⟩))
 first|go_end0|refine bodyPost_ret (results_none rfl _ _ _) rfl ?_
 rw[mkOp_12b c.out.2 m.out o.out]
 try rw[Hx.out.2]
 try rw[Hy.out.2]
 exact a0.out.ret
theorem mkOp_12c{E:ME}(h:tkV E M 14=12)(c:tkV E (zJ E (zJ E M.tick).2).2 13=3)(hp:0<tkV E (zJ E (zJ E M.tick).2).2.tick 8):xK E M=((((zJ E (zJ E M.tick).2).2.tick.tick.num 1).emit ⟨10,0,(zJ E (zJ E M.tick).2).1,((zJ E (zJ E M.tick).2).2.next:Nat),0,[]⟩).emit ⟨8,0,(zJ E M.tick).1,(((zJ E (zJ E M.tick).2).2.next+1:Nat):Int),0,[]⟩):=by
 unfold xK;simp only[h]
 show yR E M.tick=_
 unfold yR;simp only;rw[if_pos Zo,if_pos Zo];rfl
theorem op_12c(h:wW w K X M)(i:M.cur<M.f.length)(hz:M.sz+20<=1000000)(hk:tkV K.E M 14=12)(hq:tkV K.E (zJ K.E (zJ K.E M.tick).2).2 13=3)(hp:0<tkV K.E (zJ K.E (zJ K.E M.tick).2).2.tick 8):
 T 70 #[L K.pm] w (yk K X w (xK K.E M) (.tuple #[])):=by
 have HE:=Ja h.alt;have u:=Ja (OpSt.start h i);have c:=Ja (Jb hz hk);have q:=Ja hq;have t:=Ja hp;clear h i hz hk hq hp;go_enter Try.func70,Try.ntmps70
 go_wp2_with (first
  |(go_at_call 55;refine(u.out.takeK 14 12 12 rfl c.out.2 Zd Zd (by have:=c.out.1;omega)).mono ?_;clear u;rintro e w1 ⟨rfl,o⟩)
  |(go_at_call 58;refine(o.out.any (by have:=c.out.1;omega)).mono ?_;clear o;rintro e w2 ⟨x,Hx,rfl,m⟩)
  |(go_at_call 58;refine(m.out.any (by have:=c.out.1;omega)).mono ?_;clear m;rintro e w3 ⟨y,Hy,rfl,l⟩)
  |(go_at_call 55;refine(l.out.takeK 13 3 3 rfl q.out Zd Zd (by have:=c.out.1;omega)).mono ?_;clear l;rintro e w4 ⟨rfl,k⟩)
  |(go_at_call 55;refine(k.out.take 8 Zd Zd (by have:=c.out.1;omega)).mono ?_;clear k;rintro e w5 ⟨z,qz,Hz,rfl,g⟩;have tz:(0:Int)<(z:Int):=by have:=Hz.out;have:=t.out;omega)
  |(go_at_call 73;refine(g.out.num 1 Zo (by have:=c.out.1;omega)).mono ?_;have N1:=Ja g.out.n64;clear g;rintro e w6 ⟨rfl,d⟩)
  |(go_at_call 83;refine(d.out.emit 10 y _ 0 (yF _ rfl) (Hy.out.1) N1.out Zd (by have:=c.out.1;omega)).mono ?_;have N2:=Ja d.out.n64;clear d;rintro e w7 ⟨rfl,j⟩)
  |(go_at_call 83;refine(j.out.emit 8 x _ 0 (yF _ rfl) (Hx.out.1) N2.out Zd (by have:=c.out.1;omega)).mono ?_;clear j;rintro e w8 ⟨rfl,a0⟩))
 first|go_end0|refine bodyPost_ret (results_none rfl _ _ _) rfl ?_
 rw[mkOp_12c c.out.2 q.out t.out]
 try rw[Hx.out.2]
 try rw[Hy.out.2]
 try rw[Hz.out]
 exact a0.out.ret
theorem mkOp_13a{E:ME}(h:tkV E M 14=13)(c:¬tkV E (zJ E (zJ E M.tick).2).2 13=3):xK E M=(zJ E (zJ E M.tick).2).2.tick.emit ⟨((5+tkV E (zJ E (zJ E M.tick).2).2 13:Nat):Int),0,(zJ E M.tick).1,(zJ E (zJ E M.tick).2).1,0,[]⟩:=by
 unfold xK;simp only[h]
 show yR E M.tick=_
 unfold yR;simp only;rw[if_neg Zo]
theorem op_13a(h:wW w K X M)(d:M.cur<M.f.length)(o:M.sz+20<=1000000)(hk:tkV K.E M 14=13)(q:¬tkV K.E (zJ K.E (zJ K.E M.tick).2).2 13=3):
 T 70 #[L K.pm] w (yk K X w (xK K.E M) (.tuple #[])):=by
 have HE:=Ja h.alt;have m:=Ja (OpSt.start h d);have c:=Ja (Jb o hk);have l:=Ja q;clear h d o hk q;go_enter Try.func70,Try.ntmps70
 go_wp2_with (first
  |(go_at_call 55;refine(m.out.takeK 14 13 13 rfl c.out.2 Zd Zd (by have:=c.out.1;omega)).mono ?_;clear m;rintro e w1 ⟨rfl,k⟩)
  |(go_at_call 58;refine(k.out.any (by have:=c.out.1;omega)).mono ?_;clear k;rintro e w2 ⟨x,Hx,rfl,j⟩)
  |(go_at_call 58;refine(j.out.any (by have:=c.out.1;omega)).mono ?_;clear j;rintro e w3 ⟨y,Hy,rfl,i⟩)
  |(go_at_call 55;refine(i.out.take 13 Zd Zd (by have:=c.out.1;omega)).mono ?_;clear i;rintro e w4 ⟨z,qz,u,rfl,g⟩;have tz:((5+(z:Int))==8)=false:=by rw[beq_eq_false_iff_ne];have:=u.out;have:=l.out;omega)
  |(go_at_call 83;refine(g.out.emit (5+(z:Int)) x y 0 (vG _ Zo Zo) (Hx.out.1) (Hy.out.1) Zd (by have:=c.out.1;omega)).mono ?_;clear g;rintro e w5 ⟨rfl,t⟩))
 first|go_end0|refine bodyPost_ret (results_none rfl _ _ _) rfl ?_
 rw[mkOp_13a c.out.2 l.out]
 try rw[Hx.out.2]
 try rw[Hy.out.2]
 try rw[u.out]
 exact t.out.ret
theorem mkOp_13b{E:ME}(h:tkV E M 14=13)(c:tkV E (zJ E (zJ E M.tick).2).2 13=3)(hp:tkV E (zJ E (zJ E M.tick).2).2.tick 8=0):xK E M=(zJ E (zJ E M.tick).2).2.tick.tick.emit ⟨8,0,(zJ E M.tick).1,(zJ E (zJ E M.tick).2).1,0,[]⟩:=by
 unfold xK;simp only[h]
 show yR E M.tick=_
 unfold yR;simp only;rw[if_pos Zo,if_neg Zo]
theorem op_13b(h:wW w K X M)(d:M.cur<M.f.length)(t:M.sz+20<=1000000)(hk:tkV K.E M 14=13)(u:tkV K.E (zJ K.E (zJ K.E M.tick).2).2 13=3)(hp:tkV K.E (zJ K.E (zJ K.E M.tick).2).2.tick 8=0):
 T 70 #[L K.pm] w (yk K X w (xK K.E M) (.tuple #[])):=by
 have HE:=Ja h.alt;have q:=Ja (OpSt.start h d);have c:=Ja (Jb t hk);have m:=Ja u;have o:=Ja hp;clear h d t hk u hp;go_enter Try.func70,Try.ntmps70
 go_wp2_with (first
  |(go_at_call 55;refine(q.out.takeK 14 13 13 rfl c.out.2 Zd Zd (by have:=c.out.1;omega)).mono ?_;clear q;rintro e w1 ⟨rfl,l⟩)
  |(go_at_call 58;refine(l.out.any (by have:=c.out.1;omega)).mono ?_;clear l;rintro e w2 ⟨x,Hx,rfl,k⟩)
  |(go_at_call 58;refine(k.out.any (by have:=c.out.1;omega)).mono ?_;clear k;rintro e w3 ⟨y,Hy,rfl,j⟩)
  |(go_at_call 55;refine(j.out.takeK 13 3 3 rfl m.out Zd Zd (by have:=c.out.1;omega)).mono ?_;clear j;rintro e w4 ⟨rfl,i⟩)
  |(go_at_call 55;refine(i.out.takeK 8 0 0 rfl o.out Zd Zd (by have:=c.out.1;omega)).mono ?_;clear i;rintro e w5 ⟨rfl,g⟩)
  |(go_at_call 83;refine(g.out.emit 8 x y 0 (yF _ rfl) (Hx.out.1) (Hy.out.1) Zd (by have:=c.out.1;omega)).mono ?_;clear g;rintro e w6 ⟨rfl,a0⟩))
 first|go_end0|refine bodyPost_ret (results_none rfl _ _ _) rfl ?_
 rw[mkOp_13b c.out.2 m.out o.out]
 try rw[Hx.out.2]
 try rw[Hy.out.2]
 exact a0.out.ret
theorem mkOp_13c{E:ME}(h:tkV E M 14=13)(c:tkV E (zJ E (zJ E M.tick).2).2 13=3)(hp:0<tkV E (zJ E (zJ E M.tick).2).2.tick 8):xK E M=((((zJ E (zJ E M.tick).2).2.tick.tick.num 1).emit ⟨10,0,(zJ E (zJ E M.tick).2).1,((zJ E (zJ E M.tick).2).2.next:Nat),0,[]⟩).emit ⟨8,0,(zJ E M.tick).1,(((zJ E (zJ E M.tick).2).2.next+1:Nat):Int),0,[]⟩):=by
 unfold xK;simp only[h]
 show yR E M.tick=_
 unfold yR;simp only;rw[if_pos Zo,if_pos Zo];rfl
theorem op_13c(h:wW w K X M)(i:M.cur<M.f.length)(hz:M.sz+20<=1000000)(hk:tkV K.E M 14=13)(hq:tkV K.E (zJ K.E (zJ K.E M.tick).2).2 13=3)(hp:0<tkV K.E (zJ K.E (zJ K.E M.tick).2).2.tick 8):
 T 70 #[L K.pm] w (yk K X w (xK K.E M) (.tuple #[])):=by
 have HE:=Ja h.alt;have u:=Ja (OpSt.start h i);have c:=Ja (Jb hz hk);have q:=Ja hq;have t:=Ja hp;clear h i hz hk hq hp;go_enter Try.func70,Try.ntmps70
 go_wp2_with (first
  |(go_at_call 55;refine(u.out.takeK 14 13 13 rfl c.out.2 Zd Zd (by have:=c.out.1;omega)).mono ?_;clear u;rintro e w1 ⟨rfl,o⟩)
  |(go_at_call 58;refine(o.out.any (by have:=c.out.1;omega)).mono ?_;clear o;rintro e w2 ⟨x,Hx,rfl,m⟩)
  |(go_at_call 58;refine(m.out.any (by have:=c.out.1;omega)).mono ?_;clear m;rintro e w3 ⟨y,Hy,rfl,l⟩)
  |(go_at_call 55;refine(l.out.takeK 13 3 3 rfl q.out Zd Zd (by have:=c.out.1;omega)).mono ?_;clear l;rintro e w4 ⟨rfl,k⟩)
  |(go_at_call 55;refine(k.out.take 8 Zd Zd (by have:=c.out.1;omega)).mono ?_;clear k;rintro e w5 ⟨z,qz,Hz,rfl,g⟩;have tz:(0:Int)<(z:Int):=by have:=Hz.out;have:=t.out;omega)
  |(go_at_call 73;refine(g.out.num 1 Zo (by have:=c.out.1;omega)).mono ?_;have N1:=Ja g.out.n64;clear g;rintro e w6 ⟨rfl,d⟩)
  |(go_at_call 83;refine(d.out.emit 10 y _ 0 (yF _ rfl) (Hy.out.1) N1.out Zd (by have:=c.out.1;omega)).mono ?_;have N2:=Ja d.out.n64;clear d;rintro e w7 ⟨rfl,j⟩)
  |(go_at_call 83;refine(j.out.emit 8 x _ 0 (yF _ rfl) (Hx.out.1) N2.out Zd (by have:=c.out.1;omega)).mono ?_;clear j;rintro e w8 ⟨rfl,a0⟩))
 first|go_end0|refine bodyPost_ret (results_none rfl _ _ _) rfl ?_
 rw[mkOp_13c c.out.2 q.out t.out]
 try rw[Hx.out.2]
 try rw[Hy.out.2]
 try rw[Hz.out]
 exact a0.out.ret
theorem op_any(h:wW w K X M)(c:M.cur<M.f.length)(d:M.sz+20<=1000000):
 T 70 #[L K.pm] w (yk K X w (xK K.E M) (.tuple #[])):=by
 have l:=aaE K.E M (n:=14) Zo;have o:=aaE K.E M.tick (n:=3) Zo;obtain⟨k,hk⟩:∃k,tkV K.E M 14=k:=⟨_,rfl⟩
 rw[hk] at l
 have m:∀j,j=11∨j=12∨j=13->k=j->T 70 #[L K.pm] w (yk K X w (xK K.E M) (.tuple #[])):=fun j hj e=>by
  by_cases g:tkV K.E (zJ K.E (zJ K.E M.tick).2).2 13=3
  ·by_cases hp:0<tkV K.E (zJ K.E (zJ K.E M.tick).2).2.tick 8
   ·rcases hj with rfl|rfl|rfl
    ·exact op_11c h c d (hk.trans e) g hp
    ·exact op_12c h c d (hk.trans e) g hp
    ·exact op_13c h c d (hk.trans e) g hp
   ·have i:tkV K.E (zJ K.E (zJ K.E M.tick).2).2.tick 8=0:=Zo;rcases hj with rfl|rfl|rfl
    ·exact op_11b h c d (hk.trans e) g i
    ·exact op_12b h c d (hk.trans e) g i
    ·exact op_13b h c d (hk.trans e) g i
  ·rcases hj with rfl|rfl|rfl
   ·exact op_11a h c d (hk.trans e) g
   ·exact op_12a h c d (hk.trans e) g
   ·exact op_13a h c d (hk.trans e) g
 match k,l with
 |0,_=>exact op_0 h c d hk
 |1,_=>exact op_1 h c d hk
 |2,_=>exact op_2 h c d hk
 |3,_=>exact op_3 h c d hk
 |4,_=>exact op_4 h c d hk
 |5,_=>exact op_5 h c d hk
 |6,_=>exact op_6 h c d hk
 |7,_=>exact op_7 h c d hk
 |8,_=>exact op_8 h c d hk
 |9,_=>exact op_9 h c d hk
 |10,_=>
  by_cases g:tkV K.E M.tick 3=0
  ·exact op_10a h c d hk g
  ·exact op_10b h c d hk g
 |11,_=>exact m 11 Zo rfl
 |12,_=>exact m 12 Zo rfl
 |13,_=>exact m 13 Zo rfl
 |k+14,h=>exact absurd h Zo
theorem own_take{S:Nat}{e:TypeId}{a:Option Addr}{n:Nat}{xs:List Value}(h:w.ownsRow S e 1 (.slice a n c) n xs)(hk:k<=n):w.ownsRow S e 1 (.slice a k c) k (xs.take k):=by
 obtain⟨t,q⟩:=h;refine⟨by rw[Oc,t];omega,?_⟩;rcases q with⟨d,i⟩|⟨g,u,cur,d,i,o,x,m,l,j⟩
 ·cases d;left;have:k=0:=Zo;subst this;exact⟨rfl,rfl⟩
 ·cases d;refine .inr ⟨g,_,cur,rfl,i,o,by omega,m,l,?_⟩;rw[<-j,List.take_take]
  congr 1
  omega
def toL (tg n:Nat):List (IEdge×Value):=(List.range n).map fun k=>(⟨((tg+k:Nat):Int),[]⟩,F)
theorem toL_succ (tg n:Nat):toL tg (n+1)=toL tg n++ [(⟨((tg+n:Nat):Int),[]⟩,.slice none 0 0)]:=by unfold toL;rw[List.range_succ,Js];rfl
theorem toL_len (tg n:Nat):(toL tg n).length=n:=by unfold toL;simp
theorem toL_fst (tg n:Nat):(toL tg n).map (·.1)=xk tg n:=by unfold toL xk;rw[List.map_map];rfl
structure ToMid (w:World) (K:MKC) (X:Nat->Prop) (M:MS) (tv:Value) (j:Nat) (wx:World):Prop where
 own:wx.ownsRow w.heap.size 93 2 tv j ((toL M.f.length j).flatMap wb)
 made:∃Xj,wW wx (K.withZ fun k=>K.Z k∨tv.ownBlock=some k) Xj (xE j M)/\Stp X w Xj wx
theorem ToMid.start(h:wW w K X M):ToMid w K X M (F) 0 w:=by
 refine⟨Jv _ _ _ _,X,?_,Stp.refl _ _⟩;obtain⟨fv,vv,l,h⟩:=h;exact⟨fv,vv,l,h.off (Je _) ⟨rfl,rfl,rfl⟩ (fun _ _ _=>rfl) (fun k e=>e.elim .inl (fun e=>by simp[Value.ownBlock] at e)) (fun k e=>e.elim (h.env.zl k) (fun e=>by simp[Value.ownBlock] at e))⟩
theorem ToMid.next{X2:Nat->Prop}{tv d:Value}{o:Obj}(h:ToMid w K X M tv j wx)(h2:wW w2 (K.withZ fun k=>K.Z k∨tv.ownBlock=some k) X2 (xE (j+1) M))(c:Stp X w X2 w2)(m:w2.ownsRow w.heap.size 93 2 tv j ((toL M.f.length j).flatMap wb))
 (t:∀k,X k->k<w.heap.size) (hB:K.B<=w.heap.size) (hg:(w2.alloc o).grownBy w3 tv.ownBlock) (i:w3.ownsRow w.heap.size 93 2 d (j+1) ((toL M.f.length j).flatMap wb++wb (⟨((M.f.length+j:Nat):Int),[]⟩,F))) (q:∀k,d.ownBlock=some k->tv.ownBlock=some k∨w2.heap.size<=k):ToMid w K X M d (j+1) w3:=by
 obtain⟨fv,vv,l,h2⟩:=h2;have g:w2.heap.size<=w3.heap.size:=by have:=hg.size;simp at this;omega
 have hk:∀k,k<w2.heap.size->tv.ownBlock≠some k->w3.heap[k]? =w2.heap[k]?:=fun k hk hne=>(hg.block k Zt (fun e=>hne e.symm)).trans (Below.heap_alloc w2 o k hk)
 refine⟨?_,X2,⟨fv,vv,l,h2.off (K:=K.withZ fun k=>K.Z k∨tv.ownBlock=some k) g ⟨hg.os,hg.tape,hg.output⟩ (fun k hk' hz=>hk k hk' (fun e=>by have u:k<K.B:=hz (.inr e);have:=(m.lt k e).1;omega)) (fun k e=>e.elim (fun e=> .inl (.inl e)) (fun e=>(q k e).elim (fun e=> .inl (.inr e)) .inr)) (fun k e=>e.elim (fun e=>Jy (h2.env.zl k (.inl e)) g) (fun e=>(i.lt k e).2))⟩,?_⟩
 ·rw[toL_succ,Nx];exact i
 ·refine⟨hg.os.trans c.os,hg.tape.trans c.tape,hg.output.trans c.output,Jn c.size g,c.new,fun k hk' hx'=>(hk k (Jy hk' c.size) (fun e=>?_)).trans (c.kept k hk' hx')⟩;have:=(m.lt k e).1;omega
theorem ToMid.done{tv:Value}(h:ToMid w K X M tv j wx)(d:∀k,K.Z k->k<w.heap.size)(g:M.f.length+j<=1000000):∃Xj,wW wx K Xj (xE j M)/\Stp X w Xj wx/\vT wx (K.av Xj) tv (xk M.f.length j):=by
 obtain⟨Xj,⟨fv,vv,l,hm⟩,hs⟩:=h.made;refine⟨Xj,⟨fv,vv,l,hm.off (Z2:=K.Z) (Je _) ⟨rfl,rfl,rfl⟩ (fun _ _ _=>rfl) (fun k e=> .inl (.inl e)) (fun k e=>hm.env.zl k (.inl e))⟩,hs,?_⟩;rw[<-toL_fst];refine ld (by rw[toL_len];exact h.own) (fun q hq=>?_) (fun k e hx=>hx.elim (fun e2=>hm.env.zx k e2 (.inr e)) (fun e2=>?_))
 ·unfold toL at hq;obtain⟨m,c,rfl⟩:=Nu.1 hq;have:=Ol.1 c;exact⟨vG _ (by show -1000000<=((M.f.length+m:Nat):Int);omega) (by show((M.f.length+m:Nat):Int)<=1000000;omega),yE.nil⟩
 ·have:=(h.own.lt k e).1;have:=d k e2;omega
theorem pj{blk:Int}(d:∀x∈xs,I64 x)(hl:xs.length<=1000)(hb:I64 blk)(X:Nat->Prop)(c:∀k,X k->k<w.heap.size):
 vT ((w.alloc (A (xs.map fun x=>I x).toArray 3)).alloc (A #[I blk,N w.heap.size xs.length xs.length] 93)) X (N (w.heap.size+1) 1 1) [⟨blk,xs⟩]:=by
 refine qt (l:=[((⟨blk,xs⟩:IEdge),N w.heap.size xs.length xs.length)]) (e:=93) (zI Zs) (fun e=>by have:=c _ e;omega) (fun q hq=>?_) Zs;rw[Jo] at hq;subst hq;exact⟨hb,ki (zB (zI rfl)) (fun e=>by have:=c _ e;omega) d Zo⟩
theorem edgeCell{v:Value}{xs:List IEdge}{a:Option Addr}{n:Nat}(h:vT w X v xs)(hv:v=.slice a n c){x:IEdge}(d:xs[k]? =some x):∃b o,a=some ⟨b,o,none⟩/\U w b (o+k*2) (I x.block):=by
 subst hv;obtain⟨a',c',e,_,_,j⟩:=h;cases e;obtain⟨b,o,i,_,_,g,_⟩:=j k x d;exact⟨b,o,i,g⟩
theorem nl{n:Nat}(h:k<n):(xk tg n)[k]? =some ⟨((tg+k:Nat):Int),[]⟩:=by unfold xk;rw[Jr,Oh h];rfl
theorem MkIn.cut{fv:Value}{a:Option Addr}{n:Nat}(h:MkIn w K X M fv (.slice a n c) l)(hk:k<=M.vals.length):
 MkIn (w.setCell ⟨K.pm,7,none⟩ (.slice a k c)) K X {M with vals:=M.vals.take k } fv (.slice a k c) l/\Stp X w X (w.setCell ⟨K.pm,7,none⟩ (.slice a k c)):=by
 have hv:=h.vown;obtain⟨a',c',e⟩:=zG hv;cases e;have d:(M.vals.take k).length=k:=by rw[Oc];omega
 refine h.setC 7 _ {M with vals:=M.vals.take k } (.slice a k c) rfl rfl ?_ (fun x hx=>h.v64 x (List.mem_of_mem_take hx)) ?_ ?_ h.lft
 ·show w.ownsRow K.B 3 1 (.slice a k c) (M.vals.take k).length ((M.vals.take k).map zN)
  rw[d,List.map_take];exact own_take hv hk
 ·intro j e;refine h.xv j ?_
  cases a with
  |none=>cases e
  |some a=>exact e
 ·have:=h.bnd;unfold MS.sz at this ⊢;simp only[d];omega
theorem MkIn.goto{fv:Value}(h:MkIn w K X M fv vv l)(k:Nat):
 MkIn (w.setCell ⟨K.pm,5,none⟩ (I k)) K X {M with cur:=k } fv vv l/\Stp X w X (w.setCell ⟨K.pm,5,none⟩ (I k)):=
 h.setC 5 _ {M with cur:=k } vv rfl rfl h.vown h.v64 h.xv h.bnd h.lft
theorem MkIn.parAt{fv:Value}(h:MkIn w K X M fv vv l){i:Nat}{b:IBlk}(hb:M.f[i]? =some b):
 ∃g c pa pc,fv=N g l.length c/\g<w.heap.size/\U w g (i*5) (.slice pa b.params.length pc)/\∀k x,b.params[k]? =some x->∃bb o,pa=some ⟨bb,o,none⟩/\bb<w.heap.size/\U w bb (o+k) (I x)/\I64 x:=by
 obtain⟨q,m,rfl,u⟩:=h.getB hb;obtain⟨g,c,d,a1,y,a0⟩:=h.fblk m;have j:=z9 yr h.own (by rw[d];rfl) m;have e0:U w g (i*5) q.pv:=j 0 _ rfl;obtain⟨pa,pc,t,h1,h2,h3⟩:=u.par;refine⟨g,c,pa,pc,d,y,by rw[e0,t],fun k x hx=>?_⟩;obtain⟨bb,o,h4,h5,h6,h7,h8⟩:=h3 k x hx;rw[Nk] at h7;exact⟨bb,o,h4,h5,h7,h8⟩
theorem Try.info_edge:(Try.prog.info? 93).map (fun i=>(i.zero,i.size,i.bytes))=some (some (.agg #[I 0,.slice none 0 0]),2,32):=by kernel_rfl
def sU (d:Nat):Prop:=∀(w:World) (K:MKC) (X:Nat->Prop) (M:MS),wW w K X M->M.cur<M.f.length->M.sz+pC d<=1000000->
 T 57 #[L K.pm,I d] w (yk K X w (zp K.E d M) (.tuple #[]))
theorem OpSt.part(h:OpSt w0 K X0 M0 c w M)(j:sU d)(k:M0.sz+(c+pC d)<=1000000):
 T 57 #[L K.pm,I d] w fun e w'=>e=.returned (.tuple #[])/\Hid (OpSt w0 K X0 M0 (c+pC d) w' (zp K.E d M)):=by
 obtain⟨X,hm,hs⟩:=h.made;refine(j w K X M hm h.cur (by have:=h.gr.sz;omega)).mono ?_;rintro e w' ⟨rfl,X',i,g⟩;have hg:=xw K.E hm.alt d M;exact⟨rfl,Ja ⟨⟨X',i,hs.trans g⟩,h.gr.trans hg,hg.cur h.cur⟩⟩
structure ArmMid (w:World) (K:MKC) (X:Nat->Prop) (M:MS) (d tg join n j:Nat) (wx:World) (Mj:MS):Prop where
 made:∃Xj,wW wx K Xj Mj/\Stp X w Xj wx
 rest:uV K.E (zp K.E d) tg join M.vals.length n 0 M=uV K.E (zp K.E d) tg join M.vals.length (n-j) j Mj
 vals:Mj.vals=M.vals
 gr:GrowP (j*(pC d+5)) M Mj
theorem ArmMid.next{Xj:Nat->Prop}{Mj:MS}{n:Nat}(h:ArmMid w K X M d tg c n j wx Mj)(q:j<n)(hs:Stp X w Xj wx)(hf:tg+n<M.f.length)
 (o:∃X2,wW w2 K X2 {wM K.E c j (zp K.E d {Mj with cur:=tg+j }) with vals:=(wM K.E c j (zp K.E d {Mj with cur:=tg+j })).vals.take M.vals.length }/\Stp Xj wx X2 w2):
 ArmMid w K X M d tg c n (j+1) w2 {wM K.E c j (zp K.E d {Mj with cur:=tg+j }) with vals:=(wM K.E c j (zp K.E d {Mj with cur:=tg+j })).vals.take M.vals.length }:=by
 obtain⟨X2,g,i⟩:=o;have m:=g.alt;have l:=((vk Mj (tg+j) (by have:=h.gr.len;omega)).trans ((xw K.E m d _).trans (su K.E c j (zp K.E d {Mj with cur:=tg+j })))).mono (show 0+(pC d+5)<=pC d+5 by omega);have k:=sY l;have hl:Mj.vals.length=M.vals.length:=by rw[h.vals]
 rw[hl] at k;refine⟨⟨X2,g,hs.trans i⟩,?_,?_,?_⟩
 ·rw[h.rest,show n-j=(n-(j+1))+1 by omega,rg]
 ·have:=uF l.pre;rw[hl] at this;exact this.trans h.vals
 ·have:=h.gr.trans k;rw[Nat.succ_mul];exact this
theorem lH(hd:d<=5)(hP:sU d)(h:wW w K X M)(c3:M.cur<M.f.length){n:Nat}(s8:2<=n)(p3:n<=4)(hz:M.sz+(31+4*pC d)<=1000000):
 T 71 #[L K.pm,I ((d:Int)+1),I n] w (yk K X w (xi K.E (zp K.E d) n M) (.tuple #[])):=by
 have HA:=Ja (OpSt.start h c3);have HZ:=Ja (Jb hz hP);have r1:=Ja c3
 have l3:K.B<=w.heap.size/\(∀k,K.Z k->k<w.heap.size):=by
  obtain⟨fv,vv,l,hi⟩:=h;exact⟨hi.size,hi.env.zl⟩
 have u0:=Ja l3;clear h c3 hz hP l3;go_enter Try.func71,Try.ntmps71;go_upto_region 1 with(go_at_call 58;go_must (refine(HA.out.any (by have:=HZ.out.1;omega)).mono ?_;rintro e w1 ⟨x,HX,rfl,b8⟩))
 obtain⟨M1,i0⟩:∃M1,(zJ K.E M).2=M1:=⟨_,rfl⟩
 rw[i0] at b8;obtain⟨X1,f8,l1⟩:=b8.out.made;have n3:=b8.out.gr.sz
 have k7:(∀k,X1 k->k<w1.heap.size)/\K.B<=w1.heap.size/\(∀k,K.Z k->k<w1.heap.size)/\M1.f.length<=999900:=by
  obtain⟨fv,vv,l,hi⟩:=f8;refine⟨hi.xl,hi.size,hi.env.zl,?_⟩;have h1:M1.f.length<=M1.sz:=by unfold MS.sz;omega
  have h2:=HZ.out.1;have h3:pC d≥101:=by cases d<;>unfold pC<;>omega
  omega
 have q9:=Ja (ToMid.start f8);have H1:=Ja (Jb l1 (Jb k7 i0));clear f8 l1 n3 k7 i0 HA;go_wp2
 go_loopw [7,8] (fun tv kv wx=>∃(j:Nat) (ta:Option Addr) (tc:Nat),j<=n/\tv=.slice ta j tc/\kv=I j/\Hid (ToMid w1 K X1 M1 (.slice ta j tc) j wx)) (fun _ kv _=>n-(intOf kv).toNat)
 case atStart=>exact⟨0,none,0,Jt _,rfl,rfl,q9⟩
 case round=>
  obtain⟨j,ta,tc,hj,rfl,rfl,HT⟩:=hrel
  by_cases a2:j<n
  ·have b3:(j:Int)<(n:Int):=Zo;obtain⟨Xj,f3,e8⟩:=HT.out.made;have c8:=rU f3 (n:=0) (by have h1:=(vW j M1).sz;have h2:=b8.out.gr.sz;have h3:=HZ.out.1;omega);rw[tB] at c8
   have g3:∀(w4:World) (X4:Nat->Prop),Stp Xj wr X4 w4->w4.ownsRow w1.heap.size 93 2 (.slice ta j tc) j ((toL M1.f.length j).flatMap wb):=fun w4 X4 b5=>yD HT.out.own (fun k e=>b5.kept k (HT.out.own.lt k e).2 (fun e2=>by
    obtain⟨fv,vv,l,hi⟩:=f3
    exact hi.env.zx k e2 (.inr e)))
   obtain⟨ij,g2,c1,c0,b9⟩:=info_parts Try.info_edge;have HN:=Ja (Jb c8 (Jb e8 (Jb g3 a2)));have s1:=e8.size;clear f3 e8 c8 g3 a2;go_wp2_with (first|(go_at_call 56;go_must (refine HN.out.1.mono ?_;rintro e w4 ⟨rfl,X4,p5,b5⟩;have l2:=HN.out.2.2.1 w4 X4 b5;have s2:=b5.size;have n4:yM (w4.alloc (A #[I ((M1.f.length+j:Nat):Int),F] 93)) 2 (N w4.heap.size 1 1) 1 (wb (⟨((M1.f.length+j:Nat):Int),[]⟩,F)):=yM.cells (zI rfl) rfl (by simp[wb,Value.oneCell'])))|(at_builtin;go_must (refine zK _ rfl (.tmp 20) (.tmp 24) 32 rfl w1.heap.size 93 ij (.agg #[I 0,F]) 2 32 Try.underlying32 g2 c1 c0 b9 rfl Zd (.slice ta j tc) j ((toL M1.f.length j).flatMap wb) rfl (l2.alloc _) _ 1 (wb (⟨((M1.f.length+j:Nat):Int),[]⟩,F)) rfl n4 (by unfold maxLen;omega) Zo Zt ?_;intro v9 w9 u a0 d4)))
   obtain⟨o6,o5,rfl⟩:=zG u;go_roundw
   case rel=>
    refine⟨j+1,o6,o5,HN.out.2.2.2,rfl,by go_num,Ja (HT.out.next p5 (HN.out.2.1.trans b5) l2 H1.out.2.1.1 H1.out.2.1.2.1 a0 u (fun k e=>?_))⟩;rcases d4 with e2|e2
    ·exact .inl (by rw[<-e2];exact e)
    ·right;have e3:=e2.symm.trans e;simp at e3;omega
   case measure=>have:=HN.out.2.2.2;simp[intOf];omega
  ·obtain rfl:j=n:=by omega
   have b3:¬(j:Int)<(j:Int):=Zo;obtain⟨X2,f6,l0,g6⟩:=HT.out.done H1.out.2.1.2.2.1 (by have:=H1.out.2.1.2.2.2;omega);have a4:=b8.out.gr.trans (vW j M1);have a8:=tB j M1;obtain⟨tg,e7⟩:∃tg,M1.f.length=tg:=⟨_,rfl⟩
   rw[e7] at a8 g6;obtain⟨M2,h9⟩:∃M2,xE j M1=M2:=⟨_,rfl⟩
   rw[h9] at f6 a4 a8;have r3:=Ja (OpSt.start f6 (a4.cur r1.out));have k5:=a4.sz;have a5:=r3.out.block 1 (by have:=HZ.out.1;omega);rw[a8] at a5;obtain⟨jn,g1⟩:∃jn,tg+j=jn:=⟨_,rfl⟩
   rw[g1] at a5;have H2:=Ja (Jb (H1.out.1.trans l0) (Jb g6 (Jb k5 (Jb h9 (Jb e7 (Jb g1 (Jb a8 a4)))))));have o4:=Ja a5;clear f6 l0 g6 a4 a8 h9 e7 k5 a5 g1 HT;go_upto_region 7 with(go_at_call 56;go_must (refine o4.out.mono ?_;rintro e w3 ⟨rfl,r0⟩))
   obtain⟨kd,b6⟩:∃kd:Int,(if 2<j then 3 else 2)=kd:=⟨_,rfl⟩
   have d2:I64 kd:=by rw[<-b6];split<;>exact yF _ rfl
   have f9:2<j->kd=3:=fun e=>by rw[<-b6,if_pos e]
   have g0:¬2<j->kd=2:=fun e=>by rw[<-b6,if_neg e]
   have d8:=Ja (Jb b6 (Jb d2 (Jb f9 g0)));clear b6 d2 f9 g0
   go_upto_if 32 with fail
   go_cut [] (fun wx=>Hid (O w3 wx/\Q wx w3.heap.size #[I kd,I x,.slice ta j tc] 34))
   case first=>
    by_cases h3:2<j
    ·have q2:(2:Int)<(j:Int):=Zo;have hk:=d8.out.2.2.1 h3;subst hk;go_wp2;go_meet;exact Ja ⟨(Below.refl _ _).alloc (Je _) _,zI rfl⟩
    ·have q2:¬(2:Int)<(j:Int):=Zo;have hk:=d8.out.2.2.2 h3;subst hk;go_wp2;go_meet;exact Ja ⟨(Below.refl _ _).alloc (Je _) _,zI rfl⟩
   case rest=>
   obtain⟨m4,d0⟩:=hcut.out;have t0:=zA (i:=0) d0 rfl;have t1:=zA (i:=1) d0 rfl;have t2:=zA (i:=2) d0 rfl;have o3:=Ja ((r0.out.below m4).endB kd x (xk tg j) (.slice ta j tc) d8.out.2.1 HX.out.1 (fun X hm hs=>H2.out.2.1.step yq (hs.av K)));clear m4 d0 hcut;go_upto_region 11 with(go_at_call 59;go_must (refine o3.out.mono ?_;rintro e w5 ⟨rfl,i8⟩))
   obtain⟨M3,d6⟩:∃M3,(M2.block 1).endB ⟨kd,x,xk tg j⟩=M3:=⟨_,rfl⟩
   rw[d6] at i8;obtain⟨X5,f4,f0⟩:=i8.out.made;have g5:=H2.out.2.1.step yq (f0.av K);have n8:∃n0 vv5 l5,MkIn w5 K X5 M3 n0 vv5 l5:=f4;obtain⟨n0,vv5,l5,d3⟩:=n8;have c7:=d3.c7;obtain⟨va5,vc5,e4⟩:=zG d3.vown;rw[e4] at c7;have n5:=lt_of_block d3.blk;have d1:M3.f.length=jn+1:=by rw[<-d6,(yf _ _).len,yz,<-H2.out.2.2.2.2.2.1];have:=H2.out.2.2.2.2.2.2.1;omega
   have k4:M3.sz<=M.sz+(6+j):=by have:=i8.out.gr.sz;have:=H2.out.2.2.1;omega
   have k6:6+j+j*(pC d+5)+1<=31+4*pC d:=by have:=Qw (pC d+5) p3;omega
   have H5:=Ja (Jb (H2.out.1.trans f0) (Jb g5 (Jb d6 (Jb d1 (Jb k4 k6)))));have r4:=Ja (show ArmMid w5 K X5 M3 d tg jn j 0 w5 M3 from⟨⟨X5,f4,Stp.refl _ _⟩,rfl,rfl,(GrowP.refl _).mono (Jt _)⟩);clear f4 f0 g5 d3 d6 d1 k4 k6 e4 t0 t1 t2;go_wp2;clear c7 n5
   go_loopw [12] (fun kv wx=>∃(i:Nat) (Mi:MS),i<=j/\kv=I i/\Hid (ArmMid w5 K X5 M3 d tg jn j i wx Mi)) (fun kv _=>j-(intOf kv).toNat)
   case atStart=>exact⟨0,M3,Jt _,rfl,r4⟩
   case round=>
    obtain⟨i,Mi,hi,rfl,a1⟩:=hrel;obtain⟨Xi,p4,b4⟩:=a1.out.made;obtain⟨fv,vv,l,q⟩:=p4
    by_cases a2:i<j
    ·have b3:(i:Int)<(j:Int):=Zo;have g4:=H5.out.2.1.step yq (b4.av K);obtain⟨eb,eo,p0,l7⟩:=edgeCell g4 rfl (nl a2);obtain⟨ti,e6⟩:∃ti,tg+i=ti:=⟨_,rfl⟩
     simp only[e6] at l7;have f5:=q.free 5;have f1:=lt_of_block q.blk;have c5:=q.c5;have b7:=q.goto ti;have o9:Mi.sz<=M3.sz+i*(pC d+5):=a1.out.gr.sz;have n7:i*(pC d+5)+(pC d+5)<=j*(pC d+5):=by have:=Qw (pC d+5) a2;rw[Nat.succ_mul] at this;exact this
     have m3:Mi.sz+(pC d+5)<=1000000:=by have h1:=HZ.out.1;have h2:=H5.out.2.2.2.2.1;have h3:=H5.out.2.2.2.2.2;omega
     have l8:ti<Mi.f.length:=by have h1:=a1.out.gr.len;have h2:=H5.out.2.2.2.1;have h3:=H2.out.2.2.2.2.2.1;omega
     have q7:=Ja e6;have m:=Ja (Jb b4 (Jb b7 (Jb m3 l8)));subst p0;clear e6 q b4 g4 b7 o9 n7 m3 l8;go_upto_region 16 with fail;generalize h7:wr.setCell ⟨K.pm,5,none⟩ (I ti)=W6 at *;obtain⟨M6,d5⟩:∃M6:MS,{Mi with cur:=ti }=M6:=⟨_,rfl⟩
     have k3:M6.sz+(pC d+5)<=1000000:=by rw[<-d5];exact m.out.2.2.1
     have m5:OpSt W6 K Xi M6 0 W6 M6:=by rw[<-d5];exact OpSt.start m.out.2.1.1.at m.out.2.2.2
     have a9:=Ja (Jb (m5.part HZ.out.2 Zo) (Jb d5 k3));have s6:IntKind.i64.wrap ((d:Int)+1-1)=(d:Int):=by rw[Om _ Zo];omega
     clear d5 k3 m5 h7 c5 f5 l7;go_upto_region 17 with(go_at_call 57;go_must (refine a9.out.1.mono ?_;rintro e w7 ⟨rfl,i2⟩))
     obtain⟨M7,h8⟩:∃M7,zp K.E d M6=M7:=⟨_,rfl⟩
     rw[h8] at i2;have o2:=Ja h8;clear h8
     go_cut [65] (fun v wx=>∃bb:Bool,v=.bool bb/\(bb=true↔(tkV K.E M7 12=11/\0<i))/\Hid (OpSt W6 K Xi M6 (0+pC d+1) wx M7.tick))
     case first=>
      by_cases ht:tkV K.E M7 12=11
      ·have d7:=Ja (i2.out.takeK 12 11 11 rfl ht Zd Zd (by have:=a9.out.2.2;omega));have HT:=Ja ht;clear ht
       by_cases h0:0<i
       ·have q3:(0:Int)<(i:Int):=Zo;go_wp2_with (go_at_call 55;go_must (refine d7.out.mono ?_;rintro e w8 ⟨rfl,a6⟩))
        go_meet;exact⟨true,rfl,⟨fun _=>⟨HT.out,h0⟩,fun _=>rfl⟩,a6⟩
       ·have q3:¬(0:Int)<(i:Int):=Zo;go_wp2_with (go_at_call 55;go_must (refine d7.out.mono ?_;rintro e w8 ⟨rfl,a6⟩))
        go_meet;exact⟨false,rfl,⟨(fun e=>by cases e),(fun e=>absurd e.2 h0)⟩,a6⟩
      ·have d7:=Ja (i2.out.take 12 Zd Zd (by have:=a9.out.2.2;omega));have HT:=Ja ht;clear ht;go_wp2_with (go_at_call 55;go_must (refine d7.out.mono ?_;rintro e w8 ⟨z,s0,o0,rfl,a6⟩;have tz:((z:Int)==11)=false:=by rw[beq_eq_false_iff_ne];have:=o0.out;have:=HT.out;omega))
       go_meet;exact⟨false,rfl,⟨(fun e=>by cases e),(fun e=>absurd e.1 HT.out)⟩,a6⟩
     case rest=>
     obtain⟨bb,rfl,h6,a6⟩:=hcut;have n1:=Ja h6;clear h6;have j2:=Ja (a6.out.any (by have:=a9.out.2.2;omega))
     go_upto_if 65 with fail
     go_cut [] (fun wx=>Hid (OpSt W6 K Xi M6 (0+pC d+1+4) wx (wM K.E jn i M7)))
     case first=>
      cases bb
      ·go_wp2_with (first|(go_at_call 58;go_must (refine j2.out.mono ?_;rintro e w9 ⟨y,HY,rfl,i1⟩;have r2:=Ja (i1.out.endN 1 0 [⟨(jn:Int),[y]⟩] (N (w9.heap.size+1) 1 1) (yF _ rfl) (yF _ rfl) (((Below.refl _ _).alloc (Je _) _).alloc Zs _) (pj (w:=w9) (xs:=[y]) (blk:=(jn:Int)) (fun x hx=>by rw[Jo] at hx;subst hx;exact HY.out.1) Zs (vG _ Zo (by have h1:=H5.out.2.2.2.1;have h2:=H5.out.2.2.2.2.1;have h3:=HZ.out.1;unfold MS.sz at *;omega))))))|(go_at_call 59;go_must (refine r2.out.mono ?_;rintro e w10 ⟨rfl,c9⟩)))
       go_meet;refine Ja ?_
       have e1:wM K.E jn i M7=(zJ K.E M7.tick).2.endB ⟨1,0,[⟨(jn:Nat),[(zJ K.E M7.tick).1]⟩]⟩:=by
        unfold wM;rw[if_neg (fun e=>by have:=n1.out.2 e;cases this)]
       rw[e1,HY.out.2];exact c9.out
      ·go_wp2_with (first|(go_at_call 58;go_must (refine j2.out.mono ?_;rintro e w9 ⟨y,HY,rfl,i1⟩))|(go_at_call 59;go_must (refine(i1.out.endB 4 y [] (F) (yF _ rfl) HY.out.1 (fun X _ _=>yE.nil)).mono ?_;rintro e w10 ⟨rfl,c9⟩)))
       go_meet;refine Ja ?_
       have e1:wM K.E jn i M7=(zJ K.E M7.tick).2.endB ⟨4,(zJ K.E M7.tick).1,[]⟩:=by
        unfold wM;rw[if_pos (n1.out.1 (by trivial))]
       rw[e1,HY.out.2];exact c9.out
     case rest=>
     obtain⟨X9,⟨t6,vv9,l9,a3⟩,k9⟩:=hcut.out.made;obtain⟨va9,vc9,n2⟩:=zG a3.vown;subst n2;have c7:=a3.c7;have f7:=a3.free 7;have s3:=lt_of_block a3.blk
     have c2:M3.vals.length<=(wM K.E jn i M7).vals.length:=by
      have h1:=dO hcut.out.gr.pre;rw[<-a9.out.2.1] at h1;have h2:({Mi with cur:=ti }:MS).vals=Mi.vals:=rfl;rw[h2,a1.out.vals] at h1;exact h1
     have s5:M3.vals.length<=vc9:=Jn c2 (zm a3.vown).1;have r6:vc9<=9223372036854775807:=by have:=(zm a3.vown).2;omega
     have m1:=a3.cut c2;have j1:=Ja (Jb m1 k9);clear a3 c2 m1 k9 hcut;go_wp2;go_roundw
     case rel=>
      have hq:=a1.out.next (w2:=wc.setCell ⟨K.pm,7,none⟩ (.slice va9 M3.vals.length vc9)) a2 m.out.1 (by have h1:=H5.out.2.2.2.1;have h2:=H2.out.2.2.2.2.2.1;omega) ⟨X9,?_,(m.out.2.1.2.trans j1.out.2).trans j1.out.1.2⟩
      ·exact⟨i+1,_,a2,by go_num,Ja hq⟩
      ·rw[q7.out,a9.out.2.1,o2.out];exact j1.out.1.1.at
     case measure=>have:=a2;simp[intOf];omega
    ·obtain rfl:i=j:=by omega
     have b3:¬(i:Int)<(i:Int):=Zo;have b0:=a1.out.rest;rw[show i-i=0 by omega] at b0
     have n6:∃b,Mi.f[jn]? =some b/\b.params=[(M2.next:Int)]:=by
      have a8:=H2.out.2.2.2.2.2.2.1;have t3:=H2.out.2.2.2.2.2.1
      have h0:(M2.block 1).f[jn]? =some (wJ M2.next 1):=by
       show(M2.f++ [wJ M2.next 1])[jn]? =_
       rw[Nc Zo,show jn-M2.f.length=0 by omega];rfl
      obtain⟨b1,h1,h2⟩:=(yf (M2.block 1) ⟨kd,x,xk tg i⟩).par _ _ h0;rw[H5.out.2.2.1] at h1;obtain⟨b2,h3,h4⟩:=a1.out.gr.par _ _ h1;exact⟨b2,h3,h4.trans (h2.trans rfl)⟩
     obtain⟨bj,g8,m2⟩:=n6;have b7:=q.goto jn;have c5:=q.c5;have f5:=q.free 5;have f1:=lt_of_block q.blk;have s9:jn<l.length:=by rw[q.len];exact(Jh.1 g8).1
     have q0:=q.flen;rw[<-q.len] at q0;have m:=Ja (Jb b4 (Jb b7 (Jb g8 (Jb m2 b0))));clear q b4 b7 g8 m2 b0;go_upto_region 22 with fail;generalize h7:wr.setCell ⟨K.pm,5,none⟩ (I jn)=W6 at *;obtain⟨g,c,pa,pc,l4,t4,q1,f2⟩:=m.out.2.1.1.parAt (i:=jn) m.out.2.2.1;have h0:=f2 0 (M2.next:Int) (by rw[m.out.2.2.2.1];rfl);obtain⟨bb,o,p1,h6,k1,h64⟩:=h0;rw[Uk] at k1;rw[m.out.2.2.2.1] at q1;obtain⟨va,vc,e5⟩:=zG m.out.2.1.1.vown;have u:=m.out.2.1.1.vown;have c4:=m.out.2.1.1.c4;have c7:=m.out.2.1.1.c7;have f7:=m.out.2.1.1.free 7;have k2:=lt_of_block m.out.2.1.1.blk;have nb:=zC u m.out.2.1.1.blk (.inr Zd);rw[e5] at u c7 nb;rw[l4] at c4;subst p1;have o1:=Ja u;have q6:=Ja e5;have r5:=Ja h64
     have s7:Mi.vals.length<=999999:=by
      have h1:=a1.out.vals;have h2:=H5.out.2.2.2.2.1;have h3:=HZ.out.1;have h4:M3.vals.length<=M3.sz:=by unfold MS.sz;omega
      have h5:pC d≥101:=by cases d<;>unfold pC<;>omega
      rw[h1];omega
     have q5:∀o,U (W6.alloc o) K.pm 7 (.slice va Mi.vals.length vc):=fun o=>(Oo (w:=W6) (Below.heap_alloc _ _ _ k2)).trans c7
     have q4:∀o,Y (W6.alloc o) K.pm 7:=fun o=>(Qm (w:=W6) (Below.heap_alloc _ _ _ k2)).trans f7
     have t5:K.B<=W6.heap.size:=m.out.2.1.1.size;obtain⟨ij,g2,c1,c0,b9⟩:=info_parts Try.info_int;have HP:=Ja f2;clear u e5 h64 f2 l4 b3 c5 f5 f1 h7
     go_region_law (first|(refine step_append_lies _ (by rfl) (.tmp 97) (.tmp 109) _ (by rfl) K.B 3 ij (I 0) 1 8 Try.underlying25 g2 c1 c0 b9 rfl Zo (.slice va Mi.vals.length vc) Mi.vals.length (Mi.vals.map zN) (by rfl) ((o1.out.alloc _).drew) ⟨W6.heap.size,0,none⟩ 1 1 [I (M2.next:Int)] (by rfl) (by rfl) (Oi (cs:=#[I (M2.next:Int)]) (t:=3) (fr:=(0,0)) (heap_alloc_new W6 _)) (by simp[Value.oneCell']) Zo (by unfold maxLen;omega) Zo Zt (W6.heap.size+1) Zs ?_;intro gg n9 w3 k0 a0 d4 s4;have t8:=(a0.cell_far ⟨K.pm,7,none⟩ Zt (Ne.symm nb)).trans (q5 _);have t7:=(a0.frozen_far ⟨K.pm,7,none⟩ Zt (Ne.symm nb)).trans (q4 _)))
     all_goals go_wp2_with fail
     all_goals (first|go_end0|refine bodyPost_ret (results_none rfl _ _ _) rfl ?_)
     all_goals (
      have a4:=xN a0;rw[<-q6.out] at a4 d4
      have hP:=m.out.2.1.1.putV (vv':=N gg (Mi.vals.length+1) n9) (x:=(M2.next:Int)) a4 k0 (fun k e=>by
       have e2:gg=k:=by simpa[Value.ownBlock] using e
       subst e2;rcases d4 with e3|e3
       ·exact .inl e3
       ·right;omega) r5.out (by
       have h1:=a1.out.gr.sz;have h2:=H5.out.2.2.2.2.1;have h3:=H5.out.2.2.2.2.2;have h4:=HZ.out.1
       show Mi.sz+1<=1000000
       omega)
      refine⟨rfl,_,?_,(H5.out.1.trans m.out.1).trans (m.out.2.1.2.trans hP.2)⟩
      have e:xi K.E (zp K.E d) i M= {Mi with cur:=jn,vals:=Mi.vals++ [(M2.next:Int)]}:=by
       unfold xi;simp only;rw[H1.out.2.2,HX.out.2,H2.out.2.2.2.1,H2.out.2.2.2.2.1,H2.out.2.2.2.2.2.1,d8.out.1,H5.out.2.2.1,m.out.2.2.2.2];have e0:Mi.f.getD jn ⟨[],[],⟨0,0,[]⟩⟩=bj:=by rw[Jj,m.out.2.2.1];rfl
       show({Mi with cur:=jn,vals:=Mi.vals++ [((Mi.f.getD jn ⟨[],[],⟨0,0,[]⟩⟩).params).getD 0 0]}:MS)=_
       rw[e0,m.out.2.2.2.1];rfl
      rw[e]
      exact hP.1.at)
theorem iQ {α:Type}{x a b:α}(h:x∈ [a,b]):x=a∨x=b:=by simpa using h
theorem jq {a b:Int}(c:I64 a)(hb:I64 b):∀x∈ [a,b],I64 x:=fun x h=>by
 rcases iQ h with rfl|rfl
 ·exact c
 ·exact hb
theorem lit_two{x y:Int}(d:I64 x)(c:I64 y)(X:Nat->Prop)(g:∀k,X k->k<w.heap.size):
 vT (w.alloc (A #[I x,F,I y,F] 93)) X (N w.heap.size 2 2) [⟨x,[]⟩,⟨y,[]⟩]:=by
 refine qt (l:=[((⟨x,[]⟩:IEdge),F),((⟨y,[]⟩:IEdge),F)]) (e:=93) (zI Zs) (fun e=>by have:=g _ e;omega) (fun q hq=>?_) Zs;rcases iQ hq with rfl|rfl
 ·exact⟨d,yE.nil⟩
 ·exact⟨c,yE.nil⟩
theorem OpSt.goto(h:OpSt w0 K X0 M0 c w M)(k:Nat)(hk:k<M.f.length):OpSt w0 K X0 M0 c (w.setCell ⟨K.pm,5,none⟩ (I k)) {M with cur:=k }:=by
 obtain⟨X,⟨fv,vv,l,hi⟩,hs⟩:=h.made;exact⟨⟨X,(hi.goto k).1.at,hs.trans (hi.goto k).2⟩,h.gr.trans (vk M k hk),hk⟩
theorem OpSt.facts(h:OpSt w0 K X0 M0 c w M):∃X fv vv l,MkIn w K X M fv vv l/\Stp X0 w0 X w:=by
 obtain⟨X,⟨fv,vv,l,hi⟩,hs⟩:=h.made;exact⟨X,fv,vv,l,hi,hs⟩
theorem OpSt.push(h:OpSt w0 K X0 M0 c w M)(x:Int)(d:∃X',wW w' K X' {M with vals:=M.vals++ [x]}/\Stp X0 w0 X' w'):OpSt w0 K X0 M0 (c+1) w' {M with vals:=M.vals++ [x]}:=by
 refine⟨d,h.gr.trans ⟨Je _,?_,Je _,Je _,Qb _ _,fun e=>e,Og _,fun e=>e,xU.refl _⟩,h.cur⟩;unfold MS.sz;simp only[Jk,Ju];omega
theorem loop_any(hd:d<=5)(hP:sU d)(h:wW w K X M)(g2:M.cur<M.f.length)(hz:M.sz+(24+pC d)<=1000000):
 T 72 #[L K.pm,I ((d:Int)+1)] w (yk K X w (tH K.E (zp K.E d) M) (.tuple #[])):=by
 have HA:=Ja (OpSt.start h g2);have q:=Ja (Jb hz hP);clear h g2 hz hP;go_enter Try.func72,Try.ntmps72;go_upto_region 1 with(first|(go_at_call 55;go_must (refine(HA.out.take 5 Zd Zd (by have:=q.out.1;omega)).mono ?_;rintro e w1 ⟨z,qz,Hz,rfl,k0⟩))|(go_at_call 73;go_must (refine(k0.out.num z Zo (by have:=q.out.1;omega)).mono ?_;rintro e w2 ⟨rfl,i8⟩)))
 generalize f8:((M.tick.next:Nat):Int)=n0 at *;have f3:I64 n0:=by rw[<-f8];exact k0.out.n64
 have HN:=Ja (Jb f8 (Jb f3 Hz.out));obtain⟨MA,g5⟩:∃MA,M.tick.num z=MA:=⟨_,rfl⟩
 rw[g5] at i8;have r3:=Ja g5;clear g5 f8 f3 k0 HA;go_upto_region 2 with(go_at_call 58;go_must (refine(i8.out.any (by have:=q.out.1;omega)).mono ?_;rintro e w3 ⟨x,HX,rfl,b5⟩))
 obtain⟨MB,g4⟩:∃MB,(zJ K.E MA).2=MB:=⟨_,rfl⟩
 rw[g4] at b5;obtain⟨tg,b9⟩:∃tg,MB.f.length=tg:=⟨_,rfl⟩
 obtain⟨b1,n5⟩:∃b1,tg+1=b1:=⟨_,rfl⟩
 obtain⟨b2,m5⟩:∃b2,tg+2=b2:=⟨_,rfl⟩
 have h7:=b5.out.block 2 (by have:=q.out.1;omega);rw[b9] at h7;have l1:=b5.out.flen;rw[b9] at l1;have p0:=Ja h7;have l:=Ja (Jb g4 (Jb b9 (Jb n5 m5)));clear h7 g4 b9 n5 m5 i8;go_upto_region 3 with(go_at_call 56;go_must (refine p0.out.mono ?_;rintro e w4 ⟨rfl,a3⟩))
 have d7:=a3.out.block 0 (by have:=q.out.1;omega);rw[yz,l.out.2.1,l.out.2.2.1] at d7;have o9:=Ja d7;clear d7 p0;go_upto_region 4 with(go_at_call 56;go_must (refine o9.out.mono ?_;rintro e w5 ⟨rfl,o0⟩))
 have h6:=o0.out.block 0 (by have:=q.out.1;omega);rw[yz,yz,l.out.2.1,show tg+1+1=tg+2 from rfl,l.out.2.2.2] at h6;have o6:=Ja h6;clear h6 o9;go_upto_region 5 with(go_at_call 56;go_must (refine o6.out.mono ?_;rintro e w6 ⟨rfl,n9⟩))
 have o5:=Ja (n9.out.endN 1 0 [⟨(tg:Int),[n0,x]⟩] (N (w6.heap.size+1) 1 1) (yF _ rfl) (yF _ rfl) (((Below.refl _ _).alloc (Je _) _).alloc Zs _) (pj (w:=w6) (xs:=[n0,x]) (blk:=(tg:Int)) (jq HN.out.2.1 HX.out.1) Zs (vG _ Zo Zo)));clear o6;go_upto_region 6 with(go_at_call 59;go_must (refine o5.out.mono ?_;rintro e w7 ⟨rfl,i2⟩))
 obtain⟨M2,b4⟩:∃M2,(((MB.block 2).block 0).block 0).endB ⟨1,0,[⟨(tg:Int),[n0,x]⟩]⟩=M2:=⟨_,rfl⟩
 rw[b4] at i2;have a8:M2.f.length=tg+3:=by rw[<-b4,(yf _ _).len,yz,yz,yz,l.out.2.1]
 have f1:∃b,M2.f[tg]? =some b/\b.params=[((MB.next:Nat):Int),((MB.next+1:Nat):Int)]:=by
  have h0:(MB.block 2).f[tg]? =some (wJ MB.next 2):=by
   show(MB.f++ [wJ MB.next 2])[tg]? =_
   rw[Nc (by have:=l.out.2.1;omega),l.out.2.1,Qy];rfl
  obtain⟨c1,k1,k2⟩:=(xM (MB.block 2) 0).par _ _ h0;obtain⟨c2,k3,k4⟩:=(xM ((MB.block 2).block 0) 0).par _ _ k1;obtain⟨c3,k5,k6⟩:=(yf (((MB.block 2).block 0).block 0) ⟨1,0,[⟨(tg:Int),[n0,x]⟩]⟩).par _ _ k3;rw[b4] at k5;exact⟨c3,k5,k6.trans (k4.trans (k2.trans rfl))⟩
 obtain⟨X7,t5,vv7,l7,d0,q9⟩:=i2.out.facts;have r6:=lt_of_block d0.blk;have c5:=d0.c5;have f5:=d0.free 5;have u:=i2.out.goto tg (by rw[a8];omega);have q1:=b5.out.next;have d2:=b5.out.n64;have d1:I64 ((MB.next+1:Nat):Int):=vG _ Zo (by have:=a3.out.next;show((MB.next+1:Nat):Int)<=1000000;have e:(MB.block 2).next=MB.next+2:=rfl;rw[e] at this;omega);have H2:=Ja (Jb b4 (Jb a8 (Jb u (Jb f1 (Jb d2 d1)))));clear b4 a8 f1 d0 q9 u q1 d2 d1 o5 a3 o0 n9;go_upto_region 7 with fail;generalize t2:w7.setCell ⟨K.pm,5,none⟩ (I tg)=W8 at *;obtain⟨M3,d6⟩:∃M3:MS,{M2 with cur:=tg }=M3:=⟨_,rfl⟩
 have H3:=H2.out.2.2.1;rw[d6] at H3;obtain⟨bk,g3,m4⟩:=H2.out.2.2.2.1;obtain⟨X8,t4,vv8,l8,j,l2⟩:=H3.facts;have g1:M3.f=M2.f:=by rw[<-d6]
 obtain⟨g,c,pa,pc,m2,s8,m3,c0⟩:=j.parAt (i:=tg) (b:=bk) (by rw[g1];exact g3);rw[m4] at m3 c0;obtain⟨bb,o,l3,s9,a0,_⟩:=c0 0 _ rfl;obtain⟨bb2,o2,f2,_,b3,_⟩:=c0 1 _ rfl;rw[l3] at f2;cases f2;rw[Uk] at a0;obtain⟨va,vc,e5⟩:=zG j.vown;have a6:=j.vown;have c4:=j.c4;have c7:=j.c7;have f7:=j.free 7;have e1:=lt_of_block j.blk;have s7:tg<l8.length:=by rw[j.len,g1];exact(Jh.1 g3).1
 have r0:=j.flen;rw[<-j.len] at r0;have nb:=zC a6 j.blk (.inr Zd);rw[e5] at a6 c7 nb;rw[m2] at c4;subst l3;generalize f6:((MB.next:Nat):Int)=n1 at a0;generalize f4:((MB.next+1:Nat):Int)=n2 at b3;have q3:=Ja a6;have r2:=Ja e5
 have s5:M3.vals.length<=999999:=by
  have h1:=j.bnd;have h2:M3.vals.length<=M3.sz:=by unfold MS.sz;omega
  have h3:=H3.gr.sz;have h4:=q.out.1;omega
 have n8:∀o,U (W8.alloc o) K.pm 7 (.slice va M3.vals.length vc):=fun o=>(Oo (w:=W8) (Below.heap_alloc _ _ _ e1)).trans c7
 have n7:∀o,Y (W8.alloc o) K.pm 7:=fun o=>(Qm (w:=W8) (Below.heap_alloc _ _ _ e1)).trans f7
 have d7:K.B<=W8.heap.size:=j.size;obtain⟨ij,r1,p4,p3,p1⟩:=info_parts Try.info_int;have e8:I64 n2:=by rw[<-f4];exact H2.out.2.2.2.2.2
 have b8:I64 n1:=by rw[<-f6];exact H2.out.2.2.2.2.1
 have HP:=Ja (Jb d6 (Jb H3 (Jb j (Jb l2 (Jb f6 (Jb f4 (Jb b8 e8)))))));clear a6 e5 c0 m2 d6 H3 j l2 f6 f4 e8 b8 g3 m4 g1;go_upto_region 8 with fail
 go_cut [] (fun wx=>Hid (OpSt w K X M (1+3+4+(1+2)+(1+0)+(1+0)+1) wx {M3 with vals:=M3.vals++ [n2]}))
 case first=>
  go_region_law (first|(refine step_append_lies _ (by rfl) (.tmp 54) (.tmp 66) _ (by rfl) K.B 3 ij (I 0) 1 8 Try.underlying25 r1 p4 p3 p1 rfl Zo (.slice va M3.vals.length vc) M3.vals.length (M3.vals.map zN) (by rfl) ((q3.out.alloc _).drew) ⟨W8.heap.size,0,none⟩ 1 1 [I n2] (by rfl) (by rfl) (Oi (cs:=#[I n2]) (t:=3) (fr:=(0,0)) (heap_alloc_new W8 _)) (by simp[Value.oneCell']) Zo (by unfold maxLen;omega) Zo Zt (W8.heap.size+1) Zs ?_;intro gg q2 w3 l0 a9 n6 s0;have t7:=(a9.cell_far ⟨K.pm,7,none⟩ Zt (Ne.symm nb)).trans (n8 _);have t6:=(a9.frozen_far ⟨K.pm,7,none⟩ Zt (Ne.symm nb)).trans (n7 _)))
  all_goals go_wp2_with fail
  all_goals go_meet
  all_goals (
   have m1:=xN a9;rw[<-r2.out] at m1 n6
   have hP:=HP.out.2.2.1.putV (vv':=N gg (M3.vals.length+1) q2) (x:=n2) m1 l0 (fun k e=>by
    have e2:gg=k:=by simpa[Value.ownBlock] using e
    subst e2;rcases n6 with e3|e3
    ·exact .inl e3
    ·right;omega) HP.out.2.2.2.2.2.2.2 (by
    have h3:=HP.out.2.1.gr.sz;have h4:=q.out.1
    omega)
   exact Ja (HP.out.2.1.push n2 ⟨_,hP.1.at,HP.out.2.2.2.1.trans hP.2⟩))
 case rest=>
 obtain⟨M4,d5⟩:∃M4:MS,{M3 with vals:=M3.vals++ [n2]}=M4:=⟨_,rfl⟩
 rw[d5] at hcut;have c9:M4.f.length=tg+3:=by rw[<-d5,<-HP.out.1];exact H2.out.2.1
 have b6:I64 (b1:Int)/\I64 (b2:Int):=by
  have h1:=l.out.2.2.1;have h2:=l.out.2.2.2;exact⟨vG _ Zo (by have:=hcut.out.flen;omega),vG _ Zo (by have:=hcut.out.flen;omega)⟩
 have o4:=Ja (hcut.out.endN 2 n1 [⟨(b1:Int),[]⟩,⟨(b2:Int),[]⟩] (N wc.heap.size 2 2) (yF _ rfl) HP.out.2.2.2.2.2.2.1 ((Below.refl _ _).alloc (Je _) _) (lit_two b6.1 b6.2));have a3:=Ja (Jb d5 c9);clear d5 c9 b6 c4 c7 f7 n8 n7 nb e1 a0 b3 m3;go_upto_region 10 with(go_at_call 59;go_must (refine o4.out.mono ?_;rintro e w9 ⟨rfl,i1⟩))
 obtain⟨M5,d4⟩:∃M5,M4.endB ⟨2,n1,[⟨(b1:Int),[]⟩,⟨(b2:Int),[]⟩]⟩=M5:=⟨_,rfl⟩
 rw[d4] at i1;have c8:M5.f.length=tg+3:=by rw[<-d4,(yf _ _).len];exact a3.out.2
 obtain⟨X9,t3,vv9,l9,a1,q7⟩:=i1.out.facts;obtain⟨va9,vc9,e4⟩:=zG a1.vown;have c7:=a1.c7;rw[e4] at c7;have p5:=lt_of_block a1.blk;have c5:=a1.c5;have f5:=a1.free 5;have u:=i1.out.goto b1 (by have:=l.out.2.2.1;omega);have H5:=Ja (Jb d4 (Jb c8 u));clear d4 c8 a1 q7 e4 u o4;go_upto_region 12 with fail;generalize q0:w9.setCell ⟨K.pm,5,none⟩ (I b1)=W10 at *;obtain⟨M6,h5⟩:∃M6:MS,{M5 with cur:=b1 }=M6:=⟨_,rfl⟩
 have h9:=H5.out.2.2;rw[h5] at h9;have h8:=Ja (Jb (h9.part q.out.2 (by have:=q.out.1;omega)) h5);have q6:IntKind.i64.wrap ((d:Int)+1-1)=(d:Int):=by rw[Om _ Zo];omega
 clear h5 h9 q0 c5 f5 c7 p5;go_upto_region 13 with(go_at_call 57;go_must (refine h8.out.1.mono ?_;rintro e w11 ⟨rfl,b0⟩))
 clear q6;obtain⟨M7,g8⟩:∃M7,zp K.E d M6=M7:=⟨_,rfl⟩
 rw[g8] at b0;have i0:=Ja (b0.out.num 1 Zo (by have:=q.out.1;omega));have h64:=b0.out.n64;generalize l5:((M7.next:Nat):Int)=n3 at i0 h64;have e0:=Ja (Jb g8 (Jb l5 h64));clear g8 l5 h64;go_upto_region 14 with(go_at_call 73;go_must (refine i0.out.mono ?_;rintro e w12 ⟨rfl,b7⟩))
 have a4:=b7.out.emit 6 n1 n3 0 (yF _ rfl) HP.out.2.2.2.2.2.2.1 e0.out.2.2 Zo (by have:=q.out.1;omega);have e6:sB (M7.num 1) 6=((M7.next+1:Nat):Int):=rfl;rw[e6] at a4;have d8:=b7.out.n64;have e7:(M7.num 1).next=M7.next+1:=rfl;rw[e7] at d8;generalize l4:((M7.next+1:Nat):Int)=n4 at a4 d8;have a4:=Ja a4;have o3:=Ja (Jb l4 d8);clear l4 d8 e6 e7 i0 b0;go_upto_region 15 with(go_at_call 83;go_must (refine a4.out.mono ?_;rintro e w13 ⟨rfl,j2⟩))
 obtain⟨M8,g6⟩:∃M8,(M7.num 1).emit ⟨6,0,n1,n3,0,[]⟩=M8:=⟨_,rfl⟩
 rw[g6] at j2;have o1:=Ja g6;clear g6 a4 b7;have q5:=Ja (j2.out.any (by have:=q.out.1;omega));go_upto_region 16 with(first|(go_at_call 58;go_must (refine q5.out.mono ?_;rintro e w14 ⟨y,HY,rfl,q4⟩;have r4:=Ja (q4.out.endN 1 0 [⟨(tg:Int),[n4,y]⟩] (N (w14.heap.size+1) 1 1) (yF _ rfl) (yF _ rfl) (((Below.refl _ _).alloc (Je _) _).alloc Zs _) (pj (w:=w14) (xs:=[n4,y]) (blk:=(tg:Int)) (jq o3.out.2 HY.out.1) Zs (vG _ Zo Zo)))))|(go_at_call 59;go_must (refine r4.out.mono ?_;rintro e w15 ⟨rfl,j1⟩)))
 obtain⟨M9,d3⟩:∃M9,(zJ K.E M8).2.endB ⟨1,0,[⟨(tg:Int),[n4,y]⟩]⟩=M9:=⟨_,rfl⟩
 rw[d3] at j1;obtain⟨X15,s3,vv15,s4,m,f0⟩:=j1.out.facts;obtain⟨va15,vc15,k7⟩:=zG m.vown;subst k7;have c7:=m.c7;have f7:=m.free 7;have k9:=lt_of_block m.blk
 have g0:GrowP (0+pC d+3+3+4) M5 M9:=by
  have hE:=m.at.alt;have h1:=(vk M5 b1 (by have h1:=l.out.2.2.1;have h2:=H5.out.2.1;omega))
  rw[h8.out.2] at h1;have h2:=h1.trans (xw K.E hE d M6);rw[e0.out.1] at h2;have h3:=(h2.trans (wT M7 1).p).trans (yB (M7.num 1) ⟨6,0,n1,n3,0,[]⟩).p;rw[o1.out] at h3;have h4:=(h3.trans (yU K.E M8).p).trans (yf (zJ K.E M8).2 ⟨1,0,[⟨(tg:Int),[n4,y]⟩]⟩).p;rw[d3] at h4;exact h4
 have f9:M5.vals.length<=M9.vals.length:=dO g0.pre;have s6:M5.vals.length<=vc15:=Jn f9 (zm m.vown).1;have s1:vc15<=9223372036854775807:=by have:=(zm m.vown).2;omega
 have a2:=m.cut f9;have c5:=a2.1.c5;have f5:=a2.1.free 5;have u:=a2.1.goto b2;have a5:=Ja (Jb a2.1 (Jb a2.2 (Jb u (Jb f0 (Jb d3 g0)))));clear m f9 a2 f0 d3 g0 u;go_upto_region 17 with fail;generalize s2:w15.setCell ⟨K.pm,7,none⟩ (.slice va15 M5.vals.length vc15)=W16 at *;have r5:=lt_of_block a5.out.1.blk;clear c7 f7 k9;go_wp2
 first|go_end0|refine bodyPost_ret (results_none rfl _ _ _) rfl ?_
 refine⟨rfl,X15,?_,(a5.out.2.2.2.1.trans a5.out.2.1).trans a5.out.2.2.1.2⟩
 have e:tH K.E (zp K.E d) M= {M9 with vals:=M9.vals.take M5.vals.length,cur:=b2 }:=by
  unfold tH;simp only;have k1:((M.next:Nat):Int)=n0:=HN.out.1;have k4:({M2 with cur:=tg,vals:=M2.vals++ [n2]}:MS)=M4:=by rw[<-a3.out.1,<-HP.out.1]
  rw[HN.out.2.2,r3.out,HX.out.2,l.out.1,l.out.2.1,k1,H2.out.1,HP.out.2.2.2.2.2.1,k4,HP.out.2.2.2.2.1,l.out.2.2.1,l.out.2.2.2,H5.out.1,h8.out.2,e0.out.1,e0.out.2.1,o3.out.1,o1.out,HY.out.2,a5.out.2.2.2.2.1]
 rw[e];exact a5.out.2.2.1.1.at
theorem OpSt.op(h:OpSt w0 K X0 M0 c w M)(i:M0.sz+(c+20)<=1000000):
 T 70 #[L K.pm] w fun e w'=>e=.returned (.tuple #[])/\Hid (OpSt w0 K X0 M0 (c+20) w' (xK K.E M)):=by
 obtain⟨X,hm,hs⟩:=h.made;refine(op_any hm h.cur (by have:=h.gr.sz;omega)).mono ?_;rintro e w' ⟨rfl,X',g,d⟩;have hg:=pX K.E hm.alt M;exact⟨rfl,Ja ⟨⟨X',g,hs.trans d⟩,h.gr.trans hg.p,by rw[hg.cur,hg.len];exact h.cur⟩⟩
theorem OpSt.mono{c':Nat}(h:OpSt w0 K X0 M0 c w M)(d:c<=c'):OpSt w0 K X0 M0 c' w M:=⟨h.made,h.gr.mono d,h.cur⟩
theorem sU.of(h:∀(w:World) (K:MKC) (X:Nat->Prop) (M:MS),OpSt w K X M 0 w M->M.sz+pC d<=1000000->T 57 #[L K.pm,I d] w (yk K X w (zp K.E d M) (.tuple #[]))):sU d:=
 fun w K X M hm hc hz=>h w K X M (OpSt.start hm hc) hz
theorem OpSt.choice(h:OpSt w0 K X0 M0 c w M)(m:d<=5)(o:sU d)(n:Nat)(nI:Int)(j:(n:Int)=nI)(k:2<=n)(g:n<=4)(q:M0.sz+(c+(31+4*pC d))<=1000000):
 T 71 #[L K.pm,I ((d:Int)+1),I nI] w fun e w'=>e=.returned (.tuple #[])/\Hid (OpSt w0 K X0 M0 (c+(31+4*pC d)) w' (xi K.E (zp K.E d) n M)):=by
 obtain⟨X,hm,hs⟩:=h.made;rw[<-j];refine(lH m o hm h.cur k g (by have:=h.gr.sz;omega)).mono ?_;rintro e w' ⟨rfl,X',l,i⟩;have hg:=uU K.E _ _ (xw K.E hm.alt d) n g M;exact⟨rfl,Ja ⟨⟨X',l,hs.trans i⟩,h.gr.trans hg,hg.cur h.cur⟩⟩
theorem OpSt.loop(h:OpSt w0 K X0 M0 c w M)(j:d<=5)(k:sU d)(l:M0.sz+(c+(24+pC d))<=1000000):
 T 72 #[L K.pm,I ((d:Int)+1)] w fun e w'=>e=.returned (.tuple #[])/\Hid (OpSt w0 K X0 M0 (c+(24+pC d)) w' (tH K.E (zp K.E d) M)):=by
 obtain⟨X,hm,hs⟩:=h.made;refine(loop_any j k hm h.cur (by have:=h.gr.sz;omega)).mono ?_;rintro e w' ⟨rfl,X',i,g⟩;have hg:=qg K.E _ _ (xw K.E hm.alt d) M;exact⟨rfl,Ja ⟨⟨X',i,hs.trans g⟩,h.gr.trans hg,hg.cur h.cur⟩⟩
theorem OpSt.counted(h:OpSt w0 K X0 M0 c w M)(hp:M0.pos<M.pos)(hl:M.left=M0.left)(j:6<=M0.left+M0.pos):OpSt w0 K X0 M0 c (w.setCell ⟨K.pm,8,none⟩ (I (M.left-1))) {M with left:=M.left-1 }:=by
 obtain⟨X,⟨fv,vv,l,hi⟩,hs⟩:=h.made;have i:6<=(M.left-1)+(M.pos:Int):=Zo;have d:=hi.setC 8 (I (M.left-1)) {M with left:=M.left-1 } vv rfl rfl hi.vown hi.v64 hi.xv hi.bnd ⟨i,by have:=hi.lft;show M.left-1<=6;omega⟩;have g:=h.gr;exact⟨⟨X,d.1.at,hs.trans d.2⟩,⟨g.pos,g.sz,g.len,g.nxt,g.pre,g.cur,by have:=g.left;show M.left-1<=_;omega,fun _=>i,g.par⟩,h.cur⟩
theorem km:sU 0:=sU.of fun w K X M h hz=>by
 have d:=Ja (Jb h hz);clear h hz
 show T 57 #[L K.pm,I 0] w _
 go_enter Try.func57,Try.ntmps57;go_wp2_with (go_at_call 55;go_must (refine(d.out.1.take 5 Zd Zd (by have:=d.out.2;unfold pC at this;omega)).mono ?_;rintro e w1 ⟨t,ht,o,rfl,m⟩))
 go_loopw [4] (fun kv wx=>∃(kI:Int) (Mj:MS),-1<=kI/\kI<=(t:Int)/\kv=I kI/\Hid (OpSt w K X M (1+20*((t:Int)-kI).toNat) wx Mj/\qY K.E (t+1) M.tick=qY K.E (kI+1).toNat Mj/\Mj.left=M.left/\M.pos<Mj.pos)) (fun kv _=>(intOf kv+1).toNat)
 case atStart=>exact⟨_,_,by omega,by omega,rfl,Ja ⟨m.out.mono Zo,by congr 1,rfl,Nat.lt_succ_self _⟩⟩
 case round=>
  obtain⟨kI,Mj,a2,a1,rfl,c⟩:=hrel
  by_cases h0:0<=kI
  ·have q:=Ja (c.out.1.op (by have:=d.out.2;unfold pC at this;omega));go_wp2_with (go_at_call 70;go_must (refine q.out.mono ?_;rintro e w2 ⟨rfl,k⟩))
   go_roundw
   case rel=>
    have hg:=pX K.E (by obtain⟨X',hm,_⟩:=c.out.1.made;exact hm.alt) Mj;refine⟨kI-1,_,by omega,by omega,rfl,Ja ⟨k.out.mono Zo,?_,hg.left.trans c.out.2.2.1,Jy c.out.2.2.2 hg.pos⟩⟩;rw[c.out.2.1,show(kI+1).toNat=(kI-1+1).toNat+1 by omega];rfl
   case measure=>simp[intOf];omega
  ·obtain rfl:kI=-1:=by omega
   obtain⟨X',fv,vv,l,hi,hs⟩:=c.out.1.facts
   have g:6<=M.left+M.pos:=by
    obtain⟨_,_,_,_,j,_⟩:=d.out.1.facts;exact j.lft.1
   have i:=c.out.1.counted c.out.2.2.2 c.out.2.2.1 g;have c8:=hi.c8;have f8:=hi.free 8;have y:=lt_of_block hi.blk;have a0:=hi.lft;have a3:(Mj.pos:Int)<=1000000:=by have:=hi.bnd;unfold MS.sz at this;omega
   have x:IntKind.i64.wrap (Mj.left-1)=Mj.left-1:=Om _ Zo;have u:=Ja i;clear hi hs i g;go_wp2
   first|go_end0|refine bodyPost_ret (results_none rfl _ _ _) rfl ?_
   have e:zp K.E 0 M= {Mj with left:=Mj.left-1 }:=by
    show tR K.E M=_
    unfold tR;simp only;rw[o.out,c.out.2.1];rfl
   rw[e];exact u.out.ret
theorem jB(hd:d<=5)(hP:sU d):sU (d+1):=sU.of fun w K X M h hz=>by
 have a1:pC (d+1)=134+4*pC d:=rfl;rw[a1] at hz;have i:=Ja (Jb h hz);have y:=Ja hP;clear h hz hP a1;have c1:¬((d:Int)+1<1):=Zo;have c2:decide ((d:Int)+1<1)=false:=by rw[decide_eq_false_iff_not];omega
 rw[show((d+1:Nat):Int)=(d:Int)+1 from Int.natCast_succ d];go_enter Try.func57,Try.ntmps57;go_wp2_with (go_at_call 55;go_must (refine(i.out.1.take 5 Zd Zd (by have:=i.out.2;omega)).mono ?_;rintro e w1 ⟨t,ht,HT,rfl,b6⟩))
 go_loopw [4] (fun kv wx=>∃(kI:Int) (Mj:MS),-1<=kI/\kI<=(t:Int)/\kv=I kI/\Hid (OpSt w K X M (1+20*((t:Int)-kI).toNat) wx Mj/\qY K.E (t+1) M.tick=qY K.E (kI+1).toNat Mj/\Mj.left=M.left/\M.pos<Mj.pos)) (fun kv _=>(intOf kv+1).toNat)
 case atStart=>exact⟨_,_,by omega,by omega,rfl,Ja ⟨b6.out.mono Zo,by congr 1,rfl,Nat.lt_succ_self _⟩⟩
 case round=>
  obtain⟨kI,Mj,c0,b9,rfl,m⟩:=hrel
  by_cases h0:0<=kI
  ·have HO:=Ja (m.out.1.op (by have:=i.out.2;omega));go_wp2_with (go_at_call 70;go_must (refine HO.out.mono ?_;rintro e w2 ⟨rfl,b5⟩))
   go_roundw
   case rel=>
    have hg:=pX K.E (by obtain⟨X',hm,_⟩:=m.out.1.made;exact hm.alt) Mj;refine⟨kI-1,_,by omega,by omega,rfl,Ja ⟨b5.out.mono Zo,?_,hg.left.trans m.out.2.2.1,Jy m.out.2.2.2 hg.pos⟩⟩;rw[m.out.2.1,show(kI+1).toNat=(kI-1+1).toNat+1 by omega];rfl
   case measure=>simp[intOf];omega
  ·obtain rfl:kI=-1:=by omega
   obtain⟨X',fv,vv,l,hi,hs⟩:=m.out.1.facts
   have a5:6<=M.left+M.pos:=by
    obtain⟨_,_,_,_,a9,_⟩:=i.out.1.facts;exact a9.lft.1
   have a0:=m.out.1.counted m.out.2.2.2 m.out.2.2.1 a5;have c8:=hi.c8;have f8:=hi.free 8;have b8:=lt_of_block hi.blk;have a8:=hi.lft;have b0:(Mj.pos:Int)<=1000000:=by have:=hi.bnd;unfold MS.sz at this;omega
   have a6:IntKind.i64.wrap (Mj.left-1)=Mj.left-1:=Om _ Zo;obtain⟨M2,u⟩:∃M2:MS,{Mj with left:=Mj.left-1 }=M2:=⟨_,rfl⟩
   rw[u] at a0
   have e2:tR K.E M=M2:=by
    rw[<-u];unfold tR;simp only;rw[HT.out,m.out.2.1];rfl
   have c3:=World.cell?_setCell_same _ _ (I (Mj.left-1)) c8;have a4:Mj.left-1=M2.left:=by rw[<-u]
   have o:=Ja (Jb (a0.mono (show 1+20*((t:Int) - -1).toNat<=101 by omega)) (Jb e2 a4));clear hi hs a0 a5 u e2 a4;go_upto_region 5 with fail;generalize b1:wr.setCell ⟨K.pm,8,none⟩ (I (Mj.left-1))=W2 at *;generalize hL:Mj.left-1=L at *;clear c8 f8 a6 a8 b0 b1 hL m
   by_cases x:L<1
   ·have b2:decide (L<1)=true:=by rw[decide_eq_true_iff];exact x
    go_wp2
    first|go_end0|refine bodyPost_ret (results_none rfl _ _ _) rfl ?_
    have e:zp K.E (d+1) M=M2:=by
     unfold zp;simp only;rw[o.out.2.1,if_pos (by rw[<-o.out.2.2];exact x)]
    rw[e];exact o.out.1.ret
   ·have b2:decide (L<1)=false:=by rw[decide_eq_false_iff_not];exact x
    have a3:zp K.E (d+1) M=if tkV K.E M2 5=1∨tkV K.E M2 5=2 then xi K.E (zp K.E d) 2 M2.tick else if tkV K.E M2 5=3 then tH K.E (zp K.E d) M2.tick else if tkV K.E M2 5=4 then xi K.E (zp K.E d) (2+tkV K.E M2.tick 3) M2.tick.tick else M2.tick:=by
     conv=>lhs;unfold zp
     simp only;rw[o.out.2.1,if_neg (by rw[<-o.out.2.2];exact x)]
    have q:=Ja a3;clear a3;have a2:=aaE K.E M2 (n:=5) Zo;obtain⟨k,hk⟩:∃k,tkV K.E M2 5=k:=⟨_,rfl⟩
    rw[hk] at a2;have c:=Ja hk;clear hk
    match k,a2,c with
    |0,_,c=>
     go_wp2_with (go_at_call 55;go_must (refine(o.out.1.takeK 5 0 0 rfl c.out Zd Zd (by have:=i.out.2;omega)).mono ?_;rintro e w3 ⟨rfl,g⟩))
     first|go_end0|refine bodyPost_ret (results_none rfl _ _ _) rfl ?_
     rw[q.out,c.out]
     exact g.out.ret
    |1,_,c=>
     go_wp2_with (first|(go_at_call 55;go_must (refine(o.out.1.takeK 5 1 1 rfl c.out Zd Zd (by have:=i.out.2;omega)).mono ?_;rintro e w3 ⟨rfl,g⟩))|(go_at_call 71;go_must (refine(g.out.choice hd y.out 2 2 rfl Zd Zd (by have:=i.out.2;omega)).mono ?_;rintro e w4 ⟨rfl,j⟩)))
     first|go_end0|refine bodyPost_ret (results_none rfl _ _ _) rfl ?_
     rw[q.out,c.out]
     exact j.out.ret
    |2,_,c=>
     go_wp2_with (first|(go_at_call 55;go_must (refine(o.out.1.takeK 5 2 2 rfl c.out Zd Zd (by have:=i.out.2;omega)).mono ?_;rintro e w3 ⟨rfl,g⟩))|(go_at_call 71;go_must (refine(g.out.choice hd y.out 2 2 rfl Zd Zd (by have:=i.out.2;omega)).mono ?_;rintro e w4 ⟨rfl,j⟩)))
     first|go_end0|refine bodyPost_ret (results_none rfl _ _ _) rfl ?_
     rw[q.out,c.out]
     exact j.out.ret
    |3,_,c=>
     go_wp2_with (first|(go_at_call 55;go_must (refine(o.out.1.takeK 5 3 3 rfl c.out Zd Zd (by have:=i.out.2;omega)).mono ?_;rintro e w3 ⟨rfl,g⟩))|(go_at_call 72;go_must (refine(g.out.loop hd y.out (by have:=i.out.2;omega)).mono ?_;rintro e w4 ⟨rfl,j⟩)))
     first|go_end0|refine bodyPost_ret (results_none rfl _ _ _) rfl ?_
     rw[q.out,c.out]
     exact j.out.ret
    |4,_,c=>
     have HG:=Ja o.out.1;go_wp2_with (first|(go_at_call 55;refine(HG.out.takeK 5 4 4 rfl c.out Zd Zd (by have:=i.out.2;omega)).mono ?_;clear HG;rintro e w3 ⟨rfl,g⟩)|(go_at_call 55;refine(g.out.take 3 Zd Zd (by have:=i.out.2;omega)).mono ?_;clear g;rintro e w4 ⟨z,b7,b3,rfl,j⟩)|(go_at_call 71;refine(j.out.choice hd y.out (2+z) (2+(z:Int)) Zo Zo Zo (by have:=i.out.2;omega)).mono ?_;rintro e w5 ⟨rfl,b4⟩))
     first|go_end0|refine bodyPost_ret (results_none rfl _ _ _) rfl ?_
     rw[q.out,c.out,b3.out]
     exact b4.out.ret
    |k+5,h,_=>exact absurd h Zo
theorem pW:∀d,d<=5->sU d
 |0,_=>km
 |d+1,h=>jB Zo (pW d Zo)
def jQ {α:Type}(R:World->(Nat->Prop)->Nat->Nat->α->Prop):Prop:=∀w X Y b q x,(∀k,Y k->X k)->R w X b q x->R w Y b q x
theorem yE.anti{α:Type}{sz:Nat}{R:World->(Nat->Prop)->Nat->Nat->α->Prop}(g:jQ R){Y:Nat->Prop}{v:Value}{xs:List α}(h:yE sz R w X v xs)(c:∀k,Y k->X k):yE sz R w Y v xs:=by
 obtain⟨a,d,rfl,u,t,q⟩:=h;refine⟨a,d,rfl,u,t,fun k x hk=>?_⟩;obtain⟨b,o,m,l,j,i⟩:=q k x hk;exact⟨b,o,m,l,fun e=>j (c _ e),g _ _ _ _ _ _ c i⟩
theorem abf:jQ IntG:=fun w X Y b q x hY h=>h
theorem qd:jQ EdgeG:=fun w X Y b q x hY h=>by
 obtain⟨i,g,av,d,c⟩:=h;exact⟨i,g,av,d,c.anti abf hY⟩
def OpG (w:World)(X:Nat->Prop)(b q:Nat)(x:IOp):Prop:=
 U w b q (I x.code)/\U w b (q+1) (I x.res)/\U w b (q+2) (I x.a)/\U w b (q+3) (I x.b)/\U w b (q+4) (G (x.n:Int))/\
  (I64 x.code/\I64 x.res/\I64 x.a/\I64 x.b/\x.n<65536)/\∃av,U w b (q+5) av/\wm w X av x.args
theorem lu:rP OpG:=fun X w X' w' b q x _ hx hs h=>by
 obtain⟨m,l,k,j,i,g,av,d,c⟩:=h;exact⟨hs.cell m hx,hs.cell l hx,hs.cell k hx,hs.cell j hx,hs.cell i hx,g,av,hs.cell d hx,c.step zn hs⟩
theorem opG_anti:jQ OpG:=fun w X Y b q x hY h=>by
 obtain⟨m,l,k,j,i,g,av,d,c⟩:=h;exact⟨m,l,k,j,i,g,av,d,c.anti abf hY⟩
abbrev OpsG:=yE 6 OpG
def BlkG (w:World)(X:Nat->Prop)(b q:Nat)(x:IBlk):Prop:=
 U w b (q+2) (I x.term.kind)/\U w b (q+3) (I x.term.a)/\(I64 x.term.kind/\I64 x.term.a)/\
  ∃pv ov tv,U w b q pv/\U w b (q+1) ov/\U w b (q+4) tv/\wm w X pv x.params/\OpsG w X ov x.ops/\vT w X tv x.term.to
theorem xq:rP BlkG:=fun X w X' w' b q x _ hx hs h=>by
 obtain⟨o,m,l,pv,ov,tv,k,j,i,g,d,c⟩:=h;exact⟨hs.cell o hx,hs.cell m hx,l,pv,ov,tv,hs.cell k hx,hs.cell j hx,hs.cell i hx,g.step zn hs,d.step lu hs,c.step yq hs⟩
theorem jG:jQ BlkG:=fun w X Y b q x hY h=>by
 obtain⟨o,m,l,pv,ov,tv,k,j,i,g,d,c⟩:=h;exact⟨o,m,l,pv,ov,tv,k,j,i,g.anti abf hY,d.anti opG_anti hY,c.anti qd hY⟩
abbrev pf:=yE 5 BlkG
theorem OpsG.to{v:Value}{xs:List IOp}(h:OpsG w X v xs):mN w w.heap.size v xs:=yE.to h fun _ _ _ h=>by
 obtain⟨m,l,k,j,i,g,av,d,c⟩:=h;exact⟨m,l,k,j,i,g,av,d,wm.to c⟩
theorem pf.to{v:Value}{xs:List IBlk}(h:pf w X v xs):wX w w.heap.size v xs:=yE.to h fun _ _ _ h=>by
 obtain⟨o,m,l,pv,ov,tv,k,j,i,g,d,c⟩:=h;exact⟨o,m,l,pv,ov,tv,k,j,i,wm.to g,OpsG.to d,vT.to c⟩
theorem qv{α β:Type}{sz:Nat}{f:β->List Value}{g:β->α}{R:World->(Nat->Prop)->Nat->Nat->α->Prop}(y:0<sz)(hf:∀a,(f a).length=sz){S:Nat}{e:TypeId}{v:Value}{l:List β}(h:w.ownsRow S e sz v l.length (l.flatMap f))(t:∀k,v.ownBlock=some k->¬X k)
 (x:∀q∈l,∀b o,(∀j u,(f q)[j]? =some u->U w b (o+j) u)->R w X b o (g q)):yE sz R w X v (l.map g):=by
 obtain⟨a,c,rfl⟩:=zG h;have hl:=zm h;refine⟨a,c,by rw[Nr],by rw[Nr];exact hl.1,by omega,fun k o hk=>?_⟩;rw[Jr,Oz] at hk;obtain⟨q,d,rfl⟩:=hk;have i:=(Jh.1 d).1;obtain⟨gg,a0,e,hg,hb⟩:=h.form Zo;cases e;refine⟨gg,0,rfl,hb,t gg rfl,x q (Ji d) _ _ fun j u hj=>?_⟩;have m:j<sz:=by rw[<-hf q];exact(Jh.1 hj).1
 rw[Ng]
 exact(h.cellAt (k*sz+j) (by
  have:(k+1)*sz<=l.length*sz:=Qw sz i;rw[Nat.add_mul] at this
  omega)).trans ((uB f sz hf l k q d j m).trans hj)
theorem mF (q:IOp×Value):(zU q).length=6:=rfl
theorem MkIn.blks{fv:Value}(h:MkIn w K X M fv vv l):pf w (fun k=>k=K.pm∨K.Z k) fv M.f:=by
 have c:∀k,(k=K.pm∨K.Z k)->K.av X k:=fun k e=>e.elim (fun e=> .inl (by rw[e];exact h.xm)) .inr
 rw[h.fl];refine qv Zd yr h.own (fun k e e2=>?_) (fun q hq b o hc=>?_)
 ·rcases e2 with e2|e2
  ·exact zC h.own h.blk (.inr Zd) (by rw[e,e2])
  ·exact h.env.zx k (h.xf k e) e2
 ·have ok:=h.bok q hq;refine⟨hc 2 _ rfl,hc 3 _ rfl,ok.k64,q.pv,q.ov,q.tv,hc 0 _ rfl,hc 1 _ rfl,hc 4 _ rfl,ok.par.anti abf c,?_,ok.tos.anti qd c⟩;rw[ok.ops];refine qv Zd mF ok.own (fun k e e2=>?_) (fun p hp b2 o2 hc2=>?_)
  ·rcases e2 with e2|e2
   ·exact zC ok.own h.blk (.inr Zd) (by rw[e,e2])
   ·exact h.env.zx k (ok.inX k e) e2
  ·have oa:=ok.arg p hp;exact⟨hc2 0 _ rfl,hc2 1 _ rfl,hc2 2 _ rfl,hc2 3 _ rfl,hc2 4 _ rfl,oa.1,p.2,hc2 5 _ rfl,oa.2.anti abf c⟩
theorem MkIn.putVs{fv vv':Value}(h:MkIn w K X M fv vv l)(hg:w.grownBy w3 vv.ownBlock){n:Nat}(u:n=M.vals.length+xs.length)
 (c:w3.ownsRow K.B 3 1 vv' n (M.vals.map zN++xs.map zN)) (o:∀k,vv'.ownBlock=some k->vv.ownBlock=some k∨w.heap.size<=k) (t:∀x∈xs,I64 x) (hz:M.sz+xs.length<=1000000):
 MkIn (w3.setCell ⟨K.pm,7,none⟩ vv') K (fun k=>X k∨vv'.ownBlock=some k) {M with vals:=M.vals++xs } fv vv' l/\Stp X w (fun k=>X k∨vv'.ownBlock=some k) (w3.setCell ⟨K.pm,7,none⟩ vv'):=by
 subst u;have n1:=zC h.vown h.blk (.inr Zd);have i:=zL hg h.blk n1;have m:w.heap.size<=w3.heap.size:=hg.size
 have hk:∀k,k<w.heap.size->k≠K.pm->vv.ownBlock≠some k->(w3.setCell ⟨K.pm,7,none⟩ vv').heap[k]? =w.heap[k]?:=fun k hk hne hv=>
  (Below.heap_setCell w3 ⟨K.pm,7,none⟩ vv' k hne).trans (hg.block k hk (fun e=>hv e.symm))
 have hs:Stp X w (fun k=>X k∨vv'.ownBlock=some k) (w3.setCell ⟨K.pm,7,none⟩ vv'):=
  ⟨hg.os,hg.tape,hg.output,by simpa using m,fun k hx'=>hx'.elim .inl (fun e=>(o k e).elim (fun e2=> .inl (h.xv k e2)) .inr),fun k hk' hxk=>hk k hk' (fun e=>hxk (by rw[e];exact h.xm)) (fun e=>hxk (h.xv k e))⟩
 have g:∀ {v:Value} {e:TypeId} {sz n:Nat} {xs:List Value},w.ownsRow K.B e sz v n xs->e≠3->e≠99->∀k,v.ownBlock=some k->(w3.setCell ⟨K.pm,7,none⟩ vv').heap[k]? =w.heap[k]?:=fun {v e sz n xs} ho h1 h2 k hk'=>by
  refine hk k (ho.lt k hk').2 (fun e3=>zC ho h.blk (.inr h2) (by rw[hk',e3])) (fun e3=>?_);rcases zo ho h.vown h1 with j|j
  ·rw[j] at hk';cases hk'
  ·exact j (by rw[hk',e3])
 refine⟨⟨?_,yD h.own (g h.own Zd Zd),h.fl,fun q hq=>(h.bok q hq).step hs (g (h.bok q hq).own Zd Zd) (fun _ e=> .inl e),h.apart,?_,?_,.inl h.xm,fun k e=> .inl (h.xf k e),fun k e=> .inr e,fun k e=>e.elim (h.xB k) (fun e2=>(c.lt k e2).1),fun k e=>?_,h.env.step hs (hs.below h.xB h.size),?_,h.lft⟩,hs⟩
 ·rw[zD i];rfl
 ·show(w3.setCell ⟨K.pm,7,none⟩ vv').ownsRow K.B 3 1 vv' (M.vals++xs).length ((M.vals++xs).map zN)
  rw[Jk,Js];exact ownsRow_setCell_other c (fun e=>zC c i (.inr Zd) (by simpa using e)) _
 ·intro y d;rcases Jl.1 d with d|d
  ·exact h.v64 y d
  ·exact t y d
 ·rcases e with e|e
  ·have:=h.xl k e;simp;omega
  ·have:=(c.lt k e).2;simpa using this
 ·unfold MS.sz at *;simp only[Jk];omega
structure MDC where
 sv:Value
 apv:Value
 dv:Value
 bv:Value
 pm:Nat
 pp:Nat
 fb:Nat
 rr:Nat
 B:Nat
variable {C:MDC}
def mdK (s:List Int)(C:MDC)(k:Nat):MKC:=⟨xC s k,C.sv,N C.fb (mdN s) (mdN s),C.apv,C.dv,C.bv,C.pm,C.pp,C.B,fun j=>(j=C.fb∨j=C.rr)∨j<C.B⟩
theorem MkEnv.me{s:List Int}(h:MkEnv w (mdK s C j) X)(hk:k<mdN s):MkEnv w (mdK s C k) X:=
 ⟨h.s,h.fpv,h.prog,h.args,h.data,h.ppX,h.h64,h.len,⟨h.nf.1,hk⟩,h.alt,h.zx,h.zl⟩
theorem MkEnv.anti{Y:Nat->Prop}(h:MkEnv w K X)(d:∀k,Y k->X k):MkEnv w K Y:=by
 have c:∀k,K.av Y k->K.av X k:=fun k e=>e.elim (fun e=> .inl (d k e)) .inr
 obtain⟨b,e1,e2,e3⟩:=h.data;exact⟨h.s,h.fpv,h.prog,h.args.anti abf c,⟨b,e1,fun e=>e2 (c _ e),e3⟩,fun e=>h.ppX (c _ e),h.h64,h.len,h.nf,h.alt,fun k e=>h.zx k (d k e),h.zl⟩
theorem MkEnv.stepA(h:MkEnv w K X)(c:Stp (K.av X) w (K.av X) w')(hb:Below K.B w w'):MkEnv w' K X:=by
 obtain⟨b,e1,e2,e3⟩:=h.data;exact⟨h.s.below zO hb,h.fpv,c.blk h.prog h.ppX,h.args.step zn c,⟨b,e1,e2,c.blk e3 e2⟩,h.ppX,h.h64,h.len,h.nf,h.alt,h.zx,fun k e=>Jy (h.zl k e) c.size⟩
structure MdAt (s:List Int) (C:MDC) (w0:World) (k:Nat) (wx:World):Prop where
 env:MkEnv wx (mdK s C 0) (fun j=>j=C.pm)
 mkr:∃(me:Value) (cur:Nat) (fv next vv left:Value),wx.heap[C.pm]? =some (.cells #[C.sv,.int .i64 ((zf s k).2:Int),.pointer (some ⟨C.pp,0,none⟩),me,fv,.int .i64 (cur:Int),next,vv,left] 99 (0,0))
 row:∃hs:List Value,hs.length=mdN s/\wx.heap[C.fb]? =some (.cells hs.toArray 39 (0,0))/\∀(j:Nat) (x:List IBlk),(zf s k).1[j]? =some x->∃v:Value,hs[j]? =some v/\pf wx (fun i=>i=C.pm∨((i=C.fb∨i=C.rr)∨i<C.B)) v x
 bel:Below w0.heap.size w0 wx
 hB:C.B=w0.heap.size
 pmB:C.B<=C.pm
 fbB:C.B<=C.fb
 rrB:C.B<=C.rr
theorem MdAt.start{s:List Int}(h:MdAt s C w0 k wx)(hk:k<mdN s){cur next:Nat}(d:(zf s k).2+1+next<=900000)
 (c:Q W C.pm (uC (mdK s C k) ⟨(zf s k).2+1,[],cur,next,[],6⟩ (F) (F)) 99)
 (hs:Stp (fun j=>j=C.pm) wx (fun j=>j=C.pm) W):MkIn W (mdK s C k) (fun j=>j=C.pm) ⟨(zf s k).2+1,[],cur,next,[],6⟩ (F) (F) []:=
 ⟨c,Jv _ _ _ _,rfl,fun q hq=>by simp at hq,fun i j qi qj k hi=>by simp at hi,Jv _ _ _ _,fun x hx=>by simp at hx,rfl,fun k e=>by simp[Value.ownBlock] at e,fun k e=>by simp[Value.ownBlock] at e,
  fun k e=>by rw[e];exact h.pmB,fun k e=>by rw[e];exact lt_of_block c,(h.env.step hs (hs.below (fun k e=>by rw[e];exact h.pmB) (by show C.B<=_;rw[h.hB];exact h.bel.size))).me hk,by unfold MS.sz;simp[opsN];omega,⟨by show(6:Int)<=6+_;omega,by show(6:Int)<=6;omega⟩⟩
theorem MdAt.done{s:List Int}{W2:World}(h:MdAt s C w0 k wx)(hk:k<mdN s){fv:Value}(hm:MkIn W (mdK s C k) X (xR (xC s k) (zf s k).2) fv vv l)(hs:Stp (fun j=>j=C.pm) wx X W)(w:(zf s k).1.length=k)
 (c:W2.heap.size=W.heap.size/\W2.os=W.os/\W2.tape=W.tape/\W2.output=W.output) (g:∀i,i≠C.fb->W2.heap[i]? =W.heap[i]?) (a2:∀cs:Array Value,Q W C.fb cs 39->Q W2 C.fb (cs.setIfInBounds k fv) 39):MdAt s C w0 (k+1) W2:=by
 obtain⟨row,hrl,o,t⟩:=h.row;have m:¬(C.fb=C.pm):=fun e=>h.env.zx C.pm rfl (.inl (.inl e.symm))
 have a8:¬X C.fb:=fun e=>hm.env.zx C.fb e (.inl (.inl rfl))
 have d:Stp ((mdK s C k).av fun j=>j=C.pm) W ((mdK s C k).av fun j=>j=C.pm) W2:=⟨c.2.1,c.2.2.1,c.2.2.2,by rw[c.1];exact Je _,fun k e=> .inl e,fun i _ hx=>g i (fun e=>hx (.inr (.inl (.inl e))))⟩
 have a5:C.B<=wx.heap.size:=by rw[h.hB];exact h.bel.size
 have a4:Below C.B wx W:=hs.below (fun k e=>by rw[e];exact h.pmB) a5;have a6:C.B<=C.fb:=h.fbB;have q:Below C.B W W2:=⟨c.2.1,c.2.2.1,c.2.2.2,by rw[c.1];exact Je _,fun i hi=>g i Zo⟩
 have y:MkEnv W2 (mdK s C 0) (fun j=>j=C.pm):=((hm.env.anti (fun i e=>by rw[e];exact hm.xm)).stepA d q).me (by have:=hk;omega);have a1:C.fb<wx.heap.size:=lt_of_block o;refine⟨y,?_,?_,?_,h.hB,h.pmB,h.fbB,h.rrB⟩
 ·have h1:=hm.blk;exact⟨_,_,_,_,_,_,(g C.pm (fun e=>m e.symm)).trans h1⟩
 ·have u:Q W C.fb row.toArray 39:=(hs.kept _ a1 (fun e=>m e)).trans o;refine⟨row.set k fv,by rw[Nd];exact hrl,by rw[a2 _ u];simp,fun j x hj=>?_⟩;have e1:(zf s (k+1)).1=(zf s k).1++ [(xR (xC s k) (zf s k).2).f]:=rfl;rw[e1] at hj
  by_cases a9:j<k
  ·rw[Np Zo] at hj;obtain⟨v,hv,a3⟩:=t j x hj;refine⟨v,by rw[Ns Zo];exact hv,?_⟩;have h2:pf W ((mdK s C k).av X) v x:=yE.step (X:=(mdK s C k).av fun j=>j=C.pm) xq a3 (hs.av _);have h3:pf W ((mdK s C k).av fun j=>j=C.pm) v x:=h2.anti jG (fun i e=>e.elim (fun e=> .inl (by rw[e];exact hm.xm)) .inr);exact h3.step xq d
  ·have a0:j=k:=by
    have:=(Jh.1 hj).1;simp at this;omega
   subst a0;rw[Nc Zo,w,Qy] at hj;cases hj;refine⟨fv,by rw[Nn Zo],?_⟩;have h2:pf W ((mdK s C j).av fun i=>i=C.pm) fv (xR (xC s j) (zf s j).2).f:=hm.blks;exact h2.step xq d
 ·have e:C.B=w0.heap.size:=h.hB;have:=h.bel.trans (B:=w0.heap.size) (by rw[<-e];exact a4.trans q);exact this
theorem tf{pm pos B:Nat}{cs:Array Value}{s:List Int}{sv:Value}(hb:Q w pm cs 99)(t:cs[0]? =some sv)(q:cs[1]? =some (I pos))(hs:zY w B sv s){n:Nat}(l:0<n)(g:n<=1000000)(y:pos+1<=1000000):
 T 55 #[L pm,I n] w fun e w'=>e=.returned (I (tk0 s pos n:Nat))/\Q w' pm (cs.setIfInBounds 1 (I ((pos+1:Nat):Int))) 99/\Stp (fun j=>j=pm) w (fun j=>j=pm) w':=by
 have c0:=zA hb t;have c1:=zA hb q;obtain⟨sa,sc,i,a1,a0⟩:=hs.form;rw[i] at c0 hs;have f1:Y w pm 1:=zE hb;have a2:=lt_of_block hb
 have d:=Ja (show ∀n,Q ((w.drewN n).setCell ⟨pm,1,none⟩ (I ((pos:Int)+1))) pm (cs.setIfInBounds 1 (I ((pos+1:Nat):Int))) 99/\Stp (fun j=>j=pm) w (fun j=>j=pm) ((w.drewN n).setCell ⟨pm,1,none⟩ (I ((pos:Int)+1))) from fun n=>
  ⟨zD (w:=w.drewN n) hb _,⟨rfl,rfl,rfl,by simp,fun _ h=> .inl h,fun k hk c=>Below.heap_setCell _ _ _ _ (fun e=>c (by rw[e]))⟩⟩)
 have hp:(pos:Int)+1<=1000000:=Zo;clear hb t q
 by_cases m:pos<s.length
 ·obtain⟨x,c⟩:∃x,s[pos]? =some x:=⟨_,Jd m⟩
  obtain⟨b,o,rfl,hb,hc,h64⟩:=hs.get c;rw[Nk] at hc;have hI:(pos:Int)<(s.length:Int):=Zo;have hv:tk0 s pos n=(x%(n:Int)).toNat:=by unfold tk0;rw[Jj,c];rfl
  have e1:=rK x n l g;rw[hv];have u:=Ja e1;clear hs c hb e1 hv;go_enter Try.func55,Try.ntmps55;go_wp2;go_quiet (fail);go_wp2;go_quiet (fail);go_wp2;go_ret;exact⟨zh u.out,(d.out _).1,(d.out _).2⟩
 ·have hI:¬(pos:Int)<(s.length:Int):=Zo;have hv:tk0 s pos n=((0:Int)%(n:Int)).toNat:=by unfold tk0;rw[Jj,Of Zo];rfl
  have e1:=rK 0 n l g;rw[hv];have u:=Ja e1;clear hs hv e1;go_enter Try.func55,Try.ntmps55;go_wp2;go_quiet (fail);go_wp2;go_ret;exact⟨zh Zs,(d.out _).1,(d.out _).2⟩
theorem SlvAt.put{X:World}{K:SK}{p:IProg}{j:List IBlk}{s:Slv}(h:SlvAt X K p j k s){v:Nat}(hv:v<K.n){a:Rg}(t:a.ok)
 (d:((X.setCell ⟨K.kb,v,none⟩ (.bool true)).setCell ⟨K.rb,v*2,none⟩ (G (a.lo:Int))).setCell ⟨K.rb,v*2+1,none⟩ (G (a.hi:Int))=W):
 SlvAt W K p j k (s.put v a)/\SlvTo X W K:=by
 have m:=h.ne;have c:=h.lt;have o:=zD (i:=v) h.kn (.bool true)
 have q:W.heap[K.kb]? =(X.setCell ⟨K.kb,v,none⟩ (.bool true)).heap[K.kb]?:=by
  rw[<-d,Below.heap_setCell _ _ _ _ (by show K.kb≠K.rb;omega),Below.heap_setCell _ _ _ _ (by show K.kb≠K.rb;omega)]
 have l:Q (X.setCell ⟨K.kb,v,none⟩ (.bool true)) K.rb (s.r.flatMap xe).toArray 48:=by
  rw[Below.heap_setCell _ _ _ _ (by show K.rb≠K.kb;omega)];exact h.row
 have g:=zD (i:=v*2+1) (zD (i:=v*2) l (G (a.lo:Int))) (G (a.hi:Int));rw[d] at g
 have hb:Below K.B X W:=by
  rw[<-d];exact(((Below.refl K.B X).setCell c.2.2.1 _).setCell c.2.1 _).setCell c.2.1 _
 have ho:∀i,i≠K.rb->i≠K.kb->W.heap[i]? =X.heap[i]?:=fun i h1 h2=>by
  rw[<-d,Below.heap_setCell _ _ _ _ h1,Below.heap_setCell _ _ _ _ h1,Below.heap_setCell _ _ _ _ h2]
 refine⟨⟨h.prog.below hb,h.blks.below yT hb,h.map.same (ho _ Zo Zo),(ho _ Zo Zo).trans h.cell,?_,?_,h.oks.put _ t,h.n64,c,m⟩,⟨hb.os,hb.tape,hb.output,hb.size,fun i _ h1 h2 _=>ho i h1 h2⟩⟩
 ·have:=afG s.r v a (by rw[h.oks.rl];exact hv);rw[show(s.put (v:Int) a).r=s.r.set v a from rfl,<-this];exact g
 ·rw[q,o,show(s.put (v:Int) a).kn=s.kn.set v true from rfl];simp[Ox]
def i4 (w:World)(K:SK)(p:IProg)(bls:List IBlk)(k:Nat)(q:Slv×Bool)(e:Ending)(w':World):Prop:=e=.returned (.bool q.2)/\SlvAt w' K p bls k q.1/\SlvTo w w' K
theorem set_new{K:SK}{p:IProg}{l:List IBlk}{s:Slv}(h:SlvAt w K p l k s){v:Nat}(hv:v<K.n){a:Rg}(o:a.ok)(hk:¬4<k)(j:s.knw v=false):
 T 19 #[L K.sb,I v,.agg #[G (a.lo:Int),G (a.hi:Int)]] w (i4 w K p l k (s.put v a,true)):=by
 have g:=tt h hv;rw[j] at g;have a0:¬(4:Int)<(k:Int):=Zo;have H:=Ja (Jb h o);have hn:=h.n64;have l1:=lt_of_block h.cell;have l2:=lt_of_block h.row;have l3:=lt_of_block h.kn;obtain⟨s4,s7,s8,s9,s10,s6⟩:=h.cells;have y:=h.ne;clear h o hk j s4 s7 s6;go_enter Try.func19,Try.ntmps19;go_upto_region 7 with(go_at_call 999999;skip)
 obtain⟨X,m⟩:∃X,w.alloc (A #[G (a.lo:Int),G (a.hi:Int)] 48)=X:=⟨_,rfl⟩
 have d:=Ja (show O w X/\Q X w.heap.size #[G (a.lo:Int),G (a.hi:Int)] 48/\w.heap.size<X.heap.size from by
  rw[<-m];exact⟨Below.alloc (Below.refl _ _) (Je _) _,zI rfl,by simp⟩)
 rw[m];clear m;clear g s8 s9 s10;have c:=Ja (H.out.1.below d.out.1);have t:=Ja (show ∀W:World,W.heap[K.sb]? =X.heap[K.sb]?->W.heap[w.heap.size]? =X.heap[w.heap.size]?->U W K.sb 8 (N K.rb K.n K.n)/\U W K.sb 9 (N K.kb K.n K.n)/\U W w.heap.size 0 (G (a.lo:Int))/\U W w.heap.size 1 (G (a.hi:Int)) from fun W h1 h2=>⟨zA (h1.trans c.out.cell) rfl,zA (h1.trans c.out.cell) rfl,zA (h2.trans d.out.2.1) rfl,zA (h2.trans d.out.2.1) rfl⟩);obtain⟨c0,c1,c2,c3⟩:=t.out X rfl rfl;have kx:=tt c.out hv;have kf:=zE (i:=v) c.out.kn;obtain⟨r0,r1⟩:=c.out.rcell (v:=(v:Int)) Zo;rw[Ni] at r0 r1;have x:=zE (i:=v*2) c.out.row;have u:=zE (i:=v*2+1) c.out.row;have m1:=lt_of_block c.out.cell;have m2:=lt_of_block c.out.row;have m3:=lt_of_block c.out.kn;have m4:=d.out.2.2;go_region_held3 (fun w'=>U w' K.sb 8 (N K.rb K.n K.n)/\U w' K.sb 9 (N K.kb K.n K.n)/\U w' w.heap.size 0 (G (a.lo:Int))/\U w' w.heap.size 1 (G (a.hi:Int))) ((refine t.out _ ?_ ?_<;>(repeat' (first|(rw[Below.heap_setCell _ _ _ _ (by first|(show K.sb≠K.kb;omega)|(show K.sb≠K.rb;omega)|(show w.heap.size≠K.kb;omega)|(show w.heap.size≠K.rb;omega))])|(rw[show ∀v:World,v.drew.heap=v.heap from fun _=>rfl])|exact rfl)))) (fail)
 all_goals go_wp2
 all_goals (
  obtain⟨W,q⟩:∃W,((X.setCell ⟨K.kb,v,none⟩ (.bool true)).setCell ⟨K.rb,v*2,none⟩ (G (a.lo:Int))).setCell ⟨K.rb,v*2+1,none⟩ (G (a.hi:Int))=W:=⟨_,rfl⟩
  rw[q];obtain⟨j1,j2⟩:=c.out.put hv H.out.2 q;go_ret
  exact⟨rfl,j1.below (Below.refl _ _).drew,((SlvTo.of_below d.out.1).trans j2).trans (SlvTo.of_below (Below.refl _ _).drew)⟩)
theorem ae8{K:SK}{p:IProg}{t:List IBlk}{s:Slv}(h:SlvAt w K p t k s){v:Nat}(hv:v<K.n)(hk:4<k)(o:s.knw v=false):
 T 19 #[L K.sb,I v,.agg #[G (a0.lo:Int),G (a0.hi:Int)]] w (i4 w K p t k (s.put v xr,true)):=by
 have m:=tt h hv;rw[o] at m;have a4:(4:Int)<(k:Int):=Zo;obtain⟨a,j⟩:∃a,xr=a:=⟨_,rfl⟩
 have H:=Ja (Jb h (show a.ok from j ▸ sl));have hn:=h.n64;have l1:=lt_of_block h.cell;have l2:=lt_of_block h.row;have l3:=lt_of_block h.kn;obtain⟨s4,s7,s8,s9,s10,s6⟩:=h.cells;have a3:=h.ne;have HZ:=Ja j;rw[j];clear h hk o s4 s7 s6 j;go_enter Try.func19,Try.ntmps19;go_upto_region 7 with(go_at_call 20;go_must (refine(re _).mono ?_;rintro e w1 ⟨rfl,d⟩;have hk:=zH d (zI rfl) Zs;have f0:=zA (i:=0) hk rfl;have f1:=zA (i:=1) hk rfl;have g0:=zE (i:=0) hk;have g1:=zE (i:=1) hk;have x:=lt_of_block hk;have q:=Below.trans (show O w _ from by repeat' (first|exact Below.refl _ _|(refine Below.alloc ?_ (by first|(simp;done)|(simp;omega)) _))) (d.mono (by first|(simp;done)|(simp;omega)))))
 obtain⟨X,l⟩:∃X,(w1.setCell ⟨w.heap.size,0,none⟩ (G 0)).setCell ⟨w.heap.size,1,none⟩ (G 65535)=X:=⟨_,rfl⟩
 have g:=Ja (show O w X/\Q X w.heap.size #[G (a.lo:Int),G (a.hi:Int)] 48/\w.heap.size<X.heap.size from by
  have u:=zD (i:=1) (zD (i:=0) hk (G 0)) (G 65535);rw[l] at u;refine⟨by rw[<-l];exact(q.setCell (Je _) _).setCell (Je _) _,?_,lt_of_block u⟩;rw[<-HZ.out]
  exact u)
 rw[l];clear l hk f0 f1 g0 g1 x q d;clear m s8 s9 s10;have c:=Ja (H.out.1.below g.out.1);have HC:=Ja (show ∀W:World,W.heap[K.sb]? =X.heap[K.sb]?->W.heap[w.heap.size]? =X.heap[w.heap.size]?->U W K.sb 8 (N K.rb K.n K.n)/\U W K.sb 9 (N K.kb K.n K.n)/\U W w.heap.size 0 (G (a.lo:Int))/\U W w.heap.size 1 (G (a.hi:Int)) from fun W h1 h2=>⟨zA (h1.trans c.out.cell) rfl,zA (h1.trans c.out.cell) rfl,zA (h2.trans g.out.2.1) rfl,zA (h2.trans g.out.2.1) rfl⟩);obtain⟨c0,c1,c2,c3⟩:=HC.out X rfl rfl;have kx:=tt c.out hv;have kf:=zE (i:=v) c.out.kn;obtain⟨r0,r1⟩:=c.out.rcell (v:=(v:Int)) Zo;rw[Ni] at r0 r1;have a2:=zE (i:=v*2) c.out.row;have a1:=zE (i:=v*2+1) c.out.row;have m1:=lt_of_block c.out.cell;have m2:=lt_of_block c.out.row;have m3:=lt_of_block c.out.kn;have m4:=g.out.2.2;go_region_held3 (fun w'=>U w' K.sb 8 (N K.rb K.n K.n)/\U w' K.sb 9 (N K.kb K.n K.n)/\U w' w.heap.size 0 (G (a.lo:Int))/\U w' w.heap.size 1 (G (a.hi:Int))) ((refine HC.out _ ?_ ?_<;>(repeat' (first|(rw[Below.heap_setCell _ _ _ _ (by first|(show K.sb≠K.kb;omega)|(show K.sb≠K.rb;omega)|(show w.heap.size≠K.kb;omega)|(show w.heap.size≠K.rb;omega))])|(rw[show ∀v:World,v.drew.heap=v.heap from fun _=>rfl])|exact rfl)))) (fail)
 all_goals go_wp2
 all_goals (
  obtain⟨W,y⟩:∃W,((X.setCell ⟨K.kb,v,none⟩ (.bool true)).setCell ⟨K.rb,v*2,none⟩ (G (a.lo:Int))).setCell ⟨K.rb,v*2+1,none⟩ (G (a.hi:Int))=W:=⟨_,rfl⟩
  rw[y];obtain⟨j1,j2⟩:=c.out.put hv H.out.2 y;go_ret
  exact⟨rfl,j1.below (Below.refl _ _).drew,((SlvTo.of_below g.out.1).trans j2).trans (SlvTo.of_below (Below.refl _ _).drew)⟩)
theorem aeM (w:World)(a b:Rg):T 50 #[.agg #[G (a.lo:Int),G (a.hi:Int)],.agg #[G (b.lo:Int),G (b.hi:Int)]] w (fun e w'=>e=.returned (.agg #[G ((qs a b).lo:Int),G ((qs a b).hi:Int)])/\O w w'):=hull_any w a b
theorem agA{K:SK}{p:IProg}{a3:List IBlk}{s:Slv}(h:SlvAt w K p a3 k s){v:Nat}(hv:v<K.n){a:Rg}(a1:s.knw v=true)(c:lf (qs a (s.get v)) (s.get v)=true):
 T 19 #[L K.sb,I v,.agg #[G (a.lo:Int),G (a.hi:Int)]] w (i4 w K p a3 k (s,false)):=by
 have a0:=tt h hv;rw[a1] at a0;have l:=fun(W:World) (hW:O w W)=>(h.below hW).rcell (v:=(v:Int)) Zo
 generalize hg:s.get (v:Int)=g at *;obtain⟨q,hq⟩:∃q,qs a g=q:=⟨_,rfl⟩
 have HH:=Ja (fun W=>aeM W a g);rw[hq] at HH c
 have y:q.lo=g.lo/\q.hi=g.hi:=by
  unfold lf at c
  simpa only[Jm,decide_eq_true_eq] using c
 rw[Ni] at l;have H:=Ja h;have hn:=h.n64;obtain⟨s4,s7,s8,s9,s10,s6⟩:=h.cells;have HC:=Ja (show ∀W:World,O w W->U W K.sb 8 (N K.rb K.n K.n)/\U W K.rb (v*2) (G (g.lo:Int))/\U W K.rb (v*2+1) (G (g.hi:Int)) from fun W hb=>⟨(h.below hb).cells.2.2.1,(l W hb).1,(l W hb).2⟩);have l1:=lt_of_block h.cell;have l2:=lt_of_block h.row;have l3:=lt_of_block h.kn;have a4:=Ja y;clear h y a1 c s4 s7 s6 s8 s10 l hg hq;go_enter Try.func19,Try.ntmps19;go_upto_region 2 with(go_at_call 999999;skip)
 obtain⟨X,hX⟩:∃X,w.alloc (A #[G (a.lo:Int),G (a.hi:Int)] 48)=X:=⟨_,rfl⟩
 have d:=Ja (show O w X/\Q X w.heap.size #[G (a.lo:Int),G (a.hi:Int)] 48/\w.heap.size<X.heap.size from by
  rw[<-hX];exact⟨Below.alloc (Below.refl _ _) (Je _) _,zI rfl,by simp⟩)
 rw[hX];clear hX a0 s9;have u:=Ja (show ∀W:World,Below w.heap.size X W->U W K.sb 8 (N K.rb K.n K.n)/\U W K.rb (v*2) (G (g.lo:Int))/\U W K.rb (v*2+1) (G (g.hi:Int)) from fun W hb=>HC.out W (d.out.1.trans hb));obtain⟨c0,c1,c2⟩:=u.out X (Below.refl _ _);have x0:=zA (i:=0) d.out.2.1 rfl;have x1:=zA (i:=1) d.out.2.1 rfl;have a6:=d.out.2.2;refine wp_region_noPanic ?_;refine yQ (S:=(fun w'=>U w' K.sb 8 (N K.rb K.n K.n)/\U w' K.rb (v*2) (G (g.lo:Int))/\U w' K.rb (v*2+1) (G (g.hi:Int))/\U w' w.heap.size 0 (G (a.lo:Int))/\U w' w.heap.size 1 (G (a.hi:Int)))) 9 Zk ⟨c0,c1,c2,x0,x1⟩ (fun hHeld=>?_);refine Tl 0 ?_
 try simp only[Yp]
 refine Tl 1 ?_
 try simp only[Yp]
 refine Tl 2 ?_
 try simp only[Yp]
 refine Tl 3 ?_
 try simp only[Yp]
 refine Tl 4 ?_
 try simp only[Yp]
 refine Tl 5 ?_
 try simp only[Yp]
 refine Tl 6 ?_
 try simp only[Yp]
 refine Tl 7 ?_
 try simp only[Yp]
 refine z8 (rs:=[8]) Zk Zs ?_;refine zS.cons (o:=_) rfl (fun K hK=>?_) ?_
 ·skip
  (go_simp;refine(HH.out _).mono ?_;rintro e w1 ⟨rfl,a2⟩;have m:O X w1:=(Below.refl X.heap.size X).drew.trans a2;clear a2;have hk:=zH m d.out.2.1 (lt_of_block d.out.2.1);have f0:=zA (i:=0) hk rfl;have f1:=zA (i:=1) hk rfl;have g0:=zE (i:=0) hk;have g1:=zE (i:=1) hk;have a8:=lt_of_block hk;have t:=u.out w1 (m.mono (Qd d.out.2.2)))
  refine hK.out _ _ ⟨t.1,t.2.1,t.2.2,f0,f1⟩ (fun hHeld=>?_);clear hK K
  try simp only[Yp]
  refine z8 (rs:=[9]) Zk Zs ?_;refine zS.last (o:=_) rfl (fun K hK=>?_);go_simp;refine hK.out _ _ ?_;clear hK K
  try simp only[Yp]
  refine xj Zk (NoPanic.normal ?_) _;go_upto_region 3 with(go_at_call 999999;skip)
  obtain⟨Y,x⟩:∃Y,(w1.setCell ⟨w.heap.size,0,none⟩ (G (q.lo:Int))).setCell ⟨w.heap.size,1,none⟩ (G (q.hi:Int))=Y:=⟨_,rfl⟩
  have j:=Ja (show O w Y/\Q Y w.heap.size #[G (q.lo:Int),G (q.hi:Int)] 48/\w.heap.size<Y.heap.size from by
   have hh:=zD (i:=1) (zD (i:=0) hk (G (q.lo:Int))) (G (q.hi:Int));rw[x] at hh
   exact⟨by rw[<-x];exact((d.out.1.trans (m.mono (Qd d.out.2.2))).setCell (Je _) _).setCell (Je _) _,hh,lt_of_block hh⟩)
  rw[x];clear x hk f0 f1 g0 g1 a8 m t u c0 c1 c2 x0 x1 a6;have a5:=Ja (show ∀W:World,O Y W->(U W K.sb 8 (N K.rb K.n K.n)/\U W K.rb (v*2) (G (g.lo:Int))/\U W K.rb (v*2+1) (G (g.hi:Int)))/\U W w.heap.size 0 (G (q.lo:Int))/\U W w.heap.size 1 (G (q.hi:Int)) from fun W hb=>⟨HC.out W (j.out.1.trans (hb.mono (Qd j.out.2.2))),zA (zH hb j.out.2.1 (lt_of_block j.out.2.1)) rfl,zA (zH hb j.out.2.1 (lt_of_block j.out.2.1)) rfl⟩);obtain⟨⟨c0,c1,c2⟩,x0,x1⟩:=a5.out Y (Below.refl _ _);have e0:((q.lo:Int)==(g.lo:Int))=true:=by rw[a4.out.1];exact beq_self_eq_true _
  have e1:((q.hi:Int)==(g.hi:Int))=true:=by rw[a4.out.2];exact beq_self_eq_true _
  go_region_held3 (fun w'=>(U w' K.sb 8 (N K.rb K.n K.n)/\U w' K.rb (v*2) (G (g.lo:Int))/\U w' K.rb (v*2+1) (G (g.hi:Int)))/\U w' w.heap.size 0 (G (q.lo:Int))/\U w' w.heap.size 1 (G (q.hi:Int)))
   ((refine a5.out _ ?_;repeat' (first|with_reducible exact Below.refl _ _|with_reducible assumption|with_reducible refine Below.drew ?_)))
   (fail)
  all_goals go_wp2
  all_goals go_ret
  all_goals exact⟨rfl,H.out.below j.out.1.drew,SlvTo.of_below j.out.1.drew⟩
 exact zS.nil
theorem aeK{K:SK}{p:IProg}{b6:List IBlk}{s:Slv}(h:SlvAt w K p b6 k s){v:Nat}(hv:v<K.n)(hk:4<k)(b2:s.knw v=true)(l:lf (qs a0 (s.get v)) (s.get v)=false):
 T 19 #[L K.sb,I v,.agg #[G (a0.lo:Int),G (a0.hi:Int)]] w (i4 w K p b6 k (s.put v xr,true)):=by
 have a9:=tt h hv;rw[b2] at a9;have x:=fun(W:World) (hW:O w W)=>(h.below hW).rcell (v:=(v:Int)) Zo
 generalize hg:s.get (v:Int)=g at *;obtain⟨q,hq⟩:∃q,qs a0 g=q:=⟨_,rfl⟩
 have HH:=Ja (fun W=>aeM W a0 g);rw[hq] at HH l;obtain⟨a,hz⟩:∃a,xr=a:=⟨_,rfl⟩
 have a8:a.ok:=hz ▸ sl;have HZ:=Ja hz;rw[hz];have c8:(4:Int)<(k:Int):=Zo;have c7:=h.ne
 have a6:(((q.lo:Int)==(g.lo:Int)) && ((q.hi:Int)==(g.hi:Int)))=false:=by
  rw[<-l];unfold lf;rw[Bool.eq_iff_iff];simp only[Jm,beq_iff_eq,decide_eq_true_eq];omega
 rw[Ni] at x;have H:=Ja (Jb h a8);have b3:=fun(W:World) (hW:O w W)=>(h.below hW).cells.2.2.2.2.1
 have HK:=Ja b3;have hn:=h.n64;obtain⟨s4,s7,s8,s9,s10,s6⟩:=h.cells;have HC:=Ja (show ∀W:World,O w W->U W K.sb 8 (N K.rb K.n K.n)/\U W K.rb (v*2) (G (g.lo:Int))/\U W K.rb (v*2+1) (G (g.hi:Int)) from fun W hb=>⟨(h.below hb).cells.2.2.1,(x W hb).1,(x W hb).2⟩);have l1:=lt_of_block h.cell;have l2:=lt_of_block h.row;have l3:=lt_of_block h.kn;have b8:=Ja a6;clear hz b3 hk a8 h a6 b2 l s4 s7 s6 s8 s10 x hg hq;go_enter Try.func19,Try.ntmps19;go_upto_region 2 with(go_at_call 999999;skip)
 obtain⟨X,m⟩:∃X,w.alloc (A #[G (a0.lo:Int),G (a0.hi:Int)] 48)=X:=⟨_,rfl⟩
 have c:=Ja (show O w X/\Q X w.heap.size #[G (a0.lo:Int),G (a0.hi:Int)] 48/\w.heap.size<X.heap.size from by
  rw[<-m];exact⟨Below.alloc (Below.refl _ _) (Je _) _,zI rfl,by simp⟩)
 rw[m];clear m a9 s9;have a5:=Ja (show ∀W:World,Below w.heap.size X W->U W K.sb 8 (N K.rb K.n K.n)/\U W K.rb (v*2) (G (g.lo:Int))/\U W K.rb (v*2+1) (G (g.hi:Int)) from fun W hb=>HC.out W (c.out.1.trans hb));obtain⟨c0,c1,c2⟩:=a5.out X (Below.refl _ _);have x0:=zA (i:=0) c.out.2.1 rfl;have x1:=zA (i:=1) c.out.2.1 rfl;have b9:=c.out.2.2;refine wp_region_noPanic ?_;refine yQ (S:=(fun w'=>U w' K.sb 8 (N K.rb K.n K.n)/\U w' K.rb (v*2) (G (g.lo:Int))/\U w' K.rb (v*2+1) (G (g.hi:Int))/\U w' w.heap.size 0 (G (a0.lo:Int))/\U w' w.heap.size 1 (G (a0.hi:Int)))) 9 Zk ⟨c0,c1,c2,x0,x1⟩ (fun hHeld=>?_);refine Tl 0 ?_
 try simp only[Yp]
 refine Tl 1 ?_
 try simp only[Yp]
 refine Tl 2 ?_
 try simp only[Yp]
 refine Tl 3 ?_
 try simp only[Yp]
 refine Tl 4 ?_
 try simp only[Yp]
 refine Tl 5 ?_
 try simp only[Yp]
 refine Tl 6 ?_
 try simp only[Yp]
 refine Tl 7 ?_
 try simp only[Yp]
 refine z8 (rs:=[8]) Zk Zs ?_;refine zS.cons (o:=_) rfl (fun K hK=>?_) ?_
 ·skip
  (go_simp;refine(HH.out _).mono ?_;rintro e w1 ⟨rfl,b5⟩;have y:O X w1:=(Below.refl X.heap.size X).drew.trans b5;clear b5;have hk:=zH y c.out.2.1 (lt_of_block c.out.2.1);have f0:=zA (i:=0) hk rfl;have f1:=zA (i:=1) hk rfl;have g0:=zE (i:=0) hk;have g1:=zE (i:=1) hk;have a2:=lt_of_block hk;have a1:=a5.out w1 (y.mono (Qd c.out.2.2)))
  refine hK.out _ _ ⟨a1.1,a1.2.1,a1.2.2,f0,f1⟩ (fun hHeld=>?_);clear hK K
  try simp only[Yp]
  refine z8 (rs:=[9]) Zk Zs ?_;refine zS.last (o:=_) rfl (fun K hK=>?_);go_simp;refine hK.out _ _ ?_;clear hK K
  try simp only[Yp]
  refine xj Zk (NoPanic.normal ?_) _;go_upto_region 3 with(go_at_call 999999;skip)
  obtain⟨Y,hY⟩:∃Y,(w1.setCell ⟨w.heap.size,0,none⟩ (G (q.lo:Int))).setCell ⟨w.heap.size,1,none⟩ (G (q.hi:Int))=Y:=⟨_,rfl⟩
  have j:=Ja (show O w Y/\Q Y w.heap.size #[G (q.lo:Int),G (q.hi:Int)] 48/\w.heap.size<Y.heap.size from by
   have t:=zD (i:=1) (zD (i:=0) hk (G (q.lo:Int))) (G (q.hi:Int));rw[hY] at t
   exact⟨by rw[<-hY];exact((c.out.1.trans (y.mono (Qd c.out.2.2))).setCell (Je _) _).setCell (Je _) _,t,lt_of_block t⟩)
  rw[hY];clear hY hk f0 f1 g0 g1 a2 y a1 a5 c0 c1 c2 x0 x1 b9;have a4:=Ja (show ∀W:World,O Y W->(U W K.sb 8 (N K.rb K.n K.n)/\U W K.rb (v*2) (G (g.lo:Int))/\U W K.rb (v*2+1) (G (g.hi:Int)))/\U W w.heap.size 0 (G (q.lo:Int))/\U W w.heap.size 1 (G (q.hi:Int)) from fun W hb=>⟨HC.out W (j.out.1.trans (hb.mono (Qd j.out.2.2))),zA (zH hb j.out.2.1 (lt_of_block j.out.2.1)) rfl,zA (zH hb j.out.2.1 (lt_of_block j.out.2.1)) rfl⟩);obtain⟨⟨c0,c1,c2⟩,x0,x1⟩:=a4.out Y (Below.refl _ _);obtain⟨b0,e0⟩:∃b,((q.lo:Int)==(g.lo:Int))=b:=⟨_,rfl⟩
  obtain⟨b1,e1⟩:∃b,((q.hi:Int)==(g.hi:Int))=b:=⟨_,rfl⟩
  have u:=b8.out;rw[e0,e1] at u;clear b8;cases b0<;>cases b1
  all_goals first|(cases u;done)|skip
  all_goals clear u
  all_goals go_region_held3 (fun w'=>(U w' K.sb 8 (N K.rb K.n K.n)/\U w' K.rb (v*2) (G (g.lo:Int))/\U w' K.rb (v*2+1) (G (g.hi:Int)))/\U w' w.heap.size 0 (G (q.lo:Int))/\U w' w.heap.size 1 (G (q.hi:Int)))
   ((refine a4.out _ ?_;repeat' (first|with_reducible exact Below.refl _ _|with_reducible assumption|with_reducible refine Below.drew ?_)))
   (fail)
  all_goals clear c0 c1 c2 x0 x1 a4 e0 e1
  all_goals have s10:=HK.out Y.drew j.out.1.drew
  all_goals have HV:=Ja (show O w Y.drew/\Q Y.drew w.heap.size #[G (q.lo:Int),G (q.hi:Int)] 48/\w.heap.size<Y.drew.heap.size from⟨j.out.1.drew,j.out.2.1,j.out.2.2⟩)
  all_goals go_upto_region 7 with(go_at_call 20;go_must (refine(re _).mono ?_;rintro e w2 ⟨rfl,a3⟩;have hk:=zH a3 HV.out.2.1 HV.out.2.2;have f0:=zA (i:=0) hk rfl;have f1:=zA (i:=1) hk rfl;have g0:=zE (i:=0) hk;have g1:=zE (i:=1) hk;have a2:=lt_of_block hk;have b4:=HV.out.1.trans (a3.mono HV.out.1.size)))
  all_goals (
   obtain⟨X,m⟩:∃X,(w2.setCell ⟨w.heap.size,0,none⟩ (G 0)).setCell ⟨w.heap.size,1,none⟩ (G 65535)=X:=⟨_,rfl⟩
   have b7:=Ja (show O w X/\Q X w.heap.size #[G (a.lo:Int),G (a.hi:Int)] 48/\w.heap.size<X.heap.size from by
    have t:=zD (i:=1) (zD (i:=0) hk (G 0)) (G 65535);rw[m] at t;refine⟨by rw[<-m];exact(b4.setCell (Je _) _).setCell (Je _) _,?_,lt_of_block t⟩;rw[<-HZ.out]
    exact t)
   rw[m];clear m s10 c hk f0 f1 g0 g1 a2 b4 a3;have c:=b7;clear b7;have d:=Ja (H.out.1.below c.out.1);have HC:=Ja (show ∀W:World,W.heap[K.sb]? =X.heap[K.sb]?->W.heap[w.heap.size]? =X.heap[w.heap.size]?->U W K.sb 8 (N K.rb K.n K.n)/\U W K.sb 9 (N K.kb K.n K.n)/\U W w.heap.size 0 (G (a.lo:Int))/\U W w.heap.size 1 (G (a.hi:Int)) from fun W h1 h2=>⟨zA (h1.trans d.out.cell) rfl,zA (h1.trans d.out.cell) rfl,zA (h2.trans c.out.2.1) rfl,zA (h2.trans c.out.2.1) rfl⟩);obtain⟨c0,c1,c2,c3⟩:=HC.out X rfl rfl;have kx:=tt d.out hv;have kf:=zE (i:=v) d.out.kn;obtain⟨r0,r1⟩:=d.out.rcell (v:=(v:Int)) Zo;rw[Ni] at r0 r1;have c5:=zE (i:=v*2) d.out.row;have c4:=zE (i:=v*2+1) d.out.row;have m1:=lt_of_block d.out.cell;have m2:=lt_of_block d.out.row;have m3:=lt_of_block d.out.kn;have m4:=c.out.2.2;go_region_held3 (fun w'=>U w' K.sb 8 (N K.rb K.n K.n)/\U w' K.sb 9 (N K.kb K.n K.n)/\U w' w.heap.size 0 (G (a.lo:Int))/\U w' w.heap.size 1 (G (a.hi:Int))) ((refine HC.out _ ?_ ?_<;>(repeat' (first|(rw[Below.heap_setCell _ _ _ _ (by first|(show K.sb≠K.kb;omega)|(show K.sb≠K.rb;omega)|(show w.heap.size≠K.kb;omega)|(show w.heap.size≠K.rb;omega))])|(rw[show ∀v:World,v.drew.heap=v.heap from fun _=>rfl])|exact rfl)))) (fail);go_wp2;obtain⟨W,hW⟩:∃W,((X.setCell ⟨K.kb,v,none⟩ (.bool true)).setCell ⟨K.rb,v*2,none⟩ (G (a.lo:Int))).setCell ⟨K.rb,v*2+1,none⟩ (G (a.hi:Int))=W:=⟨_,rfl⟩
   rw[hW];obtain⟨j1,j2⟩:=d.out.put hv H.out.2 hW;go_ret
   exact⟨rfl,j1.below (Below.refl _ _).drew,((SlvTo.of_below c.out.1).trans j2).trans (SlvTo.of_below (Below.refl _ _).drew)⟩)
 exact zS.nil
end Go.Proofs.Ytoahcpkibpomcaa
