/- Part of a proof. -/
import Derived.Test.YtoahcpkibpomcaaGLift7
set_option linter.all false
set_option maxHeartbeats 4000000
set_option maxRecDepth 100000
namespace Go.Proofs.Ytoahcpkibpomcaa
variable {c d i j:Nat}{bl f' l:List IBlk}{t:ITerm}{k k':Int}{w:World}{b':IBlk}{o:IOp}{P':Nat->Prop}{W:Int->Int->Int->Prop}
def opsN (l:List IBlk):Nat:=(l.map fun b=>b.ops.length).sum
def MS.sz (M:MS):Nat:=M.pos+M.next+M.f.length+M.vals.length+opsN M.f
variable {M M1:MS}
theorem xZ {α:Type}(l:List α)(i:Nat)(g:α->α):(wD l i g).length=l.length:=by unfold wD;split<;>simp
theorem xI{α:Type}{l:List α}{x:α}(h:l[i]? =some x)(g:α->α):wD l i g=l.set i (g x):=by unfold wD;rw[h]
def xU (l m:List IBlk):Prop:=∀(i:Nat) (b:IBlk),l[i]? =some b->∃b',m[i]? =some b'/\b'.params=b.params
theorem xU.refl (l:List IBlk):xU l l:=fun _ b h=>⟨b,h,rfl⟩
theorem xU.trans{m n:List IBlk}(h:xU l m)(k:xU m n):xU l n:=fun i b hb=>by
 obtain⟨b1,j,g⟩:=h i b hb;obtain⟨b2,d,c⟩:=k i b1 j;exact⟨b2,d,c.trans g⟩
theorem qB (l:List IBlk)(c:Nat)(g:IBlk->IBlk)(hg:∀b,(g b).params=b.params):xU l (wD l c g):=fun i b hb=>by
 cases h:l[c]? with
 |none=>unfold wD;rw[h];exact⟨b,hb,rfl⟩
 |some x=>
  rw[xI h,Ov]
  by_cases e:c=i
  ·subst e;rw[h] at hb;cases hb;rw[if_pos rfl,if_pos (Jh.1 h).1];exact⟨_,rfl,hg b⟩
  ·rw[if_neg e];exact⟨b,hb,rfl⟩
theorem qX (l m:List IBlk):xU l (l++m):=fun i b hb=>⟨b,by rw[Np (Jh.1 hb).1];exact hb,rfl⟩
theorem ry (l m:List IBlk):opsN (l++m)=opsN l+opsN m:=by unfold opsN;rw[Js,List.sum_append]
theorem sN:∀(l:List IBlk) (i:Nat) (b c:IBlk),l[i]? =some b->opsN (l.set i c)+b.ops.length=opsN l+c.ops.length
 | [],i,b,c,h=>by simp at h
 |x::l,0,b,c,h=>by
  cases h
  show((c::l).map _).sum+_=((x::l).map _).sum+_
  rw[Ql,Ql,List.sum_cons,List.sum_cons]
  omega
 |x::l,i+1,b,c,h=>by
  have:=sN l i b c (by simpa using h)
  show((x::l.set i c).map _).sum+_=((x::l).map _).sum+_
  unfold opsN at this;rw[Ql,Ql,List.sum_cons,List.sum_cons];omega
theorem opsN_le{b:IBlk}(h:l[i]? =some b):b.ops.length<=opsN l:=by
 have:=sN l i b ⟨[],[],⟨0,0,[]⟩⟩ h;simp at this;omega
theorem pG (l:List IBlk)(i:Nat)(g:IBlk->IBlk)(c:Nat)(hg:∀b,(g b).ops.length<=b.ops.length+c):opsN (wD l i g)<=opsN l+c:=by
 cases h:l[i]? with
 |none=>unfold wD;rw[h];exact Nat.le_add_right _ _
 |some b=>
  rw[xI h];have:=sN l i b (g b) h;have:=hg b;omega
structure Grow (c:Nat) (M M':MS):Prop where
 left:M'.left=M.left
 pos:M.pos<=M'.pos
 sz:M'.sz<=M.sz+c
 cur:M'.cur=M.cur
 len:M'.f.length=M.f.length
 nxt:M.next<=M'.next
 pre:M.vals<+:M'.vals
 par:xU M.f M'.f
theorem Grow.refl (M:MS):Grow 0 M M:=⟨rfl,Je _,Je _,rfl,rfl,Je _,Od,xU.refl _⟩
theorem Grow.trans{M2:MS}(h:Grow c M M1)(k:Grow d M1 M2):Grow (c+d) M M2:=⟨k.left.trans h.left,Jn h.pos k.pos,by have:=h.sz;have:=k.sz;omega,k.cur.trans h.cur,k.len.trans h.len,Jn h.nxt k.nxt,h.pre.trans k.pre,h.par.trans k.par⟩
theorem Grow.mono(h:Grow c M M1)(g:c<=d):Grow d M M1:=⟨h.left,h.pos,by have:=h.sz;omega,h.cur,h.len,h.nxt,h.pre,h.par⟩
theorem zT (M:MS):Grow 1 M M.tick:=⟨rfl,Nat.le_succ _,by unfold MS.sz MS.tick;simp only;omega,rfl,rfl,Je _,Od,xU.refl _⟩
theorem yB (M:MS)(o:IOp):Grow 3 M (M.emit o):=by
 have h:=pG M.f M.cur (fun b=> {b with ops:=b.ops++ [eg M o]}) 1 (fun b=>by simp);refine⟨rfl,Je _,?_,rfl,xZ _ _ _,?_,?_,qB _ _ _ (fun _=>rfl)⟩
 ·unfold MS.sz MS.emit;simp only[xZ]
  split
  ·simp only[Jk,Ju];omega
  ·omega
 ·unfold MS.emit;simp only;split<;>omega
 ·unfold MS.emit;simp only;split
  ·exact Qb _ _
  ·exact Od
theorem wT (M:MS)(n:Nat):Grow 3 M (M.num n):=yB _ _
theorem yf (M:MS)(t:ITerm):Grow 0 M (M.endB t):=by
 have h:=pG M.f M.cur (fun b=> {b with term:=t }) 0 (fun b=>Je _);refine⟨rfl,Je _,?_,rfl,xZ _ _ _,Je _,Od,qB _ _ _ (fun _=>rfl)⟩;unfold MS.sz MS.endB;simp only[xZ];omega
theorem yU (E:ME)(M:MS):Grow 4 M (zJ E M).2:=by
 unfold zJ
 split
 ·exact(zT M).trans (wT _ _)
 split
 ·exact(((zT M).trans (zT _)).trans (zT _)).mono Zo
 ·exact((zT M).trans (zT _)).mono Zo
theorem ue (E:ME)(M:MS):Grow 6 M (yJ E M).2:=by
 unfold yJ
 split
 ·exact((zT M).trans (yU E _)).mono Zo
 ·exact(((zT M).trans (zT _)).trans (zT _)).trans (yB _ _)
theorem tj (E:ME):∀(n:Nat) (M:MS),Grow (4*n) M (yI E n M).2
 |0,M=>Grow.refl M
 |n+1,M=>((tj E n M).trans (yU E _)).mono Zo
theorem sI (E:ME)(d:∀x∈E.args,0<=x/\x<4)(M:MS):Grow 16 M (vN E M):=by
 unfold vN
 split
 ·exact(Grow.refl M).mono Zo
 simp only
 split
 ·exact(zT M).mono Zo
 ·have h:∀f,(E.args.getD f 0).toNat<=3:=fun f=>by
   rw[Jj]
   cases c:E.args[f]? with
   |none=>simp
   |some x=>have:=d x (Ji c);simp only[Ot];omega
  have:=h (E.me+1+tkV E M (E.nf-E.me-1));exact(((zT M).trans (tj E _ _)).trans (yB _ _)).mono Zo
theorem kJ (E:ME)(M:MS):Grow 19 M (yR E M):=by
 unfold yR;simp only;have h:=((yU E M).trans (yU E _)).trans (zT _)
 split
 ·split
  ·exact((((h.trans (zT _)).trans (wT _ _)).trans (yB _ _)).trans (yB _ _)).mono Zo
  ·exact((h.trans (zT _)).trans (yB _ _)).mono Zo
 ·exact(h.trans (yB _ _)).mono Zo
theorem pX (E:ME)(c:∀x∈E.args,0<=x/\x<4)(M:MS):Grow 20 M (xK E M):=by
 unfold xK;simp only;have h:=zT M
 split
 ·exact((h.trans (zT _)).trans (wT _ _)).mono Zo
 split
 ·exact(((h.trans (zT _)).trans (yU E _)).trans (yB _ _)).mono Zo
 split
 ·exact(((h.trans (ue E _)).trans (zT _)).trans (yB _ _)).mono Zo
 split
 ·exact((((h.trans (ue E _)).trans (yU E _)).trans (zT _)).trans (yB _ _)).mono Zo
 split
 ·exact((h.trans (zT _)).trans (yB _ _)).mono Zo
 split
 ·exact(((h.trans (yU E _)).trans (zT _)).trans (yB _ _)).mono Zo
 split
 ·exact((((h.trans (zT _)).trans (wT _ _)).trans (zT _)).trans (yB _ _)).mono Zo
 split
 ·exact(h.trans (sI E c _)).mono Zo
 split
 ·split
  ·exact((h.trans (zT _)).trans (yB _ _)).mono Zo
  ·exact(h.trans (zT _)).mono Zo
 ·exact(h.trans (kJ E _)).mono Zo
theorem pw (E:ME)(hE:∀x∈E.args,0<=x/\x<4):∀(n:Nat) (M:MS),Grow (20*n) M (qY E n M)
 |0,M=>Grow.refl M
 |n+1,M=>((pX E hE M).trans (pw E hE n _)).mono Zo
theorem aaE (E:ME)(M:MS){n:Nat}(c:0<n):tkV E M n<n:=by
 unfold tkV;have g:=Ob (E.s.getD M.pos 0) (show(n:Int)≠0 by omega);have d:=Int.emod_lt_of_pos (E.s.getD M.pos 0) (show(0:Int)<n by omega);omega
theorem bT (n p:Nat):opsN [wJ n p]=0:=rfl
theorem sz_block (M:MS)(p:Nat):(M.block p).sz=M.sz+1+p:=by
 unfold MS.sz MS.block;simp only[Jk,Ju,ry,bT];omega
open Go.RowKit
def xT (t:ITerm)(k:Nat):List Int:=((t.to.take k).map (·.args)).flatten
theorem u7{k:Nat}{e:IEdge}(h:t.to[k]? =some e):xT t (k+1)=xT t k++e.args:=by
 unfold xT;rw[Nh,h,Js,List.flatten_append];simp
theorem tP(h:∀e∈t.to,e.args.length<=2000000):∀k,k<=t.to.length->(xT t k).length<=k*2000000
 |0,_=>Jt _
 |k+1,hk=>by
  obtain⟨e,he⟩:∃e,t.to[k]? =some e:=⟨_,Jd Zo⟩
  rw[u7 he,Jk];have:=tP h k Zo;have:=h e (Ji he);omega
theorem si (t:ITerm):xT t t.to.length=(t.to.map (·.args)).flatten:=by unfold xT;rw[Nl]
theorem my:∀b2 b3 b4 b5:Bool,(b2||(b3||b4 && b5))=true->(b2=true)∨(b2=false/\b3=true)∨(b2=false/\b3=false/\b4=true/\b5=true)
 |true,_,_,_,_=> .inl rfl
 |false,true,_,_,_=> .inr (.inl ⟨rfl,rfl⟩)
 |false,false,true,true,_=> .inr (.inr ⟨rfl,rfl,rfl,rfl⟩)
theorem lB:∀b2 b3 b4 b5:Bool,(b2||(b3||b4 && b5))=false->(b2=false/\b3=false/\b4=false)∨(b2=false/\b3=false/\b4=true/\b5=false)
 |false,false,false,_,_=> .inl ⟨rfl,rfl,rfl⟩
 |false,false,true,false,_=> .inr ⟨rfl,rfl,rfl,rfl⟩
structure EndsMem (w wx:World) (xs:List Int) (v:Value):Prop where
 below:Below w.heap.size w wx
 own:wx.ownsRow w.heap.size 3 1 v xs.length (xs.map zN)
theorem ends_1(t:ITerm)(ht:I64 t.kind/\I64 t.a){tv:Value}{B:Nat}(hB:B<=w.heap.size)(a1:wH w B tv t.to)(b1:t.to.length<=2000000/\∀e∈t.to,e.args.length<=2000000)(hh:ut t=true):
 T 66 #[.agg #[I t.kind,I t.a,tv]] w (wG w ([t.a]++(t.to.map (·.args)).flatten)):=by
 obtain⟨ta,tc,rfl,d5,d4⟩:=a1.form;obtain⟨ii,c0,a6,a5,a4⟩:=info_parts Try.info_int;have e5:t.to.length<=9223372036854775807:=Zo
 have h64:∀x∈ [t.a]++(t.to.map (·.args)).flatten,I64 x:=by
  intro x hx;rcases Jl.1 hx with hx|hx
  ·simp at hx;rw[hx];exact ht.2
  ·obtain⟨l,hl,d3⟩:=List.mem_flatten.1 hx;obtain⟨e,he,rfl⟩:=Nu.1 hl;obtain⟨k,hk⟩:=Ny he;obtain⟨b,o,_,_,_,_,av,_,u⟩:=a1.get hk;exact zY.all u x d3
 have d0:=Ja h64;unfold ut at hh;obtain⟨tk,b9⟩:∃x,t.kind=x:=⟨_,rfl⟩
 obtain⟨tA,a9⟩:∃x,t.a=x:=⟨_,rfl⟩
 rw[b9,a9] at hh ht ⊢
 try rw[a9] at d0
 obtain⟨b2,g2⟩:∃q,decide (tk=2)=q:=⟨_,rfl⟩
 obtain⟨b3,g3⟩:∃q,decide (tk=3)=q:=⟨_,rfl⟩
 obtain⟨b4,g4⟩:∃q,decide (tk=4)=q:=⟨_,rfl⟩
 obtain⟨b5,g5⟩:∃q,decide (tA≠-1)=q:=⟨_,rfl⟩
 rw[g2,g3,g4,g5] at hh;have t2:(tk==2)=b2:=z6 g2;have t3:(tk==3)=b3:=z6 g3;have t4:(tk==4)=b4:=z6 g4;have t5:(tA !=-1)=b5:=by rw[<-g5,bne];by_cases h:tA=-1<;>simp[h]
 have g:=Ja (show wH w B (.slice ta t.to.length tc) t.to/\B<=w.heap.size/\t.to.length<=2000000/\∀e∈t.to,e.args.length<=2000000 from⟨a1,hB,b1⟩);have HT:=Ja ht;have j:=zI (W:=w) (o:=A #[I tk,I tA,.slice ta t.to.length tc] 34) rfl;have c7:O w (w.alloc (A #[I tk,I tA,.slice ta t.to.length tc] 34)):=(Below.refl _ _).alloc (Je _) _;clear a1 hB b1 ht d5 d4 g2 g3 g4 g5 b9 a9 h64;have d6:=my b2 b3 b4 b5 hh;clear hh;rcases d6 with rfl|⟨rfl,rfl⟩|⟨rfl,rfl,rfl,rfl⟩
 all_goals (
  go_enter Try.func66,Try.ntmps66;go_upto_region 2 with fail;generalize e3:w.alloc (A #[I tk,I tA,.slice ta t.to.length tc] 34)=W0 at *;have y0:=K0 j;have y1:=K1 j;have y2:=K2 j;have H0:=Ja (show O w W0/\Q W0 w.heap.size #[I tk,I tA,.slice ta t.to.length tc] 34 from⟨c7,j⟩);clear e3 j c7;have own0:W0.ownsRow w.heap.size 3 1 (F) 0 []:=Jv W0 _ _ _;have i:=Ja own0;clear own0;go_upto_region 4 with(at_builtin;go_must (refine zK _ rfl (.tmp 24) (.tmp 27) 25 rfl w.heap.size 3 ii (I 0) 1 8 Try.underlying25 c0 a6 a5 a4 rfl Zd (F) 0 [] rfl (i.out.alloc _) _ 1 [I tA] rfl (yM.one (zI Zs) (by simp[Value.oneCell'])) Zd Zd (by have:=H0.out.1.size;simp;omega) ?_;intro v0 W1 c d b7))
  have c4:O w W1:=yP (H0.out.1.alloc H0.out.1.size _) d (by have:=H0.out.1.size;simp;omega) (wF i.out);have a8:=zL d (zB H0.out.2) (zC i.out H0.out.2 (.inr Zd));have z2:=K2 a8;have HS:=Ja (show EndsMem w W1 ([tA]++xT t 0) v0 from⟨c4,c⟩);have e6:=Ja a8;clear c4 a8 c d b7 y0 y1 y2;go_wp2
  go_loopw [3,32] (fun lv kv wx=>∃k:Nat,k<=t.to.length/\kv=I k/\Hid (EndsMem w wx ([tA]++xT t k) lv)) (fun _ kv _=>t.to.length-(intOf kv).toNat)
  case atStart=>exact⟨0,Jt _,rfl,HS⟩
  case round=>
   obtain⟨k,hk,rfl,HK⟩:=hrel
   by_cases a3:k<t.to.length
   ·have d1:(k:Int)<t.to.length:=Zo;have c9:=Ja a3;obtain⟨e,he⟩:∃e,t.to[k]? =some e:=⟨_,Jd a3⟩
    obtain⟨eb,eo,rfl,c1,c3,d2,av,c2,u⟩:=g.out.1.get he;obtain⟨aa,ac,rfl,d8,d7⟩:=u.form;have b6:=HK.out.below.mono g.out.2.1;have e0:=zV b6 c1 c3;have e1:=zV b6 c1 c2;have HE:=Ja (show t.to[k]? =some e/\zY w B (.slice aa e.args.length ac) e.args from⟨he,u⟩);clear he c3 c2 d2 u d8 d7 b6 a3 z2;have b8:=zI (W:=wr) (o:=A #[I e.block,.slice aa e.args.length ac] 93) rfl;have a0:=HK.out.below.alloc HK.out.below.size (A #[I e.block,.slice aa e.args.length ac] 93);have a2:=HK.out.own.alloc (A #[I e.block,.slice aa e.args.length ac] 93);have b0:=zY.src (HE.out.2.below zO (a0.mono g.out.2.1));go_upto_region 7 with fail;generalize e2:wr.alloc (A #[I e.block,.slice aa e.args.length ac] 93)=W2 at *;generalize wr.heap.size=b5 at *;have z51:=K1 b8
    have m:([tA]++xT t k).length+e.args.length<=6000000000000:=by
     have h1:=tP g.out.2.2.2 k hk;have h2:=g.out.2.2.1;have h3:=g.out.2.2.2 e (Ji HE.out.1);rw[Jk];simp only[Nq,Ow];omega
    have y:=Ja (show _/\_ from⟨m,a0⟩);have c8:=Ja a2;have e4:=Ja b0;clear m a2 b0 a0 b8 e2 e0 e1;go_wp2_with (at_builtin;go_must (refine zK _ rfl (.tmp 36) (.tmp 38) 25 rfl w.heap.size 3 ii (I 0) 1 8 Try.underlying25 c0 a6 a5 a4 rfl Zd _ ([tA]++xT t k).length (([tA]++xT t k).map zN) rfl c8.out _ e.args.length (e.args.map zN) rfl e4.out (by have:=y.out.1;unfold maxLen;omega) (by have:=y.out.1;omega) y.out.2.size ?_;intro v9 w9 c d b7))
    have c5:=yP y.out.2 d y.out.2.size (wF c8.out);have HN:=Ja (Jb c5 c);clear c d b7 c5;go_roundw
    case rel=>
     refine⟨k+1,c9.out,by go_num,Ja ⟨HN.out.1,?_⟩⟩;rw[u7 HE.out.1,<-Nv,Jk (bs:=e.args),Js (l₂:=e.args)];exact HN.out.2
    case measure=>have:=c9.out;simp[intOf];omega
   ·obtain rfl:k=t.to.length:=by omega
    have d1:¬(t.to.length:Int)<t.to.length:=Zo;clear a3 z2;go_wp2;go_ret;have c:=HK.out.own;rw[si] at c
    exact⟨_,rfl,uA c rfl d0.out,HK.out.below⟩)
theorem ends_0(t:ITerm)(ht:I64 t.kind/\I64 t.a){tv:Value}{B:Nat}(hB:B<=w.heap.size)(y:wH w B tv t.to)(a5:t.to.length<=2000000/\∀e∈t.to,e.args.length<=2000000)(hh:ut t=false):
 T 66 #[.agg #[I t.kind,I t.a,tv]] w (wG w (([]:List Int)++(t.to.map (·.args)).flatten)):=by
 obtain⟨ta,tc,rfl,d0,c9⟩:=y.form;obtain⟨ii,d1,c4,c3,c2⟩:=info_parts Try.info_int;have e2:t.to.length<=9223372036854775807:=Zo
 have h64:∀x∈([]:List Int)++(t.to.map (·.args)).flatten,I64 x:=by
  intro x hx;rcases Jl.1 hx with hx|hx
  ·simp at hx
  ·obtain⟨l,hl,c8⟩:=List.mem_flatten.1 hx;obtain⟨e,he,rfl⟩:=Nu.1 hl;obtain⟨k,hk⟩:=Ny he;obtain⟨b,o,_,_,_,_,av,_,j⟩:=y.get hk;exact zY.all j x c8
 have c1:=Ja h64;unfold ut at hh;obtain⟨tk,a9⟩:∃x,t.kind=x:=⟨_,rfl⟩
 obtain⟨tA,a3⟩:∃x,t.a=x:=⟨_,rfl⟩
 rw[a9,a3] at hh ht ⊢
 try rw[a3] at c1
 obtain⟨b2,g2⟩:∃q,decide (tk=2)=q:=⟨_,rfl⟩
 obtain⟨b3,g3⟩:∃q,decide (tk=3)=q:=⟨_,rfl⟩
 obtain⟨b4,g4⟩:∃q,decide (tk=4)=q:=⟨_,rfl⟩
 obtain⟨b5,g5⟩:∃q,decide (tA≠-1)=q:=⟨_,rfl⟩
 rw[g2,g3,g4,g5] at hh;have t2:(tk==2)=b2:=z6 g2;have t3:(tk==3)=b3:=z6 g3;have t4:(tk==4)=b4:=z6 g4;have t5:(tA !=-1)=b5:=by rw[<-g5,bne];by_cases h:tA=-1<;>simp[h]
 have d:=Ja (show wH w B (.slice ta t.to.length tc) t.to/\B<=w.heap.size/\t.to.length<=2000000/\∀e∈t.to,e.args.length<=2000000 from⟨y,hB,a5⟩);have HT:=Ja ht;have g:=zI (W:=w) (o:=A #[I tk,I tA,.slice ta t.to.length tc] 34) rfl;have b8:O w (w.alloc (A #[I tk,I tA,.slice ta t.to.length tc] 34)):=(Below.refl _ _).alloc (Je _) _;clear y hB a5 ht d0 c9 g2 g3 g4 g5 a9 a3 h64;have d2:=lB b2 b3 b4 b5 hh;clear hh;rcases d2 with⟨rfl,rfl,rfl⟩|⟨rfl,rfl,rfl,rfl⟩
 all_goals (
  go_enter Try.func66,Try.ntmps66;go_upto_region 2 with fail;generalize d7:w.alloc (A #[I tk,I tA,.slice ta t.to.length tc] 34)=W0 at *;have y0:=K0 g;have y1:=K1 g;have y2:=K2 g;have H0:=Ja (show O w W0/\Q W0 w.heap.size #[I tk,I tA,.slice ta t.to.length tc] 34 from⟨b8,g⟩);clear d7 g b8;go_upto_region 4 with fail;have z2:=y2;have HS:=Ja (show EndsMem w W0 (([]:List Int)++xT t 0) (F) from⟨H0.out.1,Jv W0 _ _ _⟩);have e3:=Ja H0.out.2;generalize W0=W1 at *;clear y0 y1 y2;go_wp2
  go_loopw [3,32] (fun lv kv wx=>∃k:Nat,k<=t.to.length/\kv=I k/\Hid (EndsMem w wx (([]:List Int)++xT t k) lv)) (fun _ kv _=>t.to.length-(intOf kv).toNat)
  case atStart=>exact⟨0,Jt _,rfl,HS⟩
  case round=>
   obtain⟨k,hk,rfl,HK⟩:=hrel
   by_cases a1:k<t.to.length
   ·have c5:(k:Int)<t.to.length:=Zo;have c0:=Ja a1;obtain⟨e,he⟩:∃e,t.to[k]? =some e:=⟨_,Jd a1⟩
    obtain⟨eb,eo,rfl,b0,b6,c7,av,b1,j⟩:=d.out.1.get he;obtain⟨aa,ac,rfl,d5,d4⟩:=j.form;have a6:=HK.out.below.mono d.out.2.1;have e0:=zV a6 b0 b6;have e1:=zV a6 b0 b1;have HE:=Ja (show t.to[k]? =some e/\zY w B (.slice aa e.args.length ac) e.args from⟨he,j⟩);clear he b6 b1 c7 j d5 d4 a6 a1 z2;have a8:=zI (W:=wr) (o:=A #[I e.block,.slice aa e.args.length ac] 93) rfl;have u:=HK.out.below.alloc HK.out.below.size (A #[I e.block,.slice aa e.args.length ac] 93);have a0:=HK.out.own.alloc (A #[I e.block,.slice aa e.args.length ac] 93);have a4:=zY.src (HE.out.2.below zO (u.mono d.out.2.1));go_upto_region 7 with fail;generalize d6:wr.alloc (A #[I e.block,.slice aa e.args.length ac] 93)=W2 at *;generalize wr.heap.size=b5 at *;have z51:=K1 a8
    have i:(([]:List Int)++xT t k).length+e.args.length<=6000000000000:=by
     have h1:=tP d.out.2.2.2 k hk;have h2:=d.out.2.2.1;have h3:=d.out.2.2.2 e (Ji HE.out.1);rw[Jk];simp only[Nq,Ow];omega
    have m:=Ja (show _/\_ from⟨i,u⟩);have b9:=Ja a0;have d8:=Ja a4;clear i a0 a4 u a8 d6 e0 e1;go_wp2_with (at_builtin;go_must (refine zK _ rfl (.tmp 36) (.tmp 38) 25 rfl w.heap.size 3 ii (I 0) 1 8 Try.underlying25 d1 c4 c3 c2 rfl Zd _ (([]:List Int)++xT t k).length ((([]:List Int)++xT t k).map zN) rfl b9.out _ e.args.length (e.args.map zN) rfl d8.out (by have:=m.out.1;unfold maxLen;omega) (by have:=m.out.1;omega) m.out.2.size ?_;intro v9 w9 c a2 d3))
    have b7:=yP m.out.2 a2 m.out.2.size (wF b9.out);have HN:=Ja (Jb b7 c);clear c a2 d3 b7;go_roundw
    case rel=>
     refine⟨k+1,c0.out,by go_num,Ja ⟨HN.out.1,?_⟩⟩;rw[u7 HE.out.1,<-Nv,Jk (bs:=e.args),Js (l₂:=e.args)];exact HN.out.2
    case measure=>have:=c0.out;simp[intOf];omega
   ·obtain rfl:k=t.to.length:=by omega
    have c5:¬(t.to.length:Int)<t.to.length:=Zo;clear a1 z2;go_wp2;go_ret;have c:=HK.out.own;rw[si] at c
    exact⟨_,rfl,uA c rfl c1.out,HK.out.below⟩)
theorem ends_any(t:ITerm)(ht:I64 t.kind/\I64 t.a){tv:Value}{B:Nat}(hB:B<=w.heap.size)(d:wH w B tv t.to)(c:t.to.length<=2000000/\∀e∈t.to,e.args.length<=2000000):
 T 66 #[.agg #[I t.kind,I t.a,tv]] w (wG w (mE t)):=by
 unfold mE;cases g:ut t
 ·exact ends_0 t ht hB d c g
 ·exact ends_1 t ht hB d c g
def fB (f:List IBlk)(v:Int)(i:Nat)(k:Int):Prop:=
 ∃b,f[i]? =some b/\((k=-1/\v∈b.params)∨∃(j:Nat) (o:IOp),k=(j:Int)/\b.ops[j]? =some o/\o.res=v/\0<=v)
def rf (f f':List IBlk):Prop:=
 ∀(i:Nat) (b:IBlk),f[i]? =some b->∃b',f'[i]? =some b'/\b'.params=b.params/\b.ops<+:b'.ops/\(b.term.to=[]∨b'.term=b.term)
theorem rf.refl (f:List IBlk):rf f f:=fun i b h=>⟨b,h,rfl,Od,.inr rfl⟩
theorem aaS{α:Type}{l m:List α}(h:l<+:m){x:α}(c:l[j]? =some x):m[j]? =some x:=by
 obtain⟨t,rfl⟩:=h;rw[Np (Jh.1 c).1];exact c
theorem fB.ext{f:List IBlk}(d:rf f f'){v:Int}(h:fB f v i k):fB f' v i k:=by
 obtain⟨b,hb,l⟩:=h;obtain⟨b',c,hp,ho,_⟩:=d i b hb;refine⟨b',c,?_⟩;rcases l with⟨rfl,hv⟩|⟨j,o,rfl,g,hr,m⟩
 ·exact .inl ⟨rfl,by rw[hp];exact hv⟩
 ·exact .inr ⟨j,o,rfl,aaS ho g,hr,m⟩
inductive Abv (pl:List Nat):Nat->Nat->Prop
 |refl (i:Nat):Abv pl i i
 |up {b i u:Nat}:pl[i]? =some u->0<i->Abv pl b u->Abv pl b i
theorem Abv.ext{pl c:List Nat}(hp:pl<+:c){b:Nat}(h:Abv pl b i):Abv c b i:=by
 induction h with
 |refl=>exact .refl _
 |up h0 h1 _ ih=>exact .up (aaS hp h0) h1 ih
theorem Abv.trans{pl:List Nat}{a b:Nat}(h:Abv pl a b)(k:Abv pl b c):Abv pl a c:=by
 induction k with
 |refl=>exact h
 |up h0 h1 _ ih=>exact .up h0 h1 ih
theorem Abv.le{pl:List Nat}(hp:∀i u,pl[i]? =some u->0<i->u<i){b:Nat}(h:Abv pl b i):b<=i:=by
 induction h with
 |refl=>exact Je _
 |up h0 h1 _ ih=>have:=hp _ _ h0 h1;omega
def Kn (f:List IBlk)(pl:List Nat)(v:Int)(i:Nat)(k:Int):Prop:=∃(b:Nat) (a:Int),fB f v b a/\Abv pl b i/\(b=i->a<k)
theorem Kn.ext{f:List IBlk}{pl c:List Nat}(d:rf f f')(hp:pl<+:c){v:Int}(hk:k<=k')(h:Kn f pl v i k):Kn f' c v i k':=by
 obtain⟨b,a,l,j,g⟩:=h;exact⟨b,a,l.ext d,j.ext hp,fun e=>by have:=g e;omega⟩
def gB (f:List IBlk)(pl:List Nat)(i:Nat)(e:IEdge):Prop:=
 ∃(s u:Nat) (bs:IBlk),e.block=(s:Int)/\0<s/\f[s]? =some bs/\e.args.length=bs.params.length/\pl[s]? =some u/\Abv pl u i
theorem gB.ext{f:List IBlk}{pl c:List Nat}(j:rf f f')(hp:pl<+:c){e:IEdge}(h:gB f pl i e):gB f' c i e:=by
 obtain⟨s,u,bs,t,q,o,m,l,k⟩:=h;obtain⟨b',g,d,_⟩:=j s bs o;exact⟨s,u,b',t,q,g,by rw[d];exact m,aaS hp l,k.ext hp⟩
def gR (t:ITerm):Bool:=
 if t.kind=1 then decide (t.to.length=1) && decide (t.a=0)
 else if t.kind=2 then decide (t.to.length=2)
 else if t.kind=3 then decide (1<=t.to.length)
 else if t.kind=4 then decide (t.to.length=0)
 else if t.kind=5 then decide (t.to.length=0) && decide (t.a=0)
 else false
def fQ (f:List IBlk)(pl:List Nat)(i:Nat)(b:IBlk):Prop:=
 gR b.term=true/\(∀e∈b.term.to,gB f pl i e)/\∀v∈mE b.term,Kn f pl v i b.ops.length
theorem fQ.ext{f:List IBlk}{pl c:List Nat}(d:rf f f')(hp:pl<+:c){b:IBlk}(h:fQ f pl i b):fQ f' c i b:=
 ⟨h.1,fun e he=>(h.2.1 e he).ext d hp,fun v hv=>(h.2.2 v hv).ext d hp (Og _)⟩
inductive Rch (f:List IBlk):Nat->Prop
 |zero:Rch f 0
 |step {u s:Nat} {b:IBlk} {e:IEdge}:Rch f u->f[u]? =some b->e∈b.term.to->e.block=(s:Int)->Rch f s
theorem Rch.ext{f:List IBlk}(d:rf f f')(h:Rch f i):Rch f' i:=by
 induction h with
 |zero=>exact .zero
 |step _ h2 h3 h4 ih=>
  obtain⟨b',c,_,_,ht⟩:=d _ _ h2;rcases ht with ht|ht
  ·rw[ht] at h3;cases h3
  ·exact .step ih c (by rw[ht];exact h3) h4
def abo (l:List IOp):List Int:=(l.filter fun o=>decide (0<=o.res)).map (·.res)
def abu (b:IBlk):List Int:=b.params++abo b.ops
def aaI (f:List IBlk):List Int:=f.flatMap abu
theorem eY{f:List IBlk}{b:IBlk}(hb:f[c]? =some b)(b':IBlk):f=f.take c++b::f.drop (c+1)/\f.set c b'=f.take c++b'::f.drop (c+1):=by
 obtain⟨d,g⟩:=Jh.1 hb;refine⟨by rw[<-g,Ue,Qi],?_⟩;rw[List.set_eq_take_append_cons_drop,if_pos d]
theorem fF{f:List IBlk}{b:IBlk}(hb:f[c]? =some b){x:List Int}(d:abu b'=abu b++x):(aaI (f.set c b')).Perm (x++aaI f):=by
 obtain⟨h,g⟩:=eY hb b';unfold aaI;rw[g]
 conv=>rhs;rw[h]
 rw[Nx,Qa,Nx,Qa,d]
 classical
 refine Jp.2 fun y=>?_
 simp only[Nb];omega
theorem fK (l m:List IOp):abo (l++m)=abo l++abo m:=by unfold abo;rw[List.filter_append,Js]
structure MInv (p:IProg) (f:List IBlk) (cur next:Nat) (vals:List Int) (O P:Nat->Prop) (pl:List Nat):Prop where
 len:pl.length=f.length
 curl:cur<f.length
 par:∀i u,pl[i]? =some u->0<i->u<i
 ops:∀(i:Nat) (b:IBlk),f[i]? =some b->∀(j:Nat) (o:IOp),b.ops[j]? =some o->opF p o=true/\∀v∈rR o,Kn f pl v i j
 term:∀(i:Nat) (b:IBlk),f[i]? =some b->¬O i->fQ f pl i b
 opn:∀(i:Nat) (b:IBlk),f[i]? =some b->O i->b.term.to=[]
 lt:∀i,O i->i<f.length
 known:∀v∈vals,∀b,f[cur]? =some b->Kn f pl v cur b.ops.length
 nd:(aaI f).Nodup
 rng:∀v∈aaI f,0<=v/\v<(next:Int)
 rch:∀i,i<f.length->¬P i->Rch f i
 sml:∀(i:Nat) (b:IBlk),f[i]? =some b->b.params.length<=3/\b.term.to.length<=4
abbrev aaz (p:IProg)(M:MS)(O P:Nat->Prop)(pl:List Nat):Prop:=MInv p M.f M.cur M.next M.vals O P pl
theorem g7{f:List IBlk}{b:IBlk}(hb:f[c]? =some b)(hp:b'.params=b.params)(ho:b.ops<+:b'.ops)(ht:b.term.to=[]∨b'.term=b.term):rf f (f.set c b'):=fun i x hx=>by
 by_cases e:c=i
 ·subst e;rw[hb] at hx;cases hx;exact⟨b',Nn (Jh.1 hb).1,hp,ho,ht⟩
 ·exact⟨x,by rw[Ns e];exact hx,rfl,Od,.inr rfl⟩
theorem abj (f g:List IBlk):rf f (f++g):=fun i b hb=>⟨b,by rw[Np (Jh.1 hb).1];exact hb,rfl,Od,.inr rfl⟩
theorem abp{f:List IBlk}{b x:IBlk}(hb:f[c]? =some b)(h:(f.set c b')[i]? =some x):(i=c/\x=b')∨(i≠c/\f[i]? =some x):=by
 by_cases e:c=i
 ·subst e;rw[Nn (Jh.1 hb).1] at h;cases h;exact .inl ⟨rfl,rfl⟩
 ·rw[Ns e] at h;exact .inr ⟨fun h=>e h.symm,h⟩
section
variable {p:IProg} {f:List IBlk} {cur next:Nat} {vals:List Int} {O P:Nat->Prop} {pl:List Nat} (h:MInv p f cur next vals O P pl)
include h
theorem MInv.get:∃b,f[cur]? =some b:=⟨_,Jd h.curl⟩
theorem MInv.push{b:IBlk}(hb:f[cur]? =some b)(a0:O cur)(ho:opF p o=true)(hu:∀v∈rR o,Kn f pl v cur b.ops.length){g:Nat}{d:List Int}(t:(o.res=(next:Int)/\g=next+1/\d=vals++ [o.res])∨(o.res<0/\g=next/\d=vals)):
 MInv p (f.set cur {b with ops:=b.ops++ [o]}) cur g d O P pl:=by
 have hx:rf f (f.set cur {b with ops:=b.ops++ [o]}):=g7 hb rfl (Qb _ _) (.inr rfl);have m:pl<+:pl:=Od
 have a2:abu {b with ops:=b.ops++ [o]}=abu b++abo [o]:=by
  unfold abu;simp only;rw[fK,Nv]
 have w:=fF hb a2;have u:(f.set cur {b with ops:=b.ops++ [o]})[cur]? =some {b with ops:=b.ops++ [o]}:=Nn h.curl;refine⟨by rw[Nd];exact h.len,by rw[Nd];exact h.curl,h.par,?_,?_,?_,fun i hi=>by rw[Nd];exact h.lt i hi,?_,?_,?_,?_,?_⟩
 ·intro i x c j y q;rcases abp hb c with⟨rfl,rfl⟩|⟨_,c⟩
  ·simp only at q
   by_cases hj:j<b.ops.length
   ·rw[Np hj] at q;obtain⟨l,k⟩:=h.ops _ b hb j y q;exact⟨l,fun v hv=>(k v hv).ext hx m (Og _)⟩
   ·have a3:j=b.ops.length:=by
     have:=(Jh.1 q).1;simp at this;omega
    subst a3;rw[Nc (Je _),Qy] at q;cases q;exact⟨ho,fun v hv=>(hu v hv).ext hx m (Og _)⟩
  ·obtain⟨l,k⟩:=h.ops i x c j y q;exact⟨l,fun v hv=>(k v hv).ext hx m (Og _)⟩
 ·intro i x c hO;rcases abp hb c with⟨rfl,rfl⟩|⟨_,c⟩
  ·exact absurd a0 hO
  ·exact(h.term i x c hO).ext hx m
 ·intro i x c hO;rcases abp hb c with⟨rfl,rfl⟩|⟨_,c⟩
  ·exact h.opn _ b hb hO
  ·exact h.opn i x c hO
 ·intro v hv x a1;rw[u] at a1;cases a1;have old:v∈vals->Kn (f.set cur {b with ops:=b.ops++ [o]}) pl v cur ((b.ops++ [o]).length:Nat):=fun hv=>(h.known v hv b hb).ext hx m Zt
  rcases t with⟨l,k,rfl⟩|⟨l,k,rfl⟩
  ·rcases Jl.1 hv with hv|hv
   ·exact old hv
   ·rw[Jo] at hv;subst hv;refine⟨cur,(b.ops.length:Int),⟨_,u,.inr ⟨b.ops.length,o,rfl,?_,rfl,by omega⟩⟩,.refl _,fun _=>by simp;omega⟩;simp
  ·exact old hv
 ·refine w.nodup_iff.2 ?_;rcases t with⟨l,k,_⟩|⟨l,k,_⟩
  ·have e:abo [o]=[o.res]:=by unfold abo;rw[List.filter_cons_of_pos Zt];rfl
   rw[e];refine Qt.2 ⟨fun hm=>?_,h.nd⟩;have:=(h.rng _ hm).2;omega
  ·have e:abo [o]=[]:=by unfold abo;rw[List.filter_cons_of_neg Zt];rfl
   rw[e];exact h.nd
 ·intro v hv;rw[w.mem_iff] at hv;rcases t with⟨l,k,_⟩|⟨l,k,_⟩
  ·have e:abo [o]=[o.res]:=by unfold abo;rw[List.filter_cons_of_pos Zt];rfl
   rw[e] at hv;rcases Jl.1 hv with hv|hv
   ·rw[Jo] at hv;omega
   ·have:=h.rng v hv;omega
  ·have e:abo [o]=[]:=by unfold abo;rw[List.filter_cons_of_neg Zt];rfl
   rw[e] at hv;have:=h.rng v hv;omega
 ·intro i hi hP;rw[Nd] at hi;exact(h.rch i hi hP).ext hx
 ·intro i x c;rcases abp hb c with⟨rfl,rfl⟩|⟨_,c⟩
  ·exact h.sml _ b hb
  ·exact h.sml i x c
theorem MInv.close{b:IBlk}(hb:f[cur]? =some b)(q:O cur)(hk:gR t=true)(h4:t.to.length<=4)(he:∀e∈t.to,gB f pl cur e)(hv:∀v∈mE t,Kn f pl v cur b.ops.length)(hc:¬P cur)(hP:∀i,P i->P' i∨∃e∈t.to,e.block=(i:Int)):
 MInv p (f.set cur {b with term:=t }) cur next vals (fun i=>O i/\i≠cur) P' pl:=by
 have k:rf f (f.set cur {b with term:=t }):=g7 hb rfl Od (.inl (h.opn _ b hb q));have g:pl<+:pl:=Od;have m:=fF (b':= {b with term:=t }) hb (x:=[]) (by unfold abu;simp);have l:(f.set cur {b with term:=t })[cur]? =some {b with term:=t }:=Nn h.curl;refine⟨by rw[Nd];exact h.len,by rw[Nd];exact h.curl,h.par,?_,?_,?_,fun i hi=>by rw[Nd];exact h.lt i hi.1,?_,m.nodup_iff.2 h.nd,fun v hv=>h.rng v (m.mem_iff.1 hv),?_,?_⟩
 ·intro i x c j y hy;rcases abp hb c with⟨rfl,rfl⟩|⟨_,c⟩
  ·obtain⟨d,o⟩:=h.ops _ b hb j y hy;exact⟨d,fun v hv=>(o v hv).ext k g (Og _)⟩
  ·obtain⟨d,o⟩:=h.ops i x c j y hy;exact⟨d,fun v hv=>(o v hv).ext k g (Og _)⟩
 ·intro i x c u;rcases abp hb c with⟨rfl,rfl⟩|⟨a1,c⟩
  ·exact⟨hk,fun e d=>(he e d).ext k g,fun v d=>(hv v d).ext k g (Og _)⟩
  ·exact(h.term i x c (fun e=>u ⟨e,a1⟩)).ext k g
 ·intro i x c u;rcases abp hb c with⟨rfl,rfl⟩|⟨_,c⟩
  ·exact absurd rfl u.2
  ·exact h.opn i x c u.1
 ·intro v hv x w;rw[l] at w;cases w;exact(h.known v hv b hb).ext k g (Og _)
 ·intro i hi a2;rw[Nd] at hi
  by_cases a0:P i
  ·rcases hP i a0 with d|⟨e,d,o⟩
   ·exact absurd d a2
   ·exact .step ((h.rch cur h.curl hc).ext k) l d o
  ·exact(h.rch i hi a0).ext k
 ·intro i x c;rcases abp hb c with⟨rfl,rfl⟩|⟨_,c⟩
  ·exact⟨(h.sml _ b hb).1,h4⟩
  ·exact h.sml i x c
theorem MInv.block {n u:Nat}(hu:u<f.length)(hn:n<=3):MInv p (f++ [wJ next n]) cur (next+n) vals (fun i=>O i∨i=f.length) (fun i=>P i∨i=f.length) (pl++ [u]):=by
 have q:rf f (f++ [wJ next n]):=abj _ _;have m:pl<+:pl++ [u]:=Qb _ _
 have d:∀(i:Nat) (x:IBlk),(f++ [wJ next n])[i]? =some x->(f[i]? =some x)∨(i=f.length/\x=wJ next n):=fun i x hi=>by
  by_cases o:i<f.length
  ·rw[Np o] at hi;exact .inl hi
  ·have:i=f.length:=by
    have:=(Jh.1 hi).1;simp at this;omega
   subst this;rw[Nc (Je _),Qy] at hi;cases hi;exact .inr ⟨rfl,rfl⟩
 have t:abu (wJ next n)=(List.range n).map fun k=>((next+k:Nat):Int):=by
  unfold abu wJ;simp[abo]
 have hl:aaI (f++ [wJ next n])=aaI f++(List.range n).map fun k=>((next+k:Nat):Int):=by
  unfold aaI;rw[Nx,Qa,List.flatMap_nil,Ua,t]
 refine⟨by simp[h.len],by simp;have:=h.curl;omega,?_,?_,?_,?_,?_,?_,?_,?_,?_,?_⟩
 ·intro i w hi h0
  by_cases o:i<pl.length
  ·rw[Np o] at hi;exact h.par i w hi h0
  ·have a0:i=pl.length:=by
    have:=(Jh.1 hi).1;simp at this;omega
   subst a0;rw[Nc (Je _),Qy] at hi;cases hi;rw[h.len];exact hu
 ·intro i x c j y hy;rcases d i x c with c|⟨rfl,rfl⟩
  ·obtain⟨h1,h2⟩:=h.ops i x c j y hy;exact⟨h1,fun v hv=>(h2 v hv).ext q m (Og _)⟩
  ·simp[wJ] at hy
 ·intro i x c g;rcases d i x c with c|⟨rfl,rfl⟩
  ·exact(h.term i x c (fun e=>g (.inl e))).ext q m
  ·exact absurd (.inr rfl) g
 ·intro i x c g;rcases d i x c with c|⟨rfl,rfl⟩
  ·rcases g with g|rfl
   ·exact h.opn i x c g
   ·have:=(Jh.1 c).1;omega
  ·rfl
 ·intro i hi;rcases hi with hi|rfl
  ·have:=h.lt i hi;simp;omega
  ·simp
 ·intro v hv x l;rcases d cur x l with l|⟨e,_⟩
  ·exact(h.known v hv x l).ext q m (Og _)
  ·have:=h.curl;omega
 ·rw[hl];refine Qq.2 ⟨h.nd,?_,fun a ha b hb e=>?_⟩
  ·refine List.pairwise_map.2 (List.nodup_range.imp fun hab e=>hab ?_);omega
  ·obtain⟨k,_,rfl⟩:=Nu.1 hb;have:=h.rng a ha;omega
 ·intro v hv;rw[hl] at hv;rcases Jl.1 hv with hv|hv
  ·have:=h.rng v hv;omega
  ·obtain⟨k,hk,rfl⟩:=Nu.1 hv;have:=Ol.1 hk;omega
 ·intro i hi hP;have a2:i≠f.length:=fun e=>hP (.inr e)
  have a1:i<f.length:=by simp at hi;omega
  exact(h.rch i a1 (fun e=>hP (.inl e))).ext q
 ·intro i x c;rcases d i x c with c|⟨rfl,rfl⟩
  ·exact h.sml i x c
  ·exact⟨by unfold wJ;simpa using hn,by show 0<=4;decide⟩
theorem MInv.goto {c':Nat}{c:List Int}(d:c'<f.length)(hv:∀v∈c,∀b,f[c']? =some b->Kn f pl v c' b.ops.length):MInv p f c' next c O P pl:=
 {h with curl:=d,known:=hv }
theorem MInv.weak{O':Nat->Prop}(c:∀i,O i↔O' i)(d:∀i,P i->P' i):MInv p f cur next vals O' P' pl:=
 {h with term:=fun i b hb hn=>h.term i b hb (fun e=>hn ((c i).1 e)),opn:=fun i b hb hn=>h.opn i b hb ((c i).2 hn),lt:=fun i hi=>h.lt i ((c i).2 hi),rch:=fun i hi hn=>h.rch i hi (fun e=>hn (d i e))}
theorem MInv.below{v:Int}(hk:Kn f pl v i k)(c:Abv pl i j)(l:i≠j):Kn f pl v j k':=by
 obtain⟨b,a,g,d,q⟩:=hk;refine⟨b,a,g,d.trans c,fun e=>?_⟩;have o:=d.le h.par;have m:=c.le h.par;omega
end
structure EnvOk (p:IProg) (E:ME):Prop where
 nf:p.funcs.length=E.nf
 args:p.args=E.args
 data:p.data.length=3
 alt:∀x∈E.args,0<=x/\x<4
theorem opF_of{p:IProg}{F:Flds}(hs:zi o.code=F)(g:o.code≠26)(j:o.code≠2)(d:F.is=true)(c:F.res=decide (0<=o.res))(hm:-1<=o.res)(i:F.a=true∨o.a=0)(hb:F.b=true∨o.b=0)(h:F.n=true∨o.n=0)(hg:o.args.length=0)
 (hp:(o.code≠24/\o.code≠25)∨(1<=o.n/\o.n<=255)):opF p o=true:=by
 unfold opF;rw[hs,if_neg g,if_neg j];simp only[Jm,Bool.or_eq_true,decide_eq_true_eq];exact⟨d,⟨⟨⟨⟨⟨⟨c,hm⟩,i⟩,hb⟩,h⟩,hg⟩,hp⟩⟩
theorem gU{F:Flds}(hs:zi o.code=F)(c:F.a=false)(hb:F.b=false):rR o=o.args:=by unfold rR;rw[hs,c,hb];rfl
theorem fY {c:Int}(h:c=3∨c=4∨c=18∨c=19):zi c=⟨true,true,true,false,false⟩:=by rcases h with rfl|rfl|rfl|rfl<;>rfl
theorem eF {c:Int}(h:5<=c/\c<=17):zi c=⟨true,true,true,true,false⟩:=by
 unfold zi;rw[if_neg Zo,if_neg Zo,if_pos h]
theorem shape_st {c:Int}(h:c=20∨c=21):zi c=⟨true,false,true,true,false⟩:=by rcases h with rfl|rfl<;>rfl
theorem eK {c:Int}(h:c=22∨c=23):zi c=⟨true,true,true,false,true⟩:=by rcases h with rfl|rfl<;>rfl
section
variable {p:IProg} {M:MS} {O P:Nat->Prop} {pl:List Nat}
theorem eA{M:MS}(h:uc o.code=true):(M.emit o).next=M.next+1:=by unfold MS.emit;simp only[h,if_true]
theorem gS{M:MS}(h:uc o.code=false):(M.emit o).next=M.next/\(M.emit o).vals=M.vals:=by unfold MS.emit;simp only[h];exact⟨rfl,rfl⟩
theorem gy{M:MS}(h:uc o.code=true):(M.emit o).vals=M.vals++ [(M.next:Int)]:=by unfold MS.emit;simp only[h,if_true]
theorem fS{M:MS}(h:uc o.code=true):(M.next:Int)∈(M.emit o).vals:=by rw[gy h];simp
theorem abw{M:MS}(h:uc o.code=true):(eg M o).res=(M.next:Int):=by unfold eg;simp only[h,if_true]
theorem gX{M:MS}(h:uc o.code=false):(eg M o).res=-1:=by unfold eg;simp only[h];rfl
theorem MInv.emit(h:aaz p M O P pl)(d:O M.cur)(ho:opF p (eg M o)=true)(c:∀v∈rR o,∀b,M.f[M.cur]? =some b->Kn M.f pl v M.cur b.ops.length):aaz p (M.emit o) O P pl:=by
 obtain⟨b,hb⟩:=h.get
 show MInv p (wD M.f M.cur _) M.cur _ _ O P pl
 rw[xI hb];refine h.push hb d ho (fun v hv=>c v hv b hb) ?_
 cases hr:uc o.code with
 |true=>exact .inl ⟨abw hr,eA hr,by rw[abw hr];exact gy hr⟩
 |false=>exact .inr ⟨by rw[gX hr];decide,(gS hr).1,(gS hr).2⟩
theorem MInv.at (h:aaz p M O P pl){v:Int}(hv:v∈M.vals):∀b,M.f[M.cur]? =some b->Kn M.f pl v M.cur b.ops.length:=fun b hb=>h.known v hv b hb
theorem MInv.emitK (h:aaz p M O P pl)(m:O M.cur){c:Int}{F:Flds}(hs:zi c=F)(g:F.is=true/\F.res=true)(j:c≠26)(o:c≠2)(k:c≠25){a b:Int}{n:Nat}(i:(F.a=true/\∀x,M.f[M.cur]? =some x->Kn M.f pl a M.cur x.ops.length)∨(F.a=false/\a=0))(hb:(F.b=true/\∀x,M.f[M.cur]? =some x->Kn M.f pl b M.cur x.ops.length)∨(F.b=false/\b=0))
 (l:F.n=true∨n=0) (hp:c≠24∨(1<=n/\n<=255)):aaz p (M.emit ⟨c,0,a,b,n,[]⟩) O P pl/\(M.next:Int)∈(M.emit ⟨c,0,a,b,n,[]⟩).vals:=by
 have hr:uc c=true:=by unfold uc;rw[hs,g.2];rfl
 have d:uc (⟨c,0,a,b,n,[]⟩:IOp).code=true:=hr;refine⟨h.emit m ?_ ?_,fS d⟩
 ·refine opF_of (F:=F) hs j o g.1 ?_ ?_ ?_ ?_ l rfl (hp.imp (fun e=>⟨e,k⟩) (fun e=>e))
  ·rw[abw d,g.2];simp
  ·rw[abw d];omega
  ·exact i.imp (·.1) (·.2)
  ·exact hb.imp (·.1) (·.2)
 ·intro v hv;unfold rR at hv;simp only[hs,Ua] at hv;rcases Jl.1 hv with hv|hv
  ·rcases i with⟨e1,e2⟩|⟨e1,e2⟩
   ·rw[e1,if_pos rfl,Jo] at hv;subst hv;exact e2
   ·rw[e1] at hv;simp at hv
  ·rcases hb with⟨e1,e2⟩|⟨e1,e2⟩
   ·rw[e1,if_pos rfl,Jo] at hv;subst hv;exact e2
   ·rw[e1] at hv;simp at hv
theorem MInv.emitR (h:aaz p M O P pl)(k:O M.cur){c:Int}{F:Flds}(hs:zi c=F)(l:F.is=true/\F.res=true)(d:c≠26)(m:c≠2)(g:c≠25){a b:Int}{n:Nat}(j:(F.a=true/\a∈M.vals)∨(F.a=false/\a=0))(hb:(F.b=true/\∀x,M.f[M.cur]? =some x->Kn M.f pl b M.cur x.ops.length)∨(F.b=false/\b=0))
 (i:F.n=true∨n=0) (hp:c≠24∨(1<=n/\n<=255)):aaz p (M.emit ⟨c,0,a,b,n,[]⟩) O P pl/\(M.next:Int)∈(M.emit ⟨c,0,a,b,n,[]⟩).vals:=
 h.emitK k hs l d m g (j.imp (fun e=>⟨e.1,h.at e.2⟩) (fun e=>e)) hb i hp
theorem MInv.emitN (h:aaz p M O P pl)(m:O M.cur){c:Int}{F:Flds}(hs:zi c=F)(i:F.is=true/\F.res=false)(g:c≠26)(o:c≠2)(k:c≠24){a b:Int}{n:Nat}(j:(F.a=true/\a∈M.vals)∨(F.a=false/\a=0))(hb:(F.b=true/\b∈M.vals)∨(F.b=false/\b=0))
 (l:F.n=true∨n=0) (hp:c≠25∨(1<=n/\n<=255)):aaz p (M.emit ⟨c,0,a,b,n,[]⟩) O P pl:=by
 have hr:uc c=false:=by unfold uc;rw[hs,i.2];simpa using g
 have d:uc (⟨c,0,a,b,n,[]⟩:IOp).code=false:=hr;refine h.emit m ?_ ?_
 ·refine opF_of (F:=F) hs g o i.1 ?_ ?_ ?_ ?_ l rfl (hp.imp (fun e=>⟨k,e⟩) (fun e=>e))
  ·rw[gX d,i.2];rfl
  ·rw[gX d];decide
  ·exact j.imp (·.1) (·.2)
  ·exact hb.imp (·.1) (·.2)
 ·intro v hv;unfold rR at hv;simp only[hs,Ua] at hv;rcases Jl.1 hv with hv|hv
  ·rcases j with⟨e1,e2⟩|⟨e1,e2⟩
   ·rw[e1,if_pos rfl,Jo] at hv;subst hv;exact h.at e2
   ·rw[e1] at hv;simp at hv
  ·rcases hb with⟨e1,e2⟩|⟨e1,e2⟩
   ·rw[e1,if_pos rfl,Jo] at hv;subst hv;exact h.at e2
   ·rw[e1] at hv;simp at hv
theorem MInv.num (h:aaz p M O P pl)(d:O M.cur)(n:Nat):aaz p (M.num n) O P pl/\(M.next:Int)∈(M.num n).vals:=
 h.emitR (c:=1) d (F:=⟨true,true,false,false,true⟩) rfl ⟨rfl,rfl⟩ Zd Zd Zd (.inr ⟨rfl,rfl⟩) (.inr ⟨rfl,rfl⟩) (.inl rfl) (.inl Zd)
theorem MInv.tick (h:aaz p M O P pl):aaz p M.tick O P pl:=h
theorem fE {l:List Int}{k:Nat}(h:k<l.length)(d:Int):l.getD k d∈l:=by
 rw[Jj,Jd h];exact Uf h
theorem MInv.any (E:ME)(h:aaz p M O P pl)(c:O M.cur):aaz p (zJ E M).2 O P pl/\(zJ E M).1∈(zJ E M).2.vals:=by
 unfold zJ
 split
 ·exact h.tick.num c _
 ·rename_i d
  split
  ·refine⟨h,fE ?_ _⟩
   show _<M.vals.length
   omega
  ·refine⟨h,fE ?_ _⟩;exact aaE E M Zo
theorem MInv.addr (E:ME)(hp:EnvOk p E)(h:aaz p M O P pl)(c:O M.cur):aaz p (yJ E M).2 O P pl/\(yJ E M).1∈(yJ E M).2.vals:=by
 unfold yJ
 split
 ·exact h.tick.any E c
 ·have hr:uc (2:Int)=true:=rfl;refine⟨MInv.emit (M:=M.tick.tick.tick) h c ?_ (fun v hv=>?_),fS (M:=M.tick.tick.tick) hr⟩
  ·have d:=aaE E M.tick (n:=2) Zo;unfold opF;rw[show(eg M.tick.tick.tick ⟨2,0,((tkV E M.tick 2:Nat):Int),0,tkV E M.tick.tick (sE (tkV E M.tick 2)),[]⟩).code=2 from rfl,if_neg Zd,if_pos rfl,abw hr];simp only[Jm,decide_eq_true_eq,hp.data];exact⟨rfl,⟨⟨⟨⟨by show(0:Int)<=((tkV E M.tick 2:Nat):Int);omega,by show((tkV E M.tick 2:Nat):Int)<((3:Nat):Int);omega⟩,by omega⟩,rfl⟩,rfl⟩⟩
  ·rw[gU (F:=⟨true,true,false,false,true⟩) rfl rfl rfl] at hv;simp at hv
theorem MInv.args (E:ME)(h:aaz p M O P pl)(d:O M.cur):∀n,aaz p (yI E n M).2 O P pl/\(yI E n M).1.length=n/\(∀v∈(yI E n M).1,v∈(yI E n M).2.vals)/\(yI E n M).2.cur=M.cur
 |0=>⟨h,rfl,fun v hv=>by simp[yI] at hv,rfl⟩
 |n+1=>by
  obtain⟨h1,h2,h3,h4⟩:=MInv.args E h d n;have c:O (yI E n M).2.cur:=by rw[h4];exact d
  obtain⟨i,g⟩:=h1.any E c;have hg:=yU E (yI E n M).2;refine⟨i,?_,fun v hv=>?_,hg.cur.trans h4⟩
  ·show(_++ [_]).length=_
   rw[Jk,h2];rfl
  ·rcases Jl.1 hv with hv|hv
   ·exact hg.pre.subset (h3 v hv)
   ·rw[Jo] at hv;subst hv;exact g
theorem MInv.call (E:ME)(hp:EnvOk p E)(h:aaz p M O P pl)(c:O M.cur):aaz p (vN E M) O P pl:=by
 unfold vN
 split
 ·exact h
 ·rename_i m
  simp only
  split
  ·exact h
  ·obtain⟨d,k,j,i⟩:=MInv.args E h.tick c (E.args.getD (E.me+1+tkV E M (E.nf-E.me-1)) 0).toNat;have o:=aaE E M (n:=E.nf-E.me-1) Zo
   have l:0<=E.args.getD (E.me+1+tkV E M (E.nf-E.me-1)) 0:=by
    rw[Jj]
    cases g:E.args[E.me+1+tkV E M (E.nf-E.me-1)]? with
    |none=>simp
    |some x=>exact(hp.alt x (Ji g)).1
   have hf:E.me+1+tkV E M (E.nf-E.me-1)<E.nf:=Zo;generalize E.me+1+tkV E M (E.nf-E.me-1)=f at *;have hr:uc (26:Int)=true:=rfl;refine d.emit (by rw[i];exact c) ?_ (fun v hv=>?_)
   ·unfold opF;rw[if_pos (show(eg (yI E (E.args.getD f 0).toNat M.tick).2 ⟨26,0,(f:Nat),0,0,(yI E (E.args.getD f 0).toNat M.tick).1⟩).code=26 from rfl)];simp only[Jm,decide_eq_true_eq,hp.nf,hp.args];refine⟨rfl,⟨⟨⟨⟨⟨by show(0:Int)<=((f:Nat):Int);omega,by show((f:Nat):Int)<_;omega⟩,?_⟩,?_⟩,rfl⟩,rfl⟩⟩
    ·show(((yI E (E.args.getD f 0).toNat M.tick).1.length:Nat):Int)=E.args.getD ((f:Nat):Int).toNat 0
     rw[k,Ni,Oa l]
    ·rw[abw hr];omega
   ·rw[gU (F:=⟨true,false,false,false,false⟩) rfl rfl rfl] at hv;exact d.at (j v hv)
theorem MInv.arith (E:ME)(h:aaz p M O P pl)(m:O M.cur):aaz p (yR E M) O P pl:=by
 obtain⟨u,t⟩:=h.any E m;have g1:=yU E M;have k:O (zJ E M).2.cur:=by rw[g1.cur];exact m
 obtain⟨q,l⟩:=u.any E k;have g2:=yU E (zJ E M).2;have d:O (zJ E (zJ E M).2).2.cur:=by rw[g2.cur];exact k
 have i:=g2.pre.subset t;unfold yR;simp only;have w:=aaE E (zJ E (zJ E M).2).2 (n:=13) Zo;generalize tkV E (zJ E (zJ E M).2).2 13=r at *;generalize zJ E (zJ E M).2=b at *;generalize (zJ E M).1=a at *;have g:aaz p b.2.tick O P pl:=q
 split
 ·split
  ·obtain⟨k1,k2⟩:=MInv.num (M:=b.2.tick.tick) g d 1;have kb:b.1∈(b.2.tick.tick.num 1).vals:=(wT b.2.tick.tick 1).pre.subset l;have ka:a∈(b.2.tick.tick.num 1).vals:=(wT b.2.tick.tick 1).pre.subset i;have j:O (b.2.tick.tick.num 1).cur:=by rw[(wT b.2.tick.tick 1).cur];exact d
   obtain⟨k3,k4⟩:=k1.emitR (c:=10) j (F:=⟨true,true,true,true,false⟩) rfl ⟨rfl,rfl⟩ Zd Zd Zd (a:=b.1) (b:=(b.2.tick.tick.next:Nat)) (n:=0) (.inl ⟨rfl,kb⟩) (.inl ⟨rfl,k1.at k2⟩) (.inr rfl) (.inl Zd);have g3:=yB (b.2.tick.tick.num 1) ⟨10,0,b.1,(b.2.tick.tick.next:Nat),0,[]⟩;have o:(b.2.tick.tick.num 1).next=b.2.tick.tick.next+1:=rfl;rw[o] at k4;exact(k3.emitR (c:=8) (by rw[g3.cur];exact j) (F:=⟨true,true,true,true,false⟩) rfl ⟨rfl,rfl⟩ Zd Zd Zd (a:=a) (b:=((b.2.tick.tick.next+1:Nat):Int)) (n:=0) (.inl ⟨rfl,g3.pre.subset ka⟩) (.inl ⟨rfl,k3.at k4⟩) (.inr rfl) (.inl Zd)).1
  ·exact(MInv.emitR (M:=b.2.tick.tick) g (c:=8) d (F:=⟨true,true,true,true,false⟩) rfl ⟨rfl,rfl⟩ Zd Zd Zd (a:=a) (b:=b.1) (n:=0) (.inl ⟨rfl,i⟩) (.inl ⟨rfl,MInv.at (M:=b.2.tick.tick) g l⟩) (.inr rfl) (.inl Zd)).1
 ·exact(MInv.emitR (M:=b.2.tick) g (c:=((5+r:Nat):Int)) d (F:=⟨true,true,true,true,false⟩) (eF Zo) ⟨rfl,rfl⟩ Zo Zo Zo (a:=a) (b:=b.1) (n:=0) (.inl ⟨rfl,i⟩) (.inl ⟨rfl,MInv.at (M:=b.2.tick) g l⟩) (.inr rfl) (.inl Zo)).1
theorem MInv.op (E:ME)(hp:EnvOk p E)(h:aaz p M O P pl)(d:O M.cur):aaz p (xK E M) O P pl:=by
 unfold xK;simp only;have ht:aaz p M.tick O P pl:=h;have l:O M.tick.cur:=d
 split
 ·exact(MInv.num (M:=M.tick.tick) h d _).1
 split
 ·obtain⟨j,i⟩:=MInv.any (M:=M.tick.tick) E h d;have k:=aaE E M.tick (n:=2) Zo;exact(j.emitR (c:=3+((tkV E M.tick 2:Nat):Int)) (by rw[(yU E M.tick.tick).cur];exact d) (F:=⟨true,true,true,false,false⟩) (fY Zo) ⟨rfl,rfl⟩ Zo Zo Zo (.inl ⟨rfl,i⟩) (.inr ⟨rfl,rfl⟩) (.inr rfl) (.inl Zo)).1
 split
 ·obtain⟨j,i⟩:=MInv.addr (M:=M.tick) E hp h d;have k:=aaE E (yJ E M.tick).2 (n:=2) Zo;exact(MInv.emitR (M:=(yJ E M.tick).2.tick) j (c:=18+((tkV E (yJ E M.tick).2 2:Nat):Int)) (by show O (yJ E M.tick).2.cur;rw[(ue E M.tick).cur];exact d) (F:=⟨true,true,true,false,false⟩) (fY Zo) ⟨rfl,rfl⟩ Zo Zo Zo (.inl ⟨rfl,i⟩) (.inr ⟨rfl,rfl⟩) (.inr rfl) (.inl Zo)).1
 split
 ·obtain⟨j,i⟩:=MInv.addr (M:=M.tick) E hp h d;have m:O (yJ E M.tick).2.cur:=by rw[(ue E M.tick).cur];exact d
  obtain⟨q,o⟩:=j.any E m;have g:=yU E (yJ E M.tick).2;have k:=aaE E (zJ E (yJ E M.tick).2).2 (n:=2) Zo;exact MInv.emitN (M:=(zJ E (yJ E M.tick).2).2.tick) q (c:=20+((tkV E (zJ E (yJ E M.tick).2).2 2:Nat):Int)) (by show O (zJ E (yJ E M.tick).2).2.cur;rw[g.cur];exact m) (F:=⟨true,false,true,true,false⟩) (shape_st Zo) ⟨rfl,rfl⟩ Zo Zo Zo (.inl ⟨rfl,g.pre.subset i⟩) (.inl ⟨rfl,o⟩) (.inr rfl) (.inl Zo)
 split
 ·have k:=aaE E M.tick (n:=3) Zo;exact(MInv.emitR (M:=M.tick.tick) h (c:=24) d (F:=⟨true,true,false,false,true⟩) rfl ⟨rfl,rfl⟩ Zd Zd Zd (.inr ⟨rfl,rfl⟩) (.inr ⟨rfl,rfl⟩) (.inl rfl) (.inr ⟨by omega,by omega⟩)).1
 split
 ·obtain⟨j,i⟩:=MInv.any (M:=M.tick) E h d;have k:=aaE E (zJ E M.tick).2 (n:=3) Zo;exact MInv.emitN (M:=(zJ E M.tick).2.tick) j (c:=25) (by show O (zJ E M.tick).2.cur;rw[(yU E M.tick).cur];exact d) (F:=⟨true,false,true,false,true⟩) rfl ⟨rfl,rfl⟩ Zd Zd Zd (.inl ⟨rfl,i⟩) (.inr ⟨rfl,rfl⟩) (.inl rfl) (.inr ⟨by omega,by omega⟩)
 split
 ·obtain⟨j,i⟩:=MInv.num (M:=M.tick.tick) h d (tkV E M.tick 4096);have k:=aaE E (M.tick.tick.num (tkV E M.tick 4096)) (n:=2) Zo;exact(MInv.emitR (M:=(M.tick.tick.num (tkV E M.tick 4096)).tick) j (c:=22+((tkV E (M.tick.tick.num (tkV E M.tick 4096)) 2:Nat):Int)) (by show O (M.tick.tick.num (tkV E M.tick 4096)).cur;rw[(wT M.tick.tick (tkV E M.tick 4096)).cur];exact d) (F:=⟨true,true,true,false,true⟩) (eK Zo) ⟨rfl,rfl⟩ Zo Zo Zo (.inl ⟨rfl,i⟩) (.inr ⟨rfl,rfl⟩) (.inl rfl) (.inl Zo)).1
 split
 ·exact ht.call E hp l
 split
 ·split
  ·exact MInv.emitN (M:=M.tick.tick) h (c:=27) d (F:=⟨true,false,false,false,false⟩) rfl ⟨rfl,rfl⟩ Zd Zd Zd (.inr ⟨rfl,rfl⟩) (.inr ⟨rfl,rfl⟩) (.inr rfl) (.inl Zd)
  ·exact h
 ·exact ht.arith E l
theorem fC (E:ME)(hE:∀x∈E.args,0<=x/\x<4):∀(n:Nat) (M:MS),(qY E n M).cur=M.cur
 |0,M=>rfl
 |n+1,M=>(fC E hE n _).trans (pX E hE M).cur
theorem MInv.opsN (E:ME)(hp:EnvOk p E):∀(n:Nat) (M:MS),aaz p M O P pl->O M.cur->aaz p (qY E n M) O P pl
 |0,M,h,hO=>h
 |n+1,M,h,hO=>MInv.opsN E hp n (xK E M) (h.op E hp hO) (by rw[(pX E hp.alt M).cur];exact hO)
theorem MInv.run (E:ME)(hp:EnvOk p E)(h:aaz p M O P pl)(c:O M.cur):aaz p (tR E M) O P pl/\(tR E M).cur=M.cur:=
 ⟨MInv.opsN E hp _ M.tick h c,fC E hp.alt _ M.tick⟩
end
theorem agk{d d':wO}{v i:Int}(h:rB d v i k=some d')(j:∀x b a,d.1 x=some b->d.2 x=some a->W x b a)(hv:W v i k):∀x b a,d'.1 x=some b->d'.2 x=some a->W x b a:=by
 unfold rB at h
 split at h
 ·cases h
 ·cases h;intro x b a g c
  change lS d.1 v i x=some b at g
  change lS d.2 v k x=some a at c
  unfold lS at g c
  by_cases e:x=v
  ·rw[if_pos e] at g c;cases g;cases c;rw[e];exact hv
  ·rw[if_neg e] at g c;exact j x b a g c
theorem afI{i:Int}:∀(l:List Int) (d d':wO),vJ i l d=some d'->(∀x b a,d.1 x=some b->d.2 x=some a->W x b a)->(∀v∈l,W v i (-1))->∀x b a,d'.1 x=some b->d'.2 x=some a->W x b a
 | [],d,d',h,hW,_=>by cases h;exact hW
 |v::l,d,d',h,hW,hl=>by
  unfold vJ at h
  cases h1:rB d v i (-1) with
  |none=>rw[h1] at h;cases h
  |some d1=>
   rw[h1,Nw] at h;exact afI l d1 d' h (agk h1 hW (hl v (.head _))) fun u hu=>hl u (.tail _ hu)
theorem afh{p:IProg}{i:Int}:∀(l:List IOp) (k:Int) (d d':wO),sS p i l k d=some d'->(∀x b a,d.1 x=some b->d.2 x=some a->W x b a)->(∀(j:Nat) o,l[j]? =some o->0<=o.res->W o.res i (k+j))->∀x b a,d'.1 x=some b->d'.2 x=some a->W x b a
 | [],k,d,d',h,hW,_=>by cases h;exact hW
 |o::l,k,d,d',h,hW,hl=>by
  unfold sS at h
  split at h
  ·split at h
   ·rename_i h0
    cases h1:rB d o.res i k with
    |none=>rw[h1] at h;cases h
    |some d1=>
     rw[h1,Nw] at h;refine afh l (k+1) d1 d' h (agk h1 hW ?_) fun j x hx h2=>?_
     ·have:=hl 0 o rfl h0
      simpa using this
     ·have:=hl (j+1) x hx h2
      rwa [show k+((j+1:Nat):Int)=k+1+(j:Int) by omega] at this
   ·refine afh l (k+1) d d' h hW fun j x hx h2=>?_
    have:=hl (j+1) x hx h2
    rwa [show k+((j+1:Nat):Int)=k+1+(j:Int) by omega] at this
  ·cases h
theorem afJ{p:IProg}:∀(l:List IBlk) (i:Int) (d d':wO),uH p bl l i d=some d'->(∀x b a,d.1 x=some b->d.2 x=some a->W x b a)->
 (∀(j:Nat) b,l[j]? =some b->(∀v∈b.params,W v (i+j) (-1))/\∀(k:Nat) o,b.ops[k]? =some o->0<=o.res->W o.res (i+j) k)->∀x b a,d'.1 x=some b->d'.2 x=some a->W x b a
 | [],i,d,d',h,hW,_=>by cases h;exact hW
 |b::l,i,d,d',h,hW,hl=>by
  unfold uH at h
  cases h1:pS p bl i b d with
  |none=>rw[h1] at h;cases h
  |some d1=>
   rw[h1,Nw] at h;have h0:=hl 0 b rfl;rw[show i+((0:Nat):Int)=i by omega] at h0;refine afJ l (i+1) d1 d' h ?_ fun j x hx=>?_
   ·unfold pS at h1
    cases g:vJ i b.params d with
    |none=>rw[g] at h1;cases h1
    |some d2=>
     rw[g,Nw] at h1
     cases c:sS p i b.ops 0 d2 with
     |none=>rw[c] at h1;cases h1
     |some d3=>
      rw[c,Nw] at h1
      split at h1
      ·cases h1
       exact afh b.ops 0 d2 _ c (afI b.params d d2 g hW h0.1) fun j o ho h4=>by
        rw[Ub];exact h0.2 j o ho h4
      ·cases h1
   ·have:=hl (j+1) x hx
    rwa [show i+((j+1:Nat):Int)=i+1+(j:Int) by omega] at this
def DefIn (b:IBlk)(v:Int):Prop:=v∈b.params∨∃o∈b.ops,o.res=v/\0<=v
def Avail (bl:List IBlk)(i k:Nat)(v:Int):Prop:=
 ((xz bl i).params.contains v=true∨∃j o,j<k/\(xz bl i).ops[j]? =some o/\o.res=v/\0<=v)∨∃c:Nat,c≠i/\c<bl.length/\Dom (GE (zy bl)) c i/\DefIn (xz bl c) v
theorem y7{b:IBlk}(h:bl[i]? =some b):xz bl (i:Int)=b:=by
 unfold xz;rw[Ni,Jj,h];rfl
structure StF (p:IProg) (bl:List IBlk):Prop where
 vg:zw (zy bl)
 all:∀i,i<bl.length->Reach (GE (zy bl)) i
 use:∀(i k:Nat) o,i<bl.length->(xz bl i).ops[k]? =some o->∀v∈rR o,Avail bl i k v
 ends:∀i:Nat,i<bl.length->∀v∈mE (xz bl i).term,Avail bl i (xz bl i).ops.length v
 opok:∀i:Nat,i<bl.length->∀o∈(xz bl i).ops,opF p o=true
 trm:∀i:Nat,i<bl.length->wn bl (xz bl i).term=true
theorem afA{p:IProg}{d:wO}(hv:zw (zy bl))(hd:wg p bl=some d){k:Nat}(hi:i<bl.length){v:Int}(h:yy d (zy bl) i k v=true):Avail bl i k v:=by
 have a1:=afJ (W:=fun v b a=>∃blk,bl[b.toNat]? =some blk/\0<=b/\((a=-1/\v∈blk.params)∨(0<=a/\∃o,blk.ops[a.toNat]? =some o/\o.res=v/\0<=v))) bl 0 _ d hd (fun x b a w _=>by cases w) fun j b hb=>by
  refine⟨fun u hu=>⟨b,?_,by omega,.inl ⟨rfl,hu⟩⟩,fun m o ho h0=>⟨b,?_,by omega,.inr ⟨by omega,o,?_,rfl,h0⟩⟩⟩
  ·rw[show(0+(j:Int)).toNat=j by omega];exact hb
  ·rw[show(0+(j:Int)).toNat=j by omega];exact hb
  ·rw[Ni];exact ho
 unfold yy at h
 split at h
 ·rename_i b a w h2
  simp only[Jm,Bool.not_eq_true',Bool.and_eq_false_iff,decide_eq_false_iff_not] at h;obtain⟨h3,h4⟩:=h;obtain⟨blk,hb,h0,c⟩:=a1 v b a w h2;have a0:=(Jh.1 hb).1
  by_cases e:b=(i:Int)
  ·subst e;rw[Ni] at hb;have hk:a<(k:Int):=Zo;refine .inl ?_;rw[y7 hb];rcases c with⟨_,g⟩|⟨g,o,t,q,l⟩
   ·exact .inl (by simpa using g)
   ·exact .inr ⟨a.toNat,o,by omega,t,q,l⟩
  ·have y:=(yO hv b.toNat i).1 (by simpa using h4);refine .inr ⟨b.toNat,by omega,a0,y.2.2,?_⟩;rw[y7 hb];rcases c with⟨_,g⟩|⟨g,o,t,q,l⟩
   ·exact .inl g
   ·exact .inr ⟨o,Ji t,q,l⟩
 ·cases h
theorem stF_of{p:IProg}{n:Nat}(hn:p.funcs[n]? =some bl)(h0:bl≠ [])(h:yi p n=true):StF p bl:=by
 cases bl with
 |nil=>exact absurd rfl h0
 |cons b0 bs=>
  obtain⟨_,d,q,hr⟩:=tF hn h;have g:=rV (b0::bs) 0 _ d (show uH p (b0::bs) (b0::bs) 0 _=some d from q);have hv:zw (zy (b0::bs)):=nO h0 fun b hb=>(g b hb).2
  unfold iM at hr;simp only[Jm,decide_eq_true_eq] at hr;obtain⟨w,u⟩:=hr;have t:=(aj hv).1 (by rw[w,xu])
  have c:∀i:Nat,i<(b0::bs).length->(b0::bs)[i]? =some (xz (b0::bs) i)/\xz (b0::bs) i∈(b0::bs):=fun i hi=>by
   obtain⟨x,m⟩:∃x,(b0::bs)[i]? =some x:=⟨_,Jd hi⟩
   rw[y7 m];exact⟨m,Ji m⟩
  have l:∀i:Nat,i<(b0::bs).length->aaC d (zy (b0::bs)) (xz (b0::bs) i) i=true:=fun i hi=>by
   have:=(cB (b0::bs) 0).1 u i _ (c i hi).1
   rwa [Ub] at this
  refine⟨hv,fun i hi=>?_,fun i k o hi ho v hvu=>?_,fun i hi v hve=>?_,fun i hi o ho=>?_,fun i hi=>(g _ (c i hi).2).2⟩
  ·exact((yO hv 0 i).1 (t i (by rw[xu];exact hi))).2.1
  ·have j:=l i hi;unfold aaC at j;rw[Jm] at j;have y:=(dF _ 0).1 j.1 k o ho;rw[Ub] at y;exact afA hv q hi (Oe.1 y v hvu)
  ·have j:=l i hi;unfold aaC at j;rw[Jm] at j;exact afA hv q hi (Oe.1 j.2 v hve)
  ·exact(g _ (c i hi).2).1 o ho
end Go.Proofs.Ytoahcpkibpomcaa
