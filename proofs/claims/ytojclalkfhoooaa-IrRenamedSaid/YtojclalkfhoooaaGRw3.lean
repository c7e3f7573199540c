/- Part of a proof. -/
import Derived.Test.YtojclalkfhoooaaGRn1
import Derived.Test.YtojclalkfhoooaaGWrp0
set_option linter.all false
set_option maxHeartbeats 8000000
set_option maxRecDepth 100000
namespace Go.Proofs.Ytojclalkfhoooaa
open Go.RowKit
variable {d g i j k o5 p1:Nat}{u:Value}{r r':Row}{rs:List Row}{xs:List Int}{kd x:Int}{w wx:World}{pc:List Value}
def mpK {α:Type}(g:α->α)(l:List α)(k:Nat):List α:=(l.take k).map g++l.drop k
theorem aed {α:Type}(g:α->α)(l:List α)(k:Nat):(mpK g l k).length=l.length:=by
 unfold mpK;rw[Jk,Nr,Oc,List.length_drop];omega
theorem aee {α:Type}(g:α->α)(l:List α):mpK g l l.length=l.map g:=by unfold mpK;rw[Nl,List.drop_length,Ua]
theorem adZ{α:Type}(g:α->α){l:List α}{x:α}(h:l[k]? =some x):(mpK g l k)[k]? =some x:=by
 have hl:=(Jh.1 h).1;unfold mpK;rw[Nc (by rw[Nr,Oc];omega),Nr,Oc,show k-min k l.length=0 by omega,List.getElem?_drop,Uk];exact h
theorem aea{α:Type}(g:α->α){l:List α}{x:α}(h:l[k]? =some x):(mpK g l k).set k (g x)=mpK g l (k+1):=by
 obtain⟨hl,e⟩:=Jh.1 h;unfold mpK;rw[Uj _ _ (by rw[Nr,Oc];omega),Nr,Oc,show k-min k l.length=0 by omega,Nh,h,Js];rw[show l.drop k=x::l.drop (k+1) by rw[<-e,Ue]];rw[Jf];simp
theorem aef{α β:Type}(f:α->List β){l:List α}{b:α}(hk:l[k]? =some b):(l.flatMap f).Perm (f b++(l.eraseIdx k).flatMap f):=by
 obtain⟨c,hb⟩:=Jh.1 hk
 have e1:l=l.take k++b::l.drop (k+1):=by
  rw[<-hb,Ue,Qi]
 rw[List.eraseIdx_eq_take_drop_succ]
 conv=>lhs;rw[e1]
 classical
 refine Jp.2 fun y=>?_
 simp only[Nx,Qa,Nb];omega
theorem ad1{α β:Type}(f:α->β){l:List α}{b:α}(hk:l[k]? =some b):(l.map f).Perm (f b::(l.eraseIdx k).map f):=by
 have:=aef (fun a=> [f a]) hk;rw[<-Qh,<-Qh] at this;exact this
theorem ad7{α β:Type}(f:α->β){l:List α}(hk:k<l.length)(a:α):((l.set k a).map f).Perm (f a::(l.eraseIdx k).map f):=by
 have h:=ad1 f (l:=l.set k a) (k:=k) (b:=a) (by rw[Nn hk]);rw[List.eraseIdx_set_eq] at h;exact h
structure RwMid (w:World) (p1 o5:Nat) (pc:List Value) (BX:List (Nat×List Value×TypeId)) (RS:List Row) (wx:World):Prop where
 hr:wx.heap[p1+1]? =some (.cells #[.slice none 0 0,.slice none 0 0,.int .i64 0,.int .i64 0,.slice none 0 0,.slice none 0 0] 29 (0,0))
 ho:wx.heap[o5]? =some (.cells pc.toArray 29 (0,0))
 bx:∀x∈BX,wx.heap[x.1]? =some (.cells x.2.1.toArray x.2.2 (0,0))/\o5<x.1/\x.1 ∉ RS.filterMap Row.blk
 bel:Below p1 w wx
 base:p1=w.heap.size
 rows:Rows wx (p1+1+1) RS
 far:o5 ∉ RS.filterMap Row.blk
 nd:(BX.map (·.1)).Nodup
 ge:p1+1<o5
section
variable {w:World} {p1 o5:Nat} {pc:List Value} {BX:List (Nat×List Value×TypeId)} {RS:List Row} {wx:World} (h:RwMid w p1 o5 pc BX RS wx)
include h
theorem RwMid.lt:p1+1<o5/\o5<wx.heap.size:=⟨h.ge,lt_of_block h.ho⟩
theorem RwMid.perm {RS':List Row}(hp:RS.Perm RS'):RwMid w p1 o5 pc BX RS' wx:=
 ⟨h.hr,h.ho,fun x hx=>⟨(h.bx x hx).1,(h.bx x hx).2.1,fun e=>(h.bx x hx).2.2 ((hp.filterMap Row.blk).mem_iff.2 e)⟩,h.bel,h.base,h.rows.perm hp,fun e=>h.far ((hp.filterMap Row.blk).mem_iff.2 e),h.nd,h.ge⟩
theorem RwMid.drop {R1 R2:List Row}(e:RS=R1++R2):RwMid w p1 o5 pc BX R2 wx:=by
 subst e;have hs:∀k,k∈R2.filterMap Row.blk->k∈(R1++R2).filterMap Row.blk:=fun k hk=>by rw[List.filterMap_append];exact Qf _ hk
 exact⟨h.hr,h.ho,fun x hx=>⟨(h.bx x hx).1,(h.bx x hx).2.1,fun e=>(h.bx x hx).2.2 (hs _ e)⟩,h.bel,h.base,h.rows.right,fun e=>h.far (hs _ e),h.nd,h.ge⟩
theorem RwMid.below {w':World}(hb:F wx w'):RwMid w p1 o5 pc BX RS w':=
 ⟨zH hb h.hr (lt_of_block h.hr),zH hb h.ho (lt_of_block h.ho),fun x hx=>⟨zH hb (h.bx x hx).1 (lt_of_block (h.bx x hx).1),(h.bx x hx).2⟩,h.bel.trans (hb.mono (by have:=h.lt;omega)),h.base,h.rows.below hb,h.far,h.nd,h.ge⟩
theorem RwMid.box (cs:List Value)(t:TypeId):RwMid w p1 o5 pc ((wx.heap.size,cs,t)::BX) RS (wx.alloc (U cs.toArray t)):=by
 have h1:=h.below ((Below.refl _ _).alloc (Je _) (U cs.toArray t));refine⟨h1.hr,h1.ho,fun x c=>?_,h1.bel,h1.base,h1.rows,h1.far,?_,h1.ge⟩
 ·rcases Jq.1 c with rfl|c
  ·exact⟨zI rfl,h.lt.2,fun e=>by have:=(h.rows.lt e).2;simp at this⟩
  ·exact h1.bx x c
 ·rw[Ql];refine Qt.2 ⟨fun e=>?_,h.nd⟩;obtain⟨x,c,e2⟩:=Nu.1 e;have:=lt_of_block (h.bx x c).1;have e3:x.1=wx.heap.size:=e2;omega
theorem RwMid.few {B1 B2:List (Nat×List Value×TypeId)}(e:BX=B1++B2):RwMid w p1 o5 pc B2 RS wx:=by
 subst e;exact⟨h.hr,h.ho,fun x hx=>h.bx x (Qf _ hx),h.bel,h.base,h.rows,h.far,by have:=h.nd;rw[Js] at this;exact(Qq.1 this).2.1,h.ge⟩
theorem RwMid.swap {B1:List (Nat×List Value×TypeId)}(hp:BX.Perm B1):RwMid w p1 o5 pc B1 RS wx:=
 ⟨h.hr,h.ho,fun x hx=>h.bx x (hp.mem_iff.2 hx),h.bel,h.base,h.rows,h.far,(hp.map (·.1)).nodup_iff.1 h.nd,h.ge⟩
theorem RwMid.setB{b:Nat}{cs:List Value}{t:TypeId}{B2:List (Nat×List Value×TypeId)}(e:BX=(b,cs,t)::B2):RwMid w p1 o5 pc ((b,cs.set i u,t)::B2) RS (wx.setCell ⟨b,i,none⟩ u):=by
 subst e;have hg:=h.ge;obtain⟨h1,h2,h3⟩:=h.bx _ (.head _);have hnd:=h.nd;rw[Ql,Qt] at hnd;have h2:o5<b:=h2;refine⟨zR h.hr (by show p1+1≠b;omega),zR h.ho (by show o5≠b;omega),fun x c=>?_,h.bel.setCell (by show p1<=b;omega) _,h.base,?_,h.far,?_,h.ge⟩
 ·rcases Jq.1 c with rfl|c
  ·refine⟨?_,h2,h3⟩
   show(wx.setCell ⟨b,i,none⟩ u).heap[b]? =_
   rw[zD h1];simp
  ·exact⟨zR (h.bx x (.tail _ c)).1 (fun e=>hnd.1 (Nu.2 ⟨x,c,e⟩)),(h.bx x (.tail _ c)).2⟩
 ·exact h.rows.keep fun k hk=>Below.heap_setCell _ _ _ _ (fun e=>h3 (by have e':k=b:=e;show b∈_;rw[<-e'];exact hk))
 ·rw[Ql,Qt];exact hnd
theorem RwMid.putD(hp:RS.Perm (r::rs))(hg:r.blk=some g)(hv:r'.v=r.v)(j:(wx.setCell ⟨g,i,none⟩ u).ownsRow (p1+1+1) r'.e r'.sz r'.v r'.n r'.cs):RwMid w p1 o5 pc BX (r'::rs) (wx.setCell ⟨g,i,none⟩ u):=by
 have h1:=h.perm hp;have c:g∈(r::rs).filterMap Row.blk:=Nj.2 ⟨r,.head _,hg⟩;have l:=(h1.rows.lt c).1
 have d:(r'::rs).filterMap Row.blk=(r::rs).filterMap Row.blk:=by
  rw[List.filterMap_cons,List.filterMap_cons];have:r'.blk=r.blk:=by unfold Row.blk;rw[hv]
  rw[this]
 have hl:=h.lt;refine⟨zR h.hr (by show p1+1≠g;omega),zR h.ho (fun e=>h1.far (by have e':o5=g:=e;rw[e'];exact c)),fun x hx=>?_,h.bel.setCell (by show p1<=g;omega) _,h.base,?_,by rw[d];exact h1.far,h.nd,h.ge⟩
 ·obtain⟨k1,k2,k3⟩:=h1.bx x hx;exact⟨zR k1 (fun e=>k3 (by have e':x.1=g:=e;rw[e'];exact c)),k2,by rw[d];exact k3⟩
 ·exact h1.rows.putD hg (fun k hk=>Below.heap_setCell _ _ _ _ hk) j hv
theorem RwMid.grow{w1 w9:World}(hp:RS.Perm (r::rs))(c:F wx w1)(hg:w1.grownBy w9 r.blk)
 (l:w9.ownsRow (p1+1+1) r'.e r'.sz r'.v r'.n r'.cs) (j:∀k,r'.blk=some k->r.blk=some k∨wx.heap.size<=k):RwMid w p1 o5 pc BX (r'::rs) w9:=by
 have hl:=h.lt;have h1:=h.perm hp;have g:∀k,r.blk=some k->k∈(r::rs).filterMap Row.blk:=fun k e=>Nj.2 ⟨r,.head _,e⟩
 have keep:∀ {k:Nat} {o:Obj},wx.heap[k]? =some o->(k<p1+1+1∨k ∉ (r::rs).filterMap Row.blk)->w9.heap[k]? =some o:=fun {k o} hk hq=>((hg.block k (Jy (lt_of_block hk) c.size) (fun e=>by
  have m:=g k e.symm;rcases hq with hq|hq
  ·have:=(h1.rows.lt m).1;omega
  ·exact hq m)).trans (c.block k (lt_of_block hk))).trans hk
 have i:∀b,b<wx.heap.size->b ∉ (r::rs).filterMap Row.blk->b ∉ (r'::rs).filterMap Row.blk:=fun b hb hn he=>by
  obtain⟨x,d,e⟩:=Nj.1 he;rcases Jq.1 d with rfl|d
  ·rcases j b e with e2|e2
   ·exact hn (g b e2)
   ·omega
  ·exact hn (Nj.2 ⟨x,.tail _ d,e⟩)
 refine⟨keep h.hr (.inl Zo),keep h.ho (.inr h1.far),fun x d=>?_,?_,h.base,h1.rows.grow c hg l j,i _ Zo h1.far,h.nd,h.ge⟩
 ·obtain⟨k1,k2,k3⟩:=h1.bx x d;exact⟨keep k1 (.inr k3),k2,i _ (lt_of_block k1) k3⟩
 ·refine h.bel.trans ⟨hg.os.trans c.os,hg.tape.trans c.tape,hg.output.trans c.output,Jn c.size hg.size,fun k hk=>?_⟩;exact(hg.block k (by have:=c.size;omega) (fun e=>by have:=(h1.rows.lt (g k e.symm)).1;omega)).trans (c.block k Zo)
theorem RwMid.nil(hr:wx.ownsRow (p1+1+1) r.e r.sz r.v r.n r.cs)(hk:r.blk=none):RwMid w p1 o5 pc BX (r::RS) wx:=by
 refine⟨h.hr,h.ho,fun x hx=>⟨(h.bx x hx).1,(h.bx x hx).2.1,?_⟩,h.bel,h.base,h.rows.cons hr (fun g e=>by rw[hk] at e;cases e),?_,h.nd,h.ge⟩
 ·rw[List.filterMap_cons,hk];exact(h.bx x hx).2.2
 ·rw[List.filterMap_cons,hk];exact h.far
theorem RwMid.getI{v:Value}(hm:zP v xs∈RS)(hk:xs[k]? =some x):∃g c,v=N g xs.length c/\G wx g k (A x)/\T wx g k/\g<wx.heap.size/\v.ownBlock=some g:=by
 have h1:=h.rows.own _ hm;unfold zP at h1;have h2:wx.ownsRow (p1+1+1) 3 1 v xs.length (xs.flatMap fun x=> [zN x]):=by rw[<-Qh];exact h1
 have j:=(Jh.1 hk).1;obtain⟨g,c,e,hg,hb⟩:=h2.form Zo;have d:v.ownBlock=some g:=by rw[e];rfl
 have h3:=z9 (f:=fun x:Int=> [zN x]) (n:=1) (fun _=>rfl) h2 d hk 0 _ rfl;have i:=zq (n:=1) Zd (f:=fun x:Int=> [zN x]) (fun _=>rfl) h2 d hk 0 Zd;rw[Nk] at h3 i;exact⟨g,c,e,h3,i.2,hb,d⟩
theorem RwMid.putI{v:Value}(y:Int)(hp:RS.Perm (zP v xs::rs))(hg:v.ownBlock=some g)(hk:xs[k]? =some x):RwMid w p1 o5 pc BX (zP v (xs.set k y)::rs) (wx.setCell ⟨g,k,none⟩ (A y)):=by
 refine h.putD hp hg rfl ?_;have h1:=(h.perm hp).rows.own _ (.head _);have h2:wx.ownsRow (p1+1+1) 3 1 v xs.length (xs.flatMap fun x=> [zN x]):=by rw[<-Qh];exact h1
 have h3:=ad6 (f:=fun x:Int=> [zN x]) (n:=1) (fun _=>rfl) h2 hg hk (j:=0) (u:=A y) (a:=y) Zd rfl;rw[Nk,Uk,<-Qh] at h3
 show(wx.setCell ⟨g,k,none⟩ (A y)).ownsRow (p1+1+1) 3 1 v (xs.set k y).length ((xs.set k y).map zN)
 rw[Nd];exact h3
theorem RwMid.getS{α:Type}{f:α->List Value}{n:Nat}(i:0<n)(hf:∀a,(f a).length=n){l:List α}(hm:r∈RS)(hr:r.sz=n/\r.n=l.length/\r.cs=l.flatMap f){b:α}(hk:l[k]? =some b):∃g c,r.v=N g l.length c/\(∀j u,(f b)[j]? =some u->G wx g (k*n+j) u)/\(∀j,j<n->T wx g (k*n+j))/\g<wx.heap.size/\r.v.ownBlock=some g:=by
 have h1:=h.rows.own _ hm;rw[hr.1,hr.2.1,hr.2.2] at h1;have m:=(Jh.1 hk).1;obtain⟨g,c,e,hg,hb⟩:=h1.form Zo;have d:r.v.ownBlock=some g:=by rw[e];rfl
 exact⟨g,c,e,z9 hf h1 d hk,fun j hj=>(zq i hf h1 d hk j hj).2,hb,d⟩
theorem RwMid.readS{α:Type}{f:α->List Value}{n:Nat}(c:0<n)(hf:∀a,(f a).length=n){l:List α}(hm:r∈RS)(hr:r.sz=n/\r.n=l.length/\r.cs=l.flatMap f)(hg:r.v.ownBlock=some g){b:α}(hk:l[k]? =some b):(∀j u,(f b)[j]? =some u->G wx g (k*n+j) u)/\(∀j,j<n->T wx g (k*n+j))/\g<wx.heap.size:=by
 have h1:=h.rows.own _ hm;rw[hr.1,hr.2.1,hr.2.2] at h1;exact⟨z9 hf h1 hg hk,fun j hj=>(zq c hf h1 hg hk j hj).2,(h1.lt g hg).2⟩
theorem RwMid.formI{v:Value}(hm:zP v xs∈RS):∃a c,v=.slice a xs.length c:=zG (h.rows.own _ hm)
theorem RwMid.putS{α:Type}{f:α->List Value}{n:Nat}(hf:∀a,(f a).length=n){l:List α}{a b:α}(hp:RS.Perm (r::rs))(hr:r.sz=n/\r.n=l.length/\r.cs=l.flatMap f)(hg:r.v.ownBlock=some g)(hk:l[k]? =some b)(c:j<n)(d:(f b).set j u=f a):
 RwMid w p1 o5 pc BX (⟨r.v,r.e,n,(l.set k a).length,(l.set k a).flatMap f⟩::rs) (wx.setCell ⟨g,k*n+j,none⟩ u):=by
 refine h.putD hp hg rfl ?_;have h1:=(h.perm hp).rows.own _ (.head _);rw[hr.1,hr.2.1,hr.2.2] at h1;have h3:=ad6 hf h1 hg hk c d
 show(wx.setCell ⟨g,k*n+j,none⟩ u).ownsRow (p1+1+1) r.e n r.v (l.set k a).length ((l.set k a).flatMap f)
 rw[Nd];exact h3
end
def aey:List Nat->Code->Code
 | [],c=>c
 |0::p,.seq a _=>aey p a
 |_::p,.seq _ b=>aey p b
 |_::p,.block _ b=>aey p b
 |_::p,.loop b=>aey p b
 |_,c=>c
noncomputable def rnBody:Code:=Try.f30.body.getD .skip
noncomputable def rnCF:Code:=aey [1,1,0,1,0,0,1,0,0] rnBody
noncomputable def rnCB:Code:=aey [1,1,0,1,0,0,1,0,0] rnCF
noncomputable def rnCP:Code:=aey [1] rnCB
noncomputable def rnCT:Code:=aey [1,1,1] rnCB
noncomputable def rnCE:Code:=aey [1,1,1,1,1] rnCB
def gI_ (T:Int):Int->Int:=fun v=>T-v
def gE_ (T:Int)(n:Nat)(q:IEdge×Value):IEdge×Value:=(rnE T n q.1,q.2)
def gO_ (T:Int)(q:IOp×Value):IOp×Value:=(abE T q.1,q.2)
def Sm6 (x:Int):Prop:=-1000000<=x/\x<=1000000
theorem aej (T:Int)(l:List Int):mpK (gI_ T) l l.length=rnL T l:=aee _ _
theorem aeo {v:Value}{l m:List (IEdge×Value)}(hl:l.length=m.length)(h:l.flatMap za=m.flatMap za):xg v l=xg v m:=by unfold xg;rw[hl,h]
theorem ad2{α β:Type}(f:α->List β){l:List α}{a b:α}(h:f a=f b):(l.set k a).flatMap f=(l.set k b).flatMap f:=by
 rcases Nat.lt_or_ge k l.length with hk|hk
 ·rw[List.set_eq_take_append_cons_drop,List.set_eq_take_append_cons_drop,if_pos hk,if_pos hk];simp only[Nx,Qa,h]
 ·rw[List.set_eq_of_length_le hk,List.set_eq_of_length_le hk]
theorem one5 {p o:Value}{k t:Int}{a:Option Addr}{n c:Nat}(hp:p.oneCell'=true)(ho:o.oneCell'=true):∀u∈ [p,o,A k,A t,.slice a n c],u.oneCell'=true:=fun u hu=>by
 simp only[Jq,List.not_mem_nil,or_false] at hu;rcases hu with rfl|rfl|rfl|rfl|rfl
 ·exact hp
 ·exact ho
 ·rfl
 ·rfl
 ·rfl
theorem ad5{g8_ t n:Nat}{T ta b6:Int}{gv pv ov tv:Value}{tos:List (IEdge×Value)}{gl:List BT}{nb:BT}{rest:List Row}(hT:0<=T/\T<=65535)(hn:n<=1000000)(x9:∀q∈tos,(1<=q.1.block/\q.1.block<(n:Int))/\(∀x∈q.1.args,Sm6 x)/\q.1.args.length<=1000000)(G9:tos.length<=1000000)(hgl:gl.length<=1000000)(l1:pv.oneCell'=true/\ov.oneCell'=true/\tv.oneCell'=true)(y0:zz nb=[pv,ov,A kd,A ta,tv])
 (hm:RwMid w p1 o5 pc [(t,[A kd,A b6,tv],47),(d,[pv,ov,A kd,A ta,tv],49),(g8_,[gv],43)] (xg tv tos::(ve tos++(zd gv gl::rest))) wx) (u0 u2 u3 u4 u6 u9 x7 x6 x5 x4 x3 F8 F7 x2 x1 w8 w7 w6 w5 w4 w3 w2 w1 w0 v6 v5 v4 v3 v2 v1 v0 u8 u5 u1 t8 t7 t6 t5 t4 t3 s8 s7 s6 s5 s4 s3 s2 s1 s0 r6 r5 r4 r3 r2 r1 r0 q9 q8 q7 q6 q5 q4 q3 q2 q1 q0 p6 p5 p4 p3 p2 p0 o9 o6 o4 o3 o2 o1 o0 n9 n8 n7 n6 n5 n4 n3 n2 n1 n0 m7 m6 m5 m4 m3 l0 k9 k7 k6 k5 k4 k3 k2 k1 k0 j5 j4 j3 j2 j1 j0 i7 i6 i5 i4 i3 i2 i1 i0 h8 h7 h6 h5 h4 h0 g9 g6 g5 g4 g3 g2 f9 f8 f7 f6 f5 f4 f3 f2 f1 f0 e8 e7 e6 e5 e4 e0 d9 d8 d7 d6 d5 d4 d3 d2 d1 d0 c9 c8 F3 F2 F1 F0 E9 E8 E7 E6 E5 E4 E3 E2 E1 E0 D9 D8 D7 D6 D5 D4 D3 D2 D1 D0 C9 C8 C7 C6 C5 C4 C3 C2 C1 C0 B9 B8 B7 B6 B5 B4 B3 B0 A9 A8 A7 A6 A5 A4 A3 A2 A1 A0 z6 z5 z4 z3 z2 z1 c7 c5 c4 c3 c2 c0:Value) (K:Act->World->Prop) (Q:Exit->Act->World->Prop)
 (hK:∀(gv':Value) (y17 y18 y164 y165 y166 y167 y168 y169 y170 y171 y172 y173 y174 y175 y176 y177 y178 y179 y180 y181 y182 y183 y184 y185 y186 y187 y188 y189 y190 y191 y192 y193 y194 y195 y196 y197 y198 y199 y200 y201 y202 y203 y204 y205 y206 y207 y208 y209 y210 y211 y212 y213 y214 y215 y216 y217 y218 y219 y220 y221:Value) (wy:World),RwMid w p1 o5 pc [(g8_,[gv'],43)] (xg tv (tos.map (gE_ T n))::(ve (tos.map (gE_ T n))++(zd gv' (gl++ [nb])::rest))) wy->K ⟨#[u0,A T,u2,u3,u4,.pointer (some ⟨o5,0,none⟩),u6,A n,.pointer (some ⟨g8_,0,none⟩),u9,.pointer (some ⟨d,0,none⟩),x7,x6,x5,x4,x3,.pointer (some ⟨t,0,none⟩),y17,y18,x2,x1,w8,w7,w6,w5,w4,w3,w2,w1,w0,v6,v5,v4,v3,v2,v1,v0,u8,u5,u1,t8,t7,t6,t5,t4,t3,s8,s7,s6,s5,s4,s3,s2,s1,s0,r6,r5,r4,r3,r2,r1,r0,q9,q8,q7,q6,q5,q4,q3,q2,q1,q0,p6,p5,p4,p3,p2,p0,o9,o6,o4,o3,o2,o1,o0,n9,n8,n7,n6,n5,n4,n3,n2,n1,n0,m7,m6,m5,m4,m3,l0,k9,k7,k6,k5,k4,k3,k2,k1,k0,j5,j4,j3,j2,j1,j0,i7,i6,i5,i4,i3,i2,i1,i0,h8,h7,h6,h5,h4,h0,g9,g6,g5,g4,g3,g2,f9,f8,f7,f6,f5,f4,f3,f2,f1,f0,e8,e7,e6,e5,e4,e0,d9,d8,d7,d6,d5,d4,d3,d2,d1,d0,c9,c8,y164,y165,y166,y167,y168,y169,y170,y171,y172,y173,y174,y175,y176,y177,y178,y179,y180,y181,y182,y183,y184,y185,y186,y187,y188,y189,y190,y191,y192,y193,y194,y195,y196,y197,y198,y199,y200,y201,y202,y203,y204,y205,y206,y207,y208,y209,y210,y211,y212,y213,y214,y215,y216,y217,y218,y219,y220,y221,c7,c5,c4,c3,c2,c0],[]⟩ wy):
 Code.wp Try.prog rnCE (Exit.then K Q) ⟨#[u0,A T,u2,u3,u4,.pointer (some ⟨o5,0,none⟩),u6,A n,.pointer (some ⟨g8_,0,none⟩),u9,.pointer (some ⟨d,0,none⟩),x7,x6,x5,x4,x3,.pointer (some ⟨t,0,none⟩),F8,F7,x2,x1,w8,w7,w6,w5,w4,w3,w2,w1,w0,v6,v5,v4,v3,v2,v1,v0,u8,u5,u1,t8,t7,t6,t5,t4,t3,s8,s7,s6,s5,s4,s3,s2,s1,s0,r6,r5,r4,r3,r2,r1,r0,q9,q8,q7,q6,q5,q4,q3,q2,q1,q0,p6,p5,p4,p3,p2,p0,o9,o6,o4,o3,o2,o1,o0,n9,n8,n7,n6,n5,n4,n3,n2,n1,n0,m7,m6,m5,m4,m3,l0,k9,k7,k6,k5,k4,k3,k2,k1,k0,j5,j4,j3,j2,j1,j0,i7,i6,i5,i4,i3,i2,i1,i0,h8,h7,h6,h5,h4,h0,g9,g6,g5,g4,g3,g2,f9,f8,f7,f6,f5,f4,f3,f2,f1,f0,e8,e7,e6,e5,e4,e0,d9,d8,d7,d6,d5,d4,d3,d2,d1,d0,c9,c8,F3,F2,F1,F0,E9,E8,E7,E6,E5,E4,E3,E2,E1,E0,D9,D8,D7,D6,D5,D4,D3,D2,D1,D0,C9,C8,C7,C6,C5,C4,C3,C2,C1,C0,B9,B8,B7,B6,B5,B4,B3,B0,A9,A8,A7,A6,A5,A4,A3,A2,A1,A0,z6,z5,z4,z3,z2,z1,c7,c5,c4,c3,c2,c0],[]⟩ wx:=by
 conv=>arg 2;whnf
 have HM:=Ja hm;have z0:=Ja (Jb x9 y0);have HK:=Ja hK;clear hm x9 y0 hK;go_wp2
 go_loopw [17] (fun kv wy=>∃k:Nat,k<=tos.length/\kv=A k/\Hid (RwMid w p1 o5 pc [(t,[A kd,A b6,tv],47),(d,[pv,ov,A kd,A ta,tv],49),(g8_,[gv],43)] (xg tv (mpK (gE_ T n) tos k)::(ve (mpK (gE_ T n) tos k)++(zd gv gl::rest))) wy)) (fun kv _=>tos.length-(intOf kv).toNat)
 case atStart=>exact⟨0,Jt _,rfl,HM⟩
 case round=>
  obtain⟨k,hk,rfl,g⟩:=hrel;have hb:=(g.out.bx _ (.head _)).1;have t2:G wr t 2 tv:=zA (i:=2) hb rfl;have tl:=lt_of_block hb
  by_cases a0:k<tos.length
  ·obtain⟨⟨⟨eb,c⟩,av⟩,hq⟩:∃q,tos[k]? =some q:=⟨_,Jd a0⟩
   have a3:=adZ (gE_ T n) hq;obtain⟨ge,ec,a4,y3,y2,hgl,b8⟩:=g.out.getS Zd vO (r:=xg tv (mpK (gE_ T n) tos k)) (.head _) ⟨rfl,rfl,rfl⟩ a3;have l:tv=N ge tos.length ec:=by rw[aed] at a4;exact a4
   have m:=z0.out.1 _ (Ji hq);have g0:G wr ge (k*2) (A eb):=y3 0 _ rfl;have H5:wr.frozen? ⟨ge,k*2,none⟩=false:=y2 0 Zd;have G2:(k:Int)<(tos.length:Int):=Zo;have H1:IntKind.i64.wrap ((n:Int)-eb)=(n:Int)-eb:=Om _ (by have:=m.1.1;have:=m.1.2;simp only at *;omega);have F9:((n:Int)-eb).tmod (n:Int)=(n:Int)-eb:=Int.tmod_eq_of_lt (by have:=m.1.2;simp only at *;omega) (by have:=m.1.1;simp only at *;omega);have H2:0<(n:Int):=by have:=m.1.1;have:=m.1.2;simp only at *;omega
   obtain⟨L,hL⟩:∃L,mpK (gE_ T n) tos k=L:=⟨_,rfl⟩
   rw[hL] at a3 b8;have l5:=g.out;rw[hL] at l5;have y1:=(l5.below (Below.refl _ _).drew).putS vO (r:=xg tv L) (Uq _) ⟨rfl,rfl,rfl⟩ b8 a3 (j:=0) (a:=(⟨(n:Int)-eb,c⟩,av)) (u:=A ((n:Int)-eb)) Zd rfl
   have l4:=y1.perm (RS':=zP av c::(xg tv (L.set k (⟨(n:Int)-eb,c⟩,av))::((L.eraseIdx k).map (fun o=>zP o.2 o.1.args)++(zd gv gl::rest)))) (by
    have hp:=(ad1 (fun o:IEdge×Value=>zP o.2 o.1.args) a3).append_right (zd gv gl::rest)
    exact(hp.cons _).trans (List.Perm.swap _ _ _))
   obtain⟨aa,ac,y7⟩:=l4.formI (.head _);have HQ:=Ja (Jb hq (Jb m (Jb l (Jb b8 (Jb hL (Jb a3 F9))))));have HB:=Ja l4;have H3:c.length<=1000000:=m.2.2;rw[l] at t2;clear hq m a4 l y3 y2 b8 a0 hb l5 y1 l4 a3 hL;go_upto_region 36 with fail;refine zt 13 Zk Zk ?_;simp only[Qo,Uc,Qp,Ui]
   repeat (go_big_quiet_step (fail))
   refine wpQuiet_nil ?_;go_wp2
   go_loopw [18] (fun jv wz_=>∃j:Nat,j<=c.length/\jv=A j/\Hid (RwMid w p1 o5 pc [(t,[A kd,A b6,tv],47),(d,[pv,ov,A kd,A ta,tv],49),(g8_,[gv],43)] (zP av (mpK (gI_ T) c j)::(xg tv (L.set k (⟨(n:Int)-eb,c⟩,av))::((L.eraseIdx k).map (fun o=>zP o.2 o.1.args)++(zd gv gl::rest)))) wz_)) (fun jv _=>c.length-(intOf jv).toNat)
   case atStart=>exact⟨0,Jt _,rfl,HB⟩
   case round=>
    obtain⟨j,hj,rfl,HJ⟩:=hrel;have hb:=(HJ.out.bx _ (.head _)).1;have t2:G wr t 2 (N ge tos.length ec):=by rw[<-HQ.out.2.2.1];exact zA (i:=2) hb rfl
    have tl:=lt_of_block hb;have y5:(L.set k (⟨(n:Int)-eb,c⟩,av))[k]? =some (⟨(n:Int)-eb,c⟩,av):=Nn (Jh.1 HQ.out.2.2.2.2.2.1).1;obtain⟨y4,_,hgl⟩:=HJ.out.readS Zd vO (r:=xg tv (L.set k (⟨(n:Int)-eb,c⟩,av))) (.tail _ (.head _)) ⟨rfl,rfl,rfl⟩ HQ.out.2.2.2.1 y5;have g1:G wr ge (k*2+1) (.slice aa c.length ac):=by rw[<-y7];exact y4 1 _ rfl
    clear hb y4 y5
    by_cases a0:j<c.length
    ·obtain⟨x,hx⟩:∃x,c[j]? =some x:=⟨_,Jd a0⟩
     have G3:(j:Int)<(c.length:Int):=Zo;obtain⟨ga,H6,m0,x0,xf,xl,m2⟩:=HJ.out.getI (.head _) (adZ (gI_ T) hx);have e9:aa=some ⟨ga,0,none⟩:=by rw[y7] at m0;injection m0
     subst e9;have x8:=HQ.out.2.1.2.1 x (Ji hx);have H0:IntKind.i64.wrap (T-x)=T-x:=Om _ (by unfold Sm6 at x8;omega);have HX:=Ja (Jb hx m2);clear hx m0 a0 x8 m2;go_upto_region 40 with fail;refine zt 18 Zk Zk ?_;simp only[Qo,Uc,Qp,Ui]
     repeat (go_big_quiet_step (fail))
     refine wpQuiet_nil ?_;go_wp2;have G0:=(Jh.1 HX.out.1).1;refine⟨⟨j+1,G0,by go_num,Ja ?_⟩,by simp[intOf];omega⟩;have h9:=(HJ.out.below (Below.refl _ _).drew).putI (T-x) (Uq _) HX.out.2 (adZ (gI_ T) HX.out.1);rw[show T-x=gI_ T x from rfl,aea (gI_ T) HX.out.1] at h9;exact h9
    ·obtain rfl:j=c.length:=by omega
     have G3:¬(c.length:Int)<(c.length:Int):=Zo;clear a0;go_wp2;have G1:=(Jh.1 HQ.out.1).1;refine⟨⟨k+1,G1,by go_num,Ja ?_⟩,by simp[intOf];omega⟩;have e1:=aea (gE_ T n) HQ.out.1;rw[HQ.out.2.2.2.2.1] at e1;rw[<-e1];have h9:=HJ.out;rw[aej] at h9
     have e2:xg tv (L.set k (⟨(n:Int)-eb,c⟩,av))=xg tv (L.set k (gE_ T n (⟨eb,c⟩,av))):=aeo (by rw[Nd,Nd]) (ad2 za (by
      show [A ((n:Int)-eb),av]=[A (((n:Int)-eb).tmod n),av]
      rw[HQ.out.2.2.2.2.2.2]))
     rw[e2] at h9;refine h9.perm ?_;have hp:=(ad7 (fun o:IEdge×Value=>zP o.2 o.1.args) (Jh.1 HQ.out.2.2.2.2.2.1).1 (gE_ T n (⟨eb,c⟩,av))).append_right (zd gv gl::rest);exact((List.Perm.swap _ _ _).trans (hp.symm.cons _))
  ·obtain rfl:k=tos.length:=by omega
   have G2:¬(tos.length:Int)<(tos.length:Int):=Zo;clear a0;have l3:=g.out;rw[aee] at l3;have a2:=(g.out.bx _ (.tail _ (.head _))).1;have b9:=(g.out.bx _ (.tail _ (.tail _ (.head _)))).1;have b0:G wr d 0 pv:=zA (i:=0) a2 rfl;have b1:G wr d 1 ov:=zA (i:=1) a2 rfl;have b2:G wr d 2 (A kd):=zA (i:=2) a2 rfl;have b3:G wr d 3 (A ta):=zA (i:=3) a2 rfl;have b4:G wr d 4 tv:=zA (i:=4) a2 rfl;have bl:=lt_of_block a2;have g0:G wr g8_ 0 gv:=zA (i:=0) b9 rfl;have H4:=lt_of_block b9;have l6:=(g.out.bx _ (.tail _ (.tail _ (.head _)))).2.2;obtain⟨ea,ec,a4⟩:=zG (g.out.rows.own _ (.head _));have l:tv=.slice ea tos.length ec:=by have:=a4;unfold xg at this;simp only[aed] at this;exact this
   have a7:zd gv gl∈xg tv (mpK (gE_ T n) tos tos.length)::(ve (mpK (gE_ T n) tos tos.length)++(zd gv gl::rest)):=.tail _ (Qf _ (.head _));have a5:=g.out.rows.own _ a7;obtain⟨ga,gc,y6⟩:=zG a5;have b5:gv=.slice ga gl.length gc:=y6;have l2:gv.ownBlock≠some g8_:=fun e=>l6 (Nj.2 ⟨_,a7,e⟩)
   have G5:=g.out.lt;have HG:=Ja (Jb a5 (Jb l2 (Jb b9 (Jb l3 (Jb l b5)))));rw[l] at t2 b4;rw[b5] at g0;obtain⟨ii,G4,F6,F5,F4⟩:=info_parts Try.info_irblock;clear l3 hb a2 b9 l6 a4 l a7 a5 y6 b5 l2;go_upto_region 41 with fail;go_wp2_with (at_builtin;go_must (refine zK _ rfl (.tmp 217) (.tmp 219) 35 rfl (p1+1+1) 49 ii (.agg #[O,O,A 0,A 0,O]) 5 88 Try.underlying35 G4 F6 F5 F4 rfl Zd (.slice ga gl.length gc) gl.length (gl.flatMap zz) rfl (by have h:=HG.out.1;rw[HG.out.2.2.2.2.2] at h;exact h.alloc _) (N wr.heap.size 1 1) 1 [pv,ov,A kd,A ta,.slice ea tos.length ec] rfl (yM.cells (zI rfl) rfl (one5 l1.1 l1.2.1)) (by unfold maxLen;omega) Zo Zt ?_;intro v9 w9 a6 a1 l7;obtain⟨l9,l8,rfl⟩:=zG a6;have b7:=zL a1 (zB HG.out.2.2.1) (by have h:=HG.out.2.1;rw[HG.out.2.2.2.2.2] at h;exact h);have G7:w9.frozen? ⟨g8_,0,none⟩=false:=zE b7;have G6:=lt_of_block b7;have G8:G w9 g8_ 0 gv:=zA (i:=0) b7 rfl;have m1:=Ja (Jb a6 (Jb a1 l7));clear a6 a1 l7 b7))
   refine HK.out (.slice l9 (gl.length+1) l8) _ _ _ _ _ _ _ _ _ _ _ _ _ _ _ _ _ _ _ _ _ _ _ _ _ _ _ _ _ _ _ _ _ _ _ _ _ _ _ _ _ _ _ _ _ _ _ _ _ _ _ _ _ _ _ _ _ _ _ _ _ ?_;have h1:=HG.out.2.2.2.1.few (B1:=[(t,[A kd,A b6,tv],47),(d,[pv,ov,A kd,A ta,tv],49)]) (B2:=[(g8_,[gv],43)]) rfl
   have hp:(xg tv (tos.map (gE_ T n))::(ve (tos.map (gE_ T n))++(zd gv gl::rest))).Perm (zd gv gl::(xg tv (tos.map (gE_ T n))::(ve (tos.map (gE_ T n))++rest))):=by
    classical
    refine Jp.2 fun y=>?_
    simp only[Nb,Nf];omega
   have h2:=(h1.grow (r':=zd (.slice l9 (gl.length+1) l8) (gl++ [nb])) hp ((Below.refl _ _).alloc (Je _) (U #[pv,ov,A kd,A ta,.slice ea tos.length ec] 49)) (by show World.grownBy _ _ gv.ownBlock;rw[HG.out.2.2.2.2.2];exact m1.out.2.1) (by
    show w9.ownsRow _ _ _ _ (gl++ [nb]).length ((gl++ [nb]).flatMap zz)
    rw[Jk,Nx]
    show w9.ownsRow _ _ _ _ (gl.length+1) (gl.flatMap zz++(zz nb++ []))
    rw[Ua,z0.out.2,HG.out.2.2.2.2.1]
    exact m1.out.1) (fun x e=>by
    rcases m1.out.2.2 with e2|e2
    ·left
     show gv.ownBlock=some x
     rw[HG.out.2.2.2.2.2];exact e2.symm.trans e
    ·right;have e3:=e2.symm.trans e;simp at e3
     omega)).setB rfl (i:=0) (u:=.slice l9 (gl.length+1) l8)
   refine h2.perm ?_
   classical
   refine Jp.2 fun y=>?_
   simp only[Nb,Nf];omega
noncomputable def rnCOh:Code:=aey [1,1,0] rnCB
noncomputable def rnCPh:Code:=aey [1,0] rnCB
theorem aez{v:Value}{L:List (IOp×Value)}{q:IOp×Value}(h:L[k]? =some q):yo v L=yo v (L.set k q):=by
 obtain⟨hk,rfl⟩:=Jh.1 h;rw[List.set_getElem_self]
theorem aek {v:Value}{l m:List (IOp×Value)}(hl:l.length=m.length)(h:l.flatMap zU=m.flatMap zU):yo v l=yo v m:=by unfold yo;rw[hl,h]
section
variable {w wx:World} {p1 o5:Nat} {pc:List Value} {BX:List (Nat×List Value×TypeId)} {R:List Row}
theorem RwMid.opPut{ov av:Value}{L:List (IOp×Value)}{ge:Nat}{a b:IOp}(h:RwMid w p1 o5 pc BX (yo ov (L.set k (a,av))::R) wx)(hk:k<L.length)(hg:ov.ownBlock=some ge)(d:j<6)(c:(zU (a,av)).set j u=zU (b,av)):RwMid w p1 o5 pc BX (yo ov (L.set k (b,av))::R) (wx.setCell ⟨ge,k*6+j,none⟩ u):=by
 have h1:=h.putS adY (r:=yo ov (L.set k (a,av))) (Uq _) ⟨rfl,rfl,rfl⟩ hg (k:=k) (a:=(b,av)) (b:=(a,av)) (by rw[Nn hk]) d c;rw[List.set_set] at h1;exact h1
theorem RwMid.opGet{ov av:Value}{L:List (IOp×Value)}{ge:Nat}{a:IOp}(h:RwMid w p1 o5 pc BX (yo ov (L.set k (a,av))::R) wx)(hk:k<L.length)(hg:ov.ownBlock=some ge):(∀j,j<6->T wx ge (k*6+j))/\ge<wx.heap.size/\∀j u,(zU (a,av))[j]? =some u->G wx ge (k*6+j) u:=by
 obtain⟨h1,h2,h3⟩:=h.readS Zd adY (r:=yo ov (L.set k (a,av))) (.head _) ⟨rfl,rfl,rfl⟩ hg (k:=k) (b:=(a,av)) (by rw[Nn hk]);exact⟨h2,h3,h1⟩
end
theorem rn_ops{T ta:Int}{pv ov tv:Value}{ops:List (IOp×Value)}{B2:List (Nat×List Value×TypeId)}{rest:List Row}(hT:0<=T/\T<=65535)(n4:∀q∈ops,Sm6 q.1.res/\Sm6 q.1.a/\Sm6 q.1.b/\(∀x∈q.1.args,Sm6 x)/\q.1.args.length<=1000000)(H2:ops.length<=1000000)
 (hm:RwMid w p1 o5 pc ((d,[pv,ov,A kd,A ta,tv],49)::B2) (yo ov ops::(wI ops++rest)) wx) (u0 u2 u3 u4 u6 o4 u8 u9 w6 G2 G1 G0 F9 u16 w5 w4 w3 w2 w0 v9 v6 v5 v4 v3 v2 v1 v0 u5 u1 t8 t7 t6 t5 t4 t3 t2 s8 s7 s6 s5 s4 s1 s0 r6 r5 r4 r3 r2 r1 r0 q9 q8 q7 q6 q5 q4 q3 q2 q1 q0 p6 p5 p4 p3 p2 p0 o9 o6 F8 F7 F6 F5 F4 F3 F2 F1 F0 E9 E8 E7 E6 E5 E4 E3 E2 E1 E0 D9 D8 D7 D6 D5 D4 D3 D2 D1 D0 C8 C7 C6 C5 C4 C3 C2 C1 C0 B9 B8 B7 B6 B5 B4 B3 B0 A9 A8 A7 A6 A5 A4 A3 A2 A1 A0 z6 z5 z4 z3 z2 z1 z0 y7 y6 y5 y4 n1 n0 m7 m6 m5 m4 m3 m2 m1 m0 l9 l8 l7 l6 l5 l4 l3 l2 l1 l0 k9 k7 k6 k5 k4 k3 k2 k1 k0 j5 j4 j3 j2 j1 j0 i7 i6 i5 i4 i3 i2 i1 i0 h6 h5 h4 h0 g9 g6 f9 f8 f7 f6 f5 f4 f3 f2 f1 f0 e8 e7 e6 e5 e4 e3 e0 d9 d8 d7 d6 d5 d4 d3 d2 d1 d0 c9 c8 c7 c5 c4 c3 c2 c0 b9 b8 b7 b6 b5 b4:Value) (K:Act->World->Prop) (Q:Exit->Act->World->Prop)
 (hK:∀(y12 y13 y14 y15 y71 y72 y73 y74 y75 y76 y77 y78 y79 y80 y81 y82 y83 y84 y85 y86 y87 y88 y89 y90 y91 y92 y93 y94 y95 y96 y97 y98 y99 y100 y101 y102 y103 y104 y105 y106 y107 y108 y109 y110 y111 y112 y113 y114 y115 y116 y117 y118 y119 y120 y121 y122 y123 y124 y125 y126 y127 y128 y129 y130 y131 y132 y133 y134 y135 y136 y137:Value) (wy:World),RwMid w p1 o5 pc ((d,[pv,ov,A kd,A ta,tv],49)::B2) (yo ov (ops.map (gO_ T))::(wI (ops.map (gO_ T))++rest)) wy->K ⟨#[u0,A T,u2,u3,u4,.pointer (some ⟨o5,0,none⟩),u6,o4,u8,u9,.pointer (some ⟨d,0,none⟩),w6,y12,y13,y14,y15,u16,w5,w4,w3,w2,w0,v9,v6,v5,v4,v3,v2,v1,v0,u5,u1,t8,t7,t6,t5,t4,t3,t2,s8,s7,s6,s5,s4,s1,s0,r6,r5,r4,r3,r2,r1,r0,q9,q8,q7,q6,q5,q4,q3,q2,q1,q0,p6,p5,p4,p3,p2,p0,o9,o6,y71,y72,y73,y74,y75,y76,y77,y78,y79,y80,y81,y82,y83,y84,y85,y86,y87,y88,y89,y90,y91,y92,y93,y94,y95,y96,y97,y98,y99,y100,y101,y102,y103,y104,y105,y106,y107,y108,y109,y110,y111,y112,y113,y114,y115,y116,y117,y118,y119,y120,y121,y122,y123,y124,y125,y126,y127,y128,y129,y130,y131,y132,y133,y134,y135,y136,y137,n1,n0,m7,m6,m5,m4,m3,m2,m1,m0,l9,l8,l7,l6,l5,l4,l3,l2,l1,l0,k9,k7,k6,k5,k4,k3,k2,k1,k0,j5,j4,j3,j2,j1,j0,i7,i6,i5,i4,i3,i2,i1,i0,h6,h5,h4,h0,g9,g6,f9,f8,f7,f6,f5,f4,f3,f2,f1,f0,e8,e7,e6,e5,e4,e3,e0,d9,d8,d7,d6,d5,d4,d3,d2,d1,d0,c9,c8,c7,c5,c4,c3,c2,c0,b9,b8,b7,b6,b5,b4],[]⟩ wy):
 Code.wp Try.prog rnCOh (Exit.then K Q) ⟨#[u0,A T,u2,u3,u4,.pointer (some ⟨o5,0,none⟩),u6,o4,u8,u9,.pointer (some ⟨d,0,none⟩),w6,G2,G1,G0,F9,u16,w5,w4,w3,w2,w0,v9,v6,v5,v4,v3,v2,v1,v0,u5,u1,t8,t7,t6,t5,t4,t3,t2,s8,s7,s6,s5,s4,s1,s0,r6,r5,r4,r3,r2,r1,r0,q9,q8,q7,q6,q5,q4,q3,q2,q1,q0,p6,p5,p4,p3,p2,p0,o9,o6,F8,F7,F6,F5,F4,F3,F2,F1,F0,E9,E8,E7,E6,E5,E4,E3,E2,E1,E0,D9,D8,D7,D6,D5,D4,D3,D2,D1,D0,C8,C7,C6,C5,C4,C3,C2,C1,C0,B9,B8,B7,B6,B5,B4,B3,B0,A9,A8,A7,A6,A5,A4,A3,A2,A1,A0,z6,z5,z4,z3,z2,z1,z0,y7,y6,y5,y4,n1,n0,m7,m6,m5,m4,m3,m2,m1,m0,l9,l8,l7,l6,l5,l4,l3,l2,l1,l0,k9,k7,k6,k5,k4,k3,k2,k1,k0,j5,j4,j3,j2,j1,j0,i7,i6,i5,i4,i3,i2,i1,i0,h6,h5,h4,h0,g9,g6,f9,f8,f7,f6,f5,f4,f3,f2,f1,f0,e8,e7,e6,e5,e4,e3,e0,d9,d8,d7,d6,d5,d4,d3,d2,d1,d0,c9,c8,c7,c5,c4,c3,c2,c0,b9,b8,b7,b6,b5,b4],[]⟩ wx:=by
 conv=>arg 2;whnf
 have HM:=Ja hm;have y2:=Ja n4;have HK:=Ja hK;clear hm n4 hK;go_wp2
 go_loopw [12] (fun kv wy=>∃k:Nat,k<=ops.length/\kv=A k/\Hid (RwMid w p1 o5 pc ((d,[pv,ov,A kd,A ta,tv],49)::B2) (yo ov (mpK (gO_ T) ops k)::(wI (mpK (gO_ T) ops k)++rest)) wy)) (fun kv _=>ops.length-(intOf kv).toNat)
 case atStart=>exact⟨0,Jt _,rfl,HM⟩
 case round=>
  obtain⟨k,hk,rfl,b2⟩:=hrel;have hb:=(b2.out.bx _ (.head _)).1;have b1:G wr d 1 ov:=zA (i:=1) hb rfl;have bl:=lt_of_block hb
  by_cases a1:k<ops.length
  ·obtain⟨⟨⟨oc,ors,oa,ob,on,oargs⟩,av⟩,hq⟩:∃q,ops[k]? =some q:=⟨_,Jd a1⟩
   obtain⟨L,hL⟩:∃L,mpK (gO_ T) ops k=L:=⟨_,rfl⟩
   have a4:=adZ (gO_ T) hq;have a5:=b2.out;rw[hL] at a4 a5;have x8:L.length=ops.length:=by rw[<-hL,aed]
   obtain⟨ge,ec,a7,c,m,G7,G6⟩:=a5.getS Zd adY (r:=yo ov L) (.head _) ⟨rfl,rfl,rfl⟩ a4;have b3:ov=N ge ops.length ec:=by rw[x8] at a7;exact a7
   have n5:zP av oargs∈yo ov L::(wI L++rest):=.tail _ (Jz _ (Nu.2 ⟨_,Ji a4,rfl⟩));obtain⟨aa,ac,G9⟩:=a5.formI n5;subst G9;subst b3;have g0:G wr ge (k*6) (A oc):=c 0 _ rfl;have g1:G wr ge (k*6+1) (A ors):=c 1 _ rfl;have g2:G wr ge (k*6+2) (A oa):=c 2 _ rfl;have g3:G wr ge (k*6+3) (A ob):=c 3 _ rfl;have g4:G wr ge (k*6+4) (I on):=c 4 _ rfl;have g5:G wr ge (k*6+5) (.slice aa oargs.length ac):=c 5 _ rfl;have b0:(k:Int)<(ops.length:Int):=Zo;have n3:=y2.out _ (Ji hq);have H3:oargs.length<=1000000:=n3.2.2.2.2;rw[aez a4] at a5;have x7:=a5.box [A oc,A ors,A oa,A ob,I on,.slice aa oargs.length ac] 77;have HL:=Ja (Jb (by omega:k<L.length) (Jb b0 n3));have HS:=Ja (Jb hq (Jb hL a4));have HB:=Ja x7;clear hb a1 hq a4 a5 x8 a7 c m G6 n5 n3 hL x7;go_upto_region 18 with fail
   rename_i n7
   have o2:=Ja n7;clear n7;go_wp2;refine o2.out _ _ ?_;clear o2;refine wp_seq_k fun K19 hK19=>?_
   have o1:=Ja hK19;clear hK19;go_wp2_with (first|(go_at_call 54;go_must (refine(aaK oc _).mono ?_;rintro e w1 ⟨rfl,g⟩;unfold acg)))
   refine o1.out _ _ ?_;clear o1;obtain⟨⟨a6,fr,fa,fb,fn⟩,hF⟩:∃F,zi oc=F:=⟨_,rfl⟩
   rw[hF];have x4:=(HB.out.below g).box [.bool a6,.bool fr,.bool fa,.bool fb,.bool fn] 111;have HX:=Ja x4;clear HB g x4 b2 HM y2 b1 bl g0 g1 g2 g3 g4 g5 G7;generalize G8:w1.alloc _=W2 at *;clear G8;obtain⟨y,y0⟩:∃t,wr.heap.size=t:=⟨_,rfl⟩
   obtain⟨a0,x9⟩:∃t,w1.heap.size=t:=⟨_,rfl⟩
   rw[y0,x9] at HX ⊢;clear y0 x9;refine wp_seq_k fun K20 hK20=>?_
   have o0:=Ja hK20;clear hK20
   go_cut [] from 71 to 97 (fun wz_=>Hid (RwMid w p1 o5 pc ((a0,[.bool a6,.bool fr,.bool fa,.bool fb,.bool fn],111)::(y,[A oc,A ors,A oa,A ob,I on,.slice aa oargs.length ac],77)::((d,[pv,N ge ops.length ec,A kd,A ta,tv],49)::B2)) (yo (N ge ops.length ec) (L.set k (⟨oc,(if 0<=ors then T-ors else ors),oa,ob,on,oargs⟩,(.slice aa oargs.length ac)))::(wI L++rest)) wz_))
   case first=>
    have g:=(HX.out.bx _ (.head _)).1;have l:=(HX.out.bx _ (.tail _ (.head _))).1;have h:=(HX.out.bx _ (.tail _ (.tail _ (.head _)))).1;have x1:G W2 y 1 (A ors):=zA (i:=1) l rfl;have xl:=lt_of_block l;have b1:G W2 d 1 (N ge ops.length ec):=zA (i:=1) h rfl;have bl:=lt_of_block h;obtain⟨m,x6,c⟩:=HX.out.opGet HL.out.1 rfl;have gf:W2.frozen? ⟨ge,k*6+1,none⟩=false:=m 1 Zd;have gc:G W2 ge (k*6+1) (A ors):=c 1 _ rfl;have b0:(k:Int)<(ops.length:Int):=HL.out.2.1;have n2:IntKind.i64.wrap (T-ors)=T-ors:=Om _ (by have h7:=HL.out.2.2.1;unfold Sm6 at h7;omega);clear g l h m c
    by_cases C9:0<=ors
    ·go_wp2;go_meet;rw[if_pos C9];exact Ja (HX.out.opPut HL.out.1 rfl Zd rfl)
    ·have H0:ors<0:=Zo;go_wp2;go_meet;rw[if_neg Zo];exact HX
   refine o0.out _ _ ?_;clear o0 HX;have a3:=hcut;clear hcut;refine wp_seq_k fun K22 hK22=>?_
   have n9:=Ja hK22;clear hK22
   go_cut [] from 98 to 108 (fun wz_=>Hid (RwMid w p1 o5 pc ((a0,[.bool a6,.bool fr,.bool fa,.bool fb,.bool fn],111)::(y,[A oc,A ors,A oa,A ob,I on,.slice aa oargs.length ac],77)::((d,[pv,N ge ops.length ec,A kd,A ta,tv],49)::B2)) (yo (N ge ops.length ec) (L.set k (⟨oc,(if 0<=ors then T-ors else ors),(if fa=true then T-oa else oa),ob,on,oargs⟩,(.slice aa oargs.length ac)))::(wI L++rest)) wz_))
   case first=>
    have g:=(a3.out.bx _ (.head _)).1;have l:=(a3.out.bx _ (.tail _ (.head _))).1;have h:=(a3.out.bx _ (.tail _ (.tail _ (.head _)))).1;have x2:G wc y 2 (A oa):=zA (i:=2) l rfl;have xl:=lt_of_block l;have b1:G wc d 1 (N ge ops.length ec):=zA (i:=1) h rfl;have bl:=lt_of_block h;obtain⟨m,x6,c⟩:=a3.out.opGet HL.out.1 rfl;have gf:wc.frozen? ⟨ge,k*6+2,none⟩=false:=m 2 Zd;have gc:G wc ge (k*6+2) (A oa):=c 2 _ rfl;have b0:(k:Int)<(ops.length:Int):=HL.out.2.1;have n2:IntKind.i64.wrap (T-oa)=T-oa:=Om _ (by have h7:=HL.out.2.2.2.1;unfold Sm6 at h7;omega);have s2:G wc a0 2 (.bool fa):=zA (i:=2) g rfl;have sl:=lt_of_block g;clear g l h m c;rcases(Bool.eq_false_or_eq_true fa) with e|e
    ·rw[e] at s2;have hp:=a3.out.opPut (j:=2) (u:=A (T-oa)) (b:=⟨oc,(if 0<=ors then T-ors else ors),(if fa=true then T-oa else oa),ob,on,oargs⟩) HL.out.1 rfl Zd (by rw[e];rfl);go_wp2;go_meet;exact Ja hp
    ·rw[e] at s2;go_wp2;go_meet;have h9:=a3.out;rw[if_neg (show ¬(fa=true) by rw[e];decide)];exact Ja h9
   refine n9.out _ _ ?_;clear n9 a3;have a2:=hcut;clear hcut;refine wp_seq_k fun K24 hK24=>?_
   have n8:=Ja hK24;clear hK24
   go_cut [] from 109 to 119 (fun wz_=>Hid (RwMid w p1 o5 pc ((a0,[.bool a6,.bool fr,.bool fa,.bool fb,.bool fn],111)::(y,[A oc,A ors,A oa,A ob,I on,.slice aa oargs.length ac],77)::((d,[pv,N ge ops.length ec,A kd,A ta,tv],49)::B2)) (yo (N ge ops.length ec) (L.set k (⟨oc,(if 0<=ors then T-ors else ors),(if fa=true then T-oa else oa),(if fb=true then T-ob else ob),on,oargs⟩,(.slice aa oargs.length ac)))::(wI L++rest)) wz_))
   case first=>
    have g:=(a2.out.bx _ (.head _)).1;have l:=(a2.out.bx _ (.tail _ (.head _))).1;have h:=(a2.out.bx _ (.tail _ (.tail _ (.head _)))).1;have x3:G wc y 3 (A ob):=zA (i:=3) l rfl;have xl:=lt_of_block l;have b1:G wc d 1 (N ge ops.length ec):=zA (i:=1) h rfl;have bl:=lt_of_block h;obtain⟨m,x6,c⟩:=a2.out.opGet HL.out.1 rfl;have gf:wc.frozen? ⟨ge,k*6+3,none⟩=false:=m 3 Zd;have gc:G wc ge (k*6+3) (A ob):=c 3 _ rfl;have b0:(k:Int)<(ops.length:Int):=HL.out.2.1;have n2:IntKind.i64.wrap (T-ob)=T-ob:=Om _ (by have h7:=HL.out.2.2.2.2.1;unfold Sm6 at h7;omega);have s3:G wc a0 3 (.bool fb):=zA (i:=3) g rfl;have sl:=lt_of_block g;clear g l h m c;rcases(Bool.eq_false_or_eq_true fb) with e|e
    ·rw[e] at s3;have hp:=a2.out.opPut (j:=3) (u:=A (T-ob)) (b:=⟨oc,(if 0<=ors then T-ors else ors),(if fa=true then T-oa else oa),(if fb=true then T-ob else ob),on,oargs⟩) HL.out.1 rfl Zd (by rw[e];rfl);go_wp2;go_meet;exact Ja hp
    ·rw[e] at s3;go_wp2;go_meet;have h9:=a2.out;rw[if_neg (show ¬(fb=true) by rw[e];decide)];exact Ja h9
   refine n8.out _ _ ?_;clear n8 a2;have y3:=hcut;clear hcut;have w9:=y3.out
   have w8:=w9.perm (RS':=zP (.slice aa oargs.length ac) oargs::(yo (N ge ops.length ec) (L.set k (⟨oc,(if 0<=ors then T-ors else ors),(if fa=true then T-oa else oa),(if fb=true then T-ob else ob),on,oargs⟩,(.slice aa oargs.length ac)))::((L.eraseIdx k).map (fun o=>zP o.2 o.1.args)++rest))) (by
    have hp:=(ad1 (fun o:IOp×Value=>zP o.2 o.1.args) HS.out.2.2).append_right rest
    exact(hp.cons _).trans (List.Perm.swap _ _ _))
   have HB:=Ja w8;clear w9 w8 y3;go_wp2
   go_loopw [15] (fun jv wz_=>∃j:Nat,j<=oargs.length/\jv=A j/\Hid (RwMid w p1 o5 pc ((a0,[.bool a6,.bool fr,.bool fa,.bool fb,.bool fn],111)::(y,[A oc,A ors,A oa,A ob,I on,.slice aa oargs.length ac],77)::((d,[pv,N ge ops.length ec,A kd,A ta,tv],49)::B2)) (zP (.slice aa oargs.length ac) (mpK (gI_ T) oargs j)::(yo (N ge ops.length ec) (L.set k (⟨oc,(if 0<=ors then T-ors else ors),(if fa=true then T-oa else oa),(if fb=true then T-ob else ob),on,oargs⟩,(.slice aa oargs.length ac)))::((L.eraseIdx k).map (fun o=>zP o.2 o.1.args)++rest))) wz_)) (fun jv _=>oargs.length-(intOf jv).toNat)
   case atStart=>exact⟨0,Jt _,rfl,HB⟩
   case round=>
    obtain⟨j,hj,rfl,HJ⟩:=hrel;have hb:=(HJ.out.bx _ (.tail _ (.head _))).1;have x5:G wr y 5 (.slice aa oargs.length ac):=zA (i:=5) hb rfl;have xl:=lt_of_block hb;clear hb
    by_cases a1:j<oargs.length
    ·obtain⟨x,hx⟩:∃x,oargs[j]? =some x:=⟨_,Jd a1⟩
     have G5:(j:Int)<(oargs.length:Int):=Zo;obtain⟨ga,H4,y1,x0,xf,H1,o3⟩:=HJ.out.getI (.head _) (adZ (gI_ T) hx);have e9:aa=some ⟨ga,0,none⟩:=by injection y1
     subst e9;have w7:=HL.out.2.2.2.2.2.1 x (Ji hx);have n2:IntKind.i64.wrap (T-x)=T-x:=Om _ (by unfold Sm6 at w7;omega);have HX:=Ja (Jb hx o3);clear hx y1 a1 w7 o3;go_upto_region 29 with fail;refine zt 10 Zk Zk ?_;simp only[Qo,Uc,Qp,Ui]
     repeat (go_big_quiet_step (fail))
     refine wpQuiet_nil ?_;go_wp2;have G3:=(Jh.1 HX.out.1).1;refine⟨⟨j+1,G3,by go_num,Ja ?_⟩,by simp[intOf];omega⟩;have h9:=(HJ.out.below (Below.refl _ _).drew).putI (T-x) (Uq _) HX.out.2 (adZ (gI_ T) HX.out.1);rw[show T-x=gI_ T x from rfl,aea (gI_ T) HX.out.1] at h9;exact h9
    ·obtain rfl:j=oargs.length:=by omega
     have G5:¬(oargs.length:Int)<(oargs.length:Int):=Zo;clear a1;go_wp2;have G4:=(Jh.1 HS.out.1).1;refine⟨⟨k+1,G4,by go_num,Ja ?_⟩,by simp[intOf];omega⟩;have e1:=aea (gO_ T) HS.out.1;rw[HS.out.2.1] at e1;rw[<-e1];have h9:=HJ.out;rw[aej] at h9;have h8:=h9.few (B1:=[(a0,[.bool a6,.bool fr,.bool fa,.bool fb,.bool fn],111),(y,[A oc,A ors,A oa,A ob,I on,.slice aa oargs.length ac],77)]) (B2:=((d,[pv,N ge ops.length ec,A kd,A ta,tv],49)::B2)) rfl
     have e2:yo (N ge ops.length ec) (L.set k (⟨oc,(if 0<=ors then T-ors else ors),(if fa=true then T-oa else oa),(if fb=true then T-ob else ob),on,oargs⟩,(.slice aa oargs.length ac)))=yo (N ge ops.length ec) (L.set k (gO_ T (⟨oc,ors,oa,ob,on,oargs⟩,(.slice aa oargs.length ac)))):=aek (by rw[Nd,Nd]) (ad2 zU (by
      show zU _=[A oc,A (if 0<=ors then T-ors else ors),A (if(zi oc).a then T-oa else oa),A (if(zi oc).b then T-ob else ob),I on,(.slice aa oargs.length ac)]
      rw[hF]
      rfl))
     rw[e2] at h8;refine h8.perm ?_;have hp:=(ad7 (fun o:IOp×Value=>zP o.2 o.1.args) (Jh.1 HS.out.2.2).1 (gO_ T (⟨oc,ors,oa,ob,on,oargs⟩,(.slice aa oargs.length ac)))).append_right rest;exact((List.Perm.swap _ _ _).trans (hp.symm.cons _))
  ·obtain rfl:k=ops.length:=by omega
   obtain⟨ga,gc,a7⟩:=zG (b2.out.rows.own _ (.head _));have b3:ov=.slice ga ops.length gc:=by have:=a7;unfold yo at this;simp only[aed] at this;exact this
   subst b3;have b0:¬(ops.length:Int)<(ops.length:Int):=Zo;have n6:=b2.out;rw[aee] at n6;have HE:=Ja n6;clear a1 hb n6 a7;go_wp2;exact HK.out _ _ _ _ _ _ _ _ _ _ _ _ _ _ _ _ _ _ _ _ _ _ _ _ _ _ _ _ _ _ _ _ _ _ _ _ _ _ _ _ _ _ _ _ _ _ _ _ _ _ _ _ _ _ _ _ _ _ _ _ _ _ _ _ _ _ _ _ _ _ _ _ HE.out
end Go.Proofs.Ytojclalkfhoooaa
