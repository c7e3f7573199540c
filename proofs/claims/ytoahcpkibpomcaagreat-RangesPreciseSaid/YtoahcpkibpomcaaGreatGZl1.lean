/- Part of a proof. -/
import Derived.Test.YtoahcpkibpomcaaGreatGZwj
set_option linter.all false
set_option maxHeartbeats 8000000
set_option maxRecDepth 100000
namespace Go.Proofs.YtoahcpkibpomcaaGreat
open Go.RowKit
variable {W w w' w0 w2 w3 wx:World}{X X2:Nat->Prop}{M:MS}{vv:Value}{l:List BM}{a2 b2 d2 f2 i j k y:Nat}{o:Obj}{xs:List Int}{x:Int}{bl:List IBlk}{ns o1 o2:List Nat}{l1:List Evn}{a1 b1 d1 f1:Option Addr}
def MKC.withZ (K:MKC)(Z:Nat->Prop):MKC:= {K with Z:=Z }
variable {K:MKC}
theorem MkIn.off{Z2:Nat->Prop}{fv:Value}(h:MkIn w K X M fv vv l)(g:w.heap.size<=W.heap.size)(ho:W.os=w.os/\W.tape=w.tape/\W.output=w.output)
 (hk:∀k,k<w.heap.size->(K.Z k->k<K.B)->W.heap[k]? =w.heap[k]?) (j:∀k,Z2 k->K.Z k∨w.heap.size<=k) (i:∀k,Z2 k->k<W.heap.size):MkIn W (K.withZ Z2) X M fv vv l:=by
 have c:Stp (K.av X) w ((K.withZ Z2).av X) W:=⟨ho.1,ho.2.1,ho.2.2,g,fun k e=>e.elim (fun e=> .inl (.inl e)) (fun e=>(j k e).elim (fun e=> .inl (.inr e)) .inr),fun k hk' d=>hk k hk' (fun e=>absurd (.inr e) d)⟩
 have d:∀k,X k->k<w.heap.size/\W.heap[k]? =w.heap[k]?:=fun k e=>⟨h.xl k e,hk k (h.xl k e) (fun e2=>absurd e2 (h.env.zx k e))⟩
 have hb:Below K.B w W:=⟨ho.1,ho.2.1,ho.2.2,g,fun k e=>hk k (Jy e h.size) (fun _=>e)⟩
 obtain⟨b,e1,e2,e3⟩:=h.env.data;refine⟨(d _ h.xm).2.trans h.blk,yD h.own (fun k e=>(d k (h.xf k e)).2),h.fl,fun q hq=>?_,h.apart,yD h.vown (fun k e=>(d k (h.xv k e)).2),h.v64,h.xm,h.xf,h.xv,h.xB,fun k e=>Jy (h.xl k e) g,?_,h.bnd,h.lft⟩
 ·have q1:=h.bok q hq;exact⟨q1.k64,q1.par.step zn c,q1.ops,yD q1.own (fun k e=>(d k (q1.inX k e)).2),fun o ho=>⟨(q1.arg o ho).1,(q1.arg o ho).2.step zn c⟩,q1.tos.step yq c,q1.inX⟩
 ·exact⟨h.env.s.below zO hb,h.env.fpv,c.blk h.env.prog h.env.ppX,h.env.args.step zn c,⟨b,e1,c.not (lt_of_block e3) e2,c.blk e3 e2⟩,c.not (lt_of_block h.env.prog) h.env.ppX,h.env.h64,h.env.len,h.env.nf,h.env.alt,
   fun k e1 e2=>(j k e2).elim (h.env.zx k e1) (fun e3=>by have:=h.xl k e1;omega),i⟩
theorem oD(h:wW w K X M):I64 (zJ K.E M).1:=by
 obtain⟨fv,vv,l,h⟩:=h;have hb:=h.bnd
 have hv:∀i,I64 (M.vals.getD i 0):=fun i=>by
  rw[Jj]
  cases c:M.vals[i]? with
  |none=>exact yF _ rfl
  |some x=>exact h.v64 x (Ji c)
 unfold zJ
 split
 ·unfold MS.sz at hb;exact⟨by show -9223372036854775808<=(M.next:Int);omega,by show(M.next:Int)<=9223372036854775807;omega⟩
 split
 ·exact hv _
 ·exact hv _
structure ArgMid (w:World) (K:MKC) (X:Nat->Prop) (M:MS) (av:Value) (j:Nat) (wx:World):Prop where
 own:wx.ownsRow w.heap.size 3 1 av j ((yI K.E j M).1.map zN)
 i64:∀x∈(yI K.E j M).1,I64 x
 made:∃Xj,wW wx (K.withZ fun k=>K.Z k∨av.ownBlock=some k) Xj (yI K.E j M).2/\Stp X w Xj wx
theorem qw (E:ME):∀(n:Nat) (M:MS),(yI E n M).1.length=n
 |0,_=>rfl
 |n+1,M=>by show((yI E n M).1++ [_]).length=_;rw[Jk,qw E n M];rfl
theorem ArgMid.start(h:wW w K X M):ArgMid w K X M (F) 0 w:=by
 refine⟨Jv _ _ _ _,(fun x hx=>by cases hx),X,?_,Stp.refl _ _⟩;obtain⟨fv,vv,l,h⟩:=h;exact⟨fv,vv,l,h.off (Je _) ⟨rfl,rfl,rfl⟩ (fun _ _ _=>rfl) (fun k e=>e.elim .inl (fun e=>by simp[Value.ownBlock] at e)) (fun k e=>e.elim (h.env.zl k) (fun e=>by simp[Value.ownBlock] at e))⟩
theorem ArgMid.next{av av':Value}(h:ArgMid w K X M av j wx)(h2:wW w2 (K.withZ fun k=>K.Z k∨av.ownBlock=some k) X2 (yI K.E (j+1) M).2)(d:Stp X w X2 w2)(m:w2.ownsRow w.heap.size 3 1 av j ((yI K.E j M).1.map zN))(t:I64 (zJ K.E (yI K.E j M).2).1)
 (u:∀k,X k->k<w.heap.size) (hB:K.B<=w.heap.size) (hg:(w2.alloc o).grownBy w3 av.ownBlock) (i:w3.ownsRow w.heap.size 3 1 av' (j+1) ((yI K.E j M).1.map zN++ [zN (zJ K.E (yI K.E j M).2).1])) (q:∀k,av'.ownBlock=some k->av.ownBlock=some k∨w2.heap.size<=k):ArgMid w K X M av' (j+1) w3:=by
 obtain⟨fv,vv,l,h2⟩:=h2;have g:w2.heap.size<=w3.heap.size:=by have:=hg.size;simp at this;omega
 have hk:∀k,k<w2.heap.size->av.ownBlock≠some k->w3.heap[k]? =w2.heap[k]?:=fun k hk hne=>(hg.block k Zt (fun e=>hne e.symm)).trans (Below.heap_alloc w2 o k hk)
 refine⟨?_,?_,X2,⟨fv,vv,l,h2.off (K:=K.withZ fun k=>K.Z k∨av.ownBlock=some k) g ⟨hg.os,hg.tape,hg.output⟩ (fun k hk' hz=>hk k hk' (fun e=>by have h1:k<K.B:=hz (.inr e);have:=(m.lt k e).1;omega)) (fun k e=>e.elim (fun e=> .inl (.inl e)) (fun e=>(q k e).elim (fun e=> .inl (.inr e)) .inr)) (fun k e=>e.elim (fun e=>Jy (h2.env.zl k (.inl e)) g) (fun e=>(i.lt k e).2))⟩,?_⟩
 ·show w3.ownsRow w.heap.size 3 1 av' (j+1) (((yI K.E j M).1++ [(zJ K.E (yI K.E j M).2).1]).map zN)
  rw[Js];exact i
 ·intro x c;rcases Jl.1 c with c|c
  ·exact h.i64 x c
  ·rw[Jo] at c;subst c;exact t
 ·refine⟨hg.os.trans d.os,hg.tape.trans d.tape,hg.output.trans d.output,Jn d.size g,d.new,fun k hk' c=>(hk k (Jy hk' d.size) (fun e=>?_)).trans (d.kept k hk' c)⟩;have:=(m.lt k e).1;omega
theorem ArgMid.done{av:Value}(h:ArgMid w K X M av j wx)(c:∀k,K.Z k->k<w.heap.size):∃Xj,wW wx K Xj (yI K.E j M).2/\Stp X w Xj wx/\wm wx (K.av Xj) av (yI K.E j M).1:=by
 obtain⟨Xj,⟨fv,vv,l,hm⟩,hs⟩:=h.made;refine⟨Xj,⟨fv,vv,l,hm.off (Z2:=K.Z) (Je _) ⟨rfl,rfl,rfl⟩ (fun _ _ _=>rfl) (fun k e=> .inl (.inl e)) (fun k e=>hm.env.zl k (.inl e))⟩,hs,?_⟩;refine rO h.own (qw _ _ _) h.i64 (fun k e hx=>hx.elim (fun e2=>hm.env.zx k e2 (.inr e)) (fun e2=>?_));have:=(h.own.lt k e).1;have:=c k e2;omega
theorem jh{v:Value}{a:Option Addr}{n c:Nat}(h:wm w X v xs)(hv:v=.slice a n c)(g:xs[k]? =some x):∃b o,a=some ⟨b,o,none⟩/\T w b (o+k) (I x):=by
 subst hv;obtain⟨a',c',e,_,_,h3⟩:=h;cases e;obtain⟨b,o,i,_,_,d,_⟩:=h3 k x g;rw[Nk] at d;exact⟨b,o,i,d⟩
theorem jN(h:wW w K X M)(b1:M.cur<M.f.length)(hz:M.sz+16<=1000000):
 A 134 #[Q K.pm] w (yk K X w (vN K.E M) (.tuple #[])):=by
 obtain⟨fv,vv,l,h⟩:=h;have H:=Ja (Jb h (Jb b1 hz));have c2:=h.c2;have c3:=h.c3;obtain⟨pa,pc,c1⟩:=h.env.fpv;have p0:=zA (i:=0) h.env.prog rfl;rw[c1] at p0;have i1:=h.env.nf;have i0:=lt_of_block h.env.prog;have h7:=lt_of_block h.blk;clear h b1 hz c1;have f5:IntKind.i64.wrap ((K.E.nf:Int)-(K.E.me:Int))=(K.E.nf:Int)-(K.E.me:Int):=Om _ Zo;have b7:IntKind.i64.wrap ((K.E.nf:Int)-(K.E.me:Int)-1)=(K.E.nf:Int)-(K.E.me:Int)-1:=Om _ Zo
 by_cases h0:K.E.nf<=K.E.me+1
 ·have q:vN K.E M=M:=by unfold vN;rw[if_pos h0]
  have a1:=Ja q;have b6:(K.E.nf:Int)-(K.E.me:Int)-1<1:=Zo;clear q;go_enter Tryz.func134,Tryz.ntmps134;go_upto_region 0 with fail;go_quiet (fail);go_wp2
  first|go_end0|refine bodyPost_ret (results_none rfl _ _ _) rfl ?_
  rw[a1.out];exact⟨rfl,X,⟨_,_,_,H.out.1.keep (yL _ _ _)⟩,Stp.of_below (yL _ _ _)⟩
 ·obtain⟨m,hm⟩:∃m:Nat,K.E.nf-K.E.me-1=m:=⟨_,rfl⟩
  have i9:1<=m:=Zo;have b6:¬(K.E.nf:Int)-(K.E.me:Int)-1<1:=Zo;have c4:(K.E.nf:Int)-(K.E.me:Int)-1=(m:Int):=Zo;have h9:¬(m:Int)<1:=Zo;rw[c4] at b7;clear b6;go_enter Tryz.func134,Tryz.ntmps134;go_upto_region 0 with fail
  go_cut [2] (fun v wx=>v=I m/\∃n,wx=w.drewN n)
  case first=>
   go_quiet (fail);go_wp2;go_meet;exact⟨by first|rfl|(rw[c4]),_,rfl⟩
  case rest=>
   obtain⟨rfl,n0,rfl⟩:=hcut;have a3:=H.out.1.keep (yL _ w n0);generalize d6:w.drewN n0=W1 at *;have b9:Stp X w X W1:=by rw[<-d6];exact Stp.of_below (yL _ _ _)
   have e0:=Ja (Jb a3 b9);have HT:=Ja (uD (a3.keep (Below.refl _ _).drew) (n:=m) Zo Zo (by have:=H.out.2.2;omega));have a2:=aaE K.E M (n:=m) Zo;obtain⟨z,hz⟩:∃z,tkV K.E M m=z:=⟨_,rfl⟩
   rw[hz] at HT a2;have HZ:=Ja (Jb hz hm);have d3:=a3.c3;clear a3 b9 hz hm d6 c2 c3 p0 f5 b7;go_upto_region 2 with fail;obtain⟨f,hf⟩:∃f:Nat,K.E.me+1+z=f:=⟨_,rfl⟩
   have c7:(K.E.me:Int)+1+(z:Int)=(f:Int):=Zo;have g8:=Ja (show IntKind.i64.wrap (IntKind.i64.wrap ((K.E.me:Int)+1)+(z:Int))=(f:Int) by rw[Om ((K.E.me:Int)+1) Zo,Om _ Zo];exact c7);clear c7
   go_cut [3] (fun v wx=>v=I f/\Hid (MkIn wx K X M.tick fv vv l/\Stp X w X wx))
   case first=>
    go_region_held3 (fun w'=>T w' K.pm 3 (I (K.E.me:Int))) (first|exact d3|assumption|(exact MkIn.c3 Zz))
     ((go_at_call 55;refine HT.out.mono ?_;rintro e w2 ⟨rfl,t,f7⟩))
    all_goals go_wp2_with fail
    go_meet;exact⟨by rw[g8.out],Ja ⟨t,e0.out.2.trans ((Stp.of_below (Below.refl _ _).drew).trans f7)⟩⟩
   obtain⟨rfl,d0⟩:=hcut;obtain⟨t,a6⟩:=d0.out;generalize g5:wc=w2 at *;clear d0 g5;have g2:f<K.E.nf:=by have:=HZ.out.2;omega
   have d2:=t.c2;have p3:=zA (i:=3) t.env.prog rfl;have d:=Ja (Jb t (Jb a6 hf));have h8:=lt_of_block t.env.prog;have h4:=lt_of_block t.blk;clear t a6 hf d3 e0 HT
   by_cases hh:(f:Int)=K.E.handler
   ·have t0:((f:Int)==K.E.handler)=true:=by rw[beq_iff_eq];exact hh
    have q:vN K.E M=M.tick:=by
     unfold vN;rw[if_neg h0];simp only;rw[HZ.out.2,HZ.out.1,d.out.2.2,if_pos hh]
    have a1:=Ja q;clear q hh;go_wp2
    first|go_end0|refine bodyPost_ret (results_none rfl _ _ _) rfl ?_
    rw[a1.out];exact⟨rfl,X,d.out.1.at,d.out.2.1⟩
   ·have t0:((f:Int)==K.E.handler)=false:=by rw[beq_eq_false_iff_ne];exact hh
    have q:vN K.E M=(yI K.E (K.E.args.getD f 0).toNat M.tick).2.emit ⟨26,0,(f:Nat),0,0,(yI K.E (K.E.args.getD f 0).toNat M.tick).1⟩:=by
     unfold vN;rw[if_neg h0];simp only;rw[HZ.out.2,HZ.out.1,d.out.2.2,if_neg hh]
    have a1:=Ja q;clear q hh;obtain⟨aa,ac,d1,_,_⟩:=d.out.1.env.args.form;have a4:=d.out.1.env.args;have f0:=d.out.1.env.len;have e4:=Ja (Jb d1 a4);obtain⟨x,hx⟩:∃x,K.E.args[f]? =some x:=⟨_,Jd (by rw[f0];exact g2)⟩
    obtain⟨f4,f3⟩:=d.out.1.env.alt x (Ji hx);have b5:K.E.args.getD f 0=x:=by rw[Jj,hx];rfl
    obtain⟨c,hc⟩:∃c:Nat,x.toNat=c:=⟨_,rfl⟩
    have c9:x=(c:Int):=Zo;have i2:=(zT M).sz;have HX:=Ja (Jb hx (Jb b5 (Jb hc c9)));have k0:c<=3:=Zo;have a7:=ArgMid.start d.out.1.at;have g6:=Ja a7;clear d1 a4 hx b5 hc c9 a7 f4 f3;go_upto_region 5 with fail;go_wp2;clear d2 p3
    go_loopw [4,5] (fun rv jv wx=>∃(j:Nat) (ra:Option Addr) (rc:Nat),j<=c/\rv=.slice ra j rc/\jv=I j/\Hid (ArgMid w2 K X M.tick (.slice ra j rc) j wx)) (fun _ jv _=>c-(intOf jv).toNat)
    case atStart=>exact⟨0,none,0,Jt _,rfl,rfl,g6⟩
    case round=>
     obtain⟨j,ra,rc,hj,rfl,rfl,HA⟩:=hrel
     have g1:∃Xj fv' vv' l',MkIn wr (K.withZ fun k=>K.Z k∨(Value.slice ra j rc).ownBlock=some k) Xj (yI K.E j M.tick).2 fv' vv' l'/\Stp X w2 Xj wr:=by
      obtain⟨Xj,⟨fv',vv',l',hm⟩,hs⟩:=HA.out.made;exact⟨Xj,fv',vv',l',hm,hs⟩
     obtain⟨Xj,fv',vv',l',hm,hs⟩:=g1;have e2:T wr K.pm 2 (Q K.pp):=hm.c2;have q1:T wr K.pp 1 K.apv:=zA (i:=1) hm.env.prog rfl;obtain⟨ab,ao,d5,g4⟩:=jh (show wm wr ((K.withZ fun k=>K.Z k∨(Value.slice ra j rc).ownBlock=some k).av Xj) K.apv K.E.args from hm.env.args) e4.out.1 HX.out.1;rw[e4.out.1,d5] at q1;rw[HX.out.2.2.2] at g4;have j2:(f:Int)<(K.E.args.length:Int):=Zo;have a0:=Ja (Jb hm hs);clear hm hs d5
     by_cases a2:j<c
     ·have e8:(j:Int)<(c:Int):=Zo;have g:=tj K.E j M.tick
      have b0:(yI K.E j M.tick).2.cur<(yI K.E j M.tick).2.f.length/\(yI K.E j M.tick).2.sz+4<=1000000:=by
       refine⟨?_,?_⟩
       ·rw[g.cur,g.len];exact H.out.2.1
       ·have:=g.sz;have:=H.out.2.2;omega
      have d4:=pu (K:=K.withZ fun k=>K.Z k∨(Value.slice ra j rc).ownBlock=some k) a0.out.1.at b0.1 b0.2;have a5:=oD a0.out.1.at;obtain⟨y,hy⟩:∃y,(zJ K.E (yI K.E j M.tick).2).1=y:=⟨_,rfl⟩
      have b3:A 58 #[Q K.pm] wr (yk (K.withZ fun k=>K.Z k∨(Value.slice ra j rc).ownBlock=some k) Xj wr (yI K.E (j+1) M.tick).2 (I y)):=by rw[<-hy];exact d4
      have a9:∀(w4:World) (X4:Nat->Prop),Stp Xj wr X4 w4->w4.ownsRow w2.heap.size 3 1 (.slice ra j rc) j ((yI K.E j M.tick).1.map zN):=fun w4 X4 u=>yD HA.out.own (fun k e=>u.kept k (HA.out.own.lt k e).2 (fun e2=>a0.out.1.env.zx k e2 (.inr e)))
      obtain⟨ij,g0,e7,e6,e5⟩:=info_parts Tryz.info_int;have HN:=Ja (Jb b3 (Jb a5 (Jb hy a9)));have d7:=Ja a2;have j1:j<=3:=Zo;have h5:=a0.out.2.size;clear d4 b3 a5 hy a9 b0 g a2;go_wp2_with (first|(go_at_call 58;go_must (refine HN.out.1.mono ?_;rintro e w4 ⟨rfl,X4,f9,u⟩;have c0:=HN.out.2.2.2 w4 X4 u;have h6:=u.size))|(at_builtin;go_must (refine zK _ rfl (.tmp 54) (.tmp 57) 22 rfl w2.heap.size 3 ij (I 0) 1 8 Tryz.underlying22 g0 e7 e6 e5 rfl Zd (.slice ra j rc) j ((yI K.E j M.tick).1.map zN) rfl (c0.alloc _) _ 1 [I y] rfl (yM.one (zI rfl) rfl) (by unfold maxLen;omega) Zo Zt ?_;intro v9 w9 a8 b4 g3)))
      obtain⟨f2,f1,rfl⟩:=zG a8;go_roundw
      case rel=>
       refine⟨j+1,f2,f1,d7.out,rfl,by go_num,Ja (HA.out.next f9 (a0.out.2.trans u) c0 (by rw[HN.out.2.2.1];have:=HN.out.2.1;rw[<-HN.out.2.2.1];exact this) d.out.1.xl d.out.1.size b4 (by rw[HN.out.2.2.1];exact a8) (fun k e=>?_))⟩;rcases g3 with e2|e2
       ·exact .inl (by rw[<-e2];exact e)
       ·right;have e3:=e2.symm.trans e;simp at e3;omega
      case measure=>have:=d7.out;simp[intOf];omega
     ·obtain rfl:j=c:=by omega
      have e8:¬(j:Int)<(j:Int):=Zo;obtain⟨X9,c5,b8,b2⟩:=HA.out.done d.out.1.env.zl;have g:=tj K.E j M.tick;have c8:=rD (o:=⟨26,0,(f:Int),0,0,(yI K.E j M.tick).1⟩) c5 ⟨yF _ rfl,yF _ rfl,vG (f:Int) Zo Zo,yF _ rfl,(by show 0<65536;omega)⟩ b2 (by rw[g.cur,g.len];exact H.out.2.1) (by have:=g.sz;have:=H.out.2.2;omega);have e1:=Ja (Jb c8 (d.out.2.1.trans b8));clear c5 b8 b2 g c8;go_wp2_with (go_at_call 132;go_must (refine e1.out.1.mono ?_;rintro e w5 ⟨rfl,X5,f8,f6⟩))
      first|go_end0|refine bodyPost_ret (results_none rfl _ _ _) rfl ?_
      rw[a1.out,HX.out.2.1,HX.out.2.2.1];exact⟨rfl,X5,f8,e1.out.2.trans f6⟩
structure OpSt (w0:World) (K:MKC) (X0:Nat->Prop) (M0:MS) (c:Nat) (w:World) (M:MS):Prop where
 made:∃X,wW w K X M/\Stp X0 w0 X w
 gr:GrowP c M0 M
 cur:M.cur<M.f.length
section
variable {w0 w:World} {K:MKC} {X0:Nat->Prop} {M0 M:MS} {c:Nat} (h:OpSt w0 K X0 M0 c w M)
include h
theorem OpSt.take (n:Nat)(i:0<n)(g:n<=1000000)(k:M0.sz+(c+1)<=1000000):
 A 55 #[Q K.pm,I n] w fun e w'=>∃z:Nat,z<n/\Hid (tkV K.E M n=z)/\e=.returned (I z)/\Hid (OpSt w0 K X0 M0 (c+1) w' M.tick):=by
 obtain⟨X,hm,hs⟩:=h.made;refine(m8 hm i g (by have:=h.gr.sz;omega)).mono ?_;rintro e w' ⟨rfl,X',j,d⟩;exact⟨_,aaE _ _ i,Ja rfl,rfl,Ja ⟨⟨X',j,hs.trans d⟩,h.gr.trans (zT M).p,h.cur⟩⟩
theorem OpSt.takeK (n k:Nat)(kI:Int)(g:(k:Int)=kI)(hk:tkV K.E M n=k)(i:0<n)(d:n<=1000000)(hz:M0.sz+(c+1)<=1000000):
 A 55 #[Q K.pm,I n] w fun e w'=>e=.returned (I kI)/\Hid (OpSt w0 K X0 M0 (c+1) w' M.tick):=by
 refine(h.take n i d hz).mono ?_;rintro e w' ⟨z,_,hz,rfl,hm⟩;refine⟨?_,hm⟩;rw[<-g,<-hk,hz.out]
theorem OpSt.any (i:M0.sz+(c+4)<=1000000):
 A 58 #[Q K.pm] w fun e w'=>∃x:Int,Hid (I64 x/\(zJ K.E M).1=x)/\e=.returned (I x)/\Hid (OpSt w0 K X0 M0 (c+4) w' (zJ K.E M).2):=by
 obtain⟨X,hm,hs⟩:=h.made;refine(pu hm h.cur (by have:=h.gr.sz;omega)).mono ?_;rintro e w' ⟨rfl,X',g,d⟩;exact⟨_,Ja ⟨oD hm,rfl⟩,rfl,Ja ⟨⟨X',g,hs.trans d⟩,h.gr.trans (yU K.E M).p,by rw[(yU K.E M).cur,(yU K.E M).len];exact h.cur⟩⟩
theorem OpSt.addr (i:M0.sz+(c+6)<=1000000):
 A 133 #[Q K.pm] w fun e w'=>∃x:Int,Hid (I64 x/\(yJ K.E M).1=x)/\e=.returned (I x)/\Hid (OpSt w0 K X0 M0 (c+6) w' (yJ K.E M).2):=by
 obtain⟨X,hm,hs⟩:=h.made;refine(addr_any hm h.cur (by have:=h.gr.sz;omega)).mono ?_;rintro e w' ⟨rfl,X',g,d⟩;refine⟨_,Ja ⟨?_,rfl⟩,rfl,Ja ⟨⟨X',g,hs.trans d⟩,h.gr.trans (ue K.E M).p,by rw[(ue K.E M).cur,(ue K.E M).len];exact h.cur⟩⟩;unfold yJ
 split
 ·obtain⟨fv,vv,l,hi⟩:=hm;exact oD ((hi.ticked (by have:=h.gr.sz;omega)).1.at)
 ·obtain⟨fv,vv,l,hi⟩:=hm;have hb:=hi.bnd;unfold MS.sz at hb;exact vG _ (by show -1000000<=(M.next:Int);omega) (by show(M.next:Int)<=1000000;omega)
theorem OpSt.next:(M.next:Int)<=1000000:=by
 obtain⟨X,⟨fv,vv,l,hi⟩,hs⟩:=h.made;have hb:=hi.bnd;unfold MS.sz at hb;omega
theorem OpSt.n64:I64 (M.next:Int):=vG _ Zo h.next
theorem OpSt.num (n:Nat)(i:n<65536)(j:M0.sz+(c+3)<=1000000):
 A 114 #[Q K.pm,U n] w fun e w'=>e=.returned (I (M.next:Int))/\Hid (OpSt w0 K X0 M0 (c+3) w' (M.num n)):=by
 obtain⟨X,hm,hs⟩:=h.made;refine(ks hm i h.cur (by have:=h.gr.sz;omega)).mono ?_;rintro e w' ⟨rfl,X',g,d⟩;exact⟨rfl,Ja ⟨⟨X',g,hs.trans d⟩,h.gr.trans (wT M n).p,by rw[(wT M n).cur,(wT M n).len];exact h.cur⟩⟩
theorem OpSt.emit (code a b:Int)(n:Nat)(h1:I64 code)(h2:I64 a)(h3:I64 b)(i:n<65536)(j:M0.sz+(c+3)<=1000000):
 A 132 #[Q K.pm,.agg #[I code,I 0,I a,I b,U n,F]] w fun e w'=>e=.returned (I (sB M code))/\Hid (OpSt w0 K X0 M0 (c+3) w' (M.emit ⟨code,0,a,b,n,[]⟩)):=by
 obtain⟨X,hm,hs⟩:=h.made;refine(rD (o:=⟨code,0,a,b,n,[]⟩) hm ⟨h1,yF _ rfl,h2,h3,i⟩ yE.nil h.cur (by have:=h.gr.sz;omega)).mono ?_;rintro e w' ⟨rfl,X',g,d⟩;exact⟨rfl,Ja ⟨⟨X',g,hs.trans d⟩,h.gr.trans (yB M _).p,by rw[(yB M _).cur,(yB M _).len];exact h.cur⟩⟩
theorem OpSt.call (d:∀x∈K.E.args,0<=x/\x<4)(j:M0.sz+(c+16)<=1000000):
 A 134 #[Q K.pm] w fun e w'=>e=.returned (.tuple #[])/\Hid (OpSt w0 K X0 M0 (c+16) w' (vN K.E M)):=by
 obtain⟨X,hm,hs⟩:=h.made;refine(jN hm h.cur (by have:=h.gr.sz;omega)).mono ?_;rintro e w' ⟨rfl,X',i,g⟩;exact⟨rfl,Ja ⟨⟨X',i,hs.trans g⟩,h.gr.trans (sI K.E d M).p,by rw[(sI K.E d M).cur,(sI K.E d M).len];exact h.cur⟩⟩
theorem OpSt.block (n:Nat)(i:M0.sz+(c+(1+n))<=1000000):
 A 56 #[Q K.pm,I n] w fun e w'=>e=.returned (I (M.f.length:Int))/\Hid (OpSt w0 K X0 M0 (c+(1+n)) w' (M.block n)):=by
 obtain⟨X,hm,hs⟩:=h.made;refine(rU hm (n:=n) (by have:=h.gr.sz;omega)).mono ?_;rintro e w' ⟨rfl,X',g,d⟩;exact⟨rfl,Ja ⟨⟨X',g,hs.trans d⟩,h.gr.trans (xM M n),by have:=h.cur;rw[yz];show M.cur<_;omega⟩⟩
theorem OpSt.flen:(M.f.length:Int)<=1000000:=by
 obtain⟨X,⟨fv,vv,l,hi⟩,hs⟩:=h.made;have hb:=hi.bnd;unfold MS.sz at hb;omega
theorem OpSt.endB (k a:Int)(tos:List IEdge)(tv:Value)(hk:I64 k)(j:I64 a)(d:∀X,wW w K X M->Stp X0 w0 X w->vT w (K.av X) tv tos):
 A 59 #[Q K.pm,.agg #[I k,I a,tv]] w fun e w'=>e=.returned (.tuple #[])/\Hid (OpSt w0 K X0 M0 c w' (M.endB ⟨k,a,tos⟩)):=by
 obtain⟨X,hm,hs⟩:=h.made;refine(nt (t:=⟨k,a,tos⟩) hm hk j (d X hm hs) h.cur).mono ?_;rintro e w' ⟨rfl,X',i,g⟩;exact⟨rfl,Ja ⟨⟨X',i,hs.trans g⟩,h.gr.trans (zv M _).p,by rw[(zv M _).cur,(zv M _).len];exact h.cur⟩⟩
theorem OpSt.endN(k a:Int)(tos:List IEdge)(tv:Value)(hk:I64 k)(j:I64 a)(hb:O w w2)(d:∀X:Nat->Prop,(∀k,X k->k<w.heap.size)->vT w2 X tv tos):
 A 59 #[Q K.pm,.agg #[I k,I a,tv]] w2 fun e w'=>e=.returned (.tuple #[])/\Hid (OpSt w0 K X0 M0 c w' (M.endB ⟨k,a,tos⟩)):=by
 obtain⟨X,⟨fv,vv,l,hm⟩,hs⟩:=h.made;refine(nt (t:=⟨k,a,tos⟩) (hm.keep hb).at hk j (d (K.av X) (fun k e=>e.elim (hm.xl k) (hm.env.zl k))) h.cur).mono ?_;rintro e w' ⟨rfl,X',i,g⟩;exact⟨rfl,Ja ⟨⟨X',i,hs.trans ((Stp.of_below hb).trans g)⟩,h.gr.trans (zv M _).p,by rw[(zv M _).cur,(zv M _).len];exact h.cur⟩⟩
theorem OpSt.below(hb:O w w'):OpSt w0 K X0 M0 c w' M:=by
 obtain⟨X,⟨fv,vv,l,hm⟩,hs⟩:=h.made;exact⟨⟨X,⟨fv,vv,l,hm.keep hb⟩,hs.trans (Stp.of_below hb)⟩,h.gr,h.cur⟩
end
theorem OpSt.start(h:wW w K X M)(c:M.cur<M.f.length):OpSt w K X M 0 w M:=⟨⟨X,h,Stp.refl _ _⟩,GrowP.refl M,c⟩
theorem OpSt.ret{M':MS}{c:Nat}{r:Value}(h:OpSt w K X M c w' M'):yk K X w M' r (.returned r) w':=⟨rfl,h.made⟩
theorem wW.alt(h:wW w K X M):∀x∈K.E.args,0<=x/\x<4:=by
 obtain⟨fv,vv,l,hm⟩:=h;exact hm.env.alt
theorem own_take{S:Nat}{e:TypeId}{a:Option Addr}{n c:Nat}{xs:List Value}(h:w.ownsRow S e 1 (.slice a n c) n xs)(hk:k<=n):w.ownsRow S e 1 (.slice a k c) k (xs.take k):=by
 obtain⟨h1,h2⟩:=h;refine⟨by rw[Oc,h1];omega,?_⟩;rcases h2 with⟨h3,d⟩|⟨g,o,cur,h3,d,m,q,l,j,i⟩
 ·cases h3;left;have:k=0:=Zo;subst this;exact⟨rfl,rfl⟩
 ·cases h3;refine .inr ⟨g,_,cur,rfl,d,m,by omega,l,j,?_⟩;rw[<-i,List.take_take]
  congr 1
  omega
def toL (tg n:Nat):List (IEdge×Value):=(List.range n).map fun k=>(⟨((tg+k:Nat):Int),[]⟩,F)
theorem toL_succ (tg n:Nat):toL tg (n+1)=toL tg n++ [(⟨((tg+n:Nat):Int),[]⟩,.slice none 0 0)]:=by unfold toL;rw[List.range_succ,Js];rfl
theorem toL_len (tg n:Nat):(toL tg n).length=n:=by unfold toL;simp
theorem toL_fst (tg n:Nat):(toL tg n).map (·.1)=xk tg n:=by unfold toL xk;rw[List.map_map];rfl
structure ToMid (w:World) (K:MKC) (X:Nat->Prop) (M:MS) (tv:Value) (j:Nat) (wx:World):Prop where
 own:wx.ownsRow w.heap.size 79 2 tv j ((toL M.f.length j).flatMap za)
 made:∃Xj,wW wx (K.withZ fun k=>K.Z k∨tv.ownBlock=some k) Xj (xE j M)/\Stp X w Xj wx
theorem ToMid.start(h:wW w K X M):ToMid w K X M (F) 0 w:=by
 refine⟨Jv _ _ _ _,X,?_,Stp.refl _ _⟩;obtain⟨fv,vv,l,h⟩:=h;exact⟨fv,vv,l,h.off (Je _) ⟨rfl,rfl,rfl⟩ (fun _ _ _=>rfl) (fun k e=>e.elim .inl (fun e=>by simp[Value.ownBlock] at e)) (fun k e=>e.elim (h.env.zl k) (fun e=>by simp[Value.ownBlock] at e))⟩
theorem ToMid.next{tv d:Value}(h:ToMid w K X M tv j wx)(h2:wW w2 (K.withZ fun k=>K.Z k∨tv.ownBlock=some k) X2 (xE (j+1) M))(c:Stp X w X2 w2)(m:w2.ownsRow w.heap.size 79 2 tv j ((toL M.f.length j).flatMap za))
 (t:∀k,X k->k<w.heap.size) (hB:K.B<=w.heap.size) (hg:(w2.alloc o).grownBy w3 tv.ownBlock) (i:w3.ownsRow w.heap.size 79 2 d (j+1) ((toL M.f.length j).flatMap za++za (⟨((M.f.length+j:Nat):Int),[]⟩,F))) (q:∀k,d.ownBlock=some k->tv.ownBlock=some k∨w2.heap.size<=k):ToMid w K X M d (j+1) w3:=by
 obtain⟨fv,vv,l,h2⟩:=h2;have g:w2.heap.size<=w3.heap.size:=by have:=hg.size;simp at this;omega
 have hk:∀k,k<w2.heap.size->tv.ownBlock≠some k->w3.heap[k]? =w2.heap[k]?:=fun k hk hne=>(hg.block k Zt (fun e=>hne e.symm)).trans (Below.heap_alloc w2 o k hk)
 refine⟨?_,X2,⟨fv,vv,l,h2.off (K:=K.withZ fun k=>K.Z k∨tv.ownBlock=some k) g ⟨hg.os,hg.tape,hg.output⟩ (fun k hk' hz=>hk k hk' (fun e=>by have h1:k<K.B:=hz (.inr e);have:=(m.lt k e).1;omega)) (fun k e=>e.elim (fun e=> .inl (.inl e)) (fun e=>(q k e).elim (fun e=> .inl (.inr e)) .inr)) (fun k e=>e.elim (fun e=>Jy (h2.env.zl k (.inl e)) g) (fun e=>(i.lt k e).2))⟩,?_⟩
 ·rw[toL_succ,Nx];exact i
 ·refine⟨hg.os.trans c.os,hg.tape.trans c.tape,hg.output.trans c.output,Jn c.size g,c.new,fun k hk' hx'=>(hk k (Jy hk' c.size) (fun e=>?_)).trans (c.kept k hk' hx')⟩;have:=(m.lt k e).1;omega
theorem ToMid.done{tv:Value}(h:ToMid w K X M tv j wx)(d:∀k,K.Z k->k<w.heap.size)(g:M.f.length+j<=1000000):∃Xj,wW wx K Xj (xE j M)/\Stp X w Xj wx/\vT wx (K.av Xj) tv (xk M.f.length j):=by
 obtain⟨Xj,⟨fv,vv,l,hm⟩,hs⟩:=h.made;refine⟨Xj,⟨fv,vv,l,hm.off (Z2:=K.Z) (Je _) ⟨rfl,rfl,rfl⟩ (fun _ _ _=>rfl) (fun k e=> .inl (.inl e)) (fun k e=>hm.env.zl k (.inl e))⟩,hs,?_⟩;rw[<-toL_fst];refine ld (by rw[toL_len];exact h.own) (fun q hq=>?_) (fun k e hx=>hx.elim (fun e2=>hm.env.zx k e2 (.inr e)) (fun e2=>?_))
 ·unfold toL at hq;obtain⟨m,c,rfl⟩:=Nu.1 hq;have:=Ol.1 c;exact⟨vG _ (by show -1000000<=((M.f.length+m:Nat):Int);omega) (by show((M.f.length+m:Nat):Int)<=1000000;omega),yE.nil⟩
 ·have:=(h.own.lt k e).1;have:=d k e2;omega
theorem pj{blk:Int}(d:∀x∈xs,I64 x)(hl:xs.length<=1000)(hb:I64 blk)(X:Nat->Prop)(c:∀k,X k->k<w.heap.size):
 vT ((w.alloc (G (xs.map fun x=>I x).toArray 3)).alloc (G #[I blk,Y w.heap.size xs.length xs.length] 79)) X (Y (w.heap.size+1) 1 1) [⟨blk,xs⟩]:=by
 refine qt (l:=[((⟨blk,xs⟩:IEdge),Y w.heap.size xs.length xs.length)]) (e:=79) (zI Zs) (fun e=>by have:=c _ e;omega) (fun q hq=>?_) Zs;rw[Jo] at hq;subst hq;exact⟨hb,ki (zB (zI rfl)) (fun e=>by have:=c _ e;omega) d Zo⟩
theorem edgeCell{v:Value}{xs:List IEdge}{a:Option Addr}{n c:Nat}(h:vT w X v xs)(hv:v=.slice a n c){x:IEdge}(d:xs[k]? =some x):∃b o,a=some ⟨b,o,none⟩/\T w b (o+k*2) (I x.block):=by
 subst hv;obtain⟨a',c',e,_,_,h3⟩:=h;cases e;obtain⟨b,o,i,_,_,g,_⟩:=h3 k x d;exact⟨b,o,i,g⟩
theorem nl{tg n:Nat}(h:k<n):(xk tg n)[k]? =some ⟨((tg+k:Nat):Int),[]⟩:=by unfold xk;rw[Jr,Oh h];rfl
theorem MkIn.cut{fv:Value}{a:Option Addr}{n c:Nat}(h:MkIn w K X M fv (.slice a n c) l)(hk:k<=M.vals.length):
 MkIn (w.setCell ⟨K.pm,7,none⟩ (.slice a k c)) K X {M with vals:=M.vals.take k } fv (.slice a k c) l/\Stp X w X (w.setCell ⟨K.pm,7,none⟩ (.slice a k c)):=by
 have hv:=h.vown;obtain⟨a',c',e⟩:=zG hv;cases e;have d:(M.vals.take k).length=k:=by rw[Oc];omega
 refine h.setC 7 _ {M with vals:=M.vals.take k } (.slice a k c) rfl rfl ?_ (fun x hx=>h.v64 x (List.mem_of_mem_take hx)) ?_ ?_ h.lft
 ·show w.ownsRow K.B 3 1 (.slice a k c) (M.vals.take k).length ((M.vals.take k).map zN)
  rw[d,List.map_take];exact own_take hv hk
 ·intro j e;refine h.xv j ?_
  cases a with
  |none=>cases e
  |some a=>exact e
 ·have:=h.bnd;unfold MS.sz at this ⊢;simp only[d];omega
theorem MkIn.goto{fv:Value}(h:MkIn w K X M fv vv l)(k:Nat):
 MkIn (w.setCell ⟨K.pm,5,none⟩ (I k)) K X {M with cur:=k } fv vv l/\Stp X w X (w.setCell ⟨K.pm,5,none⟩ (I k)):=
 h.setC 5 _ {M with cur:=k } vv rfl rfl h.vown h.v64 h.xv h.bnd h.lft
theorem MkIn.parAt{fv:Value}(h:MkIn w K X M fv vv l){b:IBlk}(hb:M.f[i]? =some b):
 ∃g c pa pc,fv=Y g l.length c/\g<w.heap.size/\T w g (i*5) (.slice pa b.params.length pc)/\∀k x,b.params[k]? =some x->∃bb o,pa=some ⟨bb,o,none⟩/\bb<w.heap.size/\T w bb (o+k) (I x)/\I64 x:=by
 obtain⟨q,m,rfl,u⟩:=h.getB hb;obtain⟨g,c,d,a1,y,a0⟩:=h.fblk m;have j:=z9 yr h.own (by rw[d];rfl) m;have e0:T w g (i*5) q.pv:=j 0 _ rfl;obtain⟨pa,pc,t,h1,h2,h3⟩:=u.par;refine⟨g,c,pa,pc,d,y,by rw[e0,t],fun k x hx=>?_⟩;obtain⟨bb,o,h4,h5,h6,h7,h8⟩:=h3 k x hx;rw[Nk] at h7;exact⟨bb,o,h4,h5,h7,h8⟩
def jQ {α:Type}(R:World->(Nat->Prop)->Nat->Nat->α->Prop):Prop:=∀w X Y b q x,(∀k,Y k->X k)->R w X b q x->R w Y b q x
theorem yE.anti{α:Type}{sz:Nat}{R:World->(Nat->Prop)->Nat->Nat->α->Prop}(g:jQ R){Y:Nat->Prop}{v:Value}{xs:List α}(h:yE sz R w X v xs)(c:∀k,Y k->X k):yE sz R w Y v xs:=by
 obtain⟨a,d,rfl,h1,h2,h3⟩:=h;refine⟨a,d,rfl,h1,h2,fun k x hk=>?_⟩;obtain⟨b,o,m,l,j,i⟩:=h3 k x hk;exact⟨b,o,m,l,fun e=>j (c _ e),g _ _ _ _ _ _ c i⟩
theorem abf:jQ IntG:=fun w X Y b q x hY h=>h
theorem qd:jQ EdgeG:=fun w X Y b q x hY h=>by
 obtain⟨h1,h2,av,h3,c⟩:=h;exact⟨h1,h2,av,h3,c.anti abf hY⟩
def OpG (w:World)(X:Nat->Prop)(b q:Nat)(x:IOp):Prop:=
 T w b q (I x.code)/\T w b (q+1) (I x.res)/\T w b (q+2) (I x.a)/\T w b (q+3) (I x.b)/\T w b (q+4) (U (x.n:Int))/\
  (I64 x.code/\I64 x.res/\I64 x.a/\I64 x.b/\x.n<65536)/\∃av,T w b (q+5) av/\wm w X av x.args
theorem lu:rP OpG:=fun X w X' w' b q x _ hx hs h=>by
 obtain⟨h1,h2,h3,j,i,g,av,d,c⟩:=h;exact⟨hs.cell h1 hx,hs.cell h2 hx,hs.cell h3 hx,hs.cell j hx,hs.cell i hx,g,av,hs.cell d hx,c.step zn hs⟩
theorem opG_anti:jQ OpG:=fun w X Y b q x hY h=>by
 obtain⟨h1,h2,h3,j,i,g,av,d,c⟩:=h;exact⟨h1,h2,h3,j,i,g,av,d,c.anti abf hY⟩
abbrev OpsG:=yE 6 OpG
def BlkG (w:World)(X:Nat->Prop)(b q:Nat)(x:IBlk):Prop:=
 T w b (q+2) (I x.term.kind)/\T w b (q+3) (I x.term.a)/\(I64 x.term.kind/\I64 x.term.a)/\
  ∃pv ov tv,T w b q pv/\T w b (q+1) ov/\T w b (q+4) tv/\wm w X pv x.params/\OpsG w X ov x.ops/\vT w X tv x.term.to
theorem xq:rP BlkG:=fun X w X' w' b q x _ hx hs h=>by
 obtain⟨h1,h2,h3,pv,ov,tv,k,j,i,g,d,c⟩:=h;exact⟨hs.cell h1 hx,hs.cell h2 hx,h3,pv,ov,tv,hs.cell k hx,hs.cell j hx,hs.cell i hx,g.step zn hs,d.step lu hs,c.step yq hs⟩
theorem jG:jQ BlkG:=fun w X Y b q x hY h=>by
 obtain⟨h1,h2,h3,pv,ov,tv,k,j,i,g,d,c⟩:=h;exact⟨h1,h2,h3,pv,ov,tv,k,j,i,g.anti abf hY,d.anti opG_anti hY,c.anti qd hY⟩
abbrev pf:=yE 5 BlkG
theorem OpsG.to{v:Value}{xs:List IOp}(h:OpsG w X v xs):mN w w.heap.size v xs:=yE.to h fun _ _ _ h=>by
 obtain⟨h1,h2,h3,j,i,g,av,d,c⟩:=h;exact⟨h1,h2,h3,j,i,g,av,d,wm.to c⟩
theorem pf.to{v:Value}{xs:List IBlk}(h:pf w X v xs):wX w w.heap.size v xs:=yE.to h fun _ _ _ h=>by
 obtain⟨h1,h2,h3,pv,ov,tv,k,j,i,g,d,c⟩:=h;exact⟨h1,h2,h3,pv,ov,tv,k,j,i,wm.to g,OpsG.to d,vT.to c⟩
theorem qv{α β:Type}{sz:Nat}{f:β->List Value}{g:β->α}{R:World->(Nat->Prop)->Nat->Nat->α->Prop}(y:0<sz)(hf:∀a,(f a).length=sz){S:Nat}{e:TypeId}{v:Value}{l:List β}(h:w.ownsRow S e sz v l.length (l.flatMap f))(t:∀k,v.ownBlock=some k->¬X k)
 (x:∀q∈l,∀b o,(∀j u,(f q)[j]? =some u->T w b (o+j) u)->R w X b o (g q)):yE sz R w X v (l.map g):=by
 obtain⟨a,c,rfl⟩:=zG h;have hl:=zm h;refine⟨a,c,by rw[Nr],by rw[Nr];exact hl.1,by omega,fun k o hk=>?_⟩;rw[Jr,Oz] at hk;obtain⟨q,d,rfl⟩:=hk;have i:=(Jh.1 d).1;obtain⟨gg,a0,e,hg,hb⟩:=h.form Zo;cases e;refine⟨gg,0,rfl,hb,t gg rfl,x q (Ji d) _ _ fun j u hj=>?_⟩;have m:j<sz:=by rw[<-hf q];exact(Jh.1 hj).1
 rw[Ng]
 exact(h.cellAt (k*sz+j) (by
  have:(k+1)*sz<=l.length*sz:=Qw sz i;rw[Nat.add_mul] at this
  omega)).trans ((uB f sz hf l k q d j m).trans hj)
theorem mF (q:IOp×Value):(zU q).length=6:=rfl
theorem MkIn.blks{fv:Value}(h:MkIn w K X M fv vv l):pf w (fun k=>k=K.pm∨K.Z k) fv M.f:=by
 have c:∀k,(k=K.pm∨K.Z k)->K.av X k:=fun k e=>e.elim (fun e=> .inl (by rw[e];exact h.xm)) .inr
 rw[h.fl];refine qv Zd yr h.own (fun k e e2=>?_) (fun q hq b o hc=>?_)
 ·rcases e2 with e2|e2
  ·exact zC h.own h.blk (.inr Zd) (by rw[e,e2])
  ·exact h.env.zx k (h.xf k e) e2
 ·have ok:=h.bok q hq;refine⟨hc 2 _ rfl,hc 3 _ rfl,ok.k64,q.pv,q.ov,q.tv,hc 0 _ rfl,hc 1 _ rfl,hc 4 _ rfl,ok.par.anti abf c,?_,ok.tos.anti qd c⟩;rw[ok.ops];refine qv Zd mF ok.own (fun k e e2=>?_) (fun p hp b2 o2 hc2=>?_)
  ·rcases e2 with e2|e2
   ·exact zC ok.own h.blk (.inr Zd) (by rw[e,e2])
   ·exact h.env.zx k (ok.inX k e) e2
  ·have oa:=ok.arg p hp;exact⟨hc2 0 _ rfl,hc2 1 _ rfl,hc2 2 _ rfl,hc2 3 _ rfl,hc2 4 _ rfl,oa.1,p.2,hc2 5 _ rfl,oa.2.anti abf c⟩
theorem MkIn.putVs{fv vv':Value}(h:MkIn w K X M fv vv l)(hg:w.grownBy w3 vv.ownBlock){n:Nat}(u:n=M.vals.length+xs.length)
 (c:w3.ownsRow K.B 3 1 vv' n (M.vals.map zN++xs.map zN)) (o:∀k,vv'.ownBlock=some k->vv.ownBlock=some k∨w.heap.size<=k) (t:∀x∈xs,I64 x) (hz:M.sz+xs.length<=1000000):
 MkIn (w3.setCell ⟨K.pm,7,none⟩ vv') K (fun k=>X k∨vv'.ownBlock=some k) {M with vals:=M.vals++xs } fv vv' l/\Stp X w (fun k=>X k∨vv'.ownBlock=some k) (w3.setCell ⟨K.pm,7,none⟩ vv'):=by
 subst u;have n1:=zC h.vown h.blk (.inr Zd);have i:=zL hg h.blk n1;have m:w.heap.size<=w3.heap.size:=hg.size
 have hk:∀k,k<w.heap.size->k≠K.pm->vv.ownBlock≠some k->(w3.setCell ⟨K.pm,7,none⟩ vv').heap[k]? =w.heap[k]?:=fun k hk hne hv=>
  (Below.heap_setCell w3 ⟨K.pm,7,none⟩ vv' k hne).trans (hg.block k hk (fun e=>hv e.symm))
 have hs:Stp X w (fun k=>X k∨vv'.ownBlock=some k) (w3.setCell ⟨K.pm,7,none⟩ vv'):=
  ⟨hg.os,hg.tape,hg.output,by simpa using m,fun k hx'=>hx'.elim .inl (fun e=>(o k e).elim (fun e2=> .inl (h.xv k e2)) .inr),fun k hk' hxk=>hk k hk' (fun e=>hxk (by rw[e];exact h.xm)) (fun e=>hxk (h.xv k e))⟩
 have g:∀ {v:Value} {e:TypeId} {sz n:Nat} {xs:List Value},w.ownsRow K.B e sz v n xs->e≠3->e≠128->∀k,v.ownBlock=some k->(w3.setCell ⟨K.pm,7,none⟩ vv').heap[k]? =w.heap[k]?:=fun {v e sz n xs} ho h1 h2 k hk'=>by
  refine hk k (ho.lt k hk').2 (fun e3=>zC ho h.blk (.inr h2) (by rw[hk',e3])) (fun e3=>?_);rcases zo ho h.vown h1 with j|j
  ·rw[j] at hk';cases hk'
  ·exact j (by rw[hk',e3])
 refine⟨⟨?_,yD h.own (g h.own Zd Zd),h.fl,fun q hq=>(h.bok q hq).step hs (g (h.bok q hq).own Zd Zd) (fun _ e=> .inl e),h.apart,?_,?_,.inl h.xm,fun k e=> .inl (h.xf k e),fun k e=> .inr e,fun k e=>e.elim (h.xB k) (fun e2=>(c.lt k e2).1),fun k e=>?_,h.env.step hs (hs.below h.xB h.size),?_,h.lft⟩,hs⟩
 ·rw[zD i];rfl
 ·show(w3.setCell ⟨K.pm,7,none⟩ vv').ownsRow K.B 3 1 vv' (M.vals++xs).length ((M.vals++xs).map zN)
  rw[Jk,Js];exact ownsRow_setCell_other c (fun e=>zC c i (.inr Zd) (by simpa using e)) _
 ·intro y d;rcases Jl.1 d with d|d
  ·exact h.v64 y d
  ·exact t y d
 ·rcases e with e|e
  ·have:=h.xl k e;simp;omega
  ·have:=(c.lt k e).2;simpa using this
 ·unfold MS.sz at *;simp only[Jk];omega
structure MDC where
 sv:Value
 apv:Value
 dv:Value
 bv:Value
 pm:Nat
 pp:Nat
 fb:Nat
 rr:Nat
 B:Nat
variable {C:MDC}
def mdK (s:List Int)(C:MDC)(k:Nat):MKC:=⟨xC s k,C.sv,Y C.fb (mdN s) (mdN s),C.apv,C.dv,C.bv,C.pm,C.pp,C.B,fun j=>(j=C.fb∨j=C.rr)∨j<C.B⟩
theorem MkEnv.me{s:List Int}(h:MkEnv w (mdK s C j) X)(hk:k<mdN s):MkEnv w (mdK s C k) X:=
 ⟨h.s,h.fpv,h.prog,h.args,h.data,h.ppX,h.h64,h.len,⟨h.nf.1,hk⟩,h.alt,h.zx,h.zl⟩
theorem MkEnv.anti{Y:Nat->Prop}(h:MkEnv w K X)(d:∀k,Y k->X k):MkEnv w K Y:=by
 have c:∀k,K.av Y k->K.av X k:=fun k e=>e.elim (fun e=> .inl (d k e)) .inr
 obtain⟨b,e1,e2,e3⟩:=h.data;exact⟨h.s,h.fpv,h.prog,h.args.anti abf c,⟨b,e1,fun e=>e2 (c _ e),e3⟩,fun e=>h.ppX (c _ e),h.h64,h.len,h.nf,h.alt,fun k e=>h.zx k (d k e),h.zl⟩
theorem MkEnv.stepA(h:MkEnv w K X)(c:Stp (K.av X) w (K.av X) w')(hb:Below K.B w w'):MkEnv w' K X:=by
 obtain⟨b,e1,e2,e3⟩:=h.data;exact⟨h.s.below zO hb,h.fpv,c.blk h.prog h.ppX,h.args.step zn c,⟨b,e1,e2,c.blk e3 e2⟩,h.ppX,h.h64,h.len,h.nf,h.alt,h.zx,fun k e=>Jy (h.zl k e) c.size⟩
structure MdAt (s:List Int) (C:MDC) (w0:World) (k:Nat) (wx:World):Prop where
 env:MkEnv wx (mdK s C 0) (fun j=>j=C.pm)
 mkr:∃(me:Value) (cur:Nat) (fv next vv left:Value),wx.heap[C.pm]? =some (.cells #[C.sv,.int .i64 ((zg s k).2:Int),.pointer (some ⟨C.pp,0,none⟩),me,fv,.int .i64 (cur:Int),next,vv,left] 128 (0,0))
 row:∃hs:List Value,hs.length=mdN s/\wx.heap[C.fb]? =some (.cells hs.toArray 39 (0,0))/\∀(j:Nat) (x:List IBlk),(zg s k).1[j]? =some x->∃v:Value,hs[j]? =some v/\pf wx (fun i=>i=C.pm∨((i=C.fb∨i=C.rr)∨i<C.B)) v x
 bel:Below w0.heap.size w0 wx
 hB:C.B=w0.heap.size
 pmB:C.B<=C.pm
 fbB:C.B<=C.fb
 rrB:C.B<=C.rr
theorem MdAt.start{s:List Int}(h:MdAt s C w0 k wx)(hk:k<mdN s){cur next:Nat}(d:(zg s k).2+1+next<=900000)
 (c:L W C.pm (uC (mdK s C k) ⟨(zg s k).2+1,[],cur,next,[],6⟩ (F) (F)) 128)
 (hs:Stp (fun j=>j=C.pm) wx (fun j=>j=C.pm) W):MkIn W (mdK s C k) (fun j=>j=C.pm) ⟨(zg s k).2+1,[],cur,next,[],6⟩ (F) (F) []:=
 ⟨c,Jv _ _ _ _,rfl,fun q hq=>by simp at hq,fun i j qi qj k hi=>by simp at hi,Jv _ _ _ _,fun x hx=>by simp at hx,rfl,fun k e=>by simp[Value.ownBlock] at e,fun k e=>by simp[Value.ownBlock] at e,
  fun k e=>by rw[e];exact h.pmB,fun k e=>by rw[e];exact lt_of_block c,(h.env.step hs (hs.below (fun k e=>by rw[e];exact h.pmB) (by show C.B<=_;rw[h.hB];exact h.bel.size))).me hk,by unfold MS.sz;simp[opsN];omega,⟨by show(6:Int)<=6+_;omega,by show(6:Int)<=6;omega⟩⟩
theorem MdAt.done{s:List Int}{W2:World}(h:MdAt s C w0 k wx)(hk:k<mdN s){fv:Value}(hm:MkIn W (mdK s C k) X (xR (xC s k) (zg s k).2) fv vv l)(hs:Stp (fun j=>j=C.pm) wx X W)(w:(zg s k).1.length=k)
 (c:W2.heap.size=W.heap.size/\W2.os=W.os/\W2.tape=W.tape/\W2.output=W.output) (g:∀i,i≠C.fb->W2.heap[i]? =W.heap[i]?) (a2:∀cs:Array Value,L W C.fb cs 39->L W2 C.fb (cs.setIfInBounds k fv) 39):MdAt s C w0 (k+1) W2:=by
 obtain⟨row,hrl,o,t⟩:=h.row;have m:¬(C.fb=C.pm):=fun e=>h.env.zx C.pm rfl (.inl (.inl e.symm))
 have a7:¬X C.fb:=fun e=>hm.env.zx C.fb e (.inl (.inl rfl))
 have d:Stp ((mdK s C k).av fun j=>j=C.pm) W ((mdK s C k).av fun j=>j=C.pm) W2:=⟨c.2.1,c.2.2.1,c.2.2.2,by rw[c.1];exact Je _,fun k e=> .inl e,fun i _ hx=>g i (fun e=>hx (.inr (.inl (.inl e))))⟩
 have a5:C.B<=wx.heap.size:=by rw[h.hB];exact h.bel.size
 have a4:Below C.B wx W:=hs.below (fun k e=>by rw[e];exact h.pmB) a5;have a6:C.B<=C.fb:=h.fbB;have q:Below C.B W W2:=⟨c.2.1,c.2.2.1,c.2.2.2,by rw[c.1];exact Je _,fun i hi=>g i Zo⟩
 have y:MkEnv W2 (mdK s C 0) (fun j=>j=C.pm):=((hm.env.anti (fun i e=>by rw[e];exact hm.xm)).stepA d q).me (by have:=hk;omega);have a1:C.fb<wx.heap.size:=lt_of_block o;refine⟨y,?_,?_,?_,h.hB,h.pmB,h.fbB,h.rrB⟩
 ·have h1:=hm.blk;exact⟨_,_,_,_,_,_,(g C.pm (fun e=>m e.symm)).trans h1⟩
 ·have u:L W C.fb row.toArray 39:=(hs.kept _ a1 (fun e=>m e)).trans o;refine⟨row.set k fv,by rw[Nd];exact hrl,by rw[a2 _ u];simp,fun j x hj=>?_⟩;have e1:(zg s (k+1)).1=(zg s k).1++ [(xR (xC s k) (zg s k).2).f]:=rfl;rw[e1] at hj
  by_cases a8:j<k
  ·rw[Np Zo] at hj;obtain⟨v,hv,a3⟩:=t j x hj;refine⟨v,by rw[Ns Zo];exact hv,?_⟩;have h2:pf W ((mdK s C k).av X) v x:=yE.step (X:=(mdK s C k).av fun j=>j=C.pm) xq a3 (hs.av _);have h3:pf W ((mdK s C k).av fun j=>j=C.pm) v x:=h2.anti jG (fun i e=>e.elim (fun e=> .inl (by rw[e];exact hm.xm)) .inr);exact h3.step xq d
  ·have a0:j=k:=by
    have:=(Jh.1 hj).1;simp at this;omega
   subst a0;rw[Nc Zo,w,Qy] at hj;cases hj;refine⟨fv,by rw[Nn Zo],?_⟩;have h2:pf W ((mdK s C j).av fun i=>i=C.pm) fv (xR (xC s j) (zg s j).2).f:=hm.blks;exact h2.step xq d
 ·have e:C.B=w0.heap.size:=h.hB;have:=h.bel.trans (B:=w0.heap.size) (by rw[<-e];exact a4.trans q);exact this
theorem tf{pm pos B:Nat}{cs:Array Value}{s:List Int}{sv:Value}(hb:L w pm cs 128)(h0:cs[0]? =some sv)(h1:cs[1]? =some (I pos))(hs:zY w B sv s){n:Nat}(l:0<n)(g:n<=1000000)(t:pos+1<=1000000):
 A 55 #[Q pm,I n] w fun e w'=>e=.returned (I (tk0 s pos n:Nat))/\L w' pm (cs.setIfInBounds 1 (I ((pos+1:Nat):Int))) 128/\Stp (fun j=>j=pm) w (fun j=>j=pm) w':=by
 have c0:=zA hb h0;have c1:=zA hb h1;obtain⟨sa,sc,i,a1,a0⟩:=hs.form;rw[i] at c0 hs;have f1:N w pm 1:=zE hb;have a2:=lt_of_block hb
 have d:=Ja (show ∀n,L ((w.drewN n).setCell ⟨pm,1,none⟩ (I ((pos:Int)+1))) pm (cs.setIfInBounds 1 (I ((pos+1:Nat):Int))) 128/\Stp (fun j=>j=pm) w (fun j=>j=pm) ((w.drewN n).setCell ⟨pm,1,none⟩ (I ((pos:Int)+1))) from fun n=>
  ⟨zD (w:=w.drewN n) hb _,⟨rfl,rfl,rfl,by simp,fun _ h=> .inl h,fun k hk c=>Below.heap_setCell _ _ _ _ (fun e=>c (by rw[e]))⟩⟩)
 have hp:(pos:Int)+1<=1000000:=Zo;clear hb h0 h1
 by_cases m:pos<s.length
 ·obtain⟨x,c⟩:∃x,s[pos]? =some x:=⟨_,Jd m⟩
  obtain⟨b,o,rfl,hb,u,h64⟩:=hs.get c;rw[Nk] at u;have y:(pos:Int)<(s.length:Int):=Zo;have hv:tk0 s pos n=(x%(n:Int)).toNat:=by unfold tk0;rw[Jj,c];rfl
  have e1:=rK x n l g;rw[hv];have q:=Ja e1;clear hs c hb e1 hv;go_enter Tryz.func55,Tryz.ntmps55;go_wp2;go_quiet (fail);go_wp2;go_quiet (fail);go_wp2;go_ret;exact⟨zh q.out,(d.out _).1,(d.out _).2⟩
 ·have y:¬(pos:Int)<(s.length:Int):=Zo;have hv:tk0 s pos n=((0:Int)%(n:Int)).toNat:=by unfold tk0;rw[Jj,Of Zo];rfl
  have e1:=rK 0 n l g;rw[hv];have q:=Ja e1;clear hs hv e1;go_enter Tryz.func55,Tryz.ntmps55;go_wp2;go_quiet (fail);go_wp2;go_ret;exact⟨zh Zs,(d.out _).1,(d.out _).2⟩
theorem acyG_of {g:List (List Nat)}(hv:zw g)(h:∀(n:Nat) (row:List Nat),g[n]? =some row->∀s∈row,nc g s (-1) n=false):ah0 g:=by
 intro u s d hs c;have hr:g[u]? =some (succ g u):=by unfold succ;rw[Jj,Jd d];rfl
 have h1:=h u _ hr s hs;rw[(nG hv (j0 hv hs) (-1) u).2 (c.imp fun a _=>by omega)] at h1;cases h1
def AcyRet (w:World)(g:List (List Nat))(e:Ending)(w':World):Prop:=∃b,e=.returned (.bool b)/\(b=true->ah0 g)/\O w w'
theorem af7{c0:Value}(a7:wX w w.heap.size c0 bl)(hs:vZ bl)(a6:bl≠ [])(ht:∀b∈bl,ro bl b.term=true):
 A 26 #[.agg #[c0]] w (AcyRet w (zy bl)):=by
 obtain⟨ka,kc,rfl,d3,d2⟩:=a7.form;obtain⟨X,hX⟩:∃X,w.alloc (G #[.slice ka bl.length kc] 39)=X:=⟨_,rfl⟩
 have a4:O w X:=by rw[<-hX];exact(Below.refl _ _).alloc (Je _) _
 have cx:T X w.heap.size 0 (.slice ka bl.length kc):=by rw[<-hX];exact cell_of_one (zI rfl)
 have c7:w.heap.size<X.heap.size:=by rw[<-hX];simp
 have d0:=Ja (afH ((a7.below yT a4).mono yT a4.size) (Je _) hs);have HQ:=Ja (fun(W:World) (B:Nat) (sv:Value) (h:pV W B sv (zk bl))=>ahD hs a6 ht h);have b7:zw (zy bl):=nO a6 ht;generalize zy bl=g at *;have HX:=Ja (Jb a4 b7);clear a7 hs a6 ht a4 b7;go_enter Tryz.func26,Tryz.ntmps26;go_upto_region 1 with fail
 try rw[hX]
 clear hX;go_upto_region 2 with(go_at_call 48;go_must (refine d0.out.mono ?_;rintro e w1 ⟨a,n,c,rfl,b8,b0⟩))
 have hq:=HQ.out _ _ _ b8;obtain⟨a',c',e1,c5⟩:=hq.rows.form;cases e1;obtain⟨Y,hY⟩:∃Y,w1.alloc (G #[.slice a g.length c] 105)=Y:=⟨_,rfl⟩
 have a8:O w1 Y:=by rw[<-hY];exact(Below.refl _ _).alloc (Je _) _
 have d:=Ja (show O w Y/\GraphIn Y (.slice a g.length c) g/\L Y w1.heap.size #[.slice a g.length c] 105 from⟨HX.out.1.trans ((b0.trans (a8.mono b0.size)).mono HX.out.1.size),hq.below a8,by rw[<-hY];exact zI rfl⟩);obtain⟨tg,a5⟩:∃t,w1.heap.size=t:=⟨_,rfl⟩
 rw[a5] at d
 try rw[hY]
 try rw[a5]
 clear b8 hq c5 hY a8 a5 cx c7 b0;have d4:=d.out.2.1.len;go_wp2
 go_loopw [4] (fun nv wx=>∃n:Nat,n<=g.length/\nv=I n/\Hid (O Y wx/\∀(m:Nat) (row:List Nat),m<n->g[m]? =some row->∀s∈row,nc g s (-1) m=false)) (fun nv _=>g.length-(intOf nv).toNat)
 case atStart=>exact⟨0,Jt _,rfl,Ja ⟨Below.refl _ _,fun m row hm=>absurd hm (Nat.not_lt_zero _)⟩⟩
 case round=>
  obtain⟨n,hn,rfl,HK⟩:=hrel;have cg:=zA (i:=0) (zH HK.out.1 d.out.2.2 (lt_of_block d.out.2.2)) rfl
  by_cases a1:n<g.length
  ·have c3:(n:Int)<g.length:=Zo;have b3:=Ja a1;obtain⟨row,a0⟩:∃row,g[n]? =some row:=⟨_,Jd a1⟩
   have HR:=Ja (Jb a0 (d.out.2.1.row row (Ji a0)));clear a1 a0;go_wp2;clear cg
   go_loopw [5] (fun kv wx=>∃k:Nat,k<=row.length/\kv=I k/\Hid (O Y wx/\∀(j s:Nat),j<k->row[j]? =some s->nc g s (-1) n=false)) (fun kv _=>row.length-(intOf kv).toNat)
   case atStart=>exact⟨0,Jt _,rfl,Ja ⟨HK.out.1,fun j s hj=>absurd hj (Nat.not_lt_zero _)⟩⟩
   case round=>
    rename World=>wq
    obtain⟨k,hk,rfl,q⟩:=hrel;have hrl:row.length<=2000000:=HR.out.2;have x:=zH q.out.1 d.out.2.2 (lt_of_block d.out.2.2);have HG:=Ja (d.out.2.1.below q.out.1);obtain⟨bg,og,a2,b1,rfl,c8,hc,d1,hx⟩:=HG.out.rows.row HR.out.1;have cg:=zA (i:=0) x rfl
    by_cases l:k<row.length
    ·have b5:(k:Int)<row.length:=Zo;obtain⟨s,hs⟩:∃s,row[k]? =some s:=⟨_,Jd l⟩
     obtain⟨b2,o2,rfl,c9,a3⟩:=hx k s hs;have a3:T wq b2 (o2+k) (I s):=a3;have b6:s<g.length:=j0 HX.out.2 (u:=n) (by unfold succ;rw[Jj,HR.out.1];exact Ji hs);have c4:=lt_of_block x;have HS:=Ja (Jb hs (Jb b6 (Jb l x)));have c2:=Ja (show ∀W,O wq W->T W tg 0 (.slice (some ⟨bg,og,none⟩) g.length c)/\T W bg (og+n) (.slice (some ⟨b2,o2,none⟩) row.length b1)/\T W b2 (o2+k) (I s) from fun W hb=>⟨zA (zH hb x c4) rfl,zV hb c8 hc,zV hb c9 a3⟩);obtain⟨y,hy⟩:∃y,nc g s (-1) n=y:=⟨_,rfl⟩
     have c1:=Ja hy;clear hx hs l b6 x hy;go_upto_region 8 with fail;refine wp_region_noPanic ?_;refine wp_region_held_drew (S:=(fun w'=>T w' tg 0 (.slice (some ⟨bg,og,none⟩) g.length c)/\T w' bg (og+n) (.slice (some ⟨b2,o2,none⟩) row.length b1)/\T w' b2 (o2+k) (I s))) Zk (c2.out _ (Below.refl _ _).drew) (fun hHeld=>?_);refine Th 0 ?_
     try simp only[Yp]
     refine Th 1 ?_
     try simp only[Yp]
     refine Th 2 ?_
     try simp only[Yp]
     refine Th 3 ?_
     try simp only[Yp]
     refine Th 4 ?_
     try simp only[Yp]
     refine Th 5 ?_
     try simp only[Yp]
     refine Th 6 ?_
     try simp only[Yp]
     refine Th 7 ?_
     try simp only[Yp]
     refine Th 8 ?_
     try simp only[Yp]
     refine Th 10 ?_
     try simp only[Yp]
     refine wpAnyH_ready (rs:=[9]) Zk Zs ?_;refine AllReadyH.cons (o:=_) rfl (fun K hK=>?_) ?_
     ·skip
      (go_simp;refine(ans_from (HG.out.below (Below.refl _ _).drew) s HS.out.2.1 (-1)).mono ?_;rintro e w2 ⟨ab,rfl,d5,hA,a9⟩;rw[de HX.out.2 HS.out.2.1];have b9:O wq w2:=(Below.refl _ _).drew.trans a9;clear a9;have b4:=Ja (Jb b9 hA);have ca:T w2 ab n (.bool y):=by rw[<-c1.out];exact zA hA (by have:=dZ HX.out.2 HS.out.2.1 (-1) b3.out;simp[this,sl]))
      refine hK.out _ _ (c2.out _ b4.out.1) (fun hHeld=>?_);clear hK K
      try simp only[Yp]
      refine wpAnyH_ready (rs:=[11]) Zk Zs ?_;refine AllReadyH.cons (o:=_) rfl (fun K hK=>?_) ?_
      ·skip
       go_simp;refine hK.out _ _ hHeld (fun hHeld=>?_);clear hK K
       try simp only[Yp]
       refine wpAnyH_ready (rs:=[12]) Zk Zs ?_;refine AllReadyH.cons (o:=_) rfl (fun K hK=>?_) ?_
       ·skip
        go_simp;refine hK.out _ _ hHeld (fun hHeld=>?_);clear hK K
        try simp only[Yp]
        refine wpAnyH_done Zk (NoPanic.normal ?_) _;clear b9 hA cg hc a3;cases y
        ·go_wp2_with fail;go_roundw
         case rel=>
          refine⟨k+1,HS.out.2.2.1,by go_num,Ja ⟨q.out.1.trans (b4.out.1.mono q.out.1.size),fun j s2 hj h2=>?_⟩⟩
          by_cases e:j=k
          ·subst e;rw[HS.out.1] at h2;cases h2;exact c1.out
          ·exact q.out.2 j s2 Zo h2
         case measure=>have:=HS.out.2.2.1;simp[intOf];omega
        ·go_wp2_with fail;go_ret;exact⟨false,⟨rfl,⟨(fun h=>by cases h),d.out.1.trans ((q.out.1.trans (b4.out.1.mono q.out.1.size)).mono d.out.1.size)⟩⟩⟩
       exact AllReadyH.nil
      exact AllReadyH.nil
     exact AllReadyH.nil
    ·obtain rfl:k=row.length:=by omega
     have b5:¬(row.length:Int)<row.length:=Zo;clear hx l;go_wp2;go_roundw
     case rel=>
      refine⟨n+1,b3.out,by go_num,Ja ⟨q.out.1,fun m r2 hm h2=>?_⟩⟩
      by_cases e:m=n
      ·subst e;rw[HR.out.1] at h2;cases h2;intro s hs;obtain⟨j,hj⟩:=Ny hs;exact q.out.2 j s (Jh.1 hj).1 hj
      ·exact HK.out.2 m r2 Zo h2
     case measure=>have:=b3.out;simp[intOf];omega
  ·obtain rfl:n=g.length:=by omega
   have c3:¬(g.length:Int)<g.length:=Zo;clear a1;go_wp2;go_ret;exact⟨true,rfl,fun _=>acyG_of HX.out.2 fun m row hm=>HK.out.2 m row (Jh.1 hm).1 hm,d.out.1.trans (HK.out.1.mono d.out.1.size)⟩
theorem ae1(c:(0::ns).Nodup)(h:0::ns=o1++i::o2):(∀a∈o1,wh (0::ns) a<wh (0::ns) i)/\(∀a∈o2,wh (0::ns) i<wh (0::ns) a):=by
 have hp:=mr c;generalize wh (0::ns)=f at *;rw[h] at hp;have h1:=List.pairwise_append.1 hp;exact⟨fun a ha=>h1.2.2 a ha i (.head _),fun a ha=>(List.pairwise_cons.1 h1.2.1).1 a ha⟩
def ah2 (bl:List IBlk)(b:IBlk):List Evn:=b.term.to.flatMap fun e=>((xz bl e.block).params.zip e.args).map fun x=> .arg x.1 x.2
theorem afx{b:IBlk}{e:Evn}(h:e∈ah2 bl b):∃v x,e=.arg v x:=by
 obtain⟨ed,_,h2⟩:=Qx.1 h;obtain⟨⟨v,x⟩,_,rfl⟩:=Nu.1 h2;exact⟨v,x,rfl⟩
theorem ahu{b:IBlk}{l2:List Evn}{ev:Evn}(h:evB bl b=l1++ev::l2):
 (∃k o,b.ops[k]? =some o/\ev=.op o/\l1=(b.ops.take k).map .op/\l2=(b.ops.drop (k+1)).map .op++ah2 bl b)∨∃m1,l1=b.ops.map .op++m1/\ah2 bl b=m1++ev::l2:=by
 have h:b.ops.map Evn.op++ah2 bl b=l1++ev::l2:=h;rcases List.append_eq_append_iff.1 h with⟨m,h1,h2⟩|⟨m,h1,h2⟩
 ·exact .inr ⟨m,h1,h2⟩
 ·cases m with
  |nil=>exact .inr ⟨[],by rw[h1];simp,by rw[h2];rfl⟩
  |cons x m=>
   rw[List.cons_append] at h2;obtain⟨rfl,h3⟩:=List.cons.inj h2;obtain⟨a,c,e1,e2,e3⟩:=List.map_eq_append_iff.1 h1
   cases c with
   |nil=>cases e3
   |cons o c=>
    rw[Ql] at e3;obtain⟨rfl,e4⟩:=List.cons.inj e3;refine .inl ⟨a.length,o,by rw[e1];simp,rfl,?_,?_⟩
    ·rw[e1,<-e2];simp
    ·rw[e1,h3,<-e4];simp
def Plc (bl:List IBlk)(f:Nat->Nat)(i k:Nat)(x:Int):Prop:=
 ∃(c:Nat) (b:IBlk),bl[c]? =some b/\f c<=f i/\(x∈b.params∨∃(l:Nat) (o:IOp),b.ops[l]? =some o/\o.res=x/\0<=x/\(c=i->l<k))
theorem plc_of{p:IProg}(q:FnS p bl)(m:OrdF (zy bl) ns)(hi:i<bl.length)(h:ahq bl i k x):Plc bl (wh (0::ns)) i k x:=by
 obtain⟨b,hb⟩:∃b,bl[i]? =some b:=⟨_,Jd hi⟩
 rcases h with(h|⟨j,o,h1,h2,h3,d⟩)|⟨c,h1,h2,h3,d⟩
 ·rw[zf hb] at h;exact⟨i,b,hb,Je _,.inl (by simpa using h)⟩
 ·rw[zf hb] at h2;exact⟨i,b,hb,Je _,.inr ⟨j,o,h2,h3,d,fun _=>h1⟩⟩
 ·obtain⟨bc,g⟩:∃b,bl[c]? =some b:=⟨_,Jd h2⟩
  rw[zf g] at d;obtain⟨D,t⟩:=m.dom;have:=t.dom_mem ((m.mem i).2 (q.st.all i hi)) h3;refine⟨c,bc,g,this.2,?_⟩;rcases d with d|⟨o,y,w,u⟩
  ·exact .inl d
  ·obtain⟨l,hl⟩:=Ny y;exact .inr ⟨l,o,hl,w,u,fun e=>absurd e h1⟩
theorem aa1(d:OrdF (zy bl) ns)(c:j∈0::ns):j<bl.length:=by have:=d.lt j c;rwa [xu] at this
theorem before{p:IProg}(hF:FnS p bl)(d:OrdF (zy bl) ns)(g:0::ns=o1++i::o2)(hx:Plc bl (wh (0::ns)) i k x)(a4:∀m o,m<k->(xz bl i).ops[m]? =some o-> .op o∈l1):
 x∈(xz bl (0:Nat)).params∨∃e∈(o1.flatMap fun j:Nat=>evB bl (xz bl (j:Int)))++l1,e.out=some x:=by
 obtain⟨c,b,hb,hc,a2⟩:=hx;have a7:=(Jh.1 hb).1;have u:c∈0::ns:=(d.mem c).2 (hF.st.all c a7);have a1:=ae1 d.nodup g;have a5:i∈0::ns:=by rw[g];exact Qf _ (.head _)
 have a0:∀a∈0::ns,wh (0::ns) a<wh (0::ns) i->a∈o1:=fun a h1 h2=>by
  rw[g] at h1;rcases Jl.1 h1 with h1|h1
  ·exact h1
  ·rcases Jq.1 h1 with rfl|h1
   ·omega
   ·have:=a1.2 a h1;omega
 rcases a2 with h2|⟨l,o,h2,h3,h4,h5⟩
 ·by_cases e:c=0
  ·subst e;rw[zf hb];exact .inl h2
  ·have a6:c∈ns:=by
    rcases Jq.1 u with h|h
    ·exact absurd h e
    ·exact h
   obtain⟨q,y,a8⟩:=d.fwd c a6;have w:=(d.mem q).2 y.1;obtain⟨ev,h6,h7⟩:=arg_in hF.st (aa1 d w) y.2 hb h2;exact .inr ⟨ev,Jz _ (Qx.2 ⟨q,a0 q w Zo,h6⟩),h7⟩
 ·have t:(Evn.op o).out=some x:=by
   show(if 0<=o.res then some o.res else none)=some x
   rw[h3,if_pos h4]
  by_cases e:c=i
  ·subst e;exact .inr ⟨.op o,Qf _ (a4 l o (h5 rfl) (by rw[zf hb];exact h2)),t⟩
  ·have a3:wh (0::ns) c<wh (0::ns) i:=by
    rcases Nat.lt_or_eq_of_le hc with h|h
    ·exact h
    ·exact absurd (ou d.nodup u a5 h) e
   refine .inr ⟨.op o,Jz _ (Qx.2 ⟨c,a0 c u a3,?_⟩),t⟩;rw[zf hb];exact Jz _ (Nu.2 ⟨o,Ji h2,rfl⟩)
section
variable {p:IProg} {bl:List IBlk} {d:wO} {ns:List Nat} (hF:FnS p bl) (hL:Loc bl d) (hO:OrdF (zy bl) ns) (ha:ah0 (zy bl))
include hF hL hO ha
theorem agt(hx:Plc bl (wh (0::ns)) i k x)(hi:i∈0::ns)(u:j∈0::ns)(a5:wh (0::ns) i<=wh (0::ns) j){e:Evn}(he:e∈evB bl (xz bl j))(t:e.out=some x):
 j=i/\∃m o,m<k/\(xz bl i).ops[m]? =some o/\e=.op o/\o.res=x:=by
 obtain⟨c,b,hb,hc,g⟩:=hx;have h:=aa1 hO u;obtain⟨bj,d⟩:∃b,bl[j]? =some b:=⟨_,Jd h⟩
 have a3:=(Jh.1 hb).1;have a6:c∈0::ns:=(hO.mem c).2 (hF.st.all c a3);rcases ahB hF.st h he t with⟨o,rfl,ho,hr,h0⟩|⟨s,bs,hs,h1,a4,y⟩
 ·rw[zf d] at ho;obtain⟨m,hm⟩:=Ny ho;have q:=hL.op j bj d m o hm (by rw[hr];exact h0);rw[hr] at q;rcases g with h2|⟨l,o',h2,h3,w,h5⟩
  ·have:=(hL.par c b hb x h2).2;rw[q.2] at this;have:=Nt this;omega
  ·have q2:=hL.op c b hb l o' h2 (by rw[h3];exact w);rw[h3,q.1,q.2] at q2;have e1:=Nt q2.1;have e2:=Nt q2.2;have a2:j=c:=Zo;subst a2;have a1:j=i:=ou hO.nodup u hi Zo;subst a1;exact⟨rfl,m,o,by have:=h5 rfl;omega,by rw[zf d];exact hm,rfl,hr⟩
 ·exfalso;have q:=hL.par s bs a4 x y;rcases g with h2|⟨l,o',h2,h3,w,h5⟩
  ·have q2:=hL.par c b hb x h2;rw[q.1] at q2;have e1:=Nt q2.1;have a0:s=c:=Zo;subst a0;have:=topo hO ha u hs;omega
  ·have q2:=hL.op c b hb l o' h2 (by rw[h3];exact w);rw[h3,q.2] at q2;have e2:=Nt q2.2;omega
def ParQ (bl:List IBlk)(x:Int):Prop:=∃(i:Nat) (b:IBlk),1<=i/\bl[i]? =some b/\x∈b.params
theorem af9 {k0:Int->Prop}(c8:∀x∈(xz bl (0:Nat)).params,k0 x)(c7:∀x,k0 x->x∈(xz bl (0:Nat)).params):ahE (ParQ bl) k0 (evL bl (0::ns)):=by
 refine ahG _ _ fun pre ev post hsplit=>?_
 obtain⟨o1,i,o2,l1,l2,a7,b3,rfl,rfl⟩:=bf _ _ _ _ _ hsplit;have a6:=ae1 hO.nodup a7;have a3:i∈0::ns:=by rw[a7];exact Qf _ (.head _)
 have a8:=aa1 hO a3;obtain⟨b,hb⟩:∃b,bl[i]? =some b:=⟨_,Jd a8⟩
 have a5:=zf hb;have ho2:∀j∈o2,j∈0::ns:=fun j w=>by rw[a7];exact Qf _ (.tail _ w)
 have c3:∀j∈o1,j∈0::ns:=fun j w=>by rw[a7];exact Jz _ w
 have d3:=hF.pos;obtain⟨b0,c1⟩:∃b,bl[0]? =some b:=⟨_,Jd d3⟩
 have b9:∀(k:Nat) (x:Int),ahq bl i k x->(∀m o,m<k->(xz bl i).ops[m]? =some o-> .op o∈l1)->(∀o,.op o∈ev::l2->∃m,k<=m/\(xz bl i).ops[m]? =some o)->
  (k0 x∨∃e∈(o1.flatMap fun j:Nat=>evB bl (xz bl (j:Int)))++l1,e.out=some x)/\∀e∈ev::(l2++o2.flatMap fun j:Nat=>evB bl (xz bl (j:Int))),e.out≠some x:=by
  intro k x d2 a2 a0;have b6:=plc_of hF hO a8 d2;refine⟨?_,fun e g d=>?_⟩
  ·rcases before hF hO a7 b6 a2 with h|h
   ·exact .inl (c8 x h)
   ·exact .inr h
  ·have a4:e∈ev::l2∨∃j∈o2,e∈evB bl (xz bl (j:Int)):=by
    rcases Jq.1 g with rfl|g
    ·exact .inl (.head _)
    ·rcases Jl.1 g with g|g
     ·exact .inl (.tail _ g)
     ·exact .inr (Qx.1 g)
   rcases a4 with a4|⟨j,w,a4⟩
   ·have t:e∈evB bl (xz bl (i:Int)):=by rw[b3];exact Qf _ a4
    obtain⟨_,m,o,hm,ho,rfl,hr⟩:=agt hF hL hO ha b6 a3 a3 (Je _) t d;obtain⟨m',d5,l⟩:=a0 o a4
    have h0:0<=o.res:=by
     have d:(if 0<=o.res then some o.res else none)=some x:=d
     by_cases h:0<=o.res
     ·exact h
     ·rw[if_neg h] at d;cases d
    rw[a5] at ho l;have q1:=(hL.op i b hb m o ho h0).2;rw[(hL.op i b hb m' o l h0).2] at q1;have:=Nt q1;omega
   ·obtain⟨a1,_⟩:=agt hF hL hO ha b6 a3 (ho2 j w) (Qd (a6.2 j w)) a4 d;have:=a6.2 j w;rw[a1] at this;exact absurd this (Nat.lt_irrefl _)
 rcases ahu b3 with⟨k,o,ho,rfl,a2,a0⟩|⟨m1,a2,a0⟩
 ·have b1:∀m o',m<k->(xz bl i).ops[m]? =some o'->Evn.op o'∈l1:=fun m o' hm l=>by
   rw[a2];exact Nu.2 ⟨o',Ji (by rw[List.getElem?_take_of_lt hm];exact l),rfl⟩
  have a9:∀o',Evn.op o'∈Evn.op o::l2->∃m,k<=m/\(xz bl i).ops[m]? =some o':=fun o' h=>by
   rcases Jq.1 h with h|h
   ·cases h;exact⟨k,Je _,ho⟩
   ·rw[a0] at h;rcases Jl.1 h with h|h
    ·obtain⟨o2,h1,h2⟩:=Nu.1 h;cases h2;obtain⟨m,hm⟩:=Ny h1;rw[List.getElem?_drop] at hm;exact⟨k+1+m,by omega,hm⟩
    ·obtain⟨v,x,h1⟩:=afx h;cases h1
  refine⟨fun x u=>?_,fun h0=>?_⟩
  ·have hu:x∈rR o:=by
    have u:x∈(if 0<=o.res then(if(zi o.code).a=true then [o.a] else [])++(if(zi o.code).b=true then [o.b] else []) else []):=u
    by_cases h0:0<=o.res
    ·rw[if_pos h0] at u;rcases Jl.1 u with u|u
     ·by_cases h:(zi o.code).a=true
      ·rw[if_pos h] at u;rw[Jo.1 u];exact mem_a h
      ·rw[if_neg h] at u;cases u
     ·by_cases h:(zi o.code).b=true
      ·rw[if_pos h] at u;rw[Jo.1 u];exact mem_b h
      ·rw[if_neg h] at u;cases u
    ·rw[if_neg h0] at u;cases u
   exact b9 k x (hF.st.use i k o a8 ho x hu) b1 a9
  ·rw[a5] at ho;have q:=hL.op i b hb k o ho h0
   have b7:∀(c:Nat) bc,bl[c]? =some bc->o.res ∉ bc.params:=fun c bc hc hm=>by
    have:=(hL.par c bc hc o.res hm).2;rw[q.2] at this;have:=Nt this;omega
   have b2:∀(j:Nat),j∈0::ns->∀e∈evB bl (xz bl (j:Int)),e.out=some o.res->j=i/\∃o',e=.op o'/\(xz bl i).ops[k]? =some o':=fun j w e g d=>by
    have c0:=aa1 hO w;obtain⟨bj,b4⟩:∃b,bl[j]? =some b:=⟨_,Jd c0⟩
    rcases ahB hF.st c0 g d with⟨o',rfl,l,hr,d4⟩|⟨s,bs,hs,h1,b8,b5⟩
    ·rw[zf b4] at l;obtain⟨m,hm⟩:=Ny l;have q2:=hL.op j bj b4 m o' hm (by rw[hr];exact d4);rw[hr,q.1,q.2] at q2;have e1:=Nt q2.1;have e2:=Nt q2.2;have a1:j=i:=Zo;subst a1;have c5:m=k:=Zo;subst c5;rw[b4] at hb;cases hb;exact⟨rfl,o',rfl,by rw[zf b4];exact hm⟩
    ·exact absurd b5 (b7 s bs b8)
   refine⟨⟨fun hk=>b7 0 b0 c1 (by have:=c7 _ hk;rwa [zf c1] at this),fun e g d=>?_⟩,fun⟨c,bc,_,hc,hm⟩=>b7 c bc hc hm,fun e g d=>?_⟩
   ·rcases Jl.1 g with g|g
    ·obtain⟨j,w,g⟩:=Qx.1 g;obtain⟨a1,_⟩:=b2 j (c3 j w) e g d;have:=a6.1 j w;rw[a1] at this;exact absurd this (Nat.lt_irrefl _)
    ·have t:e∈evB bl (xz bl (i:Int)):=by rw[b3];exact Jz _ g
     obtain⟨_,o',rfl,l⟩:=b2 i a3 e t d;rw[a2] at g;obtain⟨o3,h1,h2⟩:=Nu.1 g;cases h2;obtain⟨m,hm⟩:=Ny h1;have c4:=(Jh.1 hm).1;rw[Oc] at c4;rw[List.getElem?_take_of_lt Zo,a5] at hm;rw[a5] at l;have hr:o'.res=o.res:=by rw[ho] at l;cases l;rfl
     have q3:=(hL.op i b hb m o' hm (by rw[hr];exact h0)).2;rw[hr,q.2] at q3;have:=Nt q3;omega
   ·rcases Jl.1 g with g|g
    ·have t:e∈evB bl (xz bl (i:Int)):=by rw[b3];exact Qf _ (.tail _ g)
     obtain⟨_,o',rfl,l⟩:=b2 i a3 e t d;rw[a0] at g;rcases Jl.1 g with g|g
     ·obtain⟨o3,h1,h2⟩:=Nu.1 g;cases h2;obtain⟨m,hm⟩:=Ny h1;rw[List.getElem?_drop,a5] at hm;rw[a5] at l;have hr:o'.res=o.res:=by rw[ho] at l;cases l;rfl
      have q3:=(hL.op i b hb (k+1+m) o' hm (by rw[hr];exact h0)).2;rw[hr,q.2] at q3;have:=Nt q3;omega
     ·obtain⟨v,x,h1⟩:=afx g;cases h1
    ·obtain⟨j,w,g⟩:=Qx.1 g;obtain⟨a1,_⟩:=b2 j (ho2 j w) e g d;have:=a6.2 j w;rw[a1] at this;exact absurd this (Nat.lt_irrefl _)
 ·have t:ev∈ah2 bl (xz bl (i:Int)):=by rw[a0];exact Qf _ (.head _)
  obtain⟨v,x,rfl⟩:=afx t
  have b1:∀m o',m<(xz bl i).ops.length->(xz bl i).ops[m]? =some o'->Evn.op o'∈l1:=fun m o' _ l=>by
   rw[a2];exact Jz _ (Nu.2 ⟨o',Ji l,rfl⟩)
  have a9:∀o',Evn.op o'∈Evn.arg v x::l2->∃m,(xz bl i).ops.length<=m/\(xz bl i).ops[m]? =some o':=fun o' h=>by
   have hm:Evn.op o'∈ah2 bl (xz bl (i:Int)):=by rw[a0];exact Qf _ h
   obtain⟨v',x',h1⟩:=afx hm;cases h1
  obtain⟨ed,d1,hz⟩:=Qx.1 t;obtain⟨⟨v',x'⟩,hz,d0⟩:=Nu.1 hz;have c2:v=v'/\x=x':=by cases d0;exact⟨rfl,rfl⟩
  obtain⟨rfl,rfl⟩:=c2;refine⟨fun y hy=>?_,?_⟩
  ·have hy:y∈ [x]:=hy;rw[Jo.1 hy];refine b9 _ x (hF.st.ends i a8 x ?_) b1 a9;unfold mE;exact Qf _ (List.mem_flatten.2 ⟨_,Nu.2 ⟨ed,d1,rfl⟩,(List.of_mem_zip hz).2⟩)
  ·have d:(Evn.arg v x).out=some v:=rfl;have c9:Evn.arg v x∈evB bl (xz bl (i:Int)):=Qf _ t;rcases ahB hF.st a8 c9 d with⟨o',h1,_⟩|⟨s,bs,hs,h1,b8,b5⟩
   ·cases h1
   ·exact⟨s,bs,h1,b8,b5⟩
end
def ff (n:Nat):Slv:=⟨List.replicate n y7,List.replicate n false⟩
def afe (p:IProg)(bl:List IBlk)(order:List Nat):Slv:=(evL bl order).foldl (evQ p) (ff (aaG bl).toNat)
theorem aeL {α:Type}(n:Nat)(a:α)(v:Nat)(z:α):(List.replicate n a).getD v z=if v<n then a else z:=by
 rw[Jj,Nm]
 split<;>rfl
theorem afS {n:Nat}:∀(ps:List Int) (q:Slv×Bool),(∀v∈ps,v.toNat<n)->OkS n q.1->∀x:Int,(ps.foldl (fun q v=>m7 0 v y7 q) q).1.knw x=true->q.1.knw x=true∨∃v∈ps,v.toNat=x.toNat
 | [],q,_,_,x,h=> .inl h
 |v::ps,q,hp,hq,x,h=>by
  have hk:=hq.step (k:=0) v vu;rcases afS ps (m7 0 v y7 q) (fun u hu=>hp u (.tail _ hu)) hk x h with h1|⟨u,h1,h2⟩
  ·by_cases e:v.toNat=x.toNat
   ·exact .inr ⟨v,.head _,e⟩
   ·have:=(ae0 (k:=0) hq Zo (hp v (.head _)) y7).2.2 x e;exact .inl (this.2.symm.trans h1)
  ·exact .inr ⟨u,.tail _ h1,h2⟩
theorem rules_eq{p:IProg}{d:wO}(u:FnS p bl)(hL:Loc bl d)(ha:ah0 (zy bl))(hc:∀i:Nat,i<bl.length->∀o∈(xz bl i).ops,o.code<=27)
 (hu:∀b∈bl,aq (aaG bl).toNat b):tr p bl=(afe p bl (vD (zy bl))).r:=by
 obtain⟨ns,hO⟩:=adR u.st.vg;obtain⟨N,y⟩:∃N,(aaG bl).toNat=N:=⟨_,rfl⟩
 have l:∀v∈(xz bl (0:Nat)).params,0<=v/\v.toNat<N:=by rw[<-y];exact(u.rng 0 u.pos).1
 obtain⟨s0,w⟩:∃s,aeH N (xz bl (0:Nat)).params=s:=⟨_,rfl⟩
 have a3:OkS N s0:=by rw[<-w];exact agw fun v hv=>(l v hv).2
 have m:=agF (n:=N) (ps:=(xz bl (0:Nat)).params) fun v hv=>(l v hv).2
 rw[w] at m
 have a4:∀x:Int,0<=x/\s0.knw x=true->x∈(xz bl (0:Nat)).params:=fun x c=>by
  rw[<-w] at c;rcases afS (xz bl (0:Nat)).params (⟨List.replicate N ⟨0,0⟩,List.replicate N false⟩,false) (fun v hv=>(l v hv).2) (afs N) x c.2 with h1|⟨v,h1,h2⟩
  ·have h1:(List.replicate N false).getD x.toNat false=true:=h1;rw[aeL] at h1
   split at h1<;>cases h1
  ·have h3:=(l v h1).1;have:v=x:=Zo;rw[<-this];exact h1
 have a7:=af9 u hL hO ha (k0:=fun x=>0<=x/\s0.knw x=true) (fun x c=>⟨(l x c).1,(m x c).1⟩) a4;have j:∀i∈0::ns,mb N bl (xz bl i):=fun i hi=>by rw[<-y];exact u.sol i (aa1 hO hi)
 have a8:∀e∈evL bl (0::ns),EvOk N e:=fun e q=>by
  obtain⟨i,hi,q⟩:=Qx.1 q;have a5:=aa1 hO hi;obtain⟨b,hb⟩:∃b,bl[i]? =some b:=⟨_,Jd a5⟩
  have a0:=hu b (Ji hb);rw[y] at a0;rcases Jl.1 q with q|q
  ·obtain⟨o,ho,rfl⟩:=Nu.1 q;refine⟨(j i hi).1 o ho,hc i a5 o ho,fun h0 x c=>?_⟩;rw[zf hb] at ho;refine(a0.2.1 o ho).1 x ?_;have c:x∈(if 0<=o.res then(if(zi o.code).a=true then [o.a] else [])++(if(zi o.code).b=true then [o.b] else []) else []):=c;rw[if_pos h0] at c;rcases Jl.1 c with c|c
   ·by_cases h:(zi o.code).a=true
    ·rw[if_pos h] at c;rw[Jo.1 c];exact mem_a h
    ·rw[if_neg h] at c;cases c
   ·by_cases h:(zi o.code).b=true
    ·rw[if_pos h] at c;rw[Jo.1 c];exact mem_b h
    ·rw[if_neg h] at c;cases c
  ·obtain⟨ed,a6,q⟩:=Qx.1 q;obtain⟨⟨v,x⟩,hz,rfl⟩:=Nu.1 q;have a1:=u.st.trm i a5;unfold ro at a1;rw[Jm,Oe] at a1;have b1:=a1.1 ed a6;unfold uM at b1;simp only[Jm,decide_eq_true_eq] at b1;have hp:=(u.rng ed.block.toNat Zo).1 v (by rw[show((ed.block.toNat:Nat):Int)=ed.block by omega];exact(List.of_mem_zip hz).1);rw[y] at hp;rw[zf hb] at a6;refine⟨hp,a0.2.2 x ?_⟩;unfold mE;exact Qf _ (List.mem_flatten.2 ⟨_,Nu.2 ⟨ed,a6,rfl⟩,(List.of_mem_zip hz).2⟩)
 have b3:Sim N (ParQ bl) s0 (ff N):=by
  refine⟨a3,⟨by simp[ff],by simp[ff],fun a ha=>by rw[(List.mem_replicate.1 ha).2];exact vu⟩,fun v hv hk=>?_,fun v hv hvn _=>?_,fun v hv hq=>?_⟩
  ·have hm:=a4 v ⟨hv,hk⟩;rw[(m v hm).2]
   show y7=(List.replicate N y7).getD v.toNat ⟨0,0⟩
   rw[aeL,if_pos (l v hm).2]
  ·show(List.replicate N y7).getD v.toNat ⟨0,0⟩=y7
   rw[aeL,if_pos hvn]
  ·have h1:(ff N).knw v=false:=by
    show(List.replicate N false).getD v.toNat false=false
    rw[aeL];split<;>rfl
   rw[h1]
   cases e:s0.knw v with
   |false=>rfl
   |true=>
    exfalso;have hm:=a4 v ⟨hv,e⟩;obtain⟨i,b,hi,hb,b5⟩:=hq;obtain⟨b0,b2⟩:∃b,bl[0]? =some b:=⟨_,Jd u.pos⟩
    rw[zf b2] at hm;have q1:=(hL.par i b hb v b5).1;rw[(hL.par 0 b0 b2 v hm).1] at q1;have:=Nt q1;omega
 have g:=aeP (p:=p) (k:=1) Zo (evL bl (0::ns)) s0 (ff N) false a8 a7 b3;have a2:(o6 p bl (0::ns) 1 s0)=(evL bl (0::ns)).foldl (evS p 1) (s0,false):=agl j s0;obtain⟨s1,a9⟩:∃s,((evL bl (0::ns)).foldl (evS p 1) (s0,false)).1=s:=⟨_,rfl⟩
 rw[a9] at g
 have b4:fnT p bl=s1:=by
  unfold fnT;rw[hO.eq,y,w,en j a3,a2,a9]
  split
  ·have h2:=afq (p:=p) (k:=2) (evL bl (0::ns)) s1 g.fix;have h3:o6 p bl (0::ns) 2 s1=(s1,false):=(agl j s1).trans h2;rw[en j g.sim.oks,show(0+1+1:Nat)=2 from rfl,h3,if_neg (fun h=>by cases h)]
  ·rfl
 unfold tr afe;rw[b4,hO.eq,y];have h1:=g.sim;generalize (evL bl (0::ns)).foldl (evQ p) (ff N)=t at *;apply Oq;intro v
 by_cases hv:v<N
 ·rw[fill_get h1.oks hv]
  have ht:t.r[v]? =some (t.get (v:Int)):=by
   have hl:v<t.r.length:=by rw[h1.okt.rl];exact hv
   unfold Slv.get;rw[Ni,Jj,Jd hl];rfl
  rw[ht]
  cases e:s1.knw (v:Int) with
  |true=>rw[if_pos rfl,h1.eq _ (Int.natCast_nonneg _) e]
  |false=>rw[if_neg Zd,h1.full _ (Int.natCast_nonneg _) (by rw[Ni];exact hv) e]
 ·rw[Of (by rw[fill_len h1.oks];omega),Of (by rw[h1.okt.rl];omega)]
theorem afP (w:World):A 50 #[] w (re w y7):=by
 go_enter Tryz.func50,Tryz.ntmps50;go_wp2;refine bodyPost_ret (v:=.agg #[U 0,U 65535]) ?_ rfl ⟨rfl,by repeat' (first|exact Below.refl _ _|assumption|(refine Below.alloc ?_ (by first|(simp;done)|(simp;omega)) _)|(refine Below.setCell ?_ (by first|(simp;done)|(simp;omega)) _))⟩;rw[zM rfl];go_simp
theorem tt(w:World){x:Nat}(h:y7=⟨x,y⟩):A 50 #[] w (fun e w'=>e=.returned (.agg #[U x,U y])/\O w w'):=by
 have:=afP w;rw[h] at this;exact this
theorem xr(w:World){y:Int}{a b:Nat}(d:x%65536=(a:Int))(c:y%65536=(b:Int)):A 53 #[I x,I y] w (fun e w'=>e=.returned (.agg #[U a,U b])/\O w w'):=by
 have e1:IntKind.u16.wrap x=(a:Int):=by rw[xY];exact d
 have e2:IntKind.u16.wrap y=(b:Int):=by rw[xY];exact c
 clear d c;go_enter Tryz.func53,Tryz.ntmps53;go_wp2;refine bodyPost_ret (v:=.agg #[U a,U b]) ?_ rfl ⟨rfl,by repeat' (first|exact Below.refl _ _|assumption|(refine Below.alloc ?_ (by first|(simp;done)|(simp;omega)) _)|(refine Below.setCell ?_ (by first|(simp;done)|(simp;omega)) _))⟩;rw[zM rfl];go_simp
theorem ahx (w:World){n:Nat}(m:n<16):A 131 #[I n] w (fun e w'=>e=.returned (I ((2^n:Nat):Int))/\O w w'):=by
 obtain⟨s,hs⟩:∃s,2^n=s:=⟨_,rfl⟩
 rw[hs];go_enter Tryz.func131,Tryz.ntmps131;go_wp2
 go_loopw [3,4] (fun xv kv wx=>∃k x:Nat,k<=n/\xv=I x/\kv=I k/\Hid (2^k=x/\O w wx)) (fun _ kv _=>n-(intOf kv).toNat)
 case atStart=>exact⟨0,1,Jt _,rfl,rfl,Ja ⟨rfl,Below.refl _ _⟩⟩
 case round=>
  obtain⟨k,x,hk,rfl,rfl,c⟩:=hrel
  by_cases d:k<n
  ·have h:(k:Int)<(n:Int):=Zo;have j:x<=32768:=by rw[<-c.out.1];exact Nat.pow_le_pow_right (n:=2) Zd (show k<=15 by omega)
   have l:IntKind.i64.wrap (2*(x:Int))=((2*x:Nat):Int):=by rw[Om _ Zo];omega
   have g:2^(k+1)=2*x:=by rw[Nat.pow_succ,c.out.1,Nat.mul_comm]
   have i:=Ja g;clear g hs;generalize 2*x=y at *;go_wp2;go_roundw
   case rel=>exact⟨k+1,y,d,by go_num,by go_num,Ja ⟨i.out,c.out.2⟩⟩
   case measure=>simp[intOf];omega
  ·obtain rfl:k=n:=by omega
   obtain rfl:x=s:=by rw[<-hs,<-c.out.1]
   have h:¬(k:Int)<(k:Int):=Zo;clear hs d;go_wp2;go_ret;exact⟨rfl,c.out.2⟩
structure RgX (w X:World) (a b:Rg):Prop where
 bel:Below w.heap.size w X
 h0:X.heap[w.heap.size]? =some (.cells #[.int .u16 (a.lo:Int),.int .u16 (a.hi:Int)] 45 (0,0))
 h1:X.heap[w.heap.size+1]? =some (.cells #[.int .u16 (b.lo:Int),.int .u16 (b.hi:Int)] 45 (0,0))
 h2:X.heap[w.heap.size+1+1]? =some (.cells #[.int .u16 0,.int .u16 0] 45 (0,0))
theorem RgX.new (w:World)(a b:Rg):RgX w (((w.alloc (G #[U (a.lo:Int),U (a.hi:Int)] 45)).alloc (G #[U (b.lo:Int),U (b.hi:Int)] 45)).alloc (G #[U 0,U 0] 45)) a b:=
 ⟨((((Below.refl _ _).alloc (Je _) _).alloc Zs _).alloc Zt _),zB (zB (zI rfl)),zB (zI Zs),zI Zs⟩
theorem RgX.below{X:World}{a b:Rg}(h:RgX w X a b)(hb:O X W):RgX w W a b:=
 ⟨h.bel.trans (hb.mono h.bel.size),zH hb h.h0 (lt_of_block h.h0),zH hb h.h1 (lt_of_block h.h1),zH hb h.h2 (lt_of_block h.h2)⟩
theorem RgX.c{X:World}{a b:Rg}(h:RgX w X a b):T X w.heap.size 0 (U (a.lo:Int))/\T X w.heap.size 1 (U (a.hi:Int))/\T X (w.heap.size+1) 0 (U (b.lo:Int))/\T X (w.heap.size+1) 1 (U (b.hi:Int)):=
 ⟨zA h.h0 rfl,zA h.h0 rfl,zA h.h1 rfl,zA h.h1 rfl⟩
theorem RgX.f{X:World}{a b:Rg}(h:RgX w X a b):(T X (w.heap.size+1+1) 0 (U 0)/\T X (w.heap.size+1+1) 1 (U 0))/\(N X (w.heap.size+1+1) 0/\N X (w.heap.size+1+1) 1)/\w.heap.size+1+1<X.heap.size:=
 ⟨⟨zA h.h2 rfl,zA h.h2 rfl⟩,⟨zE h.h2,zE h.h2⟩,lt_of_block h.h2⟩
theorem aeF (w:World){c:Int}(hc:c=12∨c=13∨c=14){a b:Rg}(ha:a.ok)(hb:b.ok):A 109 #[I c,.agg #[U (a.lo:Int),U (a.hi:Int)],.agg #[U (b.lo:Int),U (b.hi:Int)]] w (re w (ek c a b)):=by
 have b2:=ha.1;have c4:=ha.2;have d:=hb.1;have b9:=hb.2;obtain⟨n,hn⟩:∃n,b.lo%16=n:=⟨_,rfl⟩
 have a7:n<16:=Zo;have b4:(b.lo:Int).tmod 16=(n:Int):=by rw[Qc Zo];omega
 obtain⟨s,hs⟩:∃s,2^n=s:=⟨_,rfl⟩
 have b6:1<=s:=by rw[<-hs];exact Nat.pow_pos Zd
 have a4:s<=32768:=by rw[<-hs];exact Nat.pow_le_pow_right (n:=2) Zd (show n<=15 by omega)
 obtain⟨q,hq⟩:∃q,yf b=q:=⟨_,rfl⟩
 have b8:((b.lo:Int)==(b.hi:Int))=q:=by rw[<-hq];unfold yf;rw[Bool.eq_iff_iff,beq_iff_eq,decide_eq_true_eq];omega
 have hP:=fun W=>ahx W a7
 rw[hs] at hP;have HP:=Ja hP;obtain⟨⟨x,y⟩,hR⟩:∃r,ek c a b=r:=⟨_,rfl⟩
 have a2:=hR;unfold ek at a2;rw[hn,hs,hq] at a2;rw[hR];have u:=Ja a2;clear hR a2 hs hn hP ha hb hq;have a0:∀k:Nat,k<=65535->k/s<=65535:=fun k hk=>Jn (Nat.div_le_self _ _) hk
 have b0:=a0 a.lo Zo;have b1:=a0 a.hi Zo;have a8:a.lo*s<=65535*32768:=Nat.mul_le_mul Zo a4;have a9:a.hi*s<=65535*32768:=Nat.mul_le_mul Zo a4;have a5:a.lo*s<=a.hi*s:=Qw _ b2;have e1:IntKind.i64.wrap ((a.lo:Int)*(s:Int))=((a.lo*s:Nat):Int):=by rw[<-Int.natCast_mul];exact Om _ Zo
 have e2:IntKind.i64.wrap ((a.hi:Int)*(s:Int))=((a.hi*s:Nat):Int):=by rw[<-Int.natCast_mul];exact Om _ Zo
 have e3:(a.lo:Int).tdiv (s:Int)=((a.lo/s:Nat):Int):=by rw[Int.tdiv_eq_ediv_of_nonneg Zo];omega
 have e4:(a.hi:Int).tdiv (s:Int)=((a.hi/s:Nat):Int):=by rw[Int.tdiv_eq_ediv_of_nonneg Zo];omega
 have HD:=Ja (show vp (a.lo*s) (a.hi*s)=⟨(a.lo*s)%65536,(a.hi*s)%65536⟩/\vp (a.lo/s) (a.hi/s)=⟨(a.lo/s)%65536,(a.hi/s)%65536⟩/\vp 0 a.hi=⟨0%65536,a.hi%65536⟩ from⟨rfl,rfl,rfl⟩);obtain⟨ml,l⟩:∃z,a.lo*s=z:=⟨_,rfl⟩
 obtain⟨mh,m⟩:∃z,a.hi*s=z:=⟨_,rfl⟩
 obtain⟨dl,o⟩:∃z,a.lo/s=z:=⟨_,rfl⟩
 obtain⟨dh,t⟩:∃z,a.hi/s=z:=⟨_,rfl⟩
 rw[l,m,o,t] at HD;rw[m,o,t,l] at u;rw[l] at e1 a8 a5;rw[m] at e2 a9 a5;rw[o] at e3 b0;rw[t] at e4 b1;have e5:IntKind.i64.wrap (dl:Int)=(dl:Int):=Om _ Zo;have e6:IntKind.i64.wrap (dh:Int)=(dh:Int):=Om _ Zo;have b5:0<(s:Int):=Zo;have b7:¬s=0:=Zo;have b3:¬(s:Int)=0:=Zo;clear l m o t a0;go_enter Tryz.func109,Tryz.ntmps109;go_upto_region 1 with fail;obtain⟨X,hX⟩:∃X,((w.alloc (G #[U (a.lo:Int),U (a.hi:Int)] 45)).alloc (G #[U (b.lo:Int),U (b.hi:Int)] 45)).alloc (G #[U 0,U 0] 45)=X:=⟨_,rfl⟩;have j:=Ja (RgX.new w a b);rw[hX] at j ⊢;clear hX;obtain⟨c0,c1,c2,c3⟩:=j.out.c;have cl:=j.out.f.2.2;go_upto_region 3 with(go_at_call 131;go_must (refine(HP.out _).mono ?_;rintro e w0 ⟨rfl,a6⟩;have H0:=Ja (j.out.below a6);clear c0 c1 c2 c3 cl a6;obtain⟨c0,c1,c2,c3⟩:=H0.out.c;have cl:=H0.out.f.2.2))
 go_upto_region 5 with fail;clear j;have j:=Ja H0.out;clear H0;rcases hc with rfl|rfl|rfl
 ·by_cases h1:mh<65536
  ·cases q
   ·have g:y7=⟨x,y⟩:=by have:=u.out;rw[if_pos rfl,if_neg (fun h=>by cases h.2)] at this;exact this
    go_wp2_with (go_at_call 50;go_must (refine(tt _ g).mono ?_;rintro e w1 ⟨rfl,d⟩;have i:=Ja (j.out.below d);obtain⟨⟨f0,f1⟩,⟨g0,g1⟩,fl⟩:=i.out.f;clear d))
    refine bodyPost_ret (v:=.agg #[U x,U y]) ?_ rfl ⟨rfl,by repeat' (first|exact i.out.bel|(refine Below.setCell ?_ (by first|(simp;done)|(simp;omega)) _))⟩;rw[zM rfl];go_simp
   ·have g:vp ml mh=⟨x,y⟩:=by have:=u.out;rw[if_pos rfl,if_pos ⟨h1,rfl⟩] at this;exact this
    rw[HD.out.1] at g
    injection g with q1 q2
    have a3:decide ((mh:Int)<65536)=true:=decide_eq_true Zo;have a1:decide (mh<65536)=true:=decide_eq_true h1;go_wp2_with (go_at_call 53;go_must (refine(xr _ (a:=x) (b:=y) Zo Zo).mono ?_;rintro e w1 ⟨rfl,d⟩;have i:=Ja (j.out.below d);obtain⟨⟨f0,f1⟩,⟨g0,g1⟩,fl⟩:=i.out.f;clear d))
    refine bodyPost_ret (v:=.agg #[U x,U y]) ?_ rfl ⟨rfl,by repeat' (first|exact i.out.bel|(refine Below.setCell ?_ (by first|(simp;done)|(simp;omega)) _))⟩;rw[zM rfl];go_simp
  ·have g:y7=⟨x,y⟩:=by have:=u.out;rw[if_pos rfl,if_neg (fun h=>h1 h.1)] at this;exact this
   have a3:decide ((mh:Int)<65536)=false:=decide_eq_false Zo;have a1:decide (mh<65536)=false:=decide_eq_false h1;cases q<;>(go_wp2_with (go_at_call 50;go_must (refine(tt _ g).mono ?_;rintro e w1 ⟨rfl,d⟩;have i:=Ja (j.out.below d);obtain⟨⟨f0,f1⟩,⟨g0,g1⟩,fl⟩:=i.out.f;clear d));refine bodyPost_ret (v:=.agg #[U x,U y]) ?_ rfl ⟨rfl,by repeat' (first|exact i.out.bel|(refine Below.setCell ?_ (by first|(simp;done)|(simp;omega)) _))⟩;rw[zM rfl];go_simp)
 ·cases q
  ·have g:vp 0 a.hi=⟨x,y⟩:=by have:=u.out;rw[if_neg Zd,if_neg Zo,if_neg Zd] at this;exact this
   rw[HD.out.2.2] at g
   injection g with q1 q2
   go_wp2_with (go_at_call 53;go_must (refine(xr _ (a:=x) (b:=y) Zo Zo).mono ?_;rintro e w1 ⟨rfl,d⟩;have i:=Ja (j.out.below d);obtain⟨⟨f0,f1⟩,⟨g0,g1⟩,fl⟩:=i.out.f;clear d))
   refine bodyPost_ret (v:=.agg #[U x,U y]) ?_ rfl ⟨rfl,by repeat' (first|exact i.out.bel|(refine Below.setCell ?_ (by first|(simp;done)|(simp;omega)) _))⟩;rw[zM rfl];go_simp
  ·have g:vp dl dh=⟨x,y⟩:=by have:=u.out;rw[if_neg Zd,if_neg Zo,if_pos rfl] at this;exact this
   rw[HD.out.2.1] at g
   injection g with q1 q2
   go_upto_region 12 with fail;(go_region_held3 (fun w'=>True) (trivial) ((go_at_call 53;refine(xr _ (a:=x) (b:=y) Zo Zo).mono ?_;rintro e w1 ⟨rfl,d⟩;have i:=Ja (j.out.below (Below.trans (show O w0 _ from by repeat' (first|with_reducible exact Below.refl _ _|with_reducible refine Below.drew ?_)) (d.mono (Je _))));clear d;obtain⟨⟨f0,f1⟩,⟨g0,g1⟩,fl⟩:=i.out.f)));all_goals (go_wp2_with fail);all_goals (refine bodyPost_ret (v:=.agg #[U x,U y]) ?_ rfl ⟨rfl,by repeat' (first|exact i.out.bel|(refine Below.drew ?_)|(refine Below.setCell ?_ (by first|(simp;done)|(simp;omega)) _))⟩;rw[zM rfl];go_simp)
 ·by_cases h1:32768<=a.hi
  ·have g:y7=⟨x,y⟩:=by have:=u.out;rw[if_neg Zd,if_pos ⟨rfl,h1⟩] at this;exact this
   have a3:decide ((32768:Int)<=(a.hi:Int))=true:=decide_eq_true Zo;have a1:decide (32768<=a.hi)=true:=decide_eq_true h1;go_wp2_with (go_at_call 50;go_must (refine(tt _ g).mono ?_;rintro e w1 ⟨rfl,d⟩;have i:=Ja (j.out.below d);obtain⟨⟨f0,f1⟩,⟨g0,g1⟩,fl⟩:=i.out.f;clear d))
   refine bodyPost_ret (v:=.agg #[U x,U y]) ?_ rfl ⟨rfl,by repeat' (first|exact i.out.bel|(refine Below.setCell ?_ (by first|(simp;done)|(simp;omega)) _))⟩;rw[zM rfl];go_simp
  ·have a3:decide ((32768:Int)<=(a.hi:Int))=false:=decide_eq_false Zo;have a1:decide (32768<=a.hi)=false:=decide_eq_false h1;cases q
   ·have g:vp 0 a.hi=⟨x,y⟩:=by have:=u.out;rw[if_neg Zd,if_neg Zo,if_neg Zd] at this;exact this
    rw[HD.out.2.2] at g
    injection g with q1 q2
    go_wp2_with (go_at_call 53;go_must (refine(xr _ (a:=x) (b:=y) Zo Zo).mono ?_;rintro e w1 ⟨rfl,d⟩;have i:=Ja (j.out.below d);obtain⟨⟨f0,f1⟩,⟨g0,g1⟩,fl⟩:=i.out.f;clear d))
    refine bodyPost_ret (v:=.agg #[U x,U y]) ?_ rfl ⟨rfl,by repeat' (first|exact i.out.bel|(refine Below.setCell ?_ (by first|(simp;done)|(simp;omega)) _))⟩;rw[zM rfl];go_simp
   ·have g:vp dl dh=⟨x,y⟩:=by have:=u.out;rw[if_neg Zd,if_neg Zo,if_pos rfl] at this;exact this
    rw[HD.out.2.1] at g
    injection g with q1 q2
    go_upto_region 12 with fail;(go_region_held3 (fun w'=>True) (trivial) ((go_at_call 53;refine(xr _ (a:=x) (b:=y) Zo Zo).mono ?_;rintro e w1 ⟨rfl,d⟩;have i:=Ja (j.out.below (Below.trans (show O w0 _ from by repeat' (first|with_reducible exact Below.refl _ _|with_reducible refine Below.drew ?_)) (d.mono (Je _))));clear d;obtain⟨⟨f0,f1⟩,⟨g0,g1⟩,fl⟩:=i.out.f)));all_goals (go_wp2_with fail);all_goals (refine bodyPost_ret (v:=.agg #[U x,U y]) ?_ rfl ⟨rfl,by repeat' (first|exact i.out.bel|(refine Below.drew ?_)|(refine Below.setCell ?_ (by first|(simp;done)|(simp;omega)) _))⟩;rw[zM rfl];go_simp)
theorem wrapQ_eq{lo hi x:Nat}(h:aeI lo hi=⟨x,y⟩):if(lo<65536/\hi<65536)∨(65536<=lo/\65536<=hi) then lo%65536=x/\hi%65536=y else y7=⟨x,y⟩:=by
 unfold aeI at h
 split
 ·rename_i c
  rw[if_pos c] at h
  injection h with h1 h2
  exact⟨by omega,by omega⟩
 ·rename_i c
  rw[if_neg c] at h;exact h
theorem aeK(w:World){c:Int}(hc:c=5∨c=6∨c=7∨c=8){a b:Rg}(ha:a.ok)(hb:b.ok){x:Nat}(l:ag0 c a b=⟨x,y⟩):
 A 108 #[I c,.agg #[U (a.lo:Int),U (a.hi:Int)],.agg #[U (b.lo:Int),U (b.hi:Int)]] w (fun e w'=>e=.returned (.agg #[U x,U y])/\O w w'):=by
 have a8:=ha.1;have b3:=ha.2;have d:=hb.1;have b2:=hb.2
 by_cases h8:c=8
 ·subst h8;clear hc
  by_cases h0:b.hi=0
  ·have j:y7=⟨x,y⟩:=by rw[<-l];show y7=(if b.hi=0 then y7 else _);rw[if_pos h0]
   clear l ha hb;have HQ:Hid (((b.hi:Int)==0)=true):=Ja (by rw[beq_iff_eq];omega);clear h0;go_enter Tryz.func108,Tryz.ntmps108;go_upto_region 1 with fail;obtain⟨X,k⟩:∃X,((w.alloc (G #[U (a.lo:Int),U (a.hi:Int)] 45)).alloc (G #[U (b.lo:Int),U (b.hi:Int)] 45)).alloc (G #[U 0,U 0] 45)=X:=⟨_,rfl⟩;have g:=Ja (RgX.new w a b);rw[k] at g ⊢;clear k;obtain⟨c0,c1,c2,c3⟩:=g.out.c;have cl:=g.out.f.2.2;have hq:=HQ.out;go_wp2_with (go_at_call 50;go_must (refine(tt _ j).mono ?_;rintro e w1 ⟨rfl,d⟩;have i:=Ja (g.out.below d);obtain⟨⟨f0,f1⟩,⟨g0,g1⟩,fl⟩:=i.out.f;clear d))
   refine bodyPost_ret (v:=.agg #[U x,U y]) ?_ rfl ⟨rfl,by repeat' (first|exact i.out.bel|(refine Below.setCell ?_ (by first|(simp;done)|(simp;omega)) _))⟩;rw[zM rfl];go_simp
  ·have hq:((b.hi:Int)==0)=false:=Ze;obtain⟨m,hm⟩:∃m,max b.lo 1=m:=⟨_,rfl⟩
   have j:vp (a.lo/b.hi) (a.hi/m)=⟨x,y⟩:=by rw[<-l,<-hm];show _=(if b.hi=0 then y7 else _);rw[if_neg h0]
   injection j with q1 q2
   have b6:∀(ts:Array TypeId) (t:TypeId) (W:World),(Builtin.max_ ts t #[I (b.lo:Int),I 1]).run Tryz.prog W=.ok (I m) W:=fun ts t W=>by
    rw[run_max_int2,show(if(1:Int)>(b.lo:Int) then(1:Int) else(b.lo:Int))=(m:Int) by rw[<-hm];split<;>omega]
   have b7:1<=m:=Zo;have e3:(a.lo:Int).tdiv (b.hi:Int)=((a.lo/b.hi:Nat):Int):=by rw[Int.tdiv_eq_ediv_of_nonneg Zo];omega
   have e4:(a.hi:Int).tdiv (m:Int)=((a.hi/m:Nat):Int):=by rw[Int.tdiv_eq_ediv_of_nonneg Zo];omega
   have l3:a.lo/b.hi<=65535:=Jn (Nat.div_le_self _ _) Zo;have l4:a.hi/m<=65535:=Jn (Nat.div_le_self _ _) Zo;generalize a.lo/b.hi=dl at *;generalize a.hi/m=dh at *;have z1:¬b.hi=0:=h0;have z2:¬m=0:=Zo;have z3:¬(b.hi:Int)=0:=Zo;have z4:¬(m:Int)=0:=Zo;have z5:0<(b.hi:Int):=Zo;have z6:0<(m:Int):=Zo;clear l ha hb hm h0;go_enter Tryz.func108,Tryz.ntmps108;go_upto_region 1 with fail;obtain⟨X,k⟩:∃X,((w.alloc (G #[U (a.lo:Int),U (a.hi:Int)] 45)).alloc (G #[U (b.lo:Int),U (b.hi:Int)] 45)).alloc (G #[U 0,U 0] 45)=X:=⟨_,rfl⟩;have g:=Ja (RgX.new w a b);rw[k] at g ⊢;clear k;obtain⟨c0,c1,c2,c3⟩:=g.out.c;have cl:=g.out.f.2.2;go_upto_region 15 with fail;clear hq;have e5:IntKind.i64.wrap (dl:Int)=(dl:Int):=Om _ Zo;have e6:IntKind.i64.wrap (dh:Int)=(dh:Int):=Om _ Zo;have HC:=Ja (show ∀W:World,O X W->(T W w.heap.size 0 (U (a.lo:Int))/\T W w.heap.size 1 (U (a.hi:Int))/\T W (w.heap.size+1) 0 (U (b.lo:Int))/\T W (w.heap.size+1) 1 (U (b.hi:Int))) from fun W hb=>(g.out.below hb).c);refine zt 15 Zk Zk ?_;simp only[Qo,Uc,Qp,Ui]
   repeat (go_big_quiet_step (fail))
   refine wpQuiet_nil ?_;go_wp2_with (go_at_call 53;go_must (refine(xr _ (a:=x) (b:=y) Zo Zo).mono ?_;rintro e w1 ⟨rfl,d⟩;have i:=Ja (g.out.below (Below.trans (Below.refl X.heap.size X).drew (d.mono (Je _))));clear d;obtain⟨⟨f0,f1⟩,⟨g0,g1⟩,fl⟩:=i.out.f))
   all_goals go_wp2_with fail
   all_goals (refine bodyPost_ret (v:=.agg #[U x,U y]) ?_ rfl ⟨rfl,by repeat' (first|exact i.out.bel|(refine Below.drew ?_)|(refine Below.setCell ?_ (by first|(simp;done)|(simp;omega)) _))⟩;rw[zM rfl];go_simp)
 ·have b0:a.hi*b.hi<=65535*65535:=Nat.mul_le_mul Zo Zo;have b1:a.lo*b.lo<=a.hi*b.hi:=Nat.mul_le_mul a8 d;have e1:IntKind.i64.wrap ((a.lo:Int)*(b.lo:Int))=((a.lo*b.lo:Nat):Int):=by rw[<-Int.natCast_mul];exact Om _ Zo
  have e2:IntKind.i64.wrap ((a.hi:Int)*(b.hi:Int))=((a.hi*b.hi:Nat):Int):=by rw[<-Int.natCast_mul];exact Om _ Zo
  by_cases q:c=7/\65536<=a.hi*b.hi
  ·obtain⟨rfl,q⟩:=q;have j:y7=⟨x,y⟩:=by rw[<-l];show y7=(if 65536<=a.hi*b.hi then y7 else _);rw[if_pos q]
   generalize a.hi*b.hi=mh at *;generalize a.lo*b.lo=ml at *;have d1:decide ((65536:Int)<=(mh:Int))=true:=decide_eq_true Zo;have d2:decide (65536<=mh)=true:=decide_eq_true q;clear l hc h8 ha hb;go_enter Tryz.func108,Tryz.ntmps108;go_upto_region 1 with fail;obtain⟨X,k⟩:∃X,((w.alloc (G #[U (a.lo:Int),U (a.hi:Int)] 45)).alloc (G #[U (b.lo:Int),U (b.hi:Int)] 45)).alloc (G #[U 0,U 0] 45)=X:=⟨_,rfl⟩;have g:=Ja (RgX.new w a b);rw[k] at g ⊢;clear k;obtain⟨c0,c1,c2,c3⟩:=g.out.c;have cl:=g.out.f.2.2;go_wp2_with (go_at_call 50;go_must (refine(tt _ j).mono ?_;rintro e w1 ⟨rfl,d⟩;have i:=Ja (g.out.below d);obtain⟨⟨f0,f1⟩,⟨g0,g1⟩,fl⟩:=i.out.f;clear d))
   refine bodyPost_ret (v:=.agg #[U x,U y]) ?_ rfl ⟨rfl,by repeat' (first|exact i.out.bel|(refine Below.setCell ?_ (by first|(simp;done)|(simp;omega)) _))⟩;rw[zM rfl];go_simp
  ·obtain⟨lo,hi,a3,a7,hW⟩:∃lo hi:Nat,((c=5->lo=a.lo+b.lo/\hi=a.hi+b.hi)/\(c=6->lo=a.lo+65536-b.hi/\hi=a.hi+65536-b.lo)/\(c=7->lo=a.lo*b.lo/\hi=a.hi*b.hi))/\(lo<=131071/\hi<=131071/\(c=7->hi<65536))/\aeI lo hi=⟨x,y⟩:=by
    rcases hc with rfl|rfl|rfl|rfl
    ·exact⟨a.lo+b.lo,a.hi+b.hi,⟨fun _=>⟨rfl,rfl⟩,(fun h=>by cases h),(fun h=>by cases h)⟩,⟨by omega,by omega,(fun h=>by cases h)⟩,l⟩
    ·exact⟨a.lo+65536-b.hi,a.hi+65536-b.lo,⟨(fun h=>by cases h),fun _=>⟨rfl,rfl⟩,(fun h=>by cases h)⟩,⟨by omega,by omega,(fun h=>by cases h)⟩,l⟩
    ·have b4:¬65536<=a.hi*b.hi:=fun h=>q ⟨rfl,h⟩
     exact⟨a.lo*b.lo,a.hi*b.hi,⟨(fun h=>by cases h),(fun h=>by cases h),fun _=>⟨rfl,rfl⟩⟩,⟨by omega,by omega,fun _=>by omega⟩,by rw[<-l];show _=(if 65536<=a.hi*b.hi then y7 else _);rw[if_neg b4]⟩
    ·exact absurd rfl h8
   have HL:=Ja a3;have HW:=Ja (wrapQ_eq hW);clear hW l a3;go_enter Tryz.func108,Tryz.ntmps108;go_upto_region 1 with fail;obtain⟨X,k⟩:∃X,((w.alloc (G #[U (a.lo:Int),U (a.hi:Int)] 45)).alloc (G #[U (b.lo:Int),U (b.hi:Int)] 45)).alloc (G #[U 0,U 0] 45)=X:=⟨_,rfl⟩;have g:=Ja (RgX.new w a b);rw[k] at g ⊢;clear k;obtain⟨c0,c1,c2,c3⟩:=g.out.c;have cl:=g.out.f.2.2;have HA:=Ja (Jb a8 (Jb b3 (Jb d b2)));go_upto_region 2 with fail;have b5:IntKind.i64.wrap ((a.lo:Int)+(b.lo:Int))=(a.lo:Int)+(b.lo:Int):=Om _ Zo
   go_cut [8] (fun hv wx=>hv=I ((a.hi:Int)+(b.hi:Int))/\wx=X)
   case first=>
    go_wp2;go_meet;exact⟨rfl,rfl⟩
   case rest=>
   obtain⟨rfl,a0⟩:=hcut;have u:=a0.symm;subst u;refine ‹∀(a:Act) (w:World),Code.wp _ _ _ a w->_› _ _ ?_;refine wp_seq_k fun K1 hK1=>?_
   go_cut [7,8] (fun lv hv wx=>lv=I lo/\hv=I hi/\wx=X)
   case first=>
    obtain⟨a6,a5,a4⟩:=HL.out;rcases hc with rfl|rfl|rfl|rfl
    ·obtain⟨rfl,rfl⟩:=a6 rfl;go_wp2;go_meet;exact⟨by first|go_num|(congr 1;omega),by first|go_num|(congr 1;omega),rfl⟩
    ·obtain⟨hl,hh⟩:=a5 rfl;go_wp2;go_meet;exact⟨by congr 1;omega,by congr 1;omega,rfl⟩
    ·obtain⟨q1,q2⟩:=a4 rfl;rw[<-q1] at e1;rw[<-q2] at e2;have q3:=a7.2.2 rfl;have d1:decide ((65536:Int)<=(hi:Int))=false:=decide_eq_false Zo;have d2:decide (65536<=hi)=false:=decide_eq_false Zo;clear q1 q2 a6 a5 a4 b0 b1 q a7;go_wp2;go_meet;exact⟨rfl,rfl,rfl⟩
    ·exact absurd rfl h8
   case rest=>
    obtain⟨rfl,rfl,a0⟩:=hcut;have u:=a0.symm;subst u;have hw:=HW.out
    by_cases o:(lo<65536/\hi<65536)∨(65536<=lo/\65536<=hi)
    ·rw[if_pos o] at hw;obtain⟨q1,q2⟩:=hw;have r1:(lo:Int).tmod 65536=(x:Int):=by rw[Qc Zo];omega
     have r2:(hi:Int).tmod 65536=(y:Int):=by rw[Qc Zo];omega
     by_cases l1:lo<65536
     ·have d1:decide ((lo:Int)<65536)=true:=decide_eq_true Zo;have a2:decide (lo<65536)=true:=decide_eq_true l1;have d2:decide ((hi:Int)<65536)=true:=decide_eq_true Zo;have a1:decide (hi<65536)=true:=decide_eq_true Zo;clear o;go_wp2_with (go_at_call 53;go_must (refine(xr _ (a:=x) (b:=y) Zo Zo).mono ?_;rintro e w1 ⟨rfl,d⟩;have i:=Ja (g.out.below d);obtain⟨⟨f0,f1⟩,⟨g0,g1⟩,fl⟩:=i.out.f;clear d))
      refine bodyPost_ret (v:=.agg #[U x,U y]) ?_ rfl ⟨rfl,by repeat' (first|exact i.out.bel|(refine Below.setCell ?_ (by first|(simp;done)|(simp;omega)) _))⟩;rw[zM rfl];go_simp
     ·have d1:decide ((lo:Int)<65536)=false:=decide_eq_false Zo;have a2:decide (lo<65536)=false:=decide_eq_false l1;have d2:decide ((65536:Int)<=(lo:Int))=true:=decide_eq_true Zo;have a1:decide (65536<=lo)=true:=decide_eq_true Zo;have d3:decide ((65536:Int)<=(hi:Int))=true:=decide_eq_true Zo;have a9:decide (65536<=hi)=true:=decide_eq_true Zo;clear o;go_wp2_with (go_at_call 53;go_must (refine(xr _ (a:=x) (b:=y) Zo Zo).mono ?_;rintro e w1 ⟨rfl,d⟩;have i:=Ja (g.out.below d);obtain⟨⟨f0,f1⟩,⟨g0,g1⟩,fl⟩:=i.out.f;clear d))
      refine bodyPost_ret (v:=.agg #[U x,U y]) ?_ rfl ⟨rfl,by repeat' (first|exact i.out.bel|(refine Below.setCell ?_ (by first|(simp;done)|(simp;omega)) _))⟩;rw[zM rfl];go_simp
    ·rw[if_neg o] at hw;have j:=hw;clear hw
     by_cases l1:lo<65536
     ·have d1:decide ((lo:Int)<65536)=true:=decide_eq_true Zo;have a2:decide (lo<65536)=true:=decide_eq_true l1;have d2:decide ((hi:Int)<65536)=false:=decide_eq_false Zo;have a1:decide (hi<65536)=false:=decide_eq_false Zo;have d3:decide ((65536:Int)<=(lo:Int))=false:=decide_eq_false Zo;have a9:decide (65536<=lo)=false:=decide_eq_false Zo;clear o;go_wp2_with (go_at_call 50;go_must (refine(tt _ j).mono ?_;rintro e w1 ⟨rfl,d⟩;have i:=Ja (g.out.below d);obtain⟨⟨f0,f1⟩,⟨g0,g1⟩,fl⟩:=i.out.f;clear d))
      refine bodyPost_ret (v:=.agg #[U x,U y]) ?_ rfl ⟨rfl,by repeat' (first|exact i.out.bel|(refine Below.setCell ?_ (by first|(simp;done)|(simp;omega)) _))⟩;rw[zM rfl];go_simp
     ·have d1:decide ((lo:Int)<65536)=false:=decide_eq_false Zo;have a2:decide (lo<65536)=false:=decide_eq_false l1;have d2:decide ((65536:Int)<=(lo:Int))=true:=decide_eq_true Zo;have a1:decide (65536<=lo)=true:=decide_eq_true Zo;have d3:decide ((65536:Int)<=(hi:Int))=false:=decide_eq_false Zo;have a9:decide (65536<=hi)=false:=decide_eq_false Zo;clear o;go_wp2_with (go_at_call 50;go_must (refine(tt _ j).mono ?_;rintro e w1 ⟨rfl,d⟩;have i:=Ja (g.out.below d);obtain⟨⟨f0,f1⟩,⟨g0,g1⟩,fl⟩:=i.out.f;clear d))
      refine bodyPost_ret (v:=.agg #[U x,U y]) ?_ rfl ⟨rfl,by repeat' (first|exact i.out.bel|(refine Below.setCell ?_ (by first|(simp;done)|(simp;omega)) _))⟩;rw[zM rfl];go_simp
theorem aeX:vC (afW 19)=0:=by decide+kernel
theorem af4:vC (afW 18)=0:=by decide+kernel
theorem exm_r19:tr (afW 19) (ahp 19)=[⟨0,65535⟩,⟨15,15⟩,⟨0,15⟩,⟨16384,16384⟩,⟨16384,16399⟩,⟨0,255⟩]:=by kernel_rfl
theorem exm_o19:ag7 (afW 19).data (tr (afW 19) (ahp 19)) (ahp 19)=[0]:=by kernel_rfl
theorem exm_o18:ag7 (afW 18).data (tr (afW 18) (ahp 18)) (ahp 18)=[-1]:=by kernel_rfl
theorem afM (a:Int):∀f∈(afW a).funcs,vZ f:=by
 intro f hf;simp only[afW,Jq,List.not_mem_nil,or_false] at hf;rcases hf with rfl|rfl
 ·exact⟨by decide,fun b hb=>by simp only[mainL,Jo] at hb;subst hb;exact⟨by decide,by decide,by decide⟩⟩
 ·exact⟨by show(1:Nat)<=_;omega,fun b hb=>by simp only[ahp,Jo] at hb;subst hb;exact⟨by show(1:Nat)<=_;omega,by show(5:Nat)<=_;omega,by show(0:Nat)<=_;omega⟩⟩
theorem own_one1{c:Nat}{v:Value}{z:Int}(h:w.ownsRow c 3 1 v 1 [I z]):∃g cap cur,v=Y g 1 cap/\1<=cap/\L w g cur 3/\cur[0]? =some (I z):=by
 rcases h.2 with⟨_,e⟩|⟨g,cap,cur,rfl,hg,i,h1,h2,h3,j⟩
 ·omega
 ·refine⟨g,cap,cur,rfl,h1,i,?_⟩;have d:(cur.toList.take (1*1))[0]? =some (I z):=by rw[j];rfl
  rw[List.getElem?_take_of_lt Zo] at d
  simpa using d
theorem agX(hp:ProgIn w w.heap.size ⟨.slice f1 2 f2,.slice a1 2 a2,.slice d1 1 d2,.slice b1 0 b2⟩ (afW 19)):
 A 15 #[.agg #[.slice f1 2 f2,.slice a1 2 a2,I 0,I (-1),.slice d1 1 d2,.slice b1 0 b2],I 1] w (fun e w'=>∃b,e=.returned (Y b 6 6)/\L w' b #[U 0,U 65535,U 15,U 15,U 0,U 15,U 16384,U 16384,U 16384,U 16399,U 0,U 255] 45/\O w w'):=by
 refine(aeY (f:=1) (bl:=ahp 19) hp (Je _) (afM 19) aeX rfl (fun h=>by cases h)).mono ?_;rintro e w' ⟨b,rfl,h1,h2,h3⟩;rw[exm_r19] at h1 ⊢;exact⟨b,rfl,h1,h3⟩
theorem ae5{a z:Int}(hv:vC (afW a)=0)(ho:ag7 (afW a).data (tr (afW a) (ahp a)) (ahp a)=[z])(hp:ProgIn w w.heap.size ⟨.slice f1 2 f2,.slice a1 2 a2,.slice d1 1 d2,.slice b1 0 b2⟩ (afW a)):
 A 16 #[.agg #[.slice f1 2 f2,.slice a1 2 a2,I 0,I (-1),.slice d1 1 d2,.slice b1 0 b2],I 1] w (fun e w'=>∃g cap,e=.returned (Y g 1 cap)/\T w' g 0 (I z)/\g<w'.heap.size/\1<=cap/\O w w'):=by
 refine(agN (f:=1) (bl:=ahp a) hp (Je _) (afM a) hv rfl).mono ?_;rintro e w' ⟨v,rfl,h1,h2⟩;rw[ho] at h1;obtain⟨g,cap,cur,rfl,h3,c,d⟩:=own_one1 h1;exact⟨g,cap,rfl,zA c d,lt_of_block c,h3,h2⟩
theorem j3 (w:World)(a:Int)(c:I64 a):A 30 #[I a] w (fun e w'=>∃f1 f2 a1 a2 d1 d2 b1 b2,e=.returned (.agg #[.slice f1 2 f2,.slice a1 2 a2,I 0,I (-1),.slice d1 1 d2,.slice b1 0 b2])/\ProgIn w' w'.heap.size ⟨.slice f1 2 f2,.slice a1 2 a2,.slice d1 1 d2,.slice b1 0 b2⟩ (afW a)/\O w w'):=
 (agf w a c).mono fun e w' h=>h.open
theorem sanity10 (w:World):A 11 #[] w fun e w'=>e=.returned (.bool true)/\O w w':=by
 go_enter Tryz.func11,Tryz.ntmps11
 go_upto_region 2 with(first
  |(go_at_call 30;go_must (refine(j3 _ 19 ⟨by decide,by decide⟩).mono ?_;rintro e w1 ⟨f1,f2,a1,a2,d1,d2,b1,b2,rfl,y,o⟩))
  |(go_at_call 15;go_must (refine(agX y).mono ?_;rintro e w2 ⟨rb,rfl,t,a4⟩)))
 have q:=Ja (Jb t (o.trans (a4.mono o.size)));clear t o a4 y
 go_upto_region 3 with(first
  |(go_at_call 30;go_must (refine(j3 _ 19 ⟨by decide,by decide⟩).mono ?_;rintro e w3 ⟨f1,f2,a1,a2,d1,d2,b1,b2,rfl,x,m⟩))
  |(go_at_call 16;go_must (refine(ae5 aeX exm_o19 x).mono ?_;rintro e w4 ⟨g4,c4,rfl,k,j,a8,a3⟩)))
 have g:=m.trans (a3.mono m.size);have h:=Ja (Jb (zH g q.out.1 (lt_of_block q.out.1)) (Jb (q.out.2.trans (g.mono q.out.2.size)) (Jb k j)));clear m a3 x g k j
 go_upto_region 4 with(first
  |(go_at_call 30;go_must (refine(j3 _ 18 ⟨by decide,by decide⟩).mono ?_;rintro e w5 ⟨f1,f2,a1,a2,d1,d2,b1,b2,rfl,u,l⟩))
  |(go_at_call 16;go_must (refine(ae5 af4 exm_o18 u).mono ?_;rintro e w6 ⟨g6,c6,rfl,a9,a6,a7,a0⟩)))
 have d:=l.trans (a0.mono l.size);have c:=zH d h.out.1 (lt_of_block h.out.1);have H6:=Ja (h.out.2.1.trans (d.mono h.out.2.1.size));have k:=(d.cell (p:=⟨g4,0,none⟩) h.out.2.2.2).trans h.out.2.2.1;have j:=Jy h.out.2.2.2 d.size;have x0:=zA (i:=2*2) c rfl;have x1:=zA (i:=2*2+1) c rfl;have x2:=zA (i:=4*2) c rfl;have x3:=zA (i:=4*2+1) c rfl;have x4:=zA (i:=4) c rfl;have x5:=zA (i:=5) c rfl;have x6:=zA (i:=8) c rfl;have x7:=zA (i:=9) c rfl;have a5:=lt_of_block c;clear d l a0 u c;go_wp2;go_ret;exact⟨rfl,H6.out⟩
end Go.Proofs.YtoahcpkibpomcaaGreat
