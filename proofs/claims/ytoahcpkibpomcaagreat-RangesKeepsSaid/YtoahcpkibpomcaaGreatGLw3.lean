/- Part of a proof. -/
import Derived.Test.YtoahcpkibpomcaaGreatGZw7
set_option linter.all false
set_option maxHeartbeats 16000000
set_option maxRecDepth 100000
namespace Go.Proofs.YtoahcpkibpomcaaGreat
open Go.RowKit
variable {W w w' w0 w2 w3 wx:World}{X X2:Nat->Prop}{M:MS}{vv:Value}{l:List BM}{c d j k tg:Nat}{o:Obj}{xs:List Int}
def MKC.withZ (K:MKC)(Z:Nat->Prop):MKC:= {K with Z:=Z }
variable {K:MKC}
theorem MkIn.off{Z2:Nat->Prop}{fv:Value}(h:MkIn w K X M fv vv l)(g:w.heap.size<=W.heap.size)(ho:W.os=w.os/\W.tape=w.tape/\W.output=w.output)
 (hk:∀k,k<w.heap.size->(K.Z k->k<K.B)->W.heap[k]? =w.heap[k]?) (j:∀k,Z2 k->K.Z k∨w.heap.size<=k) (i:∀k,Z2 k->k<W.heap.size):MkIn W (K.withZ Z2) X M fv vv l:=by
 have c:Stp (K.av X) w ((K.withZ Z2).av X) W:=⟨ho.1,ho.2.1,ho.2.2,g,fun k e=>e.elim (fun e=> .inl (.inl e)) (fun e=>(j k e).elim (fun e=> .inl (.inr e)) .inr),fun k hk' d=>hk k hk' (fun e=>absurd (.inr e) d)⟩
 have d:∀k,X k->k<w.heap.size/\W.heap[k]? =w.heap[k]?:=fun k e=>⟨h.xl k e,hk k (h.xl k e) (fun e2=>absurd e2 (h.env.zx k e))⟩
 have hb:Below K.B w W:=⟨ho.1,ho.2.1,ho.2.2,g,fun k e=>hk k (Jy e h.size) (fun _=>e)⟩
 obtain⟨b,e1,e2,e3⟩:=h.env.data;refine⟨(d _ h.xm).2.trans h.blk,yD h.own (fun k e=>(d k (h.xf k e)).2),h.fl,fun q hq=>?_,h.apart,yD h.vown (fun k e=>(d k (h.xv k e)).2),h.v64,h.xm,h.xf,h.xv,h.xB,fun k e=>Jy (h.xl k e) g,?_,h.bnd,h.lft⟩
 ·have q1:=h.bok q hq;exact⟨q1.k64,q1.par.step ro c,q1.ops,yD q1.own (fun k e=>(d k (q1.inX k e)).2),fun o ho=>⟨(q1.arg o ho).1,(q1.arg o ho).2.step ro c⟩,q1.tos.step yq c,q1.inX⟩
 ·exact⟨h.env.s.below zO hb,h.env.fpv,c.blk h.env.prog h.env.ppX,h.env.args.step ro c,⟨b,e1,c.not (lt_of_block e3) e2,c.blk e3 e2⟩,c.not (lt_of_block h.env.prog) h.env.ppX,h.env.h64,h.env.len,h.env.nf,h.env.alt,
   fun k e1 e2=>(j k e2).elim (h.env.zx k e1) (fun e3=>by have:=h.xl k e1;omega),i⟩
theorem oD(h:wW w K X M):I64 (zJ K.E M).1:=by
 obtain⟨fv,vv,l,h⟩:=h;have hb:=h.bnd
 have hv:∀i,I64 (M.vals.getD i 0):=fun i=>by
  rw[Jj]
  cases c:M.vals[i]? with
  |none=>exact yF _ rfl
  |some x=>exact h.v64 x (Ji c)
 unfold zJ
 split
 ·unfold MS.sz at hb;exact⟨by show -9223372036854775808<=(M.next:Int);omega,by show(M.next:Int)<=9223372036854775807;omega⟩
 split
 ·exact hv _
 ·exact hv _
structure ArgMid (w:World) (K:MKC) (X:Nat->Prop) (M:MS) (av:Value) (j:Nat) (wx:World):Prop where
 own:wx.ownsRow w.heap.size 3 1 av j ((yI K.E j M).1.map zN)
 i64:∀x∈(yI K.E j M).1,I64 x
 made:∃Xj,wW wx (K.withZ fun k=>K.Z k∨av.ownBlock=some k) Xj (yI K.E j M).2/\Stp X w Xj wx
theorem qw (E:ME):∀(n:Nat) (M:MS),(yI E n M).1.length=n
 |0,_=>rfl
 |n+1,M=>by show((yI E n M).1++ [_]).length=_;rw[Jk,qw E n M];rfl
theorem ArgMid.start(h:wW w K X M):ArgMid w K X M (L) 0 w:=by
 refine⟨Jv _ _ _ _,(fun x hx=>by cases hx),X,?_,Stp.refl _ _⟩;obtain⟨fv,vv,l,h⟩:=h;exact⟨fv,vv,l,h.off (Je _) ⟨rfl,rfl,rfl⟩ (fun _ _ _=>rfl) (fun k e=>e.elim .inl (fun e=>by simp[Value.ownBlock] at e)) (fun k e=>e.elim (h.env.zl k) (fun e=>by simp[Value.ownBlock] at e))⟩
theorem ArgMid.next{av av':Value}(h:ArgMid w K X M av j wx)(h2:wW w2 (K.withZ fun k=>K.Z k∨av.ownBlock=some k) X2 (yI K.E (j+1) M).2)(d:Stp X w X2 w2)(m:w2.ownsRow w.heap.size 3 1 av j ((yI K.E j M).1.map zN))(u:I64 (zJ K.E (yI K.E j M).2).1)
 (y:∀k,X k->k<w.heap.size) (hB:K.B<=w.heap.size) (hg:(w2.alloc o).grownBy w3 av.ownBlock) (i:w3.ownsRow w.heap.size 3 1 av' (j+1) ((yI K.E j M).1.map zN++ [zN (zJ K.E (yI K.E j M).2).1])) (t:∀k,av'.ownBlock=some k->av.ownBlock=some k∨w2.heap.size<=k):ArgMid w K X M av' (j+1) w3:=by
 obtain⟨fv,vv,l,h2⟩:=h2;have g:w2.heap.size<=w3.heap.size:=by have:=hg.size;simp at this;omega
 have hk:∀k,k<w2.heap.size->av.ownBlock≠some k->w3.heap[k]? =w2.heap[k]?:=fun k hk hne=>(hg.block k Zt (fun e=>hne e.symm)).trans (Below.heap_alloc w2 o k hk)
 refine⟨?_,?_,X2,⟨fv,vv,l,h2.off (K:=K.withZ fun k=>K.Z k∨av.ownBlock=some k) g ⟨hg.os,hg.tape,hg.output⟩ (fun k hk' hz=>hk k hk' (fun e=>by have h1:k<K.B:=hz (.inr e);have:=(m.lt k e).1;omega)) (fun k e=>e.elim (fun e=> .inl (.inl e)) (fun e=>(t k e).elim (fun e=> .inl (.inr e)) .inr)) (fun k e=>e.elim (fun e=>Jy (h2.env.zl k (.inl e)) g) (fun e=>(i.lt k e).2))⟩,?_⟩
 ·show w3.ownsRow w.heap.size 3 1 av' (j+1) (((yI K.E j M).1++ [(zJ K.E (yI K.E j M).2).1]).map zN)
  rw[Js];exact i
 ·intro x c;rcases Jl.1 c with c|c
  ·exact h.i64 x c
  ·rw[Jo] at c;subst c;exact u
 ·refine⟨hg.os.trans d.os,hg.tape.trans d.tape,hg.output.trans d.output,Jn d.size g,d.new,fun k hk' c=>(hk k (Jy hk' d.size) (fun e=>?_)).trans (d.kept k hk' c)⟩;have:=(m.lt k e).1;omega
theorem ArgMid.done{av:Value}(h:ArgMid w K X M av j wx)(c:∀k,K.Z k->k<w.heap.size):∃Xj,wW wx K Xj (yI K.E j M).2/\Stp X w Xj wx/\wm wx (K.av Xj) av (yI K.E j M).1:=by
 obtain⟨Xj,⟨fv,vv,l,hm⟩,hs⟩:=h.made;refine⟨Xj,⟨fv,vv,l,hm.off (Z2:=K.Z) (Je _) ⟨rfl,rfl,rfl⟩ (fun _ _ _=>rfl) (fun k e=> .inl (.inl e)) (fun k e=>hm.env.zl k (.inl e))⟩,hs,?_⟩;refine rO h.own (qw _ _ _) h.i64 (fun k e hx=>hx.elim (fun e2=>hm.env.zx k e2 (.inr e)) (fun e2=>?_));have:=(h.own.lt k e).1;have:=c k e2;omega
theorem jh{v:Value}{a:Option Addr}{n:Nat}(h:wm w X v xs)(hv:v=.slice a n c){x:Int}(g:xs[k]? =some x):∃b o,a=some ⟨b,o,none⟩/\A w b (o+k) (U x):=by
 subst hv;obtain⟨a',c',e,_,_,h3⟩:=h;cases e;obtain⟨b,o,i,_,_,d,_⟩:=h3 k x g;rw[Nk] at d;exact⟨b,o,i,d⟩
theorem jN(h:wW w K X M)(b4:M.cur<M.f.length)(hz:M.sz+16<=1000000):
 I 134 #[F K.pm] w (yk K X w (vN K.E M) (.tuple #[])):=by
 obtain⟨fv,vv,l,h⟩:=h;have H:=Ja (Jb h (Jb b4 hz));have c2:=h.c2;have c3:=h.c3;obtain⟨pa,pc,c8⟩:=h.env.fpv;have p0:=zA (i:=0) h.env.prog rfl;rw[c8] at p0;have i2:=h.env.nf;have i1:=lt_of_block h.env.prog;have h8:=lt_of_block h.blk;clear h b4 hz c8;have f6:IntKind.i64.wrap ((K.E.nf:Int)-(K.E.me:Int))=(K.E.nf:Int)-(K.E.me:Int):=Om _ Zo;have c0:IntKind.i64.wrap ((K.E.nf:Int)-(K.E.me:Int)-1)=(K.E.nf:Int)-(K.E.me:Int)-1:=Om _ Zo
 by_cases h0:K.E.nf<=K.E.me+1
 ·have t:vN K.E M=M:=by unfold vN;rw[if_pos h0]
  have a2:=Ja t;have b9:(K.E.nf:Int)-(K.E.me:Int)-1<1:=Zo;clear t;go_enter Tryz.func134,Tryz.ntmps134;go_upto_region 0 with fail;go_quiet (fail);go_wp2
  first|go_end0|refine bodyPost_ret (results_none rfl _ _ _) rfl ?_
  rw[a2.out];exact⟨rfl,X,⟨_,_,_,H.out.1.keep (yL _ _ _)⟩,Stp.of_below (yL _ _ _)⟩
 ·obtain⟨m,hm⟩:∃m:Nat,K.E.nf-K.E.me-1=m:=⟨_,rfl⟩
  have i9:1<=m:=Zo;have b9:¬(K.E.nf:Int)-(K.E.me:Int)-1<1:=Zo;have c9:(K.E.nf:Int)-(K.E.me:Int)-1=(m:Int):=Zo;have i0:¬(m:Int)<1:=Zo;rw[c9] at c0;clear b9;go_enter Tryz.func134,Tryz.ntmps134;go_upto_region 0 with fail
  go_cut [2] (fun v wx=>v=U m/\∃n,wx=w.drewN n)
  case first=>
   go_quiet (fail);go_wp2;go_meet;exact⟨by first|rfl|(rw[c9]),_,rfl⟩
  case rest=>
   obtain⟨rfl,n0,rfl⟩:=hcut;have a4:=H.out.1.keep (yL _ w n0);generalize e0:w.drewN n0=W1 at *;have c5:Stp X w X W1:=by rw[<-e0];exact Stp.of_below (yL _ _ _)
   have e4:=Ja (Jb a4 c5);have HT:=Ja (uD (a4.keep (Below.refl _ _).drew) (n:=m) Zo Zo (by have:=H.out.2.2;omega));have a3:=aaE K.E M (n:=m) Zo;obtain⟨z,hz⟩:∃z,tkV K.E M m=z:=⟨_,rfl⟩
   rw[hz] at HT a3;have HZ:=Ja (Jb hz hm);have d3:=a4.c3;clear a4 c5 hz hm e0 c2 c3 p0 f6 c0;go_upto_region 2 with fail;obtain⟨f,hf⟩:∃f:Nat,K.E.me+1+z=f:=⟨_,rfl⟩
   have d1:(K.E.me:Int)+1+(z:Int)=(f:Int):=Zo;have h4:=Ja (show IntKind.i64.wrap (IntKind.i64.wrap ((K.E.me:Int)+1)+(z:Int))=(f:Int) by rw[Om ((K.E.me:Int)+1) Zo,Om _ Zo];exact d1);clear d1
   go_cut [3] (fun v wx=>v=U f/\Hid (MkIn wx K X M.tick fv vv l/\Stp X w X wx))
   case first=>
    go_region_held3 (fun w'=>A w' K.pm 3 (U (K.E.me:Int))) (first|exact d3|assumption|(exact MkIn.c3 Zz))
     ((go_at_call 55;refine HT.out.mono ?_;rintro e w2 ⟨rfl,u,f8⟩))
    all_goals go_wp2_with fail
    go_meet;exact⟨by rw[h4.out],Ja ⟨u,e4.out.2.trans ((Stp.of_below (Below.refl _ _).drew).trans f8)⟩⟩
   obtain⟨rfl,d6⟩:=hcut;obtain⟨u,a7⟩:=d6.out;generalize g6:wc=w2 at *;clear d6 g6;have g3:f<K.E.nf:=by have:=HZ.out.2;omega
   have d2:=u.c2;have p3:=zA (i:=3) u.env.prog rfl;have d:=Ja (Jb u (Jb a7 hf));have h9:=lt_of_block u.env.prog;have h5:=lt_of_block u.blk;clear u a7 hf d3 e4 HT
   by_cases hh:(f:Int)=K.E.handler
   ·have t0:((f:Int)==K.E.handler)=true:=by rw[beq_iff_eq];exact hh
    have t:vN K.E M=M.tick:=by
     unfold vN;rw[if_neg h0];simp only;rw[HZ.out.2,HZ.out.1,d.out.2.2,if_pos hh]
    have a2:=Ja t;clear t hh;go_wp2
    first|go_end0|refine bodyPost_ret (results_none rfl _ _ _) rfl ?_
    rw[a2.out];exact⟨rfl,X,d.out.1.at,d.out.2.1⟩
   ·have t0:((f:Int)==K.E.handler)=false:=by rw[beq_eq_false_iff_ne];exact hh
    have t:vN K.E M=(yI K.E (K.E.args.getD f 0).toNat M.tick).2.emit ⟨26,0,(f:Nat),0,0,(yI K.E (K.E.args.getD f 0).toNat M.tick).1⟩:=by
     unfold vN;rw[if_neg h0];simp only;rw[HZ.out.2,HZ.out.1,d.out.2.2,if_neg hh]
    have a2:=Ja t;clear t hh;obtain⟨aa,ac,d7,_,_⟩:=d.out.1.env.args.form;have a5:=d.out.1.env.args;have f1:=d.out.1.env.len;have e6:=Ja (Jb d7 a5);obtain⟨x,hx⟩:∃x,K.E.args[f]? =some x:=⟨_,Jd (by rw[f1];exact g3)⟩
    obtain⟨f5,f4⟩:=d.out.1.env.alt x (Ji hx);have b8:K.E.args.getD f 0=x:=by rw[Jj,hx];rfl
    obtain⟨c,hc⟩:∃c:Nat,x.toNat=c:=⟨_,rfl⟩
    have d5:x=(c:Int):=Zo;have i8:=(zT M).sz;have HX:=Ja (Jb hx (Jb b8 (Jb hc d5)));have j2:c<=3:=Zo;have b0:=ArgMid.start d.out.1.at;have g9:=Ja b0;clear d7 a5 hx b8 hc d5 b0 f5 f4;go_upto_region 5 with fail;go_wp2;clear d2 p3
    go_loopw [4,5] (fun rv jv wx=>∃(j:Nat) (ra:Option Addr) (rc:Nat),j<=c/\rv=.slice ra j rc/\jv=U j/\Hid (ArgMid w2 K X M.tick (.slice ra j rc) j wx)) (fun _ jv _=>c-(intOf jv).toNat)
    case atStart=>exact⟨0,none,0,Jt _,rfl,rfl,g9⟩
    case round=>
     obtain⟨j,ra,rc,hj,rfl,rfl,HA⟩:=hrel
     have g2:∃Xj fv' vv' l',MkIn wr (K.withZ fun k=>K.Z k∨(Value.slice ra j rc).ownBlock=some k) Xj (yI K.E j M.tick).2 fv' vv' l'/\Stp X w2 Xj wr:=by
      obtain⟨Xj,⟨fv',vv',l',hm⟩,hs⟩:=HA.out.made;exact⟨Xj,fv',vv',l',hm,hs⟩
     obtain⟨Xj,fv',vv',l',hm,hs⟩:=g2;have e2:A wr K.pm 2 (F K.pp):=hm.c2;have q1:A wr K.pp 1 K.apv:=zA (i:=1) hm.env.prog rfl;obtain⟨ab,ao,d9,g5⟩:=jh (show wm wr ((K.withZ fun k=>K.Z k∨(Value.slice ra j rc).ownBlock=some k).av Xj) K.apv K.E.args from hm.env.args) e6.out.1 HX.out.1;rw[e6.out.1,d9] at q1;rw[HX.out.2.2.2] at g5;have j1:(f:Int)<(K.E.args.length:Int):=Zo;have a1:=Ja (Jb hm hs);clear hm hs d9
     by_cases a3:j<c
     ·have f0:(j:Int)<(c:Int):=Zo;have g:=tj K.E j M.tick
      have b3:(yI K.E j M.tick).2.cur<(yI K.E j M.tick).2.f.length/\(yI K.E j M.tick).2.sz+4<=1000000:=by
       refine⟨?_,?_⟩
       ·rw[g.cur,g.len];exact H.out.2.1
       ·have:=g.sz;have:=H.out.2.2;omega
      have d8:=pu (K:=K.withZ fun k=>K.Z k∨(Value.slice ra j rc).ownBlock=some k) a1.out.1.at b3.1 b3.2;have a6:=oD a1.out.1.at;obtain⟨y,hy⟩:∃y,(zJ K.E (yI K.E j M.tick).2).1=y:=⟨_,rfl⟩
      have b6:I 58 #[F K.pm] wr (yk (K.withZ fun k=>K.Z k∨(Value.slice ra j rc).ownBlock=some k) Xj wr (yI K.E (j+1) M.tick).2 (U y)):=by rw[<-hy];exact d8
      have b2:∀(w4:World) (X4:Nat->Prop),Stp Xj wr X4 w4->w4.ownsRow w2.heap.size 3 1 (.slice ra j rc) j ((yI K.E j M.tick).1.map zN):=fun w4 X4 a0=>yD HA.out.own (fun k e=>a0.kept k (HA.out.own.lt k e).2 (fun e2=>a1.out.1.env.zx k e2 (.inr e)))
      obtain⟨ij,g1,e9,e8,e7⟩:=info_parts Tryz.info_int;have HN:=Ja (Jb b6 (Jb a6 (Jb hy b2)));have e1:=Ja a3;have j0:j<=3:=Zo;have h6:=a1.out.2.size;clear d8 b6 a6 hy b2 b3 g a3;go_wp2_with (first|(go_at_call 58;go_must (refine HN.out.1.mono ?_;rintro e w4 ⟨rfl,X4,g0,a0⟩;have c7:=HN.out.2.2.2 w4 X4 a0;have h7:=a0.size))|(at_builtin;go_must (refine zK _ rfl (.tmp 54) (.tmp 57) 22 rfl w2.heap.size 3 ij (U 0) 1 8 Tryz.underlying22 g1 e9 e8 e7 rfl Zd (.slice ra j rc) j ((yI K.E j M.tick).1.map zN) rfl (c7.alloc _) _ 1 [U y] rfl (yM.one (zI rfl) rfl) (by unfold maxLen;omega) Zo Zt ?_;intro v9 w9 b1 b7 g4)))
      obtain⟨f3,f2,rfl⟩:=zG b1;go_roundw
      case rel=>
       refine⟨j+1,f3,f2,e1.out,rfl,by go_num,Ja (HA.out.next g0 (a1.out.2.trans a0) c7 (by rw[HN.out.2.2.1];have:=HN.out.2.1;rw[<-HN.out.2.2.1];exact this) d.out.1.xl d.out.1.size b7 (by rw[HN.out.2.2.1];exact b1) (fun k e=>?_))⟩;rcases g4 with e2|e2
       ·exact .inl (by rw[<-e2];exact e)
       ·right;have e3:=e2.symm.trans e;simp at e3;omega
      case measure=>have:=e1.out;simp[intOf];omega
     ·obtain rfl:j=c:=by omega
      have f0:¬(j:Int)<(j:Int):=Zo;obtain⟨X9,d0,c4,b5⟩:=HA.out.done d.out.1.env.zl;have g:=tj K.E j M.tick;have d4:=rD (o:=⟨26,0,(f:Int),0,0,(yI K.E j M.tick).1⟩) d0 ⟨yF _ rfl,yF _ rfl,vG (f:Int) Zo Zo,yF _ rfl,(by show 0<65536;omega)⟩ b5 (by rw[g.cur,g.len];exact H.out.2.1) (by have:=g.sz;have:=H.out.2.2;omega);have e5:=Ja (Jb d4 (d.out.2.1.trans c4));clear d0 c4 b5 g d4;go_wp2_with (go_at_call 132;go_must (refine e5.out.1.mono ?_;rintro e w5 ⟨rfl,X5,f9,f7⟩))
      first|go_end0|refine bodyPost_ret (results_none rfl _ _ _) rfl ?_
      rw[a2.out,HX.out.2.1,HX.out.2.2.1];exact⟨rfl,X5,f9,e5.out.2.trans f7⟩
structure OpSt (w0:World) (K:MKC) (X0:Nat->Prop) (M0:MS) (c:Nat) (w:World) (M:MS):Prop where
 made:∃X,wW w K X M/\Stp X0 w0 X w
 gr:GrowP c M0 M
 cur:M.cur<M.f.length
section
variable {w0 w:World} {K:MKC} {X0:Nat->Prop} {M0 M:MS} {c:Nat} (h:OpSt w0 K X0 M0 c w M)
include h
theorem OpSt.take (n:Nat)(i:0<n)(g:n<=1000000)(k:M0.sz+(c+1)<=1000000):
 I 55 #[F K.pm,U n] w fun e w'=>∃z:Nat,z<n/\Hid (tkV K.E M n=z)/\e=.returned (U z)/\Hid (OpSt w0 K X0 M0 (c+1) w' M.tick):=by
 obtain⟨X,hm,hs⟩:=h.made;refine(m8 hm i g (by have:=h.gr.sz;omega)).mono ?_;rintro e w' ⟨rfl,X',j,d⟩;exact⟨_,aaE _ _ i,Ja rfl,rfl,Ja ⟨⟨X',j,hs.trans d⟩,h.gr.trans (zT M).p,h.cur⟩⟩
theorem OpSt.takeK (n k:Nat)(kI:Int)(g:(k:Int)=kI)(hk:tkV K.E M n=k)(i:0<n)(d:n<=1000000)(hz:M0.sz+(c+1)<=1000000):
 I 55 #[F K.pm,U n] w fun e w'=>e=.returned (U kI)/\Hid (OpSt w0 K X0 M0 (c+1) w' M.tick):=by
 refine(h.take n i d hz).mono ?_;rintro e w' ⟨z,_,hz,rfl,hm⟩;refine⟨?_,hm⟩;rw[<-g,<-hk,hz.out]
theorem OpSt.any (i:M0.sz+(c+4)<=1000000):
 I 58 #[F K.pm] w fun e w'=>∃x:Int,Hid (I64 x/\(zJ K.E M).1=x)/\e=.returned (U x)/\Hid (OpSt w0 K X0 M0 (c+4) w' (zJ K.E M).2):=by
 obtain⟨X,hm,hs⟩:=h.made;refine(pu hm h.cur (by have:=h.gr.sz;omega)).mono ?_;rintro e w' ⟨rfl,X',g,d⟩;exact⟨_,Ja ⟨oD hm,rfl⟩,rfl,Ja ⟨⟨X',g,hs.trans d⟩,h.gr.trans (yU K.E M).p,by rw[(yU K.E M).cur,(yU K.E M).len];exact h.cur⟩⟩
theorem OpSt.addr (i:M0.sz+(c+6)<=1000000):
 I 133 #[F K.pm] w fun e w'=>∃x:Int,Hid (I64 x/\(yJ K.E M).1=x)/\e=.returned (U x)/\Hid (OpSt w0 K X0 M0 (c+6) w' (yJ K.E M).2):=by
 obtain⟨X,hm,hs⟩:=h.made;refine(addr_any hm h.cur (by have:=h.gr.sz;omega)).mono ?_;rintro e w' ⟨rfl,X',g,d⟩;refine⟨_,Ja ⟨?_,rfl⟩,rfl,Ja ⟨⟨X',g,hs.trans d⟩,h.gr.trans (ue K.E M).p,by rw[(ue K.E M).cur,(ue K.E M).len];exact h.cur⟩⟩;unfold yJ
 split
 ·obtain⟨fv,vv,l,hi⟩:=hm;exact oD ((hi.ticked (by have:=h.gr.sz;omega)).1.at)
 ·obtain⟨fv,vv,l,hi⟩:=hm;have hb:=hi.bnd;unfold MS.sz at hb;exact vG _ (by show -1000000<=(M.next:Int);omega) (by show(M.next:Int)<=1000000;omega)
theorem OpSt.next:(M.next:Int)<=1000000:=by
 obtain⟨X,⟨fv,vv,l,hi⟩,hs⟩:=h.made;have hb:=hi.bnd;unfold MS.sz at hb;omega
theorem OpSt.n64:I64 (M.next:Int):=vG _ Zo h.next
theorem OpSt.num (n:Nat)(i:n<65536)(j:M0.sz+(c+3)<=1000000):
 I 114 #[F K.pm,O n] w fun e w'=>e=.returned (U (M.next:Int))/\Hid (OpSt w0 K X0 M0 (c+3) w' (M.num n)):=by
 obtain⟨X,hm,hs⟩:=h.made;refine(ks hm i h.cur (by have:=h.gr.sz;omega)).mono ?_;rintro e w' ⟨rfl,X',g,d⟩;exact⟨rfl,Ja ⟨⟨X',g,hs.trans d⟩,h.gr.trans (wT M n).p,by rw[(wT M n).cur,(wT M n).len];exact h.cur⟩⟩
theorem OpSt.emit (code a b:Int)(n:Nat)(h1:I64 code)(h2:I64 a)(h3:I64 b)(i:n<65536)(j:M0.sz+(c+3)<=1000000):
 I 132 #[F K.pm,.agg #[U code,U 0,U a,U b,O n,L]] w fun e w'=>e=.returned (U (sB M code))/\Hid (OpSt w0 K X0 M0 (c+3) w' (M.emit ⟨code,0,a,b,n,[]⟩)):=by
 obtain⟨X,hm,hs⟩:=h.made;refine(rD (o:=⟨code,0,a,b,n,[]⟩) hm ⟨h1,yF _ rfl,h2,h3,i⟩ yE.nil h.cur (by have:=h.gr.sz;omega)).mono ?_;rintro e w' ⟨rfl,X',g,d⟩;exact⟨rfl,Ja ⟨⟨X',g,hs.trans d⟩,h.gr.trans (yB M _).p,by rw[(yB M _).cur,(yB M _).len];exact h.cur⟩⟩
theorem OpSt.call (d:∀x∈K.E.args,0<=x/\x<4)(j:M0.sz+(c+16)<=1000000):
 I 134 #[F K.pm] w fun e w'=>e=.returned (.tuple #[])/\Hid (OpSt w0 K X0 M0 (c+16) w' (vN K.E M)):=by
 obtain⟨X,hm,hs⟩:=h.made;refine(jN hm h.cur (by have:=h.gr.sz;omega)).mono ?_;rintro e w' ⟨rfl,X',i,g⟩;exact⟨rfl,Ja ⟨⟨X',i,hs.trans g⟩,h.gr.trans (afO K.E d M).p,by rw[(afO K.E d M).cur,(afO K.E d M).len];exact h.cur⟩⟩
theorem OpSt.block (n:Nat)(i:M0.sz+(c+(1+n))<=1000000):
 I 56 #[F K.pm,U n] w fun e w'=>e=.returned (U (M.f.length:Int))/\Hid (OpSt w0 K X0 M0 (c+(1+n)) w' (M.block n)):=by
 obtain⟨X,hm,hs⟩:=h.made;refine(rU hm (n:=n) (by have:=h.gr.sz;omega)).mono ?_;rintro e w' ⟨rfl,X',g,d⟩;exact⟨rfl,Ja ⟨⟨X',g,hs.trans d⟩,h.gr.trans (xM M n),by have:=h.cur;rw[yz];show M.cur<_;omega⟩⟩
theorem OpSt.flen:(M.f.length:Int)<=1000000:=by
 obtain⟨X,⟨fv,vv,l,hi⟩,hs⟩:=h.made;have hb:=hi.bnd;unfold MS.sz at hb;omega
theorem OpSt.endB (k a:Int)(tos:List IEdge)(tv:Value)(hk:I64 k)(j:I64 a)(d:∀X,wW w K X M->Stp X0 w0 X w->vT w (K.av X) tv tos):
 I 59 #[F K.pm,.agg #[U k,U a,tv]] w fun e w'=>e=.returned (.tuple #[])/\Hid (OpSt w0 K X0 M0 c w' (M.endB ⟨k,a,tos⟩)):=by
 obtain⟨X,hm,hs⟩:=h.made;refine(nt (t:=⟨k,a,tos⟩) hm hk j (d X hm hs) h.cur).mono ?_;rintro e w' ⟨rfl,X',i,g⟩;exact⟨rfl,Ja ⟨⟨X',i,hs.trans g⟩,h.gr.trans (zv M _).p,by rw[(zv M _).cur,(zv M _).len];exact h.cur⟩⟩
theorem OpSt.endN(k a:Int)(tos:List IEdge)(tv:Value)(hk:I64 k)(j:I64 a)(hb:Y w w2)(d:∀X:Nat->Prop,(∀k,X k->k<w.heap.size)->vT w2 X tv tos):
 I 59 #[F K.pm,.agg #[U k,U a,tv]] w2 fun e w'=>e=.returned (.tuple #[])/\Hid (OpSt w0 K X0 M0 c w' (M.endB ⟨k,a,tos⟩)):=by
 obtain⟨X,⟨fv,vv,l,hm⟩,hs⟩:=h.made;refine(nt (t:=⟨k,a,tos⟩) (hm.keep hb).at hk j (d (K.av X) (fun k e=>e.elim (hm.xl k) (hm.env.zl k))) h.cur).mono ?_;rintro e w' ⟨rfl,X',i,g⟩;exact⟨rfl,Ja ⟨⟨X',i,hs.trans ((Stp.of_below hb).trans g)⟩,h.gr.trans (zv M _).p,by rw[(zv M _).cur,(zv M _).len];exact h.cur⟩⟩
theorem OpSt.below(hb:Y w w'):OpSt w0 K X0 M0 c w' M:=by
 obtain⟨X,⟨fv,vv,l,hm⟩,hs⟩:=h.made;exact⟨⟨X,⟨fv,vv,l,hm.keep hb⟩,hs.trans (Stp.of_below hb)⟩,h.gr,h.cur⟩
end
theorem OpSt.start(h:wW w K X M)(c:M.cur<M.f.length):OpSt w K X M 0 w M:=⟨⟨X,h,Stp.refl _ _⟩,GrowP.refl M,c⟩
theorem OpSt.ret{M':MS}{r:Value}(h:OpSt w K X M c w' M'):yk K X w M' r (.returned r) w':=⟨rfl,h.made⟩
theorem wW.alt(h:wW w K X M):∀x∈K.E.args,0<=x/\x<4:=by
 obtain⟨fv,vv,l,hm⟩:=h;exact hm.env.alt
theorem mkOp_0{E:ME}(h:tkV E M 14=0):xK E M=M.tick.tick.num (tkV E M.tick 65536):=by
 unfold xK;simp only[h];rfl
theorem op_0(h:wW w K X M)(c:M.cur<M.f.length)(k:M.sz+20<=1000000)(hk:tkV K.E M 14=0):
 I 111 #[F K.pm] w (yk K X w (xK K.E M) (.tuple #[])):=by
 have o:=Ja h.alt;have j:=Ja (OpSt.start h c);have d:=Ja (Jb k hk);clear h c k hk;go_enter Tryz.func111,Tryz.ntmps111
 go_wp2_with (first
  |(go_at_call 55;refine(j.out.takeK 14 0 0 rfl d.out.2 Zd Zd (by have:=d.out.1;omega)).mono ?_;clear j;rintro e w1 ⟨rfl,i⟩)
  |(go_at_call 55;refine(i.out.take 65536 Zd Zd (by have:=d.out.1;omega)).mono ?_;clear i;rintro e w2 ⟨z,qz,m,rfl,g⟩)
  |(go_at_call 114;refine(g.out.num z Zo (by have:=d.out.1;omega)).mono ?_;clear g;rintro e w3 ⟨rfl,l⟩))
 first|go_end0|refine bodyPost_ret (results_none rfl _ _ _) rfl ?_
 rw[mkOp_0 d.out.2]
 try rw[m.out]
 exact l.out.ret
theorem mkOp_1{E:ME}(h:tkV E M 14=1):xK E M=(zJ E M.tick.tick).2.emit ⟨3+tkV E M.tick 2,0,(zJ E M.tick.tick).1,0,0,[]⟩:=by
 unfold xK;simp only[h];rfl
theorem op_1(h:wW w K X M)(d:M.cur<M.f.length)(l:M.sz+20<=1000000)(hk:tkV K.E M 14=1):
 I 111 #[F K.pm] w (yk K X w (xK K.E M) (.tuple #[])):=by
 have u:=Ja h.alt;have k:=Ja (OpSt.start h d);have c:=Ja (Jb l hk);clear h d l hk;go_enter Tryz.func111,Tryz.ntmps111
 go_wp2_with (first
  |(go_at_call 55;refine(k.out.takeK 14 1 1 rfl c.out.2 Zd Zd (by have:=c.out.1;omega)).mono ?_;clear k;rintro e w1 ⟨rfl,j⟩)
  |(go_at_call 55;refine(j.out.take 2 Zd Zd (by have:=c.out.1;omega)).mono ?_;clear j;rintro e w2 ⟨z,qz,t,rfl,i⟩)
  |(go_at_call 58;refine(i.out.any (by have:=c.out.1;omega)).mono ?_;clear i;rintro e w3 ⟨x,o,rfl,g⟩)
  |(go_at_call 132;refine(g.out.emit (3+(z:Int)) x 0 0 (vG _ Zo Zo) (o.out.1) (yF _ rfl) Zd (by have:=c.out.1;omega)).mono ?_;clear g;rintro e w4 ⟨rfl,m⟩))
 first|go_end0|refine bodyPost_ret (results_none rfl _ _ _) rfl ?_
 rw[mkOp_1 c.out.2]
 try rw[t.out]
 try rw[o.out.2]
 exact m.out.ret
theorem mkOp_2{E:ME}(h:tkV E M 14=2):xK E M=(yJ E M.tick).2.tick.emit ⟨18+tkV E (yJ E M.tick).2 2,0,(yJ E M.tick).1,0,0,[]⟩:=by
 unfold xK;simp only[h];rfl
theorem op_2(h:wW w K X M)(d:M.cur<M.f.length)(l:M.sz+20<=1000000)(hk:tkV K.E M 14=2):
 I 111 #[F K.pm] w (yk K X w (xK K.E M) (.tuple #[])):=by
 have u:=Ja h.alt;have k:=Ja (OpSt.start h d);have c:=Ja (Jb l hk);clear h d l hk;go_enter Tryz.func111,Tryz.ntmps111
 go_wp2_with (first
  |(go_at_call 55;refine(k.out.takeK 14 2 2 rfl c.out.2 Zd Zd (by have:=c.out.1;omega)).mono ?_;clear k;rintro e w1 ⟨rfl,j⟩)
  |(go_at_call 133;refine(j.out.addr (by have:=c.out.1;omega)).mono ?_;clear j;rintro e w2 ⟨x,o,rfl,i⟩)
  |(go_at_call 55;refine(i.out.take 2 Zd Zd (by have:=c.out.1;omega)).mono ?_;clear i;rintro e w3 ⟨z,qz,t,rfl,g⟩)
  |(go_at_call 132;refine(g.out.emit (18+(z:Int)) x 0 0 (vG _ Zo Zo) (o.out.1) (yF _ rfl) Zd (by have:=c.out.1;omega)).mono ?_;clear g;rintro e w4 ⟨rfl,m⟩))
 first|go_end0|refine bodyPost_ret (results_none rfl _ _ _) rfl ?_
 rw[mkOp_2 c.out.2]
 try rw[o.out.2]
 try rw[t.out]
 exact m.out.ret
theorem mkOp_3{E:ME}(h:tkV E M 14=3):xK E M=(yJ E M.tick).2.tick.emit ⟨18+tkV E (yJ E M.tick).2 2,0,(yJ E M.tick).1,0,0,[]⟩:=by
 unfold xK;simp only[h];rfl
theorem op_3(h:wW w K X M)(d:M.cur<M.f.length)(l:M.sz+20<=1000000)(hk:tkV K.E M 14=3):
 I 111 #[F K.pm] w (yk K X w (xK K.E M) (.tuple #[])):=by
 have u:=Ja h.alt;have k:=Ja (OpSt.start h d);have c:=Ja (Jb l hk);clear h d l hk;go_enter Tryz.func111,Tryz.ntmps111
 go_wp2_with (first
  |(go_at_call 55;refine(k.out.takeK 14 3 3 rfl c.out.2 Zd Zd (by have:=c.out.1;omega)).mono ?_;clear k;rintro e w1 ⟨rfl,j⟩)
  |(go_at_call 133;refine(j.out.addr (by have:=c.out.1;omega)).mono ?_;clear j;rintro e w2 ⟨x,o,rfl,i⟩)
  |(go_at_call 55;refine(i.out.take 2 Zd Zd (by have:=c.out.1;omega)).mono ?_;clear i;rintro e w3 ⟨z,qz,t,rfl,g⟩)
  |(go_at_call 132;refine(g.out.emit (18+(z:Int)) x 0 0 (vG _ Zo Zo) (o.out.1) (yF _ rfl) Zd (by have:=c.out.1;omega)).mono ?_;clear g;rintro e w4 ⟨rfl,m⟩))
 first|go_end0|refine bodyPost_ret (results_none rfl _ _ _) rfl ?_
 rw[mkOp_3 c.out.2]
 try rw[o.out.2]
 try rw[t.out]
 exact m.out.ret
theorem mkOp_4{E:ME}(h:tkV E M 14=4):xK E M=(zJ E (yJ E M.tick).2).2.tick.emit ⟨20+tkV E (zJ E (yJ E M.tick).2).2 2,0,(yJ E M.tick).1,(zJ E (yJ E M.tick).2).1,0,[]⟩:=by
 unfold xK;simp only[h];rfl
theorem op_4(h:wW w K X M)(d:M.cur<M.f.length)(m:M.sz+20<=1000000)(hk:tkV K.E M 14=4):
 I 111 #[F K.pm] w (yk K X w (xK K.E M) (.tuple #[])):=by
 have HE:=Ja h.alt;have l:=Ja (OpSt.start h d);have c:=Ja (Jb m hk);clear h d m hk;go_enter Tryz.func111,Tryz.ntmps111
 go_wp2_with (first
  |(go_at_call 55;refine(l.out.takeK 14 4 4 rfl c.out.2 Zd Zd (by have:=c.out.1;omega)).mono ?_;clear l;rintro e w1 ⟨rfl,k⟩)
  |(go_at_call 133;refine(k.out.addr (by have:=c.out.1;omega)).mono ?_;clear k;rintro e w2 ⟨x,u,rfl,j⟩)
  |(go_at_call 58;refine(j.out.any (by have:=c.out.1;omega)).mono ?_;clear j;rintro e w3 ⟨y,t,rfl,i⟩)
  |(go_at_call 55;refine(i.out.take 2 Zd Zd (by have:=c.out.1;omega)).mono ?_;clear i;rintro e w4 ⟨z,qz,Hz,rfl,g⟩)
  |(go_at_call 132;refine(g.out.emit (20+(z:Int)) x y 0 (vG _ Zo Zo) (u.out.1) (t.out.1) Zd (by have:=c.out.1;omega)).mono ?_;clear g;rintro e w5 ⟨rfl,o⟩))
 first|go_end0|refine bodyPost_ret (results_none rfl _ _ _) rfl ?_
 rw[mkOp_4 c.out.2]
 try rw[u.out.2]
 try rw[t.out.2]
 try rw[Hz.out]
 exact o.out.ret
theorem mkOp_5{E:ME}(h:tkV E M 14=5):xK E M=(zJ E (yJ E M.tick).2).2.tick.emit ⟨20+tkV E (zJ E (yJ E M.tick).2).2 2,0,(yJ E M.tick).1,(zJ E (yJ E M.tick).2).1,0,[]⟩:=by
 unfold xK;simp only[h];rfl
theorem op_5(h:wW w K X M)(d:M.cur<M.f.length)(m:M.sz+20<=1000000)(hk:tkV K.E M 14=5):
 I 111 #[F K.pm] w (yk K X w (xK K.E M) (.tuple #[])):=by
 have HE:=Ja h.alt;have l:=Ja (OpSt.start h d);have c:=Ja (Jb m hk);clear h d m hk;go_enter Tryz.func111,Tryz.ntmps111
 go_wp2_with (first
  |(go_at_call 55;refine(l.out.takeK 14 5 5 rfl c.out.2 Zd Zd (by have:=c.out.1;omega)).mono ?_;clear l;rintro e w1 ⟨rfl,k⟩)
  |(go_at_call 133;refine(k.out.addr (by have:=c.out.1;omega)).mono ?_;clear k;rintro e w2 ⟨x,u,rfl,j⟩)
  |(go_at_call 58;refine(j.out.any (by have:=c.out.1;omega)).mono ?_;clear j;rintro e w3 ⟨y,t,rfl,i⟩)
  |(go_at_call 55;refine(i.out.take 2 Zd Zd (by have:=c.out.1;omega)).mono ?_;clear i;rintro e w4 ⟨z,qz,Hz,rfl,g⟩)
  |(go_at_call 132;refine(g.out.emit (20+(z:Int)) x y 0 (vG _ Zo Zo) (u.out.1) (t.out.1) Zd (by have:=c.out.1;omega)).mono ?_;clear g;rintro e w5 ⟨rfl,o⟩))
 first|go_end0|refine bodyPost_ret (results_none rfl _ _ _) rfl ?_
 rw[mkOp_5 c.out.2]
 try rw[u.out.2]
 try rw[t.out.2]
 try rw[Hz.out]
 exact o.out.ret
theorem mkOp_6{E:ME}(h:tkV E M 14=6):xK E M=M.tick.tick.emit ⟨24,0,0,0,1+tkV E M.tick 3,[]⟩:=by
 unfold xK;simp only[h];rfl
theorem op_6(h:wW w K X M)(c:M.cur<M.f.length)(k:M.sz+20<=1000000)(hk:tkV K.E M 14=6):
 I 111 #[F K.pm] w (yk K X w (xK K.E M) (.tuple #[])):=by
 have o:=Ja h.alt;have j:=Ja (OpSt.start h c);have d:=Ja (Jb k hk);clear h c k hk;go_enter Tryz.func111,Tryz.ntmps111
 go_wp2_with (first
  |(go_at_call 55;refine(j.out.takeK 14 6 6 rfl d.out.2 Zd Zd (by have:=d.out.1;omega)).mono ?_;clear j;rintro e w1 ⟨rfl,i⟩)
  |(go_at_call 55;refine(i.out.take 3 Zd Zd (by have:=d.out.1;omega)).mono ?_;clear i;rintro e w2 ⟨z,qz,m,rfl,g⟩)
  |(go_at_call 132;refine(g.out.emit 24 0 0 (1+z) (yF _ rfl) (yF _ rfl) (yF _ rfl) Zo (by have:=d.out.1;omega)).mono ?_;clear g;rintro e w3 ⟨rfl,l⟩))
 first|go_end0|refine bodyPost_ret (results_none rfl _ _ _) rfl ?_
 rw[mkOp_6 d.out.2]
 try rw[m.out]
 exact l.out.ret
theorem mkOp_7{E:ME}(h:tkV E M 14=7):xK E M=(zJ E M.tick).2.tick.emit ⟨25,0,(zJ E M.tick).1,0,1+tkV E (zJ E M.tick).2 3,[]⟩:=by
 unfold xK;simp only[h];rfl
theorem op_7(h:wW w K X M)(d:M.cur<M.f.length)(l:M.sz+20<=1000000)(hk:tkV K.E M 14=7):
 I 111 #[F K.pm] w (yk K X w (xK K.E M) (.tuple #[])):=by
 have u:=Ja h.alt;have k:=Ja (OpSt.start h d);have c:=Ja (Jb l hk);clear h d l hk;go_enter Tryz.func111,Tryz.ntmps111
 go_wp2_with (first
  |(go_at_call 55;refine(k.out.takeK 14 7 7 rfl c.out.2 Zd Zd (by have:=c.out.1;omega)).mono ?_;clear k;rintro e w1 ⟨rfl,j⟩)
  |(go_at_call 58;refine(j.out.any (by have:=c.out.1;omega)).mono ?_;clear j;rintro e w2 ⟨x,o,rfl,i⟩)
  |(go_at_call 55;refine(i.out.take 3 Zd Zd (by have:=c.out.1;omega)).mono ?_;clear i;rintro e w3 ⟨z,qz,t,rfl,g⟩)
  |(go_at_call 132;refine(g.out.emit 25 x 0 (1+z) (yF _ rfl) (o.out.1) (yF _ rfl) Zo (by have:=c.out.1;omega)).mono ?_;clear g;rintro e w4 ⟨rfl,m⟩))
 first|go_end0|refine bodyPost_ret (results_none rfl _ _ _) rfl ?_
 rw[mkOp_7 c.out.2]
 try rw[o.out.2]
 try rw[t.out]
 exact m.out.ret
theorem mkOp_8{E:ME}(h:tkV E M 14=8):xK E M=(M.tick.tick.num (tkV E M.tick 4096)).tick.emit ⟨22+tkV E (M.tick.tick.num (tkV E M.tick 4096)) 2,0,(M.tick.next:Nat),0,0,[]⟩:=by
 unfold xK;simp only[h];rfl
theorem op_8(h:wW w K X M)(g:M.cur<M.f.length)(m:M.sz+20<=1000000)(hk:tkV K.E M 14=8):
 I 111 #[F K.pm] w (yk K X w (xK K.E M) (.tuple #[])):=by
 have x:=Ja h.alt;have l:=Ja (OpSt.start h g);have c:=Ja (Jb m hk);clear h g m hk;go_enter Tryz.func111,Tryz.ntmps111
 go_wp2_with (first
  |(go_at_call 55;refine(l.out.takeK 14 8 8 rfl c.out.2 Zd Zd (by have:=c.out.1;omega)).mono ?_;clear l;rintro e w1 ⟨rfl,k⟩)
  |(go_at_call 55;refine(k.out.take 4096 Zd Zd (by have:=c.out.1;omega)).mono ?_;clear k;rintro e w2 ⟨y,qy,u,rfl,d⟩)
  |(go_at_call 114;refine(d.out.num y Zo (by have:=c.out.1;omega)).mono ?_;have N1:=Ja d.out.n64;clear d;rintro e w3 ⟨rfl,j⟩)
  |(go_at_call 55;refine(j.out.take 2 Zd Zd (by have:=c.out.1;omega)).mono ?_;clear j;rintro e w4 ⟨z,qz,t,rfl,i⟩)
  |(go_at_call 132;refine(i.out.emit (22+(z:Int)) (M.next:Int) 0 0 (vG _ Zo Zo) N1.out (yF _ rfl) Zd (by have:=c.out.1;omega)).mono ?_;clear i;rintro e w5 ⟨rfl,o⟩))
 first|go_end0|refine bodyPost_ret (results_none rfl _ _ _) rfl ?_
 rw[mkOp_8 c.out.2]
 try rw[u.out]
 try rw[t.out]
 exact o.out.ret
theorem mkOp_9{E:ME}(h:tkV E M 14=9):xK E M=vN E M.tick:=by
 unfold xK;simp only[h];rfl
theorem op_9(h:wW w K X M)(c:M.cur<M.f.length)(j:M.sz+20<=1000000)(hk:tkV K.E M 14=9):
 I 111 #[F K.pm] w (yk K X w (xK K.E M) (.tuple #[])):=by
 have l:=Ja h.alt;have i:=Ja (OpSt.start h c);have d:=Ja (Jb j hk);clear h c j hk;go_enter Tryz.func111,Tryz.ntmps111
 go_wp2_with (first
  |(go_at_call 55;refine(i.out.takeK 14 9 9 rfl d.out.2 Zd Zd (by have:=d.out.1;omega)).mono ?_;clear i;rintro e w1 ⟨rfl,g⟩)
  |(go_at_call 134;refine(g.out.call l.out (by have:=d.out.1;omega)).mono ?_;clear g;rintro e w2 ⟨rfl,k⟩))
 first|go_end0|refine bodyPost_ret (results_none rfl _ _ _) rfl ?_
 rw[mkOp_9 d.out.2];exact k.out.ret
theorem mkOp_10a{E:ME}(h:tkV E M 14=10)(hq:tkV E M.tick 3=0):xK E M=M.tick.tick.emit ⟨27,0,0,0,0,[]⟩:=by
 unfold xK;simp only[h,hq];rfl
theorem op_10a(h:wW w K X M)(c:M.cur<M.f.length)(l:M.sz+20<=1000000)(hk:tkV K.E M 14=10)(hq:tkV K.E M.tick 3=0):
 I 111 #[F K.pm] w (yk K X w (xK K.E M) (.tuple #[])):=by
 have o:=Ja h.alt;have k:=Ja (OpSt.start h c);have d:=Ja (Jb l hk);have j:=Ja hq;clear h c l hk hq;go_enter Tryz.func111,Tryz.ntmps111
 go_wp2_with (first
  |(go_at_call 55;refine(k.out.takeK 14 10 10 rfl d.out.2 Zd Zd (by have:=d.out.1;omega)).mono ?_;clear k;rintro e w1 ⟨rfl,i⟩)
  |(go_at_call 55;refine(i.out.takeK 3 0 0 rfl j.out Zd Zd (by have:=d.out.1;omega)).mono ?_;clear i;rintro e w2 ⟨rfl,g⟩)
  |(go_at_call 132;refine(g.out.emit 27 0 0 0 (yF _ rfl) (yF _ rfl) (yF _ rfl) Zd (by have:=d.out.1;omega)).mono ?_;clear g;rintro e w3 ⟨rfl,m⟩))
 first|go_end0|refine bodyPost_ret (results_none rfl _ _ _) rfl ?_
 rw[mkOp_10a d.out.2 j.out];exact m.out.ret
theorem mkOp_10b{E:ME}(h:tkV E M 14=10)(hq:¬tkV E M.tick 3=0):xK E M=M.tick.tick:=by
 unfold xK;simp only[h,hq];rfl
theorem op_10b(h:wW w K X M)(c:M.cur<M.f.length)(k:M.sz+20<=1000000)(hk:tkV K.E M 14=10)(hq:¬tkV K.E M.tick 3=0):
 I 111 #[F K.pm] w (yk K X w (xK K.E M) (.tuple #[])):=by
 have o:=Ja h.alt;have j:=Ja (OpSt.start h c);have d:=Ja (Jb k hk);have i:=Ja hq;clear h c k hk hq;go_enter Tryz.func111,Tryz.ntmps111
 go_wp2_with (first
  |(go_at_call 55;refine(j.out.takeK 14 10 10 rfl d.out.2 Zd Zd (by have:=d.out.1;omega)).mono ?_;clear j;rintro e w1 ⟨rfl,g⟩)
  |(go_at_call 55;refine(g.out.take 3 Zd Zd (by have:=d.out.1;omega)).mono ?_;clear g;rintro e w2 ⟨z,qz,m,rfl,l⟩;have tz:((z:Int)==0)=false:=by rw[beq_eq_false_iff_ne];have:=m.out;have:=i.out;omega))
 first|go_end0|refine bodyPost_ret (results_none rfl _ _ _) rfl ?_
 rw[mkOp_10b d.out.2 i.out]
 try rw[m.out]
 exact l.out.ret
theorem mkOp_11a{E:ME}(h:tkV E M 14=11)(hq:¬tkV E (zJ E (zJ E M.tick).2).2 13=3):xK E M=(zJ E (zJ E M.tick).2).2.tick.emit ⟨((5+tkV E (zJ E (zJ E M.tick).2).2 13:Nat):Int),0,(zJ E M.tick).1,(zJ E (zJ E M.tick).2).1,0,[]⟩:=by
 unfold xK;simp only[h]
 show yR E M.tick=_
 unfold yR;simp only;rw[if_neg Zo]
theorem op_11a(h:wW w K X M)(d:M.cur<M.f.length)(o:M.sz+20<=1000000)(hk:tkV K.E M 14=11)(hq:¬tkV K.E (zJ K.E (zJ K.E M.tick).2).2 13=3):
 I 111 #[F K.pm] w (yk K X w (xK K.E M) (.tuple #[])):=by
 have HE:=Ja h.alt;have m:=Ja (OpSt.start h d);have c:=Ja (Jb o hk);have l:=Ja hq;clear h d o hk hq;go_enter Tryz.func111,Tryz.ntmps111
 go_wp2_with (first
  |(go_at_call 55;refine(m.out.takeK 14 11 11 rfl c.out.2 Zd Zd (by have:=c.out.1;omega)).mono ?_;clear m;rintro e w1 ⟨rfl,k⟩)
  |(go_at_call 58;refine(k.out.any (by have:=c.out.1;omega)).mono ?_;clear k;rintro e w2 ⟨x,Hx,rfl,j⟩)
  |(go_at_call 58;refine(j.out.any (by have:=c.out.1;omega)).mono ?_;clear j;rintro e w3 ⟨y,Hy,rfl,i⟩)
  |(go_at_call 55;refine(i.out.take 13 Zd Zd (by have:=c.out.1;omega)).mono ?_;clear i;rintro e w4 ⟨z,qz,u,rfl,g⟩;have tz:((5+(z:Int))==8)=false:=by rw[beq_eq_false_iff_ne];have:=u.out;have:=l.out;omega)
  |(go_at_call 132;refine(g.out.emit (5+(z:Int)) x y 0 (vG _ Zo Zo) (Hx.out.1) (Hy.out.1) Zd (by have:=c.out.1;omega)).mono ?_;clear g;rintro e w5 ⟨rfl,t⟩))
 first|go_end0|refine bodyPost_ret (results_none rfl _ _ _) rfl ?_
 rw[mkOp_11a c.out.2 l.out]
 try rw[Hx.out.2]
 try rw[Hy.out.2]
 try rw[u.out]
 exact t.out.ret
theorem mkOp_11b{E:ME}(h:tkV E M 14=11)(hq:tkV E (zJ E (zJ E M.tick).2).2 13=3)(hp:tkV E (zJ E (zJ E M.tick).2).2.tick 8=0):xK E M=(zJ E (zJ E M.tick).2).2.tick.tick.emit ⟨8,0,(zJ E M.tick).1,(zJ E (zJ E M.tick).2).1,0,[]⟩:=by
 unfold xK;simp only[h]
 show yR E M.tick=_
 unfold yR;simp only;rw[if_pos Zo,if_neg Zo]
theorem op_11b(h:wW w K X M)(d:M.cur<M.f.length)(u:M.sz+20<=1000000)(hk:tkV K.E M 14=11)(hq:tkV K.E (zJ K.E (zJ K.E M.tick).2).2 13=3)(hp:tkV K.E (zJ K.E (zJ K.E M.tick).2).2.tick 8=0):
 I 111 #[F K.pm] w (yk K X w (xK K.E M) (.tuple #[])):=by
 have HE:=Ja h.alt;have t:=Ja (OpSt.start h d);have c:=Ja (Jb u hk);have m:=Ja hq;have o:=Ja hp;clear h d u hk hq hp;go_enter Tryz.func111,Tryz.ntmps111
 go_wp2_with (first
  |(go_at_call 55;refine(t.out.takeK 14 11 11 rfl c.out.2 Zd Zd (by have:=c.out.1;omega)).mono ?_;clear t;rintro e w1 ⟨rfl,l⟩)
  |(go_at_call 58;refine(l.out.any (by have:=c.out.1;omega)).mono ?_;clear l;rintro e w2 ⟨x,Hx,rfl,k⟩)
  |(go_at_call 58;refine(k.out.any (by have:=c.out.1;omega)).mono ?_;clear k;rintro e w3 ⟨y,Hy,rfl,j⟩)
  |(go_at_call 55;refine(j.out.takeK 13 3 3 rfl m.out Zd Zd (by have:=c.out.1;omega)).mono ?_;clear j;rintro e w4 ⟨rfl,i⟩)
  |(go_at_call 55;refine(i.out.takeK 8 0 0 rfl o.out Zd Zd (by have:=c.out.1;omega)).mono ?_;clear i;rintro e w5 ⟨rfl,g⟩)
  |(go_at_call 132;refine(g.out.emit 8 x y 0 (yF _ rfl) (Hx.out.1) (Hy.out.1) Zd (by have:=c.out.1;omega)).mono ?_;clear g;rintro e w6 ⟨rfl,a0⟩))
 first|go_end0|refine bodyPost_ret (results_none rfl _ _ _) rfl ?_
 rw[mkOp_11b c.out.2 m.out o.out]
 try rw[Hx.out.2]
 try rw[Hy.out.2]
 exact a0.out.ret
theorem mkOp_11c{E:ME}(h:tkV E M 14=11)(hq:tkV E (zJ E (zJ E M.tick).2).2 13=3)(hp:0<tkV E (zJ E (zJ E M.tick).2).2.tick 8):xK E M=((((zJ E (zJ E M.tick).2).2.tick.tick.num 1).emit ⟨10,0,(zJ E (zJ E M.tick).2).1,((zJ E (zJ E M.tick).2).2.next:Nat),0,[]⟩).emit ⟨8,0,(zJ E M.tick).1,(((zJ E (zJ E M.tick).2).2.next+1:Nat):Int),0,[]⟩):=by
 unfold xK;simp only[h]
 show yR E M.tick=_
 unfold yR;simp only;rw[if_pos Zo,if_pos Zo];rfl
theorem op_11c(h:wW w K X M)(i:M.cur<M.f.length)(hz:M.sz+20<=1000000)(hk:tkV K.E M 14=11)(hq:tkV K.E (zJ K.E (zJ K.E M.tick).2).2 13=3)(hp:0<tkV K.E (zJ K.E (zJ K.E M.tick).2).2.tick 8):
 I 111 #[F K.pm] w (yk K X w (xK K.E M) (.tuple #[])):=by
 have HE:=Ja h.alt;have a0:=Ja (OpSt.start h i);have c:=Ja (Jb hz hk);have t:=Ja hq;have u:=Ja hp;clear h i hz hk hq hp;go_enter Tryz.func111,Tryz.ntmps111
 go_wp2_with (first
  |(go_at_call 55;refine(a0.out.takeK 14 11 11 rfl c.out.2 Zd Zd (by have:=c.out.1;omega)).mono ?_;clear a0;rintro e w1 ⟨rfl,o⟩)
  |(go_at_call 58;refine(o.out.any (by have:=c.out.1;omega)).mono ?_;clear o;rintro e w2 ⟨x,Hx,rfl,m⟩)
  |(go_at_call 58;refine(m.out.any (by have:=c.out.1;omega)).mono ?_;clear m;rintro e w3 ⟨y,Hy,rfl,l⟩)
  |(go_at_call 55;refine(l.out.takeK 13 3 3 rfl t.out Zd Zd (by have:=c.out.1;omega)).mono ?_;clear l;rintro e w4 ⟨rfl,k⟩)
  |(go_at_call 55;refine(k.out.take 8 Zd Zd (by have:=c.out.1;omega)).mono ?_;clear k;rintro e w5 ⟨z,qz,Hz,rfl,g⟩;have tz:(0:Int)<(z:Int):=by have:=Hz.out;have:=u.out;omega)
  |(go_at_call 114;refine(g.out.num 1 Zo (by have:=c.out.1;omega)).mono ?_;have N1:=Ja g.out.n64;clear g;rintro e w6 ⟨rfl,d⟩)
  |(go_at_call 132;refine(d.out.emit 10 y _ 0 (yF _ rfl) (Hy.out.1) N1.out Zd (by have:=c.out.1;omega)).mono ?_;have N2:=Ja d.out.n64;clear d;rintro e w7 ⟨rfl,j⟩)
  |(go_at_call 132;refine(j.out.emit 8 x _ 0 (yF _ rfl) (Hx.out.1) N2.out Zd (by have:=c.out.1;omega)).mono ?_;clear j;rintro e w8 ⟨rfl,a1⟩))
 first|go_end0|refine bodyPost_ret (results_none rfl _ _ _) rfl ?_
 rw[mkOp_11c c.out.2 t.out u.out]
 try rw[Hx.out.2]
 try rw[Hy.out.2]
 try rw[Hz.out]
 exact a1.out.ret
theorem mkOp_12a{E:ME}(h:tkV E M 14=12)(hq:¬tkV E (zJ E (zJ E M.tick).2).2 13=3):xK E M=(zJ E (zJ E M.tick).2).2.tick.emit ⟨((5+tkV E (zJ E (zJ E M.tick).2).2 13:Nat):Int),0,(zJ E M.tick).1,(zJ E (zJ E M.tick).2).1,0,[]⟩:=by
 unfold xK;simp only[h]
 show yR E M.tick=_
 unfold yR;simp only;rw[if_neg Zo]
theorem op_12a(h:wW w K X M)(d:M.cur<M.f.length)(o:M.sz+20<=1000000)(hk:tkV K.E M 14=12)(hq:¬tkV K.E (zJ K.E (zJ K.E M.tick).2).2 13=3):
 I 111 #[F K.pm] w (yk K X w (xK K.E M) (.tuple #[])):=by
 have HE:=Ja h.alt;have m:=Ja (OpSt.start h d);have c:=Ja (Jb o hk);have l:=Ja hq;clear h d o hk hq;go_enter Tryz.func111,Tryz.ntmps111
 go_wp2_with (first
  |(go_at_call 55;refine(m.out.takeK 14 12 12 rfl c.out.2 Zd Zd (by have:=c.out.1;omega)).mono ?_;clear m;rintro e w1 ⟨rfl,k⟩)
  |(go_at_call 58;refine(k.out.any (by have:=c.out.1;omega)).mono ?_;clear k;rintro e w2 ⟨x,Hx,rfl,j⟩)
  |(go_at_call 58;refine(j.out.any (by have:=c.out.1;omega)).mono ?_;clear j;rintro e w3 ⟨y,Hy,rfl,i⟩)
  |(go_at_call 55;refine(i.out.take 13 Zd Zd (by have:=c.out.1;omega)).mono ?_;clear i;rintro e w4 ⟨z,qz,u,rfl,g⟩;have tz:((5+(z:Int))==8)=false:=by rw[beq_eq_false_iff_ne];have:=u.out;have:=l.out;omega)
  |(go_at_call 132;refine(g.out.emit (5+(z:Int)) x y 0 (vG _ Zo Zo) (Hx.out.1) (Hy.out.1) Zd (by have:=c.out.1;omega)).mono ?_;clear g;rintro e w5 ⟨rfl,t⟩))
 first|go_end0|refine bodyPost_ret (results_none rfl _ _ _) rfl ?_
 rw[mkOp_12a c.out.2 l.out]
 try rw[Hx.out.2]
 try rw[Hy.out.2]
 try rw[u.out]
 exact t.out.ret
theorem mkOp_12b{E:ME}(h:tkV E M 14=12)(hq:tkV E (zJ E (zJ E M.tick).2).2 13=3)(hp:tkV E (zJ E (zJ E M.tick).2).2.tick 8=0):xK E M=(zJ E (zJ E M.tick).2).2.tick.tick.emit ⟨8,0,(zJ E M.tick).1,(zJ E (zJ E M.tick).2).1,0,[]⟩:=by
 unfold xK;simp only[h]
 show yR E M.tick=_
 unfold yR;simp only;rw[if_pos Zo,if_neg Zo]
theorem op_12b(h:wW w K X M)(d:M.cur<M.f.length)(u:M.sz+20<=1000000)(hk:tkV K.E M 14=12)(hq:tkV K.E (zJ K.E (zJ K.E M.tick).2).2 13=3)(hp:tkV K.E (zJ K.E (zJ K.E M.tick).2).2.tick 8=0):
 I 111 #[F K.pm] w (yk K X w (xK K.E M) (.tuple #[])):=by
 have HE:=Ja h.alt;have t:=Ja (OpSt.start h d);have c:=Ja (Jb u hk);have m:=Ja hq;have o:=Ja hp;clear h d u hk hq hp;go_enter Tryz.func111,Tryz.ntmps111
 go_wp2_with (first
  |(go_at_call 55;refine(t.out.takeK 14 12 12 rfl c.out.2 Zd Zd (by have:=c.out.1;omega)).mono ?_;clear t;rintro e w1 ⟨rfl,l⟩)
  |(go_at_call 58;refine(l.out.any (by have:=c.out.1;omega)).mono ?_;clear l;rintro e w2 ⟨x,Hx,rfl,k⟩)
  |(go_at_call 58;refine(k.out.any (by have:=c.out.1;omega)).mono ?_;clear k;rintro e w3 ⟨y,Hy,rfl,j⟩)
  |(go_at_call 55;refine(j.out.takeK 13 3 3 rfl m.out Zd Zd (by have:=c.out.1;omega)).mono ?_;clear j;rintro e w4 ⟨rfl,i⟩)
  |(go_at_call 55;refine(i.out.takeK 8 0 0 rfl o.out Zd Zd (by have:=c.out.1;omega)).mono ?_;clear i;rintro e w5 ⟨rfl,g⟩)
  |(go_at_call 132;refine(g.out.emit 8 x y 0 (yF _ rfl) (Hx.out.1) (Hy.out.1) Zd (by have:=c.out.1;omega)).mono ?_;clear g;rintro e w6 ⟨rfl,a0⟩))
 first|go_end0|refine bodyPost_ret (results_none rfl _ _ _) rfl ?_
 rw[mkOp_12b c.out.2 m.out o.out]
 try rw[Hx.out.2]
 try rw[Hy.out.2]
 exact a0.out.ret
theorem mkOp_12c{E:ME}(h:tkV E M 14=12)(hq:tkV E (zJ E (zJ E M.tick).2).2 13=3)(hp:0<tkV E (zJ E (zJ E M.tick).2).2.tick 8):xK E M=((((zJ E (zJ E M.tick).2).2.tick.tick.num 1).emit ⟨10,0,(zJ E (zJ E M.tick).2).1,((zJ E (zJ E M.tick).2).2.next:Nat),0,[]⟩).emit ⟨8,0,(zJ E M.tick).1,(((zJ E (zJ E M.tick).2).2.next+1:Nat):Int),0,[]⟩):=by
 unfold xK;simp only[h]
 show yR E M.tick=_
 unfold yR;simp only;rw[if_pos Zo,if_pos Zo];rfl
theorem op_12c(h:wW w K X M)(i:M.cur<M.f.length)(hz:M.sz+20<=1000000)(hk:tkV K.E M 14=12)(hq:tkV K.E (zJ K.E (zJ K.E M.tick).2).2 13=3)(hp:0<tkV K.E (zJ K.E (zJ K.E M.tick).2).2.tick 8):
 I 111 #[F K.pm] w (yk K X w (xK K.E M) (.tuple #[])):=by
 have HE:=Ja h.alt;have a0:=Ja (OpSt.start h i);have c:=Ja (Jb hz hk);have t:=Ja hq;have u:=Ja hp;clear h i hz hk hq hp;go_enter Tryz.func111,Tryz.ntmps111
 go_wp2_with (first
  |(go_at_call 55;refine(a0.out.takeK 14 12 12 rfl c.out.2 Zd Zd (by have:=c.out.1;omega)).mono ?_;clear a0;rintro e w1 ⟨rfl,o⟩)
  |(go_at_call 58;refine(o.out.any (by have:=c.out.1;omega)).mono ?_;clear o;rintro e w2 ⟨x,Hx,rfl,m⟩)
  |(go_at_call 58;refine(m.out.any (by have:=c.out.1;omega)).mono ?_;clear m;rintro e w3 ⟨y,Hy,rfl,l⟩)
  |(go_at_call 55;refine(l.out.takeK 13 3 3 rfl t.out Zd Zd (by have:=c.out.1;omega)).mono ?_;clear l;rintro e w4 ⟨rfl,k⟩)
  |(go_at_call 55;refine(k.out.take 8 Zd Zd (by have:=c.out.1;omega)).mono ?_;clear k;rintro e w5 ⟨z,qz,Hz,rfl,g⟩;have tz:(0:Int)<(z:Int):=by have:=Hz.out;have:=u.out;omega)
  |(go_at_call 114;refine(g.out.num 1 Zo (by have:=c.out.1;omega)).mono ?_;have N1:=Ja g.out.n64;clear g;rintro e w6 ⟨rfl,d⟩)
  |(go_at_call 132;refine(d.out.emit 10 y _ 0 (yF _ rfl) (Hy.out.1) N1.out Zd (by have:=c.out.1;omega)).mono ?_;have N2:=Ja d.out.n64;clear d;rintro e w7 ⟨rfl,j⟩)
  |(go_at_call 132;refine(j.out.emit 8 x _ 0 (yF _ rfl) (Hx.out.1) N2.out Zd (by have:=c.out.1;omega)).mono ?_;clear j;rintro e w8 ⟨rfl,a1⟩))
 first|go_end0|refine bodyPost_ret (results_none rfl _ _ _) rfl ?_
 rw[mkOp_12c c.out.2 t.out u.out]
 try rw[Hx.out.2]
 try rw[Hy.out.2]
 try rw[Hz.out]
 exact a1.out.ret
theorem mkOp_13a{E:ME}(h:tkV E M 14=13)(hq:¬tkV E (zJ E (zJ E M.tick).2).2 13=3):xK E M=(zJ E (zJ E M.tick).2).2.tick.emit ⟨((5+tkV E (zJ E (zJ E M.tick).2).2 13:Nat):Int),0,(zJ E M.tick).1,(zJ E (zJ E M.tick).2).1,0,[]⟩:=by
 unfold xK;simp only[h]
 show yR E M.tick=_
 unfold yR;simp only;rw[if_neg Zo]
theorem op_13a(h:wW w K X M)(d:M.cur<M.f.length)(o:M.sz+20<=1000000)(hk:tkV K.E M 14=13)(hq:¬tkV K.E (zJ K.E (zJ K.E M.tick).2).2 13=3):
 I 111 #[F K.pm] w (yk K X w (xK K.E M) (.tuple #[])):=by
 have HE:=Ja h.alt;have m:=Ja (OpSt.start h d);have c:=Ja (Jb o hk);have l:=Ja hq;clear h d o hk hq;go_enter Tryz.func111,Tryz.ntmps111
 go_wp2_with (first
  |(go_at_call 55;refine(m.out.takeK 14 13 13 rfl c.out.2 Zd Zd (by have:=c.out.1;omega)).mono ?_;clear m;rintro e w1 ⟨rfl,k⟩)
  |(go_at_call 58;refine(k.out.any (by have:=c.out.1;omega)).mono ?_;clear k;rintro e w2 ⟨x,Hx,rfl,j⟩)
  |(go_at_call 58;refine(j.out.any (by have:=c.out.1;omega)).mono ?_;clear j;rintro e w3 ⟨y,Hy,rfl,i⟩)
  |(go_at_call 55;refine(i.out.take 13 Zd Zd (by have:=c.out.1;omega)).mono ?_;clear i;rintro e w4 ⟨z,qz,u,rfl,g⟩;have tz:((5+(z:Int))==8)=false:=by rw[beq_eq_false_iff_ne];have:=u.out;have:=l.out;omega)
  |(go_at_call 132;refine(g.out.emit (5+(z:Int)) x y 0 (vG _ Zo Zo) (Hx.out.1) (Hy.out.1) Zd (by have:=c.out.1;omega)).mono ?_;clear g;rintro e w5 ⟨rfl,t⟩))
 first|go_end0|refine bodyPost_ret (results_none rfl _ _ _) rfl ?_
 rw[mkOp_13a c.out.2 l.out]
 try rw[Hx.out.2]
 try rw[Hy.out.2]
 try rw[u.out]
 exact t.out.ret
theorem mkOp_13b{E:ME}(h:tkV E M 14=13)(hq:tkV E (zJ E (zJ E M.tick).2).2 13=3)(hp:tkV E (zJ E (zJ E M.tick).2).2.tick 8=0):xK E M=(zJ E (zJ E M.tick).2).2.tick.tick.emit ⟨8,0,(zJ E M.tick).1,(zJ E (zJ E M.tick).2).1,0,[]⟩:=by
 unfold xK;simp only[h]
 show yR E M.tick=_
 unfold yR;simp only;rw[if_pos Zo,if_neg Zo]
theorem op_13b(h:wW w K X M)(d:M.cur<M.f.length)(u:M.sz+20<=1000000)(hk:tkV K.E M 14=13)(hq:tkV K.E (zJ K.E (zJ K.E M.tick).2).2 13=3)(hp:tkV K.E (zJ K.E (zJ K.E M.tick).2).2.tick 8=0):
 I 111 #[F K.pm] w (yk K X w (xK K.E M) (.tuple #[])):=by
 have HE:=Ja h.alt;have t:=Ja (OpSt.start h d);have c:=Ja (Jb u hk);have m:=Ja hq;have o:=Ja hp;clear h d u hk hq hp;go_enter Tryz.func111,Tryz.ntmps111
 go_wp2_with (first
  |(go_at_call 55;refine(t.out.takeK 14 13 13 rfl c.out.2 Zd Zd (by have:=c.out.1;omega)).mono ?_;clear t;rintro e w1 ⟨rfl,l⟩)
  |(go_at_call 58;refine(l.out.any (by have:=c.out.1;omega)).mono ?_;clear l;rintro e w2 ⟨x,Hx,rfl,k⟩)
  |(go_at_call 58;refine(k.out.any (by have:=c.out.1;omega)).mono ?_;clear k;rintro e w3 ⟨y,Hy,rfl,j⟩)
  |(go_at_call 55;refine(j.out.takeK 13 3 3 rfl m.out Zd Zd (by have:=c.out.1;omega)).mono ?_;clear j;rintro e w4 ⟨rfl,i⟩)
  |(go_at_call 55;refine(i.out.takeK 8 0 0 rfl o.out Zd Zd (by have:=c.out.1;omega)).mono ?_;clear i;rintro e w5 ⟨rfl,g⟩)
  |(go_at_call 132;refine(g.out.emit 8 x y 0 (yF _ rfl) (Hx.out.1) (Hy.out.1) Zd (by have:=c.out.1;omega)).mono ?_;clear g;rintro e w6 ⟨rfl,a0⟩))
 first|go_end0|refine bodyPost_ret (results_none rfl _ _ _) rfl ?_
 rw[mkOp_13b c.out.2 m.out o.out]
 try rw[Hx.out.2]
 try rw[Hy.out.2]
 exact a0.out.ret
theorem mkOp_13c{E:ME}(h:tkV E M 14=13)(hq:tkV E (zJ E (zJ E M.tick).2).2 13=3)(hp:0<tkV E (zJ E (zJ E M.tick).2).2.tick 8):xK E M=((((zJ E (zJ E M.tick).2).2.tick.tick.num 1).emit ⟨10,0,(zJ E (zJ E M.tick).2).1,((zJ E (zJ E M.tick).2).2.next:Nat),0,[]⟩).emit ⟨8,0,(zJ E M.tick).1,(((zJ E (zJ E M.tick).2).2.next+1:Nat):Int),0,[]⟩):=by
 unfold xK;simp only[h]
 show yR E M.tick=_
 unfold yR;simp only;rw[if_pos Zo,if_pos Zo];rfl
theorem op_13c(h:wW w K X M)(i:M.cur<M.f.length)(hz:M.sz+20<=1000000)(hk:tkV K.E M 14=13)(hq:tkV K.E (zJ K.E (zJ K.E M.tick).2).2 13=3)(hp:0<tkV K.E (zJ K.E (zJ K.E M.tick).2).2.tick 8):
 I 111 #[F K.pm] w (yk K X w (xK K.E M) (.tuple #[])):=by
 have HE:=Ja h.alt;have a0:=Ja (OpSt.start h i);have c:=Ja (Jb hz hk);have t:=Ja hq;have u:=Ja hp;clear h i hz hk hq hp;go_enter Tryz.func111,Tryz.ntmps111
 go_wp2_with (first
  |(go_at_call 55;refine(a0.out.takeK 14 13 13 rfl c.out.2 Zd Zd (by have:=c.out.1;omega)).mono ?_;clear a0;rintro e w1 ⟨rfl,o⟩)
  |(go_at_call 58;refine(o.out.any (by have:=c.out.1;omega)).mono ?_;clear o;rintro e w2 ⟨x,Hx,rfl,m⟩)
  |(go_at_call 58;refine(m.out.any (by have:=c.out.1;omega)).mono ?_;clear m;rintro e w3 ⟨y,Hy,rfl,l⟩)
  |(go_at_call 55;refine(l.out.takeK 13 3 3 rfl t.out Zd Zd (by have:=c.out.1;omega)).mono ?_;clear l;rintro e w4 ⟨rfl,k⟩)
  |(go_at_call 55;refine(k.out.take 8 Zd Zd (by have:=c.out.1;omega)).mono ?_;clear k;rintro e w5 ⟨z,qz,Hz,rfl,g⟩;have tz:(0:Int)<(z:Int):=by have:=Hz.out;have:=u.out;omega)
  |(go_at_call 114;refine(g.out.num 1 Zo (by have:=c.out.1;omega)).mono ?_;have N1:=Ja g.out.n64;clear g;rintro e w6 ⟨rfl,d⟩)
  |(go_at_call 132;refine(d.out.emit 10 y _ 0 (yF _ rfl) (Hy.out.1) N1.out Zd (by have:=c.out.1;omega)).mono ?_;have N2:=Ja d.out.n64;clear d;rintro e w7 ⟨rfl,j⟩)
  |(go_at_call 132;refine(j.out.emit 8 x _ 0 (yF _ rfl) (Hx.out.1) N2.out Zd (by have:=c.out.1;omega)).mono ?_;clear j;rintro e w8 ⟨rfl,a1⟩))
 first|go_end0|refine bodyPost_ret (results_none rfl _ _ _) rfl ?_
 rw[mkOp_13c c.out.2 t.out u.out]
 try rw[Hx.out.2]
 try rw[Hy.out.2]
 try rw[Hz.out]
 exact a1.out.ret
theorem op_any(h:wW w K X M)(c:M.cur<M.f.length)(d:M.sz+20<=1000000):
 I 111 #[F K.pm] w (yk K X w (xK K.E M) (.tuple #[])):=by
 have i:=aaE K.E M (n:=14) Zo;have h3:=aaE K.E M.tick (n:=3) Zo;obtain⟨k,hk⟩:∃k,tkV K.E M 14=k:=⟨_,rfl⟩
 rw[hk] at i
 have l:∀j,j=11∨j=12∨j=13->k=j->I 111 #[F K.pm] w (yk K X w (xK K.E M) (.tuple #[])):=fun j hj e=>by
  by_cases hq:tkV K.E (zJ K.E (zJ K.E M.tick).2).2 13=3
  ·by_cases hp:0<tkV K.E (zJ K.E (zJ K.E M.tick).2).2.tick 8
   ·rcases hj with rfl|rfl|rfl
    ·exact op_11c h c d (hk.trans e) hq hp
    ·exact op_12c h c d (hk.trans e) hq hp
    ·exact op_13c h c d (hk.trans e) hq hp
   ·have g:tkV K.E (zJ K.E (zJ K.E M.tick).2).2.tick 8=0:=Zo;rcases hj with rfl|rfl|rfl
    ·exact op_11b h c d (hk.trans e) hq g
    ·exact op_12b h c d (hk.trans e) hq g
    ·exact op_13b h c d (hk.trans e) hq g
  ·rcases hj with rfl|rfl|rfl
   ·exact op_11a h c d (hk.trans e) hq
   ·exact op_12a h c d (hk.trans e) hq
   ·exact op_13a h c d (hk.trans e) hq
 match k,i with
 |0,_=>exact op_0 h c d hk
 |1,_=>exact op_1 h c d hk
 |2,_=>exact op_2 h c d hk
 |3,_=>exact op_3 h c d hk
 |4,_=>exact op_4 h c d hk
 |5,_=>exact op_5 h c d hk
 |6,_=>exact op_6 h c d hk
 |7,_=>exact op_7 h c d hk
 |8,_=>exact op_8 h c d hk
 |9,_=>exact op_9 h c d hk
 |10,_=>
  by_cases hq:tkV K.E M.tick 3=0
  ·exact op_10a h c d hk hq
  ·exact op_10b h c d hk hq
 |11,_=>exact l 11 Zo rfl
 |12,_=>exact l 12 Zo rfl
 |13,_=>exact l 13 Zo rfl
 |k+14,h=>exact absurd h Zo
theorem own_take{S:Nat}{e:TypeId}{a:Option Addr}{n:Nat}{xs:List Value}(h:w.ownsRow S e 1 (.slice a n c) n xs)(hk:k<=n):w.ownsRow S e 1 (.slice a k c) k (xs.take k):=by
 obtain⟨h1,h2⟩:=h;refine⟨by rw[Oc,h1];omega,?_⟩;rcases h2 with⟨h3,d⟩|⟨g,o,cur,h3,d,m,t,l,j,i⟩
 ·cases h3;left;have:k=0:=Zo;subst this;exact⟨rfl,rfl⟩
 ·cases h3;refine .inr ⟨g,_,cur,rfl,d,m,by omega,l,j,?_⟩;rw[<-i,List.take_take]
  congr 1
  omega
def toL (tg n:Nat):List (IEdge×Value):=(List.range n).map fun k=>(⟨((tg+k:Nat):Int),[]⟩,L)
theorem toL_succ (tg n:Nat):toL tg (n+1)=toL tg n++ [(⟨((tg+n:Nat):Int),[]⟩,.slice none 0 0)]:=by unfold toL;rw[List.range_succ,Js];rfl
theorem toL_len (tg n:Nat):(toL tg n).length=n:=by unfold toL;simp
theorem toL_fst (tg n:Nat):(toL tg n).map (·.1)=xk tg n:=by unfold toL xk;rw[List.map_map];rfl
structure ToMid (w:World) (K:MKC) (X:Nat->Prop) (M:MS) (tv:Value) (j:Nat) (wx:World):Prop where
 own:wx.ownsRow w.heap.size 79 2 tv j ((toL M.f.length j).flatMap za)
 made:∃Xj,wW wx (K.withZ fun k=>K.Z k∨tv.ownBlock=some k) Xj (xE j M)/\Stp X w Xj wx
theorem ToMid.start(h:wW w K X M):ToMid w K X M (L) 0 w:=by
 refine⟨Jv _ _ _ _,X,?_,Stp.refl _ _⟩;obtain⟨fv,vv,l,h⟩:=h;exact⟨fv,vv,l,h.off (Je _) ⟨rfl,rfl,rfl⟩ (fun _ _ _=>rfl) (fun k e=>e.elim .inl (fun e=>by simp[Value.ownBlock] at e)) (fun k e=>e.elim (h.env.zl k) (fun e=>by simp[Value.ownBlock] at e))⟩
theorem ToMid.next{tv d:Value}(h:ToMid w K X M tv j wx)(h2:wW w2 (K.withZ fun k=>K.Z k∨tv.ownBlock=some k) X2 (xE (j+1) M))(c:Stp X w X2 w2)(m:w2.ownsRow w.heap.size 79 2 tv j ((toL M.f.length j).flatMap za))
 (u:∀k,X k->k<w.heap.size) (hB:K.B<=w.heap.size) (hg:(w2.alloc o).grownBy w3 tv.ownBlock) (i:w3.ownsRow w.heap.size 79 2 d (j+1) ((toL M.f.length j).flatMap za++za (⟨((M.f.length+j:Nat):Int),[]⟩,L))) (t:∀k,d.ownBlock=some k->tv.ownBlock=some k∨w2.heap.size<=k):ToMid w K X M d (j+1) w3:=by
 obtain⟨fv,vv,l,h2⟩:=h2;have g:w2.heap.size<=w3.heap.size:=by have:=hg.size;simp at this;omega
 have hk:∀k,k<w2.heap.size->tv.ownBlock≠some k->w3.heap[k]? =w2.heap[k]?:=fun k hk hne=>(hg.block k Zt (fun e=>hne e.symm)).trans (Below.heap_alloc w2 o k hk)
 refine⟨?_,X2,⟨fv,vv,l,h2.off (K:=K.withZ fun k=>K.Z k∨tv.ownBlock=some k) g ⟨hg.os,hg.tape,hg.output⟩ (fun k hk' hz=>hk k hk' (fun e=>by have h1:k<K.B:=hz (.inr e);have:=(m.lt k e).1;omega)) (fun k e=>e.elim (fun e=> .inl (.inl e)) (fun e=>(t k e).elim (fun e=> .inl (.inr e)) .inr)) (fun k e=>e.elim (fun e=>Jy (h2.env.zl k (.inl e)) g) (fun e=>(i.lt k e).2))⟩,?_⟩
 ·rw[toL_succ,Nx];exact i
 ·refine⟨hg.os.trans c.os,hg.tape.trans c.tape,hg.output.trans c.output,Jn c.size g,c.new,fun k hk' hx'=>(hk k (Jy hk' c.size) (fun e=>?_)).trans (c.kept k hk' hx')⟩;have:=(m.lt k e).1;omega
theorem ToMid.done{tv:Value}(h:ToMid w K X M tv j wx)(d:∀k,K.Z k->k<w.heap.size)(g:M.f.length+j<=1000000):∃Xj,wW wx K Xj (xE j M)/\Stp X w Xj wx/\vT wx (K.av Xj) tv (xk M.f.length j):=by
 obtain⟨Xj,⟨fv,vv,l,hm⟩,hs⟩:=h.made;refine⟨Xj,⟨fv,vv,l,hm.off (Z2:=K.Z) (Je _) ⟨rfl,rfl,rfl⟩ (fun _ _ _=>rfl) (fun k e=> .inl (.inl e)) (fun k e=>hm.env.zl k (.inl e))⟩,hs,?_⟩;rw[<-toL_fst];refine ld (by rw[toL_len];exact h.own) (fun q hq=>?_) (fun k e hx=>hx.elim (fun e2=>hm.env.zx k e2 (.inr e)) (fun e2=>?_))
 ·unfold toL at hq;obtain⟨m,c,rfl⟩:=Nu.1 hq;have:=Ol.1 c;exact⟨vG _ (by show -1000000<=((M.f.length+m:Nat):Int);omega) (by show((M.f.length+m:Nat):Int)<=1000000;omega),yE.nil⟩
 ·have:=(h.own.lt k e).1;have:=d k e2;omega
theorem pj{blk:Int}(d:∀x∈xs,I64 x)(hl:xs.length<=1000)(hb:I64 blk)(X:Nat->Prop)(c:∀k,X k->k<w.heap.size):
 vT ((w.alloc (G (xs.map fun x=>U x).toArray 3)).alloc (G #[U blk,T w.heap.size xs.length xs.length] 79)) X (T (w.heap.size+1) 1 1) [⟨blk,xs⟩]:=by
 refine qt (l:=[((⟨blk,xs⟩:IEdge),T w.heap.size xs.length xs.length)]) (e:=79) (zI Zs) (fun e=>by have:=c _ e;omega) (fun q hq=>?_) Zs;rw[Jo] at hq;subst hq;exact⟨hb,ki (zB (zI rfl)) (fun e=>by have:=c _ e;omega) d Zo⟩
theorem edgeCell{v:Value}{xs:List IEdge}{a:Option Addr}{n:Nat}(h:vT w X v xs)(hv:v=.slice a n c){x:IEdge}(d:xs[k]? =some x):∃b o,a=some ⟨b,o,none⟩/\A w b (o+k*2) (U x.block):=by
 subst hv;obtain⟨a',c',e,_,_,h3⟩:=h;cases e;obtain⟨b,o,i,_,_,g,_⟩:=h3 k x d;exact⟨b,o,i,g⟩
theorem aiM{n:Nat}(h:k<n):(xk tg n)[k]? =some ⟨((tg+k:Nat):Int),[]⟩:=by unfold xk;rw[Jr,Oh h];rfl
theorem MkIn.cut{fv:Value}{a:Option Addr}{n:Nat}(h:MkIn w K X M fv (.slice a n c) l)(hk:k<=M.vals.length):
 MkIn (w.setCell ⟨K.pm,7,none⟩ (.slice a k c)) K X {M with vals:=M.vals.take k } fv (.slice a k c) l/\Stp X w X (w.setCell ⟨K.pm,7,none⟩ (.slice a k c)):=by
 have hv:=h.vown;obtain⟨a',c',e⟩:=zG hv;cases e;have d:(M.vals.take k).length=k:=by rw[Oc];omega
 refine h.setC 7 _ {M with vals:=M.vals.take k } (.slice a k c) rfl rfl ?_ (fun x hx=>h.v64 x (List.mem_of_mem_take hx)) ?_ ?_ h.lft
 ·show w.ownsRow K.B 3 1 (.slice a k c) (M.vals.take k).length ((M.vals.take k).map zN)
  rw[d,List.map_take];exact own_take hv hk
 ·intro j e;refine h.xv j ?_
  cases a with
  |none=>cases e
  |some a=>exact e
 ·have:=h.bnd;unfold MS.sz at this ⊢;simp only[d];omega
theorem MkIn.goto{fv:Value}(h:MkIn w K X M fv vv l)(k:Nat):
 MkIn (w.setCell ⟨K.pm,5,none⟩ (U k)) K X {M with cur:=k } fv vv l/\Stp X w X (w.setCell ⟨K.pm,5,none⟩ (U k)):=
 h.setC 5 _ {M with cur:=k } vv rfl rfl h.vown h.v64 h.xv h.bnd h.lft
theorem MkIn.parAt{fv:Value}(h:MkIn w K X M fv vv l){i:Nat}{b:IBlk}(hb:M.f[i]? =some b):
 ∃g c pa pc,fv=T g l.length c/\g<w.heap.size/\A w g (i*5) (.slice pa b.params.length pc)/\∀k x,b.params[k]? =some x->∃bb o,pa=some ⟨bb,o,none⟩/\bb<w.heap.size/\A w bb (o+k) (U x)/\I64 x:=by
 obtain⟨q,hq,rfl,t⟩:=h.getB hb;obtain⟨g,c,d,a1,u,a0⟩:=h.fblk hq;have j:=wb yr h.own (by rw[d];rfl) hq;have e0:A w g (i*5) q.pv:=j 0 _ rfl;obtain⟨pa,pc,m,h1,h2,h3⟩:=t.par;refine⟨g,c,pa,pc,d,u,by rw[e0,m],fun k x hx=>?_⟩;obtain⟨bb,o,h4,h5,h6,y,h8⟩:=h3 k x hx;rw[Nk] at y;exact⟨bb,o,h4,h5,y,h8⟩
theorem Tryz.info_edge:(Tryz.prog.info? 79).map (fun i=>(i.zero,i.size,i.bytes))=some (some (.agg #[U 0,.slice none 0 0]),2,32):=by kernel_rfl
def sU (d:Nat):Prop:=∀(w:World) (K:MKC) (X:Nat->Prop) (M:MS),wW w K X M->M.cur<M.f.length->M.sz+pC d<=1000000->
 I 57 #[F K.pm,U d] w (yk K X w (zp K.E d M) (.tuple #[]))
theorem OpSt.part{X0:Nat->Prop}{M0:MS}(h:OpSt w0 K X0 M0 c w M)(j:sU d)(k:M0.sz+(c+pC d)<=1000000):
 I 57 #[F K.pm,U d] w fun e w'=>e=.returned (.tuple #[])/\Hid (OpSt w0 K X0 M0 (c+pC d) w' (zp K.E d M)):=by
 obtain⟨X,hm,hs⟩:=h.made;refine(j w K X M hm h.cur (by have:=h.gr.sz;omega)).mono ?_;rintro e w' ⟨rfl,X',i,g⟩;have hg:=xw K.E hm.alt d M;exact⟨rfl,Ja ⟨⟨X',i,hs.trans g⟩,h.gr.trans hg,hg.cur h.cur⟩⟩
structure ArmMid (w:World) (K:MKC) (X:Nat->Prop) (M:MS) (d tg join n j:Nat) (wx:World) (Mj:MS):Prop where
 made:∃Xj,wW wx K Xj Mj/\Stp X w Xj wx
 rest:uV K.E (zp K.E d) tg join M.vals.length n 0 M=uV K.E (zp K.E d) tg join M.vals.length (n-j) j Mj
 vals:Mj.vals=M.vals
 gr:GrowP (j*(pC d+5)) M Mj
theorem ArmMid.next{Xj:Nat->Prop}{Mj:MS}{n:Nat}(h:ArmMid w K X M d tg c n j wx Mj)(l:j<n)(hs:Stp X w Xj wx)(hf:tg+n<M.f.length)
 (h2:∃X2,wW w2 K X2 {wM K.E c j (zp K.E d {Mj with cur:=tg+j }) with vals:=(wM K.E c j (zp K.E d {Mj with cur:=tg+j })).vals.take M.vals.length }/\Stp Xj wx X2 w2):
 ArmMid w K X M d tg c n (j+1) w2 {wM K.E c j (zp K.E d {Mj with cur:=tg+j }) with vals:=(wM K.E c j (zp K.E d {Mj with cur:=tg+j })).vals.take M.vals.length }:=by
 obtain⟨X2,g,i⟩:=h2;have k:=g.alt;have h1:=((vk Mj (tg+j) (by have:=h.gr.len;omega)).trans ((xw K.E k d _).trans (su K.E c j (zp K.E d {Mj with cur:=tg+j })))).mono (show 0+(pC d+5)<=pC d+5 by omega);have h3:=sY h1;have hl:Mj.vals.length=M.vals.length:=by rw[h.vals]
 rw[hl] at h3;refine⟨⟨X2,g,hs.trans i⟩,?_,?_,?_⟩
 ·rw[h.rest,show n-j=(n-(j+1))+1 by omega,rg]
 ·have:=uF h1.pre;rw[hl] at this;exact this.trans h.vals
 ·have:=h.gr.trans h3;rw[Nat.succ_mul];exact this
theorem lH(hd:d<=5)(hP:sU d)(h:wW w K X M)(d0:M.cur<M.f.length){n:Nat}(r5:2<=n)(o2:n<=4)(hz:M.sz+(31+4*pC d)<=1000000):
 I 112 #[F K.pm,U ((d:Int)+1),U n] w (yk K X w (xi K.E (zp K.E d) n M) (.tuple #[])):=by
 have HA:=Ja (OpSt.start h d0);have HZ:=Ja (Jb hz hP);have q1:=Ja d0
 have k9:K.B<=w.heap.size/\(∀k,K.Z k->k<w.heap.size):=by
  obtain⟨fv,vv,l,hi⟩:=h;exact⟨hi.size,hi.env.zl⟩
 have s6:=Ja k9;clear h d0 hz hP k9;go_enter Tryz.func112,Tryz.ntmps112;go_upto_region 1 with(go_at_call 58;go_must (refine(HA.out.any (by have:=HZ.out.1;omega)).mono ?_;rintro e w1 ⟨x,HX,rfl,c0⟩))
 obtain⟨M1,i1⟩:∃M1,(zJ K.E M).2=M1:=⟨_,rfl⟩
 rw[i1] at c0;obtain⟨X1,f9,k6⟩:=c0.out.made;have m3:=c0.out.gr.sz
 have k3:(∀k,X1 k->k<w1.heap.size)/\K.B<=w1.heap.size/\(∀k,K.Z k->k<w1.heap.size)/\M1.f.length<=999900:=by
  obtain⟨fv,vv,l,hi⟩:=f9;refine⟨hi.xl,hi.size,hi.env.zl,?_⟩;have h1:M1.f.length<=M1.sz:=by unfold MS.sz;omega
  have h2:=HZ.out.1;have h3:pC d≥101:=by cases d<;>unfold pC<;>omega
  omega
 have p8:=Ja (ToMid.start f9);have H1:=Ja (Jb k6 (Jb k3 i1));clear f9 k6 m3 k3 i1 HA;go_wp2
 go_loopw [7,8] (fun tv kv wx=>∃(j:Nat) (ta:Option Addr) (tc:Nat),j<=n/\tv=.slice ta j tc/\kv=U j/\Hid (ToMid w1 K X1 M1 (.slice ta j tc) j wx)) (fun _ kv _=>n-(intOf kv).toNat)
 case atStart=>exact⟨0,none,0,Jt _,rfl,rfl,p8⟩
 case round=>
  obtain⟨j,ta,tc,hj,rfl,rfl,HT⟩:=hrel
  by_cases a3:j<n
  ·have b5:(j:Int)<(n:Int):=Zo;obtain⟨Xj,f4,f0⟩:=HT.out.made;have d1:=rU f4 (n:=0) (by have h1:=(vW j M1).sz;have h2:=c0.out.gr.sz;have h3:=HZ.out.1;omega);rw[tB] at d1
   have g4:∀(w4:World) (X4:Nat->Prop),Stp Xj wr X4 w4->w4.ownsRow w1.heap.size 79 2 (.slice ta j tc) j ((toL M1.f.length j).flatMap za):=fun w4 X4 b7=>yD HT.out.own (fun k e=>b7.kept k (HT.out.own.lt k e).2 (fun e2=>by
    obtain⟨fv,vv,l,hi⟩:=f4
    exact hi.env.zx k e2 (.inr e)))
   obtain⟨ij,g3,c8,c3,c2⟩:=info_parts Tryz.info_edge;have HN:=Ja (Jb d1 (Jb f0 (Jb g4 a3)));have q8:=f0.size;clear f4 f0 d1 g4 a3;go_wp2_with (first|(go_at_call 56;go_must (refine HN.out.1.mono ?_;rintro e w4 ⟨rfl,X4,o4,b7⟩;have k7:=HN.out.2.2.1 w4 X4 b7;have q9:=b7.size;have m4:yM (w4.alloc (G #[U ((M1.f.length+j:Nat):Int),L] 79)) 2 (T w4.heap.size 1 1) 1 (za (⟨((M1.f.length+j:Nat):Int),[]⟩,L)):=yM.cells (zI rfl) rfl (by simp[za,Value.oneCell'])))|(at_builtin;go_must (refine zK _ rfl (.tmp 20) (.tmp 24) 80 rfl w1.heap.size 79 ij (.agg #[U 0,L]) 2 32 Tryz.underlying80 g3 c8 c3 c2 rfl Zd (.slice ta j tc) j ((toL M1.f.length j).flatMap za) rfl (k7.alloc _) _ 1 (za (⟨((M1.f.length+j:Nat):Int),[]⟩,L)) rfl m4 (by unfold maxLen;omega) Zo Zt ?_;intro v9 w9 a0 a1 d7)))
   obtain⟨n8,n7,rfl⟩:=zG a0;go_roundw
   case rel=>
    refine⟨j+1,n8,n7,HN.out.2.2.2,rfl,by go_num,Ja (HT.out.next o4 (HN.out.2.1.trans b7) k7 H1.out.2.1.1 H1.out.2.1.2.1 a1 a0 (fun k e=>?_))⟩;rcases d7 with e2|e2
    ·exact .inl (by rw[<-e2];exact e)
    ·right;have e3:=e2.symm.trans e;simp at e3;omega
   case measure=>have:=HN.out.2.2.2;simp[intOf];omega
  ·obtain rfl:j=n:=by omega
   have b5:¬(j:Int)<(j:Int):=Zo;obtain⟨X2,f8,k5,g9⟩:=HT.out.done H1.out.2.1.2.2.1 (by have:=H1.out.2.1.2.2.2;omega);have a5:=c0.out.gr.trans (vW j M1);have b0:=tB j M1;obtain⟨tg,e9⟩:∃tg,M1.f.length=tg:=⟨_,rfl⟩
   rw[e9] at b0 g9;obtain⟨M2,i0⟩:∃M2,xE j M1=M2:=⟨_,rfl⟩
   rw[i0] at f8 a5 b0;have q3:=Ja (OpSt.start f8 (a5.cur q1.out));have k1:=a5.sz;have a6:=q3.out.block 1 (by have:=HZ.out.1;omega);rw[b0] at a6;obtain⟨jn,g2⟩:∃jn,tg+j=jn:=⟨_,rfl⟩
   rw[g2] at a6;have H2:=Ja (Jb (H1.out.1.trans k5) (Jb g9 (Jb k1 (Jb i0 (Jb e9 (Jb g2 (Jb b0 a5)))))));have n6:=Ja a6;clear f8 k5 g9 a5 b0 i0 e9 k1 a6 g2 HT;go_upto_region 7 with(go_at_call 56;go_must (refine n6.out.mono ?_;rintro e w3 ⟨rfl,q0⟩))
   obtain⟨kd,b8⟩:∃kd:Int,(if 2<j then 3 else 2)=kd:=⟨_,rfl⟩
   have d5:I64 kd:=by rw[<-b8];split<;>exact yF _ rfl
   have g0:2<j->kd=3:=fun e=>by rw[<-b8,if_pos e]
   have g1:¬2<j->kd=2:=fun e=>by rw[<-b8,if_neg e]
   have e5:=Ja (Jb b8 (Jb d5 (Jb g0 g1)));clear b8 d5 g0 g1
   go_upto_if 32 with fail
   go_cut [] (fun wx=>Hid (Y w3 wx/\Q wx w3.heap.size #[U kd,U x,.slice ta j tc] 82))
   case first=>
    by_cases h3:2<j
    ·have o9:(2:Int)<(j:Int):=Zo;have hk:=e5.out.2.2.1 h3;subst hk;go_wp2;go_meet;exact Ja ⟨(Below.refl _ _).alloc (Je _) _,zI rfl⟩
    ·have o9:¬(2:Int)<(j:Int):=Zo;have hk:=e5.out.2.2.2 h3;subst hk;go_wp2;go_meet;exact Ja ⟨(Below.refl _ _).alloc (Je _) _,zI rfl⟩
   case rest=>
   obtain⟨l7,d3⟩:=hcut.out;have t0:=zA (i:=0) d3 rfl;have t1:=zA (i:=1) d3 rfl;have t2:=zA (i:=2) d3 rfl;have n5:=Ja ((q0.out.below l7).endB kd x (xk tg j) (.slice ta j tc) e5.out.2.1 HX.out.1 (fun X hm hs=>H2.out.2.1.step yq (hs.av K)));clear l7 d3 hcut;go_upto_region 11 with(go_at_call 59;go_must (refine n5.out.mono ?_;rintro e w5 ⟨rfl,i9⟩))
   obtain⟨M3,d9⟩:∃M3,(M2.block 1).endB ⟨kd,x,xk tg j⟩=M3:=⟨_,rfl⟩
   rw[d9] at i9;obtain⟨X5,f6,f1⟩:=i9.out.made;have g6:=H2.out.2.1.step yq (f1.av K);have n0:∃m0 vv5 l5,MkIn w5 K X5 M3 m0 vv5 l5:=f6;obtain⟨m0,vv5,l5,d6⟩:=n0;have c7:=d6.c7;obtain⟨va5,vc5,e6⟩:=zG d6.vown;rw[e6] at c7;have m5:=lt_of_block d6.blk;have d4:M3.f.length=jn+1:=by rw[<-d9,(zv _ _).len,yz,<-H2.out.2.2.2.2.2.1];have:=H2.out.2.2.2.2.2.2.1;omega
   have k0:M3.sz<=M.sz+(6+j):=by have:=i9.out.gr.sz;have:=H2.out.2.2.1;omega
   have k2:6+j+j*(pC d+5)+1<=31+4*pC d:=by have:=Qw (pC d+5) o2;omega
   have H5:=Ja (Jb (H2.out.1.trans f1) (Jb g6 (Jb d9 (Jb d4 (Jb k0 k2)))));have q4:=Ja (show ArmMid w5 K X5 M3 d tg jn j 0 w5 M3 from⟨⟨X5,f6,Stp.refl _ _⟩,rfl,rfl,(GrowP.refl _).mono (Jt _)⟩);clear f6 f1 g6 d6 d9 d4 k0 k2 e6 t0 t1 t2;go_wp2;clear c7 m5
   go_loopw [12] (fun kv wx=>∃(i:Nat) (Mi:MS),i<=j/\kv=U i/\Hid (ArmMid w5 K X5 M3 d tg jn j i wx Mi)) (fun kv _=>j-(intOf kv).toNat)
   case atStart=>exact⟨0,M3,Jt _,rfl,q4⟩
   case round=>
    obtain⟨i,Mi,hi,rfl,a2⟩:=hrel;obtain⟨Xi,o3,b6⟩:=a2.out.made;obtain⟨fv,vv,l,u⟩:=o3
    by_cases a3:i<j
    ·have b5:(i:Int)<(j:Int):=Zo;have g5:=H5.out.2.1.step yq (b6.av K);obtain⟨eb,eo,o0,l1⟩:=edgeCell g5 rfl (aiM a3);obtain⟨ti,e8⟩:∃ti,tg+i=ti:=⟨_,rfl⟩
     simp only[e8] at l1;have f5:=u.free 5;have f2:=lt_of_block u.blk;have c5:=u.c5;have b9:=u.goto ti;have n9:Mi.sz<=M3.sz+i*(pC d+5):=a2.out.gr.sz;have m7:i*(pC d+5)+(pC d+5)<=j*(pC d+5):=by have:=Qw (pC d+5) a3;rw[Nat.succ_mul] at this;exact this
     have l6:Mi.sz+(pC d+5)<=1000000:=by have h1:=HZ.out.1;have h2:=H5.out.2.2.2.2.1;have h3:=H5.out.2.2.2.2.2;omega
     have l2:ti<Mi.f.length:=by have h1:=a2.out.gr.len;have h2:=H5.out.2.2.2.1;have h3:=H2.out.2.2.2.2.2.1;omega
     have p5:=Ja e8;have m:=Ja (Jb b6 (Jb b9 (Jb l6 l2)));subst o0;clear e8 u b6 g5 b9 n9 m7 l6 l2;go_upto_region 16 with fail;generalize h8:wr.setCell ⟨K.pm,5,none⟩ (U ti)=W6 at *;obtain⟨M6,d8⟩:∃M6:MS,{Mi with cur:=ti }=M6:=⟨_,rfl⟩
     have j5:M6.sz+(pC d+5)<=1000000:=by rw[<-d8];exact m.out.2.2.1
     have l8:OpSt W6 K Xi M6 0 W6 M6:=by rw[<-d8];exact OpSt.start m.out.2.1.1.at m.out.2.2.2
     have b3:=Ja (Jb (l8.part HZ.out.2 Zo) (Jb d8 j5));have r3:IntKind.i64.wrap ((d:Int)+1-1)=(d:Int):=by rw[Om _ Zo];omega
     clear d8 j5 l8 h8 c5 f5 l1;go_upto_region 17 with(go_at_call 57;go_must (refine b3.out.1.mono ?_;rintro e w7 ⟨rfl,i8⟩))
     obtain⟨M7,h9⟩:∃M7,zp K.E d M6=M7:=⟨_,rfl⟩
     rw[h9] at i8;have n4:=Ja h9;clear h9
     go_cut [65] (fun v wx=>∃bb:Bool,v=.bool bb/\(bb=true↔(tkV K.E M7 12=11/\0<i))/\Hid (OpSt W6 K Xi M6 (0+pC d+1) wx M7.tick))
     case first=>
      by_cases ht:tkV K.E M7 12=11
      ·have e4:=Ja (i8.out.takeK 12 11 11 rfl ht Zd Zd (by have:=b3.out.2.2;omega));have HT:=Ja ht;clear ht
       by_cases h0:0<i
       ·have p0:(0:Int)<(i:Int):=Zo;go_wp2_with (go_at_call 55;go_must (refine e4.out.mono ?_;rintro e w8 ⟨rfl,a7⟩))
        go_meet;exact⟨true,rfl,⟨fun _=>⟨HT.out,h0⟩,fun _=>rfl⟩,a7⟩
       ·have p0:¬(0:Int)<(i:Int):=Zo;go_wp2_with (go_at_call 55;go_must (refine e4.out.mono ?_;rintro e w8 ⟨rfl,a7⟩))
        go_meet;exact⟨false,rfl,⟨(fun e=>by cases e),(fun e=>absurd e.2 h0)⟩,a7⟩
      ·have e4:=Ja (i8.out.take 12 Zd Zd (by have:=b3.out.2.2;omega));have HT:=Ja ht;clear ht;go_wp2_with (go_at_call 55;go_must (refine e4.out.mono ?_;rintro e w8 ⟨z,q7,n2,rfl,a7⟩;have tz:((z:Int)==11)=false:=by rw[beq_eq_false_iff_ne];have:=n2.out;have:=HT.out;omega))
       go_meet;exact⟨false,rfl,⟨(fun e=>by cases e),(fun e=>absurd e.1 HT.out)⟩,a7⟩
     case rest=>
     obtain⟨bb,rfl,h7,a7⟩:=hcut;have m1:=Ja h7;clear h7;have j1:=Ja (a7.out.any (by have:=b3.out.2.2;omega))
     go_upto_if 65 with fail
     go_cut [] (fun wx=>Hid (OpSt W6 K Xi M6 (0+pC d+1+4) wx (wM K.E jn i M7)))
     case first=>
      cases bb
      ·go_wp2_with (first|(go_at_call 58;go_must (refine j1.out.mono ?_;rintro e w9 ⟨y,HY,rfl,i2⟩;have q2:=Ja (i2.out.endN 1 0 [⟨(jn:Int),[y]⟩] (T (w9.heap.size+1) 1 1) (yF _ rfl) (yF _ rfl) (((Below.refl _ _).alloc (Je _) _).alloc Zs _) (pj (w:=w9) (xs:=[y]) (blk:=(jn:Int)) (fun x hx=>by rw[Jo] at hx;subst hx;exact HY.out.1) Zs (vG _ Zo (by have h1:=H5.out.2.2.2.1;have h2:=H5.out.2.2.2.2.1;have h3:=HZ.out.1;unfold MS.sz at *;omega))))))|(go_at_call 59;go_must (refine q2.out.mono ?_;rintro e w10 ⟨rfl,d2⟩)))
       go_meet;refine Ja ?_
       have e1:wM K.E jn i M7=(zJ K.E M7.tick).2.endB ⟨1,0,[⟨(jn:Nat),[(zJ K.E M7.tick).1]⟩]⟩:=by
        unfold wM;rw[if_neg (fun e=>by have:=m1.out.2 e;cases this)]
       rw[e1,HY.out.2];exact d2.out
      ·go_wp2_with (first|(go_at_call 58;go_must (refine j1.out.mono ?_;rintro e w9 ⟨y,HY,rfl,i2⟩))|(go_at_call 59;go_must (refine(i2.out.endB 4 y [] (L) (yF _ rfl) HY.out.1 (fun X _ _=>yE.nil)).mono ?_;rintro e w10 ⟨rfl,d2⟩)))
       go_meet;refine Ja ?_
       have e1:wM K.E jn i M7=(zJ K.E M7.tick).2.endB ⟨4,(zJ K.E M7.tick).1,[]⟩:=by
        unfold wM;rw[if_pos (m1.out.1 (by trivial))]
       rw[e1,HY.out.2];exact d2.out
     case rest=>
     obtain⟨X9,⟨s3,vv9,l9,a4⟩,k4⟩:=hcut.out.made;obtain⟨va9,vc9,m2⟩:=zG a4.vown;subst m2;have c7:=a4.c7;have f7:=a4.free 7;have r0:=lt_of_block a4.blk
     have c9:M3.vals.length<=(wM K.E jn i M7).vals.length:=by
      have h1:=dO hcut.out.gr.pre;rw[<-b3.out.2.1] at h1;have h2:({Mi with cur:=ti }:MS).vals=Mi.vals:=rfl;rw[h2,a2.out.vals] at h1;exact h1
     have r2:M3.vals.length<=vc9:=Jn c9 (zm a4.vown).1;have q6:vc9<=9223372036854775807:=by have:=(zm a4.vown).2;omega
     have l3:=a4.cut c9;have j0:=Ja (Jb l3 k4);clear a4 c9 l3 k4 hcut;go_wp2;go_roundw
     case rel=>
      have hq:=a2.out.next (w2:=wc.setCell ⟨K.pm,7,none⟩ (.slice va9 M3.vals.length vc9)) a3 m.out.1 (by have h1:=H5.out.2.2.2.1;have h2:=H2.out.2.2.2.2.2.1;omega) ⟨X9,?_,(m.out.2.1.2.trans j0.out.2).trans j0.out.1.2⟩
      ·exact⟨i+1,_,a3,by go_num,Ja hq⟩
      ·rw[p5.out,b3.out.2.1,n4.out];exact j0.out.1.1.at
     case measure=>have:=a3;simp[intOf];omega
    ·obtain rfl:i=j:=by omega
     have b5:¬(i:Int)<(i:Int):=Zo;have b4:=a2.out.rest;rw[show i-i=0 by omega] at b4
     have m6:∃b,Mi.f[jn]? =some b/\b.params=[(M2.next:Int)]:=by
      have b0:=H2.out.2.2.2.2.2.2.1;have s0:=H2.out.2.2.2.2.2.1
      have h0:(M2.block 1).f[jn]? =some (wJ M2.next 1):=by
       show(M2.f++ [wJ M2.next 1])[jn]? =_
       rw[Nc Zo,show jn-M2.f.length=0 by omega];rfl
      obtain⟨b1,h1,h2⟩:=(zv (M2.block 1) ⟨kd,x,xk tg i⟩).par _ _ h0;rw[H5.out.2.2.1] at h1;obtain⟨b2,h3,h4⟩:=a2.out.gr.par _ _ h1;exact⟨b2,h3,h4.trans (h2.trans rfl)⟩
     obtain⟨bj,h6,l4⟩:=m6;have b9:=u.goto jn;have c5:=u.c5;have f5:=u.free 5;have f2:=lt_of_block u.blk;have r6:jn<l.length:=by rw[u.len];exact(Jh.1 h6).1
     have o5:=u.flen;rw[<-u.len] at o5;have m:=Ja (Jb b6 (Jb b9 (Jb h6 (Jb l4 b4))));clear u b6 b9 h6 l4 b4;go_upto_region 22 with fail;generalize h8:wr.setCell ⟨K.pm,5,none⟩ (U jn)=W6 at *;obtain⟨g,c,pa,pc,l0,s1,o6,f3⟩:=m.out.2.1.1.parAt (i:=jn) m.out.2.2.1;have h0:=f3 0 (M2.next:Int) (by rw[m.out.2.2.2.1];rfl);obtain⟨bb,o,o1,h7,j3,h64⟩:=h0;rw[Uk] at j3;rw[m.out.2.2.2.1] at o6;obtain⟨va,vc,e7⟩:=zG m.out.2.1.1.vown;have a0:=m.out.2.1.1.vown;have c4:=m.out.2.1.1.c4;have c7:=m.out.2.1.1.c7;have f7:=m.out.2.1.1.free 7;have j4:=lt_of_block m.out.2.1.1.blk;have nb:=zC a0 m.out.2.1.1.blk (.inr Zd);rw[e7] at a0 c7 nb;rw[l0] at c4;subst o1;have n3:=Ja a0;have p4:=Ja e7;have q5:=Ja h64
     have r4:Mi.vals.length<=999999:=by
      have h1:=a2.out.vals;have h2:=H5.out.2.2.2.2.1;have h3:=HZ.out.1;have h4:M3.vals.length<=M3.sz:=by unfold MS.sz;omega
      have h5:pC d≥101:=by cases d<;>unfold pC<;>omega
      rw[h1];omega
     have p3:∀o,A (W6.alloc o) K.pm 7 (.slice va Mi.vals.length vc):=fun o=>(Oo (w:=W6) (Below.heap_alloc _ _ _ j4)).trans c7
     have p1:∀o,N (W6.alloc o) K.pm 7:=fun o=>(Qm (w:=W6) (Below.heap_alloc _ _ _ j4)).trans f7
     have s2:K.B<=W6.heap.size:=m.out.2.1.1.size;obtain⟨ij,g3,c8,c3,c2⟩:=info_parts Tryz.info_int;have HP:=Ja f3;clear a0 e7 h64 f3 l0 b5 c5 f5 f2 h8
     go_region_law (first|(refine step_append_lies _ (by rfl) (.tmp 97) (.tmp 109) _ (by rfl) K.B 3 ij (U 0) 1 8 Tryz.underlying22 g3 c8 c3 c2 rfl Zo (.slice va Mi.vals.length vc) Mi.vals.length (Mi.vals.map zN) (by rfl) ((n3.out.alloc _).drew) ⟨W6.heap.size,0,none⟩ 1 1 [U (M2.next:Int)] (by rfl) (by rfl) (Oi (cs:=#[U (M2.next:Int)]) (t:=3) (fr:=(0,0)) (heap_alloc_new W6 _)) (by simp[Value.oneCell']) Zo (by unfold maxLen;omega) Zo Zt (W6.heap.size+1) Zs ?_;intro gg n1 w3 j2 a1 d7 r1;have s5:=(a1.cell_far ⟨K.pm,7,none⟩ Zt (Ne.symm nb)).trans (p3 _);have s4:=(a1.frozen_far ⟨K.pm,7,none⟩ Zt (Ne.symm nb)).trans (p1 _)))
     all_goals go_wp2_with fail
     all_goals (first|go_end0|refine bodyPost_ret (results_none rfl _ _ _) rfl ?_)
     all_goals (
      have a5:=xN a1;rw[<-p4.out] at a5 d7
      have hP:=m.out.2.1.1.putV (vv':=T gg (Mi.vals.length+1) n1) (x:=(M2.next:Int)) a5 j2 (fun k e=>by
       have e2:gg=k:=by simpa[Value.ownBlock] using e
       subst e2;rcases d7 with e3|e3
       ·exact .inl e3
       ·right;omega) q5.out (by
       have h1:=a2.out.gr.sz;have h2:=H5.out.2.2.2.2.1;have h3:=H5.out.2.2.2.2.2;have h4:=HZ.out.1
       show Mi.sz+1<=1000000
       omega)
      refine⟨rfl,_,?_,(H5.out.1.trans m.out.1).trans (m.out.2.1.2.trans hP.2)⟩
      have e:xi K.E (zp K.E d) i M= {Mi with cur:=jn,vals:=Mi.vals++ [(M2.next:Int)]}:=by
       unfold xi;simp only;rw[H1.out.2.2,HX.out.2,H2.out.2.2.2.1,H2.out.2.2.2.2.1,H2.out.2.2.2.2.2.1,e5.out.1,H5.out.2.2.1,m.out.2.2.2.2];have e0:Mi.f.getD jn ⟨[],[],⟨0,0,[]⟩⟩=bj:=by rw[Jj,m.out.2.2.1];rfl
       show({Mi with cur:=jn,vals:=Mi.vals++ [((Mi.f.getD jn ⟨[],[],⟨0,0,[]⟩⟩).params).getD 0 0]}:MS)=_
       rw[e0,m.out.2.2.2.1];rfl
      rw[e]
      exact hP.1.at)
def jQ {α:Type}(R:World->(Nat->Prop)->Nat->Nat->α->Prop):Prop:=∀w X Y b q x,(∀k,Y k->X k)->R w X b q x->R w Y b q x
theorem yE.anti{α:Type}{sz:Nat}{R:World->(Nat->Prop)->Nat->Nat->α->Prop}(g:jQ R){Y:Nat->Prop}{v:Value}{xs:List α}(h:yE sz R w X v xs)(c:∀k,Y k->X k):yE sz R w Y v xs:=by
 obtain⟨a,d,rfl,h1,h2,h3⟩:=h;refine⟨a,d,rfl,h1,h2,fun k x hk=>?_⟩;obtain⟨b,o,m,l,j,i⟩:=h3 k x hk;exact⟨b,o,m,l,fun e=>j (c _ e),g _ _ _ _ _ _ c i⟩
theorem abf:jQ IntG:=fun w X Y b q x hY h=>h
theorem qd:jQ EdgeG:=fun w X Y b q x hY h=>by
 obtain⟨h1,h2,av,h3,c⟩:=h;exact⟨h1,h2,av,h3,c.anti abf hY⟩
def OpG (w:World)(X:Nat->Prop)(b q:Nat)(x:IOp):Prop:=
 A w b q (U x.code)/\A w b (q+1) (U x.res)/\A w b (q+2) (U x.a)/\A w b (q+3) (U x.b)/\A w b (q+4) (O (x.n:Int))/\
  (I64 x.code/\I64 x.res/\I64 x.a/\I64 x.b/\x.n<65536)/\∃av,A w b (q+5) av/\wm w X av x.args
theorem lu:rP OpG:=fun X w X' w' b q x _ hx hs h=>by
 obtain⟨h1,h2,h3,j,i,g,av,d,c⟩:=h;exact⟨hs.cell h1 hx,hs.cell h2 hx,hs.cell h3 hx,hs.cell j hx,hs.cell i hx,g,av,hs.cell d hx,c.step ro hs⟩
theorem opG_anti:jQ OpG:=fun w X Y b q x hY h=>by
 obtain⟨h1,h2,h3,j,i,g,av,d,c⟩:=h;exact⟨h1,h2,h3,j,i,g,av,d,c.anti abf hY⟩
abbrev OpsG:=yE 6 OpG
def BlkG (w:World)(X:Nat->Prop)(b q:Nat)(x:IBlk):Prop:=
 A w b (q+2) (U x.term.kind)/\A w b (q+3) (U x.term.a)/\(I64 x.term.kind/\I64 x.term.a)/\
  ∃pv ov tv,A w b q pv/\A w b (q+1) ov/\A w b (q+4) tv/\wm w X pv x.params/\OpsG w X ov x.ops/\vT w X tv x.term.to
theorem xq:rP BlkG:=fun X w X' w' b q x _ hx hs h=>by
 obtain⟨h1,h2,h3,pv,ov,tv,k,j,i,g,d,c⟩:=h;exact⟨hs.cell h1 hx,hs.cell h2 hx,h3,pv,ov,tv,hs.cell k hx,hs.cell j hx,hs.cell i hx,g.step ro hs,d.step lu hs,c.step yq hs⟩
theorem jG:jQ BlkG:=fun w X Y b q x hY h=>by
 obtain⟨h1,h2,h3,pv,ov,tv,k,j,i,g,d,c⟩:=h;exact⟨h1,h2,h3,pv,ov,tv,k,j,i,g.anti abf hY,d.anti opG_anti hY,c.anti qd hY⟩
abbrev pf:=yE 5 BlkG
theorem OpsG.to{v:Value}{xs:List IOp}(h:OpsG w X v xs):mN w w.heap.size v xs:=yE.to h fun _ _ _ h=>by
 obtain⟨h1,h2,h3,j,i,g,av,d,c⟩:=h;exact⟨h1,h2,h3,j,i,g,av,d,wm.to c⟩
theorem pf.to{v:Value}{xs:List IBlk}(h:pf w X v xs):wX w w.heap.size v xs:=yE.to h fun _ _ _ h=>by
 obtain⟨h1,h2,h3,pv,ov,tv,k,j,i,g,d,c⟩:=h;exact⟨h1,h2,h3,pv,ov,tv,k,j,i,wm.to g,OpsG.to d,vT.to c⟩
theorem qv{α β:Type}{sz:Nat}{f:β->List Value}{g:β->α}{R:World->(Nat->Prop)->Nat->Nat->α->Prop}(x:0<sz)(hf:∀a,(f a).length=sz){S:Nat}{e:TypeId}{v:Value}{l:List β}(h:w.ownsRow S e sz v l.length (l.flatMap f))(m:∀k,v.ownBlock=some k->¬X k)
 (t:∀q∈l,∀b o,(∀j u,(f q)[j]? =some u->A w b (o+j) u)->R w X b o (g q)):yE sz R w X v (l.map g):=by
 obtain⟨a,c,rfl⟩:=zG h;have hl:=zm h;refine⟨a,c,by rw[Nr],by rw[Nr];exact hl.1,by omega,fun k o hk=>?_⟩;rw[Jr,Oz] at hk;obtain⟨q,hq,rfl⟩:=hk;have d:=(Jh.1 hq).1;obtain⟨gg,y,e,hg,hb⟩:=h.form Zo;cases e;refine⟨gg,0,rfl,hb,m gg rfl,t q (Ji hq) _ _ fun j u hj=>?_⟩;have i:j<sz:=by rw[<-hf q];exact(Jh.1 hj).1
 rw[Ng]
 exact(h.cellAt (k*sz+j) (by
  have:(k+1)*sz<=l.length*sz:=Qw sz d;rw[Nat.add_mul] at this
  omega)).trans ((uB f sz hf l k q hq j i).trans hj)
theorem mF (q:IOp×Value):(zU q).length=6:=rfl
theorem MkIn.blks{fv:Value}(h:MkIn w K X M fv vv l):pf w (fun k=>k=K.pm∨K.Z k) fv M.f:=by
 have c:∀k,(k=K.pm∨K.Z k)->K.av X k:=fun k e=>e.elim (fun e=> .inl (by rw[e];exact h.xm)) .inr
 rw[h.fl];refine qv Zd yr h.own (fun k e e2=>?_) (fun q hq b o hc=>?_)
 ·rcases e2 with e2|e2
  ·exact zC h.own h.blk (.inr Zd) (by rw[e,e2])
  ·exact h.env.zx k (h.xf k e) e2
 ·have ok:=h.bok q hq;refine⟨hc 2 _ rfl,hc 3 _ rfl,ok.k64,q.pv,q.ov,q.tv,hc 0 _ rfl,hc 1 _ rfl,hc 4 _ rfl,ok.par.anti abf c,?_,ok.tos.anti qd c⟩;rw[ok.ops];refine qv Zd mF ok.own (fun k e e2=>?_) (fun p hp b2 o2 hc2=>?_)
  ·rcases e2 with e2|e2
   ·exact zC ok.own h.blk (.inr Zd) (by rw[e,e2])
   ·exact h.env.zx k (ok.inX k e) e2
  ·have oa:=ok.arg p hp;exact⟨hc2 0 _ rfl,hc2 1 _ rfl,hc2 2 _ rfl,hc2 3 _ rfl,hc2 4 _ rfl,oa.1,p.2,hc2 5 _ rfl,oa.2.anti abf c⟩
theorem MkIn.putVs{fv vv':Value}(h:MkIn w K X M fv vv l)(hg:w.grownBy w3 vv.ownBlock){n:Nat}(u:n=M.vals.length+xs.length)
 (c:w3.ownsRow K.B 3 1 vv' n (M.vals.map zN++xs.map zN)) (o:∀k,vv'.ownBlock=some k->vv.ownBlock=some k∨w.heap.size<=k) (t:∀x∈xs,I64 x) (hz:M.sz+xs.length<=1000000):
 MkIn (w3.setCell ⟨K.pm,7,none⟩ vv') K (fun k=>X k∨vv'.ownBlock=some k) {M with vals:=M.vals++xs } fv vv' l/\Stp X w (fun k=>X k∨vv'.ownBlock=some k) (w3.setCell ⟨K.pm,7,none⟩ vv'):=by
 subst u;have n1:=zC h.vown h.blk (.inr Zd);have i:=zL hg h.blk n1;have m:w.heap.size<=w3.heap.size:=hg.size
 have hk:∀k,k<w.heap.size->k≠K.pm->vv.ownBlock≠some k->(w3.setCell ⟨K.pm,7,none⟩ vv').heap[k]? =w.heap[k]?:=fun k hk hne hv=>
  (Below.heap_setCell w3 ⟨K.pm,7,none⟩ vv' k hne).trans (hg.block k hk (fun e=>hv e.symm))
 have hs:Stp X w (fun k=>X k∨vv'.ownBlock=some k) (w3.setCell ⟨K.pm,7,none⟩ vv'):=
  ⟨hg.os,hg.tape,hg.output,by simpa using m,fun k hx'=>hx'.elim .inl (fun e=>(o k e).elim (fun e2=> .inl (h.xv k e2)) .inr),fun k hk' hxk=>hk k hk' (fun e=>hxk (by rw[e];exact h.xm)) (fun e=>hxk (h.xv k e))⟩
 have g:∀ {v:Value} {e:TypeId} {sz n:Nat} {xs:List Value},w.ownsRow K.B e sz v n xs->e≠3->e≠128->∀k,v.ownBlock=some k->(w3.setCell ⟨K.pm,7,none⟩ vv').heap[k]? =w.heap[k]?:=fun {v e sz n xs} ho h1 h2 k hk'=>by
  refine hk k (ho.lt k hk').2 (fun e3=>zC ho h.blk (.inr h2) (by rw[hk',e3])) (fun e3=>?_);rcases zo ho h.vown h1 with j|j
  ·rw[j] at hk';cases hk'
  ·exact j (by rw[hk',e3])
 refine⟨⟨?_,yD h.own (g h.own Zd Zd),h.fl,fun q hq=>(h.bok q hq).step hs (g (h.bok q hq).own Zd Zd) (fun _ e=> .inl e),h.apart,?_,?_,.inl h.xm,fun k e=> .inl (h.xf k e),fun k e=> .inr e,fun k e=>e.elim (h.xB k) (fun e2=>(c.lt k e2).1),fun k e=>?_,h.env.step hs (hs.below h.xB h.size),?_,h.lft⟩,hs⟩
 ·rw[zD i];rfl
 ·show(w3.setCell ⟨K.pm,7,none⟩ vv').ownsRow K.B 3 1 vv' (M.vals++xs).length ((M.vals++xs).map zN)
  rw[Jk,Js];exact ownsRow_setCell_other c (fun e=>zC c i (.inr Zd) (by simpa using e)) _
 ·intro y d;rcases Jl.1 d with d|d
  ·exact h.v64 y d
  ·exact t y d
 ·rcases e with e|e
  ·have:=h.xl k e;simp;omega
  ·have:=(c.lt k e).2;simpa using this
 ·unfold MS.sz at *;simp only[Jk];omega
structure MDC where
 sv:Value
 apv:Value
 dv:Value
 bv:Value
 pm:Nat
 pp:Nat
 fb:Nat
 rr:Nat
 B:Nat
variable {C:MDC}
def mdK (s:List Int)(C:MDC)(k:Nat):MKC:=⟨xC s k,C.sv,T C.fb (mdN s) (mdN s),C.apv,C.dv,C.bv,C.pm,C.pp,C.B,fun j=>(j=C.fb∨j=C.rr)∨j<C.B⟩
theorem MkEnv.me{s:List Int}(h:MkEnv w (mdK s C j) X)(hk:k<mdN s):MkEnv w (mdK s C k) X:=
 ⟨h.s,h.fpv,h.prog,h.args,h.data,h.ppX,h.h64,h.len,⟨h.nf.1,hk⟩,h.alt,h.zx,h.zl⟩
theorem MkEnv.anti{Y:Nat->Prop}(h:MkEnv w K X)(d:∀k,Y k->X k):MkEnv w K Y:=by
 have c:∀k,K.av Y k->K.av X k:=fun k e=>e.elim (fun e=> .inl (d k e)) .inr
 obtain⟨b,e1,e2,e3⟩:=h.data;exact⟨h.s,h.fpv,h.prog,h.args.anti abf c,⟨b,e1,fun e=>e2 (c _ e),e3⟩,fun e=>h.ppX (c _ e),h.h64,h.len,h.nf,h.alt,fun k e=>h.zx k (d k e),h.zl⟩
theorem MkEnv.stepA(h:MkEnv w K X)(c:Stp (K.av X) w (K.av X) w')(hb:Below K.B w w'):MkEnv w' K X:=by
 obtain⟨b,e1,e2,e3⟩:=h.data;exact⟨h.s.below zO hb,h.fpv,c.blk h.prog h.ppX,h.args.step ro c,⟨b,e1,e2,c.blk e3 e2⟩,h.ppX,h.h64,h.len,h.nf,h.alt,h.zx,fun k e=>Jy (h.zl k e) c.size⟩
structure MdAt (s:List Int) (C:MDC) (w0:World) (k:Nat) (wx:World):Prop where
 env:MkEnv wx (mdK s C 0) (fun j=>j=C.pm)
 mkr:∃(me:Value) (cur:Nat) (fv next vv left:Value),wx.heap[C.pm]? =some (.cells #[C.sv,.int .i64 ((zg s k).2:Int),.pointer (some ⟨C.pp,0,none⟩),me,fv,.int .i64 (cur:Int),next,vv,left] 128 (0,0))
 row:∃hs:List Value,hs.length=mdN s/\wx.heap[C.fb]? =some (.cells hs.toArray 39 (0,0))/\∀(j:Nat) (x:List IBlk),(zg s k).1[j]? =some x->∃v:Value,hs[j]? =some v/\pf wx (fun i=>i=C.pm∨((i=C.fb∨i=C.rr)∨i<C.B)) v x
 bel:Below w0.heap.size w0 wx
 hB:C.B=w0.heap.size
 pmB:C.B<=C.pm
 fbB:C.B<=C.fb
 rrB:C.B<=C.rr
theorem MdAt.start{s:List Int}(h:MdAt s C w0 k wx)(hk:k<mdN s){cur next:Nat}(d:(zg s k).2+1+next<=900000)
 (c:Q W C.pm (uC (mdK s C k) ⟨(zg s k).2+1,[],cur,next,[],6⟩ (L) (L)) 128)
 (hs:Stp (fun j=>j=C.pm) wx (fun j=>j=C.pm) W):MkIn W (mdK s C k) (fun j=>j=C.pm) ⟨(zg s k).2+1,[],cur,next,[],6⟩ (L) (L) []:=
 ⟨c,Jv _ _ _ _,rfl,fun q hq=>by simp at hq,fun i j qi qj k hi=>by simp at hi,Jv _ _ _ _,fun x hx=>by simp at hx,rfl,fun k e=>by simp[Value.ownBlock] at e,fun k e=>by simp[Value.ownBlock] at e,
  fun k e=>by rw[e];exact h.pmB,fun k e=>by rw[e];exact lt_of_block c,(h.env.step hs (hs.below (fun k e=>by rw[e];exact h.pmB) (by show C.B<=_;rw[h.hB];exact h.bel.size))).me hk,by unfold MS.sz;simp[opsN];omega,⟨by show(6:Int)<=6+_;omega,by show(6:Int)<=6;omega⟩⟩
theorem MdAt.done{s:List Int}{W2:World}(h:MdAt s C w0 k wx)(hk:k<mdN s){fv:Value}(hm:MkIn W (mdK s C k) X (xR (xC s k) (zg s k).2) fv vv l)(hs:Stp (fun j=>j=C.pm) wx X W)(y:(zg s k).1.length=k)
 (c:W2.heap.size=W.heap.size/\W2.os=W.os/\W2.tape=W.tape/\W2.output=W.output) (g:∀i,i≠C.fb->W2.heap[i]? =W.heap[i]?) (a3:∀cs:Array Value,Q W C.fb cs 39->Q W2 C.fb (cs.setIfInBounds k fv) 39):MdAt s C w0 (k+1) W2:=by
 obtain⟨row,hrl,o,u⟩:=h.row;have m:¬(C.fb=C.pm):=fun e=>h.env.zx C.pm rfl (.inl (.inl e.symm))
 have b0:¬X C.fb:=fun e=>hm.env.zx C.fb e (.inl (.inl rfl))
 have d:Stp ((mdK s C k).av fun j=>j=C.pm) W ((mdK s C k).av fun j=>j=C.pm) W2:=⟨c.2.1,c.2.2.1,c.2.2.2,by rw[c.1];exact Je _,fun k e=> .inl e,fun i _ hx=>g i (fun e=>hx (.inr (.inl (.inl e))))⟩
 have a6:C.B<=wx.heap.size:=by rw[h.hB];exact h.bel.size
 have a5:Below C.B wx W:=hs.below (fun k e=>by rw[e];exact h.pmB) a6;have a7:C.B<=C.fb:=h.fbB;have t:Below C.B W W2:=⟨c.2.1,c.2.2.1,c.2.2.2,by rw[c.1];exact Je _,fun i hi=>g i Zo⟩
 have a0:MkEnv W2 (mdK s C 0) (fun j=>j=C.pm):=((hm.env.anti (fun i e=>by rw[e];exact hm.xm)).stepA d t).me (by have:=hk;omega);have a2:C.fb<wx.heap.size:=lt_of_block o;refine⟨a0,?_,?_,?_,h.hB,h.pmB,h.fbB,h.rrB⟩
 ·have h1:=hm.blk;exact⟨_,_,_,_,_,_,(g C.pm (fun e=>m e.symm)).trans h1⟩
 ·have w:Q W C.fb row.toArray 39:=(hs.kept _ a2 (fun e=>m e)).trans o;refine⟨row.set k fv,by rw[Nd];exact hrl,by rw[a3 _ w];simp,fun j x hj=>?_⟩;have e1:(zg s (k+1)).1=(zg s k).1++ [(xR (xC s k) (zg s k).2).f]:=rfl;rw[e1] at hj
  by_cases b1:j<k
  ·rw[Np Zo] at hj;obtain⟨v,hv,a4⟩:=u j x hj;refine⟨v,by rw[Ns Zo];exact hv,?_⟩;have h2:pf W ((mdK s C k).av X) v x:=yE.step (X:=(mdK s C k).av fun j=>j=C.pm) xq a4 (hs.av _);have h3:pf W ((mdK s C k).av fun j=>j=C.pm) v x:=h2.anti jG (fun i e=>e.elim (fun e=> .inl (by rw[e];exact hm.xm)) .inr);exact h3.step xq d
  ·have a1:j=k:=by
    have:=(Jh.1 hj).1;simp at this;omega
   subst a1;rw[Nc Zo,y,Qy] at hj;cases hj;refine⟨fv,by rw[Nn Zo],?_⟩;have h2:pf W ((mdK s C j).av fun i=>i=C.pm) fv (xR (xC s j) (zg s j).2).f:=hm.blks;exact h2.step xq d
 ·have e:C.B=w0.heap.size:=h.hB;have:=h.bel.trans (B:=w0.heap.size) (by rw[<-e];exact a5.trans t);exact this
theorem tf{pm pos B:Nat}{cs:Array Value}{s:List Int}{sv:Value}(hb:Q w pm cs 128)(t:cs[0]? =some sv)(h1:cs[1]? =some (U pos))(hs:zY w B sv s){n:Nat}(l:0<n)(g:n<=1000000)(y:pos+1<=1000000):
 I 55 #[F pm,U n] w fun e w'=>e=.returned (U (tk0 s pos n:Nat))/\Q w' pm (cs.setIfInBounds 1 (U ((pos+1:Nat):Int))) 128/\Stp (fun j=>j=pm) w (fun j=>j=pm) w':=by
 have c0:=zA hb t;have c1:=zA hb h1;obtain⟨sa,sc,i,a1,a0⟩:=hs.form;rw[i] at c0 hs;have f1:N w pm 1:=zE hb;have a2:=lt_of_block hb
 have d:=Ja (show ∀n,Q ((w.drewN n).setCell ⟨pm,1,none⟩ (U ((pos:Int)+1))) pm (cs.setIfInBounds 1 (U ((pos+1:Nat):Int))) 128/\Stp (fun j=>j=pm) w (fun j=>j=pm) ((w.drewN n).setCell ⟨pm,1,none⟩ (U ((pos:Int)+1))) from fun n=>
  ⟨zD (w:=w.drewN n) hb _,⟨rfl,rfl,rfl,by simp,fun _ h=> .inl h,fun k hk c=>Below.heap_setCell _ _ _ _ (fun e=>c (by rw[e]))⟩⟩)
 have hp:(pos:Int)+1<=1000000:=Zo;clear hb t h1
 by_cases m:pos<s.length
 ·obtain⟨x,c⟩:∃x,s[pos]? =some x:=⟨_,Jd m⟩
  obtain⟨b,o,rfl,hb,hc,h64⟩:=hs.get c;rw[Nk] at hc;have hI:(pos:Int)<(s.length:Int):=Zo;have hv:tk0 s pos n=(x%(n:Int)).toNat:=by unfold tk0;rw[Jj,c];rfl
  have e1:=rK x n l g;rw[hv];have u:=Ja e1;clear hs c hb e1 hv;go_enter Tryz.func55,Tryz.ntmps55;go_wp2;go_quiet (fail);go_wp2;go_quiet (fail);go_wp2;go_ret;exact⟨zh u.out,(d.out _).1,(d.out _).2⟩
 ·have hI:¬(pos:Int)<(s.length:Int):=Zo;have hv:tk0 s pos n=((0:Int)%(n:Int)).toNat:=by unfold tk0;rw[Jj,Of Zo];rfl
  have e1:=rK 0 n l g;rw[hv];have u:=Ja e1;clear hs hv e1;go_enter Tryz.func55,Tryz.ntmps55;go_wp2;go_quiet (fail);go_wp2;go_ret;exact⟨zh Zs,(d.out _).1,(d.out _).2⟩
theorem ajr{K:SK}{p:IProg}{g:List IBlk}{s:Slv}(h:SlvAt w K p g k s){o:IOp}(av:Value)(h64:I64 o.code)(i:o.n<65536)(c:o.code=2->0<=o.a/\o.a<p.data.length)
 (d:o.code≠1->o.code≠2->ruG o.code≠none->(0<=o.a/\o.a<K.n)/\0<=o.b/\o.b<K.n):
 I 96 #[F K.sb,aam o av] w (be w (ag2 p s o)):=by
 by_cases h1:o.code=1
 ·exact aiw _ av h1 p s
 by_cases h2:o.code=2
 ·exact ajp h av h2 (c h2) i
 cases hr:ruG o.code with
 |none=>exact aip h av h1 h2 h64 hr
 |some f=>
  obtain⟨j,hb⟩:=d h1 h2 (by rw[hr];exact fun e=>by cases e);exact aiF h av h1 h2 h64 hr j hb
structure SlvTo (w w':World) (K:SK):Prop where
 os:w'.os=w.os
 tape:w'.tape=w.tape
 output:w'.output=w.output
 size:w.heap.size<=w'.heap.size
 block:∀i,i<w.heap.size->i≠K.rb->i≠K.kb->i≠K.sb->w'.heap[i]? =w.heap[i]?
theorem SlvTo.refl (w:World)(K:SK):SlvTo w w K:=⟨rfl,rfl,rfl,Je _,fun _ _ _ _ _=>rfl⟩
theorem SlvTo.trans{w1:World}{K:SK}(h:SlvTo w w1 K)(d:SlvTo w1 w2 K):SlvTo w w2 K:=
 ⟨d.os.trans h.os,d.tape.trans h.tape,d.output.trans h.output,Jn h.size d.size,fun i hi a b c=>(d.block i (Jy hi h.size) a b c).trans (h.block i hi a b c)⟩
theorem SlvTo.of_below{K:SK}(h:Y w w'):SlvTo w w' K:=⟨h.os,h.tape,h.output,h.size,fun i hi _ _ _=>h.block i hi⟩
theorem SlvTo.below{K:SK}(h:SlvTo w w' K){B:Nat}(hB:B<=K.rb/\B<=K.kb/\B<=K.sb/\B<=w.heap.size):Below B w w':=
 ⟨h.os,h.tape,h.output,h.size,fun i hi=>h.block i Zo Zo Zo Zo⟩
theorem aiP (l:List Rg)(v:Nat)(a:Rg)(h:v<l.length):(((l.flatMap pn).toArray.setIfInBounds (v*2) (O (a.lo:Int))).setIfInBounds (v*2+1) (O (a.hi:Int)))=((l.set v a).flatMap pn).toArray:=by
 simp only[Jc]
 congr 1
 induction l generalizing v with
 |nil=>simp at h
 |cons x l ih=>
  cases v with
  |zero=>rfl
  |succ v=>
   have:=ih v (by simpa using h);rw[show(v+1)*2=v*2+1+1 by omega];simp only[Qa,Jg];rw[<-this];rfl
theorem aeC{K:SK}{p:IProg}{c:List IBlk}{s:Slv}(h:SlvAt w K p c k s){v:Nat}(hv:v<K.n):A w K.kb v (.bool (s.knw v)):=by
 refine zA h.kn ?_;have hl:v<s.kn.length:=by rw[h.oks.kl];exact hv
 unfold Slv.knw;simp[Jj,Jd hl,hl]
theorem SlvAt.put{X:World}{K:SK}{p:IProg}{j:List IBlk}{s:Slv}(h:SlvAt X K p j k s){v:Nat}(hv:v<K.n){a:Rg}(u:a.ok)
 (d:((X.setCell ⟨K.kb,v,none⟩ (.bool true)).setCell ⟨K.rb,v*2,none⟩ (O (a.lo:Int))).setCell ⟨K.rb,v*2+1,none⟩ (O (a.hi:Int))=W):
 SlvAt W K p j k (s.put v a)/\SlvTo X W K:=by
 have m:=h.ne;have c:=h.lt;have o:=zD (i:=v) h.kn (.bool true)
 have t:W.heap[K.kb]? =(X.setCell ⟨K.kb,v,none⟩ (.bool true)).heap[K.kb]?:=by
  rw[<-d,Below.heap_setCell _ _ _ _ (by show K.kb≠K.rb;omega),Below.heap_setCell _ _ _ _ (by show K.kb≠K.rb;omega)]
 have l:Q (X.setCell ⟨K.kb,v,none⟩ (.bool true)) K.rb (s.r.flatMap pn).toArray 45:=by
  rw[Below.heap_setCell _ _ _ _ (by show K.rb≠K.kb;omega)];exact h.row
 have g:=zD (i:=v*2+1) (zD (i:=v*2) l (O (a.lo:Int))) (O (a.hi:Int));rw[d] at g
 have hb:Below K.B X W:=by
  rw[<-d];exact(((Below.refl K.B X).setCell c.2.2.1 _).setCell c.2.1 _).setCell c.2.1 _
 have ho:∀i,i≠K.rb->i≠K.kb->W.heap[i]? =X.heap[i]?:=fun i h1 h2=>by
  rw[<-d,Below.heap_setCell _ _ _ _ h1,Below.heap_setCell _ _ _ _ h1,Below.heap_setCell _ _ _ _ h2]
 refine⟨⟨h.prog.below hb,h.blks.below yT hb,h.map.same (ho _ Zo Zo),(ho _ Zo Zo).trans h.cell,?_,?_,h.oks.put _ u,h.n64,c,m⟩,⟨hb.os,hb.tape,hb.output,hb.size,fun i _ h1 h2 _=>ho i h1 h2⟩⟩
 ·have:=aiP s.r v a (by rw[h.oks.rl];exact hv);rw[show(s.put (v:Int) a).r=s.r.set v a from rfl,<-this];exact g
 ·rw[t,o,show(s.put (v:Int) a).kn=s.kn.set v true from rfl];simp[Ox]
def afw (w:World)(K:SK)(p:IProg)(bls:List IBlk)(k:Nat)(q:Slv×Bool)(e:Ending)(w':World):Prop:=e=.returned (.bool q.2)/\SlvAt w' K p bls k q.1/\SlvTo w w' K
theorem set_new{K:SK}{p:IProg}{l:List IBlk}{s:Slv}(h:SlvAt w K p l k s){v:Nat}(hv:v<K.n){a:Rg}(o:a.ok)(hk:¬4<k)(j:s.knw v=false):
 I 38 #[F K.sb,U v,.agg #[O (a.lo:Int),O (a.hi:Int)]] w (afw w K p l k (s.put v a,true)):=by
 have g:=aeC h hv;rw[j] at g;have a1:¬(4:Int)<(k:Int):=Zo;have H:=Ja (Jb h o);have hn:=h.n64;have l1:=lt_of_block h.cell;have l2:=lt_of_block h.row;have l3:=lt_of_block h.kn;obtain⟨s4,s7,s8,s9,s10,s6⟩:=h.cells;have a0:=h.ne;clear h o hk j s4 s7 s6;go_enter Tryz.func38,Tryz.ntmps38;go_upto_region 7 with(go_at_call 999999;skip)
 obtain⟨X,m⟩:∃X,w.alloc (G #[O (a.lo:Int),O (a.hi:Int)] 45)=X:=⟨_,rfl⟩
 have d:=Ja (show Y w X/\Q X w.heap.size #[O (a.lo:Int),O (a.hi:Int)] 45/\w.heap.size<X.heap.size from by
  rw[<-m];exact⟨Below.alloc (Below.refl _ _) (Je _) _,zI rfl,by simp⟩)
 rw[m];clear m;clear g s8 s9 s10;have c:=Ja (H.out.1.below d.out.1);have u:=Ja (show ∀W:World,W.heap[K.sb]? =X.heap[K.sb]?->W.heap[w.heap.size]? =X.heap[w.heap.size]?->A W K.sb 8 (T K.rb K.n K.n)/\A W K.sb 9 (T K.kb K.n K.n)/\A W w.heap.size 0 (O (a.lo:Int))/\A W w.heap.size 1 (O (a.hi:Int)) from fun W h1 h2=>⟨zA (h1.trans c.out.cell) rfl,zA (h1.trans c.out.cell) rfl,zA (h2.trans d.out.2.1) rfl,zA (h2.trans d.out.2.1) rfl⟩);obtain⟨c0,c1,c2,c3⟩:=u.out X rfl rfl;have kx:=aeC c.out hv;have kf:=zE (i:=v) c.out.kn;obtain⟨r0,r1⟩:=c.out.rcell (v:=(v:Int)) Zo;rw[Ni] at r0 r1;have y:=zE (i:=v*2) c.out.row;have x:=zE (i:=v*2+1) c.out.row;have m1:=lt_of_block c.out.cell;have m2:=lt_of_block c.out.row;have m3:=lt_of_block c.out.kn;have m4:=d.out.2.2;go_region_held3 (fun w'=>A w' K.sb 8 (T K.rb K.n K.n)/\A w' K.sb 9 (T K.kb K.n K.n)/\A w' w.heap.size 0 (O (a.lo:Int))/\A w' w.heap.size 1 (O (a.hi:Int))) ((refine u.out _ ?_ ?_<;>(repeat' (first|(rw[Below.heap_setCell _ _ _ _ (by first|(show K.sb≠K.kb;omega)|(show K.sb≠K.rb;omega)|(show w.heap.size≠K.kb;omega)|(show w.heap.size≠K.rb;omega))])|(rw[show ∀v:World,v.drew.heap=v.heap from fun _=>rfl])|exact rfl)))) (fail)
 all_goals go_wp2
 all_goals (
  obtain⟨W,t⟩:∃W,((X.setCell ⟨K.kb,v,none⟩ (.bool true)).setCell ⟨K.rb,v*2,none⟩ (O (a.lo:Int))).setCell ⟨K.rb,v*2+1,none⟩ (O (a.hi:Int))=W:=⟨_,rfl⟩
  rw[t];obtain⟨j1,j2⟩:=c.out.put hv H.out.2 t;go_ret
  exact⟨rfl,j1.below (Below.refl _ _).drew,((SlvTo.of_below d.out.1).trans j2).trans (SlvTo.of_below (Below.refl _ _).drew)⟩)
theorem ahU{K:SK}{p:IProg}{u:List IBlk}{s:Slv}(h:SlvAt w K p u k s){v:Nat}(hv:v<K.n){a0:Rg}(hk:4<k)(o:s.knw v=false):
 I 38 #[F K.sb,U v,.agg #[O (a0.lo:Int),O (a0.hi:Int)]] w (afw w K p u k (s.put v lf,true)):=by
 have m:=aeC h hv;rw[o] at m;have a4:(4:Int)<(k:Int):=Zo;obtain⟨a,j⟩:∃a,lf=a:=⟨_,rfl⟩
 have H:=Ja (Jb h (show a.ok from j ▸ cw));have hn:=h.n64;have l1:=lt_of_block h.cell;have l2:=lt_of_block h.row;have l3:=lt_of_block h.kn;obtain⟨s4,s7,s8,s9,s10,s6⟩:=h.cells;have a3:=h.ne;have HZ:=Ja j;rw[j];clear h hk o s4 s7 s6 j;go_enter Tryz.func38,Tryz.ntmps38;go_upto_region 7 with(go_at_call 39;go_must (refine(aeH _).mono ?_;rintro e w1 ⟨rfl,d⟩;have hk:=zH d (zI rfl) Zs;have f0:=zA (i:=0) hk rfl;have f1:=zA (i:=1) hk rfl;have g0:=zE (i:=0) hk;have g1:=zE (i:=1) hk;have y:=lt_of_block hk;have t:=Below.trans (show Y w _ from Zv) (d.mono Zy)))
 obtain⟨X,l⟩:∃X,(w1.setCell ⟨w.heap.size,0,none⟩ (O 0)).setCell ⟨w.heap.size,1,none⟩ (O 65535)=X:=⟨_,rfl⟩
 have g:=Ja (show Y w X/\Q X w.heap.size #[O (a.lo:Int),O (a.hi:Int)] 45/\w.heap.size<X.heap.size from by
  have x:=zD (i:=1) (zD (i:=0) hk (O 0)) (O 65535);rw[l] at x;refine⟨by rw[<-l];exact(t.setCell (Je _) _).setCell (Je _) _,?_,lt_of_block x⟩;rw[<-HZ.out]
  exact x)
 rw[l];clear l hk f0 f1 g0 g1 y t d;clear m s8 s9 s10;have c:=Ja (H.out.1.below g.out.1);have HC:=Ja (show ∀W:World,W.heap[K.sb]? =X.heap[K.sb]?->W.heap[w.heap.size]? =X.heap[w.heap.size]?->A W K.sb 8 (T K.rb K.n K.n)/\A W K.sb 9 (T K.kb K.n K.n)/\A W w.heap.size 0 (O (a.lo:Int))/\A W w.heap.size 1 (O (a.hi:Int)) from fun W h1 h2=>⟨zA (h1.trans c.out.cell) rfl,zA (h1.trans c.out.cell) rfl,zA (h2.trans g.out.2.1) rfl,zA (h2.trans g.out.2.1) rfl⟩);obtain⟨c0,c1,c2,c3⟩:=HC.out X rfl rfl;have kx:=aeC c.out hv;have kf:=zE (i:=v) c.out.kn;obtain⟨r0,r1⟩:=c.out.rcell (v:=(v:Int)) Zo;rw[Ni] at r0 r1;have a2:=zE (i:=v*2) c.out.row;have a1:=zE (i:=v*2+1) c.out.row;have m1:=lt_of_block c.out.cell;have m2:=lt_of_block c.out.row;have m3:=lt_of_block c.out.kn;have m4:=g.out.2.2;go_region_held3 (fun w'=>A w' K.sb 8 (T K.rb K.n K.n)/\A w' K.sb 9 (T K.kb K.n K.n)/\A w' w.heap.size 0 (O (a.lo:Int))/\A w' w.heap.size 1 (O (a.hi:Int))) ((refine HC.out _ ?_ ?_<;>(repeat' (first|(rw[Below.heap_setCell _ _ _ _ (by first|(show K.sb≠K.kb;omega)|(show K.sb≠K.rb;omega)|(show w.heap.size≠K.kb;omega)|(show w.heap.size≠K.rb;omega))])|(rw[show ∀v:World,v.drew.heap=v.heap from fun _=>rfl])|exact rfl)))) (fail)
 all_goals go_wp2
 all_goals (
  obtain⟨W,hW⟩:∃W,((X.setCell ⟨K.kb,v,none⟩ (.bool true)).setCell ⟨K.rb,v*2,none⟩ (O (a.lo:Int))).setCell ⟨K.rb,v*2+1,none⟩ (O (a.hi:Int))=W:=⟨_,rfl⟩
  rw[hW];obtain⟨j1,j2⟩:=c.out.put hv H.out.2 hW;go_ret
  exact⟨rfl,j1.below (Below.refl _ _).drew,((SlvTo.of_below g.out.1).trans j2).trans (SlvTo.of_below (Below.refl _ _).drew)⟩)
def ak2 (p:IProg)(f:Int):Prop:=vC p=0/\(0<=f/\f.toNat<p.funcs.length)/\p.funcs.getD f.toNat []≠ []
def aeW (w:World)(e:Ending)(w':World):Prop:=e=.returned (L)/\Y w w'
theorem aju{B:Nat}{V:PV}{p:IProg}(hp:ProgIn w B V p)(hB:B<=w.heap.size)(hs:∀f∈p.funcs,vZ f)(hv:vC p≠0)(f:Int):
 I 15 #[yH V p,U f] w (aeW w):=by
 obtain⟨z,h⟩:∃z,vC p=z:=⟨_,rfl⟩
 have g:∀W,Y w W->I 35 #[yH V p] W (m9 W z):=fun W hb=>by
  have:=tu (hp.below (hb.mono hB)) (Jn hB hb.size) hs;rw[h] at this;exact this
 rw[h] at hv;have u:(z !=0)=true:=by simpa using hv
 obtain⟨Vf,Va,Vd,Vb⟩:=V;obtain⟨f1,f2,e1,y,x⟩:=hp.funcs.form;have l:Vf=.slice f1 p.funcs.length f2:=e1;subst l;obtain⟨X,k⟩:∃X,w.alloc (G #[.slice f1 p.funcs.length f2,Va,U p.entry,U p.handler,Vd,Vb] 29)=X:=⟨_,rfl⟩;have d:Y w X:=by rw[<-k];exact(Below.refl _ _).alloc (Je _) _
 have c:Q X w.heap.size #[.slice f1 p.funcs.length f2,Va,U p.entry,U p.handler,Vd,Vb] 29:=by rw[<-k];exact zI rfl
 have o:=Ja (show ∀W,Y X W->I 35 #[.agg #[.slice f1 p.funcs.length f2,Va,U p.entry,U p.handler,Vd,Vb]] W (m9 W z) from fun W hb=>g W (d.trans (hb.mono d.size)));have x0:=zA (i:=0) c rfl;have x1:=zA (i:=1) c rfl;have x2:=zA (i:=2) c rfl;have x3:=zA (i:=3) c rfl;have x4:=zA (i:=4) c rfl;have x5:=zA (i:=5) c rfl;have t:=lt_of_block c;have m:=Ja (Jb d c);clear d c;clear hp hB hs hv g h;unfold yH;go_enter Tryz.func15,Tryz.ntmps15;go_wp2_with fail
 go_step3
 go_wp2_with (go_at_call 35;go_must (refine(o.out _ (Below.refl _ _)).mono ?_;rintro e w1 ⟨rfl,j⟩))
 try rw[Exit.noGoto_ret]
 go_ret;exact⟨rfl,m.out.1.trans (j.mono m.out.1.size)⟩
theorem ajI{B:Nat}{V:PV}{p:IProg}(hp:ProgIn w B V p)(hB:B<=w.heap.size)(hs:∀f∈p.funcs,vZ f)(hv:vC p=0)(f:Int)(hf:f<0):
 I 15 #[yH V p,U f] w (aeW w):=by
 have g:∀W,Y w W->I 35 #[yH V p] W (m9 W 0):=fun W hb=>by
  have:=tu (hp.below (hb.mono hB)) (Jn hB hb.size) hs;rw[hv] at this;exact this
 have t:decide (f<0)=true:=decide_eq_true hf;obtain⟨Vf,Va,Vd,Vb⟩:=V;obtain⟨f1,f2,e1,x,u⟩:=hp.funcs.form;have k:Vf=.slice f1 p.funcs.length f2:=e1;subst k;obtain⟨X,j⟩:∃X,w.alloc (G #[.slice f1 p.funcs.length f2,Va,U p.entry,U p.handler,Vd,Vb] 29)=X:=⟨_,rfl⟩;have d:Y w X:=by rw[<-j];exact(Below.refl _ _).alloc (Je _) _
 have c:Q X w.heap.size #[.slice f1 p.funcs.length f2,Va,U p.entry,U p.handler,Vd,Vb] 29:=by rw[<-j];exact zI rfl
 have m:=Ja (show ∀W,Y X W->I 35 #[.agg #[.slice f1 p.funcs.length f2,Va,U p.entry,U p.handler,Vd,Vb]] W (m9 W 0) from fun W hb=>g W (d.trans (hb.mono d.size)));have x0:=zA (i:=0) c rfl;have x1:=zA (i:=1) c rfl;have x2:=zA (i:=2) c rfl;have x3:=zA (i:=3) c rfl;have x4:=zA (i:=4) c rfl;have x5:=zA (i:=5) c rfl;have o:=lt_of_block c;have l:=Ja (Jb d c);clear d c;clear hp hB hs hv g;unfold yH;go_enter Tryz.func15,Tryz.ntmps15;go_wp2_with fail
 go_step3
 go_wp2_with (go_at_call 35;go_must (refine(m.out _ (Below.refl _ _)).mono ?_;rintro e w1 ⟨rfl,h⟩))
 try rw[Exit.noGoto_ret]
 go_ret;exact⟨rfl,l.out.1.trans (h.mono l.out.1.size)⟩
theorem ajq{B:Nat}{V:PV}{p:IProg}(hp:ProgIn w B V p)(hB:B<=w.heap.size)(hs:∀f∈p.funcs,vZ f)(hv:vC p=0)(f:Int)(a2:0<=f)(hf:(p.funcs.length:Int)<=f):
 I 15 #[yH V p,U f] w (aeW w):=by
 have j:∀W,Y w W->I 35 #[yH V p] W (m9 W 0):=fun W hb=>by
  have:=tu (hp.below (hb.mono hB)) (Jn hB hb.size) hs;rw[hv] at this;exact this
 have x:decide (f<0)=false:=decide_eq_false Zo;have u:decide ((p.funcs.length:Int)<=f)=true:=decide_eq_true hf;obtain⟨Vf,Va,Vd,Vb⟩:=V;obtain⟨f1,f2,e1,a1,a0⟩:=hp.funcs.form;have o:Vf=.slice f1 p.funcs.length f2:=e1;subst o;obtain⟨X,m⟩:∃X,w.alloc (G #[.slice f1 p.funcs.length f2,Va,U p.entry,U p.handler,Vd,Vb] 29)=X:=⟨_,rfl⟩;have d:Y w X:=by rw[<-m];exact(Below.refl _ _).alloc (Je _) _
 have c:Q X w.heap.size #[.slice f1 p.funcs.length f2,Va,U p.entry,U p.handler,Vd,Vb] 29:=by rw[<-m];exact zI rfl
 have t:=Ja (show ∀W,Y X W->I 35 #[.agg #[.slice f1 p.funcs.length f2,Va,U p.entry,U p.handler,Vd,Vb]] W (m9 W 0) from fun W hb=>j W (d.trans (hb.mono d.size)));have x0:=zA (i:=0) c rfl;have x1:=zA (i:=1) c rfl;have x2:=zA (i:=2) c rfl;have x3:=zA (i:=3) c rfl;have x4:=zA (i:=4) c rfl;have x5:=zA (i:=5) c rfl;have k:=lt_of_block c;have l:=Ja (Jb d c);clear d c;clear hp hB hs hv j;unfold yH;go_enter Tryz.func15,Tryz.ntmps15;go_wp2_with fail
 go_step3
 go_wp2_with (go_at_call 35;go_must (refine(t.out _ (Below.refl _ _)).mono ?_;rintro e w1 ⟨rfl,h⟩;have g:=zH h l.out.2 k;have y0:=zA (i:=0) g rfl;have y:=lt_of_block g))
 try rw[Exit.noGoto_ret]
 go_ret;exact⟨rfl,l.out.1.trans (h.mono l.out.1.size)⟩
theorem ahe{B:Nat}{V:PV}{p:IProg}(hp:ProgIn w B V p)(hB:B<=w.heap.size)(hs:∀f∈p.funcs,vZ f)(hv:vC p=0)(f:Nat)(hf:p.funcs[f]? =some []):
 I 15 #[yH V p,U f] w (aeW w):=by
 have m:∀W,Y w W->I 35 #[yH V p] W (m9 W 0):=fun W hb=>by
  have:=tu (hp.below (hb.mono hB)) (Jn hB hb.size) hs;rw[hv] at this;exact this
 have a7:=(Jh.1 hf).1;have a1:decide ((f:Int)<0)=false:=decide_eq_false Zo;have a0:decide ((p.funcs.length:Int)<=(f:Int))=false:=decide_eq_false Zo;have y:decide (p.funcs.length<=f)=false:=decide_eq_false Zo;obtain⟨Vf,Va,Vd,Vb⟩:=V;obtain⟨f1,f2,e1,b1,b0⟩:=hp.funcs.form;have u:Vf=.slice f1 p.funcs.length f2:=e1;subst u;obtain⟨X,t⟩:∃X,w.alloc (G #[.slice f1 p.funcs.length f2,Va,U p.entry,U p.handler,Vd,Vb] 29)=X:=⟨_,rfl⟩;have d:Y w X:=by rw[<-t];exact(Below.refl _ _).alloc (Je _) _
 have c:Q X w.heap.size #[.slice f1 p.funcs.length f2,Va,U p.entry,U p.handler,Vd,Vb] 29:=by rw[<-t];exact zI rfl
 have x:=Ja (show ∀W,Y X W->I 35 #[.agg #[.slice f1 p.funcs.length f2,Va,U p.entry,U p.handler,Vd,Vb]] W (m9 W 0) from fun W hb=>m W (d.trans (hb.mono d.size)));obtain⟨gb,go,rfl,k,bv,g0,l⟩:=hp.funcs.get hf;obtain⟨ka,kc,rfl,a5,a4⟩:=l.form;rw[Nk] at g0;have HG:=Ja (show ∀W,Y w W->A W gb (go+f) (.slice ka 0 kc) from fun W hb=>zV (hb.mono hB) k g0);have a6:gb<w.heap.size:=Zo;have x0:=zA (i:=0) c rfl;have x1:=zA (i:=1) c rfl;have x2:=zA (i:=2) c rfl;have x3:=zA (i:=3) c rfl;have x4:=zA (i:=4) c rfl;have x5:=zA (i:=5) c rfl;have o:=lt_of_block c;have h:=Ja (Jb d c);clear d c;clear hp hB hs hv m hf g0 l k;unfold yH;go_enter Tryz.func15,Tryz.ntmps15;go_wp2_with fail
 go_step3
 go_wp2_with (go_at_call 35;go_must (refine(x.out _ (Below.refl _ _)).mono ?_;rintro e w1 ⟨rfl,g⟩;have j:=zH g h.out.2 o;have y0:=zA (i:=0) j rfl;have yg:=HG.out w1 (h.out.1.trans (g.mono h.out.1.size));have a3:=lt_of_block j;have a2:gb<w1.heap.size:=by omega))
 try rw[Exit.noGoto_ret]
 go_ret;exact⟨rfl,h.out.1.trans (g.mono h.out.1.size)⟩
theorem afU{B:Nat}{V:PV}{p:IProg}(hp:ProgIn w B V p)(hB:B<=w.heap.size)(hs:∀f∈p.funcs,vZ f)(f:Int)(h:¬ak2 p f):
 I 15 #[yH V p,U f] w (aeW w):=by
 by_cases hv:vC p=0
 ·by_cases h1:f<0
  ·exact ajI hp hB hs hv f h1
  by_cases h2:(p.funcs.length:Int)<=f
  ·exact ajq hp hB hs hv f Zo h2
  obtain⟨n,rfl⟩:∃n:Nat,f=n:=⟨f.toNat,by omega⟩
  have c:n<p.funcs.length:=Zo
  have h3:p.funcs.getD n []=[]:=by
   by_cases e:p.funcs.getD n []=[]
   ·exact e
   ·exact absurd ⟨hv,⟨by omega,by omega⟩,e⟩ h
  refine ahe hp hB hs hv n ?_;rw[Jj,Jd c] at h3;rw[Jd c]
  simpa using h3
 ·exact aju hp hB hs hv f
abbrev aZ (p:IProg)(fa:Option Addr)(fc:Nat)(aa:Option Addr)(ac:Nat)(da:Option Addr)(dc:Nat)(ba:Option Addr)(bc:Nat):Array Value:=D p fa fc aa ac da dc ba bc
structure PBx (W:World) (b:Nat) (p:IProg) (fa:Option Addr) (fc:Nat) (aa:Option Addr) (ac:Nat) (da:Option Addr) (dc:Nat) (ba:Option Addr) (bc:Nat):Prop where
 blk:W.heap[b]? =some (.cells (aZ p fa fc aa ac da dc ba bc) 29 (0,0))
 prog:ProgIn W W.heap.size ⟨.slice fa p.funcs.length fc,.slice aa p.args.length ac,.slice da p.data.length dc,.slice ba p.banks.length bc⟩ p
section
variable {W W':World} {b:Nat} {p:IProg} {fa aa da ba:Option Addr} {fc ac dc bc:Nat}
theorem PBx.below (h:PBx W b p fa fc aa ac da dc ba bc)(hb:Y W W'):PBx W' b p fa fc aa ac da dc ba bc:=
 ⟨zH hb h.blk (lt_of_block h.blk),(h.prog.below hb).mono hb.size⟩
theorem PBx.new (h:ProgIn W W.heap.size ⟨.slice fa p.funcs.length fc,.slice aa p.args.length ac,.slice da p.data.length dc,.slice ba p.banks.length bc⟩ p):PBx (W.alloc (G (aZ p fa fc aa ac da dc ba bc) 29)) W.heap.size p fa fc aa ac da dc ba bc:=
 ⟨zI rfl,(h.below ((Below.refl _ _).alloc (Je _) _)).mono Zs⟩
theorem PBx.lt (h:PBx W b p fa fc aa ac da dc ba bc):b<W.heap.size:=lt_of_block h.blk
theorem PBx.c0 (h:PBx W b p fa fc aa ac da dc ba bc):A W b 0 (.slice fa p.funcs.length fc):=zA h.blk Zs
theorem PBx.c1 (h:PBx W b p fa fc aa ac da dc ba bc):A W b 1 (.slice aa p.args.length ac):=zA h.blk Zs
theorem PBx.c2 (h:PBx W b p fa fc aa ac da dc ba bc):A W b 2 (U p.entry):=zA h.blk Zs
theorem PBx.c3 (h:PBx W b p fa fc aa ac da dc ba bc):A W b 3 (U p.handler):=zA h.blk Zs
theorem PBx.c4 (h:PBx W b p fa fc aa ac da dc ba bc):A W b 4 (.slice da p.data.length dc):=zA h.blk Zs
theorem PBx.c5 (h:PBx W b p fa fc aa ac da dc ba bc):A W b 5 (.slice ba p.banks.length bc):=zA h.blk Zs
end
structure QBx (W:World) (b:Nat) (q0 q1 q2:Int):Prop where
 blk:W.heap[b]? =some (.cells #[.int .i64 q0,.int .i64 q1,.int .i64 q2] 23 (0,0))
section
variable {W W':World} {b:Nat} {q0 q1 q2:Int}
theorem QBx.below (h:QBx W b q0 q1 q2)(hb:Y W W'):QBx W' b q0 q1 q2:=⟨zH hb h.blk (lt_of_block h.blk)⟩
theorem QBx.c0 (h:QBx W b q0 q1 q2):A W b 0 (U q0):=zA h.blk Zs
theorem QBx.c1 (h:QBx W b q0 q1 q2):A W b 1 (U q1):=zA h.blk Zs
theorem QBx.c2 (h:QBx W b q0 q1 q2):A W b 2 (U q2):=zA h.blk Zs
end
end Go.Proofs.YtoahcpkibpomcaaGreat
