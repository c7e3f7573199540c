/- Part of a proof. -/
import Derived.Test.YtoahcpkibpomcaaGreatGIter
set_option maxRecDepth 8000
set_option linter.all false
set_option maxHeartbeats 4000000
set_option maxRecDepth 100000
namespace Go.Proofs.YtoahcpkibpomcaaGreat
open Go.RowKit
variable {W W' w w' w0 w1:World}{B0 Bi Bn Bv N bi bp bs i j k on vb vn x:Nat}{seen:List Bool}{ov pv tv:Value}{ns post rs:List Nat}{c d oa ob:Int}{K:MK}{m m':Mach}{idom xs:List Int}{t:ITerm}{f:Int->Int}{ds:List Deferred}{g:List (List Nat)}{ar:Option Addr}{o oi:Oper}
def vc (g:List (List Nat))(f:Nat)(st:List Bool×List Nat)(s:Nat):List Bool×List Nat:=if st.1.getD s true then st else oy g f st s
theorem aeM (g:List (List Nat))(f:Nat)(st:List Bool×List Nat)(n:Nat):
 oy g (f+1) st n=(((succ g n).foldl (vc g f) (st.1.set n true,st.2)).1,((succ g n).foldl (vc g f) (st.1.set n true,st.2)).2++ [n]):=rfl
theorem dN:∀ {seen:List Bool} {n:Nat},seen[n]? =some false->ey (seen.set n true)+1=ey seen
 | [],n,h=>by simp at h
 |b::l,0,h=>by simp at h;subst h;simp[ey]
 |b::l,n+1,h=>by
  have:=dN (seen:=l) (n:=n) (by simpa using h);unfold ey at this ⊢;cases b<;>simp at this ⊢<;>omega
structure SMem (w0 w:World) (B0 bs:Nat) (seen:List Bool) (pv:Value) (post:List Nat):Prop where
 hs:w.heap[bs]? =some (.cells (seen.map qy).toArray 4 (0,0))
 hp:w.ownsRow B0 3 1 pv post.length (post.map zj)
 hb:Below B0 w0 w
 lt:B0<=bs
theorem mn (g:List (List Nat)):∀(f:Nat) (st:List Bool×List Nat) (n:Nat),st.1[n]? =some false->(oy g f st n).1.length=st.1.length/\ey (oy g f st n).1<=ey st.1/\(oy g f st n).2.length+ey (oy g f st n).1<=st.2.length+ey st.1
 |0,st,n,_=>⟨rfl,Je _,Je _⟩
 |f+1,st,n,h=>by
  have ih:=mn g f
  have c:∀(l:List Nat) (s:List Bool×List Nat),(l.foldl (vc g f) s).1.length=s.1.length/\ey (l.foldl (vc g f) s).1<=ey s.1/\(l.foldl (vc g f) s).2.length+ey (l.foldl (vc g f) s).1<=s.2.length+ey s.1:=by
   intro l
   induction l with
   |nil=>intro s;exact⟨rfl,Je _,Je _⟩
   |cons a l ihl=>
    intro s
    have h1:(vc g f s a).1.length=s.1.length/\ey (vc g f s a).1<=ey s.1/\(vc g f s a).2.length+ey (vc g f s a).1<=s.2.length+ey s.1:=by
     unfold vc
     by_cases hs:s.1.getD a true=true
     ·rw[if_pos hs];exact⟨rfl,Je _,Je _⟩
     ·rw[if_neg hs];refine ih s a ?_;rw[Jj] at hs
      cases e:s.1[a]? with
      |none=>rw[e] at hs;simp at hs
      |some b=>rw[e] at hs;simp at hs;rw[hs]
    have h2:=ihl (vc g f s a);rw[Qk];omega
  have h1:=c (succ g n) (st.1.set n true,st.2);have h2:=dN h;rw[aeM];simp only[Nd,Jk,Ju] at h1 ⊢;omega
theorem i3 (g:List (List Nat))(f:Nat):∀(l:List Nat) (s:List Bool×List Nat),(l.foldl (vc g f) s).1.length=s.1.length/\ey (l.foldl (vc g f) s).1<=ey s.1/\(l.foldl (vc g f) s).2.length+ey (l.foldl (vc g f) s).1<=s.2.length+ey s.1
 | [],s=>⟨rfl,Je _,Je _⟩
 |a::l,s=>by
  have h1:(vc g f s a).1.length=s.1.length/\ey (vc g f s a).1<=ey s.1/\(vc g f s a).2.length+ey (vc g f s a).1<=s.2.length+ey s.1:=by
   unfold vc
   by_cases hs:s.1.getD a true=true
   ·rw[if_pos hs];exact⟨rfl,Je _,Je _⟩
   ·rw[if_neg hs];refine mn g f s a ?_;rw[Jj] at hs
    cases e:s.1[a]? with
    |none=>rw[e] at hs;simp at hs
    |some b=>rw[e] at hs;simp at hs;rw[hs]
  have h2:=i3 g f l (vc g f s a);rw[Qk];omega
theorem SMem.box(h:SMem w0 w B0 bs seen pv post)(o:Obj):SMem w0 (w.alloc o) B0 bs seen pv post:=by
 obtain⟨hs,hp,hb,lt⟩:=h;exact⟨zB hs,hp.alloc _,hb.alloc (by have:=lt_of_block hs;omega) _,lt⟩
theorem SMem.mark{n:Nat}(h:SMem w0 w B0 bs seen pv post):SMem w0 (w.setCell ⟨bs,n,none⟩ (.bool true)) B0 bs (seen.set n true) pv post:=by
 obtain⟨hs,hp,hb,lt⟩:=h;refine⟨?_,ownsRow_setCell_other hp (zC (b:=bs) hp hs (.inr Zd)) _,hb.setCell (show B0<=bs from lt) _,lt⟩;rw[zD hs];simp[qy,Ox]
structure ST (w w':World) (bs:Nat) (pv pv':Value):Prop where
 size:w.heap.size<=w'.heap.size
 blk:∀k,k<w.heap.size->k≠bs->pv.ownBlock≠some k->w'.heap[k]? =w.heap[k]?
 own:∀k,pv'.ownBlock=some k->pv.ownBlock=some k∨w.heap.size<=k
theorem ST.trans{w2:World}{a b c:Value}(h:ST w w1 bs a b)(k:ST w1 w2 bs b c):ST w w2 bs a c:=
 ⟨Jn h.size k.size,fun i h1 h2 h3=>(k.blk i (Jy h1 h.size) h2 (fun e=>by rcases h.own i e with e|e;exact h3 e;omega)).trans (h.blk i h1 h2 h3),
   fun i e=>by rcases k.own i e with e|e;exact h.own i e;right;have:=h.size;omega⟩
theorem ST.box (w:World)(o:Obj)(bs:Nat)(v:Value):ST w (w.alloc o) bs v v:=⟨by simp,fun k hk _ _=>Below.heap_alloc _ _ _ hk,fun _ e=> .inl e⟩
theorem ST.mark (w:World)(bs n:Nat)(u v:Value):ST w (w.setCell ⟨bs,n,none⟩ u) bs v v:=⟨by simp,fun k hk h _=>Below.heap_setCell _ _ _ _ h,fun _ e=> .inl e⟩
def Res.lt:Res Nat->Prop
 |.ok x _=>x<65536
 |.trap _ _ _=>True
def zQ (K:MK)(w:World)(r:Res Nat)(e:Ending)(w':World):Prop:=e=endOf r/\(∃ov',MachAt w' K r.mach ov')/\Frm K.B w w'/\r.lt
theorem zQ.ok{c:Value}(h:MachAt w' K m' c)(f:Frm K.B w w')(d:x<65536):zQ K w (.ok x m') (.returned (M x)) w':=⟨rfl,⟨c,h⟩,f,d⟩
theorem zQ.trap{c:Value}(h:MachAt w' K m' c)(d:Frm K.B w w'):zQ K w (.trap k i m') (.panicked [oE k i]) w':=⟨rfl,⟨c,h⟩,d,trivial⟩
theorem not16 (a:Nat)(h:a<65536):bits .xor .u16 IntKind.u16.max (a:Int)=((65535-a:Nat):Int):=by
 show IntKind.u16.wrap (((BitVec.ofInt 16 65535)^^^(BitVec.ofInt 16 (a:Int))).toNat:Int)=_
 have e1:BitVec.ofInt 16 65535=BitVec.allOnes 16:=by decide
 have e2:(BitVec.ofInt 16 (a:Int)).toNat=a:=by rw[BitVec.ofInt_natCast,BitVec.toNat_ofNat];exact Nat.mod_eq_of_lt h
 rw[e1,BitVec.xor_comm,BitVec.xor_allOnes,BitVec.toNat_not,e2,xY];omega
theorem or_low (x y:Nat)(d:x<256)(c:y<256):bits .or .u16 (IntKind.u16.wrap (x:Int)) (IntKind.u16.wrap (IntKind.u16.wrap (y:Int)*256))=((x+256*y:Nat):Int):=by
 have e1:IntKind.u16.wrap (x:Int)=(x:Int):=by rw[xY];omega
 have e2:IntKind.u16.wrap (IntKind.u16.wrap (y:Int)*256)=((y*256:Nat):Int):=by rw[xY,xY];omega
 rw[e1,e2,(bits_nat .u16 16 Zd wraps_u16 x (y*256) Zo Zo).2];have:=Nat.two_pow_add_eq_or_of_lt (i:=8) (b:=x) Zo y;rw[Nat.or_comm,show y*256=2^8*y by omega,<-this];omega
theorem step_1(h:MachAt w K m ov)(q:I64 oa)(l:I64 ob)(t:on<65536)(ab:Option Addr)(an ac:Nat){v:Int->Nat}(hv:xO w vb vn v)(d:Int):
 O 155 #[F K.pm,.agg #[I 1,I c,I oa,I ob,M on,.slice ab an ac],.map (some vb),I d] w (zQ K w (.ok on m)):=by
 have j:=fun(W:World) (hW:Frm K.B w W)=>(hv.kept hW).look q
 have i:=fun(W:World) (hW:Frm K.B w W)=>(hv.kept hW).look l
 have a1:=hv.2 oa;have a0:=hv.2 ob;have a2:=h.size;have k:=Ja (h.keep ((Below.refl _ _).alloc (Je _) (G #[I 1,I c,I oa,I ob,M on,.slice ab an ac] 76)));have g:=Ja ((Frm.refl K.B w).alloc Zo (G #[I 1,I c,I oa,I ob,M on,.slice ab an ac] 76));have la:=fun n:Nat=>j _ (g.out.drewN (n:=n))
 have lb:=fun n:Nat=>i _ (g.out.drewN (n:=n))
 have f:=zI (W:=w) (o:=G #[I 1,I c,I oa,I ob,M on,.slice ab an ac] 76) rfl;clear h hv j i;generalize v oa=xa at *;generalize v ob=xb at *;go_enter Tryz.func155,Tryz.ntmps155;go_upto_region 1 with fail;generalize u:w.alloc (G #[I 1,I c,I oa,I ob,M on,.slice ab an ac] 76)=W1 at *;clear u;have p0:=K0 f;have p2:=K2 f;have p3:=K3 f;have p4:=K4 f
 go_cut [9,10] (fun x y wx=>x=M xa/\y=M xb/\∃n,wx=W1.drewN n)
 case first=>
  go_quiet (fail);go_wp2;go_meet;exact⟨rfl,rfl,_,rfl⟩
 case rest=>
  obtain⟨rfl,rfl,n,rfl⟩:=hcut;have HM:=Ja (k.out.drewN n);have HF:=Ja (g.out.drewN (n:=n));have q0:(W1.drewN n).cell? ⟨w.heap.size,0,none⟩=_:=p0;have q2:(W1.drewN n).cell? ⟨w.heap.size,2,none⟩=_:=p2;have q4:(W1.drewN n).cell? ⟨w.heap.size,4,none⟩=_:=p4;clear la lb p0 p2 p3 p4 f k g;generalize W1.drewN n=W2 at *;go_wp2;go_ret;exact zQ.ok HM.out HF.out t
theorem step_3(h:MachAt w K m ov)(q:I64 oa)(l:I64 ob)(a2:on<65536)(ab:Option Addr)(an ac:Nat){v:Int->Nat}(hv:xO w vb vn v)(d:Int):
 O 155 #[F K.pm,.agg #[I 3,I c,I oa,I ob,M on,.slice ab an ac],.map (some vb),I d] w (zQ K w (.ok ((65536-v oa)%65536) m)):=by
 have j:=fun(W:World) (hW:Frm K.B w W)=>(hv.kept hW).look q
 have i:=fun(W:World) (hW:Frm K.B w W)=>(hv.kept hW).look l
 have a1:=hv.2 oa;have a0:=hv.2 ob;have a3:=h.size;have k:=Ja (h.keep ((Below.refl _ _).alloc (Je _) (G #[I 3,I c,I oa,I ob,M on,.slice ab an ac] 76)));have g:=Ja ((Frm.refl K.B w).alloc Zo (G #[I 3,I c,I oa,I ob,M on,.slice ab an ac] 76));have la:=fun n:Nat=>j _ (g.out.drewN (n:=n))
 have lb:=fun n:Nat=>i _ (g.out.drewN (n:=n))
 have f:=zI (W:=w) (o:=G #[I 3,I c,I oa,I ob,M on,.slice ab an ac] 76) rfl;clear h hv j i;generalize v oa=xa at *;generalize v ob=xb at *;go_enter Tryz.func155,Tryz.ntmps155;go_upto_region 1 with fail;generalize t:w.alloc (G #[I 3,I c,I oa,I ob,M on,.slice ab an ac] 76)=W1 at *;clear t;have p0:=K0 f;have p2:=K2 f;have p3:=K3 f;have p4:=K4 f
 go_cut [9,10] (fun x y wx=>x=M xa/\y=M xb/\∃n,wx=W1.drewN n)
 case first=>
  go_quiet (fail);go_wp2;go_meet;exact⟨rfl,rfl,_,rfl⟩
 case rest=>
  obtain⟨rfl,rfl,n,rfl⟩:=hcut;have u:=Ja (k.out.drewN n);have HF:=Ja (g.out.drewN (n:=n));have q0:(W1.drewN n).cell? ⟨w.heap.size,0,none⟩=_:=p0;have q2:(W1.drewN n).cell? ⟨w.heap.size,2,none⟩=_:=p2;have q4:(W1.drewN n).cell? ⟨w.heap.size,4,none⟩=_:=p4;clear la lb p0 p2 p3 p4 f k g;generalize W1.drewN n=W2 at *;go_wp2;go_ret;have e:Ending.returned (M (IntKind.u16.wrap (-(xa:Int))))=.returned (M (((65536-xa)%65536:Nat):Int)):=zh (by rw[xY];omega);exact e ▸ zQ.ok u.out HF.out Zo
theorem step_4(h:MachAt w K m ov)(t:I64 oa)(q:I64 ob)(a1:on<65536)(ab:Option Addr)(an ac:Nat){v:Int->Nat}(hv:xO w vb vn v)(d:Int):
 O 155 #[F K.pm,.agg #[I 4,I c,I oa,I ob,M on,.slice ab an ac],.map (some vb),I d] w (zQ K w (.ok (65535-v oa) m)):=by
 have j:=fun(W:World) (hW:Frm K.B w W)=>(hv.kept hW).look t
 have i:=fun(W:World) (hW:Frm K.B w W)=>(hv.kept hW).look q
 have l:=hv.2 oa;have a0:=hv.2 ob;have a2:=h.size;have k:=Ja (h.keep ((Below.refl _ _).alloc (Je _) (G #[I 4,I c,I oa,I ob,M on,.slice ab an ac] 76)));have g:=Ja ((Frm.refl K.B w).alloc Zo (G #[I 4,I c,I oa,I ob,M on,.slice ab an ac] 76));have la:=fun n:Nat=>j _ (g.out.drewN (n:=n))
 have lb:=fun n:Nat=>i _ (g.out.drewN (n:=n))
 have f:=zI (W:=w) (o:=G #[I 4,I c,I oa,I ob,M on,.slice ab an ac] 76) rfl;clear h hv j i;generalize v oa=xa at *;generalize v ob=xb at *;go_enter Tryz.func155,Tryz.ntmps155;go_upto_region 1 with fail;generalize u:w.alloc (G #[I 4,I c,I oa,I ob,M on,.slice ab an ac] 76)=W1 at *;clear u;have p0:=K0 f;have p2:=K2 f;have p3:=K3 f;have p4:=K4 f
 go_cut [9,10] (fun x y wx=>x=M xa/\y=M xb/\∃n,wx=W1.drewN n)
 case first=>
  go_quiet (fail);go_wp2;go_meet;exact⟨rfl,rfl,_,rfl⟩
 case rest=>
  obtain⟨rfl,rfl,n,rfl⟩:=hcut;have HM:=Ja (k.out.drewN n);have HF:=Ja (g.out.drewN (n:=n));have q0:(W1.drewN n).cell? ⟨w.heap.size,0,none⟩=_:=p0;have q2:(W1.drewN n).cell? ⟨w.heap.size,2,none⟩=_:=p2;have q4:(W1.drewN n).cell? ⟨w.heap.size,4,none⟩=_:=p4;clear la lb p0 p2 p3 p4 f k g;generalize W1.drewN n=W2 at *;go_wp2;go_ret;have e:Ending.returned (M (bits .xor .u16 IntKind.u16.max (xa:Int)))=.returned (M ((65535-xa:Nat):Int)):=zh (not16 xa l);exact e ▸ zQ.ok HM.out HF.out Zo
theorem step_18(h:MachAt w K m ov)(a3:I64 oa)(a2:I64 ob)(a7:on<65536)(ab:Option Addr)(an ac:Nat){v:Int->Nat}(hv:xO w vb vn v)(d:Int):
 O 155 #[F K.pm,.agg #[I 18,I c,I oa,I ob,M on,.slice ab an ac],.map (some vb),I d] w (zQ K w (pR m (v oa))):=by
 have q:=fun(W:World) (hW:Frm K.B w W)=>(hv.kept hW).look a3
 have l:=fun(W:World) (hW:Frm K.B w W)=>(hv.kept hW).look a2
 have j:=hv.2 oa;have a6:=hv.2 ob;have b0:=h.size;have a0:=Ja (h.keep ((Below.refl _ _).alloc (Je _) (G #[I 18,I c,I oa,I ob,M on,.slice ab an ac] 76)));have i:=Ja ((Frm.refl K.B w).alloc Zo (G #[I 18,I c,I oa,I ob,M on,.slice ab an ac] 76));have la:=fun n:Nat=>q _ (i.out.drewN (n:=n))
 have lb:=fun n:Nat=>l _ (i.out.drewN (n:=n))
 have f:=zI (W:=w) (o:=G #[I 18,I c,I oa,I ob,M on,.slice ab an ac] 76) rfl;clear h hv q l;generalize v oa=xa at *;generalize v ob=xb at *;go_enter Tryz.func155,Tryz.ntmps155;go_upto_region 1 with fail;generalize a4:w.alloc (G #[I 18,I c,I oa,I ob,M on,.slice ab an ac] 76)=W1 at *;clear a4;have p0:=K0 f;have p2:=K2 f;have p3:=K3 f;have p4:=K4 f
 go_cut [9,10] (fun x y wx=>x=M xa/\y=M xb/\∃n,wx=W1.drewN n)
 case first=>
  go_quiet (fail);go_wp2;go_meet;exact⟨rfl,rfl,_,rfl⟩
 case rest=>
  obtain⟨rfl,rfl,n,rfl⟩:=hcut;have g:=Ja (a0.out.drewN n);have HF:=Ja (i.out.drewN (n:=n));have q0:(W1.drewN n).cell? ⟨w.heap.size,0,none⟩=_:=p0;have q2:(W1.drewN n).cell? ⟨w.heap.size,2,none⟩=_:=p2;have q4:(W1.drewN n).cell? ⟨w.heap.size,4,none⟩=_:=p4;clear la lb p0 p2 p3 p4 f a0 i;generalize W1.drewN n=W2 at *;have k:xe xa<65536:=Qj _ Zd;have a5:IntKind.u16.wrap ((xa:Int)+1)=((xe xa:Nat):Int):=by rw[xY];unfold xe;omega
  by_cases h1:wo xa=true
  ·by_cases h2:wo (xe xa)=true
   ·have EE:=Ja (show pR m xa=.ok (tC m xa+256*tC m (xe xa)) m by unfold pR;rw[if_pos h1,if_pos h2]);obtain⟨r1,r2,_⟩:=g.out.ramCell h1;obtain⟨r3,r4,_⟩:=g.out.ramCell h2;have C1:=Ja h1;have C2:=Ja h2;have R2:=Ja (Jb r2 r4);have t1:True:=trivial;clear h1 h2 r2 r4;go_wp2_with (first|(go_at_call 159;have a1:=t1;clear t1;go_must (refine(vX g.out xa j C1.out).mono ?_;rintro e w' ⟨rfl,rfl⟩))|(go_at_call 159;go_must (refine(vX g.out (xe xa) k C2.out).mono ?_;rintro e w' ⟨rfl,rfl⟩)))
    go_ret;rw[EE.out];have e:Ending.returned (M (bits .or .u16 (IntKind.u16.wrap (tC m xa:Int)) (IntKind.u16.wrap (IntKind.u16.wrap (tC m (xe xa):Int)*256))))=.returned (M ((tC m xa+256*tC m (xe xa):Nat):Int)):=zh (or_low _ _ R2.out.1 R2.out.2);exact e ▸ zQ.ok g.out HF.out (by have:=R2.out;omega)
   ·have t:wo (xe xa)=false:=by simpa using h2
    have EE:=Ja (show pR m xa=.trap 2 (xe xa) m by unfold pR;rw[if_pos h1,if_neg h2]);obtain⟨r1,r2,_⟩:=g.out.ramCell h1;have C1:=Ja h1;have C2:=Ja t;have t1:True:=trivial;clear h1 h2 t r2;go_wp2_with (first|(go_at_call 159;have a1:=t1;clear t1;go_must (refine(vX g.out xa j C1.out).mono ?_;rintro e w' ⟨rfl,rfl⟩))|(go_at_call 159;go_must (refine(sX g.out (xe xa) k C2.out).mono ?_;rintro e w' ⟨rfl,rfl⟩)))
    exact⟨rfl,by rw[EE.out];exact zQ.trap g.out HF.out⟩
  ·have u:wo xa=false:=by simpa using h1
   have EE:=Ja (show pR m xa=.trap 2 xa m by unfold pR;rw[if_neg h1]);have C1:=Ja u;clear h1 u;go_wp2_with (go_at_call 159;go_must (refine(sX g.out xa j C1.out).mono ?_;rintro e w' ⟨rfl,rfl⟩))
   exact⟨rfl,by rw[EE.out];exact zQ.trap g.out HF.out⟩
theorem step_19(h:MachAt w K m ov)(a0:I64 oa)(u:I64 ob)(a3:on<65536)(ab:Option Addr)(an ac:Nat){v:Int->Nat}(hv:xO w vb vn v)(d:Int):
 O 155 #[F K.pm,.agg #[I 19,I c,I oa,I ob,M on,.slice ab an ac],.map (some vb),I d] w (zQ K w (abh m (v oa))):=by
 have l:=fun(W:World) (hW:Frm K.B w W)=>(hv.kept hW).look a0
 have k:=fun(W:World) (hW:Frm K.B w W)=>(hv.kept hW).look u
 have j:=hv.2 oa;have a2:=hv.2 ob;have a4:=h.size;have t:=Ja (h.keep ((Below.refl _ _).alloc (Je _) (G #[I 19,I c,I oa,I ob,M on,.slice ab an ac] 76)));have g:=Ja ((Frm.refl K.B w).alloc Zo (G #[I 19,I c,I oa,I ob,M on,.slice ab an ac] 76));have la:=fun n:Nat=>l _ (g.out.drewN (n:=n))
 have lb:=fun n:Nat=>k _ (g.out.drewN (n:=n))
 have f:=zI (W:=w) (o:=G #[I 19,I c,I oa,I ob,M on,.slice ab an ac] 76) rfl;clear h hv l k;generalize v oa=xa at *;generalize v ob=xb at *;go_enter Tryz.func155,Tryz.ntmps155;go_upto_region 1 with fail;generalize a1:w.alloc (G #[I 19,I c,I oa,I ob,M on,.slice ab an ac] 76)=W1 at *;clear a1;have p0:=K0 f;have p2:=K2 f;have p3:=K3 f;have p4:=K4 f
 go_cut [9,10] (fun x y wx=>x=M xa/\y=M xb/\∃n,wx=W1.drewN n)
 case first=>
  go_quiet (fail);go_wp2;go_meet;exact⟨rfl,rfl,_,rfl⟩
 case rest=>
  obtain⟨rfl,rfl,n,rfl⟩:=hcut;have i:=Ja (t.out.drewN n);have HF:=Ja (g.out.drewN (n:=n));have q0:(W1.drewN n).cell? ⟨w.heap.size,0,none⟩=_:=p0;have q2:(W1.drewN n).cell? ⟨w.heap.size,2,none⟩=_:=p2;have q4:(W1.drewN n).cell? ⟨w.heap.size,4,none⟩=_:=p4;clear la lb p0 p2 p3 p4 f t g;generalize W1.drewN n=W2 at *
  by_cases h1:wo xa=true
  ·have EE:=Ja (show abh m xa=.ok (tC m xa) m by unfold abh;rw[if_pos h1]);obtain⟨r1,r2,_⟩:=i.out.ramCell h1;have C1:=Ja h1;have R2:=Ja r2;clear h1 r2;go_wp2_with (go_at_call 159;go_must (refine(vX i.out xa j C1.out).mono ?_;rintro e w' ⟨rfl,rfl⟩))
   go_ret;rw[EE.out];have e:Ending.returned (M (IntKind.u16.wrap (tC m xa:Int)))=.returned (M ((tC m xa:Nat):Int)):=zh (by rw[xY];have:=R2.out;omega);exact e ▸ zQ.ok i.out HF.out (by have:=R2.out;omega)
  ·have q:wo xa=false:=by simpa using h1
   have EE:=Ja (show abh m xa=.trap 2 xa m by unfold abh;rw[if_neg h1]);have C1:=Ja q;clear h1 q;go_wp2_with (go_at_call 159;go_must (refine(sX i.out xa j C1.out).mono ?_;rintro e w' ⟨rfl,rfl⟩))
   exact⟨rfl,by rw[EE.out];exact zQ.trap i.out HF.out⟩
theorem step_20(h:MachAt w K m ov)(a6:I64 oa)(a5:I64 ob)(b2:on<65536)(ab:Option Addr)(an ac:Nat){v:Int->Nat}(hv:xO w vb vn v)(d:Int):
 O 155 #[F K.pm,.agg #[I 20,I c,I oa,I ob,M on,.slice ab an ac],.map (some vb),I d] w (zQ K w (sK m (v oa) (v ob))):=by
 have u:=fun(W:World) (hW:Frm K.B w W)=>(hv.kept hW).look a6
 have t:=fun(W:World) (hW:Frm K.B w W)=>(hv.kept hW).look a5
 have l:=hv.2 oa;have b1:=hv.2 ob;have b3:=h.size;have a2:=Ja (h.keep ((Below.refl _ _).alloc (Je _) (G #[I 20,I c,I oa,I ob,M on,.slice ab an ac] 76)));have k:=Ja ((Frm.refl K.B w).alloc Zo (G #[I 20,I c,I oa,I ob,M on,.slice ab an ac] 76));have la:=fun n:Nat=>u _ (k.out.drewN (n:=n))
 have lb:=fun n:Nat=>t _ (k.out.drewN (n:=n))
 have f:=zI (W:=w) (o:=G #[I 20,I c,I oa,I ob,M on,.slice ab an ac] 76) rfl;clear h hv u t;generalize v oa=xa at *;generalize v ob=xb at *;go_enter Tryz.func155,Tryz.ntmps155;go_upto_region 1 with fail;generalize a7:w.alloc (G #[I 20,I c,I oa,I ob,M on,.slice ab an ac] 76)=W1 at *;clear a7;have p0:=K0 f;have p2:=K2 f;have p3:=K3 f;have p4:=K4 f
 go_cut [9,10] (fun x y wx=>x=M xa/\y=M xb/\∃n,wx=W1.drewN n)
 case first=>
  go_quiet (fail);go_wp2;go_meet;exact⟨rfl,rfl,_,rfl⟩
 case rest=>
  obtain⟨rfl,rfl,n,rfl⟩:=hcut;have g:=Ja (a2.out.drewN n);have HF:=Ja (k.out.drewN (n:=n));have q0:(W1.drewN n).cell? ⟨w.heap.size,0,none⟩=_:=p0;have q2:(W1.drewN n).cell? ⟨w.heap.size,2,none⟩=_:=p2;have q4:(W1.drewN n).cell? ⟨w.heap.size,4,none⟩=_:=p4;clear la lb p0 p2 p3 p4 f a2 k;generalize W1.drewN n=W2 at *;have q:xe xa<65536:=Qj _ Zd;have b0:IntKind.u16.wrap ((xa:Int)+1)=((xe xa:Nat):Int):=by rw[xY];unfold xe;omega
  by_cases h1:wo xa=true
  ·by_cases h2:wo (xe xa)=true
   ·have EE:=Ja (show sK m xa xb=.ok 0 ((m.put xa (xb%256)).put (xe xa) (xb/256)) by unfold sK;rw[if_pos h1,if_pos h2]);obtain⟨r0,_,r1⟩:=g.out.ramCell h1;have j:=g.out.setR xa (xb%256) Zo;have i:=j.1.setR (xe xa) (xb/256) Zo;obtain⟨r2,_,r3⟩:=j.1.ramCell h2;rw[show((xb%256:Nat):Int)=(xb:Int)%256 by omega] at r2 r3 j i;rw[show((xb/256:Nat):Int)=(xb:Int)/256 by omega] at i;have C1:=Ja h1;have C2:=Ja h2;have a3:=Ja (Jb i.1 ((HF.out.trans j.2).trans i.2));have t1:True:=trivial;clear h1 h2 j i;go_wp2_with (first|(go_at_call 159;have a4:=t1;clear t1;go_must (refine(vX g.out xa l C1.out).mono ?_;rintro e w' ⟨rfl,rfl⟩))|(go_at_call 159;go_must (refine(vX g.out (xe xa) q C2.out).mono ?_;rintro e w' ⟨rfl,rfl⟩)))
    go_ret;rw[EE.out];exact zQ.ok (x:=0) a3.out.1 a3.out.2 Zd
   ·have a0:wo (xe xa)=false:=by simpa using h2
    have EE:=Ja (show sK m xa xb=.trap 2 (xe xa) m by unfold sK;rw[if_pos h1,if_neg h2]);obtain⟨r1,r2,_⟩:=g.out.ramCell h1;have C1:=Ja h1;have C2:=Ja a0;have t1:True:=trivial;clear h1 h2 a0 r2;go_wp2_with (first|(go_at_call 159;have a4:=t1;clear t1;go_must (refine(vX g.out xa l C1.out).mono ?_;rintro e w' ⟨rfl,rfl⟩))|(go_at_call 159;go_must (refine(sX g.out (xe xa) q C2.out).mono ?_;rintro e w' ⟨rfl,rfl⟩)))
    exact⟨rfl,by rw[EE.out];exact zQ.trap g.out HF.out⟩
  ·have a1:wo xa=false:=by simpa using h1
   have EE:=Ja (show sK m xa xb=.trap 2 xa m by unfold sK;rw[if_neg h1]);have C1:=Ja a1;clear h1 a1;go_wp2_with (go_at_call 159;go_must (refine(sX g.out xa l C1.out).mono ?_;rintro e w' ⟨rfl,rfl⟩))
   exact⟨rfl,by rw[EE.out];exact zQ.trap g.out HF.out⟩
theorem step_21(h:MachAt w K m ov)(a2:I64 oa)(a1:I64 ob)(a5:on<65536)(ab:Option Addr)(an ac:Nat){v:Int->Nat}(hv:xO w vb vn v)(d:Int):
 O 155 #[F K.pm,.agg #[I 21,I c,I oa,I ob,M on,.slice ab an ac],.map (some vb),I d] w (zQ K w (td m (v oa) (v ob))):=by
 have q:=fun(W:World) (hW:Frm K.B w W)=>(hv.kept hW).look a2
 have l:=fun(W:World) (hW:Frm K.B w W)=>(hv.kept hW).look a1
 have k:=hv.2 oa;have a4:=hv.2 ob;have a6:=h.size;have u:=Ja (h.keep ((Below.refl _ _).alloc (Je _) (G #[I 21,I c,I oa,I ob,M on,.slice ab an ac] 76)));have i:=Ja ((Frm.refl K.B w).alloc Zo (G #[I 21,I c,I oa,I ob,M on,.slice ab an ac] 76));have la:=fun n:Nat=>q _ (i.out.drewN (n:=n))
 have lb:=fun n:Nat=>l _ (i.out.drewN (n:=n))
 have f:=zI (W:=w) (o:=G #[I 21,I c,I oa,I ob,M on,.slice ab an ac] 76) rfl;clear h hv q l;generalize v oa=xa at *;generalize v ob=xb at *;go_enter Tryz.func155,Tryz.ntmps155;go_upto_region 1 with fail;generalize a3:w.alloc (G #[I 21,I c,I oa,I ob,M on,.slice ab an ac] 76)=W1 at *;clear a3;have p0:=K0 f;have p2:=K2 f;have p3:=K3 f;have p4:=K4 f
 go_cut [9,10] (fun x y wx=>x=M xa/\y=M xb/\∃n,wx=W1.drewN n)
 case first=>
  go_quiet (fail);go_wp2;go_meet;exact⟨rfl,rfl,_,rfl⟩
 case rest=>
  obtain⟨rfl,rfl,n,rfl⟩:=hcut;have j:=Ja (u.out.drewN n);have HF:=Ja (i.out.drewN (n:=n));have q0:(W1.drewN n).cell? ⟨w.heap.size,0,none⟩=_:=p0;have q2:(W1.drewN n).cell? ⟨w.heap.size,2,none⟩=_:=p2;have q4:(W1.drewN n).cell? ⟨w.heap.size,4,none⟩=_:=p4;clear la lb p0 p2 p3 p4 f u i;generalize W1.drewN n=W2 at *
  by_cases h1:wo xa=true
  ·have EE:=Ja (show td m xa xb=.ok 0 (m.put xa (xb%256)) by unfold td;rw[if_pos h1]);obtain⟨r0,_,r1⟩:=j.out.ramCell h1;have g:=j.out.setR xa (xb%256) Zo;rw[show((xb%256:Nat):Int)=(xb:Int)%256 by omega] at g;have C1:=Ja h1;have a0:=Ja (Jb g.1 (HF.out.trans g.2));clear h1 g;go_wp2_with (go_at_call 159;go_must (refine(vX j.out xa k C1.out).mono ?_;rintro e w' ⟨rfl,rfl⟩))
   go_ret;rw[EE.out];exact zQ.ok (x:=0) a0.out.1 a0.out.2 Zd
  ·have t:wo xa=false:=by simpa using h1
   have EE:=Ja (show td m xa xb=.trap 2 xa m by unfold td;rw[if_neg h1]);have C1:=Ja t;clear h1 t;go_wp2_with (go_at_call 159;go_must (refine(sX j.out xa k C1.out).mono ?_;rintro e w' ⟨rfl,rfl⟩))
   exact⟨rfl,by rw[EE.out];exact zQ.trap j.out HF.out⟩
def pq (K:MK)(r:Nat):Prop:=
 ∀(w:World) (m:Mach) (ov av:Value) (f:Int) (args:List Nat),MachAt w K m ov->0<=f->f.toNat<K.E.p.funcs.length->wV w w.heap.size av args->(args.length:Int)=K.E.p.args.getD f.toNat 0->
  O 150 #[F K.pm,I f,av,I (101-(r:Int))] w (zQ K w (xW K.E r f args m))
theorem Tryz.info_u16:(Tryz.prog.info? 43).map (fun i=>(i.zero,i.size,i.bytes))=some (some (M 0),1,2):=by kernel_rfl
theorem ms{S:Nat}{av:Value}{n:Nat}{xs:List Nat}(h:w.ownsRow S 43 1 av n (xs.map vL))(i:xs.length=n)(f:∀x∈xs,x<65536):wV w w.heap.size av xs:=by
 subst i;obtain⟨a,c,rfl⟩:=zG h;have hl:=zm h;refine⟨a,c,rfl,hl.1,by omega,fun k x hk=>?_⟩;have j:=(Jh.1 hk).1;obtain⟨g,l,e,hg,d⟩:=h.form Zo;cases e;refine⟨g,0,rfl,d,?_,f x (Ji hk)⟩;rw[Nk,Ng];exact(h.cellAt k Zo).trans (by rw[Jr,hk];rfl)
def uT (v:Int->Nat)(xs:List Int)(k:Nat):List Nat:=(xs.take k).map v
theorem qH{v:Int->Nat}{x:Int}(h:xs[k]? =some x):uT v xs (k+1)=uT v xs k++ [v x]:=by unfold uT;rw[Nh,h,Js];rfl
theorem pA{v:Int->Nat}(h:k<=xs.length):(uT v xs k).length=k:=by unfold uT;rw[Nr,Oc];omega
theorem r8{v:Int->Nat}:uT v xs xs.length=xs.map v:=by unfold uT;rw[Nl]
theorem step_26(h:MachAt w K m ov)(d3:I64 oa)(d2:I64 ob)(e7:on<65536){av:Value}(a3:zY w w.heap.size av xs)(e5:xs.length<=65536)
  {v:Int->Nat} (hv:xO w vb vn v) {r:Nat} (hr:r<=100) (hC:pq K r) (hf:0<=oa/\oa.toNat<K.E.p.funcs.length/\(xs.length:Int)=K.E.p.args.getD oa.toNat 0):
 O 155 #[F K.pm,.agg #[I 26,I d,I oa,I ob,M on,av],.map (some vb),I (100-(r:Int))] w (zQ K w (xW K.E r oa (xs.map v) m)):=by
 obtain⟨ab,ac,rfl,f1,e3⟩:=a3.form;have c0:=fun(W:World) (hW:Frm K.B w W)=>(hv.kept hW).look d3
 have b9:=fun(W:World) (hW:Frm K.B w W)=>(hv.kept hW).look d2
 have e8:=h.size;have c2:=Ja (h.keep ((Below.refl _ _).alloc (Je _) (G #[I 26,I d,I oa,I ob,M on,.slice ab xs.length ac] 76)));have a0:=Ja ((Frm.refl K.B w).alloc Zo (G #[I 26,I d,I oa,I ob,M on,.slice ab xs.length ac] 76));have c1:=Ja (a3.below zO ((Below.refl w.heap.size w).alloc (Je _) (G #[I 26,I d,I oa,I ob,M on,.slice ab xs.length ac] 76)));have la:=fun n:Nat=>c0 _ (a0.out.drewN (n:=n))
 have lb:=fun n:Nat=>b9 _ (a0.out.drewN (n:=n))
 have g:=zI (W:=w) (o:=G #[I 26,I d,I oa,I ob,M on,.slice ab xs.length ac] 76) rfl;have b8:=Ja (hv.kept a0.out);have HC:=Ja hC;have b3:=Ja hf;have a4:w.heap.size<(w.alloc (G #[I 26,I d,I oa,I ob,M on,.slice ab xs.length ac] 76)).heap.size:=by simp
 clear h hv c0 b9 a3 hC hf;obtain⟨xa,b6⟩:∃xa,v oa=xa:=⟨_,rfl⟩
 obtain⟨xb,b5⟩:∃xb,v ob=xb:=⟨_,rfl⟩
 rw[b6] at la;rw[b5] at lb;clear b6 b5;go_enter Tryz.func155,Tryz.ntmps155;go_upto_region 1 with fail;generalize d6:w.alloc (G #[I 26,I d,I oa,I ob,M on,.slice ab xs.length ac] 76)=W1 at *;clear d6;have p0:=K0 g;have p2:=K2 g;have p3:=K3 g;have p5:=K5 g
 go_cut [9,10] (fun x y wx=>x=M xa/\y=M xb/\∃n,wx=W1.drewN n)
 case first=>
  go_quiet (fail);go_wp2;go_meet;exact⟨rfl,rfl,_,rfl⟩
 case rest=>
  obtain⟨rfl,rfl,n,rfl⟩:=hcut;have HM:=Ja (c2.out.drewN n);have HF:=Ja (a0.out.drewN (n:=n));have b2:=Ja ((b8.out.kept (Frm.refl K.B W1).drewN:xO (W1.drewN n) vb vn v));have d8:=Ja (c1.out.below zO (yL w.heap.size W1 n));have q0:(W1.drewN n).cell? ⟨w.heap.size,0,none⟩=_:=p0;have q2:(W1.drewN n).cell? ⟨w.heap.size,2,none⟩=_:=p2;have q5:(W1.drewN n).cell? ⟨w.heap.size,5,none⟩=_:=p5;have d1:w.heap.size<(W1.drewN n).heap.size:=a4;clear la lb p0 p2 p3 p5 g c2 a0 b8 c1 a4;generalize W1.drewN n=W2 at *;go_wp2
  go_loopw [15,159] (fun rv kv wx=>∃k:Nat,k<=xs.length/\kv=I k/\Hid (wx.ownsRow W2.heap.size 43 1 rv k ((uT v xs k).map vL)/\Q W2 wx)) (fun _ kv _=>xs.length-(intOf kv).toNat)
  case atStart=>exact⟨0,Jt _,rfl,Jv _ _ _ _,Below.refl _ _⟩
  case round=>
   obtain⟨k,hk,rfl,l⟩:=hrel;obtain⟨ra,rc,rfl⟩:=zG l.out.1;have a2:Frm K.B W2 wr:=⟨l.out.2.mono (by have:=HM.out.size;omega),fun i o hi _=>zH l.out.2 hi (lt_of_block hi)⟩
   by_cases a6:k<xs.length
   ·have j:(k:Int)<xs.length:=Zo;have c4:=Ja a6;obtain⟨x,hx⟩:∃x,xs[k]? =some x:=⟨_,Jd a6⟩
    obtain⟨b,o,rfl,hb,b0,d0⟩:=d8.out.get hx;rw[Nk] at b0;have cx:=(l.out.2.cell (p:=⟨b,o+k,none⟩) (by show b<W2.heap.size;omega)).trans b0;have lx:=(b2.out.kept a2).look d0;have e6:=b2.out.2 x;have d7:=Ja (qH (v:=v) hx);have f0:=pA (v:=v) (show k<=xs.length by omega);obtain⟨ii,d4,c9,c8,c7⟩:=info_parts Tryz.info_u16;have e0:=l.out.2.size;clear hx b0 a6;generalize v x=vx at *;go_wp2_with (at_builtin;go_must (refine wpList_append_lies _ rfl (.tmp 163) (.tmp 167) 48 rfl W2.heap.size 43 ii (M 0) 1 2 Tryz.underlying48 d4 c9 c8 c7 rfl Zd _ k ((uT v xs k).map vL) rfl (l.out.1.alloc _) ⟨wr.heap.size,0,none⟩ 1 1 [M vx] rfl rfl (Oi (cs:=#[M vx]) (zI Zs)) (by simp[Value.oneCell']) Zd (by unfold maxLen;omega) Zo Zt (wr.heap.size+1) Zs ?_;intro gq e4 w6 a1 t e2 e1;have c3:=Ja (Jb a1 t);clear a1 t))
    go_roundw
    case rel=>
     refine⟨k+1,c4.out,by go_num,?_,(l.out.2.alloc Zo _).grown c3.out.2 Zt (fun k hk=>(l.out.1.lt k hk).1)⟩;rw[d7.out,Js];exact c3.out.1
    case measure=>have:=c4.out;simp[intOf];omega
   ·obtain rfl:k=xs.length:=by omega
    have j:¬(xs.length:Int)<xs.length:=Zo;have q:=l.out.1;rw[r8] at q;have d9:wr.cell? ⟨w.heap.size,2,none⟩=_:=(l.out.2.cell (p:=⟨w.heap.size,2,none⟩) d1).trans q2;have b1:=HM.out.keep l.out.2;have c:=HC.out wr m ov (.slice ra xs.length rc) oa (xs.map v) b1 b3.out.1 b3.out.2.1 (ms q Zs (fun y hy=>by obtain⟨z,_,rfl⟩:=Nu.1 hy;exact b2.out.2 z)) (by simpa using b3.out.2.2);have c5:=Ja (HF.out.trans a2)
    cases f:xW K.E r oa (xs.map v) m with
    |ok x m'=>
     have u:O 150 #[F K.pm,I oa,.slice ra xs.length rc,I (101-(r:Int))] wr fun e w'=>e=.returned (M x)/\(∃ov',MachAt w' K m' ov')/\Frm K.B wr w'/\x<65536:=by rw[f] at c;exact c
     have b4:=Ja u;have HR:=Ja f;clear c u f q b1 a2 j;have j:¬(xs.length:Int)<xs.length:=Zo;have d5:(100-(r:Int))+1=101-(r:Int):=Zo;go_wp2_with (go_at_call 150;go_must (refine b4.out.mono ?_;rintro e w' ⟨rfl,⟨ov',a5⟩,a7,b7⟩))
     go_ret;rw[HR.out]
     exact zQ.ok a5 (c5.out.trans a7) b7
    |trap k i m'=>
     have u:O 150 #[F K.pm,I oa,.slice ra xs.length rc,I (101-(r:Int))] wr fun e w'=>e=.panicked [oE k i]/\(∃ov',MachAt w' K m' ov')/\Frm K.B wr w'/\True:=by rw[f] at c;exact c
     have b4:=Ja u;have HR:=Ja f;clear c u f q b1 a2 j;have j:¬(xs.length:Int)<xs.length:=Zo;have d5:(100-(r:Int))+1=101-(r:Int):=Zo;go_wp2_with (go_at_call 150;go_must (refine b4.out.mono ?_;rintro e w' ⟨rfl,⟨ov',a5⟩,a7,b7⟩))
     exact⟨rfl,by rw[HR.out];exact zQ.trap a5 (c5.out.trans a7)⟩
def endP0:Res Nat->Ending
 |.ok _ _=> .returned (.tuple #[])
 |.trap k i _=> .panicked [oE k i]
def wU (K:MK)(w:World)(r:Res Nat)(e:Ending)(w':World):Prop:=e=endP0 r/\(∃ov',MachAt w' K r.mach ov')/\Frm K.B w w'
theorem wU.ok{c:Value}(h:MachAt w' K m' c)(d:Frm K.B w w'):wU K w (.ok x m') (.returned (.tuple #[])) w':=⟨rfl,⟨c,h⟩,d⟩
theorem wU.trap{c:Value}(h:MachAt w' K m' c)(d:Frm K.B w w'):wU K w (.trap k i m') (.panicked [oE k i]) w':=⟨rfl,⟨c,h⟩,d⟩
theorem u16s_nil (w:World)(B:Nat):wV w B (U) []:=⟨none,0,rfl,Je _,by decide,fun k x hk=>by simp at hk⟩
theorem poll_any(h:MachAt w K m ov)(a6:OkProg K.E.p){r:Nat}(hr:r<=100)(hC:pq K r):
 O 162 #[F K.pm,I (100-(r:Int))] w (wU K w (tY K.E (xW K.E r) m)):=by
 have c8:=h.c8;have c12:=h.c12;have g:=h.irq;obtain⟨ia,ic,a1,c9,c7⟩:=g.form;rw[a1] at c8 g;have HH:=Ja h;have b4:=h.pol;have b9:=Ja a1;have b7:=Ja a6;have HC:=Ja hC;clear h a1 a6 hC
 by_cases d:m.polls<K.E.irq.length
 ·obtain⟨x,hx⟩:∃x,K.E.irq[m.polls]? =some x:=⟨_,Jd d⟩
  obtain⟨b,o,rfl,a7,t,c4⟩:=g.get hx;have c0:=Ja a7;rw[Nk] at t;have hI:¬(K.E.irq.length:Int)<=m.polls:=Zo;have hJ:(m.polls:Int)<K.E.irq.length:=Zo
  have a5:tY K.E (xW K.E r) m=if x≠0/\K.E.p.handler≠-1 then(match xW K.E r K.E.p.handler [] {m with polls:=m.polls+1 } with|.ok _ m'=> .ok 0 m'|.trap k i m'=> .trap k i m') else .ok 0 {m with polls:=m.polls+1 }:=by
   unfold tY;rw[if_pos d,Jj,hx];rfl
  have a3:=Ja a5;have b0:=HH.out.free 12;have b8:=Ja d;have c1:K.E.irq.length<=9223372036854775807:=Zo;clear g d hx b4 a7 a5;go_enter Tryz.func162,Tryz.ntmps162;go_upto_region 0 with fail
  go_cut [14] (fun v wx=>v=.bool false/\∃n,wx=w.drewN n)
  case first=>
   go_quiet (fail);go_wp2;go_meet;exact⟨rfl,_,rfl⟩
  case rest=>
   obtain⟨rfl,n,rfl⟩:=hcut;have h1:=(HH.out.drewN n).setP b8.out HH.out.ne;have hF:Frm K.B w ((w.drewN n).setCell ⟨K.pm,12,none⟩ (I ((m.polls:Int)+1))):=(Frm.refl _ _).drewN.trans ((HH.out.drewN n).frm 12 _);have d8:(w.drewN n).cell? ⟨K.pm,8,none⟩=_:=c8;have d1:(w.drewN n).cell? ⟨K.pm,12,none⟩=_:=c12;have c2:Y (w.drewN n) K.pm 12:=b0;have e8:=h1.c8;rw[b9.out] at e8;have d0:=h1.c12;have e3:=h1.c3;have b6:=(hF.below.cell (p:=⟨b,o+m.polls,none⟩) c0.out).trans t;have c5:IntKind.i64.wrap (((m.polls+1:Nat):Int)-1)=(m.polls:Int):=by rw[show(((m.polls+1:Nat):Int)-1)=(m.polls:Int) by omega];exact Om _ Zo
   have H1:=Ja h1;have HF:=Ja hF;clear h1 hF c8 c12 b0;go_upto_region 2 with fail;generalize (w.drewN n).setCell ⟨K.pm,12,none⟩ (I ((m.polls:Int)+1))=W2 at *
   by_cases f:x=0
   ·have t1:((x:Int) !=0)=false:=by rw[bne_eq_false_iff_eq];omega
    have EE:=Ja (show tY K.E (xW K.E r) m=.ok 0 {m with polls:=m.polls+1 } by rw[a3.out,if_neg (fun h=>h.1 f)]);clear f;go_quiet (fail);go_wp2
    go_end0
    rw[EE.out];exact wU.ok (H1.out.drewN _) HF.out.drewN
   ·have t1:((x:Int) !=0)=true:=by rw[bne_iff_ne];omega
    by_cases l:K.E.p.handler=-1
    ·have t2:(K.E.p.handler !=-1)=false:=by rw[bne_eq_false_iff_eq];exact l
     have EE:=Ja (show tY K.E (xW K.E r) m=.ok 0 {m with polls:=m.polls+1 } by rw[a3.out,if_neg (fun h=>h.2 l)]);clear f l;go_quiet (fail);go_wp2
     go_end0
     rw[EE.out];exact wU.ok (H1.out.drewN _) HF.out.drewN
    ·have t2:(K.E.p.handler !=-1)=true:=by rw[bne_iff_ne];exact l
     have y:=a3.out;rw[if_pos ⟨f,l⟩] at y
     have u:∀q,pq K r->O 150 #[F K.pm,I K.E.p.handler,U,I (101-(r:Int))] (W2.drewN q) (zQ K (W2.drewN q) (xW K.E r K.E.p.handler [] {m with polls:=m.polls+1 })):=fun q hC=>by
      obtain⟨h1,h2,h3⟩:=b7.out.hnd l;exact hC (W2.drewN q) _ ov _ _ [] (H1.out.drewN q) h1 h2 (u16s_nil _ _) (by rw[h3];rfl)
     have b2:=Ja (fun q=>u q HC.out);have b1:=Ja y;clear f l u y
     go_cut [42] (fun v wx=>v=.bool true/\∃q,wx=W2.drewN q)
     case first=>
      go_quiet (fail);go_wp2;go_meet;exact⟨rfl,_,rfl⟩
     case rest=>
      obtain⟨rfl,q,rfl⟩:=hcut;have g3:(W2.drewN q).cell? ⟨K.pm,3,none⟩=_:=e3
      cases c:xW K.E r K.E.p.handler [] {m with polls:=m.polls+1 } with
      |ok x m'=>
       have j:O 150 #[F K.pm,I K.E.p.handler,U,I (101-(r:Int))] (W2.drewN q) fun e w'=>e=.returned (M x)/\(∃ov',MachAt w' K m' ov')/\Frm K.B (W2.drewN q) w'/\x<65536:=by have:=b2.out q;rw[c] at this;exact this
       have a4:=Ja j;have EE:=Ja (show tY K.E (xW K.E r) m=.ok 0 m' by rw[b1.out,c]);clear j c;have b5:(100-(r:Int))+1=101-(r:Int):=Zo;go_wp2_with (go_at_call 150;go_must (refine a4.out.mono ?_;rintro e w' ⟨rfl,⟨ov',a0⟩,a2,b3⟩))
       go_end0
       rw[EE.out]
       exact wU.ok a0 (HF.out.drewN.trans a2)
      |trap k i m'=>
       have j:O 150 #[F K.pm,I K.E.p.handler,U,I (101-(r:Int))] (W2.drewN q) fun e w'=>e=.panicked [oE k i]/\(∃ov',MachAt w' K m' ov')/\Frm K.B (W2.drewN q) w'/\True:=by have:=b2.out q;rw[c] at this;exact this
       have a4:=Ja j;have EE:=Ja (show tY K.E (xW K.E r) m=.trap k i m' by rw[b1.out,c]);clear j c;have b5:(100-(r:Int))+1=101-(r:Int):=Zo;go_wp2_with (go_at_call 150;go_must (refine a4.out.mono ?_;rintro e w' ⟨rfl,⟨ov',a0⟩,a2,b3⟩))
       exact⟨rfl,by rw[EE.out];exact wU.trap a0 (HF.out.drewN.trans a2)⟩
 ·have hI:(K.E.irq.length:Int)<=m.polls:=Zo;have e:tY K.E (xW K.E r) m=.ok 0 m:=by unfold tY;rw[if_neg d]
  have EE:=Ja e;clear e g d;go_enter Tryz.func162,Tryz.ntmps162;go_wp2;go_quiet (fail);go_wp2
  first|go_end0|refine bodyPost_ret (results_none rfl _ _ _) rfl ?_
  rw[EE.out];exact wU.ok (HH.out.drewN _) (Frm.refl _ _).drewN
def tg (w:World)(a:Rg)(e:Ending)(w':World):Prop:=e=.returned (.agg #[M (a.lo:Int),M (a.hi:Int)])/\Q w w'
theorem afI (x y:Nat):∀(ts:Array TypeId) (t:TypeId) (W:World),(Builtin.max_ ts t #[M x,M y]).run Tryz.prog W=.ok (M ((max x y:Nat):Int)) W:=fun ts t W=>by
 rw[run_max_int2,show(if(y:Int)>x then(y:Int) else x)=((max x y:Nat):Int) by split<;>omega]
theorem ahd (x y:Nat):∀(ts:Array TypeId) (t:TypeId) (W:World),(Builtin.min_ ts t #[M x,M y]).run Tryz.prog W=.ok (M ((min x y:Nat):Int)) W:=fun ts t W=>by
 rw[run_min_int2,show(if(y:Int)<x then(y:Int) else x)=((min x y:Nat):Int) by split<;>omega]
theorem full_any (w:World):O 39 #[] w (tg w zx):=by
 go_enter Tryz.func39,Tryz.ntmps39;go_wp2;refine bodyPost_ret (v:=.agg #[M 0,M 65535]) ?_ rfl ?_
 ·rw[zM rfl];go_simp
 ·exact⟨rfl,by repeat' (first|exact Below.refl _ _|assumption|(refine Below.alloc ?_ (by first|(simp;done)|(simp;omega)) _)|(refine Below.setCell ?_ (by first|(simp;done)|(simp;omega)) _))⟩
theorem q6 (w:World):O 39 #[] w (fun e w'=>e=.returned (.agg #[M 0,M 65535])/\Q w w'):=full_any w
theorem afx (w:World)(n:Nat):O 122 #[M n] w (tg w (pt n)):=by
 go_enter Tryz.func122,Tryz.ntmps122;go_wp2;refine bodyPost_ret (v:=.agg #[M n,M n]) ?_ rfl ?_
 ·rw[zM rfl];go_simp
 ·exact⟨rfl,by repeat' (first|exact Below.refl _ _|assumption|(refine Below.alloc ?_ (by first|(simp;done)|(simp;omega)) _)|(refine Below.setCell ?_ (by first|(simp;done)|(simp;omega)) _))⟩
theorem m5 (w:World)(a:Rg):O 83 #[.agg #[M (a.lo:Int),M (a.hi:Int)]] w (fun e w'=>e=.returned (.bool (yf a))/\Q w w'):=by
 obtain⟨q,c⟩:∃q,yf a=q:=⟨_,rfl⟩
 have hb:((a.lo:Int)==(a.hi:Int))=q:=by rw[<-c];unfold yf;rw[Bool.eq_iff_iff,beq_iff_eq,decide_eq_true_eq];omega
 rw[c];clear c;go_enter Tryz.func83,Tryz.ntmps83;go_wp2;go_ret;exact⟨rfl,by repeat' (first|exact Below.refl _ _|assumption|(refine Below.alloc ?_ (by first|(simp;done)|(simp;omega)) _)|(refine Below.setCell ?_ (by first|(simp;done)|(simp;omega)) _))⟩
theorem hull_any (w:World)(a b:Rg):O 92 #[.agg #[M (a.lo:Int),M (a.hi:Int)],.agg #[M (b.lo:Int),M (b.hi:Int)]] w (tg w (tn a b)):=by
 obtain⟨x,d⟩:∃x,min a.lo b.lo=x:=⟨_,rfl⟩
 obtain⟨y,c⟩:∃y,max a.hi b.hi=y:=⟨_,rfl⟩
 have h1:=ahd a.lo b.lo;have h2:=afI a.hi b.hi;rw[d] at h1;rw[c] at h2;have hr:tn a b=⟨x,y⟩:=by unfold tn;rw[d,c]
 rw[hr];clear d c hr;go_enter Tryz.func92,Tryz.ntmps92;go_wp2;refine bodyPost_ret (v:=.agg #[M x,M y]) ?_ rfl ?_
 ·rw[zM rfl];go_simp
 ·exact⟨rfl,by repeat' (first|exact Below.refl _ _|assumption|(refine Below.alloc ?_ (by first|(simp;done)|(simp;omega)) _)|(refine Below.setCell ?_ (by first|(simp;done)|(simp;omega)) _))⟩
theorem i4 (w:World){lo hi:Int}(hl:-70000000<=lo/\lo<=70000000)(k:-70000000<=hi/\hi<=70000000):O 71 #[I lo,I hi] w (tg w (wb lo hi)):=by
 obtain⟨x,f⟩:∃x,(lo%65536).toNat=x:=⟨_,rfl⟩
 obtain⟨y,d⟩:∃y,(hi%65536).toNat=y:=⟨_,rfl⟩
 have e1:IntKind.u16.wrap lo=(x:Int):=by rw[xY];omega
 have e2:IntKind.u16.wrap hi=(y:Int):=by rw[xY];omega
 by_cases h:lo/65536=hi/65536
 ·have hr:wb lo hi=⟨x,y⟩:=by unfold wb;rw[if_pos h,f,d]
  have hb:(lo/65536 !=hi/65536)=false:=by simp[h]
  rw[hr];clear hr f d h;go_enter Tryz.func71,Tryz.ntmps71;go_wp2;refine bodyPost_ret (v:=.agg #[M x,M y]) ?_ rfl ⟨rfl,by repeat' (first|exact Below.refl _ _|assumption|(refine Below.alloc ?_ (by first|(simp;done)|(simp;omega)) _)|(refine Below.setCell ?_ (by first|(simp;done)|(simp;omega)) _))⟩;rw[zM rfl];go_simp
 ·have hr:wb lo hi=⟨0,65535⟩:=by unfold wb;rw[if_neg h];rfl
  have hb:(lo/65536 !=hi/65536)=true:=by simp[h]
  rw[hr];clear hr f d h;go_enter Tryz.func71,Tryz.ntmps71;go_wp2_with (go_at_call 39;go_must (refine(q6 _).mono ?_;rintro e w1 ⟨rfl,c⟩;have hk:A w1 w.heap.size #[M 0,M 0] 45:=zH c (zI Zs) Zs;have f0:=zA (i:=0) hk rfl;have f1:=zA (i:=1) hk rfl;have g0:=zE (i:=0) hk;have g1:=zE (i:=1) hk;have g:=lt_of_block hk;have j:=Below.trans (show Q w _ from by repeat' (first|exact Below.refl _ _|(refine Below.alloc ?_ (by first|(simp;done)|(simp;omega)) _))) (c.mono (by first|(simp;done)|(simp;omega)));clear c hk))
  refine bodyPost_ret (v:=.agg #[M 0,M 65535]) ?_ rfl ⟨rfl,by repeat' (first|exact Below.refl _ _|assumption|(refine Below.alloc ?_ (by first|(simp;done)|(simp;omega)) _)|(refine Below.setCell ?_ (by first|(simp;done)|(simp;omega)) _))⟩;rw[zM rfl];go_simp
theorem abv (w:World){lo hi:Nat}(hl:lo<=hi)(g:hi<9223372036854775807):O 76 #[I lo,I hi] w (tg w (wk lo hi)):=by
 by_cases h:hi<=65535
 ·have hr:wk lo hi=⟨lo,hi⟩:=by unfold wk;rw[if_pos h]
  have e1:IntKind.u16.wrap (lo:Int)=(lo:Int):=by rw[xY];omega
  have e2:IntKind.u16.wrap (hi:Int)=(hi:Int):=by rw[xY];omega
  have hb:¬(65535:Int)<(hi:Int):=Zo;rw[hr];clear hr h;go_enter Tryz.func76,Tryz.ntmps76;go_wp2;refine bodyPost_ret (v:=.agg #[M lo,M hi]) ?_ rfl ⟨rfl,by repeat' (first|exact Below.refl _ _|assumption|(refine Below.alloc ?_ (by first|(simp;done)|(simp;omega)) _)|(refine Below.setCell ?_ (by first|(simp;done)|(simp;omega)) _))⟩;rw[zM rfl];go_simp
 ·have hr:wk lo hi=⟨0,65535⟩:=by unfold wk;rw[if_neg h];rfl
  have hb:(65535:Int)<(hi:Int):=Zo;rw[hr];clear hr h;go_enter Tryz.func76,Tryz.ntmps76;go_wp2_with (go_at_call 39;go_must (refine(q6 _).mono ?_;rintro e w1 ⟨rfl,c⟩;have hk:A w1 w.heap.size #[M 0,M 0] 45:=zH c (zI Zs) Zs;have f0:=zA (i:=0) hk rfl;have f1:=zA (i:=1) hk rfl;have g0:=zE (i:=0) hk;have g1:=zE (i:=1) hk;have d:=lt_of_block hk;have f:=Below.trans (show Q w _ from by repeat' (first|exact Below.refl _ _|(refine Below.alloc ?_ (by first|(simp;done)|(simp;omega)) _))) (c.mono (by first|(simp;done)|(simp;omega)));clear c hk))
  refine bodyPost_ret (v:=.agg #[M 0,M 65535]) ?_ rfl ⟨rfl,by repeat' (first|exact Below.refl _ _|assumption|(refine Below.alloc ?_ (by first|(simp;done)|(simp;omega)) _)|(refine Below.setCell ?_ (by first|(simp;done)|(simp;omega)) _))⟩;rw[zM rfl];go_simp
theorem ae4 (w:World){a b:Rg}(i:a.lo<65536/\a.hi<65536)(hb:b.lo<65536):O 84 #[.agg #[M (a.lo:Int),M (a.hi:Int)],.agg #[M (b.lo:Int),M (b.hi:Int)]] w (tg w (ro a b)):=by
 by_cases h:b.lo=b.hi
 ·obtain⟨x,d⟩:∃x,a.lo/2^(b.lo%16)=x:=⟨_,rfl⟩
  obtain⟨y,c⟩:∃y,a.hi/2^(b.lo%16)=y:=⟨_,rfl⟩
  have hr:ro a b=⟨x,y⟩:=by unfold ro yf;rw[if_pos (by simpa using h),d,c]
  have g:((b.lo:Int)==(b.hi:Int))=true:=by rw[beq_iff_eq];omega
  rw[hr];have f:=Ja (Jb d c);clear hr h d c;go_enter Tryz.func84,Tryz.ntmps84;go_wp2_with go_in;refine bodyPost_ret (v:=.agg #[M ((a.lo:Int)/2^(b.lo%16)),M ((a.hi:Int)/2^(b.lo%16))]) ?_ rfl ⟨by rw[<-f.out.1,<-f.out.2];simp,by repeat' (first|exact Below.refl _ _|assumption|(refine Below.alloc ?_ (by first|(simp;done)|(simp;omega)) _)|(refine Below.setCell ?_ (by first|(simp;done)|(simp;omega)) _))⟩;rw[zM rfl];go_simp
 ·have hr:ro a b=⟨0,a.hi⟩:=by unfold ro yf;rw[if_neg (by simpa using h)]
  have g:((b.lo:Int)==(b.hi:Int))=false:=Ze;rw[hr];clear hr h;go_enter Tryz.func84,Tryz.ntmps84;go_wp2_with go_in;refine bodyPost_ret (v:=.agg #[M 0,M (a.hi:Int)]) ?_ rfl ⟨rfl,by repeat' (first|exact Below.refl _ _|assumption|(refine Below.alloc ?_ (by first|(simp;done)|(simp;omega)) _)|(refine Below.setCell ?_ (by first|(simp;done)|(simp;omega)) _))⟩;rw[zM rfl];go_simp
theorem aa1 (w:World)(p q:Bool):O 87 #[.bool p,.bool q] w (tg w (if p=true then⟨1,1⟩ else if q=true then⟨0,0⟩ else⟨0,1⟩)):=by
 cases p
 ·cases q
  ·show O 87 #[.bool false,.bool false] w (tg w ⟨0,1⟩)
   go_enter Tryz.func87,Tryz.ntmps87;go_wp2;refine bodyPost_ret (v:=.agg #[M 0,M 1]) ?_ rfl ⟨rfl,by repeat' (first|exact Below.refl _ _|assumption|(refine Below.alloc ?_ (by first|(simp;done)|(simp;omega)) _)|(refine Below.setCell ?_ (by first|(simp;done)|(simp;omega)) _))⟩;rw[zM rfl];go_simp
  ·show O 87 #[.bool false,.bool true] w (tg w ⟨0,0⟩)
   go_enter Tryz.func87,Tryz.ntmps87;go_wp2_with (go_at_call 122;go_must (refine(show O 122 #[M 0] _ (fun e w'=>e=.returned (.agg #[M 0,M 0])/\Below _ _ w') from afx _ 0).mono ?_;rintro e w1 ⟨rfl,c⟩;have hk:A w1 w.heap.size #[M 0,M 0] 45:=zH c (zI Zs) Zs;have f0:=zA (i:=0) hk rfl;have f1:=zA (i:=1) hk rfl;have g0:=zE (i:=0) hk;have g1:=zE (i:=1) hk;have d:=lt_of_block hk;have f:=Below.trans (show Q w _ from by repeat' (first|exact Below.refl _ _|(refine Below.alloc ?_ (by first|(simp;done)|(simp;omega)) _))) (c.mono (by first|(simp;done)|(simp;omega)));clear c hk))
   refine bodyPost_ret (v:=.agg #[M 0,M 0]) ?_ rfl ⟨rfl,by repeat' (first|exact Below.refl _ _|assumption|(refine Below.alloc ?_ (by first|(simp;done)|(simp;omega)) _)|(refine Below.setCell ?_ (by first|(simp;done)|(simp;omega)) _))⟩;rw[zM rfl];go_simp
 ·show O 87 #[.bool true,.bool q] w (tg w ⟨1,1⟩)
  go_enter Tryz.func87,Tryz.ntmps87;go_wp2_with (go_at_call 122;go_must (refine(show O 122 #[M 1] _ (fun e w'=>e=.returned (.agg #[M 1,M 1])/\Below _ _ w') from afx _ 1).mono ?_;rintro e w1 ⟨rfl,c⟩;have hk:A w1 w.heap.size #[M 0,M 0] 45:=zH c (zI Zs) Zs;have f0:=zA (i:=0) hk rfl;have f1:=zA (i:=1) hk rfl;have g0:=zE (i:=0) hk;have g1:=zE (i:=1) hk;have d:=lt_of_block hk;have f:=Below.trans (show Q w _ from by repeat' (first|exact Below.refl _ _|(refine Below.alloc ?_ (by first|(simp;done)|(simp;omega)) _))) (c.mono (by first|(simp;done)|(simp;omega)));clear c hk))
  refine bodyPost_ret (v:=.agg #[M 1,M 1]) ?_ rfl ⟨rfl,by repeat' (first|exact Below.refl _ _|assumption|(refine Below.alloc ?_ (by first|(simp;done)|(simp;omega)) _)|(refine Below.setCell ?_ (by first|(simp;done)|(simp;omega)) _))⟩;rw[zM rfl];go_simp
theorem af2(w:World){y:Nat}(t:x<65536)(q:y<65536):O 80 #[M x,M y] w (fun e w'=>e=.returned (M ((tx (max x y):Nat):Int))/\w=w'):=by
 obtain⟨z,l⟩:∃z,max x y=z:=⟨_,rfl⟩
 have h1:=afI x y;rw[l] at h1 ⊢;have i:z<65536:=Zo;have c:=aeY i;have h:=Ja (Jb (agR z) (Jb c (l5 z)));clear l t q c;go_enter Tryz.func80,Tryz.ntmps80;go_wp2
 go_loop [5] (fun mv=>∃m k:Nat,mv=I m/\m+1=2^k/\m<=tx z) (fun mv=>(65536-intOf mv).toNat)
 case atStart=>exact⟨0,0,rfl,rfl,Jt _⟩
 case round=>
  obtain⟨m,k,rfl,hk,hm⟩:=hrel;have d:=h.out.2.1;have HK:=Ja (Jb hk hm);have a2:m<65536:=Zo
  by_cases f:m<z
  ·have g:(m:Int)<(z:Int):=Zo
   have o:2*m+1<=tx z:=by
    obtain⟨j,h3,h4,_⟩:=h.out.2.2;have h5:=h.out.1;have h6:k<j:=(Nat.pow_lt_pow_iff_right (a:=2) Zd).1 Zo;have u:=Nat.pow_le_pow_right (show 0<2 by decide) (show k+1<=j by omega);rw[Nat.pow_succ] at u;omega
   have HN:=Ja o;clear hk hm d o f;go_wp2
   go_round
   case rel=>exact⟨2*m+1,k+1,by go_num,by have:=HK.out.1;rw[Nat.pow_succ];omega,HN.out⟩
   case measure=>simp[intOf];omega
  ·have g:¬(m:Int)<(z:Int):=Zo
   have a1:tx z=m:=by
    have:=af6 z m k hk Zo;omega
   have a0:IntKind.u16.wrap (m:Int)=(m:Int):=by rw[xY];omega
   clear f hk hm d;go_wp2;go_ret;exact⟨rfl,rfl⟩
def xT (t:ITerm)(k:Nat):List Int:=((t.to.take k).map (·.args)).flatten
theorem u7{e:IEdge}(h:t.to[k]? =some e):xT t (k+1)=xT t k++e.args:=by
 unfold xT;rw[Nh,h,Js,List.flatten_append];simp
theorem tP(h:∀e∈t.to,e.args.length<=2000000):∀k,k<=t.to.length->(xT t k).length<=k*2000000
 |0,_=>Jt _
 |k+1,hk=>by
  obtain⟨e,he⟩:∃e,t.to[k]? =some e:=⟨_,Jd Zo⟩
  rw[u7 he,Jk];have:=tP h k Zo;have:=h e (Ji he);omega
theorem si (t:ITerm):xT t t.to.length=(t.to.map (·.args)).flatten:=by unfold xT;rw[Nl]
theorem my:∀b2 b3 b4 b5:Bool,(b2||(b3||b4 && b5))=true->(b2=true)∨(b2=false/\b3=true)∨(b2=false/\b3=false/\b4=true/\b5=true)
 |true,_,_,_,_=> .inl rfl
 |false,true,_,_,_=> .inr (.inl ⟨rfl,rfl⟩)
 |false,false,true,true,_=> .inr (.inr ⟨rfl,rfl,rfl,rfl⟩)
theorem lB:∀b2 b3 b4 b5:Bool,(b2||(b3||b4 && b5))=false->(b2=false/\b3=false/\b4=false)∨(b2=false/\b3=false/\b4=true/\b5=false)
 |false,false,false,_,_=> .inl ⟨rfl,rfl,rfl⟩
 |false,false,true,false,_=> .inr ⟨rfl,rfl,rfl,rfl⟩
structure EndsMem (w wx:World) (xs:List Int) (v:Value):Prop where
 below:Below w.heap.size w wx
 own:wx.ownsRow w.heap.size 3 1 v xs.length (xs.map zN)
theorem ends_1(t:ITerm)(ht:I64 t.kind/\I64 t.a){B:Nat}(hB:B<=w.heap.size)(a0:wH w B tv t.to)(b1:t.to.length<=2000000/\∀e∈t.to,e.args.length<=2000000)(hh:ut t=true):
 O 121 #[.agg #[I t.kind,I t.a,tv]] w (wG w ([t.a]++(t.to.map (·.args)).flatten)):=by
 obtain⟨ta,tc,rfl,d6,d5⟩:=a0.form;obtain⟨ii,c0,a5,a4,a3⟩:=info_parts Tryz.info_int;have e5:t.to.length<=9223372036854775807:=Zo
 have c8:∀x∈ [t.a]++(t.to.map (·.args)).flatten,I64 x:=by
  intro x hx;rcases Jl.1 hx with hx|hx
  ·simp at hx;rw[hx];exact ht.2
  ·obtain⟨l,hl,d4⟩:=List.mem_flatten.1 hx;obtain⟨e,he,rfl⟩:=Nu.1 hl;obtain⟨k,hk⟩:=Ny he;obtain⟨b,o,_,_,_,_,av,_,m⟩:=a0.get hk;exact zY.all m x d4
 have d1:=Ja c8;unfold ut at hh;obtain⟨tk,b9⟩:∃x,t.kind=x:=⟨_,rfl⟩
 obtain⟨tA,a7⟩:∃x,t.a=x:=⟨_,rfl⟩
 rw[b9,a7] at hh ht ⊢
 try rw[a7] at d1
 obtain⟨b2,g2⟩:∃q,decide (tk=2)=q:=⟨_,rfl⟩
 obtain⟨b3,g3⟩:∃q,decide (tk=3)=q:=⟨_,rfl⟩
 obtain⟨b4,g4⟩:∃q,decide (tk=4)=q:=⟨_,rfl⟩
 obtain⟨b5,g5⟩:∃q,decide (tA≠-1)=q:=⟨_,rfl⟩
 rw[g2,g3,g4,g5] at hh;have t2:(tk==2)=b2:=yv g2;have t3:(tk==3)=b3:=yv g3;have t4:(tk==4)=b4:=yv g4;have t5:(tA !=-1)=b5:=by rw[<-g5,bne];by_cases h:tA=-1<;>simp[h]
 have f:=Ja (show wH w B (.slice ta t.to.length tc) t.to/\B<=w.heap.size/\t.to.length<=2000000/\∀e∈t.to,e.args.length<=2000000 from⟨a0,hB,b1⟩);have HT:=Ja ht;have i:=zI (W:=w) (o:=G #[I tk,I tA,.slice ta t.to.length tc] 82) rfl;have c7:Q w (w.alloc (G #[I tk,I tA,.slice ta t.to.length tc] 82)):=(Below.refl _ _).alloc (Je _) _;clear a0 hB b1 ht d6 d5 g2 g3 g4 g5 b9 a7 c8;have d7:=my b2 b3 b4 b5 hh;clear hh;rcases d7 with rfl|⟨rfl,rfl⟩|⟨rfl,rfl,rfl,rfl⟩
 all_goals (
  go_enter Tryz.func121,Tryz.ntmps121;go_upto_region 2 with fail;generalize e3:w.alloc (G #[I tk,I tA,.slice ta t.to.length tc] 82)=W0 at *;have y0:=K0 i;have y1:=K1 i;have y2:=K2 i;have H0:=Ja (show Q w W0/\A W0 w.heap.size #[I tk,I tA,.slice ta t.to.length tc] 82 from⟨c7,i⟩);clear e3 i c7;have own0:W0.ownsRow w.heap.size 3 1 (U) 0 []:=Jv W0 _ _ _;have g:=Ja own0;clear own0;go_upto_region 4 with(at_builtin;go_must (refine zK _ rfl (.tmp 24) (.tmp 27) 22 rfl w.heap.size 3 ii (I 0) 1 8 Tryz.underlying22 c0 a5 a4 a3 rfl Zd (U) 0 [] rfl (g.out.alloc _) _ 1 [I tA] rfl (yM.one (zI Zs) (by simp[Value.oneCell'])) Zd Zd (by have:=H0.out.1.size;simp;omega) ?_;intro v0 W1 c d b7))
  have c4:Q w W1:=yP (H0.out.1.alloc H0.out.1.size _) d (by have:=H0.out.1.size;simp;omega) (wF g.out);have a6:=zL d (zB H0.out.2) (zC g.out H0.out.2 (.inr Zd));have z2:=K2 a6;have HS:=Ja (show EndsMem w W1 ([tA]++xT t 0) v0 from⟨c4,c⟩);have e6:=Ja a6;clear c4 a6 c d b7 y0 y1 y2;go_wp2
  go_loopw [3,32] (fun lv kv wx=>∃k:Nat,k<=t.to.length/\kv=I k/\Hid (EndsMem w wx ([tA]++xT t k) lv)) (fun _ kv _=>t.to.length-(intOf kv).toNat)
  case atStart=>exact⟨0,Jt _,rfl,HS⟩
  case round=>
   obtain⟨k,hk,rfl,HK⟩:=hrel
   by_cases a2:k<t.to.length
   ·have d2:(k:Int)<t.to.length:=Zo;have d0:=Ja a2;obtain⟨e,he⟩:∃e,t.to[k]? =some e:=⟨_,Jd a2⟩
    obtain⟨eb,eo,rfl,c1,c3,d3,av,c2,m⟩:=f.out.1.get he;obtain⟨aa,ac,rfl,d9,d8⟩:=m.form;have b6:=HK.out.below.mono f.out.2.1;have e0:=zV b6 c1 c3;have e1:=zV b6 c1 c2;have HE:=Ja (show t.to[k]? =some e/\zY w B (.slice aa e.args.length ac) e.args from⟨he,m⟩);clear he c3 c2 d3 m d9 d8 b6 a2 z2;have b8:=zI (W:=wr) (o:=G #[I e.block,.slice aa e.args.length ac] 79) rfl;have y:=HK.out.below.alloc HK.out.below.size (G #[I e.block,.slice aa e.args.length ac] 79);have a1:=HK.out.own.alloc (G #[I e.block,.slice aa e.args.length ac] 79);have b0:=zY.src (HE.out.2.below zO (y.mono f.out.2.1));go_upto_region 7 with fail;generalize e2:wr.alloc (G #[I e.block,.slice aa e.args.length ac] 79)=W2 at *;generalize wr.heap.size=b5 at *;have z51:=K1 b8
    have j:([tA]++xT t k).length+e.args.length<=6000000000000:=by
     have h1:=tP f.out.2.2.2 k hk;have h2:=f.out.2.2.1;have h3:=f.out.2.2.2 e (Ji HE.out.1);rw[Jk];simp only[Nq,Ow];omega
    have u:=Ja (show _/\_ from⟨j,y⟩);have c9:=Ja a1;have e4:=Ja b0;clear j a1 b0 y b8 e2 e0 e1;go_wp2_with (at_builtin;go_must (refine zK _ rfl (.tmp 36) (.tmp 38) 22 rfl w.heap.size 3 ii (I 0) 1 8 Tryz.underlying22 c0 a5 a4 a3 rfl Zd _ ([tA]++xT t k).length (([tA]++xT t k).map zN) rfl c9.out _ e.args.length (e.args.map zN) rfl e4.out (by have:=u.out.1;unfold maxLen;omega) (by have:=u.out.1;omega) u.out.2.size ?_;intro v9 w9 c d b7))
    have c5:=yP u.out.2 d u.out.2.size (wF c9.out);have HN:=Ja (Jb c5 c);clear c d b7 c5;go_roundw
    case rel=>
     refine⟨k+1,d0.out,by go_num,Ja ⟨HN.out.1,?_⟩⟩;rw[u7 HE.out.1,<-Nv,Jk (bs:=e.args),Js (l₂:=e.args)];exact HN.out.2
    case measure=>have:=d0.out;simp[intOf];omega
   ·obtain rfl:k=t.to.length:=by omega
    have d2:¬(t.to.length:Int)<t.to.length:=Zo;clear a2 z2;go_wp2;go_ret;have c:=HK.out.own;rw[si] at c
    exact⟨_,rfl,uA c rfl d1.out,HK.out.below⟩)
theorem ends_0(t:ITerm)(ht:I64 t.kind/\I64 t.a){B:Nat}(hB:B<=w.heap.size)(u:wH w B tv t.to)(a4:t.to.length<=2000000/\∀e∈t.to,e.args.length<=2000000)(hh:ut t=false):
 O 121 #[.agg #[I t.kind,I t.a,tv]] w (wG w (([]:List Int)++(t.to.map (·.args)).flatten)):=by
 obtain⟨ta,tc,rfl,d1,d0⟩:=u.form;obtain⟨ii,d2,c5,c4,c3⟩:=info_parts Tryz.info_int;have e2:t.to.length<=9223372036854775807:=Zo
 have b9:∀x∈([]:List Int)++(t.to.map (·.args)).flatten,I64 x:=by
  intro x hx;rcases Jl.1 hx with hx|hx
  ·simp at hx
  ·obtain⟨l,hl,c9⟩:=List.mem_flatten.1 hx;obtain⟨e,he,rfl⟩:=Nu.1 hl;obtain⟨k,hk⟩:=Ny he;obtain⟨b,o,_,_,_,_,av,_,i⟩:=u.get hk;exact zY.all i x c9
 have c2:=Ja b9;unfold ut at hh;obtain⟨tk,a7⟩:∃x,t.kind=x:=⟨_,rfl⟩
 obtain⟨tA,a2⟩:∃x,t.a=x:=⟨_,rfl⟩
 rw[a7,a2] at hh ht ⊢
 try rw[a2] at c2
 obtain⟨b2,g2⟩:∃q,decide (tk=2)=q:=⟨_,rfl⟩
 obtain⟨b3,g3⟩:∃q,decide (tk=3)=q:=⟨_,rfl⟩
 obtain⟨b4,g4⟩:∃q,decide (tk=4)=q:=⟨_,rfl⟩
 obtain⟨b5,g5⟩:∃q,decide (tA≠-1)=q:=⟨_,rfl⟩
 rw[g2,g3,g4,g5] at hh;have t2:(tk==2)=b2:=yv g2;have t3:(tk==3)=b3:=yv g3;have t4:(tk==4)=b4:=yv g4;have t5:(tA !=-1)=b5:=by rw[<-g5,bne];by_cases h:tA=-1<;>simp[h]
 have d:=Ja (show wH w B (.slice ta t.to.length tc) t.to/\B<=w.heap.size/\t.to.length<=2000000/\∀e∈t.to,e.args.length<=2000000 from⟨u,hB,a4⟩);have HT:=Ja ht;have f:=zI (W:=w) (o:=G #[I tk,I tA,.slice ta t.to.length tc] 82) rfl;have b8:Q w (w.alloc (G #[I tk,I tA,.slice ta t.to.length tc] 82)):=(Below.refl _ _).alloc (Je _) _;clear u hB a4 ht d1 d0 g2 g3 g4 g5 a7 a2 b9;have d3:=lB b2 b3 b4 b5 hh;clear hh;rcases d3 with⟨rfl,rfl,rfl⟩|⟨rfl,rfl,rfl,rfl⟩
 all_goals (
  go_enter Tryz.func121,Tryz.ntmps121;go_upto_region 2 with fail;generalize d8:w.alloc (G #[I tk,I tA,.slice ta t.to.length tc] 82)=W0 at *;have y0:=K0 f;have y1:=K1 f;have y2:=K2 f;have H0:=Ja (show Q w W0/\A W0 w.heap.size #[I tk,I tA,.slice ta t.to.length tc] 82 from⟨b8,f⟩);clear d8 f b8;go_upto_region 4 with fail;have z2:=y2;have HS:=Ja (show EndsMem w W0 (([]:List Int)++xT t 0) (U) from⟨H0.out.1,Jv W0 _ _ _⟩);have e3:=Ja H0.out.2;generalize W0=W1 at *;clear y0 y1 y2;go_wp2
  go_loopw [3,32] (fun lv kv wx=>∃k:Nat,k<=t.to.length/\kv=I k/\Hid (EndsMem w wx (([]:List Int)++xT t k) lv)) (fun _ kv _=>t.to.length-(intOf kv).toNat)
  case atStart=>exact⟨0,Jt _,rfl,HS⟩
  case round=>
   obtain⟨k,hk,rfl,HK⟩:=hrel
   by_cases a0:k<t.to.length
   ·have c7:(k:Int)<t.to.length:=Zo;have c1:=Ja a0;obtain⟨e,he⟩:∃e,t.to[k]? =some e:=⟨_,Jd a0⟩
    obtain⟨eb,eo,rfl,b0,b6,c8,av,b1,i⟩:=d.out.1.get he;obtain⟨aa,ac,rfl,d6,d5⟩:=i.form;have a5:=HK.out.below.mono d.out.2.1;have e0:=zV a5 b0 b6;have e1:=zV a5 b0 b1;have HE:=Ja (show t.to[k]? =some e/\zY w B (.slice aa e.args.length ac) e.args from⟨he,i⟩);clear he b6 b1 c8 i d6 d5 a5 a0 z2;have a6:=zI (W:=wr) (o:=G #[I e.block,.slice aa e.args.length ac] 79) rfl;have m:=HK.out.below.alloc HK.out.below.size (G #[I e.block,.slice aa e.args.length ac] 79);have y:=HK.out.own.alloc (G #[I e.block,.slice aa e.args.length ac] 79);have a3:=zY.src (HE.out.2.below zO (m.mono d.out.2.1));go_upto_region 7 with fail;generalize d7:wr.alloc (G #[I e.block,.slice aa e.args.length ac] 79)=W2 at *;generalize wr.heap.size=b5 at *;have z51:=K1 a6
    have g:(([]:List Int)++xT t k).length+e.args.length<=6000000000000:=by
     have h1:=tP d.out.2.2.2 k hk;have h2:=d.out.2.2.1;have h3:=d.out.2.2.2 e (Ji HE.out.1);rw[Jk];simp only[Nq,Ow];omega
    have j:=Ja (show _/\_ from⟨g,m⟩);have c0:=Ja y;have d9:=Ja a3;clear g y a3 m a6 d7 e0 e1;go_wp2_with (at_builtin;go_must (refine zK _ rfl (.tmp 36) (.tmp 38) 22 rfl w.heap.size 3 ii (I 0) 1 8 Tryz.underlying22 d2 c5 c4 c3 rfl Zd _ (([]:List Int)++xT t k).length ((([]:List Int)++xT t k).map zN) rfl c0.out _ e.args.length (e.args.map zN) rfl d9.out (by have:=j.out.1;unfold maxLen;omega) (by have:=j.out.1;omega) j.out.2.size ?_;intro v9 w9 c a1 d4))
    have b7:=yP j.out.2 a1 j.out.2.size (wF c0.out);have HN:=Ja (Jb b7 c);clear c a1 d4 b7;go_roundw
    case rel=>
     refine⟨k+1,c1.out,by go_num,Ja ⟨HN.out.1,?_⟩⟩;rw[u7 HE.out.1,<-Nv,Jk (bs:=e.args),Js (l₂:=e.args)];exact HN.out.2
    case measure=>have:=c1.out;simp[intOf];omega
   ·obtain rfl:k=t.to.length:=by omega
    have c7:¬(t.to.length:Int)<t.to.length:=Zo;clear a0 z2;go_wp2;go_ret;have c:=HK.out.own;rw[si] at c
    exact⟨_,rfl,uA c rfl c2.out,HK.out.below⟩)
theorem ends_any(t:ITerm)(ht:I64 t.kind/\I64 t.a){B:Nat}(g:B<=w.heap.size)(d:wH w B tv t.to)(c:t.to.length<=2000000/\∀e∈t.to,e.args.length<=2000000):
 O 121 #[.agg #[I t.kind,I t.a,tv]] w (wG w (mE t)):=by
 unfold mE;cases f:ut t
 ·exact ends_0 t ht g d c f
 ·exact ends_1 t ht g d c f
def wN (N m:Nat)(z:Value):List Value:=List.replicate m z++List.replicate (N-m) (I 0)
theorem nY (N:Nat)(z:Value):wN N 0 z=List.replicate N (I 0):=by simp[wN]
theorem mI (N:Nat)(z:Value):wN N N z=List.replicate N z:=by simp[wN]
theorem kK{m:Nat}(z:Value)(h:j<m):(wN N m z)[j]? =some z:=by
 unfold wN;rw[Np (by simpa using h)];simp[h]
theorem sL{m:Nat}(z:Value)(h:m+k<=N):splice (wN N m z) m (List.replicate k z)=wN N (m+k) z:=by
 unfold splice wN
 have e1:List.take m (List.replicate m z++List.replicate (N-m) (I 0))=List.replicate m z:=by
  rw[List.take_append_of_le_length Zs,Oy Zs]
 have e2:List.drop (m+(List.replicate k z).length) (List.replicate m z++List.replicate (N-m) (I 0))=List.replicate (N-(m+k)) (I 0):=by
  rw[List.drop_append,List.drop_eq_nil_of_le Zs,Op,List.drop_replicate]
  congr 1;simp;omega
 rw[e1,e2,<-Nv,List.replicate_append_replicate]
theorem qW(z:Value)(h:k<=N):splice (List.replicate N (I 0)) 0 (List.replicate k z)=wN N k z:=by
 have:=sL (m:=0) z (by omega:0+k<=N);rw[nY] at this
 simpa using this
theorem lr (w:World)(s o a1 N:Nat)(hc:T w s o (I (-1)))(h1:1<=N)(hN:N<=4000000):
 O 145 #[.slice (some ⟨s,o,none⟩) 1 a1,I N] w fun e w'=>e=.returned (.slice (some ⟨w.heap.size,0,none⟩) N N)/\A w' w.heap.size (List.replicate N (I (-1))).toArray 3/\Q w w':=by
 obtain⟨ii,a5,b0,a2,a7⟩:=info_parts Tryz.info_int;have a3:=run_make_row' (P:=Tryz.prog) 22 3 (I 0) 8 Tryz.underlying22 Tryz.info_int rfl .i64 .i64 N Zo Zo;go_enter Tryz.func145,Tryz.ntmps145
 have t:O 151 #[.int .u64 1,.int .u64 (N:Int)] w fun e w'=>e=.returned (.tuple #[.int .u64 0,.int .u64 (N:Int)])/\w'=w:=by
  refine(Tryz.bits_Mul 1 N Zo Zo w).mono ?_;rintro e w1 ⟨rfl,rfl⟩;refine⟨?_,rfl⟩;rw[show 1*N/18446744073709551616=0 by omega,show 1*N%18446744073709551616=N by omega];rfl
 have hs:=jU hc;have b5:(N:Int)<=9223372036854775807:=Zo;have b4:¬(N:Int)<0:=Zo;have u: [I (-1)].length=Nat.min 1 N:=(Ud h1).symm;have k:A (w.alloc (.cells (madeCells #[I 0] N) 3)) w.heap.size (List.replicate N (I 0)).toArray 3:=by rw[zI rfl,yA]
 have g:∀(j:Nat) (v:Value),[I (-1)][j]? =some v->(w.alloc (.cells (madeCells #[I 0] N) 3)).cell? ((⟨s,o,none⟩:Addr).add j)=some v:=by
  intro j v f
  cases j with
  |zero=>simp at f;subst f;exact(Ok _ _ _ hs).trans hc
  |succ j=>simp at f
 have l:Q w (w.alloc (.cells (madeCells #[I 0] N) 3)):=(Below.refl _ _).alloc (Je _) _;have q:(Tryz.prog.info? 3).map (·.size)=some 1:=by rw[a5];simp[a2]
 go_wp2_with (first|(go_at_call 151;refine t.mono ?_;rintro e w1 ⟨rfl,rfl⟩)|(with_reducible refine wpList_copy_splice rfl (.tmp 31) (.tmp 32) 22 22 rfl 3 Tryz.underlying22 q (some ⟨w1.heap.size,0,none⟩) (some ⟨s,o,none⟩) N N 1 a1 rfl rfl w1.heap.size 0 (List.replicate N (I 0)) 3 k [I (-1)] u (fun _=>⟨rfl,_,rfl,g⟩) Zt (by simp[Value.oneCell']) w1.heap.size w1 l (Je _) ?_;intro w2 c a6))
 have a0:Hid (A w2 w1.heap.size (wN N 1 (I (-1))).toArray 3):=by
  have:=c.out;rw[show([I (-1)]:List Value)=List.replicate 1 (I (-1)) from rfl,qW _ h1] at this;exact Ja this
 clear t c l g k u a3
 go_loopw [8] (fun i wr=>∃m:Nat,i=I m/\1<=m/\(m:Int)<=N/\Hid (A wr w1.heap.size (wN N m (I (-1))).toArray 3)/\Q w1 wr) (fun i _=>N-(intOf i).toNat)
 case atStart=>exact⟨1,rfl,by omega,by omega,a0,a6⟩
 case round=>
  obtain⟨m,rfl,u,b2,c,x⟩:=hrel
  by_cases b3:(m:Int)<N
  ·have e1:(m:Int)<=N:=Zo;have e2:(0:Int)<=m:=Zo;go_wp2
   obtain⟨w3,b1,y,d⟩:∃w3:World,(Sem.run Tryz.prog (Builtin.copy_ #[22,22] 3 #[.slice (some ⟨w1.heap.size,m,none⟩) (N-m) (N-m),.slice (some ⟨w1.heap.size,0,none⟩) m N]) wr.drew=.ok (I ((min m (N-m):Nat):Int)) w3.drew)/\Hid (A w3 w1.heap.size (wN N (m+min m (N-m)) (I (-1))).toArray 3)/\Q w1 w3:=by
    refine⟨wr.setRow w1.heap.size (splice (wN N m (I (-1))) m (List.replicate (min m (N-m)) (I (-1)))).toArray,?_,?_,below_setRow x (Je _) _⟩
    ·have:=run_copy_row (P:=Tryz.prog) wr.drew 22 22 3 3 w1.heap.size m (N-m) (N-m) ⟨w1.heap.size,0,none⟩ m N (wN N m (I (-1))).toArray 3 (List.replicate (min m (N-m)) (I (-1))) Tryz.underlying22 q c.out
      (by rw[Qr]) (fun j v f=>by
       have a4:j<min m (N-m):=by
        have:=(Jh.1 f).1;simpa using this
       rw[Nm,if_pos a4] at f;cases f;have ea:(⟨w1.heap.size,0,none⟩:Addr).add j=⟨w1.heap.size,j,none⟩:=by by_cases h:j=0<;>simp[Addr.add,h]
       rw[ea];refine zA (w:=wr.drew) (b:=w1.heap.size) (cs:=(wN N m (I (-1))).toArray) c.out ?_;simp only[List.getElem?_toArray]
       exact kK _ Zo) (by simp[wN];omega) (by intro v hv;rw[List.eq_of_mem_replicate hv];rfl)
     rw[Qr] at this;refine(this.trans ?_);unfold splice;simp only[Nv,Qr];rfl
    ·have:=setRow_heap wr w1.heap.size _ (splice (wN N m (I (-1))) m (List.replicate (min m (N-m)) (I (-1)))).toArray _ _ c.out;rw[sL _ Zo] at this ⊢;exact Ja this
   clear c x;go_wp2
   go_region
   go_wp2;go_roundw
   case rel=>exact⟨m+min m (N-m),by rw[Int.natCast_add],by omega,by omega,y,⟨d.os,d.tape,d.output,d.size,d.block⟩⟩
   case measure=>simp[intOf];omega
  ·go_wp2;go_ret;have:m=N:=Zo;subst this;refine⟨rfl,?_,x⟩;have:=c.out;rw[mI] at this
   simpa using this
end Go.Proofs.YtoahcpkibpomcaaGreat
set_option maxRecDepth 8000
namespace Go.Proofs.YtoahcpkibpomcaaGreat
open Go.RowKit
variable {W W' w w' w0 w1:World}{B0 Bi Bn Bv N bi bp bs i j k on vb vn x:Nat}{seen:List Bool}{ov pv tv:Value}{ns post rs:List Nat}{c d oa ob:Int}{K:MK}{m m':Mach}{idom xs:List Int}{t:ITerm}{f:Int->Int}{ds:List Deferred}{g:List (List Nat)}{ar:Option Addr}{o oi:Oper}
theorem UpN.lt{c:List Int}{t:Int}:∀ {k a a':Nat},UpN c f t k a a'->a<c.length->a'<c.length
 |0,_,_,h,ha=>by rw[h.2];exact ha
 |k+1,_,_,h,_=>by obtain⟨_,a1,h1,_,h2⟩:=h;exact UpN.lt h2 h1
theorem nj{b n:Nat}(h:ud w b n f){x:Int}(c:-9223372036854775808<=x/\x<=9223372036854775807)(k:Nat):
 (Instr.lookup 171 (.map (some b)) (I x) false).run Tryz.prog (w.drewN k)=.ok (I (f x)) (w.drewN k):=
 (ud.look (h.same (w':=w.drewN k) rfl) c).1
theorem meet_any (w:World)(Bv Bi bv bm nm bi:Nat)(f:Int->Int)(c:List Int)(hn:c.length<=2000000)
 (c1:T w Bv 0 (F bv)) (c2:T w bv 1 (.map (some bm))) (hm:ud w bm nm f)
 (c3:T w Bi 0 (L bi c.length c.length)) (hi:A w bi (c.map (Value.int .i64)).toArray 3)
 (k0 a b r:Nat) (ha:a<c.length) (hb:b<c.length) (hM:qZ c f k0 a b r):
 O 146 #[I a,I b,F Bv,F Bi] w fun e w'=>e=.returned (I r)/\∃n,w'=w.drewN n:=by
 have m:=Ja hM;have HI:=Ja hi;have i:=Ja hm;clear hM hi hm;go_enter Tryz.func146,Tryz.ntmps146;go_wp2
 go_loopg [0,1] k0 (fun k x y wr=>∃a b:Nat,a<c.length/\b<c.length/\x=I a/\y=I b/\Hid (qZ c f k a b r)/\∃n,wr=w.drewN n)
 case atStart=>exact⟨a,b,ha,hb,rfl,rfl,m,0,rfl⟩
 case round=>
  clear ha hb m a b;obtain⟨a,b,ha,hb,rfl,rfl,m,n,rfl⟩:=hrel
  cases gk with
  |zero=>
   obtain⟨rfl,rfl⟩:=m.out;have a0:((r:Int) !=(r:Int))=false:=by simp
   go_wp2;go_ret
   exact⟨rfl,n,rfl⟩
  |succ k=>
   obtain⟨a2,j,a',h,j',b',o,hM⟩:=m.out;have a0:((a:Int) !=(b:Int))=true:=by simp;omega
   have l:=Ja h;have g:=Ja o;have a3:=Ja hM;have u:=UpN.lt h ha;have t:=UpN.lt o hb;clear a2 h o hM m;go_wp2
   go_loopg [0] j (fun j x wr=>∃a:Nat,a<c.length/\x=I a/\Hid (UpN c f (f b) j a a')/\∃n,wr=w.drewN n)
   case atStart=>exact⟨a,ha,rfl,l,n,rfl⟩
   case round=>
    clear l;obtain⟨x,a7,rfl,l,n2,rfl⟩:=hrel;have la:=nj i.out (x:=(x:Int)) Zo;have lb:=nj i.out (x:=(b:Int)) Zo
    cases gk with
    |zero=>
     obtain⟨ht,rfl⟩:=l.out;have d:decide (f b<f a')=false:=by simpa using ht
     go_wp2;go_quiet (fail);go_wp2
     go_loopg [1] j' (fun j y wr=>∃y0:Nat,y0<c.length/\y=I y0/\Hid (UpN c f (f a') j y0 b')/\∃n,wr=w.drewN n)
     case atStart=>exact⟨b,hb,rfl,g,_,World.drewN_drewN _ _ _⟩
     case round=>
      clear g d;obtain⟨y,a6,rfl,g,n3,rfl⟩:=hrel;have lc:=nj i.out (x:=(y:Int)) Zo
      cases gk with
      |zero=>
       obtain⟨ht,rfl⟩:=g.out;have d:decide (f a'<f b')=false:=by simpa using ht
       go_wp2;go_quiet (fail);go_wp2
       go_roundg k
       case measure=>omega
       case rel=>exact⟨a',b',u,t,rfl,rfl,a3,_,World.drewN_drewN _ _ _⟩
      |succ j2=>
       obtain⟨ht,y1,h1,hy,h⟩:=g.out;have d:decide (f a'<f y)=true:=by simpa using ht
       have cy:T w bi y (I y1):=zA HI.out (by simp[hy]);have a4:(y:Int)<c.length:=Zo;have q:=Ja h;clear hy h g;go_wp2;go_quiet (fail);go_wp2
       go_roundg j2
       case measure=>omega
       case rel=>exact⟨y1,h1,rfl,q,_,rfl⟩
    |succ j2=>
     obtain⟨ht,a1,h1,hx,h⟩:=l.out;have d:decide (f b<f x)=true:=by simpa using ht
     have cx:T w bi x (I a1):=zA HI.out (by simp[hx]);have a5:(x:Int)<c.length:=Zo;have q:=Ja h;clear hx h l;go_wp2;go_quiet (fail);go_wp2
     go_roundg j2
     case measure=>omega
     case rel=>exact⟨a1,h1,rfl,q,_,rfl⟩
end Go.Proofs.YtoahcpkibpomcaaGreat
set_option maxRecDepth 8000
namespace Go.Proofs.YtoahcpkibpomcaaGreat
open Go.RowKit Go.Shelf
variable {W W' w w' w0 w1:World}{B0 Bi Bn Bv N bi bp bs i j k on vb vn x:Nat}{seen:List Bool}{ov pv tv:Value}{ns post rs:List Nat}{c d oa ob:Int}{K:MK}{m m':Mach}{idom xs:List Int}{t:ITerm}{f:Int->Int}{ds:List Deferred}{g:List (List Nat)}{ar:Option Addr}{o oi:Oper}
attribute [local go_sem] Oper.semAt_some
theorem wi.snoc {idom:List Int}{f:Int->Int}{p:Nat}:∀ {ps:List Nat} {d d1 d2:Int},wi idom f ps d d1->mJ idom f p d1 d2->wi idom f (ps++ [p]) d d2
 | [],d,d1,d2,h,h2=>by cases h;exact⟨d2,h2,rfl⟩
 |q::ps,d,d1,d2,⟨d0,h0,h⟩,h2=>⟨d0,h0,wi.snoc h h2⟩
theorem UpN.unique{c:List Int}{t:Int}:∀ {k k2 a r r2:Nat},UpN c f t k a r->UpN c f t k2 a r2->r=r2
 |0,0,_,_,_,h,h2=>h.2.trans h2.2.symm
 |0,_+1,_,_,_,h,h2=>absurd h2.1 h.1
 |_+1,0,_,_,_,h,h2=>absurd h.1 h2.1
 |k+1,k2+1,a,r,r2,⟨_,a1,_,h,h3⟩,⟨_,a2,_,h2,h4⟩=>by
  obtain rfl:a1=a2:=by rw[h] at h2;exact Int.ofNat_inj.1 (Nt h2)
  exact UpN.unique h3 h4
theorem qZ.unique{c:List Int}:∀ {k k2 a b r r2:Nat},qZ c f k a b r->qZ c f k2 a b r2->r=r2
 |0,0,_,_,_,_,h,h2=>h.2.trans h2.2.symm
 |0,_+1,_,_,_,_,h,h2=>absurd h.1 h2.1
 |_+1,0,_,_,_,_,h,h2=>absurd h2.1 h.1
 |k+1,k2+1,a,b,r,r2,⟨_,j,a1,h1,j',b1,h2,h3⟩,⟨_,i,a2,g1,i',b2,g2,g3⟩=>by
  obtain rfl:=UpN.unique h1 g1;obtain rfl:=UpN.unique h2 g2;exact qZ.unique h3 g3
theorem mJ.unique{c:List Int}{p:Nat}{d1 d2:Int}(h:mJ c f p d d1)(h2:mJ c f p d d2):d1=d2:=by
 obtain⟨x,j,h⟩:=h;obtain⟨y,g,h2⟩:=h2;obtain rfl:x=y:=by rw[j] at g;simpa using g
 rcases h with⟨a,rfl⟩|⟨a,b,rfl⟩|⟨a,dn,rfl,_,k,r,hm,rfl⟩<;>rcases h2 with⟨a',e⟩|⟨a',b',e⟩|⟨a',dn',e0,_,k',r',i,e⟩
 ·exact e.symm
 ·exact absurd a a'
 ·exact absurd a a'
 ·exact absurd a' a
 ·exact e.symm
 ·omega
 ·exact absurd a' a
 ·omega
 ·obtain rfl:dn=dn':=by omega
  rw[e,qZ.unique hm i]
theorem wi.unique{c:List Int}:∀ {ps:List Nat} {d d1 d2:Int},wi c f ps d d1->wi c f ps d d2->d1=d2
 | [],_,_,_,h,h2=>h.trans h2.symm
 |p::ps,d,d1,d2,⟨e,h,h'⟩,⟨e2,g,g'⟩=>by
  obtain rfl:=h.unique g;exact wi.unique h' g'
structure DomMem (w W:World) (bv Bi bi n:Nat) (idom:List Int):Prop where
 hv:W.heap[w.heap.size]? =some (.cells #[.pointer (some ⟨bv,0,none⟩)] 192 (0,0))
 hi:W.heap[Bi]? =some (.cells #[.slice (some ⟨bi,0,none⟩) n n] 22 (0,0))
 hm:W.heap[Bi+1]? =some (.cells #[.func (.func 146) #[] #[.pointer (some ⟨w.heap.size,0,none⟩),.pointer (some ⟨Bi,0,none⟩)]] 204 (0,0))
 hr:W.heap[bi]? =some (.cells (idom.map (Value.int .i64)).toArray 3 (0,0))
 hl:idom.length=n
 hb:Below w.heap.size w W
 lt:w.heap.size<bi/\bi<Bi
theorem DomMem.kept{bv n:Nat}{row:Option Nat}(h:DomMem w W bv Bi bi n idom)(hg:W.grownBy W' row)
 (c:∀r,row=some r->w.heap.size<r/\r≠bi/\r≠Bi/\r≠Bi+1):DomMem w W' bv Bi bi n idom:=by
 obtain⟨hv,hi,hm,hr,hl,hb,lt⟩:=h;refine⟨zL hg hv (fun e=>by have:=c _ e;omega),zL hg hi (fun e=>(c _ e).2.2.1 rfl),zL hg hm (fun e=>(c _ e).2.2.2 rfl),zL hg hr (fun e=>(c _ e).2.1 rfl),hl,hb.grown hg hb.size (fun k hk=>?_),lt⟩;have:=c _ hk;omega
theorem DomMem.own{bv n:Nat}{row:Option Nat}(h:DomMem w W bv Bi bi n idom)(hg:W.grownBy W' row)
 (c:∀r,row=some r->∃o:Obj,W.heap[r]? =some o/\o.isCells=false) (f:∀r,row=some r->w.heap.size<=r):DomMem w W' bv Bi bi n idom:=by
 refine h.kept hg (fun r e=>?_);obtain⟨o,ho,d⟩:=c r e
 have aux:∀ {b:Nat} {cs:Array Value} {t:TypeId},A W b cs t->r≠b:=by
  rintro b cs t hb rfl;rw[hb] at ho;cases ho;cases d
 exact⟨Nat.lt_of_le_of_ne (f r e) (Ne.symm (aux h.hv)),aux h.hr,aux h.hi,aux h.hm⟩
theorem DomMem.set{bv n:Nat}{c:List Int}(h:DomMem w W bv Bi bi n c)(k:Nat)(d:Int):DomMem w (W.setCell ⟨bi,k,none⟩ (I d)) bv Bi bi n (c.set k d):=by
 obtain⟨hv,hi,hm,hr,hl,hb,lt⟩:=h;refine⟨zR hv Zt,zR hi Zt,zR hm Zt,?_,by simpa using hl,hb.setCell Zt _,lt⟩;rw[zD hr];simp
def oh (B:Nat)(W:World)(ds:List Deferred):Prop:=
 ∃Ds:List Nat,ds=Ds.map (fun D=> {target:=.collected D,args:=#[]})/\Ds.Nodup/\∀D∈Ds,B<=D/\W.heap[D]? =some (.deferred (some []))
theorem oh.keeps{B:Nat}(h:oh B W ds)(hk:KeepsFrom 0 W W'):oh B W' ds:=by
 obtain⟨Ds,rfl,h1,h2⟩:=h;exact⟨Ds,rfl,h1,fun D hD=>⟨(h2 D hD).1,hk.same D _ (Jt _) (h2 D hD).2 rfl⟩⟩
theorem oh.push{B:Nat}{W0:World}{D:Nat}(h:oh B W0 ds)(hk:KeepsFrom 0 W0 W)(g:W0.heap.size<=D)(f:B<=D)(d:W.heap[D]? =some (.deferred (some []))):
 oh B W ({target:=.collected D,args:=#[]}::ds):=by
 obtain⟨Ds,rfl,h1,h2⟩:=h;refine⟨D::Ds,rfl,Qt.2 ⟨fun hm=>?_,h1⟩,fun E c=>?_⟩
 ·have:=(Array.getElem?_eq_some_iff.1 (h2 D hm).2).1;omega
 ·rcases Jq.1 c with rfl|c
  ·exact⟨f,d⟩
  ·exact⟨(h2 E c).1,hk.same E _ (Jt _) (h2 E c).2 rfl⟩
theorem sr {F:Fence}{m:Nat}{P:Program}{fn:Func}{c:Array Value}{R:Ending->World->Prop}(B:Nat)(G:World->Prop)
 (f:∀W D,B<=D->W.heap[D]? =some (.deferred (some []))->G W->G (W.putObj D (.deferred none))) (d:∀W,G W->LeavesIn F m P fn c R [] .returning W):
 ∀(Ds:List Nat) (W:World),Ds.Nodup->(∀D∈Ds,B<=D/\W.heap[D]? =some (.deferred (some [])))->G W->LeavesInM F m P fn c R (Ds.map (fun D=> {target:=.collected D,args:=#[]})) .returning W
 | [],W,_,_,h=>d W h
 |D::Ds,W,hn,hd,h=>by
  have hD:=hd D Zs;refine⟨by simp,.inl ⟨D,_,rfl,run_takeDeferred hD.2,?_⟩⟩;refine sr B G f d Ds _ (Qt.1 hn).2 (fun E hE=>⟨(hd E (by simp[hE])).1,?_⟩) (f W D hD.1 hD.2 h);rw[World.putObj_heap_other (by rintro rfl;exact(Qt.1 hn).1 hE)];exact(hd E (by simp[hE])).2
theorem _root_.Go.KeepsFrom.from0(h:KeepsFrom 0 W W')(B:Nat):KeepsFrom B W W':=⟨h.size,fun k o _ hk ho=>h.same k o (Jt _) hk ho⟩
theorem uh (W:World)(o:Obj):KeepsFrom 0 W (W.alloc o):=⟨by simp,fun k o' _ hk _=>(Below.heap_alloc _ _ _ (Array.getElem?_eq_some_iff.1 hk).1).trans hk⟩
theorem uu{b:Nat}{cs:Array Value}{t:TypeId}(h:A W b cs t)(v:Value):KeepsFrom 0 W (W.setCell ⟨b,i,none⟩ v):=
 ⟨by simp,fun k o _ hk hc=>(Below.heap_setCell _ _ _ k (fun e=>by subst e;rw[h] at hk;cases hk;cases hc)).trans hk⟩
theorem uW (W:World)(n:Nat):KeepsFrom 0 W (W.drewN n):=⟨Je _,fun _ _ _ h _=>h⟩
theorem oH{bv n:Nat}(h:A w1 (w.heap.size+2) (List.replicate n (I (-1))).toArray 3/\Q w w1/\A w1 w.heap.size #[F bv] 192)
 (d:w.heap.size+2<w1.heap.size) (h1:1<=n):
 DomMem w (((w1.setCell ⟨w.heap.size+2,0,none⟩ (I 0)).alloc (G #[L (w.heap.size+2) n n] 22)).alloc (G #[.func (.func 146) #[] #[F w.heap.size,F w1.heap.size]] 204))
  bv w1.heap.size (w.heap.size+2) n ((0:Int)::List.replicate (n-1) (-1)):=by
 obtain⟨hr,hb,hv⟩:=h;have c:=zD (i:=0) hr (I 0);refine⟨zB (zB (zR hv Zs)),zB (zI Zs),zI Zs,?_,by simp;omega,?_,by omega,d⟩
 ·rw[zB (zB c)];obtain⟨m,rfl⟩:∃m,n=m+1:=⟨n-1,by omega⟩
  simp[Qz]
 ·exact((hb.setCell Zs _).alloc Zt _).alloc Zt _
theorem vA{b:Nat}{a:Addr}(h:a.block≠b)(u:Value):(W.setCell ⟨b,i,none⟩ u).cell? a=W.cell? a:=by
 have:(W.setCell ⟨b,i,none⟩ u).heap[a.block]? =W.heap[a.block]?:=Below.heap_setCell _ _ _ _ h;unfold World.cell?;rw[this]
theorem aaT.keptObj{n:Nat}{xs:List Nat}{bv op len g:Nat}{f:Nat}{row:Option Nat}(h:aaT Bv Bn n xs bv bp op len g ar f W)(hg:W.grownBy W' row)
 (d:∀r,row=some r->∃o:Obj,W.heap[r]? =some o/\o.isCells=false):aaT Bv Bn n xs bv bp op len g ar f W':=by
 obtain⟨c1,c2,c3,i,c4,k⟩:=h;refine⟨cell_kept c1 hg d,cell_kept c2 hg d,cell_kept c3 hg d,i,cell_kept c4 hg d,fun j x hj=>?_⟩;obtain⟨b,o,e,c⟩:=k j x hj;exact⟨b,o,e,cell_kept c hg d⟩
theorem aaT.set{n:Nat}{xs:List Nat}{bv op len f:Nat}{d:Nat}{Bd:Nat}(h:aaT Bv Bn n xs bv bp op len f ar d W)(u:Value)
 (h1:Bv≠Bd) (h2:Bn≠Bd) (h3:bv≠Bd) (l:bp≠Bd) (k:∀(j x:Nat),xs[j]? =some x->∀a,ar=some a->a.block≠Bd):aaT Bv Bn n xs bv bp op len f ar d (W.setCell ⟨Bd,0,none⟩ u):=by
 obtain⟨c1,c2,c3,g,c4,i⟩:=h;refine⟨(vA h1 u).trans c1,(vA h2 u).trans c2,(vA h3 u).trans c3,g,(vA l u).trans c4,fun j x hj=>?_⟩;obtain⟨b,o,e,c⟩:=i j x hj;exact⟨b,o,e,(vA (a:=⟨b,o+j,none⟩) (k j x hj ⟨b,o,none⟩ e) u).trans c⟩
theorem jt{C bv:Nat}{l:List Nat}{c:List (List Nat)}(t:oN w C bv l f c)(hb:Below C w W){pr:List Nat}(g:c[x]? =some pr)
 (c1:T W Bv 0 (F bv)) (c2:T W Bn 0 (I x)):
 ∃bp op len cap ar capr,aaT Bv Bn x pr bv bp op len cap ar capr W/\bp<C/\∀(j y:Nat),pr[j]? =some y->∀a,ar=some a->a.block<C:=by
 obtain⟨ov,bm,pv,nm,e0,e1,e2,ho,hm,u,hp,hl⟩:=t;obtain⟨a,cap,rfl,q⟩:=hp.form;obtain⟨b,o,a2,k,rfl,h,d,a0,m⟩:=hp.row g;refine⟨b,o,c.length,cap,a2,k,⟨c1,c2,(hb.cell (p:=⟨bv,2,none⟩) hl).trans e2,(Jh.1 g).1,(hb.cell (p:=⟨b,o+x,none⟩) h).trans d,fun j y hj=>?_⟩,h,fun j y hj a e=>?_⟩
 ·obtain⟨b2,o2,e,i,d⟩:=m j y hj;exact⟨b2,o2,e,(hb.cell (p:=⟨b2,o2+j,none⟩) i).trans d⟩
 ·obtain⟨b2,o2,e2,i,d⟩:=m j y hj;rw[e2] at e;cases e;exact i
theorem qQ (w:World)(C bv n:Nat)(l3:List Nat)(f:Int->Int)(t:List (List Nat))(hC:C<=w.heap.size)(hV:oN w C bv l3 f t)(h1:1<=n)(hn:n<=2000000)
 (ns:List Nat) (p4:l3=0::ns) (m0:∀x∈ns,x<n) (r2:ns.length<=2000000) (hpl:t.length=n) (l7:∀row∈t,row.length<=4000004000000) (k0:Nat) (idom':List Int) (hD:ip t f ns k0 ((0:Int)::List.replicate (n-1) (-1)) idom'):
 O 141 #[F bv,I n] w fun e w'=>∃g,e=.returned (L g n n)/\w.heap.size<=g/\A w' g (idom'.map (Value.int .i64)).toArray 3/\Q w w':=by
 have HV:=Ja hV;have HD:=Ja hD;have HN:=Ja m0;have r1:=Ja l7;clear hV hD m0 l7;refine(callsIn_wide (n:=100)).1 (callsIn_of_wp_marks Tryz.func141 rfl trivial ?_ rfl);simp only[Tryz.ntmps141,List.size_toArray,Nq,Ow,Nat.reduceAdd,Nat.reduceSub,Array.replicate_succ,Array.replicate_zero,List.push_toArray,List.append_toArray,Op,List.cons_append];refine wpIn_wide.2 ?_
 have i2:∀W:World,W=(w.alloc (G #[F bv] 192)).alloc (G #[I (-1)] 3)->O 145 #[L (w.heap.size+1) 1 1,I n] W fun e w1=>
  e=.returned (L (w.heap.size+2) n n)/\T w1 (w.heap.size+2) 0 (I (-1))/\w1.frozen? ⟨w.heap.size+2,0,none⟩=false/\w.heap.size+2<w1.heap.size/\Hid (A w1 (w.heap.size+2) (List.replicate n (I (-1))).toArray 3/\Q w w1/\A w1 w.heap.size #[F bv] 192):=by
  rintro W rfl;have o9:((w.alloc (G #[F bv] 192)).alloc (G #[I (-1)] 3)).heap.size=w.heap.size+2:=by simp
  have hb:Q w ((w.alloc (G #[F bv] 192)).alloc (G #[I (-1)] 3)):=((Below.refl _ _).alloc (Je _) _).alloc Zs _;refine(lr _ (w.heap.size+1) 0 1 n (zA (zI Zs) Zs) h1 Zo).mono ?_;rintro e w1 ⟨rfl,hr,k1⟩;rw[o9] at hr k1 ⊢;exact⟨rfl,zA hr (by rw[List.getElem?_toArray,Nm,if_pos Zo]),zE hr,lt_of_block hr,hr,hb.trans (k1.mono Zo),zH k1 (zB (zI rfl)) Zo⟩
 have c3:∀(w1:World) (a:Addr) (u:Value) (o:Obj),(((w1.setCell a u).alloc o).alloc (G #[.nilFunc] 204)).cell? ⟨w1.heap.size+1,0,none⟩=some .nilFunc:=fun w1 a u o=>zA (zI Zs) Zs
 have f3:∀(w1:World) (a:Addr) (u:Value) (o:Obj),(((w1.setCell a u).alloc o).alloc (G #[.nilFunc] 204)).frozen? ⟨w1.heap.size+1,0,none⟩=false:=fun w1 a u o=>zE (zI Zs)
 go_wp2_with (go_at_call 145;go_must (refine(i2 _ rfl).mono ?_;rintro e w1 ⟨rfl,c0,f0,n7,HW⟩))
 refine wp_loop_ghost (fun k a W=>∃(ch:Bool) (ds:List Deferred),∃u9 g9 g8 g7 g6 g5 g4 g3 l2 l0 k9 g2 g1 g0 f9 f8 f6 f5 f4 f2 f1 e8 e7 e6 e5 e4 e3 d9 d8 d7 d6 d5 d4 d3 d2 c9 c8 c7 c5 c4 c2 c1 b9 b8:Value,a= {tmps:=#[.pointer (some ⟨bv,0,none⟩),I n,.pointer (some ⟨w.heap.size,0,none⟩),undef,.slice none 0 0,.pointer (some ⟨w1.heap.size,0,none⟩),.pointer (some ⟨w1.heap.size+1,0,none⟩),.bool ch,undef,u9,g9,g8,.slice (some ⟨w.heap.size+1,0,none⟩) 1 1,I n,.slice (some ⟨w.heap.size+2,0,none⟩) n n,.slice (some ⟨w.heap.size+2,0,none⟩) n n,.pointer (some ⟨w.heap.size+2,0,none⟩),.func (.func 146) #[] #[.pointer (some ⟨w.heap.size,0,none⟩),.pointer (some ⟨w1.heap.size,0,none⟩)],g7,g6,g5,g4,g3,l2,l0,k9,g2,g1,g0,f9,f8,f6,f5,f4,f2,f1,e8,e7,e6,e5,e4,e3,d9,d8,d7,d6,d5,d4,d3,d2,c9,c8,c7,c5,c4,c2,c1,b9,b8],defers:=ds }/\oh w.heap.size W ds/\∃idom,DomMem w W bv w1.heap.size (w.heap.size+2) n idom/\((ch=true/\ip t f ns k idom idom')∨(ch=false/\idom=idom'))) k0 ?_ ?_
 ·refine⟨true,[],_,_,_,_,_,_,_,_,_,_,_,_,_,_,_,_,_,_,_,_,_,_,_,_,_,_,_,_,_,_,_,_,_,_,_,_,_,_,_,_,_,_,_,_,rfl,⟨[],rfl,List.nodup_nil,by simp⟩,_,oH HW.out n7 h1,.inl ⟨rfl,HD.out⟩⟩
 clear HD HW c0 f0 c3 f3 i2;rintro k a W ⟨ch,ds,u9,g9,g8,g7,g6,g5,g4,g3,l2,l0,k9,g2,g1,g0,f9,f8,f6,f5,f4,f2,f1,e8,e7,e6,e5,e4,e3,d9,d8,d7,d6,d5,d4,d3,d2,c9,c8,c7,c5,c4,c2,c1,b9,b8,rfl,hM,idom,h4,m4⟩;have HM:=Ja hM;have q:=Ja h4;have k4:=Ja m4;clear hM h4 m4;have cI:=cell_of_one q.out.hi;have cV:=cell_of_one q.out.hv
 cases ch with
 |false=>
  go_wp2;obtain⟨Ds,rfl,hnd,q0⟩:=HM.out;obtain rfl:idom=idom':=k4.out.elim (fun h=>Bool.noConfusion h.1) (fun h=>h.2);refine sr w.heap.size (fun W=>A W (w.heap.size+2) (idom.map (Value.int .i64)).toArray 3/\Q w W) ?_ ?_ Ds W hnd q0 ⟨q.out.hr,q.out.hb⟩
  ·rintro W D hB hd ⟨h1,h2⟩;exact⟨zL (grownBy_putObj' W D _) h1 (by rintro e;cases e;rw[h1] at hd;cases hd),h2.grown (grownBy_putObj' W D _) h2.size (by rintro k e;cases e;exact hB)⟩
  ·rintro W ⟨h1,h2⟩
   exact⟨_,results_tmp rfl _ _ _,_,rfl,by omega,h1,h2⟩
 |true=>
  have q9:=HV.out;obtain⟨ov,bm,pv,nm,e0,e1,e2,ho,hm,s3,hp,hl⟩:=q9;obtain⟨aO,capO,rfl,q2,h9⟩:=ho;subst p4;obtain⟨b,o,rfl,s9,q3⟩:=h9 0 0 rfl;simp only[Nq] at q2 e0;have HX:=Ja h9;clear e2 hm hp h9 q3 e1;have e0:=(q.out.hb.cell (p:=⟨bv,0,none⟩) (show bv<w.heap.size by omega)).trans e0;have l1:1<=capO:=Zo;go_upto_region 7 with fail
  go_cut [23,24,25] from 18 to 25 (fun s l i wx=>wx=W/\l=I (ns.length:Int)/\i=I 0/\∃o' c',s=.slice (some ⟨b,o',none⟩) ns.length c'/\Hid (0<ns.length->o'=o+1))
  case first=>
   go_wp2
   all_goals go_meet
   ·exact⟨rfl,rfl,rfl,_,_,rfl,by unfold Hid;intro h;omega⟩
   ·exact⟨rfl,rfl,rfl,_,_,rfl,fun _=>rfl⟩
  case rest=>
   obtain⟨rfl,rfl,rfl,o',c',rfl,HO⟩:=hcut
   obtain⟨k,i1,h5,a2,h7,rfl⟩:∃k2 i1 h5,ny t f ns idom false i1 h5/\((h5=false/\idom'=i1)∨(h5=true/\ip t f ns k2 i1 idom'))/\k=k2+1:=by
    rcases k4.out with⟨_,h⟩|⟨h,_⟩
    ·cases k with
     |zero=>exact h.elim
     |succ k=>obtain⟨i1,ch,h1,h2⟩:=h;exact⟨k,i1,ch,h1,h2,rfl⟩
    ·cases h
   have a4:=Ja a2;have k7:=Ja h7;clear a2 h7 k4 cI cV;go_wp2;refine wp_loop_ghost (fun k a W=>∃(i:Nat) (ch:Bool) (ds:List Deferred),∃u9 g9 g8 g7 g6 g5 g4 g3 g2 g1 g0 f9 f8 f6 f5 f4 f2 f1 e8 e7 e6 e5 e4 e3 d9 d8 d7 d6 d5 d4 d3 d2 c9 c8 c7 c5 c4 c2 c1 b9 b8:Value,a= {tmps:=#[.pointer (some ⟨bv,0,none⟩),I n,.pointer (some ⟨w.heap.size,0,none⟩),undef,.slice none 0 0,.pointer (some ⟨w1.heap.size,0,none⟩),.pointer (some ⟨w1.heap.size+1,0,none⟩),.bool ch,undef,u9,g9,g8,.slice (some ⟨w.heap.size+1,0,none⟩) 1 1,I n,.slice (some ⟨w.heap.size+2,0,none⟩) n n,.slice (some ⟨w.heap.size+2,0,none⟩) n n,.pointer (some ⟨w.heap.size+2,0,none⟩),.func (.func 146) #[] #[.pointer (some ⟨w.heap.size,0,none⟩),.pointer (some ⟨w1.heap.size,0,none⟩)],g7,g6,g5,g4,g3,(.slice (some ⟨b,o',none⟩) ns.length c'),(I (ns.length:Int)),(I i),g2,g1,g0,f9,f8,f6,f5,f4,f2,f1,e8,e7,e6,e5,e4,e3,d9,d8,d7,d6,d5,d4,d3,d2,c9,c8,c7,c5,c4,c2,c1,b9,b8],defers:=ds }/\k+i=ns.length/\oh w.heap.size W ds/\∃idom,DomMem w W bv w1.heap.size (w.heap.size+2) n idom/\ny t f (ns.drop i) idom ch i1 h5) ns.length ?_ ?_
   ·exact⟨0,false,ds,_,_,_,_,_,_,_,_,_,_,_,_,_,_,_,_,_,_,_,_,_,_,_,_,_,_,_,_,_,_,_,_,_,_,_,_,_,_,_,_,_,rfl,rfl,HM.out,idom,q.out,a4.out⟩
   clear a4 HM q ds idom;rintro j a W ⟨i,ch,ds,u9,g9,g8,g7,g6,g5,g4,g3,g2,g1,g0,f9,f8,f6,f5,f4,f2,f1,e8,e7,e6,e5,e4,e3,d9,d8,d7,d6,d5,d4,d3,d2,c9,c8,c7,c5,c4,c2,c1,b9,b8,rfl,s6,hM,idom,h4,a2⟩;have HM:=Ja hM;have q:=Ja h4;have a4:=Ja a2;clear hM h4 a2
   by_cases s4:(i:Int)<ns.length
   ·obtain⟨x,hx⟩:∃x,ns[i]? =some x:=⟨_,Jd Zo⟩
    have s0:=HN.out x (Ji hx);obtain⟨b1,o1,q4,_,h8⟩:=HX.out (i+1) x (by simpa using hx);obtain⟨rfl,rfl⟩:b=b1/\o=o1:=by simpa using q4
    have h8:T W b (o'+i) (I x):=by
     rw[HO.out Zo,Nat.add_assoc,Nat.add_comm 1 i];exact(q.out.hb.cell (p:=⟨b,o+(i+1),none⟩) (show b<w.heap.size by omega)).trans h8
    have cV:=cell_of_one q.out.hv;have t2:w.heap.size<W.heap.size:=lt_of_block q.out.hv;have r5:w1.heap.size+1<W.heap.size:=lt_of_block q.out.hm;go_wp2_with (go_at_call 147;refine(lj _ _ _).mono ?_;rintro e w2 ⟨rfl,rfl⟩)
    have b5:ns.drop i=x::ns.drop (i+1):=by
     rw[Qn Zo]
     congr 1
     have:=Jd (l:=ns) (i:=i) Zo;rw[hx] at this;exact(Nt this).symm
    have hp:=a4.out;rw[b5] at hp;obtain⟨pr,d0,old,l4,a5,a0,h6,b6⟩:=hp;have n4:(((W.alloc (G #[I (-1)] 3)).alloc (G #[F bv] 192)).alloc (G #[I x] 3)).heap.size=W.heap.size+3:=by simp
    have b0:DomMem w (((W.alloc (G #[I (-1)] 3)).alloc (G #[F bv] 192)).alloc (G #[I x] 3)) bv w1.heap.size (w.heap.size+2) n idom:=
     ((q.out.kept (Uo W _ none) (fun _ e=>by cases e)).kept (Uo _ _ none) (fun _ e=>by cases e)).kept (Uo _ _ none) (fun _ e=>by cases e)
    have b7:Boxed (((W.alloc (G #[I (-1)] 3)).alloc (G #[F bv] 192)).alloc (G #[I x] 3)) W.heap.size 3 (I (-1)):=((Boxed.new W _ _).alloc _).alloc _;have j2:KeepsFrom 0 W (((W.alloc (G #[I (-1)] 3)).alloc (G #[F bv] 192)).alloc (G #[I x] 3)):=((uh _ _).trans (uh _ _)).trans (uh _ _);obtain⟨bp,op,len,r0,ar,o0,b4,s8,m8⟩:=jt HV.out (b0.hb.mono hC) l4 (Bv:=W.heap.size+1) (Bn:=W.heap.size+1+1) (cell_of_one (zB (zI Zs))) (cell_of_one (zI Zs));generalize (((W.alloc (G #[I (-1)] 3)).alloc (G #[F bv] 192)).alloc (G #[I x] 3))=W4 at n4 b0 b7 j2 b4 ⊢;have o2:=Ja a5;have HC:=Ja b6;have t3:=Ja a0
    refine(wpIn_wide (n:=100)).1 (wpIn_rangeFunc_ownG rfl Zd (gf:=152) (lb:=#[F (W.heap.size+1),F (W.heap.size+1+1)]) rfl trivial (enters_of Tryz.func152 Zk rfl)
     (nH 99 Zd (W.heap.size+1) (W.heap.size+1+1) x pr bv bp op len r0 ar o0 (r1.out pr (Ji l4)) W4 b4) (fun h k x=>k (h x)) (fun V l o o' hl ho hc _ h=>h.keptObj (grownBy_putObj' V l o') (fun r e=>by cases e;exact⟨o,ho,hc⟩)) (Below.refl _ _) (fun _=>rfl)
     (fun a6 V=>DomMem w V bv w1.heap.size (w.heap.size+2) n idom/\KeepsFrom 0 W4 V/\∃d,Boxed V W.heap.size 3 (I d)/\OkD idom d/\wi idom f (a6.map (·.1)) (-1) d) (fun _ _ _=>False)
     ?own (fun _ _ _ _ _ hs _ _=>hs) ⟨b0,KeepsFrom.refl _ _,-1,b7,.inl rfl,rfl⟩ ?a1 ?assign ?body ?done ?stop)
    case own=>
     rintro s X Y row ⟨hd,hk,d,hb,ho,hp⟩ hg hr;exact⟨hd.own hg (fun r e=>(hr r e).2) (fun r e=>by have:=(hr r e).1;omega),ownFrom_keepsFrom (β:=Unit) (Je W4.heap.size) () X Y row hk hg hr,d,hb.kept hg (fun e=>by have:=(hr _ e.symm).1;omega),ho,hp⟩
    case assign=>
     intro l x W K hK
     gi_wp2
     exact hK
    case body=>
     clear h8 b4 b0 b7 a0 a5 b6 h6 hx b5 e0 cV;rintro l a6 ⟨p,hp⟩ V ⟨hd,hk,d,hb,ho,b2⟩ r4;have a7:(a6++ [(⟨p,hp⟩: {p//p∈pr})]).map (fun x=>x.1)=a6.map (fun x=>x.1)++ [p]:=by rw[Js];rfl
     have a7:=Ja a7;obtain⟨hpl,a5⟩:=o2.out p hp;obtain⟨d1,l9,k5⟩:=a5 d ho;obtain⟨x0,i0,l6⟩:=k5;have HD:=Ja hd;have HK:=Ja hk;have HB:=Ja hb;have b3:=Ja (Jb l9 (b2.snoc ⟨x0,i0,l6⟩));have cI:=cell_of_one hd.hi;have cM:=cell_of_one hd.hm;have cD:=hb.cell;have fD:=hb.frozen;have p1:p<n:=by rw[<-hd.hl];exact hpl
     have cr:T V (w.heap.size+2) p (I x0):=zA hd.hr (by simp[i0]);have s2:(p:Int)<n:=Zo;clear hd hk hb b2 ho l9 a5 i0 hpl;rcases l6 with⟨j1,rfl⟩|⟨j1,s7,rfl⟩|⟨j1,dn,rfl,q1,k2,r,k6,rfl⟩
     ·gi_wp2
      refine(show _/\_/\_ from⟨KeepsFrom.refl _ _,fun h=>h,HD.out,HK.out,_,HB.out,b3.out.1,?_⟩);rw[a7.out];exact b3.out.2
     ·gi_wp2
      refine(show _/\_/\_ from⟨(uu HB.out _).from0 _,fun h=>h.set _ Zo Zo Zo Zo (fun j y hj a e=>by have:=m8 j y hj a e;omega),HD.out.kept (grownBy_setCell' V _ _) (fun r e=>by cases e;have:=HD.out.lt;omega),HK.out.trans (uu HB.out _),_,HB.out.set _,b3.out.1,?_⟩)
      show wi idom f ((a6++ [(⟨p,hp⟩: {p//p∈pr})]).map (fun x=>x.1)) (-1) _
      rw[a7.out];exact b3.out.2
     ·have hnd:¬(dn:Int)<0:=Zo
      gi_wp2
      obtain⟨ov,bm',r6,o3,e0,e1,e2,p3,m1,r3,p0,s5⟩:=HV.out.below (HD.out.hb.mono hC);refine⟨trivial,CallsIn.inRound l (callsIn_wide.2 ((meet_any V w.heap.size w1.heap.size bv bm' o3 (w.heap.size+2) f idom (by rw[HD.out.hl];exact hn) (cell_of_one HD.out.hv) e1 m1 (by rw[HD.out.hl];exact cI) HD.out.hr k2 p dn r (by rw[HD.out.hl];exact p1) q1 k6).mono ?_))⟩;rintro e V2 ⟨rfl,m,rfl⟩;clear e0 e1 e2 p3 m1 p0
      gi_wp2
      have n3:Boxed (V.drewN m) W.heap.size 3 (I dn):=HB.out;have m3:V.grownBy (V.drewN m) none:=⟨rfl,rfl,rfl,Je _,fun _ _ _=>rfl⟩
      have m2:KeepsFrom 0 V ((V.drewN m).setCell ⟨W.heap.size,0,none⟩ (I r)):=(uW V m).trans (uu n3 _);refine(show _/\_/\_ from⟨m2.from0 _,fun h=>(h.keptObj m3 (fun r e=>by cases e)).set _ Zo Zo Zo Zo (fun j y hj a e=>by have:=m8 j y hj a e;omega),(HD.out.kept m3 (fun r e=>by cases e)).kept (grownBy_setCell' _ _ _) (fun r e=>by cases e;have:=HD.out.lt;omega),HK.out.trans m2,_,n3.set _,b3.out.1,?_⟩)
      show wi idom f ((a6++ [(⟨p,hp⟩: {p//p∈pr})]).map (fun x=>x.1)) (-1) _
      rw[a7.out];exact b3.out.2
    case done=>
     rintro D xs V hD o6 ⟨hd,hk,d,hb,ho,b2⟩ n1;rw[o6] at b2;obtain rfl:=wi.unique b2 a0;have cI:=cell_of_one hd.hi;have cD:=hb.cell;have cr:T V (w.heap.size+2) x (I old):=zA hd.hr (by simp[h6]);have fr:V.frozen? ⟨w.heap.size+2,x,none⟩=false:=zE hd.hr;have s1:(x:Int)<n:=Zo;have HD:=Ja hd;have n2:=Ja (HM.out.push (j2.trans hk) Zo (by have:=q.out.hb.size;omega) n1);clear hd hk hb ho b2 n1 h8 b4 b0 b7 a0 a5 b6 h6 hx b5 e0 cV;rcases HC.out with⟨rfl,a3⟩|⟨p5,a3⟩
     ·have k3:=Ja a3;clear a3;have q5:(old !=old)=false:=by simp
      go_wp2;go_quiet (fail);go_wp2;have j9:V.grownBy (V.drewN nq) none:=⟨rfl,rfl,rfl,Je _,fun _ _ _=>rfl⟩
      refine⟨j-1,by omega,i+1,ch,_,_,_,_,_,_,_,_,_,_,_,_,_,_,_,_,_,_,_,_,_,_,_,_,_,_,_,_,_,_,_,_,_,_,_,_,_,_,_,_,_,_,(by rw[Int.natCast_add];rfl),by omega,n2.out.keeps (uW V nq),idom,HD.out.kept j9 (fun r e=>by cases e),k3.out⟩
     ·have k3:=Ja a3;clear a3;have q5:(old !=d)=true:=by simpa using p5
      go_wp2;go_quiet (fail);go_wp2;have j9:V.grownBy (V.drewN nq) none:=⟨rfl,rfl,rfl,Je _,fun _ _ _=>rfl⟩
      refine⟨j-1,by omega,i+1,true,_,_,_,_,_,_,_,_,_,_,_,_,_,_,_,_,_,_,_,_,_,_,_,_,_,_,_,_,_,_,_,_,_,_,_,_,_,_,_,_,_,_,(by rw[Int.natCast_add];rfl),by omega,(n2.out.keeps (uW V nq)).keeps (uu (W:=V.drewN nq) HD.out.hr _),idom.set x d,(HD.out.kept j9 (fun r e=>by cases e)).set x d,k3.out⟩
    case stop=>
     rintro D c a6 V _ _ h _;exact h.elim
   ·go_wp2;obtain rfl:i=ns.length:=by omega
    have hp:=a4.out;rw[List.drop_length] at hp;obtain⟨rfl,rfl⟩:=hp;refine⟨k,by omega,?_⟩;rcases k7.out with⟨rfl,rfl⟩|⟨rfl,h⟩
    ·exact .inl ⟨_,⟨rfl,rfl⟩,HM.out,q.out⟩
    ·exact .inr ⟨_,⟨rfl,rfl⟩,HM.out,_,q.out,h⟩
end Go.Proofs.YtoahcpkibpomcaaGreat
set_option maxRecDepth 8000
namespace Go.Proofs.YtoahcpkibpomcaaGreat
open Go.RowKit Go.Shelf
variable {W W' w w' w0 w1:World}{B0 Bi Bn Bv N bi bp bs i j k on vb vn x:Nat}{seen:List Bool}{ov pv tv:Value}{ns post rs:List Nat}{c d oa ob:Int}{K:MK}{m m':Mach}{idom xs:List Int}{t:ITerm}{f:Int->Int}{ds:List Deferred}{g:List (List Nat)}{ar:Option Addr}{o oi:Oper}
def j6 (w:World)(xs:List Int)(e:Ending)(w':World):Prop:=∃v,e=.returned v/\w'.ownsRow w.heap.size 3 1 v xs.length (xs.map zN)/\Q w w'
theorem lI (g:List (List Nat))(c:List Nat):(un g c).length=g.length:=by
 have h1:∀(l:List Nat) (P:List (List Nat)) (n:Nat),(l.foldl (xS n) P).length=P.length:=by
  intro l
  induction l with
  |nil=>intros;rfl
  |cons a l ih=>intro P n;rw[Qk,ih];simp[xS]
 have h2:∀(l:List Nat) (P:List (List Nat)),(l.foldl (yh g) P).length=P.length:=by
  intro l
  induction l with
  |nil=>intros;rfl
  |cons a l ih=>intro P;rw[Qk,ih];unfold yh;rw[h1]
 unfold un;rw[h2];simp
theorem afm(hr:∀row∈g,row.length<=2000000){c:List Nat}(ho:c.length<=2000000):∀row∈un g c,row.length<=4000004000000:=by
 intro row d;have:=rj g 2000000 hr c (List.replicate g.length []) 0 (by intro r hr;rw[(List.mem_replicate.1 hr).2];simp) row d;have h2:c.length*2000000<=2000000*2000000:=Qw _ ho;omega
theorem pz{c:List (List Nat)}:∀ {ns:List Nat} {idom idom':List Int} {ch ch':Bool},ny c f ns idom ch idom' ch'->idom'.length=idom.length
 | [],_,_,_,_,h=>by rw[h.1]
 |n::ns,idom,idom',ch,ch',⟨pr,d,old,_,_,_,_,h⟩=>by
  rcases h with⟨_,h⟩|⟨_,h⟩
  ·exact pz h
  ·have:=pz h;simpa using this
theorem jF{c:List (List Nat)}:∀ {k:Nat} {idom idom':List Int},ip c f ns k idom idom'->idom'.length=idom.length
 |0,_,_,h=>h.elim
 |k+1,idom,idom',⟨i1,ch,h1,h2⟩=>by
  have e:=pz h1;rcases h2 with⟨_,rfl⟩|⟨_,h2⟩
  ·exact e
  ·rw[jF h2,e]
theorem eL.len{c:List Int}(h:eL g ns c)(hg:0<g.length):c.length=g.length:=by
 obtain⟨k,h⟩:=h;rw[jF h];simp;omega
theorem pe (w:World)(C bv:Nat)(g:List (List Nat))(hv:zw g)(d:g.length<=2000000)(hr:∀row∈g,row.length<=2000000)(ns:List Nat)(h:tV g (0::ns))(c:List Int)(hD:eL g ns c)
 (i:C<=w.heap.size) (f:oN w C bv (0::ns) (atF (0::ns) (0::ns).length) (un g (0::ns))):
 O 141 #[F bv,I (g.length:Int)] w fun e w'=>∃b,e=.returned (L b g.length g.length)/\w.heap.size<=b/\A w' b (c.map (Value.int .i64)).toArray 3/\Q w w':=by
 obtain⟨h1,h2⟩:=h.nodes hv;obtain⟨k,hD⟩:=hD;simp only[Nq] at h1;exact qQ w C bv g.length (0::ns) _ _ i f hv.1 d ns rfl (fun x hx=>h2 x (by simp[hx])) Zo (lI _ _) (afm hr Zt) k c hD
theorem tw (w:World)(sv:Value)(g:List (List Nat))(B:Nat)(hB:B<=w.heap.size)(h:aaB zj w B sv g)(hv:zw g)(hn:g.length<=2000000)(hr:∀row∈g,row.length<=2000000)(ns:List Nat)(hF:tV g (0::ns))(c:List Int)(hD:eL g ns c):
 O 118 #[.agg #[sv]] w (j6 w (c.set 0 (-1))):=by
 obtain⟨a,d,rfl,a3⟩:=h.form;have l:Q w (w.alloc (G #[.slice a g.length d] 105)):=(Below.refl _ _).alloc (Je _) _;have HL:=Ja (hD.len hv.1);have HV:=Ja hv;have HR:=Ja hr;have HF:=Ja hF;have HD:=Ja hD;have cg:T (w.alloc (G #[.slice a g.length d] 105)) w.heap.size 0 (.slice a g.length d):=cell_of_one (zI rfl);have a5:=hv.1;clear hv hr hF hD;go_enter Tryz.func118,Tryz.ntmps118;go_wp2_with (go_at_call 93;go_must (refine(tK _ _ g B Zt (h.below (l.mono hB)) HV.out hn HR.out).mono ?_;rintro e w1 ⟨rfl,f⟩;obtain⟨k,t⟩:=bcell f))
 generalize u:w.alloc (G #[.slice a g.length d] 105)=W0 at cg f k t ⊢;have q:=Ja u;have lg:w.heap.size<W0.heap.size:=Jw W0 _ cg;have b0:=(k _ 0 lg).trans cg;have o:Below (w.heap.size+1) W0 w1:=f.mono Zo;clear u l k t cg f
 go_cut [3] (fun s wx=>∃b,s=L b g.length g.length/\Hid (A wx b (c.map (Value.int .i64)).toArray 3/\w.heap.size<=b/\Q w wx))
 case first=>
  go_region_held3 (fun w'=>T w' w.heap.size 0 (.slice a g.length d)/\Below (w.heap.size+1) W0 w')
   (first
     |(go_split_ands;refine⟨?_,?_⟩<;>assumption)
     |(go_split_ands;refine⟨?_,uG ?_⟩<;>assumption)
     |(go_split_ands;exact oY ‹_› ‹_› Zz Zz))
   (first
     |(go_at_call 140;refine(view_any _ _ g B (o7 hB q (by repeat' (first|assumption|(with_reducible refine Below.drew ?_)))) (nP h hB q (by repeat' (first|assumption|(with_reducible refine Below.drew ?_)))) HV.out hn HR.out (0::ns) HF.out).mono ?_;rintro e w2 ⟨bv,rfl,a6,hV,m⟩)
     |(go_at_call 141;refine(pe _ _ bv g HV.out hn HR.out ns HF.out c HD.out (Je _) hV).mono ?_;rintro e w3 ⟨b,rfl,a7,y,a1⟩))
  all_goals
   go_wp2_with fail;go_meet
   have a0:Below (w.heap.size+1) W0 w3:=by
    repeat' (first|assumption|(with_reducible refine Below.drew ?_)|(refine Below.trans ?_ (Below.mono a1 ?_))|(refine Below.trans ?_ (Below.mono m ?_))|omega)
    all_goals (have:=m.size;have:=o.size;simp at *;omega)
   have a4:=m.size;have a2:=o.size;exact⟨b,rfl,y,by simp at *;omega,ww rfl q a0⟩
 case rest=>
  obtain⟨b,rfl,j⟩:=hcut;have hl:=HL.out
  have cb:∃x,T wc b 0 (I x):=by
   obtain⟨x,hx⟩:∃x,c[0]? =some x:=⟨_,Jd Zo⟩
   exact⟨x,zA j.out.1 (by simp[hx])⟩
  obtain⟨x,cb⟩:=cb;have fb:Y wc b 0:=zE j.out.1;go_wp2_with fail;go_ret;refine⟨_,rfl,?_,j.out.2.2.setCell (by simpa using j.out.2.1) _⟩;have hs:=zD (i:=0) j.out.1 (I (-1));refine⟨by simp,.inr ⟨b,g.length,_,by simp[hl],j.out.2.1,hs,by simp[hl],by unfold maxLen;omega,by simp[hl],?_⟩⟩;simp only[Ox,Nd,hl,Nk,Jc,List.toList_toArray];rw[Oy (by simp[hl])];rfl
open Go.RowKit
section
variable {P:Program} {ops:Array Oper} {Q:Exit->Act->World->Prop} {md:Region.Mode} {S:World->Prop} {L:Nat}
def uO (P:Program)(md:Region.Mode)(ops:Array Oper)(Q:Exit->Act->World->Prop)(S:World->Prop)(L:Nat):Nat->Array Bool->Act->World->Prop
 |0,listed,a,w=>Region.ready md ops listed=[]/\Q .normal a w
 |fuel+1,listed,a,w=>
  (Region.ready md ops listed=[]->Q .normal a w)/\
  ∀i∈Region.ready md ops listed,wpOp P ops Q i (fun a' w'=>(i≠L->S w')/\uO P md ops Q S L fuel (listed.setIfInBounds i true) a' w') a w
theorem pL:∀(fuel:Nat) (listed:Array Bool) (a:Act) (w:World),uO P md ops Q S L fuel listed a w->wpAny P md ops Q fuel listed a w
 |0,_,_,_,h=>h
 |fuel+1,_,_,_,h=>⟨h.1,fun i hi=>wpOp_mono (fun a' w' h'=>pL fuel _ a' w' h'.2) (h.2 i hi)⟩
def mw (md:Region.Mode)(ops:Array Oper)(L i:Nat):Bool:=((ops[L]?).map fun o=>o.after.any fun e=>Region.binds md e && e.on==i).getD false
theorem waits_ne{c:Array Bool}(d:mw md ops L i=true)(hi:c.getD i true=false)(k:j∈Region.ready md ops c):j≠L:=by
 rintro rfl;obtain⟨_,oj,h,f⟩:=mem_ready.1 k;unfold mw at d;rw[h] at d;obtain⟨e,l,hb⟩:=Array.any_eq_true'.1 d;simp only[Jm,beq_iff_eq] at hb;have h1:=f e l hb.1;rw[hb.2] at h1;rcases Nat.lt_or_ge i c.size with g|g
 ·simp[g] at hi h1;rw[hi] at h1;cases h1
 ·simp[Array.getElem?_eq_none g] at h1
theorem nD{v:Value}(hi:ops[i]? =some oi)(a1:mw md ops L i=true)(g:∀(j:Nat) (o:Oper) cs b,ops[j]? =some o->o.op≠ .select cs b)
 (hQ:∀c a w,Q (.panic c) (a.put oi.dst v) w->Q (.panic c) a w):
 ∀(fuel:Nat) (listed:Array Bool) (a:Act) (w:World),
  (∀j oj,ops[j]? =some oj->j≠i->listed.getD j true=false->(∀e∈oj.after,Region.binds md e=true->e.on≠i)->oi.apart ops oj=true)->
  i∈Region.ready md ops listed->YieldsIf P ops S oi v a->S w->
  uO P md ops Q S L fuel (listed.setIfInBounds i true) (a.put oi.dst v) w->uO P md ops Q S L (fuel+1) listed a w:=by
 intro fuel
 induction fuel with
 |zero=>
  intro listed a w _ hr u t H;refine⟨fun h=>(by rw[h] at hr;cases hr),fun j hj=>?_⟩
  by_cases d:j=i
  ·subst d;exact u.wpOp hi t ⟨fun _=>t,H⟩
  ·have:=ready_mono hj d;rw[H.1] at this
   cases this
 |succ fuel ih=>
  intro listed a w f hr u t H;refine⟨fun h=>(by rw[h] at hr;cases hr),fun j hj=>?_⟩
  by_cases d:j=i
  ·subst d;exact u.wpOp hi t ⟨fun _=>t,H⟩
  ·have h1:=H.2 j (ready_mono hj d);have a2:j≠L:=waits_ne a1 (mem_ready.1 hr).1 hj;obtain⟨m,oj,l,a0⟩:=mem_ready.1 hj
   have y:∀e∈oj.after,Region.binds md e=true->e.on≠i:=fun e he hb heq=>by
    have h1:=a0 e he hb;have h0:=(mem_ready.1 hr).1;rw[heq] at h1;rcases Nat.lt_or_ge i listed.size with h'|h'
    ·simp[h'] at h0 h1;rw[h0] at h1;cases h1
    ·simp[Array.getElem?_eq_none h'] at h1
   have h2:=wpOp_putIf l (f j oj l d m y) (fun cs b=>g i oi cs b hi) (fun cs b=>g j oj cs b l) hQ u h1
   have q:∀k ok,ops[k]? =some ok->k≠i->(listed.setIfInBounds j true).getD k true=false->
    (∀e∈ok.after,Region.binds md e=true->e.on≠i)->oi.apart ops ok=true:=fun k ok hk hki hun hno=>by
    refine f k ok hk hki ?_ hno
    by_cases x:j=k
    ·subst x;exact m
    ·rw[getD_set_ne true x] at hun;exact hun
   refine wpOp_mono (fun a' w' h3=>⟨h3.2.1,ih (listed.setIfInBounds j true) a' w' q (ready_mono hr (Ne.symm d)) h3.1 (h3.2.1 a2) ?_⟩) h2;rw[Array.setIfInBounds_comm _ _ d];exact h3.2.2
theorem zF{v:Value}{fuel:Nat}{d:Array Bool}{a:Act}(hi:ops[i]? =some oi)(f:mw md ops L i=true)
 (hs:Region.noSelect ops=true) (hf:Region.free md ops d i=true) (hr:(Region.ready md ops d).contains i=true)
 (k:∀c a w,Q (.panic c) (a.put oi.dst v) w->Q (.panic c) a w) (g:YieldsIf P ops S oi v a) (j:S w)
 (h:uO P md ops Q S L fuel (d.setIfInBounds i true) (a.put oi.dst v) w):uO P md ops Q S L (fuel+1) d a w:=
 nD hi f (Region.noSelect_spec hs) k fuel d a w (Region.free_spec hi hf) (by simpa using hr) g j h
theorem Tl(i:Nat){v:Value}{fuel:Nat}{d:Array Bool}{a:Act}(h:uO P md ops Q S L fuel (d.setIfInBounds i true) (a.put oi.dst v) w)(hi:ops[i]? =some oi:=by rfl)(f:mw md ops L i=true:=by kernel_rfl)
 (hs:Region.noSelect ops=true:=by kernel_rfl) (hf:Region.free md ops d i=true:=by kernel_rfl) (hr:(Region.ready md ops d).contains i=true:=by kernel_rfl)
 (k:∀c a w,Q (.panic c) (a.put oi.dst v) w->Q (.panic c) a w:=by exact fun _ _ _ h=>h) (g:YieldsIf P ops S oi v a:=by exact Or.inl ⟨by rfl,by intro w hSw;(try dsimp only at hSw);go_simp;try with_reducible rfl⟩) (j:S w:=by assumption):uO P md ops Q S L (fuel+1) d a w:=
 zF hi f hs hf hr k g j h
def zS (P:Program)(md:Region.Mode)(ops:Array Oper)(Q:Exit->Act->World->Prop)(S:World->Prop)(L:Nat)(fuel:Nat)(listed:Array Bool)(a:Act)(w:World)(rs:List Nat):Prop:=
 ∀i∈rs,wpOp P ops Q i (fun a' w'=>(i≠L->S w')/\uO P md ops Q S L fuel (listed.setIfInBounds i true) a' w') a w
theorem zS.nil{fuel:Nat}{c:Array Bool}{a:Act}:zS P md ops Q S L fuel c a w []:=fun _ h=>by cases h
theorem zS.cons{fuel:Nat}{c:Array Bool}{a:Act}(ho:ops[i]? =some o)
 (h:∀K':Act->World->Prop,Shut (∀a w,S w->(S w->uO P md ops Q S L fuel (c.setIfInBounds i true) a w)->K' a w)->if Region.wanted o (yielded ops a.tmps)=true then Oper.wp P o a w K' Q else K' (a.put o.dst undef) w)
 (hs:zS P md ops Q S L fuel c a w rs):zS P md ops Q S L fuel c a w (i::rs):=fun j d=>by
 rcases Jq.1 d with rfl|d
 ·exact wpOp_step ho (fun K' hK=>h K' (fun a w hS hW=>hK a w ⟨fun _=>hS,hW hS⟩))
 ·exact hs j d
theorem zS.last{fuel:Nat}{c:Array Bool}{a:Act}(ho:ops[L]? =some o)
 (h:∀K':Act->World->Prop,Shut (∀a w,uO P md ops Q S L fuel (c.setIfInBounds L true) a w->K' a w)->if Region.wanted o (yielded ops a.tmps)=true then Oper.wp P o a w K' Q else K' (a.put o.dst undef) w):
 zS P md ops Q S L fuel c a w [L]:=fun j d=>by
 rcases Jq.1 d with rfl|d
 ·exact wpOp_step ho (fun K' hK=>h K' (fun a w hW=>hK a w ⟨fun e=>absurd rfl e,hW⟩))
 ·cases d
theorem z8{fuel:Nat}{c:Array Bool}{a:Act}(hr:Region.ready md ops c=rs)(d:rs≠ [])
 (h:zS P md ops Q S L fuel c a w rs):uO P md ops Q S L (fuel+1) c a w:=⟨fun h0=>absurd (hr ▸ h0) d,hr ▸ h⟩
theorem xj{listed:Array Bool}{a:Act}(hr:Region.ready md ops listed=[])(h:Q .normal a w):∀fuel,uO P md ops Q S L fuel listed a w
 |0=>⟨hr,h⟩
 |_+1=>⟨fun _=>h,by rw[hr];simp⟩
theorem yQ{id:Nat}{a:Act}(L:Nat)(hm:P.follows .mixedOrders=true)(c:S w.drew)
 (h:S w.drew->uO P .any ops Q S L ops.size (Array.replicate ops.size false) a w.drew):(Code.region id ops true).wp P Q a w:=
 wp_region_any hm (pL _ _ _ _ (h c))
end
end Go.Proofs.YtoahcpkibpomcaaGreat
