/- Part of a proof. -/
import Derived.Test.YtoahcpkibpomcaaGreatIOper
import Derived.StillTailTactics
set_option linter.all false
set_option maxHeartbeats 4000000
set_option maxRecDepth 100000
namespace Go.Proofs.YtoahcpkibpomcaaGreat
open Go.RowKit
variable {K:MK}{w w':World}{bh bp c i k on vb vn x:Nat}{m m':Mach}{oa ob:Int}{g:List (List Nat)}
def Res.lt:Res Nat->Prop
 |.ok x _=>x<65536
 |.trap _ _ _=>True
def zQ (K:MK)(w:World)(r:Res Nat)(e:Ending)(w':World):Prop:=e=endOf r/\(∃ov',MachAt w' K r.mach ov')/\Frm K.B w w'/\r.lt
theorem zQ.ok{c:Value}(h:MachAt w' K m' c)(g:Frm K.B w w')(d:x<65536):zQ K w (.ok x m') (.returned (O x)) w':=⟨rfl,⟨c,h⟩,g,d⟩
theorem zQ.trap{c:Value}(h:MachAt w' K m' c)(d:Frm K.B w w'):zQ K w (.trap k i m') (.panicked [oE k i]) w':=⟨rfl,⟨c,h⟩,d,trivial⟩
theorem not16 (a:Nat)(h:a<65536):bits .xor .u16 IntKind.u16.max (a:Int)=((65535-a:Nat):Int):=by
 show IntKind.u16.wrap (((BitVec.ofInt 16 65535)^^^(BitVec.ofInt 16 (a:Int))).toNat:Int)=_
 have e1:BitVec.ofInt 16 65535=BitVec.allOnes 16:=by decide
 have e2:(BitVec.ofInt 16 (a:Int)).toNat=a:=by rw[BitVec.ofInt_natCast,BitVec.toNat_ofNat];exact Nat.mod_eq_of_lt h
 rw[e1,BitVec.xor_comm,BitVec.xor_allOnes,BitVec.toNat_not,e2,xY];omega
theorem step_1{ov:Value}(h:MachAt w K m ov){c:Int}(u:I64 oa)(t:I64 ob)(a0:on<65536)(ab:Option Addr)(an ac:Nat){v:Int->Nat}(hv:xO w vb vn v)(d:Int):
 I 155 #[F K.pm,.agg #[U 1,U c,U oa,U ob,O on,.slice ab an ac],.map (some vb),U d] w (zQ K w (.ok on m)):=by
 have k:=fun(W:World) (hW:Frm K.B w W)=>(hv.kept hW).look u
 have j:=fun(W:World) (hW:Frm K.B w W)=>(hv.kept hW).look t
 have a3:=hv.2 oa;have a2:=hv.2 ob;have a4:=h.size;have l:=Ja (h.keep ((Below.refl _ _).alloc (Je _) (G #[U 1,U c,U oa,U ob,O on,.slice ab an ac] 76)));have i:=Ja ((Frm.refl K.B w).alloc Zo (G #[U 1,U c,U oa,U ob,O on,.slice ab an ac] 76));have la:=fun n:Nat=>k _ (i.out.drewN (n:=n))
 have lb:=fun n:Nat=>j _ (i.out.drewN (n:=n))
 have g:=zI (W:=w) (o:=G #[U 1,U c,U oa,U ob,O on,.slice ab an ac] 76) rfl;clear h hv k j;generalize v oa=xa at *;generalize v ob=xb at *;go_enter Tryz.func155,Tryz.ntmps155;go_upto_region 1 with fail;generalize a1:w.alloc (G #[U 1,U c,U oa,U ob,O on,.slice ab an ac] 76)=W1 at *;clear a1;have p0:=K0 g;have p2:=K2 g;have p3:=K3 g;have p4:=K4 g
 go_cut [9,10] (fun x y wx=>x=O xa/\y=O xb/\∃n,wx=W1.drewN n)
 case first=>
  go_quiet (fail);go_wp2;go_meet;exact⟨rfl,rfl,_,rfl⟩
 case rest=>
  obtain⟨rfl,rfl,n,rfl⟩:=hcut;have HM:=Ja (l.out.drewN n);have HF:=Ja (i.out.drewN (n:=n));have q0:(W1.drewN n).cell? ⟨w.heap.size,0,none⟩=_:=p0;have q2:(W1.drewN n).cell? ⟨w.heap.size,2,none⟩=_:=p2;have q4:(W1.drewN n).cell? ⟨w.heap.size,4,none⟩=_:=p4;clear la lb p0 p2 p3 p4 g l i;generalize W1.drewN n=W2 at *;go_wp2;go_ret;exact zQ.ok HM.out HF.out a0
theorem step_3{ov:Value}(h:MachAt w K m ov){c:Int}(u:I64 oa)(t:I64 ob)(a3:on<65536)(ab:Option Addr)(an ac:Nat){v:Int->Nat}(hv:xO w vb vn v)(d:Int):
 I 155 #[F K.pm,.agg #[U 3,U c,U oa,U ob,O on,.slice ab an ac],.map (some vb),U d] w (zQ K w (.ok ((65536-v oa)%65536) m)):=by
 have k:=fun(W:World) (hW:Frm K.B w W)=>(hv.kept hW).look u
 have j:=fun(W:World) (hW:Frm K.B w W)=>(hv.kept hW).look t
 have a2:=hv.2 oa;have a1:=hv.2 ob;have a4:=h.size;have l:=Ja (h.keep ((Below.refl _ _).alloc (Je _) (G #[U 3,U c,U oa,U ob,O on,.slice ab an ac] 76)));have i:=Ja ((Frm.refl K.B w).alloc Zo (G #[U 3,U c,U oa,U ob,O on,.slice ab an ac] 76));have la:=fun n:Nat=>k _ (i.out.drewN (n:=n))
 have lb:=fun n:Nat=>j _ (i.out.drewN (n:=n))
 have g:=zI (W:=w) (o:=G #[U 3,U c,U oa,U ob,O on,.slice ab an ac] 76) rfl;clear h hv k j;generalize v oa=xa at *;generalize v ob=xb at *;go_enter Tryz.func155,Tryz.ntmps155;go_upto_region 1 with fail;generalize a0:w.alloc (G #[U 3,U c,U oa,U ob,O on,.slice ab an ac] 76)=W1 at *;clear a0;have p0:=K0 g;have p2:=K2 g;have p3:=K3 g;have p4:=K4 g
 go_cut [9,10] (fun x y wx=>x=O xa/\y=O xb/\∃n,wx=W1.drewN n)
 case first=>
  go_quiet (fail);go_wp2;go_meet;exact⟨rfl,rfl,_,rfl⟩
 case rest=>
  obtain⟨rfl,rfl,n,rfl⟩:=hcut;have HM:=Ja (l.out.drewN n);have HF:=Ja (i.out.drewN (n:=n));have q0:(W1.drewN n).cell? ⟨w.heap.size,0,none⟩=_:=p0;have q2:(W1.drewN n).cell? ⟨w.heap.size,2,none⟩=_:=p2;have q4:(W1.drewN n).cell? ⟨w.heap.size,4,none⟩=_:=p4;clear la lb p0 p2 p3 p4 g l i;generalize W1.drewN n=W2 at *;go_wp2;go_ret;have e:Ending.returned (O (IntKind.u16.wrap (-(xa:Int))))=.returned (O (((65536-xa)%65536:Nat):Int)):=zh (by rw[xY];omega);exact e ▸ zQ.ok HM.out HF.out Zo
theorem step_4{ov:Value}(h:MachAt w K m ov){c:Int}(a0:I64 oa)(u:I64 ob)(a3:on<65536)(ab:Option Addr)(an ac:Nat){v:Int->Nat}(hv:xO w vb vn v)(d:Int):
 I 155 #[F K.pm,.agg #[U 4,U c,U oa,U ob,O on,.slice ab an ac],.map (some vb),U d] w (zQ K w (.ok (65535-v oa) m)):=by
 have k:=fun(W:World) (hW:Frm K.B w W)=>(hv.kept hW).look a0
 have j:=fun(W:World) (hW:Frm K.B w W)=>(hv.kept hW).look u
 have t:=hv.2 oa;have a2:=hv.2 ob;have a4:=h.size;have l:=Ja (h.keep ((Below.refl _ _).alloc (Je _) (G #[U 4,U c,U oa,U ob,O on,.slice ab an ac] 76)));have i:=Ja ((Frm.refl K.B w).alloc Zo (G #[U 4,U c,U oa,U ob,O on,.slice ab an ac] 76));have la:=fun n:Nat=>k _ (i.out.drewN (n:=n))
 have lb:=fun n:Nat=>j _ (i.out.drewN (n:=n))
 have g:=zI (W:=w) (o:=G #[U 4,U c,U oa,U ob,O on,.slice ab an ac] 76) rfl;clear h hv k j;generalize v oa=xa at *;generalize v ob=xb at *;go_enter Tryz.func155,Tryz.ntmps155;go_upto_region 1 with fail;generalize a1:w.alloc (G #[U 4,U c,U oa,U ob,O on,.slice ab an ac] 76)=W1 at *;clear a1;have p0:=K0 g;have p2:=K2 g;have p3:=K3 g;have p4:=K4 g
 go_cut [9,10] (fun x y wx=>x=O xa/\y=O xb/\∃n,wx=W1.drewN n)
 case first=>
  go_quiet (fail);go_wp2;go_meet;exact⟨rfl,rfl,_,rfl⟩
 case rest=>
  obtain⟨rfl,rfl,n,rfl⟩:=hcut;have HM:=Ja (l.out.drewN n);have HF:=Ja (i.out.drewN (n:=n));have q0:(W1.drewN n).cell? ⟨w.heap.size,0,none⟩=_:=p0;have q2:(W1.drewN n).cell? ⟨w.heap.size,2,none⟩=_:=p2;have q4:(W1.drewN n).cell? ⟨w.heap.size,4,none⟩=_:=p4;clear la lb p0 p2 p3 p4 g l i;generalize W1.drewN n=W2 at *;go_wp2;go_ret;have e:Ending.returned (O (bits .xor .u16 IntKind.u16.max (xa:Int)))=.returned (O ((65535-xa:Nat):Int)):=zh (not16 xa t);exact e ▸ zQ.ok HM.out HF.out Zo
theorem zM {fn:Func}{p:Tmp}{ty:TypeId}(h:fn.results=#[.cell p ty])(c:Array Value)(P:Program)(w:World):
 (results fn c).run P w=((asAddr (c.getD p undef)).run P w).andThen fun a w₁=>(loadVar ty a).run P w₁:=by
 simp only[results,h];simp[Sem.run_bind,Result.andThen]
structure GMem (V w:World) (bp bh n m:Nat) (R:List (List Int)):Prop where
 hg:w.heap[bh]? =some (.cells #[.slice (some ⟨bp,0,none⟩) n n] 105 (0,0))
 hr:OwnRows zN 3 22 w V.heap.size bp R
 hl:R.length=n
 hrl:∀row∈R,row.length<=m
 hb:Below V.heap.size V w
 gp:V.heap.size<=bp
 gh:V.heap.size<=bh
theorem GMem.start (V:World)(n m:Nat):GMem V ((V.alloc (G (madeCells #[L] n) 22)).alloc (G #[T V.heap.size n n] 105)) V.heap.size (V.heap.size+1) n m (List.replicate n []):=by
 refine⟨zI Zs,OwnRows.made n ?_,by simp,(by intro r hr;rw[(List.mem_replicate.1 hr).2];simp),((Below.refl _ V).alloc (Je _) _).alloc Zs _,Je _,by omega⟩;rw[zB (zI rfl),yA]
theorem GMem.start' (V:World)(b:Nat)(hb:V.heap.size=b)(n m:Nat):GMem V ((V.alloc (G (madeCells #[L] n) 22)).alloc (G #[T b n n] 105)) b (b+1) n m (List.replicate n []):=by
 subst hb;exact GMem.start V n m
theorem GMem.alloc{V:World}{n m:Nat}{R:List (List Int)}(h:GMem V w bp bh n m R)(o:Obj):GMem V (w.alloc o) bp bh n m R:=
 ⟨zB h.hg,h.hr.kept (row:=none) ⟨rfl,rfl,rfl,by simp,fun k hk _=>Below.heap_alloc w o k hk⟩ Zs Zs,h.hl,h.hrl,h.hb.alloc h.hb.size o,h.gp,h.gh⟩
theorem GMem.put{V w2:World}{n m s g H d:Nat}{R:List (List Int)}{row row':List Int}{a:Option Addr}{o:Obj}(h:GMem V w bp bh n m R)(hs:R[s]? =some row)
 (hc:A w bp s (.slice a row.length d)) (hg:(w.alloc o).grownBy w2 (Value.slice a row.length d).ownBlock)
 (u:w2.ownsRow V.heap.size 3 1 (T g row'.length c) row'.length (row'.map zN)) (a0:(Value.slice a row.length d).ownBlock=some g∨g=H) (hH:w.heap.size<=H) (hm:row'.length<=m):
 GMem V (w2.setCell ⟨bp,s,none⟩ (T g row'.length c)) bp bh n m (R.set s row'):=by
 obtain⟨h1,h2,h3,a1,x,h5,h6⟩:=h;obtain⟨a',a2,l,i,_⟩:=h2.get hs;rw[hc] at l;cases l;have n1:=zC i h1 (.inr Zd);have t:=h2.put Zd hs hc hg (row':=row') u a0 hH;have l1:=lt_of_block h1;obtain⟨cc,j⟩:=h2.blk;have y:bh≠bp:=fun e=>by subst e;rw[h1] at j;simp at j
 exact⟨zR (zL hg (zB h1) n1) (by simpa using y),t,by simpa using h3,fun r hr=>by(rcases Qe hr with hr|rfl;exact a1 r hr;exact hm),((x.alloc (by have:=x.size;omega) o).grown hg (by have:=x.size;simp;omega) (fun k hk=>(i.lt k hk).1)).setCell h5 _,h5,h6⟩
section
variable {α:Type} {enc:α->Value} {e eS:TypeId} {w:World} {B bp:Nat} {rows:List (List α)}
theorem OwnRows.base (h:OwnRows enc e eS w B bp rows){B':Nat}(hB:B'<=B):OwnRows enc e eS w B' bp rows:=by
 obtain⟨vs,h1,h2,h3,c⟩:=h;exact⟨vs,h1,h2,fun k r v a b=>vY (h3 k r v a b) hB,c⟩
theorem OwnRows.below(h:OwnRows enc e eS w B bp rows)(hb:Y w w'):OwnRows enc e eS w' B bp rows:=by
 obtain⟨vs,h1,h2,h3,c⟩:=h;exact⟨vs,zH hb h1 (lt_of_block h1),h2,fun k r v a b=>p7 (h3 k r v a b) hb (Je _),c⟩
theorem OwnRows.set (h:OwnRows enc e eS w B bp rows){a:Addr}(c:a.block≠bp)(d:a.block<B)(u:Value):OwnRows enc e eS (w.setCell a u) B bp rows:=
 h.kept (w':=w.setCell a u) (row:=some a.block) ⟨rfl,rfl,rfl,by simp[World.setCell],fun k _ hk=>Below.heap_setCell _ _ _ _ (fun e=>hk (by rw[e]))⟩ (fun e=>c (by cases e;rfl)) (fun k hk=>by cases hk;exact d)
end
def be (w:World)(a:Rg)(e:Ending)(w':World):Prop:=e=.returned (.agg #[O (a.lo:Int),O (a.hi:Int)])/\Y w w'
theorem akT (x y:Nat):∀(ts:Array TypeId) (t:TypeId) (W:World),(Builtin.max_ ts t #[O x,O y]).run Tryz.prog W=.ok (O ((max x y:Nat):Int)) W:=fun ts t W=>by
 rw[run_max_int2,show(if(y:Int)>x then(y:Int) else x)=((max x y:Nat):Int) by split<;>omega]
theorem min16 (x y:Nat):∀(ts:Array TypeId) (t:TypeId) (W:World),(Builtin.min_ ts t #[O x,O y]).run Tryz.prog W=.ok (O ((min x y:Nat):Int)) W:=fun ts t W=>by
 rw[run_min_int2,show(if(y:Int)<x then(y:Int) else x)=((min x y:Nat):Int) by split<;>omega]
theorem full_any (w:World):I 39 #[] w (be w lf):=by
 go_enter Tryz.func39,Tryz.ntmps39;go_wp2;refine bodyPost_ret (v:=.agg #[O 0,O 65535]) ?_ rfl ?_
 ·rw[zM rfl];go_simp
 ·exact⟨rfl,Zx⟩
theorem aeH (w:World):I 39 #[] w (fun e w'=>e=.returned (.agg #[O 0,O 65535])/\Y w w'):=full_any w
theorem aiy (w:World)(n:Nat):I 122 #[O n] w (be w (ahH n)):=by
 go_enter Tryz.func122,Tryz.ntmps122;go_wp2;refine bodyPost_ret (v:=.agg #[O n,O n]) ?_ rfl ?_
 ·rw[zM rfl];go_simp
 ·exact⟨rfl,Zx⟩
theorem afD (w:World)(a:Rg):I 83 #[.agg #[O (a.lo:Int),O (a.hi:Int)]] w (fun e w'=>e=.returned (.bool (i7 a))/\Y w w'):=by
 obtain⟨q,hq⟩:∃q,i7 a=q:=⟨_,rfl⟩
 have hb:((a.lo:Int)==(a.hi:Int))=q:=by rw[<-hq];unfold i7;rw[Bool.eq_iff_iff,beq_iff_eq,decide_eq_true_eq];omega
 rw[hq];clear hq;go_enter Tryz.func83,Tryz.ntmps83;go_wp2;go_ret;exact⟨rfl,Zx⟩
theorem hull_any (w:World)(a b:Rg):I 92 #[.agg #[O (a.lo:Int),O (a.hi:Int)],.agg #[O (b.lo:Int),O (b.hi:Int)]] w (be w (aeM a b)):=by
 obtain⟨x,d⟩:∃x,min a.lo b.lo=x:=⟨_,rfl⟩
 obtain⟨y,c⟩:∃y,max a.hi b.hi=y:=⟨_,rfl⟩
 have h1:=min16 a.lo b.lo;have h2:=akT a.hi b.hi;rw[d] at h1;rw[c] at h2;have hr:aeM a b=⟨x,y⟩:=by unfold aeM;rw[d,c]
 rw[hr];clear d c hr;go_enter Tryz.func92,Tryz.ntmps92;go_wp2;refine bodyPost_ret (v:=.agg #[O x,O y]) ?_ rfl ?_
 ·rw[zM rfl];go_simp
 ·exact⟨rfl,Zx⟩
theorem agf (w:World){lo hi:Int}(hl:-70000000<=lo/\lo<=70000000)(l:-70000000<=hi/\hi<=70000000):I 71 #[U lo,U hi] w (be w (i6 lo hi)):=by
 obtain⟨x,g⟩:∃x,(lo%65536).toNat=x:=⟨_,rfl⟩
 obtain⟨y,d⟩:∃y,(hi%65536).toNat=y:=⟨_,rfl⟩
 have e1:IntKind.u16.wrap lo=(x:Int):=by rw[xY];omega
 have e2:IntKind.u16.wrap hi=(y:Int):=by rw[xY];omega
 by_cases h:lo/65536=hi/65536
 ·have hr:i6 lo hi=⟨x,y⟩:=by unfold i6;rw[if_pos h,g,d]
  have hb:(lo/65536 !=hi/65536)=false:=by simp[h]
  rw[hr];clear hr g d h;go_enter Tryz.func71,Tryz.ntmps71;go_wp2;refine bodyPost_ret (v:=.agg #[O x,O y]) ?_ rfl ⟨rfl,Zx⟩;rw[zM rfl];go_simp
 ·have hr:i6 lo hi=⟨0,65535⟩:=by unfold i6;rw[if_neg h];rfl
  have hb:(lo/65536 !=hi/65536)=true:=by simp[h]
  rw[hr];clear hr g d h;go_enter Tryz.func71,Tryz.ntmps71;go_wp2_with (go_at_call 39;go_must (refine(aeH _).mono ?_;rintro e w1 ⟨rfl,c⟩;have hk:Q w1 w.heap.size #[O 0,O 0] 45:=zH c (zI Zs) Zs;have f0:=zA (i:=0) hk rfl;have f1:=zA (i:=1) hk rfl;have g0:=zE (i:=0) hk;have g1:=zE (i:=1) hk;have j:=lt_of_block hk;have k:=Below.trans (show Y w _ from Zv) (c.mono Zy);clear c hk))
  refine bodyPost_ret (v:=.agg #[O 0,O 65535]) ?_ rfl ⟨rfl,Zx⟩;rw[zM rfl];go_simp
theorem agC (w:World){lo hi:Nat}(hl:lo<=hi)(j:hi<9223372036854775807):I 76 #[U lo,U hi] w (be w (i4 lo hi)):=by
 by_cases h:hi<=65535
 ·have hr:i4 lo hi=⟨lo,hi⟩:=by unfold i4;rw[if_pos h]
  have e1:IntKind.u16.wrap (lo:Int)=(lo:Int):=by rw[xY];omega
  have e2:IntKind.u16.wrap (hi:Int)=(hi:Int):=by rw[xY];omega
  have hb:¬(65535:Int)<(hi:Int):=Zo;rw[hr];clear hr h;go_enter Tryz.func76,Tryz.ntmps76;go_wp2;refine bodyPost_ret (v:=.agg #[O lo,O hi]) ?_ rfl ⟨rfl,Zx⟩;rw[zM rfl];go_simp
 ·have hr:i4 lo hi=⟨0,65535⟩:=by unfold i4;rw[if_neg h];rfl
  have hb:(65535:Int)<(hi:Int):=Zo;rw[hr];clear hr h;go_enter Tryz.func76,Tryz.ntmps76;go_wp2_with (go_at_call 39;go_must (refine(aeH _).mono ?_;rintro e w1 ⟨rfl,c⟩;have hk:Q w1 w.heap.size #[O 0,O 0] 45:=zH c (zI Zs) Zs;have f0:=zA (i:=0) hk rfl;have f1:=zA (i:=1) hk rfl;have g0:=zE (i:=0) hk;have g1:=zE (i:=1) hk;have d:=lt_of_block hk;have g:=Below.trans (show Y w _ from Zv) (c.mono Zy);clear c hk))
  refine bodyPost_ret (v:=.agg #[O 0,O 65535]) ?_ rfl ⟨rfl,Zx⟩;rw[zM rfl];go_simp
theorem aih (w:World){a b:Rg}(i:a.lo<65536/\a.hi<65536)(hb:b.lo<65536):I 84 #[.agg #[O (a.lo:Int),O (a.hi:Int)],.agg #[O (b.lo:Int),O (b.hi:Int)]] w (be w (ae0 a b)):=by
 by_cases h:b.lo=b.hi
 ·obtain⟨x,d⟩:∃x,a.lo/2^(b.lo%16)=x:=⟨_,rfl⟩
  obtain⟨y,c⟩:∃y,a.hi/2^(b.lo%16)=y:=⟨_,rfl⟩
  have hr:ae0 a b=⟨x,y⟩:=by unfold ae0 i7;rw[if_pos (by simpa using h),d,c]
  have hq:((b.lo:Int)==(b.hi:Int))=true:=by rw[beq_iff_eq];omega
  rw[hr];have g:=Ja (Jb d c);clear hr h d c;go_enter Tryz.func84,Tryz.ntmps84;go_wp2_with go_in;refine bodyPost_ret (v:=.agg #[O ((a.lo:Int)/2^(b.lo%16)),O ((a.hi:Int)/2^(b.lo%16))]) ?_ rfl ⟨by rw[<-g.out.1,<-g.out.2];simp,Zx⟩;rw[zM rfl];go_simp
 ·have hr:ae0 a b=⟨0,a.hi⟩:=by unfold ae0 i7;rw[if_neg (by simpa using h)]
  have hq:((b.lo:Int)==(b.hi:Int))=false:=Ze;rw[hr];clear hr h;go_enter Tryz.func84,Tryz.ntmps84;go_wp2_with go_in;refine bodyPost_ret (v:=.agg #[O 0,O (a.hi:Int)]) ?_ rfl ⟨rfl,Zx⟩;rw[zM rfl];go_simp
theorem agL (w:World)(p q:Bool):I 87 #[.bool p,.bool q] w (be w (if p=true then⟨1,1⟩ else if q=true then⟨0,0⟩ else⟨0,1⟩)):=by
 cases p
 ·cases q
  ·show I 87 #[.bool false,.bool false] w (be w ⟨0,1⟩)
   go_enter Tryz.func87,Tryz.ntmps87;go_wp2;refine bodyPost_ret (v:=.agg #[O 0,O 1]) ?_ rfl ⟨rfl,Zx⟩;rw[zM rfl];go_simp
  ·show I 87 #[.bool false,.bool true] w (be w ⟨0,0⟩)
   go_enter Tryz.func87,Tryz.ntmps87;go_wp2_with (go_at_call 122;go_must (refine(show I 122 #[O 0] _ (fun e w'=>e=.returned (.agg #[O 0,O 0])/\Below _ _ w') from aiy _ 0).mono ?_;rintro e w1 ⟨rfl,c⟩;have hk:Q w1 w.heap.size #[O 0,O 0] 45:=zH c (zI Zs) Zs;have f0:=zA (i:=0) hk rfl;have f1:=zA (i:=1) hk rfl;have g0:=zE (i:=0) hk;have g1:=zE (i:=1) hk;have d:=lt_of_block hk;have g:=Below.trans (show Y w _ from Zv) (c.mono Zy);clear c hk))
   refine bodyPost_ret (v:=.agg #[O 0,O 0]) ?_ rfl ⟨rfl,Zx⟩;rw[zM rfl];go_simp
 ·show I 87 #[.bool true,.bool q] w (be w ⟨1,1⟩)
  go_enter Tryz.func87,Tryz.ntmps87;go_wp2_with (go_at_call 122;go_must (refine(show I 122 #[O 1] _ (fun e w'=>e=.returned (.agg #[O 1,O 1])/\Below _ _ w') from aiy _ 1).mono ?_;rintro e w1 ⟨rfl,c⟩;have hk:Q w1 w.heap.size #[O 0,O 0] 45:=zH c (zI Zs) Zs;have f0:=zA (i:=0) hk rfl;have f1:=zA (i:=1) hk rfl;have g0:=zE (i:=0) hk;have g1:=zE (i:=1) hk;have d:=lt_of_block hk;have g:=Below.trans (show Y w _ from Zv) (c.mono Zy);clear c hk))
  refine bodyPost_ret (v:=.agg #[O 1,O 1]) ?_ rfl ⟨rfl,Zx⟩;rw[zM rfl];go_simp
theorem ai6(w:World){y:Nat}(hx:x<65536)(u:y<65536):I 80 #[O x,O y] w (fun e w'=>e=.returned (O ((aeK (max x y):Nat):Int))/\w=w'):=by
 obtain⟨z,o⟩:∃z,max x y=z:=⟨_,rfl⟩
 have h1:=akT x y;rw[o] at h1 ⊢;have l:z<65536:=Zo;have c:=akF l;have i:=Ja (Jb (akD z) (Jb c (agz z)));clear o hx u c;go_enter Tryz.func80,Tryz.ntmps80;go_wp2
 go_loop [5] (fun mv=>∃m k:Nat,mv=U m/\m+1=2^k/\m<=aeK z) (fun mv=>(65536-intOf mv).toNat)
 case atStart=>exact⟨0,0,rfl,rfl,Jt _⟩
 case round=>
  obtain⟨m,k,rfl,hk,hm⟩:=hrel;have d:=i.out.2.1;have HK:=Ja (Jb hk hm);have a2:m<65536:=Zo
  by_cases g:m<z
  ·have h:(m:Int)<(z:Int):=Zo
   have t:2*m+1<=aeK z:=by
    obtain⟨j,h3,h4,_⟩:=i.out.2.2;have h5:=i.out.1;have h6:k<j:=(Nat.pow_lt_pow_iff_right (a:=2) Zd).1 Zo;have h7:=Nat.pow_le_pow_right (show 0<2 by decide) (show k+1<=j by omega);rw[Nat.pow_succ] at h7;omega
   have HN:=Ja t;clear hk hm d t g;go_wp2
   go_round
   case rel=>exact⟨2*m+1,k+1,by go_num,by have:=HK.out.1;rw[Nat.pow_succ];omega,HN.out⟩
   case measure=>simp[intOf];omega
  ·have h:¬(m:Int)<(z:Int):=Zo
   have a1:aeK z=m:=by
    have:=mask_min z m k hk Zo;omega
   have a0:IntKind.u16.wrap (m:Int)=(m:Int):=by rw[xY];omega
   clear g hk hm d;go_wp2;go_ret;exact⟨rfl,rfl⟩
theorem neg_any (w:World){a b:Rg}(d:a.ok)(hb:b.ok):I 70 #[.agg #[O (a.lo:Int),O (a.hi:Int)],.agg #[O (b.lo:Int),O (b.hi:Int)]] w (be w (i6 (-(a.hi:Int)) (-(a.lo:Int)))):=by
 have o:=d.1;have m:=d.2;have c:=hb.1;have l:=hb.2;obtain⟨⟨x,y⟩,hr⟩:∃r,i6 (-(a.hi:Int)) (-(a.lo:Int))=r:=⟨_,rfl⟩
 rw[hr]
 have g:∀W,I 71 #[U (-(a.hi:Int)),U (-(a.lo:Int))] W (fun e w'=>e=.returned (.agg #[O x,O y])/\Y W w'):=fun W=>by
  have:=agf W (lo:=-(a.hi:Int)) (hi:=-(a.lo:Int)) Zo Zo;rw[hr] at this;exact this
 have h:=Ja g;clear g hr d hb;go_enter Tryz.func70,Tryz.ntmps70;go_wp2_with (go_at_call 71;go_must (refine(h.out _).mono ?_;rintro e w1 ⟨rfl,c⟩;have hk:Q w1 (w.heap.size+1+1) #[O 0,O 0] 45:=zH c (zI Zs) Zs;have f0:=zA (i:=0) hk rfl;have f1:=zA (i:=1) hk rfl;have g0:=zE (i:=0) hk;have g1:=zE (i:=1) hk;have j:=lt_of_block hk;have k:=Below.trans (show Y w _ from Zv) (c.mono Zy);clear c hk))
 refine bodyPost_ret (v:=.agg #[O x,O y]) ?_ rfl ⟨rfl,Zx⟩;rw[zM rfl];go_simp
theorem add_any (w:World){a b:Rg}(d:a.ok)(hb:b.ok):I 73 #[.agg #[O (a.lo:Int),O (a.hi:Int)],.agg #[O (b.lo:Int),O (b.hi:Int)]] w (be w (i6 ((a.lo:Int)+b.lo) ((a.hi:Int)+b.hi))):=by
 have o:=d.1;have m:=d.2;have c:=hb.1;have l:=hb.2;obtain⟨⟨x,y⟩,hr⟩:∃r,i6 ((a.lo:Int)+b.lo) ((a.hi:Int)+b.hi)=r:=⟨_,rfl⟩
 rw[hr]
 have g:∀W,I 71 #[U ((a.lo:Int)+(b.lo:Int)),U ((a.hi:Int)+(b.hi:Int))] W (fun e w'=>e=.returned (.agg #[O x,O y])/\Y W w'):=fun W=>by
  have:=agf W (lo:=(a.lo:Int)+b.lo) (hi:=(a.hi:Int)+b.hi) Zo Zo;rw[hr] at this;exact this
 have h:=Ja g;clear g hr d hb;go_enter Tryz.func73,Tryz.ntmps73;go_wp2_with (go_at_call 71;go_must (refine(h.out _).mono ?_;rintro e w1 ⟨rfl,c⟩;have hk:Q w1 (w.heap.size+1+1) #[O 0,O 0] 45:=zH c (zI Zs) Zs;have f0:=zA (i:=0) hk rfl;have f1:=zA (i:=1) hk rfl;have g0:=zE (i:=0) hk;have g1:=zE (i:=1) hk;have j:=lt_of_block hk;have k:=Below.trans (show Y w _ from Zv) (c.mono Zy);clear c hk))
 refine bodyPost_ret (v:=.agg #[O x,O y]) ?_ rfl ⟨rfl,Zx⟩;rw[zM rfl];go_simp
theorem sub_any (w:World){a b:Rg}(d:a.ok)(hb:b.ok):I 74 #[.agg #[O (a.lo:Int),O (a.hi:Int)],.agg #[O (b.lo:Int),O (b.hi:Int)]] w (be w (i6 ((a.lo:Int)-b.hi) ((a.hi:Int)-b.lo))):=by
 have o:=d.1;have m:=d.2;have c:=hb.1;have l:=hb.2;obtain⟨⟨x,y⟩,hr⟩:∃r,i6 ((a.lo:Int)-b.hi) ((a.hi:Int)-b.lo)=r:=⟨_,rfl⟩
 rw[hr]
 have g:∀W,I 71 #[U ((a.lo:Int)-(b.hi:Int)),U ((a.hi:Int)-(b.lo:Int))] W (fun e w'=>e=.returned (.agg #[O x,O y])/\Y W w'):=fun W=>by
  have:=agf W (lo:=(a.lo:Int)-b.hi) (hi:=(a.hi:Int)-b.lo) Zo Zo;rw[hr] at this;exact this
 have h:=Ja g;clear g hr d hb;go_enter Tryz.func74,Tryz.ntmps74;go_wp2_with (go_at_call 71;go_must (refine(h.out _).mono ?_;rintro e w1 ⟨rfl,c⟩;have hk:Q w1 (w.heap.size+1+1) #[O 0,O 0] 45:=zH c (zI Zs) Zs;have f0:=zA (i:=0) hk rfl;have f1:=zA (i:=1) hk rfl;have g0:=zE (i:=0) hk;have g1:=zE (i:=1) hk;have j:=lt_of_block hk;have k:=Below.trans (show Y w _ from Zv) (c.mono Zy);clear c hk))
 refine bodyPost_ret (v:=.agg #[O x,O y]) ?_ rfl ⟨rfl,Zx⟩;rw[zM rfl];go_simp
theorem mul_any (w:World){a b:Rg}(h:a.ok)(hb:b.ok):I 75 #[.agg #[O (a.lo:Int),O (a.hi:Int)],.agg #[O (b.lo:Int),O (b.hi:Int)]] w (be w (i4 (a.lo*b.lo) (a.hi*b.hi))):=by
 have k:=h.1;have g:=h.2;have c:=hb.1;have d:=hb.2;obtain⟨⟨x,y⟩,hr⟩:∃r,i4 (a.lo*b.lo) (a.hi*b.hi)=r:=⟨_,rfl⟩
 rw[hr];have u:a.lo*b.lo<=65535*65535:=Nat.mul_le_mul Zo Zo;have t:a.hi*b.hi<=65535*65535:=Nat.mul_le_mul g d;have o:IntKind.i64.wrap ((a.lo:Int)*(b.lo:Int))=(a.lo:Int)*(b.lo:Int):=by rw[<-Int.natCast_mul];exact Om _ ⟨by omega,by omega⟩
 have m:IntKind.i64.wrap ((a.hi:Int)*(b.hi:Int))=(a.hi:Int)*(b.hi:Int):=by rw[<-Int.natCast_mul];exact Om _ ⟨by omega,by omega⟩
 have j:∀W,I 76 #[U ((a.lo:Int)*(b.lo:Int)),U ((a.hi:Int)*(b.hi:Int))] W (fun e w'=>e=.returned (.agg #[O x,O y])/\Y W w'):=fun W=>by
  have:=agC W (lo:=a.lo*b.lo) (hi:=a.hi*b.hi) (Nat.mul_le_mul k c) (by have:=Nat.mul_le_mul g d;omega);rw[hr,Int.natCast_mul,Int.natCast_mul] at this;exact this
 have l:=Ja j;clear j hr h hb;go_enter Tryz.func75,Tryz.ntmps75;go_wp2_with (go_at_call 76;go_must (refine(l.out _).mono ?_;rintro e w1 ⟨rfl,c⟩;have hk:Q w1 (w.heap.size+1+1) #[O 0,O 0] 45:=zH c (zI Zs) Zs;have f0:=zA (i:=0) hk rfl;have f1:=zA (i:=1) hk rfl;have g0:=zE (i:=0) hk;have g1:=zE (i:=1) hk;have a0:=lt_of_block hk;have a1:=Below.trans (show Y w _ from Zv) (c.mono Zy);clear c hk))
 refine bodyPost_ret (v:=.agg #[O x,O y]) ?_ rfl ⟨rfl,Zx⟩;rw[zM rfl];go_simp
theorem and_any (w:World){a b:Rg}(c:a.ok)(hb:b.ok):I 78 #[.agg #[O (a.lo:Int),O (a.hi:Int)],.agg #[O (b.lo:Int),O (b.hi:Int)]] w (be w (⟨0,min a.hi b.hi⟩)):=by
 have i:=c.1;have h:=c.2;have g:=hb.1;have d:=hb.2;have h1:=min16 a.hi b.hi;obtain⟨m,hm⟩:∃m,min a.hi b.hi=m:=⟨_,rfl⟩
 rw[hm] at h1 ⊢;clear hm c hb;go_enter Tryz.func78,Tryz.ntmps78;go_wp2;refine bodyPost_ret (v:=.agg #[O 0,O m]) ?_ rfl ⟨rfl,Zx⟩;rw[zM rfl];go_simp
theorem lts_any (w:World){a b:Rg}(c:a.ok)(hb:b.ok):I 89 #[.agg #[O (a.lo:Int),O (a.hi:Int)],.agg #[O (b.lo:Int),O (b.hi:Int)]] w (be w (⟨0,1⟩)):=by
 have i:=c.1;have h:=c.2;have g:=hb.1;have d:=hb.2;go_enter Tryz.func89,Tryz.ntmps89;go_wp2;refine bodyPost_ret (v:=.agg #[O 0,O 1]) ?_ rfl ⟨rfl,Zx⟩;rw[zM rfl];go_simp
theorem aiq (w:World){a b:Rg}(c:a.ok)(hb:b.ok):I 90 #[.agg #[O (a.lo:Int),O (a.hi:Int)],.agg #[O (b.lo:Int),O (b.hi:Int)]] w (be w (⟨0,255⟩)):=by
 have i:=c.1;have h:=c.2;have g:=hb.1;have d:=hb.2;go_enter Tryz.func90,Tryz.ntmps90;go_wp2;refine bodyPost_ret (v:=.agg #[O 0,O 255]) ?_ rfl ⟨rfl,Zx⟩;rw[zM rfl];go_simp
theorem ajs (w:World){a b:Rg}(c:a.ok)(hb:b.ok):I 91 #[.agg #[O (a.lo:Int),O (a.hi:Int)],.agg #[O (b.lo:Int),O (b.hi:Int)]] w (be w (⟨0,255⟩)):=by
 have i:=c.1;have h:=c.2;have g:=hb.1;have d:=hb.2;go_enter Tryz.func91,Tryz.ntmps91;go_wp2;refine bodyPost_ret (v:=.agg #[O 0,O 255]) ?_ rfl ⟨rfl,Zx⟩;rw[zM rfl];go_simp
theorem not_any (w:World){a b:Rg}(g:a.ok)(hb:b.ok):I 72 #[.agg #[O (a.lo:Int),O (a.hi:Int)],.agg #[O (b.lo:Int),O (b.hi:Int)]] w (be w ⟨65535-a.hi,65535-a.lo⟩):=by
 have j:=g.1;have i:=g.2;have e1:=not16 a.hi Zo;have e2:=not16 a.lo Zo;obtain⟨x,d⟩:∃x,65535-a.hi=x:=⟨_,rfl⟩
 obtain⟨y,c⟩:∃y,65535-a.lo=y:=⟨_,rfl⟩
 rw[d,c];rw[d] at e1;rw[c] at e2;have q:=Ja (Jb e1 e2);clear g hb d c e1 e2;go_enter Tryz.func72,Tryz.ntmps72;go_wp2;refine bodyPost_ret (v:=.agg #[O (bits .xor .u16 IntKind.u16.max (a.hi:Int)),O (bits .xor .u16 IntKind.u16.max (a.lo:Int))]) ?_ rfl ⟨by rw[q.out.1,q.out.2],Zx⟩;rw[zM rfl];go_simp
theorem or_any (w:World){a b:Rg}(d:a.ok)(hb:b.ok):I 79 #[.agg #[O (a.lo:Int),O (a.hi:Int)],.agg #[O (b.lo:Int),O (b.hi:Int)]] w (be w ⟨max a.lo b.lo,aeK (max a.hi b.hi)⟩):=by
 have a0:=d.1;have u:=d.2;have t:=hb.1;have o:=hb.2;have h1:=akT a.lo b.lo;have j:=Ja (fun W=>ai6 W (x:=a.hi) (y:=b.hi) Zo Zo);obtain⟨x,h⟩:∃x,max a.lo b.lo=x:=⟨_,rfl⟩
 obtain⟨y,g⟩:∃y,aeK (max a.hi b.hi)=y:=⟨_,rfl⟩
 rw[g] at j ⊢;rw[h] at h1 ⊢;clear h g d hb;go_enter Tryz.func79,Tryz.ntmps79;go_upto_region 1 with fail;have c:=Ja (show Y w (((w.alloc (G #[O (a.lo:Int),O (a.hi:Int)] 45)).alloc (G #[O (b.lo:Int),O (b.hi:Int)] 45)).alloc (G #[O 0,O 0] 45))/\Q (((w.alloc (G #[O (a.lo:Int),O (a.hi:Int)] 45)).alloc (G #[O (b.lo:Int),O (b.hi:Int)] 45)).alloc (G #[O 0,O 0] 45)) w.heap.size #[O (a.lo:Int),O (a.hi:Int)] 45/\Q (((w.alloc (G #[O (a.lo:Int),O (a.hi:Int)] 45)).alloc (G #[O (b.lo:Int),O (b.hi:Int)] 45)).alloc (G #[O 0,O 0] 45)) (w.heap.size+1) #[O (b.lo:Int),O (b.hi:Int)] 45/\Q (((w.alloc (G #[O (a.lo:Int),O (a.hi:Int)] 45)).alloc (G #[O (b.lo:Int),O (b.hi:Int)] 45)).alloc (G #[O 0,O 0] 45)) (w.heap.size+1+1) #[O 0,O 0] 45 from⟨Zx,zB (zB (zI rfl)),zB (zI Zs),zI Zs⟩);generalize ((w.alloc (G #[O (a.lo:Int),O (a.hi:Int)] 45)).alloc (G #[O (b.lo:Int),O (b.hi:Int)] 45)).alloc (G #[O 0,O 0] 45)=X at *;have k:=Ja (show ∀W,Y X W->A W w.heap.size 0 (O (a.lo:Int))/\A W w.heap.size 1 (O (a.hi:Int))/\A W (w.heap.size+1) 0 (O (b.lo:Int))/\A W (w.heap.size+1) 1 (O (b.hi:Int)) from fun W hb=>⟨zA (zH hb c.out.2.1 (lt_of_block c.out.2.1)) rfl,zA (zH hb c.out.2.1 (lt_of_block c.out.2.1)) rfl,zA (zH hb c.out.2.2.1 (lt_of_block c.out.2.2.1)) rfl,zA (zH hb c.out.2.2.1 (lt_of_block c.out.2.2.1)) rfl⟩);obtain⟨c0,c1,c2,c3⟩:=k.out X (Below.refl _ _);have hk:=c.out.2.2.2;have f0:=zA (i:=0) hk rfl;have f1:=zA (i:=1) hk rfl;have g0:∀i,N X (w.heap.size+1+1) i:=fun i=>zE (i:=i) hk;have m:=lt_of_block hk;have l:=Ja c.out.1;clear hk
 go_region_held3 (fun w'=>A w' w.heap.size 0 (O (a.lo:Int))/\A w' w.heap.size 1 (O (a.hi:Int))/\A w' (w.heap.size+1) 0 (O (b.lo:Int))/\A w' (w.heap.size+1) 1 (O (b.hi:Int))) ((first|exact⟨c0,c1,c2,c3⟩|(go_simp;done)|(refine⟨?_,?_,?_,?_⟩<;>go_simp)))
  ((go_at_call 80;refine(j.out _).mono ?_;rintro e w1 ⟨rfl,rfl⟩))
 all_goals go_wp2_with fail
 all_goals (refine bodyPost_ret (v:=.agg #[O x,O y]) ?_ rfl ⟨rfl,by repeat' (first|exact l.out|(refine Below.drew ?_)|(refine Below.setCell ?_ (by first|(simp;done)|omega|(simp;omega)) _))⟩;rw[zM rfl];go_simp)
theorem xor_any (w:World){a b:Rg}(c:a.ok)(hb:b.ok):I 81 #[.agg #[O (a.lo:Int),O (a.hi:Int)],.agg #[O (b.lo:Int),O (b.hi:Int)]] w (be w (⟨0,aeK (max a.hi b.hi)⟩)):=by
 have k:=c.1;have j:=c.2;have i:=hb.1;have h:=hb.2;have g:=Ja (fun W=>ai6 W (x:=a.hi) (y:=b.hi) Zo Zo);obtain⟨y,d⟩:∃y,aeK (max a.hi b.hi)=y:=⟨_,rfl⟩
 rw[d] at g ⊢;clear d c hb;go_enter Tryz.func81,Tryz.ntmps81;go_wp2_with (go_at_call 80;go_must (refine(g.out _).mono ?_;rintro e w1 ⟨rfl,rfl⟩))
 refine bodyPost_ret (v:=.agg #[O 0,O y]) ?_ rfl ⟨rfl,Zx⟩;rw[zM rfl];go_simp
open Go.RowKit Go.Maps Go.ChangeMaps
theorem wA.entry{b n:Nat}{g:Int->Option Int}(h:wA w b n g)(hn:n<9000000000000000000){kx vv:Int}(k:I64 kx)(b0:I64 vv)(b1:g kx=none):
 ∃(st:Nat) (w1 w2:World),(Instr.mapEntry 171 (.map (some b)) (.int .i64 kx)).run Tryz.prog w=.ok (.tuple #[.int .i64 0,goInt st]) w1/\w.grownBy w1 (some b)/\
  (Instr.entryStore 171 (.map (some b)) (goInt st) (.int .i64 vv)).run Tryz.prog w1=.ok () w2/\wA w2 b (n+1) (lS g kx vv)/\w.grownBy w2 (some b):=by
 have t:=h.lookOk k;rw[b1] at t
 have a4:∃w',(Instr.mapUpdate 171 (.map (some b)) (.int .i64 kx) (.int .i64 vv)).run Tryz.prog w=.ok () w'/\wA w' b (n+1) (lS g kx vv)/\w.grownBy w' (some b):=by
  obtain⟨D,h,hf⟩:=h;obtain⟨w',a3,a5,u⟩:=h.update xH Tryz.underlying171 (by unfold maxLen;omega) (vB k) (plainElem_int Tryz.underlying3 (wf64' b0));refine⟨w',a3,⟨_,a5,fun y hy=>?_⟩,u⟩;have a1:WideAt.IsKeyLit (.int .i64 kx):=xH.key (vB k)
  by_cases e:y=kx
  ·subst e;simp only[lS,if_true];exact⟨Maps.atKey_put_same h.isMap a1 _ _,Maps.has_put_same h.isMap a1 _⟩
  ·simp only[lS,if_neg e];rw[Maps.atKey_put_other (by simpa using e),Maps.has_put_other (by simpa using e)];exact hf y hy
 obtain⟨w3,m,hP,u⟩:=a4;obtain⟨D,h,hf⟩:=h;obtain⟨es,d,hb,F,hs,rfl⟩:=h;obtain⟨s1,s2,_⟩:=F.stamped;rcases xH.find w (vB k) es.toList F.keys with⟨h1,h2⟩|⟨j,e0,h1,h2,h3⟩
 ·have a7:(es.push ⟨.int .i64 kx,.int .i64 0,d⟩).findIdx? (fun e=>((e.born:Nat):Int)==((d:Nat):Int))=some es.size:=by
   rw[WideElems.findIdx_arr];refine WideElems.findIdx_born (l:=(es.push ⟨.int .i64 kx,.int .i64 0,d⟩).toList) (j:=es.size) (e0:=⟨.int .i64 kx,.int .i64 0,d⟩) ?_ Zs;simp only[Array.toList_push,Js,Ql,List.map_nil];refine Qq.2 ⟨s2,by simp,fun a ha c hc e1=>?_⟩;simp only[Jo] at hc;obtain⟨x,hx,rfl⟩:=Nu.1 ha;have:=s1 x hx;omega
  have a6:(es.push ⟨.int .i64 kx,.int .i64 0,d⟩).modify es.size (fun e=> {e with val:=.int .i64 vv })=es.push ⟨.int .i64 kx,.int .i64 vv,d⟩:=by
   apply Array.ext';rw[Array.toList_modify,Array.toList_push,Array.toList_push,<-Array.length_toList,WideElems.modify_last]
  have a0:=heap_setBlock_same hb (.map (es.push ⟨.int .i64 kx,.int .i64 0,d⟩) (d+1))
  have e3:w3=setBlock w b (.map (es.push ⟨.int .i64 kx,.int .i64 vv,d⟩) (d+1)):=by
   simp[Instr.mapUpdate,run_underlying Tryz.underlying171,MapKept.run_getObj_map hb,xH.check w false (vB k),h1,MapKept.run_setObj_map _ hb,Result.andThen] at m;exact m.symm
  have a2:∀o,w.grownBy (setBlock w b o) (some b):=fun o=>⟨rfl,rfl,rfl,by simp[setBlock],fun i _ hi=>heap_setBlock_other hb _ (fun e=>hi (by rw[e]))⟩
  refine⟨d,setBlock w b (.map (es.push ⟨.int .i64 kx,.int .i64 0,d⟩) (d+1)),setBlock (setBlock w b (.map (es.push ⟨.int .i64 kx,.int .i64 0,d⟩) (d+1))) b (.map (es.push ⟨.int .i64 kx,.int .i64 vv,d⟩) (d+1)),?_,a2 _,?_,?_,?_⟩
  ·simp[Instr.mapEntry,run_underlying Tryz.underlying171,MapKept.run_getObj_map hb,xH.check w false (vB k),h1,px,MapKept.run_setObj_map _ hb,Result.andThen,setBlock]
  ·generalize setBlock w b (.map (es.push ⟨.int .i64 kx,.int .i64 0,d⟩) (d+1))=W1 at a0 ⊢;simp[Instr.entryStore,MapKept.run_getObj_map a0,asInt,asIntOf,goInt,a7,a6,MapKept.run_setObj_map _ a0,Result.andThen,setBlock]
  ·refine hP.same ?_;rw[heap_setBlock_same a0,e3,heap_setBlock_same hb]
  ·have e4:setBlock (setBlock w b (.map (es.push ⟨.int .i64 kx,.int .i64 0,d⟩) (d+1))) b (.map (es.push ⟨.int .i64 kx,.int .i64 vv,d⟩) (d+1))=setBlock w b (.map (es.push ⟨.int .i64 kx,.int .i64 vv,d⟩) (d+1)):=by simp[setBlock]
   rw[e4];exact a2 _
 ·exfalso;simp[Instr.lookup,run_underlying Tryz.underlying171,MapKept.run_getObj_map hb,xH.check w es.isEmpty (vB k),h1,Result.andThen] at t
theorem jV(hv:zw g)(hr:∀x,x<g.length->Reach (GE g) x)(j:c<g.length):
 (pP g c=-1/\∀d,d≠c->wE g d c=false)∨∃c':Nat,pP g c=(c':Int)/\c'<g.length/\(∀d,d≠c->wE g d c'=wE g d c)/\wh (vD g) c'<wh (vD g) c:=by
 rcases idomOf hv c with⟨h1,h2⟩|⟨c',h1,h2,h3,m⟩
 ·exact .inl ⟨h1,fun d hd=>by cases h:wE g d c with|false=>rfl|true=>exact(h2 d hd h).elim⟩
 ·have hb:=(yO hv c' c).1 h3;refine .inr ⟨c',h1,(cA hv h3).1,fun d hd=>?_,?_⟩
  ·rw[Bool.eq_iff_iff];constructor
   ·intro h;have k:=(yO hv d c').1 h;exact(yO hv d c).2 ⟨k.1,hr c j,oZ k.2.2 hb.2.2⟩
   ·intro h;exact(yO hv d c').2 ⟨((yO hv d c).1 h).1,hb.1,m d hd h⟩
  ·obtain⟨ns,i⟩:=adR hv;obtain⟨D,l⟩:=i.dom;rw[i.eq];have hm:=l.dom_mem ((i.mem c).2 (hr c j)) hb.2.2;rcases Nat.lt_or_eq_of_le hm.2 with h|h
   ·exact h
   ·exact absurd (ou i.nodup hm.1 ((i.mem c).2 (hr c j)) h) h2
theorem lC(hv:zw g)(hr:∀x,x<g.length->Reach (GE g) x)(d:c<g.length):wE g c c=true:=(yO hv c c).2 ⟨hr c d,hr c d,rF _ _⟩
def nS (g:List (List Nat))(db i:Nat)(x:Int):Prop:=(x=-1/\wE g db i=false)∨∃c:Nat,x=(c:Int)/\c<g.length/\wE g db c=wE g db i
def oQ (g:List (List Nat))(x:Int):Nat:=if x=-1 then 0 else wh (vD g) x.toNat+1
theorem lT(hv:zw g)(hr:∀x,x<g.length->Reach (GE g) x){db:Nat}(j:c<g.length)(h:wE g db c=wE g db i)(d:c≠db):
 ∃y,(wQ g)[c]? =some y/\nS g db i y/\oQ g y<oQ g c:=by
 refine⟨pP g c,by unfold wQ;rw[Jr,Oh j];rfl,?_⟩;rcases jV hv hr j with⟨h1,h2⟩|⟨c',h1,h2,h3,k⟩
 ·rw[h1];refine⟨.inl ⟨rfl,by rw[<-h];exact h2 db (Ne.symm d)⟩,?_⟩;unfold oQ;rw[if_pos rfl,if_neg Zo];omega
 ·rw[h1];refine⟨.inr ⟨c',rfl,h2,by rw[h3 db (Ne.symm d)];exact h⟩,?_⟩;unfold oQ;rw[if_neg Zo,if_neg Zo,Ni,Ni];omega
theorem j8 (g:List (List Nat)):(wQ g).length=g.length:=by simp[wQ]
theorem case_dfd:∀q1 q2:Bool,(q1=true/\q2=true)∨(q1=true/\q2=false)∨(q1=false)
 |true,true=> .inl ⟨rfl,rfl⟩
 |true,false=> .inr (.inl ⟨rfl,rfl⟩)
 |false,_=> .inr (.inr rfl)
theorem qI{C m1 m2 n:Nat}{pv:List Value}{e3 b8:Value}{d:wO}(hc:ChkAt w C m1 m2 pv e3 b8 n d)(hv:zw g)(hr:∀x,x<g.length->Reach (GE g) x)(e7:g.length<=2000000)
 (a5:zY w w.heap.size b8 (wQ g)) (hd:∀v b,d.1 v=some b->0<=b/\b.toNat<g.length) {l:List Int} {lv:Value} (hl:zY w w.heap.size lv l) (i:Nat) (hi:i<g.length) (k:Int) (hk:I64 k):
 I 119 #[F C,lv,U i,U k] w (ym w (l.all (yy d g i k))):=by
 obtain⟨la,lc,rfl,d6,d5⟩:=hl.form;obtain⟨da,dc,rfl,c7,d7⟩:=a5.form;rw[j8] at a5 c7 hc;have e6:l.length<=9223372036854775807:=Zo;obtain⟨hb,d3,c5,c4,d4,b3⟩:=hc
 obtain⟨p0,p1,p2,p3,p4,p5,rfl⟩:∃a b c d e f,pv=[a,b,c,d,e,f]:=by
  match pv,d3 with
  | [a,b,c,d,e,f],_=>exact⟨a,b,c,d,e,f,rfl⟩
 have e9:A w C 7 (.map (some m1)):=zA hb rfl;have e8:A w C 8 (.map (some m2)):=zA hb rfl;have f0:A w C 9 (.slice da g.length dc):=zA hb rfl;have u:=Ja (show wA w m1 n d.1/\wA w m2 n d.2/\(∀x,(d.1 x).isSome=(d.2 x).isSome)/\zw g/\(∀x,x<g.length->Reach (GE g) x)/\(∀v b,d.1 v=some b->0<=b/\b.toNat<g.length)/\i<g.length from⟨c5,c4,b3,hv,hr,hd,hi⟩);have HL:=Ja (show zY w w.heap.size (.slice la l.length lc) l/\zY w w.heap.size (.slice da g.length dc) (wQ g) from⟨hl,a5⟩);obtain⟨res,a1⟩:∃x,l.all (yy d g i k)=x:=⟨_,rfl⟩
 rw[a1];have t:=Ja a1;clear a1 hb c5 c4 d4 b3 hv hr hd hi hl a5 d6 d5 c7 d7;go_enter Tryz.func119,Tryz.ntmps119;generalize e2:w=W0 at *;clear e2;go_wp2
 go_loopw [16] (fun jv wx=>∃j:Nat,j<=l.length/\jv=U j/\wx=W0/\Hid ((l.take j).all (yy d g i k)=true)) (fun jv _=>l.length-(intOf jv).toNat)
 case atStart=>exact⟨0,Jt _,rfl,rfl,by rfl⟩
 case round=>
  obtain⟨j,hj,rfl,rfl,HJ⟩:=hrel;generalize e1:wr=W0 at *;clear e1
  by_cases a4:j<l.length
  ·have c9:(j:Int)<l.length:=Zo;have c8:=Ja a4;obtain⟨v,a3⟩:∃v,l[j]? =some v:=⟨_,Jd a4⟩
   obtain⟨b,o,rfl,hb,b7,a7⟩:=HL.out.1.get a3;rw[Nk] at b7;have b0:=u.out.1.lookOk a7;have b1:=u.out.2.1.look a7;have HT:=Ja (show(l.take (j+1)).all (yy d g i k)=((l.take j).all (yy d g i k) && yy d g i k v)/\(yy d g i k v=false->l.all (yy d g i k)=false) from⟨xX _ a3,fun h=>aaN _ a3 h⟩);clear a3 hb a4
   cases h1:d.1 v with
   |none=>
    rw[h1] at b0;have HN:=Ja (show yy d g i k v=false by unfold yy;rw[h1]);clear h1 b1;go_wp2;go_ret
    exact⟨uz (t.out.symm.trans (HT.out.2 HN.out)),Below.refl _ _⟩
   |some bz=>
    obtain⟨az,h2⟩:∃a,d.2 v=some a:=by
     have:=u.out.2.2.1 v;rw[h1] at this
     cases h:d.2 v with
     |none=>rw[h] at this;cases this
     |some a=>exact⟨a,rfl⟩
    obtain⟨e0,b6⟩:=u.out.2.2.2.2.2.1 v bz h1;obtain⟨db,rfl⟩:∃m:Nat,bz=(m:Int):=⟨bz.toNat,by omega⟩
    rw[Ni] at b6;rw[h1] at b0;rw[h2] at b1;simp only[Ot,Option.isSome_some] at b0 b1;have b2:yy d g i k v=(!(decide ((db:Int)=(i:Int)) && decide (k<=az)) && wE g db i):=by unfold yy;rw[h1,h2];rfl
    obtain⟨q1,a0⟩:∃q,decide ((db:Int)=(i:Int))=q:=⟨_,rfl⟩
    obtain⟨q2,d2⟩:∃q,decide (k<=az)=q:=⟨_,rfl⟩
    rw[a0,d2] at b2;have t1:(db==i)=q1:=by rw[<-a0];simp only[Bool.beq_eq_decide_eq,Int.natCast_inj]
    have d1:((db:Int)==(i:Int))=q1:=vu a0;have d0:decide (db=i)=q1:=zZ a0 Zo;have HK:=Ja (show yy d g i k v=(!(q1 && q2) && wE g db i)/\db<g.length from⟨b2,b6⟩);clear h1 h2 b2 e0 b6 a0;rcases case_dfd q1 q2 with⟨rfl,rfl⟩|⟨rfl,rfl⟩|rfl
    ·have HN:=Ja (show yy d g i k v=false from HK.out.1);go_wp2;go_ret;exact⟨uz (t.out.symm.trans (HT.out.2 HN.out)),Below.refl _ _⟩
    all_goals (
     have HN:=Ja (show yy d g i k v=wE g db i from by rw[HK.out.1];rfl);have e4:=Ja (show nS g db i (i:Int) from .inr ⟨i,rfl,u.out.2.2.2.2.2.2,rfl⟩);go_wp2
     go_loopw [13] (fun xv wx=>∃x:Int,xv=U x/\W0=wx/\Hid (nS g db i x)) (fun xv _=>oQ g (intOf xv))
     case atStart=>exact⟨_,rfl,rfl,e4⟩
     case round=>
      obtain⟨x,rfl,rfl,HX⟩:=hrel;rcases HX.out with⟨rfl,c3⟩|⟨c,rfl,b4,a6⟩
      ·have u1:((-1:Int) !=(db:Int))=true:=by rw[bne_iff_ne];omega
       have HF:=Ja (HN.out.trans c3);clear c3;go_wp2;go_ret;exact⟨uz (t.out.symm.trans (HT.out.2 HF.out)),Below.refl _ _⟩
      ·by_cases b5:c=db
       ·subst b5;have HY:=Ja (show yy d g i k v=true by rw[HN.out,<-a6];exact lC u.out.2.2.2.1 u.out.2.2.2.2.1 b4);have u1:((c:Int) !=(c:Int))=false:=by rw[bne_eq_false_iff_eq]
        clear a6 b4 t1 d1 d0;go_wp2;go_roundw
        case rel=>exact⟨j+1,c8.out,by go_num,by trivial,Ja (by rw[HT.out.1,HJ.out,HY.out];rfl)⟩
        case measure=>have:=c8.out;simp[intOf];omega
       ·have u1:((c:Int) !=(db:Int))=true:=by rw[bne_iff_ne];omega
        have u2:((c:Int) !=-1)=true:=by rw[bne_iff_ne];omega
        obtain⟨y,hy,c2,c0⟩:=lT u.out.2.2.2.1 u.out.2.2.2.2.1 b4 a6 b5;obtain⟨b9,o9,rfl,d9,d8,_⟩:=HL.out.2.get hy;rw[Nk] at d8;have HY:=Ja (Jb c2 c0);have e5:(c:Int)<g.length:=Zo;clear a6 b5 hy c2 c0 d9;go_wp2;go_roundw
        case rel=>exact⟨y,rfl,by trivial,Ja HY.out.1⟩
        case measure=>have:=HY.out.2;simpa[intOf] using this)
  ·obtain rfl:j=l.length:=by omega
   have c9:¬(l.length:Int)<l.length:=Zo;have a2:=HJ.out;rw[Nl] at a2;have HA:=Ja a2;clear a4 a2;go_wp2;go_ret;exact⟨uz (t.out.symm.trans HA.out),Below.refl _ _⟩
def cG (x:Int):Int:=wrap64 (x+1)
def qK (n:Int)(l:List Int):Int:=l.foldl (fun n v=>max n (cG v)) n
def o8 (n:Int)(l:List IOp):Int:=l.foldl (fun n o=>max n (cG o.res)) n
def iL (n:Int)(b:IBlk):Int:=o8 (qK n b.params) b.ops
def aaG (blocks:List IBlk):Int:=blocks.foldl iL 0
theorem wt{α β:Type}(f:β->α->β)(z:β){l:List α}{x:α}(h:l[k]? =some x):(l.take (k+1)).foldl f z=f ((l.take k).foldl f z) x:=by
 rw[Nh,h,List.foldl_append];rfl
theorem mZ (a b:Int):(if a<b then b else a)=max a b:=by
 rw[Int.max_def]
 split<;>split<;>omega
def afl (w:World)(x:Int)(e:Ending)(w':World):Prop:=e=.returned (U x)/\Y w w'
theorem ajA{B:Nat}{c2:Value}{blocks:List IBlk}(b1:wX w B c2 blocks)(hB:B<=w.heap.size)(hs:vZ blocks):
 I 36 #[.agg #[c2]] w (afl w (aaG blocks)):=by
 obtain⟨fa,fc,rfl,f4,f2⟩:=b1.form;have f1:=hs.1;have h:=Ja (Jb b1 (Jb hB hs));have b8:Y w (w.alloc (G #[.slice fa blocks.length fc] 39)):=(Below.refl _ _).alloc (Je _) _;have u:=zI (W:=w) (o:=G #[.slice fa blocks.length fc] 39) rfl;obtain⟨fb,a7⟩:∃fb,w.heap.size=fb:=⟨_,rfl⟩
 clear b1 hB hs;go_enter Tryz.func36,Tryz.ntmps36;go_upto_region 1 with fail;generalize d6:w.alloc (G #[.slice fa blocks.length fc] 39)=W1 at *;rw[a7] at u;have c:=Ja (Jb b8 (Jb u a7));have c1:=zA (i:=0) u rfl;have e0:=lt_of_block u;clear b8 u d6 a7;go_wp2
 go_loopw [3,13] (fun nv kv wx=>∃(k:Nat) (n:Int),k<=blocks.length/\nv=U n/\kv=U k/\Hid (n=(blocks.take k).foldl iL 0/\Y W1 wx)) (fun _ kv _=>blocks.length-(intOf kv).toNat)
 case atStart=>exact⟨0,0,Jt _,rfl,rfl,Ja ⟨rfl,Below.refl _ _⟩⟩
 case round=>
  obtain⟨k,n,hk,rfl,rfl,g⟩:=hrel;have a2:=zH g.out.2 c.out.2.1 (lt_of_block c.out.2.1);have c0:=zA (i:=0) a2 rfl;have f3:=lt_of_block a2
  by_cases b4:k<blocks.length
  ·have c7:(k:Int)<(blocks.length:Int):=Zo;obtain⟨b,hb⟩:∃b,blocks[k]? =some b:=⟨_,Jd b4⟩
   have b6:wX wr B (.slice fa blocks.length fc) blocks:=(h.out.1.below yT ((c.out.1.trans (g.out.2.mono c.out.1.size)).mono h.out.2.1))
   obtain⟨bb,bo,d2,d4,g2,g3,h64,pv,ov,tv,g0,g1,g4,a0,a1,a4⟩:=b6.get hb;obtain⟨pa,pc,rfl,e7,e5⟩:=a0.form;obtain⟨oa,oc,rfl,f0,e8⟩:=a1.form;obtain⟨ta,tc,rfl,e4,e2⟩:=a4.form;have e1:bb<wr.heap.size:=Jy d4 (by have:=h.out.2.1;have:=(c.out.1.trans (g.out.2.mono c.out.1.size)).size;omega);have b0:=h.out.2.2.2 b (Ji hb);have y:Y wr (wr.alloc (G #[.slice pa b.params.length pc,.slice oa b.ops.length oc,U b.term.kind,U b.term.a,.slice ta b.term.to.length tc] 84)):=(Below.refl _ _).alloc (Je _) _;have t:=zI (W:=wr) (o:=G #[.slice pa b.params.length pc,.slice oa b.ops.length oc,U b.term.kind,U b.term.a,.slice ta b.term.to.length tc] 84) rfl;subst d2;have e6:=b0.1;have e9:=b0.2.1;obtain⟨tb,a5⟩:∃tb,wr.heap.size=tb:=⟨_,rfl⟩
   have HT:=Ja a5;clear b6 b0;go_upto_region 5 with fail;generalize d5:wr.alloc (G #[.slice pa b.params.length pc,.slice oa b.ops.length oc,U b.term.kind,U b.term.a,.slice ta b.term.to.length tc] 84)=W5 at *;rw[a5] at t;have t0:=zA (i:=0) t rfl;have t1:=zA (i:=1) t rfl;have e3:=lt_of_block t;have d3:∀q,B<=q->Below q wr W5->True:=fun _ _ _=>trivial
   have b2:=(a0.below zO (y.mono (show B<=wr.heap.size by have:=h.out.2.1;have:=(c.out.1.trans (g.out.2.mono c.out.1.size)).size;omega)))
   have b3:=(a1.below xA (y.mono (show B<=wr.heap.size by have:=h.out.2.1;have:=(c.out.1.trans (g.out.2.mono c.out.1.size)).size;omega)))
   have b7:=g.out.2.trans (y.mono g.out.2.size);have H5:=Ja (Jb b2 (Jb b3 (Jb b7 hb)));have f5:B<=wr.heap.size:=by have:=h.out.2.1;have:=(c.out.1.trans (g.out.2.mono c.out.1.size)).size;omega
   have d8:wr.heap.size<=W5.heap.size:=y.size;have c8:B<=W5.heap.size:=Zo;clear d3 b2 b3 b7 hb a0 a1 a4 y t g0 g1 g2 g3 g4 h64 a2 a5 d5;go_wp2
   go_loop [3,20] (fun nv jv=>∃(j:Nat) (m:Int),j<=b.params.length/\nv=U m/\jv=U j/\Hid (m=qK n (b.params.take j))) (fun _ jv=>b.params.length-(intOf jv).toNat)
   case atStart=>exact⟨0,n,Jt _,rfl,rfl,Ja rfl⟩
   case round=>
    obtain⟨j,m,hj,rfl,rfl,l⟩:=hrel
    by_cases d:j<b.params.length
    ·have b5:(j:Int)<(b.params.length:Int):=Zo;obtain⟨x,hx⟩:∃x,b.params[j]? =some x:=⟨_,Jd d⟩
     obtain⟨pb,po,a6,d1,d0,c3⟩:=H5.out.1.get hx;rw[Nk] at d0;subst a6;have c5:pb<W5.heap.size:=Zo;have HX:=Ja hx;clear hx c3;go_wp2
     go_round
     case rel=>
      refine⟨j+1,_,d,rfl,by go_num,Ja ?_⟩;unfold qK;rw[wt _ _ HX.out,mZ,l.out];rfl
     case measure=>simp[intOf];omega
    ·obtain rfl:j=b.params.length:=by omega
     have b5:¬(b.params.length:Int)<(b.params.length:Int):=Zo;have d7:=Ja (show m=qK n b.params by rw[l.out,Nl]);clear hj l d;go_wp2
     go_loopw [3,32] (fun nv jv wx=>∃(j:Nat) (m2:Int),j<=b.ops.length/\nv=U m2/\jv=U j/\Hid (m2=o8 m (b.ops.take j)/\Y W5 wx)) (fun _ jv _=>b.ops.length-(intOf jv).toNat)
     case atStart=>exact⟨0,m,Jt _,rfl,rfl,Ja ⟨rfl,Below.refl _ _⟩⟩
     case round=>
      obtain⟨j,m2,hj,rfl,rfl,l⟩:=hrel
      by_cases d:j<b.ops.length
      ·have b5:(j:Int)<(b.ops.length:Int):=Zo;obtain⟨x,hx⟩:∃x,b.ops[j]? =some x:=⟨_,Jd d⟩
       have a3:=H5.out.2.1.below xA (l.out.2.mono c8);obtain⟨pb,po,a6,d1,x0,x1,x2,x3,x4,c9,av,x5,b9⟩:=a3.get hx;obtain⟨aa,ac,rfl,_,_⟩:=b9.form;subst a6;have c4:=l.out.2.size;have c5:pb<wr.heap.size:=Zo;have HX:=Ja hx;clear hx a3 b9 c9;go_wp2;go_roundw
       case rel=>
        refine⟨j+1,_,d,rfl,by go_num,Ja ⟨?_,l.out.2.alloc c4 _⟩⟩;unfold o8;rw[wt _ _ HX.out,mZ,l.out.1];rfl
       case measure=>simp[intOf];omega
      ·obtain rfl:j=b.ops.length:=by omega
       have d9:¬(b.ops.length:Int)<(b.ops.length:Int):=Zo;clear hj d;go_wp2;go_roundw
       case rel=>
        refine⟨k+1,m2,b4,rfl,by go_num,Ja ⟨?_,H5.out.2.2.1.trans (l.out.2.mono H5.out.2.2.1.size)⟩⟩;rw[wt _ _ H5.out.2.2.2,<-g.out.1,l.out.1,Nl,d7.out];rfl
       case measure=>simp[intOf];omega
  ·obtain rfl:k=blocks.length:=by omega
   have c7:¬(blocks.length:Int)<(blocks.length:Int):=Zo;clear a2;go_wp2;go_ret;refine⟨?_,c.out.1.trans (g.out.2.mono c.out.1.size)⟩;rw[g.out.1,Nl];rfl
end Go.Proofs.YtoahcpkibpomcaaGreat
